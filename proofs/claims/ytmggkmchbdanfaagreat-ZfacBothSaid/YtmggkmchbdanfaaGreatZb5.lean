/- What a proof needs: rules of walking, mirrors of functions and their plain laws. No condition. -/
import Derived.Test.YtmggkmchbdanfaaGreatZb4
set_option linter.unusedVariables false
set_option linter.unusedSimpArgs false
namespace Go.Proofs.YtmggkmchbdanfaaGreat
open Bool renaming false_eq_true->xak,not_true->xdL
open Classical renaming byContradiction->xac,not_forall->xfH,not_imp->xfq
open Int renaming add_comm->xfA,add_emod->xdN,add_zero->xbD,dvd_mul_left->xcQ,dvd_mul_right->xco,dvd_neg->xfP,dvd_of_emod_eq_zero->xaJ,dvd_refl->xdO,dvd_sub->xdp,dvd_trans->xbG,dvd_zero->xcP,emod_emod->xaF,emod_emod_of_dvd->xcH,emod_eq_emod_iff_emod_sub_eq_zero->xaK,emod_eq_of_lt->xaC,emod_eq_zero_of_dvd->xaB,emod_lt_of_pos->xdx,emod_nonneg->xcV,eq_ofNat_of_zero_le->xaA,fdiv->xfS,fdiv_eq_ediv_of_nonneg->xeK,le_refl->xfr,lt_trichotomy->xeJ,mul_add->xeY,mul_assoc->xbK,mul_comm->xbo,mul_dvd_mul->xfO,mul_emod->xbr,mul_le_mul_of_nonneg_right->xbz,mul_neg->xeC,mul_nonneg->xcD,mul_one->xcl,mul_zero->xaw,natAbs_mul->xch,natAbs_natCast->xbe,natCast_add->xdX,natCast_nonneg->xdf,one_mul->xce,pow_succ->xbn,sub_mul->xfQ,sub_self->xdc,sub_zero->xcG,tdiv->xde,tmod->xcc,toNat_natCast->xaE,zero_add->xcF,zero_emod->xag,zero_mul->xaV
open Lib renaming bitLen->xeZ
open List renaming append_assoc->xaj,cons_append->xbI,drop->xdz,drop_eq_getElem_cons->xcz,drop_eq_nil_of_le->xcm,eq_nil_of_length_eq_zero->xbt,ext_getElem->xeS,ext_getElem?->xcA,getD_cons_succ->xel,getD_eq_getElem?_getD->H1,getElem?_eq_getElem->xaa,getElem?_eq_none->xaH,getElem?_map->xaT,getElem?_range->xby,getElem?_replicate->xfd,getElem?_set->xdZ,getElem?_take->xcp,getElem_mem->xbk,length_append->xax,length_cons->xaq,length_drop->xbN,length_eq_zero_iff->xbF,length_map->xaP,length_nil->xbR,length_range->xcC,length_replicate->xaZ,length_set->xcL,length_take->xav,map_congr_left->xcj,mem_append->Nm,mem_cons->xad,mem_cons_of_mem->UV,mem_cons_self->FS,mem_iff_getElem->xdA,mem_map->xap,mem_of_mem_take->xdU,mem_range->xbf,nil_append->xbA,not_mem_nil->IR,range->xbb,range_succ->xdu,replicate->xaf,set_append_right->xfy,take->xdt,take_add_one->xeI,take_append_drop->xbH,take_length->xcy,take_of_length_le->xaQ,take_succ_cons->xeh
open Nat renaming add_assoc->xcR,add_comm->xds,add_mul->xaR,add_mul_div_left->xcE,add_mul_mod_self_left->xbW,add_sub_cancel->xeu,add_zero->xbS,div_add_mod->xbB,div_div_eq_div_mul->xaL,div_eq_of_lt->xbv,div_le_self->xdY,div_lt_iff_lt_mul->xbc,div_lt_self->xeB,div_mul_le_self->xdo,div_one->xdT,eq_zero_of_not_pos->xes,eq_zero_or_pos->xcv,gcd->xem,gcd_comm->xeE,le_add_right->xbO,le_antisymm->xcU,le_div_iff_mul_le->xcw,le_max_left->xec,le_max_right->xdK,le_mul_of_pos_left->xdm,le_of_lt->xcS,le_of_not_lt->xbw,le_refl->xab,le_succ->xcd,le_trans->xan,lt_of_le_of_lt->xba,lt_of_lt_of_le->xal,lt_of_not_le->xdy,lt_or_ge->xcf,lt_succ_self->xca,min_eq_left->xcN,mod_add_div->xff,mod_eq_of_lt->xar,mod_lt->xbi,mul_add->xbh,mul_assoc->xaX,mul_comm->xaU,mul_div_mul_right->xfz,mul_le_mul->xbJ,mul_le_mul_left->xaD,mul_le_mul_right->xat,mul_lt_mul''->xdJ,mul_lt_mul_of_pos_right->xbX,mul_mod_mul_right->xeD,mul_one->xcI,mul_zero->xcO,not_lt_zero->xbl,one_mul->xcb,pos_of_ne_zero->xcJ,pow_add->xbY,pow_le_pow_right->xaz,pow_lt_pow_right->xeN,pow_mul->xda,pow_pos->xbj,pow_succ->xbd,pow_succ'->xek,pow_zero->xef,strongRecOn->xdr,sub_le->xfp,sub_self->xdb,zero_add->xaN,zero_le->xah,zero_lt_succ->xfG,zero_mul->xcs
section
variable{a b:List Nat}{k fu x:Nat}
theorem zB{α β:Type}{f:(β->Option α)->β->Option α}(I:β->Prop)(m:β->Nat)(r:α)
 (step:∀s L,I s->(∀s',I s'->m s'<m s->L s'=some r)->f L s=some r):∀(n:Nat) (s:β),I s->m s<n->zm f n s=some r
 |0,s,_,h=>absurd h<|xbl _
 |n+1,s,hI,h=>step s _ hI fun s' ha hm=>zB I m r step n s' ha<|by omega
theorem Tz(h:zo a):a.take (yF<|nv a).length=yF (nv a):=by
 refine gX (h.take _) (zx _) (by rw[xav];have:=yV h;omega) ?_;rw[om h,ya];exact xar<|(zK _ _).1<|xab _
theorem eE(hk:k+1<=a.length)(h0:a.getD k 0=0):nv (a.take k)=nv (a.take<|k+1):=by
 rw[qg,h0];simp
theorem gb(h:zo a)(hk:k+1<=a.length)(h0:a.getD k 0≠0):yF (nv<|a.take<|k+1)=a.take (k+1):=by grind [Hl,zo.take,xav]
theorem yZ(h:zo a)(hl:a.length<=17592186044416)(hf:a.length<fu):yP fu a=some (yF<|nv a):=by
 unfold yP;rw[zd (v:=yF<|nv a)];refine zB (fun l=>zo l/\nv l=nv a/\l.length<=17592186044416) (fun l=>l.length) _ ?_ _ _ ⟨h,rfl,hl⟩ hf;rintro l L ⟨hL,hn,hk⟩ ih;unfold ZC;by_cases h0:0<(l.length:Int)
 ·obtain⟨k,ha⟩:∃k,l.length=k+1:=⟨l.length-1,by omega⟩;have e1:(l.length:Int)-1=(k:Int):=by omega
  rw[iq h0,e1,ze,yp,zj];by_cases h1:l.getD k 0=0
  ·rw[iq (by rw[h1]),ze,yI,yL,zj];refine ih _ ⟨hL.take _,?_,by rw[xav];omega⟩ (by rw[xav];omega);rw[eE (by omega) h1,<-ha,xcy,hn]
  ·rw[zC,<-hn];have:=gb hL (k:=k) (by omega) h1;rw[<-ha,xcy]at this;rw[this]
 ·rw[ir h0,<-hn];have:l=[]:=xbF.1 (by omega);rw[this];rfl
theorem xD(h:zo a)(hl:a.length<=17592186044416)(hf:a.length<fu):xz fu a=some (yF<|nv a):=by
 have:=yZ h hl hf;unfold yP ZC at this;unfold xz a7;exact this
theorem YX(h:zo a)(hl:a.length<=17592186044416:=by omega)(hf:a.length<fu:=by omega):uQ fu a=some (yF<|nv a):=by grind [uQ,xG,yF,nv,zd,xD,wE,yV]
theorem Ku(h:zo a)(hl:a.length<=17592186044416)(hf:a.length<fu):Zs fu a=some (yF<|nv a):=by
 unfold Zs;have h5:=yV h;rw[zd (v:=((yF<|nv a).length:Int)),yI,wE h5,zj,Tz h,wE (by simp;omega),zj];rfl;refine zB (fun i:Int=>0<=i/\i<=a.length/\nv (a.take i.toNat)=nv a) (fun i=>i.toNat) _ ?_ _ _ ⟨by omega,by omega,by simp⟩ (by omega);rintro i L ⟨h0,h1,hn⟩ ih;obtain⟨k,rfl⟩:=xaA h0;unfold UK;simp only[xaE]at*
 by_cases hk:0<(k:Int)
 ·obtain⟨j,rfl⟩:∃j,k=j+1:=⟨k-1,by omega⟩;have e1:((j+1:Nat):Int)-1=(j:Int):=by omega
  rw[iq hk,e1,ze,yp,zj];by_cases h2:a.getD j 0=0
  ·rw[iq (by rw[h2]),ze];refine ih _ ⟨by omega,by omega,?_⟩ (by omega);rw[xaE,eE (by omega) h2,hn]
  ·rw[zC,<-hn,gb h (by omega) h2,xav];congr 1;omega
 ·rw[ir hk,<-hn];have:k=0:=by omega
  subst this;rfl
theorem HS(x:Nat):x &&& 4294967295=x%4294967296:=Nat.and_two_pow_sub_one_eq_mod x 32
theorem CD:min (((32:Nat):Int)).toNat 64=32:=by decide
theorem Xy{y:Nat}(hx:x<18446744073709551616)(hy:y<18446744073709551616):vT fu x y=some (x*y/18446744073709551616,x*y%18446744073709551616):=by
 unfold vT;simp only[nm,HS,CD];obtain⟨b1,b2,b3,b4⟩:=zeI hx hy;have e:=TW x y;generalize hA:(x%4294967296)*(y%4294967296)=A at*
 generalize hB:(x/2^32)*(y%4294967296)=B at*
 generalize hC:(x%4294967296)*(y/2^32)=C at*
 generalize hD:(x/2^32)*(y/2^32)=D at*
 have hz:x*y<18446744073709551616*18446744073709551616:=xdJ hx hy;generalize x*y=z at*
 congr 2;omega
theorem qO{n:Nat}{f:Int->Nat->Option (Nat×Nat)}{step:Nat->Nat->Nat×Nat}(hn:n<=17179869184)(hf:n<fu)(h:∀k,k<n->f (k:Int) (wg step k).2=some (step k (wg step k).2)):vb fu n f=some (wg step n):=by
 unfold vb;rw[yI,yL,zj,zd (v:=((wg step n).2,(wg step n).1))];refine zB (fun s:Nat×Int×List Nat=>∃k:Nat,k<=n/\s=((wg step k).2,(k:Int),(wg step k).1++xaf (n-k) 0)) (fun s=>n-s.2.1.toNat) _ ?_ _ _ ⟨0,by omega,rfl⟩ (by simpa using hf);rintro s L ⟨k,hk,rfl⟩ ih;unfold Km;simp only[xaZ];by_cases h1:(k:Int)<(n:Int)
 ·have hl:(wg step k).1.length=k:=xL step k;rw[iq h1,zd (h k<|by omega),zw (by simp[hl];omega),zj,ze];refine ih _ ⟨k+1,by omega,?_⟩ (by show n-((k:Int)+1).toNat<n-((k:Int)).toNat;omega);rw[zfi hl<|by omega];rfl
 ·rw[ir h1];obtain rfl:k=n:=by omega
  simp
theorem Xc(a:List Nat)(hl:a.length<=9223372036854775807):Xl fu a (k:Int)=some (a.getD k 0):=by grind [Xl,zw,zj,xaH]
theorem kK(ha:zo a)(hb:zo b)(hd:a.length<=8589934592:=by omega)(he:b.length<=8589934592:=by omega)(hf:max a.length b.length+1<fu:=by omega):
 kX fu a b=some (yF<|nv a+nv b):=by
 unfold kX;have e:max (a.length:Int) (b.length:Int)=((max a.length b.length:Nat):Int):=by omega
 have hc:∀k,(wg (mG a b) k).2<=1:=by
  intro k
  induction k with
  |zero=>exact xah _
  |succ k ih=>exact LP ha hb ih
 rw[zj,e,zd<|qO (step:=mG a b) (by omega) (by omega) ?_]
 ·have hl:=xL (mG a b)<|max a.length b.length;show ck _ _=_;rw[wE (by simp[hl];omega),zj,zd (yZ ?_ (by simp[hl];omega)<|by simp[hl];omega),Tb (by omega)<|by omega];exact(pA a b _).2.append<|zo.cons (by have:=hc<|max a.length b.length;omega) zo.nil
 ·intro k hk;unfold Um;rw[zd (Xc a<|by omega),zd (Xc b<|by omega),wE<|hc k];rfl
theorem Wv(ha:zo a)(hb:zo b)(hd:a.length<=8589934592)(he:b.length<=8589934592)(hf:max a.length b.length+1<fu):
 W7 fu a b=some (if nv a<nv b then([],1)else(yF<|nv a-nv b,0)):=by
 unfold W7;have e:max (a.length:Int) (b.length:Int)=((max a.length b.length:Nat):Int):=by omega
 have hc:∀k,(wg (QY a b) k).2<=1:=by
  intro k
  cases k with
  |zero=>exact xah _
  |succ k=>exact sE a b k _
 rw[zj,e,zd<|qO (step:=QY a b) (by omega) (by omega) ?_]
 ·have hl:=xL (QY a b)<|max a.length b.length;have hs:=BJ ha hb (xec a.length b.length)<|xdK a.length b.length;simp only;by_cases h:nv a<nv b
  ·rw[iq (by have:=hs.2 h;omega),iq h]
  ·rw[ir (by intro h1;exact h<|hs.1<|by omega),ir h,zd (yZ (pS ha hb (xec a.length b.length)<|xdK a.length b.length).2.1 (by omega)<|by omega),Sb ha hb (xec _ _) (xdK _ _) h]
 ·intro k hk;unfold KY;rw[zd (Xc a<|by omega),zd (Xc b<|by omega),wE<|hc k];rfl
theorem QC(ha:zo a)(hb:zo b)(hc:a.length<=8589934592)(hd:b.length<=8589934592)(hf:max a.length b.length+1<fu)(h:nv b<=nv a):
 YE fu a b=some (yF<|nv a-nv b):=by grind [YE,zd,Wv]
theorem NR{a:List Nat}{x:Nat}(ha:zo a)(hx:x<18446744073709551616):∀k,(wg (Jt a x) k).2<18446744073709551616
 |0=>xfG _
 |k+1=>LK ha hx<|NR ha hx k
theorem Rh{a c:Nat}(ha:a<18446744073709551616)(hx:x<18446744073709551616)(hc:c<18446744073709551616):
 ((a*x%18446744073709551616+c)%18446744073709551616,(a*x/18446744073709551616+(a*x%18446744073709551616+c)/18446744073709551616)%18446744073709551616)=((a*x+c)%18446744073709551616,(a*x+c)/18446744073709551616):=by
 have:=gx ha hx hc;generalize a*x=z at*
 congr 1<;>omega
theorem JA(ha:zo a)(hx:x<18446744073709551616)(hb:a.length<=8589934592:=by omega)(hf:a.length<fu:=by omega):W3 fu a x=some (wb (a.length+1)<|nv a*x):=by
 unfold W3;rw[zd<|qO (step:=Jt a x) (by omega) hf ?_]
 ·have hl:=xL (Jt a x) a.length;simp only;rw[wE (by simp[hl];omega),zj,Iv<|NR ha hx _]
 ·intro k hk;unfold K8;rw[zw hk,zj,zd<|Xy (ha.getD k) hx];simp only[nm,xbS];exact congrArg some<|Rh (ha.getD k) hx<|NR ha hx k
theorem Vt{n:Nat}(hn:n<=1099511627776:=by omega)(hl:a.length<=1099511627776:=by omega):Zk fu a (n:Int)=some (xaf n 0++a):=by grind [Zk,yI,wE,zj]
theorem FC{n:Nat}{t3 t4 t6:List Nat}{i2:Int}(ha:zo a)(hb:zo b)(hk:k<b.length)(hn:n=a.length+b.length+1)(hj:n<=17179869184)(h6:t6=wb (a.length+1) (nv a*b.getD k 0))(hf:a.length+1<fu):
 zm (Vm fu (k:Int) t3 t4 i2 t6) fu (0,0,wb n<|nv a*nv (b.take k),t6)=some (wb n<|nv a*nv (b.take<|k+1)):=by
 have hl:t6.length=a.length+1:=by rw[h6,zS]
 have hg:zo t6:=h6▸xJ _ _;have hB:nv a*nv (b.take k)<18446744073709551616^n:=xal (We ha hb) (xaz (by decide)<|by omega);have h0:nv (wb n<|nv a*nv (b.take k))=nv a*nv (b.take k):=by rw[jc,xar hB]
 refine zB (fun s:Nat×Int×List Nat×List Nat=>∃(c i:Nat) (o:List Nat),s=(c,(i:Int),o,t6)/\i<=t6.length/\c<=1/\zo o/\o.length=n/\nv o+18446744073709551616^(k+i)*c=nv a*nv (b.take k)+18446744073709551616^k*nv (t6.take i))
  (fun s=>a.length+1-s.2.1.toNat) _ ?_ _ _ ⟨0,0,_,rfl,by omega,by omega,xJ _ _,zS _ _,by rw[h0];simp[nv]⟩ (by simpa using hf)
 rintro s L ⟨c,i,o,rfl,hi,hc,hd,he,ho⟩ ih;unfold Vm;simp only;by_cases h1:i<t6.length
 ·rw[zP,zd rfl];simp only[if_true];have e:(k:Int)+(i:Int)=((k+i:Nat):Int):=by omega
  rw[zw h1,zj,e,ze,ze,yp,zj,wE hc,zj,zj,yp,zj,ze];refine ih _ ⟨_,i+1,_,rfl,by omega,?_,hd.set _ (xbi _<|by decide),by rw[xcL,he],?_⟩ (by show a.length+1-((i:Int)+1).toNat<a.length+1-(i:Int).toNat;omega)
  ·have:=hd.getD<|k+i;have:=hg.getD i;omega
  ·have:=S7 (o:=o) (o0:=wb n<|nv a*nv (b.take k)) (r:=t6) (j:=k) (i:=i) (c:=c) (by omega) (by rw[h0];exact ho);rw[h0]at this;exact this
 ·rw[zC,zd rfl];simp only[xak,if_false];subst h6;refine congrArg some<|gX hd (xJ _ _) (by rw[he,zS]) ?_;rw[GD ha hb (k:=k) (i:=i) (c:=c) (p:=o) (o:=wb n<|nv a*nv (b.take k)) (by omega) (by omega) h0 (by rw[h0];exact ho),jc,xar];exact xal (We ha hb)<|xaz (by decide)<|by omega
theorem nj(ha:zo a)(hb:zo b)(hc:a.length<=4294967296)(hd:b.length<=4294967296)(hf:a.length+b.length+1<fu):
 Wx fu a b=some (yF<|nv a*nv b):=by
 unfold Wx;have e1:(a.length:Int)+(b.length:Int)=((a.length+b.length:Nat):Int):=by omega
 have e2:((a.length+b.length:Nat):Int)+1=((a.length+b.length+1:Nat):Int):=by omega
 have hB:nv a*nv b<18446744073709551616^(a.length+b.length+1):=by
  have:=We (k:=b.length) ha hb;rw[xcy]at this;exact xal this<|xaz (by decide)<|by omega
 rw[e1,ze,e2,ze,yI,yL,zj,zd (v:=wb (a.length+b.length+1)<|nv a*nv b)]
 ·rw[zd (yZ (xJ _ _) (by rw[zS];omega)<|by rw[zS];omega),jc,xar hB]
 ·refine zB (fun s:Int×List Nat=>∃k:Nat,k<=b.length/\s=((k:Int),wb (a.length+b.length+1)<|nv a*nv (b.take k))) (fun s=>b.length-s.1.toNat) _ ?_ _ _ ⟨0,by omega,by simp[nv,BK]⟩ (by simp;omega);rintro s L ⟨k,hk,rfl⟩ ih;unfold KS;simp only;by_cases h1:k<b.length
  ·rw[zP,zd rfl];simp only[if_true];rw[zw h1,zj,zd (JA ha (hb.getD k) (by omega)<|by omega),zd (FC ha hb h1 rfl (by omega) rfl<|by omega),ze];exact ih _ ⟨k+1,by omega,rfl⟩ (by show b.length-((k:Int)+1).toNat<b.length-(k:Int).toNat;omega)
  ·rw[zC,zd rfl];simp only[xak,if_false];obtain rfl:k=b.length:=by omega
   rw[xcy]
end
theorem Mh(n:Nat):xde (n:Int) 2=((n/2:Nat):Int):=rfl
theorem Uv(x h:Nat):(yF<|nv<|(yF x).take h).length<=h:=by grind [yV,zo.take,zx,xav]
theorem Uy(x h:Nat):(yF<|nv<|(yF x).drop h).length<=(yF x).length-h:=by grind [yV,zo.drop,zx,xbN]
theorem WV:∀{fu:Nat}{a b:List Nat},zo a->zo b->a.length<=1073741824->b.length<=1073741824->4*(a.length+b.length)+64<=fu->W2 fu a b=some (yF<|nv a*nv b)
 |0,a,b,_,_,_,_,hf=>by lia
 |fu+1,a,b,ha,hb,hk,hl,hf=>by
  have h1:=yV ha;have h2:=yV hb;show bd _ _=_;rw[zd (xD ha (by lia)<|by lia),zd<|xD hb (by lia)<|by lia];have eA:nv (yF<|nv a)=nv a:=ya _;have eB:nv (yF<|nv b)=nv b:=ya _;generalize hx:nv a=x at*
  generalize hy:nv b=y at*
  generalize hp:(yF x).length=p at*
  generalize hq:(yF y).length=q at*
  have e1:min (p:Int) (q:Int)=((min p q:Nat):Int):=by lia
  rw[zj,e1];by_cases h8:((min p q:Nat):Int)<8
  ·rw[iq h8,zd (nj (zx x) (zx y) (by lia) (by lia)<|by lia),eA,eB]
  ·rw[ir h8];have e2:max (p:Int) (q:Int)=((max p q:Nat):Int):=by lia
   rw[zj,e2,Mh,ze];obtain⟨h,hh⟩:∃h,h=max p q/2:=⟨_,rfl⟩;have e3:∀l:Nat,min (h:Int) (l:Int)=((min h l:Nat):Int):=by intro l;lia
   rw[<-hh];simp only[nm,e3,yI];rw[wE (by decide),yL];have tx:(yF x).take (min h p)=(yF x).take h:=by rw[<-hp];exact IA h
   have dx:(yF x).drop (min h p)=(yF x).drop h:=by rw[<-hp];exact GA h
   have ty:(yF y).take (min h q)=(yF y).take h:=by rw[<-hq];exact IA h
   have dy:(yF y).drop (min h q)=(yF y).drop h:=by rw[<-hq];exact GA h
   rw[tx,ty,dx,dy];have lx0:=Uv x h;have ly0:=Uv y h;have lx1:((yF x).drop h).length=p-h:=by rw[xbN,hp]
   have ly1:((yF y).drop h).length=q-h:=by rw[xbN,hq]
   have lx2:=Uy x h;have ly2:=Uy y h;rw[zd (xD ((zx x).take h) (by rw[xav];lia)<|by rw[xav];lia),yL,yL,zd (xD ((zx y).take h) (by rw[xav];lia)<|by rw[xav];lia),yL];have X1:=(zx x).drop h;obtain⟨m,hm⟩:∃m,m=max p q:=⟨_,rfl⟩;have f1:p<=m:=by lia
   have f2:q<=m:=by lia
   have f3:m+8<=p+q:=by lia
   have f4:2*h<=m:=by lia
   have f5:m<=2*h+1:=by lia
   clear hh hm h8 e1 e2 e3 tx ty dx dy;have g1:p-h<=m-h:=by lia
   have g2:q-h<=m-h:=by lia
   have g3:h<=m-h:=by lia
   replace lx2:=xan lx2<|hp.symm▸g1;replace ly2:=xan ly2<|hq.symm▸g2;have lx3:((yF x).drop h).length<=m-h:=lx1▸g1;have ly3:((yF y).drop h).length<=m-h:=ly1▸g2;clear lx1 ly1 g1 g2;have Y1:=(zx y).drop h;generalize he:nv ((yF x).take h)=x0 at*
   generalize hg:nv ((yF y).take h)=y0 at*
   generalize hi:(yF x).drop h=dX at*
   generalize hj:(yF y).drop h=dY at*
   generalize hc:nv dX=x1 at*
   generalize hd:nv dY=y1 at*
   have s1:=Zg (x:=x0) (y:=x1) (k:=m-h) (by lia) (by lia);have s2:=Zg (x:=y0) (y:=y1) (k:=m-h) (by lia) (by lia);have kle:=zd3 x0 x1 y0 y1;rw[zd<|WV (fu:=fu) (zx x0) (zx y0) (by lia) (by lia)<|by lia];rw[zd<|WV (fu:=fu) X1 Y1 (by lia) (by lia)<|by lia];rw[zd<|kK (zx x0) X1,zd<|kK (zx y0) Y1];rw[hc,hd,ya,ya];rw[zd (WV (fu:=fu) (zx<|x0+x1) (zx<|y0+y1) (by lia) (by lia)<|by lia),ya,ya];have l3:=Y8 s1 s2;have l1:=Y8 lx0 ly0;have l2:=Y8 (x:=x1) (y:=y1) (j:=m-h) (k:=m-h) (by lia) (by lia);have l4:=VD<|xfp ((x0+x1)*(y0+y1))<|x0*y0;have l5:=VD<|xfp ((x0+x1)*(y0+y1)-x0*y0)<|x1*y1;rw[zd (QC (zx<|(x0+x1)*(y0+y1)) (zx<|x0*y0) (by lia) (by lia) (by lia)<|by rw[ya,ya];exact kle.1),ya,ya];rw[zd (QC (zx<|(x0+x1)*(y0+y1)-x0*y0) (zx<|x1*y1) (by lia) (by lia) (by lia)<|by rw[ya,ya];exact kle.2),ya,ya];have mL:∀n z:Nat,zo (xaf n 0++yF z):=fun n z=>(zo.replicate n).append<|zx z;have ml:∀n z:Nat,(xaf n 0++yF z).length=n+(yF z).length:=fun n z=>by rw[xax,xaZ]
   rw[zd<|Vt,zd (kK (zx _) (mL _ _) (by lia) (by rw[ml];lia)<|by rw[ml];lia),ya,sQ,ya];have e4:2*(h:Int)=((2*h:Nat):Int):=by lia
   rw[e4,ze,zd<|Vt];have l6:=FM h<|xan l5<|xan l4 l3;have l7:=Zg (x:=x0*y0) (y:=18446744073709551616^h*((x0+x1)*(y0+y1)-x0*y0-x1*y1)) (k:=3*(p+q)) (by clear l6;lia) (xan l6<|by clear l6;lia);have K:=zcA x y h he.symm (by rw[hi,hc]) hg.symm (by rw[hj,hd]);generalize 18446744073709551616^h*((x0+x1)*(y0+y1)-x0*y0-x1*y1)=z1 at*
   generalize hz:x0*y0+z1=z at*
   clear l6;rw[zd (kK (zx z) (mL (2*h)<|x1*y1) (by clear K;lia) (by rw[ml];clear K;lia)<|by rw[ml];clear K;lia),ya,sQ,ya,K]
section
variable{k fu:Nat}{a:List Nat}
def blf:Nat->Nat->Nat
 |0,_=>0
 |f+1,n=>if n=0 then 0 else blf f (n/2)+1
def bl(n:Nat):Nat:=blf n n
theorem zan:∀f f' n,n<=f->n<=f'->blf f n=blf f' n
 |0,f',n,h,h'=>by
  obtain rfl:n=0:=by lia
  cases f'<;>rfl
 |f+1,0,n,h,h'=>by
  obtain rfl:n=0:=by lia
  rfl
 |f+1,f'+1,n,h,h'=>by
  unfold blf;split
  ·rfl
  ·rw[zan f f' (n/2) (by lia)<|by lia]
theorem zfk:bl 0=0:=rfl
theorem JR{n:Nat}(h:0<n:=by lia):bl n=bl (n/2)+1:=by
 obtain⟨m,rfl⟩:∃m,n=m+1:=⟨n-1,by lia⟩;show(if m+1=0 then 0 else blf m ((m+1)/2)+1)=_;rw[zC,zan m ((m+1)/2) ((m+1)/2) (by lia)<|xab _];rfl
theorem KX:∀(k:Nat) {n:Nat},2^k<=n->bl n=bl (n/2^k)+k
 |0,n,h=>by simp
 |k+1,n,h=>by
  have h2:0<2^k:=Nat.two_pow_pos k;rw[xbd]at h;rw[JR,KX k (n:=n/2) (by lia),xaL,xbd,xaU 2];lia
theorem VT{n:Nat}(h:n<2^k):bl n<=k:=by
 induction k generalizing n with
 |zero=>
  obtain rfl:n=0:=by lia
  exact xab _
 |succ k ih=>
  rcases xcv n with rfl|h0
  ·exact xah _
  ·rw[JR h0];have:=ih (n:=n/2) (by rw[xbd]at h;lia);lia
theorem sP(n:Nat):n<2^bl n:=by
 induction n using xdr with
 |ind n ih=>
  rcases xcv n with rfl|h0
  ·decide
  ·rw[JR h0,xbd];have:=ih (n/2) (by lia);lia
theorem Bw:∀{n:Nat},n<256->xeZ n=bl n:=by decide+kernel
theorem vP{x:Nat}(hx:x<18446744073709551616):xw fu x=some ((bl x:Nat):Int):=by
 unfold xw;have e16:min (16:Int).toNat 64=16:=by decide
 have e8:min (8:Int).toNat 64=8:=by decide
 have e32:min (32:Int).toNat 64=32:=by decide
 simp only[nm,e32,e16,e8];have last:∀(d:Nat) (i:Int),d<65536->0<=i->i<=48->(if(256:Int)<=(d:Int)then zg (i+8) fun x2=>zg (x2+((xeZ (d/2^8%256):Nat):Int)) fun x3=>some x3 else zg (i+((xeZ (d%256):Nat):Int)) fun x4=>some x4)=some (i+((bl d:Nat):Int)):=by
  intro d i hd h0 h1;by_cases h:256<=d
  ·have b:=VT (n:=d/2^8) (k:=8) (by lia);rw[zP,ze,xar (by lia),Bw (by lia),ze,KX 8 (n:=d)<|by lia];congr 1;lia
  ·have b:=VT (n:=d) (k:=8) (by lia);rw[zC,xar (by lia),Bw (by lia),ze]
 have mid:∀(d:Nat) (i:Int),d<4294967296->0<=i->i<=32->(bd (if(65536:Int)<=(d:Int)then zg (i+16) fun x1=>some (d/2^16,x1)else some (d,i)) fun(d2,i2)=>if(256:Int)<=(d2:Int)then zg (i2+8) fun x2=>zg (x2+((xeZ (d2/2^8%256):Nat):Int)) fun x3=>some x3 else zg (i2+((xeZ (d2%256):Nat):Int)) fun x4=>some x4)=some (i+((bl d:Nat):Int)):=by
  intro d i hd h0 h1;by_cases h:65536<=d
  ·rw[zP,ze,zd rfl];simp only;rw[last _ _ (by lia) (by lia) (by lia),KX 16 (n:=d)<|by lia];congr 1;lia
  ·rw[zC,zd rfl];exact last _ _ (by lia) (by lia)<|by lia
 by_cases h:4294967296<=x
 ·rw[zP,zd rfl];simp only;rw[mid _ _ (by lia) (by lia) (by lia),KX 32 (n:=x)<|by lia];congr 1;lia
 ·rw[zC,zd rfl];simp only;rw[mid _ _ (by lia) (by lia)<|by lia];congr 1;lia
theorem Hs{n:Nat}(h:0<n):bl n=64*((yF n).length-1)+bl ((yF n).getD ((yF n).length-1) 0):=by
 obtain⟨k,hk⟩:∃k,(yF n).length=k+1:=⟨(yF n).length-1,by have:=qb h;lia⟩;have h1:=(zK (k+1) n).1 (by lia);have h2:¬n<18446744073709551616^k:=fun h=>by have:=(zK k n).2 h;lia
 rw[hk,Xj,show k+1-1=k by lia];have e:18446744073709551616^k=2^(64*k):=by rw[xda]
 have h3:n/18446744073709551616^k<18446744073709551616:=by rw[xbc<|xbj<|by decide];rw[xbd,xaU]at h1;exact h1
 rw[xar h3,e,KX (64*k)<|by rw[<-e];lia];lia
theorem Tr(h:zo a)(hk:a.length<=k):bl (nv a)<=64*k:=by
 refine VT ?_;rw[xda];exact xal (qF h)<|xaz (by decide) hk
theorem YZ(h:zo a)(hl:a.length<=1099511627776)(hf:a.length<fu):kf fu a=some ((bl (nv a):Nat):Int):=by
 unfold kf;rw[zd<|xD h (xan hl<|by decide) hf];have hL:=yV h;have hb:=Tr h hl;rcases xcv (nv a)with h0|h0
 ·rw[h0,Jg];rfl
 ·have h1:=qb h0;have hy:=(zx<|nv a).getD<|(yF<|nv a).length-1;have e:=Hs h0;obtain⟨k,hk⟩:∃k,(yF<|nv a).length=k+1:=⟨(yF<|nv a).length-1,by lia⟩;rw[hk]at e hy;simp only[xeu]at e hy;have e1:((k+1:Nat):Int)-1=(k:Int):=by lia
  rw[hk,zC,e1,ze,ze,ze,yp,zj,zd<|vP hy,ze,e];congr 1
end
section
variable{x k fu:Nat}{r a b l d:List Nat}
def nw:List Nat->Nat
 |[]=>0
 |x::r=>x+4294967296*nw r
def Jd:Nat->Nat->List Nat
 |0,_=>[]
 |k+1,n=>n%4294967296::Jd k (n/4294967296)
def cR:Nat->Nat->List Nat
 |0,_=>[]
 |f+1,n=>if n=0 then[]else n%4294967296::cR f (n/4294967296)
def mU(n:Nat):List Nat:=cR n n
def Cd:List Nat->List Nat
 |[]=>[]
 |x::r=>match Cd r with
  |[]=>if x=0 then[]else[x]
  |y::s=>x::y::s
def wc(l:List Nat):Prop:=∀x∈l,x<4294967296
theorem wc.nil:wc []:=fun x hx=>absurd hx IR
theorem wc.cons(h:x<4294967296)(hr:wc r):wc (x::r):=fun y hy=>by
 rcases xad.1 hy with rfl|hy
 ·exact h
 ·exact hr y hy
theorem wc.head(h:wc (x::r)):x<4294967296:=h x<|FS
theorem wc.tail(h:wc (x::r)):wc r:=fun y hy=>h y<|UV _ hy
theorem wc.append(ha:wc a)(hb:wc b):wc (a++b):=fun x hx=>by
 rcases Nm.1 hx with h|h
 ·exact ha x h
 ·exact hb x h
theorem wc.take{a:List Nat}(h:wc a)(k:Nat):wc (a.take k):=fun x hx=>h x<|xdU hx
theorem wc.getD{a:List Nat}(h:wc a)(k:Nat):a.getD k 0<4294967296:=by
 rw[H1];by_cases hk:k<a.length
 ·rw[xaa hk];exact h _<|xbk hk
 ·rw[xaH<|by omega];exact xfG _
theorem Nv:nw []=0:=rfl
theorem uF(x:Nat)(r:List Nat):nw (x::r)=x+4294967296*nw r:=rfl
theorem gN:∀(a b:List Nat),nw (a++b)=nw a+4294967296^a.length*nw b
 |[],b=>by simp[nw]
 |x::a,b=>by
  rw[xbI,uF,gN a b,uF,xaq,xbd,xbh];rw[xaU (4294967296^a.length) 4294967296,xaX,xcR]
theorem Kp:∀{l:List Nat},wc l->nw l<4294967296^l.length
 |[],_=>by simp[nw]
 |x::r,h=>by
  have h1:=h.head;have h2:=Kp h.tail;rw[uF,xaq,xbd];omega
theorem NZ(l:List Nat)(x:Nat):nw (l++[x])=nw l+4294967296^l.length*x:=by
 rw[gN,uF,Nv];simp
theorem Za:∀k n,(Jd k n).length=k
 |0,_=>rfl
 |k+1,n=>by rw[Jd,xaq,Za]
theorem aD:∀k n,wc (Jd k n)
 |0,_=>wc.nil
 |k+1,n=>wc.cons (xbi _<|by decide)<|aD k _
theorem n5:∀k n,nw (Jd k n)=n%4294967296^k
 |0,n=>by simp[Jd,nw,Nat.mod_one]
 |k+1,n=>by rw[Jd,uF,n5 k,xbd,xaU<|4294967296^k,Nat.mod_mul]
theorem ga:∀{l:List Nat},wc l->Jd l.length (nw l)=l
 |[],_=>rfl
 |x::r,h=>by
  have h1:=h.head;rw[xaq,Jd,uF,xbW,xar h1,xcE _ _ (by decide),xbv h1,xaN,ga h.tail]
theorem zbk(ha:wc a)(hb:wc b)(hl:a.length=b.length)(h:nw a=nw b):a=b:=by
 rw[<-ga ha,<-ga hb,hl,h]
theorem iG:∀k n,Jd (k+1) n=Jd k n++[n/4294967296^k%4294967296]
 |0,n=>by simp[Jd]
 |k+1,n=>by rw[Jd,iG k,Jd,xbI,xaL,<-xek]
theorem CN:∀f n,wc (cR f n)
 |0,_=>wc.nil
 |f+1,n=>by
  rw[cR];split
  ·exact wc.nil
  ·exact wc.cons (xbi _<|by decide)<|CN f _
theorem Je(n:Nat):wc (mU n):=CN n n
theorem O7:∀f n,n<=f->nw (cR f n)=n
 |0,n,h=>by rw[cR,Nv];omega
 |f+1,n,h=>by
  rw[cR];split
  ·rename_i h0;rw[Nv,h0]
  ·rename_i h0;have ha:n/4294967296<=f:=by
    have:=xeB (n:=n) (k:=4294967296) (by omega) (by decide);omega
   rw[uF,O7 f _ ha,xff]
theorem Vk(n:Nat):nw (mU n)=n:=O7 n n<|xab _
theorem Og:∀f f' n,n<=f->n<=f'->cR f n=cR f' n
 |0,f',n,h,h'=>by
  have:n=0:=by omega
  subst this;cases f'<;>simp[cR]
 |f+1,0,n,h,h'=>by
  have:n=0:=by omega
  subst this;simp[cR]
 |f+1,f'+1,n,h,h'=>by
  rw[cR,cR];split
  ·rfl
  ·rename_i h0;have:=xeB (n:=n) (k:=4294967296) (by omega) (by decide);rw[Og f f' _ (by omega)<|by omega]
theorem fc:mU 0=[]:=rfl
theorem oc{n:Nat}(h:0<n):mU n=n%4294967296::mU (n/4294967296):=by
 have e:mU n=cR ((n-1)+1) n:=by unfold mU;congr 1;omega
 have:=xeB (n:=n) (k:=4294967296) h (by decide);rw[e,cR,zC];congr 1;exact Og _ _ _ (by omega)<|by omega
theorem Sq{n:Nat}(h0:0<n)(h:n<4294967296):mU n=[n]:=by grind [oc,fc,xar,xbv]
theorem zfd{n:Nat}:mU n=[]↔n=0:=by
 constructor
 ·intro h;rw[<-Vk n,h];rfl
 ·rintro rfl;rfl
theorem YD:∀(k n:Nat),(mU n).length<=k↔n<4294967296^k
 |0,n=>by rw[Nat.le_zero,xbF,zfd];simp;
 |k+1,n=>by
  by_cases h:n=0
  ·subst h;simp[fc];exact xbj<|by decide
  ·rw[oc (by omega),xaq,Nat.add_le_add_iff_right,YD k,xbc (by decide),xbd]
theorem bg:∀(l:List Nat) (k:Nat),k+1=l.length->l.getD k 0≠0->Cd l=l
 |[],_,h,_=>by simp at h
 |[x],0,_,h=>by simp at h;simp[Cd,h]
 |[x],k+1,h,_=>by simp at h
 |x::y::r,0,h,_=>by simp at h
 |x::y::r,k+1,h,h0=>by
  have:=bg (y::r) k (by simpa using h) (by simpa using h0);simp only[Cd]at this⊢;rw[this]
theorem HT:∀{l:List Nat},wc l->Cd l=mU (nw l)
 |[],_=>rfl
 |x::r,h=>by
  have ih:=HT h.tail;have hx:=h.head;rw[Cd,ih,uF];by_cases hr:nw r=0
  ·rw[hr,fc];by_cases h0:x=0
   ·simp[h0,fc]
   ·simp only[h0,if_false,xcO,xbS];rw[Sq (by omega) hx]
  ·have e1:=oc (n:=nw r) (by omega);have e2:=oc (n:=x+4294967296*nw r) (by omega);rw[xbW,xar hx,xcE _ _ (by decide),xbv hx,xaN]at e2;rw[e2,e1]
theorem H6(hl:wc l)(h:l=[]\/l.getD (l.length-1) 0≠0):mU (nw l)=l:=by
 rw[<-HT hl];rcases h with rfl|h
 ·rfl
 ·cases hn:l.length with
  |zero=>rw[xbt hn];rfl
  |succ k=>exact bg l k hn.symm<|by rw[hn]at h;exact h
theorem O0(hl:wc l)(k:Nat):nw (l.take k)=nw l%4294967296^k:=by
 by_cases hk:k<=l.length
 ·have e:=gN (l.take k)<|l.drop k;rw[xbH,xav,xcN hk]at e;have:=Kp<|hl.take k;rw[xav,xcN hk]at this;rw[e,xbW,xar this]
 ·rw[xaQ (by omega),xar];exact xal (Kp hl)<|xaz (by decide)<|by omega
theorem eD:∀{l:List Nat},wc l->∀k,l.getD k 0=nw l/4294967296^k%4294967296
 |[],_,k=>by simp[nw]
 |x::r,h,0=>by rw[List.getD_cons_zero,uF,xef,xdT,xbW,xar h.head]
 |x::r,h,k+1=>by rw[xel,eD h.tail k,uF,xek,<-xaL,xcE _ _ (by decide),xbv h.head,xaN]
theorem za5(h:wc a):a.take (mU<|nw a).length=mU (nw a):=by
 have ha:(mU<|nw a).length<=a.length:=(YD _ _).2<|Kp h;refine zbk (h.take _) (Je _) (by rw[xav];omega) ?_;rw[O0 h,Vk];exact xar<|(YD _ _).1<|xab _
theorem sZ(k:Nat):(4294967296:Nat)^(2*k)=18446744073709551616^k:=by grind [xda]
theorem zap(k:Nat):(4294967296:Nat)^(2*k+1)=18446744073709551616^k*4294967296:=by
 rw[xbd,sZ]
theorem WZ(l:List Nat):∀k,nw (l.take<|k+1)=nw (l.take k)+4294967296^k*l.getD k 0:=by
 induction l with
 |nil=>intro k;simp[nw]
 |cons x r ih=>
  intro k
  cases k with
  |zero=>simp[nw]
  |succ k=>
   rw[xeh,uF,ih k,xeh,uF,xel,xbd,xbh];rw[xaU (4294967296^k) 4294967296,xaX,xcR]
theorem Ft(hk:k+1<=a.length)(h0:a.getD k 0=0):nw (a.take k)=nw (a.take<|k+1):=by
 rw[WZ,h0];simp
theorem Dp(h:wc a)(hk:k+1<=a.length)(h0:a.getD k 0≠0):mU (nw<|a.take<|k+1)=a.take (k+1):=by grind [H6,wc.take,xav]
theorem Sd(h:wc l):(mU<|nw l).length<=l.length:=(YD _ _).2<|Kp h
theorem U1(h:wc a)(hl:a.length<=1099511627776)(hf:a.length<fu):Xx fu a=some (mU<|nw a):=by
 unfold Xx;have h5:=Sd h;rw[zd (v:=((mU<|nw a).length:Int)),yI,wE h5,zj,za5 h];refine zB (fun i:Int=>0<=i/\i<=a.length/\nw (a.take i.toNat)=nw a) (fun i=>i.toNat) _ ?_ _ _ ⟨by omega,by omega,by simp⟩ (by omega);rintro i L ⟨h0,h1,hn⟩ ih;obtain⟨k,rfl⟩:=xaA h0;unfold bK;simp only[xaE]at*
 by_cases hk:0<(k:Int)
 ·obtain⟨j,rfl⟩:∃j,k=j+1:=⟨k-1,by omega⟩;have e1:((j+1:Nat):Int)-1=(j:Int):=by omega
  rw[iq hk,e1,ze,yp,zj];by_cases h2:a.getD j 0=0
  ·rw[iq (by rw[h2]),ze];refine ih _ ⟨by omega,by omega,?_⟩ (by omega);rw[xaE,Ft (by omega) h2,hn]
  ·rw[zC,<-hn,Dp h (by omega) h2,xav];congr 1;omega
 ·rw[ir hk,<-hn];have:k=0:=by omega
  subst this;rfl
theorem zag(h:zo a)(hk:k<a.length):Jd (2*k) (nv a)++[a.getD k 0 &&& 4294967295,a.getD k 0/2^32]=Jd (2*(k+1)) (nv a):=by
 rw[show 2*(k+1)=(2*k+1)+1 by omega,iG,iG,xaj,VM h,HS];congr 1;rw[zap,sZ,<-xaL];generalize nv a/18446744073709551616^k=z;congr 1
 ·omega
 ·congr 1;omega
theorem HO(h:zo a)(hl:a.length<=4294967296)(hf:2*a.length<fu):zm (Yw fu a) fu ([],0)=some (Jd (2*a.length)<|nv a):=by
 refine zB (fun s:List Nat×Int=>∃k:Nat,k<=a.length/\s=(Jd (2*k)<|nv a,(k:Int))) (fun s=>a.length-s.2.toNat) _ ?_ _ _ ⟨0,by omega,rfl⟩ (by show a.length-0<fu;omega);rintro s L ⟨k,hk,rfl⟩ ih;unfold Yw;simp only;by_cases h1:k<a.length
 ·rw[zP,zw h1,zj,zj,zw h1,zj,zj,CD,wE (by simp only[Za,xaq,xbR];omega),zj,ze,zag h h1];exact ih _ ⟨k+1,by omega,rfl⟩ (by show a.length-((k:Int)+1).toNat<a.length-(k:Int).toNat;omega)
 ·rw[zC];obtain rfl:k=a.length:=by omega
  rfl
theorem jQ(h:zo a)(hl:a.length<=4294967296)(hf:2*a.length<fu):vz fu a=some (mU<|nv a):=by grind [vz,nv,sZ,qF,zd,HO,U1,aD,Za,n5,xar]
theorem RV(h:wc d)(k:Nat):d.getD (2*k) 0+d.getD (2*k+1) 0*2^32=nw d/18446744073709551616^k%18446744073709551616:=by
 rw[eD h,eD h,zap,<-xaL,sZ];generalize nw d/18446744073709551616^k=z;omega
theorem LN{n:Nat}(h:wc d)(hl:d.length<=4294967296)(hn:n=(d.length+1)/2)(hf:d.length+1<fu):zm (XZ fu d) fu ([],0)=some (wb n<|nw d):=by
 refine zB (fun s:List Nat×Int=>∃k:Nat,k<=n/\s=(wb k<|nw d,2*(k:Int))) (fun s=>2*n-s.2.toNat) _ ?_ _ _ ⟨0,by omega,rfl⟩ (by show 2*n-0<fu;omega);rintro s L ⟨k,hk,rfl⟩ ih;unfold XZ;simp only;have e2:2*(k:Int)=((2*k:Nat):Int):=by omega
 have hp:=RV h k;by_cases h1:2*k<d.length
 ·have d0:=h.getD<|2*k;have d1:=h.getD<|2*k+1;rw[e2,zP,zw h1,zj,ze];have e3:((2*k:Nat):Int)+1=((2*k+1:Nat):Int):=by omega
  have e4:((2*k:Nat):Int)+2=2*((k+1:Nat):Int):=by omega
  by_cases h3:2*k+1<d.length
  ·rw[zP,ze,e3,zw h3,zj,CD,zj,zj,wE (by simp only[zS,xaq,xbR];omega),zj,ze,e4];refine ih _ ⟨k+1,by omega,?_⟩ (by show 2*n-(2*((k+1:Nat):Int)).toNat<2*n-(((2*k:Nat):Int)).toNat;omega);rw[QQ,<-hp,xar (by omega),xar<|by omega]
  ·rw[zC,wE (by simp only[zS,xaq,xbR];omega),zj,ze,e4];refine ih _ ⟨k+1,by omega,?_⟩ (by show 2*n-(2*((k+1:Nat):Int)).toNat<2*n-(((2*k:Nat):Int)).toNat;omega);have z:d.getD (2*k+1) 0=0:=by rw[H1,xaH<|by omega];rfl
   rw[z,xcs,xbS]at hp;rw[QQ,<-hp]
 ·rw[zC];obtain rfl:k=n:=by omega
  rfl
theorem QP(h:wc d)(hl:d.length<=4294967296)(hf:d.length+1<fu):uh fu d=some (yF<|nw d):=by
 unfold uh;obtain⟨n,hn⟩:∃n,n=(d.length+1)/2:=⟨_,rfl⟩;have ha:nw d<18446744073709551616^n:=by
  rw[<-sZ];exact xal (Kp h)<|xaz (by decide)<|by omega
 rw[zd<|LN h hl hn hf,zd (Ku (xJ _ _) (by rw[zS];omega)<|by rw[zS];omega),jc,xar ha]
end
theorem dH{a:List Nat}(h:zo a):(mU<|nv a).length<=2*a.length:=by
 rw[YD,sZ];exact qF h
theorem Ks{fu:Nat}{a b:List Nat}(ha:a.length<=1099511627776)(hf:a.length<fu):WK fu a b=some (decide<|a=b):=by
 unfold WK;by_cases hl:a.length=b.length
 ·rw[zP,zd (v:=if a=b then .inl ()else .inr ())]
  ·by_cases h:a=b
   ·rw[iq h,decide_eq_true h]
   ·rw[ir h,decide_eq_false h]
  ·refine zB (fun i:Int=>∃k:Nat,i=(k:Int)/\k<=a.length/\a.take k=b.take k) (fun i=>a.length-i.toNat) _ ?_ _ _ ⟨0,rfl,by lia,rfl⟩ (by show a.length-0<fu;lia);rintro i L ⟨k,rfl,hk,ht⟩ ih;unfold KH;by_cases h1:k<a.length
   ·rw[zP,zw h1,zj,yp,zj];by_cases h2:a.getD k 0=b.getD k 0
    ·rw[zP,ze];refine ih _ ⟨k+1,by lia,by lia,?_⟩ (by show a.length-((k:Int)+1).toNat<a.length-(k:Int).toNat;lia);rw[xeI,xeI,ht,getD_some 0 h1,getD_some 0 (by lia:k<b.length),h2]
    ·rw[zC,ir<|fun h=>h2<|by rw[h]]
   ·rw[zC];obtain rfl:k=a.length:=by lia
    rw[xcy,xaQ<|by lia]at ht;rw[iq ht]
 ·rw[zC,decide_eq_false<|fun h=>hl<|by rw[h]]
section
variable{fu:Nat}{a b:Zr}{x:Int}
def zv(z:Zr):Int:=if z.1=true then-((nv z.2:Nat):Int)else((nv z.2:Nat):Int)
def yK(x:Int):Zr:=(decide<|x<0,yF x.natAbs)
theorem zA(x:Int):zv (yK x)=x:=by grind [yK,zv,ya]
theorem yW(x:Int):zo (yK x).2:=zx _
theorem kR(z:Zr):(zv z).natAbs=nv z.2:=by unfold zv;split<;>omega
theorem zcR(s:Bool)(n:Nat):(if s=true then if 0<(((yF n).length:Nat):Int)then some (true,yF n)else some (false,yF n)else some (false,yF n))=some (yK (if s=true then-(n:Int)else(n:Int))):=by grind [yK,Fw,qb]
theorem yr{s:Bool}{a:List Nat}(h:zo a)(hl:a.length<=17592186044416)(hf:a.length<fu):yU fu s a=some (yK (if s=true then-((nv a:Nat):Int)else((nv a:Nat):Int))):=by
 unfold yU;rw[zd<|YX h hl hf];exact zcR s _
theorem nS{z:Zr}(h:zo z.2)(hl:z.2.length<=17592186044416)(hf:z.2.length<fu):xH fu z=some (yK<|zv z):=by
 unfold xH;rw[zd<|Ku h hl hf];exact zcR z.1 _
theorem KJ{z:Zr}(h:zo z.2)(hl:z.2.length<=17592186044416)(hf:z.2.length<fu):vW fu z=some (yK<|zv z):=by
 unfold vW;rw[zd<|yr h hl hf];rfl
theorem sK(h0:0<=x)(h:x<18446744073709551616):((rY x:Nat):Int)=x:=by unfold rY;omega
theorem oO{x:Nat}(h:x<18446744073709551616):zo [x]:=zo.cons h zo.nil
theorem NY(x:Nat):nv [x]=x:=by simp[nv]
theorem JX(h:VH x)(hf:1<fu:=by omega):z8 fu x=some (yK x):=by grind [z8,rY,mh,zj,zd,yr,oO,NY,sK]
theorem ze5(a b:Zr):(if(!(a.1==b.1))=true then-((nv a.2*nv b.2:Nat):Int)else((nv a.2*nv b.2:Nat):Int))=zv a*zv b:=by grind [zv,Int.neg_mul,xeC]
theorem be(ha:zo a.2)(hb:zo b.2)(hc:a.2.length<=1073741824)(hd:b.2.length<=1073741824)(hf:4*(a.2.length+b.2.length)+64<=fu):zQ fu a b=some (yK<|zv a*zv b):=by
 unfold zQ;have hl:=Y8 (yV ha)<|yV hb;rw[zj,zd<|WV ha hb hc hd hf,zd (yr (zx _) (by omega)<|by omega),ya,<-ze5]
theorem nh(hl:a.2.length<=1099511627776)(hf:a.2.length<fu):Wy fu a b=some (decide<|a=b):=by
 obtain⟨s,a⟩:=a;obtain⟨t,b⟩:=b;unfold Wy;rw[zj];cases s<;>cases t
 ·simp only[beq_self_eq_true,if_true];rw[zd<|Ks hl hf];simp
 ·simp
 ·simp
 ·simp only[beq_self_eq_true,if_true];rw[zd<|Ks hl hf];simp
theorem zev{a:Int}{e b:Nat}(h:bl a.natAbs*e<=b*64):(yF (a^e).natAbs).length<=b+1:=by
 rw[zK,Int.natAbs_pow];have h1:a.natAbs^e<=(2^bl a.natAbs)^e:=Nat.pow_le_pow_left (xcS<|sP _) e;rw[<-xda]at h1;have h2:2^(bl a.natAbs*e)<=2^(64*b):=xaz (by decide) (by omega);rw[xda 2 64 b,show(2:Nat)^64=18446744073709551616 from rfl]at h2;have h3:18446744073709551616^b<18446744073709551616^(b+1):=xeN (by decide)<|xca b;omega
theorem zaf(i:Nat)(h:i<=65536):Mf (i:Int) 1=((i%2:Nat):Int):=by grind [Mf,SO,rY]
theorem zh9(i:Nat):xfS (i:Int) (2^(min (((1:Nat):Int)).toNat 64))=((i/2:Nat):Int):=by grind [xeK]
theorem Rk{n:Nat}{a:Int}(hn:n<=65536)(hb:bl a.natAbs*n<=262144)(hf:65600<fu):
 zm (JF fu) fu ((n:Int),yK a,yK 1)=some (yK<|a^n):=by
 have hc:∀e,e<=n->(yF (a^e).natAbs).length<=4097:=fun e he=>zev (b:=4096)<|xan (xaD _ he) hb;refine zB (fun s:Int×Zr×Zr=>∃i d e:Nat,s=((i:Int),yK<|a^d,yK<|a^e)/\e+d*i=n/\(0<i->d<=n)/\0<d) (fun s=>s.1.toNat) _ ?_ _ _ ⟨n,1,0,by simp[xbn],by omega,by omega,by omega⟩ (by show((n:Int)).toNat<fu;omega);rintro s L ⟨i,d,e,rfl,he,hd,hi⟩ ih;unfold JF;simp only;have mul:∀p q,p<=n->q<=n->zQ fu (yK<|a^p) (yK<|a^q)=some (yK<|a^(p+q)):=by
  intro p q hp hq;have h1:=hc p hp;have h2:=hc q hq;rw[be (yW _) (yW _) (by show(yF _).length<=_;omega) (by show(yF _).length<=_;omega) (by show 4*((yF _).length+(yF _).length)+64<=fu;omega),zA,zA,Int.pow_add]
 by_cases h0:0<i
 ·have ha:=hd h0;have hj:i<=n:=by
   have:=xdm i hi;omega
  have hg:d*i=d*(i/2)*2+d*(i%2):=by rw[xaX,<-xbh];congr 1;omega
  rw[zP,zj,zaf i<|by omega];by_cases h1:i%2=1
  ·rw[zP];rw[h1,xcI]at hg;rw[zd<|mul e d (by omega) ha];by_cases h2:1<i
   ·have h3:d*1<=d*(i/2):=xaD d (by omega);rw[zP,zd<|mul d d ha ha,zj,zh9];refine ih _ ⟨i/2,d+d,e+d,rfl,?_,by omega,by omega⟩ (by show((i/2:Nat):Int).toNat<(i:Int).toNat;omega);rw[xaR];omega
   ·rw[zC,zj,zh9];refine ih _ ⟨i/2,d,e+d,rfl,?_,by omega,by omega⟩ (by show((i/2:Nat):Int).toNat<(i:Int).toNat;omega);rw[show i/2=0 by omega,xcO]at hg⊢;omega
  ·rw[zC];rw[show i%2=0 by omega,xcO,xbS]at hg;by_cases h2:1<i
   ·have h3:d*1<=d*(i/2):=xaD d (by omega);rw[zP,zd<|mul d d ha ha,zj,zh9];refine ih _ ⟨i/2,d+d,e,rfl,?_,by omega,by omega⟩ (by show((i/2:Nat):Int).toNat<(i:Int).toNat;omega);rw[xaR];omega
   ·omega
 ·rw[zC];obtain rfl:i=0:=by omega
  rw[xcO,xbS]at he;rw[he]
theorem A7{n:Nat}{z:Zr}(h:zo z.2)(hl:z.2.length<=1000000)(hn:n<=65536)(hf:1000100<fu):
 JO fu z (n:Int)=some (if 262144<bl (nv z.2)*n then((false,[]),6)else(yK<|zv z^n,0)):=by
 unfold JO;have hb:=Tr h hl;have hm:bl (nv z.2)*n<=64000000*65536:=xbJ hb hn;have e:((bl (nv z.2):Nat):Int)*(n:Int)=((bl (nv z.2)*n:Nat):Int):=by simp
 rw[zC,zC,zd rfl];simp only[xak,if_false];rw[zd (YZ h (by omega)<|by omega),e,ze];by_cases h1:262144<bl (nv z.2)*n
 ·rw[zP,iq h1]
 ·rw[zC,ir h1,zd (JX (by decide)<|by omega),zd (KJ h (by omega)<|by omega),zd<|Rk hn (by rw[kR];omega)<|by omega]
end
section
variable{d fu:Nat}{p:Int}
def vX(p:Nat):Prop:=∀d,2<=d->d*d<=p->p%d≠0
open Classical in
noncomputable def wK(p:Int):Bool:=decide<|2<=p/\p<=65521/\vX p.toNat
open Classical in
theorem OM{p:Int}(h:2<=p/\p<=65521/\vX p.toNat):wK p=true:=by unfold wK;exact decide_eq_true h
open Classical in
theorem sF{p:Int}(h:¬(2<=p/\p<=65521/\vX p.toNat)):wK p=false:=by unfold wK;exact decide_eq_false h
theorem nZ(d:Nat):(d:Int)*(d:Int)=((d*d:Nat):Int):=by simp
theorem O2{p:Nat}(h:p<=65521)(hd:d<=300:=by lia):d*d<=90000:=xan (xbJ hd hd)<|by decide
theorem Py{p:Nat}(h:p<=65521)(hd:d*d<=p):d<256:=by
 rcases xcf d 256 with h1|h1
 ·exact h1
 ·have:=xbJ h1 h1;lia
theorem NK{p:Nat}(h:p<=65521)(hf:400<fu):(vX p->zm (kY fu (p:Int)) fu (true,2)=some true)/\(¬vX p->zm (kY fu (p:Int)) fu (true,2)=some false):=by
 constructor
 ·intro hn;refine zB (fun i:Bool×Int=>∃d:Nat,i=(true,(d:Int))/\2<=d/\d<=256) (fun i=>300-i.2.toNat) _ ?_ _ _ ⟨2,rfl,by lia,by lia⟩ (by show 300-2<fu;lia);rintro i L ⟨d,rfl,h2,h3⟩ ih;unfold kY;simp only[if_true];have hs:=O2 h (d:=d);rw[nZ,ze];by_cases h4:d*d<=p
  ·have h5:=hn d h2 h4;have:=Py h h4;have e:xcc (p:Int) (d:Int)=((p%d:Nat):Int):=rfl;rw[zP,yL,zj,e,zC,ze];exact ih _ ⟨d+1,rfl,by lia,by lia⟩ (by show 300-((d:Int)+1).toNat<300-(d:Int).toNat;lia)
  ·rw[zC]
 ·intro hn;obtain⟨d0,ha⟩:=xfH.1 hn;obtain⟨hb,ha⟩:=xfq.1 ha;obtain⟨h4,h5⟩:=xfq.1 ha;have h5:p%d0=0:=Classical.not_not.1 h5;have h6:=Py h h4;refine zB (fun i:Bool×Int=>∃d:Nat,i=(true,(d:Int))/\2<=d/\d<=d0) (fun i=>300-i.2.toNat) _ ?_ _ _ ⟨2,rfl,by lia,by lia⟩ (by show 300-2<fu;lia);rintro i L ⟨d,rfl,h2,h3⟩ ih;unfold kY;simp only[if_true];have hs:=O2 h (d:=d);have hc:=xbJ h3 h3;rw[nZ,ze];have e:xcc (p:Int) (d:Int)=((p%d:Nat):Int):=rfl;rw[zP,yL,zj,e];by_cases h7:p%d=0
  ·rw[zP]
  ·rw[zC,ze];refine ih _ ⟨d+1,rfl,by lia,?_⟩ (by show 300-((d:Int)+1).toNat<300-(d:Int).toNat;lia);rcases xcf d d0 with h8|h8
   ·exact h8
   ·exact absurd (by rw[show d=d0 by lia];exact h5) h7
theorem zcH{p:Nat}(h:p<=65521)(hf:400<fu):(vX p->zm (Zv fu (p:Int)) fu 2=some (.inl ()))/\(¬vX p->zm (Zv fu (p:Int)) fu 2=some (.inr ())):=by
 constructor
 ·intro hn;refine zB (fun i:Int=>∃d:Nat,i=(d:Int)/\2<=d/\d<=256) (fun i=>300-i.toNat) _ ?_ _ _ ⟨2,rfl,by lia,by lia⟩ (by show 300-2<fu;lia);rintro i L ⟨d,rfl,h2,h3⟩ ih;unfold Zv;have hs:=O2 h (d:=d);rw[nZ,ze];by_cases h4:d*d<=p
  ·have h5:=hn d h2 h4;have:=Py h h4;have e:xcc (p:Int) (d:Int)=((p%d:Nat):Int):=rfl;rw[zP,yL,zj,e,zC,ze];exact ih _ ⟨d+1,by lia,by lia,by lia⟩ (by show 300-((d:Int)+1).toNat<300-(d:Int).toNat;lia)
  ·rw[zC]
 ·intro hn;obtain⟨d0,ha⟩:=xfH.1 hn;obtain⟨hb,ha⟩:=xfq.1 ha;obtain⟨h4,h5⟩:=xfq.1 ha;have h5:p%d0=0:=Classical.not_not.1 h5;have h6:=Py h h4;refine zB (fun i:Int=>∃d:Nat,i=(d:Int)/\2<=d/\d<=d0) (fun i=>300-i.toNat) _ ?_ _ _ ⟨2,rfl,by lia,by lia⟩ (by show 300-2<fu;lia);rintro i L ⟨d,rfl,h2,h3⟩ ih;unfold Zv;have hs:=O2 h (d:=d);have hc:=xbJ h3 h3;rw[nZ,ze];have e:xcc (p:Int) (d:Int)=((p%d:Nat):Int):=rfl;rw[zP,yL,zj,e];by_cases h7:p%d=0
  ·rw[zP]
  ·rw[zC,ze];refine ih _ ⟨d+1,by lia,by lia,?_⟩ (by show 300-((d:Int)+1).toNat<300-(d:Int).toNat;lia);rcases xcf d d0 with h8|h8
   ·exact h8
   ·exact absurd (by rw[show d=d0 by lia];exact h5) h7
theorem YO(hf:400<fu):ks fu p=some (wK p):=by
 unfold ks;have ha:zm (kY fu p) fu (false,2)=some false:=by
  obtain⟨k,rfl⟩:∃k,fu=k+1:=⟨fu-1,by lia⟩;rfl
 by_cases h2:2<=p
 ·rw[iq h2];by_cases h3:p<=65521
  ·rw[iq h3,zd rfl];obtain⟨q,rfl⟩:=xaA (by lia:0<=p);obtain⟨l1,l2⟩:=NK (fu:=fu) (p:=q) (by lia) hf;by_cases h4:vX q
   ·rw[zd<|l1 h4,OM (p:=(q:Int)) ⟨h2,h3,h4⟩]
   ·rw[zd<|l2 h4,sF (p:=(q:Int))<|fun h=>h4 h.2.2]
  ·rw[ir h3,zd rfl,zd ha];rw[sF<|fun h=>h3 h.2.1]
 ·rw[ir h2,zd rfl,zd ha];rw[sF<|fun h=>h2 h.1]
theorem Ay(hf:400<fu):cJ fu p=some (wK p):=by grind [cJ,sF,vX,zcH,zd,OM,xaA]
noncomputable def gF(p k:Int):Zr×Int:=if wK p=true/\1<=k/\k<=1000 then(yK<|p^k.toNat,0)else((false,[]),1)
theorem zu(h:wK p=true):2<=p/\p<=65521:=by
 refine xac fun hn=> ?_;rw[sF<|fun h=>hn ⟨h.1,h.2.1⟩]at h;cases h
theorem zhZ(h:wK p=true):bl (nv (yK p).2)<=16:=by
 have:=zu h;refine VT ?_;show nv (yF p.natAbs)<_;rw[ya];lia
theorem zeG{x:Int}(h:x.natAbs<18446744073709551616):(yK x).2.length<=1:=by
 show(yF _).length<=1;rw[zK];lia
theorem jJ{k:Int}(hf:3000000<fu):vD fu p k=some (gF p k):=by
 unfold vD gF;rw[zd<|YO<|by lia];by_cases h1:wK p=true
 ·have hr:=zu h1;rw[ir<|by simp[h1]];by_cases h2:k<1
  ·rw[iq h2,ir<|fun h=>by lia]
  ·rw[ir h2];by_cases h3:1000<k
   ·rw[iq h3,ir<|fun h=>by lia]
   ·obtain⟨n,rfl⟩:=xaA (by lia:0<=k);have hl:=zeG (x:=p) (by lia);have hb:bl (nv (yK p).2)*n<=16*1000:=xbJ (zhZ h1) (by lia);rw[ir h3,if_pos ⟨h1,by lia,by lia⟩,zd<|JX ⟨by lia,by lia⟩,zd (A7 (yW p) (by lia) (by lia)<|by lia),zC,zA];rfl
 ·rw[iq (by simp[h1]),ir<|fun h=>h1 h.1]
end
section
variable{fu k j:Nat}{a b:Zr}{x y:Int}
theorem K4{a b:Int}:jN fu a b=some (qX a b):=by grind [jN,uE,zd,qd,w5,jL,xak]
theorem Jc{a b:Nat}:vR fu a b=some (qX a b):=by grind [vR,jg,zd,qd,w5,jL,xak]
theorem Js{a b:List Nat}(ha:zo a)(hb:zo b)(he:a.length<=1000000:=by lia)(hg:b.length<=1000000:=by lia)(hf:2000000<fu:=by lia):W5 fu a b=some (qX (nv a:Nat) (nv b:Nat)):=by
 unfold W5;have h1:=yV ha;have h2:=yV hb;rw[zd (xD ha (by lia)<|by lia),zd<|xD hb (by lia)<|by lia];generalize nv a=x at*
 generalize nv b=y at*
 by_cases h:(yF x).length=(yF y).length
 ·rw[zP,ze];by_cases hc:x=y
  ·subst hc;rw[zd (v:=.inl ())]
   ·rw[jL rfl]
   ·refine zB (fun i:Int=>∃m:Nat,i=(m:Int)-1/\m<=(yF x).length) (fun i=>(i+1).toNat) _ ?_ _ _ ⟨_,rfl,xab _⟩ (by lia);rintro i L ⟨m,rfl,hm⟩ ih;unfold U5;by_cases h0:m=0
    ·rw[zC]
    ·have e:(m:Int)-1=((m-1:Nat):Int):=by lia
     rw[zP,e,yp,zj,yp,zj,iq rfl,ze];exact ih _ ⟨m-1,rfl,by lia⟩<|by lia
  ·rw[zd (v:=.inr<|qX x y)];refine zB (fun i:Int=>∃m:Nat,i=(m:Int)-1/\m<=(yF x).length/\x/18446744073709551616^m=y/18446744073709551616^m) (fun i=>(i+1).toNat) _ ?_ _ _ ⟨_,rfl,xab _,zcE h⟩ (by lia);rintro i L ⟨m,rfl,hm,ht⟩ ih;unfold U5;by_cases h0:m=0
   ·subst h0;rw[xef,xdT,xdT]at ht;exact absurd ht hc
   ·have e:(m:Int)-1=((m-1:Nat):Int):=by lia
    rw[zP,e,yp,zj,yp,zj];by_cases hd:(yF x).getD (m-1) 0=(yF y).getD (m-1) 0
    ·rw[iq (by rw[hd]),ze];exact ih _ ⟨m-1,rfl,by lia,zaZ (by lia) ht hd⟩<|by lia
    ·rw[zC,yp,zj,yp,zj,zd Jc,RN (by lia) ht hd]
 ·rw[zC,zd K4,zdz h]
def KE(z:Zr):Prop:=zo z.2/\z.2.length<=100000
def Bz(k:Nat)(x:Int):Prop:=x.natAbs<18446744073709551616^k
theorem Bz.ok(h:Bz k x)(hk:k<=100000):KE (yK x):=⟨yW x,xan ((zK _ _).2 h) hk⟩
theorem Bz.of{z:Zr}(h:zo z.2):Bz z.2.length (zv z):=by grind [Bz,kR,qF]
theorem Bz.mono(h:Bz j x)(hk:j<=k):Bz k x:=xal h<|xaz (by decide) hk
theorem KE.bz{z:Zr}(h:KE z):Bz 100000 (zv z):=(Bz.of h.1).mono h.2
theorem Bz.neg(h:Bz k x):Bz k (-x):=by unfold Bz at*;rw[Int.natAbs_neg];exact h
theorem Bz.add(hx:Bz k x)(hy:Bz k y):Bz (k+1) (x+y):=by grind [Bz,Int.natAbs_add_le,xbd]
theorem Bz.sub(hx:Bz k x)(hy:Bz k y):Bz (k+1) (x-y):=by grind [Bz.add,Bz.neg,Int.sub_eq_add_neg]
theorem Bz.mul(hx:Bz j x)(hy:Bz k y):Bz (j+k) (x*y):=by unfold Bz at *;rw[xch,xbY];exact xdJ hx hy
theorem Bz.le(hy:Bz k y)(h:x.natAbs<=y.natAbs):Bz k x:=xba h hy
theorem xB(z:Zr):(z.1=true/\zv z= -((nv z.2:Nat):Int))\/(z.1=false/\zv z=((nv z.2:Nat):Int)):=by grind [zv]
theorem uO{z:Zr}(h:KE z)(hf:3000000<=fu):vW fu z=some (yK<|zv z):=KJ h.1 (by have:=h.2;lia) (by have:=h.2;lia)
theorem bH{z:Zr}(h:KE z)(hf:3000000<=fu):uY fu z=some (yK (-zv z)):=by
 unfold uY;have:=h.2;rw[zd<|yr h.1 (by lia)<|by lia];rcases xB z with⟨h1,h2⟩|⟨h1,h2⟩<;>rw[h1,h2]<;>simp
theorem qu(ha:KE a)(hb:KE b)(hf:3000000<=fu):vC fu a b=some (yK<|zv a+zv b):=by
 unfold vC;have la:=ha.2;have lb:=hb.2;have hg:(yF<|nv a.2+nv b.2).length<=100001:=Zg (xan (yV ha.1) la)<|xan (yV hb.1) lb;rw[zj];by_cases hs:a.1=b.1
 ·rw[iq (by simp[hs]),zd<|kK ha.1 hb.1,zd (yr (zx _) (by lia)<|by lia),ya];rcases xB a with⟨h1,h2⟩|⟨h1,h2⟩<;>rcases xB b with⟨h3,h4⟩|⟨h3,h4⟩
  ·rw[h1,h2,h4,iq rfl];congr 2;lia
  ·rw[h1,h3]at hs;cases hs
  ·rw[h1,h3]at hs;cases hs
  ·rw[h1,h2,h4,ir<|by decide];congr 2
 ·rw[ir<|by simp[hs]];rw[zd<|Js ha.1 hb.1];by_cases hc:nv a.2<nv b.2
  ·have hd:(yF<|nv b.2-nv a.2).length<=100000:=xan (VD<|xfp _ _)<|xan (yV hb.1) lb;rw[qd (by lia),iq (by decide),zd rfl];simp only;rw[zd (Wv hb.1 ha.1 (by lia) (by lia)<|by lia),zC];simp only;rw[zd (yr (zx _) (by lia)<|by lia),ya];rcases xB a with⟨h1,h2⟩|⟨h1,h2⟩<;>rcases xB b with⟨h3,h4⟩|⟨h3,h4⟩<;>rw[h3,h2,h4]<;>simp_all
   ·congr 1;lia
   ·congr 1;lia
  ·have hd:(yF<|nv a.2-nv b.2).length<=100000:=xan (VD<|xfp _ _)<|xan (yV ha.1) la;have he:¬qX ((nv a.2:Nat):Int) ((nv b.2:Nat):Int)<0:=by
    rcases xcf (nv b.2) (nv a.2)with h|h
    ·rw[w5<|by lia];decide
    ·rw[jL<|by lia];decide
   rw[ir he,zd rfl];simp only;rw[zd (Wv ha.1 hb.1 (by lia) (by lia)<|by lia),zC];simp only;rw[zd (yr (zx _) (by lia)<|by lia),ya];rcases xB a with⟨h1,h2⟩|⟨h1,h2⟩<;>rcases xB b with⟨h3,h4⟩|⟨h3,h4⟩<;>rw[h1,h2,h4]<;>simp_all
   ·congr 1;lia
   ·congr 1;lia
theorem qq(ha:KE a)(hb:KE b)(hf:3000000<=fu):qj fu a b=some (yK<|zv a-zv b):=by
 unfold qj;have h1:=(Bz.neg hb.bz).ok<|xab _;rw[zd<|bH hb hf,zd<|qu ha h1 hf,zA];congr 2
theorem oE:0<(((yK x).2.length:Nat):Int)↔x≠0:=by grind [yK,yF,Fw,qb,Int.natAbs]
theorem dG(x:Int):(yK x).1=true↔x<0:=by unfold yK;simp
theorem xg{z:Zr}(h:KE z)(hf:3000000<=fu):xA fu z=some (qX (zv z) 0):=by grind [xA,zv,zd,uO,dG,tz,qd,oE,jL,w5]
theorem Gv(x y:Int):qX (x-y) 0=qX x y:=by grind [qd,jL,w5,xeJ]
theorem uo(ha:KE a)(hb:KE b)(hf:3000000<=fu)(hl:a.2.length<=99999:=by lia)(hc:b.2.length<=99999:=by lia):jm fu a b=some (qX (zv a)<|zv b):=by
 unfold jm;have h1:=((Bz.of ha.1).mono hl).sub<|(Bz.of hb.1).mono hc;rw[zd<|qq ha hb hf,zd<|xg (h1.ok<|xab _) hf,zA,Gv]
theorem yf(ha:KE a)(hb:KE b)(hf:3000000<=fu):zQ fu a b=some (yK<|zv a*zv b):=by
 have:=ha.2;have:=hb.2;exact be ha.1 hb.1 (by lia) (by lia)<|by lia
theorem yb(h:VH x)(hf:3000000<=fu):z8 fu x=some (yK x):=JX h
end
section
variable{fu k B i:Nat}{a x y b t:List Nat}
theorem xk:vB fu a (k:Int)=some (a.getD k 0):=by grind [vB,zw,zj,xaH]
theorem PW{x y:Nat}(hB:0<B)(h:x/B^(k+1)=y/B^(k+1))(hd:x/B^k%B<y/B^k%B):x<y:=by
 have h1:=Vx x B k hB;have h2:=Vx y B k hB;rw[h]at h1;refine xdy fun ha=> ?_;have:=Nat.div_le_div_right (c:=B^k) ha;omega
theorem zd9{x y:Nat}(hB:0<B)(h:x/B^(k+1)=y/B^(k+1))(hd:x/B^k%B=y/B^k%B):x/B^k=y/B^k:=by grind [Vx]
theorem cK(ha:wc a)(hb:wc b)(he:a.length<=1000000)(hg:b.length<=1000000)(hf:2000000<fu):uI fu a b=some (qX (nw a:Nat) (nw b:Nat)):=by
 unfold uI;have e1:max (a.length:Int) (b.length:Int)=((max a.length b.length:Nat):Int):=by omega
 rw[zj,e1,ze];have t0:nw a/4294967296^(max a.length b.length)=nw b/4294967296^(max a.length b.length):=by
  have h1:nw a<4294967296^(max a.length b.length):=xal (Kp ha)<|xaz (by decide)<|xec _ _;have h2:nw b<4294967296^(max a.length b.length):=xal (Kp hb)<|xaz (by decide)<|xdK _ _;rw[xbv h1,xbv h2]
 have g1:∀k,a.getD k 0=nw a/4294967296^k%4294967296:=eD ha;have g2:∀k,b.getD k 0=nw b/4294967296^k%4294967296:=eD hb;by_cases hc:nw a=nw b
 ·rw[zd (v:=.inl ())]
  ·rw[hc,jL rfl]
  ·refine zB (fun i:Int=>∃m:Nat,i=(m:Int)-1/\m<=max a.length b.length) (fun i=>(i+1).toNat) _ ?_ _ _ ⟨_,rfl,xab _⟩ (by omega);rintro i L ⟨m,rfl,hm⟩ ih;unfold Zu;by_cases h0:m=0
   ·rw[zC]
   ·have e:(m:Int)-1=((m-1:Nat):Int):=by omega
    rw[zP,e,zd xk,zd xk,g1,g2,hc,zC,zd xk,zd xk,g1,g2,hc,zC,ze];exact ih _ ⟨m-1,rfl,by omega⟩<|by omega
 ·rw[zd (v:=.inr<|qX (nw a:Nat) (nw b:Nat))];refine zB (fun i:Int=>∃m:Nat,i=(m:Int)-1/\m<=max a.length b.length/\nw a/4294967296^m=nw b/4294967296^m) (fun i=>(i+1).toNat) _ ?_ _ _ ⟨_,rfl,xab _,t0⟩ (by omega);rintro i L ⟨m,rfl,hm,ht⟩ ih;unfold Zu;by_cases h0:m=0
  ·subst h0;rw[xef,xdT,xdT]at ht;exact absurd ht hc
  ·have e:(m:Int)-1=((m-1:Nat):Int):=by omega
   have hd:nw a/4294967296^(m-1+1)=nw b/4294967296^(m-1+1):=by rw[show m-1+1=m by omega];exact ht
   rw[zP,e,zd xk,zd xk];by_cases h1:a.getD (m-1) 0<b.getD (m-1) 0
   ·rw[zP,qd];rw[g1,g2]at h1;have:=PW (by decide) hd h1;omega
   ·rw[zC,zd xk,zd xk];by_cases h2:b.getD (m-1) 0<a.getD (m-1) 0
    ·rw[zP,w5];rw[g1,g2]at h2;have:=PW (by decide) hd.symm h2;omega
    ·rw[zC,ze];refine ih _ ⟨m-1,rfl,by omega,zd9 (by decide) hd ?_⟩ (by omega);rw[<-g1,<-g2];omega
theorem CY{c:Nat}(ht:t.length=i)(h:nw t+4294967296^i*c=nw (x.take i)+nw (y.take i)):
 nw (t++[(x.getD i 0+y.getD i 0+c)%4294967296])+4294967296^(i+1)*((x.getD i 0+y.getD i 0+c)/4294967296)=nw (x.take<|i+1)+nw (y.take<|i+1):=by grind [NZ,WZ,xbd,xbB,xaX,xbh]
theorem px(ha:zo a)(hb:zo b)(hg:a.length<=200000)(hj:b.length<=200000)(hf:2000000<fu):Ql fu a b=some (yF<|nv a+nv b):=by
 unfold Ql;rw[zd (jQ ha (by omega)<|by omega),zd<|jQ hb (by omega)<|by omega];have l1:=dH ha;have l2:=dH hb;have L1:=Je<|nv a;have L2:=Je<|nv b;have v1:=Vk<|nv a;have v2:=Vk<|nv b;generalize mU (nv a)=x at*
 generalize mU (nv b)=y at*
 obtain⟨n,hn⟩:∃n,n=max x.length y.length+1:=⟨_,rfl⟩;have hd:nw x+nw y<4294967296^n:=by
  have h1:nw x<4294967296^(max x.length y.length):=xal (Kp L1)<|xaz (by decide)<|xec _ _;have h2:nw y<4294967296^(max x.length y.length):=xal (Kp L2)<|xaz (by decide)<|xdK _ _;rw[hn,xbd];omega
 rw[zd (v:=Jd n<|nw x+nw y)]
 ·rw[zd (QP (aD _ _) (by rw[Za];omega)<|by rw[Za];omega),n5,xar hd,v1,v2]
 ·refine zB (fun s:List Nat×Nat×Int=>∃(t:List Nat) (c i:Nat),s=(t,c,(i:Int))/\i<=n/\t.length=i/\wc t/\c<=1/\nw t+4294967296^i*c=nw (x.take i)+nw (y.take i)) (fun s=>n-s.2.2.toNat) _ ?_ _ _ ⟨[],0,0,rfl,by omega,rfl,wc.nil,by omega,by simp[nw]⟩ (by show n-0<fu;omega);rintro s L ⟨t,c,i,rfl,hi,ht,hD,hc,hv⟩ ih;unfold bF;simp only;have e1:max (x.length:Int) (y.length:Int)=((max x.length y.length:Nat):Int):=by omega
  rw[zj,e1,ze];by_cases h1:i<n
  ·have b1:=L1.getD i;have b2:=L2.getD i;have e2:((x.getD i 0+y.getD i 0)%18446744073709551616+c)%18446744073709551616=x.getD i 0+y.getD i 0+c:=by omega
   rw[zP,zd xk,zd xk,zj,zj,zj,HS,e2,wE (by simp[ht];omega),zj,zj,CD,ze];refine ih _ ⟨_,_,i+1,rfl,by omega,by simp[ht],hD.append<|wc.cons (xbi _<|by decide) wc.nil,by omega,CY ht hv⟩ (by show n-((i:Int)+1).toNat<n-(i:Int).toNat;omega)
  ·rw[zC];obtain rfl:i=n:=by omega
   rw[xaQ (by omega),xaQ<|by omega]at hv;have hp:0<4294967296^i:=xbj (by decide);have he:c=0:=by
    rcases xcv c with h|h
    ·exact h
    ·have:4294967296^i*1<=4294967296^i*c:=xaD _ h;omega
   subst he;rw[xcO,xbS]at hv;rw[<-hv,<-ht,ga hD]
theorem AF{b D:Nat}(ht:t.length=i)(hD:D+y.getD i 0+b=x.getD i 0+4294967296)(h:nw t+nw (y.take i)=nw (x.take i)+4294967296^i*b)(ha:D<8589934592):
 nw (t++[D%4294967296])+nw (y.take<|i+1)=nw (x.take<|i+1)+4294967296^(i+1)*(1-D/4294967296):=by
 rw[NZ,ht,WZ,WZ,xbd];have hd:D/4294967296=0\/D/4294967296=1:=by omega
 have e1:4294967296^i*(D%4294967296)+4294967296^i*y.getD i 0+4294967296^i*b+4294967296^i*4294967296*(D/4294967296)=4294967296^i*x.getD i 0+4294967296^i*4294967296:=by
  rw[xaX,<-xbh,<-xbh,<-xbh,<-xbh];congr 1;omega
 rcases hd with h0|h0<;>rw[h0]at e1⊢<;>omega
theorem mF(hx:wc x)(hy:wc y)(hl:x.length<=1000000)(hf:2000000<fu)(h:nw y<=nw x):WH fu x y=some (mU<|nw x-nw y):=by
 unfold WH;have hX:=Kp hx;have ha:nw (y.take x.length)=nw y:=by rw[O0 hy,xar<|by omega]
 have key:∃t,wc t/\t.length=x.length/\nw t=nw x-nw y/\zm (Vi fu x y) fu ([],0,0)=some t:=by
  refine⟨Jd x.length<|nw x-nw y,aD _ _,Za _ _,by rw[n5,xar<|by omega],?_⟩;refine zB (fun s:List Nat×Nat×Int=>∃(t:List Nat) (b i:Nat),s=(t,b,(i:Int))/\i<=x.length/\t.length=i/\wc t/\b<=1/\nw t+nw (y.take i)=nw (x.take i)+4294967296^i*b) (fun s=>x.length-s.2.2.toNat) _ ?_ _ _ ⟨[],0,0,rfl,by omega,rfl,wc.nil,by omega,by simp[nw]⟩ (by show x.length-0<fu;omega);rintro s L ⟨t,b,i,rfl,hi,ht,hD,hb,hv⟩ ih;unfold Vi;simp only;by_cases h1:i<x.length
  ·have b1:=hx.getD i;have b2:=hy.getD i;obtain⟨D,hd⟩:∃D,D=x.getD i 0+4294967296-y.getD i 0-b:=⟨_,rfl⟩;have e2:(((x.getD i 0+4294967296)%18446744073709551616+18446744073709551616-y.getD i 0)%18446744073709551616+18446744073709551616-b)%18446744073709551616=D:=by omega
   have e3:(1+18446744073709551616-D/2^32)%18446744073709551616=1-D/4294967296:=by omega
   rw[zP,zd xk,zj,zd xk,zj,zj,zj,HS,e2,wE (by simp[ht];omega),zj,zj,CD,zj,e3,ze];exact ih _ ⟨_,_,i+1,rfl,by omega,by simp[ht],hD.append<|wc.cons (xbi _<|by decide) wc.nil,by omega,AF ht (by omega) hv<|by omega⟩ (by show x.length-((i:Int)+1).toNat<x.length-(i:Int).toNat;omega)
  ·rw[zC];obtain rfl:i=x.length:=by omega
   rw[ha,xcy]at hv;have hT:=Kp hD;rw[ht]at hT;have hc:b=0:=by
    rcases xcv b with h|h
    ·exact h
    ·have:4294967296^x.length*1<=4294967296^x.length*b:=xaD _ h;omega
   subst hc;rw[xcO,xbS]at hv;rw[show nw x-nw y=nw t by omega,<-ht,ga hD]
 obtain⟨t,k1,k2,k3,k4⟩:=key;rw[zd k4,zd (U1 k1 (by omega)<|by omega),k3]
theorem UG(ha:zo a)(hb:zo b)(hd:a.length<=200000)(he:b.length<=200000)(hf:2000000<fu):
 Y3 fu a b=some (if nv a<nv b then([],1)else(yF<|nv a-nv b,0)):=by
 unfold Y3;rw[zd (jQ ha (by omega)<|by omega),zd<|jQ hb (by omega)<|by omega];have l1:=dH ha;have l2:=dH hb;have L1:=Je<|nv a;have L2:=Je<|nv b;rw[zd<|cK L1 L2 (by omega) (by omega) hf,Vk,Vk];by_cases h:nv a<nv b
 ·rw[qd (by omega),iq (by decide),iq h]
 ·have hc:¬qX ((nv a:Nat):Int) ((nv b:Nat):Int)<0:=by
   rcases xcf (nv b) (nv a)with h|h
   ·rw[w5<|by omega];decide
   ·rw[jL<|by omega];decide
  have l3:(mU<|nv a-nv b).length<=2*a.length:=by
   rw[YD,sZ];exact xba (xfp _ _)<|qF ha
  rw[ir hc,ir h,zd (mF L1 L2 (by omega) hf<|by rw[Vk,Vk];omega),Vk,Vk,zd (QP (Je _) (by omega)<|by omega),Vk]
theorem vm{z:Zr}(h:zo z.2)(hl:z.2.length<=200000)(hf:3000000<=fu):xH fu z=some (yK<|zv z):=nS h (by omega)<|by omega
theorem zdf(s:Bool)(n:Nat):zv (s,yF n)=if s=true then-(n:Int)else(n:Int):=by unfold zv;rw[ya]
theorem sC{z:Zr}(h:KE z)(hf:3000000<=fu):VO fu z=some (yK (-zv z)):=by
 unfold VO;have:=h.2;rw[zd<|vm (z:=(!z.1,z.2)) h.1 (by show z.2.length<=_;omega) hf];rcases xB z with⟨h1,h2⟩|⟨h1,h2⟩
 ·rw[h2];unfold zv;simp[h1]
 ·rw[h2];unfold zv;simp[h1]
theorem tJ{a b:Zr}(ha:KE a)(hb:KE b)(hf:3000000<=fu):Qk fu a b=some (yK<|zv a+zv b):=by
 unfold Qk;have la:=ha.2;have lb:=hb.2;have he:(yF<|nv a.2+nv b.2).length<=100001:=Zg (xan (yV ha.1) la)<|xan (yV hb.1) lb;rw[zj];by_cases hs:a.1=b.1
 ·rw[iq (by simp[hs]),zd (px ha.1 hb.1 (by omega) (by omega)<|by omega),zd<|vm (z:=(a.1,yF<|nv a.2+nv b.2)) (zx _) (by show(yF _).length<=_;omega) hf,zdf];rcases xB a with⟨h1,h2⟩|⟨h1,h2⟩<;>rcases xB b with⟨h3,h4⟩|⟨h3,h4⟩
  ·rw[h1,h2,h4,iq rfl];congr 2;omega
  ·rw[h1,h3]at hs;cases hs
  ·rw[h1,h3]at hs;cases hs
  ·rw[h1,h2,h4,ir<|by decide];congr 2
 ·rw[ir (by simp[hs]),zd<|UG ha.1 hb.1 (by omega) (by omega)<|by omega];by_cases hc:nv a.2<nv b.2
  ·have hd:(yF<|nv b.2-nv a.2).length<=100000:=xan (VD<|xfp _ _)<|xan (yV hb.1) lb;rw[iq hc];simp only;rw[ir (by decide),zd (UG hb.1 ha.1 (by omega) (by omega)<|by omega),zC];simp only;rw[zd<|vm (z:=(b.1,yF<|nv b.2-nv a.2)) (zx _) (by show(yF _).length<=_;omega) hf,zdf];rcases xB a with⟨h1,h2⟩|⟨h1,h2⟩<;>rcases xB b with⟨h3,h4⟩|⟨h3,h4⟩
   ·rw[h1,h3]at hs;exact absurd rfl hs
   ·rw[h3,h2,h4,ir<|by decide];congr 2;omega
   ·rw[h3,h2,h4,iq rfl];congr 2;omega
   ·rw[h1,h3]at hs;exact absurd rfl hs
  ·have hd:(yF<|nv a.2-nv b.2).length<=100000:=xan (VD<|xfp _ _)<|xan (yV ha.1) la;rw[ir hc];simp only;rw[iq trivial,zd<|vm (z:=(a.1,yF<|nv a.2-nv b.2)) (zx _) (by show(yF _).length<=_;omega) hf,zdf];rcases xB a with⟨h1,h2⟩|⟨h1,h2⟩<;>rcases xB b with⟨h3,h4⟩|⟨h3,h4⟩
   ·rw[h1,h3]at hs;exact absurd rfl hs
   ·rw[h1,h2,h4,iq rfl];congr 2;omega
   ·rw[h1,h2,h4,ir<|by decide];congr 2;omega
   ·rw[h1,h3]at hs;exact absurd rfl hs
theorem rV{a b:Zr}(ha:KE a)(hb:KE b)(hf:3000000<=fu):Qa fu a b=some (yK<|zv a-zv b):=by
 unfold Qa;have h1:=(Bz.neg hb.bz).ok<|xab _;rw[zd<|sC hb hf,zd<|tJ ha h1 hf,zA];congr 2
theorem Kx{z:Zr}(h:KE z)(hf:3000000<=fu):ZJ fu z=some (qX (zv z) 0):=by
 unfold ZJ;have:=h.2;rw[zd<|vm h.1 (by omega) hf];by_cases h1:zv z<0
 ·rw[iq<|(dG _).2 h1,qd h1]
 ·rw[ir<|fun e=>h1<|(dG _).1 e];by_cases h2:zv z=0
  ·rw[ir<|fun e=>oE.1 e h2,jL h2]
  ·rw[iq<|oE.2 h2,w5<|by omega]
theorem rK{a b:Zr}(ha:KE a)(hb:KE b)(hf:3000000<=fu)(hl:a.2.length<=99999)(hc:b.2.length<=99999):VP fu a b=some (qX (zv a)<|zv b):=by
 unfold VP;have h1:=((Bz.of ha.1).mono hl).sub<|(Bz.of hb.1).mono hc;rw[zd<|rV ha hb hf,zd<|Kx (h1.ok<|xab _) hf,zA,Gv]
end
section
variable{b v1 v0 u w q r fu x y s lo:Nat}
theorem zaJ(ha:q*v1+r=u)(h:q*v0<=b*r+w):q*(v1*b+v0)<=u*b+w:=by grind [xbh,xaX,xaR,xaU]
theorem R4(ha:q*v1+r=u)(h:b*r+w<q*v0):u*b+w<q*(v1*b+v0):=by grind [xbh,xaX,xaR,xaU]
theorem im(hv:0<v1*b+v0)(ha:q*v1+r=u)(hb:(u*b+w)/(v1*b+v0)<=q:=by lia)(h:q*v0<=b*r+w:=by lia):q=(u*b+w)/(v1*b+v0):=
 xcU ((xcw hv).2<|zaJ ha h) hb
theorem Tx(hv:0<v1*b+v0)(ha:q*v1+r=u)(h:b*r+w<q*v0):(u*b+w)/(v1*b+v0)<=q-1/\0<q/\(q-1)*v1+(r+v1)=u:=by
 have h0:0<q:=by
  rcases xcv q with h0|h0
  ·subst h0;lia
  ·exact h0
 have h1:=(xbc hv).2<|R4 ha h;refine⟨by lia,h0,?_⟩;obtain⟨p,rfl⟩:∃p,q=p+1:=⟨q-1,by lia⟩;rw[xaR]at ha;simp only[xeu];lia
theorem LF(hu:u<v1*b+v0)(ha:v0<b)(hb:q*v1+r=u)(hr:b<=r):q<b:=by
 refine xdy fun h=> ?_;have:b*v1<=q*v1:=xat _ h;rw[xaU b]at this;lia
theorem MV(hq:q<b)(ha:v0<b)(hr:b<=r):q*v0<=b*r+w:=by
 have h1:q*v0<=b*b:=xbJ (xcS hq)<|xcS ha;have h2:b*b<=b*r:=xaD _ hr;lia
theorem Jr(hu:u<v1*b+v0)(hw:w<b:=by lia):(u*b+w)/(v1*b+v0)<b:=by
 have hv:0<v1*b+v0:=by lia
 rw[xbc hv];have:(u+1)*b<=(v1*b+v0)*b:=xat _ hu;rw[xaR]at this;rw[xaU b];lia
theorem r7{β:Type}(mk:Nat->Nat->β)(ms:β->Nat)(hc:∀q r,ms (mk q r)=2-r/2147483648){f:(β->Option Nat)->β->Option Nat}(h1:2147483648<=v1)(h2:v1<4294967296)(h0:v0<4294967296)(hu:u<v1*4294967296+v0)(hw:w<4294967296)(hf:10<fu)(he:∀(q r:Nat) (L:β->Option Nat),q<18446744073709551616->r<4294967296->q*v0<18446744073709551616\/4294967296<=q->
 f L (mk q r)=if 4294967296<=q then(if 4294967296<=r+v1 then some (q-1)else L (mk (q-1)<|r+v1))else if 4294967296*r+w<q*v0 then(if 4294967296<=r+v1 then some (q-1)else L (mk (q-1)<|r+v1))else some q):
 zm f fu (mk (u/v1)<|u%v1)=some ((u*4294967296+w)/(v1*4294967296+v0)):=by
 have hv:0<v1*4294967296+v0:=by lia
 have hQ:=Jr hu hw;have hi:u/v1<18446744073709551616:=by
  rw[xbc<|by lia];have:v1*4294967296+v0<18446744073709551616*1:=by lia
  have h3:18446744073709551616*1<=18446744073709551616*v1:=xaD _ (by lia);lia
 refine zB (fun s:β=>∃q r,s=mk q r/\q<18446744073709551616/\r<4294967296/\q*v1+r=u/\(u*4294967296+w)/(v1*4294967296+v0)<=q) ms _ ?_ _ _ ⟨_,_,rfl,hi,?_,?_,?_⟩<|by rw[hc];lia
 ·rintro s L ⟨q,r,rfl,hq,hr,hg,hj⟩ ih;have hk:q*v0<18446744073709551616\/4294967296<=q:=by
   rcases xcf q 4294967296 with h|h
   ·left;exact xdJ (a:=q) (b:=v0) (c:=4294967296) (d:=4294967296) h h0
   ·exact .inr h
  rw[he q r L hq hr hk];by_cases hb:4294967296<=q
  ·rw[iq hb];have hd:(q-1)*v1+(r+v1)=u:=by
    obtain⟨p,rfl⟩:∃p,q=p+1:=⟨q-1,by lia⟩;rw[xaR]at hg;simp only[xeu];lia
   by_cases ha:4294967296<=r+v1
   ·rw[iq ha,<-im hv hd (by lia)<|MV (LF hu h0 hd ha) h0 ha]
   ·rw[ir ha];exact ih _ ⟨_,_,rfl,by lia,by lia,hd,by lia⟩<|by rw[hc,hc];lia
  ·rw[ir hb];by_cases ht:4294967296*r+w<q*v0
   ·obtain⟨d1,d2,d3⟩:=Tx hv hg ht;rw[iq ht];by_cases ha:4294967296<=r+v1
    ·rw[iq ha,<-im hv d3 d1<|MV (LF hu h0 d3 ha) h0 ha]
    ·rw[ir ha];exact ih _ ⟨_,_,rfl,by lia,by lia,d3,d1⟩<|by rw[hc,hc];lia
   ·rw[ir ht,<-im hv hg hj]
 ·have:=xbi u (show 0<v1 by lia);lia
 ·rw[xaU];exact xbB u v1
 ·rw[xcw<|by lia];have h3:(u*4294967296+w)/(v1*4294967296+v0)*(v1*4294967296+v0)<=u*4294967296+w:=xdo _ _;generalize(u*4294967296+w)/(v1*4294967296+v0)=Q at*
  rw[xbh,<-xaX]at h3;generalize Q*v1=A at*
  lia
theorem L8(h:y<2^s):x*2^s|||y=x*2^s+y:=by grind [xaU,Nat.two_pow_add_eq_or_of_lt]
theorem H9(h0:0<y)(h:y<18446744073709551616):bl y<=64/\9223372036854775808<=y*2^(64-bl y)/\y*2^(64-bl y)<18446744073709551616:=by
 have h1:bl y<=64:=VT (k:=64) (by simpa using h);have h2:=sP y;refine⟨h1,?_,?_⟩
 ·have hp:1<=bl y:=by rw[JR h0];lia
  have ha:2^(bl y-1)<=y:=by
   refine xbw fun hb=> ?_;have:=VT hb;lia
  have e:(9223372036854775808:Nat)=2^(bl y-1)*2^(64-bl y):=by rw[<-xbY,show bl y-1+(64-bl y)=63 by lia]
  rw[e];exact xat _ ha
 ·have e:(18446744073709551616:Nat)=2^bl y*2^(64-bl y):=by rw[<-xbY,show bl y+(64-bl y)=64 by lia]
  rw[e];exact xbX h2<|xbj<|by decide
theorem IG(ha:lo<18446744073709551616)(hs:s<=64):lo*2^s=lo/2^(64-s)*18446744073709551616+lo*2^s%18446744073709551616/\lo/2^(64-s)<2^s:=by
 have e:(18446744073709551616:Nat)=2^(64-s)*2^s:=by rw[<-xbY,show 64-s+s=64 by lia]
 have hp:0<2^s:=xbj (by decide);have e2:lo*2^s/18446744073709551616=lo/2^(64-s):=by rw[e,xfz _ _ hp]
 have h:=xbB (lo*2^s) 18446744073709551616;rw[e2]at h;refine⟨by lia,?_⟩;rw[xbc (xbj<|by decide),xaU,<-e];exact ha
theorem cB{w1 w0:Nat}(hy:0<y)(hb:0<b)(ha:w0<b):((x*b+w1)*b+w0)/y=(x*b+w1)/y*b+((x*b+w1)%y*b+w0)/y/\((x*b+w1)*b+w0)%y=((x*b+w1)%y*b+w0)%y:=by
 generalize x*b+w1=X;have h:=xbB X y;have e:X*b+w0=X%y*b+w0+y*(X/y*b):=by
  conv=>lhs;rw[<-h]
  rw[xaR,xaX];lia
 rw[e];constructor
 ·rw[xcE _ _ hy];lia
 ·rw[xbW]
theorem zjd{a:Nat}(ha:a<4294967296)(hb:b<4294967296):(a*4294967296%18446744073709551616+b)%18446744073709551616=a*4294967296+b:=by lia
theorem qY(hx:x<18446744073709551616):xi fu x=some ((64-bl x:Nat):Int):=by
 unfold xi;have h:bl x<=64:=VT (k:=64) (by simpa using hx);rw[zd<|vP hx,ze];congr 1;lia
theorem Y6{hi:Nat}(hn:lo<18446744073709551616)(hy:y<18446744073709551616)(hh:hi<y)(hf:10<fu):
 vS fu hi lo y=some ((hi*18446744073709551616+lo)/y,(hi*18446744073709551616+lo)%y):=by
 unfold vS;rw[zC,zC];by_cases h0:hi=0
 ·subst h0;rw[iq rfl,yL,zj,yL,zj,xcs,xaN]
 ·rw[zC,zd<|qY hy];obtain⟨n1,n2,n3⟩:=H9 (y:=y) (by lia) hy;obtain⟨s,hs⟩:∃s,s=64-bl y:=⟨_,rfl⟩;rw[<-hs]at n2 n3⊢;have hk:s<=64:=by lia
  have eu:rY (s:Int)=s:=by have:=sK (x:=(s:Int)) (by lia) (by lia);lia
  have em:min (s:Int).toNat 64=s:=by lia
  have e8:(64+18446744073709551616-s)%18446744073709551616=64-s:=by lia
  have em2:min (((64-s:Nat):Nat):Int).toNat 64=64-s:=by lia
  obtain⟨Y,hY⟩:∃Y,Y=y*2^s:=⟨_,rfl⟩;rw[<-hY]at n2 n3;obtain⟨w1,w2⟩:=IG hn hk;have hp:0<2^s:=xbj (by decide);have hx:hi*2^s+2^s<=Y:=by
   have:(hi+1)*2^s<=y*2^s:=xat _ hh;rw[xaR,xcb]at this;rw[hY];exact this
  simp only[nm,eu,em,e8,em2,HS,CD];rw[<-hY,xar n3,xar (show hi*2^s<18446744073709551616 by lia),L8 w2];obtain⟨u,hu⟩:∃u,u=hi*2^s+lo/2^(64-s):=⟨_,rfl⟩;obtain⟨t,ht⟩:∃t,t=lo*2^s%18446744073709551616:=⟨_,rfl⟩;have hv:t<18446744073709551616:=by rw[ht];exact xbi _<|by decide
  rw[<-hu,<-ht];have hd:u<Y:=by lia
  have ho:(hi*18446744073709551616+lo)*2^s=u*18446744073709551616+t:=by
   rw[xaR,w1,hu,<-ht,xaR,Nat.mul_right_comm];lia
  have he:Y=Y/4294967296*4294967296+Y%4294967296:=by lia
  have a1:2147483648<=Y/4294967296:=by lia
  have a2:Y/4294967296<4294967296:=by lia
  have a0:Y%4294967296<4294967296:=by lia
  have step:∀{u w:Nat},u<Y->w<4294967296->(u*4294967296+w)/(Y/4294967296*4294967296+Y%4294967296)=(u*4294967296+w)/Y:=by intro u w _ _;rw[<-he]
  have ew:Y/2^32=Y/4294967296:=rfl;have et:t/2^32=t/4294967296:=rfl;rw[ew,et,yL];have m15:∀{u:Nat},u<Y->(u+18446744073709551616-u/(Y/4294967296)*(Y/4294967296)%18446744073709551616)%18446744073709551616=u%(Y/4294967296):=by
   intro u hu;have h1:=xbB u<|Y/4294967296;rw[xaU]at h1;have h2:u/(Y/4294967296)*(Y/4294967296)<=u:=by lia
   rw[xar (show u/(Y/4294967296)*(Y/4294967296)<18446744073709551616 by lia)];lia
  have body:∀{q r w:Nat},q<18446744073709551616->r<4294967296->w<4294967296->(q*(Y%4294967296)<18446744073709551616\/4294967296<=q)->∀(A B C:Option Nat),(4294967296<=r+Y/4294967296->A=some (q-1))->(¬4294967296<=r+Y/4294967296->A=B)->C=some q->
   (if((4294967296:Nat):Int)<=(q:Int)then A else if(((4294967296*r%18446744073709551616+w)%18446744073709551616:Nat):Int)<((q*(Y%4294967296)%18446744073709551616:Nat):Int)then A else C)=
   if 4294967296<=q then(if 4294967296<=r+Y/4294967296 then some (q-1)else B)else if 4294967296*r+w<q*(Y%4294967296)then(if 4294967296<=r+Y/4294967296 then some (q-1)else B)else some q:=by
   intro q r w hq hr hw hg A B C h1 h2 h3;have hA:A=if 4294967296<=r+Y/4294967296 then some (q-1)else B:=by
    split
    ·next h=>exact h1 h
    ·next h=>exact h2 h
   rw[<-hA,h3];by_cases hb:4294967296<=q
   ·rw[zP,iq hb]
   ·have e3:(q*(Y%4294967296))%18446744073709551616=q*(Y%4294967296):=xar<|hg.resolve_right hb;have e4:(4294967296*r%18446744073709551616+w)%18446744073709551616=4294967296*r+w:=by lia
    rw[zC,ir hb,e3,e4];by_cases h4:4294967296*r+w<q*(Y%4294967296)
    ·rw[zP,iq h4]
    ·rw[zC,ir h4]
  have L0:zm (qA fu (Y/4294967296) (Y%4294967296)<|t/4294967296) fu (u/(Y/4294967296),u%(Y/4294967296))=some ((u*4294967296+t/4294967296)/Y):=by
   rw[<-step hd (by lia:t/4294967296<4294967296)];refine r7 (fun q r=>(q,r)) (fun s=>2-s.2/2147483648) (fun _ _=>rfl) (w:=t/4294967296) a1 a2 a0 (by rw[<-he];exact hd) (by lia) hf ?_;intro q r L hq hr hg;have e1:(r+Y/4294967296)%18446744073709551616=r+Y/4294967296:=by lia
   by_cases hc:q=0
   ·subst hc;unfold qA;simp only[nm,xcs,Nat.zero_mod];rw[zC,zC,zC,zC]
   have e2:(q+18446744073709551616-1)%18446744073709551616=q-1:=by lia
   refine Eq.trans ?_<|body hq hr (by lia) hg (if 4294967296<=r+Y/4294967296 then some (q-1)else L (q-1,r+Y/4294967296)) _ _ (fun h=>iq h) (fun h=>ir h) rfl;unfold qA;simp only[nm,e1,e2];have e5:∀(X:Option Nat),(if((4294967296:Nat):Int)<=((r+Y/4294967296:Nat):Int)then some (q-1)else X)=if 4294967296<=r+Y/4294967296 then some (q-1)else X:=by
    intro X;by_cases h:4294967296<=r+Y/4294967296
    ·rw[zP,iq h]
    ·rw[zC,ir h]
   rw[e5]
  have rem:∀{x q:Nat},x/Y=q->∀{m:Nat},m=x%18446744073709551616->(m+18446744073709551616-q*Y%18446744073709551616)%18446744073709551616=x%Y:=by
   intro x q hq m hm;have h1:=xbB x Y;rw[hq,xaU]at h1;have h2:=xbi x (show 0<Y by lia);lia
  rw[m15 hd,zd L0,rem rfl (x:=u*4294967296+t/4294967296)<|by lia];obtain⟨u2,hj⟩:∃u2,u2=(u*4294967296+t/4294967296)%Y:=⟨_,rfl⟩;have ha:u2<Y:=by rw[hj];exact xbi _<|by lia
  rw[<-hj,yL,m15 ha];have L1:zm (qD fu (Y/4294967296) (Y%4294967296)<|t%4294967296) fu (u2%(Y/4294967296),u2/(Y/4294967296))=some ((u2*4294967296+t%4294967296)/Y):=by
   rw[<-step ha (by lia:t%4294967296<4294967296)];refine r7 (fun q r=>(r,q)) (fun s=>2-s.1/2147483648) (fun _ _=>rfl) (w:=t%4294967296) a1 a2 a0 (by rw[<-he];exact ha) (by lia) hf ?_;intro q r L hq hr hg;have e1:(r+Y/4294967296)%18446744073709551616=r+Y/4294967296:=by lia
   by_cases hc:q=0
   ·subst hc;unfold qD;simp only[nm,xcs,Nat.zero_mod];rw[zC,zC,zC,zC]
   have e2:(q+18446744073709551616-1)%18446744073709551616=q-1:=by lia
   refine Eq.trans ?_<|body hq hr (by lia) hg (if 4294967296<=r+Y/4294967296 then some (q-1)else L (r+Y/4294967296,q-1)) _ _ (fun h=>iq h) (fun h=>ir h) rfl;unfold qD;simp only[nm,e1,e2];have e5:∀(X:Option Nat),(if((4294967296:Nat):Int)<=((r+Y/4294967296:Nat):Int)then some (q-1)else X)=if 4294967296<=r+Y/4294967296 then some (q-1)else X:=by
    intro X;by_cases h:4294967296<=r+Y/4294967296
    ·rw[zP,iq h]
    ·rw[zC,ir h]
   rw[e5]
  rw[zd L1,rem rfl (x:=u2*4294967296+t%4294967296)<|by lia];have hl:=Jr (b:=4294967296) (v1:=Y/4294967296) (v0:=Y%4294967296) (u:=u) (w:=t/4294967296) (by rw[<-he];exact hd);rw[step hd<|by lia]at hl;have hc:=Jr (b:=4294967296) (v1:=Y/4294967296) (v0:=Y%4294967296) (u:=u2) (w:=t%4294967296) (by rw[<-he];exact ha);rw[step ha<|by lia]at hc;obtain⟨k1,k2⟩:=cB (x:=u) (b:=4294967296) (y:=Y) (w1:=t/4294967296) (w0:=t%4294967296) (by lia) (by decide) (by lia);rw[<-hj]at k1 k2;have eU:(u*4294967296+t/4294967296)*4294967296+t%4294967296=(hi*18446744073709551616+lo)*2^s:=by rw[ho];lia
  rw[eU,hY,xfz _ _ hp,<-hY]at k1;rw[eU,hY,xeD,<-hY]at k2;rw[k1,<-k2,Nat.mul_div_cancel _ hp];rw[zjd hl hc]
end
section
variable{x fu s:Nat}{a:List Nat}
theorem OJ{m:Nat}{l:List Nat}:(xaf (m+1) 0++l).set m x=xaf m 0++(x::l):=by
 rw[List.replicate_succ',xaj];rw[xfy _ _<|by simp];simp
theorem Cx(k n:Nat):wb (k+1) n=n%18446744073709551616::wb k (n/18446744073709551616):=rfl
theorem fF{q r:Nat}(h:r<18446744073709551616):(q*18446744073709551616+r)%18446744073709551616=r/\(q*18446744073709551616+r)/18446744073709551616=q:=by lia
theorem ie(A m:Nat):A/18446744073709551616^m=A/18446744073709551616^(m+1)*18446744073709551616+A/18446744073709551616^m%18446744073709551616:=by grind [Vx]
theorem pk(ha:zo a)(hx:x<18446744073709551616)(h0:0<x)(hl:a.length<=1000000)(hf:2000000<fu):Xk fu a x=some (yF<|nv a/x,nv a%x):=by
 unfold Xk;rw[yI,yL,zj,ze];have hA:=qF ha;have key:zm (QI fu a x) fu (0,(a.length:Int)-1,xaf a.length 0)=some (nv a%x,wb a.length<|nv a/x):=by
  refine zB (fun s:Nat×Int×List Nat=>∃m:Nat,m<=a.length/\s=(nv a/18446744073709551616^m%x,(m:Int)-1,xaf m 0++wb (a.length-m) (nv a/18446744073709551616^m/x))) (fun s=>(s.2.1+1).toNat) _ ?_ _ _ ⟨a.length,xab _,?_⟩ (by show((a.length:Int)-1+1).toNat<fu;lia)
  ·rintro s L ⟨m,hm,rfl⟩ ih;unfold QI;simp only
   cases m with
   |zero=>
    rw[zC,xef,xdT];simp
   |succ m=>
    have e:((m+1:Nat):Int)-1=(m:Int):=by lia
    have hb:=ha.getD m;have hd:nv a/18446744073709551616^(m+1)%x<x:=xbi _ h0;have hy:a.getD m 0=nv a/18446744073709551616^m%18446744073709551616:=VM ha m;have hs:=ie (nv a) m;rw[<-hy]at hs;rw[zP,e,yp,zj,zd<|Y6 hb hx hd<|by lia];obtain⟨k1,k2⟩:=cB (x:=0) (b:=18446744073709551616) (y:=x) (w1:=nv a/18446744073709551616^(m+1)) (w0:=a.getD m 0) h0 (by decide) hb;rw[xcs,xaN,<-hs]at k1 k2;rw[zw (by simp;lia),zj,ze,OJ,<-k2];refine ih _ ⟨m,by lia,?_⟩ (by show((m:Int)-1+1).toNat<(((m+1:Nat):Int)-1+1).toNat;lia);have hq:(nv a/18446744073709551616^(m+1)%x*18446744073709551616+a.getD m 0)/x<18446744073709551616:=by
     rw[xbc h0];have:(nv a/18446744073709551616^(m+1)%x+1)*18446744073709551616<=x*18446744073709551616:=xat _ hd;rw[xaU 18446744073709551616 x];lia
    have e2:a.length-m=(a.length-(m+1))+1:=by lia
    rw[k1,e2,Cx];congr 3;rw[(fF hq).1,(fF hq).2]
  ·rw[xbv hA,Nat.zero_div,Nat.zero_mod,xdb];simp[wb]
 rw[zd key];have hc:nv a/x<18446744073709551616^a.length:=xba (xdY _ _) hA;simp only;rw[zd (yZ (xJ _ _) (by rw[zS];lia)<|by rw[zS];lia),jc,xar hc]
theorem CF(hs:s<=64):(18446744073709551616:Nat)=2^(64-s)*2^s:=by rw[<-xbY,show 64-s+s=64 by lia]
theorem Ie{y c:Nat}(hy:y<18446744073709551616)(hs:s<64)(hc:c<2^s):y*2^s%18446744073709551616|||c=(y*2^s+c)%18446744073709551616/\y/2/2^(63-s)=(y*2^s+c)/18446744073709551616/\(y*2^s+c)/18446744073709551616<2^s:=by
 obtain⟨w1,w2⟩:=IG hy<|xcS hs;have hp:0<2^s:=xbj (by decide);have e:=CF<|xcS hs;have e3:y*2^s%18446744073709551616=y%2^(64-s)*2^s:=by rw[e,xeD]
 have h1:y%2^(64-s)*2^s+2^s<=18446744073709551616:=by
  rw[e];have:=xat (2^s)<|xbi y<|xbj (n:=64-s) (show 0<2 by decide);rw[Nat.succ_mul]at this;exact this
 have e4:y/2/2^(63-s)=y/2^(64-s):=by rw[xaL,show 64-s=63-s+1 by lia,xbd,xaU 2]
 refine⟨?_,?_,?_⟩
 ·rw[e3,L8 hc];rw[e3]at w1;generalize y%2^(64-s)*2^s=A at*
  generalize y*2^s=Z at*
  generalize y/2^(64-s)=W at*
  lia
 ·rw[e4];rw[e3]at w1;generalize y%2^(64-s)*2^s=A at*
  generalize y*2^s=Z at*
  generalize y/2^(64-s)=W at*
  lia
 ·rw[e3]at w1;generalize y%2^(64-s)*2^s=A at*
  generalize y*2^s=Z at*
  generalize y/2^(64-s)=W at*
  lia
theorem cT{a:List Nat}{s:Nat}(ha:zo a)(hs:s<64):∀k,(wg (Jt a<|2^s) k).2<2^s
 |0=>xbj<|by decide
 |k+1=>(Ie (ha.getD k) hs<|cT ha hs k).2.2
theorem rL:(2:Nat)^64=18446744073709551616:=by decide
theorem WY{n:Nat}(ha:zo a)(hl:a.length<=1000000:=by lia)(hn:n<=262144:=by lia)(hf:2000000<fu:=by lia):Yx fu a (n:Int)=some (yF<|nv a*2^n,0):=by
 unfold Yx;obtain⟨s,hs⟩:∃s,s=n%64:=⟨_,rfl⟩;have hb:s<64:=by lia
 rw[zC,zC,zd<|qO (step:=Jt a<|2^s) (by lia) (by lia) ?_]
 ·have he:=cT ha hb a.length;have hd:2^s<18446744073709551616:=by rw[<-rL];exact xeN (by decide) hb
  have e1:xde (n:Int) 64=((n/64:Nat):Int):=rfl;simp only;rw[wE (by have:=xL (Jt a<|2^s) a.length;simp[this];lia),zj,wE (by decide),e1,ze,Iv<|by lia];rw[zd (Vt (by lia)<|by rw[zS];lia),zd (yZ ((zo.replicate _).append<|xJ _ _) (by simp[zS];lia)<|by simp[zS];lia),sQ,jc,xar<|tW ha hd];congr 3;rw[<-rL,<-xda,xaU<|2^_,xaX,<-xbY];congr 2;lia
 ·intro k hk;have hc:=cT ha hb k;obtain⟨l1,l2,l3⟩:=Ie (ha.getD k) hb hc;unfold UH;have e1:xcc (n:Int) 64=((n%64:Nat):Int):=rfl;have m1:min (((1:Nat):Int)).toNat 64=1:=by decide
  have m2:min ((n%64:Nat):Int).toNat 64=s:=by lia
  have m3:(63:Int)-((n%64:Nat):Int)=((63-s:Nat):Int):=by lia
  have m4:min ((63-s:Nat):Int).toNat 64=63-s:=by lia
  rw[zw hk,zj,wE (by decide),zj,e1,yL,zj,m2,zj,zw hk,zj,zj,m1,wE (by decide),zj,m3,ze,yL,zj,m4,l1];rw[show(2:Nat)^1=2 from rfl,l2];rfl
theorem Cb{step:Nat->Nat->Nat×Nat}{X:Nat}(h:∀k,step k 0=(X/18446744073709551616^k%18446744073709551616,0)):∀n,wg step n=(wb n X,0)
 |0=>rfl
 |n+1=>by
  have ih:=Cb h n;unfold wg;rw[ih,h,QQ]
theorem zbZ{A k:Nat}(hs:s<64):A/18446744073709551616^k%18446744073709551616/2^s|||A/18446744073709551616^(k+1)%18446744073709551616*2%18446744073709551616*2^(63-s)%18446744073709551616=A/2^s/18446744073709551616^k%18446744073709551616:=by
 have e:=CF<|xcS hs;have hp:0<2^s:=xbj (by decide);have ha:0<2^(64-s):=xbj (by decide);have h1:=ie A k;have e0:A/18446744073709551616^(k+1)=A/18446744073709551616^k/18446744073709551616:=by rw[xbd,xaL]
 rw[xaL,xaU<|2^s,<-xaL];rw[e0]at h1⊢;generalize A/18446744073709551616^k=X at*
 have e1:X/18446744073709551616%18446744073709551616*2%18446744073709551616*2^(63-s)%18446744073709551616=X/18446744073709551616%2^s*2^(64-s):=by
  rw[Nat.mod_mul_mod,xaX,<-xek,show(63-s).succ=64-s by lia];rw[Nat.mod_mul_mod];generalize X/18446744073709551616=V;conv=>lhs;rw[e,xaU (2^(64-s))<|2^s]
  rw[xeD]
 have e2:X%18446744073709551616/2^s<2^(64-s):=by
  rw[xbc hp,<-e];exact xbi _<|by decide
 rw[e1,Nat.or_comm,L8 e2];have e3:X/2^s=X/18446744073709551616*2^(64-s)+X%18446744073709551616/2^s:=by
  have h2:=xbB X 18446744073709551616;have h3:X=X%18446744073709551616+2^s*(X/18446744073709551616*2^(64-s)):=by
   have:2^s*(X/18446744073709551616*2^(64-s))=18446744073709551616*(X/18446744073709551616):=by rw[e,xaU<|X/_,<-xaX,xaU<|2^s]
   lia
  conv=>lhs;rw[h3]
  rw[xcE _ _ hp];lia
 rw[e3];have e4:X/18446744073709551616*2^(64-s)=X/18446744073709551616%2^s*2^(64-s)+18446744073709551616*(X/18446744073709551616/2^s):=by
  have h2:=xbB (X/18446744073709551616)<|2^s;conv=>lhs;rw[<-h2]
  rw[xaR,e,xaU (2^(64-s))<|2^s,xaX,xaX,xaU (2^(64-s))<|_/_];lia
 have h5:X/18446744073709551616%2^s*2^(64-s)+2^(64-s)<=18446744073709551616:=by
  generalize X/18446744073709551616=V;rw[e,xaU (2^(64-s))<|2^s];have:=xat (2^(64-s))<|xbi V hp;rw[Nat.succ_mul]at this;exact this
 have h6:X/18446744073709551616%2^s*2^(64-s)+X%18446744073709551616/2^s<18446744073709551616:=by
  clear e4 e3 e1 e0 h1;generalize X/18446744073709551616%2^s*2^(64-s)=Z at*
  generalize X%18446744073709551616/2^s=V at*
  lia
 rw[e4,Nat.add_right_comm,xbW,xar h6]
theorem eH{n:Nat}(ha:zo a)(hl:a.length<=1000000)(hn:n<=1000000000)(hf:2000000<fu):Q6 fu a (n:Int)=some (yF<|nv a/2^n):=by
 unfold Q6;have e0:max (n:Int) 0=(n:Int):=by lia
 have e1:xde (n:Int) 64=((n/64:Nat):Int):=rfl;have e2:xcc (n:Int) 64=((n%64:Nat):Int):=rfl;have hA:=qF ha;have hb:2^n=18446744073709551616^(n/64)*2^(n%64):=by
  rw[<-rL,<-xda,<-xbY];congr 1;lia
 rw[zj,e0,wE (by decide),e1,ze];by_cases h:a.length<=n/64
 ·rw[zP];have:nv a/2^n=0:=by rw[hb,<-xaL,xbv<|xal hA<|xaz (by decide) h,Nat.zero_div]
  rw[this];rfl
 ·rw[zC,wE (by decide),ze,yI,yL,zj,wE (by decide),zj,e2];have hd:=ha.drop<|n/64;have hv:nv (a.drop<|n/64)=nv a/18446744073709551616^(n/64):=Dz ha _;obtain⟨D,hD⟩:∃D,D=a.drop (n/64):=⟨_,rfl⟩;rw[<-hD]at hd hv⊢;have he:D.length<=1000000:=by rw[hD,xbN];lia
  obtain⟨s,hs⟩:∃s,s=n%64:=⟨_,rfl⟩;have hc:s<64:=by lia
  have qs:=Cb (step:=fun k _=>(nv D/2^s/18446744073709551616^k%18446744073709551616,0)) (X:=nv D/2^s)<|fun _=>rfl;rw[<-hs,zd<|qO (step:=fun k _=>(nv D/2^s/18446744073709551616^k%18446744073709551616,0)) (by lia) (by lia) ?_]
  ·rw[qs];simp only;rw[zd (yZ (xJ _ _) (by rw[zS];lia)<|by rw[zS];lia),jc,xar<|xba (xdY _ _)<|qF hd,hv,hb,<-xaL,hs]
  ·intro k hk;rw[qs];unfold UF;have m1:min (((1:Nat):Int)).toNat 64=1:=by decide
   have m2:min (s:Int).toNat 64=s:=by lia
   have m3:(63:Int)-(s:Int)=((63-s:Nat):Int):=by lia
   have m4:min ((63-s:Nat):Int).toNat 64=63-s:=by lia
   have m5:(k:Int)+1=((k+1:Nat):Int):=by lia
   rw[zw hk,zj,yL,zj,m2,m5,ze,zd (Xc D<|by lia),zj,m1,m3,ze,yL,zj,m4,zj,VM hd,VM hd,show(2:Nat)^1=2 from rfl,zbZ hc]
end
section
variable{fu u v1 v0 v d x:Nat}
theorem MM{w:Nat}(h1:9223372036854775808<=v1)(h2:v1<18446744073709551616)(h0:v0<18446744073709551616)(hu:u<v1*18446744073709551616+v0)(hw:w<18446744073709551616)(hq:u/v1<18446744073709551616)(hf:10<fu):
 zm (QB fu w v1 v0) fu (u/v1,u%v1)=some ((u*18446744073709551616+w)/(v1*18446744073709551616+v0)):=by
 have hv:0<v1*18446744073709551616+v0:=by lia
 refine zB (fun s:Nat×Nat=>∃q r,s=(q,r)/\q<18446744073709551616/\r<18446744073709551616/\q*v1+r=u/\(u*18446744073709551616+w)/(v1*18446744073709551616+v0)<=q) (fun s=>2-s.2/9223372036854775808) _ ?_ _ _ ⟨_,_,rfl,hq,?_,?_,?_⟩ (by show 2-u%v1/9223372036854775808<fu;lia)
 ·rintro s L ⟨q,r,rfl,hq,hr,ha,hb⟩ ih;have hz:q*v0<18446744073709551616*18446744073709551616:=xdJ hq h0;have dec:∀(hc:18446744073709551616*r+w<q*v0),(if((0:Nat):Int)<(((r+v1+0)/18446744073709551616:Nat):Int)then some ((q+18446744073709551616-1)%18446744073709551616)else L ((q+18446744073709551616-1)%18446744073709551616,(r+v1+0)%18446744073709551616))=some ((u*18446744073709551616+w)/(v1*18446744073709551616+v0)):=by
   intro hc;obtain⟨d1,d2,d3⟩:=Tx hv ha hc;have e2:(q+18446744073709551616-1)%18446744073709551616=q-1:=by lia
   rw[e2];by_cases hd:18446744073709551616<=r+v1
   ·rw[zP,<-im hv d3 d1<|MV (LF hu h0 d3 hd) h0 hd]
   ·rw[zC];exact ih _ ⟨_,_,rfl,by lia,by lia,by rw[show(r+v1+0)%18446744073709551616=r+v1 by lia];exact d3,d1⟩ (by show 2-(r+v1+0)%18446744073709551616/9223372036854775808<2-r/9223372036854775808;lia)
  unfold QB;simp only;rw[zd<|Xy hq h0];simp only[nm];by_cases c1:q*v0/18446744073709551616<r
  ·rw[zP,<-im hv ha hb]
  ·rw[zC];by_cases c2:q*v0/18446744073709551616=r
   ·rw[zP];by_cases c3:q*v0%18446744073709551616<=w
    ·rw[zP,<-im hv ha hb]
    ·rw[zC,yL];exact dec<|by lia
   ·rw[zC,yL];exact dec<|by lia
 ·have:=xbi u (show 0<v1 by lia);lia
 ·rw[xaU];exact xbB u v1
 ·rw[xcw<|by lia];have h3:(u*18446744073709551616+w)/(v1*18446744073709551616+v0)*(v1*18446744073709551616+v0)<=u*18446744073709551616+w:=xdo _ _;generalize(u*18446744073709551616+w)/(v1*18446744073709551616+v0)=Q at*
  rw[xbh,<-xaX]at h3;generalize Q*v1=A at*
  lia
theorem sw{u2 u1 u0:Nat}(h1:9223372036854775808<=v1)(h2:v1<18446744073709551616)(h0:v0<18446744073709551616)(b1:u1<18446744073709551616)(b0:u0<18446744073709551616)(hf:10<fu):
 VV fu u2 u1 u0 v1 v0=some (if v1<=u2 then 18446744073709551615 else((u2*18446744073709551616+u1)*18446744073709551616+u0)/(v1*18446744073709551616+v0)):=by
 unfold VV;by_cases h:v1<=u2
 ·rw[zP,iq h]
 ·have hq:(u2*18446744073709551616+u1)/v1<18446744073709551616:=by
   rw[xbc<|by lia];have:(u2+1)*18446744073709551616<=v1*18446744073709551616:=xat _ (by lia);rw[xaU 18446744073709551616 v1];lia
  rw[zC,ir h,zd<|Y6 b1 h2 (by lia) hf];simp only;rw[zd<|MM h1 h2 h0 ?_ b0 hq hf];have:(u2+1)*18446744073709551616<=v1*18446744073709551616:=xat _ (by lia);lia
theorem zfg{q:Nat}(hd:0<d)(hv:0<v/d)(h:q*v<=u):q<=u/d/(v/d):=by
 refine(xcw hv).2<|(xcw hd).2 ?_;refine xan ?_ h;rw[xaX];exact xaD _<|xdo v d
theorem zez{B:Nat}(hd:0<d)(hx:x*(v/d)<=u/d)(hB:x<=B)(hv:B*d<=v):x*v<=u+v:=by
 have h1:x*v<=x*(v/d*d+d):=xaD _ (by have h:=xbB v d;have:=xbi v hd;rw[xaU d]at h;lia);have h2:x*(v/d*d+d)=x*(v/d)*d+x*d:=by rw[xbh,xaX]
 have h3:x*(v/d)*d<=u:=xan (xat _ hx)<|xdo u d;have h4:x*d<=B*d:=xat _ hB;lia
theorem MZ{U V D:Nat}(hD:0<D)(hV:9223372036854775808*(18446744073709551616*D)<=V)(he:V<18446744073709551616*(18446744073709551616*D))(hU:U<V*18446744073709551616)(hx:x=if V/D/18446744073709551616<=U/D/18446744073709551616/18446744073709551616 then 18446744073709551615 else U/D/(V/D)):U/V<=x/\x<=U/V+1/\x<18446744073709551616:=by
 have ha:0<V:=by
  have:0<9223372036854775808*(18446744073709551616*D):=by lia
  lia
 have hq:U/V<18446744073709551616:=by rw[xbc ha,xaU];exact hU
 have hf:9223372036854775808*18446744073709551616<=V/D:=by rw[xcw hD,xaX];exact hV
 have up:∀{x:Nat},x*V<=U+V->x<=U/V+1:=fun{x} h=>by
  have:x<=(U+V)/V:=(xcw ha).2 h;rw[Nat.add_div_right _ ha]at this;exact this
 by_cases h:V/D/18446744073709551616<=U/D/18446744073709551616/18446744073709551616
 ·rw[iq h]at hx;subst hx;refine⟨by lia,up ?_,by decide⟩;have e1:V/D/18446744073709551616=V/(D*18446744073709551616):=xaL ..;have e2:U/D/18446744073709551616/18446744073709551616=U/(D*18446744073709551616*18446744073709551616):=by rw[xaL,xaL,<-xaX]
  rw[e1,e2]at h;have hE:0<D*18446744073709551616:=by lia
  have k1:=xdo U<|D*18446744073709551616*18446744073709551616;have k2:V<(V/(D*18446744073709551616)+1)*(D*18446744073709551616):=by
   have h1:=xbB V<|D*18446744073709551616;have h2:=xbi V hE;rw[xaR,xcb,xaU];lia
  have k3:V/(D*18446744073709551616)*(D*18446744073709551616*18446744073709551616)<=U:=xan (xat _ h) k1;rw[<-xaX]at k3;have k4:18446744073709551615*V<=18446744073709551615*((V/(D*18446744073709551616)+1)*(D*18446744073709551616)):=xaD _<|xcS k2;rw[xaR,xcb]at k4;generalize V/(D*18446744073709551616)*(D*18446744073709551616)=A at*
  lia
 ·rw[ir h]at hx;have hc:x<=18446744073709551616:=by
   rw[hx];have hb:U/D/18446744073709551616/18446744073709551616<V/D/18446744073709551616:=xdy h;have h1:U/D<(V/D)*18446744073709551616+18446744073709551616*18446744073709551616:=by lia
   have:U/D<=18446744073709551616*(V/D)+(V/D):=by lia
   refine Nat.le_of_lt_succ<|(xbc<|by lia).2 ?_;rw[Nat.succ_mul];lia
  have hd:U/V<=x:=by
   rw[hx];exact zfg hD (by lia)<|xdo U V
  have hb:x<18446744073709551616:=by
   rw[hx,xbc<|by lia];have hb:U/D/18446744073709551616/18446744073709551616<V/D/18446744073709551616:=xdy h;lia
  refine⟨hd,up<|zez hD (B:=18446744073709551616) ?_ hc ?_,hb⟩
  ·rw[hx];exact xdo _ _
  ·lia
end
section
variable{fu V k y:Nat}{s:Int}{v t:List Nat}
theorem Av{n P x0:Nat}(hv:zo v)(ha:v.length=n)(hV:nv v=V)(ht:zo t)(hi:t.length=n+1)(hP:nv t=P)(hc:0<V)(h1:P/V<=x0)(h2:x0<=P/V+1)(h3:x0<18446744073709551616)(hn:n<=500000)(hf:2000000<fu):
 zm (UR fu v) fu (s,(n:Int),x0,t)=some (s,(n:Int),P/V,t):=by
 have hd:V<18446744073709551616^n:=by rw[<-hV,<-ha];exact qF hv
 refine zB (fun q:Int×Int×Nat×List Nat=>∃x,q=(s,(n:Int),x,t)/\P/V<=x/\x<=P/V+1/\x<18446744073709551616) (fun q=>q.2.2.1-P/V) _ ?_ _ _ ⟨x0,rfl,h1,h2,h3⟩ (by show x0-P/V<fu;lia);rintro q L ⟨x,rfl,g1,g2,g3⟩ ih;unfold UR;simp only;have hr:V*x<18446744073709551616^(n+1):=by
  rw[xbd]
  calc V*x<=V*18446744073709551616:=xaD _ (by lia)
   _<_:=xbX hd<|by decide
 rw[zd<|JA hv g3,zd (Js (xJ _ _) ht<|by rw[zS];lia),jc,hV,ha,xar hr,hP];have hj:=xbB P V;have hk:=xbi P hc;by_cases h:x=P/V
 ·have hl:V*x<=P:=by rw[h];lia
  have he:¬(0:Int)<qX ((V*x:Nat):Int) (P:Int):=by
   rcases xcf (V*x) P with hh|hh
   ·rw[qd<|by lia];decide
   ·rw[jL<|by lia];decide
  rw[ir he,h]
 ·have hx:x=P/V+1:=by lia
  have hg:P<V*x:=by rw[hx,xbh,xcI];lia
  have hm:0<x:=by rw[hx];exact Nat.succ_pos _
  have hb:(P:Int)<((V*x:Nat):Int):=Int.ofNat_lt.2 hg;rw[w5 hb,iq (by decide),zj,show(x+18446744073709551616-1)%18446744073709551616=x-1 by lia];exact ih _ ⟨x-1,rfl,by lia,by lia,by lia⟩ (by show x-1-P/V<x-P/V;lia)
theorem zcB{j:Nat}(ht:zo t)(hl:t.length<=k)(hj:k<=j):(t++xaf j 0).take k=wb k (nv t):=by
 refine gX ((ht.append<|zo.replicate _).take _) (xJ _ _) (by rw[zS,xav,xax,xaZ];lia) ?_;rw[om<|ht.append<|zo.replicate _,jx,WU,xcO,xbS,jc]
theorem Sa{n lq U0:Nat}{L:List Nat×Int×List Nat×List Nat->Option (List Nat×List Nat)}(hv:zo v)(hl:v.length=n)(hV:nv v=V)(hQ:2<=n)(hc:9223372036854775808*18446744073709551616^(n-1)<=V)(ht:zo t)(hR:t.length=lq+n)(hk:k<lq)(hb:lq+n<=500000)(hf:2000000<fu)(hT:nv t=U0/18446744073709551616^(k+1)%V*18446744073709551616^(k+1)+U0%18446744073709551616^(k+1)):
 ∃t',zo t'/\t'.length=lq+n/\nv t'=U0/18446744073709551616^k%V*18446744073709551616^k+U0%18446744073709551616^k/\
  Xu fu s v L (v,(k:Int),t,xaf (k+1) 0++wb (lq-(k+1)) (U0/18446744073709551616^(k+1)/V))=L (v,(k:Int)-1,t',xaf k 0++wb (lq-k) (U0/18446744073709551616^k/V)):=by
 have hd:V<18446744073709551616^n:=by rw[<-hV,<-hl];exact qF hv
 have hu:0<18446744073709551616^k:=xbj (by decide);have he:0<V:=by
  have:0<18446744073709551616^(n-1):=xbj (by decide);lia
 obtain⟨T,hn⟩:∃T,T=U0/18446744073709551616^(k+1)%V:=⟨_,rfl⟩;obtain⟨ak,ho⟩:∃ak,ak=U0/18446744073709551616^k%18446744073709551616:=⟨_,rfl⟩;have hp:ak<18446744073709551616:=by rw[ho];exact xbi _<|by decide
 have hH:T<V:=by rw[hn];exact xbi _ he
 obtain⟨P,hP⟩:∃P,P=T*18446744073709551616+ak:=⟨_,rfl⟩;have hw:=ie U0 k;rw[<-ho]at hw;obtain⟨k1,k2⟩:=cB (x:=0) (b:=18446744073709551616) (y:=V) (w1:=U0/18446744073709551616^(k+1)) (w0:=ak) he (by decide) hp;rw[xcs,xaN,<-hw,<-hn,<-hP]at k1 k2;have hx:U0%18446744073709551616^(k+1)=ak*18446744073709551616^k+U0%18446744073709551616^k:=by rw[xbd,Nat.mod_mul,ho,xaU];lia
 have hm:P<V*18446744073709551616:=by
  have:(T+1)*18446744073709551616<=V*18446744073709551616:=xat _ hH;lia
 have hy:nv t=P*18446744073709551616^k+U0%18446744073709551616^k:=by rw[hT,<-hn,hx,hP,xaR,xbd,xaU<|18446744073709551616^k,xaX];lia
 have hA:=xbi U0 hu;have hq:nv t/18446744073709551616^k=P:=by rw[hy,xds,Nat.add_mul_div_right _ _ hu,xbv hA,xaN]
 have hI:nv t%18446744073709551616^k=U0%18446744073709551616^k:=by rw[hy,xds,Nat.add_mul_mod_self_right,Nat.mod_mod]
 obtain⟨D,hD⟩:∃D,D=18446744073709551616^(n-2):=⟨_,rfl⟩;have hJ:0<D:=by rw[hD];exact xbj<|by decide
 have en1:18446744073709551616^(n-1)=18446744073709551616*D:=by rw[hD,<-xek,show(n-2).succ=n-1 by lia]
 have en:18446744073709551616^n=18446744073709551616*(18446744073709551616*D):=by rw[<-en1,<-xek,show(n-1).succ=n by lia]
 rw[en1]at hc;have ha:=hd;rw[en]at ha;have gt:∀j,t.getD (k+j) 0=P/18446744073709551616^j%18446744073709551616:=fun j=>by rw[VM ht,xbY,<-xaL,hq]
 have gv:∀j,v.getD j 0=V/18446744073709551616^j%18446744073709551616:=fun j=>by rw[VM hv,hV]
 have ePn:P/18446744073709551616^n=P/D/18446744073709551616/18446744073709551616:=by rw[en,xaL,xaL];congr 1;lia
 have ePn1:P/18446744073709551616^(n-1)=P/D/18446744073709551616:=by rw[en1,xaL,xaU D]
 have eVn1:V/18446744073709551616^(n-1)=V/D/18446744073709551616:=by rw[en1,xaL,xaU D]
 have hK:P/D/18446744073709551616/18446744073709551616<18446744073709551616:=by
  rw[<-ePn,xbc (xbj<|by decide),xaU];exact Nat.lt_trans hm<|xbX hd<|by decide
 have hB:V/D/18446744073709551616<18446744073709551616:=by
  rw[<-eVn1,xbc (xbj<|by decide),en1];exact ha
 have hr:9223372036854775808<=V/D/18446744073709551616:=by
  rw[<-eVn1,xcw (xbj<|by decide),en1];exact hc
 have m1:t.getD (k+n) 0=P/D/18446744073709551616/18446744073709551616:=by rw[gt,ePn,xar hK]
 have m2:t.getD (k+n-1) 0=P/D/18446744073709551616%18446744073709551616:=by rw[show k+n-1=k+(n-1)by lia,gt,ePn1]
 have m3:t.getD (k+n-2) 0=P/D%18446744073709551616:=by rw[show k+n-2=k+(n-2)by lia,gt,<-hD]
 have m4:v.getD (n-1) 0=V/D/18446744073709551616:=by rw[gv,eVn1,xar hB]
 have m5:v.getD (n-2) 0=V/D%18446744073709551616:=by rw[gv,<-hD]
 have eg:((P/D/18446744073709551616/18446744073709551616*18446744073709551616+P/D/18446744073709551616%18446744073709551616)*18446744073709551616+P/D%18446744073709551616)/(V/D/18446744073709551616*18446744073709551616+V/D%18446744073709551616)=P/D/(V/D):=by
  generalize P/D=p;generalize V/D=w;rw[show(p/18446744073709551616/18446744073709551616*18446744073709551616+p/18446744073709551616%18446744073709551616)*18446744073709551616+p%18446744073709551616=p by lia,show w/18446744073709551616*18446744073709551616+w%18446744073709551616=w by lia]
 obtain⟨x0,hC⟩:∃x0,x0=if V/D/18446744073709551616<=P/D/18446744073709551616/18446744073709551616 then 18446744073709551615 else P/D/(V/D):=⟨_,rfl⟩;obtain⟨n1,n2,n3⟩:=MZ hJ hc ha hm hC;have hE:zo (xdt (k+n+1-k)<|xdz k t):=(ht.drop k).take _;have hg:(xdt (k+n+1-k)<|xdz k t).length=n+1:=by rw[xav,xbN];lia
 have hs:P<18446744073709551616^(n+1):=by
  rw[xbd];exact Nat.lt_trans hm<|xbX hd<|by decide
 have hi:nv (xdt (k+n+1-k)<|xdz k t)=P:=by rw[om<|ht.drop k,Dz ht,hq,show k+n+1-k=n+1 by lia,xar hs]
 have hj:P/V<18446744073709551616:=by rw[xbc he,xaU];exact hm
 have hF:V*(P/V)<=P:=Nat.mul_div_le P V;have hG:nv (wb (n+1)<|V*(P/V))=V*(P/V):=by rw[jc,xar<|by lia]
 have hL:P-V*(P/V)=P%V:=by have:=xbB P V;lia
 have hN:=xbi P he;have hO:(yF<|P%V).length<=n:=(zK _ _).2 (by lia);refine⟨xdt k t++wb (n+1) (P%V)++xdz (k+(n+1)) t,((ht.take _).append<|xJ _ _).append<|ht.drop _,?_,?_,?_⟩
 ·rw[xax,xax,xav,zS,xbN];lia
 ·have hz:nv (xdz (k+(n+1)) t)=0:=by rw[Dz ht,xbY,<-xaL,hq,xbv hs]
  have hM:P%V<18446744073709551616^(n+1):=xba (Nat.mod_le _ _) hs;rw[jx,hz,xcO,xbS,jx,om ht,hI,jc,xar hM,xav,show min k t.length=k by lia,<-k2,xaU];lia
 ·unfold Xu;simp only;have c1:(k:Int)+(v.length:Int)=((k+n:Nat):Int):=by lia
  have c2:((k+n:Nat):Int)-1=((k+n-1:Nat):Int):=by lia
  have c3:((k+n:Nat):Int)-2=((k+n-2:Nat):Int):=by lia
  have c4:(v.length:Int)-1=((n-1:Nat):Int):=by lia
  have c5:(v.length:Int)-2=((n-2:Nat):Int):=by lia
  have c6:((k+n:Nat):Int)+1=((k+n+1:Nat):Int):=by lia
  rw[zP,c1,ze,yp,zj,ze,c2,ze,yp,zj,ze,c3,ze,yp,zj,c4,ze,yp,zj,c5,ze,yp,zj];rw[m1,m2,m3,m4,m5,zd (sw hr hB (xbi _<|by decide) (xbi _<|by decide) (xbi _<|by decide)<|by lia),eg,<-hC];rw[ze,c6,ze,yI,yI,wE ⟨by lia,by lia⟩,zj,wE (by rw[hg];simp;lia),zj,xbA];rw[hl,zd<|Av hv hl hV hE hg hi he n1 n2 n3 (by lia) hf];simp only;have c7:(n:Int)+1=((n+1:Nat):Int):=by lia
  rw[zw (by simp;lia),zj,OJ,yI,yL,zd<|JA hv hj,hl,hV,zd (QC hE (xJ _ _) (by lia) (by rw[zS];lia) (by rw[hg,zS];lia)<|by rw[hi,hG];exact hF),hi,hG,hL];rw[c7,ze,yI,yL,zj,ze,yI,wE (by simp),zj,zcB (zx _) (by lia)<|xab _,ya,zj,ze];have ecp:bZ k (t.length-k) t (wb (n+1)<|P%V)=xdt k t++wb (n+1) (P%V)++xdz (k+(n+1)) t:=by
   unfold bZ;rw[zS,show min (n+1) (t.length-k)=n+1 by lia,xaQ (l:=wb (n+1)<|P%V)<|by rw[zS];exact xab _]
  rw[ecp];have e2:lq-k=(lq-(k+1))+1:=by lia
  have e3:wb (lq-k) (U0/18446744073709551616^k/V)=P/V::wb (lq-(k+1)) (U0/18446744073709551616^(k+1)/V):=by rw[e2,Cx,k1,(fF hj).1,(fF hj).2]
  rw[e3]
theorem Ng(h:0<y):2^(bl y-1)<=y:=by
 refine xbw fun ha=> ?_;have h1:=VT ha;have h2:1<=bl y:=by rw[JR h];lia
 lia
theorem zdG{n s:Nat}(hy:0<y)(hn:n=(yF y).length)(hs:s=64-bl ((yF y).getD (n-1) 0)):s<=63/\9223372036854775808*18446744073709551616^(n-1)<=y*2^s/\y*2^s<18446744073709551616^n/\(yF<|y*2^s).length=n:=by
 have hc:=qb hy;have hb:=Hs hy;rw[<-hn]at hb;have ht:(yF y).getD (n-1) 0≠0:=by rw[hn];exact za9 hy
 have ha:=(zx y).getD<|n-1;obtain⟨b1,_,_⟩:=H9 (y:=(yF y).getD (n-1) 0) (by lia) ha;have b2:1<=bl ((yF y).getD (n-1) 0):=by rw[JR];lia
 have e1:18446744073709551616^n=2^bl y*2^s:=by
  rw[<-rL,<-xda,<-xbY];congr 1;lia
 have e2:9223372036854775808*18446744073709551616^(n-1)=2^(bl y-1)*2^s:=by
  rw[<-rL,<-xda,<-xbY,show(9223372036854775808:Nat)=2^63 by decide,<-xbY];congr 1;lia
 have g1:9223372036854775808*18446744073709551616^(n-1)<=y*2^s:=by rw[e2];exact xat _<|Ng hy
 have g2:y*2^s<18446744073709551616^n:=by rw[e1];exact xbX (sP y)<|xbj<|by decide
 refine⟨by lia,g1,g2,xcU ((zK _ _).2 g2)<|xbw fun h=> ?_⟩;have:=(zK (n-1)<|y*2^s).1 (by lia);have hp:0<18446744073709551616^(n-1):=xbj (by decide);lia
theorem fJ{a b:List Nat}(ha:zo a)(hb:zo b)(hC:a.length<=200000)(hD:b.length<=200000)(hf:3000000<=fu):
 Q7 fu a b=some (if nv b=0 then([],[],3)else(yF<|nv a/nv b,yF<|nv a%nv b,0)):=by
 unfold Q7;have h1:=yV ha;have h2:=yV hb;rw[zd (xD ha (by lia)<|by lia),zd<|xD hb (by lia)<|by lia];generalize nv a=x at*
 generalize nv b=y at*
 by_cases h0:y=0
 ·subst h0;rw[iq rfl];rfl
 ·have hE:=qb (n:=y) (by lia);rw[zC,zd rfl,ir h0];simp only[xak,if_false];rw[zd<|Js (zx x)<|zx y,ya,ya];by_cases hg:x<y
  ·rw[qd (by lia),iq (by decide),zd rfl];simp only[if_true];rw[zd<|YX<|zx x,ya,xbv hg,xar hg];rfl
  ·have hv:¬qX (x:Int) (y:Int)<0:=by
    rcases xcf y x with h|h
    ·rw[w5<|by lia];decide
    ·rw[jL<|by lia];decide
   rw[ir hv,zd rfl];simp only[xak,if_false];obtain⟨n,hn⟩:∃n,n=(yF y).length:=⟨_,rfl⟩;have hi:=(zx y).getD<|n-1;by_cases hA:n=1
   ·have hw:(yF y).getD 0 0=y:=by
     rw[Xj,xef,xdT,xar];have:=(zK 1 y).1 (by lia);simpa using this
    have hj:y<18446744073709551616:=by have:=(zK 1 y).1 (by lia);simpa using this
    rw[zP,show(0:Int)=((0:Nat):Int)from rfl,yp,zj,hw,zd (pk (zx x) hj (by lia) (by lia)<|by lia),ya];simp only;have hm:=xbi x (show 0<y by lia);rw[zd (yZ (oO<|by lia) (by simp)<|by simp;lia),NY]
   ·obtain⟨s,hs⟩:∃s,s=64-bl ((yF y).getD (n-1) 0):=⟨_,rfl⟩;obtain⟨s63,v1,v2,v3⟩:=zdG (by lia) hn hs;obtain⟨V,hV⟩:∃V,V=y*2^s:=⟨_,rfl⟩;obtain⟨U,hU⟩:∃U,U=x*2^s:=⟨_,rfl⟩;obtain⟨lx,hx⟩:∃lx,lx=(yF x).length:=⟨_,rfl⟩;have hB:n<=lx:=by rw[hn,hx];exact VD<|by lia
    have hk:x<18446744073709551616^lx:=(zK lx x).1 (by lia);have hl:2^s<=9223372036854775808:=by
     rw[show(9223372036854775808:Nat)=2^63 by decide];exact xaz (by decide) s63
    have hy:U<18446744073709551616^(lx+1):=by
     rw[hU,xbd];exact xal (xbX hk<|xbj<|by decide)<|xaD _<|by lia
    have hF:(yF U).length<=lx+1:=(zK _ _).2 hy;rw[<-hV]at v1 v2 v3;have e1:((((yF y).length:Nat):Int))-1=((n-1:Nat):Int):=by lia
    rw[zC,e1,ze,yp,zj,zd<|qY hi,<-hs,zd<|WY<|zx y,ya,<-hV];simp only;rw[zd<|WY<|zx x,ya,<-hU];simp only;have e2:((((yF x).length:Nat):Int))+1=((lx+1:Nat):Int):=by lia
    have e3:((lx+1:Nat):Int)-(((yF U).length:Nat):Int)=((lx+1-(yF U).length:Nat):Int):=by lia
    rw[e2,ze,e3,ze,yI,yL,zj];obtain⟨t8,hc⟩:∃t8,t8=yF U++xaf (lx+1-(yF U).length) 0:=⟨_,rfl⟩;have t8L:zo t8:=by rw[hc];exact(zx U).append<|zo.replicate _
    have t8l:t8.length=lx+1:=by rw[hc,xax,xaZ];lia
    have t8v:nv t8=U:=by rw[hc,jx,WU,xcO,xbS,ya]
    obtain⟨lq,hG⟩:∃lq,lq=lx+1-n:=⟨_,rfl⟩;have e4:(t8.length:Int)-(((yF V).length:Nat):Int)=(lq:Int):=by lia
    rw[<-hc,e4,ze,yI,yL,zj,xaZ,ze];have ho:0<V:=by
     have:0<18446744073709551616^(n-1):=xbj (by decide);lia
    have hz:0<18446744073709551616^lq:=xbj (by decide);have hq:U<18446744073709551616^lq*V:=by
     have k1:18446744073709551616^lq*(9223372036854775808*18446744073709551616^(n-1))<=18446744073709551616^lq*V:=xaD _ v1;have k2:18446744073709551616^lq*(9223372036854775808*18446744073709551616^(n-1))=18446744073709551616^lx*9223372036854775808:=by
      rw[xaU 9223372036854775808,<-xaX,<-xbY];congr 2;lia
     have k3:U<18446744073709551616^lx*9223372036854775808:=by
      rw[hU];exact xal (xbX hk<|xbj<|by decide)<|xaD _ hl
     lia
    have hr:U/18446744073709551616^lq<V:=by rw[xbc hz,xaU];exact hq
    have key:∃t,zo t/\t.length=lq+n/\nv t=U%V/\zm (Xu fu (s:Int)<|yF V) fu (yF V,(lq:Int)-1,t8,xaf lq 0)=some (t,wb lq<|U/V):=by
     refine⟨wb (lq+n)<|U%V,xJ _ _,zS _ _,?_,?_⟩
     ·rw[jc,xar];have h5:=xbi U ho;exact xal (Nat.lt_trans h5 v2)<|xaz (by decide)<|by lia
     ·refine zB (fun q:List Nat×Int×List Nat×List Nat=>∃(m:Nat) (t:List Nat),m<=lq/\zo t/\t.length=lq+n/\nv t=U/18446744073709551616^m%V*18446744073709551616^m+U%18446744073709551616^m/\q=(yF V,(m:Int)-1,t,xaf m 0++wb (lq-m) (U/18446744073709551616^m/V))) (fun q=>(q.2.1+1).toNat) _ ?_ _ _ ⟨lq,t8,xab _,t8L,by lia,?_,?_⟩ (by show((lq:Int)-1+1).toNat<fu;lia)
      ·rintro q L ⟨m,t,hm,ht,hu,hd,rfl⟩ ih
       cases m with
       |zero=>
        unfold Xu;simp only;rw[zC];rw[xef,xcI,Nat.mod_one,xbS,xdT]at hd;have:=ax ht;rw[hu,hd]at this;rw[this];simp
       |succ m=>
        obtain⟨t',g1,g2,g3,g4⟩:=Sa (fu:=fu) (k:=m) (s:=(s:Int)) (L:=L) (zx V) v3 (ya V) (by lia) v1 ht hu (by lia) (by lia) (by lia) hd;rw[show((m+1:Nat):Int)-1=(m:Int)by lia,g4];exact ih _ ⟨m,t',by lia,g1,g2,g3,rfl⟩ (by show((m:Int)-1+1).toNat<(((m+1:Nat):Int)-1+1).toNat;lia)
      ·rw[t8v,xar hr,xaU];exact(xbB U _).symm
      ·rw[xbv hr,xdb];simp[wb]
    obtain⟨t,g1,g2,g3,g4⟩:=key;rw[zd g4];simp only;have he:U/V<18446744073709551616^lq:=by rw[xbc ho];exact hq
    have hp:0<2^s:=xbj (by decide);rw[zd (yZ (xJ _ _) (by rw[zS];lia)<|by rw[zS];lia),jc,xar he,zd (eH g1 (by lia) (by lia)<|by lia),g3];rw[hU,hV,xfz _ _ hp,xeD,Nat.mul_div_cancel _ hp]
end
section
variable{k fu:Nat}{x y:Int}{a b m:Zr}
def gI(z:Zr):Prop:=zo z.2/\z.2.length<=40000
theorem gI.ok{z:Zr}(h:gI z):KE z:=⟨h.1,xan h.2<|by decide⟩
theorem Bz.okS(h:Bz k x)(hk:k<=40000):gI (yK x):=⟨yW x,xan ((zK _ _).2 h) hk⟩
theorem Bz.len(h:Bz k x):(yK x).2.length<=k:=(zK _ _).2 h
theorem Oo{q r:Int}(hy:y≠0)(h:y*q+r=x)(h0:0<=r:=by lia)(h1:r<(y.natAbs:Int):=by lia):x/y=q/\x%y=r:=by grind [xeJ,Int.ediv_emod_unique',Int.ediv_emod_unique]
def zcm(x y:Int):Zr×Zr×Int:=if y=0 then((false,[]),(false,[]),3)else(yK<|x/y,yK<|x%y,0)
theorem zcG{q0 r0:Nat}(hb:nv b.2≠0)(hq:q0=nv a.2/nv b.2)(hr:r0=nv a.2%nv b.2):
 (¬(a.1=true/\0<r0)->zv a/zv b=(if(!(a.1==b.1))=true then-(q0:Int)else(q0:Int))/\zv a%zv b=(r0:Int))/\
 (a.1=true/\0<r0->zv a/zv b=(if(!(a.1==b.1))=true then-((q0+1:Nat):Int)else((q0+1:Nat):Int))/\zv a%zv b=((nv b.2-r0:Nat):Int)):=by
 have hd:=xbB (nv a.2)<|nv b.2;have hm:=xbi (nv a.2) (show 0<nv b.2 by lia);rw[<-hq,<-hr]at hd;rw[<-hr]at hm;have hz:zv b≠0:=by have:=kR b;lia
 have ha:=kR b;have hc:((nv b.2:Nat):Int)*(q0:Int)+(r0:Int)=((nv a.2:Nat):Int):=by rw[<-hd];simp
 refine⟨fun h=> ?_,fun h=> ?_⟩
 ·refine Oo hz ?_;rcases xB a with⟨h1,h2⟩|⟨h1,h2⟩<;>rcases xB b with⟨h3,h4⟩|⟨h3,h4⟩<;>rw[h1,h3,h2,h4]
  ·have:r0=0:=xes fun hp=>h ⟨h1,hp⟩;subst this;simp only[beq_self_eq_true,xdL,xak,if_false];rw[Int.neg_mul];lia
  ·have:r0=0:=xes fun hp=>h ⟨h1,hp⟩;subst this;rw[iq (by decide),xeC];lia
  ·rw[iq (by decide),Int.neg_mul_neg];lia
  ·rw[ir<|by decide];lia
 ·refine Oo hz ?_;obtain⟨h1,hp⟩:=h;have e1:((nv b.2-r0:Nat):Int)=((nv b.2:Nat):Int)-(r0:Int):=by lia
  have e2:((nv b.2:Nat):Int)*(((q0+1:Nat)):Int)=((nv b.2:Nat):Int)*(q0:Int)+((nv b.2:Nat):Int):=by rw[xdX,xeY];simp
  rcases xB a with⟨_,h2⟩|⟨h,_⟩
  ·rcases xB b with⟨h3,h4⟩|⟨h3,h4⟩<;>rw[h1,h3,h2,h4,e1]
   ·rw[ir (by decide),Int.neg_mul,e2];lia
   ·rw[iq (by decide),xeC,e2];lia
  ·rw[h1]at h;cases h
theorem O1:zv b=0↔nv b.2=0:=by
 have:=kR b;lia
theorem Qz(ha:gI a)(hb:gI b)(hf:3000000<=fu):Yj fu a b=some (zcm (zv a)<|zv b):=by
 unfold Yj zcm;have la:=ha.2;have lb:=hb.2;rw[zd<|fJ ha.1 hb.1 (by lia) (by lia) hf];by_cases h0:nv b.2=0
 ·rw[iq h0,iq<|O1.2 h0];rfl
 ·rw[ir h0,ir<|fun h=>h0<|O1.1 h];simp only[if_true];obtain⟨q0,hq⟩:∃q0,q0=nv a.2/nv b.2:=⟨_,rfl⟩;obtain⟨r0,hr⟩:∃r0,r0=nv a.2%nv b.2:=⟨_,rfl⟩;have lq:(yF q0).length<=40000:=by
   refine xan ((zK a.2.length q0).2 ?_) la;rw[hq];exact xba (xdY _ _)<|qF ha.1
  have hd:r0<nv b.2:=by rw[hr];exact xbi _<|by lia
  have lr:(yF r0).length<=40000:=xan ((zK b.2.length r0).2<|Nat.lt_trans hd<|qF hb.1) lb;have lr2:(yF<|nv b.2-r0).length<=40000:=xan ((zK b.2.length _).2<|xba (xfp _ _)<|qF hb.1) lb;obtain⟨k1,k2⟩:=zcG h0 hq hr;rw[<-hq,<-hr];have lq2:(yF<|q0+1).length<=40001:=Zg (y:=1) lq (by decide);by_cases hc:a.1=true/\0<r0
  ·obtain⟨w1,w2⟩:=k2 hc;have:=qb hc.2;rw[iq hc.1,zP,zd (v:=(yF<|q0+1,yF<|nv b.2-r0))]
   ·rw[w1,w2];simp only;rw[zj,zd (yr (zx _) (by lia)<|by lia),zd (yr (zx _) (by lia)<|by lia),ya,ya];rfl
   ·rw[zd (kK (zx _) (oO<|by decide) (by lia) (by simp)<|by simp;lia),ya,NY,zd (Wv hb.1 (zx _) (by lia) (by lia)<|by lia),ya,zC]
  ·obtain⟨w1,w2⟩:=k1 hc;rw[zd (v:=(yF q0,yF r0))]
   ·rw[w1,w2];simp only;rw[zj,zd (yr (zx _) (by lia)<|by lia),zd (yr (zx _) (by lia)<|by lia),ya,ya];rfl
   ·by_cases h1:a.1=true
    ·have:r0=0:=xes fun hp=>hc ⟨h1,hp⟩;subst this;rw[iq h1,ir<|by decide]
    ·rw[ir h1]
def BS(x m:Int):Zr×Int:=if m<=0 then((false,[]),1)else(yK<|x%m,0)
def near(x m:Int):Int:=if m<x%m+x%m then x%m-m else x%m
def zcO(x m:Int):Zr×Int:=if m<=0 then((false,[]),1)else(yK<|near x m,0)
theorem Bz.emod{m:Int}(hm:Bz k m)(h0:0<m):Bz k (x%m):=by
 have h1:=xcV x (show m≠0 by lia);have h2:=xdx x h0;exact hm.le<|by lia
theorem Bz.near{k:Nat}{x m:Int}(hm:Bz k m)(h0:0<m):Bz k (near x m):=by
 have h1:=xcV x (show m≠0 by lia);have h2:=xdx x h0;refine hm.le ?_;unfold Go.Proofs.YtmggkmchbdanfaaGreat.near;split<;>lia
theorem E4:qX x 0<=0↔x<=0:=by grind [qd,jL,w5,xeJ]
theorem Iq:0<qX x y↔y<x:=by grind [qd,jL,w5,xeJ]
theorem wO:qX x y=0↔x=y:=by grind [qd,jL,w5,xeJ]
theorem uA(ha:gI a)(hm:gI m)(hf:3000000<=fu):vY fu a m=some (BS (zv a)<|zv m):=by grind [vY,zcm,BS,zv,zd,xg,gI.ok,E4,Qz]
theorem mM(ha:gI a)(hm:gI m)(hf:3000000<=fu):ZF fu a m=some (zcO (zv a)<|zv m):=by
 unfold ZF zcO;rw[zd<|uA ha hm hf];unfold BS;by_cases h:zv m<=0
 ·rw[iq h,iq h];simp
 ·have hb:Bz 40000 (zv a%zv m):=Bz.emod ((Bz.of hm.1).mono hm.2) (by lia);rw[ir h,ir h];simp only[if_true];have hl:=hm.2;have h2:=(hb.add hb).ok (by lia);have h3:=(hb.add hb).len;rw[zd<|qu (hb.okS<|by lia).ok (hb.okS<|by lia).ok hf,zA,zd<|uo h2 hm.ok hf,zA];unfold near;by_cases hc:zv m<zv a%zv m+zv a%zv m
  ·rw[iq<|Iq.2 hc,iq hc,zd<|qq (hb.okS<|by lia).ok hm.ok hf,zA]
  ·rw[ir<|fun e=>hc<|Iq.1 e,ir hc]
end
section
variable{f g:Nat->Int}{j m k fu:Nat}{p:List Zr}
def zi(n:Nat)(f:Nat->Int):List Zr:=(xbb n).map fun k=>yK<|f k
def cf(p:List Zr)(k:Nat):Int:=zv<|p.getD k (false,[])
def dg(f:Nat->Int):Nat->Nat
 |0=>0
 |n+1=>if f n=0 then dg f n else n+1
def vO(n:Nat)(f:Nat->Int):List Zr:=zi (dg f n) f
def xc(k:Nat)(p:List Zr):Prop:=∀z∈p,zo z.2/\z.2.length<=k
def Zo(f:Nat->Int)(j:Nat)(v:Int):Nat->Int:=fun k=>if k=j then v else f k
theorem VG(p:List Zr)(k:Nat):zv (p.getD k (false,[]))=cf p k:=rfl
theorem yM(n:Nat)(f:Nat->Int):(zi n f).length=n:=by unfold zi;simp
theorem YK{n:Nat}(h:j<n):(zi n f).getD j (false,[])=yK (f j):=by simp_all [zi]
theorem xe{n:Nat}(h:∀k,k<n->f k=g k):zi n f=zi n g:=by simp_all [zi]
theorem KU{n:Nat}{v:Int}:(zi n f).set j (yK v)=zi n (Zo f j v):=by
 refine xcA fun i=> ?_;unfold zi Zo;rw[xdZ];by_cases h:j=i
 ·subst h;rw[iq rfl,xaP,xcC,xaT];by_cases hj:j<n
  ·rw[iq hj,xby hj];simp
  ·rw[ir hj,xaH<|by simp;lia];rfl
 ·rw[ir h,xaT,xaT];by_cases hi:i<n
  ·rw[xby hi];simp[Ne.symm h]
  ·rw[xaH<|by simp;lia];rfl
theorem zce:yK 0=(false,[]):=rfl
theorem dm(n:Nat):xaf n (false,[])=zi n (fun _=>0):=by grind [zi,zce,List.map_const',xcC]
theorem zeU{n:Nat}:zi n f++[yK<|f n]=zi (n+1) f:=by grind [zi,xdu]
theorem Gz{n:Nat}(h:j<n):cf (zi n f) j=f j:=by unfold cf;rw[YK h,zA]
theorem ye(h:p.length<=j):cf p j=0:=by
 unfold cf;rw[H1,xaH h];rfl
theorem Dr{n:Nat}(h:∀k,n<=k->f k=0)(j:Nat):cf (zi n f) j=f j:=by grind [Gz,ye,yM]
theorem qe(f:Nat->Int):∀n,dg f n<=n
 |0=>xab _
 |n+1=>by unfold dg;split;exact xan (qe f n)<|xcd _;exact xab _
theorem Jv(f:Nat->Int):∀n k,dg f n<=k->k<n->f k=0
 |0,k,_,h=>absurd h<|xbl _
 |n+1,k,h1,h2=>by
  unfold dg at h1;split at h1
  ·rename_i h0;by_cases hk:k=n
   ·rw[hk];exact h0
   ·exact Jv f n k h1<|by lia
  ·lia
theorem Vj(f:Nat->Int):∀n,dg f n≠0->f (dg f n-1)≠0
 |0,h=>absurd rfl h
 |n+1,h=>by
  unfold dg at h⊢;split
  ·rename_i h0;rw[iq h0]at h;exact Vj f n h
  ·rename_i h0;exact h0
theorem aF{n d:Nat}(h1:d<=n)(h2:∀k,d<=k->k<n->f k=0)(h3:d=0\/f (d-1)≠0):dg f n=d:=by
 have a:=qe f n;rcases Nat.lt_trichotomy (dg f n) d with h|h|h
 ·rcases h3 with h3|h3
  ·lia
  ·exact absurd (Jv f n (d-1) (by lia)<|by lia) h3
 ·exact h
 ·exact absurd (h2 (dg f n-1) (by lia)<|by lia)<|Vj f n<|by lia
theorem aH{n:Nat}(hf:∀k,n<=k->f k=0)(hg:∀k,m<=k->g k=0)(h:∀k,f k=g k):vO n f=vO m g:=by
 have e:dg f n=dg g m:=by
  refine aF ?_ ?_ ?_
  ·refine xbw fun ha=> ?_;have:=Vj g m (by lia);rw[<-h,hf _<|by lia]at this;exact this rfl
  ·intro k h1 h2;rw[h];by_cases hk:k<m
   ·exact Jv g m k h1 hk
   ·exact hg k<|by lia
  ·by_cases h0:dg g m=0
   ·exact .inl h0
   ·right;rw[h];exact Vj g m h0
 unfold vO;rw[e];exact xe fun k _=>h k
theorem xM(n:Nat)(f:Nat->Int):(vO n f).length=dg f n:=yM _ _
theorem jD{n:Nat}(h:∀k,n<=k->f k=0)(j:Nat):cf (vO n f) j=f j:=by
 refine Dr (fun k hk=> ?_) j;by_cases hn:k<n
 ·exact Jv f n k hk hn
 ·exact h k<|by lia
theorem xc.get(h:xc k p)(j:Nat):zo (p.getD j (false,[])).2/\(p.getD j (false,[])).2.length<=k:=by
 rw[H1];by_cases hj:j<p.length
 ·rw[xaa hj];exact h _<|xbk hj
 ·rw[xaH<|by lia];exact⟨zo.nil,xah _⟩
theorem xc.okZ(h:xc k p)(hk:k<=100000)(j:Nat):KE (p.getD j (false,[])):=⟨(h.get j).1,xan (h.get j).2 hk⟩
theorem xc.okS(h:xc k p)(hk:k<=40000)(j:Nat):gI (p.getD j (false,[])):=⟨(h.get j).1,xan (h.get j).2 hk⟩
theorem xc.bz(h:xc k p)(j:Nat):Bz k (cf p j):=(Bz.of (h.get j).1).mono (h.get j).2
theorem xc.mono(h:xc j p)(hk:j<=k):xc k p:=fun z hz=>⟨(h z hz).1,xan (h z hz).2 hk⟩
theorem Bz.zero(k:Nat):Bz k 0:=xbj<|by decide
theorem Qu{n:Nat}(h:∀j,Bz k<|f j):xc k (zi n f):=fun z hz=>by
 unfold zi at hz;obtain⟨j,_,rfl⟩:=xap.1 hz;exact⟨yW _,(h j).len⟩
theorem ot{a1:Int->Zr->Option Zr}(hl:p.length<=1000000)(hf:2000000<fu)(h:∀j:Nat,j<p.length->a1 (j:Int) (p.getD j (false,[]))=some (yK<|g j)):
 zE fu p a1=some (zi p.length g):=by
 unfold zE;rw[yI,yL,zj,dm,zd];refine zB (fun s:Int×List Zr=>∃i:Nat,i<=p.length/\s=((i:Int),zi p.length (fun k=>if k<i then g k else 0))) (fun s=>p.length-s.1.toNat) _ ?_ _ _ ⟨0,xah _,by rw[xe (g:=fun k=>if k<0 then g k else 0)<|fun k _=>by rw[zC]];rfl⟩ (by show p.length-0<fu;lia);rintro s L ⟨i,hi,rfl⟩ ih;unfold wm;simp only;by_cases h1:i<p.length
 ·rw[zP,zd rfl];simp only[if_true];rw[zw h1,zj,zd<|h i h1,zw (by rw[yM];exact h1),zj,KU,ze];refine ih _ ⟨i+1,by lia,?_⟩ (by show p.length-((i:Int)+1).toNat<p.length-(i:Int).toNat;lia);congr 1;refine xe fun k hk=> ?_;unfold Zo;by_cases e:k=i
  ·rw[iq e,zP,e]
  ·rw[ir e];show(if k<i then g k else 0)=_;by_cases e2:k<i
   ·rw[iq e2,zP]
   ·rw[ir e2,zC]
 ·rw[zC,zd rfl];simp only[xak,if_false];congr 1;exact xe fun k hk=>by rw[zP]
theorem aa(h:f m=0):dg f (m+1)=dg f m:=by conv=>lhs;unfold dg;rw[iq h]
theorem KT(h:f m≠0):dg f (m+1)=m+1:=by conv=>lhs;unfold dg;rw[ir h]
theorem CP(h:j<m):(p.take m).getD j (false,[])=p.getD j (false,[]):=by grind
theorem zF(h:xc k p)(hk:k<=100000)(hl:p.length<=1000000)(hf:3000000<=fu):zJ fu p=some (vO p.length<|cf p):=by
 unfold zJ;have hd:=qe (cf p) p.length;rw[zd (v:=p.take<|dg (cf p) p.length)]
 ·have ha:(p.take<|dg (cf p) p.length).length=dg (cf p) p.length:=by rw[xav];lia
  rw[zd<|ot (g:=cf p) (by lia) (by lia) ?_,ha]
  ·rfl
  ·intro j hj;rw[ha]at hj;unfold Vr;rw[CP hj,zd<|uO (h.okZ hk j) hf];rfl
 ·refine zB (fun t:List Zr=>∃m,m<=p.length/\t=p.take m/\dg (cf p) m=dg (cf p) p.length) (fun t=>t.length) _ ?_ _ _ ⟨p.length,xab _,xcy.symm,rfl⟩ (by lia);rintro t L ⟨m,hm,rfl,hg⟩ ih;have ha:(p.take m).length=m:=by rw[xav];lia
  unfold ah
  cases m with
  |zero=>
   rw[zC,<-hg];rfl
  |succ m=>
   rw[zP,ha,show((m+1:Nat):Int)-1=(m:Int)by lia,ze,yp,zj,CP (by lia),zd<|xg (h.okZ hk m) hf,VG];by_cases h0:cf p m=0
   ·rw[iq<|wO.2 h0,ze,yI,yL,zj,List.take_take,show min m (m+1)=m by lia];exact ih _ ⟨m,by lia,rfl,by rw[<-aa h0,hg]⟩<|by rw[ha,xav];lia
   ·rw[ir<|fun e=>h0<|wO.1 e,<-hg,KT h0]
theorem Kg(h:xc k p)(hk:k<=100000)(hl:p.length<=1000000)(hf:3000000<=fu):kM fu p=some (vO p.length<|cf p):=by
 unfold kM;have hd:=qe (cf p) p.length;rw[zd (v:=((dg (cf p) p.length:Nat):Int))]
 ·rw[zd (v:=vO p.length<|cf p)];unfold vO;refine zB (fun s:List Zr×Int=>∃i:Nat,i<=dg (cf p) p.length/\s=(zi i<|cf p,(i:Int))) (fun s=>p.length-s.2.toNat) _ ?_ _ _ ⟨0,xah _,rfl⟩ (by show p.length-0<fu;lia);rintro s L ⟨i,hi,rfl⟩ ih;unfold KZ;simp only;by_cases h1:i<dg (cf p) p.length
  ·rw[zP,yp,zj,zd<|vm (h.get i).1 (by have:=(h.get i).2;lia) hf,wE (by rw[yM];simp;lia),zj,ze];exact ih _ ⟨i+1,by lia,by rw[<-zeU];rfl⟩ (by show p.length-((i:Int)+1).toNat<p.length-(i:Int).toNat;lia)
  ·rw[zC];obtain rfl:i=dg (cf p) p.length:=by lia
   rfl
 ·refine zB (fun i:Int=>∃m:Nat,i=(m:Int)/\m<=p.length/\dg (cf p) m=dg (cf p) p.length) (fun i=>i.toNat) _ ?_ _ _ ⟨p.length,rfl,xab _,rfl⟩ (by lia);rintro i L ⟨m,rfl,hm,hg⟩ ih;unfold UJ
  cases m with
  |zero=>rw[zC,<-hg];rfl
  |succ m=>
   rw[zP,show((m+1:Nat):Int)-1=(m:Int)by lia,ze,yp,zj,zd<|Kx (h.okZ hk m) hf,VG];by_cases h0:cf p m=0
   ·rw[iq<|wO.2 h0,ze];exact ih _ ⟨m,rfl,by lia,by rw[<-aa h0,hg]⟩<|by lia
   ·rw[ir<|fun e=>h0<|wO.1 e,<-hg,KT h0]
end
section
variable{a b:List Zr}{k fu:Nat}{h g:Nat->Zr}
theorem KN(h:max a.length b.length<=k):cf a k+cf b k=0:=by grind [ye]
theorem ML(ha:xc k a)(hb:xc k b)(hk:k<=100000)(hf:3000000<=fu)(hc:b.length<=1000000)(j:Nat)(hj:j<b.length):
 jA fu (j:Int) (b.getD j (false,[])) a=some (if j<a.length then yK (cf a j+cf b j)else b.getD j (false,[])):=by grind [jA,zw,zj,zd,qu,xc.okZ,VG,xfA]
def mi(a b:List Zr):List Zr:=(xbb b.length).map fun j=>if j<a.length then yK (cf a j+cf b j)else b.getD j (false,[])
theorem za3{n:Nat}{j:Nat}(hj:j<n):((xbb n).map h).getD j (false,[])=h j:=by grind [xby]
theorem map_set{n i:Nat}:((xbb n).map h).set i (g i)=(xbb n).map (fun k=>if k=i then g k else h k):=by
 refine xcA fun m=> ?_;rw[xdZ];by_cases e:i=m
 ·subst e;rw[iq rfl,xaP,xcC,xaT];by_cases hj:i<n
  ·rw[iq hj,xby hj];simp
  ·rw[ir hj,xaH<|by simp;lia];rfl
 ·rw[ir e,xaT,xaT];by_cases hi:m<n
  ·rw[xby hi];simp[Ne.symm e]
  ·rw[xaH<|by simp;lia];rfl
theorem S8{p:List Zr}{a1:Int->Zr->Option Zr}(hl:p.length<=1000000)(hf:2000000<fu)(h:∀j:Nat,j<p.length->a1 (j:Int) (p.getD j (false,[]))=some (g j)):
 zE fu p a1=some ((xbb p.length).map g):=by
 unfold zE;have e0:xaf p.length ((false,[]):Zr)=(xbb p.length).map (fun k=>if k<0 then g k else(false,[])):=by
  rw[dm];unfold zi;exact xcj fun k _=>by rw[ir<|xbl k];rfl
 rw[yI,yL,zj,e0,zd];refine zB (fun s:Int×List Zr=>∃i:Nat,i<=p.length/\s=((i:Int),(xbb p.length).map (fun k=>if k<i then g k else(false,[])))) (fun s=>p.length-s.1.toNat) _ ?_ _ _ ⟨0,xah _,rfl⟩ (by show p.length-0<fu;lia);rintro s L ⟨i,hi,rfl⟩ ih;unfold wm;simp only;by_cases h1:i<p.length
 ·rw[zP,zd rfl];simp only[if_true];rw[zw h1,zj,zd<|h i h1,zw (by simp;exact h1),zj,map_set,ze];refine ih _ ⟨i+1,by lia,?_⟩ (by show p.length-((i:Int)+1).toNat<p.length-(i:Int).toNat;lia);congr 1;refine xcj fun k hk=> ?_;by_cases e:k=i
  ·rw[iq e,zP,e]
  ·rw[ir e];by_cases e2:k<i
   ·rw[iq e2,zP]
   ·rw[ir e2,zC]
 ·rw[zC,zd rfl];simp only[xak,if_false];congr 1;refine xcj fun k hk=> ?_;have:=xbf.1 hk;rw[zP]
theorem S9(ha:xc k a)(hb:xc k b)(hk:k+1<=100000)(hd:b.length<=1000000)(hf:3000000<=fu)(hl:a.length<=b.length):
 bd (zE fu b<|fun zx0 zx1=>jA fu zx0 zx1 a) (fun t1=>bd (zJ fu t1) fun t2=>some t2)=some (vO (max a.length b.length)<|fun j=>cf a j+cf b j):=by
 have hL:(mi a b).length=b.length:=by unfold mi;simp
 have hg:∀j,j<b.length->(mi a b).getD j (false,[])=if j<a.length then yK (cf a j+cf b j)else b.getD j (false,[]):=fun j hj=>by unfold mi;rw[za3 hj]
 have hc:∀j,cf (mi a b) j=cf a j+cf b j:=fun j=>by
  by_cases hj:j<b.length
  ·conv=>lhs;unfold cf
   rw[hg j hj];by_cases h:j<a.length
   ·rw[iq h,zA]
   ·rw[ir h,ye (p:=a) (by lia),xcF];rfl
  ·rw[ye (by lia),ye (by lia),ye<|by lia];rfl
 have ho:xc (k+1) (mi a b):=fun z hz=>by
  unfold mi at hz;obtain⟨j,hj,rfl⟩:=xap.1 hz;split
  ·exact⟨yW _,((ha.bz j).add<|hb.bz j).len⟩
  ·exact(hb.mono<|xcd k).get j
 rw[zd<|S8 (g:=fun j=>if j<a.length then yK (cf a j+cf b j)else b.getD j (false,[])) hd (by lia) fun j hj=>ML ha hb (by lia) hf hd j hj];show bd (zJ fu<|mi a b) _=_;rw[zd<|zF ho hk (by lia) hf,hL];congr 1;refine aH (fun j hj=>ye<|by lia) (fun j hj=>KN hj) hc
theorem K5(ha:xc k a)(hb:xc k b)(hk:k+1<=100000)(hc:a.length<=1000000)(hd:b.length<=1000000)(hf:3000000<=fu):
 vc fu a b=some (vO (max a.length b.length)<|fun j=>cf a j+cf b j):=by grind [vc,cf,S9,Nat.max_comm,xfA]
theorem JD{c:Int}(h:a.length<=k):cf a k*c=0:=by rw[ye h,xaV]
theorem KE.of{z:Zr}(h:zo z.2/\z.2.length<=k)(hk:k<=100000):KE z:=⟨h.1,xan h.2 hk⟩
theorem qI{l:Nat}{c:Zr}(ha:xc k a)(hc:zo c.2/\c.2.length<=l)(hk:k+l<=100000)(hb:a.length<=1000000)(hf:3000000<=fu):
 w7 fu a c=some (vO a.length<|fun j=>cf a j*zv c):=by
 unfold w7;have ho:xc (k+l) (zi a.length<|fun j=>cf a j*zv c):=Qu fun j=>(ha.bz j).mul<|(Bz.of hc.1).mono hc.2;rw[zd<|ot (g:=fun j=>cf a j*zv c) hb (by lia) ?_]
 ·rw[zd<|zF ho hk (by rw[yM];lia) hf,yM];congr 1;exact aH (fun j hj=>ye<|by rw[yM];lia) (fun j hj=>JD hj)<|fun j=>Dr (fun j hj=>JD hj) j
 ·intro j hj;unfold XB;rw[zd<|yf (ha.okZ (by lia) j) (KE.of hc<|by lia) hf,VG]
def aO(a b:List Zr):List Zr:=vO (max a.length b.length)<|fun j=>cf a j-cf b j
theorem xn{n:Nat}{f:Nat->Int}(h:∀j,Bz k<|f j):xc k (vO n f):=Qu h
theorem TZ{m:Nat}(hm:m=dg (fun j=>cf b j* -1) b.length):vO (max a.length (vO b.length<|fun j=>cf b j* -1).length) (fun j=>cf a j+cf (vO b.length<|fun j=>cf b j* -1) j)=aO a b:=by
 have e:∀j,cf (vO b.length<|fun j=>cf b j* -1) j=cf b j* -1:=jD fun j hj=>JD hj;have hd:=qe (fun j=>cf b j* -1) b.length;refine aH (fun j hj=>KN hj) (fun j hj=> ?_)<|fun j=> ?_
 ·rw[ye (by lia),ye<|by lia];rfl
 ·rw[e];lia
theorem Bz.one:∀{k:Nat},1<=k->Bz k (-1):=by grind [Bz,Bz.mono]
theorem kg(ha:xc k a)(hb:xc k b)(hk:k+2<=100000)(hc:a.length<=1000000)(he:b.length<=1000000)(hf:3000000<=fu):
 ja fu a b=some (aO a b):=by
 unfold ja;have hd:=qe (fun j=>cf b j* -1) b.length;rw[zd<|yb (by decide) hf,zd<|qI (l:=1) hb ⟨yW _,(Bz.one<|xab _).len⟩ (by lia) he hf,zA,zd<|K5 (k:=k+1) (ha.mono<|by lia) (xn fun j=>(hb.bz j).mul<|Bz.one<|xab _) (by lia) hc (by rw[xM];lia) hf,TZ rfl]
end
section
variable{kb ka:Nat}{b a:List Zr}
def M2(b:List Zr)(i k:Nat):Int:=if i<=k then cf b (k-i)else 0
def XW(a b:List Zr):Nat->Nat->Int
 |0,_=>0
 |n+1,k=>XW a b n k+cf a n*M2 b n k
def uD(a b:List Zr)(i j k:Nat):Int:=XW a b i k+if i<=k/\k<i+j then cf a i*cf b (k-i)else 0
def yT(a b:List Zr):List Zr:=vO (a.length+b.length)<|XW a b a.length
theorem SU(hb:xc kb b)(i k:Nat):Bz kb (M2 b i k):=by grind [M2,Bz.zero,xc.bz]
theorem n9{ka kb:Nat}{a b:List Zr}(ha:xc ka a)(hb:xc kb b):∀n k,Bz (ka+kb+n) (XW a b n k)
 |0,k=>Bz.zero _
 |n+1,k=>by
  unfold XW;have h:=((ha.bz n).mul<|SU hb n k).mono (show ka+kb<=ka+kb+n by lia);exact Bz.add (n9 ha hb n k) h
theorem MH(ha:xc ka a)(hb:xc kb b)(i j k:Nat):Bz (ka+kb+i+1) (uD a b i j k):=by
 unfold uD;refine Bz.add (n9 ha hb i k) ?_;split
 ·exact((ha.bz i).mul<|hb.bz _).mono<|by lia
 ·exact Bz.zero _
theorem Lj{a b:List Zr}{k:Nat}:∀{n},n+b.length<=k+1->XW a b n k=0
 |0,_=>rfl
 |n+1,h=>by
  unfold XW M2;rw[Lj (by lia),zP,ye (p:=b) (by lia),xaw];rfl
theorem gK{k:Nat}(h:a.length+b.length<=k):XW a b a.length k=0:=Lj<|by lia
theorem EJ(a b:List Zr)(i k:Nat):uD a b i 0 k=XW a b i k:=by
 unfold uD;rw[zC,xbD]
theorem Dt(a b:List Zr)(i k:Nat):uD a b i b.length k=XW a b (i+1) k:=by
 rw[show XW a b (i+1) k=XW a b i k+cf a i*M2 b i k from rfl];unfold uD M2;congr 1;by_cases h:i<=k
 ·rw[iq h];by_cases h2:k<i+b.length
  ·rw[if_pos ⟨h,h2⟩]
  ·rw[ir<|fun e=>h2 e.2,ye (p:=b) (by lia),xaw]
 ·rw[ir<|fun e=>h e.1,ir h,xaw]
theorem Fa(a b:List Zr)(i j k:Nat):Zo (uD a b i j) (i+j) (uD a b i j (i+j)+cf a i*cf b j) k=uD a b i (j+1) k:=by
 unfold Zo;by_cases h:k=i+j
 ·subst h;rw[iq rfl];unfold uD;rw[zC,if_pos ⟨by lia,by lia⟩,show i+j-i=j by lia,xbD]
 ·rw[ir h];unfold uD;congr 1;by_cases h2:i<=k/\k<i+j
  ·rw[iq h2,if_pos ⟨h2.1,by lia⟩]
  ·rw[ir h2,zC]
theorem xh{fu:Nat}(ha:xc ka a)(hb:xc kb b)(hk:ka+kb+a.length+1<=100000:=by lia)(hc:b.length<=100000:=by lia)(hf:3000000<=fu:=by lia):xa fu a b=some (yT a b):=by
 unfold xa;rw[ze,show(a.length:Int)+(b.length:Int)=((a.length+b.length:Nat):Int)by lia,yI,yL,zj,dm];obtain⟨n,hn⟩:∃n,n=a.length+b.length:=⟨_,rfl⟩;rw[<-hn,zd (v:=zi n<|XW a b a.length)]
 ·rw[zd<|zF (Qu<|n9 ha hb a.length) (by lia) (by rw[yM];lia) hf,yM];congr 1;unfold yT;exact aH (fun j hj=>ye<|by rw[yM];lia) (fun j hj=>gK hj)<|fun j=>Dr (fun j hj=>gK<|by lia) j
 ·refine zB (fun s:Int×List Zr=>∃i:Nat,i<=a.length/\s=((i:Int),zi n<|XW a b i)) (fun s=>a.length-s.1.toNat) _ ?_ _ _ ⟨0,xah _,rfl⟩ (by show a.length-0<fu;lia);rintro s L ⟨i,hi,rfl⟩ ih;unfold bJ;simp only;by_cases h1:i<a.length
  ·rw[zP,zd rfl];simp only[if_true];rw[zw h1,zj,zd (v:=zi n<|XW a b<|i+1),ze]
   ·exact ih _ ⟨i+1,by lia,rfl⟩ (by show a.length-((i:Int)+1).toNat<a.length-(i:Int).toNat;lia)
   ·refine zB (fun s:Int×List Zr×Zr=>∃j:Nat,j<=b.length/\s=((j:Int),zi n<|uD a b i j,a.getD i (false,[]))) (fun s=>b.length-s.1.toNat) _ ?_ _ _ ⟨0,xah _,by rw[xe fun k _=>(EJ a b i k).symm];rfl⟩ (by show b.length-0<fu;lia);rintro s L2 ⟨j,hj,rfl⟩ ih2;unfold bh;simp only;by_cases h2:j<b.length
    ·rw[zP,zd rfl];simp only[if_true];have e:(i:Int)+(j:Int)=((i+j:Nat):Int):=by lia
     have hp:=MH ha hb i j<|i+j;rw[zw h2,zj,e,ze,ze,zw (by rw[yM];lia),zj,YK (by lia),zd<|yf (ha.okZ (by lia) i) (hb.okZ (by lia) j) hf,VG,VG,zd<|qu (hp.ok<|by lia) (((ha.bz i).mul<|hb.bz j).ok<|by lia) hf,zA,zA,zw (by rw[yM];lia),zj,KU,ze];exact ih2 _ ⟨j+1,by lia,by rw[xe fun k _=>Fa a b i j k];rfl⟩ (by show b.length-((j:Int)+1).toNat<b.length-(j:Int).toNat;lia)
    ·rw[zC,zd rfl];simp only[xak,if_false];obtain rfl:j=b.length:=by lia
     rw[xe fun k _=>Dt a b i k]
  ·rw[zC,zd rfl];simp only[xak,if_false];obtain rfl:i=a.length:=by lia
   rfl
theorem ZE(ha:xc ka a)(hb:xc kb b):xc (ka+kb+a.length) (yT a b):=xn<|n9 ha hb a.length
theorem PY(a b:List Zr)(k:Nat):cf (yT a b) k=XW a b a.length k:=jD (fun j hj=>gK hj) k
theorem jU(a b:List Zr):(yT a b).length<=a.length+b.length:=by unfold yT;rw[xM];exact qe _ _
end
section
variable{f g:Nat->Int}{fu k:Nat}{a:List Zr}{m:Zr}{a2:Zr->Zr->Option (Zr×Int)}
theorem sA{f g:Nat->Int}:∀{n},(∀k,k<n->f k=g k)->dg f n=dg g n
 |0,_=>rfl
 |n+1,h=>by
  unfold dg;rw[h n (by lia),sA fun k hk=>h k<|by lia]
theorem lK{n:Nat}(h:∀k,k<n->f k=g k):vO n f=vO n g:=by grind [vO,sA,qe,xe]
theorem r9{n:Nat}:vO n (cf<|zi n f)=vO n f:=lK fun k hk=>Gz hk
theorem Gi{l:Nat}{c:Int}(hm:gI m)(h0:0<zv m)(ha:a.length<=1000000)(hl:l<=100000)(hg:∀j,Bz l<|g j)(hf:3000000<=fu)(h:∀j,j<a.length->a2 (a.getD j (false,[])) m=some (yK<|g j,c)):
 vA fu a m a2=some (vO a.length g,0):=by
 unfold vA;rw[zd<|xg hm.ok hf,ir (fun e=>by have:=E4.1 e;lia),yI,yL,zj,dm,zd (v:=zi a.length g)]
 ·rw[zd<|zF (Qu hg) hl (by rw[yM];lia) hf,yM,r9]
 ·refine zB (fun s:Int×List Zr=>∃i:Nat,i<=a.length/\s=((i:Int),zi a.length (fun k=>if k<i then g k else 0))) (fun s=>a.length-s.1.toNat) _ ?_ _ _ ⟨0,xah _,by rw[xe (g:=fun k=>if k<0 then g k else 0)<|fun k _=>by rw[zC]];rfl⟩ (by show a.length-0<fu;lia);rintro s L ⟨i,hi,rfl⟩ ih;unfold QW;simp only;by_cases h1:i<a.length
  ·rw[zP,zd rfl];simp only[if_true];rw[zw h1,zj,zd<|h i h1];simp only;rw[zw (by rw[yM];exact h1),zj,KU,ze];refine ih _ ⟨i+1,by lia,?_⟩ (by show a.length-((i:Int)+1).toNat<a.length-(i:Int).toNat;lia);congr 1;refine xe fun k hk=> ?_;unfold Zo;by_cases e:k=i
   ·rw[iq e,zP,e]
   ·rw[ir e];show(if k<i then g k else 0)=_;by_cases e2:k<i
    ·rw[iq e2,zP]
    ·rw[ir e2,zC]
  ·rw[zC,zd rfl];simp only[xak,if_false];congr 1;exact xe fun k hk=>by rw[zP]
theorem BB(hm:gI m)(h0:zv m<=0)(hf:3000000<=fu):vA fu a m a2=some ([],1):=by grind [vA,zd,xg,gI.ok,E4]
def wy(a:List Zr)(m:Int):List Zr:=vO a.length<|fun j=>cf a j%m
def eo(a:List Zr)(m:Int):List Zr:=vO a.length<|fun j=>near (cf a j) m
def Su(a:List Zr)(m:Int):List Zr×Int:=if m<=0 then([],1)else(wy a m,0)
def Mc(a:List Zr)(m:Int):List Zr×Int:=if m<=0 then([],1)else(eo a m,0)
theorem gI.bz{z:Zr}(h:gI z):Bz 40000 (zv z):=(Bz.of h.1).mono h.2
theorem Kj(ha:xc k a)(hk:k<=40000)(hm:gI m)(hc:a.length<=1000000)(hf:3000000<=fu):ZR fu a m=some (Su a<|zv m):=by
 unfold ZR Su;by_cases h0:zv m<=0
 ·rw[zd<|BB hm h0 hf,iq h0]
 ·obtain⟨K,hK⟩:∃K,K=40000:=⟨_,rfl⟩;have hb:Bz K (zv m):=by rw[hK];exact hm.bz
  rw[ir h0,zd<|Gi (c:=0) (g:=fun j=>cf a j%zv m) hm (by lia) hc (show K<=100000 by lia) (fun j=>hb.emod<|by lia) hf fun j hj=> ?_]
  ·rfl
  ·show vY fu _ _=_;rw[uA (ha.okS hk j) hm hf];unfold BS;rw[ir h0];rfl
theorem iX(ha:xc k a)(hk:k<=40000)(hm:gI m)(hc:a.length<=1000000)(hf:3000000<=fu):YW fu a m=some (Mc a<|zv m):=by
 unfold YW Mc;by_cases h0:zv m<=0
 ·rw[zd<|BB hm h0 hf,iq h0]
 ·obtain⟨K,hK⟩:∃K,K=40000:=⟨_,rfl⟩;have hb:Bz K (zv m):=by rw[hK];exact hm.bz
  rw[ir h0,zd<|Gi (c:=0) (g:=fun j=>near (cf a j)<|zv m) hm (by lia) hc (show K<=100000 by lia) (fun j=>hb.near<|by lia) hf fun j hj=> ?_]
  ·rfl
  ·show ZF fu _ _=_;rw[mM (ha.okS hk j) hm hf];unfold zcO;rw[ir h0];rfl
theorem mI{ka kb:Nat}{b:List Zr}(ha:xc ka a)(hb:xc kb b)(hk:ka+kb+a.length+1<=40000)(hc:b.length<=40000)(hm:gI m)(hf:3000000<=fu):WB fu a b m=some (Su (yT a b)<|zv m):=by
 unfold WB;have:=jU a b;rw[zd<|xh ha hb,zd<|Kj (ZE ha hb) (by lia) hm (by lia) hf]
end
section
theorem IV(n:Nat)(f:Nat->Int):vO (vO n f).length (cf<|vO n f)=vO n f:=by
 have e:∀k,k<dg f n->cf (vO n f) k=f k:=fun k hk=>Gz hk;have h:dg (cf<|vO n f) (vO n f).length=dg f n:=by
  rw[xM];refine aF (xab _) (fun k h1 h2=>by lia) ?_;by_cases h0:dg f n=0
  ·exact .inl h0
  ·right;rw[e _<|by lia];exact Vj f n h0
 show zi (dg (cf<|vO n f) (vO n f).length) (cf<|vO n f)=vO n f;rw[h];exact xe e
theorem zbV{p:List Zr}(h:p=vO p.length (cf p)):p=zi p.length (cf p):=by grind [vO,cf,dg,xM]
theorem Zy{p:List Zr}(h:p=vO p.length (cf p))(h0:p.length≠0):cf p (p.length-1)≠0:=by grind [cf,dg,xM,Vj]
theorem Il{p:List Zr}(h:p=vO p.length (cf p)){j:Nat}(hj:j<p.length:=by lia):p.getD j (false,[])=yK (cf p j):=by grind [zbV,YK]
theorem YV(n:Nat)(f:Nat->Int):vO n f=vO (vO n f).length (cf<|vO n f):=(IV n f).symm
theorem rA{p:List Zr}(h:p=vO p.length (cf p)){l:Nat}(hz:∀k,l<=k->cf p k=0):p.length<=l:=by
 refine xbw fun ha=> ?_;exact Zy h (by lia)<|hz _<|by lia
def dvF(r d:List Zr)(m:Int)(qn:Nat):Nat->Nat->Int
 |0=>cf r
 |s+1=>fun k=>dvF r d m qn s k-(dvF r d m qn s (qn-(s+1)+(d.length-1))%m)*M2 d (qn-(s+1)) k
def Aj(r d:List Zr)(m:Int)(qn i:Nat):Nat->Int:=dvF r d m qn<|qn-i
def Nw(r d:List Zr)(m:Int)(qn i:Nat):Int:=Aj r d m qn (i+1) (i+(d.length-1))%m
section
variable{r d:List Zr}{m:Int}{qn:Nat}
theorem oM:Aj r d m qn qn=cf r:=by unfold Aj;rw[xdb];rfl
theorem pj{i:Nat}(h:i<qn)(k:Nat):Aj r d m qn i k=Aj r d m qn (i+1) k-Nw r d m qn i*M2 d i k:=by
 unfold Nw Aj;obtain⟨s,hs⟩:∃s,s=qn-(i+1):=⟨_,rfl⟩;rw[show qn-i=s+1 by lia,<-hs];show dvF r d m qn s k-(dvF r d m qn s (qn-(s+1)+(d.length-1))%m)*M2 d (qn-(s+1)) k=_;rw[show qn-(s+1)=i by lia]
theorem Dq{K:Nat}(hr:xc K r)(hd:xc K d)(hm:Bz K m)(h0:0<m):∀s k,Bz (2*K+s) (dvF r d m qn s k)
 |0,k=>(hr.bz k).mono<|by lia
 |s+1,k=>by
  have h:=((Bz.emod (x:=dvF r d m qn s<|qn-(s+1)+(d.length-1)) hm h0).mul<|SU hd (qn-(s+1)) k).mono (show K+K<=2*K+s by lia);exact Bz.sub (Dq hr hd hm h0 s k) h
theorem NT{K:Nat}(hm:Bz K m)(h0:0<m)(i:Nat):Bz K (Nw r d m qn i):=Bz.emod hm h0
end
theorem ZX{fu k:Nat}{a:List Zr}{m:Zr}(ha:xc k a)(hk:k<=40000)(hm:gI m)(h0:0<zv m)(hb:a.length<=1000000:=by lia)(hf:3000000<=fu:=by lia):yY fu a m=some (wy a<|zv m):=by grind [yY,Su,zd,Kj]
theorem JN{K:Nat}{a:List Zr}{m:Int}(hm:Bz K m)(h0:0<m):xc K (wy a m):=xn fun j=>Bz.emod hm h0
theorem Zq(a:List Zr)(m:Int):(wy a m).length<=a.length:=by unfold wy;rw[xM];exact qe _ _
theorem jR(a:List Zr)(m:Int)(k:Nat):cf (wy a m) k=cf a k%m:=jD (fun j hj=>by rw[ye hj,xag]) k
theorem Ji(a:List Zr)(m:Int):wy a m=vO (wy a m).length (cf<|wy a m):=YV _ _
def dvQ(r d:List Zr)(m:Int)(qn:Nat):Nat->Int:=fun k=>if k<qn then Nw r d m qn k else 0
def Az(r d:List Zr)(m:Int):List Zr:=vO (r.length+1-d.length)<|fun k=>dvQ r d m (r.length+1-d.length) k%m
def Y0(r d:List Zr)(m:Int):List Zr:=vO r.length<|fun k=>Aj r d m (r.length+1-d.length) 0 k%m
def iF(r d:List Zr)(m:Int)(qn i j:Nat):Nat->Int:=fun k=>Aj r d m qn (i+1) k-if i<=k/\k<i+j then Nw r d m qn i*cf d (k-i)else 0
theorem Rj{r d:List Zr}{m:Int}{qn i k:Nat}:iF r d m qn i 0 k=Aj r d m qn (i+1) k:=by
 unfold iF;rw[zC,xcG]
theorem SE{r d:List Zr}{m:Int}{qn i:Nat}(h:i<qn)(k:Nat):iF r d m qn i d.length k=Aj r d m qn i k:=by
 rw[pj h];unfold iF M2;congr 1;by_cases h:i<=k
 ·rw[iq h];by_cases h2:k<i+d.length
  ·rw[if_pos ⟨h,h2⟩]
  ·rw[ir<|fun e=>h2 e.2,ye (p:=d) (by lia),xaw]
 ·rw[ir<|fun e=>h e.1,ir h,xaw]
theorem RE(r d:List Zr)(m:Int)(qn i j k:Nat):Zo (iF r d m qn i j) (i+j) (iF r d m qn i j (i+j)-Nw r d m qn i*cf d j) k=iF r d m qn i (j+1) k:=by
 unfold Zo;by_cases h:k=i+j
 ·subst h;rw[iq rfl];unfold iF;rw[zC,if_pos ⟨by lia,by lia⟩,show i+j-i=j by lia,xcG]
 ·rw[ir h];unfold iF;congr 1;by_cases h2:i<=k/\k<i+j
  ·rw[iq h2,if_pos ⟨h2.1,by lia⟩]
  ·rw[ir h2,zC]
theorem zeT{K:Nat}{r d:List Zr}{m:Int}{qn i j:Nat}(hr:xc K r)(hd:xc K d)(hm:Bz K m)(h0:0<m)(h:i<qn)(k:Nat):Bz (2*K+qn+1) (iF r d m qn i j k):=by
 unfold iF;refine Bz.sub ((Dq hr hd hm h0 _ k).mono<|by lia) ?_;split
 ·exact((NT hm h0 i).mul<|hd.bz _).mono<|by lia
 ·exact Bz.zero _
theorem Sv{fu K n i qn:Nat}{r d:List Zr}{m:Zr}{q:Nat->Int}(hr:xc K r)(hd:xc K d)(hm:Bz K (zv m))(h0:0<zv m)(hn:r.length=n)(hq:qn=n+1-d.length)(hb:0<d.length)(hi:i<qn)(hK:2*K+n+5<=40000)(ha:q i=Nw r d (zv m) qn i)(hf:3000000<=fu):
 zm (u6 fu d (i:Int)) fu (d,m,0,zi n<|Aj r d (zv m) qn<|i+1,zi qn q)=some (d,m,zi n<|Aj r d (zv m) qn i,zi qn q):=by
 refine zB (fun s:List Zr×Zr×Int×List Zr×List Zr=>∃j:Nat,j<=d.length/\s=(d,m,(j:Int),zi n<|iF r d (zv m) qn i j,zi qn q)) (fun s=>d.length-s.2.2.1.toNat) _ ?_ _ _ ⟨0,xah _,by rw[xe (f:=iF r d (zv m) qn i 0) fun k _=>Rj];rfl⟩ (by show d.length-0<fu;lia);rintro s L ⟨j,hj,rfl⟩ ih;unfold u6;simp only;by_cases h2:j<d.length
 ·rw[zP,zd rfl];simp only[if_true];have e:(i:Int)+(j:Int)=((i+j:Nat):Int):=by lia
  have hp:=zeT (j:=j) hr hd hm h0 hi<|i+j;have hc:=NT (r:=r) (d:=d) (qn:=qn) hm h0 i;rw[zw h2,zj,e,ze,ze,zw (by rw[yM];lia),zj,YK (by lia),zw (by rw[yM];lia),zj,YK hi,ha,zd<|yf (hc.ok<|by lia) (hd.okZ (by lia) j) hf,VG,zA,zd<|qq (hp.ok<|by lia) ((hc.mul<|hd.bz j).ok<|by lia) hf,zA,zA,zw (by rw[yM];lia),zj,KU,ze];exact ih _ ⟨j+1,by lia,by rw[xe fun k _=>RE r d (zv m) qn i j k];rfl⟩ (by show d.length-((j:Int)+1).toNat<d.length-(j:Int).toNat;lia)
 ·rw[zC,zd rfl];simp only[xak,if_false];obtain rfl:j=d.length:=by lia
  rw[xe fun k _=>SE hi k]
theorem Fy{fu K n qn:Nat}{r d:List Zr}{m:Zr}(hr:xc K r)(ha:r=zi n (cf r))(hd:xc K d)(hm:Bz K (zv m))(hb:zo m.2)(he:m.2.length<=K)(h0:0<zv m)(hn:r.length=n)(hq:qn=n+1-d.length)(hc:0<d.length)(hK:2*K+n+5<=40000)(hg:d.length<=1000000)(hf:3000000<=fu):
 zm (uV fu d m) fu ((qn:Int)-1,r,xaf qn (false,[]))=some (zi n<|Aj r d (zv m) qn 0,zi qn<|dvQ r d (zv m) qn):=by
 refine zB (fun s:Int×List Zr×List Zr=>∃i:Nat,i<=qn/\s=((i:Int)-1,zi n<|Aj r d (zv m) qn i,zi qn (fun k=>if i<=k then Nw r d (zv m) qn k else 0))) (fun s=>(s.1+1).toNat) _ ?_ _ _ ⟨qn,xab _,?_⟩ (by show((qn:Int)-1+1).toNat<fu;lia)
 ·rintro s L ⟨i,hi,rfl⟩ ih;unfold uV;simp only
  cases i with
  |zero=>
   have e0:(zi qn fun k=>if 0<=k then Nw r d (zv m) qn k else 0)=zi qn (dvQ r d (zv m) qn):=xe fun k hk=>by
    rw[iq<|xah _];unfold dvQ;rw[iq hk]
   rw[zC,e0]
  |succ i=>
   have e1:((i+1:Nat):Int)-1=(i:Int):=by lia
   have e2:(i:Int)+(d.length:Int)-1=((i+(d.length-1):Nat):Int):=by lia
   have hp:Bz (2*K+qn) (Aj r d (zv m) qn (i+1)<|i+(d.length-1)):=(Dq hr hd hm h0 _ _).mono (by lia);rw[e1,zP,ze,e2,ze,zw (by rw[yM];lia),zj,YK (by lia),zd<|uA (hp.okS<|by lia) ⟨hb,by lia⟩ hf,zA];unfold BS;rw[zC];simp only;rw[zw (by rw[yM];lia),zj,KU,zd<|Sv (q:=Zo (fun k=>if i+1<=k then Nw r d (zv m) qn k else 0) i<|Aj r d (zv m) qn (i+1) (i+(d.length-1))%zv m) hr hd hm h0 hn hq hc (by lia) hK ?_ hf]
   ·simp only;rw[ze];refine ih _ ⟨i,by lia,?_⟩ (by show((i:Int)-1+1).toNat<(((i+1:Nat):Int)-1+1).toNat;lia);congr 2;refine xe fun k hk=> ?_;unfold Zo;by_cases h:k=i
    ·rw[iq h,zP,h];rfl
    ·rw[ir h];show(if i+1<=k then _ else _)=_;by_cases h2:i+1<=k
     ·rw[iq h2,zP]
     ·rw[ir h2,zC]
   ·unfold Zo;rw[iq rfl];rfl
 ·rw[oM,<-ha,dm,xe (g:=fun k=>if qn<=k then Nw r d (zv m) qn k else 0) fun k hk=>by rw[zC]]
theorem X3{fu k K:Nat}{a d:List Zr}{m:Zr}(ha:xc k a)(hk:k<=40000)(hd:xc K d)(hb:zo m.2)(hg:m.2.length<=K)(h0:0<zv m)(hi:0<d.length)(hK:2*K+a.length+5<=40000)(hj:d.length<=1000000)(hf:3000000<=fu):
 qJ fu a d m=some (Az (wy a<|zv m) d<|zv m,Y0 (wy a<|zv m) d<|zv m):=by
 unfold qJ;have hm:Bz K (zv m):=(Bz.of hb).mono hg;have he:gI m:=⟨hb,by lia⟩;have hr:=JN (a:=a) hm h0;have hl:=Zq a<|zv m;have hc:=zbV<|Ji a<|zv m;rw[zd<|ZX ha hk he h0];generalize wy a (zv m)=r at*
 obtain⟨qn,hq⟩:∃qn,qn=r.length+1-d.length:=⟨_,rfl⟩;have e1:max ((r.length:Int)-(d.length:Int)+1) 0=(qn:Int):=by lia
 rw[ze,ze,zj,e1,yI,yL,zj,xaZ,ze,zd<|Fy hr hc hd hm hb hg h0 rfl hq hi (by lia) hj hf];simp only;have hQ:∀j,Bz K (dvQ r d (zv m) qn j):=fun j=>by
  unfold dvQ;split
  ·exact NT hm h0 j
  ·exact Bz.zero _
 have hR:∀j,Bz (2*K+qn) (Aj r d (zv m) qn 0 j):=fun j=>(Dq hr hd hm h0 _ _).mono (by lia);rw[zd (ZX (Qu hQ) (by lia) he h0<|by rw[yM];lia),zd<|ZX (Qu hR) (by lia) he h0<|by rw[yM];lia];unfold Az Y0 wy;rw[<-hq,yM,yM,lK fun k hk=>by rw[Gz hk],lK (n:=r.length) fun k hk=>by rw[Gz hk]]
end
section
variable{k:Nat}{a b:List Zr}
def mono(i:Nat)(c:Int):Nat->Int:=fun k=>if k=i then c else 0
theorem PC(a b:List Zr)(k:Nat):cf (aO a b) k=cf a k-cf b k:=jD (fun j hj=>by rw[ye (by lia),ye<|by lia];rfl) k
theorem Jl(a b:List Zr):(aO a b).length<=max a.length b.length:=by unfold aO;rw[xM];exact qe _ _
theorem oI(ha:xc k a)(hb:xc k b):xc (k+1) (aO a b):=xn fun j=>(ha.bz j).sub<|hb.bz j
theorem Bz.one':∀{k:Nat},1<=k->Bz k 1:=by grind [Bz,Bz.mono]
theorem IZ(hl:a.length=b.length)(h:∀j,j<a.length->a.getD j (false,[])=b.getD j (false,[])):a=b:=by grind [xeS,xaa]
theorem Kk{fu:Nat}(ha:xc k a)(hk:k<=1000000)(hb:a.length<=1000000)(hf:3000000<=fu):kO fu a b=some (decide<|a=b):=by
 unfold kO;by_cases hl:a.length=b.length
 ·rw[zP,zd (v:=if a=b then .inl ()else .inr ())]
  ·by_cases h:a=b
   ·rw[iq h,decide_eq_true h]
   ·rw[ir h,decide_eq_false h]
  ·refine zB (fun i:Int=>∃j:Nat,i=(j:Int)/\j<=a.length/\∀l,l<j->a.getD l (false,[])=b.getD l (false,[])) (fun i=>a.length-i.toNat) _ ?_ _ _ ⟨0,rfl,xah _,fun l h=>absurd h<|xbl _⟩ (by show a.length-0<fu;lia);rintro i L ⟨j,rfl,hj,he⟩ ih;unfold K9;by_cases h1:j<a.length
   ·have:=(ha.get j).2;rw[zP,zw h1,zj,yp,zj,zd<|nh (by lia)<|by lia];by_cases h2:a.getD j (false,[])=b.getD j (false,[])
    ·rw[decide_eq_true h2,ir (by decide),ze];refine ih _ ⟨j+1,rfl,by lia,fun l h=> ?_⟩ (by lia);by_cases h3:l=j
     ·rw[h3];exact h2
     ·exact he l<|by lia
    ·rw[decide_eq_false h2,iq (by decide),ir<|fun e=>h2<|by rw[e]]
   ·rw[zC,iq<|IZ hl fun l h=>he l<|by lia]
 ·rw[zC,decide_eq_false<|fun e=>hl<|by rw[e]]
theorem CL{d:List Zr}(h:d.length≠0:=by lia):d.drop (d.length-1)=[d.getD (d.length-1) (false,[])]:=by grind [xcz,xcm,xaa]
end
theorem zco{l:List Nat}(h:(Ty.l .u).ok l):zo l:=fun x hx=>h.2 x hx
theorem Om{p:List Zr}(h:(Ty.l (.p .b (.l .u))).ok p){k:Nat}(hs:∀z∈p,z.2.length<=k):xc k p:=fun z hz=>⟨zco (h.2 z hz).2,hs z hz⟩
def UQ(c k:Nat)(p:List Zr):Prop:=p.length<=c/\∀z∈p,z.2.length<=k
instance(c k:Nat)(p:List Zr):Decidable (UQ c k p):=inferInstanceAs<|Decidable<|_/\_
theorem Rr{l:List Zr}{i:Nat}(h:i<l.length):l.getD i (false,[])∈l:=by grind [xaa,xbk]
theorem zaR{l:List Zr}{q:Zr->Prop}(h:∀j,j<l.length->q (l.getD j (false,[]))):∀z∈l,q z:=by grind [xdA,xaa]
section
theorem Ck{a b:List Zr}(k:Nat):∀c,XW a b (a.length+c) k=XW a b a.length k
 |0=>rfl
 |c+1=>by
  show XW a b (a.length+c) k+cf a (a.length+c)*M2 b (a.length+c) k=_;rw[Ck k c,ye (p:=a) (by lia),xaV,xbD]
theorem HQ{a b:List Zr}{n:Nat}(h:a.length<=n)(k:Nat):XW a b n k=XW a b a.length k:=by
 have:=Ck (a:=a) (b:=b) k<|n-a.length;rw[show a.length+(n-a.length)=n by lia]at this;exact this
theorem o8{a b:List Zr}{m:Int}(h:∀k,cf a k%m=cf b k%m):wy a m=wy b m:=by grind [wy,aH,ye,xag]
section
variable{r d:List Zr}{m:Int}
theorem Pj{qn:Nat}{q:List Zr}(hq:∀j,j<qn->cf q j=Nw r d m qn j)(k:Nat):∀n,n<=qn->Aj r d m qn n k=Aj r d m qn 0 k+XW q d n k
 |0,_=>by show _=_+0;lia
 |n+1,h=>by
  have ih:=Pj hq k n (by lia);rw[pj (i:=n)<|by lia]at ih;show _=_+(XW q d n k+cf q n*M2 d n k);rw[hq n<|by lia];lia
theorem OW(j:Nat):cf (Az r d m) j=dvQ r d m (r.length+1-d.length) j%m:=jD (fun k hk=>by unfold dvQ;rw[zC,xag]) j
theorem tC{qn:Nat}(hn:r.length<=qn+(d.length-1))(hb:0<d.length)(ha:cf d (d.length-1)=1):∀c i k,i+c=qn->i+(d.length-1)<=k->Aj r d m qn i k%m=0
 |0,i,k,hi,hk=>by
  obtain rfl:i=qn:=by lia
  rw[oM,ye (by lia),xag]
 |c+1,i,k,hi,hk=>by
  rw[pj (i:=i)<|by lia];by_cases h:k=i+(d.length-1)
  ·unfold M2 Nw;rw[zP,show k-i=d.length-1 by lia,ha,xcl,<-h,<-Int.emod_sub_emod,xdc,xag]
  ·have ih:=tC hn hb ha c (i+1) k (by lia) (by lia);unfold M2;rw[zP,ye (p:=d) (by lia),xaw,xcG];exact ih
theorem da(h:r.length<=r.length+1-d.length+(d.length-1))(ha:0<d.length)(hb:cf d (d.length-1)=1)(k:Nat):cf (Y0 r d m) k=Aj r d m (r.length+1-d.length) 0 k%m:=
 jD (fun j hj=>by
  by_cases h2:d.length<=r.length
  ·exact tC h ha hb _ 0 j (xaN _)<|by lia
  ·rw[show r.length+1-d.length=0 by lia,oM,ye hj,xag]) k
theorem Bk(ha:0<d.length)(hb:cf d (d.length-1)=1):(Y0 r d m).length<d.length:=by
 have h:(Y0 r d m).length<=d.length-1:=rA (YV _ _) fun k hk=>by
  rw[show vO r.length (fun k=>Aj r d m (r.length+1-d.length) 0 k%m)=Y0 r d m from rfl,da (by lia) ha hb];exact tC (by lia) ha hb _ 0 k (xaN _)<|by lia
 lia
end
end
section
variable{m:Int}
def zW:Nat->(Nat->Int)->Int
 |0,_=>0
 |n+1,f=>zW n f+f n
theorem zY{f g:Nat->Int}:∀{n},(∀k,k<n->f k=g k)->zW n f=zW n g
 |0,_=>rfl
 |n+1,h=>by
  show zW n f+f n=zW n g+g n;rw[zY fun k hk=>h k (by lia),h n<|by lia]
theorem ZL(f g:Nat->Int):∀n,zW n (fun k=>f k+g k)=zW n f+zW n g
 |0=>rfl
 |n+1=>by
  show zW n _+(f n+g n)=zW n f+f n+(zW n g+g n);rw[ZL f g n];lia
theorem jZ(c:Int)(f:Nat->Int):∀n,zW n (fun k=>c*f k)=c*zW n f
 |0=>by show(0:Int)=c*0;lia
 |n+1=>by
  show zW n _+c*f n=c*(zW n f+f n);rw[jZ c f n,xeY]
theorem SK(c:Int)(f:Nat->Int)(n:Nat):zW n (fun k=>f k*c)=zW n f*c:=by grind [jZ,zY,xbo]
theorem yJ:∀{n}{f:Nat->Int},(∀k,k<n->f k=0)->zW n f=0
 |0,_,_=>rfl
 |n+1,f,h=>by
  show zW n f+f n=0;rw[yJ fun k hk=>h k (by lia),h n<|by lia];rfl
theorem kh(f:Nat->Int):∀n,zW (n+1) f=f 0+zW n (fun k=>f<|k+1)
 |0=>by show(0:Int)+f 0=f 0+0;lia
 |n+1=>by
  show zW (n+1) f+f (n+1)=f 0+(zW n _+f (n+1));rw[kh f n];lia
theorem IL(f:Nat->Int):∀n,zW (n+1) f=zW (n+1) (fun k=>f<|n-k)
 |0=>rfl
 |n+1=>by
  rw[kh (fun k=>f<|n+1-k)<|n+1];show zW (n+1) f+f (n+1)=f (n+1-0)+_;rw[IL f n,Nat.sub_zero,zY (f:=fun k=>f<|n+1-(k+1)) (g:=fun k=>f<|n-k) fun k _=>by rw[show n+1-(k+1)=n-k by lia]];lia
theorem Fh{f:Nat->Int}{n:Nat}(h:∀k,n<=k->f k=0):∀c,zW (n+c) f=zW n f
 |0=>rfl
 |c+1=>by
  show zW (n+c) f+f (n+c)=_;rw[Fh h c,h _<|by lia];lia
theorem GR(G:Nat->Nat->Int):∀n,zW n (fun i=>zW (i+1)<|fun j=>G j<|i-j)=zW n (fun j=>zW (n-j)<|fun l=>G j l)
 |0=>rfl
 |n+1=>by
  show zW n _+zW (n+1) (fun j=>G j<|n-j)=zW n _+zW (n+1-n) (fun l=>G n l);rw[GR G n,zY (f:=fun j=>zW (n+1-j)<|fun l=>G j l) (g:=fun j=>zW (n-j) (fun l=>G j l)+G j (n-j)) fun j hj=>by rw[show n+1-j=(n-j)+1 by lia];rfl,ZL,show n+1-n=1 by lia];show _+(zW n (fun j=>G j<|n-j)+G n (n-n))=_+(0+G n 0);rw[xdb];lia
abbrev Pz:=Nat->Int
instance:_root_.Add Pz:=⟨fun f g k=>f k+g k⟩
instance:_root_.Sub Pz:=⟨fun f g k=>f k-g k⟩
instance:_root_.Neg Pz:=⟨fun f k=> -f k⟩
instance:_root_.Mul Pz:=⟨fun f g k=>zW (k+1)<|fun i=>f i*g (k-i)⟩
def pc(c:Int):Pz:=fun k=>if k=0 then c else 0
theorem zM(f g:Pz)(k:Nat):(f+g) k=f k+g k:=rfl
theorem yE(f g:Pz)(k:Nat):(f-g) k=f k-g k:=rfl
theorem Ix(f:Pz)(k:Nat):(-f) k= -f k:=rfl
theorem xq(f g:Pz)(k:Nat):(f*g) k=zW (k+1) (fun i=>f i*g (k-i)):=rfl
theorem zk(f g:Pz):f*g=g*f:=by
 funext k;rw[xq,xq,IL];exact zY fun i hi=>by rw[show k-(k-i)=i by lia,xbo]
theorem xC(f g h:Pz):f*(g+h)=f*g+f*h:=by
 funext k;rw[zM,xq,xq,xq,<-ZL];exact zY fun i _=>by rw[zM,xeY]
theorem ym(f g h:Pz):(f+g)*h=f*h+g*h:=by grind [zk,xC]
theorem R7(f g:Pz):f*(-g)= -(f*g):=by grind [Ix,zW,xq,jZ,zY,xeC]
theorem sr(f g:Pz):f-g=f+ -g:=by
 funext k;rw[yE,zM,Ix];lia
theorem vk(f g h:Pz):f*(g-h)=f*g-f*h:=by grind [sr,xC,R7]
theorem vi(f g h:Pz):(f-g)*h=f*h-g*h:=by grind [zk,vk]
theorem zf(f g h:Pz):f*g*h=f*(g*h):=by
 funext k;have e1:(f*g*h) k=zW (k+1) (fun i=>zW (i+1)<|fun j=>(fun j l=>f j*g l*h (k-(j+l))) j<|i-j):=by
  rw[xq];refine zY fun i hi=> ?_;rw[xq,<-SK];exact zY fun j hj=>by
   show f j*g (i-j)*h (k-i)=f j*g (i-j)*h (k-(j+(i-j)));rw[show j+(i-j)=i by lia]
 rw[e1,GR<|fun j l=>f j*g l*h (k-(j+l)),xq];refine zY fun j hj=> ?_;rw[xq,<-jZ,show k+1-j=k-j+1 by lia];exact zY fun l hl=>by
  show f j*g l*h (k-(j+l))=f j*(g l*h (k-j-l));rw[show k-(j+l)=k-j-l by lia,xbK]
theorem zy(f g h:Pz):f*(g*h)=g*(f*h):=by grind [zf,zk]
theorem zN(c:Int)(f:Pz)(k:Nat):(pc c*f) k=c*f k:=by simp_all [pc,xq,kh,yJ]
theorem zz(f:Pz):pc 1*f=f:=by funext k;rw[zN,xce]
theorem yh(f:Pz):pc 0*f=pc 0:=by
 funext k;rw[zN,xaV];unfold pc;split<;>rfl
theorem zO(k:Nat):pc 0 k=0:=by unfold pc;split<;>rfl
theorem qQ(a b:Int):pc a*pc b=pc (a*b):=by
 funext k;rw[zN];unfold pc;split
 ·rfl
 ·exact xaw _
def Cg(m:Int)(f g:Pz):Prop:=∀k,f k%m=g k%m
theorem Cg.rfl{f:Pz}:Cg m f f:=fun _=>Eq.refl _
theorem Cg.of{f g:Pz}(h:f=g):Cg m f g:=fun _=>by rw[h]
theorem Cg.symm{m:Int}{f g:Pz}(h:Cg m f g):Cg m g f:=fun k=>(h k).symm
theorem Cg.trans{m:Int}{f g h:Pz}(h1:Cg m f g)(h2:Cg m g h):Cg m f h:=fun k=>(h1 k).trans<|h2 k
theorem Cg.add{f f' g g':Pz}(h1:Cg m f f')(h2:Cg m g g'):Cg m (f+g) (f'+g'):=fun k=>by
 rw[zM,zM,xdN,h1,h2,<-xdN]
theorem Cg.sub{f f' g g':Pz}(h1:Cg m f f')(h2:Cg m g g'):Cg m (f-g) (f'-g'):=fun k=>by
 rw[yE,yE,Int.sub_emod,h1,h2,<-Int.sub_emod]
theorem aG{m:Int}{f g:Nat->Int}:∀{n},(∀k,k<n->f k%m=g k%m)->zW n f%m=zW n g%m
 |0,_=>Eq.refl _
 |n+1,h=>by
  show(zW n f+f n)%m=(zW n g+g n)%m;rw[xdN,aG fun k hk=>h k (by lia),h n (by lia),<-xdN]
theorem Cg.mul{f f' g g':Pz}(h1:Cg m f f')(h2:Cg m g g'):Cg m (f*g) (f'*g'):=fun k=>by
 rw[xq,xq];exact aG fun i _=>by rw[xbr,h1,h2,<-xbr]
theorem Cg.down{n:Int}{f g:Pz}(h:Cg m f g)(hd:n∣m):Cg n f g:=fun k=>by
 have:=h k;rw[<-xcH (f k) hd,this,xcH _ hd]
theorem Cg.dvd{f:Pz}(h:Cg m f (pc 0))(k:Nat):m∣f k:=xaJ<|by rw[h,zO,xag]
theorem Cg.of_dvd{f:Pz}(h:∀k,m∣f k):Cg m f (pc 0):=fun k=>by rw[zO,xag,xaB<|h k]
theorem K7{m:Int}{f:Nat->Int}:∀{n},(∀k,k<n->m∣f k)->m∣zW n f
 |0,_=>xcP _
 |n+1,h=>Int.dvd_add (K7 fun k hk=>h k<|by lia)<|h n<|by lia
theorem Cg.mul_zero{n:Int}{f g:Pz}(hf:Cg m f (pc 0))(hg:Cg n g (pc 0)):Cg (m*n) (f*g) (pc 0):=Cg.of_dvd fun k=>by
 rw[xq];exact K7 fun i _=>xfO (hf.dvd i)<|hg.dvd _
theorem Cg.mul_zero_l{f:Pz}(g:Pz)(hf:Cg m f (pc 0)):Cg m (g*f) (pc 0):=by
 have:=(Cg.rfl (m:=m) (f:=g)).mul hf;rw[zk g<|pc 0,yh]at this;exact this
theorem Cg.iff_sub{f g:Pz}:Cg m f g↔Cg m (f-g) (pc 0):=by
 constructor
 ·intro h;refine Cg.of_dvd fun k=> ?_;rw[yE];exact xaJ<|xaK.1<|h k
 ·intro h k;have:=xaB<|h.dvd k;rw[yE]at this;exact xaK.2 this
end
section
variable{m:Int}{f g h s t:Pz}
theorem zU(f:Pz):f*pc 1=f:=by rw[zk,zz]
theorem zfr(f g h s t e q:Pz):f-(g+(t*e+q*g))*(h+(s*e-q*h))=(f-g*h-e)+(e*(pc 1-(s*g+t*h))-(t*s)*(e*e)+(t*h-g*s)*(q*e)+(g*h)*(q*q)):=by
 simp only[xC,ym,vk,vi,zU,zf,zy,zk];funext k;simp only[zM,yE];lia
theorem zaU(g h s t b c:Pz):(s-(s*b-c*h))*g+(t-(t*b+c*g))*h-pc 1=(s*g+t*h-pc 1-b)-(s*g+t*h-pc 1-b)*b-b*b:=by
 simp only[xC,ym,vk,vi,zU,zz,zf,zy,zk];funext k;simp only[zM,yE];lia
theorem Cg.zero_add(hf:Cg m f (pc 0))(hg:Cg m g (pc 0)):Cg m (f+g) (pc 0):=Cg.of_dvd fun k=>by rw[zM];exact Int.dvd_add (hf.dvd k)<|hg.dvd k
theorem Cg.zero_sub(hf:Cg m f (pc 0))(hg:Cg m g (pc 0)):Cg m (f-g) (pc 0):=Cg.of_dvd fun k=>by rw[yE];exact xdp (hf.dvd k)<|hg.dvd k
theorem Cg.mul_zero_r(g:Pz)(hf:Cg m f (pc 0)):Cg m (f*g) (pc 0):=by rw[zk];exact hf.mul_zero_l g
theorem zay{n:Int}(hm:m∣n*n)(hn:n∣m){e q r g' h':Pz}(h1:Cg n f (g*h))(h2:Cg n (s*g+t*h) (pc 1))(he:Cg m e (f-g*h))(hd:Cg m (s*e) (q*h+r))(hq:Cg n q (pc 0))(hr:Cg n r (pc 0))(hg:Cg m g' (g+(t*e+q*g)))(hh:Cg m h' (h+r)):
 Cg m f (g'*h')/\Cg n g' g/\Cg n h' h:=by
 have ha:Cg n e (pc 0):=(he.down hn).trans<|Cg.iff_sub.1 h1;have hb:Cg m r (s*e-q*h):=by
  refine Cg.iff_sub.2<|Cg.of_dvd fun k=> ?_;have:=(Cg.iff_sub.1 hd).dvd k;simp only[zM,yE]at this⊢;have e1:r k-((s*e) k-(q*h) k)= -((s*e) k-((q*h) k+r k)):=by lia
  rw[e1];exact xfP.2 this
 refine⟨?_,?_,?_⟩
 ·refine Cg.trans ?_<|Cg.symm<|hg.mul<|hh.trans<|Cg.rfl.add hb;refine Cg.iff_sub.2 ?_;rw[zfr];have z1:Cg m (f-g*h-e) (pc 0):=Cg.iff_sub.1 he.symm;have z2:Cg n (pc 1-(s*g+t*h)) (pc 0):=Cg.iff_sub.1 h2.symm;exact z1.zero_add ((((ha.mul_zero z2).down hm).zero_sub<|((ha.mul_zero ha).down hm).mul_zero_l _).zero_add (((hq.mul_zero ha).down hm).mul_zero_l _)|>.zero_add (((hq.mul_zero hq).down hm).mul_zero_l _))
 ·refine(hg.down hn).trans<|Cg.iff_sub.2 ?_;have e1:g+(t*e+q*g)-g=t*e+q*g:=by
   funext k;simp only[zM,yE];lia
  rw[e1];exact(ha.mul_zero_l t).zero_add<|hq.mul_zero_r g
 ·refine(hh.down hn).trans<|Cg.iff_sub.2 ?_;have e1:h+r-h=r:=by
   funext k;simp only[zM,yE];lia
  rw[e1];exact hr
theorem Td{n:Int}(hm:m∣n*n)(hn:n∣m){b c d s' t':Pz}(h2:Cg n (s*g+t*h) (pc 1))(hb:Cg m b (s*g+t*h-pc 1))(hd:Cg m (s*b) (c*h+d))(hs:Cg m s' (s-d))(ht:Cg m t' (t-(t*b+c*g))):
 Cg m (s'*g+t'*h) (pc 1):=by
 have ha:Cg n b (pc 0):=(hb.down hn).trans<|Cg.iff_sub.1 h2;have hc:Cg m d (s*b-c*h):=by
  refine Cg.iff_sub.2<|Cg.of_dvd fun k=> ?_;have:=(Cg.iff_sub.1 hd).dvd k;simp only[zM,yE]at this⊢;have e1:d k-((s*b) k-(c*h) k)= -((s*b) k-((c*h) k+d k)):=by lia
  rw[e1];exact xfP.2 this
 refine((hs.trans<|Cg.rfl.sub hc).mul Cg.rfl|>.add (ht.mul Cg.rfl)).trans<|Cg.iff_sub.2 ?_;rw[zaU];have z1:Cg m (s*g+t*h-pc 1-b) (pc 0):=Cg.iff_sub.1 hb.symm;exact(z1.zero_sub<|z1.mul_zero_r b).zero_sub<|(ha.mul_zero ha).down hm
end
section
variable{a p:Int}{fu j m:Nat}{f g:Pz}{l:List Int}
theorem Ha(hp:0<p:=by lia):(if xcc a p<0 then xcc a p+p else xcc a p)=a%p:=by
 have h1:=xcV a (show p≠0 by lia);have h2:=xdx a hp;rw[Int.tmod_eq_emod];by_cases h:0<=a\/p∣a
 ·rw[iq h,zC];lia
 ·rw[ir h,zP];lia
theorem uK(ha:0<=a:=by lia):xcc a p=a%p:=by grind [Int.tmod_eq_emod]
theorem yi(hp:0<p:=by lia):0<=a%p/\a%p<p:=⟨xcV a (by lia),xdx a hp⟩
theorem u9(h1:1<=p)(h2:p<=65521)(ha:VH a):kj fu a p=some (a%p):=by
 unfold kj;obtain⟨a1,a2⟩:=ha;have hr:=yi (a:=a) (p:=p);have ht:=Ha (a:=a) (p:=p);rw[zC,yL,zj];by_cases h:xcc a p<0
 ·rw[iq h]at ht;rw[iq h,ze,ht]
 ·rw[ir h]at ht;rw[ir h,ht]
def zl(n:Nat)(f:Pz):List Int:=(xbb n).map f
def ci(l:List Int):Pz:=fun k=>l.getD k 0
def nl(n:Nat)(f:Pz):List Int:=zl (dg f n) f
theorem ZA(l:List Int)(k:Nat):l.getD k 0=ci l k:=rfl
theorem zL(n:Nat)(f:Pz):(zl n f).length=n:=by unfold zl;simp
theorem qf{n:Nat}(h:j<n:=by lia):(zl n f).getD j 0=f j:=by simp_all [zl]
theorem yu{n:Nat}(h:∀k,k<n->f k=g k):zl n f=zl n g:=by simp_all [zl]
theorem j8{n:Nat}{v:Int}:(zl n f).set j v=zl n (Zo f j v):=by
 refine xcA fun i=> ?_;unfold zl Zo;rw[xdZ];by_cases h:j=i
 ·subst h;rw[iq rfl,xaP,xcC,xaT];by_cases hj:j<n
  ·rw[iq hj,xby hj];simp
  ·rw[ir hj,xaH<|by simp;lia];rfl
 ·rw[ir h,xaT,xaT];by_cases hi:i<n
  ·rw[xby hi];simp[Ne.symm h]
  ·rw[xaH<|by simp;lia];rfl
theorem J3(n:Nat):xaf n 0=zl n (fun _=>0):=by grind [zl,List.map_const',xcC]
theorem zeb{n:Nat}:zl n f++[f n]=zl (n+1) f:=by grind [zl,xdu]
theorem CV{n:Nat}(h:m<=n:=by lia):(zl n f).take m=zl m f:=by
 unfold zl;rw[<-List.map_take,List.take_range,xcN h]
theorem jt{n:Nat}(h:j<n):ci (zl n f) j=f j:=qf h
theorem zV(h:l.length<=j):ci l j=0:=by simp_all [ci]
theorem uH{n:Nat}(h:∀k,n<=k->f k=0)(j:Nat):ci (zl n f) j=f j:=by grind [jt,zV,zL]
theorem H2(l:List Int):zl l.length (ci l)=l:=by grind [zl,ci,zL,jt,xeS,xaa]
theorem zbF(n:Nat)(f:Pz):(nl n f).length=dg f n:=zL _ _
theorem Bn(n:Nat)(f:Pz):(nl n f).length<=n:=by rw[zbF];exact qe _ _
theorem rq{n:Nat}(h:∀k,n<=k->f k=0)(j:Nat):ci (nl n f) j=f j:=by
 refine uH (fun k hk=> ?_) j;by_cases hn:k<n
 ·exact Jv f n k hk hn
 ·exact h k<|by lia
theorem zhe{n:Nat}(hf:∀k,n<=k->f k=0)(hg:∀k,m<=k->g k=0)(h:∀k,f k=g k):dg f n=dg g m:=by
 refine aF ?_ ?_ ?_
 ·refine xbw fun ha=> ?_;have:=Vj g m (by lia);rw[<-h,hf _<|by lia]at this;exact this rfl
 ·intro k h1 h2;rw[h];by_cases hk:k<m
  ·exact Jv g m k h1 hk
  ·exact hg k<|by lia
 ·by_cases h0:dg g m=0
  ·exact .inl h0
  ·right;rw[h];exact Vj g m h0
theorem zh1{n:Nat}(hf:∀k,n<=k->f k=0)(hg:∀k,m<=k->g k=0)(h:∀k,f k=g k):nl n f=nl m g:=by grind [nl,zhe,yu]
theorem rE{n:Nat}(h:∀k,k<n->f k=g k):nl n f=nl n g:=by grind [nl,sA,qe,yu]
def Nl(l:List Int):Prop:=l.length=0\/ci l (l.length-1)≠0
theorem mj(n:Nat)(f:Pz):Nl (nl n f):=by
 by_cases h:(nl n f).length=0
 ·exact .inl h
 ·right;rw[zbF]at h⊢;unfold nl;rw[jt<|by lia];exact Vj f n h
theorem Nl.eq(h:Nl l):l=nl l.length (ci l):=by
 have e:dg (ci l) l.length=l.length:=aF (xab _) (fun k h1 h2=>by lia)<|h.imp id id;unfold nl;rw[e,H2]
theorem Nl.ext{a b:List Int}(ha:Nl a)(hb:Nl b)(h:∀k,ci a k=ci b k):a=b:=by
 rw[ha.eq,hb.eq];exact zh1 (fun k hk=>zV hk) (fun k hk=>zV hk) h
theorem Nl.le(h:Nl l){n:Nat}(hz:∀k,n<=k->ci l k=0):l.length<=n:=by
 refine xbw fun ha=> ?_;rcases h with h|h
 ·lia
 ·exact h<|hz _<|by lia
def Rl(l:List Int):Prop:=∀k,VH<|ci l k
structure Fp(p:Int)(l:List Int):Prop where
 nn:∀k,0<=ci l k
 lt:∀k,ci l k<p
 nl:Nl l
def pm(p:Int)(l:List Int):List Int:=nl l.length<|fun k=>ci l k%p
theorem CH(p:Int)(l:List Int)(k:Nat):ci (pm p l) k=ci l k%p:=rq (fun k hk=>by rw[zV hk,xag]) k
theorem OX(p:Int)(l:List Int):(pm p l).length<=l.length:=Bn _ _
theorem tn(hp:0<p)(l:List Int):Fp p (pm p l):=⟨fun k=>by rw[CH];exact(yi hp).1,fun k=>by rw[CH];exact(yi hp).2,mj _ _⟩
theorem Hi(p:Int)(l:List Int):Cg p (ci<|pm p l) (ci l):=fun k=>by rw[CH,xaF]
theorem Fp.mod(h:Fp p l)(k:Nat):ci l k%p=ci l k:=xaC (h.nn k)<|h.lt k
theorem Fp.pm{p:Int}{l:List Int}(h:Fp p l):pm p l=l:=by
 refine Nl.ext (mj _ _) h.nl fun k=> ?_;exact(CH p l k).trans<|h.mod k
theorem Fp.ext{p:Int}{a b:List Int}(ha:Fp p a)(hb:Fp p b)(h:Cg p (ci a) (ci b)):a=b:=Nl.ext ha.nl hb.nl fun k=>by rw[<-ha.mod,h,hb.mod]
theorem Fp.rl(h:Fp p l)(hp:p<=65521):Rl l:=fun k=>by
 have h1:=h.nn k;have h2:=h.lt k;exact⟨by lia,by lia⟩
theorem zI(h1:1<=p)(h2:p<=65521)(hr:Rl l)(hl:l.length<=1000000)(hf:3000000<=fu):zX fu l p=some (pm p l):=by
 unfold zX;have hd:=qe (fun k=>ci l k%p) l.length;rw[yI,yL,zj,J3,zd (v:=zl l.length<|fun k=>ci l k%p)]
 ·rw[zd (v:=pm p l)];refine zB (fun t:List Int=>∃m,m<=l.length/\t=zl m (fun k=>ci l k%p)/\dg (fun k=>ci l k%p) m=dg (fun k=>ci l k%p) l.length) (fun t=>t.length) _ ?_ _ _ ⟨l.length,xab _,rfl,rfl⟩ (by rw[zL];lia);rintro t L ⟨m,hm,rfl,hg⟩ ih;unfold Kv;rw[zL]
  cases m with
  |zero=>
   rw[zC];unfold pm nl;rw[<-hg];rfl
  |succ m=>
   rw[zP,show((m+1:Nat):Int)-1=(m:Int)by lia,ze,yp,zj,qf];by_cases h0:ci l m%p=0
   ·rw[iq h0,ze,yI,yL,zj,CV];exact ih _ ⟨m,by lia,rfl,by rw[<-aa (f:=fun k=>ci l k%p) h0,hg]⟩<|by rw[zL,zL];lia
   ·rw[ir h0];unfold pm nl;rw[<-hg,KT (f:=fun k=>ci l k%p) h0]
 ·refine zB (fun s:Int×List Int=>∃i:Nat,i<=l.length/\s=((i:Int),zl l.length (fun k=>if k<i then ci l k%p else 0))) (fun s=>l.length-s.1.toNat) _ ?_ _ _ ⟨0,xah _,by rw[yu (g:=fun k=>if k<0 then ci l k%p else 0)<|fun k _=>by rw[zC]];rfl⟩ (by show l.length-0<fu;lia);rintro s L ⟨i,hi,rfl⟩ ih;unfold Kb;simp only;by_cases h:i<l.length
  ·rw[zP,zw h,zj,ZA,zd<|u9 h1 h2<|hr i,zw (by rw[zL];exact h),zj,j8,ze];refine ih _ ⟨i+1,by lia,?_⟩ (by show l.length-((i:Int)+1).toNat<l.length-(i:Int).toNat;lia);congr 1;refine yu fun k hk=> ?_;unfold Zo;by_cases e:k=i
   ·rw[iq e,zP,e]
   ·rw[ir e];show(if k<i then ci l k%p else 0)=_;by_cases e2:k<i
    ·rw[iq e2,zP]
    ·rw[ir e2,zC]
  ·rw[zC];congr 1;exact yu fun k hk=>by rw[zP]
end
section
variable{f g:Pz}{p:Int}{fu:Nat}{a b:List Int}
def sh(g:Pz)(i k:Nat):Int:=if i<=k then g (k-i)else 0
def Al(f g:Pz)(n k:Nat):Int:=zW n<|fun i=>f i*sh g i k
theorem gy{n:Nat}(hf:∀k,n<=k->f k=0)(k:Nat):Al f g n k=(f*g) k:=by
 have e1:=Fh (f:=fun i=>f i*sh g i k) (n:=n) (fun i hi=>by rw[hf i hi,xaV])<|k+1;have e2:=Fh (f:=fun i=>f i*sh g i k) (n:=k+1) (fun i hi=>by unfold sh;rw[zC,xaw]) n;rw[xds]at e2;unfold Al;rw[<-e1,e2,xq];exact zY fun i hi=>by unfold sh;rw[zP]
theorem H5(a b:List Zr)(k:Nat):∀n,XW a b n k=Al (cf a) (cf b) n k
 |0=>rfl
 |n+1=>by
  show XW a b n k+cf a n*M2 b n k=Al (cf a) (cf b) n k+cf a n*sh (cf b) n k;rw[H5 a b k n];rfl
theorem qG(a b:List Zr):cf (yT a b)=(cf a:Pz)*cf b:=by grind [PY,H5,gy,ye]
def dR(f g:Pz)(i j k:Nat):Int:=Al f g i k+if i<=k/\k<i+j then f i*g (k-i)else 0
theorem BT(f g:Pz)(i k:Nat):dR f g i 0 k=Al f g i k:=by
 unfold dR;rw[zC,xbD]
theorem Bq{n:Nat}(hg:∀k,n<=k->g k=0)(i k:Nat):dR f g i n k=Al f g (i+1) k:=by
 show _=Al f g i k+f i*sh g i k;unfold dR sh;congr 1;by_cases h:i<=k
 ·rw[iq h];by_cases h2:k<i+n
  ·rw[if_pos ⟨h,h2⟩]
  ·rw[ir<|fun e=>h2 e.2,hg _ (by lia),xaw]
 ·rw[ir<|fun e=>h e.1,ir h,xaw]
theorem Bx(f g:Pz)(p:Int)(i j k:Nat):Zo (fun k=>dR f g i j k%p) (i+j) ((dR f g i j (i+j)%p+f i*g j)%p) k=dR f g i (j+1) k%p:=by
 unfold Zo;by_cases h:k=i+j
 ·subst h;rw[iq rfl,Int.emod_add_emod];unfold dR;rw[zC,if_pos ⟨by lia,by lia⟩,show i+j-i=j by lia,xbD]
 ·rw[ir h];show dR f g i j k%p=_;unfold dR;congr 2;by_cases h2:i<=k/\k<i+j
  ·rw[iq h2,if_pos ⟨h2.1,by lia⟩]
  ·rw[ir h2,zC]
def y6(p:Int)(a b:List Int):List Int:=nl (a.length+b.length)<|fun k=>(ci a*ci b) k%p
theorem vL{n m:Nat}(hf:∀k,n<=k->f k=0)(hg:∀k,m<=k->g k=0){k:Nat}(h:n+m<=k+1:=by lia):(f*g) k=0:=by
 rw[xq];refine yJ fun i hi=> ?_;by_cases h1:i<n
 ·rw[hg (k-i) (by lia),xaw]
 ·rw[hf i (by lia),xaV]
theorem JC(p:Int)(a b:List Int)(k:Nat):ci (y6 p a b) k=(ci a*ci b) k%p:=rq (fun k hk=>by rw[vL (fun j hj=>zV hj)<|fun j hj=>zV hj,xag]) k
theorem kV(p:Int)(a b:List Int):Cg p (ci<|y6 p a b) (ci a*ci b):=fun k=>by rw[JC,xaF]
theorem v7(hp:0<p)(a b:List Int):Fp p (y6 p a b):=⟨fun k=>by rw[JC];exact(yi hp).1,fun k=>by rw[JC];exact(yi hp).2,mj _ _⟩
theorem qy(p:Int)(a b:List Int):(y6 p a b).length<=a.length+b.length:=Bn _ _
theorem Xt{x y:Int}(h2:p<=65521)(hx:0<=x)(ha:x<p)(hy:0<=y)(hb:y<p):0<=x*y/\x*y<=4293001441:=by
 refine⟨xcD hx hy,?_⟩;have h1:x*y<=65521*y:=xbz (by lia) hy;lia
theorem wi(h1:1<=p)(h2:p<=65521)(ha:Fp p a)(hb:Fp p b)(hc:a.length<=100000)(hd:b.length<=100000)(hf:3000000<=fu):xX fu a b p=some (y6 p a b):=by
 unfold xX;obtain⟨n,hn⟩:∃n,n=a.length+b.length:=⟨_,rfl⟩;rw[ze,show(a.length:Int)+(b.length:Int)=(n:Int)by lia,yI,yL,zj,J3,zd (v:=zl n<|fun k=>Al (ci a) (ci b) a.length k%p)]
 ·have hz:∀k,n<=k->Al (ci a) (ci b) a.length k%p=0:=fun k hk=>by rw[gy<|fun j hj=>zV hj,vL (fun j hj=>zV hj)<|fun j hj=>zV hj,xag]
  have hr:Rl (zl n<|fun k=>Al (ci a) (ci b) a.length k%p):=fun k=>by
   rw[uH hz];have:=yi (a:=Al (ci a) (ci b) a.length k) (p:=p);exact⟨by lia,by lia⟩
  rw[zd<|zI h1 h2 hr (by rw[zL];lia) hf];congr 1;unfold pm y6;rw[zL,<-hn];exact rE fun k hk=>by rw[jt hk,xaF,gy<|fun j hj=>zV hj]
 ·refine zB (fun s:Int×List Int=>∃i:Nat,i<=a.length/\s=((i:Int),zl n<|fun k=>Al (ci a) (ci b) i k%p)) (fun s=>a.length-s.1.toNat) _ ?_ _ _ ⟨0,xah _,by rw[yu (g:=fun k=>Al (ci a) (ci b) 0 k%p) fun k _=>by show(0:Int)=0%p;rw[xag]];rfl⟩ (by show a.length-0<fu;lia);rintro s L ⟨i,hi,rfl⟩ ih;unfold Qb;simp only;by_cases h3:i<a.length
  ·rw[zP,zd rfl];simp only[if_true];rw[zw h3,zj,zd (v:=zl n<|fun k=>Al (ci a) (ci b) (i+1) k%p),ze]
   ·exact ih _ ⟨i+1,by lia,rfl⟩ (by show a.length-((i:Int)+1).toNat<a.length-(i:Int).toNat;lia)
   ·refine zB (fun s:Int×List Int=>∃j:Nat,j<=b.length/\s=((j:Int),zl n<|fun k=>dR (ci a) (ci b) i j k%p)) (fun s=>b.length-s.1.toNat) _ ?_ _ _ ⟨0,xah _,by rw[yu fun k _=>by rw[<-BT]];rfl⟩ (by show b.length-0<fu;lia);rintro s L2 ⟨j,hj,rfl⟩ ih2;unfold VQ;simp only;by_cases h4:j<b.length
    ·rw[zP,zd rfl];simp only[if_true];have e:(i:Int)+(j:Int)=((i+j:Nat):Int):=by lia
     have r1:=yi (a:=dR (ci a) (ci b) i j<|i+j) (p:=p);obtain⟨r2,r3⟩:=Xt h2 (ha.nn i) (ha.lt i) (hb.nn j)<|hb.lt j;rw[zw h4,zj,e,ze,ze,zw (by rw[zL];lia),zj,qf,ZA,ZA,ze,ze,yL,zj,uK,zw (by rw[zL];lia),zj,j8,ze];exact ih2 _ ⟨j+1,by lia,by rw[yu fun k _=>Bx (ci a) (ci b) p i j k];rfl⟩ (by show b.length-((j:Int)+1).toNat<b.length-(j:Int).toNat;lia)
    ·rw[zC,zd rfl];simp only[xak,if_false];obtain rfl:j=b.length:=by lia
     rw[yu fun k _=>by rw[Bq<|fun k hk=>zV hk]]
  ·rw[zC,zd rfl];simp only[xak,if_false];obtain rfl:i=a.length:=by lia
   rfl
def Z8(p:Int)(a b:List Int)(c:Int):List Int:=nl (max a.length b.length)<|fun k=>(ci a k+c*ci b k)%p
theorem C1(p:Int)(a b:List Int)(c:Int)(k:Nat):ci (Z8 p a b c) k=(ci a k+c*ci b k)%p:=rq (fun k hk=>by rw[zV (by lia),zV (by lia),xaw];exact xag _) k
theorem Dx(p:Int)(a b:List Int)(c:Int):Cg p (ci<|Z8 p a b c) (ci a+pc c*ci b):=fun k=>by rw[C1,xaF,zM,zN]
theorem Ka(hp:0<p)(a b:List Int)(c:Int):Fp p (Z8 p a b c):=⟨fun k=>by rw[C1];exact(yi hp).1,fun k=>by rw[C1];exact(yi hp).2,mj _ _⟩
theorem oC(p:Int)(a b:List Int)(c:Int):(Z8 p a b c).length<=max a.length b.length:=Bn _ _
theorem zif{n:Nat}(h:a.length<=n):cpy (xaf n 0) a=zl n (ci a):=by
 unfold cpy;rw[xaZ,xcN h,xcy,List.drop_replicate];refine xeS (by rw[xax,xaZ,zL];lia) fun j h1 h2=> ?_;have h3:=jt (n:=n) (f:=ci a) (j:=j) (by rw[zL]at h2;exact h2);have e:(a++xaf (n-a.length) 0).getD j 0=a.getD j 0:=by
  rw[H1,List.getElem?_append];by_cases hj:j<a.length
  ·rw[iq hj,<-H1]
  ·rw[ir hj,ZA,zV (by lia),xfd];split<;>rfl
 have h4:(zl n<|ci a).getD j 0=a.getD j 0:=h3;rw[<-h4,H1,H1,xaa h1,xaa h2]at e;exact e
theorem Vg{c:Int}(h1:1<=p)(h2:p<=65521)(ha:Fp p a)(hb:Fp p b)(hc:0<=c)(hd:c<p)(hg:a.length<=100000)(hj:b.length<=100000)(hf:3000000<=fu):Zb fu a b c p=some (Z8 p a b c):=by
 unfold Zb;obtain⟨n,hn⟩:∃n,n=max a.length b.length:=⟨_,rfl⟩;have hz:∀k,n<=k->ci a k+c*ci b k=0:=fun k hk=>by rw[zV (by lia),zV (by lia),xaw];rfl
 have he:∀k,0<=ci a k+c*ci b k/\ci a k+c*ci b k<=4293066962:=fun k=>by
  obtain⟨r2,r3⟩:=Xt h2 hc hd (hb.nn k)<|hb.lt k;have:=ha.nn k;have:=ha.lt k;lia
 rw[zj,show max (a.length:Int) (b.length:Int)=(n:Int)by lia,yI,yL,zj,zj,zif (by lia),zd (v:=zl n<|fun k=>ci a k+c*ci b k)]
 ·have hr:Rl (zl n<|fun k=>ci a k+c*ci b k):=fun k=>by
   rw[uH hz];have:=he k;exact⟨by lia,by lia⟩
  rw[zd<|zI h1 h2 hr (by rw[zL];lia) hf];congr 1;unfold pm Z8;rw[zL,<-hn];exact rE fun k hk=>by rw[jt hk]
 ·refine zB (fun s:Int×List Int=>∃i:Nat,i<=b.length/\s=((i:Int),zl n (fun k=>ci a k+if k<i then c*ci b k else 0))) (fun s=>b.length-s.1.toNat) _ ?_ _ _ ⟨0,xah _,by rw[yu (f:=ci a) (g:=fun k=>ci a k+if k<0 then c*ci b k else 0) fun k _=>by rw[zC,xbD]];rfl⟩ (by show b.length-0<fu;lia);rintro s L ⟨i,hi,rfl⟩ ih;unfold bj;simp only;by_cases h3:i<b.length
  ·rw[zP,zd rfl];simp only[if_true];obtain⟨r2,r3⟩:=Xt h2 hc hd (hb.nn i)<|hb.lt i;have:=ha.nn i;have:=ha.lt i;rw[zw h3,zj,zw (by rw[zL];lia),zj,qf,ir<|Nat.lt_irrefl i,xbD,ZA,ze,ze,zw (by rw[zL];lia),zj,j8,ze];refine ih _ ⟨i+1,by lia,?_⟩ (by show b.length-((i:Int)+1).toNat<b.length-(i:Int).toNat;lia);congr 1;refine yu fun k hk=> ?_;unfold Zo;by_cases e:k=i
   ·rw[iq e,zP,e]
   ·rw[ir e];show ci a k+(if k<i then c*ci b k else 0)=_;by_cases e2:k<i
    ·rw[iq e2,zP]
    ·rw[ir e2,zC]
  ·rw[zC,zd rfl];simp only[xak,if_false];congr 1;refine yu fun k hk=> ?_;by_cases e2:k<i
   ·rw[iq e2]
   ·rw[ir e2,zV (l:=b) (by lia),xaw]
end
section
variable{p a fu:Nat}
theorem aL(hp:2<=p)(h:vX p)(h0:0<a:=by lia)(h1:a<p:=by lia):xem p a=1:=by
 obtain⟨g,hg⟩:∃g,g=xem p a:=⟨_,rfl⟩;have d1:g∣p:=by rw[hg];exact Nat.gcd_dvd_left _ _
 have d2:g∣a:=by rw[hg];exact Nat.gcd_dvd_right _ _
 have hc:g<=a:=Nat.le_of_dvd h0 d2;have ha:0<g:=Nat.pos_of_dvd_of_pos d1 (by lia);rw[<-hg];refine xcU (xbw fun h2=> ?_) ha;by_cases hs:g*g<=p
 ·exact h g (by lia) hs<|Nat.mod_eq_zero_of_dvd d1
 ·obtain⟨d,hd⟩:=d1;have he:d<g:=by
   refine xdy fun h3=>hs ?_;rw[hd];exact xaD _ h3
  have hb:2<=d:=by
   refine xbw fun h3=> ?_;have:d=0\/d=1:=by lia
   rcases this with e|e
   ·rw[e,xcO]at hd;lia
   ·rw[e,xcI]at hd;lia
  refine h d hb ?_ ?_
  ·rw[hd];exact xat _<|by lia
  ·rw[hd];exact Nat.mul_mod_left _ _
theorem kv{p:Int}(hp:wK p=true)(hf:400<fu:=by lia):wo fu p=some 0:=by grind [wo,zd,YO]
structure IvI(p a:Nat)(r0 r1:Nat)(t0 t1:Int):Prop where
 lt:r1<r0
 two:2<=r0
 le:r0<=p
 c0:(p:Int)∣(r0:Int)-t0*a
 c1:(p:Int)∣(r1:Int)-t1*a
 g:xem r0 r1=1
 s:∃u0 u1:Nat,((t0=u0/\t1= -u1)\/(t0= -u0/\t1=u1))/\r0*u1+r1*u0=p
theorem IvI.step{r0 r1:Nat}{t0 t1:Int}(h:IvI p a r0 r1 t0 t1)(h2:2<=r1):IvI p a r1 (r0%r1) t1 (t0-((r0/r1:Nat):Int)*t1)/\(((r0/r1:Nat):Int)*t1).natAbs<=p/\(t0-((r0/r1:Nat):Int)*t1).natAbs<=p:=by
 have hd:=xbB r0 r1;have hf:=xbi r0 (show 0<r1 by lia);obtain⟨u0,u1,hs,he⟩:=h.s;generalize hq:r0/r1=q at*
 generalize hr:r0%r1=r2 at*
 have hg:=h.le;have hi:=h.lt;have e1:r1*(u0+q*u1)+r2*u1=p:=by
  rw[xbh,<-xaX];have:r0*u1=r1*q*u1+r2*u1:=by rw[<-xaR,hd]
  lia
 have hb:u0+q*u1<=p:=by
  have h3:1*(u0+q*u1)<=r1*(u0+q*u1):=xat _ (by lia);lia
 have ha:((q*u1:Nat):Int)=(q:Int)*(u1:Int):=by simp
 have hc:((t1=u1/\t0-(q:Int)*t1= -((u0+q*u1:Nat):Int))\/(t1= -u1/\t0-(q:Int)*t1=((u0+q*u1:Nat):Int)))/\((q:Int)*t1).natAbs<=p:=by
  rcases hs with⟨a1,a2⟩|⟨a1,a2⟩
  ·rw[a1,a2,xeC,<-ha];exact⟨.inr ⟨rfl,by lia⟩,by lia⟩
  ·rw[a1,a2,<-ha];exact⟨.inl ⟨rfl,by lia⟩,by lia⟩
 refine⟨⟨hf,h2,by lia,h.c1,?_,?_,u1,u0+q*u1,hc.1,e1⟩,hc.2,by rcases hc.1 with⟨_,e⟩|⟨_,e⟩<;>lia⟩
 ·have h3:=xdp h.c0<|xbG h.c1<|xcQ (q:Int) _;have e2:(r0:Int)-t0*a-(q:Int)*((r1:Int)-t1*a)=(r2:Int)-(t0-(q:Int)*t1)*a:=by
   rw[Int.mul_sub,xfQ,xbK];have:(r0:Int)=(r1:Int)*(q:Int)+(r2:Int):=by rw[<-hd];simp
   rw[this,xbo (r1:Int)];lia
  rw[e2]at h3;exact h3
 ·have h3:=h.g;rw[<-hr,xeE,<-Nat.gcd_rec,xeE];exact h3
theorem zcq(hp:p<=65521)(hf:70000<fu){t:Int}:∀{r0 r1:Nat}{t0 t1:Int},IvI p a r0 r1 t0 t1->∀n,r1<n->∃x:Int,zm (cd fu) n ((r0:Int),(r1:Int),t0,t1)=some (.inl x)/\(p:Int)∣1-x*a/\x.natAbs<=p:=by
 intro r0 r1
 induction r1 using xdr generalizing r0 with
 |_ r1 ih=>
  intro t0 t1 h n hn;obtain⟨n,rfl⟩:∃k,n=k+1:=⟨n-1,by lia⟩;rw[jd];unfold cd;simp only;have hb:=h.lt;have ha:=h.two;have hc:=h.le;by_cases h0:r1=0
  ·have:=h.g;rw[h0,Nat.gcd_zero_right]at this;lia
  ·rw[zC];by_cases h1:r1=1
   ·rw[zP];refine⟨t1,rfl,?_,?_⟩
    ·have:=h.c1;rw[h1]at this;exact this
    ·obtain⟨u0,u1,hs,he⟩:=h.s;have h3:1*u1<=r0*u1:=xat _ (by lia);rcases hs with⟨_,e⟩|⟨_,e⟩<;>lia
   ·obtain⟨s1,s2,s3⟩:=h.step (by lia);have e1:xde (r0:Int) (r1:Int)=((r0/r1:Nat):Int):=rfl;have hd:=xbB r0 r1;have e2:((r0/r1:Nat):Int)*(r1:Int)=((r1*(r0/r1):Nat):Int):=by rw[xbo];simp
    have hg:((r0/r1:Nat):Int)<=(r0:Int):=Int.ofNat_le.2<|xdY _ _;have hi:(0:Int)<=((r0/r1:Nat):Int):=xdf _;rw[zC,yL,e1,ze,e2,ze,show(r0:Int)-((r1*(r0/r1):Nat):Int)=((r0%r1:Nat):Int)by lia,ze,ze,ze];exact ih (r0%r1) (xbi _<|by lia) s1 n (by have:=xbi r0 (show 0<r1 by lia);lia)
theorem VZ{p a:Int}(hp:wK p=true)(h0:0<a)(h1:a<p)(hf:3000000<=fu):∃x,Xn fu a p=some (x,0)/\0<=x/\x<p/\(x*a)%p=1:=by
 obtain⟨p1,p2⟩:=zu hp;have ha:vX p.toNat:=by
  refine xac fun h=> ?_;rw[sF<|fun e=>h e.2.2]at hp;exact absurd hp<|by decide
 obtain⟨P,rfl⟩:=xaA (show 0<=p by lia);obtain⟨A,rfl⟩:=xaA (show 0<=a by lia);have hI:IvI P A P A 0 1:=⟨by lia,by lia,xab _,by rw[xaV,xcG];exact xdO _,by rw[xce,xdc];exact xcP _,aL (by lia) ha,0,1,.inr ⟨rfl,rfl⟩,by lia⟩;obtain⟨x,k1,k2,k3⟩:=zcq (fu:=fu) (t:=0) (show P<=65521 by lia) (by lia) hI fu (by lia);have hr:=yi (a:=x) (p:=(P:Int));refine⟨x%P,?_,hr.1,hr.2,?_⟩
 ·unfold Xn;rw[zd<|kv hp,iq rfl,zd<|u9 (by lia) (by lia) ⟨by lia,by lia⟩,xaC (a:=(A:Int)) (by lia) (by lia),zd k1];simp only;rw[zd<|u9 (by lia) (by lia) ⟨by lia,by lia⟩]
 ·rw[xbr,xaF,<-xbr];have:=xaK.2<|xaB k2;rw[<-this];exact xaC (by decide)<|by lia
end
section
variable{p x:Int}{fu i qn:Nat}{a b:List Int}{R Q:Pz}
theorem yA{α β:Type}{f:(β->Option α)->β->Option α}(I:β->Prop)(m:β->Nat)(Q:α->Prop)
 (step:∀s L,I s->(∀s',I s'->m s'<m s->∃r,L s'=some r/\Q r)->∃r,f L s=some r/\Q r):∀(n:Nat) (s:β),I s->m s<n->∃r,zm f n s=some r/\Q r
 |0,s,_,h=>absurd h<|xbl _
 |n+1,s,hI,h=>step s _ hI fun s' ha hm=>yA I m Q step n s' ha<|by lia
theorem xW{f:Nat->Int}{i:Nat}(h:∀k,k≠i->f k=0):∀n,zW n f=if i<n then f i else 0
 |0=>by rw[ir<|xbl _];rfl
 |n+1=>by
  show zW n f+f n=_;rw[xW h n];by_cases h1:i<n
  ·rw[iq h1,zP,h n (by lia),xbD]
  ·rw[ir h1,xcF];by_cases h2:n=i
   ·rw[zP,h2]
   ·rw[zC,h n h2]
theorem Xh(i:Nat)(c:Int)(g:Pz)(k:Nat):((mono i c:Pz)*g) k=c*sh g i k:=by
 rw[xq,xW (i:=i) fun j hj=>by show mono i c j*_=0;unfold mono;rw[ir hj,xaV]];unfold sh;by_cases h:i<=k
 ·rw[zP,iq h];unfold mono;rw[iq rfl]
 ·rw[zC,ir h,xaw]
theorem qi(x:Int):ci [x]=pc x:=by
 funext k
 cases k with
 |zero=>rfl
 |succ k=>exact zV<|by simp
theorem Yt(h0:0<x:=by lia)(h1:x<p:=by lia):Fp p [x]:=⟨fun k=>by rw[qi];unfold pc;split<;>lia,fun k=>by rw[qi];unfold pc;split<;>lia,.inr (by show x≠0;lia)⟩
theorem Nc(h:0<p:=by lia):Fp p []:=⟨fun k=>by rw[zV<|xah _];lia,fun k=>by rw[zV<|xah _];exact h,.inl rfl⟩
theorem PT{c:Int}(h:0<=x)(hx:(x*c)%p=1):0<x:=by
 rcases Int.lt_or_eq_of_le h with h|h
 ·exact h
 ·rw[<-h,xaV,xag]at hx;cases hx
theorem Qp{c:Int}(hp:wK p=true)(ha:Fp p a)(h0:0<c)(h1:c<p)(hb:a.length<=90000)(hf:3000000<=fu):∃x,0<x/\x<p/\(x*c)%p=1/\Xn fu c p=some (x,0)/\vy fu a c p=some (y6 p a [x]):=by
 obtain⟨p1,p2⟩:=zu hp;obtain⟨x,e1,e2,e3,e4⟩:=VZ hp h0 h1 hf;have hx:=PT e2 e4;refine⟨x,hx,e3,e4,e1,?_⟩;unfold vy;rw[zd e1];simp only;rw[zd<|wi (by lia) p2 ha (Yt hx e3) (by lia) (by simp) hf]
def cc(R g:Pz)(p c:Int)(i j:Nat):Pz:=fun k=>if i<=k/\k<i+j then(R k+(p-c)*g (k-i))%p else R k
theorem Sx(R g:Pz)(p c:Int)(i j k:Nat):Zo (cc R g p c i j) (i+j) ((R (i+j)+(p-c)*g j)%p) k=cc R g p c i (j+1) k:=by grind [cc,Zo]
theorem Sm{g:Pz}{c:Int}{n:Nat}(hR:∀k,R k%p=R k)(hg:∀k,n<=k->g k=0)(k:Nat):cc R g p c i n k%p=(R k-c*sh g i k)%p:=by
 unfold cc sh;by_cases h:i<=k/\k<i+n
 ·rw[iq h,iq h.1,xaF,xfQ];refine xaK.2<|xaB ⟨g<|k-i,?_⟩;lia
 ·rw[ir h];by_cases h2:i<=k
  ·rw[iq h2,hg _ (by lia),xaw,xcG]
  ·rw[ir h2,xaw,xcG]
theorem SJ{n:Nat}{c:Int}(h1:1<=p)(h2:p<=65521)(hb:Fp p b)(hR:∀k,0<=R k/\R k<p)(hc:0<=c)(ha:c<p)(hd:i+b.length<=n)(hn:n<=100000)(hf:3000000<=fu):
 zm (Z7 fu b (i:Int) c) fu (b,p,x,0,zl n R,zl qn Q)=some (b,p,x,zl n<|cc R (ci b) p c i b.length,zl qn Q):=by
 refine zB (fun s:List Int×Int×Int×Int×List Int×List Int=>∃j:Nat,j<=b.length/\s=(b,p,x,(j:Int),zl n<|cc R (ci b) p c i j,zl qn Q)) (fun s=>b.length-s.2.2.2.1.toNat) _ ?_ _ _ ⟨0,xah _,by rw[yu (f:=R) (g:=cc R (ci b) p c i 0) fun k _=>by unfold cc;rw[zC]];rfl⟩ (by show b.length-0<fu;lia);rintro s L ⟨j,hj,rfl⟩ ih;unfold Z7;simp only;by_cases h3:j<b.length
 ·rw[zP,zd rfl];simp only[if_true];have e:(i:Int)+(j:Int)=((i+j:Nat):Int):=by lia
  have e2:cc R (ci b) p c i j (i+j)=R (i+j):=by unfold cc;rw[zC]
  obtain⟨r1,r2⟩:=hR<|i+j;have r3:0<=(p-c)*ci b j:=xcD (by lia)<|hb.nn j;have r4:(p-c)*ci b j<=65521*ci b j:=xbz (by lia)<|hb.nn j;have r5:=hb.lt j;rw[zw h3,zj,e,ze,ze,zw (by rw[zL];lia),zj,qf,ZA,e2,ze,ze,ze,yL,zj,uK,zw (by rw[zL];lia),zj,j8,ze];exact ih _ ⟨j+1,by lia,by rw[yu fun k _=>Sx R (ci b) p c i j k];rfl⟩ (by show b.length-((j:Int)+1).toNat<b.length-(j:Int).toNat;lia)
 ·rw[zC,zd rfl];simp only[xak,if_false];obtain rfl:j=b.length:=by lia
  rfl
structure FdI(p:Int)(a b:List Int)(qn i:Nat)(R Q:Pz):Prop where
 hi:i<=qn
 rr:∀k,0<=R k/\R k<p
 qr:∀k,0<=Q k/\Q k<p
 rz:∀k,i+(b.length-1)<=k->R k=0
 ql:∀k,k<i->Q k=0
 qz:∀k,qn<=k->Q k=0
 cg:Cg p (ci a) (Q*ci b+R)
theorem FdI.step(h1:1<=p)(h:FdI p a b qn (i+1) R Q)(hb:0<b.length)(hx:(x*ci b (b.length-1))%p=1):
 FdI p a b qn i (cc R (ci b) p (R (i+(b.length-1))*x%p) i b.length) (Zo Q i<|R (i+(b.length-1))*x%p):=by
 obtain⟨c,hc⟩:∃c,c=R (i+(b.length-1))*x%p:=⟨_,rfl⟩;have hi:=h.hi;have he:=yi (a:=R (i+(b.length-1))*x) (p:=p);rw[<-hc]at he⊢;have hf:∀k,R k%p=R k:=fun k=>xaC (h.rr k).1 (h.rr k).2;have ha:=Sm (g:=ci b) (c:=c) (i:=i) (n:=b.length) hf<|fun k hk=>zV hk;have hd:∀k,0<=cc R (ci b) p c i b.length k/\cc R (ci b) p c i b.length k<p:=fun k=>by
  unfold cc;split
  ·exact yi
  ·exact h.rr k
 have hg:∀k,Zo Q i c k=(Q+(mono i c:Pz)) k:=fun k=>by
  rw[zM];unfold Zo mono;by_cases hk:k=i
  ·rw[iq hk,iq hk,h.ql k (by lia),xcF]
  ·rw[ir hk,ir hk,xbD]
 refine⟨by lia,hd,fun k=> ?_,fun k hk=> ?_,fun k hk=> ?_,fun k hk=> ?_,?_⟩
 ·unfold Zo;split
  ·exact he
  ·exact h.qr k
 ·have h3:=xaC (hd k).1 (hd k).2;rw[<-h3,ha];by_cases hj:k=i+(b.length-1)
  ·unfold sh;rw[zP,show k-i=b.length-1 by lia,hc,hj,Int.sub_emod,xbr,xaF,<-xbr,xbK,xbr _<|x*_,hx,xcl,xaF,<-Int.sub_emod,xdc,xag]
  ·unfold sh;rw[h.rz k (by lia),zP,zV (l:=b) (by lia),xaw,xcG,xag]
 ·unfold Zo;rw[zC];exact h.ql k<|by lia
 ·unfold Zo;rw[zC];exact h.qz k hk
 ·refine h.cg.trans fun k=> ?_;rw[show Zo Q i c=Q+(mono i c:Pz)from funext hg,ym,zM,zM,zM,Xh,xdN<|_+_,ha,<-xdN];congr 1;lia
theorem xf(hp:wK p=true)(ha:Fp p a)(hb:Fp p b)(he:0<b.length)(hr:a.length<=90000)(hs:b.length<=90000)(hf:3000000<=fu):
 ∃q r,xl fu a b p=some (q,r)/\Fp p q/\Fp p r/\Cg p (ci a) (ci q*ci b+ci r)/\r.length<b.length/\q.length<=a.length:=by
 obtain⟨p1,p2⟩:=zu hp;unfold xl;rw[wE (by simp;lia),zj,xbA,ze];by_cases hl:a.length<b.length
 ·rw[zP];refine⟨[],a,rfl,Nc,ha,Cg.of ?_,hl,xah _⟩;funext k;rw[zM,show ci []=pc 0 from funext fun j=>by rw[zV<|xah _,zO],yh,zO,xcF]
 ·obtain⟨qn,hq⟩:∃qn,qn=a.length-b.length+1:=⟨_,rfl⟩;have ho:ci b (b.length-1)≠0:=by
   rcases hb.nl with h|h
   ·lia
   ·exact h
  have t1:=hb.nn<|b.length-1;have t2:=hb.lt<|b.length-1;obtain⟨x,e1,e2,e3,e4⟩:=VZ (fu:=fu) hp (show 0<ci b (b.length-1)by lia) t2 hf;have c1:(b.length:Int)-1=((b.length-1:Nat):Int):=by lia
  have c2:(a.length:Int)-(b.length:Int)+1=(qn:Int):=by lia
  rw[zC,c1,ze,yp,zj,ZA,zd e1];simp only;rw[ze,c2,yI,yL,zj]
  have hc:=yA (f:=ZT fu b p x) (fun s:Int×List Int×List Int=>∃(i:Nat) (R Q:Pz),s=((i:Int)-1,zl a.length R,zl qn Q)/\FdI p a b qn i R Q) (fun s=>(s.1+1).toNat)
   (fun r=>∃R Q:Pz,r=(zl a.length R,zl qn Q)/\FdI p a b qn 0 R Q) (by
    rintro s L ⟨i,R,Q,rfl,h⟩ ih;unfold ZT;simp only
    cases i with
    |zero=>
     rw[zC];exact⟨_,rfl,R,Q,rfl,h⟩
    |succ i=>
     have hi:=h.hi;obtain⟨r1,r2⟩:=h.rr<|i+(b.length-1);obtain⟨r3,r4⟩:=Xt p2 r1 r2 e2 e3;have hd:=yi (a:=R (i+(b.length-1))*x) (p:=p);rw[show((i+1:Nat):Int)-1=(i:Int)by lia,zP,ze,show(i:Int)+(b.length:Int)-1=((i+(b.length-1):Nat):Int)by lia,ze,zw (by rw[zL];lia),zj,qf,ze,yL,zj,uK r3,zw (by rw[zL];lia),zj,j8,zd<|SJ (by lia) p2 hb h.rr hd.1 hd.2 (by lia) (by lia) hf];simp only;rw[ze];exact ih _ ⟨i,_,_,rfl,h.step (by lia) he e4⟩ (by show((i:Int)-1+1).toNat<(((i+1:Nat):Int)-1+1).toNat;lia))
   fu ((a.length:Int)-(b.length:Int),a,xaf qn 0) ⟨qn,ci a,fun _=>0,by rw[H2,J3,show(a.length:Int)-(b.length:Int)=(qn:Int)-1 by lia],xab _,fun k=>⟨ha.nn k,ha.lt k⟩,fun k=>⟨xfr _,by lia⟩,fun k hk=>zV (by lia),fun k _=>rfl,fun k _=>rfl,Cg.of (by
    funext k;rw[zM,show((fun _=>0:Pz))=pc 0 from funext fun j=>(zO j).symm,yh,zO,xcF])⟩ (by show((a.length:Int)-(b.length:Int)+1).toNat<fu;lia)
  obtain⟨_,hg,R,Q,rfl,h⟩:=hc;rw[zd hg];simp only;have hm:Rl (zl a.length R):=fun k=>by
   rw[uH fun j hj=>h.rz j<|by lia];have:=h.rr k;exact⟨by lia,by lia⟩
  have hn:Rl (zl qn Q):=fun k=>by
   rw[uH h.qz];have:=h.qr k;exact⟨by lia,by lia⟩
  rw[zd<|zI (by lia) p2 hn (by rw[zL];lia) hf,zd<|zI (by lia) p2 hm (by rw[zL];lia) hf];refine⟨_,_,rfl,tn (by lia) _,tn (by lia) _,?_,?_,?_⟩
  ·refine h.cg.trans<|Cg.add (Cg.mul (Cg.symm<|(Hi p _).trans<|Cg.of<|funext (uH h.qz)) Cg.rfl)<|Cg.symm<|(Hi p _).trans<|Cg.of<|funext (uH fun j hj=>h.rz j<|by lia)
  ·have:=(tn (p:=p) (by lia)<|zl a.length R).nl.le (n:=b.length-1) fun k hk=>by rw[CH,uH (fun j hj=>h.rz j<|by lia),h.rz k (by lia),xag]
   lia
  ·have:=OX p<|zl qn Q;rw[zL]at this;lia
end
section
variable{p:Int}{fu N:Nat}{r0 s0 t0 r1 s1 t1 g h:List Int}{f:Pz}
theorem zhV(f:Pz):Cg p (pc (p-1)*f) (-f):=fun k=>by
 rw[zN,Ix,xfQ,xce];refine xaK.2<|xaB ⟨f k,?_⟩;lia
theorem Q5(a b:List Int):Cg p (ci<|Z8 p a b<|p-1) (ci a-ci b):=by
 refine(Dx p a b<|p-1).trans ?_;rw[sr];exact Cg.rfl.add<|zhV _
theorem nQ{S:Nat}(hp:wK p=true)(ha:Fp p r0)(hg:Fp p s0)(hj:Fp p t0)(hb:Fp p r1)(hk:Fp p s1)(hl:Fp p t1)(h0:0<r1.length)(l1:r0.length<=N)(l2:r1.length<=N)(l3:s0.length<=S)(l4:t0.length<=S)(l5:s1.length<=S)(l6:t1.length<=S)(hN:N<=9000)(hS:S<=90000)(hf:3000000<=fu):
 ∃q,Fp p q/\q.length<=N/\Cg p (ci r0) (ci q*ci r1+ci (Z8 p r0 (y6 p q r1)<|p-1))/\(Z8 p r0 (y6 p q r1)<|p-1).length<r1.length/\
  ZQ fu [r0,s0,t0] [r1,s1,t1] p=some [Z8 p r0 (y6 p q r1)<|p-1,Z8 p s0 (y6 p q s1)<|p-1,Z8 p t0 (y6 p q t1)<|p-1]:=by
 obtain⟨p1,p2⟩:=zu hp;obtain⟨q,r,e1,hq,hr,hc,hm,ht⟩:=xf (fu:=fu) hp ha hb h0 (by lia) (by lia) hf;have hd:Z8 p r0 (y6 p q r1) (p-1)=r:=by
  refine Fp.ext (Ka (by lia) _ _ _) hr<|(Q5 r0<|y6 p q r1).trans ?_;refine(hc.sub<|kV p q r1).trans<|Cg.of ?_;funext k;simp only[zM,yE];lia
 refine⟨q,hq,by lia,by rw[hd];exact hc,by rw[hd];exact hm,?_⟩;unfold ZQ;have f1:=qy p q r1;have f2:=qy p q s1;have f3:=qy p q t1;rw[show(0:Int)=((0:Nat):Int)from rfl,zw (by decide),zw (by decide),zj];show bd (xl fu r0 r1 p) _=_;rw[zd e1];simp only;rw[zd (v:=([Z8 p r0 (y6 p q r1)<|p-1,Z8 p s0 (y6 p q s1)<|p-1,Z8 p t0 (y6 p q t1)<|p-1],xaf 3 []))];obtain⟨n,hn⟩:∃n,fu=n+4:=⟨fu-4,by lia⟩
 have step:∀(L:List Int×Int×List (List Int)×List (List Int)->Option (List (List Int)×List (List Int))) (i:Nat) (x y z u:List Int) (ts:List (List Int)),i<3->ts.length=3->ts.getD i []=x->[r1,s1,t1].getD i []=y->Fp p x->Fp p y->x.length<=90000->y.length<=90000->
  kt fu [r1,s1,t1] p L (q,(i:Int),ts,xaf 3 [])=L (q,((i+1:Nat):Int),ts.set i<|Z8 p x (y6 p q y)<|p-1,xaf 3 []):=fun L i x y z u ts hi hu hx hy ho hs hv hw=>by
  unfold kt;simp only;have f4:=qy p q y;rw[zP,zd rfl];simp only[if_true];rw[zw hi,zw hi,zj,hx,hy,zd<|wi (by lia) p2 hq hs (by lia) (by lia) hf,ze,zd<|Vg (by lia) p2 ho (v7 (by lia) _ _) (by lia) (by lia) (by lia) (by lia) hf,zw hi,zj,ze];rfl
 have he:zm (kt fu [r1,s1,t1] p) (n+4) (q,((0:Nat):Int),[r0,s0,t0],xaf 3 [])=some ([Z8 p r0 (y6 p q r1)<|p-1,Z8 p s0 (y6 p q s1)<|p-1,Z8 p t0 (y6 p q t1)<|p-1],xaf 3 []):=by
  rw[jd,step _ 0 r0 r1 [] [] _ (by decide) rfl rfl rfl ha hb (by lia) (by lia),jd,step _ 1 s0 s1 [] [] _ (by decide) rfl rfl rfl hg hk (by lia) (by lia),jd,step _ 2 t0 t1 [] [] _ (by decide) rfl rfl rfl hj hl (by lia) (by lia),jd];unfold kt;simp only;rw[ir (by decide),zd rfl];rfl
 rw[<-hn]at he;exact he
def Fs(f:Pz):Prop:=∃n,∀k,n<=k->f k=0
theorem Fs.add{g:Pz}(hf:Fs f)(hg:Fs g):Fs (f+g):=by
 obtain⟨n,hn⟩:=hf;obtain⟨m,hm⟩:=hg;exact⟨n+m,fun k hk=>by rw[zM,hn k (by lia),hm k<|by lia];rfl⟩
theorem Fs.mul{g:Pz}(hf:Fs f)(hg:Fs g):Fs (f*g):=by
 obtain⟨n,hn⟩:=hf;obtain⟨m,hm⟩:=hg;exact⟨n+m,fun k hk=>vL hn hm⟩
theorem Fs.pc(c:Int):Fs (pc c):=⟨1,fun k hk=>by unfold Go.Proofs.YtmggkmchbdanfaaGreat.pc;rw[zC]⟩
theorem Fs.ci(l:List Int):Fs (ci l):=⟨l.length,fun k hk=>zV hk⟩
theorem Fs.cf(l:List Zr):Fs (cf l):=⟨l.length,fun k hk=>ye hk⟩
structure BzR(p:Int)(g h d s t:List Int)(S:Nat):Prop where
 df:Fp p d
 sf:Fp p s
 tf:Fp p t
 cg:Cg p (ci d) (ci s*ci g+ci t*ci h)
 dv:∃A C:Pz,Fs A/\Fs C/\Cg p (ci g) (A*ci d)/\Cg p (ci h) (C*ci d)
 dl:d.length<=S
 sl:s.length<=S
 tl:t.length<=S
structure BzI(p:Int)(g h r0 s0 t0 r1 s1 t1:List Int)(N:Nat):Prop where
 f0:Fp p r0
 g0:Fp p s0
 h0:Fp p t0
 f1:Fp p r1
 g1:Fp p s1
 h1:Fp p t1
 c0:Cg p (ci r0) (ci s0*ci g+ci t0*ci h)
 c1:Cg p (ci r1) (ci s1*ci g+ci t1*ci h)
 dv:∃A B C D:Pz,Fs A/\Fs B/\Fs C/\Fs D/\Cg p (ci g) (A*ci r0+B*ci r1)/\Cg p (ci h) (C*ci r0+D*ci r1)
 l0:r0.length<=N
 l1:r1.length<=N
 b0:s0.length<=1+N*(N+1-r1.length)
 b1:t0.length<=1+N*(N+1-r1.length)
 b2:s1.length<=1+N*(N+1-r1.length)
 b3:t1.length<=1+N*(N+1-r1.length)
theorem BzI.step(hI:BzI p g h r0 s0 t0 r1 s1 t1 N)(hp:wK p=true)(hN:N<=290)(hr:0<r1.length)(hf:3000000<=fu):
 ∃r2 s2 t2,ZQ fu [r0,s0,t0] [r1,s1,t1] p=some [r2,s2,t2]/\r2.length<r1.length/\BzI p g h r1 s1 t1 r2 s2 t2 N:=by
 obtain⟨p1,p2⟩:=zu hp;have hb:1+N*(N+1-r1.length)<=90000:=by
  have:N*(N+1-r1.length)<=290*290:=xbJ hN (by lia);lia
 have hd:=hI.l0;have ha:=hI.l1;have hg:=hI.b0;have hi:=hI.b1;have hj:=hI.b2;have hk:=hI.b3;obtain⟨q,hq,hm,hc,hl,he⟩:=nQ (fu:=fu) (S:=1+N*(N+1-r1.length)) hp hI.f0 hI.g0 hI.h0 hI.f1 hI.g1 hI.h1 hr hd ha hg hi hj hk (by lia) hb hf;refine⟨_,_,_,he,hl,hI.f1,hI.g1,hI.h1,Ka (by lia) _ _ _,Ka (by lia) _ _ _,Ka (by lia) _ _ _,hI.c1,?_,?_,ha,by lia,?_,?_,?_,?_⟩
 ·refine(Q5 _ _).trans<|(hI.c0.sub<|(kV p q r1).trans<|Cg.rfl.mul hI.c1).trans ?_;refine Cg.trans (Cg.of ?_)<|Cg.symm (((Q5 s0<|y6 p q s1).trans<|Cg.rfl.sub<|kV p q s1).mul (Cg.rfl (f:=ci g))|>.add (((Q5 t0<|y6 p q t1).trans<|Cg.rfl.sub<|kV p q t1).mul<|Cg.rfl (f:=ci h)));simp only[xC,ym,vk,vi,zf];funext k;simp only[zM,yE];lia
 ·obtain⟨A,B,C,D,z1,z2,z3,z4,d1,d2⟩:=hI.dv;refine⟨A*ci q+B,A,C*ci q+D,C,(z1.mul<|Fs.ci q).add z2,z1,(z3.mul<|Fs.ci q).add z4,z3,?_,?_⟩
  ·refine d1.trans<|((Cg.rfl (f:=A)).mul hc|>.add Cg.rfl).trans<|Cg.of ?_;simp only[xC,ym,zf];funext k;simp only[zM];lia
  ·refine d2.trans<|((Cg.rfl (f:=C)).mul hc|>.add Cg.rfl).trans<|Cg.of ?_;simp only[xC,ym,zf];funext k;simp only[zM];lia
 ·have:N*(N+1-r1.length)<=N*(N+1-(Z8 p r0 (y6 p q r1)<|p-1).length):=xaD _ (by lia);lia
 ·have:N*(N+1-r1.length)<=N*(N+1-(Z8 p r0 (y6 p q r1)<|p-1).length):=xaD _ (by lia);lia
 ·have h1:=oC p s0 (y6 p q s1)<|p-1;have h2:=qy p q s1;have h3:N*(N+1-r1.length+1)<=N*(N+1-(Z8 p r0 (y6 p q r1)<|p-1).length):=xaD _ (by lia);rw[xbh,xcI]at h3;lia
 ·have h1:=oC p t0 (y6 p q t1)<|p-1;have h2:=qy p q t1;have h3:N*(N+1-r1.length+1)<=N*(N+1-(Z8 p r0 (y6 p q r1)<|p-1).length):=xaD _ (by lia);rw[xbh,xcI]at h3;lia
theorem zc9(hp:wK p=true)(hN:N<=290)(hf:3000000<=fu)(hI:BzI p g h r0 s0 t0 r1 s1 t1 N):
 ∃d s t,zm (kT fu p) fu ([r0,s0,t0],[r1,s1,t1])=some [d,s,t]/\BzR p g h d s t (1+N*(N+1)):=by
 obtain⟨r,e1,d,s,t,rfl,e3⟩:=yA (f:=kT fu p) (fun x:List (List Int)×List (List Int)=>∃r0 s0 t0 r1 s1 t1,x=([r0,s0,t0],[r1,s1,t1])/\BzI p g h r0 s0 t0 r1 s1 t1 N) (fun x=>(x.2.getD 0 []).length) (fun r=>∃d s t,r=[d,s,t]/\BzR p g h d s t (1+N*(N+1))) (by
  rintro x L ⟨r0,s0,t0,r1,s1,t1,rfl,hI⟩ ih;unfold kT;simp only;rw[show(0:Int)=((0:Nat):Int)from rfl,zw<|by decide];show∃r,(if((0:Nat):Int)<(r1.length:Int)then _ else _)=some r/\_;by_cases h0:0<r1.length
  ·obtain⟨r2,s2,t2,he,ha,hc⟩:=hI.step (fu:=fu) hp hN h0 hf;rw[zP,zd he];exact ih _ ⟨_,_,_,_,_,_,rfl,hc⟩ ha
  ·rw[zC];have hz:ci r1=pc 0:=funext fun k=>by rw[zV (by lia),zO]
   have hb:1+N*(N+1-r1.length)<=1+N*(N+1):=by
    have:N*(N+1-r1.length)<=N*(N+1):=xaD _ (by lia);lia
   have hd:=hI.l0;have hg:N*1<=N*(N+1):=xaD _ (by lia);refine⟨_,rfl,r0,s0,t0,rfl,hI.f0,hI.g0,hI.h0,hI.c0,?_,by lia,xan hI.b0 hb,xan hI.b1 hb⟩;obtain⟨A,B,C,D,z1,z2,z3,z4,d1,d2⟩:=hI.dv;rw[hz,zk B,yh]at d1;rw[hz,zk D,yh]at d2;refine⟨A,C,z1,z3,d1.trans<|Cg.of ?_,d2.trans<|Cg.of ?_⟩<;>funext k<;>rw[zM,zO,xbD]) fu ([r0,s0,t0],[r1,s1,t1]) ⟨_,_,_,_,_,_,rfl,hI⟩ (by have:=hI.l1;show r1.length<fu;lia)
 exact⟨d,s,t,e1,e3⟩
theorem jK(hp:wK p=true)(hg:Fp p g)(hh:Fp p h)(hs:g.length<=290)(ht:h.length<=290)(hf:3000000<=fu):
 ∃d s t,ky fu g h p=some (d,s,t,0)/\BzR p g h d s t (2+max g.length h.length*(max g.length h.length+1))/\(d.length=0\/ci d (d.length-1)=1):=by
 obtain⟨p1,p2⟩:=zu hp;unfold ky;rw[zd<|kv hp,iq rfl,zd<|zI (by lia) p2 (hg.rl p2) (by lia) hf,zd<|zI (by lia) p2 (hh.rl p2) (by lia) hf,hg.pm,hh.pm];have z0:ci ([]:List Int)=pc 0:=funext fun k=>by rw[zV<|xah _,zO]
 have addz:∀f:Pz,f+pc 0=f:=fun f=>funext fun k=>by rw[zM,zO,xbD]
 have zadd:∀f:Pz,pc 0+f=f:=fun f=>funext fun k=>by rw[zM,zO,xcF]
 have hI:BzI p g h g [1] [] h [] [1] (max g.length h.length):=by
  refine⟨hg,Yt,Nc,hh,Nc,Yt,Cg.of ?_,Cg.of ?_,⟨pc 1,pc 0,pc 0,pc 1,Fs.pc 1,Fs.pc 0,Fs.pc 0,Fs.pc 1,Cg.of ?_,Cg.of ?_⟩,xec _ _,xdK _ _,xbO _ _,xah _,xah _,xbO _ _⟩
  ·rw[qi,z0,zz,yh,addz]
  ·rw[qi,z0,zz,yh,zadd]
  ·rw[zz,yh,addz]
  ·rw[zz,yh,zadd]
 obtain⟨d,s,t,e1,hR⟩:=zc9 (fu:=fu) hp (by lia) hf hI;have hS:max g.length h.length*(max g.length h.length+1)<=290*291:=xbJ (by lia) (by lia);generalize max g.length h.length*(max g.length h.length+1)=S at*
 rw[zd e1,show(0:Int)=((0:Nat):Int)from rfl,zw<|by decide];show∃d' s' t',bd (if((0:Nat):Int)<(d.length:Int)then some true else some false) _=_/\_;by_cases h0:0<d.length
 ·have hu:=hR.dl;have hr:ci d (d.length-1)≠0:=by
   rcases hR.df.nl with h|h
   ·lia
   ·exact h
  have t1:=hR.df.nn<|d.length-1;have t2:=hR.df.lt<|d.length-1;obtain⟨x,x1,x2,x3,x4,x5⟩:=Qp (fu:=fu) hp hR.df (show 0<ci d (d.length-1)by lia) t2 (by lia) hf;have sc:∀{a:List Int},Fp p a->a.length<=90000->vy fu a (ci d<|d.length-1) p=some (y6 p a [x]):=fun{a} ha hl=>by
   unfold vy;rw[zd x4];simp only;rw[zd<|wi (by lia) p2 ha (Yt x1 x2) (by lia) (by simp) hf]
  rw[zP,zd rfl,iq rfl,zw<|by decide];show∃d' s' t',zg ((d.length:Int)-1) _=_/\_;rw[show(d.length:Int)-1=((d.length-1:Nat):Int)by lia,ze];show∃d' s' t',zH ((d.length-1:Nat):Int) d.length _=_/\_;rw[yp,zj];show∃d' s' t',bd (zm (wh fu p<|ci d<|d.length-1) fu (((0:Nat):Int),[d,s,t])) _=_/\_;have hd:zm (wh fu p<|ci d<|d.length-1) fu (((0:Nat):Int),[d,s,t])=some [y6 p d [x],y6 p s [x],y6 p t [x]]:=by
   obtain⟨n,hn⟩:∃n,fu=n+4:=⟨fu-4,by lia⟩
   have step:∀(L:Int×List (List Int)->Option (List<|List Int)) (i:Nat) (y:List Int) (ts:List (List Int)),i<3->ts.getD i []=y->Fp p y->y.length<=90000->
    wh fu p (ci d<|d.length-1) L ((i:Int),ts)=L (((i+1:Nat):Int),ts.set i<|y6 p y [x]):=fun L i y ts hi hy ho hq=>by
    unfold wh;simp only;rw[zP,zw hi,hy,zd<|sc ho hq,zw hi,zj,ze];rfl
   have hm:zm (wh fu p<|ci d<|d.length-1) (n+4) (((0:Nat):Int),[d,s,t])=some [y6 p d [x],y6 p s [x],y6 p t [x]]:=by
    rw[jd,step _ 0 d _ (by decide) rfl hR.df (xan hR.dl<|by lia),jd,step _ 1 s _ (by decide) rfl hR.sf (xan hR.sl<|by lia),jd,step _ 2 t _ (by decide) rfl hR.tf (xan hR.tl<|by lia),jd];unfold wh;simp only;rw[ir<|by decide];rfl
   rw[<-hn]at hm;exact hm
  rw[zd hd];have hb:∀a:List Int,Cg p (ci<|y6 p a [x]) (ci a*pc x):=fun a=>by
   have:=kV p a [x];rw[qi]at this;exact this
  have he:Cg p (pc x*pc (ci d<|d.length-1)) (pc 1):=fun k=>by
   rw[qQ];unfold pc;split
   ·rw[x3];exact(xaC (by decide)<|by lia).symm
   ·rfl
  have f1:=qy p d [x];have f2:=qy p s [x];have f3:=qy p t [x];have hv:=hR.sl;have hw:=hR.tl;simp only[xaq,xbR]at f1 f2 f3;have hc:∀k,ci (y6 p d [x]) k=(x*ci d k)%p:=fun k=>by rw[JC,qi,zk,zN]
  have hj:(y6 p d [x]).length=d.length:=by
   refine xcU ((v7 (by lia) _ _).nl.le fun k hk=> ?_)<|xbw fun hx=> ?_
   ·rw[hc,zV hk,xaw,xag]
   ·have h3:=hc<|d.length-1;rw[x3,zV<|by lia]at h3;cases h3
  refine⟨y6 p d [x],y6 p s [x],y6 p t [x],rfl,⟨v7 (by lia) _ _,v7 (by lia) _ _,v7 (by lia) _ _,?_,?_,by lia,by lia,by lia⟩,.inr ?_⟩
  ·refine(hb d).trans<|(hR.cg.mul Cg.rfl).trans<|Cg.trans (Cg.of ?_)<|Cg.symm<|((hb s).mul Cg.rfl).add<|(hb t).mul Cg.rfl;simp only[xC,ym,zf,zk,zy]
  ·obtain⟨A,C,z1,z3,d1,d2⟩:=hR.dv;have key:∀F:Pz,Cg p (F*ci d) (F*pc (ci d<|d.length-1)*ci (y6 p d [x])):=fun F=>by
    refine Cg.symm<|(Cg.rfl.mul<|hb d).trans<|Cg.trans (Cg.of ?_)<|((Cg.rfl (f:=F*ci d)).mul he).trans<|Cg.of<|zU _;simp only[zf,zk,zy]
   exact⟨_,_,z1.mul<|Fs.pc _,z3.mul<|Fs.pc _,d1.trans<|key A,d2.trans<|key C⟩
  ·rw[hj,hc,x3]
 ·rw[zC,zd rfl,ir<|by decide];exact⟨d,s,t,rfl,⟨hR.df,hR.sf,hR.tf,hR.cg,hR.dv,xan hR.dl (by lia),xan hR.sl (by lia),xan hR.tl<|by lia⟩,.inl<|by lia⟩
end
section
variable{fu:Nat}{a l b:List Int}{p:Int}
theorem P9{n:Nat}(h:n<9223372036854775808):SO n=(n:Int):=by
 unfold SO;rw[iq h]
theorem nH{x:Int}(h0:0<=x)(h:x<9223372036854775808)(hf:3000000<=fu):WO fu (yK x)=some (x,true):=by
 have hB:Bz 1 x:=by unfold Bz;lia
 unfold WO;rw[zd<|uO (hB.ok<|by decide) hf,zA];have ha:(yK x).1=false:=by unfold yK;simp;lia
 by_cases hx:x=0
 ·subst hx;rw[show(yK 0).2=[]from rfl,iq (show((([]:List Nat).length:Nat):Int)=0 from rfl),zd rfl,iq rfl]
 ·have hb:=oE.2 hx;have hc:=hB.len;obtain⟨n,rfl⟩:=xaA h0;have hg:(yK (n:Int)).2.getD 0 0=n:=by
   show(yF<|(n:Int).natAbs).getD 0 0=n;rw[xbe,Xj,xef,xdT,xar<|by lia]
  rw[zC,zd rfl,ir (by decide),zC,zd rfl,ir (by decide),ha,ir (by decide),zd rfl,ir (by decide),ir (by decide),show(0:Int)=((0:Nat):Int)from rfl,yp,zj,hg,zC,yp,zj,hg,zj,P9<|by lia]
theorem oZ{a:Zr}(ha:gI a)(h1:1<=p)(h2:p<=65521)(hf:3000000<=fu):VX fu a p=some (zv a%p,0):=by
 unfold VX;have hB:Bz 1 p:=by unfold Bz;lia
 have hr:=yi (a:=zv a) (p:=p);rw[zd<|yb ⟨by lia,by lia⟩ hf,zd<|uA ha (hB.okS<|by decide) hf,zA];unfold BS;rw[zC];simp only[if_true];rw[zd<|nH hr.1 (by lia) hf]
def vZ(p:Int)(a:List Zr):List Int:=nl a.length<|fun k=>cf a k%p
theorem Qg(p:Int)(a:List Zr)(k:Nat):ci (vZ p a) k=cf a k%p:=rq (fun k hk=>by rw[ye hk,xag]) k
theorem aN(p:Int)(a:List Zr):Cg p (ci<|vZ p a) (cf a):=fun k=>by rw[Qg,xaF]
theorem Wu(hp:0<p)(a:List Zr):Fp p (vZ p a):=⟨fun k=>by rw[Qg];exact(yi hp).1,fun k=>by rw[Qg];exact(yi hp).2,mj _ _⟩
theorem zep(p:Int)(a:List Zr):(vZ p a).length<=a.length:=Bn _ _
theorem ke{k:Nat}{a:List Zr}(ha:xc k a)(hk:k<=40000)(h1:1<=p)(h2:p<=65521)(hl:a.length<=1000000:=by lia)(hf:3000000<=fu:=by lia):jW fu a p=some (vZ p a,0):=by
 unfold jW;have hd:=qe (fun k=>cf a k%p) a.length;rw[zC,zd (v:=zl a.length<|fun k=>cf a k%p)]
 ·rw[zd (v:=vZ p a)];refine zB (fun t:List Int=>∃m,m<=a.length/\t=zl m (fun k=>cf a k%p)/\dg (fun k=>cf a k%p) m=dg (fun k=>cf a k%p) a.length) (fun t=>t.length) _ ?_ _ _ ⟨a.length,xab _,rfl,rfl⟩ (by rw[zL];lia);rintro t L ⟨m,hm,rfl,hg⟩ ih;unfold bL;rw[zL]
  cases m with
  |zero=>
   rw[zC];unfold vZ nl;rw[<-hg];rfl
  |succ m=>
   rw[zP,show((m+1:Nat):Int)-1=(m:Int)by lia,ze,yp,zj,qf];by_cases h0:cf a m%p=0
   ·rw[iq h0,ze,yI,yL,zj,CV];exact ih _ ⟨m,by lia,rfl,by rw[<-aa (f:=fun k=>cf a k%p) h0,hg]⟩<|by rw[zL,zL];lia
   ·rw[ir h0];unfold vZ nl;rw[<-hg,KT (f:=fun k=>cf a k%p) h0]
 ·unfold qh;rw[yI,yL,zj,J3,zd];refine zB (fun s:Int×List Int=>∃i:Nat,i<=a.length/\s=((i:Int),zl a.length (fun k=>if k<i then cf a k%p else 0))) (fun s=>a.length-s.1.toNat) _ ?_ _ _ ⟨0,xah _,by rw[yu (g:=fun k=>if k<0 then cf a k%p else 0)<|fun k _=>by rw[zC]];rfl⟩ (by show a.length-0<fu;lia);rintro s L ⟨i,hi,rfl⟩ ih;unfold ku;simp only;by_cases h:i<a.length
  ·rw[zP,zd rfl];simp only[if_true];have e1:YM fu (i:Int) (a.getD i (false,[])) p=some (cf a i%p):=by
    unfold YM;rw[zd<|oZ (ha.okS hk i) h1 h2 hf];rfl
   rw[zw h,zj,zd e1,zw (by rw[zL];exact h),zj,j8,ze];refine ih _ ⟨i+1,by lia,?_⟩ (by show a.length-((i:Int)+1).toNat<a.length-(i:Int).toNat;lia);congr 1;refine yu fun k hk=> ?_;unfold Zo;by_cases e:k=i
   ·rw[iq e,zP,e]
   ·rw[ir e];show(if k<i then cf a k%p else 0)=_;by_cases e2:k<i
    ·rw[iq e2,zP]
    ·rw[ir e2,zC]
  ·rw[zC,zd rfl];simp only[xak,if_false];congr 1;exact yu fun k hk=>by rw[zP]
def jv(l:List Int):List Zr:=vO l.length<|ci l
theorem qV(l:List Int):cf (jv l)=ci l:=funext fun k=>jD (fun k hk=>zV hk) k
theorem Ht(l:List Int):(jv l).length<=l.length:=by unfold jv;rw[xM];exact qe _ _
theorem Rl.bz(h:Rl l)(k:Nat):Bz 1 (ci l k):=by
 obtain⟨h1,h2⟩:=h k;unfold Bz;lia
theorem Gx(h:Rl l):xc 1 (jv l):=xn h.bz
theorem jr(h:Rl l)(hl:l.length<=1000000)(hf:3000000<=fu):vQ fu l=some (jv l):=by
 unfold vQ;rw[zd (v:=zi l.length<|ci l)]
 ·rw[zd<|zF (Qu h.bz) (by decide) (by rw[yM];lia) hf,yM,r9];rfl
 ·unfold qo;rw[yI,yL,zj,dm,zd];refine zB (fun s:Int×List Zr=>∃i:Nat,i<=l.length/\s=((i:Int),zi l.length (fun k=>if k<i then ci l k else 0))) (fun s=>l.length-s.1.toNat) _ ?_ _ _ ⟨0,xah _,by rw[xe (g:=fun k=>if k<0 then ci l k else 0)<|fun k _=>by rw[zC]];rfl⟩ (by show l.length-0<fu;lia);rintro s L ⟨i,hi,rfl⟩ ih;unfold jX;simp only;by_cases h1:i<l.length
  ·have e1:Zt fu (i:Int) (l.getD i 0)=some (yK<|ci l i):=by
    unfold Zt;rw[ZA,zd<|yb (h i) hf]
   rw[zP,zw h1,zj,zd e1,zw (by rw[yM];exact h1),zj,KU,ze];refine ih _ ⟨i+1,by lia,?_⟩ (by show l.length-((i:Int)+1).toNat<l.length-(i:Int).toNat;lia);congr 1;refine xe fun k hk=> ?_;unfold Zo;by_cases e:k=i
   ·rw[iq e,zP,e]
   ·rw[ir e];show(if k<i then ci l k else 0)=_;by_cases e2:k<i
    ·rw[iq e2,zP]
    ·rw[ir e2,zC]
  ·rw[zC];congr 1;exact xe fun k hk=>by rw[zP]
theorem AA(h:Rl l)(hl:l.length<=1000000)(hf:3000000<=fu):YA fu l=some (jv l):=by grind [YA,zd,jr]
theorem kn(hp:wK p=true)(ha:Fp p a)(hb:Fp p b)(hc:a.length<=90000:=by lia)(hd:b.length<=90000:=by lia)(hf:3000000<=fu:=by lia):q9 fu a b p=some (y6 p a b,0):=by
 obtain⟨p1,p2⟩:=zu hp;unfold q9;rw[zd<|kv hp,iq rfl,zd<|zI (by lia) p2 (ha.rl p2) (by lia) hf,zd<|zI (by lia) p2 (hb.rl p2) (by lia) hf,ha.pm,hb.pm,zd<|wi (by lia) p2 ha hb (by lia) (by lia) hf]
theorem KQ(hp:wK p=true)(ha:Fp p a)(hb:Fp p b)(hc:a.length<=90000)(hd:b.length<=90000)(hf:3000000<=fu):Xi fu a b p=some (Z8 p a b<|p-1,0):=by
 obtain⟨p1,p2⟩:=zu hp;unfold Xi;rw[zd<|kv hp,iq rfl,zd<|zI (by lia) p2 (ha.rl p2) (by lia) hf,zd<|zI (by lia) p2 (hb.rl p2) (by lia) hf,ha.pm,hb.pm,ze,zd<|Vg (by lia) p2 ha hb (by lia) (by lia) (by lia) (by lia) hf]
theorem VR(hp:wK p=true)(ha:Fp p a)(hb:Fp p b)(hd:a.length<=90000)(he:b.length<=90000)(hf:3000000<=fu):ZZ fu a b p=some (decide<|a=b):=by
 obtain⟨p1,p2⟩:=zu hp;unfold ZZ;rw[zd<|KQ hp ha hb hd he hf];simp only;have hF:=Ka (p:=p) (by lia) a b<|p-1;have hc:=Q5 (p:=p) a b;by_cases h:a=b
 ·have hl:(Z8 p a b<|p-1).length<=0:=hF.nl.le fun k _=>by
   have:=hc k;rw[hF.mod,h,yE,xdc,xag]at this;rw[h];exact this
  rw[zP,decide_eq_true h]
 ·rw[decide_eq_false h,if_neg];intro h0;refine h<|ha.ext hb<|Cg.iff_sub.2<|hc.symm.trans fun k=> ?_;rw[zV (by lia),zO]
end
section
variable{p:Int}{l:List Int}{fu M i:Nat}
def LA(p:Int)(l:List Int):Prop:=(∀j,j<l.length->0<=ci l j/\ci l j<p)/\1<l.length/\ci l (l.length-1)=1
theorem LA.fp(hp:0<p)(h:LA p l):Fp p l:=by
 refine⟨fun k=> ?_,fun k=> ?_,.inr<|by rw[h.2.2];decide⟩
 ·by_cases hk:k<l.length
  ·exact(h.1 k hk).1
  ·rw[zV<|by lia];lia
 ·by_cases hk:k<l.length
  ·exact(h.1 k hk).2
  ·rw[zV<|by lia];exact hp
theorem Qh(hl:l.length<=1000000)(hf:3000000<=fu):∃b,Z6 fu l p=some b/\(b=true↔LA p l):=by
 unfold Z6;obtain⟨r,e1,e2⟩:=yA (f:=Yl fu l p) (fun i:Int=>∃j:Nat,i=(j:Int)/\j<=l.length/\∀t,t<j->0<=ci l t/\ci l t<p) (fun i=>l.length-i.toNat) (fun r=>(r=.inl ()/\∀t,t<l.length->0<=ci l t/\ci l t<p)\/(r=.inr ()/\¬∀t,t<l.length->0<=ci l t/\ci l t<p)) (by
  rintro i L ⟨j,rfl,hj,he⟩ ih;unfold Yl;by_cases h1:j<l.length
  ·rw[zP,zw h1,zj,ZA];by_cases h2:ci l j<0
   ·rw[iq h2];exact⟨_,rfl,.inr ⟨rfl,fun e=>by have:=(e j h1).1;lia⟩⟩
   ·rw[ir h2];by_cases h3:p<=ci l j
    ·rw[iq h3];exact⟨_,rfl,.inr ⟨rfl,fun e=>by have:=(e j h1).2;lia⟩⟩
    ·rw[ir h3,ze];refine ih _ ⟨j+1,rfl,by lia,fun t ht=> ?_⟩ (by lia);by_cases h4:t=j
     ·rw[h4];lia
     ·exact he t<|by lia
  ·rw[zC];exact⟨_,rfl,.inl ⟨rfl,fun t ht=>he t<|by lia⟩⟩) fu 0 ⟨0,rfl,xah _,fun t h=>absurd h (xbl _)⟩ (by show l.length-0<fu;lia)
 rw[zd e1];rcases e2 with⟨rfl,h⟩|⟨rfl,h⟩
 ·simp only;by_cases h1:1<l.length
  ·rw[zP,show(l.length:Int)-1=((l.length-1:Nat):Int)by lia,ze,yp,zj,ZA];by_cases h2:ci l (l.length-1)=1
   ·rw[iq h2];exact⟨_,rfl,fun _=>⟨h,h1,h2⟩,fun _=>rfl⟩
   ·rw[ir h2];exact⟨_,rfl,fun e=>absurd e (by decide),fun e=>absurd e.2.2 h2⟩
  ·rw[zC];exact⟨_,rfl,fun e=>absurd e (by decide),fun e=>absurd e.2.1 h1⟩
 ·exact⟨_,rfl,fun e=>absurd e (by decide),fun e=>absurd e.1 h⟩
def X4(p:Int)(fs:List (List Int)):List Int:=fs.foldl (y6 p) [1]
def prZ:List Pz->Pz
 |[]=>pc 1
 |f::r=>f*prZ r
theorem wk:∀(a b:List Pz),prZ (a++b)=prZ a*prZ b
 |[],b=>(zz _).symm
 |f::r,b=>by show f*prZ (r++b)=f*prZ r*prZ b;rw[wk r b,zf]
theorem PK(p:Int):∀(fs:List (List Int)) (t:List Int),Cg p (ci<|fs.foldl (y6 p) t) (ci t*prZ (fs.map ci))
 |[],t=>by show Cg p (ci t) (ci t*pc 1);rw[zU];exact Cg.rfl
 |f::r,t=>by
  show Cg p (ci<|r.foldl (y6 p)<|y6 p t f) (ci t*(ci f*prZ (r.map ci)));refine(PK p r<|y6 p t f).trans<|((kV p t f).mul Cg.rfl).trans<|Cg.of<|zf _ _ _
theorem fT(p:Int)(fs:List (List Int)):Cg p (ci<|X4 p fs) (prZ<|fs.map ci):=by
 have:=PK p fs [1];rw[qi,zz]at this;exact this
theorem PV{p:Int}(hp:0<p):∀(fs:List (List Int)) {t:List Int},Fp p t->Fp p (fs.foldl (y6 p) t)
 |[],_,h=>h
 |f::r,t,h=>PV hp r<|v7 hp t f
theorem K6(hp:2<=p)(fs:List (List Int)):Fp p (X4 p fs):=PV (by lia) fs<|Yt
theorem OO{p:Int}{M:Nat}:∀{fs:List (List Int)}{t:List Int},(∀f∈fs,f.length<=M)->(fs.foldl (y6 p) t).length<=t.length+fs.length*M
 |[],_,_=>by simp
 |f::r,t,h=>by
  have h1:=OO (p:=p) (fs:=r) (t:=y6 p t f) fun g hg=>h g<|UV _ hg;have h2:=qy p t f;have h3:=h f<|FS;show(r.foldl (y6 p)<|y6 p t f).length<=t.length+(r.length+1)*M;rw[xaR,xcb];lia
theorem UM{fs:List (List Int)}(h:∀f∈fs,f.length<=M):(X4 p fs).length<=1+fs.length*M:=OO h
theorem Ca{l:List (List Int)}(h:i<l.length):l.getD i []∈l:=by grind [xaa,xbk]
theorem Sz{l:List (List Int)}(h:i<l.length):l.take (i+1)=l.take i++[l.getD i []]:=by grind [xeI,xaa]
theorem qC{fs:List (List Int)}(hp:wK p=true)(hF:∀f∈fs,Fp p f)(hM:∀f∈fs,f.length<=M)(hb:1+fs.length*M<=90000)(ha:M<=90000)(hc:fs.length<=90000:=by lia)(hf:3000000<=fu:=by lia):vn fu fs p=some (X4 p fs):=by
 obtain⟨p1,p2⟩:=zu hp;unfold vn;rw[zd (v:=X4 p fs)];refine zB (fun s:List Int×Int=>∃i:Nat,i<=fs.length/\s=(X4 p<|fs.take i,(i:Int))) (fun s=>fs.length-s.2.toNat) _ ?_ _ _ ⟨0,xah _,rfl⟩ (by show fs.length-0<fu;lia);rintro s L ⟨i,hi,rfl⟩ ih;unfold Vh;simp only;by_cases h1:i<fs.length
 ·have hm:=Ca h1;have hl:=UM (p:=p) (fs:=fs.take i) (M:=M) fun f hf=>hM f<|xdU hf;have hd:(fs.take i).length*M<=fs.length*M:=xat _<|List.length_take_le' ..;have he:=hM _ hm;rw[zP,zw h1,zj,zd<|kn hp (K6 (by lia) _)<|hF _ hm];simp only;rw[ze];refine ih _ ⟨i+1,by lia,?_⟩ (by show fs.length-((i:Int)+1).toNat<fs.length-(i:Int).toNat;lia);congr 1;unfold X4;rw[Sz h1,List.foldl_append];rfl
 ·rw[zC,xaQ<|by lia]
def qW(p:Int)(f g:Pz):Prop:=∃s t:Pz,Fs s/\Fs t/\Cg p (s*f+t*g) (pc 1)
theorem qW.symm{f g:Pz}(h:qW p f g):qW p g f:=by
 obtain⟨s,t,z1,z2,h⟩:=h;refine⟨t,s,z2,z1,(Cg.of ?_).trans h⟩;funext k;rw[zM,zM,xfA]
theorem qW.mul{p:Int}{f g h:Pz}(hg:Fs g)(hh:Fs h)(hf:Fs f)(h1:qW p f h)(h2:qW p g h):qW p (f*g) h:=by
 obtain⟨s,t,z1,z2,h1⟩:=h1;obtain⟨u,v,z3,z4,h2⟩:=h2;refine⟨s*u,s*f*v+t*(u*g+v*h),z1.mul z3,((z1.mul hf).mul z4).add<|z2.mul<|(z3.mul hg).add<|z4.mul hh,Cg.trans (Cg.of ?_)<|(h1.mul h2).trans<|Cg.of<|zz _⟩;simp only[xC,ym,zf,zy,zk];funext k;simp only[zM];lia
theorem qW.one(p:Int)(h:Pz):qW p (pc 1) h:=⟨pc 1,pc 0,Fs.pc 1,Fs.pc 0,Cg.of (by
 rw[zz,yh];funext k;rw[zM,zO,xbD])⟩
theorem Fs.prZ:∀{fs:List Pz},(∀f∈fs,Fs f)->Fs (prZ fs)
 |[],_=>Fs.pc 1
 |f::r,hh=>(hh f<|FS).mul<|Fs.prZ fun g hg=>hh g<|UV _ hg
theorem qW.prZ{p:Int}{h:Pz}(hz:Fs h):∀{fs:List Pz},(∀f∈fs,Fs f)->(∀f∈fs,qW p f h)->qW p (prZ fs) h
 |[],_,_=>qW.one p h
 |f::r,hF,hh=>qW.mul (Fs.prZ fun g hg=>hF g<|UV _ hg) hz (hF f<|FS) (hh f<|FS)<|qW.prZ hz (fun g hg=>hF g<|UV _ hg) fun g hg=>hh g<|UV _ hg
theorem Dc{g h d s t:List Int}{S:Nat}(hR:BzR p g h d s t S)(hl:d.length=1)(h1:ci d (d.length-1)=1):qW p (ci g) (ci h):=by
 have e:ci d=pc 1:=by
  funext k;unfold pc;by_cases hk:k=0
  ·rw[iq hk,hk,<-h1,hl]
  ·rw[ir hk,zV<|by lia]
 have:=hR.cg;rw[e]at this;exact⟨ci s,ci t,Fs.ci s,Fs.ci t,this.symm⟩
structure Uk(p:Int)(a:List Zr)(fs:List (List Int)):Prop where
 a0:a.length≠0
 al:(vZ p a).length=a.length
 fl:fs.length<=a.length
 pl:∀i,i<fs.length->(fs.getD i []).length<=a.length/\LA p (fs.getD i [])
 cp:∀i j,i<fs.length->j<i->qW p (ci<|fs.getD i []) (ci<|fs.getD j [])
 pr:y6 p (X4 p fs) [ci (vZ p a)<|a.length-1]=vZ p a
theorem HB{f:List Int}{fs:List (List Int)}(hp:wK p=true)(hb:Fp p f)(hc:f.length<=290)(hi:i<=fs.length)(hk:i<=1000000)(hF:∀j,j<i->Fp p (fs.getD j [])/\(fs.getD j []).length<=290)(hf:3000000<=fu):
 ∃r,zm (qN fu p f<|fs.take i) fu 0=some r/\(r=.inl ()->∀j,j<i->qW p (ci f) (ci<|fs.getD j [])):=by
 have hd:(fs.take i).length=i:=by rw[xav];lia
 have ha:∀j,j<i->(fs.take i).getD j []=fs.getD j []:=fun j hj=>by rw[H1,xcp,iq hj,<-H1]
 refine yA (fun x:Int=>∃j:Nat,x=(j:Int)/\j<=i/\∀t,t<j->qW p (ci f) (ci<|fs.getD t [])) (fun x=>i-x.toNat) _ ?_ _ _ ⟨0,rfl,xah _,fun t h=>absurd h<|xbl _⟩ (by show i-0<fu;lia);rintro x L ⟨j,rfl,hj,he⟩ ih;unfold qN;by_cases h1:j<i
 ·obtain⟨k1,k2⟩:=hF j h1;obtain⟨d,s,t,e1,hR,e3⟩:=jK (fu:=fu) hp hb k1 hc k2 hf;rw[zP,yp,zj,ha j h1];have hg:q8 fu f (fs.getD j []) p=some (d,0):=by
   unfold q8;rw[zd e1]
  rw[zd hg];simp only;by_cases h2:d.length=1
  ·rw[zP,ze];refine ih _ ⟨j+1,rfl,by lia,fun t ht=> ?_⟩ (by lia);by_cases h3:t=j
   ·rw[h3];exact Dc hR h2<|e3.resolve_left<|by lia
   ·exact he t<|by lia
  ·rw[zC];exact⟨_,rfl,fun e=>absurd e<|by simp⟩
 ·rw[zC];exact⟨_,rfl,fun _ t ht=>he t<|by lia⟩
theorem gG{k:Nat}{a:List Zr}{fs:List (List Int)}(hp:wK p=true)(ha:xc k a)(hk:k<=40000)(hr:a.length<=66)(hf:3000000<=fu):
 ∃b,wH fu a fs p=some b/\(b=true->Uk p a fs):=by
 obtain⟨p1,p2⟩:=zu hp;unfold wH;rw[zd<|ke ha hk (by lia) p2];simp only;by_cases h0:a.length=0
 ·rw[zP];exact⟨_,rfl,fun e=>absurd e<|by decide⟩
 ·rw[zC];by_cases hl:(vZ p a).length=a.length
  ·rw[zP];by_cases hs:a.length<fs.length
   ·rw[zP];exact⟨_,rfl,fun e=>absurd e<|by decide⟩
   ·rw[zC]
    obtain⟨r,e1,e2⟩:=yA (f:=qL fu a fs p) (fun x:Int×List Int=>∃i:Nat,x=((i:Int),vZ p a)/\i<=fs.length/\(∀t,t<i->(fs.getD t []).length<=a.length/\LA p (fs.getD t []))/\∀t j,t<i->j<t->qW p (ci<|fs.getD t []) (ci<|fs.getD j [])) (fun x=>fs.length-x.1.toNat)
     (fun r=>r=.inr ()\/(r=.inl (vZ p a)/\(∀t,t<fs.length->(fs.getD t []).length<=a.length/\LA p (fs.getD t []))/\∀t j,t<fs.length->j<t->qW p (ci<|fs.getD t []) (ci<|fs.getD j []))) (by
      rintro x L ⟨i,rfl,hi,g1,g2⟩ ih;unfold qL;simp only;by_cases h1:i<fs.length
      ·rw[zP,zd rfl];simp only[if_true];rw[zw h1,zj];by_cases h2:a.length<(fs.getD i []).length
       ·rw[zP];exact⟨_,rfl,.inl rfl⟩
       ·obtain⟨b,b1,b2⟩:=Qh (fu:=fu) (l:=fs.getD i []) (p:=p) (by lia) hf;rw[zC,zd b1]
        cases b with
        |false=>
         rw[iq<|by decide];exact⟨_,rfl,.inl rfl⟩
        |true=>
         have hc:=b2.1 rfl;rw[ir (by decide),yI,yL,zj];obtain⟨q,q1,q2⟩:=HB (fu:=fu) (i:=i) (fs:=fs) hp (hc.fp<|by lia) (by lia) (by lia) (by lia) (fun j hj=>⟨(g1 j hj).2.fp (by lia),by have:=(g1 j hj).1;lia⟩) hf;rw[zd q1];rcases q with q|q
         ·simp only;rw[ze];refine ih _ ⟨i+1,rfl,by lia,fun t ht=> ?_,fun t j ht hj=> ?_⟩ (by show fs.length-((i:Int)+1).toNat<fs.length-(i:Int).toNat;lia)
          ·by_cases h4:t=i
           ·rw[h4];exact⟨by lia,hc⟩
           ·exact g1 t<|by lia
          ·by_cases h4:t=i
           ·rw[h4]at hj⊢;exact q2 rfl j hj
           ·exact g2 t j (by lia) hj
         ·exact⟨_,rfl,.inl rfl⟩
      ·rw[zC,zd rfl];simp only[xak,if_false];exact⟨_,rfl,.inr ⟨rfl,fun t ht=>g1 t (by lia),fun t j ht hj=>g2 t j (by lia) hj⟩⟩) fu (0,vZ p a) ⟨0,rfl,xah _,fun t h=>absurd h (xbl _),fun t j h=>absurd h (xbl _)⟩ (by show fs.length-0<fu;lia)
    rw[zd e1];rcases e2 with rfl|⟨rfl,g1,g2⟩
    ·exact⟨_,rfl,fun e=>absurd e<|by decide⟩
    ·simp only;have hb:∀{q:List Int->Prop},(∀t,t<fs.length->q (fs.getD t []))->∀f∈fs,q f:=fun{q} h f hf=>by
      obtain⟨j,hj,rfl⟩:=xdA.1 hf;have:=h j hj;rw[H1,xaa hj]at this;exact this
     have hm:∀f∈fs,Fp p f:=hb fun t ht=>(g1 t ht).2.fp (by lia);have he:∀f∈fs,f.length<=66:=hb fun t ht=>by have:=(g1 t ht).1;lia
     have hu:fs.length*66<=66*66:=xat _ (by lia);have hc:=UM (p:=p) he;have hz:=Wu (p:=p) (by lia) a;have hq:ci (vZ p a) (a.length-1)≠0:=by
      rcases hz.nl with h|h
      ·lia
      ·rw[hl]at h;exact h
     have hv:=hz.nn<|a.length-1;have hn:=hz.lt<|a.length-1;have hd:(vZ p a).drop (a.length-1)=[ci (vZ p a)<|a.length-1]:=by
      rw[xcz (by lia),xcm<|by lia];unfold ci;rw[H1,xaa<|by lia];rfl
     have hg:=Yt (p:=p) (x:=ci (vZ p a)<|a.length-1) (by lia) hn;have ho:=qy p (X4 p fs) [ci (vZ p a)<|a.length-1];simp only[xaq,xbR]at ho;rw[zd (qC hp hm he (by lia)<|by decide),hl,show(a.length:Int)-1=((a.length-1:Nat):Int)by lia,ze,yI,yL,zj,hd,zd<|kn hp (K6 (by lia) fs) hg (by lia)<|by simp];simp only;rw[zd<|VR hp (v7 (by lia) _ _) hz (by lia) (by lia) hf];exact⟨_,rfl,fun e=>⟨h0,hl,by lia,g1,g2,of_decide_eq_true e⟩⟩
  ·rw[zC];exact⟨_,rfl,fun e=>absurd e<|by decide⟩
end
section
variable{k fu K:Nat}{a b x d f g h s:List Zr}{m:Int}
def J6(a b:List Zr):List Zr:=vO (max a.length b.length)<|fun j=>cf a j+cf b j
theorem Ox(a b:List Zr)(k:Nat):cf (J6 a b) k=cf a k+cf b k:=jD (fun j hj=>KN hj) k
theorem K0(a b:List Zr):(J6 a b).length<=max a.length b.length:=by unfold J6;rw[xM];exact qe _ _
theorem fX(ha:xc k a)(hb:xc k b):xc (k+1) (J6 a b):=xn fun j=>(ha.bz j).add<|hb.bz j
theorem fY(ha:xc k a)(hb:xc k b)(hk:k+1<=100000)(hc:a.length<=1000000)(hd:b.length<=1000000)(hf:3000000<=fu):vc fu a b=some (J6 a b):=K5 ha hb hk hc hd hf
def FT:List Zr:=jv [1]
theorem zdx:(cf FT:Pz)=pc 1:=by unfold FT;rw[qV,qi]
theorem zdh:FT.length<=1:=Ht [1]
theorem zb1:Rl [1]:=fun k=>by
 rw[qi];unfold pc;split<;>exact⟨by decide,by decide⟩
theorem PG:xc 1 FT:=Gx zb1
def Uh(f g h:List Zr)(m:Int):List Zr:=wy (aO f<|yT g h) m
def Ah(x d:List Zr)(m:Int):List Zr:=Az (wy x m) d m
def ox(x d:List Zr)(m:Int):List Zr:=Y0 (wy x m) d m
def Re(f g h s t:List Zr)(m:Int):List Zr:=wy (J6 g<|J6 (yT t<|Uh f g h m)<|yT (Ah (yT s<|Uh f g h m) h m) g) m
def Bf(f g h s:List Zr)(m:Int):List Zr:=wy (J6 h<|ox (yT s<|Uh f g h m) h m) m
def bM(g h s t:List Zr)(m:Int):List Zr:=wy (aO (J6 (yT s g)<|yT t h) FT) m
def puS(g h s t:List Zr)(m:Int):List Zr:=wy (aO s<|ox (yT s<|bM g h s t m) h m) m
def puT(g h s t:List Zr)(m:Int):List Zr:=wy (aO t<|J6 (yT t<|bM g h s t m)<|yT (Ah (yT s<|bM g h s t m) h m) g) m
theorem za7(hm:Bz K m)(h0:0<m):xc K (Ah x d m):=xn fun j=>hm.emod h0
theorem zcN(hm:Bz K m)(h0:0<m):xc K (ox x d m):=xn fun j=>hm.emod h0
theorem P1(x d:List Zr)(m:Int):(Ah x d m).length<=x.length+1:=by grind [Az,Ah,xM,Zq,qe,xan]
theorem Pf(x d:List Zr)(m:Int):(ox x d m).length<=x.length:=by grind [Y0,ox,xM,qe,Zq,xan]
theorem BL(ha:0<d.length)(hb:cf d (d.length-1)=1):(ox x d m).length<d.length:=Bk ha hb
theorem PO(h2:2<=m)(hl:0<h.length)(h1:cf h (h.length-1)=1):(Bf f g h s m).length=h.length/\cf (Bf f g h s m) (h.length-1)=1:=by
 have hs:=BL (x:=yT s<|Uh f g h m) (m:=m) hl h1;have e:∀k,cf (Bf f g h s m) k=(cf h k+cf (ox (yT s<|Uh f g h m) h m) k)%m:=fun k=>by unfold Bf;rw[jR,Ox]
 have e1:cf (Bf f g h s m) (h.length-1)=1:=by
  rw[e,h1,ye (p:=ox _ _ _)<|by lia];exact xaC (by decide)<|by lia
 refine⟨xcU (rA (Ji _ _) fun k hk=> ?_)<|xbw fun ha=> ?_,e1⟩
 ·have:=e k;unfold Bf at this;rw[this,ye hk,ye (p:=ox _ _ _) (by lia),xbD,xag]
 ·rw[ye<|by lia]at e1;cases e1
theorem aU{W:Nat}{t:List Zr}{m:Zr}(hd:xc K f)(hg:xc K g)(hh:xc K h)(hs:xc K s)(ht:xc K t)(lf:f.length<=W)(lg:g.length<=W)(lh:h.length<=W)(ls:s.length<=W)(lt:t.length<=W)(hW:W<=5000)(he:1<=K)(hK:K<=1000)(hb:zo m.2)(hc:m.2.length<=K)(h2:2<=zv m)(hl:0<h.length)(h1:cf h (h.length-1)=1)(hf:3000000<=fu):
 qK fu [g,h,s,t] f m=some [Re f g h s t<|zv m,Bf f g h s<|zv m,puS (Re f g h s t<|zv m) (Bf f g h s<|zv m) s t<|zv m,puT (Re f g h s t<|zv m) (Bf f g h s<|zv m) s t<|zv m]:=by
 have hm:Bz K (zv m):=(Bz.of hb).mono hc;have ha:gI m:=⟨hb,by lia⟩;have h0:0<zv m:=by lia
 unfold qK;rw[tM (i:=0) (by decide),zj,tM (i:=1) (by decide),zj,tM (i:=2) (by decide),zj,tM (i:=3) (by decide),zj,show[g,h,s,t].getD (Int.toNat 0) []=g from rfl,show[g,h,s,t].getD (Int.toNat 1) []=h from rfl,show[g,h,s,t].getD (Int.toNat 2) []=s from rfl,show[g,h,s,t].getD (Int.toNat 3) []=t from rfl];have p1:=ZE hg hh;have l1:=jU g h;have l2:=Jl f<|yT g h;rw[zd<|xh hg hh,zd<|kg (k:=K+K+g.length) (hd.mono<|by lia) p1 (by lia) (by lia) (by lia) hf,zd<|ZX (oI (hd.mono<|by lia) p1) (by lia) ha h0,show wy (aO f<|yT g h) (zv m)=Uh f g h (zv m)from rfl];have pe:xc K (Uh f g h<|zv m):=JN hm h0;have le:(Uh f g h<|zv m).length<=W+W:=xan (Zq _ _) (by lia);have p2:=ZE hs pe;have l3:=jU s<|Uh f g h<|zv m;have pq:=za7 (x:=yT s<|Uh f g h<|zv m) (d:=h) hm h0;have pr:=zcN (x:=yT s<|Uh f g h<|zv m) (d:=h) hm h0;have lq:=P1 (yT s<|Uh f g h<|zv m) h<|zv m;have lr:=Pf (yT s<|Uh f g h<|zv m) h<|zv m;rw[zd<|xh hs pe,zd<|X3 p2 (by lia) hh hb hc h0 hl (by lia) (by lia) hf,show Az (wy (yT s<|Uh f g h<|zv m)<|zv m) h (zv m)=Ah (yT s<|Uh f g h<|zv m) h (zv m)from rfl,show Y0 (wy (yT s<|Uh f g h<|zv m)<|zv m) h (zv m)=ox (yT s<|Uh f g h<|zv m) h (zv m)from rfl];simp only;have p3:=ZE ht pe;have l4:=jU t<|Uh f g h<|zv m;have p4:=ZE pq hg;have l5:=jU (Ah (yT s<|Uh f g h<|zv m) h<|zv m) g;have p5:=fX (k:=K+K+W+W+W+1) (p3.mono<|by lia) (p4.mono<|by lia);have l6:=K0 (yT t<|Uh f g h<|zv m)<|yT (Ah (yT s<|Uh f g h<|zv m) h<|zv m) g;have p6:=fX (k:=K+K+W+W+W+2) (hg.mono<|by lia) p5;have l7:=K0 g<|J6 (yT t<|Uh f g h<|zv m)<|yT (Ah (yT s<|Uh f g h<|zv m) h<|zv m) g;rw[zd<|xh ht pe,zd<|xh pq hg,zd<|fY (k:=K+K+W+W+W+1) (p3.mono<|by lia) (p4.mono<|by lia) (by lia) (by lia) (by lia) hf,zd<|fY (k:=K+K+W+W+W+2) (hg.mono<|by lia) p5 (by lia) (by lia) (by lia) hf,zd<|ZX p6 (by lia) ha h0,show wy (J6 g<|J6 (yT t<|Uh f g h<|zv m)<|yT (Ah (yT s<|Uh f g h<|zv m) h<|zv m) g) (zv m)=Re f g h s t (zv m)from rfl];have l8:=K0 h<|ox (yT s<|Uh f g h<|zv m) h<|zv m;rw[zd<|fY hh pr (by lia) (by lia) (by lia) hf,zd<|ZX (fX hh pr) (by lia) ha h0,show wy (J6 h<|ox (yT s<|Uh f g h<|zv m) h<|zv m) (zv m)=Bf f g h s (zv m)from rfl];obtain⟨hi,hj⟩:=PO (f:=f) (g:=g) (s:=s) h2 hl h1;have pG:xc K (Re f g h s t<|zv m):=JN hm h0;have pH:xc K (Bf f g h s<|zv m):=JN hm h0;have lG:(Re f g h s t<|zv m).length<=4*W+1:=xan (Zq _ _) (by lia);clear l1 l2 l3 l4 l5 l6 l7 l8 p1 p2 p3 p4 p5 p6 pe le pq pr lq lr;generalize Re f g h s t (zv m)=G at*
 generalize Bf f g h s (zv m)=H at*
 have p1:=ZE hs pG;have l1:=jU s G;have p2:=ZE ht pH;have l2:=jU t H;have p3:=fX (k:=K+K+W) (p1.mono<|by lia) (p2.mono<|by lia);have l3:=K0 (yT s G)<|yT t H;have l4:=Jl (J6 (yT s G)<|yT t H) FT;have l5:=zdh;rw[zd<|xh hs pG,zd<|xh ht pH,zd<|fY (k:=K+K+W) (p1.mono<|by lia) (p2.mono<|by lia) (by lia) (by lia) (by lia) hf];rw[zd<|AA zb1 (by decide) hf,show jv [1]=FT from rfl,zd<|kg p3 (PG.mono<|by lia) (by lia) (by lia) (by lia) hf,zd<|ZX (oI p3<|PG.mono<|by lia) (by lia) ha h0,show wy (aO (J6 (yT s G)<|yT t H) FT) (zv m)=bM G H s t (zv m)from rfl];have pb:xc K (bM G H s t<|zv m):=JN hm h0;have lb:(bM G H s t<|zv m).length<=5*W+2:=xan (Zq _ _) (by lia);have p4:=ZE hs pb;have l6:=jU s<|bM G H s t<|zv m;have pc':=za7 (x:=yT s<|bM G H s t<|zv m) (d:=H) hm h0;have pd:=zcN (x:=yT s<|bM G H s t<|zv m) (d:=H) hm h0;have lc:=P1 (yT s<|bM G H s t<|zv m) H<|zv m;have ld:=Pf (yT s<|bM G H s t<|zv m) H<|zv m;have l7:=Jl s<|ox (yT s<|bM G H s t<|zv m) H<|zv m;rw[zd<|xh hs pb,zd<|X3 p4 (by lia) pH hb hc h0 (by lia) (by lia) (by lia) hf,show Az (wy (yT s<|bM G H s t<|zv m)<|zv m) H (zv m)=Ah (yT s<|bM G H s t<|zv m) H (zv m)from rfl,show Y0 (wy (yT s<|bM G H s t<|zv m)<|zv m) H (zv m)=ox (yT s<|bM G H s t<|zv m) H (zv m)from rfl];simp only;rw[zd<|kg hs pd (by lia) (by lia) (by lia) hf,zd<|ZX (oI hs pd) (by lia) ha h0,show wy (aO s<|ox (yT s<|bM G H s t<|zv m) H<|zv m) (zv m)=puS G H s t (zv m)from rfl];have p5:=ZE ht pb;have l8:=jU t<|bM G H s t<|zv m;have p6:=ZE pc' pG;have l9:=jU (Ah (yT s<|bM G H s t<|zv m) H<|zv m) G;have p7:=fX (k:=K+K+6*W+3) (p5.mono<|by lia) (p6.mono<|by lia);have l10:=K0 (yT t<|bM G H s t<|zv m)<|yT (Ah (yT s<|bM G H s t<|zv m) H<|zv m) G;have l11:=Jl t<|J6 (yT t<|bM G H s t<|zv m)<|yT (Ah (yT s<|bM G H s t<|zv m) H<|zv m) G;rw[zd<|xh ht pb,zd<|xh pc' pG,zd<|fY (k:=K+K+6*W+3) (p5.mono<|by lia) (p6.mono<|by lia) (by lia) (by lia) (by lia) hf,zd<|kg (ht.mono<|by lia) p7 (by lia) (by lia) (by lia) hf,zd<|ZX (oI (ht.mono<|by lia) p7) (by lia) ha h0,show wy (aO t<|J6 (yT t<|bM G H s t<|zv m)<|yT (Ah (yT s<|bM G H s t<|zv m) H<|zv m) G) (zv m)=puT G H s t (zv m)from rfl]
end
section
variable{x d f g h s t:List Zr}{m:Int}
theorem Zx(a:List Zr)(m:Int):Cg m (cf<|wy a m) (cf a):=fun k=>by rw[jR,xaF]
theorem EO(a b:List Zr):(cf (aO a b):Pz)=cf a-cf b:=funext fun k=>PC a b k
theorem sO(a b:List Zr):(cf (J6 a b):Pz)=cf a+cf b:=funext fun k=>Ox a b k
theorem zaX(ha:0<d.length)(hb:cf d (d.length-1)=1):Cg m (cf x) ((cf (Ah x d m):Pz)*cf d+cf (ox x d m)):=by
 intro k;unfold Ah ox;rw[zM,<-qG,da (by lia) ha hb,xdN,xaF,<-xdN];have hr:=jR x m k;generalize wy x m=r at*
 obtain⟨qn,hq⟩:∃qn,qn=r.length+1-d.length:=⟨_,rfl⟩;have hc:∀j,j<qn->cf (Az r d m) j=Nw r d m qn j:=fun j hj=>by
  rw[OW,<-hq];unfold dvQ Nw;rw[iq hj,xaF]
 have hd:(Az r d m).length<=qn:=by unfold Az;rw[xM,<-hq];exact qe _ _
 have h:=Pj hc k qn<|xab _;rw[oM,HQ hd]at h;rw[PY,<-hq,xfA,<-h,hr,xaF]
theorem Ue{n x:Int}(hn:n∣m)(hx:n∣x):n∣x%m:=by
 rw[Int.emod_def];exact xdp hx<|xbG hn<|xco _ _
theorem oz{r d:List Zr}{n m:Int}{qn:Nat}(hn:n∣m)(hr:∀k,n∣cf r k):∀s k,n∣dvF r d m qn s k
 |0,k=>hr k
 |s+1,k=>xdp (oz hn hr s k)<|xbG (Ue hn<|oz hn hr s _)<|xco _ _
theorem Tu{n:Int}(hn:n∣m)(hx:Cg n (cf x) (pc 0))(ha:0<d.length)(hb:cf d (d.length-1)=1):Cg n (cf<|Ah x d m) (pc 0)/\Cg n (cf<|ox x d m) (pc 0):=by
 have hr:∀k,n∣cf (wy x m) k:=fun k=>by rw[jR];exact Ue hn<|hx.dvd k
 refine⟨Cg.of_dvd fun k=> ?_,Cg.of_dvd fun k=> ?_⟩
 ·unfold Ah;rw[OW];refine Ue hn ?_;unfold dvQ;split
  ·exact Ue hn<|oz hn hr _ _
  ·exact xcP _
 ·unfold ox;rw[da (by lia) ha hb];exact Ue hn<|oz hn hr _ _
theorem zhw{n:Int}(hm:m∣n*n)(hn:n∣m)(h1:Cg n (cf f) ((cf g:Pz)*cf h))(h2:Cg n ((cf s:Pz)*cf g+(cf t:Pz)*cf h) (pc 1))(ha:0<h.length)(hb:cf h (h.length-1)=1):
 Cg m (cf f) ((cf (Re f g h s t m):Pz)*cf (Bf f g h s m))/\Cg n (cf<|Re f g h s t m) (cf g)/\Cg n (cf<|Bf f g h s m) (cf h):=by
 have he:Cg m (cf<|Uh f g h m) ((cf f:Pz)-(cf g:Pz)*cf h):=by
  refine(Zx _ _).trans<|Cg.of ?_;rw[EO,qG]
 have hc:Cg n (cf<|Uh f g h m) (pc 0):=(he.down hn).trans<|Cg.iff_sub.1 h1;have hd:Cg m ((cf s:Pz)*cf (Uh f g h m)) ((cf (Ah (yT s<|Uh f g h m) h m):Pz)*cf h+cf (ox (yT s<|Uh f g h m) h m)):=by
  rw[<-qG];exact zaX ha hb
 obtain⟨z1,z2⟩:=Tu (x:=yT s<|Uh f g h m) (d:=h) hn (by rw[qG];exact hc.mul_zero_l _) ha hb;refine zay hm hn (q:=cf<|Ah (yT s<|Uh f g h m) h m) (r:=cf<|ox (yT s<|Uh f g h m) h m) h1 h2 he hd z1 z2 ?_ ?_
 ·refine(Zx _ _).trans<|Cg.of ?_;rw[sO,sO,qG,qG]
 ·refine(Zx _ _).trans<|Cg.of ?_;rw[sO]
theorem zii{n:Int}(hm:m∣n*n)(hn:n∣m)(h2:Cg n ((cf s:Pz)*cf g+(cf t:Pz)*cf h) (pc 1))(ha:0<h.length)(hc:cf h (h.length-1)=1):
 Cg m ((cf (puS g h s t m):Pz)*cf g+(cf (puT g h s t m):Pz)*cf h) (pc 1):=by
 have hb:Cg m (cf<|bM g h s t m) ((cf s:Pz)*cf g+(cf t:Pz)*cf h-pc 1):=by
  refine(Zx _ _).trans<|Cg.of ?_;rw[EO,sO,qG,qG,zdx]
 have hd:Cg m ((cf s:Pz)*cf (bM g h s t m)) ((cf (Ah (yT s<|bM g h s t m) h m):Pz)*cf h+cf (ox (yT s<|bM g h s t m) h m)):=by
  rw[<-qG];exact zaX ha hc
 refine Td hm hn h2 hb hd ?_ ?_
 ·refine(Zx _ _).trans<|Cg.of ?_;rw[EO]
 ·refine(Zx _ _).trans<|Cg.of ?_;rw[EO,sO,qG,qG]
theorem PE{a b:List Zr}(ha:0<a.length)(hc:0<b.length)(hb:cf b (b.length-1)=1):((cf a:Pz)*cf b) (a.length-1+(b.length-1))=cf a (a.length-1):=by
 rw[xq,xW (i:=a.length-1) fun i hi=> ?_,zP,show a.length-1+(b.length-1)-(a.length-1)=b.length-1 by lia,hb,xcl];by_cases h:i<a.length-1
 ·rw[ye (p:=b) (by lia),xaw]
 ·rw[ye (p:=a) (by lia),xaV]
theorem P5(hm:2<=m)(hg:wy g m=g)(hf:wy f m=f)(hq:0<f.length)(he:0<h.length)(hl:cf h (h.length-1)=1)(hc:Cg m (cf f) ((cf g:Pz)*cf h)):
 f.length=g.length+(h.length-1)/\0<g.length/\cf g (g.length-1)=cf f (f.length-1):=by
 have hd:=Ji g m;have ha:=Ji f m;rw[hg]at hd;rw[hf]at ha;have hn:∀k,cf g k%m=cf g k:=fun k=>by rw[<-jR,hg]
 have hb:∀k,cf f k%m=cf f k:=fun k=>by rw[<-jR,hf]
 have ho:=Zy ha (by lia);have g0:0<g.length:=by
  refine xcJ fun h0=>ho ?_;rw[<-hb,hc,xq,yJ fun i hi=>by rw[ye (p:=g) (by lia),xaV],xag]
 have hp:=Zy hd (by lia);have ht:=hc<|g.length-1+(h.length-1);rw[PE g0 he hl,hb,hn]at ht;have e1:f.length=g.length+(h.length-1):=by
  refine xcU (rA ha fun k hk=> ?_)<|xbw fun hr=> ?_
  ·rw[<-hb,hc,vL (n:=g.length) (m:=h.length) (fun j hj=>ye hj)<|fun j hj=>ye hj,xag]
  ·rw[ye (p:=f)<|by lia]at ht;exact hp ht.symm
 refine⟨e1,g0,?_⟩;rw[<-ht];congr 1;lia
end
section
variable{r0 r1 a b K fu:Nat}{u0 u1 v0 v1:Int}
structure ZbI(a b:Nat)(r0 r1:Nat)(u0 v0 u1 v1:Int):Prop where
 p0:0<r0
 le0:r0<=max a b
 le1:r1<=max a b
 e0:u0*a+v0*b=r0
 e1:u1*a+v1*b=r1
 g:xem r0 r1=xem a b
 su:∃x y:Nat,((u0=x/\u1= -y)\/(u0= -x/\u1=y))/\r0*y+r1*x=b
 sv:∃x y:Nat,((v0=x/\v1= -y)\/(v0= -x/\v1=y))/\r0*y+r1*x=a
 bu0:u0.natAbs<=b
 bu1:u1.natAbs<=b
 bv0:v0.natAbs<=a
 bv1:v1.natAbs<=a
theorem FW{c:Nat}(hr:0<r1)(h:∃x y:Nat,((u0=x/\u1= -y)\/(u0= -x/\u1=y))/\r0*y+r1*x=c):
 (∃x y:Nat,((u1=x/\u0-((r0/r1:Nat):Int)*u1= -y)\/(u1= -x/\u0-((r0/r1:Nat):Int)*u1=y))/\r1*y+r0%r1*x=c)/\(u0-((r0/r1:Nat):Int)*u1).natAbs<=c:=by
 obtain⟨x,y,hs,he⟩:=h;have hc:=xbB r0 r1;generalize r0/r1=q at*
 generalize r0%r1=r2 at*
 have e1:r1*(x+q*y)+r2*y=c:=by
  rw[xbh,<-xaX];have:r0*y=r1*q*y+r2*y:=by rw[<-xaR,hc]
  lia
 have hb:x+q*y<=c:=by
  have h3:1*(x+q*y)<=r1*(x+q*y):=xat _ (by lia);lia
 have ha:((q*y:Nat):Int)=(q:Int)*(y:Int):=by simp
 rcases hs with⟨a1,a2⟩|⟨a1,a2⟩
 ·rw[a1,a2,xeC,<-ha];exact⟨⟨y,x+q*y,.inr ⟨rfl,by lia⟩,e1⟩,by lia⟩
 ·rw[a1,a2,<-ha];exact⟨⟨y,x+q*y,.inl ⟨rfl,by lia⟩,e1⟩,by lia⟩
theorem ZbI.step(h:ZbI a b r0 r1 u0 v0 u1 v1)(hr:0<r1):ZbI a b r1 (r0%r1) u1 v1 (u0-((r0/r1:Nat):Int)*u1) (v0-((r0/r1:Nat):Int)*v1):=by
 obtain⟨s1,s2⟩:=FW hr h.su;obtain⟨t1,t2⟩:=FW hr h.sv;have ha:=xbB r0 r1;have hd:=xbi r0 hr;have hb:=h.le1;refine⟨hr,hb,by lia,h.e1,?_,?_,s1,t1,h.bu1,s2,h.bv1,t2⟩
 ·have e0:=h.e0;have e1:=h.e1;have hc:(r0:Int)=(r1:Int)*((r0/r1:Nat):Int)+((r0%r1:Nat):Int):=by
   have:(r0:Int)=((r1*(r0/r1)+r0%r1:Nat):Int):=by rw[ha]
   rw[this];simp
  generalize((r0/r1:Nat):Int)=q at*
  generalize((r0%r1:Nat):Int)=r2 at*
  rw[xfQ,xfQ,xbK,xbK];have e2:q*(u1*a)+q*(v1*b)=r1*q:=by rw[<-xeY,e1,xbo]
  lia
 ·rw[<-h.g,xeE r1,<-Nat.gcd_rec,xeE]
theorem Bz.nat{n:Nat}(h:n<18446744073709551616^K):Bz K (n:Int):=by unfold Bz;rw[xbe];exact h
theorem aZ{q x0 y0 z0 x1 y1 z1:Int}(hq:Bz K q)(h1:Bz K x0)(h2:Bz K y0)(h3:Bz K z0)(h4:Bz K x1)(h5:Bz K y1)(h6:Bz K z1)(hK:K<=10000)(hf:3000000<=fu):
 kP fu (yK x0,(yK y0,yK z0)) (yK q) (yK x1,(yK y1,yK z1))=some (yK<|x0-q*x1,(yK<|y0-q*y1,yK<|z0-q*z1)):=by
 unfold kP;have b1:=hq.mul h4;have b2:=hq.mul h5;have b3:=hq.mul h6;simp only;rw[zd<|yf (hq.ok<|by lia) (h4.ok<|by lia) hf,zA,zA,zd<|qq (h1.ok<|by lia) (b1.ok<|by lia) hf,zA,zA,zd<|yf (hq.ok<|by lia) (h5.ok<|by lia) hf,zA,zA,zd<|qq (h2.ok<|by lia) (b2.ok<|by lia) hf,zA,zA,zd<|yf (hq.ok<|by lia) (h6.ok<|by lia) hf,zA,zA,zd<|qq (h3.ok<|by lia) (b3.ok<|by lia) hf,zA,zA]
theorem OB(h:r1<=r0:=by lia)(hr:0<r1:=by lia):bl (r0%r1)<bl r0:=by
 have ha:=xbB r0 r1;have hc:=xbi r0 hr;have hq:1<=r0/r1:=(xcw hr).2 (by lia);have h1:r1*1<=r1*(r0/r1):=xaD _ hq;have hb:=sP r0;have hp:1<=bl r0:=by rw[JR];lia
 have e:2^bl r0=2*2^(bl r0-1):=by rw[<-xek,show(bl r0-1).succ=bl r0 by lia]
 have:=VT (n:=r0%r1) (k:=bl r0-1) (by lia);lia
theorem Sc(ha:a<18446744073709551616^K)(hb:b<18446744073709551616^K)(hK:K<=1000)(hf:3000000<=fu)(hI:ZbI a b r0 r1 u0 v0 u1 v1):
 ∃r,zm (XA fu) fu ((yK r0,(yK u0,yK v0)),(yK r1,(yK u1,yK v1)))=some r/\∃u v:Int,r=(yK (xem a b:Nat),(yK u,yK v))/\u*a+v*b=(xem a b:Nat)/\u.natAbs<=b/\v.natAbs<=a:=by
 have hc:∀{n:Nat},n<=max a b->bl n<=64*K:=fun{n} hn=>VT (by
  rw[xda,rL];lia)
 refine yA (fun s:(Zr×(Zr×Zr))×(Zr×(Zr×Zr))=>∃(r0 r1:Nat) (u0 v0 u1 v1:Int),s=((yK r0,(yK u0,yK v0)),(yK r1,(yK u1,yK v1)))/\ZbI a b r0 r1 u0 v0 u1 v1) (fun s=>bl (zv s.1.1).natAbs+bl (zv s.2.1).natAbs+if(zv s.1.1).natAbs<(zv s.2.1).natAbs then 1 else 0) _ ?_ _ _ ⟨r0,r1,u0,v0,u1,v1,rfl,hI⟩ ?_
 ·rintro s L ⟨r0,r1,u0,v0,u1,v1,rfl,hI⟩ ih;have hz:∀x:Int,x.natAbs<=max a b->Bz K x:=fun x hx=>by unfold Bz;lia
  have z0:Bz K (r0:Int):=hz _ (by have:=hI.le0;lia);have z1:Bz K (r1:Int):=hz _ (by have:=hI.le1;lia);unfold XA;simp only;rw[zd<|xg (z1.ok<|by lia) hf,zA];by_cases h0:r1=0
  ·rw[iq<|wO.2<|by lia];have hg:=hI.g;rw[h0,Nat.gcd_zero_right]at hg;exact⟨_,rfl,u0,v0,by rw[hg],by rw[hI.e0,hg],hI.bu0,hI.bv0⟩
  ·rw[ir<|fun e=>h0 (by have:=wO.1 e;lia),zd<|Qz (z0.okS<|by lia) (z1.okS<|by lia) hf,zA,zA];unfold zcm;rw[zC];simp only;have hq:((r0:Int)/(r1:Int))=((r0/r1:Nat):Int):=rfl;have zq:Bz K ((r0/r1:Nat):Int):=Bz.nat (by
    have h1:=xdY r0 r1;have h2:=hI.le0;lia)
   have hj:=hI.step (by lia);have hd:=xbB r0 r1;have he:(r0:Int)-((r0/r1:Nat):Int)*(r1:Int)=((r0%r1:Nat):Int):=by
    have:(r0:Int)=((r1*(r0/r1)+r0%r1:Nat):Int):=by rw[hd]
    conv=>lhs;rw[this]
    rw[hd];have h2:(r0:Int)=(r1:Int)*((r0/r1:Nat):Int)+((r0%r1:Nat):Int):=by rw[this];simp
    rw[xbo];lia
   rw[hq,zd<|aZ zq z0 (hz _ (by have:=hI.bu0;lia)) (hz _ (by have:=hI.bv0;lia)) z1 (hz _ (by have:=hI.bu1;lia)) (hz _ (by have:=hI.bv1;lia)) (by lia) hf,he];refine ih _ ⟨_,_,_,_,_,_,rfl,hj⟩ ?_;simp only[zA,xbe];have hk:=xbi r0 (show 0<r1 by lia);rw[zC];by_cases hi:r0<r1
   ·rw[iq hi,xar hi];lia
   ·have:=OB (r0:=r0) (r1:=r1);lia
 ·simp only[zA,xbe];have h1:=hc hI.le0;have h2:=hc hI.le1;split<;>lia
theorem gU{x y:Zr}(hx:zo x.2)(hy:zo y.2)(hc:x.2.length<=K)(hd:y.2.length<=K)(he:zv x=(a:Int))(hg:zv y=(b:Int))(ha:0<a)(hb:0<b)(hK:K<=1000)(hf:3000000<=fu):
 ∃u v:Int,YT fu x y=some (yK (xem a b:Nat),yK u,yK v)/\u*a+v*b=(xem a b:Nat)/\u.natAbs<=b/\v.natAbs<=a:=by
 have na:nv x.2=a:=by have:=kR x;lia
 have nb:nv y.2=b:=by have:=kR y;lia
 have hA:a<18446744073709551616^K:=by rw[<-na];exact xal (qF hx)<|xaz (by decide) hc
 have hB:b<18446744073709551616^K:=by rw[<-nb];exact xal (qF hy)<|xaz (by decide) hd
 have hI:ZbI a b a b 1 0 0 1:=by refine⟨ha,xec _ _,xdK _ _,by lia,by lia,rfl,⟨1,0,.inl ⟨rfl,rfl⟩,by lia⟩,⟨0,1,.inr ⟨rfl,rfl⟩,by lia⟩,by lia,by lia,by lia,by lia⟩
 obtain⟨r,e1,u,v,rfl,e2,e3,e4⟩:=Sc (fu:=fu) hA hB hK hf hI;unfold YT;rw[zd (yr hx (by lia)<|by lia),zd<|yb (by decide) hf,zd<|yb (by decide) hf,zd (yr hy (by lia)<|by lia),zd<|yb (by decide) hf,zd<|yb (by decide) hf,ir (by decide),ir (by decide),na,nb,zd e1];simp only;rw[zd<|xg ⟨hx,by lia⟩ hf,ir (fun e=>by rw[he,w5<|by lia]at e;exact absurd e<|by decide),zd rfl,zd<|xg ⟨hy,by lia⟩ hf,ir (fun e=>by rw[hg,w5<|by lia]at e;exact absurd e<|by decide),zd rfl];exact⟨u,v,rfl,e2,e3,e4⟩
end
end Go.Proofs.YtmggkmchbdanfaaGreat
