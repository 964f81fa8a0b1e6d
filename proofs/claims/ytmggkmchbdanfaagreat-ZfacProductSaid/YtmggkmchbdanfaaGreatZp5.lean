/- What a proof needs: rules of walking, mirrors of functions and their plain laws. No condition. -/
import Derived.Test.YtmggkmchbdanfaaGreatZp4
set_option linter.unusedVariables false
set_option linter.unusedSimpArgs false
namespace Go.Proofs.YtmggkmchbdanfaaGreat
open Bool renaming false_eq_true->xak,not_true->xdL
open Classical renaming byContradiction->xad,not_forall->xfB,not_imp->xfm
open Int renaming add_comm->xfv,add_emod->xdN,add_mul_emod_self_left->xeC,add_zero->xbx,dvd_mul_left->xcL,dvd_mul_right->xck,dvd_neg->xfK,dvd_of_emod_eq_zero->xaH,dvd_refl->xdO,dvd_sub->xdo,dvd_trans->xbC,dvd_zero->xcJ,emod_emod->xaD,emod_emod_of_dvd->xcC,emod_eq_emod_iff_emod_sub_eq_zero->xaI,emod_eq_of_lt->xaz,emod_eq_zero_of_dvd->xax,emod_lt_of_pos->xdv,emod_nonneg->xcS,eq_ofNat_of_zero_le->xaC,fdiv->xfN,fdiv_eq_ediv_of_nonneg->xeB,le_refl->xeS,lt_trichotomy->xeA,mul_add->xeR,mul_assoc->xbH,mul_comm->xbi,mul_dvd_mul->xfJ,mul_emod->xbo,mul_le_mul_of_nonneg_right->xby,mul_neg->xeu,mul_nonneg->xcz,mul_one->xcf,mul_zero->xas,natAbs_mul->xcb,natAbs_natCast->xbb,natCast_add->xdV,natCast_nonneg->xdb,one_mul->xbX,pow_succ->xbk,pow_zero->xbs,sub_mul->xfL,sub_self->xcX,sub_zero->xcB,tdiv->xda,tmod->xbZ,toNat_natCast->xaM,toNat_of_nonneg->xcV,zero_add->xcA,zero_emod->xag,zero_mul->xaQ
open Lib renaming bitLen->xeT
open List renaming append_assoc->xal,drop->xdw,drop_eq_getElem_cons->xcv,drop_eq_nil_of_le->xcg,ext_getElem->xeK,ext_getElem?->xcw,getD_eq_getElem?_getD->UV,getElem?_eq_getElem->IR,getElem?_eq_none->xaJ,getElem?_map->xaB,getElem?_range->xbg,getElem?_replicate->xeY,getElem?_set->xdY,getElem?_take->xbU,getElem_mem->xbh,length_append->xau,length_cons->xav,length_drop->xbQ,length_eq_zero_iff->xbG,length_map->xaN,length_nil->xcs,length_range->xcy,length_replicate->xaU,length_set->xcG,length_take->xay,map_append->xaO,map_congr_left->xbO,mem_cons_of_mem->H1,mem_cons_self->FS,mem_iff_getElem->xdy,mem_map->xai,mem_of_mem_take->xeD,mem_range->xaS,nil_append->xbF,range->xbc,range_succ->xdD,replicate->xaf,set_append_right->xft,take->xdr,take_add_one->xez,take_length->xcK,take_of_length_le->xaX
open Nat renaming add_comm->xdA,add_mul->xaV,add_mul_div_left->xdx,add_mul_mod_self_left->xcQ,add_sub_cancel->xeo,add_zero->xch,div_add_mod->xbD,div_div_eq_div_mul->xaY,div_eq_of_lt->xcc,div_le_self->xdW,div_lt_iff_lt_mul->xbf,div_mul_le_self->xdn,div_one->xeQ,eq_zero_of_not_pos->xem,eq_zero_or_pos->xcN,gcd->xeg,gcd_comm->xew,le_add_right->xbL,le_antisymm->xcR,le_div_iff_mul_le->xct,le_max_left->xfc,le_max_right->xeJ,le_mul_of_pos_left->xdk,le_of_lt->xcO,le_of_not_lt->xbw,le_refl->xac,le_succ->xce,le_trans->xao,lt_of_le_of_lt->xbd,lt_of_lt_of_le->xap,lt_of_not_le->xdJ,lt_or_ge->xci,lt_succ_self->xbV,min_eq_left->xcZ,mod_eq_of_lt->xaF,mod_lt->xbq,mul_add->xbm,mul_assoc->xbe,mul_comm->xba,mul_div_mul_right->xfu,mul_le_mul->xbE,mul_le_mul_left->xaA,mul_le_mul_right->xar,mul_lt_mul''->xdK,mul_lt_mul_of_pos_right->xbT,mul_mod_mul_right->xev,mul_one->xcD,mul_zero->xdi,not_lt_zero->xbv,one_mul->xcn,pos_of_ne_zero->xcE,pow_add->xbW,pow_le_pow_right->xaK,pow_lt_pow_right->xeF,pow_mul->xdc,pow_pos->xbp,pow_succ->xbu,pow_succ'->xfb,pow_zero->xeU,strongRecOn->xdq,sub_self->xcW,zero_add->xaT,zero_le->xaj,zero_mul->xcI
section
variable{a b:List Nat}{k fu x:Nat}
theorem zE{α β:Type}{f:(β->Option α)->β->Option α}(I:β->Prop)(m:β->Nat)(r:α)
 (step: ∀s L,I s->(∀s',I s'->m s'<m s->L s'=some r)->f L s=some r): ∀(n:Nat) (s:β),I s->m s<n->zj f n s=some r
 |0,s,_,h=>absurd h (xbv _)
 |n+1,s,hI,h=>step s _ hI fun s' ha hm=>zE I m r step n s' ha (by omega)
theorem AK(hk:k+1<=a.length)(h0:a.getD k 0=0):nv (a.take k)=nv (a.take (k+1)):=by
 rw[vL,h0];simp
theorem Ck(h:zm a)(hk:k+1<=a.length)(h0:a.getD k 0≠0):yI (nv (a.take (k+1)))=a.take (k+1):=by
 refine Gl (h.take _) (.inr ?_);have:(a.take (k+1)).length-1=k:=by rw[xay];omega
 rw[this,UV,xbU,zN,<-UV];exact h0
theorem yX(h:zm a)(hl:a.length<=17592186044416)(hf:a.length<fu):yL fu a=some (yI (nv a)):=by
 unfold yL;rw[za (v:=yI (nv a))];refine zE (fun l=>zm l/\nv l=nv a/\l.length<=17592186044416) (fun l=>l.length) _ ?_ _ _ ⟨h,rfl,hl⟩ hf;rintro l L ⟨hL,hn,hk⟩ ih;unfold Zo;by_cases h0:0<(l.length:Int)
 ·obtain⟨k,ha⟩: ∃k,l.length=k+1:=⟨l.length-1,by omega⟩;have e1:(l.length:Int)-1=(k:Int):=by omega
  rw[iq h0,e1,zd,yB,zf];by_cases h1:l.getD k 0=0
  ·rw[iq (by rw[h1]),zd,yO,yG,zf];refine ih _ ⟨hL.take _,?_,by rw[xay];omega⟩ (by rw[xay];omega);rw[AK (by omega) h1,<-ha,xcK,hn]
  ·rw[zx,<-hn];have:=Ck hL (k:=k) (by omega) h1;rw[<-ha,xcK]at this;rw[this]
 ·rw[ir h0,<-hn];have:l=[]:=xbG.1 (by omega);rw[this];rfl
theorem xz(h:zm a)(hl:a.length<=17592186044416)(hf:a.length<fu):xt fu a=some (yI (nv a)):=by
 have:=yX h hl hf;unfold yL Zo at this;unfold xt ab;exact this
theorem Yp(h:zm a)(hl:a.length<=17592186044416)(hf:a.length<fu):uC fu a=some (yI (nv a)):=by
 unfold uC xC;rw[za (xz h hl hf),za (v:=yI (nv a))];rw[q9 (by have:=xQ h;omega)]
theorem zdx(x:Nat):x &&& 4294967295=x % 4294967296:=Nat.and_two_pow_sub_one_eq_mod x 32
theorem zdU:min (((32:Nat):Int)).toNat 64=32:=by decide
theorem YY{y:Nat}(hx:x<18446744073709551616)(hy:y<18446744073709551616):vN fu x y=some (x*y/18446744073709551616,x*y % 18446744073709551616):=by
 unfold vN;simp only[nm,zdx,zdU];obtain⟨b1,b2,b3,b4⟩:=zci hx hy;have e:=Sq x y;generalize hA:(x % 4294967296)*(y % 4294967296)=A at*
 generalize hB:(x/2^32)*(y % 4294967296)=B at*
 generalize hC:(x % 4294967296)*(y/2^32)=C at*
 generalize hD:(x/2^32)*(y/2^32)=D at*
 have hz:x*y<18446744073709551616*18446744073709551616:=xdK hx hy;generalize x*y=z at*
 congr 2;omega
theorem qC{n:Nat}{f:Int->Nat->Option (Nat×Nat)}{step:Nat->Nat->Nat×Nat}(hn:n<=17179869184)(hf:n<fu)(h: ∀k,k<n->f (k:Int) (xY step k).2=some (step k (xY step k).2)):wX fu n f=some (xY step n):=by
 unfold wX;rw[yO,yG,zf,za (v:=((xY step n).2,(xY step n).1))];refine zE (fun s:Nat×Int×List Nat=> ∃k:Nat,k<=n/\s=((xY step k).2,(k:Int),(xY step k).1++xaf (n-k) 0)) (fun s=>n-s.2.1.toNat) _ ?_ _ _ ⟨0,by omega,rfl⟩ (by simpa using hf);rintro s L ⟨k,hk,rfl⟩ ih;unfold JF;simp only[xaU];by_cases h1:(k:Int)<(n:Int)
 ·have hl:(xY step k).1.length=k:=xF step k;rw[iq h1,za (h k (by omega)),zp (by simp[hl];omega),zf,zd];refine ih _ ⟨k+1,by omega,?_⟩ (by show n-((k:Int)+1).toNat<n-((k:Int)).toNat;omega);rw[zcV hl (by omega)];rfl
 ·rw[ir h1];obtain rfl:k=n:=by omega
  simp
theorem YT(a:List Nat)(hl:a.length<=9223372036854775807):Xa fu a (k:Int)=some (a.getD k 0):=by
 unfold Xa;by_cases h:k<a.length
 ·rw[zN,zp h,zf]
 ·rw[zx,UV,xaJ (by omega)];rfl
theorem kI(ha:zm a)(hb:zm b)(hd:a.length<=8589934592)(he:b.length<=8589934592)(hf:max a.length b.length+1<fu):
 kH fu a b=some (yI (nv a+nv b)):=by
 unfold kH;have e:max (a.length:Int) (b.length:Int)=((max a.length b.length:Nat):Int):=by omega
 have hc: ∀k,(xY (gW a b) k).2<=1:=by
  intro k
  induction k with
  |zero=>exact xaj _
  |succ k ih=>exact Lo ha hb ih
 rw[zf,e,za (qC (step:=gW a b) (by omega) (by omega) ?_)]
 ·have hl:=xF (gW a b) (max a.length b.length);show ck _ _=_;rw[q9 (by simp[hl];omega),zf,za (yX ?_ (by simp[hl];omega) (by simp[hl];omega)),zar (by omega) (by omega)];exact(pO a b _).2.append (zm.cons (by have:=hc (max a.length b.length);omega) zm.nil)
 ·intro k hk;unfold KR;rw[za (YT a (by omega)),za (YT b (by omega)),q9 (hc k)];rfl
theorem XX(ha:zm a)(hb:zm b)(hd:a.length<=8589934592)(he:b.length<=8589934592)(hf:max a.length b.length+1<fu):
 Wz fu a b=some (if nv a<nv b then([],1)else(yI (nv a-nv b),0)):=by
 unfold Wz;have e:max (a.length:Int) (b.length:Int)=((max a.length b.length:Nat):Int):=by omega
 have hc: ∀k,(xY (Qo a b) k).2<=1:=by
  intro k
  cases k with
  |zero=>exact xaj _
  |succ k=>exact pZ a b k _
 rw[zf,e,za (qC (step:=Qo a b) (by omega) (by omega) ?_)]
 ·have hl:=xF (Qo a b) (max a.length b.length);have hs:=tv ha hb (xfc a.length b.length) (xeJ a.length b.length);simp only;by_cases h:nv a<nv b
  ·rw[iq (by have:=hs.2 h;omega),iq h]
  ·rw[ir (by intro h1;exact h (hs.1 (by omega))),ir h,za (yX (oy ha hb (xfc a.length b.length) (xeJ a.length b.length)).2.1 (by omega) (by omega)),OQ ha hb (xfc _ _) (xeJ _ _) h]
 ·intro k hk;unfold JR;rw[za (YT a (by omega)),za (YT b (by omega)),q9 (hc k)];rfl
theorem V7(ha:zm a)(hb:zm b)(hc:a.length<=8589934592)(hd:b.length<=8589934592)(hf:max a.length b.length+1<fu)(h:nv b<=nv a):
 Yb fu a b=some (yI (nv a-nv b)):=by
 unfold Yb;rw[za (XX ha hb hc hd hf),zx]
theorem GV{a:List Nat}{x:Nat}(ha:zm a)(hx:x<18446744073709551616): ∀k,(xY (QS a x) k).2<18446744073709551616
 |0=>Nat.zero_lt_succ _
 |k+1=>Lu ha hx (GV ha hx k)
theorem OH{a c:Nat}(ha:a<18446744073709551616)(hx:x<18446744073709551616)(hc:c<18446744073709551616):
 ((a*x % 18446744073709551616+c) % 18446744073709551616,(a*x/18446744073709551616+(a*x % 18446744073709551616+c)/18446744073709551616) % 18446744073709551616)=((a*x+c) % 18446744073709551616,(a*x+c)/18446744073709551616):=by
 have:=dE ha hx hc;generalize a*x=z at*
 congr 1<;>omega
theorem Q4(ha:zm a)(hx:x<18446744073709551616)(hb:a.length<=8589934592)(hf:a.length<fu):WA fu a x=some (wv (a.length+1) (nv a*x)):=by
 unfold WA;rw[za (qC (step:=QS a x) (by omega) hf ?_)]
 ·have hl:=xF (QS a x) a.length;simp only;rw[q9 (by simp[hl];omega),zf,Ez (GV ha hx _)]
 ·intro k hk;unfold Kh;rw[zp hk,zf,za (YY (ha.getD k) hx)];simp only[nm,xch];exact congrArg some (OH (ha.getD k) hx (GV ha hx k))
theorem WI{n:Nat}(hn:n<=1099511627776)(hl:a.length<=1099511627776):uW fu a (n:Int)=some (xaf n 0++a):=by
 unfold uW;rw[yO,yG,zf,q9 (by simp;omega),zf]
theorem CM{n:Nat}{t3 t4 t6:List Nat}{i2:Int}(ha:zm a)(hb:zm b)(hk:k<b.length)(hn:n=a.length+b.length+1)(hj:n<=17179869184)(h6:t6=wv (a.length+1) (nv a*b.getD k 0))(hf:a.length+1<fu):
 zj (W9 fu (k:Int) t3 t4 i2 t6) fu (0,0,wv n (nv a*nv (b.take k)),t6)=some (wv n (nv a*nv (b.take (k+1)))):=by
 have hl:t6.length=a.length+1:=by rw[h6,yc]
 have hg:zm t6:=h6▸xI _ _;have hB:nv a*nv (b.take k)<18446744073709551616^n:=xap (X9 ha hb) (xaK (by decide) (by omega));have h0:nv (wv n (nv a*nv (b.take k)))=nv a*nv (b.take k):=by rw[jD,xaF hB]
 refine zE (fun s:Nat×Int×List Nat×List Nat=> ∃(c i:Nat) (o:List Nat),s=(c,(i:Int),o,t6)/\i<=t6.length/\c<=1/\zm o/\o.length=n/\nv o+18446744073709551616^(k+i)*c=nv a*nv (b.take k)+18446744073709551616^k*nv (t6.take i))
  (fun s=>a.length+1-s.2.1.toNat) _ ?_ _ _ ⟨0,0,_,rfl,by omega,by omega,xI _ _,yc _ _,by rw[h0];simp[nv]⟩ (by simpa using hf)
 rintro s L ⟨c,i,o,rfl,hi,hc,hd,he,ho⟩ ih;unfold W9;simp only;by_cases h1:i<t6.length
 ·rw[zN,za rfl];simp only[if_true];have e:(k:Int)+(i:Int)=((k+i:Nat):Int):=by omega
  rw[zp h1,zf,e,zd,zd,yB,zf,q9 hc,zf,zf,yB,zf,zd];refine ih _ ⟨_,i+1,_,rfl,by omega,?_,hd.set _ (xbq _ (by decide)),by rw[xcG,he],?_⟩ (by show a.length+1-((i:Int)+1).toNat<a.length+1-(i:Int).toNat;omega)
  ·have:=hd.getD (k+i);have:=hg.getD i;omega
  ·have:=Pb (o:=o) (o0:=wv n (nv a*nv (b.take k))) (r:=t6) (j:=k) (i:=i) (c:=c) (by omega) (by rw[h0];exact ho);rw[h0]at this;exact this
 ·rw[zx,za rfl];simp only[xak,if_false];subst h6;refine congrArg some (sV hd (xI _ _) (by rw[he,yc]) ?_);rw[Fw ha hb (k:=k) (i:=i) (c:=c) (p:=o) (o:=wv n (nv a*nv (b.take k))) (by omega) (by omega) h0 (by rw[h0];exact ho),jD,xaF];exact xap (X9 ha hb) (xaK (by decide) (by omega))
theorem iU(ha:zm a)(hb:zm b)(hc:a.length<=4294967296)(hd:b.length<=4294967296)(hf:a.length+b.length+1<fu):
 XV fu a b=some (yI (nv a*nv b)):=by
 unfold XV;have e1:(a.length:Int)+(b.length:Int)=((a.length+b.length:Nat):Int):=by omega
 have e2:((a.length+b.length:Nat):Int)+1=((a.length+b.length+1:Nat):Int):=by omega
 have hB:nv a*nv b<18446744073709551616^(a.length+b.length+1):=by
  have:=X9 (k:=b.length) ha hb;rw[xcK]at this;exact xap this (xaK (by decide) (by omega))
 rw[e1,zd,e2,zd,yO,yG,zf,za (v:=wv (a.length+b.length+1) (nv a*nv b))]
 ·rw[za (yX (xI _ _) (by rw[yc];omega) (by rw[yc];omega)),jD,xaF hB]
 ·refine zE (fun s:Int×List Nat=> ∃k:Nat,k<=b.length/\s=((k:Int),wv (a.length+b.length+1) (nv a*nv (b.take k)))) (fun s=>b.length-s.1.toNat) _ ?_ _ _ ⟨0,by omega,by simp[nv,td]⟩ (by simp;omega);rintro s L ⟨k,hk,rfl⟩ ih;unfold KM;simp only;by_cases h1:k<b.length
  ·rw[zN,za rfl];simp only[if_true];rw[zp h1,zf,za (Q4 ha (hb.getD k) (by omega) (by omega)),za (CM ha hb h1 rfl (by omega) rfl (by omega)),zd];exact ih _ ⟨k+1,by omega,rfl⟩ (by show b.length-((k:Int)+1).toNat<b.length-(k:Int).toNat;omega)
  ·rw[zx,za rfl];simp only[xak,if_false];obtain rfl:k=b.length:=by omega
   rw[xcK]
end
theorem H2(n:Nat):xda (n:Int) 2=((n/2:Nat):Int):=rfl
theorem KX(x h:Nat):(yI (nv ((yI x).take h))).length<=h:=by
 have:=xQ ((zw x).take h);rw[xay]at this;omega
theorem Kn(x h:Nat):(yI (nv ((yI x).drop h))).length<=(yI x).length-h:=by
 have:=xQ ((zw x).drop h);rw[xbQ]at this;omega
theorem Wm: ∀{fu:Nat} {a b:List Nat},zm a->zm b->a.length<=1073741824->b.length<=1073741824->4*(a.length+b.length)+64<=fu->Wx fu a b=some (yI (nv a*nv b))
 |0,a,b,_,_,_,_,hf=>by omega
 |fu+1,a,b,ha,hb,hk,hl,hf=>by
  have h1:=xQ ha;have h2:=xQ hb;show bd _ _=_;rw[za (xz ha (by omega) (by omega)),za (xz hb (by omega) (by omega))];have eA:nv (yI (nv a))=nv a:=z7 _;have eB:nv (yI (nv b))=nv b:=z7 _;generalize hx:nv a=x at*
  generalize hy:nv b=y at*
  generalize hp:(yI x).length=p at*
  generalize hq:(yI y).length=q at*
  have e1:min (p:Int) (q:Int)=((min p q:Nat):Int):=by omega
  rw[zf,e1];by_cases h8:((min p q:Nat):Int)<8
  ·rw[iq h8,za (iU (zw x) (zw y) (by omega) (by omega) (by omega)),eA,eB]
  ·rw[ir h8];have e2:max (p:Int) (q:Int)=((max p q:Nat):Int):=by omega
   rw[zf,e2,H2,zd];obtain⟨h,hh⟩: ∃h,h=max p q/2:=⟨_,rfl⟩;have e3: ∀l:Nat,min (h:Int) (l:Int)=((min h l:Nat):Int):=by intro l;omega
   rw[<-hh];simp only[nm,e3,yO];rw[q9 (by decide),yG];have tx:(yI x).take (min h p)=(yI x).take h:=by rw[<-hp];exact EF h
   have dx:(yI x).drop (min h p)=(yI x).drop h:=by rw[<-hp];exact DK h
   have ty:(yI y).take (min h q)=(yI y).take h:=by rw[<-hq];exact EF h
   have dy:(yI y).drop (min h q)=(yI y).drop h:=by rw[<-hq];exact DK h
   rw[tx,ty,dx,dy];have lx0:=KX x h;have ly0:=KX y h;have lx1:((yI x).drop h).length=p-h:=by rw[xbQ,hp]
   have ly1:((yI y).drop h).length=q-h:=by rw[xbQ,hq]
   have lx2:=Kn x h;have ly2:=Kn y h;rw[za (xz ((zw x).take h) (by rw[xay];omega) (by rw[xay];omega)),yG,yG,za (xz ((zw y).take h) (by rw[xay];omega) (by rw[xay];omega)),yG];have X1:=(zw x).drop h;obtain⟨m,hm⟩: ∃m,m=max p q:=⟨_,rfl⟩;have f1:p<=m:=by omega
   have f2:q<=m:=by omega
   have f3:m+8<=p+q:=by omega
   have f4:2*h<=m:=by omega
   have f5:m<=2*h+1:=by omega
   clear hh hm h8 e1 e2 e3 tx ty dx dy;have g1:p-h<=m-h:=by omega
   have g2:q-h<=m-h:=by omega
   have g3:h<=m-h:=by omega
   replace lx2:=xao lx2 (hp.symm▸g1);replace ly2:=xao ly2 (hq.symm▸g2);have lx3:((yI x).drop h).length<=m-h:=lx1▸g1;have ly3:((yI y).drop h).length<=m-h:=ly1▸g2;clear lx1 ly1 g1 g2;have Y1:=(zw y).drop h;generalize he:nv ((yI x).take h)=x0 at*
   generalize hg:nv ((yI y).take h)=y0 at*
   generalize hi:(yI x).drop h=dX at*
   generalize hj:(yI y).drop h=dY at*
   generalize hc:nv dX=x1 at*
   generalize hd:nv dY=y1 at*
   have s1:=Xd (x:=x0) (y:=x1) (k:=m-h) (by omega) (by omega);have s2:=Xd (x:=y0) (y:=y1) (k:=m-h) (by omega) (by omega);have kle:=zbJ x0 x1 y0 y1;rw[za (Wm (fu:=fu) (zw x0) (zw y0) (by omega) (by omega) (by omega))];rw[za (Wm (fu:=fu) X1 Y1 (by omega) (by omega) (by omega))];rw[za (kI (zw x0) X1 (by omega) (by omega) (by omega)),za (kI (zw y0) Y1 (by omega) (by omega) (by omega))];rw[hc,hd,z7,z7];rw[za (Wm (fu:=fu) (zw (x0+x1)) (zw (y0+y1)) (by omega) (by omega) (by omega)),z7,z7];have l3:=YR s1 s2;have l1:=YR lx0 ly0;have l2:=YR (x:=x1) (y:=y1) (j:=m-h) (k:=m-h) (by omega) (by omega);have l4:=Ko (Nat.sub_le ((x0+x1)*(y0+y1)) (x0*y0));have l5:=Ko (Nat.sub_le ((x0+x1)*(y0+y1)-x0*y0) (x1*y1));rw[za (V7 (zw ((x0+x1)*(y0+y1))) (zw (x0*y0)) (by omega) (by omega) (by omega) (by rw[z7,z7];exact kle.1)),z7,z7];rw[za (V7 (zw ((x0+x1)*(y0+y1)-x0*y0)) (zw (x1*y1)) (by omega) (by omega) (by omega) (by rw[z7,z7];exact kle.2)),z7,z7];have mL: ∀n z:Nat,zm (xaf n 0++yI z):=fun n z=>(zm.replicate n).append (zw z);have ml: ∀n z:Nat,(xaf n 0++yI z).length=n+(yI z).length:=fun n z=>by rw[xau,xaU]
   rw[za (WI (by omega) (by omega)),za (kI (zw _) (mL _ _) (by omega) (by rw[ml];omega) (by rw[ml];omega)),z7,pC,z7];have e4:2*(h:Int)=((2*h:Nat):Int):=by omega
   rw[e4,zd,za (WI (by omega) (by omega))];have l6:=EP h (xao l5 (xao l4 l3));have l7:=Xd (x:=x0*y0) (y:=18446744073709551616^h*((x0+x1)*(y0+y1)-x0*y0-x1*y1)) (k:=3*(p+q)) (by clear l6;omega) (xao l6 (by clear l6;omega));have K:=TN x y h he.symm (by rw[hi,hc]) hg.symm (by rw[hj,hd]);generalize 18446744073709551616^h*((x0+x1)*(y0+y1)-x0*y0-x1*y1)=z1 at*
   generalize hz:x0*y0+z1=z at*
   clear l6;rw[za (kI (zw z) (mL (2*h) (x1*y1)) (by clear K;omega) (by rw[ml];clear K;omega) (by rw[ml];clear K;omega)),z7,pC,z7,K]
section
variable{k fu:Nat}{a:List Nat}
def blf:Nat->Nat->Nat
 |0,_=>0
 |f+1,n=>if n=0 then 0 else blf f (n/2)+1
def bl(n:Nat):Nat:=blf n n
theorem O0: ∀f f' n,n<=f->n<=f'->blf f n=blf f' n
 |0,f',n,h,h'=>by
  obtain rfl:n=0:=by omega
  cases f'<;>rfl
 |f+1,0,n,h,h'=>by
  obtain rfl:n=0:=by omega
  rfl
 |f+1,f'+1,n,h,h'=>by
  unfold blf;split
  ·rfl
  ·rw[O0 f f' (n/2) (by omega) (by omega)]
theorem zbT:bl 0=0:=rfl
theorem Jq{n:Nat}(h:0<n):bl n=bl (n/2)+1:=by
 obtain⟨m,rfl⟩: ∃m,n=m+1:=⟨n-1,by omega⟩;show(if m+1=0 then 0 else blf m ((m+1)/2)+1)=_;rw[zx,O0 m ((m+1)/2) ((m+1)/2) (by omega) (xac _)];rfl
theorem K6: ∀(k:Nat) {n:Nat},2^k<=n->bl n=bl (n/2^k)+k
 |0,n,h=>by simp
 |k+1,n,h=>by
  have h2:0<2^k:=Nat.two_pow_pos k;rw[xbu]at h;rw[Jq (by omega),K6 k (n:=n/2) (by omega),xaY,xbu,xba 2];omega
theorem Vh{n:Nat}(h:n<2^k):bl n<=k:=by
 induction k generalizing n with
 |zero=>
  obtain rfl:n=0:=by omega
  exact xac _
 |succ k ih=>
  rcases xcN n with rfl|h0
  ·exact xaj _
  ·rw[Jq h0];have:=ih (n:=n/2) (by rw[xbu]at h;omega);omega
theorem mZ(n:Nat):n<2^bl n:=by
 induction n using xdq with
 |ind n ih=>
  rcases xcN n with rfl|h0
  ·decide
  ·rw[Jq h0,xbu];have:=ih (n/2) (by omega);omega
theorem tn: ∀{n:Nat},n<256->xeT n=bl n:=by decide+kernel
theorem vH{x:Nat}(hx:x<18446744073709551616):xu fu x=some ((bl x:Nat):Int):=by
 unfold xu;have e16:min (16:Int).toNat 64=16:=by decide
 have e8:min (8:Int).toNat 64=8:=by decide
 have e32:min (32:Int).toNat 64=32:=by decide
 simp only[nm,e32,e16,e8];have last: ∀(d:Nat) (i:Int),d<65536->0<=i->i<=48->(if(256:Int)<=(d:Int)then ze (i+8) fun x2=>ze (x2+((xeT (d/2^8 % 256):Nat):Int)) fun x3=>some x3 else ze (i+((xeT (d % 256):Nat):Int)) fun x4=>some x4)=some (i+((bl d:Nat):Int)):=by
  intro d i hd h0 h1;by_cases h:256<=d
  ·have b:=Vh (n:=d/2^8) (k:=8) (by omega);rw[zN,zd,xaF (by omega),tn (by omega),zd,K6 8 (n:=d) (by omega)];congr 1;omega
  ·have b:=Vh (n:=d) (k:=8) (by omega);rw[zx,xaF (by omega),tn (by omega),zd]
 have mid: ∀(d:Nat) (i:Int),d<4294967296->0<=i->i<=32->(bd (if(65536:Int)<=(d:Int)then ze (i+16) fun x1=>some (d/2^16,x1)else some (d,i)) fun(d2,i2)=>if(256:Int)<=(d2:Int)then ze (i2+8) fun x2=>ze (x2+((xeT (d2/2^8 % 256):Nat):Int)) fun x3=>some x3 else ze (i2+((xeT (d2 % 256):Nat):Int)) fun x4=>some x4)=some (i+((bl d:Nat):Int)):=by
  intro d i hd h0 h1;by_cases h:65536<=d
  ·rw[zN,zd,za rfl];simp only;rw[last _ _ (by omega) (by omega) (by omega),K6 16 (n:=d) (by omega)];congr 1;omega
  ·rw[zx,za rfl];exact last _ _ (by omega) (by omega) (by omega)
 by_cases h:4294967296<=x
 ·rw[zN,za rfl];simp only;rw[mid _ _ (by omega) (by omega) (by omega),K6 32 (n:=x) (by omega)];congr 1;omega
 ·rw[zx,za rfl];simp only;rw[mid _ _ (by omega) (by omega) (by omega)];congr 1;omega
theorem FZ{n:Nat}(h:0<n):bl n=64*((yI n).length-1)+bl ((yI n).getD ((yI n).length-1) 0):=by
 obtain⟨k,hk⟩: ∃k,(yI n).length=k+1:=⟨(yI n).length-1,by have:=vD h;omega⟩;have h1:=(zJ (k+1) n).1 (by omega);have h2: ¬n<18446744073709551616^k:=fun h=>by have:=(zJ k n).2 h;omega
 rw[hk,u9,show k+1-1=k by omega];have e:18446744073709551616^k=2^(64*k):=by rw[xdc]
 have h3:n/18446744073709551616^k<18446744073709551616:=by rw[xbf (xbp (by decide))];rw[xbu,xba]at h1;exact h1
 rw[xaF h3,e,K6 (64*k) (by rw[<-e];omega)];omega
theorem Tb(h:zm a)(hk:a.length<=k):bl (nv a)<=64*k:=by
 refine Vh ?_;rw[xdc];exact xap (jz h) (xaK (by decide) hk)
theorem Yu(h:zm a)(hl:a.length<=1099511627776)(hf:a.length<fu):jX fu a=some ((bl (nv a):Nat):Int):=by
 unfold jX;rw[za (xz h (xao hl (by decide)) hf)];have hL:=xQ h;have hb:=Tb h hl;rcases xcN (nv a)with h0|h0
 ·rw[h0,QC];rfl
 ·have h1:=vD h0;have hy:=(zw (nv a)).getD ((yI (nv a)).length-1);have e:=FZ h0;obtain⟨k,hk⟩: ∃k,(yI (nv a)).length=k+1:=⟨(yI (nv a)).length-1,by omega⟩;rw[hk]at e hy;simp only[xeo]at e hy;have e1:((k+1:Nat):Int)-1=(k:Int):=by omega
  rw[hk,zx,e1,zd,zd,zd,yB,zf,za (vH hy),zd,e];congr 1
end
def nw:List Nat->Nat
 |[]=>0
 |x::r=>x+4294967296*nw r
theorem JH{fu:Nat}{a b:List Nat}(ha:a.length<=1099511627776)(hf:a.length<fu):Wj fu a b=some (decide (a=b)):=by
 unfold Wj;by_cases hl:a.length=b.length
 ·rw[zN,za (v:=if a=b then .inl ()else .inr ())]
  ·by_cases h:a=b
   ·rw[iq h,decide_eq_true h]
   ·rw[ir h,decide_eq_false h]
  ·refine zE (fun i:Int=> ∃k:Nat,i=(k:Int)/\k<=a.length/\a.take k=b.take k) (fun i=>a.length-i.toNat) _ ?_ _ _ ⟨0,rfl,by omega,rfl⟩ (by show a.length-0<fu;omega);rintro i L ⟨k,rfl,hk,ht⟩ ih;unfold JX;by_cases h1:k<a.length
   ·rw[zN,zp h1,zf,yB,zf];by_cases h2:a.getD k 0=b.getD k 0
    ·rw[zN,zd];refine ih _ ⟨k+1,by omega,by omega,?_⟩ (by show a.length-((k:Int)+1).toNat<a.length-(k:Int).toNat;omega);rw[xez,xez,ht,getD_some 0 h1,getD_some 0 (by omega:k<b.length),h2]
    ·rw[zx,ir (fun h=>h2 (by rw[h]))]
   ·rw[zx];obtain rfl:k=a.length:=by omega
    rw[xcK,xaX (by omega)]at ht;rw[iq ht]
 ·rw[zx,decide_eq_false (fun h=>hl (by rw[h]))]
section
variable{fu:Nat}{a b:Zr}{x:Int}
def zv(z:Zr):Int:=if z.1=true then-((nv z.2:Nat):Int)else((nv z.2:Nat):Int)
def yE(x:Int):Zr:=(decide (x<0),yI x.natAbs)
theorem zu(x:Int):zv (yE x)=x:=by
 unfold zv yE;simp only[z7,decide_eq_true_eq];split<;>omega
theorem yU(x:Int):zm (yE x).2:=zw _
theorem kD(z:Zr):(zv z).natAbs=nv z.2:=by unfold zv;split<;>omega
theorem zeR(s:Bool)(n:Nat):(if s=true then if 0<(((yI n).length:Nat):Int)then some (true,yI n)else some (false,yI n)else some (false,yI n))=some (yE (if s=true then-(n:Int)else(n:Int))):=by
 have h1:= @AG n;cases s
 ·simp[yE]
 ·simp only[if_true];by_cases h:n=0
  ·subst h;rfl
  ·have:=vD (n:=n) (by omega);rw[zN];unfold yE;rw[decide_eq_true (by omega)];congr 2;congr 1;omega
theorem yf{s:Bool}{a:List Nat}(h:zm a)(hl:a.length<=17592186044416)(hf:a.length<fu):yT fu s a=some (yE (if s=true then-((nv a:Nat):Int)else((nv a:Nat):Int))):=by
 unfold yT;rw[za (Yp h hl hf)];exact zeR s _
theorem Ks{z:Zr}(h:zm z.2)(hl:z.2.length<=17592186044416)(hf:z.2.length<fu):vR fu z=some (yE (zv z)):=by
 unfold vR;rw[za (yf h hl hf)];rfl
theorem nH(h0:0<=x)(h:x<18446744073709551616):((gB x:Nat):Int)=x:=by unfold gB;omega
theorem dD{x:Nat}(h:x<18446744073709551616):zm [x]:=zm.cons h zm.nil
theorem C4(x:Nat):nv [x]=x:=by simp[nv]
theorem QW(h:VW x)(hf:1<fu):zZ fu x=some (yE x):=by
 obtain⟨h1,h2⟩:=h;unfold zZ;have hu:=gL x;by_cases h0:x<0
 ·have e:(18446744073709551616-gB x) % 18446744073709551616=x.natAbs:=by unfold gB;omega
  rw[iq h0,zf,zf,e,za (yf (dD (by omega)) (by simp) (by simpa using hf)),C4];congr 2;rw[iq rfl];omega
 ·have e:=nH (x:=x) (by omega) (by omega);rw[ir h0,zf,za (yf (dD hu) (by simp) (by simpa using hf)),C4];congr 2
theorem zb5(a b:Zr):(if(!(a.1==b.1))=true then-((nv a.2*nv b.2:Nat):Int)else((nv a.2*nv b.2:Nat):Int))=zv a*zv b:=by
 unfold zv;cases a.1<;>cases b.1<;>simp[Int.neg_mul,xeu]
theorem U4(ha:zm a.2)(hb:zm b.2)(hc:a.2.length<=1073741824)(hd:b.2.length<=1073741824)(hf:4*(a.2.length+b.2.length)+64<=fu):zO fu a b=some (yE (zv a*zv b)):=by
 unfold zO;have hl:=YR (xQ ha) (xQ hb);rw[zf,za (Wm ha hb hc hd hf),za (yf (zw _) (by omega) (by omega)),z7,<-zb5]
theorem iX(hl:a.2.length<=1099511627776)(hf:a.2.length<fu):Wa fu a b=some (decide (a=b)):=by
 obtain⟨s,a⟩:=a;obtain⟨t,b⟩:=b;unfold Wa;rw[zf];cases s<;>cases t
 ·simp only[beq_self_eq_true,if_true];rw[za (JH hl hf)];simp
 ·simp
 ·simp
 ·simp only[beq_self_eq_true,if_true];rw[za (JH hl hf)];simp
theorem zbx{a:Int}{e b:Nat}(h:bl a.natAbs*e<=b*64):(yI (a^e).natAbs).length<=b+1:=by
 rw[zJ,Int.natAbs_pow];have h1:a.natAbs^e<=(2^bl a.natAbs)^e:=Nat.pow_le_pow_left (xcO (mZ _)) e;rw[<-xdc]at h1;have h2:2^(bl a.natAbs*e)<=2^(64*b):=xaK (by decide) (by omega);rw[xdc 2 64 b,show(2:Nat)^64=18446744073709551616 from rfl]at h2;have h3:18446744073709551616^b<18446744073709551616^(b+1):=xeF (by decide) (xbV b);omega
theorem RJ(i:Nat)(h:i<=65536):H4 (i:Int) 1=((i % 2:Nat):Int):=by
 unfold H4;have e1:gB (i:Int)=i:=by unfold gB;omega
 have e2:gB 1=1:=by decide
 rw[e1,e2,Nat.and_one_is_mod];unfold OX;rw[zN]
theorem zfs(i:Nat):xfN (i:Int) (2^(min (((1:Nat):Int)).toNat 64))=((i/2:Nat):Int):=by
 have:min (((1:Nat):Int)).toNat 64=1:=by decide
 rw[this];rw[xeB _ (by decide)];show(i:Int)/2=_;omega
theorem NH{n:Nat}{a:Int}(hn:n<=65536)(hb:bl a.natAbs*n<=262144)(hf:65600<fu):
 zj (Jr fu) fu ((n:Int),yE a,yE 1)=some (yE (a^n)):=by
 have hc: ∀e,e<=n->(yI (a^e).natAbs).length<=4097:=fun e he=>zbx (b:=4096) (xao (xaA _ he) hb);refine zE (fun s:Int×Zr×Zr=> ∃i d e:Nat,s=((i:Int),yE (a^d),yE (a^e))/\e+d*i=n/\(0<i->d<=n)/\0<d) (fun s=>s.1.toNat) _ ?_ _ _ ⟨n,1,0,by simp[xbk],by omega,by omega,by omega⟩ (by show((n:Int)).toNat<fu;omega);rintro s L ⟨i,d,e,rfl,he,hd,hi⟩ ih;unfold Jr;simp only;have mul: ∀p q,p<=n->q<=n->zO fu (yE (a^p)) (yE (a^q))=some (yE (a^(p+q))):=by
  intro p q hp hq;have h1:=hc p hp;have h2:=hc q hq;rw[U4 (yU _) (yU _) (by show(yI _).length<=_;omega) (by show(yI _).length<=_;omega) (by show 4*((yI _).length+(yI _).length)+64<=fu;omega),zu,zu,Int.pow_add]
 by_cases h0:0<i
 ·have ha:=hd h0;have hj:i<=n:=by
   have:=xdk i hi;omega
  have hg:d*i=d*(i/2)*2+d*(i % 2):=by rw[xbe,<-xbm];congr 1;omega
  rw[zN,zf,RJ i (by omega)];by_cases h1:i % 2=1
  ·rw[zN];rw[h1,xcD]at hg;rw[za (mul e d (by omega) ha)];by_cases h2:1<i
   ·have h3:d*1<=d*(i/2):=xaA d (by omega);rw[zN,za (mul d d ha ha),zf,zfs];refine ih _ ⟨i/2,d+d,e+d,rfl,?_,by omega,by omega⟩ (by show((i/2:Nat):Int).toNat<(i:Int).toNat;omega);rw[xaV];omega
   ·rw[zx,zf,zfs];refine ih _ ⟨i/2,d,e+d,rfl,?_,by omega,by omega⟩ (by show((i/2:Nat):Int).toNat<(i:Int).toNat;omega);rw[show i/2=0 by omega,xdi]at hg⊢;omega
  ·rw[zx];rw[show i % 2=0 by omega,xdi,xch]at hg;by_cases h2:1<i
   ·have h3:d*1<=d*(i/2):=xaA d (by omega);rw[zN,za (mul d d ha ha),zf,zfs];refine ih _ ⟨i/2,d+d,e,rfl,?_,by omega,by omega⟩ (by show((i/2:Nat):Int).toNat<(i:Int).toNat;omega);rw[xaV];omega
   ·omega
 ·rw[zx];obtain rfl:i=0:=by omega
  rw[xdi,xch]at he;rw[he]
theorem sJ{n:Nat}{z:Zr}(h:zm z.2)(hl:z.2.length<=1000000)(hn:n<=65536)(hf:1000100<fu):
 QL fu z (n:Int)=some (if 262144<bl (nv z.2)*n then((false,[]),6)else(yE (zv z^n),0)):=by
 unfold QL;have hb:=Tb h hl;have hm:bl (nv z.2)*n<=64000000*65536:=xbE hb hn;have e:((bl (nv z.2):Nat):Int)*(n:Int)=((bl (nv z.2)*n:Nat):Int):=by simp
 rw[zx,zx,za rfl];simp only[xak,if_false];rw[za (Yu h (by omega) (by omega)),e,zd];by_cases h1:262144<bl (nv z.2)*n
 ·rw[zN,iq h1]
 ·rw[zx,ir h1,za (QW (by decide) (by omega)),za (Ks h (by omega) (by omega)),za (NH hn (by rw[kD];omega) (by omega))]
end
section
variable{d fu:Nat}{p:Int}
def vB(p:Nat):Prop:= ∀d,2<=d->d*d<=p->p % d≠0
open Classical in
noncomputable def wG(p:Int):Bool:=decide (2<=p/\p<=65521/\vB p.toNat)
open Classical in
theorem Mj{p:Int}(h:2<=p/\p<=65521/\vB p.toNat):wG p=true:=by unfold wG;exact decide_eq_true h
open Classical in
theorem dj{p:Int}(h: ¬(2<=p/\p<=65521/\vB p.toNat)):wG p=false:=by unfold wG;exact decide_eq_false h
theorem lY(d:Nat):(d:Int)*(d:Int)=((d*d:Nat):Int):=by simp
theorem Nk{p:Nat}(h:p<=65521)(hd:d<=300):d*d<=90000:=xao (xbE hd hd) (by decide)
theorem Mo{p:Nat}(h:p<=65521)(hd:d*d<=p):d<256:=by
 rcases xci d 256 with h1|h1
 ·exact h1
 ·have:=xbE h1 h1;omega
theorem IQ{p:Nat}(h:p<=65521)(hf:400<fu):(vB p->zj (kK fu (p:Int)) fu (true,2)=some true)/\(¬vB p->zj (kK fu (p:Int)) fu (true,2)=some false):=by
 constructor
 ·intro hn;refine zE (fun i:Bool×Int=> ∃d:Nat,i=(true,(d:Int))/\2<=d/\d<=256) (fun i=>300-i.2.toNat) _ ?_ _ _ ⟨2,rfl,by omega,by omega⟩ (by show 300-2<fu;omega);rintro i L ⟨d,rfl,h2,h3⟩ ih;unfold kK;simp only[if_true];have hs:=Nk h (d:=d) (by omega);rw[lY,zd];by_cases h4:d*d<=p
  ·have h5:=hn d h2 h4;have:=Mo h h4;have e:xbZ (p:Int) (d:Int)=((p % d:Nat):Int):=rfl;rw[zN,yG,zf,e,zx,zd];exact ih _ ⟨d+1,rfl,by omega,by omega⟩ (by show 300-((d:Int)+1).toNat<300-(d:Int).toNat;omega)
  ·rw[zx]
 ·intro hn;obtain⟨d0,ha⟩:=xfB.1 hn;obtain⟨hb,ha⟩:=xfm.1 ha;obtain⟨h4,h5⟩:=xfm.1 ha;have h5:p % d0=0:=Classical.not_not.1 h5;have h6:=Mo h h4;refine zE (fun i:Bool×Int=> ∃d:Nat,i=(true,(d:Int))/\2<=d/\d<=d0) (fun i=>300-i.2.toNat) _ ?_ _ _ ⟨2,rfl,by omega,by omega⟩ (by show 300-2<fu;omega);rintro i L ⟨d,rfl,h2,h3⟩ ih;unfold kK;simp only[if_true];have hs:=Nk h (d:=d) (by omega);have hc:=xbE h3 h3;rw[lY,zd];have e:xbZ (p:Int) (d:Int)=((p % d:Nat):Int):=rfl;rw[zN,yG,zf,e];by_cases h7:p % d=0
  ·rw[zN]
  ·rw[zx,zd];refine ih _ ⟨d+1,rfl,by omega,?_⟩ (by show 300-((d:Int)+1).toNat<300-(d:Int).toNat;omega);rcases xci d d0 with h8|h8
   ·exact h8
   ·exact absurd (by rw[show d=d0 by omega];exact h5) h7
theorem PQ{p:Nat}(h:p<=65521)(hf:400<fu):(vB p->zj (Zt fu (p:Int)) fu 2=some (.inl ()))/\(¬vB p->zj (Zt fu (p:Int)) fu 2=some (.inr ())):=by
 constructor
 ·intro hn;refine zE (fun i:Int=> ∃d:Nat,i=(d:Int)/\2<=d/\d<=256) (fun i=>300-i.toNat) _ ?_ _ _ ⟨2,rfl,by omega,by omega⟩ (by show 300-2<fu;omega);rintro i L ⟨d,rfl,h2,h3⟩ ih;unfold Zt;have hs:=Nk h (d:=d) (by omega);rw[lY,zd];by_cases h4:d*d<=p
  ·have h5:=hn d h2 h4;have:=Mo h h4;have e:xbZ (p:Int) (d:Int)=((p % d:Nat):Int):=rfl;rw[zN,yG,zf,e,zx,zd];exact ih _ ⟨d+1,by omega,by omega,by omega⟩ (by show 300-((d:Int)+1).toNat<300-(d:Int).toNat;omega)
  ·rw[zx]
 ·intro hn;obtain⟨d0,ha⟩:=xfB.1 hn;obtain⟨hb,ha⟩:=xfm.1 ha;obtain⟨h4,h5⟩:=xfm.1 ha;have h5:p % d0=0:=Classical.not_not.1 h5;have h6:=Mo h h4;refine zE (fun i:Int=> ∃d:Nat,i=(d:Int)/\2<=d/\d<=d0) (fun i=>300-i.toNat) _ ?_ _ _ ⟨2,rfl,by omega,by omega⟩ (by show 300-2<fu;omega);rintro i L ⟨d,rfl,h2,h3⟩ ih;unfold Zt;have hs:=Nk h (d:=d) (by omega);have hc:=xbE h3 h3;rw[lY,zd];have e:xbZ (p:Int) (d:Int)=((p % d:Nat):Int):=rfl;rw[zN,yG,zf,e];by_cases h7:p % d=0
  ·rw[zN]
  ·rw[zx,zd];refine ih _ ⟨d+1,by omega,by omega,?_⟩ (by show 300-((d:Int)+1).toNat<300-(d:Int).toNat;omega);rcases xci d d0 with h8|h8
   ·exact h8
   ·exact absurd (by rw[show d=d0 by omega];exact h5) h7
theorem YD(hf:400<fu):j9 fu p=some (wG p):=by
 unfold j9;have ha:zj (kK fu p) fu (false,2)=some false:=by
  obtain⟨k,rfl⟩: ∃k,fu=k+1:=⟨fu-1,by omega⟩;rfl
 by_cases h2:2<=p
 ·rw[iq h2];by_cases h3:p<=65521
  ·rw[iq h3,za rfl];obtain⟨q,rfl⟩:=xaC (by omega:0<=p);obtain⟨l1,l2⟩:=IQ (fu:=fu) (p:=q) (by omega) hf;by_cases h4:vB q
   ·rw[za (l1 h4),Mj (p:=(q:Int)) ⟨h2,h3,h4⟩]
   ·rw[za (l2 h4),dj (p:=(q:Int)) (fun h=>h4 h.2.2)]
  ·rw[ir h3,za rfl,za ha];rw[dj (fun h=>h3 h.2.1)]
 ·rw[ir h2,za rfl,za ha];rw[dj (fun h=>h2 h.1)]
theorem rA(hf:400<fu):a8 fu p=some (wG p):=by
 unfold a8;by_cases h2:p<2
 ·rw[iq h2];rw[dj (fun h=>by omega)]
 ·rw[ir h2];by_cases h3:65521<p
  ·rw[iq h3];rw[dj (fun h=>by omega)]
  ·rw[ir h3];obtain⟨q,rfl⟩:=xaC (by omega:0<=p);obtain⟨l1,l2⟩:=PQ (fu:=fu) (p:=q) (by omega) hf;by_cases h4:vB q
   ·rw[za (l1 h4),Mj (p:=(q:Int)) ⟨by omega,by omega,h4⟩]
   ·rw[za (l2 h4),dj (p:=(q:Int)) (fun h=>h4 h.2.2)]
noncomputable def dB(p k:Int):Zr×Int:=if wG p=true/\1<=k/\k<=1000 then(yE (p^k.toNat),0)else((false,[]),1)
theorem zo(h:wG p=true):2<=p/\p<=65521:=by
 refine xad fun hn=> ?_;rw[dj (fun h=>hn ⟨h.1,h.2.1⟩)]at h;cases h
theorem zfG(h:wG p=true):bl (nv (yE p).2)<=16:=by
 have:=zo h;refine Vh ?_;show nv (yI p.natAbs)<_;rw[z7];omega
theorem zcA{x:Int}(h:x.natAbs<18446744073709551616):(yE x).2.length<=1:=by
 show(yI _).length<=1;rw[zJ];omega
theorem jC{k:Int}(hf:3000000<fu):vn fu p k=some (dB p k):=by
 unfold vn dB;rw[za (YD (by omega))];by_cases h1:wG p=true
 ·have hr:=zo h1;rw[ir (by simp[h1])];by_cases h2:k<1
  ·rw[iq h2,ir (fun h=>by omega)]
  ·rw[ir h2];by_cases h3:1000<k
   ·rw[iq h3,ir (fun h=>by omega)]
   ·obtain⟨n,rfl⟩:=xaC (by omega:0<=k);have hl:=zcA (x:=p) (by omega);have hb:bl (nv (yE p).2)*n<=16*1000:=xbE (zfG h1) (by omega);rw[ir h3,if_pos ⟨h1,by omega,by omega⟩,za (QW ⟨by omega,by omega⟩ (by omega)),za (sJ (yU p) (by omega) (by omega) (by omega)),zx,zu];rfl
 ·rw[iq (by simp[h1]),ir (fun h=>h1 h.1)]
end
section
variable{fu k j:Nat}{a b:Zr}{x y:Int}
theorem JY{a b:Int}:jB fu a b=some (kG a b):=by
 unfold jB uw;rw[iq rfl,iq rfl,za rfl,za rfl];simp only[xak,if_false];by_cases h:a<b
 ·rw[iq h,qU h]
 ·rw[ir h];by_cases h2:b<a
  ·rw[iq h2,vE h2]
  ·rw[ir h2,ug (by omega)]
theorem Qh{a b:Nat}:vM fu a b=some (kG a b):=by
 unfold vM qZ;rw[iq rfl,iq rfl,za rfl,za rfl];simp only[xak,if_false];by_cases h:(a:Int)<b
 ·rw[iq h,qU h]
 ·rw[ir h];by_cases h2:(b:Int)<a
  ·rw[iq h2,vE h2]
  ·rw[ir h2,ug (by omega)]
theorem Jd{a b:List Nat}(ha:zm a)(hb:zm b)(he:a.length<=1000000)(hg:b.length<=1000000)(hf:2000000<fu):Wy fu a b=some (kG (nv a:Nat) (nv b:Nat)):=by
 unfold Wy;have h1:=xQ ha;have h2:=xQ hb;rw[za (xz ha (by omega) (by omega)),za (xz hb (by omega) (by omega))];generalize nv a=x at*
 generalize nv b=y at*
 by_cases h:(yI x).length=(yI y).length
 ·rw[zN,zd];by_cases hc:x=y
  ·subst hc;rw[za (v:= .inl ())]
   ·rw[ug rfl]
   ·refine zE (fun i:Int=> ∃m:Nat,i=(m:Int)-1/\m<=(yI x).length) (fun i=>(i+1).toNat) _ ?_ _ _ ⟨_,rfl,xac _⟩ (by omega);rintro i L ⟨m,rfl,hm⟩ ih;unfold K0;by_cases h0:m=0
    ·rw[zx]
    ·have e:(m:Int)-1=((m-1:Nat):Int):=by omega
     rw[zN,e,yB,zf,yB,zf,iq rfl,zd];exact ih _ ⟨m-1,rfl,by omega⟩ (by omega)
  ·rw[za (v:= .inr (kG x y))];refine zE (fun i:Int=> ∃m:Nat,i=(m:Int)-1/\m<=(yI x).length/\x/18446744073709551616^m=y/18446744073709551616^m) (fun i=>(i+1).toNat) _ ?_ _ _ ⟨_,rfl,xac _,zab h⟩ (by omega);rintro i L ⟨m,rfl,hm,ht⟩ ih;unfold K0;by_cases h0:m=0
   ·subst h0;rw[xeU,xeQ,xeQ]at ht;exact absurd ht hc
   ·have e:(m:Int)-1=((m-1:Nat):Int):=by omega
    rw[zN,e,yB,zf,yB,zf];by_cases hd:(yI x).getD (m-1) 0=(yI y).getD (m-1) 0
    ·rw[iq (by rw[hd]),zd];exact ih _ ⟨m-1,rfl,by omega,RV (by omega) ht hd⟩ (by omega)
    ·rw[zx,yB,zf,yB,zf,za Qh,Oj (by omega) ht hd]
 ·rw[zx,za JY,zb1 h]
def gI(z:Zr):Prop:=zm z.2/\z.2.length<=100000
def Bz(k:Nat)(x:Int):Prop:=x.natAbs<18446744073709551616^k
theorem Bz.ok(h:Bz k x)(hk:k<=100000):gI (yE x):=⟨yU x,xao ((zJ _ _).2 h) hk⟩
theorem Bz.of{z:Zr}(h:zm z.2):Bz z.2.length (zv z):=by
 unfold Bz;rw[kD];exact jz h
theorem Bz.mono(h:Bz j x)(hk:j<=k):Bz k x:=xap h (xaK (by decide) hk)
theorem gI.bz{z:Zr}(h:gI z):Bz 100000 (zv z):=(Bz.of h.1).mono h.2
theorem Bz.neg(h:Bz k x):Bz k (-x):=by unfold Bz at*;rw[Int.natAbs_neg];exact h
theorem Bz.add(hx:Bz k x)(hy:Bz k y):Bz (k+1) (x+y):=by
 unfold Bz at*
 have:=Int.natAbs_add_le x y;rw[xbu];omega
theorem Bz.sub(hx:Bz k x)(hy:Bz k y):Bz (k+1) (x-y):=by
 rw[Int.sub_eq_add_neg];exact hx.add hy.neg
theorem Bz.mul(hx:Bz j x)(hy:Bz k y):Bz (j+k) (x*y):=by
 unfold Bz at*
 rw[xcb,xbW];exact xdK hx hy
theorem Bz.le(hy:Bz k y)(h:x.natAbs<=y.natAbs):Bz k x:=xbd h hy
theorem qG(z:Zr):(z.1=true/\zv z= -((nv z.2:Nat):Int))\/(z.1=false/\zv z=((nv z.2:Nat):Int)):=by
 unfold zv;cases z.1
 ·exact .inr ⟨rfl,rfl⟩
 ·exact .inl ⟨rfl,rfl⟩
theorem um{z:Zr}(h:gI z)(hf:3000000<=fu):vR fu z=some (yE (zv z)):=Ks h.1 (by have:=h.2;omega) (by have:=h.2;omega)
theorem UO{z:Zr}(h:gI z)(hf:3000000<=fu):uA fu z=some (yE (-zv z)):=by
 unfold uA;have:=h.2;rw[za (yf h.1 (by omega) (by omega))];rcases qG z with⟨h1,h2⟩|⟨h1,h2⟩<;>rw[h1,h2]<;>simp
theorem vW(ha:gI a)(hb:gI b)(hf:3000000<=fu):vi fu a b=some (yE (zv a+zv b)):=by
 unfold vi;have la:=ha.2;have lb:=hb.2;have hg:(yI (nv a.2+nv b.2)).length<=100001:=Xd (xao (xQ ha.1) la) (xao (xQ hb.1) lb);rw[zf];by_cases hs:a.1=b.1
 ·rw[iq (by simp[hs]),za (kI ha.1 hb.1 (by omega) (by omega) (by omega)),za (yf (zw _) (by omega) (by omega)),z7];rcases qG a with⟨h1,h2⟩|⟨h1,h2⟩<;>rcases qG b with⟨h3,h4⟩|⟨h3,h4⟩
  ·rw[h1,h2,h4,iq rfl];congr 2;omega
  ·rw[h1,h3]at hs;cases hs
  ·rw[h1,h3]at hs;cases hs
  ·rw[h1,h2,h4,ir (by decide)];congr 2
 ·rw[ir (by simp[hs])];rw[za (Jd ha.1 hb.1 (by omega) (by omega) (by omega))];by_cases hc:nv a.2<nv b.2
  ·have hd:(yI (nv b.2-nv a.2)).length<=100000:=xao (Ko (Nat.sub_le _ _)) (xao (xQ hb.1) lb);rw[qU (by omega),iq (by decide),za rfl];simp only;rw[za (XX hb.1 ha.1 (by omega) (by omega) (by omega)),zx];simp only;rw[za (yf (zw _) (by omega) (by omega)),z7];rcases qG a with⟨h1,h2⟩|⟨h1,h2⟩<;>rcases qG b with⟨h3,h4⟩|⟨h3,h4⟩<;>rw[h3,h2,h4]<;>simp_all
   ·congr 1;omega
   ·congr 1;omega
  ·have hd:(yI (nv a.2-nv b.2)).length<=100000:=xao (Ko (Nat.sub_le _ _)) (xao (xQ ha.1) la);have he: ¬kG ((nv a.2:Nat):Int) ((nv b.2:Nat):Int)<0:=by
    rcases xci (nv b.2) (nv a.2)with h|h
    ·rw[vE (by omega)];decide
    ·rw[ug (by omega)];decide
   rw[ir he,za rfl];simp only;rw[za (XX ha.1 hb.1 (by omega) (by omega) (by omega)),zx];simp only;rw[za (yf (zw _) (by omega) (by omega)),z7];rcases qG a with⟨h1,h2⟩|⟨h1,h2⟩<;>rcases qG b with⟨h3,h4⟩|⟨h3,h4⟩<;>rw[h1,h2,h4]<;>simp_all
   ·congr 1;omega
   ·congr 1;omega
theorem vU(ha:gI a)(hb:gI b)(hf:3000000<=fu):vV fu a b=some (yE (zv a-zv b)):=by
 unfold vV;have h1:=(Bz.neg hb.bz).ok (xac _);rw[za (UO hb hf),za (vW ha h1 hf),zu];congr 2
theorem AV:0<(((yE x).2.length:Nat):Int)↔x≠0:=by
 have:= @AG x.natAbs;have h2:(yE x).2=yI x.natAbs:=rfl;rw[h2];constructor
 ·intro h e;subst e;rw[show yI (Int.natAbs 0)=[]from rfl]at h;simp at h
 ·intro h;have:=vD (n:=x.natAbs) (by omega);omega
theorem lA(x:Int):(yE x).1=true↔x<0:=by unfold yE;simp
theorem xe{z:Zr}(h:gI z)(hf:3000000<=fu):xr fu z=some (kG (zv z) 0):=by
 unfold xr;rw[za (um h hf)];by_cases h1:zv z<0
 ·rw[iq ((lA _).2 h1),zd,zd,qU h1];rfl
 ·rw[ir (fun e=>h1 ((lA _).1 e))];by_cases h2:zv z=0
  ·rw[ir (fun e=>AV.1 e h2),ug h2]
  ·rw[iq (AV.2 h2),zd,vE (by omega)];rfl
theorem zae(x y:Int):kG (x-y) 0=kG x y:=by
 rcases xeA x y with h|h|h
 ·rw[qU (by omega),qU h]
 ·rw[ug (by omega),ug h]
 ·rw[vE (by omega),vE h]
theorem ue(ha:gI a)(hb:gI b)(hf:3000000<=fu)(hl:a.2.length<=99999)(hc:b.2.length<=99999):qY fu a b=some (kG (zv a) (zv b)):=by
 unfold qY;have h1:=((Bz.of ha.1).mono hl).sub ((Bz.of hb.1).mono hc);rw[za (vU ha hb hf),za (xe (h1.ok (xac _)) hf),zu,zae]
theorem ye(ha:gI a)(hb:gI b)(hf:3000000<=fu):zO fu a b=some (yE (zv a*zv b)):=by
 have:=ha.2;have:=hb.2;exact U4 ha.1 hb.1 (by omega) (by omega) (by omega)
theorem z8(h:VW x)(hf:3000000<=fu):zZ fu x=some (yE x):=QW h (by omega)
end
section
variable{b v1 v0 u w q r fu x y s lo:Nat}
theorem TW(ha:q*v1+r=u)(h:q*v0<=b*r+w):q*(v1*b+v0)<=u*b+w:=by
 have e:q*(v1*b+v0)=q*v1*b+q*v0:=by rw[xbm,xbe]
 have e2:u*b+w=q*v1*b+(b*r+w):=by rw[<-ha,xaV,xba r b];omega
 omega
theorem OM(ha:q*v1+r=u)(h:b*r+w<q*v0):u*b+w<q*(v1*b+v0):=by
 have e:q*(v1*b+v0)=q*v1*b+q*v0:=by rw[xbm,xbe]
 have e2:u*b+w=q*v1*b+(b*r+w):=by rw[<-ha,xaV,xba r b];omega
 omega
theorem dW(hv:0<v1*b+v0)(ha:q*v1+r=u)(hb:(u*b+w)/(v1*b+v0)<=q)(h:q*v0<=b*r+w):q=(u*b+w)/(v1*b+v0):=
 xcR ((xct hv).2 (TW ha h)) hb
theorem Tx(hv:0<v1*b+v0)(ha:q*v1+r=u)(h:b*r+w<q*v0):(u*b+w)/(v1*b+v0)<=q-1/\0<q/\(q-1)*v1+(r+v1)=u:=by
 have h0:0<q:=by
  rcases xcN q with h0|h0
  ·subst h0;omega
  ·exact h0
 have h1:=(xbf hv).2 (OM ha h);refine⟨by omega,h0,?_⟩;obtain⟨p,rfl⟩: ∃p,q=p+1:=⟨q-1,by omega⟩;rw[xaV]at ha;simp only[xeo];omega
theorem HZ(hu:u<v1*b+v0)(ha:v0<b)(hb:q*v1+r=u)(hr:b<=r):q<b:=by
 refine xdJ fun h=> ?_;have:b*v1<=q*v1:=xar _ h;rw[xba b]at this;omega
theorem Hb(hq:q<b)(ha:v0<b)(hr:b<=r):q*v0<=b*r+w:=by
 have h1:q*v0<=b*b:=xbE (xcO hq) (xcO ha);have h2:b*b<=b*r:=xaA _ hr;omega
theorem Q2(hu:u<v1*b+v0)(hw:w<b):(u*b+w)/(v1*b+v0)<b:=by
 have hv:0<v1*b+v0:=by omega
 rw[xbf hv];have:(u+1)*b<=(v1*b+v0)*b:=xar _ hu;rw[xaV]at this;rw[xba b];omega
theorem oo{β:Type}(mk:Nat->Nat->β)(ms:β->Nat)(hc: ∀q r,ms (mk q r)=2-r/2147483648){f:(β->Option Nat)->β->Option Nat}(h1:2147483648<=v1)(h2:v1<4294967296)(h0:v0<4294967296)(hu:u<v1*4294967296+v0)(hw:w<4294967296)(hf:10<fu)(he: ∀(q r:Nat) (L:β->Option Nat),q<18446744073709551616->r<4294967296->q*v0<18446744073709551616\/4294967296<=q->
 f L (mk q r)=if 4294967296<=q then(if 4294967296<=r+v1 then some (q-1)else L (mk (q-1) (r+v1)))else if 4294967296*r+w<q*v0 then(if 4294967296<=r+v1 then some (q-1)else L (mk (q-1) (r+v1)))else some q):
 zj f fu (mk (u/v1) (u % v1))=some ((u*4294967296+w)/(v1*4294967296+v0)):=by
 have hv:0<v1*4294967296+v0:=by omega
 have hQ:=Q2 hu hw;have hi:u/v1<18446744073709551616:=by
  rw[xbf (by omega)];have:v1*4294967296+v0<18446744073709551616*1:=by omega
  have h3:18446744073709551616*1<=18446744073709551616*v1:=xaA _ (by omega);omega
 refine zE (fun s:β=> ∃q r,s=mk q r/\q<18446744073709551616/\r<4294967296/\q*v1+r=u/\(u*4294967296+w)/(v1*4294967296+v0)<=q) ms _ ?_ _ _ ⟨_,_,rfl,hi,?_,?_,?_⟩ (by rw[hc];omega)
 ·rintro s L ⟨q,r,rfl,hq,hr,hg,hj⟩ ih;have hk:q*v0<18446744073709551616\/4294967296<=q:=by
   rcases xci q 4294967296 with h|h
   ·left;exact xdK (a:=q) (b:=v0) (c:=4294967296) (d:=4294967296) h h0
   ·exact .inr h
  rw[he q r L hq hr hk];by_cases hb:4294967296<=q
  ·rw[iq hb];have hd:(q-1)*v1+(r+v1)=u:=by
    obtain⟨p,rfl⟩: ∃p,q=p+1:=⟨q-1,by omega⟩;rw[xaV]at hg;simp only[xeo];omega
   by_cases ha:4294967296<=r+v1
   ·rw[iq ha,<-dW hv hd (by omega) (Hb (HZ hu h0 hd ha) h0 ha)]
   ·rw[ir ha];exact ih _ ⟨_,_,rfl,by omega,by omega,hd,by omega⟩ (by rw[hc,hc];omega)
  ·rw[ir hb];by_cases ht:4294967296*r+w<q*v0
   ·obtain⟨d1,d2,d3⟩:=Tx hv hg ht;rw[iq ht];by_cases ha:4294967296<=r+v1
    ·rw[iq ha,<-dW hv d3 d1 (Hb (HZ hu h0 d3 ha) h0 ha)]
    ·rw[ir ha];exact ih _ ⟨_,_,rfl,by omega,by omega,d3,d1⟩ (by rw[hc,hc];omega)
   ·rw[ir ht,<-dW hv hg hj (by omega)]
 ·have:=xbq u (show 0<v1 by omega);omega
 ·rw[xba];exact xbD u v1
 ·rw[xct (by omega)];have h3:(u*4294967296+w)/(v1*4294967296+v0)*(v1*4294967296+v0)<=u*4294967296+w:=xdn _ _;generalize(u*4294967296+w)/(v1*4294967296+v0)=Q at*
  rw[xbm,<-xbe]at h3;generalize Q*v1=A at*
  omega
theorem Ll(h:y<2^s):x*2^s|||y=x*2^s+y:=by
 rw[xba];exact(Nat.two_pow_add_eq_or_of_lt h x).symm
theorem Er(h0:0<y)(h:y<18446744073709551616):bl y<=64/\9223372036854775808<=y*2^(64-bl y)/\y*2^(64-bl y)<18446744073709551616:=by
 have h1:bl y<=64:=Vh (k:=64) (by simpa using h);have h2:=mZ y;refine⟨h1,?_,?_⟩
 ·have hp:1<=bl y:=by rw[Jq h0];omega
  have ha:2^(bl y-1)<=y:=by
   refine xbw fun hb=> ?_;have:=Vh hb;omega
  have e:(9223372036854775808:Nat)=2^(bl y-1)*2^(64-bl y):=by rw[<-xbW,show bl y-1+(64-bl y)=63 by omega]
  rw[e];exact xar _ ha
 ·have e:(18446744073709551616:Nat)=2^bl y*2^(64-bl y):=by rw[<-xbW,show bl y+(64-bl y)=64 by omega]
  rw[e];exact xbT h2 (xbp (by decide))
theorem EB(ha:lo<18446744073709551616)(hs:s<=64):lo*2^s=lo/2^(64-s)*18446744073709551616+lo*2^s % 18446744073709551616/\lo/2^(64-s)<2^s:=by
 have e:(18446744073709551616:Nat)=2^(64-s)*2^s:=by rw[<-xbW,show 64-s+s=64 by omega]
 have hp:0<2^s:=xbp (by decide);have e2:lo*2^s/18446744073709551616=lo/2^(64-s):=by rw[e,xfu _ _ hp]
 have h:=xbD (lo*2^s) 18446744073709551616;rw[e2]at h;refine⟨by omega,?_⟩;rw[xbf (xbp (by decide)),xba,<-e];exact ha
theorem aD{w1 w0:Nat}(hy:0<y)(hb:0<b)(ha:w0<b):((x*b+w1)*b+w0)/y=(x*b+w1)/y*b+((x*b+w1) % y*b+w0)/y/\((x*b+w1)*b+w0) % y=((x*b+w1) % y*b+w0) % y:=by
 generalize x*b+w1=X;have h:=xbD X y;have e:X*b+w0=X % y*b+w0+y*(X/y*b):=by
  conv=>lhs;rw[<-h]
  rw[xaV,xbe];omega
 rw[e];constructor
 ·rw[xdx _ _ hy];omega
 ·rw[xcQ]
theorem zhh{a:Nat}(ha:a<4294967296)(hb:b<4294967296):(a*4294967296 % 18446744073709551616+b) % 18446744073709551616=a*4294967296+b:=by omega
theorem qK(hx:x<18446744073709551616):xc fu x=some ((64-bl x:Nat):Int):=by
 unfold xc;have h:bl x<=64:=Vh (k:=64) (by simpa using hx);rw[za (vH hx),zd];congr 1;omega
theorem Xc{hi:Nat}(hn:lo<18446744073709551616)(hy:y<18446744073709551616)(hh:hi<y)(hf:10<fu):
 vQ fu hi lo y=some ((hi*18446744073709551616+lo)/y,(hi*18446744073709551616+lo) % y):=by
 unfold vQ;rw[zx,zx];by_cases h0:hi=0
 ·subst h0;rw[iq rfl,yG,zf,yG,zf,xcI,xaT]
 ·rw[zx,za (qK hy)];obtain⟨n1,n2,n3⟩:=Er (y:=y) (by omega) hy;obtain⟨s,hs⟩: ∃s,s=64-bl y:=⟨_,rfl⟩;rw[<-hs]at n2 n3⊢;have hk:s<=64:=by omega
  have eu:gB (s:Int)=s:=by have:=nH (x:=(s:Int)) (by omega) (by omega);omega
  have em:min (s:Int).toNat 64=s:=by omega
  have e8:(64+18446744073709551616-s) % 18446744073709551616=64-s:=by omega
  have em2:min (((64-s:Nat):Nat):Int).toNat 64=64-s:=by omega
  obtain⟨Y,hY⟩: ∃Y,Y=y*2^s:=⟨_,rfl⟩;rw[<-hY]at n2 n3;obtain⟨w1,w2⟩:=EB hn hk;have hp:0<2^s:=xbp (by decide);have hx:hi*2^s+2^s<=Y:=by
   have:(hi+1)*2^s<=y*2^s:=xar _ hh;rw[xaV,xcn]at this;rw[hY];exact this
  simp only[nm,eu,em,e8,em2,zdx,zdU];rw[<-hY,xaF n3,xaF (show hi*2^s<18446744073709551616 by omega),Ll w2];obtain⟨u,hu⟩: ∃u,u=hi*2^s+lo/2^(64-s):=⟨_,rfl⟩;obtain⟨t,ht⟩: ∃t,t=lo*2^s % 18446744073709551616:=⟨_,rfl⟩;have hv:t<18446744073709551616:=by rw[ht];exact xbq _ (by decide)
  rw[<-hu,<-ht];have hd:u<Y:=by omega
  have ho:(hi*18446744073709551616+lo)*2^s=u*18446744073709551616+t:=by
   rw[xaV,w1,hu,<-ht,xaV,Nat.mul_right_comm];omega
  have he:Y=Y/4294967296*4294967296+Y % 4294967296:=by omega
  have a1:2147483648<=Y/4294967296:=by omega
  have a2:Y/4294967296<4294967296:=by omega
  have a0:Y % 4294967296<4294967296:=by omega
  have step: ∀{u w:Nat},u<Y->w<4294967296->(u*4294967296+w)/(Y/4294967296*4294967296+Y % 4294967296)=(u*4294967296+w)/Y:=by intro u w _ _;rw[<-he]
  have ew:Y/2^32=Y/4294967296:=rfl;have et:t/2^32=t/4294967296:=rfl;rw[ew,et,yG];have m15: ∀{u:Nat},u<Y->(u+18446744073709551616-u/(Y/4294967296)*(Y/4294967296) % 18446744073709551616) % 18446744073709551616=u % (Y/4294967296):=by
   intro u hu;have h1:=xbD u (Y/4294967296);rw[xba]at h1;have h2:u/(Y/4294967296)*(Y/4294967296)<=u:=by omega
   rw[xaF (show u/(Y/4294967296)*(Y/4294967296)<18446744073709551616 by omega)];omega
  have body: ∀{q r w:Nat},q<18446744073709551616->r<4294967296->w<4294967296->(q*(Y % 4294967296)<18446744073709551616\/4294967296<=q)-> ∀(A B C:Option Nat),(4294967296<=r+Y/4294967296->A=some (q-1))->(¬4294967296<=r+Y/4294967296->A=B)->C=some q->
   (if((4294967296:Nat):Int)<=(q:Int)then A else if(((4294967296*r % 18446744073709551616+w) % 18446744073709551616:Nat):Int)<((q*(Y % 4294967296) % 18446744073709551616:Nat):Int)then A else C)=
   if 4294967296<=q then(if 4294967296<=r+Y/4294967296 then some (q-1)else B)else if 4294967296*r+w<q*(Y % 4294967296)then(if 4294967296<=r+Y/4294967296 then some (q-1)else B)else some q:=by
   intro q r w hq hr hw hg A B C h1 h2 h3;have hA:A=if 4294967296<=r+Y/4294967296 then some (q-1)else B:=by
    split
    ·next h=>exact h1 h
    ·next h=>exact h2 h
   rw[<-hA,h3];by_cases hb:4294967296<=q
   ·rw[zN,iq hb]
   ·have e3:(q*(Y % 4294967296)) % 18446744073709551616=q*(Y % 4294967296):=xaF (hg.resolve_right hb);have e4:(4294967296*r % 18446744073709551616+w) % 18446744073709551616=4294967296*r+w:=by omega
    rw[zx,ir hb,e3,e4];by_cases h4:4294967296*r+w<q*(Y % 4294967296)
    ·rw[zN,iq h4]
    ·rw[zx,ir h4]
  have L0:zj (qi fu (Y/4294967296) (Y % 4294967296) (t/4294967296)) fu (u/(Y/4294967296),u % (Y/4294967296))=some ((u*4294967296+t/4294967296)/Y):=by
   rw[<-step hd (by omega:t/4294967296<4294967296)];refine oo (fun q r=>(q,r)) (fun s=>2-s.2/2147483648) (fun _ _=>rfl) (w:=t/4294967296) a1 a2 a0 (by rw[<-he];exact hd) (by omega) hf ?_;intro q r L hq hr hg;have e1:(r+Y/4294967296) % 18446744073709551616=r+Y/4294967296:=by omega
   by_cases hc:q=0
   ·subst hc;unfold qi;simp only[nm,xcI,Nat.zero_mod];rw[zx,zx,zx,zx]
   have e2:(q+18446744073709551616-1) % 18446744073709551616=q-1:=by omega
   refine Eq.trans ?_ (body hq hr (by omega) hg (if 4294967296<=r+Y/4294967296 then some (q-1)else L (q-1,r+Y/4294967296)) _ _ (fun h=>iq h) (fun h=>ir h) rfl);unfold qi;simp only[nm,e1,e2];have e5: ∀(X:Option Nat),(if((4294967296:Nat):Int)<=((r+Y/4294967296:Nat):Int)then some (q-1)else X)=if 4294967296<=r+Y/4294967296 then some (q-1)else X:=by
    intro X;by_cases h:4294967296<=r+Y/4294967296
    ·rw[zN,iq h]
    ·rw[zx,ir h]
   rw[e5]
  have rem: ∀{x q:Nat},x/Y=q-> ∀{m:Nat},m=x % 18446744073709551616->(m+18446744073709551616-q*Y % 18446744073709551616) % 18446744073709551616=x % Y:=by
   intro x q hq m hm;have h1:=xbD x Y;rw[hq,xba]at h1;have h2:=xbq x (show 0<Y by omega);omega
  rw[m15 hd,za L0,rem rfl (x:=u*4294967296+t/4294967296) (by omega)];obtain⟨u2,hj⟩: ∃u2,u2=(u*4294967296+t/4294967296) % Y:=⟨_,rfl⟩;have ha:u2<Y:=by rw[hj];exact xbq _ (by omega)
  rw[<-hj,yG,m15 ha];have L1:zj (qp fu (Y/4294967296) (Y % 4294967296) (t % 4294967296)) fu (u2 % (Y/4294967296),u2/(Y/4294967296))=some ((u2*4294967296+t % 4294967296)/Y):=by
   rw[<-step ha (by omega:t % 4294967296<4294967296)];refine oo (fun q r=>(r,q)) (fun s=>2-s.1/2147483648) (fun _ _=>rfl) (w:=t % 4294967296) a1 a2 a0 (by rw[<-he];exact ha) (by omega) hf ?_;intro q r L hq hr hg;have e1:(r+Y/4294967296) % 18446744073709551616=r+Y/4294967296:=by omega
   by_cases hc:q=0
   ·subst hc;unfold qp;simp only[nm,xcI,Nat.zero_mod];rw[zx,zx,zx,zx]
   have e2:(q+18446744073709551616-1) % 18446744073709551616=q-1:=by omega
   refine Eq.trans ?_ (body hq hr (by omega) hg (if 4294967296<=r+Y/4294967296 then some (q-1)else L (r+Y/4294967296,q-1)) _ _ (fun h=>iq h) (fun h=>ir h) rfl);unfold qp;simp only[nm,e1,e2];have e5: ∀(X:Option Nat),(if((4294967296:Nat):Int)<=((r+Y/4294967296:Nat):Int)then some (q-1)else X)=if 4294967296<=r+Y/4294967296 then some (q-1)else X:=by
    intro X;by_cases h:4294967296<=r+Y/4294967296
    ·rw[zN,iq h]
    ·rw[zx,ir h]
   rw[e5]
  rw[za L1,rem rfl (x:=u2*4294967296+t % 4294967296) (by omega)];have hl:=Q2 (b:=4294967296) (v1:=Y/4294967296) (v0:=Y % 4294967296) (u:=u) (w:=t/4294967296) (by rw[<-he];exact hd) (by omega);rw[step hd (by omega)]at hl;have hc:=Q2 (b:=4294967296) (v1:=Y/4294967296) (v0:=Y % 4294967296) (u:=u2) (w:=t % 4294967296) (by rw[<-he];exact ha) (by omega);rw[step ha (by omega)]at hc;obtain⟨k1,k2⟩:=aD (x:=u) (b:=4294967296) (y:=Y) (w1:=t/4294967296) (w0:=t % 4294967296) (by omega) (by decide) (by omega);rw[<-hj]at k1 k2;have eU:(u*4294967296+t/4294967296)*4294967296+t % 4294967296=(hi*18446744073709551616+lo)*2^s:=by rw[ho];omega
  rw[eU,hY,xfu _ _ hp,<-hY]at k1;rw[eU,hY,xev,<-hY]at k2;rw[k1,<-k2,Nat.mul_div_cancel _ hp];rw[zhh hl hc]
end
section
variable{x fu s:Nat}{a:List Nat}
theorem Nb{m:Nat}{l:List Nat}:(xaf (m+1) 0++l).set m x=xaf m 0++(x::l):=by
 rw[List.replicate_succ',xal];rw[xft _ _ (by simp)];simp
theorem sR(k n:Nat):wv (k+1) n=n % 18446744073709551616::wv k (n/18446744073709551616):=rfl
theorem dU{q r:Nat}(h:r<18446744073709551616):(q*18446744073709551616+r) % 18446744073709551616=r/\(q*18446744073709551616+r)/18446744073709551616=q:=by omega
theorem ek(A m:Nat):A/18446744073709551616^m=A/18446744073709551616^(m+1)*18446744073709551616+A/18446744073709551616^m % 18446744073709551616:=by
 have:=J2 A 18446744073709551616 m (by decide);omega
theorem ra(ha:zm a)(hx:x<18446744073709551616)(h0:0<x)(hl:a.length<=1000000)(hf:2000000<fu):YP fu a x=some (yI (nv a/x),nv a % x):=by
 unfold YP;rw[yO,yG,zf,zd];have hA:=jz ha;have key:zj (VZ fu a x) fu (0,(a.length:Int)-1,xaf a.length 0)=some (nv a % x,wv a.length (nv a/x)):=by
  refine zE (fun s:Nat×Int×List Nat=> ∃m:Nat,m<=a.length/\s=(nv a/18446744073709551616^m % x,(m:Int)-1,xaf m 0++wv (a.length-m) (nv a/18446744073709551616^m/x))) (fun s=>(s.2.1+1).toNat) _ ?_ _ _ ⟨a.length,xac _,?_⟩ (by show((a.length:Int)-1+1).toNat<fu;omega)
  ·rintro s L ⟨m,hm,rfl⟩ ih;unfold VZ;simp only
   cases m with
   |zero=>
    rw[zx,xeU,xeQ];simp
   |succ m=>
    have e:((m+1:Nat):Int)-1=(m:Int):=by omega
    have hb:=ha.getD m;have hd:nv a/18446744073709551616^(m+1) % x<x:=xbq _ h0;have hy:a.getD m 0=nv a/18446744073709551616^m % 18446744073709551616:=QV ha m;have hs:=ek (nv a) m;rw[<-hy]at hs;rw[zN,e,yB,zf,za (Xc hb hx hd (by omega))];obtain⟨k1,k2⟩:=aD (x:=0) (b:=18446744073709551616) (y:=x) (w1:=nv a/18446744073709551616^(m+1)) (w0:=a.getD m 0) h0 (by decide) hb;rw[xcI,xaT,<-hs]at k1 k2;rw[zp (by simp;omega),zf,zd,Nb,<-k2];refine ih _ ⟨m,by omega,?_⟩ (by show((m:Int)-1+1).toNat<(((m+1:Nat):Int)-1+1).toNat;omega);have hq:(nv a/18446744073709551616^(m+1) % x*18446744073709551616+a.getD m 0)/x<18446744073709551616:=by
     rw[xbf h0];have:(nv a/18446744073709551616^(m+1) % x+1)*18446744073709551616<=x*18446744073709551616:=xar _ hd;rw[xba 18446744073709551616 x];omega
    have e2:a.length-m=(a.length-(m+1))+1:=by omega
    rw[k1,e2,sR];congr 3;rw[(dU hq).1,(dU hq).2]
  ·rw[xcc hA,Nat.zero_div,Nat.zero_mod,xcW];simp[wv]
 rw[za key];have hc:nv a/x<18446744073709551616^a.length:=xbd (xdW _ _) hA;simp only;rw[za (yX (xI _ _) (by rw[yc];omega) (by rw[yc];omega)),jD,xaF hc]
theorem Ae(hs:s<=64):(18446744073709551616:Nat)=2^(64-s)*2^s:=by rw[<-xbW,show 64-s+s=64 by omega]
theorem EC{y c:Nat}(hy:y<18446744073709551616)(hs:s<64)(hc:c<2^s):y*2^s % 18446744073709551616|||c=(y*2^s+c) % 18446744073709551616/\y/2/2^(63-s)=(y*2^s+c)/18446744073709551616/\(y*2^s+c)/18446744073709551616<2^s:=by
 obtain⟨w1,w2⟩:=EB hy (xcO hs);have hp:0<2^s:=xbp (by decide);have e:=Ae (xcO hs);have e3:y*2^s % 18446744073709551616=y % 2^(64-s)*2^s:=by rw[e,xev]
 have h1:y % 2^(64-s)*2^s+2^s<=18446744073709551616:=by
  rw[e];have:=xar (2^s) (xbq y (xbp (n:=64-s) (show 0<2 by decide)));rw[Nat.succ_mul]at this;exact this
 have e4:y/2/2^(63-s)=y/2^(64-s):=by rw[xaY,show 64-s=63-s+1 by omega,xbu,xba 2]
 refine⟨?_,?_,?_⟩
 ·rw[e3,Ll hc];rw[e3]at w1;generalize y % 2^(64-s)*2^s=A at*
  generalize y*2^s=Z at*
  generalize y/2^(64-s)=W at*
  omega
 ·rw[e4];rw[e3]at w1;generalize y % 2^(64-s)*2^s=A at*
  generalize y*2^s=Z at*
  generalize y/2^(64-s)=W at*
  omega
 ·rw[e3]at w1;generalize y % 2^(64-s)*2^s=A at*
  generalize y*2^s=Z at*
  generalize y/2^(64-s)=W at*
  omega
theorem aG{a:List Nat}{s:Nat}(ha:zm a)(hs:s<64): ∀k,(xY (QS a (2^s)) k).2<2^s
 |0=>xbp (by decide)
 |k+1=>(EC (ha.getD k) hs (aG ha hs k)).2.2
theorem mH:(2:Nat)^64=18446744073709551616:=by decide
theorem X7{n:Nat}(ha:zm a)(hl:a.length<=1000000)(hn:n<=262144)(hf:2000000<fu):Yn fu a (n:Int)=some (yI (nv a*2^n),0):=by
 unfold Yn;obtain⟨s,hs⟩: ∃s,s=n % 64:=⟨_,rfl⟩;have hb:s<64:=by omega
 rw[zx,zx,za (qC (step:=QS a (2^s)) (by omega) (by omega) ?_)]
 ·have he:=aG ha hb a.length;have hd:2^s<18446744073709551616:=by rw[<-mH];exact xeF (by decide) hb
  have e1:xda (n:Int) 64=((n/64:Nat):Int):=rfl;simp only;rw[q9 (by have:=xF (QS a (2^s)) a.length;simp[this];omega),zf,q9 (by decide),e1,zd,Ez (by omega)];rw[za (WI (by omega) (by rw[yc];omega)),za (yX ((zm.replicate _).append (xI _ _)) (by simp[yc];omega) (by simp[yc];omega)),pC,jD,xaF (pk ha hd)];congr 3;rw[<-mH,<-xdc,xba (2^_),xbe,<-xbW];congr 2;omega
 ·intro k hk;have hc:=aG ha hb k;obtain⟨l1,l2,l3⟩:=EC (ha.getD k) hb hc;unfold KP;have e1:xbZ (n:Int) 64=((n % 64:Nat):Int):=rfl;have m1:min (((1:Nat):Int)).toNat 64=1:=by decide
  have m2:min ((n % 64:Nat):Int).toNat 64=s:=by omega
  have m3:(63:Int)-((n % 64:Nat):Int)=((63-s:Nat):Int):=by omega
  have m4:min ((63-s:Nat):Int).toNat 64=63-s:=by omega
  rw[zp hk,zf,q9 (by decide),zf,e1,yG,zf,m2,zf,zp hk,zf,zf,m1,q9 (by decide),zf,m3,zd,yG,zf,m4,l1];rw[show(2:Nat)^1=2 from rfl,l2];rfl
theorem tJ{step:Nat->Nat->Nat×Nat}{X:Nat}(h: ∀k,step k 0=(X/18446744073709551616^k % 18446744073709551616,0)): ∀n,xY step n=(wv n X,0)
 |0=>rfl
 |n+1=>by
  have ih:=tJ h n;unfold xY;rw[ih,h,gi]
theorem Sx{A k:Nat}(hs:s<64):A/18446744073709551616^k % 18446744073709551616/2^s|||A/18446744073709551616^(k+1) % 18446744073709551616*2 % 18446744073709551616*2^(63-s) % 18446744073709551616=A/2^s/18446744073709551616^k % 18446744073709551616:=by
 have e:=Ae (xcO hs);have hp:0<2^s:=xbp (by decide);have ha:0<2^(64-s):=xbp (by decide);have h1:=ek A k;have e0:A/18446744073709551616^(k+1)=A/18446744073709551616^k/18446744073709551616:=by rw[xbu,xaY]
 rw[xaY,xba (2^s),<-xaY];rw[e0]at h1⊢;generalize A/18446744073709551616^k=X at*
 have e1:X/18446744073709551616 % 18446744073709551616*2 % 18446744073709551616*2^(63-s) % 18446744073709551616=X/18446744073709551616 % 2^s*2^(64-s):=by
  rw[Nat.mod_mul_mod,xbe,<-xfb,show(63-s).succ=64-s by omega];rw[Nat.mod_mul_mod];generalize X/18446744073709551616=V;conv=>lhs;rw[e,xba (2^(64-s)) (2^s)]
  rw[xev]
 have e2:X % 18446744073709551616/2^s<2^(64-s):=by
  rw[xbf hp,<-e];exact xbq _ (by decide)
 rw[e1,Nat.or_comm,Ll e2];have e3:X/2^s=X/18446744073709551616*2^(64-s)+X % 18446744073709551616/2^s:=by
  have h2:=xbD X 18446744073709551616;have h3:X=X % 18446744073709551616+2^s*(X/18446744073709551616*2^(64-s)):=by
   have:2^s*(X/18446744073709551616*2^(64-s))=18446744073709551616*(X/18446744073709551616):=by rw[e,xba (X/_),<-xbe,xba (2^s)]
   omega
  conv=>lhs;rw[h3]
  rw[xdx _ _ hp];omega
 rw[e3];have e4:X/18446744073709551616*2^(64-s)=X/18446744073709551616 % 2^s*2^(64-s)+18446744073709551616*(X/18446744073709551616/2^s):=by
  have h2:=xbD (X/18446744073709551616) (2^s);conv=>lhs;rw[<-h2]
  rw[xaV,e,xba (2^(64-s)) (2^s),xbe,xbe,xba (2^(64-s)) (_/_)];omega
 have h5:X/18446744073709551616 % 2^s*2^(64-s)+2^(64-s)<=18446744073709551616:=by
  generalize X/18446744073709551616=V;rw[e,xba (2^(64-s)) (2^s)];have:=xar (2^(64-s)) (xbq V hp);rw[Nat.succ_mul]at this;exact this
 have h6:X/18446744073709551616 % 2^s*2^(64-s)+X % 18446744073709551616/2^s<18446744073709551616:=by
  clear e4 e3 e1 e0 h1;generalize X/18446744073709551616 % 2^s*2^(64-s)=Z at*
  generalize X % 18446744073709551616/2^s=V at*
  omega
 rw[e4,Nat.add_right_comm,xcQ,xaF h6]
theorem cJ{n:Nat}(ha:zm a)(hl:a.length<=1000000)(hn:n<=1000000000)(hf:2000000<fu):Qz fu a (n:Int)=some (yI (nv a/2^n)):=by
 unfold Qz;have e0:max (n:Int) 0=(n:Int):=by omega
 have e1:xda (n:Int) 64=((n/64:Nat):Int):=rfl;have e2:xbZ (n:Int) 64=((n % 64:Nat):Int):=rfl;have hA:=jz ha;have hb:2^n=18446744073709551616^(n/64)*2^(n % 64):=by
  rw[<-mH,<-xdc,<-xbW];congr 1;omega
 rw[zf,e0,q9 (by decide),e1,zd];by_cases h:a.length<=n/64
 ·rw[zN];have:nv a/2^n=0:=by rw[hb,<-xaY,xcc (xap hA (xaK (by decide) h)),Nat.zero_div]
  rw[this];rfl
 ·rw[zx,q9 (by decide),zd,yO,yG,zf,q9 (by decide),zf,e2];have hd:=ha.drop (n/64);have hv:nv (a.drop (n/64))=nv a/18446744073709551616^(n/64):=Bl ha _;obtain⟨D,hD⟩: ∃D,D=a.drop (n/64):=⟨_,rfl⟩;rw[<-hD]at hd hv⊢;have he:D.length<=1000000:=by rw[hD,xbQ];omega
  obtain⟨s,hs⟩: ∃s,s=n % 64:=⟨_,rfl⟩;have hc:s<64:=by omega
  have v7:=tJ (step:=fun k _=>(nv D/2^s/18446744073709551616^k % 18446744073709551616,0)) (X:=nv D/2^s) (fun _=>rfl);rw[<-hs,za (qC (step:=fun k _=>(nv D/2^s/18446744073709551616^k % 18446744073709551616,0)) (by omega) (by omega) ?_)]
  ·rw[v7];simp only;rw[za (yX (xI _ _) (by rw[yc];omega) (by rw[yc];omega)),jD,xaF (xbd (xdW _ _) (jz hd)),hv,hb,<-xaY,hs]
  ·intro k hk;rw[v7];unfold Kp;have m1:min (((1:Nat):Int)).toNat 64=1:=by decide
   have m2:min (s:Int).toNat 64=s:=by omega
   have m3:(63:Int)-(s:Int)=((63-s:Nat):Int):=by omega
   have m4:min ((63-s:Nat):Int).toNat 64=63-s:=by omega
   have m5:(k:Int)+1=((k+1:Nat):Int):=by omega
   rw[zp hk,zf,yG,zf,m2,m5,zd,za (YT D (by omega)),zf,m1,m3,zd,yG,zf,m4,zf,QV hd,QV hd,show(2:Nat)^1=2 from rfl,Sx hc]
end
section
variable{fu u v1 v0 v d x:Nat}
theorem IY{w:Nat}(h1:9223372036854775808<=v1)(h2:v1<18446744073709551616)(h0:v0<18446744073709551616)(hu:u<v1*18446744073709551616+v0)(hw:w<18446744073709551616)(hq:u/v1<18446744073709551616)(hf:10<fu):
 zj (VL fu w v1 v0) fu (u/v1,u % v1)=some ((u*18446744073709551616+w)/(v1*18446744073709551616+v0)):=by
 have hv:0<v1*18446744073709551616+v0:=by omega
 refine zE (fun s:Nat×Nat=> ∃q r,s=(q,r)/\q<18446744073709551616/\r<18446744073709551616/\q*v1+r=u/\(u*18446744073709551616+w)/(v1*18446744073709551616+v0)<=q) (fun s=>2-s.2/9223372036854775808) _ ?_ _ _ ⟨_,_,rfl,hq,?_,?_,?_⟩ (by show 2-u % v1/9223372036854775808<fu;omega)
 ·rintro s L ⟨q,r,rfl,hq,hr,ha,hb⟩ ih;have hz:q*v0<18446744073709551616*18446744073709551616:=xdK hq h0;have dec: ∀(hc:18446744073709551616*r+w<q*v0),(if((0:Nat):Int)<(((r+v1+0)/18446744073709551616:Nat):Int)then some ((q+18446744073709551616-1) % 18446744073709551616)else L ((q+18446744073709551616-1) % 18446744073709551616,(r+v1+0) % 18446744073709551616))=some ((u*18446744073709551616+w)/(v1*18446744073709551616+v0)):=by
   intro hc;obtain⟨d1,d2,d3⟩:=Tx hv ha hc;have e2:(q+18446744073709551616-1) % 18446744073709551616=q-1:=by omega
   rw[e2];by_cases hd:18446744073709551616<=r+v1
   ·rw[zN,<-dW hv d3 d1 (Hb (HZ hu h0 d3 hd) h0 hd)]
   ·rw[zx];exact ih _ ⟨_,_,rfl,by omega,by omega,by rw[show(r+v1+0) % 18446744073709551616=r+v1 by omega];exact d3,d1⟩ (by show 2-(r+v1+0) % 18446744073709551616/9223372036854775808<2-r/9223372036854775808;omega)
  unfold VL;simp only;rw[za (YY hq h0)];simp only[nm];by_cases c1:q*v0/18446744073709551616<r
  ·rw[zN,<-dW hv ha hb (by omega)]
  ·rw[zx];by_cases c2:q*v0/18446744073709551616=r
   ·rw[zN];by_cases c3:q*v0 % 18446744073709551616<=w
    ·rw[zN,<-dW hv ha hb (by omega)]
    ·rw[zx,yG];exact dec (by omega)
   ·rw[zx,yG];exact dec (by omega)
 ·have:=xbq u (show 0<v1 by omega);omega
 ·rw[xba];exact xbD u v1
 ·rw[xct (by omega)];have h3:(u*18446744073709551616+w)/(v1*18446744073709551616+v0)*(v1*18446744073709551616+v0)<=u*18446744073709551616+w:=xdn _ _;generalize(u*18446744073709551616+w)/(v1*18446744073709551616+v0)=Q at*
  rw[xbm,<-xbe]at h3;generalize Q*v1=A at*
  omega
theorem nN{u2 u1 u0:Nat}(h1:9223372036854775808<=v1)(h2:v1<18446744073709551616)(h0:v0<18446744073709551616)(b1:u1<18446744073709551616)(b0:u0<18446744073709551616)(hf:10<fu):
 Vz fu u2 u1 u0 v1 v0=some (if v1<=u2 then 18446744073709551615 else((u2*18446744073709551616+u1)*18446744073709551616+u0)/(v1*18446744073709551616+v0)):=by
 unfold Vz;by_cases h:v1<=u2
 ·rw[zN,iq h]
 ·have hq:(u2*18446744073709551616+u1)/v1<18446744073709551616:=by
   rw[xbf (by omega)];have:(u2+1)*18446744073709551616<=v1*18446744073709551616:=xar _ (by omega);rw[xba 18446744073709551616 v1];omega
  rw[zx,ir h,za (Xc b1 h2 (by omega) hf)];simp only;rw[za (IY h1 h2 h0 ?_ b0 hq hf)];have:(u2+1)*18446744073709551616<=v1*18446744073709551616:=xar _ (by omega);omega
theorem zbs{q:Nat}(hd:0<d)(hv:0<v/d)(h:q*v<=u):q<=u/d/(v/d):=by
 refine(xct hv).2 ((xct hd).2 ?_);refine xao ?_ h;rw[xbe];exact xaA _ (xdn v d)
theorem zbj{B:Nat}(hd:0<d)(hx:x*(v/d)<=u/d)(hB:x<=B)(hv:B*d<=v):x*v<=u+v:=by
 have h1:x*v<=x*(v/d*d+d):=xaA _ (by have h:=xbD v d;have:=xbq v hd;rw[xba d]at h;omega);have h2:x*(v/d*d+d)=x*(v/d)*d+x*d:=by rw[xbm,xbe]
 have h3:x*(v/d)*d<=u:=xao (xar _ hx) (xdn u d);have h4:x*d<=B*d:=xar _ hB;omega
theorem Hf{U V D:Nat}(hD:0<D)(hV:9223372036854775808*(18446744073709551616*D)<=V)(he:V<18446744073709551616*(18446744073709551616*D))(hU:U<V*18446744073709551616)(hx:x=if V/D/18446744073709551616<=U/D/18446744073709551616/18446744073709551616 then 18446744073709551615 else U/D/(V/D)):U/V<=x/\x<=U/V+1/\x<18446744073709551616:=by
 have ha:0<V:=by
  have:0<9223372036854775808*(18446744073709551616*D):=by omega
  omega
 have hq:U/V<18446744073709551616:=by rw[xbf ha,xba];exact hU
 have hf:9223372036854775808*18446744073709551616<=V/D:=by rw[xct hD,xbe];exact hV
 have up: ∀{x:Nat},x*V<=U+V->x<=U/V+1:=fun{x} h=>by
  have:x<=(U+V)/V:=(xct ha).2 h;rw[Nat.add_div_right _ ha]at this;exact this
 by_cases h:V/D/18446744073709551616<=U/D/18446744073709551616/18446744073709551616
 ·rw[iq h]at hx;subst hx;refine⟨by omega,up ?_,by decide⟩;have e1:V/D/18446744073709551616=V/(D*18446744073709551616):=xaY ..;have e2:U/D/18446744073709551616/18446744073709551616=U/(D*18446744073709551616*18446744073709551616):=by rw[xaY,xaY,<-xbe]
  rw[e1,e2]at h;have hE:0<D*18446744073709551616:=by omega
  have k1:=xdn U (D*18446744073709551616*18446744073709551616);have k2:V<(V/(D*18446744073709551616)+1)*(D*18446744073709551616):=by
   have h1:=xbD V (D*18446744073709551616);have h2:=xbq V hE;rw[xaV,xcn,xba];omega
  have k3:V/(D*18446744073709551616)*(D*18446744073709551616*18446744073709551616)<=U:=xao (xar _ h) k1;rw[<-xbe]at k3;have k4:18446744073709551615*V<=18446744073709551615*((V/(D*18446744073709551616)+1)*(D*18446744073709551616)):=xaA _ (xcO k2);rw[xaV,xcn]at k4;generalize V/(D*18446744073709551616)*(D*18446744073709551616)=A at*
  omega
 ·rw[ir h]at hx;have hc:x<=18446744073709551616:=by
   rw[hx];have hb:U/D/18446744073709551616/18446744073709551616<V/D/18446744073709551616:=xdJ h;have h1:U/D<(V/D)*18446744073709551616+18446744073709551616*18446744073709551616:=by omega
   have:U/D<=18446744073709551616*(V/D)+(V/D):=by omega
   refine Nat.le_of_lt_succ ((xbf (by omega)).2 ?_);rw[Nat.succ_mul];omega
  have hd:U/V<=x:=by
   rw[hx];exact zbs hD (by omega) (xdn U V)
  have hb:x<18446744073709551616:=by
   rw[hx,xbf (by omega)];have hb:U/D/18446744073709551616/18446744073709551616<V/D/18446744073709551616:=xdJ h;omega
  refine⟨hd,up (zbj hD (B:=18446744073709551616) ?_ hc ?_),hb⟩
  ·rw[hx];exact xdn _ _
  ·omega
end
section
variable{fu V k y:Nat}{s:Int}{v t:List Nat}
theorem sH{n P x0:Nat}(hv:zm v)(ha:v.length=n)(hV:nv v=V)(ht:zm t)(hi:t.length=n+1)(hP:nv t=P)(hc:0<V)(h1:P/V<=x0)(h2:x0<=P/V+1)(h3:x0<18446744073709551616)(hn:n<=500000)(hf:2000000<fu):
 zj (K3 fu v) fu (s,(n:Int),x0,t)=some (s,(n:Int),P/V,t):=by
 have hd:V<18446744073709551616^n:=by rw[<-hV,<-ha];exact jz hv
 refine zE (fun q:Int×Int×Nat×List Nat=> ∃x,q=(s,(n:Int),x,t)/\P/V<=x/\x<=P/V+1/\x<18446744073709551616) (fun q=>q.2.2.1-P/V) _ ?_ _ _ ⟨x0,rfl,h1,h2,h3⟩ (by show x0-P/V<fu;omega);rintro q L ⟨x,rfl,g1,g2,g3⟩ ih;unfold K3;simp only;have hr:V*x<18446744073709551616^(n+1):=by
  rw[xbu]
  calc V*x<=V*18446744073709551616:=xaA _ (by omega)
   _<_:=xbT hd (by decide)
 rw[za (Q4 hv g3 (by omega) (by omega)),za (Jd (xI _ _) ht (by rw[yc];omega) (by omega) (by omega)),jD,hV,ha,xaF hr,hP];have hj:=xbD P V;have hk:=xbq P hc;by_cases h:x=P/V
 ·have hl:V*x<=P:=by rw[h];omega
  have he: ¬(0:Int)<kG ((V*x:Nat):Int) (P:Int):=by
   rcases xci (V*x) P with hh|hh
   ·rw[qU (by omega)];decide
   ·rw[ug (by omega)];decide
  rw[ir he,h]
 ·have hx:x=P/V+1:=by omega
  have hg:P<V*x:=by rw[hx,xbm,xcD];omega
  have hm:0<x:=by rw[hx];exact Nat.succ_pos _
  have hb:(P:Int)<((V*x:Nat):Int):=Int.ofNat_lt.2 hg;rw[vE hb,iq (by decide),zf,show(x+18446744073709551616-1) % 18446744073709551616=x-1 by omega];exact ih _ ⟨x-1,rfl,by omega,by omega,by omega⟩ (by show x-1-P/V<x-P/V;omega)
theorem PV{j:Nat}(ht:zm t)(hl:t.length<=k)(hj:k<=j):(t++xaf j 0).take k=wv k (nv t):=by
 refine sV ((ht.append (zm.replicate _)).take _) (xI _ _) (by rw[yc,xay,xau,xaU];omega) ?_;rw[Bx (ht.append (zm.replicate _)),jg,XU,xdi,xch,jD]
theorem OA{n lq U0:Nat}{L:List Nat×Int×List Nat×List Nat->Option (List Nat×List Nat)}(hv:zm v)(hl:v.length=n)(hV:nv v=V)(hQ:2<=n)(hc:9223372036854775808*18446744073709551616^(n-1)<=V)(ht:zm t)(hR:t.length=lq+n)(hk:k<lq)(hb:lq+n<=500000)(hf:2000000<fu)(hT:nv t=U0/18446744073709551616^(k+1) % V*18446744073709551616^(k+1)+U0 % 18446744073709551616^(k+1)):
 ∃t',zm t'/\t'.length=lq+n/\nv t'=U0/18446744073709551616^k % V*18446744073709551616^k+U0 % 18446744073709551616^k/\
  Y7 fu s v L (v,(k:Int),t,xaf (k+1) 0++wv (lq-(k+1)) (U0/18446744073709551616^(k+1)/V))=L (v,(k:Int)-1,t',xaf k 0++wv (lq-k) (U0/18446744073709551616^k/V)):=by
 have hd:V<18446744073709551616^n:=by rw[<-hV,<-hl];exact jz hv
 have hu:0<18446744073709551616^k:=xbp (by decide);have he:0<V:=by
  have:0<18446744073709551616^(n-1):=xbp (by decide);omega
 obtain⟨T,hn⟩: ∃T,T=U0/18446744073709551616^(k+1) % V:=⟨_,rfl⟩;obtain⟨ak,ho⟩: ∃ak,ak=U0/18446744073709551616^k % 18446744073709551616:=⟨_,rfl⟩;have hp:ak<18446744073709551616:=by rw[ho];exact xbq _ (by decide)
 have hH:T<V:=by rw[hn];exact xbq _ he
 obtain⟨P,hP⟩: ∃P,P=T*18446744073709551616+ak:=⟨_,rfl⟩;have hw:=ek U0 k;rw[<-ho]at hw;obtain⟨k1,k2⟩:=aD (x:=0) (b:=18446744073709551616) (y:=V) (w1:=U0/18446744073709551616^(k+1)) (w0:=ak) he (by decide) hp;rw[xcI,xaT,<-hw,<-hn,<-hP]at k1 k2;have hx:U0 % 18446744073709551616^(k+1)=ak*18446744073709551616^k+U0 % 18446744073709551616^k:=by rw[xbu,Nat.mod_mul,ho,xba];omega
 have hm:P<V*18446744073709551616:=by
  have:(T+1)*18446744073709551616<=V*18446744073709551616:=xar _ hH;omega
 have hy:nv t=P*18446744073709551616^k+U0 % 18446744073709551616^k:=by rw[hT,<-hn,hx,hP,xaV,xbu,xba (18446744073709551616^k),xbe];omega
 have hA:=xbq U0 hu;have hq:nv t/18446744073709551616^k=P:=by rw[hy,xdA,Nat.add_mul_div_right _ _ hu,xcc hA,xaT]
 have hI:nv t % 18446744073709551616^k=U0 % 18446744073709551616^k:=by rw[hy,xdA,Nat.add_mul_mod_self_right,Nat.mod_mod]
 obtain⟨D,hD⟩: ∃D,D=18446744073709551616^(n-2):=⟨_,rfl⟩;have hJ:0<D:=by rw[hD];exact xbp (by decide)
 have en1:18446744073709551616^(n-1)=18446744073709551616*D:=by rw[hD,<-xfb,show(n-2).succ=n-1 by omega]
 have en:18446744073709551616^n=18446744073709551616*(18446744073709551616*D):=by rw[<-en1,<-xfb,show(n-1).succ=n by omega]
 rw[en1]at hc;have ha:=hd;rw[en]at ha;have gt: ∀j,t.getD (k+j) 0=P/18446744073709551616^j % 18446744073709551616:=fun j=>by rw[QV ht,xbW,<-xaY,hq]
 have gv: ∀j,v.getD j 0=V/18446744073709551616^j % 18446744073709551616:=fun j=>by rw[QV hv,hV]
 have ePn:P/18446744073709551616^n=P/D/18446744073709551616/18446744073709551616:=by rw[en,xaY,xaY];congr 1;omega
 have ePn1:P/18446744073709551616^(n-1)=P/D/18446744073709551616:=by rw[en1,xaY,xba D]
 have eVn1:V/18446744073709551616^(n-1)=V/D/18446744073709551616:=by rw[en1,xaY,xba D]
 have hK:P/D/18446744073709551616/18446744073709551616<18446744073709551616:=by
  rw[<-ePn,xbf (xbp (by decide)),xba];exact Nat.lt_trans hm (xbT hd (by decide))
 have hB:V/D/18446744073709551616<18446744073709551616:=by
  rw[<-eVn1,xbf (xbp (by decide)),en1];exact ha
 have hr:9223372036854775808<=V/D/18446744073709551616:=by
  rw[<-eVn1,xct (xbp (by decide)),en1];exact hc
 have m1:t.getD (k+n) 0=P/D/18446744073709551616/18446744073709551616:=by rw[gt,ePn,xaF hK]
 have m2:t.getD (k+n-1) 0=P/D/18446744073709551616 % 18446744073709551616:=by rw[show k+n-1=k+(n-1)by omega,gt,ePn1]
 have m3:t.getD (k+n-2) 0=P/D % 18446744073709551616:=by rw[show k+n-2=k+(n-2)by omega,gt,<-hD]
 have m4:v.getD (n-1) 0=V/D/18446744073709551616:=by rw[gv,eVn1,xaF hB]
 have m5:v.getD (n-2) 0=V/D % 18446744073709551616:=by rw[gv,<-hD]
 have eg:((P/D/18446744073709551616/18446744073709551616*18446744073709551616+P/D/18446744073709551616 % 18446744073709551616)*18446744073709551616+P/D % 18446744073709551616)/(V/D/18446744073709551616*18446744073709551616+V/D % 18446744073709551616)=P/D/(V/D):=by
  generalize P/D=p;generalize V/D=w;rw[show(p/18446744073709551616/18446744073709551616*18446744073709551616+p/18446744073709551616 % 18446744073709551616)*18446744073709551616+p % 18446744073709551616=p by omega,show w/18446744073709551616*18446744073709551616+w % 18446744073709551616=w by omega]
 obtain⟨x0,hC⟩: ∃x0,x0=if V/D/18446744073709551616<=P/D/18446744073709551616/18446744073709551616 then 18446744073709551615 else P/D/(V/D):=⟨_,rfl⟩;obtain⟨n1,n2,n3⟩:=Hf hJ hc ha hm hC;have hE:zm (xdr (k+n+1-k) (xdw k t)):=(ht.drop k).take _;have hg:(xdr (k+n+1-k) (xdw k t)).length=n+1:=by rw[xay,xbQ];omega
 have hs:P<18446744073709551616^(n+1):=by
  rw[xbu];exact Nat.lt_trans hm (xbT hd (by decide))
 have hi:nv (xdr (k+n+1-k) (xdw k t))=P:=by rw[Bx (ht.drop k),Bl ht,hq,show k+n+1-k=n+1 by omega,xaF hs]
 have hj:P/V<18446744073709551616:=by rw[xbf he,xba];exact hm
 have hF:V*(P/V)<=P:=Nat.mul_div_le P V;have hG:nv (wv (n+1) (V*(P/V)))=V*(P/V):=by rw[jD,xaF (by omega)]
 have hL:P-V*(P/V)=P % V:=by have:=xbD P V;omega
 have hN:=xbq P he;have hO:(yI (P % V)).length<=n:=(zJ _ _).2 (by omega);refine⟨xdr k t++wv (n+1) (P % V)++xdw (k+(n+1)) t,((ht.take _).append (xI _ _)).append (ht.drop _),?_,?_,?_⟩
 ·rw[xau,xau,xay,yc,xbQ];omega
 ·have hz:nv (xdw (k+(n+1)) t)=0:=by rw[Bl ht,xbW,<-xaY,hq,xcc hs]
  have hM:P % V<18446744073709551616^(n+1):=xbd (Nat.mod_le _ _) hs;rw[jg,hz,xdi,xch,jg,Bx ht,hI,jD,xaF hM,xay,show min k t.length=k by omega,<-k2,xba];omega
 ·unfold Y7;simp only;have c1:(k:Int)+(v.length:Int)=((k+n:Nat):Int):=by omega
  have c2:((k+n:Nat):Int)-1=((k+n-1:Nat):Int):=by omega
  have c3:((k+n:Nat):Int)-2=((k+n-2:Nat):Int):=by omega
  have c4:(v.length:Int)-1=((n-1:Nat):Int):=by omega
  have c5:(v.length:Int)-2=((n-2:Nat):Int):=by omega
  have c6:((k+n:Nat):Int)+1=((k+n+1:Nat):Int):=by omega
  rw[zN,c1,zd,yB,zf,zd,c2,zd,yB,zf,zd,c3,zd,yB,zf,c4,zd,yB,zf,c5,zd,yB,zf];rw[m1,m2,m3,m4,m5,za (nN hr hB (xbq _ (by decide)) (xbq _ (by decide)) (xbq _ (by decide)) (by omega)),eg,<-hC];rw[zd,c6,zd,yO,yO,q9 ⟨by omega,by omega⟩,zf,q9 (by rw[hg];simp;omega),zf,xbF];rw[hl,za (sH hv hl hV hE hg hi he n1 n2 n3 (by omega) hf)];simp only;have c7:(n:Int)+1=((n+1:Nat):Int):=by omega
  rw[zp (by simp;omega),zf,Nb,yO,yG,za (Q4 hv hj (by omega) (by omega)),hl,hV,za (V7 hE (xI _ _) (by omega) (by rw[yc];omega) (by rw[hg,yc];omega) (by rw[hi,hG];exact hF)),hi,hG,hL];rw[c7,zd,yO,yG,zf,zd,yO,q9 (by simp),zf,PV (zw _) (by omega) (xac _),z7,zf,zd];have ecp:U7 k (t.length-k) t (wv (n+1) (P % V))=xdr k t++wv (n+1) (P % V)++xdw (k+(n+1)) t:=by
   unfold U7;rw[yc,show min (n+1) (t.length-k)=n+1 by omega,xaX (l:=wv (n+1) (P % V)) (by rw[yc];exact xac _)]
  rw[ecp];have e2:lq-k=(lq-(k+1))+1:=by omega
  have e3:wv (lq-k) (U0/18446744073709551616^k/V)=P/V::wv (lq-(k+1)) (U0/18446744073709551616^(k+1)/V):=by rw[e2,sR,k1,(dU hj).1,(dU hj).2]
  rw[e3]
theorem HO(h:0<y):2^(bl y-1)<=y:=by
 refine xbw fun ha=> ?_;have h1:=Vh ha;have h2:1<=bl y:=by rw[Jq h];omega
 omega
theorem zcp{n s:Nat}(hy:0<y)(hn:n=(yI y).length)(hs:s=64-bl ((yI y).getD (n-1) 0)):s<=63/\9223372036854775808*18446744073709551616^(n-1)<=y*2^s/\y*2^s<18446744073709551616^n/\(yI (y*2^s)).length=n:=by
 have hc:=vD hy;have hb:=FZ hy;rw[<-hn]at hb;have ht:(yI y).getD (n-1) 0≠0:=by rw[hn];exact P2 hy
 have ha:=(zw y).getD (n-1);obtain⟨b1,_,_⟩:=Er (y:=(yI y).getD (n-1) 0) (by omega) ha;have b2:1<=bl ((yI y).getD (n-1) 0):=by rw[Jq (by omega)];omega
 have e1:18446744073709551616^n=2^bl y*2^s:=by
  rw[<-mH,<-xdc,<-xbW];congr 1;omega
 have e2:9223372036854775808*18446744073709551616^(n-1)=2^(bl y-1)*2^s:=by
  rw[<-mH,<-xdc,<-xbW,show(9223372036854775808:Nat)=2^63 by decide,<-xbW];congr 1;omega
 have g1:9223372036854775808*18446744073709551616^(n-1)<=y*2^s:=by rw[e2];exact xar _ (HO hy)
 have g2:y*2^s<18446744073709551616^n:=by rw[e1];exact xbT (mZ y) (xbp (by decide))
 refine⟨by omega,g1,g2,xcR ((zJ _ _).2 g2) (xbw fun h=> ?_)⟩;have:=(zJ (n-1) (y*2^s)).1 (by omega);have hp:0<18446744073709551616^(n-1):=xbp (by decide);omega
theorem bH{a b:List Nat}(ha:zm a)(hb:zm b)(hC:a.length<=200000)(hD:b.length<=200000)(hf:3000000<=fu):
 Qe fu a b=some (if nv b=0 then([],[],3)else(yI (nv a/nv b),yI (nv a % nv b),0)):=by
 unfold Qe;have h1:=xQ ha;have h2:=xQ hb;rw[za (xz ha (by omega) (by omega)),za (xz hb (by omega) (by omega))];generalize nv a=x at*
 generalize nv b=y at*
 by_cases h0:y=0
 ·subst h0;rw[iq rfl];rfl
 ·have hE:=vD (n:=y) (by omega);rw[zx,za rfl,ir h0];simp only[xak,if_false];rw[za (Jd (zw x) (zw y) (by omega) (by omega) (by omega)),z7,z7];by_cases hg:x<y
  ·rw[qU (by omega),iq (by decide),za rfl];simp only[if_true];rw[za (Yp (zw x) (by omega) (by omega)),z7,xcc hg,xaF hg];rfl
  ·have hv: ¬kG (x:Int) (y:Int)<0:=by
    rcases xci y x with h|h
    ·rw[vE (by omega)];decide
    ·rw[ug (by omega)];decide
   rw[ir hv,za rfl];simp only[xak,if_false];obtain⟨n,hn⟩: ∃n,n=(yI y).length:=⟨_,rfl⟩;have hi:=(zw y).getD (n-1);by_cases hA:n=1
   ·have hw:(yI y).getD 0 0=y:=by
     rw[u9,xeU,xeQ,xaF];have:=(zJ 1 y).1 (by omega);simpa using this
    have hj:y<18446744073709551616:=by have:=(zJ 1 y).1 (by omega);simpa using this
    rw[zN,show(0:Int)=((0:Nat):Int)from rfl,yB,zf,hw,za (ra (zw x) hj (by omega) (by omega) (by omega)),z7];simp only;have hm:=xbq x (show 0<y by omega);rw[za (yX (dD (by omega)) (by simp) (by simp;omega)),C4]
   ·obtain⟨s,hs⟩: ∃s,s=64-bl ((yI y).getD (n-1) 0):=⟨_,rfl⟩;obtain⟨s63,v1,v2,v3⟩:=zcp (by omega) hn hs;obtain⟨V,hV⟩: ∃V,V=y*2^s:=⟨_,rfl⟩;obtain⟨U,hU⟩: ∃U,U=x*2^s:=⟨_,rfl⟩;obtain⟨lx,hx⟩: ∃lx,lx=(yI x).length:=⟨_,rfl⟩;have hB:n<=lx:=by rw[hn,hx];exact Ko (by omega)
    have hk:x<18446744073709551616^lx:=(zJ lx x).1 (by omega);have hl:2^s<=9223372036854775808:=by
     rw[show(9223372036854775808:Nat)=2^63 by decide];exact xaK (by decide) s63
    have hy:U<18446744073709551616^(lx+1):=by
     rw[hU,xbu];exact xap (xbT hk (xbp (by decide))) (xaA _ (by omega))
    have hF:(yI U).length<=lx+1:=(zJ _ _).2 hy;rw[<-hV]at v1 v2 v3;have e1:((((yI y).length:Nat):Int))-1=((n-1:Nat):Int):=by omega
    rw[zx,e1,zd,yB,zf,za (qK hi),<-hs,za (X7 (zw y) (by omega) (by omega) (by omega)),z7,<-hV];simp only;rw[za (X7 (zw x) (by omega) (by omega) (by omega)),z7,<-hU];simp only;have e2:((((yI x).length:Nat):Int))+1=((lx+1:Nat):Int):=by omega
    have e3:((lx+1:Nat):Int)-(((yI U).length:Nat):Int)=((lx+1-(yI U).length:Nat):Int):=by omega
    rw[e2,zd,e3,zd,yO,yG,zf];obtain⟨t8,hc⟩: ∃t8,t8=yI U++xaf (lx+1-(yI U).length) 0:=⟨_,rfl⟩;have t8L:zm t8:=by rw[hc];exact(zw U).append (zm.replicate _)
    have t8l:t8.length=lx+1:=by rw[hc,xau,xaU];omega
    have t8v:nv t8=U:=by rw[hc,jg,XU,xdi,xch,z7]
    obtain⟨lq,hG⟩: ∃lq,lq=lx+1-n:=⟨_,rfl⟩;have e4:(t8.length:Int)-(((yI V).length:Nat):Int)=(lq:Int):=by omega
    rw[<-hc,e4,zd,yO,yG,zf,xaU,zd];have ho:0<V:=by
     have:0<18446744073709551616^(n-1):=xbp (by decide);omega
    have hz:0<18446744073709551616^lq:=xbp (by decide);have hq:U<18446744073709551616^lq*V:=by
     have k1:18446744073709551616^lq*(9223372036854775808*18446744073709551616^(n-1))<=18446744073709551616^lq*V:=xaA _ v1;have k2:18446744073709551616^lq*(9223372036854775808*18446744073709551616^(n-1))=18446744073709551616^lx*9223372036854775808:=by
      rw[xba 9223372036854775808,<-xbe,<-xbW];congr 2;omega
     have k3:U<18446744073709551616^lx*9223372036854775808:=by
      rw[hU];exact xap (xbT hk (xbp (by decide))) (xaA _ hl)
     omega
    have hr:U/18446744073709551616^lq<V:=by rw[xbf hz,xba];exact hq
    have key: ∃t,zm t/\t.length=lq+n/\nv t=U % V/\zj (Y7 fu (s:Int) (yI V)) fu (yI V,(lq:Int)-1,t8,xaf lq 0)=some (t,wv lq (U/V)):=by
     refine⟨wv (lq+n) (U % V),xI _ _,yc _ _,?_,?_⟩
     ·rw[jD,xaF];have h5:=xbq U ho;exact xap (Nat.lt_trans h5 v2) (xaK (by decide) (by omega))
     ·refine zE (fun q:List Nat×Int×List Nat×List Nat=> ∃(m:Nat) (t:List Nat),m<=lq/\zm t/\t.length=lq+n/\nv t=U/18446744073709551616^m % V*18446744073709551616^m+U % 18446744073709551616^m/\q=(yI V,(m:Int)-1,t,xaf m 0++wv (lq-m) (U/18446744073709551616^m/V))) (fun q=>(q.2.1+1).toNat) _ ?_ _ _ ⟨lq,t8,xac _,t8L,by omega,?_,?_⟩ (by show((lq:Int)-1+1).toNat<fu;omega)
      ·rintro q L ⟨m,t,hm,ht,hu,hd,rfl⟩ ih
       cases m with
       |zero=>
        unfold Y7;simp only;rw[zx];rw[xeU,xcD,Nat.mod_one,xch,xeQ]at hd;have:=Ue ht;rw[hu,hd]at this;rw[this];simp
       |succ m=>
        obtain⟨t',g1,g2,g3,g4⟩:=OA (fu:=fu) (k:=m) (s:=(s:Int)) (L:=L) (zw V) v3 (z7 V) (by omega) v1 ht hu (by omega) (by omega) (by omega) hd;rw[show((m+1:Nat):Int)-1=(m:Int)by omega,g4];exact ih _ ⟨m,t',by omega,g1,g2,g3,rfl⟩ (by show((m:Int)-1+1).toNat<(((m+1:Nat):Int)-1+1).toNat;omega)
      ·rw[t8v,xaF hr,xba];exact(xbD U _).symm
      ·rw[xcc hr,xcW];simp[wv]
    obtain⟨t,g1,g2,g3,g4⟩:=key;rw[za g4];simp only;have he:U/V<18446744073709551616^lq:=by rw[xbf ho];exact hq
    have hp:0<2^s:=xbp (by decide);rw[za (yX (xI _ _) (by rw[yc];omega) (by rw[yc];omega)),jD,xaF he,za (cJ g1 (by omega) (by omega) (by omega)),g3];rw[hU,hV,xfu _ _ hp,xev,Nat.mul_div_cancel _ hp]
end
section
variable{k fu:Nat}{x y:Int}{a b m:Zr}
def gx(z:Zr):Prop:=zm z.2/\z.2.length<=40000
theorem gx.ok{z:Zr}(h:gx z):gI z:=⟨h.1,xao h.2 (by decide)⟩
theorem Bz.okS(h:Bz k x)(hk:k<=40000):gx (yE x):=⟨yU x,xao ((zJ _ _).2 h) hk⟩
theorem Bz.len(h:Bz k x):(yE x).2.length<=k:=(zJ _ _).2 h
theorem MX{q r:Int}(hy:y≠0)(h:y*q+r=x)(h0:0<=r)(h1:r<(y.natAbs:Int)):x/y=q/\x % y=r:=by
 rcases xeA y 0 with hn|hn|hn
 ·exact(Int.ediv_emod_unique' hn).2 ⟨by omega,h0,by omega⟩
 ·exact absurd hn hy
 ·exact(Int.ediv_emod_unique hn).2 ⟨by omega,h0,by omega⟩
def Sv(x y:Int):Zr×Zr×Int:=if y=0 then((false,[]),(false,[]),3)else(yE (x/y),yE (x % y),0)
theorem PO{q0 r0:Nat}(hb:nv b.2≠0)(hq:q0=nv a.2/nv b.2)(hr:r0=nv a.2 % nv b.2):
 (¬(a.1=true/\0<r0)->zv a/zv b=(if(!(a.1==b.1))=true then-(q0:Int)else(q0:Int))/\zv a % zv b=(r0:Int))/\
 (a.1=true/\0<r0->zv a/zv b=(if(!(a.1==b.1))=true then-((q0+1:Nat):Int)else((q0+1:Nat):Int))/\zv a % zv b=((nv b.2-r0:Nat):Int)):=by
 have hd:=xbD (nv a.2) (nv b.2);have hm:=xbq (nv a.2) (show 0<nv b.2 by omega);rw[<-hq,<-hr]at hd;rw[<-hr]at hm;have hz:zv b≠0:=by have:=kD b;omega
 have ha:=kD b;have hc:((nv b.2:Nat):Int)*(q0:Int)+(r0:Int)=((nv a.2:Nat):Int):=by rw[<-hd];simp
 refine⟨fun h=> ?_,fun h=> ?_⟩
 ·refine MX hz ?_ (by omega) (by omega);rcases qG a with⟨h1,h2⟩|⟨h1,h2⟩<;>rcases qG b with⟨h3,h4⟩|⟨h3,h4⟩<;>rw[h1,h3,h2,h4]
  ·have:r0=0:=xem fun hp=>h ⟨h1,hp⟩;subst this;simp only[beq_self_eq_true,xdL,xak,if_false];rw[Int.neg_mul];omega
  ·have:r0=0:=xem fun hp=>h ⟨h1,hp⟩;subst this;rw[iq (by decide),xeu];omega
  ·rw[iq (by decide),Int.neg_mul_neg];omega
  ·rw[ir (by decide)];omega
 ·refine MX hz ?_ (by omega) (by omega);obtain⟨h1,hp⟩:=h;have e1:((nv b.2-r0:Nat):Int)=((nv b.2:Nat):Int)-(r0:Int):=by omega
  have e2:((nv b.2:Nat):Int)*(((q0+1:Nat)):Int)=((nv b.2:Nat):Int)*(q0:Int)+((nv b.2:Nat):Int):=by rw[xdV,xeR];simp
  rcases qG a with⟨_,h2⟩|⟨h,_⟩
  ·rcases qG b with⟨h3,h4⟩|⟨h3,h4⟩<;>rw[h1,h3,h2,h4,e1]
   ·rw[ir (by decide),Int.neg_mul,e2];omega
   ·rw[iq (by decide),xeu,e2];omega
  ·rw[h1]at h;cases h
theorem Np:zv b=0↔nv b.2=0:=by
 have:=kD b;omega
theorem V8(ha:gx a)(hb:gx b)(hf:3000000<=fu):Yh fu a b=some (Sv (zv a) (zv b)):=by
 unfold Yh Sv;have la:=ha.2;have lb:=hb.2;rw[za (bH ha.1 hb.1 (by omega) (by omega) hf)];by_cases h0:nv b.2=0
 ·rw[iq h0,iq (Np.2 h0)];rfl
 ·rw[ir h0,ir (fun h=>h0 (Np.1 h))];simp only[if_true];obtain⟨q0,hq⟩: ∃q0,q0=nv a.2/nv b.2:=⟨_,rfl⟩;obtain⟨r0,hr⟩: ∃r0,r0=nv a.2 % nv b.2:=⟨_,rfl⟩;have lq:(yI q0).length<=40000:=by
   refine xao ((zJ a.2.length q0).2 ?_) la;rw[hq];exact xbd (xdW _ _) (jz ha.1)
  have hd:r0<nv b.2:=by rw[hr];exact xbq _ (by omega)
  have lr:(yI r0).length<=40000:=xao ((zJ b.2.length r0).2 (Nat.lt_trans hd (jz hb.1))) lb;have lr2:(yI (nv b.2-r0)).length<=40000:=xao ((zJ b.2.length _).2 (xbd (Nat.sub_le _ _) (jz hb.1))) lb;obtain⟨k1,k2⟩:=PO h0 hq hr;rw[<-hq,<-hr];have lq2:(yI (q0+1)).length<=40001:=Xd (y:=1) lq (by decide);by_cases hc:a.1=true/\0<r0
  ·obtain⟨w1,w2⟩:=k2 hc;have:=vD hc.2;rw[iq hc.1,zN,za (v:=(yI (q0+1),yI (nv b.2-r0)))]
   ·rw[w1,w2];simp only;rw[zf,za (yf (zw _) (by omega) (by omega)),za (yf (zw _) (by omega) (by omega)),z7,z7];rfl
   ·rw[za (kI (zw _) (dD (by decide)) (by omega) (by simp) (by simp;omega)),z7,C4,za (XX hb.1 (zw _) (by omega) (by omega) (by omega)),z7,zx]
  ·obtain⟨w1,w2⟩:=k1 hc;rw[za (v:=(yI q0,yI r0))]
   ·rw[w1,w2];simp only;rw[zf,za (yf (zw _) (by omega) (by omega)),za (yf (zw _) (by omega) (by omega)),z7,z7];rfl
   ·by_cases h1:a.1=true
    ·have:r0=0:=xem fun hp=>hc ⟨h1,hp⟩;subst this;rw[iq h1,ir (by decide)]
    ·rw[ir h1]
def Aw(x m:Int):Zr×Int:=if m<=0 then((false,[]),1)else(yE (x % m),0)
def near(x m:Int):Int:=if m<x % m+x % m then x % m-m else x % m
def RL(x m:Int):Zr×Int:=if m<=0 then((false,[]),1)else(yE (near x m),0)
theorem Bz.emod{m:Int}(hm:Bz k m)(h0:0<m):Bz k (x % m):=by
 have h1:=xcS x (show m≠0 by omega);have h2:=xdv x h0;exact hm.le (by omega)
theorem Bz.near{k:Nat}{x m:Int}(hm:Bz k m)(h0:0<m):Bz k (near x m):=by
 have h1:=xcS x (show m≠0 by omega);have h2:=xdv x h0;refine hm.le ?_;unfold Go.Proofs.YtmggkmchbdanfaaGreat.near;split<;>omega
theorem lZ:kG x 0<=0↔x<=0:=by
 rcases xeA x 0 with h|h|h
 ·rw[qU h];omega
 ·rw[ug h];omega
 ·rw[vE h];omega
theorem Ed:0<kG x y↔y<x:=by
 rcases xeA x y with h|h|h
 ·rw[qU h];omega
 ·rw[ug h];omega
 ·rw[vE h];omega
theorem jd:kG x y=0↔x=y:=by
 rcases xeA x y with h|h|h
 ·rw[qU h];omega
 ·rw[ug h];omega
 ·rw[vE h];omega
theorem uq(ha:gx a)(hm:gx m)(hf:3000000<=fu):vF fu a m=some (Aw (zv a) (zv m)):=by
 unfold vF Aw;rw[za (xe hm.ok hf)];by_cases h:zv m<=0
 ·rw[iq (lZ.2 h),iq h]
 ·rw[ir (fun e=>h (lZ.1 e)),ir h,za (V8 ha hm hf)];unfold Sv;rw[zx]
theorem iQ(ha:gx a)(hm:gx m)(hf:3000000<=fu):Zl fu a m=some (RL (zv a) (zv m)):=by
 unfold Zl RL;rw[za (uq ha hm hf)];unfold Aw;by_cases h:zv m<=0
 ·rw[iq h,iq h];simp
 ·have hb:Bz 40000 (zv a % zv m):=Bz.emod ((Bz.of hm.1).mono hm.2) (by omega);rw[ir h,ir h];simp only[if_true];have hl:=hm.2;have h2:=(hb.add hb).ok (by omega);have h3:=(hb.add hb).len;rw[za (vW (hb.okS (by omega)).ok (hb.okS (by omega)).ok hf),zu,za (ue h2 hm.ok hf (by omega) (by omega)),zu];unfold near;by_cases hc:zv m<zv a % zv m+zv a % zv m
  ·rw[iq (Ed.2 hc),iq hc,za (vU (hb.okS (by omega)).ok hm.ok hf),zu]
  ·rw[ir (fun e=>hc (Ed.1 e)),ir hc]
end
section
variable{f g:Nat->Int}{j m k fu:Nat}{p:List Zr}
def zi(n:Nat)(f:Nat->Int):List Zr:=(xbc n).map fun k=>yE (f k)
def cf(p:List Zr)(k:Nat):Int:=zv (p.getD k (false,[]))
def dg(f:Nat->Int):Nat->Nat
 |0=>0
 |n+1=>if f n=0 then dg f n else n+1
def qe(n:Nat)(f:Nat->Int):List Zr:=zi (dg f n) f
def xb(k:Nat)(p:List Zr):Prop:= ∀z∈p,zm z.2/\z.2.length<=k
def u5(f:Nat->Int)(j:Nat)(v:Int):Nat->Int:=fun k=>if k=j then v else f k
theorem Qm(p:List Zr)(k:Nat):zv (p.getD k (false,[]))=cf p k:=rfl
theorem yN(n:Nat)(f:Nat->Int):(zi n f).length=n:=by unfold zi;simp
theorem Yy{n:Nat}(h:j<n):(zi n f).getD j (false,[])=yE (f j):=by
 unfold zi;rw[UV,xaB,xbg h];rfl
theorem y9{n:Nat}(h: ∀k,k<n->f k=g k):zi n f=zi n g:=by
 unfold zi;refine xbO fun k hk=> ?_;rw[h k (xaS.1 hk)]
theorem KN{n:Nat}{v:Int}:(zi n f).set j (yE v)=zi n (u5 f j v):=by
 refine xcw fun i=> ?_;unfold zi u5;rw[xdY];by_cases h:j=i
 ·subst h;rw[iq rfl,xaN,xcy,xaB];by_cases hj:j<n
  ·rw[iq hj,xbg hj];simp
  ·rw[ir hj,xaJ (by simp;omega)];rfl
 ·rw[ir h,xaB,xaB];by_cases hi:i<n
  ·rw[xbg hi];simp[Ne.symm h]
  ·rw[xaJ (by simp;omega)];rfl
theorem Pg:yE 0=(false,[]):=rfl
theorem aL(n:Nat):xaf n (false,[])=zi n (fun _=>0):=by
 unfold zi;rw[List.map_const',xcy,Pg]
theorem DF{n:Nat}(h:j<n):cf (zi n f) j=f j:=by unfold cf;rw[Yy h,zu]
theorem z6(h:p.length<=j):cf p j=0:=by
 unfold cf;rw[UV,xaJ h];rfl
theorem CN{n:Nat}(h: ∀k,n<=k->f k=0)(j:Nat):cf (zi n f) j=f j:=by
 by_cases hj:j<n
 ·exact DF hj
 ·rw[z6 (by rw[yN];omega),h j (by omega)]
theorem qf(f:Nat->Int): ∀n,dg f n<=n
 |0=>xac _
 |n+1=>by unfold dg;split;exact xao (qf f n) (xce _);exact xac _
theorem Js(f:Nat->Int): ∀n k,dg f n<=k->k<n->f k=0
 |0,k,_,h=>absurd h (xbv _)
 |n+1,k,h1,h2=>by
  unfold dg at h1;split at h1
  ·rename_i h0;by_cases hk:k=n
   ·rw[hk];exact h0
   ·exact Js f n k h1 (by omega)
  ·omega
theorem WZ(f:Nat->Int): ∀n,dg f n≠0->f (dg f n-1)≠0
 |0,h=>absurd rfl h
 |n+1,h=>by
  unfold dg at h⊢;split
  ·rename_i h0;rw[iq h0]at h;exact WZ f n h
  ·rename_i h0;exact h0
theorem Ur{n d:Nat}(h1:d<=n)(h2: ∀k,d<=k->k<n->f k=0)(h3:d=0\/f (d-1)≠0):dg f n=d:=by
 have a:=qf f n;rcases Nat.lt_trichotomy (dg f n) d with h|h|h
 ·rcases h3 with h3|h3
  ·omega
  ·exact absurd (Js f n (d-1) (by omega) (by omega)) h3
 ·exact h
 ·exact absurd (h2 (dg f n-1) (by omega) (by omega)) (WZ f n (by omega))
theorem Uc{n:Nat}(hf: ∀k,n<=k->f k=0)(hg: ∀k,m<=k->g k=0)(h: ∀k,f k=g k):qe n f=qe m g:=by
 have e:dg f n=dg g m:=by
  refine Ur ?_ ?_ ?_
  ·refine xbw fun ha=> ?_;have:=WZ g m (by omega);rw[<-h,hf _ (by omega)]at this;exact this rfl
  ·intro k h1 h2;rw[h];by_cases hk:k<m
   ·exact Js g m k h1 hk
   ·exact hg k (by omega)
  ·by_cases h0:dg g m=0
   ·exact .inl h0
   ·right;rw[h];exact WZ g m h0
 unfold qe;rw[e];exact y9 fun k _=>h k
theorem xD(n:Nat)(f:Nat->Int):(qe n f).length=dg f n:=yN _ _
theorem jq{n:Nat}(h: ∀k,n<=k->f k=0)(j:Nat):cf (qe n f) j=f j:=by
 refine CN (fun k hk=> ?_) j;by_cases hn:k<n
 ·exact Js f n k hk hn
 ·exact h k (by omega)
theorem xb.get(h:xb k p)(j:Nat):zm (p.getD j (false,[])).2/\(p.getD j (false,[])).2.length<=k:=by
 rw[UV];by_cases hj:j<p.length
 ·rw[IR hj];exact h _ (xbh hj)
 ·rw[xaJ (by omega)];exact⟨zm.nil,xaj _⟩
theorem xb.okZ(h:xb k p)(hk:k<=100000)(j:Nat):gI (p.getD j (false,[])):=⟨(h.get j).1,xao (h.get j).2 hk⟩
theorem xb.okS(h:xb k p)(hk:k<=40000)(j:Nat):gx (p.getD j (false,[])):=⟨(h.get j).1,xao (h.get j).2 hk⟩
theorem xb.bz(h:xb k p)(j:Nat):Bz k (cf p j):=(Bz.of (h.get j).1).mono (h.get j).2
theorem xb.mono(h:xb j p)(hk:j<=k):xb k p:=fun z hz=>⟨(h z hz).1,xao (h z hz).2 hk⟩
theorem Bz.zero(k:Nat):Bz k 0:=xbp (by decide)
theorem VM{n:Nat}(h: ∀j,Bz k (f j)):xb k (zi n f):=fun z hz=>by
 unfold zi at hz;obtain⟨j,_,rfl⟩:=xai.1 hz;exact⟨yU _,(h j).len⟩
theorem ll{a1:Int->Zr->Option Zr}(hl:p.length<=1000000)(hf:2000000<fu)(h: ∀j:Nat,j<p.length->a1 (j:Int) (p.getD j (false,[]))=some (yE (g j))):
 zB fu p a1=some (zi p.length g):=by
 unfold zB;rw[yO,yG,zf,aL,za];refine zE (fun s:Int×List Zr=> ∃i:Nat,i<=p.length/\s=((i:Int),zi p.length (fun k=>if k<i then g k else 0))) (fun s=>p.length-s.1.toNat) _ ?_ _ _ ⟨0,xaj _,by rw[y9 (g:=fun k=>if k<0 then g k else 0) (fun k _=>by rw[zx])];rfl⟩ (by show p.length-0<fu;omega);rintro s L ⟨i,hi,rfl⟩ ih;unfold wb;simp only;by_cases h1:i<p.length
 ·rw[zN,za rfl];simp only[if_true];rw[zp h1,zf,za (h i h1),zp (by rw[yN];exact h1),zf,KN,zd];refine ih _ ⟨i+1,by omega,?_⟩ (by show p.length-((i:Int)+1).toNat<p.length-(i:Int).toNat;omega);congr 1;refine y9 fun k hk=> ?_;unfold u5;by_cases e:k=i
  ·rw[iq e,zN,e]
  ·rw[ir e];show(if k<i then g k else 0)=_;by_cases e2:k<i
   ·rw[iq e2,zN]
   ·rw[ir e2,zx]
 ·rw[zx,za rfl];simp only[xak,if_false];congr 1;exact y9 fun k hk=>by rw[zN]
theorem bF(h:f m=0):dg f (m+1)=dg f m:=by conv=>lhs;unfold dg;rw[iq h]
theorem Kf(h:f m≠0):dg f (m+1)=m+1:=by conv=>lhs;unfold dg;rw[ir h]
theorem tN(h:j<m):(p.take m).getD j (false,[])=p.getD j (false,[]):=by
 rw[UV,xbU,iq h,<-UV]
theorem zz(h:xb k p)(hk:k<=100000)(hl:p.length<=1000000)(hf:3000000<=fu):zF fu p=some (qe p.length (cf p)):=by
 unfold zF;have hd:=qf (cf p) p.length;rw[za (v:=p.take (dg (cf p) p.length))]
 ·have ha:(p.take (dg (cf p) p.length)).length=dg (cf p) p.length:=by rw[xay];omega
  rw[za (ll (g:=cf p) (by omega) (by omega) ?_),ha]
  ·rfl
  ·intro j hj;rw[ha]at hj;unfold WV;rw[tN hj,za (um (h.okZ hk j) hf)];rfl
 ·refine zE (fun t:List Zr=> ∃m,m<=p.length/\t=p.take m/\dg (cf p) m=dg (cf p) p.length) (fun t=>t.length) _ ?_ _ _ ⟨p.length,xac _,xcK.symm,rfl⟩ (by omega);rintro t L ⟨m,hm,rfl,hg⟩ ih;have ha:(p.take m).length=m:=by rw[xay];omega
  unfold KQ
  cases m with
  |zero=>
   rw[zx,<-hg];rfl
  |succ m=>
   rw[zN,ha,show((m+1:Nat):Int)-1=(m:Int)by omega,zd,yB,zf,tN (by omega),za (xe (h.okZ hk m) hf),Qm];by_cases h0:cf p m=0
   ·rw[iq (jd.2 h0),zd,yO,yG,zf,List.take_take,show min m (m+1)=m by omega];exact ih _ ⟨m,by omega,rfl,by rw[<-bF h0,hg]⟩ (by rw[ha,xay];omega)
   ·rw[ir (fun e=>h0 (jd.1 e)),<-hg,Kf h0]
end
section
variable{a b:List Zr}{k fu:Nat}{h g:Nat->Zr}
theorem J4(h:max a.length b.length<=k):cf a k+cf b k=0:=by
 rw[z6 (by omega),z6 (by omega)];rfl
theorem Iw(ha:xb k a)(hb:xb k b)(hk:k<=100000)(hf:3000000<=fu)(hc:b.length<=1000000)(j:Nat)(hj:j<b.length):
 ji fu (j:Int) (b.getD j (false,[])) a=some (if j<a.length then yE (cf a j+cf b j)else b.getD j (false,[])):=by
 unfold ji;by_cases h:j<a.length
 ·rw[zN,iq h,zp h,zf,za (vW (hb.okZ hk j) (ha.okZ hk j) hf),Qm,Qm,xfv]
 ·rw[zx,ir h]
def gN(a b:List Zr):List Zr:=(xbc b.length).map fun j=>if j<a.length then yE (cf a j+cf b j)else b.getD j (false,[])
theorem TZ{n:Nat}{j:Nat}(hj:j<n):((xbc n).map h).getD j (false,[])=h j:=by
 rw[UV,xaB,xbg hj];rfl
theorem map_set{n i:Nat}:((xbc n).map h).set i (g i)=(xbc n).map (fun k=>if k=i then g k else h k):=by
 refine xcw fun m=> ?_;rw[xdY];by_cases e:i=m
 ·subst e;rw[iq rfl,xaN,xcy,xaB];by_cases hj:i<n
  ·rw[iq hj,xbg hj];simp
  ·rw[ir hj,xaJ (by simp;omega)];rfl
 ·rw[ir e,xaB,xaB];by_cases hi:m<n
  ·rw[xbg hi];simp[Ne.symm e]
  ·rw[xaJ (by simp;omega)];rfl
theorem zam{p:List Zr}{a1:Int->Zr->Option Zr}(hl:p.length<=1000000)(hf:2000000<fu)(h: ∀j:Nat,j<p.length->a1 (j:Int) (p.getD j (false,[]))=some (g j)):
 zB fu p a1=some ((xbc p.length).map g):=by
 unfold zB;have e0:xaf p.length ((false,[]):Zr)=(xbc p.length).map (fun k=>if k<0 then g k else(false,[])):=by
  rw[aL];unfold zi;exact xbO fun k _=>by rw[ir (xbv k)];rfl
 rw[yO,yG,zf,e0,za];refine zE (fun s:Int×List Zr=> ∃i:Nat,i<=p.length/\s=((i:Int),(xbc p.length).map (fun k=>if k<i then g k else(false,[])))) (fun s=>p.length-s.1.toNat) _ ?_ _ _ ⟨0,xaj _,rfl⟩ (by show p.length-0<fu;omega);rintro s L ⟨i,hi,rfl⟩ ih;unfold wb;simp only;by_cases h1:i<p.length
 ·rw[zN,za rfl];simp only[if_true];rw[zp h1,zf,za (h i h1),zp (by simp;exact h1),zf,map_set,zd];refine ih _ ⟨i+1,by omega,?_⟩ (by show p.length-((i:Int)+1).toNat<p.length-(i:Int).toNat;omega);congr 1;refine xbO fun k hk=> ?_;by_cases e:k=i
  ·rw[iq e,zN,e]
  ·rw[ir e];by_cases e2:k<i
   ·rw[iq e2,zN]
   ·rw[ir e2,zx]
 ·rw[zx,za rfl];simp only[xak,if_false];congr 1;refine xbO fun k hk=> ?_;have:=xaS.1 hk;rw[zN]
theorem FA(ha:xb k a)(hb:xb k b)(hk:k+1<=100000)(hd:b.length<=1000000)(hf:3000000<=fu)(hl:a.length<=b.length):
 bd (zB fu b (fun zx0 zx1=>ji fu zx0 zx1 a)) (fun t1=>bd (zF fu t1) fun t2=>some t2)=some (qe (max a.length b.length) (fun j=>cf a j+cf b j)):=by
 have hL:(gN a b).length=b.length:=by unfold gN;simp
 have hg: ∀j,j<b.length->(gN a b).getD j (false,[])=if j<a.length then yE (cf a j+cf b j)else b.getD j (false,[]):=fun j hj=>by unfold gN;rw[TZ hj]
 have hc: ∀j,cf (gN a b) j=cf a j+cf b j:=fun j=>by
  by_cases hj:j<b.length
  ·conv=>lhs;unfold cf
   rw[hg j hj];by_cases h:j<a.length
   ·rw[iq h,zu]
   ·rw[ir h,z6 (p:=a) (by omega),xcA];rfl
  ·rw[z6 (by omega),z6 (by omega),z6 (by omega)];rfl
 have ho:xb (k+1) (gN a b):=fun z hz=>by
  unfold gN at hz;obtain⟨j,hj,rfl⟩:=xai.1 hz;split
  ·exact⟨yU _,((ha.bz j).add (hb.bz j)).len⟩
  ·exact(hb.mono (xce k)).get j
 rw[za (zam (g:=fun j=>if j<a.length then yE (cf a j+cf b j)else b.getD j (false,[])) hd (by omega) fun j hj=>Iw ha hb (by omega) hf hd j hj)];show bd (zF fu (gN a b)) _=_;rw[za (zz ho hk (by omega) hf),hL];congr 1;refine Uc (fun j hj=>z6 (by omega)) (fun j hj=>J4 hj) hc
theorem J9(ha:xb k a)(hb:xb k b)(hk:k+1<=100000)(hc:a.length<=1000000)(hd:b.length<=1000000)(hf:3000000<=fu):
 wY fu a b=some (qe (max a.length b.length) (fun j=>cf a j+cf b j)):=by
 unfold wY;by_cases h:a.length<b.length
 ·rw[zN];exact FA ha hb hk hd hf (by omega)
 ·rw[zx,Nat.max_comm,show(fun j=>cf a j+cf b j)=(fun j=>cf b j+cf a j)from funext fun j=>xfv _ _];exact FA hb ha hk hc hf (by omega)
theorem Jk{c:Int}(h:a.length<=k):cf a k*c=0:=by rw[z6 h,xaQ]
theorem gI.of{z:Zr}(h:zm z.2/\z.2.length<=k)(hk:k<=100000):gI z:=⟨h.1,xao h.2 hk⟩
theorem qy{l:Nat}{c:Zr}(ha:xb k a)(hc:zm c.2/\c.2.length<=l)(hk:k+l<=100000)(hb:a.length<=1000000)(hf:3000000<=fu):
 wV fu a c=some (qe a.length (fun j=>cf a j*zv c)):=by
 unfold wV;have ho:xb (k+l) (zi a.length (fun j=>cf a j*zv c)):=VM fun j=>(ha.bz j).mul ((Bz.of hc.1).mono hc.2);rw[za (ll (g:=fun j=>cf a j*zv c) hb (by omega) ?_)]
 ·rw[za (zz ho hk (by rw[yN];omega) hf),yN];congr 1;exact Uc (fun j hj=>z6 (by rw[yN];omega)) (fun j hj=>Jk hj) (fun j=>CN (fun j hj=>Jk hj) j)
 ·intro j hj;unfold XE;rw[za (ye (ha.okZ (by omega) j) (gI.of hc (by omega)) hf),Qm]
def UB(a b:List Zr):List Zr:=qe (max a.length b.length) (fun j=>cf a j-cf b j)
theorem y7{n:Nat}{f:Nat->Int}(h: ∀j,Bz k (f j)):xb k (qe n f):=VM h
theorem za4{m:Nat}(hm:m=dg (fun j=>cf b j* -1) b.length):qe (max a.length (qe b.length (fun j=>cf b j* -1)).length) (fun j=>cf a j+cf (qe b.length (fun j=>cf b j* -1)) j)=UB a b:=by
 have e: ∀j,cf (qe b.length (fun j=>cf b j* -1)) j=cf b j* -1:=jq fun j hj=>Jk hj;have hd:=qf (fun j=>cf b j* -1) b.length;refine Uc (fun j hj=>J4 hj) (fun j hj=> ?_) (fun j=> ?_)
 ·rw[z6 (by omega),z6 (by omega)];rfl
 ·rw[e];omega
theorem Bz.one: ∀{k:Nat},1<=k->Bz k (-1):=fun{k} h=>Bz.mono (j:=1) (by unfold Bz;decide) h
theorem jY(ha:xb k a)(hb:xb k b)(hk:k+2<=100000)(hc:a.length<=1000000)(he:b.length<=1000000)(hf:3000000<=fu):
 qN fu a b=some (UB a b):=by
 unfold qN;have hd:=qf (fun j=>cf b j* -1) b.length;rw[za (z8 (by decide) hf),za (qy (l:=1) hb ⟨yU _,(Bz.one (xac _)).len⟩ (by omega) he hf),zu,za (J9 (k:=k+1) (ha.mono (by omega)) (y7 fun j=>(hb.bz j).mul (Bz.one (xac _))) (by omega) hc (by rw[xD];omega) hf),za4 rfl]
end
section
variable{kb ka:Nat}{b a:List Zr}
def H3(b:List Zr)(i k:Nat):Int:=if i<=k then cf b (k-i)else 0
def Xl(a b:List Zr):Nat->Nat->Int
 |0,_=>0
 |n+1,k=>Xl a b n k+cf a n*H3 b n k
def uh(a b:List Zr)(i j k:Nat):Int:=Xl a b i k+if i<=k/\k<i+j then cf a i*cf b (k-i)else 0
def yS(a b:List Zr):List Zr:=qe (a.length+b.length) (Xl a b a.length)
theorem OY(hb:xb kb b)(i k:Nat):Bz kb (H3 b i k):=by
 unfold H3;split
 ·exact hb.bz _
 ·exact Bz.zero _
theorem lH{ka kb:Nat}{a b:List Zr}(ha:xb ka a)(hb:xb kb b): ∀n k,Bz (ka+kb+n) (Xl a b n k)
 |0,k=>Bz.zero _
 |n+1,k=>by
  unfold Xl;have h:=((ha.bz n).mul (OY hb n k)).mono (show ka+kb<=ka+kb+n by omega);exact Bz.add (lH ha hb n k) h
theorem HP(ha:xb ka a)(hb:xb kb b)(i j k:Nat):Bz (ka+kb+i+1) (uh a b i j k):=by
 unfold uh;refine Bz.add (lH ha hb i k) ?_;split
 ·exact((ha.bz i).mul (hb.bz _)).mono (by omega)
 ·exact Bz.zero _
theorem E7{a b:List Zr}{k:Nat}: ∀{n},n+b.length<=k+1->Xl a b n k=0
 |0,_=>rfl
 |n+1,h=>by
  unfold Xl H3;rw[E7 (by omega),zN,z6 (p:=b) (by omega),xas];rfl
theorem fI{k:Nat}(h:a.length+b.length<=k):Xl a b a.length k=0:=E7 (by omega)
theorem BF(a b:List Zr)(i k:Nat):uh a b i 0 k=Xl a b i k:=by
 unfold uh;rw[zx,xbx]
theorem BU(a b:List Zr)(i k:Nat):uh a b i b.length k=Xl a b (i+1) k:=by
 rw[show Xl a b (i+1) k=Xl a b i k+cf a i*H3 b i k from rfl];unfold uh H3;congr 1;by_cases h:i<=k
 ·rw[iq h];by_cases h2:k<i+b.length
  ·rw[if_pos ⟨h,h2⟩]
  ·rw[ir (fun e=>h2 e.2),z6 (p:=b) (by omega),xas]
 ·rw[ir (fun e=>h e.1),ir h,xas]
theorem AJ(a b:List Zr)(i j k:Nat):u5 (uh a b i j) (i+j) (uh a b i j (i+j)+cf a i*cf b j) k=uh a b i (j+1) k:=by
 unfold u5;by_cases h:k=i+j
 ·subst h;rw[iq rfl];unfold uh;rw[zx,if_pos ⟨by omega,by omega⟩,show i+j-i=j by omega,xbx]
 ·rw[ir h];unfold uh;congr 1;by_cases h2:i<=k/\k<i+j
  ·rw[iq h2,if_pos ⟨h2.1,by omega⟩]
  ·rw[ir h2,zx]
theorem xh{fu:Nat}(ha:xb ka a)(hb:xb kb b)(hk:ka+kb+a.length+1<=100000)(hc:b.length<=100000)(hf:3000000<=fu):xg fu a b=some (yS a b):=by
 unfold xg;rw[zd,show(a.length:Int)+(b.length:Int)=((a.length+b.length:Nat):Int)by omega,yO,yG,zf,aL];obtain⟨n,hn⟩: ∃n,n=a.length+b.length:=⟨_,rfl⟩;rw[<-hn,za (v:=zi n (Xl a b a.length))]
 ·rw[za (zz (VM (lH ha hb a.length)) (by omega) (by rw[yN];omega) hf),yN];congr 1;unfold yS;exact Uc (fun j hj=>z6 (by rw[yN];omega)) (fun j hj=>fI hj) (fun j=>CN (fun j hj=>fI (by omega)) j)
 ·refine zE (fun s:Int×List Zr=> ∃i:Nat,i<=a.length/\s=((i:Int),zi n (Xl a b i))) (fun s=>a.length-s.1.toNat) _ ?_ _ _ ⟨0,xaj _,rfl⟩ (by show a.length-0<fu;omega);rintro s L ⟨i,hi,rfl⟩ ih;unfold UM;simp only;by_cases h1:i<a.length
  ·rw[zN,za rfl];simp only[if_true];rw[zp h1,zf,za (v:=zi n (Xl a b (i+1))),zd]
   ·exact ih _ ⟨i+1,by omega,rfl⟩ (by show a.length-((i:Int)+1).toNat<a.length-(i:Int).toNat;omega)
   ·refine zE (fun s:Int×List Zr×Zr=> ∃j:Nat,j<=b.length/\s=((j:Int),zi n (uh a b i j),a.getD i (false,[]))) (fun s=>b.length-s.1.toNat) _ ?_ _ _ ⟨0,xaj _,by rw[y9 fun k _=>(BF a b i k).symm];rfl⟩ (by show b.length-0<fu;omega);rintro s L2 ⟨j,hj,rfl⟩ ih2;unfold UJ;simp only;by_cases h2:j<b.length
    ·rw[zN,za rfl];simp only[if_true];have e:(i:Int)+(j:Int)=((i+j:Nat):Int):=by omega
     have hp:=HP ha hb i j (i+j);rw[zp h2,zf,e,zd,zd,zp (by rw[yN];omega),zf,Yy (by omega),za (ye (ha.okZ (by omega) i) (hb.okZ (by omega) j) hf),Qm,Qm,za (vW (hp.ok (by omega)) (((ha.bz i).mul (hb.bz j)).ok (by omega)) hf),zu,zu,zp (by rw[yN];omega),zf,KN,zd];exact ih2 _ ⟨j+1,by omega,by rw[y9 fun k _=>AJ a b i j k];rfl⟩ (by show b.length-((j:Int)+1).toNat<b.length-(j:Int).toNat;omega)
    ·rw[zx,za rfl];simp only[xak,if_false];obtain rfl:j=b.length:=by omega
     rw[y9 fun k _=>BU a b i k]
  ·rw[zx,za rfl];simp only[xak,if_false];obtain rfl:i=a.length:=by omega
   rfl
theorem YA(ha:xb ka a)(hb:xb kb b):xb (ka+kb+a.length) (yS a b):=y7 (lH ha hb a.length)
theorem Mh(a b:List Zr)(k:Nat):cf (yS a b) k=Xl a b a.length k:=jq (fun j hj=>fI hj) k
theorem jG(a b:List Zr):(yS a b).length<=a.length+b.length:=by unfold yS;rw[xD];exact qf _ _
end
section
variable{f g:Nat->Int}{fu k:Nat}{a:List Zr}{m:Zr}{a2:Zr->Zr->Option (Zr×Int)}
theorem oi{f g:Nat->Int}: ∀{n},(∀k,k<n->f k=g k)->dg f n=dg g n
 |0,_=>rfl
 |n+1,h=>by
  unfold dg;rw[h n (by omega),oi fun k hk=>h k (by omega)]
theorem fJ{n:Nat}(h: ∀k,k<n->f k=g k):qe n f=qe n g:=by
 unfold qe;rw[oi h];have:=qf g n;exact y9 fun k hk=>h k (by omega)
theorem pf{n:Nat}:qe n (cf (zi n f))=qe n f:=fJ fun k hk=>DF hk
theorem FX{l:Nat}{c:Int}(hm:gx m)(h0:0<zv m)(ha:a.length<=1000000)(hl:l<=100000)(hg: ∀j,Bz l (g j))(hf:3000000<=fu)(h: ∀j,j<a.length->a2 (a.getD j (false,[])) m=some (yE (g j),c)):
 vm fu a m a2=some (qe a.length g,0):=by
 unfold vm;rw[za (xe hm.ok hf),ir (fun e=>by have:=lZ.1 e;omega),yO,yG,zf,aL,za (v:=zi a.length g)]
 ·rw[za (zz (VM hg) hl (by rw[yN];omega) hf),yN,pf]
 ·refine zE (fun s:Int×List Zr=> ∃i:Nat,i<=a.length/\s=((i:Int),zi a.length (fun k=>if k<i then g k else 0))) (fun s=>a.length-s.1.toNat) _ ?_ _ _ ⟨0,xaj _,by rw[y9 (g:=fun k=>if k<0 then g k else 0) (fun k _=>by rw[zx])];rfl⟩ (by show a.length-0<fu;omega);rintro s L ⟨i,hi,rfl⟩ ih;unfold Qk;simp only;by_cases h1:i<a.length
  ·rw[zN,za rfl];simp only[if_true];rw[zp h1,zf,za (h i h1)];simp only;rw[zp (by rw[yN];exact h1),zf,KN,zd];refine ih _ ⟨i+1,by omega,?_⟩ (by show a.length-((i:Int)+1).toNat<a.length-(i:Int).toNat;omega);congr 1;refine y9 fun k hk=> ?_;unfold u5;by_cases e:k=i
   ·rw[iq e,zN,e]
   ·rw[ir e];show(if k<i then g k else 0)=_;by_cases e2:k<i
    ·rw[iq e2,zN]
    ·rw[ir e2,zx]
  ·rw[zx,za rfl];simp only[xak,if_false];congr 1;exact y9 fun k hk=>by rw[zN]
theorem tI(hm:gx m)(h0:zv m<=0)(hf:3000000<=fu):vm fu a m a2=some ([],1):=by
 unfold vm;rw[za (xe hm.ok hf),iq (lZ.2 h0)]
def wq(a:List Zr)(m:Int):List Zr:=qe a.length (fun j=>cf a j % m)
def bK(a:List Zr)(m:Int):List Zr:=qe a.length (fun j=>near (cf a j) m)
def Ou(a:List Zr)(m:Int):List Zr×Int:=if m<=0 then([],1)else(wq a m,0)
def IX(a:List Zr)(m:Int):List Zr×Int:=if m<=0 then([],1)else(bK a m,0)
theorem gx.bz{z:Zr}(h:gx z):Bz 40000 (zv z):=(Bz.of h.1).mono h.2
theorem JB(ha:xb k a)(hk:k<=40000)(hm:gx m)(hc:a.length<=1000000)(hf:3000000<=fu):Za fu a m=some (Ou a (zv m)):=by
 unfold Za Ou;by_cases h0:zv m<=0
 ·rw[za (tI hm h0 hf),iq h0]
 ·obtain⟨K,hK⟩: ∃K,K=40000:=⟨_,rfl⟩;have hb:Bz K (zv m):=by rw[hK];exact hm.bz
  rw[ir h0,za (FX (c:=0) (g:=fun j=>cf a j % zv m) hm (by omega) hc (show K<=100000 by omega) (fun j=>hb.emod (by omega)) hf fun j hj=> ?_)]
  ·rfl
  ·show vF fu _ _=_;rw[uq (ha.okS hk j) hm hf];unfold Aw;rw[ir h0];rfl
theorem fc(ha:xb k a)(hk:k<=40000)(hm:gx m)(hc:a.length<=1000000)(hf:3000000<=fu):YI fu a m=some (IX a (zv m)):=by
 unfold YI IX;by_cases h0:zv m<=0
 ·rw[za (tI hm h0 hf),iq h0]
 ·obtain⟨K,hK⟩: ∃K,K=40000:=⟨_,rfl⟩;have hb:Bz K (zv m):=by rw[hK];exact hm.bz
  rw[ir h0,za (FX (c:=0) (g:=fun j=>near (cf a j) (zv m)) hm (by omega) hc (show K<=100000 by omega) (fun j=>hb.near (by omega)) hf fun j hj=> ?_)]
  ·rfl
  ·show Zl fu _ _=_;rw[iQ (ha.okS hk j) hm hf];unfold RL;rw[ir h0];rfl
theorem gQ{ka kb:Nat}{b:List Zr}(ha:xb ka a)(hb:xb kb b)(hk:ka+kb+a.length+1<=40000)(hc:b.length<=40000)(hm:gx m)(hf:3000000<=fu):Wq fu a b m=some (Ou (yS a b) (zv m)):=by
 unfold Wq;have:=jG a b;rw[za (xh ha hb (by omega) (by omega) hf),za (JB (YA ha hb) (by omega) hm (by omega) hf)]
end
section
theorem DR(n:Nat)(f:Nat->Int):qe (qe n f).length (cf (qe n f))=qe n f:=by
 have e: ∀k,k<dg f n->cf (qe n f) k=f k:=fun k hk=>DF hk;have h:dg (cf (qe n f)) (qe n f).length=dg f n:=by
  rw[xD];refine Ur (xac _) (fun k h1 h2=>by omega) ?_;by_cases h0:dg f n=0
  ·exact .inl h0
  ·right;rw[e _ (by omega)];exact WZ f n h0
 show zi (dg (cf (qe n f)) (qe n f).length) (cf (qe n f))=qe n f;rw[h];exact y9 e
theorem zaG{p:List Zr}(h:p=qe p.length (cf p)):p=zi p.length (cf p):=by
 have h2:p.length=dg (cf p) p.length:=by conv=>lhs;rw[h,xD]
 conv=>lhs;rw[h]
 unfold qe;rw[<-h2]
theorem Zw{p:List Zr}(h:p=qe p.length (cf p))(h0:p.length≠0):cf p (p.length-1)≠0:=by
 have h2:p.length=dg (cf p) p.length:=by conv=>lhs;rw[h,xD]
 have:=WZ (cf p) p.length (by omega);rw[<-h2]at this;exact this
theorem Gj{p:List Zr}(h:p=qe p.length (cf p)){j:Nat}(hj:j<p.length):p.getD j (false,[])=yE (cf p j):=by
 conv=>lhs;rw[zaG h]
 exact Yy hj
theorem YH(n:Nat)(f:Nat->Int):qe n f=qe (qe n f).length (cf (qe n f)):=(DR n f).symm
theorem CB{p:List Zr}(h:p=qe p.length (cf p)){l:Nat}(hz: ∀k,l<=k->cf p k=0):p.length<=l:=by
 refine xbw fun ha=> ?_;exact Zw h (by omega) (hz _ (by omega))
def dvF(r d:List Zr)(m:Int)(qn:Nat):Nat->Nat->Int
 |0=>cf r
 |s+1=>fun k=>dvF r d m qn s k-(dvF r d m qn s (qn-(s+1)+(d.length-1)) % m)*H3 d (qn-(s+1)) k
def rq(r d:List Zr)(m:Int)(qn i:Nat):Nat->Int:=dvF r d m qn (qn-i)
def Ht(r d:List Zr)(m:Int)(qn i:Nat):Int:=rq r d m qn (i+1) (i+(d.length-1)) % m
section
variable{r d:List Zr}{m:Int}{qn:Nat}
theorem lv:rq r d m qn qn=cf r:=by unfold rq;rw[xcW];rfl
theorem mm{i:Nat}(h:i<qn)(k:Nat):rq r d m qn i k=rq r d m qn (i+1) k-Ht r d m qn i*H3 d i k:=by
 unfold Ht rq;obtain⟨s,hs⟩: ∃s,s=qn-(i+1):=⟨_,rfl⟩;rw[show qn-i=s+1 by omega,<-hs];show dvF r d m qn s k-(dvF r d m qn s (qn-(s+1)+(d.length-1)) % m)*H3 d (qn-(s+1)) k=_;rw[show qn-(s+1)=i by omega]
theorem CK{K:Nat}(hr:xb K r)(hd:xb K d)(hm:Bz K m)(h0:0<m): ∀s k,Bz (2*K+s) (dvF r d m qn s k)
 |0,k=>(hr.bz k).mono (by omega)
 |s+1,k=>by
  have h:=((Bz.emod (x:=dvF r d m qn s (qn-(s+1)+(d.length-1))) hm h0).mul (OY hd (qn-(s+1)) k)).mono (show K+K<=2*K+s by omega);exact Bz.sub (CK hr hd hm h0 s k) h
theorem HS{K:Nat}(hm:Bz K m)(h0:0<m)(i:Nat):Bz K (Ht r d m qn i):=Bz.emod hm h0
end
theorem Zi{fu k:Nat}{a:List Zr}{m:Zr}(ha:xb k a)(hk:k<=40000)(hm:gx m)(h0:0<zv m)(hb:a.length<=1000000)(hf:3000000<=fu):yV fu a m=some (wq a (zv m)):=by
 unfold yV;rw[za (JB ha hk hm hb hf)];unfold Ou;rw[zx]
theorem Jn{K:Nat}{a:List Zr}{m:Int}(hm:Bz K m)(h0:0<m):xb K (wq a m):=y7 fun j=>Bz.emod hm h0
theorem Ze(a:List Zr)(m:Int):(wq a m).length<=a.length:=by unfold wq;rw[xD];exact qf _ _
theorem jw(a:List Zr)(m:Int)(k:Nat):cf (wq a m) k=cf a k % m:=jq (fun j hj=>by rw[z6 hj,xag]) k
theorem QA(a:List Zr)(m:Int):wq a m=qe (wq a m).length (cf (wq a m)):=YH _ _
def dvQ(r d:List Zr)(m:Int)(qn:Nat):Nat->Int:=fun k=>if k<qn then Ht r d m qn k else 0
def si(r d:List Zr)(m:Int):List Zr:=qe (r.length+1-d.length) (fun k=>dvQ r d m (r.length+1-d.length) k % m)
def Yz(r d:List Zr)(m:Int):List Zr:=qe r.length (fun k=>rq r d m (r.length+1-d.length) 0 k % m)
def eO(r d:List Zr)(m:Int)(qn i j:Nat):Nat->Int:=fun k=>rq r d m qn (i+1) k-if i<=k/\k<i+j then Ht r d m qn i*cf d (k-i)else 0
theorem N9{r d:List Zr}{m:Int}{qn i k:Nat}:eO r d m qn i 0 k=rq r d m qn (i+1) k:=by
 unfold eO;rw[zx,xcB]
theorem Oz{r d:List Zr}{m:Int}{qn i:Nat}(h:i<qn)(k:Nat):eO r d m qn i d.length k=rq r d m qn i k:=by
 rw[mm h];unfold eO H3;congr 1;by_cases h:i<=k
 ·rw[iq h];by_cases h2:k<i+d.length
  ·rw[if_pos ⟨h,h2⟩]
  ·rw[ir (fun e=>h2 e.2),z6 (p:=d) (by omega),xas]
 ·rw[ir (fun e=>h e.1),ir h,xas]
theorem OE(r d:List Zr)(m:Int)(qn i j k:Nat):u5 (eO r d m qn i j) (i+j) (eO r d m qn i j (i+j)-Ht r d m qn i*cf d j) k=eO r d m qn i (j+1) k:=by
 unfold u5;by_cases h:k=i+j
 ·subst h;rw[iq rfl];unfold eO;rw[zx,if_pos ⟨by omega,by omega⟩,show i+j-i=j by omega,xcB]
 ·rw[ir h];unfold eO;congr 1;by_cases h2:i<=k/\k<i+j
  ·rw[iq h2,if_pos ⟨h2.1,by omega⟩]
  ·rw[ir h2,zx]
theorem zcO{K:Nat}{r d:List Zr}{m:Int}{qn i j:Nat}(hr:xb K r)(hd:xb K d)(hm:Bz K m)(h0:0<m)(h:i<qn)(k:Nat):Bz (2*K+qn+1) (eO r d m qn i j k):=by
 unfold eO;refine Bz.sub ((CK hr hd hm h0 _ k).mono (by omega)) ?_;split
 ·exact((HS hm h0 i).mul (hd.bz _)).mono (by omega)
 ·exact Bz.zero _
theorem N5{fu K n i qn:Nat}{r d:List Zr}{m:Zr}{q:Nat->Int}(hr:xb K r)(hd:xb K d)(hm:Bz K (zv m))(h0:0<zv m)(hn:r.length=n)(hq:qn=n+1-d.length)(hb:0<d.length)(hi:i<qn)(hK:2*K+n+5<=40000)(ha:q i=Ht r d (zv m) qn i)(hf:3000000<=fu):
 zj (uG fu d (i:Int)) fu (d,m,0,zi n (rq r d (zv m) qn (i+1)),zi qn q)=some (d,m,zi n (rq r d (zv m) qn i),zi qn q):=by
 refine zE (fun s:List Zr×Zr×Int×List Zr×List Zr=> ∃j:Nat,j<=d.length/\s=(d,m,(j:Int),zi n (eO r d (zv m) qn i j),zi qn q)) (fun s=>d.length-s.2.2.1.toNat) _ ?_ _ _ ⟨0,xaj _,by rw[y9 (f:=eO r d (zv m) qn i 0) fun k _=>N9];rfl⟩ (by show d.length-0<fu;omega);rintro s L ⟨j,hj,rfl⟩ ih;unfold uG;simp only;by_cases h2:j<d.length
 ·rw[zN,za rfl];simp only[if_true];have e:(i:Int)+(j:Int)=((i+j:Nat):Int):=by omega
  have hp:=zcO (j:=j) hr hd hm h0 hi (i+j);have hc:=HS (r:=r) (d:=d) (qn:=qn) hm h0 i;rw[zp h2,zf,e,zd,zd,zp (by rw[yN];omega),zf,Yy (by omega),zp (by rw[yN];omega),zf,Yy hi,ha,za (ye (hc.ok (by omega)) (hd.okZ (by omega) j) hf),Qm,zu,za (vU (hp.ok (by omega)) ((hc.mul (hd.bz j)).ok (by omega)) hf),zu,zu,zp (by rw[yN];omega),zf,KN,zd];exact ih _ ⟨j+1,by omega,by rw[y9 fun k _=>OE r d (zv m) qn i j k];rfl⟩ (by show d.length-((j:Int)+1).toNat<d.length-(j:Int).toNat;omega)
 ·rw[zx,za rfl];simp only[xak,if_false];obtain rfl:j=d.length:=by omega
  rw[y9 fun k _=>Oz hi k]
theorem C0{fu K n qn:Nat}{r d:List Zr}{m:Zr}(hr:xb K r)(ha:r=zi n (cf r))(hd:xb K d)(hm:Bz K (zv m))(hb:zm m.2)(he:m.2.length<=K)(h0:0<zv m)(hn:r.length=n)(hq:qn=n+1-d.length)(hc:0<d.length)(hK:2*K+n+5<=40000)(hg:d.length<=1000000)(hf:3000000<=fu):
 zj (uF fu d m) fu ((qn:Int)-1,r,xaf qn (false,[]))=some (zi n (rq r d (zv m) qn 0),zi qn (dvQ r d (zv m) qn)):=by
 refine zE (fun s:Int×List Zr×List Zr=> ∃i:Nat,i<=qn/\s=((i:Int)-1,zi n (rq r d (zv m) qn i),zi qn (fun k=>if i<=k then Ht r d (zv m) qn k else 0))) (fun s=>(s.1+1).toNat) _ ?_ _ _ ⟨qn,xac _,?_⟩ (by show((qn:Int)-1+1).toNat<fu;omega)
 ·rintro s L ⟨i,hi,rfl⟩ ih;unfold uF;simp only
  cases i with
  |zero=>
   have e0:(zi qn fun k=>if 0<=k then Ht r d (zv m) qn k else 0)=zi qn (dvQ r d (zv m) qn):=y9 fun k hk=>by
    rw[iq (xaj _)];unfold dvQ;rw[iq hk]
   rw[zx,e0]
  |succ i=>
   have e1:((i+1:Nat):Int)-1=(i:Int):=by omega
   have e2:(i:Int)+(d.length:Int)-1=((i+(d.length-1):Nat):Int):=by omega
   have hp:Bz (2*K+qn) (rq r d (zv m) qn (i+1) (i+(d.length-1))):=(CK hr hd hm h0 _ _).mono (by omega);rw[e1,zN,zd,e2,zd,zp (by rw[yN];omega),zf,Yy (by omega),za (uq (hp.okS (by omega)) ⟨hb,by omega⟩ hf),zu];unfold Aw;rw[zx];simp only;rw[zp (by rw[yN];omega),zf,KN,za (N5 (q:=u5 (fun k=>if i+1<=k then Ht r d (zv m) qn k else 0) i (rq r d (zv m) qn (i+1) (i+(d.length-1)) % zv m)) hr hd hm h0 hn hq hc (by omega) hK ?_ hf)]
   ·simp only;rw[zd];refine ih _ ⟨i,by omega,?_⟩ (by show((i:Int)-1+1).toNat<(((i+1:Nat):Int)-1+1).toNat;omega);congr 2;refine y9 fun k hk=> ?_;unfold u5;by_cases h:k=i
    ·rw[iq h,zN,h];rfl
    ·rw[ir h];show(if i+1<=k then _ else _)=_;by_cases h2:i+1<=k
     ·rw[iq h2,zN]
     ·rw[ir h2,zx]
   ·unfold u5;rw[iq rfl];rfl
 ·rw[lv,<-ha,aL,y9 (g:=fun k=>if qn<=k then Ht r d (zv m) qn k else 0) fun k hk=>by rw[zx]]
theorem XI{fu k K:Nat}{a d:List Zr}{m:Zr}(ha:xb k a)(hk:k<=40000)(hd:xb K d)(hb:zm m.2)(hg:m.2.length<=K)(h0:0<zv m)(hi:0<d.length)(hK:2*K+a.length+5<=40000)(hj:d.length<=1000000)(hf:3000000<=fu):
 qt fu a d m=some (si (wq a (zv m)) d (zv m),Yz (wq a (zv m)) d (zv m)):=by
 unfold qt;have hm:Bz K (zv m):=(Bz.of hb).mono hg;have he:gx m:=⟨hb,by omega⟩;have hr:=Jn (a:=a) hm h0;have hl:=Ze a (zv m);have hc:=zaG (QA a (zv m));rw[za (Zi ha hk he h0 (by omega) hf)];generalize wq a (zv m)=r at*
 obtain⟨qn,hq⟩: ∃qn,qn=r.length+1-d.length:=⟨_,rfl⟩;have e1:max ((r.length:Int)-(d.length:Int)+1) 0=(qn:Int):=by omega
 rw[zd,zd,zf,e1,yO,yG,zf,xaU,zd,za (C0 hr hc hd hm hb hg h0 rfl hq hi (by omega) hj hf)];simp only;have hQ: ∀j,Bz K (dvQ r d (zv m) qn j):=fun j=>by
  unfold dvQ;split
  ·exact HS hm h0 j
  ·exact Bz.zero _
 have hR: ∀j,Bz (2*K+qn) (rq r d (zv m) qn 0 j):=fun j=>(CK hr hd hm h0 _ _).mono (by omega);rw[za (Zi (VM hQ) (by omega) he h0 (by rw[yN];omega) hf),za (Zi (VM hR) (by omega) he h0 (by rw[yN];omega) hf)];unfold si Yz wq;rw[<-hq,yN,yN,fJ fun k hk=>by rw[DF hk],fJ (n:=r.length) fun k hk=>by rw[DF hk]]
end
section
variable{k:Nat}{a b:List Zr}
def mono(i:Nat)(c:Int):Nat->Int:=fun k=>if k=i then c else 0
theorem Nc(a b:List Zr)(k:Nat):cf (UB a b) k=cf a k-cf b k:=jq (fun j hj=>by rw[z6 (by omega),z6 (by omega)];rfl) k
theorem Qg(a b:List Zr):(UB a b).length<=max a.length b.length:=by unfold UB;rw[xD];exact qf _ _
theorem lV(ha:xb k a)(hb:xb k b):xb (k+1) (UB a b):=y7 fun j=>(ha.bz j).sub (hb.bz j)
theorem Bz.one': ∀{k:Nat},1<=k->Bz k 1:=fun{k} h=>Bz.mono (j:=1) (by unfold Bz;decide) h
theorem Eg(hl:a.length=b.length)(h: ∀j,j<a.length->a.getD j (false,[])=b.getD j (false,[])):a=b:=by
 refine xeK hl fun j h1 h2=> ?_;have:=h j h1;rw[UV,UV,IR h1,IR h2]at this;exact this
theorem ie{fu:Nat}(ha:xb k a)(hk:k<=1000000)(hb:a.length<=1000000)(hf:3000000<=fu):u6 fu a b=some (decide (a=b)):=by
 unfold u6;by_cases hl:a.length=b.length
 ·rw[zN,za (v:=if a=b then .inl ()else .inr ())]
  ·by_cases h:a=b
   ·rw[iq h,decide_eq_true h]
   ·rw[ir h,decide_eq_false h]
  ·refine zE (fun i:Int=> ∃j:Nat,i=(j:Int)/\j<=a.length/\ ∀l,l<j->a.getD l (false,[])=b.getD l (false,[])) (fun i=>a.length-i.toNat) _ ?_ _ _ ⟨0,rfl,xaj _,fun l h=>absurd h (xbv _)⟩ (by show a.length-0<fu;omega);rintro i L ⟨j,rfl,hj,he⟩ ih;unfold Ku;by_cases h1:j<a.length
   ·have:=(ha.get j).2;rw[zN,zp h1,zf,yB,zf,za (iX (by omega) (by omega))];by_cases h2:a.getD j (false,[])=b.getD j (false,[])
    ·rw[decide_eq_true h2,ir (by decide),zd];refine ih _ ⟨j+1,rfl,by omega,fun l h=> ?_⟩ (by omega);by_cases h3:l=j
     ·rw[h3];exact h2
     ·exact he l (by omega)
    ·rw[decide_eq_false h2,iq (by decide),ir (fun e=>h2 (by rw[e]))]
   ·rw[zx,iq (Eg hl fun l h=>he l (by omega))]
 ·rw[zx,decide_eq_false (fun e=>hl (by rw[e]))]
theorem sQ{d:List Zr}(h:d.length≠0):d.drop (d.length-1)=[d.getD (d.length-1) (false,[])]:=by
 rw[xcv (by omega),xcg (by omega),UV,IR (by omega)];rfl
end
theorem Pt{l:List Nat}(h:(Ty.l .u).ok l):zm l:=fun x hx=>h.2 x hx
theorem zc9{p:List Zr}(h:(Ty.l (.p .b (.l .u))).ok p){k:Nat}(hs: ∀z∈p,z.2.length<=k):xb k p:=fun z hz=>⟨Pt (h.2 z hz).2,hs z hz⟩
def eH(c k:Nat)(p:List Zr):Prop:=p.length<=c/\ ∀z∈p,z.2.length<=k
instance(c k:Nat)(p:List Zr):Decidable (eH c k p):=inferInstanceAs (Decidable (_/\_))
theorem Ox{l:List Zr}{i:Nat}(h:i<l.length):l.getD i (false,[])∈l:=by
 rw[UV,IR h];exact xbh h
theorem zaD{l:List Zr}{q:Zr->Prop}(h: ∀j,j<l.length->q (l.getD j (false,[]))): ∀z∈l,q z:=fun z hz=>by
 obtain⟨j,hj,rfl⟩:=xdy.1 hz;have:=h j hj;rw[UV,IR hj]at this;exact this
section
theorem tX{a b:List Zr}(k:Nat): ∀c,Xl a b (a.length+c) k=Xl a b a.length k
 |0=>rfl
 |c+1=>by
  show Xl a b (a.length+c) k+cf a (a.length+c)*H3 b (a.length+c) k=_;rw[tX k c,z6 (p:=a) (by omega),xaQ,xbx]
theorem Gx{a b:List Zr}{n:Nat}(h:a.length<=n)(k:Nat):Xl a b n k=Xl a b a.length k:=by
 have:=tX (a:=a) (b:=b) k (n-a.length);rw[show a.length+(n-a.length)=n by omega]at this;exact this
theorem mF{a b:List Zr}{m:Int}(h: ∀k,cf a k % m=cf b k % m):wq a m=wq b m:=by
 unfold wq;exact Uc (fun k hk=>by rw[z6 hk,xag]) (fun k hk=>by rw[z6 hk,xag]) h
section
variable{r d:List Zr}{m:Int}
theorem Nr{qn:Nat}{q:List Zr}(hq: ∀j,j<qn->cf q j=Ht r d m qn j)(k:Nat): ∀n,n<=qn->rq r d m qn n k=rq r d m qn 0 k+Xl q d n k
 |0,_=>by show _=_+0;omega
 |n+1,h=>by
  have ih:=Nr hq k n (by omega);rw[mm (i:=n) (by omega)]at ih;show _=_+(Xl q d n k+cf q n*H3 d n k);rw[hq n (by omega)];omega
theorem Ni(j:Nat):cf (si r d m) j=dvQ r d m (r.length+1-d.length) j % m:=jq (fun k hk=>by unfold dvQ;rw[zx,xag]) j
theorem oI{qn:Nat}(hn:r.length<=qn+(d.length-1))(hb:0<d.length)(ha:cf d (d.length-1)=1): ∀c i k,i+c=qn->i+(d.length-1)<=k->rq r d m qn i k % m=0
 |0,i,k,hi,hk=>by
  obtain rfl:i=qn:=by omega
  rw[lv,z6 (by omega),xag]
 |c+1,i,k,hi,hk=>by
  rw[mm (i:=i) (by omega)];by_cases h:k=i+(d.length-1)
  ·unfold H3 Ht;rw[zN,show k-i=d.length-1 by omega,ha,xcf,<-h,<-Int.emod_sub_emod,xcX,xag]
  ·have ih:=oI hn hb ha c (i+1) k (by omega) (by omega);unfold H3;rw[zN,z6 (p:=d) (by omega),xas,xcB];exact ih
theorem aK(h:r.length<=r.length+1-d.length+(d.length-1))(ha:0<d.length)(hb:cf d (d.length-1)=1)(k:Nat):cf (Yz r d m) k=rq r d m (r.length+1-d.length) 0 k % m:=
 jq (fun j hj=>by
  by_cases h2:d.length<=r.length
  ·exact oI h ha hb _ 0 j (xaT _) (by omega)
  ·rw[show r.length+1-d.length=0 by omega,lv,z6 hj,xag]) k
theorem r8(ha:0<d.length)(hb:cf d (d.length-1)=1):(Yz r d m).length<d.length:=by
 have h:(Yz r d m).length<=d.length-1:=CB (YH _ _) fun k hk=>by
  rw[show qe r.length (fun k=>rq r d m (r.length+1-d.length) 0 k % m)=Yz r d m from rfl,aK (by omega) ha hb];exact oI (by omega) ha hb _ 0 k (xaT _) (by omega)
 omega
end
end
section
variable{m:Int}
def zV:Nat->(Nat->Int)->Int
 |0,_=>0
 |n+1,f=>zV n f+f n
theorem zU{f g:Nat->Int}: ∀{n},(∀k,k<n->f k=g k)->zV n f=zV n g
 |0,_=>rfl
 |n+1,h=>by
  show zV n f+f n=zV n g+g n;rw[zU fun k hk=>h k (by omega),h n (by omega)]
theorem Zg(f g:Nat->Int): ∀n,zV n (fun k=>f k+g k)=zV n f+zV n g
 |0=>rfl
 |n+1=>by
  show zV n _+(f n+g n)=zV n f+f n+(zV n g+g n);rw[Zg f g n];omega
theorem jR(c:Int)(f:Nat->Int): ∀n,zV n (fun k=>c*f k)=c*zV n f
 |0=>by show(0:Int)=c*0;omega
 |n+1=>by
  show zV n _+c*f n=c*(zV n f+f n);rw[jR c f n,xeR]
theorem NV(c:Int)(f:Nat->Int)(n:Nat):zV n (fun k=>f k*c)=zV n f*c:=by
 rw[xbi,<-jR];exact zU fun k _=>xbi _ _
theorem yF: ∀{n} {f:Nat->Int},(∀k,k<n->f k=0)->zV n f=0
 |0,_,_=>rfl
 |n+1,f,h=>by
  show zV n f+f n=0;rw[yF fun k hk=>h k (by omega),h n (by omega)];rfl
theorem jL(f:Nat->Int): ∀n,zV (n+1) f=f 0+zV n (fun k=>f (k+1))
 |0=>by show(0:Int)+f 0=f 0+0;omega
 |n+1=>by
  show zV (n+1) f+f (n+1)=f 0+(zV n _+f (n+1));rw[jL f n];omega
theorem E5(f:Nat->Int): ∀n,zV (n+1) f=zV (n+1) (fun k=>f (n-k))
 |0=>rfl
 |n+1=>by
  rw[jL (fun k=>f (n+1-k)) (n+1)];show zV (n+1) f+f (n+1)=f (n+1-0)+_;rw[E5 f n,Nat.sub_zero,zU (f:=fun k=>f (n+1-(k+1))) (g:=fun k=>f (n-k)) fun k _=>by rw[show n+1-(k+1)=n-k by omega]];omega
theorem Dt{f:Nat->Int}{n:Nat}(h: ∀k,n<=k->f k=0): ∀c,zV (n+c) f=zV n f
 |0=>rfl
 |c+1=>by
  show zV (n+c) f+f (n+c)=_;rw[Dt h c,h _ (by omega)];omega
theorem GK(G:Nat->Nat->Int): ∀n,zV n (fun i=>zV (i+1) (fun j=>G j (i-j)))=zV n (fun j=>zV (n-j) (fun l=>G j l))
 |0=>rfl
 |n+1=>by
  show zV n _+zV (n+1) (fun j=>G j (n-j))=zV n _+zV (n+1-n) (fun l=>G n l);rw[GK G n,zU (f:=fun j=>zV (n+1-j) (fun l=>G j l)) (g:=fun j=>zV (n-j) (fun l=>G j l)+G j (n-j)) fun j hj=>by rw[show n+1-j=(n-j)+1 by omega];rfl,Zg,show n+1-n=1 by omega];show _+(zV n (fun j=>G j (n-j))+G n (n-n))=_+(0+G n 0);rw[xcW];omega
abbrev Pz:=Nat->Int
instance:_root_.Add Pz:=⟨fun f g k=>f k+g k⟩
instance:_root_.Sub Pz:=⟨fun f g k=>f k-g k⟩
instance:_root_.Neg Pz:=⟨fun f k=> -f k⟩
instance:_root_.Mul Pz:=⟨fun f g k=>zV (k+1) (fun i=>f i*g (k-i))⟩
def pc(c:Int):Pz:=fun k=>if k=0 then c else 0
theorem zK(f g:Pz)(k:Nat):(f+g) k=f k+g k:=rfl
theorem yA(f g:Pz)(k:Nat):(f-g) k=f k-g k:=rfl
theorem AB(f:Pz)(k:Nat):(-f) k= -f k:=rfl
theorem xk(f g:Pz)(k:Nat):(f*g) k=zV (k+1) (fun i=>f i*g (k-i)):=rfl
theorem zg(f g:Pz):f*g=g*f:=by
 funext k;rw[xk,xk,E5];exact zU fun i hi=>by rw[show k-(k-i)=i by omega,xbi]
theorem xw(f g h:Pz):f*(g+h)=f*g+f*h:=by
 funext k;rw[zK,xk,xk,xk,<-Zg];exact zU fun i _=>by rw[zK,xeR]
theorem yj(f g h:Pz):(f+g)*h=f*h+g*h:=by rw[zg,xw,zg h f,zg h g]
theorem Ns(f g:Pz):f*(-g)= -(f*g):=by
 funext k;rw[AB,xk,xk,show-zV (k+1) (fun i=>f i*g (k-i))= -1*zV (k+1) (fun i=>f i*g (k-i))by omega,<-jR];exact zU fun i _=>by rw[AB,xeu];omega
theorem dQ(f g:Pz):f-g=f+ -g:=by
 funext k;rw[yA,zK,AB];omega
theorem w8(f g h:Pz):f*(g-h)=f*g-f*h:=by rw[dQ,xw,Ns,<-dQ]
theorem w7(f g h:Pz):(f-g)*h=f*h-g*h:=by rw[zg,w8,zg h f,zg h g]
theorem zb(f g h:Pz):f*g*h=f*(g*h):=by
 funext k;have e1:(f*g*h) k=zV (k+1) (fun i=>zV (i+1) (fun j=>(fun j l=>f j*g l*h (k-(j+l))) j (i-j))):=by
  rw[xk];refine zU fun i hi=> ?_;rw[xk,<-NV];exact zU fun j hj=>by
   show f j*g (i-j)*h (k-i)=f j*g (i-j)*h (k-(j+(i-j)));rw[show j+(i-j)=i by omega]
 rw[e1,GK (fun j l=>f j*g l*h (k-(j+l))),xk];refine zU fun j hj=> ?_;rw[xk,<-jR,show k+1-j=k-j+1 by omega];exact zU fun l hl=>by
  show f j*g l*h (k-(j+l))=f j*(g l*h (k-j-l));rw[show k-(j+l)=k-j-l by omega,xbH]
theorem zy(f g h:Pz):f*(g*h)=g*(f*h):=by rw[<-zb,zg f g,zb]
theorem zD(c:Int)(f:Pz)(k:Nat):(pc c*f) k=c*f k:=by
 rw[xk,jL,yF fun i hi=>by show pc c (i+1)*_=0;unfold pc;rw[zx,xaQ]];show(if 0=0 then c else 0)*f (k-0)+0=_;rw[iq rfl,Nat.sub_zero,xbx]
theorem zt(f:Pz):pc 1*f=f:=by funext k;rw[zD,xbX]
theorem yg(f:Pz):pc 0*f=pc 0:=by
 funext k;rw[zD,xaQ];unfold pc;split<;>rfl
theorem zM(k:Nat):pc 0 k=0:=by unfold pc;split<;>rfl
theorem qL(a b:Int):pc a*pc b=pc (a*b):=by
 funext k;rw[zD];unfold pc;split
 ·rfl
 ·exact xas _
def Cg(m:Int)(f g:Pz):Prop:= ∀k,f k % m=g k % m
theorem Cg.rfl{f:Pz}:Cg m f f:=fun _=>Eq.refl _
theorem Cg.of{f g:Pz}(h:f=g):Cg m f g:=fun _=>by rw[h]
theorem Cg.symm{m:Int}{f g:Pz}(h:Cg m f g):Cg m g f:=fun k=>(h k).symm
theorem Cg.trans{m:Int}{f g h:Pz}(h1:Cg m f g)(h2:Cg m g h):Cg m f h:=fun k=>(h1 k).trans (h2 k)
theorem Cg.add{f f' g g':Pz}(h1:Cg m f f')(h2:Cg m g g'):Cg m (f+g) (f'+g'):=fun k=>by
 rw[zK,zK,xdN,h1,h2,<-xdN]
theorem Cg.sub{f f' g g':Pz}(h1:Cg m f f')(h2:Cg m g g'):Cg m (f-g) (f'-g'):=fun k=>by
 rw[yA,yA,Int.sub_emod,h1,h2,<-Int.sub_emod]
theorem Uv{m:Int}{f g:Nat->Int}: ∀{n},(∀k,k<n->f k % m=g k % m)->zV n f % m=zV n g % m
 |0,_=>Eq.refl _
 |n+1,h=>by
  show(zV n f+f n) % m=(zV n g+g n) % m;rw[xdN,Uv fun k hk=>h k (by omega),h n (by omega),<-xdN]
theorem Cg.mul{f f' g g':Pz}(h1:Cg m f f')(h2:Cg m g g'):Cg m (f*g) (f'*g'):=fun k=>by
 rw[xk,xk];exact Uv fun i _=>by rw[xbo,h1,h2,<-xbo]
theorem Cg.down{n:Int}{f g:Pz}(h:Cg m f g)(hd:n∣m):Cg n f g:=fun k=>by
 have:=h k;rw[<-xcC (f k) hd,this,xcC _ hd]
theorem Cg.dvd{f:Pz}(h:Cg m f (pc 0))(k:Nat):m∣f k:=xaH (by rw[h,zM,xag])
theorem Cg.of_dvd{f:Pz}(h: ∀k,m∣f k):Cg m f (pc 0):=fun k=>by rw[zM,xag,xax (h k)]
theorem KE{m:Int}{f:Nat->Int}: ∀{n},(∀k,k<n->m∣f k)->m∣zV n f
 |0,_=>xcJ _
 |n+1,h=>Int.dvd_add (KE fun k hk=>h k (by omega)) (h n (by omega))
theorem Cg.mul_zero{n:Int}{f g:Pz}(hf:Cg m f (pc 0))(hg:Cg n g (pc 0)):Cg (m*n) (f*g) (pc 0):=Cg.of_dvd fun k=>by
 rw[xk];exact KE fun i _=>xfJ (hf.dvd i) (hg.dvd _)
theorem Cg.mul_zero_l{f:Pz}(g:Pz)(hf:Cg m f (pc 0)):Cg m (g*f) (pc 0):=by
 have:=(Cg.rfl (m:=m) (f:=g)).mul hf;rw[zg g (pc 0),yg]at this;exact this
theorem Cg.iff_sub{f g:Pz}:Cg m f g↔Cg m (f-g) (pc 0):=by
 constructor
 ·intro h;refine Cg.of_dvd fun k=> ?_;rw[yA];exact xaH (xaI.1 (h k))
 ·intro h k;have:=xax (h.dvd k);rw[yA]at this;exact xaI.2 this
end
section
variable{m:Int}{f g h s t:Pz}
theorem zL(f:Pz):f*pc 1=f:=by rw[zg,zt]
theorem zbl(f g h s t e q:Pz):f-(g+(t*e+q*g))*(h+(s*e-q*h))=(f-g*h-e)+(e*(pc 1-(s*g+t*h))-(t*s)*(e*e)+(t*h-g*s)*(q*e)+(g*h)*(q*q)):=by
 simp only[xw,yj,w8,w7,zL,zb,zy,zg];funext k;simp only[zK,yA];omega
theorem Ph(g h s t b c:Pz):(s-(s*b-c*h))*g+(t-(t*b+c*g))*h-pc 1=(s*g+t*h-pc 1-b)-(s*g+t*h-pc 1-b)*b-b*b:=by
 simp only[xw,yj,w8,w7,zL,zt,zb,zy,zg];funext k;simp only[zK,yA];omega
theorem Cg.zero_add(hf:Cg m f (pc 0))(hg:Cg m g (pc 0)):Cg m (f+g) (pc 0):=Cg.of_dvd fun k=>by rw[zK];exact Int.dvd_add (hf.dvd k) (hg.dvd k)
theorem Cg.zero_sub(hf:Cg m f (pc 0))(hg:Cg m g (pc 0)):Cg m (f-g) (pc 0):=Cg.of_dvd fun k=>by rw[yA];exact xdo (hf.dvd k) (hg.dvd k)
theorem Cg.mul_zero_r(g:Pz)(hf:Cg m f (pc 0)):Cg m (f*g) (pc 0):=by rw[zg];exact hf.mul_zero_l g
theorem Sm{n:Int}(hm:m∣n*n)(hn:n∣m){e q r g' h':Pz}(h1:Cg n f (g*h))(h2:Cg n (s*g+t*h) (pc 1))(he:Cg m e (f-g*h))(hd:Cg m (s*e) (q*h+r))(hq:Cg n q (pc 0))(hr:Cg n r (pc 0))(hg:Cg m g' (g+(t*e+q*g)))(hh:Cg m h' (h+r)):
 Cg m f (g'*h')/\Cg n g' g/\Cg n h' h:=by
 have ha:Cg n e (pc 0):=(he.down hn).trans (Cg.iff_sub.1 h1);have hb:Cg m r (s*e-q*h):=by
  refine Cg.iff_sub.2 (Cg.of_dvd fun k=> ?_);have:=(Cg.iff_sub.1 hd).dvd k;simp only[zK,yA]at this⊢;have e1:r k-((s*e) k-(q*h) k)= -((s*e) k-((q*h) k+r k)):=by omega
  rw[e1];exact xfK.2 this
 refine⟨?_,?_,?_⟩
 ·refine Cg.trans ?_ (Cg.symm (hg.mul (hh.trans (Cg.rfl.add hb))));refine Cg.iff_sub.2 ?_;rw[zbl];have z1:Cg m (f-g*h-e) (pc 0):=Cg.iff_sub.1 he.symm;have z2:Cg n (pc 1-(s*g+t*h)) (pc 0):=Cg.iff_sub.1 h2.symm;exact z1.zero_add ((((ha.mul_zero z2).down hm).zero_sub (((ha.mul_zero ha).down hm).mul_zero_l _)).zero_add (((hq.mul_zero ha).down hm).mul_zero_l _)|>.zero_add (((hq.mul_zero hq).down hm).mul_zero_l _))
 ·refine(hg.down hn).trans (Cg.iff_sub.2 ?_);have e1:g+(t*e+q*g)-g=t*e+q*g:=by
   funext k;simp only[zK,yA];omega
  rw[e1];exact(ha.mul_zero_l t).zero_add (hq.mul_zero_r g)
 ·refine(hh.down hn).trans (Cg.iff_sub.2 ?_);have e1:h+r-h=r:=by
   funext k;simp only[zK,yA];omega
  rw[e1];exact hr
theorem S5{n:Int}(hm:m∣n*n)(hn:n∣m){b c d s' t':Pz}(h2:Cg n (s*g+t*h) (pc 1))(hb:Cg m b (s*g+t*h-pc 1))(hd:Cg m (s*b) (c*h+d))(hs:Cg m s' (s-d))(ht:Cg m t' (t-(t*b+c*g))):
 Cg m (s'*g+t'*h) (pc 1):=by
 have ha:Cg n b (pc 0):=(hb.down hn).trans (Cg.iff_sub.1 h2);have hc:Cg m d (s*b-c*h):=by
  refine Cg.iff_sub.2 (Cg.of_dvd fun k=> ?_);have:=(Cg.iff_sub.1 hd).dvd k;simp only[zK,yA]at this⊢;have e1:d k-((s*b) k-(c*h) k)= -((s*b) k-((c*h) k+d k)):=by omega
  rw[e1];exact xfK.2 this
 refine((hs.trans (Cg.rfl.sub hc)).mul Cg.rfl|>.add (ht.mul Cg.rfl)).trans (Cg.iff_sub.2 ?_);rw[Ph];have z1:Cg m (s*g+t*h-pc 1-b) (pc 0):=Cg.iff_sub.1 hb.symm;exact(z1.zero_sub (z1.mul_zero_r b)).zero_sub ((ha.mul_zero ha).down hm)
end
section
variable{a p:Int}{fu j m:Nat}{f g:Pz}{l:List Int}
theorem Fe(hp:0<p):(if xbZ a p<0 then xbZ a p+p else xbZ a p)=a % p:=by
 have h1:=xcS a (show p≠0 by omega);have h2:=xdv a hp;rw[Int.tmod_eq_emod];by_cases h:0<=a\/p∣a
 ·rw[iq h,zx];omega
 ·rw[ir h,zN];omega
theorem ux(ha:0<=a):xbZ a p=a % p:=by
 rw[Int.tmod_eq_emod,iq (.inl ha)];omega
theorem yh(hp:0<p):0<=a % p/\a % p<p:=⟨xcS a (by omega),xdv a hp⟩
theorem uV(h1:1<=p)(h2:p<=65521)(ha:VW a):jH fu a p=some (a % p):=by
 unfold jH;obtain⟨a1,a2⟩:=ha;have hr:=yh (a:=a) (p:=p) (by omega);have ht:=Fe (a:=a) (p:=p) (by omega);rw[zx,yG,zf];by_cases h:xbZ a p<0
 ·rw[iq h]at ht;rw[iq h,zd,ht]
 ·rw[ir h]at ht;rw[ir h,ht]
def zl(n:Nat)(f:Pz):List Int:=(xbc n).map f
def ci(l:List Int):Pz:=fun k=>l.getD k 0
def nl(n:Nat)(f:Pz):List Int:=zl (dg f n) f
theorem Zc(l:List Int)(k:Nat):l.getD k 0=ci l k:=rfl
theorem zI(n:Nat)(f:Pz):(zl n f).length=n:=by unfold zl;simp
theorem vO{n:Nat}(h:j<n):(zl n f).getD j 0=f j:=by
 unfold zl;rw[UV,xaB,xbg h];rfl
theorem yo{n:Nat}(h: ∀k,k<n->f k=g k):zl n f=zl n g:=by
 unfold zl;exact xbO fun k hk=>h k (xaS.1 hk)
theorem jF{n:Nat}{v:Int}:(zl n f).set j v=zl n (u5 f j v):=by
 refine xcw fun i=> ?_;unfold zl u5;rw[xdY];by_cases h:j=i
 ·subst h;rw[iq rfl,xaN,xcy,xaB];by_cases hj:j<n
  ·rw[iq hj,xbg hj];simp
  ·rw[ir hj,xaJ (by simp;omega)];rfl
 ·rw[ir h,xaB,xaB];by_cases hi:i<n
  ·rw[xbg hi];simp[Ne.symm h]
  ·rw[xaJ (by simp;omega)];rfl
theorem QM(n:Nat):xaf n 0=zl n (fun _=>0):=by
 unfold zl;rw[List.map_const',xcy]
theorem zcW{n:Nat}:zl n f++[f n]=zl (n+1) f:=by
 unfold zl;rw[xdD,xaO];rfl
theorem C8{n:Nat}(h:m<=n):(zl n f).take m=zl m f:=by
 unfold zl;rw[<-List.map_take,List.take_range,xcZ h]
theorem jc{n:Nat}(h:j<n):ci (zl n f) j=f j:=vO h
theorem zQ(h:l.length<=j):ci l j=0:=by
 unfold ci;rw[UV,xaJ h];rfl
theorem uo{n:Nat}(h: ∀k,n<=k->f k=0)(j:Nat):ci (zl n f) j=f j:=by
 by_cases hj:j<n
 ·exact jc hj
 ·rw[zQ (by rw[zI];omega),h j (by omega)]
theorem Fa(l:List Int):zl l.length (ci l)=l:=by
 refine xeK (zI _ _) fun j h1 h2=> ?_;have h3:(zl l.length (ci l)).getD j 0=l.getD j 0:=jc (n:=l.length) (f:=ci l) h2;rw[UV,UV,IR h1,IR h2]at h3;exact h3
theorem Tt(n:Nat)(f:Pz):(nl n f).length=dg f n:=zI _ _
theorem Aa(n:Nat)(f:Pz):(nl n f).length<=n:=by rw[Tt];exact qf _ _
theorem mI{n:Nat}(h: ∀k,n<=k->f k=0)(j:Nat):ci (nl n f) j=f j:=by
 refine uo (fun k hk=> ?_) j;by_cases hn:k<n
 ·exact Js f n k hk hn
 ·exact h k (by omega)
theorem zfW{n:Nat}(hf: ∀k,n<=k->f k=0)(hg: ∀k,m<=k->g k=0)(h: ∀k,f k=g k):dg f n=dg g m:=by
 refine Ur ?_ ?_ ?_
 ·refine xbw fun ha=> ?_;have:=WZ g m (by omega);rw[<-h,hf _ (by omega)]at this;exact this rfl
 ·intro k h1 h2;rw[h];by_cases hk:k<m
  ·exact Js g m k h1 hk
  ·exact hg k (by omega)
 ·by_cases h0:dg g m=0
  ·exact .inl h0
  ·right;rw[h];exact WZ g m h0
theorem zek{n:Nat}(hf: ∀k,n<=k->f k=0)(hg: ∀k,m<=k->g k=0)(h: ∀k,f k=g k):nl n f=nl m g:=by
 unfold nl;rw[zfW hf hg h];exact yo fun k _=>h k
theorem mr{n:Nat}(h: ∀k,k<n->f k=g k):nl n f=nl n g:=by
 unfold nl;rw[oi h];have:=qf g n;exact yo fun k hk=>h k (by omega)
def Nl(l:List Int):Prop:=l.length=0\/ci l (l.length-1)≠0
theorem gJ(n:Nat)(f:Pz):Nl (nl n f):=by
 by_cases h:(nl n f).length=0
 ·exact .inl h
 ·right;rw[Tt]at h⊢;unfold nl;rw[jc (by omega)];exact WZ f n h
theorem Nl.eq(h:Nl l):l=nl l.length (ci l):=by
 have e:dg (ci l) l.length=l.length:=Ur (xac _) (fun k h1 h2=>by omega) (h.imp id id);unfold nl;rw[e,Fa]
theorem Nl.ext{a b:List Int}(ha:Nl a)(hb:Nl b)(h: ∀k,ci a k=ci b k):a=b:=by
 rw[ha.eq,hb.eq];exact zek (fun k hk=>zQ hk) (fun k hk=>zQ hk) h
theorem Nl.le(h:Nl l){n:Nat}(hz: ∀k,n<=k->ci l k=0):l.length<=n:=by
 refine xbw fun ha=> ?_;rcases h with h|h
 ·omega
 ·exact h (hz _ (by omega))
def Rl(l:List Int):Prop:= ∀k,VW (ci l k)
structure Fp(p:Int)(l:List Int):Prop where
 nn: ∀k,0<=ci l k
 lt: ∀k,ci l k<p
 nl:Nl l
def pm(p:Int)(l:List Int):List Int:=nl l.length (fun k=>ci l k % p)
theorem sY(p:Int)(l:List Int)(k:Nat):ci (pm p l) k=ci l k % p:=mI (fun k hk=>by rw[zQ hk,xag]) k
theorem M1(p:Int)(l:List Int):(pm p l).length<=l.length:=Aa _ _
theorem px(hp:0<p)(l:List Int):Fp p (pm p l):=⟨fun k=>by rw[sY];exact(yh hp).1,fun k=>by rw[sY];exact(yh hp).2,gJ _ _⟩
theorem Fq(p:Int)(l:List Int):Cg p (ci (pm p l)) (ci l):=fun k=>by rw[sY,xaD]
theorem Fp.mod(h:Fp p l)(k:Nat):ci l k % p=ci l k:=xaz (h.nn k) (h.lt k)
theorem Fp.pm{p:Int}{l:List Int}(h:Fp p l):pm p l=l:=by
 refine Nl.ext (gJ _ _) h.nl fun k=> ?_;exact(sY p l k).trans (h.mod k)
theorem Fp.ext{p:Int}{a b:List Int}(ha:Fp p a)(hb:Fp p b)(h:Cg p (ci a) (ci b)):a=b:=Nl.ext ha.nl hb.nl fun k=>by rw[<-ha.mod,h,hb.mod]
theorem Fp.rl(h:Fp p l)(hp:p<=65521):Rl l:=fun k=>by
 have h1:=h.nn k;have h2:=h.lt k;exact⟨by omega,by omega⟩
theorem zG(h1:1<=p)(h2:p<=65521)(hr:Rl l)(hl:l.length<=1000000)(hf:3000000<=fu):zS fu l p=some (pm p l):=by
 unfold zS;have hd:=qf (fun k=>ci l k % p) l.length;rw[yO,yG,zf,QM,za (v:=zl l.length (fun k=>ci l k % p))]
 ·rw[za (v:=pm p l)];refine zE (fun t:List Int=> ∃m,m<=l.length/\t=zl m (fun k=>ci l k % p)/\dg (fun k=>ci l k % p) m=dg (fun k=>ci l k % p) l.length) (fun t=>t.length) _ ?_ _ _ ⟨l.length,xac _,rfl,rfl⟩ (by rw[zI];omega);rintro t L ⟨m,hm,rfl,hg⟩ ih;unfold JJ;rw[zI]
  cases m with
  |zero=>
   rw[zx];unfold pm nl;rw[<-hg];rfl
  |succ m=>
   rw[zN,show((m+1:Nat):Int)-1=(m:Int)by omega,zd,yB,zf,vO (by omega)];by_cases h0:ci l m % p=0
   ·rw[iq h0,zd,yO,yG,zf,C8 (by omega)];exact ih _ ⟨m,by omega,rfl,by rw[<-bF (f:=fun k=>ci l k % p) h0,hg]⟩ (by rw[zI,zI];omega)
   ·rw[ir h0];unfold pm nl;rw[<-hg,Kf (f:=fun k=>ci l k % p) h0]
 ·refine zE (fun s:Int×List Int=> ∃i:Nat,i<=l.length/\s=((i:Int),zl l.length (fun k=>if k<i then ci l k % p else 0))) (fun s=>l.length-s.1.toNat) _ ?_ _ _ ⟨0,xaj _,by rw[yo (g:=fun k=>if k<0 then ci l k % p else 0) (fun k _=>by rw[zx])];rfl⟩ (by show l.length-0<fu;omega);rintro s L ⟨i,hi,rfl⟩ ih;unfold JC;simp only;by_cases h:i<l.length
  ·rw[zN,zp h,zf,Zc,za (uV h1 h2 (hr i)),zp (by rw[zI];exact h),zf,jF,zd];refine ih _ ⟨i+1,by omega,?_⟩ (by show l.length-((i:Int)+1).toNat<l.length-(i:Int).toNat;omega);congr 1;refine yo fun k hk=> ?_;unfold u5;by_cases e:k=i
   ·rw[iq e,zN,e]
   ·rw[ir e];show(if k<i then ci l k % p else 0)=_;by_cases e2:k<i
    ·rw[iq e2,zN]
    ·rw[ir e2,zx]
  ·rw[zx];congr 1;exact yo fun k hk=>by rw[zN]
end
section
variable{f g:Pz}{p:Int}{fu:Nat}{a b:List Int}
def sh(g:Pz)(i k:Nat):Int:=if i<=k then g (k-i)else 0
def re(f g:Pz)(n k:Nat):Int:=zV n (fun i=>f i*sh g i k)
theorem cj{n:Nat}(hf: ∀k,n<=k->f k=0)(k:Nat):re f g n k=(f*g) k:=by
 have e1:=Dt (f:=fun i=>f i*sh g i k) (n:=n) (fun i hi=>by rw[hf i hi,xaQ]) (k+1);have e2:=Dt (f:=fun i=>f i*sh g i k) (n:=k+1) (fun i hi=>by unfold sh;rw[zx,xas]) n;rw[xdA]at e2;unfold re;rw[<-e1,e2,xk];exact zU fun i hi=>by unfold sh;rw[zN]
theorem FM(a b:List Zr)(k:Nat): ∀n,Xl a b n k=re (cf a) (cf b) n k
 |0=>rfl
 |n+1=>by
  show Xl a b n k+cf a n*H3 b n k=re (cf a) (cf b) n k+cf a n*sh (cf b) n k;rw[FM a b k n];rfl
theorem qv(a b:List Zr):cf (yS a b)=(cf a:Pz)*cf b:=by
 funext k;rw[Mh,FM,cj fun j hj=>z6 hj]
def cP(f g:Pz)(i j k:Nat):Int:=re f g i k+if i<=k/\k<i+j then f i*g (k-i)else 0
theorem tP(f g:Pz)(i k:Nat):cP f g i 0 k=re f g i k:=by
 unfold cP;rw[zx,xbx]
theorem tw{n:Nat}(hg: ∀k,n<=k->g k=0)(i k:Nat):cP f g i n k=re f g (i+1) k:=by
 show _=re f g i k+f i*sh g i k;unfold cP sh;congr 1;by_cases h:i<=k
 ·rw[iq h];by_cases h2:k<i+n
  ·rw[if_pos ⟨h,h2⟩]
  ·rw[ir (fun e=>h2 e.2),hg _ (by omega),xas]
 ·rw[ir (fun e=>h e.1),ir h,xas]
theorem tC(f g:Pz)(p:Int)(i j k:Nat):u5 (fun k=>cP f g i j k % p) (i+j) ((cP f g i j (i+j) % p+f i*g j) % p) k=cP f g i (j+1) k % p:=by
 unfold u5;by_cases h:k=i+j
 ·subst h;rw[iq rfl,Int.emod_add_emod];unfold cP;rw[zx,if_pos ⟨by omega,by omega⟩,show i+j-i=j by omega,xbx]
 ·rw[ir h];show cP f g i j k % p=_;unfold cP;congr 2;by_cases h2:i<=k/\k<i+j
  ·rw[iq h2,if_pos ⟨h2.1,by omega⟩]
  ·rw[ir h2,zx]
def y4(p:Int)(a b:List Int):List Int:=nl (a.length+b.length) (fun k=>(ci a*ci b) k % p)
theorem vA{n m:Nat}(hf: ∀k,n<=k->f k=0)(hg: ∀k,m<=k->g k=0){k:Nat}(h:n+m<=k+1):(f*g) k=0:=by
 rw[xk];refine yF fun i hi=> ?_;by_cases h1:i<n
 ·rw[hg (k-i) (by omega),xas]
 ·rw[hf i (by omega),xaQ]
theorem QP(p:Int)(a b:List Int)(k:Nat):ci (y4 p a b) k=(ci a*ci b) k % p:=mI (fun k hk=>by rw[vA (fun j hj=>zQ hj) (fun j hj=>zQ hj) (by omega),xag]) k
theorem ky(p:Int)(a b:List Int):Cg p (ci (y4 p a b)) (ci a*ci b):=fun k=>by rw[QP,xaD]
theorem vJ(hp:0<p)(a b:List Int):Fp p (y4 p a b):=⟨fun k=>by rw[QP];exact(yh hp).1,fun k=>by rw[QP];exact(yh hp).2,gJ _ _⟩
theorem qk(p:Int)(a b:List Int):(y4 p a b).length<=a.length+b.length:=Aa _ _
theorem YK{x y:Int}(h2:p<=65521)(hx:0<=x)(ha:x<p)(hy:0<=y)(hb:y<p):0<=x*y/\x*y<=4293001441:=by
 refine⟨xcz hx hy,?_⟩;have h1:x*y<=65521*y:=xby (by omega) hy;omega
theorem wh(h1:1<=p)(h2:p<=65521)(ha:Fp p a)(hb:Fp p b)(hc:a.length<=100000)(hd:b.length<=100000)(hf:3000000<=fu):xR fu a b p=some (y4 p a b):=by
 unfold xR;obtain⟨n,hn⟩: ∃n,n=a.length+b.length:=⟨_,rfl⟩;rw[zd,show(a.length:Int)+(b.length:Int)=(n:Int)by omega,yO,yG,zf,QM,za (v:=zl n (fun k=>re (ci a) (ci b) a.length k % p))]
 ·have hz: ∀k,n<=k->re (ci a) (ci b) a.length k % p=0:=fun k hk=>by rw[cj (fun j hj=>zQ hj),vA (fun j hj=>zQ hj) (fun j hj=>zQ hj) (by omega),xag]
  have hr:Rl (zl n (fun k=>re (ci a) (ci b) a.length k % p)):=fun k=>by
   rw[uo hz];have:=yh (a:=re (ci a) (ci b) a.length k) (p:=p) (by omega);exact⟨by omega,by omega⟩
  rw[za (zG h1 h2 hr (by rw[zI];omega) hf)];congr 1;unfold pm y4;rw[zI,<-hn];exact mr fun k hk=>by rw[jc hk,xaD,cj (fun j hj=>zQ hj)]
 ·refine zE (fun s:Int×List Int=> ∃i:Nat,i<=a.length/\s=((i:Int),zl n (fun k=>re (ci a) (ci b) i k % p))) (fun s=>a.length-s.1.toNat) _ ?_ _ _ ⟨0,xaj _,by rw[yo (g:=fun k=>re (ci a) (ci b) 0 k % p) fun k _=>by show(0:Int)=0 % p;rw[xag]];rfl⟩ (by show a.length-0<fu;omega);rintro s L ⟨i,hi,rfl⟩ ih;unfold Vi;simp only;by_cases h3:i<a.length
  ·rw[zN,za rfl];simp only[if_true];rw[zp h3,zf,za (v:=zl n (fun k=>re (ci a) (ci b) (i+1) k % p)),zd]
   ·exact ih _ ⟨i+1,by omega,rfl⟩ (by show a.length-((i:Int)+1).toNat<a.length-(i:Int).toNat;omega)
   ·refine zE (fun s:Int×List Int=> ∃j:Nat,j<=b.length/\s=((j:Int),zl n (fun k=>cP (ci a) (ci b) i j k % p))) (fun s=>b.length-s.1.toNat) _ ?_ _ _ ⟨0,xaj _,by rw[yo fun k _=>by rw[<-tP]];rfl⟩ (by show b.length-0<fu;omega);rintro s L2 ⟨j,hj,rfl⟩ ih2;unfold VE;simp only;by_cases h4:j<b.length
    ·rw[zN,za rfl];simp only[if_true];have e:(i:Int)+(j:Int)=((i+j:Nat):Int):=by omega
     have r1:=yh (a:=cP (ci a) (ci b) i j (i+j)) (p:=p) (by omega);obtain⟨r2,r3⟩:=YK h2 (ha.nn i) (ha.lt i) (hb.nn j) (hb.lt j);rw[zp h4,zf,e,zd,zd,zp (by rw[zI];omega),zf,vO (by omega),Zc,Zc,zd,zd,yG,zf,ux (by omega),zp (by rw[zI];omega),zf,jF,zd];exact ih2 _ ⟨j+1,by omega,by rw[yo fun k _=>tC (ci a) (ci b) p i j k];rfl⟩ (by show b.length-((j:Int)+1).toNat<b.length-(j:Int).toNat;omega)
    ·rw[zx,za rfl];simp only[xak,if_false];obtain rfl:j=b.length:=by omega
     rw[yo fun k _=>by rw[tw (fun k hk=>zQ hk)]]
  ·rw[zx,za rfl];simp only[xak,if_false];obtain rfl:i=a.length:=by omega
   rfl
def ZN(p:Int)(a b:List Int)(c:Int):List Int:=nl (max a.length b.length) (fun k=>(ci a k+c*ci b k) % p)
theorem B2(p:Int)(a b:List Int)(c:Int)(k:Nat):ci (ZN p a b c) k=(ci a k+c*ci b k) % p:=mI (fun k hk=>by rw[zQ (by omega),zQ (by omega),xas];exact xag _) k
theorem CQ(p:Int)(a b:List Int)(c:Int):Cg p (ci (ZN p a b c)) (ci a+pc c*ci b):=fun k=>by rw[B2,xaD,zK,zD]
theorem QX(hp:0<p)(a b:List Int)(c:Int):Fp p (ZN p a b c):=⟨fun k=>by rw[B2];exact(yh hp).1,fun k=>by rw[B2];exact(yh hp).2,gJ _ _⟩
theorem lU(p:Int)(a b:List Int)(c:Int):(ZN p a b c).length<=max a.length b.length:=Aa _ _
theorem zfa{n:Nat}(h:a.length<=n):RK (xaf n 0) a=zl n (ci a):=by
 unfold RK;rw[xaU,xcZ h,xcK,List.drop_replicate];refine xeK (by rw[xau,xaU,zI];omega) fun j h1 h2=> ?_;have h3:=jc (n:=n) (f:=ci a) (j:=j) (by rw[zI]at h2;exact h2);have e:(a++xaf (n-a.length) 0).getD j 0=a.getD j 0:=by
  rw[UV,List.getElem?_append];by_cases hj:j<a.length
  ·rw[iq hj,<-UV]
  ·rw[ir hj,Zc,zQ (by omega),xeY];split<;>rfl
 have h4:(zl n (ci a)).getD j 0=a.getD j 0:=h3;rw[<-h4,UV,UV,IR h1,IR h2]at e;exact e
theorem WU{c:Int}(h1:1<=p)(h2:p<=65521)(ha:Fp p a)(hb:Fp p b)(hc:0<=c)(hd:c<p)(hg:a.length<=100000)(hj:b.length<=100000)(hf:3000000<=fu):uJ fu a b c p=some (ZN p a b c):=by
 unfold uJ;obtain⟨n,hn⟩: ∃n,n=max a.length b.length:=⟨_,rfl⟩;have hz: ∀k,n<=k->ci a k+c*ci b k=0:=fun k hk=>by rw[zQ (by omega),zQ (by omega),xas];rfl
 have he: ∀k,0<=ci a k+c*ci b k/\ci a k+c*ci b k<=4293066962:=fun k=>by
  obtain⟨r2,r3⟩:=YK h2 hc hd (hb.nn k) (hb.lt k);have:=ha.nn k;have:=ha.lt k;omega
 rw[zf,show max (a.length:Int) (b.length:Int)=(n:Int)by omega,yO,yG,zf,zf,zfa (by omega),za (v:=zl n (fun k=>ci a k+c*ci b k))]
 ·have hr:Rl (zl n (fun k=>ci a k+c*ci b k)):=fun k=>by
   rw[uo hz];have:=he k;exact⟨by omega,by omega⟩
  rw[za (zG h1 h2 hr (by rw[zI];omega) hf)];congr 1;unfold pm ZN;rw[zI,<-hn];exact mr fun k hk=>by rw[jc hk]
 ·refine zE (fun s:Int×List Int=> ∃i:Nat,i<=b.length/\s=((i:Int),zl n (fun k=>ci a k+if k<i then c*ci b k else 0))) (fun s=>b.length-s.1.toNat) _ ?_ _ _ ⟨0,xaj _,by rw[yo (f:=ci a) (g:=fun k=>ci a k+if k<0 then c*ci b k else 0) fun k _=>by rw[zx,xbx]];rfl⟩ (by show b.length-0<fu;omega);rintro s L ⟨i,hi,rfl⟩ ih;unfold U1;simp only;by_cases h3:i<b.length
  ·rw[zN,za rfl];simp only[if_true];obtain⟨r2,r3⟩:=YK h2 hc hd (hb.nn i) (hb.lt i);have:=ha.nn i;have:=ha.lt i;rw[zp h3,zf,zp (by rw[zI];omega),zf,vO (by omega),ir (Nat.lt_irrefl i),xbx,Zc,zd,zd,zp (by rw[zI];omega),zf,jF,zd];refine ih _ ⟨i+1,by omega,?_⟩ (by show b.length-((i:Int)+1).toNat<b.length-(i:Int).toNat;omega);congr 1;refine yo fun k hk=> ?_;unfold u5;by_cases e:k=i
   ·rw[iq e,zN,e]
   ·rw[ir e];show ci a k+(if k<i then c*ci b k else 0)=_;by_cases e2:k<i
    ·rw[iq e2,zN]
    ·rw[ir e2,zx]
  ·rw[zx,za rfl];simp only[xak,if_false];congr 1;refine yo fun k hk=> ?_;by_cases e2:k<i
   ·rw[iq e2]
   ·rw[ir e2,zQ (l:=b) (by omega),xas]
end
section
variable{p a fu:Nat}
theorem Uo(hp:2<=p)(h:vB p)(h0:0<a)(h1:a<p):xeg p a=1:=by
 obtain⟨g,hg⟩: ∃g,g=xeg p a:=⟨_,rfl⟩;have d1:g∣p:=by rw[hg];exact Nat.gcd_dvd_left _ _
 have d2:g∣a:=by rw[hg];exact Nat.gcd_dvd_right _ _
 have hc:g<=a:=Nat.le_of_dvd h0 d2;have ha:0<g:=Nat.pos_of_dvd_of_pos d1 (by omega);rw[<-hg];refine xcR (xbw fun h2=> ?_) ha;by_cases hs:g*g<=p
 ·exact h g (by omega) hs (Nat.mod_eq_zero_of_dvd d1)
 ·obtain⟨d,hd⟩:=d1;have he:d<g:=by
   refine xdJ fun h3=>hs ?_;rw[hd];exact xaA _ h3
  have hb:2<=d:=by
   refine xbw fun h3=> ?_;have:d=0\/d=1:=by omega
   rcases this with e|e
   ·rw[e,xdi]at hd;omega
   ·rw[e,xcD]at hd;omega
  refine h d hb ?_ ?_
  ·rw[hd];exact xar _ (by omega)
  ·rw[hd];exact Nat.mul_mod_left _ _
theorem jQ{p:Int}(hp:wG p=true)(hf:400<fu):wc fu p=some 0:=by
 unfold wc;rw[za (YD hf),hp];rfl
structure IvI(p a:Nat)(r0 r1:Nat)(t0 t1:Int):Prop where
 lt:r1<r0
 two:2<=r0
 le:r0<=p
 c0:(p:Int)∣(r0:Int)-t0*a
 c1:(p:Int)∣(r1:Int)-t1*a
 g:xeg r0 r1=1
 s: ∃u0 u1:Nat,((t0=u0/\t1= -u1)\/(t0= -u0/\t1=u1))/\r0*u1+r1*u0=p
theorem IvI.step{r0 r1:Nat}{t0 t1:Int}(h:IvI p a r0 r1 t0 t1)(h2:2<=r1):IvI p a r1 (r0 % r1) t1 (t0-((r0/r1:Nat):Int)*t1)/\(((r0/r1:Nat):Int)*t1).natAbs<=p/\(t0-((r0/r1:Nat):Int)*t1).natAbs<=p:=by
 have hd:=xbD r0 r1;have hf:=xbq r0 (show 0<r1 by omega);obtain⟨u0,u1,hs,he⟩:=h.s;generalize hq:r0/r1=q at*
 generalize hr:r0 % r1=r2 at*
 have hg:=h.le;have hi:=h.lt;have e1:r1*(u0+q*u1)+r2*u1=p:=by
  rw[xbm,<-xbe];have:r0*u1=r1*q*u1+r2*u1:=by rw[<-xaV,hd]
  omega
 have hb:u0+q*u1<=p:=by
  have h3:1*(u0+q*u1)<=r1*(u0+q*u1):=xar _ (by omega);omega
 have ha:((q*u1:Nat):Int)=(q:Int)*(u1:Int):=by simp
 have hc:((t1=u1/\t0-(q:Int)*t1= -((u0+q*u1:Nat):Int))\/(t1= -u1/\t0-(q:Int)*t1=((u0+q*u1:Nat):Int)))/\((q:Int)*t1).natAbs<=p:=by
  rcases hs with⟨a1,a2⟩|⟨a1,a2⟩
  ·rw[a1,a2,xeu,<-ha];exact⟨.inr ⟨rfl,by omega⟩,by omega⟩
  ·rw[a1,a2,<-ha];exact⟨.inl ⟨rfl,by omega⟩,by omega⟩
 refine⟨⟨hf,h2,by omega,h.c1,?_,?_,u1,u0+q*u1,hc.1,e1⟩,hc.2,by rcases hc.1 with⟨_,e⟩|⟨_,e⟩<;>omega⟩
 ·have h3:=xdo h.c0 (xbC h.c1 (xcL (q:Int) _));have e2:(r0:Int)-t0*a-(q:Int)*((r1:Int)-t1*a)=(r2:Int)-(t0-(q:Int)*t1)*a:=by
   rw[Int.mul_sub,xfL,xbH];have:(r0:Int)=(r1:Int)*(q:Int)+(r2:Int):=by rw[<-hd];simp
   rw[this,xbi (r1:Int)];omega
  rw[e2]at h3;exact h3
 ·have h3:=h.g;rw[<-hr,xew,<-Nat.gcd_rec,xew];exact h3
theorem zaF(hp:p<=65521)(hf:70000<fu){t:Int}: ∀{r0 r1:Nat} {t0 t1:Int},IvI p a r0 r1 t0 t1-> ∀n,r1<n-> ∃x:Int,zj (aF fu) n ((r0:Int),(r1:Int),t0,t1)=some (.inl x)/\(p:Int)∣1-x*a/\x.natAbs<=p:=by
 intro r0 r1
 induction r1 using xdq generalizing r0 with
 |_ r1 ih=>
  intro t0 t1 h n hn;obtain⟨n,rfl⟩: ∃k,n=k+1:=⟨n-1,by omega⟩;rw[qW];unfold aF;simp only;have hb:=h.lt;have ha:=h.two;have hc:=h.le;by_cases h0:r1=0
  ·have:=h.g;rw[h0,Nat.gcd_zero_right]at this;omega
  ·rw[zx];by_cases h1:r1=1
   ·rw[zN];refine⟨t1,rfl,?_,?_⟩
    ·have:=h.c1;rw[h1]at this;exact this
    ·obtain⟨u0,u1,hs,he⟩:=h.s;have h3:1*u1<=r0*u1:=xar _ (by omega);rcases hs with⟨_,e⟩|⟨_,e⟩<;>omega
   ·obtain⟨s1,s2,s3⟩:=h.step (by omega);have e1:xda (r0:Int) (r1:Int)=((r0/r1:Nat):Int):=rfl;have hd:=xbD r0 r1;have e2:((r0/r1:Nat):Int)*(r1:Int)=((r1*(r0/r1):Nat):Int):=by rw[xbi];simp
    have hg:((r0/r1:Nat):Int)<=(r0:Int):=Int.ofNat_le.2 (xdW _ _);have hi:(0:Int)<=((r0/r1:Nat):Int):=xdb _;rw[zx,yG,e1,zd,e2,zd,show(r0:Int)-((r1*(r0/r1):Nat):Int)=((r0 % r1:Nat):Int)by omega,zd,zd,zd];exact ih (r0 % r1) (xbq _ (by omega)) s1 n (by have:=xbq r0 (show 0<r1 by omega);omega)
theorem Vv{p a:Int}(hp:wG p=true)(h0:0<a)(h1:a<p)(hf:3000000<=fu): ∃x,Y5 fu a p=some (x,0)/\0<=x/\x<p/\(x*a) % p=1:=by
 obtain⟨p1,p2⟩:=zo hp;have ha:vB p.toNat:=by
  refine xad fun h=> ?_;rw[dj (fun e=>h e.2.2)]at hp;exact absurd hp (by decide)
 obtain⟨P,rfl⟩:=xaC (show 0<=p by omega);obtain⟨A,rfl⟩:=xaC (show 0<=a by omega);have hI:IvI P A P A 0 1:=⟨by omega,by omega,xac _,by rw[xaQ,xcB];exact xdO _,by rw[xbX,xcX];exact xcJ _,Uo (by omega) ha (by omega) (by omega),0,1,.inr ⟨rfl,rfl⟩,by omega⟩;obtain⟨x,k1,k2,k3⟩:=zaF (fu:=fu) (t:=0) (show P<=65521 by omega) (by omega) hI fu (by omega);have hr:=yh (a:=x) (p:=(P:Int)) (by omega);refine⟨x % P,?_,hr.1,hr.2,?_⟩
 ·unfold Y5;rw[za (jQ hp (by omega)),iq rfl,za (uV (by omega) (by omega) ⟨by omega,by omega⟩),xaz (a:=(A:Int)) (by omega) (by omega),za k1];simp only;rw[za (uV (by omega) (by omega) ⟨by omega,by omega⟩)]
 ·rw[xbo,xaD,<-xbo];have:=xaI.2 (xax k2);rw[<-this];exact xaz (by decide) (by omega)
end
section
variable{p x:Int}{fu i qn:Nat}{a b:List Int}{R Q:Pz}
theorem yq{α β:Type}{f:(β->Option α)->β->Option α}(I:β->Prop)(m:β->Nat)(Q:α->Prop)
 (step: ∀s L,I s->(∀s',I s'->m s'<m s-> ∃r,L s'=some r/\Q r)-> ∃r,f L s=some r/\Q r): ∀(n:Nat) (s:β),I s->m s<n-> ∃r,zj f n s=some r/\Q r
 |0,s,_,h=>absurd h (xbv _)
 |n+1,s,hI,h=>step s _ hI fun s' ha hm=>yq I m Q step n s' ha (by omega)
theorem xU{f:Nat->Int}{i:Nat}(h: ∀k,k≠i->f k=0): ∀n,zV n f=if i<n then f i else 0
 |0=>by rw[ir (xbv _)];rfl
 |n+1=>by
  show zV n f+f n=_;rw[xU h n];by_cases h1:i<n
  ·rw[iq h1,zN,h n (by omega),xbx]
  ·rw[ir h1,xcA];by_cases h2:n=i
   ·rw[zN,h2]
   ·rw[zx,h n h2]
theorem Y3(i:Nat)(c:Int)(g:Pz)(k:Nat):((mono i c:Pz)*g) k=c*sh g i k:=by
 rw[xk,xU (i:=i) fun j hj=>by show mono i c j*_=0;unfold mono;rw[ir hj,xaQ]];unfold sh;by_cases h:i<=k
 ·rw[zN,iq h];unfold mono;rw[iq rfl]
 ·rw[zx,ir h,xas]
theorem v8(x:Int):ci [x]=pc x:=by
 funext k
 cases k with
 |zero=>rfl
 |succ k=>exact zQ (by simp)
theorem Yc(h0:0<x)(h1:x<p):Fp p [x]:=⟨fun k=>by rw[v8];unfold pc;split<;>omega,fun k=>by rw[v8];unfold pc;split<;>omega,.inr (by show x≠0;omega)⟩
theorem Il(h:0<p):Fp p []:=⟨fun k=>by rw[zQ (xaj _)];omega,fun k=>by rw[zQ (xaj _)];exact h,.inl rfl⟩
theorem Nn{c:Int}(h:0<=x)(hx:(x*c) % p=1):0<x:=by
 rcases Int.lt_or_eq_of_le h with h|h
 ·exact h
 ·rw[<-h,xaQ,xag]at hx;cases hx
theorem VG{c:Int}(hp:wG p=true)(ha:Fp p a)(h0:0<c)(h1:c<p)(hb:a.length<=90000)(hf:3000000<=fu): ∃x,0<x/\x<p/\(x*c) % p=1/\Y5 fu c p=some (x,0)/\vk fu a c p=some (y4 p a [x]):=by
 obtain⟨p1,p2⟩:=zo hp;obtain⟨x,e1,e2,e3,e4⟩:=Vv hp h0 h1 hf;have hx:=Nn e2 e4;refine⟨x,hx,e3,e4,e1,?_⟩;unfold vk;rw[za e1];simp only;rw[za (wh (by omega) p2 ha (Yc hx e3) (by omega) (by simp) hf)]
def UC(R g:Pz)(p c:Int)(i j:Nat):Pz:=fun k=>if i<=k/\k<i+j then(R k+(p-c)*g (k-i)) % p else R k
theorem Ow(R g:Pz)(p c:Int)(i j k:Nat):u5 (UC R g p c i j) (i+j) ((R (i+j)+(p-c)*g j) % p) k=UC R g p c i (j+1) k:=by
 unfold u5;by_cases h:k=i+j
 ·subst h;rw[iq rfl];unfold UC;rw[if_pos ⟨by omega,by omega⟩,show i+j-i=j by omega]
 ·rw[ir h];unfold UC;by_cases h2:i<=k/\k<i+j
  ·rw[iq h2,if_pos ⟨h2.1,by omega⟩]
  ·rw[ir h2,zx]
theorem OB{g:Pz}{c:Int}{n:Nat}(hR: ∀k,R k % p=R k)(hg: ∀k,n<=k->g k=0)(k:Nat):UC R g p c i n k % p=(R k-c*sh g i k) % p:=by
 unfold UC sh;by_cases h:i<=k/\k<i+n
 ·rw[iq h,iq h.1,xaD,xfL];refine xaI.2 (xax ⟨g (k-i),?_⟩);omega
 ·rw[ir h];by_cases h2:i<=k
  ·rw[iq h2,hg _ (by omega),xas,xcB]
  ·rw[ir h2,xas,xcB]
theorem NX{n:Nat}{c:Int}(h1:1<=p)(h2:p<=65521)(hb:Fp p b)(hR: ∀k,0<=R k/\R k<p)(hc:0<=c)(ha:c<p)(hd:i+b.length<=n)(hn:n<=100000)(hf:3000000<=fu):
 zj (Zv fu b (i:Int) c) fu (b,p,x,0,zl n R,zl qn Q)=some (b,p,x,zl n (UC R (ci b) p c i b.length),zl qn Q):=by
 refine zE (fun s:List Int×Int×Int×Int×List Int×List Int=> ∃j:Nat,j<=b.length/\s=(b,p,x,(j:Int),zl n (UC R (ci b) p c i j),zl qn Q)) (fun s=>b.length-s.2.2.2.1.toNat) _ ?_ _ _ ⟨0,xaj _,by rw[yo (f:=R) (g:=UC R (ci b) p c i 0) fun k _=>by unfold UC;rw[zx]];rfl⟩ (by show b.length-0<fu;omega);rintro s L ⟨j,hj,rfl⟩ ih;unfold Zv;simp only;by_cases h3:j<b.length
 ·rw[zN,za rfl];simp only[if_true];have e:(i:Int)+(j:Int)=((i+j:Nat):Int):=by omega
  have e2:UC R (ci b) p c i j (i+j)=R (i+j):=by unfold UC;rw[zx]
  obtain⟨r1,r2⟩:=hR (i+j);have r3:0<=(p-c)*ci b j:=xcz (by omega) (hb.nn j);have r4:(p-c)*ci b j<=65521*ci b j:=xby (by omega) (hb.nn j);have r5:=hb.lt j;rw[zp h3,zf,e,zd,zd,zp (by rw[zI];omega),zf,vO (by omega),Zc,e2,zd,zd,zd,yG,zf,ux (by omega),zp (by rw[zI];omega),zf,jF,zd];exact ih _ ⟨j+1,by omega,by rw[yo fun k _=>Ow R (ci b) p c i j k];rfl⟩ (by show b.length-((j:Int)+1).toNat<b.length-(j:Int).toNat;omega)
 ·rw[zx,za rfl];simp only[xak,if_false];obtain rfl:j=b.length:=by omega
  rfl
structure FdI(p:Int)(a b:List Int)(qn i:Nat)(R Q:Pz):Prop where
 hi:i<=qn
 rr: ∀k,0<=R k/\R k<p
 qr: ∀k,0<=Q k/\Q k<p
 rz: ∀k,i+(b.length-1)<=k->R k=0
 ql: ∀k,k<i->Q k=0
 qz: ∀k,qn<=k->Q k=0
 cg:Cg p (ci a) (Q*ci b+R)
theorem FdI.step(h1:1<=p)(h:FdI p a b qn (i+1) R Q)(hb:0<b.length)(hx:(x*ci b (b.length-1)) % p=1):
 FdI p a b qn i (UC R (ci b) p (R (i+(b.length-1))*x % p) i b.length) (u5 Q i (R (i+(b.length-1))*x % p)):=by
 obtain⟨c,hc⟩: ∃c,c=R (i+(b.length-1))*x % p:=⟨_,rfl⟩;have hi:=h.hi;have he:=yh (a:=R (i+(b.length-1))*x) (p:=p) (by omega);rw[<-hc]at he⊢;have hf: ∀k,R k % p=R k:=fun k=>xaz (h.rr k).1 (h.rr k).2;have ha:=OB (g:=ci b) (c:=c) (i:=i) (n:=b.length) hf (fun k hk=>zQ hk);have hd: ∀k,0<=UC R (ci b) p c i b.length k/\UC R (ci b) p c i b.length k<p:=fun k=>by
  unfold UC;split
  ·exact yh (by omega)
  ·exact h.rr k
 have hg: ∀k,u5 Q i c k=(Q+(mono i c:Pz)) k:=fun k=>by
  rw[zK];unfold u5 mono;by_cases hk:k=i
  ·rw[iq hk,iq hk,h.ql k (by omega),xcA]
  ·rw[ir hk,ir hk,xbx]
 refine⟨by omega,hd,fun k=> ?_,fun k hk=> ?_,fun k hk=> ?_,fun k hk=> ?_,?_⟩
 ·unfold u5;split
  ·exact he
  ·exact h.qr k
 ·have h3:=xaz (hd k).1 (hd k).2;rw[<-h3,ha];by_cases hj:k=i+(b.length-1)
  ·unfold sh;rw[zN,show k-i=b.length-1 by omega,hc,hj,Int.sub_emod,xbo,xaD,<-xbo,xbH,xbo _ (x*_),hx,xcf,xaD,<-Int.sub_emod,xcX,xag]
  ·unfold sh;rw[h.rz k (by omega),zN,zQ (l:=b) (by omega),xas,xcB,xag]
 ·unfold u5;rw[zx];exact h.ql k (by omega)
 ·unfold u5;rw[zx];exact h.qz k hk
 ·refine h.cg.trans fun k=> ?_;rw[show u5 Q i c=Q+(mono i c:Pz)from funext hg,yj,zK,zK,zK,Y3,xdN (_+_),ha,<-xdN];congr 1;omega
theorem xf(hp:wG p=true)(ha:Fp p a)(hb:Fp p b)(he:0<b.length)(hr:a.length<=90000)(hs:b.length<=90000)(hf:3000000<=fu):
 ∃q r,xi fu a b p=some (q,r)/\Fp p q/\Fp p r/\Cg p (ci a) (ci q*ci b+ci r)/\r.length<b.length/\q.length<=a.length:=by
 obtain⟨p1,p2⟩:=zo hp;unfold xi;rw[q9 (by simp;omega),zf,xbF,zd];by_cases hl:a.length<b.length
 ·rw[zN];refine⟨[],a,rfl,Il (by omega),ha,Cg.of ?_,hl,xaj _⟩;funext k;rw[zK,show ci []=pc 0 from funext fun j=>by rw[zQ (xaj _),zM],yg,zM,xcA]
 ·obtain⟨qn,hq⟩: ∃qn,qn=a.length-b.length+1:=⟨_,rfl⟩;have ho:ci b (b.length-1)≠0:=by
   rcases hb.nl with h|h
   ·omega
   ·exact h
  have t1:=hb.nn (b.length-1);have t2:=hb.lt (b.length-1);obtain⟨x,e1,e2,e3,e4⟩:=Vv (fu:=fu) hp (show 0<ci b (b.length-1)by omega) t2 hf;have c1:(b.length:Int)-1=((b.length-1:Nat):Int):=by omega
  have c2:(a.length:Int)-(b.length:Int)+1=(qn:Int):=by omega
  rw[zx,c1,zd,yB,zf,Zc,za e1];simp only;rw[zd,c2,yO,yG,zf]
  have hc:=yq (f:=ZC fu b p x) (fun s:Int×List Int×List Int=> ∃(i:Nat) (R Q:Pz),s=((i:Int)-1,zl a.length R,zl qn Q)/\FdI p a b qn i R Q) (fun s=>(s.1+1).toNat)
   (fun r=> ∃R Q:Pz,r=(zl a.length R,zl qn Q)/\FdI p a b qn 0 R Q) (by
    rintro s L ⟨i,R,Q,rfl,h⟩ ih;unfold ZC;simp only
    cases i with
    |zero=>
     rw[zx];exact⟨_,rfl,R,Q,rfl,h⟩
    |succ i=>
     have hi:=h.hi;obtain⟨r1,r2⟩:=h.rr (i+(b.length-1));obtain⟨r3,r4⟩:=YK p2 r1 r2 e2 e3;have hd:=yh (a:=R (i+(b.length-1))*x) (p:=p) (by omega);rw[show((i+1:Nat):Int)-1=(i:Int)by omega,zN,zd,show(i:Int)+(b.length:Int)-1=((i+(b.length-1):Nat):Int)by omega,zd,zp (by rw[zI];omega),zf,vO (by omega),zd,yG,zf,ux r3,zp (by rw[zI];omega),zf,jF,za (NX (by omega) p2 hb h.rr hd.1 hd.2 (by omega) (by omega) hf)];simp only;rw[zd];exact ih _ ⟨i,_,_,rfl,h.step (by omega) he e4⟩ (by show((i:Int)-1+1).toNat<(((i+1:Nat):Int)-1+1).toNat;omega))
   fu ((a.length:Int)-(b.length:Int),a,xaf qn 0) ⟨qn,ci a,fun _=>0,by rw[Fa,QM,show(a.length:Int)-(b.length:Int)=(qn:Int)-1 by omega],xac _,fun k=>⟨ha.nn k,ha.lt k⟩,fun k=>⟨xeS _,by omega⟩,fun k hk=>zQ (by omega),fun k _=>rfl,fun k _=>rfl,Cg.of (by
    funext k;rw[zK,show((fun _=>0:Pz))=pc 0 from funext fun j=>(zM j).symm,yg,zM,xcA])⟩ (by show((a.length:Int)-(b.length:Int)+1).toNat<fu;omega)
  obtain⟨_,hg,R,Q,rfl,h⟩:=hc;rw[za hg];simp only;have hm:Rl (zl a.length R):=fun k=>by
   rw[uo fun j hj=>h.rz j (by omega)];have:=h.rr k;exact⟨by omega,by omega⟩
  have hn:Rl (zl qn Q):=fun k=>by
   rw[uo h.qz];have:=h.qr k;exact⟨by omega,by omega⟩
  rw[za (zG (by omega) p2 hn (by rw[zI];omega) hf),za (zG (by omega) p2 hm (by rw[zI];omega) hf)];refine⟨_,_,rfl,px (by omega) _,px (by omega) _,?_,?_,?_⟩
  ·refine h.cg.trans (Cg.add (Cg.mul (Cg.symm ((Fq p _).trans (Cg.of (funext (uo h.qz))))) Cg.rfl) (Cg.symm ((Fq p _).trans (Cg.of (funext (uo fun j hj=>h.rz j (by omega)))))))
  ·have:=(px (p:=p) (by omega) (zl a.length R)).nl.le (n:=b.length-1) fun k hk=>by rw[sY,uo (fun j hj=>h.rz j (by omega)),h.rz k (by omega),xag]
   omega
  ·have:=M1 p (zl qn Q);rw[zI]at this;omega
end
section
variable{p:Int}{fu N:Nat}{r0 s0 t0 r1 s1 t1 g h:List Int}{f:Pz}
theorem zfw(f:Pz):Cg p (pc (p-1)*f) (-f):=fun k=>by
 rw[zD,AB,xfL,xbX];refine xaI.2 (xax ⟨f k,?_⟩);omega
theorem Qt(a b:List Int):Cg p (ci (ZN p a b (p-1))) (ci a-ci b):=by
 refine(CQ p a b (p-1)).trans ?_;rw[dQ];exact Cg.rfl.add (zfw _)
theorem iH{S:Nat}(hp:wG p=true)(ha:Fp p r0)(hg:Fp p s0)(hj:Fp p t0)(hb:Fp p r1)(hk:Fp p s1)(hl:Fp p t1)(h0:0<r1.length)(l1:r0.length<=N)(l2:r1.length<=N)(l3:s0.length<=S)(l4:t0.length<=S)(l5:s1.length<=S)(l6:t1.length<=S)(hN:N<=9000)(hS:S<=90000)(hf:3000000<=fu):
 ∃q,Fp p q/\q.length<=N/\Cg p (ci r0) (ci q*ci r1+ci (ZN p r0 (y4 p q r1) (p-1)))/\(ZN p r0 (y4 p q r1) (p-1)).length<r1.length/\
  Zm fu [r0,s0,t0] [r1,s1,t1] p=some [ZN p r0 (y4 p q r1) (p-1),ZN p s0 (y4 p q s1) (p-1),ZN p t0 (y4 p q t1) (p-1)]:=by
 obtain⟨p1,p2⟩:=zo hp;obtain⟨q,r,e1,hq,hr,hc,hm,ht⟩:=xf (fu:=fu) hp ha hb h0 (by omega) (by omega) hf;have hd:ZN p r0 (y4 p q r1) (p-1)=r:=by
  refine Fp.ext (QX (by omega) _ _ _) hr ((Qt r0 (y4 p q r1)).trans ?_);refine(hc.sub (ky p q r1)).trans (Cg.of ?_);funext k;simp only[zK,yA];omega
 refine⟨q,hq,by omega,by rw[hd];exact hc,by rw[hd];exact hm,?_⟩;unfold Zm;have f1:=qk p q r1;have f2:=qk p q s1;have f3:=qk p q t1;rw[show(0:Int)=((0:Nat):Int)from rfl,zp (by decide),zp (by decide),zf];show bd (xi fu r0 r1 p) _=_;rw[za e1];simp only;rw[za (v:=([ZN p r0 (y4 p q r1) (p-1),ZN p s0 (y4 p q s1) (p-1),ZN p t0 (y4 p q t1) (p-1)],xaf 3 []))];obtain⟨n,hn⟩: ∃n,fu=n+4:=⟨fu-4,by omega⟩
 have step: ∀(L:List Int×Int×List (List Int)×List (List Int)->Option (List (List Int)×List (List Int))) (i:Nat) (x y z u:List Int) (ts:List (List Int)),i<3->ts.length=3->ts.getD i []=x->[r1,s1,t1].getD i []=y->Fp p x->Fp p y->x.length<=90000->y.length<=90000->
  j7 fu [r1,s1,t1] p L (q,(i:Int),ts,xaf 3 [])=L (q,((i+1:Nat):Int),ts.set i (ZN p x (y4 p q y) (p-1)),xaf 3 []):=fun L i x y z u ts hi hu hx hy ho hs hv hw=>by
  unfold j7;simp only;have f4:=qk p q y;rw[zN,za rfl];simp only[if_true];rw[zp hi,zp hi,zf,hx,hy,za (wh (by omega) p2 hq hs (by omega) (by omega) hf),zd,za (WU (by omega) p2 ho (vJ (by omega) _ _) (by omega) (by omega) (by omega) (by omega) hf),zp hi,zf,zd];rfl
 have he:zj (j7 fu [r1,s1,t1] p) (n+4) (q,((0:Nat):Int),[r0,s0,t0],xaf 3 [])=some ([ZN p r0 (y4 p q r1) (p-1),ZN p s0 (y4 p q s1) (p-1),ZN p t0 (y4 p q t1) (p-1)],xaf 3 []):=by
  rw[qW,step _ 0 r0 r1 [] [] _ (by decide) rfl rfl rfl ha hb (by omega) (by omega),qW,step _ 1 s0 s1 [] [] _ (by decide) rfl rfl rfl hg hk (by omega) (by omega),qW,step _ 2 t0 t1 [] [] _ (by decide) rfl rfl rfl hj hl (by omega) (by omega),qW];unfold j7;simp only;rw[ir (by decide),za rfl];rfl
 rw[<-hn]at he;exact he
def Fs(f:Pz):Prop:= ∃n,∀k,n<=k->f k=0
theorem Fs.add{g:Pz}(hf:Fs f)(hg:Fs g):Fs (f+g):=by
 obtain⟨n,hn⟩:=hf;obtain⟨m,hm⟩:=hg;exact⟨n+m,fun k hk=>by rw[zK,hn k (by omega),hm k (by omega)];rfl⟩
theorem Fs.mul{g:Pz}(hf:Fs f)(hg:Fs g):Fs (f*g):=by
 obtain⟨n,hn⟩:=hf;obtain⟨m,hm⟩:=hg;exact⟨n+m,fun k hk=>vA hn hm (by omega)⟩
theorem Fs.pc(c:Int):Fs (pc c):=⟨1,fun k hk=>by unfold Go.Proofs.YtmggkmchbdanfaaGreat.pc;rw[zx]⟩
theorem Fs.ci(l:List Int):Fs (ci l):=⟨l.length,fun k hk=>zQ hk⟩
theorem Fs.cf(l:List Zr):Fs (cf l):=⟨l.length,fun k hk=>z6 hk⟩
structure BzR(p:Int)(g h d s t:List Int)(S:Nat):Prop where
 df:Fp p d
 sf:Fp p s
 tf:Fp p t
 cg:Cg p (ci d) (ci s*ci g+ci t*ci h)
 dv: ∃A C:Pz,Fs A/\Fs C/\Cg p (ci g) (A*ci d)/\Cg p (ci h) (C*ci d)
 dl:d.length<=S
 sl:s.length<=S
 tl:t.length<=S
structure BzI(p:Int)(g h r0 s0 t0 r1 s1 t1:List Int)(N:Nat):Prop where
 f0:Fp p r0
 g0:Fp p s0
 h0:Fp p t0
 f1:Fp p r1
 g1:Fp p s1
 h1:Fp p t1
 c0:Cg p (ci r0) (ci s0*ci g+ci t0*ci h)
 c1:Cg p (ci r1) (ci s1*ci g+ci t1*ci h)
 dv: ∃A B C D:Pz,Fs A/\Fs B/\Fs C/\Fs D/\Cg p (ci g) (A*ci r0+B*ci r1)/\Cg p (ci h) (C*ci r0+D*ci r1)
 l0:r0.length<=N
 l1:r1.length<=N
 b0:s0.length<=1+N*(N+1-r1.length)
 b1:t0.length<=1+N*(N+1-r1.length)
 b2:s1.length<=1+N*(N+1-r1.length)
 b3:t1.length<=1+N*(N+1-r1.length)
theorem BzI.step(hI:BzI p g h r0 s0 t0 r1 s1 t1 N)(hp:wG p=true)(hN:N<=290)(hr:0<r1.length)(hf:3000000<=fu):
 ∃r2 s2 t2,Zm fu [r0,s0,t0] [r1,s1,t1] p=some [r2,s2,t2]/\r2.length<r1.length/\BzI p g h r1 s1 t1 r2 s2 t2 N:=by
 obtain⟨p1,p2⟩:=zo hp;have hb:1+N*(N+1-r1.length)<=90000:=by
  have:N*(N+1-r1.length)<=290*290:=xbE hN (by omega);omega
 have hd:=hI.l0;have ha:=hI.l1;have hg:=hI.b0;have hi:=hI.b1;have hj:=hI.b2;have hk:=hI.b3;obtain⟨q,hq,hm,hc,hl,he⟩:=iH (fu:=fu) (S:=1+N*(N+1-r1.length)) hp hI.f0 hI.g0 hI.h0 hI.f1 hI.g1 hI.h1 hr hd ha hg hi hj hk (by omega) hb hf;refine⟨_,_,_,he,hl,hI.f1,hI.g1,hI.h1,QX (by omega) _ _ _,QX (by omega) _ _ _,QX (by omega) _ _ _,hI.c1,?_,?_,ha,by omega,?_,?_,?_,?_⟩
 ·refine(Qt _ _).trans ((hI.c0.sub ((ky p q r1).trans (Cg.rfl.mul hI.c1))).trans ?_);refine Cg.trans (Cg.of ?_) (Cg.symm (((Qt s0 (y4 p q s1)).trans (Cg.rfl.sub (ky p q s1))).mul (Cg.rfl (f:=ci g))|>.add (((Qt t0 (y4 p q t1)).trans (Cg.rfl.sub (ky p q t1))).mul (Cg.rfl (f:=ci h)))));simp only[xw,yj,w8,w7,zb];funext k;simp only[zK,yA];omega
 ·obtain⟨A,B,C,D,z1,z2,z3,z4,d1,d2⟩:=hI.dv;refine⟨A*ci q+B,A,C*ci q+D,C,(z1.mul (Fs.ci q)).add z2,z1,(z3.mul (Fs.ci q)).add z4,z3,?_,?_⟩
  ·refine d1.trans (((Cg.rfl (f:=A)).mul hc|>.add Cg.rfl).trans (Cg.of ?_));simp only[xw,yj,zb];funext k;simp only[zK];omega
  ·refine d2.trans (((Cg.rfl (f:=C)).mul hc|>.add Cg.rfl).trans (Cg.of ?_));simp only[xw,yj,zb];funext k;simp only[zK];omega
 ·have:N*(N+1-r1.length)<=N*(N+1-(ZN p r0 (y4 p q r1) (p-1)).length):=xaA _ (by omega);omega
 ·have:N*(N+1-r1.length)<=N*(N+1-(ZN p r0 (y4 p q r1) (p-1)).length):=xaA _ (by omega);omega
 ·have h1:=lU p s0 (y4 p q s1) (p-1);have h2:=qk p q s1;have h3:N*(N+1-r1.length+1)<=N*(N+1-(ZN p r0 (y4 p q r1) (p-1)).length):=xaA _ (by omega);rw[xbm,xcD]at h3;omega
 ·have h1:=lU p t0 (y4 p q t1) (p-1);have h2:=qk p q t1;have h3:N*(N+1-r1.length+1)<=N*(N+1-(ZN p r0 (y4 p q r1) (p-1)).length):=xaA _ (by omega);rw[xbm,xcD]at h3;omega
theorem OZ(hp:wG p=true)(hN:N<=290)(hf:3000000<=fu)(hI:BzI p g h r0 s0 t0 r1 s1 t1 N):
 ∃d s t,zj (kj fu p) fu ([r0,s0,t0],[r1,s1,t1])=some [d,s,t]/\BzR p g h d s t (1+N*(N+1)):=by
 obtain⟨r,e1,d,s,t,rfl,e3⟩:=yq (f:=kj fu p) (fun x:List (List Int)×List (List Int)=> ∃r0 s0 t0 r1 s1 t1,x=([r0,s0,t0],[r1,s1,t1])/\BzI p g h r0 s0 t0 r1 s1 t1 N) (fun x=>(x.2.getD 0 []).length) (fun r=> ∃d s t,r=[d,s,t]/\BzR p g h d s t (1+N*(N+1))) (by
  rintro x L ⟨r0,s0,t0,r1,s1,t1,rfl,hI⟩ ih;unfold kj;simp only;rw[show(0:Int)=((0:Nat):Int)from rfl,zp (by decide)];show∃r,(if((0:Nat):Int)<(r1.length:Int)then _ else _)=some r/\_;by_cases h0:0<r1.length
  ·obtain⟨r2,s2,t2,he,ha,hc⟩:=hI.step (fu:=fu) hp hN h0 hf;rw[zN,za he];exact ih _ ⟨_,_,_,_,_,_,rfl,hc⟩ ha
  ·rw[zx];have hz:ci r1=pc 0:=funext fun k=>by rw[zQ (by omega),zM]
   have hb:1+N*(N+1-r1.length)<=1+N*(N+1):=by
    have:N*(N+1-r1.length)<=N*(N+1):=xaA _ (by omega);omega
   have hd:=hI.l0;have hg:N*1<=N*(N+1):=xaA _ (by omega);refine⟨_,rfl,r0,s0,t0,rfl,hI.f0,hI.g0,hI.h0,hI.c0,?_,by omega,xao hI.b0 hb,xao hI.b1 hb⟩;obtain⟨A,B,C,D,z1,z2,z3,z4,d1,d2⟩:=hI.dv;rw[hz,zg B,yg]at d1;rw[hz,zg D,yg]at d2;refine⟨A,C,z1,z3,d1.trans (Cg.of ?_),d2.trans (Cg.of ?_)⟩<;>funext k<;>rw[zK,zM,xbx]) fu ([r0,s0,t0],[r1,s1,t1]) ⟨_,_,_,_,_,_,rfl,hI⟩ (by have:=hI.l1;show r1.length<fu;omega)
 exact⟨d,s,t,e1,e3⟩
theorem jy(hp:wG p=true)(hg:Fp p g)(hh:Fp p h)(hs:g.length<=290)(ht:h.length<=290)(hf:3000000<=fu):
 ∃d s t,ke fu g h p=some (d,s,t,0)/\BzR p g h d s t (2+max g.length h.length*(max g.length h.length+1))/\(d.length=0\/ci d (d.length-1)=1):=by
 obtain⟨p1,p2⟩:=zo hp;unfold ke;rw[za (jQ hp (by omega)),iq rfl,za (zG (by omega) p2 (hg.rl p2) (by omega) hf),za (zG (by omega) p2 (hh.rl p2) (by omega) hf),hg.pm,hh.pm];have z0:ci ([]:List Int)=pc 0:=funext fun k=>by rw[zQ (xaj _),zM]
 have addz: ∀f:Pz,f+pc 0=f:=fun f=>funext fun k=>by rw[zK,zM,xbx]
 have zadd: ∀f:Pz,pc 0+f=f:=fun f=>funext fun k=>by rw[zK,zM,xcA]
 have hI:BzI p g h g [1] [] h [] [1] (max g.length h.length):=by
  refine⟨hg,Yc (by decide) (by omega),Il (by omega),hh,Il (by omega),Yc (by decide) (by omega),Cg.of ?_,Cg.of ?_,⟨pc 1,pc 0,pc 0,pc 1,Fs.pc 1,Fs.pc 0,Fs.pc 0,Fs.pc 1,Cg.of ?_,Cg.of ?_⟩,xfc _ _,xeJ _ _,xbL _ _,xaj _,xaj _,xbL _ _⟩
  ·rw[v8,z0,zt,yg,addz]
  ·rw[v8,z0,zt,yg,zadd]
  ·rw[zt,yg,addz]
  ·rw[zt,yg,zadd]
 obtain⟨d,s,t,e1,hR⟩:=OZ (fu:=fu) hp (by omega) hf hI;have hS:max g.length h.length*(max g.length h.length+1)<=290*291:=xbE (by omega) (by omega);generalize max g.length h.length*(max g.length h.length+1)=S at*
 rw[za e1,show(0:Int)=((0:Nat):Int)from rfl,zp (by decide)];show∃d' s' t',bd (if((0:Nat):Int)<(d.length:Int)then some true else some false) _=_/\_;by_cases h0:0<d.length
 ·have hu:=hR.dl;have hr:ci d (d.length-1)≠0:=by
   rcases hR.df.nl with h|h
   ·omega
   ·exact h
  have t1:=hR.df.nn (d.length-1);have t2:=hR.df.lt (d.length-1);obtain⟨x,x1,x2,x3,x4,x5⟩:=VG (fu:=fu) hp hR.df (show 0<ci d (d.length-1)by omega) t2 (by omega) hf;have sc: ∀{a:List Int},Fp p a->a.length<=90000->vk fu a (ci d (d.length-1)) p=some (y4 p a [x]):=fun{a} ha hl=>by
   unfold vk;rw[za x4];simp only;rw[za (wh (by omega) p2 ha (Yc x1 x2) (by omega) (by simp) hf)]
  rw[zN,za rfl,iq rfl,zp (by decide)];show∃d' s' t',ze ((d.length:Int)-1) _=_/\_;rw[show(d.length:Int)-1=((d.length-1:Nat):Int)by omega,zd];show∃d' s' t',zH ((d.length-1:Nat):Int) d.length _=_/\_;rw[yB,zf];show∃d' s' t',bd (zj (wg fu p (ci d (d.length-1))) fu (((0:Nat):Int),[d,s,t])) _=_/\_;have hd:zj (wg fu p (ci d (d.length-1))) fu (((0:Nat):Int),[d,s,t])=some [y4 p d [x],y4 p s [x],y4 p t [x]]:=by
   obtain⟨n,hn⟩: ∃n,fu=n+4:=⟨fu-4,by omega⟩
   have step: ∀(L:Int×List (List Int)->Option (List (List Int))) (i:Nat) (y:List Int) (ts:List (List Int)),i<3->ts.getD i []=y->Fp p y->y.length<=90000->
    wg fu p (ci d (d.length-1)) L ((i:Int),ts)=L (((i+1:Nat):Int),ts.set i (y4 p y [x])):=fun L i y ts hi hy ho hq=>by
    unfold wg;simp only;rw[zN,zp hi,hy,za (sc ho hq),zp hi,zf,zd];rfl
   have hm:zj (wg fu p (ci d (d.length-1))) (n+4) (((0:Nat):Int),[d,s,t])=some [y4 p d [x],y4 p s [x],y4 p t [x]]:=by
    rw[qW,step _ 0 d _ (by decide) rfl hR.df (xao hR.dl (by omega)),qW,step _ 1 s _ (by decide) rfl hR.sf (xao hR.sl (by omega)),qW,step _ 2 t _ (by decide) rfl hR.tf (xao hR.tl (by omega)),qW];unfold wg;simp only;rw[ir (by decide)];rfl
   rw[<-hn]at hm;exact hm
  rw[za hd];have hb: ∀a:List Int,Cg p (ci (y4 p a [x])) (ci a*pc x):=fun a=>by
   have:=ky p a [x];rw[v8]at this;exact this
  have he:Cg p (pc x*pc (ci d (d.length-1))) (pc 1):=fun k=>by
   rw[qL];unfold pc;split
   ·rw[x3];exact(xaz (by decide) (by omega)).symm
   ·rfl
  have f1:=qk p d [x];have f2:=qk p s [x];have f3:=qk p t [x];have hv:=hR.sl;have hw:=hR.tl;simp only[xav,xcs]at f1 f2 f3;have hc: ∀k,ci (y4 p d [x]) k=(x*ci d k) % p:=fun k=>by rw[QP,v8,zg,zD]
  have hj:(y4 p d [x]).length=d.length:=by
   refine xcR ((vJ (by omega) _ _).nl.le fun k hk=> ?_) (xbw fun hx=> ?_)
   ·rw[hc,zQ hk,xas,xag]
   ·have h3:=hc (d.length-1);rw[x3,zQ (by omega)]at h3;cases h3
  refine⟨y4 p d [x],y4 p s [x],y4 p t [x],rfl,⟨vJ (by omega) _ _,vJ (by omega) _ _,vJ (by omega) _ _,?_,?_,by omega,by omega,by omega⟩,.inr ?_⟩
  ·refine(hb d).trans ((hR.cg.mul Cg.rfl).trans (Cg.trans (Cg.of ?_) (Cg.symm (((hb s).mul Cg.rfl).add ((hb t).mul Cg.rfl)))));simp only[xw,yj,zb,zg,zy]
  ·obtain⟨A,C,z1,z3,d1,d2⟩:=hR.dv;have key: ∀F:Pz,Cg p (F*ci d) (F*pc (ci d (d.length-1))*ci (y4 p d [x])):=fun F=>by
    refine Cg.symm ((Cg.rfl.mul (hb d)).trans (Cg.trans (Cg.of ?_) (((Cg.rfl (f:=F*ci d)).mul he).trans (Cg.of (zL _)))));simp only[zb,zg,zy]
   exact⟨_,_,z1.mul (Fs.pc _),z3.mul (Fs.pc _),d1.trans (key A),d2.trans (key C)⟩
  ·rw[hj,hc,x3]
 ·rw[zx,za rfl,ir (by decide)];exact⟨d,s,t,rfl,⟨hR.df,hR.sf,hR.tf,hR.cg,hR.dv,xao hR.dl (by omega),xao hR.sl (by omega),xao hR.tl (by omega)⟩,.inl (by omega)⟩
end
section
variable{fu:Nat}{a l b:List Int}{p:Int}
theorem NY{n:Nat}(h:n<9223372036854775808):OX n=(n:Int):=by
 unfold OX;rw[iq h]
theorem gP{x:Int}(h0:0<=x)(h:x<9223372036854775808)(hf:3000000<=fu):X4 fu (yE x)=some (x,true):=by
 have hB:Bz 1 x:=by unfold Bz;omega
 unfold X4;rw[za (um (hB.ok (by decide)) hf),zu];have ha:(yE x).1=false:=by unfold yE;simp;omega
 by_cases hx:x=0
 ·subst hx;rw[show(yE 0).2=[]from rfl,iq (show((([]:List Nat).length:Nat):Int)=0 from rfl),za rfl,iq rfl]
 ·have hb:=AV.2 hx;have hc:=hB.len;obtain⟨n,rfl⟩:=xaC h0;have hg:(yE (n:Int)).2.getD 0 0=n:=by
   show(yI ((n:Int).natAbs)).getD 0 0=n;rw[xbb,u9,xeU,xeQ,xaF (by omega)]
  rw[zx,za rfl,ir (by decide),zx,za rfl,ir (by decide),ha,ir (by decide),za rfl,ir (by decide),ir (by decide),show(0:Int)=((0:Nat):Int)from rfl,yB,zf,hg,zx,yB,zf,hg,zf,NY (by omega)]
theorem mi{a:Zr}(ha:gx a)(h1:1<=p)(h2:p<=65521)(hf:3000000<=fu):VD fu a p=some (zv a % p,0):=by
 unfold VD;have hB:Bz 1 p:=by unfold Bz;omega
 have hr:=yh (a:=zv a) (p:=p) (by omega);rw[za (z8 ⟨by omega,by omega⟩ hf),za (uq ha (hB.okS (by decide)) hf),zu];unfold Aw;rw[zx];simp only[if_true];rw[za (gP hr.1 (by omega) hf)]
def vS(p:Int)(a:List Zr):List Int:=nl a.length (fun k=>cf a k % p)
theorem Vu(p:Int)(a:List Zr)(k:Nat):ci (vS p a) k=cf a k % p:=mI (fun k hk=>by rw[z6 hk,xag]) k
theorem Uu(p:Int)(a:List Zr):Cg p (ci (vS p a)) (cf a):=fun k=>by rw[Vu,xaD]
theorem X8(hp:0<p)(a:List Zr):Fp p (vS p a):=⟨fun k=>by rw[Vu];exact(yh hp).1,fun k=>by rw[Vu];exact(yh hp).2,gJ _ _⟩
theorem zcx(p:Int)(a:List Zr):(vS p a).length<=a.length:=Aa _ _
theorem kf{k:Nat}{a:List Zr}(ha:xb k a)(hk:k<=40000)(h1:1<=p)(h2:p<=65521)(hl:a.length<=1000000)(hf:3000000<=fu):jW fu a p=some (vS p a,0):=by
 unfold jW;have hd:=qf (fun k=>cf a k % p) a.length;rw[zx,za (v:=zl a.length (fun k=>cf a k % p))]
 ·rw[za (v:=vS p a)];refine zE (fun t:List Int=> ∃m,m<=a.length/\t=zl m (fun k=>cf a k % p)/\dg (fun k=>cf a k % p) m=dg (fun k=>cf a k % p) a.length) (fun t=>t.length) _ ?_ _ _ ⟨a.length,xac _,rfl,rfl⟩ (by rw[zI];omega);rintro t L ⟨m,hm,rfl,hg⟩ ih;unfold UY;rw[zI]
  cases m with
  |zero=>
   rw[zx];unfold vS nl;rw[<-hg];rfl
  |succ m=>
   rw[zN,show((m+1:Nat):Int)-1=(m:Int)by omega,zd,yB,zf,vO (by omega)];by_cases h0:cf a m % p=0
   ·rw[iq h0,zd,yO,yG,zf,C8 (by omega)];exact ih _ ⟨m,by omega,rfl,by rw[<-bF (f:=fun k=>cf a k % p) h0,hg]⟩ (by rw[zI,zI];omega)
   ·rw[ir h0];unfold vS nl;rw[<-hg,Kf (f:=fun k=>cf a k % p) h0]
 ·unfold vY;rw[yO,yG,zf,QM,za];refine zE (fun s:Int×List Int=> ∃i:Nat,i<=a.length/\s=((i:Int),zl a.length (fun k=>if k<i then cf a k % p else 0))) (fun s=>a.length-s.1.toNat) _ ?_ _ _ ⟨0,xaj _,by rw[yo (g:=fun k=>if k<0 then cf a k % p else 0) (fun k _=>by rw[zx])];rfl⟩ (by show a.length-0<fu;omega);rintro s L ⟨i,hi,rfl⟩ ih;unfold jT;simp only;by_cases h:i<a.length
  ·rw[zN,za rfl];simp only[if_true];have e1:YJ fu (i:Int) (a.getD i (false,[])) p=some (cf a i % p):=by
    unfold YJ;rw[za (mi (ha.okS hk i) h1 h2 hf)];rfl
   rw[zp h,zf,za e1,zp (by rw[zI];exact h),zf,jF,zd];refine ih _ ⟨i+1,by omega,?_⟩ (by show a.length-((i:Int)+1).toNat<a.length-(i:Int).toNat;omega);congr 1;refine yo fun k hk=> ?_;unfold u5;by_cases e:k=i
   ·rw[iq e,zN,e]
   ·rw[ir e];show(if k<i then cf a k % p else 0)=_;by_cases e2:k<i
    ·rw[iq e2,zN]
    ·rw[ir e2,zx]
  ·rw[zx,za rfl];simp only[xak,if_false];congr 1;exact yo fun k hk=>by rw[zN]
def ja(l:List Int):List Zr:=qe l.length (ci l)
theorem qE(l:List Int):cf (ja l)=ci l:=funext fun k=>jq (fun k hk=>zQ hk) k
theorem Ee(l:List Int):(ja l).length<=l.length:=by unfold ja;rw[xD];exact qf _ _
theorem Rl.bz(h:Rl l)(k:Nat):Bz 1 (ci l k):=by
 obtain⟨h1,h2⟩:=h k;unfold Bz;omega
theorem DQ(h:Rl l):xb 1 (ja l):=y7 h.bz
theorem jb(h:Rl l)(hl:l.length<=1000000)(hf:3000000<=fu):vK fu l=some (ja l):=by
 unfold vK;rw[za (v:=zi l.length (ci l))]
 ·rw[za (zz (VM h.bz) (by decide) (by rw[yN];omega) hf),yN,pf];rfl
 ·unfold vZ;rw[yO,yG,zf,aL,za];refine zE (fun s:Int×List Zr=> ∃i:Nat,i<=l.length/\s=((i:Int),zi l.length (fun k=>if k<i then ci l k else 0))) (fun s=>l.length-s.1.toNat) _ ?_ _ _ ⟨0,xaj _,by rw[y9 (g:=fun k=>if k<0 then ci l k else 0) (fun k _=>by rw[zx])];rfl⟩ (by show l.length-0<fu;omega);rintro s L ⟨i,hi,rfl⟩ ih;unfold jU;simp only;by_cases h1:i<l.length
  ·have e1:ZK fu (i:Int) (l.getD i 0)=some (yE (ci l i)):=by
    unfold ZK;rw[Zc,za (z8 (h i) hf)]
   rw[zN,zp h1,zf,za e1,zp (by rw[yN];exact h1),zf,KN,zd];refine ih _ ⟨i+1,by omega,?_⟩ (by show l.length-((i:Int)+1).toNat<l.length-(i:Int).toNat;omega);congr 1;refine y9 fun k hk=> ?_;unfold u5;by_cases e:k=i
   ·rw[iq e,zN,e]
   ·rw[ir e];show(if k<i then ci l k else 0)=_;by_cases e2:k<i
    ·rw[iq e2,zN]
    ·rw[ir e2,zx]
  ·rw[zx];congr 1;exact y9 fun k hk=>by rw[zN]
theorem sF(h:Rl l)(hl:l.length<=1000000)(hf:3000000<=fu):Yi fu l=some (ja l):=by
 unfold Yi;rw[za (jb h hl hf)]
theorem jS(hp:wG p=true)(ha:Fp p a)(hb:Fp p b)(hc:a.length<=90000)(hd:b.length<=90000)(hf:3000000<=fu):qM fu a b p=some (y4 p a b,0):=by
 obtain⟨p1,p2⟩:=zo hp;unfold qM;rw[za (jQ hp (by omega)),iq rfl,za (zG (by omega) p2 (ha.rl p2) (by omega) hf),za (zG (by omega) p2 (hb.rl p2) (by omega) hf),ha.pm,hb.pm,za (wh (by omega) p2 ha hb (by omega) (by omega) hf)]
theorem K5(hp:wG p=true)(ha:Fp p a)(hb:Fp p b)(hc:a.length<=90000)(hd:b.length<=90000)(hf:3000000<=fu):Xb fu a b p=some (ZN p a b (p-1),0):=by
 obtain⟨p1,p2⟩:=zo hp;unfold Xb;rw[za (jQ hp (by omega)),iq rfl,za (zG (by omega) p2 (ha.rl p2) (by omega) hf),za (zG (by omega) p2 (hb.rl p2) (by omega) hf),ha.pm,hb.pm,zd,za (WU (by omega) p2 ha hb (by omega) (by omega) (by omega) (by omega) hf)]
theorem Vt(hp:wG p=true)(ha:Fp p a)(hb:Fp p b)(hd:a.length<=90000)(he:b.length<=90000)(hf:3000000<=fu):ZF fu a b p=some (decide (a=b)):=by
 obtain⟨p1,p2⟩:=zo hp;unfold ZF;rw[za (K5 hp ha hb hd he hf)];simp only;have hF:=QX (p:=p) (by omega) a b (p-1);have hc:=Qt (p:=p) a b;by_cases h:a=b
 ·have hl:(ZN p a b (p-1)).length<=0:=hF.nl.le fun k _=>by
   have:=hc k;rw[hF.mod,h,yA,xcX,xag]at this;rw[h];exact this
  rw[zN,decide_eq_true h]
 ·rw[decide_eq_false h,if_neg];intro h0;refine h (ha.ext hb (Cg.iff_sub.2 (hc.symm.trans fun k=> ?_)));rw[zQ (by omega),zM]
end
section
variable{p:Int}{l:List Int}{fu M i:Nat}
def GR(p:Int)(l:List Int):Prop:=(∀j,j<l.length->0<=ci l j/\ci l j<p)/\1<l.length/\ci l (l.length-1)=1
theorem GR.fp(hp:0<p)(h:GR p l):Fp p l:=by
 refine⟨fun k=> ?_,fun k=> ?_,.inr (by rw[h.2.2];decide)⟩
 ·by_cases hk:k<l.length
  ·exact(h.1 k hk).1
  ·rw[zQ (by omega)];omega
 ·by_cases hk:k<l.length
  ·exact(h.1 k hk).2
  ·rw[zQ (by omega)];exact hp
theorem Vq(hl:l.length<=1000000)(hf:3000000<=fu): ∃b,Zj fu l p=some b/\(b=true↔GR p l):=by
 unfold Zj;obtain⟨r,e1,e2⟩:=yq (f:=Ya fu l p) (fun i:Int=> ∃j:Nat,i=(j:Int)/\j<=l.length/\ ∀t,t<j->0<=ci l t/\ci l t<p) (fun i=>l.length-i.toNat) (fun r=>(r= .inl ()/\ ∀t,t<l.length->0<=ci l t/\ci l t<p)\/(r= .inr ()/\ ¬ ∀t,t<l.length->0<=ci l t/\ci l t<p)) (by
  rintro i L ⟨j,rfl,hj,he⟩ ih;unfold Ya;by_cases h1:j<l.length
  ·rw[zN,zp h1,zf,Zc];by_cases h2:ci l j<0
   ·rw[iq h2];exact⟨_,rfl,.inr ⟨rfl,fun e=>by have:=(e j h1).1;omega⟩⟩
   ·rw[ir h2];by_cases h3:p<=ci l j
    ·rw[iq h3];exact⟨_,rfl,.inr ⟨rfl,fun e=>by have:=(e j h1).2;omega⟩⟩
    ·rw[ir h3,zd];refine ih _ ⟨j+1,rfl,by omega,fun t ht=> ?_⟩ (by omega);by_cases h4:t=j
     ·rw[h4];omega
     ·exact he t (by omega)
  ·rw[zx];exact⟨_,rfl,.inl ⟨rfl,fun t ht=>he t (by omega)⟩⟩) fu 0 ⟨0,rfl,xaj _,fun t h=>absurd h (xbv _)⟩ (by show l.length-0<fu;omega)
 rw[za e1];rcases e2 with⟨rfl,h⟩|⟨rfl,h⟩
 ·simp only;by_cases h1:1<l.length
  ·rw[zN,show(l.length:Int)-1=((l.length-1:Nat):Int)by omega,zd,yB,zf,Zc];by_cases h2:ci l (l.length-1)=1
   ·rw[iq h2];exact⟨_,rfl,fun _=>⟨h,h1,h2⟩,fun _=>rfl⟩
   ·rw[ir h2];exact⟨_,rfl,fun e=>absurd e (by decide),fun e=>absurd e.2.2 h2⟩
  ·rw[zx];exact⟨_,rfl,fun e=>absurd e (by decide),fun e=>absurd e.2.1 h1⟩
 ·exact⟨_,rfl,fun e=>absurd e (by decide),fun e=>absurd e.1 h⟩
def XM(p:Int)(fs:List (List Int)):List Int:=fs.foldl (y4 p) [1]
def prZ:List Pz->Pz
 |[]=>pc 1
 |f::r=>f*prZ r
theorem xM: ∀(a b:List Pz),prZ (a++b)=prZ a*prZ b
 |[],b=>(zt _).symm
 |f::r,b=>by show f*prZ (r++b)=f*prZ r*prZ b;rw[xM r b,zb]
theorem Ng(p:Int): ∀(fs:List (List Int)) (t:List Int),Cg p (ci (fs.foldl (y4 p) t)) (ci t*prZ (fs.map ci))
 |[],t=>by show Cg p (ci t) (ci t*pc 1);rw[zL];exact Cg.rfl
 |f::r,t=>by
  show Cg p (ci (r.foldl (y4 p) (y4 p t f))) (ci t*(ci f*prZ (r.map ci)));refine(Ng p r (y4 p t f)).trans (((ky p t f).mul Cg.rfl).trans (Cg.of (zb _ _ _)))
theorem db(p:Int)(fs:List (List Int)):Cg p (ci (XM p fs)) (prZ (fs.map ci)):=by
 have:=Ng p fs [1];rw[v8,zt]at this;exact this
theorem MM{p:Int}(hp:0<p): ∀(fs:List (List Int)) {t:List Int},Fp p t->Fp p (fs.foldl (y4 p) t)
 |[],_,h=>h
 |f::r,t,h=>MM hp r (vJ hp t f)
theorem JV(hp:2<=p)(fs:List (List Int)):Fp p (XM p fs):=MM (by omega) fs (Yc (by decide) (by omega))
theorem LY{p:Int}{M:Nat}: ∀{fs:List (List Int)} {t:List Int},(∀f∈fs,f.length<=M)->(fs.foldl (y4 p) t).length<=t.length+fs.length*M
 |[],_,_=>by simp
 |f::r,t,h=>by
  have h1:=LY (p:=p) (fs:=r) (t:=y4 p t f) fun g hg=>h g (H1 _ hg);have h2:=qk p t f;have h3:=h f (FS);show(r.foldl (y4 p) (y4 p t f)).length<=t.length+(r.length+1)*M;rw[xaV,xcn];omega
theorem Ky{fs:List (List Int)}(h: ∀f∈fs,f.length<=M):(XM p fs).length<=1+fs.length*M:=LY h
theorem AE{l:List (List Int)}(h:i<l.length):l.getD i []∈l:=by
 rw[UV,IR h];exact xbh h
theorem N6{l:List (List Int)}(h:i<l.length):l.take (i+1)=l.take i++[l.getD i []]:=by
 rw[xez,IR h,UV,IR h];rfl
theorem qm{fs:List (List Int)}(hp:wG p=true)(hF: ∀f∈fs,Fp p f)(hM: ∀f∈fs,f.length<=M)(hb:1+fs.length*M<=90000)(ha:M<=90000)(hc:fs.length<=90000)(hf:3000000<=fu):vd fu fs p=some (XM p fs):=by
 obtain⟨p1,p2⟩:=zo hp;unfold vd;rw[za (v:=XM p fs)];refine zE (fun s:List Int×Int=> ∃i:Nat,i<=fs.length/\s=(XM p (fs.take i),(i:Int))) (fun s=>fs.length-s.2.toNat) _ ?_ _ _ ⟨0,xaj _,rfl⟩ (by show fs.length-0<fu;omega);rintro s L ⟨i,hi,rfl⟩ ih;unfold W8;simp only;by_cases h1:i<fs.length
 ·have hm:=AE h1;have hl:=Ky (p:=p) (fs:=fs.take i) (M:=M) fun f hf=>hM f (xeD hf);have hd:(fs.take i).length*M<=fs.length*M:=xar _ (List.length_take_le' ..);have he:=hM _ hm;rw[zN,zp h1,zf,za (jS hp (JV (by omega) _) (hF _ hm) (by omega) (by omega) hf)];simp only;rw[zd];refine ih _ ⟨i+1,by omega,?_⟩ (by show fs.length-((i:Int)+1).toNat<fs.length-(i:Int).toNat;omega);congr 1;unfold XM;rw[N6 h1,List.foldl_append];rfl
 ·rw[zx,xaX (by omega)]
def qH(p:Int)(f g:Pz):Prop:= ∃s t:Pz,Fs s/\Fs t/\Cg p (s*f+t*g) (pc 1)
theorem qH.symm{f g:Pz}(h:qH p f g):qH p g f:=by
 obtain⟨s,t,z1,z2,h⟩:=h;refine⟨t,s,z2,z1,(Cg.of ?_).trans h⟩;funext k;rw[zK,zK,xfv]
theorem qH.mul{p:Int}{f g h:Pz}(hg:Fs g)(hh:Fs h)(hf:Fs f)(h1:qH p f h)(h2:qH p g h):qH p (f*g) h:=by
 obtain⟨s,t,z1,z2,h1⟩:=h1;obtain⟨u,v,z3,z4,h2⟩:=h2;refine⟨s*u,s*f*v+t*(u*g+v*h),z1.mul z3,((z1.mul hf).mul z4).add (z2.mul ((z3.mul hg).add (z4.mul hh))),Cg.trans (Cg.of ?_) ((h1.mul h2).trans (Cg.of (zt _)))⟩;simp only[xw,yj,zb,zy,zg];funext k;simp only[zK];omega
theorem qH.one(p:Int)(h:Pz):qH p (pc 1) h:=⟨pc 1,pc 0,Fs.pc 1,Fs.pc 0,Cg.of (by
 rw[zt,yg];funext k;rw[zK,zM,xbx])⟩
theorem Fs.prZ: ∀{fs:List Pz},(∀f∈fs,Fs f)->Fs (prZ fs)
 |[],_=>Fs.pc 1
 |f::r,hh=>(hh f (FS)).mul (Fs.prZ fun g hg=>hh g (H1 _ hg))
theorem qH.prZ{p:Int}{h:Pz}(hz:Fs h): ∀{fs:List Pz},(∀f∈fs,Fs f)->(∀f∈fs,qH p f h)->qH p (prZ fs) h
 |[],_,_=>qH.one p h
 |f::r,hF,hh=>qH.mul (Fs.prZ fun g hg=>hF g (H1 _ hg)) hz (hF f (FS)) (hh f (FS)) (qH.prZ hz (fun g hg=>hF g (H1 _ hg)) fun g hg=>hh g (H1 _ hg))
theorem AI{g h d s t:List Int}{S:Nat}(hR:BzR p g h d s t S)(hl:d.length=1)(h1:ci d (d.length-1)=1):qH p (ci g) (ci h):=by
 have e:ci d=pc 1:=by
  funext k;unfold pc;by_cases hk:k=0
  ·rw[iq hk,hk,<-h1,hl]
  ·rw[ir hk,zQ (by omega)]
 have:=hR.cg;rw[e]at this;exact⟨ci s,ci t,Fs.ci s,Fs.ci t,this.symm⟩
structure KJ(p:Int)(a:List Zr)(fs:List (List Int)):Prop where
 a0:a.length≠0
 al:(vS p a).length=a.length
 fl:fs.length<=a.length
 pl: ∀i,i<fs.length->(fs.getD i []).length<=a.length/\GR p (fs.getD i [])
 cp: ∀i j,i<fs.length->j<i->qH p (ci (fs.getD i [])) (ci (fs.getD j []))
 pr:y4 p (XM p fs) [ci (vS p a) (a.length-1)]=vS p a
theorem FW{f:List Int}{fs:List (List Int)}(hp:wG p=true)(hb:Fp p f)(hc:f.length<=290)(hi:i<=fs.length)(hk:i<=1000000)(hF: ∀j,j<i->Fp p (fs.getD j [])/\(fs.getD j []).length<=290)(hf:3000000<=fu):
 ∃r,zj (qs fu p f (fs.take i)) fu 0=some r/\(r= .inl ()-> ∀j,j<i->qH p (ci f) (ci (fs.getD j []))):=by
 have hd:(fs.take i).length=i:=by rw[xay];omega
 have ha: ∀j,j<i->(fs.take i).getD j []=fs.getD j []:=fun j hj=>by rw[UV,xbU,iq hj,<-UV]
 refine yq (fun x:Int=> ∃j:Nat,x=(j:Int)/\j<=i/\ ∀t,t<j->qH p (ci f) (ci (fs.getD t []))) (fun x=>i-x.toNat) _ ?_ _ _ ⟨0,rfl,xaj _,fun t h=>absurd h (xbv _)⟩ (by show i-0<fu;omega);rintro x L ⟨j,rfl,hj,he⟩ ih;unfold qs;by_cases h1:j<i
 ·obtain⟨k1,k2⟩:=hF j h1;obtain⟨d,s,t,e1,hR,e3⟩:=jy (fu:=fu) hp hb k1 hc k2 hf;rw[zN,yB,zf,ha j h1];have hg:qI fu f (fs.getD j []) p=some (d,0):=by
   unfold qI;rw[za e1]
  rw[za hg];simp only;by_cases h2:d.length=1
  ·rw[zN,zd];refine ih _ ⟨j+1,rfl,by omega,fun t ht=> ?_⟩ (by omega);by_cases h3:t=j
   ·rw[h3];exact AI hR h2 (e3.resolve_left (by omega))
   ·exact he t (by omega)
  ·rw[zx];exact⟨_,rfl,fun e=>absurd e (by simp)⟩
 ·rw[zx];exact⟨_,rfl,fun _ t ht=>he t (by omega)⟩
theorem dJ{k:Nat}{a:List Zr}{fs:List (List Int)}(hp:wG p=true)(ha:xb k a)(hk:k<=40000)(hr:a.length<=66)(hf:3000000<=fu):
 ∃b,wA fu a fs p=some b/\(b=true->KJ p a fs):=by
 obtain⟨p1,p2⟩:=zo hp;unfold wA;rw[za (kf ha hk (by omega) p2 (by omega) hf)];simp only;by_cases h0:a.length=0
 ·rw[zN];exact⟨_,rfl,fun e=>absurd e (by decide)⟩
 ·rw[zx];by_cases hl:(vS p a).length=a.length
  ·rw[zN];by_cases hs:a.length<fs.length
   ·rw[zN];exact⟨_,rfl,fun e=>absurd e (by decide)⟩
   ·rw[zx]
    obtain⟨r,e1,e2⟩:=yq (f:=qx fu a fs p) (fun x:Int×List Int=> ∃i:Nat,x=((i:Int),vS p a)/\i<=fs.length/\(∀t,t<i->(fs.getD t []).length<=a.length/\GR p (fs.getD t []))/\ ∀t j,t<i->j<t->qH p (ci (fs.getD t [])) (ci (fs.getD j []))) (fun x=>fs.length-x.1.toNat)
     (fun r=>r= .inr ()\/(r= .inl (vS p a)/\(∀t,t<fs.length->(fs.getD t []).length<=a.length/\GR p (fs.getD t []))/\ ∀t j,t<fs.length->j<t->qH p (ci (fs.getD t [])) (ci (fs.getD j [])))) (by
      rintro x L ⟨i,rfl,hi,g1,g2⟩ ih;unfold qx;simp only;by_cases h1:i<fs.length
      ·rw[zN,za rfl];simp only[if_true];rw[zp h1,zf];by_cases h2:a.length<(fs.getD i []).length
       ·rw[zN];exact⟨_,rfl,.inl rfl⟩
       ·obtain⟨b,b1,b2⟩:=Vq (fu:=fu) (l:=fs.getD i []) (p:=p) (by omega) hf;rw[zx,za b1]
        cases b with
        |false=>
         rw[iq (by decide)];exact⟨_,rfl,.inl rfl⟩
        |true=>
         have hc:=b2.1 rfl;rw[ir (by decide),yO,yG,zf];obtain⟨q,q1,q2⟩:=FW (fu:=fu) (i:=i) (fs:=fs) hp (hc.fp (by omega)) (by omega) (by omega) (by omega) (fun j hj=>⟨(g1 j hj).2.fp (by omega),by have:=(g1 j hj).1;omega⟩) hf;rw[za q1];rcases q with q|q
         ·simp only;rw[zd];refine ih _ ⟨i+1,rfl,by omega,fun t ht=> ?_,fun t j ht hj=> ?_⟩ (by show fs.length-((i:Int)+1).toNat<fs.length-(i:Int).toNat;omega)
          ·by_cases h4:t=i
           ·rw[h4];exact⟨by omega,hc⟩
           ·exact g1 t (by omega)
          ·by_cases h4:t=i
           ·rw[h4]at hj⊢;exact q2 rfl j hj
           ·exact g2 t j (by omega) hj
         ·exact⟨_,rfl,.inl rfl⟩
      ·rw[zx,za rfl];simp only[xak,if_false];exact⟨_,rfl,.inr ⟨rfl,fun t ht=>g1 t (by omega),fun t j ht hj=>g2 t j (by omega) hj⟩⟩) fu (0,vS p a) ⟨0,rfl,xaj _,fun t h=>absurd h (xbv _),fun t j h=>absurd h (xbv _)⟩ (by show fs.length-0<fu;omega)
    rw[za e1];rcases e2 with rfl|⟨rfl,g1,g2⟩
    ·exact⟨_,rfl,fun e=>absurd e (by decide)⟩
    ·simp only;have hb: ∀{q:List Int->Prop},(∀t,t<fs.length->q (fs.getD t []))-> ∀f∈fs,q f:=fun{q} h f hf=>by
      obtain⟨j,hj,rfl⟩:=xdy.1 hf;have:=h j hj;rw[UV,IR hj]at this;exact this
     have hm: ∀f∈fs,Fp p f:=hb fun t ht=>(g1 t ht).2.fp (by omega);have he: ∀f∈fs,f.length<=66:=hb fun t ht=>by have:=(g1 t ht).1;omega
     have hu:fs.length*66<=66*66:=xar _ (by omega);have hc:=Ky (p:=p) he;have hz:=X8 (p:=p) (by omega) a;have hq:ci (vS p a) (a.length-1)≠0:=by
      rcases hz.nl with h|h
      ·omega
      ·rw[hl]at h;exact h
     have hv:=hz.nn (a.length-1);have hn:=hz.lt (a.length-1);have hd:(vS p a).drop (a.length-1)=[ci (vS p a) (a.length-1)]:=by
      rw[xcv (by omega),xcg (by omega)];unfold ci;rw[UV,IR (by omega)];rfl
     have hg:=Yc (p:=p) (x:=ci (vS p a) (a.length-1)) (by omega) hn;have ho:=qk p (XM p fs) [ci (vS p a) (a.length-1)];simp only[xav,xcs]at ho;rw[za (qm hp hm he (by omega) (by decide) (by omega) hf),hl,show(a.length:Int)-1=((a.length-1:Nat):Int)by omega,zd,yO,yG,zf,hd,za (jS hp (JV (by omega) fs) hg (by omega) (by simp) hf)];simp only;rw[za (Vt hp (vJ (by omega) _ _) hz (by omega) (by omega) hf)];exact⟨_,rfl,fun e=>⟨h0,hl,by omega,g1,g2,of_decide_eq_true e⟩⟩
  ·rw[zx];exact⟨_,rfl,fun e=>absurd e (by decide)⟩
end
section
variable{k fu K:Nat}{a b x d f g h s:List Zr}{m:Int}
def Q3(a b:List Zr):List Zr:=qe (max a.length b.length) (fun j=>cf a j+cf b j)
theorem Nj(a b:List Zr)(k:Nat):cf (Q3 a b) k=cf a k+cf b k:=jq (fun j hj=>J4 hj) k
theorem KU(a b:List Zr):(Q3 a b).length<=max a.length b.length:=by unfold Q3;rw[xD];exact qf _ _
theorem bO(ha:xb k a)(hb:xb k b):xb (k+1) (Q3 a b):=y7 fun j=>(ha.bz j).add (hb.bz j)
theorem dw(ha:xb k a)(hb:xb k b)(hk:k+1<=100000)(hc:a.length<=1000000)(hd:b.length<=1000000)(hf:3000000<=fu):wY fu a b=some (Q3 a b):=J9 ha hb hk hc hd hf
def Gu:List Zr:=ja [1]
theorem zbY:(cf Gu:Pz)=pc 1:=by unfold Gu;rw[qE,v8]
theorem zai:Gu.length<=1:=Ee [1]
theorem RZ:Rl [1]:=fun k=>by
 rw[v8];unfold pc;split<;>exact⟨by decide,by decide⟩
theorem ME:xb 1 Gu:=DQ RZ
def KS(f g h:List Zr)(m:Int):List Zr:=wq (UB f (yS g h)) m
def ri(x d:List Zr)(m:Int):List Zr:=si (wq x m) d m
def lD(x d:List Zr)(m:Int):List Zr:=Yz (wq x m) d m
def Om(f g h s t:List Zr)(m:Int):List Zr:=wq (Q3 g (Q3 (yS t (KS f g h m)) (yS (ri (yS s (KS f g h m)) h m) g))) m
def rJ(f g h s:List Zr)(m:Int):List Zr:=wq (Q3 h (lD (yS s (KS f g h m)) h m)) m
def UW(g h s t:List Zr)(m:Int):List Zr:=wq (UB (Q3 (yS s g) (yS t h)) Gu) m
def puS(g h s t:List Zr)(m:Int):List Zr:=wq (UB s (lD (yS s (UW g h s t m)) h m)) m
def puT(g h s t:List Zr)(m:Int):List Zr:=wq (UB t (Q3 (yS t (UW g h s t m)) (yS (ri (yS s (UW g h s t m)) h m) g))) m
theorem Rv(hm:Bz K m)(h0:0<m):xb K (ri x d m):=y7 fun j=>hm.emod h0
theorem Rr(hm:Bz K m)(h0:0<m):xb K (lD x d m):=y7 fun j=>hm.emod h0
theorem Mz(x d:List Zr)(m:Int):(ri x d m).length<=x.length+1:=by
 unfold ri si;rw[xD];have:=Ze x m;exact xao (qf _ _) (by omega)
theorem MZ(x d:List Zr)(m:Int):(lD x d m).length<=x.length:=by
 unfold lD Yz;rw[xD];exact xao (qf _ _) (Ze x m)
theorem Ay(ha:0<d.length)(hb:cf d (d.length-1)=1):(lD x d m).length<d.length:=r8 ha hb
theorem LV(h2:2<=m)(hl:0<h.length)(h1:cf h (h.length-1)=1):(rJ f g h s m).length=h.length/\cf (rJ f g h s m) (h.length-1)=1:=by
 have hs:=Ay (x:=yS s (KS f g h m)) (m:=m) hl h1;have e: ∀k,cf (rJ f g h s m) k=(cf h k+cf (lD (yS s (KS f g h m)) h m) k) % m:=fun k=>by unfold rJ;rw[jw,Nj]
 have e1:cf (rJ f g h s m) (h.length-1)=1:=by
  rw[e,h1,z6 (p:=lD _ _ _) (by omega)];exact xaz (by decide) (by omega)
 refine⟨xcR (CB (QA _ _) fun k hk=> ?_) (xbw fun ha=> ?_),e1⟩
 ·have:=e k;unfold rJ at this;rw[this,z6 hk,z6 (p:=lD _ _ _) (by omega),xbx,xag]
 ·rw[z6 (by omega)]at e1;cases e1
theorem UA{W:Nat}{t:List Zr}{m:Zr}(hd:xb K f)(hg:xb K g)(hh:xb K h)(hs:xb K s)(ht:xb K t)(lf:f.length<=W)(lg:g.length<=W)(lh:h.length<=W)(ls:s.length<=W)(lt:t.length<=W)(hW:W<=5000)(he:1<=K)(hK:K<=1000)(hb:zm m.2)(hc:m.2.length<=K)(h2:2<=zv m)(hl:0<h.length)(h1:cf h (h.length-1)=1)(hf:3000000<=fu):
 qD fu [g,h,s,t] f m=some [Om f g h s t (zv m),rJ f g h s (zv m),puS (Om f g h s t (zv m)) (rJ f g h s (zv m)) s t (zv m),puT (Om f g h s t (zv m)) (rJ f g h s (zv m)) s t (zv m)]:=by
 have hm:Bz K (zv m):=(Bz.of hb).mono hc;have ha:gx m:=⟨hb,by omega⟩;have h0:0<zv m:=by omega
 unfold qD;rw[nL (i:=0) (by decide),zf,nL (i:=1) (by decide),zf,nL (i:=2) (by decide),zf,nL (i:=3) (by decide),zf,show[g,h,s,t].getD (Int.toNat 0) []=g from rfl,show[g,h,s,t].getD (Int.toNat 1) []=h from rfl,show[g,h,s,t].getD (Int.toNat 2) []=s from rfl,show[g,h,s,t].getD (Int.toNat 3) []=t from rfl];have p1:=YA hg hh;have l1:=jG g h;have l2:=Qg f (yS g h);rw[za (xh hg hh (by omega) (by omega) hf),za (jY (k:=K+K+g.length) (hd.mono (by omega)) p1 (by omega) (by omega) (by omega) hf),za (Zi (lV (hd.mono (by omega)) p1) (by omega) ha h0 (by omega) hf),show wq (UB f (yS g h)) (zv m)=KS f g h (zv m)from rfl];have pe:xb K (KS f g h (zv m)):=Jn hm h0;have le:(KS f g h (zv m)).length<=W+W:=xao (Ze _ _) (by omega);have p2:=YA hs pe;have l3:=jG s (KS f g h (zv m));have pq:=Rv (x:=yS s (KS f g h (zv m))) (d:=h) hm h0;have pr:=Rr (x:=yS s (KS f g h (zv m))) (d:=h) hm h0;have lq:=Mz (yS s (KS f g h (zv m))) h (zv m);have lr:=MZ (yS s (KS f g h (zv m))) h (zv m);rw[za (xh hs pe (by omega) (by omega) hf),za (XI p2 (by omega) hh hb hc h0 hl (by omega) (by omega) hf),show si (wq (yS s (KS f g h (zv m))) (zv m)) h (zv m)=ri (yS s (KS f g h (zv m))) h (zv m)from rfl,show Yz (wq (yS s (KS f g h (zv m))) (zv m)) h (zv m)=lD (yS s (KS f g h (zv m))) h (zv m)from rfl];simp only;have p3:=YA ht pe;have l4:=jG t (KS f g h (zv m));have p4:=YA pq hg;have l5:=jG (ri (yS s (KS f g h (zv m))) h (zv m)) g;have p5:=bO (k:=K+K+W+W+W+1) (p3.mono (by omega)) (p4.mono (by omega));have l6:=KU (yS t (KS f g h (zv m))) (yS (ri (yS s (KS f g h (zv m))) h (zv m)) g);have p6:=bO (k:=K+K+W+W+W+2) (hg.mono (by omega)) p5;have l7:=KU g (Q3 (yS t (KS f g h (zv m))) (yS (ri (yS s (KS f g h (zv m))) h (zv m)) g));rw[za (xh ht pe (by omega) (by omega) hf),za (xh pq hg (by omega) (by omega) hf),za (dw (k:=K+K+W+W+W+1) (p3.mono (by omega)) (p4.mono (by omega)) (by omega) (by omega) (by omega) hf),za (dw (k:=K+K+W+W+W+2) (hg.mono (by omega)) p5 (by omega) (by omega) (by omega) hf),za (Zi p6 (by omega) ha h0 (by omega) hf),show wq (Q3 g (Q3 (yS t (KS f g h (zv m))) (yS (ri (yS s (KS f g h (zv m))) h (zv m)) g))) (zv m)=Om f g h s t (zv m)from rfl];have l8:=KU h (lD (yS s (KS f g h (zv m))) h (zv m));rw[za (dw hh pr (by omega) (by omega) (by omega) hf),za (Zi (bO hh pr) (by omega) ha h0 (by omega) hf),show wq (Q3 h (lD (yS s (KS f g h (zv m))) h (zv m))) (zv m)=rJ f g h s (zv m)from rfl];obtain⟨hi,hj⟩:=LV (f:=f) (g:=g) (s:=s) h2 hl h1;have pG:xb K (Om f g h s t (zv m)):=Jn hm h0;have pH:xb K (rJ f g h s (zv m)):=Jn hm h0;have lG:(Om f g h s t (zv m)).length<=4*W+1:=xao (Ze _ _) (by omega);clear l1 l2 l3 l4 l5 l6 l7 l8 p1 p2 p3 p4 p5 p6 pe le pq pr lq lr;generalize Om f g h s t (zv m)=G at*
 generalize rJ f g h s (zv m)=H at*
 have p1:=YA hs pG;have l1:=jG s G;have p2:=YA ht pH;have l2:=jG t H;have p3:=bO (k:=K+K+W) (p1.mono (by omega)) (p2.mono (by omega));have l3:=KU (yS s G) (yS t H);have l4:=Qg (Q3 (yS s G) (yS t H)) Gu;have l5:=zai;rw[za (xh hs pG (by omega) (by omega) hf),za (xh ht pH (by omega) (by omega) hf),za (dw (k:=K+K+W) (p1.mono (by omega)) (p2.mono (by omega)) (by omega) (by omega) (by omega) hf)];rw[za (sF RZ (by decide) hf),show ja [1]=Gu from rfl,za (jY p3 (ME.mono (by omega)) (by omega) (by omega) (by omega) hf),za (Zi (lV p3 (ME.mono (by omega))) (by omega) ha h0 (by omega) hf),show wq (UB (Q3 (yS s G) (yS t H)) Gu) (zv m)=UW G H s t (zv m)from rfl];have pb:xb K (UW G H s t (zv m)):=Jn hm h0;have lb:(UW G H s t (zv m)).length<=5*W+2:=xao (Ze _ _) (by omega);have p4:=YA hs pb;have l6:=jG s (UW G H s t (zv m));have pc':=Rv (x:=yS s (UW G H s t (zv m))) (d:=H) hm h0;have pd:=Rr (x:=yS s (UW G H s t (zv m))) (d:=H) hm h0;have lc:=Mz (yS s (UW G H s t (zv m))) H (zv m);have ld:=MZ (yS s (UW G H s t (zv m))) H (zv m);have l7:=Qg s (lD (yS s (UW G H s t (zv m))) H (zv m));rw[za (xh hs pb (by omega) (by omega) hf),za (XI p4 (by omega) pH hb hc h0 (by omega) (by omega) (by omega) hf),show si (wq (yS s (UW G H s t (zv m))) (zv m)) H (zv m)=ri (yS s (UW G H s t (zv m))) H (zv m)from rfl,show Yz (wq (yS s (UW G H s t (zv m))) (zv m)) H (zv m)=lD (yS s (UW G H s t (zv m))) H (zv m)from rfl];simp only;rw[za (jY hs pd (by omega) (by omega) (by omega) hf),za (Zi (lV hs pd) (by omega) ha h0 (by omega) hf),show wq (UB s (lD (yS s (UW G H s t (zv m))) H (zv m))) (zv m)=puS G H s t (zv m)from rfl];have p5:=YA ht pb;have l8:=jG t (UW G H s t (zv m));have p6:=YA pc' pG;have l9:=jG (ri (yS s (UW G H s t (zv m))) H (zv m)) G;have p7:=bO (k:=K+K+6*W+3) (p5.mono (by omega)) (p6.mono (by omega));have l10:=KU (yS t (UW G H s t (zv m))) (yS (ri (yS s (UW G H s t (zv m))) H (zv m)) G);have l11:=Qg t (Q3 (yS t (UW G H s t (zv m))) (yS (ri (yS s (UW G H s t (zv m))) H (zv m)) G));rw[za (xh ht pb (by omega) (by omega) hf),za (xh pc' pG (by omega) (by omega) hf),za (dw (k:=K+K+6*W+3) (p5.mono (by omega)) (p6.mono (by omega)) (by omega) (by omega) (by omega) hf),za (jY (ht.mono (by omega)) p7 (by omega) (by omega) (by omega) hf),za (Zi (lV (ht.mono (by omega)) p7) (by omega) ha h0 (by omega) hf),show wq (UB t (Q3 (yS t (UW G H s t (zv m))) (yS (ri (yS s (UW G H s t (zv m))) H (zv m)) G))) (zv m)=puT G H s t (zv m)from rfl]
end
section
variable{x d f g h s t:List Zr}{m:Int}
theorem Zp(a:List Zr)(m:Int):Cg m (cf (wq a m)) (cf a):=fun k=>by rw[jw,xaD]
theorem C3(a b:List Zr):(cf (UB a b):Pz)=cf a-cf b:=funext fun k=>Nc a b k
theorem ou(a b:List Zr):(cf (Q3 a b):Pz)=cf a+cf b:=funext fun k=>Nj a b k
theorem Su(ha:0<d.length)(hb:cf d (d.length-1)=1):Cg m (cf x) ((cf (ri x d m):Pz)*cf d+cf (lD x d m)):=by
 intro k;unfold ri lD;rw[zK,<-qv,aK (by omega) ha hb,xdN,xaD,<-xdN];have hr:=jw x m k;generalize wq x m=r at*
 obtain⟨qn,hq⟩: ∃qn,qn=r.length+1-d.length:=⟨_,rfl⟩;have hc: ∀j,j<qn->cf (si r d m) j=Ht r d m qn j:=fun j hj=>by
  rw[Ni,<-hq];unfold dvQ Ht;rw[iq hj,xaD]
 have hd:(si r d m).length<=qn:=by unfold si;rw[xD,<-hq];exact qf _ _
 have h:=Nr hc k qn (xac _);rw[lv,Gx hd]at h;rw[Mh,<-hq,xfv,<-h,hr,xaD]
theorem Km{n x:Int}(hn:n∣m)(hx:n∣x):n∣x % m:=by
 rw[Int.emod_def];exact xdo hx (xbC hn (xck _ _))
theorem mb{r d:List Zr}{n m:Int}{qn:Nat}(hn:n∣m)(hr: ∀k,n∣cf r k): ∀s k,n∣dvF r d m qn s k
 |0,k=>hr k
 |s+1,k=>xdo (mb hn hr s k) (xbC (Km hn (mb hn hr s _)) (xck _ _))
theorem TP{n:Int}(hn:n∣m)(hx:Cg n (cf x) (pc 0))(ha:0<d.length)(hb:cf d (d.length-1)=1):Cg n (cf (ri x d m)) (pc 0)/\Cg n (cf (lD x d m)) (pc 0):=by
 have hr: ∀k,n∣cf (wq x m) k:=fun k=>by rw[jw];exact Km hn (hx.dvd k)
 refine⟨Cg.of_dvd fun k=> ?_,Cg.of_dvd fun k=> ?_⟩
 ·unfold ri;rw[Ni];refine Km hn ?_;unfold dvQ;split
  ·exact Km hn (mb hn hr _ _)
  ·exact xcJ _
 ·unfold lD;rw[aK (by omega) ha hb];exact Km hn (mb hn hr _ _)
theorem zfv{n:Int}(hm:m∣n*n)(hn:n∣m)(h1:Cg n (cf f) ((cf g:Pz)*cf h))(h2:Cg n ((cf s:Pz)*cf g+(cf t:Pz)*cf h) (pc 1))(ha:0<h.length)(hb:cf h (h.length-1)=1):
 Cg m (cf f) ((cf (Om f g h s t m):Pz)*cf (rJ f g h s m))/\Cg n (cf (Om f g h s t m)) (cf g)/\Cg n (cf (rJ f g h s m)) (cf h):=by
 have he:Cg m (cf (KS f g h m)) ((cf f:Pz)-(cf g:Pz)*cf h):=by
  refine(Zp _ _).trans (Cg.of ?_);rw[C3,qv]
 have hc:Cg n (cf (KS f g h m)) (pc 0):=(he.down hn).trans (Cg.iff_sub.1 h1);have hd:Cg m ((cf s:Pz)*cf (KS f g h m)) ((cf (ri (yS s (KS f g h m)) h m):Pz)*cf h+cf (lD (yS s (KS f g h m)) h m)):=by
  rw[<-qv];exact Su ha hb
 obtain⟨z1,z2⟩:=TP (x:=yS s (KS f g h m)) (d:=h) hn (by rw[qv];exact hc.mul_zero_l _) ha hb;refine Sm hm hn (q:=cf (ri (yS s (KS f g h m)) h m)) (r:=cf (lD (yS s (KS f g h m)) h m)) h1 h2 he hd z1 z2 ?_ ?_
 ·refine(Zp _ _).trans (Cg.of ?_);rw[ou,ou,qv,qv]
 ·refine(Zp _ _).trans (Cg.of ?_);rw[ou]
theorem zf0{n:Int}(hm:m∣n*n)(hn:n∣m)(h2:Cg n ((cf s:Pz)*cf g+(cf t:Pz)*cf h) (pc 1))(ha:0<h.length)(hc:cf h (h.length-1)=1):
 Cg m ((cf (puS g h s t m):Pz)*cf g+(cf (puT g h s t m):Pz)*cf h) (pc 1):=by
 have hb:Cg m (cf (UW g h s t m)) ((cf s:Pz)*cf g+(cf t:Pz)*cf h-pc 1):=by
  refine(Zp _ _).trans (Cg.of ?_);rw[C3,ou,qv,qv,zbY]
 have hd:Cg m ((cf s:Pz)*cf (UW g h s t m)) ((cf (ri (yS s (UW g h s t m)) h m):Pz)*cf h+cf (lD (yS s (UW g h s t m)) h m)):=by
  rw[<-qv];exact Su ha hc
 refine S5 hm hn h2 hb hd ?_ ?_
 ·refine(Zp _ _).trans (Cg.of ?_);rw[C3]
 ·refine(Zp _ _).trans (Cg.of ?_);rw[C3,ou,qv,qv]
theorem LX{a b:List Zr}(ha:0<a.length)(hc:0<b.length)(hb:cf b (b.length-1)=1):((cf a:Pz)*cf b) (a.length-1+(b.length-1))=cf a (a.length-1):=by
 rw[xk,xU (i:=a.length-1) fun i hi=> ?_,zN,show a.length-1+(b.length-1)-(a.length-1)=b.length-1 by omega,hb,xcf];by_cases h:i<a.length-1
 ·rw[z6 (p:=b) (by omega),xas]
 ·rw[z6 (p:=a) (by omega),xaQ]
theorem M6(hm:2<=m)(hg:wq g m=g)(hf:wq f m=f)(hq:0<f.length)(he:0<h.length)(hl:cf h (h.length-1)=1)(hc:Cg m (cf f) ((cf g:Pz)*cf h)):
 f.length=g.length+(h.length-1)/\0<g.length/\cf g (g.length-1)=cf f (f.length-1):=by
 have hd:=QA g m;have ha:=QA f m;rw[hg]at hd;rw[hf]at ha;have hn: ∀k,cf g k % m=cf g k:=fun k=>by rw[<-jw,hg]
 have hb: ∀k,cf f k % m=cf f k:=fun k=>by rw[<-jw,hf]
 have ho:=Zw ha (by omega);have g0:0<g.length:=by
  refine xcE fun h0=>ho ?_;rw[<-hb,hc,xk,yF fun i hi=>by rw[z6 (p:=g) (by omega),xaQ],xag]
 have hp:=Zw hd (by omega);have ht:=hc (g.length-1+(h.length-1));rw[LX g0 he hl,hb,hn]at ht;have e1:f.length=g.length+(h.length-1):=by
  refine xcR (CB ha fun k hk=> ?_) (xbw fun hr=> ?_)
  ·rw[<-hb,hc,vA (n:=g.length) (m:=h.length) (fun j hj=>z6 hj) (fun j hj=>z6 hj) (by omega),xag]
  ·rw[z6 (p:=f) (by omega)]at ht;exact hp ht.symm
 refine⟨e1,g0,?_⟩;rw[<-ht];congr 1;omega
end
section
variable{r0 r1 a b K fu:Nat}{u0 u1 v0 v1:Int}
structure ZbI(a b:Nat)(r0 r1:Nat)(u0 v0 u1 v1:Int):Prop where
 p0:0<r0
 le0:r0<=max a b
 le1:r1<=max a b
 e0:u0*a+v0*b=r0
 e1:u1*a+v1*b=r1
 g:xeg r0 r1=xeg a b
 su: ∃x y:Nat,((u0=x/\u1= -y)\/(u0= -x/\u1=y))/\r0*y+r1*x=b
 sv: ∃x y:Nat,((v0=x/\v1= -y)\/(v0= -x/\v1=y))/\r0*y+r1*x=a
 bu0:u0.natAbs<=b
 bu1:u1.natAbs<=b
 bv0:v0.natAbs<=a
 bv1:v1.natAbs<=a
theorem Ec{c:Nat}(hr:0<r1)(h: ∃x y:Nat,((u0=x/\u1= -y)\/(u0= -x/\u1=y))/\r0*y+r1*x=c):
 (∃x y:Nat,((u1=x/\u0-((r0/r1:Nat):Int)*u1= -y)\/(u1= -x/\u0-((r0/r1:Nat):Int)*u1=y))/\r1*y+r0 % r1*x=c)/\(u0-((r0/r1:Nat):Int)*u1).natAbs<=c:=by
 obtain⟨x,y,hs,he⟩:=h;have hc:=xbD r0 r1;generalize r0/r1=q at*
 generalize r0 % r1=r2 at*
 have e1:r1*(x+q*y)+r2*y=c:=by
  rw[xbm,<-xbe];have:r0*y=r1*q*y+r2*y:=by rw[<-xaV,hc]
  omega
 have hb:x+q*y<=c:=by
  have h3:1*(x+q*y)<=r1*(x+q*y):=xar _ (by omega);omega
 have ha:((q*y:Nat):Int)=(q:Int)*(y:Int):=by simp
 rcases hs with⟨a1,a2⟩|⟨a1,a2⟩
 ·rw[a1,a2,xeu,<-ha];exact⟨⟨y,x+q*y,.inr ⟨rfl,by omega⟩,e1⟩,by omega⟩
 ·rw[a1,a2,<-ha];exact⟨⟨y,x+q*y,.inl ⟨rfl,by omega⟩,e1⟩,by omega⟩
theorem ZbI.step(h:ZbI a b r0 r1 u0 v0 u1 v1)(hr:0<r1):ZbI a b r1 (r0 % r1) u1 v1 (u0-((r0/r1:Nat):Int)*u1) (v0-((r0/r1:Nat):Int)*v1):=by
 obtain⟨s1,s2⟩:=Ec hr h.su;obtain⟨t1,t2⟩:=Ec hr h.sv;have ha:=xbD r0 r1;have hd:=xbq r0 hr;have hb:=h.le1;refine⟨hr,hb,by omega,h.e1,?_,?_,s1,t1,h.bu1,s2,h.bv1,t2⟩
 ·have e0:=h.e0;have e1:=h.e1;have hc:(r0:Int)=(r1:Int)*((r0/r1:Nat):Int)+((r0 % r1:Nat):Int):=by
   have:(r0:Int)=((r1*(r0/r1)+r0 % r1:Nat):Int):=by rw[ha]
   rw[this];simp
  generalize((r0/r1:Nat):Int)=q at*
  generalize((r0 % r1:Nat):Int)=r2 at*
  rw[xfL,xfL,xbH,xbH];have e2:q*(u1*a)+q*(v1*b)=r1*q:=by rw[<-xeR,e1,xbi]
  omega
 ·rw[<-h.g,xew r1,<-Nat.gcd_rec,xew]
theorem Bz.nat{n:Nat}(h:n<18446744073709551616^K):Bz K (n:Int):=by unfold Bz;rw[xbb];exact h
theorem Uz{q x0 y0 z0 x1 y1 z1:Int}(hq:Bz K q)(h1:Bz K x0)(h2:Bz K y0)(h3:Bz K z0)(h4:Bz K x1)(h5:Bz K y1)(h6:Bz K z1)(hK:K<=10000)(hf:3000000<=fu):
 kq fu (yE x0,(yE y0,yE z0)) (yE q) (yE x1,(yE y1,yE z1))=some (yE (x0-q*x1),(yE (y0-q*y1),yE (z0-q*z1))):=by
 unfold kq;have b1:=hq.mul h4;have b2:=hq.mul h5;have b3:=hq.mul h6;simp only;rw[za (ye (hq.ok (by omega)) (h4.ok (by omega)) hf),zu,zu,za (vU (h1.ok (by omega)) (b1.ok (by omega)) hf),zu,zu,za (ye (hq.ok (by omega)) (h5.ok (by omega)) hf),zu,zu,za (vU (h2.ok (by omega)) (b2.ok (by omega)) hf),zu,zu,za (ye (hq.ok (by omega)) (h6.ok (by omega)) hf),zu,zu,za (vU (h3.ok (by omega)) (b3.ok (by omega)) hf),zu,zu]
theorem M2(h:r1<=r0)(hr:0<r1):bl (r0 % r1)<bl r0:=by
 have ha:=xbD r0 r1;have hc:=xbq r0 hr;have hq:1<=r0/r1:=(xct hr).2 (by omega);have h1:r1*1<=r1*(r0/r1):=xaA _ hq;have hb:=mZ r0;have hp:1<=bl r0:=by rw[Jq (by omega)];omega
 have e:2^bl r0=2*2^(bl r0-1):=by rw[<-xfb,show(bl r0-1).succ=bl r0 by omega]
 have:=Vh (n:=r0 % r1) (k:=bl r0-1) (by omega);omega
theorem Ot(ha:a<18446744073709551616^K)(hb:b<18446744073709551616^K)(hK:K<=1000)(hf:3000000<=fu)(hI:ZbI a b r0 r1 u0 v0 u1 v1):
 ∃r,zj (Xf fu) fu ((yE r0,(yE u0,yE v0)),(yE r1,(yE u1,yE v1)))=some r/\ ∃u v:Int,r=(yE (xeg a b:Nat),(yE u,yE v))/\u*a+v*b=(xeg a b:Nat)/\u.natAbs<=b/\v.natAbs<=a:=by
 have hc: ∀{n:Nat},n<=max a b->bl n<=64*K:=fun{n} hn=>Vh (by
  rw[xdc,mH];omega)
 refine yq (fun s:(Zr×(Zr×Zr))×(Zr×(Zr×Zr))=> ∃(r0 r1:Nat) (u0 v0 u1 v1:Int),s=((yE r0,(yE u0,yE v0)),(yE r1,(yE u1,yE v1)))/\ZbI a b r0 r1 u0 v0 u1 v1) (fun s=>bl (zv s.1.1).natAbs+bl (zv s.2.1).natAbs+if(zv s.1.1).natAbs<(zv s.2.1).natAbs then 1 else 0) _ ?_ _ _ ⟨r0,r1,u0,v0,u1,v1,rfl,hI⟩ ?_
 ·rintro s L ⟨r0,r1,u0,v0,u1,v1,rfl,hI⟩ ih;have hz: ∀x:Int,x.natAbs<=max a b->Bz K x:=fun x hx=>by unfold Bz;omega
  have z0:Bz K (r0:Int):=hz _ (by have:=hI.le0;omega);have z1:Bz K (r1:Int):=hz _ (by have:=hI.le1;omega);unfold Xf;simp only;rw[za (xe (z1.ok (by omega)) hf),zu];by_cases h0:r1=0
  ·rw[iq (jd.2 (by omega))];have hg:=hI.g;rw[h0,Nat.gcd_zero_right]at hg;exact⟨_,rfl,u0,v0,by rw[hg],by rw[hI.e0,hg],hI.bu0,hI.bv0⟩
  ·rw[ir (fun e=>h0 (by have:=jd.1 e;omega)),za (V8 (z0.okS (by omega)) (z1.okS (by omega)) hf),zu,zu];unfold Sv;rw[zx];simp only;have hq:((r0:Int)/(r1:Int))=((r0/r1:Nat):Int):=rfl;have zq:Bz K ((r0/r1:Nat):Int):=Bz.nat (by
    have h1:=xdW r0 r1;have h2:=hI.le0;omega)
   have hj:=hI.step (by omega);have hd:=xbD r0 r1;have he:(r0:Int)-((r0/r1:Nat):Int)*(r1:Int)=((r0 % r1:Nat):Int):=by
    have:(r0:Int)=((r1*(r0/r1)+r0 % r1:Nat):Int):=by rw[hd]
    conv=>lhs;rw[this]
    rw[hd];have h2:(r0:Int)=(r1:Int)*((r0/r1:Nat):Int)+((r0 % r1:Nat):Int):=by rw[this];simp
    rw[xbi];omega
   rw[hq,za (Uz zq z0 (hz _ (by have:=hI.bu0;omega)) (hz _ (by have:=hI.bv0;omega)) z1 (hz _ (by have:=hI.bu1;omega)) (hz _ (by have:=hI.bv1;omega)) (by omega) hf),he];refine ih _ ⟨_,_,_,_,_,_,rfl,hj⟩ ?_;simp only[zu,xbb];have hk:=xbq r0 (show 0<r1 by omega);rw[zx];by_cases hi:r0<r1
   ·rw[iq hi,xaF hi];omega
   ·have:=M2 (r0:=r0) (r1:=r1) (by omega) (by omega);omega
 ·simp only[zu,xbb];have h1:=hc hI.le0;have h2:=hc hI.le1;split<;>omega
theorem fh{x y:Zr}(hx:zm x.2)(hy:zm y.2)(hc:x.2.length<=K)(hd:y.2.length<=K)(he:zv x=(a:Int))(hg:zv y=(b:Int))(ha:0<a)(hb:0<b)(hK:K<=1000)(hf:3000000<=fu):
 ∃u v:Int,Yt fu x y=some (yE (xeg a b:Nat),yE u,yE v)/\u*a+v*b=(xeg a b:Nat)/\u.natAbs<=b/\v.natAbs<=a:=by
 have na:nv x.2=a:=by have:=kD x;omega
 have nb:nv y.2=b:=by have:=kD y;omega
 have hA:a<18446744073709551616^K:=by rw[<-na];exact xap (jz hx) (xaK (by decide) hc)
 have hB:b<18446744073709551616^K:=by rw[<-nb];exact xap (jz hy) (xaK (by decide) hd)
 have hI:ZbI a b a b 1 0 0 1:=by refine⟨ha,xfc _ _,xeJ _ _,by omega,by omega,rfl,⟨1,0,.inl ⟨rfl,rfl⟩,by omega⟩,⟨0,1,.inr ⟨rfl,rfl⟩,by omega⟩,by omega,by omega,by omega,by omega⟩
 obtain⟨r,e1,u,v,rfl,e2,e3,e4⟩:=Ot (fu:=fu) hA hB hK hf hI;unfold Yt;rw[za (yf hx (by omega) (by omega)),za (z8 (by decide) hf),za (z8 (by decide) hf),za (yf hy (by omega) (by omega)),za (z8 (by decide) hf),za (z8 (by decide) hf),ir (by decide),ir (by decide),na,nb,za e1];simp only;rw[za (xe ⟨hx,by omega⟩ hf),ir (fun e=>by rw[he,vE (by omega)]at e;exact absurd e (by decide)),za rfl,za (xe ⟨hy,by omega⟩ hf),ir (fun e=>by rw[hg,vE (by omega)]at e;exact absurd e (by decide)),za rfl];exact⟨u,v,rfl,e2,e3,e4⟩
end
section
variable{p m:Int}{d:List Int}{k K:Nat}{f:List Zr}
theorem DI{x:Pz}(hp:2<=p)(hx:Fs x)(hf:0<d.length)(hd:ci d (d.length-1)=1)(h:Cg p (x*ci d) (pc 1)):d.length=1:=by
 obtain⟨n,hn⟩:=hx;obtain⟨X,hX⟩: ∃X,X=nl n (fun k=>x k % p):=⟨_,rfl⟩;have ha: ∀k,ci X k=x k % p:=fun k=>by
  rw[hX];exact mI (fun j hj=>by rw[hn j hj,xag]) k
 have he:Nl X:=by rw[hX];exact gJ _ _
 have hb:Cg p (ci X*ci d) (pc 1):=(Cg.mul (fun k=>by rw[ha,xaD]) Cg.rfl).trans h;rcases he with h0|h0
 ·have h1:=hb 0;rw[xk,yF fun i hi=>by rw[zQ (l:=X) (by omega),xaQ]]at h1;unfold pc at h1;rw[iq rfl,xag,xaz (by decide) (by omega)]at h1;cases h1
 ·have hg:0<X.length:=xcE fun e=>h0 (zQ (by omega));have ht:(ci X*ci d) (X.length-1+(d.length-1))=ci X (X.length-1):=by
   rw[xk,xU (i:=X.length-1) fun i hi=> ?_,zN,show X.length-1+(d.length-1)-(X.length-1)=d.length-1 by omega,hd,xcf];by_cases hc:i<X.length-1
   ·rw[zQ (l:=d) (by omega),xas]
   ·rw[zQ (l:=X) (by omega),xaQ]
  have h1:=hb (X.length-1+(d.length-1));rw[ht,ha,xaD,<-ha]at h1;refine Decidable.byContradiction fun hk=> ?_;unfold pc at h1;rw[zx,xag]at h1;exact h0 h1
theorem zcj{g h s t:List Int}{S:Nat}(hp:2<=p)(hR:BzR p g h d s t S)(hd:d.length=0\/ci d (d.length-1)=1)(hc:qH p (ci g) (ci h)):Cg p (ci s*ci g+ci t*ci h) (pc 1):=by
 obtain⟨A,C,z1,z2,d1,d2⟩:=hR.dv;obtain⟨u,v,z3,z4,hc⟩:=hc;have hx:Cg p ((u*A+v*C)*ci d) (pc 1):=by
  refine Cg.trans (Cg.of ?_) ((((Cg.rfl (f:=u)).mul d1.symm).add ((Cg.rfl (f:=v)).mul d2.symm)).trans hc);rw[yj,zb,zb]
 have hb:0<d.length:=by
  refine xcE fun e=> ?_;have h1:=hx 0;rw[xk,yF fun i hi=>by rw[zQ (l:=d) (by omega),xas]]at h1;unfold pc at h1;rw[iq rfl,xag,xaz (by decide) (by omega)]at h1;cases h1
 have ha:=hd.resolve_left (by omega);have hl:=DI hp ((z3.mul z1).add (z4.mul z2)) hb ha hx;have e:ci d=pc 1:=by
  funext k;unfold pc;by_cases hk:k=0
  ·rw[iq hk,hk,<-ha,hl]
  ·rw[ir hk,zQ (by omega)]
 have:=hR.cg;rw[e]at this;exact this.symm
theorem Yg(hp:wG p=true):vB p.toNat:=by
 refine xad fun h=> ?_;rw[dj (fun e=>h e.2.2)]at hp;exact absurd hp (by decide)
theorem zb7{P N:Nat}(h1:1<=P)(h2:P<=65521)(hk:k<=4*N)(hN:0<N):P^k<18446744073709551616^N:=by
 rw[show(18446744073709551616:Nat)=65536^4 by decide,<-xdc];exact xbd (xaK (by omega) hk) (Nat.pow_lt_pow_left (by omega) (by omega))
theorem gl(hp:wG p=true)(hk:k<=1000):Bz 250 (p^k):=by
 obtain⟨p1,p2⟩:=zo hp;obtain⟨P,rfl⟩:=xaC (show 0<=p by omega);unfold Bz;rw[Int.natAbs_pow,xbb];exact zb7 (by omega) (by omega) hk (by decide)
theorem au(hp:wG p=true)(hk:1<=k):2<=p^k:=by
 obtain⟨p1,p2⟩:=zo hp;obtain⟨P,rfl⟩:=xaC (show 0<=p by omega);have h1:P^1<=P^k:=xaK (by omega) hk;rw[Nat.pow_one]at h1;rw[<-Int.natCast_pow];omega
theorem Ui{i j:Nat}(h:i<=j):p^i∣p^j:=⟨p^(j-i),by rw[<-Int.pow_add,show i+(j-i)=j by omega]⟩
theorem zbG{c:Int}(hp:wG p=true)(hc:c % p≠0)(ha:0<=c):xeg c.toNat (p^k).toNat=1:=by
 obtain⟨p1,p2⟩:=zo hp;have hb:=Yg hp;obtain⟨P,rfl⟩:=xaC (show 0<=p by omega);obtain⟨C,rfl⟩:=xaC ha;rw[<-Int.natCast_pow,xaM,xaM];have hm:=xbq C (show 0<P by omega);have h1:xeg P (C % P)=1:=Uo (by omega) hb (by omega) hm;have h2:xeg C P=1:=by rw[xew,Nat.gcd_rec,xew];exact h1
 exact Nat.Coprime.pow_right k h2
structure Rd(K:Nat)(m:Int)(f:List Zr):Prop where
 ok:xb K f
 rd:wq f m=f
theorem Rd.mod(h:Rd K m f)(k:Nat):cf f k % m=cf f k:=by rw[<-jw,h.rd]
theorem Rd.can(h:Rd K m f):f=qe f.length (cf f):=by have:=QA f m;rw[h.rd]at this;exact this
theorem Ug(hm:Bz K m)(h0:0<m)(a:List Zr):Rd K m (wq a m):=⟨Jn hm h0,mF fun k=>by rw[jw,xaD]⟩
theorem iV{fu:Nat}(hp:wG p=true)(hw:1<=k)(hk:k<=1000)(hF:Rd 250 (p^k) f)(hA:0<f.length)(hB:f.length<=1000)(hb:cf f (f.length-1) % p≠0)(hf:3000000<=fu):
 ∃w u,Wb fu f (yE (p^k))=some w/\Rd 250 (p^k) w/\w.length=f.length/\cf w (w.length-1)=1/\(u*cf f (f.length-1)) % p^k=1/\Cg (p^k) (cf w) (pc u*cf f):=by
 have ha:=gl hp hk;have hx:=au hp hw;obtain⟨m,hm⟩: ∃m,m=p^k:=⟨_,rfl⟩;have hd:=zbG (k:=k) hp hb (by
  rw[<-hF.mod];exact xcS _ (by omega))
 rw[<-hm]at ha hx hF hd⊢;obtain⟨c,hc⟩: ∃c,c=cf f (f.length-1):=⟨_,rfl⟩;have ho:=yh (a:=c) (p:=m) (by omega);have hq:=hF.mod (f.length-1);rw[<-hc]at hq hb hd⊢;rw[hq]at ho;have hC:c≠0:=fun e=>hb (by rw[e,xag]);have hD:Bz 250 c:=ha.le (by omega);have hg:=hF.ok.get (f.length-1);obtain⟨u,v,e1,e2,e3,e4⟩:=fh (fu:=fu) (K:=250) (a:=c.toNat) (b:=m.toNat) (x:=f.getD (f.length-1) (false,[])) (y:=yE m) hg.1 (yU _) hg.2 ha.len (by rw[Qm,<-hc];omega) (by rw[zu];omega) (by omega) (by omega) (by decide) hf;rw[hd]at e2;have hr:Bz 250 u:=ha.le (by omega);have hs:(u*c) % m=1:=by
  have:u*c=1+m*(-v):=by
   rw[xcV ho.1,xcV (show 0<=m by omega)]at e2;rw[xeu,xbi m v];omega
  rw[this,xeC];exact xaz (by decide) (by omega)
 have hy:gx (yE m):=ha.okS (by decide);obtain⟨sc,he⟩: ∃sc,sc=qe f.length (fun j=>cf f j*u):=⟨_,rfl⟩;have ht:xb (250+250) sc:=by rw[he];exact y7 fun j=>(hF.ok.bz j).mul hr
 have hz:sc.length<=f.length:=by rw[he,xD];exact qf _ _
 have hu: ∀j,cf sc j=cf f j*u:=fun j=>by rw[he];exact jq (fun i hi=>Jk hi) j
 have hl: ∀j,cf (wq sc m) j=cf f j*u % m:=fun j=>by rw[jw,hu]
 have hn:cf (wq sc m) (f.length-1)=1:=by rw[hl,<-hc,xbi,hs]
 have hv:(wq sc m).length=f.length:=by
  refine xcR (CB (QA _ _) fun j hj=> ?_) (xbw fun hE=> ?_)
  ·rw[hl,z6 hj,xaQ,xag]
  ·rw[z6 (by omega)]at hn;cases hn
 refine⟨wq sc m,u,?_,Ug ha (by omega) _,hv,by rw[hv];exact hn,hs,fun j=> ?_⟩
 ·unfold Wb;rw[show(f.length:Int)-1=((f.length-1:Nat):Int)by omega,zd,yB,zf,za e1];simp only;rw[za (qy (l:=250) hF.ok ⟨yU _,hr.len⟩ (by decide) (by omega) hf),zu,<-he,za (Zi ht (by decide) hy (by rw[zu];omega) (by omega) hf),zu]
 ·rw[hl,zD,xaD,xbi]
end
section
variable{G H S f g0 h0:List Zr}{p:Int}{i k lh LS j fu:Nat}
structure TrI(p:Int)(k:Nat)(f g0 h0:List Zr)(lh LS i:Nat)(G H S T:List Zr):Prop where
 i1:1<=i
 ik:i<=k
 rG:Rd 250 (p^i) G
 rH:Rd 250 (p^i) H
 rS:Rd 250 (p^i) S
 rT:Rd 250 (p^i) T
 hl:H.length=lh
 h1:cf H (lh-1)=1
 fac:Cg (p^i) (cf f) ((cf G:Pz)*cf H)
 bez:Cg (p^i) ((cf S:Pz)*cf G+(cf T:Pz)*cf H) (pc 1)
 gp:Cg p (cf G) (cf g0)
 hp:Cg p (cf H) (cf h0)
 sl:S.length<=LS
theorem zbr{m:Int}{T:List Zr}{K:Nat}(hm:2<=m)(hT:Rd K m T)(hl:0<H.length)(h1:cf H (H.length-1)=1)(hb:Cg m ((cf S:Pz)*cf G+(cf T:Pz)*cf H) (pc 1)):T.length<=S.length+G.length+1:=by
 refine xbw fun ha=> ?_;have ht:=Zw hT.can (by omega);have hp:=hb (T.length-1+(H.length-1));rw[zK,LX (by omega) hl h1,vA (n:=S.length) (m:=G.length) (fun j hj=>z6 hj) (fun j hj=>z6 hj) (by omega),xcA,hT.mod]at hp;unfold pc at hp;rw[zx,xag]at hp;exact ht hp
theorem B5{k:Nat}(hi:1<=i)(ha:cf f (f.length-1) % p≠0)(hb:0<f.length):(wq f (p^i)).length=f.length:=by
 refine xcR (Ze _ _) (xbw fun hc=>ha ?_);have h:cf (wq f (p^i)) (f.length-1)=0:=z6 (by omega);rw[jw]at h;have hd:p∣p^i:=by
  have:=Ui (p:=p) hi;rw[xbk,xbs,xbX]at this;exact this
 rw[<-xcC _ hd,h,xag]
theorem TrI.lens{T:List Zr}(h:TrI p k f g0 h0 lh LS i G H S T)(hp:wG p=true)(ha:cf f (f.length-1) % p≠0)(hc:0<f.length)(he:0<lh):
 f.length=G.length+(lh-1)/\0<G.length/\cf G (G.length-1)=cf f (f.length-1) % p^i/\T.length<=LS+G.length+1:=by
 have hb:=au hp h.i1;have hl:=h.hl;have h1:=h.h1;rw[<-hl]at h1;have hd:=B5 (k:=k) h.i1 ha hc;obtain⟨e1,e2,e3⟩:=M6 hb h.rG.rd (f:=wq f (p^i)) (mF fun j=>by rw[jw,xaD]) (by omega) (by omega) h1 ((Zp _ _).trans h.fac);have e4:=zbr hb h.rT (by omega) h1 h.bez;have:=h.sl;rw[hd,jw]at e3;exact⟨by omega,e2,e3,by omega⟩
theorem zbB(h:j<=i+i):p^j∣p^i*p^i:=by rw[<-Int.pow_add];exact Ui h
theorem qV(h:1<=i):p∣p^i:=by
 have:=Ui (p:=p) h;rw[xbk,xbs,xbX]at this;exact this
theorem TrI.step{T:List Zr}(h:TrI p k f g0 h0 lh LS i G H S T)(hp:wG p=true)(hk:k<=1000)(hg:xb 250 f)(hc:cf f (f.length-1) % p≠0)(hi:0<f.length)(hm:0<lh)(hq:i<k)(hr:f.length<=300)(hs:LS<=4500)(ht:lh<=LS)(hf:3000000<=fu):
 ∃G' H' S' T',qD fu [G,H,S,T] f (yE (p^min (2*i) k))=some [G',H',S',T']/\TrI p k f g0 h0 lh LS (min (2*i) k) G' H' S' T':=by
 obtain⟨j,hj⟩: ∃j,j=min (2*i) k:=⟨_,rfl⟩;have hn:=h.i1;obtain⟨l1,l2,l3,l4⟩:=h.lens hp hc hi hm;have ha:=gl hp (k:=j) (by omega);have hd:=au hp (k:=j) (by omega);have hl:=h.hl;have h1:=h.h1;have hu:=h.sl;rw[<-hl]at h1;have he:=UA (fu:=fu) (K:=250) (W:=5000) hg h.rG.ok h.rH.ok h.rS.ok h.rT.ok (by omega) (by omega) (by omega) (by omega) (by omega) (xac _) (by decide) (by decide) (yU (p^j)) ha.len (by rw[zu];exact hd) (by omega) h1 hf;rw[zu]at he;rw[<-hj];refine⟨_,_,_,_,he,?_⟩;have d1:p^j∣p^i*p^i:=zbB (by omega);have d2:p^i∣p^j:=Ui (by omega);have d3:p∣p^i:=qV hn;obtain⟨f1,f2,f3⟩:=zfv d1 d2 h.fac h.bez (by omega) h1;obtain⟨t1,t2⟩:=LV (f:=f) (g:=G) (s:=S) hd (by omega) h1;have hb:Cg (p^i) ((cf S:Pz)*cf (Om f G H S T (p^j))+(cf T:Pz)*cf (rJ f G H S (p^j))) (pc 1):=((Cg.rfl.mul f2).add (Cg.rfl.mul f3)).trans h.bez;have ho:=zf0 d1 d2 hb (by omega) (by rw[t1];exact t2);have hv:=Ay (x:=yS S (UW (Om f G H S T (p^j)) (rJ f G H S (p^j)) S T (p^j))) (d:=rJ f G H S (p^j)) (m:=p^j) (by omega) (by rw[t1];exact t2);refine⟨by omega,by omega,Ug ha (by omega) _,Ug ha (by omega) _,Ug ha (by omega) _,Ug ha (by omega) _,by omega,by rw[hl]at t2;exact t2,f1,ho,(f2.down d3).trans h.gp,(f3.down d3).trans h.hp,?_⟩;have e1:=Ze (UB S (lD (yS S (UW (Om f G H S T (p^j)) (rJ f G H S (p^j)) S T (p^j))) (rJ f G H S (p^j)) (p^j))) (p^j);have e2:=Qg S (lD (yS S (UW (Om f G H S T (p^j)) (rJ f G H S (p^j)) S T (p^j))) (rJ f G H S (p^j)) (p^j));show(wq _ _).length<=LS;omega
theorem SJ(hp:wG p=true)(h1:1<=j)(h2:j<=1000)(hf:3000000<fu):vn fu p (j:Int)=some (yE (p^j),0):=by
 rw[jC hf];unfold dB;rw[if_pos ⟨hp,by omega,by omega⟩,xaM]
theorem NW{T:List Zr}(h:TrI p k f g0 h0 lh LS 1 G H S T)(hp:wG p=true)(hk:k<=1000)(hb:xb 250 f)(ha:cf f (f.length-1) % p≠0)(hc:0<f.length)(hd:0<lh)(he:f.length<=300)(hg:LS<=4500)(hi:lh<=LS)(hf:3000000<fu):
 ∃G' H' S' T',zj (ur fu f p (k:Int)) fu (1,[G,H,S,T])=some [G',H',S',T']/\TrI p k f g0 h0 lh LS k G' H' S' T':=by
 obtain⟨r,e1,G',H',S',T',rfl,e2⟩:=yq (f:=ur fu f p (k:Int)) (fun s:Int×List (List Zr)=> ∃(i:Nat) (G H S T:List Zr),s=((i:Int),[G,H,S,T])/\TrI p k f g0 h0 lh LS i G H S T) (fun s=>k-s.1.toNat) (fun r=> ∃G H S T,r=[G,H,S,T]/\TrI p k f g0 h0 lh LS k G H S T) (by
  rintro s L ⟨i,G,H,S,T,rfl,h⟩ ih;unfold ur;simp only;have hj:=h.i1;have hl:=h.ik;by_cases h3:i<k
  ·obtain⟨G',H',S',T',e1,e2⟩:=h.step (fu:=fu) hp hk hb ha hc hd h3 he hg hi (by omega);have ej:min (2*(i:Int)) (k:Int)=((min (2*i) k:Nat):Int):=by omega
   rw[zN,zd,zf,ej,za (SJ hp (by omega) (by omega) hf)];simp only;rw[za e1];exact ih _ ⟨_,_,_,_,_,rfl,e2⟩ (by show k-((min (2*i) k:Nat):Int).toNat<k-(i:Int).toNat;omega)
  ·rw[zx];obtain rfl:i=k:=by omega
   exact⟨_,rfl,_,_,_,_,rfl,h⟩) fu (1,[G,H,S,T]) ⟨1,_,_,_,_,rfl,h⟩ (by show k-1<fu;omega)
 exact⟨_,_,_,_,e1,e2⟩
end
section
variable{p:Int}{l:List Int}{g:Pz}
theorem Sk{a b:List Int}(hp:2<=p)(ha:0<a.length)(hd:ci a (a.length-1)=1)(hb:0<b.length)(he:ci b (b.length-1)=1):(y4 p a b).length=a.length+b.length-1/\ci (y4 p a b) (a.length+b.length-1-1)=1:=by
 have ht:(ci a*ci b) (a.length-1+(b.length-1))=1:=by
  rw[xk,xU (i:=a.length-1) fun i hi=> ?_,zN,show a.length-1+(b.length-1)-(a.length-1)=b.length-1 by omega,he,hd]
  ·rfl
  ·by_cases hc:i<a.length-1
   ·rw[zQ (l:=b) (by omega),xas]
   ·rw[zQ (l:=a) (by omega),xaQ]
 have h1:ci (y4 p a b) (a.length+b.length-1-1)=1:=by
  rw[QP,show a.length+b.length-1-1=a.length-1+(b.length-1)by omega,ht];exact xaz (by decide) (by omega)
 refine⟨xcR ((vJ (by omega) a b).nl.le fun k hk=> ?_) (xbw fun hf=> ?_),h1⟩
 ·rw[QP,vA (n:=a.length) (m:=b.length) (fun j hj=>zQ hj) (fun j hj=>zQ hj) (by omega),xag]
 ·rw[zQ (by omega)]at h1;cases h1
theorem GQ{p:Int}(hp:2<=p): ∀(fs:List (List Int)) {t:List Int},0<t.length->ci t (t.length-1)=1->(∀f∈fs,GR p f)->0<(fs.foldl (y4 p) t).length/\ci (fs.foldl (y4 p) t) ((fs.foldl (y4 p) t).length-1)=1
 |[],_,h0,h1,_=>⟨h0,h1⟩
 |f::r,t,h0,h1,h=>by
  have hf:=h f (FS);obtain⟨e1,e2⟩:=Sk hp h0 h1 (show 0<f.length by have:=hf.2.1;omega) hf.2.2;have:=hf.2.1;exact GQ hp r (t:=y4 p t f) (by omega) (by rw[e1];exact e2) fun g hg=>h g (H1 _ hg)
theorem NK(hp:2<=p){fs:List (List Int)}(h: ∀f∈fs,GR p f):0<(XM p fs).length/\ci (XM p fs) ((XM p fs).length-1)=1:=GQ hp fs (by decide) rfl h
theorem tH(h:Nl l):(ja l).length=l.length:=by
 unfold ja;rw[xD];exact Ur (xac _) (fun k h1 h2=>by omega) (h.imp id id)
theorem bS(h:Fp p l)(ha:p<=65521):Rd 250 (p^1) (ja l):=by
 refine⟨(DQ (h.rl ha)).mono (by decide),?_⟩;rw[xbk,xbs,xbX];unfold wq;rw[show(fun j=>cf (ja l) j % p)=cf (ja l)from funext fun j=>by rw[qE,h.mod]];exact DR _ _
theorem qH.congr{f f' g':Pz}(h:qH p f g)(hf:Cg p f f')(hg:Cg p g g'):qH p f' g':=by
 obtain⟨s,t,z1,z2,h⟩:=h;exact⟨s,t,z1,z2,((Cg.rfl.mul hf.symm).add (Cg.rfl.mul hg.symm)).trans h⟩
theorem sW{A B:List (List Int)}(h: ∀a∈A,∀b∈B,qH p (ci a) (ci b)):qH p (prZ (A.map ci)) (prZ (B.map ci)):=by
 have hA: ∀f∈A.map ci,Fs f:=fun f hf=>by obtain⟨a,_,rfl⟩:=xai.1 hf;exact Fs.ci a
 have hB: ∀f∈B.map ci,Fs f:=fun f hf=>by obtain⟨a,_,rfl⟩:=xai.1 hf;exact Fs.ci a
 refine(qH.prZ (Fs.prZ hA) hB fun g hg=> ?_).symm;obtain⟨b,hb,rfl⟩:=xai.1 hg;refine(qH.prZ (Fs.ci b) hA fun f hf=> ?_).symm;obtain⟨a,ha,rfl⟩:=xai.1 hf;exact h a ha b hb
theorem zaT{c:Int}(hp:wG p=true)(h0:0<c)(h1:c<p):qH p (pc c) g:=by
 obtain⟨x,e1,e2,e3,e4⟩:=Vv (fu:=3000000) hp h0 h1 (xac _);obtain⟨p1,p2⟩:=zo hp;refine⟨pc x,pc 0,Fs.pc _,Fs.pc _,?_⟩;rw[yg,qL];intro k;rw[zK,zM,xbx];unfold pc;split
 ·rw[e4];exact(xaz (by decide) (by omega)).symm
 ·rfl
def nY{α β:Type}(R:α->β->Prop):List α->List β->Prop
 |[],[]=>True
 |a::r,b::s=>R a b/\nY R r s
 |_,_=>False
theorem nY.append{α β:Type}{R:α->β->Prop}: ∀{a:List α} {b:List β} {c:List α} {d:List β},nY R a b->nY R c d->nY R (a++c) (b++d)
 |[],[],_,_,_,h=>h
 |_::_,_::_,_,_,h,h'=>⟨h.1,nY.append h.2 h'⟩
theorem nY.len{α β:Type}{R:α->β->Prop}: ∀{a:List α} {b:List β},nY R a b->a.length=b.length
 |[],[],_=>rfl
 |_::_,_::_,h=>by rw[xav,xav,h.2.len]
structure Up(p:Int)(k:Nat)(u:List Zr)(g:List Int):Prop where
 rd:Rd 250 (p^k) u
 len:u.length=g.length
 top:cf u (u.length-1)=1
 cg:Cg p (cf u) (ci g)
theorem NQ{f:List Zr}(h:0<f.length):f.drop (f.length-1)=[f.getD (f.length-1) (false,[])]:=sQ (by omega)
theorem Td{z:Zr}(hp:0<p)(h0:zv z % p≠0):vS p [z]=[zv z % p]:=by
 have hr:=yh (a:=zv z) (p:=p) hp;refine(X8 hp [z]).ext (Yc (by omega) hr.2) ((Uu p [z]).trans fun k=> ?_);rw[v8]
 cases k with
 |zero=>show zv z % p=(zv z % p) % p;rw[xaD]
 |succ k=>rw[z6 (p:=[z]) (by simp)];rfl
end
end Go.Proofs.YtmggkmchbdanfaaGreat
