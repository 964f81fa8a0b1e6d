/- What a proof needs: rules of walking, mirrors of functions and their plain laws. No condition. -/
import Derived.Test.YtmggkmchbdanfaaGreatZd4
set_option linter.unusedVariables false
set_option linter.unusedSimpArgs false
namespace Go.Proofs.YtmggkmchbdanfaaGreat
open Bool renaming false_eq_true->xah,not_true->xdK
open Classical renaming byContradiction->xaf,not_forall->xfB,not_imp->xfk
open Int renaming add_comm->xfu,add_emod->xdM,add_mul_emod_self_left->xeB,add_zero->xbx,dvd_mul_left->xcK,dvd_mul_right->xcj,dvd_of_emod_eq_zero->xaG,dvd_refl->xdN,dvd_sub->xdo,dvd_trans->xbB,dvd_zero->xcJ,emod_emod->xaC,emod_emod_of_dvd->xcC,emod_eq_emod_iff_emod_sub_eq_zero->xaH,emod_eq_of_lt->xaz,emod_eq_zero_of_dvd->xax,emod_lt_of_pos->xdu,emod_nonneg->xcP,eq_ofNat_of_zero_le->xaB,fdiv->xfM,fdiv_eq_ediv_of_nonneg->xeA,le_refl->xfl,lt_trichotomy->xey,mul_add->xeP,mul_assoc->xbG,mul_comm->xbi,mul_dvd_mul->xfJ,mul_emod->xbq,mul_le_mul_of_nonneg_right->xbD,mul_neg->xes,mul_nonneg->xcy,mul_one->xce,mul_zero->xat,natAbs_mul->xcr,natAbs_natCast->xbc,natCast_add->xdU,natCast_nonneg->xdb,one_mul->xbY,pow_succ->xbk,pow_zero->xbs,sub_mul->xfK,sub_self->xcV,sub_zero->xcB,tdiv->xda,tmod->xbX,toNat_natCast->xaR,toNat_of_nonneg->xcT,zero_add->xcA,zero_emod->xag,zero_mul->xaU
open Lib renaming bitLen->xeQ
open List renaming append_assoc->xak,drop->xdv,drop_eq_getElem_cons->xcu,drop_eq_nil_of_le->xcf,ext_getElem->xeI,ext_getElem?->xcv,getD_eq_getElem?_getD->UV,getElem?_eq_getElem->IR,getElem?_eq_none->xaI,getElem?_map->xaA,getElem?_range->xbg,getElem?_replicate->xeV,getElem?_set->xdX,getElem?_take->xbT,getElem_mem->xbh,length_append->xau,length_cons->xav,length_drop->xbO,length_eq_zero_iff->xbF,length_map->xaM,length_nil->xcq,length_range->xcx,length_replicate->xaT,length_set->xcG,length_take->xay,map_append->xaN,map_congr_left->xbL,mem_cons_of_mem->H1,mem_cons_self->FS,mem_iff_getElem->xdx,mem_map->xal,mem_of_mem_take->xeC,mem_range->xaQ,nil_append->xbE,range->xbb,range_succ->xdC,replicate->xae,set_append_right->xfs,take->xdr,take_add_one->xfj,take_length->xcR,take_of_length_le->xaX
open Nat renaming add_comm->xdz,add_mul->xaV,add_mul_div_left->xdw,add_mul_mod_self_left->xcN,add_sub_cancel->xem,add_zero->xcg,div_add_mod->xbC,div_div_eq_div_mul->xaY,div_eq_of_lt->xca,div_le_self->xdV,div_lt_iff_lt_mul->xbf,div_mul_le_self->xdn,div_one->xeO,eq_zero_of_not_pos->xek,eq_zero_or_pos->xcL,gcd->xee,gcd_comm->xeu,le_add_right->xbI,le_antisymm->xcO,le_div_iff_mul_le->xcs,le_max_left->xeZ,le_max_right->xeH,le_mul_of_pos_left->xdk,le_of_lt->xds,le_of_not_lt->xbw,le_refl->xac,le_succ->xcc,le_trans->xao,lt_of_le_of_lt->xbe,lt_of_lt_of_le->xap,lt_of_not_le->xdI,lt_or_ge->xch,lt_succ_self->xbV,min_eq_left->xcX,mod_eq_of_lt->xaE,mod_lt->xbp,mul_add->xbm,mul_assoc->xbd,mul_comm->xba,mul_div_mul_right->xft,mul_le_mul->xbU,mul_le_mul_left->xaJ,mul_le_mul_right->xas,mul_lt_mul''->xdJ,mul_lt_mul_of_pos_right->xbS,mul_mod_mul_right->xet,mul_one->xcD,mul_zero->xdi,not_lt_zero->xbv,one_mul->xcm,pos_of_ne_zero->xcE,pow_add->xcd,pow_le_pow_right->xaK,pow_lt_pow_right->xfA,pow_mul->xdc,pow_pos->xbo,pow_succ->xbu,pow_succ'->xeY,pow_zero->xeR,strongRecOn->xdq,sub_self->xcU,zero_add->xaS,zero_le->xaj,zero_mul->xcI
section
variable{a b:List Nat}{k fu x:Nat}
theorem zC{α β:Type}{f:(β->Option α)->β->Option α}(I:β->Prop)(m:β->Nat)(r:α)
 (step: ∀s L,I s->(∀s',I s'->m s'<m s->L s'=some r)->f L s=some r): ∀(n:Nat) (s:β),I s->m s<n->zj f n s=some r
 |0,s,_,h=>absurd h (xbv _)
 |n+1,s,hI,h=>step s _ hI fun s' ha hm=>zC I m r step n s' ha (by omega)
theorem C8(hk:k+1<=a.length)(h0:a.getD k 0=0):nv (a.take k)=nv (a.take (k+1)):=by
 rw[vL,h0];simp
theorem Az(h:zm a)(hk:k+1<=a.length)(h0:a.getD k 0≠0):yH (nv (a.take (k+1)))=a.take (k+1):=by
 refine E4 (h.take _) (.inr ?_);have:(a.take (k+1)).length-1=k:=by rw[xay];omega
 rw[this,UV,xbT,zM,<-UV];exact h0
theorem yX(h:zm a)(hl:a.length<=17592186044416)(hf:a.length<fu):yJ fu a=some (yH (nv a)):=by
 unfold yJ;rw[za (v:=yH (nv a))];refine zC (fun l=>zm l/\nv l=nv a/\l.length<=17592186044416) (fun l=>l.length) _ ?_ _ _ ⟨h,rfl,hl⟩ hf;rintro l L ⟨hL,hn,hk⟩ ih;unfold Zc;by_cases h0:0<(l.length:Int)
 ·obtain⟨k,ha⟩: ∃k,l.length=k+1:=⟨l.length-1,by omega⟩;have e1:(l.length:Int)-1=(k:Int):=by omega
  rw[iq h0,e1,zb,yB,zf];by_cases h1:l.getD k 0=0
  ·rw[iq (by rw[h1]),zb,yN,yF,zf];refine ih _ ⟨hL.take _,?_,by rw[xay];omega⟩ (by rw[xay];omega);rw[C8 (by omega) h1,<-ha,xcR,hn]
  ·rw[zx,<-hn];have:=Az hL (k:=k) (by omega) h1;rw[<-ha,xcR]at this;rw[this]
 ·rw[ir h0,<-hn];have:l=[]:=xbF.1 (by omega);rw[this];rfl
theorem xu(h:zm a)(hl:a.length<=17592186044416)(hf:a.length<fu):xn fu a=some (yH (nv a)):=by
 have:=yX h hl hf;unfold yJ Zc at this;unfold xn UR;exact this
theorem Yz(h:zm a)(hl:a.length<=17592186044416)(hf:a.length<fu):ur fu a=some (yH (nv a)):=by
 unfold ur xA;rw[za (xu h hl hf),za (v:=yH (nv a))];rw[qZ (by have:=xM h;omega)]
theorem zdk(x:Nat):x &&& 4294967295=x % 4294967296:=Nat.and_two_pow_sub_one_eq_mod x 32
theorem zdN:min (((32:Nat):Int)).toNat 64=32:=by decide
theorem YO{y:Nat}(hx:x<18446744073709551616)(hy:y<18446744073709551616):vO fu x y=some (x*y/18446744073709551616,x*y % 18446744073709551616):=by
 unfold vO;simp only[nm,zdk,zdN];obtain⟨b1,b2,b3,b4⟩:=zbF hx hy;have e:=zaK x y;generalize hA:(x % 4294967296)*(y % 4294967296)=A at*
 generalize hB:(x/2^32)*(y % 4294967296)=B at*
 generalize hC:(x % 4294967296)*(y/2^32)=C at*
 generalize hD:(x/2^32)*(y/2^32)=D at*
 have hz:x*y<18446744073709551616*18446744073709551616:=xdJ hx hy;generalize x*y=z at*
 congr 2;omega
theorem qA{n:Nat}{f:Int->Nat->Option (Nat×Nat)}{step:Nat->Nat->Nat×Nat}(hn:n<=17179869184)(hf:n<fu)(h: ∀k,k<n->f (k:Int) (xW step k).2=some (step k (xW step k).2)):wV fu n f=some (xW step n):=by
 unfold wV;rw[yN,yF,zf,za (v:=((xW step n).2,(xW step n).1))];refine zC (fun s:Nat×Int×List Nat=> ∃k:Nat,k<=n/\s=((xW step k).2,(k:Int),(xW step k).1++xae (n-k) 0)) (fun s=>n-s.2.1.toNat) _ ?_ _ _ ⟨0,by omega,rfl⟩ (by simpa using hf);rintro s L ⟨k,hk,rfl⟩ ih;unfold Jy;simp only[xaT];by_cases h1:(k:Int)<(n:Int)
 ·have hl:(xW step k).1.length=k:=xD step k;rw[iq h1,za (h k (by omega)),zp (by simp[hl];omega),zf,zb];refine ih _ ⟨k+1,by omega,?_⟩ (by show n-((k:Int)+1).toNat<n-((k:Int)).toNat;omega);rw[zco hl (by omega)];rfl
 ·rw[ir h1];obtain rfl:k=n:=by omega
  simp
theorem YB(a:List Nat)(hl:a.length<=9223372036854775807):YF fu a (k:Int)=some (a.getD k 0):=by
 unfold YF;by_cases h:k<a.length
 ·rw[zM,zp h,zf]
 ·rw[zx,UV,xaI (by omega)];rfl
theorem kv(ha:zm a)(hb:zm b)(hd:a.length<=8589934592)(he:b.length<=8589934592)(hf:max a.length b.length+1<fu):
 j9 fu a b=some (yH (nv a+nv b)):=by
 unfold j9;have e:max (a.length:Int) (b.length:Int)=((max a.length b.length:Nat):Int):=by omega
 have hc: ∀k,(xW (gZ a b) k).2<=1:=by
  intro k
  induction k with
  |zero=>exact xaj _
  |succ k ih=>exact H5 ha hb ih
 rw[zf,e,za (qA (step:=gZ a b) (by omega) (by omega) ?_)]
 ·have hl:=xD (gZ a b) (max a.length b.length);show ck _ _=_;rw[qZ (by simp[hl];omega),zf,za (yX ?_ (by simp[hl];omega) (by simp[hl];omega)),zaf (by omega) (by omega)];exact(oi a b _).2.append (zm.cons (by have:=hc (max a.length b.length);omega) zm.nil)
 ·intro k hk;unfold Km;rw[za (YB a (by omega)),za (YB b (by omega)),qZ (hc k)];rfl
theorem X3(ha:zm a)(hb:zm b)(hd:a.length<=8589934592)(he:b.length<=8589934592)(hf:max a.length b.length+1<fu):
 Wb fu a b=some (if nv a<nv b then([],1)else(yH (nv a-nv b),0)):=by
 unfold Wb;have e:max (a.length:Int) (b.length:Int)=((max a.length b.length:Nat):Int):=by omega
 have hc: ∀k,(xW (Qj a b) k).2<=1:=by
  intro k
  cases k with
  |zero=>exact xaj _
  |succ k=>exact m8 a b k _
 rw[zf,e,za (qA (step:=Qj a b) (by omega) (by omega) ?_)]
 ·have hl:=xD (Qj a b) (max a.length b.length);have hs:=tQ ha hb (xeZ a.length b.length) (xeH a.length b.length);simp only;by_cases h:nv a<nv b
  ·rw[iq (by have:=hs.2 h;omega),iq h]
  ·rw[ir (by intro h1;exact h (hs.1 (by omega))),ir h,za (yX (nD ha hb (xeZ a.length b.length) (xeH a.length b.length)).2.1 (by omega) (by omega)),N3 ha hb (xeZ _ _) (xeH _ _) h]
 ·intro k hk;unfold KR;rw[za (YB a (by omega)),za (YB b (by omega)),qZ (hc k)];rfl
theorem VB(ha:zm a)(hb:zm b)(hc:a.length<=8589934592)(hd:b.length<=8589934592)(hf:max a.length b.length+1<fu)(h:nv b<=nv a):
 Z6 fu a b=some (yH (nv a-nv b)):=by
 unfold Z6;rw[za (X3 ha hb hc hd hf),zx]
theorem GH{a:List Nat}{x:Nat}(ha:zm a)(hx:x<18446744073709551616): ∀k,(xW (Ji a x) k).2<18446744073709551616
 |0=>Nat.zero_lt_succ _
 |k+1=>HJ ha hx (GH ha hx k)
theorem Oe{a c:Nat}(ha:a<18446744073709551616)(hx:x<18446744073709551616)(hc:c<18446744073709551616):
 ((a*x % 18446744073709551616+c) % 18446744073709551616,(a*x/18446744073709551616+(a*x % 18446744073709551616+c)/18446744073709551616) % 18446744073709551616)=((a*x+c) % 18446744073709551616,(a*x+c)/18446744073709551616):=by
 have:=bH ha hx hc;generalize a*x=z at*
 congr 1<;>omega
theorem Q1(ha:zm a)(hx:x<18446744073709551616)(hb:a.length<=8589934592)(hf:a.length<fu):Wi fu a x=some (wm (a.length+1) (nv a*x)):=by
 unfold Wi;rw[za (qA (step:=Ji a x) (by omega) hf ?_)]
 ·have hl:=xD (Ji a x) a.length;simp only;rw[qZ (by simp[hl];omega),zf,DP (GH ha hx _)]
 ·intro k hk;unfold KE;rw[zp hk,zf,za (YO (ha.getD k) hx)];simp only[nm,xcg];exact congrArg some (Oe (ha.getD k) hx (GH ha hx k))
theorem WK{n:Nat}(hn:n<=1099511627776)(hl:a.length<=1099511627776):uE fu a (n:Int)=some (xae n 0++a):=by
 unfold uE;rw[yN,yF,zf,qZ (by simp;omega),zf]
theorem BN{n:Nat}{t3 t4 t6:List Nat}{i2:Int}(ha:zm a)(hb:zm b)(hk:k<b.length)(hn:n=a.length+b.length+1)(hj:n<=17179869184)(h6:t6=wm (a.length+1) (nv a*b.getD k 0))(hf:a.length+1<fu):
 zj (Wy fu (k:Int) t3 t4 i2 t6) fu (0,0,wm n (nv a*nv (b.take k)),t6)=some (wm n (nv a*nv (b.take (k+1)))):=by
 have hl:t6.length=a.length+1:=by rw[h6,ya]
 have hg:zm t6:=h6▸xH _ _;have hB:nv a*nv (b.take k)<18446744073709551616^n:=xap (XI ha hb) (xaK (by decide) (by omega));have h0:nv (wm n (nv a*nv (b.take k)))=nv a*nv (b.take k):=by rw[jq,xaE hB]
 refine zC (fun s:Nat×Int×List Nat×List Nat=> ∃(c i:Nat) (o:List Nat),s=(c,(i:Int),o,t6)/\i<=t6.length/\c<=1/\zm o/\o.length=n/\nv o+18446744073709551616^(k+i)*c=nv a*nv (b.take k)+18446744073709551616^k*nv (t6.take i))
  (fun s=>a.length+1-s.2.1.toNat) _ ?_ _ _ ⟨0,0,_,rfl,by omega,by omega,xH _ _,ya _ _,by rw[h0];simp[nv]⟩ (by simpa using hf)
 rintro s L ⟨c,i,o,rfl,hi,hc,hd,he,ho⟩ ih;unfold Wy;simp only;by_cases h1:i<t6.length
 ·rw[zM,za rfl];simp only[if_true];have e:(k:Int)+(i:Int)=((k+i:Nat):Int):=by omega
  rw[zp h1,zf,e,zb,zb,yB,zf,qZ hc,zf,zf,yB,zf,zb];refine ih _ ⟨_,i+1,_,rfl,by omega,?_,hd.set _ (xbp _ (by decide)),by rw[xcG,he],?_⟩ (by show a.length+1-((i:Int)+1).toNat<a.length+1-(i:Int).toNat;omega)
  ·have:=hd.getD (k+i);have:=hg.getD i;omega
  ·have:=Tc (o:=o) (o0:=wm n (nv a*nv (b.take k))) (r:=t6) (j:=k) (i:=i) (c:=c) (by omega) (by rw[h0];exact ho);rw[h0]at this;exact this
 ·rw[zx,za rfl];simp only[xah,if_false];subst h6;refine congrArg some (s9 hd (xH _ _) (by rw[he,ya]) ?_);rw[Er ha hb (k:=k) (i:=i) (c:=c) (p:=o) (o:=wm n (nv a*nv (b.take k))) (by omega) (by omega) h0 (by rw[h0];exact ho),jq,xaE];exact xap (XI ha hb) (xaK (by decide) (by omega))
theorem gK(ha:zm a)(hb:zm b)(hc:a.length<=4294967296)(hd:b.length<=4294967296)(hf:a.length+b.length+1<fu):
 X7 fu a b=some (yH (nv a*nv b)):=by
 unfold X7;have e1:(a.length:Int)+(b.length:Int)=((a.length+b.length:Nat):Int):=by omega
 have e2:((a.length+b.length:Nat):Int)+1=((a.length+b.length+1:Nat):Int):=by omega
 have hB:nv a*nv b<18446744073709551616^(a.length+b.length+1):=by
  have:=XI (k:=b.length) ha hb;rw[xcR]at this;exact xap this (xaK (by decide) (by omega))
 rw[e1,zb,e2,zb,yN,yF,zf,za (v:=wm (a.length+b.length+1) (nv a*nv b))]
 ·rw[za (yX (xH _ _) (by rw[ya];omega) (by rw[ya];omega)),jq,xaE hB]
 ·refine zC (fun s:Int×List Nat=> ∃k:Nat,k<=b.length/\s=((k:Int),wm (a.length+b.length+1) (nv a*nv (b.take k)))) (fun s=>b.length-s.1.toNat) _ ?_ _ _ ⟨0,by omega,by simp[nv,tZ]⟩ (by simp;omega);rintro s L ⟨k,hk,rfl⟩ ih;unfold Kx;simp only;by_cases h1:k<b.length
  ·rw[zM,za rfl];simp only[if_true];rw[zp h1,zf,za (Q1 ha (hb.getD k) (by omega) (by omega)),za (BN ha hb h1 rfl (by omega) rfl (by omega)),zb];exact ih _ ⟨k+1,by omega,rfl⟩ (by show b.length-((k:Int)+1).toNat<b.length-(k:Int).toNat;omega)
  ·rw[zx,za rfl];simp only[xah,if_false];obtain rfl:k=b.length:=by omega
   rw[xcR]
end
theorem Iv(n:Nat):xda (n:Int) 2=((n/2:Nat):Int):=rfl
theorem KK(x h:Nat):(yH (nv ((yH x).take h))).length<=h:=by
 have:=xM ((zu x).take h);rw[xay]at this;omega
theorem KF(x h:Nat):(yH (nv ((yH x).drop h))).length<=(yH x).length-h:=by
 have:=xM ((zu x).drop h);rw[xbO]at this;omega
theorem XT: ∀{fu:Nat} {a b:List Nat},zm a->zm b->a.length<=1073741824->b.length<=1073741824->4*(a.length+b.length)+64<=fu->Wg fu a b=some (yH (nv a*nv b))
 |0,a,b,_,_,_,_,hf=>by omega
 |fu+1,a,b,ha,hb,hk,hl,hf=>by
  have h1:=xM ha;have h2:=xM hb;show bd _ _=_;rw[za (xu ha (by omega) (by omega)),za (xu hb (by omega) (by omega))];have eA:nv (yH (nv a))=nv a:=z6 _;have eB:nv (yH (nv b))=nv b:=z6 _;generalize hx:nv a=x at*
  generalize hy:nv b=y at*
  generalize hp:(yH x).length=p at*
  generalize hq:(yH y).length=q at*
  have e1:min (p:Int) (q:Int)=((min p q:Nat):Int):=by omega
  rw[zf,e1];by_cases h8:((min p q:Nat):Int)<8
  ·rw[iq h8,za (gK (zu x) (zu y) (by omega) (by omega) (by omega)),eA,eB]
  ·rw[ir h8];have e2:max (p:Int) (q:Int)=((max p q:Nat):Int):=by omega
   rw[zf,e2,Iv,zb];obtain⟨h,hh⟩: ∃h,h=max p q/2:=⟨_,rfl⟩;have e3: ∀l:Nat,min (h:Int) (l:Int)=((min h l:Nat):Int):=by intro l;omega
   rw[<-hh];simp only[nm,e3,yN];rw[qZ (by decide),yF];have tx:(yH x).take (min h p)=(yH x).take h:=by rw[<-hp];exact DC h
   have dx:(yH x).drop (min h p)=(yH x).drop h:=by rw[<-hp];exact E8 h
   have ty:(yH y).take (min h q)=(yH y).take h:=by rw[<-hq];exact DC h
   have dy:(yH y).drop (min h q)=(yH y).drop h:=by rw[<-hq];exact E8 h
   rw[tx,ty,dx,dy];have lx0:=KK x h;have ly0:=KK y h;have lx1:((yH x).drop h).length=p-h:=by rw[xbO,hp]
   have ly1:((yH y).drop h).length=q-h:=by rw[xbO,hq]
   have lx2:=KF x h;have ly2:=KF y h;rw[za (xu ((zu x).take h) (by rw[xay];omega) (by rw[xay];omega)),yF,yF,za (xu ((zu y).take h) (by rw[xay];omega) (by rw[xay];omega)),yF];have X1:=(zu x).drop h;obtain⟨m,hm⟩: ∃m,m=max p q:=⟨_,rfl⟩;have f1:p<=m:=by omega
   have f2:q<=m:=by omega
   have f3:m+8<=p+q:=by omega
   have f4:2*h<=m:=by omega
   have f5:m<=2*h+1:=by omega
   clear hh hm h8 e1 e2 e3 tx ty dx dy;have g1:p-h<=m-h:=by omega
   have g2:q-h<=m-h:=by omega
   have g3:h<=m-h:=by omega
   replace lx2:=xao lx2 (hp.symm▸g1);replace ly2:=xao ly2 (hq.symm▸g2);have lx3:((yH x).drop h).length<=m-h:=lx1▸g1;have ly3:((yH y).drop h).length<=m-h:=ly1▸g2;clear lx1 ly1 g1 g2;have Y1:=(zu y).drop h;generalize he:nv ((yH x).take h)=x0 at*
   generalize hg:nv ((yH y).take h)=y0 at*
   generalize hi:(yH x).drop h=dX at*
   generalize hj:(yH y).drop h=dY at*
   generalize hc:nv dX=x1 at*
   generalize hd:nv dY=y1 at*
   have s1:=YR (x:=x0) (y:=x1) (k:=m-h) (by omega) (by omega);have s2:=YR (x:=y0) (y:=y1) (k:=m-h) (by omega) (by omega);have kle:=zcW x0 x1 y0 y1;rw[za (XT (fu:=fu) (zu x0) (zu y0) (by omega) (by omega) (by omega))];rw[za (XT (fu:=fu) X1 Y1 (by omega) (by omega) (by omega))];rw[za (kv (zu x0) X1 (by omega) (by omega) (by omega)),za (kv (zu y0) Y1 (by omega) (by omega) (by omega))];rw[hc,hd,z6,z6];rw[za (XT (fu:=fu) (zu (x0+x1)) (zu (y0+y1)) (by omega) (by omega) (by omega)),z6,z6];have l3:=YA s1 s2;have l1:=YA lx0 ly0;have l2:=YA (x:=x1) (y:=y1) (j:=m-h) (k:=m-h) (by omega) (by omega);have l4:=JK (Nat.sub_le ((x0+x1)*(y0+y1)) (x0*y0));have l5:=JK (Nat.sub_le ((x0+x1)*(y0+y1)-x0*y0) (x1*y1));rw[za (VB (zu ((x0+x1)*(y0+y1))) (zu (x0*y0)) (by omega) (by omega) (by omega) (by rw[z6,z6];exact kle.1)),z6,z6];rw[za (VB (zu ((x0+x1)*(y0+y1)-x0*y0)) (zu (x1*y1)) (by omega) (by omega) (by omega) (by rw[z6,z6];exact kle.2)),z6,z6];have mL: ∀n z:Nat,zm (xae n 0++yH z):=fun n z=>(zm.replicate n).append (zu z);have ml: ∀n z:Nat,(xae n 0++yH z).length=n+(yH z).length:=fun n z=>by rw[xau,xaT]
   rw[za (WK (by omega) (by omega)),za (kv (zu _) (mL _ _) (by omega) (by rw[ml];omega) (by rw[ml];omega)),z6,lO,z6];have e4:2*(h:Int)=((2*h:Nat):Int):=by omega
   rw[e4,zb,za (WK (by omega) (by omega))];have l6:=DD h (xao l5 (xao l4 l3));have l7:=YR (x:=x0*y0) (y:=18446744073709551616^h*((x0+x1)*(y0+y1)-x0*y0-x1*y1)) (k:=3*(p+q)) (by clear l6;omega) (xao l6 (by clear l6;omega));have K:=Ss x y h he.symm (by rw[hi,hc]) hg.symm (by rw[hj,hd]);generalize 18446744073709551616^h*((x0+x1)*(y0+y1)-x0*y0-x1*y1)=z1 at*
   generalize hz:x0*y0+z1=z at*
   clear l6;rw[za (kv (zu z) (mL (2*h) (x1*y1)) (by clear K;omega) (by rw[ml];clear K;omega) (by rw[ml];clear K;omega)),z6,lO,z6,K]
section
variable{k fu:Nat}{a:List Nat}
def blf:Nat->Nat->Nat
 |0,_=>0
 |f+1,n=>if n=0 then 0 else blf f (n/2)+1
def bl(n:Nat):Nat:=blf n n
theorem TG: ∀f f' n,n<=f->n<=f'->blf f n=blf f' n
 |0,f',n,h,h'=>by
  obtain rfl:n=0:=by omega
  cases f'<;>rfl
 |f+1,0,n,h,h'=>by
  obtain rfl:n=0:=by omega
  rfl
 |f+1,f'+1,n,h,h'=>by
  unfold blf;split
  ·rfl
  ·rw[TG f f' (n/2) (by omega) (by omega)]
theorem zbZ:bl 0=0:=rfl
theorem Jc{n:Nat}(h:0<n):bl n=bl (n/2)+1:=by
 obtain⟨m,rfl⟩: ∃m,n=m+1:=⟨n-1,by omega⟩;show(if m+1=0 then 0 else blf m ((m+1)/2)+1)=_;rw[zx,TG m ((m+1)/2) ((m+1)/2) (by omega) (xac _)];rfl
theorem KY: ∀(k:Nat) {n:Nat},2^k<=n->bl n=bl (n/2^k)+k
 |0,n,h=>by simp
 |k+1,n,h=>by
  have h2:0<2^k:=Nat.two_pow_pos k;rw[xbu]at h;rw[Jc (by omega),KY k (n:=n/2) (by omega),xaY,xbu,xba 2];omega
theorem Qy{n:Nat}(h:n<2^k):bl n<=k:=by
 induction k generalizing n with
 |zero=>
  obtain rfl:n=0:=by omega
  exact xac _
 |succ k ih=>
  rcases xcL n with rfl|h0
  ·exact xaj _
  ·rw[Jc h0];have:=ih (n:=n/2) (by rw[xbu]at h;omega);omega
theorem lZ(n:Nat):n<2^bl n:=by
 induction n using xdq with
 |ind n ih=>
  rcases xcL n with rfl|h0
  ·decide
  ·rw[Jc h0,xbu];have:=ih (n/2) (by omega);omega
theorem tS: ∀{n:Nat},n<256->xeQ n=bl n:=by decide+kernel
theorem vH{x:Nat}(hx:x<18446744073709551616):xp fu x=some ((bl x:Nat):Int):=by
 unfold xp;have e16:min (16:Int).toNat 64=16:=by decide
 have e8:min (8:Int).toNat 64=8:=by decide
 have e32:min (32:Int).toNat 64=32:=by decide
 simp only[nm,e32,e16,e8];have last: ∀(d:Nat) (i:Int),d<65536->0<=i->i<=48->(if(256:Int)<=(d:Int)then ze (i+8) fun x2=>ze (x2+((xeQ (d/2^8 % 256):Nat):Int)) fun x3=>some x3 else ze (i+((xeQ (d % 256):Nat):Int)) fun x4=>some x4)=some (i+((bl d:Nat):Int)):=by
  intro d i hd h0 h1;by_cases h:256<=d
  ·have b:=Qy (n:=d/2^8) (k:=8) (by omega);rw[zM,zb,xaE (by omega),tS (by omega),zb,KY 8 (n:=d) (by omega)];congr 1;omega
  ·have b:=Qy (n:=d) (k:=8) (by omega);rw[zx,xaE (by omega),tS (by omega),zb]
 have mid: ∀(d:Nat) (i:Int),d<4294967296->0<=i->i<=32->(bd (if(65536:Int)<=(d:Int)then ze (i+16) fun x1=>some (d/2^16,x1)else some (d,i)) fun(d2,i2)=>if(256:Int)<=(d2:Int)then ze (i2+8) fun x2=>ze (x2+((xeQ (d2/2^8 % 256):Nat):Int)) fun x3=>some x3 else ze (i2+((xeQ (d2 % 256):Nat):Int)) fun x4=>some x4)=some (i+((bl d:Nat):Int)):=by
  intro d i hd h0 h1;by_cases h:65536<=d
  ·rw[zM,zb,za rfl];simp only;rw[last _ _ (by omega) (by omega) (by omega),KY 16 (n:=d) (by omega)];congr 1;omega
  ·rw[zx,za rfl];exact last _ _ (by omega) (by omega) (by omega)
 by_cases h:4294967296<=x
 ·rw[zM,za rfl];simp only;rw[mid _ _ (by omega) (by omega) (by omega),KY 32 (n:=x) (by omega)];congr 1;omega
 ·rw[zx,za rfl];simp only;rw[mid _ _ (by omega) (by omega) (by omega)];congr 1;omega
theorem Ff{n:Nat}(h:0<n):bl n=64*((yH n).length-1)+bl ((yH n).getD ((yH n).length-1) 0):=by
 obtain⟨k,hk⟩: ∃k,(yH n).length=k+1:=⟨(yH n).length-1,by have:=vK h;omega⟩;have h1:=(zH (k+1) n).1 (by omega);have h2: ¬n<18446744073709551616^k:=fun h=>by have:=(zH k n).2 h;omega
 rw[hk,Zo,show k+1-1=k by omega];have e:18446744073709551616^k=2^(64*k):=by rw[xdc]
 have h3:n/18446744073709551616^k<18446744073709551616:=by rw[xbf (xbo (by decide))];rw[xbu,xba]at h1;exact h1
 rw[xaE h3,e,KY (64*k) (by rw[<-e];omega)];omega
theorem Tw(h:zm a)(hk:a.length<=k):bl (nv a)<=64*k:=by
 refine Qy ?_;rw[xdc];exact xap (jt h) (xaK (by decide) hk)
theorem Yq(h:zm a)(hl:a.length<=1099511627776)(hf:a.length<fu):jS fu a=some ((bl (nv a):Nat):Int):=by
 unfold jS;rw[za (xu h (xao hl (by decide)) hf)];have hL:=xM h;have hb:=Tw h hl;rcases xcL (nv a)with h0|h0
 ·rw[h0,VW];rfl
 ·have h1:=vK h0;have hy:=(zu (nv a)).getD ((yH (nv a)).length-1);have e:=Ff h0;obtain⟨k,hk⟩: ∃k,(yH (nv a)).length=k+1:=⟨(yH (nv a)).length-1,by omega⟩;rw[hk]at e hy;simp only[xem]at e hy;have e1:((k+1:Nat):Int)-1=(k:Int):=by omega
  rw[hk,zx,e1,zb,zb,zb,yB,zf,za (vH hy),zb,e];congr 1
end
def nw:List Nat->Nat
 |[]=>0
 |x::r=>x+4294967296*nw r
theorem Jm{fu:Nat}{a b:List Nat}(ha:a.length<=1099511627776)(hf:a.length<fu):Wa fu a b=some (decide (a=b)):=by
 unfold Wa;by_cases hl:a.length=b.length
 ·rw[zM,za (v:=if a=b then .inl ()else .inr ())]
  ·by_cases h:a=b
   ·rw[iq h,decide_eq_true h]
   ·rw[ir h,decide_eq_false h]
  ·refine zC (fun i:Int=> ∃k:Nat,i=(k:Int)/\k<=a.length/\a.take k=b.take k) (fun i=>a.length-i.toNat) _ ?_ _ _ ⟨0,rfl,by omega,rfl⟩ (by show a.length-0<fu;omega);rintro i L ⟨k,rfl,hk,ht⟩ ih;unfold Ky;by_cases h1:k<a.length
   ·rw[zM,zp h1,zf,yB,zf];by_cases h2:a.getD k 0=b.getD k 0
    ·rw[zM,zb];refine ih _ ⟨k+1,by omega,by omega,?_⟩ (by show a.length-((k:Int)+1).toNat<a.length-(k:Int).toNat;omega);rw[xfj,xfj,ht,getD_some 0 h1,getD_some 0 (by omega:k<b.length),h2]
    ·rw[zx,ir (fun h=>h2 (by rw[h]))]
   ·rw[zx];obtain rfl:k=a.length:=by omega
    rw[xcR,xaX (by omega)]at ht;rw[iq ht]
 ·rw[zx,decide_eq_false (fun h=>hl (by rw[h]))]
section
variable{fu:Nat}{a b:Zr}{x:Int}
def zv(z:Zr):Int:=if z.1=true then-((nv z.2:Nat):Int)else((nv z.2:Nat):Int)
def yP(x:Int):Zr:=(decide (x<0),yH x.natAbs)
theorem zt(x:Int):zv (yP x)=x:=by
 unfold zv yP;simp only[z6,decide_eq_true_eq];split<;>omega
theorem yS(x:Int):zm (yP x).2:=zu _
theorem kf(z:Zr):(zv z).natAbs=nv z.2:=by unfold zv;split<;>omega
theorem zei(s:Bool)(n:Nat):(if s=true then if 0<(((yH n).length:Nat):Int)then some (true,yH n)else some (false,yH n)else some (false,yH n))=some (yP (if s=true then-(n:Int)else(n:Int))):=by
 have h1:= @CR n;cases s
 ·simp[yP]
 ·simp only[if_true];by_cases h:n=0
  ·subst h;rfl
  ·have:=vK (n:=n) (by omega);rw[zM];unfold yP;rw[decide_eq_true (by omega)];congr 2;congr 1;omega
theorem yf{s:Bool}{a:List Nat}(h:zm a)(hl:a.length<=17592186044416)(hf:a.length<fu):yR fu s a=some (yP (if s=true then-((nv a:Nat):Int)else((nv a:Nat):Int))):=by
 unfold yR;rw[za (Yz h hl hf)];exact zei s _
theorem KU{z:Zr}(h:zm z.2)(hl:z.2.length<=17592186044416)(hf:z.2.length<fu):vM fu z=some (yP (zv z)):=by
 unfold vM;rw[za (yf h hl hf)];rfl
theorem nV(h0:0<=x)(h:x<18446744073709551616):((fY x:Nat):Int)=x:=by unfold fY;omega
theorem db{x:Nat}(h:x<18446744073709551616):zm [x]:=zm.cons h zm.nil
theorem BE(x:Nat):nv [x]=x:=by simp[nv]
theorem Jg(h:VM x)(hf:1<fu):zX fu x=some (yP x):=by
 obtain⟨h1,h2⟩:=h;unfold zX;have hu:=gl x;by_cases h0:x<0
 ·have e:(18446744073709551616-fY x) % 18446744073709551616=x.natAbs:=by unfold fY;omega
  rw[iq h0,zf,zf,e,za (yf (db (by omega)) (by simp) (by simpa using hf)),BE];congr 2;rw[iq rfl];omega
 ·have e:=nV (x:=x) (by omega) (by omega);rw[ir h0,zf,za (yf (db hu) (by simp) (by simpa using hf)),BE];congr 2
theorem zbP(a b:Zr):(if(!(a.1==b.1))=true then-((nv a.2*nv b.2:Nat):Int)else((nv a.2*nv b.2:Nat):Int))=zv a*zv b:=by
 unfold zv;cases a.1<;>cases b.1<;>simp[Int.neg_mul,xes]
theorem UE(ha:zm a.2)(hb:zm b.2)(hc:a.2.length<=1073741824)(hd:b.2.length<=1073741824)(hf:4*(a.2.length+b.2.length)+64<=fu):zL fu a b=some (yP (zv a*zv b)):=by
 unfold zL;have hl:=YA (xM ha) (xM hb);rw[zf,za (XT ha hb hc hd hf),za (yf (zu _) (by omega) (by omega)),z6,<-zbP]
theorem gQ(hl:a.2.length<=1099511627776)(hf:a.2.length<fu):XF fu a b=some (decide (a=b)):=by
 obtain⟨s,a⟩:=a;obtain⟨t,b⟩:=b;unfold XF;rw[zf];cases s<;>cases t
 ·simp only[beq_self_eq_true,if_true];rw[za (Jm hl hf)];simp
 ·simp
 ·simp
 ·simp only[beq_self_eq_true,if_true];rw[za (Jm hl hf)];simp
theorem zcA{a:Int}{e b:Nat}(h:bl a.natAbs*e<=b*64):(yH (a^e).natAbs).length<=b+1:=by
 rw[zH,Int.natAbs_pow];have h1:a.natAbs^e<=(2^bl a.natAbs)^e:=Nat.pow_le_pow_left (xds (lZ _)) e;rw[<-xdc]at h1;have h2:2^(bl a.natAbs*e)<=2^(64*b):=xaK (by decide) (by omega);rw[xdc 2 64 b,show(2:Nat)^64=18446744073709551616 from rfl]at h2;have h3:18446744073709551616^b<18446744073709551616^(b+1):=xfA (by decide) (xbV b);omega
theorem So(i:Nat)(h:i<=65536):Hz (i:Int) 1=((i % 2:Nat):Int):=by
 unfold Hz;have e1:fY (i:Int)=i:=by unfold fY;omega
 have e2:fY 1=1:=by decide
 rw[e1,e2,Nat.and_one_is_mod];unfold Ox;rw[zM]
theorem zfh(i:Nat):xfM (i:Int) (2^(min (((1:Nat):Int)).toNat 64))=((i/2:Nat):Int):=by
 have:min (((1:Nat):Int)).toNat 64=1:=by decide
 rw[this];rw[xeA _ (by decide)];show(i:Int)/2=_;omega
theorem Ny{n:Nat}{a:Int}(hn:n<=65536)(hb:bl a.natAbs*n<=262144)(hf:65600<fu):
 zj (QV fu) fu ((n:Int),yP a,yP 1)=some (yP (a^n)):=by
 have hc: ∀e,e<=n->(yH (a^e).natAbs).length<=4097:=fun e he=>zcA (b:=4096) (xao (xaJ _ he) hb);refine zC (fun s:Int×Zr×Zr=> ∃i d e:Nat,s=((i:Int),yP (a^d),yP (a^e))/\e+d*i=n/\(0<i->d<=n)/\0<d) (fun s=>s.1.toNat) _ ?_ _ _ ⟨n,1,0,by simp[xbk],by omega,by omega,by omega⟩ (by show((n:Int)).toNat<fu;omega);rintro s L ⟨i,d,e,rfl,he,hd,hi⟩ ih;unfold QV;simp only;have mul: ∀p q,p<=n->q<=n->zL fu (yP (a^p)) (yP (a^q))=some (yP (a^(p+q))):=by
  intro p q hp hq;have h1:=hc p hp;have h2:=hc q hq;rw[UE (yS _) (yS _) (by show(yH _).length<=_;omega) (by show(yH _).length<=_;omega) (by show 4*((yH _).length+(yH _).length)+64<=fu;omega),zt,zt,Int.pow_add]
 by_cases h0:0<i
 ·have ha:=hd h0;have hj:i<=n:=by
   have:=xdk i hi;omega
  have hg:d*i=d*(i/2)*2+d*(i % 2):=by rw[xbd,<-xbm];congr 1;omega
  rw[zM,zf,So i (by omega)];by_cases h1:i % 2=1
  ·rw[zM];rw[h1,xcD]at hg;rw[za (mul e d (by omega) ha)];by_cases h2:1<i
   ·have h3:d*1<=d*(i/2):=xaJ d (by omega);rw[zM,za (mul d d ha ha),zf,zfh];refine ih _ ⟨i/2,d+d,e+d,rfl,?_,by omega,by omega⟩ (by show((i/2:Nat):Int).toNat<(i:Int).toNat;omega);rw[xaV];omega
   ·rw[zx,zf,zfh];refine ih _ ⟨i/2,d,e+d,rfl,?_,by omega,by omega⟩ (by show((i/2:Nat):Int).toNat<(i:Int).toNat;omega);rw[show i/2=0 by omega,xdi]at hg⊢;omega
  ·rw[zx];rw[show i % 2=0 by omega,xdi,xcg]at hg;by_cases h2:1<i
   ·have h3:d*1<=d*(i/2):=xaJ d (by omega);rw[zM,za (mul d d ha ha),zf,zfh];refine ih _ ⟨i/2,d+d,e,rfl,?_,by omega,by omega⟩ (by show((i/2:Nat):Int).toNat<(i:Int).toNat;omega);rw[xaV];omega
   ·omega
 ·rw[zx];obtain rfl:i=0:=by omega
  rw[xdi,xcg]at he;rw[he]
theorem pY{n:Nat}{z:Zr}(h:zm z.2)(hl:z.2.length<=1000000)(hn:n<=65536)(hf:1000100<fu):
 QN fu z (n:Int)=some (if 262144<bl (nv z.2)*n then((false,[]),6)else(yP (zv z^n),0)):=by
 unfold QN;have hb:=Tw h hl;have hm:bl (nv z.2)*n<=64000000*65536:=xbU hb hn;have e:((bl (nv z.2):Nat):Int)*(n:Int)=((bl (nv z.2)*n:Nat):Int):=by simp
 rw[zx,zx,za rfl];simp only[xah,if_false];rw[za (Yq h (by omega) (by omega)),e,zb];by_cases h1:262144<bl (nv z.2)*n
 ·rw[zM,iq h1]
 ·rw[zx,ir h1,za (Jg (by decide) (by omega)),za (KU h (by omega) (by omega)),za (Ny hn (by rw[kf];omega) (by omega))]
end
section
variable{d fu:Nat}{p:Int}
def vF(p:Nat):Prop:= ∀d,2<=d->d*d<=p->p % d≠0
open Classical in
noncomputable def wB(p:Int):Bool:=decide (2<=p/\p<=65521/\vF p.toNat)
open Classical in
theorem LK{p:Int}(h:2<=p/\p<=65521/\vF p.toNat):wB p=true:=by unfold wB;exact decide_eq_true h
open Classical in
theorem da{p:Int}(h: ¬(2<=p/\p<=65521/\vF p.toNat)):wB p=false:=by unfold wB;exact decide_eq_false h
theorem iU(d:Nat):(d:Int)*(d:Int)=((d*d:Nat):Int):=by simp
theorem MR{p:Nat}(h:p<=65521)(hd:d<=300):d*d<=90000:=xao (xbU hd hd) (by decide)
theorem Mv{p:Nat}(h:p<=65521)(hd:d*d<=p):d<256:=by
 rcases xch d 256 with h1|h1
 ·exact h1
 ·have:=xbU h1 h1;omega
theorem GY{p:Nat}(h:p<=65521)(hf:400<fu):(vF p->zj (kz fu (p:Int)) fu (true,2)=some true)/\(¬vF p->zj (kz fu (p:Int)) fu (true,2)=some false):=by
 constructor
 ·intro hn;refine zC (fun i:Bool×Int=> ∃d:Nat,i=(true,(d:Int))/\2<=d/\d<=256) (fun i=>300-i.2.toNat) _ ?_ _ _ ⟨2,rfl,by omega,by omega⟩ (by show 300-2<fu;omega);rintro i L ⟨d,rfl,h2,h3⟩ ih;unfold kz;simp only[if_true];have hs:=MR h (d:=d) (by omega);rw[iU,zb];by_cases h4:d*d<=p
  ·have h5:=hn d h2 h4;have:=Mv h h4;have e:xbX (p:Int) (d:Int)=((p % d:Nat):Int):=rfl;rw[zM,yF,zf,e,zx,zb];exact ih _ ⟨d+1,rfl,by omega,by omega⟩ (by show 300-((d:Int)+1).toNat<300-(d:Int).toNat;omega)
  ·rw[zx]
 ·intro hn;obtain⟨d0,ha⟩:=xfB.1 hn;obtain⟨hb,ha⟩:=xfk.1 ha;obtain⟨h4,h5⟩:=xfk.1 ha;have h5:p % d0=0:=Classical.not_not.1 h5;have h6:=Mv h h4;refine zC (fun i:Bool×Int=> ∃d:Nat,i=(true,(d:Int))/\2<=d/\d<=d0) (fun i=>300-i.2.toNat) _ ?_ _ _ ⟨2,rfl,by omega,by omega⟩ (by show 300-2<fu;omega);rintro i L ⟨d,rfl,h2,h3⟩ ih;unfold kz;simp only[if_true];have hs:=MR h (d:=d) (by omega);have hc:=xbU h3 h3;rw[iU,zb];have e:xbX (p:Int) (d:Int)=((p % d:Nat):Int):=rfl;rw[zM,yF,zf,e];by_cases h7:p % d=0
  ·rw[zM]
  ·rw[zx,zb];refine ih _ ⟨d+1,rfl,by omega,?_⟩ (by show 300-((d:Int)+1).toNat<300-(d:Int).toNat;omega);rcases xch d d0 with h8|h8
   ·exact h8
   ·exact absurd (by rw[show d=d0 by omega];exact h5) h7
theorem RK{p:Nat}(h:p<=65521)(hf:400<fu):(vF p->zj (uM fu (p:Int)) fu 2=some (.inl ()))/\(¬vF p->zj (uM fu (p:Int)) fu 2=some (.inr ())):=by
 constructor
 ·intro hn;refine zC (fun i:Int=> ∃d:Nat,i=(d:Int)/\2<=d/\d<=256) (fun i=>300-i.toNat) _ ?_ _ _ ⟨2,rfl,by omega,by omega⟩ (by show 300-2<fu;omega);rintro i L ⟨d,rfl,h2,h3⟩ ih;unfold uM;have hs:=MR h (d:=d) (by omega);rw[iU,zb];by_cases h4:d*d<=p
  ·have h5:=hn d h2 h4;have:=Mv h h4;have e:xbX (p:Int) (d:Int)=((p % d:Nat):Int):=rfl;rw[zM,yF,zf,e,zx,zb];exact ih _ ⟨d+1,by omega,by omega,by omega⟩ (by show 300-((d:Int)+1).toNat<300-(d:Int).toNat;omega)
  ·rw[zx]
 ·intro hn;obtain⟨d0,ha⟩:=xfB.1 hn;obtain⟨hb,ha⟩:=xfk.1 ha;obtain⟨h4,h5⟩:=xfk.1 ha;have h5:p % d0=0:=Classical.not_not.1 h5;have h6:=Mv h h4;refine zC (fun i:Int=> ∃d:Nat,i=(d:Int)/\2<=d/\d<=d0) (fun i=>300-i.toNat) _ ?_ _ _ ⟨2,rfl,by omega,by omega⟩ (by show 300-2<fu;omega);rintro i L ⟨d,rfl,h2,h3⟩ ih;unfold uM;have hs:=MR h (d:=d) (by omega);have hc:=xbU h3 h3;rw[iU,zb];have e:xbX (p:Int) (d:Int)=((p % d:Nat):Int):=rfl;rw[zM,yF,zf,e];by_cases h7:p % d=0
  ·rw[zM]
  ·rw[zx,zb];refine ih _ ⟨d+1,by omega,by omega,?_⟩ (by show 300-((d:Int)+1).toNat<300-(d:Int).toNat;omega);rcases xch d d0 with h8|h8
   ·exact h8
   ·exact absurd (by rw[show d=d0 by omega];exact h5) h7
theorem Yl(hf:400<fu):jM fu p=some (wB p):=by
 unfold jM;have ha:zj (kz fu p) fu (false,2)=some false:=by
  obtain⟨k,rfl⟩: ∃k,fu=k+1:=⟨fu-1,by omega⟩;rfl
 by_cases h2:2<=p
 ·rw[iq h2];by_cases h3:p<=65521
  ·rw[iq h3,za rfl];obtain⟨q,rfl⟩:=xaB (by omega:0<=p);obtain⟨l1,l2⟩:=GY (fu:=fu) (p:=q) (by omega) hf;by_cases h4:vF q
   ·rw[za (l1 h4),LK (p:=(q:Int)) ⟨h2,h3,h4⟩]
   ·rw[za (l2 h4),da (p:=(q:Int)) (fun h=>h4 h.2.2)]
  ·rw[ir h3,za rfl,za ha];rw[da (fun h=>h3 h.2.1)]
 ·rw[ir h2,za rfl,za ha];rw[da (fun h=>h2 h.1)]
theorem rV(hf:400<fu):U5 fu p=some (wB p):=by
 unfold U5;by_cases h2:p<2
 ·rw[iq h2];rw[da (fun h=>by omega)]
 ·rw[ir h2];by_cases h3:65521<p
  ·rw[iq h3];rw[da (fun h=>by omega)]
  ·rw[ir h3];obtain⟨q,rfl⟩:=xaB (by omega:0<=p);obtain⟨l1,l2⟩:=RK (fu:=fu) (p:=q) (by omega) hf;by_cases h4:vF q
   ·rw[za (l1 h4),LK (p:=(q:Int)) ⟨by omega,by omega,h4⟩]
   ·rw[za (l2 h4),da (p:=(q:Int)) (fun h=>h4 h.2.2)]
noncomputable def bL(p k:Int):Zr×Int:=if wB p=true/\1<=k/\k<=1000 then(yP (p^k.toNat),0)else((false,[]),1)
theorem zo(h:wB p=true):2<=p/\p<=65521:=by
 refine xaf fun hn=> ?_;rw[da (fun h=>hn ⟨h.1,h.2.1⟩)]at h;cases h
theorem zfb(h:wB p=true):bl (nv (yP p).2)<=16:=by
 have:=zo h;refine Qy ?_;show nv (yH p.natAbs)<_;rw[z6];omega
theorem zbg{x:Int}(h:x.natAbs<18446744073709551616):(yP x).2.length<=1:=by
 show(yH _).length<=1;rw[zH];omega
theorem jr{k:Int}(hf:3000000<fu):vf fu p k=some (bL p k):=by
 unfold vf bL;rw[za (Yl (by omega))];by_cases h1:wB p=true
 ·have hr:=zo h1;rw[ir (by simp[h1])];by_cases h2:k<1
  ·rw[iq h2,ir (fun h=>by omega)]
  ·rw[ir h2];by_cases h3:1000<k
   ·rw[iq h3,ir (fun h=>by omega)]
   ·obtain⟨n,rfl⟩:=xaB (by omega:0<=k);have hl:=zbg (x:=p) (by omega);have hb:bl (nv (yP p).2)*n<=16*1000:=xbU (zfb h1) (by omega);rw[ir h3,if_pos ⟨h1,by omega,by omega⟩,za (Jg ⟨by omega,by omega⟩ (by omega)),za (pY (yS p) (by omega) (by omega) (by omega)),zx,zt];rfl
 ·rw[iq (by simp[h1]),ir (fun h=>h1 h.1)]
end
section
variable{fu k j:Nat}{a b:Zr}{x y:Int}
theorem JU{a b:Int}:jo fu a b=some (ky a b):=by
 unfold jo kU;rw[iq rfl,iq rfl,za rfl,za rfl];simp only[xah,if_false];by_cases h:a<b
 ·rw[iq h,qS h]
 ·rw[ir h];by_cases h2:b<a
  ·rw[iq h2,vE h2]
  ·rw[ir h2,ud (by omega)]
theorem V8{a b:Nat}:vJ fu a b=some (ky a b):=by
 unfold vJ qL;rw[iq rfl,iq rfl,za rfl,za rfl];simp only[xah,if_false];by_cases h:(a:Int)<b
 ·rw[iq h,qS h]
 ·rw[ir h];by_cases h2:(b:Int)<a
  ·rw[iq h2,vE h2]
  ·rw[ir h2,ud (by omega)]
theorem QI{a b:List Nat}(ha:zm a)(hb:zm b)(he:a.length<=1000000)(hg:b.length<=1000000)(hf:2000000<fu):Wj fu a b=some (ky (nv a:Nat) (nv b:Nat)):=by
 unfold Wj;have h1:=xM ha;have h2:=xM hb;rw[za (xu ha (by omega) (by omega)),za (xu hb (by omega) (by omega))];generalize nv a=x at*
 generalize nv b=y at*
 by_cases h:(yH x).length=(yH y).length
 ·rw[zM,zb];by_cases hc:x=y
  ·subst hc;rw[za (v:= .inl ())]
   ·rw[ud rfl]
   ·refine zC (fun i:Int=> ∃m:Nat,i=(m:Int)-1/\m<=(yH x).length) (fun i=>(i+1).toNat) _ ?_ _ _ ⟨_,rfl,xac _⟩ (by omega);rintro i L ⟨m,rfl,hm⟩ ih;unfold KQ;by_cases h0:m=0
    ·rw[zx]
    ·have e:(m:Int)-1=((m-1:Nat):Int):=by omega
     rw[zM,e,yB,zf,yB,zf,iq rfl,zb];exact ih _ ⟨m-1,rfl,by omega⟩ (by omega)
  ·rw[za (v:= .inr (ky x y))];refine zC (fun i:Int=> ∃m:Nat,i=(m:Int)-1/\m<=(yH x).length/\x/18446744073709551616^m=y/18446744073709551616^m) (fun i=>(i+1).toNat) _ ?_ _ _ ⟨_,rfl,xac _,SD h⟩ (by omega);rintro i L ⟨m,rfl,hm,ht⟩ ih;unfold KQ;by_cases h0:m=0
   ·subst h0;rw[xeR,xeO,xeO]at ht;exact absurd ht hc
   ·have e:(m:Int)-1=((m-1:Nat):Int):=by omega
    rw[zM,e,yB,zf,yB,zf];by_cases hd:(yH x).getD (m-1) 0=(yH y).getD (m-1) 0
    ·rw[iq (by rw[hd]),zb];exact ih _ ⟨m-1,rfl,by omega,zah (by omega) ht hd⟩ (by omega)
    ·rw[zx,yB,zf,yB,zf,za V8,Nb (by omega) ht hd]
 ·rw[zx,za JU,zbB h]
def fW(z:Zr):Prop:=zm z.2/\z.2.length<=100000
def Bz(k:Nat)(x:Int):Prop:=x.natAbs<18446744073709551616^k
theorem Bz.ok(h:Bz k x)(hk:k<=100000):fW (yP x):=⟨yS x,xao ((zH _ _).2 h) hk⟩
theorem Bz.of{z:Zr}(h:zm z.2):Bz z.2.length (zv z):=by
 unfold Bz;rw[kf];exact jt h
theorem Bz.mono(h:Bz j x)(hk:j<=k):Bz k x:=xap h (xaK (by decide) hk)
theorem fW.bz{z:Zr}(h:fW z):Bz 100000 (zv z):=(Bz.of h.1).mono h.2
theorem Bz.neg(h:Bz k x):Bz k (-x):=by unfold Bz at*;rw[Int.natAbs_neg];exact h
theorem Bz.add(hx:Bz k x)(hy:Bz k y):Bz (k+1) (x+y):=by
 unfold Bz at*
 have:=Int.natAbs_add_le x y;rw[xbu];omega
theorem Bz.sub(hx:Bz k x)(hy:Bz k y):Bz (k+1) (x-y):=by
 rw[Int.sub_eq_add_neg];exact hx.add hy.neg
theorem Bz.mul(hx:Bz j x)(hy:Bz k y):Bz (j+k) (x*y):=by
 unfold Bz at*
 rw[xcr,xcd];exact xdJ hx hy
theorem Bz.le(hy:Bz k y)(h:x.natAbs<=y.natAbs):Bz k x:=xbe h hy
theorem qp(z:Zr):(z.1=true/\zv z= -((nv z.2:Nat):Int))\/(z.1=false/\zv z=((nv z.2:Nat):Int)):=by
 unfold zv;cases z.1
 ·exact .inr ⟨rfl,rfl⟩
 ·exact .inl ⟨rfl,rfl⟩
theorem k9{z:Zr}(h:fW z)(hf:3000000<=fu):vM fu z=some (yP (zv z)):=KU h.1 (by have:=h.2;omega) (by have:=h.2;omega)
theorem UZ{z:Zr}(h:fW z)(hf:3000000<=fu):uj fu z=some (yP (-zv z)):=by
 unfold uj;have:=h.2;rw[za (yf h.1 (by omega) (by omega))];rcases qp z with⟨h1,h2⟩|⟨h1,h2⟩<;>rw[h1,h2]<;>simp
theorem vQ(ha:fW a)(hb:fW b)(hf:3000000<=fu):vb fu a b=some (yP (zv a+zv b)):=by
 unfold vb;have la:=ha.2;have lb:=hb.2;have hg:(yH (nv a.2+nv b.2)).length<=100001:=YR (xao (xM ha.1) la) (xao (xM hb.1) lb);rw[zf];by_cases hs:a.1=b.1
 ·rw[iq (by simp[hs]),za (kv ha.1 hb.1 (by omega) (by omega) (by omega)),za (yf (zu _) (by omega) (by omega)),z6];rcases qp a with⟨h1,h2⟩|⟨h1,h2⟩<;>rcases qp b with⟨h3,h4⟩|⟨h3,h4⟩
  ·rw[h1,h2,h4,iq rfl];congr 2;omega
  ·rw[h1,h3]at hs;cases hs
  ·rw[h1,h3]at hs;cases hs
  ·rw[h1,h2,h4,ir (by decide)];congr 2
 ·rw[ir (by simp[hs])];rw[za (QI ha.1 hb.1 (by omega) (by omega) (by omega))];by_cases hc:nv a.2<nv b.2
  ·have hd:(yH (nv b.2-nv a.2)).length<=100000:=xao (JK (Nat.sub_le _ _)) (xao (xM hb.1) lb);rw[qS (by omega),iq (by decide),za rfl];simp only;rw[za (X3 hb.1 ha.1 (by omega) (by omega) (by omega)),zx];simp only;rw[za (yf (zu _) (by omega) (by omega)),z6];rcases qp a with⟨h1,h2⟩|⟨h1,h2⟩<;>rcases qp b with⟨h3,h4⟩|⟨h3,h4⟩<;>rw[h3,h2,h4]<;>simp_all
   ·congr 1;omega
   ·congr 1;omega
  ·have hd:(yH (nv a.2-nv b.2)).length<=100000:=xao (JK (Nat.sub_le _ _)) (xao (xM ha.1) la);have he: ¬ky ((nv a.2:Nat):Int) ((nv b.2:Nat):Int)<0:=by
    rcases xch (nv b.2) (nv a.2)with h|h
    ·rw[vE (by omega)];decide
    ·rw[ud (by omega)];decide
   rw[ir he,za rfl];simp only;rw[za (X3 ha.1 hb.1 (by omega) (by omega) (by omega)),zx];simp only;rw[za (yf (zu _) (by omega) (by omega)),z6];rcases qp a with⟨h1,h2⟩|⟨h1,h2⟩<;>rcases qp b with⟨h3,h4⟩|⟨h3,h4⟩<;>rw[h1,h2,h4]<;>simp_all
   ·congr 1;omega
   ·congr 1;omega
theorem v8(ha:fW a)(hb:fW b)(hf:3000000<=fu):vY fu a b=some (yP (zv a-zv b)):=by
 unfold vY;have h1:=(Bz.neg hb.bz).ok (xac _);rw[za (UZ hb hf),za (vQ ha h1 hf),zt];congr 2
theorem Cy:0<(((yP x).2.length:Nat):Int)↔x≠0:=by
 have:= @CR x.natAbs;have h2:(yP x).2=yH x.natAbs:=rfl;rw[h2];constructor
 ·intro h e;subst e;rw[show yH (Int.natAbs 0)=[]from rfl]at h;simp at h
 ·intro h;have:=vK (n:=x.natAbs) (by omega);omega
theorem iH(x:Int):(yP x).1=true↔x<0:=by unfold yP;simp
theorem xa{z:Zr}(h:fW z)(hf:3000000<=fu):xq fu z=some (ky (zv z) 0):=by
 unfold xq;rw[za (k9 h hf)];by_cases h1:zv z<0
 ·rw[iq ((iH _).2 h1),zb,zb,qS h1];rfl
 ·rw[ir (fun e=>h1 ((iH _).1 e))];by_cases h2:zv z=0
  ·rw[ir (fun e=>Cy.1 e h2),ud h2]
  ·rw[iq (Cy.2 h2),zb,vE (by omega)];rfl
theorem zaw(x y:Int):ky (x-y) 0=ky x y:=by
 rcases xey x y with h|h|h
 ·rw[qS (by omega),qS h]
 ·rw[ud (by omega),ud h]
 ·rw[vE (by omega),vE h]
theorem kS(ha:fW a)(hb:fW b)(hf:3000000<=fu)(hl:a.2.length<=99999)(hc:b.2.length<=99999):qO fu a b=some (ky (zv a) (zv b)):=by
 unfold qO;have h1:=((Bz.of ha.1).mono hl).sub ((Bz.of hb.1).mono hc);rw[za (v8 ha hb hf),za (xa (h1.ok (xac _)) hf),zt,zaw]
theorem ye(ha:fW a)(hb:fW b)(hf:3000000<=fu):zL fu a b=some (yP (zv a*zv b)):=by
 have:=ha.2;have:=hb.2;exact UE ha.1 hb.1 (by omega) (by omega) (by omega)
theorem z7(h:VM x)(hf:3000000<=fu):zX fu x=some (yP x):=Jg h (by omega)
end
section
variable{b v1 v0 u w q r fu x y s lo:Nat}
theorem Sj(ha:q*v1+r=u)(h:q*v0<=b*r+w):q*(v1*b+v0)<=u*b+w:=by
 have e:q*(v1*b+v0)=q*v1*b+q*v0:=by rw[xbm,xbd]
 have e2:u*b+w=q*v1*b+(b*r+w):=by rw[<-ha,xaV,xba r b];omega
 omega
theorem NN(ha:q*v1+r=u)(h:b*r+w<q*v0):u*b+w<q*(v1*b+v0):=by
 have e:q*(v1*b+v0)=q*v1*b+q*v0:=by rw[xbm,xbd]
 have e2:u*b+w=q*v1*b+(b*r+w):=by rw[<-ha,xaV,xba r b];omega
 omega
theorem dI(hv:0<v1*b+v0)(ha:q*v1+r=u)(hb:(u*b+w)/(v1*b+v0)<=q)(h:q*v0<=b*r+w):q=(u*b+w)/(v1*b+v0):=
 xcO ((xcs hv).2 (Sj ha h)) hb
theorem TH(hv:0<v1*b+v0)(ha:q*v1+r=u)(h:b*r+w<q*v0):(u*b+w)/(v1*b+v0)<=q-1/\0<q/\(q-1)*v1+(r+v1)=u:=by
 have h0:0<q:=by
  rcases xcL q with h0|h0
  ·subst h0;omega
  ·exact h0
 have h1:=(xbf hv).2 (NN ha h);refine⟨by omega,h0,?_⟩;obtain⟨p,rfl⟩: ∃p,q=p+1:=⟨q-1,by omega⟩;rw[xaV]at ha;simp only[xem];omega
theorem Iz(hu:u<v1*b+v0)(ha:v0<b)(hb:q*v1+r=u)(hr:b<=r):q<b:=by
 refine xdI fun h=> ?_;have:b*v1<=q*v1:=xas _ h;rw[xba b]at this;omega
theorem Il(hq:q<b)(ha:v0<b)(hr:b<=r):q*v0<=b*r+w:=by
 have h1:q*v0<=b*b:=xbU (xds hq) (xds ha);have h2:b*b<=b*r:=xaJ _ hr;omega
theorem QA(hu:u<v1*b+v0)(hw:w<b):(u*b+w)/(v1*b+v0)<b:=by
 have hv:0<v1*b+v0:=by omega
 rw[xbf hv];have:(u+1)*b<=(v1*b+v0)*b:=xas _ hu;rw[xaV]at this;rw[xba b];omega
theorem nQ{β:Type}(mk:Nat->Nat->β)(ms:β->Nat)(hc: ∀q r,ms (mk q r)=2-r/2147483648){f:(β->Option Nat)->β->Option Nat}(h1:2147483648<=v1)(h2:v1<4294967296)(h0:v0<4294967296)(hu:u<v1*4294967296+v0)(hw:w<4294967296)(hf:10<fu)(he: ∀(q r:Nat) (L:β->Option Nat),q<18446744073709551616->r<4294967296->q*v0<18446744073709551616\/4294967296<=q->
 f L (mk q r)=if 4294967296<=q then(if 4294967296<=r+v1 then some (q-1)else L (mk (q-1) (r+v1)))else if 4294967296*r+w<q*v0 then(if 4294967296<=r+v1 then some (q-1)else L (mk (q-1) (r+v1)))else some q):
 zj f fu (mk (u/v1) (u % v1))=some ((u*4294967296+w)/(v1*4294967296+v0)):=by
 have hv:0<v1*4294967296+v0:=by omega
 have hQ:=QA hu hw;have hi:u/v1<18446744073709551616:=by
  rw[xbf (by omega)];have:v1*4294967296+v0<18446744073709551616*1:=by omega
  have h3:18446744073709551616*1<=18446744073709551616*v1:=xaJ _ (by omega);omega
 refine zC (fun s:β=> ∃q r,s=mk q r/\q<18446744073709551616/\r<4294967296/\q*v1+r=u/\(u*4294967296+w)/(v1*4294967296+v0)<=q) ms _ ?_ _ _ ⟨_,_,rfl,hi,?_,?_,?_⟩ (by rw[hc];omega)
 ·rintro s L ⟨q,r,rfl,hq,hr,hg,hj⟩ ih;have hk:q*v0<18446744073709551616\/4294967296<=q:=by
   rcases xch q 4294967296 with h|h
   ·left;exact xdJ (a:=q) (b:=v0) (c:=4294967296) (d:=4294967296) h h0
   ·exact .inr h
  rw[he q r L hq hr hk];by_cases hb:4294967296<=q
  ·rw[iq hb];have hd:(q-1)*v1+(r+v1)=u:=by
    obtain⟨p,rfl⟩: ∃p,q=p+1:=⟨q-1,by omega⟩;rw[xaV]at hg;simp only[xem];omega
   by_cases ha:4294967296<=r+v1
   ·rw[iq ha,<-dI hv hd (by omega) (Il (Iz hu h0 hd ha) h0 ha)]
   ·rw[ir ha];exact ih _ ⟨_,_,rfl,by omega,by omega,hd,by omega⟩ (by rw[hc,hc];omega)
  ·rw[ir hb];by_cases ht:4294967296*r+w<q*v0
   ·obtain⟨d1,d2,d3⟩:=TH hv hg ht;rw[iq ht];by_cases ha:4294967296<=r+v1
    ·rw[iq ha,<-dI hv d3 d1 (Il (Iz hu h0 d3 ha) h0 ha)]
    ·rw[ir ha];exact ih _ ⟨_,_,rfl,by omega,by omega,d3,d1⟩ (by rw[hc,hc];omega)
   ·rw[ir ht,<-dI hv hg hj (by omega)]
 ·have:=xbp u (show 0<v1 by omega);omega
 ·rw[xba];exact xbC u v1
 ·rw[xcs (by omega)];have h3:(u*4294967296+w)/(v1*4294967296+v0)*(v1*4294967296+v0)<=u*4294967296+w:=xdn _ _;generalize(u*4294967296+w)/(v1*4294967296+v0)=Q at*
  rw[xbm,<-xbd]at h3;generalize Q*v1=A at*
  omega
theorem Hr(h:y<2^s):x*2^s|||y=x*2^s+y:=by
 rw[xba];exact(Nat.two_pow_add_eq_or_of_lt h x).symm
theorem FM(h0:0<y)(h:y<18446744073709551616):bl y<=64/\9223372036854775808<=y*2^(64-bl y)/\y*2^(64-bl y)<18446744073709551616:=by
 have h1:bl y<=64:=Qy (k:=64) (by simpa using h);have h2:=lZ y;refine⟨h1,?_,?_⟩
 ·have hp:1<=bl y:=by rw[Jc h0];omega
  have ha:2^(bl y-1)<=y:=by
   refine xbw fun hb=> ?_;have:=Qy hb;omega
  have e:(9223372036854775808:Nat)=2^(bl y-1)*2^(64-bl y):=by rw[<-xcd,show bl y-1+(64-bl y)=63 by omega]
  rw[e];exact xas _ ha
 ·have e:(18446744073709551616:Nat)=2^bl y*2^(64-bl y):=by rw[<-xcd,show bl y+(64-bl y)=64 by omega]
  rw[e];exact xbS h2 (xbo (by decide))
theorem FX(ha:lo<18446744073709551616)(hs:s<=64):lo*2^s=lo/2^(64-s)*18446744073709551616+lo*2^s % 18446744073709551616/\lo/2^(64-s)<2^s:=by
 have e:(18446744073709551616:Nat)=2^(64-s)*2^s:=by rw[<-xcd,show 64-s+s=64 by omega]
 have hp:0<2^s:=xbo (by decide);have e2:lo*2^s/18446744073709551616=lo/2^(64-s):=by rw[e,xft _ _ hp]
 have h:=xbC (lo*2^s) 18446744073709551616;rw[e2]at h;refine⟨by omega,?_⟩;rw[xbf (xbo (by decide)),xba,<-e];exact ha
theorem U9{w1 w0:Nat}(hy:0<y)(hb:0<b)(ha:w0<b):((x*b+w1)*b+w0)/y=(x*b+w1)/y*b+((x*b+w1) % y*b+w0)/y/\((x*b+w1)*b+w0) % y=((x*b+w1) % y*b+w0) % y:=by
 generalize x*b+w1=X;have h:=xbC X y;have e:X*b+w0=X % y*b+w0+y*(X/y*b):=by
  conv=>lhs;rw[<-h]
  rw[xaV,xbd];omega
 rw[e];constructor
 ·rw[xdw _ _ hy];omega
 ·rw[xcN]
theorem zgA{a:Nat}(ha:a<4294967296)(hb:b<4294967296):(a*4294967296 % 18446744073709551616+b) % 18446744073709551616=a*4294967296+b:=by omega
theorem qJ(hx:x<18446744073709551616):y8 fu x=some ((64-bl x:Nat):Int):=by
 unfold y8;have h:bl x<=64:=Qy (k:=64) (by simpa using hx);rw[za (vH hx),zb];congr 1;omega
theorem Y3{hi:Nat}(hn:lo<18446744073709551616)(hy:y<18446744073709551616)(hh:hi<y)(hf:10<fu):
 vz fu hi lo y=some ((hi*18446744073709551616+lo)/y,(hi*18446744073709551616+lo) % y):=by
 unfold vz;rw[zx,zx];by_cases h0:hi=0
 ·subst h0;rw[iq rfl,yF,zf,yF,zf,xcI,xaS]
 ·rw[zx,za (qJ hy)];obtain⟨n1,n2,n3⟩:=FM (y:=y) (by omega) hy;obtain⟨s,hs⟩: ∃s,s=64-bl y:=⟨_,rfl⟩;rw[<-hs]at n2 n3⊢;have hk:s<=64:=by omega
  have eu:fY (s:Int)=s:=by have:=nV (x:=(s:Int)) (by omega) (by omega);omega
  have em:min (s:Int).toNat 64=s:=by omega
  have e8:(64+18446744073709551616-s) % 18446744073709551616=64-s:=by omega
  have em2:min (((64-s:Nat):Nat):Int).toNat 64=64-s:=by omega
  obtain⟨Y,hY⟩: ∃Y,Y=y*2^s:=⟨_,rfl⟩;rw[<-hY]at n2 n3;obtain⟨w1,w2⟩:=FX hn hk;have hp:0<2^s:=xbo (by decide);have hx:hi*2^s+2^s<=Y:=by
   have:(hi+1)*2^s<=y*2^s:=xas _ hh;rw[xaV,xcm]at this;rw[hY];exact this
  simp only[nm,eu,em,e8,em2,zdk,zdN];rw[<-hY,xaE n3,xaE (show hi*2^s<18446744073709551616 by omega),Hr w2];obtain⟨u,hu⟩: ∃u,u=hi*2^s+lo/2^(64-s):=⟨_,rfl⟩;obtain⟨t,ht⟩: ∃t,t=lo*2^s % 18446744073709551616:=⟨_,rfl⟩;have hv:t<18446744073709551616:=by rw[ht];exact xbp _ (by decide)
  rw[<-hu,<-ht];have hd:u<Y:=by omega
  have ho:(hi*18446744073709551616+lo)*2^s=u*18446744073709551616+t:=by
   rw[xaV,w1,hu,<-ht,xaV,Nat.mul_right_comm];omega
  have he:Y=Y/4294967296*4294967296+Y % 4294967296:=by omega
  have a1:2147483648<=Y/4294967296:=by omega
  have a2:Y/4294967296<4294967296:=by omega
  have a0:Y % 4294967296<4294967296:=by omega
  have step: ∀{u w:Nat},u<Y->w<4294967296->(u*4294967296+w)/(Y/4294967296*4294967296+Y % 4294967296)=(u*4294967296+w)/Y:=by intro u w _ _;rw[<-he]
  have ew:Y/2^32=Y/4294967296:=rfl;have et:t/2^32=t/4294967296:=rfl;rw[ew,et,yF];have m15: ∀{u:Nat},u<Y->(u+18446744073709551616-u/(Y/4294967296)*(Y/4294967296) % 18446744073709551616) % 18446744073709551616=u % (Y/4294967296):=by
   intro u hu;have h1:=xbC u (Y/4294967296);rw[xba]at h1;have h2:u/(Y/4294967296)*(Y/4294967296)<=u:=by omega
   rw[xaE (show u/(Y/4294967296)*(Y/4294967296)<18446744073709551616 by omega)];omega
  have body: ∀{q r w:Nat},q<18446744073709551616->r<4294967296->w<4294967296->(q*(Y % 4294967296)<18446744073709551616\/4294967296<=q)-> ∀(A B C:Option Nat),(4294967296<=r+Y/4294967296->A=some (q-1))->(¬4294967296<=r+Y/4294967296->A=B)->C=some q->
   (if((4294967296:Nat):Int)<=(q:Int)then A else if(((4294967296*r % 18446744073709551616+w) % 18446744073709551616:Nat):Int)<((q*(Y % 4294967296) % 18446744073709551616:Nat):Int)then A else C)=
   if 4294967296<=q then(if 4294967296<=r+Y/4294967296 then some (q-1)else B)else if 4294967296*r+w<q*(Y % 4294967296)then(if 4294967296<=r+Y/4294967296 then some (q-1)else B)else some q:=by
   intro q r w hq hr hw hg A B C h1 h2 h3;have hA:A=if 4294967296<=r+Y/4294967296 then some (q-1)else B:=by
    split
    ·next h=>exact h1 h
    ·next h=>exact h2 h
   rw[<-hA,h3];by_cases hb:4294967296<=q
   ·rw[zM,iq hb]
   ·have e3:(q*(Y % 4294967296)) % 18446744073709551616=q*(Y % 4294967296):=xaE (hg.resolve_right hb);have e4:(4294967296*r % 18446744073709551616+w) % 18446744073709551616=4294967296*r+w:=by omega
    rw[zx,ir hb,e3,e4];by_cases h4:4294967296*r+w<q*(Y % 4294967296)
    ·rw[zM,iq h4]
    ·rw[zx,ir h4]
  have L0:zj (qg fu (Y/4294967296) (Y % 4294967296) (t/4294967296)) fu (u/(Y/4294967296),u % (Y/4294967296))=some ((u*4294967296+t/4294967296)/Y):=by
   rw[<-step hd (by omega:t/4294967296<4294967296)];refine nQ (fun q r=>(q,r)) (fun s=>2-s.2/2147483648) (fun _ _=>rfl) (w:=t/4294967296) a1 a2 a0 (by rw[<-he];exact hd) (by omega) hf ?_;intro q r L hq hr hg;have e1:(r+Y/4294967296) % 18446744073709551616=r+Y/4294967296:=by omega
   by_cases hc:q=0
   ·subst hc;unfold qg;simp only[nm,xcI,Nat.zero_mod];rw[zx,zx,zx,zx]
   have e2:(q+18446744073709551616-1) % 18446744073709551616=q-1:=by omega
   refine Eq.trans ?_ (body hq hr (by omega) hg (if 4294967296<=r+Y/4294967296 then some (q-1)else L (q-1,r+Y/4294967296)) _ _ (fun h=>iq h) (fun h=>ir h) rfl);unfold qg;simp only[nm,e1,e2];have e5: ∀(X:Option Nat),(if((4294967296:Nat):Int)<=((r+Y/4294967296:Nat):Int)then some (q-1)else X)=if 4294967296<=r+Y/4294967296 then some (q-1)else X:=by
    intro X;by_cases h:4294967296<=r+Y/4294967296
    ·rw[zM,iq h]
    ·rw[zx,ir h]
   rw[e5]
  have rem: ∀{x q:Nat},x/Y=q-> ∀{m:Nat},m=x % 18446744073709551616->(m+18446744073709551616-q*Y % 18446744073709551616) % 18446744073709551616=x % Y:=by
   intro x q hq m hm;have h1:=xbC x Y;rw[hq,xba]at h1;have h2:=xbp x (show 0<Y by omega);omega
  rw[m15 hd,za L0,rem rfl (x:=u*4294967296+t/4294967296) (by omega)];obtain⟨u2,hj⟩: ∃u2,u2=(u*4294967296+t/4294967296) % Y:=⟨_,rfl⟩;have ha:u2<Y:=by rw[hj];exact xbp _ (by omega)
  rw[<-hj,yF,m15 ha];have L1:zj (qf fu (Y/4294967296) (Y % 4294967296) (t % 4294967296)) fu (u2 % (Y/4294967296),u2/(Y/4294967296))=some ((u2*4294967296+t % 4294967296)/Y):=by
   rw[<-step ha (by omega:t % 4294967296<4294967296)];refine nQ (fun q r=>(r,q)) (fun s=>2-s.1/2147483648) (fun _ _=>rfl) (w:=t % 4294967296) a1 a2 a0 (by rw[<-he];exact ha) (by omega) hf ?_;intro q r L hq hr hg;have e1:(r+Y/4294967296) % 18446744073709551616=r+Y/4294967296:=by omega
   by_cases hc:q=0
   ·subst hc;unfold qf;simp only[nm,xcI,Nat.zero_mod];rw[zx,zx,zx,zx]
   have e2:(q+18446744073709551616-1) % 18446744073709551616=q-1:=by omega
   refine Eq.trans ?_ (body hq hr (by omega) hg (if 4294967296<=r+Y/4294967296 then some (q-1)else L (r+Y/4294967296,q-1)) _ _ (fun h=>iq h) (fun h=>ir h) rfl);unfold qf;simp only[nm,e1,e2];have e5: ∀(X:Option Nat),(if((4294967296:Nat):Int)<=((r+Y/4294967296:Nat):Int)then some (q-1)else X)=if 4294967296<=r+Y/4294967296 then some (q-1)else X:=by
    intro X;by_cases h:4294967296<=r+Y/4294967296
    ·rw[zM,iq h]
    ·rw[zx,ir h]
   rw[e5]
  rw[za L1,rem rfl (x:=u2*4294967296+t % 4294967296) (by omega)];have hl:=QA (b:=4294967296) (v1:=Y/4294967296) (v0:=Y % 4294967296) (u:=u) (w:=t/4294967296) (by rw[<-he];exact hd) (by omega);rw[step hd (by omega)]at hl;have hc:=QA (b:=4294967296) (v1:=Y/4294967296) (v0:=Y % 4294967296) (u:=u2) (w:=t % 4294967296) (by rw[<-he];exact ha) (by omega);rw[step ha (by omega)]at hc;obtain⟨k1,k2⟩:=U9 (x:=u) (b:=4294967296) (y:=Y) (w1:=t/4294967296) (w0:=t % 4294967296) (by omega) (by decide) (by omega);rw[<-hj]at k1 k2;have eU:(u*4294967296+t/4294967296)*4294967296+t % 4294967296=(hi*18446744073709551616+lo)*2^s:=by rw[ho];omega
  rw[eU,hY,xft _ _ hp,<-hY]at k1;rw[eU,hY,xet,<-hY]at k2;rw[k1,<-k2,Nat.mul_div_cancel _ hp];rw[zgA hl hc]
end
section
variable{x fu s:Nat}{a:List Nat}
theorem MH{m:Nat}{l:List Nat}:(xae (m+1) 0++l).set m x=xae m 0++(x::l):=by
 rw[List.replicate_succ',xak];rw[xfs _ _ (by simp)];simp
theorem sH(k n:Nat):wm (k+1) n=n % 18446744073709551616::wm k (n/18446744073709551616):=rfl
theorem cJ{q r:Nat}(h:r<18446744073709551616):(q*18446744073709551616+r) % 18446744073709551616=r/\(q*18446744073709551616+r)/18446744073709551616=q:=by omega
theorem eG(A m:Nat):A/18446744073709551616^m=A/18446744073709551616^(m+1)*18446744073709551616+A/18446744073709551616^m % 18446744073709551616:=by
 have:=JR A 18446744073709551616 m (by decide);omega
theorem lR(ha:zm a)(hx:x<18446744073709551616)(h0:0<x)(hl:a.length<=1000000)(hf:2000000<fu):Y2 fu a x=some (yH (nv a/x),nv a % x):=by
 unfold Y2;rw[yN,yF,zf,zb];have hA:=jt ha;have key:zj (Vz fu a x) fu (0,(a.length:Int)-1,xae a.length 0)=some (nv a % x,wm a.length (nv a/x)):=by
  refine zC (fun s:Nat×Int×List Nat=> ∃m:Nat,m<=a.length/\s=(nv a/18446744073709551616^m % x,(m:Int)-1,xae m 0++wm (a.length-m) (nv a/18446744073709551616^m/x))) (fun s=>(s.2.1+1).toNat) _ ?_ _ _ ⟨a.length,xac _,?_⟩ (by show((a.length:Int)-1+1).toNat<fu;omega)
  ·rintro s L ⟨m,hm,rfl⟩ ih;unfold Vz;simp only
   cases m with
   |zero=>
    rw[zx,xeR,xeO];simp
   |succ m=>
    have e:((m+1:Nat):Int)-1=(m:Int):=by omega
    have hb:=ha.getD m;have hd:nv a/18446744073709551616^(m+1) % x<x:=xbp _ h0;have hy:a.getD m 0=nv a/18446744073709551616^m % 18446744073709551616:=QY ha m;have hs:=eG (nv a) m;rw[<-hy]at hs;rw[zM,e,yB,zf,za (Y3 hb hx hd (by omega))];obtain⟨k1,k2⟩:=U9 (x:=0) (b:=18446744073709551616) (y:=x) (w1:=nv a/18446744073709551616^(m+1)) (w0:=a.getD m 0) h0 (by decide) hb;rw[xcI,xaS,<-hs]at k1 k2;rw[zp (by simp;omega),zf,zb,MH,<-k2];refine ih _ ⟨m,by omega,?_⟩ (by show((m:Int)-1+1).toNat<(((m+1:Nat):Int)-1+1).toNat;omega);have hq:(nv a/18446744073709551616^(m+1) % x*18446744073709551616+a.getD m 0)/x<18446744073709551616:=by
     rw[xbf h0];have:(nv a/18446744073709551616^(m+1) % x+1)*18446744073709551616<=x*18446744073709551616:=xas _ hd;rw[xba 18446744073709551616 x];omega
    have e2:a.length-m=(a.length-(m+1))+1:=by omega
    rw[k1,e2,sH];congr 3;rw[(cJ hq).1,(cJ hq).2]
  ·rw[xca hA,Nat.zero_div,Nat.zero_mod,xcU];simp[wm]
 rw[za key];have hc:nv a/x<18446744073709551616^a.length:=xbe (xdV _ _) hA;simp only;rw[za (yX (xH _ _) (by rw[ya];omega) (by rw[ya];omega)),jq,xaE hc]
theorem Aj(hs:s<=64):(18446744073709551616:Nat)=2^(64-s)*2^s:=by rw[<-xcd,show 64-s+s=64 by omega]
theorem ER{y c:Nat}(hy:y<18446744073709551616)(hs:s<64)(hc:c<2^s):y*2^s % 18446744073709551616|||c=(y*2^s+c) % 18446744073709551616/\y/2/2^(63-s)=(y*2^s+c)/18446744073709551616/\(y*2^s+c)/18446744073709551616<2^s:=by
 obtain⟨w1,w2⟩:=FX hy (xds hs);have hp:0<2^s:=xbo (by decide);have e:=Aj (xds hs);have e3:y*2^s % 18446744073709551616=y % 2^(64-s)*2^s:=by rw[e,xet]
 have h1:y % 2^(64-s)*2^s+2^s<=18446744073709551616:=by
  rw[e];have:=xas (2^s) (xbp y (xbo (n:=64-s) (show 0<2 by decide)));rw[Nat.succ_mul]at this;exact this
 have e4:y/2/2^(63-s)=y/2^(64-s):=by rw[xaY,show 64-s=63-s+1 by omega,xbu,xba 2]
 refine⟨?_,?_,?_⟩
 ·rw[e3,Hr hc];rw[e3]at w1;generalize y % 2^(64-s)*2^s=A at*
  generalize y*2^s=Z at*
  generalize y/2^(64-s)=W at*
  omega
 ·rw[e4];rw[e3]at w1;generalize y % 2^(64-s)*2^s=A at*
  generalize y*2^s=Z at*
  generalize y/2^(64-s)=W at*
  omega
 ·rw[e3]at w1;generalize y % 2^(64-s)*2^s=A at*
  generalize y*2^s=Z at*
  generalize y/2^(64-s)=W at*
  omega
theorem au{a:List Nat}{s:Nat}(ha:zm a)(hs:s<64): ∀k,(xW (Ji a (2^s)) k).2<2^s
 |0=>xbo (by decide)
 |k+1=>(ER (ha.getD k) hs (au ha hs k)).2.2
theorem nG:(2:Nat)^64=18446744073709551616:=by decide
theorem XO{n:Nat}(ha:zm a)(hl:a.length<=1000000)(hn:n<=262144)(hf:2000000<fu):ZS fu a (n:Int)=some (yH (nv a*2^n),0):=by
 unfold ZS;obtain⟨s,hs⟩: ∃s,s=n % 64:=⟨_,rfl⟩;have hb:s<64:=by omega
 rw[zx,zx,za (qA (step:=Ji a (2^s)) (by omega) (by omega) ?_)]
 ·have he:=au ha hb a.length;have hd:2^s<18446744073709551616:=by rw[<-nG];exact xfA (by decide) hb
  have e1:xda (n:Int) 64=((n/64:Nat):Int):=rfl;simp only;rw[qZ (by have:=xD (Ji a (2^s)) a.length;simp[this];omega),zf,qZ (by decide),e1,zb,DP (by omega)];rw[za (WK (by omega) (by rw[ya];omega)),za (yX ((zm.replicate _).append (xH _ _)) (by simp[ya];omega) (by simp[ya];omega)),lO,jq,xaE (nX ha hd)];congr 3;rw[<-nG,<-xdc,xba (2^_),xbd,<-xcd];congr 2;omega
 ·intro k hk;have hc:=au ha hb k;obtain⟨l1,l2,l3⟩:=ER (ha.getD k) hb hc;unfold JT;have e1:xbX (n:Int) 64=((n % 64:Nat):Int):=rfl;have m1:min (((1:Nat):Int)).toNat 64=1:=by decide
  have m2:min ((n % 64:Nat):Int).toNat 64=s:=by omega
  have m3:(63:Int)-((n % 64:Nat):Int)=((63-s:Nat):Int):=by omega
  have m4:min ((63-s:Nat):Int).toNat 64=63-s:=by omega
  rw[zp hk,zf,qZ (by decide),zf,e1,yF,zf,m2,zf,zp hk,zf,zf,m1,qZ (by decide),zf,m3,zb,yF,zf,m4,l1];rw[show(2:Nat)^1=2 from rfl,l2];rfl
theorem tF{step:Nat->Nat->Nat×Nat}{X:Nat}(h: ∀k,step k 0=(X/18446744073709551616^k % 18446744073709551616,0)): ∀n,xW step n=(wm n X,0)
 |0=>rfl
 |n+1=>by
  have ih:=tF h n;unfold xW;rw[ih,h,eE]
theorem TQ{A k:Nat}(hs:s<64):A/18446744073709551616^k % 18446744073709551616/2^s|||A/18446744073709551616^(k+1) % 18446744073709551616*2 % 18446744073709551616*2^(63-s) % 18446744073709551616=A/2^s/18446744073709551616^k % 18446744073709551616:=by
 have e:=Aj (xds hs);have hp:0<2^s:=xbo (by decide);have ha:0<2^(64-s):=xbo (by decide);have h1:=eG A k;have e0:A/18446744073709551616^(k+1)=A/18446744073709551616^k/18446744073709551616:=by rw[xbu,xaY]
 rw[xaY,xba (2^s),<-xaY];rw[e0]at h1⊢;generalize A/18446744073709551616^k=X at*
 have e1:X/18446744073709551616 % 18446744073709551616*2 % 18446744073709551616*2^(63-s) % 18446744073709551616=X/18446744073709551616 % 2^s*2^(64-s):=by
  rw[Nat.mod_mul_mod,xbd,<-xeY,show(63-s).succ=64-s by omega];rw[Nat.mod_mul_mod];generalize X/18446744073709551616=V;conv=>lhs;rw[e,xba (2^(64-s)) (2^s)]
  rw[xet]
 have e2:X % 18446744073709551616/2^s<2^(64-s):=by
  rw[xbf hp,<-e];exact xbp _ (by decide)
 rw[e1,Nat.or_comm,Hr e2];have e3:X/2^s=X/18446744073709551616*2^(64-s)+X % 18446744073709551616/2^s:=by
  have h2:=xbC X 18446744073709551616;have h3:X=X % 18446744073709551616+2^s*(X/18446744073709551616*2^(64-s)):=by
   have:2^s*(X/18446744073709551616*2^(64-s))=18446744073709551616*(X/18446744073709551616):=by rw[e,xba (X/_),<-xbd,xba (2^s)]
   omega
  conv=>lhs;rw[h3]
  rw[xdw _ _ hp];omega
 rw[e3];have e4:X/18446744073709551616*2^(64-s)=X/18446744073709551616 % 2^s*2^(64-s)+18446744073709551616*(X/18446744073709551616/2^s):=by
  have h2:=xbC (X/18446744073709551616) (2^s);conv=>lhs;rw[<-h2]
  rw[xaV,e,xba (2^(64-s)) (2^s),xbd,xbd,xba (2^(64-s)) (_/_)];omega
 have h5:X/18446744073709551616 % 2^s*2^(64-s)+2^(64-s)<=18446744073709551616:=by
  generalize X/18446744073709551616=V;rw[e,xba (2^(64-s)) (2^s)];have:=xas (2^(64-s)) (xbp V hp);rw[Nat.succ_mul]at this;exact this
 have h6:X/18446744073709551616 % 2^s*2^(64-s)+X % 18446744073709551616/2^s<18446744073709551616:=by
  clear e4 e3 e1 e0 h1;generalize X/18446744073709551616 % 2^s*2^(64-s)=Z at*
  generalize X % 18446744073709551616/2^s=V at*
  omega
 rw[e4,Nat.add_right_comm,xcN,xaE h6]
theorem du{n:Nat}(ha:zm a)(hl:a.length<=1000000)(hn:n<=1000000000)(hf:2000000<fu):Qv fu a (n:Int)=some (yH (nv a/2^n)):=by
 unfold Qv;have e0:max (n:Int) 0=(n:Int):=by omega
 have e1:xda (n:Int) 64=((n/64:Nat):Int):=rfl;have e2:xbX (n:Int) 64=((n % 64:Nat):Int):=rfl;have hA:=jt ha;have hb:2^n=18446744073709551616^(n/64)*2^(n % 64):=by
  rw[<-nG,<-xdc,<-xcd];congr 1;omega
 rw[zf,e0,qZ (by decide),e1,zb];by_cases h:a.length<=n/64
 ·rw[zM];have:nv a/2^n=0:=by rw[hb,<-xaY,xca (xap hA (xaK (by decide) h)),Nat.zero_div]
  rw[this];rfl
 ·rw[zx,qZ (by decide),zb,yN,yF,zf,qZ (by decide),zf,e2];have hd:=ha.drop (n/64);have hv:nv (a.drop (n/64))=nv a/18446744073709551616^(n/64):=BL ha _;obtain⟨D,hD⟩: ∃D,D=a.drop (n/64):=⟨_,rfl⟩;rw[<-hD]at hd hv⊢;have he:D.length<=1000000:=by rw[hD,xbO];omega
  obtain⟨s,hs⟩: ∃s,s=n % 64:=⟨_,rfl⟩;have hc:s<64:=by omega
  have vX:=tF (step:=fun k _=>(nv D/2^s/18446744073709551616^k % 18446744073709551616,0)) (X:=nv D/2^s) (fun _=>rfl);rw[<-hs,za (qA (step:=fun k _=>(nv D/2^s/18446744073709551616^k % 18446744073709551616,0)) (by omega) (by omega) ?_)]
  ·rw[vX];simp only;rw[za (yX (xH _ _) (by rw[ya];omega) (by rw[ya];omega)),jq,xaE (xbe (xdV _ _) (jt hd)),hv,hb,<-xaY,hs]
  ·intro k hk;rw[vX];unfold Kn;have m1:min (((1:Nat):Int)).toNat 64=1:=by decide
   have m2:min (s:Int).toNat 64=s:=by omega
   have m3:(63:Int)-(s:Int)=((63-s:Nat):Int):=by omega
   have m4:min ((63-s:Nat):Int).toNat 64=63-s:=by omega
   have m5:(k:Int)+1=((k+1:Nat):Int):=by omega
   rw[zp hk,zf,yF,zf,m2,m5,zb,za (YB D (by omega)),zf,m1,m3,zb,yF,zf,m4,zf,QY hd,QY hd,show(2:Nat)^1=2 from rfl,TQ hc]
end
section
variable{fu u v1 v0 v d x:Nat}
theorem Hk{w:Nat}(h1:9223372036854775808<=v1)(h2:v1<18446744073709551616)(h0:v0<18446744073709551616)(hu:u<v1*18446744073709551616+v0)(hw:w<18446744073709551616)(hq:u/v1<18446744073709551616)(hf:10<fu):
 zj (VT fu w v1 v0) fu (u/v1,u % v1)=some ((u*18446744073709551616+w)/(v1*18446744073709551616+v0)):=by
 have hv:0<v1*18446744073709551616+v0:=by omega
 refine zC (fun s:Nat×Nat=> ∃q r,s=(q,r)/\q<18446744073709551616/\r<18446744073709551616/\q*v1+r=u/\(u*18446744073709551616+w)/(v1*18446744073709551616+v0)<=q) (fun s=>2-s.2/9223372036854775808) _ ?_ _ _ ⟨_,_,rfl,hq,?_,?_,?_⟩ (by show 2-u % v1/9223372036854775808<fu;omega)
 ·rintro s L ⟨q,r,rfl,hq,hr,ha,hb⟩ ih;have hz:q*v0<18446744073709551616*18446744073709551616:=xdJ hq h0;have dec: ∀(hc:18446744073709551616*r+w<q*v0),(if((0:Nat):Int)<(((r+v1+0)/18446744073709551616:Nat):Int)then some ((q+18446744073709551616-1) % 18446744073709551616)else L ((q+18446744073709551616-1) % 18446744073709551616,(r+v1+0) % 18446744073709551616))=some ((u*18446744073709551616+w)/(v1*18446744073709551616+v0)):=by
   intro hc;obtain⟨d1,d2,d3⟩:=TH hv ha hc;have e2:(q+18446744073709551616-1) % 18446744073709551616=q-1:=by omega
   rw[e2];by_cases hd:18446744073709551616<=r+v1
   ·rw[zM,<-dI hv d3 d1 (Il (Iz hu h0 d3 hd) h0 hd)]
   ·rw[zx];exact ih _ ⟨_,_,rfl,by omega,by omega,by rw[show(r+v1+0) % 18446744073709551616=r+v1 by omega];exact d3,d1⟩ (by show 2-(r+v1+0) % 18446744073709551616/9223372036854775808<2-r/9223372036854775808;omega)
  unfold VT;simp only;rw[za (YO hq h0)];simp only[nm];by_cases c1:q*v0/18446744073709551616<r
  ·rw[zM,<-dI hv ha hb (by omega)]
  ·rw[zx];by_cases c2:q*v0/18446744073709551616=r
   ·rw[zM];by_cases c3:q*v0 % 18446744073709551616<=w
    ·rw[zM,<-dI hv ha hb (by omega)]
    ·rw[zx,yF];exact dec (by omega)
   ·rw[zx,yF];exact dec (by omega)
 ·have:=xbp u (show 0<v1 by omega);omega
 ·rw[xba];exact xbC u v1
 ·rw[xcs (by omega)];have h3:(u*18446744073709551616+w)/(v1*18446744073709551616+v0)*(v1*18446744073709551616+v0)<=u*18446744073709551616+w:=xdn _ _;generalize(u*18446744073709551616+w)/(v1*18446744073709551616+v0)=Q at*
  rw[xbm,<-xbd]at h3;generalize Q*v1=A at*
  omega
theorem pf{u2 u1 u0:Nat}(h1:9223372036854775808<=v1)(h2:v1<18446744073709551616)(h0:v0<18446744073709551616)(b1:u1<18446744073709551616)(b0:u0<18446744073709551616)(hf:10<fu):
 Ve fu u2 u1 u0 v1 v0=some (if v1<=u2 then 18446744073709551615 else((u2*18446744073709551616+u1)*18446744073709551616+u0)/(v1*18446744073709551616+v0)):=by
 unfold Ve;by_cases h:v1<=u2
 ·rw[zM,iq h]
 ·have hq:(u2*18446744073709551616+u1)/v1<18446744073709551616:=by
   rw[xbf (by omega)];have:(u2+1)*18446744073709551616<=v1*18446744073709551616:=xas _ (by omega);rw[xba 18446744073709551616 v1];omega
  rw[zx,ir h,za (Y3 b1 h2 (by omega) hf)];simp only;rw[za (Hk h1 h2 h0 ?_ b0 hq hf)];have:(u2+1)*18446744073709551616<=v1*18446744073709551616:=xas _ (by omega);omega
theorem zcC{q:Nat}(hd:0<d)(hv:0<v/d)(h:q*v<=u):q<=u/d/(v/d):=by
 refine(xcs hv).2 ((xcs hd).2 ?_);refine xao ?_ h;rw[xbd];exact xaJ _ (xdn v d)
theorem zbG{B:Nat}(hd:0<d)(hx:x*(v/d)<=u/d)(hB:x<=B)(hv:B*d<=v):x*v<=u+v:=by
 have h1:x*v<=x*(v/d*d+d):=xaJ _ (by have h:=xbC v d;have:=xbp v hd;rw[xba d]at h;omega);have h2:x*(v/d*d+d)=x*(v/d)*d+x*d:=by rw[xbm,xbd]
 have h3:x*(v/d)*d<=u:=xao (xas _ hx) (xdn u d);have h4:x*d<=B*d:=xas _ hB;omega
theorem IE{U V D:Nat}(hD:0<D)(hV:9223372036854775808*(18446744073709551616*D)<=V)(he:V<18446744073709551616*(18446744073709551616*D))(hU:U<V*18446744073709551616)(hx:x=if V/D/18446744073709551616<=U/D/18446744073709551616/18446744073709551616 then 18446744073709551615 else U/D/(V/D)):U/V<=x/\x<=U/V+1/\x<18446744073709551616:=by
 have ha:0<V:=by
  have:0<9223372036854775808*(18446744073709551616*D):=by omega
  omega
 have hq:U/V<18446744073709551616:=by rw[xbf ha,xba];exact hU
 have hf:9223372036854775808*18446744073709551616<=V/D:=by rw[xcs hD,xbd];exact hV
 have up: ∀{x:Nat},x*V<=U+V->x<=U/V+1:=fun{x} h=>by
  have:x<=(U+V)/V:=(xcs ha).2 h;rw[Nat.add_div_right _ ha]at this;exact this
 by_cases h:V/D/18446744073709551616<=U/D/18446744073709551616/18446744073709551616
 ·rw[iq h]at hx;subst hx;refine⟨by omega,up ?_,by decide⟩;have e1:V/D/18446744073709551616=V/(D*18446744073709551616):=xaY ..;have e2:U/D/18446744073709551616/18446744073709551616=U/(D*18446744073709551616*18446744073709551616):=by rw[xaY,xaY,<-xbd]
  rw[e1,e2]at h;have hE:0<D*18446744073709551616:=by omega
  have k1:=xdn U (D*18446744073709551616*18446744073709551616);have k2:V<(V/(D*18446744073709551616)+1)*(D*18446744073709551616):=by
   have h1:=xbC V (D*18446744073709551616);have h2:=xbp V hE;rw[xaV,xcm,xba];omega
  have k3:V/(D*18446744073709551616)*(D*18446744073709551616*18446744073709551616)<=U:=xao (xas _ h) k1;rw[<-xbd]at k3;have k4:18446744073709551615*V<=18446744073709551615*((V/(D*18446744073709551616)+1)*(D*18446744073709551616)):=xaJ _ (xds k2);rw[xaV,xcm]at k4;generalize V/(D*18446744073709551616)*(D*18446744073709551616)=A at*
  omega
 ·rw[ir h]at hx;have hc:x<=18446744073709551616:=by
   rw[hx];have hb:U/D/18446744073709551616/18446744073709551616<V/D/18446744073709551616:=xdI h;have h1:U/D<(V/D)*18446744073709551616+18446744073709551616*18446744073709551616:=by omega
   have:U/D<=18446744073709551616*(V/D)+(V/D):=by omega
   refine Nat.le_of_lt_succ ((xbf (by omega)).2 ?_);rw[Nat.succ_mul];omega
  have hd:U/V<=x:=by
   rw[hx];exact zcC hD (by omega) (xdn U V)
  have hb:x<18446744073709551616:=by
   rw[hx,xbf (by omega)];have hb:U/D/18446744073709551616/18446744073709551616<V/D/18446744073709551616:=xdI h;omega
  refine⟨hd,up (zbG hD (B:=18446744073709551616) ?_ hc ?_),hb⟩
  ·rw[hx];exact xdn _ _
  ·omega
end
section
variable{fu V k y:Nat}{s:Int}{v t:List Nat}
theorem sn{n P x0:Nat}(hv:zm v)(ha:v.length=n)(hV:nv v=V)(ht:zm t)(hi:t.length=n+1)(hP:nv t=P)(hc:0<V)(h1:P/V<=x0)(h2:x0<=P/V+1)(h3:x0<18446744073709551616)(hn:n<=500000)(hf:2000000<fu):
 zj (JZ fu v) fu (s,(n:Int),x0,t)=some (s,(n:Int),P/V,t):=by
 have hd:V<18446744073709551616^n:=by rw[<-hV,<-ha];exact jt hv
 refine zC (fun q:Int×Int×Nat×List Nat=> ∃x,q=(s,(n:Int),x,t)/\P/V<=x/\x<=P/V+1/\x<18446744073709551616) (fun q=>q.2.2.1-P/V) _ ?_ _ _ ⟨x0,rfl,h1,h2,h3⟩ (by show x0-P/V<fu;omega);rintro q L ⟨x,rfl,g1,g2,g3⟩ ih;unfold JZ;simp only;have hr:V*x<18446744073709551616^(n+1):=by
  rw[xbu]
  calc V*x<=V*18446744073709551616:=xaJ _ (by omega)
   _<_:=xbS hd (by decide)
 rw[za (Q1 hv g3 (by omega) (by omega)),za (QI (xH _ _) ht (by rw[ya];omega) (by omega) (by omega)),jq,hV,ha,xaE hr,hP];have hj:=xbC P V;have hk:=xbp P hc;by_cases h:x=P/V
 ·have hl:V*x<=P:=by rw[h];omega
  have he: ¬(0:Int)<ky ((V*x:Nat):Int) (P:Int):=by
   rcases xch (V*x) P with hh|hh
   ·rw[qS (by omega)];decide
   ·rw[ud (by omega)];decide
  rw[ir he,h]
 ·have hx:x=P/V+1:=by omega
  have hg:P<V*x:=by rw[hx,xbm,xcD];omega
  have hm:0<x:=by rw[hx];exact Nat.succ_pos _
  have hb:(P:Int)<((V*x:Nat):Int):=Int.ofNat_lt.2 hg;rw[vE hb,iq (by decide),zf,show(x+18446744073709551616-1) % 18446744073709551616=x-1 by omega];exact ih _ ⟨x-1,rfl,by omega,by omega,by omega⟩ (by show x-1-P/V<x-P/V;omega)
theorem OD{j:Nat}(ht:zm t)(hl:t.length<=k)(hj:k<=j):(t++xae j 0).take k=wm k (nv t):=by
 refine s9 ((ht.append (zm.replicate _)).take _) (xH _ _) (by rw[ya,xay,xau,xaT];omega) ?_;rw[CY (ht.append (zm.replicate _)),q9,XE,xdi,xcg,jq]
theorem Nn{n lq U0:Nat}{L:List Nat×Int×List Nat×List Nat->Option (List Nat×List Nat)}(hv:zm v)(hl:v.length=n)(hV:nv v=V)(hQ:2<=n)(hc:9223372036854775808*18446744073709551616^(n-1)<=V)(ht:zm t)(hR:t.length=lq+n)(hk:k<lq)(hb:lq+n<=500000)(hf:2000000<fu)(hT:nv t=U0/18446744073709551616^(k+1) % V*18446744073709551616^(k+1)+U0 % 18446744073709551616^(k+1)):
 ∃t',zm t'/\t'.length=lq+n/\nv t'=U0/18446744073709551616^k % V*18446744073709551616^k+U0 % 18446744073709551616^k/\
  YK fu s v L (v,(k:Int),t,xae (k+1) 0++wm (lq-(k+1)) (U0/18446744073709551616^(k+1)/V))=L (v,(k:Int)-1,t',xae k 0++wm (lq-k) (U0/18446744073709551616^k/V)):=by
 have hd:V<18446744073709551616^n:=by rw[<-hV,<-hl];exact jt hv
 have hu:0<18446744073709551616^k:=xbo (by decide);have he:0<V:=by
  have:0<18446744073709551616^(n-1):=xbo (by decide);omega
 obtain⟨T,hn⟩: ∃T,T=U0/18446744073709551616^(k+1) % V:=⟨_,rfl⟩;obtain⟨ak,ho⟩: ∃ak,ak=U0/18446744073709551616^k % 18446744073709551616:=⟨_,rfl⟩;have hp:ak<18446744073709551616:=by rw[ho];exact xbp _ (by decide)
 have hH:T<V:=by rw[hn];exact xbp _ he
 obtain⟨P,hP⟩: ∃P,P=T*18446744073709551616+ak:=⟨_,rfl⟩;have hw:=eG U0 k;rw[<-ho]at hw;obtain⟨k1,k2⟩:=U9 (x:=0) (b:=18446744073709551616) (y:=V) (w1:=U0/18446744073709551616^(k+1)) (w0:=ak) he (by decide) hp;rw[xcI,xaS,<-hw,<-hn,<-hP]at k1 k2;have hx:U0 % 18446744073709551616^(k+1)=ak*18446744073709551616^k+U0 % 18446744073709551616^k:=by rw[xbu,Nat.mod_mul,ho,xba];omega
 have hm:P<V*18446744073709551616:=by
  have:(T+1)*18446744073709551616<=V*18446744073709551616:=xas _ hH;omega
 have hy:nv t=P*18446744073709551616^k+U0 % 18446744073709551616^k:=by rw[hT,<-hn,hx,hP,xaV,xbu,xba (18446744073709551616^k),xbd];omega
 have hA:=xbp U0 hu;have hq:nv t/18446744073709551616^k=P:=by rw[hy,xdz,Nat.add_mul_div_right _ _ hu,xca hA,xaS]
 have hI:nv t % 18446744073709551616^k=U0 % 18446744073709551616^k:=by rw[hy,xdz,Nat.add_mul_mod_self_right,Nat.mod_mod]
 obtain⟨D,hD⟩: ∃D,D=18446744073709551616^(n-2):=⟨_,rfl⟩;have hJ:0<D:=by rw[hD];exact xbo (by decide)
 have en1:18446744073709551616^(n-1)=18446744073709551616*D:=by rw[hD,<-xeY,show(n-2).succ=n-1 by omega]
 have en:18446744073709551616^n=18446744073709551616*(18446744073709551616*D):=by rw[<-en1,<-xeY,show(n-1).succ=n by omega]
 rw[en1]at hc;have ha:=hd;rw[en]at ha;have gt: ∀j,t.getD (k+j) 0=P/18446744073709551616^j % 18446744073709551616:=fun j=>by rw[QY ht,xcd,<-xaY,hq]
 have gv: ∀j,v.getD j 0=V/18446744073709551616^j % 18446744073709551616:=fun j=>by rw[QY hv,hV]
 have ePn:P/18446744073709551616^n=P/D/18446744073709551616/18446744073709551616:=by rw[en,xaY,xaY];congr 1;omega
 have ePn1:P/18446744073709551616^(n-1)=P/D/18446744073709551616:=by rw[en1,xaY,xba D]
 have eVn1:V/18446744073709551616^(n-1)=V/D/18446744073709551616:=by rw[en1,xaY,xba D]
 have hK:P/D/18446744073709551616/18446744073709551616<18446744073709551616:=by
  rw[<-ePn,xbf (xbo (by decide)),xba];exact Nat.lt_trans hm (xbS hd (by decide))
 have hB:V/D/18446744073709551616<18446744073709551616:=by
  rw[<-eVn1,xbf (xbo (by decide)),en1];exact ha
 have hr:9223372036854775808<=V/D/18446744073709551616:=by
  rw[<-eVn1,xcs (xbo (by decide)),en1];exact hc
 have m1:t.getD (k+n) 0=P/D/18446744073709551616/18446744073709551616:=by rw[gt,ePn,xaE hK]
 have m2:t.getD (k+n-1) 0=P/D/18446744073709551616 % 18446744073709551616:=by rw[show k+n-1=k+(n-1)by omega,gt,ePn1]
 have m3:t.getD (k+n-2) 0=P/D % 18446744073709551616:=by rw[show k+n-2=k+(n-2)by omega,gt,<-hD]
 have m4:v.getD (n-1) 0=V/D/18446744073709551616:=by rw[gv,eVn1,xaE hB]
 have m5:v.getD (n-2) 0=V/D % 18446744073709551616:=by rw[gv,<-hD]
 have eg:((P/D/18446744073709551616/18446744073709551616*18446744073709551616+P/D/18446744073709551616 % 18446744073709551616)*18446744073709551616+P/D % 18446744073709551616)/(V/D/18446744073709551616*18446744073709551616+V/D % 18446744073709551616)=P/D/(V/D):=by
  generalize P/D=p;generalize V/D=w;rw[show(p/18446744073709551616/18446744073709551616*18446744073709551616+p/18446744073709551616 % 18446744073709551616)*18446744073709551616+p % 18446744073709551616=p by omega,show w/18446744073709551616*18446744073709551616+w % 18446744073709551616=w by omega]
 obtain⟨x0,hC⟩: ∃x0,x0=if V/D/18446744073709551616<=P/D/18446744073709551616/18446744073709551616 then 18446744073709551615 else P/D/(V/D):=⟨_,rfl⟩;obtain⟨n1,n2,n3⟩:=IE hJ hc ha hm hC;have hE:zm (xdr (k+n+1-k) (xdv k t)):=(ht.drop k).take _;have hg:(xdr (k+n+1-k) (xdv k t)).length=n+1:=by rw[xay,xbO];omega
 have hs:P<18446744073709551616^(n+1):=by
  rw[xbu];exact Nat.lt_trans hm (xbS hd (by decide))
 have hi:nv (xdr (k+n+1-k) (xdv k t))=P:=by rw[CY (ht.drop k),BL ht,hq,show k+n+1-k=n+1 by omega,xaE hs]
 have hj:P/V<18446744073709551616:=by rw[xbf he,xba];exact hm
 have hF:V*(P/V)<=P:=Nat.mul_div_le P V;have hG:nv (wm (n+1) (V*(P/V)))=V*(P/V):=by rw[jq,xaE (by omega)]
 have hL:P-V*(P/V)=P % V:=by have:=xbC P V;omega
 have hN:=xbp P he;have hO:(yH (P % V)).length<=n:=(zH _ _).2 (by omega);refine⟨xdr k t++wm (n+1) (P % V)++xdv (k+(n+1)) t,((ht.take _).append (xH _ _)).append (ht.drop _),?_,?_,?_⟩
 ·rw[xau,xau,xay,ya,xbO];omega
 ·have hz:nv (xdv (k+(n+1)) t)=0:=by rw[BL ht,xcd,<-xaY,hq,xca hs]
  have hM:P % V<18446744073709551616^(n+1):=xbe (Nat.mod_le _ _) hs;rw[q9,hz,xdi,xcg,q9,CY ht,hI,jq,xaE hM,xay,show min k t.length=k by omega,<-k2,xba];omega
 ·unfold YK;simp only;have c1:(k:Int)+(v.length:Int)=((k+n:Nat):Int):=by omega
  have c2:((k+n:Nat):Int)-1=((k+n-1:Nat):Int):=by omega
  have c3:((k+n:Nat):Int)-2=((k+n-2:Nat):Int):=by omega
  have c4:(v.length:Int)-1=((n-1:Nat):Int):=by omega
  have c5:(v.length:Int)-2=((n-2:Nat):Int):=by omega
  have c6:((k+n:Nat):Int)+1=((k+n+1:Nat):Int):=by omega
  rw[zM,c1,zb,yB,zf,zb,c2,zb,yB,zf,zb,c3,zb,yB,zf,c4,zb,yB,zf,c5,zb,yB,zf];rw[m1,m2,m3,m4,m5,za (pf hr hB (xbp _ (by decide)) (xbp _ (by decide)) (xbp _ (by decide)) (by omega)),eg,<-hC];rw[zb,c6,zb,yN,yN,qZ ⟨by omega,by omega⟩,zf,qZ (by rw[hg];simp;omega),zf,xbE];rw[hl,za (sn hv hl hV hE hg hi he n1 n2 n3 (by omega) hf)];simp only;have c7:(n:Int)+1=((n+1:Nat):Int):=by omega
  rw[zp (by simp;omega),zf,MH,yN,yF,za (Q1 hv hj (by omega) (by omega)),hl,hV,za (VB hE (xH _ _) (by omega) (by rw[ya];omega) (by rw[hg,ya];omega) (by rw[hi,hG];exact hF)),hi,hG,hL];rw[c7,zb,yN,yF,zf,zb,yN,qZ (by simp),zf,OD (zu _) (by omega) (xac _),z6,zf,zb];have ecp:UH k (t.length-k) t (wm (n+1) (P % V))=xdr k t++wm (n+1) (P % V)++xdv (k+(n+1)) t:=by
   unfold UH;rw[ya,show min (n+1) (t.length-k)=n+1 by omega,xaX (l:=wm (n+1) (P % V)) (by rw[ya];exact xac _)]
  rw[ecp];have e2:lq-k=(lq-(k+1))+1:=by omega
  have e3:wm (lq-k) (U0/18446744073709551616^k/V)=P/V::wm (lq-(k+1)) (U0/18446744073709551616^(k+1)/V):=by rw[e2,sH,k1,(cJ hj).1,(cJ hj).2]
  rw[e3]
theorem HZ(h:0<y):2^(bl y-1)<=y:=by
 refine xbw fun ha=> ?_;have h1:=Qy ha;have h2:1<=bl y:=by rw[Jc h];omega
 omega
theorem zcK{n s:Nat}(hy:0<y)(hn:n=(yH y).length)(hs:s=64-bl ((yH y).getD (n-1) 0)):s<=63/\9223372036854775808*18446744073709551616^(n-1)<=y*2^s/\y*2^s<18446744073709551616^n/\(yH (y*2^s)).length=n:=by
 have hc:=vK hy;have hb:=Ff hy;rw[<-hn]at hb;have ht:(yH y).getD (n-1) 0≠0:=by rw[hn];exact TM hy
 have ha:=(zu y).getD (n-1);obtain⟨b1,_,_⟩:=FM (y:=(yH y).getD (n-1) 0) (by omega) ha;have b2:1<=bl ((yH y).getD (n-1) 0):=by rw[Jc (by omega)];omega
 have e1:18446744073709551616^n=2^bl y*2^s:=by
  rw[<-nG,<-xdc,<-xcd];congr 1;omega
 have e2:9223372036854775808*18446744073709551616^(n-1)=2^(bl y-1)*2^s:=by
  rw[<-nG,<-xdc,<-xcd,show(9223372036854775808:Nat)=2^63 by decide,<-xcd];congr 1;omega
 have g1:9223372036854775808*18446744073709551616^(n-1)<=y*2^s:=by rw[e2];exact xas _ (HZ hy)
 have g2:y*2^s<18446744073709551616^n:=by rw[e1];exact xbS (lZ y) (xbo (by decide))
 refine⟨by omega,g1,g2,xcO ((zH _ _).2 g2) (xbw fun h=> ?_)⟩;have:=(zH (n-1) (y*2^s)).1 (by omega);have hp:0<18446744073709551616^(n-1):=xbo (by decide);omega
theorem bU{a b:List Nat}(ha:zm a)(hb:zm b)(hC:a.length<=200000)(hD:b.length<=200000)(hf:3000000<=fu):
 Qx fu a b=some (if nv b=0 then([],[],3)else(yH (nv a/nv b),yH (nv a % nv b),0)):=by
 unfold Qx;have h1:=xM ha;have h2:=xM hb;rw[za (xu ha (by omega) (by omega)),za (xu hb (by omega) (by omega))];generalize nv a=x at*
 generalize nv b=y at*
 by_cases h0:y=0
 ·subst h0;rw[iq rfl];rfl
 ·have hE:=vK (n:=y) (by omega);rw[zx,za rfl,ir h0];simp only[xah,if_false];rw[za (QI (zu x) (zu y) (by omega) (by omega) (by omega)),z6,z6];by_cases hg:x<y
  ·rw[qS (by omega),iq (by decide),za rfl];simp only[if_true];rw[za (Yz (zu x) (by omega) (by omega)),z6,xca hg,xaE hg];rfl
  ·have hv: ¬ky (x:Int) (y:Int)<0:=by
    rcases xch y x with h|h
    ·rw[vE (by omega)];decide
    ·rw[ud (by omega)];decide
   rw[ir hv,za rfl];simp only[xah,if_false];obtain⟨n,hn⟩: ∃n,n=(yH y).length:=⟨_,rfl⟩;have hi:=(zu y).getD (n-1);by_cases hA:n=1
   ·have hw:(yH y).getD 0 0=y:=by
     rw[Zo,xeR,xeO,xaE];have:=(zH 1 y).1 (by omega);simpa using this
    have hj:y<18446744073709551616:=by have:=(zH 1 y).1 (by omega);simpa using this
    rw[zM,show(0:Int)=((0:Nat):Int)from rfl,yB,zf,hw,za (lR (zu x) hj (by omega) (by omega) (by omega)),z6];simp only;have hm:=xbp x (show 0<y by omega);rw[za (yX (db (by omega)) (by simp) (by simp;omega)),BE]
   ·obtain⟨s,hs⟩: ∃s,s=64-bl ((yH y).getD (n-1) 0):=⟨_,rfl⟩;obtain⟨s63,v1,v2,v3⟩:=zcK (by omega) hn hs;obtain⟨V,hV⟩: ∃V,V=y*2^s:=⟨_,rfl⟩;obtain⟨U,hU⟩: ∃U,U=x*2^s:=⟨_,rfl⟩;obtain⟨lx,hx⟩: ∃lx,lx=(yH x).length:=⟨_,rfl⟩;have hB:n<=lx:=by rw[hn,hx];exact JK (by omega)
    have hk:x<18446744073709551616^lx:=(zH lx x).1 (by omega);have hl:2^s<=9223372036854775808:=by
     rw[show(9223372036854775808:Nat)=2^63 by decide];exact xaK (by decide) s63
    have hy:U<18446744073709551616^(lx+1):=by
     rw[hU,xbu];exact xap (xbS hk (xbo (by decide))) (xaJ _ (by omega))
    have hF:(yH U).length<=lx+1:=(zH _ _).2 hy;rw[<-hV]at v1 v2 v3;have e1:((((yH y).length:Nat):Int))-1=((n-1:Nat):Int):=by omega
    rw[zx,e1,zb,yB,zf,za (qJ hi),<-hs,za (XO (zu y) (by omega) (by omega) (by omega)),z6,<-hV];simp only;rw[za (XO (zu x) (by omega) (by omega) (by omega)),z6,<-hU];simp only;have e2:((((yH x).length:Nat):Int))+1=((lx+1:Nat):Int):=by omega
    have e3:((lx+1:Nat):Int)-(((yH U).length:Nat):Int)=((lx+1-(yH U).length:Nat):Int):=by omega
    rw[e2,zb,e3,zb,yN,yF,zf];obtain⟨t8,hc⟩: ∃t8,t8=yH U++xae (lx+1-(yH U).length) 0:=⟨_,rfl⟩;have t8L:zm t8:=by rw[hc];exact(zu U).append (zm.replicate _)
    have t8l:t8.length=lx+1:=by rw[hc,xau,xaT];omega
    have t8v:nv t8=U:=by rw[hc,q9,XE,xdi,xcg,z6]
    obtain⟨lq,hG⟩: ∃lq,lq=lx+1-n:=⟨_,rfl⟩;have e4:(t8.length:Int)-(((yH V).length:Nat):Int)=(lq:Int):=by omega
    rw[<-hc,e4,zb,yN,yF,zf,xaT,zb];have ho:0<V:=by
     have:0<18446744073709551616^(n-1):=xbo (by decide);omega
    have hz:0<18446744073709551616^lq:=xbo (by decide);have hq:U<18446744073709551616^lq*V:=by
     have k1:18446744073709551616^lq*(9223372036854775808*18446744073709551616^(n-1))<=18446744073709551616^lq*V:=xaJ _ v1;have k2:18446744073709551616^lq*(9223372036854775808*18446744073709551616^(n-1))=18446744073709551616^lx*9223372036854775808:=by
      rw[xba 9223372036854775808,<-xbd,<-xcd];congr 2;omega
     have k3:U<18446744073709551616^lx*9223372036854775808:=by
      rw[hU];exact xap (xbS hk (xbo (by decide))) (xaJ _ hl)
     omega
    have hr:U/18446744073709551616^lq<V:=by rw[xbf hz,xba];exact hq
    have key: ∃t,zm t/\t.length=lq+n/\nv t=U % V/\zj (YK fu (s:Int) (yH V)) fu (yH V,(lq:Int)-1,t8,xae lq 0)=some (t,wm lq (U/V)):=by
     refine⟨wm (lq+n) (U % V),xH _ _,ya _ _,?_,?_⟩
     ·rw[jq,xaE];have h5:=xbp U ho;exact xap (Nat.lt_trans h5 v2) (xaK (by decide) (by omega))
     ·refine zC (fun q:List Nat×Int×List Nat×List Nat=> ∃(m:Nat) (t:List Nat),m<=lq/\zm t/\t.length=lq+n/\nv t=U/18446744073709551616^m % V*18446744073709551616^m+U % 18446744073709551616^m/\q=(yH V,(m:Int)-1,t,xae m 0++wm (lq-m) (U/18446744073709551616^m/V))) (fun q=>(q.2.1+1).toNat) _ ?_ _ _ ⟨lq,t8,xac _,t8L,by omega,?_,?_⟩ (by show((lq:Int)-1+1).toNat<fu;omega)
      ·rintro q L ⟨m,t,hm,ht,hu,hd,rfl⟩ ih
       cases m with
       |zero=>
        unfold YK;simp only;rw[zx];rw[xeR,xcD,Nat.mod_one,xcg,xeO]at hd;have:=Ua ht;rw[hu,hd]at this;rw[this];simp
       |succ m=>
        obtain⟨t',g1,g2,g3,g4⟩:=Nn (fu:=fu) (k:=m) (s:=(s:Int)) (L:=L) (zu V) v3 (z6 V) (by omega) v1 ht hu (by omega) (by omega) (by omega) hd;rw[show((m+1:Nat):Int)-1=(m:Int)by omega,g4];exact ih _ ⟨m,t',by omega,g1,g2,g3,rfl⟩ (by show((m:Int)-1+1).toNat<(((m+1:Nat):Int)-1+1).toNat;omega)
      ·rw[t8v,xaE hr,xba];exact(xbC U _).symm
      ·rw[xca hr,xcU];simp[wm]
    obtain⟨t,g1,g2,g3,g4⟩:=key;rw[za g4];simp only;have he:U/V<18446744073709551616^lq:=by rw[xbf ho];exact hq
    have hp:0<2^s:=xbo (by decide);rw[za (yX (xH _ _) (by rw[ya];omega) (by rw[ya];omega)),jq,xaE he,za (du g1 (by omega) (by omega) (by omega)),g3];rw[hU,hV,xft _ _ hp,xet,Nat.mul_div_cancel _ hp]
end
section
variable{k fu:Nat}{x y:Int}{a b m:Zr}
def gh(z:Zr):Prop:=zm z.2/\z.2.length<=40000
theorem gh.ok{z:Zr}(h:gh z):fW z:=⟨h.1,xao h.2 (by decide)⟩
theorem Bz.okS(h:Bz k x)(hk:k<=40000):gh (yP x):=⟨yS x,xao ((zH _ _).2 h) hk⟩
theorem Bz.len(h:Bz k x):(yP x).2.length<=k:=(zH _ _).2 h
theorem Mf{q r:Int}(hy:y≠0)(h:y*q+r=x)(h0:0<=r)(h1:r<(y.natAbs:Int)):x/y=q/\x % y=r:=by
 rcases xey y 0 with hn|hn|hn
 ·exact(Int.ediv_emod_unique' hn).2 ⟨by omega,h0,by omega⟩
 ·exact absurd hn hy
 ·exact(Int.ediv_emod_unique hn).2 ⟨by omega,h0,by omega⟩
def zap(x y:Int):Zr×Zr×Int:=if y=0 then((false,[]),(false,[]),3)else(yP (x/y),yP (x % y),0)
theorem Ti{q0 r0:Nat}(hb:nv b.2≠0)(hq:q0=nv a.2/nv b.2)(hr:r0=nv a.2 % nv b.2):
 (¬(a.1=true/\0<r0)->zv a/zv b=(if(!(a.1==b.1))=true then-(q0:Int)else(q0:Int))/\zv a % zv b=(r0:Int))/\
 (a.1=true/\0<r0->zv a/zv b=(if(!(a.1==b.1))=true then-((q0+1:Nat):Int)else((q0+1:Nat):Int))/\zv a % zv b=((nv b.2-r0:Nat):Int)):=by
 have hd:=xbC (nv a.2) (nv b.2);have hm:=xbp (nv a.2) (show 0<nv b.2 by omega);rw[<-hq,<-hr]at hd;rw[<-hr]at hm;have hz:zv b≠0:=by have:=kf b;omega
 have ha:=kf b;have hc:((nv b.2:Nat):Int)*(q0:Int)+(r0:Int)=((nv a.2:Nat):Int):=by rw[<-hd];simp
 refine⟨fun h=> ?_,fun h=> ?_⟩
 ·refine Mf hz ?_ (by omega) (by omega);rcases qp a with⟨h1,h2⟩|⟨h1,h2⟩<;>rcases qp b with⟨h3,h4⟩|⟨h3,h4⟩<;>rw[h1,h3,h2,h4]
  ·have:r0=0:=xek fun hp=>h ⟨h1,hp⟩;subst this;simp only[beq_self_eq_true,xdK,xah,if_false];rw[Int.neg_mul];omega
  ·have:r0=0:=xek fun hp=>h ⟨h1,hp⟩;subst this;rw[iq (by decide),xes];omega
  ·rw[iq (by decide),Int.neg_mul_neg];omega
  ·rw[ir (by decide)];omega
 ·refine Mf hz ?_ (by omega) (by omega);obtain⟨h1,hp⟩:=h;have e1:((nv b.2-r0:Nat):Int)=((nv b.2:Nat):Int)-(r0:Int):=by omega
  have e2:((nv b.2:Nat):Int)*(((q0+1:Nat)):Int)=((nv b.2:Nat):Int)*(q0:Int)+((nv b.2:Nat):Int):=by rw[xdU,xeP];simp
  rcases qp a with⟨_,h2⟩|⟨h,_⟩
  ·rcases qp b with⟨h3,h4⟩|⟨h3,h4⟩<;>rw[h1,h3,h2,h4,e1]
   ·rw[ir (by decide),Int.neg_mul,e2];omega
   ·rw[iq (by decide),xes,e2];omega
  ·rw[h1]at h;cases h
theorem Lj:zv b=0↔nv b.2=0:=by
 have:=kf b;omega
theorem VG(ha:gh a)(hb:gh b)(hf:3000000<=fu):Z1 fu a b=some (zap (zv a) (zv b)):=by
 unfold Z1 zap;have la:=ha.2;have lb:=hb.2;rw[za (bU ha.1 hb.1 (by omega) (by omega) hf)];by_cases h0:nv b.2=0
 ·rw[iq h0,iq (Lj.2 h0)];rfl
 ·rw[ir h0,ir (fun h=>h0 (Lj.1 h))];simp only[if_true];obtain⟨q0,hq⟩: ∃q0,q0=nv a.2/nv b.2:=⟨_,rfl⟩;obtain⟨r0,hr⟩: ∃r0,r0=nv a.2 % nv b.2:=⟨_,rfl⟩;have lq:(yH q0).length<=40000:=by
   refine xao ((zH a.2.length q0).2 ?_) la;rw[hq];exact xbe (xdV _ _) (jt ha.1)
  have hd:r0<nv b.2:=by rw[hr];exact xbp _ (by omega)
  have lr:(yH r0).length<=40000:=xao ((zH b.2.length r0).2 (Nat.lt_trans hd (jt hb.1))) lb;have lr2:(yH (nv b.2-r0)).length<=40000:=xao ((zH b.2.length _).2 (xbe (Nat.sub_le _ _) (jt hb.1))) lb;obtain⟨k1,k2⟩:=Ti h0 hq hr;rw[<-hq,<-hr];have lq2:(yH (q0+1)).length<=40001:=YR (y:=1) lq (by decide);by_cases hc:a.1=true/\0<r0
  ·obtain⟨w1,w2⟩:=k2 hc;have:=vK hc.2;rw[iq hc.1,zM,za (v:=(yH (q0+1),yH (nv b.2-r0)))]
   ·rw[w1,w2];simp only;rw[zf,za (yf (zu _) (by omega) (by omega)),za (yf (zu _) (by omega) (by omega)),z6,z6];rfl
   ·rw[za (kv (zu _) (db (by decide)) (by omega) (by simp) (by simp;omega)),z6,BE,za (X3 hb.1 (zu _) (by omega) (by omega) (by omega)),z6,zx]
  ·obtain⟨w1,w2⟩:=k1 hc;rw[za (v:=(yH q0,yH r0))]
   ·rw[w1,w2];simp only;rw[zf,za (yf (zu _) (by omega) (by omega)),za (yf (zu _) (by omega) (by omega)),z6,z6];rfl
   ·by_cases h1:a.1=true
    ·have:r0=0:=xek fun hp=>hc ⟨h1,hp⟩;subst this;rw[iq h1,ir (by decide)]
    ·rw[ir h1]
def tL(x m:Int):Zr×Int:=if m<=0 then((false,[]),1)else(yP (x % m),0)
def near(x m:Int):Int:=if m<x % m+x % m then x % m-m else x % m
def Tk(x m:Int):Zr×Int:=if m<=0 then((false,[]),1)else(yP (near x m),0)
theorem Bz.emod{m:Int}(hm:Bz k m)(h0:0<m):Bz k (x % m):=by
 have h1:=xcP x (show m≠0 by omega);have h2:=xdu x h0;exact hm.le (by omega)
theorem Bz.near{k:Nat}{x m:Int}(hm:Bz k m)(h0:0<m):Bz k (near x m):=by
 have h1:=xcP x (show m≠0 by omega);have h2:=xdu x h0;refine hm.le ?_;unfold Go.Proofs.YtmggkmchbdanfaaGreat.near;split<;>omega
theorem iW:ky x 0<=0↔x<=0:=by
 rcases xey x 0 with h|h|h
 ·rw[qS h];omega
 ·rw[ud h];omega
 ·rw[vE h];omega
theorem DU:0<ky x y↔y<x:=by
 rcases xey x y with h|h|h
 ·rw[qS h];omega
 ·rw[ud h];omega
 ·rw[vE h];omega
theorem jd:ky x y=0↔x=y:=by
 rcases xey x y with h|h|h
 ·rw[qS h];omega
 ·rw[ud h];omega
 ·rw[vE h];omega
theorem ue(ha:gh a)(hm:gh m)(hf:3000000<=fu):vy fu a m=some (tL (zv a) (zv m)):=by
 unfold vy tL;rw[za (xa hm.ok hf)];by_cases h:zv m<=0
 ·rw[iq (iW.2 h),iq h]
 ·rw[ir (fun e=>h (iW.1 e)),ir h,za (VG ha hm hf)];unfold zap;rw[zx]
theorem gU(ha:gh a)(hm:gh m)(hf:3000000<=fu):u4 fu a m=some (Tk (zv a) (zv m)):=by
 unfold u4 Tk;rw[za (ue ha hm hf)];unfold tL;by_cases h:zv m<=0
 ·rw[iq h,iq h];simp
 ·have hb:Bz 40000 (zv a % zv m):=Bz.emod ((Bz.of hm.1).mono hm.2) (by omega);rw[ir h,ir h];simp only[if_true];have hl:=hm.2;have h2:=(hb.add hb).ok (by omega);have h3:=(hb.add hb).len;rw[za (vQ (hb.okS (by omega)).ok (hb.okS (by omega)).ok hf),zt,za (kS h2 hm.ok hf (by omega) (by omega)),zt];unfold near;by_cases hc:zv m<zv a % zv m+zv a % zv m
  ·rw[iq (DU.2 hc),iq hc,za (v8 (hb.okS (by omega)).ok hm.ok hf),zt]
  ·rw[ir (fun e=>hc (DU.1 e)),ir hc]
end
section
variable{f g:Nat->Int}{j m k fu:Nat}{p:List Zr}
def zi(n:Nat)(f:Nat->Int):List Zr:=(xbb n).map fun k=>yP (f k)
def cf(p:List Zr)(k:Nat):Int:=zv (p.getD k (false,[]))
def dg(f:Nat->Int):Nat->Nat
 |0=>0
 |n+1=>if f n=0 then dg f n else n+1
def qi(n:Nat)(f:Nat->Int):List Zr:=zi (dg f n) f
def xc(k:Nat)(p:List Zr):Prop:= ∀z∈p,zm z.2/\z.2.length<=k
def uK(f:Nat->Int)(j:Nat)(v:Int):Nat->Int:=fun k=>if k=j then v else f k
theorem Qh(p:List Zr)(k:Nat):zv (p.getD k (false,[]))=cf p k:=rfl
theorem yL(n:Nat)(f:Nat->Int):(zi n f).length=n:=by unfold zi;simp
theorem Yt{n:Nat}(h:j<n):(zi n f).getD j (false,[])=yP (f j):=by
 unfold zi;rw[UV,xaA,xbg h];rfl
theorem y7{n:Nat}(h: ∀k,k<n->f k=g k):zi n f=zi n g:=by
 unfold zi;refine xbL fun k hk=> ?_;rw[h k (xaQ.1 hk)]
theorem J4{n:Nat}{v:Int}:(zi n f).set j (yP v)=zi n (uK f j v):=by
 refine xcv fun i=> ?_;unfold zi uK;rw[xdX];by_cases h:j=i
 ·subst h;rw[iq rfl,xaM,xcx,xaA];by_cases hj:j<n
  ·rw[iq hj,xbg hj];simp
  ·rw[ir hj,xaI (by simp;omega)];rfl
 ·rw[ir h,xaA,xaA];by_cases hi:i<n
  ·rw[xbg hi];simp[Ne.symm h]
  ·rw[xaI (by simp;omega)];rfl
theorem PJ:yP 0=(false,[]):=rfl
theorem U2(n:Nat):xae n (false,[])=zi n (fun _=>0):=by
 unfold zi;rw[List.map_const',xcx,PJ]
theorem DQ{n:Nat}(h:j<n):cf (zi n f) j=f j:=by unfold cf;rw[Yt h,zt]
theorem yb(h:p.length<=j):cf p j=0:=by
 unfold cf;rw[UV,xaI h];rfl
theorem Ba{n:Nat}(h: ∀k,n<=k->f k=0)(j:Nat):cf (zi n f) j=f j:=by
 by_cases hj:j<n
 ·exact DQ hj
 ·rw[yb (by rw[yL];omega),h j (by omega)]
theorem qb(f:Nat->Int): ∀n,dg f n<=n
 |0=>xac _
 |n+1=>by unfold dg;split;exact xao (qb f n) (xcc _);exact xac _
theorem Jf(f:Nat->Int): ∀n k,dg f n<=k->k<n->f k=0
 |0,k,_,h=>absurd h (xbv _)
 |n+1,k,h1,h2=>by
  unfold dg at h1;split at h1
  ·rename_i h0;by_cases hk:k=n
   ·rw[hk];exact h0
   ·exact Jf f n k h1 (by omega)
  ·omega
theorem WZ(f:Nat->Int): ∀n,dg f n≠0->f (dg f n-1)≠0
 |0,h=>absurd rfl h
 |n+1,h=>by
  unfold dg at h⊢;split
  ·rename_i h0;rw[iq h0]at h;exact WZ f n h
  ·rename_i h0;exact h0
theorem K1{n d:Nat}(h1:d<=n)(h2: ∀k,d<=k->k<n->f k=0)(h3:d=0\/f (d-1)≠0):dg f n=d:=by
 have a:=qb f n;rcases Nat.lt_trichotomy (dg f n) d with h|h|h
 ·rcases h3 with h3|h3
  ·omega
  ·exact absurd (Jf f n (d-1) (by omega) (by omega)) h3
 ·exact h
 ·exact absurd (h2 (dg f n-1) (by omega) (by omega)) (WZ f n (by omega))
theorem K5{n:Nat}(hf: ∀k,n<=k->f k=0)(hg: ∀k,m<=k->g k=0)(h: ∀k,f k=g k):qi n f=qi m g:=by
 have e:dg f n=dg g m:=by
  refine K1 ?_ ?_ ?_
  ·refine xbw fun ha=> ?_;have:=WZ g m (by omega);rw[<-h,hf _ (by omega)]at this;exact this rfl
  ·intro k h1 h2;rw[h];by_cases hk:k<m
   ·exact Jf g m k h1 hk
   ·exact hg k (by omega)
  ·by_cases h0:dg g m=0
   ·exact .inl h0
   ·right;rw[h];exact WZ g m h0
 unfold qi;rw[e];exact y7 fun k _=>h k
theorem xz(n:Nat)(f:Nat->Int):(qi n f).length=dg f n:=yL _ _
theorem jj{n:Nat}(h: ∀k,n<=k->f k=0)(j:Nat):cf (qi n f) j=f j:=by
 refine Ba (fun k hk=> ?_) j;by_cases hn:k<n
 ·exact Jf f n k hk hn
 ·exact h k (by omega)
theorem xc.get(h:xc k p)(j:Nat):zm (p.getD j (false,[])).2/\(p.getD j (false,[])).2.length<=k:=by
 rw[UV];by_cases hj:j<p.length
 ·rw[IR hj];exact h _ (xbh hj)
 ·rw[xaI (by omega)];exact⟨zm.nil,xaj _⟩
theorem xc.okZ(h:xc k p)(hk:k<=100000)(j:Nat):fW (p.getD j (false,[])):=⟨(h.get j).1,xao (h.get j).2 hk⟩
theorem xc.okS(h:xc k p)(hk:k<=40000)(j:Nat):gh (p.getD j (false,[])):=⟨(h.get j).1,xao (h.get j).2 hk⟩
theorem xc.bz(h:xc k p)(j:Nat):Bz k (cf p j):=(Bz.of (h.get j).1).mono (h.get j).2
theorem xc.mono(h:xc j p)(hk:j<=k):xc k p:=fun z hz=>⟨(h z hz).1,xao (h z hz).2 hk⟩
theorem Bz.zero(k:Nat):Bz k 0:=xbo (by decide)
theorem VS{n:Nat}(h: ∀j,Bz k (f j)):xc k (zi n f):=fun z hz=>by
 unfold zi at hz;obtain⟨j,_,rfl⟩:=xal.1 hz;exact⟨yS _,(h j).len⟩
theorem lk{a1:Int->Zr->Option Zr}(hl:p.length<=1000000)(hf:2000000<fu)(h: ∀j:Nat,j<p.length->a1 (j:Int) (p.getD j (false,[]))=some (yP (g j))):
 zB fu p a1=some (zi p.length g):=by
 unfold zB;rw[yN,yF,zf,U2,za];refine zC (fun s:Int×List Zr=> ∃i:Nat,i<=p.length/\s=((i:Int),zi p.length (fun k=>if k<i then g k else 0))) (fun s=>p.length-s.1.toNat) _ ?_ _ _ ⟨0,xaj _,by rw[y7 (g:=fun k=>if k<0 then g k else 0) (fun k _=>by rw[zx])];rfl⟩ (by show p.length-0<fu;omega);rintro s L ⟨i,hi,rfl⟩ ih;unfold x9;simp only;by_cases h1:i<p.length
 ·rw[zM,za rfl];simp only[if_true];rw[zp h1,zf,za (h i h1),zp (by rw[yL];exact h1),zf,J4,zb];refine ih _ ⟨i+1,by omega,?_⟩ (by show p.length-((i:Int)+1).toNat<p.length-(i:Int).toNat;omega);congr 1;refine y7 fun k hk=> ?_;unfold uK;by_cases e:k=i
  ·rw[iq e,zM,e]
  ·rw[ir e];show(if k<i then g k else 0)=_;by_cases e2:k<i
   ·rw[iq e2,zM]
   ·rw[ir e2,zx]
 ·rw[zx,za rfl];simp only[xah,if_false];congr 1;exact y7 fun k hk=>by rw[zM]
theorem b8(h:f m=0):dg f (m+1)=dg f m:=by conv=>lhs;unfold dg;rw[iq h]
theorem cP(h:f m≠0):dg f (m+1)=m+1:=by conv=>lhs;unfold dg;rw[ir h]
theorem sU(h:j<m):(p.take m).getD j (false,[])=p.getD j (false,[]):=by
 rw[UV,xbT,iq h,<-UV]
theorem zA(h:xc k p)(hk:k<=100000)(hl:p.length<=1000000)(hf:3000000<=fu):zJ fu p=some (qi p.length (cf p)):=by
 unfold zJ;have hd:=qb (cf p) p.length;rw[za (v:=p.take (dg (cf p) p.length))]
 ·have ha:(p.take (dg (cf p) p.length)).length=dg (cf p) p.length:=by rw[xay];omega
  rw[za (lk (g:=cf p) (by omega) (by omega) ?_),ha]
  ·rfl
  ·intro j hj;rw[ha]at hj;unfold WA;rw[sU hj,za (k9 (h.okZ hk j) hf)];rfl
 ·refine zC (fun t:List Zr=> ∃m,m<=p.length/\t=p.take m/\dg (cf p) m=dg (cf p) p.length) (fun t=>t.length) _ ?_ _ _ ⟨p.length,xac _,xcR.symm,rfl⟩ (by omega);rintro t L ⟨m,hm,rfl,hg⟩ ih;have ha:(p.take m).length=m:=by rw[xay];omega
  unfold Kv
  cases m with
  |zero=>
   rw[zx,<-hg];rfl
  |succ m=>
   rw[zM,ha,show((m+1:Nat):Int)-1=(m:Int)by omega,zb,yB,zf,sU (by omega),za (xa (h.okZ hk m) hf),Qh];by_cases h0:cf p m=0
   ·rw[iq (jd.2 h0),zb,yN,yF,zf,List.take_take,show min m (m+1)=m by omega];exact ih _ ⟨m,by omega,rfl,by rw[<-b8 h0,hg]⟩ (by rw[ha,xay];omega)
   ·rw[ir (fun e=>h0 (jd.1 e)),<-hg,cP h0]
end
section
variable{a b:List Zr}{k fu:Nat}{h g:Nat->Zr}
theorem Ko(h:max a.length b.length<=k):cf a k+cf b k=0:=by
 rw[yb (by omega),yb (by omega)];rfl
theorem H0(ha:xc k a)(hb:xc k b)(hk:k<=100000)(hf:3000000<=fu)(hc:b.length<=1000000)(j:Nat)(hj:j<b.length):
 ja fu (j:Int) (b.getD j (false,[])) a=some (if j<a.length then yP (cf a j+cf b j)else b.getD j (false,[])):=by
 unfold ja;by_cases h:j<a.length
 ·rw[zM,iq h,zp h,zf,za (vQ (hb.okZ hk j) (ha.okZ hk j) hf),Qh,Qh,xfu]
 ·rw[zx,ir h]
def gm(a b:List Zr):List Zr:=(xbb b.length).map fun j=>if j<a.length then yP (cf a j+cf b j)else b.getD j (false,[])
theorem Pw{n:Nat}{j:Nat}(hj:j<n):((xbb n).map h).getD j (false,[])=h j:=by
 rw[UV,xaA,xbg hj];rfl
theorem map_set{n i:Nat}:((xbb n).map h).set i (g i)=(xbb n).map (fun k=>if k=i then g k else h k):=by
 refine xcv fun m=> ?_;rw[xdX];by_cases e:i=m
 ·subst e;rw[iq rfl,xaM,xcx,xaA];by_cases hj:i<n
  ·rw[iq hj,xbg hj];simp
  ·rw[ir hj,xaI (by simp;omega)];rfl
 ·rw[ir e,xaA,xaA];by_cases hi:m<n
  ·rw[xbg hi];simp[Ne.symm e]
  ·rw[xaI (by simp;omega)];rfl
theorem Pe{p:List Zr}{a1:Int->Zr->Option Zr}(hl:p.length<=1000000)(hf:2000000<fu)(h: ∀j:Nat,j<p.length->a1 (j:Int) (p.getD j (false,[]))=some (g j)):
 zB fu p a1=some ((xbb p.length).map g):=by
 unfold zB;have e0:xae p.length ((false,[]):Zr)=(xbb p.length).map (fun k=>if k<0 then g k else(false,[])):=by
  rw[U2];unfold zi;exact xbL fun k _=>by rw[ir (xbv k)];rfl
 rw[yN,yF,zf,e0,za];refine zC (fun s:Int×List Zr=> ∃i:Nat,i<=p.length/\s=((i:Int),(xbb p.length).map (fun k=>if k<i then g k else(false,[])))) (fun s=>p.length-s.1.toNat) _ ?_ _ _ ⟨0,xaj _,rfl⟩ (by show p.length-0<fu;omega);rintro s L ⟨i,hi,rfl⟩ ih;unfold x9;simp only;by_cases h1:i<p.length
 ·rw[zM,za rfl];simp only[if_true];rw[zp h1,zf,za (h i h1),zp (by simp;exact h1),zf,map_set,zb];refine ih _ ⟨i+1,by omega,?_⟩ (by show p.length-((i:Int)+1).toNat<p.length-(i:Int).toNat;omega);congr 1;refine xbL fun k hk=> ?_;by_cases e:k=i
  ·rw[iq e,zM,e]
  ·rw[ir e];by_cases e2:k<i
   ·rw[iq e2,zM]
   ·rw[ir e2,zx]
 ·rw[zx,za rfl];simp only[xah,if_false];congr 1;refine xbL fun k hk=> ?_;have:=xaQ.1 hk;rw[zM]
theorem Fe(ha:xc k a)(hb:xc k b)(hk:k+1<=100000)(hd:b.length<=1000000)(hf:3000000<=fu)(hl:a.length<=b.length):
 bd (zB fu b (fun zx0 zx1=>ja fu zx0 zx1 a)) (fun t1=>bd (zJ fu t1) fun t2=>some t2)=some (qi (max a.length b.length) (fun j=>cf a j+cf b j)):=by
 have hL:(gm a b).length=b.length:=by unfold gm;simp
 have hg: ∀j,j<b.length->(gm a b).getD j (false,[])=if j<a.length then yP (cf a j+cf b j)else b.getD j (false,[]):=fun j hj=>by unfold gm;rw[Pw hj]
 have hc: ∀j,cf (gm a b) j=cf a j+cf b j:=fun j=>by
  by_cases hj:j<b.length
  ·conv=>lhs;unfold cf
   rw[hg j hj];by_cases h:j<a.length
   ·rw[iq h,zt]
   ·rw[ir h,yb (p:=a) (by omega),xcA];rfl
  ·rw[yb (by omega),yb (by omega),yb (by omega)];rfl
 have ho:xc (k+1) (gm a b):=fun z hz=>by
  unfold gm at hz;obtain⟨j,hj,rfl⟩:=xal.1 hz;split
  ·exact⟨yS _,((ha.bz j).add (hb.bz j)).len⟩
  ·exact(hb.mono (xcc k)).get j
 rw[za (Pe (g:=fun j=>if j<a.length then yP (cf a j+cf b j)else b.getD j (false,[])) hd (by omega) fun j hj=>H0 ha hb (by omega) hf hd j hj)];show bd (zJ fu (gm a b)) _=_;rw[za (zA ho hk (by omega) hf),hL];congr 1;refine K5 (fun j hj=>yb (by omega)) (fun j hj=>Ko hj) hc
theorem JH(ha:xc k a)(hb:xc k b)(hk:k+1<=100000)(hc:a.length<=1000000)(hd:b.length<=1000000)(hf:3000000<=fu):
 wM fu a b=some (qi (max a.length b.length) (fun j=>cf a j+cf b j)):=by
 unfold wM;by_cases h:a.length<b.length
 ·rw[zM];exact Fe ha hb hk hd hf (by omega)
 ·rw[zx,Nat.max_comm,show(fun j=>cf a j+cf b j)=(fun j=>cf b j+cf a j)from funext fun j=>xfu _ _];exact Fe hb ha hk hc hf (by omega)
theorem Jd{c:Int}(h:a.length<=k):cf a k*c=0:=by rw[yb h,xaU]
theorem fW.of{z:Zr}(h:zm z.2/\z.2.length<=k)(hk:k<=100000):fW z:=⟨h.1,xao h.2 hk⟩
theorem qx{l:Nat}{c:Zr}(ha:xc k a)(hc:zm c.2/\c.2.length<=l)(hk:k+l<=100000)(hb:a.length<=1000000)(hf:3000000<=fu):
 wQ fu a c=some (qi a.length (fun j=>cf a j*zv c)):=by
 unfold wQ;have ho:xc (k+l) (zi a.length (fun j=>cf a j*zv c)):=VS fun j=>(ha.bz j).mul ((Bz.of hc.1).mono hc.2);rw[za (lk (g:=fun j=>cf a j*zv c) hb (by omega) ?_)]
 ·rw[za (zA ho hk (by rw[yL];omega) hf),yL];congr 1;exact K5 (fun j hj=>yb (by rw[yL];omega)) (fun j hj=>Jd hj) (fun j=>Ba (fun j hj=>Jd hj) j)
 ·intro j hj;unfold Xm;rw[za (ye (ha.okZ (by omega) j) (fW.of hc (by omega)) hf),Qh]
def Uh(a b:List Zr):List Zr:=qi (max a.length b.length) (fun j=>cf a j-cf b j)
theorem xg{n:Nat}{f:Nat->Int}(h: ∀j,Bz k (f j)):xc k (qi n f):=VS h
theorem TD{m:Nat}(hm:m=dg (fun j=>cf b j* -1) b.length):qi (max a.length (qi b.length (fun j=>cf b j* -1)).length) (fun j=>cf a j+cf (qi b.length (fun j=>cf b j* -1)) j)=Uh a b:=by
 have e: ∀j,cf (qi b.length (fun j=>cf b j* -1)) j=cf b j* -1:=jj fun j hj=>Jd hj;have hd:=qb (fun j=>cf b j* -1) b.length;refine K5 (fun j hj=>Ko hj) (fun j hj=> ?_) (fun j=> ?_)
 ·rw[yb (by omega),yb (by omega)];rfl
 ·rw[e];omega
theorem Bz.one: ∀{k:Nat},1<=k->Bz k (-1):=fun{k} h=>Bz.mono (j:=1) (by unfold Bz;decide) h
theorem jV(ha:xc k a)(hb:xc k b)(hk:k+2<=100000)(hc:a.length<=1000000)(he:b.length<=1000000)(hf:3000000<=fu):
 qE fu a b=some (Uh a b):=by
 unfold qE;have hd:=qb (fun j=>cf b j* -1) b.length;rw[za (z7 (by decide) hf),za (qx (l:=1) hb ⟨yS _,(Bz.one (xac _)).len⟩ (by omega) he hf),zt,za (JH (k:=k+1) (ha.mono (by omega)) (xg fun j=>(hb.bz j).mul (Bz.one (xac _))) (by omega) hc (by rw[xz];omega) hf),TD rfl]
end
section
variable{kb ka:Nat}{b a:List Zr}
def HD(b:List Zr)(i k:Nat):Int:=if i<=k then cf b (k-i)else 0
def Xc(a b:List Zr):Nat->Nat->Int
 |0,_=>0
 |n+1,k=>Xc a b n k+cf a n*HD b n k
def uf(a b:List Zr)(i j k:Nat):Int:=Xc a b i k+if i<=k/\k<i+j then cf a i*cf b (k-i)else 0
def yQ(a b:List Zr):List Zr:=qi (a.length+b.length) (Xc a b a.length)
theorem P6(hb:xc kb b)(i k:Nat):Bz kb (HD b i k):=by
 unfold HD;split
 ·exact hb.bz _
 ·exact Bz.zero _
theorem lu{ka kb:Nat}{a b:List Zr}(ha:xc ka a)(hb:xc kb b): ∀n k,Bz (ka+kb+n) (Xc a b n k)
 |0,k=>Bz.zero _
 |n+1,k=>by
  unfold Xc;have h:=((ha.bz n).mul (P6 hb n k)).mono (show ka+kb<=ka+kb+n by omega);exact Bz.add (lu ha hb n k) h
theorem GN(ha:xc ka a)(hb:xc kb b)(i j k:Nat):Bz (ka+kb+i+1) (uf a b i j k):=by
 unfold uf;refine Bz.add (lu ha hb i k) ?_;split
 ·exact((ha.bz i).mul (hb.bz _)).mono (by omega)
 ·exact Bz.zero _
theorem DI{a b:List Zr}{k:Nat}: ∀{n},n+b.length<=k+1->Xc a b n k=0
 |0,_=>rfl
 |n+1,h=>by
  unfold Xc HD;rw[DI (by omega),zM,yb (p:=b) (by omega),xat];rfl
theorem eW{k:Nat}(h:a.length+b.length<=k):Xc a b a.length k=0:=DI (by omega)
theorem CB(a b:List Zr)(i k:Nat):uf a b i 0 k=Xc a b i k:=by
 unfold uf;rw[zx,xbx]
theorem BP(a b:List Zr)(i k:Nat):uf a b i b.length k=Xc a b (i+1) k:=by
 rw[show Xc a b (i+1) k=Xc a b i k+cf a i*HD b i k from rfl];unfold uf HD;congr 1;by_cases h:i<=k
 ·rw[iq h];by_cases h2:k<i+b.length
  ·rw[if_pos ⟨h,h2⟩]
  ·rw[ir (fun e=>h2 e.2),yb (p:=b) (by omega),xat]
 ·rw[ir (fun e=>h e.1),ir h,xat]
theorem BJ(a b:List Zr)(i j k:Nat):uK (uf a b i j) (i+j) (uf a b i j (i+j)+cf a i*cf b j) k=uf a b i (j+1) k:=by
 unfold uK;by_cases h:k=i+j
 ·subst h;rw[iq rfl];unfold uf;rw[zx,if_pos ⟨by omega,by omega⟩,show i+j-i=j by omega,xbx]
 ·rw[ir h];unfold uf;congr 1;by_cases h2:i<=k/\k<i+j
  ·rw[iq h2,if_pos ⟨h2.1,by omega⟩]
  ·rw[ir h2,zx]
theorem xv{fu:Nat}(ha:xc ka a)(hb:xc kb b)(hk:ka+kb+a.length+1<=100000)(hc:b.length<=100000)(hf:3000000<=fu):xE fu a b=some (yQ a b):=by
 unfold xE;rw[zb,show(a.length:Int)+(b.length:Int)=((a.length+b.length:Nat):Int)by omega,yN,yF,zf,U2];obtain⟨n,hn⟩: ∃n,n=a.length+b.length:=⟨_,rfl⟩;rw[<-hn,za (v:=zi n (Xc a b a.length))]
 ·rw[za (zA (VS (lu ha hb a.length)) (by omega) (by rw[yL];omega) hf),yL];congr 1;unfold yQ;exact K5 (fun j hj=>yb (by rw[yL];omega)) (fun j hj=>eW hj) (fun j=>Ba (fun j hj=>eW (by omega)) j)
 ·refine zC (fun s:Int×List Zr=> ∃i:Nat,i<=a.length/\s=((i:Int),zi n (Xc a b i))) (fun s=>a.length-s.1.toNat) _ ?_ _ _ ⟨0,xaj _,rfl⟩ (by show a.length-0<fu;omega);rintro s L ⟨i,hi,rfl⟩ ih;unfold UD;simp only;by_cases h1:i<a.length
  ·rw[zM,za rfl];simp only[if_true];rw[zp h1,zf,za (v:=zi n (Xc a b (i+1))),zb]
   ·exact ih _ ⟨i+1,by omega,rfl⟩ (by show a.length-((i:Int)+1).toNat<a.length-(i:Int).toNat;omega)
   ·refine zC (fun s:Int×List Zr×Zr=> ∃j:Nat,j<=b.length/\s=((j:Int),zi n (uf a b i j),a.getD i (false,[]))) (fun s=>b.length-s.1.toNat) _ ?_ _ _ ⟨0,xaj _,by rw[y7 fun k _=>(CB a b i k).symm];rfl⟩ (by show b.length-0<fu;omega);rintro s L2 ⟨j,hj,rfl⟩ ih2;unfold UX;simp only;by_cases h2:j<b.length
    ·rw[zM,za rfl];simp only[if_true];have e:(i:Int)+(j:Int)=((i+j:Nat):Int):=by omega
     have hp:=GN ha hb i j (i+j);rw[zp h2,zf,e,zb,zb,zp (by rw[yL];omega),zf,Yt (by omega),za (ye (ha.okZ (by omega) i) (hb.okZ (by omega) j) hf),Qh,Qh,za (vQ (hp.ok (by omega)) (((ha.bz i).mul (hb.bz j)).ok (by omega)) hf),zt,zt,zp (by rw[yL];omega),zf,J4,zb];exact ih2 _ ⟨j+1,by omega,by rw[y7 fun k _=>BJ a b i j k];rfl⟩ (by show b.length-((j:Int)+1).toNat<b.length-(j:Int).toNat;omega)
    ·rw[zx,za rfl];simp only[xah,if_false];obtain rfl:j=b.length:=by omega
     rw[y7 fun k _=>BP a b i k]
  ·rw[zx,za rfl];simp only[xah,if_false];obtain rfl:i=a.length:=by omega
   rfl
theorem Yy(ha:xc ka a)(hb:xc kb b):xc (ka+kb+a.length) (yQ a b):=xg (lu ha hb a.length)
theorem MB(a b:List Zr)(k:Nat):cf (yQ a b) k=Xc a b a.length k:=jj (fun j hj=>eW hj) k
theorem jz(a b:List Zr):(yQ a b).length<=a.length+b.length:=by unfold yQ;rw[xz];exact qb _ _
end
section
variable{f g:Nat->Int}{fu k:Nat}{a:List Zr}{m:Zr}{a2:Zr->Zr->Option (Zr×Int)}
theorem ph{f g:Nat->Int}: ∀{n},(∀k,k<n->f k=g k)->dg f n=dg g n
 |0,_=>rfl
 |n+1,h=>by
  unfold dg;rw[h n (by omega),ph fun k hk=>h k (by omega)]
theorem fG{n:Nat}(h: ∀k,k<n->f k=g k):qi n f=qi n g:=by
 unfold qi;rw[ph h];have:=qb g n;exact y7 fun k hk=>h k (by omega)
theorem lV{n:Nat}:qi n (cf (zi n f))=qi n f:=fG fun k hk=>DQ hk
theorem Ey{l:Nat}{c:Int}(hm:gh m)(h0:0<zv m)(ha:a.length<=1000000)(hl:l<=100000)(hg: ∀j,Bz l (g j))(hf:3000000<=fu)(h: ∀j,j<a.length->a2 (a.getD j (false,[])) m=some (yP (g j),c)):
 ve fu a m a2=some (qi a.length g,0):=by
 unfold ve;rw[za (xa hm.ok hf),ir (fun e=>by have:=iW.1 e;omega),yN,yF,zf,U2,za (v:=zi a.length g)]
 ·rw[za (zA (VS hg) hl (by rw[yL];omega) hf),yL,lV]
 ·refine zC (fun s:Int×List Zr=> ∃i:Nat,i<=a.length/\s=((i:Int),zi a.length (fun k=>if k<i then g k else 0))) (fun s=>a.length-s.1.toNat) _ ?_ _ _ ⟨0,xaj _,by rw[y7 (g:=fun k=>if k<0 then g k else 0) (fun k _=>by rw[zx])];rfl⟩ (by show a.length-0<fu;omega);rintro s L ⟨i,hi,rfl⟩ ih;unfold V7;simp only;by_cases h1:i<a.length
  ·rw[zM,za rfl];simp only[if_true];rw[zp h1,zf,za (h i h1)];simp only;rw[zp (by rw[yL];exact h1),zf,J4,zb];refine ih _ ⟨i+1,by omega,?_⟩ (by show a.length-((i:Int)+1).toNat<a.length-(i:Int).toNat;omega);congr 1;refine y7 fun k hk=> ?_;unfold uK;by_cases e:k=i
   ·rw[iq e,zM,e]
   ·rw[ir e];show(if k<i then g k else 0)=_;by_cases e2:k<i
    ·rw[iq e2,zM]
    ·rw[ir e2,zx]
  ·rw[zx,za rfl];simp only[xah,if_false];congr 1;exact y7 fun k hk=>by rw[zM]
theorem tE(hm:gh m)(h0:zv m<=0)(hf:3000000<=fu):ve fu a m a2=some ([],1):=by
 unfold ve;rw[za (xa hm.ok hf),iq (iW.2 h0)]
def wj(a:List Zr)(m:Int):List Zr:=qi a.length (fun j=>cf a j % m)
def a6(a:List Zr)(m:Int):List Zr:=qi a.length (fun j=>near (cf a j) m)
def Nw(a:List Zr)(m:Int):List Zr×Int:=if m<=0 then([],1)else(wj a m,0)
def HF(a:List Zr)(m:Int):List Zr×Int:=if m<=0 then([],1)else(a6 a m,0)
theorem gh.bz{z:Zr}(h:gh z):Bz 40000 (zv z):=(Bz.of h.1).mono h.2
theorem Jr(ha:xc k a)(hk:k<=40000)(hm:gh m)(hc:a.length<=1000000)(hf:3000000<=fu):Zj fu a m=some (Nw a (zv m)):=by
 unfold Zj Nw;by_cases h0:zv m<=0
 ·rw[za (tE hm h0 hf),iq h0]
 ·obtain⟨K,hK⟩: ∃K,K=40000:=⟨_,rfl⟩;have hb:Bz K (zv m):=by rw[hK];exact hm.bz
  rw[ir h0,za (Ey (c:=0) (g:=fun j=>cf a j % zv m) hm (by omega) hc (show K<=100000 by omega) (fun j=>hb.emod (by omega)) hf fun j hj=> ?_)]
  ·rfl
  ·show vy fu _ _=_;rw[ue (ha.okS hk j) hm hf];unfold tL;rw[ir h0];rfl
theorem ef(ha:xc k a)(hk:k<=40000)(hm:gh m)(hc:a.length<=1000000)(hf:3000000<=fu):Ym fu a m=some (HF a (zv m)):=by
 unfold Ym HF;by_cases h0:zv m<=0
 ·rw[za (tE hm h0 hf),iq h0]
 ·obtain⟨K,hK⟩: ∃K,K=40000:=⟨_,rfl⟩;have hb:Bz K (zv m):=by rw[hK];exact hm.bz
  rw[ir h0,za (Ey (c:=0) (g:=fun j=>near (cf a j) (zv m)) hm (by omega) hc (show K<=100000 by omega) (fun j=>hb.near (by omega)) hf fun j hj=> ?_)]
  ·rfl
  ·show u4 fu _ _=_;rw[gU (ha.okS hk j) hm hf];unfold Tk;rw[ir h0];rfl
theorem gG{ka kb:Nat}{b:List Zr}(ha:xc ka a)(hb:xc kb b)(hk:ka+kb+a.length+1<=40000)(hc:b.length<=40000)(hm:gh m)(hf:3000000<=fu):XM fu a b m=some (Nw (yQ a b) (zv m)):=by
 unfold XM;have:=jz a b;rw[za (xv ha hb (by omega) (by omega) hf),za (Jr (Yy ha hb) (by omega) hm (by omega) hf)]
end
section
theorem EP(n:Nat)(f:Nat->Int):qi (qi n f).length (cf (qi n f))=qi n f:=by
 have e: ∀k,k<dg f n->cf (qi n f) k=f k:=fun k hk=>DQ hk;have h:dg (cf (qi n f)) (qi n f).length=dg f n:=by
  rw[xz];refine K1 (xac _) (fun k h1 h2=>by omega) ?_;by_cases h0:dg f n=0
  ·exact .inl h0
  ·right;rw[e _ (by omega)];exact WZ f n h0
 show zi (dg (cf (qi n f)) (qi n f).length) (cf (qi n f))=qi n f;rw[h];exact y7 e
theorem Pn{p:List Zr}(h:p=qi p.length (cf p)):p=zi p.length (cf p):=by
 have h2:p.length=dg (cf p) p.length:=by conv=>lhs;rw[h,xz]
 conv=>lhs;rw[h]
 unfold qi;rw[<-h2]
theorem uV{p:List Zr}(h:p=qi p.length (cf p))(h0:p.length≠0):cf p (p.length-1)≠0:=by
 have h2:p.length=dg (cf p) p.length:=by conv=>lhs;rw[h,xz]
 have:=WZ (cf p) p.length (by omega);rw[<-h2]at this;exact this
theorem DG{p:List Zr}(h:p=qi p.length (cf p)){j:Nat}(hj:j<p.length):p.getD j (false,[])=yP (cf p j):=by
 conv=>lhs;rw[Pn h]
 exact Yt hj
theorem X9(n:Nat)(f:Nat->Int):qi n f=qi (qi n f).length (cf (qi n f)):=(EP n f).symm
theorem B9{p:List Zr}(h:p=qi p.length (cf p)){l:Nat}(hz: ∀k,l<=k->cf p k=0):p.length<=l:=by
 refine xbw fun ha=> ?_;exact uV h (by omega) (hz _ (by omega))
def dvF(r d:List Zr)(m:Int)(qn:Nat):Nat->Nat->Int
 |0=>cf r
 |s+1=>fun k=>dvF r d m qn s k-(dvF r d m qn s (qn-(s+1)+(d.length-1)) % m)*HD d (qn-(s+1)) k
def pR(r d:List Zr)(m:Int)(qn i:Nat):Nat->Int:=dvF r d m qn (qn-i)
def HQ(r d:List Zr)(m:Int)(qn i:Nat):Int:=pR r d m qn (i+1) (i+(d.length-1)) % m
section
variable{r d:List Zr}{m:Int}{qn:Nat}
theorem lB:pR r d m qn qn=cf r:=by unfold pR;rw[xcU];rfl
theorem mg{i:Nat}(h:i<qn)(k:Nat):pR r d m qn i k=pR r d m qn (i+1) k-HQ r d m qn i*HD d i k:=by
 unfold HQ pR;obtain⟨s,hs⟩: ∃s,s=qn-(i+1):=⟨_,rfl⟩;rw[show qn-i=s+1 by omega,<-hs];show dvF r d m qn s k-(dvF r d m qn s (qn-(s+1)+(d.length-1)) % m)*HD d (qn-(s+1)) k=_;rw[show qn-(s+1)=i by omega]
theorem B2{K:Nat}(hr:xc K r)(hd:xc K d)(hm:Bz K m)(h0:0<m): ∀s k,Bz (2*K+s) (dvF r d m qn s k)
 |0,k=>(hr.bz k).mono (by omega)
 |s+1,k=>by
  have h:=((Bz.emod (x:=dvF r d m qn s (qn-(s+1)+(d.length-1))) hm h0).mul (P6 hd (qn-(s+1)) k)).mono (show K+K<=2*K+s by omega);exact Bz.sub (B2 hr hd hm h0 s k) h
theorem GD{K:Nat}(hm:Bz K m)(h0:0<m)(i:Nat):Bz K (HQ r d m qn i):=Bz.emod hm h0
end
theorem Zu{fu k:Nat}{a:List Zr}{m:Zr}(ha:xc k a)(hk:k<=40000)(hm:gh m)(h0:0<zv m)(hb:a.length<=1000000)(hf:3000000<=fu):yU fu a m=some (wj a (zv m)):=by
 unfold yU;rw[za (Jr ha hk hm hb hf)];unfold Nw;rw[zx]
theorem Q2{K:Nat}{a:List Zr}{m:Int}(hm:Bz K m)(h0:0<m):xc K (wj a m):=xg fun j=>Bz.emod hm h0
theorem Zp(a:List Zr)(m:Int):(wj a m).length<=a.length:=by unfold wj;rw[xz];exact qb _ _
theorem ju(a:List Zr)(m:Int)(k:Nat):cf (wj a m) k=cf a k % m:=jj (fun j hj=>by rw[yb hj,xag]) k
theorem Qn(a:List Zr)(m:Int):wj a m=qi (wj a m).length (cf (wj a m)):=X9 _ _
def dvQ(r d:List Zr)(m:Int)(qn:Nat):Nat->Int:=fun k=>if k<qn then HQ r d m qn k else 0
def rf(r d:List Zr)(m:Int):List Zr:=qi (r.length+1-d.length) (fun k=>dvQ r d m (r.length+1-d.length) k % m)
def Yi(r d:List Zr)(m:Int):List Zr:=qi r.length (fun k=>pR r d m (r.length+1-d.length) 0 k % m)
def fE(r d:List Zr)(m:Int)(qn i j:Nat):Nat->Int:=fun k=>pR r d m qn (i+1) k-if i<=k/\k<i+j then HQ r d m qn i*cf d (k-i)else 0
theorem Oq{r d:List Zr}{m:Int}{qn i k:Nat}:fE r d m qn i 0 k=pR r d m qn (i+1) k:=by
 unfold fE;rw[zx,xcB]
theorem N7{r d:List Zr}{m:Int}{qn i:Nat}(h:i<qn)(k:Nat):fE r d m qn i d.length k=pR r d m qn i k:=by
 rw[mg h];unfold fE HD;congr 1;by_cases h:i<=k
 ·rw[iq h];by_cases h2:k<i+d.length
  ·rw[if_pos ⟨h,h2⟩]
  ·rw[ir (fun e=>h2 e.2),yb (p:=d) (by omega),xat]
 ·rw[ir (fun e=>h e.1),ir h,xat]
theorem NZ(r d:List Zr)(m:Int)(qn i j k:Nat):uK (fE r d m qn i j) (i+j) (fE r d m qn i j (i+j)-HQ r d m qn i*cf d j) k=fE r d m qn i (j+1) k:=by
 unfold uK;by_cases h:k=i+j
 ·subst h;rw[iq rfl];unfold fE;rw[zx,if_pos ⟨by omega,by omega⟩,show i+j-i=j by omega,xcB]
 ·rw[ir h];unfold fE;congr 1;by_cases h2:i<=k/\k<i+j
  ·rw[iq h2,if_pos ⟨h2.1,by omega⟩]
  ·rw[ir h2,zx]
theorem zb0{K:Nat}{r d:List Zr}{m:Int}{qn i j:Nat}(hr:xc K r)(hd:xc K d)(hm:Bz K m)(h0:0<m)(h:i<qn)(k:Nat):Bz (2*K+qn+1) (fE r d m qn i j k):=by
 unfold fE;refine Bz.sub ((B2 hr hd hm h0 _ k).mono (by omega)) ?_;split
 ·exact((GD hm h0 i).mul (hd.bz _)).mono (by omega)
 ·exact Bz.zero _
theorem N6{fu K n i qn:Nat}{r d:List Zr}{m:Zr}{q:Nat->Int}(hr:xc K r)(hd:xc K d)(hm:Bz K (zv m))(h0:0<zv m)(hn:r.length=n)(hq:qn=n+1-d.length)(hb:0<d.length)(hi:i<qn)(hK:2*K+n+5<=40000)(ha:q i=HQ r d (zv m) qn i)(hf:3000000<=fu):
 zj (uo fu d (i:Int)) fu (d,m,0,zi n (pR r d (zv m) qn (i+1)),zi qn q)=some (d,m,zi n (pR r d (zv m) qn i),zi qn q):=by
 refine zC (fun s:List Zr×Zr×Int×List Zr×List Zr=> ∃j:Nat,j<=d.length/\s=(d,m,(j:Int),zi n (fE r d (zv m) qn i j),zi qn q)) (fun s=>d.length-s.2.2.1.toNat) _ ?_ _ _ ⟨0,xaj _,by rw[y7 (f:=fE r d (zv m) qn i 0) fun k _=>Oq];rfl⟩ (by show d.length-0<fu;omega);rintro s L ⟨j,hj,rfl⟩ ih;unfold uo;simp only;by_cases h2:j<d.length
 ·rw[zM,za rfl];simp only[if_true];have e:(i:Int)+(j:Int)=((i+j:Nat):Int):=by omega
  have hp:=zb0 (j:=j) hr hd hm h0 hi (i+j);have hc:=GD (r:=r) (d:=d) (qn:=qn) hm h0 i;rw[zp h2,zf,e,zb,zb,zp (by rw[yL];omega),zf,Yt (by omega),zp (by rw[yL];omega),zf,Yt hi,ha,za (ye (hc.ok (by omega)) (hd.okZ (by omega) j) hf),Qh,zt,za (v8 (hp.ok (by omega)) ((hc.mul (hd.bz j)).ok (by omega)) hf),zt,zt,zp (by rw[yL];omega),zf,J4,zb];exact ih _ ⟨j+1,by omega,by rw[y7 fun k _=>NZ r d (zv m) qn i j k];rfl⟩ (by show d.length-((j:Int)+1).toNat<d.length-(j:Int).toNat;omega)
 ·rw[zx,za rfl];simp only[xah,if_false];obtain rfl:j=d.length:=by omega
  rw[y7 fun k _=>N7 hi k]
theorem B4{fu K n qn:Nat}{r d:List Zr}{m:Zr}(hr:xc K r)(ha:r=zi n (cf r))(hd:xc K d)(hm:Bz K (zv m))(hb:zm m.2)(he:m.2.length<=K)(h0:0<zv m)(hn:r.length=n)(hq:qn=n+1-d.length)(hc:0<d.length)(hK:2*K+n+5<=40000)(hg:d.length<=1000000)(hf:3000000<=fu):
 zj (uw fu d m) fu ((qn:Int)-1,r,xae qn (false,[]))=some (zi n (pR r d (zv m) qn 0),zi qn (dvQ r d (zv m) qn)):=by
 refine zC (fun s:Int×List Zr×List Zr=> ∃i:Nat,i<=qn/\s=((i:Int)-1,zi n (pR r d (zv m) qn i),zi qn (fun k=>if i<=k then HQ r d (zv m) qn k else 0))) (fun s=>(s.1+1).toNat) _ ?_ _ _ ⟨qn,xac _,?_⟩ (by show((qn:Int)-1+1).toNat<fu;omega)
 ·rintro s L ⟨i,hi,rfl⟩ ih;unfold uw;simp only
  cases i with
  |zero=>
   have e0:(zi qn fun k=>if 0<=k then HQ r d (zv m) qn k else 0)=zi qn (dvQ r d (zv m) qn):=y7 fun k hk=>by
    rw[iq (xaj _)];unfold dvQ;rw[iq hk]
   rw[zx,e0]
  |succ i=>
   have e1:((i+1:Nat):Int)-1=(i:Int):=by omega
   have e2:(i:Int)+(d.length:Int)-1=((i+(d.length-1):Nat):Int):=by omega
   have hp:Bz (2*K+qn) (pR r d (zv m) qn (i+1) (i+(d.length-1))):=(B2 hr hd hm h0 _ _).mono (by omega);rw[e1,zM,zb,e2,zb,zp (by rw[yL];omega),zf,Yt (by omega),za (ue (hp.okS (by omega)) ⟨hb,by omega⟩ hf),zt];unfold tL;rw[zx];simp only;rw[zp (by rw[yL];omega),zf,J4,za (N6 (q:=uK (fun k=>if i+1<=k then HQ r d (zv m) qn k else 0) i (pR r d (zv m) qn (i+1) (i+(d.length-1)) % zv m)) hr hd hm h0 hn hq hc (by omega) hK ?_ hf)]
   ·simp only;rw[zb];refine ih _ ⟨i,by omega,?_⟩ (by show((i:Int)-1+1).toNat<(((i+1:Nat):Int)-1+1).toNat;omega);congr 2;refine y7 fun k hk=> ?_;unfold uK;by_cases h:k=i
    ·rw[iq h,zM,h];rfl
    ·rw[ir h];show(if i+1<=k then _ else _)=_;by_cases h2:i+1<=k
     ·rw[iq h2,zM]
     ·rw[ir h2,zx]
   ·unfold uK;rw[iq rfl];rfl
 ·rw[lB,<-ha,U2,y7 (g:=fun k=>if qn<=k then HQ r d (zv m) qn k else 0) fun k hk=>by rw[zx]]
theorem Xx{fu k K:Nat}{a d:List Zr}{m:Zr}(ha:xc k a)(hk:k<=40000)(hd:xc K d)(hb:zm m.2)(hg:m.2.length<=K)(h0:0<zv m)(hi:0<d.length)(hK:2*K+a.length+5<=40000)(hj:d.length<=1000000)(hf:3000000<=fu):
 qq fu a d m=some (rf (wj a (zv m)) d (zv m),Yi (wj a (zv m)) d (zv m)):=by
 unfold qq;have hm:Bz K (zv m):=(Bz.of hb).mono hg;have he:gh m:=⟨hb,by omega⟩;have hr:=Q2 (a:=a) hm h0;have hl:=Zp a (zv m);have hc:=Pn (Qn a (zv m));rw[za (Zu ha hk he h0 (by omega) hf)];generalize wj a (zv m)=r at*
 obtain⟨qn,hq⟩: ∃qn,qn=r.length+1-d.length:=⟨_,rfl⟩;have e1:max ((r.length:Int)-(d.length:Int)+1) 0=(qn:Int):=by omega
 rw[zb,zb,zf,e1,yN,yF,zf,xaT,zb,za (B4 hr hc hd hm hb hg h0 rfl hq hi (by omega) hj hf)];simp only;have hQ: ∀j,Bz K (dvQ r d (zv m) qn j):=fun j=>by
  unfold dvQ;split
  ·exact GD hm h0 j
  ·exact Bz.zero _
 have hR: ∀j,Bz (2*K+qn) (pR r d (zv m) qn 0 j):=fun j=>(B2 hr hd hm h0 _ _).mono (by omega);rw[za (Zu (VS hQ) (by omega) he h0 (by rw[yL];omega) hf),za (Zu (VS hR) (by omega) he h0 (by rw[yL];omega) hf)];unfold rf Yi wj;rw[<-hq,yL,yL,fG fun k hk=>by rw[DQ hk],fG (n:=r.length) fun k hk=>by rw[DQ hk]]
end
section
variable{k:Nat}{a b:List Zr}
def mono(i:Nat)(c:Int):Nat->Int:=fun k=>if k=i then c else 0
theorem MM(a b:List Zr)(k:Nat):cf (Uh a b) k=cf a k-cf b k:=jj (fun j hj=>by rw[yb (by omega),yb (by omega)];rfl) k
theorem Qi(a b:List Zr):(Uh a b).length<=max a.length b.length:=by unfold Uh;rw[xz];exact qb _ _
theorem iX(ha:xc k a)(hb:xc k b):xc (k+1) (Uh a b):=xg fun j=>(ha.bz j).sub (hb.bz j)
theorem Bz.one': ∀{k:Nat},1<=k->Bz k 1:=fun{k} h=>Bz.mono (j:=1) (by unfold Bz;decide) h
theorem Fu(hl:a.length=b.length)(h: ∀j,j<a.length->a.getD j (false,[])=b.getD j (false,[])):a=b:=by
 refine xeI hl fun j h1 h2=> ?_;have:=h j h1;rw[UV,UV,IR h1,IR h2]at this;exact this
theorem gD{fu:Nat}(ha:xc k a)(hk:k<=1000000)(hb:a.length<=1000000)(hf:3000000<=fu):XN fu a b=some (decide (a=b)):=by
 unfold XN;by_cases hl:a.length=b.length
 ·rw[zM,za (v:=if a=b then .inl ()else .inr ())]
  ·by_cases h:a=b
   ·rw[iq h,decide_eq_true h]
   ·rw[ir h,decide_eq_false h]
  ·refine zC (fun i:Int=> ∃j:Nat,i=(j:Int)/\j<=a.length/\ ∀l,l<j->a.getD l (false,[])=b.getD l (false,[])) (fun i=>a.length-i.toNat) _ ?_ _ _ ⟨0,rfl,xaj _,fun l h=>absurd h (xbv _)⟩ (by show a.length-0<fu;omega);rintro i L ⟨j,rfl,hj,he⟩ ih;unfold Ks;by_cases h1:j<a.length
   ·have:=(ha.get j).2;rw[zM,zp h1,zf,yB,zf,za (gQ (by omega) (by omega))];by_cases h2:a.getD j (false,[])=b.getD j (false,[])
    ·rw[decide_eq_true h2,ir (by decide),zb];refine ih _ ⟨j+1,rfl,by omega,fun l h=> ?_⟩ (by omega);by_cases h3:l=j
     ·rw[h3];exact h2
     ·exact he l (by omega)
    ·rw[decide_eq_false h2,iq (by decide),ir (fun e=>h2 (by rw[e]))]
   ·rw[zx,iq (Fu hl fun l h=>he l (by omega))]
 ·rw[zx,decide_eq_false (fun e=>hl (by rw[e]))]
theorem sB{d:List Zr}(h:d.length≠0):d.drop (d.length-1)=[d.getD (d.length-1) (false,[])]:=by
 rw[xcu (by omega),xcf (by omega),UV,IR (by omega)];rfl
end
theorem Tq{l:List Nat}(h:(Ty.l .u).ok l):zm l:=fun x hx=>h.2 x hx
theorem zcV{p:List Zr}(h:(Ty.l (.p .b (.l .u))).ok p){k:Nat}(hs: ∀z∈p,z.2.length<=k):xc k p:=fun z hz=>⟨Tq (h.2 z hz).2,hs z hz⟩
def dN(c k:Nat)(p:List Zr):Prop:=p.length<=c/\ ∀z∈p,z.2.length<=k
instance(c k:Nat)(p:List Zr):Decidable (dN c k p):=inferInstanceAs (Decidable (_/\_))
theorem Ou{l:List Zr}{i:Nat}(h:i<l.length):l.getD i (false,[])∈l:=by
 rw[UV,IR h];exact xbh h
theorem SB{l:List Zr}{q:Zr->Prop}(h: ∀j,j<l.length->q (l.getD j (false,[]))): ∀z∈l,q z:=fun z hz=>by
 obtain⟨j,hj,rfl⟩:=xdx.1 hz;have:=h j hj;rw[UV,IR hj]at this;exact this
section
theorem sG{a b:List Zr}(k:Nat): ∀c,Xc a b (a.length+c) k=Xc a b a.length k
 |0=>rfl
 |c+1=>by
  show Xc a b (a.length+c) k+cf a (a.length+c)*HD b (a.length+c) k=_;rw[sG k c,yb (p:=a) (by omega),xaU,xbx]
theorem DR{a b:List Zr}{n:Nat}(h:a.length<=n)(k:Nat):Xc a b n k=Xc a b a.length k:=by
 have:=sG (a:=a) (b:=b) k (n-a.length);rw[show a.length+(n-a.length)=n by omega]at this;exact this
theorem mM{a b:List Zr}{m:Int}(h: ∀k,cf a k % m=cf b k % m):wj a m=wj b m:=by
 unfold wj;exact K5 (fun k hk=>by rw[yb hk,xag]) (fun k hk=>by rw[yb hk,xag]) h
section
variable{r d:List Zr}{m:Int}
theorem Mg{qn:Nat}{q:List Zr}(hq: ∀j,j<qn->cf q j=HQ r d m qn j)(k:Nat): ∀n,n<=qn->pR r d m qn n k=pR r d m qn 0 k+Xc q d n k
 |0,_=>by show _=_+0;omega
 |n+1,h=>by
  have ih:=Mg hq k n (by omega);rw[mg (i:=n) (by omega)]at ih;show _=_+(Xc q d n k+cf q n*HD d n k);rw[hq n (by omega)];omega
theorem MN(j:Nat):cf (rf r d m) j=dvQ r d m (r.length+1-d.length) j % m:=jj (fun k hk=>by unfold dvQ;rw[zx,xag]) j
theorem mr{qn:Nat}(hn:r.length<=qn+(d.length-1))(hb:0<d.length)(ha:cf d (d.length-1)=1): ∀c i k,i+c=qn->i+(d.length-1)<=k->pR r d m qn i k % m=0
 |0,i,k,hi,hk=>by
  obtain rfl:i=qn:=by omega
  rw[lB,yb (by omega),xag]
 |c+1,i,k,hi,hk=>by
  rw[mg (i:=i) (by omega)];by_cases h:k=i+(d.length-1)
  ·unfold HD HQ;rw[zM,show k-i=d.length-1 by omega,ha,xce,<-h,<-Int.emod_sub_emod,xcV,xag]
  ·have ih:=mr hn hb ha c (i+1) k (by omega) (by omega);unfold HD;rw[zM,yb (p:=d) (by omega),xat,xcB];exact ih
theorem U4(h:r.length<=r.length+1-d.length+(d.length-1))(ha:0<d.length)(hb:cf d (d.length-1)=1)(k:Nat):cf (Yi r d m) k=pR r d m (r.length+1-d.length) 0 k % m:=
 jj (fun j hj=>by
  by_cases h2:d.length<=r.length
  ·exact mr h ha hb _ 0 j (xaS _) (by omega)
  ·rw[show r.length+1-d.length=0 by omega,lB,yb hj,xag]) k
theorem rA(ha:0<d.length)(hb:cf d (d.length-1)=1):(Yi r d m).length<d.length:=by
 have h:(Yi r d m).length<=d.length-1:=B9 (X9 _ _) fun k hk=>by
  rw[show qi r.length (fun k=>pR r d m (r.length+1-d.length) 0 k % m)=Yi r d m from rfl,U4 (by omega) ha hb];exact mr (by omega) ha hb _ 0 k (xaS _) (by omega)
 omega
end
end
section
variable{m:Int}
def zU:Nat->(Nat->Int)->Int
 |0,_=>0
 |n+1,f=>zU n f+f n
theorem zT{f g:Nat->Int}: ∀{n},(∀k,k<n->f k=g k)->zU n f=zU n g
 |0,_=>rfl
 |n+1,h=>by
  show zU n f+f n=zU n g+g n;rw[zT fun k hk=>h k (by omega),h n (by omega)]
theorem Zb(f g:Nat->Int): ∀n,zU n (fun k=>f k+g k)=zU n f+zU n g
 |0=>rfl
 |n+1=>by
  show zU n _+(f n+g n)=zU n f+f n+(zU n g+g n);rw[Zb f g n];omega
theorem jA(c:Int)(f:Nat->Int): ∀n,zU n (fun k=>c*f k)=c*zU n f
 |0=>by show(0:Int)=c*0;omega
 |n+1=>by
  show zU n _+c*f n=c*(zU n f+f n);rw[jA c f n,xeP]
theorem NT(c:Int)(f:Nat->Int)(n:Nat):zU n (fun k=>f k*c)=zU n f*c:=by
 rw[xbi,<-jA];exact zT fun k _=>xbi _ _
theorem yT: ∀{n} {f:Nat->Int},(∀k,k<n->f k=0)->zU n f=0
 |0,_,_=>rfl
 |n+1,f,h=>by
  show zU n f+f n=0;rw[yT fun k hk=>h k (by omega),h n (by omega)];rfl
theorem jE(f:Nat->Int): ∀n,zU (n+1) f=f 0+zU n (fun k=>f (k+1))
 |0=>by show(0:Int)+f 0=f 0+0;omega
 |n+1=>by
  show zU (n+1) f+f (n+1)=f 0+(zU n _+f (n+1));rw[jE f n];omega
theorem Du(f:Nat->Int): ∀n,zU (n+1) f=zU (n+1) (fun k=>f (n-k))
 |0=>rfl
 |n+1=>by
  rw[jE (fun k=>f (n+1-k)) (n+1)];show zU (n+1) f+f (n+1)=f (n+1-0)+_;rw[Du f n,Nat.sub_zero,zT (f:=fun k=>f (n+1-(k+1))) (g:=fun k=>f (n-k)) fun k _=>by rw[show n+1-(k+1)=n-k by omega]];omega
theorem Av{f:Nat->Int}{n:Nat}(h: ∀k,n<=k->f k=0): ∀c,zU (n+c) f=zU n f
 |0=>rfl
 |c+1=>by
  show zU (n+c) f+f (n+c)=_;rw[Av h c,h _ (by omega)];omega
theorem FP(G:Nat->Nat->Int): ∀n,zU n (fun i=>zU (i+1) (fun j=>G j (i-j)))=zU n (fun j=>zU (n-j) (fun l=>G j l))
 |0=>rfl
 |n+1=>by
  show zU n _+zU (n+1) (fun j=>G j (n-j))=zU n _+zU (n+1-n) (fun l=>G n l);rw[FP G n,zT (f:=fun j=>zU (n+1-j) (fun l=>G j l)) (g:=fun j=>zU (n-j) (fun l=>G j l)+G j (n-j)) fun j hj=>by rw[show n+1-j=(n-j)+1 by omega];rfl,Zb,show n+1-n=1 by omega];show _+(zU n (fun j=>G j (n-j))+G n (n-n))=_+(0+G n 0);rw[xcU];omega
abbrev Pz:=Nat->Int
instance:_root_.Add Pz:=⟨fun f g k=>f k+g k⟩
instance:_root_.Sub Pz:=⟨fun f g k=>f k-g k⟩
instance:_root_.Neg Pz:=⟨fun f k=> -f k⟩
instance:_root_.Mul Pz:=⟨fun f g k=>zU (k+1) (fun i=>f i*g (k-i))⟩
def pc(c:Int):Pz:=fun k=>if k=0 then c else 0
theorem zI(f g:Pz)(k:Nat):(f+g) k=f k+g k:=rfl
theorem yC(f g:Pz)(k:Nat):(f-g) k=f k-g k:=rfl
theorem sK(f:Pz)(k:Nat):(-f) k= -f k:=rfl
theorem xr(f g:Pz)(k:Nat):(f*g) k=zU (k+1) (fun i=>f i*g (k-i)):=rfl
theorem zg(f g:Pz):f*g=g*f:=by
 funext k;rw[xr,xr,Du];exact zT fun i hi=>by rw[show k-(k-i)=i by omega,xbi]
theorem xB(f g h:Pz):f*(g+h)=f*g+f*h:=by
 funext k;rw[zI,xr,xr,xr,<-Zb];exact zT fun i _=>by rw[zI,xeP]
theorem yo(f g h:Pz):(f+g)*h=f*h+g*h:=by rw[zg,xB,zg h f,zg h g]
theorem Na(f g:Pz):f*(-g)= -(f*g):=by
 funext k;rw[sK,xr,xr,show-zU (k+1) (fun i=>f i*g (k-i))= -1*zU (k+1) (fun i=>f i*g (k-i))by omega,<-jA];exact zT fun i _=>by rw[sK,xes];omega
theorem dj(f g:Pz):f-g=f+ -g:=by
 funext k;rw[yC,zI,sK];omega
theorem w7(f g h:Pz):f*(g-h)=f*g-f*h:=by rw[dj,xB,Na,<-dj]
theorem w9(f g h:Pz):(f-g)*h=f*h-g*h:=by rw[zg,w7,zg h f,zg h g]
theorem zd(f g h:Pz):f*g*h=f*(g*h):=by
 funext k;have e1:(f*g*h) k=zU (k+1) (fun i=>zU (i+1) (fun j=>(fun j l=>f j*g l*h (k-(j+l))) j (i-j))):=by
  rw[xr];refine zT fun i hi=> ?_;rw[xr,<-NT];exact zT fun j hj=>by
   show f j*g (i-j)*h (k-i)=f j*g (i-j)*h (k-(j+(i-j)));rw[show j+(i-j)=i by omega]
 rw[e1,FP (fun j l=>f j*g l*h (k-(j+l))),xr];refine zT fun j hj=> ?_;rw[xr,<-jA,show k+1-j=k-j+1 by omega];exact zT fun l hl=>by
  show f j*g l*h (k-(j+l))=f j*(g l*h (k-j-l));rw[show k-(j+l)=k-j-l by omega,xbG]
theorem zw(f g h:Pz):f*(g*h)=g*(f*h):=by rw[<-zd,zg f g,zd]
theorem zQ(c:Int)(f:Pz)(k:Nat):(pc c*f) k=c*f k:=by
 rw[xr,jE,yT fun i hi=>by show pc c (i+1)*_=0;unfold pc;rw[zx,xaU]];show(if 0=0 then c else 0)*f (k-0)+0=_;rw[iq rfl,Nat.sub_zero,xbx]
theorem zy(f:Pz):pc 1*f=f:=by funext k;rw[zQ,xbY]
theorem yc(f:Pz):pc 0*f=pc 0:=by
 funext k;rw[zQ,xaU];unfold pc;split<;>rfl
theorem zK(k:Nat):pc 0 k=0:=by unfold pc;split<;>rfl
theorem jX(a b:Int):pc a*pc b=pc (a*b):=by
 funext k;rw[zQ];unfold pc;split
 ·rfl
 ·exact xat _
def Cg(m:Int)(f g:Pz):Prop:= ∀k,f k % m=g k % m
theorem Cg.rfl{f:Pz}:Cg m f f:=fun _=>Eq.refl _
theorem Cg.of{f g:Pz}(h:f=g):Cg m f g:=fun _=>by rw[h]
theorem Cg.symm{m:Int}{f g:Pz}(h:Cg m f g):Cg m g f:=fun k=>(h k).symm
theorem Cg.trans{m:Int}{f g h:Pz}(h1:Cg m f g)(h2:Cg m g h):Cg m f h:=fun k=>(h1 k).trans (h2 k)
theorem Cg.add{f f' g g':Pz}(h1:Cg m f f')(h2:Cg m g g'):Cg m (f+g) (f'+g'):=fun k=>by
 rw[zI,zI,xdM,h1,h2,<-xdM]
theorem Cg.sub{f f' g g':Pz}(h1:Cg m f f')(h2:Cg m g g'):Cg m (f-g) (f'-g'):=fun k=>by
 rw[yC,yC,Int.sub_emod,h1,h2,<-Int.sub_emod]
theorem K6{m:Int}{f g:Nat->Int}: ∀{n},(∀k,k<n->f k % m=g k % m)->zU n f % m=zU n g % m
 |0,_=>Eq.refl _
 |n+1,h=>by
  show(zU n f+f n) % m=(zU n g+g n) % m;rw[xdM,K6 fun k hk=>h k (by omega),h n (by omega),<-xdM]
theorem Cg.mul{f f' g g':Pz}(h1:Cg m f f')(h2:Cg m g g'):Cg m (f*g) (f'*g'):=fun k=>by
 rw[xr,xr];exact K6 fun i _=>by rw[xbq,h1,h2,<-xbq]
theorem Cg.down{n:Int}{f g:Pz}(h:Cg m f g)(hd:n∣m):Cg n f g:=fun k=>by
 have:=h k;rw[<-xcC (f k) hd,this,xcC _ hd]
theorem Cg.dvd{f:Pz}(h:Cg m f (pc 0))(k:Nat):m∣f k:=xaG (by rw[h,zK,xag])
theorem Cg.of_dvd{f:Pz}(h: ∀k,m∣f k):Cg m f (pc 0):=fun k=>by rw[zK,xag,xax (h k)]
theorem J2{m:Int}{f:Nat->Int}: ∀{n},(∀k,k<n->m∣f k)->m∣zU n f
 |0,_=>xcJ _
 |n+1,h=>Int.dvd_add (J2 fun k hk=>h k (by omega)) (h n (by omega))
theorem Cg.mul_zero{n:Int}{f g:Pz}(hf:Cg m f (pc 0))(hg:Cg n g (pc 0)):Cg (m*n) (f*g) (pc 0):=Cg.of_dvd fun k=>by
 rw[xr];exact J2 fun i _=>xfJ (hf.dvd i) (hg.dvd _)
theorem Cg.mul_zero_l{f:Pz}(g:Pz)(hf:Cg m f (pc 0)):Cg m (g*f) (pc 0):=by
 have:=(Cg.rfl (m:=m) (f:=g)).mul hf;rw[zg g (pc 0),yc]at this;exact this
theorem Cg.iff_sub{f g:Pz}:Cg m f g↔Cg m (f-g) (pc 0):=by
 constructor
 ·intro h;refine Cg.of_dvd fun k=> ?_;rw[yC];exact xaG (xaH.1 (h k))
 ·intro h k;have:=xax (h.dvd k);rw[yC]at this;exact xaH.2 this
end
section
variable{m:Int}{f g h s t:Pz}
theorem zY(f:Pz):f*pc 1=f:=by rw[zg,zy]
theorem zch(f g h s t e q:Pz):f-(g+(t*e+q*g))*(h+(s*e-q*h))=(f-g*h-e)+(e*(pc 1-(s*g+t*h))-(t*s)*(e*e)+(t*h-g*s)*(q*e)+(g*h)*(q*q)):=by
 simp only[xB,yo,w7,w9,zY,zd,zw,zg];funext k;simp only[zI,yC];omega
theorem TE(g h s t b c:Pz):(s-(s*b-c*h))*g+(t-(t*b+c*g))*h-pc 1=(s*g+t*h-pc 1-b)-(s*g+t*h-pc 1-b)*b-b*b:=by
 simp only[xB,yo,w7,w9,zY,zy,zd,zw,zg];funext k;simp only[zI,yC];omega
theorem Cg.zero_add(hf:Cg m f (pc 0))(hg:Cg m g (pc 0)):Cg m (f+g) (pc 0):=Cg.of_dvd fun k=>by rw[zI];exact Int.dvd_add (hf.dvd k) (hg.dvd k)
theorem Cg.zero_sub(hf:Cg m f (pc 0))(hg:Cg m g (pc 0)):Cg m (f-g) (pc 0):=Cg.of_dvd fun k=>by rw[yC];exact xdo (hf.dvd k) (hg.dvd k)
theorem Cg.mul_zero_r(g:Pz)(hf:Cg m f (pc 0)):Cg m (f*g) (pc 0):=by rw[zg];exact hf.mul_zero_l g
theorem Rj{n:Int}(hm:m∣n*n)(hn:n∣m){e q r g' h':Pz}(h1:Cg n f (g*h))(h2:Cg n (s*g+t*h) (pc 1))(he:Cg m e (f-g*h))(hd:Cg m (s*e) (q*h+r))(hq:Cg n q (pc 0))(hr:Cg n r (pc 0))(hg:Cg m g' (g+(t*e+q*g)))(hh:Cg m h' (h+r)):
 Cg m f (g'*h')/\Cg n g' g/\Cg n h' h:=by
 have ha:Cg n e (pc 0):=(he.down hn).trans (Cg.iff_sub.1 h1);have hb:Cg m r (s*e-q*h):=by
  refine Cg.iff_sub.2 (Cg.of_dvd fun k=> ?_);have:=(Cg.iff_sub.1 hd).dvd k;simp only[zI,yC]at this⊢;have e1:r k-((s*e) k-(q*h) k)= -((s*e) k-((q*h) k+r k)):=by omega
  rw[e1];exact Int.dvd_neg.2 this
 refine⟨?_,?_,?_⟩
 ·refine Cg.trans ?_ (Cg.symm (hg.mul (hh.trans (Cg.rfl.add hb))));refine Cg.iff_sub.2 ?_;rw[zch];have z1:Cg m (f-g*h-e) (pc 0):=Cg.iff_sub.1 he.symm;have z2:Cg n (pc 1-(s*g+t*h)) (pc 0):=Cg.iff_sub.1 h2.symm;exact z1.zero_add ((((ha.mul_zero z2).down hm).zero_sub (((ha.mul_zero ha).down hm).mul_zero_l _)).zero_add (((hq.mul_zero ha).down hm).mul_zero_l _)|>.zero_add (((hq.mul_zero hq).down hm).mul_zero_l _))
 ·refine(hg.down hn).trans (Cg.iff_sub.2 ?_);have e1:g+(t*e+q*g)-g=t*e+q*g:=by
   funext k;simp only[zI,yC];omega
  rw[e1];exact(ha.mul_zero_l t).zero_add (hq.mul_zero_r g)
 ·refine(hh.down hn).trans (Cg.iff_sub.2 ?_);have e1:h+r-h=r:=by
   funext k;simp only[zI,yC];omega
  rw[e1];exact hr
theorem Si{n:Int}(hm:m∣n*n)(hn:n∣m){b c d s' t':Pz}(h2:Cg n (s*g+t*h) (pc 1))(hb:Cg m b (s*g+t*h-pc 1))(hd:Cg m (s*b) (c*h+d))(hs:Cg m s' (s-d))(ht:Cg m t' (t-(t*b+c*g))):
 Cg m (s'*g+t'*h) (pc 1):=by
 have ha:Cg n b (pc 0):=(hb.down hn).trans (Cg.iff_sub.1 h2);have hc:Cg m d (s*b-c*h):=by
  refine Cg.iff_sub.2 (Cg.of_dvd fun k=> ?_);have:=(Cg.iff_sub.1 hd).dvd k;simp only[zI,yC]at this⊢;have e1:d k-((s*b) k-(c*h) k)= -((s*b) k-((c*h) k+d k)):=by omega
  rw[e1];exact Int.dvd_neg.2 this
 refine((hs.trans (Cg.rfl.sub hc)).mul Cg.rfl|>.add (ht.mul Cg.rfl)).trans (Cg.iff_sub.2 ?_);rw[TE];have z1:Cg m (s*g+t*h-pc 1-b) (pc 0):=Cg.iff_sub.1 hb.symm;exact(z1.zero_sub (z1.mul_zero_r b)).zero_sub ((ha.mul_zero ha).down hm)
end
section
variable{a p:Int}{fu j m:Nat}{f g:Pz}{l:List Int}
theorem FT(hp:0<p):(if xbX a p<0 then xbX a p+p else xbX a p)=a % p:=by
 have h1:=xcP a (show p≠0 by omega);have h2:=xdu a hp;rw[Int.tmod_eq_emod];by_cases h:0<=a\/p∣a
 ·rw[iq h,zx];omega
 ·rw[ir h,zM];omega
theorem kZ(ha:0<=a):xbX a p=a % p:=by
 rw[Int.tmod_eq_emod,iq (.inl ha)];omega
theorem yg(hp:0<p):0<=a % p/\a % p<p:=⟨xcP a (by omega),xdu a hp⟩
theorem uC(h1:1<=p)(h2:p<=65521)(ha:VM a):jN fu a p=some (a % p):=by
 unfold jN;obtain⟨a1,a2⟩:=ha;have hr:=yg (a:=a) (p:=p) (by omega);have ht:=FT (a:=a) (p:=p) (by omega);rw[zx,yF,zf];by_cases h:xbX a p<0
 ·rw[iq h]at ht;rw[iq h,zb,ht]
 ·rw[ir h]at ht;rw[ir h,ht]
def zl(n:Nat)(f:Pz):List Int:=(xbb n).map f
def ci(l:List Int):Pz:=fun k=>l.getD k 0
def nl(n:Nat)(f:Pz):List Int:=zl (dg f n) f
theorem Zg(l:List Int)(k:Nat):l.getD k 0=ci l k:=rfl
theorem zF(n:Nat)(f:Pz):(zl n f).length=n:=by unfold zl;simp
theorem vB{n:Nat}(h:j<n):(zl n f).getD j 0=f j:=by
 unfold zl;rw[UV,xaA,xbg h];rfl
theorem ym{n:Nat}(h: ∀k,k<n->f k=g k):zl n f=zl n g:=by
 unfold zl;exact xbL fun k hk=>h k (xaQ.1 hk)
theorem jQ{n:Nat}{v:Int}:(zl n f).set j v=zl n (uK f j v):=by
 refine xcv fun i=> ?_;unfold zl uK;rw[xdX];by_cases h:j=i
 ·subst h;rw[iq rfl,xaM,xcx,xaA];by_cases hj:j<n
  ·rw[iq hj,xbg hj];simp
  ·rw[ir hj,xaI (by simp;omega)];rfl
 ·rw[ir h,xaA,xaA];by_cases hi:i<n
  ·rw[xbg hi];simp[Ne.symm h]
  ·rw[xaI (by simp;omega)];rfl
theorem Je(n:Nat):xae n 0=zl n (fun _=>0):=by
 unfold zl;rw[List.map_const',xcx]
theorem zbk{n:Nat}:zl n f++[f n]=zl (n+1) f:=by
 unfold zl;rw[xdC,xaN];rfl
theorem AK{n:Nat}(h:m<=n):(zl n f).take m=zl m f:=by
 unfold zl;rw[<-List.map_take,List.take_range,xcX h]
theorem qY{n:Nat}(h:j<n):ci (zl n f) j=f j:=vB h
theorem zP(h:l.length<=j):ci l j=0:=by
 unfold ci;rw[UV,xaI h];rfl
theorem uh{n:Nat}(h: ∀k,n<=k->f k=0)(j:Nat):ci (zl n f) j=f j:=by
 by_cases hj:j<n
 ·exact qY hj
 ·rw[zP (by rw[zF];omega),h j (by omega)]
theorem Et(l:List Int):zl l.length (ci l)=l:=by
 refine xeI (zF _ _) fun j h1 h2=> ?_;have h3:(zl l.length (ci l)).getD j 0=l.getD j 0:=qY (n:=l.length) (f:=ci l) h2;rw[UV,UV,IR h1,IR h2]at h3;exact h3
theorem SJ(n:Nat)(f:Pz):(nl n f).length=dg f n:=zF _ _
theorem tn(n:Nat)(f:Pz):(nl n f).length<=n:=by rw[SJ];exact qb _ _
theorem mU{n:Nat}(h: ∀k,n<=k->f k=0)(j:Nat):ci (nl n f) j=f j:=by
 refine uh (fun k hk=> ?_) j;by_cases hn:k<n
 ·exact Jf f n k hk hn
 ·exact h k (by omega)
theorem ze9{n:Nat}(hf: ∀k,n<=k->f k=0)(hg: ∀k,m<=k->g k=0)(h: ∀k,f k=g k):dg f n=dg g m:=by
 refine K1 ?_ ?_ ?_
 ·refine xbw fun ha=> ?_;have:=WZ g m (by omega);rw[<-h,hf _ (by omega)]at this;exact this rfl
 ·intro k h1 h2;rw[h];by_cases hk:k<m
  ·exact Jf g m k h1 hk
  ·exact hg k (by omega)
 ·by_cases h0:dg g m=0
  ·exact .inl h0
  ·right;rw[h];exact WZ g m h0
theorem zd3{n:Nat}(hf: ∀k,n<=k->f k=0)(hg: ∀k,m<=k->g k=0)(h: ∀k,f k=g k):nl n f=nl m g:=by
 unfold nl;rw[ze9 hf hg h];exact ym fun k _=>h k
theorem oJ{n:Nat}(h: ∀k,k<n->f k=g k):nl n f=nl n g:=by
 unfold nl;rw[ph h];have:=qb g n;exact ym fun k hk=>h k (by omega)
def Nl(l:List Int):Prop:=l.length=0\/ci l (l.length-1)≠0
theorem gf(n:Nat)(f:Pz):Nl (nl n f):=by
 by_cases h:(nl n f).length=0
 ·exact .inl h
 ·right;rw[SJ]at h⊢;unfold nl;rw[qY (by omega)];exact WZ f n h
theorem Nl.eq(h:Nl l):l=nl l.length (ci l):=by
 have e:dg (ci l) l.length=l.length:=K1 (xac _) (fun k h1 h2=>by omega) (h.imp id id);unfold nl;rw[e,Et]
theorem Nl.ext{a b:List Int}(ha:Nl a)(hb:Nl b)(h: ∀k,ci a k=ci b k):a=b:=by
 rw[ha.eq,hb.eq];exact zd3 (fun k hk=>zP hk) (fun k hk=>zP hk) h
theorem Nl.le(h:Nl l){n:Nat}(hz: ∀k,n<=k->ci l k=0):l.length<=n:=by
 refine xbw fun ha=> ?_;rcases h with h|h
 ·omega
 ·exact h (hz _ (by omega))
def Rl(l:List Int):Prop:= ∀k,VM (ci l k)
structure Fp(p:Int)(l:List Int):Prop where
 nn: ∀k,0<=ci l k
 lt: ∀k,ci l k<p
 nl:Nl l
def pm(p:Int)(l:List Int):List Int:=nl l.length (fun k=>ci l k % p)
theorem tW(p:Int)(l:List Int)(k:Nat):ci (pm p l) k=ci l k % p:=mU (fun k hk=>by rw[zP hk,xag]) k
theorem ME(p:Int)(l:List Int):(pm p l).length<=l.length:=tn _ _
theorem nY(hp:0<p)(l:List Int):Fp p (pm p l):=⟨fun k=>by rw[tW];exact(yg hp).1,fun k=>by rw[tW];exact(yg hp).2,gf _ _⟩
theorem FZ(p:Int)(l:List Int):Cg p (ci (pm p l)) (ci l):=fun k=>by rw[tW,xaC]
theorem Fp.mod(h:Fp p l)(k:Nat):ci l k % p=ci l k:=xaz (h.nn k) (h.lt k)
theorem Fp.pm{p:Int}{l:List Int}(h:Fp p l):pm p l=l:=by
 refine Nl.ext (gf _ _) h.nl fun k=> ?_;exact(tW p l k).trans (h.mod k)
theorem Fp.ext{p:Int}{a b:List Int}(ha:Fp p a)(hb:Fp p b)(h:Cg p (ci a) (ci b)):a=b:=Nl.ext ha.nl hb.nl fun k=>by rw[<-ha.mod,h,hb.mod]
theorem Fp.rl(h:Fp p l)(hp:p<=65521):Rl l:=fun k=>by
 have h1:=h.nn k;have h2:=h.lt k;exact⟨by omega,by omega⟩
theorem zE(h1:1<=p)(h2:p<=65521)(hr:Rl l)(hl:l.length<=1000000)(hf:3000000<=fu):zO fu l p=some (pm p l):=by
 unfold zO;have hd:=qb (fun k=>ci l k % p) l.length;rw[yN,yF,zf,Je,za (v:=zl l.length (fun k=>ci l k % p))]
 ·rw[za (v:=pm p l)];refine zC (fun t:List Int=> ∃m,m<=l.length/\t=zl m (fun k=>ci l k % p)/\dg (fun k=>ci l k % p) m=dg (fun k=>ci l k % p) l.length) (fun t=>t.length) _ ?_ _ _ ⟨l.length,xac _,rfl,rfl⟩ (by rw[zF];omega);rintro t L ⟨m,hm,rfl,hg⟩ ih;unfold JA;rw[zF]
  cases m with
  |zero=>
   rw[zx];unfold pm nl;rw[<-hg];rfl
  |succ m=>
   rw[zM,show((m+1:Nat):Int)-1=(m:Int)by omega,zb,yB,zf,vB (by omega)];by_cases h0:ci l m % p=0
   ·rw[iq h0,zb,yN,yF,zf,AK (by omega)];exact ih _ ⟨m,by omega,rfl,by rw[<-b8 (f:=fun k=>ci l k % p) h0,hg]⟩ (by rw[zF,zF];omega)
   ·rw[ir h0];unfold pm nl;rw[<-hg,cP (f:=fun k=>ci l k % p) h0]
 ·refine zC (fun s:Int×List Int=> ∃i:Nat,i<=l.length/\s=((i:Int),zl l.length (fun k=>if k<i then ci l k % p else 0))) (fun s=>l.length-s.1.toNat) _ ?_ _ _ ⟨0,xaj _,by rw[ym (g:=fun k=>if k<0 then ci l k % p else 0) (fun k _=>by rw[zx])];rfl⟩ (by show l.length-0<fu;omega);rintro s L ⟨i,hi,rfl⟩ ih;unfold JC;simp only;by_cases h:i<l.length
  ·rw[zM,zp h,zf,Zg,za (uC h1 h2 (hr i)),zp (by rw[zF];exact h),zf,jQ,zb];refine ih _ ⟨i+1,by omega,?_⟩ (by show l.length-((i:Int)+1).toNat<l.length-(i:Int).toNat;omega);congr 1;refine ym fun k hk=> ?_;unfold uK;by_cases e:k=i
   ·rw[iq e,zM,e]
   ·rw[ir e];show(if k<i then ci l k % p else 0)=_;by_cases e2:k<i
    ·rw[iq e2,zM]
    ·rw[ir e2,zx]
  ·rw[zx];congr 1;exact ym fun k hk=>by rw[zM]
end
section
variable{f g:Pz}{p:Int}{fu:Nat}{a b:List Int}
def sh(g:Pz)(i k:Nat):Int:=if i<=k then g (k-i)else 0
def pQ(f g:Pz)(n k:Nat):Int:=zU n (fun i=>f i*sh g i k)
theorem bN{n:Nat}(hf: ∀k,n<=k->f k=0)(k:Nat):pQ f g n k=(f*g) k:=by
 have e1:=Av (f:=fun i=>f i*sh g i k) (n:=n) (fun i hi=>by rw[hf i hi,xaU]) (k+1);have e2:=Av (f:=fun i=>f i*sh g i k) (n:=k+1) (fun i hi=>by unfold sh;rw[zx,xat]) n;rw[xdz]at e2;unfold pQ;rw[<-e1,e2,xr];exact zT fun i hi=>by unfold sh;rw[zM]
theorem FI(a b:List Zr)(k:Nat): ∀n,Xc a b n k=pQ (cf a) (cf b) n k
 |0=>rfl
 |n+1=>by
  show Xc a b n k+cf a n*HD b n k=pQ (cf a) (cf b) n k+cf a n*sh (cf b) n k;rw[FI a b k n];rfl
theorem q8(a b:List Zr):cf (yQ a b)=(cf a:Pz)*cf b:=by
 funext k;rw[MB,FI,bN fun j hj=>yb hj]
def cY(f g:Pz)(i j k:Nat):Int:=pQ f g i k+if i<=k/\k<i+j then f i*g (k-i)else 0
theorem sL(f g:Pz)(i k:Nat):cY f g i 0 k=pQ f g i k:=by
 unfold cY;rw[zx,xbx]
theorem sW{n:Nat}(hg: ∀k,n<=k->g k=0)(i k:Nat):cY f g i n k=pQ f g (i+1) k:=by
 show _=pQ f g i k+f i*sh g i k;unfold cY sh;congr 1;by_cases h:i<=k
 ·rw[iq h];by_cases h2:k<i+n
  ·rw[if_pos ⟨h,h2⟩]
  ·rw[ir (fun e=>h2 e.2),hg _ (by omega),xat]
 ·rw[ir (fun e=>h e.1),ir h,xat]
theorem sA(f g:Pz)(p:Int)(i j k:Nat):uK (fun k=>cY f g i j k % p) (i+j) ((cY f g i j (i+j) % p+f i*g j) % p) k=cY f g i (j+1) k % p:=by
 unfold uK;by_cases h:k=i+j
 ·subst h;rw[iq rfl,Int.emod_add_emod];unfold cY;rw[zx,if_pos ⟨by omega,by omega⟩,show i+j-i=j by omega,xbx]
 ·rw[ir h];show cY f g i j k % p=_;unfold cY;congr 2;by_cases h2:i<=k/\k<i+j
  ·rw[iq h2,if_pos ⟨h2.1,by omega⟩]
  ·rw[ir h2,zx]
def y4(p:Int)(a b:List Int):List Int:=nl (a.length+b.length) (fun k=>(ci a*ci b) k % p)
theorem qk{n m:Nat}(hf: ∀k,n<=k->f k=0)(hg: ∀k,m<=k->g k=0){k:Nat}(h:n+m<=k+1):(f*g) k=0:=by
 rw[xr];refine yT fun i hi=> ?_;by_cases h1:i<n
 ·rw[hg (k-i) (by omega),xat]
 ·rw[hf i (by omega),xaU]
theorem Q6(p:Int)(a b:List Int)(k:Nat):ci (y4 p a b) k=(ci a*ci b) k % p:=mU (fun k hk=>by rw[qk (fun j hj=>zP hj) (fun j hj=>zP hj) (by omega),xag]) k
theorem ki(p:Int)(a b:List Int):Cg p (ci (y4 p a b)) (ci a*ci b):=fun k=>by rw[Q6,xaC]
theorem vG(hp:0<p)(a b:List Int):Fp p (y4 p a b):=⟨fun k=>by rw[Q6];exact(yg hp).1,fun k=>by rw[Q6];exact(yg hp).2,gf _ _⟩
theorem qj(p:Int)(a b:List Int):(y4 p a b).length<=a.length+b.length:=tn _ _
theorem YV{x y:Int}(h2:p<=65521)(hx:0<=x)(ha:x<p)(hy:0<=y)(hb:y<p):0<=x*y/\x*y<=4293001441:=by
 refine⟨xcy hx hy,?_⟩;have h1:x*y<=65521*y:=xbD (by omega) hy;omega
theorem xY(h1:1<=p)(h2:p<=65521)(ha:Fp p a)(hb:Fp p b)(hc:a.length<=100000)(hd:b.length<=100000)(hf:3000000<=fu):xO fu a b p=some (y4 p a b):=by
 unfold xO;obtain⟨n,hn⟩: ∃n,n=a.length+b.length:=⟨_,rfl⟩;rw[zb,show(a.length:Int)+(b.length:Int)=(n:Int)by omega,yN,yF,zf,Je,za (v:=zl n (fun k=>pQ (ci a) (ci b) a.length k % p))]
 ·have hz: ∀k,n<=k->pQ (ci a) (ci b) a.length k % p=0:=fun k hk=>by rw[bN (fun j hj=>zP hj),qk (fun j hj=>zP hj) (fun j hj=>zP hj) (by omega),xag]
  have hr:Rl (zl n (fun k=>pQ (ci a) (ci b) a.length k % p)):=fun k=>by
   rw[uh hz];have:=yg (a:=pQ (ci a) (ci b) a.length k) (p:=p) (by omega);exact⟨by omega,by omega⟩
  rw[za (zE h1 h2 hr (by rw[zF];omega) hf)];congr 1;unfold pm y4;rw[zF,<-hn];exact oJ fun k hk=>by rw[qY hk,xaC,bN (fun j hj=>zP hj)]
 ·refine zC (fun s:Int×List Int=> ∃i:Nat,i<=a.length/\s=((i:Int),zl n (fun k=>pQ (ci a) (ci b) i k % p))) (fun s=>a.length-s.1.toNat) _ ?_ _ _ ⟨0,xaj _,by rw[ym (g:=fun k=>pQ (ci a) (ci b) 0 k % p) fun k _=>by show(0:Int)=0 % p;rw[xag]];rfl⟩ (by show a.length-0<fu;omega);rintro s L ⟨i,hi,rfl⟩ ih;unfold W6;simp only;by_cases h3:i<a.length
  ·rw[zM,za rfl];simp only[if_true];rw[zp h3,zf,za (v:=zl n (fun k=>pQ (ci a) (ci b) (i+1) k % p)),zb]
   ·exact ih _ ⟨i+1,by omega,rfl⟩ (by show a.length-((i:Int)+1).toNat<a.length-(i:Int).toNat;omega)
   ·refine zC (fun s:Int×List Int=> ∃j:Nat,j<=b.length/\s=((j:Int),zl n (fun k=>cY (ci a) (ci b) i j k % p))) (fun s=>b.length-s.1.toNat) _ ?_ _ _ ⟨0,xaj _,by rw[ym fun k _=>by rw[<-sL]];rfl⟩ (by show b.length-0<fu;omega);rintro s L2 ⟨j,hj,rfl⟩ ih2;unfold Vh;simp only;by_cases h4:j<b.length
    ·rw[zM,za rfl];simp only[if_true];have e:(i:Int)+(j:Int)=((i+j:Nat):Int):=by omega
     have r1:=yg (a:=cY (ci a) (ci b) i j (i+j)) (p:=p) (by omega);obtain⟨r2,r3⟩:=YV h2 (ha.nn i) (ha.lt i) (hb.nn j) (hb.lt j);rw[zp h4,zf,e,zb,zb,zp (by rw[zF];omega),zf,vB (by omega),Zg,Zg,zb,zb,yF,zf,kZ (by omega),zp (by rw[zF];omega),zf,jQ,zb];exact ih2 _ ⟨j+1,by omega,by rw[ym fun k _=>sA (ci a) (ci b) p i j k];rfl⟩ (by show b.length-((j:Int)+1).toNat<b.length-(j:Int).toNat;omega)
    ·rw[zx,za rfl];simp only[xah,if_false];obtain rfl:j=b.length:=by omega
     rw[ym fun k _=>by rw[sW (fun k hk=>zP hk)]]
  ·rw[zx,za rfl];simp only[xah,if_false];obtain rfl:i=a.length:=by omega
   rfl
def ZB(p:Int)(a b:List Int)(c:Int):List Int:=nl (max a.length b.length) (fun k=>(ci a k+c*ci b k) % p)
theorem Aw(p:Int)(a b:List Int)(c:Int)(k:Nat):ci (ZB p a b c) k=(ci a k+c*ci b k) % p:=mU (fun k hk=>by rw[zP (by omega),zP (by omega),xat];exact xag _) k
theorem AQ(p:Int)(a b:List Int)(c:Int):Cg p (ci (ZB p a b c)) (ci a+pc c*ci b):=fun k=>by rw[Aw,xaC,zI,zQ]
theorem QZ(hp:0<p)(a b:List Int)(c:Int):Fp p (ZB p a b c):=⟨fun k=>by rw[Aw];exact(yg hp).1,fun k=>by rw[Aw];exact(yg hp).2,gf _ _⟩
theorem lH(p:Int)(a b:List Int)(c:Int):(ZB p a b c).length<=max a.length b.length:=tn _ _
theorem zfF{n:Nat}(h:a.length<=n):S9 (xae n 0) a=zl n (ci a):=by
 unfold S9;rw[xaT,xcX h,xcR,List.drop_replicate];refine xeI (by rw[xau,xaT,zF];omega) fun j h1 h2=> ?_;have h3:=qY (n:=n) (f:=ci a) (j:=j) (by rw[zF]at h2;exact h2);have e:(a++xae (n-a.length) 0).getD j 0=a.getD j 0:=by
  rw[UV,List.getElem?_append];by_cases hj:j<a.length
  ·rw[iq hj,<-UV]
  ·rw[ir hj,Zg,zP (by omega),xeV];split<;>rfl
 have h4:(zl n (ci a)).getD j 0=a.getD j 0:=h3;rw[<-h4,UV,UV,IR h1,IR h2]at e;exact e
theorem WM{c:Int}(h1:1<=p)(h2:p<=65521)(ha:Fp p a)(hb:Fp p b)(hc:0<=c)(hd:c<p)(hg:a.length<=100000)(hj:b.length<=100000)(hf:3000000<=fu):uy fu a b c p=some (ZB p a b c):=by
 unfold uy;obtain⟨n,hn⟩: ∃n,n=max a.length b.length:=⟨_,rfl⟩;have hz: ∀k,n<=k->ci a k+c*ci b k=0:=fun k hk=>by rw[zP (by omega),zP (by omega),xat];rfl
 have he: ∀k,0<=ci a k+c*ci b k/\ci a k+c*ci b k<=4293066962:=fun k=>by
  obtain⟨r2,r3⟩:=YV h2 hc hd (hb.nn k) (hb.lt k);have:=ha.nn k;have:=ha.lt k;omega
 rw[zf,show max (a.length:Int) (b.length:Int)=(n:Int)by omega,yN,yF,zf,zf,zfF (by omega),za (v:=zl n (fun k=>ci a k+c*ci b k))]
 ·have hr:Rl (zl n (fun k=>ci a k+c*ci b k)):=fun k=>by
   rw[uh hz];have:=he k;exact⟨by omega,by omega⟩
  rw[za (zE h1 h2 hr (by rw[zF];omega) hf)];congr 1;unfold pm ZB;rw[zF,<-hn];exact oJ fun k hk=>by rw[qY hk]
 ·refine zC (fun s:Int×List Int=> ∃i:Nat,i<=b.length/\s=((i:Int),zl n (fun k=>ci a k+if k<i then c*ci b k else 0))) (fun s=>b.length-s.1.toNat) _ ?_ _ _ ⟨0,xaj _,by rw[ym (f:=ci a) (g:=fun k=>ci a k+if k<0 then c*ci b k else 0) fun k _=>by rw[zx,xbx]];rfl⟩ (by show b.length-0<fu;omega);rintro s L ⟨i,hi,rfl⟩ ih;unfold Ux;simp only;by_cases h3:i<b.length
  ·rw[zM,za rfl];simp only[if_true];obtain⟨r2,r3⟩:=YV h2 hc hd (hb.nn i) (hb.lt i);have:=ha.nn i;have:=ha.lt i;rw[zp h3,zf,zp (by rw[zF];omega),zf,vB (by omega),ir (Nat.lt_irrefl i),xbx,Zg,zb,zb,zp (by rw[zF];omega),zf,jQ,zb];refine ih _ ⟨i+1,by omega,?_⟩ (by show b.length-((i:Int)+1).toNat<b.length-(i:Int).toNat;omega);congr 1;refine ym fun k hk=> ?_;unfold uK;by_cases e:k=i
   ·rw[iq e,zM,e]
   ·rw[ir e];show ci a k+(if k<i then c*ci b k else 0)=_;by_cases e2:k<i
    ·rw[iq e2,zM]
    ·rw[ir e2,zx]
  ·rw[zx,za rfl];simp only[xah,if_false];congr 1;refine ym fun k hk=> ?_;by_cases e2:k<i
   ·rw[iq e2]
   ·rw[ir e2,zP (l:=b) (by omega),xat]
end
section
variable{p a fu:Nat}
theorem Ue(hp:2<=p)(h:vF p)(h0:0<a)(h1:a<p):xee p a=1:=by
 obtain⟨g,hg⟩: ∃g,g=xee p a:=⟨_,rfl⟩;have d1:g∣p:=by rw[hg];exact Nat.gcd_dvd_left _ _
 have d2:g∣a:=by rw[hg];exact Nat.gcd_dvd_right _ _
 have hc:g<=a:=Nat.le_of_dvd h0 d2;have ha:0<g:=Nat.pos_of_dvd_of_pos d1 (by omega);rw[<-hg];refine xcO (xbw fun h2=> ?_) ha;by_cases hs:g*g<=p
 ·exact h g (by omega) hs (Nat.mod_eq_zero_of_dvd d1)
 ·obtain⟨d,hd⟩:=d1;have he:d<g:=by
   refine xdI fun h3=>hs ?_;rw[hd];exact xaJ _ h3
  have hb:2<=d:=by
   refine xbw fun h3=> ?_;have:d=0\/d=1:=by omega
   rcases this with e|e
   ·rw[e,xdi]at hd;omega
   ·rw[e,xcD]at hd;omega
  refine h d hb ?_ ?_
  ·rw[hd];exact xas _ (by omega)
  ·rw[hd];exact Nat.mul_mod_left _ _
theorem jL{p:Int}(hp:wB p=true)(hf:400<fu):wg fu p=some 0:=by
 unfold wg;rw[za (Yl hf),hp];rfl
structure IvI(p a:Nat)(r0 r1:Nat)(t0 t1:Int):Prop where
 lt:r1<r0
 two:2<=r0
 le:r0<=p
 c0:(p:Int)∣(r0:Int)-t0*a
 c1:(p:Int)∣(r1:Int)-t1*a
 g:xee r0 r1=1
 s: ∃u0 u1:Nat,((t0=u0/\t1= -u1)\/(t0= -u0/\t1=u1))/\r0*u1+r1*u0=p
theorem IvI.step{r0 r1:Nat}{t0 t1:Int}(h:IvI p a r0 r1 t0 t1)(h2:2<=r1):IvI p a r1 (r0 % r1) t1 (t0-((r0/r1:Nat):Int)*t1)/\(((r0/r1:Nat):Int)*t1).natAbs<=p/\(t0-((r0/r1:Nat):Int)*t1).natAbs<=p:=by
 have hd:=xbC r0 r1;have hf:=xbp r0 (show 0<r1 by omega);obtain⟨u0,u1,hs,he⟩:=h.s;generalize hq:r0/r1=q at*
 generalize hr:r0 % r1=r2 at*
 have hg:=h.le;have hi:=h.lt;have e1:r1*(u0+q*u1)+r2*u1=p:=by
  rw[xbm,<-xbd];have:r0*u1=r1*q*u1+r2*u1:=by rw[<-xaV,hd]
  omega
 have hb:u0+q*u1<=p:=by
  have h3:1*(u0+q*u1)<=r1*(u0+q*u1):=xas _ (by omega);omega
 have ha:((q*u1:Nat):Int)=(q:Int)*(u1:Int):=by simp
 have hc:((t1=u1/\t0-(q:Int)*t1= -((u0+q*u1:Nat):Int))\/(t1= -u1/\t0-(q:Int)*t1=((u0+q*u1:Nat):Int)))/\((q:Int)*t1).natAbs<=p:=by
  rcases hs with⟨a1,a2⟩|⟨a1,a2⟩
  ·rw[a1,a2,xes,<-ha];exact⟨.inr ⟨rfl,by omega⟩,by omega⟩
  ·rw[a1,a2,<-ha];exact⟨.inl ⟨rfl,by omega⟩,by omega⟩
 refine⟨⟨hf,h2,by omega,h.c1,?_,?_,u1,u0+q*u1,hc.1,e1⟩,hc.2,by rcases hc.1 with⟨_,e⟩|⟨_,e⟩<;>omega⟩
 ·have h3:=xdo h.c0 (xbB h.c1 (xcK (q:Int) _));have e2:(r0:Int)-t0*a-(q:Int)*((r1:Int)-t1*a)=(r2:Int)-(t0-(q:Int)*t1)*a:=by
   rw[Int.mul_sub,xfK,xbG];have:(r0:Int)=(r1:Int)*(q:Int)+(r2:Int):=by rw[<-hd];simp
   rw[this,xbi (r1:Int)];omega
  rw[e2]at h3;exact h3
 ·have h3:=h.g;rw[<-hr,xeu,<-Nat.gcd_rec,xeu];exact h3
theorem O0(hp:p<=65521)(hf:70000<fu){t:Int}: ∀{r0 r1:Nat} {t0 t1:Int},IvI p a r0 r1 t0 t1-> ∀n,r1<n-> ∃x:Int,zj (aH fu) n ((r0:Int),(r1:Int),t0,t1)=some (.inl x)/\(p:Int)∣1-x*a/\x.natAbs<=p:=by
 intro r0 r1
 induction r1 using xdq generalizing r0 with
 |_ r1 ih=>
  intro t0 t1 h n hn;obtain⟨n,rfl⟩: ∃k,n=k+1:=⟨n-1,by omega⟩;rw[qN];unfold aH;simp only;have hb:=h.lt;have ha:=h.two;have hc:=h.le;by_cases h0:r1=0
  ·have:=h.g;rw[h0,Nat.gcd_zero_right]at this;omega
  ·rw[zx];by_cases h1:r1=1
   ·rw[zM];refine⟨t1,rfl,?_,?_⟩
    ·have:=h.c1;rw[h1]at this;exact this
    ·obtain⟨u0,u1,hs,he⟩:=h.s;have h3:1*u1<=r0*u1:=xas _ (by omega);rcases hs with⟨_,e⟩|⟨_,e⟩<;>omega
   ·obtain⟨s1,s2,s3⟩:=h.step (by omega);have e1:xda (r0:Int) (r1:Int)=((r0/r1:Nat):Int):=rfl;have hd:=xbC r0 r1;have e2:((r0/r1:Nat):Int)*(r1:Int)=((r1*(r0/r1):Nat):Int):=by rw[xbi];simp
    have hg:((r0/r1:Nat):Int)<=(r0:Int):=Int.ofNat_le.2 (xdV _ _);have hi:(0:Int)<=((r0/r1:Nat):Int):=xdb _;rw[zx,yF,e1,zb,e2,zb,show(r0:Int)-((r1*(r0/r1):Nat):Int)=((r0 % r1:Nat):Int)by omega,zb,zb,zb];exact ih (r0 % r1) (xbp _ (by omega)) s1 n (by have:=xbp r0 (show 0<r1 by omega);omega)
theorem Vj{p a:Int}(hp:wB p=true)(h0:0<a)(h1:a<p)(hf:3000000<=fu): ∃x,YQ fu a p=some (x,0)/\0<=x/\x<p/\(x*a) % p=1:=by
 obtain⟨p1,p2⟩:=zo hp;have ha:vF p.toNat:=by
  refine xaf fun h=> ?_;rw[da (fun e=>h e.2.2)]at hp;exact absurd hp (by decide)
 obtain⟨P,rfl⟩:=xaB (show 0<=p by omega);obtain⟨A,rfl⟩:=xaB (show 0<=a by omega);have hI:IvI P A P A 0 1:=⟨by omega,by omega,xac _,by rw[xaU,xcB];exact xdN _,by rw[xbY,xcV];exact xcJ _,Ue (by omega) ha (by omega) (by omega),0,1,.inr ⟨rfl,rfl⟩,by omega⟩;obtain⟨x,k1,k2,k3⟩:=O0 (fu:=fu) (t:=0) (show P<=65521 by omega) (by omega) hI fu (by omega);have hr:=yg (a:=x) (p:=(P:Int)) (by omega);refine⟨x % P,?_,hr.1,hr.2,?_⟩
 ·unfold YQ;rw[za (jL hp (by omega)),iq rfl,za (uC (by omega) (by omega) ⟨by omega,by omega⟩),xaz (a:=(A:Int)) (by omega) (by omega),za k1];simp only;rw[za (uC (by omega) (by omega) ⟨by omega,by omega⟩)]
 ·rw[xbq,xaC,<-xbq];have:=xaH.2 (xax k2);rw[<-this];exact xaz (by decide) (by omega)
end
section
variable{p x:Int}{fu i qn:Nat}{a b:List Int}{R Q:Pz}
theorem yA{α β:Type}{f:(β->Option α)->β->Option α}(I:β->Prop)(m:β->Nat)(Q:α->Prop)
 (step: ∀s L,I s->(∀s',I s'->m s'<m s-> ∃r,L s'=some r/\Q r)-> ∃r,f L s=some r/\Q r): ∀(n:Nat) (s:β),I s->m s<n-> ∃r,zj f n s=some r/\Q r
 |0,s,_,h=>absurd h (xbv _)
 |n+1,s,hI,h=>step s _ hI fun s' ha hm=>yA I m Q step n s' ha (by omega)
theorem xQ{f:Nat->Int}{i:Nat}(h: ∀k,k≠i->f k=0): ∀n,zU n f=if i<n then f i else 0
 |0=>by rw[ir (xbv _)];rfl
 |n+1=>by
  show zU n f+f n=_;rw[xQ h n];by_cases h1:i<n
  ·rw[iq h1,zM,h n (by omega),xbx]
  ·rw[ir h1,xcA];by_cases h2:n=i
   ·rw[zM,h2]
   ·rw[zx,h n h2]
theorem YS(i:Nat)(c:Int)(g:Pz)(k:Nat):((mono i c:Pz)*g) k=c*sh g i k:=by
 rw[xr,xQ (i:=i) fun j hj=>by show mono i c j*_=0;unfold mono;rw[ir hj,xaU]];unfold sh;by_cases h:i<=k
 ·rw[zM,iq h];unfold mono;rw[iq rfl]
 ·rw[zx,ir h,xat]
theorem vW(x:Int):ci [x]=pc x:=by
 funext k
 cases k with
 |zero=>rfl
 |succ k=>exact zP (by simp)
theorem ZQ(h0:0<x)(h1:x<p):Fp p [x]:=⟨fun k=>by rw[vW];unfold pc;split<;>omega,fun k=>by rw[vW];unfold pc;split<;>omega,.inr (by show x≠0;omega)⟩
theorem HL(h:0<p):Fp p []:=⟨fun k=>by rw[zP (xaj _)];omega,fun k=>by rw[zP (xaj _)];exact h,.inl rfl⟩
theorem Lu{c:Int}(h:0<=x)(hx:(x*c) % p=1):0<x:=by
 rcases Int.lt_or_eq_of_le h with h|h
 ·exact h
 ·rw[<-h,xaU,xag]at hx;cases hx
theorem Vr{c:Int}(hp:wB p=true)(ha:Fp p a)(h0:0<c)(h1:c<p)(hb:a.length<=90000)(hf:3000000<=fu): ∃x,0<x/\x<p/\(x*c) % p=1/\YQ fu c p=some (x,0)/\vi fu a c p=some (y4 p a [x]):=by
 obtain⟨p1,p2⟩:=zo hp;obtain⟨x,e1,e2,e3,e4⟩:=Vj hp h0 h1 hf;have hx:=Lu e2 e4;refine⟨x,hx,e3,e4,e1,?_⟩;unfold vi;rw[za e1];simp only;rw[za (xY (by omega) p2 ha (ZQ hx e3) (by omega) (by simp) hf)]
def Uv(R g:Pz)(p c:Int)(i j:Nat):Pz:=fun k=>if i<=k/\k<i+j then(R k+(p-c)*g (k-i)) % p else R k
theorem Nx(R g:Pz)(p c:Int)(i j k:Nat):uK (Uv R g p c i j) (i+j) ((R (i+j)+(p-c)*g j) % p) k=Uv R g p c i (j+1) k:=by
 unfold uK;by_cases h:k=i+j
 ·subst h;rw[iq rfl];unfold Uv;rw[if_pos ⟨by omega,by omega⟩,show i+j-i=j by omega]
 ·rw[ir h];unfold Uv;by_cases h2:i<=k/\k<i+j
  ·rw[iq h2,if_pos ⟨h2.1,by omega⟩]
  ·rw[ir h2,zx]
theorem Oh{g:Pz}{c:Int}{n:Nat}(hR: ∀k,R k % p=R k)(hg: ∀k,n<=k->g k=0)(k:Nat):Uv R g p c i n k % p=(R k-c*sh g i k) % p:=by
 unfold Uv sh;by_cases h:i<=k/\k<i+n
 ·rw[iq h,iq h.1,xaC,xfK];refine xaH.2 (xax ⟨g (k-i),?_⟩);omega
 ·rw[ir h];by_cases h2:i<=k
  ·rw[iq h2,hg _ (by omega),xat,xcB]
  ·rw[ir h2,xat,xcB]
theorem Nv{n:Nat}{c:Int}(h1:1<=p)(h2:p<=65521)(hb:Fp p b)(hR: ∀k,0<=R k/\R k<p)(hc:0<=c)(ha:c<p)(hd:i+b.length<=n)(hn:n<=100000)(hf:3000000<=fu):
 zj (Zk fu b (i:Int) c) fu (b,p,x,0,zl n R,zl qn Q)=some (b,p,x,zl n (Uv R (ci b) p c i b.length),zl qn Q):=by
 refine zC (fun s:List Int×Int×Int×Int×List Int×List Int=> ∃j:Nat,j<=b.length/\s=(b,p,x,(j:Int),zl n (Uv R (ci b) p c i j),zl qn Q)) (fun s=>b.length-s.2.2.2.1.toNat) _ ?_ _ _ ⟨0,xaj _,by rw[ym (f:=R) (g:=Uv R (ci b) p c i 0) fun k _=>by unfold Uv;rw[zx]];rfl⟩ (by show b.length-0<fu;omega);rintro s L ⟨j,hj,rfl⟩ ih;unfold Zk;simp only;by_cases h3:j<b.length
 ·rw[zM,za rfl];simp only[if_true];have e:(i:Int)+(j:Int)=((i+j:Nat):Int):=by omega
  have e2:Uv R (ci b) p c i j (i+j)=R (i+j):=by unfold Uv;rw[zx]
  obtain⟨r1,r2⟩:=hR (i+j);have r3:0<=(p-c)*ci b j:=xcy (by omega) (hb.nn j);have r4:(p-c)*ci b j<=65521*ci b j:=xbD (by omega) (hb.nn j);have r5:=hb.lt j;rw[zp h3,zf,e,zb,zb,zp (by rw[zF];omega),zf,vB (by omega),Zg,e2,zb,zb,zb,yF,zf,kZ (by omega),zp (by rw[zF];omega),zf,jQ,zb];exact ih _ ⟨j+1,by omega,by rw[ym fun k _=>Nx R (ci b) p c i j k];rfl⟩ (by show b.length-((j:Int)+1).toNat<b.length-(j:Int).toNat;omega)
 ·rw[zx,za rfl];simp only[xah,if_false];obtain rfl:j=b.length:=by omega
  rfl
structure FdI(p:Int)(a b:List Int)(qn i:Nat)(R Q:Pz):Prop where
 hi:i<=qn
 rr: ∀k,0<=R k/\R k<p
 qr: ∀k,0<=Q k/\Q k<p
 rz: ∀k,i+(b.length-1)<=k->R k=0
 ql: ∀k,k<i->Q k=0
 qz: ∀k,qn<=k->Q k=0
 cg:Cg p (ci a) (Q*ci b+R)
theorem FdI.step(h1:1<=p)(h:FdI p a b qn (i+1) R Q)(hb:0<b.length)(hx:(x*ci b (b.length-1)) % p=1):
 FdI p a b qn i (Uv R (ci b) p (R (i+(b.length-1))*x % p) i b.length) (uK Q i (R (i+(b.length-1))*x % p)):=by
 obtain⟨c,hc⟩: ∃c,c=R (i+(b.length-1))*x % p:=⟨_,rfl⟩;have hi:=h.hi;have he:=yg (a:=R (i+(b.length-1))*x) (p:=p) (by omega);rw[<-hc]at he⊢;have hf: ∀k,R k % p=R k:=fun k=>xaz (h.rr k).1 (h.rr k).2;have ha:=Oh (g:=ci b) (c:=c) (i:=i) (n:=b.length) hf (fun k hk=>zP hk);have hd: ∀k,0<=Uv R (ci b) p c i b.length k/\Uv R (ci b) p c i b.length k<p:=fun k=>by
  unfold Uv;split
  ·exact yg (by omega)
  ·exact h.rr k
 have hg: ∀k,uK Q i c k=(Q+(mono i c:Pz)) k:=fun k=>by
  rw[zI];unfold uK mono;by_cases hk:k=i
  ·rw[iq hk,iq hk,h.ql k (by omega),xcA]
  ·rw[ir hk,ir hk,xbx]
 refine⟨by omega,hd,fun k=> ?_,fun k hk=> ?_,fun k hk=> ?_,fun k hk=> ?_,?_⟩
 ·unfold uK;split
  ·exact he
  ·exact h.qr k
 ·have h3:=xaz (hd k).1 (hd k).2;rw[<-h3,ha];by_cases hj:k=i+(b.length-1)
  ·unfold sh;rw[zM,show k-i=b.length-1 by omega,hc,hj,Int.sub_emod,xbq,xaC,<-xbq,xbG,xbq _ (x*_),hx,xce,xaC,<-Int.sub_emod,xcV,xag]
  ·unfold sh;rw[h.rz k (by omega),zM,zP (l:=b) (by omega),xat,xcB,xag]
 ·unfold uK;rw[zx];exact h.ql k (by omega)
 ·unfold uK;rw[zx];exact h.qz k hk
 ·refine h.cg.trans fun k=> ?_;rw[show uK Q i c=Q+(mono i c:Pz)from funext hg,yo,zI,zI,zI,YS,xdM (_+_),ha,<-xdM];congr 1;omega
theorem xb(hp:wB p=true)(ha:Fp p a)(hb:Fp p b)(he:0<b.length)(hr:a.length<=90000)(hs:b.length<=90000)(hf:3000000<=fu):
 ∃q r,xe fu a b p=some (q,r)/\Fp p q/\Fp p r/\Cg p (ci a) (ci q*ci b+ci r)/\r.length<b.length/\q.length<=a.length:=by
 obtain⟨p1,p2⟩:=zo hp;unfold xe;rw[qZ (by simp;omega),zf,xbE,zb];by_cases hl:a.length<b.length
 ·rw[zM];refine⟨[],a,rfl,HL (by omega),ha,Cg.of ?_,hl,xaj _⟩;funext k;rw[zI,show ci []=pc 0 from funext fun j=>by rw[zP (xaj _),zK],yc,zK,xcA]
 ·obtain⟨qn,hq⟩: ∃qn,qn=a.length-b.length+1:=⟨_,rfl⟩;have ho:ci b (b.length-1)≠0:=by
   rcases hb.nl with h|h
   ·omega
   ·exact h
  have t1:=hb.nn (b.length-1);have t2:=hb.lt (b.length-1);obtain⟨x,e1,e2,e3,e4⟩:=Vj (fu:=fu) hp (show 0<ci b (b.length-1)by omega) t2 hf;have c1:(b.length:Int)-1=((b.length-1:Nat):Int):=by omega
  have c2:(a.length:Int)-(b.length:Int)+1=(qn:Int):=by omega
  rw[zx,c1,zb,yB,zf,Zg,za e1];simp only;rw[zb,c2,yN,yF,zf]
  have hc:=yA (f:=Zt fu b p x) (fun s:Int×List Int×List Int=> ∃(i:Nat) (R Q:Pz),s=((i:Int)-1,zl a.length R,zl qn Q)/\FdI p a b qn i R Q) (fun s=>(s.1+1).toNat)
   (fun r=> ∃R Q:Pz,r=(zl a.length R,zl qn Q)/\FdI p a b qn 0 R Q) (by
    rintro s L ⟨i,R,Q,rfl,h⟩ ih;unfold Zt;simp only
    cases i with
    |zero=>
     rw[zx];exact⟨_,rfl,R,Q,rfl,h⟩
    |succ i=>
     have hi:=h.hi;obtain⟨r1,r2⟩:=h.rr (i+(b.length-1));obtain⟨r3,r4⟩:=YV p2 r1 r2 e2 e3;have hd:=yg (a:=R (i+(b.length-1))*x) (p:=p) (by omega);rw[show((i+1:Nat):Int)-1=(i:Int)by omega,zM,zb,show(i:Int)+(b.length:Int)-1=((i+(b.length-1):Nat):Int)by omega,zb,zp (by rw[zF];omega),zf,vB (by omega),zb,yF,zf,kZ r3,zp (by rw[zF];omega),zf,jQ,za (Nv (by omega) p2 hb h.rr hd.1 hd.2 (by omega) (by omega) hf)];simp only;rw[zb];exact ih _ ⟨i,_,_,rfl,h.step (by omega) he e4⟩ (by show((i:Int)-1+1).toNat<(((i+1:Nat):Int)-1+1).toNat;omega))
   fu ((a.length:Int)-(b.length:Int),a,xae qn 0) ⟨qn,ci a,fun _=>0,by rw[Et,Je,show(a.length:Int)-(b.length:Int)=(qn:Int)-1 by omega],xac _,fun k=>⟨ha.nn k,ha.lt k⟩,fun k=>⟨xfl _,by omega⟩,fun k hk=>zP (by omega),fun k _=>rfl,fun k _=>rfl,Cg.of (by
    funext k;rw[zI,show((fun _=>0:Pz))=pc 0 from funext fun j=>(zK j).symm,yc,zK,xcA])⟩ (by show((a.length:Int)-(b.length:Int)+1).toNat<fu;omega)
  obtain⟨_,hg,R,Q,rfl,h⟩:=hc;rw[za hg];simp only;have hm:Rl (zl a.length R):=fun k=>by
   rw[uh fun j hj=>h.rz j (by omega)];have:=h.rr k;exact⟨by omega,by omega⟩
  have hn:Rl (zl qn Q):=fun k=>by
   rw[uh h.qz];have:=h.qr k;exact⟨by omega,by omega⟩
  rw[za (zE (by omega) p2 hn (by rw[zF];omega) hf),za (zE (by omega) p2 hm (by rw[zF];omega) hf)];refine⟨_,_,rfl,nY (by omega) _,nY (by omega) _,?_,?_,?_⟩
  ·refine h.cg.trans (Cg.add (Cg.mul (Cg.symm ((FZ p _).trans (Cg.of (funext (uh h.qz))))) Cg.rfl) (Cg.symm ((FZ p _).trans (Cg.of (funext (uh fun j hj=>h.rz j (by omega)))))))
  ·have:=(nY (p:=p) (by omega) (zl a.length R)).nl.le (n:=b.length-1) fun k hk=>by rw[tW,uh (fun j hj=>h.rz j (by omega)),h.rz k (by omega),xag]
   omega
  ·have:=ME p (zl qn Q);rw[zF]at this;omega
end
section
variable{p:Int}{fu N:Nat}{r0 s0 t0 r1 s1 t1 g h:List Int}{f:Pz}
theorem zer(f:Pz):Cg p (pc (p-1)*f) (-f):=fun k=>by
 rw[zQ,sK,xfK,xbY];refine xaH.2 (xax ⟨f k,?_⟩);omega
theorem Ql(a b:List Int):Cg p (ci (ZB p a b (p-1))) (ci a-ci b):=by
 refine(AQ p a b (p-1)).trans ?_;rw[dj];exact Cg.rfl.add (zer _)
theorem gW{S:Nat}(hp:wB p=true)(ha:Fp p r0)(hg:Fp p s0)(hj:Fp p t0)(hb:Fp p r1)(hk:Fp p s1)(hl:Fp p t1)(h0:0<r1.length)(l1:r0.length<=N)(l2:r1.length<=N)(l3:s0.length<=S)(l4:t0.length<=S)(l5:s1.length<=S)(l6:t1.length<=S)(hN:N<=9000)(hS:S<=90000)(hf:3000000<=fu):
 ∃q,Fp p q/\q.length<=N/\Cg p (ci r0) (ci q*ci r1+ci (ZB p r0 (y4 p q r1) (p-1)))/\(ZB p r0 (y4 p q r1) (p-1)).length<r1.length/\
  Zs fu [r0,s0,t0] [r1,s1,t1] p=some [ZB p r0 (y4 p q r1) (p-1),ZB p s0 (y4 p q s1) (p-1),ZB p t0 (y4 p q t1) (p-1)]:=by
 obtain⟨p1,p2⟩:=zo hp;obtain⟨q,r,e1,hq,hr,hc,hm,ht⟩:=xb (fu:=fu) hp ha hb h0 (by omega) (by omega) hf;have hd:ZB p r0 (y4 p q r1) (p-1)=r:=by
  refine Fp.ext (QZ (by omega) _ _ _) hr ((Ql r0 (y4 p q r1)).trans ?_);refine(hc.sub (ki p q r1)).trans (Cg.of ?_);funext k;simp only[zI,yC];omega
 refine⟨q,hq,by omega,by rw[hd];exact hc,by rw[hd];exact hm,?_⟩;unfold Zs;have f1:=qj p q r1;have f2:=qj p q s1;have f3:=qj p q t1;rw[show(0:Int)=((0:Nat):Int)from rfl,zp (by decide),zp (by decide),zf];show bd (xe fu r0 r1 p) _=_;rw[za e1];simp only;rw[za (v:=([ZB p r0 (y4 p q r1) (p-1),ZB p s0 (y4 p q s1) (p-1),ZB p t0 (y4 p q t1) (p-1)],xae 3 []))];obtain⟨n,hn⟩: ∃n,fu=n+4:=⟨fu-4,by omega⟩
 have step: ∀(L:List Int×Int×List (List Int)×List (List Int)->Option (List (List Int)×List (List Int))) (i:Nat) (x y z u:List Int) (ts:List (List Int)),i<3->ts.length=3->ts.getD i []=x->[r1,s1,t1].getD i []=y->Fp p x->Fp p y->x.length<=90000->y.length<=90000->
  jK fu [r1,s1,t1] p L (q,(i:Int),ts,xae 3 [])=L (q,((i+1:Nat):Int),ts.set i (ZB p x (y4 p q y) (p-1)),xae 3 []):=fun L i x y z u ts hi hu hx hy ho hs hv hw=>by
  unfold jK;simp only;have f4:=qj p q y;rw[zM,za rfl];simp only[if_true];rw[zp hi,zp hi,zf,hx,hy,za (xY (by omega) p2 hq hs (by omega) (by omega) hf),zb,za (WM (by omega) p2 ho (vG (by omega) _ _) (by omega) (by omega) (by omega) (by omega) hf),zp hi,zf,zb];rfl
 have he:zj (jK fu [r1,s1,t1] p) (n+4) (q,((0:Nat):Int),[r0,s0,t0],xae 3 [])=some ([ZB p r0 (y4 p q r1) (p-1),ZB p s0 (y4 p q s1) (p-1),ZB p t0 (y4 p q t1) (p-1)],xae 3 []):=by
  rw[qN,step _ 0 r0 r1 [] [] _ (by decide) rfl rfl rfl ha hb (by omega) (by omega),qN,step _ 1 s0 s1 [] [] _ (by decide) rfl rfl rfl hg hk (by omega) (by omega),qN,step _ 2 t0 t1 [] [] _ (by decide) rfl rfl rfl hj hl (by omega) (by omega),qN];unfold jK;simp only;rw[ir (by decide),za rfl];rfl
 rw[<-hn]at he;exact he
def Fs(f:Pz):Prop:= ∃n,∀k,n<=k->f k=0
theorem Fs.add{g:Pz}(hf:Fs f)(hg:Fs g):Fs (f+g):=by
 obtain⟨n,hn⟩:=hf;obtain⟨m,hm⟩:=hg;exact⟨n+m,fun k hk=>by rw[zI,hn k (by omega),hm k (by omega)];rfl⟩
theorem Fs.mul{g:Pz}(hf:Fs f)(hg:Fs g):Fs (f*g):=by
 obtain⟨n,hn⟩:=hf;obtain⟨m,hm⟩:=hg;exact⟨n+m,fun k hk=>qk hn hm (by omega)⟩
theorem Fs.pc(c:Int):Fs (pc c):=⟨1,fun k hk=>by unfold Go.Proofs.YtmggkmchbdanfaaGreat.pc;rw[zx]⟩
theorem Fs.ci(l:List Int):Fs (ci l):=⟨l.length,fun k hk=>zP hk⟩
theorem Fs.cf(l:List Zr):Fs (cf l):=⟨l.length,fun k hk=>yb hk⟩
structure BzR(p:Int)(g h d s t:List Int)(S:Nat):Prop where
 df:Fp p d
 sf:Fp p s
 tf:Fp p t
 cg:Cg p (ci d) (ci s*ci g+ci t*ci h)
 dv: ∃A C:Pz,Fs A/\Fs C/\Cg p (ci g) (A*ci d)/\Cg p (ci h) (C*ci d)
 dl:d.length<=S
 sl:s.length<=S
 tl:t.length<=S
structure BzI(p:Int)(g h r0 s0 t0 r1 s1 t1:List Int)(N:Nat):Prop where
 f0:Fp p r0
 g0:Fp p s0
 h0:Fp p t0
 f1:Fp p r1
 g1:Fp p s1
 h1:Fp p t1
 c0:Cg p (ci r0) (ci s0*ci g+ci t0*ci h)
 c1:Cg p (ci r1) (ci s1*ci g+ci t1*ci h)
 dv: ∃A B C D:Pz,Fs A/\Fs B/\Fs C/\Fs D/\Cg p (ci g) (A*ci r0+B*ci r1)/\Cg p (ci h) (C*ci r0+D*ci r1)
 l0:r0.length<=N
 l1:r1.length<=N
 b0:s0.length<=1+N*(N+1-r1.length)
 b1:t0.length<=1+N*(N+1-r1.length)
 b2:s1.length<=1+N*(N+1-r1.length)
 b3:t1.length<=1+N*(N+1-r1.length)
theorem BzI.step(hI:BzI p g h r0 s0 t0 r1 s1 t1 N)(hp:wB p=true)(hN:N<=290)(hr:0<r1.length)(hf:3000000<=fu):
 ∃r2 s2 t2,Zs fu [r0,s0,t0] [r1,s1,t1] p=some [r2,s2,t2]/\r2.length<r1.length/\BzI p g h r1 s1 t1 r2 s2 t2 N:=by
 obtain⟨p1,p2⟩:=zo hp;have hb:1+N*(N+1-r1.length)<=90000:=by
  have:N*(N+1-r1.length)<=290*290:=xbU hN (by omega);omega
 have hd:=hI.l0;have ha:=hI.l1;have hg:=hI.b0;have hi:=hI.b1;have hj:=hI.b2;have hk:=hI.b3;obtain⟨q,hq,hm,hc,hl,he⟩:=gW (fu:=fu) (S:=1+N*(N+1-r1.length)) hp hI.f0 hI.g0 hI.h0 hI.f1 hI.g1 hI.h1 hr hd ha hg hi hj hk (by omega) hb hf;refine⟨_,_,_,he,hl,hI.f1,hI.g1,hI.h1,QZ (by omega) _ _ _,QZ (by omega) _ _ _,QZ (by omega) _ _ _,hI.c1,?_,?_,ha,by omega,?_,?_,?_,?_⟩
 ·refine(Ql _ _).trans ((hI.c0.sub ((ki p q r1).trans (Cg.rfl.mul hI.c1))).trans ?_);refine Cg.trans (Cg.of ?_) (Cg.symm (((Ql s0 (y4 p q s1)).trans (Cg.rfl.sub (ki p q s1))).mul (Cg.rfl (f:=ci g))|>.add (((Ql t0 (y4 p q t1)).trans (Cg.rfl.sub (ki p q t1))).mul (Cg.rfl (f:=ci h)))));simp only[xB,yo,w7,w9,zd];funext k;simp only[zI,yC];omega
 ·obtain⟨A,B,C,D,z1,z2,z3,z4,d1,d2⟩:=hI.dv;refine⟨A*ci q+B,A,C*ci q+D,C,(z1.mul (Fs.ci q)).add z2,z1,(z3.mul (Fs.ci q)).add z4,z3,?_,?_⟩
  ·refine d1.trans (((Cg.rfl (f:=A)).mul hc|>.add Cg.rfl).trans (Cg.of ?_));simp only[xB,yo,zd];funext k;simp only[zI];omega
  ·refine d2.trans (((Cg.rfl (f:=C)).mul hc|>.add Cg.rfl).trans (Cg.of ?_));simp only[xB,yo,zd];funext k;simp only[zI];omega
 ·have:N*(N+1-r1.length)<=N*(N+1-(ZB p r0 (y4 p q r1) (p-1)).length):=xaJ _ (by omega);omega
 ·have:N*(N+1-r1.length)<=N*(N+1-(ZB p r0 (y4 p q r1) (p-1)).length):=xaJ _ (by omega);omega
 ·have h1:=lH p s0 (y4 p q s1) (p-1);have h2:=qj p q s1;have h3:N*(N+1-r1.length+1)<=N*(N+1-(ZB p r0 (y4 p q r1) (p-1)).length):=xaJ _ (by omega);rw[xbm,xcD]at h3;omega
 ·have h1:=lH p t0 (y4 p q t1) (p-1);have h2:=qj p q t1;have h3:N*(N+1-r1.length+1)<=N*(N+1-(ZB p r0 (y4 p q r1) (p-1)).length):=xaJ _ (by omega);rw[xbm,xcD]at h3;omega
theorem RA(hp:wB p=true)(hN:N<=290)(hf:3000000<=fu)(hI:BzI p g h r0 s0 t0 r1 s1 t1 N):
 ∃d s t,zj (kn fu p) fu ([r0,s0,t0],[r1,s1,t1])=some [d,s,t]/\BzR p g h d s t (1+N*(N+1)):=by
 obtain⟨r,e1,d,s,t,rfl,e3⟩:=yA (f:=kn fu p) (fun x:List (List Int)×List (List Int)=> ∃r0 s0 t0 r1 s1 t1,x=([r0,s0,t0],[r1,s1,t1])/\BzI p g h r0 s0 t0 r1 s1 t1 N) (fun x=>(x.2.getD 0 []).length) (fun r=> ∃d s t,r=[d,s,t]/\BzR p g h d s t (1+N*(N+1))) (by
  rintro x L ⟨r0,s0,t0,r1,s1,t1,rfl,hI⟩ ih;unfold kn;simp only;rw[show(0:Int)=((0:Nat):Int)from rfl,zp (by decide)];show∃r,(if((0:Nat):Int)<(r1.length:Int)then _ else _)=some r/\_;by_cases h0:0<r1.length
  ·obtain⟨r2,s2,t2,he,ha,hc⟩:=hI.step (fu:=fu) hp hN h0 hf;rw[zM,za he];exact ih _ ⟨_,_,_,_,_,_,rfl,hc⟩ ha
  ·rw[zx];have hz:ci r1=pc 0:=funext fun k=>by rw[zP (by omega),zK]
   have hb:1+N*(N+1-r1.length)<=1+N*(N+1):=by
    have:N*(N+1-r1.length)<=N*(N+1):=xaJ _ (by omega);omega
   have hd:=hI.l0;have hg:N*1<=N*(N+1):=xaJ _ (by omega);refine⟨_,rfl,r0,s0,t0,rfl,hI.f0,hI.g0,hI.h0,hI.c0,?_,by omega,xao hI.b0 hb,xao hI.b1 hb⟩;obtain⟨A,B,C,D,z1,z2,z3,z4,d1,d2⟩:=hI.dv;rw[hz,zg B,yc]at d1;rw[hz,zg D,yc]at d2;refine⟨A,C,z1,z3,d1.trans (Cg.of ?_),d2.trans (Cg.of ?_)⟩<;>funext k<;>rw[zI,zK,xbx]) fu ([r0,s0,t0],[r1,s1,t1]) ⟨_,_,_,_,_,_,rfl,hI⟩ (by have:=hI.l1;show r1.length<fu;omega)
 exact⟨d,s,t,e1,e3⟩
theorem jv(hp:wB p=true)(hg:Fp p g)(hh:Fp p h)(hs:g.length<=290)(ht:h.length<=290)(hf:3000000<=fu):
 ∃d s t,jI fu g h p=some (d,s,t,0)/\BzR p g h d s t (2+max g.length h.length*(max g.length h.length+1))/\(d.length=0\/ci d (d.length-1)=1):=by
 obtain⟨p1,p2⟩:=zo hp;unfold jI;rw[za (jL hp (by omega)),iq rfl,za (zE (by omega) p2 (hg.rl p2) (by omega) hf),za (zE (by omega) p2 (hh.rl p2) (by omega) hf),hg.pm,hh.pm];have z0:ci ([]:List Int)=pc 0:=funext fun k=>by rw[zP (xaj _),zK]
 have addz: ∀f:Pz,f+pc 0=f:=fun f=>funext fun k=>by rw[zI,zK,xbx]
 have zadd: ∀f:Pz,pc 0+f=f:=fun f=>funext fun k=>by rw[zI,zK,xcA]
 have hI:BzI p g h g [1] [] h [] [1] (max g.length h.length):=by
  refine⟨hg,ZQ (by decide) (by omega),HL (by omega),hh,HL (by omega),ZQ (by decide) (by omega),Cg.of ?_,Cg.of ?_,⟨pc 1,pc 0,pc 0,pc 1,Fs.pc 1,Fs.pc 0,Fs.pc 0,Fs.pc 1,Cg.of ?_,Cg.of ?_⟩,xeZ _ _,xeH _ _,xbI _ _,xaj _,xaj _,xbI _ _⟩
  ·rw[vW,z0,zy,yc,addz]
  ·rw[vW,z0,zy,yc,zadd]
  ·rw[zy,yc,addz]
  ·rw[zy,yc,zadd]
 obtain⟨d,s,t,e1,hR⟩:=RA (fu:=fu) hp (by omega) hf hI;have hS:max g.length h.length*(max g.length h.length+1)<=290*291:=xbU (by omega) (by omega);generalize max g.length h.length*(max g.length h.length+1)=S at*
 rw[za e1,show(0:Int)=((0:Nat):Int)from rfl,zp (by decide)];show∃d' s' t',bd (if((0:Nat):Int)<(d.length:Int)then some true else some false) _=_/\_;by_cases h0:0<d.length
 ·have hu:=hR.dl;have hr:ci d (d.length-1)≠0:=by
   rcases hR.df.nl with h|h
   ·omega
   ·exact h
  have t1:=hR.df.nn (d.length-1);have t2:=hR.df.lt (d.length-1);obtain⟨x,x1,x2,x3,x4,x5⟩:=Vr (fu:=fu) hp hR.df (show 0<ci d (d.length-1)by omega) t2 (by omega) hf;have sc: ∀{a:List Int},Fp p a->a.length<=90000->vi fu a (ci d (d.length-1)) p=some (y4 p a [x]):=fun{a} ha hl=>by
   unfold vi;rw[za x4];simp only;rw[za (xY (by omega) p2 ha (ZQ x1 x2) (by omega) (by simp) hf)]
  rw[zM,za rfl,iq rfl,zp (by decide)];show∃d' s' t',ze ((d.length:Int)-1) _=_/\_;rw[show(d.length:Int)-1=((d.length-1:Nat):Int)by omega,zb];show∃d' s' t',zG ((d.length-1:Nat):Int) d.length _=_/\_;rw[yB,zf];show∃d' s' t',bd (zj (wb fu p (ci d (d.length-1))) fu (((0:Nat):Int),[d,s,t])) _=_/\_;have hd:zj (wb fu p (ci d (d.length-1))) fu (((0:Nat):Int),[d,s,t])=some [y4 p d [x],y4 p s [x],y4 p t [x]]:=by
   obtain⟨n,hn⟩: ∃n,fu=n+4:=⟨fu-4,by omega⟩
   have step: ∀(L:Int×List (List Int)->Option (List (List Int))) (i:Nat) (y:List Int) (ts:List (List Int)),i<3->ts.getD i []=y->Fp p y->y.length<=90000->
    wb fu p (ci d (d.length-1)) L ((i:Int),ts)=L (((i+1:Nat):Int),ts.set i (y4 p y [x])):=fun L i y ts hi hy ho hq=>by
    unfold wb;simp only;rw[zM,zp hi,hy,za (sc ho hq),zp hi,zf,zb];rfl
   have hm:zj (wb fu p (ci d (d.length-1))) (n+4) (((0:Nat):Int),[d,s,t])=some [y4 p d [x],y4 p s [x],y4 p t [x]]:=by
    rw[qN,step _ 0 d _ (by decide) rfl hR.df (xao hR.dl (by omega)),qN,step _ 1 s _ (by decide) rfl hR.sf (xao hR.sl (by omega)),qN,step _ 2 t _ (by decide) rfl hR.tf (xao hR.tl (by omega)),qN];unfold wb;simp only;rw[ir (by decide)];rfl
   rw[<-hn]at hm;exact hm
  rw[za hd];have hb: ∀a:List Int,Cg p (ci (y4 p a [x])) (ci a*pc x):=fun a=>by
   have:=ki p a [x];rw[vW]at this;exact this
  have he:Cg p (pc x*pc (ci d (d.length-1))) (pc 1):=fun k=>by
   rw[jX];unfold pc;split
   ·rw[x3];exact(xaz (by decide) (by omega)).symm
   ·rfl
  have f1:=qj p d [x];have f2:=qj p s [x];have f3:=qj p t [x];have hv:=hR.sl;have hw:=hR.tl;simp only[xav,xcq]at f1 f2 f3;have hc: ∀k,ci (y4 p d [x]) k=(x*ci d k) % p:=fun k=>by rw[Q6,vW,zg,zQ]
  have hj:(y4 p d [x]).length=d.length:=by
   refine xcO ((vG (by omega) _ _).nl.le fun k hk=> ?_) (xbw fun hx=> ?_)
   ·rw[hc,zP hk,xat,xag]
   ·have h3:=hc (d.length-1);rw[x3,zP (by omega)]at h3;cases h3
  refine⟨y4 p d [x],y4 p s [x],y4 p t [x],rfl,⟨vG (by omega) _ _,vG (by omega) _ _,vG (by omega) _ _,?_,?_,by omega,by omega,by omega⟩,.inr ?_⟩
  ·refine(hb d).trans ((hR.cg.mul Cg.rfl).trans (Cg.trans (Cg.of ?_) (Cg.symm (((hb s).mul Cg.rfl).add ((hb t).mul Cg.rfl)))));simp only[xB,yo,zd,zg,zw]
  ·obtain⟨A,C,z1,z3,d1,d2⟩:=hR.dv;have key: ∀F:Pz,Cg p (F*ci d) (F*pc (ci d (d.length-1))*ci (y4 p d [x])):=fun F=>by
    refine Cg.symm ((Cg.rfl.mul (hb d)).trans (Cg.trans (Cg.of ?_) (((Cg.rfl (f:=F*ci d)).mul he).trans (Cg.of (zY _)))));simp only[zd,zg,zw]
   exact⟨_,_,z1.mul (Fs.pc _),z3.mul (Fs.pc _),d1.trans (key A),d2.trans (key C)⟩
  ·rw[hj,hc,x3]
 ·rw[zx,za rfl,ir (by decide)];exact⟨d,s,t,rfl,⟨hR.df,hR.sf,hR.tf,hR.cg,hR.dv,xao hR.dl (by omega),xao hR.sl (by omega),xao hR.tl (by omega)⟩,.inl (by omega)⟩
end
section
variable{fu:Nat}{a l b:List Int}{p:Int}
theorem Og{n:Nat}(h:n<9223372036854775808):Ox n=(n:Int):=by
 unfold Ox;rw[iq h]
theorem ig{x:Int}(h0:0<=x)(h:x<9223372036854775808)(hf:3000000<=fu):XC fu (yP x)=some (x,true):=by
 have hB:Bz 1 x:=by unfold Bz;omega
 unfold XC;rw[za (k9 (hB.ok (by decide)) hf),zt];have ha:(yP x).1=false:=by unfold yP;simp;omega
 by_cases hx:x=0
 ·subst hx;rw[show(yP 0).2=[]from rfl,iq (show((([]:List Nat).length:Nat):Int)=0 from rfl),za rfl,iq rfl]
 ·have hb:=Cy.2 hx;have hc:=hB.len;obtain⟨n,rfl⟩:=xaB h0;have hg:(yP (n:Int)).2.getD 0 0=n:=by
   show(yH ((n:Int).natAbs)).getD 0 0=n;rw[xbc,Zo,xeR,xeO,xaE (by omega)]
  rw[zx,za rfl,ir (by decide),zx,za rfl,ir (by decide),ha,ir (by decide),za rfl,ir (by decide),ir (by decide),show(0:Int)=((0:Nat):Int)from rfl,yB,zf,hg,zx,yB,zf,hg,zf,Og (by omega)]
theorem mC{a:Zr}(ha:gh a)(h1:1<=p)(h2:p<=65521)(hf:3000000<=fu):Vu fu a p=some (zv a % p,0):=by
 unfold Vu;have hB:Bz 1 p:=by unfold Bz;omega
 have hr:=yg (a:=zv a) (p:=p) (by omega);rw[za (z7 ⟨by omega,by omega⟩ hf),za (ue ha (hB.okS (by decide)) hf),zt];unfold tL;rw[zx];simp only[if_true];rw[za (ig hr.1 (by omega) hf)]
def vC(p:Int)(a:List Zr):List Int:=nl a.length (fun k=>cf a k % p)
theorem W7(p:Int)(a:List Zr)(k:Nat):ci (vC p a) k=cf a k % p:=mU (fun k hk=>by rw[yb hk,xag]) k
theorem K4(p:Int)(a:List Zr):Cg p (ci (vC p a)) (cf a):=fun k=>by rw[W7,xaC]
theorem XX(hp:0<p)(a:List Zr):Fp p (vC p a):=⟨fun k=>by rw[W7];exact(yg hp).1,fun k=>by rw[W7];exact(yg hp).2,gf _ _⟩
theorem zcX(p:Int)(a:List Zr):(vC p a).length<=a.length:=tn _ _
theorem jT{k:Nat}{a:List Zr}(ha:xc k a)(hk:k<=40000)(h1:1<=p)(h2:p<=65521)(hl:a.length<=1000000)(hf:3000000<=fu):jO fu a p=some (vC p a,0):=by
 unfold jO;have hd:=qb (fun k=>cf a k % p) a.length;rw[zx,za (v:=zl a.length (fun k=>cf a k % p))]
 ·rw[za (v:=vC p a)];refine zC (fun t:List Int=> ∃m,m<=a.length/\t=zl m (fun k=>cf a k % p)/\dg (fun k=>cf a k % p) m=dg (fun k=>cf a k % p) a.length) (fun t=>t.length) _ ?_ _ _ ⟨a.length,xac _,rfl,rfl⟩ (by rw[zF];omega);rintro t L ⟨m,hm,rfl,hg⟩ ih;unfold UA;rw[zF]
  cases m with
  |zero=>
   rw[zx];unfold vC nl;rw[<-hg];rfl
  |succ m=>
   rw[zM,show((m+1:Nat):Int)-1=(m:Int)by omega,zb,yB,zf,vB (by omega)];by_cases h0:cf a m % p=0
   ·rw[iq h0,zb,yN,yF,zf,AK (by omega)];exact ih _ ⟨m,by omega,rfl,by rw[<-b8 (f:=fun k=>cf a k % p) h0,hg]⟩ (by rw[zF,zF];omega)
   ·rw[ir h0];unfold vC nl;rw[<-hg,cP (f:=fun k=>cf a k % p) h0]
 ·unfold vR;rw[yN,yF,zf,Je,za];refine zC (fun s:Int×List Int=> ∃i:Nat,i<=a.length/\s=((i:Int),zl a.length (fun k=>if k<i then cf a k % p else 0))) (fun s=>a.length-s.1.toNat) _ ?_ _ _ ⟨0,xaj _,by rw[ym (g:=fun k=>if k<0 then cf a k % p else 0) (fun k _=>by rw[zx])];rfl⟩ (by show a.length-0<fu;omega);rintro s L ⟨i,hi,rfl⟩ ih;unfold jB;simp only;by_cases h:i<a.length
  ·rw[zM,za rfl];simp only[if_true];have e1:Yn fu (i:Int) (a.getD i (false,[])) p=some (cf a i % p):=by
    unfold Yn;rw[za (mC (ha.okS hk i) h1 h2 hf)];rfl
   rw[zp h,zf,za e1,zp (by rw[zF];exact h),zf,jQ,zb];refine ih _ ⟨i+1,by omega,?_⟩ (by show a.length-((i:Int)+1).toNat<a.length-(i:Int).toNat;omega);congr 1;refine ym fun k hk=> ?_;unfold uK;by_cases e:k=i
   ·rw[iq e,zM,e]
   ·rw[ir e];show(if k<i then cf a k % p else 0)=_;by_cases e2:k<i
    ·rw[iq e2,zM]
    ·rw[ir e2,zx]
  ·rw[zx,za rfl];simp only[xah,if_false];congr 1;exact ym fun k hk=>by rw[zM]
def qX(l:List Int):List Zr:=qi l.length (ci l)
theorem qt(l:List Int):cf (qX l)=ci l:=funext fun k=>jj (fun k hk=>zP hk) k
theorem E7(l:List Int):(qX l).length<=l.length:=by unfold qX;rw[xz];exact qb _ _
theorem Rl.bz(h:Rl l)(k:Nat):Bz 1 (ci l k):=by
 obtain⟨h1,h2⟩:=h k;unfold Bz;omega
theorem En(h:Rl l):xc 1 (qX l):=xg h.bz
theorem qV(h:Rl l)(hl:l.length<=1000000)(hf:3000000<=fu):vN fu l=some (qX l):=by
 unfold vN;rw[za (v:=zi l.length (ci l))]
 ·rw[za (zA (VS h.bz) (by decide) (by rw[yL];omega) hf),yL,lV];rfl
 ·unfold vU;rw[yN,yF,zf,U2,za];refine zC (fun s:Int×List Zr=> ∃i:Nat,i<=l.length/\s=((i:Int),zi l.length (fun k=>if k<i then ci l k else 0))) (fun s=>l.length-s.1.toNat) _ ?_ _ _ ⟨0,xaj _,by rw[y7 (g:=fun k=>if k<0 then ci l k else 0) (fun k _=>by rw[zx])];rfl⟩ (by show l.length-0<fu;omega);rintro s L ⟨i,hi,rfl⟩ ih;unfold jF;simp only;by_cases h1:i<l.length
  ·have e1:uQ fu (i:Int) (l.getD i 0)=some (yP (ci l i)):=by
    unfold uQ;rw[Zg,za (z7 (h i) hf)]
   rw[zM,zp h1,zf,za e1,zp (by rw[yL];exact h1),zf,J4,zb];refine ih _ ⟨i+1,by omega,?_⟩ (by show l.length-((i:Int)+1).toNat<l.length-(i:Int).toNat;omega);congr 1;refine y7 fun k hk=> ?_;unfold uK;by_cases e:k=i
   ·rw[iq e,zM,e]
   ·rw[ir e];show(if k<i then ci l k else 0)=_;by_cases e2:k<i
    ·rw[iq e2,zM]
    ·rw[ir e2,zx]
  ·rw[zx];congr 1;exact y7 fun k hk=>by rw[zM]
theorem rN(h:Rl l)(hl:l.length<=1000000)(hf:3000000<=fu):Z8 fu l=some (qX l):=by
 unfold Z8;rw[za (qV h hl hf)]
theorem jU(hp:wB p=true)(ha:Fp p a)(hb:Fp p b)(hc:a.length<=90000)(hd:b.length<=90000)(hf:3000000<=fu):qI fu a b p=some (y4 p a b,0):=by
 obtain⟨p1,p2⟩:=zo hp;unfold qI;rw[za (jL hp (by omega)),iq rfl,za (zE (by omega) p2 (ha.rl p2) (by omega) hf),za (zE (by omega) p2 (hb.rl p2) (by omega) hf),ha.pm,hb.pm,za (xY (by omega) p2 ha hb (by omega) (by omega) hf)]
theorem KG(hp:wB p=true)(ha:Fp p a)(hb:Fp p b)(hc:a.length<=90000)(hd:b.length<=90000)(hf:3000000<=fu):YZ fu a b p=some (ZB p a b (p-1),0):=by
 obtain⟨p1,p2⟩:=zo hp;unfold YZ;rw[za (jL hp (by omega)),iq rfl,za (zE (by omega) p2 (ha.rl p2) (by omega) hf),za (zE (by omega) p2 (hb.rl p2) (by omega) hf),ha.pm,hb.pm,zb,za (WM (by omega) p2 ha hb (by omega) (by omega) (by omega) (by omega) hf)]
theorem Vk(hp:wB p=true)(ha:Fp p a)(hb:Fp p b)(hd:a.length<=90000)(he:b.length<=90000)(hf:3000000<=fu):uY fu a b p=some (decide (a=b)):=by
 obtain⟨p1,p2⟩:=zo hp;unfold uY;rw[za (KG hp ha hb hd he hf)];simp only;have hF:=QZ (p:=p) (by omega) a b (p-1);have hc:=Ql (p:=p) a b;by_cases h:a=b
 ·have hl:(ZB p a b (p-1)).length<=0:=hF.nl.le fun k _=>by
   have:=hc k;rw[hF.mod,h,yC,xcV,xag]at this;rw[h];exact this
  rw[zM,decide_eq_true h]
 ·rw[decide_eq_false h,if_neg];intro h0;refine h (ha.ext hb (Cg.iff_sub.2 (hc.symm.trans fun k=> ?_)));rw[zP (by omega),zK]
end
section
variable{p:Int}{l:List Int}{fu M i:Nat}
def Gz(p:Int)(l:List Int):Prop:=(∀j,j<l.length->0<=ci l j/\ci l j<p)/\1<l.length/\ci l (l.length-1)=1
theorem Gz.fp(hp:0<p)(h:Gz p l):Fp p l:=by
 refine⟨fun k=> ?_,fun k=> ?_,.inr (by rw[h.2.2];decide)⟩
 ·by_cases hk:k<l.length
  ·exact(h.1 k hk).1
  ·rw[zP (by omega)];omega
 ·by_cases hk:k<l.length
  ·exact(h.1 k hk).2
  ·rw[zP (by omega)];exact hp
theorem Va(hl:l.length<=1000000)(hf:3000000<=fu): ∃b,uZ fu l p=some b/\(b=true↔Gz p l):=by
 unfold uZ;obtain⟨r,e1,e2⟩:=yA (f:=Ya fu l p) (fun i:Int=> ∃j:Nat,i=(j:Int)/\j<=l.length/\ ∀t,t<j->0<=ci l t/\ci l t<p) (fun i=>l.length-i.toNat) (fun r=>(r= .inl ()/\ ∀t,t<l.length->0<=ci l t/\ci l t<p)\/(r= .inr ()/\ ¬ ∀t,t<l.length->0<=ci l t/\ci l t<p)) (by
  rintro i L ⟨j,rfl,hj,he⟩ ih;unfold Ya;by_cases h1:j<l.length
  ·rw[zM,zp h1,zf,Zg];by_cases h2:ci l j<0
   ·rw[iq h2];exact⟨_,rfl,.inr ⟨rfl,fun e=>by have:=(e j h1).1;omega⟩⟩
   ·rw[ir h2];by_cases h3:p<=ci l j
    ·rw[iq h3];exact⟨_,rfl,.inr ⟨rfl,fun e=>by have:=(e j h1).2;omega⟩⟩
    ·rw[ir h3,zb];refine ih _ ⟨j+1,rfl,by omega,fun t ht=> ?_⟩ (by omega);by_cases h4:t=j
     ·rw[h4];omega
     ·exact he t (by omega)
  ·rw[zx];exact⟨_,rfl,.inl ⟨rfl,fun t ht=>he t (by omega)⟩⟩) fu 0 ⟨0,rfl,xaj _,fun t h=>absurd h (xbv _)⟩ (by show l.length-0<fu;omega)
 rw[za e1];rcases e2 with⟨rfl,h⟩|⟨rfl,h⟩
 ·simp only;by_cases h1:1<l.length
  ·rw[zM,show(l.length:Int)-1=((l.length-1:Nat):Int)by omega,zb,yB,zf,Zg];by_cases h2:ci l (l.length-1)=1
   ·rw[iq h2];exact⟨_,rfl,fun _=>⟨h,h1,h2⟩,fun _=>rfl⟩
   ·rw[ir h2];exact⟨_,rfl,fun e=>absurd e (by decide),fun e=>absurd e.2.2 h2⟩
  ·rw[zx];exact⟨_,rfl,fun e=>absurd e (by decide),fun e=>absurd e.2.1 h1⟩
 ·exact⟨_,rfl,fun e=>absurd e (by decide),fun e=>absurd e.1 h⟩
def Xz(p:Int)(fs:List (List Int)):List Int:=fs.foldl (y4 p) [1]
def prZ:List Pz->Pz
 |[]=>pc 1
 |f::r=>f*prZ r
theorem xK: ∀(a b:List Pz),prZ (a++b)=prZ a*prZ b
 |[],b=>(zy _).symm
 |f::r,b=>by show f*prZ (r++b)=f*prZ r*prZ b;rw[xK r b,zd]
theorem MU(p:Int): ∀(fs:List (List Int)) (t:List Int),Cg p (ci (fs.foldl (y4 p) t)) (ci t*prZ (fs.map ci))
 |[],t=>by show Cg p (ci t) (ci t*pc 1);rw[zY];exact Cg.rfl
 |f::r,t=>by
  show Cg p (ci (r.foldl (y4 p) (y4 p t f))) (ci t*(ci f*prZ (r.map ci)));refine(MU p r (y4 p t f)).trans (((ki p t f).mul Cg.rfl).trans (Cg.of (zd _ _ _)))
theorem cF(p:Int)(fs:List (List Int)):Cg p (ci (Xz p fs)) (prZ (fs.map ci)):=by
 have:=MU p fs [1];rw[vW,zy]at this;exact this
theorem Mo{p:Int}(hp:0<p): ∀(fs:List (List Int)) {t:List Int},Fp p t->Fp p (fs.foldl (y4 p) t)
 |[],_,h=>h
 |f::r,t,h=>Mo hp r (vG hp t f)
theorem Kj(hp:2<=p)(fs:List (List Int)):Fp p (Xz p fs):=Mo (by omega) fs (ZQ (by decide) (by omega))
theorem M4{p:Int}{M:Nat}: ∀{fs:List (List Int)} {t:List Int},(∀f∈fs,f.length<=M)->(fs.foldl (y4 p) t).length<=t.length+fs.length*M
 |[],_,_=>by simp
 |f::r,t,h=>by
  have h1:=M4 (p:=p) (fs:=r) (t:=y4 p t f) fun g hg=>h g (H1 _ hg);have h2:=qj p t f;have h3:=h f (FS);show(r.foldl (y4 p) (y4 p t f)).length<=t.length+(r.length+1)*M;rw[xaV,xcm];omega
theorem Ka{fs:List (List Int)}(h: ∀f∈fs,f.length<=M):(Xz p fs).length<=1+fs.length*M:=M4 h
theorem tX{l:List (List Int)}(h:i<l.length):l.getD i []∈l:=by
 rw[UV,IR h];exact xbh h
theorem M6{l:List (List Int)}(h:i<l.length):l.take (i+1)=l.take i++[l.getD i []]:=by
 rw[xfj,IR h,UV,IR h];rfl
theorem qh{fs:List (List Int)}(hp:wB p=true)(hF: ∀f∈fs,Fp p f)(hM: ∀f∈fs,f.length<=M)(hb:1+fs.length*M<=90000)(ha:M<=90000)(hc:fs.length<=90000)(hf:3000000<=fu):w8 fu fs p=some (Xz p fs):=by
 obtain⟨p1,p2⟩:=zo hp;unfold w8;rw[za (v:=Xz p fs)];refine zC (fun s:List Int×Int=> ∃i:Nat,i<=fs.length/\s=(Xz p (fs.take i),(i:Int))) (fun s=>fs.length-s.2.toNat) _ ?_ _ _ ⟨0,xaj _,rfl⟩ (by show fs.length-0<fu;omega);rintro s L ⟨i,hi,rfl⟩ ih;unfold Wm;simp only;by_cases h1:i<fs.length
 ·have hm:=tX h1;have hl:=Ka (p:=p) (fs:=fs.take i) (M:=M) fun f hf=>hM f (xeC hf);have hd:(fs.take i).length*M<=fs.length*M:=xas _ (List.length_take_le' ..);have he:=hM _ hm;rw[zM,zp h1,zf,za (jU hp (Kj (by omega) _) (hF _ hm) (by omega) (by omega) hf)];simp only;rw[zb];refine ih _ ⟨i+1,by omega,?_⟩ (by show fs.length-((i:Int)+1).toNat<fs.length-(i:Int).toNat;omega);congr 1;unfold Xz;rw[M6 h1,List.foldl_append];rfl
 ·rw[zx,xaX (by omega)]
def qD(p:Int)(f g:Pz):Prop:= ∃s t:Pz,Fs s/\Fs t/\Cg p (s*f+t*g) (pc 1)
theorem qD.symm{f g:Pz}(h:qD p f g):qD p g f:=by
 obtain⟨s,t,z1,z2,h⟩:=h;refine⟨t,s,z2,z1,(Cg.of ?_).trans h⟩;funext k;rw[zI,zI,xfu]
theorem qD.mul{p:Int}{f g h:Pz}(hg:Fs g)(hh:Fs h)(hf:Fs f)(h1:qD p f h)(h2:qD p g h):qD p (f*g) h:=by
 obtain⟨s,t,z1,z2,h1⟩:=h1;obtain⟨u,v,z3,z4,h2⟩:=h2;refine⟨s*u,s*f*v+t*(u*g+v*h),z1.mul z3,((z1.mul hf).mul z4).add (z2.mul ((z3.mul hg).add (z4.mul hh))),Cg.trans (Cg.of ?_) ((h1.mul h2).trans (Cg.of (zy _)))⟩;simp only[xB,yo,zd,zw,zg];funext k;simp only[zI];omega
theorem qD.one(p:Int)(h:Pz):qD p (pc 1) h:=⟨pc 1,pc 0,Fs.pc 1,Fs.pc 0,Cg.of (by
 rw[zy,yc];funext k;rw[zI,zK,xbx])⟩
theorem Fs.prZ: ∀{fs:List Pz},(∀f∈fs,Fs f)->Fs (prZ fs)
 |[],_=>Fs.pc 1
 |f::r,hh=>(hh f (FS)).mul (Fs.prZ fun g hg=>hh g (H1 _ hg))
theorem qD.prZ{p:Int}{h:Pz}(hz:Fs h): ∀{fs:List Pz},(∀f∈fs,Fs f)->(∀f∈fs,qD p f h)->qD p (prZ fs) h
 |[],_,_=>qD.one p h
 |f::r,hF,hh=>qD.mul (Fs.prZ fun g hg=>hF g (H1 _ hg)) hz (hF f (FS)) (hh f (FS)) (qD.prZ hz (fun g hg=>hF g (H1 _ hg)) fun g hg=>hh g (H1 _ hg))
theorem Bu{g h d s t:List Int}{S:Nat}(hR:BzR p g h d s t S)(hl:d.length=1)(h1:ci d (d.length-1)=1):qD p (ci g) (ci h):=by
 have e:ci d=pc 1:=by
  funext k;unfold pc;by_cases hk:k=0
  ·rw[iq hk,hk,<-h1,hl]
  ·rw[ir hk,zP (by omega)]
 have:=hR.cg;rw[e]at this;exact⟨ci s,ci t,Fs.ci s,Fs.ci t,this.symm⟩
structure JN(p:Int)(a:List Zr)(fs:List (List Int)):Prop where
 a0:a.length≠0
 al:(vC p a).length=a.length
 fl:fs.length<=a.length
 pl: ∀i,i<fs.length->(fs.getD i []).length<=a.length/\Gz p (fs.getD i [])
 cp: ∀i j,i<fs.length->j<i->qD p (ci (fs.getD i [])) (ci (fs.getD j []))
 pr:y4 p (Xz p fs) [ci (vC p a) (a.length-1)]=vC p a
theorem Dx{f:List Int}{fs:List (List Int)}(hp:wB p=true)(hb:Fp p f)(hc:f.length<=290)(hi:i<=fs.length)(hk:i<=1000000)(hF: ∀j,j<i->Fp p (fs.getD j [])/\(fs.getD j []).length<=290)(hf:3000000<=fu):
 ∃r,zj (qC fu p f (fs.take i)) fu 0=some r/\(r= .inl ()-> ∀j,j<i->qD p (ci f) (ci (fs.getD j []))):=by
 have hd:(fs.take i).length=i:=by rw[xay];omega
 have ha: ∀j,j<i->(fs.take i).getD j []=fs.getD j []:=fun j hj=>by rw[UV,xbT,iq hj,<-UV]
 refine yA (fun x:Int=> ∃j:Nat,x=(j:Int)/\j<=i/\ ∀t,t<j->qD p (ci f) (ci (fs.getD t []))) (fun x=>i-x.toNat) _ ?_ _ _ ⟨0,rfl,xaj _,fun t h=>absurd h (xbv _)⟩ (by show i-0<fu;omega);rintro x L ⟨j,rfl,hj,he⟩ ih;unfold qC;by_cases h1:j<i
 ·obtain⟨k1,k2⟩:=hF j h1;obtain⟨d,s,t,e1,hR,e3⟩:=jv (fu:=fu) hp hb k1 hc k2 hf;rw[zM,yB,zf,ha j h1];have hg:qF fu f (fs.getD j []) p=some (d,0):=by
   unfold qF;rw[za e1]
  rw[za hg];simp only;by_cases h2:d.length=1
  ·rw[zM,zb];refine ih _ ⟨j+1,rfl,by omega,fun t ht=> ?_⟩ (by omega);by_cases h3:t=j
   ·rw[h3];exact Bu hR h2 (e3.resolve_left (by omega))
   ·exact he t (by omega)
  ·rw[zx];exact⟨_,rfl,fun e=>absurd e (by simp)⟩
 ·rw[zx];exact⟨_,rfl,fun _ t ht=>he t (by omega)⟩
theorem a7{k:Nat}{a:List Zr}{fs:List (List Int)}(hp:wB p=true)(ha:xc k a)(hk:k<=40000)(hr:a.length<=66)(hf:3000000<=fu):
 ∃b,wx fu a fs p=some b/\(b=true->JN p a fs):=by
 obtain⟨p1,p2⟩:=zo hp;unfold wx;rw[za (jT ha hk (by omega) p2 (by omega) hf)];simp only;by_cases h0:a.length=0
 ·rw[zM];exact⟨_,rfl,fun e=>absurd e (by decide)⟩
 ·rw[zx];by_cases hl:(vC p a).length=a.length
  ·rw[zM];by_cases hs:a.length<fs.length
   ·rw[zM];exact⟨_,rfl,fun e=>absurd e (by decide)⟩
   ·rw[zx]
    obtain⟨r,e1,e2⟩:=yA (f:=qy fu a fs p) (fun x:Int×List Int=> ∃i:Nat,x=((i:Int),vC p a)/\i<=fs.length/\(∀t,t<i->(fs.getD t []).length<=a.length/\Gz p (fs.getD t []))/\ ∀t j,t<i->j<t->qD p (ci (fs.getD t [])) (ci (fs.getD j []))) (fun x=>fs.length-x.1.toNat)
     (fun r=>r= .inr ()\/(r= .inl (vC p a)/\(∀t,t<fs.length->(fs.getD t []).length<=a.length/\Gz p (fs.getD t []))/\ ∀t j,t<fs.length->j<t->qD p (ci (fs.getD t [])) (ci (fs.getD j [])))) (by
      rintro x L ⟨i,rfl,hi,g1,g2⟩ ih;unfold qy;simp only;by_cases h1:i<fs.length
      ·rw[zM,za rfl];simp only[if_true];rw[zp h1,zf];by_cases h2:a.length<(fs.getD i []).length
       ·rw[zM];exact⟨_,rfl,.inl rfl⟩
       ·obtain⟨b,b1,b2⟩:=Va (fu:=fu) (l:=fs.getD i []) (p:=p) (by omega) hf;rw[zx,za b1]
        cases b with
        |false=>
         rw[iq (by decide)];exact⟨_,rfl,.inl rfl⟩
        |true=>
         have hc:=b2.1 rfl;rw[ir (by decide),yN,yF,zf];obtain⟨q,q1,q2⟩:=Dx (fu:=fu) (i:=i) (fs:=fs) hp (hc.fp (by omega)) (by omega) (by omega) (by omega) (fun j hj=>⟨(g1 j hj).2.fp (by omega),by have:=(g1 j hj).1;omega⟩) hf;rw[za q1];rcases q with q|q
         ·simp only;rw[zb];refine ih _ ⟨i+1,rfl,by omega,fun t ht=> ?_,fun t j ht hj=> ?_⟩ (by show fs.length-((i:Int)+1).toNat<fs.length-(i:Int).toNat;omega)
          ·by_cases h4:t=i
           ·rw[h4];exact⟨by omega,hc⟩
           ·exact g1 t (by omega)
          ·by_cases h4:t=i
           ·rw[h4]at hj⊢;exact q2 rfl j hj
           ·exact g2 t j (by omega) hj
         ·exact⟨_,rfl,.inl rfl⟩
      ·rw[zx,za rfl];simp only[xah,if_false];exact⟨_,rfl,.inr ⟨rfl,fun t ht=>g1 t (by omega),fun t j ht hj=>g2 t j (by omega) hj⟩⟩) fu (0,vC p a) ⟨0,rfl,xaj _,fun t h=>absurd h (xbv _),fun t j h=>absurd h (xbv _)⟩ (by show fs.length-0<fu;omega)
    rw[za e1];rcases e2 with rfl|⟨rfl,g1,g2⟩
    ·exact⟨_,rfl,fun e=>absurd e (by decide)⟩
    ·simp only;have hb: ∀{q:List Int->Prop},(∀t,t<fs.length->q (fs.getD t []))-> ∀f∈fs,q f:=fun{q} h f hf=>by
      obtain⟨j,hj,rfl⟩:=xdx.1 hf;have:=h j hj;rw[UV,IR hj]at this;exact this
     have hm: ∀f∈fs,Fp p f:=hb fun t ht=>(g1 t ht).2.fp (by omega);have he: ∀f∈fs,f.length<=66:=hb fun t ht=>by have:=(g1 t ht).1;omega
     have hu:fs.length*66<=66*66:=xas _ (by omega);have hc:=Ka (p:=p) he;have hz:=XX (p:=p) (by omega) a;have hq:ci (vC p a) (a.length-1)≠0:=by
      rcases hz.nl with h|h
      ·omega
      ·rw[hl]at h;exact h
     have hv:=hz.nn (a.length-1);have hn:=hz.lt (a.length-1);have hd:(vC p a).drop (a.length-1)=[ci (vC p a) (a.length-1)]:=by
      rw[xcu (by omega),xcf (by omega)];unfold ci;rw[UV,IR (by omega)];rfl
     have hg:=ZQ (p:=p) (x:=ci (vC p a) (a.length-1)) (by omega) hn;have ho:=qj p (Xz p fs) [ci (vC p a) (a.length-1)];simp only[xav,xcq]at ho;rw[za (qh hp hm he (by omega) (by decide) (by omega) hf),hl,show(a.length:Int)-1=((a.length-1:Nat):Int)by omega,zb,yN,yF,zf,hd,za (jU hp (Kj (by omega) fs) hg (by omega) (by simp) hf)];simp only;rw[za (Vk hp (vG (by omega) _ _) hz (by omega) (by omega) hf)];exact⟨_,rfl,fun e=>⟨h0,hl,by omega,g1,g2,of_decide_eq_true e⟩⟩
  ·rw[zx];exact⟨_,rfl,fun e=>absurd e (by decide)⟩
end
section
variable{k fu K:Nat}{a b x d f g h s:List Zr}{m:Int}
def Jb(a b:List Zr):List Zr:=qi (max a.length b.length) (fun j=>cf a j+cf b j)
theorem LY(a b:List Zr)(k:Nat):cf (Jb a b) k=cf a k+cf b k:=jj (fun j hj=>Ko hj) k
theorem JI(a b:List Zr):(Jb a b).length<=max a.length b.length:=by unfold Jb;rw[xz];exact qb _ _
theorem dB(ha:xc k a)(hb:xc k b):xc (k+1) (Jb a b):=xg fun j=>(ha.bz j).add (hb.bz j)
theorem bF(ha:xc k a)(hb:xc k b)(hk:k+1<=100000)(hc:a.length<=1000000)(hd:b.length<=1000000)(hf:3000000<=fu):wM fu a b=some (Jb a b):=JH ha hb hk hc hd hf
def FC:List Zr:=qX [1]
theorem zbd:(cf FC:Pz)=pc 1:=by unfold FC;rw[qt,vW]
theorem RF:FC.length<=1:=E7 [1]
theorem OU:Rl [1]:=fun k=>by
 rw[vW];unfold pc;split<;>exact⟨by decide,by decide⟩
theorem L6:xc 1 FC:=En OU
def JO(f g h:List Zr)(m:Int):List Zr:=wj (Uh f (yQ g h)) m
def pV(x d:List Zr)(m:Int):List Zr:=rf (wj x m) d m
def iQ(x d:List Zr)(m:Int):List Zr:=Yi (wj x m) d m
def NB(f g h s t:List Zr)(m:Int):List Zr:=wj (Jb g (Jb (yQ t (JO f g h m)) (yQ (pV (yQ s (JO f g h m)) h m) g))) m
def pZ(f g h s:List Zr)(m:Int):List Zr:=wj (Jb h (iQ (yQ s (JO f g h m)) h m)) m
def UQ(g h s t:List Zr)(m:Int):List Zr:=wj (Uh (Jb (yQ s g) (yQ t h)) FC) m
def puS(g h s t:List Zr)(m:Int):List Zr:=wj (Uh s (iQ (yQ s (UQ g h s t m)) h m)) m
def puT(g h s t:List Zr)(m:Int):List Zr:=wj (Uh t (Jb (yQ t (UQ g h s t m)) (yQ (pV (yQ s (UQ g h s t m)) h m) g))) m
theorem TT(hm:Bz K m)(h0:0<m):xc K (pV x d m):=xg fun j=>hm.emod h0
theorem zae(hm:Bz K m)(h0:0<m):xc K (iQ x d m):=xg fun j=>hm.emod h0
theorem M3(x d:List Zr)(m:Int):(pV x d m).length<=x.length+1:=by
 unfold pV rf;rw[xz];have:=Zp x m;exact xao (qb _ _) (by omega)
theorem M2(x d:List Zr)(m:Int):(iQ x d m).length<=x.length:=by
 unfold iQ Yi;rw[xz];exact xao (qb _ _) (Zp x m)
theorem tz(ha:0<d.length)(hb:cf d (d.length-1)=1):(iQ x d m).length<d.length:=rA ha hb
theorem LU(h2:2<=m)(hl:0<h.length)(h1:cf h (h.length-1)=1):(pZ f g h s m).length=h.length/\cf (pZ f g h s m) (h.length-1)=1:=by
 have hs:=tz (x:=yQ s (JO f g h m)) (m:=m) hl h1;have e: ∀k,cf (pZ f g h s m) k=(cf h k+cf (iQ (yQ s (JO f g h m)) h m) k) % m:=fun k=>by unfold pZ;rw[ju,LY]
 have e1:cf (pZ f g h s m) (h.length-1)=1:=by
  rw[e,h1,yb (p:=iQ _ _ _) (by omega)];exact xaz (by decide) (by omega)
 refine⟨xcO (B9 (Qn _ _) fun k hk=> ?_) (xbw fun ha=> ?_),e1⟩
 ·have:=e k;unfold pZ at this;rw[this,yb hk,yb (p:=iQ _ _ _) (by omega),xbx,xag]
 ·rw[yb (by omega)]at e1;cases e1
theorem Uk{W:Nat}{t:List Zr}{m:Zr}(hd:xc K f)(hg:xc K g)(hh:xc K h)(hs:xc K s)(ht:xc K t)(lf:f.length<=W)(lg:g.length<=W)(lh:h.length<=W)(ls:s.length<=W)(lt:t.length<=W)(hW:W<=5000)(he:1<=K)(hK:K<=1000)(hb:zm m.2)(hc:m.2.length<=K)(h2:2<=zv m)(hl:0<h.length)(h1:cf h (h.length-1)=1)(hf:3000000<=fu):
 qw fu [g,h,s,t] f m=some [NB f g h s t (zv m),pZ f g h s (zv m),puS (NB f g h s t (zv m)) (pZ f g h s (zv m)) s t (zv m),puT (NB f g h s t (zv m)) (pZ f g h s (zv m)) s t (zv m)]:=by
 have hm:Bz K (zv m):=(Bz.of hb).mono hc;have ha:gh m:=⟨hb,by omega⟩;have h0:0<zv m:=by omega
 unfold qw;rw[oT (i:=0) (by decide),zf,oT (i:=1) (by decide),zf,oT (i:=2) (by decide),zf,oT (i:=3) (by decide),zf,show[g,h,s,t].getD (Int.toNat 0) []=g from rfl,show[g,h,s,t].getD (Int.toNat 1) []=h from rfl,show[g,h,s,t].getD (Int.toNat 2) []=s from rfl,show[g,h,s,t].getD (Int.toNat 3) []=t from rfl];have p1:=Yy hg hh;have l1:=jz g h;have l2:=Qi f (yQ g h);rw[za (xv hg hh (by omega) (by omega) hf),za (jV (k:=K+K+g.length) (hd.mono (by omega)) p1 (by omega) (by omega) (by omega) hf),za (Zu (iX (hd.mono (by omega)) p1) (by omega) ha h0 (by omega) hf),show wj (Uh f (yQ g h)) (zv m)=JO f g h (zv m)from rfl];have pe:xc K (JO f g h (zv m)):=Q2 hm h0;have le:(JO f g h (zv m)).length<=W+W:=xao (Zp _ _) (by omega);have p2:=Yy hs pe;have l3:=jz s (JO f g h (zv m));have pq:=TT (x:=yQ s (JO f g h (zv m))) (d:=h) hm h0;have pr:=zae (x:=yQ s (JO f g h (zv m))) (d:=h) hm h0;have lq:=M3 (yQ s (JO f g h (zv m))) h (zv m);have lr:=M2 (yQ s (JO f g h (zv m))) h (zv m);rw[za (xv hs pe (by omega) (by omega) hf),za (Xx p2 (by omega) hh hb hc h0 hl (by omega) (by omega) hf),show rf (wj (yQ s (JO f g h (zv m))) (zv m)) h (zv m)=pV (yQ s (JO f g h (zv m))) h (zv m)from rfl,show Yi (wj (yQ s (JO f g h (zv m))) (zv m)) h (zv m)=iQ (yQ s (JO f g h (zv m))) h (zv m)from rfl];simp only;have p3:=Yy ht pe;have l4:=jz t (JO f g h (zv m));have p4:=Yy pq hg;have l5:=jz (pV (yQ s (JO f g h (zv m))) h (zv m)) g;have p5:=dB (k:=K+K+W+W+W+1) (p3.mono (by omega)) (p4.mono (by omega));have l6:=JI (yQ t (JO f g h (zv m))) (yQ (pV (yQ s (JO f g h (zv m))) h (zv m)) g);have p6:=dB (k:=K+K+W+W+W+2) (hg.mono (by omega)) p5;have l7:=JI g (Jb (yQ t (JO f g h (zv m))) (yQ (pV (yQ s (JO f g h (zv m))) h (zv m)) g));rw[za (xv ht pe (by omega) (by omega) hf),za (xv pq hg (by omega) (by omega) hf),za (bF (k:=K+K+W+W+W+1) (p3.mono (by omega)) (p4.mono (by omega)) (by omega) (by omega) (by omega) hf),za (bF (k:=K+K+W+W+W+2) (hg.mono (by omega)) p5 (by omega) (by omega) (by omega) hf),za (Zu p6 (by omega) ha h0 (by omega) hf),show wj (Jb g (Jb (yQ t (JO f g h (zv m))) (yQ (pV (yQ s (JO f g h (zv m))) h (zv m)) g))) (zv m)=NB f g h s t (zv m)from rfl];have l8:=JI h (iQ (yQ s (JO f g h (zv m))) h (zv m));rw[za (bF hh pr (by omega) (by omega) (by omega) hf),za (Zu (dB hh pr) (by omega) ha h0 (by omega) hf),show wj (Jb h (iQ (yQ s (JO f g h (zv m))) h (zv m))) (zv m)=pZ f g h s (zv m)from rfl];obtain⟨hi,hj⟩:=LU (f:=f) (g:=g) (s:=s) h2 hl h1;have pG:xc K (NB f g h s t (zv m)):=Q2 hm h0;have pH:xc K (pZ f g h s (zv m)):=Q2 hm h0;have lG:(NB f g h s t (zv m)).length<=4*W+1:=xao (Zp _ _) (by omega);clear l1 l2 l3 l4 l5 l6 l7 l8 p1 p2 p3 p4 p5 p6 pe le pq pr lq lr;generalize NB f g h s t (zv m)=G at*
 generalize pZ f g h s (zv m)=H at*
 have p1:=Yy hs pG;have l1:=jz s G;have p2:=Yy ht pH;have l2:=jz t H;have p3:=dB (k:=K+K+W) (p1.mono (by omega)) (p2.mono (by omega));have l3:=JI (yQ s G) (yQ t H);have l4:=Qi (Jb (yQ s G) (yQ t H)) FC;have l5:=RF;rw[za (xv hs pG (by omega) (by omega) hf),za (xv ht pH (by omega) (by omega) hf),za (bF (k:=K+K+W) (p1.mono (by omega)) (p2.mono (by omega)) (by omega) (by omega) (by omega) hf)];rw[za (rN OU (by decide) hf),show qX [1]=FC from rfl,za (jV p3 (L6.mono (by omega)) (by omega) (by omega) (by omega) hf),za (Zu (iX p3 (L6.mono (by omega))) (by omega) ha h0 (by omega) hf),show wj (Uh (Jb (yQ s G) (yQ t H)) FC) (zv m)=UQ G H s t (zv m)from rfl];have pb:xc K (UQ G H s t (zv m)):=Q2 hm h0;have lb:(UQ G H s t (zv m)).length<=5*W+2:=xao (Zp _ _) (by omega);have p4:=Yy hs pb;have l6:=jz s (UQ G H s t (zv m));have pc':=TT (x:=yQ s (UQ G H s t (zv m))) (d:=H) hm h0;have pd:=zae (x:=yQ s (UQ G H s t (zv m))) (d:=H) hm h0;have lc:=M3 (yQ s (UQ G H s t (zv m))) H (zv m);have ld:=M2 (yQ s (UQ G H s t (zv m))) H (zv m);have l7:=Qi s (iQ (yQ s (UQ G H s t (zv m))) H (zv m));rw[za (xv hs pb (by omega) (by omega) hf),za (Xx p4 (by omega) pH hb hc h0 (by omega) (by omega) (by omega) hf),show rf (wj (yQ s (UQ G H s t (zv m))) (zv m)) H (zv m)=pV (yQ s (UQ G H s t (zv m))) H (zv m)from rfl,show Yi (wj (yQ s (UQ G H s t (zv m))) (zv m)) H (zv m)=iQ (yQ s (UQ G H s t (zv m))) H (zv m)from rfl];simp only;rw[za (jV hs pd (by omega) (by omega) (by omega) hf),za (Zu (iX hs pd) (by omega) ha h0 (by omega) hf),show wj (Uh s (iQ (yQ s (UQ G H s t (zv m))) H (zv m))) (zv m)=puS G H s t (zv m)from rfl];have p5:=Yy ht pb;have l8:=jz t (UQ G H s t (zv m));have p6:=Yy pc' pG;have l9:=jz (pV (yQ s (UQ G H s t (zv m))) H (zv m)) G;have p7:=dB (k:=K+K+6*W+3) (p5.mono (by omega)) (p6.mono (by omega));have l10:=JI (yQ t (UQ G H s t (zv m))) (yQ (pV (yQ s (UQ G H s t (zv m))) H (zv m)) G);have l11:=Qi t (Jb (yQ t (UQ G H s t (zv m))) (yQ (pV (yQ s (UQ G H s t (zv m))) H (zv m)) G));rw[za (xv ht pb (by omega) (by omega) hf),za (xv pc' pG (by omega) (by omega) hf),za (bF (k:=K+K+6*W+3) (p5.mono (by omega)) (p6.mono (by omega)) (by omega) (by omega) (by omega) hf),za (jV (ht.mono (by omega)) p7 (by omega) (by omega) (by omega) hf),za (Zu (iX (ht.mono (by omega)) p7) (by omega) ha h0 (by omega) hf),show wj (Uh t (Jb (yQ t (UQ G H s t (zv m))) (yQ (pV (yQ s (UQ G H s t (zv m))) H (zv m)) G))) (zv m)=puT G H s t (zv m)from rfl]
end
section
variable{x d f g h s t:List Zr}{m:Int}
theorem u9(a:List Zr)(m:Int):Cg m (cf (wj a m)) (cf a):=fun k=>by rw[ju,xaC]
theorem Bo(a b:List Zr):(cf (Uh a b):Pz)=cf a-cf b:=funext fun k=>MM a b k
theorem oW(a b:List Zr):(cf (Jb a b):Pz)=cf a+cf b:=funext fun k=>LY a b k
theorem OE(ha:0<d.length)(hb:cf d (d.length-1)=1):Cg m (cf x) ((cf (pV x d m):Pz)*cf d+cf (iQ x d m)):=by
 intro k;unfold pV iQ;rw[zI,<-q8,U4 (by omega) ha hb,xdM,xaC,<-xdM];have hr:=ju x m k;generalize wj x m=r at*
 obtain⟨qn,hq⟩: ∃qn,qn=r.length+1-d.length:=⟨_,rfl⟩;have hc: ∀j,j<qn->cf (rf r d m) j=HQ r d m qn j:=fun j hj=>by
  rw[MN,<-hq];unfold dvQ HQ;rw[iq hj,xaC]
 have hd:(rf r d m).length<=qn:=by unfold rf;rw[xz,<-hq];exact qb _ _
 have h:=Mg hc k qn (xac _);rw[lB,DR hd]at h;rw[MB,<-hq,xfu,<-h,hr,xaC]
theorem J6{n x:Int}(hn:n∣m)(hx:n∣x):n∣x % m:=by
 rw[Int.emod_def];exact xdo hx (xbB hn (xcj _ _))
theorem iR{r d:List Zr}{n m:Int}{qn:Nat}(hn:n∣m)(hr: ∀k,n∣cf r k): ∀s k,n∣dvF r d m qn s k
 |0,k=>hr k
 |s+1,k=>xdo (iR hn hr s k) (xbB (J6 hn (iR hn hr s _)) (xcj _ _))
theorem Tl{n:Int}(hn:n∣m)(hx:Cg n (cf x) (pc 0))(ha:0<d.length)(hb:cf d (d.length-1)=1):Cg n (cf (pV x d m)) (pc 0)/\Cg n (cf (iQ x d m)) (pc 0):=by
 have hr: ∀k,n∣cf (wj x m) k:=fun k=>by rw[ju];exact J6 hn (hx.dvd k)
 refine⟨Cg.of_dvd fun k=> ?_,Cg.of_dvd fun k=> ?_⟩
 ·unfold pV;rw[MN];refine J6 hn ?_;unfold dvQ;split
  ·exact J6 hn (iR hn hr _ _)
  ·exact xcJ _
 ·unfold iQ;rw[U4 (by omega) ha hb];exact J6 hn (iR hn hr _ _)
theorem zfg{n:Int}(hm:m∣n*n)(hn:n∣m)(h1:Cg n (cf f) ((cf g:Pz)*cf h))(h2:Cg n ((cf s:Pz)*cf g+(cf t:Pz)*cf h) (pc 1))(ha:0<h.length)(hb:cf h (h.length-1)=1):
 Cg m (cf f) ((cf (NB f g h s t m):Pz)*cf (pZ f g h s m))/\Cg n (cf (NB f g h s t m)) (cf g)/\Cg n (cf (pZ f g h s m)) (cf h):=by
 have he:Cg m (cf (JO f g h m)) ((cf f:Pz)-(cf g:Pz)*cf h):=by
  refine(u9 _ _).trans (Cg.of ?_);rw[Bo,q8]
 have hc:Cg n (cf (JO f g h m)) (pc 0):=(he.down hn).trans (Cg.iff_sub.1 h1);have hd:Cg m ((cf s:Pz)*cf (JO f g h m)) ((cf (pV (yQ s (JO f g h m)) h m):Pz)*cf h+cf (iQ (yQ s (JO f g h m)) h m)):=by
  rw[<-q8];exact OE ha hb
 obtain⟨z1,z2⟩:=Tl (x:=yQ s (JO f g h m)) (d:=h) hn (by rw[q8];exact hc.mul_zero_l _) ha hb;refine Rj hm hn (q:=cf (pV (yQ s (JO f g h m)) h m)) (r:=cf (iQ (yQ s (JO f g h m)) h m)) h1 h2 he hd z1 z2 ?_ ?_
 ·refine(u9 _ _).trans (Cg.of ?_);rw[oW,oW,q8,q8]
 ·refine(u9 _ _).trans (Cg.of ?_);rw[oW]
theorem zeT{n:Int}(hm:m∣n*n)(hn:n∣m)(h2:Cg n ((cf s:Pz)*cf g+(cf t:Pz)*cf h) (pc 1))(ha:0<h.length)(hc:cf h (h.length-1)=1):
 Cg m ((cf (puS g h s t m):Pz)*cf g+(cf (puT g h s t m):Pz)*cf h) (pc 1):=by
 have hb:Cg m (cf (UQ g h s t m)) ((cf s:Pz)*cf g+(cf t:Pz)*cf h-pc 1):=by
  refine(u9 _ _).trans (Cg.of ?_);rw[Bo,oW,q8,q8,zbd]
 have hd:Cg m ((cf s:Pz)*cf (UQ g h s t m)) ((cf (pV (yQ s (UQ g h s t m)) h m):Pz)*cf h+cf (iQ (yQ s (UQ g h s t m)) h m)):=by
  rw[<-q8];exact OE ha hc
 refine Si hm hn h2 hb hd ?_ ?_
 ·refine(u9 _ _).trans (Cg.of ?_);rw[Bo]
 ·refine(u9 _ _).trans (Cg.of ?_);rw[Bo,oW,q8,q8]
theorem MV{a b:List Zr}(ha:0<a.length)(hc:0<b.length)(hb:cf b (b.length-1)=1):((cf a:Pz)*cf b) (a.length-1+(b.length-1))=cf a (a.length-1):=by
 rw[xr,xQ (i:=a.length-1) fun i hi=> ?_,zM,show a.length-1+(b.length-1)-(a.length-1)=b.length-1 by omega,hb,xce];by_cases h:i<a.length-1
 ·rw[yb (p:=b) (by omega),xat]
 ·rw[yb (p:=a) (by omega),xaU]
theorem Lz(hm:2<=m)(hg:wj g m=g)(hf:wj f m=f)(hq:0<f.length)(he:0<h.length)(hl:cf h (h.length-1)=1)(hc:Cg m (cf f) ((cf g:Pz)*cf h)):
 f.length=g.length+(h.length-1)/\0<g.length/\cf g (g.length-1)=cf f (f.length-1):=by
 have hd:=Qn g m;have ha:=Qn f m;rw[hg]at hd;rw[hf]at ha;have hn: ∀k,cf g k % m=cf g k:=fun k=>by rw[<-ju,hg]
 have hb: ∀k,cf f k % m=cf f k:=fun k=>by rw[<-ju,hf]
 have ho:=uV ha (by omega);have g0:0<g.length:=by
  refine xcE fun h0=>ho ?_;rw[<-hb,hc,xr,yT fun i hi=>by rw[yb (p:=g) (by omega),xaU],xag]
 have hp:=uV hd (by omega);have ht:=hc (g.length-1+(h.length-1));rw[MV g0 he hl,hb,hn]at ht;have e1:f.length=g.length+(h.length-1):=by
  refine xcO (B9 ha fun k hk=> ?_) (xbw fun hr=> ?_)
  ·rw[<-hb,hc,qk (n:=g.length) (m:=h.length) (fun j hj=>yb hj) (fun j hj=>yb hj) (by omega),xag]
  ·rw[yb (p:=f) (by omega)]at ht;exact hp ht.symm
 refine⟨e1,g0,?_⟩;rw[<-ht];congr 1;omega
end
section
variable{r0 r1 a b K fu:Nat}{u0 u1 v0 v1:Int}
structure ZbI(a b:Nat)(r0 r1:Nat)(u0 v0 u1 v1:Int):Prop where
 p0:0<r0
 le0:r0<=max a b
 le1:r1<=max a b
 e0:u0*a+v0*b=r0
 e1:u1*a+v1*b=r1
 g:xee r0 r1=xee a b
 su: ∃x y:Nat,((u0=x/\u1= -y)\/(u0= -x/\u1=y))/\r0*y+r1*x=b
 sv: ∃x y:Nat,((v0=x/\v1= -y)\/(v0= -x/\v1=y))/\r0*y+r1*x=a
 bu0:u0.natAbs<=b
 bu1:u1.natAbs<=b
 bv0:v0.natAbs<=a
 bv1:v1.natAbs<=a
theorem EB{c:Nat}(hr:0<r1)(h: ∃x y:Nat,((u0=x/\u1= -y)\/(u0= -x/\u1=y))/\r0*y+r1*x=c):
 (∃x y:Nat,((u1=x/\u0-((r0/r1:Nat):Int)*u1= -y)\/(u1= -x/\u0-((r0/r1:Nat):Int)*u1=y))/\r1*y+r0 % r1*x=c)/\(u0-((r0/r1:Nat):Int)*u1).natAbs<=c:=by
 obtain⟨x,y,hs,he⟩:=h;have hc:=xbC r0 r1;generalize r0/r1=q at*
 generalize r0 % r1=r2 at*
 have e1:r1*(x+q*y)+r2*y=c:=by
  rw[xbm,<-xbd];have:r0*y=r1*q*y+r2*y:=by rw[<-xaV,hc]
  omega
 have hb:x+q*y<=c:=by
  have h3:1*(x+q*y)<=r1*(x+q*y):=xas _ (by omega);omega
 have ha:((q*y:Nat):Int)=(q:Int)*(y:Int):=by simp
 rcases hs with⟨a1,a2⟩|⟨a1,a2⟩
 ·rw[a1,a2,xes,<-ha];exact⟨⟨y,x+q*y,.inr ⟨rfl,by omega⟩,e1⟩,by omega⟩
 ·rw[a1,a2,<-ha];exact⟨⟨y,x+q*y,.inl ⟨rfl,by omega⟩,e1⟩,by omega⟩
theorem ZbI.step(h:ZbI a b r0 r1 u0 v0 u1 v1)(hr:0<r1):ZbI a b r1 (r0 % r1) u1 v1 (u0-((r0/r1:Nat):Int)*u1) (v0-((r0/r1:Nat):Int)*v1):=by
 obtain⟨s1,s2⟩:=EB hr h.su;obtain⟨t1,t2⟩:=EB hr h.sv;have ha:=xbC r0 r1;have hd:=xbp r0 hr;have hb:=h.le1;refine⟨hr,hb,by omega,h.e1,?_,?_,s1,t1,h.bu1,s2,h.bv1,t2⟩
 ·have e0:=h.e0;have e1:=h.e1;have hc:(r0:Int)=(r1:Int)*((r0/r1:Nat):Int)+((r0 % r1:Nat):Int):=by
   have:(r0:Int)=((r1*(r0/r1)+r0 % r1:Nat):Int):=by rw[ha]
   rw[this];simp
  generalize((r0/r1:Nat):Int)=q at*
  generalize((r0 % r1:Nat):Int)=r2 at*
  rw[xfK,xfK,xbG,xbG];have e2:q*(u1*a)+q*(v1*b)=r1*q:=by rw[<-xeP,e1,xbi]
  omega
 ·rw[<-h.g,xeu r1,<-Nat.gcd_rec,xeu]
theorem Bz.nat{n:Nat}(h:n<18446744073709551616^K):Bz K (n:Int):=by unfold Bz;rw[xbc];exact h
theorem Uu{q x0 y0 z0 x1 y1 z1:Int}(hq:Bz K q)(h1:Bz K x0)(h2:Bz K y0)(h3:Bz K z0)(h4:Bz K x1)(h5:Bz K y1)(h6:Bz K z1)(hK:K<=10000)(hf:3000000<=fu):
 kq fu (yP x0,(yP y0,yP z0)) (yP q) (yP x1,(yP y1,yP z1))=some (yP (x0-q*x1),(yP (y0-q*y1),yP (z0-q*z1))):=by
 unfold kq;have b1:=hq.mul h4;have b2:=hq.mul h5;have b3:=hq.mul h6;simp only;rw[za (ye (hq.ok (by omega)) (h4.ok (by omega)) hf),zt,zt,za (v8 (h1.ok (by omega)) (b1.ok (by omega)) hf),zt,zt,za (ye (hq.ok (by omega)) (h5.ok (by omega)) hf),zt,zt,za (v8 (h2.ok (by omega)) (b2.ok (by omega)) hf),zt,zt,za (ye (hq.ok (by omega)) (h6.ok (by omega)) hf),zt,zt,za (v8 (h3.ok (by omega)) (b3.ok (by omega)) hf),zt,zt]
theorem MW(h:r1<=r0)(hr:0<r1):bl (r0 % r1)<bl r0:=by
 have ha:=xbC r0 r1;have hc:=xbp r0 hr;have hq:1<=r0/r1:=(xcs hr).2 (by omega);have h1:r1*1<=r1*(r0/r1):=xaJ _ hq;have hb:=lZ r0;have hp:1<=bl r0:=by rw[Jc (by omega)];omega
 have e:2^bl r0=2*2^(bl r0-1):=by rw[<-xeY,show(bl r0-1).succ=bl r0 by omega]
 have:=Qy (n:=r0 % r1) (k:=bl r0-1) (by omega);omega
theorem NS(ha:a<18446744073709551616^K)(hb:b<18446744073709551616^K)(hK:K<=1000)(hf:3000000<=fu)(hI:ZbI a b r0 r1 u0 v0 u1 v1):
 ∃r,zj (Xh fu) fu ((yP r0,(yP u0,yP v0)),(yP r1,(yP u1,yP v1)))=some r/\ ∃u v:Int,r=(yP (xee a b:Nat),(yP u,yP v))/\u*a+v*b=(xee a b:Nat)/\u.natAbs<=b/\v.natAbs<=a:=by
 have hc: ∀{n:Nat},n<=max a b->bl n<=64*K:=fun{n} hn=>Qy (by
  rw[xdc,nG];omega)
 refine yA (fun s:(Zr×(Zr×Zr))×(Zr×(Zr×Zr))=> ∃(r0 r1:Nat) (u0 v0 u1 v1:Int),s=((yP r0,(yP u0,yP v0)),(yP r1,(yP u1,yP v1)))/\ZbI a b r0 r1 u0 v0 u1 v1) (fun s=>bl (zv s.1.1).natAbs+bl (zv s.2.1).natAbs+if(zv s.1.1).natAbs<(zv s.2.1).natAbs then 1 else 0) _ ?_ _ _ ⟨r0,r1,u0,v0,u1,v1,rfl,hI⟩ ?_
 ·rintro s L ⟨r0,r1,u0,v0,u1,v1,rfl,hI⟩ ih;have hz: ∀x:Int,x.natAbs<=max a b->Bz K x:=fun x hx=>by unfold Bz;omega
  have z0:Bz K (r0:Int):=hz _ (by have:=hI.le0;omega);have z1:Bz K (r1:Int):=hz _ (by have:=hI.le1;omega);unfold Xh;simp only;rw[za (xa (z1.ok (by omega)) hf),zt];by_cases h0:r1=0
  ·rw[iq (jd.2 (by omega))];have hg:=hI.g;rw[h0,Nat.gcd_zero_right]at hg;exact⟨_,rfl,u0,v0,by rw[hg],by rw[hI.e0,hg],hI.bu0,hI.bv0⟩
  ·rw[ir (fun e=>h0 (by have:=jd.1 e;omega)),za (VG (z0.okS (by omega)) (z1.okS (by omega)) hf),zt,zt];unfold zap;rw[zx];simp only;have hq:((r0:Int)/(r1:Int))=((r0/r1:Nat):Int):=rfl;have zq:Bz K ((r0/r1:Nat):Int):=Bz.nat (by
    have h1:=xdV r0 r1;have h2:=hI.le0;omega)
   have hj:=hI.step (by omega);have hd:=xbC r0 r1;have he:(r0:Int)-((r0/r1:Nat):Int)*(r1:Int)=((r0 % r1:Nat):Int):=by
    have:(r0:Int)=((r1*(r0/r1)+r0 % r1:Nat):Int):=by rw[hd]
    conv=>lhs;rw[this]
    rw[hd];have h2:(r0:Int)=(r1:Int)*((r0/r1:Nat):Int)+((r0 % r1:Nat):Int):=by rw[this];simp
    rw[xbi];omega
   rw[hq,za (Uu zq z0 (hz _ (by have:=hI.bu0;omega)) (hz _ (by have:=hI.bv0;omega)) z1 (hz _ (by have:=hI.bu1;omega)) (hz _ (by have:=hI.bv1;omega)) (by omega) hf),he];refine ih _ ⟨_,_,_,_,_,_,rfl,hj⟩ ?_;simp only[zt,xbc];have hk:=xbp r0 (show 0<r1 by omega);rw[zx];by_cases hi:r0<r1
   ·rw[iq hi,xaE hi];omega
   ·have:=MW (r0:=r0) (r1:=r1) (by omega) (by omega);omega
 ·simp only[zt,xbc];have h1:=hc hI.le0;have h2:=hc hI.le1;split<;>omega
theorem dK{x y:Zr}(hx:zm x.2)(hy:zm y.2)(hc:x.2.length<=K)(hd:y.2.length<=K)(he:zv x=(a:Int))(hg:zv y=(b:Int))(ha:0<a)(hb:0<b)(hK:K<=1000)(hf:3000000<=fu):
 ∃u v:Int,Yr fu x y=some (yP (xee a b:Nat),yP u,yP v)/\u*a+v*b=(xee a b:Nat)/\u.natAbs<=b/\v.natAbs<=a:=by
 have na:nv x.2=a:=by have:=kf x;omega
 have nb:nv y.2=b:=by have:=kf y;omega
 have hA:a<18446744073709551616^K:=by rw[<-na];exact xap (jt hx) (xaK (by decide) hc)
 have hB:b<18446744073709551616^K:=by rw[<-nb];exact xap (jt hy) (xaK (by decide) hd)
 have hI:ZbI a b a b 1 0 0 1:=by refine⟨ha,xeZ _ _,xeH _ _,by omega,by omega,rfl,⟨1,0,.inl ⟨rfl,rfl⟩,by omega⟩,⟨0,1,.inr ⟨rfl,rfl⟩,by omega⟩,by omega,by omega,by omega,by omega⟩
 obtain⟨r,e1,u,v,rfl,e2,e3,e4⟩:=NS (fu:=fu) hA hB hK hf hI;unfold Yr;rw[za (yf hx (by omega) (by omega)),za (z7 (by decide) hf),za (z7 (by decide) hf),za (yf hy (by omega) (by omega)),za (z7 (by decide) hf),za (z7 (by decide) hf),ir (by decide),ir (by decide),na,nb,za e1];simp only;rw[za (xa ⟨hx,by omega⟩ hf),ir (fun e=>by rw[he,vE (by omega)]at e;exact absurd e (by decide)),za rfl,za (xa ⟨hy,by omega⟩ hf),ir (fun e=>by rw[hg,vE (by omega)]at e;exact absurd e (by decide)),za rfl];exact⟨u,v,rfl,e2,e3,e4⟩
end
section
variable{p m:Int}{d:List Int}{k K:Nat}{f:List Zr}
theorem DT{x:Pz}(hp:2<=p)(hx:Fs x)(hf:0<d.length)(hd:ci d (d.length-1)=1)(h:Cg p (x*ci d) (pc 1)):d.length=1:=by
 obtain⟨n,hn⟩:=hx;obtain⟨X,hX⟩: ∃X,X=nl n (fun k=>x k % p):=⟨_,rfl⟩;have ha: ∀k,ci X k=x k % p:=fun k=>by
  rw[hX];exact mU (fun j hj=>by rw[hn j hj,xag]) k
 have he:Nl X:=by rw[hX];exact gf _ _
 have hb:Cg p (ci X*ci d) (pc 1):=(Cg.mul (fun k=>by rw[ha,xaC]) Cg.rfl).trans h;rcases he with h0|h0
 ·have h1:=hb 0;rw[xr,yT fun i hi=>by rw[zP (l:=X) (by omega),xaU]]at h1;unfold pc at h1;rw[iq rfl,xag,xaz (by decide) (by omega)]at h1;cases h1
 ·have hg:0<X.length:=xcE fun e=>h0 (zP (by omega));have ht:(ci X*ci d) (X.length-1+(d.length-1))=ci X (X.length-1):=by
   rw[xr,xQ (i:=X.length-1) fun i hi=> ?_,zM,show X.length-1+(d.length-1)-(X.length-1)=d.length-1 by omega,hd,xce];by_cases hc:i<X.length-1
   ·rw[zP (l:=d) (by omega),xat]
   ·rw[zP (l:=X) (by omega),xaU]
  have h1:=hb (X.length-1+(d.length-1));rw[ht,ha,xaC,<-ha]at h1;refine Decidable.byContradiction fun hk=> ?_;unfold pc at h1;rw[zx,xag]at h1;exact h0 h1
theorem zaZ{g h s t:List Int}{S:Nat}(hp:2<=p)(hR:BzR p g h d s t S)(hd:d.length=0\/ci d (d.length-1)=1)(hc:qD p (ci g) (ci h)):Cg p (ci s*ci g+ci t*ci h) (pc 1):=by
 obtain⟨A,C,z1,z2,d1,d2⟩:=hR.dv;obtain⟨u,v,z3,z4,hc⟩:=hc;have hx:Cg p ((u*A+v*C)*ci d) (pc 1):=by
  refine Cg.trans (Cg.of ?_) ((((Cg.rfl (f:=u)).mul d1.symm).add ((Cg.rfl (f:=v)).mul d2.symm)).trans hc);rw[yo,zd,zd]
 have hb:0<d.length:=by
  refine xcE fun e=> ?_;have h1:=hx 0;rw[xr,yT fun i hi=>by rw[zP (l:=d) (by omega),xat]]at h1;unfold pc at h1;rw[iq rfl,xag,xaz (by decide) (by omega)]at h1;cases h1
 have ha:=hd.resolve_left (by omega);have hl:=DT hp ((z3.mul z1).add (z4.mul z2)) hb ha hx;have e:ci d=pc 1:=by
  funext k;unfold pc;by_cases hk:k=0
  ·rw[iq hk,hk,<-ha,hl]
  ·rw[ir hk,zP (by omega)]
 have:=hR.cg;rw[e]at this;exact this.symm
theorem Yc(hp:wB p=true):vF p.toNat:=by
 refine xaf fun h=> ?_;rw[da (fun e=>h e.2.2)]at hp;exact absurd hp (by decide)
theorem zcz{P N:Nat}(h1:1<=P)(h2:P<=65521)(hk:k<=4*N)(hN:0<N):P^k<18446744073709551616^N:=by
 rw[show(18446744073709551616:Nat)=65536^4 by decide,<-xdc];exact xbe (xaK (by omega) hk) (Nat.pow_lt_pow_left (by omega) (by omega))
theorem e9(hp:wB p=true)(hk:k<=1000):Bz 250 (p^k):=by
 obtain⟨p1,p2⟩:=zo hp;obtain⟨P,rfl⟩:=xaB (show 0<=p by omega);unfold Bz;rw[Int.natAbs_pow,xbc];exact zcz (by omega) (by omega) hk (by decide)
theorem ae(hp:wB p=true)(hk:1<=k):2<=p^k:=by
 obtain⟨p1,p2⟩:=zo hp;obtain⟨P,rfl⟩:=xaB (show 0<=p by omega);have h1:P^1<=P^k:=xaK (by omega) hk;rw[Nat.pow_one]at h1;rw[<-Int.natCast_pow];omega
theorem Uf{i j:Nat}(h:i<=j):p^i∣p^j:=⟨p^(j-i),by rw[<-Int.pow_add,show i+(j-i)=j by omega]⟩
theorem zbx{c:Int}(hp:wB p=true)(hc:c % p≠0)(ha:0<=c):xee c.toNat (p^k).toNat=1:=by
 obtain⟨p1,p2⟩:=zo hp;have hb:=Yc hp;obtain⟨P,rfl⟩:=xaB (show 0<=p by omega);obtain⟨C,rfl⟩:=xaB ha;rw[<-Int.natCast_pow,xaR,xaR];have hm:=xbp C (show 0<P by omega);have h1:xee P (C % P)=1:=Ue (by omega) hb (by omega) hm;have h2:xee C P=1:=by rw[xeu,Nat.gcd_rec,xeu];exact h1
 exact Nat.Coprime.pow_right k h2
structure Rd(K:Nat)(m:Int)(f:List Zr):Prop where
 ok:xc K f
 rd:wj f m=f
theorem Rd.mod(h:Rd K m f)(k:Nat):cf f k % m=cf f k:=by rw[<-ju,h.rd]
theorem Rd.can(h:Rd K m f):f=qi f.length (cf f):=by have:=Qn f m;rw[h.rd]at this;exact this
theorem K9(hm:Bz K m)(h0:0<m)(a:List Zr):Rd K m (wj a m):=⟨Q2 hm h0,mM fun k=>by rw[ju,xaC]⟩
theorem gu{fu:Nat}(hp:wB p=true)(hw:1<=k)(hk:k<=1000)(hF:Rd 250 (p^k) f)(hA:0<f.length)(hB:f.length<=1000)(hb:cf f (f.length-1) % p≠0)(hf:3000000<=fu):
 ∃w u,XY fu f (yP (p^k))=some w/\Rd 250 (p^k) w/\w.length=f.length/\cf w (w.length-1)=1/\(u*cf f (f.length-1)) % p^k=1/\Cg (p^k) (cf w) (pc u*cf f):=by
 have ha:=e9 hp hk;have hx:=ae hp hw;obtain⟨m,hm⟩: ∃m,m=p^k:=⟨_,rfl⟩;have hd:=zbx (k:=k) hp hb (by
  rw[<-hF.mod];exact xcP _ (by omega))
 rw[<-hm]at ha hx hF hd⊢;obtain⟨c,hc⟩: ∃c,c=cf f (f.length-1):=⟨_,rfl⟩;have ho:=yg (a:=c) (p:=m) (by omega);have hq:=hF.mod (f.length-1);rw[<-hc]at hq hb hd⊢;rw[hq]at ho;have hC:c≠0:=fun e=>hb (by rw[e,xag]);have hD:Bz 250 c:=ha.le (by omega);have hg:=hF.ok.get (f.length-1);obtain⟨u,v,e1,e2,e3,e4⟩:=dK (fu:=fu) (K:=250) (a:=c.toNat) (b:=m.toNat) (x:=f.getD (f.length-1) (false,[])) (y:=yP m) hg.1 (yS _) hg.2 ha.len (by rw[Qh,<-hc];omega) (by rw[zt];omega) (by omega) (by omega) (by decide) hf;rw[hd]at e2;have hr:Bz 250 u:=ha.le (by omega);have hs:(u*c) % m=1:=by
  have:u*c=1+m*(-v):=by
   rw[xcT ho.1,xcT (show 0<=m by omega)]at e2;rw[xes,xbi m v];omega
  rw[this,xeB];exact xaz (by decide) (by omega)
 have hy:gh (yP m):=ha.okS (by decide);obtain⟨sc,he⟩: ∃sc,sc=qi f.length (fun j=>cf f j*u):=⟨_,rfl⟩;have ht:xc (250+250) sc:=by rw[he];exact xg fun j=>(hF.ok.bz j).mul hr
 have hz:sc.length<=f.length:=by rw[he,xz];exact qb _ _
 have hu: ∀j,cf sc j=cf f j*u:=fun j=>by rw[he];exact jj (fun i hi=>Jd hi) j
 have hl: ∀j,cf (wj sc m) j=cf f j*u % m:=fun j=>by rw[ju,hu]
 have hn:cf (wj sc m) (f.length-1)=1:=by rw[hl,<-hc,xbi,hs]
 have hv:(wj sc m).length=f.length:=by
  refine xcO (B9 (Qn _ _) fun j hj=> ?_) (xbw fun hE=> ?_)
  ·rw[hl,yb hj,xaU,xag]
  ·rw[yb (by omega)]at hn;cases hn
 refine⟨wj sc m,u,?_,K9 ha (by omega) _,hv,by rw[hv];exact hn,hs,fun j=> ?_⟩
 ·unfold XY;rw[show(f.length:Int)-1=((f.length-1:Nat):Int)by omega,zb,yB,zf,za e1];simp only;rw[za (qx (l:=250) hF.ok ⟨yS _,hr.len⟩ (by decide) (by omega) hf),zt,<-he,za (Zu ht (by decide) hy (by rw[zt];omega) (by omega) hf),zt]
 ·rw[hl,zQ,xaC,xbi]
end
section
variable{G H S f g0 h0:List Zr}{p:Int}{i k lh LS j fu:Nat}
structure TrI(p:Int)(k:Nat)(f g0 h0:List Zr)(lh LS i:Nat)(G H S T:List Zr):Prop where
 i1:1<=i
 ik:i<=k
 rG:Rd 250 (p^i) G
 rH:Rd 250 (p^i) H
 rS:Rd 250 (p^i) S
 rT:Rd 250 (p^i) T
 hl:H.length=lh
 h1:cf H (lh-1)=1
 fac:Cg (p^i) (cf f) ((cf G:Pz)*cf H)
 bez:Cg (p^i) ((cf S:Pz)*cf G+(cf T:Pz)*cf H) (pc 1)
 gp:Cg p (cf G) (cf g0)
 hp:Cg p (cf H) (cf h0)
 sl:S.length<=LS
theorem zbT{m:Int}{T:List Zr}{K:Nat}(hm:2<=m)(hT:Rd K m T)(hl:0<H.length)(h1:cf H (H.length-1)=1)(hb:Cg m ((cf S:Pz)*cf G+(cf T:Pz)*cf H) (pc 1)):T.length<=S.length+G.length+1:=by
 refine xbw fun ha=> ?_;have ht:=uV hT.can (by omega);have hp:=hb (T.length-1+(H.length-1));rw[zI,MV (by omega) hl h1,qk (n:=S.length) (m:=G.length) (fun j hj=>yb hj) (fun j hj=>yb hj) (by omega),xcA,hT.mod]at hp;unfold pc at hp;rw[zx,xag]at hp;exact ht hp
theorem Al{k:Nat}(hi:1<=i)(ha:cf f (f.length-1) % p≠0)(hb:0<f.length):(wj f (p^i)).length=f.length:=by
 refine xcO (Zp _ _) (xbw fun hc=>ha ?_);have h:cf (wj f (p^i)) (f.length-1)=0:=yb (by omega);rw[ju]at h;have hd:p∣p^i:=by
  have:=Uf (p:=p) hi;rw[xbk,xbs,xbY]at this;exact this
 rw[<-xcC _ hd,h,xag]
theorem TrI.lens{T:List Zr}(h:TrI p k f g0 h0 lh LS i G H S T)(hp:wB p=true)(ha:cf f (f.length-1) % p≠0)(hc:0<f.length)(he:0<lh):
 f.length=G.length+(lh-1)/\0<G.length/\cf G (G.length-1)=cf f (f.length-1) % p^i/\T.length<=LS+G.length+1:=by
 have hb:=ae hp h.i1;have hl:=h.hl;have h1:=h.h1;rw[<-hl]at h1;have hd:=Al (k:=k) h.i1 ha hc;obtain⟨e1,e2,e3⟩:=Lz hb h.rG.rd (f:=wj f (p^i)) (mM fun j=>by rw[ju,xaC]) (by omega) (by omega) h1 ((u9 _ _).trans h.fac);have e4:=zbT hb h.rT (by omega) h1 h.bez;have:=h.sl;rw[hd,ju]at e3;exact⟨by omega,e2,e3,by omega⟩
theorem zbc(h:j<=i+i):p^j∣p^i*p^i:=by rw[<-Int.pow_add];exact Uf h
theorem qQ(h:1<=i):p∣p^i:=by
 have:=Uf (p:=p) h;rw[xbk,xbs,xbY]at this;exact this
theorem TrI.step{T:List Zr}(h:TrI p k f g0 h0 lh LS i G H S T)(hp:wB p=true)(hk:k<=1000)(hg:xc 250 f)(hc:cf f (f.length-1) % p≠0)(hi:0<f.length)(hm:0<lh)(hq:i<k)(hr:f.length<=300)(hs:LS<=4500)(ht:lh<=LS)(hf:3000000<=fu):
 ∃G' H' S' T',qw fu [G,H,S,T] f (yP (p^min (2*i) k))=some [G',H',S',T']/\TrI p k f g0 h0 lh LS (min (2*i) k) G' H' S' T':=by
 obtain⟨j,hj⟩: ∃j,j=min (2*i) k:=⟨_,rfl⟩;have hn:=h.i1;obtain⟨l1,l2,l3,l4⟩:=h.lens hp hc hi hm;have ha:=e9 hp (k:=j) (by omega);have hd:=ae hp (k:=j) (by omega);have hl:=h.hl;have h1:=h.h1;have hu:=h.sl;rw[<-hl]at h1;have he:=Uk (fu:=fu) (K:=250) (W:=5000) hg h.rG.ok h.rH.ok h.rS.ok h.rT.ok (by omega) (by omega) (by omega) (by omega) (by omega) (xac _) (by decide) (by decide) (yS (p^j)) ha.len (by rw[zt];exact hd) (by omega) h1 hf;rw[zt]at he;rw[<-hj];refine⟨_,_,_,_,he,?_⟩;have d1:p^j∣p^i*p^i:=zbc (by omega);have d2:p^i∣p^j:=Uf (by omega);have d3:p∣p^i:=qQ hn;obtain⟨f1,f2,f3⟩:=zfg d1 d2 h.fac h.bez (by omega) h1;obtain⟨t1,t2⟩:=LU (f:=f) (g:=G) (s:=S) hd (by omega) h1;have hb:Cg (p^i) ((cf S:Pz)*cf (NB f G H S T (p^j))+(cf T:Pz)*cf (pZ f G H S (p^j))) (pc 1):=((Cg.rfl.mul f2).add (Cg.rfl.mul f3)).trans h.bez;have ho:=zeT d1 d2 hb (by omega) (by rw[t1];exact t2);have hv:=tz (x:=yQ S (UQ (NB f G H S T (p^j)) (pZ f G H S (p^j)) S T (p^j))) (d:=pZ f G H S (p^j)) (m:=p^j) (by omega) (by rw[t1];exact t2);refine⟨by omega,by omega,K9 ha (by omega) _,K9 ha (by omega) _,K9 ha (by omega) _,K9 ha (by omega) _,by omega,by rw[hl]at t2;exact t2,f1,ho,(f2.down d3).trans h.gp,(f3.down d3).trans h.hp,?_⟩;have e1:=Zp (Uh S (iQ (yQ S (UQ (NB f G H S T (p^j)) (pZ f G H S (p^j)) S T (p^j))) (pZ f G H S (p^j)) (p^j))) (p^j);have e2:=Qi S (iQ (yQ S (UQ (NB f G H S T (p^j)) (pZ f G H S (p^j)) S T (p^j))) (pZ f G H S (p^j)) (p^j));show(wj _ _).length<=LS;omega
theorem SW(hp:wB p=true)(h1:1<=j)(h2:j<=1000)(hf:3000000<fu):vf fu p (j:Int)=some (yP (p^j),0):=by
 rw[jr hf];unfold bL;rw[if_pos ⟨hp,by omega,by omega⟩,xaR]
theorem NC{T:List Zr}(h:TrI p k f g0 h0 lh LS 1 G H S T)(hp:wB p=true)(hk:k<=1000)(hb:xc 250 f)(ha:cf f (f.length-1) % p≠0)(hc:0<f.length)(hd:0<lh)(he:f.length<=300)(hg:LS<=4500)(hi:lh<=LS)(hf:3000000<fu):
 ∃G' H' S' T',zj (ui fu f p (k:Int)) fu (1,[G,H,S,T])=some [G',H',S',T']/\TrI p k f g0 h0 lh LS k G' H' S' T':=by
 obtain⟨r,e1,G',H',S',T',rfl,e2⟩:=yA (f:=ui fu f p (k:Int)) (fun s:Int×List (List Zr)=> ∃(i:Nat) (G H S T:List Zr),s=((i:Int),[G,H,S,T])/\TrI p k f g0 h0 lh LS i G H S T) (fun s=>k-s.1.toNat) (fun r=> ∃G H S T,r=[G,H,S,T]/\TrI p k f g0 h0 lh LS k G H S T) (by
  rintro s L ⟨i,G,H,S,T,rfl,h⟩ ih;unfold ui;simp only;have hj:=h.i1;have hl:=h.ik;by_cases h3:i<k
  ·obtain⟨G',H',S',T',e1,e2⟩:=h.step (fu:=fu) hp hk hb ha hc hd h3 he hg hi (by omega);have ej:min (2*(i:Int)) (k:Int)=((min (2*i) k:Nat):Int):=by omega
   rw[zM,zb,zf,ej,za (SW hp (by omega) (by omega) hf)];simp only;rw[za e1];exact ih _ ⟨_,_,_,_,_,rfl,e2⟩ (by show k-((min (2*i) k:Nat):Int).toNat<k-(i:Int).toNat;omega)
  ·rw[zx];obtain rfl:i=k:=by omega
   exact⟨_,rfl,_,_,_,_,rfl,h⟩) fu (1,[G,H,S,T]) ⟨1,_,_,_,_,rfl,h⟩ (by show k-1<fu;omega)
 exact⟨_,_,_,_,e1,e2⟩
end
section
variable{p:Int}{l:List Int}{g:Pz}
theorem RN{a b:List Int}(hp:2<=p)(ha:0<a.length)(hd:ci a (a.length-1)=1)(hb:0<b.length)(he:ci b (b.length-1)=1):(y4 p a b).length=a.length+b.length-1/\ci (y4 p a b) (a.length+b.length-1-1)=1:=by
 have ht:(ci a*ci b) (a.length-1+(b.length-1))=1:=by
  rw[xr,xQ (i:=a.length-1) fun i hi=> ?_,zM,show a.length-1+(b.length-1)-(a.length-1)=b.length-1 by omega,he,hd]
  ·rfl
  ·by_cases hc:i<a.length-1
   ·rw[zP (l:=b) (by omega),xat]
   ·rw[zP (l:=a) (by omega),xaU]
 have h1:ci (y4 p a b) (a.length+b.length-1-1)=1:=by
  rw[Q6,show a.length+b.length-1-1=a.length-1+(b.length-1)by omega,ht];exact xaz (by decide) (by omega)
 refine⟨xcO ((vG (by omega) a b).nl.le fun k hk=> ?_) (xbw fun hf=> ?_),h1⟩
 ·rw[Q6,qk (n:=a.length) (m:=b.length) (fun j hj=>zP hj) (fun j hj=>zP hj) (by omega),xag]
 ·rw[zP (by omega)]at h1;cases h1
theorem Dw{p:Int}(hp:2<=p): ∀(fs:List (List Int)) {t:List Int},0<t.length->ci t (t.length-1)=1->(∀f∈fs,Gz p f)->0<(fs.foldl (y4 p) t).length/\ci (fs.foldl (y4 p) t) ((fs.foldl (y4 p) t).length-1)=1
 |[],_,h0,h1,_=>⟨h0,h1⟩
 |f::r,t,h0,h1,h=>by
  have hf:=h f (FS);obtain⟨e1,e2⟩:=RN hp h0 h1 (show 0<f.length by have:=hf.2.1;omega) hf.2.2;have:=hf.2.1;exact Dw hp r (t:=y4 p t f) (by omega) (by rw[e1];exact e2) fun g hg=>h g (H1 _ hg)
theorem N8(hp:2<=p){fs:List (List Int)}(h: ∀f∈fs,Gz p f):0<(Xz p fs).length/\ci (Xz p fs) ((Xz p fs).length-1)=1:=Dw hp fs (by decide) rfl h
theorem sX(h:Nl l):(qX l).length=l.length:=by
 unfold qX;rw[xz];exact K1 (xac _) (fun k h1 h2=>by omega) (h.imp id id)
theorem cZ(h:Fp p l)(ha:p<=65521):Rd 250 (p^1) (qX l):=by
 refine⟨(En (h.rl ha)).mono (by decide),?_⟩;rw[xbk,xbs,xbY];unfold wj;rw[show(fun j=>cf (qX l) j % p)=cf (qX l)from funext fun j=>by rw[qt,h.mod]];exact EP _ _
theorem qD.congr{f f' g':Pz}(h:qD p f g)(hf:Cg p f f')(hg:Cg p g g'):qD p f' g':=by
 obtain⟨s,t,z1,z2,h⟩:=h;exact⟨s,t,z1,z2,((Cg.rfl.mul hf.symm).add (Cg.rfl.mul hg.symm)).trans h⟩
theorem sZ{A B:List (List Int)}(h: ∀a∈A,∀b∈B,qD p (ci a) (ci b)):qD p (prZ (A.map ci)) (prZ (B.map ci)):=by
 have hA: ∀f∈A.map ci,Fs f:=fun f hf=>by obtain⟨a,_,rfl⟩:=xal.1 hf;exact Fs.ci a
 have hB: ∀f∈B.map ci,Fs f:=fun f hf=>by obtain⟨a,_,rfl⟩:=xal.1 hf;exact Fs.ci a
 refine(qD.prZ (Fs.prZ hA) hB fun g hg=> ?_).symm;obtain⟨b,hb,rfl⟩:=xal.1 hg;refine(qD.prZ (Fs.ci b) hA fun f hf=> ?_).symm;obtain⟨a,ha,rfl⟩:=xal.1 hf;exact h a ha b hb
theorem SG{c:Int}(hp:wB p=true)(h0:0<c)(h1:c<p):qD p (pc c) g:=by
 obtain⟨x,e1,e2,e3,e4⟩:=Vj (fu:=3000000) hp h0 h1 (xac _);obtain⟨p1,p2⟩:=zo hp;refine⟨pc x,pc 0,Fs.pc _,Fs.pc _,?_⟩;rw[yc,jX];intro k;rw[zI,zK,xbx];unfold pc;split
 ·rw[e4];exact(xaz (by decide) (by omega)).symm
 ·rfl
def ni{α β:Type}(R:α->β->Prop):List α->List β->Prop
 |[],[]=>True
 |a::r,b::s=>R a b/\ni R r s
 |_,_=>False
theorem ni.append{α β:Type}{R:α->β->Prop}: ∀{a:List α} {b:List β} {c:List α} {d:List β},ni R a b->ni R c d->ni R (a++c) (b++d)
 |[],[],_,_,_,h=>h
 |_::_,_::_,_,_,h,h'=>⟨h.1,ni.append h.2 h'⟩
theorem ni.len{α β:Type}{R:α->β->Prop}: ∀{a:List α} {b:List β},ni R a b->a.length=b.length
 |[],[],_=>rfl
 |_::_,_::_,h=>by rw[xav,xav,h.2.len]
structure Up(p:Int)(k:Nat)(u:List Zr)(g:List Int):Prop where
 rd:Rd 250 (p^k) u
 len:u.length=g.length
 top:cf u (u.length-1)=1
 cg:Cg p (cf u) (ci g)
theorem Nj{f:List Zr}(h:0<f.length):f.drop (f.length-1)=[f.getD (f.length-1) (false,[])]:=sB (by omega)
theorem RQ{z:Zr}(hp:0<p)(h0:zv z % p≠0):vC p [z]=[zv z % p]:=by
 have hr:=yg (a:=zv z) (p:=p) hp;refine(XX hp [z]).ext (ZQ (by omega) hr.2) ((K4 p [z]).trans fun k=> ?_);rw[vW]
 cases k with
 |zero=>show zv z % p=(zv z % p) % p;rw[xaC]
 |succ k=>rw[yb (p:=[z]) (by simp)];rfl
end
end Go.Proofs.YtmggkmchbdanfaaGreat
