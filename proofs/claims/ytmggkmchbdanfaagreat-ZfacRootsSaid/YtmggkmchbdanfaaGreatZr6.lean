/- What a proof needs: rules of walking, mirrors of functions and their plain laws. No condition. -/
import Derived.Test.YtmggkmchbdanfaaGreatZr5
set_option linter.unusedVariables false
set_option linter.unusedSimpArgs false
namespace Go.Proofs.YtmggkmchbdanfaaGreat
open Bool renaming false_eq_true->xak
open Classical renaming byContradiction->xae,choose_spec->xfC,not_forall->xfI
open Int renaming add_comm->xfa,add_emod->xdO,add_mul_emod_self_left->xeK,add_zero->xbD,dvd_mul_left->xcQ,dvd_mul_right->xco,dvd_neg->xfQ,dvd_of_emod_eq_zero->xaJ,dvd_refl->xdP,dvd_sub->xdp,dvd_trans->xbG,dvd_zero->xcO,emod_emod->xaF,emod_emod_of_dvd->xcF,emod_eq_emod_iff_emod_sub_eq_zero->xaE,emod_eq_of_lt->xaC,emod_eq_zero_of_dvd->xaB,emod_lt_of_pos->xdy,emod_nonneg->xcV,eq_ofNat_of_zero_le->xaA,le_refl->xeY,mul_add->xeX,mul_assoc->xbK,mul_comm->xbm,mul_dvd_mul->xfP,mul_emod->xbr,mul_eq_zero->xeF,mul_le_mul_of_nonneg_left->xaW,mul_ne_zero->xdw,mul_neg->xeC,mul_nonneg->xcB,mul_one->xck,mul_zero->xau,natAbs_dvd_natAbs->xcq,natAbs_ediv_le_natAbs->xdr,natAbs_mul->xcg,natAbs_natCast->xbe,natCast_add->xdZ,natCast_dvd_natCast->xdC,one_mul->xca,pow_nonneg->xfv,pow_succ->xbl,pow_zero->xbs,sub_mul->xfR,sub_self->xdb,sub_zero->xcE,tdiv->xdd,tdiv_eq_ediv_of_nonneg->xdH,tmod->xcc,toNat_natCast->xaK,toNat_of_nonneg->xcZ,zero_add->xcD,zero_ediv->xfJ,zero_emod->xag,zero_mul->xaS
open List renaming all_eq_true->xaR,append_assoc->xaj,append_nil->xbR,append_of_mem->xdQ,cons_append->xbI,drop->xdA,ext_getElem?->xcy,filter_cons->xdk,getD_eq_getElem?_getD->H1,getElem?_append_left->xbq,getElem?_append_right->xcn,getElem?_drop->xet,getElem?_eq_getElem->xaa,getElem?_eq_none->xaH,getElem?_map->xaT,getElem?_range->xby,getElem?_set->xeb,getElem?_take->xcp,getElem_mem->xbn,getElem_of_mem->xcJ,length->xaI,length_append->xax,length_cons->xaq,length_drop->xbO,length_eq_zero_iff->xbF,length_filter_le->xfD,length_map->xaP,length_nil->xbS,length_pos_of_mem->xfm,length_range->xcA,length_set->xcK,length_take->xav,map_append->xbg,map_congr_left->xci,map_cons->xbX,map_map->xcT,mem_append->Nm,mem_append_left->xdB,mem_append_right->xdR,mem_cons->xac,mem_cons_of_mem->UV,mem_cons_self->FS,mem_filter->xcj,mem_iff_getElem->xdW,mem_map->xal,mem_map_of_mem->xbL,mem_of_mem_drop->xeL,mem_of_mem_take->xdV,mem_range->xbf,mem_singleton->xai,nodup_cons->xfh,pairwise_append->xdj,pairwise_cons->xbJ,pairwise_iff_forall_sublist->xdl,pairwise_iff_getElem->xcW,pairwise_map->xdq,perm_middle->xct,range->xbc,range_succ->xdu,replicate->xaf,set_append_right->xfA,take->xdt,take_append_drop->xbN,take_of_length_le->xaQ
open List.Pairwise renaming nil->xfn
open List.Perm renaming append_left->xcf,refl->xdE
open Nat renaming add_assoc->xcR,add_comm->xdD,add_mul->xaV,beq->xap,div_div_eq_div_mul->xaL,div_eq_of_lt->xbv,div_one->xdU,eq_of_beq_eq_true->xcL,eq_zero_or_pos->xcu,gcd->xen,gcd_comm->xeE,le_antisymm->xcU,le_of_not_lt->xbw,le_refl->xab,le_trans->xam,lt_of_le_of_lt->xba,lt_of_lt_of_le->xan,lt_of_not_le->xdz,lt_succ_self->xbY,min_eq_left->xcM,mod_eq_of_lt->xar,mod_lt->xbi,mul_add->xbh,mul_comm->xaU,mul_le_mul->xbH,mul_le_mul_left->xaD,mul_le_mul_right->xaw,mul_one->xcG,not_lt_zero->xbp,one_mul->xcm,pos_of_ne_zero->xcI,pow_add->xbZ,pow_le_pow_right->xay,pow_lt_pow_right->xeM,pow_mul->xdf,pow_pos->xbk,pow_succ->xbb,pow_zero->xeg,strongRecOn->xds,sub_self->xda,zero_add->xaN,zero_le->xah
open Option renaming getD_some->xeQ
section
variable{p m:Int}{d:List Int}{k K:Nat}{f:List Zr}
theorem Gx{x:Pz}(hp:2<=p)(hx:Fs x)(hf:0<d.length)(hd:ci d (d.length-1)=1)(h:Cg p (x*ci d) (pc 1)):d.length=1:=by
 obtain⟨n,hn⟩:=hx;obtain⟨X,hX⟩:∃X,X=nl n (fun k=>x k%p):=⟨_,rfl⟩;have ha:∀k,ci X k=x k%p:=fun k=>by
  rw[hX];exact sx (fun j hj=>by rw[hn j hj,xag]) k
 have he:Nl X:=by rw[hX];exact me _ _
 have hb:Cg p (ci X*ci d) (pc 1):=(Cg.mul (fun k=>by rw[ha,xaF]) Cg.rfl).trans h;rcases he with h0|h0
 ·have h1:=hb 0;rw[xt,yG fun i hi=>by rw[zM (l:=X) (by lia),xaS]]at h1;unfold pc at h1;rw[iq rfl,xag,xaC (by decide)<|by lia]at h1;cases h1
 ·have hg:0<X.length:=xcI fun e=>h0 (zM<|by lia);have ht:(ci X*ci d) (X.length-1+(d.length-1))=ci X (X.length-1):=by
   rw[xt,xU (i:=X.length-1) fun i hi=> ?_,zN,show X.length-1+(d.length-1)-(X.length-1)=d.length-1 by lia,hd,xck];by_cases hc:i<X.length-1
   ·rw[zM (l:=d) (by lia),xau]
   ·rw[zM (l:=X) (by lia),xaS]
  have h1:=hb<|X.length-1+(d.length-1);rw[ht,ha,xaF,<-ha]at h1;refine Decidable.byContradiction fun hk=> ?_;unfold pc at h1;rw[zy,xag]at h1;exact h0 h1
theorem ze5{g h s t:List Int}{S:Nat}(hp:2<=p)(hR:BzR p g h d s t S)(hd:d.length=0\/ci d (d.length-1)=1)(hc:vD p (ci g) (ci h)):Cg p (ci s*ci g+ci t*ci h) (pc 1):=by
 obtain⟨A,C,z1,z2,d1,d2⟩:=hR.dv;obtain⟨u,v,z3,z4,hc⟩:=hc;have hx:Cg p ((u*A+v*C)*ci d) (pc 1):=by
  refine Cg.trans (Cg.of ?_)<|(((Cg.rfl (f:=u)).mul d1.symm).add<|(Cg.rfl (f:=v)).mul d2.symm).trans hc;rw[yg,zd,zd]
 have hb:0<d.length:=by
  refine xcI fun e=> ?_;have h1:=hx 0;rw[xt,yG fun i hi=>by rw[zM (l:=d) (by lia),xau]]at h1;unfold pc at h1;rw[iq rfl,xag,xaC (by decide)<|by lia]at h1;cases h1
 have ha:=hd.resolve_left (by lia);have hl:=Gx hp ((z3.mul z1).add<|z4.mul z2) hb ha hx;have e:ci d=pc 1:=by
  funext k;unfold pc;by_cases hk:k=0
  ·rw[iq hk,hk,<-ha,hl]
  ·rw[ir hk,zM<|by lia]
 have:=hR.cg;rw[e]at this;exact this.symm
theorem Ys(hp:wz p=true):vX p.toNat:=by
 refine xae fun h=> ?_;rw[tN<|fun e=>h e.2.2]at hp;exact absurd hp<|by decide
theorem zd2{P N:Nat}(h1:1<=P)(h2:P<=65521)(hk:k<=4*N)(hN:0<N):P^k<18446744073709551616^N:=by
 rw[show(18446744073709551616:Nat)=65536^4 by decide,<-xdf];exact xba (xay (by lia) hk)<|Nat.pow_lt_pow_left (by lia)<|by lia
theorem iH(hp:wz p=true)(hk:k<=1000:=by lia):Bz 250 (p^k):=by
 obtain⟨p1,p2⟩:=zn hp;obtain⟨P,rfl⟩:=xaA (show 0<=p by lia);unfold Bz;rw[Int.natAbs_pow,xbe];exact zd2 (by lia) (by lia) hk<|by decide
theorem cH(hp:wz p=true)(hk:1<=k:=by lia):2<=p^k:=by
 obtain⟨p1,p2⟩:=zn hp;obtain⟨P,rfl⟩:=xaA (show 0<=p by lia);have h1:P^1<=P^k:=xay (by lia) hk;rw[Nat.pow_one]at h1;rw[<-Int.natCast_pow];lia
theorem aH{i j:Nat}(h:i<=j:=by lia):p^i∣p^j:=⟨p^(j-i),by rw[<-Int.pow_add,show i+(j-i)=j by lia]⟩
theorem zeF{c:Int}(hp:wz p=true)(hc:c%p≠0)(ha:0<=c):xen c.toNat (p^k).toNat=1:=by
 obtain⟨p1,p2⟩:=zn hp;have hb:=Ys hp;obtain⟨P,rfl⟩:=xaA (show 0<=p by lia);obtain⟨C,rfl⟩:=xaA ha;rw[<-Int.natCast_pow,xaK,xaK];have hm:=xbi C (show 0<P by lia);have h1:xen P (C%P)=1:=af (by lia) hb (by lia) hm;have h2:xen C P=1:=by rw[xeE,Nat.gcd_rec,xeE];exact h1
 exact Nat.Coprime.pow_right k h2
structure Rd(K:Nat)(m:Int)(f:List Zr):Prop where
 ok:y9 K f
 rd:wA f m=f
theorem Rd.mod(h:Rd K m f)(k:Nat):cf f k%m=cf f k:=by rw[<-jE,h.rd]
theorem Rd.can(h:Rd K m f):f=vP f.length (cf f):=by have:=Jc f m;rw[h.rd]at this;exact this
theorem aI(hm:Bz K m)(h0:0<m)(a:List Zr):Rd K m (wA a m):=⟨Jy hm h0,tu fun k=>by rw[jE,xaF]⟩
theorem nD{fu:Nat}(hp:wz p=true)(hw:1<=k)(hk:k<=1000)(hF:Rd 250 (p^k) f)(hA:0<f.length)(hB:f.length<=1000)(hb:cf f (f.length-1)%p≠0)(hf:3000000<=fu):
 ∃w u,Wb fu f (yH<|p^k)=some w/\Rd 250 (p^k) w/\w.length=f.length/\cf w (w.length-1)=1/\(u*cf f (f.length-1))%p^k=1/\Cg (p^k) (cf w) (pc u*cf f):=by
 have ha:=iH hp hk;have hx:=cH hp hw;obtain⟨m,hm⟩:∃m,m=p^k:=⟨_,rfl⟩;have hd:=zeF (k:=k) hp hb (by
  rw[<-hF.mod];exact xcV _<|by lia)
 rw[<-hm]at ha hx hF hd⊢;obtain⟨c,hc⟩:∃c,c=cf f (f.length-1):=⟨_,rfl⟩;have ho:=yc (a:=c) (p:=m);have hq:=hF.mod<|f.length-1;rw[<-hc]at hq hb hd⊢;rw[hq]at ho;have hC:c≠0:=fun e=>hb (by rw[e,xag]);have hD:Bz 250 c:=ha.le (by lia);have hg:=hF.ok.get<|f.length-1;obtain⟨u,v,e1,e2,e3,e4⟩:=gM (fu:=fu) (K:=250) (a:=c.toNat) (b:=m.toNat) (x:=f.getD (f.length-1) (false,[])) (y:=yH m) hg.1 (yT _) hg.2 ha.len (by rw[VG,<-hc];lia) (by rw[zw];lia) (by lia) (by lia) (by decide) hf;rw[hd]at e2;have hr:Bz 250 u:=ha.le (by lia);have hs:(u*c)%m=1:=by
  have:u*c=1+m*(-v):=by
   rw[xcZ ho.1,xcZ (show 0<=m by lia)]at e2;rw[xeC,xbm m v];lia
  rw[this,xeK];exact xaC (by decide)<|by lia
 have hy:gK (yH m):=ha.okS (by decide);obtain⟨sc,he⟩:∃sc,sc=vP f.length (fun j=>cf f j*u):=⟨_,rfl⟩;have ht:y9 (250+250) sc:=by rw[he];exact xa fun j=>(hF.ok.bz j).mul hr
 have hz:sc.length<=f.length:=by rw[he,xJ];exact vZ _ _
 have hu:∀j,cf sc j=cf f j*u:=fun j=>by rw[he];exact jy (fun i hi=>JV hi) j
 have hl:∀j,cf (wA sc m) j=cf f j*u%m:=fun j=>by rw[jE,hu]
 have hn:cf (wA sc m) (f.length-1)=1:=by rw[hl,<-hc,xbm,hs]
 have hv:(wA sc m).length=f.length:=by
  refine xcU (C6 (Jc _ _) fun j hj=> ?_)<|xbw fun hE=> ?_
  ·rw[hl,ye hj,xaS,xag]
  ·rw[ye<|by lia]at hn;cases hn
 refine⟨wA sc m,u,?_,aI ha (by lia) _,hv,by rw[hv];exact hn,hs,fun j=> ?_⟩
 ·unfold Wb;rw[show(f.length:Int)-1=((f.length-1:Nat):Int)by lia,zb,yj,zf,za e1];simp only;rw[za<|qL (l:=250) hF.ok ⟨yT _,hr.len⟩ (by decide) (by lia) hf,zw,<-he,za (Zn ht (by decide) hy<|by rw[zw];lia),zw]
 ·rw[hl,zE,xaF,xbm]
end
section
variable{G H S f g0 h0:List Zr}{p:Int}{i k lh LS j fu:Nat}
structure TrI(p:Int)(k:Nat)(f g0 h0:List Zr)(lh LS i:Nat)(G H S T:List Zr):Prop where
 i1:1<=i
 ik:i<=k
 rG:Rd 250 (p^i) G
 rH:Rd 250 (p^i) H
 rS:Rd 250 (p^i) S
 rT:Rd 250 (p^i) T
 hl:H.length=lh
 h1:cf H (lh-1)=1
 fac:Cg (p^i) (cf f) ((cf G:Pz)*cf H)
 bez:Cg (p^i) ((cf S:Pz)*cf G+(cf T:Pz)*cf H) (pc 1)
 gp:Cg p (cf G) (cf g0)
 hp:Cg p (cf H) (cf h0)
 sl:S.length<=LS
theorem zdX{m:Int}{T:List Zr}{K:Nat}(hm:2<=m)(hT:Rd K m T)(hl:0<H.length)(h1:cf H (H.length-1)=1)(hb:Cg m ((cf S:Pz)*cf G+(cf T:Pz)*cf H) (pc 1)):T.length<=S.length+G.length+1:=by
 refine xbw fun ha=> ?_;have ht:=ZB hT.can (by lia);have hp:=hb<|T.length-1+(H.length-1);rw[zI,OE (by lia) hl h1,vL (n:=S.length) (m:=G.length) (fun j hj=>ye hj)<|fun j hj=>ye hj,xcD,hT.mod]at hp;unfold pc at hp;rw[zy,xag]at hp;exact ht hp
theorem Fj{k:Nat}(hi:1<=i)(ha:cf f (f.length-1)%p≠0)(hb:0<f.length):(wA f<|p^i).length=f.length:=by
 refine xcU (ZV _ _)<|xbw fun hc=>ha ?_;have h:cf (wA f<|p^i) (f.length-1)=0:=ye (by lia);rw[jE]at h;have hd:p∣p^i:=by
  have:=aH (p:=p) hi;rw[xbl,xbs,xca]at this;exact this
 rw[<-xcF _ hd,h,xag]
theorem TrI.lens{T:List Zr}(h:TrI p k f g0 h0 lh LS i G H S T)(hp:wz p=true)(ha:cf f (f.length-1)%p≠0)(hc:0<f.length)(he:0<lh):
 f.length=G.length+(lh-1)/\0<G.length/\cf G (G.length-1)=cf f (f.length-1)%p^i/\T.length<=LS+G.length+1:=by
 have hb:=cH hp h.i1;have hl:=h.hl;have h1:=h.h1;rw[<-hl]at h1;have hd:=Fj (k:=k) h.i1 ha hc;obtain⟨e1,e2,e3⟩:=Pe hb h.rG.rd (f:=wA f<|p^i) (tu fun j=>by rw[jE,xaF]) (by lia) (by lia) h1<|(Zt _ _).trans h.fac;have e4:=zdX hb h.rT (by lia) h1 h.bez;have:=h.sl;rw[hd,jE]at e3;exact⟨by lia,e2,e3,by lia⟩
theorem zeM(h:j<=i+i):p^j∣p^i*p^i:=by rw[<-Int.pow_add];exact aH h
theorem jd(h:1<=i:=by lia):p∣p^i:=by
 have:=aH (p:=p) h;rw[xbl,xbs,xca]at this;exact this
theorem TrI.step{T:List Zr}(h:TrI p k f g0 h0 lh LS i G H S T)(hp:wz p=true)(hk:k<=1000)(hg:y9 250 f)(hc:cf f (f.length-1)%p≠0)(hi:0<f.length)(hm:0<lh)(hq:i<k)(hr:f.length<=300)(hs:LS<=4500)(ht:lh<=LS)(hf:3000000<=fu):
 ∃G' H' S' T',qJ fu [G,H,S,T] f (yH<|p^min (2*i) k)=some [G',H',S',T']/\TrI p k f g0 h0 lh LS (min (2*i) k) G' H' S' T':=by
 obtain⟨j,hj⟩:∃j,j=min (2*i) k:=⟨_,rfl⟩;have hn:=h.i1;obtain⟨l1,l2,l3,l4⟩:=h.lens hp hc hi hm;have ha:=iH hp (k:=j);have hd:=cH hp (k:=j);have hl:=h.hl;have h1:=h.h1;have hu:=h.sl;rw[<-hl]at h1;have he:=aK (fu:=fu) (K:=250) (W:=5000) hg h.rG.ok h.rH.ok h.rS.ok h.rT.ok (by lia) (by lia) (by lia) (by lia) (by lia) (xab _) (by decide) (by decide) (yT<|p^j) ha.len (by rw[zw];exact hd) (by lia) h1 hf;rw[zw]at he;rw[<-hj];refine⟨_,_,_,_,he,?_⟩;have d1:p^j∣p^i*p^i:=zeM (by lia);have d2:p^i∣p^j:=aH;have d3:p∣p^i:=jd hn;obtain⟨f1,f2,f3⟩:=zgz d1 d2 h.fac h.bez (by lia) h1;obtain⟨t1,t2⟩:=Oh (f:=f) (g:=G) (s:=S) hd (by lia) h1;have hb:Cg (p^i) ((cf S:Pz)*cf (PV f G H S T<|p^j)+(cf T:Pz)*cf (A6 f G H S<|p^j)) (pc 1):=((Cg.rfl.mul f2).add<|Cg.rfl.mul f3).trans h.bez;have ho:=zhF d1 d2 hb (by lia) (by rw[t1];exact t2);have hv:=BB (x:=yQ S<|bj (PV f G H S T<|p^j) (A6 f G H S<|p^j) S T<|p^j) (d:=A6 f G H S<|p^j) (m:=p^j) (by lia) (by rw[t1];exact t2);refine⟨by lia,by lia,aI ha (by lia) _,aI ha (by lia) _,aI ha (by lia) _,aI ha (by lia) _,by lia,by rw[hl]at t2;exact t2,f1,ho,(f2.down d3).trans h.gp,(f3.down d3).trans h.hp,?_⟩;have e1:=ZV (aU S<|oC (yQ S<|bj (PV f G H S T<|p^j) (A6 f G H S<|p^j) S T<|p^j) (A6 f G H S<|p^j)<|p^j)<|p^j;have e2:=QN S<|oC (yQ S<|bj (PV f G H S T<|p^j) (A6 f G H S<|p^j) S T<|p^j) (A6 f G H S<|p^j)<|p^j;show(wA _ _).length<=LS;lia
theorem zcK(hp:wz p=true)(h1:1<=j)(h2:j<=1000)(hf:3000000<fu):vz fu p (j:Int)=some (yH<|p^j,0):=by grind [fQ,jB,xaK]
theorem PZ{T:List Zr}(h:TrI p k f g0 h0 lh LS 1 G H S T)(hp:wz p=true)(hk:k<=1000)(hb:y9 250 f)(ha:cf f (f.length-1)%p≠0)(hc:0<f.length)(hd:0<lh)(he:f.length<=300)(hg:LS<=4500)(hi:lh<=LS)(hf:3000000<fu):
 ∃G' H' S' T',zg (uE fu f p (k:Int)) fu (1,[G,H,S,T])=some [G',H',S',T']/\TrI p k f g0 h0 lh LS k G' H' S' T':=by
 obtain⟨r,e1,G',H',S',T',rfl,e2⟩:=yv (f:=uE fu f p (k:Int)) (fun s:Int×List (List Zr)=>∃(i:Nat) (G H S T:List Zr),s=((i:Int),[G,H,S,T])/\TrI p k f g0 h0 lh LS i G H S T) (fun s=>k-s.1.toNat) (fun r=>∃G H S T,r=[G,H,S,T]/\TrI p k f g0 h0 lh LS k G H S T) (by
  rintro s L ⟨i,G,H,S,T,rfl,h⟩ ih;unfold uE;simp only;have hj:=h.i1;have hl:=h.ik;by_cases h3:i<k
  ·obtain⟨G',H',S',T',e1,e2⟩:=h.step (fu:=fu) hp hk hb ha hc hd h3 he hg hi (by lia);have ej:min (2*(i:Int)) (k:Int)=((min (2*i) k:Nat):Int):=by lia
   rw[zN,zb,zf,ej,za<|zcK hp (by lia) (by lia) hf];simp only;rw[za e1];exact ih _ ⟨_,_,_,_,_,rfl,e2⟩ (by show k-((min (2*i) k:Nat):Int).toNat<k-(i:Int).toNat;lia)
  ·rw[zy];obtain rfl:i=k:=by lia
   exact⟨_,rfl,_,_,_,_,rfl,h⟩) fu (1,[G,H,S,T]) ⟨1,_,_,_,_,rfl,h⟩ (by show k-1<fu;lia)
 exact⟨_,_,_,_,e1,e2⟩
end
section
variable{p:Int}{l:List Int}{g:Pz}
theorem zam{a b:List Int}(hp:2<=p)(ha:0<a.length)(hd:ci a (a.length-1)=1)(hb:0<b.length)(he:ci b (b.length-1)=1):(y3 p a b).length=a.length+b.length-1/\ci (y3 p a b) (a.length+b.length-1-1)=1:=by
 have ht:(ci a*ci b) (a.length-1+(b.length-1))=1:=by
  rw[xt,xU (i:=a.length-1) fun i hi=> ?_,zN,show a.length-1+(b.length-1)-(a.length-1)=b.length-1 by lia,he,hd]
  ·rfl
  ·by_cases hc:i<a.length-1
   ·rw[zM (l:=b) (by lia),xau]
   ·rw[zM (l:=a) (by lia),xaS]
 have h1:ci (y3 p a b) (a.length+b.length-1-1)=1:=by
  rw[Ji,show a.length+b.length-1-1=a.length-1+(b.length-1)by lia,ht];exact xaC (by decide)<|by lia
 refine⟨xcU ((vR (by lia) a b).nl.le fun k hk=> ?_)<|xbw fun hf=> ?_,h1⟩
 ·rw[Ji,vL (n:=a.length) (m:=b.length) (fun j hj=>zM hj)<|fun j hj=>zM hj,xag]
 ·rw[zM<|by lia]at h1;cases h1
theorem GG{p:Int}(hp:2<=p):∀(fs:List (List Int)) {t:List Int},0<t.length->ci t (t.length-1)=1->(∀f∈fs,Ll p f)->0<(fs.foldl (y3 p) t).length/\ci (fs.foldl (y3 p) t) ((fs.foldl (y3 p) t).length-1)=1
 |[],_,h0,h1,_=>⟨h0,h1⟩
 |f::r,t,h0,h1,h=>by
  have hf:=h f<|FS;obtain⟨e1,e2⟩:=zam hp h0 h1 (show 0<f.length by have:=hf.2.1;lia) hf.2.2;have:=hf.2.1;exact GG hp r (t:=y3 p t f) (by lia) (by rw[e1];exact e2) fun g hg=>h g<|UV _ hg
theorem Ry(hp:2<=p){fs:List (List Int)}(h:∀f∈fs,Ll p f):0<(X4 p fs).length/\ci (X4 p fs) ((X4 p fs).length-1)=1:=GG hp fs (by decide) rfl h
theorem Bo(h:Nl l):(v7 l).length=l.length:=by
 unfold v7;rw[xJ];exact ax (xab _) (fun k h1 h2=>by lia)<|h.imp id id
theorem dM(h:Fp p l)(ha:p<=65521):Rd 250 (p^1) (v7 l):=by
 refine⟨(tF<|h.rl ha).mono (by decide),?_⟩;rw[xbl,xbs,xca];unfold wA;rw[show(fun j=>cf (v7 l) j%p)=cf (v7 l)from funext fun j=>by rw[vq,h.mod]];exact HO _ _
theorem vD.congr{f f' g':Pz}(h:vD p f g)(hf:Cg p f f')(hg:Cg p g g'):vD p f' g':=by
 obtain⟨s,t,z1,z2,h⟩:=h;exact⟨s,t,z1,z2,((Cg.rfl.mul hf.symm).add<|Cg.rfl.mul hg.symm).trans h⟩
theorem Bh{A B:List (List Int)}(h:∀a∈A,∀b∈B,vD p (ci a)<|ci b):vD p (prZ<|A.map ci) (prZ<|B.map ci):=by grind [ci,prZ,Fs,Fs.ci,vD.symm,vD.prZ,Fs.prZ]
theorem zb1{c:Int}(hp:wz p=true)(h0:0<c)(h1:c<p):vD p (pc c) g:=by
 obtain⟨x,e1,e2,e3,e4⟩:=Qn (fu:=3000000) hp h0 h1<|xab _;obtain⟨p1,p2⟩:=zn hp;refine⟨pc x,pc 0,Fs.pc _,Fs.pc _,?_⟩;rw[yb,qZ];intro k;rw[zI,zL,xbD];unfold pc;split
 ·rw[e4];exact(xaC (by decide)<|by lia).symm
 ·rfl
def rL{α β:Type}(R:α->β->Prop):List α->List β->Prop
 |[],[]=>True
 |a::r,b::s=>R a b/\rL R r s
 |_,_=>False
theorem rL.append{α β:Type}{R:α->β->Prop}:∀{a:List α}{b:List β}{c:List α}{d:List β},rL R a b->rL R c d->rL R (a++c) (b++d)
 |[],[],_,_,_,h=>h
 |_::_,_::_,_,_,h,h'=>⟨h.1,rL.append h.2 h'⟩
theorem rL.len{α β:Type}{R:α->β->Prop}:∀{a:List α}{b:List β},rL R a b->a.length=b.length
 |[],[],_=>rfl
 |_::_,_::_,h=>by rw[xaq,xaq,h.2.len]
structure Up(p:Int)(k:Nat)(u:List Zr)(g:List Int):Prop where
 rd:Rd 250 (p^k) u
 len:u.length=g.length
 top:cf u (u.length-1)=1
 cg:Cg p (cf u) (ci g)
theorem RB{f:List Zr}(h:0<f.length):f.drop (f.length-1)=[f.getD (f.length-1) (false,[])]:=Bg
theorem zas{z:Zr}(hp:0<p)(h0:zv z%p≠0):v8 p [z]=[zv z%p]:=by
 have hr:=yc (a:=zv z) (p:=p) hp;refine(Wv hp [z]).ext (Yq (by lia) hr.2) ((aD p [z]).trans fun k=> ?_);rw[qk]
 cases k with
 |zero=>show zv z%p=(zv z%p)%p;rw[xaF]
 |succ k=>rw[ye (p:=[z])<|by simp];rfl
end
theorem zds{k:Nat}{p:Int}(hp:wz p=true)(hq:1<=k)(hk:k<=1000):∀(n:Nat) {fu:Nat}{f:List Zr}{fs:List (List Int)},fs.length=n->1<=n->n<=66->3000002+n<=fu->
 Rd 250 (p^k) f->0<f.length->f.length<=66->cf f (f.length-1)%p≠0->(∀g∈fs,Ll p g/\g.length<=66)->fs.Pairwise (fun a b=>vD p (ci a)<|ci b)->Cg p (cf f) (pc (cf f<|f.length-1)*prZ (fs.map ci))->
 ∃us,vb fu f fs p (k:Int) (yH<|p^k)=some us/\rL (Up p k) us fs/\Cg (p^k) (cf f) (pc (cf f<|f.length-1)*prZ (us.map fun u=>(cf u:Pz))):=by
 intro n
 induction n using xds with
 |_ n ih=>
 intro fu f fs hn h7 h8 h9 hF hj h' hb hC Wm hr;obtain⟨p1,p2⟩:=zn hp;obtain⟨F,rfl⟩:∃F,fu=F+1:=⟨fu-1,by lia⟩;have hf:3000000<F:=by lia
 have hm2:=cH hp hq;have hH:p∣p^k:=jd hq;unfold vb;by_cases h1:n=1
 ·obtain⟨g,rfl⟩:∃g,fs=[g]:=by
   match fs,hn with
   |[g],_=>exact⟨g,rfl⟩
   |[],h=>simp at h;lia
   |_::_::_,h=>simp at h;lia
  obtain⟨hg,hgl⟩:=hC g (by simp);obtain⟨w,u,e1,e2,e3,e4,e5,e6⟩:=nD (fu:=F) hp hq hk hF hj (by lia) hb (by lia);have hu:Cg (p^k) (pc (cf f<|f.length-1)*pc u) (pc 1):=fun j=>by
   rw[qZ,xbm];unfold pc;split
   ·rw[e5];exact(xaC (by decide)<|by lia).symm
   ·rfl
  have hD:Cg (p^k) (cf f) (pc (cf f<|f.length-1)*cf w):=by
   refine Cg.symm<|(Cg.rfl.mul e6).trans ?_;rw[<-zd];exact(hu.mul Cg.rfl).trans<|Cg.of<|zt _
  have hw:∀x:Pz,prZ [x]=x:=fun x=>zO x;have hE:Cg p (cf w) (ci g):=by
   refine(e6.down hH).trans ?_;have h2:Cg p (pc u*cf f) (pc u*(pc (cf f<|f.length-1)*ci g)):=Cg.rfl.mul<|hr.trans<|Cg.of (by show _*prZ [ci g]=_;rw[hw]);refine h2.trans ?_;rw[<-zd,zj<|pc u];exact((hu.down hH).mul Cg.rfl).trans<|Cg.of<|zt _
  have hP:w.length=g.length:=by
   have hgf:=hg.fp (p:=p) (by lia);refine xcU (xbw fun hQ=> ?_)<|xbw fun hQ=> ?_
   ·have h2:=hE<|w.length-1;rw[e4,zM (by lia),xag,xaC (by decide)<|by lia]at h2;cases h2
   ·have h2:=hE<|g.length-1;rw[hg.2.2,ye (by lia),xag,xaC (by decide)<|by lia]at h2;cases h2
  rw[iq (by simp),za e1];refine⟨[w],rfl,⟨⟨e2,hP,e4,hE⟩,trivial⟩,?_⟩;show Cg _ _ (_*prZ [(cf w:Pz)]);rw[hw];exact hD
 ·obtain⟨ha,hR⟩:∃h,h=n/2:=⟨_,rfl⟩;obtain⟨c,hc⟩:∃c,c=cf f (f.length-1):=⟨_,rfl⟩;have h6:fs.length<=66:=by lia
  have hy:fs=fs.take ha++fs.drop ha:=(xbN ha fs).symm;have hS:(fs.take ha).length=ha:=by rw[xav];lia
  have hT:(fs.drop ha).length=n-ha:=by rw[xbO];lia
  have hs:∀g∈fs.take ha,Ll p g/\g.length<=66:=fun g hg=>hC g<|xdV hg;have hl:∀g∈fs.drop ha,Ll p g/\g.length<=66:=fun g hg=>hC g<|xeL hg;rw[hy]at Wm hr;obtain⟨pwA,pwB,pwAB⟩:=xdj.1 Wm;rw[xbg,wm,<-hc]at hr;have hJ:=yc (a:=c) (p:=p);rw[<-hc]at hb;have hU:∀g∈fs.take ha,Fp p g:=fun g hg=>(hs g hg).1.fp (by lia);have hV:∀g∈fs.drop ha,Fp p g:=fun g hg=>(hl g hg).1.fp (by lia);have prodA:=gb p<|fs.take ha;have prodB:=gb p<|fs.drop ha;have monB:=Ry (p:=p) p1 (fs:=fs.drop ha) fun g hg=>(hl g hg).1;have lenA:=UJ (p:=p) (fs:=fs.take ha) (M:=66) fun g hg=>(hs g hg).2;have lenB:=UJ (p:=p) (fs:=fs.drop ha) (M:=66) fun g hg=>(hl g hg).2;have b1:(fs.take ha).length*66<=66*66:=xaw _ (by lia);have b2:(fs.drop ha).length*66<=66*66:=xaw _ (by lia);have hK:=Yq (p:=p) (x:=c%p) (by lia) hJ.2;obtain⟨g0,hG⟩:∃g0,g0=y3 p (X4 p<|fs.take ha) [c%p]:=⟨_,rfl⟩;obtain⟨h0,ht⟩:∃h0,h0=X4 p (fs.drop ha):=⟨_,rfl⟩;have hd:Fp p g0:=by rw[hG];exact vR (by lia) _ _
  have he:Fp p h0:=by rw[ht];exact K4 p1 _
  have hA:Cg p (pc<|c%p) (pc c):=fun j=>by unfold pc;split;exact xaF _ _;rfl
  have hm:Cg p (ci g0) (prZ ((fs.take ha).map ci)*pc c):=by
   rw[hG];refine(kK p _ _).trans ?_;rw[qk];exact prodA.mul hA
  have ho:Cg p (ci h0) (prZ<|(fs.drop ha).map ci):=by rw[ht];exact prodB
  rw[<-ht]at monB;have hB:Cg p (cf f) (ci g0*ci h0):=by
   refine hr.trans<|Cg.trans (Cg.of ?_) (hm.mul ho).symm;simp only[zd,zj,zz]
  have hL:vD p (ci g0) (ci h0):=by
   refine vD.congr (vD.mul (Fs.pc _) (Fs.prZ fun x hx=>by obtain⟨a,_,rfl⟩:=xal.1 hx;exact Fs.ci a) (Fs.prZ fun x hx=>by obtain⟨a,_,rfl⟩:=xal.1 hx;exact Fs.ci a) (Bh pwAB)<|zb1 hp (show 0<c%p by lia) hJ.2) ?_ ho.symm;exact(Cg.rfl.mul hA).trans hm.symm
  have hi:p^1=p:=by rw[xbl,xbs,xca]
  have rg:=dM hd p2;have rh:=dM he p2;have lz:(v7 h0).length=h0.length:=Bo he.nl;have lzg:(v7 g0).length=g0.length:=Bo hd.nl;have hM:cf (v7 h0) ((v7 h0).length-1)=1:=by rw[lz,vq];exact monB.2
  have hW:(wA f p).length=f.length:=by
   have:=Fj (k:=k) (i:=1) (p:=p) (f:=f) (xab _) (by rw[<-hc];exact hb) hj;rw[hi]at this;exact this
  obtain⟨d1,d2,d3⟩:=Pe (m:=p) (f:=wA f p) (g:=v7 g0) (h:=v7 h0) p1 (by have:=rg.rd;rw[hi]at this;exact this) (tu fun j=>by rw[jE,xaF]) (by lia) (by lia) hM ((Zt f p).trans<|by rw[vq,vq];exact hB);rw[hW,lz,lzg]at d1;rw[lzg]at d2;obtain⟨d,s,t,z1,zR,z3⟩:=jH (fu:=F) hp hd he (by lia) (by lia) (by lia);have hN:=ze5 p1 zR z3 hL;have hNb:max g0.length h0.length*(max g0.length h0.length+1)<=66*67:=xbH (by lia) (by lia);have hsl:=zR.sl;have htl:=zR.tl;have rs:=dM zR.sf p2;have rt:=dM zR.tf p2;have hI:TrI p k f (v7 g0) (v7 h0) h0.length 4430 1 (v7 g0) (v7 h0) (v7 s) (v7 t):=by
   refine⟨xab _,hq,rg,rh,rs,rt,lz,by rw[<-lz];exact hM,?_,?_,Cg.rfl,Cg.rfl,by have:=sy s;lia⟩
   ·rw[hi,vq,vq];exact hB
   ·rw[hi,vq,vq,vq,vq];exact hN
  obtain⟨G,H,S,T,l1,l2⟩:=PZ (fu:=F) hI hp hk hF.ok (by rw[<-hc];exact hb) hj (by lia) (by lia) (by decide) (by lia) hf;obtain⟨m1,m2,m3,m4⟩:=l2.lens hp (by rw[<-hc];exact hb) hj (by lia);have hX:c%p^k=c:=by have:=hF.mod<|f.length-1;rw[<-hc]at this;exact this
  rw[<-hc,hX]at m3;have hY:=l2.hl;have hv:=l2.h1;rw[<-hY]at hv;have hZ:Cg p (cf G) (pc c*prZ ((fs.take ha).map ci)):=by
   refine l2.gp.trans ?_;rw[vq,zj];exact hm
  have h3:Cg p (cf H) (pc 1*prZ ((fs.drop ha).map ci)):=by
   refine l2.hp.trans ?_;rw[vq,zt];exact ho
  obtain⟨us,u1,u2,u3⟩:=ih ha (by lia) (fu:=F) (f:=G) (fs:=fs.take ha) hS (by lia) (by lia) (by lia) l2.rG m2 (by lia) (by rw[m3];exact hb) hs pwA (by rw[m3];exact hZ);obtain⟨vs,v1,v2,v3⟩:=ih (n-ha) (by lia) (fu:=F) (f:=H) (fs:=fs.drop ha) hT (by lia) (by lia) (by lia) l2.rH (by lia) (by lia) (by rw[hv,xaC (by decide)<|by lia];decide) hl pwB (by rw[hv];exact h3);rw[m3]at u3;rw[hv]at v3;have hul:=u2.len;have hvl:=v2.len;refine⟨us++vs,?_,by rw[hy];exact u2.append v2,?_⟩
  ·have ez:[f.getD (f.length-1) (false,[])].length=1:=rfl;have hO:y9 250 [f.getD (f.length-1) (false,[])]:=fun z hz=>by
    obtain rfl:=xai.1 hz;exact hF.ok.get _
   have h4:v8 p [f.getD (f.length-1) (false,[])]=[c%p]:=by
    rw[hc];exact zas (by lia)<|by rw[VG,<-hc];exact hb
   have h5:=qC p (X4 p<|fs.take ha) [c%p];simp only[xaq,xbS]at h5;have ex1:xdd (fs.length:Int) 2=(ha:Int):=by rw[hn,hR];rfl
   rw[zy,wC (by decide),ex1,zb,show(f.length:Int)-1=((f.length-1:Nat):Int)by lia,zb,yE,yJ,zf,RB hj,za (jX hO (by decide) (by lia) p2<|by simp),h4];simp only;rw[yE,yJ,zf,za (qB hp hU (fun g hg=>(hs g hg).2) (by lia)<|by decide),za (j7 hp (K4 p1 _) hK (by lia)<|by simp),<-hG];simp only;rw[yE,yJ,zf,za (qB hp hV (fun g hg=>(hl g hg).2) (by lia)<|by decide),<-ht,za z1];simp only;rw[za (jl (hd.rl p2) (by lia)<|by lia),za (jl (he.rl p2) (by lia)<|by lia),za (jl (zR.sf.rl p2) (by lia)<|by lia),za (jl (zR.tf.rl p2) (by lia)<|by lia),za l1];rw[pK (i:=0) (by decide),yE,yJ,zf,show[G,H,S,T].getD (Int.toNat 0) []=G from rfl,za u1,pK (i:=1) (by decide),yE,yJ,zf,show[G,H,S,T].getD (Int.toNat 1) []=H from rfl,za v1,yJ,zf]
  ·rw[<-hc,xbg,wm];refine l2.fac.trans<|(u3.mul v3).trans<|Cg.of ?_;rw[zt,zd]
section
variable{a:List Zr}{p:Int}
def yf(a:List Zr):List Zr:=vP a.length<|cf a
theorem uO(a:List Zr)(k:Nat):cf (yf a) k=cf a k:=jy (fun j hj=>ye hj) k
theorem Jx(a:List Zr):(yf a).length<=a.length:=by unfold yf;rw[xJ];exact vZ _ _
theorem pV{k:Nat}(h:y9 k a):y9 k (yf a):=xa h.bz
structure zi3(p:Int)(k:Nat)(a:List Zr)(fs:List (List Int))(us:List (List Zr)):Prop where
 hp:wz p=true
 k1:1<=k
 k2:k<=1000
 rt:UM p (yf a) fs
 up:rL (Up p k) us fs
 cg:fs≠[]->Cg (p^k) (cf a) (pc (cf (yf a)<|(yf a).length-1)*prZ (us.map fun u=>(cf u:Pz)))
theorem UM.mem{fs:List (List Int)}(h:UM p a fs):∀g∈fs,Ll p g/\g.length<=a.length:=fun g hg=>by
 obtain⟨j,hj,rfl⟩:=xdW.1 hg;have:=h.pl j hj;rw[H1,xaa hj]at this;exact⟨this.2,this.1⟩
theorem UM.pw{fs:List (List Int)}(h:UM p a fs):fs.Pairwise (fun a b=>vD p (ci a)<|ci b):=by
 refine xcW.2 fun i j hi hj ha=> ?_;have:=h.cp j i hj ha;rw[H1,H1,xaa hi,xaa hj]at this;exact this.symm
theorem lu{fu:Nat}{k:Int}{fs:List (List Int)}(ha:y9 250 a)(hr:a.length<=1000)(hf:3000200<=fu):
 ∃us e,qh fu a fs p k=some (us,e)/\(e=0->zi3 p k.toNat a fs us/\1<=k)/\(e≠0->(fQ p k).2=0\/e=1):=by
 unfold qh;have hs:=Jx a;have hk:=pV ha;rw[za<|jB<|by lia];by_cases hP:wz p=true/\1<=k/\k<=1000
 ·obtain⟨hp,h1,h2⟩:=hP;obtain⟨K,rfl⟩:=xaA (show 0<=k by lia);have hc:fQ p (K:Int)=(yH<|p^K,0):=by
   unfold fQ;rw[if_pos ⟨hp,h1,h2⟩,xaK]
  rw[hc];simp only;rw[za (zC ha (by decide) (by lia)<|by lia),iq trivial,show vP a.length (cf a)=yf a from rfl];by_cases ht:65<(yf a).length
  ·rw[zN];exact⟨_,_,rfl,fun e=>absurd e (by decide),fun _=> .inl trivial⟩
  ·rw[zy];obtain⟨b,b1,b2⟩:=eO (fu:=fu) (fs:=fs) hp hk (by decide) (by lia) (by lia);rw[za b1]
   cases b with
   |false=>
    rw[iq<|by decide];exact⟨_,_,rfl,fun e=>absurd e (by decide),fun _=> .inl trivial⟩
   |true=>
    have hR:=b2 rfl;rw[ir<|by decide];by_cases h0:fs.length=0
    ·obtain rfl:fs=[]:=xbF.1 h0;rw[iq (show((([]:List (List Int)).length:Nat):Int)=0 from rfl)];exact⟨_,_,rfl,fun _=>⟨⟨hp,by lia,by lia,hR,trivial,fun e=>absurd rfl e⟩,h1⟩,fun e=>absurd rfl e⟩
    ·rw[zy];obtain⟨p1,p2⟩:=zn hp;have hl:=iH hp (k:=K);have hu:=cH hp (k:=K);have ho:gK (yH<|p^K):=hl.okS (by decide);obtain⟨f,hb⟩:∃f,f=wA (yf a) (p^K):=⟨_,rfl⟩;have hm:=hR.a0;have hd:cf (yf a) ((yf a).length-1)%p≠0:=by
      have h3:=(Wv (p:=p) (by lia)<|yf a).nl;unfold Nl at h3;rw[hR.al]at h3;rcases h3 with h3|h3
      ·exact absurd h3 hm
      ·rw[V8]at h3;exact h3
     have hq:f.length=(yf a).length:=by rw[hb];exact Fj (k:=K) (by lia) hd<|by lia
     have he:cf f (f.length-1)=cf (yf a) ((yf a).length-1)%p^K:=by rw[hq,hb,jE]
     have hi:p∣p^K:=jd;have hj:cf f (f.length-1)%p≠0:=by rw[he,xcF _ hi];exact hd
     have hn:Cg p (cf f) (pc (cf f<|f.length-1)*prZ (fs.map ci)):=by
      have e1:Cg p (cf f) (cf<|yf a):=by rw[hb];exact(Zt _ _).down hi
      refine e1.trans<|(aD p<|yf a).symm.trans ?_;rw[<-hR.pr];refine(kK p _ _).trans ?_;rw[qk,zj];refine Cg.mul (fun j=> ?_)<|gb p fs;rw[V8,he];unfold pc;split
      ·rw[xcF _ hi,xaF]
      ·rfl
     obtain⟨us,u1,u2,u3⟩:=zds (k:=K) hp (by lia) (by lia) fs.length (fu:=fu) (f:=f) (fs:=fs) rfl (by lia) (by have:=hR.fl;lia) (by have:=hR.fl;lia) (by rw[hb];exact aI hl (by lia) _) (by lia) (by lia) hj (fun g hg=>⟨(hR.mem g hg).1,by have:=(hR.mem g hg).2;lia⟩) hR.pw hn;rw[za (Zn hk (by decide) ho<|by rw[zw];lia),zw,<-hb,za u1];refine⟨_,_,rfl,fun _=>⟨⟨hp,by lia,by lia,hR,u2,fun _=> ?_⟩,h1⟩,fun e=>absurd rfl e⟩;rw[xaK];have e1:Cg (p^K) (cf a) (cf f):=by
      rw[hb];exact Cg.trans (Cg.of<|funext fun j=>(uO a j).symm) (Zt _ _).symm
     refine e1.trans<|u3.trans<|Cg.mul (fun j=> ?_) Cg.rfl;rw[he];unfold pc;split
     ·rw[xaF]
     ·rfl
 ·have hc:fQ p k=((false,[]),1):=by unfold fQ;rw[ir hP]
  rw[hc];simp only;rw[za (zC ha (by decide) (by lia)<|by lia),ir<|by decide];exact⟨_,_,rfl,fun e=>absurd e (by decide),fun _=> .inr rfl⟩
end
def Mn(A:Pz)(d:Nat):Prop:=A d=1/\∀k,d<k->A k=0
theorem Mn.top{A x:Pz}{d n:Nat}(h:Mn A d)(hx:∀k,n<k->x k=0):(x*A) (n+d)=x n:=by
 rw[xt,xU (i:=n) fun i hi=> ?_,zN,show n+d-n=d by lia,h.1,xck];by_cases hc:i<n
 ·rw[h.2 _ (by lia),xau]
 ·rw[hx i (by lia),xaS]
theorem Mn.zero{p:Int}(hp:2<=p){A x:Pz}{d:Nat}(h:Mn A d)(hx:Fs x)(hz:∀k,d<=k->(x*A) k%p=0):Cg p x (pc 0):=by
 obtain⟨n,hn⟩:=hx;have key:∀c,c<=n->∀k,n-c<=k->x k%p=0:=by
  intro c
  induction c with
  |zero=>intro _ k hk;rw[hn k (by lia),xag]
  |succ c ih=>
   intro hc k hk;by_cases h1:n-c<=k
   ·exact ih (by lia) k h1
   ·obtain rfl:k=n-(c+1):=by lia
    have e:Cg p x (fun i=>if i<=n-(c+1)then x i else 0):=fun i=>by
     by_cases hi:i<=n-(c+1)
     ·show _=(if i<=n-(c+1)then x i else 0)%p;rw[iq hi]
     ·show _=(if i<=n-(c+1)then x i else 0)%p;rw[ir hi,xag];exact ih (by lia) i<|by lia
    have h2:=(e.mul<|Cg.rfl (f:=A))<|n-(c+1)+d;rw[hz _ (by lia),h.top<|fun i hi=>zy]at h2;rw[iq<|xab _]at h2;exact h2.symm
 intro k;rw[zL,xag];by_cases hk:k<n
 ·exact key n (xab _) k<|by lia
 ·rw[hn k (by lia),xag]
theorem GF{k m n:Int}(h:Int.gcd k m=1)(hd:k∣m*n):k∣n:=
 xcq.1 (Nat.Coprime.dvd_of_dvd_mul_left (k:=k.natAbs) (m:=m.natAbs) h<|by rw[<-xcg];exact xcq.2 hd)
def pdv(n:Int)(f:Pz):Pz:=fun k=>f k/n
theorem DT{n:Int}{f:Pz}(h:Cg n f (pc 0)):pc n*pdv n f=f:=by
 funext k;rw[zE];exact Int.mul_ediv_cancel'<|h.dvd k
theorem C1{n:Int}{f:Pz}(h:Fs f):Fs (pdv n f):=by
 obtain⟨c,hc⟩:=h;exact⟨c,fun k hk=>by show f k/n=0;rw[hc k hk,xfJ]⟩
theorem Fs.subt{f g:Pz}(hf:Fs f)(hg:Fs g):Fs (f-g):=by
 obtain⟨a,ha⟩:=hf;obtain⟨b,hb⟩:=hg;exact⟨a+b,fun k hk=>by rw[yz,ha k (by lia),hb k<|by lia];rfl⟩
theorem PW{p n:Int}(hp:2<=p)(hn:n≠0)(hj:p∣n){A B A' B':Pz}{d:Nat}(hA:Mn A d)(he:Mn A' d)(fA:Fs A)(fA':Fs A')(fB:Fs B)(fB':Fs B')(hc:vD p A B)(h1:Cg n A A')(h2:Cg n B B')(h:Cg (n*p) (A*B) (A'*B')):
 Cg (n*p) A A'/\Cg (n*p) B B':=by
 obtain⟨a,ha⟩:∃a,a=pdv n (A'-A):=⟨_,rfl⟩;obtain⟨b,hb⟩:∃b,b=pdv n (B'-B):=⟨_,rfl⟩;have ea:pc n*a=A'-A:=by rw[ha];exact DT<|Cg.iff_sub.1 h1.symm
 have eb:pc n*b=B'-B:=by rw[hb];exact DT<|Cg.iff_sub.1 h2.symm
 have fa:Fs a:=by rw[ha];exact C1<|fA'.subt fA
 have fb:Fs b:=by rw[hb];exact C1<|fB'.subt fB
 have ak:∀k,A' k=A k+n*a k:=fun k=>by
  have:=congrFun ea k;rw[zE,yz]at this;lia
 have bk:∀k,B' k=B k+n*b k:=fun k=>by
  have:=congrFun eb k;rw[zE,yz]at this;lia
 have hl:A'=A+pc n*a:=funext fun k=>by rw[zI,zE,ak]
 have hm:B'=B+pc n*b:=funext fun k=>by rw[zI,zE,bk]
 have hz:Cg p (a*B+b*A) (pc 0):=by
  refine Cg.of_dvd fun k=> ?_;have e:A'*B'-A*B=pc n*(a*B+b*A+pc n*(a*b)):=by
   rw[hl,hm];simp only[xy,yg,zd,zz,zj];funext k;simp only[zI,yz];lia
  have hd:=(Cg.iff_sub.1 h.symm).dvd k;rw[e,zE]at hd;have hf:p∣(a*B+b*A+pc n*(a*b)) k:=(Int.mul_dvd_mul_iff_left hn).1 hd;rw[zI,zE]at hf;exact(Int.dvd_add_left<|xbG hj<|xco _ _).1 hf
 obtain⟨s,t,fs,ft,ho⟩:=hc;have hq:∀k,d<=k->a k=0:=fun k hk=>by
  have e:A' k=A k:=by
   by_cases h3:k=d
   ·rw[h3,hA.1,he.1]
   ·rw[hA.2 k (by lia),he.2 k<|by lia]
  have:=ak k;have h4:n*a k=0:=by lia
  exact(xeF.1 h4).resolve_left hn
 have hg:Cg p a ((s*a-t*b)*A):=by
  have e1:Cg p a (a*(s*A+t*B)):=by
   have:=(Cg.rfl (m:=p) (f:=a)).mul ho.symm;rw[zO]at this;exact this
  refine e1.trans<|Cg.iff_sub.2 ?_;have e:a*(s*A+t*B)-(s*a-t*b)*A=t*(a*B+b*A):=by
   simp only[xy,yg,vj,wO,zd,zz,zj];funext k;simp only[zI,yz];lia
  rw[e];exact hz.mul_zero_l t
 have hr:=hA.zero hp ((fs.mul fa).subt<|ft.mul fb) fun k hk=>by rw[<-hg k,hq k hk,xag]
 have hi:Cg p a (pc 0):=hg.trans<|hr.mul_zero_r A;have hs:Cg p (b*A) (pc 0):=by
  have e:b*A=a*B+b*A-a*B:=by
   funext k;simp only[zI,yz];lia
  rw[e];exact hz.zero_sub<|hi.mul_zero_r B
 have ht:Cg p b (pc 0):=hA.zero hp fb fun k _=>by rw[hs k,zL,xag]
 refine⟨Cg.symm<|Cg.iff_sub.2<|Cg.of_dvd fun k=> ?_,Cg.symm<|Cg.iff_sub.2<|Cg.of_dvd fun k=> ?_⟩
 ·rw[<-ea,zE];exact Int.mul_dvd_mul_left n<|hi.dvd k
 ·rw[<-eb,zE];exact Int.mul_dvd_mul_left n<|ht.dvd k
theorem HK{p:Int}(hp:2<=p){A B A' B':Pz}{d:Nat}(hA:Mn A d)(ha:Mn A' d)(fA:Fs A)(fA':Fs A')(fB:Fs B)(fB':Fs B')(hc:vD p A B)(h1:Cg p A A')(h2:Cg p B B'):∀j,Cg (p^j) (A*B) (A'*B')->Cg (p^j) A A'/\Cg (p^j) B B'
 |0,_=>⟨fun k=>by rw[xbs,Int.emod_one,Int.emod_one],fun k=>by rw[xbs,Int.emod_one,Int.emod_one]⟩
 |1,_=>by
  rw[xbl,xbs,xca];exact⟨h1,h2⟩
 |j+2,h=>by
  obtain⟨g1,g2⟩:=HK hp hA ha fA fA' fB fB' hc h1 h2 (j+1)<|h.down<|aH;rw[xbl]at h⊢;exact PW hp (Int.ne_of_gt<|Int.pow_pos<|by lia) (jd) hA ha fA fA' fB fB' hc g1 g2 h
def VF:Nat->Nat->Nat
 |_,0=>1
 |0,_+1=>0
 |n+1,k+1=>VF n k+VF n (k+1)
theorem Xm(n:Nat):VF n 0=1:=by cases n<;>rfl
theorem Xn(n k:Nat):VF (n+1) (k+1)=VF n k+VF n (k+1):=rfl
theorem JB:∀n k,n<k->VF n k=0
 |0,0,h=>absurd h<|Nat.lt_irrefl _
 |0,k+1,_=>rfl
 |n+1,0,h=>absurd h<|xbp _
 |n+1,k+1,h=>by rw[Xn,JB n k (by lia),JB n (k+1)<|by lia]
theorem sX:∀n,VF n n=1
 |0=>rfl
 |n+1=>by rw[Xn,sX n,JB n (n+1)<|by lia]
theorem DE:∀n k,(k+1)*VF (n+1) (k+1)=(n+1)*VF n k
 |0,0=>rfl
 |0,k+1=>by rw[Xn,JB 0 (k+1) (by lia),JB 0 (k+1+1)<|by lia];rfl
 |n+1,0=>by
  have h:=DE n 0;rw[Xm,xaN,xcm,xcG]at h;rw[Xn,Xm,show VF (n+1) (0+1)=n+1 from h];lia
 |n+1,k+1=>by
  have h1:=DE n k;have h2:=DE n<|k+1;have h3:=Xn n k;rw[Xn (n+1)<|k+1,xbh,h2,h3];rw[h3]at h1;have e:(k+1+1)*(VF n k+VF n (k+1))=(k+1)*(VF n k+VF n (k+1))+(VF n k+VF n (k+1)):=by rw[xaV (k+1) 1,xcm]
  rw[e,h1,xaV (n+1) 1,xcm,xbh];lia
theorem zgf(a:Int):∀n,(a+1)^n=zX (n+1) (fun k=>(VF n k:Int)*a^k)
 |0=>by
  show _=(0:Int)+((1:Nat):Int)*a^0;rw[xbs,xbs];rfl
 |n+1=>by
  have e1:zX (n+1+1) (fun k=>(VF (n+1) k:Int)*a^k)=1+(zX (n+1) (fun k=>a*((VF n k:Int)*a^k))+zX (n+1) (fun k=>(VF n (k+1):Int)*a^(k+1))):=by
   rw[ks,<-Zo];congr 1
   ·show((VF (n+1) 0:Nat):Int)*a^0=1;rw[Xm,xbs];rfl
   ·exact zV fun k _=>by rw[Xn,xdZ,Int.add_mul,xbl,<-xbK,<-xbK,xbm (_*a^k) a,<-xbK]
  have e2:zX (n+1) (fun k=>(VF n k:Int)*a^k)=1+zX (n+1) (fun k=>(VF n (k+1):Int)*a^(k+1)):=by
   have h:zX (n+1+1) (fun k=>(VF n k:Int)*a^k)=zX (n+1) (fun k=>(VF n k:Int)*a^k):=by
    show zX (n+1) _+((VF n (n+1):Nat):Int)*a^(n+1)=_;rw[JB n (n+1)<|by lia];show _+(0:Int)*_=_;rw[xaS,xbD]
   rw[<-h,ks];congr 1;show((VF n 0:Nat):Int)*a^0=1;rw[Xm,xbs];rfl
  rw[e1,jT,xbl,zgf a n,xeX,xck,xbm _ a];lia
theorem O7{p x y:Nat}(hp:2<=p)(hn:vX p)(h0:0<x)(h1:x<p)(h:p∣x*y):p∣y:=
 Nat.Coprime.dvd_of_dvd_mul_left (af hp hn h0 h1) h
theorem PR{p k:Nat}(hp:2<=p)(hn:vX p)(h0:0<k:=by lia)(h1:k<p:=by lia):p∣VF p k:=by
 obtain⟨q,rfl⟩:∃q,p=q+1:=⟨p-1,by lia⟩;obtain⟨j,rfl⟩:∃j,k=j+1:=⟨k-1,by lia⟩;exact O7 hp hn h0 h1 ⟨VF q j,DE q j⟩
theorem GY{p:Nat}(hp:2<=p)(hn:vX p)(a:Int):(a+1)^p%p=(a^p+1)%p:=by
 obtain⟨q,rfl⟩:∃q,p=q+1:=⟨p-1,by lia⟩;rw[zgf,show q+1+1=(q+1)+1 from rfl];show(zX (q+1) _+((VF (q+1) (q+1):Nat):Int)*a^(q+1))%_=_;rw[sX,ks];have hd:((q+1:Nat):Int)∣zX q (fun k=>(VF (q+1) (k+1):Int)*a^(k+1)):=UH fun k hk=>
  xbG (xdC.2<|PR hp hn) (xco _ _)
 obtain⟨c,hc⟩:=hd;rw[hc];show(((VF (q+1) 0:Nat):Int)*a^0+_+((1:Nat):Int)*a^(q+1))%_=_;rw[Xm,xbs];have e:((1:Nat):Int)*1+((q+1:Nat):Int)*c+((1:Nat):Int)*a^(q+1)=a^(q+1)+1+((q+1:Nat):Int)*c:=by lia
 rw[e,xeK]
theorem Ml{p:Nat}(hp:2<=p)(hn:vX p):∀a:Nat,(a:Int)^p%p=a%p
 |0=>by rw[show((0:Nat):Int)=0 from rfl,Int.zero_pow<|by lia]
 |a+1=>by rw[xdZ,show((1:Nat):Int)=1 from rfl,GY hp hn,xdO,Ml hp hn a,<-xdO]
theorem o7{p:Int}(hp:wz p=true){a:Int}(h0:0<a)(h1:a<p):(a^(p-2).toNat*a)%p=1:=by
 obtain⟨p1,p2⟩:=zn hp;have hn:=Ys hp;obtain⟨P,rfl⟩:=xaA (show 0<=p by lia);obtain⟨A,rfl⟩:=xaA (show 0<=a by lia);rw[xaK]at hn;have hP:2<=P:=by lia
 have h:=Ml hP hn A;obtain⟨Q,rfl⟩:∃Q,P=Q+2:=⟨P-2,by lia⟩;rw[show(((Q+2:Nat):Int)-2).toNat=Q by lia];have e:(A:Int)^(Q+2)-A=A*((A:Int)^Q*A-1):=by rw[show Q+2=Q+1+1 from rfl,xbl,xbl,Int.mul_sub,xck,xbm _ (A:Int)]
 have hd:((Q+2:Nat):Int)∣(A:Int)*((A:Int)^Q*A-1):=by
  rw[<-e];exact xaJ<|xaE.1 h
 have hg:Int.gcd ((Q+2:Nat):Int) (A:Int)=1:=af hP hn;have ha:=GF hg hd;have h3:=xaE.2<|xaB ha;rw[h3];exact xaC (by decide)<|by lia
section
variable{fu:Nat}{p a x:Int}{l:List Int}
theorem lj(hf:3000000<=fu):uk fu p=some (if wz p=true then 0 else 1):=by grind [uk,wz,za,Ar]
theorem Km(hp:wz p=true)(hf:3000000<=fu):uk fu p=some 0:=by
 rw[lj hf,iq hp]
theorem KO(h1:1<=p)(h2:p<=65521)(ha:VE a):VV fu a p=some (a%p):=by
 unfold VV;obtain⟨a1,a2⟩:=ha;have hr:=yc (a:=a) (p:=p);have ht:=IZ (a:=a) (p:=p);rw[zy,yJ,zf];by_cases h:xcc a p<0
 ·rw[iq h]at ht;rw[iq h,zb,ht]
 ·rw[ir h]at ht;rw[ir h,ht]
theorem zbt{n:Nat}{f:Pz}(h:x=f n):zl n f++[x]=zl (n+1) f:=by rw[h];exact zeI
theorem QW(h1:1<=p)(h2:p<=65521)(hr:Rl l)(hl:l.length<=1000000)(hf:3000000<=fu):qu fu l p=some (pm p l):=by
 unfold qu;have hd:=vZ (fun k=>ci l k%p) l.length;rw[za (v:=zl l.length<|fun k=>ci l k%p)]
 ·rw[za (v:=((dg (fun k=>ci l k%p) l.length:Nat):Int))]
  ·rw[yE,wC (by rw[zK];exact hd),zf,Ep hd];rfl
  ·rw[zK];refine zx (fun t:Int=>∃m:Nat,m<=l.length/\t=(m:Int)/\dg (fun k=>ci l k%p) m=dg (fun k=>ci l k%p) l.length) (fun t=>t.toNat) _ ?_ _ _ ⟨l.length,xab _,rfl,rfl⟩ (by lia);rintro t L ⟨m,hm,rfl,hg⟩ ih;unfold Kd
   cases m with
   |zero=>
    rw[zy,<-hg];rfl
   |succ m=>
    rw[zN,show((m+1:Nat):Int)-1=(m:Int)by lia,zb,zp (by rw[zK];lia),zf,vT];by_cases h0:ci l m%p=0
    ·rw[iq h0,zb];exact ih _ ⟨m,by lia,rfl,by rw[<-K2 (f:=fun k=>ci l k%p) h0,hg]⟩<|by lia
    ·rw[ir h0,<-hg,UI (f:=fun k=>ci l k%p) h0]
 ·refine zx (fun s:List Int×Int=>∃i:Nat,i<=l.length/\s=(zl i<|fun k=>ci l k%p,(i:Int))) (fun s=>l.length-s.2.toNat) _ ?_ _ _ ⟨0,xah _,rfl⟩ (by show l.length-0<fu;lia);rintro s L ⟨i,hi,rfl⟩ ih;unfold Ki;simp only;by_cases h:i<l.length
  ·rw[zN,zp h,zf,ZO,za<|KO h1 h2<|hr i,wC (by rw[zK];simp;lia),zf,zbt (f:=fun k=>ci l k%p) rfl,zb];exact ih _ ⟨i+1,by lia,rfl⟩ (by show l.length-((i:Int)+1).toNat<l.length-(i:Int).toNat;lia)
  ·rw[zy];obtain rfl:i=l.length:=by lia
   rfl
theorem Fo(hp:wz p=true)(h:Fp p l)(hl:l.length<=1000000)(hf:3000000<=fu):qu fu l p=some l:=by
 obtain⟨p1,p2⟩:=zn hp;rw[QW (by lia) p2 (h.rl p2) hl hf,h.pm]
theorem lF{a b:List Int}(hp:wz p=true)(ha:Fp p a)(hb:Fp p b)(hc:a.length<=100000)(hd:b.length<=100000)(hf:3000000<=fu):Qu fu a b p=some (y3 p a b):=by
 obtain⟨p1,p2⟩:=zn hp;unfold Qu;obtain⟨n,hn⟩:∃n,n=a.length+b.length:=⟨_,rfl⟩;rw[za<|Fo hp ha (by lia) hf,za<|Fo hp hb (by lia) hf,zb,show(a.length:Int)+(b.length:Int)=(n:Int)by lia,yE,yJ,zf,JF,za (v:=zl n<|fun k=>Ad (ci a) (ci b) a.length k%p)]
 ·have hz:∀k,n<=k->Ad (ci a) (ci b) a.length k%p=0:=fun k hk=>by rw[eF<|fun j hj=>zM hj,vL (fun j hj=>zM hj)<|fun j hj=>zM hj,xag]
  have hr:Rl (zl n<|fun k=>Ad (ci a) (ci b) a.length k%p):=fun k=>by
   rw[ur hz];have:=yc (a:=Ad (ci a) (ci b) a.length k) (p:=p);exact⟨by lia,by lia⟩
  rw[za<|QW (by lia) p2 hr (by rw[zK];lia) hf];congr 1;unfold pm y3;rw[zK,<-hn];exact sU fun k hk=>by rw[jo hk,xaF,eF<|fun j hj=>zM hj]
 ·refine zx (fun s:Int×List Int×List Int×List Int=>∃i:Nat,i<=a.length/\s=((i:Int),a,b,zl n<|fun k=>Ad (ci a) (ci b) i k%p)) (fun s=>a.length-s.1.toNat) _ ?_ _ _ ⟨0,xah _,by rw[yo (g:=fun k=>Ad (ci a) (ci b) 0 k%p) fun k _=>by show(0:Int)=0%p;rw[xag]];rfl⟩ (by show a.length-0<fu;lia);rintro s L ⟨i,hi,rfl⟩ ih;unfold Kp;simp only;by_cases h3:i<a.length
  ·rw[zN,za (v:=(p,zl n<|fun k=>Ad (ci a) (ci b) (i+1) k%p))]
   ·simp only;rw[zb];exact ih _ ⟨i+1,by lia,rfl⟩ (by show a.length-((i:Int)+1).toNat<a.length-(i:Int).toNat;lia)
   ·refine zx (fun s:Int×Int×List Int=>∃j:Nat,j<=b.length/\s=(p,(j:Int),zl n<|fun k=>e9 (ci a) (ci b) i j k%p)) (fun s=>b.length-s.2.1.toNat) _ ?_ _ _ ⟨0,xah _,by rw[yo fun k _=>by rw[<-Cc]];rfl⟩ (by show b.length-0<fu;lia);rintro s L2 ⟨j,hj,rfl⟩ ih2;unfold Kn;simp only;by_cases h4:j<b.length
    ·have e:(i:Int)+(j:Int)=((i+j:Nat):Int):=by lia
     have r1:=yc (a:=e9 (ci a) (ci b) i j<|i+j) (p:=p);obtain⟨r2,r3⟩:=Xq p2 (ha.nn i) (ha.lt i) (hb.nn j)<|hb.lt j;rw[zN,e,zb,zb,zp (by rw[zK];lia),zf,vT,zp h3,zf,zp h4,zf,ZO,ZO,zb,zb,yJ,zf,uw,zp (by rw[zK];lia),zf,jS,zb];exact ih2 _ ⟨j+1,by lia,by rw[yo fun k _=>Cz (ci a) (ci b) p i j k];rfl⟩ (by show b.length-((j:Int)+1).toNat<b.length-(j:Int).toNat;lia)
    ·rw[zy];obtain rfl:j=b.length:=by lia
     rw[yo fun k _=>by rw[BS<|fun k hk=>zM hk]]
  ·rw[zy];obtain rfl:i=a.length:=by lia
   rfl
theorem Nv(x p:Int):∀n,(x%p)^n%p=x^n%p
 |0=>by rw[xbs,xbs]
 |n+1=>by rw[xbl,xbl,xbr,Nv x p n,xaF,<-xbr]
theorem rU{n:Nat}(hp:wz p=true)(ha:0<=a)(hj:a<p)(hn:n<=1000000)(hf:3000000<=fu):K6 fu a (n:Int) p=some (a^n%p,0):=by
 obtain⟨p1,p2⟩:=zn hp;unfold K6;rw[za<|Km hp hf,iq rfl,zy,yJ,zf,uw,za<|KO (by lia) p2 ⟨by lia,by lia⟩,za (v:=a^n%p)];refine zx (fun s:Int×Int×Int=>∃(x y:Int) (i:Nat),s=(x,y,(i:Int))/\i<=n/\0<=x/\x<p/\0<=y/\y<p/\(x*y^i)%p=a^n%p) (fun s=>s.2.2.toNat) _ ?_ _ _ ⟨1%p,a%p,n,rfl,xab _,(yc).1,(yc).2,(yc).1,(yc).2,?_⟩ (by show n<fu;lia)
 ·rintro s L ⟨x,y,i,rfl,hi,x1,x2,y1,y2,he⟩ ih;unfold aY;simp only;obtain⟨q1,q2⟩:=Xq p2 x1 x2 y1 y2;obtain⟨q3,q4⟩:=Xq p2 y1 y2 y1 y2;have hb:=yc (a:=y*y) (p:=p);have hc:=yc (a:=x*y) (p:=p);have hd:xdd (i:Int) 2=((i/2:Nat):Int):=by rw[xdH<|by lia];lia
  have hg:∀z:Int,(z*(y*y%p)^(i/2))%p=(z*(y^(2*(i/2))))%p:=fun z=>by rw[xbr,Nv,<-xbr,Int.pow_mul,show y^2=y*y from by rw[xbl,xbl,xbs,xca]]
  by_cases h0:0<i
  ·rw[zN,wC (by decide),zf,uw];by_cases h1:i%2=1
   ·rw[zN,zb,yJ,zf,uw q1,zb,yJ,zf,uw q3,wC (by decide),hd,zb];refine ih _ ⟨_,_,i/2,rfl,by lia,hc.1,hc.2,hb.1,hb.2,?_⟩ (by show((i/2:Nat):Int).toNat<(i:Int).toNat;lia);rw[hg,xbr,xaF,<-xbr,<-he];congr 1;have e:i=2*(i/2)+1:=by lia
    conv=>rhs;rw[e]
    rw[xbl,xbK,xbm y]
   ·rw[zy,zb,yJ,zf,uw q3,wC (by decide),hd,zb];refine ih _ ⟨_,_,i/2,rfl,by lia,x1,x2,hb.1,hb.2,?_⟩ (by show((i/2:Nat):Int).toNat<(i:Int).toNat;lia);rw[hg,<-he];congr 3;lia
  ·rw[zy];obtain rfl:i=0:=by lia
   rw[xbs,xck,xaC x1 x2]at he;rw[he]
 ·rw[xbr,xaF,Nv,<-xbr,xca]
theorem b9(hp:wz p=true)(h0:0<a)(h1:a<p)(hf:3000000<=fu):∃x,XI fu a p=some x/\0<x/\x<p/\(x*a)%p=1:=by
 obtain⟨p1,p2⟩:=zn hp;unfold XI;rw[zb];obtain⟨n,hn⟩:∃n:Nat,p-2=(n:Int):=⟨(p-2).toNat,by lia⟩;have ha:=o7 hp h0 h1;rw[hn,xaK]at ha;rw[hn,za<|rU hp (by lia) h1 (by lia) hf];simp only;have hr:=yc (a:=a^n) (p:=p);by_cases h2:p=2
 ·rw[iq h2];refine⟨1,rfl,by decide,by lia,?_⟩;rw[xca,xaC (by lia) h1];lia
 ·rw[ir h2];have h3:(a^n%p*a)%p=1:=by rw[xbr,xaF,<-xbr];exact ha
  exact⟨_,rfl,PB hr.1 h3,hr.2,h3⟩
theorem zcr{y c:Int}(x0:0<=x)(x1:x<p)(y0:0<=y)(y1:y<p)(hx:(x*c)%p=1)(hy:(y*c)%p=1):x=y:=by
 have h1:(x*(y*c))%p=x:=by rw[xbr,hy,xck,xaF,xaC x0 x1]
 have h2:(x*(y*c))%p=y:=by rw[show x*(y*c)=y*(x*c)by rw[<-xbK,<-xbK,xbm x y],xbr,hx,xck,xaF,xaC y0 y1]
 rw[<-h1,h2]
end
section
variable{p x:Int}{a:List Int}{fu:Nat}
structure zan(p:Int)(a m:List Int):Prop where
 fm:Fp p m
 ln:m.length=a.length
 top:ci m (m.length-1)=1
 cg:∃x y:Int,Cg p (ci m) (pc x*ci a)/\Cg p (ci a) (pc y*ci m)
theorem IU(hp:2<=p)(ha:Fp p a)(hd:0<a.length)(hx:(x*ci a (a.length-1))%p=1):zan p a (y3 p a [x]):=by
 have hb:∀k,ci (y3 p a [x]) k=(x*ci a k)%p:=fun k=>by rw[Ji,qk,zj,zE]
 have hc:(y3 p a [x]).length=a.length:=by
  refine xcU ((vR (by lia) _ _).nl.le fun k hk=> ?_)<|xbw fun he=> ?_
  ·rw[hb,zM hk,xau,xag]
  ·have h3:=hb<|a.length-1;rw[hx,zM<|by lia]at h3;cases h3
 have h1:Cg p (ci<|y3 p a [x]) (pc x*ci a):=fun k=>by rw[hb,zE,xaF]
 refine⟨vR (by lia) _ _,hc,by rw[hc,hb,hx],x,ci a<|a.length-1,h1,?_⟩;refine Cg.symm<|(Cg.rfl.mul h1).trans ?_;rw[<-zd];refine Cg.trans (Cg.mul (fun k=> ?_) Cg.rfl)<|Cg.of<|zt _;rw[qZ,xbm];unfold pc;split
 ·rw[hx];exact(xaC (by decide)<|by lia).symm
 ·rfl
theorem Ss(hp:wz p=true)(ha:Fp p a)(hc:0<a.length)(hd:a.length<=90000)(x0:0<x)(x1:x<p)(hx:(x*ci a (a.length-1))%p=1)(hf:3000000<=fu):bT fu a p=some (y3 p a [x],0):=by
 obtain⟨p1,p2⟩:=zn hp;have hb:ci a (a.length-1)≠0:=by
  rcases ha.nl with h|h
  ·lia
  ·exact h
 have t1:=ha.nn<|a.length-1;obtain⟨y,e1,e2,e3,e4⟩:=b9 (fu:=fu) hp (show 0<ci a (a.length-1)by lia) (ha.lt _) hf;obtain rfl:=zcr (by lia) x1 (by lia) e3 hx e4;unfold bT;rw[za<|Km hp hf,iq rfl,za<|Fo hp ha (by lia) hf,zy,show(a.length:Int)-1=((a.length-1:Nat):Int)by lia,zb,yj,zf,ZO,za e1,za<|lF hp ha (Yq e2 e3) (by lia) (by simp) hf]
theorem Yr(hp:wz p=true)(ha:Fp p a)(hd:0<a.length)(hb:a.length<=90000)(hf:3000000<=fu):∃x,0<x/\x<p/\(x*ci a (a.length-1))%p=1/\qm fu a p=some (y3 p a [x],0):=by
 obtain⟨p1,p2⟩:=zn hp;have hc:ci a (a.length-1)≠0:=by
  rcases ha.nl with h|h
  ·lia
  ·exact h
 have t1:=ha.nn<|a.length-1;obtain⟨x,x0,x1,hx,_,e⟩:=Qk (fu:=fu) hp ha (show 0<ci a (a.length-1)by lia) (ha.lt _) hb hf;refine⟨x,x0,x1,hx,?_⟩;unfold qm;rw[za<|ku hp,iq rfl,za<|zF (by lia) p2 (ha.rl p2) (by lia) hf,ha.pm,zy,show(a.length:Int)-1=((a.length-1:Nat):Int)by lia,zb,yj,zf,ZO,za e]
end
theorem Vm{fu:Nat}{p:Int}{g h:List Int}(hp:wz p=true)(hg:Fp p g)(hh:Fp p h)(ha:g.length<=290)(hb:h.length<=290)(hf:3000000<=fu):
 ∃d s t,qX fu g h p=some (d,0)/\BzR p g h d s t (2+max g.length h.length*(max g.length h.length+1))/\(d.length=0\/ci d (d.length-1)=1):=by grind [qX,jH,za]
theorem N3{p:Int}{g h d s t:List Int}{S:Nat}(hp:2<=p)(hR:BzR p g h d s t S)(hd:d.length=0\/ci d (d.length-1)=1):d.length=1↔vD p (ci g) (ci h):=by
 refine⟨fun h1=>Dt hR h1 (hd.resolve_left<|by lia),fun hc=> ?_⟩;obtain⟨A,C,z1,z2,d1,d2⟩:=hR.dv;obtain⟨u,v,z3,z4,hc⟩:=hc;have hx:Cg p ((u*A+v*C)*ci d) (pc 1):=by
  refine Cg.trans (Cg.of ?_)<|(((Cg.rfl (f:=u)).mul d1.symm).add<|(Cg.rfl (f:=v)).mul d2.symm).trans hc;rw[yg,zd,zd]
 have ha:0<d.length:=by
  refine xcI fun e=> ?_;have h1:=hx 0;rw[xt,yG fun i hi=>by rw[zM (l:=d) (by lia),xau]]at h1;unfold pc at h1;rw[iq rfl,xag,xaC (by decide)<|by lia]at h1;cases h1
 exact Gx hp ((z3.mul z1).add<|z4.mul z2) ha (hd.resolve_left<|by lia) hx
section
variable{a:List Int}{p:Int}
def dvp(f:Pz):Pz:=fun k=>((k+1:Nat):Int)*f (k+1)
theorem X8(f g:Pz):dvp (f*g)=dvp f*g+f*dvp g:=by
 funext k;show((k+1:Nat):Int)*(f*g) (k+1)=(dvp f*g) k+(f*dvp g) k;rw[xt,xt,xt,<-jT];have e:zX (k+1+1) (fun i=>((k+1:Nat):Int)*(f i*g (k+1-i)))=zX (k+1+1) (fun i=>(i:Int)*(f i*g (k+1-i)))+zX (k+1+1) (fun i=>((k+1-i:Nat):Int)*(f i*g (k+1-i))):=by
  rw[<-Zo];exact zV fun i hi=>by
   rw[<-Int.add_mul];congr 1;lia
 rw[e];congr 1
 ·rw[ks];show((0:Nat):Int)*_+_=_;rw[show((0:Nat):Int)=0 from rfl,xaS,xcD];exact zV fun i hi=>by
   show((i+1:Nat):Int)*(f (i+1)*g (k+1-(i+1)))=((i+1:Nat):Int)*f (i+1)*g (k-i);rw[show k+1-(i+1)=k-i by lia,xbK]
 ·show zX (k+1) _+((k+1-(k+1):Nat):Int)*_=_;rw[xda,show((0:Nat):Int)=0 from rfl,xaS,xbD];exact zV fun i hi=>by
   show((k+1-i:Nat):Int)*(f i*g (k+1-i))=f i*(((k-i+1:Nat):Int)*g (k-i+1));rw[show k+1-i=k-i+1 by lia,<-xbK,<-xbK,xbm<|f i]
theorem zcn{m:Int}{f g:Pz}(h:Cg m f g):Cg m (dvp f) (dvp g):=fun k=>by
 show(((k+1:Nat):Int)*f (k+1))%m=(((k+1:Nat):Int)*g (k+1))%m;rw[xbr,h,<-xbr]
theorem zhG(c:Int):dvp (pc c)=pc 0:=funext fun k=>by
 show((k+1:Nat):Int)*pc c (k+1)=pc 0 k;rw[zL];unfold pc;rw[zy,xau]
def drv(p:Int)(a:List Int):List Int:=nl a.length<|fun k=>dvp (ci a) k%p
theorem zdt{k:Nat}(h:a.length<=k+1):dvp (ci a) k=0:=by
 show((k+1:Nat):Int)*ci a (k+1)=0;rw[zM h,xau]
theorem Dx(p:Int)(a:List Int)(k:Nat):ci (drv p a) k=dvp (ci a) k%p:=sx (fun k hk=>by rw[zdt (by lia),xag]) k
theorem zau(p:Int)(a:List Int):Cg p (ci<|drv p a) (dvp<|ci a):=fun k=>by rw[Dx,xaF]
theorem zbY(hp:0<p)(a:List Int):Fp p (drv p a):=⟨fun k=>by rw[Dx];exact(yc hp).1,fun k=>by rw[Dx];exact(yc hp).2,me _ _⟩
theorem zhI(p:Int)(a:List Int):(drv p a).length<=a.length:=BJ _ _
theorem ia{fu:Nat}(hp:wz p=true)(ha:Fp p a)(hc:a.length<=90000)(hf:3000000<=fu):YU fu a p=some (drv p a,0):=by
 obtain⟨p1,p2⟩:=zn hp;unfold YU;have hb:∀k:Nat,0<=((k:Int)%p)*ci a k/\((k:Int)%p)*ci a k<=4293001441:=fun k=>by
  have hr:=yc (a:=(k:Int)) (p:=p);exact Xq p2 hr.1 hr.2 (ha.nn k)<|ha.lt k
 rw[za<|ku hp,iq rfl,za<|zF (by lia) p2 (ha.rl p2) (by lia) hf,ha.pm,za (v:=zl (a.length-1)<|fun k=>(((k+1:Nat):Int)%p)*ci a (k+1))]
 ·have hz:∀k,a.length-1<=k->(((k+1:Nat):Int)%p)*ci a (k+1)=0:=fun k hk=>by rw[zM (by lia),xau]
  have hr:Rl (zl (a.length-1)<|fun k=>(((k+1:Nat):Int)%p)*ci a (k+1)):=fun k=>by
   rw[ur hz];have:=hb<|k+1;exact⟨by lia,by lia⟩
  rw[za<|zF (by lia) p2 hr (by rw[zK];lia) hf];congr 2;refine(tn (by lia) _).ext (zbY (by lia) _) fun k=> ?_;rw[Cu,ur hz,Dx,xaF,xaF];show _=(((k+1:Nat):Int)*ci a (k+1))%p;rw[xbr,xaF,<-xbr]
 ·refine zx (fun s:List Int×Int×List Int=>∃i:Nat,i<=a.length/\s=(zl (i-1)<|fun k=>(((k+1:Nat):Int)%p)*ci a (k+1),(i:Int),a)) (fun s=>a.length-s.2.1.toNat) _ ?_ _ _ ⟨0,xah _,rfl⟩ (by show a.length-0<fu;lia);rintro s L ⟨i,hi,rfl⟩ ih;unfold J5;simp only;by_cases h:i<a.length
  ·rw[zN,za rfl];simp only[if_true];rw[zp h,zf,ZO];by_cases h0:0<i
   ·have hd:=hb i;obtain⟨j,rfl⟩:∃j,i=j+1:=⟨i-1,by lia⟩;rw[zN,yJ,zf,uw,zb,wC (by rw[zK];simp;lia),zf,show j+1-1=j by lia,zbt (f:=fun k=>(((k+1:Nat):Int)%p)*ci a (k+1)) rfl,zb];exact ih _ ⟨j+1+1,by lia,rfl⟩ (by show a.length-(((j+1:Nat):Int)+1).toNat<a.length-((j+1:Nat):Int).toNat;lia)
   ·obtain rfl:i=0:=by lia
    rw[zy,zb];exact ih _ ⟨1,by lia,rfl⟩ (by show a.length-(((0:Nat):Int)+1).toNat<a.length-((0:Nat):Int).toNat;lia)
  ·rw[zy,za rfl];simp only[xak,if_false];obtain rfl:i=a.length:=by lia
   rfl
end
section
variable{p:Int}{m g d:List Int}{A:Pz}
structure wx(p:Int)(m:List Int):Prop where
 fm:Fp p m
 ln:0<m.length
 top:ci m (m.length-1)=1
theorem wx.mn(h:wx p m):Mn (ci m) (m.length-1):=⟨h.top,fun k hk=>zM<|by lia⟩
theorem wx.one(h:wx p m)(hl:m.length=1):m=[1]:=by
 match m,hl with
 |[x],_=>have:=h.top;exact congrArg (fun y=>[y]) this
theorem BE{q r:List Int}(hp:2<=p)(hm:wx p m)(hg:wx p g)(fA:Fs A)(hd:Cg p (ci m) (A*ci g))(hq:Fp p q)(hr:Fp p r)(ha:Cg p (ci m) (ci q*ci g+ci r))(he:r.length<g.length):
 wx p q/\Cg p (ci m) (ci q*ci g)/\m.length+1=q.length+g.length:=by
 have hf:=hg.ln;have h1:Cg p ((A-ci q)*ci g) (ci r):=by
  rw[wO];refine((hd.symm.trans ha).sub Cg.rfl).trans<|Cg.of ?_;funext k;rw[yz,zI];lia
 have h2:=hg.mn.zero hp (fA.subt<|Fs.ci q) fun k hk=>by rw[h1 k,zM (by lia),xag]
 have h3:Cg p (ci r) (pc 0):=h1.symm.trans<|h2.mul_zero_r _;have h4:Cg p (ci m) (ci q*ci g):=by
  refine ha.trans<|Cg.iff_sub.2 ?_;have e:ci q*ci g+ci r-ci q*ci g=ci r:=by
   funext k;rw[yz,zI];lia
  rw[e];exact h3
 have hl:=hm.ln;have q0:0<q.length:=by
  refine xcI fun e=> ?_;have h5:=h4<|m.length-1;rw[hm.top,xt,yG fun i hi=>by rw[zM (l:=q) (by lia),xaS],xag,xaC (by decide)<|by lia]at h5;cases h5
 have ht:=hg.mn.top (x:=ci q) (n:=q.length-1) fun k hk=>zM (by lia);have h6:=h4<|q.length-1+(g.length-1);rw[ht,hm.fm.mod,hq.mod]at h6;have hc:ci q (q.length-1)≠0:=by
  rcases hq.nl with h|h
  ·lia
  ·exact h
 have hb:m.length+1=q.length+g.length:=by
  have a1:q.length-1+(g.length-1)<m.length:=xdz fun h=>by
   rw[zM h]at h6;exact hc h6.symm
  have a2:m.length<=q.length-1+(g.length-1)+1:=hm.fm.nl.le fun k hk=>by rw[<-hm.fm.mod,h4,vL (n:=q.length) (m:=g.length) (fun j hj=>zM hj)<|fun j hj=>zM hj,xag]
  lia
 refine⟨⟨hq,q0,?_⟩,h4,hb⟩;rw[<-h6,show q.length-1+(g.length-1)=m.length-1 by lia,hm.top]
theorem zdO{h s t:List Int}{S:Nat}(hp:2<=p)(hg:wx p g)(hR:BzR p g h d s t S)(hd:d.length=0\/ci d (d.length-1)=1):wx p d:=by
 obtain⟨A,C,z1,z2,d1,d2⟩:=hR.dv;have hl:0<d.length:=by
  refine xcI fun e=> ?_;have h1:=d1<|g.length-1;rw[hg.top,xt,yG fun i hi=>by rw[zM (l:=d) (by lia),xau],xag,xaC (by decide)<|by lia]at h1;cases h1
 exact⟨hR.df,hl,hd.resolve_left<|by lia⟩
theorem az{a:List Int}(hp:2<=p)(ha:wx p a)(hd:wx p d)(fA:Fs A)(h:Cg p (ci a) (A*ci d)):d.length<=a.length:=by
 have hb:=ha.ln;refine xbw fun hc=> ?_;have hz:∀k,d.length-1<=k->(A*ci d) k%p=0:=fun k hk=>by rw[<-h k,zM (by lia),xag]
 have h0:=hd.mn.zero hp fA hz;have h5:=(h.trans<|h0.mul_zero_r _)<|a.length-1;rw[ha.top,zL,xag,xaC (by decide)<|by lia]at h5;cases h5
end
theorem Tw{p:Int}{m:List Int}(hp:0<p)(hm:Fp p m):y3 p m [1]=m:=by grind [Fp.ext,vR,Cg.trans,kK,Cg.of,qk,zO]
section
variable{m u d g:List Int}{P:Nat}{f v w:Pz}{y p a:Int}{b:Nat->Pz}{l us:List (List Int)}
def pp(f:Pz):Nat->Pz
 |0=>pc 1
 |n+1=>pp f n*f
theorem tC(f:Pz)(m:Nat):∀n,pp f (m+n)=pp f m*pp f n
 |0=>(zO _).symm
 |n+1=>by rw[<-xcR];show pp f (m+n)*f=_;rw[tC f m n,zd];rfl
theorem TE(f g:Pz):∀n,pp (f*g) n=pp f n*pp g n
 |0=>(zO _).symm
 |n+1=>by
  show pp (f*g) n*(f*g)=pp f n*f*(pp g n*g);rw[TE f g n,zd,zd,zz<|pp g n]
theorem zaJ(f:Pz)(m:Nat):∀n,pp (pp f m) n=pp f (m*n)
 |0=>rfl
 |n+1=>by rw[Nat.mul_succ,tC f,<-zaJ f m n];rfl
theorem zcy(c:Int):∀n,pp (pc c) n=pc (c^n)
 |0=>by rw[xbs];rfl
 |n+1=>by show pp (pc c) n*pc c=_;rw[zcy c n,qZ,xbl]
theorem Fs.pp{f:Pz}(h:Fs f):∀n,Fs (pp f n)
 |0=>⟨1,fun k hk=>zy⟩
 |n+1=>(Fs.pp h n).mul h
def smP:Nat->(Nat->Pz)->Pz
 |0,_=>pc 0
 |n+1,F=>smP n F+F n
theorem Yn{F G:Nat->Pz}:∀n,(∀i,i<n->F i=G i)->smP n F=smP n G
 |0,_=>rfl
 |n+1,h=>by show smP n F+F n=smP n G+G n;rw[Yn n fun i hi=>h i (by lia),h n<|by lia]
theorem NI{m:Int}{F G:Nat->Pz}:∀n,(∀i,i<n->Cg m (F i) (G i))->Cg m (smP n F) (smP n G)
 |0,_=>Cg.rfl
 |n+1,h=>(NI n fun i hi=>h i<|by lia).add<|h n<|by lia
theorem Vu(f g:Pz):f+g=g+f:=by grind [zI,xfa]
theorem Xr(f g h:Pz):f+g+h=f+(g+h):=funext fun k=>by simp only[zI];lia
theorem Yi(f:Pz):f+pc 0=f:=funext fun k=>by rw[zI,zL,xbD]
theorem ph(f:Pz):pc 0+f=f:=funext fun k=>by rw[zI,zL,xcD]
theorem gh(g:Pz)(F:Nat->Pz):∀n,smP n F*g=smP n fun i=>F i*g
 |0=>yb g
 |n+1=>by show(smP n F+F n)*g=smP n (fun i=>F i*g)+F n*g;rw[yg,gh g F n]
theorem DM(F G:Nat->Pz):∀n,smP n (fun i=>F i+G i)=smP n F+smP n G
 |0=>(Yi _).symm
 |n+1=>by
  show smP n (fun i=>F i+G i)+(F n+G n)=smP n F+F n+(smP n G+G n);rw[DM F G n];funext k;simp only[zI];lia
theorem u7(F:Nat->Pz):∀n,smP (n+1) F=F 0+smP n fun i=>F (i+1)
 |0=>by show pc 0+F 0=F 0+pc 0;rw[Vu]
 |n+1=>by show smP (n+1) F+F (n+1)=F 0+(smP n (fun i=>F<|i+1)+F (n+1));rw[u7 F n,Xr]
theorem za1{m:Int}{F:Nat->Pz}(n:Nat)(h:∀i,i<n->Cg m (F i) (pc 0)):Cg m (smP n F) (pc 0):=by
 induction n with
 |zero=>exact Cg.rfl
 |succ n ih=>
  have:=(ih fun i hi=>h i<|by lia).add (h n<|by lia);rw[Yi]at this;exact this
theorem NC(a b:Int):pc (a+b)=pc a+pc b:=by grind [pc,zI]
theorem zaF(f g:Pz):∀n,pp (f+g) n=smP (n+1) fun i=>pc (VF n i)*(pp f i*pp g (n-i))
 |0=>by
  show pc 1=pc 0+pc ((VF 0 0:Nat):Int)*(pc 1*pc 1);rw[ph,zt,show((VF 0 0:Nat):Int)=1 from rfl,zt]
 |n+1=>by
  show pp (f+g) n*(f+g)=_;rw[zaF f g n,xy,gh,gh];have e1:(smP (n+1) fun i=>pc (VF n i)*(pp f i*pp g (n-i))*g)=smP (n+2) fun i=>pc (VF n i)*(pp f i*pp g (n+1-i)):=by
   have hz:pc ((VF n (n+1):Nat):Int)*(pp f (n+1)*pp g (n+1-(n+1)))=pc 0:=by rw[JB n (n+1)<|by lia];exact yb _
   show _=smP (n+1) _+pc ((VF n (n+1):Nat):Int)*(pp f (n+1)*pp g (n+1-(n+1)));rw[hz,Yi];refine Yn _ fun i hi=> ?_;rw[show n+1-i=n-i+1 by lia,zd,zd];rfl
  have e2:(smP (n+1) fun i=>pc (VF n i)*(pp f i*pp g (n-i))*f)=smP (n+1) fun i=>pc (VF n i)*(pp f (i+1)*pp g (n+1-(i+1))):=
   Yn _ fun i hi=>by rw[show n+1-(i+1)=n-i by lia,zd,zj (pp f i*_) f,<-zd f,zj f<|pp f i];rfl
  rw[e1,e2,u7 _<|n+1,u7 (fun i=>pc ((VF (n+1) i:Nat):Int)*(pp f i*pp g (n+1-i)))<|n+1,Xm,Xm,<-Xr,Vu<|smP _ _,Xr,<-DM];congr 1;refine Yn _ fun i hi=> ?_;rw[Xn,xdZ,NC,yg,Vu]
theorem ziI(hp:2<=P)(hn:vX P)(f g:Pz):Cg (P:Int) (pp (f+g) P) (pp f P+pp g P):=by
 obtain⟨q,rfl⟩:∃q,P=q+1:=⟨P-1,by lia⟩;rw[zaF];show Cg _ (smP (q+1) _+pc ((VF (q+1) (q+1):Nat):Int)*(pp f (q+1)*pp g (q+1-(q+1)))) _;rw[u7,sX,Xm,xda,show((1:Nat):Int)=1 from rfl,zt,zt];have hz:=za1 (m:=((q+1:Nat):Int)) (F:=fun i=>pc ((VF (q+1) (i+1):Nat):Int)*(pp f (i+1)*pp g (q+1-(i+1)))) q fun i hi=>Cg.of_dvd fun k=>by
  rw[zE];exact xbG (xdC.2<|PR hp hn)<|xco _ _
 have h1:pp f 0*pp g (q+1-0)=pp g (q+1):=zt _;have h2:pp f (q+1)*pp g 0=pp f (q+1):=zO _;rw[h1,h2];have h3:=((Cg.rfl (m:=((q+1:Nat):Int)) (f:=pp g<|q+1)).add hz).add<|Cg.rfl (f:=pp f<|q+1);rw[Yi,Vu (pp g _)<|pp f _]at h3;exact h3
theorem Cy{P:Nat}(hp:2<=P)(hn:vX P)(F:Nat->Pz):∀n,Cg (P:Int) (pp (smP n F) P) (smP n fun i=>pp (F i) P)
 |0=>by
  show Cg _ (pp (pc 0) P) (pc 0);rw[zcy,Int.zero_pow<|by lia];exact Cg.rfl
 |n+1=>(ziI hp hn (smP n F)<|F n).trans<|(Cy hp hn F n).add Cg.rfl
def vx:Pz:=mono 1 1
theorem Ox(c:Int):∀i,(mono i c:Pz)=pc c*pp vx i
 |0=>by
  show _=pc c*pc 1;rw[zO];funext k;unfold mono pc;rfl
 |i+1=>by
  show _=pc c*(pp vx i*vx);rw[<-zd,<-Ox c i];funext k;rw[zj];show mono (i+1) c k=((mono 1 1:Pz)*mono i c) k;rw[Zz];unfold sh mono;by_cases h:1<=k
  ·rw[iq h];by_cases h2:k=i+1
   ·rw[iq h2,zN,xca]
   ·rw[ir h2,zy,xau]
  ·rw[ir h,zy];rfl
theorem zb8{n:Nat}(h:∀k,n<=k->f k=0):f=smP n fun i=>mono i (f i):=by
 have hs:∀m k,smP m (fun i=>(mono i (f i):Pz)) k=if k<m then f k else 0:=fun m=>by
  induction m with
  |zero=>intro k;rw[zy];exact zL k
  |succ m ih=>
   intro k;show(smP m (fun i=>(mono i (f i):Pz))+mono m (f m)) k=_;rw[zI,ih];unfold mono;by_cases h1:k=m
   ·rw[iq h1,zy,zN,h1,xcD]
   ·rw[ir h1,xbD];by_cases h2:k<m
    ·rw[iq h2,zN]
    ·rw[ir h2,zy]
 funext k;rw[hs];split
 ·rfl
 ·exact h k<|by lia
theorem sZ(hp:2<=P)(hn:vX P)(a:Int):a^P%P=a%P:=by
 have h1:a%P=((a%P).toNat:Int)%P:=by
  have:=xcV a (show(P:Int)≠0 by lia);rw[xcZ this,xaF]
 have h2:=Ml hp hn (a%P).toNat;have h3:=xcV a (show(P:Int)≠0 by lia);rw[xcZ h3,xaF]at h2;rw[<-h2,<-xcF (a^P)<|xdP _];have:∀n,(a%P)^n%P=a^n%P:=fun n=>by
  induction n with
  |zero=>rw[xbs,xbs]
  |succ n ih=>rw[xbl,xbl,xbr,ih,xaF,<-xbr]
 rw[this,xaF]
theorem zjf(hp:2<=P)(hn:vX P){n:Nat}(h:∀k,n<=k->f k=0):Cg (P:Int) (pp f P) (smP n fun i=>pc (f i)*pp (pp vx P) i):=by
 have h1:pp f P=pp (smP n fun i=>mono i<|f i) P:=by rw[<-zb8 h]
 rw[h1];refine(Cy hp hn _ n).trans<|NI n fun i hi=> ?_;rw[Ox,TE,zcy,zaJ,zaJ,xaU];refine Cg.mul (fun k=> ?_) Cg.rfl;unfold pc;split
 ·exact sZ hp hn _
 ·rfl
def es(d:Nat->Int):Nat->Int->Int
 |0,_=>0
 |n+1,a=>d 0+a*es (fun k=>d<|k+1) n a
theorem zbX(a:Int):∀(n:Nat) (d:Nat->Int),∃q:Nat->Int,(∀b,es d (n+1) b=(b-a)*es q n b+es d (n+1) a)/\(∀k,k<n->d (k+1)=q k-a*(if k+1<n then q (k+1)else 0))/\d 0=es d (n+1) a-a*(if 0<n then q 0 else 0)
 |0,d=>⟨fun _=>0,fun b=>by show d 0+b*0=(b-a)*0+(d 0+a*0);grind,fun k hk=>by lia,by show d 0=d 0+a*0-a*(if 0<0 then 0 else 0);rw[zy];grind⟩
 |n+1,d=>by
  obtain⟨q,h1,h2,h3⟩:=zbX a n fun k=>d<|k+1;obtain⟨e,he⟩:∃e,e=es (fun k=>d<|k+1) (n+1) a:=⟨_,rfl⟩;rw[<-he]at h1 h3
  refine⟨fun k=>match k with
   |0=>e
   |k+1=>q k,fun b=> ?_,fun k hk=> ?_,?_⟩
  ·show d 0+b*es (fun k=>d<|k+1) (n+1) b=(b-a)*(e+b*es q n b)+(d 0+a*es (fun k=>d<|k+1) (n+1) a);rw[h1 b,<-he];generalize es q n b=x;grind
  ·cases k with
   |zero=>
    show d (0+1)=e-a*(if 0+1<n+1 then q 0 else 0);have ha:d (0+1)=e-a*(if 0<n then q 0 else 0):=h3;rw[ha];by_cases hn:0<n
    ·rw[iq hn,zN]
    ·rw[ir hn,zy]
   |succ k=>
    show d (k+1+1)=q k-a*(if k+1+1<n+1 then q (k+1)else 0);rw[h2 k<|by lia];by_cases hn:k+1<n
    ·rw[iq hn,zN]
    ·rw[ir hn,zy]
  ·show d 0=d 0+a*es (fun k=>d<|k+1) (n+1) a-a*(if 0<n+1 then e else 0);rw[zN,he];grind
theorem Ew(hp:2<=P)(hn:vX P){x:Int}(h:(P:Int)∣x*y):(P:Int)∣x\/(P:Int)∣y:=by
 by_cases hx:(P:Int)∣x
 ·exact .inl hx
 ·right;have h0:0<(x%P).toNat:=by
   have h1:=xcV x (show(P:Int)≠0 by lia);have h2:x%P≠0:=fun e=>hx<|xaJ e;lia
  have h1:(x%P).toNat<P:=by
   have:=xdy x (show(0:Int)<P by lia);lia
  have h2:(P:Int)∣(x%P)*y:=by
   have:(x%P)*y=x*y-P*(x/P*y):=by
    have:=Int.emod_add_mul_ediv x P;grind
   rw[this];exact xdp h<|xco _ _
  have h3:P∣(x%P).toNat*y.natAbs:=by
   have h4:=xcq.2 h2;rw[xcg]at h4;have h5:(x%P).natAbs=(x%P).toNat:=by lia
   rwa[xbe,h5]at h4
  exact xcq.1<|by rw[xbe];exact O7 hp hn h0 h1 h3
theorem O5{P:Nat}(hp:2<=P)(hn:vX P):∀(n:Nat) (d:Nat->Int),n<=P->(∀a:Nat,a<n->(P:Int)∣es d n a)->∀k,k<n->(P:Int)∣d k
 |0,_,_,_,k,hk=>by lia
 |n+1,d,hP,h,k,hk=>by
  obtain⟨q,h1,h2,h3⟩:=zbX (n:Int) n d;have hq:=O5 hp hn n q (by lia) fun a ha=>by
   have e1:=h1 a;have e2:(P:Int)∣((a:Int)-n)*es q n a:=by
    have:((a:Int)-n)*es q n a=es d (n+1) a-es d (n+1) n:=by lia
    rw[this];exact xdp (h a<|by lia)<|h n<|by lia
   rcases Ew hp hn e2 with e3|e3
   ·exfalso;obtain⟨c,hc⟩:=e3;have h5:c<0:=by
     apply Int.not_le.1;intro hb;have:=xcB (show(0:Int)<=P by lia) hb;lia
    have h6:(P:Int)*c<=(P:Int)*(-1):=xaW (by lia) (by lia);lia
   ·exact e3
  have hd:=h n<|by lia
  cases k with
  |zero=>
   rw[h3];refine xdp hd ?_;split
   ·exact xbG (hq 0<|by lia)<|xcQ _ _
   ·rw[xau];exact xcO _
  |succ k=>
   rw[h2 k<|by lia];refine xdp (hq k<|by lia) ?_;split
   ·exact xbG (hq (k+1)<|by lia)<|xcQ _ _
   ·rw[xau];exact xcO _
def sc:Nat->Nat->Int
 |0,k=>if k=0 then 1 else 0
 |n+1,0=> -(n:Int)*sc n 0
 |n+1,k+1=>sc n k-(n:Int)*sc n (k+1)
theorem iJ:∀n k,n<k->sc n k=0
 |0,k,h=>zy
 |n+1,0,h=>by lia
 |n+1,k+1,h=>by show sc n k-(n:Int)*sc n (k+1)=0;rw[iJ n k (by lia),iJ n (k+1)<|by lia];grind
theorem LG:∀n,sc n n=1
 |0=>rfl
 |n+1=>by show sc n n-(n:Int)*sc n (n+1)=1;rw[LG n,iJ n (n+1)<|by lia];grind
def prv(v:Pz):Nat->Pz
 |0=>pc 1
 |n+1=>prv v n*(v-pc n)
theorem O8(a:Int)(f:Pz):pc (-a)*f= -(pc a*f):=by grind [Hf,zE,Int.neg_mul]
theorem Ph(v:Pz):∀n,prv v n=smP (n+1) fun k=>pc (sc n k)*pp v k
 |0=>by
  show pc 1=pc 0+pc (sc 0 0)*pc 1;rw[ph,show sc 0 0=1 from rfl,zO]
 |n+1=>by
  show prv v n*(v-pc n)=_;have e:∀F G:Pz,F*(G-pc n)=F*G+ -(pc n*F):=fun F G=>by rw[vj,zj F<|pc n,sE]
  rw[e,Ph v n,gh];have e2: -(pc (n:Int)*smP (n+1) fun k=>pc (sc n k)*pp v k)=smP (n+2) fun k=>pc (-(n:Int)*sc n k)*pp v k:=by
   rw[<-O8,zj,gh];show _=smP (n+1) _+pc (-(n:Int)*sc n (n+1))*pp v (n+1);rw[iJ n (n+1) (by lia),xau,yb,Yi];exact Yn _ fun i _=>by rw[zj,<-zd,qZ]
  rw[e2,u7 _<|n+1,u7 (fun k=>pc (sc (n+1) k)*pp v k)<|n+1,<-Xr,Vu<|smP _ _,Xr,<-DM];congr 1;refine Yn _ fun i _=> ?_;show pc (sc n i)*pp v i*v+pc (-(n:Int)*sc n (i+1))*pp v (i+1)=pc (sc n i-(n:Int)*sc n (i+1))*pp v (i+1);rw[zd];show pc (sc n i)*pp v (i+1)+_=_;rw[<-yg,<-NC];congr 2;grind
theorem Uo(d:Nat->Int)(a:Int):∀n,es d (n+1) a=es d n a+d n*a^n:=by
 intro n
 induction n generalizing d with
 |zero=>show d 0+a*0=0+d 0*a^0;rw[xbs];grind
 |succ n ih=>
  show d 0+a*es (fun k=>d<|k+1) (n+1) a=d 0+a*es (fun k=>d<|k+1) n a+d (n+1)*a^(n+1);rw[ih,xbl];grind
theorem L8(c d:Nat->Int)(a:Int):∀n,es (fun k=>c k+d k) n a=es c n a+es d n a
 |0=>rfl
 |n+1=>by rw[Uo,Uo,Uo,L8 c d a n];grind
def prn(a:Int):Nat->Int
 |0=>1
 |n+1=>prn a n*(a-n)
theorem zcY(a:Int):∀n,prn a n=es (sc n) (n+1) a
 |0=>by show(1:Int)=1+a*0;grind
 |n+1=>by
  show prn a n*(a-n)=_;have h1:es (sc<|n+1) (n+2) a= -(n:Int)*sc n 0+a*es (fun k=>sc n k-(n:Int)*sc n (k+1)) (n+1) a:=rfl;have h2:es (fun k=>sc n k-(n:Int)*sc n (k+1)) (n+1) a=es (sc n) (n+1) a+es (fun k=> -(n:Int)*sc n (k+1)) (n+1) a:=by rw[<-L8];congr 1;funext k;grind
  have h3:∀m (d:Nat->Int) (c:Int),es (fun k=>c*d k) m a=c*es d m a:=fun m=>by
   induction m with
   |zero=>intro d c;show(0:Int)=c*0;grind
   |succ m ih=>intro d c;rw[Uo,Uo,ih];grind
  have h4:es (sc n) (n+2) a=es (sc n) (n+1) a:=by rw[Uo,iJ n (n+1) (by lia),xaS,xbD]
  have h5:es (sc n) (n+2) a=sc n 0+a*es (fun k=>sc n<|k+1) (n+1) a:=rfl;rw[h1,h2,h3,zcY a n];grind
theorem Pn{a:Nat}:∀n,a<n->prn a n=0
 |0,h=>by lia
 |n+1,h=>by
  show prn a n*((a:Int)-n)=0;by_cases e:a=n
  ·rw[e,xdb,xau]
  ·rw[Pn n (by lia),xaS]
theorem zhu(hp:2<=P)(hn:vX P)(k:Nat):sc P k%P=(if k=P then(1:Int)else if k=1 then-1 else 0)%P:=by
 by_cases h:k<P
 ·have hz:=O5 hp hn P (fun k=>sc P k+(if k=1 then 1 else 0)) (xab _) (fun a ha=>by
   rw[L8];have e1:es (fun k=>if k=1 then(1:Int)else 0) P (a:Int)=a:=by
    obtain⟨q,rfl⟩:∃q,P=q+2:=⟨P-2,by lia⟩;show(0:Int)+a*((1:Int)+a*es (fun k=>if k+1+1=1 then(1:Int)else 0) q a)=a;have:∀m,es (fun k=>if k+1+1=1 then(1:Int)else 0) m (a:Int)=0:=fun m=>by
     induction m with
     |zero=>rfl
     |succ m ih=>rw[Uo,ih,zy];grind
    rw[this];grind
   have e2:=zcY (a:Int) P;rw[Pn P ha,Uo,LG]at e2;have e3:=sZ hp hn (a:Int);rw[e1];have e4:es (sc P) P (a:Int)+a=a-a^P:=by grind
   rw[e4];exact xaJ<|xaE.1 e3.symm) k h
  rw[zy];have hb:=xaB hz;by_cases h1:k=1
  ·rw[iq h1]at hb⊢;refine xaE.2 ?_;rw[show sc P k- -1=sc P k+1 by lia];exact hb
  ·rw[ir h1]at hb⊢;rw[xbD]at hb;rw[hb,xag]
 ·by_cases h2:k=P
  ·rw[iq h2,h2,LG]
  ·rw[ir h2,zy,iJ P k<|by lia]
theorem zbj:∀n,(smP n fun _=>pc 0)=pc 0
 |0=>rfl
 |n+1=>by show(smP n fun _=>pc 0)+pc 0=pc 0;rw[zbj n,Yi]
theorem zdW(hp:2<=P)(hn:vX P)(v:Pz):Cg (P:Int) (prv v P) (pp v P-v):=by
 rw[Ph]
 have h1:Cg (P:Int) (smP (P+1) fun k=>pc (sc P k)*pp v k) (smP (P+1) fun k=>pc (if k=P then(1:Int)else if k=1 then-1 else 0)*pp v k):=
  NI _ fun k _=>Cg.mul (fun j=>by unfold pc;split;exact zhu hp hn k;rfl) Cg.rfl
 refine h1.trans<|Cg.of ?_;obtain⟨q,rfl⟩:∃q,P=q+2:=⟨P-2,by lia⟩;show smP (q+2) _+pc (if q+2=q+2 then(1:Int)else _)*pp v (q+2)=_;rw[iq rfl,zt,u7 _<|q+1,u7 _ q,zy,zy,zy,iq rfl];have hz:(smP q fun k=>pc (if k+1+1=q+2 then(1:Int)else if k+1+1=1 then-1 else 0)*pp v (k+1+1))=pc 0:=by
  rw[Yn (G:=fun _=>pc 0) q fun i hi=>by rw[zy,zy,yb]];exact zbj q
 rw[hz];have h2:pc (-1)*pp v (0+1)= -v:=by
  rw[O8,zt];show-(pc 1*v)= -v;rw[zt]
 rw[h2,yb];funext k;simp only[zI,yz,Hf,zL];lia
def Di(p:Int)(u v:Pz):Prop:=∃q:Pz,Fs q/\Cg p v (q*u)
theorem Di.refl(p:Int)(u:Pz):Di p u u:=⟨pc 1,Fs.pc 1,Cg.of (zt u).symm⟩
theorem Di.trans{p:Int}{u v w:Pz}(h:Di p u v)(g:Di p v w):Di p u w:=by
 obtain⟨q,f1,h1⟩:=h;obtain⟨r,f2,h2⟩:=g;exact⟨r*q,f2.mul f1,h2.trans<|((Cg.rfl (f:=r)).mul h1).trans<|Cg.of (zd r q u).symm⟩
theorem Di.add{p:Int}{u v w:Pz}(h:Di p u v)(g:Di p u w):Di p u (v+w):=by
 obtain⟨q,f1,h1⟩:=h;obtain⟨r,f2,h2⟩:=g;exact⟨q+r,f1.add f2,(h1.add h2).trans<|Cg.of (yg q r u).symm⟩
theorem Di.sub{p:Int}{u v w:Pz}(h:Di p u v)(g:Di p u w):Di p u (v-w):=by
 obtain⟨q,f1,h1⟩:=h;obtain⟨r,f2,h2⟩:=g;exact⟨q-r,f1.subt f2,(h1.sub h2).trans<|Cg.of (wO q r u).symm⟩
theorem Di.mul{p:Int}{u v:Pz}(w:Pz)(fw:Fs w)(h:Di p u v):Di p u (w*v):=by
 obtain⟨q,f1,h1⟩:=h;exact⟨w*q,fw.mul f1,((Cg.rfl (f:=w)).mul h1).trans<|Cg.of (zd w q u).symm⟩
theorem Di.cg{u:Pz}(h:Di p u v)(g:Cg p v w):Di p u w:=by
 obtain⟨q,f1,h1⟩:=h;exact⟨q,f1,g.symm.trans h1⟩
theorem Di.zero(p:Int)(u:Pz):Di p u (pc 0):=⟨pc 0,Fs.pc 0,Cg.of (yb u).symm⟩
theorem Di.euclid{u:Pz}(fw:Fs w)(h:vD p u v)(g:Di p u (v*w)):Di p u w:=by
 obtain⟨s,t,fs,ft,h1⟩:=h;have h2:Cg p (w*s*u+t*(v*w)) w:=by
  refine Cg.trans (Cg.of ?_)<|(h1.mul<|Cg.rfl (f:=w)).trans<|Cg.of<|zt w;rw[yg,zd t,zj (s*u) w,zd w]
 refine Di.cg (Di.add ?_<|g.mul t ft) h2;exact⟨w*s,fw.mul fs,Cg.rfl⟩
theorem Di.both{u:Pz}(fw:Fs w)(h:vD p u v)(g1:Di p u w)(g2:Di p v w):Di p (u*v) w:=by
 obtain⟨q,fq,h1⟩:=g2;have h2:Di p u q:=Di.euclid fq h<|g1.cg<|h1.trans<|Cg.of<|zj q v;obtain⟨r,fr,h3⟩:=h2;refine⟨r,fr,h1.trans<|(h3.mul<|Cg.rfl (f:=v)).trans<|Cg.of<|zd r u v⟩
theorem Di.prz{p:Int}{w:Pz}(fw:Fs w):∀{us:List Pz},(∀u∈us,Fs u)->us.Pairwise (vD p)->(∀u∈us,Di p u w)->Di p (prZ us) w
 |[],_,_,_=>⟨w,fw,Cg.of (zO w).symm⟩
 |u::us,hF,hp,h=>by
  obtain⟨h1,h2⟩:=xbJ.1 hp;refine Di.both fw ?_ (h u<|FS)<|Di.prz fw (fun g hg=>hF g<|UV _ hg) h2 fun g hg=>h g<|UV _ hg;exact(vD.prZ (hF u<|FS) (fun g hg=>hF g<|UV _ hg) fun g hg=>(h1 g hg).symm).symm
structure X0(p:Int)(u:List Int):Prop where
 mn:wx p u
 l1:1<u.length
 ir:∀d,wx p d->Di p (ci d) (ci u)->d.length=1\/d=u
theorem DW{a b:List Int}(hp:2<=p)(ha:wx p a)(hb:wx p b)(h:Di p (ci a) (ci b))(hl:b.length<=a.length):a=b:=by
 obtain⟨q,fq,h1⟩:=h;obtain⟨n,hn⟩:=fq;have hd:=ha.ln;have he:=hb.ln;have hf:=az hp hb ha ⟨n,hn⟩ h1;have e:a.length=b.length:=by lia
 have h2:Cg p ((q-pc 1)*ci a) (ci b-ci a):=by
  rw[wO,zt];exact h1.symm.sub Cg.rfl
 have h3:=ha.mn.zero hp (Fs.subt ⟨n,hn⟩<|Fs.pc 1) fun k hk=>by
  rw[h2 k,yz];by_cases hc:k=a.length-1
  ·have ta:=ha.top;have tb:=hb.top;rw[hc,ta,e,tb,xdb,xag]
  ·rw[zM (by lia),zM<|by lia];exact xag _
 refine ha.fm.ext hb.fm ?_;have h4:=h2.symm.trans<|h3.mul_zero_r<|ci a;exact(Cg.iff_sub.2 h4).symm
theorem X0.or(hp:wz p=true){l:List Int}(hu:X0 p u)(ha:u.length<=290)(hl:Fp p l)(hb:l.length<=290):Di p (ci u) (ci l)\/vD p (ci u) (ci l):=by
 obtain⟨p1,p2⟩:=zn hp;obtain⟨d,s,t,_,hR,hd⟩:=jH (fu:=3000000) hp hu.mn.fm hl ha hb<|xab _;have hm:=zdO p1 hu.mn hR hd;obtain⟨A,C,fA,fC,h1,h2⟩:=hR.dv;rcases hu.ir d hm ⟨A,fA,h1⟩with h3|h3
 ·exact .inr<|Dt hR h3 hm.top
 ·left;rw[<-h3];exact⟨C,fC,h2⟩
theorem X0.ne(hp:2<=p)(hu:X0 p u):¬Di p (ci u) (pc 1):=fun⟨q,fq,h⟩=>by
 have hl:=hu.l1;have h1:=hu.mn.mn.zero hp fq fun k hk=>by rw[<-h k,show pc 1 k=0 from zy,xag]
 have h2:=(h.trans<|h1.mul_zero_r _) 0;rw[zL,xag]at h2;unfold pc at h2;rw[iq rfl,xaC (by decide)<|by lia]at h2;cases h2
theorem X0.cop(hp:wz p=true){w:List Int}(hu:X0 p u)(hw:X0 p w)(ha:u.length<=290)(hb:w.length<=290)(h:u≠w):vD p (ci u) (ci w):=by grind [X0.or,wx.fm,X0.mn,X0.ir,X0.l1]
theorem quo(hp:wz p=true)(hm:wx p m)(hd:wx p d)(ha:m.length<=90000)(h:Di p (ci d) (ci m)):∃q,wx p q/\Cg p (ci m) (ci q*ci d)/\m.length+1=q.length+d.length:=by
 obtain⟨p1,p2⟩:=zn hp;obtain⟨A,fA,h1⟩:=h;have hb:=az p1 hm hd fA h1;obtain⟨q,r,_,e2,e3,e4,e5,e6⟩:=xg (fu:=3000000) hp hm.fm hd.fm hd.ln ha (by lia)<|xab _;obtain⟨a,b,c⟩:=BE p1 hm hd fA h1 e2 e3 e4 e5;exact⟨q,a,b,c⟩
theorem zke(hp:wz p=true):∀(n:Nat) {m:List Int},m.length=n->n<=290->wx p m->∃us:List (List Int),(∀u∈us,X0 p u/\u.length<=n)/\Cg p (ci m) (prZ<|us.map ci):=by
 intro n
 induction n using xds with
 |ind n ih=>
  intro m ho hn hm;obtain⟨p1,p2⟩:=zn hp;have hq:=hm.ln;by_cases h1:m.length=1
  ·refine⟨[],(fun u hu=>by cases hu),?_⟩;have:=hm.one h1;rw[this];refine Cg.of<|funext fun k=> ?_;show ci [1] k=pc 1 k
   cases k with
   |zero=>rfl
   |succ k=>rw[zM<|by simp];exact(zy).symm
  by_cases hi:X0 p m
  ·refine⟨[m],fun u hu=> ?_,?_⟩
   ·rw[xai.1 hu];exact⟨hi,by lia⟩
   ·exact Cg.of (zO<|ci m).symm
  ·obtain⟨d,ha,hb,hr,he⟩:∃d,wx p d/\Di p (ci d) (ci m)/\d.length≠1/\d≠m:=by
    apply xae;intro hf;refine hi ⟨hm,by lia,fun d h2 h3=> ?_⟩;by_cases h4:d.length=1
    ·exact .inl h4
    ·right;apply xae;intro h5;exact hf ⟨d,h2,h3,h4,h5⟩
   obtain⟨q,hg,hj,hs⟩:=quo hp hm ha (by lia) hb;have ht:=ha.ln;have hv:d.length<m.length:=by
    apply xdz;intro h;exact he<|DW p1 ha hm hb h
   obtain⟨us,hc,hk⟩:=ih d.length (by lia) rfl (by lia) ha;obtain⟨vs,hd,hl⟩:=ih q.length (by lia) rfl (by lia) hg;refine⟨vs++us,fun u hu=> ?_,?_⟩
   ·rcases Nm.1 hu with h|h
    ·exact⟨(hd u h).1,by have:=(hd u h).2;lia⟩
    ·exact⟨(hc u h).1,by have:=(hc u h).2;lia⟩
   ·rw[xbg,wm];exact hj.trans<|hl.mul hk
theorem Js{p:Int}{u:Pz}:∀{us:List Pz},(∀w∈us,Fs w)->u∈us->Di p u (prZ us)
 |[],_,h=>by cases h
 |w::us,hF,h=>by
  have ha:=Fs.prZ fun g hg=>hF g<|UV _ hg;rcases xac.1 h with rfl|h
  ·exact⟨prZ us,ha,Cg.of<|zj _ _⟩
  ·exact(Js (fun g hg=>hF g<|UV _ hg) h).mul w<|hF w<|FS
theorem X0.mem{p:Int}(hp:wz p=true){u:List Int}(hu:X0 p u)(ha:u.length<=290):∀{us:List (List Int)},(∀w∈us,X0 p w/\w.length<=290)->Di p (ci u) (prZ<|us.map ci)->u∈us
 |[],_,h=>absurd h<|hu.ne (zn hp).1
 |w::us,hw,h=>by
  by_cases e:u=w
  ·rw[e];exact FS
  ·have h1:=hu.cop hp (hw w<|FS).1 ha (hw w<|FS).2 e;refine UV _<|X0.mem hp hu ha (fun g hg=>hw g<|UV _ hg)<|Di.euclid (Fs.prZ fun g hg=> ?_) h1 h;obtain⟨l,_,rfl⟩:=xal.1 hg;exact Fs.ci l
theorem Fs.to{n:Nat}(h:∀k,n<=k->f k=0):Fs f:=⟨n,h⟩
theorem Fs.vx:Fs vx:=⟨2,fun k hk=>zy⟩
theorem lst(hp:0<p){n:Nat}(h:∀k,n<=k->f k=0):∃l:List Int,Fp p l/\l.length<=n/\Cg p (ci l) f:=by
 refine⟨pm p<|zl n f,tn hp _,xam (Og _ _) (by rw[zK];exact xab _),?_⟩;exact(GU p _).trans<|Cg.of<|funext fun k=>ur h k
theorem X0.or'(hp:wz p=true)(hu:X0 p u)(ha:u.length<=290){n:Nat}(h:∀k,n<=k->f k=0)(hn:n<=290):Di p (ci u) f\/vD p (ci u) f:=by
 obtain⟨p1,p2⟩:=zn hp;obtain⟨l,h1,h2,h3⟩:=lst (p:=p) (by lia) h;rcases hu.or hp ha h1 (by lia)with h4|h4
 ·exact .inl<|h4.cg h3
 ·exact .inr<|h4.congr Cg.rfl h3
theorem X0.const(hp:2<=p)(hu:X0 p u){c:Int}(h:Di p (ci u) (pc c)):p∣c:=by
 obtain⟨q,fq,h⟩:=h;have hl:=hu.l1;have h1:=hu.mn.mn.zero hp fq fun k hk=>by rw[<-h k,show pc c k=0 from zy,xag]
 have h2:=(h.trans<|h1.mul_zero_r _) 0;rw[zL,xag]at h2;exact xaJ h2
theorem Di.const{c:Int}{u:Pz}(h:p∣c):Di p u (pc c):=(Di.zero p u).cg fun k=>by
 rw[zL];unfold pc;split
 ·rw[xag,xaB h]
 ·rfl
def Vl(p:Int)(u:List Int)(v:Pz)(c:Int):Prop:=Di p (ci u)<|v-pc c
theorem NJ(a b:Int):pc (a-b)=pc a-pc b:=by grind [pc,yz]
theorem Vl.uniq(hp:2<=p)(hu:X0 p u){b:Int}(h:Vl p u v a)(g:Vl p u v b):p∣a-b:=by
 refine hu.const hp<|(Di.sub g h).cg<|Cg.of ?_;rw[NJ];funext k;simp only[yz];lia
theorem Vl.add{p:Int}{u:List Int}{v w:Pz}{a b:Int}(h:Vl p u v a)(g:Vl p u w b):Vl p u (v+w) (a+b):=by
 refine(Di.add h g).cg<|Cg.of ?_;rw[NC];funext k;simp only[zI,yz];lia
theorem Vl.sub{p:Int}{u:List Int}{v w:Pz}{a b:Int}(h:Vl p u v a)(g:Vl p u w b):Vl p u (v-w) (a-b):=by
 refine(Di.sub h g).cg<|Cg.of ?_;rw[NJ];funext k;simp only[yz];lia
theorem Vl.mul{p:Int}{u:List Int}{v w:Pz}{a b:Int}(fv:Fs v)(h:Vl p u v a)(g:Vl p u w b):Vl p u (v*w) (a*b):=by
 refine(Di.add (Di.mul v fv g)<|Di.mul (pc b) (Fs.pc b) h).cg<|Cg.of ?_;rw[vj,vj,zj v<|pc b,qZ,xbm b a];funext k;simp only[zI,yz];lia
theorem Vl.pc(p:Int)(u:List Int)(c:Int):Vl p u (pc c) c:=(Di.zero p<|ci u).cg<|Cg.of<|funext fun k=>by rw[yz,zL,xdb]
theorem Vl.pp{p:Int}{u:List Int}{v:Pz}{a:Int}(fv:Fs v)(h:Vl p u v a):∀n,Vl p u (pp v n) (a^n)
 |0=>by rw[xbs];exact Vl.pc p u 1
 |n+1=>by rw[xbl];exact Vl.mul (fv.pp n) (Vl.pp fv h n) h
theorem Vl.cg{p:Int}{u:List Int}{v w:Pz}{a:Int}(h:Vl p u v a)(g:Cg p v w):Vl p u w a:=Di.cg h<|g.sub Cg.rfl
theorem Vl.md{b:Int}(h:Vl p u v a)(g:p∣a-b):Vl p u v b:=by
 refine(Di.add h<|Di.const (u:=ci u) g).cg<|Cg.of ?_;rw[NJ];funext k;simp only[zI,yz];lia
theorem Vl.di(hp:2<=p)(hu:X0 p u)(h:Vl p u v a):Di p (ci u) v↔p∣a:=by
 constructor
 ·intro g;have h0:Vl p u v 0:=g.cg (Cg.of<|funext fun k=>by rw[yz,zL,xcE]);have:=h.uniq hp hu h0;rwa[xcE]at this
 ·intro g;have h0:Vl p u v 0:=h.md (by rwa[xcE]);exact Di.cg h0<|Cg.of<|funext fun k=>by rw[yz,zL,xcE]
theorem TA{p:Int}(hp:wz p=true){u:List Int}(hu:X0 p u)(ha:u.length<=290){v:Pz}{n:Nat}(hv:∀k,n<=k->v k=0)(hb:1<=n)(hn:n<=290):∀j,Di p (ci u) (prv v j)->∃c:Nat,c<j/\Vl p u v c
 |0,h=>absurd h<|hu.ne (zn hp).1
 |j+1,h=>by
  have hz:∀k,n<=k->(v-pc (j:Int)) k=0:=fun k hk=>by rw[yz,hv k hk,show pc (j:Int) k=0 from zy];rfl
  rcases hu.or' hp ha hz hn with h1|h1
  ·exact⟨j,by lia,h1⟩
  ·have fj:∀i,Fs (prv v i):=fun i=>by
    induction i with
    |zero=>exact Fs.pc 1
    |succ i ih=>exact ih.mul<|(Fs.to hv).subt<|Fs.pc _
   have h2:Di p (ci u) (prv v j):=Di.euclid (fj j) h1<|h.cg<|Cg.of<|zj _ _;obtain⟨c,hc,h3⟩:=TA hp hu ha hv hb hn j h2;exact⟨c,by lia,h3⟩
theorem zeS(hp:wz (P:Int)=true)(hu:X0 (P:Int) u)(hb:u.length<=290)(hc:Di (P:Int) (ci u) (ci m)){n:Nat}(hv:∀k,n<=k->v k=0)(hd:1<=n)(hn:n<=290)(hf:Di (P:Int) (ci m) (pp v P-v)):∃c:Nat,c<P/\Vl (P:Int) u v c:=by
 obtain⟨p1,p2⟩:=zn hp;have ha:=Ys hp;rw[xaK]at ha;exact TA hp hu hb hv hd hn P<|(hc.trans hf).cg (zdW (by lia) ha v).symm
theorem zkp{p:Int}{m:List Int}(hm:wx p m):∀(n:Nat) (f:Pz),(∀k,n<=k->f k=0)->∃q r:Pz,Fs q/\(∀k,m.length-1<=k->r k=0)/\f=q*ci m+r
 |0,f,h=>⟨pc 0,pc 0,Fs.pc 0,fun k _=>zL k,funext fun k=>by rw[zI,yb,zL,h k<|by lia];rfl⟩
 |n+1,f,h=>by
  have hl:=hm.ln;by_cases hn:n+1<=m.length-1
  ·exact⟨pc 0,f,Fs.pc 0,fun k hk=>h k (by lia),funext fun k=>by rw[zI,yb,zL,xcD]⟩
  ·obtain⟨d,hd⟩:∃d,d=m.length-1:=⟨_,rfl⟩;obtain⟨q,r,fq,hr,he⟩:=zkp hm n (f-mono (n-d) (f n)*ci m) fun k hk=>by
    rw[yz,Zz];unfold sh;rw[zN];by_cases e:k=n
    ·have ht:=hm.top;rw[e,show n-(n-d)=m.length-1 by lia,ht];lia
    ·rw[h k (by lia),zM<|by lia];lia
   refine⟨q+mono (n-d) (f n),r,fq.add ⟨n+1,fun k hk=>zy⟩,hr,?_⟩;rw[yg];funext k;have:=congrFun he k;simp only[zI,yz]at this⊢;lia
theorem zjj(hp:wz (P:Int)=true)(hm:wx (P:Int) m)(hu:∀u∈us,X0 (P:Int) u/\u.length<=290)(Wm:us.Pairwise (fun a b=>vD (P:Int) (ci a)<|ci b))(hc:Cg (P:Int) (ci m) (prZ<|us.map ci))(hb:u∈us):
 ∃e:Pz,(∀k,m.length-1<=k->e k=0)/\Vl (P:Int) u e 1/\(∀w,w∈us->w≠u->Vl (P:Int) w e 0)/\Di (P:Int) (ci m) (pp e P-e):=by
 obtain⟨p1,p2⟩:=zn hp;have hk:=Ys hp;rw[xaK]at hk;obtain⟨a,b,hd⟩:=xdQ hb;have hF:∀{l:List (List Int)},∀g∈l.map ci,Fs g:=fun g hg=>by obtain⟨l,_,rfl⟩:=xal.1 hg;exact Fs.ci l
 obtain⟨O,hO⟩:∃O,O=prZ ((a++b).map ci):=⟨_,rfl⟩;have fO:Fs O:=by rw[hO];exact Fs.prZ hF
 have hf:vD (P:Int) (ci u) O:=by
  rw[hO];refine(vD.prZ (Fs.ci u) hF fun g hg=> ?_).symm;obtain⟨l,hl,rfl⟩:=xal.1 hg;rw[hd,xdj,xbJ]at Wm;rcases Nm.1 hl with h|h
  ·exact Wm.2.2 l h u<|FS
  ·exact(Wm.2.1.1 l h).symm
 obtain⟨s,t,fs,ft,h1⟩:=hf;obtain⟨n,hn⟩:=ft.mul fO;obtain⟨q,e,fq,he,ho⟩:=zkp hm n (t*O) hn;have hq:∀w∈us,Di (P:Int) (ci w) (ci m):=fun w hw=>Di.cg (Js hF<|xbL hw) hc.symm;have hi:∀w∈us,∀{c:Int},Vl (P:Int) w (t*O) c->Vl (P:Int) w e c:=fun w hw c h=>by
  have h2:=Di.sub h<|Di.mul q fq<|hq w hw;refine h2.cg<|Cg.of ?_;rw[ho];funext k;simp only[zI,yz];lia
 have v1:Vl (P:Int) u e 1:=hi u hb (by
  have h2:Di (P:Int) (ci u) (pc 0-s*ci u):=(Di.zero _ _).sub ⟨s,fs,Cg.rfl⟩;refine h2.cg<|Cg.trans (Cg.of ?_)<|(Cg.rfl (f:=t*O)).sub h1;funext k;simp only[zI,yz,zL];lia)
 have v0:∀w,w∈us->w≠u->Vl (P:Int) w e 0:=fun w hw hr=>hi w hw (by
  have h3:w∈a++b:=by
   rw[hd]at hw;rcases Nm.1 hw with h|h
   ·exact xdB _ h
   ·rcases xac.1 h with h|h
    ·exact absurd h hr
    ·exact xdR _ h
  have h2:Di (P:Int) (ci w) O:=by rw[hO];exact Js hF<|xbL h3
  exact(h2.mul t ft).cg<|Cg.of<|funext fun k=>by rw[yz,zL,xcE])
 refine⟨e,he,v1,v0,?_⟩;have fe:=Fs.to he;have hj:Di (P:Int) (prZ<|us.map ci) (pp e P-e):=by
  refine Di.prz ((fe.pp P).subt fe) hF ?_ fun g hg=> ?_
  ·exact xdq.2 Wm
  ·obtain⟨w,hw,rfl⟩:=xal.1 hg;by_cases ha:w=u
   ·subst ha;have h4:=Vl.sub (Vl.pp fe v1 P) v1;rw[Int.one_pow,xdb]at h4;exact(h4.di p1 (hu w hw).1).2<|xcO _
   ·have h4:=Vl.sub (Vl.pp fe (v0 w hw ha) P)<|v0 w hw ha;rw[Int.zero_pow (by lia),xdb]at h4;exact(h4.di p1 (hu w hw).1).2<|xcO _
 obtain⟨r,fr,h5⟩:=hj;exact⟨r,fr,h5.trans<|Cg.rfl.mul hc.symm⟩
theorem fM{p:Int}{u:List Int}{a c:Nat->Int}{b:Nat->Pz}:∀n,(∀i,i<n->Vl p u (b i) (c i))->Vl p u (smP n fun i=>pc (a i)*b i) (zX n fun i=>a i*c i)
 |0,_=>Vl.pc p u 0
 |n+1,h=>Vl.add (fM n fun i hi=>h i<|by lia)<|Vl.mul (Fs.pc _) (Vl.pc p u<|a n)<|h n<|by lia
theorem sep(hp:wz (P:Int)=true)(hm:wx (P:Int) m)(hu:∀u∈us,X0 (P:Int) u/\u.length<=290)(Wm:us.Pairwise (fun a b=>vD (P:Int) (ci a)<|ci b))(hc:Cg (P:Int) (ci m) (prZ<|us.map ci)){n:Nat}(he:∀e:Pz,(∀k,m.length-1<=k->e k=0)->Di (P:Int) (ci m) (pp e P-e)->∃a:Nat->Int,Cg (P:Int) e<|smP n fun i=>pc (a i)*b i){w:List Int}(hb:u∈us)(hd:w∈us){c:Nat->Int}(h1:∀i,i<n->Vl (P:Int) u (b i) (c i))(h2:∀i,i<n->Vl (P:Int) w (b i) (c i)):u=w:=by
 obtain⟨p1,p2⟩:=zn hp;apply xae;intro hf;obtain⟨e,e1,e2,e3,e4⟩:=zjj hp hm hu Wm hc hb;obtain⟨a,ha⟩:=he e e1 e4;have f1:=(fM (a:=a) n h1).cg ha.symm;have f2:=(fM (a:=a) n h2).cg ha.symm;have g1:=e2.uniq p1 (hu u hb).1 f1;have g2:=(e3 w hd fun h=>hf h.symm).uniq p1 (hu w hd).1 f2;have g3:=xdp g1 g2;obtain⟨k,hk⟩:=g3;have h5:(P:Int)*k=1:=by lia
 have h6:k=1\/k<=0\/2<=k:=by lia
 rcases h6 with h6|h6|h6
 ·rw[h6]at h5;lia
 ·have:=xaW h6 (show(0:Int)<=P by lia);lia
 ·have:=xaW h6 (show(0:Int)<=P by lia);lia
theorem N4{P:Int}{a b:Int}(h:P∣a-b):∀n:Nat,P∣a^n-b^n
 |0=>by rw[xbs,xbs,xdb];exact xcO _
 |n+1=>by
  obtain⟨x,hx⟩:=h;obtain⟨y,hy⟩:=N4 ⟨x,hx⟩ n;refine⟨y*a+b^n*x,?_⟩;rw[xbl,xbl];grind
def iA(P:Nat)(y:Int):Prop:=if 2<P then(P:Int)∣y^((P-1)/2)-1 else(P:Int)∣y
theorem iA.md{z:Int}(h:(P:Int)∣y-z)(g:iA P y):iA P z:=by
 unfold iA at g⊢;split
 ·rw[if_pos ‹_›]at g;have:=N4 h<|(P-1)/2;have e:=xdp g this;have e2:y^((P-1)/2)-1-(y^((P-1)/2)-z^((P-1)/2))=z^((P-1)/2)-1:=by lia
  rwa[e2]at e
 ·rw[if_neg ‹_›]at g;have e:=xdp g h;have e2:y-(y-z)=z:=by lia
  rwa[e2]at e
theorem iA.iff{z:Int}(h:(P:Int)∣y-z):iA P y↔iA P z:=by
 refine⟨iA.md h,iA.md ?_⟩;obtain⟨k,hk⟩:=h;exact⟨-k,by rw[xeC];lia⟩
theorem DI(hp:wz (P:Int)=true){d:Int}(hd:¬(P:Int)∣d):∃k:Nat,(P:Int)∣(k:Int)*d-1:=by
 obtain⟨p1,p2⟩:=zn hp;have h0:=xcV d (show(P:Int)≠0 by lia);have h1:=xdy d (show(0:Int)<P by lia);have h2:d%P≠0:=fun e=>hd<|xaJ e;have h3:=o7 hp (show 0<d%P by lia) h1;obtain⟨x,hx⟩:∃x,x=(d%P)^((P:Int)-2).toNat:=⟨_,rfl⟩;rw[<-hx]at h3;have ha:0<=x:=by rw[hx];exact xfv h0
 refine⟨x.toNat,?_⟩;rw[xcZ ha];have h4:(x*d)%P=1%P:=by rw[xbr,<-xcF d<|xdP _,<-xbr,h3,xaC (by decide)<|by lia]
 exact xaJ<|xaE.1 h4
theorem zdw(hp:wz (P:Int)=true)(he:P=2\/P%2=1){b:Int}(h:∀c:Nat,c<P->(iA P (a+c)↔iA P (b+c))):(P:Int)∣a-b:=by
 obtain⟨p1,p2⟩:=zn hp;apply xae;intro hd;have hb:∀y:Int,iA P (a+y)↔iA P (b+y):=fun y=>by
  have e1:=xcV y (show(P:Int)≠0 by lia);have e2:=xdy y (show(0:Int)<P by lia);have e3:=h (y%P).toNat (by lia);rw[xcZ e1]at e3;have e4:(P:Int)∣y-y%P:=⟨y/P,by have:=Int.emod_add_mul_ediv y P;lia⟩;have e5:(P:Int)∣a+y-(a+y%P):=by rwa[show a+y-(a+y%P)=y-y%P by lia]
  have e6:(P:Int)∣b+y-(b+y%P):=by rwa[show b+y-(b+y%P)=y-y%P by lia]
  exact(iA.iff e5).trans<|e3.trans (iA.iff e6).symm
 have ha:∀y:Int,iA P y↔iA P (y+(a-b)):=fun y=>by
  have:=hb<|y-b;rw[show b+(y-b)=y by lia,show a+(y-b)=y+(a-b)by lia]at this;exact this.symm
 have hk:∀k:Nat,iA P 0↔iA P ((k:Int)*(a-b)):=fun k=>by
  induction k with
  |zero=>rw[show((0:Nat):Int)=0 from rfl,xaS]
  |succ k ih=>
   refine ih.trans<|(ha _).trans ?_;rw[xdZ,Int.add_mul,show((1:Nat):Int)=1 from rfl,xca]
 obtain⟨k,h1⟩:=DI hp hd;have h2:=(hk k).trans<|iA.iff h1;have hc:¬(P:Int)∣1:=fun⟨q,hq⟩=>by
  have h6:q<=0\/1<=q:=by lia
  rcases h6 with h6|h6
  ·have:=xaW h6 (show(0:Int)<=P by lia);lia
  ·have:=xaW h6 (show(0:Int)<=P by lia);lia
 unfold iA at h2;by_cases hP:2<P
 ·rw[iq hP,iq hP,Int.one_pow,xdb,Int.zero_pow<|by lia]at h2;have:=h2.2<|xcO _;refine hc ?_;obtain⟨q,hq⟩:=this;exact⟨-q,by rw[xeC];lia⟩
 ·rw[ir hP,ir hP]at h2;exact hc<|h2.1<|xcO _
theorem zbN(A B D:Nat->Int)(x z:Int):∀n,zX n (fun i=>A i*(B i-x*D i*z))=zX n (fun i=>A i*B i)-x*z*zX n (fun i=>A i*D i)
 |0=>by show(0:Int)=0-x*z*0;lia
 |n+1=>by
  show zX n _+A n*(B n-x*D n*z)=zX n _+A n*B n-x*z*(zX n _+A n*D n);rw[zbN A B D x z n];grind
theorem pQ{P:Nat}(hp:wz (P:Int)=true):∀(n:Nat) (J:List Nat) (A C:Nat->Nat->Int),J.Nodup->(∀j∈J,∀j'∈J,(P:Int)∣zX n (fun i=>A j i*C i j')-(if j=j' then 1 else 0))->J.length<=n
 |0,[],_,_,_,_=>xab _
 |0,j::J,A,C,_,h=>by
  exfalso;obtain⟨p1,p2⟩:=zn hp;have:=h j (FS) j<|FS;rw[iq rfl]at this;obtain⟨q,hq⟩:=this;have hg:(0:Int)-1=P*q:=hq;have h6:q<= -1\/0<=q:=by lia
  rcases h6 with h6|h6
  ·have:=xaW h6 (show(0:Int)<=P by lia);lia
  ·have:=xcB (show(0:Int)<=P by lia) h6;lia
 |n+1,J,A,C,hJ,h=>by
  by_cases hz:∀j∈J,(P:Int)∣C n j
  ·refine Nat.le_succ_of_le<|pQ hp n J A C hJ fun j hj j' ha=> ?_;have h1:=h j hj j' ha;have h2:(P:Int)∣A j n*C n j':=xbG (hz j' ha)<|xcQ _ _;have h3:=xdp h1 h2;have e:zX (n+1) (fun i=>A j i*C i j')-(if j=j' then 1 else 0)-A j n*C n j'=zX n (fun i=>A j i*C i j')-(if j=j' then 1 else 0):=by
    show zX n _+A j n*C n j'-_-A j n*C n j'=_;lia
   rwa[e]at h3
  ·obtain⟨j0,hb,hc⟩:∃j0,j0∈J/\¬(P:Int)∣C n j0:=by
    apply xae;intro hf;refine hz fun j hj=> ?_;apply xae;intro h1;exact hf ⟨j,hj,h1⟩
   obtain⟨x,hx⟩:=DI hp hc;have hd:=List.length_erase_of_mem hb;have he:=xfm hb;have:=pQ hp n (J.erase j0) A (fun i j'=>C i j'-(x:Int)*C i j0*C n j') (hJ.erase j0) fun j hj j' ha=>by
    obtain⟨n1,m1⟩:=hJ.mem_erase_iff.1 hj;obtain⟨n2,m2⟩:=hJ.mem_erase_iff.1 ha;have h1:=h j m1 j' m2;have h2:=h j m1 j0 hb;rw[ir n1,xcE]at h2;rw[zbN];obtain⟨k1,e1⟩:=h1;obtain⟨k2,e2⟩:=h2;obtain⟨k3,e3⟩:=hx;have e1':zX n (fun i=>A j i*C i j')+A j n*C n j'-(if j=j' then 1 else 0)=P*k1:=e1;have e2':zX n (fun i=>A j i*C i j0)+A j n*C n j0=P*k2:=e2;have e4:(if j=j' then(1:Int)else 0)=if j=j' then 1 else 0:=rfl;generalize(if j=j' then(1:Int)else 0)=dl at e1'⊢;generalize zX n (fun i=>A j i*C i j')=s1 at e1'⊢;generalize zX n (fun i=>A j i*C i j0)=s0 at e2'⊢;refine⟨k1-((x:Int)*C n j'*k2-A j n*C n j'*k3),?_⟩;clear e1 e2 e4 hz hc h hd he;grind
   lia
structure Sf(p:Int)(m:List Int)(us:List (List Int)):Prop where
 hp:wz p=true
 mn:wx p m
 ml:m.length<=290
 ir:∀u∈us,X0 p u/\u.length<=290
 pw:us.Pairwise (fun a b=>vD p (ci a)<|ci b)
 cg:Cg p (ci m) (prZ<|us.map ci)
theorem JH:∀g∈l.map ci,Fs g:=by grind [ci,Fs.ci]
theorem X0.self(hp:2<=p)(hu:X0 p u):¬vD p (ci u) (ci u):=fun⟨s,t,fs,ft,h⟩=>by
 refine hu.ne hp ⟨s+t,fs.add ft,h.symm.trans<|Cg.of ?_⟩;rw[yg]
theorem Sf.dv(h:Sf p m us)(hu:u∈us):Di p (ci u) (ci m):=(Js JH<|xbL hu).cg h.cg.symm
theorem Sf.mem{p:Int}{m:List Int}{us:List (List Int)}(h:Sf p m us){u:List Int}(hu:X0 p u)(ha:u.length<=290)(hd:Di p (ci u) (ci m)):u∈us:=hu.mem h.hp ha h.ir<|hd.cg h.cg
theorem Sf.sq(h:Sf p m us)(hu:u∈us):¬Di p (ci u*ci u) (ci m):=fun hd=>by
 obtain⟨p1,p2⟩:=zn h.hp;obtain⟨a,b,rfl⟩:=xdQ hu;obtain⟨hi,ha⟩:=h.ir u hu;have Wm:=h.pw;rw[xdj,xbJ]at Wm;obtain⟨q,fq,h1⟩:=hd;have h2:=h.cg;rw[xbg,xbX,wm]at h2;have h3:Cg p (prZ (a.map ci)*(ci u*prZ (b.map ci))) (q*(ci u*ci u)):=h2.symm.trans h1;have fO:Fs (prZ<|(a++b).map ci):=Fs.prZ JH;have h4:Cg p ((prZ ((a++b).map ci)-q*ci u)*ci u) (pc 0):=by
  rw[wO,xbg,wm];refine Cg.trans (Cg.sub (Cg.of ?_)<|Cg.of<|zd q (ci u)<|ci u)<|Cg.iff_sub.1 h3;rw[zd,zj<|prZ<|b.map ci]
 have h5:=hi.mn.mn.zero p1 (fO.subt<|fq.mul<|Fs.ci u) fun k hk=>by rw[h4 k,zL,xag]
 have h6:Di p (ci u) (prZ<|(a++b).map ci):=⟨q,fq,Cg.iff_sub.2 h5⟩;have h7:=hi.mem h.hp ha (us:=a++b) (fun w hw=>by
  rcases Nm.1 hw with h|h
  ·exact(by assumption:Sf p m (a++u::b)).ir w<|xdB _ h
  ·exact(by assumption:Sf p m (a++u::b)).ir w<|xdR _<|UV _ h) h6
 rcases Nm.1 h7 with h8|h8
 ·exact hi.self p1<|Wm.2.2 u h8 u<|FS
 ·exact hi.self p1<|Wm.2.1.1 u h8
theorem Sf.len(h:Sf p m us)(hg:wx p g)(hd:Di p (ci g) (ci m)):g.length<=290:=by
 obtain⟨q,fq,h1⟩:=hd;exact xam (az (zn h.hp).1 h.mn hg fq h1) h.ml
theorem Sf.some{p:Int}{m:List Int}{us:List (List Int)}(h:Sf p m us){g:List Int}(hg:wx p g)(hd:Di p (ci g) (ci m))(hl:1<g.length):∃u,u∈us/\Di p (ci u) (ci g):=by
 have ha:=h.len hg hd;obtain⟨vs,h1,h2⟩:=zke h.hp g.length rfl ha hg
 cases vs with
 |nil=>
  exfalso;have h3:=h2<|g.length-1;have ht:=hg.top;have hp:=(zn h.hp).1;rw[ht,show prZ (List.map ci [])=pc 1 from rfl,show pc 1 (g.length-1)=0 from zy,xag,xaC (by decide)<|by lia]at h3;cases h3
 |cons v vs=>
  have h3:Di p (ci v) (ci g):=(Js JH<|xbL<|FS).cg h2.symm;obtain⟨h4,h5⟩:=h1 v<|FS;exact⟨v,h.mem h4 (by lia)<|h3.trans hd,h3⟩
theorem Sf.one{p:Int}{m:List Int}{us:List (List Int)}(h:Sf p m us){g:List Int}(hg:wx p g)(hd:Di p (ci g) (ci m))(hl:1<g.length)(ho:∀u∈us,∀w∈us,Di p (ci u) (ci g)->Di p (ci w) (ci g)->u=w):X0 p g:=by
 obtain⟨p1,p2⟩:=zn h.hp;have hj:=h.len hg hd;obtain⟨u,hu,h1⟩:=h.some hg hd hl;obtain⟨hi,hk⟩:=h.ir u hu;obtain⟨q,ha,hb,hm⟩:=quo h.hp hg hi.mn (by lia) h1;by_cases he:1<q.length
 ·exfalso;have hc:Di p (ci q) (ci g):=⟨ci u,Fs.ci u,hb.trans<|Cg.of<|zj _ _⟩;obtain⟨w,hw,h2⟩:=h.some ha (hc.trans hd) he;have e:=ho w hw u hu (h2.trans hc) h1;subst e;obtain⟨r,fr,h3⟩:=h2;refine h.sq hu<|Di.trans ⟨r,fr,hb.trans<|(h3.mul Cg.rfl).trans<|Cg.of<|zd _ _ _⟩ hd
 ·have hn:=ha.ln;have hf:=ha.one (by lia);have:g=u:=by
   refine(DW p1 hi.mn hg h1 ?_).symm;lia
  rw[this];exact hi
theorem Sf.apart(h:Sf p m us){a b:Pz}(fa:Fs a)(fb:Fs b)(ha:Di p (a*b) (ci m))(hu:u∈us)(h1:Di p (ci u) a)(h2:Di p (ci u) b):False:=by
 obtain⟨q,fq,e1⟩:=h1;obtain⟨r,fr,e2⟩:=h2;refine h.sq hu<|Di.trans ⟨q*r,fq.mul fr,(e1.mul e2).trans<|Cg.of ?_⟩ ha;rw[zd,zd,zz (ci u) r]
theorem zin{t s1 s2:List Int}{S:Nat}(hR:BzR p g t d s1 s2 S)(u:List Int):Di p (ci u) (ci d)↔Di p (ci u) (ci g)/\Di p (ci u) (ci t):=by
 obtain⟨A,C,fA,fC,h1,h2⟩:=hR.dv;refine⟨fun h=>⟨h.trans ⟨A,fA,h1⟩,h.trans ⟨C,fC,h2⟩⟩,fun⟨a,b⟩=> ?_⟩;exact(Di.add (a.mul _<|Fs.ci _)<|b.mul _<|Fs.ci _).cg hR.cg.symm
theorem UB{α:Type}[DecidableEq α]:∀{vs us:List α},vs.Nodup->(∀v∈vs,v∈us)->vs.length<=us.length
 |[],_,_,_=>xah _
 |v::vs,us,hn,h=>by
  obtain⟨h1,h2⟩:=xfh.1 hn;have hv:=h v<|FS;have h3:=UB (us:=us.erase v) h2 fun w hw=>by
   refine(List.mem_erase_of_ne fun e=> ?_).2<|h w<|UV _ hw;rw[e]at hw;exact h1 hw
  have h4:=List.length_erase_of_mem hv;have h5:=xfm hv;simp only[xaq];lia
theorem Sf.nodup(h:Sf p m us):us.Nodup:=by
 have hp:=(zn h.hp).1;have:∀us:List (List Int),(∀u∈us,X0 p u/\u.length<=290)->us.Pairwise (fun a b=>vD p (ci a)<|ci b)->us.Nodup:=fun us=>by
  induction us with
  |nil=>intro _ _;exact List.nodup_nil
  |cons u us ih=>
   intro hi hw;obtain⟨w1,w2⟩:=xbJ.1 hw;refine xfh.2 ⟨fun hm=> ?_,ih (fun g hg=>hi g<|UV _ hg) w2⟩;exact(hi u<|FS).1.self hp<|w1 u hm
 exact this us h.ir h.pw
structure Pl(p:Int)(m:List Int)(l:List (List Int)):Prop where
 mn:∀g∈l,wx p g/\1<g.length
 pr:Cg p (ci m) (prZ<|l.map ci)
theorem Pl.dv(h:Pl p m l)(hg:g∈l):Di p (ci g) (ci m):=(Js JH<|xbL hg).cg h.pr.symm
theorem NP(a b:List (List Int))(g:List Int):prZ ((a++g::b).map ci)=ci g*prZ ((a++b).map ci):=by grind [prZ,ci,wm,zz]
theorem Sf.pick{p:Int}{m:List Int}{us:List (List Int)}(h:Sf p m us):∀{l:List (List Int)},(∀g∈l,wx p g/\1<g.length)->Di p (prZ<|l.map ci) (ci m)->∃vs:List (List Int),vs.length=l.length/\vs.Nodup/\∀v∈vs,v∈us/\Di p (ci v) (prZ<|l.map ci)
 |[],_,_=>⟨[],rfl,List.nodup_nil,fun v hv=>by cases hv⟩
 |g::l,hm,hd=>by
  have fl:Fs (prZ<|l.map ci):=Fs.prZ JH;have d1:Di p (ci g) (prZ<|(g::l).map ci):=⟨prZ<|l.map ci,fl,Cg.of<|zj _ _⟩;have d2:Di p (prZ<|l.map ci) (prZ<|(g::l).map ci):=⟨ci g,Fs.ci g,Cg.rfl⟩;obtain⟨hb,he⟩:=hm g<|FS;obtain⟨u,hu,ha⟩:=h.some hb (d1.trans hd) he;obtain⟨vs,v1,v2,v3⟩:=h.pick (fun g hg=>hm g<|UV _ hg)<|d2.trans hd;refine⟨u::vs,by simp[v1],xfh.2 ⟨fun hc=> ?_,v2⟩,fun v hv=> ?_⟩
  ·exact h.apart (Fs.ci g) fl hd hu ha (v3 u hc).2
  ·rcases xac.1 hv with rfl|hv
   ·exact⟨hu,ha.trans d1⟩
   ·exact⟨(v3 v hv).1,(v3 v hv).2.trans d2⟩
theorem Sf.more(h:Sf p m us)(hl:Pl p m l){w:List Int}(hg:g∈l)(hu:u∈us)(hw:w∈us)(h1:Di p (ci u) (ci g))(h2:Di p (ci w) (ci g))(hb:u≠w):l.length<us.length:=by
 obtain⟨a,b,rfl⟩:=xdQ hg;have ha:=hl.pr;rw[NP]at ha;have fl:Fs (prZ<|(a++b).map ci):=Fs.prZ JH;have hd:Di p (ci g*prZ ((a++b).map ci)) (ci m):=⟨pc 1,Fs.pc 1,ha.trans<|Cg.of (zt _).symm⟩;obtain⟨vs,v1,v2,v3⟩:=h.pick (l:=a++b) (fun x hx=>by
  rcases Nm.1 hx with h|h
  ·exact hl.mn x<|xdB _ h
  ·exact hl.mn x<|xdR _<|UV _ h) (Di.trans ⟨ci g,Fs.ci g,Cg.rfl⟩ hd)
 have hn:(u::w::vs).Nodup:=by
  refine xfh.2 ⟨fun hc=> ?_,xfh.2 ⟨fun hc=> ?_,v2⟩⟩
  ·rcases xac.1 hc with hc|hc
   ·exact hb hc
   ·exact h.apart (Fs.ci g) fl hd hu h1 (v3 u hc).2
  ·exact h.apart (Fs.ci g) fl hd hw h2 (v3 w hc).2
 have:=UB (us:=us) hn fun v hv=>by
  rcases xac.1 hv with rfl|hv
  ·exact hu
  ·rcases xac.1 hv with rfl|hv
   ·exact hw
   ·exact(v3 v hv).1
 simp only[xaq,xax]at this v1⊢;lia
theorem Pl.split{a b:List (List Int)}{q:List Int}(h:Pl p m (a++g::b))(hd:wx p d)(hq:wx p q)(ha:1<d.length)(hb:1<q.length)(hc:Cg p (ci g) (ci q*ci d)):Pl p m (a++d::(b++[q])):=by
 refine⟨fun x hx=> ?_,?_⟩
 ·rcases Nm.1 hx with hx|hx
  ·exact h.mn x<|xdB _ hx
  ·rcases xac.1 hx with rfl|hx
   ·exact⟨hd,ha⟩
   ·rcases Nm.1 hx with hx|hx
    ·exact h.mn x<|xdR _<|UV _ hx
    ·rw[xai.1 hx];exact⟨hq,hb⟩
 ·have h1:=h.pr;rw[NP]at h1⊢;rw[<-xaj,xbg,wm];refine h1.trans<|(hc.mul Cg.rfl).trans<|Cg.of ?_;show ci q*ci d*prZ ((a++b).map ci)=ci d*(prZ ((a++b).map ci)*(ci q*pc 1));rw[zO,zj (prZ _)<|ci q,zz<|ci d,zd]
structure Bs(P:Nat)(m:List Int)(b:Nat->Pz)(n:Nat):Prop where
 od:P=2\/P%2=1
 ml:1<m.length
 sp:∀e:Pz,(∀k,m.length-1<=k->e k=0)->Di (P:Int) (ci m) (pp e P-e)->∃a:Nat->Int,Cg (P:Int) e<|smP n fun i=>pc (a i)*b i
 sm:∀i,i<n->∀k,m.length-1<=k->b i k=0
 fx:∀i,i<n->Di (P:Int) (ci m) (pp (b i) P-b i)
theorem Bs.val(h:Sf (P:Int) m us){n:Nat}(hb:Bs P m b n)(hu:u∈us){i:Nat}(hi:i<n):∃c:Nat,c<P/\Vl (P:Int) u (b i) c:=by
 have hl:=h.ml;have hm:=hb.ml;exact zeS h.hp (h.ir u hu).1 (h.ir u hu).2 (h.dv hu) (n:=m.length-1) (hb.sm i hi) (by lia) (by lia)<|hb.fx i hi
theorem Bs.le(h:Sf (P:Int) m us){n:Nat}(hb:Bs P m b n):us.length<=n:=by
 obtain⟨p1,p2⟩:=zn h.hp;have hl:=h.nodup;have hd:∀j,j<us.length->us.getD j []∈us:=fun j hj=>by rw[H1,xaa hj];exact xbn hj
 have hf:∀i j,∃c:Int,i<n->j<us.length->Vl (P:Int) (us.getD j []) (b i) c:=fun i j=>by
  by_cases hi:i<n
  ·by_cases hj:j<us.length
   ·obtain⟨c,_,hc⟩:=hb.val h (hd j hj) hi;exact⟨c,fun _ _=>hc⟩
   ·exact⟨0,fun _ h=>absurd h hj⟩
  ·exact⟨0,fun h=>absurd h hi⟩
 have hg:∀j,∃a:Nat->Int,j<us.length->∃e:Pz,Cg (P:Int) e (smP n fun i=>pc (a i)*b i)/\Vl (P:Int) (us.getD j []) e 1/\∀w,w∈us->w≠us.getD j []->Vl (P:Int) w e 0:=fun j=>by
  by_cases hj:j<us.length
  ·obtain⟨e,e1,e2,e3,e4⟩:=zjj h.hp h.mn h.ir h.pw h.cg<|hd j hj;obtain⟨a,ha⟩:=hb.sp e e1 e4;exact⟨a,fun _=>⟨e,ha,e2,e3⟩⟩
  ·exact⟨fun _=>0,fun h=>absurd h hj⟩
 have hA:∃A:Nat->Nat->Int,∀j,j<us.length->∃e:Pz,Cg (P:Int) e (smP n fun i=>pc (A j i)*b i)/\Vl (P:Int) (us.getD j []) e 1/\∀w,w∈us->w≠us.getD j []->Vl (P:Int) w e 0:=⟨fun j=>Classical.choose<|hg j,fun j=>xfC<|hg j⟩;have hC:∃C:Nat->Nat->Int,∀i j,i<n->j<us.length->Vl (P:Int) (us.getD j []) (b i) (C i j):=⟨fun i j=>Classical.choose<|hf i j,fun i j=>xfC<|hf i j⟩;obtain⟨A,hA⟩:=hA;obtain⟨C,hC⟩:=hC;have:=pQ h.hp n (xbc us.length) A C List.nodup_range fun j hj j' hm=>by
  have l1:=xbf.1 hj;have l2:=xbf.1 hm;obtain⟨e,e1,e2,e3⟩:=hA j l1;have e4:=(fM (a:=A j) n fun i hi=>hC i j' hi l2).cg e1.symm;have hu:=(h.ir _<|hd j' l2).1;by_cases ejj:j=j'
  ·subst ejj;rw[iq rfl];exact e4.uniq p1 hu e2
  ·rw[ir ejj];refine e4.uniq p1 hu<|e3 _ (hd j' l2) fun he=>ejj ?_;have g1:=H1 (l:=us) (i:=j) (a:=[]);have g2:=H1 (l:=us) (i:=j') (a:=[]);rw[xaa l1]at g1;rw[xaa l2]at g2;have g3:us[j]=us[j']:=by
    have:us.getD j []=us.getD j' []:=he.symm;rw[g1,g2]at this;exact this
   apply xae;intro hh;have hk:=xcW.1 hl;rcases Nat.lt_or_gt_of_ne ejj with hlt|hlt
   ·exact hk j j' l1 l2 hlt g3
   ·exact hk j' j l2 l1 hlt g3.symm
 rwa[xcA]at this
def Ct(P:Nat)(us:List (List Int))(v:Pz)(c:Int)(g:List Int):Prop:=
 (∀u∈us,Di (P:Int) (ci u) (ci g)->∀a,Vl (P:Int) u v a->iA P (a+c))\/(∀u∈us,Di (P:Int) (ci u) (ci g)->∀a,Vl (P:Int) u v a->¬iA P (a+c))
theorem Ct.sub{c:Int}(h:Ct P us v c g)(hd:Di (P:Int) (ci d) (ci g)):Ct P us v c d:=by
 rcases h with h|h
 ·exact .inl fun u hu ha=>h u hu<|ha.trans hd
 ·exact .inr fun u hu ha=>h u hu<|ha.trans hd
theorem Pl.done(h:Sf (P:Int) m us){n:Nat}(hb:Bs P m b n)(hl:Pl (P:Int) m l)(h0:∃c:Int,Cg (P:Int) (b 0)<|pc c)(ha:l.length=n\/∀i,1<=i->i<n->∀c:Nat,c<P->∀g∈l,Ct P us (b i) c g):∀g∈l,X0 (P:Int) g:=fun g hg=>by
 obtain⟨p1,p2⟩:=zn h.hp;obtain⟨g1,g2⟩:=hl.mn g hg;refine h.one g1 (hl.dv hg) g2 fun u hu w hw h1 h2=> ?_;apply xae;intro hf;have hn:=hb.le h;have hj:=h.more hl hg hu hw h1 h2 hf;rcases ha with he|he
 ·lia
 ·refine hf ?_;have hc:∀i,∃c:Int,i<n->Vl (P:Int) u (b i) c/\Vl (P:Int) w (b i) c:=fun i=>by
   by_cases hi:i<n
   ·by_cases hk:i=0
    ·obtain⟨c,hc⟩:=h0;subst hk;exact⟨c,fun _=>⟨(Vl.pc _ u c).cg hc.symm,(Vl.pc _ w c).cg hc.symm⟩⟩
    ·obtain⟨x,_,hx⟩:=hb.val h hu hi;obtain⟨y,_,hy⟩:=hb.val h hw hi;have hd:(P:Int)∣(x:Int)-y:=zdw h.hp hb.od fun c hm=>by
      rcases he i (by lia) hi c hm g hg with ht|ht
      ·exact⟨fun _=>ht w hw h2 _ hy,fun _=>ht u hu h1 _ hx⟩
      ·exact⟨fun hh=>absurd hh<|ht u hu h1 _ hx,fun hh=>absurd hh<|ht w hw h2 _ hy⟩
     exact⟨y,fun _=>⟨hx.md hd,hy⟩⟩
   ·exact⟨0,fun h=>absurd h hi⟩
  have hC:∃C:Nat->Int,∀i,i<n->Vl (P:Int) u (b i) (C i)/\Vl (P:Int) w (b i) (C i):=⟨fun i=>Classical.choose<|hc i,fun i=>xfC<|hc i⟩;obtain⟨C,hC⟩:=hC;exact sep h.hp h.mn h.ir h.pw h.cg hb.sp hu hw (fun i hi=>(hC i hi).1) fun i hi=>(hC i hi).2
end
section
variable{p:Int}{a g d t v ds m:List Int}{x y:Pz}{E fu P k i nb:Nat}{us l bs:List (List Int)}
def Em(p:Int)(a:List Int)(x y:Pz):Prop:=Di p (ci a)<|x-y
theorem Em.rfl:Em p a x x:=(Di.zero p<|ci a).cg<|Cg.of<|funext fun k=>by rw[yz,zL,xdb]
theorem Em.cg{p:Int}{a:List Int}{x y:Pz}(h:Cg p x y):Em p a x y:=(Di.zero p<|ci a).cg (Cg.iff_sub.1 h).symm
theorem Em.symm(h:Em p a x y):Em p a y x:=(Di.sub (Di.zero p<|ci a) h).cg<|Cg.of<|funext fun k=>by simp only[yz,zL];lia
theorem Em.trans{z:Pz}(h:Em p a x y)(g:Em p a y z):Em p a x z:=(Di.add h g).cg<|Cg.of<|funext fun k=>by simp only[zI,yz];lia
theorem Em.mul{p:Int}{a:List Int}{x y z w:Pz}(fx:Fs x)(fw:Fs w)(h:Em p a x y)(g:Em p a z w):Em p a (x*z) (y*w):=by
 refine(Di.add (Di.mul x fx g)<|Di.mul w fw h).cg<|Cg.of ?_;rw[vj,vj,zj w x,zj w y];funext k;simp only[zI,yz];lia
theorem Em.dv{b:List Int}(h:Em p a x y)(g:Di p (ci b) (ci a)):Em p b x y:=g.trans h
theorem Em.vl{u:List Int}{c:Int}(h:Em p u x y)(g:Vl p u y c):Vl p u x c:=by
 refine(Di.add h g).cg<|Cg.of ?_;funext k;simp only[zI,yz];lia
theorem Em.rest{x q r:List Int}(h:Cg p (ci x) (ci q*ci a+ci r)):Em p a (ci x) (ci r):=by
 refine⟨ci q,Fs.ci q,(h.sub Cg.rfl).trans<|Cg.of ?_⟩;funext k;simp only[zI,yz];lia
theorem zee(h0:0<E)(h:E<18446744073709551616):yH (E:Int)=(false,[E]):=by grind [yH,BT,xbe]
theorem zi4(n:Nat):n<2^bl n:=by
 induction n using xds with
 |ind n ih=>
  rcases xcu n with rfl|h
  ·rw[ze3];decide
  ·have h1:=ih (n/2) (by lia);rw[JR h,xbb];lia
structure PwI(p:Int)(a w:List Int)(E i:Nat)(t:List Int):Prop where
 fp:Fp p t
 ln:t.length<a.length
 em:Em p a (pp (ci w)<|E/2^i) (ci t)
theorem Qi{w:List Int}(hp:wz p=true)(hw:Fp p w)(ha:wx p a)(hm:w.length<=40000)(hn:a.length<=40000)(h0:0<E)(hE:E<1048576)(hf:3000000<=fu):
 ∃r,kj fu w (yH E) a p=some (r,0)/\Fp p r/\r.length<a.length/\Em p a (pp (ci w) E) (ci r):=by
 obtain⟨p1,p2⟩:=zn hp;have hc:=ha.ln;have he:=zee h0 (show E<18446744073709551616 by lia);have hL:zm [E]:=fun x hx=>by rw[xai.1 hx];lia
 have hg:nv [E]=E:=by simp[nv]
 have hj:KA (yH (E:Int)):=by rw[he];exact⟨hL,by simp⟩
 obtain⟨q1,r1,d1,d2,d3,d4,d5,d6⟩:=xg (fu:=fu) hp (Yq (x:=1)) ha.fm hc (by simp) (by lia) hf;obtain⟨q2,r2,f1,f2,f3,f4,f5,f6⟩:=xg (fu:=fu) hp hw ha.fm hc (by lia) (by lia) hf;have hk:bl E<=20:=Qe (show E<2^20 by lia);have hl:qU (E:Int) 0=1:=by unfold qU;rw[zy,zN]
 unfold kj;rw[za<|ku hp,iq rfl,za<|xe hj hf,zw,hl,ir (by decide),za<|zF (by lia) p2 (ha.fm.rl p2) (by lia) hf,ha.fm.pm,zy,za d1];simp only;rw[za<|zF (by lia) p2 (hw.rl p2) (by lia) hf,hw.pm,za f1];simp only;rw[he];show∃r,bd (jZ fu [E]) _=_/\_;rw[za (YL hL (by simp)<|by simp;lia),hg,zb];have hd:=yv (f:=YD fu (false,[E]) p a) (fun s:List Int×List Int×Int=>∃(i:Nat) (t:List Int),s=(t,r2,(i:Int)-1)/\i<=20/\PwI p a w E i t) (fun s=>(s.2.2+1).toNat) (fun r=>PwI p a w E 0 r) (by
  rintro s L ⟨i,t,rfl,hi,hI⟩ ih;unfold YD;simp only
  cases i with
  |zero=>rw[zy];exact⟨t,rfl,hI⟩
  |succ i=>
   have ho:=hI.ln;have ml:=qC p t t;obtain⟨q3,r3,g1,g2,g3,g4,g5,g6⟩:=xg (fu:=fu) hp (vR (p:=p) (by lia) t t) ha.fm hc (by lia) (by lia) hf;have esq:Em p a (pp (ci w)<|E/2^(i+1)+E/2^(i+1)) (ci r3):=by
    rw[tC];refine(Em.mul ((Fs.ci w).pp _) (Fs.ci t) hI.em hI.em).trans<|(Em.cg (kK p t t).symm).trans<|Em.rest g4
   have ei:((i+1:Nat):Int)-1=(i:Int):=by lia
   have e1:xdd (i:Int) 64=0:=by rw[xdH<|by lia];lia
   have e2:xcc (i:Int) 64=(i:Int):=by rw[Int.tmod_eq_emod_of_nonneg<|by lia];lia
   have e3:E/2^i/2=E/2^(i+1):=by rw[xaL,xbb]
   rw[ei,zN,za<|wh (by lia) p2 hI.fp hI.fp (by lia) (by lia) hf,za g1];simp only;rw[wC (by decide),e1,r7 ⟨by decide,by decide⟩,show(0:Int)=((0:Nat):Int)from rfl,zp (by simp),zf,wC (by decide),e2,zf,yJ,zf,zf];have e4:(([E]:List Nat).getD 0 0/2^(min (i:Int).toNat 64)) &&& 1=E/2^i%2:=by rw[Nat.and_one_is_mod,xaK,xcM<|by lia];rfl
   rw[e4];by_cases hb:E/2^i%2=1
   ·rw[zN];have ml2:=qC p r3 r2;obtain⟨q4,r4,k1,k2,k3,k4,k5,k6⟩:=xg (fu:=fu) hp (vR (p:=p) (by lia) r3 r2) ha.fm hc (by lia) (by lia) hf;rw[za<|wh (by lia) p2 g3 f3 (by lia) (by lia) hf,za k1];simp only;rw[zb];refine ih _ ⟨i,r4,rfl,by lia,⟨k3,k5,?_⟩⟩ (by show((i:Int)-1+1).toNat<(((i+1:Nat):Int)-1+1).toNat;lia);have hq:E/2^i=E/2^(i+1)+E/2^(i+1)+1:=by lia
    rw[hq];show Em p a (pp (ci w) (E/2^(i+1)+E/2^(i+1))*ci w) (ci r4);exact(Em.mul ((Fs.ci w).pp _) (Fs.ci r2) esq<|Em.rest f4).trans<|(Em.cg (kK p r3 r2).symm).trans<|Em.rest k4
   ·rw[zy,zb];refine ih _ ⟨i,r3,rfl,by lia,⟨g3,g5,?_⟩⟩ (by show((i:Int)-1+1).toNat<(((i+1:Nat):Int)-1+1).toNat;lia);have hq:E/2^i=E/2^(i+1)+E/2^(i+1):=by lia
    rw[hq];exact esq)
 obtain⟨r,hr,hI⟩:=hd fu (r1,r2,((bl E:Nat):Int)-1) ⟨bl E,r1,rfl,hk,⟨d3,d5,by
  have hz:E/2^bl E=0:=xbv<|zi4 E;rw[hz];show Em p a (pc 1) (ci r1);have h1:Em p a (ci [1]) (ci r1):=Em.rest d4;rwa[qk]at h1⟩⟩ (by show(((bl E:Nat):Int)-1+1).toNat<fu;lia)
 refine⟨r,?_,hI.fp,hI.ln,?_⟩
 ·rw[za hr]
 ·have:=hI.em;rwa[xeg,xdU]at this
theorem zcV{h s:List Int}{S:Nat}(hp:2<=p)(hh:wx p h)(hR:BzR p g h d s t S)(hd:d.length=0\/ci d (d.length-1)=1):wx p d:=by
 obtain⟨A,C,z1,z2,d1,d2⟩:=hR.dv;have hl:0<d.length:=by
  refine xcI fun e=> ?_;have h1:=d2<|h.length-1;rw[hh.top,xt,yG fun i hi=>by rw[zM (l:=d) (by lia),xau],xag,xaC (by decide)<|by lia]at h1;cases h1
 exact⟨hR.df,hl,hd.resolve_left<|by lia⟩
theorem Aw(hp:wz p=true)(ht:Fp p t)(hg:wx p g)(ha:t.length<=290)(hb:g.length<=290)(hf:3000000<=fu):
 ∃d,Jn fu t g p=some d/\wx p d/\Di p (ci d) (ci g)/\∀u:List Int,Di p (ci u) (ci d)↔Di p (ci u) (ci t)/\Di p (ci u) (ci g):=by
 obtain⟨p1,p2⟩:=zn hp;obtain⟨d,s1,s2,e1,e2,e3⟩:=Vm (fu:=fu) hp ht hg.fm ha hb hf;obtain⟨A,C,z1,z2,d1,d2⟩:=e2.dv;refine⟨d,?_,zcV p1 hg e2 e3,⟨C,z2,d2⟩,fun u=>zin e2 u⟩;unfold Jn;rw[za e1]
theorem EB(hp:wz p=true)(hg:wx p g)(hd:wx p d)(ha:g.length<=290)(h:Di p (ci d) (ci g))(hf:3000000<=fu):
 ∃q,aj fu g d p=some q/\wx p q/\Cg p (ci g) (ci q*ci d)/\g.length+1=q.length+d.length:=by
 obtain⟨p1,p2⟩:=zn hp;obtain⟨A,fA,h1⟩:=h;have hb:=az p1 hg hd fA h1;have hc:=hd.ln;obtain⟨q,r,e1,e2,e3,e4,e5,e6⟩:=xg (fu:=fu) hp hg.fm hd.fm hd.ln (by lia) (by lia) hf;obtain⟨a,b,c⟩:=BE p1 hg hd fA h1 e2 e3 e4 e5;refine⟨q,?_,a,b,c⟩;unfold aj qV;rw[za (v:=(q,r,0))];rw[za<|ku hp,iq rfl,za<|zF (by lia) p2 (hd.fm.rl p2) (by lia) hf,hd.fm.pm,zy,za<|zF (by lia) p2 (hg.fm.rl p2) (by lia) hf,hg.fm.pm,za e1]
theorem nh{c:Int}(hp:wz (P:Int)=true)(hv:Rl v)(hi:v.length<=290)(hg:wx (P:Int) g)(hj:g.length<=290)(hk:0<=c)(hl:c<P)(hf:3000000<=fu):
 ∃t,WB fu v c g P=some t/\Fp (P:Int) t/\t.length<=290/\∀u:List Int,X0 (P:Int) u->Di (P:Int) (ci u) (ci g)->∀x,Vl (P:Int) u (ci v) x->(Di (P:Int) (ci u) (ci t)↔iA P (x+c)):=by
 obtain⟨p1,p2⟩:=zn hp;have he:=hg.ln;have hc:Rl [c]:=fun k=>by
  rw[qk];unfold pc;split
  ·exact⟨by lia,by lia⟩
  ·exact⟨by decide,by decide⟩
 obtain⟨w,hw⟩:∃w,w=Ya (P:Int) (pm P v) (pm P [c]) 1:=⟨_,rfl⟩;have l1:=Og (P:Int) v;have l2:=Og (P:Int) [c];have lw:w.length<=290:=by
  have:=nX (P:Int) (pm P v) (pm P [c]) 1;rw[<-hw]at this;simp only[xaq,xbS]at l2;lia
 have fw:Fp (P:Int) w:=by rw[hw];exact JY (by lia) _ _ _
 have cw:Cg (P:Int) (ci w) (ci v+pc c):=by
  rw[hw];refine(CN _ _ _ _).trans<|(GU _ v).add ?_;rw[zt];exact(GU _ [c]).trans<|Cg.of<|qk c
 have ha:VU fu v [c] P=some (w,0):=by
  unfold VU;rw[za<|ku hp,iq rfl,za<|zF (by lia) p2 hv (by lia) hf,za<|zF (by lia) p2 hc (by simp) hf,za<|Vo (by lia) p2 (tn (by lia) v) (tn (by lia) [c]) (by decide) (by lia) (by lia) (by simp only[xaq,xbS]at l2;lia) hf,hw]
 have vw:∀u:List Int,∀x,Vl (P:Int) u (ci v) x->Vl (P:Int) u (ci w) (x+c):=fun u x hx=>(Vl.add hx<|Vl.pc _ u c).cg cw.symm;unfold WB;rw[za ha];simp only;by_cases hP:2<P
 ·obtain⟨r,e1,e2,e3,e4⟩:=Qi (fu:=fu) (E:=(P-1)/2) hp fw hg (by lia) (by lia) (by lia) (by lia) hf;have hd:xdd ((P:Int)-1) 2=(((P-1)/2:Nat):Int):=by rw[xdH<|by lia];lia
  obtain⟨t,ht⟩:∃t,t=Ya (P:Int) r [1] ((P:Int)-1):=⟨_,rfl⟩;have f1:Fp (P:Int) [1]:=Yq;have lt:=nX (P:Int) r [1]<|(P:Int)-1;rw[<-ht]at lt;have ct:Cg (P:Int) (ci t) (ci r-pc 1):=by
   rw[ht];refine(CN _ _ _ _).trans ?_;rw[qk,qZ,xck];intro k;rw[zI,yz];unfold pc;split
   ·rw[show ci r k+((P:Int)-1)=ci r k-1+P*1 by lia,xeK]
   ·rw[xbD,xcE]
  rw[zN,zb,wC (by decide),hd,zb,za<|z6 ⟨by lia,by lia⟩,za e1];simp only;rw[za<|UF hp e2 f1 (by lia) (by simp) hf];refine⟨t,by rw[ht],by rw[ht];exact JY (by lia) _ _ _,by simp only[xaq,xbS]at lt;lia,fun u hu hb x hx=> ?_⟩
  have v1:Vl (P:Int) u (ci t) ((x+c)^((P-1)/2)-1):=
   (Vl.sub ((Em.dv e4 hb).symm.vl<|Vl.pp (Fs.ci w) (vw u x hx)<|(P-1)/2)<|Vl.pc _ u 1).cg ct.symm
  refine(v1.di p1 hu).trans ?_;unfold iA;rw[iq hP]
 ·rw[zy];refine⟨w,rfl,fw,lw,fun u hu hb x hx=> ?_⟩;refine((vw u x hx).di p1 hu).trans ?_;unfold iA;rw[ir hP]
def Sx(P:Nat)(ds:List Int)(k:Nat):Int:=if k<ds.length then ds.getD k 0%P else((k-ds.length:Nat):Int)
theorem bW(hP:2<=P)(ha:P<=65521)(hd:Rl ds)(hk:k<P+ds.length)(hb:ds.length<=1000):uI fu (k:Int) ds P=some (Sx P ds k)/\0<=Sx P ds k/\Sx P ds k<P:=by
 unfold uI Sx;by_cases h:k<ds.length
 ·rw[zN,zp h,zf,za (show kg fu (ds.getD k 0) (P:Int)=some (ds.getD k 0%P)from u6 (by lia) (by lia)<|hd k),iq h];have:=yc (a:=ds.getD k 0) (p:=(P:Int));exact⟨rfl,this.1,this.2⟩
 ·rw[zy,zb,ir h];exact⟨by congr 1;lia,by lia,by lia⟩
abbrev Ts:=Pz->Int->Prop
structure Pd(P:Nat)(m:List Int)(us:List (List Int))(S:Ts)(l:List (List Int)):Prop where
 pl:Pl (P:Int) m l
 ts:∀v c,S v c->∀g∈l,Ct P us v c g
theorem zcB{α:Type}{a b:List α}{g q d:α}:((a++g::b)++[q]).set a.length d=a++d::(b++[q]):=by
 rw[xaj,xfA _ _<|xab _,xda];rfl
theorem zbS{α:Type}{l:List α}(h:i<l.length)(z:α):∃a b,l=a++l.getD i z::b/\a.length=i:=by
 refine⟨l.take i,l.drop<|i+1,?_,by rw[xav];lia⟩;have e:l.getD i z=l[i]:=by rw[H1,xaa h];rfl
 rw[e,List.getElem_cons_drop,xbN]
theorem Zf{α:Type}{l:List α}(h:i<l.length)(z:α):l.getD i z∈l:=by grind [xaa,xbn]
theorem Sf.pl_len(h:Sf p m us)(hl:Pl p m l):l.length<=us.length:=by
 obtain⟨vs,v1,v2,v3⟩:=h.pick hl.mn ⟨pc 1,Fs.pc 1,hl.pr.trans<|Cg.of (zt _).symm⟩;have:=UB (us:=us) v2 fun v hv=>(v3 v hv).1;lia
theorem zdg{t7:List (List Int)}{i2 i4:Int}{S:Ts}(h:Sf (P:Int) m us)(hH:us.length<=290)(hI:bs.length=nb)(hE:nb<=290)(hd:Rl ds)(hy:ds.length<=1000)(hv:Rl v)(hz:v.length<=290)(hk:k<P+ds.length)(hf:3000000<=fu)(hl:Pd P m us S l):
 ∃r,zg (XW fu P ds bs P ds i2 (k:Int) t7 i4 v) fu (l,0)=some r/\
  ((∃l',r=.inl l'/\Pl (P:Int) m l'/\l'.length=nb)\/∃l',r=.inr l'/\Pd P m us (fun w c=>S w c\/w=ci v/\c=Sx P ds k) l'):=by
 obtain⟨p1,p2⟩:=zn h.hp;obtain⟨n1,n2,n3⟩:=bW (fu:=fu) (P:=P) (k:=k) (ds:=ds) (by lia) (by lia) hd hk hy;refine yv (fun s:List (List Int)×Int=>∃(i:Nat) (l:List (List Int)),s=(l,(i:Int))/\Pd P m us S l/\i<=l.length/\∀j,j<i->Ct P us (ci v) (Sx P ds k) (l.getD j [])) (fun s=>300-s.2.toNat) _ ?_ _ _ ⟨0,l,rfl,hl,xah _,fun j hj=>by lia⟩ (by show 300-0<fu;lia);rintro s L ⟨i,l,rfl,hl,hi,ht⟩ ih;have hJ:=h.pl_len hl.pl;unfold XW;simp only;by_cases h1:i<l.length
 ·rw[zN];by_cases h2:l.length=nb
  ·rw[zN];exact⟨_,rfl,.inl ⟨l,rfl,hl.pl,h2⟩⟩
  rw[zy,za n1,zp h1,zf];obtain⟨a,b,hb,ho⟩:=zbS h1 [];have hc:=Zf h1 [];obtain⟨g,hg⟩:∃g,g=l.getD i []:=⟨_,rfl⟩;rw[<-hg]at hb hc⊢;obtain⟨g1,g2⟩:=hl.pl.mn g hc;have hA:=hl.pl.dv hc;have he:=h.len g1 hA;obtain⟨t,t1,t2,t3,t4⟩:=nh (fu:=fu) h.hp hv hz g1 he n2 n3 hf;obtain⟨d,d1,d2,d3,d4⟩:=Aw (fu:=fu) h.hp t2 g1 t3 he hf;have hK:=d2.ln;have hF:d.length<=g.length:=by
   obtain⟨q,fq,hq⟩:=d3;exact az p1 g1 d2 fq hq
  rw[za t1,zp h1,zf,<-hg,za d1];have hm:∀u∈us,Di (P:Int) (ci u) (ci g)->∀x,Vl (P:Int) u (ci v) x->(Di (P:Int) (ci u) (ci d)↔iA P (x+Sx P ds k)):=fun u hu ha x hx=>
   ⟨fun hh=>(t4 u (h.ir u hu).1 ha x hx).1 ((d4 u).1 hh).1,fun hh=>(d4 u).2 ⟨(t4 u (h.ir u hu).1 ha x hx).2 hh,ha⟩⟩
  by_cases h3:1<d.length/\d.length<g.length
  ·obtain⟨q,q1,q2,q3,q4⟩:=EB (fu:=fu) h.hp g1 d2 he d3 hf;rw[zN,zp h1,zf,<-hg,zN,za rfl];simp only[if_true];rw[zp h1,zf,<-hg,za q1,wC (by simp;lia),zf,zp (by simp;lia),zf,zb];have hp:(l++[q]).set i d=a++d::(b++[q]):=by rw[hb,<-ho,zcB]
   have hB:Di (P:Int) (ci q) (ci g):=⟨ci d,Fs.ci d,q3.trans<|Cg.of<|zj _ _⟩;have hr:∀x∈a++d::(b++[q]),x=d\/x=q\/x∈l:=fun x hx=>by
    rcases Nm.1 hx with hx|hx
    ·right;right;rw[hb];exact xdB _ hx
    ·rcases xac.1 hx with hx|hx
     ·exact .inl hx
     ·rcases Nm.1 hx with hx|hx
      ·right;right;rw[hb];exact xdR _<|UV _ hx
      ·exact .inr (.inl<|xai.1 hx)
   have hs:Pl (P:Int) m (a++d::(b++[q])):=by
    have:=hl.pl;rw[hb]at this;exact this.split d2 q2 (by lia) (by lia) q3
   refine ih _ ⟨i+1,_,rfl,?_,?_,?_⟩ ?_
   ·rw[hp];refine⟨hs,fun w c hS x hx=> ?_⟩;rcases hr x hx with rfl|rfl|hx
    ·exact(hl.ts w c hS g hc).sub d3
    ·exact(hl.ts w c hS g hc).sub hB
    ·exact hl.ts w c hS x hx
   ·rw[xcK,xax];lia
   ·intro j hj;rw[hp];by_cases hn:j=i
    ·left;have e:(a++d::(b++[q])).getD j []=d:=by rw[hn,<-ho,H1,xcn<|xab _,xda];rfl
     rw[e];intro u hu hw x hx;exact(hm u hu (hw.trans d3) x hx).1 hw
    ·have e:(a++d::(b++[q])).getD j []=l.getD j []:=by rw[hb,H1,H1,xbq (by lia),xbq<|by lia]
     rw[e];exact ht j<|by lia
   ·have:=h.pl_len hs;have hG:l.length=a.length+1+b.length:=by rw[hb];simp;lia
    simp only[xax,xaq]at this;show 300-((i:Int)+1).toNat<300-(i:Int).toNat;lia
  ·have hC:Ct P us (ci v) (Sx P ds k) g:=by
    by_cases h4:1<d.length
    ·left;have e:d=g:=DW p1 d2 g1 d3 (by lia);intro u hu ha x hx;exact(hm u hu ha x hx).1<|by rw[e];exact ha
    ·right;intro u hu ha x hx hT;have h5:=(hm u hu ha x hx).2 hT;have h6:d=[1]:=d2.one (by lia);rw[h6,qk]at h5;exact(h.ir u hu).1.ne p1 h5
   have hD:(if(1:Int)<(d.length:Int)then
    zG (i:Int) l.length fun j5=>
    nm (l.getD j5 []) fun t13=>
    if(d.length:Int)<(t13.length:Int)then
    some (bs,(P:Int),ds,(k:Int),v,t7,i4,i2,true)
    else
    some (bs,(P:Int),ds,(k:Int),v,t7,i4,i2,false)
    else
    some (bs,(P:Int),ds,(k:Int),v,t7,i4,i2,false):Option (List (List Int)×Int×List Int×Int×List Int×List (List Int)×Int×Int×Bool))=some (bs,(P:Int),ds,(k:Int),v,t7,i4,i2,false):=by
    by_cases h4:1<d.length
    ·rw[zN,zp h1,zf,<-hg,zy]
    ·rw[zy]
   rw[za hD];simp only[xak,if_false];rw[zb];refine ih _ ⟨i+1,l,rfl,hl,by lia,fun j hj=> ?_⟩ (by show 300-((i:Int)+1).toNat<300-(i:Int).toNat;lia);by_cases hn:j=i
   ·rw[hn,<-hg];exact hC
   ·exact ht j<|by lia
 ·rw[zy];refine⟨_,rfl,.inr ⟨l,rfl,hl.pl,fun w c hS g hg=> ?_⟩⟩;rcases hS with hS|⟨rfl,rfl⟩
  ·exact hl.ts w c hS g hg
  ·obtain⟨j,hj,e⟩:=xcJ hg;have:=ht j (by lia);rw[H1,xaa hj]at this;rw[<-e];exact this
theorem Pd.mono{S T:Ts}(h:Pd P m us S l)(hT:∀v c,T v c->S v c):Pd P m us T l:=⟨h.pl,fun v c ht=>h.ts v c<|hT v c ht⟩
theorem zbr{S:Ts}(h:Sf (P:Int) m us)(hm:us.length<=290)(hb:bs.length=nb)(hq:1<=nb)(hc:nb<=290)(hd:Rl ds)(hn:ds.length<=1000)(hv:∀v∈bs,Rl v/\v.length<=290)(hk:k<P+ds.length)(hf:3000000<=fu)(hl:Pd P m us S l):
 ∃r,zg (XA fu P ds (k:Int)<|bs.drop 1) fu (bs,(P:Int),ds,l,0)=some r/\
  ((∃l',r=.inl l'/\Pl (P:Int) m l'/\l'.length=nb)\/∃l',r=.inr (bs,(P:Int),ds,l')/\Pd P m us (fun w c=>S w c\/∃i,1<=i/\i<nb/\w=ci (bs.getD i [])/\c=Sx P ds k) l'):=by
 refine yv (fun s:List (List Int)×Int×List Int×List (List Int)×Int=>∃(i:Nat) (l:List (List Int)),s=(bs,(P:Int),ds,l,(i:Int))/\i+1<=nb/\Pd P m us (fun w c=>S w c\/∃j,1<=j/\j<i+1/\w=ci (bs.getD j [])/\c=Sx P ds k) l) (fun s=>300-s.2.2.2.2.toNat) _ ?_ _ _ ⟨0,l,rfl,by lia,hl.mono fun w c hh=>hh.elim id fun⟨j,a,b,_⟩=>by lia⟩ (by show 300-0<fu;lia);rintro s L ⟨i,l,rfl,hi,hI⟩ ih;unfold XA;simp only;have ha:(bs.drop 1).length=nb-1:=by rw[xbO,hb]
 have he:∀{β:Type} (x:β) (k:β->Option ((List<|List Int)⊕(List (List Int)×Int×List Int×List (List Int)))),bd (some x) k=k x:=fun _ _=>rfl;by_cases h1:i+1<nb
 ·rw[iq (by rw[ha];lia),he];simp only[if_true];rw[zp (by rw[ha];lia),zf];have e:(bs.drop 1).getD i []=bs.getD (i+1) []:=by rw[H1,H1,xet,xdD]
  obtain⟨ho,hp⟩:=hv _<|Zf (l:=bs) (i:=i+1) (by lia) [];rw[e];obtain⟨r,hr,hg⟩:=zdg (fu:=fu) (i2:=(i:Int)) (i4:=(((bs.drop 1).length:Nat):Int)) (t7:=bs.drop 1) (ds:=ds) h hm hb hc hd hn ho hp hk hf hI;rw[za hr];rcases hg with⟨l',rfl,g1,g2⟩|⟨l',rfl,g1⟩
  ·exact⟨_,rfl,.inl ⟨l',rfl,g1,g2⟩⟩
  ·simp only;rw[zb];refine ih _ ⟨i+1,l',rfl,by lia,g1.mono fun w c hh=> ?_⟩ (by show 300-((i:Int)+1).toNat<300-(i:Int).toNat;lia);rcases hh with hh|⟨j,a,b,c1,c2⟩
   ·exact .inl (.inl hh)
   ·by_cases hj:j=i+1
    ·subst hj;exact .inr ⟨c1,c2⟩
    ·exact .inl (.inr ⟨j,a,by lia,c1,c2⟩)
 ·rw[ir (by rw[ha];lia),he];simp only[xak,if_false];refine⟨_,rfl,.inr ⟨l,rfl,hI.mono fun w c hh=> ?_⟩⟩;rcases hh with hh|⟨j,a,b,c1,c2⟩
  ·exact .inl hh
  ·exact .inr ⟨j,a,by lia,c1,c2⟩
theorem gP(h:Sf (P:Int) m us)(hm:1<m.length)(hn:us.length<=290)(ho:bs.length=nb)(hb:1<=nb)(he:nb<=290)(hd:Rl ds)(hp:ds.length<=1000)(hv:∀v∈bs,Rl v/\v.length<=290)(hf:3000000<=fu):
 ∃l,YY fu m bs P ds=some l/\Pl (P:Int) m l/\(l.length=nb\/∀i,1<=i->i<nb->∀c:Nat,c<P->∀g∈l,Ct P us (ci<|bs.getD i []) c g):=by
 obtain⟨p1,p2⟩:=zn h.hp;unfold YY
 have ha:=yv (f:=XD fu bs P ds) (fun s:List (List Int)×Int=>∃(k:Nat) (l:List (List Int)),s=(l,(k:Int))/\k<=P+ds.length/\Pd P m us (fun w c=>∃j i,j<k/\1<=i/\i<nb/\w=ci (bs.getD i [])/\c=Sx P ds j) l) (fun s=>P+ds.length-s.2.toNat)
  (fun l=>Pl (P:Int) m l/\(l.length=nb\/∀i,1<=i->i<nb->∀c:Nat,c<P->∀g∈l,Ct P us (ci<|bs.getD i []) c g)) (by
  rintro s L ⟨k,l,rfl,hk,hI⟩ ih
  unfold XD
  simp only
  rw[zb]
  by_cases h1:k<P+ds.length
  ·rw[zN,show(1:Int)=((1:Nat):Int)from rfl,yE,yJ,zf]
   obtain⟨r,hr,hi⟩:=zbr (fu:=fu) (ds:=ds) h hn ho hb he hd hp hv h1 hf hI
   rw[za hr]
   rcases hi with⟨l',rfl,g1,g2⟩|⟨l',rfl,g1⟩
   ·exact⟨_,rfl,g1,.inl g2⟩
   ·simp only
    rw[zb]
    refine ih _ ⟨k+1,l',rfl,by lia,g1.mono fun w c hh=> ?_⟩ (by show P+ds.length-((k:Int)+1).toNat<P+ds.length-(k:Int).toNat;lia)
    obtain⟨j,i,a1,a2,a3,a4,a5⟩:=hh
    by_cases hj:j=k
    ·subst hj;exact .inr ⟨i,a2,a3,a4,a5⟩
    ·exact .inl ⟨j,i,by lia,a2,a3,a4,a5⟩
  ·rw[zy]
   refine⟨_,rfl,hI.pl,.inr fun i hs ht c hc g hg=> ?_⟩
   refine hI.ts _ _ ⟨ds.length+c,i,by lia,hs,ht,rfl,?_⟩ g hg
   unfold Sx
   rw[zy,show ds.length+c-ds.length=c by lia])
 obtain⟨l,hl,hq⟩:=ha fu ([m],0) ⟨0,[m],rfl,xah _,⟨⟨fun g hg=>by rw[xai.1 hg];exact⟨h.mn,hm⟩,Cg.of (zO<|ci m).symm⟩,fun v c hh=>by obtain⟨j,i,hj,_⟩:=hh;lia⟩⟩ (by show P+ds.length-0<fu;lia);exact⟨l,by rw[za hl],hq⟩
end
section
variable{N w r i fu lo a:Nat}{R M A B:Nat->Pz}{g f:Pz}{σ:Nat->Nat}{p q:Int}{m:List (List Int)}{l:List Int}{e:Nat->Int}
def ky(N w:Nat)(R:Nat->Pz):List (List Int):=(xbc N).map fun r=>zl w<|R r
theorem kI(N w:Nat)(R:Nat->Pz):(ky N w R).length=N:=by unfold ky;simp
theorem vt(h:r<N):(ky N w R).getD r []=zl w (R r):=by simp_all [ky]
theorem jq{S:Nat->Pz}(h:∀r,r<N->∀k,k<w->R r k=S r k):ky N w R=ky N w S:=by grind [ky,yo,xci]
theorem E4:(ky N w R).set r (zl w g)=ky N w fun s=>if s=r then g else R s:=by
 refine xcy fun i=> ?_;unfold ky;rw[xeb,xaP,xcA];by_cases h:r=i
 ·subst h;rw[iq rfl,xaT];by_cases hj:r<N
  ·rw[iq hj,xby hj];simp
  ·rw[ir hj,xaH<|by simp;lia];rfl
 ·rw[ir h,xaT,xaT];by_cases hi:i<N
  ·rw[xby hi];show some (zl w<|R i)=some (zl w (if i=r then g else R i));rw[ir<|fun e=>h e.symm]
  ·rw[xaH<|by simp;lia];rfl
def Jg(N:Nat)(σ:Nat->Nat):List Nat:=(xbc N).map σ
theorem YO(N:Nat)(σ:Nat->Nat):(Jg N σ).length=N:=by unfold Jg;simp
theorem kq(h:i<N:=by lia):(Jg N σ).getD i 0=σ i:=by simp_all [Jg]
def O1(p:Int)(a:Nat)(own f:Pz):Pz:=fun k=>(f k+(p-f a)*own k)%p
def Ag(p:Int)(a:Nat)(own f:Pz)(i:Nat):Pz:=fun k=>if k<i then O1 p a own f k else f k
theorem zfw(hp:0<p)(a:Nat)(own f:Pz)(k:Nat):0<=O1 p a own f k/\O1 p a own f k<p:=yc hp
theorem RQ{ix:List Nat}{n lo2 n2 q:Nat}{y:Int}(h1:2<=p)(h2:p<=65521)(hR:∀s,s<N->∀k,0<=R s k/\R s k<p)(hr:r<N)(hq:q<N)(hc:q≠r)(hw:w<=64)(hy:y=R q a)(xs0:List (List Int))(h0:xs0=ky N w R)(hf:3000000<=fu):
 zg (fun L (z:((List (List Int)×List Nat)×Nat×Nat)×(Nat×Nat)×Nat×Nat×Nat×Int)=>
 if z.2.2.2.2.2<((xs0.getD r []).length:Int)then
  zG z.2.2.2.2.2 (z.1.1.1.getD z.2.2.2.1 []).length fun j=>
  nm ((z.1.1.1.getD z.2.2.2.1 []).getD j 0) fun v=>
  zG z.2.2.2.2.2 (z.1.1.1.getD z.2.2.2.2.1 []).length fun j=>
  nm ((z.1.1.1.getD z.2.2.2.2.1 []).getD j 0) fun u=>
  ze (p-y) fun e=>
  ze (e*v) fun e=>
  ze (u+e) fun e=>
  ck (p≠0)<|
  nm (xcc e p) fun e=>
  zG z.2.2.2.2.2 (z.1.1.1.getD z.2.2.2.2.1 []).length fun j=>
  nm (z.1.1.1.set z.2.2.2.2.1<|(z.1.1.1.getD z.2.2.2.2.1 []).set j e) fun yss=>
  ze (z.2.2.2.2.2+1) fun i=>
  L (((yss,z.1.1.2),z.1.2),z.2.1,z.2.2.1,z.2.2.2.1,z.2.2.2.2.1,i)
 else some (z.1,z.2.1,z.2.2.1)) fu (((xs0,ix),lo,n),(lo2,n2),r,r,q,0)=some (((ky N w fun s=>if s=q then O1 p a (R r) (R q)else R s,ix),lo,n),(lo2,n2),r):=by
 subst h0;refine zx (fun z:((List (List Int)×List Nat)×Nat×Nat)×(Nat×Nat)×Nat×Nat×Nat×Int=>∃i:Nat,i<=w/\z=(((ky N w fun s=>if s=q then Ag p a (R r) (R q) i else R s,ix),lo,n),(lo2,n2),r,r,q,(i:Int))) (fun z=>w-z.2.2.2.2.2.toNat) _ ?_ _ _ ⟨0,xah _,by
  rw[jq (R:=R) (S:=fun s=>if s=q then Ag p a (R r) (R q) 0 else R s) fun s _ k _=>by
   by_cases e:s=q
   ·rw[iq e,e];unfold Ag;rw[zy]
   ·rw[ir e]]
  rfl⟩ (by show w-0<fu;lia)
 rintro z L ⟨i,hi,rfl⟩ ih;simp only;rw[vt hr,zK];by_cases ha:i<w
 ·have gr:(ky N w fun s=>if s=q then Ag p a (R r) (R q) i else R s).getD r []=zl w (R r):=by rw[vt hr,ir<|fun e=>hc e.symm]
  have gq:(ky N w fun s=>if s=q then Ag p a (R r) (R q) i else R s).getD q []=zl w (Ag p a (R r) (R q) i):=by rw[vt hq,iq rfl]
  have ev:Ag p a (R r) (R q) i i=R q i:=zy;obtain⟨v1,v2⟩:=hR r hr i;obtain⟨u1,u2⟩:=hR q hq i;obtain⟨y1,y2⟩:=hR q hq a;rw[<-hy]at y1 y2;have m1:0<=(p-y)*R r i:=xcB (by lia) v1;have m2:(p-y)*R r i<=65521*65521:=Int.mul_le_mul (by lia) (by lia) v1 (by lia);rw[zN,gr,zK,zp ha,zf,vT ha,gq,zK,zp ha,zf,vT ha,ev,zb,zb,zb,yJ,zf,uw,zp ha,zf,jS,E4,zb];refine ih _ ⟨i+1,by lia,?_⟩ (by show w-((i:Int)+1).toNat<w-(i:Int).toNat;lia);rw[jq (S:=fun s=>if s=q then Ag p a (R r) (R q) (i+1)else R s) fun s _ k _=>by
   by_cases e:s=q
   ·rw[iq e,iq e];unfold Zl Ag;by_cases hk:k=i
    ·rw[iq hk,zN,hk,hy];rfl
    ·rw[ir hk];by_cases hb:k<i
     ·rw[iq hb,zN]
     ·rw[ir hb,zy]
   ·rw[ir e,ir e,ir e]]
  rfl
 ·rw[zy];obtain rfl:i=w:=by lia
  rw[jq (S:=fun s=>if s=q then O1 p a (R r) (R q)else R s) fun s _ k hk=>by
   by_cases e:s=q
   ·rw[iq e,iq e];unfold Ag;rw[iq hk]
   ·rw[ir e,ir e]]
structure Ps(N:Nat)(σ:Nat->Nat):Prop where
 lt:∀i,i<N->σ i<N
 ij:∀i j,i<N->j<N->σ i=σ j->i=j
theorem Cp{n t:Nat}(h1:2<=p)(h2:p<=65521)(hR:∀s,s<N->∀k,0<=R s k/\R s k<p)(hσ:Ps N σ)(ht:t<N)(ho:t<lo\/lo+n<=t)(hn:lo+n<=N)(hN:N<=64)(hw:w<=64)(ha:a<w)(hf:3000000<=fu):
 ∃S:Nat->Pz,w9 fu (ky N w R) (Jg N σ) (σ t) (a:Int) p lo n=some (ky N w S)/\(∀s,s<N->∀k,0<=S s k/\S s k<p)/\∀j,j<N->S (σ j)=if lo<=j/\j<lo+n then O1 p a (R<|σ t) (R<|σ j)else R (σ j):=by
 unfold w9;have hb:=yv (f:=(fun L (x:((List (List Int)×List Nat)×Nat×Nat)×(Nat×Nat)×Nat×Int)=>
 if x.2.2.2<(n:Int)then
  zG x.2.2.2 x.2.1.2 fun j=>
  nm (x.1.1.2.getD (x.2.1.1+j) 0) fun q=>
  zG (a:Int) (x.1.1.1.getD q []).length fun j=>
  nm ((x.1.1.1.getD q []).getD j 0) fun y=>
  bd (zg (fun L (z:((List (List Int)×List Nat)×Nat×Nat)×(Nat×Nat)×Nat×Nat×Nat×Int)=>
   if z.2.2.2.2.2<((x.1.1.1.getD x.2.2.1 []).length:Int)then
    zG z.2.2.2.2.2 (z.1.1.1.getD z.2.2.2.1 []).length fun j=>
    nm ((z.1.1.1.getD z.2.2.2.1 []).getD j 0) fun v=>
    zG z.2.2.2.2.2 (z.1.1.1.getD z.2.2.2.2.1 []).length fun j=>
    nm ((z.1.1.1.getD z.2.2.2.2.1 []).getD j 0) fun u=>
    ze (p-y) fun e=>
    ze (e*v) fun e=>
    ze (u+e) fun e=>
    ck (p≠0)<|
    nm (xcc e p) fun e=>
    zG z.2.2.2.2.2 (z.1.1.1.getD z.2.2.2.2.1 []).length fun j=>
    nm (z.1.1.1.set z.2.2.2.2.1<|(z.1.1.1.getD z.2.2.2.2.1 []).set j e) fun yss=>
    ze (z.2.2.2.2.2+1) fun i=>
    L (((yss,z.1.1.2),z.1.2),z.2.1,z.2.2.1,z.2.2.2.1,z.2.2.2.2.1,i)
   else some (z.1,z.2.1,z.2.2.1)) fu (x.1,x.2.1,x.2.2.1,x.2.2.1,q,0)) fun z=>
  ze (x.2.2.2+1) fun i=>
  L (z.1,z.2.1,z.2.2,i)
 else some x.1)) (fun x=>∃(c:Nat) (S:Nat->Pz),x=(((ky N w S,Jg N σ),lo,n),(lo,n),σ t,(c:Int))/\c<=n/\(∀s,s<N->∀k,0<=S s k/\S s k<p)/\∀j,j<N->S (σ j)=if lo<=j/\j<lo+c then O1 p a (R (σ t)) (R (σ j))else R (σ j)) (fun x=>n-x.2.2.2.toNat)
  (fun y=>∃S:Nat->Pz,y=((ky N w S,Jg N σ),lo,n)/\(∀s,s<N->∀k,0<=S s k/\S s k<p)/\∀j,j<N->S (σ j)=if lo<=j/\j<lo+n then O1 p a (R<|σ t) (R<|σ j)else R (σ j)) (by
  rintro x L ⟨c,S,rfl,hc,hS,hE⟩ ih
  simp only
  by_cases hg:c<n
  ·have hj:lo+c<N:=by lia
   have hi:=hσ.lt t ht
   have hd:=hσ.lt (lo+c) hj
   have hk:σ (lo+c)≠σ t:=fun e=>by have:=hσ.ij _ _ hj ht e;lia
   have hl:S (σ<|lo+c)=R (σ<|lo+c):=by rw[hE _ hj,zy]
   have hm:S (σ t)=R (σ t):=by rw[hE _ ht,zy]
   rw[zN,zp hg,zf,kq hj,vt hd,zK,zp ha,zf,vT ha,za<|RQ (ix:=Jg N σ) (lo:=lo) (n:=n) (lo2:=lo) (n2:=n) h1 h2 hS hi hd hk hw rfl _ rfl hf]
   simp only
   rw[zb]
   refine ih _ ⟨c+1,fun s=>if s=σ (lo+c)then O1 p a (S<|σ t) (S<|σ<|lo+c)else S s,rfl,by lia,fun s hs k=> ?_,fun j he=> ?_⟩ (by show n-((c:Int)+1).toNat<n-(c:Int).toNat;lia)
   ·show 0<=(if s=σ (lo+c)then O1 p a (S<|σ t) (S<|σ<|lo+c)else S s) k/\(if s=σ (lo+c)then O1 p a (S<|σ t) (S<|σ<|lo+c)else S s) k<p
    by_cases e:s=σ (lo+c)
    ·rw[iq e];exact zfw (show 0<p by lia) _ _ _ _
    ·rw[ir e];exact hS s hs k
   ·show(if σ j=σ (lo+c)then O1 p a (S<|σ t) (S<|σ<|lo+c)else S (σ j))=_
    by_cases e:j=lo+c
    ·rw[e,iq rfl,zN,hm,hl]
    ·rw[ir<|fun h=>e<|hσ.ij _ _ he hj h,hE j he]
     by_cases e2:lo<=j/\j<lo+c
     ·rw[iq e2,zN]
     ·rw[ir e2,zy]
  ·rw[zy]
   obtain rfl:c=n:=by lia
   exact⟨_,rfl,S,rfl,hS,hE⟩)
 obtain⟨y,hy,S,rfl,hS,hE⟩:=hb fu (((ky N w R,Jg N σ),lo,n),(lo,n),σ t,0) ⟨0,R,rfl,xah _,hR,fun j hj=>by rw[zy]⟩ (by show n-0<fu;lia);refine⟨S,?_,hS,hE⟩;rw[za hy];simp only;rw[wC ⟨trivial,trivial,trivial⟩]
theorem J6(hp:wz p=true)(hN:m.length<=64)(hm:∀r∈m,r.length=w)(hw:w<=64)(hf:3000000<=fu):Zp fu m p=some 0:=by
 unfold Zp;rw[za<|ku hp,iq rfl,zy,za (v:=Sum.inl ())];refine zx (fun i:Int=>∃k:Nat,i=(k:Int)/\k<=m.length) (fun i=>m.length-i.toNat) _ ?_ _ _ ⟨0,rfl,xah _⟩ (by lia);rintro i L ⟨k,rfl,hk⟩ ih;unfold Ue;by_cases h:k<m.length
 ·have e1:=hm _<|Zf h [];have e2:=hm _<|Zf (show 0<m.length by lia) [];rw[zN,za rfl];simp only[if_true];rw[zp h,zf,zy,show(0:Int)=((0:Nat):Int)from rfl,yj,zf,zN,zb];exact ih _ ⟨k+1,by lia,by lia⟩<|by lia
 ·rw[zy,za rfl];simp only[xak,if_false]
theorem my(h1:1<=p)(h2:p<=65521)(hr:Rl l)(hl:l.length<=1000000)(hf:3000000<=fu):ZM fu l p=some (zl l.length<|fun k=>ci l k%p):=by
 unfold ZM;rw[yE,yJ,zf,JF,za (v:=zl l.length<|fun k=>ci l k%p)];refine zx (fun s:Int×List Int=>∃i:Nat,i<=l.length/\s=((i:Int),zl l.length (fun k=>if k<i then ci l k%p else 0))) (fun s=>l.length-s.1.toNat) _ ?_ _ _ ⟨0,xah _,by rw[yo (f:=fun _=>0) (g:=fun k=>if k<0 then ci l k%p else 0) fun k _=>by rw[zy]];rfl⟩ (by show l.length-0<fu;lia);rintro s L ⟨i,hi,rfl⟩ ih;unfold K0;simp only;by_cases h:i<l.length
 ·rw[zN,zp h,zf,za (show kg fu (l.getD i 0) p=some (l.getD i 0%p)from u6 h1 h2<|hr i),zp (by rw[zK];exact h),zf,jS,zb];refine ih _ ⟨i+1,by lia,?_⟩ (by show l.length-((i:Int)+1).toNat<l.length-(i:Int).toNat;lia);rw[yo (g:=fun k=>if k<i+1 then ci l k%p else 0) fun k _=>by
   unfold Zl;by_cases hk:k=i
   ·rw[iq hk,zN,hk,ZO]
   ·rw[ir hk];show(if k<i then ci l k%p else 0)=_;by_cases ha:k<i
    ·rw[iq ha,zN]
    ·rw[ir ha,zy]]
  rfl
 ·rw[zy];rw[yo (g:=fun k=>ci l k%p) fun k hk=>by rw[zN]]
theorem H9{l:List (List Int)}{g:List Int->Option Bool}{b:List Int->Bool}(hg:∀z∈l,g z=some (b z))(hl:l.length<=1000000)(hf:3000000<=fu):
 (yx fu l g=some (-1)/\∀z∈l,b z=false)\/∃i:Nat,i<l.length/\yx fu l g=some (i:Int)/\b (l.getD i [])=true/\∀j,j<i->b (l.getD j [])=false:=by
 unfold yx
 have ha:=yv (f:=wV fu l g) (fun i:Int=>∃k:Nat,i=(k:Int)/\k<=l.length/\∀j,j<k->b (l.getD j [])=false) (fun i=>l.length-i.toNat)
  (fun r=>(r=.inl ()/\∀j,j<l.length->b (l.getD j [])=false)\/∃i:Nat,i<l.length/\r=.inr (i:Int)/\b (l.getD i [])=true/\∀j,j<i->b (l.getD j [])=false) (by
  rintro i L ⟨k,rfl,hk,hj⟩ ih
  unfold wV
  by_cases h:k<l.length
  ·rw[zN,zp h,zf,za<|hg _<|Zf h []]
   cases hb:b (l.getD k [])with
   |true=>
    rw[iq rfl]
    exact⟨_,rfl,.inr ⟨k,h,rfl,hb,hj⟩⟩
   |false=>
    rw[ir (by decide),zb]
    refine ih _ ⟨k+1,by lia,by lia,fun j he=> ?_⟩<|by lia
    by_cases e:j=k
    ·rw[e];exact hb
    ·exact hj j<|by lia
  ·rw[zy]
   exact⟨_,rfl,.inl ⟨rfl,fun j hm=>hj j<|by lia⟩⟩)
 obtain⟨r,hr,hc⟩:=ha fu 0 ⟨0,rfl,xah _,fun j hj=>by lia⟩ (by show l.length-0<fu;lia);rcases hc with⟨rfl,hd⟩|⟨i,hi,rfl,hb,hj⟩
 ·left;refine⟨by rw[za hr],fun z hz=> ?_⟩;obtain⟨j,hj,e⟩:=xcJ hz;have:=hd j hj;rw[H1,xaa hj]at this;rw[<-e];exact this
 ·right;exact⟨i,hi,by rw[za hr],hb,hj⟩
theorem R4{g:Int->Option Bool}{b:Int->Bool}(hg:∀z,g z=some (b z))(hl:l.length<=1000000)(hf:3000000<=fu):
 (y5 fu l g=some (-1)/\∀j,j<l.length->b (ci l j)=false)\/∃i:Nat,i<l.length/\y5 fu l g=some (i:Int)/\b (ci l i)=true/\∀j,j<i->b (ci l j)=false:=by
 unfold y5
 have ha:=yv (f:=wb fu l g) (fun i:Int=>∃k:Nat,i=(k:Int)/\k<=l.length/\∀j,j<k->b (ci l j)=false) (fun i=>l.length-i.toNat)
  (fun r=>(r=.inl ()/\∀j,j<l.length->b (ci l j)=false)\/∃i:Nat,i<l.length/\r=.inr (i:Int)/\b (ci l i)=true/\∀j,j<i->b (ci l j)=false) (by
  rintro i L ⟨k,rfl,hk,hj⟩ ih
  unfold wb
  by_cases h:k<l.length
  ·rw[zN,zp h,zf,za<|hg _,ZO]
   cases hb:b (ci l k)with
   |true=>
    rw[iq rfl]
    exact⟨_,rfl,.inr ⟨k,h,rfl,hb,hj⟩⟩
   |false=>
    rw[ir (by decide),zb]
    refine ih _ ⟨k+1,by lia,by lia,fun j he=> ?_⟩<|by lia
    by_cases e:j=k
    ·rw[e];exact hb
    ·exact hj j<|by lia
  ·rw[zy]
   exact⟨_,rfl,.inl ⟨rfl,fun j hm=>hj j<|by lia⟩⟩)
 obtain⟨r,hr,hc⟩:=ha fu 0 ⟨0,rfl,xah _,fun j hj=>by lia⟩ (by show l.length-0<fu;lia);rcases hc with⟨rfl,hd⟩|⟨i,hi,rfl,hb,hj⟩
 ·exact .inl ⟨by rw[za hr],hd⟩
 ·exact .inr ⟨i,hi,by rw[za hr],hb,hj⟩
def dt(w:Nat)(f:Pz)(e:Nat->Int):Int:=zX w fun k=>f k*e k
theorem zbZ(h:∀k,k<w->f k%p=g k%p):dt w f e%p=dt w g e%p:=aB fun k hk=>by rw[xbr,h k hk,<-xbr]
theorem Ti(c d:Int):dt w (fun k=>c*f k+d*g k) e=c*dt w f e+d*dt w g e:=by
 unfold dt;rw[<-jT,<-jT,<-Zo];exact zV fun k _=>by grind
def Kr(p:Int)(N w:Nat)(A:Nat->Pz)(e:Nat->Int):Prop:=∀i,i<N->p∣dt w (A i) e
structure re(p:Int)(N w:Nat)(M A:Nat->Pz)(n c:Nat)(pv:Nat->Nat):Prop where
 hn:n<=N
 hc:c<=w
 rg:∀i,i<N->∀k,0<=A i k/\A i k<p
 lt:∀i,i<n->pv i<c
 on:∀i,i<n->A i (pv i)=1
 no:∀i,i<n->∀j,j<N->j≠i->A j (pv i)=0
 ld:∀i,i<n->∀k,k<pv i->A i k=0
 zr:∀i,n<=i->i<N->∀k,k<c->A i k=0
 kr:∀e,Kr p N w A e↔Kr p N w M e
theorem re.skip{n c:Nat}{pv:Nat->Nat}(h:re p N w M A n c pv)(hc:c<w)(hz:∀i,n<=i->i<N->A i c=0):re p N w M A n (c+1) pv:=
 ⟨h.hn,hc,h.rg,fun i hi=>by have:=h.lt i hi;lia,h.on,h.no,h.ld,fun i h1 h2 k hk=>by
  by_cases e:k=c
  ·rw[e];exact hz i h1 h2
  ·exact h.zr i h1 h2 k (by lia),h.kr⟩
theorem re.swap{n c:Nat}{pv:Nat->Nat}(h:re p N w M A n c pv)(ha:n<=a)(hc:a<N)(hB:∀i,i<N->B i=if i=n then A a else if i=a then A n else A i):re p N w M B n c pv:=by
 have he:∀i,i<n->B i=A i:=fun i hi=>by
  have:=h.hn;rw[hB i (by lia),zy,zy]
 have hb:∀i,i<N->∃j,j<N/\B i=A j/\(n<=i->n<=j)/\(∀x,x<n->(i≠x->j≠x)):=fun i hi=>by
  by_cases e1:i=n
  ·exact⟨a,hc,by rw[hB i hi,iq e1],fun _=>ha,fun x hx _=>by lia⟩
  ·by_cases e2:i=a
   ·exact⟨n,by lia,by rw[hB i hi,ir e1,iq e2],fun _=>xab _,fun x hx _=>by lia⟩
   ·exact⟨i,hi,by rw[hB i hi,ir e1,ir e2],id,fun x hx=>id⟩
 have hd:∀i,i<N->∃j,j<N/\A i=B j:=fun i hi=>by
  by_cases e1:i=n
  ·refine⟨a,hc,?_⟩;rw[hB a hc];by_cases e:a=n
   ·rw[iq e,e1,e]
   ·rw[ir e,iq rfl,e1]
  ·by_cases e2:i=a
   ·exact⟨n,by lia,by rw[hB n (by lia),iq rfl,e2]⟩
   ·exact⟨i,hi,by rw[hB i hi,ir e1,ir e2]⟩
 refine⟨h.hn,h.hc,fun i hi=> ?_,h.lt,fun i hi=> ?_,fun i hi j hj hf=> ?_,fun i hi k hk=> ?_,fun i h1 h2 k hk=> ?_,fun e=> ?_⟩
 ·obtain⟨j,hj,e,_⟩:=hb i hi;rw[e];exact h.rg j hj
 ·rw[he i hi];exact h.on i hi
 ·obtain⟨x,hx,e,_,hg⟩:=hb j hj;rw[e];exact h.no i hi x hx<|hg i hi hf
 ·rw[he i hi];exact h.ld i hi k hk
 ·obtain⟨j,hj,e,hl,_⟩:=hb i h2;rw[e];exact h.zr j (hl h1) hj k hk
 ·refine Iff.trans ⟨fun hk i hi=> ?_,fun hk i hi=> ?_⟩<|h.kr e
  ·obtain⟨j,hj,e⟩:=hd i hi;rw[e];exact hk j hj
  ·obtain⟨j,hj,e,_⟩:=hb i hi;rw[e];exact hk j hj
theorem re.step{n c:Nat}{pv:Nat->Nat}(hp:2<=p)(h:re p N w M A n c pv)(hb:n<N)(hr:c<w)(hq:(q*A n c)%p=1)(hf:B n=fun k=>(A n k*q)%p)(hB:∀j,j<N->j≠n->B j=O1 p c (B n) (A j)):
 re p N w M B (n+1) (c+1) (fun i=>if i=n then c else pv i):=by
 have hg:∀k,k<c->B n k=0:=fun k hk=>by rw[hf];show A n k*q%p=0;rw[h.zr n (xab _) hb k hk,xaS,xag]
 have hm:B n c=1:=by rw[hf];show A n c*q%p=1;rw[xbm,hq]
 have hc:∀j,j<N->j≠n->∀k,B j k=(A j k+(p-A j c)*B n k)%p:=fun j hj hd k=>by rw[hB j hj hd];rfl
 have ha:∀j,j<N->j≠n->∀k,B n k=0->B j k=A j k:=fun j hj hd k hk=>by
  rw[hc j hj hd,hk,xau,xbD];exact xaC (h.rg j hj k).1 (h.rg j hj k).2
 have he:∀i,i<n->B n (pv i)=0:=fun i hi=>hg _<|h.lt i hi;refine⟨hb,hr,fun i hi k=> ?_,fun i hi=> ?_,fun i hi=> ?_,fun i hi j hj hs=> ?_,fun i hi k hk=> ?_,fun i h1 h2 k hk=> ?_,fun e=> ?_⟩
 ·by_cases e:i=n
  ·rw[e,hf];exact yc
  ·rw[hc i hi e];exact yc
 ·show(if i=n then c else pv i)<c+1;by_cases e:i=n
  ·rw[iq e];lia
  ·rw[ir e];have:=h.lt i (by lia);lia
 ·show B i (if i=n then c else pv i)=1;by_cases e:i=n
  ·rw[iq e,e,hm]
  ·rw[ir e,ha i (by lia) e _<|he i<|by lia];exact h.on i<|by lia
 ·show B j (if i=n then c else pv i)=0;by_cases e:i=n
  ·rw[iq e,hc j hj (by lia),hm,xck,show A j c+(p-A j c)=p by lia,Int.emod_self]
  ·rw[ir e];by_cases e2:j=n
   ·rw[e2];exact he i<|by lia
   ·rw[ha j hj e2 _<|he i<|by lia];exact h.no i (by lia) j hj hs
 ·have hl:k<(if i=n then c else pv i):=hk;by_cases e:i=n
  ·rw[iq e]at hl;rw[e];exact hg k hl
  ·rw[ir e]at hl;have h3:=h.lt i (by lia);rw[ha i (by lia) e k<|hg k<|by lia];exact h.ld i (by lia) k hl
 ·by_cases e:k=c
  ·rw[e,hc i h2 (by lia),hm,xck,show A i c+(p-A i c)=p by lia,Int.emod_self]
  ·rw[ha i h2 (by lia) k<|hg k<|by lia];exact h.zr i (by lia) h2 k<|by lia
 ·refine Iff.trans ?_<|h.kr e;have en:dt w (B n) e%p=(q*dt w (A n) e)%p:=by
   have:=zbZ (p:=p) (w:=w) (f:=B n) (g:=fun k=>q*A n k+0*A n k) (e:=e) fun k _=>by rw[hf];show A n k*q%p%p=_;rw[xaF];congr 1;grind
   rw[this,Ti];congr 1;grind
  have ej:∀j,j<N->j≠n->dt w (B j) e%p=(dt w (A j) e+(p-A j c)*dt w (B n) e)%p:=fun j hj hd=>by
   have:=zbZ (p:=p) (w:=w) (f:=B j) (g:=fun k=>1*A j k+(p-A j c)*B n k) (e:=e) fun k _=>by rw[hc j hj hd,xaF];congr 1;grind
   rw[this,Ti];congr 1;grind
  have dv:∀{x y:Int},x%p=y%p->(p∣x↔p∣y):=fun{x y} hn=>⟨fun hx=>xaJ (by rw[<-hn];exact xaB hx),fun hy=>xaJ<|by rw[hn];exact xaB hy⟩;have ht:p∣dt w (B n) e->p∣dt w (A n) e:=fun hh=>by
   have h1:=(dv en).1 hh;have h2:p∣A n c*(q*dt w (A n) e):=xbG h1<|xcQ _ _;refine(dv ?_).1 h2;rw[<-xbK,xbr,xbm (A n c) q,hq,xca,xaF]
  constructor
  ·intro hk j hj;by_cases e1:j=n
   ·rw[e1];exact ht<|hk n hb
   ·have h1:=(dv<|ej j hj e1).1<|hk j hj;have h2:p∣(p-A j c)*dt w (B n) e:=xbG (hk n hb)<|xcQ _ _;have h3:=xdp h1 h2;rwa[Int.add_sub_cancel]at h3
  ·intro hk j hj;have ho:p∣dt w (B n) e:=(dv en).2<|xbG (hk n hb)<|xcQ _ _;by_cases e1:j=n
   ·rw[e1];exact ho
   ·exact(dv<|ej j hj e1).2<|Int.dvd_add (hk j hj)<|xbG ho<|xcQ _ _
theorem GK(N w:Nat)(R:Nat->Pz):ky N w R++[zl w<|R N]=ky (N+1) w R:=by grind [ky,xdu]
theorem zcR(N:Nat)(σ:Nat->Nat):Jg N σ++[σ N]=Jg (N+1) σ:=by grind [Jg,xdu]
theorem oo{v:Nat}:(Jg N σ).set i v=Jg N fun s=>if s=i then v else σ s:=by
 refine xcy fun j=> ?_;unfold Jg;rw[xeb,xaP,xcA];by_cases h:i=j
 ·subst h;rw[iq rfl,xaT];by_cases hj:i<N
  ·rw[iq hj,xby hj];simp
  ·rw[ir hj,xaH<|by simp;lia];rfl
 ·rw[ir h,xaT,xaT];by_cases hi:j<N
  ·rw[xby hi];show some (σ j)=some (if j=i then v else σ j);rw[ir<|fun e=>h e.symm]
  ·rw[xaH<|by simp;lia];rfl
theorem SJ(hσ:∀i,i<N->σ i<N):((Jg N σ).map fun r=>(ky N w R).getD r [])=ky N w fun i=>R (σ i):=by
 show((xbc N).map σ).map _=(xbc N).map _;rw[xcT];exact xci fun i hi=>vt<|hσ i<|xbf.1 hi
theorem S5{n:Nat}(h:n<=N):(ky N w R).take n=ky n w R:=by
 unfold ky;rw[<-List.map_take,List.take_range,xcM h]
theorem Te{n:Nat}(h:n<=N):(ky N w R).drop n=ky (N-n) w fun i=>R (n+i):=by
 refine xcy fun i=> ?_;unfold ky;rw[xet,xaT,xaT];by_cases hi:n+i<N
 ·rw[xby hi,xby<|by lia];rfl
 ·rw[xaH (by simp;lia),xaH<|by simp;lia];rfl
theorem zb6{n:Nat}(h1:2<=p)(h2:p<=65521)(hR:∀s,s<N->∀k,0<=R s k/\R s k<p)(hr:r<N)(hd:σ n=r)(hn:n<N)(hb:0<=q)(hg:q<p)(hw:w<=64)(xs0:List (List Int))(h0:xs0=ky N w R)(nI:Int)(he:nI=(n:Int))(hf:3000000<=fu):
 zg (fun L (z:(List (List Int)×List Nat)×Nat×Int)=>
  if z.2.2<((xs0.getD r []).length:Int)then
   zG z.2.2 (z.1.1.getD z.2.1 []).length fun j=>
   nm ((z.1.1.getD z.2.1 []).getD j 0) fun y=>
   zG nI z.1.2.length fun j=>
   nm (z.1.2.getD j 0) fun r=>
   ze (y*q) fun e=>
   ck (p≠0)<|
   nm (xcc e p) fun e=>
   zG z.2.2 (z.1.1.getD r []).length fun j=>
   nm (z.1.1.set r<|(z.1.1.getD r []).set j e) fun yss=>
   ze (z.2.2+1) fun i=>L ((yss,z.1.2),z.2.1,i)
  else some z.1) fu ((xs0,Jg N σ),r,0)=some (ky N w fun s=>if s=r then fun k=>(R r k*q)%p else R s,Jg N σ):=by
 subst h0 he;refine zx (fun z:(List (List Int)×List Nat)×Nat×Int=>∃i:Nat,i<=w/\z=((ky N w fun s=>if s=r then fun k=>if k<i then(R r k*q)%p else R r k else R s,Jg N σ),r,(i:Int))) (fun z=>w-z.2.2.toNat) _ ?_ _ _ ⟨0,xah _,by
  rw[jq (R:=R) (S:=fun s=>if s=r then fun k=>if k<0 then(R r k*q)%p else R r k else R s) fun s _ k _=>by
   by_cases e:s=r
   ·rw[iq e,e];show R r k=if k<0 then _ else R r k;rw[zy]
   ·rw[ir e]]
  rfl⟩ (by show w-0<fu;lia)
 rintro z L ⟨i,hi,rfl⟩ ih;simp only;rw[vt hr,zK];by_cases ha:i<w
 ·have gr:(ky N w fun s=>if s=r then fun k=>if k<i then(R r k*q)%p else R r k else R s).getD r []=zl w (fun k=>if k<i then(R r k*q)%p else R r k):=by rw[vt hr,iq rfl]
  obtain⟨v1,v2⟩:=hR r hr i;have m1:0<=R r i*q:=xcB v1 hb;have m2:R r i*q<=65521*65521:=Int.mul_le_mul (by lia) (by lia) hb (by lia);rw[zN,gr,zK,zp ha,zf,vT ha,zy,YO,zp hn,zf,kq hn,hd,zb,yJ,zf,uw,gr,zK,zp ha,zf,jS,E4,zb];refine ih _ ⟨i+1,by lia,?_⟩ (by show w-((i:Int)+1).toNat<w-(i:Int).toNat;lia);rw[jq (S:=fun s=>if s=r then fun k=>if k<i+1 then(R r k*q)%p else R r k else R s) fun s _ k _=>by
   by_cases e:s=r
   ·rw[iq e,iq e];unfold Zl;show _=if k<i+1 then(R r k*q)%p else R r k;by_cases hk:k=i
    ·rw[iq hk,zN,hk]
    ·rw[ir hk];show(if k<i then(R r k*q)%p else R r k)=_;by_cases hc:k<i
     ·rw[iq hc,zN]
     ·rw[ir hc,zy]
   ·rw[ir e,ir e,ir e]]
  rfl
 ·rw[zy];obtain rfl:i=w:=by lia
  rw[jq (S:=fun s=>if s=r then fun k=>(R r k*q)%p else R s) fun s _ k hk=>by
   by_cases e:s=r
   ·rw[iq e,iq e];show(if k<i then _ else _)=_;rw[iq hk]
   ·rw[ir e,ir e]]
theorem zj3(hp:0<p):re p N w M (fun i k=>M i k%p) 0 0 (fun _=>0):=
 ⟨xah _,xah _,fun i _ k=>yc hp,fun i hi=>by lia,fun i hi=>by lia,fun i hi=>by lia,fun i hi=>by lia,fun i _ _ k hk=>by lia,fun e=>by
  have dv:∀{x y:Int},x%p=y%p->(p∣x↔p∣y):=fun{x y} ha=>⟨fun hx=>xaJ (by rw[<-ha];exact xaB hx),fun hy=>xaJ<|by rw[ha];exact xaB hy⟩;have:∀i,p∣dt w (fun k=>M i k%p) e↔p∣dt w (M i) e:=fun i=>dv<|zbZ fun k _=>xaF _ _;exact⟨fun h i hi=>(this i).1<|h i hi,fun h i hi=>(this i).2<|h i hi⟩⟩
def Tk(fu:Nat)(p:Int):(((List (List Int)×List Nat)×Int×Int)->Option ((List (List Int)×List Nat)×Int))->((List (List Int)×List Nat)×Int×Int)->Option ((List (List Int)×List Nat)×Int):=fun L (x:(List (List Int)×List Nat)×Int×Int)=>if x.2.1<(x.1.2.length:Int)then zG 0 x.1.2.length fun j=>nm (x.1.2.getD j 0) fun r=>if x.2.2<((x.1.1.getD r []).length:Int)then jM x.2.1 fun j=>ck (j<=x.1.2.length)<|bd (yx fu (xdt (x.1.2.length-j)<|xdA j<|x.1.2.map fun r=>x.1.1.getD r []) fun z=>qS fu z x.2.2) fun i=>if i<0 then ze (x.2.2+1) fun c=>L (x.1,x.2.1,c)else ze (x.2.1+i) fun a=>ze (x.2.1+i) fun b=>zG b x.1.2.length fun j=>nm (x.1.2.getD j 0) fun r1=>zG x.2.1 x.1.2.length fun j=>nm (x.1.2.getD j 0) fun r2=>zG x.2.1 x.1.2.length fun j=>nm (x.1.2.set j r1) fun ix=>zG a ix.length fun j=>nm (ix.set j r2) fun ix=>zG x.2.1 ix.length fun j=>nm (ix.getD j 0) fun r=>zG x.2.2 (x.1.1.getD r []).length fun j=>nm ((x.1.1.getD r []).getD j 0) fun y=>bd (Xl fu y p) fun q=>zG x.2.1 ix.length fun j=>nm (ix.getD j 0) fun r=>bd (zg (fun L (z:(List (List Int)×List Nat)×Nat×Int)=>if z.2.2<((x.1.1.getD r []).length:Int)then zG z.2.2 (z.1.1.getD z.2.1 []).length fun j=>nm ((z.1.1.getD z.2.1 []).getD j 0) fun y=>zG x.2.1 z.1.2.length fun j=>nm (z.1.2.getD j 0) fun r=>ze (y*q.1) fun e=>ck (p≠0)<|nm (xcc e p) fun e=>zG z.2.2 (z.1.1.getD r []).length fun j=>nm (z.1.1.set r<|(z.1.1.getD r []).set j e) fun yss=>ze (z.2.2+1) fun i=>L ((yss,z.1.2),z.2.1,i)else some z.1) fu ((x.1.1,ix),r,0)) fun m=>zG x.2.1 m.2.length fun j=>nm (m.2.getD j 0) fun r=>jM x.2.1 fun j=>ck (j<=m.2.length)<|bd (w9 fu m.1 m.2 r x.2.2 p 0 j) fun yss=>zG x.2.1 m.2.length fun j=>nm (m.2.getD j 0) fun r=>ze (x.2.1+1) fun e=>jM e fun j=>ck (j<=m.2.length)<|bd (w9 fu yss m.2 r x.2.2 p j<|m.2.length-j) fun yss=>ze (x.2.1+1) fun k=>ze (x.2.2+1) fun c=>L ((yss,m.2),k,c)else some (x.1,x.2.1)else some (x.1,x.2.1)
def EI(p:Int)(N w:Nat)(M:Nat->Pz)(x:(List (List Int)×List Nat)×Int×Int):Prop:=
 ∃(R:Nat->Pz) (σ:Nat->Nat) (n c:Nat) (pv:Nat->Nat),x=((ky N w R,Jg N σ),(n:Int),(c:Int))/\(∀s,s<N->∀k,0<=R s k/\R s k<p)/\Ps N σ/\re p N w M (fun i=>R<|σ i) n c pv
def EQ(p:Int)(N w:Nat)(M:Nat->Pz)(y:(List (List Int)×List Nat)×Int):Prop:=
 ∃(R:Nat->Pz) (σ:Nat->Nat) (n c:Nat) (pv:Nat->Nat),y=((ky N w R,Jg N σ),(n:Int))/\Ps N σ/\re p N w M (fun i=>R<|σ i) n c pv/\(n=N\/c=w)
theorem zf5{α:Type}{n:Nat}{k:Nat->Option α}(h:0<n):zG (0:Int) n k=k 0:=by
 rw[show(0:Int)=((0:Nat):Int)from rfl,zp h]
theorem TD(hp:wz p=true)(hN:N<=64)(hw:w<=64)(hf:3000000<=fu){x:(List (List Int)×List Nat)×Int×Int}(hx:EI p N w M x):∃y,zg (Tk fu p) fu x=some y/\EQ p N w M y:=by
 obtain⟨p1,p2⟩:=zn hp;refine yv (EI p N w M) (fun x=>w-x.2.2.toNat) _ ?_ _ _ hx (by obtain⟨R,σ,n,c,pv,rfl,_⟩:=hx;show w-(c:Int).toNat<fu;lia);rintro x L ⟨R,σ,n,c,pv,rfl,hR,hσ,hE⟩ ih;unfold Tk;simp only;have ho:=hE.hn;have hq:=hE.hc;rw[YO];by_cases h1:n<N
 ·have hk:=hσ.lt 0 (by lia);rw[zN,zf5 (by lia),zf,kq,vt hk,zK];by_cases h2:c<w
  ·rw[zN,yE,yJ,SJ hσ.lt,Te (by lia),xaQ<|by rw[kI];exact xab _];have he:∀z∈ky (N-n) w (fun i=>R<|σ<|n+i),qS fu z (c:Int)=some (!decide (ci z c=0)):=fun z hz=>by
    obtain⟨j,hj,rfl⟩:=xal.1 hz;unfold qS;rw[zp (by rw[zK];exact h2),zf,ZO];by_cases e:ci (zl w<|R<|σ<|n+j) c=0
    ·rw[iq e,decide_eq_true e];rfl
    ·rw[ir e,decide_eq_false e];rfl
   rcases H9 (fu:=fu) (b:=fun z=> !decide (ci z c=0)) he (by rw[kI];lia) hf with⟨g1,g2⟩|⟨i,hi,g1,g2,g3⟩
   ·rw[za g1,iq (by decide),zb];refine ih _ ⟨R,σ,n,c+1,pv,rfl,hR,hσ,hE.skip h2 fun i h3 h4=> ?_⟩ (by show w-((c:Int)+1).toNat<w-(c:Int).toNat;lia);have g4:=g2 ((ky (N-n) w<|fun i=>R<|σ<|n+i).getD (i-n) [])<|Zf (by rw[kI];lia) [];rw[vt (by lia),jo h2,show n+(i-n)=i by lia]at g4;show R (σ i) c=0;simpa using g4
   ·rw[kI]at hi;rw[vt hi,jo h2]at g2;have ha:R (σ<|n+i) c≠0:=by simpa using g2
    obtain⟨τ,hτ⟩:∃τ:Nat->Nat,τ=fun s=>if s=n+i then σ n else if s=n then σ (n+i)else σ s:=⟨_,rfl⟩;have hl:τ n=σ (n+i):=by
     rw[hτ];show(if n=n+i then σ n else if n=n then σ (n+i)else σ n)=_;by_cases e:n=n+i
     ·rw[iq e];exact congrArg σ e
     ·rw[ir e,iq rfl]
    have hb:Ps N τ:=by
     have hc:∀s,τ s=σ (if s=n+i then n else if s=n then n+i else s):=fun s=>by
      rw[hτ];show(if s=n+i then σ n else if s=n then σ (n+i)else σ s)=_;by_cases e1:s=n+i
      ·rw[iq e1,iq e1]
      ·rw[ir e1,ir e1];by_cases e2:s=n
       ·rw[iq e2,iq e2]
       ·rw[ir e2,ir e2]
     refine⟨fun s hs=> ?_,fun s t hs ht e=> ?_⟩
     ·rw[hc];refine hσ.lt _ ?_;split<;>(try split)<;>lia
     ·rw[hc,hc]at e;have:=hσ.ij _ _ (by split<;>(try split)<;>lia) (by split<;>(try split)<;>lia) e;split at this<;>(try split at this)<;>(try split at this)<;>(try split at this)<;>lia
    have hm:re p N w M (fun j=>R<|τ j) n c pv:=hE.swap (a:=n+i) (by lia) (by lia) fun j hj=>by
     rw[hτ];show R (if j=n+i then σ n else if j=n then σ (n+i)else σ j)=if j=n then R (σ<|n+i)else if j=n+i then R (σ n)else R (σ j);by_cases e2:j=n+i
     ·rw[iq e2];by_cases e1:j=n
      ·rw[iq e1];have e3:n+i=n:=by lia
       rw[e3]
      ·rw[ir e1,iq e2]
     ·rw[ir e2];by_cases e1:j=n
      ·rw[iq e1,iq e1]
      ·rw[ir e1,ir e1,ir e2]
    have hg:=hb.lt n h1;obtain⟨y1,y2⟩:=hR (τ n) hg c;obtain⟨q,q1,q2,q3,q4⟩:=Qn (fu:=fu) (a:=R (τ n) c) hp (by rw[hl]at y1 y2⊢;lia) y2 hf;have e1:(n:Int)+(i:Int)=((n+i:Nat):Int):=by lia
    have hn:(Jg N σ).set n (σ<|n+i)=Jg N fun s=>if s=n then σ (n+i)else σ s:=oo;rw[za g1,zy,e1,zb,zb,yj,zf,kq,zp h1,zf,kq h1,zp h1,zf,oo,YO,yj,zf,oo,YO];rw[show(fun s=>if s=n+i then σ n else if s=n then σ (n+i)else σ s)=τ from hτ.symm];rw[zp h1,zf,kq h1,vt hg,zK,zp h2,zf,vT h2,za q1];simp only;rw[zp h1,zf,kq h1,za<|zb6 (fu:=fu) (n:=n) (r:=τ n) (q:=q) p1 p2 hR hg rfl h1 q2 q3 hw _ rfl _ rfl hf];simp only;obtain⟨S1,hd⟩:∃S1:Nat->Pz,S1=fun s=>if s=τ n then fun k=>(R (τ n) k*q)%p else R s:=⟨_,rfl⟩;rw[<-hd];have r1:∀s,s<N->∀k,0<=S1 s k/\S1 s k<p:=fun s hs k=>by
     rw[hd];show 0<=(if s=τ n then fun k=>(R (τ n) k*q)%p else R s) k/\(if s=τ n then fun k=>(R (τ n) k*q)%p else R s) k<p;by_cases e:s=τ n
     ·rw[iq e];exact yc (show 0<p by lia)
     ·rw[ir e];exact hR s hs k
    have s1n:S1 (τ n)=fun k=>(R (τ n) k*q)%p:=by rw[hd];exact iq rfl
    have s1j:∀j,j<N->j≠n->S1 (τ j)=R (τ j):=fun j hj ha=>by rw[hd];exact ir fun e=>ha<|hb.ij _ _ hj h1 e
    obtain⟨S2,t1,r2,t2⟩:=Cp (fu:=fu) (a:=c) (lo:=0) (n:=n) (t:=n) p1 p2 r1 hb h1 (.inr<|by lia) (by lia) hN hw h2 hf;obtain⟨S3,t3,r3,t4⟩:=Cp (fu:=fu) (a:=c) (lo:=n+1) (n:=N-(n+1)) (t:=n) p1 p2 r2 hb h1 (.inl<|by lia) (by lia) hN hw h2 hf;have s2n:S2 (τ n)=S1 (τ n):=by rw[t2 n h1,zy]
    have s3n:S3 (τ n)=S1 (τ n):=by rw[t4 n h1,zy,s2n]
    have e2:(n:Int)+1=((n+1:Nat):Int):=by lia
    rw[YO,zp h1,zf,kq h1,yE,yJ,za t1,zp h1,zf,kq h1,e2,zb,yE,yJ,za t3,zb,zb];refine ih _ ⟨S3,τ,n+1,c+1,fun i=>if i=n then c else pv i,rfl,r3,hb,?_⟩ (by show w-((c:Int)+1).toNat<w-(c:Int).toNat;lia);refine hm.step (q:=q) p1 h1 h2 q4 (s3n.trans s1n) fun j hj ha=> ?_;show S3 (τ j)=O1 p c (S3<|τ n) (R<|τ j);by_cases hr:j<n
    ·rw[t4 j hj,zy,t2 j hj,if_pos ⟨by lia,by lia⟩,s3n,s1j j hj ha]
    ·rw[t4 j hj,if_pos ⟨by lia,by lia⟩,s2n,t2 j hj,zy,s3n,s1j j hj ha]
  ·rw[zy];exact⟨_,rfl,R,σ,n,c,pv,rfl,hσ,hE,.inr<|by lia⟩
 ·rw[zy];exact⟨_,rfl,R,σ,n,c,pv,rfl,hσ,hE,.inl<|by lia⟩
theorem fi(hp:wz p=true)(hc:m.length=N)(hN:N<=64)(hm:∀r∈m,r.length=w/\Rl r)(hw:w<=64)(hf:3000000<=fu):
 ∃(A:Nat->Pz) (n c:Nat) (pv:Nat->Nat),kf fu m p=some (ky n w A,0)/\re p N w (fun i=>ci<|m.getD i []) A n c pv/\(n=N\/c=w):=by
 obtain⟨p1,p2⟩:=zn hp;unfold kf;rw[za<|J6 hp (by lia) (fun r hr=>(hm r hr).1) hw hf,iq rfl];obtain⟨M,hM⟩:∃M:Nat->Pz,M=fun i=>ci (m.getD i []):=⟨_,rfl⟩;rw[<-hM];rw[za (v:=(ky N w<|fun i k=>M i k%p,Jg N fun i=>i))]
 ·show∃A n c pv,bd (zg (Tk fu p) fu ((ky N w<|fun i k=>M i k%p,Jg N fun i=>i),0,0)) _=_/\_;obtain⟨y,hy,R,σ,n,c,pv,rfl,hσ,hE,ha⟩:=TD (fu:=fu) (M:=M) hp hN hw hf (x:=((ky N w<|fun i k=>M i k%p,Jg N fun i=>i),0,0)) ⟨_,_,0,0,fun _=>0,rfl,fun s _ k=>yc,⟨fun i hi=>hi,fun i j _ _ h=>h⟩,zj3<|by lia⟩;have hn:=hE.hn;refine⟨fun i=>R<|σ i,n,c,pv,?_,hE,ha⟩;rw[za hy];simp only;rw[yE,SJ hσ.lt,kI,wC hn,zf,S5 hn]
 ·refine zx (fun x:(List (List Int)×List Nat)×Int=>∃i:Nat,i<=N/\x=((ky i w<|fun i k=>M i k%p,Jg i fun i=>i),(i:Int))) (fun x=>N-x.2.toNat) _ ?_ _ _ ⟨0,xah _,rfl⟩ (by show N-0<fu;lia);rintro x L ⟨i,hi,rfl⟩ ih;simp only;by_cases h:i<N
  ·have hb:=Zf (l:=m) (i:=i) (by lia) [];obtain⟨e1,e2⟩:=hm _ hb;have ep:ZM fu (m.getD i []) p=some (zl w<|fun k=>M i k%p):=by rw[my (by lia) p2 e2 (by lia) hf,e1,hM]
   rw[zN,yj,zf,za ep,YO,yJ,zf,kI,zf,zb];refine ih _ ⟨i+1,by lia,?_⟩ (by show N-((i:Int)+1).toNat<N-(i:Int).toNat;lia);rw[<-GK,<-zcR];rfl
  ·rw[zy];obtain rfl:i=N:=by lia
   rfl
end
section
variable{fu w i N c0:Nat}{p:Int}{M A:Nat->Pz}
theorem Ux{n c:Nat}{pv:Nat->Nat}(h:re p N w M A n c pv)(hi:i<n)(hw:w<=64)(hf:3000000<=fu):Y2 fu (zl w<|A i)=some (pv i:Int):=by
 have hb:=h.lt i hi;have hc:=h.hc;unfold Y2;have hg:∀z,(fun zx0=>ug fu zx0) z=some (!decide (z=0)):=fun z=>by
  show ug fu z=_;unfold ug;by_cases e:z=0
  ·rw[iq e,decide_eq_true e];rfl
  ·rw[ir e,decide_eq_false e];rfl
 have ha:=h.on i hi;rcases R4 (fu:=fu) (l:=zl w<|A i) (b:=fun z=> !decide (z=0)) hg (by rw[zK];lia) hf with⟨g1,g2⟩|⟨j,hj,g1,g2,g3⟩
 ·exfalso;have:=g2 (pv i) (by rw[zK];lia);rw[jo (by lia),ha]at this;exact absurd this<|by decide
 ·rw[zK]at hj;rw[jo hj]at g2;have e:j=pv i:=by
   rcases Nat.lt_trichotomy j (pv i)with h1|h1|h1
   ·rw[h.ld i hi j h1]at g2;exact absurd g2<|by decide
   ·exact h1
   ·have:=g3 (pv i) h1;rw[jo (by lia),ha]at this;exact absurd this<|by decide
  rw[za g1,e]
def dk(n:Nat)(pv:Nat->Nat)(c:Nat):Bool:=(xbc n).all fun i=> !xap (pv i) c
theorem aZ{n c:Nat}{pv:Nat->Nat}:dk n pv c=true↔∀i,i<n->pv i≠c:=by grind [dk,xaR,Nat.beq_refl,xap,xcL]
theorem FX{n c:Nat}{pv:Nat->Nat}(h:re p N w M A n c0 pv)(hN:N<=64)(hw:w<=64)(hf:3000000<=fu):xr fu (ky n w A) (fun z=>vd fu z (c:Int))=some (!dk n pv c):=by
 have hn:=h.hn;unfold xr;have ha:∀i,i<n->vd fu (zl w<|A i) (c:Int)=some (decide<|pv i=c):=fun i hi=>by
  unfold vd;rw[za<|Ux h hi hw hf];by_cases e:pv i=c
  ·rw[zN,decide_eq_true e]
  ·rw[zy,decide_eq_false e]
 obtain⟨b,hb⟩:∃b:List Int->Bool,b=fun z=>match vd fu z (c:Int)with
  |some x=>x
  |none=>false:=⟨_,rfl⟩
 have hc:∀i,i<n->b (zl w<|A i)=decide (pv i=c):=fun i hi=>by rw[hb];simp only[ha i hi]
 have hg:∀z∈ky n w A,(fun z=>vd fu z (c:Int)) z=some (b z):=fun z hz=>by
  obtain⟨i,hi,rfl⟩:=xal.1 hz;have hd:=xbf.1 hi;show vd fu (zl w<|A i) (c:Int)=_;rw[ha i hd,hc i hd]
 rcases H9 (fu:=fu) hg (by rw[kI];lia) hf with⟨g1,g2⟩|⟨i,hi,g1,g2,g3⟩
 ·rw[za g1,ir<|by decide];have:dk n pv c=true:=aZ.2 fun i hi e=>by
   have:=g2 _ (xbL (xbf.2 hi):zl w (A i)∈ky n w A);rw[hc i hi,decide_eq_true e]at this;cases this
  rw[this];rfl
 ·rw[kI]at hi;rw[vt hi,hc i hi]at g2;rw[za g1,zN];have:dk n pv c=false:=by
   cases he:dk n pv c with
   |false=>rfl
   |true=>exact absurd (of_decide_eq_true g2)<|aZ.1 he i hi
  rw[this];rfl
def nF(p:Int)(A:Nat->Pz)(pv:Nat->Nat)(c:Nat):Nat->Pz
 |0=>fun k=>if k=c then 1 else 0
 |i+1=>Zl (nF p A pv c i) (pv i) (-A i c%p)
theorem zhe{n c:Nat}{pv:Nat->Nat}{t2:List (List Int)}{i4:Int}(h1:2<=p)(h2:p<=65521)(h:re p N w M A n c0 pv)(hN:N<=64)(hw:w<=64)(hc:c<w)(hf:3000000<=fu):
 zg (QC fu (c:Int) (w:Int) p (ky n w A) i4) fu (0,t2,zl w<|nF p A pv c 0)=some (t2,zl w<|nF p A pv c n):=by
 have hn:=h.hn;have hd:=h.hc;refine zx (fun s:Int×List (List Int)×List Int=>∃i:Nat,i<=n/\s=((i:Int),t2,zl w<|nF p A pv c i)) (fun s=>n-s.1.toNat) _ ?_ _ _ ⟨0,xah _,rfl⟩ (by show n-0<fu;lia);rintro s L ⟨i,hi,rfl⟩ ih;unfold QC;simp only;have hb:∀{β:Type} (x:β) (k:β->Option (List (List Int)×List Int)),bd (some x) k=k x:=fun _ _=>rfl;by_cases ha:i<n
 ·have he:=h.lt i ha;obtain⟨a1,a2⟩:=h.rg i (by lia) c;rw[iq (by rw[kI];lia),hb];simp only[if_true];rw[zp (by rw[kI];exact ha),zf,vt ha,za<|Ux h ha hw hf,zp (by rw[zK];exact hc),zf,vT hc,zb,za<|u6 (by lia) h2 ⟨by lia,by lia⟩,zp (by rw[zK];lia),zf,jS,zb];refine ih _ ⟨i+1,by lia,?_⟩ (by show n-((i:Int)+1).toNat<n-(i:Int).toNat;lia);rw[Int.zero_sub];rfl
 ·rw[ir (by rw[kI];lia),hb];simp only[xak,if_false];obtain rfl:i=n:=by lia
  rfl
def dQ(n:Nat)(pv:Nat->Nat)(w:Nat):List Nat:=(xbc w).filter<|dk n pv
theorem tQ(n:Nat)(pv:Nat->Nat)(w:Nat):dQ n pv (w+1)=if dk n pv w=true then dQ n pv w++[w]else dQ n pv w:=by grind [dQ,dk,xdu]
theorem Tq(n:Nat)(pv:Nat->Nat)(w:Nat):(dQ n pv w).length<=w:=by
 have:=xfD (dk n pv)<|xbc w;rw[xcA]at this;exact this
theorem p8{m:List (List Int)}(hp:wz p=true)(hd:m.length=N)(hN:N<=64)(hm:∀r∈m,r.length=w/\Rl r)(hw:w<=64)(hf:3000000<=fu):
 ∃(A:Nat->Pz) (n c:Nat) (pv:Nat->Nat),Xk fu m (w:Int) p=some ((dQ n pv w).map fun c=>zl w<|nF p A pv c n,0)/\re p N w (fun i=>ci<|m.getD i []) A n c pv/\(n=N\/c=w):=by
 obtain⟨p1,p2⟩:=zn hp;obtain⟨A,n,c,pv,e1,e2,e3⟩:=fi (fu:=fu) hp hd hN hm hw hf;refine⟨A,n,c,pv,?_,e2,e3⟩;have hn:=e2.hn;unfold Xk;rw[za (v:=Sum.inl ())]
 ·simp only;rw[za e1];simp only;rw[za (v:=(dQ n pv w).map fun c=>zl w<|nF p A pv c n)];refine zx (fun s:List (List Int)×Int=>∃k:Nat,k<=w/\s=((dQ n pv k).map fun c=>zl w<|nF p A pv c n,(k:Int))) (fun s=>w-s.2.toNat) _ ?_ _ _ ⟨0,xah _,rfl⟩ (by show w-0<fu;lia);rintro s L ⟨k,hk,rfl⟩ ih;unfold bE;simp only;have ha:∀{β:Type} (x:β) (k:β->Option (List<|List Int)),bd (some x) k=k x:=fun _ _=>rfl;by_cases hb:k<w
  ·rw[zN,ha];simp only[if_true];rw[za<|FX (c:=k) e2 hN hw hf]
   cases hc:dk n pv k with
   |false=>
    rw[show(!false)=true from rfl,iq rfl,zb];refine ih _ ⟨k+1,by lia,?_⟩ (by show w-((k:Int)+1).toNat<w-(k:Int).toNat;lia);rw[tQ,ir<|by rw[hc];decide];rfl
   |true=>
    have he:=Tq n pv k;have hz:zl w (Zl (fun _=>0) k 1)=zl w (nF p A pv k 0):=yo fun j _=>by unfold Zl;rfl
    rw[show(!true)=false from rfl,ir (by decide),yE,yJ,zf,JF,zp (by rw[zK];exact hb),zf,jS,hz,za<|zhe (i4:=(w:Int)) p1 p2 e2 hN hw hb hf];simp only;rw[wC (by rw[xaP];simp;lia),zf,zb];refine ih _ ⟨k+1,by lia,?_⟩ (by show w-((k:Int)+1).toNat<w-(k:Int).toNat;lia);rw[tQ,iq hc,xbg];rfl
  ·rw[zy,ha];simp only[xak,if_false];obtain rfl:k=w:=by lia
   rfl
 ·rw[za<|J6 hp (by lia) (fun r hr=>(hm r hr).1) hw hf,iq rfl,zy,zy];by_cases h0:0<m.length
  ·have e4:=(hm _<|Zf h0 []).1;rw[zN,zf5 h0,zf,zN]
  ·rw[zy]
theorem eG{p:Int}{A:Nat->Pz}{pv:Nat->Nat}{c k:Nat}:∀{n:Nat},(∀i,i<n->pv i≠k)->nF p A pv c n k=if k=c then 1 else 0
 |0,_=>rfl
 |n+1,h=>by
  show Zl (nF p A pv c n) (pv n) _ k=_;unfold Zl;rw[ir<|fun e=>h n (by lia) e.symm];exact eG fun i hi=>h i<|by lia
theorem ox{p:Int}{A:Nat->Pz}{pv:Nat->Nat}{c i:Nat}:∀{n:Nat},i<n->(∀j,j<n->j≠i->pv j≠pv i)->nF p A pv c n (pv i)= -A i c%p
 |0,h,_=>by lia
 |n+1,h,hd=>by
  show Zl (nF p A pv c n) (pv n) _ (pv i)=_;unfold Zl;by_cases e:i=n
  ·rw[e,iq rfl]
  ·rw[ir<|fun e2=>hd n (by lia) (fun e3=>e e3.symm) e2.symm];exact ox (by lia) fun j hj ha=>hd j (by lia) ha
theorem re.pv_ne{n c:Nat}{pv:Nat->Nat}(h:re p N w M A n c pv){j:Nat}(hi:i<n)(hj:j<n)(ha:j≠i):pv j≠pv i:=fun e=>by
 have h1:=h.on i hi;have hn:=h.hn;have h2:=h.no j hj i (by lia) fun e2=>ha e2.symm;rw[e,h1]at h2;cases h2
theorem OQ{p:Int}(hp:2<=p){A:Nat->Pz}{pv:Nat->Nat}{c:Nat}:∀(n k:Nat),0<=nF p A pv c n k/\nF p A pv c n k<p
 |0,k=>by
  show 0<=(if k=c then(1:Int)else 0)/\(if k=c then(1:Int)else 0)<p;split<;>lia
 |n+1,k=>by
  show 0<=Zl (nF p A pv c n) (pv n) (-A n c%p) k/\Zl (nF p A pv c n) (pv n) (-A n c%p) k<p;unfold Zl;split
  ·exact yc
  ·exact OQ hp n k
theorem O4(n:Nat)(pv:Nat->Nat)(F:Nat->Int):∀w,zX (dQ n pv w).length (fun j=>F<|(dQ n pv w).getD j 0)=zX w fun c=>if dk n pv c=true then F c else 0
 |0=>rfl
 |w+1=>by
  have ih:=O4 n pv F w;show _=zX w _+(if dk n pv w=true then F w else 0);rw[tQ];by_cases h:dk n pv w=true
  ·rw[iq h,iq h,xax,<-ih];show zX ((dQ n pv w).length) _+F ((dQ n pv w++[w]).getD (dQ n pv w).length 0)=_;congr 1
   ·exact zV fun j hj=>by rw[H1,H1,xbq hj]
   ·rw[H1,xcn<|xab _,xda];rfl
  ·rw[ir h,ir h,ih,xbD]
theorem zbe{n c:Nat}{pv:Nat->Nat}(h:re p N w M A n c pv)(hi:i<n)(e:Nat->Int):dt w (A i) e=e (pv i)+zX w fun k=>if dk n pv k=true then A i k*e k else 0:=by
 have hd:=h.lt i hi;have he:=h.hc;have hn:=h.hn;have h1:dt w (A i) e=zX w (fun k=>(if k=pv i then e k else 0)+if dk n pv k=true then A i k*e k else 0):=by
  refine zV fun k hk=> ?_;by_cases e1:k=pv i
  ·have hf:dk n pv k≠true:=fun hf=>aZ.1 hf i hi e1.symm;rw[iq e1,ir hf,e1,h.on i hi,xca,xbD]
  ·rw[ir e1];by_cases hf:dk n pv k=true
   ·rw[iq hf,xcD]
   ·rw[ir hf,xbD];obtain⟨j,hj,ha⟩:∃j,j<n/\pv j=k:=by
     apply xae;intro hb;exact hf<|aZ.2 fun j hj ha=>hb ⟨j,hj,ha⟩
    have hc:i≠j:=fun e2=>by rw[<-e2]at ha;exact e1 ha.symm
    rw[<-ha,h.no j hj i (by lia) hc,xaS]
 rw[h1,Zo,xU (i:=pv i)<|fun k hk=>ir hk,zN,iq rfl]
theorem zhV(hp:2<=p){n:Nat}{pv:Nat->Nat}(h:re p N w M A n c0 pv)(hb:n=N\/c0=w){c:Nat}(hc:c<w)(hd:dk n pv c=true):Kr p N w M (nF p A pv c n):=(h.kr _).1 fun i hi=>by
 by_cases ha:i<n
 ·rw[zbe h ha,ox ha fun j hj hg=>h.pv_ne (i:=i) (j:=j) ha hj hg];have h2:zX w (fun k=>if dk n pv k=true then A i k*nF p A pv c n k else 0)=A i c:=by
   rw[zV (g:=fun k=>if k=c then A i k else 0) fun k hk=>by
    by_cases hf:dk n pv k=true
    ·rw[iq hf,eG<|aZ.1 hf];by_cases e:k=c
     ·rw[iq e,iq e,xck]
     ·rw[ir e,ir e,xau]
    ·rw[ir hf];by_cases e:k=c
     ·rw[e]at hf;exact absurd hd hf
     ·rw[ir e],xU (i:=c)<|fun k hk=>ir hk,iq hc,iq rfl]
  rw[h2];refine xaJ ?_;rw[Int.emod_add_emod,show-A i c+A i c=0 by lia,xag]
 ·rcases hb with he|he
  ·lia
  ·have:dt w (A i) (nF p A pv c n)=0:=by
    unfold dt;rw[yG fun k hk=>by rw[h.zr i (by lia) hi k (by lia),xaS]]
   rw[this];exact xcO _
theorem zdy(hp:2<=p){n:Nat}{pv:Nat->Nat}(h:re p N w M A n c0 pv){e:Nat->Int}(he:Kr p N w M e){k:Nat}(hk:k<w):
 e k%p=zX (dQ n pv w).length (fun j=>e ((dQ n pv w).getD j 0)*nF p A pv ((dQ n pv w).getD j 0) n k)%p:=by
 rw[O4 n pv (fun c=>e c*nF p A pv c n k) w];by_cases hf:dk n pv k=true
 ·congr 1;rw[zV (g:=fun c=>if c=k then e c else 0) fun c hc=>by
   rw[eG<|aZ.1 hf];by_cases e1:c=k
   ·rw[e1,iq hf,iq rfl,iq rfl,xck]
   ·rw[ir e1,ir (fun h:k=c=>e1 h.symm),xau,ite_self],xU (i:=k)<|fun c hc=>ir hc,iq hk,iq rfl]
 ·obtain⟨i,hi,rfl⟩:∃i,i<n/\pv i=k:=by
   apply xae;intro hb;exact hf<|aZ.2 fun j hj hd=>hb ⟨j,hj,hd⟩
  have hn:=h.hn;have h1:=(h.kr e).2 he i (by lia);rw[zbe h hi]at h1;have h2:zX w (fun c=>if dk n pv c=true then e c*nF p A pv c n (pv i)else 0)%p=(-(zX w fun k=>if dk n pv k=true then A i k*e k else 0))%p:=by
   have h3: -(zX w fun k=>if dk n pv k=true then A i k*e k else 0)=zX w fun k=> -1*(if dk n pv k=true then A i k*e k else 0):=by rw[jT];lia
   rw[h3];refine aB fun c hc=> ?_;by_cases ha:dk n pv c=true
   ·rw[iq ha,iq ha,ox hi fun j hj hg=>h.pv_ne (i:=i) (j:=j) hi hj hg,xbr,xaF,<-xbr];congr 1;grind
   ·rw[ir ha,ir ha,xau]
  rw[h2];refine xaE.2<|xaB ?_;rw[Int.sub_neg];exact h1
end
section
variable{N w r fu P:Nat}{R:Nat->Pz}{m:List Int}
theorem CR(h:r<N):(([]:List Int)::ky N w R).getD (r+1) []=zl w (R r):=vt h
theorem zaj{g:Pz}:(([]:List Int)::ky N w R).set (r+1) (zl w g)=[]::ky N w fun s=>if s=r then g else R s:=by grind [ky,zl,E4]
theorem zhf{c:Nat}{h:List Int}(hw:w<=64)(hc:c<w)(hl:h.length<=w)(cI:Int)(ha:cI=(c:Int))(hf:3000000<=fu):
 zg (fun L (y:(List (List Int)×List Nat)×Int)=>
 if y.2<(h.length:Int)then
  zG y.2 h.length fun j=>
  nm (h.getD j 0) fun v=>
  zG y.2 y.1.2.length fun j=>
  nm (y.1.2.getD j 0) fun r=>
  zG cI (y.1.1.getD r []).length fun j=>
  nm (y.1.1.set r<|(y.1.1.getD r []).set j v) fun yss=>
  ze (y.2+1) fun i=>L ((yss,y.1.2),i)
 else some y.1) fu (([]::ky w w R,Jg w fun i=>i+1),0)=some ([]::ky w w fun s=>if s<h.length then Zl (R s) c (ci h s)else R s,Jg w fun i=>i+1):=by
 subst ha;refine zx (fun y:(List (List Int)×List Nat)×Int=>∃i:Nat,i<=h.length/\y=(([]::ky w w fun s=>if s<i then Zl (R s) c (ci h s)else R s,Jg w fun i=>i+1),(i:Int))) (fun y=>h.length-y.2.toNat) _ ?_ _ _ ⟨0,xah _,by rw[jq (R:=R) (S:=fun s=>if s<0 then Zl (R s) c (ci h s)else R s) fun s _ k _=>by rw[zy]];rfl⟩ (by show h.length-0<fu;lia);rintro y L ⟨i,hi,rfl⟩ ih;simp only;by_cases h1:i<h.length
 ·rw[zN,zp h1,zf,ZO,YO,yj,zf,kq,CR (by lia),zK,zp hc,zf,jS,zaj,zy,zb];refine ih _ ⟨i+1,by lia,?_⟩ (by show h.length-((i:Int)+1).toNat<h.length-(i:Int).toNat;lia);rw[jq (S:=fun s=>if s<i+1 then Zl (R s) c (ci h s)else R s) fun s _ k _=>by
   by_cases e:s=i
   ·rw[iq e,zN,e]
   ·rw[ir e];by_cases e2:s<i
    ·rw[iq e2,zN]
    ·rw[ir e2,zy]]
  rfl
 ·rw[zy];obtain rfl:i=h.length:=by lia
  rfl
def Wm(hs:Nat->List Int)(c:Nat):Nat->Pz:=fun i k=>if k<c then ci (hs k) i-(if i=k then 1 else 0)else 0
theorem sQ{a b:List Int}{p:Int}(hp:wz p=true)(ha:Fp p a)(hb:wx p b)(hc:a.length<=90000)(hd:b.length<=90000)(hf:3000000<=fu):
 ∃q r,qV fu a b p=some (q,r,0)/\Fp p r/\Cg p (ci a) (ci q*ci b+ci r)/\r.length<b.length:=by
 obtain⟨p1,p2⟩:=zn hp;have he:=hb.ln;obtain⟨q,r,e1,e2,e3,e4,e5,e6⟩:=xg (fu:=fu) hp ha hb.fm hb.ln hc hd hf;refine⟨q,r,?_,e3,e4,e5⟩;unfold qV;rw[za<|ku hp,iq rfl,za<|zF (by lia) p2 (hb.fm.rl p2) (by lia) hf,hb.fm.pm,zy,za<|zF (by lia) p2 (ha.rl p2) (by lia) hf,ha.pm,za e1]
def zbl(fu:Nat)(f:List Int)(p n:Int):(((List (List Int)×List Nat)×List Int×List Int×Int)->Option (List (List Int)×List Nat))->((List (List Int)×List Nat)×List Int×List Int×Int)->Option (List (List Int)×List Nat):=fun L (x:(List (List Int)×List Nat)×List Int×List Int×Int)=>if x.2.2.2<n then bd (zg (fun L (y:(List (List Int)×List Nat)×Int)=>if y.2<(x.2.1.length:Int)then zG y.2 x.2.1.length fun j=>nm (x.2.1.getD j 0) fun v=>zG y.2 y.1.2.length fun j=>nm (y.1.2.getD j 0) fun r=>zG x.2.2.2 (y.1.1.getD r []).length fun j=>nm (y.1.1.set r<|(y.1.1.getD r []).set j v) fun yss=>ze (y.2+1) fun i=>L ((yss,y.1.2),i)else some y.1) fu (x.1,0)) fun y=>zG x.2.2.2 y.2.length fun j=>nm (y.2.getD j 0) fun r=>zG x.2.2.2 (y.1.getD r []).length fun j=>nm ((y.1.getD r []).getD j 0) fun v=>ze (v-1) fun e=>zG x.2.2.2 (y.1.getD r []).length fun j=>nm (y.1.set r<|(y.1.getD r []).set j e) fun yss=>bd (q9 fu x.2.1 x.2.2.1 p) fun u=>bd (qV fu u.1 f p) fun w=>ze (x.2.2.2+1) fun i=>L ((yss,y.2),w.2.1,x.2.2.1,i)else some x.1
theorem zg9:((Jg N fun i=>i+1).map fun r=>(([]:List Int)::ky N w R).getD r [])=ky N w R:=by
 show((xbc N).map fun i=>i+1).map _=(xbc N).map _;rw[xcT];exact xci fun i hi=>CR<|xbf.1 hi
def FxI(P:Nat)(m x:List Int)(w:Nat)(y:(List (List Int)×List Nat)×List Int×List Int×Int):Prop:=
 ∃(hs:Nat->List Int) (c:Nat),y=(([]::ky w w (Wm hs c),Jg w fun i=>i+1),hs c,x,(c:Int))/\c<=w/\∀k,k<=c->Fp (P:Int) (hs k)/\(hs k).length<=w/\Em (P:Int) m (pp (pp vx P) k) (ci<|hs k)
theorem TW{x:List Int}(hp:wz (P:Int)=true)(hm:wx (P:Int) m)(hi:m.length=w+1)(hj:1<=w)(hw:w<=64)(hx:Fp (P:Int) x)(hl:x.length<=w)(hd:Em (P:Int) m (pp vx P) (ci x))(hf:3000000<=fu){y:(List (List Int)×List Nat)×List Int×List Int×Int}(hy:FxI P m x w y):
 ∃r,zg (zbl fu m P (w:Int)) fu y=some r/\∃hs:Nat->List Int,r=([]::ky w w (Wm hs w),Jg w fun i=>i+1)/\∀k,k<=w->Fp (P:Int) (hs k)/\(hs k).length<=w/\Em (P:Int) m (pp (pp vx P) k) (ci<|hs k):=by
 obtain⟨p1,p2⟩:=zn hp;refine yv (FxI P m x w) (fun y=>w-y.2.2.2.toNat) _ ?_ _ _ hy (by obtain⟨hs,c,rfl,_⟩:=hy;show w-(c:Int).toNat<fu;lia);rintro y L ⟨hs,c,rfl,hc,hI⟩ ih;unfold zbl;simp only;by_cases h1:c<w
 ·obtain⟨k1,k2,k3⟩:=hI c<|xab _;have hb:=k1.nn c;have hn:=k1.lt c;obtain⟨R,hR⟩:∃R:Nat->Pz,R=fun s=>if s<(hs c).length then Zl (Wm hs c s) c (ci (hs c) s)else Wm hs c s:=⟨_,rfl⟩;have ha:∀s,R s c=ci (hs c) s:=fun s=>by
   rw[hR];show(if s<(hs c).length then Zl (Wm hs c s) c (ci (hs c) s)else Wm hs c s) c=_;by_cases e:s<(hs c).length
   ·rw[iq e];exact iq rfl
   ·rw[ir e,zM<|by lia];exact zy
  have he:∀s k,k≠c->R s k=Wm hs c s k:=fun s k hk=>by
   rw[hR];show(if s<(hs c).length then Zl (Wm hs c s) c (ci (hs c) s)else Wm hs c s) k=_;by_cases e:s<(hs c).length
   ·rw[iq e];exact ir hk
   ·rw[ir e]
  have hg:=qC (P:Int) (hs c) x;obtain⟨q2,r2,d1,d2,d3,d4⟩:=sQ (fu:=fu) hp (vR (p:=(P:Int)) (by lia) (hs c) x) hm (by lia) (by lia) hf;rw[zN,za<|zhf (fu:=fu) (R:=Wm hs c) hw h1 k2 _ rfl hf,<-hR];simp only;rw[YO,zp h1,zf,kq h1,CR h1,zK,zp h1,zf,vT h1,ha,zb,zp h1,zf,jS,zaj,za<|j7 hp k1 hx,za d1];simp only;rw[zb];refine ih _ ⟨fun k=>if k=c+1 then r2 else hs k,c+1,?_,by lia,fun k hk=> ?_⟩ (by show w-((c:Int)+1).toNat<w-(c:Int).toNat;lia)
  ·show _=((_,_),(if c+1=c+1 then r2 else hs (c+1)),x,_);rw[iq rfl,jq (S:=Wm (fun k=>if k=c+1 then r2 else hs k)<|c+1) fun s ho k hk=>by
    show(if s=c then Zl (R c) c (ci (hs c) c-1)else R s) k=if k<c+1 then ci (if k=c+1 then r2 else hs k) s-(if s=k then 1 else 0)else 0;by_cases e1:k=c
    ·rw[e1,show(if c<c+1 then ci (if c=c+1 then r2 else hs c) s-(if s=c then(1:Int)else 0)else 0)=ci (hs c) s-(if s=c then(1:Int)else 0)by rw[zN,zy]];by_cases e2:s=c
     ·rw[iq e2,iq e2,e2];exact iq rfl
     ·rw[ir e2,ir e2,ha,xcE]
    ·have e3:(if s=c then Zl (R c) c (ci (hs c) c-1)else R s) k=R s k:=by
      by_cases e2:s=c
      ·rw[iq e2,e2];exact ir e1
      ·rw[ir e2]
     rw[e3,he s k e1];unfold Wm;by_cases e4:k<c
     ·rw[iq e4,show(if k<c+1 then ci (if k=c+1 then r2 else hs k) s-(if s=k then(1:Int)else 0)else 0)=ci (hs k) s-(if s=k then(1:Int)else 0)by rw[zN,zy]]
     ·rw[ir e4,ir (show¬k<c+1 by lia)]]
   rfl
  ·show Fp (P:Int) (if k=c+1 then r2 else hs k)/\(if k=c+1 then r2 else hs k).length<=w/\Em (P:Int) m (pp (pp vx P) k) (ci (if k=c+1 then r2 else hs k));by_cases e:k=c+1
   ·rw[iq e,e];refine⟨d2,by lia,?_⟩;show Em (P:Int) m (pp (pp vx P) c*pp vx P) (ci r2);exact(Em.mul ((Fs.vx.pp P).pp c) (Fs.ci x) k3 hd).trans<|(Em.cg (kK (P:Int) (hs c) x).symm).trans<|Em.rest d3
   ·rw[ir e];exact hI k<|by lia
 ·rw[zy];obtain rfl:c=w:=by lia
  exact⟨_,rfl,hs,rfl,hI⟩
theorem fI(hp:wz (P:Int)=true)(hm:wx (P:Int) m)(ha:m.length=w+1)(hb:1<=w)(hw:w<=64)(hf:3000000<=fu):
 ∃hs:Nat->List Int,Zs fu m P=bd (Xk fu (ky w w<|Wm hs w) (w:Int) P) (fun r=>some r.1)/\∀k,k<=w->Fp (P:Int) (hs k)/\(hs k).length<=w/\Em (P:Int) m (pp (pp vx P) k) (ci<|hs k):=by
 obtain⟨p1,p2⟩:=zn hp;have cx:ci [0,1]=vx:=by
  funext k
  match k with
  |0=>rfl
  |1=>rfl
  |k+2=>rw[zM<|by simp];exact(show(if k+2=1 then(1:Int)else 0)=0 from zy).symm
 have fx:Fp (P:Int) [0,1]:=⟨fun k=>by rw[cx];show 0<=(if k=1 then(1:Int)else 0);split<;>lia,fun k=>by rw[cx];show(if k=1 then(1:Int)else 0)<P;split<;>lia,.inr<|by decide⟩;have fo:Fp (P:Int) [1]:=Yq;obtain⟨x,x1,x2,x3,x4⟩:=Qi (fu:=fu) (w:=[0,1]) (a:=m) (E:=P) hp fx hm (by decide) (by lia) (by lia) (by lia) hf;rw[cx]at x4;have hc:ky w w (Wm (fun _=>[1]) 0)=ky w w (fun _ _=>0):=jq fun s _ k _=>zy;obtain⟨r,hr,hs,rfl,hI⟩:=TW (fu:=fu) hp hm ha hb hw x2 (by lia) x4 hf (y:=(([]::ky w w (Wm (fun _=>[1]) 0),Jg w fun i=>i+1),[1],x,0)) ⟨fun _=>[1],0,rfl,xah _,fun k hk=>⟨fo,by simp;lia,by
  obtain rfl:k=0:=by lia
  show Em (P:Int) m (pc 1) (ci [1]);rw[qk];exact Em.rfl⟩⟩
 rw[hc]at hr;refine⟨hs,?_,hI⟩;unfold Zs;rw[zb,show(m.length:Int)-1=(w:Int)by lia,yE,yJ,zf,za (v:=([]::ky w w (fun _ _=>0),Jg w fun i=>i+1))]
 ·rw[za<|z6 ⟨by lia,by lia⟩,za x1];show bd (zg (zbl fu m P (w:Int)) fu (([]::ky w w (fun _ _=>0),Jg w fun i=>i+1),[1],x,0)) _=_;rw[za hr];simp only;rw[zg9]
 ·have hd:xaf w 0=Jg w fun s=>if s<0 then s+1 else 0:=by
   unfold Jg;rw[show(fun s=>if s<0 then s+1 else 0)=fun _=>0 from funext fun s=>zy,List.map_const',xcA]
  rw[hd];refine zx (fun x:(List (List Int)×List Nat)×Int=>∃i:Nat,i<=w/\x=(([]::ky i w (fun _ _=>0),Jg w fun s=>if s<i then s+1 else 0),(i:Int))) (fun x=>w-x.2.toNat) _ ?_ _ _ ⟨0,xah _,rfl⟩ (by show w-0<fu;lia);rintro x L ⟨i,hi,rfl⟩ ih;simp only;rw[YO];by_cases h1:i<w
  ·rw[zN,yE,yJ,zf,JF,YO,zp h1,zf,xbI,GK i w<|fun _ _=>0,zf,oo,xaq,kI,zb];refine ih _ ⟨i+1,by lia,?_⟩ (by show w-((i:Int)+1).toNat<w-(i:Int).toNat;lia);have:(fun s=>if s=i then i+1 else if s<i then s+1 else 0)=fun s=>if s<i+1 then s+1 else 0:=funext fun s=>by
    by_cases e:s=i
    ·rw[iq e,zN,e]
    ·rw[ir e];by_cases e2:s<i
     ·rw[iq e2,zN]
     ·rw[ir e2,zy]
   rw[this];rfl
  ·rw[zy];obtain rfl:i=w:=by lia
   congr 2;unfold Jg;exact xci fun s hs=>iq<|xbf.1 hs
end
section
variable{m:List Int}{P w:Nat}
theorem Di.short{p:Int}(hp:2<=p)(hm:wx p m){f:Pz}(hf:∀k,m.length-1<=k->f k=0)(h:Di p (ci m) f):Cg p f (pc 0):=by
 obtain⟨q,fq,hc⟩:=h;have:=hm.mn.zero hp fq fun k hk=>by rw[<-hc k,hf k hk,xag]
 exact hc.trans<|this.mul_zero_r _
theorem Ej(F:Nat->Pz)(k:Nat):∀n,smP n F k=zX n fun i=>F i k
 |0=>by show pc 0 k=0;unfold pc;split<;>rfl
 |n+1=>by
  show(smP n F+F n) k=zX n (fun i=>F i k)+F n k;rw[zI,Ej F k n]
theorem Em.smP{p:Int}{a:List Int}{F G:Nat->Pz}:∀n,(∀i,i<n->Em p a (F i) (G i))->Em p a (smP n F) (smP n G)
 |0,_=>Em.rfl
 |n+1,h=>(Di.add (Em.smP n fun i hi=>h i<|by lia)<|h n<|by lia).cg (Cg.of (funext fun k=>by
  show(Go.Proofs.YtmggkmchbdanfaaGreat.smP n F k-Go.Proofs.YtmggkmchbdanfaaGreat.smP n G k)+(F n k-G n k)=(Go.Proofs.YtmggkmchbdanfaaGreat.smP n F k+F n k)-(Go.Proofs.YtmggkmchbdanfaaGreat.smP n G k+G n k);lia))
theorem Pw{hs:Nat->List Int}(hp:wz (P:Int)=true)(hm:wx (P:Int) m)(hb:m.length=w+1)(hI:∀k,k<=w->Fp (P:Int) (hs k)/\(hs k).length<=w/\Em (P:Int) m (pp (pp vx P) k) (ci<|hs k)){e:Pz}(he:∀k,w<=k->e k=0):
 Di (P:Int) (ci m) (pp e P-e)↔∀s,s<w->(P:Int)∣dt w (Wm hs w s) e:=by
 obtain⟨p1,p2⟩:=zn hp;have hn:=Ys hp;rw[xaK]at hn;let S:Pz:=smP w fun i=>pc (e i)*ci (hs i)
 have h1:Em (P:Int) m (pp e P) S:=(Em.cg<|zjf (by lia) hn he).trans<|Em.smP w fun i hi=>Em.mul (Fs.pc _) (Fs.ci _) Em.rfl (hI i<|by lia).2.2;have h2:∀k,w<=k->(S-e) k=0:=fun k hk=>by
  show S k-e k=0;rw[he k hk,show S k=zX w fun i=>(pc (e i)*ci (hs i)) k from Ej _ k w,yG fun i hi=>by rw[zE,zM (by have:=(hI i<|by lia).2.1;lia),xau]];rfl
 have h3:∀s,s<w->dt w (Wm hs w s) e=(S-e) s:=fun s ha=>by
  show zX w (fun k=>(if k<w then ci (hs k) s-(if s=k then 1 else 0)else 0)*e k)=S s-e s;rw[show S s=zX w fun i=>(pc (e i)*ci (hs i)) s from Ej _ s w,zV (g:=fun k=>(pc (e k)*ci (hs k)) s+(if k=s then-e k else 0)) fun k hk=>by
   rw[iq hk,zE];by_cases h:k=s
   ·rw[iq h.symm,iq h,xfR,xbm<|e k];lia
   ·rw[ir<|fun g=>h g.symm,ir h,xcE,xbD,xbm],Zo,xU (i:=s)<|fun k hk=>ir hk,iq ha,iq rfl]
  lia
 have h4:Di (P:Int) (ci m) (pp e P-e)↔Di (P:Int) (ci m) (S-e):=⟨fun h=>(h1.symm.trans (show Em _ _ _ e from h):Em _ _ _ e),fun h=>(h1.trans (show Em _ _ _ e from h):Em _ _ _ e)⟩;rw[h4];constructor
 ·intro h s ha;have:=Di.short (by lia) hm (fun k hk=>h2 k<|by lia) h;rw[h3 s ha];have h5:=this s;rw[zL,xag]at h5;exact xaJ h5
 ·intro h;refine(Di.zero _ _).cg fun s=> ?_;rw[zL,xag];symm;by_cases ha:s<w
  ·rw[<-h3 s ha];exact xaB<|h s ha
  ·rw[h2 s (by lia),xag]
theorem zd3(hp:wz (P:Int)=true):P=2\/P%2=1:=by
 obtain⟨p1,p2⟩:=zn hp;have hn:=Ys hp;rw[xaK]at hn;by_cases h:P=2
 ·exact .inl h
 ·have:=hn 2 (by lia);right;by_cases h4:4<=P
  ·have:=this (by lia);lia
  ·lia
theorem m8{fu:Nat}(hp:wz (P:Int)=true)(hm:wx (P:Int) m)(hg:m.length=w+1)(hu:1<=w)(hw:w<=64)(hf:3000000<=fu):
 ∃bs,Zs fu m P=some bs/\1<=bs.length/\bs.length<=w/\(∀v∈bs,Rl v/\v.length=w)/\Bs P m (fun i=>ci<|bs.getD i []) bs.length/\∃c:Int,Cg (P:Int) (ci<|bs.getD 0 []) (pc c):=by
 obtain⟨p1,p2⟩:=zn hp;obtain⟨hs,h1,hI⟩:=fI (fu:=fu) hp hm hg hu hw hf;have hR:∀s k,VE (Wm hs w s k):=fun s k=>by
  show VE (if k<w then ci (hs k) s-(if s=k then 1 else 0)else 0);by_cases h:k<w
  ·rw[iq h];have f:=(hI k<|by lia).1;have f1:=f.nn s;have f2:=f.lt s;split
   ·exact⟨by lia,by lia⟩
   ·exact⟨by lia,by lia⟩
  ·rw[ir h];exact⟨by lia,by lia⟩
 obtain⟨A,n,c,pv,e1,e2,e3⟩:=p8 (fu:=fu) (N:=w) (w:=w) (m:=ky w w<|Wm hs w) hp (kI _ _ _) hw (fun r hr=>by
  unfold ky at hr;obtain⟨s,_,rfl⟩:=xal.1 hr;refine⟨zK _ _,fun k=> ?_⟩;by_cases hk:k<w
  ·rw[jo hk];exact hR s k
  ·rw[zM<|by rw[zK];lia];exact⟨by lia,by lia⟩) hw hf
 have hK:∀e:Pz,Kr (P:Int) w w (fun i=>ci<|(ky w w<|Wm hs w).getD i []) e↔∀s,s<w->(P:Int)∣dt w (Wm hs w s) e:=fun e=>forall_congr' fun s=>imp_congr_right fun hb=>by rw[show dt w (ci<|(ky w w<|Wm hs w).getD s []) e=dt w (Wm hs w s) e from zV fun k hk=>by rw[vt hb,jo hk]]
 let F:Nat->List Int:=fun c=>zl w<|nF (P:Int) A pv c n
 have hn:∀i,i<(dQ n pv w).length->(dQ n pv w).getD i 0<w/\dk n pv ((dQ n pv w).getD i 0)=true:=fun i hi=>by
  rw[H1,xaa hi,xeQ];have:=xbn hi;have h2:=xcj.1 this;exact⟨xbf.1 h2.1,h2.2⟩
 have ha:∀i,i<(dQ n pv w).length->((dQ n pv w).map F).getD i []=F ((dQ n pv w).getD i 0):=fun i hi=>by rw[H1,H1,xaT,xaa hi];rfl
 have ho:∀i,i<w->(P:Int)∣A i 0:=by
  have h0:Kr (P:Int) w w A fun k=>if k=0 then 1 else 0:=(e2.kr _).2 ((hK _).2 fun s hb=>by
   show(P:Int)∣zX w fun k=>Wm hs w s k*(if k=0 then 1 else 0);rw[xU (i:=0) (fun k hk=>by rw[ir hk,xau]),zN,iq rfl,xck];show(P:Int)∣(if 0<w then ci (hs 0) s-(if s=0 then 1 else 0)else 0);rw[zN];have g:=(hI 0<|xah _).2.2;have g1:Cg (P:Int) (pc 1-ci (hs 0)) (pc 0):=Di.short (by lia) hm (fun k hk=>by
    rw[yz,zM (by have:=(hI 0<|xah _).2.1;lia)];show pc 1 k-0=0;unfold pc;rw[zy];rfl) g
   have g2:=g1 s;rw[yz,zL,xag]at g2;have g3:=xaJ g2;have g4:(pc 1 s:Int)=if s=0 then 1 else 0:=rfl;rw[g4]at g3;have:=xfQ.2 g3;rw[Int.neg_sub]at this;exact this)
  intro i hi;have:(P:Int)∣zX w fun k=>A i k*(if k=0 then 1 else 0):=h0 i hi;rw[xU (i:=0) (fun k hk=>by rw[ir hk,xau]),zN,iq rfl,xck]at this;exact this
 have hq:dk n pv 0=true:=aZ.2 fun i hi h=>by
  have h2:=e2.on i hi;rw[h]at h2;have h3:=ho i (by have:=e2.hn;lia);rw[h2]at h3;have:=Int.le_of_dvd (by lia) h3;lia
 have hx:∃l,dQ n pv w=0::l:=by
  obtain⟨u,rfl⟩:∃u,w=u+1:=⟨w-1,by lia⟩;unfold dQ;rw[List.range_succ_eq_map,xdk,iq hq];exact⟨_,rfl⟩
 obtain⟨l,hl⟩:=hx;refine⟨(dQ n pv w).map F,by rw[h1,za e1],by rw[hl];simp,by rw[xaP];exact Tq n pv w,fun v hv=> ?_,⟨zd3 hp,by lia,fun e he hd=> ?_,fun i hi k hk=> ?_,fun i hi=> ?_⟩,1,?_⟩
 ·obtain⟨c,_,rfl⟩:=xal.1 hv;refine⟨fun k=> ?_,zK _ _⟩;by_cases hk:k<w
  ·show VE (ci (zl w _) k);rw[jo hk];have:=OQ (p:=(P:Int)) (by lia) (A:=A) (pv:=pv) (c:=c) n k;exact⟨by lia,by lia⟩
  ·rw[zM (by show(zl w _).length<=k;rw[zK];lia)];exact⟨by lia,by lia⟩
 ·have ht:∀k,w<=k->e k=0:=fun k hk=>he k (by lia);refine⟨fun i=>e<|(dQ n pv w).getD i 0,fun k=> ?_⟩;rw[Ej,xaP];by_cases hk:k<w
  ·rw[zdy (by lia) e2 ((hK e).2<|(Pw hp hm hg hI ht).1 hd) hk];congr 1;refine zV fun i hi=> ?_;rw[zE,ha i hi];show _=_*ci (zl w _) k;rw[jo hk]
  ·rw[ht k (by lia),yG fun i hi=>by
    rw[zE,ha i hi];show _*ci (zl w _) k=0;rw[zM (by rw[zK];lia),xau]]
 ·rw[xaP]at hi;rw[ha i hi];exact zM (by show(zl w _).length<=k;rw[zK];lia)
 ·rw[xaP]at hi;have hz:∀k,w<=k->ci (((dQ n pv w).map F).getD i []) k=0:=fun k hk=>by
   rw[ha i hi];exact zM (by show(zl w _).length<=k;rw[zK];lia)
  refine(Pw hp hm hg hI hz).2<|(hK _).1 ?_;have:=zhV (by lia) e2 e3 (hn i hi).1 (hn i hi).2;intro s hb;have h2:=this s hb;rw[show dt w _ (ci<|((dQ n pv w).map F).getD i [])=dt w _ (nF (P:Int) A pv ((dQ n pv w).getD i 0) n)from zV fun k hk=>by
   rw[ha i hi];show _*ci (zl w _) k=_;rw[jo hk]]
  exact h2
 ·intro k;rw[ha 0 (by rw[hl];simp),hl];show ci (zl w<|nF (P:Int) A pv 0 n) k%P=(if k=0 then(1:Int)else 0)%P;by_cases hk:k<w
  ·rw[jo hk];by_cases hc:dk n pv k=true
   ·rw[eG<|aZ.1 hc]
   ·have:∃i,i<n/\pv i=k:=xae fun h=>hc<|aZ.2 fun i hi h2=>h ⟨i,hi,h2⟩;obtain⟨i,hi,rfl⟩:=this;rw[ox hi fun j hj hy=>e2.pv_ne (i:=i) (j:=j) hi hj hy];have h0:pv i≠0:=fun h=>by rw[h]at hc;exact hc hq
    rw[ir h0,xag];have h5:=ho i (by have:=e2.hn;lia);exact xaB<|xaJ<|by rw[xcF _<|xdP _];exact xaB<|xfQ.2 h5
  ·rw[zM (by rw[zK];lia),zy]
end
section
section
variable{α:Type}
def iB1(d:α)(cmp:α->α->Option Int):((Int×Int×Int×List α)->Option (Int×Int×List α))->(Int×Int×Int×List α)->Option (Int×Int×List α):=fun L (i2,i3,i4,t2)=>
 if i2<i4 then
 zG i4 (t2.length) fun j1=>
 nm ((t2.getD j1 d)) fun t3=>
 ze (i4-(1:Int)) fun x2=>
 zG x2 (t2.length) fun j2=>
 nm ((t2.getD j2 d)) fun t4=>
 bd (cmp t3 t4) fun x3=>
 if x3<(0:Int)then
 ze (i4-(1:Int)) fun x4=>
 ze (i4-(1:Int)) fun x5=>
 zG x5 (t2.length) fun j3=>
 nm ((t2.getD j3 d)) fun t5=>
 zG i4 (t2.length) fun j4=>
 nm ((t2.getD j4 d)) fun t6=>
 zG i4 (t2.length) fun j5=>
 nm (t2.set j5 t5) fun t7=>
 zG x4 (t7.length) fun j6=>
 nm (t7.set j6 t6) fun t8=>
 ze (i4-(1:Int)) fun x6=>
 L (i2,i3,x6,t8)
 else
 some (i2,i3,t2)
 else
 some (i2,i3,t2)
def iB0(fu:Nat)(d:α)(a1 a2:Int)(cmp:α->α->Option Int):((Int×List α)->Option (List α))->(Int×List α)->Option (List α):=fun L (i1,t1)=>
 if i1<a2 then
 bd (zg (iB1 d cmp) fu (a1,a2,i1,t1)) fun(i5,i6,t9)=>
 ze (i1+(1:Int)) fun x7=>
 L (x7,t9)
 else
 some t1
structure Od3(c:α->α->Int)(S:α->Prop):Prop where
 tr:∀x y z,S x->S y->S z->¬c y x<0->¬c z y<0->¬c z x<0
 an:∀x y,S x->S y->c x y<0->¬c y x<0
theorem Mx(d x:α):∀(a b:List α),(a++x::b).getD a.length d=x
 |[],_=>rfl
 |_::a,b=>Mx d x a b
theorem Ey(d y x:α):∀(a b:List α),(a++y::x::b).getD (a.length+1) d=x
 |[],_=>rfl
 |_::a,b=>Ey d y x a b
theorem zcT(x z:α):∀(a b:List α),(a++x::b).set a.length z=a++z::b
 |[],_=>rfl
 |h::a,b=>congrArg (h:: ·)<|zcT x z a b
theorem Pg(y x z:α):∀(a b:List α),(a++y::x::b).set (a.length+1) z=a++y::z::b
 |[],_=>rfl
 |h::a,b=>congrArg (h:: ·)<|Pg y x z a b
theorem NR{l:List α}(h:0<l.length):∃a y,l=a++[y]:=⟨l.dropLast,l.getLast (fun e=>by rw[e]at h;exact absurd h<|Nat.lt_irrefl _),(List.dropLast_concat_getLast _).symm⟩
theorem zkw{fu:Nat}{d:α}{cmp:α->α->Option Int}{c:α->α->Int}{S:α->Prop}(hc:∀x y,S x->S y->cmp x y=some (c x y)){s rest:List α}{x:α}(hs:∀y∈s,S y)(hx:S x)(hn:(s++x::rest).length<=1000)(hf:3000000<=fu){N:Int}:
 ∃r,zg (iB1 d cmp) fu (0,N,(s.length:Int),s++x::rest)=some r/\∃r1 r2,s=r1++r2/\r=(0,N,r1++x::(r2++rest))/\(∀y∈r2,c x y<0)/\∀a y,r1=a++[y]->¬c x y<0:=by
 rw[xax,xaq]at hn;refine yv (fun t:Int×Int×Int×List α=>∃r1 r2,s=r1++r2/\t=(0,N,(r1.length:Int),r1++x::(r2++rest))/\∀y∈r2,c x y<0) (fun t=>t.2.2.1.toNat) _ ?_ fu _ ⟨s,[],(xbR s).symm,rfl,fun y hy=>by simp at hy⟩ (by show(s.length:Int).toNat<fu;lia);rintro t L ⟨r1,r2,e,rfl,hI⟩ ih;unfold iB1;simp only;have hl:s.length=r1.length+r2.length:=by rw[e,xax]
 by_cases h:0<r1.length
 ·obtain⟨a,y,rfl⟩:=NR h;have ha:(a++[y]).length=a.length+1:=by simp
  have h1:a++[y]++x::(r2++rest)=a++y::x::(r2++rest):=by simp
  have h2:(a++y::x::(r2++rest)).length=a.length+2+r2.length+rest.length:=by simp;lia
  have hy:S y:=hs y (by rw[e];simp);rw[h1,ha,zN,h2,yj,zf,Ey,zb,show((a.length+1:Nat):Int)-1=(a.length:Int)by lia,yj,zf,Mx,za<|hc x y hx hy];by_cases h3:c x y<0
  ·rw[iq h3,zb,zb,yj,zf,Mx,yj,zf,Ey,yj,zf,Pg,xax,zp (by simp),zf,zcT,zb];refine ih _ ⟨a,y::r2,by rw[e];simp,rfl,fun z hz=> ?_⟩ (by show(a.length:Int).toNat<((a++[y]).length:Int).toNat;lia);rcases xac.1 hz with rfl|hz
   ·exact h3
   ·exact hI z hz
  ·rw[ir h3];refine⟨_,rfl,a++[y],r2,e,by rw[h1],hI,fun b z hz=> ?_⟩;have:=List.append_inj' hz rfl;rw[List.singleton_inj.1 this.2]at h3;exact h3
 ·rw[zy];obtain rfl:r1=[]:=xbF.1 (by lia);exact⟨_,rfl,[],r2,e,rfl,hI,fun b z hz=>by
   have:=congrArg xaI hz;simp at this⟩
theorem zci{fu:Nat}{d:α}{cmp:α->α->Option Int}{c:α->α->Int}{S:α->Prop}(hc:∀x y,S x->S y->cmp x y=some (c x y)){t:List α}(hS:∀y∈t,S y)(hn:t.length<=1000:=by lia)(hf:3000000<=fu:=by lia):
 ∃r,zg (iB0 fu d 0 (t.length:Int) cmp) fu (1,t)=some r/\r.Perm t/\(Od3 c S->r.Pairwise fun a b=>¬c b a<0):=by
 cases t with
 |nil=>
  refine yv (fun x:Int×List α=>x=(1,[])) (fun _=>0) _ ?_ fu _ rfl (by lia);rintro x L rfl ih;exact⟨[],rfl,xdE _,fun _=>xfn⟩
 |cons z t=>
  refine yv (fun x:Int×List α=>∃s rest,x=((s.length:Int),s++rest)/\(s++rest).Perm (z::t)/\(Od3 c S->s.Pairwise fun a b=>¬c b a<0)) (fun x=>(z::t).length-x.1.toNat) _ ?_ fu _ ⟨[z],t,rfl,xdE _,fun _=>List.pairwise_singleton _ _⟩ (by show(z::t).length-1<fu;lia);rintro x L ⟨s,rest,rfl,hP,hO⟩ ih;unfold iB0;simp only;have hl:=hP.length_eq;rw[xax]at hl;have hm:∀y∈s++rest,S y:=fun y hy=>hS y<|hP.mem_iff.1 hy
  cases rest with
  |nil=>
   rw[ir<|by simp at hl;simp;lia];rw[xbR]at hP;exact⟨s,by rw[xbR],hP,hO⟩
  |cons x rest=>
   rw[xaq]at hl;rw[zN];have hs:∀y∈s,S y:=fun y hy=>hm y<|xdB _ hy;have hx:S x:=hm x (by simp);obtain⟨r,e1,r1,r2,rfl,rfl,h2,h3⟩:=zkw (fu:=fu) (d:=d) (N:=((z::t).length:Int)) (rest:=rest) hc hs hx (by rw[xax,xaq];lia) hf;rw[za e1];simp only;rw[zb];have hq:(r1++x::(r2++rest)).Perm (r1++r2++x::rest):=by
    rw[xaj];refine xcf r1 ?_;rw[<-xbI];have:(x::r2++rest).Perm (r2++x::rest):=xct.symm;exact this
   refine ih _ ⟨r1++x::r2,rest,?_,?_,fun ho=> ?_⟩ ?_
   ·rw[show(((r1++x::r2).length:Nat):Int)=((r1++r2).length:Int)+1 by simp;lia,xaj,xbI]
   ·rw[xaj,xbI];exact hq.trans hP
   ·have hp:=xdj.1<|hO ho;have hd:∀y∈r1,¬c x y<0:=fun y hy=>by
     obtain⟨a,w,rfl⟩:=NR<|xfm hy;have hw:=h3 a w rfl;rcases Nm.1 hy with h|h
     ·have h5:=xdj.1 hp.1;exact ho.tr y w x (hs y<|by simp[h]) (hs w<|by simp) hx (h5.2.2 y h w<|by simp) hw
     ·rw[xai.1 h];exact hw
    refine xdj.2 ⟨hp.1,xbJ.2 ⟨fun y hy=>ho.an x y hx (hs y<|by simp[hy])<|h2 y hy,hp.2.1⟩,fun a ha b hb=> ?_⟩;rcases xac.1 hb with rfl|hb
    ·exact hd a ha
    ·exact hp.2.2 a ha b hb
   ·show(z::t).length-(((r1++r2).length:Int)+1).toNat<(z::t).length-((r1++r2).length:Int).toNat;lia
end
theorem zjR(cmp:List Int->List Int->Option Int)(f:Nat):wJ f cmp=iB1 [] cmp:=by
 funext L ⟨_,_,_,_⟩;rfl
theorem zkk(cmp:List Int->List Int->Option Int)(f:Nat)(a b:Int):xf f a b cmp=iB0 f [] a b cmp:=by grind [xf,iB0,zjR]
theorem AL{fu:Nat}{cmp:List Int->List Int->Option Int}{c:List Int->List Int->Int}{S:List Int->Prop}(hc:∀x y,S x->S y->cmp x y=some (c x y)){t:List (List Int)}(hS:∀y∈t,S y)(hn:t.length<=12)(hf:3000001<=fu):
 ∃r,xC fu t cmp=some r/\r.Perm t/\(Od3 c S->r.Pairwise fun a b=>¬c b a<0):=by
 obtain⟨g,rfl⟩:∃g,fu=g+2:=⟨fu-2,by lia⟩;obtain⟨r,h1,h2,h3⟩:=zci (fu:=g+1) (d:=[]) hc hS;refine⟨r,?_,h2,h3⟩;unfold xC jm;rw[zf,za<|za<|vY<|by unfold gI;lia];refine za (v:=r)<|za (v:=r) ?_;rw[jc];unfold vW;simp only;rw[zb,zN];refine za (v:=r) ?_;unfold xo;rw[zb,zkk];exact za (v:=r) h1
theorem ziE(cmp:List Zr->List Zr->Option Int)(f:Nat):xL f cmp=iB1 [] cmp:=by
 funext L ⟨_,_,_,_⟩;rfl
theorem zkj(cmp:List Zr->List Zr->Option Int)(f:Nat)(a b:Int):yU f a b cmp=iB0 f [] a b cmp:=by grind [yU,iB0,ziE]
theorem Dd{fu:Nat}{cmp:List Zr->List Zr->Option Int}{c:List Zr->List Zr->Int}{S:List Zr->Prop}(hc:∀x y,S x->S y->cmp x y=some (c x y)){t:List (List Zr)}(hS:∀y∈t,S y)(hn:t.length<=12)(hf:3000001<=fu):
 ∃r,yn fu t cmp=some r/\r.Perm t/\(Od3 c S->r.Pairwise fun a b=>¬c b a<0):=by
 obtain⟨g,rfl⟩:∃g,fu=g+2:=⟨fu-2,by lia⟩;obtain⟨r,h1,h2,h3⟩:=zci (fu:=g+1) (d:=[]) hc hS;refine⟨r,?_,h2,h3⟩;unfold yn jm;rw[zf,za<|za<|vY<|by unfold gI;lia];refine za (v:=r)<|za (v:=r) ?_;rw[jc];unfold wZ;simp only;rw[zb,zN];refine za (v:=r) ?_;unfold y8;rw[zb,zkj];exact za (v:=r) h1
end
section
variable{p:Int}{m a:List Int}{fu:Nat}
theorem fT{p:Int}:∀{l1 l2:List Pz},List.Sublist l1 l2->(∀w∈l2,Fs w)->Di p (prZ l1) (prZ l2)
 |_,_,.slnil,_=>Di.refl _ _
 |_,_,.cons a h,hf=>Di.mul a (hf a<|FS)<|fT h fun w hw=>hf w<|UV _ hw
 |_,_,.cons_cons a h,hf=>by
  obtain⟨q,fq,hc⟩:=fT (p:=p) h fun w hw=>hf w<|UV _ hw;refine⟨q,fq,((Cg.rfl (f:=a)).mul hc).trans<|Cg.of ?_⟩;exact zz _ _ _
theorem Fs.dvp{f:Pz}(h:Fs f):Fs (dvp f):=by
 obtain⟨n,hn⟩:=h;exact⟨n,fun k hk=>by show _*f (k+1)=0;rw[hn _ (by lia),xau]⟩
theorem vD.sq(hp:2<=p){u:List Int}(hu:X0 p u)(hc:vD p (ci m) (dvp<|ci m))(h:Di p (ci u*ci u) (ci m)):False:=by
 obtain⟨q,fq,hq⟩:=h;have h1:Di p (ci u) (ci m):=⟨q*ci u,fq.mul<|Fs.ci u,hq.trans<|Cg.of (zd _ _ _).symm⟩;have h2:Di p (ci u) (dvp<|ci m):=⟨dvp q*ci u+(q*dvp (ci u)+q*dvp (ci u)),(fq.dvp.mul<|Fs.ci u).add<|(fq.mul (Fs.ci u).dvp).add<|fq.mul (Fs.ci u).dvp,(zcn hq).trans<|Cg.of<|by rw[X8,X8,yg,yg,zd,zd,xy,zj (ci u)<|dvp<|ci u]⟩;obtain⟨s,t,fs,ft,ha⟩:=hc;exact hu.ne hp<|(Di.add (Di.mul s fs h1)<|Di.mul t ft h2).cg ha
theorem ziQ(hp:wz p=true)(hm:wx p m)(hl:m.length<=290)(hc:vD p (ci m) (dvp<|ci m)):∃us,Sf p m us:=by
 obtain⟨p1,p2⟩:=zn hp;obtain⟨us,h1,h2⟩:=zke hp m.length rfl hl hm;refine⟨us,hp,hm,hl,fun u hu=>⟨(h1 u hu).1,by have:=(h1 u hu).2;lia⟩,?_,h2⟩;refine xdl.2 fun{a b} hs=> ?_;have ha:a∈us:=hs.subset (by simp);have hb:b∈us:=hs.subset (by simp);refine(h1 a ha).1.cop hp (h1 b hb).1 (by have:=(h1 a ha).2;lia) (by have:=(h1 b hb).2;lia) fun hd=> ?_;subst hd;have:=fT (p:=p) (hs.map ci) JH;refine vD.sq p1 (h1 a ha).1 hc<|(Di.cg ?_ h2.symm);refine Di.trans ?_ this;refine⟨pc 1,Fs.pc 1,Cg.of ?_⟩;show ci a*(ci a*pc 1)=_;rw[zO,zt]
theorem fU(hp:wz p=true)(hm:wx p m)(hl:m.length<=290)(hf:3000000<=fu):∃b,qm fu m p=some (m,0)/\Za fu m p=some (b,0)/\(b=true↔vD p (ci m) (dvp<|ci m)):=by
 obtain⟨p1,p2⟩:=zn hp;have hc:=hm.ln;obtain⟨x,x0,x1,hx,e1⟩:=Yr (fu:=fu) hp hm.fm hm.ln (by lia) hf;rw[hm.top,xck,xaC (by lia) x1]at hx;subst hx;rw[Tw (by lia) hm.fm]at e1;obtain⟨g,s,t,g1,hR,g3⟩:=Vm (fu:=fu) hp hm.fm (zbY (p:=p) (by lia) m) (by lia) (by have:=zhI p m;lia) hf;have ha:vD p (ci m) (dvp<|ci m)↔g.length=1:=by
  rw[N3 p1 hR g3];exact⟨fun h=>h.congr Cg.rfl (zau p m).symm,fun h=>h.congr Cg.rfl<|zau p m⟩
 refine⟨decide<|g.length=1,e1,?_,by rw[ha];exact decide_eq_true_iff⟩;unfold Za X9;rw[za e1];simp only[if_true];rw[zy,za rfl];simp only[if_true];rw[za<|ia hp hm.fm (by lia) hf];simp only;rw[za g1];simp only;by_cases hb:g.length=1
 ·rw[zN,decide_eq_true hb]
 ·rw[zy,decide_eq_false hb]
theorem iQ(hp:wz p=true)(ha:Fp p a)(h0:0<a.length)(hl:a.length<=65)(hf:3000000<=fu):
 ∃m b,zan p a m/\wx p m/\Za fu m p=some (b,0)/\(b=true↔vD p (ci m) (dvp<|ci m))/\ju fu a p=if b=true then some (m,0)else some ([],1):=by
 obtain⟨p1,p2⟩:=zn hp;obtain⟨x,x0,x1,hx,e1⟩:=Yr (fu:=fu) hp ha h0 (by lia) hf;have hM:=IU p1 ha h0 hx;obtain⟨m,hb⟩:∃m,m=y3 p a [x]:=⟨_,rfl⟩;rw[<-hb]at hM e1;have hc:=hM.ln;have hm:wx p m:=⟨hM.fm,by lia,hM.top⟩;obtain⟨b,_,b1,b2⟩:=fU (fu:=fu) hp hm (by lia) hf;refine⟨m,b,hM,hm,b1,b2,?_⟩;unfold ju Jz;have e2:(bd (qm fu a p) fun(t1,x1)=>if x1=(0:Int)then if(t1.length:Int)=(0:Int)then some (([],(8:Int)))else if(65:Int)<(t1.length:Int)then some (([],(6:Int)))else some ((t1,(0:Int)))else some ([],x1))=some (m,0):=by
  rw[za e1];simp only;rw[iq trivial,zy,zy]
 rw[za e2];simp only;rw[iq trivial,za b1];simp only;cases b<;>rfl
theorem aO{b:List Int}(ha:a.length<=1000)(hb:b.length<=1000)(hf:3000000<=fu):∃c,wI fu a b=some c:=by
 unfold wI;by_cases h:a.length=b.length
 ·rw[zN,zb];obtain⟨r,hr,_⟩:=yv (f:=Yk fu a b) (fun i:Int=> -1<=i/\i<a.length) (fun i=>(i+1).toNat) (fun _=>True) (by
   rintro i L ⟨h1,h2⟩ ih;unfold Yk;by_cases h3:0<=i
   ·obtain⟨k,rfl⟩:=xaA h3;rw[iq h3,yj,zf,yj,zf];split
    ·exact⟨_,rfl,trivial⟩
    ·rw[yj,zf,yj,zf];split
     ·exact⟨_,rfl,trivial⟩
     ·rw[zb];exact ih _ ⟨by lia,by lia⟩<|by lia
   ·rw[ir h3];exact⟨_,rfl,trivial⟩) fu ((a.length:Int)-1) ⟨by lia,by lia⟩ (by lia)
  rw[za hr]
  cases r with
  |inl _=>exact⟨_,rfl⟩
  |inr i=>exact⟨i,rfl⟩
 ·rw[zy,zb];exact⟨_,rfl⟩
theorem Iv{l1 l2:List Pz}(h:l1.Perm l2):prZ l1=prZ l2:=by
 induction h with
 |nil=>rfl
 |cons x _ ih=>show x*prZ _=x*prZ _;rw[ih]
 |swap x y l=>show y*(x*prZ l)=x*(y*prZ l);rw[zz]
 |trans _ _ h1 h2=>rw[h1,h2]
theorem Rl.take{l:List Int}(h:Rl l)(n:Nat):Rl (l.take n):=fun k=>by
 by_cases hk:k<n
 ·have:ci (l.take n) k=ci l k:=by
   show(l.take n).getD k 0=l.getD k 0;rw[H1,H1,xcp,iq hk]
  rw[this];exact h k
 ·rw[zM<|by rw[xav];lia];exact⟨by lia,by lia⟩
theorem ni{P:Nat}{ds:List Int}(hp:wz (P:Int)=true)(ha:Fp (P:Int) a)(h0:1<a.length)(hl:a.length<=13)(hd:Rl ds)(hk:ds.length<=1000)(hf:3000001<=fu){b:Bool}(hM:zan (P:Int) a m)(hm:wx (P:Int) m)(hq:ju fu a P=some (m,0))(hc:vD (P:Int) (ci m) (dvp<|ci m)):
 ∃l us,ZN fu a P ds=some (l,0)/\Sf (P:Int) m us/\Pl (P:Int) m l/\∀g∈l,X0 (P:Int) g:=by
 obtain⟨p1,p2⟩:=zn hp;have hn:=hM.ln;obtain⟨us,hS⟩:=ziQ hp hm (by lia) hc;obtain⟨bs,e1,b1,b2,b3,hB,c,hb⟩:=m8 (fu:=fu) (w:=m.length-1) hp hm (by lia) (by lia) (by lia) (by lia);have ho:=hB.le hS;have he:Rl (ds.take<|min ds.length 64):=hd.take _;obtain⟨l,e2,e3,e4⟩:=gP (fu:=fu) (bs:=bs) (ds:=ds.take<|min ds.length 64) hS (by lia) (by lia) rfl b1 (by lia) he (by rw[xav];lia) (fun v hv=>⟨(b3 v hv).1,by have:=(b3 v hv).2;lia⟩) (by lia);have hi:=Pl.done hS hB e3 ⟨c,hb⟩ e4;obtain⟨vs,v1,v2,v3⟩:=hS.pick e3.mn<|(Di.refl _ _).cg e3.pr.symm;have hr:=UB v2 fun v hv=>(v3 v hv).1;have hj:∀g∈l,g.length<=290:=fun g hg=>hS.len (e3.mn g hg).1<|e3.dv hg;obtain⟨r,s1,s2,_⟩:=AL (fu:=fu) (cmp:=fun zx0 zx1=>wI fu zx0 zx1) (c:=fun x y=>(wI fu x y).getD 0) (S:=fun x=>x.length<=290) (fun x y hx hy=>by
  obtain⟨c,hc⟩:=aO (fu:=fu) (a:=x) (b:=y) (by lia) (by lia) (by lia);show wI fu x y=some ((wI fu x y).getD 0);rw[hc];rfl) (t:=l) hj (by lia) hf
 refine⟨r,us,?_,hS,⟨fun g hg=>e3.mn g<|s2.mem_iff.1 hg,e3.pr.trans ?_⟩,fun g hg=>hi g<|s2.mem_iff.1 hg⟩
 ·unfold ZN;rw[za hq];simp only;rw[iq trivial,zy,za e1,zf,show min (ds.length:Int) 64=((min ds.length 64:Nat):Int)by lia,yE,yJ,zf,za e2,za s1]
 ·exact Cg.of<|Iv<|s2.symm.map ci
end
section
variable{fu K:Nat}{a b:Zr}
def exI(x y:Int):Int:=if y=0 then 0 else if x%y=0 then x/y else 0
def exE(x y:Int):Int:=if y=0 then 3 else if x%y=0 then 0 else 4
theorem XN(ha:gK a)(hb:gK b)(hf:3000000<=fu):jh fu a b=some (yH<|exI (zv a)<|zv b,exE (zv a)<|zv b):=by
 unfold jh exI exE;rw[za<|QK ha hb hf];unfold zcO;by_cases h0:zv b=0
 ·rw[iq h0,iq h0,iq h0];rfl
 ·rw[ir h0,ir h0,ir h0];simp only[if_true];have hr:Bz b.2.length (zv a%zv b):=by
   unfold Bz;have h1:=xcV (zv a) h0;have h2:=Int.emod_lt (zv a) h0;have h3:=Bz.of hb.1;unfold Bz at h3;lia
  rw[za rfl,ir (by decide),za<|xe (hr.ok (by have:=hb.2;lia)) hf,zw];by_cases h1:zv a%zv b=0
  ·rw[iq<|wM.2 h1,iq h1,iq h1]
  ·rw[ir<|fun e=>h1<|wM.1 e,ir h1,ir h1];rfl
theorem zdA{n:Nat}(h:n<18446744073709551616^K):bl n<=64*K:=Qe<|by rw[xdf,pB];exact h
theorem a6(ha:zm a.2)(hb:zm b.2)(he:a.2.length<=K)(hi:b.2.length<=K)(hK:K<=10000)(hf:3000000<=fu):Vc fu a b=some (yH (xen (zv a).natAbs (zv b).natAbs:Nat)):=by
 unfold Vc;rw[za<|YN ha,za<|YN hb,kD,kD];have hA:nv a.2<18446744073709551616^K:=xan (qT ha)<|xay (by decide) he;have hB:nv b.2<18446744073709551616^K:=xan (qT hb)<|xay (by decide) hi;generalize nv a.2=A at*
 generalize nv b.2=B at*
 have hG:xen A B<18446744073709551616^K:=by
  by_cases h:A=0
  ·rw[h,Nat.gcd_zero_left];exact hB
  ·exact xba (Nat.gcd_le_left _<|by lia) hA
 have hc:∀{n:Nat},n<18446744073709551616^K->(yC n).length<=K:=fun{n} h=>(zJ _ _).2 h;rw[za (v:=yC<|xen A B)]
 ·have hl:=hc hG;rw[za (yp (zu _) (by lia)<|by lia),z7];rfl
 ·refine zx (fun s:List Nat×List Nat=>∃x y:Nat,s=(yC x,yC y)/\x<18446744073709551616^K/\y<18446744073709551616^K/\xen x y=xen A B) (fun s=>bl (nv s.1)+bl (nv s.2)+if nv s.1<nv s.2 then 1 else 0) _ ?_ _ _ ⟨A,B,rfl,hA,hB,rfl⟩ ?_
  ·rintro s L ⟨x,y,rfl,hx,hy,hg⟩ ih;unfold ef;simp only;have lx:=hc hx;have ly:=hc hy;by_cases h0:y=0
   ·subst h0;rw[ir<|by rw[QZ];decide];rw[Nat.gcd_zero_right]at hg;rw[hg]
   ·have hp:=qf (n:=y) (by lia);rw[zN,za<|dZ (zu x) (zu y) (by lia) (by lia) hf,z7,z7,ir h0];simp only;have hj:=xbi x (show 0<y by lia);refine ih _ ⟨y,x%y,rfl,hy,by lia,?_⟩ ?_
    ·rw[<-hg,xeE y,<-Nat.gcd_rec,xeE]
    ·simp only[z7];rw[zy];by_cases hd:x<y
     ·rw[iq hd,xar hd];lia
     ·have:=NZ (r0:=x) (r1:=y);lia
  ·simp only[z7];have h1:=zdA hA;have h2:=zdA hB;split<;>lia
end
section
variable{K fu:Nat}{a:List Zr}
def Z6(f:Nat->Int):Nat->Nat
 |0=>0
 |n+1=>xen (Z6 f n) (f n).natAbs
theorem pE(f:Nat->Int):∀n k,k<n->Z6 f n∣(f k).natAbs
 |0,k,h=>absurd h<|xbp _
 |n+1,k,h=>by
  by_cases e:k=n
  ·rw[e];exact Nat.gcd_dvd_right _ _
  ·exact Nat.dvd_trans (Nat.gcd_dvd_left _ _)<|pE f n k<|by lia
theorem Er(f:Nat->Int){K:Nat}(h:∀k,Bz K<|f k):∀n,Z6 f n<18446744073709551616^K
 |0=>xbk<|by decide
 |n+1=>by
  show xen (Z6 f n) (f n).natAbs<_;by_cases e:Z6 f n=0
  ·rw[e,Nat.gcd_zero_left];exact h n
  ·exact xba (Nat.gcd_le_left _<|by lia)<|Er f h n
def wq(a:List Zr):Int:=if cf (yf a) ((yf a).length-1)<0 then-((Z6 (cf a) (yf a).length:Nat):Int)else((Z6 (cf a) (yf a).length:Nat):Int)
theorem nZ(a:List Zr):yf a=vP (yf a).length (cf<|yf a):=uC _ _
theorem FB(h:y9 K a):Bz K (wq a):=by grind [wq,cf,yf,Er,y9.bz,Bz.nat,Bz.neg]
theorem aq(a:List Zr)(k:Nat):wq a∣cf a k:=by
 have h:((Z6 (cf a) (yf a).length:Nat):Int)∣cf a k:=by
  by_cases hk:k<(yf a).length
  ·exact xcq.1<|by rw[xbe];exact pE (cf a) _ k hk
  ·rw[<-uO,ye<|by lia];exact xcO _
 unfold wq;split
 ·exact Int.neg_dvd.2 h
 ·exact h
theorem dE(h:(yf a).length≠0):wq a≠0:=by
 intro e;have h1:=ZB (nZ a) h;rw[uO]at h1;have h2:=aq a<|(yf a).length-1;rw[e]at h2;exact h1<|Int.zero_dvd.1 h2
theorem jb(ha:y9 K a)(hK:K<=9999:=by lia)(hl:a.length<=1000000:=by lia)(hf:3000000<=fu:=by lia):wU fu a=some (yH<|wq a):=by
 unfold wU;have hn:=pV ha;have hc:=Jx a;have hb:=Er (cf a) ha.bz;rw[za<|zC ha (by lia) hl hf,show vP a.length (cf a)=yf a from rfl,za (z6<|by decide),za (v:=(yf a,(false,[]),yH ((Z6 (cf a) (yf a).length:Nat):Int)))]
 ·simp only;by_cases h0:(yf a).length=0
  ·rw[zy];unfold wq;rw[h0];show some (yH ((0:Nat):Int))=some (yH (if cf (yf a) 0<0 then-(((0:Nat):Int))else((0:Nat):Int)));split<;>rfl
  ·rw[zN,show(((yf a).length:Nat):Int)-1=(((yf a).length-1:Nat):Int)by lia,zb,yj,zf,La<|nZ a];unfold wq;by_cases h1:cf (yf a) ((yf a).length-1)<0
   ·rw[iq<|(dK _).2 h1,iq h1,za<|bK ((Bz.nat<|hb _).ok<|by lia) hf,zw]
   ·rw[ir<|fun e=>h1<|(dK _).1 e,ir h1]
 ·refine zx (fun s:Int×List Zr×Zr×Zr=>∃i:Nat,i<=(yf a).length/\s=((i:Int),yf a,(false,[]),yH ((Z6 (cf a) i:Nat):Int))) (fun s=>(yf a).length-s.1.toNat) _ ?_ _ _ ⟨0,xah _,rfl⟩ (by show(yf a).length-0<fu;lia);rintro s L ⟨i,hi,rfl⟩ ih;unfold V7;simp only;by_cases h:i<(yf a).length
  ·have hg:=hn.get i;rw[zN,za rfl];simp only[if_true];rw[zp h,zf,za<|a6 (yT _) hg.1 (Bz.nat<|hb i).len hg.2 (by lia) hf,zw,xbe,VG,uO,zb];exact ih _ ⟨i+1,by lia,rfl⟩ (by show(yf a).length-((i:Int)+1).toNat<(yf a).length-(i:Int).toNat;lia)
  ·rw[zy,za rfl];simp only[xak,if_false];obtain rfl:i=(yf a).length:=by lia
   rfl
def wB(a:List Zr):List Zr:=vP a.length<|fun k=>cf a k/wq a
theorem Y7(a:List Zr)(k:Nat):cf (wB a) k=cf a k/wq a:=jy (fun k hk=>by rw[ye hk,xfJ]) k
theorem zbH(h:y9 K a):y9 K (wB a):=xa fun k=>(h.bz k).le<|xdr _ _
theorem zhb{x c:Int}(hd:c∣x)(hx:x≠0):x/c≠0:=fun e=>by
 have:=Int.ediv_mul_cancel hd;rw[e,xaS]at this;exact hx this.symm
theorem YB(a:List Zr):(wB a).length=(yf a).length:=by grind [yf,wB,cf,dg,xJ,ax,vZ,J4,zhb,aq,Vf,xfJ]
theorem zax(a:List Zr):wB a=zi (yf a).length (fun k=>cf a k/wq a):=by grind [vP,wB,YB,xJ]
theorem vM(ha:y9 K a)(hK:K<=9999)(hl:a.length<=1000000)(hf:3000000<=fu):xN fu a=some (wB a):=by
 unfold xN;have hn:=pV ha;have hb:=Jx a;have hc:=FB ha;rw[za<|jb ha hK hl,za<|zC ha (by lia) hl hf,show vP a.length (cf a)=yf a from rfl,za<|oE (p:=yf a) (g:=fun k=>cf a k/wq a) (by lia) (by lia) fun j hj=> ?_,zax];unfold Vn;rw[za<|XN (hn.okS (by lia) j) (hc.okS<|by lia) hf,zw,VG,uO];simp only;unfold exI;rw[ir (dE<|by lia),iq<|xaB<|aq a j]
end
section
variable{a:List Zr}{fu K:Nat}{s:Int}
theorem zfa{x:Nat}:x/2^1=x/2:=by rw[Nat.pow_one]
theorem ze9{n:Nat}(h:0<n):bl (n/2)<bl n:=by rw[JR h];omega
theorem OD{a b:Nat}(h:a<=b):bl a<=bl b:=Qe<|xba h<|sa b
theorem zdR{y:Int}(hy:Bz K y)(hK:K<=10000)(hf:3000000<=fu):zg (YS fu 2<|yH y) fu (2,yH s,0,yH 1)=some (2,yH s,yH<|y*y):=by
 obtain⟨n,hn⟩:∃n,fu=n+3:=⟨fu-3,by omega⟩;have h:zg (YS fu 2<|yH y) (n+3) (2,yH s,0,yH 1)=some (2,yH s,yH<|y*y):=by
  have b1:Bz 1 1:=Bz.one'<|xab _;rw[jc];unfold YS;simp only;rw[iq (by decide),za<|ya (b1.ok<|by decide) (hy.ok<|by omega) hf,zw,zw,xca,r7 (by decide),jc];simp only;rw[iq (by decide),za<|ya (hy.ok<|by omega) (hy.ok<|by omega) hf,zw,r7 (by decide),jc];simp only;rw[ir<|by decide]
 rw[<-hn]at h;exact h
theorem ri(hs:0<=s)(hB:Bz K s)(hK:K<=1000)(hf:3000000<=fu):∃r:Nat,Ql fu (yH s) 2=some (yH (r:Int),0)/\Bz (K+1) (r:Int)/\r*r<=s.toNat/\s.toNat<(r+1)*(r+1):=by
 unfold Ql;obtain⟨S,rfl⟩:=xaA hs;have ht:=hB.len;have hu:bl S<=64*K:=zdA (by unfold Bz at hB;rwa[xbe]at hB);have hl:nv (yH (S:Int)).2=S:=by show nv (yC<|(S:Int).natAbs)=S;rw[z7,xbe]
 have hc:xdd ((bl S:Nat):Int) 2=((bl S/2:Nat):Int):=by rw[xdH<|by omega];omega
 have h2:bl S/2<=32*K:=by omega
 have he:min (((bl S/2:Nat):Int)+1) (262144:Int)=((bl S/2+1:Nat):Int):=by omega
 rw[ir (by decide),ir (by decide),za<|xe (hB.ok<|by omega) hf,zw,ir (fun e=>by
  unfold qU at e;rw[zy]at e;split at e<;>exact absurd e<|by decide),za (z6 (by decide) hf),za (YL (yT _) (by omega) (by omega)),hl,wC (by decide),hc,zb,zb,zf,he,za (WO (a:=[1]) (zm.cons (by decide) zm.nil) (by decide) (by omega) (by omega))]
 simp only;obtain⟨H,hH⟩:∃H,H=1*2^(bl S/2+1):=⟨_,rfl⟩;have ha:H<18446744073709551616^(K+1):=by
  rw[hH,xcm,show(18446744073709551616:Nat)=2^64 by decide,<-xdf];exact xeM (by decide)<|by omega
 have hv:1<=H:=by rw[hH,xcm];exact xbk<|by decide
 have hr:=zdA ha;have hn:S<H*H:=by
  refine xan (sa S) ?_;rw[hH,xcm,<-xbZ];exact xay (by decide)<|by omega
 rw[show nv [1]=1 from rfl,<-hH,za<|yp (zu _) (by have:=(zJ (K+1) H).2 ha;omega) (by have:=(zJ (K+1) H).2 ha;omega),z7,ir<|by decide];obtain⟨r,l1,R,rfl,hR,ho,hp⟩:=yv (f:=Qp fu (yH (S:Int)) 2) (fun z:Zr×Zr×Zr=>∃lo hi:Nat,z=((false,[]),yH (lo:Int),yH (hi:Int))/\lo<hi/\hi<=H/\lo*lo<=S/\S<hi*hi) (fun z=>bl<|(zv z.2.2).natAbs-(zv z.2.1).natAbs-1) (fun r=>∃R:Nat,r=yH (R:Int)/\R<=H/\R*R<=S/\S<(R+1)*(R+1)) (by
  rintro z L ⟨lo,hi,rfl,h1,h2,i1,i2⟩ ih;unfold Qp;simp only;have blo:Bz (K+1) (lo:Int):=Bz.nat (by omega);have bhi:Bz (K+1) (hi:Int):=Bz.nat (by omega);have hg:nv (yH<|(lo:Int)+(hi:Int)).2=lo+hi:=by
   show nv (yC<|((lo:Int)+(hi:Int)).natAbs)=lo+hi;rw[z7];omega
  have bsum:=(blo.add bhi).len;have bmid:Bz (K+1) (((lo+hi)/2:Nat):Int):=Bz.nat (by omega);have hw:(yC<|(lo+hi)/2).length<=K+1:=(zJ _ _).2 (by omega);rw[za<|qt (blo.ok<|by omega) (bhi.ok<|by omega) hf,zw,zw,show(1:Int)=((1:Nat):Int)from rfl,za (gH (yT _) (by omega) (by decide)<|by omega),hg,zfa,za (yp (zu _) (by omega)<|by omega),z7,ir (by decide),za<|uj (bmid.ok<|by omega) (blo.ok<|by omega) hf (by have:=bmid.len;omega) (by have:=blo.len;omega),zw,zw];by_cases h3:(lo+hi)/2=lo
  ·rw[iq<|wM.2<|by omega];obtain rfl:hi=lo+1:=by omega
   exact⟨_,rfl,lo,rfl,by omega,i1,i2⟩
  ·rw[ir<|fun e=>h3 (by have:=wM.1 e;omega),show(((1:Nat):Int))=1 from rfl,za<|z6 (by decide) hf,za<|zdR bmid (by omega) hf];simp only;have bsq:=(bmid.mul bmid).len;rw[za<|uj ((bmid.mul bmid).ok<|by omega) (hB.ok<|by omega) hf (by omega)<|by omega];have hd:0<hi-lo-1:=by omega
   have hm:∀d,d<=(hi-lo-1)/2->bl d<bl (hi-lo-1):=fun d hq=>xba (OD hq)<|ze9 hd;obtain⟨mid,hj⟩:∃mid,mid=(lo+hi)/2:=⟨_,rfl⟩;rw[<-hj]at h3⊢;have hk:qU ((mid:Int)*(mid:Nat)) (S:Int)<=0↔mid*mid<=S:=by
    rw[show(mid:Int)*(mid:Nat)=((mid*mid:Nat):Int)by simp];unfold qU;split
    ·exact⟨fun _=>by omega,fun _=>by decide⟩
    ·split
     ·exact⟨fun h=>absurd h (by decide),fun h=>by omega⟩
     ·exact⟨fun _=>by omega,fun _=>by decide⟩
   by_cases hb:mid*mid<=S
   ·rw[zw,zw,iq<|hk.2 hb];exact ih _ ⟨_,hi,rfl,by omega,h2,hb,i2⟩<|by simp only[zw,xbe];exact hm _<|by omega
   ·rw[zw,zw,ir fun h=>hb<|hk.1 h];exact ih _ ⟨lo,_,rfl,by omega,by omega,i1,by omega⟩<|by simp only[zw,xbe];exact hm _<|by omega) fu ((false,[]),yH 0,yH (H:Int)) ⟨0,H,rfl,by omega,xab _,xah _,hn⟩ (by
   simp only[zw,xbe];have:=OD (show H-Int.natAbs 0-1<=H by omega);omega)
 rw[za l1];exact⟨R,rfl,Bz.nat (by omega),by rw[xaK];exact ho,by rw[xaK];exact hp⟩
def fY(a:List Zr):Int:=if(yf a).length=0 then 8 else if 65<(yf a).length then 6 else 0
theorem Xz(ha:y9 K a)(hK:K<=40000)(hl:a.length<=1000000)(hf:3000000<=fu):ZE fu a=some (fY a):=by grind [ZE,fY,yf,vP,cf,za,zC]
def gJ(f:Nat->Int)(n:Nat):Int:=zX n<|fun k=>f k*f k
theorem jr(x:Int):0<=x*x:=by
 rcases Int.le_total 0 x with h|h
 ·exact xcB h h
 ·exact Int.mul_nonneg_of_nonpos_of_nonpos h h
theorem cD(f:Nat->Int):∀n,0<=gJ f n
 |0=>xeY _
 |n+1=>Int.add_nonneg (cD f n)<|jr _
theorem zcD{f:Nat->Int}(h:∀k,Bz K<|f k):∀n,n<=18446744073709551615->Bz (K+K+1) (gJ f n):=by
 have h1:∀n:Nat,(gJ f n).natAbs<=n*18446744073709551616^(K+K):=by
  intro n
  induction n with
  |zero=>exact xah _
  |succ n ih=>
   have h2:(gJ f<|n+1).natAbs<=(gJ f n).natAbs+(f n*f n).natAbs:=Int.natAbs_add_le _ _;have h3:=(h n).mul<|h n;unfold Bz at h3;rw[xaV,xcm];omega
 intro n hn;unfold Bz;have h2:=h1 n;have hp:0<18446744073709551616^(K+K):=xbk (by decide);rw[xbb];have h3:n*18446744073709551616^(K+K)<=18446744073709551615*18446744073709551616^(K+K):=xaw _ hn;generalize 18446744073709551616^(K+K)=M at*
 omega
theorem DS{f:Nat->Int}:∀{n},(∃k,k<n/\f k≠0)->1<=gJ f n
 |0,⟨k,h,_⟩=>absurd h<|xbp _
 |n+1,⟨k,h,hk⟩=>by
  show 1<=gJ f n+f n*f n;have h1:=cD f n;have h2:=jr<|f n;by_cases e:k=n
  ·have h3:f n*f n≠0:=fun e2=>by
    rcases xeF.1 e2 with h4|h4<;>exact hk<|by rw[e];exact h4
   omega
  ·have:=DS (f:=f) (n:=n) ⟨k,by omega,hk⟩;omega
theorem Kh(ha:y9 K a)(hK:K<=300)(hl:a.length<=1000000)(hf:3000000<=fu):∃y,wv fu a=some (y,fY a)/\(fY a=0->∃r:Nat,y=yH (((r+1)*2^((yf a).length-1):Nat):Int)/\r*r<=(-1+gJ (cf a) (yf a).length).toNat/\(-1+gJ (cf a) (yf a).length).toNat<(r+1)*(r+1)):=by
 unfold wv;rw[za<|Xz ha (by omega) hl hf];by_cases h0:fY a=0
 ·have hb:(yf a).length≠0/\(yf a).length<=65:=by
   unfold fY at h0;split at h0
   ·cases h0
   ·split at h0
    ·cases h0
    ·exact⟨by assumption,by omega⟩
  have hn:=pV ha;have hd:=fun n hn=>zcD (K:=K) (f:=cf a) ha.bz n hn;have he:=DS (f:=cf a) (n:=(yf a).length) ⟨(yf a).length-1,by omega,by have:=ZB (nZ a) hb.1;rwa[uO]at this⟩;have hc:∀n,n<=18446744073709551615->Bz (K+K+1+1) (-1+gJ (cf a) n):=fun n hn=>by
   have:=(hd n hn).add (Bz.one (k:=K+K+1)<|by omega);rwa[xfa]at this
  rw[iq h0,za<|zC ha (by omega) hl hf,show vP a.length (cf a)=yf a from rfl,za<|z6 (by decide) hf,za (v:=(yf a,(false,[]),yH (-1+gJ (cf a) (yf a).length)))]
  ·simp only;obtain⟨r,r1,r2,r3,r4⟩:=ri (fu:=fu) (s:= -1+gJ (cf a) (yf a).length) (by omega) (hc _<|by omega) (by omega) hf;have b1:Bz 1 1:=Bz.one'<|xab _;have b2:=(r2.add<|b1.mono (by omega:1<=K+K+1+1+1)).len;rw[za r1];simp only;rw[za<|z6 (by decide) hf,za<|qt (r2.ok<|by omega) (b1.ok<|by decide) hf,zw,zw,show(((yf a).length:Nat):Int)-1=(((yf a).length-1:Nat):Int)by omega,zb,za<|WO (yT _) (by omega) (by omega)<|by omega];simp only;have h3:(yC<|nv (yH<|(r:Int)+1).2*2^((yf a).length-1)).length<=K+K+1+1+1+1+2:=by
    refine Xf (j:=K+K+1+1+1+1) (k:=2) ?_ ?_
    ·rw[show nv (yH<|(r:Int)+1).2=((r:Int)+1).natAbs from z7 _];exact b2
    ·refine(zJ _ _).2 ?_;exact xba (xay (by decide) (show(yf a).length-1<=64 by omega))<|by decide
   rw[za<|uz ⟨zu _,by show(yC _).length<=100000;omega⟩ hf];refine⟨_,by rw[h0],fun _=>⟨r,?_,r3,r4⟩⟩;congr 1;show(if false=true then _ else((nv (yC _):Nat):Int))=_;rw[z7,show nv (yH<|(r:Int)+1).2=((r:Int)+1).natAbs from z7 _,show((r:Int)+1).natAbs=r+1 by omega];rfl
  ·refine zx (fun s:Int×List Zr×Zr×Zr=>∃i:Nat,i<=(yf a).length/\s=((i:Int),yf a,(false,[]),yH (-1+gJ (cf a) i))) (fun s=>(yf a).length-s.1.toNat) _ ?_ _ _ ⟨0,xah _,rfl⟩ (by show(yf a).length-0<fu;omega);rintro s L ⟨i,hi,rfl⟩ ih;unfold UK;simp only;by_cases h:i<(yf a).length
   ·have hz:=hn.okZ (by omega) i;have hq:=(ha.bz i).mul<|ha.bz i;rw[zN,za rfl];simp only[if_true];rw[zp h,zf,za<|ya hz hz hf,VG,uO,za<|qt ((hc i<|by omega).ok<|by omega) (hq.ok<|by omega) hf,zw,zw,zb,show-1+gJ (cf a) i+cf a i*cf a i= -1+gJ (cf a) (i+1)by show _= -1+(gJ (cf a) i+cf a i*cf a i);omega];exact ih _ ⟨i+1,by omega,rfl⟩ (by show(yf a).length-((i:Int)+1).toNat<(yf a).length-(i:Int).toNat;omega)
   ·rw[zy,za rfl];simp only[xak,if_false];obtain rfl:i=(yf a).length:=by omega
    rfl
 ·rw[ir h0];exact⟨_,rfl,fun h=>absurd h h0⟩
end
section
variable{f g q u v w a b:Pz}{m:Nat}
theorem pj{m:Int}{f:Nat->Int}:∀{n j:Nat},j<n->(∀k,k<n->k≠j->m∣f k)->m∣zX n f-f j
 |0,j,h,_=>absurd h<|xbp _
 |n+1,j,h,hd=>by
  show m∣zX n f+f n-f j;by_cases e:j=n
  ·subst e;rw[show zX j f+f j-f j=zX j f by lia];exact UH fun k hk=>hd k (by lia)<|by lia
  ·have h1:=pj (n:=n) (j:=j) (by lia) fun k hk ha=>hd k (by lia) ha;have h2:=hd n (by lia) (by lia);rw[show zX n f+f n-f j=(zX n f-f j)+f n by lia];exact Int.dvd_add h1 h2
theorem VA{n:Nat}(hf:∀k,n<k->f k=0)(hg:∀k,m<k->g k=0):(f*g) (n+m)=f n*g m:=by
 have h:zX (n+m+1) (fun i=>f i*g (n+m-i))-f n*g (n+m-n)=0:=Int.zero_dvd.1 (pj (m:=0) (f:=fun i=>f i*g (n+m-i)) (n:=n+m+1) (j:=n) (by lia) fun k hk ha=>by
  show(0:Int)∣f k*g (n+m-k);by_cases hc:k<n
  ·rw[hg (n+m-k) (by lia),xau];exact xdP 0
  ·rw[hf k (by lia),xaS];exact xdP 0)
 rw[show n+m-n=m by lia]at h;rw[xt];lia
def Tp(f:Pz)(n:Nat):Prop:=f n≠0/\∀k,n<k->f k=0
def Nz(f:Pz):Prop:=∃k,f k≠0
theorem Nz.not(h:¬Nz f)(k:Nat):f k=0:=xae fun e=>h ⟨k,e⟩
theorem Tp.ex(hf:Fs f)(h0:Nz f):∃n,Tp f n:=by
 obtain⟨N,hN⟩:=hf;obtain⟨j,hj⟩:=h0;have h1:dg f N≠0:=fun e=>by
  by_cases ha:j<N
  ·exact hj<|J4 f N j (by lia) ha
  ·exact hj<|hN j<|by lia
 refine⟨dg f N-1,Vf f N h1,fun k hk=> ?_⟩;by_cases hb:k<N
 ·exact J4 f N k (by lia) hb
 ·exact hN k<|by lia
theorem Tp.mul{n:Nat}(hf:Tp f n)(hg:Tp g m):Tp (f*g) (n+m):=
 ⟨by rw[VA hf.2 hg.2];exact xdw hf.1 hg.1,fun k hk=>vL (n:=n+1) (m:=m+1) (fun j hj=>hf.2 j<|by lia)<|fun j hj=>hg.2 j<|by lia⟩
theorem Tp.uniq{n:Nat}(h:Tp f n)(g:Tp f m):n=m:=by
 by_cases h1:n<m
 ·exact absurd (h.2 m h1) g.1
 ·by_cases h2:m<n
  ·exact absurd (g.2 n h2) h.1
  ·lia
theorem Tp.nz{n:Nat}(h:Tp f n):Nz f:=⟨n,h.1⟩
theorem Tp.fs{n:Nat}(h:Tp f n):Fs f:=⟨n+1,fun k hk=>h.2 k<|by lia⟩
theorem Nz.mul{f g:Pz}(ff:Fs f)(fg:Fs g)(hf:Nz f)(hg:Nz g):Nz (f*g):=by
 obtain⟨n,hn⟩:=Tp.ex ff hf;obtain⟨m,hm⟩:=Tp.ex fg hg;exact(hn.mul hm).nz
theorem rn(ff:Fs f)(fg:Fs g)(fq:Fs q)(hq:Nz q)(h:f*q=g*q):f=g:=by
 by_cases hz:Nz (f-g)
 ·have h1:=Nz.mul (ff.subt fg) fq hz hq;obtain⟨k,hk⟩:=h1;rw[wO,h,yz,xdb]at hk;exact absurd rfl hk
 ·funext k;have:=Nz.not hz k;rw[yz]at this;lia
theorem Rp{c:Int}(hc:c≠0)(h:pc c*f=pc c*g):f=g:=funext fun k=>by
 have:=congrFun h k;rw[zE,zE]at this;exact Int.eq_of_mul_eq_mul_left hc this
def Zd(u v:Pz):Prop:=∃q:Pz,Fs q/\v=q*u
theorem Zd.refl(u:Pz):Zd u u:=⟨pc 1,Fs.pc 1,(zt u).symm⟩
theorem Zd.trans(h:Zd u v)(g:Zd v w):Zd u w:=by
 obtain⟨q,fq,rfl⟩:=h;obtain⟨r,fr,rfl⟩:=g;exact⟨r*q,fr.mul fq,(zd r q u).symm⟩
theorem Zd.add{u v w:Pz}(h:Zd u v)(g:Zd u w):Zd u (v+w):=by
 obtain⟨q,fq,rfl⟩:=h;obtain⟨r,fr,rfl⟩:=g;exact⟨q+r,fq.add fr,(yg q r u).symm⟩
theorem Zd.sub(h:Zd u v)(g:Zd u w):Zd u (v-w):=by
 obtain⟨q,fq,rfl⟩:=h;obtain⟨r,fr,rfl⟩:=g;exact⟨q-r,fq.subt fr,(wO q r u).symm⟩
theorem Zd.mul{u v:Pz}(w:Pz)(fw:Fs w)(h:Zd u v):Zd u (w*v):=by
 obtain⟨q,fq,rfl⟩:=h;exact⟨w*q,fw.mul fq,(zd w q u).symm⟩
theorem Zd.left(fv:Fs v):Zd u (u*v):=⟨v,fv,zj u v⟩
def Pm(f:Pz):Prop:=∀d:Nat,(∀k,(d:Int)∣f k)->d=1
theorem Pm.nz(h:Pm f):Nz f:=xae fun hn=>absurd (h 0 fun k=>by rw[Nz.not hn k];exact xcO _)<|by decide
theorem zjy:∀(n d:Nat),d<=n->2<=d->∃P,2<=P/\vX P/\P∣d
 |0,d,h,h2=>by lia
 |n+1,d,h,h2=>by
  by_cases hd:vX d
  ·exact⟨d,h2,hd,Nat.dvd_refl d⟩
  ·have:∃e,2<=e/\e*e<=d/\d%e=0:=xae fun hn=>hd fun e e1 e2 e3=>hn ⟨e,e1,e2,e3⟩;obtain⟨e,e1,e2,e3⟩:=this;have e4:e<d:=by
    have:e*2<=e*e:=xaD e e1;lia
   obtain⟨P,p1,p2,p3⟩:=zjy n e (by lia) e1;exact⟨P,p1,p2,Nat.dvd_trans p3<|Nat.dvd_of_mod_eq_zero e3⟩
theorem zgb{Q:Nat->Prop}(h:∃i,Q i):∃i,Q i/\∀k,k<i->¬Q k:=by
 obtain⟨i,hi⟩:=h;revert hi
 induction i using xds with
 |ind i ih=>
  intro hi;by_cases hc:∃k,k<i/\Q k
  ·obtain⟨k,hk,hq⟩:=hc;exact ih k hk hq
  ·exact⟨i,hi,fun k hk hq=>hc ⟨k,hk,hq⟩⟩
theorem Cl{P:Nat}(hp:2<=P)(hn:vX P){f g:Pz}{i:Nat}(hi:¬(P:Int)∣f i)(ha:∀k,k<i->(P:Int)∣f k)(h:∀k,(P:Int)∣(f*g) k):∀n j,j<n->(P:Int)∣g j
 |0,j,hj=>absurd hj<|xbp _
 |n+1,j,hj=>by
  have ih:=Cl hp hn hi ha h n;by_cases hb:j<n
  ·exact ih j hb
  ·have h2:(P:Int)∣zX (i+j+1) (fun a=>f a*g (i+j-a))-f i*g (i+j-i):=pj (m:=(P:Int)) (f:=fun a=>f a*g (i+j-a)) (n:=i+j+1) (j:=i) (by lia) fun k hk hd=>by
    show(P:Int)∣f k*g (i+j-k);by_cases hc:k<i
    ·exact xbG (ha k hc)<|xco _ _
    ·exact xbG (ih _<|by lia)<|xcQ _ _
   have h3:=h<|i+j;rw[xt]at h3;rw[show i+j-i=j by lia]at h2;have h4:=xdp h3 h2;rw[show∀x y:Int,x-(x-y)=y by intro x y;lia]at h4;rcases Ew hp hn h4 with h5|h5
   ·exact absurd h5 hi
   ·exact h5
theorem zlb{P:Nat}(hp:2<=P)(hn:vX P)(h:∀k,(P:Int)∣(f*g) k):(∀k,(P:Int)∣f k)\/∀k,(P:Int)∣g k:=by
 by_cases hf:∀k,(P:Int)∣f k
 ·exact .inl hf
 ·obtain⟨i,h1,h2⟩:=zgb (Q:=fun i=>¬(P:Int)∣f i)<|xfI.1 hf;exact .inr fun k=>Cl hp hn h1 (fun k hk=>Classical.not_not.1<|h2 k hk) h (k+1) k<|xbY k
theorem Pm.mul(hf:Pm f)(hg:Pm g):Pm (f*g):=fun d hd=>by
 by_cases h1:d=1
 ·exact h1
 ·have:∃P,2<=P/\vX P/\P∣d:=by
   by_cases h0:d=0
   ·exact⟨2,by decide,fun e e1 e2=>by have:2*2<=e*e:=xbH e1 e1;lia,by rw[h0];exact⟨0,rfl⟩⟩
   ·exact zjy d d (xab d)<|by lia
  obtain⟨P,p1,p2,p3⟩:=this;rcases zlb p1 p2 fun k=>xbG (xdC.2 p3) (hd k)with h|h
  ·have:=hf P h;lia
  ·have:=hg P h;lia
theorem Pm.left(h:Pm (u*v)):Pm u:=fun d hd=>h d fun k=>by
 rw[xt];exact UH fun i _=>xbG (hd i)<|xco _ _
theorem ED{f:Nat->Int}{d:Nat}:∀n,(∀k,k<n->d∣(f k).natAbs)->d∣Z6 f n
 |0,_=>⟨0,rfl⟩
 |n+1,h=>Nat.dvd_gcd (ED n fun k hk=>h k<|by lia)<|h n<|by lia
theorem GZ{f:Nat->Int}{c g:Nat}:∀n,(∀k,k<n->c∣g*(f k).natAbs)->c∣g*Z6 f n
 |0,_=>⟨0,rfl⟩
 |n+1,h=>by
  show c∣g*xen (Z6 f n) (f n).natAbs;rw[<-Nat.gcd_mul_left];exact Nat.dvd_gcd (GZ n fun k hk=>h k<|by lia)<|h n<|by lia
theorem eT{n:Nat}(h:∀k,n<=k->f k=0)(k:Nat):((Z6 f n:Nat):Int)∣f k:=by
 by_cases hk:k<n
 ·exact xcq.1<|by rw[xbe];exact pE f n k hk
 ·rw[h k<|by lia];exact xcO _
theorem Pm.ex(hf:Fs f)(h0:Nz f):∃(c:Nat) (g:Pz),c≠0/\Fs g/\Pm g/\f=pc c*g:=by
 obtain⟨n,hn⟩:=hf;have ha:=eT hn;obtain⟨c,hc⟩:∃c,c=Z6 f n:=⟨_,rfl⟩;rw[<-hc]at ha;have hb:c≠0:=fun e=>by
  obtain⟨j,hj⟩:=h0;have:=ha j;rw[e]at this;exact hj<|Int.zero_dvd.1 this
 have he:=DT (n:=(c:Int))<|Cg.of_dvd ha;refine⟨c,pdv c f,hb,C1 ⟨n,hn⟩,fun d hd=> ?_,he.symm⟩;have h1:c*d∣Z6 f n:=ED n fun k _=>by
  have h2:=congrFun he k;rw[zE]at h2;have h3:=xfP (xdP (c:Int))<|hd k;rw[h2]at h3;have h4:=xcq.2 h3;rw[xcg,xbe,xbe]at h4;exact h4
 rw[<-hc]at h1;have h5:c*d∣c*1:=by rw[xcG];exact h1
 exact Nat.dvd_one.1<|Nat.dvd_of_mul_dvd_mul_left (by lia) h5
theorem zjO{c:Int}(fq:Fs q)(hq:Pm q)(fw:Fs w)(h:∀k,c∣(w*q) k)(k:Nat):c∣w k:=by
 by_cases h0:Nz w
 ·obtain⟨g,v,g0,fv,hv,rfl⟩:=Pm.ex fw h0;obtain⟨n,hn⟩:=fv.mul fq;have h2:Z6 (v*q) n=1:=(hv.mul hq) _<|eT hn;have h3:=GZ (f:=v*q) (c:=c.natAbs) (g:=g) n fun k _=>by
   have:=xcq.2<|h k;rw[zd,zE,xcg,xbe]at this;exact this
  rw[h2,xcG]at h3;rw[zE];have h4:c∣(g:Int):=xcq.1 (by rw[xbe];exact h3);exact xbG h4<|xco _ _
 ·rw[Nz.not h0 k];exact xcO c
theorem Zd.pm{c:Int}(fq:Fs q)(hq:Pm q)(hc:c≠0)(h:Zd q (pc c*v)):Zd q v:=by
 obtain⟨w,fw,hw⟩:=h;have h1:=zjO fq hq fw (c:=c) fun k=>by rw[<-hw,zE];exact xco _ _
 have h2:=DT<|Cg.of_dvd h1;refine⟨pdv c w,C1 fw,Rp hc ?_⟩;rw[hw,<-zd,h2]
theorem za4{b:Pz}{m:Nat}(hb:Tp b m):∀(n:Nat) (a:Pz),(∀k,n<=k->a k=0)->∃(c:Int) (q r:Pz),c≠0/\Fs q/\(∀k,m<=k->r k=0)/\pc c*a=q*b+r
 |0,a,h=>⟨1,pc 0,pc 0,by decide,Fs.pc 0,fun k _=>zL k,funext fun k=>by rw[zI,yb,zL,zE,h k<|by lia];rfl⟩
 |n+1,a,h=>by
  by_cases hn:n+1<=m
  ·exact⟨1,pc 0,a,by decide,Fs.pc 0,fun k hk=>h k (by lia),funext fun k=>by rw[zI,yb,zL,xcD,zt]⟩
  ·obtain⟨c,q,r,hc,fq,hr,he⟩:=za4 hb n (pc (b m)*a-mono (n-m) (a n)*b) fun k hk=>by
    rw[yz,Zz,zE];unfold sh;rw[zN];by_cases e:k=n
    ·rw[e,show n-(n-m)=m by lia,xbm];lia
    ·rw[h k (by lia),hb.2 (k-(n-m))<|by lia];lia
   refine⟨c*b m,q+pc c*mono (n-m) (a n),r,xdw hc hb.1,fq.add<|(Fs.pc c).mul ⟨n+1,fun k hk=>zy⟩,hr,?_⟩;rw[yg,<-qZ,zd (pc c) (pc<|b m) a,zd (pc c) _ b];rw[vj]at he;funext k;have:=congrFun he k;simp only[zI,yz]at this⊢;lia
theorem zgi(na:Nz a)(hb:∀k,b k=0):∃(d s t:Pz) (α β:Int),Nz d/\Fs s/\Fs t/\d=s*a+t*b/\α≠0/\β≠0/\Zd d (pc α*a)/\Zd d (pc β*b):=
 ⟨a,pc 1,pc 0,1,1,na,Fs.pc 1,Fs.pc 0,funext fun k=>by rw[zI,zt,yb,zL,xbD],by decide,by decide,⟨pc 1,Fs.pc 1,rfl⟩,⟨pc 0,Fs.pc 0,funext fun k=>by rw[zE,hb k,yb,zL];rfl⟩⟩
theorem zkT:∀(n:Nat) (a b:Pz),Fs a->Nz a->(∀k,n<=k->b k=0)->∃(d s t:Pz) (α β:Int),Nz d/\Fs s/\Fs t/\d=s*a+t*b/\α≠0/\β≠0/\Zd d (pc α*a)/\Zd d (pc β*b):=by
 intro n
 induction n with
 |zero=>intro a b fa na hb;exact zgi na fun k=>hb k<|xah k
 |succ n ih=>
  intro a b fa na hb;by_cases nb:Nz b
  ·have fb:Fs b:=⟨n+1,hb⟩;obtain⟨m,hm⟩:=Tp.ex fb nb;have hf:m<=n:=by
    by_cases h:m<=n
    ·exact h
    ·exact absurd (hb m<|by lia) hm.1
   obtain⟨N,hN⟩:=fa;obtain⟨c,q,r,hc,fq,hr,he⟩:=za4 hm N a hN;obtain⟨d,s,t,α,β,nd,fs,ft,hd,hα,hβ,h1,h2⟩:=ih b r fb nb fun k hk=>hr k (by lia);have ha:r=pc c*a-q*b:=funext fun k=>by
    have:=congrFun he k;simp only[zI,yz]at this⊢;lia
   refine⟨d,t*pc c,s-t*q,α*β*c,α,nd,ft.mul<|Fs.pc c,fs.subt<|ft.mul fq,?_,xdw (xdw hα hβ) hc,hα,?_,h1⟩
   ·rw[hd,ha,vj,wO,<-zd,<-zd];funext k;simp only[zI,yz];lia
   ·have e:pc (α*β*c)*a=(pc β*q)*(pc α*b)+pc α*(pc β*r):=by rw[<-qZ (α*β) c,zd (pc<|α*β) (pc c) a,he,xy,<-qZ α β,zd (pc β) q,zz q (pc α) b,zz (pc β)<|pc α,zd (pc α)<|pc β,zd (pc α)<|pc β]
    rw[e];exact(h1.mul _<|(Fs.pc β).mul fq).add<|h2.mul _<|Fs.pc α
  ·exact zgi na<|Nz.not nb
theorem zkc(fa:Fs a)(na:Nz a)(fb:Fs b):∃(g s t:Pz) (γ:Int),Fs g/\Pm g/\Fs s/\Fs t/\γ≠0/\pc γ*g=s*a+t*b/\Zd g a/\Zd g b:=by
 obtain⟨n,hn⟩:=fb;obtain⟨d,s,t,α,β,nd,fs,ft,hd,hα,hβ,h1,h2⟩:=zkT n a b fa na hn;have fd:Fs d:=by rw[hd];exact(fs.mul fa).add<|ft.mul ⟨n,hn⟩
 obtain⟨c,g,hc,fg,hg,he⟩:=Pm.ex fd nd;have ha:Zd g d:=⟨pc c,Fs.pc c,he⟩;exact⟨g,s,t,c,fg,hg,fs,ft,by lia,he.symm.trans hd,Zd.pm fg hg hα<|ha.trans h1,Zd.pm fg hg hβ<|ha.trans h2⟩
def Kz(u:Pz):Prop:=∀k,1<=k->u k=0
theorem Kz.ex(h:Kz u):∃c,u=pc c:=⟨u 0,funext fun k=>by
 unfold pc;by_cases e:k=0
 ·rw[iq e,e]
 ·rw[ir e];exact h k<|by lia⟩
theorem tD{c:Int}(h:Pm (pc c)):c=1\/c= -1:=by
 have h1:=h c.natAbs fun k=>by
  unfold pc;split
  ·exact Int.natAbs_dvd.2<|xdP _
  ·exact xcO _
 lia
structure Ir(q:Pz):Prop where
 fs:Fs q
 pm:Pm q
 dg:¬Kz q
 ir:∀u v,Fs u->Fs v->q=u*v->Kz u\/Kz v
theorem Ir.prime(hq:Ir q)(fu:Fs u)(fv:Fs v)(h:Zd q (u*v)):Zd q u\/Zd q v:=by
 obtain⟨g,s,t,γ,fg,hg,fs,ft,hγ,he,⟨w,fw,hw⟩,x,fx,hx⟩:=zkc hq.fs hq.pm.nz fu;rcases hq.ir w g fw fg hw with hc|hc
 ·left;obtain⟨c,rfl⟩:=hc.ex;have ha:Pm (pc c):=(hw▸hq.pm:Pm (pc c*g)).left;refine⟨x*pc c,fx.mul<|Fs.pc c,?_⟩;have hb:c*c=1:=by rcases tD ha with e|e<;>rw[e]<;>rfl
  rw[hw,zd,<-zd (pc c) (pc c) g,qZ,hb,zt,hx]
 ·right;obtain⟨c,rfl⟩:=hc.ex;have hd:c≠0:=fun e=>by
   have:=tD hg;lia
  refine Zd.pm (c:=γ*c) hq.fs hq.pm (xdw hγ hd) ?_;rw[<-qZ,he,yg];refine Zd.add ⟨s*v,fs.mul fv,?_⟩ ?_
  ·rw[zd,zd,zj q v]
  ·rw[zd];exact h.mul t ft
def Po(q:Pz):Prop:=∃n,0<q n/\∀k,n<k->q k=0
theorem Po.tp(h:Po q):∃n,Tp q n/\0<q n:=by
 obtain⟨n,h1,h2⟩:=h;exact⟨n,⟨by lia,h2⟩,h1⟩
theorem Ir.eq{r:Pz}(hq:Ir q)(hr:Ir r)(pq:Po q)(pr:Po r)(h:Zd q r):q=r:=by
 obtain⟨w,fw,hw⟩:=h;rcases hr.ir w q fw hq.fs hw with hc|hc
 ·obtain⟨c,rfl⟩:=hc.ex;have ha:Pm (pc c):=(hw▸hr.pm:Pm (pc c*q)).left;rcases tD ha with e|e
  ·rw[hw,e,zt]
  ·obtain⟨n,h1,h2⟩:=pq.tp;obtain⟨m,h3,h4⟩:=pr.tp;have h5:Tp (pc c*q) n:=⟨by rw[zE,e];lia,fun k hk=>by rw[zE,h1.2 k hk,xau]⟩;rw[<-hw]at h5;obtain rfl:=h5.uniq h3;rw[hw,zE,e]at h4;lia
 ·exact absurd hc hq.dg
theorem Kz.tp{n:Nat}(h:Tp u n):Kz u↔n=0:=⟨fun hc=>xae fun e=>h.1 (hc n<|by lia),fun e k hk=>h.2 k<|by lia⟩
theorem Po.or(fu:Fs u)(h:Nz u):Po u\/Po (pc (-1)*u):=by
 obtain⟨n,hn⟩:=Tp.ex fu h;have:=hn.1;by_cases hp:0<u n
 ·exact .inl ⟨n,hp,hn.2⟩
 ·exact .inr ⟨n,by rw[zE];lia,fun k hk=>by rw[zE,hn.2 k hk,xau]⟩
theorem Pm.neg(h:Pm u):Pm (pc (-1)*u):=fun d hd=>h d fun k=>by
 have:=hd k;rw[zE,Int.neg_mul,xca]at this;exact xfQ.1 this
theorem Ir.neg{u:Pz}(h:Ir u):Ir (pc (-1)*u):=by
 refine⟨(Fs.pc _).mul h.fs,h.pm.neg,fun hc=>h.dg fun k hk=> ?_,fun a b fa fb e=> ?_⟩
 ·have:=hc k hk;rw[zE]at this;lia
 ·have:u=(pc (-1)*a)*b:=by
   rw[zd,<-e,<-zd,qZ];exact(zt u).symm
  rcases h.ir _ b ((Fs.pc _).mul fa) fb this with hc|hc
  ·left;intro k hk;have:=hc k hk;rw[zE]at this;lia
  ·exact .inr hc
theorem Ir.ex:∀(n:Nat) {f:Pz}{m:Nat},m<=n->Tp f m->Pm f->1<=m->∃q,Ir q/\Po q/\Zd q f
 |0,f,m,h,_,_,h1=>by lia
 |n+1,f,m,h,ht,hp,h1=>by
  by_cases hi:Ir f
  ·rcases Po.or hi.fs hp.nz with h2|h2
   ·exact⟨f,hi,h2,Zd.refl f⟩
   ·refine⟨_,hi.neg,h2,pc (-1),Fs.pc _,?_⟩;rw[<-zd,qZ];exact(zt f).symm
  ·have:∃u v,Fs u/\Fs v/\f=u*v/\¬Kz u/\¬Kz v:=xae fun hn=>hi ⟨ht.fs,hp,fun hc=>by have:=(Kz.tp ht).1 hc;lia,fun u v fu fv e=>xae fun hc=>hn ⟨u,v,fu,fv,e,fun h=>hc (.inl h),fun h=>hc (.inr h)⟩⟩;obtain⟨u,v,fu,fv,e,cu,cv⟩:=this;have hu:Pm u:=(e▸hp:Pm (u*v)).left;have hv:Pm v:=by rw[e,zj]at hp;exact hp.left
   obtain⟨a,ha⟩:=Tp.ex fu hu.nz;obtain⟨b,hb⟩:=Tp.ex fv hv.nz;have hm:=(ha.mul hb);rw[<-e]at hm;have hm:=hm.uniq ht;have hd:b≠0:=fun h=>cv<|(Kz.tp hb).2 h;have he:a≠0:=fun h=>cu<|(Kz.tp ha).2 h;obtain⟨q,q1,q2,q3⟩:=Ir.ex n (by lia) ha hu (by lia);exact⟨q,q1,q2,q3.trans<|by rw[e];exact Zd.left fv⟩
end
end Go.Proofs.YtmggkmchbdanfaaGreat
