/- What a proof needs: rules of walking, mirrors of functions and their plain laws. No condition. -/
import Derived.Test.YtmggkmchbdanfaaGreatZp5
set_option linter.unusedVariables false
set_option linter.unusedSimpArgs false
namespace Go.Proofs.YtmggkmchbdanfaaGreat
open Bool renaming false_eq_true->xak
open Classical renaming byContradiction->xad,choose_spec->xfw,not_forall->xfB
open Int renaming add_comm->xfv,add_emod->xdN,add_mul_emod_self_left->xeC,add_zero->xbx,dvd_mul_left->xcL,dvd_mul_right->xck,dvd_neg->xfK,dvd_of_emod_eq_zero->xaH,dvd_refl->xdO,dvd_sub->xdo,dvd_trans->xbC,dvd_zero->xcJ,emod_emod->xaD,emod_emod_of_dvd->xcC,emod_eq_emod_iff_emod_sub_eq_zero->xaI,emod_eq_of_lt->xaz,emod_eq_zero_of_dvd->xax,emod_lt_of_pos->xdv,emod_nonneg->xcS,eq_ofNat_of_zero_le->xaC,le_refl->xeS,mul_add->xeR,mul_assoc->xbH,mul_comm->xbi,mul_dvd_mul->xfJ,mul_emod->xbo,mul_eq_zero->xex,mul_le_mul_of_nonneg_left->xaW,mul_ne_zero->xdt,mul_neg->xeu,mul_nonneg->xcz,mul_one->xcf,mul_zero->xas,natAbs_dvd_natAbs->xcm,natAbs_ediv_le_natAbs->xdp,natAbs_mul->xcb,natAbs_natCast->xbb,natCast_add->xdV,natCast_dvd_natCast->xeh,one_mul->xbX,pow_nonneg->xfo,pow_succ->xbk,pow_zero->xbs,sub_mul->xfL,sub_self->xcX,sub_zero->xcB,tdiv->xda,tdiv_eq_ediv_of_nonneg->xdF,tmod->xbZ,toNat_natCast->xaM,toNat_of_nonneg->xcV,zero_add->xcA,zero_ediv->xfC,zero_emod->xag,zero_mul->xaQ
open List renaming all_eq_true->xaR,append_assoc->xal,append_nil->xbN,append_of_mem->xdP,cons_append->xbP,drop->xdw,ext_getElem?->xcw,filter_cons->xdh,getD_eq_getElem?_getD->UV,getElem?_append_left->xbn,getElem?_append_right->xcj,getElem?_drop->xen,getElem?_eq_getElem->IR,getElem?_eq_none->xaJ,getElem?_map->xaB,getElem?_range->xbg,getElem?_set->xdY,getElem?_take->xbU,getElem_mem->xbh,getElem_of_mem->xcF,length->xaG,length_append->xau,length_cons->xav,length_drop->xbQ,length_eq_zero_iff->xbG,length_filter_le->xfx,length_map->xaN,length_nil->xcs,length_pos_of_mem->xfi,length_range->xcy,length_set->xcG,length_take->xay,map_append->xaO,map_congr_left->xbO,map_cons->xbR,map_map->xcP,mem_append->Nm,mem_append_left->xdz,mem_append_right->xdQ,mem_cons->xae,mem_cons_of_mem->H1,mem_cons_self->FS,mem_filter->xbY,mem_iff_getElem->xdy,mem_map->xai,mem_map_of_mem->xbI,mem_of_mem_drop->xeE,mem_of_mem_take->xeD,mem_range->xaS,mem_singleton->xah,nodup_cons->xfd,not_mem_nil->xaa,pairwise_append->xdg,pairwise_cons->xcM,pairwise_iff_forall_sublist->xdj,pairwise_iff_getElem->xcp,pairwise_map->xeb,perm_middle->xcr,range->xbc,range_succ->xdD,replicate->xaf,set_append_right->xft,take->xdr,take_append_drop->xbK,take_of_length_le->xaX
open List.Perm renaming append_left->xca,refl->xdB
open Nat renaming add_assoc->xcY,add_comm->xdA,add_mul->xaV,beq->xan,div_div_eq_div_mul->xaY,div_eq_of_lt->xcc,div_one->xeQ,eq_of_beq_eq_true->xcH,eq_zero_or_pos->xcN,gcd->xeg,gcd_comm->xew,le_antisymm->xcR,le_of_not_lt->xbw,le_refl->xac,le_trans->xao,lt_of_le_of_lt->xbd,lt_of_lt_of_le->xap,lt_of_not_le->xdJ,lt_succ_self->xbV,min_eq_left->xcZ,mod_eq_of_lt->xaF,mod_lt->xbq,mul_add->xbm,mul_comm->xba,mul_le_mul->xbE,mul_le_mul_left->xaA,mul_le_mul_right->xar,mul_one->xcD,not_lt_zero->xbv,one_mul->xcn,pos_of_ne_zero->xcE,pow_add->xbW,pow_le_pow_right->xaK,pow_lt_pow_right->xeF,pow_mul->xdc,pow_pos->xbp,pow_succ->xbu,pow_zero->xeU,strongRecOn->xdq,sub_self->xcW,zero_add->xaT,zero_le->xaj
open Option renaming getD_some->xdI
open Prod renaming ext->xeL
theorem zce{k:Nat}{p:Int}(hp:wG p=true)(hq:1<=k)(hk:k<=1000): ∀(n:Nat) {fu:Nat} {f:List Zr} {fs:List (List Int)},fs.length=n->1<=n->n<=66->3000002+n<=fu->
 Rd 250 (p^k) f->0<f.length->f.length<=66->cf f (f.length-1) % p≠0->(∀g∈fs,GR p g/\g.length<=66)->fs.Pairwise (fun a b=>qH p (ci a) (ci b))->Cg p (cf f) (pc (cf f (f.length-1))*prZ (fs.map ci))->
 ∃us,wU fu f fs p (k:Int) (yE (p^k))=some us/\nY (Up p k) us fs/\Cg (p^k) (cf f) (pc (cf f (f.length-1))*prZ (us.map fun u=>(cf u:Pz))):=by
 intro n
 induction n using xdq with
 |_ n ih=>
 intro fu f fs hn h7 h8 h9 hF hj h' hb hC X3 hr;obtain⟨p1,p2⟩:=zo hp;obtain⟨F,rfl⟩: ∃F,fu=F+1:=⟨fu-1,by omega⟩;have hf:3000000<F:=by omega
 have hm2:=au hp hq;have hH:p∣p^k:=qV hq;unfold wU;by_cases h1:n=1
 ·obtain⟨g,rfl⟩: ∃g,fs=[g]:=by
   match fs,hn with
   |[g],_=>exact⟨g,rfl⟩
   |[],h=>simp at h;omega
   |_::_::_,h=>simp at h;omega
  obtain⟨hg,hgl⟩:=hC g (by simp);obtain⟨w,u,e1,e2,e3,e4,e5,e6⟩:=iV (fu:=F) hp hq hk hF hj (by omega) hb (by omega);have hu:Cg (p^k) (pc (cf f (f.length-1))*pc u) (pc 1):=fun j=>by
   rw[qL,xbi];unfold pc;split
   ·rw[e5];exact(xaz (by decide) (by omega)).symm
   ·rfl
  have hD:Cg (p^k) (cf f) (pc (cf f (f.length-1))*cf w):=by
   refine Cg.symm ((Cg.rfl.mul e6).trans ?_);rw[<-zb];exact(hu.mul Cg.rfl).trans (Cg.of (zt _))
  have hw: ∀x:Pz,prZ [x]=x:=fun x=>zL x;have hE:Cg p (cf w) (ci g):=by
   refine(e6.down hH).trans ?_;have h2:Cg p (pc u*cf f) (pc u*(pc (cf f (f.length-1))*ci g)):=Cg.rfl.mul (hr.trans (Cg.of (by show _*prZ [ci g]=_;rw[hw])));refine h2.trans ?_;rw[<-zb,zg (pc u)];exact((hu.down hH).mul Cg.rfl).trans (Cg.of (zt _))
  have hP:w.length=g.length:=by
   have hgf:=hg.fp (p:=p) (by omega);refine xcR (xbw fun hQ=> ?_) (xbw fun hQ=> ?_)
   ·have h2:=hE (w.length-1);rw[e4,zQ (by omega),xag,xaz (by decide) (by omega)]at h2;cases h2
   ·have h2:=hE (g.length-1);rw[hg.2.2,z6 (by omega),xag,xaz (by decide) (by omega)]at h2;cases h2
  rw[iq (by simp),za e1];refine⟨[w],rfl,⟨⟨e2,hP,e4,hE⟩,trivial⟩,?_⟩;show Cg _ _ (_*prZ [(cf w:Pz)]);rw[hw];exact hD
 ·obtain⟨ha,hR⟩: ∃h,h=n/2:=⟨_,rfl⟩;obtain⟨c,hc⟩: ∃c,c=cf f (f.length-1):=⟨_,rfl⟩;have h6:fs.length<=66:=by omega
  have hy:fs=fs.take ha++fs.drop ha:=(xbK ha fs).symm;have hS:(fs.take ha).length=ha:=by rw[xay];omega
  have hT:(fs.drop ha).length=n-ha:=by rw[xbQ];omega
  have hs: ∀g∈fs.take ha,GR p g/\g.length<=66:=fun g hg=>hC g (xeD hg);have hl: ∀g∈fs.drop ha,GR p g/\g.length<=66:=fun g hg=>hC g (xeE hg);rw[hy]at X3 hr;obtain⟨pwA,pwB,pwAB⟩:=xdg.1 X3;rw[xaO,xM,<-hc]at hr;have hJ:=yh (a:=c) (p:=p) (by omega);rw[<-hc]at hb;have hU: ∀g∈fs.take ha,Fp p g:=fun g hg=>(hs g hg).1.fp (by omega);have hV: ∀g∈fs.drop ha,Fp p g:=fun g hg=>(hl g hg).1.fp (by omega);have prodA:=db p (fs.take ha);have prodB:=db p (fs.drop ha);have monB:=NK (p:=p) p1 (fs:=fs.drop ha) fun g hg=>(hl g hg).1;have lenA:=Ky (p:=p) (fs:=fs.take ha) (M:=66) fun g hg=>(hs g hg).2;have lenB:=Ky (p:=p) (fs:=fs.drop ha) (M:=66) fun g hg=>(hl g hg).2;have b1:(fs.take ha).length*66<=66*66:=xar _ (by omega);have b2:(fs.drop ha).length*66<=66*66:=xar _ (by omega);have hK:=Yc (p:=p) (x:=c % p) (by omega) hJ.2;obtain⟨g0,hG⟩: ∃g0,g0=y4 p (XM p (fs.take ha)) [c % p]:=⟨_,rfl⟩;obtain⟨h0,ht⟩: ∃h0,h0=XM p (fs.drop ha):=⟨_,rfl⟩;have hd:Fp p g0:=by rw[hG];exact vJ (by omega) _ _
  have he:Fp p h0:=by rw[ht];exact JV p1 _
  have hA:Cg p (pc (c % p)) (pc c):=fun j=>by unfold pc;split;exact xaD _ _;rfl
  have hm:Cg p (ci g0) (prZ ((fs.take ha).map ci)*pc c):=by
   rw[hG];refine(ky p _ _).trans ?_;rw[v8];exact prodA.mul hA
  have ho:Cg p (ci h0) (prZ ((fs.drop ha).map ci)):=by rw[ht];exact prodB
  rw[<-ht]at monB;have hB:Cg p (cf f) (ci g0*ci h0):=by
   refine hr.trans (Cg.trans (Cg.of ?_) (hm.mul ho).symm);simp only[zb,zg,zy]
  have hL:qH p (ci g0) (ci h0):=by
   refine qH.congr (qH.mul (Fs.pc _) (Fs.prZ fun x hx=>by obtain⟨a,_,rfl⟩:=xai.1 hx;exact Fs.ci a) (Fs.prZ fun x hx=>by obtain⟨a,_,rfl⟩:=xai.1 hx;exact Fs.ci a) (sW pwAB) (zaT hp (show 0<c % p by omega) hJ.2)) ?_ ho.symm;exact(Cg.rfl.mul hA).trans hm.symm
  have hi:p^1=p:=by rw[xbk,xbs,xbX]
  have rg:=bS hd p2;have rh:=bS he p2;have lz:(ja h0).length=h0.length:=tH he.nl;have lzg:(ja g0).length=g0.length:=tH hd.nl;have hM:cf (ja h0) ((ja h0).length-1)=1:=by rw[lz,qE];exact monB.2
  have hW:(wq f p).length=f.length:=by
   have:=B5 (k:=k) (i:=1) (p:=p) (f:=f) (xac _) (by rw[<-hc];exact hb) hj;rw[hi]at this;exact this
  obtain⟨d1,d2,d3⟩:=M6 (m:=p) (f:=wq f p) (g:=ja g0) (h:=ja h0) p1 (by have:=rg.rd;rw[hi]at this;exact this) (mF fun j=>by rw[jw,xaD]) (by omega) (by omega) hM ((Zp f p).trans (by rw[qE,qE];exact hB));rw[hW,lz,lzg]at d1;rw[lzg]at d2;obtain⟨d,s,t,z1,zR,z3⟩:=jy (fu:=F) hp hd he (by omega) (by omega) (by omega);have hN:=zcj p1 zR z3 hL;have hNb:max g0.length h0.length*(max g0.length h0.length+1)<=66*67:=xbE (by omega) (by omega);have hsl:=zR.sl;have htl:=zR.tl;have rs:=bS zR.sf p2;have rt:=bS zR.tf p2;have hI:TrI p k f (ja g0) (ja h0) h0.length 4430 1 (ja g0) (ja h0) (ja s) (ja t):=by
   refine⟨xac _,hq,rg,rh,rs,rt,lz,by rw[<-lz];exact hM,?_,?_,Cg.rfl,Cg.rfl,by have:=Ee s;omega⟩
   ·rw[hi,qE,qE];exact hB
   ·rw[hi,qE,qE,qE,qE];exact hN
  obtain⟨G,H,S,T,l1,l2⟩:=NW (fu:=F) hI hp hk hF.ok (by rw[<-hc];exact hb) hj (by omega) (by omega) (by decide) (by omega) hf;obtain⟨m1,m2,m3,m4⟩:=l2.lens hp (by rw[<-hc];exact hb) hj (by omega);have hX:c % p^k=c:=by have:=hF.mod (f.length-1);rw[<-hc]at this;exact this
  rw[<-hc,hX]at m3;have hY:=l2.hl;have hv:=l2.h1;rw[<-hY]at hv;have hZ:Cg p (cf G) (pc c*prZ ((fs.take ha).map ci)):=by
   refine l2.gp.trans ?_;rw[qE,zg];exact hm
  have h3:Cg p (cf H) (pc 1*prZ ((fs.drop ha).map ci)):=by
   refine l2.hp.trans ?_;rw[qE,zt];exact ho
  obtain⟨us,u1,u2,u3⟩:=ih ha (by omega) (fu:=F) (f:=G) (fs:=fs.take ha) hS (by omega) (by omega) (by omega) l2.rG m2 (by omega) (by rw[m3];exact hb) hs pwA (by rw[m3];exact hZ);obtain⟨vs,v1,v2,v3⟩:=ih (n-ha) (by omega) (fu:=F) (f:=H) (fs:=fs.drop ha) hT (by omega) (by omega) (by omega) l2.rH (by omega) (by omega) (by rw[hv,xaz (by decide) (by omega)];decide) hl pwB (by rw[hv];exact h3);rw[m3]at u3;rw[hv]at v3;have hul:=u2.len;have hvl:=v2.len;refine⟨us++vs,?_,by rw[hy];exact u2.append v2,?_⟩
  ·have ez:[f.getD (f.length-1) (false,[])].length=1:=rfl;have hO:xb 250 [f.getD (f.length-1) (false,[])]:=fun z hz=>by
    obtain rfl:=xah.1 hz;exact hF.ok.get _
   have h4:vS p [f.getD (f.length-1) (false,[])]=[c % p]:=by
    rw[hc];exact Td (by omega) (by rw[Qm,<-hc];exact hb)
   have h5:=qk p (XM p (fs.take ha)) [c % p];simp only[xav,xcs]at h5;have ex1:xda (fs.length:Int) 2=(ha:Int):=by rw[hn,hR];rfl
   rw[zx,q9 (by decide),ex1,zd,show(f.length:Int)-1=((f.length-1:Nat):Int)by omega,zd,yO,yG,zf,NQ hj,za (kf hO (by decide) (by omega) p2 (by simp) (by omega)),h4];simp only;rw[yO,yG,zf,za (qm hp hU (fun g hg=>(hs g hg).2) (by omega) (by decide) (by omega) (by omega)),za (jS hp (JV p1 _) hK (by omega) (by simp) (by omega)),<-hG];simp only;rw[yO,yG,zf,za (qm hp hV (fun g hg=>(hl g hg).2) (by omega) (by decide) (by omega) (by omega)),<-ht,za z1];simp only;rw[za (jb (hd.rl p2) (by omega) (by omega)),za (jb (he.rl p2) (by omega) (by omega)),za (jb (zR.sf.rl p2) (by omega) (by omega)),za (jb (zR.tf.rl p2) (by omega) (by omega)),za l1];rw[nL (i:=0) (by decide),yO,yG,zf,show[G,H,S,T].getD (Int.toNat 0) []=G from rfl,za u1,nL (i:=1) (by decide),yO,yG,zf,show[G,H,S,T].getD (Int.toNat 1) []=H from rfl,za v1,yG,zf]
  ·rw[<-hc,xaO,xM];refine l2.fac.trans ((u3.mul v3).trans (Cg.of ?_));rw[zt,zb]
section
variable{a:List Zr}{p:Int}
def yb(a:List Zr):List Zr:=qe a.length (cf a)
theorem kQ(a:List Zr)(k:Nat):cf (yb a) k=cf a k:=jq (fun j hj=>z6 hj) k
theorem Vr(a:List Zr):(yb a).length<=a.length:=by unfold yb;rw[xD];exact qf _ _
theorem eZ{k:Nat}(h:xb k a):xb k (yb a):=y7 h.bz
structure zh2(p:Int)(k:Nat)(a:List Zr)(fs:List (List Int))(us:List (List Zr)):Prop where
 hp:wG p=true
 k1:1<=k
 k2:k<=1000
 rt:KJ p (yb a) fs
 up:nY (Up p k) us fs
 cg:fs≠[]->Cg (p^k) (cf a) (pc (cf (yb a) ((yb a).length-1))*prZ (us.map fun u=>(cf u:Pz)))
theorem KJ.mem{fs:List (List Int)}(h:KJ p a fs): ∀g∈fs,GR p g/\g.length<=a.length:=fun g hg=>by
 obtain⟨j,hj,rfl⟩:=xdy.1 hg;have:=h.pl j hj;rw[UV,IR hj]at this;exact⟨this.2,this.1⟩
theorem KJ.pw{fs:List (List Int)}(h:KJ p a fs):fs.Pairwise (fun a b=>qH p (ci a) (ci b)):=by
 refine xcp.2 fun i j hi hj ha=> ?_;have:=h.cp j i hj ha;rw[UV,UV,IR hi,IR hj]at this;exact this.symm
theorem fU{fu:Nat}{k:Int}{fs:List (List Int)}(ha:xb 250 a)(hr:a.length<=1000)(hf:3000200<=fu):
 ∃us e,qb fu a fs p k=some (us,e)/\(e=0->zh2 p k.toNat a fs us/\1<=k)/\(e≠0->(dB p k).2=0\/e=1):=by
 unfold qb;have hs:=Vr a;have hk:=eZ ha;rw[za (jC (by omega))];by_cases hP:wG p=true/\1<=k/\k<=1000
 ·obtain⟨hp,h1,h2⟩:=hP;obtain⟨K,rfl⟩:=xaC (show 0<=k by omega);have hc:dB p (K:Int)=(yE (p^K),0):=by
   unfold dB;rw[if_pos ⟨hp,h1,h2⟩,xaM]
  rw[hc];simp only;rw[za (zz ha (by decide) (by omega) (by omega)),iq trivial,show qe a.length (cf a)=yb a from rfl];by_cases ht:65<(yb a).length
  ·rw[zN];exact⟨_,_,rfl,fun e=>absurd e (by decide),fun _=> .inl trivial⟩
  ·rw[zx];obtain⟨b,b1,b2⟩:=dJ (fu:=fu) (fs:=fs) hp hk (by decide) (by omega) (by omega);rw[za b1]
   cases b with
   |false=>
    rw[iq (by decide)];exact⟨_,_,rfl,fun e=>absurd e (by decide),fun _=> .inl trivial⟩
   |true=>
    have hR:=b2 rfl;rw[ir (by decide)];by_cases h0:fs.length=0
    ·obtain rfl:fs=[]:=xbG.1 h0;rw[iq (show((([]:List (List Int)).length:Nat):Int)=0 from rfl)];exact⟨_,_,rfl,fun _=>⟨⟨hp,by omega,by omega,hR,trivial,fun e=>absurd rfl e⟩,h1⟩,fun e=>absurd rfl e⟩
    ·rw[zx];obtain⟨p1,p2⟩:=zo hp;have hl:=gl hp (k:=K) (by omega);have hu:=au hp (k:=K) (by omega);have ho:gx (yE (p^K)):=hl.okS (by decide);obtain⟨f,hb⟩: ∃f,f=wq (yb a) (p^K):=⟨_,rfl⟩;have hm:=hR.a0;have hd:cf (yb a) ((yb a).length-1) % p≠0:=by
      have h3:=(X8 (p:=p) (by omega) (yb a)).nl;unfold Nl at h3;rw[hR.al]at h3;rcases h3 with h3|h3
      ·exact absurd h3 hm
      ·rw[Vu]at h3;exact h3
     have hq:f.length=(yb a).length:=by rw[hb];exact B5 (k:=K) (by omega) hd (by omega)
     have he:cf f (f.length-1)=cf (yb a) ((yb a).length-1) % p^K:=by rw[hq,hb,jw]
     have hi:p∣p^K:=qV (by omega);have hj:cf f (f.length-1) % p≠0:=by rw[he,xcC _ hi];exact hd
     have hn:Cg p (cf f) (pc (cf f (f.length-1))*prZ (fs.map ci)):=by
      have e1:Cg p (cf f) (cf (yb a)):=by rw[hb];exact(Zp _ _).down hi
      refine e1.trans ((Uu p (yb a)).symm.trans ?_);rw[<-hR.pr];refine(ky p _ _).trans ?_;rw[v8,zg];refine Cg.mul (fun j=> ?_) (db p fs);rw[Vu,he];unfold pc;split
      ·rw[xcC _ hi,xaD]
      ·rfl
     obtain⟨us,u1,u2,u3⟩:=zce (k:=K) hp (by omega) (by omega) fs.length (fu:=fu) (f:=f) (fs:=fs) rfl (by omega) (by have:=hR.fl;omega) (by have:=hR.fl;omega) (by rw[hb];exact Ug hl (by omega) _) (by omega) (by omega) hj (fun g hg=>⟨(hR.mem g hg).1,by have:=(hR.mem g hg).2;omega⟩) hR.pw hn;rw[za (Zi hk (by decide) ho (by rw[zu];omega) (by omega) (by omega)),zu,<-hb,za u1];refine⟨_,_,rfl,fun _=>⟨⟨hp,by omega,by omega,hR,u2,fun _=> ?_⟩,h1⟩,fun e=>absurd rfl e⟩;rw[xaM];have e1:Cg (p^K) (cf a) (cf f):=by
      rw[hb];exact Cg.trans (Cg.of (funext fun j=>(kQ a j).symm)) (Zp _ _).symm
     refine e1.trans (u3.trans (Cg.mul (fun j=> ?_) Cg.rfl));rw[he];unfold pc;split
     ·rw[xaD]
     ·rfl
 ·have hc:dB p k=((false,[]),1):=by unfold dB;rw[ir hP]
  rw[hc];simp only;rw[za (zz ha (by decide) (by omega) (by omega)),ir (by decide)];exact⟨_,_,rfl,fun e=>absurd e (by decide),fun _=> .inr rfl⟩
end
def Mn(A:Pz)(d:Nat):Prop:=A d=1/\ ∀k,d<k->A k=0
theorem Mn.top{A x:Pz}{d n:Nat}(h:Mn A d)(hx: ∀k,n<k->x k=0):(x*A) (n+d)=x n:=by
 rw[xk,xU (i:=n) fun i hi=> ?_,zN,show n+d-n=d by omega,h.1,xcf];by_cases hc:i<n
 ·rw[h.2 _ (by omega),xas]
 ·rw[hx i (by omega),xaQ]
theorem Mn.zero{p:Int}(hp:2<=p){A x:Pz}{d:Nat}(h:Mn A d)(hx:Fs x)(hz: ∀k,d<=k->(x*A) k % p=0):Cg p x (pc 0):=by
 obtain⟨n,hn⟩:=hx;have key: ∀c,c<=n-> ∀k,n-c<=k->x k % p=0:=by
  intro c
  induction c with
  |zero=>intro _ k hk;rw[hn k (by omega),xag]
  |succ c ih=>
   intro hc k hk;by_cases h1:n-c<=k
   ·exact ih (by omega) k h1
   ·obtain rfl:k=n-(c+1):=by omega
    have e:Cg p x (fun i=>if i<=n-(c+1)then x i else 0):=fun i=>by
     by_cases hi:i<=n-(c+1)
     ·show _=(if i<=n-(c+1)then x i else 0) % p;rw[iq hi]
     ·show _=(if i<=n-(c+1)then x i else 0) % p;rw[ir hi,xag];exact ih (by omega) i (by omega)
    have h2:=(e.mul (Cg.rfl (f:=A))) (n-(c+1)+d);rw[hz _ (by omega),h.top (fun i hi=>zx)]at h2;rw[iq (xac _)]at h2;exact h2.symm
 intro k;rw[zM,xag];by_cases hk:k<n
 ·exact key n (xac _) k (by omega)
 ·rw[hn k (by omega),xag]
theorem Fm{k m n:Int}(h:Int.gcd k m=1)(hd:k∣m*n):k∣n:=
 xcm.1 (Nat.Coprime.dvd_of_dvd_mul_left (k:=k.natAbs) (m:=m.natAbs) h (by rw[<-xcb];exact xcm.2 hd))
def pdv(n:Int)(f:Pz):Pz:=fun k=>f k/n
theorem Dp{n:Int}{f:Pz}(h:Cg n f (pc 0)):pc n*pdv n f=f:=by
 funext k;rw[zD];exact Int.mul_ediv_cancel' (h.dvd k)
theorem AX{n:Int}{f:Pz}(h:Fs f):Fs (pdv n f):=by
 obtain⟨c,hc⟩:=h;exact⟨c,fun k hk=>by show f k/n=0;rw[hc k hk,xfC]⟩
theorem Fs.subt{f g:Pz}(hf:Fs f)(hg:Fs g):Fs (f-g):=by
 obtain⟨a,ha⟩:=hf;obtain⟨b,hb⟩:=hg;exact⟨a+b,fun k hk=>by rw[yA,ha k (by omega),hb k (by omega)];rfl⟩
theorem Oe{p n:Int}(hp:2<=p)(hn:n≠0)(hj:p∣n){A B A' B':Pz}{d:Nat}(hA:Mn A d)(he:Mn A' d)(fA:Fs A)(fA':Fs A')(fB:Fs B)(fB':Fs B')(hc:qH p A B)(h1:Cg n A A')(h2:Cg n B B')(h:Cg (n*p) (A*B) (A'*B')):
 Cg (n*p) A A'/\Cg (n*p) B B':=by
 obtain⟨a,ha⟩: ∃a,a=pdv n (A'-A):=⟨_,rfl⟩;obtain⟨b,hb⟩: ∃b,b=pdv n (B'-B):=⟨_,rfl⟩;have ea:pc n*a=A'-A:=by rw[ha];exact Dp (Cg.iff_sub.1 h1.symm)
 have eb:pc n*b=B'-B:=by rw[hb];exact Dp (Cg.iff_sub.1 h2.symm)
 have fa:Fs a:=by rw[ha];exact AX (fA'.subt fA)
 have fb:Fs b:=by rw[hb];exact AX (fB'.subt fB)
 have ak: ∀k,A' k=A k+n*a k:=fun k=>by
  have:=congrFun ea k;rw[zD,yA]at this;omega
 have bk: ∀k,B' k=B k+n*b k:=fun k=>by
  have:=congrFun eb k;rw[zD,yA]at this;omega
 have hl:A'=A+pc n*a:=funext fun k=>by rw[zK,zD,ak]
 have hm:B'=B+pc n*b:=funext fun k=>by rw[zK,zD,bk]
 have hz:Cg p (a*B+b*A) (pc 0):=by
  refine Cg.of_dvd fun k=> ?_;have e:A'*B'-A*B=pc n*(a*B+b*A+pc n*(a*b)):=by
   rw[hl,hm];simp only[xw,yj,zb,zy,zg];funext k;simp only[zK,yA];omega
  have hd:=(Cg.iff_sub.1 h.symm).dvd k;rw[e,zD]at hd;have hf:p∣(a*B+b*A+pc n*(a*b)) k:=(Int.mul_dvd_mul_iff_left hn).1 hd;rw[zK,zD]at hf;exact(Int.dvd_add_left (xbC hj (xck _ _))).1 hf
 obtain⟨s,t,fs,ft,ho⟩:=hc;have hq: ∀k,d<=k->a k=0:=fun k hk=>by
  have e:A' k=A k:=by
   by_cases h3:k=d
   ·rw[h3,hA.1,he.1]
   ·rw[hA.2 k (by omega),he.2 k (by omega)]
  have:=ak k;have h4:n*a k=0:=by omega
  exact(xex.1 h4).resolve_left hn
 have hg:Cg p a ((s*a-t*b)*A):=by
  have e1:Cg p a (a*(s*A+t*B)):=by
   have:=(Cg.rfl (m:=p) (f:=a)).mul ho.symm;rw[zL]at this;exact this
  refine e1.trans (Cg.iff_sub.2 ?_);have e:a*(s*A+t*B)-(s*a-t*b)*A=t*(a*B+b*A):=by
   simp only[xw,yj,w8,w7,zb,zy,zg];funext k;simp only[zK,yA];omega
  rw[e];exact hz.mul_zero_l t
 have hr:=hA.zero hp ((fs.mul fa).subt (ft.mul fb)) fun k hk=>by rw[<-hg k,hq k hk,xag]
 have hi:Cg p a (pc 0):=hg.trans (hr.mul_zero_r A);have hs:Cg p (b*A) (pc 0):=by
  have e:b*A=a*B+b*A-a*B:=by
   funext k;simp only[zK,yA];omega
  rw[e];exact hz.zero_sub (hi.mul_zero_r B)
 have ht:Cg p b (pc 0):=hA.zero hp fb fun k _=>by rw[hs k,zM,xag]
 refine⟨Cg.symm (Cg.iff_sub.2 (Cg.of_dvd fun k=> ?_)),Cg.symm (Cg.iff_sub.2 (Cg.of_dvd fun k=> ?_))⟩
 ·rw[<-ea,zD];exact Int.mul_dvd_mul_left n (hi.dvd k)
 ·rw[<-eb,zD];exact Int.mul_dvd_mul_left n (ht.dvd k)
theorem FH{p:Int}(hp:2<=p){A B A' B':Pz}{d:Nat}(hA:Mn A d)(ha:Mn A' d)(fA:Fs A)(fA':Fs A')(fB:Fs B)(fB':Fs B')(hc:qH p A B)(h1:Cg p A A')(h2:Cg p B B'): ∀j,Cg (p^j) (A*B) (A'*B')->Cg (p^j) A A'/\Cg (p^j) B B'
 |0,_=>⟨fun k=>by rw[xbs,Int.emod_one,Int.emod_one],fun k=>by rw[xbs,Int.emod_one,Int.emod_one]⟩
 |1,_=>by
  rw[xbk,xbs,xbX];exact⟨h1,h2⟩
 |j+2,h=>by
  obtain⟨g1,g2⟩:=FH hp hA ha fA fA' fB fB' hc h1 h2 (j+1) (h.down (Ui (by omega)));rw[xbk]at h⊢;exact Oe hp (Int.ne_of_gt (Int.pow_pos (by omega))) (qV (by omega)) hA ha fA fA' fB fB' hc g1 g2 h
def Vc:Nat->Nat->Nat
 |_,0=>1
 |0,_+1=>0
 |n+1,k+1=>Vc n k+Vc n (k+1)
theorem Y6(n:Nat):Vc n 0=1:=by cases n<;>rfl
theorem YN(n k:Nat):Vc (n+1) (k+1)=Vc n k+Vc n (k+1):=rfl
theorem Q5: ∀n k,n<k->Vc n k=0
 |0,0,h=>absurd h (Nat.lt_irrefl _)
 |0,k+1,_=>rfl
 |n+1,0,h=>absurd h (xbv _)
 |n+1,k+1,h=>by rw[YN,Q5 n k (by omega),Q5 n (k+1) (by omega)]
theorem oD: ∀n,Vc n n=1
 |0=>rfl
 |n+1=>by rw[YN,oD n,Q5 n (n+1) (by omega)]
theorem BK: ∀n k,(k+1)*Vc (n+1) (k+1)=(n+1)*Vc n k
 |0,0=>rfl
 |0,k+1=>by rw[YN,Q5 0 (k+1) (by omega),Q5 0 (k+1+1) (by omega)];rfl
 |n+1,0=>by
  have h:=BK n 0;rw[Y6,xaT,xcn,xcD]at h;rw[YN,Y6,show Vc (n+1) (0+1)=n+1 from h];omega
 |n+1,k+1=>by
  have h1:=BK n k;have h2:=BK n (k+1);have h3:=YN n k;rw[YN (n+1) (k+1),xbm,h2,h3];rw[h3]at h1;have e:(k+1+1)*(Vc n k+Vc n (k+1))=(k+1)*(Vc n k+Vc n (k+1))+(Vc n k+Vc n (k+1)):=by rw[xaV (k+1) 1,xcn]
  rw[e,h1,xaV (n+1) 1,xcn,xbm];omega
theorem zdR(a:Int): ∀n,(a+1)^n=zV (n+1) (fun k=>(Vc n k:Int)*a^k)
 |0=>by
  show _=(0:Int)+((1:Nat):Int)*a^0;rw[xbs,xbs];rfl
 |n+1=>by
  have e1:zV (n+1+1) (fun k=>(Vc (n+1) k:Int)*a^k)=1+(zV (n+1) (fun k=>a*((Vc n k:Int)*a^k))+zV (n+1) (fun k=>(Vc n (k+1):Int)*a^(k+1))):=by
   rw[jL,<-Zg];congr 1
   ·show((Vc (n+1) 0:Nat):Int)*a^0=1;rw[Y6,xbs];rfl
   ·exact zU fun k _=>by rw[YN,xdV,Int.add_mul,xbk,<-xbH,<-xbH,xbi (_*a^k) a,<-xbH]
  have e2:zV (n+1) (fun k=>(Vc n k:Int)*a^k)=1+zV (n+1) (fun k=>(Vc n (k+1):Int)*a^(k+1)):=by
   have h:zV (n+1+1) (fun k=>(Vc n k:Int)*a^k)=zV (n+1) (fun k=>(Vc n k:Int)*a^k):=by
    show zV (n+1) _+((Vc n (n+1):Nat):Int)*a^(n+1)=_;rw[Q5 n (n+1) (by omega)];show _+(0:Int)*_=_;rw[xaQ,xbx]
   rw[<-h,jL];congr 1;show((Vc n 0:Nat):Int)*a^0=1;rw[Y6,xbs];rfl
  rw[e1,jR,xbk,zdR a n,xeR,xcf,xbi _ a];omega
theorem L4{p x y:Nat}(hp:2<=p)(hn:vB p)(h0:0<x)(h1:x<p)(h:p∣x*y):p∣y:=
 Nat.Coprime.dvd_of_dvd_mul_left (Uo hp hn h0 h1) h
theorem Mg{p k:Nat}(hp:2<=p)(hn:vB p)(h0:0<k)(h1:k<p):p∣Vc p k:=by
 obtain⟨q,rfl⟩: ∃q,p=q+1:=⟨p-1,by omega⟩;obtain⟨j,rfl⟩: ∃j,k=j+1:=⟨k-1,by omega⟩;exact L4 hp hn h0 h1 ⟨Vc q j,BK q j⟩
theorem FU{p:Nat}(hp:2<=p)(hn:vB p)(a:Int):(a+1)^p % p=(a^p+1) % p:=by
 obtain⟨q,rfl⟩: ∃q,p=q+1:=⟨p-1,by omega⟩;rw[zdR,show q+1+1=(q+1)+1 from rfl];show(zV (q+1) _+((Vc (q+1) (q+1):Nat):Int)*a^(q+1)) % _=_;rw[oD,jL];have hd:((q+1:Nat):Int)∣zV q (fun k=>(Vc (q+1) (k+1):Int)*a^(k+1)):=KE fun k hk=>
  xbC (xeh.2 (Mg hp hn (by omega) (by omega))) (xck _ _)
 obtain⟨c,hc⟩:=hd;rw[hc];show(((Vc (q+1) 0:Nat):Int)*a^0+_+((1:Nat):Int)*a^(q+1)) % _=_;rw[Y6,xbs];have e:((1:Nat):Int)*1+((q+1:Nat):Int)*c+((1:Nat):Int)*a^(q+1)=a^(q+1)+1+((q+1:Nat):Int)*c:=by omega
 rw[e,xeC]
theorem Hx{p:Nat}(hp:2<=p)(hn:vB p): ∀a:Nat,(a:Int)^p % p=a % p
 |0=>by rw[show((0:Nat):Int)=0 from rfl,Int.zero_pow (by omega)]
 |a+1=>by rw[xdV,show((1:Nat):Int)=1 from rfl,FU hp hn,xdN,Hx hp hn a,<-xdN]
theorem pK{p:Int}(hp:wG p=true){a:Int}(h0:0<a)(h1:a<p):(a^(p-2).toNat*a) % p=1:=by
 obtain⟨p1,p2⟩:=zo hp;have hn:=Yg hp;obtain⟨P,rfl⟩:=xaC (show 0<=p by omega);obtain⟨A,rfl⟩:=xaC (show 0<=a by omega);rw[xaM]at hn;have hP:2<=P:=by omega
 have h:=Hx hP hn A;obtain⟨Q,rfl⟩: ∃Q,P=Q+2:=⟨P-2,by omega⟩;rw[show(((Q+2:Nat):Int)-2).toNat=Q by omega];have e:(A:Int)^(Q+2)-A=A*((A:Int)^Q*A-1):=by rw[show Q+2=Q+1+1 from rfl,xbk,xbk,Int.mul_sub,xcf,xbi _ (A:Int)]
 have hd:((Q+2:Nat):Int)∣(A:Int)*((A:Int)^Q*A-1):=by
  rw[<-e];exact xaH (xaI.1 h)
 have hg:Int.gcd ((Q+2:Nat):Int) (A:Int)=1:=Uo hP hn (by omega) (by omega);have ha:=Fm hg hd;have h3:=xaI.2 (xax ha);rw[h3];exact xaz (by decide) (by omega)
section
variable{fu:Nat}{p a x:Int}{l:List Int}
theorem fT(hf:3000000<=fu):k9 fu p=some (if wG p=true then 0 else 1):=by
 unfold k9;rw[za (rA (by omega))];cases h:wG p
 ·rw[iq (by decide),ir (by decide)]
 ·rw[ir (by decide),iq rfl]
theorem Jz(hp:wG p=true)(hf:3000000<=fu):k9 fu p=some 0:=by
 rw[fT hf,iq hp]
theorem Kg(h1:1<=p)(h2:p<=65521)(ha:VW a):Vp fu a p=some (a % p):=by
 unfold Vp;obtain⟨a1,a2⟩:=ha;have hr:=yh (a:=a) (p:=p) (by omega);have ht:=Fe (a:=a) (p:=p) (by omega);rw[zx,yG,zf];by_cases h:xbZ a p<0
 ·rw[iq h]at ht;rw[iq h,zd,ht]
 ·rw[ir h]at ht;rw[ir h,ht]
theorem PN{n:Nat}{f:Pz}(h:x=f n):zl n f++[x]=zl (n+1) f:=by rw[h];exact zcW
theorem Qp(h1:1<=p)(h2:p<=65521)(hr:Rl l)(hl:l.length<=1000000)(hf:3000000<=fu):qc fu l p=some (pm p l):=by
 unfold qc;have hd:=qf (fun k=>ci l k % p) l.length;rw[za (v:=zl l.length (fun k=>ci l k % p))]
 ·rw[za (v:=((dg (fun k=>ci l k % p) l.length:Nat):Int))]
  ·rw[yO,q9 (by rw[zI];exact hd),zf,C8 hd];rfl
  ·rw[zI];refine zE (fun t:Int=> ∃m:Nat,m<=l.length/\t=(m:Int)/\dg (fun k=>ci l k % p) m=dg (fun k=>ci l k % p) l.length) (fun t=>t.toNat) _ ?_ _ _ ⟨l.length,xac _,rfl,rfl⟩ (by omega);rintro t L ⟨m,hm,rfl,hg⟩ ih;unfold Jy
   cases m with
   |zero=>
    rw[zx,<-hg];rfl
   |succ m=>
    rw[zN,show((m+1:Nat):Int)-1=(m:Int)by omega,zd,zp (by rw[zI];omega),zf,vO (by omega)];by_cases h0:ci l m % p=0
    ·rw[iq h0,zd];exact ih _ ⟨m,by omega,rfl,by rw[<-bF (f:=fun k=>ci l k % p) h0,hg]⟩ (by omega)
    ·rw[ir h0,<-hg,Kf (f:=fun k=>ci l k % p) h0]
 ·refine zE (fun s:List Int×Int=> ∃i:Nat,i<=l.length/\s=(zl i (fun k=>ci l k % p),(i:Int))) (fun s=>l.length-s.2.toNat) _ ?_ _ _ ⟨0,xaj _,rfl⟩ (by show l.length-0<fu;omega);rintro s L ⟨i,hi,rfl⟩ ih;unfold JD;simp only;by_cases h:i<l.length
  ·rw[zN,zp h,zf,Zc,za (Kg h1 h2 (hr i)),q9 (by rw[zI];simp;omega),zf,PN (f:=fun k=>ci l k % p) rfl,zd];exact ih _ ⟨i+1,by omega,rfl⟩ (by show l.length-((i:Int)+1).toNat<l.length-(i:Int).toNat;omega)
  ·rw[zx];obtain rfl:i=l.length:=by omega
   rfl
theorem De(hp:wG p=true)(h:Fp p l)(hl:l.length<=1000000)(hf:3000000<=fu):qc fu l p=some l:=by
 obtain⟨p1,p2⟩:=zo hp;rw[Qp (by omega) p2 (h.rl p2) hl hf,h.pm]
theorem gk{a b:List Int}(hp:wG p=true)(ha:Fp p a)(hb:Fp p b)(hc:a.length<=100000)(hd:b.length<=100000)(hf:3000000<=fu):VP fu a b p=some (y4 p a b):=by
 obtain⟨p1,p2⟩:=zo hp;unfold VP;obtain⟨n,hn⟩: ∃n,n=a.length+b.length:=⟨_,rfl⟩;rw[za (De hp ha (by omega) hf),za (De hp hb (by omega) hf),zd,show(a.length:Int)+(b.length:Int)=(n:Int)by omega,yO,yG,zf,QM,za (v:=zl n (fun k=>re (ci a) (ci b) a.length k % p))]
 ·have hz: ∀k,n<=k->re (ci a) (ci b) a.length k % p=0:=fun k hk=>by rw[cj (fun j hj=>zQ hj),vA (fun j hj=>zQ hj) (fun j hj=>zQ hj) (by omega),xag]
  have hr:Rl (zl n (fun k=>re (ci a) (ci b) a.length k % p)):=fun k=>by
   rw[uo hz];have:=yh (a:=re (ci a) (ci b) a.length k) (p:=p) (by omega);exact⟨by omega,by omega⟩
  rw[za (Qp (by omega) p2 hr (by rw[zI];omega) hf)];congr 1;unfold pm y4;rw[zI,<-hn];exact mr fun k hk=>by rw[jc hk,xaD,cj (fun j hj=>zQ hj)]
 ·refine zE (fun s:Int×List Int×List Int×List Int=> ∃i:Nat,i<=a.length/\s=((i:Int),a,b,zl n (fun k=>re (ci a) (ci b) i k % p))) (fun s=>a.length-s.1.toNat) _ ?_ _ _ ⟨0,xaj _,by rw[yo (g:=fun k=>re (ci a) (ci b) 0 k % p) fun k _=>by show(0:Int)=0 % p;rw[xag]];rfl⟩ (by show a.length-0<fu;omega);rintro s L ⟨i,hi,rfl⟩ ih;unfold JA;simp only;by_cases h3:i<a.length
  ·rw[zN,za (v:=(p,zl n (fun k=>re (ci a) (ci b) (i+1) k % p)))]
   ·simp only;rw[zd];exact ih _ ⟨i+1,by omega,rfl⟩ (by show a.length-((i:Int)+1).toNat<a.length-(i:Int).toNat;omega)
   ·refine zE (fun s:Int×Int×List Int=> ∃j:Nat,j<=b.length/\s=(p,(j:Int),zl n (fun k=>cP (ci a) (ci b) i j k % p))) (fun s=>b.length-s.2.1.toNat) _ ?_ _ _ ⟨0,xaj _,by rw[yo fun k _=>by rw[<-tP]];rfl⟩ (by show b.length-0<fu;omega);rintro s L2 ⟨j,hj,rfl⟩ ih2;unfold JE;simp only;by_cases h4:j<b.length
    ·have e:(i:Int)+(j:Int)=((i+j:Nat):Int):=by omega
     have r1:=yh (a:=cP (ci a) (ci b) i j (i+j)) (p:=p) (by omega);obtain⟨r2,r3⟩:=YK p2 (ha.nn i) (ha.lt i) (hb.nn j) (hb.lt j);rw[zN,e,zd,zd,zp (by rw[zI];omega),zf,vO (by omega),zp h3,zf,zp h4,zf,Zc,Zc,zd,zd,yG,zf,ux (by omega),zp (by rw[zI];omega),zf,jF,zd];exact ih2 _ ⟨j+1,by omega,by rw[yo fun k _=>tC (ci a) (ci b) p i j k];rfl⟩ (by show b.length-((j:Int)+1).toNat<b.length-(j:Int).toNat;omega)
    ·rw[zx];obtain rfl:j=b.length:=by omega
     rw[yo fun k _=>by rw[tw (fun k hk=>zQ hk)]]
  ·rw[zx];obtain rfl:i=a.length:=by omega
   rfl
theorem Ij(x p:Int): ∀n,(x % p)^n % p=x^n % p
 |0=>by rw[xbs,xbs]
 |n+1=>by rw[xbk,xbk,xbo,Ij x p n,xaD,<-xbo]
theorem n7{n:Nat}(hp:wG p=true)(ha:0<=a)(hj:a<p)(hn:n<=1000000)(hf:3000000<=fu):JT fu a (n:Int) p=some (a^n % p,0):=by
 obtain⟨p1,p2⟩:=zo hp;unfold JT;rw[za (Jz hp hf),iq rfl,zx,yG,zf,ux (by decide),za (Kg (by omega) p2 ⟨by omega,by omega⟩),za (v:=a^n % p)];refine zE (fun s:Int×Int×Int=> ∃(x y:Int) (i:Nat),s=(x,y,(i:Int))/\i<=n/\0<=x/\x<p/\0<=y/\y<p/\(x*y^i) % p=a^n % p) (fun s=>s.2.2.toNat) _ ?_ _ _ ⟨1 % p,a % p,n,rfl,xac _,(yh (by omega)).1,(yh (by omega)).2,(yh (by omega)).1,(yh (by omega)).2,?_⟩ (by show n<fu;omega)
 ·rintro s L ⟨x,y,i,rfl,hi,x1,x2,y1,y2,he⟩ ih;unfold UZ;simp only;obtain⟨q1,q2⟩:=YK p2 x1 x2 y1 y2;obtain⟨q3,q4⟩:=YK p2 y1 y2 y1 y2;have hb:=yh (a:=y*y) (p:=p) (by omega);have hc:=yh (a:=x*y) (p:=p) (by omega);have hd:xda (i:Int) 2=((i/2:Nat):Int):=by rw[xdF (by omega)];omega
  have hg: ∀z:Int,(z*(y*y % p)^(i/2)) % p=(z*(y^(2*(i/2)))) % p:=fun z=>by rw[xbo,Ij,<-xbo,Int.pow_mul,show y^2=y*y from by rw[xbk,xbk,xbs,xbX]]
  by_cases h0:0<i
  ·rw[zN,q9 (by decide),zf,ux (by omega)];by_cases h1:i % 2=1
   ·rw[zN,zd,yG,zf,ux q1,zd,yG,zf,ux q3,q9 (by decide),hd,zd];refine ih _ ⟨_,_,i/2,rfl,by omega,hc.1,hc.2,hb.1,hb.2,?_⟩ (by show((i/2:Nat):Int).toNat<(i:Int).toNat;omega);rw[hg,xbo,xaD,<-xbo,<-he];congr 1;have e:i=2*(i/2)+1:=by omega
    conv=>rhs;rw[e]
    rw[xbk,xbH,xbi y]
   ·rw[zx,zd,yG,zf,ux q3,q9 (by decide),hd,zd];refine ih _ ⟨_,_,i/2,rfl,by omega,x1,x2,hb.1,hb.2,?_⟩ (by show((i/2:Nat):Int).toNat<(i:Int).toNat;omega);rw[hg,<-he];congr 3;omega
  ·rw[zx];obtain rfl:i=0:=by omega
   rw[xbs,xcf,xaz x1 x2]at he;rw[he]
 ·rw[xbo,xaD,Ij,<-xbo,xbX]
theorem aJ(hp:wG p=true)(h0:0<a)(h1:a<p)(hf:3000000<=fu): ∃x,XD fu a p=some x/\0<x/\x<p/\(x*a) % p=1:=by
 obtain⟨p1,p2⟩:=zo hp;unfold XD;rw[zd];obtain⟨n,hn⟩: ∃n:Nat,p-2=(n:Int):=⟨(p-2).toNat,by omega⟩;have ha:=pK hp h0 h1;rw[hn,xaM]at ha;rw[hn,za (n7 hp (by omega) h1 (by omega) hf)];simp only;have hr:=yh (a:=a^n) (p:=p) (by omega);by_cases h2:p=2
 ·rw[iq h2];refine⟨1,rfl,by decide,by omega,?_⟩;rw[xbX,xaz (by omega) h1];omega
 ·rw[ir h2];have h3:(a^n % p*a) % p=1:=by rw[xbo,xaD,<-xbo];exact ha
  exact⟨_,rfl,Nn hr.1 h3,hr.2,h3⟩
theorem R1{y c:Int}(x0:0<=x)(x1:x<p)(y0:0<=y)(y1:y<p)(hx:(x*c) % p=1)(hy:(y*c) % p=1):x=y:=by
 have h1:(x*(y*c)) % p=x:=by rw[xbo,hy,xcf,xaD,xaz x0 x1]
 have h2:(x*(y*c)) % p=y:=by rw[show x*(y*c)=y*(x*c)by rw[<-xbH,<-xbH,xbi x y],xbo,hx,xcf,xaD,xaz y0 y1]
 rw[<-h1,h2]
end
section
variable{p x:Int}{a:List Int}{fu:Nat}
structure RU(p:Int)(a m:List Int):Prop where
 fm:Fp p m
 ln:m.length=a.length
 top:ci m (m.length-1)=1
 cg: ∃x y:Int,Cg p (ci m) (pc x*ci a)/\Cg p (ci a) (pc y*ci m)
theorem DU(hp:2<=p)(ha:Fp p a)(hd:0<a.length)(hx:(x*ci a (a.length-1)) % p=1):RU p a (y4 p a [x]):=by
 have hb: ∀k,ci (y4 p a [x]) k=(x*ci a k) % p:=fun k=>by rw[QP,v8,zg,zD]
 have hc:(y4 p a [x]).length=a.length:=by
  refine xcR ((vJ (by omega) _ _).nl.le fun k hk=> ?_) (xbw fun he=> ?_)
  ·rw[hb,zQ hk,xas,xag]
  ·have h3:=hb (a.length-1);rw[hx,zQ (by omega)]at h3;cases h3
 have h1:Cg p (ci (y4 p a [x])) (pc x*ci a):=fun k=>by rw[hb,zD,xaD]
 refine⟨vJ (by omega) _ _,hc,by rw[hc,hb,hx],x,ci a (a.length-1),h1,?_⟩;refine Cg.symm ((Cg.rfl.mul h1).trans ?_);rw[<-zb];refine Cg.trans (Cg.mul (fun k=> ?_) Cg.rfl) (Cg.of (zt _));rw[qL,xbi];unfold pc;split
 ·rw[hx];exact(xaz (by decide) (by omega)).symm
 ·rfl
theorem Oq(hp:wG p=true)(ha:Fp p a)(hc:0<a.length)(hd:a.length<=90000)(x0:0<x)(x1:x<p)(hx:(x*ci a (a.length-1)) % p=1)(hf:3000000<=fu):U9 fu a p=some (y4 p a [x],0):=by
 obtain⟨p1,p2⟩:=zo hp;have hb:ci a (a.length-1)≠0:=by
  rcases ha.nl with h|h
  ·omega
  ·exact h
 have t1:=ha.nn (a.length-1);obtain⟨y,e1,e2,e3,e4⟩:=aJ (fu:=fu) hp (show 0<ci a (a.length-1)by omega) (ha.lt _) hf;obtain rfl:=R1 (by omega) x1 (by omega) e3 hx e4;unfold U9;rw[za (Jz hp hf),iq rfl,za (De hp ha (by omega) hf),zx,show(a.length:Int)-1=((a.length-1:Nat):Int)by omega,zd,yB,zf,Zc,za e1,za (gk hp ha (Yc e2 e3) (by omega) (by simp) hf)]
theorem Yj(hp:wG p=true)(ha:Fp p a)(hd:0<a.length)(hb:a.length<=90000)(hf:3000000<=fu): ∃x,0<x/\x<p/\(x*ci a (a.length-1)) % p=1/\qd fu a p=some (y4 p a [x],0):=by
 obtain⟨p1,p2⟩:=zo hp;have hc:ci a (a.length-1)≠0:=by
  rcases ha.nl with h|h
  ·omega
  ·exact h
 have t1:=ha.nn (a.length-1);obtain⟨x,x0,x1,hx,_,e⟩:=VG (fu:=fu) hp ha (show 0<ci a (a.length-1)by omega) (ha.lt _) hb hf;refine⟨x,x0,x1,hx,?_⟩;unfold qd;rw[za (jQ hp (by omega)),iq rfl,za (zG (by omega) p2 (ha.rl p2) (by omega) hf),ha.pm,zx,show(a.length:Int)-1=((a.length-1:Nat):Int)by omega,zd,yB,zf,Zc,za e]
end
theorem WE{fu:Nat}{p:Int}{g h:List Int}(hp:wG p=true)(hg:Fp p g)(hh:Fp p h)(ha:g.length<=290)(hb:h.length<=290)(hf:3000000<=fu):
 ∃d s t,qI fu g h p=some (d,0)/\BzR p g h d s t (2+max g.length h.length*(max g.length h.length+1))/\(d.length=0\/ci d (d.length-1)=1):=by
 obtain⟨d,s,t,e1,e2,e3⟩:=jy (fu:=fu) hp hg hh ha hb hf;refine⟨d,s,t,?_,e2,e3⟩;unfold qI;rw[za e1]
theorem MN{p:Int}{g h d s t:List Int}{S:Nat}(hp:2<=p)(hR:BzR p g h d s t S)(hd:d.length=0\/ci d (d.length-1)=1):d.length=1↔qH p (ci g) (ci h):=by
 refine⟨fun h1=>AI hR h1 (hd.resolve_left (by omega)),fun hc=> ?_⟩;obtain⟨A,C,z1,z2,d1,d2⟩:=hR.dv;obtain⟨u,v,z3,z4,hc⟩:=hc;have hx:Cg p ((u*A+v*C)*ci d) (pc 1):=by
  refine Cg.trans (Cg.of ?_) ((((Cg.rfl (f:=u)).mul d1.symm).add ((Cg.rfl (f:=v)).mul d2.symm)).trans hc);rw[yj,zb,zb]
 have ha:0<d.length:=by
  refine xcE fun e=> ?_;have h1:=hx 0;rw[xk,yF fun i hi=>by rw[zQ (l:=d) (by omega),xas]]at h1;unfold pc at h1;rw[iq rfl,xag,xaz (by decide) (by omega)]at h1;cases h1
 exact DI hp ((z3.mul z1).add (z4.mul z2)) ha (hd.resolve_left (by omega)) hx
section
variable{a:List Int}{p:Int}
def dvp(f:Pz):Pz:=fun k=>((k+1:Nat):Int)*f (k+1)
theorem XR(f g:Pz):dvp (f*g)=dvp f*g+f*dvp g:=by
 funext k;show((k+1:Nat):Int)*(f*g) (k+1)=(dvp f*g) k+(f*dvp g) k;rw[xk,xk,xk,<-jR];have e:zV (k+1+1) (fun i=>((k+1:Nat):Int)*(f i*g (k+1-i)))=zV (k+1+1) (fun i=>(i:Int)*(f i*g (k+1-i)))+zV (k+1+1) (fun i=>((k+1-i:Nat):Int)*(f i*g (k+1-i))):=by
  rw[<-Zg];exact zU fun i hi=>by
   rw[<-Int.add_mul];congr 1;omega
 rw[e];congr 1
 ·rw[jL];show((0:Nat):Int)*_+_=_;rw[show((0:Nat):Int)=0 from rfl,xaQ,xcA];exact zU fun i hi=>by
   show((i+1:Nat):Int)*(f (i+1)*g (k+1-(i+1)))=((i+1:Nat):Int)*f (i+1)*g (k-i);rw[show k+1-(i+1)=k-i by omega,xbH]
 ·show zV (k+1) _+((k+1-(k+1):Nat):Int)*_=_;rw[xcW,show((0:Nat):Int)=0 from rfl,xaQ,xbx];exact zU fun i hi=>by
   show((k+1-i:Nat):Int)*(f i*g (k+1-i))=f i*(((k-i+1:Nat):Int)*g (k-i+1));rw[show k+1-i=k-i+1 by omega,<-xbH,<-xbH,xbi (f i)]
theorem TT{m:Int}{f g:Pz}(h:Cg m f g):Cg m (dvp f) (dvp g):=fun k=>by
 show(((k+1:Nat):Int)*f (k+1)) % m=(((k+1:Nat):Int)*g (k+1)) % m;rw[xbo,h,<-xbo]
theorem zey(c:Int):dvp (pc c)=pc 0:=funext fun k=>by
 show((k+1:Nat):Int)*pc c (k+1)=pc 0 k;rw[zM];unfold pc;rw[zx,xas]
def drv(p:Int)(a:List Int):List Int:=nl a.length (fun k=>dvp (ci a) k % p)
theorem zcu{k:Nat}(h:a.length<=k+1):dvp (ci a) k=0:=by
 show((k+1:Nat):Int)*ci a (k+1)=0;rw[zQ h,xas]
theorem Cj(p:Int)(a:List Int)(k:Nat):ci (drv p a) k=dvp (ci a) k % p:=mI (fun k hk=>by rw[zcu (by omega),xag]) k
theorem za0(p:Int)(a:List Int):Cg p (ci (drv p a)) (dvp (ci a)):=fun k=>by rw[Cj,xaD]
theorem R6(hp:0<p)(a:List Int):Fp p (drv p a):=⟨fun k=>by rw[Cj];exact(yh hp).1,fun k=>by rw[Cj];exact(yh hp).2,gJ _ _⟩
theorem zeT(p:Int)(a:List Int):(drv p a).length<=a.length:=Aa _ _
theorem fG{fu:Nat}(hp:wG p=true)(ha:Fp p a)(hc:a.length<=90000)(hf:3000000<=fu):YB fu a p=some (drv p a,0):=by
 obtain⟨p1,p2⟩:=zo hp;unfold YB;have hb: ∀k:Nat,0<=((k:Int) % p)*ci a k/\((k:Int) % p)*ci a k<=4293001441:=fun k=>by
  have hr:=yh (a:=(k:Int)) (p:=p) (by omega);exact YK p2 hr.1 hr.2 (ha.nn k) (ha.lt k)
 rw[za (jQ hp (by omega)),iq rfl,za (zG (by omega) p2 (ha.rl p2) (by omega) hf),ha.pm,za (v:=zl (a.length-1) (fun k=>(((k+1:Nat):Int) % p)*ci a (k+1)))]
 ·have hz: ∀k,a.length-1<=k->(((k+1:Nat):Int) % p)*ci a (k+1)=0:=fun k hk=>by rw[zQ (by omega),xas]
  have hr:Rl (zl (a.length-1) (fun k=>(((k+1:Nat):Int) % p)*ci a (k+1))):=fun k=>by
   rw[uo hz];have:=hb (k+1);exact⟨by omega,by omega⟩
  rw[za (zG (by omega) p2 hr (by rw[zI];omega) hf)];congr 2;refine(px (by omega) _).ext (R6 (by omega) _) fun k=> ?_;rw[sY,uo hz,Cj,xaD,xaD];show _=(((k+1:Nat):Int)*ci a (k+1)) % p;rw[xbo,xaD,<-xbo]
 ·refine zE (fun s:List Int×Int×List Int=> ∃i:Nat,i<=a.length/\s=(zl (i-1) (fun k=>(((k+1:Nat):Int) % p)*ci a (k+1)),(i:Int),a)) (fun s=>a.length-s.2.1.toNat) _ ?_ _ _ ⟨0,xaj _,rfl⟩ (by show a.length-0<fu;omega);rintro s L ⟨i,hi,rfl⟩ ih;unfold JI;simp only;by_cases h:i<a.length
  ·rw[zN,za rfl];simp only[if_true];rw[zp h,zf,Zc];by_cases h0:0<i
   ·have hd:=hb i;obtain⟨j,rfl⟩: ∃j,i=j+1:=⟨i-1,by omega⟩;rw[zN,yG,zf,ux (by omega),zd,q9 (by rw[zI];simp;omega),zf,show j+1-1=j by omega,PN (f:=fun k=>(((k+1:Nat):Int) % p)*ci a (k+1)) rfl,zd];exact ih _ ⟨j+1+1,by omega,rfl⟩ (by show a.length-(((j+1:Nat):Int)+1).toNat<a.length-((j+1:Nat):Int).toNat;omega)
   ·obtain rfl:i=0:=by omega
    rw[zx,zd];exact ih _ ⟨1,by omega,rfl⟩ (by show a.length-(((0:Nat):Int)+1).toNat<a.length-((0:Nat):Int).toNat;omega)
  ·rw[zx,za rfl];simp only[xak,if_false];obtain rfl:i=a.length:=by omega
   rfl
end
section
variable{p:Int}{m g d:List Int}{A:Pz}
structure wC(p:Int)(m:List Int):Prop where
 fm:Fp p m
 ln:0<m.length
 top:ci m (m.length-1)=1
theorem wC.mn(h:wC p m):Mn (ci m) (m.length-1):=⟨h.top,fun k hk=>zQ (by omega)⟩
theorem wC.one(h:wC p m)(hl:m.length=1):m=[1]:=by
 match m,hl with
 |[x],_=>have:=h.top;exact congrArg (fun y=>[y]) this
theorem Al{q r:List Int}(hp:2<=p)(hm:wC p m)(hg:wC p g)(fA:Fs A)(hd:Cg p (ci m) (A*ci g))(hq:Fp p q)(hr:Fp p r)(ha:Cg p (ci m) (ci q*ci g+ci r))(he:r.length<g.length):
 wC p q/\Cg p (ci m) (ci q*ci g)/\m.length+1=q.length+g.length:=by
 have hf:=hg.ln;have h1:Cg p ((A-ci q)*ci g) (ci r):=by
  rw[w7];refine((hd.symm.trans ha).sub Cg.rfl).trans (Cg.of ?_);funext k;rw[yA,zK];omega
 have h2:=hg.mn.zero hp (fA.subt (Fs.ci q)) fun k hk=>by rw[h1 k,zQ (by omega),xag]
 have h3:Cg p (ci r) (pc 0):=h1.symm.trans (h2.mul_zero_r _);have h4:Cg p (ci m) (ci q*ci g):=by
  refine ha.trans (Cg.iff_sub.2 ?_);have e:ci q*ci g+ci r-ci q*ci g=ci r:=by
   funext k;rw[yA,zK];omega
  rw[e];exact h3
 have hl:=hm.ln;have q0:0<q.length:=by
  refine xcE fun e=> ?_;have h5:=h4 (m.length-1);rw[hm.top,xk,yF fun i hi=>by rw[zQ (l:=q) (by omega),xaQ],xag,xaz (by decide) (by omega)]at h5;cases h5
 have ht:=hg.mn.top (x:=ci q) (n:=q.length-1) fun k hk=>zQ (by omega);have h6:=h4 (q.length-1+(g.length-1));rw[ht,hm.fm.mod,hq.mod]at h6;have hc:ci q (q.length-1)≠0:=by
  rcases hq.nl with h|h
  ·omega
  ·exact h
 have hb:m.length+1=q.length+g.length:=by
  have a1:q.length-1+(g.length-1)<m.length:=xdJ fun h=>by
   rw[zQ h]at h6;exact hc h6.symm
  have a2:m.length<=q.length-1+(g.length-1)+1:=hm.fm.nl.le fun k hk=>by rw[<-hm.fm.mod,h4,vA (n:=q.length) (m:=g.length) (fun j hj=>zQ hj) (fun j hj=>zQ hj) (by omega),xag]
  omega
 refine⟨⟨hq,q0,?_⟩,h4,hb⟩;rw[<-h6,show q.length-1+(g.length-1)=m.length-1 by omega,hm.top]
theorem zbE{h s t:List Int}{S:Nat}(hp:2<=p)(hg:wC p g)(hR:BzR p g h d s t S)(hd:d.length=0\/ci d (d.length-1)=1):wC p d:=by
 obtain⟨A,C,z1,z2,d1,d2⟩:=hR.dv;have hl:0<d.length:=by
  refine xcE fun e=> ?_;have h1:=d1 (g.length-1);rw[hg.top,xk,yF fun i hi=>by rw[zQ (l:=d) (by omega),xas],xag,xaz (by decide) (by omega)]at h1;cases h1
 exact⟨hR.df,hl,hd.resolve_left (by omega)⟩
theorem Ub{a:List Int}(hp:2<=p)(ha:wC p a)(hd:wC p d)(fA:Fs A)(h:Cg p (ci a) (A*ci d)):d.length<=a.length:=by
 have hb:=ha.ln;refine xbw fun hc=> ?_;have hz: ∀k,d.length-1<=k->(A*ci d) k % p=0:=fun k hk=>by rw[<-h k,zQ (by omega),xag]
 have h0:=hd.mn.zero hp fA hz;have h5:=(h.trans (h0.mul_zero_r _)) (a.length-1);rw[ha.top,zM,xag,xaz (by decide) (by omega)]at h5;cases h5
end
theorem Ry{p:Int}{m:List Int}(hp:0<p)(hm:Fp p m):y4 p m [1]=m:=by
 refine(vJ hp _ _).ext hm ((ky p m [1]).trans (Cg.of ?_));rw[v8,zL]
section
variable{m u d g:List Int}{P:Nat}{f v w:Pz}{y p a:Int}{b:Nat->Pz}{l us:List (List Int)}
def pp(f:Pz):Nat->Pz
 |0=>pc 1
 |n+1=>pp f n*f
theorem fF(f:Pz)(m:Nat): ∀n,pp f (m+n)=pp f m*pp f n
 |0=>(zL _).symm
 |n+1=>by rw[<-xcY];show pp f (m+n)*f=_;rw[fF f m n,zb];rfl
theorem zao(f g:Pz): ∀n,pp (f*g) n=pp f n*pp g n
 |0=>(zL _).symm
 |n+1=>by
  show pp (f*g) n*(f*g)=pp f n*f*(pp g n*g);rw[zao f g n,zb,zb,zy (pp g n)]
theorem Sc(f:Pz)(m:Nat): ∀n,pp (pp f m) n=pp f (m*n)
 |0=>rfl
 |n+1=>by rw[Nat.mul_succ,fF f,<-Sc f m n];rfl
theorem TV(c:Int): ∀n,pp (pc c) n=pc (c^n)
 |0=>by rw[xbs];rfl
 |n+1=>by show pp (pc c) n*pc c=_;rw[TV c n,qL,xbk]
theorem Fs.pp{f:Pz}(h:Fs f): ∀n,Fs (pp f n)
 |0=>⟨1,fun k hk=>zx⟩
 |n+1=>(Fs.pp h n).mul h
def smP:Nat->(Nat->Pz)->Pz
 |0,_=>pc 0
 |n+1,F=>smP n F+F n
theorem ZX{F G:Nat->Pz}: ∀n,(∀i,i<n->F i=G i)->smP n F=smP n G
 |0,_=>rfl
 |n+1,h=>by show smP n F+F n=smP n G+G n;rw[ZX n fun i hi=>h i (by omega),h n (by omega)]
theorem IV{m:Int}{F G:Nat->Pz}: ∀n,(∀i,i<n->Cg m (F i) (G i))->Cg m (smP n F) (smP n G)
 |0,_=>Cg.rfl
 |n+1,h=>(IV n fun i hi=>h i (by omega)).add (h n (by omega))
theorem W5(f g:Pz):f+g=g+f:=funext fun k=>by rw[zK,zK,xfv]
theorem YU(f g h:Pz):f+g+h=f+(g+h):=funext fun k=>by simp only[zK];omega
theorem Yk(f:Pz):f+pc 0=f:=funext fun k=>by rw[zK,zM,xbx]
theorem mj(f:Pz):pc 0+f=f:=funext fun k=>by rw[zK,zM,xcA]
theorem bU(g:Pz)(F:Nat->Pz): ∀n,smP n F*g=smP n fun i=>F i*g
 |0=>yg g
 |n+1=>by show(smP n F+F n)*g=smP n (fun i=>F i*g)+F n*g;rw[yj,bU g F n]
theorem Cl(F G:Nat->Pz): ∀n,smP n (fun i=>F i+G i)=smP n F+smP n G
 |0=>(Yk _).symm
 |n+1=>by
  show smP n (fun i=>F i+G i)+(F n+G n)=smP n F+F n+(smP n G+G n);rw[Cl F G n];funext k;simp only[zK];omega
theorem uK(F:Nat->Pz): ∀n,smP (n+1) F=F 0+smP n fun i=>F (i+1)
 |0=>by show pc 0+F 0=F 0+pc 0;rw[W5]
 |n+1=>by show smP (n+1) F+F (n+1)=F 0+(smP n (fun i=>F (i+1))+F (n+1));rw[uK F n,YU]
theorem PW{m:Int}{F:Nat->Pz}(n:Nat)(h: ∀i,i<n->Cg m (F i) (pc 0)):Cg m (smP n F) (pc 0):=by
 induction n with
 |zero=>exact Cg.rfl
 |succ n ih=>
  have:=(ih fun i hi=>h i (by omega)).add (h n (by omega));rw[Yk]at this;exact this
theorem Ix(a b:Int):pc (a+b)=pc a+pc b:=funext fun k=>by rw[zK];unfold pc;split<;>omega
theorem zah(f g:Pz): ∀n,pp (f+g) n=smP (n+1) fun i=>pc (Vc n i)*(pp f i*pp g (n-i))
 |0=>by
  show pc 1=pc 0+pc ((Vc 0 0:Nat):Int)*(pc 1*pc 1);rw[mj,zt,show((Vc 0 0:Nat):Int)=1 from rfl,zt]
 |n+1=>by
  show pp (f+g) n*(f+g)=_;rw[zah f g n,xw,bU,bU];have e1:(smP (n+1) fun i=>pc (Vc n i)*(pp f i*pp g (n-i))*g)=smP (n+2) fun i=>pc (Vc n i)*(pp f i*pp g (n+1-i)):=by
   have hz:pc ((Vc n (n+1):Nat):Int)*(pp f (n+1)*pp g (n+1-(n+1)))=pc 0:=by rw[Q5 n (n+1) (by omega)];exact yg _
   show _=smP (n+1) _+pc ((Vc n (n+1):Nat):Int)*(pp f (n+1)*pp g (n+1-(n+1)));rw[hz,Yk];refine ZX _ fun i hi=> ?_;rw[show n+1-i=n-i+1 by omega,zb,zb];rfl
  have e2:(smP (n+1) fun i=>pc (Vc n i)*(pp f i*pp g (n-i))*f)=smP (n+1) fun i=>pc (Vc n i)*(pp f (i+1)*pp g (n+1-(i+1))):=
   ZX _ fun i hi=>by rw[show n+1-(i+1)=n-i by omega,zb,zg (pp f i*_) f,<-zb f,zg f (pp f i)];rfl
  rw[e1,e2,uK _ (n+1),uK (fun i=>pc ((Vc (n+1) i:Nat):Int)*(pp f i*pp g (n+1-i))) (n+1),Y6,Y6,<-YU,W5 (smP _ _),YU,<-Cl];congr 1;refine ZX _ fun i hi=> ?_;rw[YN,xdV,Ix,yj,W5]
theorem zhe(hp:2<=P)(hn:vB P)(f g:Pz):Cg (P:Int) (pp (f+g) P) (pp f P+pp g P):=by
 obtain⟨q,rfl⟩: ∃q,P=q+1:=⟨P-1,by omega⟩;rw[zah];show Cg _ (smP (q+1) _+pc ((Vc (q+1) (q+1):Nat):Int)*(pp f (q+1)*pp g (q+1-(q+1)))) _;rw[uK,oD,Y6,xcW,show((1:Nat):Int)=1 from rfl,zt,zt];have hz:=PW (m:=((q+1:Nat):Int)) (F:=fun i=>pc ((Vc (q+1) (i+1):Nat):Int)*(pp f (i+1)*pp g (q+1-(i+1)))) q fun i hi=>Cg.of_dvd fun k=>by
  rw[zD];exact xbC (xeh.2 (Mg hp hn (by omega) (by omega))) (xck _ _)
 have h1:pp f 0*pp g (q+1-0)=pp g (q+1):=zt _;have h2:pp f (q+1)*pp g 0=pp f (q+1):=zL _;rw[h1,h2];have h3:=((Cg.rfl (m:=((q+1:Nat):Int)) (f:=pp g (q+1))).add hz).add (Cg.rfl (f:=pp f (q+1)));rw[Yk,W5 (pp g _) (pp f _)]at h3;exact h3
theorem sU{P:Nat}(hp:2<=P)(hn:vB P)(F:Nat->Pz): ∀n,Cg (P:Int) (pp (smP n F) P) (smP n fun i=>pp (F i) P)
 |0=>by
  show Cg _ (pp (pc 0) P) (pc 0);rw[TV,Int.zero_pow (by omega)];exact Cg.rfl
 |n+1=>(zhe hp hn (smP n F) (F n)).trans ((sU hp hn F n).add Cg.rfl)
def vx:Pz:=mono 1 1
theorem M9(c:Int): ∀i,(mono i c:Pz)=pc c*pp vx i
 |0=>by
  show _=pc c*pc 1;rw[zL];funext k;unfold mono pc;rfl
 |i+1=>by
  show _=pc c*(pp vx i*vx);rw[<-zb,<-M9 c i];funext k;rw[zg];show mono (i+1) c k=((mono 1 1:Pz)*mono i c) k;rw[Y3];unfold sh mono;by_cases h:1<=k
  ·rw[iq h];by_cases h2:k=i+1
   ·rw[iq h2,zN,xbX]
   ·rw[ir h2,zx,xas]
  ·rw[ir h,zx];rfl
theorem za3{n:Nat}(h: ∀k,n<=k->f k=0):f=smP n fun i=>mono i (f i):=by
 have hs: ∀m k,smP m (fun i=>(mono i (f i):Pz)) k=if k<m then f k else 0:=fun m=>by
  induction m with
  |zero=>intro k;rw[zx];exact zM k
  |succ m ih=>
   intro k;show(smP m (fun i=>(mono i (f i):Pz))+mono m (f m)) k=_;rw[zK,ih];unfold mono;by_cases h1:k=m
   ·rw[iq h1,zx,zN,h1,xcA]
   ·rw[ir h1,xbx];by_cases h2:k<m
    ·rw[iq h2,zN]
    ·rw[ir h2,zx]
 funext k;rw[hs];split
 ·rfl
 ·exact h k (by omega)
theorem nJ(hp:2<=P)(hn:vB P)(a:Int):a^P % P=a % P:=by
 have h1:a % P=((a % P).toNat:Int) % P:=by
  have:=xcS a (show(P:Int)≠0 by omega);rw[xcV this,xaD]
 have h2:=Hx hp hn (a % P).toNat;have h3:=xcS a (show(P:Int)≠0 by omega);rw[xcV h3,xaD]at h2;rw[<-h2,<-xcC (a^P) (xdO _)];have: ∀n,(a % P)^n % P=a^n % P:=fun n=>by
  induction n with
  |zero=>rw[xbs,xbs]
  |succ n ih=>rw[xbk,xbk,xbo,ih,xaD,<-xbo]
 rw[this,xaD]
theorem zh5(hp:2<=P)(hn:vB P){n:Nat}(h: ∀k,n<=k->f k=0):Cg (P:Int) (pp f P) (smP n fun i=>pc (f i)*pp (pp vx P) i):=by
 have h1:pp f P=pp (smP n fun i=>mono i (f i)) P:=by rw[<-za3 h]
 rw[h1];refine(sU hp hn _ n).trans (IV n fun i hi=> ?_);rw[M9,zao,TV,Sc,Sc,xba];refine Cg.mul (fun k=> ?_) Cg.rfl;unfold pc;split
 ·exact nJ hp hn _
 ·rfl
def es(d:Nat->Int):Nat->Int->Int
 |0,_=>0
 |n+1,a=>d 0+a*es (fun k=>d (k+1)) n a
theorem Sb(a:Int): ∀(n:Nat) (d:Nat->Int),∃q:Nat->Int,(∀b,es d (n+1) b=(b-a)*es q n b+es d (n+1) a)/\(∀k,k<n->d (k+1)=q k-a*(if k+1<n then q (k+1)else 0))/\d 0=es d (n+1) a-a*(if 0<n then q 0 else 0)
 |0,d=>⟨fun _=>0,fun b=>by show d 0+b*0=(b-a)*0+(d 0+a*0);grind,fun k hk=>by omega,by show d 0=d 0+a*0-a*(if 0<0 then 0 else 0);rw[zx];grind⟩
 |n+1,d=>by
  obtain⟨q,h1,h2,h3⟩:=Sb a n fun k=>d (k+1);obtain⟨e,he⟩: ∃e,e=es (fun k=>d (k+1)) (n+1) a:=⟨_,rfl⟩;rw[<-he]at h1 h3
  refine⟨fun k=>match k with
   |0=>e
   |k+1=>q k,fun b=> ?_,fun k hk=> ?_,?_⟩
  ·show d 0+b*es (fun k=>d (k+1)) (n+1) b=(b-a)*(e+b*es q n b)+(d 0+a*es (fun k=>d (k+1)) (n+1) a);rw[h1 b,<-he];generalize es q n b=x;grind
  ·cases k with
   |zero=>
    show d (0+1)=e-a*(if 0+1<n+1 then q 0 else 0);have ha:d (0+1)=e-a*(if 0<n then q 0 else 0):=h3;rw[ha];by_cases hn:0<n
    ·rw[iq hn,zN]
    ·rw[ir hn,zx]
   |succ k=>
    show d (k+1+1)=q k-a*(if k+1+1<n+1 then q (k+1)else 0);rw[h2 k (by omega)];by_cases hn:k+1<n
    ·rw[iq hn,zN]
    ·rw[ir hn,zx]
  ·show d 0=d 0+a*es (fun k=>d (k+1)) (n+1) a-a*(if 0<n+1 then e else 0);rw[zN,he];grind
theorem Cd(hp:2<=P)(hn:vB P){x:Int}(h:(P:Int)∣x*y):(P:Int)∣x\/(P:Int)∣y:=by
 by_cases hx:(P:Int)∣x
 ·exact .inl hx
 ·right;have h0:0<(x % P).toNat:=by
   have h1:=xcS x (show(P:Int)≠0 by omega);have h2:x % P≠0:=fun e=>hx (xaH e);omega
  have h1:(x % P).toNat<P:=by
   have:=xdv x (show(0:Int)<P by omega);omega
  have h2:(P:Int)∣(x % P)*y:=by
   have:(x % P)*y=x*y-P*(x/P*y):=by
    have:=Int.emod_add_mul_ediv x P;grind
   rw[this];exact xdo h (xck _ _)
  have h3:P∣(x % P).toNat*y.natAbs:=by
   have h4:=xcm.2 h2;rw[xcb]at h4;have h5:(x % P).natAbs=(x % P).toNat:=by omega
   rwa[xbb,h5]at h4
  exact xcm.1 (by rw[xbb];exact L4 hp hn h0 h1 h3)
theorem Ma{P:Nat}(hp:2<=P)(hn:vB P): ∀(n:Nat) (d:Nat->Int),n<=P->(∀a:Nat,a<n->(P:Int)∣es d n a)-> ∀k,k<n->(P:Int)∣d k
 |0,_,_,_,k,hk=>by omega
 |n+1,d,hP,h,k,hk=>by
  obtain⟨q,h1,h2,h3⟩:=Sb (n:Int) n d;have hq:=Ma hp hn n q (by omega) fun a ha=>by
   have e1:=h1 a;have e2:(P:Int)∣((a:Int)-n)*es q n a:=by
    have:((a:Int)-n)*es q n a=es d (n+1) a-es d (n+1) n:=by omega
    rw[this];exact xdo (h a (by omega)) (h n (by omega))
   rcases Cd hp hn e2 with e3|e3
   ·exfalso;obtain⟨c,hc⟩:=e3;have h5:c<0:=by
     apply Int.not_le.1;intro hb;have:=xcz (show(0:Int)<=P by omega) hb;omega
    have h6:(P:Int)*c<=(P:Int)*(-1):=xaW (by omega) (by omega);omega
   ·exact e3
  have hd:=h n (by omega)
  cases k with
  |zero=>
   rw[h3];refine xdo hd ?_;split
   ·exact xbC (hq 0 (by omega)) (xcL _ _)
   ·rw[xas];exact xcJ _
  |succ k=>
   rw[h2 k (by omega)];refine xdo (hq k (by omega)) ?_;split
   ·exact xbC (hq (k+1) (by omega)) (xcL _ _)
   ·rw[xas];exact xcJ _
def sc:Nat->Nat->Int
 |0,k=>if k=0 then 1 else 0
 |n+1,0=> -(n:Int)*sc n 0
 |n+1,k+1=>sc n k-(n:Int)*sc n (k+1)
theorem ef: ∀n k,n<k->sc n k=0
 |0,k,h=>zx
 |n+1,0,h=>by omega
 |n+1,k+1,h=>by show sc n k-(n:Int)*sc n (k+1)=0;rw[ef n k (by omega),ef n (k+1) (by omega)];grind
theorem GW: ∀n,sc n n=1
 |0=>rfl
 |n+1=>by show sc n n-(n:Int)*sc n (n+1)=1;rw[GW n,ef n (n+1) (by omega)];grind
def prv(v:Pz):Nat->Pz
 |0=>pc 1
 |n+1=>prv v n*(v-pc n)
theorem MV(a:Int)(f:Pz):pc (-a)*f= -(pc a*f):=funext fun k=>by rw[AB,zD,zD,Int.neg_mul]
theorem M0(v:Pz): ∀n,prv v n=smP (n+1) fun k=>pc (sc n k)*pp v k
 |0=>by
  show pc 1=pc 0+pc (sc 0 0)*pc 1;rw[mj,show sc 0 0=1 from rfl,zL]
 |n+1=>by
  show prv v n*(v-pc n)=_;have e: ∀F G:Pz,F*(G-pc n)=F*G+ -(pc n*F):=fun F G=>by rw[w8,zg F (pc n),dQ]
  rw[e,M0 v n,bU];have e2: -(pc (n:Int)*smP (n+1) fun k=>pc (sc n k)*pp v k)=smP (n+2) fun k=>pc (-(n:Int)*sc n k)*pp v k:=by
   rw[<-MV,zg,bU];show _=smP (n+1) _+pc (-(n:Int)*sc n (n+1))*pp v (n+1);rw[ef n (n+1) (by omega),xas,yg,Yk];exact ZX _ fun i _=>by rw[zg,<-zb,qL]
  rw[e2,uK _ (n+1),uK (fun k=>pc (sc (n+1) k)*pp v k) (n+1),<-YU,W5 (smP _ _),YU,<-Cl];congr 1;refine ZX _ fun i _=> ?_;show pc (sc n i)*pp v i*v+pc (-(n:Int)*sc n (i+1))*pp v (i+1)=pc (sc n i-(n:Int)*sc n (i+1))*pp v (i+1);rw[zb];show pc (sc n i)*pp v (i+1)+_=_;rw[<-yj,<-Ix];congr 2;grind
theorem J7(d:Nat->Int)(a:Int): ∀n,es d (n+1) a=es d n a+d n*a^n:=by
 intro n
 induction n generalizing d with
 |zero=>show d 0+a*0=0+d 0*a^0;rw[xbs];grind
 |succ n ih=>
  show d 0+a*es (fun k=>d (k+1)) (n+1) a=d 0+a*es (fun k=>d (k+1)) n a+d (n+1)*a^(n+1);rw[ih,xbk];grind
theorem Ib(c d:Nat->Int)(a:Int): ∀n,es (fun k=>c k+d k) n a=es c n a+es d n a
 |0=>rfl
 |n+1=>by rw[J7,J7,J7,Ib c d a n];grind
def prn(a:Int):Nat->Int
 |0=>1
 |n+1=>prn a n*(a-n)
theorem zaW(a:Int): ∀n,prn a n=es (sc n) (n+1) a
 |0=>by show(1:Int)=1+a*0;grind
 |n+1=>by
  show prn a n*(a-n)=_;have h1:es (sc (n+1)) (n+2) a= -(n:Int)*sc n 0+a*es (fun k=>sc n k-(n:Int)*sc n (k+1)) (n+1) a:=rfl;have h2:es (fun k=>sc n k-(n:Int)*sc n (k+1)) (n+1) a=es (sc n) (n+1) a+es (fun k=> -(n:Int)*sc n (k+1)) (n+1) a:=by rw[<-Ib];congr 1;funext k;grind
  have h3: ∀m (d:Nat->Int) (c:Int),es (fun k=>c*d k) m a=c*es d m a:=fun m=>by
   induction m with
   |zero=>intro d c;show(0:Int)=c*0;grind
   |succ m ih=>intro d c;rw[J7,J7,ih];grind
  have h4:es (sc n) (n+2) a=es (sc n) (n+1) a:=by rw[J7,ef n (n+1) (by omega),xaQ,xbx]
  have h5:es (sc n) (n+2) a=sc n 0+a*es (fun k=>sc n (k+1)) (n+1) a:=rfl;rw[h1,h2,h3,zaW a n];grind
theorem L3{a:Nat}: ∀n,a<n->prn a n=0
 |0,h=>by omega
 |n+1,h=>by
  show prn a n*((a:Int)-n)=0;by_cases e:a=n
  ·rw[e,xcX,xas]
  ·rw[L3 n (by omega),xaQ]
theorem zeI(hp:2<=P)(hn:vB P)(k:Nat):sc P k % P=(if k=P then(1:Int)else if k=1 then-1 else 0) % P:=by
 by_cases h:k<P
 ·have hz:=Ma hp hn P (fun k=>sc P k+(if k=1 then 1 else 0)) (xac _) (fun a ha=>by
   rw[Ib];have e1:es (fun k=>if k=1 then(1:Int)else 0) P (a:Int)=a:=by
    obtain⟨q,rfl⟩: ∃q,P=q+2:=⟨P-2,by omega⟩;show(0:Int)+a*((1:Int)+a*es (fun k=>if k+1+1=1 then(1:Int)else 0) q a)=a;have: ∀m,es (fun k=>if k+1+1=1 then(1:Int)else 0) m (a:Int)=0:=fun m=>by
     induction m with
     |zero=>rfl
     |succ m ih=>rw[J7,ih,zx];grind
    rw[this];grind
   have e2:=zaW (a:Int) P;rw[L3 P ha,J7,GW]at e2;have e3:=nJ hp hn (a:Int);rw[e1];have e4:es (sc P) P (a:Int)+a=a-a^P:=by grind
   rw[e4];exact xaH (xaI.1 e3.symm)) k h
  rw[zx];have hb:=xax hz;by_cases h1:k=1
  ·rw[iq h1]at hb⊢;refine xaI.2 ?_;rw[show sc P k- -1=sc P k+1 by omega];exact hb
  ·rw[ir h1]at hb⊢;rw[xbx]at hb;rw[hb,xag]
 ·by_cases h2:k=P
  ·rw[iq h2,h2,GW]
  ·rw[ir h2,zx,ef P k (by omega)]
theorem Pq: ∀n,(smP n fun _=>pc 0)=pc 0
 |0=>rfl
 |n+1=>by show(smP n fun _=>pc 0)+pc 0=pc 0;rw[Pq n,Yk]
theorem zc2(hp:2<=P)(hn:vB P)(v:Pz):Cg (P:Int) (prv v P) (pp v P-v):=by
 rw[M0]
 have h1:Cg (P:Int) (smP (P+1) fun k=>pc (sc P k)*pp v k) (smP (P+1) fun k=>pc (if k=P then(1:Int)else if k=1 then-1 else 0)*pp v k):=
  IV _ fun k _=>Cg.mul (fun j=>by unfold pc;split;exact zeI hp hn k;rfl) Cg.rfl
 refine h1.trans (Cg.of ?_);obtain⟨q,rfl⟩: ∃q,P=q+2:=⟨P-2,by omega⟩;show smP (q+2) _+pc (if q+2=q+2 then(1:Int)else _)*pp v (q+2)=_;rw[iq rfl,zt,uK _ (q+1),uK _ q,zx,zx,zx,iq rfl];have hz:(smP q fun k=>pc (if k+1+1=q+2 then(1:Int)else if k+1+1=1 then-1 else 0)*pp v (k+1+1))=pc 0:=by
  rw[ZX (G:=fun _=>pc 0) q fun i hi=>by rw[zx,zx,yg]];exact Pq q
 rw[hz];have h2:pc (-1)*pp v (0+1)= -v:=by
  rw[MV,zt];show-(pc 1*v)= -v;rw[zt]
 rw[h2,yg];funext k;simp only[zK,yA,AB,zM];omega
def Di(p:Int)(u v:Pz):Prop:= ∃q:Pz,Fs q/\Cg p v (q*u)
theorem Di.refl(p:Int)(u:Pz):Di p u u:=⟨pc 1,Fs.pc 1,Cg.of (zt u).symm⟩
theorem Di.trans{p:Int}{u v w:Pz}(h:Di p u v)(g:Di p v w):Di p u w:=by
 obtain⟨q,f1,h1⟩:=h;obtain⟨r,f2,h2⟩:=g;exact⟨r*q,f2.mul f1,h2.trans (((Cg.rfl (f:=r)).mul h1).trans (Cg.of (zb r q u).symm))⟩
theorem Di.add{p:Int}{u v w:Pz}(h:Di p u v)(g:Di p u w):Di p u (v+w):=by
 obtain⟨q,f1,h1⟩:=h;obtain⟨r,f2,h2⟩:=g;exact⟨q+r,f1.add f2,(h1.add h2).trans (Cg.of (yj q r u).symm)⟩
theorem Di.sub{p:Int}{u v w:Pz}(h:Di p u v)(g:Di p u w):Di p u (v-w):=by
 obtain⟨q,f1,h1⟩:=h;obtain⟨r,f2,h2⟩:=g;exact⟨q-r,f1.subt f2,(h1.sub h2).trans (Cg.of (w7 q r u).symm)⟩
theorem Di.mul{p:Int}{u v:Pz}(w:Pz)(fw:Fs w)(h:Di p u v):Di p u (w*v):=by
 obtain⟨q,f1,h1⟩:=h;exact⟨w*q,fw.mul f1,((Cg.rfl (f:=w)).mul h1).trans (Cg.of (zb w q u).symm)⟩
theorem Di.cg{u:Pz}(h:Di p u v)(g:Cg p v w):Di p u w:=by
 obtain⟨q,f1,h1⟩:=h;exact⟨q,f1,g.symm.trans h1⟩
theorem Di.zero(p:Int)(u:Pz):Di p u (pc 0):=⟨pc 0,Fs.pc 0,Cg.of (yg u).symm⟩
theorem Di.euclid{u:Pz}(fw:Fs w)(h:qH p u v)(g:Di p u (v*w)):Di p u w:=by
 obtain⟨s,t,fs,ft,h1⟩:=h;have h2:Cg p (w*s*u+t*(v*w)) w:=by
  refine Cg.trans (Cg.of ?_) ((h1.mul (Cg.rfl (f:=w))).trans (Cg.of (zt w)));rw[yj,zb t,zg (s*u) w,zb w]
 refine Di.cg (Di.add ?_ (g.mul t ft)) h2;exact⟨w*s,fw.mul fs,Cg.rfl⟩
theorem Di.both{u:Pz}(fw:Fs w)(h:qH p u v)(g1:Di p u w)(g2:Di p v w):Di p (u*v) w:=by
 obtain⟨q,fq,h1⟩:=g2;have h2:Di p u q:=Di.euclid fq h (g1.cg (h1.trans (Cg.of (zg q v))));obtain⟨r,fr,h3⟩:=h2;refine⟨r,fr,h1.trans ((h3.mul (Cg.rfl (f:=v))).trans (Cg.of (zb r u v)))⟩
theorem Di.prz{p:Int}{w:Pz}(fw:Fs w): ∀{us:List Pz},(∀u∈us,Fs u)->us.Pairwise (qH p)->(∀u∈us,Di p u w)->Di p (prZ us) w
 |[],_,_,_=>⟨w,fw,Cg.of (zL w).symm⟩
 |u::us,hF,hp,h=>by
  obtain⟨h1,h2⟩:=xcM.1 hp;refine Di.both fw ?_ (h u (FS)) (Di.prz fw (fun g hg=>hF g (H1 _ hg)) h2 fun g hg=>h g (H1 _ hg));exact(qH.prZ (hF u (FS)) (fun g hg=>hF g (H1 _ hg)) fun g hg=>(h1 g hg).symm).symm
structure Vs(p:Int)(u:List Int):Prop where
 mn:wC p u
 l1:1<u.length
 ir: ∀d,wC p d->Di p (ci d) (ci u)->d.length=1\/d=u
theorem B7{a b:List Int}(hp:2<=p)(ha:wC p a)(hb:wC p b)(h:Di p (ci a) (ci b))(hl:b.length<=a.length):a=b:=by
 obtain⟨q,fq,h1⟩:=h;obtain⟨n,hn⟩:=fq;have hd:=ha.ln;have he:=hb.ln;have hf:=Ub hp hb ha ⟨n,hn⟩ h1;have e:a.length=b.length:=by omega
 have h2:Cg p ((q-pc 1)*ci a) (ci b-ci a):=by
  rw[w7,zt];exact h1.symm.sub Cg.rfl
 have h3:=ha.mn.zero hp (Fs.subt ⟨n,hn⟩ (Fs.pc 1)) fun k hk=>by
  rw[h2 k,yA];by_cases hc:k=a.length-1
  ·have ta:=ha.top;have tb:=hb.top;rw[hc,ta,e,tb,xcX,xag]
  ·rw[zQ (by omega),zQ (by omega)];exact xag _
 refine ha.fm.ext hb.fm ?_;have h4:=h2.symm.trans (h3.mul_zero_r (ci a));exact(Cg.iff_sub.2 h4).symm
theorem Vs.or(hp:wG p=true){l:List Int}(hu:Vs p u)(ha:u.length<=290)(hl:Fp p l)(hb:l.length<=290):Di p (ci u) (ci l)\/qH p (ci u) (ci l):=by
 obtain⟨p1,p2⟩:=zo hp;obtain⟨d,s,t,_,hR,hd⟩:=jy (fu:=3000000) hp hu.mn.fm hl ha hb (xac _);have hm:=zbE p1 hu.mn hR hd;obtain⟨A,C,fA,fC,h1,h2⟩:=hR.dv;rcases hu.ir d hm ⟨A,fA,h1⟩with h3|h3
 ·exact .inr (AI hR h3 hm.top)
 ·left;rw[<-h3];exact⟨C,fC,h2⟩
theorem Vs.ne(hp:2<=p)(hu:Vs p u): ¬Di p (ci u) (pc 1):=fun⟨q,fq,h⟩=>by
 have hl:=hu.l1;have h1:=hu.mn.mn.zero hp fq fun k hk=>by rw[<-h k,show pc 1 k=0 from zx,xag]
 have h2:=(h.trans (h1.mul_zero_r _)) 0;rw[zM,xag]at h2;unfold pc at h2;rw[iq rfl,xaz (by decide) (by omega)]at h2;cases h2
theorem Vs.cop(hp:wG p=true){w:List Int}(hu:Vs p u)(hw:Vs p w)(ha:u.length<=290)(hb:w.length<=290)(h:u≠w):qH p (ci u) (ci w):=by
 rcases hu.or hp ha hw.mn.fm hb with h1|h1
 ·exfalso;rcases hw.ir u hu.mn h1 with h2|h2
  ·have:=hu.l1;omega
  ·exact h h2
 ·exact h1
theorem quo(hp:wG p=true)(hm:wC p m)(hd:wC p d)(ha:m.length<=90000)(h:Di p (ci d) (ci m)): ∃q,wC p q/\Cg p (ci m) (ci q*ci d)/\m.length+1=q.length+d.length:=by
 obtain⟨p1,p2⟩:=zo hp;obtain⟨A,fA,h1⟩:=h;have hb:=Ub p1 hm hd fA h1;obtain⟨q,r,_,e2,e3,e4,e5,e6⟩:=xf (fu:=3000000) hp hm.fm hd.fm hd.ln ha (by omega) (xac _);obtain⟨a,b,c⟩:=Al p1 hm hd fA h1 e2 e3 e4 e5;exact⟨q,a,b,c⟩
theorem zhH(hp:wG p=true): ∀(n:Nat) {m:List Int},m.length=n->n<=290->wC p m-> ∃us:List (List Int),(∀u∈us,Vs p u/\u.length<=n)/\Cg p (ci m) (prZ (us.map ci)):=by
 intro n
 induction n using xdq with
 |ind n ih=>
  intro m ho hn hm;obtain⟨p1,p2⟩:=zo hp;have hq:=hm.ln;by_cases h1:m.length=1
  ·refine⟨[],(fun u hu=>by cases hu),?_⟩;have:=hm.one h1;rw[this];refine Cg.of (funext fun k=> ?_);show ci [1] k=pc 1 k
   cases k with
   |zero=>rfl
   |succ k=>rw[zQ (by simp)];exact(zx).symm
  by_cases hi:Vs p m
  ·refine⟨[m],fun u hu=> ?_,?_⟩
   ·rw[xah.1 hu];exact⟨hi,by omega⟩
   ·exact Cg.of (zL (ci m)).symm
  ·obtain⟨d,ha,hb,hr,he⟩: ∃d,wC p d/\Di p (ci d) (ci m)/\d.length≠1/\d≠m:=by
    apply xad;intro hf;refine hi ⟨hm,by omega,fun d h2 h3=> ?_⟩;by_cases h4:d.length=1
    ·exact .inl h4
    ·right;apply xad;intro h5;exact hf ⟨d,h2,h3,h4,h5⟩
   obtain⟨q,hg,hj,hs⟩:=quo hp hm ha (by omega) hb;have ht:=ha.ln;have hv:d.length<m.length:=by
    apply xdJ;intro h;exact he (B7 p1 ha hm hb h)
   obtain⟨us,hc,hk⟩:=ih d.length (by omega) rfl (by omega) ha;obtain⟨vs,hd,hl⟩:=ih q.length (by omega) rfl (by omega) hg;refine⟨vs++us,fun u hu=> ?_,?_⟩
   ·rcases Nm.1 hu with h|h
    ·exact⟨(hd u h).1,by have:=(hd u h).2;omega⟩
    ·exact⟨(hc u h).1,by have:=(hc u h).2;omega⟩
   ·rw[xaO,xM];exact hj.trans (hl.mul hk)
theorem Jj{p:Int}{u:Pz}: ∀{us:List Pz},(∀w∈us,Fs w)->u∈us->Di p u (prZ us)
 |[],_,h=>by cases h
 |w::us,hF,h=>by
  have ha:=Fs.prZ fun g hg=>hF g (H1 _ hg);rcases xae.1 h with rfl|h
  ·exact⟨prZ us,ha,Cg.of (zg _ _)⟩
  ·exact(Jj (fun g hg=>hF g (H1 _ hg)) h).mul w (hF w (FS))
theorem Vs.mem{p:Int}(hp:wG p=true){u:List Int}(hu:Vs p u)(ha:u.length<=290): ∀{us:List (List Int)},(∀w∈us,Vs p w/\w.length<=290)->Di p (ci u) (prZ (us.map ci))->u∈us
 |[],_,h=>absurd h (hu.ne (zo hp).1)
 |w::us,hw,h=>by
  by_cases e:u=w
  ·rw[e];exact FS
  ·have h1:=hu.cop hp (hw w (FS)).1 ha (hw w (FS)).2 e;refine H1 _ (Vs.mem hp hu ha (fun g hg=>hw g (H1 _ hg)) (Di.euclid (Fs.prZ fun g hg=> ?_) h1 h));obtain⟨l,_,rfl⟩:=xai.1 hg;exact Fs.ci l
theorem Fs.to{n:Nat}(h: ∀k,n<=k->f k=0):Fs f:=⟨n,h⟩
theorem Fs.vx:Fs vx:=⟨2,fun k hk=>zx⟩
theorem lst(hp:0<p){n:Nat}(h: ∀k,n<=k->f k=0): ∃l:List Int,Fp p l/\l.length<=n/\Cg p (ci l) f:=by
 refine⟨pm p (zl n f),px hp _,xao (M1 _ _) (by rw[zI];exact xac _),?_⟩;exact(Fq p _).trans (Cg.of (funext fun k=>uo h k))
theorem Vs.or'(hp:wG p=true)(hu:Vs p u)(ha:u.length<=290){n:Nat}(h: ∀k,n<=k->f k=0)(hn:n<=290):Di p (ci u) f\/qH p (ci u) f:=by
 obtain⟨p1,p2⟩:=zo hp;obtain⟨l,h1,h2,h3⟩:=lst (p:=p) (by omega) h;rcases hu.or hp ha h1 (by omega)with h4|h4
 ·exact .inl (h4.cg h3)
 ·exact .inr (h4.congr Cg.rfl h3)
theorem Vs.const(hp:2<=p)(hu:Vs p u){c:Int}(h:Di p (ci u) (pc c)):p∣c:=by
 obtain⟨q,fq,h⟩:=h;have hl:=hu.l1;have h1:=hu.mn.mn.zero hp fq fun k hk=>by rw[<-h k,show pc c k=0 from zx,xag]
 have h2:=(h.trans (h1.mul_zero_r _)) 0;rw[zM,xag]at h2;exact xaH h2
theorem Di.const{c:Int}{u:Pz}(h:p∣c):Di p u (pc c):=(Di.zero p u).cg fun k=>by
 rw[zM];unfold pc;split
 ·rw[xag,xax h]
 ·rfl
def Vl(p:Int)(u:List Int)(v:Pz)(c:Int):Prop:=Di p (ci u) (v-pc c)
theorem Ig(a b:Int):pc (a-b)=pc a-pc b:=funext fun k=>by rw[yA];unfold pc;split<;>omega
theorem Vl.uniq(hp:2<=p)(hu:Vs p u){b:Int}(h:Vl p u v a)(g:Vl p u v b):p∣a-b:=by
 refine hu.const hp ((Di.sub g h).cg (Cg.of ?_));rw[Ig];funext k;simp only[yA];omega
theorem Vl.add{p:Int}{u:List Int}{v w:Pz}{a b:Int}(h:Vl p u v a)(g:Vl p u w b):Vl p u (v+w) (a+b):=by
 refine(Di.add h g).cg (Cg.of ?_);rw[Ix];funext k;simp only[zK,yA];omega
theorem Vl.sub{p:Int}{u:List Int}{v w:Pz}{a b:Int}(h:Vl p u v a)(g:Vl p u w b):Vl p u (v-w) (a-b):=by
 refine(Di.sub h g).cg (Cg.of ?_);rw[Ig];funext k;simp only[yA];omega
theorem Vl.mul{p:Int}{u:List Int}{v w:Pz}{a b:Int}(fv:Fs v)(h:Vl p u v a)(g:Vl p u w b):Vl p u (v*w) (a*b):=by
 refine(Di.add (Di.mul v fv g) (Di.mul (pc b) (Fs.pc b) h)).cg (Cg.of ?_);rw[w8,w8,zg v (pc b),qL,xbi b a];funext k;simp only[zK,yA];omega
theorem Vl.pc(p:Int)(u:List Int)(c:Int):Vl p u (pc c) c:=(Di.zero p (ci u)).cg (Cg.of (funext fun k=>by rw[yA,zM,xcX]))
theorem Vl.pp{p:Int}{u:List Int}{v:Pz}{a:Int}(fv:Fs v)(h:Vl p u v a): ∀n,Vl p u (pp v n) (a^n)
 |0=>by rw[xbs];exact Vl.pc p u 1
 |n+1=>by rw[xbk];exact Vl.mul (fv.pp n) (Vl.pp fv h n) h
theorem Vl.cg{p:Int}{u:List Int}{v w:Pz}{a:Int}(h:Vl p u v a)(g:Cg p v w):Vl p u w a:=Di.cg h (g.sub Cg.rfl)
theorem Vl.md{b:Int}(h:Vl p u v a)(g:p∣a-b):Vl p u v b:=by
 refine(Di.add h (Di.const (u:=ci u) g)).cg (Cg.of ?_);rw[Ig];funext k;simp only[zK,yA];omega
theorem Vl.di(hp:2<=p)(hu:Vs p u)(h:Vl p u v a):Di p (ci u) v↔p∣a:=by
 constructor
 ·intro g;have h0:Vl p u v 0:=g.cg (Cg.of (funext fun k=>by rw[yA,zM,xcB]));have:=h.uniq hp hu h0;rwa[xcB]at this
 ·intro g;have h0:Vl p u v 0:=h.md (by rwa[xcB]);exact Di.cg h0 (Cg.of (funext fun k=>by rw[yA,zM,xcB]))
theorem PJ{p:Int}(hp:wG p=true){u:List Int}(hu:Vs p u)(ha:u.length<=290){v:Pz}{n:Nat}(hv: ∀k,n<=k->v k=0)(hb:1<=n)(hn:n<=290): ∀j,Di p (ci u) (prv v j)-> ∃c:Nat,c<j/\Vl p u v c
 |0,h=>absurd h (hu.ne (zo hp).1)
 |j+1,h=>by
  have hz: ∀k,n<=k->(v-pc (j:Int)) k=0:=fun k hk=>by rw[yA,hv k hk,show pc (j:Int) k=0 from zx];rfl
  rcases hu.or' hp ha hz hn with h1|h1
  ·exact⟨j,by omega,h1⟩
  ·have fj: ∀i,Fs (prv v i):=fun i=>by
    induction i with
    |zero=>exact Fs.pc 1
    |succ i ih=>exact ih.mul ((Fs.to hv).subt (Fs.pc _))
   have h2:Di p (ci u) (prv v j):=Di.euclid (fj j) h1 (h.cg (Cg.of (zg _ _)));obtain⟨c,hc,h3⟩:=PJ hp hu ha hv hb hn j h2;exact⟨c,by omega,h3⟩
theorem zcz(hp:wG (P:Int)=true)(hu:Vs (P:Int) u)(hb:u.length<=290)(hc:Di (P:Int) (ci u) (ci m)){n:Nat}(hv: ∀k,n<=k->v k=0)(hd:1<=n)(hn:n<=290)(hf:Di (P:Int) (ci m) (pp v P-v)): ∃c:Nat,c<P/\Vl (P:Int) u v c:=by
 obtain⟨p1,p2⟩:=zo hp;have ha:=Yg hp;rw[xaM]at ha;exact PJ hp hu hb hv hd hn P ((hc.trans hf).cg (zc2 (by omega) ha v).symm)
theorem zgP{p:Int}{m:List Int}(hm:wC p m): ∀(n:Nat) (f:Pz),(∀k,n<=k->f k=0)-> ∃q r:Pz,Fs q/\(∀k,m.length-1<=k->r k=0)/\f=q*ci m+r
 |0,f,h=>⟨pc 0,pc 0,Fs.pc 0,fun k _=>zM k,funext fun k=>by rw[zK,yg,zM,h k (by omega)];rfl⟩
 |n+1,f,h=>by
  have hl:=hm.ln;by_cases hn:n+1<=m.length-1
  ·exact⟨pc 0,f,Fs.pc 0,fun k hk=>h k (by omega),funext fun k=>by rw[zK,yg,zM,xcA]⟩
  ·obtain⟨d,hd⟩: ∃d,d=m.length-1:=⟨_,rfl⟩;obtain⟨q,r,fq,hr,he⟩:=zgP hm n (f-mono (n-d) (f n)*ci m) fun k hk=>by
    rw[yA,Y3];unfold sh;rw[zN];by_cases e:k=n
    ·have ht:=hm.top;rw[e,show n-(n-d)=m.length-1 by omega,ht];omega
    ·rw[h k (by omega),zQ (by omega)];omega
   refine⟨q+mono (n-d) (f n),r,fq.add ⟨n+1,fun k hk=>zx⟩,hr,?_⟩;rw[yj];funext k;have:=congrFun he k;simp only[zK,yA]at this⊢;omega
theorem zg9(hp:wG (P:Int)=true)(hm:wC (P:Int) m)(hu: ∀u∈us,Vs (P:Int) u/\u.length<=290)(X3:us.Pairwise (fun a b=>qH (P:Int) (ci a) (ci b)))(hc:Cg (P:Int) (ci m) (prZ (us.map ci)))(hb:u∈us):
 ∃e:Pz,(∀k,m.length-1<=k->e k=0)/\Vl (P:Int) u e 1/\(∀w,w∈us->w≠u->Vl (P:Int) w e 0)/\Di (P:Int) (ci m) (pp e P-e):=by
 obtain⟨p1,p2⟩:=zo hp;have hk:=Yg hp;rw[xaM]at hk;obtain⟨a,b,hd⟩:=xdP hb;have hF: ∀{l:List (List Int)},∀g∈l.map ci,Fs g:=fun g hg=>by obtain⟨l,_,rfl⟩:=xai.1 hg;exact Fs.ci l
 obtain⟨O,hO⟩: ∃O,O=prZ ((a++b).map ci):=⟨_,rfl⟩;have fO:Fs O:=by rw[hO];exact Fs.prZ hF
 have hf:qH (P:Int) (ci u) O:=by
  rw[hO];refine(qH.prZ (Fs.ci u) hF fun g hg=> ?_).symm;obtain⟨l,hl,rfl⟩:=xai.1 hg;rw[hd,xdg,xcM]at X3;rcases Nm.1 hl with h|h
  ·exact X3.2.2 l h u (FS)
  ·exact(X3.2.1.1 l h).symm
 obtain⟨s,t,fs,ft,h1⟩:=hf;obtain⟨n,hn⟩:=ft.mul fO;obtain⟨q,e,fq,he,ho⟩:=zgP hm n (t*O) hn;have hq: ∀w∈us,Di (P:Int) (ci w) (ci m):=fun w hw=>Di.cg (Jj hF (xbI hw)) hc.symm;have hi: ∀w∈us,∀{c:Int},Vl (P:Int) w (t*O) c->Vl (P:Int) w e c:=fun w hw c h=>by
  have h2:=Di.sub h (Di.mul q fq (hq w hw));refine h2.cg (Cg.of ?_);rw[ho];funext k;simp only[zK,yA];omega
 have v1:Vl (P:Int) u e 1:=hi u hb (by
  have h2:Di (P:Int) (ci u) (pc 0-s*ci u):=(Di.zero _ _).sub ⟨s,fs,Cg.rfl⟩;refine h2.cg (Cg.trans (Cg.of ?_) ((Cg.rfl (f:=t*O)).sub h1));funext k;simp only[zK,yA,zM];omega)
 have v0: ∀w,w∈us->w≠u->Vl (P:Int) w e 0:=fun w hw hr=>hi w hw (by
  have h3:w∈a++b:=by
   rw[hd]at hw;rcases Nm.1 hw with h|h
   ·exact xdz _ h
   ·rcases xae.1 h with h|h
    ·exact absurd h hr
    ·exact xdQ _ h
  have h2:Di (P:Int) (ci w) O:=by rw[hO];exact Jj hF (xbI h3)
  exact(h2.mul t ft).cg (Cg.of (funext fun k=>by rw[yA,zM,xcB])))
 refine⟨e,he,v1,v0,?_⟩;have fe:=Fs.to he;have hj:Di (P:Int) (prZ (us.map ci)) (pp e P-e):=by
  refine Di.prz ((fe.pp P).subt fe) hF ?_ fun g hg=> ?_
  ·exact xeb.2 X3
  ·obtain⟨w,hw,rfl⟩:=xai.1 hg;by_cases ha:w=u
   ·subst ha;have h4:=Vl.sub (Vl.pp fe v1 P) v1;rw[Int.one_pow,xcX]at h4;exact(h4.di p1 (hu w hw).1).2 (xcJ _)
   ·have h4:=Vl.sub (Vl.pp fe (v0 w hw ha) P) (v0 w hw ha);rw[Int.zero_pow (by omega),xcX]at h4;exact(h4.di p1 (hu w hw).1).2 (xcJ _)
 obtain⟨r,fr,h5⟩:=hj;exact⟨r,fr,h5.trans (Cg.rfl.mul hc.symm)⟩
theorem bC{p:Int}{u:List Int}{a c:Nat->Int}{b:Nat->Pz}: ∀n,(∀i,i<n->Vl p u (b i) (c i))->Vl p u (smP n fun i=>pc (a i)*b i) (zV n fun i=>a i*c i)
 |0,_=>Vl.pc p u 0
 |n+1,h=>Vl.add (bC n fun i hi=>h i (by omega)) (Vl.mul (Fs.pc _) (Vl.pc p u (a n)) (h n (by omega)))
theorem sep(hp:wG (P:Int)=true)(hm:wC (P:Int) m)(hu: ∀u∈us,Vs (P:Int) u/\u.length<=290)(X3:us.Pairwise (fun a b=>qH (P:Int) (ci a) (ci b)))(hc:Cg (P:Int) (ci m) (prZ (us.map ci))){n:Nat}(he: ∀e:Pz,(∀k,m.length-1<=k->e k=0)->Di (P:Int) (ci m) (pp e P-e)-> ∃a:Nat->Int,Cg (P:Int) e (smP n fun i=>pc (a i)*b i)){w:List Int}(hb:u∈us)(hd:w∈us){c:Nat->Int}(h1: ∀i,i<n->Vl (P:Int) u (b i) (c i))(h2: ∀i,i<n->Vl (P:Int) w (b i) (c i)):u=w:=by
 obtain⟨p1,p2⟩:=zo hp;apply xad;intro hf;obtain⟨e,e1,e2,e3,e4⟩:=zg9 hp hm hu X3 hc hb;obtain⟨a,ha⟩:=he e e1 e4;have f1:=(bC (a:=a) n h1).cg ha.symm;have f2:=(bC (a:=a) n h2).cg ha.symm;have g1:=e2.uniq p1 (hu u hb).1 f1;have g2:=(e3 w hd fun h=>hf h.symm).uniq p1 (hu w hd).1 f2;have g3:=xdo g1 g2;obtain⟨k,hk⟩:=g3;have h5:(P:Int)*k=1:=by omega
 have h6:k=1\/k<=0\/2<=k:=by omega
 rcases h6 with h6|h6|h6
 ·rw[h6]at h5;omega
 ·have:=xaW h6 (show(0:Int)<=P by omega);omega
 ·have:=xaW h6 (show(0:Int)<=P by omega);omega
theorem L6{P:Int}{a b:Int}(h:P∣a-b): ∀n:Nat,P∣a^n-b^n
 |0=>by rw[xbs,xbs,xcX];exact xcJ _
 |n+1=>by
  obtain⟨x,hx⟩:=h;obtain⟨y,hy⟩:=L6 ⟨x,hx⟩ n;refine⟨y*a+b^n*x,?_⟩;rw[xbk,xbk];grind
def gh(P:Nat)(y:Int):Prop:=if 2<P then(P:Int)∣y^((P-1)/2)-1 else(P:Int)∣y
theorem gh.md{z:Int}(h:(P:Int)∣y-z)(g:gh P y):gh P z:=by
 unfold gh at g⊢;split
 ·rw[if_pos ‹_›]at g;have:=L6 h ((P-1)/2);have e:=xdo g this;have e2:y^((P-1)/2)-1-(y^((P-1)/2)-z^((P-1)/2))=z^((P-1)/2)-1:=by omega
  rwa[e2]at e
 ·rw[if_neg ‹_›]at g;have e:=xdo g h;have e2:y-(y-z)=z:=by omega
  rwa[e2]at e
theorem gh.iff{z:Int}(h:(P:Int)∣y-z):gh P y↔gh P z:=by
 refine⟨gh.md h,gh.md ?_⟩;obtain⟨k,hk⟩:=h;exact⟨-k,by rw[xeu];omega⟩
theorem La(hp:wG (P:Int)=true){d:Int}(hd: ¬(P:Int)∣d): ∃k:Nat,(P:Int)∣(k:Int)*d-1:=by
 obtain⟨p1,p2⟩:=zo hp;have h0:=xcS d (show(P:Int)≠0 by omega);have h1:=xdv d (show(0:Int)<P by omega);have h2:d % P≠0:=fun e=>hd (xaH e);have h3:=pK hp (show 0<d % P by omega) h1;obtain⟨x,hx⟩: ∃x,x=(d % P)^((P:Int)-2).toNat:=⟨_,rfl⟩;rw[<-hx]at h3;have ha:0<=x:=by rw[hx];exact xfo h0
 refine⟨x.toNat,?_⟩;rw[xcV ha];have h4:(x*d) % P=1 % P:=by rw[xbo,<-xcC d (xdO _),<-xbo,h3,xaz (by decide) (by omega)]
 exact xaH (xaI.1 h4)
theorem zde(hp:wG (P:Int)=true)(he:P=2\/P % 2=1){b:Int}(h: ∀c:Nat,c<P->(gh P (a+c)↔gh P (b+c))):(P:Int)∣a-b:=by
 obtain⟨p1,p2⟩:=zo hp;apply xad;intro hd;have hb: ∀y:Int,gh P (a+y)↔gh P (b+y):=fun y=>by
  have e1:=xcS y (show(P:Int)≠0 by omega);have e2:=xdv y (show(0:Int)<P by omega);have e3:=h (y % P).toNat (by omega);rw[xcV e1]at e3;have e4:(P:Int)∣y-y % P:=⟨y/P,by have:=Int.emod_add_mul_ediv y P;omega⟩;have e5:(P:Int)∣a+y-(a+y % P):=by rwa[show a+y-(a+y % P)=y-y % P by omega]
  have e6:(P:Int)∣b+y-(b+y % P):=by rwa[show b+y-(b+y % P)=y-y % P by omega]
  exact(gh.iff e5).trans (e3.trans (gh.iff e6).symm)
 have ha: ∀y:Int,gh P y↔gh P (y+(a-b)):=fun y=>by
  have:=hb (y-b);rw[show b+(y-b)=y by omega,show a+(y-b)=y+(a-b)by omega]at this;exact this.symm
 have hk: ∀k:Nat,gh P 0↔gh P ((k:Int)*(a-b)):=fun k=>by
  induction k with
  |zero=>rw[show((0:Nat):Int)=0 from rfl,xaQ]
  |succ k ih=>
   refine ih.trans ((ha _).trans ?_);rw[xdV,Int.add_mul,show((1:Nat):Int)=1 from rfl,xbX]
 obtain⟨k,h1⟩:=La hp hd;have h2:=(hk k).trans (gh.iff h1);have hc: ¬(P:Int)∣1:=fun⟨q,hq⟩=>by
  have h6:q<=0\/1<=q:=by omega
  rcases h6 with h6|h6
  ·have:=xaW h6 (show(0:Int)<=P by omega);omega
  ·have:=xaW h6 (show(0:Int)<=P by omega);omega
 unfold gh at h2;by_cases hP:2<P
 ·rw[iq hP,iq hP,Int.one_pow,xcX,Int.zero_pow (by omega)]at h2;have:=h2.2 (xcJ _);refine hc ?_;obtain⟨q,hq⟩:=this;exact⟨-q,by rw[xeu];omega⟩
 ·rw[ir hP,ir hP]at h2;exact hc (h2.1 (xcJ _))
theorem zaX(A B D:Nat->Int)(x z:Int): ∀n,zV n (fun i=>A i*(B i-x*D i*z))=zV n (fun i=>A i*B i)-x*z*zV n (fun i=>A i*D i)
 |0=>by show(0:Int)=0-x*z*0;omega
 |n+1=>by
  show zV n _+A n*(B n-x*D n*z)=zV n _+A n*B n-x*z*(zV n _+A n*D n);rw[zaX A B D x z n];grind
theorem oe{P:Nat}(hp:wG (P:Int)=true): ∀(n:Nat) (J:List Nat) (A C:Nat->Nat->Int),J.Nodup->(∀j∈J,∀j'∈J,(P:Int)∣zV n (fun i=>A j i*C i j')-(if j=j' then 1 else 0))->J.length<=n
 |0,[],_,_,_,_=>xac _
 |0,j::J,A,C,_,h=>by
  exfalso;obtain⟨p1,p2⟩:=zo hp;have:=h j (FS) j (FS);rw[iq rfl]at this;obtain⟨q,hq⟩:=this;have hg:(0:Int)-1=P*q:=hq;have h6:q<= -1\/0<=q:=by omega
  rcases h6 with h6|h6
  ·have:=xaW h6 (show(0:Int)<=P by omega);omega
  ·have:=xcz (show(0:Int)<=P by omega) h6;omega
 |n+1,J,A,C,hJ,h=>by
  by_cases hz: ∀j∈J,(P:Int)∣C n j
  ·refine Nat.le_succ_of_le (oe hp n J A C hJ fun j hj j' ha=> ?_);have h1:=h j hj j' ha;have h2:(P:Int)∣A j n*C n j':=xbC (hz j' ha) (xcL _ _);have h3:=xdo h1 h2;have e:zV (n+1) (fun i=>A j i*C i j')-(if j=j' then 1 else 0)-A j n*C n j'=zV n (fun i=>A j i*C i j')-(if j=j' then 1 else 0):=by
    show zV n _+A j n*C n j'-_-A j n*C n j'=_;omega
   rwa[e]at h3
  ·obtain⟨j0,hb,hc⟩: ∃j0,j0∈J/\ ¬(P:Int)∣C n j0:=by
    apply xad;intro hf;refine hz fun j hj=> ?_;apply xad;intro h1;exact hf ⟨j,hj,h1⟩
   obtain⟨x,hx⟩:=La hp hc;have hd:=List.length_erase_of_mem hb;have he:=xfi hb;have:=oe hp n (J.erase j0) A (fun i j'=>C i j'-(x:Int)*C i j0*C n j') (hJ.erase j0) fun j hj j' ha=>by
    obtain⟨n1,m1⟩:=hJ.mem_erase_iff.1 hj;obtain⟨n2,m2⟩:=hJ.mem_erase_iff.1 ha;have h1:=h j m1 j' m2;have h2:=h j m1 j0 hb;rw[ir n1,xcB]at h2;rw[zaX];obtain⟨k1,e1⟩:=h1;obtain⟨k2,e2⟩:=h2;obtain⟨k3,e3⟩:=hx;have e1':zV n (fun i=>A j i*C i j')+A j n*C n j'-(if j=j' then 1 else 0)=P*k1:=e1;have e2':zV n (fun i=>A j i*C i j0)+A j n*C n j0=P*k2:=e2;have e4:(if j=j' then(1:Int)else 0)=if j=j' then 1 else 0:=rfl;generalize(if j=j' then(1:Int)else 0)=dl at e1'⊢;generalize zV n (fun i=>A j i*C i j')=s1 at e1'⊢;generalize zV n (fun i=>A j i*C i j0)=s0 at e2'⊢;refine⟨k1-((x:Int)*C n j'*k2-A j n*C n j'*k3),?_⟩;clear e1 e2 e4 hz hc h hd he;grind
   omega
structure Sf(p:Int)(m:List Int)(us:List (List Int)):Prop where
 hp:wG p=true
 mn:wC p m
 ml:m.length<=290
 ir: ∀u∈us,Vs p u/\u.length<=290
 pw:us.Pairwise (fun a b=>qH p (ci a) (ci b))
 cg:Cg p (ci m) (prZ (us.map ci))
theorem QY: ∀g∈l.map ci,Fs g:=fun g hg=>by obtain⟨l,_,rfl⟩:=xai.1 hg;exact Fs.ci l
theorem Vs.self(hp:2<=p)(hu:Vs p u): ¬qH p (ci u) (ci u):=fun⟨s,t,fs,ft,h⟩=>by
 refine hu.ne hp ⟨s+t,fs.add ft,h.symm.trans (Cg.of ?_)⟩;rw[yj]
theorem Sf.dv(h:Sf p m us)(hu:u∈us):Di p (ci u) (ci m):=(Jj QY (xbI hu)).cg h.cg.symm
theorem Sf.mem{p:Int}{m:List Int}{us:List (List Int)}(h:Sf p m us){u:List Int}(hu:Vs p u)(ha:u.length<=290)(hd:Di p (ci u) (ci m)):u∈us:=hu.mem h.hp ha h.ir (hd.cg h.cg)
theorem Sf.sq(h:Sf p m us)(hu:u∈us): ¬Di p (ci u*ci u) (ci m):=fun hd=>by
 obtain⟨p1,p2⟩:=zo h.hp;obtain⟨a,b,rfl⟩:=xdP hu;obtain⟨hi,ha⟩:=h.ir u hu;have X3:=h.pw;rw[xdg,xcM]at X3;obtain⟨q,fq,h1⟩:=hd;have h2:=h.cg;rw[xaO,xbR,xM]at h2;have h3:Cg p (prZ (a.map ci)*(ci u*prZ (b.map ci))) (q*(ci u*ci u)):=h2.symm.trans h1;have fO:Fs (prZ ((a++b).map ci)):=Fs.prZ QY;have h4:Cg p ((prZ ((a++b).map ci)-q*ci u)*ci u) (pc 0):=by
  rw[w7,xaO,xM];refine Cg.trans (Cg.sub (Cg.of ?_) (Cg.of (zb q (ci u) (ci u)))) (Cg.iff_sub.1 h3);rw[zb,zg (prZ (b.map ci))]
 have h5:=hi.mn.mn.zero p1 (fO.subt (fq.mul (Fs.ci u))) fun k hk=>by rw[h4 k,zM,xag]
 have h6:Di p (ci u) (prZ ((a++b).map ci)):=⟨q,fq,Cg.iff_sub.2 h5⟩;have h7:=hi.mem h.hp ha (us:=a++b) (fun w hw=>by
  rcases Nm.1 hw with h|h
  ·exact(by assumption:Sf p m (a++u::b)).ir w (xdz _ h)
  ·exact(by assumption:Sf p m (a++u::b)).ir w (xdQ _ (H1 _ h))) h6
 rcases Nm.1 h7 with h8|h8
 ·exact hi.self p1 (X3.2.2 u h8 u (FS))
 ·exact hi.self p1 (X3.2.1.1 u h8)
theorem Sf.len(h:Sf p m us)(hg:wC p g)(hd:Di p (ci g) (ci m)):g.length<=290:=by
 obtain⟨q,fq,h1⟩:=hd;exact xao (Ub (zo h.hp).1 h.mn hg fq h1) h.ml
theorem Sf.some{p:Int}{m:List Int}{us:List (List Int)}(h:Sf p m us){g:List Int}(hg:wC p g)(hd:Di p (ci g) (ci m))(hl:1<g.length): ∃u,u∈us/\Di p (ci u) (ci g):=by
 have ha:=h.len hg hd;obtain⟨vs,h1,h2⟩:=zhH h.hp g.length rfl ha hg
 cases vs with
 |nil=>
  exfalso;have h3:=h2 (g.length-1);have ht:=hg.top;have hp:=(zo h.hp).1;rw[ht,show prZ (List.map ci [])=pc 1 from rfl,show pc 1 (g.length-1)=0 from zx,xag,xaz (by decide) (by omega)]at h3;cases h3
 |cons v vs=>
  have h3:Di p (ci v) (ci g):=(Jj QY (xbI (FS))).cg h2.symm;obtain⟨h4,h5⟩:=h1 v (FS);exact⟨v,h.mem h4 (by omega) (h3.trans hd),h3⟩
theorem Sf.one{p:Int}{m:List Int}{us:List (List Int)}(h:Sf p m us){g:List Int}(hg:wC p g)(hd:Di p (ci g) (ci m))(hl:1<g.length)(ho: ∀u∈us,∀w∈us,Di p (ci u) (ci g)->Di p (ci w) (ci g)->u=w):Vs p g:=by
 obtain⟨p1,p2⟩:=zo h.hp;have hj:=h.len hg hd;obtain⟨u,hu,h1⟩:=h.some hg hd hl;obtain⟨hi,hk⟩:=h.ir u hu;obtain⟨q,ha,hb,hm⟩:=quo h.hp hg hi.mn (by omega) h1;by_cases he:1<q.length
 ·exfalso;have hc:Di p (ci q) (ci g):=⟨ci u,Fs.ci u,hb.trans (Cg.of (zg _ _))⟩;obtain⟨w,hw,h2⟩:=h.some ha (hc.trans hd) he;have e:=ho w hw u hu (h2.trans hc) h1;subst e;obtain⟨r,fr,h3⟩:=h2;refine h.sq hu (Di.trans ⟨r,fr,hb.trans ((h3.mul Cg.rfl).trans (Cg.of (zb _ _ _)))⟩ hd)
 ·have hn:=ha.ln;have hf:=ha.one (by omega);have:g=u:=by
   refine(B7 p1 hi.mn hg h1 ?_).symm;omega
  rw[this];exact hi
theorem Sf.apart(h:Sf p m us){a b:Pz}(fa:Fs a)(fb:Fs b)(ha:Di p (a*b) (ci m))(hu:u∈us)(h1:Di p (ci u) a)(h2:Di p (ci u) b):False:=by
 obtain⟨q,fq,e1⟩:=h1;obtain⟨r,fr,e2⟩:=h2;refine h.sq hu (Di.trans ⟨q*r,fq.mul fr,(e1.mul e2).trans (Cg.of ?_)⟩ ha);rw[zb,zb,zy (ci u) r]
theorem zee{t s1 s2:List Int}{S:Nat}(hR:BzR p g t d s1 s2 S)(u:List Int):Di p (ci u) (ci d)↔Di p (ci u) (ci g)/\Di p (ci u) (ci t):=by
 obtain⟨A,C,fA,fC,h1,h2⟩:=hR.dv;refine⟨fun h=>⟨h.trans ⟨A,fA,h1⟩,h.trans ⟨C,fC,h2⟩⟩,fun⟨a,b⟩=> ?_⟩;exact(Di.add (a.mul _ (Fs.ci _)) (b.mul _ (Fs.ci _))).cg hR.cg.symm
theorem KI{α:Type}[DecidableEq α]: ∀{vs us:List α},vs.Nodup->(∀v∈vs,v∈us)->vs.length<=us.length
 |[],_,_,_=>xaj _
 |v::vs,us,hn,h=>by
  obtain⟨h1,h2⟩:=xfd.1 hn;have hv:=h v (FS);have h3:=KI (us:=us.erase v) h2 fun w hw=>by
   refine(List.mem_erase_of_ne fun e=> ?_).2 (h w (H1 _ hw));rw[e]at hw;exact h1 hw
  have h4:=List.length_erase_of_mem hv;have h5:=xfi hv;simp only[xav];omega
theorem Sf.nodup(h:Sf p m us):us.Nodup:=by
 have hp:=(zo h.hp).1;have: ∀us:List (List Int),(∀u∈us,Vs p u/\u.length<=290)->us.Pairwise (fun a b=>qH p (ci a) (ci b))->us.Nodup:=fun us=>by
  induction us with
  |nil=>intro _ _;exact List.nodup_nil
  |cons u us ih=>
   intro hi hw;obtain⟨w1,w2⟩:=xcM.1 hw;refine xfd.2 ⟨fun hm=> ?_,ih (fun g hg=>hi g (H1 _ hg)) w2⟩;exact(hi u (FS)).1.self hp (w1 u hm)
 exact this us h.ir h.pw
structure Pl(p:Int)(m:List Int)(l:List (List Int)):Prop where
 mn: ∀g∈l,wC p g/\1<g.length
 pr:Cg p (ci m) (prZ (l.map ci))
theorem Pl.dv(h:Pl p m l)(hg:g∈l):Di p (ci g) (ci m):=(Jj QY (xbI hg)).cg h.pr.symm
theorem Me(a b:List (List Int))(g:List Int):prZ ((a++g::b).map ci)=ci g*prZ ((a++b).map ci):=by
 rw[xaO,xaO,xbR,xM,xM];show prZ (a.map ci)*(ci g*prZ (b.map ci))=_;rw[zy]
theorem Sf.pick{p:Int}{m:List Int}{us:List (List Int)}(h:Sf p m us): ∀{l:List (List Int)},(∀g∈l,wC p g/\1<g.length)->Di p (prZ (l.map ci)) (ci m)-> ∃vs:List (List Int),vs.length=l.length/\vs.Nodup/\ ∀v∈vs,v∈us/\Di p (ci v) (prZ (l.map ci))
 |[],_,_=>⟨[],rfl,List.nodup_nil,fun v hv=>by cases hv⟩
 |g::l,hm,hd=>by
  have fl:Fs (prZ (l.map ci)):=Fs.prZ QY;have d1:Di p (ci g) (prZ ((g::l).map ci)):=⟨prZ (l.map ci),fl,Cg.of (zg _ _)⟩;have d2:Di p (prZ (l.map ci)) (prZ ((g::l).map ci)):=⟨ci g,Fs.ci g,Cg.rfl⟩;obtain⟨hb,he⟩:=hm g (FS);obtain⟨u,hu,ha⟩:=h.some hb (d1.trans hd) he;obtain⟨vs,v1,v2,v3⟩:=h.pick (fun g hg=>hm g (H1 _ hg)) (d2.trans hd);refine⟨u::vs,by simp[v1],xfd.2 ⟨fun hc=> ?_,v2⟩,fun v hv=> ?_⟩
  ·exact h.apart (Fs.ci g) fl hd hu ha (v3 u hc).2
  ·rcases xae.1 hv with rfl|hv
   ·exact⟨hu,ha.trans d1⟩
   ·exact⟨(v3 v hv).1,(v3 v hv).2.trans d2⟩
theorem Sf.more(h:Sf p m us)(hl:Pl p m l){w:List Int}(hg:g∈l)(hu:u∈us)(hw:w∈us)(h1:Di p (ci u) (ci g))(h2:Di p (ci w) (ci g))(hb:u≠w):l.length<us.length:=by
 obtain⟨a,b,rfl⟩:=xdP hg;have ha:=hl.pr;rw[Me]at ha;have fl:Fs (prZ ((a++b).map ci)):=Fs.prZ QY;have hd:Di p (ci g*prZ ((a++b).map ci)) (ci m):=⟨pc 1,Fs.pc 1,ha.trans (Cg.of (zt _).symm)⟩;obtain⟨vs,v1,v2,v3⟩:=h.pick (l:=a++b) (fun x hx=>by
  rcases Nm.1 hx with h|h
  ·exact hl.mn x (xdz _ h)
  ·exact hl.mn x (xdQ _ (H1 _ h))) (Di.trans ⟨ci g,Fs.ci g,Cg.rfl⟩ hd)
 have hn:(u::w::vs).Nodup:=by
  refine xfd.2 ⟨fun hc=> ?_,xfd.2 ⟨fun hc=> ?_,v2⟩⟩
  ·rcases xae.1 hc with hc|hc
   ·exact hb hc
   ·exact h.apart (Fs.ci g) fl hd hu h1 (v3 u hc).2
  ·exact h.apart (Fs.ci g) fl hd hw h2 (v3 w hc).2
 have:=KI (us:=us) hn fun v hv=>by
  rcases xae.1 hv with rfl|hv
  ·exact hu
  ·rcases xae.1 hv with rfl|hv
   ·exact hw
   ·exact(v3 v hv).1
 simp only[xav,xau]at this v1⊢;omega
theorem Pl.split{a b:List (List Int)}{q:List Int}(h:Pl p m (a++g::b))(hd:wC p d)(hq:wC p q)(ha:1<d.length)(hb:1<q.length)(hc:Cg p (ci g) (ci q*ci d)):Pl p m (a++d::(b++[q])):=by
 refine⟨fun x hx=> ?_,?_⟩
 ·rcases Nm.1 hx with hx|hx
  ·exact h.mn x (xdz _ hx)
  ·rcases xae.1 hx with rfl|hx
   ·exact⟨hd,ha⟩
   ·rcases Nm.1 hx with hx|hx
    ·exact h.mn x (xdQ _ (H1 _ hx))
    ·rw[xah.1 hx];exact⟨hq,hb⟩
 ·have h1:=h.pr;rw[Me]at h1⊢;rw[<-xal,xaO,xM];refine h1.trans ((hc.mul Cg.rfl).trans (Cg.of ?_));show ci q*ci d*prZ ((a++b).map ci)=ci d*(prZ ((a++b).map ci)*(ci q*pc 1));rw[zL,zg (prZ _) (ci q),zy (ci d),zb]
structure Bs(P:Nat)(m:List Int)(b:Nat->Pz)(n:Nat):Prop where
 od:P=2\/P % 2=1
 ml:1<m.length
 sp: ∀e:Pz,(∀k,m.length-1<=k->e k=0)->Di (P:Int) (ci m) (pp e P-e)-> ∃a:Nat->Int,Cg (P:Int) e (smP n fun i=>pc (a i)*b i)
 sm: ∀i,i<n-> ∀k,m.length-1<=k->b i k=0
 fx: ∀i,i<n->Di (P:Int) (ci m) (pp (b i) P-b i)
theorem Bs.val(h:Sf (P:Int) m us){n:Nat}(hb:Bs P m b n)(hu:u∈us){i:Nat}(hi:i<n): ∃c:Nat,c<P/\Vl (P:Int) u (b i) c:=by
 have hl:=h.ml;have hm:=hb.ml;exact zcz h.hp (h.ir u hu).1 (h.ir u hu).2 (h.dv hu) (n:=m.length-1) (hb.sm i hi) (by omega) (by omega) (hb.fx i hi)
theorem Bs.le(h:Sf (P:Int) m us){n:Nat}(hb:Bs P m b n):us.length<=n:=by
 obtain⟨p1,p2⟩:=zo h.hp;have hl:=h.nodup;have hd: ∀j,j<us.length->us.getD j []∈us:=fun j hj=>by rw[UV,IR hj];exact xbh hj
 have hf: ∀i j,∃c:Int,i<n->j<us.length->Vl (P:Int) (us.getD j []) (b i) c:=fun i j=>by
  by_cases hi:i<n
  ·by_cases hj:j<us.length
   ·obtain⟨c,_,hc⟩:=hb.val h (hd j hj) hi;exact⟨c,fun _ _=>hc⟩
   ·exact⟨0,fun _ h=>absurd h hj⟩
  ·exact⟨0,fun h=>absurd h hi⟩
 have hg: ∀j,∃a:Nat->Int,j<us.length-> ∃e:Pz,Cg (P:Int) e (smP n fun i=>pc (a i)*b i)/\Vl (P:Int) (us.getD j []) e 1/\ ∀w,w∈us->w≠us.getD j []->Vl (P:Int) w e 0:=fun j=>by
  by_cases hj:j<us.length
  ·obtain⟨e,e1,e2,e3,e4⟩:=zg9 h.hp h.mn h.ir h.pw h.cg (hd j hj);obtain⟨a,ha⟩:=hb.sp e e1 e4;exact⟨a,fun _=>⟨e,ha,e2,e3⟩⟩
  ·exact⟨fun _=>0,fun h=>absurd h hj⟩
 have hA: ∃A:Nat->Nat->Int,∀j,j<us.length-> ∃e:Pz,Cg (P:Int) e (smP n fun i=>pc (A j i)*b i)/\Vl (P:Int) (us.getD j []) e 1/\ ∀w,w∈us->w≠us.getD j []->Vl (P:Int) w e 0:=⟨fun j=>Classical.choose (hg j),fun j=>xfw (hg j)⟩;have hC: ∃C:Nat->Nat->Int,∀i j,i<n->j<us.length->Vl (P:Int) (us.getD j []) (b i) (C i j):=⟨fun i j=>Classical.choose (hf i j),fun i j=>xfw (hf i j)⟩;obtain⟨A,hA⟩:=hA;obtain⟨C,hC⟩:=hC;have:=oe h.hp n (xbc us.length) A C List.nodup_range fun j hj j' hm=>by
  have l1:=xaS.1 hj;have l2:=xaS.1 hm;obtain⟨e,e1,e2,e3⟩:=hA j l1;have e4:=(bC (a:=A j) n fun i hi=>hC i j' hi l2).cg e1.symm;have hu:=(h.ir _ (hd j' l2)).1;by_cases ejj:j=j'
  ·subst ejj;rw[iq rfl];exact e4.uniq p1 hu e2
  ·rw[ir ejj];refine e4.uniq p1 hu (e3 _ (hd j' l2) fun he=>ejj ?_);have g1:=UV (l:=us) (i:=j) (a:=[]);have g2:=UV (l:=us) (i:=j') (a:=[]);rw[IR l1]at g1;rw[IR l2]at g2;have g3:us[j]=us[j']:=by
    have:us.getD j []=us.getD j' []:=he.symm;rw[g1,g2]at this;exact this
   apply xad;intro hh;have hk:=xcp.1 hl;rcases Nat.lt_or_gt_of_ne ejj with hlt|hlt
   ·exact hk j j' l1 l2 hlt g3
   ·exact hk j' j l2 l1 hlt g3.symm
 rwa[xcy]at this
def Ct(P:Nat)(us:List (List Int))(v:Pz)(c:Int)(g:List Int):Prop:=
 (∀u∈us,Di (P:Int) (ci u) (ci g)-> ∀a,Vl (P:Int) u v a->gh P (a+c))\/(∀u∈us,Di (P:Int) (ci u) (ci g)-> ∀a,Vl (P:Int) u v a-> ¬gh P (a+c))
theorem Ct.sub{c:Int}(h:Ct P us v c g)(hd:Di (P:Int) (ci d) (ci g)):Ct P us v c d:=by
 rcases h with h|h
 ·exact .inl fun u hu ha=>h u hu (ha.trans hd)
 ·exact .inr fun u hu ha=>h u hu (ha.trans hd)
theorem Pl.done(h:Sf (P:Int) m us){n:Nat}(hb:Bs P m b n)(hl:Pl (P:Int) m l)(h0: ∃c:Int,Cg (P:Int) (b 0) (pc c))(ha:l.length=n\/ ∀i,1<=i->i<n-> ∀c:Nat,c<P-> ∀g∈l,Ct P us (b i) c g): ∀g∈l,Vs (P:Int) g:=fun g hg=>by
 obtain⟨p1,p2⟩:=zo h.hp;obtain⟨g1,g2⟩:=hl.mn g hg;refine h.one g1 (hl.dv hg) g2 fun u hu w hw h1 h2=> ?_;apply xad;intro hf;have hn:=hb.le h;have hj:=h.more hl hg hu hw h1 h2 hf;rcases ha with he|he
 ·omega
 ·refine hf ?_;have hc: ∀i,∃c:Int,i<n->Vl (P:Int) u (b i) c/\Vl (P:Int) w (b i) c:=fun i=>by
   by_cases hi:i<n
   ·by_cases hk:i=0
    ·obtain⟨c,hc⟩:=h0;subst hk;exact⟨c,fun _=>⟨(Vl.pc _ u c).cg hc.symm,(Vl.pc _ w c).cg hc.symm⟩⟩
    ·obtain⟨x,_,hx⟩:=hb.val h hu hi;obtain⟨y,_,hy⟩:=hb.val h hw hi;have hd:(P:Int)∣(x:Int)-y:=zde h.hp hb.od fun c hm=>by
      rcases he i (by omega) hi c hm g hg with ht|ht
      ·exact⟨fun _=>ht w hw h2 _ hy,fun _=>ht u hu h1 _ hx⟩
      ·exact⟨fun hh=>absurd hh (ht u hu h1 _ hx),fun hh=>absurd hh (ht w hw h2 _ hy)⟩
     exact⟨y,fun _=>⟨hx.md hd,hy⟩⟩
   ·exact⟨0,fun h=>absurd h hi⟩
  have hC: ∃C:Nat->Int,∀i,i<n->Vl (P:Int) u (b i) (C i)/\Vl (P:Int) w (b i) (C i):=⟨fun i=>Classical.choose (hc i),fun i=>xfw (hc i)⟩;obtain⟨C,hC⟩:=hC;exact sep h.hp h.mn h.ir h.pw h.cg hb.sp hu hw (fun i hi=>(hC i hi).1) fun i hi=>(hC i hi).2
end
section
variable{p:Int}{a g d t v ds m:List Int}{x y:Pz}{E fu P k i nb:Nat}{us l bs:List (List Int)}
def Em(p:Int)(a:List Int)(x y:Pz):Prop:=Di p (ci a) (x-y)
theorem Em.rfl:Em p a x x:=(Di.zero p (ci a)).cg (Cg.of (funext fun k=>by rw[yA,zM,xcX]))
theorem Em.cg{p:Int}{a:List Int}{x y:Pz}(h:Cg p x y):Em p a x y:=(Di.zero p (ci a)).cg (Cg.iff_sub.1 h).symm
theorem Em.symm(h:Em p a x y):Em p a y x:=(Di.sub (Di.zero p (ci a)) h).cg (Cg.of (funext fun k=>by simp only[yA,zM];omega))
theorem Em.trans{z:Pz}(h:Em p a x y)(g:Em p a y z):Em p a x z:=(Di.add h g).cg (Cg.of (funext fun k=>by simp only[zK,yA];omega))
theorem Em.mul{p:Int}{a:List Int}{x y z w:Pz}(fx:Fs x)(fw:Fs w)(h:Em p a x y)(g:Em p a z w):Em p a (x*z) (y*w):=by
 refine(Di.add (Di.mul x fx g) (Di.mul w fw h)).cg (Cg.of ?_);rw[w8,w8,zg w x,zg w y];funext k;simp only[zK,yA];omega
theorem Em.dv{b:List Int}(h:Em p a x y)(g:Di p (ci b) (ci a)):Em p b x y:=g.trans h
theorem Em.vl{u:List Int}{c:Int}(h:Em p u x y)(g:Vl p u y c):Vl p u x c:=by
 refine(Di.add h g).cg (Cg.of ?_);funext k;simp only[zK,yA];omega
theorem Em.rest{x q r:List Int}(h:Cg p (ci x) (ci q*ci a+ci r)):Em p a (ci x) (ci r):=by
 refine⟨ci q,Fs.ci q,(h.sub Cg.rfl).trans (Cg.of ?_)⟩;funext k;simp only[zK,yA];omega
theorem zbQ(h0:0<E)(h:E<18446744073709551616):yE (E:Int)=(false,[E]):=by
 unfold yE;rw[xbb,s9 h0 h,decide_eq_false (by omega)]
theorem zg7(n:Nat):n<2^bl n:=by
 induction n using xdq with
 |ind n ih=>
  rcases xcN n with rfl|h
  ·rw[zbT];decide
  ·have h1:=ih (n/2) (by omega);rw[Jq h,xbu];omega
structure PwI(p:Int)(a w:List Int)(E i:Nat)(t:List Int):Prop where
 fp:Fp p t
 ln:t.length<a.length
 em:Em p a (pp (ci w) (E/2^i)) (ci t)
theorem Vw{w:List Int}(hp:wG p=true)(hw:Fp p w)(ha:wC p a)(hm:w.length<=40000)(hn:a.length<=40000)(h0:0<E)(hE:E<1048576)(hf:3000000<=fu):
 ∃r,j8 fu w (yE E) a p=some (r,0)/\Fp p r/\r.length<a.length/\Em p a (pp (ci w) E) (ci r):=by
 obtain⟨p1,p2⟩:=zo hp;have hc:=ha.ln;have he:=zbQ h0 (show E<18446744073709551616 by omega);have hL:zm [E]:=fun x hx=>by rw[xah.1 hx];omega
 have hg:nv [E]=E:=by simp[nv]
 have hj:gI (yE (E:Int)):=by rw[he];exact⟨hL,by simp⟩
 obtain⟨q1,r1,d1,d2,d3,d4,d5,d6⟩:=xf (fu:=fu) hp (Yc (x:=1) (by decide) (by omega)) ha.fm hc (by simp) (by omega) hf;obtain⟨q2,r2,f1,f2,f3,f4,f5,f6⟩:=xf (fu:=fu) hp hw ha.fm hc (by omega) (by omega) hf;have hk:bl E<=20:=Vh (show E<2^20 by omega);have hl:kG (E:Int) 0=1:=by unfold kG;rw[zx,zN]
 unfold j8;rw[za (jQ hp (by omega)),iq rfl,za (xe hj hf),zu,hl,ir (by decide),za (zG (by omega) p2 (ha.fm.rl p2) (by omega) hf),ha.fm.pm,zx,za d1];simp only;rw[za (zG (by omega) p2 (hw.rl p2) (by omega) hf),hw.pm,za f1];simp only;rw[he];show∃r,bd (jX fu [E]) _=_/\_;rw[za (Yu hL (by simp) (by simp;omega)),hg,zd];have hd:=yq (f:=ZZ fu (false,[E]) p a) (fun s:List Int×List Int×Int=> ∃(i:Nat) (t:List Int),s=(t,r2,(i:Int)-1)/\i<=20/\PwI p a w E i t) (fun s=>(s.2.2+1).toNat) (fun r=>PwI p a w E 0 r) (by
  rintro s L ⟨i,t,rfl,hi,hI⟩ ih;unfold ZZ;simp only
  cases i with
  |zero=>rw[zx];exact⟨t,rfl,hI⟩
  |succ i=>
   have ho:=hI.ln;have ml:=qk p t t;obtain⟨q3,r3,g1,g2,g3,g4,g5,g6⟩:=xf (fu:=fu) hp (vJ (p:=p) (by omega) t t) ha.fm hc (by omega) (by omega) hf;have esq:Em p a (pp (ci w) (E/2^(i+1)+E/2^(i+1))) (ci r3):=by
    rw[fF];refine(Em.mul ((Fs.ci w).pp _) (Fs.ci t) hI.em hI.em).trans ((Em.cg (ky p t t).symm).trans (Em.rest g4))
   have ei:((i+1:Nat):Int)-1=(i:Int):=by omega
   have e1:xda (i:Int) 64=0:=by rw[xdF (by omega)];omega
   have e2:xbZ (i:Int) 64=(i:Int):=by rw[Int.tmod_eq_emod_of_nonneg (by omega)];omega
   have e3:E/2^i/2=E/2^(i+1):=by rw[xaY,xbu]
   rw[ei,zN,za (wh (by omega) p2 hI.fp hI.fp (by omega) (by omega) hf),za g1];simp only;rw[q9 (by decide),e1,HB ⟨by decide,by decide⟩,show(0:Int)=((0:Nat):Int)from rfl,zp (by simp),zf,q9 (by decide),e2,zf,yG,zf,zf];have e4:(([E]:List Nat).getD 0 0/2^(min (i:Int).toNat 64)) &&& 1=E/2^i % 2:=by rw[Nat.and_one_is_mod,xaM,xcZ (by omega)];rfl
   rw[e4];by_cases hb:E/2^i % 2=1
   ·rw[zN];have ml2:=qk p r3 r2;obtain⟨q4,r4,k1,k2,k3,k4,k5,k6⟩:=xf (fu:=fu) hp (vJ (p:=p) (by omega) r3 r2) ha.fm hc (by omega) (by omega) hf;rw[za (wh (by omega) p2 g3 f3 (by omega) (by omega) hf),za k1];simp only;rw[zd];refine ih _ ⟨i,r4,rfl,by omega,⟨k3,k5,?_⟩⟩ (by show((i:Int)-1+1).toNat<(((i+1:Nat):Int)-1+1).toNat;omega);have hq:E/2^i=E/2^(i+1)+E/2^(i+1)+1:=by omega
    rw[hq];show Em p a (pp (ci w) (E/2^(i+1)+E/2^(i+1))*ci w) (ci r4);exact(Em.mul ((Fs.ci w).pp _) (Fs.ci r2) esq (Em.rest f4)).trans ((Em.cg (ky p r3 r2).symm).trans (Em.rest k4))
   ·rw[zx,zd];refine ih _ ⟨i,r3,rfl,by omega,⟨g3,g5,?_⟩⟩ (by show((i:Int)-1+1).toNat<(((i+1:Nat):Int)-1+1).toNat;omega);have hq:E/2^i=E/2^(i+1)+E/2^(i+1):=by omega
    rw[hq];exact esq)
 obtain⟨r,hr,hI⟩:=hd fu (r1,r2,((bl E:Nat):Int)-1) ⟨bl E,r1,rfl,hk,⟨d3,d5,by
  have hz:E/2^bl E=0:=xcc (zg7 E);rw[hz];show Em p a (pc 1) (ci r1);have h1:Em p a (ci [1]) (ci r1):=Em.rest d4;rwa[v8]at h1⟩⟩ (by show(((bl E:Nat):Int)-1+1).toNat<fu;omega)
 refine⟨r,?_,hI.fp,hI.ln,?_⟩
 ·rw[za hr]
 ·have:=hI.em;rwa[xeU,xeQ]at this
theorem Pe{h s:List Int}{S:Nat}(hp:2<=p)(hh:wC p h)(hR:BzR p g h d s t S)(hd:d.length=0\/ci d (d.length-1)=1):wC p d:=by
 obtain⟨A,C,z1,z2,d1,d2⟩:=hR.dv;have hl:0<d.length:=by
  refine xcE fun e=> ?_;have h1:=d2 (h.length-1);rw[hh.top,xk,yF fun i hi=>by rw[zQ (l:=d) (by omega),xas],xag,xaz (by decide) (by omega)]at h1;cases h1
 exact⟨hR.df,hl,hd.resolve_left (by omega)⟩
theorem sA(hp:wG p=true)(ht:Fp p t)(hg:wC p g)(ha:t.length<=290)(hb:g.length<=290)(hf:3000000<=fu):
 ∃d,Jl fu t g p=some d/\wC p d/\Di p (ci d) (ci g)/\ ∀u:List Int,Di p (ci u) (ci d)↔Di p (ci u) (ci t)/\Di p (ci u) (ci g):=by
 obtain⟨p1,p2⟩:=zo hp;obtain⟨d,s1,s2,e1,e2,e3⟩:=WE (fu:=fu) hp ht hg.fm ha hb hf;obtain⟨A,C,z1,z2,d1,d2⟩:=e2.dv;refine⟨d,?_,Pe p1 hg e2 e3,⟨C,z2,d2⟩,fun u=>zee e2 u⟩;unfold Jl;rw[za e1]
theorem Cr(hp:wG p=true)(hg:wC p g)(hd:wC p d)(ha:g.length<=290)(h:Di p (ci d) (ci g))(hf:3000000<=fu):
 ∃q,Uk fu g d p=some q/\wC p q/\Cg p (ci g) (ci q*ci d)/\g.length+1=q.length+d.length:=by
 obtain⟨p1,p2⟩:=zo hp;obtain⟨A,fA,h1⟩:=h;have hb:=Ub p1 hg hd fA h1;have hc:=hd.ln;obtain⟨q,r,e1,e2,e3,e4,e5,e6⟩:=xf (fu:=fu) hp hg.fm hd.fm hd.ln (by omega) (by omega) hf;obtain⟨a,b,c⟩:=Al p1 hg hd fA h1 e2 e3 e4 e5;refine⟨q,?_,a,b,c⟩;unfold Uk qO;rw[za (v:=(q,r,0))];rw[za (jQ hp (by omega)),iq rfl,za (zG (by omega) p2 (hd.fm.rl p2) (by omega) hf),hd.fm.pm,zx,za (zG (by omega) p2 (hg.fm.rl p2) (by omega) hf),hg.fm.pm,za e1]
theorem iF{c:Int}(hp:wG (P:Int)=true)(hv:Rl v)(hi:v.length<=290)(hg:wC (P:Int) g)(hj:g.length<=290)(hk:0<=c)(hl:c<P)(hf:3000000<=fu):
 ∃t,Wk fu v c g P=some t/\Fp (P:Int) t/\t.length<=290/\ ∀u:List Int,Vs (P:Int) u->Di (P:Int) (ci u) (ci g)-> ∀x,Vl (P:Int) u (ci v) x->(Di (P:Int) (ci u) (ci t)↔gh P (x+c)):=by
 obtain⟨p1,p2⟩:=zo hp;have he:=hg.ln;have hc:Rl [c]:=fun k=>by
  rw[v8];unfold pc;split
  ·exact⟨by omega,by omega⟩
  ·exact⟨by decide,by decide⟩
 obtain⟨w,hw⟩: ∃w,w=ZN (P:Int) (pm P v) (pm P [c]) 1:=⟨_,rfl⟩;have l1:=M1 (P:Int) v;have l2:=M1 (P:Int) [c];have lw:w.length<=290:=by
  have:=lU (P:Int) (pm P v) (pm P [c]) 1;rw[<-hw]at this;simp only[xav,xcs]at l2;omega
 have fw:Fp (P:Int) w:=by rw[hw];exact QX (by omega) _ _ _
 have cw:Cg (P:Int) (ci w) (ci v+pc c):=by
  rw[hw];refine(CQ _ _ _ _).trans ((Fq _ v).add ?_);rw[zt];exact(Fq _ [c]).trans (Cg.of (v8 c))
 have ha:VB fu v [c] P=some (w,0):=by
  unfold VB;rw[za (jQ hp (by omega)),iq rfl,za (zG (by omega) p2 hv (by omega) hf),za (zG (by omega) p2 hc (by simp) hf),za (WU (by omega) p2 (px (by omega) v) (px (by omega) [c]) (by decide) (by omega) (by omega) (by simp only[xav,xcs]at l2;omega) hf),hw]
 have vw: ∀u:List Int,∀x,Vl (P:Int) u (ci v) x->Vl (P:Int) u (ci w) (x+c):=fun u x hx=>(Vl.add hx (Vl.pc _ u c)).cg cw.symm;unfold Wk;rw[za ha];simp only;by_cases hP:2<P
 ·obtain⟨r,e1,e2,e3,e4⟩:=Vw (fu:=fu) (E:=(P-1)/2) hp fw hg (by omega) (by omega) (by omega) (by omega) hf;have hd:xda ((P:Int)-1) 2=(((P-1)/2:Nat):Int):=by rw[xdF (by omega)];omega
  obtain⟨t,ht⟩: ∃t,t=ZN (P:Int) r [1] ((P:Int)-1):=⟨_,rfl⟩;have f1:Fp (P:Int) [1]:=Yc (by decide) (by omega);have lt:=lU (P:Int) r [1] ((P:Int)-1);rw[<-ht]at lt;have ct:Cg (P:Int) (ci t) (ci r-pc 1):=by
   rw[ht];refine(CQ _ _ _ _).trans ?_;rw[v8,qL,xcf];intro k;rw[zK,yA];unfold pc;split
   ·rw[show ci r k+((P:Int)-1)=ci r k-1+P*1 by omega,xeC]
   ·rw[xbx,xcB]
  rw[zN,zd,q9 (by decide),hd,zd,za (z8 ⟨by omega,by omega⟩ hf),za e1];simp only;rw[za (K5 hp e2 f1 (by omega) (by simp) hf)];refine⟨t,by rw[ht],by rw[ht];exact QX (by omega) _ _ _,by simp only[xav,xcs]at lt;omega,fun u hu hb x hx=> ?_⟩
  have v1:Vl (P:Int) u (ci t) ((x+c)^((P-1)/2)-1):=
   (Vl.sub ((Em.dv e4 hb).symm.vl (Vl.pp (Fs.ci w) (vw u x hx) ((P-1)/2))) (Vl.pc _ u 1)).cg ct.symm
  refine(v1.di p1 hu).trans ?_;unfold gh;rw[iq hP]
 ·rw[zx];refine⟨w,rfl,fw,lw,fun u hu hb x hx=> ?_⟩;refine((vw u x hx).di p1 hu).trans ?_;unfold gh;rw[ir hP]
def OU(P:Nat)(ds:List Int)(k:Nat):Int:=if k<ds.length then ds.getD k 0 % P else((k-ds.length:Nat):Int)
theorem ax(hP:2<=P)(ha:P<=65521)(hd:Rl ds)(hk:k<P+ds.length)(hb:ds.length<=1000):uu fu (k:Int) ds P=some (OU P ds k)/\0<=OU P ds k/\OU P ds k<P:=by
 unfold uu OU;by_cases h:k<ds.length
 ·rw[zN,zp h,zf,za (show jH fu (ds.getD k 0) (P:Int)=some (ds.getD k 0 % P)from uV (by omega) (by omega) (hd k)),iq h];have:=yh (a:=ds.getD k 0) (p:=(P:Int)) (by omega);exact⟨rfl,this.1,this.2⟩
 ·rw[zx,zd,ir h];exact⟨by congr 1;omega,by omega,by omega⟩
abbrev Ts:=Pz->Int->Prop
structure Pd(P:Nat)(m:List Int)(us:List (List Int))(S:Ts)(l:List (List Int)):Prop where
 pl:Pl (P:Int) m l
 ts: ∀v c,S v c-> ∀g∈l,Ct P us v c g
theorem RP{α:Type}{a b:List α}{g q d:α}:((a++g::b)++[q]).set a.length d=a++d::(b++[q]):=by
 rw[xal,xft _ _ (xac _),xcW];rfl
theorem zaq{α:Type}{l:List α}(h:i<l.length)(z:α): ∃a b,l=a++l.getD i z::b/\a.length=i:=by
 refine⟨l.take i,l.drop (i+1),?_,by rw[xay];omega⟩;have e:l.getD i z=l[i]:=by rw[UV,IR h];rfl
 rw[e,List.getElem_cons_drop,xbK]
theorem uQ{α:Type}{l:List α}(h:i<l.length)(z:α):l.getD i z∈l:=by
 have e:l.getD i z=l[i]:=by rw[UV,IR h];rfl
 rw[e];exact xbh h
theorem Sf.pl_len(h:Sf p m us)(hl:Pl p m l):l.length<=us.length:=by
 obtain⟨vs,v1,v2,v3⟩:=h.pick hl.mn ⟨pc 1,Fs.pc 1,hl.pr.trans (Cg.of (zt _).symm)⟩;have:=KI (us:=us) v2 fun v hv=>(v3 v hv).1;omega
theorem SS{t7:List (List Int)}{i2 i4:Int}{S:Ts}(h:Sf (P:Int) m us)(hH:us.length<=290)(hI:bs.length=nb)(hE:nb<=290)(hd:Rl ds)(hy:ds.length<=1000)(hv:Rl v)(hz:v.length<=290)(hk:k<P+ds.length)(hf:3000000<=fu)(hl:Pd P m us S l):
 ∃r,zj (XA fu P ds bs P ds i2 (k:Int) t7 i4 v) fu (l,0)=some r/\
  ((∃l',r= .inl l'/\Pl (P:Int) m l'/\l'.length=nb)\/ ∃l',r= .inr l'/\Pd P m us (fun w c=>S w c\/w=ci v/\c=OU P ds k) l'):=by
 obtain⟨p1,p2⟩:=zo h.hp;obtain⟨n1,n2,n3⟩:=ax (fu:=fu) (P:=P) (k:=k) (ds:=ds) (by omega) (by omega) hd hk hy;refine yq (fun s:List (List Int)×Int=> ∃(i:Nat) (l:List (List Int)),s=(l,(i:Int))/\Pd P m us S l/\i<=l.length/\ ∀j,j<i->Ct P us (ci v) (OU P ds k) (l.getD j [])) (fun s=>300-s.2.toNat) _ ?_ _ _ ⟨0,l,rfl,hl,xaj _,fun j hj=>by omega⟩ (by show 300-0<fu;omega);rintro s L ⟨i,l,rfl,hl,hi,ht⟩ ih;have hJ:=h.pl_len hl.pl;unfold XA;simp only;by_cases h1:i<l.length
 ·rw[zN];by_cases h2:l.length=nb
  ·rw[zN];exact⟨_,rfl,.inl ⟨l,rfl,hl.pl,h2⟩⟩
  rw[zx,za n1,zp h1,zf];obtain⟨a,b,hb,ho⟩:=zaq h1 [];have hc:=uQ h1 [];obtain⟨g,hg⟩: ∃g,g=l.getD i []:=⟨_,rfl⟩;rw[<-hg]at hb hc⊢;obtain⟨g1,g2⟩:=hl.pl.mn g hc;have hA:=hl.pl.dv hc;have he:=h.len g1 hA;obtain⟨t,t1,t2,t3,t4⟩:=iF (fu:=fu) h.hp hv hz g1 he n2 n3 hf;obtain⟨d,d1,d2,d3,d4⟩:=sA (fu:=fu) h.hp t2 g1 t3 he hf;have hK:=d2.ln;have hF:d.length<=g.length:=by
   obtain⟨q,fq,hq⟩:=d3;exact Ub p1 g1 d2 fq hq
  rw[za t1,zp h1,zf,<-hg,za d1];have hm: ∀u∈us,Di (P:Int) (ci u) (ci g)-> ∀x,Vl (P:Int) u (ci v) x->(Di (P:Int) (ci u) (ci d)↔gh P (x+OU P ds k)):=fun u hu ha x hx=>
   ⟨fun hh=>(t4 u (h.ir u hu).1 ha x hx).1 ((d4 u).1 hh).1,fun hh=>(d4 u).2 ⟨(t4 u (h.ir u hu).1 ha x hx).2 hh,ha⟩⟩
  by_cases h3:1<d.length/\d.length<g.length
  ·obtain⟨q,q1,q2,q3,q4⟩:=Cr (fu:=fu) h.hp g1 d2 he d3 hf;rw[zN,zp h1,zf,<-hg,zN,za rfl];simp only[if_true];rw[zp h1,zf,<-hg,za q1,q9 (by simp;omega),zf,zp (by simp;omega),zf,zd];have hp:(l++[q]).set i d=a++d::(b++[q]):=by rw[hb,<-ho,RP]
   have hB:Di (P:Int) (ci q) (ci g):=⟨ci d,Fs.ci d,q3.trans (Cg.of (zg _ _))⟩;have hr: ∀x∈a++d::(b++[q]),x=d\/x=q\/x∈l:=fun x hx=>by
    rcases Nm.1 hx with hx|hx
    ·right;right;rw[hb];exact xdz _ hx
    ·rcases xae.1 hx with hx|hx
     ·exact .inl hx
     ·rcases Nm.1 hx with hx|hx
      ·right;right;rw[hb];exact xdQ _ (H1 _ hx)
      ·exact .inr (.inl (xah.1 hx))
   have hs:Pl (P:Int) m (a++d::(b++[q])):=by
    have:=hl.pl;rw[hb]at this;exact this.split d2 q2 (by omega) (by omega) q3
   refine ih _ ⟨i+1,_,rfl,?_,?_,?_⟩ ?_
   ·rw[hp];refine⟨hs,fun w c hS x hx=> ?_⟩;rcases hr x hx with rfl|rfl|hx
    ·exact(hl.ts w c hS g hc).sub d3
    ·exact(hl.ts w c hS g hc).sub hB
    ·exact hl.ts w c hS x hx
   ·rw[xcG,xau];omega
   ·intro j hj;rw[hp];by_cases hn:j=i
    ·left;have e:(a++d::(b++[q])).getD j []=d:=by rw[hn,<-ho,UV,xcj (xac _),xcW];rfl
     rw[e];intro u hu hw x hx;exact(hm u hu (hw.trans d3) x hx).1 hw
    ·have e:(a++d::(b++[q])).getD j []=l.getD j []:=by rw[hb,UV,UV,xbn (by omega),xbn (by omega)]
     rw[e];exact ht j (by omega)
   ·have:=h.pl_len hs;have hG:l.length=a.length+1+b.length:=by rw[hb];simp;omega
    simp only[xau,xav]at this;show 300-((i:Int)+1).toNat<300-(i:Int).toNat;omega
  ·have hC:Ct P us (ci v) (OU P ds k) g:=by
    by_cases h4:1<d.length
    ·left;have e:d=g:=B7 p1 d2 g1 d3 (by omega);intro u hu ha x hx;exact(hm u hu ha x hx).1 (by rw[e];exact ha)
    ·right;intro u hu ha x hx hT;have h5:=(hm u hu ha x hx).2 hT;have h6:d=[1]:=d2.one (by omega);rw[h6,v8]at h5;exact(h.ir u hu).1.ne p1 h5
   have hD:(if(1:Int)<(d.length:Int)then
    zH (i:Int) l.length fun j5=>
    nm (l.getD j5 []) fun t13=>
    if(d.length:Int)<(t13.length:Int)then
    some (bs,(P:Int),ds,(k:Int),v,t7,i4,i2,true)
    else
    some (bs,(P:Int),ds,(k:Int),v,t7,i4,i2,false)
    else
    some (bs,(P:Int),ds,(k:Int),v,t7,i4,i2,false):Option (List (List Int)×Int×List Int×Int×List Int×List (List Int)×Int×Int×Bool))=some (bs,(P:Int),ds,(k:Int),v,t7,i4,i2,false):=by
    by_cases h4:1<d.length
    ·rw[zN,zp h1,zf,<-hg,zx]
    ·rw[zx]
   rw[za hD];simp only[xak,if_false];rw[zd];refine ih _ ⟨i+1,l,rfl,hl,by omega,fun j hj=> ?_⟩ (by show 300-((i:Int)+1).toNat<300-(i:Int).toNat;omega);by_cases hn:j=i
   ·rw[hn,<-hg];exact hC
   ·exact ht j (by omega)
 ·rw[zx];refine⟨_,rfl,.inr ⟨l,rfl,hl.pl,fun w c hS g hg=> ?_⟩⟩;rcases hS with hS|⟨rfl,rfl⟩
  ·exact hl.ts w c hS g hg
  ·obtain⟨j,hj,e⟩:=xcF hg;have:=ht j (by omega);rw[UV,IR hj]at this;rw[<-e];exact this
theorem Pd.mono{S T:Ts}(h:Pd P m us S l)(hT: ∀v c,T v c->S v c):Pd P m us T l:=⟨h.pl,fun v c ht=>h.ts v c (hT v c ht)⟩
theorem PZ{S:Ts}(h:Sf (P:Int) m us)(hm:us.length<=290)(hb:bs.length=nb)(hq:1<=nb)(hc:nb<=290)(hd:Rl ds)(hn:ds.length<=1000)(hv: ∀v∈bs,Rl v/\v.length<=290)(hk:k<P+ds.length)(hf:3000000<=fu)(hl:Pd P m us S l):
 ∃r,zj (Xx fu P ds (k:Int) (bs.drop 1)) fu (bs,(P:Int),ds,l,0)=some r/\
  ((∃l',r= .inl l'/\Pl (P:Int) m l'/\l'.length=nb)\/ ∃l',r= .inr (bs,(P:Int),ds,l')/\Pd P m us (fun w c=>S w c\/ ∃i,1<=i/\i<nb/\w=ci (bs.getD i [])/\c=OU P ds k) l'):=by
 refine yq (fun s:List (List Int)×Int×List Int×List (List Int)×Int=> ∃(i:Nat) (l:List (List Int)),s=(bs,(P:Int),ds,l,(i:Int))/\i+1<=nb/\Pd P m us (fun w c=>S w c\/ ∃j,1<=j/\j<i+1/\w=ci (bs.getD j [])/\c=OU P ds k) l) (fun s=>300-s.2.2.2.2.toNat) _ ?_ _ _ ⟨0,l,rfl,by omega,hl.mono fun w c hh=>hh.elim id fun⟨j,a,b,_⟩=>by omega⟩ (by show 300-0<fu;omega);rintro s L ⟨i,l,rfl,hi,hI⟩ ih;unfold Xx;simp only;have ha:(bs.drop 1).length=nb-1:=by rw[xbQ,hb]
 have he: ∀{β:Type} (x:β) (k:β->Option ((List (List Int))⊕(List (List Int)×Int×List Int×List (List Int)))),bd (some x) k=k x:=fun _ _=>rfl;by_cases h1:i+1<nb
 ·rw[iq (by rw[ha];omega),he];simp only[if_true];rw[zp (by rw[ha];omega),zf];have e:(bs.drop 1).getD i []=bs.getD (i+1) []:=by rw[UV,UV,xen,xdA]
  obtain⟨ho,hp⟩:=hv _ (uQ (l:=bs) (i:=i+1) (by omega) []);rw[e];obtain⟨r,hr,hg⟩:=SS (fu:=fu) (i2:=(i:Int)) (i4:=(((bs.drop 1).length:Nat):Int)) (t7:=bs.drop 1) (ds:=ds) h hm hb hc hd hn ho hp hk hf hI;rw[za hr];rcases hg with⟨l',rfl,g1,g2⟩|⟨l',rfl,g1⟩
  ·exact⟨_,rfl,.inl ⟨l',rfl,g1,g2⟩⟩
  ·simp only;rw[zd];refine ih _ ⟨i+1,l',rfl,by omega,g1.mono fun w c hh=> ?_⟩ (by show 300-((i:Int)+1).toNat<300-(i:Int).toNat;omega);rcases hh with hh|⟨j,a,b,c1,c2⟩
   ·exact .inl (.inl hh)
   ·by_cases hj:j=i+1
    ·subst hj;exact .inr ⟨c1,c2⟩
    ·exact .inl (.inr ⟨j,a,by omega,c1,c2⟩)
 ·rw[ir (by rw[ha];omega),he];simp only[xak,if_false];refine⟨_,rfl,.inr ⟨l,rfl,hI.mono fun w c hh=> ?_⟩⟩;rcases hh with hh|⟨j,a,b,c1,c2⟩
  ·exact .inl hh
  ·exact .inr ⟨j,a,by omega,c1,c2⟩
theorem eT(h:Sf (P:Int) m us)(hm:1<m.length)(hn:us.length<=290)(ho:bs.length=nb)(hb:1<=nb)(he:nb<=290)(hd:Rl ds)(hp:ds.length<=1000)(hv: ∀v∈bs,Rl v/\v.length<=290)(hf:3000000<=fu):
 ∃l,YE fu m bs P ds=some l/\Pl (P:Int) m l/\(l.length=nb\/ ∀i,1<=i->i<nb-> ∀c:Nat,c<P-> ∀g∈l,Ct P us (ci (bs.getD i [])) c g):=by
 obtain⟨p1,p2⟩:=zo h.hp;unfold YE
 have ha:=yq (f:=Xg fu bs P ds) (fun s:List (List Int)×Int=> ∃(k:Nat) (l:List (List Int)),s=(l,(k:Int))/\k<=P+ds.length/\Pd P m us (fun w c=> ∃j i,j<k/\1<=i/\i<nb/\w=ci (bs.getD i [])/\c=OU P ds j) l) (fun s=>P+ds.length-s.2.toNat)
  (fun l=>Pl (P:Int) m l/\(l.length=nb\/ ∀i,1<=i->i<nb-> ∀c:Nat,c<P-> ∀g∈l,Ct P us (ci (bs.getD i [])) c g)) (by
  rintro s L ⟨k,l,rfl,hk,hI⟩ ih
  unfold Xg
  simp only
  rw[zd]
  by_cases h1:k<P+ds.length
  ·rw[zN,show(1:Int)=((1:Nat):Int)from rfl,yO,yG,zf]
   obtain⟨r,hr,hi⟩:=PZ (fu:=fu) (ds:=ds) h hn ho hb he hd hp hv h1 hf hI
   rw[za hr]
   rcases hi with⟨l',rfl,g1,g2⟩|⟨l',rfl,g1⟩
   ·exact⟨_,rfl,g1,.inl g2⟩
   ·simp only
    rw[zd]
    refine ih _ ⟨k+1,l',rfl,by omega,g1.mono fun w c hh=> ?_⟩ (by show P+ds.length-((k:Int)+1).toNat<P+ds.length-(k:Int).toNat;omega)
    obtain⟨j,i,a1,a2,a3,a4,a5⟩:=hh
    by_cases hj:j=k
    ·subst hj;exact .inr ⟨i,a2,a3,a4,a5⟩
    ·exact .inl ⟨j,i,by omega,a2,a3,a4,a5⟩
  ·rw[zx]
   refine⟨_,rfl,hI.pl,.inr fun i hs ht c hc g hg=> ?_⟩
   refine hI.ts _ _ ⟨ds.length+c,i,by omega,hs,ht,rfl,?_⟩ g hg
   unfold OU
   rw[zx,show ds.length+c-ds.length=c by omega])
 obtain⟨l,hl,hq⟩:=ha fu ([m],0) ⟨0,[m],rfl,xaj _,⟨⟨fun g hg=>by rw[xah.1 hg];exact⟨h.mn,hm⟩,Cg.of (zL (ci m)).symm⟩,fun v c hh=>by obtain⟨j,i,hj,_⟩:=hh;omega⟩⟩ (by show P+ds.length-0<fu;omega);exact⟨l,by rw[za hl],hq⟩
end
section
variable{N w r i fu lo a:Nat}{R M A B:Nat->Pz}{g f:Pz}{σ:Nat->Nat}{p q:Int}{m:List (List Int)}{l:List Int}{e:Nat->Int}
def kg(N w:Nat)(R:Nat->Pz):List (List Int):=(xbc N).map fun r=>zl w (R r)
theorem kn(N w:Nat)(R:Nat->Pz):(kg N w R).length=N:=by unfold kg;simp
theorem vo(h:r<N):(kg N w R).getD r []=zl w (R r):=by
 unfold kg;rw[UV,xaB,xbg h];rfl
theorem jh{S:Nat->Pz}(h: ∀r,r<N-> ∀k,k<w->R r k=S r k):kg N w R=kg N w S:=by
 unfold kg;exact xbO fun r hr=>yo fun k hk=>h r (xaS.1 hr) k hk
theorem CH:(kg N w R).set r (zl w g)=kg N w fun s=>if s=r then g else R s:=by
 refine xcw fun i=> ?_;unfold kg;rw[xdY,xaN,xcy];by_cases h:r=i
 ·subst h;rw[iq rfl,xaB];by_cases hj:r<N
  ·rw[iq hj,xbg hj];simp
  ·rw[ir hj,xaJ (by simp;omega)];rfl
 ·rw[ir h,xaB,xaB];by_cases hi:i<N
  ·rw[xbg hi];show some (zl w (R i))=some (zl w (if i=r then g else R i));rw[ir (fun e=>h e.symm)]
  ·rw[xaJ (by simp;omega)];rfl
def QG(N:Nat)(σ:Nat->Nat):List Nat:=(xbc N).map σ
theorem YF(N:Nat)(σ:Nat->Nat):(QG N σ).length=N:=by unfold QG;simp
theorem jN(h:i<N):(QG N σ).getD i 0=σ i:=by
 unfold QG;rw[UV,xaB,xbg h];rfl
def M4(p:Int)(a:Nat)(own f:Pz):Pz:=fun k=>(f k+(p-f a)*own k) % p
def rY(p:Int)(a:Nat)(own f:Pz)(i:Nat):Pz:=fun k=>if k<i then M4 p a own f k else f k
theorem zcK(hp:0<p)(a:Nat)(own f:Pz)(k:Nat):0<=M4 p a own f k/\M4 p a own f k<p:=yh hp
theorem Oa{ix:List Nat}{n lo2 n2 q:Nat}{y:Int}(h1:2<=p)(h2:p<=65521)(hR: ∀s,s<N-> ∀k,0<=R s k/\R s k<p)(hr:r<N)(hq:q<N)(hc:q≠r)(hw:w<=64)(hy:y=R q a)(xs0:List (List Int))(h0:xs0=kg N w R)(hf:3000000<=fu):
 zj (fun L (z:((List (List Int)×List Nat)×Nat×Nat)×(Nat×Nat)×Nat×Nat×Nat×Int)=>
 if z.2.2.2.2.2<((xs0.getD r []).length:Int)then
  zH z.2.2.2.2.2 (z.1.1.1.getD z.2.2.2.1 []).length fun j=>
  nm ((z.1.1.1.getD z.2.2.2.1 []).getD j 0) fun v=>
  zH z.2.2.2.2.2 (z.1.1.1.getD z.2.2.2.2.1 []).length fun j=>
  nm ((z.1.1.1.getD z.2.2.2.2.1 []).getD j 0) fun u=>
  ze (p-y) fun e=>
  ze (e*v) fun e=>
  ze (u+e) fun e=>
  ck (p≠0)<|
  nm (xbZ e p) fun e=>
  zH z.2.2.2.2.2 (z.1.1.1.getD z.2.2.2.2.1 []).length fun j=>
  nm (z.1.1.1.set z.2.2.2.2.1 ((z.1.1.1.getD z.2.2.2.2.1 []).set j e)) fun yss=>
  ze (z.2.2.2.2.2+1) fun i=>
  L (((yss,z.1.1.2),z.1.2),z.2.1,z.2.2.1,z.2.2.2.1,z.2.2.2.2.1,i)
 else some (z.1,z.2.1,z.2.2.1)) fu (((xs0,ix),lo,n),(lo2,n2),r,r,q,0)=some (((kg N w fun s=>if s=q then M4 p a (R r) (R q)else R s,ix),lo,n),(lo2,n2),r):=by
 subst h0;refine zE (fun z:((List (List Int)×List Nat)×Nat×Nat)×(Nat×Nat)×Nat×Nat×Nat×Int=> ∃i:Nat,i<=w/\z=(((kg N w fun s=>if s=q then rY p a (R r) (R q) i else R s,ix),lo,n),(lo2,n2),r,r,q,(i:Int))) (fun z=>w-z.2.2.2.2.2.toNat) _ ?_ _ _ ⟨0,xaj _,by
  rw[jh (R:=R) (S:=fun s=>if s=q then rY p a (R r) (R q) 0 else R s) fun s _ k _=>by
   by_cases e:s=q
   ·rw[iq e,e];unfold rY;rw[zx]
   ·rw[ir e]]
  rfl⟩ (by show w-0<fu;omega)
 rintro z L ⟨i,hi,rfl⟩ ih;simp only;rw[vo hr,zI];by_cases ha:i<w
 ·have gr:(kg N w fun s=>if s=q then rY p a (R r) (R q) i else R s).getD r []=zl w (R r):=by rw[vo hr,ir (fun e=>hc e.symm)]
  have gq:(kg N w fun s=>if s=q then rY p a (R r) (R q) i else R s).getD q []=zl w (rY p a (R r) (R q) i):=by rw[vo hq,iq rfl]
  have ev:rY p a (R r) (R q) i i=R q i:=zx;obtain⟨v1,v2⟩:=hR r hr i;obtain⟨u1,u2⟩:=hR q hq i;obtain⟨y1,y2⟩:=hR q hq a;rw[<-hy]at y1 y2;have m1:0<=(p-y)*R r i:=xcz (by omega) v1;have m2:(p-y)*R r i<=65521*65521:=Int.mul_le_mul (by omega) (by omega) v1 (by omega);rw[zN,gr,zI,zp ha,zf,vO ha,gq,zI,zp ha,zf,vO ha,ev,zd,zd,zd,yG,zf,ux (by omega),zp ha,zf,jF,CH,zd];refine ih _ ⟨i+1,by omega,?_⟩ (by show w-((i:Int)+1).toNat<w-(i:Int).toNat;omega);rw[jh (S:=fun s=>if s=q then rY p a (R r) (R q) (i+1)else R s) fun s _ k _=>by
   by_cases e:s=q
   ·rw[iq e,iq e];unfold u5 rY;by_cases hk:k=i
    ·rw[iq hk,zN,hk,hy];rfl
    ·rw[ir hk];by_cases hb:k<i
     ·rw[iq hb,zN]
     ·rw[ir hb,zx]
   ·rw[ir e,ir e,ir e]]
  rfl
 ·rw[zx];obtain rfl:i=w:=by omega
  rw[jh (S:=fun s=>if s=q then M4 p a (R r) (R q)else R s) fun s _ k hk=>by
   by_cases e:s=q
   ·rw[iq e,iq e];unfold rY;rw[iq hk]
   ·rw[ir e,ir e]]
structure Ps(N:Nat)(σ:Nat->Nat):Prop where
 lt: ∀i,i<N->σ i<N
 ij: ∀i j,i<N->j<N->σ i=σ j->i=j
theorem tD{n t:Nat}(h1:2<=p)(h2:p<=65521)(hR: ∀s,s<N-> ∀k,0<=R s k/\R s k<p)(hσ:Ps N σ)(ht:t<N)(ho:t<lo\/lo+n<=t)(hn:lo+n<=N)(hN:N<=64)(hw:w<=64)(ha:a<w)(hf:3000000<=fu):
 ∃S:Nat->Pz,w4 fu (kg N w R) (QG N σ) (σ t) (a:Int) p lo n=some (kg N w S)/\(∀s,s<N-> ∀k,0<=S s k/\S s k<p)/\ ∀j,j<N->S (σ j)=if lo<=j/\j<lo+n then M4 p a (R (σ t)) (R (σ j))else R (σ j):=by
 unfold w4;have hb:=yq (f:=(fun L (x:((List (List Int)×List Nat)×Nat×Nat)×(Nat×Nat)×Nat×Int)=>
 if x.2.2.2<(n:Int)then
  zH x.2.2.2 x.2.1.2 fun j=>
  nm (x.1.1.2.getD (x.2.1.1+j) 0) fun q=>
  zH (a:Int) (x.1.1.1.getD q []).length fun j=>
  nm ((x.1.1.1.getD q []).getD j 0) fun y=>
  bd (zj (fun L (z:((List (List Int)×List Nat)×Nat×Nat)×(Nat×Nat)×Nat×Nat×Nat×Int)=>
   if z.2.2.2.2.2<((x.1.1.1.getD x.2.2.1 []).length:Int)then
    zH z.2.2.2.2.2 (z.1.1.1.getD z.2.2.2.1 []).length fun j=>
    nm ((z.1.1.1.getD z.2.2.2.1 []).getD j 0) fun v=>
    zH z.2.2.2.2.2 (z.1.1.1.getD z.2.2.2.2.1 []).length fun j=>
    nm ((z.1.1.1.getD z.2.2.2.2.1 []).getD j 0) fun u=>
    ze (p-y) fun e=>
    ze (e*v) fun e=>
    ze (u+e) fun e=>
    ck (p≠0)<|
    nm (xbZ e p) fun e=>
    zH z.2.2.2.2.2 (z.1.1.1.getD z.2.2.2.2.1 []).length fun j=>
    nm (z.1.1.1.set z.2.2.2.2.1 ((z.1.1.1.getD z.2.2.2.2.1 []).set j e)) fun yss=>
    ze (z.2.2.2.2.2+1) fun i=>
    L (((yss,z.1.1.2),z.1.2),z.2.1,z.2.2.1,z.2.2.2.1,z.2.2.2.2.1,i)
   else some (z.1,z.2.1,z.2.2.1)) fu (x.1,x.2.1,x.2.2.1,x.2.2.1,q,0)) fun z=>
  ze (x.2.2.2+1) fun i=>
  L (z.1,z.2.1,z.2.2,i)
 else some x.1)) (fun x=> ∃(c:Nat) (S:Nat->Pz),x=(((kg N w S,QG N σ),lo,n),(lo,n),σ t,(c:Int))/\c<=n/\(∀s,s<N-> ∀k,0<=S s k/\S s k<p)/\ ∀j,j<N->S (σ j)=if lo<=j/\j<lo+c then M4 p a (R (σ t)) (R (σ j))else R (σ j)) (fun x=>n-x.2.2.2.toNat)
  (fun y=> ∃S:Nat->Pz,y=((kg N w S,QG N σ),lo,n)/\(∀s,s<N-> ∀k,0<=S s k/\S s k<p)/\ ∀j,j<N->S (σ j)=if lo<=j/\j<lo+n then M4 p a (R (σ t)) (R (σ j))else R (σ j)) (by
  rintro x L ⟨c,S,rfl,hc,hS,hE⟩ ih
  simp only
  by_cases hg:c<n
  ·have hj:lo+c<N:=by omega
   have hi:=hσ.lt t ht
   have hd:=hσ.lt (lo+c) hj
   have hk:σ (lo+c)≠σ t:=fun e=>by have:=hσ.ij _ _ hj ht e;omega
   have hl:S (σ (lo+c))=R (σ (lo+c)):=by rw[hE _ hj,zx]
   have hm:S (σ t)=R (σ t):=by rw[hE _ ht,zx]
   rw[zN,zp hg,zf,jN hj,vo hd,zI,zp ha,zf,vO ha,za (Oa (ix:=QG N σ) (lo:=lo) (n:=n) (lo2:=lo) (n2:=n) h1 h2 hS hi hd hk hw rfl _ rfl hf)]
   simp only
   rw[zd]
   refine ih _ ⟨c+1,fun s=>if s=σ (lo+c)then M4 p a (S (σ t)) (S (σ (lo+c)))else S s,rfl,by omega,fun s hs k=> ?_,fun j he=> ?_⟩ (by show n-((c:Int)+1).toNat<n-(c:Int).toNat;omega)
   ·show 0<=(if s=σ (lo+c)then M4 p a (S (σ t)) (S (σ (lo+c)))else S s) k/\(if s=σ (lo+c)then M4 p a (S (σ t)) (S (σ (lo+c)))else S s) k<p
    by_cases e:s=σ (lo+c)
    ·rw[iq e];exact zcK (show 0<p by omega) _ _ _ _
    ·rw[ir e];exact hS s hs k
   ·show(if σ j=σ (lo+c)then M4 p a (S (σ t)) (S (σ (lo+c)))else S (σ j))=_
    by_cases e:j=lo+c
    ·rw[e,iq rfl,zN,hm,hl]
    ·rw[ir (fun h=>e (hσ.ij _ _ he hj h)),hE j he]
     by_cases e2:lo<=j/\j<lo+c
     ·rw[iq e2,zN]
     ·rw[ir e2,zx]
  ·rw[zx]
   obtain rfl:c=n:=by omega
   exact⟨_,rfl,S,rfl,hS,hE⟩)
 obtain⟨y,hy,S,rfl,hS,hE⟩:=hb fu (((kg N w R,QG N σ),lo,n),(lo,n),σ t,0) ⟨0,R,rfl,xaj _,hR,fun j hj=>by rw[zx]⟩ (by show n-0<fu;omega);refine⟨S,?_,hS,hE⟩;rw[za hy];simp only;rw[q9 ⟨trivial,trivial,trivial⟩]
theorem Jt(hp:wG p=true)(hN:m.length<=64)(hm: ∀r∈m,r.length=w)(hw:w<=64)(hf:3000000<=fu):Zu fu m p=some 0:=by
 unfold Zu;rw[za (jQ hp (by omega)),iq rfl,zx,za (v:=Sum.inl ())];refine zE (fun i:Int=> ∃k:Nat,i=(k:Int)/\k<=m.length) (fun i=>m.length-i.toNat) _ ?_ _ _ ⟨0,rfl,xaj _⟩ (by omega);rintro i L ⟨k,rfl,hk⟩ ih;unfold K8;by_cases h:k<m.length
 ·have e1:=hm _ (uQ h []);have e2:=hm _ (uQ (show 0<m.length by omega) []);rw[zN,za rfl];simp only[if_true];rw[zp h,zf,zx,show(0:Int)=((0:Nat):Int)from rfl,yB,zf,zN,zd];exact ih _ ⟨k+1,by omega,by omega⟩ (by omega)
 ·rw[zx,za rfl];simp only[xak,if_false]
theorem iB(h1:1<=p)(h2:p<=65521)(hr:Rl l)(hl:l.length<=1000000)(hf:3000000<=fu):ZE fu l p=some (zl l.length (fun k=>ci l k % p)):=by
 unfold ZE;rw[yO,yG,zf,QM,za (v:=zl l.length (fun k=>ci l k % p))];refine zE (fun s:Int×List Int=> ∃i:Nat,i<=l.length/\s=((i:Int),zl l.length (fun k=>if k<i then ci l k % p else 0))) (fun s=>l.length-s.1.toNat) _ ?_ _ _ ⟨0,xaj _,by rw[yo (f:=fun _=>0) (g:=fun k=>if k<0 then ci l k % p else 0) fun k _=>by rw[zx]];rfl⟩ (by show l.length-0<fu;omega);rintro s L ⟨i,hi,rfl⟩ ih;unfold KC;simp only;by_cases h:i<l.length
 ·rw[zN,zp h,zf,za (show jH fu (l.getD i 0) p=some (l.getD i 0 % p)from uV h1 h2 (hr i)),zp (by rw[zI];exact h),zf,jF,zd];refine ih _ ⟨i+1,by omega,?_⟩ (by show l.length-((i:Int)+1).toNat<l.length-(i:Int).toNat;omega);rw[yo (g:=fun k=>if k<i+1 then ci l k % p else 0) fun k _=>by
   unfold u5;by_cases hk:k=i
   ·rw[iq hk,zN,hk,Zc]
   ·rw[ir hk];show(if k<i then ci l k % p else 0)=_;by_cases ha:k<i
    ·rw[iq ha,zN]
    ·rw[ir ha,zx]]
  rfl
 ·rw[zx];rw[yo (g:=fun k=>ci l k % p) fun k hk=>by rw[zN]]
theorem Ft{l:List (List Int)}{g:List Int->Option Bool}{b:List Int->Bool}(hg: ∀z∈l,g z=some (b z))(hl:l.length<=1000000)(hf:3000000<=fu):
 (yz fu l g=some (-1)/\ ∀z∈l,b z=false)\/ ∃i:Nat,i<l.length/\yz fu l g=some (i:Int)/\b (l.getD i [])=true/\ ∀j,j<i->b (l.getD j [])=false:=by
 unfold yz
 have ha:=yq (f:=wJ fu l g) (fun i:Int=> ∃k:Nat,i=(k:Int)/\k<=l.length/\ ∀j,j<k->b (l.getD j [])=false) (fun i=>l.length-i.toNat)
  (fun r=>(r= .inl ()/\ ∀j,j<l.length->b (l.getD j [])=false)\/ ∃i:Nat,i<l.length/\r= .inr (i:Int)/\b (l.getD i [])=true/\ ∀j,j<i->b (l.getD j [])=false) (by
  rintro i L ⟨k,rfl,hk,hj⟩ ih
  unfold wJ
  by_cases h:k<l.length
  ·rw[zN,zp h,zf,za (hg _ (uQ h []))]
   cases hb:b (l.getD k [])with
   |true=>
    rw[iq rfl]
    exact⟨_,rfl,.inr ⟨k,h,rfl,hb,hj⟩⟩
   |false=>
    rw[ir (by decide),zd]
    refine ih _ ⟨k+1,by omega,by omega,fun j he=> ?_⟩ (by omega)
    by_cases e:j=k
    ·rw[e];exact hb
    ·exact hj j (by omega)
  ·rw[zx]
   exact⟨_,rfl,.inl ⟨rfl,fun j hm=>hj j (by omega)⟩⟩)
 obtain⟨r,hr,hc⟩:=ha fu 0 ⟨0,rfl,xaj _,fun j hj=>by omega⟩ (by show l.length-0<fu;omega);rcases hc with⟨rfl,hd⟩|⟨i,hi,rfl,hb,hj⟩
 ·left;refine⟨by rw[za hr],fun z hz=> ?_⟩;obtain⟨j,hj,e⟩:=xcF hz;have:=hd j hj;rw[UV,IR hj]at this;rw[<-e];exact this
 ·right;exact⟨i,hi,by rw[za hr],hb,hj⟩
theorem OD{g:Int->Option Bool}{b:Int->Bool}(hg: ∀z,g z=some (b z))(hl:l.length<=1000000)(hf:3000000<=fu):
 (yZ fu l g=some (-1)/\ ∀j,j<l.length->b (ci l j)=false)\/ ∃i:Nat,i<l.length/\yZ fu l g=some (i:Int)/\b (ci l i)=true/\ ∀j,j<i->b (ci l j)=false:=by
 unfold yZ
 have ha:=yq (f:=wk fu l g) (fun i:Int=> ∃k:Nat,i=(k:Int)/\k<=l.length/\ ∀j,j<k->b (ci l j)=false) (fun i=>l.length-i.toNat)
  (fun r=>(r= .inl ()/\ ∀j,j<l.length->b (ci l j)=false)\/ ∃i:Nat,i<l.length/\r= .inr (i:Int)/\b (ci l i)=true/\ ∀j,j<i->b (ci l j)=false) (by
  rintro i L ⟨k,rfl,hk,hj⟩ ih
  unfold wk
  by_cases h:k<l.length
  ·rw[zN,zp h,zf,za (hg _),Zc]
   cases hb:b (ci l k)with
   |true=>
    rw[iq rfl]
    exact⟨_,rfl,.inr ⟨k,h,rfl,hb,hj⟩⟩
   |false=>
    rw[ir (by decide),zd]
    refine ih _ ⟨k+1,by omega,by omega,fun j he=> ?_⟩ (by omega)
    by_cases e:j=k
    ·rw[e];exact hb
    ·exact hj j (by omega)
  ·rw[zx]
   exact⟨_,rfl,.inl ⟨rfl,fun j hm=>hj j (by omega)⟩⟩)
 obtain⟨r,hr,hc⟩:=ha fu 0 ⟨0,rfl,xaj _,fun j hj=>by omega⟩ (by show l.length-0<fu;omega);rcases hc with⟨rfl,hd⟩|⟨i,hi,rfl,hb,hj⟩
 ·exact .inl ⟨by rw[za hr],hd⟩
 ·exact .inr ⟨i,hi,by rw[za hr],hb,hj⟩
def dt(w:Nat)(f:Pz)(e:Nat->Int):Int:=zV w fun k=>f k*e k
theorem TB(h: ∀k,k<w->f k % p=g k % p):dt w f e % p=dt w g e % p:=Uv fun k hk=>by rw[xbo,h k hk,<-xbo]
theorem RB(c d:Int):dt w (fun k=>c*f k+d*g k) e=c*dt w f e+d*dt w g e:=by
 unfold dt;rw[<-jR,<-jR,<-Zg];exact zU fun k _=>by grind
def Kr(p:Int)(N w:Nat)(A:Nat->Pz)(e:Nat->Int):Prop:= ∀i,i<N->p∣dt w (A i) e
structure pS(p:Int)(N w:Nat)(M A:Nat->Pz)(n c:Nat)(pv:Nat->Nat):Prop where
 hn:n<=N
 hc:c<=w
 rg: ∀i,i<N-> ∀k,0<=A i k/\A i k<p
 lt: ∀i,i<n->pv i<c
 on: ∀i,i<n->A i (pv i)=1
 no: ∀i,i<n-> ∀j,j<N->j≠i->A j (pv i)=0
 ld: ∀i,i<n-> ∀k,k<pv i->A i k=0
 zr: ∀i,n<=i->i<N-> ∀k,k<c->A i k=0
 kr: ∀e,Kr p N w A e↔Kr p N w M e
theorem pS.skip{n c:Nat}{pv:Nat->Nat}(h:pS p N w M A n c pv)(hc:c<w)(hz: ∀i,n<=i->i<N->A i c=0):pS p N w M A n (c+1) pv:=
 ⟨h.hn,hc,h.rg,fun i hi=>by have:=h.lt i hi;omega,h.on,h.no,h.ld,fun i h1 h2 k hk=>by
  by_cases e:k=c
  ·rw[e];exact hz i h1 h2
  ·exact h.zr i h1 h2 k (by omega),h.kr⟩
theorem pS.swap{n c:Nat}{pv:Nat->Nat}(h:pS p N w M A n c pv)(ha:n<=a)(hc:a<N)(hB: ∀i,i<N->B i=if i=n then A a else if i=a then A n else A i):pS p N w M B n c pv:=by
 have he: ∀i,i<n->B i=A i:=fun i hi=>by
  have:=h.hn;rw[hB i (by omega),zx,zx]
 have hb: ∀i,i<N-> ∃j,j<N/\B i=A j/\(n<=i->n<=j)/\(∀x,x<n->(i≠x->j≠x)):=fun i hi=>by
  by_cases e1:i=n
  ·exact⟨a,hc,by rw[hB i hi,iq e1],fun _=>ha,fun x hx _=>by omega⟩
  ·by_cases e2:i=a
   ·exact⟨n,by omega,by rw[hB i hi,ir e1,iq e2],fun _=>xac _,fun x hx _=>by omega⟩
   ·exact⟨i,hi,by rw[hB i hi,ir e1,ir e2],id,fun x hx=>id⟩
 have hd: ∀i,i<N-> ∃j,j<N/\A i=B j:=fun i hi=>by
  by_cases e1:i=n
  ·refine⟨a,hc,?_⟩;rw[hB a hc];by_cases e:a=n
   ·rw[iq e,e1,e]
   ·rw[ir e,iq rfl,e1]
  ·by_cases e2:i=a
   ·exact⟨n,by omega,by rw[hB n (by omega),iq rfl,e2]⟩
   ·exact⟨i,hi,by rw[hB i hi,ir e1,ir e2]⟩
 refine⟨h.hn,h.hc,fun i hi=> ?_,h.lt,fun i hi=> ?_,fun i hi j hj hf=> ?_,fun i hi k hk=> ?_,fun i h1 h2 k hk=> ?_,fun e=> ?_⟩
 ·obtain⟨j,hj,e,_⟩:=hb i hi;rw[e];exact h.rg j hj
 ·rw[he i hi];exact h.on i hi
 ·obtain⟨x,hx,e,_,hg⟩:=hb j hj;rw[e];exact h.no i hi x hx (hg i hi hf)
 ·rw[he i hi];exact h.ld i hi k hk
 ·obtain⟨j,hj,e,hl,_⟩:=hb i h2;rw[e];exact h.zr j (hl h1) hj k hk
 ·refine Iff.trans ⟨fun hk i hi=> ?_,fun hk i hi=> ?_⟩ (h.kr e)
  ·obtain⟨j,hj,e⟩:=hd i hi;rw[e];exact hk j hj
  ·obtain⟨j,hj,e,_⟩:=hb i hi;rw[e];exact hk j hj
theorem pS.step{n c:Nat}{pv:Nat->Nat}(hp:2<=p)(h:pS p N w M A n c pv)(hb:n<N)(hr:c<w)(hq:(q*A n c) % p=1)(hf:B n=fun k=>(A n k*q) % p)(hB: ∀j,j<N->j≠n->B j=M4 p c (B n) (A j)):
 pS p N w M B (n+1) (c+1) (fun i=>if i=n then c else pv i):=by
 have hg: ∀k,k<c->B n k=0:=fun k hk=>by rw[hf];show A n k*q % p=0;rw[h.zr n (xac _) hb k hk,xaQ,xag]
 have hm:B n c=1:=by rw[hf];show A n c*q % p=1;rw[xbi,hq]
 have hc: ∀j,j<N->j≠n-> ∀k,B j k=(A j k+(p-A j c)*B n k) % p:=fun j hj hd k=>by rw[hB j hj hd];rfl
 have ha: ∀j,j<N->j≠n-> ∀k,B n k=0->B j k=A j k:=fun j hj hd k hk=>by
  rw[hc j hj hd,hk,xas,xbx];exact xaz (h.rg j hj k).1 (h.rg j hj k).2
 have he: ∀i,i<n->B n (pv i)=0:=fun i hi=>hg _ (h.lt i hi);refine⟨hb,hr,fun i hi k=> ?_,fun i hi=> ?_,fun i hi=> ?_,fun i hi j hj hs=> ?_,fun i hi k hk=> ?_,fun i h1 h2 k hk=> ?_,fun e=> ?_⟩
 ·by_cases e:i=n
  ·rw[e,hf];exact yh (by omega)
  ·rw[hc i hi e];exact yh (by omega)
 ·show(if i=n then c else pv i)<c+1;by_cases e:i=n
  ·rw[iq e];omega
  ·rw[ir e];have:=h.lt i (by omega);omega
 ·show B i (if i=n then c else pv i)=1;by_cases e:i=n
  ·rw[iq e,e,hm]
  ·rw[ir e,ha i (by omega) e _ (he i (by omega))];exact h.on i (by omega)
 ·show B j (if i=n then c else pv i)=0;by_cases e:i=n
  ·rw[iq e,hc j hj (by omega),hm,xcf,show A j c+(p-A j c)=p by omega,Int.emod_self]
  ·rw[ir e];by_cases e2:j=n
   ·rw[e2];exact he i (by omega)
   ·rw[ha j hj e2 _ (he i (by omega))];exact h.no i (by omega) j hj hs
 ·have hl:k<(if i=n then c else pv i):=hk;by_cases e:i=n
  ·rw[iq e]at hl;rw[e];exact hg k hl
  ·rw[ir e]at hl;have h3:=h.lt i (by omega);rw[ha i (by omega) e k (hg k (by omega))];exact h.ld i (by omega) k hl
 ·by_cases e:k=c
  ·rw[e,hc i h2 (by omega),hm,xcf,show A i c+(p-A i c)=p by omega,Int.emod_self]
  ·rw[ha i h2 (by omega) k (hg k (by omega))];exact h.zr i (by omega) h2 k (by omega)
 ·refine Iff.trans ?_ (h.kr e);have en:dt w (B n) e % p=(q*dt w (A n) e) % p:=by
   have:=TB (p:=p) (w:=w) (f:=B n) (g:=fun k=>q*A n k+0*A n k) (e:=e) fun k _=>by rw[hf];show A n k*q % p % p=_;rw[xaD];congr 1;grind
   rw[this,RB];congr 1;grind
  have ej: ∀j,j<N->j≠n->dt w (B j) e % p=(dt w (A j) e+(p-A j c)*dt w (B n) e) % p:=fun j hj hd=>by
   have:=TB (p:=p) (w:=w) (f:=B j) (g:=fun k=>1*A j k+(p-A j c)*B n k) (e:=e) fun k _=>by rw[hc j hj hd,xaD];congr 1;grind
   rw[this,RB];congr 1;grind
  have dv: ∀{x y:Int},x % p=y % p->(p∣x↔p∣y):=fun{x y} hn=>⟨fun hx=>xaH (by rw[<-hn];exact xax hx),fun hy=>xaH (by rw[hn];exact xax hy)⟩;have ht:p∣dt w (B n) e->p∣dt w (A n) e:=fun hh=>by
   have h1:=(dv en).1 hh;have h2:p∣A n c*(q*dt w (A n) e):=xbC h1 (xcL _ _);refine(dv ?_).1 h2;rw[<-xbH,xbo,xbi (A n c) q,hq,xbX,xaD]
  constructor
  ·intro hk j hj;by_cases e1:j=n
   ·rw[e1];exact ht (hk n hb)
   ·have h1:=(dv (ej j hj e1)).1 (hk j hj);have h2:p∣(p-A j c)*dt w (B n) e:=xbC (hk n hb) (xcL _ _);have h3:=xdo h1 h2;rwa[Int.add_sub_cancel]at h3
  ·intro hk j hj;have ho:p∣dt w (B n) e:=(dv en).2 (xbC (hk n hb) (xcL _ _));by_cases e1:j=n
   ·rw[e1];exact ho
   ·exact(dv (ej j hj e1)).2 (Int.dvd_add (hk j hj) (xbC ho (xcL _ _)))
theorem DS(N w:Nat)(R:Nat->Pz):kg N w R++[zl w (R N)]=kg (N+1) w R:=by
 unfold kg;rw[xdD,xaO];rfl
theorem R4(N:Nat)(σ:Nat->Nat):QG N σ++[σ N]=QG (N+1) σ:=by
 unfold QG;rw[xdD,xaO];rfl
theorem lK{v:Nat}:(QG N σ).set i v=QG N fun s=>if s=i then v else σ s:=by
 refine xcw fun j=> ?_;unfold QG;rw[xdY,xaN,xcy];by_cases h:i=j
 ·subst h;rw[iq rfl,xaB];by_cases hj:i<N
  ·rw[iq hj,xbg hj];simp
  ·rw[ir hj,xaJ (by simp;omega)];rfl
 ·rw[ir h,xaB,xaB];by_cases hi:j<N
  ·rw[xbg hi];show some (σ j)=some (if j=i then v else σ j);rw[ir (fun e=>h e.symm)]
  ·rw[xaJ (by simp;omega)];rfl
theorem TC(hσ: ∀i,i<N->σ i<N):((QG N σ).map fun r=>(kg N w R).getD r [])=kg N w fun i=>R (σ i):=by
 show((xbc N).map σ).map _=(xbc N).map _;rw[xcP];exact xbO fun i hi=>vo (hσ i (xaS.1 hi))
theorem zaI{n:Nat}(h:n<=N):(kg N w R).take n=kg n w R:=by
 unfold kg;rw[<-List.map_take,List.take_range,xcZ h]
theorem TA{n:Nat}(h:n<=N):(kg N w R).drop n=kg (N-n) w fun i=>R (n+i):=by
 refine xcw fun i=> ?_;unfold kg;rw[xen,xaB,xaB];by_cases hi:n+i<N
 ·rw[xbg hi,xbg (by omega)];rfl
 ·rw[xaJ (by simp;omega),xaJ (by simp;omega)];rfl
theorem P3{n:Nat}(h1:2<=p)(h2:p<=65521)(hR: ∀s,s<N-> ∀k,0<=R s k/\R s k<p)(hr:r<N)(hd:σ n=r)(hn:n<N)(hb:0<=q)(hg:q<p)(hw:w<=64)(xs0:List (List Int))(h0:xs0=kg N w R)(nI:Int)(he:nI=(n:Int))(hf:3000000<=fu):
 zj (fun L (z:(List (List Int)×List Nat)×Nat×Int)=>
  if z.2.2<((xs0.getD r []).length:Int)then
   zH z.2.2 (z.1.1.getD z.2.1 []).length fun j=>
   nm ((z.1.1.getD z.2.1 []).getD j 0) fun y=>
   zH nI z.1.2.length fun j=>
   nm (z.1.2.getD j 0) fun r=>
   ze (y*q) fun e=>
   ck (p≠0)<|
   nm (xbZ e p) fun e=>
   zH z.2.2 (z.1.1.getD r []).length fun j=>
   nm (z.1.1.set r ((z.1.1.getD r []).set j e)) fun yss=>
   ze (z.2.2+1) fun i=>L ((yss,z.1.2),z.2.1,i)
  else some z.1) fu ((xs0,QG N σ),r,0)=some (kg N w fun s=>if s=r then fun k=>(R r k*q) % p else R s,QG N σ):=by
 subst h0 he;refine zE (fun z:(List (List Int)×List Nat)×Nat×Int=> ∃i:Nat,i<=w/\z=((kg N w fun s=>if s=r then fun k=>if k<i then(R r k*q) % p else R r k else R s,QG N σ),r,(i:Int))) (fun z=>w-z.2.2.toNat) _ ?_ _ _ ⟨0,xaj _,by
  rw[jh (R:=R) (S:=fun s=>if s=r then fun k=>if k<0 then(R r k*q) % p else R r k else R s) fun s _ k _=>by
   by_cases e:s=r
   ·rw[iq e,e];show R r k=if k<0 then _ else R r k;rw[zx]
   ·rw[ir e]]
  rfl⟩ (by show w-0<fu;omega)
 rintro z L ⟨i,hi,rfl⟩ ih;simp only;rw[vo hr,zI];by_cases ha:i<w
 ·have gr:(kg N w fun s=>if s=r then fun k=>if k<i then(R r k*q) % p else R r k else R s).getD r []=zl w (fun k=>if k<i then(R r k*q) % p else R r k):=by rw[vo hr,iq rfl]
  obtain⟨v1,v2⟩:=hR r hr i;have m1:0<=R r i*q:=xcz v1 hb;have m2:R r i*q<=65521*65521:=Int.mul_le_mul (by omega) (by omega) hb (by omega);rw[zN,gr,zI,zp ha,zf,vO ha,zx,YF,zp hn,zf,jN hn,hd,zd,yG,zf,ux (by omega),gr,zI,zp ha,zf,jF,CH,zd];refine ih _ ⟨i+1,by omega,?_⟩ (by show w-((i:Int)+1).toNat<w-(i:Int).toNat;omega);rw[jh (S:=fun s=>if s=r then fun k=>if k<i+1 then(R r k*q) % p else R r k else R s) fun s _ k _=>by
   by_cases e:s=r
   ·rw[iq e,iq e];unfold u5;show _=if k<i+1 then(R r k*q) % p else R r k;by_cases hk:k=i
    ·rw[iq hk,zN,hk]
    ·rw[ir hk];show(if k<i then(R r k*q) % p else R r k)=_;by_cases hc:k<i
     ·rw[iq hc,zN]
     ·rw[ir hc,zx]
   ·rw[ir e,ir e,ir e]]
  rfl
 ·rw[zx];obtain rfl:i=w:=by omega
  rw[jh (S:=fun s=>if s=r then fun k=>(R r k*q) % p else R s) fun s _ k hk=>by
   by_cases e:s=r
   ·rw[iq e,iq e];show(if k<i then _ else _)=_;rw[iq hk]
   ·rw[ir e,ir e]]
theorem zg5(hp:0<p):pS p N w M (fun i k=>M i k % p) 0 0 (fun _=>0):=
 ⟨xaj _,xaj _,fun i _ k=>yh hp,fun i hi=>by omega,fun i hi=>by omega,fun i hi=>by omega,fun i hi=>by omega,fun i _ _ k hk=>by omega,fun e=>by
  have dv: ∀{x y:Int},x % p=y % p->(p∣x↔p∣y):=fun{x y} ha=>⟨fun hx=>xaH (by rw[<-ha];exact xax hx),fun hy=>xaH (by rw[ha];exact xax hy)⟩;have: ∀i,p∣dt w (fun k=>M i k % p) e↔p∣dt w (M i) e:=fun i=>dv (TB fun k _=>xaD _ _);exact⟨fun h i hi=>(this i).1 (h i hi),fun h i hi=>(this i).2 (h i hi)⟩⟩
def Ss(fu:Nat)(p:Int):(((List (List Int)×List Nat)×Int×Int)->Option ((List (List Int)×List Nat)×Int))->((List (List Int)×List Nat)×Int×Int)->Option ((List (List Int)×List Nat)×Int):=fun L (x:(List (List Int)×List Nat)×Int×Int)=>if x.2.1<(x.1.2.length:Int)then zH 0 x.1.2.length fun j=>nm (x.1.2.getD j 0) fun r=>if x.2.2<((x.1.1.getD r []).length:Int)then ki x.2.1 fun j=>ck (j<=x.1.2.length)<|bd (yz fu (xdr (x.1.2.length-j) (xdw j (x.1.2.map fun r=>x.1.1.getD r []))) fun z=>qu fu z x.2.2) fun i=>if i<0 then ze (x.2.2+1) fun c=>L (x.1,x.2.1,c)else ze (x.2.1+i) fun a=>ze (x.2.1+i) fun b=>zH b x.1.2.length fun j=>nm (x.1.2.getD j 0) fun r1=>zH x.2.1 x.1.2.length fun j=>nm (x.1.2.getD j 0) fun r2=>zH x.2.1 x.1.2.length fun j=>nm (x.1.2.set j r1) fun ix=>zH a ix.length fun j=>nm (ix.set j r2) fun ix=>zH x.2.1 ix.length fun j=>nm (ix.getD j 0) fun r=>zH x.2.2 (x.1.1.getD r []).length fun j=>nm ((x.1.1.getD r []).getD j 0) fun y=>bd (Y5 fu y p) fun q=>zH x.2.1 ix.length fun j=>nm (ix.getD j 0) fun r=>bd (zj (fun L (z:(List (List Int)×List Nat)×Nat×Int)=>if z.2.2<((x.1.1.getD r []).length:Int)then zH z.2.2 (z.1.1.getD z.2.1 []).length fun j=>nm ((z.1.1.getD z.2.1 []).getD j 0) fun y=>zH x.2.1 z.1.2.length fun j=>nm (z.1.2.getD j 0) fun r=>ze (y*q.1) fun e=>ck (p≠0)<|nm (xbZ e p) fun e=>zH z.2.2 (z.1.1.getD r []).length fun j=>nm (z.1.1.set r ((z.1.1.getD r []).set j e)) fun yss=>ze (z.2.2+1) fun i=>L ((yss,z.1.2),z.2.1,i)else some z.1) fu ((x.1.1,ix),r,0)) fun m=>zH x.2.1 m.2.length fun j=>nm (m.2.getD j 0) fun r=>ki x.2.1 fun j=>ck (j<=m.2.length)<|bd (w4 fu m.1 m.2 r x.2.2 p 0 j) fun yss=>zH x.2.1 m.2.length fun j=>nm (m.2.getD j 0) fun r=>ze (x.2.1+1) fun e=>ki e fun j=>ck (j<=m.2.length)<|bd (w4 fu yss m.2 r x.2.2 p j (m.2.length-j)) fun yss=>ze (x.2.1+1) fun k=>ze (x.2.2+1) fun c=>L ((yss,m.2),k,c)else some (x.1,x.2.1)else some (x.1,x.2.1)
def EI(p:Int)(N w:Nat)(M:Nat->Pz)(x:(List (List Int)×List Nat)×Int×Int):Prop:=
 ∃(R:Nat->Pz) (σ:Nat->Nat) (n c:Nat) (pv:Nat->Nat),x=((kg N w R,QG N σ),(n:Int),(c:Int))/\(∀s,s<N-> ∀k,0<=R s k/\R s k<p)/\Ps N σ/\pS p N w M (fun i=>R (σ i)) n c pv
def EQ(p:Int)(N w:Nat)(M:Nat->Pz)(y:(List (List Int)×List Nat)×Int):Prop:=
 ∃(R:Nat->Pz) (σ:Nat->Nat) (n c:Nat) (pv:Nat->Nat),y=((kg N w R,QG N σ),(n:Int))/\Ps N σ/\pS p N w M (fun i=>R (σ i)) n c pv/\(n=N\/c=w)
theorem zdD{α:Type}{n:Nat}{k:Nat->Option α}(h:0<n):zH (0:Int) n k=k 0:=by
 rw[show(0:Int)=((0:Nat):Int)from rfl,zp h]
theorem zat(hp:wG p=true)(hN:N<=64)(hw:w<=64)(hf:3000000<=fu){x:(List (List Int)×List Nat)×Int×Int}(hx:EI p N w M x): ∃y,zj (Ss fu p) fu x=some y/\EQ p N w M y:=by
 obtain⟨p1,p2⟩:=zo hp;refine yq (EI p N w M) (fun x=>w-x.2.2.toNat) _ ?_ _ _ hx (by obtain⟨R,σ,n,c,pv,rfl,_⟩:=hx;show w-(c:Int).toNat<fu;omega);rintro x L ⟨R,σ,n,c,pv,rfl,hR,hσ,hE⟩ ih;unfold Ss;simp only;have ho:=hE.hn;have hq:=hE.hc;rw[YF];by_cases h1:n<N
 ·have hk:=hσ.lt 0 (by omega);rw[zN,zdD (by omega),zf,jN (by omega),vo hk,zI];by_cases h2:c<w
  ·rw[zN,yO,yG,TC hσ.lt,TA (by omega),xaX (by rw[kn];exact xac _)];have he: ∀z∈kg (N-n) w (fun i=>R (σ (n+i))),qu fu z (c:Int)=some (!decide (ci z c=0)):=fun z hz=>by
    obtain⟨j,hj,rfl⟩:=xai.1 hz;unfold qu;rw[zp (by rw[zI];exact h2),zf,Zc];by_cases e:ci (zl w (R (σ (n+j)))) c=0
    ·rw[iq e,decide_eq_true e];rfl
    ·rw[ir e,decide_eq_false e];rfl
   rcases Ft (fu:=fu) (b:=fun z=> !decide (ci z c=0)) he (by rw[kn];omega) hf with⟨g1,g2⟩|⟨i,hi,g1,g2,g3⟩
   ·rw[za g1,iq (by decide),zd];refine ih _ ⟨R,σ,n,c+1,pv,rfl,hR,hσ,hE.skip h2 fun i h3 h4=> ?_⟩ (by show w-((c:Int)+1).toNat<w-(c:Int).toNat;omega);have g4:=g2 ((kg (N-n) w (fun i=>R (σ (n+i)))).getD (i-n) []) (uQ (by rw[kn];omega) []);rw[vo (by omega),jc h2,show n+(i-n)=i by omega]at g4;show R (σ i) c=0;simpa using g4
   ·rw[kn]at hi;rw[vo hi,jc h2]at g2;have ha:R (σ (n+i)) c≠0:=by simpa using g2
    obtain⟨τ,hτ⟩: ∃τ:Nat->Nat,τ=fun s=>if s=n+i then σ n else if s=n then σ (n+i)else σ s:=⟨_,rfl⟩;have hl:τ n=σ (n+i):=by
     rw[hτ];show(if n=n+i then σ n else if n=n then σ (n+i)else σ n)=_;by_cases e:n=n+i
     ·rw[iq e];exact congrArg σ e
     ·rw[ir e,iq rfl]
    have hb:Ps N τ:=by
     have hc: ∀s,τ s=σ (if s=n+i then n else if s=n then n+i else s):=fun s=>by
      rw[hτ];show(if s=n+i then σ n else if s=n then σ (n+i)else σ s)=_;by_cases e1:s=n+i
      ·rw[iq e1,iq e1]
      ·rw[ir e1,ir e1];by_cases e2:s=n
       ·rw[iq e2,iq e2]
       ·rw[ir e2,ir e2]
     refine⟨fun s hs=> ?_,fun s t hs ht e=> ?_⟩
     ·rw[hc];refine hσ.lt _ ?_;split<;>(try split)<;>omega
     ·rw[hc,hc]at e;have:=hσ.ij _ _ (by split<;>(try split)<;>omega) (by split<;>(try split)<;>omega) e;split at this<;>(try split at this)<;>(try split at this)<;>(try split at this)<;>omega
    have hm:pS p N w M (fun j=>R (τ j)) n c pv:=hE.swap (a:=n+i) (by omega) (by omega) fun j hj=>by
     rw[hτ];show R (if j=n+i then σ n else if j=n then σ (n+i)else σ j)=if j=n then R (σ (n+i))else if j=n+i then R (σ n)else R (σ j);by_cases e2:j=n+i
     ·rw[iq e2];by_cases e1:j=n
      ·rw[iq e1];have e3:n+i=n:=by omega
       rw[e3]
      ·rw[ir e1,iq e2]
     ·rw[ir e2];by_cases e1:j=n
      ·rw[iq e1,iq e1]
      ·rw[ir e1,ir e1,ir e2]
    have hg:=hb.lt n h1;obtain⟨y1,y2⟩:=hR (τ n) hg c;obtain⟨q,q1,q2,q3,q4⟩:=Vv (fu:=fu) (a:=R (τ n) c) hp (by rw[hl]at y1 y2⊢;omega) y2 hf;have e1:(n:Int)+(i:Int)=((n+i:Nat):Int):=by omega
    have hn:(QG N σ).set n (σ (n+i))=QG N fun s=>if s=n then σ (n+i)else σ s:=lK;rw[za g1,zx,e1,zd,zd,yB,zf,jN (by omega),zp h1,zf,jN h1,zp h1,zf,lK,YF,yB,zf,lK,YF];rw[show(fun s=>if s=n+i then σ n else if s=n then σ (n+i)else σ s)=τ from hτ.symm];rw[zp h1,zf,jN h1,vo hg,zI,zp h2,zf,vO h2,za q1];simp only;rw[zp h1,zf,jN h1,za (P3 (fu:=fu) (n:=n) (r:=τ n) (q:=q) p1 p2 hR hg rfl h1 q2 q3 hw _ rfl _ rfl hf)];simp only;obtain⟨S1,hd⟩: ∃S1:Nat->Pz,S1=fun s=>if s=τ n then fun k=>(R (τ n) k*q) % p else R s:=⟨_,rfl⟩;rw[<-hd];have r1: ∀s,s<N-> ∀k,0<=S1 s k/\S1 s k<p:=fun s hs k=>by
     rw[hd];show 0<=(if s=τ n then fun k=>(R (τ n) k*q) % p else R s) k/\(if s=τ n then fun k=>(R (τ n) k*q) % p else R s) k<p;by_cases e:s=τ n
     ·rw[iq e];exact yh (show 0<p by omega)
     ·rw[ir e];exact hR s hs k
    have s1n:S1 (τ n)=fun k=>(R (τ n) k*q) % p:=by rw[hd];exact iq rfl
    have s1j: ∀j,j<N->j≠n->S1 (τ j)=R (τ j):=fun j hj ha=>by rw[hd];exact ir fun e=>ha (hb.ij _ _ hj h1 e)
    obtain⟨S2,t1,r2,t2⟩:=tD (fu:=fu) (a:=c) (lo:=0) (n:=n) (t:=n) p1 p2 r1 hb h1 (.inr (by omega)) (by omega) hN hw h2 hf;obtain⟨S3,t3,r3,t4⟩:=tD (fu:=fu) (a:=c) (lo:=n+1) (n:=N-(n+1)) (t:=n) p1 p2 r2 hb h1 (.inl (by omega)) (by omega) hN hw h2 hf;have s2n:S2 (τ n)=S1 (τ n):=by rw[t2 n h1,zx]
    have s3n:S3 (τ n)=S1 (τ n):=by rw[t4 n h1,zx,s2n]
    have e2:(n:Int)+1=((n+1:Nat):Int):=by omega
    rw[YF,zp h1,zf,jN h1,yO,yG,za t1,zp h1,zf,jN h1,e2,zd,yO,yG,za t3,zd,zd];refine ih _ ⟨S3,τ,n+1,c+1,fun i=>if i=n then c else pv i,rfl,r3,hb,?_⟩ (by show w-((c:Int)+1).toNat<w-(c:Int).toNat;omega);refine hm.step (q:=q) p1 h1 h2 q4 (s3n.trans s1n) fun j hj ha=> ?_;show S3 (τ j)=M4 p c (S3 (τ n)) (R (τ j));by_cases hr:j<n
    ·rw[t4 j hj,zx,t2 j hj,if_pos ⟨by omega,by omega⟩,s3n,s1j j hj ha]
    ·rw[t4 j hj,if_pos ⟨by omega,by omega⟩,s2n,t2 j hj,zx,s3n,s1j j hj ha]
  ·rw[zx];exact⟨_,rfl,R,σ,n,c,pv,rfl,hσ,hE,.inr (by omega)⟩
 ·rw[zx];exact⟨_,rfl,R,σ,n,c,pv,rfl,hσ,hE,.inl (by omega)⟩
theorem dC(hp:wG p=true)(hc:m.length=N)(hN:N<=64)(hm: ∀r∈m,r.length=w/\Rl r)(hw:w<=64)(hf:3000000<=fu):
 ∃(A:Nat->Pz) (n c:Nat) (pv:Nat->Nat),jK fu m p=some (kg n w A,0)/\pS p N w (fun i=>ci (m.getD i [])) A n c pv/\(n=N\/c=w):=by
 obtain⟨p1,p2⟩:=zo hp;unfold jK;rw[za (Jt hp (by omega) (fun r hr=>(hm r hr).1) hw hf),iq rfl];obtain⟨M,hM⟩: ∃M:Nat->Pz,M=fun i=>ci (m.getD i []):=⟨_,rfl⟩;rw[<-hM];rw[za (v:=(kg N w (fun i k=>M i k % p),QG N fun i=>i))]
 ·show∃A n c pv,bd (zj (Ss fu p) fu ((kg N w (fun i k=>M i k % p),QG N fun i=>i),0,0)) _=_/\_;obtain⟨y,hy,R,σ,n,c,pv,rfl,hσ,hE,ha⟩:=zat (fu:=fu) (M:=M) hp hN hw hf (x:=((kg N w (fun i k=>M i k % p),QG N fun i=>i),0,0)) ⟨_,_,0,0,fun _=>0,rfl,fun s _ k=>yh (by omega),⟨fun i hi=>hi,fun i j _ _ h=>h⟩,zg5 (by omega)⟩;have hn:=hE.hn;refine⟨fun i=>R (σ i),n,c,pv,?_,hE,ha⟩;rw[za hy];simp only;rw[yO,TC hσ.lt,kn,q9 hn,zf,zaI hn]
 ·refine zE (fun x:(List (List Int)×List Nat)×Int=> ∃i:Nat,i<=N/\x=((kg i w (fun i k=>M i k % p),QG i fun i=>i),(i:Int))) (fun x=>N-x.2.toNat) _ ?_ _ _ ⟨0,xaj _,rfl⟩ (by show N-0<fu;omega);rintro x L ⟨i,hi,rfl⟩ ih;simp only;by_cases h:i<N
  ·have hb:=uQ (l:=m) (i:=i) (by omega) [];obtain⟨e1,e2⟩:=hm _ hb;have ep:ZE fu (m.getD i []) p=some (zl w (fun k=>M i k % p)):=by rw[iB (by omega) p2 e2 (by omega) hf,e1,hM]
   rw[zN,yB,zf,za ep,YF,yG,zf,kn,zf,zd];refine ih _ ⟨i+1,by omega,?_⟩ (by show N-((i:Int)+1).toNat<N-(i:Int).toNat;omega);rw[<-DS,<-R4];rfl
  ·rw[zx];obtain rfl:i=N:=by omega
   rfl
end
section
variable{fu w i N c0:Nat}{p:Int}{M A:Nat->Pz}
theorem K9{n c:Nat}{pv:Nat->Nat}(h:pS p N w M A n c pv)(hi:i<n)(hw:w<=64)(hf:3000000<=fu):Y2 fu (zl w (A i))=some (pv i:Int):=by
 have hb:=h.lt i hi;have hc:=h.hc;unfold Y2;have hg: ∀z,(fun zx0=>kS fu zx0) z=some (!decide (z=0)):=fun z=>by
  show kS fu z=_;unfold kS;by_cases e:z=0
  ·rw[iq e,decide_eq_true e];rfl
  ·rw[ir e,decide_eq_false e];rfl
 have ha:=h.on i hi;rcases OD (fu:=fu) (l:=zl w (A i)) (b:=fun z=> !decide (z=0)) hg (by rw[zI];omega) hf with⟨g1,g2⟩|⟨j,hj,g1,g2,g3⟩
 ·exfalso;have:=g2 (pv i) (by rw[zI];omega);rw[jc (by omega),ha]at this;exact absurd this (by decide)
 ·rw[zI]at hj;rw[jc hj]at g2;have e:j=pv i:=by
   rcases Nat.lt_trichotomy j (pv i)with h1|h1|h1
   ·rw[h.ld i hi j h1]at g2;exact absurd g2 (by decide)
   ·exact h1
   ·have:=g3 (pv i) h1;rw[jc (by omega),ha]at this;exact absurd this (by decide)
  rw[za g1,e]
def bh(n:Nat)(pv:Nat->Nat)(c:Nat):Bool:=(xbc n).all fun i=> !xan (pv i) c
theorem ae{n c:Nat}{pv:Nat->Nat}:bh n pv c=true↔ ∀i,i<n->pv i≠c:=by
 unfold bh;rw[xaR];constructor
 ·intro h i hi e;have:=h i (xaS.2 hi);rw[e]at this;simp[Nat.beq_refl]at this
 ·intro h i hi;have:=h i (xaS.1 hi)
  cases hb:xan (pv i) c with
  |true=>exact absurd (xcH hb) this
  |false=>rfl
theorem Gw{n c:Nat}{pv:Nat->Nat}(h:pS p N w M A n c0 pv)(hN:N<=64)(hw:w<=64)(hf:3000000<=fu):xv fu (kg n w A) (fun z=>wZ fu z (c:Int))=some (!bh n pv c):=by
 have hn:=h.hn;unfold xv;have ha: ∀i,i<n->wZ fu (zl w (A i)) (c:Int)=some (decide (pv i=c)):=fun i hi=>by
  unfold wZ;rw[za (K9 h hi hw hf)];by_cases e:pv i=c
  ·rw[zN,decide_eq_true e]
  ·rw[zx,decide_eq_false e]
 obtain⟨b,hb⟩: ∃b:List Int->Bool,b=fun z=>match wZ fu z (c:Int)with
  |some x=>x
  |none=>false:=⟨_,rfl⟩
 have hc: ∀i,i<n->b (zl w (A i))=decide (pv i=c):=fun i hi=>by rw[hb];simp only[ha i hi]
 have hg: ∀z∈kg n w A,(fun z=>wZ fu z (c:Int)) z=some (b z):=fun z hz=>by
  obtain⟨i,hi,rfl⟩:=xai.1 hz;have hd:=xaS.1 hi;show wZ fu (zl w (A i)) (c:Int)=_;rw[ha i hd,hc i hd]
 rcases Ft (fu:=fu) hg (by rw[kn];omega) hf with⟨g1,g2⟩|⟨i,hi,g1,g2,g3⟩
 ·rw[za g1,ir (by decide)];have:bh n pv c=true:=ae.2 fun i hi e=>by
   have:=g2 _ (xbI (xaS.2 hi):zl w (A i)∈kg n w A);rw[hc i hi,decide_eq_true e]at this;cases this
  rw[this];rfl
 ·rw[kn]at hi;rw[vo hi,hc i hi]at g2;rw[za g1,zN];have:bh n pv c=false:=by
   cases he:bh n pv c with
   |false=>rfl
   |true=>exact absurd (of_decide_eq_true g2) (ae.1 he i hi)
  rw[this];rfl
def gY(p:Int)(A:Nat->Pz)(pv:Nat->Nat)(c:Nat):Nat->Pz
 |0=>fun k=>if k=c then 1 else 0
 |i+1=>u5 (gY p A pv c i) (pv i) (-A i c % p)
theorem zeU{n c:Nat}{pv:Nat->Nat}{t2:List (List Int)}{i4:Int}(h1:2<=p)(h2:p<=65521)(h:pS p N w M A n c0 pv)(hN:N<=64)(hw:w<=64)(hc:c<w)(hf:3000000<=fu):
 zj (VO fu (c:Int) (w:Int) p (kg n w A) i4) fu (0,t2,zl w (gY p A pv c 0))=some (t2,zl w (gY p A pv c n)):=by
 have hn:=h.hn;have hd:=h.hc;refine zE (fun s:Int×List (List Int)×List Int=> ∃i:Nat,i<=n/\s=((i:Int),t2,zl w (gY p A pv c i))) (fun s=>n-s.1.toNat) _ ?_ _ _ ⟨0,xaj _,rfl⟩ (by show n-0<fu;omega);rintro s L ⟨i,hi,rfl⟩ ih;unfold VO;simp only;have hb: ∀{β:Type} (x:β) (k:β->Option (List (List Int)×List Int)),bd (some x) k=k x:=fun _ _=>rfl;by_cases ha:i<n
 ·have he:=h.lt i ha;obtain⟨a1,a2⟩:=h.rg i (by omega) c;rw[iq (by rw[kn];omega),hb];simp only[if_true];rw[zp (by rw[kn];exact ha),zf,vo ha,za (K9 h ha hw hf),zp (by rw[zI];exact hc),zf,vO hc,zd,za (uV (by omega) h2 ⟨by omega,by omega⟩),zp (by rw[zI];omega),zf,jF,zd];refine ih _ ⟨i+1,by omega,?_⟩ (by show n-((i:Int)+1).toNat<n-(i:Int).toNat;omega);rw[Int.zero_sub];rfl
 ·rw[ir (by rw[kn];omega),hb];simp only[xak,if_false];obtain rfl:i=n:=by omega
  rfl
def dR(n:Nat)(pv:Nat->Nat)(w:Nat):List Nat:=(xbc w).filter (bh n pv)
theorem m8(n:Nat)(pv:Nat->Nat)(w:Nat):dR n pv (w+1)=if bh n pv w=true then dR n pv w++[w]else dR n pv w:=by
 unfold dR;rw[xdD,List.filter_append]
 cases h:bh n pv w with
 |true=>rw[iq rfl];simp[h]
 |false=>rw[ir (by decide)];simp[h]
theorem P5(n:Nat)(pv:Nat->Nat)(w:Nat):(dR n pv w).length<=w:=by
 have:=xfx (bh n pv) (xbc w);rw[xcy]at this;exact this
theorem mq{m:List (List Int)}(hp:wG p=true)(hd:m.length=N)(hN:N<=64)(hm: ∀r∈m,r.length=w/\Rl r)(hw:w<=64)(hf:3000000<=fu):
 ∃(A:Nat->Pz) (n c:Nat) (pv:Nat->Nat),YV fu m (w:Int) p=some ((dR n pv w).map fun c=>zl w (gY p A pv c n),0)/\pS p N w (fun i=>ci (m.getD i [])) A n c pv/\(n=N\/c=w):=by
 obtain⟨p1,p2⟩:=zo hp;obtain⟨A,n,c,pv,e1,e2,e3⟩:=dC (fu:=fu) hp hd hN hm hw hf;refine⟨A,n,c,pv,?_,e2,e3⟩;have hn:=e2.hn;unfold YV;rw[za (v:=Sum.inl ())]
 ·simp only;rw[za e1];simp only;rw[za (v:=(dR n pv w).map fun c=>zl w (gY p A pv c n))];refine zE (fun s:List (List Int)×Int=> ∃k:Nat,k<=w/\s=((dR n pv k).map fun c=>zl w (gY p A pv c n),(k:Int))) (fun s=>w-s.2.toNat) _ ?_ _ _ ⟨0,xaj _,rfl⟩ (by show w-0<fu;omega);rintro s L ⟨k,hk,rfl⟩ ih;unfold U2;simp only;have ha: ∀{β:Type} (x:β) (k:β->Option (List (List Int))),bd (some x) k=k x:=fun _ _=>rfl;by_cases hb:k<w
  ·rw[zN,ha];simp only[if_true];rw[za (Gw (c:=k) e2 hN hw hf)]
   cases hc:bh n pv k with
   |false=>
    rw[show(!false)=true from rfl,iq rfl,zd];refine ih _ ⟨k+1,by omega,?_⟩ (by show w-((k:Int)+1).toNat<w-(k:Int).toNat;omega);rw[m8,ir (by rw[hc];decide)];rfl
   |true=>
    have he:=P5 n pv k;have hz:zl w (u5 (fun _=>0) k 1)=zl w (gY p A pv k 0):=yo fun j _=>by unfold u5;rfl
    rw[show(!true)=false from rfl,ir (by decide),yO,yG,zf,QM,zp (by rw[zI];exact hb),zf,jF,hz,za (zeU (i4:=(w:Int)) p1 p2 e2 hN hw hb hf)];simp only;rw[q9 (by rw[xaN];simp;omega),zf,zd];refine ih _ ⟨k+1,by omega,?_⟩ (by show w-((k:Int)+1).toNat<w-(k:Int).toNat;omega);rw[m8,iq hc,xaO];rfl
  ·rw[zx,ha];simp only[xak,if_false];obtain rfl:k=w:=by omega
   rfl
 ·rw[za (Jt hp (by omega) (fun r hr=>(hm r hr).1) hw hf),iq rfl,zx,zx];by_cases h0:0<m.length
  ·have e4:=(hm _ (uQ h0 [])).1;rw[zN,zdD h0,zf,zN]
  ·rw[zx]
theorem dq{p:Int}{A:Nat->Pz}{pv:Nat->Nat}{c k:Nat}: ∀{n:Nat},(∀i,i<n->pv i≠k)->gY p A pv c n k=if k=c then 1 else 0
 |0,_=>rfl
 |n+1,h=>by
  show u5 (gY p A pv c n) (pv n) _ k=_;unfold u5;rw[ir (fun e=>h n (by omega) e.symm)];exact dq fun i hi=>h i (by omega)
theorem lB{p:Int}{A:Nat->Pz}{pv:Nat->Nat}{c i:Nat}: ∀{n:Nat},i<n->(∀j,j<n->j≠i->pv j≠pv i)->gY p A pv c n (pv i)= -A i c % p
 |0,h,_=>by omega
 |n+1,h,hd=>by
  show u5 (gY p A pv c n) (pv n) _ (pv i)=_;unfold u5;by_cases e:i=n
  ·rw[e,iq rfl]
  ·rw[ir (fun e2=>hd n (by omega) (fun e3=>e e3.symm) e2.symm)];exact lB (by omega) fun j hj ha=>hd j (by omega) ha
theorem pS.pv_ne{n c:Nat}{pv:Nat->Nat}(h:pS p N w M A n c pv){j:Nat}(hi:i<n)(hj:j<n)(ha:j≠i):pv j≠pv i:=fun e=>by
 have h1:=h.on i hi;have hn:=h.hn;have h2:=h.no j hj i (by omega) fun e2=>ha e2.symm;rw[e,h1]at h2;cases h2
theorem M7{p:Int}(hp:2<=p){A:Nat->Pz}{pv:Nat->Nat}{c:Nat}: ∀(n k:Nat),0<=gY p A pv c n k/\gY p A pv c n k<p
 |0,k=>by
  show 0<=(if k=c then(1:Int)else 0)/\(if k=c then(1:Int)else 0)<p;split<;>omega
 |n+1,k=>by
  show 0<=u5 (gY p A pv c n) (pv n) (-A n c % p) k/\u5 (gY p A pv c n) (pv n) (-A n c % p) k<p;unfold u5;split
  ·exact yh (by omega)
  ·exact M7 hp n k
theorem LR(n:Nat)(pv:Nat->Nat)(F:Nat->Int): ∀w,zV (dR n pv w).length (fun j=>F ((dR n pv w).getD j 0))=zV w fun c=>if bh n pv c=true then F c else 0
 |0=>rfl
 |w+1=>by
  have ih:=LR n pv F w;show _=zV w _+(if bh n pv w=true then F w else 0);rw[m8];by_cases h:bh n pv w=true
  ·rw[iq h,iq h,xau,<-ih];show zV ((dR n pv w).length) _+F ((dR n pv w++[w]).getD (dR n pv w).length 0)=_;congr 1
   ·exact zU fun j hj=>by rw[UV,UV,xbn hj]
   ·rw[UV,xcj (xac _),xcW];rfl
  ·rw[ir h,ir h,ih,xbx]
theorem Py{n c:Nat}{pv:Nat->Nat}(h:pS p N w M A n c pv)(hi:i<n)(e:Nat->Int):dt w (A i) e=e (pv i)+zV w fun k=>if bh n pv k=true then A i k*e k else 0:=by
 have hd:=h.lt i hi;have he:=h.hc;have hn:=h.hn;have h1:dt w (A i) e=zV w (fun k=>(if k=pv i then e k else 0)+if bh n pv k=true then A i k*e k else 0):=by
  refine zU fun k hk=> ?_;by_cases e1:k=pv i
  ·have hf:bh n pv k≠true:=fun hf=>ae.1 hf i hi e1.symm;rw[iq e1,ir hf,e1,h.on i hi,xbX,xbx]
  ·rw[ir e1];by_cases hf:bh n pv k=true
   ·rw[iq hf,xcA]
   ·rw[ir hf,xbx];obtain⟨j,hj,ha⟩: ∃j,j<n/\pv j=k:=by
     apply xad;intro hb;exact hf (ae.2 fun j hj ha=>hb ⟨j,hj,ha⟩)
    have hc:i≠j:=fun e2=>by rw[<-e2]at ha;exact e1 ha.symm
    rw[<-ha,h.no j hj i (by omega) hc,xaQ]
 rw[h1,Zg,xU (i:=pv i) (fun k hk=>ir hk),zN,iq rfl]
theorem zeH(hp:2<=p){n:Nat}{pv:Nat->Nat}(h:pS p N w M A n c0 pv)(hb:n=N\/c0=w){c:Nat}(hc:c<w)(hd:bh n pv c=true):Kr p N w M (gY p A pv c n):=(h.kr _).1 fun i hi=>by
 by_cases ha:i<n
 ·rw[Py h ha,lB ha fun j hj hg=>h.pv_ne (i:=i) (j:=j) ha hj hg];have h2:zV w (fun k=>if bh n pv k=true then A i k*gY p A pv c n k else 0)=A i c:=by
   rw[zU (g:=fun k=>if k=c then A i k else 0) fun k hk=>by
    by_cases hf:bh n pv k=true
    ·rw[iq hf,dq (ae.1 hf)];by_cases e:k=c
     ·rw[iq e,iq e,xcf]
     ·rw[ir e,ir e,xas]
    ·rw[ir hf];by_cases e:k=c
     ·rw[e]at hf;exact absurd hd hf
     ·rw[ir e],xU (i:=c) (fun k hk=>ir hk),iq hc,iq rfl]
  rw[h2];refine xaH ?_;rw[Int.emod_add_emod,show-A i c+A i c=0 by omega,xag]
 ·rcases hb with he|he
  ·omega
  ·have:dt w (A i) (gY p A pv c n)=0:=by
    unfold dt;rw[yF fun k hk=>by rw[h.zr i (by omega) hi k (by omega),xaQ]]
   rw[this];exact xcJ _
theorem zbi(hp:2<=p){n:Nat}{pv:Nat->Nat}(h:pS p N w M A n c0 pv){e:Nat->Int}(he:Kr p N w M e){k:Nat}(hk:k<w):
 e k % p=zV (dR n pv w).length (fun j=>e ((dR n pv w).getD j 0)*gY p A pv ((dR n pv w).getD j 0) n k) % p:=by
 rw[LR n pv (fun c=>e c*gY p A pv c n k) w];by_cases hf:bh n pv k=true
 ·congr 1;rw[zU (g:=fun c=>if c=k then e c else 0) fun c hc=>by
   rw[dq (ae.1 hf)];by_cases e1:c=k
   ·rw[e1,iq hf,iq rfl,iq rfl,xcf]
   ·rw[ir e1,ir (fun h:k=c=>e1 h.symm),xas,ite_self],xU (i:=k) (fun c hc=>ir hc),iq hk,iq rfl]
 ·obtain⟨i,hi,rfl⟩: ∃i,i<n/\pv i=k:=by
   apply xad;intro hb;exact hf (ae.2 fun j hj hd=>hb ⟨j,hj,hd⟩)
  have hn:=h.hn;have h1:=(h.kr e).2 he i (by omega);rw[Py h hi]at h1;have h2:zV w (fun c=>if bh n pv c=true then e c*gY p A pv c n (pv i)else 0) % p=(-(zV w fun k=>if bh n pv k=true then A i k*e k else 0)) % p:=by
   have h3: -(zV w fun k=>if bh n pv k=true then A i k*e k else 0)=zV w fun k=> -1*(if bh n pv k=true then A i k*e k else 0):=by rw[jR];omega
   rw[h3];refine Uv fun c hc=> ?_;by_cases ha:bh n pv c=true
   ·rw[iq ha,iq ha,lB hi fun j hj hg=>h.pv_ne (i:=i) (j:=j) hi hj hg,xbo,xaD,<-xbo];congr 1;grind
   ·rw[ir ha,ir ha,xas]
  rw[h2];refine xaI.2 (xax ?_);rw[Int.sub_neg];exact h1
end
section
variable{N w r fu P:Nat}{R:Nat->Pz}{m:List Int}
theorem BS(h:r<N):(([]:List Int)::kg N w R).getD (r+1) []=zl w (R r):=vo h
theorem PG{g:Pz}:(([]:List Int)::kg N w R).set (r+1) (zl w g)=[]::kg N w fun s=>if s=r then g else R s:=by
 show[]::(kg N w R).set r (zl w g)=_;rw[CH]
theorem ze4{c:Nat}{h:List Int}(hw:w<=64)(hc:c<w)(hl:h.length<=w)(cI:Int)(ha:cI=(c:Int))(hf:3000000<=fu):
 zj (fun L (y:(List (List Int)×List Nat)×Int)=>
 if y.2<(h.length:Int)then
  zH y.2 h.length fun j=>
  nm (h.getD j 0) fun v=>
  zH y.2 y.1.2.length fun j=>
  nm (y.1.2.getD j 0) fun r=>
  zH cI (y.1.1.getD r []).length fun j=>
  nm (y.1.1.set r ((y.1.1.getD r []).set j v)) fun yss=>
  ze (y.2+1) fun i=>L ((yss,y.1.2),i)
 else some y.1) fu (([]::kg w w R,QG w fun i=>i+1),0)=some ([]::kg w w fun s=>if s<h.length then u5 (R s) c (ci h s)else R s,QG w fun i=>i+1):=by
 subst ha;refine zE (fun y:(List (List Int)×List Nat)×Int=> ∃i:Nat,i<=h.length/\y=(([]::kg w w fun s=>if s<i then u5 (R s) c (ci h s)else R s,QG w fun i=>i+1),(i:Int))) (fun y=>h.length-y.2.toNat) _ ?_ _ _ ⟨0,xaj _,by rw[jh (R:=R) (S:=fun s=>if s<0 then u5 (R s) c (ci h s)else R s) fun s _ k _=>by rw[zx]];rfl⟩ (by show h.length-0<fu;omega);rintro y L ⟨i,hi,rfl⟩ ih;simp only;by_cases h1:i<h.length
 ·rw[zN,zp h1,zf,Zc,YF,yB,zf,jN (by omega),BS (by omega),zI,zp hc,zf,jF,PG,zx,zd];refine ih _ ⟨i+1,by omega,?_⟩ (by show h.length-((i:Int)+1).toNat<h.length-(i:Int).toNat;omega);rw[jh (S:=fun s=>if s<i+1 then u5 (R s) c (ci h s)else R s) fun s _ k _=>by
   by_cases e:s=i
   ·rw[iq e,zN,e]
   ·rw[ir e];by_cases e2:s<i
    ·rw[iq e2,zN]
    ·rw[ir e2,zx]]
  rfl
 ·rw[zx];obtain rfl:i=h.length:=by omega
  rfl
def X3(hs:Nat->List Int)(c:Nat):Nat->Pz:=fun i k=>if k<c then ci (hs k) i-(if i=k then 1 else 0)else 0
theorem pJ{a b:List Int}{p:Int}(hp:wG p=true)(ha:Fp p a)(hb:wC p b)(hc:a.length<=90000)(hd:b.length<=90000)(hf:3000000<=fu):
 ∃q r,qO fu a b p=some (q,r,0)/\Fp p r/\Cg p (ci a) (ci q*ci b+ci r)/\r.length<b.length:=by
 obtain⟨p1,p2⟩:=zo hp;have he:=hb.ln;obtain⟨q,r,e1,e2,e3,e4,e5,e6⟩:=xf (fu:=fu) hp ha hb.fm hb.ln hc hd hf;refine⟨q,r,?_,e3,e4,e5⟩;unfold qO;rw[za (jQ hp (by omega)),iq rfl,za (zG (by omega) p2 (hb.fm.rl p2) (by omega) hf),hb.fm.pm,zx,za (zG (by omega) p2 (ha.rl p2) (by omega) hf),ha.pm,za e1]
def zaz(fu:Nat)(f:List Int)(p n:Int):(((List (List Int)×List Nat)×List Int×List Int×Int)->Option (List (List Int)×List Nat))->((List (List Int)×List Nat)×List Int×List Int×Int)->Option (List (List Int)×List Nat):=fun L (x:(List (List Int)×List Nat)×List Int×List Int×Int)=>if x.2.2.2<n then bd (zj (fun L (y:(List (List Int)×List Nat)×Int)=>if y.2<(x.2.1.length:Int)then zH y.2 x.2.1.length fun j=>nm (x.2.1.getD j 0) fun v=>zH y.2 y.1.2.length fun j=>nm (y.1.2.getD j 0) fun r=>zH x.2.2.2 (y.1.1.getD r []).length fun j=>nm (y.1.1.set r ((y.1.1.getD r []).set j v)) fun yss=>ze (y.2+1) fun i=>L ((yss,y.1.2),i)else some y.1) fu (x.1,0)) fun y=>zH x.2.2.2 y.2.length fun j=>nm (y.2.getD j 0) fun r=>zH x.2.2.2 (y.1.getD r []).length fun j=>nm ((y.1.getD r []).getD j 0) fun v=>ze (v-1) fun e=>zH x.2.2.2 (y.1.getD r []).length fun j=>nm (y.1.set r ((y.1.getD r []).set j e)) fun yss=>bd (qM fu x.2.1 x.2.2.1 p) fun u=>bd (qO fu u.1 f p) fun w=>ze (x.2.2.2+1) fun i=>L ((yss,y.2),w.2.1,x.2.2.1,i)else some x.1
theorem zel:((QG N fun i=>i+1).map fun r=>(([]:List Int)::kg N w R).getD r [])=kg N w R:=by
 show((xbc N).map fun i=>i+1).map _=(xbc N).map _;rw[xcP];exact xbO fun i hi=>BS (xaS.1 hi)
def FxI(P:Nat)(m x:List Int)(w:Nat)(y:(List (List Int)×List Nat)×List Int×List Int×Int):Prop:=
 ∃(hs:Nat->List Int) (c:Nat),y=(([]::kg w w (X3 hs c),QG w fun i=>i+1),hs c,x,(c:Int))/\c<=w/\ ∀k,k<=c->Fp (P:Int) (hs k)/\(hs k).length<=w/\Em (P:Int) m (pp (pp vx P) k) (ci (hs k))
theorem Tj{x:List Int}(hp:wG (P:Int)=true)(hm:wC (P:Int) m)(hi:m.length=w+1)(hj:1<=w)(hw:w<=64)(hx:Fp (P:Int) x)(hl:x.length<=w)(hd:Em (P:Int) m (pp vx P) (ci x))(hf:3000000<=fu){y:(List (List Int)×List Nat)×List Int×List Int×Int}(hy:FxI P m x w y):
 ∃r,zj (zaz fu m P (w:Int)) fu y=some r/\ ∃hs:Nat->List Int,r=([]::kg w w (X3 hs w),QG w fun i=>i+1)/\ ∀k,k<=w->Fp (P:Int) (hs k)/\(hs k).length<=w/\Em (P:Int) m (pp (pp vx P) k) (ci (hs k)):=by
 obtain⟨p1,p2⟩:=zo hp;refine yq (FxI P m x w) (fun y=>w-y.2.2.2.toNat) _ ?_ _ _ hy (by obtain⟨hs,c,rfl,_⟩:=hy;show w-(c:Int).toNat<fu;omega);rintro y L ⟨hs,c,rfl,hc,hI⟩ ih;unfold zaz;simp only;by_cases h1:c<w
 ·obtain⟨k1,k2,k3⟩:=hI c (xac _);have hb:=k1.nn c;have hn:=k1.lt c;obtain⟨R,hR⟩: ∃R:Nat->Pz,R=fun s=>if s<(hs c).length then u5 (X3 hs c s) c (ci (hs c) s)else X3 hs c s:=⟨_,rfl⟩;have ha: ∀s,R s c=ci (hs c) s:=fun s=>by
   rw[hR];show(if s<(hs c).length then u5 (X3 hs c s) c (ci (hs c) s)else X3 hs c s) c=_;by_cases e:s<(hs c).length
   ·rw[iq e];exact iq rfl
   ·rw[ir e,zQ (by omega)];exact zx
  have he: ∀s k,k≠c->R s k=X3 hs c s k:=fun s k hk=>by
   rw[hR];show(if s<(hs c).length then u5 (X3 hs c s) c (ci (hs c) s)else X3 hs c s) k=_;by_cases e:s<(hs c).length
   ·rw[iq e];exact ir hk
   ·rw[ir e]
  have hg:=qk (P:Int) (hs c) x;obtain⟨q2,r2,d1,d2,d3,d4⟩:=pJ (fu:=fu) hp (vJ (p:=(P:Int)) (by omega) (hs c) x) hm (by omega) (by omega) hf;rw[zN,za (ze4 (fu:=fu) (R:=X3 hs c) hw h1 k2 _ rfl hf),<-hR];simp only;rw[YF,zp h1,zf,jN h1,BS h1,zI,zp h1,zf,vO h1,ha,zd,zp h1,zf,jF,PG,za (jS hp k1 hx (by omega) (by omega) hf),za d1];simp only;rw[zd];refine ih _ ⟨fun k=>if k=c+1 then r2 else hs k,c+1,?_,by omega,fun k hk=> ?_⟩ (by show w-((c:Int)+1).toNat<w-(c:Int).toNat;omega)
  ·show _=((_,_),(if c+1=c+1 then r2 else hs (c+1)),x,_);rw[iq rfl,jh (S:=X3 (fun k=>if k=c+1 then r2 else hs k) (c+1)) fun s ho k hk=>by
    show(if s=c then u5 (R c) c (ci (hs c) c-1)else R s) k=if k<c+1 then ci (if k=c+1 then r2 else hs k) s-(if s=k then 1 else 0)else 0;by_cases e1:k=c
    ·rw[e1,show(if c<c+1 then ci (if c=c+1 then r2 else hs c) s-(if s=c then(1:Int)else 0)else 0)=ci (hs c) s-(if s=c then(1:Int)else 0)by rw[zN,zx]];by_cases e2:s=c
     ·rw[iq e2,iq e2,e2];exact iq rfl
     ·rw[ir e2,ir e2,ha,xcB]
    ·have e3:(if s=c then u5 (R c) c (ci (hs c) c-1)else R s) k=R s k:=by
      by_cases e2:s=c
      ·rw[iq e2,e2];exact ir e1
      ·rw[ir e2]
     rw[e3,he s k e1];unfold X3;by_cases e4:k<c
     ·rw[iq e4,show(if k<c+1 then ci (if k=c+1 then r2 else hs k) s-(if s=k then(1:Int)else 0)else 0)=ci (hs k) s-(if s=k then(1:Int)else 0)by rw[zN,zx]]
     ·rw[ir e4,ir (show¬k<c+1 by omega)]]
   rfl
  ·show Fp (P:Int) (if k=c+1 then r2 else hs k)/\(if k=c+1 then r2 else hs k).length<=w/\Em (P:Int) m (pp (pp vx P) k) (ci (if k=c+1 then r2 else hs k));by_cases e:k=c+1
   ·rw[iq e,e];refine⟨d2,by omega,?_⟩;show Em (P:Int) m (pp (pp vx P) c*pp vx P) (ci r2);exact(Em.mul ((Fs.vx.pp P).pp c) (Fs.ci x) k3 hd).trans ((Em.cg (ky (P:Int) (hs c) x).symm).trans (Em.rest d3))
   ·rw[ir e];exact hI k (by omega)
 ·rw[zx];obtain rfl:c=w:=by omega
  exact⟨_,rfl,hs,rfl,hI⟩
theorem cB(hp:wG (P:Int)=true)(hm:wC (P:Int) m)(ha:m.length=w+1)(hb:1<=w)(hw:w<=64)(hf:3000000<=fu):
 ∃hs:Nat->List Int,Zn fu m P=bd (YV fu (kg w w (X3 hs w)) (w:Int) P) (fun r=>some r.1)/\ ∀k,k<=w->Fp (P:Int) (hs k)/\(hs k).length<=w/\Em (P:Int) m (pp (pp vx P) k) (ci (hs k)):=by
 obtain⟨p1,p2⟩:=zo hp;have cx:ci [0,1]=vx:=by
  funext k
  match k with
  |0=>rfl
  |1=>rfl
  |k+2=>rw[zQ (by simp)];exact(show(if k+2=1 then(1:Int)else 0)=0 from zx).symm
 have fx:Fp (P:Int) [0,1]:=⟨fun k=>by rw[cx];show 0<=(if k=1 then(1:Int)else 0);split<;>omega,fun k=>by rw[cx];show(if k=1 then(1:Int)else 0)<P;split<;>omega,.inr (by decide)⟩;have fo:Fp (P:Int) [1]:=Yc (by decide) (by omega);obtain⟨x,x1,x2,x3,x4⟩:=Vw (fu:=fu) (w:=[0,1]) (a:=m) (E:=P) hp fx hm (by decide) (by omega) (by omega) (by omega) hf;rw[cx]at x4;have hc:kg w w (X3 (fun _=>[1]) 0)=kg w w (fun _ _=>0):=jh fun s _ k _=>zx;obtain⟨r,hr,hs,rfl,hI⟩:=Tj (fu:=fu) hp hm ha hb hw x2 (by omega) x4 hf (y:=(([]::kg w w (X3 (fun _=>[1]) 0),QG w fun i=>i+1),[1],x,0)) ⟨fun _=>[1],0,rfl,xaj _,fun k hk=>⟨fo,by simp;omega,by
  obtain rfl:k=0:=by omega
  show Em (P:Int) m (pc 1) (ci [1]);rw[v8];exact Em.rfl⟩⟩
 rw[hc]at hr;refine⟨hs,?_,hI⟩;unfold Zn;rw[zd,show(m.length:Int)-1=(w:Int)by omega,yO,yG,zf,za (v:=([]::kg w w (fun _ _=>0),QG w fun i=>i+1))]
 ·rw[za (z8 ⟨by omega,by omega⟩ hf),za x1];show bd (zj (zaz fu m P (w:Int)) fu (([]::kg w w (fun _ _=>0),QG w fun i=>i+1),[1],x,0)) _=_;rw[za hr];simp only;rw[zel]
 ·have hd:xaf w 0=QG w fun s=>if s<0 then s+1 else 0:=by
   unfold QG;rw[show(fun s=>if s<0 then s+1 else 0)=fun _=>0 from funext fun s=>zx,List.map_const',xcy]
  rw[hd];refine zE (fun x:(List (List Int)×List Nat)×Int=> ∃i:Nat,i<=w/\x=(([]::kg i w (fun _ _=>0),QG w fun s=>if s<i then s+1 else 0),(i:Int))) (fun x=>w-x.2.toNat) _ ?_ _ _ ⟨0,xaj _,rfl⟩ (by show w-0<fu;omega);rintro x L ⟨i,hi,rfl⟩ ih;simp only;rw[YF];by_cases h1:i<w
  ·rw[zN,yO,yG,zf,QM,YF,zp h1,zf,xbP,DS i w (fun _ _=>0),zf,lK,xav,kn,zd];refine ih _ ⟨i+1,by omega,?_⟩ (by show w-((i:Int)+1).toNat<w-(i:Int).toNat;omega);have:(fun s=>if s=i then i+1 else if s<i then s+1 else 0)=fun s=>if s<i+1 then s+1 else 0:=funext fun s=>by
    by_cases e:s=i
    ·rw[iq e,zN,e]
    ·rw[ir e];by_cases e2:s<i
     ·rw[iq e2,zN]
     ·rw[ir e2,zx]
   rw[this];rfl
  ·rw[zx];obtain rfl:i=w:=by omega
   congr 2;unfold QG;exact xbO fun s hs=>iq (xaS.1 hs)
end
section
variable{m:List Int}{P w:Nat}
theorem Di.short{p:Int}(hp:2<=p)(hm:wC p m){f:Pz}(hf: ∀k,m.length-1<=k->f k=0)(h:Di p (ci m) f):Cg p f (pc 0):=by
 obtain⟨q,fq,hc⟩:=h;have:=hm.mn.zero hp fq fun k hk=>by rw[<-hc k,hf k hk,xag]
 exact hc.trans (this.mul_zero_r _)
theorem BA(F:Nat->Pz)(k:Nat): ∀n,smP n F k=zV n fun i=>F i k
 |0=>by show pc 0 k=0;unfold pc;split<;>rfl
 |n+1=>by
  show(smP n F+F n) k=zV n (fun i=>F i k)+F n k;rw[zK,BA F k n]
theorem Em.smP{p:Int}{a:List Int}{F G:Nat->Pz}: ∀n,(∀i,i<n->Em p a (F i) (G i))->Em p a (smP n F) (smP n G)
 |0,_=>Em.rfl
 |n+1,h=>(Di.add (Em.smP n fun i hi=>h i (by omega)) (h n (by omega))).cg (Cg.of (funext fun k=>by
  show(Go.Proofs.YtmggkmchbdanfaaGreat.smP n F k-Go.Proofs.YtmggkmchbdanfaaGreat.smP n G k)+(F n k-G n k)=(Go.Proofs.YtmggkmchbdanfaaGreat.smP n F k+F n k)-(Go.Proofs.YtmggkmchbdanfaaGreat.smP n G k+G n k);omega))
theorem Mr{hs:Nat->List Int}(hp:wG (P:Int)=true)(hm:wC (P:Int) m)(hb:m.length=w+1)(hI: ∀k,k<=w->Fp (P:Int) (hs k)/\(hs k).length<=w/\Em (P:Int) m (pp (pp vx P) k) (ci (hs k))){e:Pz}(he: ∀k,w<=k->e k=0):
 Di (P:Int) (ci m) (pp e P-e)↔ ∀s,s<w->(P:Int)∣dt w (X3 hs w s) e:=by
 obtain⟨p1,p2⟩:=zo hp;have hn:=Yg hp;rw[xaM]at hn;let S:Pz:=smP w fun i=>pc (e i)*ci (hs i)
 have h1:Em (P:Int) m (pp e P) S:=(Em.cg (zh5 (by omega) hn he)).trans (Em.smP w fun i hi=>Em.mul (Fs.pc _) (Fs.ci _) Em.rfl (hI i (by omega)).2.2);have h2: ∀k,w<=k->(S-e) k=0:=fun k hk=>by
  show S k-e k=0;rw[he k hk,show S k=zV w fun i=>(pc (e i)*ci (hs i)) k from BA _ k w,yF fun i hi=>by rw[zD,zQ (by have:=(hI i (by omega)).2.1;omega),xas]];rfl
 have h3: ∀s,s<w->dt w (X3 hs w s) e=(S-e) s:=fun s ha=>by
  show zV w (fun k=>(if k<w then ci (hs k) s-(if s=k then 1 else 0)else 0)*e k)=S s-e s;rw[show S s=zV w fun i=>(pc (e i)*ci (hs i)) s from BA _ s w,zU (g:=fun k=>(pc (e k)*ci (hs k)) s+(if k=s then-e k else 0)) fun k hk=>by
   rw[iq hk,zD];by_cases h:k=s
   ·rw[iq h.symm,iq h,xfL,xbi (e k)];omega
   ·rw[ir (fun g=>h g.symm),ir h,xcB,xbx,xbi],Zg,xU (i:=s) (fun k hk=>ir hk),iq ha,iq rfl]
  omega
 have h4:Di (P:Int) (ci m) (pp e P-e)↔Di (P:Int) (ci m) (S-e):=⟨fun h=>(h1.symm.trans (show Em _ _ _ e from h):Em _ _ _ e),fun h=>(h1.trans (show Em _ _ _ e from h):Em _ _ _ e)⟩;rw[h4];constructor
 ·intro h s ha;have:=Di.short (by omega) hm (fun k hk=>h2 k (by omega)) h;rw[h3 s ha];have h5:=this s;rw[zM,xag]at h5;exact xaH h5
 ·intro h;refine(Di.zero _ _).cg fun s=> ?_;rw[zM,xag];symm;by_cases ha:s<w
  ·rw[<-h3 s ha];exact xax (h s ha)
  ·rw[h2 s (by omega),xag]
theorem zbR(hp:wG (P:Int)=true):P=2\/P % 2=1:=by
 obtain⟨p1,p2⟩:=zo hp;have hn:=Yg hp;rw[xaM]at hn;by_cases h:P=2
 ·exact .inl h
 ·have:=hn 2 (by omega);right;by_cases h4:4<=P
  ·have:=this (by omega);omega
  ·omega
theorem ib{fu:Nat}(hp:wG (P:Int)=true)(hm:wC (P:Int) m)(hg:m.length=w+1)(hu:1<=w)(hw:w<=64)(hf:3000000<=fu):
 ∃bs,Zn fu m P=some bs/\1<=bs.length/\bs.length<=w/\(∀v∈bs,Rl v/\v.length=w)/\Bs P m (fun i=>ci (bs.getD i [])) bs.length/\ ∃c:Int,Cg (P:Int) (ci (bs.getD 0 [])) (pc c):=by
 obtain⟨p1,p2⟩:=zo hp;obtain⟨hs,h1,hI⟩:=cB (fu:=fu) hp hm hg hu hw hf;have hR: ∀s k,VW (X3 hs w s k):=fun s k=>by
  show VW (if k<w then ci (hs k) s-(if s=k then 1 else 0)else 0);by_cases h:k<w
  ·rw[iq h];have f:=(hI k (by omega)).1;have f1:=f.nn s;have f2:=f.lt s;split
   ·exact⟨by omega,by omega⟩
   ·exact⟨by omega,by omega⟩
  ·rw[ir h];exact⟨by omega,by omega⟩
 obtain⟨A,n,c,pv,e1,e2,e3⟩:=mq (fu:=fu) (N:=w) (w:=w) (m:=kg w w (X3 hs w)) hp (kn _ _ _) hw (fun r hr=>by
  unfold kg at hr;obtain⟨s,_,rfl⟩:=xai.1 hr;refine⟨zI _ _,fun k=> ?_⟩;by_cases hk:k<w
  ·rw[jc hk];exact hR s k
  ·rw[zQ (by rw[zI];omega)];exact⟨by omega,by omega⟩) hw hf
 have hK: ∀e:Pz,Kr (P:Int) w w (fun i=>ci ((kg w w (X3 hs w)).getD i [])) e↔ ∀s,s<w->(P:Int)∣dt w (X3 hs w s) e:=fun e=>forall_congr' fun s=>imp_congr_right fun hb=>by rw[show dt w (ci ((kg w w (X3 hs w)).getD s [])) e=dt w (X3 hs w s) e from zU fun k hk=>by rw[vo hb,jc hk]]
 let F:Nat->List Int:=fun c=>zl w (gY (P:Int) A pv c n)
 have hn: ∀i,i<(dR n pv w).length->(dR n pv w).getD i 0<w/\bh n pv ((dR n pv w).getD i 0)=true:=fun i hi=>by
  rw[UV,IR hi,xdI];have:=xbh hi;have h2:=xbY.1 this;exact⟨xaS.1 h2.1,h2.2⟩
 have ha: ∀i,i<(dR n pv w).length->((dR n pv w).map F).getD i []=F ((dR n pv w).getD i 0):=fun i hi=>by rw[UV,UV,xaB,IR hi];rfl
 have ho: ∀i,i<w->(P:Int)∣A i 0:=by
  have h0:Kr (P:Int) w w A fun k=>if k=0 then 1 else 0:=(e2.kr _).2 ((hK _).2 fun s hb=>by
   show(P:Int)∣zV w fun k=>X3 hs w s k*(if k=0 then 1 else 0);rw[xU (i:=0) (fun k hk=>by rw[ir hk,xas]),zN,iq rfl,xcf];show(P:Int)∣(if 0<w then ci (hs 0) s-(if s=0 then 1 else 0)else 0);rw[zN];have g:=(hI 0 (xaj _)).2.2;have g1:Cg (P:Int) (pc 1-ci (hs 0)) (pc 0):=Di.short (by omega) hm (fun k hk=>by
    rw[yA,zQ (by have:=(hI 0 (xaj _)).2.1;omega)];show pc 1 k-0=0;unfold pc;rw[zx];rfl) g
   have g2:=g1 s;rw[yA,zM,xag]at g2;have g3:=xaH g2;have g4:(pc 1 s:Int)=if s=0 then 1 else 0:=rfl;rw[g4]at g3;have:=xfK.2 g3;rw[Int.neg_sub]at this;exact this)
  intro i hi;have:(P:Int)∣zV w fun k=>A i k*(if k=0 then 1 else 0):=h0 i hi;rw[xU (i:=0) (fun k hk=>by rw[ir hk,xas]),zN,iq rfl,xcf]at this;exact this
 have hq:bh n pv 0=true:=ae.2 fun i hi h=>by
  have h2:=e2.on i hi;rw[h]at h2;have h3:=ho i (by have:=e2.hn;omega);rw[h2]at h3;have:=Int.le_of_dvd (by omega) h3;omega
 have hx: ∃l,dR n pv w=0::l:=by
  obtain⟨u,rfl⟩: ∃u,w=u+1:=⟨w-1,by omega⟩;unfold dR;rw[List.range_succ_eq_map,xdh,iq hq];exact⟨_,rfl⟩
 obtain⟨l,hl⟩:=hx;refine⟨(dR n pv w).map F,by rw[h1,za e1],by rw[hl];simp,by rw[xaN];exact P5 n pv w,fun v hv=> ?_,⟨zbR hp,by omega,fun e he hd=> ?_,fun i hi k hk=> ?_,fun i hi=> ?_⟩,1,?_⟩
 ·obtain⟨c,_,rfl⟩:=xai.1 hv;refine⟨fun k=> ?_,zI _ _⟩;by_cases hk:k<w
  ·show VW (ci (zl w _) k);rw[jc hk];have:=M7 (p:=(P:Int)) (by omega) (A:=A) (pv:=pv) (c:=c) n k;exact⟨by omega,by omega⟩
  ·rw[zQ (by show(zl w _).length<=k;rw[zI];omega)];exact⟨by omega,by omega⟩
 ·have ht: ∀k,w<=k->e k=0:=fun k hk=>he k (by omega);refine⟨fun i=>e ((dR n pv w).getD i 0),fun k=> ?_⟩;rw[BA,xaN];by_cases hk:k<w
  ·rw[zbi (by omega) e2 ((hK e).2 ((Mr hp hm hg hI ht).1 hd)) hk];congr 1;refine zU fun i hi=> ?_;rw[zD,ha i hi];show _=_*ci (zl w _) k;rw[jc hk]
  ·rw[ht k (by omega),yF fun i hi=>by
    rw[zD,ha i hi];show _*ci (zl w _) k=0;rw[zQ (by rw[zI];omega),xas]]
 ·rw[xaN]at hi;rw[ha i hi];exact zQ (by show(zl w _).length<=k;rw[zI];omega)
 ·rw[xaN]at hi;have hz: ∀k,w<=k->ci (((dR n pv w).map F).getD i []) k=0:=fun k hk=>by
   rw[ha i hi];exact zQ (by show(zl w _).length<=k;rw[zI];omega)
  refine(Mr hp hm hg hI hz).2 ((hK _).1 ?_);have:=zeH (by omega) e2 e3 (hn i hi).1 (hn i hi).2;intro s hb;have h2:=this s hb;rw[show dt w _ (ci (((dR n pv w).map F).getD i []))=dt w _ (gY (P:Int) A pv ((dR n pv w).getD i 0) n)from zU fun k hk=>by
   rw[ha i hi];show _*ci (zl w _) k=_;rw[jc hk]]
  exact h2
 ·intro k;rw[ha 0 (by rw[hl];simp),hl];show ci (zl w (gY (P:Int) A pv 0 n)) k % P=(if k=0 then(1:Int)else 0) % P;by_cases hk:k<w
  ·rw[jc hk];by_cases hc:bh n pv k=true
   ·rw[dq (ae.1 hc)]
   ·have: ∃i,i<n/\pv i=k:=xad fun h=>hc (ae.2 fun i hi h2=>h ⟨i,hi,h2⟩);obtain⟨i,hi,rfl⟩:=this;rw[lB hi fun j hj hy=>e2.pv_ne (i:=i) (j:=j) hi hj hy];have h0:pv i≠0:=fun h=>by rw[h]at hc;exact hc hq
    rw[ir h0,xag];have h5:=ho i (by have:=e2.hn;omega);exact xax (xaH (by rw[xcC _ (xdO _)];exact xax (xfK.2 h5)))
  ·rw[zQ (by rw[zI];omega),zx]
end
section
section
variable{α:Type}
def iB1(d:α)(cmp:α->α->Option Int):((Int×Int×Int×List α)->Option (Int×Int×List α))->(Int×Int×Int×List α)->Option (Int×Int×List α):=fun L (i2,i3,i4,t2)=>
 if i2<i4 then
 zH i4 (t2.length) fun j1=>
 nm ((t2.getD j1 d)) fun t3=>
 ze (i4-(1:Int)) fun x2=>
 zH x2 (t2.length) fun j2=>
 nm ((t2.getD j2 d)) fun t4=>
 bd (cmp t3 t4) fun x3=>
 if x3<(0:Int)then
 ze (i4-(1:Int)) fun x4=>
 ze (i4-(1:Int)) fun x5=>
 zH x5 (t2.length) fun j3=>
 nm ((t2.getD j3 d)) fun t5=>
 zH i4 (t2.length) fun j4=>
 nm ((t2.getD j4 d)) fun t6=>
 zH i4 (t2.length) fun j5=>
 nm (t2.set j5 t5) fun t7=>
 zH x4 (t7.length) fun j6=>
 nm (t7.set j6 t6) fun t8=>
 ze (i4-(1:Int)) fun x6=>
 L (i2,i3,x6,t8)
 else
 some (i2,i3,t2)
 else
 some (i2,i3,t2)
def iB0(fu:Nat)(d:α)(a1 a2:Int)(cmp:α->α->Option Int):((Int×List α)->Option (List α))->(Int×List α)->Option (List α):=fun L (i1,t1)=>
 if i1<a2 then
 bd (zj (iB1 d cmp) fu (a1,a2,i1,t1)) fun(i5,i6,t9)=>
 ze (i1+(1:Int)) fun x7=>
 L (x7,t9)
 else
 some t1
structure Od3(c:α->α->Int)(S:α->Prop):Prop where
 tr: ∀x y z,S x->S y->S z-> ¬c y x<0-> ¬c z y<0-> ¬c z x<0
 an: ∀x y,S x->S y->c x y<0-> ¬c y x<0
theorem Hd(d x:α): ∀(a b:List α),(a++x::b).getD a.length d=x
 |[],_=>rfl
 |_::a,b=>Hd d x a b
theorem Cx(d y x:α): ∀(a b:List α),(a++y::x::b).getD (a.length+1) d=x
 |[],_=>rfl
 |_::a,b=>Cx d y x a b
theorem Re(x z:α): ∀(a b:List α),(a++x::b).set a.length z=a++z::b
 |[],_=>rfl
 |h::a,b=>congrArg (h:: ·) (Re x z a b)
theorem My(y x z:α): ∀(a b:List α),(a++y::x::b).set (a.length+1) z=a++y::z::b
 |[],_=>rfl
 |h::a,b=>congrArg (h:: ·) (My y x z a b)
theorem Ml{l:List α}(h:0<l.length): ∃a y,l=a++[y]:=⟨l.dropLast,l.getLast (fun e=>by rw[e]at h;exact absurd h (Nat.lt_irrefl _)),(List.dropLast_concat_getLast _).symm⟩
theorem zhZ{fu:Nat}{d:α}{cmp:α->α->Option Int}{c:α->α->Int}{S:α->Prop}(hc: ∀x y,S x->S y->cmp x y=some (c x y)){s rest:List α}{x:α}(hs: ∀y∈s,S y)(hx:S x)(hn:(s++x::rest).length<=1000)(hf:3000000<=fu){N:Int}:
 ∃r,zj (iB1 d cmp) fu (0,N,(s.length:Int),s++x::rest)=some r/\ ∃r1 r2,s=r1++r2/\r=(0,N,r1++x::(r2++rest))/\(∀y∈r2,c x y<0)/\ ∀a y,r1=a++[y]-> ¬c x y<0:=by
 rw[xau,xav]at hn;refine yq (fun t:Int×Int×Int×List α=> ∃r1 r2,s=r1++r2/\t=(0,N,(r1.length:Int),r1++x::(r2++rest))/\ ∀y∈r2,c x y<0) (fun t=>t.2.2.1.toNat) _ ?_ fu _ ⟨s,[],(xbN s).symm,rfl,fun y hy=>by simp at hy⟩ (by show(s.length:Int).toNat<fu;omega);rintro t L ⟨r1,r2,e,rfl,hI⟩ ih;unfold iB1;simp only;have hl:s.length=r1.length+r2.length:=by rw[e,xau]
 by_cases h:0<r1.length
 ·obtain⟨a,y,rfl⟩:=Ml h;have ha:(a++[y]).length=a.length+1:=by simp
  have h1:a++[y]++x::(r2++rest)=a++y::x::(r2++rest):=by simp
  have h2:(a++y::x::(r2++rest)).length=a.length+2+r2.length+rest.length:=by simp;omega
  have hy:S y:=hs y (by rw[e];simp);rw[h1,ha,zN,h2,yB,zf,Cx,zd,show((a.length+1:Nat):Int)-1=(a.length:Int)by omega,yB,zf,Hd,za (hc x y hx hy)];by_cases h3:c x y<0
  ·rw[iq h3,zd,zd,yB,zf,Hd,yB,zf,Cx,yB,zf,My,xau,zp (by simp),zf,Re,zd];refine ih _ ⟨a,y::r2,by rw[e];simp,rfl,fun z hz=> ?_⟩ (by show(a.length:Int).toNat<((a++[y]).length:Int).toNat;omega);rcases xae.1 hz with rfl|hz
   ·exact h3
   ·exact hI z hz
  ·rw[ir h3];refine⟨_,rfl,a++[y],r2,e,by rw[h1],hI,fun b z hz=> ?_⟩;have:=List.append_inj' hz rfl;rw[List.singleton_inj.1 this.2]at h3;exact h3
 ·rw[zx];obtain rfl:r1=[]:=xbG.1 (by omega);exact⟨_,rfl,[],r2,e,rfl,hI,fun b z hz=>by
   have:=congrArg xaG hz;simp at this⟩
theorem SE{fu:Nat}{d:α}{cmp:α->α->Option Int}{c:α->α->Int}{S:α->Prop}(hc: ∀x y,S x->S y->cmp x y=some (c x y)){t:List α}(hS: ∀y∈t,S y)(hn:t.length<=1000)(hf:3000000<=fu):
 ∃r,zj (iB0 fu d 0 (t.length:Int) cmp) fu (1,t)=some r/\r.Perm t/\(Od3 c S->r.Pairwise fun a b=> ¬c b a<0):=by
 cases t with
 |nil=>
  refine yq (fun x:Int×List α=>x=(1,[])) (fun _=>0) _ ?_ fu _ rfl (by omega);rintro x L rfl ih;exact⟨[],rfl,xdB _,fun _=>List.Pairwise.nil⟩
 |cons z t=>
  refine yq (fun x:Int×List α=> ∃s rest,x=((s.length:Int),s++rest)/\(s++rest).Perm (z::t)/\(Od3 c S->s.Pairwise fun a b=> ¬c b a<0)) (fun x=>(z::t).length-x.1.toNat) _ ?_ fu _ ⟨[z],t,rfl,xdB _,fun _=>List.pairwise_singleton _ _⟩ (by show(z::t).length-1<fu;omega);rintro x L ⟨s,rest,rfl,hP,hO⟩ ih;unfold iB0;simp only;have hl:=hP.length_eq;rw[xau]at hl;have hm: ∀y∈s++rest,S y:=fun y hy=>hS y (hP.mem_iff.1 hy)
  cases rest with
  |nil=>
   rw[ir (by simp at hl;simp;omega)];rw[xbN]at hP;exact⟨s,by rw[xbN],hP,hO⟩
  |cons x rest=>
   rw[xav]at hl;rw[zN];have hs: ∀y∈s,S y:=fun y hy=>hm y (xdz _ hy);have hx:S x:=hm x (by simp);obtain⟨r,e1,r1,r2,rfl,rfl,h2,h3⟩:=zhZ (fu:=fu) (d:=d) (N:=((z::t).length:Int)) (rest:=rest) hc hs hx (by rw[xau,xav];omega) hf;rw[za e1];simp only;rw[zd];have hq:(r1++x::(r2++rest)).Perm (r1++r2++x::rest):=by
    rw[xal];refine xca r1 ?_;rw[<-xbP];have:(x::r2++rest).Perm (r2++x::rest):=xcr.symm;exact this
   refine ih _ ⟨r1++x::r2,rest,?_,?_,fun ho=> ?_⟩ ?_
   ·rw[show(((r1++x::r2).length:Nat):Int)=((r1++r2).length:Int)+1 by simp;omega,xal,xbP]
   ·rw[xal,xbP];exact hq.trans hP
   ·have hp:=xdg.1 (hO ho);have hd: ∀y∈r1,¬c x y<0:=fun y hy=>by
     obtain⟨a,w,rfl⟩:=Ml (xfi hy);have hw:=h3 a w rfl;rcases Nm.1 hy with h|h
     ·have h5:=xdg.1 hp.1;exact ho.tr y w x (hs y (by simp[h])) (hs w (by simp)) hx (h5.2.2 y h w (by simp)) hw
     ·rw[xah.1 h];exact hw
    refine xdg.2 ⟨hp.1,xcM.2 ⟨fun y hy=>ho.an x y hx (hs y (by simp[hy])) (h2 y hy),hp.2.1⟩,fun a ha b hb=> ?_⟩;rcases xae.1 hb with rfl|hb
    ·exact hd a ha
    ·exact hp.2.2 a ha b hb
   ·show(z::t).length-(((r1++r2).length:Int)+1).toNat<(z::t).length-((r1++r2).length:Int).toNat;omega
end
theorem zhY(cmp:List Int->List Int->Option Int)(f:Nat):wy f cmp=iB1 [] cmp:=by
 funext L ⟨_,_,_,_⟩;rfl
theorem zgC(cmp:List Int->List Int->Option Int)(f:Nat)(a b:Int):xd f a b cmp=iB0 f [] a b cmp:=by
 funext L ⟨_,_⟩;unfold xd iB0;rw[zhY]
theorem rV{fu:Nat}{cmp:List Int->List Int->Option Int}{c:List Int->List Int->Int}{S:List Int->Prop}(hc: ∀x y,S x->S y->cmp x y=some (c x y)){t:List (List Int)}(hS: ∀y∈t,S y)(hn:t.length<=12)(hf:3000001<=fu):
 ∃r,xA fu t cmp=some r/\r.Perm t/\(Od3 c S->r.Pairwise fun a b=> ¬c b a<0):=by
 obtain⟨g,rfl⟩: ∃g,fu=g+2:=⟨fu-2,by omega⟩;obtain⟨r,h1,h2,h3⟩:=SE (fu:=g+1) (d:=[]) hc hS (by omega) (by omega);refine⟨r,?_,h2,h3⟩;unfold xA q8;rw[zf,za (za (vH (by unfold gB;omega)))];refine za (v:=r) (za (v:=r) ?_);rw[qW];unfold vG;simp only;rw[zd,zN];refine za (v:=r) ?_;unfold xn;rw[zd,zgC];exact za (v:=r) h1
theorem zij(cmp:List Zr->List Zr->Option Int)(f:Nat):xL f cmp=iB1 [] cmp:=by
 funext L ⟨_,_,_,_⟩;rfl
theorem zhR(cmp:List Zr->List Zr->Option Int)(f:Nat)(a b:Int):yW f a b cmp=iB0 f [] a b cmp:=by
 funext L ⟨_,_⟩;unfold yW iB0;rw[zij]
theorem CA{fu:Nat}{cmp:List Zr->List Zr->Option Int}{c:List Zr->List Zr->Int}{S:List Zr->Prop}(hc: ∀x y,S x->S y->cmp x y=some (c x y)){t:List (List Zr)}(hS: ∀y∈t,S y)(hn:t.length<=12)(hf:3000001<=fu):
 ∃r,yn fu t cmp=some r/\r.Perm t/\(Od3 c S->r.Pairwise fun a b=> ¬c b a<0):=by
 obtain⟨g,rfl⟩: ∃g,fu=g+2:=⟨fu-2,by omega⟩;obtain⟨r,h1,h2,h3⟩:=SE (fu:=g+1) (d:=[]) hc hS (by omega) (by omega);refine⟨r,?_,h2,h3⟩;unfold yn q8;rw[zf,za (za (vH (by unfold gB;omega)))];refine za (v:=r) (za (v:=r) ?_);rw[qW];unfold wO;simp only;rw[zd,zN];refine za (v:=r) ?_;unfold y6;rw[zd,zhR];exact za (v:=r) h1
end
section
variable{p:Int}{m a:List Int}{fu:Nat}
theorem dK{p:Int}: ∀{l1 l2:List Pz},List.Sublist l1 l2->(∀w∈l2,Fs w)->Di p (prZ l1) (prZ l2)
 |_,_,.slnil,_=>Di.refl _ _
 |_,_,.cons a h,hf=>Di.mul a (hf a (FS)) (dK h fun w hw=>hf w (H1 _ hw))
 |_,_,.cons_cons a h,hf=>by
  obtain⟨q,fq,hc⟩:=dK (p:=p) h fun w hw=>hf w (H1 _ hw);refine⟨q,fq,((Cg.rfl (f:=a)).mul hc).trans (Cg.of ?_)⟩;exact zy _ _ _
theorem Fs.dvp{f:Pz}(h:Fs f):Fs (dvp f):=by
 obtain⟨n,hn⟩:=h;exact⟨n,fun k hk=>by show _*f (k+1)=0;rw[hn _ (by omega),xas]⟩
theorem qH.sq(hp:2<=p){u:List Int}(hu:Vs p u)(hc:qH p (ci m) (dvp (ci m)))(h:Di p (ci u*ci u) (ci m)):False:=by
 obtain⟨q,fq,hq⟩:=h;have h1:Di p (ci u) (ci m):=⟨q*ci u,fq.mul (Fs.ci u),hq.trans (Cg.of (zb _ _ _).symm)⟩;have h2:Di p (ci u) (dvp (ci m)):=⟨dvp q*ci u+(q*dvp (ci u)+q*dvp (ci u)),(fq.dvp.mul (Fs.ci u)).add ((fq.mul (Fs.ci u).dvp).add (fq.mul (Fs.ci u).dvp)),(TT hq).trans (Cg.of (by rw[XR,XR,yj,yj,zb,zb,xw,zg (ci u) (dvp (ci u))]))⟩;obtain⟨s,t,fs,ft,ha⟩:=hc;exact hu.ne hp ((Di.add (Di.mul s fs h1) (Di.mul t ft h2)).cg ha)
theorem zgA(hp:wG p=true)(hm:wC p m)(hl:m.length<=290)(hc:qH p (ci m) (dvp (ci m))): ∃us,Sf p m us:=by
 obtain⟨p1,p2⟩:=zo hp;obtain⟨us,h1,h2⟩:=zhH hp m.length rfl hl hm;refine⟨us,hp,hm,hl,fun u hu=>⟨(h1 u hu).1,by have:=(h1 u hu).2;omega⟩,?_,h2⟩;refine xdj.2 fun{a b} hs=> ?_;have ha:a∈us:=hs.subset (by simp);have hb:b∈us:=hs.subset (by simp);refine(h1 a ha).1.cop hp (h1 b hb).1 (by have:=(h1 a ha).2;omega) (by have:=(h1 b hb).2;omega) fun hd=> ?_;subst hd;have:=dK (p:=p) (hs.map ci) QY;refine qH.sq p1 (h1 a ha).1 hc ((Di.cg ?_ h2.symm));refine Di.trans ?_ this;refine⟨pc 1,Fs.pc 1,Cg.of ?_⟩;show ci a*(ci a*pc 1)=_;rw[zL,zt]
theorem da(hp:wG p=true)(hm:wC p m)(hl:m.length<=290)(hf:3000000<=fu): ∃b,qd fu m p=some (m,0)/\uM fu m p=some (b,0)/\(b=true↔qH p (ci m) (dvp (ci m))):=by
 obtain⟨p1,p2⟩:=zo hp;have hc:=hm.ln;obtain⟨x,x0,x1,hx,e1⟩:=Yj (fu:=fu) hp hm.fm hm.ln (by omega) hf;rw[hm.top,xcf,xaz (by omega) x1]at hx;subst hx;rw[Ry (by omega) hm.fm]at e1;obtain⟨g,s,t,g1,hR,g3⟩:=WE (fu:=fu) hp hm.fm (R6 (p:=p) (by omega) m) (by omega) (by have:=zeT p m;omega) hf;have ha:qH p (ci m) (dvp (ci m))↔g.length=1:=by
  rw[MN p1 hR g3];exact⟨fun h=>h.congr Cg.rfl (za0 p m).symm,fun h=>h.congr Cg.rfl (za0 p m)⟩
 refine⟨decide (g.length=1),e1,?_,by rw[ha];exact decide_eq_true_iff⟩;unfold uM Wh;rw[za e1];simp only[if_true];rw[zx,za rfl];simp only[if_true];rw[za (fG hp hm.fm (by omega) hf)];simp only;rw[za g1];simp only;by_cases hb:g.length=1
 ·rw[zN,decide_eq_true hb]
 ·rw[zx,decide_eq_false hb]
theorem fZ(hp:wG p=true)(ha:Fp p a)(h0:0<a.length)(hl:a.length<=65)(hf:3000000<=fu):
 ∃m b,RU p a m/\wC p m/\uM fu m p=some (b,0)/\(b=true↔qH p (ci m) (dvp (ci m)))/\jj fu a p=if b=true then some (m,0)else some ([],1):=by
 obtain⟨p1,p2⟩:=zo hp;obtain⟨x,x0,x1,hx,e1⟩:=Yj (fu:=fu) hp ha h0 (by omega) hf;have hM:=DU p1 ha h0 hx;obtain⟨m,hb⟩: ∃m,m=y4 p a [x]:=⟨_,rfl⟩;rw[<-hb]at hM e1;have hc:=hM.ln;have hm:wC p m:=⟨hM.fm,by omega,hM.top⟩;obtain⟨b,_,b1,b2⟩:=da (fu:=fu) hp hm (by omega) hf;refine⟨m,b,hM,hm,b1,b2,?_⟩;unfold jj Jm;have e2:(bd (qd fu a p) fun(t1,x1)=>if x1=(0:Int)then if(t1.length:Int)=(0:Int)then some (([],(8:Int)))else if(65:Int)<(t1.length:Int)then some (([],(6:Int)))else some ((t1,(0:Int)))else some ([],x1))=some (m,0):=by
  rw[za e1];simp only;rw[iq trivial,zx,zx]
 rw[za e2];simp only;rw[iq trivial,za b1];simp only;cases b<;>rfl
theorem UH{b:List Int}(ha:a.length<=1000)(hb:b.length<=1000)(hf:3000000<=fu): ∃c,wE fu a b=some c:=by
 unfold wE;by_cases h:a.length=b.length
 ·rw[zN,zd];obtain⟨r,hr,_⟩:=yq (f:=Ym fu a b) (fun i:Int=> -1<=i/\i<a.length) (fun i=>(i+1).toNat) (fun _=>True) (by
   rintro i L ⟨h1,h2⟩ ih;unfold Ym;by_cases h3:0<=i
   ·obtain⟨k,rfl⟩:=xaC h3;rw[iq h3,yB,zf,yB,zf];split
    ·exact⟨_,rfl,trivial⟩
    ·rw[yB,zf,yB,zf];split
     ·exact⟨_,rfl,trivial⟩
     ·rw[zd];exact ih _ ⟨by omega,by omega⟩ (by omega)
   ·rw[ir h3];exact⟨_,rfl,trivial⟩) fu ((a.length:Int)-1) ⟨by omega,by omega⟩ (by omega)
  rw[za hr]
  cases r with
  |inl _=>exact⟨_,rfl⟩
  |inr i=>exact⟨i,rfl⟩
 ·rw[zx,zd];exact⟨_,rfl⟩
theorem DX{l1 l2:List Pz}(h:l1.Perm l2):prZ l1=prZ l2:=by
 induction h with
 |nil=>rfl
 |cons x _ ih=>show x*prZ _=x*prZ _;rw[ih]
 |swap x y l=>show y*(x*prZ l)=x*(y*prZ l);rw[zy]
 |trans _ _ h1 h2=>rw[h1,h2]
theorem Rl.take{l:List Int}(h:Rl l)(n:Nat):Rl (l.take n):=fun k=>by
 by_cases hk:k<n
 ·have:ci (l.take n) k=ci l k:=by
   show(l.take n).getD k 0=l.getD k 0;rw[UV,UV,xbU,iq hk]
  rw[this];exact h k
 ·rw[zQ (by rw[xay];omega)];exact⟨by omega,by omega⟩
theorem gU{P:Nat}{ds:List Int}(hp:wG (P:Int)=true)(ha:Fp (P:Int) a)(h0:1<a.length)(hl:a.length<=13)(hd:Rl ds)(hk:ds.length<=1000)(hf:3000001<=fu){b:Bool}(hM:RU (P:Int) a m)(hm:wC (P:Int) m)(hq:jj fu a P=some (m,0))(hc:qH (P:Int) (ci m) (dvp (ci m))):
 ∃l us,ZD fu a P ds=some (l,0)/\Sf (P:Int) m us/\Pl (P:Int) m l/\ ∀g∈l,Vs (P:Int) g:=by
 obtain⟨p1,p2⟩:=zo hp;have hn:=hM.ln;obtain⟨us,hS⟩:=zgA hp hm (by omega) hc;obtain⟨bs,e1,b1,b2,b3,hB,c,hb⟩:=ib (fu:=fu) (w:=m.length-1) hp hm (by omega) (by omega) (by omega) (by omega);have ho:=hB.le hS;have he:Rl (ds.take (min ds.length 64)):=hd.take _;obtain⟨l,e2,e3,e4⟩:=eT (fu:=fu) (bs:=bs) (ds:=ds.take (min ds.length 64)) hS (by omega) (by omega) rfl b1 (by omega) he (by rw[xay];omega) (fun v hv=>⟨(b3 v hv).1,by have:=(b3 v hv).2;omega⟩) (by omega);have hi:=Pl.done hS hB e3 ⟨c,hb⟩ e4;obtain⟨vs,v1,v2,v3⟩:=hS.pick e3.mn ((Di.refl _ _).cg e3.pr.symm);have hr:=KI v2 fun v hv=>(v3 v hv).1;have hj: ∀g∈l,g.length<=290:=fun g hg=>hS.len (e3.mn g hg).1 (e3.dv hg);obtain⟨r,s1,s2,_⟩:=rV (fu:=fu) (cmp:=fun zx0 zx1=>wE fu zx0 zx1) (c:=fun x y=>(wE fu x y).getD 0) (S:=fun x=>x.length<=290) (fun x y hx hy=>by
  obtain⟨c,hc⟩:=UH (fu:=fu) (a:=x) (b:=y) (by omega) (by omega) (by omega);show wE fu x y=some ((wE fu x y).getD 0);rw[hc];rfl) (t:=l) hj (by omega) hf
 refine⟨r,us,?_,hS,⟨fun g hg=>e3.mn g (s2.mem_iff.1 hg),e3.pr.trans ?_⟩,fun g hg=>hi g (s2.mem_iff.1 hg)⟩
 ·unfold ZD;rw[za hq];simp only;rw[iq trivial,zx,za e1,zf,show min (ds.length:Int) 64=((min ds.length 64:Nat):Int)by omega,yO,yG,zf,za e2,za s1]
 ·exact Cg.of (DX (s2.symm.map ci))
end
section
variable{fu K:Nat}{a b:Zr}
def exI(x y:Int):Int:=if y=0 then 0 else if x % y=0 then x/y else 0
def exE(x y:Int):Int:=if y=0 then 3 else if x % y=0 then 0 else 4
theorem Xh(ha:gx a)(hb:gx b)(hf:3000000<=fu):qP fu a b=some (yE (exI (zv a) (zv b)),exE (zv a) (zv b)):=by
 unfold qP exI exE;rw[za (V8 ha hb hf)];unfold Sv;by_cases h0:zv b=0
 ·rw[iq h0,iq h0,iq h0];rfl
 ·rw[ir h0,ir h0,ir h0];simp only[if_true];have hr:Bz b.2.length (zv a % zv b):=by
   unfold Bz;have h1:=xcS (zv a) h0;have h2:=Int.emod_lt (zv a) h0;have h3:=Bz.of hb.1;unfold Bz at h3;omega
  rw[za rfl,ir (by decide),za (xe (hr.ok (by have:=hb.2;omega)) hf),zu];by_cases h1:zv a % zv b=0
  ·rw[iq (jd.2 h1),iq h1,iq h1]
  ·rw[ir (fun e=>h1 (jd.1 e)),ir h1,ir h1];rfl
theorem zdg{n:Nat}(h:n<18446744073709551616^K):bl n<=64*K:=Vh (by rw[xdc,mH];exact h)
theorem UR(ha:zm a.2)(hb:zm b.2)(he:a.2.length<=K)(hi:b.2.length<=K)(hK:K<=10000)(hf:3000000<=fu):W3 fu a b=some (yE (xeg (zv a).natAbs (zv b).natAbs:Nat)):=by
 unfold W3;rw[za (Yp ha (by omega) (by omega)),za (Yp hb (by omega) (by omega)),kD,kD];have hA:nv a.2<18446744073709551616^K:=xap (jz ha) (xaK (by decide) he);have hB:nv b.2<18446744073709551616^K:=xap (jz hb) (xaK (by decide) hi);generalize nv a.2=A at*
 generalize nv b.2=B at*
 have hG:xeg A B<18446744073709551616^K:=by
  by_cases h:A=0
  ·rw[h,Nat.gcd_zero_left];exact hB
  ·exact xbd (Nat.gcd_le_left _ (by omega)) hA
 have hc: ∀{n:Nat},n<18446744073709551616^K->(yI n).length<=K:=fun{n} h=>(zJ _ _).2 h;rw[za (v:=yI (xeg A B))]
 ·have hl:=hc hG;rw[za (yf (zw _) (by omega) (by omega)),z7];rfl
 ·refine zE (fun s:List Nat×List Nat=> ∃x y:Nat,s=(yI x,yI y)/\x<18446744073709551616^K/\y<18446744073709551616^K/\xeg x y=xeg A B) (fun s=>bl (nv s.1)+bl (nv s.2)+if nv s.1<nv s.2 then 1 else 0) _ ?_ _ _ ⟨A,B,rfl,hA,hB,rfl⟩ ?_
  ·rintro s L ⟨x,y,rfl,hx,hy,hg⟩ ih;unfold cm;simp only;have lx:=hc hx;have ly:=hc hy;by_cases h0:y=0
   ·subst h0;rw[ir (by rw[QC];decide)];rw[Nat.gcd_zero_right]at hg;rw[hg]
   ·have hp:=vD (n:=y) (by omega);rw[zN,za (bH (zw x) (zw y) (by omega) (by omega) hf),z7,z7,ir h0];simp only;have hj:=xbq x (show 0<y by omega);refine ih _ ⟨y,x % y,rfl,hy,by omega,?_⟩ ?_
    ·rw[<-hg,xew y,<-Nat.gcd_rec,xew]
    ·simp only[z7];rw[zx];by_cases hd:x<y
     ·rw[iq hd,xaF hd];omega
     ·have:=M2 (r0:=x) (r1:=y) (by omega) (by omega);omega
  ·simp only[z7];have h1:=zdg hA;have h2:=zdg hB;split<;>omega
end
section
variable{K fu:Nat}{a:List Zr}
def ZL(f:Nat->Int):Nat->Nat
 |0=>0
 |n+1=>xeg (ZL f n) (f n).natAbs
theorem p9(f:Nat->Int): ∀n k,k<n->ZL f n∣(f k).natAbs
 |0,k,h=>absurd h (xbv _)
 |n+1,k,h=>by
  by_cases e:k=n
  ·rw[e];exact Nat.gcd_dvd_right _ _
  ·exact Nat.dvd_trans (Nat.gcd_dvd_left _ _) (p9 f n k (by omega))
theorem Bk(f:Nat->Int){K:Nat}(h: ∀k,Bz K (f k)): ∀n,ZL f n<18446744073709551616^K
 |0=>xbp (by decide)
 |n+1=>by
  show xeg (ZL f n) (f n).natAbs<_;by_cases e:ZL f n=0
  ·rw[e,Nat.gcd_zero_left];exact h n
  ·exact xbd (Nat.gcd_le_left _ (by omega)) (Bk f h n)
def y8(a:List Zr):Int:=if cf (yb a) ((yb a).length-1)<0 then-((ZL (cf a) (yb a).length:Nat):Int)else((ZL (cf a) (yb a).length:Nat):Int)
theorem cT(a:List Zr):yb a=qe (yb a).length (cf (yb a)):=YH _ _
theorem zcI(a:List Zr):yb (yb a)=yb a:=(cT a).symm
theorem Gf(h:xb K a):Bz K (y8 a):=by
 have hb:=Bk (cf a) h.bz (yb a).length;unfold y8;split
 ·exact(Bz.nat hb).neg
 ·exact Bz.nat hb
theorem Uh(a:List Zr)(k:Nat):y8 a∣cf a k:=by
 have h:((ZL (cf a) (yb a).length:Nat):Int)∣cf a k:=by
  by_cases hk:k<(yb a).length
  ·exact xcm.1 (by rw[xbb];exact p9 (cf a) _ k hk)
  ·rw[<-kQ,z6 (by omega)];exact xcJ _
 unfold y8;split
 ·exact Int.neg_dvd.2 h
 ·exact h
theorem Kv(h:(yb a).length≠0):y8 a≠0:=by
 intro e;have h1:=Zw (cT a) h;rw[kQ]at h1;have h2:=Uh a ((yb a).length-1);rw[e]at h2;exact h1 (Int.zero_dvd.1 h2)
theorem qQ(ha:xb K a)(hK:K<=9999)(hl:a.length<=1000000)(hf:3000000<=fu):wI fu a=some (yE (y8 a)):=by
 unfold wI;have hn:=eZ ha;have hc:=Vr a;have hb:=Bk (cf a) ha.bz;rw[za (zz ha (by omega) hl hf),show qe a.length (cf a)=yb a from rfl,za (z8 (by decide) hf),za (v:=(yb a,(false,[]),yE ((ZL (cf a) (yb a).length:Nat):Int)))]
 ·simp only;by_cases h0:(yb a).length=0
  ·rw[zx];unfold y8;rw[h0];show some (yE ((0:Nat):Int))=some (yE (if cf (yb a) 0<0 then-(((0:Nat):Int))else((0:Nat):Int)));split<;>rfl
  ·rw[zN,show(((yb a).length:Nat):Int)-1=(((yb a).length-1:Nat):Int)by omega,zd,yB,zf,Gj (cT a) (by omega)];unfold y8;by_cases h1:cf (yb a) ((yb a).length-1)<0
   ·rw[iq ((lA _).2 h1),iq h1,za (UO ((Bz.nat (hb _)).ok (by omega)) hf),zu]
   ·rw[ir (fun e=>h1 ((lA _).1 e)),ir h1]
 ·refine zE (fun s:Int×List Zr×Zr×Zr=> ∃i:Nat,i<=(yb a).length/\s=((i:Int),yb a,(false,[]),yE ((ZL (cf a) i:Nat):Int))) (fun s=>(yb a).length-s.1.toNat) _ ?_ _ _ ⟨0,xaj _,rfl⟩ (by show(yb a).length-0<fu;omega);rintro s L ⟨i,hi,rfl⟩ ih;unfold VC;simp only;by_cases h:i<(yb a).length
  ·have hg:=hn.get i;rw[zN,za rfl];simp only[if_true];rw[zp h,zf,za (UR (yU _) hg.1 (Bz.nat (hb i)).len hg.2 (by omega) hf),zu,xbb,Qm,kQ,zd];exact ih _ ⟨i+1,by omega,rfl⟩ (by show(yb a).length-((i:Int)+1).toNat<(yb a).length-(i:Int).toNat;omega)
  ·rw[zx,za rfl];simp only[xak,if_false];obtain rfl:i=(yb a).length:=by omega
   rfl
def x9(a:List Zr):List Zr:=qe a.length (fun k=>cf a k/y8 a)
theorem uc(a:List Zr)(k:Nat):cf (x9 a) k=cf a k/y8 a:=jq (fun k hk=>by rw[z6 hk,xfC]) k
theorem Ta(h:xb K a):xb K (x9 a):=y7 fun k=>(h.bz k).le (xdp _ _)
theorem zeh{x c:Int}(hd:c∣x)(hx:x≠0):x/c≠0:=fun e=>by
 have:=Int.ediv_mul_cancel hd;rw[e,xaQ]at this;exact hx this.symm
theorem Z7(a:List Zr):(x9 a).length=(yb a).length:=by
 unfold x9 yb;rw[xD,xD];refine Ur (qf _ _) (fun k h1 h2=>by rw[Js (cf a) a.length k h1 h2,xfC]) ?_;by_cases h:dg (cf a) a.length=0
 ·exact .inl h
 ·exact .inr (zeh (Uh a _) (WZ _ _ h))
theorem zaU(a:List Zr):x9 a=zi (yb a).length (fun k=>cf a k/y8 a):=by
 have h:=Z7 a;unfold x9 at h⊢;rw[xD]at h;unfold qe;rw[h]
theorem wK(ha:xb K a)(hK:K<=9999)(hl:a.length<=1000000)(hf:3000000<=fu):xN fu a=some (x9 a):=by
 unfold xN;have hn:=eZ ha;have hb:=Vr a;have hc:=Gf ha;rw[za (qQ ha hK hl hf),za (zz ha (by omega) hl hf),show qe a.length (cf a)=yb a from rfl,za (ll (p:=yb a) (g:=fun k=>cf a k/y8 a) (by omega) (by omega) fun j hj=> ?_),zaU];unfold WH;rw[za (Xh (hn.okS (by omega) j) (hc.okS (by omega)) hf),zu,Qm,kQ];simp only;unfold exI;rw[ir (Kv (by omega)),iq (xax (Uh a j))]
end
section
variable{a:List Zr}{fu K:Nat}{s:Int}
theorem zbN{x:Nat}:x/2^1=x/2:=by rw[Nat.pow_one]
theorem zcb{n:Nat}(h:0<n):bl (n/2)<bl n:=by rw[Jq h];omega
theorem MY{a b:Nat}(h:a<=b):bl a<=bl b:=Vh (xbd h (mZ b))
theorem zb3{y:Int}(hy:Bz K y)(hK:K<=10000)(hf:3000000<=fu):zj (Yv fu 2 (yE y)) fu (2,yE s,0,yE 1)=some (2,yE s,yE (y*y)):=by
 obtain⟨n,hn⟩: ∃n,fu=n+3:=⟨fu-3,by omega⟩;have h:zj (Yv fu 2 (yE y)) (n+3) (2,yE s,0,yE 1)=some (2,yE s,yE (y*y)):=by
  have b1:Bz 1 1:=Bz.one' (xac _);rw[qW];unfold Yv;simp only;rw[iq (by decide),za (ye (b1.ok (by decide)) (hy.ok (by omega)) hf),zu,zu,xbX,HB (by decide),qW];simp only;rw[iq (by decide),za (ye (hy.ok (by omega)) (hy.ok (by omega)) hf),zu,HB (by decide),qW];simp only;rw[ir (by decide)]
 rw[<-hn]at h;exact h
theorem n8(hs:0<=s)(hB:Bz K s)(hK:K<=1000)(hf:3000000<=fu): ∃r:Nat,VI fu (yE s) 2=some (yE (r:Int),0)/\Bz (K+1) (r:Int)/\r*r<=s.toNat/\s.toNat<(r+1)*(r+1):=by
 unfold VI;obtain⟨S,rfl⟩:=xaC hs;have ht:=hB.len;have hu:bl S<=64*K:=zdg (by unfold Bz at hB;rwa[xbb]at hB);have hl:nv (yE (S:Int)).2=S:=by show nv (yI ((S:Int).natAbs))=S;rw[z7,xbb]
 have hc:xda ((bl S:Nat):Int) 2=((bl S/2:Nat):Int):=by rw[xdF (by omega)];omega
 have h2:bl S/2<=32*K:=by omega
 have he:min (((bl S/2:Nat):Int)+1) (262144:Int)=((bl S/2+1:Nat):Int):=by omega
 rw[ir (by decide),ir (by decide),za (xe (hB.ok (by omega)) hf),zu,ir (fun e=>by
  unfold kG at e;rw[zx]at e;split at e<;>exact absurd e (by decide)),za (z8 (by decide) hf),za (Yu (yU _) (by omega) (by omega)),hl,q9 (by decide),hc,zd,zd,zf,he,za (X7 (a:=[1]) (zm.cons (by decide) zm.nil) (by decide) (by omega) (by omega))]
 simp only;obtain⟨H,hH⟩: ∃H,H=1*2^(bl S/2+1):=⟨_,rfl⟩;have ha:H<18446744073709551616^(K+1):=by
  rw[hH,xcn,show(18446744073709551616:Nat)=2^64 by decide,<-xdc];exact xeF (by decide) (by omega)
 have hv:1<=H:=by rw[hH,xcn];exact xbp (by decide)
 have hr:=zdg ha;have hn:S<H*H:=by
  refine xap (mZ S) ?_;rw[hH,xcn,<-xbW];exact xaK (by decide) (by omega)
 rw[show nv [1]=1 from rfl,<-hH,za (yf (zw _) (by have:=(zJ (K+1) H).2 ha;omega) (by have:=(zJ (K+1) H).2 ha;omega)),z7,ir (by decide)];obtain⟨r,l1,R,rfl,hR,ho,hp⟩:=yq (f:=Qa fu (yE (S:Int)) 2) (fun z:Zr×Zr×Zr=> ∃lo hi:Nat,z=((false,[]),yE (lo:Int),yE (hi:Int))/\lo<hi/\hi<=H/\lo*lo<=S/\S<hi*hi) (fun z=>bl ((zv z.2.2).natAbs-(zv z.2.1).natAbs-1)) (fun r=> ∃R:Nat,r=yE (R:Int)/\R<=H/\R*R<=S/\S<(R+1)*(R+1)) (by
  rintro z L ⟨lo,hi,rfl,h1,h2,i1,i2⟩ ih;unfold Qa;simp only;have blo:Bz (K+1) (lo:Int):=Bz.nat (by omega);have bhi:Bz (K+1) (hi:Int):=Bz.nat (by omega);have hg:nv (yE ((lo:Int)+(hi:Int))).2=lo+hi:=by
   show nv (yI (((lo:Int)+(hi:Int)).natAbs))=lo+hi;rw[z7];omega
  have bsum:=(blo.add bhi).len;have bmid:Bz (K+1) (((lo+hi)/2:Nat):Int):=Bz.nat (by omega);have hw:(yI ((lo+hi)/2)).length<=K+1:=(zJ _ _).2 (by omega);rw[za (vW (blo.ok (by omega)) (bhi.ok (by omega)) hf),zu,zu,show(1:Int)=((1:Nat):Int)from rfl,za (cJ (yU _) (by omega) (by decide) (by omega)),hg,zbN,za (yf (zw _) (by omega) (by omega)),z7,ir (by decide),za (ue (bmid.ok (by omega)) (blo.ok (by omega)) hf (by have:=bmid.len;omega) (by have:=blo.len;omega)),zu,zu];by_cases h3:(lo+hi)/2=lo
  ·rw[iq (jd.2 (by omega))];obtain rfl:hi=lo+1:=by omega
   exact⟨_,rfl,lo,rfl,by omega,i1,i2⟩
  ·rw[ir (fun e=>h3 (by have:=jd.1 e;omega)),show(((1:Nat):Int))=1 from rfl,za (z8 (by decide) hf),za (zb3 bmid (by omega) hf)];simp only;have bsq:=(bmid.mul bmid).len;rw[za (ue ((bmid.mul bmid).ok (by omega)) (hB.ok (by omega)) hf (by omega) (by omega))];have hd:0<hi-lo-1:=by omega
   have hm: ∀d,d<=(hi-lo-1)/2->bl d<bl (hi-lo-1):=fun d hq=>xbd (MY hq) (zcb hd);obtain⟨mid,hj⟩: ∃mid,mid=(lo+hi)/2:=⟨_,rfl⟩;rw[<-hj]at h3⊢;have hk:kG ((mid:Int)*(mid:Nat)) (S:Int)<=0↔mid*mid<=S:=by
    rw[show(mid:Int)*(mid:Nat)=((mid*mid:Nat):Int)by simp];unfold kG;split
    ·exact⟨fun _=>by omega,fun _=>by decide⟩
    ·split
     ·exact⟨fun h=>absurd h (by decide),fun h=>by omega⟩
     ·exact⟨fun _=>by omega,fun _=>by decide⟩
   by_cases hb:mid*mid<=S
   ·rw[zu,zu,iq (hk.2 hb)];exact ih _ ⟨_,hi,rfl,by omega,h2,hb,i2⟩ (by simp only[zu,xbb];exact hm _ (by omega))
   ·rw[zu,zu,ir fun h=>hb (hk.1 h)];exact ih _ ⟨lo,_,rfl,by omega,by omega,i1,by omega⟩ (by simp only[zu,xbb];exact hm _ (by omega))) fu ((false,[]),yE 0,yE (H:Int)) ⟨0,H,rfl,by omega,xac _,xaj _,hn⟩ (by
   simp only[zu,xbb];have:=MY (show H-Int.natAbs 0-1<=H by omega);omega)
 rw[za l1];exact⟨R,rfl,Bz.nat (by omega),by rw[xaM];exact ho,by rw[xaM];exact hp⟩
def dZ(a:List Zr):Int:=if(yb a).length=0 then 8 else if 65<(yb a).length then 6 else 0
theorem Xv(ha:xb K a)(hK:K<=40000)(hl:a.length<=1000000)(hf:3000000<=fu):Zx fu a=some (dZ a):=by
 unfold Zx dZ;rw[za (zz ha (by omega) hl hf),show qe a.length (cf a)=yb a from rfl];by_cases h0:(yb a).length=0
 ·rw[zN,iq h0]
 ·rw[zx,ir h0];by_cases h1:65<(yb a).length
  ·rw[zN,iq h1]
  ·rw[zx,ir h1]
def dV(f:Nat->Int)(n:Nat):Int:=zV n (fun k=>f k*f k)
theorem jk(x:Int):0<=x*x:=by
 rcases Int.le_total 0 x with h|h
 ·exact xcz h h
 ·exact Int.mul_nonneg_of_nonpos_of_nonpos h h
theorem aV(f:Nat->Int): ∀n,0<=dV f n
 |0=>xeS _
 |n+1=>Int.add_nonneg (aV f n) (jk _)
theorem PF{f:Nat->Int}(h: ∀k,Bz K (f k)): ∀n,n<=18446744073709551615->Bz (K+K+1) (dV f n):=by
 have h1: ∀n:Nat,(dV f n).natAbs<=n*18446744073709551616^(K+K):=by
  intro n
  induction n with
  |zero=>exact xaj _
  |succ n ih=>
   have h2:(dV f (n+1)).natAbs<=(dV f n).natAbs+(f n*f n).natAbs:=Int.natAbs_add_le _ _;have h3:=(h n).mul (h n);unfold Bz at h3;rw[xaV,xcn];omega
 intro n hn;unfold Bz;have h2:=h1 n;have hp:0<18446744073709551616^(K+K):=xbp (by decide);rw[xbu];have h3:n*18446744073709551616^(K+K)<=18446744073709551615*18446744073709551616^(K+K):=xar _ hn;generalize 18446744073709551616^(K+K)=M at*
 omega
theorem B0{f:Nat->Int}: ∀{n},(∃k,k<n/\f k≠0)->1<=dV f n
 |0,⟨k,h,_⟩=>absurd h (xbv _)
 |n+1,⟨k,h,hk⟩=>by
  show 1<=dV f n+f n*f n;have h1:=aV f n;have h2:=jk (f n);by_cases e:k=n
  ·have h3:f n*f n≠0:=fun e2=>by
    rcases xex.1 e2 with h4|h4<;>exact hk (by rw[e];exact h4)
   omega
  ·have:=B0 (f:=f) (n:=n) ⟨k,by omega,hk⟩;omega
theorem JK(ha:xb K a)(hK:K<=300)(hl:a.length<=1000000)(hf:3000000<=fu): ∃y,wu fu a=some (y,dZ a)/\(dZ a=0-> ∃r:Nat,y=yE (((r+1)*2^((yb a).length-1):Nat):Int)/\r*r<=(-1+dV (cf a) (yb a).length).toNat/\(-1+dV (cf a) (yb a).length).toNat<(r+1)*(r+1)):=by
 unfold wu;rw[za (Xv ha (by omega) hl hf)];by_cases h0:dZ a=0
 ·have hb:(yb a).length≠0/\(yb a).length<=65:=by
   unfold dZ at h0;split at h0
   ·cases h0
   ·split at h0
    ·cases h0
    ·exact⟨by assumption,by omega⟩
  have hn:=eZ ha;have hd:=fun n hn=>PF (K:=K) (f:=cf a) ha.bz n hn;have he:=B0 (f:=cf a) (n:=(yb a).length) ⟨(yb a).length-1,by omega,by have:=Zw (cT a) hb.1;rwa[kQ]at this⟩;have hc: ∀n,n<=18446744073709551615->Bz (K+K+1+1) (-1+dV (cf a) n):=fun n hn=>by
   have:=(hd n hn).add (Bz.one (k:=K+K+1) (by omega));rwa[xfv]at this
  rw[iq h0,za (zz ha (by omega) hl hf),show qe a.length (cf a)=yb a from rfl,za (z8 (by decide) hf),za (v:=(yb a,(false,[]),yE (-1+dV (cf a) (yb a).length)))]
  ·simp only;obtain⟨r,r1,r2,r3,r4⟩:=n8 (fu:=fu) (s:= -1+dV (cf a) (yb a).length) (by omega) (hc _ (by omega)) (by omega) hf;have b1:Bz 1 1:=Bz.one' (xac _);have b2:=(r2.add (b1.mono (by omega:1<=K+K+1+1+1))).len;rw[za r1];simp only;rw[za (z8 (by decide) hf),za (vW (r2.ok (by omega)) (b1.ok (by decide)) hf),zu,zu,show(((yb a).length:Nat):Int)-1=(((yb a).length-1:Nat):Int)by omega,zd,za (X7 (yU _) (by omega) (by omega) (by omega))];simp only;have h3:(yI (nv (yE ((r:Int)+1)).2*2^((yb a).length-1))).length<=K+K+1+1+1+1+2:=by
    refine YR (j:=K+K+1+1+1+1) (k:=2) ?_ ?_
    ·rw[show nv (yE ((r:Int)+1)).2=((r:Int)+1).natAbs from z7 _];exact b2
    ·refine(zJ _ _).2 ?_;exact xbd (xaK (by decide) (show(yb a).length-1<=64 by omega)) (by decide)
   rw[za (um ⟨zw _,by show(yI _).length<=100000;omega⟩ hf)];refine⟨_,by rw[h0],fun _=>⟨r,?_,r3,r4⟩⟩;congr 1;show(if false=true then _ else((nv (yI _):Nat):Int))=_;rw[z7,show nv (yE ((r:Int)+1)).2=((r:Int)+1).natAbs from z7 _,show((r:Int)+1).natAbs=r+1 by omega];rfl
  ·refine zE (fun s:Int×List Zr×Zr×Zr=> ∃i:Nat,i<=(yb a).length/\s=((i:Int),yb a,(false,[]),yE (-1+dV (cf a) i))) (fun s=>(yb a).length-s.1.toNat) _ ?_ _ _ ⟨0,xaj _,rfl⟩ (by show(yb a).length-0<fu;omega);rintro s L ⟨i,hi,rfl⟩ ih;unfold JU;simp only;by_cases h:i<(yb a).length
   ·have hz:=hn.okZ (by omega) i;have hq:=(ha.bz i).mul (ha.bz i);rw[zN,za rfl];simp only[if_true];rw[zp h,zf,za (ye hz hz hf),Qm,kQ,za (vW ((hc i (by omega)).ok (by omega)) (hq.ok (by omega)) hf),zu,zu,zd,show-1+dV (cf a) i+cf a i*cf a i= -1+dV (cf a) (i+1)by show _= -1+(dV (cf a) i+cf a i*cf a i);omega];exact ih _ ⟨i+1,by omega,rfl⟩ (by show(yb a).length-((i:Int)+1).toNat<(yb a).length-(i:Int).toNat;omega)
   ·rw[zx,za rfl];simp only[xak,if_false];obtain rfl:i=(yb a).length:=by omega
    rfl
 ·rw[ir h0];exact⟨_,rfl,fun h=>absurd h h0⟩
end
section
variable{f g q u v w a b:Pz}{m:Nat}
theorem n4{m:Int}{f:Nat->Int}: ∀{n j:Nat},j<n->(∀k,k<n->k≠j->m∣f k)->m∣zV n f-f j
 |0,j,h,_=>absurd h (xbv _)
 |n+1,j,h,hd=>by
  show m∣zV n f+f n-f j;by_cases e:j=n
  ·subst e;rw[show zV j f+f j-f j=zV j f by omega];exact KE fun k hk=>hd k (by omega) (by omega)
  ·have h1:=n4 (n:=n) (j:=j) (by omega) fun k hk ha=>hd k (by omega) ha;have h2:=hd n (by omega) (by omega);rw[show zV n f+f n-f j=(zV n f-f j)+f n by omega];exact Int.dvd_add h1 h2
theorem Xi{n:Nat}(hf: ∀k,n<k->f k=0)(hg: ∀k,m<k->g k=0):(f*g) (n+m)=f n*g m:=by
 have h:zV (n+m+1) (fun i=>f i*g (n+m-i))-f n*g (n+m-n)=0:=Int.zero_dvd.1 (n4 (m:=0) (f:=fun i=>f i*g (n+m-i)) (n:=n+m+1) (j:=n) (by omega) fun k hk ha=>by
  show(0:Int)∣f k*g (n+m-k);by_cases hc:k<n
  ·rw[hg (n+m-k) (by omega),xas];exact xdO 0
  ·rw[hf k (by omega),xaQ];exact xdO 0)
 rw[show n+m-n=m by omega]at h;rw[xk];omega
def Tp(f:Pz)(n:Nat):Prop:=f n≠0/\ ∀k,n<k->f k=0
def Nz(f:Pz):Prop:= ∃k,f k≠0
theorem Nz.not(h: ¬Nz f)(k:Nat):f k=0:=xad fun e=>h ⟨k,e⟩
theorem Tp.ex(hf:Fs f)(h0:Nz f): ∃n,Tp f n:=by
 obtain⟨N,hN⟩:=hf;obtain⟨j,hj⟩:=h0;have h1:dg f N≠0:=fun e=>by
  by_cases ha:j<N
  ·exact hj (Js f N j (by omega) ha)
  ·exact hj (hN j (by omega))
 refine⟨dg f N-1,WZ f N h1,fun k hk=> ?_⟩;by_cases hb:k<N
 ·exact Js f N k (by omega) hb
 ·exact hN k (by omega)
theorem Tp.mul{n:Nat}(hf:Tp f n)(hg:Tp g m):Tp (f*g) (n+m):=
 ⟨by rw[Xi hf.2 hg.2];exact xdt hf.1 hg.1,fun k hk=>vA (n:=n+1) (m:=m+1) (fun j hj=>hf.2 j (by omega)) (fun j hj=>hg.2 j (by omega)) (by omega)⟩
theorem Tp.uniq{n:Nat}(h:Tp f n)(g:Tp f m):n=m:=by
 by_cases h1:n<m
 ·exact absurd (h.2 m h1) g.1
 ·by_cases h2:m<n
  ·exact absurd (g.2 n h2) h.1
  ·omega
theorem Tp.nz{n:Nat}(h:Tp f n):Nz f:=⟨n,h.1⟩
theorem Tp.fs{n:Nat}(h:Tp f n):Fs f:=⟨n+1,fun k hk=>h.2 k (by omega)⟩
theorem Nz.mul{f g:Pz}(ff:Fs f)(fg:Fs g)(hf:Nz f)(hg:Nz g):Nz (f*g):=by
 obtain⟨n,hn⟩:=Tp.ex ff hf;obtain⟨m,hm⟩:=Tp.ex fg hg;exact(hn.mul hm).nz
theorem mz(ff:Fs f)(fg:Fs g)(fq:Fs q)(hq:Nz q)(h:f*q=g*q):f=g:=by
 by_cases hz:Nz (f-g)
 ·have h1:=Nz.mul (ff.subt fg) fq hz hq;obtain⟨k,hk⟩:=h1;rw[w7,h,yA,xcX]at hk;exact absurd rfl hk
 ·funext k;have:=Nz.not hz k;rw[yA]at this;omega
theorem Oc{c:Int}(hc:c≠0)(h:pc c*f=pc c*g):f=g:=funext fun k=>by
 have:=congrFun h k;rw[zD,zD]at this;exact Int.eq_of_mul_eq_mul_left hc this
def Zd(u v:Pz):Prop:= ∃q:Pz,Fs q/\v=q*u
theorem Zd.refl(u:Pz):Zd u u:=⟨pc 1,Fs.pc 1,(zt u).symm⟩
theorem Zd.trans(h:Zd u v)(g:Zd v w):Zd u w:=by
 obtain⟨q,fq,rfl⟩:=h;obtain⟨r,fr,rfl⟩:=g;exact⟨r*q,fr.mul fq,(zb r q u).symm⟩
theorem Zd.add{u v w:Pz}(h:Zd u v)(g:Zd u w):Zd u (v+w):=by
 obtain⟨q,fq,rfl⟩:=h;obtain⟨r,fr,rfl⟩:=g;exact⟨q+r,fq.add fr,(yj q r u).symm⟩
theorem Zd.sub(h:Zd u v)(g:Zd u w):Zd u (v-w):=by
 obtain⟨q,fq,rfl⟩:=h;obtain⟨r,fr,rfl⟩:=g;exact⟨q-r,fq.subt fr,(w7 q r u).symm⟩
theorem Zd.mul{u v:Pz}(w:Pz)(fw:Fs w)(h:Zd u v):Zd u (w*v):=by
 obtain⟨q,fq,rfl⟩:=h;exact⟨w*q,fw.mul fq,(zb w q u).symm⟩
theorem Zd.left(fv:Fs v):Zd u (u*v):=⟨v,fv,zg u v⟩
def Pm(f:Pz):Prop:= ∀d:Nat,(∀k,(d:Int)∣f k)->d=1
theorem Pm.nz(h:Pm f):Nz f:=xad fun hn=>absurd (h 0 fun k=>by rw[Nz.not hn k];exact xcJ _) (by decide)
theorem zhS: ∀(n d:Nat),d<=n->2<=d-> ∃P,2<=P/\vB P/\P∣d
 |0,d,h,h2=>by omega
 |n+1,d,h,h2=>by
  by_cases hd:vB d
  ·exact⟨d,h2,hd,Nat.dvd_refl d⟩
  ·have: ∃e,2<=e/\e*e<=d/\d % e=0:=xad fun hn=>hd fun e e1 e2 e3=>hn ⟨e,e1,e2,e3⟩;obtain⟨e,e1,e2,e3⟩:=this;have e4:e<d:=by
    have:e*2<=e*e:=xaA e e1;omega
   obtain⟨P,p1,p2,p3⟩:=zhS n e (by omega) e1;exact⟨P,p1,p2,Nat.dvd_trans p3 (Nat.dvd_of_mod_eq_zero e3)⟩
theorem zdB{Q:Nat->Prop}(h: ∃i,Q i): ∃i,Q i/\ ∀k,k<i-> ¬Q k:=by
 obtain⟨i,hi⟩:=h;revert hi
 induction i using xdq with
 |ind i ih=>
  intro hi;by_cases hc: ∃k,k<i/\Q k
  ·obtain⟨k,hk,hq⟩:=hc;exact ih k hk hq
  ·exact⟨i,hi,fun k hk hq=>hc ⟨k,hk,hq⟩⟩
theorem Ah{P:Nat}(hp:2<=P)(hn:vB P){f g:Pz}{i:Nat}(hi: ¬(P:Int)∣f i)(ha: ∀k,k<i->(P:Int)∣f k)(h: ∀k,(P:Int)∣(f*g) k): ∀n j,j<n->(P:Int)∣g j
 |0,j,hj=>absurd hj (xbv _)
 |n+1,j,hj=>by
  have ih:=Ah hp hn hi ha h n;by_cases hb:j<n
  ·exact ih j hb
  ·have h2:(P:Int)∣zV (i+j+1) (fun a=>f a*g (i+j-a))-f i*g (i+j-i):=n4 (m:=(P:Int)) (f:=fun a=>f a*g (i+j-a)) (n:=i+j+1) (j:=i) (by omega) fun k hk hd=>by
    show(P:Int)∣f k*g (i+j-k);by_cases hc:k<i
    ·exact xbC (ha k hc) (xck _ _)
    ·exact xbC (ih _ (by omega)) (xcL _ _)
   have h3:=h (i+j);rw[xk]at h3;rw[show i+j-i=j by omega]at h2;have h4:=xdo h3 h2;rw[show∀x y:Int,x-(x-y)=y by intro x y;omega]at h4;rcases Cd hp hn h4 with h5|h5
   ·exact absurd h5 hi
   ·exact h5
theorem ziO{P:Nat}(hp:2<=P)(hn:vB P)(h: ∀k,(P:Int)∣(f*g) k):(∀k,(P:Int)∣f k)\/ ∀k,(P:Int)∣g k:=by
 by_cases hf: ∀k,(P:Int)∣f k
 ·exact .inl hf
 ·obtain⟨i,h1,h2⟩:=zdB (Q:=fun i=> ¬(P:Int)∣f i) (xfB.1 hf);exact .inr fun k=>Ah hp hn h1 (fun k hk=>Classical.not_not.1 (h2 k hk)) h (k+1) k (xbV k)
theorem Pm.mul(hf:Pm f)(hg:Pm g):Pm (f*g):=fun d hd=>by
 by_cases h1:d=1
 ·exact h1
 ·have: ∃P,2<=P/\vB P/\P∣d:=by
   by_cases h0:d=0
   ·exact⟨2,by decide,fun e e1 e2=>by have:2*2<=e*e:=xbE e1 e1;omega,by rw[h0];exact⟨0,rfl⟩⟩
   ·exact zhS d d (xac d) (by omega)
  obtain⟨P,p1,p2,p3⟩:=this;rcases ziO p1 p2 fun k=>xbC (xeh.2 p3) (hd k)with h|h
  ·have:=hf P h;omega
  ·have:=hg P h;omega
theorem Pm.left(h:Pm (u*v)):Pm u:=fun d hd=>h d fun k=>by
 rw[xk];exact KE fun i _=>xbC (hd i) (xck _ _)
theorem BJ{f:Nat->Int}{d:Nat}: ∀n,(∀k,k<n->d∣(f k).natAbs)->d∣ZL f n
 |0,_=>⟨0,rfl⟩
 |n+1,h=>Nat.dvd_gcd (BJ n fun k hk=>h k (by omega)) (h n (by omega))
theorem DN{f:Nat->Int}{c g:Nat}: ∀n,(∀k,k<n->c∣g*(f k).natAbs)->c∣g*ZL f n
 |0,_=>⟨0,rfl⟩
 |n+1,h=>by
  show c∣g*xeg (ZL f n) (f n).natAbs;rw[<-Nat.gcd_mul_left];exact Nat.dvd_gcd (DN n fun k hk=>h k (by omega)) (h n (by omega))
theorem du{n:Nat}(h: ∀k,n<=k->f k=0)(k:Nat):((ZL f n:Nat):Int)∣f k:=by
 by_cases hk:k<n
 ·exact xcm.1 (by rw[xbb];exact p9 f n k hk)
 ·rw[h k (by omega)];exact xcJ _
theorem Pm.ex(hf:Fs f)(h0:Nz f): ∃(c:Nat) (g:Pz),c≠0/\Fs g/\Pm g/\f=pc c*g:=by
 obtain⟨n,hn⟩:=hf;have ha:=du hn;obtain⟨c,hc⟩: ∃c,c=ZL f n:=⟨_,rfl⟩;rw[<-hc]at ha;have hb:c≠0:=fun e=>by
  obtain⟨j,hj⟩:=h0;have:=ha j;rw[e]at this;exact hj (Int.zero_dvd.1 this)
 have he:=Dp (n:=(c:Int)) (Cg.of_dvd ha);refine⟨c,pdv c f,hb,AX ⟨n,hn⟩,fun d hd=> ?_,he.symm⟩;have h1:c*d∣ZL f n:=BJ n fun k _=>by
  have h2:=congrFun he k;rw[zD]at h2;have h3:=xfJ (xdO (c:Int)) (hd k);rw[h2]at h3;have h4:=xcm.2 h3;rw[xcb,xbb,xbb]at h4;exact h4
 rw[<-hc]at h1;have h5:c*d∣c*1:=by rw[xcD];exact h1
 exact Nat.dvd_one.1 (Nat.dvd_of_mul_dvd_mul_left (by omega) h5)
theorem zhC{c:Int}(fq:Fs q)(hq:Pm q)(fw:Fs w)(h: ∀k,c∣(w*q) k)(k:Nat):c∣w k:=by
 by_cases h0:Nz w
 ·obtain⟨g,v,g0,fv,hv,rfl⟩:=Pm.ex fw h0;obtain⟨n,hn⟩:=fv.mul fq;have h2:ZL (v*q) n=1:=(hv.mul hq) _ (du hn);have h3:=DN (f:=v*q) (c:=c.natAbs) (g:=g) n fun k _=>by
   have:=xcm.2 (h k);rw[zb,zD,xcb,xbb]at this;exact this
  rw[h2,xcD]at h3;rw[zD];have h4:c∣(g:Int):=xcm.1 (by rw[xbb];exact h3);exact xbC h4 (xck _ _)
 ·rw[Nz.not h0 k];exact xcJ c
theorem Zd.pm{c:Int}(fq:Fs q)(hq:Pm q)(hc:c≠0)(h:Zd q (pc c*v)):Zd q v:=by
 obtain⟨w,fw,hw⟩:=h;have h1:=zhC fq hq fw (c:=c) fun k=>by rw[<-hw,zD];exact xck _ _
 have h2:=Dp (Cg.of_dvd h1);refine⟨pdv c w,AX fw,Oc hc ?_⟩;rw[hw,<-zb,h2]
theorem zaB{b:Pz}{m:Nat}(hb:Tp b m): ∀(n:Nat) (a:Pz),(∀k,n<=k->a k=0)-> ∃(c:Int) (q r:Pz),c≠0/\Fs q/\(∀k,m<=k->r k=0)/\pc c*a=q*b+r
 |0,a,h=>⟨1,pc 0,pc 0,by decide,Fs.pc 0,fun k _=>zM k,funext fun k=>by rw[zK,yg,zM,zD,h k (by omega)];rfl⟩
 |n+1,a,h=>by
  by_cases hn:n+1<=m
  ·exact⟨1,pc 0,a,by decide,Fs.pc 0,fun k hk=>h k (by omega),funext fun k=>by rw[zK,yg,zM,xcA,zt]⟩
  ·obtain⟨c,q,r,hc,fq,hr,he⟩:=zaB hb n (pc (b m)*a-mono (n-m) (a n)*b) fun k hk=>by
    rw[yA,Y3,zD];unfold sh;rw[zN];by_cases e:k=n
    ·rw[e,show n-(n-m)=m by omega,xbi];omega
    ·rw[h k (by omega),hb.2 (k-(n-m)) (by omega)];omega
   refine⟨c*b m,q+pc c*mono (n-m) (a n),r,xdt hc hb.1,fq.add ((Fs.pc c).mul ⟨n+1,fun k hk=>zx⟩),hr,?_⟩;rw[yj,<-qL,zb (pc c) (pc (b m)) a,zb (pc c) _ b];rw[w8]at he;funext k;have:=congrFun he k;simp only[zK,yA]at this⊢;omega
theorem zdZ(na:Nz a)(hb: ∀k,b k=0): ∃(d s t:Pz) (α β:Int),Nz d/\Fs s/\Fs t/\d=s*a+t*b/\α≠0/\β≠0/\Zd d (pc α*a)/\Zd d (pc β*b):=
 ⟨a,pc 1,pc 0,1,1,na,Fs.pc 1,Fs.pc 0,funext fun k=>by rw[zK,zt,yg,zM,xbx],by decide,by decide,⟨pc 1,Fs.pc 1,rfl⟩,⟨pc 0,Fs.pc 0,funext fun k=>by rw[zD,hb k,yg,zM];rfl⟩⟩
theorem ziK: ∀(n:Nat) (a b:Pz),Fs a->Nz a->(∀k,n<=k->b k=0)-> ∃(d s t:Pz) (α β:Int),Nz d/\Fs s/\Fs t/\d=s*a+t*b/\α≠0/\β≠0/\Zd d (pc α*a)/\Zd d (pc β*b):=by
 intro n
 induction n with
 |zero=>intro a b fa na hb;exact zdZ na fun k=>hb k (xaj k)
 |succ n ih=>
  intro a b fa na hb;by_cases nb:Nz b
  ·have fb:Fs b:=⟨n+1,hb⟩;obtain⟨m,hm⟩:=Tp.ex fb nb;have hf:m<=n:=by
    by_cases h:m<=n
    ·exact h
    ·exact absurd (hb m (by omega)) hm.1
   obtain⟨N,hN⟩:=fa;obtain⟨c,q,r,hc,fq,hr,he⟩:=zaB hm N a hN;obtain⟨d,s,t,α,β,nd,fs,ft,hd,hα,hβ,h1,h2⟩:=ih b r fb nb fun k hk=>hr k (by omega);have ha:r=pc c*a-q*b:=funext fun k=>by
    have:=congrFun he k;simp only[zK,yA]at this⊢;omega
   refine⟨d,t*pc c,s-t*q,α*β*c,α,nd,ft.mul (Fs.pc c),fs.subt (ft.mul fq),?_,xdt (xdt hα hβ) hc,hα,?_,h1⟩
   ·rw[hd,ha,w8,w7,<-zb,<-zb];funext k;simp only[zK,yA];omega
   ·have e:pc (α*β*c)*a=(pc β*q)*(pc α*b)+pc α*(pc β*r):=by rw[<-qL (α*β) c,zb (pc (α*β)) (pc c) a,he,xw,<-qL α β,zb (pc β) q,zy q (pc α) b,zy (pc β) (pc α),zb (pc α) (pc β),zb (pc α) (pc β)]
    rw[e];exact(h1.mul _ ((Fs.pc β).mul fq)).add (h2.mul _ (Fs.pc α))
  ·exact zdZ na (Nz.not nb)
theorem zhL(fa:Fs a)(na:Nz a)(fb:Fs b): ∃(g s t:Pz) (γ:Int),Fs g/\Pm g/\Fs s/\Fs t/\γ≠0/\pc γ*g=s*a+t*b/\Zd g a/\Zd g b:=by
 obtain⟨n,hn⟩:=fb;obtain⟨d,s,t,α,β,nd,fs,ft,hd,hα,hβ,h1,h2⟩:=ziK n a b fa na hn;have fd:Fs d:=by rw[hd];exact(fs.mul fa).add (ft.mul ⟨n,hn⟩)
 obtain⟨c,g,hc,fg,hg,he⟩:=Pm.ex fd nd;have ha:Zd g d:=⟨pc c,Fs.pc c,he⟩;exact⟨g,s,t,c,fg,hg,fs,ft,by omega,he.symm.trans hd,Zd.pm fg hg hα (ha.trans h1),Zd.pm fg hg hβ (ha.trans h2)⟩
def JN(u:Pz):Prop:= ∀k,1<=k->u k=0
theorem JN.ex(h:JN u): ∃c,u=pc c:=⟨u 0,funext fun k=>by
 unfold pc;by_cases e:k=0
 ·rw[iq e,e]
 ·rw[ir e];exact h k (by omega)⟩
theorem dc{c:Int}(h:Pm (pc c)):c=1\/c= -1:=by
 have h1:=h c.natAbs fun k=>by
  unfold pc;split
  ·exact Int.natAbs_dvd.2 (xdO _)
  ·exact xcJ _
 omega
structure Ir(q:Pz):Prop where
 fs:Fs q
 pm:Pm q
 dg: ¬JN q
 ir: ∀u v,Fs u->Fs v->q=u*v->JN u\/JN v
theorem Ir.prime(hq:Ir q)(fu:Fs u)(fv:Fs v)(h:Zd q (u*v)):Zd q u\/Zd q v:=by
 obtain⟨g,s,t,γ,fg,hg,fs,ft,hγ,he,⟨w,fw,hw⟩,x,fx,hx⟩:=zhL hq.fs hq.pm.nz fu;rcases hq.ir w g fw fg hw with hc|hc
 ·left;obtain⟨c,rfl⟩:=hc.ex;have ha:Pm (pc c):=(hw▸hq.pm:Pm (pc c*g)).left;refine⟨x*pc c,fx.mul (Fs.pc c),?_⟩;have hb:c*c=1:=by rcases dc ha with e|e<;>rw[e]<;>rfl
  rw[hw,zb,<-zb (pc c) (pc c) g,qL,hb,zt,hx]
 ·right;obtain⟨c,rfl⟩:=hc.ex;have hd:c≠0:=fun e=>by
   have:=dc hg;omega
  refine Zd.pm (c:=γ*c) hq.fs hq.pm (xdt hγ hd) ?_;rw[<-qL,he,yj];refine Zd.add ⟨s*v,fs.mul fv,?_⟩ ?_
  ·rw[zb,zb,zg q v]
  ·rw[zb];exact h.mul t ft
def Po(q:Pz):Prop:= ∃n,0<q n/\ ∀k,n<k->q k=0
theorem Po.tp(h:Po q): ∃n,Tp q n/\0<q n:=by
 obtain⟨n,h1,h2⟩:=h;exact⟨n,⟨by omega,h2⟩,h1⟩
theorem Ir.eq{r:Pz}(hq:Ir q)(hr:Ir r)(pq:Po q)(pr:Po r)(h:Zd q r):q=r:=by
 obtain⟨w,fw,hw⟩:=h;rcases hr.ir w q fw hq.fs hw with hc|hc
 ·obtain⟨c,rfl⟩:=hc.ex;have ha:Pm (pc c):=(hw▸hr.pm:Pm (pc c*q)).left;rcases dc ha with e|e
  ·rw[hw,e,zt]
  ·obtain⟨n,h1,h2⟩:=pq.tp;obtain⟨m,h3,h4⟩:=pr.tp;have h5:Tp (pc c*q) n:=⟨by rw[zD,e];omega,fun k hk=>by rw[zD,h1.2 k hk,xas]⟩;rw[<-hw]at h5;obtain rfl:=h5.uniq h3;rw[hw,zD,e]at h4;omega
 ·exact absurd hc hq.dg
theorem JN.tp{n:Nat}(h:Tp u n):JN u↔n=0:=⟨fun hc=>xad fun e=>h.1 (hc n (by omega)),fun e k hk=>h.2 k (by omega)⟩
theorem Po.or(fu:Fs u)(h:Nz u):Po u\/Po (pc (-1)*u):=by
 obtain⟨n,hn⟩:=Tp.ex fu h;have:=hn.1;by_cases hp:0<u n
 ·exact .inl ⟨n,hp,hn.2⟩
 ·exact .inr ⟨n,by rw[zD];omega,fun k hk=>by rw[zD,hn.2 k hk,xas]⟩
theorem Pm.neg(h:Pm u):Pm (pc (-1)*u):=fun d hd=>h d fun k=>by
 have:=hd k;rw[zD,Int.neg_mul,xbX]at this;exact xfK.1 this
theorem Ir.neg{u:Pz}(h:Ir u):Ir (pc (-1)*u):=by
 refine⟨(Fs.pc _).mul h.fs,h.pm.neg,fun hc=>h.dg fun k hk=> ?_,fun a b fa fb e=> ?_⟩
 ·have:=hc k hk;rw[zD]at this;omega
 ·have:u=(pc (-1)*a)*b:=by
   rw[zb,<-e,<-zb,qL];exact(zt u).symm
  rcases h.ir _ b ((Fs.pc _).mul fa) fb this with hc|hc
  ·left;intro k hk;have:=hc k hk;rw[zD]at this;omega
  ·exact .inr hc
theorem Ir.ex: ∀(n:Nat) {f:Pz} {m:Nat},m<=n->Tp f m->Pm f->1<=m-> ∃q,Ir q/\Po q/\Zd q f
 |0,f,m,h,_,_,h1=>by omega
 |n+1,f,m,h,ht,hp,h1=>by
  by_cases hi:Ir f
  ·rcases Po.or hi.fs hp.nz with h2|h2
   ·exact⟨f,hi,h2,Zd.refl f⟩
   ·refine⟨_,hi.neg,h2,pc (-1),Fs.pc _,?_⟩;rw[<-zb,qL];exact(zt f).symm
  ·have: ∃u v,Fs u/\Fs v/\f=u*v/\ ¬JN u/\ ¬JN v:=xad fun hn=>hi ⟨ht.fs,hp,fun hc=>by have:=(JN.tp ht).1 hc;omega,fun u v fu fv e=>xad fun hc=>hn ⟨u,v,fu,fv,e,fun h=>hc (.inl h),fun h=>hc (.inr h)⟩⟩;obtain⟨u,v,fu,fv,e,cu,cv⟩:=this;have hu:Pm u:=(e▸hp:Pm (u*v)).left;have hv:Pm v:=by rw[e,zg]at hp;exact hp.left
   obtain⟨a,ha⟩:=Tp.ex fu hu.nz;obtain⟨b,hb⟩:=Tp.ex fv hv.nz;have hm:=(ha.mul hb);rw[<-e]at hm;have hm:=hm.uniq ht;have hd:b≠0:=fun h=>cv ((JN.tp hb).2 h);have he:a≠0:=fun h=>cu ((JN.tp ha).2 h);obtain⟨q,q1,q2,q3⟩:=Ir.ex n (by omega) ha hu (by omega);exact⟨q,q1,q2,q3.trans (by rw[e];exact Zd.left fv)⟩
end
section
variable{f q:Pz}{m:Nat}{l:List (List Zr×Int)}{a b:List Zr}
theorem Pm.one:Pm (pc 1):=fun d hd=>by
 have:=hd 0;unfold pc at this;rw[iq rfl]at this;exact Nat.dvd_one.1 (xeh.1 this)
theorem Pm.pp{q:Pz}(h:Pm q): ∀n,Pm (pp q n)
 |0=>Pm.one
 |n+1=>(Pm.pp h n).mul h
theorem Po.mul{g:Pz}(hf:Po f)(hg:Po g):Po (f*g):=by
 obtain⟨n,h1,h2⟩:=hf;obtain⟨m,h3,h4⟩:=hg;exact⟨n+m,by rw[Xi h2 h4];exact Int.mul_pos h1 h3,fun k hk=>vA (n:=n+1) (m:=m+1) (fun j hj=>h2 j (by omega)) (fun j hj=>h4 j (by omega)) (by omega)⟩
theorem Po.one:Po (pc 1):=⟨0,by decide,fun k hk=>by unfold pc;rw[zx]⟩
theorem Po.pp{q:Pz}(h:Po q): ∀n,Po (pp q n)
 |0=>Po.one
 |n+1=>(Po.pp h n).mul h
theorem Ir.one(h:Ir q): ¬Zd q (pc 1):=fun⟨w,fw,e⟩=>by
 obtain⟨a,ha⟩:=Tp.ex h.fs h.pm.nz;have hw:Nz w:=xad fun hn=>by
  have:=congrFun e 0;rw[xk,yF fun k _=>by rw[Nz.not hn k,xaQ]]at this;exact absurd this (by decide)
 obtain⟨b,hb⟩:=Tp.ex fw hw;have h1:=hb.mul ha;rw[<-e]at h1;have h2:=h1.uniq (m:=0) ⟨by decide,fun k hk=>by unfold pc;rw[zx]⟩;exact h.dg ((JN.tp ha).2 (by omega))
def Mu(q f:Pz)(n:Nat):Prop:= ∃u,Fs u/\f=u*pp q n/\ ¬Zd q u
theorem Mu.ex{q:Pz}(hq:Ir q)(m:Nat): ∀{f:Pz},Tp f m-> ∃n,n<=m/\Mu q f n:=by
 induction m using xdq with
 |ind m ih=>
  intro f hf;by_cases hd:Zd q f
  ·obtain⟨u,fu,e⟩:=hd;have hu:Nz u:=xad fun hn=>by
    refine hf.1 ?_;rw[e,xk,yF fun k _=>by rw[Nz.not hn k,xaQ]]
   obtain⟨a,ha⟩:=Tp.ex fu hu;obtain⟨b,hb⟩:=Tp.ex hq.fs hq.pm.nz;have h1:=ha.mul hb;rw[<-e]at h1;have h1:=h1.uniq hf;have hc:b≠0:=fun h=>hq.dg ((JN.tp hb).2 h);obtain⟨n,hn,v,fv,e2,hv⟩:=ih a (by omega) ha;refine⟨n+1,by omega,v,fv,?_,hv⟩;show f=v*(pp q n*q);rw[e,e2,zb]
  ·exact⟨0,xaj m,f,hf.fs,(zL f).symm,hd⟩
theorem Mu.mul{q f g:Pz}{n m:Nat}(hq:Ir q)(hf:Mu q f n)(hg:Mu q g m):Mu q (f*g) (n+m):=by
 obtain⟨u,fu,rfl,hu⟩:=hf;obtain⟨v,fv,rfl,hv⟩:=hg;refine⟨u*v,fu.mul fv,?_,fun h=> ?_⟩
 ·rw[fF,zb,zb,zy (pp q n)]
 ·rcases hq.prime fu fv h with h|h
  ·exact hu h
  ·exact hv h
theorem Mu.lt{n:Nat}(hq:Ir q)(h:Mu q f n)(g:Mu q f m): ¬n<m:=fun ha=>by
 obtain⟨u,fu,e1,hu⟩:=h;obtain⟨v,fv,e2,hv⟩:=g;obtain⟨d,rfl⟩: ∃d,m=d+1+n:=⟨m-1-n,by omega⟩;have fp:=hq.fs.pp (n:=n);refine hu ⟨v*pp q d,fv.mul (hq.fs.pp d),?_⟩;refine mz fu ((fv.mul (hq.fs.pp d)).mul hq.fs) (hq.fs.pp n) (hq.pm.pp n).nz ?_;rw[<-e1,e2,fF,zb (v*pp q d),zb v];show v*(pp q d*q*pp q n)=_;rw[zb (pp q d)]
theorem Mu.uniq{n:Nat}(hq:Ir q)(h:Mu q f n)(g:Mu q f m):n=m:=by
 have:=h.lt hq g;have:=g.lt hq h;omega
theorem Mu.zero(ff:Fs f)(h: ¬Zd q f):Mu q f 0:=⟨f,ff,(zL f).symm,h⟩
theorem Mu.dvd{n:Nat}(hq:Fs q)(h:Mu q f n)(hn:1<=n):Zd q f:=by
 obtain⟨u,fu,rfl,_⟩:=h;obtain⟨k,rfl⟩: ∃k,n=k+1:=⟨n-1,by omega⟩;exact⟨u*pp q k,fu.mul (hq.pp k),by rw[zb];rfl⟩
theorem Mu.self(hq:Ir q)(n:Nat):Mu q (pp q n) n:=⟨pc 1,Fs.pc 1,(zt _).symm,hq.one⟩
theorem Ir.pp{q r:Pz}(hq:Ir q)(hr:Fs r): ∀n,Zd q (pp r n)->Zd q r
 |0,h=>absurd h hq.one
 |n+1,h=>by
  rcases hq.prime (hr.pp n) hr h with h|h
  ·exact Ir.pp hq hr n h
  ·exact h
theorem Ir.prz{q:Pz}(hq:Ir q): ∀{l:List Pz},(∀r∈l,Fs r)->Zd q (prZ l)-> ∃r,r∈l/\Zd q r
 |[],_,h=>absurd h hq.one
 |r::l,hl,h=>by
  rcases hq.prime (hl r (FS)) (Fs.prZ fun x hx=>hl x (H1 _ hx)) h with h|h
  ·exact⟨r,FS,h⟩
  ·obtain⟨x,hx,h⟩:=Ir.prz hq (fun x hx=>hl x (H1 _ hx)) h;exact⟨x,H1 _ hx,h⟩
def prM:List (Pz×Nat)->Pz
 |[]=>pc 1
 |x::r=>pp x.1 x.2*prM r
theorem oH: ∀{l:List (Pz×Nat)},(∀x∈l,Fs x.1)->Fs (prM l)
 |[],_=>Fs.pc 1
 |x::r,h=>((h x (FS)).pp _).mul (oH fun y hy=>h y (H1 _ hy))
theorem O2{q:Pz}(hq:Ir q)(pq:Po q): ∀{l:List (Pz×Nat)},(∀x∈l,Ir x.1/\Po x.1/\q≠x.1)-> ¬Zd q (prM l)
 |[],_,h=>hq.one h
 |x::r,hl,h=>by
  obtain⟨h1,h2,h3⟩:=hl x (FS);have hr:=fun y hy=>hl y (H1 _ hy);rcases hq.prime (h1.fs.pp _) (oH fun y hy=>(hr y hy).1.fs) h with h|h
  ·exact h3 (hq.eq h1 pq h2 (hq.pp h1.fs _ h))
  ·exact O2 hq pq hr h
theorem mus{f:Pz}(ff:Fs f)(nf:Nz f): ∀{l:List (Pz×Nat)},l.Pairwise (fun x y=>x.1≠y.1)->(∀x∈l,Ir x.1/\Po x.1/\Mu x.1 f x.2)-> ∃u,Fs u/\f=u*prM l/\ ∀x∈l,¬Zd x.1 u
 |[],_,_=>⟨f,ff,(zL f).symm,fun _ h=>absurd h xaa⟩
 |x::r,hp,h=>by
  obtain⟨h1,h2,h3⟩:=h x (FS);rw[xcM]at hp;have hr:=fun y hy=>h y (H1 _ hy);obtain⟨u,fu,e,hu⟩:=mus ff nf hp.2 hr;have nu:Nz u:=xad fun hn=>by
   obtain⟨k,hk⟩:=nf;rw[e,xk,yF fun k _=>by rw[Nz.not hn k,xaQ]]at hk;exact hk rfl
  obtain⟨m,hm⟩:=Tp.ex fu nu;obtain⟨n,_,hn⟩:=Mu.ex h1 m hm;have h4:=Mu.zero (oH fun y hy=>(hr y hy).1.fs) (O2 h1 h2 fun y hy=>⟨(hr y hy).1,(hr y hy).2.1,hp.1 y hy⟩);have h5:=hn.mul h1 h4;rw[<-e]at h5;obtain rfl:n=x.2:=(h5.uniq h1 h3);obtain⟨w,fw,e2,hw⟩:=hn;refine⟨w,fw,?_,fun y hy=> ?_⟩
  ·show f=w*(pp x.1 x.2*prM r);rw[<-zb,<-e2,e]
  ·rcases xae.1 hy with rfl|hy
   ·exact hw
   ·exact fun hz=>hu y hy (by rw[e2,zg];exact hz.mul _ (h1.fs.pp _))
theorem P7: ∀{l:List (Pz×Nat)},(∀x∈l,Pm x.1)->Pm (prM l)
 |[],_=>Pm.one
 |x::r,h=>((h x (FS)).pp _).mul (P7 fun y hy=>h y (H1 _ hy))
theorem za1: ∀{l:List (Pz×Nat)},(∀x∈l,Po x.1)->Po (prM l)
 |[],_=>Po.one
 |x::r,h=>((h x (FS)).pp _).mul (za1 fun y hy=>h y (H1 _ hy))
theorem zbz(ff:Fs f)(nf:Nz f){l:List (Pz×Nat)}(hp:l.Pairwise fun x y=>x.1≠y.1)(h: ∀x∈l,Ir x.1/\Po x.1/\Mu x.1 f x.2)(ha: ∀q,Ir q->Po q->Zd q f-> ∃x∈l,x.1=q): ∃c,c≠0/\f=pc c*prM l:=by
 obtain⟨u,fu,e,hu⟩:=mus ff nf hp h;have nu:Nz u:=xad fun hn=>by
  obtain⟨k,hk⟩:=nf;rw[e,xk,yF fun k _=>by rw[Nz.not hn k,xaQ]]at hk;exact hk rfl
 obtain⟨c,g,hc,fg,hg,rfl⟩:=Pm.ex fu nu;obtain⟨m,hm⟩:=Tp.ex fg hg.nz;by_cases h1:1<=m
 ·obtain⟨q,q1,q2,q3⟩:=Ir.ex m (xac m) hm hg h1;have q4:Zd q (pc (c:Int)*g):=q3.mul _ (Fs.pc _);obtain⟨x,hx,rfl⟩:=ha q q1 q2 (by rw[e,zg];exact q4.mul _ (oH fun y hy=>(h y hy).1.fs));exact absurd q4 (hu x hx)
 ·obtain⟨d,rfl⟩:=((JN.tp hm).2 (by omega)).ex;refine⟨c*d,xdt (by omega) ?_,by rw[e,qL]⟩;rintro rfl;have:=dc hg;omega
def Au(f g:Nat->Int):Nat->Int
 |0=>0
 |n+1=>if f n=g n then Au f g n else if f n<g n then-1 else 1
theorem Gy(f g:Nat->Int): ∀n,Au g f n= -Au f g n
 |0=>rfl
 |n+1=>by
  unfold Au;by_cases h:f n=g n
  ·rw[iq h,iq h.symm];exact Gy f g n
  ·rw[ir h,ir (fun e=>h e.symm)];by_cases h2:f n<g n
   ·rw[iq h2,zx];rfl
   ·rw[ir h2,zN]
theorem EN(f g:Nat->Int): ∀n,Au f g n=0-> ∀k,k<n->f k=g k
 |0,_,k,h=>absurd h (xbv _)
 |n+1,h,k,hk=>by
  unfold Au at h;by_cases h1:f n=g n
  ·rw[iq h1]at h;by_cases e:k=n
   ·rw[e,h1]
   ·exact EN f g n h k (by omega)
  ·rw[ir h1]at h;split at h<;>exact absurd h (by decide)
theorem AF(f g h:Nat->Int): ∀n,Au f g n<=0->Au g h n<=0->Au f h n<=0
 |0,_,_=>xeS 0
 |n+1,h1,h2=>by
  unfold Au at h1 h2⊢;by_cases e1:f n=g n
  ·rw[iq e1]at h1;by_cases e2:g n=h n
   ·rw[iq e2]at h2;rw[iq (e1.trans e2)];exact AF f g h n h1 h2
   ·rw[ir e2]at h2;rw[ir (fun e=>e2 (by omega)),e1];exact h2
  ·rw[ir e1]at h1;have h3:f n<g n:=xad fun hn=>by rw[ir hn]at h1;omega
   by_cases e2:g n=h n
   ·rw[ir (fun e=>e1 (by omega)),zN];omega
   ·rw[ir e2]at h2;have h4:g n<h n:=xad fun hn=>by rw[ir hn]at h2;omega
    rw[zx,zN];omega
def Xp(a b:List Zr):Int:=if a.length=b.length then Au (cf a) (cf b) a.length else if a.length<b.length then-1 else 1
theorem uR(a b:List Zr):Xp b a= -Xp a b:=by
 unfold Xp;by_cases h:a.length=b.length
 ·rw[iq h,iq h.symm,<-h];exact Gy _ _ _
 ·rw[ir h,ir (fun e=>h e.symm)];by_cases h2:a.length<b.length
  ·rw[iq h2,zx];rfl
  ·rw[ir h2,zN]
theorem IG{c:List Zr}(h1:Xp a b<=0)(h2:Xp b c<=0):Xp a c<=0:=by
 unfold Xp at h1 h2⊢;by_cases e1:a.length=b.length
 ·rw[iq e1]at h1;by_cases e2:b.length=c.length
  ·rw[iq e2,<-e1]at h2;rw[iq (e1.trans e2)];exact AF _ _ _ _ h1 h2
  ·rw[ir e2]at h2;rw[ir (fun e=>e2 (by omega)),e1];exact h2
 ·rw[ir e1]at h1;have h3:a.length<b.length:=xad fun hn=>by rw[ir hn]at h1;omega
  by_cases e2:b.length=c.length
  ·rw[ir (fun e=>e1 (by omega)),zN];omega
  ·rw[ir e2]at h2;have h4:b.length<c.length:=xad fun hn=>by rw[ir hn]at h2;omega
   rw[zx,zN];omega
theorem Wc(ha:yb a=a)(hb:yb b=b)(h: ∀k,cf a k=cf b k):a=b:=by
 rw[<-ha,<-hb];exact Uc (fun k hk=>z6 hk) (fun k hk=>z6 hk) h
theorem NZ(ha:yb a=a)(hb:yb b=b)(h:Xp a b=0):a=b:=by
 unfold Xp at h;by_cases e:a.length=b.length
 ·rw[iq e]at h;have h1:=EN _ _ _ h;refine Wc ha hb fun k=> ?_;by_cases hk:k<a.length
  ·exact h1 k hk
  ·rw[z6 (by omega),z6 (by omega)]
 ·rw[ir e]at h;split at h<;>exact absurd h (by decide)
theorem nj{α:Type}{R:α->α->Prop}(ha: ∀x y,R x y-> ¬R y x): ∀{l m:List α},l.Pairwise R->m.Pairwise R->(∀x,x∈l↔x∈m)->l=m
 |[],[],_,_,_=>rfl
 |[],y::m,_,_,h=>absurd ((h y).2 (FS)) xaa
 |x::l,[],_,_,h=>absurd ((h x).1 (FS)) xaa
 |x::l,y::m,hl,hm,h=>by
  rw[xcM]at hl hm;have e:x=y:=by
   rcases xae.1 ((h x).1 (FS))with e|e
   ·exact e
   ·rcases xae.1 ((h y).2 (FS))with e2|e2
    ·exact e2.symm
    ·exact absurd (hl.1 y e2) (ha _ _ (hm.1 x e))
  subst e;rw[nj ha hl.2 hm.2 fun z=>⟨fun hz=>by
   rcases xae.1 ((h z).1 (H1 _ hz))with e|e
   ·subst e;exact absurd (hl.1 z hz) (ha _ _ (hl.1 z hz))
   ·exact e,fun hz=>by
   rcases xae.1 ((h z).2 (H1 _ hz))with e|e
   ·subst e;exact absurd (hm.1 z hz) (ha _ _ (hm.1 z hz))
   ·exact e⟩]
structure FL(f:Pz)(l:List (List Zr×Int)):Prop where
 el: ∀x∈l,yb x.1=x.1/\Ir (cf x.1)/\Po (cf x.1)/\1<=x.2/\Mu (cf x.1) f x.2.toNat
 al: ∀q,Ir q->Po q->Zd q f-> ∃x∈l,cf x.1=q
 so:l.Pairwise fun x y=>Xp x.1 y.1<0
theorem FL.sub{m:List (List Zr×Int)}(h:FL f l)(g:FL f m){x:List Zr×Int}(hx:x∈l):x∈m:=by
 obtain⟨h1,h2,h3,h4,h5⟩:=h.el x hx;obtain⟨y,hy,e⟩:=g.al _ h2 h3 (h5.dvd h2.fs (by omega));obtain⟨g1,g2,g3,g4,g5⟩:=g.el y hy;have e1:y.1=x.1:=Wc g1 h1 fun k=>congrFun e k;rw[e1]at g5;have e2:=g5.uniq h2 h5;have:y=x:=xeL e1 (by omega);rw[<-this];exact hy
theorem FL.uniq{m:List (List Zr×Int)}(h:FL f l)(g:FL f m):l=m:=
 nj (fun x y h1 h2=>by rw[uR]at h2;omega) h.so g.so fun x=>⟨fun hx=>h.sub g hx,fun hx=>g.sub h hx⟩
end
end Go.Proofs.YtmggkmchbdanfaaGreat
