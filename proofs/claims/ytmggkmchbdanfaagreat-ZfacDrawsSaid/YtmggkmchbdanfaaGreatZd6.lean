/- What a proof needs: rules of walking, mirrors of functions and their plain laws. No condition. -/
import Derived.Test.YtmggkmchbdanfaaGreatZd5
set_option linter.unusedVariables false
set_option linter.unusedSimpArgs false
namespace Go.Proofs.YtmggkmchbdanfaaGreat
open Bool renaming false_eq_true->xah
open Classical renaming byContradiction->xaf,choose_spec->xfv,not_forall->xfB
open Int renaming add_comm->xfu,add_emod->xdM,add_mul_emod_self_left->xeB,add_zero->xbx,dvd_mul_left->xcK,dvd_mul_right->xcj,dvd_of_emod_eq_zero->xaG,dvd_refl->xdN,dvd_sub->xdo,dvd_trans->xbB,dvd_zero->xcJ,emod_emod->xaC,emod_emod_of_dvd->xcC,emod_eq_emod_iff_emod_sub_eq_zero->xaH,emod_eq_of_lt->xaz,emod_eq_zero_of_dvd->xax,emod_lt_of_pos->xdu,emod_nonneg->xcP,eq_ofNat_of_zero_le->xaB,le_refl->xfl,mul_add->xeP,mul_assoc->xbG,mul_comm->xbi,mul_dvd_mul->xfJ,mul_emod->xbq,mul_eq_zero->xev,mul_le_mul_of_nonneg_left->xaW,mul_ne_zero->xew,mul_neg->xes,mul_nonneg->xcy,mul_one->xce,mul_zero->xat,natAbs_dvd_natAbs->xcl,natAbs_ediv_le_natAbs->xdp,natAbs_mul->xcr,natAbs_natCast->xbc,natCast_add->xdU,natCast_dvd_natCast->xef,one_mul->xbY,pow_nonneg->xfn,pow_succ->xbk,pow_zero->xbs,sub_mul->xfK,sub_self->xcV,sub_zero->xcB,tdiv->xda,tdiv_eq_ediv_of_nonneg->xdE,tmod->xbX,toNat_natCast->xaR,toNat_of_nonneg->xcT,zero_add->xcA,zero_ediv->xfC,zero_emod->xag,zero_mul->xaU
open List renaming all_eq_true->xaP,append_assoc->xak,append_nil->xbK,append_of_mem->xdO,cons_append->xbN,drop->xdv,ext_getElem?->xcv,filter_cons->xdh,getD_eq_getElem?_getD->UV,getElem?_append_left->xbn,getElem?_append_right->xci,getElem?_drop->xel,getElem?_eq_getElem->IR,getElem?_eq_none->xaI,getElem?_map->xaA,getElem?_range->xbg,getElem?_set->xdX,getElem?_take->xbT,getElem_mem->xbh,getElem_of_mem->xcF,length->xaF,length_append->xau,length_cons->xav,length_drop->xbO,length_eq_zero_iff->xbF,length_filter_le->xfw,length_map->xaM,length_nil->xcq,length_pos_of_mem->xff,length_range->xcx,length_set->xcG,length_take->xay,map_append->xaN,map_congr_left->xbL,map_cons->xbP,map_map->xcM,mem_append->xaa,mem_append_left->xdy,mem_append_right->xdP,mem_cons->xad,mem_cons_of_mem->H1,mem_cons_self->FS,mem_filter->xbW,mem_iff_getElem->xdx,mem_map->xal,mem_map_of_mem->xbM,mem_of_mem_drop->xeD,mem_of_mem_take->xeC,mem_range->xaQ,mem_singleton->xai,nodup_cons->xfa,not_mem_nil->Nm,pairwise_append->xdg,pairwise_cons->xcZ,pairwise_iff_forall_sublist->xdj,pairwise_iff_getElem->xcz,pairwise_map->xez,perm_middle->xcp,range->xbb,range_succ->xdC,replicate->xae,set_append_right->xfs,take->xdr,take_append_drop->xbR,take_of_length_le->xaX
open List.Perm renaming append_left->xbZ,refl->xdA
open Nat renaming add_assoc->xcW,add_comm->xdz,add_mul->xaV,beq->xan,div_div_eq_div_mul->xaY,div_eq_of_lt->xca,div_one->xeO,eq_of_beq_eq_true->xcH,eq_zero_or_pos->xcL,gcd->xee,gcd_comm->xeu,le_antisymm->xcO,le_of_not_lt->xbw,le_refl->xac,le_trans->xao,lt_of_le_of_lt->xbe,lt_of_lt_of_le->xap,lt_of_not_le->xdI,lt_succ_self->xbV,min_eq_left->xcX,mod_eq_of_lt->xaE,mod_lt->xbp,mul_add->xbm,mul_comm->xba,mul_le_mul->xbU,mul_le_mul_left->xaJ,mul_le_mul_right->xas,mul_one->xcD,not_lt_zero->xbv,one_mul->xcm,pos_of_ne_zero->xcE,pow_add->xcd,pow_le_pow_right->xaK,pow_lt_pow_right->xfA,pow_mul->xdc,pow_pos->xbo,pow_succ->xbu,pow_zero->xeR,strongRecOn->xdq,sub_self->xcU,zero_add->xaS,zero_le->xaj
open Option renaming getD_some->xdH
open Prod renaming ext->xeJ
theorem za2{k:Nat}{p:Int}(hp:wB p=true)(hq:1<=k)(hk:k<=1000): ∀(n:Nat) {fu:Nat} {f:List Zr} {fs:List (List Int)},fs.length=n->1<=n->n<=66->3000002+n<=fu->
 Rd 250 (p^k) f->0<f.length->f.length<=66->cf f (f.length-1) % p≠0->(∀g∈fs,Gz p g/\g.length<=66)->fs.Pairwise (fun a b=>qD p (ci a) (ci b))->Cg p (cf f) (pc (cf f (f.length-1))*prZ (fs.map ci))->
 ∃us,wO fu f fs p (k:Int) (yP (p^k))=some us/\ni (Up p k) us fs/\Cg (p^k) (cf f) (pc (cf f (f.length-1))*prZ (us.map fun u=>(cf u:Pz))):=by
 intro n
 induction n using xdq with
 |_ n ih=>
 intro fu f fs hn h7 h8 h9 hF hj h' hb hC XU hr;obtain⟨p1,p2⟩:=zo hp;obtain⟨F,rfl⟩: ∃F,fu=F+1:=⟨fu-1,by omega⟩;have hf:3000000<F:=by omega
 have hm2:=ae hp hq;have hH:p∣p^k:=qQ hq;unfold wO;by_cases h1:n=1
 ·obtain⟨g,rfl⟩: ∃g,fs=[g]:=by
   match fs,hn with
   |[g],_=>exact⟨g,rfl⟩
   |[],h=>simp at h;omega
   |_::_::_,h=>simp at h;omega
  obtain⟨hg,hgl⟩:=hC g (by simp);obtain⟨w,u,e1,e2,e3,e4,e5,e6⟩:=gu (fu:=F) hp hq hk hF hj (by omega) hb (by omega);have hu:Cg (p^k) (pc (cf f (f.length-1))*pc u) (pc 1):=fun j=>by
   rw[jX,xbi];unfold pc;split
   ·rw[e5];exact(xaz (by decide) (by omega)).symm
   ·rfl
  have hD:Cg (p^k) (cf f) (pc (cf f (f.length-1))*cf w):=by
   refine Cg.symm ((Cg.rfl.mul e6).trans ?_);rw[<-zd];exact(hu.mul Cg.rfl).trans (Cg.of (zy _))
  have hw: ∀x:Pz,prZ [x]=x:=fun x=>zY x;have hE:Cg p (cf w) (ci g):=by
   refine(e6.down hH).trans ?_;have h2:Cg p (pc u*cf f) (pc u*(pc (cf f (f.length-1))*ci g)):=Cg.rfl.mul (hr.trans (Cg.of (by show _*prZ [ci g]=_;rw[hw])));refine h2.trans ?_;rw[<-zd,zg (pc u)];exact((hu.down hH).mul Cg.rfl).trans (Cg.of (zy _))
  have hP:w.length=g.length:=by
   have hgf:=hg.fp (p:=p) (by omega);refine xcO (xbw fun hQ=> ?_) (xbw fun hQ=> ?_)
   ·have h2:=hE (w.length-1);rw[e4,zP (by omega),xag,xaz (by decide) (by omega)]at h2;cases h2
   ·have h2:=hE (g.length-1);rw[hg.2.2,yb (by omega),xag,xaz (by decide) (by omega)]at h2;cases h2
  rw[iq (by simp),za e1];refine⟨[w],rfl,⟨⟨e2,hP,e4,hE⟩,trivial⟩,?_⟩;show Cg _ _ (_*prZ [(cf w:Pz)]);rw[hw];exact hD
 ·obtain⟨ha,hR⟩: ∃h,h=n/2:=⟨_,rfl⟩;obtain⟨c,hc⟩: ∃c,c=cf f (f.length-1):=⟨_,rfl⟩;have h6:fs.length<=66:=by omega
  have hy:fs=fs.take ha++fs.drop ha:=(xbR ha fs).symm;have hS:(fs.take ha).length=ha:=by rw[xay];omega
  have hT:(fs.drop ha).length=n-ha:=by rw[xbO];omega
  have hs: ∀g∈fs.take ha,Gz p g/\g.length<=66:=fun g hg=>hC g (xeC hg);have hl: ∀g∈fs.drop ha,Gz p g/\g.length<=66:=fun g hg=>hC g (xeD hg);rw[hy]at XU hr;obtain⟨pwA,pwB,pwAB⟩:=xdg.1 XU;rw[xaN,xK,<-hc]at hr;have hJ:=yg (a:=c) (p:=p) (by omega);rw[<-hc]at hb;have hU: ∀g∈fs.take ha,Fp p g:=fun g hg=>(hs g hg).1.fp (by omega);have hV: ∀g∈fs.drop ha,Fp p g:=fun g hg=>(hl g hg).1.fp (by omega);have prodA:=cF p (fs.take ha);have prodB:=cF p (fs.drop ha);have monB:=N8 (p:=p) p1 (fs:=fs.drop ha) fun g hg=>(hl g hg).1;have lenA:=Ka (p:=p) (fs:=fs.take ha) (M:=66) fun g hg=>(hs g hg).2;have lenB:=Ka (p:=p) (fs:=fs.drop ha) (M:=66) fun g hg=>(hl g hg).2;have b1:(fs.take ha).length*66<=66*66:=xas _ (by omega);have b2:(fs.drop ha).length*66<=66*66:=xas _ (by omega);have hK:=ZQ (p:=p) (x:=c % p) (by omega) hJ.2;obtain⟨g0,hG⟩: ∃g0,g0=y4 p (Xz p (fs.take ha)) [c % p]:=⟨_,rfl⟩;obtain⟨h0,ht⟩: ∃h0,h0=Xz p (fs.drop ha):=⟨_,rfl⟩;have hd:Fp p g0:=by rw[hG];exact vG (by omega) _ _
  have he:Fp p h0:=by rw[ht];exact Kj p1 _
  have hA:Cg p (pc (c % p)) (pc c):=fun j=>by unfold pc;split;exact xaC _ _;rfl
  have hm:Cg p (ci g0) (prZ ((fs.take ha).map ci)*pc c):=by
   rw[hG];refine(ki p _ _).trans ?_;rw[vW];exact prodA.mul hA
  have ho:Cg p (ci h0) (prZ ((fs.drop ha).map ci)):=by rw[ht];exact prodB
  rw[<-ht]at monB;have hB:Cg p (cf f) (ci g0*ci h0):=by
   refine hr.trans (Cg.trans (Cg.of ?_) (hm.mul ho).symm);simp only[zd,zg,zw]
  have hL:qD p (ci g0) (ci h0):=by
   refine qD.congr (qD.mul (Fs.pc _) (Fs.prZ fun x hx=>by obtain⟨a,_,rfl⟩:=xal.1 hx;exact Fs.ci a) (Fs.prZ fun x hx=>by obtain⟨a,_,rfl⟩:=xal.1 hx;exact Fs.ci a) (sZ pwAB) (SG hp (show 0<c % p by omega) hJ.2)) ?_ ho.symm;exact(Cg.rfl.mul hA).trans hm.symm
  have hi:p^1=p:=by rw[xbk,xbs,xbY]
  have rg:=cZ hd p2;have rh:=cZ he p2;have lz:(qX h0).length=h0.length:=sX he.nl;have lzg:(qX g0).length=g0.length:=sX hd.nl;have hM:cf (qX h0) ((qX h0).length-1)=1:=by rw[lz,qt];exact monB.2
  have hW:(wj f p).length=f.length:=by
   have:=Al (k:=k) (i:=1) (p:=p) (f:=f) (xac _) (by rw[<-hc];exact hb) hj;rw[hi]at this;exact this
  obtain⟨d1,d2,d3⟩:=Lz (m:=p) (f:=wj f p) (g:=qX g0) (h:=qX h0) p1 (by have:=rg.rd;rw[hi]at this;exact this) (mM fun j=>by rw[ju,xaC]) (by omega) (by omega) hM ((u9 f p).trans (by rw[qt,qt];exact hB));rw[hW,lz,lzg]at d1;rw[lzg]at d2;obtain⟨d,s,t,z1,zR,z3⟩:=jv (fu:=F) hp hd he (by omega) (by omega) (by omega);have hN:=zaZ p1 zR z3 hL;have hNb:max g0.length h0.length*(max g0.length h0.length+1)<=66*67:=xbU (by omega) (by omega);have hsl:=zR.sl;have htl:=zR.tl;have rs:=cZ zR.sf p2;have rt:=cZ zR.tf p2;have hI:TrI p k f (qX g0) (qX h0) h0.length 4430 1 (qX g0) (qX h0) (qX s) (qX t):=by
   refine⟨xac _,hq,rg,rh,rs,rt,lz,by rw[<-lz];exact hM,?_,?_,Cg.rfl,Cg.rfl,by have:=E7 s;omega⟩
   ·rw[hi,qt,qt];exact hB
   ·rw[hi,qt,qt,qt,qt];exact hN
  obtain⟨G,H,S,T,l1,l2⟩:=NC (fu:=F) hI hp hk hF.ok (by rw[<-hc];exact hb) hj (by omega) (by omega) (by decide) (by omega) hf;obtain⟨m1,m2,m3,m4⟩:=l2.lens hp (by rw[<-hc];exact hb) hj (by omega);have hX:c % p^k=c:=by have:=hF.mod (f.length-1);rw[<-hc]at this;exact this
  rw[<-hc,hX]at m3;have hY:=l2.hl;have hv:=l2.h1;rw[<-hY]at hv;have hZ:Cg p (cf G) (pc c*prZ ((fs.take ha).map ci)):=by
   refine l2.gp.trans ?_;rw[qt,zg];exact hm
  have h3:Cg p (cf H) (pc 1*prZ ((fs.drop ha).map ci)):=by
   refine l2.hp.trans ?_;rw[qt,zy];exact ho
  obtain⟨us,u1,u2,u3⟩:=ih ha (by omega) (fu:=F) (f:=G) (fs:=fs.take ha) hS (by omega) (by omega) (by omega) l2.rG m2 (by omega) (by rw[m3];exact hb) hs pwA (by rw[m3];exact hZ);obtain⟨vs,v1,v2,v3⟩:=ih (n-ha) (by omega) (fu:=F) (f:=H) (fs:=fs.drop ha) hT (by omega) (by omega) (by omega) l2.rH (by omega) (by omega) (by rw[hv,xaz (by decide) (by omega)];decide) hl pwB (by rw[hv];exact h3);rw[m3]at u3;rw[hv]at v3;have hul:=u2.len;have hvl:=v2.len;refine⟨us++vs,?_,by rw[hy];exact u2.append v2,?_⟩
  ·have ez:[f.getD (f.length-1) (false,[])].length=1:=rfl;have hO:xc 250 [f.getD (f.length-1) (false,[])]:=fun z hz=>by
    obtain rfl:=xai.1 hz;exact hF.ok.get _
   have h4:vC p [f.getD (f.length-1) (false,[])]=[c % p]:=by
    rw[hc];exact RQ (by omega) (by rw[Qh,<-hc];exact hb)
   have h5:=qj p (Xz p (fs.take ha)) [c % p];simp only[xav,xcq]at h5;have ex1:xda (fs.length:Int) 2=(ha:Int):=by rw[hn,hR];rfl
   rw[zx,qZ (by decide),ex1,zb,show(f.length:Int)-1=((f.length-1:Nat):Int)by omega,zb,yN,yF,zf,Nj hj,za (jT hO (by decide) (by omega) p2 (by simp) (by omega)),h4];simp only;rw[yN,yF,zf,za (qh hp hU (fun g hg=>(hs g hg).2) (by omega) (by decide) (by omega) (by omega)),za (jU hp (Kj p1 _) hK (by omega) (by simp) (by omega)),<-hG];simp only;rw[yN,yF,zf,za (qh hp hV (fun g hg=>(hl g hg).2) (by omega) (by decide) (by omega) (by omega)),<-ht,za z1];simp only;rw[za (qV (hd.rl p2) (by omega) (by omega)),za (qV (he.rl p2) (by omega) (by omega)),za (qV (zR.sf.rl p2) (by omega) (by omega)),za (qV (zR.tf.rl p2) (by omega) (by omega)),za l1];rw[oT (i:=0) (by decide),yN,yF,zf,show[G,H,S,T].getD (Int.toNat 0) []=G from rfl,za u1,oT (i:=1) (by decide),yN,yF,zf,show[G,H,S,T].getD (Int.toNat 1) []=H from rfl,za v1,yF,zf]
  ·rw[<-hc,xaN,xK];refine l2.fac.trans ((u3.mul v3).trans (Cg.of ?_));rw[zy,zd]
section
variable{a:List Zr}{p:Int}
def yq(a:List Zr):List Zr:=qi a.length (cf a)
theorem uq(a:List Zr)(k:Nat):cf (yq a) k=cf a k:=jj (fun j hj=>yb hj) k
theorem Vo(a:List Zr):(yq a).length<=a.length:=by unfold yq;rw[xz];exact qb _ _
theorem oy{k:Nat}(h:xc k a):xc k (yq a):=xg h.bz
structure zgC(p:Int)(k:Nat)(a:List Zr)(fs:List (List Int))(us:List (List Zr)):Prop where
 hp:wB p=true
 k1:1<=k
 k2:k<=1000
 rt:JN p (yq a) fs
 up:ni (Up p k) us fs
 cg:fs≠[]->Cg (p^k) (cf a) (pc (cf (yq a) ((yq a).length-1))*prZ (us.map fun u=>(cf u:Pz)))
theorem JN.mem{fs:List (List Int)}(h:JN p a fs): ∀g∈fs,Gz p g/\g.length<=a.length:=fun g hg=>by
 obtain⟨j,hj,rfl⟩:=xdx.1 hg;have:=h.pl j hj;rw[UV,IR hj]at this;exact⟨this.2,this.1⟩
theorem JN.pw{fs:List (List Int)}(h:JN p a fs):fs.Pairwise (fun a b=>qD p (ci a) (ci b)):=by
 refine xcz.2 fun i j hi hj ha=> ?_;have:=h.cp j i hj ha;rw[UV,UV,IR hi,IR hj]at this;exact this.symm
theorem fJ{fu:Nat}{k:Int}{fs:List (List Int)}(ha:xc 250 a)(hr:a.length<=1000)(hf:3000200<=fu):
 ∃us e,vS fu a fs p k=some (us,e)/\(e=0->zgC p k.toNat a fs us/\1<=k)/\(e≠0->(bL p k).2=0\/e=1):=by
 unfold vS;have hs:=Vo a;have hk:=oy ha;rw[za (jr (by omega))];by_cases hP:wB p=true/\1<=k/\k<=1000
 ·obtain⟨hp,h1,h2⟩:=hP;obtain⟨K,rfl⟩:=xaB (show 0<=k by omega);have hc:bL p (K:Int)=(yP (p^K),0):=by
   unfold bL;rw[if_pos ⟨hp,h1,h2⟩,xaR]
  rw[hc];simp only;rw[za (zA ha (by decide) (by omega) (by omega)),iq trivial,show qi a.length (cf a)=yq a from rfl];by_cases ht:65<(yq a).length
  ·rw[zM];exact⟨_,_,rfl,fun e=>absurd e (by decide),fun _=> .inl trivial⟩
  ·rw[zx];obtain⟨b,b1,b2⟩:=a7 (fu:=fu) (fs:=fs) hp hk (by decide) (by omega) (by omega);rw[za b1]
   cases b with
   |false=>
    rw[iq (by decide)];exact⟨_,_,rfl,fun e=>absurd e (by decide),fun _=> .inl trivial⟩
   |true=>
    have hR:=b2 rfl;rw[ir (by decide)];by_cases h0:fs.length=0
    ·obtain rfl:fs=[]:=xbF.1 h0;rw[iq (show((([]:List (List Int)).length:Nat):Int)=0 from rfl)];exact⟨_,_,rfl,fun _=>⟨⟨hp,by omega,by omega,hR,trivial,fun e=>absurd rfl e⟩,h1⟩,fun e=>absurd rfl e⟩
    ·rw[zx];obtain⟨p1,p2⟩:=zo hp;have hl:=e9 hp (k:=K) (by omega);have hu:=ae hp (k:=K) (by omega);have ho:gh (yP (p^K)):=hl.okS (by decide);obtain⟨f,hb⟩: ∃f,f=wj (yq a) (p^K):=⟨_,rfl⟩;have hm:=hR.a0;have hd:cf (yq a) ((yq a).length-1) % p≠0:=by
      have h3:=(XX (p:=p) (by omega) (yq a)).nl;unfold Nl at h3;rw[hR.al]at h3;rcases h3 with h3|h3
      ·exact absurd h3 hm
      ·rw[W7]at h3;exact h3
     have hq:f.length=(yq a).length:=by rw[hb];exact Al (k:=K) (by omega) hd (by omega)
     have he:cf f (f.length-1)=cf (yq a) ((yq a).length-1) % p^K:=by rw[hq,hb,ju]
     have hi:p∣p^K:=qQ (by omega);have hj:cf f (f.length-1) % p≠0:=by rw[he,xcC _ hi];exact hd
     have hn:Cg p (cf f) (pc (cf f (f.length-1))*prZ (fs.map ci)):=by
      have e1:Cg p (cf f) (cf (yq a)):=by rw[hb];exact(u9 _ _).down hi
      refine e1.trans ((K4 p (yq a)).symm.trans ?_);rw[<-hR.pr];refine(ki p _ _).trans ?_;rw[vW,zg];refine Cg.mul (fun j=> ?_) (cF p fs);rw[W7,he];unfold pc;split
      ·rw[xcC _ hi,xaC]
      ·rfl
     obtain⟨us,u1,u2,u3⟩:=za2 (k:=K) hp (by omega) (by omega) fs.length (fu:=fu) (f:=f) (fs:=fs) rfl (by omega) (by have:=hR.fl;omega) (by have:=hR.fl;omega) (by rw[hb];exact K9 hl (by omega) _) (by omega) (by omega) hj (fun g hg=>⟨(hR.mem g hg).1,by have:=(hR.mem g hg).2;omega⟩) hR.pw hn;rw[za (Zu hk (by decide) ho (by rw[zt];omega) (by omega) (by omega)),zt,<-hb,za u1];refine⟨_,_,rfl,fun _=>⟨⟨hp,by omega,by omega,hR,u2,fun _=> ?_⟩,h1⟩,fun e=>absurd rfl e⟩;rw[xaR];have e1:Cg (p^K) (cf a) (cf f):=by
      rw[hb];exact Cg.trans (Cg.of (funext fun j=>(uq a j).symm)) (u9 _ _).symm
     refine e1.trans (u3.trans (Cg.mul (fun j=> ?_) Cg.rfl));rw[he];unfold pc;split
     ·rw[xaC]
     ·rfl
 ·have hc:bL p k=((false,[]),1):=by unfold bL;rw[ir hP]
  rw[hc];simp only;rw[za (zA ha (by decide) (by omega) (by omega)),ir (by decide)];exact⟨_,_,rfl,fun e=>absurd e (by decide),fun _=> .inr rfl⟩
end
def Mn(A:Pz)(d:Nat):Prop:=A d=1/\ ∀k,d<k->A k=0
theorem Mn.top{A x:Pz}{d n:Nat}(h:Mn A d)(hx: ∀k,n<k->x k=0):(x*A) (n+d)=x n:=by
 rw[xr,xQ (i:=n) fun i hi=> ?_,zM,show n+d-n=d by omega,h.1,xce];by_cases hc:i<n
 ·rw[h.2 _ (by omega),xat]
 ·rw[hx i (by omega),xaU]
theorem Mn.zero{p:Int}(hp:2<=p){A x:Pz}{d:Nat}(h:Mn A d)(hx:Fs x)(hz: ∀k,d<=k->(x*A) k % p=0):Cg p x (pc 0):=by
 obtain⟨n,hn⟩:=hx;have key: ∀c,c<=n-> ∀k,n-c<=k->x k % p=0:=by
  intro c
  induction c with
  |zero=>intro _ k hk;rw[hn k (by omega),xag]
  |succ c ih=>
   intro hc k hk;by_cases h1:n-c<=k
   ·exact ih (by omega) k h1
   ·obtain rfl:k=n-(c+1):=by omega
    have e:Cg p x (fun i=>if i<=n-(c+1)then x i else 0):=fun i=>by
     by_cases hi:i<=n-(c+1)
     ·show _=(if i<=n-(c+1)then x i else 0) % p;rw[iq hi]
     ·show _=(if i<=n-(c+1)then x i else 0) % p;rw[ir hi,xag];exact ih (by omega) i (by omega)
    have h2:=(e.mul (Cg.rfl (f:=A))) (n-(c+1)+d);rw[hz _ (by omega),h.top (fun i hi=>zx)]at h2;rw[iq (xac _)]at h2;exact h2.symm
 intro k;rw[zK,xag];by_cases hk:k<n
 ·exact key n (xac _) k (by omega)
 ·rw[hn k (by omega),xag]
theorem Gw{k m n:Int}(h:Int.gcd k m=1)(hd:k∣m*n):k∣n:=
 xcl.1 (Nat.Coprime.dvd_of_dvd_mul_left (k:=k.natAbs) (m:=m.natAbs) h (by rw[<-xcr];exact xcl.2 hd))
def pdv(n:Int)(f:Pz):Pz:=fun k=>f k/n
theorem CJ{n:Int}{f:Pz}(h:Cg n f (pc 0)):pc n*pdv n f=f:=by
 funext k;rw[zQ];exact Int.mul_ediv_cancel' (h.dvd k)
theorem AA{n:Int}{f:Pz}(h:Fs f):Fs (pdv n f):=by
 obtain⟨c,hc⟩:=h;exact⟨c,fun k hk=>by show f k/n=0;rw[hc k hk,xfC]⟩
theorem Fs.subt{f g:Pz}(hf:Fs f)(hg:Fs g):Fs (f-g):=by
 obtain⟨a,ha⟩:=hf;obtain⟨b,hb⟩:=hg;exact⟨a+b,fun k hk=>by rw[yC,ha k (by omega),hb k (by omega)];rfl⟩
theorem NJ{p n:Int}(hp:2<=p)(hn:n≠0)(hj:p∣n){A B A' B':Pz}{d:Nat}(hA:Mn A d)(he:Mn A' d)(fA:Fs A)(fA':Fs A')(fB:Fs B)(fB':Fs B')(hc:qD p A B)(h1:Cg n A A')(h2:Cg n B B')(h:Cg (n*p) (A*B) (A'*B')):
 Cg (n*p) A A'/\Cg (n*p) B B':=by
 obtain⟨a,ha⟩: ∃a,a=pdv n (A'-A):=⟨_,rfl⟩;obtain⟨b,hb⟩: ∃b,b=pdv n (B'-B):=⟨_,rfl⟩;have ea:pc n*a=A'-A:=by rw[ha];exact CJ (Cg.iff_sub.1 h1.symm)
 have eb:pc n*b=B'-B:=by rw[hb];exact CJ (Cg.iff_sub.1 h2.symm)
 have fa:Fs a:=by rw[ha];exact AA (fA'.subt fA)
 have fb:Fs b:=by rw[hb];exact AA (fB'.subt fB)
 have ak: ∀k,A' k=A k+n*a k:=fun k=>by
  have:=congrFun ea k;rw[zQ,yC]at this;omega
 have bk: ∀k,B' k=B k+n*b k:=fun k=>by
  have:=congrFun eb k;rw[zQ,yC]at this;omega
 have hl:A'=A+pc n*a:=funext fun k=>by rw[zI,zQ,ak]
 have hm:B'=B+pc n*b:=funext fun k=>by rw[zI,zQ,bk]
 have hz:Cg p (a*B+b*A) (pc 0):=by
  refine Cg.of_dvd fun k=> ?_;have e:A'*B'-A*B=pc n*(a*B+b*A+pc n*(a*b)):=by
   rw[hl,hm];simp only[xB,yo,zd,zw,zg];funext k;simp only[zI,yC];omega
  have hd:=(Cg.iff_sub.1 h.symm).dvd k;rw[e,zQ]at hd;have hf:p∣(a*B+b*A+pc n*(a*b)) k:=(Int.mul_dvd_mul_iff_left hn).1 hd;rw[zI,zQ]at hf;exact(Int.dvd_add_left (xbB hj (xcj _ _))).1 hf
 obtain⟨s,t,fs,ft,ho⟩:=hc;have hq: ∀k,d<=k->a k=0:=fun k hk=>by
  have e:A' k=A k:=by
   by_cases h3:k=d
   ·rw[h3,hA.1,he.1]
   ·rw[hA.2 k (by omega),he.2 k (by omega)]
  have:=ak k;have h4:n*a k=0:=by omega
  exact(xev.1 h4).resolve_left hn
 have hg:Cg p a ((s*a-t*b)*A):=by
  have e1:Cg p a (a*(s*A+t*B)):=by
   have:=(Cg.rfl (m:=p) (f:=a)).mul ho.symm;rw[zY]at this;exact this
  refine e1.trans (Cg.iff_sub.2 ?_);have e:a*(s*A+t*B)-(s*a-t*b)*A=t*(a*B+b*A):=by
   simp only[xB,yo,w7,w9,zd,zw,zg];funext k;simp only[zI,yC];omega
  rw[e];exact hz.mul_zero_l t
 have hr:=hA.zero hp ((fs.mul fa).subt (ft.mul fb)) fun k hk=>by rw[<-hg k,hq k hk,xag]
 have hi:Cg p a (pc 0):=hg.trans (hr.mul_zero_r A);have hs:Cg p (b*A) (pc 0):=by
  have e:b*A=a*B+b*A-a*B:=by
   funext k;simp only[zI,yC];omega
  rw[e];exact hz.zero_sub (hi.mul_zero_r B)
 have ht:Cg p b (pc 0):=hA.zero hp fb fun k _=>by rw[hs k,zK,xag]
 refine⟨Cg.symm (Cg.iff_sub.2 (Cg.of_dvd fun k=> ?_)),Cg.symm (Cg.iff_sub.2 (Cg.of_dvd fun k=> ?_))⟩
 ·rw[<-ea,zQ];exact Int.mul_dvd_mul_left n (hi.dvd k)
 ·rw[<-eb,zQ];exact Int.mul_dvd_mul_left n (ht.dvd k)
theorem FJ{p:Int}(hp:2<=p){A B A' B':Pz}{d:Nat}(hA:Mn A d)(ha:Mn A' d)(fA:Fs A)(fA':Fs A')(fB:Fs B)(fB':Fs B')(hc:qD p A B)(h1:Cg p A A')(h2:Cg p B B'): ∀j,Cg (p^j) (A*B) (A'*B')->Cg (p^j) A A'/\Cg (p^j) B B'
 |0,_=>⟨fun k=>by rw[xbs,Int.emod_one,Int.emod_one],fun k=>by rw[xbs,Int.emod_one,Int.emod_one]⟩
 |1,_=>by
  rw[xbk,xbs,xbY];exact⟨h1,h2⟩
 |j+2,h=>by
  obtain⟨g1,g2⟩:=FJ hp hA ha fA fA' fB fB' hc h1 h2 (j+1) (h.down (Uf (by omega)));rw[xbk]at h⊢;exact NJ hp (Int.ne_of_gt (Int.pow_pos (by omega))) (qQ (by omega)) hA ha fA fA' fB fB' hc g1 g2 h
def W5:Nat->Nat->Nat
 |_,0=>1
 |0,_+1=>0
 |n+1,k+1=>W5 n k+W5 n (k+1)
theorem YU(n:Nat):W5 n 0=1:=by cases n<;>rfl
theorem YG(n k:Nat):W5 (n+1) (k+1)=W5 n k+W5 n (k+1):=rfl
theorem QL: ∀n k,n<k->W5 n k=0
 |0,0,h=>absurd h (Nat.lt_irrefl _)
 |0,k+1,_=>rfl
 |n+1,0,h=>absurd h (xbv _)
 |n+1,k+1,h=>by rw[YG,QL n k (by omega),QL n (k+1) (by omega)]
theorem lS: ∀n,W5 n n=1
 |0=>rfl
 |n+1=>by rw[YG,lS n,QL n (n+1) (by omega)]
theorem Cr: ∀n k,(k+1)*W5 (n+1) (k+1)=(n+1)*W5 n k
 |0,0=>rfl
 |0,k+1=>by rw[YG,QL 0 (k+1) (by omega),QL 0 (k+1+1) (by omega)];rfl
 |n+1,0=>by
  have h:=Cr n 0;rw[YU,xaS,xcm,xcD]at h;rw[YG,YU,show W5 (n+1) (0+1)=n+1 from h];omega
 |n+1,k+1=>by
  have h1:=Cr n k;have h2:=Cr n (k+1);have h3:=YG n k;rw[YG (n+1) (k+1),xbm,h2,h3];rw[h3]at h1;have e:(k+1+1)*(W5 n k+W5 n (k+1))=(k+1)*(W5 n k+W5 n (k+1))+(W5 n k+W5 n (k+1)):=by rw[xaV (k+1) 1,xcm]
  rw[e,h1,xaV (n+1) 1,xcm,xbm];omega
theorem zde(a:Int): ∀n,(a+1)^n=zU (n+1) (fun k=>(W5 n k:Int)*a^k)
 |0=>by
  show _=(0:Int)+((1:Nat):Int)*a^0;rw[xbs,xbs];rfl
 |n+1=>by
  have e1:zU (n+1+1) (fun k=>(W5 (n+1) k:Int)*a^k)=1+(zU (n+1) (fun k=>a*((W5 n k:Int)*a^k))+zU (n+1) (fun k=>(W5 n (k+1):Int)*a^(k+1))):=by
   rw[jE,<-Zb];congr 1
   ·show((W5 (n+1) 0:Nat):Int)*a^0=1;rw[YU,xbs];rfl
   ·exact zT fun k _=>by rw[YG,xdU,Int.add_mul,xbk,<-xbG,<-xbG,xbi (_*a^k) a,<-xbG]
  have e2:zU (n+1) (fun k=>(W5 n k:Int)*a^k)=1+zU (n+1) (fun k=>(W5 n (k+1):Int)*a^(k+1)):=by
   have h:zU (n+1+1) (fun k=>(W5 n k:Int)*a^k)=zU (n+1) (fun k=>(W5 n k:Int)*a^k):=by
    show zU (n+1) _+((W5 n (n+1):Nat):Int)*a^(n+1)=_;rw[QL n (n+1) (by omega)];show _+(0:Int)*_=_;rw[xaU,xbx]
   rw[<-h,jE];congr 1;show((W5 n 0:Nat):Int)*a^0=1;rw[YU,xbs];rfl
  rw[e1,jA,xbk,zde a n,xeP,xce,xbi _ a];omega
theorem MA{p x y:Nat}(hp:2<=p)(hn:vF p)(h0:0<x)(h1:x<p)(h:p∣x*y):p∣y:=
 Nat.Coprime.dvd_of_dvd_mul_left (Ue hp hn h0 h1) h
theorem MZ{p k:Nat}(hp:2<=p)(hn:vF p)(h0:0<k)(h1:k<p):p∣W5 p k:=by
 obtain⟨q,rfl⟩: ∃q,p=q+1:=⟨p-1,by omega⟩;obtain⟨j,rfl⟩: ∃j,k=j+1:=⟨k-1,by omega⟩;exact MA hp hn h0 h1 ⟨W5 q j,Cr q j⟩
theorem Fg{p:Nat}(hp:2<=p)(hn:vF p)(a:Int):(a+1)^p % p=(a^p+1) % p:=by
 obtain⟨q,rfl⟩: ∃q,p=q+1:=⟨p-1,by omega⟩;rw[zde,show q+1+1=(q+1)+1 from rfl];show(zU (q+1) _+((W5 (q+1) (q+1):Nat):Int)*a^(q+1)) % _=_;rw[lS,jE];have hd:((q+1:Nat):Int)∣zU q (fun k=>(W5 (q+1) (k+1):Int)*a^(k+1)):=J2 fun k hk=>
  xbB (xef.2 (MZ hp hn (by omega) (by omega))) (xcj _ _)
 obtain⟨c,hc⟩:=hd;rw[hc];show(((W5 (q+1) 0:Nat):Int)*a^0+_+((1:Nat):Int)*a^(q+1)) % _=_;rw[YU,xbs];have e:((1:Nat):Int)*1+((q+1:Nat):Int)*c+((1:Nat):Int)*a^(q+1)=a^(q+1)+1+((q+1:Nat):Int)*c:=by omega
 rw[e,xeB]
theorem IV{p:Nat}(hp:2<=p)(hn:vF p): ∀a:Nat,(a:Int)^p % p=a % p
 |0=>by rw[show((0:Nat):Int)=0 from rfl,Int.zero_pow (by omega)]
 |a+1=>by rw[xdU,show((1:Nat):Int)=1 from rfl,Fg hp hn,xdM,IV hp hn a,<-xdM]
theorem oU{p:Int}(hp:wB p=true){a:Int}(h0:0<a)(h1:a<p):(a^(p-2).toNat*a) % p=1:=by
 obtain⟨p1,p2⟩:=zo hp;have hn:=Yc hp;obtain⟨P,rfl⟩:=xaB (show 0<=p by omega);obtain⟨A,rfl⟩:=xaB (show 0<=a by omega);rw[xaR]at hn;have hP:2<=P:=by omega
 have h:=IV hP hn A;obtain⟨Q,rfl⟩: ∃Q,P=Q+2:=⟨P-2,by omega⟩;rw[show(((Q+2:Nat):Int)-2).toNat=Q by omega];have e:(A:Int)^(Q+2)-A=A*((A:Int)^Q*A-1):=by rw[show Q+2=Q+1+1 from rfl,xbk,xbk,Int.mul_sub,xce,xbi _ (A:Int)]
 have hd:((Q+2:Nat):Int)∣(A:Int)*((A:Int)^Q*A-1):=by
  rw[<-e];exact xaG (xaH.1 h)
 have hg:Int.gcd ((Q+2:Nat):Int) (A:Int)=1:=Ue hP hn (by omega) (by omega);have ha:=Gw hg hd;have h3:=xaH.2 (xax ha);rw[h3];exact xaz (by decide) (by omega)
section
variable{fu:Nat}{p a x:Int}{l:List Int}
theorem dW(hf:3000000<=fu):kK fu p=some (if wB p=true then 0 else 1):=by
 unfold kK;rw[za (rV (by omega))];cases h:wB p
 ·rw[iq (by decide),ir (by decide)]
 ·rw[ir (by decide),iq rfl]
theorem Jv(hp:wB p=true)(hf:3000000<=fu):kK fu p=some 0:=by
 rw[dW hf,iq hp]
theorem JV(h1:1<=p)(h2:p<=65521)(ha:VM a):Vq fu a p=some (a % p):=by
 unfold Vq;obtain⟨a1,a2⟩:=ha;have hr:=yg (a:=a) (p:=p) (by omega);have ht:=FT (a:=a) (p:=p) (by omega);rw[zx,yF,zf];by_cases h:xbX a p<0
 ·rw[iq h]at ht;rw[iq h,zb,ht]
 ·rw[ir h]at ht;rw[ir h,ht]
theorem O7{n:Nat}{f:Pz}(h:x=f n):zl n f++[x]=zl (n+1) f:=by rw[h];exact zbk
theorem VZ(h1:1<=p)(h2:p<=65521)(hr:Rl l)(hl:l.length<=1000000)(hf:3000000<=fu):vZ fu l p=some (pm p l):=by
 unfold vZ;have hd:=qb (fun k=>ci l k % p) l.length;rw[za (v:=zl l.length (fun k=>ci l k % p))]
 ·rw[za (v:=((dg (fun k=>ci l k % p) l.length:Nat):Int))]
  ·rw[yN,qZ (by rw[zF];exact hd),zf,AK hd];rfl
  ·rw[zF];refine zC (fun t:Int=> ∃m:Nat,m<=l.length/\t=(m:Int)/\dg (fun k=>ci l k % p) m=dg (fun k=>ci l k % p) l.length) (fun t=>t.toNat) _ ?_ _ _ ⟨l.length,xac _,rfl,rfl⟩ (by omega);rintro t L ⟨m,hm,rfl,hg⟩ ih;unfold JB
   cases m with
   |zero=>
    rw[zx,<-hg];rfl
   |succ m=>
    rw[zM,show((m+1:Nat):Int)-1=(m:Int)by omega,zb,zp (by rw[zF];omega),zf,vB (by omega)];by_cases h0:ci l m % p=0
    ·rw[iq h0,zb];exact ih _ ⟨m,by omega,rfl,by rw[<-b8 (f:=fun k=>ci l k % p) h0,hg]⟩ (by omega)
    ·rw[ir h0,<-hg,cP (f:=fun k=>ci l k % p) h0]
 ·refine zC (fun s:List Int×Int=> ∃i:Nat,i<=l.length/\s=(zl i (fun k=>ci l k % p),(i:Int))) (fun s=>l.length-s.2.toNat) _ ?_ _ _ ⟨0,xaj _,rfl⟩ (by show l.length-0<fu;omega);rintro s L ⟨i,hi,rfl⟩ ih;unfold Jn;simp only;by_cases h:i<l.length
  ·rw[zM,zp h,zf,Zg,za (JV h1 h2 (hr i)),qZ (by rw[zF];simp;omega),zf,O7 (f:=fun k=>ci l k % p) rfl,zb];exact ih _ ⟨i+1,by omega,rfl⟩ (by show l.length-((i:Int)+1).toNat<l.length-(i:Int).toNat;omega)
  ·rw[zx];obtain rfl:i=l.length:=by omega
   rfl
theorem CP(hp:wB p=true)(h:Fp p l)(hl:l.length<=1000000)(hf:3000000<=fu):vZ fu l p=some l:=by
 obtain⟨p1,p2⟩:=zo hp;rw[VZ (by omega) p2 (h.rl p2) hl hf,h.pm]
theorem eh{a b:List Int}(hp:wB p=true)(ha:Fp p a)(hb:Fp p b)(hc:a.length<=100000)(hd:b.length<=100000)(hf:3000000<=fu):VC fu a b p=some (y4 p a b):=by
 obtain⟨p1,p2⟩:=zo hp;unfold VC;obtain⟨n,hn⟩: ∃n,n=a.length+b.length:=⟨_,rfl⟩;rw[za (CP hp ha (by omega) hf),za (CP hp hb (by omega) hf),zb,show(a.length:Int)+(b.length:Int)=(n:Int)by omega,yN,yF,zf,Je,za (v:=zl n (fun k=>pQ (ci a) (ci b) a.length k % p))]
 ·have hz: ∀k,n<=k->pQ (ci a) (ci b) a.length k % p=0:=fun k hk=>by rw[bN (fun j hj=>zP hj),qk (fun j hj=>zP hj) (fun j hj=>zP hj) (by omega),xag]
  have hr:Rl (zl n (fun k=>pQ (ci a) (ci b) a.length k % p)):=fun k=>by
   rw[uh hz];have:=yg (a:=pQ (ci a) (ci b) a.length k) (p:=p) (by omega);exact⟨by omega,by omega⟩
  rw[za (VZ (by omega) p2 hr (by rw[zF];omega) hf)];congr 1;unfold pm y4;rw[zF,<-hn];exact oJ fun k hk=>by rw[qY hk,xaC,bN (fun j hj=>zP hj)]
 ·refine zC (fun s:Int×List Int×List Int×List Int=> ∃i:Nat,i<=a.length/\s=((i:Int),a,b,zl n (fun k=>pQ (ci a) (ci b) i k % p))) (fun s=>a.length-s.1.toNat) _ ?_ _ _ ⟨0,xaj _,by rw[ym (g:=fun k=>pQ (ci a) (ci b) 0 k % p) fun k _=>by show(0:Int)=0 % p;rw[xag]];rfl⟩ (by show a.length-0<fu;omega);rintro s L ⟨i,hi,rfl⟩ ih;unfold Jl;simp only;by_cases h3:i<a.length
  ·rw[zM,za (v:=(p,zl n (fun k=>pQ (ci a) (ci b) (i+1) k % p)))]
   ·simp only;rw[zb];exact ih _ ⟨i+1,by omega,rfl⟩ (by show a.length-((i:Int)+1).toNat<a.length-(i:Int).toNat;omega)
   ·refine zC (fun s:Int×Int×List Int=> ∃j:Nat,j<=b.length/\s=(p,(j:Int),zl n (fun k=>cY (ci a) (ci b) i j k % p))) (fun s=>b.length-s.2.1.toNat) _ ?_ _ _ ⟨0,xaj _,by rw[ym fun k _=>by rw[<-sL]];rfl⟩ (by show b.length-0<fu;omega);rintro s L2 ⟨j,hj,rfl⟩ ih2;unfold Jk;simp only;by_cases h4:j<b.length
    ·have e:(i:Int)+(j:Int)=((i+j:Nat):Int):=by omega
     have r1:=yg (a:=cY (ci a) (ci b) i j (i+j)) (p:=p) (by omega);obtain⟨r2,r3⟩:=YV p2 (ha.nn i) (ha.lt i) (hb.nn j) (hb.lt j);rw[zM,e,zb,zb,zp (by rw[zF];omega),zf,vB (by omega),zp h3,zf,zp h4,zf,Zg,Zg,zb,zb,yF,zf,kZ (by omega),zp (by rw[zF];omega),zf,jQ,zb];exact ih2 _ ⟨j+1,by omega,by rw[ym fun k _=>sA (ci a) (ci b) p i j k];rfl⟩ (by show b.length-((j:Int)+1).toNat<b.length-(j:Int).toNat;omega)
    ·rw[zx];obtain rfl:j=b.length:=by omega
     rw[ym fun k _=>by rw[sW (fun k hk=>zP hk)]]
  ·rw[zx];obtain rfl:i=a.length:=by omega
   rfl
theorem Hy(x p:Int): ∀n,(x % p)^n % p=x^n % p
 |0=>by rw[xbs,xbs]
 |n+1=>by rw[xbk,xbk,xbq,Hy x p n,xaC,<-xbq]
theorem mI{n:Nat}(hp:wB p=true)(ha:0<=a)(hj:a<p)(hn:n<=1000000)(hf:3000000<=fu):KZ fu a (n:Int) p=some (a^n % p,0):=by
 obtain⟨p1,p2⟩:=zo hp;unfold KZ;rw[za (Jv hp hf),iq rfl,zx,yF,zf,kZ (by decide),za (JV (by omega) p2 ⟨by omega,by omega⟩),za (v:=a^n % p)];refine zC (fun s:Int×Int×Int=> ∃(x y:Int) (i:Nat),s=(x,y,(i:Int))/\i<=n/\0<=x/\x<p/\0<=y/\y<p/\(x*y^i) % p=a^n % p) (fun s=>s.2.2.toNat) _ ?_ _ _ ⟨1 % p,a % p,n,rfl,xac _,(yg (by omega)).1,(yg (by omega)).2,(yg (by omega)).1,(yg (by omega)).2,?_⟩ (by show n<fu;omega)
 ·rintro s L ⟨x,y,i,rfl,hi,x1,x2,y1,y2,he⟩ ih;unfold Uy;simp only;obtain⟨q1,q2⟩:=YV p2 x1 x2 y1 y2;obtain⟨q3,q4⟩:=YV p2 y1 y2 y1 y2;have hb:=yg (a:=y*y) (p:=p) (by omega);have hc:=yg (a:=x*y) (p:=p) (by omega);have hd:xda (i:Int) 2=((i/2:Nat):Int):=by rw[xdE (by omega)];omega
  have hg: ∀z:Int,(z*(y*y % p)^(i/2)) % p=(z*(y^(2*(i/2)))) % p:=fun z=>by rw[xbq,Hy,<-xbq,Int.pow_mul,show y^2=y*y from by rw[xbk,xbk,xbs,xbY]]
  by_cases h0:0<i
  ·rw[zM,qZ (by decide),zf,kZ (by omega)];by_cases h1:i % 2=1
   ·rw[zM,zb,yF,zf,kZ q1,zb,yF,zf,kZ q3,qZ (by decide),hd,zb];refine ih _ ⟨_,_,i/2,rfl,by omega,hc.1,hc.2,hb.1,hb.2,?_⟩ (by show((i/2:Nat):Int).toNat<(i:Int).toNat;omega);rw[hg,xbq,xaC,<-xbq,<-he];congr 1;have e:i=2*(i/2)+1:=by omega
    conv=>rhs;rw[e]
    rw[xbk,xbG,xbi y]
   ·rw[zx,zb,yF,zf,kZ q3,qZ (by decide),hd,zb];refine ih _ ⟨_,_,i/2,rfl,by omega,x1,x2,hb.1,hb.2,?_⟩ (by show((i/2:Nat):Int).toNat<(i:Int).toNat;omega);rw[hg,<-he];congr 3;omega
  ·rw[zx];obtain rfl:i=0:=by omega
   rw[xbs,xce,xaz x1 x2]at he;rw[he]
 ·rw[xbq,xaC,Hy,<-xbq,xbY]
theorem az(hp:wB p=true)(h0:0<a)(h1:a<p)(hf:3000000<=fu): ∃x,Xk fu a p=some x/\0<x/\x<p/\(x*a) % p=1:=by
 obtain⟨p1,p2⟩:=zo hp;unfold Xk;rw[zb];obtain⟨n,hn⟩: ∃n:Nat,p-2=(n:Int):=⟨(p-2).toNat,by omega⟩;have ha:=oU hp h0 h1;rw[hn,xaR]at ha;rw[hn,za (mI hp (by omega) h1 (by omega) hf)];simp only;have hr:=yg (a:=a^n) (p:=p) (by omega);by_cases h2:p=2
 ·rw[iq h2];refine⟨1,rfl,by decide,by omega,?_⟩;rw[xbY,xaz (by omega) h1];omega
 ·rw[ir h2];have h3:(a^n % p*a) % p=1:=by rw[xbq,xaC,<-xbq];exact ha
  exact⟨_,rfl,Lu hr.1 h3,hr.2,h3⟩
theorem Rr{y c:Int}(x0:0<=x)(x1:x<p)(y0:0<=y)(y1:y<p)(hx:(x*c) % p=1)(hy:(y*c) % p=1):x=y:=by
 have h1:(x*(y*c)) % p=x:=by rw[xbq,hy,xce,xaC,xaz x0 x1]
 have h2:(x*(y*c)) % p=y:=by rw[show x*(y*c)=y*(x*c)by rw[<-xbG,<-xbG,xbi x y],xbq,hx,xce,xaC,xaz y0 y1]
 rw[<-h1,h2]
end
section
variable{p x:Int}{a:List Int}{fu:Nat}
structure TN(p:Int)(a m:List Int):Prop where
 fm:Fp p m
 ln:m.length=a.length
 top:ci m (m.length-1)=1
 cg: ∃x y:Int,Cg p (ci m) (pc x*ci a)/\Cg p (ci a) (pc y*ci m)
theorem FK(hp:2<=p)(ha:Fp p a)(hd:0<a.length)(hx:(x*ci a (a.length-1)) % p=1):TN p a (y4 p a [x]):=by
 have hb: ∀k,ci (y4 p a [x]) k=(x*ci a k) % p:=fun k=>by rw[Q6,vW,zg,zQ]
 have hc:(y4 p a [x]).length=a.length:=by
  refine xcO ((vG (by omega) _ _).nl.le fun k hk=> ?_) (xbw fun he=> ?_)
  ·rw[hb,zP hk,xat,xag]
  ·have h3:=hb (a.length-1);rw[hx,zP (by omega)]at h3;cases h3
 have h1:Cg p (ci (y4 p a [x])) (pc x*ci a):=fun k=>by rw[hb,zQ,xaC]
 refine⟨vG (by omega) _ _,hc,by rw[hc,hb,hx],x,ci a (a.length-1),h1,?_⟩;refine Cg.symm ((Cg.rfl.mul h1).trans ?_);rw[<-zd];refine Cg.trans (Cg.mul (fun k=> ?_) Cg.rfl) (Cg.of (zy _));rw[jX,xbi];unfold pc;split
 ·rw[hx];exact(xaz (by decide) (by omega)).symm
 ·rfl
theorem Om(hp:wB p=true)(ha:Fp p a)(hc:0<a.length)(hd:a.length<=90000)(x0:0<x)(x1:x<p)(hx:(x*ci a (a.length-1)) % p=1)(hf:3000000<=fu):UW fu a p=some (y4 p a [x],0):=by
 obtain⟨p1,p2⟩:=zo hp;have hb:ci a (a.length-1)≠0:=by
  rcases ha.nl with h|h
  ·omega
  ·exact h
 have t1:=ha.nn (a.length-1);obtain⟨y,e1,e2,e3,e4⟩:=az (fu:=fu) hp (show 0<ci a (a.length-1)by omega) (ha.lt _) hf;obtain rfl:=Rr (by omega) x1 (by omega) e3 hx e4;unfold UW;rw[za (Jv hp hf),iq rfl,za (CP hp ha (by omega) hf),zx,show(a.length:Int)-1=((a.length-1:Nat):Int)by omega,zb,yB,zf,Zg,za e1,za (eh hp ha (ZQ e2 e3) (by omega) (by simp) hf)]
theorem ZR(hp:wB p=true)(ha:Fp p a)(hd:0<a.length)(hb:a.length<=90000)(hf:3000000<=fu): ∃x,0<x/\x<p/\(x*ci a (a.length-1)) % p=1/\v7 fu a p=some (y4 p a [x],0):=by
 obtain⟨p1,p2⟩:=zo hp;have hc:ci a (a.length-1)≠0:=by
  rcases ha.nl with h|h
  ·omega
  ·exact h
 have t1:=ha.nn (a.length-1);obtain⟨x,x0,x1,hx,_,e⟩:=Vr (fu:=fu) hp ha (show 0<ci a (a.length-1)by omega) (ha.lt _) hb hf;refine⟨x,x0,x1,hx,?_⟩;unfold v7;rw[za (jL hp (by omega)),iq rfl,za (zE (by omega) p2 (ha.rl p2) (by omega) hf),ha.pm,zx,show(a.length:Int)-1=((a.length-1:Nat):Int)by omega,zb,yB,zf,Zg,za e]
end
theorem Wu{fu:Nat}{p:Int}{g h:List Int}(hp:wB p=true)(hg:Fp p g)(hh:Fp p h)(ha:g.length<=290)(hb:h.length<=290)(hf:3000000<=fu):
 ∃d s t,qF fu g h p=some (d,0)/\BzR p g h d s t (2+max g.length h.length*(max g.length h.length+1))/\(d.length=0\/ci d (d.length-1)=1):=by
 obtain⟨d,s,t,e1,e2,e3⟩:=jv (fu:=fu) hp hg hh ha hb hf;refine⟨d,s,t,?_,e2,e3⟩;unfold qF;rw[za e1]
theorem LV{p:Int}{g h d s t:List Int}{S:Nat}(hp:2<=p)(hR:BzR p g h d s t S)(hd:d.length=0\/ci d (d.length-1)=1):d.length=1↔qD p (ci g) (ci h):=by
 refine⟨fun h1=>Bu hR h1 (hd.resolve_left (by omega)),fun hc=> ?_⟩;obtain⟨A,C,z1,z2,d1,d2⟩:=hR.dv;obtain⟨u,v,z3,z4,hc⟩:=hc;have hx:Cg p ((u*A+v*C)*ci d) (pc 1):=by
  refine Cg.trans (Cg.of ?_) ((((Cg.rfl (f:=u)).mul d1.symm).add ((Cg.rfl (f:=v)).mul d2.symm)).trans hc);rw[yo,zd,zd]
 have ha:0<d.length:=by
  refine xcE fun e=> ?_;have h1:=hx 0;rw[xr,yT fun i hi=>by rw[zP (l:=d) (by omega),xat]]at h1;unfold pc at h1;rw[iq rfl,xag,xaz (by decide) (by omega)]at h1;cases h1
 exact DT hp ((z3.mul z1).add (z4.mul z2)) ha (hd.resolve_left (by omega)) hx
section
variable{a:List Int}{p:Int}
def dvp(f:Pz):Pz:=fun k=>((k+1:Nat):Int)*f (k+1)
theorem Vv(f g:Pz):dvp (f*g)=dvp f*g+f*dvp g:=by
 funext k;show((k+1:Nat):Int)*(f*g) (k+1)=(dvp f*g) k+(f*dvp g) k;rw[xr,xr,xr,<-jA];have e:zU (k+1+1) (fun i=>((k+1:Nat):Int)*(f i*g (k+1-i)))=zU (k+1+1) (fun i=>(i:Int)*(f i*g (k+1-i)))+zU (k+1+1) (fun i=>((k+1-i:Nat):Int)*(f i*g (k+1-i))):=by
  rw[<-Zb];exact zT fun i hi=>by
   rw[<-Int.add_mul];congr 1;omega
 rw[e];congr 1
 ·rw[jE];show((0:Nat):Int)*_+_=_;rw[show((0:Nat):Int)=0 from rfl,xaU,xcA];exact zT fun i hi=>by
   show((i+1:Nat):Int)*(f (i+1)*g (k+1-(i+1)))=((i+1:Nat):Int)*f (i+1)*g (k-i);rw[show k+1-(i+1)=k-i by omega,xbG]
 ·show zU (k+1) _+((k+1-(k+1):Nat):Int)*_=_;rw[xcU,show((0:Nat):Int)=0 from rfl,xaU,xbx];exact zT fun i hi=>by
   show((k+1-i:Nat):Int)*(f i*g (k+1-i))=f i*(((k-i+1:Nat):Int)*g (k-i+1));rw[show k+1-i=k-i+1 by omega,<-xbG,<-xbG,xbi (f i)]
theorem R8{m:Int}{f g:Pz}(h:Cg m f g):Cg m (dvp f) (dvp g):=fun k=>by
 show(((k+1:Nat):Int)*f (k+1)) % m=(((k+1:Nat):Int)*g (k+1)) % m;rw[xbq,h,<-xbq]
theorem ze5(c:Int):dvp (pc c)=pc 0:=funext fun k=>by
 show((k+1:Nat):Int)*pc c (k+1)=pc 0 k;rw[zK];unfold pc;rw[zx,xat]
def drv(p:Int)(a:List Int):List Int:=nl a.length (fun k=>dvp (ci a) k % p)
theorem zbH{k:Nat}(h:a.length<=k+1):dvp (ci a) k=0:=by
 show((k+1:Nat):Int)*ci a (k+1)=0;rw[zP h,xat]
theorem AI(p:Int)(a:List Int)(k:Nat):ci (drv p a) k=dvp (ci a) k % p:=mU (fun k hk=>by rw[zbH (by omega),xag]) k
theorem zaF(p:Int)(a:List Int):Cg p (ci (drv p a)) (dvp (ci a)):=fun k=>by rw[AI,xaC]
theorem Pb(hp:0<p)(a:List Int):Fp p (drv p a):=⟨fun k=>by rw[AI];exact(yg hp).1,fun k=>by rw[AI];exact(yg hp).2,gf _ _⟩
theorem zez(p:Int)(a:List Int):(drv p a).length<=a.length:=tn _ _
theorem dS{fu:Nat}(hp:wB p=true)(ha:Fp p a)(hc:a.length<=90000)(hf:3000000<=fu):Yp fu a p=some (drv p a,0):=by
 obtain⟨p1,p2⟩:=zo hp;unfold Yp;have hb: ∀k:Nat,0<=((k:Int) % p)*ci a k/\((k:Int) % p)*ci a k<=4293001441:=fun k=>by
  have hr:=yg (a:=(k:Int)) (p:=p) (by omega);exact YV p2 hr.1 hr.2 (ha.nn k) (ha.lt k)
 rw[za (jL hp (by omega)),iq rfl,za (zE (by omega) p2 (ha.rl p2) (by omega) hf),ha.pm,za (v:=zl (a.length-1) (fun k=>(((k+1:Nat):Int) % p)*ci a (k+1)))]
 ·have hz: ∀k,a.length-1<=k->(((k+1:Nat):Int) % p)*ci a (k+1)=0:=fun k hk=>by rw[zP (by omega),xat]
  have hr:Rl (zl (a.length-1) (fun k=>(((k+1:Nat):Int) % p)*ci a (k+1))):=fun k=>by
   rw[uh hz];have:=hb (k+1);exact⟨by omega,by omega⟩
  rw[za (zE (by omega) p2 hr (by rw[zF];omega) hf)];congr 2;refine(nY (by omega) _).ext (Pb (by omega) _) fun k=> ?_;rw[tW,uh hz,AI,xaC,xaC];show _=(((k+1:Nat):Int)*ci a (k+1)) % p;rw[xbq,xaC,<-xbq]
 ·refine zC (fun s:List Int×Int×List Int=> ∃i:Nat,i<=a.length/\s=(zl (i-1) (fun k=>(((k+1:Nat):Int) % p)*ci a (k+1)),(i:Int),a)) (fun s=>a.length-s.2.1.toNat) _ ?_ _ _ ⟨0,xaj _,rfl⟩ (by show a.length-0<fu;omega);rintro s L ⟨i,hi,rfl⟩ ih;unfold Ju;simp only;by_cases h:i<a.length
  ·rw[zM,za rfl];simp only[if_true];rw[zp h,zf,Zg];by_cases h0:0<i
   ·have hd:=hb i;obtain⟨j,rfl⟩: ∃j,i=j+1:=⟨i-1,by omega⟩;rw[zM,yF,zf,kZ (by omega),zb,qZ (by rw[zF];simp;omega),zf,show j+1-1=j by omega,O7 (f:=fun k=>(((k+1:Nat):Int) % p)*ci a (k+1)) rfl,zb];exact ih _ ⟨j+1+1,by omega,rfl⟩ (by show a.length-(((j+1:Nat):Int)+1).toNat<a.length-((j+1:Nat):Int).toNat;omega)
   ·obtain rfl:i=0:=by omega
    rw[zx,zb];exact ih _ ⟨1,by omega,rfl⟩ (by show a.length-(((0:Nat):Int)+1).toNat<a.length-((0:Nat):Int).toNat;omega)
  ·rw[zx,za rfl];simp only[xah,if_false];obtain rfl:i=a.length:=by omega
   rfl
end
section
variable{p:Int}{m g d:List Int}{A:Pz}
structure wy(p:Int)(m:List Int):Prop where
 fm:Fp p m
 ln:0<m.length
 top:ci m (m.length-1)=1
theorem wy.mn(h:wy p m):Mn (ci m) (m.length-1):=⟨h.top,fun k hk=>zP (by omega)⟩
theorem wy.one(h:wy p m)(hl:m.length=1):m=[1]:=by
 match m,hl with
 |[x],_=>have:=h.top;exact congrArg (fun y=>[y]) this
theorem tI{q r:List Int}(hp:2<=p)(hm:wy p m)(hg:wy p g)(fA:Fs A)(hd:Cg p (ci m) (A*ci g))(hq:Fp p q)(hr:Fp p r)(ha:Cg p (ci m) (ci q*ci g+ci r))(he:r.length<g.length):
 wy p q/\Cg p (ci m) (ci q*ci g)/\m.length+1=q.length+g.length:=by
 have hf:=hg.ln;have h1:Cg p ((A-ci q)*ci g) (ci r):=by
  rw[w9];refine((hd.symm.trans ha).sub Cg.rfl).trans (Cg.of ?_);funext k;rw[yC,zI];omega
 have h2:=hg.mn.zero hp (fA.subt (Fs.ci q)) fun k hk=>by rw[h1 k,zP (by omega),xag]
 have h3:Cg p (ci r) (pc 0):=h1.symm.trans (h2.mul_zero_r _);have h4:Cg p (ci m) (ci q*ci g):=by
  refine ha.trans (Cg.iff_sub.2 ?_);have e:ci q*ci g+ci r-ci q*ci g=ci r:=by
   funext k;rw[yC,zI];omega
  rw[e];exact h3
 have hl:=hm.ln;have q0:0<q.length:=by
  refine xcE fun e=> ?_;have h5:=h4 (m.length-1);rw[hm.top,xr,yT fun i hi=>by rw[zP (l:=q) (by omega),xaU],xag,xaz (by decide) (by omega)]at h5;cases h5
 have ht:=hg.mn.top (x:=ci q) (n:=q.length-1) fun k hk=>zP (by omega);have h6:=h4 (q.length-1+(g.length-1));rw[ht,hm.fm.mod,hq.mod]at h6;have hc:ci q (q.length-1)≠0:=by
  rcases hq.nl with h|h
  ·omega
  ·exact h
 have hb:m.length+1=q.length+g.length:=by
  have a1:q.length-1+(g.length-1)<m.length:=xdI fun h=>by
   rw[zP h]at h6;exact hc h6.symm
  have a2:m.length<=q.length-1+(g.length-1)+1:=hm.fm.nl.le fun k hk=>by rw[<-hm.fm.mod,h4,qk (n:=q.length) (m:=g.length) (fun j hj=>zP hj) (fun j hj=>zP hj) (by omega),xag]
  omega
 refine⟨⟨hq,q0,?_⟩,h4,hb⟩;rw[<-h6,show q.length-1+(g.length-1)=m.length-1 by omega,hm.top]
theorem zcl{h s t:List Int}{S:Nat}(hp:2<=p)(hg:wy p g)(hR:BzR p g h d s t S)(hd:d.length=0\/ci d (d.length-1)=1):wy p d:=by
 obtain⟨A,C,z1,z2,d1,d2⟩:=hR.dv;have hl:0<d.length:=by
  refine xcE fun e=> ?_;have h1:=d1 (g.length-1);rw[hg.top,xr,yT fun i hi=>by rw[zP (l:=d) (by omega),xat],xag,xaz (by decide) (by omega)]at h1;cases h1
 exact⟨hR.df,hl,hd.resolve_left (by omega)⟩
theorem Ub{a:List Int}(hp:2<=p)(ha:wy p a)(hd:wy p d)(fA:Fs A)(h:Cg p (ci a) (A*ci d)):d.length<=a.length:=by
 have hb:=ha.ln;refine xbw fun hc=> ?_;have hz: ∀k,d.length-1<=k->(A*ci d) k % p=0:=fun k hk=>by rw[<-h k,zP (by omega),xag]
 have h0:=hd.mn.zero hp fA hz;have h5:=(h.trans (h0.mul_zero_r _)) (a.length-1);rw[ha.top,zK,xag,xaz (by decide) (by omega)]at h5;cases h5
end
theorem Td{p:Int}{m:List Int}(hp:0<p)(hm:Fp p m):y4 p m [1]=m:=by
 refine(vG hp _ _).ext hm ((ki p m [1]).trans (Cg.of ?_));rw[vW,zY]
section
variable{m u d g:List Int}{P:Nat}{f v w:Pz}{y p a:Int}{b:Nat->Pz}{l us:List (List Int)}
def pp(f:Pz):Nat->Pz
 |0=>pc 1
 |n+1=>pp f n*f
theorem lX(f:Pz)(m:Nat): ∀n,pp f (m+n)=pp f m*pp f n
 |0=>(zY _).symm
 |n+1=>by rw[<-xcW];show pp f (m+n)*f=_;rw[lX f m n,zd];rfl
theorem RV(f g:Pz): ∀n,pp (f*g) n=pp f n*pp g n
 |0=>(zY _).symm
 |n+1=>by
  show pp (f*g) n*(f*g)=pp f n*f*(pp g n*g);rw[RV f g n,zd,zd,zw (pp g n)]
theorem Rm(f:Pz)(m:Nat): ∀n,pp (pp f m) n=pp f (m*n)
 |0=>rfl
 |n+1=>by rw[Nat.mul_succ,lX f,<-Rm f m n];rfl
theorem Sp(c:Int): ∀n,pp (pc c) n=pc (c^n)
 |0=>by rw[xbs];rfl
 |n+1=>by show pp (pc c) n*pc c=_;rw[Sp c n,jX,xbk]
theorem Fs.pp{f:Pz}(h:Fs f): ∀n,Fs (pp f n)
 |0=>⟨1,fun k hk=>zx⟩
 |n+1=>(Fs.pp h n).mul h
def smP:Nat->(Nat->Pz)->Pz
 |0,_=>pc 0
 |n+1,F=>smP n F+F n
theorem ZT{F G:Nat->Pz}: ∀n,(∀i,i<n->F i=G i)->smP n F=smP n G
 |0,_=>rfl
 |n+1,h=>by show smP n F+F n=smP n G+G n;rw[ZT n fun i hi=>h i (by omega),h n (by omega)]
theorem HN{m:Int}{F G:Nat->Pz}: ∀n,(∀i,i<n->Cg m (F i) (G i))->Cg m (smP n F) (smP n G)
 |0,_=>Cg.rfl
 |n+1,h=>(HN n fun i hi=>h i (by omega)).add (h n (by omega))
theorem WJ(f g:Pz):f+g=g+f:=funext fun k=>by rw[zI,zI,xfu]
theorem YT(f g h:Pz):f+g+h=f+(g+h):=funext fun k=>by simp only[zI];omega
theorem ZW(f:Pz):f+pc 0=f:=funext fun k=>by rw[zI,zK,xbx]
theorem mW(f:Pz):pc 0+f=f:=funext fun k=>by rw[zI,zK,xcA]
theorem aY(g:Pz)(F:Nat->Pz): ∀n,smP n F*g=smP n fun i=>F i*g
 |0=>yc g
 |n+1=>by show(smP n F+F n)*g=smP n (fun i=>F i*g)+F n*g;rw[yo,aY g F n]
theorem AY(F G:Nat->Pz): ∀n,smP n (fun i=>F i+G i)=smP n F+smP n G
 |0=>(ZW _).symm
 |n+1=>by
  show smP n (fun i=>F i+G i)+(F n+G n)=smP n F+F n+(smP n G+G n);rw[AY F G n];funext k;simp only[zI];omega
theorem uF(F:Nat->Pz): ∀n,smP (n+1) F=F 0+smP n fun i=>F (i+1)
 |0=>by show pc 0+F 0=F 0+pc 0;rw[WJ]
 |n+1=>by show smP (n+1) F+F (n+1)=F 0+(smP n (fun i=>F (i+1))+F (n+1));rw[uF F n,YT]
theorem OQ{m:Int}{F:Nat->Pz}(n:Nat)(h: ∀i,i<n->Cg m (F i) (pc 0)):Cg m (smP n F) (pc 0):=by
 induction n with
 |zero=>exact Cg.rfl
 |succ n ih=>
  have:=(ih fun i hi=>h i (by omega)).add (h n (by omega));rw[ZW]at this;exact this
theorem IQ(a b:Int):pc (a+b)=pc a+pc b:=funext fun k=>by rw[zI];unfold pc;split<;>omega
theorem S5(f g:Pz): ∀n,pp (f+g) n=smP (n+1) fun i=>pc (W5 n i)*(pp f i*pp g (n-i))
 |0=>by
  show pc 1=pc 0+pc ((W5 0 0:Nat):Int)*(pc 1*pc 1);rw[mW,zy,show((W5 0 0:Nat):Int)=1 from rfl,zy]
 |n+1=>by
  show pp (f+g) n*(f+g)=_;rw[S5 f g n,xB,aY,aY];have e1:(smP (n+1) fun i=>pc (W5 n i)*(pp f i*pp g (n-i))*g)=smP (n+2) fun i=>pc (W5 n i)*(pp f i*pp g (n+1-i)):=by
   have hz:pc ((W5 n (n+1):Nat):Int)*(pp f (n+1)*pp g (n+1-(n+1)))=pc 0:=by rw[QL n (n+1) (by omega)];exact yc _
   show _=smP (n+1) _+pc ((W5 n (n+1):Nat):Int)*(pp f (n+1)*pp g (n+1-(n+1)));rw[hz,ZW];refine ZT _ fun i hi=> ?_;rw[show n+1-i=n-i+1 by omega,zd,zd];rfl
  have e2:(smP (n+1) fun i=>pc (W5 n i)*(pp f i*pp g (n-i))*f)=smP (n+1) fun i=>pc (W5 n i)*(pp f (i+1)*pp g (n+1-(i+1))):=
   ZT _ fun i hi=>by rw[show n+1-(i+1)=n-i by omega,zd,zg (pp f i*_) f,<-zd f,zg f (pp f i)];rfl
  rw[e1,e2,uF _ (n+1),uF (fun i=>pc ((W5 (n+1) i:Nat):Int)*(pp f i*pp g (n+1-i))) (n+1),YU,YU,<-YT,WJ (smP _ _),YT,<-AY];congr 1;refine ZT _ fun i hi=> ?_;rw[YG,xdU,IQ,yo,WJ]
theorem zgL(hp:2<=P)(hn:vF P)(f g:Pz):Cg (P:Int) (pp (f+g) P) (pp f P+pp g P):=by
 obtain⟨q,rfl⟩: ∃q,P=q+1:=⟨P-1,by omega⟩;rw[S5];show Cg _ (smP (q+1) _+pc ((W5 (q+1) (q+1):Nat):Int)*(pp f (q+1)*pp g (q+1-(q+1)))) _;rw[uF,lS,YU,xcU,show((1:Nat):Int)=1 from rfl,zy,zy];have hz:=OQ (m:=((q+1:Nat):Int)) (F:=fun i=>pc ((W5 (q+1) (i+1):Nat):Int)*(pp f (i+1)*pp g (q+1-(i+1)))) q fun i hi=>Cg.of_dvd fun k=>by
  rw[zQ];exact xbB (xef.2 (MZ hp hn (by omega) (by omega))) (xcj _ _)
 have h1:pp f 0*pp g (q+1-0)=pp g (q+1):=zy _;have h2:pp f (q+1)*pp g 0=pp f (q+1):=zY _;rw[h1,h2];have h3:=((Cg.rfl (m:=((q+1:Nat):Int)) (f:=pp g (q+1))).add hz).add (Cg.rfl (f:=pp f (q+1)));rw[ZW,WJ (pp g _) (pp f _)]at h3;exact h3
theorem tv{P:Nat}(hp:2<=P)(hn:vF P)(F:Nat->Pz): ∀n,Cg (P:Int) (pp (smP n F) P) (smP n fun i=>pp (F i) P)
 |0=>by
  show Cg _ (pp (pc 0) P) (pc 0);rw[Sp,Int.zero_pow (by omega)];exact Cg.rfl
 |n+1=>(zgL hp hn (smP n F) (F n)).trans ((tv hp hn F n).add Cg.rfl)
def vx:Pz:=mono 1 1
theorem Ml(c:Int): ∀i,(mono i c:Pz)=pc c*pp vx i
 |0=>by
  show _=pc c*pc 1;rw[zY];funext k;unfold mono pc;rfl
 |i+1=>by
  show _=pc c*(pp vx i*vx);rw[<-zd,<-Ml c i];funext k;rw[zg];show mono (i+1) c k=((mono 1 1:Pz)*mono i c) k;rw[YS];unfold sh mono;by_cases h:1<=k
  ·rw[iq h];by_cases h2:k=i+1
   ·rw[iq h2,zM,xbY]
   ·rw[ir h2,zx,xat]
  ·rw[ir h,zx];rfl
theorem RR{n:Nat}(h: ∀k,n<=k->f k=0):f=smP n fun i=>mono i (f i):=by
 have hs: ∀m k,smP m (fun i=>(mono i (f i):Pz)) k=if k<m then f k else 0:=fun m=>by
  induction m with
  |zero=>intro k;rw[zx];exact zK k
  |succ m ih=>
   intro k;show(smP m (fun i=>(mono i (f i):Pz))+mono m (f m)) k=_;rw[zI,ih];unfold mono;by_cases h1:k=m
   ·rw[iq h1,zx,zM,h1,xcA]
   ·rw[ir h1,xbx];by_cases h2:k<m
    ·rw[iq h2,zM]
    ·rw[ir h2,zx]
 funext k;rw[hs];split
 ·rfl
 ·exact h k (by omega)
theorem oO(hp:2<=P)(hn:vF P)(a:Int):a^P % P=a % P:=by
 have h1:a % P=((a % P).toNat:Int) % P:=by
  have:=xcP a (show(P:Int)≠0 by omega);rw[xcT this,xaC]
 have h2:=IV hp hn (a % P).toNat;have h3:=xcP a (show(P:Int)≠0 by omega);rw[xcT h3,xaC]at h2;rw[<-h2,<-xcC (a^P) (xdN _)];have: ∀n,(a % P)^n % P=a^n % P:=fun n=>by
  induction n with
  |zero=>rw[xbs,xbs]
  |succ n ih=>rw[xbk,xbk,xbq,ih,xaC,<-xbq]
 rw[this,xaC]
theorem zf1(hp:2<=P)(hn:vF P){n:Nat}(h: ∀k,n<=k->f k=0):Cg (P:Int) (pp f P) (smP n fun i=>pc (f i)*pp (pp vx P) i):=by
 have h1:pp f P=pp (smP n fun i=>mono i (f i)) P:=by rw[<-RR h]
 rw[h1];refine(tv hp hn _ n).trans (HN n fun i hi=> ?_);rw[Ml,RV,Sp,Rm,Rm,xba];refine Cg.mul (fun k=> ?_) Cg.rfl;unfold pc;split
 ·exact oO hp hn _
 ·rfl
def es(d:Nat->Int):Nat->Int->Int
 |0,_=>0
 |n+1,a=>d 0+a*es (fun k=>d (k+1)) n a
theorem Tj(a:Int): ∀(n:Nat) (d:Nat->Int),∃q:Nat->Int,(∀b,es d (n+1) b=(b-a)*es q n b+es d (n+1) a)/\(∀k,k<n->d (k+1)=q k-a*(if k+1<n then q (k+1)else 0))/\d 0=es d (n+1) a-a*(if 0<n then q 0 else 0)
 |0,d=>⟨fun _=>0,fun b=>by show d 0+b*0=(b-a)*0+(d 0+a*0);grind,fun k hk=>by omega,by show d 0=d 0+a*0-a*(if 0<0 then 0 else 0);rw[zx];grind⟩
 |n+1,d=>by
  obtain⟨q,h1,h2,h3⟩:=Tj a n fun k=>d (k+1);obtain⟨e,he⟩: ∃e,e=es (fun k=>d (k+1)) (n+1) a:=⟨_,rfl⟩;rw[<-he]at h1 h3
  refine⟨fun k=>match k with
   |0=>e
   |k+1=>q k,fun b=> ?_,fun k hk=> ?_,?_⟩
  ·show d 0+b*es (fun k=>d (k+1)) (n+1) b=(b-a)*(e+b*es q n b)+(d 0+a*es (fun k=>d (k+1)) (n+1) a);rw[h1 b,<-he];generalize es q n b=x;grind
  ·cases k with
   |zero=>
    show d (0+1)=e-a*(if 0+1<n+1 then q 0 else 0);have ha:d (0+1)=e-a*(if 0<n then q 0 else 0):=h3;rw[ha];by_cases hn:0<n
    ·rw[iq hn,zM]
    ·rw[ir hn,zx]
   |succ k=>
    show d (k+1+1)=q k-a*(if k+1+1<n+1 then q (k+1)else 0);rw[h2 k (by omega)];by_cases hn:k+1<n
    ·rw[iq hn,zM]
    ·rw[ir hn,zx]
  ·show d 0=d 0+a*es (fun k=>d (k+1)) (n+1) a-a*(if 0<n+1 then e else 0);rw[zM,he];grind
theorem C7(hp:2<=P)(hn:vF P){x:Int}(h:(P:Int)∣x*y):(P:Int)∣x\/(P:Int)∣y:=by
 by_cases hx:(P:Int)∣x
 ·exact .inl hx
 ·right;have h0:0<(x % P).toNat:=by
   have h1:=xcP x (show(P:Int)≠0 by omega);have h2:x % P≠0:=fun e=>hx (xaG e);omega
  have h1:(x % P).toNat<P:=by
   have:=xdu x (show(0:Int)<P by omega);omega
  have h2:(P:Int)∣(x % P)*y:=by
   have:(x % P)*y=x*y-P*(x/P*y):=by
    have:=Int.emod_add_mul_ediv x P;grind
   rw[this];exact xdo h (xcj _ _)
  have h3:P∣(x % P).toNat*y.natAbs:=by
   have h4:=xcl.2 h2;rw[xcr]at h4;have h5:(x % P).natAbs=(x % P).toNat:=by omega
   rwa[xbc,h5]at h4
  exact xcl.1 (by rw[xbc];exact MA hp hn h0 h1 h3)
theorem Mz{P:Nat}(hp:2<=P)(hn:vF P): ∀(n:Nat) (d:Nat->Int),n<=P->(∀a:Nat,a<n->(P:Int)∣es d n a)-> ∀k,k<n->(P:Int)∣d k
 |0,_,_,_,k,hk=>by omega
 |n+1,d,hP,h,k,hk=>by
  obtain⟨q,h1,h2,h3⟩:=Tj (n:Int) n d;have hq:=Mz hp hn n q (by omega) fun a ha=>by
   have e1:=h1 a;have e2:(P:Int)∣((a:Int)-n)*es q n a:=by
    have:((a:Int)-n)*es q n a=es d (n+1) a-es d (n+1) n:=by omega
    rw[this];exact xdo (h a (by omega)) (h n (by omega))
   rcases C7 hp hn e2 with e3|e3
   ·exfalso;obtain⟨c,hc⟩:=e3;have h5:c<0:=by
     apply Int.not_le.1;intro hb;have:=xcy (show(0:Int)<=P by omega) hb;omega
    have h6:(P:Int)*c<=(P:Int)*(-1):=xaW (by omega) (by omega);omega
   ·exact e3
  have hd:=h n (by omega)
  cases k with
  |zero=>
   rw[h3];refine xdo hd ?_;split
   ·exact xbB (hq 0 (by omega)) (xcK _ _)
   ·rw[xat];exact xcJ _
  |succ k=>
   rw[h2 k (by omega)];refine xdo (hq k (by omega)) ?_;split
   ·exact xbB (hq (k+1) (by omega)) (xcK _ _)
   ·rw[xat];exact xcJ _
def sc:Nat->Nat->Int
 |0,k=>if k=0 then 1 else 0
 |n+1,0=> -(n:Int)*sc n 0
 |n+1,k+1=>sc n k-(n:Int)*sc n (k+1)
theorem ek: ∀n k,n<k->sc n k=0
 |0,k,h=>zx
 |n+1,0,h=>by omega
 |n+1,k+1,h=>by show sc n k-(n:Int)*sc n (k+1)=0;rw[ek n k (by omega),ek n (k+1) (by omega)];grind
theorem GF: ∀n,sc n n=1
 |0=>rfl
 |n+1=>by show sc n n-(n:Int)*sc n (n+1)=1;rw[GF n,ek n (n+1) (by omega)];grind
def prv(v:Pz):Nat->Pz
 |0=>pc 1
 |n+1=>prv v n*(v-pc n)
theorem MQ(a:Int)(f:Pz):pc (-a)*f= -(pc a*f):=funext fun k=>by rw[sK,zQ,zQ,Int.neg_mul]
theorem L5(v:Pz): ∀n,prv v n=smP (n+1) fun k=>pc (sc n k)*pp v k
 |0=>by
  show pc 1=pc 0+pc (sc 0 0)*pc 1;rw[mW,show sc 0 0=1 from rfl,zY]
 |n+1=>by
  show prv v n*(v-pc n)=_;have e: ∀F G:Pz,F*(G-pc n)=F*G+ -(pc n*F):=fun F G=>by rw[w7,zg F (pc n),dj]
  rw[e,L5 v n,aY];have e2: -(pc (n:Int)*smP (n+1) fun k=>pc (sc n k)*pp v k)=smP (n+2) fun k=>pc (-(n:Int)*sc n k)*pp v k:=by
   rw[<-MQ,zg,aY];show _=smP (n+1) _+pc (-(n:Int)*sc n (n+1))*pp v (n+1);rw[ek n (n+1) (by omega),xat,yc,ZW];exact ZT _ fun i _=>by rw[zg,<-zd,jX]
  rw[e2,uF _ (n+1),uF (fun k=>pc (sc (n+1) k)*pp v k) (n+1),<-YT,WJ (smP _ _),YT,<-AY];congr 1;refine ZT _ fun i _=> ?_;show pc (sc n i)*pp v i*v+pc (-(n:Int)*sc n (i+1))*pp v (i+1)=pc (sc n i-(n:Int)*sc n (i+1))*pp v (i+1);rw[zd];show pc (sc n i)*pp v (i+1)+_=_;rw[<-yo,<-IQ];congr 2;grind
theorem Ki(d:Nat->Int)(a:Int): ∀n,es d (n+1) a=es d n a+d n*a^n:=by
 intro n
 induction n generalizing d with
 |zero=>show d 0+a*0=0+d 0*a^0;rw[xbs];grind
 |succ n ih=>
  show d 0+a*es (fun k=>d (k+1)) (n+1) a=d 0+a*es (fun k=>d (k+1)) n a+d (n+1)*a^(n+1);rw[ih,xbk];grind
theorem GI(c d:Nat->Int)(a:Int): ∀n,es (fun k=>c k+d k) n a=es c n a+es d n a
 |0=>rfl
 |n+1=>by rw[Ki,Ki,Ki,GI c d a n];grind
def prn(a:Int):Nat->Int
 |0=>1
 |n+1=>prn a n*(a-n)
theorem O3(a:Int): ∀n,prn a n=es (sc n) (n+1) a
 |0=>by show(1:Int)=1+a*0;grind
 |n+1=>by
  show prn a n*(a-n)=_;have h1:es (sc (n+1)) (n+2) a= -(n:Int)*sc n 0+a*es (fun k=>sc n k-(n:Int)*sc n (k+1)) (n+1) a:=rfl;have h2:es (fun k=>sc n k-(n:Int)*sc n (k+1)) (n+1) a=es (sc n) (n+1) a+es (fun k=> -(n:Int)*sc n (k+1)) (n+1) a:=by rw[<-GI];congr 1;funext k;grind
  have h3: ∀m (d:Nat->Int) (c:Int),es (fun k=>c*d k) m a=c*es d m a:=fun m=>by
   induction m with
   |zero=>intro d c;show(0:Int)=c*0;grind
   |succ m ih=>intro d c;rw[Ki,Ki,ih];grind
  have h4:es (sc n) (n+2) a=es (sc n) (n+1) a:=by rw[Ki,ek n (n+1) (by omega),xaU,xbx]
  have h5:es (sc n) (n+2) a=sc n 0+a*es (fun k=>sc n (k+1)) (n+1) a:=rfl;rw[h1,h2,h3,O3 a n];grind
theorem Ly{a:Nat}: ∀n,a<n->prn a n=0
 |0,h=>by omega
 |n+1,h=>by
  show prn a n*((a:Int)-n)=0;by_cases e:a=n
  ·rw[e,xcV,xat]
  ·rw[Ly n (by omega),xaU]
theorem zeI(hp:2<=P)(hn:vF P)(k:Nat):sc P k % P=(if k=P then(1:Int)else if k=1 then-1 else 0) % P:=by
 by_cases h:k<P
 ·have hz:=Mz hp hn P (fun k=>sc P k+(if k=1 then 1 else 0)) (xac _) (fun a ha=>by
   rw[GI];have e1:es (fun k=>if k=1 then(1:Int)else 0) P (a:Int)=a:=by
    obtain⟨q,rfl⟩: ∃q,P=q+2:=⟨P-2,by omega⟩;show(0:Int)+a*((1:Int)+a*es (fun k=>if k+1+1=1 then(1:Int)else 0) q a)=a;have: ∀m,es (fun k=>if k+1+1=1 then(1:Int)else 0) m (a:Int)=0:=fun m=>by
     induction m with
     |zero=>rfl
     |succ m ih=>rw[Ki,ih,zx];grind
    rw[this];grind
   have e2:=O3 (a:Int) P;rw[Ly P ha,Ki,GF]at e2;have e3:=oO hp hn (a:Int);rw[e1];have e4:es (sc P) P (a:Int)+a=a-a^P:=by grind
   rw[e4];exact xaG (xaH.1 e3.symm)) k h
  rw[zx];have hb:=xax hz;by_cases h1:k=1
  ·rw[iq h1]at hb⊢;refine xaH.2 ?_;rw[show sc P k- -1=sc P k+1 by omega];exact hb
  ·rw[ir h1]at hb⊢;rw[xbx]at hb;rw[hb,xag]
 ·by_cases h2:k=P
  ·rw[iq h2,h2,GF]
  ·rw[ir h2,zx,ek P k (by omega)]
theorem PG: ∀n,(smP n fun _=>pc 0)=pc 0
 |0=>rfl
 |n+1=>by show(smP n fun _=>pc 0)+pc 0=pc 0;rw[PG n,ZW]
theorem zcI(hp:2<=P)(hn:vF P)(v:Pz):Cg (P:Int) (prv v P) (pp v P-v):=by
 rw[L5]
 have h1:Cg (P:Int) (smP (P+1) fun k=>pc (sc P k)*pp v k) (smP (P+1) fun k=>pc (if k=P then(1:Int)else if k=1 then-1 else 0)*pp v k):=
  HN _ fun k _=>Cg.mul (fun j=>by unfold pc;split;exact zeI hp hn k;rfl) Cg.rfl
 refine h1.trans (Cg.of ?_);obtain⟨q,rfl⟩: ∃q,P=q+2:=⟨P-2,by omega⟩;show smP (q+2) _+pc (if q+2=q+2 then(1:Int)else _)*pp v (q+2)=_;rw[iq rfl,zy,uF _ (q+1),uF _ q,zx,zx,zx,iq rfl];have hz:(smP q fun k=>pc (if k+1+1=q+2 then(1:Int)else if k+1+1=1 then-1 else 0)*pp v (k+1+1))=pc 0:=by
  rw[ZT (G:=fun _=>pc 0) q fun i hi=>by rw[zx,zx,yc]];exact PG q
 rw[hz];have h2:pc (-1)*pp v (0+1)= -v:=by
  rw[MQ,zy];show-(pc 1*v)= -v;rw[zy]
 rw[h2,yc];funext k;simp only[zI,yC,sK,zK];omega
def Di(p:Int)(u v:Pz):Prop:= ∃q:Pz,Fs q/\Cg p v (q*u)
theorem Di.refl(p:Int)(u:Pz):Di p u u:=⟨pc 1,Fs.pc 1,Cg.of (zy u).symm⟩
theorem Di.trans{p:Int}{u v w:Pz}(h:Di p u v)(g:Di p v w):Di p u w:=by
 obtain⟨q,f1,h1⟩:=h;obtain⟨r,f2,h2⟩:=g;exact⟨r*q,f2.mul f1,h2.trans (((Cg.rfl (f:=r)).mul h1).trans (Cg.of (zd r q u).symm))⟩
theorem Di.add{p:Int}{u v w:Pz}(h:Di p u v)(g:Di p u w):Di p u (v+w):=by
 obtain⟨q,f1,h1⟩:=h;obtain⟨r,f2,h2⟩:=g;exact⟨q+r,f1.add f2,(h1.add h2).trans (Cg.of (yo q r u).symm)⟩
theorem Di.sub{p:Int}{u v w:Pz}(h:Di p u v)(g:Di p u w):Di p u (v-w):=by
 obtain⟨q,f1,h1⟩:=h;obtain⟨r,f2,h2⟩:=g;exact⟨q-r,f1.subt f2,(h1.sub h2).trans (Cg.of (w9 q r u).symm)⟩
theorem Di.mul{p:Int}{u v:Pz}(w:Pz)(fw:Fs w)(h:Di p u v):Di p u (w*v):=by
 obtain⟨q,f1,h1⟩:=h;exact⟨w*q,fw.mul f1,((Cg.rfl (f:=w)).mul h1).trans (Cg.of (zd w q u).symm)⟩
theorem Di.cg{u:Pz}(h:Di p u v)(g:Cg p v w):Di p u w:=by
 obtain⟨q,f1,h1⟩:=h;exact⟨q,f1,g.symm.trans h1⟩
theorem Di.zero(p:Int)(u:Pz):Di p u (pc 0):=⟨pc 0,Fs.pc 0,Cg.of (yc u).symm⟩
theorem Di.euclid{u:Pz}(fw:Fs w)(h:qD p u v)(g:Di p u (v*w)):Di p u w:=by
 obtain⟨s,t,fs,ft,h1⟩:=h;have h2:Cg p (w*s*u+t*(v*w)) w:=by
  refine Cg.trans (Cg.of ?_) ((h1.mul (Cg.rfl (f:=w))).trans (Cg.of (zy w)));rw[yo,zd t,zg (s*u) w,zd w]
 refine Di.cg (Di.add ?_ (g.mul t ft)) h2;exact⟨w*s,fw.mul fs,Cg.rfl⟩
theorem Di.both{u:Pz}(fw:Fs w)(h:qD p u v)(g1:Di p u w)(g2:Di p v w):Di p (u*v) w:=by
 obtain⟨q,fq,h1⟩:=g2;have h2:Di p u q:=Di.euclid fq h (g1.cg (h1.trans (Cg.of (zg q v))));obtain⟨r,fr,h3⟩:=h2;refine⟨r,fr,h1.trans ((h3.mul (Cg.rfl (f:=v))).trans (Cg.of (zd r u v)))⟩
theorem Di.prz{p:Int}{w:Pz}(fw:Fs w): ∀{us:List Pz},(∀u∈us,Fs u)->us.Pairwise (qD p)->(∀u∈us,Di p u w)->Di p (prZ us) w
 |[],_,_,_=>⟨w,fw,Cg.of (zY w).symm⟩
 |u::us,hF,hp,h=>by
  obtain⟨h1,h2⟩:=xcZ.1 hp;refine Di.both fw ?_ (h u (FS)) (Di.prz fw (fun g hg=>hF g (H1 _ hg)) h2 fun g hg=>h g (H1 _ hg));exact(qD.prZ (hF u (FS)) (fun g hg=>hF g (H1 _ hg)) fun g hg=>(h1 g hg).symm).symm
structure W9(p:Int)(u:List Int):Prop where
 mn:wy p u
 l1:1<u.length
 ir: ∀d,wy p d->Di p (ci d) (ci u)->d.length=1\/d=u
theorem Bt{a b:List Int}(hp:2<=p)(ha:wy p a)(hb:wy p b)(h:Di p (ci a) (ci b))(hl:b.length<=a.length):a=b:=by
 obtain⟨q,fq,h1⟩:=h;obtain⟨n,hn⟩:=fq;have hd:=ha.ln;have he:=hb.ln;have hf:=Ub hp hb ha ⟨n,hn⟩ h1;have e:a.length=b.length:=by omega
 have h2:Cg p ((q-pc 1)*ci a) (ci b-ci a):=by
  rw[w9,zy];exact h1.symm.sub Cg.rfl
 have h3:=ha.mn.zero hp (Fs.subt ⟨n,hn⟩ (Fs.pc 1)) fun k hk=>by
  rw[h2 k,yC];by_cases hc:k=a.length-1
  ·have ta:=ha.top;have tb:=hb.top;rw[hc,ta,e,tb,xcV,xag]
  ·rw[zP (by omega),zP (by omega)];exact xag _
 refine ha.fm.ext hb.fm ?_;have h4:=h2.symm.trans (h3.mul_zero_r (ci a));exact(Cg.iff_sub.2 h4).symm
theorem W9.or(hp:wB p=true){l:List Int}(hu:W9 p u)(ha:u.length<=290)(hl:Fp p l)(hb:l.length<=290):Di p (ci u) (ci l)\/qD p (ci u) (ci l):=by
 obtain⟨p1,p2⟩:=zo hp;obtain⟨d,s,t,_,hR,hd⟩:=jv (fu:=3000000) hp hu.mn.fm hl ha hb (xac _);have hm:=zcl p1 hu.mn hR hd;obtain⟨A,C,fA,fC,h1,h2⟩:=hR.dv;rcases hu.ir d hm ⟨A,fA,h1⟩with h3|h3
 ·exact .inr (Bu hR h3 hm.top)
 ·left;rw[<-h3];exact⟨C,fC,h2⟩
theorem W9.ne(hp:2<=p)(hu:W9 p u): ¬Di p (ci u) (pc 1):=fun⟨q,fq,h⟩=>by
 have hl:=hu.l1;have h1:=hu.mn.mn.zero hp fq fun k hk=>by rw[<-h k,show pc 1 k=0 from zx,xag]
 have h2:=(h.trans (h1.mul_zero_r _)) 0;rw[zK,xag]at h2;unfold pc at h2;rw[iq rfl,xaz (by decide) (by omega)]at h2;cases h2
theorem W9.cop(hp:wB p=true){w:List Int}(hu:W9 p u)(hw:W9 p w)(ha:u.length<=290)(hb:w.length<=290)(h:u≠w):qD p (ci u) (ci w):=by
 rcases hu.or hp ha hw.mn.fm hb with h1|h1
 ·exfalso;rcases hw.ir u hu.mn h1 with h2|h2
  ·have:=hu.l1;omega
  ·exact h h2
 ·exact h1
theorem quo(hp:wB p=true)(hm:wy p m)(hd:wy p d)(ha:m.length<=90000)(h:Di p (ci d) (ci m)): ∃q,wy p q/\Cg p (ci m) (ci q*ci d)/\m.length+1=q.length+d.length:=by
 obtain⟨p1,p2⟩:=zo hp;obtain⟨A,fA,h1⟩:=h;have hb:=Ub p1 hm hd fA h1;obtain⟨q,r,_,e2,e3,e4,e5,e6⟩:=xb (fu:=3000000) hp hm.fm hd.fm hd.ln ha (by omega) (xac _);obtain⟨a,b,c⟩:=tI p1 hm hd fA h1 e2 e3 e4 e5;exact⟨q,a,b,c⟩
theorem zf5(hp:wB p=true): ∀(n:Nat) {m:List Int},m.length=n->n<=290->wy p m-> ∃us:List (List Int),(∀u∈us,W9 p u/\u.length<=n)/\Cg p (ci m) (prZ (us.map ci)):=by
 intro n
 induction n using xdq with
 |ind n ih=>
  intro m ho hn hm;obtain⟨p1,p2⟩:=zo hp;have hq:=hm.ln;by_cases h1:m.length=1
  ·refine⟨[],(fun u hu=>by cases hu),?_⟩;have:=hm.one h1;rw[this];refine Cg.of (funext fun k=> ?_);show ci [1] k=pc 1 k
   cases k with
   |zero=>rfl
   |succ k=>rw[zP (by simp)];exact(zx).symm
  by_cases hi:W9 p m
  ·refine⟨[m],fun u hu=> ?_,?_⟩
   ·rw[xai.1 hu];exact⟨hi,by omega⟩
   ·exact Cg.of (zY (ci m)).symm
  ·obtain⟨d,ha,hb,hr,he⟩: ∃d,wy p d/\Di p (ci d) (ci m)/\d.length≠1/\d≠m:=by
    apply xaf;intro hf;refine hi ⟨hm,by omega,fun d h2 h3=> ?_⟩;by_cases h4:d.length=1
    ·exact .inl h4
    ·right;apply xaf;intro h5;exact hf ⟨d,h2,h3,h4,h5⟩
   obtain⟨q,hg,hj,hs⟩:=quo hp hm ha (by omega) hb;have ht:=ha.ln;have hv:d.length<m.length:=by
    apply xdI;intro h;exact he (Bt p1 ha hm hb h)
   obtain⟨us,hc,hk⟩:=ih d.length (by omega) rfl (by omega) ha;obtain⟨vs,hd,hl⟩:=ih q.length (by omega) rfl (by omega) hg;refine⟨vs++us,fun u hu=> ?_,?_⟩
   ·rcases xaa.1 hu with h|h
    ·exact⟨(hd u h).1,by have:=(hd u h).2;omega⟩
    ·exact⟨(hc u h).1,by have:=(hc u h).2;omega⟩
   ·rw[xaN,xK];exact hj.trans (hl.mul hk)
theorem QJ{p:Int}{u:Pz}: ∀{us:List Pz},(∀w∈us,Fs w)->u∈us->Di p u (prZ us)
 |[],_,h=>by cases h
 |w::us,hF,h=>by
  have ha:=Fs.prZ fun g hg=>hF g (H1 _ hg);rcases xad.1 h with rfl|h
  ·exact⟨prZ us,ha,Cg.of (zg _ _)⟩
  ·exact(QJ (fun g hg=>hF g (H1 _ hg)) h).mul w (hF w (FS))
theorem W9.mem{p:Int}(hp:wB p=true){u:List Int}(hu:W9 p u)(ha:u.length<=290): ∀{us:List (List Int)},(∀w∈us,W9 p w/\w.length<=290)->Di p (ci u) (prZ (us.map ci))->u∈us
 |[],_,h=>absurd h (hu.ne (zo hp).1)
 |w::us,hw,h=>by
  by_cases e:u=w
  ·rw[e];exact FS
  ·have h1:=hu.cop hp (hw w (FS)).1 ha (hw w (FS)).2 e;refine H1 _ (W9.mem hp hu ha (fun g hg=>hw g (H1 _ hg)) (Di.euclid (Fs.prZ fun g hg=> ?_) h1 h));obtain⟨l,_,rfl⟩:=xal.1 hg;exact Fs.ci l
theorem Fs.to{n:Nat}(h: ∀k,n<=k->f k=0):Fs f:=⟨n,h⟩
theorem Fs.vx:Fs vx:=⟨2,fun k hk=>zx⟩
theorem lst(hp:0<p){n:Nat}(h: ∀k,n<=k->f k=0): ∃l:List Int,Fp p l/\l.length<=n/\Cg p (ci l) f:=by
 refine⟨pm p (zl n f),nY hp _,xao (ME _ _) (by rw[zF];exact xac _),?_⟩;exact(FZ p _).trans (Cg.of (funext fun k=>uh h k))
theorem W9.or'(hp:wB p=true)(hu:W9 p u)(ha:u.length<=290){n:Nat}(h: ∀k,n<=k->f k=0)(hn:n<=290):Di p (ci u) f\/qD p (ci u) f:=by
 obtain⟨p1,p2⟩:=zo hp;obtain⟨l,h1,h2,h3⟩:=lst (p:=p) (by omega) h;rcases hu.or hp ha h1 (by omega)with h4|h4
 ·exact .inl (h4.cg h3)
 ·exact .inr (h4.congr Cg.rfl h3)
theorem W9.const(hp:2<=p)(hu:W9 p u){c:Int}(h:Di p (ci u) (pc c)):p∣c:=by
 obtain⟨q,fq,h⟩:=h;have hl:=hu.l1;have h1:=hu.mn.mn.zero hp fq fun k hk=>by rw[<-h k,show pc c k=0 from zx,xag]
 have h2:=(h.trans (h1.mul_zero_r _)) 0;rw[zK,xag]at h2;exact xaG h2
theorem Di.const{c:Int}{u:Pz}(h:p∣c):Di p u (pc c):=(Di.zero p u).cg fun k=>by
 rw[zK];unfold pc;split
 ·rw[xag,xax h]
 ·rfl
def Vl(p:Int)(u:List Int)(v:Pz)(c:Int):Prop:=Di p (ci u) (v-pc c)
theorem GA(a b:Int):pc (a-b)=pc a-pc b:=funext fun k=>by rw[yC];unfold pc;split<;>omega
theorem Vl.uniq(hp:2<=p)(hu:W9 p u){b:Int}(h:Vl p u v a)(g:Vl p u v b):p∣a-b:=by
 refine hu.const hp ((Di.sub g h).cg (Cg.of ?_));rw[GA];funext k;simp only[yC];omega
theorem Vl.add{p:Int}{u:List Int}{v w:Pz}{a b:Int}(h:Vl p u v a)(g:Vl p u w b):Vl p u (v+w) (a+b):=by
 refine(Di.add h g).cg (Cg.of ?_);rw[IQ];funext k;simp only[zI,yC];omega
theorem Vl.sub{p:Int}{u:List Int}{v w:Pz}{a b:Int}(h:Vl p u v a)(g:Vl p u w b):Vl p u (v-w) (a-b):=by
 refine(Di.sub h g).cg (Cg.of ?_);rw[GA];funext k;simp only[yC];omega
theorem Vl.mul{p:Int}{u:List Int}{v w:Pz}{a b:Int}(fv:Fs v)(h:Vl p u v a)(g:Vl p u w b):Vl p u (v*w) (a*b):=by
 refine(Di.add (Di.mul v fv g) (Di.mul (pc b) (Fs.pc b) h)).cg (Cg.of ?_);rw[w7,w7,zg v (pc b),jX,xbi b a];funext k;simp only[zI,yC];omega
theorem Vl.pc(p:Int)(u:List Int)(c:Int):Vl p u (pc c) c:=(Di.zero p (ci u)).cg (Cg.of (funext fun k=>by rw[yC,zK,xcV]))
theorem Vl.pp{p:Int}{u:List Int}{v:Pz}{a:Int}(fv:Fs v)(h:Vl p u v a): ∀n,Vl p u (pp v n) (a^n)
 |0=>by rw[xbs];exact Vl.pc p u 1
 |n+1=>by rw[xbk];exact Vl.mul (fv.pp n) (Vl.pp fv h n) h
theorem Vl.cg{p:Int}{u:List Int}{v w:Pz}{a:Int}(h:Vl p u v a)(g:Cg p v w):Vl p u w a:=Di.cg h (g.sub Cg.rfl)
theorem Vl.md{b:Int}(h:Vl p u v a)(g:p∣a-b):Vl p u v b:=by
 refine(Di.add h (Di.const (u:=ci u) g)).cg (Cg.of ?_);rw[GA];funext k;simp only[zI,yC];omega
theorem Vl.di(hp:2<=p)(hu:W9 p u)(h:Vl p u v a):Di p (ci u) v↔p∣a:=by
 constructor
 ·intro g;have h0:Vl p u v 0:=g.cg (Cg.of (funext fun k=>by rw[yC,zK,xcB]));have:=h.uniq hp hu h0;rwa[xcB]at this
 ·intro g;have h0:Vl p u v 0:=h.md (by rwa[xcB]);exact Di.cg h0 (Cg.of (funext fun k=>by rw[yC,zK,xcB]))
theorem TZ{p:Int}(hp:wB p=true){u:List Int}(hu:W9 p u)(ha:u.length<=290){v:Pz}{n:Nat}(hv: ∀k,n<=k->v k=0)(hb:1<=n)(hn:n<=290): ∀j,Di p (ci u) (prv v j)-> ∃c:Nat,c<j/\Vl p u v c
 |0,h=>absurd h (hu.ne (zo hp).1)
 |j+1,h=>by
  have hz: ∀k,n<=k->(v-pc (j:Int)) k=0:=fun k hk=>by rw[yC,hv k hk,show pc (j:Int) k=0 from zx];rfl
  rcases hu.or' hp ha hz hn with h1|h1
  ·exact⟨j,by omega,h1⟩
  ·have fj: ∀i,Fs (prv v i):=fun i=>by
    induction i with
    |zero=>exact Fs.pc 1
    |succ i ih=>exact ih.mul ((Fs.to hv).subt (Fs.pc _))
   have h2:Di p (ci u) (prv v j):=Di.euclid (fj j) h1 (h.cg (Cg.of (zg _ _)));obtain⟨c,hc,h3⟩:=TZ hp hu ha hv hb hn j h2;exact⟨c,by omega,h3⟩
theorem zcg(hp:wB (P:Int)=true)(hu:W9 (P:Int) u)(hb:u.length<=290)(hc:Di (P:Int) (ci u) (ci m)){n:Nat}(hv: ∀k,n<=k->v k=0)(hd:1<=n)(hn:n<=290)(hf:Di (P:Int) (ci m) (pp v P-v)): ∃c:Nat,c<P/\Vl (P:Int) u v c:=by
 obtain⟨p1,p2⟩:=zo hp;have ha:=Yc hp;rw[xaR]at ha;exact TZ hp hu hb hv hd hn P ((hc.trans hf).cg (zcI (by omega) ha v).symm)
theorem zgx{p:Int}{m:List Int}(hm:wy p m): ∀(n:Nat) (f:Pz),(∀k,n<=k->f k=0)-> ∃q r:Pz,Fs q/\(∀k,m.length-1<=k->r k=0)/\f=q*ci m+r
 |0,f,h=>⟨pc 0,pc 0,Fs.pc 0,fun k _=>zK k,funext fun k=>by rw[zI,yc,zK,h k (by omega)];rfl⟩
 |n+1,f,h=>by
  have hl:=hm.ln;by_cases hn:n+1<=m.length-1
  ·exact⟨pc 0,f,Fs.pc 0,fun k hk=>h k (by omega),funext fun k=>by rw[zI,yc,zK,xcA]⟩
  ·obtain⟨d,hd⟩: ∃d,d=m.length-1:=⟨_,rfl⟩;obtain⟨q,r,fq,hr,he⟩:=zgx hm n (f-mono (n-d) (f n)*ci m) fun k hk=>by
    rw[yC,YS];unfold sh;rw[zM];by_cases e:k=n
    ·have ht:=hm.top;rw[e,show n-(n-d)=m.length-1 by omega,ht];omega
    ·rw[h k (by omega),zP (by omega)];omega
   refine⟨q+mono (n-d) (f n),r,fq.add ⟨n+1,fun k hk=>zx⟩,hr,?_⟩;rw[yo];funext k;have:=congrFun he k;simp only[zI,yC]at this⊢;omega
theorem zgW(hp:wB (P:Int)=true)(hm:wy (P:Int) m)(hu: ∀u∈us,W9 (P:Int) u/\u.length<=290)(XU:us.Pairwise (fun a b=>qD (P:Int) (ci a) (ci b)))(hc:Cg (P:Int) (ci m) (prZ (us.map ci)))(hb:u∈us):
 ∃e:Pz,(∀k,m.length-1<=k->e k=0)/\Vl (P:Int) u e 1/\(∀w,w∈us->w≠u->Vl (P:Int) w e 0)/\Di (P:Int) (ci m) (pp e P-e):=by
 obtain⟨p1,p2⟩:=zo hp;have hk:=Yc hp;rw[xaR]at hk;obtain⟨a,b,hd⟩:=xdO hb;have hF: ∀{l:List (List Int)},∀g∈l.map ci,Fs g:=fun g hg=>by obtain⟨l,_,rfl⟩:=xal.1 hg;exact Fs.ci l
 obtain⟨O,hO⟩: ∃O,O=prZ ((a++b).map ci):=⟨_,rfl⟩;have fO:Fs O:=by rw[hO];exact Fs.prZ hF
 have hf:qD (P:Int) (ci u) O:=by
  rw[hO];refine(qD.prZ (Fs.ci u) hF fun g hg=> ?_).symm;obtain⟨l,hl,rfl⟩:=xal.1 hg;rw[hd,xdg,xcZ]at XU;rcases xaa.1 hl with h|h
  ·exact XU.2.2 l h u (FS)
  ·exact(XU.2.1.1 l h).symm
 obtain⟨s,t,fs,ft,h1⟩:=hf;obtain⟨n,hn⟩:=ft.mul fO;obtain⟨q,e,fq,he,ho⟩:=zgx hm n (t*O) hn;have hq: ∀w∈us,Di (P:Int) (ci w) (ci m):=fun w hw=>Di.cg (QJ hF (xbM hw)) hc.symm;have hi: ∀w∈us,∀{c:Int},Vl (P:Int) w (t*O) c->Vl (P:Int) w e c:=fun w hw c h=>by
  have h2:=Di.sub h (Di.mul q fq (hq w hw));refine h2.cg (Cg.of ?_);rw[ho];funext k;simp only[zI,yC];omega
 have v1:Vl (P:Int) u e 1:=hi u hb (by
  have h2:Di (P:Int) (ci u) (pc 0-s*ci u):=(Di.zero _ _).sub ⟨s,fs,Cg.rfl⟩;refine h2.cg (Cg.trans (Cg.of ?_) ((Cg.rfl (f:=t*O)).sub h1));funext k;simp only[zI,yC,zK];omega)
 have v0: ∀w,w∈us->w≠u->Vl (P:Int) w e 0:=fun w hw hr=>hi w hw (by
  have h3:w∈a++b:=by
   rw[hd]at hw;rcases xaa.1 hw with h|h
   ·exact xdy _ h
   ·rcases xad.1 h with h|h
    ·exact absurd h hr
    ·exact xdP _ h
  have h2:Di (P:Int) (ci w) O:=by rw[hO];exact QJ hF (xbM h3)
  exact(h2.mul t ft).cg (Cg.of (funext fun k=>by rw[yC,zK,xcB])))
 refine⟨e,he,v1,v0,?_⟩;have fe:=Fs.to he;have hj:Di (P:Int) (prZ (us.map ci)) (pp e P-e):=by
  refine Di.prz ((fe.pp P).subt fe) hF ?_ fun g hg=> ?_
  ·exact xez.2 XU
  ·obtain⟨w,hw,rfl⟩:=xal.1 hg;by_cases ha:w=u
   ·subst ha;have h4:=Vl.sub (Vl.pp fe v1 P) v1;rw[Int.one_pow,xcV]at h4;exact(h4.di p1 (hu w hw).1).2 (xcJ _)
   ·have h4:=Vl.sub (Vl.pp fe (v0 w hw ha) P) (v0 w hw ha);rw[Int.zero_pow (by omega),xcV]at h4;exact(h4.di p1 (hu w hw).1).2 (xcJ _)
 obtain⟨r,fr,h5⟩:=hj;exact⟨r,fr,h5.trans (Cg.rfl.mul hc.symm)⟩
theorem cy{p:Int}{u:List Int}{a c:Nat->Int}{b:Nat->Pz}: ∀n,(∀i,i<n->Vl p u (b i) (c i))->Vl p u (smP n fun i=>pc (a i)*b i) (zU n fun i=>a i*c i)
 |0,_=>Vl.pc p u 0
 |n+1,h=>Vl.add (cy n fun i hi=>h i (by omega)) (Vl.mul (Fs.pc _) (Vl.pc p u (a n)) (h n (by omega)))
theorem sep(hp:wB (P:Int)=true)(hm:wy (P:Int) m)(hu: ∀u∈us,W9 (P:Int) u/\u.length<=290)(XU:us.Pairwise (fun a b=>qD (P:Int) (ci a) (ci b)))(hc:Cg (P:Int) (ci m) (prZ (us.map ci))){n:Nat}(he: ∀e:Pz,(∀k,m.length-1<=k->e k=0)->Di (P:Int) (ci m) (pp e P-e)-> ∃a:Nat->Int,Cg (P:Int) e (smP n fun i=>pc (a i)*b i)){w:List Int}(hb:u∈us)(hd:w∈us){c:Nat->Int}(h1: ∀i,i<n->Vl (P:Int) u (b i) (c i))(h2: ∀i,i<n->Vl (P:Int) w (b i) (c i)):u=w:=by
 obtain⟨p1,p2⟩:=zo hp;apply xaf;intro hf;obtain⟨e,e1,e2,e3,e4⟩:=zgW hp hm hu XU hc hb;obtain⟨a,ha⟩:=he e e1 e4;have f1:=(cy (a:=a) n h1).cg ha.symm;have f2:=(cy (a:=a) n h2).cg ha.symm;have g1:=e2.uniq p1 (hu u hb).1 f1;have g2:=(e3 w hd fun h=>hf h.symm).uniq p1 (hu w hd).1 f2;have g3:=xdo g1 g2;obtain⟨k,hk⟩:=g3;have h5:(P:Int)*k=1:=by omega
 have h6:k=1\/k<=0\/2<=k:=by omega
 rcases h6 with h6|h6|h6
 ·rw[h6]at h5;omega
 ·have:=xaW h6 (show(0:Int)<=P by omega);omega
 ·have:=xaW h6 (show(0:Int)<=P by omega);omega
theorem LG{P:Int}{a b:Int}(h:P∣a-b): ∀n:Nat,P∣a^n-b^n
 |0=>by rw[xbs,xbs,xcV];exact xcJ _
 |n+1=>by
  obtain⟨x,hx⟩:=h;obtain⟨y,hy⟩:=LG ⟨x,hx⟩ n;refine⟨y*a+b^n*x,?_⟩;rw[xbk,xbk];grind
def eC(P:Nat)(y:Int):Prop:=if 2<P then(P:Int)∣y^((P-1)/2)-1 else(P:Int)∣y
theorem eC.md{z:Int}(h:(P:Int)∣y-z)(g:eC P y):eC P z:=by
 unfold eC at g⊢;split
 ·rw[if_pos ‹_›]at g;have:=LG h ((P-1)/2);have e:=xdo g this;have e2:y^((P-1)/2)-1-(y^((P-1)/2)-z^((P-1)/2))=z^((P-1)/2)-1:=by omega
  rwa[e2]at e
 ·rw[if_neg ‹_›]at g;have e:=xdo g h;have e2:y-(y-z)=z:=by omega
  rwa[e2]at e
theorem eC.iff{z:Int}(h:(P:Int)∣y-z):eC P y↔eC P z:=by
 refine⟨eC.md h,eC.md ?_⟩;obtain⟨k,hk⟩:=h;exact⟨-k,by rw[xes];omega⟩
theorem H7(hp:wB (P:Int)=true){d:Int}(hd: ¬(P:Int)∣d): ∃k:Nat,(P:Int)∣(k:Int)*d-1:=by
 obtain⟨p1,p2⟩:=zo hp;have h0:=xcP d (show(P:Int)≠0 by omega);have h1:=xdu d (show(0:Int)<P by omega);have h2:d % P≠0:=fun e=>hd (xaG e);have h3:=oU hp (show 0<d % P by omega) h1;obtain⟨x,hx⟩: ∃x,x=(d % P)^((P:Int)-2).toNat:=⟨_,rfl⟩;rw[<-hx]at h3;have ha:0<=x:=by rw[hx];exact xfn h0
 refine⟨x.toNat,?_⟩;rw[xcT ha];have h4:(x*d) % P=1 % P:=by rw[xbq,<-xcC d (xdN _),<-xbq,h3,xaz (by decide) (by omega)]
 exact xaG (xaH.1 h4)
theorem zbJ(hp:wB (P:Int)=true)(he:P=2\/P % 2=1){b:Int}(h: ∀c:Nat,c<P->(eC P (a+c)↔eC P (b+c))):(P:Int)∣a-b:=by
 obtain⟨p1,p2⟩:=zo hp;apply xaf;intro hd;have hb: ∀y:Int,eC P (a+y)↔eC P (b+y):=fun y=>by
  have e1:=xcP y (show(P:Int)≠0 by omega);have e2:=xdu y (show(0:Int)<P by omega);have e3:=h (y % P).toNat (by omega);rw[xcT e1]at e3;have e4:(P:Int)∣y-y % P:=⟨y/P,by have:=Int.emod_add_mul_ediv y P;omega⟩;have e5:(P:Int)∣a+y-(a+y % P):=by rwa[show a+y-(a+y % P)=y-y % P by omega]
  have e6:(P:Int)∣b+y-(b+y % P):=by rwa[show b+y-(b+y % P)=y-y % P by omega]
  exact(eC.iff e5).trans (e3.trans (eC.iff e6).symm)
 have ha: ∀y:Int,eC P y↔eC P (y+(a-b)):=fun y=>by
  have:=hb (y-b);rw[show b+(y-b)=y by omega,show a+(y-b)=y+(a-b)by omega]at this;exact this.symm
 have hk: ∀k:Nat,eC P 0↔eC P ((k:Int)*(a-b)):=fun k=>by
  induction k with
  |zero=>rw[show((0:Nat):Int)=0 from rfl,xaU]
  |succ k ih=>
   refine ih.trans ((ha _).trans ?_);rw[xdU,Int.add_mul,show((1:Nat):Int)=1 from rfl,xbY]
 obtain⟨k,h1⟩:=H7 hp hd;have h2:=(hk k).trans (eC.iff h1);have hc: ¬(P:Int)∣1:=fun⟨q,hq⟩=>by
  have h6:q<=0\/1<=q:=by omega
  rcases h6 with h6|h6
  ·have:=xaW h6 (show(0:Int)<=P by omega);omega
  ·have:=xaW h6 (show(0:Int)<=P by omega);omega
 unfold eC at h2;by_cases hP:2<P
 ·rw[iq hP,iq hP,Int.one_pow,xcV,Int.zero_pow (by omega)]at h2;have:=h2.2 (xcJ _);refine hc ?_;obtain⟨q,hq⟩:=this;exact⟨-q,by rw[xes];omega⟩
 ·rw[ir hP,ir hP]at h2;exact hc (h2.1 (xcJ _))
theorem zar(A B D:Nat->Int)(x z:Int): ∀n,zU n (fun i=>A i*(B i-x*D i*z))=zU n (fun i=>A i*B i)-x*z*zU n (fun i=>A i*D i)
 |0=>by show(0:Int)=0-x*z*0;omega
 |n+1=>by
  show zU n _+A n*(B n-x*D n*z)=zU n _+A n*B n-x*z*(zU n _+A n*D n);rw[zar A B D x z n];grind
theorem mF{P:Nat}(hp:wB (P:Int)=true): ∀(n:Nat) (J:List Nat) (A C:Nat->Nat->Int),J.Nodup->(∀j∈J,∀j'∈J,(P:Int)∣zU n (fun i=>A j i*C i j')-(if j=j' then 1 else 0))->J.length<=n
 |0,[],_,_,_,_=>xac _
 |0,j::J,A,C,_,h=>by
  exfalso;obtain⟨p1,p2⟩:=zo hp;have:=h j (FS) j (FS);rw[iq rfl]at this;obtain⟨q,hq⟩:=this;have hg:(0:Int)-1=P*q:=hq;have h6:q<= -1\/0<=q:=by omega
  rcases h6 with h6|h6
  ·have:=xaW h6 (show(0:Int)<=P by omega);omega
  ·have:=xcy (show(0:Int)<=P by omega) h6;omega
 |n+1,J,A,C,hJ,h=>by
  by_cases hz: ∀j∈J,(P:Int)∣C n j
  ·refine Nat.le_succ_of_le (mF hp n J A C hJ fun j hj j' ha=> ?_);have h1:=h j hj j' ha;have h2:(P:Int)∣A j n*C n j':=xbB (hz j' ha) (xcK _ _);have h3:=xdo h1 h2;have e:zU (n+1) (fun i=>A j i*C i j')-(if j=j' then 1 else 0)-A j n*C n j'=zU n (fun i=>A j i*C i j')-(if j=j' then 1 else 0):=by
    show zU n _+A j n*C n j'-_-A j n*C n j'=_;omega
   rwa[e]at h3
  ·obtain⟨j0,hb,hc⟩: ∃j0,j0∈J/\ ¬(P:Int)∣C n j0:=by
    apply xaf;intro hf;refine hz fun j hj=> ?_;apply xaf;intro h1;exact hf ⟨j,hj,h1⟩
   obtain⟨x,hx⟩:=H7 hp hc;have hd:=List.length_erase_of_mem hb;have he:=xff hb;have:=mF hp n (J.erase j0) A (fun i j'=>C i j'-(x:Int)*C i j0*C n j') (hJ.erase j0) fun j hj j' ha=>by
    obtain⟨n1,m1⟩:=hJ.mem_erase_iff.1 hj;obtain⟨n2,m2⟩:=hJ.mem_erase_iff.1 ha;have h1:=h j m1 j' m2;have h2:=h j m1 j0 hb;rw[ir n1,xcB]at h2;rw[zar];obtain⟨k1,e1⟩:=h1;obtain⟨k2,e2⟩:=h2;obtain⟨k3,e3⟩:=hx;have e1':zU n (fun i=>A j i*C i j')+A j n*C n j'-(if j=j' then 1 else 0)=P*k1:=e1;have e2':zU n (fun i=>A j i*C i j0)+A j n*C n j0=P*k2:=e2;have e4:(if j=j' then(1:Int)else 0)=if j=j' then 1 else 0:=rfl;generalize(if j=j' then(1:Int)else 0)=dl at e1'⊢;generalize zU n (fun i=>A j i*C i j')=s1 at e1'⊢;generalize zU n (fun i=>A j i*C i j0)=s0 at e2'⊢;refine⟨k1-((x:Int)*C n j'*k2-A j n*C n j'*k3),?_⟩;clear e1 e2 e4 hz hc h hd he;grind
   omega
structure Sf(p:Int)(m:List Int)(us:List (List Int)):Prop where
 hp:wB p=true
 mn:wy p m
 ml:m.length<=290
 ir: ∀u∈us,W9 p u/\u.length<=290
 pw:us.Pairwise (fun a b=>qD p (ci a) (ci b))
 cg:Cg p (ci m) (prZ (us.map ci))
theorem Q4: ∀g∈l.map ci,Fs g:=fun g hg=>by obtain⟨l,_,rfl⟩:=xal.1 hg;exact Fs.ci l
theorem W9.self(hp:2<=p)(hu:W9 p u): ¬qD p (ci u) (ci u):=fun⟨s,t,fs,ft,h⟩=>by
 refine hu.ne hp ⟨s+t,fs.add ft,h.symm.trans (Cg.of ?_)⟩;rw[yo]
theorem Sf.dv(h:Sf p m us)(hu:u∈us):Di p (ci u) (ci m):=(QJ Q4 (xbM hu)).cg h.cg.symm
theorem Sf.mem{p:Int}{m:List Int}{us:List (List Int)}(h:Sf p m us){u:List Int}(hu:W9 p u)(ha:u.length<=290)(hd:Di p (ci u) (ci m)):u∈us:=hu.mem h.hp ha h.ir (hd.cg h.cg)
theorem Sf.sq(h:Sf p m us)(hu:u∈us): ¬Di p (ci u*ci u) (ci m):=fun hd=>by
 obtain⟨p1,p2⟩:=zo h.hp;obtain⟨a,b,rfl⟩:=xdO hu;obtain⟨hi,ha⟩:=h.ir u hu;have XU:=h.pw;rw[xdg,xcZ]at XU;obtain⟨q,fq,h1⟩:=hd;have h2:=h.cg;rw[xaN,xbP,xK]at h2;have h3:Cg p (prZ (a.map ci)*(ci u*prZ (b.map ci))) (q*(ci u*ci u)):=h2.symm.trans h1;have fO:Fs (prZ ((a++b).map ci)):=Fs.prZ Q4;have h4:Cg p ((prZ ((a++b).map ci)-q*ci u)*ci u) (pc 0):=by
  rw[w9,xaN,xK];refine Cg.trans (Cg.sub (Cg.of ?_) (Cg.of (zd q (ci u) (ci u)))) (Cg.iff_sub.1 h3);rw[zd,zg (prZ (b.map ci))]
 have h5:=hi.mn.mn.zero p1 (fO.subt (fq.mul (Fs.ci u))) fun k hk=>by rw[h4 k,zK,xag]
 have h6:Di p (ci u) (prZ ((a++b).map ci)):=⟨q,fq,Cg.iff_sub.2 h5⟩;have h7:=hi.mem h.hp ha (us:=a++b) (fun w hw=>by
  rcases xaa.1 hw with h|h
  ·exact(by assumption:Sf p m (a++u::b)).ir w (xdy _ h)
  ·exact(by assumption:Sf p m (a++u::b)).ir w (xdP _ (H1 _ h))) h6
 rcases xaa.1 h7 with h8|h8
 ·exact hi.self p1 (XU.2.2 u h8 u (FS))
 ·exact hi.self p1 (XU.2.1.1 u h8)
theorem Sf.len(h:Sf p m us)(hg:wy p g)(hd:Di p (ci g) (ci m)):g.length<=290:=by
 obtain⟨q,fq,h1⟩:=hd;exact xao (Ub (zo h.hp).1 h.mn hg fq h1) h.ml
theorem Sf.some{p:Int}{m:List Int}{us:List (List Int)}(h:Sf p m us){g:List Int}(hg:wy p g)(hd:Di p (ci g) (ci m))(hl:1<g.length): ∃u,u∈us/\Di p (ci u) (ci g):=by
 have ha:=h.len hg hd;obtain⟨vs,h1,h2⟩:=zf5 h.hp g.length rfl ha hg
 cases vs with
 |nil=>
  exfalso;have h3:=h2 (g.length-1);have ht:=hg.top;have hp:=(zo h.hp).1;rw[ht,show prZ (List.map ci [])=pc 1 from rfl,show pc 1 (g.length-1)=0 from zx,xag,xaz (by decide) (by omega)]at h3;cases h3
 |cons v vs=>
  have h3:Di p (ci v) (ci g):=(QJ Q4 (xbM (FS))).cg h2.symm;obtain⟨h4,h5⟩:=h1 v (FS);exact⟨v,h.mem h4 (by omega) (h3.trans hd),h3⟩
theorem Sf.one{p:Int}{m:List Int}{us:List (List Int)}(h:Sf p m us){g:List Int}(hg:wy p g)(hd:Di p (ci g) (ci m))(hl:1<g.length)(ho: ∀u∈us,∀w∈us,Di p (ci u) (ci g)->Di p (ci w) (ci g)->u=w):W9 p g:=by
 obtain⟨p1,p2⟩:=zo h.hp;have hj:=h.len hg hd;obtain⟨u,hu,h1⟩:=h.some hg hd hl;obtain⟨hi,hk⟩:=h.ir u hu;obtain⟨q,ha,hb,hm⟩:=quo h.hp hg hi.mn (by omega) h1;by_cases he:1<q.length
 ·exfalso;have hc:Di p (ci q) (ci g):=⟨ci u,Fs.ci u,hb.trans (Cg.of (zg _ _))⟩;obtain⟨w,hw,h2⟩:=h.some ha (hc.trans hd) he;have e:=ho w hw u hu (h2.trans hc) h1;subst e;obtain⟨r,fr,h3⟩:=h2;refine h.sq hu (Di.trans ⟨r,fr,hb.trans ((h3.mul Cg.rfl).trans (Cg.of (zd _ _ _)))⟩ hd)
 ·have hn:=ha.ln;have hf:=ha.one (by omega);have:g=u:=by
   refine(Bt p1 hi.mn hg h1 ?_).symm;omega
  rw[this];exact hi
theorem Sf.apart(h:Sf p m us){a b:Pz}(fa:Fs a)(fb:Fs b)(ha:Di p (a*b) (ci m))(hu:u∈us)(h1:Di p (ci u) a)(h2:Di p (ci u) b):False:=by
 obtain⟨q,fq,e1⟩:=h1;obtain⟨r,fr,e2⟩:=h2;refine h.sq hu (Di.trans ⟨q*r,fq.mul fr,(e1.mul e2).trans (Cg.of ?_)⟩ ha);rw[zd,zd,zw (ci u) r]
theorem zep{t s1 s2:List Int}{S:Nat}(hR:BzR p g t d s1 s2 S)(u:List Int):Di p (ci u) (ci d)↔Di p (ci u) (ci g)/\Di p (ci u) (ci t):=by
 obtain⟨A,C,fA,fC,h1,h2⟩:=hR.dv;refine⟨fun h=>⟨h.trans ⟨A,fA,h1⟩,h.trans ⟨C,fC,h2⟩⟩,fun⟨a,b⟩=> ?_⟩;exact(Di.add (a.mul _ (Fs.ci _)) (b.mul _ (Fs.ci _))).cg hR.cg.symm
theorem KM{α:Type}[DecidableEq α]: ∀{vs us:List α},vs.Nodup->(∀v∈vs,v∈us)->vs.length<=us.length
 |[],_,_,_=>xaj _
 |v::vs,us,hn,h=>by
  obtain⟨h1,h2⟩:=xfa.1 hn;have hv:=h v (FS);have h3:=KM (us:=us.erase v) h2 fun w hw=>by
   refine(List.mem_erase_of_ne fun e=> ?_).2 (h w (H1 _ hw));rw[e]at hw;exact h1 hw
  have h4:=List.length_erase_of_mem hv;have h5:=xff hv;simp only[xav];omega
theorem Sf.nodup(h:Sf p m us):us.Nodup:=by
 have hp:=(zo h.hp).1;have: ∀us:List (List Int),(∀u∈us,W9 p u/\u.length<=290)->us.Pairwise (fun a b=>qD p (ci a) (ci b))->us.Nodup:=fun us=>by
  induction us with
  |nil=>intro _ _;exact List.nodup_nil
  |cons u us ih=>
   intro hi hw;obtain⟨w1,w2⟩:=xcZ.1 hw;refine xfa.2 ⟨fun hm=> ?_,ih (fun g hg=>hi g (H1 _ hg)) w2⟩;exact(hi u (FS)).1.self hp (w1 u hm)
 exact this us h.ir h.pw
structure Pl(p:Int)(m:List Int)(l:List (List Int)):Prop where
 mn: ∀g∈l,wy p g/\1<g.length
 pr:Cg p (ci m) (prZ (l.map ci))
theorem Pl.dv(h:Pl p m l)(hg:g∈l):Di p (ci g) (ci m):=(QJ Q4 (xbM hg)).cg h.pr.symm
theorem Ld(a b:List (List Int))(g:List Int):prZ ((a++g::b).map ci)=ci g*prZ ((a++b).map ci):=by
 rw[xaN,xaN,xbP,xK,xK];show prZ (a.map ci)*(ci g*prZ (b.map ci))=_;rw[zw]
theorem Sf.pick{p:Int}{m:List Int}{us:List (List Int)}(h:Sf p m us): ∀{l:List (List Int)},(∀g∈l,wy p g/\1<g.length)->Di p (prZ (l.map ci)) (ci m)-> ∃vs:List (List Int),vs.length=l.length/\vs.Nodup/\ ∀v∈vs,v∈us/\Di p (ci v) (prZ (l.map ci))
 |[],_,_=>⟨[],rfl,List.nodup_nil,fun v hv=>by cases hv⟩
 |g::l,hm,hd=>by
  have fl:Fs (prZ (l.map ci)):=Fs.prZ Q4;have d1:Di p (ci g) (prZ ((g::l).map ci)):=⟨prZ (l.map ci),fl,Cg.of (zg _ _)⟩;have d2:Di p (prZ (l.map ci)) (prZ ((g::l).map ci)):=⟨ci g,Fs.ci g,Cg.rfl⟩;obtain⟨hb,he⟩:=hm g (FS);obtain⟨u,hu,ha⟩:=h.some hb (d1.trans hd) he;obtain⟨vs,v1,v2,v3⟩:=h.pick (fun g hg=>hm g (H1 _ hg)) (d2.trans hd);refine⟨u::vs,by simp[v1],xfa.2 ⟨fun hc=> ?_,v2⟩,fun v hv=> ?_⟩
  ·exact h.apart (Fs.ci g) fl hd hu ha (v3 u hc).2
  ·rcases xad.1 hv with rfl|hv
   ·exact⟨hu,ha.trans d1⟩
   ·exact⟨(v3 v hv).1,(v3 v hv).2.trans d2⟩
theorem Sf.more(h:Sf p m us)(hl:Pl p m l){w:List Int}(hg:g∈l)(hu:u∈us)(hw:w∈us)(h1:Di p (ci u) (ci g))(h2:Di p (ci w) (ci g))(hb:u≠w):l.length<us.length:=by
 obtain⟨a,b,rfl⟩:=xdO hg;have ha:=hl.pr;rw[Ld]at ha;have fl:Fs (prZ ((a++b).map ci)):=Fs.prZ Q4;have hd:Di p (ci g*prZ ((a++b).map ci)) (ci m):=⟨pc 1,Fs.pc 1,ha.trans (Cg.of (zy _).symm)⟩;obtain⟨vs,v1,v2,v3⟩:=h.pick (l:=a++b) (fun x hx=>by
  rcases xaa.1 hx with h|h
  ·exact hl.mn x (xdy _ h)
  ·exact hl.mn x (xdP _ (H1 _ h))) (Di.trans ⟨ci g,Fs.ci g,Cg.rfl⟩ hd)
 have hn:(u::w::vs).Nodup:=by
  refine xfa.2 ⟨fun hc=> ?_,xfa.2 ⟨fun hc=> ?_,v2⟩⟩
  ·rcases xad.1 hc with hc|hc
   ·exact hb hc
   ·exact h.apart (Fs.ci g) fl hd hu h1 (v3 u hc).2
  ·exact h.apart (Fs.ci g) fl hd hw h2 (v3 w hc).2
 have:=KM (us:=us) hn fun v hv=>by
  rcases xad.1 hv with rfl|hv
  ·exact hu
  ·rcases xad.1 hv with rfl|hv
   ·exact hw
   ·exact(v3 v hv).1
 simp only[xav,xau]at this v1⊢;omega
theorem Pl.split{a b:List (List Int)}{q:List Int}(h:Pl p m (a++g::b))(hd:wy p d)(hq:wy p q)(ha:1<d.length)(hb:1<q.length)(hc:Cg p (ci g) (ci q*ci d)):Pl p m (a++d::(b++[q])):=by
 refine⟨fun x hx=> ?_,?_⟩
 ·rcases xaa.1 hx with hx|hx
  ·exact h.mn x (xdy _ hx)
  ·rcases xad.1 hx with rfl|hx
   ·exact⟨hd,ha⟩
   ·rcases xaa.1 hx with hx|hx
    ·exact h.mn x (xdP _ (H1 _ hx))
    ·rw[xai.1 hx];exact⟨hq,hb⟩
 ·have h1:=h.pr;rw[Ld]at h1⊢;rw[<-xak,xaN,xK];refine h1.trans ((hc.mul Cg.rfl).trans (Cg.of ?_));show ci q*ci d*prZ ((a++b).map ci)=ci d*(prZ ((a++b).map ci)*(ci q*pc 1));rw[zY,zg (prZ _) (ci q),zw (ci d),zd]
structure Bs(P:Nat)(m:List Int)(b:Nat->Pz)(n:Nat):Prop where
 od:P=2\/P % 2=1
 ml:1<m.length
 sp: ∀e:Pz,(∀k,m.length-1<=k->e k=0)->Di (P:Int) (ci m) (pp e P-e)-> ∃a:Nat->Int,Cg (P:Int) e (smP n fun i=>pc (a i)*b i)
 sm: ∀i,i<n-> ∀k,m.length-1<=k->b i k=0
 fx: ∀i,i<n->Di (P:Int) (ci m) (pp (b i) P-b i)
theorem Bs.val(h:Sf (P:Int) m us){n:Nat}(hb:Bs P m b n)(hu:u∈us){i:Nat}(hi:i<n): ∃c:Nat,c<P/\Vl (P:Int) u (b i) c:=by
 have hl:=h.ml;have hm:=hb.ml;exact zcg h.hp (h.ir u hu).1 (h.ir u hu).2 (h.dv hu) (n:=m.length-1) (hb.sm i hi) (by omega) (by omega) (hb.fx i hi)
theorem Bs.le(h:Sf (P:Int) m us){n:Nat}(hb:Bs P m b n):us.length<=n:=by
 obtain⟨p1,p2⟩:=zo h.hp;have hl:=h.nodup;have hd: ∀j,j<us.length->us.getD j []∈us:=fun j hj=>by rw[UV,IR hj];exact xbh hj
 have hf: ∀i j,∃c:Int,i<n->j<us.length->Vl (P:Int) (us.getD j []) (b i) c:=fun i j=>by
  by_cases hi:i<n
  ·by_cases hj:j<us.length
   ·obtain⟨c,_,hc⟩:=hb.val h (hd j hj) hi;exact⟨c,fun _ _=>hc⟩
   ·exact⟨0,fun _ h=>absurd h hj⟩
  ·exact⟨0,fun h=>absurd h hi⟩
 have hg: ∀j,∃a:Nat->Int,j<us.length-> ∃e:Pz,Cg (P:Int) e (smP n fun i=>pc (a i)*b i)/\Vl (P:Int) (us.getD j []) e 1/\ ∀w,w∈us->w≠us.getD j []->Vl (P:Int) w e 0:=fun j=>by
  by_cases hj:j<us.length
  ·obtain⟨e,e1,e2,e3,e4⟩:=zgW h.hp h.mn h.ir h.pw h.cg (hd j hj);obtain⟨a,ha⟩:=hb.sp e e1 e4;exact⟨a,fun _=>⟨e,ha,e2,e3⟩⟩
  ·exact⟨fun _=>0,fun h=>absurd h hj⟩
 have hA: ∃A:Nat->Nat->Int,∀j,j<us.length-> ∃e:Pz,Cg (P:Int) e (smP n fun i=>pc (A j i)*b i)/\Vl (P:Int) (us.getD j []) e 1/\ ∀w,w∈us->w≠us.getD j []->Vl (P:Int) w e 0:=⟨fun j=>Classical.choose (hg j),fun j=>xfv (hg j)⟩;have hC: ∃C:Nat->Nat->Int,∀i j,i<n->j<us.length->Vl (P:Int) (us.getD j []) (b i) (C i j):=⟨fun i j=>Classical.choose (hf i j),fun i j=>xfv (hf i j)⟩;obtain⟨A,hA⟩:=hA;obtain⟨C,hC⟩:=hC;have:=mF h.hp n (xbb us.length) A C List.nodup_range fun j hj j' hm=>by
  have l1:=xaQ.1 hj;have l2:=xaQ.1 hm;obtain⟨e,e1,e2,e3⟩:=hA j l1;have e4:=(cy (a:=A j) n fun i hi=>hC i j' hi l2).cg e1.symm;have hu:=(h.ir _ (hd j' l2)).1;by_cases ejj:j=j'
  ·subst ejj;rw[iq rfl];exact e4.uniq p1 hu e2
  ·rw[ir ejj];refine e4.uniq p1 hu (e3 _ (hd j' l2) fun he=>ejj ?_);have g1:=UV (l:=us) (i:=j) (a:=[]);have g2:=UV (l:=us) (i:=j') (a:=[]);rw[IR l1]at g1;rw[IR l2]at g2;have g3:us[j]=us[j']:=by
    have:us.getD j []=us.getD j' []:=he.symm;rw[g1,g2]at this;exact this
   apply xaf;intro hh;have hk:=xcz.1 hl;rcases Nat.lt_or_gt_of_ne ejj with hlt|hlt
   ·exact hk j j' l1 l2 hlt g3
   ·exact hk j' j l2 l1 hlt g3.symm
 rwa[xcx]at this
def Ct(P:Nat)(us:List (List Int))(v:Pz)(c:Int)(g:List Int):Prop:=
 (∀u∈us,Di (P:Int) (ci u) (ci g)-> ∀a,Vl (P:Int) u v a->eC P (a+c))\/(∀u∈us,Di (P:Int) (ci u) (ci g)-> ∀a,Vl (P:Int) u v a-> ¬eC P (a+c))
theorem Ct.sub{c:Int}(h:Ct P us v c g)(hd:Di (P:Int) (ci d) (ci g)):Ct P us v c d:=by
 rcases h with h|h
 ·exact .inl fun u hu ha=>h u hu (ha.trans hd)
 ·exact .inr fun u hu ha=>h u hu (ha.trans hd)
theorem Pl.done(h:Sf (P:Int) m us){n:Nat}(hb:Bs P m b n)(hl:Pl (P:Int) m l)(h0: ∃c:Int,Cg (P:Int) (b 0) (pc c))(ha:l.length=n\/ ∀i,1<=i->i<n-> ∀c:Nat,c<P-> ∀g∈l,Ct P us (b i) c g): ∀g∈l,W9 (P:Int) g:=fun g hg=>by
 obtain⟨p1,p2⟩:=zo h.hp;obtain⟨g1,g2⟩:=hl.mn g hg;refine h.one g1 (hl.dv hg) g2 fun u hu w hw h1 h2=> ?_;apply xaf;intro hf;have hn:=hb.le h;have hj:=h.more hl hg hu hw h1 h2 hf;rcases ha with he|he
 ·omega
 ·refine hf ?_;have hc: ∀i,∃c:Int,i<n->Vl (P:Int) u (b i) c/\Vl (P:Int) w (b i) c:=fun i=>by
   by_cases hi:i<n
   ·by_cases hk:i=0
    ·obtain⟨c,hc⟩:=h0;subst hk;exact⟨c,fun _=>⟨(Vl.pc _ u c).cg hc.symm,(Vl.pc _ w c).cg hc.symm⟩⟩
    ·obtain⟨x,_,hx⟩:=hb.val h hu hi;obtain⟨y,_,hy⟩:=hb.val h hw hi;have hd:(P:Int)∣(x:Int)-y:=zbJ h.hp hb.od fun c hm=>by
      rcases he i (by omega) hi c hm g hg with ht|ht
      ·exact⟨fun _=>ht w hw h2 _ hy,fun _=>ht u hu h1 _ hx⟩
      ·exact⟨fun hh=>absurd hh (ht u hu h1 _ hx),fun hh=>absurd hh (ht w hw h2 _ hy)⟩
     exact⟨y,fun _=>⟨hx.md hd,hy⟩⟩
   ·exact⟨0,fun h=>absurd h hi⟩
  have hC: ∃C:Nat->Int,∀i,i<n->Vl (P:Int) u (b i) (C i)/\Vl (P:Int) w (b i) (C i):=⟨fun i=>Classical.choose (hc i),fun i=>xfv (hc i)⟩;obtain⟨C,hC⟩:=hC;exact sep h.hp h.mn h.ir h.pw h.cg hb.sp hu hw (fun i hi=>(hC i hi).1) fun i hi=>(hC i hi).2
end
section
variable{p:Int}{a g d t v ds m:List Int}{x y:Pz}{E fu P k i nb:Nat}{us l bs:List (List Int)}
def Em(p:Int)(a:List Int)(x y:Pz):Prop:=Di p (ci a) (x-y)
theorem Em.rfl:Em p a x x:=(Di.zero p (ci a)).cg (Cg.of (funext fun k=>by rw[yC,zK,xcV]))
theorem Em.cg{p:Int}{a:List Int}{x y:Pz}(h:Cg p x y):Em p a x y:=(Di.zero p (ci a)).cg (Cg.iff_sub.1 h).symm
theorem Em.symm(h:Em p a x y):Em p a y x:=(Di.sub (Di.zero p (ci a)) h).cg (Cg.of (funext fun k=>by simp only[yC,zK];omega))
theorem Em.trans{z:Pz}(h:Em p a x y)(g:Em p a y z):Em p a x z:=(Di.add h g).cg (Cg.of (funext fun k=>by simp only[zI,yC];omega))
theorem Em.mul{p:Int}{a:List Int}{x y z w:Pz}(fx:Fs x)(fw:Fs w)(h:Em p a x y)(g:Em p a z w):Em p a (x*z) (y*w):=by
 refine(Di.add (Di.mul x fx g) (Di.mul w fw h)).cg (Cg.of ?_);rw[w7,w7,zg w x,zg w y];funext k;simp only[zI,yC];omega
theorem Em.dv{b:List Int}(h:Em p a x y)(g:Di p (ci b) (ci a)):Em p b x y:=g.trans h
theorem Em.vl{u:List Int}{c:Int}(h:Em p u x y)(g:Vl p u y c):Vl p u x c:=by
 refine(Di.add h g).cg (Cg.of ?_);funext k;simp only[zI,yC];omega
theorem Em.rest{x q r:List Int}(h:Cg p (ci x) (ci q*ci a+ci r)):Em p a (ci x) (ci r):=by
 refine⟨ci q,Fs.ci q,(h.sub Cg.rfl).trans (Cg.of ?_)⟩;funext k;simp only[zI,yC];omega
theorem zcc(h0:0<E)(h:E<18446744073709551616):yP (E:Int)=(false,[E]):=by
 unfold yP;rw[xbc,Ah h0 h,decide_eq_false (by omega)]
theorem zhl(n:Nat):n<2^bl n:=by
 induction n using xdq with
 |ind n ih=>
  rcases xcL n with rfl|h
  ·rw[zbZ];decide
  ·have h1:=ih (n/2) (by omega);rw[Jc h,xbu];omega
structure PwI(p:Int)(a w:List Int)(E i:Nat)(t:List Int):Prop where
 fp:Fp p t
 ln:t.length<a.length
 em:Em p a (pp (ci w) (E/2^i)) (ci t)
theorem Vg{w:List Int}(hp:wB p=true)(hw:Fp p w)(ha:wy p a)(hm:w.length<=40000)(hn:a.length<=40000)(h0:0<E)(hE:E<1048576)(hf:3000000<=fu):
 ∃r,jC fu w (yP E) a p=some (r,0)/\Fp p r/\r.length<a.length/\Em p a (pp (ci w) E) (ci r):=by
 obtain⟨p1,p2⟩:=zo hp;have hc:=ha.ln;have he:=zcc h0 (show E<18446744073709551616 by omega);have hL:zm [E]:=fun x hx=>by rw[xai.1 hx];omega
 have hg:nv [E]=E:=by simp[nv]
 have hj:fW (yP (E:Int)):=by rw[he];exact⟨hL,by simp⟩
 obtain⟨q1,r1,d1,d2,d3,d4,d5,d6⟩:=xb (fu:=fu) hp (ZQ (x:=1) (by decide) (by omega)) ha.fm hc (by simp) (by omega) hf;obtain⟨q2,r2,f1,f2,f3,f4,f5,f6⟩:=xb (fu:=fu) hp hw ha.fm hc (by omega) (by omega) hf;have hk:bl E<=20:=Qy (show E<2^20 by omega);have hl:ky (E:Int) 0=1:=by unfold ky;rw[zx,zM]
 unfold jC;rw[za (jL hp (by omega)),iq rfl,za (xa hj hf),zt,hl,ir (by decide),za (zE (by omega) p2 (ha.fm.rl p2) (by omega) hf),ha.fm.pm,zx,za d1];simp only;rw[za (zE (by omega) p2 (hw.rl p2) (by omega) hf),hw.pm,za f1];simp only;rw[he];show∃r,bd (jS fu [E]) _=_/\_;rw[za (Yq hL (by simp) (by simp;omega)),hg,zb];have hd:=yA (f:=ZL fu (false,[E]) p a) (fun s:List Int×List Int×Int=> ∃(i:Nat) (t:List Int),s=(t,r2,(i:Int)-1)/\i<=20/\PwI p a w E i t) (fun s=>(s.2.2+1).toNat) (fun r=>PwI p a w E 0 r) (by
  rintro s L ⟨i,t,rfl,hi,hI⟩ ih;unfold ZL;simp only
  cases i with
  |zero=>rw[zx];exact⟨t,rfl,hI⟩
  |succ i=>
   have ho:=hI.ln;have ml:=qj p t t;obtain⟨q3,r3,g1,g2,g3,g4,g5,g6⟩:=xb (fu:=fu) hp (vG (p:=p) (by omega) t t) ha.fm hc (by omega) (by omega) hf;have esq:Em p a (pp (ci w) (E/2^(i+1)+E/2^(i+1))) (ci r3):=by
    rw[lX];refine(Em.mul ((Fs.ci w).pp _) (Fs.ci t) hI.em hI.em).trans ((Em.cg (ki p t t).symm).trans (Em.rest g4))
   have ei:((i+1:Nat):Int)-1=(i:Int):=by omega
   have e1:xda (i:Int) 64=0:=by rw[xdE (by omega)];omega
   have e2:xbX (i:Int) 64=(i:Int):=by rw[Int.tmod_eq_emod_of_nonneg (by omega)];omega
   have e3:E/2^i/2=E/2^(i+1):=by rw[xaY,xbu]
   rw[ei,zM,za (xY (by omega) p2 hI.fp hI.fp (by omega) (by omega) hf),za g1];simp only;rw[qZ (by decide),e1,H6 ⟨by decide,by decide⟩,show(0:Int)=((0:Nat):Int)from rfl,zp (by simp),zf,qZ (by decide),e2,zf,yF,zf,zf];have e4:(([E]:List Nat).getD 0 0/2^(min (i:Int).toNat 64)) &&& 1=E/2^i % 2:=by rw[Nat.and_one_is_mod,xaR,xcX (by omega)];rfl
   rw[e4];by_cases hb:E/2^i % 2=1
   ·rw[zM];have ml2:=qj p r3 r2;obtain⟨q4,r4,k1,k2,k3,k4,k5,k6⟩:=xb (fu:=fu) hp (vG (p:=p) (by omega) r3 r2) ha.fm hc (by omega) (by omega) hf;rw[za (xY (by omega) p2 g3 f3 (by omega) (by omega) hf),za k1];simp only;rw[zb];refine ih _ ⟨i,r4,rfl,by omega,⟨k3,k5,?_⟩⟩ (by show((i:Int)-1+1).toNat<(((i+1:Nat):Int)-1+1).toNat;omega);have hq:E/2^i=E/2^(i+1)+E/2^(i+1)+1:=by omega
    rw[hq];show Em p a (pp (ci w) (E/2^(i+1)+E/2^(i+1))*ci w) (ci r4);exact(Em.mul ((Fs.ci w).pp _) (Fs.ci r2) esq (Em.rest f4)).trans ((Em.cg (ki p r3 r2).symm).trans (Em.rest k4))
   ·rw[zx,zb];refine ih _ ⟨i,r3,rfl,by omega,⟨g3,g5,?_⟩⟩ (by show((i:Int)-1+1).toNat<(((i+1:Nat):Int)-1+1).toNat;omega);have hq:E/2^i=E/2^(i+1)+E/2^(i+1):=by omega
    rw[hq];exact esq)
 obtain⟨r,hr,hI⟩:=hd fu (r1,r2,((bl E:Nat):Int)-1) ⟨bl E,r1,rfl,hk,⟨d3,d5,by
  have hz:E/2^bl E=0:=xca (zhl E);rw[hz];show Em p a (pc 1) (ci r1);have h1:Em p a (ci [1]) (ci r1):=Em.rest d4;rwa[vW]at h1⟩⟩ (by show(((bl E:Nat):Int)-1+1).toNat<fu;omega)
 refine⟨r,?_,hI.fp,hI.ln,?_⟩
 ·rw[za hr]
 ·have:=hI.em;rwa[xeR,xeO]at this
theorem RZ{h s:List Int}{S:Nat}(hp:2<=p)(hh:wy p h)(hR:BzR p g h d s t S)(hd:d.length=0\/ci d (d.length-1)=1):wy p d:=by
 obtain⟨A,C,z1,z2,d1,d2⟩:=hR.dv;have hl:0<d.length:=by
  refine xcE fun e=> ?_;have h1:=d2 (h.length-1);rw[hh.top,xr,yT fun i hi=>by rw[zP (l:=d) (by omega),xat],xag,xaz (by decide) (by omega)]at h1;cases h1
 exact⟨hR.df,hl,hd.resolve_left (by omega)⟩
theorem sx(hp:wB p=true)(ht:Fp p t)(hg:wy p g)(ha:t.length<=290)(hb:g.length<=290)(hf:3000000<=fu):
 ∃d,QW fu t g p=some d/\wy p d/\Di p (ci d) (ci g)/\ ∀u:List Int,Di p (ci u) (ci d)↔Di p (ci u) (ci t)/\Di p (ci u) (ci g):=by
 obtain⟨p1,p2⟩:=zo hp;obtain⟨d,s1,s2,e1,e2,e3⟩:=Wu (fu:=fu) hp ht hg.fm ha hb hf;obtain⟨A,C,z1,z2,d1,d2⟩:=e2.dv;refine⟨d,?_,RZ p1 hg e2 e3,⟨C,z2,d2⟩,fun u=>zep e2 u⟩;unfold QW;rw[za e1]
theorem Ao(hp:wB p=true)(hg:wy p g)(hd:wy p d)(ha:g.length<=290)(h:Di p (ci d) (ci g))(hf:3000000<=fu):
 ∃q,K7 fu g d p=some q/\wy p q/\Cg p (ci g) (ci q*ci d)/\g.length+1=q.length+d.length:=by
 obtain⟨p1,p2⟩:=zo hp;obtain⟨A,fA,h1⟩:=h;have hb:=Ub p1 hg hd fA h1;have hc:=hd.ln;obtain⟨q,r,e1,e2,e3,e4,e5,e6⟩:=xb (fu:=fu) hp hg.fm hd.fm hd.ln (by omega) (by omega) hf;obtain⟨a,b,c⟩:=tI p1 hg hd fA h1 e2 e3 e4 e5;refine⟨q,?_,a,b,c⟩;unfold K7 qH;rw[za (v:=(q,r,0))];rw[za (jL hp (by omega)),iq rfl,za (zE (by omega) p2 (hd.fm.rl p2) (by omega) hf),hd.fm.pm,zx,za (zE (by omega) p2 (hg.fm.rl p2) (by omega) hf),hg.fm.pm,za e1]
theorem gA{c:Int}(hp:wB (P:Int)=true)(hv:Rl v)(hi:v.length<=290)(hg:wy (P:Int) g)(hj:g.length<=290)(hk:0<=c)(hl:c<P)(hf:3000000<=fu):
 ∃t,X5 fu v c g P=some t/\Fp (P:Int) t/\t.length<=290/\ ∀u:List Int,W9 (P:Int) u->Di (P:Int) (ci u) (ci g)-> ∀x,Vl (P:Int) u (ci v) x->(Di (P:Int) (ci u) (ci t)↔eC P (x+c)):=by
 obtain⟨p1,p2⟩:=zo hp;have he:=hg.ln;have hc:Rl [c]:=fun k=>by
  rw[vW];unfold pc;split
  ·exact⟨by omega,by omega⟩
  ·exact⟨by decide,by decide⟩
 obtain⟨w,hw⟩: ∃w,w=ZB (P:Int) (pm P v) (pm P [c]) 1:=⟨_,rfl⟩;have l1:=ME (P:Int) v;have l2:=ME (P:Int) [c];have lw:w.length<=290:=by
  have:=lH (P:Int) (pm P v) (pm P [c]) 1;rw[<-hw]at this;simp only[xav,xcq]at l2;omega
 have fw:Fp (P:Int) w:=by rw[hw];exact QZ (by omega) _ _ _
 have cw:Cg (P:Int) (ci w) (ci v+pc c):=by
  rw[hw];refine(AQ _ _ _ _).trans ((FZ _ v).add ?_);rw[zy];exact(FZ _ [c]).trans (Cg.of (vW c))
 have ha:Vf fu v [c] P=some (w,0):=by
  unfold Vf;rw[za (jL hp (by omega)),iq rfl,za (zE (by omega) p2 hv (by omega) hf),za (zE (by omega) p2 hc (by simp) hf),za (WM (by omega) p2 (nY (by omega) v) (nY (by omega) [c]) (by decide) (by omega) (by omega) (by simp only[xav,xcq]at l2;omega) hf),hw]
 have vw: ∀u:List Int,∀x,Vl (P:Int) u (ci v) x->Vl (P:Int) u (ci w) (x+c):=fun u x hx=>(Vl.add hx (Vl.pc _ u c)).cg cw.symm;unfold X5;rw[za ha];simp only;by_cases hP:2<P
 ·obtain⟨r,e1,e2,e3,e4⟩:=Vg (fu:=fu) (E:=(P-1)/2) hp fw hg (by omega) (by omega) (by omega) (by omega) hf;have hd:xda ((P:Int)-1) 2=(((P-1)/2:Nat):Int):=by rw[xdE (by omega)];omega
  obtain⟨t,ht⟩: ∃t,t=ZB (P:Int) r [1] ((P:Int)-1):=⟨_,rfl⟩;have f1:Fp (P:Int) [1]:=ZQ (by decide) (by omega);have lt:=lH (P:Int) r [1] ((P:Int)-1);rw[<-ht]at lt;have ct:Cg (P:Int) (ci t) (ci r-pc 1):=by
   rw[ht];refine(AQ _ _ _ _).trans ?_;rw[vW,jX,xce];intro k;rw[zI,yC];unfold pc;split
   ·rw[show ci r k+((P:Int)-1)=ci r k-1+P*1 by omega,xeB]
   ·rw[xbx,xcB]
  rw[zM,zb,qZ (by decide),hd,zb,za (z7 ⟨by omega,by omega⟩ hf),za e1];simp only;rw[za (KG hp e2 f1 (by omega) (by simp) hf)];refine⟨t,by rw[ht],by rw[ht];exact QZ (by omega) _ _ _,by simp only[xav,xcq]at lt;omega,fun u hu hb x hx=> ?_⟩
  have v1:Vl (P:Int) u (ci t) ((x+c)^((P-1)/2)-1):=
   (Vl.sub ((Em.dv e4 hb).symm.vl (Vl.pp (Fs.ci w) (vw u x hx) ((P-1)/2))) (Vl.pc _ u 1)).cg ct.symm
  refine(v1.di p1 hu).trans ?_;unfold eC;rw[iq hP]
 ·rw[zx];refine⟨w,rfl,fw,lw,fun u hu hb x hx=> ?_⟩;refine((vw u x hx).di p1 hu).trans ?_;unfold eC;rw[ir hP]
def Oz(P:Nat)(ds:List Int)(k:Nat):Int:=if k<ds.length then ds.getD k 0 % P else((k-ds.length:Nat):Int)
theorem U7(hP:2<=P)(ha:P<=65521)(hd:Rl ds)(hk:k<P+ds.length)(hb:ds.length<=1000):ug fu (k:Int) ds P=some (Oz P ds k)/\0<=Oz P ds k/\Oz P ds k<P:=by
 unfold ug Oz;by_cases h:k<ds.length
 ·rw[zM,zp h,zf,za (show jN fu (ds.getD k 0) (P:Int)=some (ds.getD k 0 % P)from uC (by omega) (by omega) (hd k)),iq h];have:=yg (a:=ds.getD k 0) (p:=(P:Int)) (by omega);exact⟨rfl,this.1,this.2⟩
 ·rw[zx,zb,ir h];exact⟨by congr 1;omega,by omega,by omega⟩
abbrev Ts:=Pz->Int->Prop
structure Pd(P:Nat)(m:List Int)(us:List (List Int))(S:Ts)(l:List (List Int)):Prop where
 pl:Pl (P:Int) m l
 ts: ∀v c,S v c-> ∀g∈l,Ct P us v c g
theorem P3{α:Type}{a b:List α}{g q d:α}:((a++g::b)++[q]).set a.length d=a++d::(b++[q]):=by
 rw[xak,xfs _ _ (xac _),xcU];rfl
theorem Rq{α:Type}{l:List α}(h:i<l.length)(z:α): ∃a b,l=a++l.getD i z::b/\a.length=i:=by
 refine⟨l.take i,l.drop (i+1),?_,by rw[xay];omega⟩;have e:l.getD i z=l[i]:=by rw[UV,IR h];rfl
 rw[e,List.getElem_cons_drop,xbR]
theorem uB{α:Type}{l:List α}(h:i<l.length)(z:α):l.getD i z∈l:=by
 have e:l.getD i z=l[i]:=by rw[UV,IR h];rfl
 rw[e];exact xbh h
theorem Sf.pl_len(h:Sf p m us)(hl:Pl p m l):l.length<=us.length:=by
 obtain⟨vs,v1,v2,v3⟩:=h.pick hl.mn ⟨pc 1,Fs.pc 1,hl.pr.trans (Cg.of (zy _).symm)⟩;have:=KM (us:=us) v2 fun v hv=>(v3 v hv).1;omega
theorem S6{t7:List (List Int)}{i2 i4:Int}{S:Ts}(h:Sf (P:Int) m us)(hH:us.length<=290)(hI:bs.length=nb)(hE:nb<=290)(hd:Rl ds)(hy:ds.length<=1000)(hv:Rl v)(hz:v.length<=290)(hk:k<P+ds.length)(hf:3000000<=fu)(hl:Pd P m us S l):
 ∃r,zj (Xg fu P ds bs P ds i2 (k:Int) t7 i4 v) fu (l,0)=some r/\
  ((∃l',r= .inl l'/\Pl (P:Int) m l'/\l'.length=nb)\/ ∃l',r= .inr l'/\Pd P m us (fun w c=>S w c\/w=ci v/\c=Oz P ds k) l'):=by
 obtain⟨p1,p2⟩:=zo h.hp;obtain⟨n1,n2,n3⟩:=U7 (fu:=fu) (P:=P) (k:=k) (ds:=ds) (by omega) (by omega) hd hk hy;refine yA (fun s:List (List Int)×Int=> ∃(i:Nat) (l:List (List Int)),s=(l,(i:Int))/\Pd P m us S l/\i<=l.length/\ ∀j,j<i->Ct P us (ci v) (Oz P ds k) (l.getD j [])) (fun s=>300-s.2.toNat) _ ?_ _ _ ⟨0,l,rfl,hl,xaj _,fun j hj=>by omega⟩ (by show 300-0<fu;omega);rintro s L ⟨i,l,rfl,hl,hi,ht⟩ ih;have hJ:=h.pl_len hl.pl;unfold Xg;simp only;by_cases h1:i<l.length
 ·rw[zM];by_cases h2:l.length=nb
  ·rw[zM];exact⟨_,rfl,.inl ⟨l,rfl,hl.pl,h2⟩⟩
  rw[zx,za n1,zp h1,zf];obtain⟨a,b,hb,ho⟩:=Rq h1 [];have hc:=uB h1 [];obtain⟨g,hg⟩: ∃g,g=l.getD i []:=⟨_,rfl⟩;rw[<-hg]at hb hc⊢;obtain⟨g1,g2⟩:=hl.pl.mn g hc;have hA:=hl.pl.dv hc;have he:=h.len g1 hA;obtain⟨t,t1,t2,t3,t4⟩:=gA (fu:=fu) h.hp hv hz g1 he n2 n3 hf;obtain⟨d,d1,d2,d3,d4⟩:=sx (fu:=fu) h.hp t2 g1 t3 he hf;have hK:=d2.ln;have hF:d.length<=g.length:=by
   obtain⟨q,fq,hq⟩:=d3;exact Ub p1 g1 d2 fq hq
  rw[za t1,zp h1,zf,<-hg,za d1];have hm: ∀u∈us,Di (P:Int) (ci u) (ci g)-> ∀x,Vl (P:Int) u (ci v) x->(Di (P:Int) (ci u) (ci d)↔eC P (x+Oz P ds k)):=fun u hu ha x hx=>
   ⟨fun hh=>(t4 u (h.ir u hu).1 ha x hx).1 ((d4 u).1 hh).1,fun hh=>(d4 u).2 ⟨(t4 u (h.ir u hu).1 ha x hx).2 hh,ha⟩⟩
  by_cases h3:1<d.length/\d.length<g.length
  ·obtain⟨q,q1,q2,q3,q4⟩:=Ao (fu:=fu) h.hp g1 d2 he d3 hf;rw[zM,zp h1,zf,<-hg,zM,za rfl];simp only[if_true];rw[zp h1,zf,<-hg,za q1,qZ (by simp;omega),zf,zp (by simp;omega),zf,zb];have hp:(l++[q]).set i d=a++d::(b++[q]):=by rw[hb,<-ho,P3]
   have hB:Di (P:Int) (ci q) (ci g):=⟨ci d,Fs.ci d,q3.trans (Cg.of (zg _ _))⟩;have hr: ∀x∈a++d::(b++[q]),x=d\/x=q\/x∈l:=fun x hx=>by
    rcases xaa.1 hx with hx|hx
    ·right;right;rw[hb];exact xdy _ hx
    ·rcases xad.1 hx with hx|hx
     ·exact .inl hx
     ·rcases xaa.1 hx with hx|hx
      ·right;right;rw[hb];exact xdP _ (H1 _ hx)
      ·exact .inr (.inl (xai.1 hx))
   have hs:Pl (P:Int) m (a++d::(b++[q])):=by
    have:=hl.pl;rw[hb]at this;exact this.split d2 q2 (by omega) (by omega) q3
   refine ih _ ⟨i+1,_,rfl,?_,?_,?_⟩ ?_
   ·rw[hp];refine⟨hs,fun w c hS x hx=> ?_⟩;rcases hr x hx with rfl|rfl|hx
    ·exact(hl.ts w c hS g hc).sub d3
    ·exact(hl.ts w c hS g hc).sub hB
    ·exact hl.ts w c hS x hx
   ·rw[xcG,xau];omega
   ·intro j hj;rw[hp];by_cases hn:j=i
    ·left;have e:(a++d::(b++[q])).getD j []=d:=by rw[hn,<-ho,UV,xci (xac _),xcU];rfl
     rw[e];intro u hu hw x hx;exact(hm u hu (hw.trans d3) x hx).1 hw
    ·have e:(a++d::(b++[q])).getD j []=l.getD j []:=by rw[hb,UV,UV,xbn (by omega),xbn (by omega)]
     rw[e];exact ht j (by omega)
   ·have:=h.pl_len hs;have hG:l.length=a.length+1+b.length:=by rw[hb];simp;omega
    simp only[xau,xav]at this;show 300-((i:Int)+1).toNat<300-(i:Int).toNat;omega
  ·have hC:Ct P us (ci v) (Oz P ds k) g:=by
    by_cases h4:1<d.length
    ·left;have e:d=g:=Bt p1 d2 g1 d3 (by omega);intro u hu ha x hx;exact(hm u hu ha x hx).1 (by rw[e];exact ha)
    ·right;intro u hu ha x hx hT;have h5:=(hm u hu ha x hx).2 hT;have h6:d=[1]:=d2.one (by omega);rw[h6,vW]at h5;exact(h.ir u hu).1.ne p1 h5
   have hD:(if(1:Int)<(d.length:Int)then
    zG (i:Int) l.length fun j5=>
    nm (l.getD j5 []) fun t13=>
    if(d.length:Int)<(t13.length:Int)then
    some (bs,(P:Int),ds,(k:Int),v,t7,i4,i2,true)
    else
    some (bs,(P:Int),ds,(k:Int),v,t7,i4,i2,false)
    else
    some (bs,(P:Int),ds,(k:Int),v,t7,i4,i2,false):Option (List (List Int)×Int×List Int×Int×List Int×List (List Int)×Int×Int×Bool))=some (bs,(P:Int),ds,(k:Int),v,t7,i4,i2,false):=by
    by_cases h4:1<d.length
    ·rw[zM,zp h1,zf,<-hg,zx]
    ·rw[zx]
   rw[za hD];simp only[xah,if_false];rw[zb];refine ih _ ⟨i+1,l,rfl,hl,by omega,fun j hj=> ?_⟩ (by show 300-((i:Int)+1).toNat<300-(i:Int).toNat;omega);by_cases hn:j=i
   ·rw[hn,<-hg];exact hC
   ·exact ht j (by omega)
 ·rw[zx];refine⟨_,rfl,.inr ⟨l,rfl,hl.pl,fun w c hS g hg=> ?_⟩⟩;rcases hS with hS|⟨rfl,rfl⟩
  ·exact hl.ts w c hS g hg
  ·obtain⟨j,hj,e⟩:=xcF hg;have:=ht j (by omega);rw[UV,IR hj]at this;rw[<-e];exact this
theorem Pd.mono{S T:Ts}(h:Pd P m us S l)(hT: ∀v c,T v c->S v c):Pd P m us T l:=⟨h.pl,fun v c ht=>h.ts v c (hT v c ht)⟩
theorem RY{S:Ts}(h:Sf (P:Int) m us)(hm:us.length<=290)(hb:bs.length=nb)(hq:1<=nb)(hc:nb<=290)(hd:Rl ds)(hn:ds.length<=1000)(hv: ∀v∈bs,Rl v/\v.length<=290)(hk:k<P+ds.length)(hf:3000000<=fu)(hl:Pd P m us S l):
 ∃r,zj (Xp fu P ds (k:Int) (bs.drop 1)) fu (bs,(P:Int),ds,l,0)=some r/\
  ((∃l',r= .inl l'/\Pl (P:Int) m l'/\l'.length=nb)\/ ∃l',r= .inr (bs,(P:Int),ds,l')/\Pd P m us (fun w c=>S w c\/ ∃i,1<=i/\i<nb/\w=ci (bs.getD i [])/\c=Oz P ds k) l'):=by
 refine yA (fun s:List (List Int)×Int×List Int×List (List Int)×Int=> ∃(i:Nat) (l:List (List Int)),s=(bs,(P:Int),ds,l,(i:Int))/\i+1<=nb/\Pd P m us (fun w c=>S w c\/ ∃j,1<=j/\j<i+1/\w=ci (bs.getD j [])/\c=Oz P ds k) l) (fun s=>300-s.2.2.2.2.toNat) _ ?_ _ _ ⟨0,l,rfl,by omega,hl.mono fun w c hh=>hh.elim id fun⟨j,a,b,_⟩=>by omega⟩ (by show 300-0<fu;omega);rintro s L ⟨i,l,rfl,hi,hI⟩ ih;unfold Xp;simp only;have ha:(bs.drop 1).length=nb-1:=by rw[xbO,hb]
 have he: ∀{β:Type} (x:β) (k:β->Option ((List (List Int))⊕(List (List Int)×Int×List Int×List (List Int)))),bd (some x) k=k x:=fun _ _=>rfl;by_cases h1:i+1<nb
 ·rw[iq (by rw[ha];omega),he];simp only[if_true];rw[zp (by rw[ha];omega),zf];have e:(bs.drop 1).getD i []=bs.getD (i+1) []:=by rw[UV,UV,xel,xdz]
  obtain⟨ho,hp⟩:=hv _ (uB (l:=bs) (i:=i+1) (by omega) []);rw[e];obtain⟨r,hr,hg⟩:=S6 (fu:=fu) (i2:=(i:Int)) (i4:=(((bs.drop 1).length:Nat):Int)) (t7:=bs.drop 1) (ds:=ds) h hm hb hc hd hn ho hp hk hf hI;rw[za hr];rcases hg with⟨l',rfl,g1,g2⟩|⟨l',rfl,g1⟩
  ·exact⟨_,rfl,.inl ⟨l',rfl,g1,g2⟩⟩
  ·simp only;rw[zb];refine ih _ ⟨i+1,l',rfl,by omega,g1.mono fun w c hh=> ?_⟩ (by show 300-((i:Int)+1).toNat<300-(i:Int).toNat;omega);rcases hh with hh|⟨j,a,b,c1,c2⟩
   ·exact .inl (.inl hh)
   ·by_cases hj:j=i+1
    ·subst hj;exact .inr ⟨c1,c2⟩
    ·exact .inl (.inr ⟨j,a,by omega,c1,c2⟩)
 ·rw[ir (by rw[ha];omega),he];simp only[xah,if_false];refine⟨_,rfl,.inr ⟨l,rfl,hI.mono fun w c hh=> ?_⟩⟩;rcases hh with hh|⟨j,a,b,c1,c2⟩
  ·exact .inl hh
  ·exact .inr ⟨j,a,by omega,c1,c2⟩
theorem dQ(h:Sf (P:Int) m us)(hm:1<m.length)(hn:us.length<=290)(ho:bs.length=nb)(hb:1<=nb)(he:nb<=290)(hd:Rl ds)(hp:ds.length<=1000)(hv: ∀v∈bs,Rl v/\v.length<=290)(hf:3000000<=fu):
 ∃l,Ys fu m bs P ds=some l/\Pl (P:Int) m l/\(l.length=nb\/ ∀i,1<=i->i<nb-> ∀c:Nat,c<P-> ∀g∈l,Ct P us (ci (bs.getD i [])) c g):=by
 obtain⟨p1,p2⟩:=zo h.hp;unfold Ys
 have ha:=yA (f:=Xj fu bs P ds) (fun s:List (List Int)×Int=> ∃(k:Nat) (l:List (List Int)),s=(l,(k:Int))/\k<=P+ds.length/\Pd P m us (fun w c=> ∃j i,j<k/\1<=i/\i<nb/\w=ci (bs.getD i [])/\c=Oz P ds j) l) (fun s=>P+ds.length-s.2.toNat)
  (fun l=>Pl (P:Int) m l/\(l.length=nb\/ ∀i,1<=i->i<nb-> ∀c:Nat,c<P-> ∀g∈l,Ct P us (ci (bs.getD i [])) c g)) (by
  rintro s L ⟨k,l,rfl,hk,hI⟩ ih
  unfold Xj
  simp only
  rw[zb]
  by_cases h1:k<P+ds.length
  ·rw[zM,show(1:Int)=((1:Nat):Int)from rfl,yN,yF,zf]
   obtain⟨r,hr,hi⟩:=RY (fu:=fu) (ds:=ds) h hn ho hb he hd hp hv h1 hf hI
   rw[za hr]
   rcases hi with⟨l',rfl,g1,g2⟩|⟨l',rfl,g1⟩
   ·exact⟨_,rfl,g1,.inl g2⟩
   ·simp only
    rw[zb]
    refine ih _ ⟨k+1,l',rfl,by omega,g1.mono fun w c hh=> ?_⟩ (by show P+ds.length-((k:Int)+1).toNat<P+ds.length-(k:Int).toNat;omega)
    obtain⟨j,i,a1,a2,a3,a4,a5⟩:=hh
    by_cases hj:j=k
    ·subst hj;exact .inr ⟨i,a2,a3,a4,a5⟩
    ·exact .inl ⟨j,i,by omega,a2,a3,a4,a5⟩
  ·rw[zx]
   refine⟨_,rfl,hI.pl,.inr fun i hs ht c hc g hg=> ?_⟩
   refine hI.ts _ _ ⟨ds.length+c,i,by omega,hs,ht,rfl,?_⟩ g hg
   unfold Oz
   rw[zx,show ds.length+c-ds.length=c by omega])
 obtain⟨l,hl,hq⟩:=ha fu ([m],0) ⟨0,[m],rfl,xaj _,⟨⟨fun g hg=>by rw[xai.1 hg];exact⟨h.mn,hm⟩,Cg.of (zY (ci m)).symm⟩,fun v c hh=>by obtain⟨j,i,hj,_⟩:=hh;omega⟩⟩ (by show P+ds.length-0<fu;omega);exact⟨l,by rw[za hl],hq⟩
end
section
variable{N w r i fu lo a:Nat}{R M A B:Nat->Pz}{g f:Pz}{σ:Nat->Nat}{p q:Int}{m:List (List Int)}{l:List Int}{e:Nat->Int}
def j7(N w:Nat)(R:Nat->Pz):List (List Int):=(xbb N).map fun r=>zl w (R r)
theorem kj(N w:Nat)(R:Nat->Pz):(j7 N w R).length=N:=by unfold j7;simp
theorem vk(h:r<N):(j7 N w R).getD r []=zl w (R r):=by
 unfold j7;rw[UV,xaA,xbg h];rfl
theorem jc{S:Nat->Pz}(h: ∀r,r<N-> ∀k,k<w->R r k=S r k):j7 N w R=j7 N w S:=by
 unfold j7;exact xbL fun r hr=>ym fun k hk=>h r (xaQ.1 hr) k hk
theorem CQ:(j7 N w R).set r (zl w g)=j7 N w fun s=>if s=r then g else R s:=by
 refine xcv fun i=> ?_;unfold j7;rw[xdX,xaM,xcx];by_cases h:r=i
 ·subst h;rw[iq rfl,xaA];by_cases hj:r<N
  ·rw[iq hj,xbg hj];simp
  ·rw[ir hj,xaI (by simp;omega)];rfl
 ·rw[ir h,xaA,xaA];by_cases hi:i<N
  ·rw[xbg hi];show some (zl w (R i))=some (zl w (if i=r then g else R i));rw[ir (fun e=>h e.symm)]
  ·rw[xaI (by simp;omega)];rfl
def Qz(N:Nat)(σ:Nat->Nat):List Nat:=(xbb N).map σ
theorem Yv(N:Nat)(σ:Nat->Nat):(Qz N σ).length=N:=by unfold Qz;simp
theorem jH(h:i<N):(Qz N σ).getD i 0=σ i:=by
 unfold Qz;rw[UV,xaA,xbg h];rfl
def LN(p:Int)(a:Nat)(own f:Pz):Pz:=fun k=>(f k+(p-f a)*own k) % p
def sa(p:Int)(a:Nat)(own f:Pz)(i:Nat):Pz:=fun k=>if k<i then LN p a own f k else f k
theorem zcS(hp:0<p)(a:Nat)(own f:Pz)(k:Nat):0<=LN p a own f k/\LN p a own f k<p:=yg hp
theorem NX{ix:List Nat}{n lo2 n2 q:Nat}{y:Int}(h1:2<=p)(h2:p<=65521)(hR: ∀s,s<N-> ∀k,0<=R s k/\R s k<p)(hr:r<N)(hq:q<N)(hc:q≠r)(hw:w<=64)(hy:y=R q a)(xs0:List (List Int))(h0:xs0=j7 N w R)(hf:3000000<=fu):
 zj (fun L (z:((List (List Int)×List Nat)×Nat×Nat)×(Nat×Nat)×Nat×Nat×Nat×Int)=>
 if z.2.2.2.2.2<((xs0.getD r []).length:Int)then
  zG z.2.2.2.2.2 (z.1.1.1.getD z.2.2.2.1 []).length fun j=>
  nm ((z.1.1.1.getD z.2.2.2.1 []).getD j 0) fun v=>
  zG z.2.2.2.2.2 (z.1.1.1.getD z.2.2.2.2.1 []).length fun j=>
  nm ((z.1.1.1.getD z.2.2.2.2.1 []).getD j 0) fun u=>
  ze (p-y) fun e=>
  ze (e*v) fun e=>
  ze (u+e) fun e=>
  ck (p≠0)<|
  nm (xbX e p) fun e=>
  zG z.2.2.2.2.2 (z.1.1.1.getD z.2.2.2.2.1 []).length fun j=>
  nm (z.1.1.1.set z.2.2.2.2.1 ((z.1.1.1.getD z.2.2.2.2.1 []).set j e)) fun yss=>
  ze (z.2.2.2.2.2+1) fun i=>
  L (((yss,z.1.1.2),z.1.2),z.2.1,z.2.2.1,z.2.2.2.1,z.2.2.2.2.1,i)
 else some (z.1,z.2.1,z.2.2.1)) fu (((xs0,ix),lo,n),(lo2,n2),r,r,q,0)=some (((j7 N w fun s=>if s=q then LN p a (R r) (R q)else R s,ix),lo,n),(lo2,n2),r):=by
 subst h0;refine zC (fun z:((List (List Int)×List Nat)×Nat×Nat)×(Nat×Nat)×Nat×Nat×Nat×Int=> ∃i:Nat,i<=w/\z=(((j7 N w fun s=>if s=q then sa p a (R r) (R q) i else R s,ix),lo,n),(lo2,n2),r,r,q,(i:Int))) (fun z=>w-z.2.2.2.2.2.toNat) _ ?_ _ _ ⟨0,xaj _,by
  rw[jc (R:=R) (S:=fun s=>if s=q then sa p a (R r) (R q) 0 else R s) fun s _ k _=>by
   by_cases e:s=q
   ·rw[iq e,e];unfold sa;rw[zx]
   ·rw[ir e]]
  rfl⟩ (by show w-0<fu;omega)
 rintro z L ⟨i,hi,rfl⟩ ih;simp only;rw[vk hr,zF];by_cases ha:i<w
 ·have gr:(j7 N w fun s=>if s=q then sa p a (R r) (R q) i else R s).getD r []=zl w (R r):=by rw[vk hr,ir (fun e=>hc e.symm)]
  have gq:(j7 N w fun s=>if s=q then sa p a (R r) (R q) i else R s).getD q []=zl w (sa p a (R r) (R q) i):=by rw[vk hq,iq rfl]
  have ev:sa p a (R r) (R q) i i=R q i:=zx;obtain⟨v1,v2⟩:=hR r hr i;obtain⟨u1,u2⟩:=hR q hq i;obtain⟨y1,y2⟩:=hR q hq a;rw[<-hy]at y1 y2;have m1:0<=(p-y)*R r i:=xcy (by omega) v1;have m2:(p-y)*R r i<=65521*65521:=Int.mul_le_mul (by omega) (by omega) v1 (by omega);rw[zM,gr,zF,zp ha,zf,vB ha,gq,zF,zp ha,zf,vB ha,ev,zb,zb,zb,yF,zf,kZ (by omega),zp ha,zf,jQ,CQ,zb];refine ih _ ⟨i+1,by omega,?_⟩ (by show w-((i:Int)+1).toNat<w-(i:Int).toNat;omega);rw[jc (S:=fun s=>if s=q then sa p a (R r) (R q) (i+1)else R s) fun s _ k _=>by
   by_cases e:s=q
   ·rw[iq e,iq e];unfold uK sa;by_cases hk:k=i
    ·rw[iq hk,zM,hk,hy];rfl
    ·rw[ir hk];by_cases hb:k<i
     ·rw[iq hb,zM]
     ·rw[ir hb,zx]
   ·rw[ir e,ir e,ir e]]
  rfl
 ·rw[zx];obtain rfl:i=w:=by omega
  rw[jc (S:=fun s=>if s=q then LN p a (R r) (R q)else R s) fun s _ k hk=>by
   by_cases e:s=q
   ·rw[iq e,iq e];unfold sa;rw[iq hk]
   ·rw[ir e,ir e]]
structure Ps(N:Nat)(σ:Nat->Nat):Prop where
 lt: ∀i,i<N->σ i<N
 ij: ∀i j,i<N->j<N->σ i=σ j->i=j
theorem tA{n t:Nat}(h1:2<=p)(h2:p<=65521)(hR: ∀s,s<N-> ∀k,0<=R s k/\R s k<p)(hσ:Ps N σ)(ht:t<N)(ho:t<lo\/lo+n<=t)(hn:lo+n<=N)(hN:N<=64)(hw:w<=64)(ha:a<w)(hf:3000000<=fu):
 ∃S:Nat->Pz,wY fu (j7 N w R) (Qz N σ) (σ t) (a:Int) p lo n=some (j7 N w S)/\(∀s,s<N-> ∀k,0<=S s k/\S s k<p)/\ ∀j,j<N->S (σ j)=if lo<=j/\j<lo+n then LN p a (R (σ t)) (R (σ j))else R (σ j):=by
 unfold wY;have hb:=yA (f:=(fun L (x:((List (List Int)×List Nat)×Nat×Nat)×(Nat×Nat)×Nat×Int)=>
 if x.2.2.2<(n:Int)then
  zG x.2.2.2 x.2.1.2 fun j=>
  nm (x.1.1.2.getD (x.2.1.1+j) 0) fun q=>
  zG (a:Int) (x.1.1.1.getD q []).length fun j=>
  nm ((x.1.1.1.getD q []).getD j 0) fun y=>
  bd (zj (fun L (z:((List (List Int)×List Nat)×Nat×Nat)×(Nat×Nat)×Nat×Nat×Nat×Int)=>
   if z.2.2.2.2.2<((x.1.1.1.getD x.2.2.1 []).length:Int)then
    zG z.2.2.2.2.2 (z.1.1.1.getD z.2.2.2.1 []).length fun j=>
    nm ((z.1.1.1.getD z.2.2.2.1 []).getD j 0) fun v=>
    zG z.2.2.2.2.2 (z.1.1.1.getD z.2.2.2.2.1 []).length fun j=>
    nm ((z.1.1.1.getD z.2.2.2.2.1 []).getD j 0) fun u=>
    ze (p-y) fun e=>
    ze (e*v) fun e=>
    ze (u+e) fun e=>
    ck (p≠0)<|
    nm (xbX e p) fun e=>
    zG z.2.2.2.2.2 (z.1.1.1.getD z.2.2.2.2.1 []).length fun j=>
    nm (z.1.1.1.set z.2.2.2.2.1 ((z.1.1.1.getD z.2.2.2.2.1 []).set j e)) fun yss=>
    ze (z.2.2.2.2.2+1) fun i=>
    L (((yss,z.1.1.2),z.1.2),z.2.1,z.2.2.1,z.2.2.2.1,z.2.2.2.2.1,i)
   else some (z.1,z.2.1,z.2.2.1)) fu (x.1,x.2.1,x.2.2.1,x.2.2.1,q,0)) fun z=>
  ze (x.2.2.2+1) fun i=>
  L (z.1,z.2.1,z.2.2,i)
 else some x.1)) (fun x=> ∃(c:Nat) (S:Nat->Pz),x=(((j7 N w S,Qz N σ),lo,n),(lo,n),σ t,(c:Int))/\c<=n/\(∀s,s<N-> ∀k,0<=S s k/\S s k<p)/\ ∀j,j<N->S (σ j)=if lo<=j/\j<lo+c then LN p a (R (σ t)) (R (σ j))else R (σ j)) (fun x=>n-x.2.2.2.toNat)
  (fun y=> ∃S:Nat->Pz,y=((j7 N w S,Qz N σ),lo,n)/\(∀s,s<N-> ∀k,0<=S s k/\S s k<p)/\ ∀j,j<N->S (σ j)=if lo<=j/\j<lo+n then LN p a (R (σ t)) (R (σ j))else R (σ j)) (by
  rintro x L ⟨c,S,rfl,hc,hS,hE⟩ ih
  simp only
  by_cases hg:c<n
  ·have hj:lo+c<N:=by omega
   have hi:=hσ.lt t ht
   have hd:=hσ.lt (lo+c) hj
   have hk:σ (lo+c)≠σ t:=fun e=>by have:=hσ.ij _ _ hj ht e;omega
   have hl:S (σ (lo+c))=R (σ (lo+c)):=by rw[hE _ hj,zx]
   have hm:S (σ t)=R (σ t):=by rw[hE _ ht,zx]
   rw[zM,zp hg,zf,jH hj,vk hd,zF,zp ha,zf,vB ha,za (NX (ix:=Qz N σ) (lo:=lo) (n:=n) (lo2:=lo) (n2:=n) h1 h2 hS hi hd hk hw rfl _ rfl hf)]
   simp only
   rw[zb]
   refine ih _ ⟨c+1,fun s=>if s=σ (lo+c)then LN p a (S (σ t)) (S (σ (lo+c)))else S s,rfl,by omega,fun s hs k=> ?_,fun j he=> ?_⟩ (by show n-((c:Int)+1).toNat<n-(c:Int).toNat;omega)
   ·show 0<=(if s=σ (lo+c)then LN p a (S (σ t)) (S (σ (lo+c)))else S s) k/\(if s=σ (lo+c)then LN p a (S (σ t)) (S (σ (lo+c)))else S s) k<p
    by_cases e:s=σ (lo+c)
    ·rw[iq e];exact zcS (show 0<p by omega) _ _ _ _
    ·rw[ir e];exact hS s hs k
   ·show(if σ j=σ (lo+c)then LN p a (S (σ t)) (S (σ (lo+c)))else S (σ j))=_
    by_cases e:j=lo+c
    ·rw[e,iq rfl,zM,hm,hl]
    ·rw[ir (fun h=>e (hσ.ij _ _ he hj h)),hE j he]
     by_cases e2:lo<=j/\j<lo+c
     ·rw[iq e2,zM]
     ·rw[ir e2,zx]
  ·rw[zx]
   obtain rfl:c=n:=by omega
   exact⟨_,rfl,S,rfl,hS,hE⟩)
 obtain⟨y,hy,S,rfl,hS,hE⟩:=hb fu (((j7 N w R,Qz N σ),lo,n),(lo,n),σ t,0) ⟨0,R,rfl,xaj _,hR,fun j hj=>by rw[zx]⟩ (by show n-0<fu;omega);refine⟨S,?_,hS,hE⟩;rw[za hy];simp only;rw[qZ ⟨trivial,trivial,trivial⟩]
theorem Jx(hp:wB p=true)(hN:m.length<=64)(hm: ∀r∈m,r.length=w)(hw:w<=64)(hf:3000000<=fu):Zh fu m p=some 0:=by
 unfold Zh;rw[za (jL hp (by omega)),iq rfl,zx,za (v:=Sum.inl ())];refine zC (fun i:Int=> ∃k:Nat,i=(k:Int)/\k<=m.length) (fun i=>m.length-i.toNat) _ ?_ _ _ ⟨0,rfl,xaj _⟩ (by omega);rintro i L ⟨k,rfl,hk⟩ ih;unfold Kd;by_cases h:k<m.length
 ·have e1:=hm _ (uB h []);have e2:=hm _ (uB (show 0<m.length by omega) []);rw[zM,za rfl];simp only[if_true];rw[zp h,zf,zx,show(0:Int)=((0:Nat):Int)from rfl,yB,zf,zM,zb];exact ih _ ⟨k+1,by omega,by omega⟩ (by omega)
 ·rw[zx,za rfl];simp only[xah,if_false]
theorem gX(h1:1<=p)(h2:p<=65521)(hr:Rl l)(hl:l.length<=1000000)(hf:3000000<=fu):uW fu l p=some (zl l.length (fun k=>ci l k % p)):=by
 unfold uW;rw[yN,yF,zf,Je,za (v:=zl l.length (fun k=>ci l k % p))];refine zC (fun s:Int×List Int=> ∃i:Nat,i<=l.length/\s=((i:Int),zl l.length (fun k=>if k<i then ci l k % p else 0))) (fun s=>l.length-s.1.toNat) _ ?_ _ _ ⟨0,xaj _,by rw[ym (f:=fun _=>0) (g:=fun k=>if k<0 then ci l k % p else 0) fun k _=>by rw[zx]];rfl⟩ (by show l.length-0<fu;omega);rintro s L ⟨i,hi,rfl⟩ ih;unfold KN;simp only;by_cases h:i<l.length
 ·rw[zM,zp h,zf,za (show jN fu (l.getD i 0) p=some (l.getD i 0 % p)from uC h1 h2 (hr i)),zp (by rw[zF];exact h),zf,jQ,zb];refine ih _ ⟨i+1,by omega,?_⟩ (by show l.length-((i:Int)+1).toNat<l.length-(i:Int).toNat;omega);rw[ym (g:=fun k=>if k<i+1 then ci l k % p else 0) fun k _=>by
   unfold uK;by_cases hk:k=i
   ·rw[iq hk,zM,hk,Zg]
   ·rw[ir hk];show(if k<i then ci l k % p else 0)=_;by_cases ha:k<i
    ·rw[iq ha,zM]
    ·rw[ir ha,zx]]
  rfl
 ·rw[zx];rw[ym (g:=fun k=>ci l k % p) fun k hk=>by rw[zM]]
theorem DX{l:List (List Int)}{g:List Int->Option Bool}{b:List Int->Bool}(hg: ∀z∈l,g z=some (b z))(hl:l.length<=1000000)(hf:3000000<=fu):
 (yz fu l g=some (-1)/\ ∀z∈l,b z=false)\/ ∃i:Nat,i<l.length/\yz fu l g=some (i:Int)/\b (l.getD i [])=true/\ ∀j,j<i->b (l.getD j [])=false:=by
 unfold yz
 have ha:=yA (f:=wG fu l g) (fun i:Int=> ∃k:Nat,i=(k:Int)/\k<=l.length/\ ∀j,j<k->b (l.getD j [])=false) (fun i=>l.length-i.toNat)
  (fun r=>(r= .inl ()/\ ∀j,j<l.length->b (l.getD j [])=false)\/ ∃i:Nat,i<l.length/\r= .inr (i:Int)/\b (l.getD i [])=true/\ ∀j,j<i->b (l.getD j [])=false) (by
  rintro i L ⟨k,rfl,hk,hj⟩ ih
  unfold wG
  by_cases h:k<l.length
  ·rw[zM,zp h,zf,za (hg _ (uB h []))]
   cases hb:b (l.getD k [])with
   |true=>
    rw[iq rfl]
    exact⟨_,rfl,.inr ⟨k,h,rfl,hb,hj⟩⟩
   |false=>
    rw[ir (by decide),zb]
    refine ih _ ⟨k+1,by omega,by omega,fun j he=> ?_⟩ (by omega)
    by_cases e:j=k
    ·rw[e];exact hb
    ·exact hj j (by omega)
  ·rw[zx]
   exact⟨_,rfl,.inl ⟨rfl,fun j hm=>hj j (by omega)⟩⟩)
 obtain⟨r,hr,hc⟩:=ha fu 0 ⟨0,rfl,xaj _,fun j hj=>by omega⟩ (by show l.length-0<fu;omega);rcases hc with⟨rfl,hd⟩|⟨i,hi,rfl,hb,hj⟩
 ·left;refine⟨by rw[za hr],fun z hz=> ?_⟩;obtain⟨j,hj,e⟩:=xcF hz;have:=hd j hj;rw[UV,IR hj]at this;rw[<-e];exact this
 ·right;exact⟨i,hi,by rw[za hr],hb,hj⟩
theorem NP{g:Int->Option Bool}{b:Int->Bool}(hg: ∀z,g z=some (b z))(hl:l.length<=1000000)(hf:3000000<=fu):
 (yZ fu l g=some (-1)/\ ∀j,j<l.length->b (ci l j)=false)\/ ∃i:Nat,i<l.length/\yZ fu l g=some (i:Int)/\b (ci l i)=true/\ ∀j,j<i->b (ci l j)=false:=by
 unfold yZ
 have ha:=yA (f:=wc fu l g) (fun i:Int=> ∃k:Nat,i=(k:Int)/\k<=l.length/\ ∀j,j<k->b (ci l j)=false) (fun i=>l.length-i.toNat)
  (fun r=>(r= .inl ()/\ ∀j,j<l.length->b (ci l j)=false)\/ ∃i:Nat,i<l.length/\r= .inr (i:Int)/\b (ci l i)=true/\ ∀j,j<i->b (ci l j)=false) (by
  rintro i L ⟨k,rfl,hk,hj⟩ ih
  unfold wc
  by_cases h:k<l.length
  ·rw[zM,zp h,zf,za (hg _),Zg]
   cases hb:b (ci l k)with
   |true=>
    rw[iq rfl]
    exact⟨_,rfl,.inr ⟨k,h,rfl,hb,hj⟩⟩
   |false=>
    rw[ir (by decide),zb]
    refine ih _ ⟨k+1,by omega,by omega,fun j he=> ?_⟩ (by omega)
    by_cases e:j=k
    ·rw[e];exact hb
    ·exact hj j (by omega)
  ·rw[zx]
   exact⟨_,rfl,.inl ⟨rfl,fun j hm=>hj j (by omega)⟩⟩)
 obtain⟨r,hr,hc⟩:=ha fu 0 ⟨0,rfl,xaj _,fun j hj=>by omega⟩ (by show l.length-0<fu;omega);rcases hc with⟨rfl,hd⟩|⟨i,hi,rfl,hb,hj⟩
 ·exact .inl ⟨by rw[za hr],hd⟩
 ·exact .inr ⟨i,hi,by rw[za hr],hb,hj⟩
def dt(w:Nat)(f:Pz)(e:Nat->Int):Int:=zU w fun k=>f k*e k
theorem Te(h: ∀k,k<w->f k % p=g k % p):dt w f e % p=dt w g e % p:=K6 fun k hk=>by rw[xbq,h k hk,<-xbq]
theorem zal(c d:Int):dt w (fun k=>c*f k+d*g k) e=c*dt w f e+d*dt w g e:=by
 unfold dt;rw[<-jA,<-jA,<-Zb];exact zT fun k _=>by grind
def Kr(p:Int)(N w:Nat)(A:Nat->Pz)(e:Nat->Int):Prop:= ∀i,i<N->p∣dt w (A i) e
structure o7(p:Int)(N w:Nat)(M A:Nat->Pz)(n c:Nat)(pv:Nat->Nat):Prop where
 hn:n<=N
 hc:c<=w
 rg: ∀i,i<N-> ∀k,0<=A i k/\A i k<p
 lt: ∀i,i<n->pv i<c
 on: ∀i,i<n->A i (pv i)=1
 no: ∀i,i<n-> ∀j,j<N->j≠i->A j (pv i)=0
 ld: ∀i,i<n-> ∀k,k<pv i->A i k=0
 zr: ∀i,n<=i->i<N-> ∀k,k<c->A i k=0
 kr: ∀e,Kr p N w A e↔Kr p N w M e
theorem o7.skip{n c:Nat}{pv:Nat->Nat}(h:o7 p N w M A n c pv)(hc:c<w)(hz: ∀i,n<=i->i<N->A i c=0):o7 p N w M A n (c+1) pv:=
 ⟨h.hn,hc,h.rg,fun i hi=>by have:=h.lt i hi;omega,h.on,h.no,h.ld,fun i h1 h2 k hk=>by
  by_cases e:k=c
  ·rw[e];exact hz i h1 h2
  ·exact h.zr i h1 h2 k (by omega),h.kr⟩
theorem o7.swap{n c:Nat}{pv:Nat->Nat}(h:o7 p N w M A n c pv)(ha:n<=a)(hc:a<N)(hB: ∀i,i<N->B i=if i=n then A a else if i=a then A n else A i):o7 p N w M B n c pv:=by
 have he: ∀i,i<n->B i=A i:=fun i hi=>by
  have:=h.hn;rw[hB i (by omega),zx,zx]
 have hb: ∀i,i<N-> ∃j,j<N/\B i=A j/\(n<=i->n<=j)/\(∀x,x<n->(i≠x->j≠x)):=fun i hi=>by
  by_cases e1:i=n
  ·exact⟨a,hc,by rw[hB i hi,iq e1],fun _=>ha,fun x hx _=>by omega⟩
  ·by_cases e2:i=a
   ·exact⟨n,by omega,by rw[hB i hi,ir e1,iq e2],fun _=>xac _,fun x hx _=>by omega⟩
   ·exact⟨i,hi,by rw[hB i hi,ir e1,ir e2],id,fun x hx=>id⟩
 have hd: ∀i,i<N-> ∃j,j<N/\A i=B j:=fun i hi=>by
  by_cases e1:i=n
  ·refine⟨a,hc,?_⟩;rw[hB a hc];by_cases e:a=n
   ·rw[iq e,e1,e]
   ·rw[ir e,iq rfl,e1]
  ·by_cases e2:i=a
   ·exact⟨n,by omega,by rw[hB n (by omega),iq rfl,e2]⟩
   ·exact⟨i,hi,by rw[hB i hi,ir e1,ir e2]⟩
 refine⟨h.hn,h.hc,fun i hi=> ?_,h.lt,fun i hi=> ?_,fun i hi j hj hf=> ?_,fun i hi k hk=> ?_,fun i h1 h2 k hk=> ?_,fun e=> ?_⟩
 ·obtain⟨j,hj,e,_⟩:=hb i hi;rw[e];exact h.rg j hj
 ·rw[he i hi];exact h.on i hi
 ·obtain⟨x,hx,e,_,hg⟩:=hb j hj;rw[e];exact h.no i hi x hx (hg i hi hf)
 ·rw[he i hi];exact h.ld i hi k hk
 ·obtain⟨j,hj,e,hl,_⟩:=hb i h2;rw[e];exact h.zr j (hl h1) hj k hk
 ·refine Iff.trans ⟨fun hk i hi=> ?_,fun hk i hi=> ?_⟩ (h.kr e)
  ·obtain⟨j,hj,e⟩:=hd i hi;rw[e];exact hk j hj
  ·obtain⟨j,hj,e,_⟩:=hb i hi;rw[e];exact hk j hj
theorem o7.step{n c:Nat}{pv:Nat->Nat}(hp:2<=p)(h:o7 p N w M A n c pv)(hb:n<N)(hr:c<w)(hq:(q*A n c) % p=1)(hf:B n=fun k=>(A n k*q) % p)(hB: ∀j,j<N->j≠n->B j=LN p c (B n) (A j)):
 o7 p N w M B (n+1) (c+1) (fun i=>if i=n then c else pv i):=by
 have hg: ∀k,k<c->B n k=0:=fun k hk=>by rw[hf];show A n k*q % p=0;rw[h.zr n (xac _) hb k hk,xaU,xag]
 have hm:B n c=1:=by rw[hf];show A n c*q % p=1;rw[xbi,hq]
 have hc: ∀j,j<N->j≠n-> ∀k,B j k=(A j k+(p-A j c)*B n k) % p:=fun j hj hd k=>by rw[hB j hj hd];rfl
 have ha: ∀j,j<N->j≠n-> ∀k,B n k=0->B j k=A j k:=fun j hj hd k hk=>by
  rw[hc j hj hd,hk,xat,xbx];exact xaz (h.rg j hj k).1 (h.rg j hj k).2
 have he: ∀i,i<n->B n (pv i)=0:=fun i hi=>hg _ (h.lt i hi);refine⟨hb,hr,fun i hi k=> ?_,fun i hi=> ?_,fun i hi=> ?_,fun i hi j hj hs=> ?_,fun i hi k hk=> ?_,fun i h1 h2 k hk=> ?_,fun e=> ?_⟩
 ·by_cases e:i=n
  ·rw[e,hf];exact yg (by omega)
  ·rw[hc i hi e];exact yg (by omega)
 ·show(if i=n then c else pv i)<c+1;by_cases e:i=n
  ·rw[iq e];omega
  ·rw[ir e];have:=h.lt i (by omega);omega
 ·show B i (if i=n then c else pv i)=1;by_cases e:i=n
  ·rw[iq e,e,hm]
  ·rw[ir e,ha i (by omega) e _ (he i (by omega))];exact h.on i (by omega)
 ·show B j (if i=n then c else pv i)=0;by_cases e:i=n
  ·rw[iq e,hc j hj (by omega),hm,xce,show A j c+(p-A j c)=p by omega,Int.emod_self]
  ·rw[ir e];by_cases e2:j=n
   ·rw[e2];exact he i (by omega)
   ·rw[ha j hj e2 _ (he i (by omega))];exact h.no i (by omega) j hj hs
 ·have hl:k<(if i=n then c else pv i):=hk;by_cases e:i=n
  ·rw[iq e]at hl;rw[e];exact hg k hl
  ·rw[ir e]at hl;have h3:=h.lt i (by omega);rw[ha i (by omega) e k (hg k (by omega))];exact h.ld i (by omega) k hl
 ·by_cases e:k=c
  ·rw[e,hc i h2 (by omega),hm,xce,show A i c+(p-A i c)=p by omega,Int.emod_self]
  ·rw[ha i h2 (by omega) k (hg k (by omega))];exact h.zr i (by omega) h2 k (by omega)
 ·refine Iff.trans ?_ (h.kr e);have en:dt w (B n) e % p=(q*dt w (A n) e) % p:=by
   have:=Te (p:=p) (w:=w) (f:=B n) (g:=fun k=>q*A n k+0*A n k) (e:=e) fun k _=>by rw[hf];show A n k*q % p % p=_;rw[xaC];congr 1;grind
   rw[this,zal];congr 1;grind
  have ej: ∀j,j<N->j≠n->dt w (B j) e % p=(dt w (A j) e+(p-A j c)*dt w (B n) e) % p:=fun j hj hd=>by
   have:=Te (p:=p) (w:=w) (f:=B j) (g:=fun k=>1*A j k+(p-A j c)*B n k) (e:=e) fun k _=>by rw[hc j hj hd,xaC];congr 1;grind
   rw[this,zal];congr 1;grind
  have dv: ∀{x y:Int},x % p=y % p->(p∣x↔p∣y):=fun{x y} hn=>⟨fun hx=>xaG (by rw[<-hn];exact xax hx),fun hy=>xaG (by rw[hn];exact xax hy)⟩;have ht:p∣dt w (B n) e->p∣dt w (A n) e:=fun hh=>by
   have h1:=(dv en).1 hh;have h2:p∣A n c*(q*dt w (A n) e):=xbB h1 (xcK _ _);refine(dv ?_).1 h2;rw[<-xbG,xbq,xbi (A n c) q,hq,xbY,xaC]
  constructor
  ·intro hk j hj;by_cases e1:j=n
   ·rw[e1];exact ht (hk n hb)
   ·have h1:=(dv (ej j hj e1)).1 (hk j hj);have h2:p∣(p-A j c)*dt w (B n) e:=xbB (hk n hb) (xcK _ _);have h3:=xdo h1 h2;rwa[Int.add_sub_cancel]at h3
  ·intro hk j hj;have ho:p∣dt w (B n) e:=(dv en).2 (xbB (hk n hb) (xcK _ _));by_cases e1:j=n
   ·rw[e1];exact ho
   ·exact(dv (ej j hj e1)).2 (Int.dvd_add (hk j hj) (xbB ho (xcK _ _)))
theorem EC(N w:Nat)(R:Nat->Pz):j7 N w R++[zl w (R N)]=j7 (N+1) w R:=by
 unfold j7;rw[xdC,xaN];rfl
theorem SN(N:Nat)(σ:Nat->Nat):Qz N σ++[σ N]=Qz (N+1) σ:=by
 unfold Qz;rw[xdC,xaN];rfl
theorem lv{v:Nat}:(Qz N σ).set i v=Qz N fun s=>if s=i then v else σ s:=by
 refine xcv fun j=> ?_;unfold Qz;rw[xdX,xaM,xcx];by_cases h:i=j
 ·subst h;rw[iq rfl,xaA];by_cases hj:i<N
  ·rw[iq hj,xbg hj];simp
  ·rw[ir hj,xaI (by simp;omega)];rfl
 ·rw[ir h,xaA,xaA];by_cases hi:j<N
  ·rw[xbg hi];show some (σ j)=some (if j=i then v else σ j);rw[ir (fun e=>h e.symm)]
  ·rw[xaI (by simp;omega)];rfl
theorem OZ(hσ: ∀i,i<N->σ i<N):((Qz N σ).map fun r=>(j7 N w R).getD r [])=j7 N w fun i=>R (σ i):=by
 show((xbb N).map σ).map _=(xbb N).map _;rw[xcM];exact xbL fun i hi=>vk (hσ i (xaQ.1 hi))
theorem Sd{n:Nat}(h:n<=N):(j7 N w R).take n=j7 n w R:=by
 unfold j7;rw[<-List.map_take,List.take_range,xcX h]
theorem Rp{n:Nat}(h:n<=N):(j7 N w R).drop n=j7 (N-n) w fun i=>R (n+i):=by
 refine xcv fun i=> ?_;unfold j7;rw[xel,xaA,xaA];by_cases hi:n+i<N
 ·rw[xbg hi,xbg (by omega)];rfl
 ·rw[xaI (by simp;omega),xaI (by simp;omega)];rfl
theorem zat{n:Nat}(h1:2<=p)(h2:p<=65521)(hR: ∀s,s<N-> ∀k,0<=R s k/\R s k<p)(hr:r<N)(hd:σ n=r)(hn:n<N)(hb:0<=q)(hg:q<p)(hw:w<=64)(xs0:List (List Int))(h0:xs0=j7 N w R)(nI:Int)(he:nI=(n:Int))(hf:3000000<=fu):
 zj (fun L (z:(List (List Int)×List Nat)×Nat×Int)=>
  if z.2.2<((xs0.getD r []).length:Int)then
   zG z.2.2 (z.1.1.getD z.2.1 []).length fun j=>
   nm ((z.1.1.getD z.2.1 []).getD j 0) fun y=>
   zG nI z.1.2.length fun j=>
   nm (z.1.2.getD j 0) fun r=>
   ze (y*q) fun e=>
   ck (p≠0)<|
   nm (xbX e p) fun e=>
   zG z.2.2 (z.1.1.getD r []).length fun j=>
   nm (z.1.1.set r ((z.1.1.getD r []).set j e)) fun yss=>
   ze (z.2.2+1) fun i=>L ((yss,z.1.2),z.2.1,i)
  else some z.1) fu ((xs0,Qz N σ),r,0)=some (j7 N w fun s=>if s=r then fun k=>(R r k*q) % p else R s,Qz N σ):=by
 subst h0 he;refine zC (fun z:(List (List Int)×List Nat)×Nat×Int=> ∃i:Nat,i<=w/\z=((j7 N w fun s=>if s=r then fun k=>if k<i then(R r k*q) % p else R r k else R s,Qz N σ),r,(i:Int))) (fun z=>w-z.2.2.toNat) _ ?_ _ _ ⟨0,xaj _,by
  rw[jc (R:=R) (S:=fun s=>if s=r then fun k=>if k<0 then(R r k*q) % p else R r k else R s) fun s _ k _=>by
   by_cases e:s=r
   ·rw[iq e,e];show R r k=if k<0 then _ else R r k;rw[zx]
   ·rw[ir e]]
  rfl⟩ (by show w-0<fu;omega)
 rintro z L ⟨i,hi,rfl⟩ ih;simp only;rw[vk hr,zF];by_cases ha:i<w
 ·have gr:(j7 N w fun s=>if s=r then fun k=>if k<i then(R r k*q) % p else R r k else R s).getD r []=zl w (fun k=>if k<i then(R r k*q) % p else R r k):=by rw[vk hr,iq rfl]
  obtain⟨v1,v2⟩:=hR r hr i;have m1:0<=R r i*q:=xcy v1 hb;have m2:R r i*q<=65521*65521:=Int.mul_le_mul (by omega) (by omega) hb (by omega);rw[zM,gr,zF,zp ha,zf,vB ha,zx,Yv,zp hn,zf,jH hn,hd,zb,yF,zf,kZ (by omega),gr,zF,zp ha,zf,jQ,CQ,zb];refine ih _ ⟨i+1,by omega,?_⟩ (by show w-((i:Int)+1).toNat<w-(i:Int).toNat;omega);rw[jc (S:=fun s=>if s=r then fun k=>if k<i+1 then(R r k*q) % p else R r k else R s) fun s _ k _=>by
   by_cases e:s=r
   ·rw[iq e,iq e];unfold uK;show _=if k<i+1 then(R r k*q) % p else R r k;by_cases hk:k=i
    ·rw[iq hk,zM,hk]
    ·rw[ir hk];show(if k<i then(R r k*q) % p else R r k)=_;by_cases hc:k<i
     ·rw[iq hc,zM]
     ·rw[ir hc,zx]
   ·rw[ir e,ir e,ir e]]
  rfl
 ·rw[zx];obtain rfl:i=w:=by omega
  rw[jc (S:=fun s=>if s=r then fun k=>(R r k*q) % p else R s) fun s _ k hk=>by
   by_cases e:s=r
   ·rw[iq e,iq e];show(if k<i then _ else _)=_;rw[iq hk]
   ·rw[ir e,ir e]]
theorem zha(hp:0<p):o7 p N w M (fun i k=>M i k % p) 0 0 (fun _=>0):=
 ⟨xaj _,xaj _,fun i _ k=>yg hp,fun i hi=>by omega,fun i hi=>by omega,fun i hi=>by omega,fun i hi=>by omega,fun i _ _ k hk=>by omega,fun e=>by
  have dv: ∀{x y:Int},x % p=y % p->(p∣x↔p∣y):=fun{x y} ha=>⟨fun hx=>xaG (by rw[<-ha];exact xax hx),fun hy=>xaG (by rw[ha];exact xax hy)⟩;have: ∀i,p∣dt w (fun k=>M i k % p) e↔p∣dt w (M i) e:=fun i=>dv (Te fun k _=>xaC _ _);exact⟨fun h i hi=>(this i).1 (h i hi),fun h i hi=>(this i).2 (h i hi)⟩⟩
def P2(fu:Nat)(p:Int):(((List (List Int)×List Nat)×Int×Int)->Option ((List (List Int)×List Nat)×Int))->((List (List Int)×List Nat)×Int×Int)->Option ((List (List Int)×List Nat)×Int):=fun L (x:(List (List Int)×List Nat)×Int×Int)=>if x.2.1<(x.1.2.length:Int)then zG 0 x.1.2.length fun j=>nm (x.1.2.getD j 0) fun r=>if x.2.2<((x.1.1.getD r []).length:Int)then j8 x.2.1 fun j=>ck (j<=x.1.2.length)<|bd (yz fu (xdr (x.1.2.length-j) (xdv j (x.1.2.map fun r=>x.1.1.getD r []))) fun z=>qu fu z x.2.2) fun i=>if i<0 then ze (x.2.2+1) fun c=>L (x.1,x.2.1,c)else ze (x.2.1+i) fun a=>ze (x.2.1+i) fun b=>zG b x.1.2.length fun j=>nm (x.1.2.getD j 0) fun r1=>zG x.2.1 x.1.2.length fun j=>nm (x.1.2.getD j 0) fun r2=>zG x.2.1 x.1.2.length fun j=>nm (x.1.2.set j r1) fun ix=>zG a ix.length fun j=>nm (ix.set j r2) fun ix=>zG x.2.1 ix.length fun j=>nm (ix.getD j 0) fun r=>zG x.2.2 (x.1.1.getD r []).length fun j=>nm ((x.1.1.getD r []).getD j 0) fun y=>bd (YQ fu y p) fun q=>zG x.2.1 ix.length fun j=>nm (ix.getD j 0) fun r=>bd (zj (fun L (z:(List (List Int)×List Nat)×Nat×Int)=>if z.2.2<((x.1.1.getD r []).length:Int)then zG z.2.2 (z.1.1.getD z.2.1 []).length fun j=>nm ((z.1.1.getD z.2.1 []).getD j 0) fun y=>zG x.2.1 z.1.2.length fun j=>nm (z.1.2.getD j 0) fun r=>ze (y*q.1) fun e=>ck (p≠0)<|nm (xbX e p) fun e=>zG z.2.2 (z.1.1.getD r []).length fun j=>nm (z.1.1.set r ((z.1.1.getD r []).set j e)) fun yss=>ze (z.2.2+1) fun i=>L ((yss,z.1.2),z.2.1,i)else some z.1) fu ((x.1.1,ix),r,0)) fun m=>zG x.2.1 m.2.length fun j=>nm (m.2.getD j 0) fun r=>j8 x.2.1 fun j=>ck (j<=m.2.length)<|bd (wY fu m.1 m.2 r x.2.2 p 0 j) fun yss=>zG x.2.1 m.2.length fun j=>nm (m.2.getD j 0) fun r=>ze (x.2.1+1) fun e=>j8 e fun j=>ck (j<=m.2.length)<|bd (wY fu yss m.2 r x.2.2 p j (m.2.length-j)) fun yss=>ze (x.2.1+1) fun k=>ze (x.2.2+1) fun c=>L ((yss,m.2),k,c)else some (x.1,x.2.1)else some (x.1,x.2.1)
def EI(p:Int)(N w:Nat)(M:Nat->Pz)(x:(List (List Int)×List Nat)×Int×Int):Prop:=
 ∃(R:Nat->Pz) (σ:Nat->Nat) (n c:Nat) (pv:Nat->Nat),x=((j7 N w R,Qz N σ),(n:Int),(c:Int))/\(∀s,s<N-> ∀k,0<=R s k/\R s k<p)/\Ps N σ/\o7 p N w M (fun i=>R (σ i)) n c pv
def EQ(p:Int)(N w:Nat)(M:Nat->Pz)(y:(List (List Int)×List Nat)×Int):Prop:=
 ∃(R:Nat->Pz) (σ:Nat->Nat) (n c:Nat) (pv:Nat->Nat),y=((j7 N w R,Qz N σ),(n:Int))/\Ps N σ/\o7 p N w M (fun i=>R (σ i)) n c pv/\(n=N\/c=w)
theorem zdc{α:Type}{n:Nat}{k:Nat->Option α}(h:0<n):zG (0:Int) n k=k 0:=by
 rw[show(0:Int)=((0:Nat):Int)from rfl,zp h]
theorem Su(hp:wB p=true)(hN:N<=64)(hw:w<=64)(hf:3000000<=fu){x:(List (List Int)×List Nat)×Int×Int}(hx:EI p N w M x): ∃y,zj (P2 fu p) fu x=some y/\EQ p N w M y:=by
 obtain⟨p1,p2⟩:=zo hp;refine yA (EI p N w M) (fun x=>w-x.2.2.toNat) _ ?_ _ _ hx (by obtain⟨R,σ,n,c,pv,rfl,_⟩:=hx;show w-(c:Int).toNat<fu;omega);rintro x L ⟨R,σ,n,c,pv,rfl,hR,hσ,hE⟩ ih;unfold P2;simp only;have ho:=hE.hn;have hq:=hE.hc;rw[Yv];by_cases h1:n<N
 ·have hk:=hσ.lt 0 (by omega);rw[zM,zdc (by omega),zf,jH (by omega),vk hk,zF];by_cases h2:c<w
  ·rw[zM,yN,yF,OZ hσ.lt,Rp (by omega),xaX (by rw[kj];exact xac _)];have he: ∀z∈j7 (N-n) w (fun i=>R (σ (n+i))),qu fu z (c:Int)=some (!decide (ci z c=0)):=fun z hz=>by
    obtain⟨j,hj,rfl⟩:=xal.1 hz;unfold qu;rw[zp (by rw[zF];exact h2),zf,Zg];by_cases e:ci (zl w (R (σ (n+j)))) c=0
    ·rw[iq e,decide_eq_true e];rfl
    ·rw[ir e,decide_eq_false e];rfl
   rcases DX (fu:=fu) (b:=fun z=> !decide (ci z c=0)) he (by rw[kj];omega) hf with⟨g1,g2⟩|⟨i,hi,g1,g2,g3⟩
   ·rw[za g1,iq (by decide),zb];refine ih _ ⟨R,σ,n,c+1,pv,rfl,hR,hσ,hE.skip h2 fun i h3 h4=> ?_⟩ (by show w-((c:Int)+1).toNat<w-(c:Int).toNat;omega);have g4:=g2 ((j7 (N-n) w (fun i=>R (σ (n+i)))).getD (i-n) []) (uB (by rw[kj];omega) []);rw[vk (by omega),qY h2,show n+(i-n)=i by omega]at g4;show R (σ i) c=0;simpa using g4
   ·rw[kj]at hi;rw[vk hi,qY h2]at g2;have ha:R (σ (n+i)) c≠0:=by simpa using g2
    obtain⟨τ,hτ⟩: ∃τ:Nat->Nat,τ=fun s=>if s=n+i then σ n else if s=n then σ (n+i)else σ s:=⟨_,rfl⟩;have hl:τ n=σ (n+i):=by
     rw[hτ];show(if n=n+i then σ n else if n=n then σ (n+i)else σ n)=_;by_cases e:n=n+i
     ·rw[iq e];exact congrArg σ e
     ·rw[ir e,iq rfl]
    have hb:Ps N τ:=by
     have hc: ∀s,τ s=σ (if s=n+i then n else if s=n then n+i else s):=fun s=>by
      rw[hτ];show(if s=n+i then σ n else if s=n then σ (n+i)else σ s)=_;by_cases e1:s=n+i
      ·rw[iq e1,iq e1]
      ·rw[ir e1,ir e1];by_cases e2:s=n
       ·rw[iq e2,iq e2]
       ·rw[ir e2,ir e2]
     refine⟨fun s hs=> ?_,fun s t hs ht e=> ?_⟩
     ·rw[hc];refine hσ.lt _ ?_;split<;>(try split)<;>omega
     ·rw[hc,hc]at e;have:=hσ.ij _ _ (by split<;>(try split)<;>omega) (by split<;>(try split)<;>omega) e;split at this<;>(try split at this)<;>(try split at this)<;>(try split at this)<;>omega
    have hm:o7 p N w M (fun j=>R (τ j)) n c pv:=hE.swap (a:=n+i) (by omega) (by omega) fun j hj=>by
     rw[hτ];show R (if j=n+i then σ n else if j=n then σ (n+i)else σ j)=if j=n then R (σ (n+i))else if j=n+i then R (σ n)else R (σ j);by_cases e2:j=n+i
     ·rw[iq e2];by_cases e1:j=n
      ·rw[iq e1];have e3:n+i=n:=by omega
       rw[e3]
      ·rw[ir e1,iq e2]
     ·rw[ir e2];by_cases e1:j=n
      ·rw[iq e1,iq e1]
      ·rw[ir e1,ir e1,ir e2]
    have hg:=hb.lt n h1;obtain⟨y1,y2⟩:=hR (τ n) hg c;obtain⟨q,q1,q2,q3,q4⟩:=Vj (fu:=fu) (a:=R (τ n) c) hp (by rw[hl]at y1 y2⊢;omega) y2 hf;have e1:(n:Int)+(i:Int)=((n+i:Nat):Int):=by omega
    have hn:(Qz N σ).set n (σ (n+i))=Qz N fun s=>if s=n then σ (n+i)else σ s:=lv;rw[za g1,zx,e1,zb,zb,yB,zf,jH (by omega),zp h1,zf,jH h1,zp h1,zf,lv,Yv,yB,zf,lv,Yv];rw[show(fun s=>if s=n+i then σ n else if s=n then σ (n+i)else σ s)=τ from hτ.symm];rw[zp h1,zf,jH h1,vk hg,zF,zp h2,zf,vB h2,za q1];simp only;rw[zp h1,zf,jH h1,za (zat (fu:=fu) (n:=n) (r:=τ n) (q:=q) p1 p2 hR hg rfl h1 q2 q3 hw _ rfl _ rfl hf)];simp only;obtain⟨S1,hd⟩: ∃S1:Nat->Pz,S1=fun s=>if s=τ n then fun k=>(R (τ n) k*q) % p else R s:=⟨_,rfl⟩;rw[<-hd];have r1: ∀s,s<N-> ∀k,0<=S1 s k/\S1 s k<p:=fun s hs k=>by
     rw[hd];show 0<=(if s=τ n then fun k=>(R (τ n) k*q) % p else R s) k/\(if s=τ n then fun k=>(R (τ n) k*q) % p else R s) k<p;by_cases e:s=τ n
     ·rw[iq e];exact yg (show 0<p by omega)
     ·rw[ir e];exact hR s hs k
    have s1n:S1 (τ n)=fun k=>(R (τ n) k*q) % p:=by rw[hd];exact iq rfl
    have s1j: ∀j,j<N->j≠n->S1 (τ j)=R (τ j):=fun j hj ha=>by rw[hd];exact ir fun e=>ha (hb.ij _ _ hj h1 e)
    obtain⟨S2,t1,r2,t2⟩:=tA (fu:=fu) (a:=c) (lo:=0) (n:=n) (t:=n) p1 p2 r1 hb h1 (.inr (by omega)) (by omega) hN hw h2 hf;obtain⟨S3,t3,r3,t4⟩:=tA (fu:=fu) (a:=c) (lo:=n+1) (n:=N-(n+1)) (t:=n) p1 p2 r2 hb h1 (.inl (by omega)) (by omega) hN hw h2 hf;have s2n:S2 (τ n)=S1 (τ n):=by rw[t2 n h1,zx]
    have s3n:S3 (τ n)=S1 (τ n):=by rw[t4 n h1,zx,s2n]
    have e2:(n:Int)+1=((n+1:Nat):Int):=by omega
    rw[Yv,zp h1,zf,jH h1,yN,yF,za t1,zp h1,zf,jH h1,e2,zb,yN,yF,za t3,zb,zb];refine ih _ ⟨S3,τ,n+1,c+1,fun i=>if i=n then c else pv i,rfl,r3,hb,?_⟩ (by show w-((c:Int)+1).toNat<w-(c:Int).toNat;omega);refine hm.step (q:=q) p1 h1 h2 q4 (s3n.trans s1n) fun j hj ha=> ?_;show S3 (τ j)=LN p c (S3 (τ n)) (R (τ j));by_cases hr:j<n
    ·rw[t4 j hj,zx,t2 j hj,if_pos ⟨by omega,by omega⟩,s3n,s1j j hj ha]
    ·rw[t4 j hj,if_pos ⟨by omega,by omega⟩,s2n,t2 j hj,zx,s3n,s1j j hj ha]
  ·rw[zx];exact⟨_,rfl,R,σ,n,c,pv,rfl,hσ,hE,.inr (by omega)⟩
 ·rw[zx];exact⟨_,rfl,R,σ,n,c,pv,rfl,hσ,hE,.inl (by omega)⟩
theorem c8(hp:wB p=true)(hc:m.length=N)(hN:N<=64)(hm: ∀r∈m,r.length=w/\Rl r)(hw:w<=64)(hf:3000000<=fu):
 ∃(A:Nat->Pz) (n c:Nat) (pv:Nat->Nat),jJ fu m p=some (j7 n w A,0)/\o7 p N w (fun i=>ci (m.getD i [])) A n c pv/\(n=N\/c=w):=by
 obtain⟨p1,p2⟩:=zo hp;unfold jJ;rw[za (Jx hp (by omega) (fun r hr=>(hm r hr).1) hw hf),iq rfl];obtain⟨M,hM⟩: ∃M:Nat->Pz,M=fun i=>ci (m.getD i []):=⟨_,rfl⟩;rw[<-hM];rw[za (v:=(j7 N w (fun i k=>M i k % p),Qz N fun i=>i))]
 ·show∃A n c pv,bd (zj (P2 fu p) fu ((j7 N w (fun i k=>M i k % p),Qz N fun i=>i),0,0)) _=_/\_;obtain⟨y,hy,R,σ,n,c,pv,rfl,hσ,hE,ha⟩:=Su (fu:=fu) (M:=M) hp hN hw hf (x:=((j7 N w (fun i k=>M i k % p),Qz N fun i=>i),0,0)) ⟨_,_,0,0,fun _=>0,rfl,fun s _ k=>yg (by omega),⟨fun i hi=>hi,fun i j _ _ h=>h⟩,zha (by omega)⟩;have hn:=hE.hn;refine⟨fun i=>R (σ i),n,c,pv,?_,hE,ha⟩;rw[za hy];simp only;rw[yN,OZ hσ.lt,kj,qZ hn,zf,Sd hn]
 ·refine zC (fun x:(List (List Int)×List Nat)×Int=> ∃i:Nat,i<=N/\x=((j7 i w (fun i k=>M i k % p),Qz i fun i=>i),(i:Int))) (fun x=>N-x.2.toNat) _ ?_ _ _ ⟨0,xaj _,rfl⟩ (by show N-0<fu;omega);rintro x L ⟨i,hi,rfl⟩ ih;simp only;by_cases h:i<N
  ·have hb:=uB (l:=m) (i:=i) (by omega) [];obtain⟨e1,e2⟩:=hm _ hb;have ep:uW fu (m.getD i []) p=some (zl w (fun k=>M i k % p)):=by rw[gX (by omega) p2 e2 (by omega) hf,e1,hM]
   rw[zM,yB,zf,za ep,Yv,yF,zf,kj,zf,zb];refine ih _ ⟨i+1,by omega,?_⟩ (by show N-((i:Int)+1).toNat<N-(i:Int).toNat;omega);rw[<-EC,<-SN];rfl
  ·rw[zx];obtain rfl:i=N:=by omega
   rfl
end
section
variable{fu w i N c0:Nat}{p:Int}{M A:Nat->Pz}
theorem Kq{n c:Nat}{pv:Nat->Nat}(h:o7 p N w M A n c pv)(hi:i<n)(hw:w<=64)(hf:3000000<=fu):YL fu (zl w (A i))=some (pv i:Int):=by
 have hb:=h.lt i hi;have hc:=h.hc;unfold YL;have hg: ∀z,(fun zx0=>kP fu zx0) z=some (!decide (z=0)):=fun z=>by
  show kP fu z=_;unfold kP;by_cases e:z=0
  ·rw[iq e,decide_eq_true e];rfl
  ·rw[ir e,decide_eq_false e];rfl
 have ha:=h.on i hi;rcases NP (fu:=fu) (l:=zl w (A i)) (b:=fun z=> !decide (z=0)) hg (by rw[zF];omega) hf with⟨g1,g2⟩|⟨j,hj,g1,g2,g3⟩
 ·exfalso;have:=g2 (pv i) (by rw[zF];omega);rw[qY (by omega),ha]at this;exact absurd this (by decide)
 ·rw[zF]at hj;rw[qY hj]at g2;have e:j=pv i:=by
   rcases Nat.lt_trichotomy j (pv i)with h1|h1|h1
   ·rw[h.ld i hi j h1]at g2;exact absurd g2 (by decide)
   ·exact h1
   ·have:=g3 (pv i) h1;rw[qY (by omega),ha]at this;exact absurd this (by decide)
  rw[za g1,e]
def aV(n:Nat)(pv:Nat->Nat)(c:Nat):Bool:=(xbb n).all fun i=> !xan (pv i) c
theorem UK{n c:Nat}{pv:Nat->Nat}:aV n pv c=true↔ ∀i,i<n->pv i≠c:=by
 unfold aV;rw[xaP];constructor
 ·intro h i hi e;have:=h i (xaQ.2 hi);rw[e]at this;simp[Nat.beq_refl]at this
 ·intro h i hi;have:=h i (xaQ.1 hi)
  cases hb:xan (pv i) c with
  |true=>exact absurd (xcH hb) this
  |false=>rfl
theorem Fw{n c:Nat}{pv:Nat->Nat}(h:o7 p N w M A n c0 pv)(hN:N<=64)(hw:w<=64)(hf:3000000<=fu):xo fu (j7 n w A) (fun z=>wK fu z (c:Int))=some (!aV n pv c):=by
 have hn:=h.hn;unfold xo;have ha: ∀i,i<n->wK fu (zl w (A i)) (c:Int)=some (decide (pv i=c)):=fun i hi=>by
  unfold wK;rw[za (Kq h hi hw hf)];by_cases e:pv i=c
  ·rw[zM,decide_eq_true e]
  ·rw[zx,decide_eq_false e]
 obtain⟨b,hb⟩: ∃b:List Int->Bool,b=fun z=>match wK fu z (c:Int)with
  |some x=>x
  |none=>false:=⟨_,rfl⟩
 have hc: ∀i,i<n->b (zl w (A i))=decide (pv i=c):=fun i hi=>by rw[hb];simp only[ha i hi]
 have hg: ∀z∈j7 n w A,(fun z=>wK fu z (c:Int)) z=some (b z):=fun z hz=>by
  obtain⟨i,hi,rfl⟩:=xal.1 hz;have hd:=xaQ.1 hi;show wK fu (zl w (A i)) (c:Int)=_;rw[ha i hd,hc i hd]
 rcases DX (fu:=fu) hg (by rw[kj];omega) hf with⟨g1,g2⟩|⟨i,hi,g1,g2,g3⟩
 ·rw[za g1,ir (by decide)];have:aV n pv c=true:=UK.2 fun i hi e=>by
   have:=g2 _ (xbM (xaQ.2 hi):zl w (A i)∈j7 n w A);rw[hc i hi,decide_eq_true e]at this;cases this
  rw[this];rfl
 ·rw[kj]at hi;rw[vk hi,hc i hi]at g2;rw[za g1,zM];have:aV n pv c=false:=by
   cases he:aV n pv c with
   |false=>rfl
   |true=>exact absurd (of_decide_eq_true g2) (UK.1 he i hi)
  rw[this];rfl
def gV(p:Int)(A:Nat->Pz)(pv:Nat->Nat)(c:Nat):Nat->Pz
 |0=>fun k=>if k=c then 1 else 0
 |i+1=>uK (gV p A pv c i) (pv i) (-A i c % p)
theorem ze2{n c:Nat}{pv:Nat->Nat}{t2:List (List Int)}{i4:Int}(h1:2<=p)(h2:p<=65521)(h:o7 p N w M A n c0 pv)(hN:N<=64)(hw:w<=64)(hc:c<w)(hf:3000000<=fu):
 zj (VL fu (c:Int) (w:Int) p (j7 n w A) i4) fu (0,t2,zl w (gV p A pv c 0))=some (t2,zl w (gV p A pv c n)):=by
 have hn:=h.hn;have hd:=h.hc;refine zC (fun s:Int×List (List Int)×List Int=> ∃i:Nat,i<=n/\s=((i:Int),t2,zl w (gV p A pv c i))) (fun s=>n-s.1.toNat) _ ?_ _ _ ⟨0,xaj _,rfl⟩ (by show n-0<fu;omega);rintro s L ⟨i,hi,rfl⟩ ih;unfold VL;simp only;have hb: ∀{β:Type} (x:β) (k:β->Option (List (List Int)×List Int)),bd (some x) k=k x:=fun _ _=>rfl;by_cases ha:i<n
 ·have he:=h.lt i ha;obtain⟨a1,a2⟩:=h.rg i (by omega) c;rw[iq (by rw[kj];omega),hb];simp only[if_true];rw[zp (by rw[kj];exact ha),zf,vk ha,za (Kq h ha hw hf),zp (by rw[zF];exact hc),zf,vB hc,zb,za (uC (by omega) h2 ⟨by omega,by omega⟩),zp (by rw[zF];omega),zf,jQ,zb];refine ih _ ⟨i+1,by omega,?_⟩ (by show n-((i:Int)+1).toNat<n-(i:Int).toNat;omega);rw[Int.zero_sub];rfl
 ·rw[ir (by rw[kj];omega),hb];simp only[xah,if_false];obtain rfl:i=n:=by omega
  rfl
def bW(n:Nat)(pv:Nat->Nat)(w:Nat):List Nat:=(xbb w).filter (aV n pv)
theorem lN(n:Nat)(pv:Nat->Nat)(w:Nat):bW n pv (w+1)=if aV n pv w=true then bW n pv w++[w]else bW n pv w:=by
 unfold bW;rw[xdC,List.filter_append]
 cases h:aV n pv w with
 |true=>rw[iq rfl];simp[h]
 |false=>rw[ir (by decide)];simp[h]
theorem OO(n:Nat)(pv:Nat->Nat)(w:Nat):(bW n pv w).length<=w:=by
 have:=xfw (aV n pv) (xbb w);rw[xcx]at this;exact this
theorem o9{m:List (List Int)}(hp:wB p=true)(hd:m.length=N)(hN:N<=64)(hm: ∀r∈m,r.length=w/\Rl r)(hw:w<=64)(hf:3000000<=fu):
 ∃(A:Nat->Pz) (n c:Nat) (pv:Nat->Nat),Y4 fu m (w:Int) p=some ((bW n pv w).map fun c=>zl w (gV p A pv c n),0)/\o7 p N w (fun i=>ci (m.getD i [])) A n c pv/\(n=N\/c=w):=by
 obtain⟨p1,p2⟩:=zo hp;obtain⟨A,n,c,pv,e1,e2,e3⟩:=c8 (fu:=fu) hp hd hN hm hw hf;refine⟨A,n,c,pv,?_,e2,e3⟩;have hn:=e2.hn;unfold Y4;rw[za (v:=Sum.inl ())]
 ·simp only;rw[za e1];simp only;rw[za (v:=(bW n pv w).map fun c=>zl w (gV p A pv c n))];refine zC (fun s:List (List Int)×Int=> ∃k:Nat,k<=w/\s=((bW n pv k).map fun c=>zl w (gV p A pv c n),(k:Int))) (fun s=>w-s.2.toNat) _ ?_ _ _ ⟨0,xaj _,rfl⟩ (by show w-0<fu;omega);rintro s L ⟨k,hk,rfl⟩ ih;unfold UY;simp only;have ha: ∀{β:Type} (x:β) (k:β->Option (List (List Int))),bd (some x) k=k x:=fun _ _=>rfl;by_cases hb:k<w
  ·rw[zM,ha];simp only[if_true];rw[za (Fw (c:=k) e2 hN hw hf)]
   cases hc:aV n pv k with
   |false=>
    rw[show(!false)=true from rfl,iq rfl,zb];refine ih _ ⟨k+1,by omega,?_⟩ (by show w-((k:Int)+1).toNat<w-(k:Int).toNat;omega);rw[lN,ir (by rw[hc];decide)];rfl
   |true=>
    have he:=OO n pv k;have hz:zl w (uK (fun _=>0) k 1)=zl w (gV p A pv k 0):=ym fun j _=>by unfold uK;rfl
    rw[show(!true)=false from rfl,ir (by decide),yN,yF,zf,Je,zp (by rw[zF];exact hb),zf,jQ,hz,za (ze2 (i4:=(w:Int)) p1 p2 e2 hN hw hb hf)];simp only;rw[qZ (by rw[xaM];simp;omega),zf,zb];refine ih _ ⟨k+1,by omega,?_⟩ (by show w-((k:Int)+1).toNat<w-(k:Int).toNat;omega);rw[lN,iq hc,xaN];rfl
  ·rw[zx,ha];simp only[xah,if_false];obtain rfl:k=w:=by omega
   rfl
 ·rw[za (Jx hp (by omega) (fun r hr=>(hm r hr).1) hw hf),iq rfl,zx,zx];by_cases h0:0<m.length
  ·have e4:=(hm _ (uB h0 [])).1;rw[zM,zdc h0,zf,zM]
  ·rw[zx]
theorem dm{p:Int}{A:Nat->Pz}{pv:Nat->Nat}{c k:Nat}: ∀{n:Nat},(∀i,i<n->pv i≠k)->gV p A pv c n k=if k=c then 1 else 0
 |0,_=>rfl
 |n+1,h=>by
  show uK (gV p A pv c n) (pv n) _ k=_;unfold uK;rw[ir (fun e=>h n (by omega) e.symm)];exact dm fun i hi=>h i (by omega)
theorem iG{p:Int}{A:Nat->Pz}{pv:Nat->Nat}{c i:Nat}: ∀{n:Nat},i<n->(∀j,j<n->j≠i->pv j≠pv i)->gV p A pv c n (pv i)= -A i c % p
 |0,h,_=>by omega
 |n+1,h,hd=>by
  show uK (gV p A pv c n) (pv n) _ (pv i)=_;unfold uK;by_cases e:i=n
  ·rw[e,iq rfl]
  ·rw[ir (fun e2=>hd n (by omega) (fun e3=>e e3.symm) e2.symm)];exact iG (by omega) fun j hj ha=>hd j (by omega) ha
theorem o7.pv_ne{n c:Nat}{pv:Nat->Nat}(h:o7 p N w M A n c pv){j:Nat}(hi:i<n)(hj:j<n)(ha:j≠i):pv j≠pv i:=fun e=>by
 have h1:=h.on i hi;have hn:=h.hn;have h2:=h.no j hj i (by omega) fun e2=>ha e2.symm;rw[e,h1]at h2;cases h2
theorem LB{p:Int}(hp:2<=p){A:Nat->Pz}{pv:Nat->Nat}{c:Nat}: ∀(n k:Nat),0<=gV p A pv c n k/\gV p A pv c n k<p
 |0,k=>by
  show 0<=(if k=c then(1:Int)else 0)/\(if k=c then(1:Int)else 0)<p;split<;>omega
 |n+1,k=>by
  show 0<=uK (gV p A pv c n) (pv n) (-A n c % p) k/\uK (gV p A pv c n) (pv n) (-A n c % p) k<p;unfold uK;split
  ·exact yg (by omega)
  ·exact LB hp n k
theorem MI(n:Nat)(pv:Nat->Nat)(F:Nat->Int): ∀w,zU (bW n pv w).length (fun j=>F ((bW n pv w).getD j 0))=zU w fun c=>if aV n pv c=true then F c else 0
 |0=>rfl
 |w+1=>by
  have ih:=MI n pv F w;show _=zU w _+(if aV n pv w=true then F w else 0);rw[lN];by_cases h:aV n pv w=true
  ·rw[iq h,iq h,xau,<-ih];show zU ((bW n pv w).length) _+F ((bW n pv w++[w]).getD (bW n pv w).length 0)=_;congr 1
   ·exact zT fun j hj=>by rw[UV,UV,xbn hj]
   ·rw[UV,xci (xac _),xcU];rfl
  ·rw[ir h,ir h,ih,xbx]
theorem Tn{n c:Nat}{pv:Nat->Nat}(h:o7 p N w M A n c pv)(hi:i<n)(e:Nat->Int):dt w (A i) e=e (pv i)+zU w fun k=>if aV n pv k=true then A i k*e k else 0:=by
 have hd:=h.lt i hi;have he:=h.hc;have hn:=h.hn;have h1:dt w (A i) e=zU w (fun k=>(if k=pv i then e k else 0)+if aV n pv k=true then A i k*e k else 0):=by
  refine zT fun k hk=> ?_;by_cases e1:k=pv i
  ·have hf:aV n pv k≠true:=fun hf=>UK.1 hf i hi e1.symm;rw[iq e1,ir hf,e1,h.on i hi,xbY,xbx]
  ·rw[ir e1];by_cases hf:aV n pv k=true
   ·rw[iq hf,xcA]
   ·rw[ir hf,xbx];obtain⟨j,hj,ha⟩: ∃j,j<n/\pv j=k:=by
     apply xaf;intro hb;exact hf (UK.2 fun j hj ha=>hb ⟨j,hj,ha⟩)
    have hc:i≠j:=fun e2=>by rw[<-e2]at ha;exact e1 ha.symm
    rw[<-ha,h.no j hj i (by omega) hc,xaU]
 rw[h1,Zb,xQ (i:=pv i) (fun k hk=>ir hk),zM,iq rfl]
theorem zfx(hp:2<=p){n:Nat}{pv:Nat->Nat}(h:o7 p N w M A n c0 pv)(hb:n=N\/c0=w){c:Nat}(hc:c<w)(hd:aV n pv c=true):Kr p N w M (gV p A pv c n):=(h.kr _).1 fun i hi=>by
 by_cases ha:i<n
 ·rw[Tn h ha,iG ha fun j hj hg=>h.pv_ne (i:=i) (j:=j) ha hj hg];have h2:zU w (fun k=>if aV n pv k=true then A i k*gV p A pv c n k else 0)=A i c:=by
   rw[zT (g:=fun k=>if k=c then A i k else 0) fun k hk=>by
    by_cases hf:aV n pv k=true
    ·rw[iq hf,dm (UK.1 hf)];by_cases e:k=c
     ·rw[iq e,iq e,xce]
     ·rw[ir e,ir e,xat]
    ·rw[ir hf];by_cases e:k=c
     ·rw[e]at hf;exact absurd hd hf
     ·rw[ir e],xQ (i:=c) (fun k hk=>ir hk),iq hc,iq rfl]
  rw[h2];refine xaG ?_;rw[Int.emod_add_emod,show-A i c+A i c=0 by omega,xag]
 ·rcases hb with he|he
  ·omega
  ·have:dt w (A i) (gV p A pv c n)=0:=by
    unfold dt;rw[yT fun k hk=>by rw[h.zr i (by omega) hi k (by omega),xaU]]
   rw[this];exact xcJ _
theorem zbQ(hp:2<=p){n:Nat}{pv:Nat->Nat}(h:o7 p N w M A n c0 pv){e:Nat->Int}(he:Kr p N w M e){k:Nat}(hk:k<w):
 e k % p=zU (bW n pv w).length (fun j=>e ((bW n pv w).getD j 0)*gV p A pv ((bW n pv w).getD j 0) n k) % p:=by
 rw[MI n pv (fun c=>e c*gV p A pv c n k) w];by_cases hf:aV n pv k=true
 ·congr 1;rw[zT (g:=fun c=>if c=k then e c else 0) fun c hc=>by
   rw[dm (UK.1 hf)];by_cases e1:c=k
   ·rw[e1,iq hf,iq rfl,iq rfl,xce]
   ·rw[ir e1,ir (fun h:k=c=>e1 h.symm),xat,ite_self],xQ (i:=k) (fun c hc=>ir hc),iq hk,iq rfl]
 ·obtain⟨i,hi,rfl⟩: ∃i,i<n/\pv i=k:=by
   apply xaf;intro hb;exact hf (UK.2 fun j hj hd=>hb ⟨j,hj,hd⟩)
  have hn:=h.hn;have h1:=(h.kr e).2 he i (by omega);rw[Tn h hi]at h1;have h2:zU w (fun c=>if aV n pv c=true then e c*gV p A pv c n (pv i)else 0) % p=(-(zU w fun k=>if aV n pv k=true then A i k*e k else 0)) % p:=by
   have h3: -(zU w fun k=>if aV n pv k=true then A i k*e k else 0)=zU w fun k=> -1*(if aV n pv k=true then A i k*e k else 0):=by rw[jA];omega
   rw[h3];refine K6 fun c hc=> ?_;by_cases ha:aV n pv c=true
   ·rw[iq ha,iq ha,iG hi fun j hj hg=>h.pv_ne (i:=i) (j:=j) hi hj hg,xbq,xaC,<-xbq];congr 1;grind
   ·rw[ir ha,ir ha,xat]
  rw[h2];refine xaH.2 (xax ?_);rw[Int.sub_neg];exact h1
end
section
variable{N w r fu P:Nat}{R:Nat->Pz}{m:List Int}
theorem Ca(h:r<N):(([]:List Int)::j7 N w R).getD (r+1) []=zl w (R r):=vk h
theorem zaH{g:Pz}:(([]:List Int)::j7 N w R).set (r+1) (zl w g)=[]::j7 N w fun s=>if s=r then g else R s:=by
 show[]::(j7 N w R).set r (zl w g)=_;rw[CQ]
theorem zeS{c:Nat}{h:List Int}(hw:w<=64)(hc:c<w)(hl:h.length<=w)(cI:Int)(ha:cI=(c:Int))(hf:3000000<=fu):
 zj (fun L (y:(List (List Int)×List Nat)×Int)=>
 if y.2<(h.length:Int)then
  zG y.2 h.length fun j=>
  nm (h.getD j 0) fun v=>
  zG y.2 y.1.2.length fun j=>
  nm (y.1.2.getD j 0) fun r=>
  zG cI (y.1.1.getD r []).length fun j=>
  nm (y.1.1.set r ((y.1.1.getD r []).set j v)) fun yss=>
  ze (y.2+1) fun i=>L ((yss,y.1.2),i)
 else some y.1) fu (([]::j7 w w R,Qz w fun i=>i+1),0)=some ([]::j7 w w fun s=>if s<h.length then uK (R s) c (ci h s)else R s,Qz w fun i=>i+1):=by
 subst ha;refine zC (fun y:(List (List Int)×List Nat)×Int=> ∃i:Nat,i<=h.length/\y=(([]::j7 w w fun s=>if s<i then uK (R s) c (ci h s)else R s,Qz w fun i=>i+1),(i:Int))) (fun y=>h.length-y.2.toNat) _ ?_ _ _ ⟨0,xaj _,by rw[jc (R:=R) (S:=fun s=>if s<0 then uK (R s) c (ci h s)else R s) fun s _ k _=>by rw[zx]];rfl⟩ (by show h.length-0<fu;omega);rintro y L ⟨i,hi,rfl⟩ ih;simp only;by_cases h1:i<h.length
 ·rw[zM,zp h1,zf,Zg,Yv,yB,zf,jH (by omega),Ca (by omega),zF,zp hc,zf,jQ,zaH,zx,zb];refine ih _ ⟨i+1,by omega,?_⟩ (by show h.length-((i:Int)+1).toNat<h.length-(i:Int).toNat;omega);rw[jc (S:=fun s=>if s<i+1 then uK (R s) c (ci h s)else R s) fun s _ k _=>by
   by_cases e:s=i
   ·rw[iq e,zM,e]
   ·rw[ir e];by_cases e2:s<i
    ·rw[iq e2,zM]
    ·rw[ir e2,zx]]
  rfl
 ·rw[zx];obtain rfl:i=h.length:=by omega
  rfl
def XU(hs:Nat->List Int)(c:Nat):Nat->Pz:=fun i k=>if k<c then ci (hs k) i-(if i=k then 1 else 0)else 0
theorem nP{a b:List Int}{p:Int}(hp:wB p=true)(ha:Fp p a)(hb:wy p b)(hc:a.length<=90000)(hd:b.length<=90000)(hf:3000000<=fu):
 ∃q r,qH fu a b p=some (q,r,0)/\Fp p r/\Cg p (ci a) (ci q*ci b+ci r)/\r.length<b.length:=by
 obtain⟨p1,p2⟩:=zo hp;have he:=hb.ln;obtain⟨q,r,e1,e2,e3,e4,e5,e6⟩:=xb (fu:=fu) hp ha hb.fm hb.ln hc hd hf;refine⟨q,r,?_,e3,e4,e5⟩;unfold qH;rw[za (jL hp (by omega)),iq rfl,za (zE (by omega) p2 (hb.fm.rl p2) (by omega) hf),hb.fm.pm,zx,za (zE (by omega) p2 (ha.rl p2) (by omega) hf),ha.pm,za e1]
def PV(fu:Nat)(f:List Int)(p n:Int):(((List (List Int)×List Nat)×List Int×List Int×Int)->Option (List (List Int)×List Nat))->((List (List Int)×List Nat)×List Int×List Int×Int)->Option (List (List Int)×List Nat):=fun L (x:(List (List Int)×List Nat)×List Int×List Int×Int)=>if x.2.2.2<n then bd (zj (fun L (y:(List (List Int)×List Nat)×Int)=>if y.2<(x.2.1.length:Int)then zG y.2 x.2.1.length fun j=>nm (x.2.1.getD j 0) fun v=>zG y.2 y.1.2.length fun j=>nm (y.1.2.getD j 0) fun r=>zG x.2.2.2 (y.1.1.getD r []).length fun j=>nm (y.1.1.set r ((y.1.1.getD r []).set j v)) fun yss=>ze (y.2+1) fun i=>L ((yss,y.1.2),i)else some y.1) fu (x.1,0)) fun y=>zG x.2.2.2 y.2.length fun j=>nm (y.2.getD j 0) fun r=>zG x.2.2.2 (y.1.getD r []).length fun j=>nm ((y.1.getD r []).getD j 0) fun v=>ze (v-1) fun e=>zG x.2.2.2 (y.1.getD r []).length fun j=>nm (y.1.set r ((y.1.getD r []).set j e)) fun yss=>bd (qI fu x.2.1 x.2.2.1 p) fun u=>bd (qH fu u.1 f p) fun w=>ze (x.2.2.2+1) fun i=>L ((yss,y.2),w.2.1,x.2.2.1,i)else some x.1
theorem zfc:((Qz N fun i=>i+1).map fun r=>(([]:List Int)::j7 N w R).getD r [])=j7 N w R:=by
 show((xbb N).map fun i=>i+1).map _=(xbb N).map _;rw[xcM];exact xbL fun i hi=>Ca (xaQ.1 hi)
def FxI(P:Nat)(m x:List Int)(w:Nat)(y:(List (List Int)×List Nat)×List Int×List Int×Int):Prop:=
 ∃(hs:Nat->List Int) (c:Nat),y=(([]::j7 w w (XU hs c),Qz w fun i=>i+1),hs c,x,(c:Int))/\c<=w/\ ∀k,k<=c->Fp (P:Int) (hs k)/\(hs k).length<=w/\Em (P:Int) m (pp (pp vx P) k) (ci (hs k))
theorem Rz{x:List Int}(hp:wB (P:Int)=true)(hm:wy (P:Int) m)(hi:m.length=w+1)(hj:1<=w)(hw:w<=64)(hx:Fp (P:Int) x)(hl:x.length<=w)(hd:Em (P:Int) m (pp vx P) (ci x))(hf:3000000<=fu){y:(List (List Int)×List Nat)×List Int×List Int×Int}(hy:FxI P m x w y):
 ∃r,zj (PV fu m P (w:Int)) fu y=some r/\ ∃hs:Nat->List Int,r=([]::j7 w w (XU hs w),Qz w fun i=>i+1)/\ ∀k,k<=w->Fp (P:Int) (hs k)/\(hs k).length<=w/\Em (P:Int) m (pp (pp vx P) k) (ci (hs k)):=by
 obtain⟨p1,p2⟩:=zo hp;refine yA (FxI P m x w) (fun y=>w-y.2.2.2.toNat) _ ?_ _ _ hy (by obtain⟨hs,c,rfl,_⟩:=hy;show w-(c:Int).toNat<fu;omega);rintro y L ⟨hs,c,rfl,hc,hI⟩ ih;unfold PV;simp only;by_cases h1:c<w
 ·obtain⟨k1,k2,k3⟩:=hI c (xac _);have hb:=k1.nn c;have hn:=k1.lt c;obtain⟨R,hR⟩: ∃R:Nat->Pz,R=fun s=>if s<(hs c).length then uK (XU hs c s) c (ci (hs c) s)else XU hs c s:=⟨_,rfl⟩;have ha: ∀s,R s c=ci (hs c) s:=fun s=>by
   rw[hR];show(if s<(hs c).length then uK (XU hs c s) c (ci (hs c) s)else XU hs c s) c=_;by_cases e:s<(hs c).length
   ·rw[iq e];exact iq rfl
   ·rw[ir e,zP (by omega)];exact zx
  have he: ∀s k,k≠c->R s k=XU hs c s k:=fun s k hk=>by
   rw[hR];show(if s<(hs c).length then uK (XU hs c s) c (ci (hs c) s)else XU hs c s) k=_;by_cases e:s<(hs c).length
   ·rw[iq e];exact ir hk
   ·rw[ir e]
  have hg:=qj (P:Int) (hs c) x;obtain⟨q2,r2,d1,d2,d3,d4⟩:=nP (fu:=fu) hp (vG (p:=(P:Int)) (by omega) (hs c) x) hm (by omega) (by omega) hf;rw[zM,za (zeS (fu:=fu) (R:=XU hs c) hw h1 k2 _ rfl hf),<-hR];simp only;rw[Yv,zp h1,zf,jH h1,Ca h1,zF,zp h1,zf,vB h1,ha,zb,zp h1,zf,jQ,zaH,za (jU hp k1 hx (by omega) (by omega) hf),za d1];simp only;rw[zb];refine ih _ ⟨fun k=>if k=c+1 then r2 else hs k,c+1,?_,by omega,fun k hk=> ?_⟩ (by show w-((c:Int)+1).toNat<w-(c:Int).toNat;omega)
  ·show _=((_,_),(if c+1=c+1 then r2 else hs (c+1)),x,_);rw[iq rfl,jc (S:=XU (fun k=>if k=c+1 then r2 else hs k) (c+1)) fun s ho k hk=>by
    show(if s=c then uK (R c) c (ci (hs c) c-1)else R s) k=if k<c+1 then ci (if k=c+1 then r2 else hs k) s-(if s=k then 1 else 0)else 0;by_cases e1:k=c
    ·rw[e1,show(if c<c+1 then ci (if c=c+1 then r2 else hs c) s-(if s=c then(1:Int)else 0)else 0)=ci (hs c) s-(if s=c then(1:Int)else 0)by rw[zM,zx]];by_cases e2:s=c
     ·rw[iq e2,iq e2,e2];exact iq rfl
     ·rw[ir e2,ir e2,ha,xcB]
    ·have e3:(if s=c then uK (R c) c (ci (hs c) c-1)else R s) k=R s k:=by
      by_cases e2:s=c
      ·rw[iq e2,e2];exact ir e1
      ·rw[ir e2]
     rw[e3,he s k e1];unfold XU;by_cases e4:k<c
     ·rw[iq e4,show(if k<c+1 then ci (if k=c+1 then r2 else hs k) s-(if s=k then(1:Int)else 0)else 0)=ci (hs k) s-(if s=k then(1:Int)else 0)by rw[zM,zx]]
     ·rw[ir e4,ir (show¬k<c+1 by omega)]]
   rfl
  ·show Fp (P:Int) (if k=c+1 then r2 else hs k)/\(if k=c+1 then r2 else hs k).length<=w/\Em (P:Int) m (pp (pp vx P) k) (ci (if k=c+1 then r2 else hs k));by_cases e:k=c+1
   ·rw[iq e,e];refine⟨d2,by omega,?_⟩;show Em (P:Int) m (pp (pp vx P) c*pp vx P) (ci r2);exact(Em.mul ((Fs.vx.pp P).pp c) (Fs.ci x) k3 hd).trans ((Em.cg (ki (P:Int) (hs c) x).symm).trans (Em.rest d3))
   ·rw[ir e];exact hI k (by omega)
 ·rw[zx];obtain rfl:c=w:=by omega
  exact⟨_,rfl,hs,rfl,hI⟩
theorem b9(hp:wB (P:Int)=true)(hm:wy (P:Int) m)(ha:m.length=w+1)(hb:1<=w)(hw:w<=64)(hf:3000000<=fu):
 ∃hs:Nat->List Int,Zq fu m P=bd (Y4 fu (j7 w w (XU hs w)) (w:Int) P) (fun r=>some r.1)/\ ∀k,k<=w->Fp (P:Int) (hs k)/\(hs k).length<=w/\Em (P:Int) m (pp (pp vx P) k) (ci (hs k)):=by
 obtain⟨p1,p2⟩:=zo hp;have cx:ci [0,1]=vx:=by
  funext k
  match k with
  |0=>rfl
  |1=>rfl
  |k+2=>rw[zP (by simp)];exact(show(if k+2=1 then(1:Int)else 0)=0 from zx).symm
 have fx:Fp (P:Int) [0,1]:=⟨fun k=>by rw[cx];show 0<=(if k=1 then(1:Int)else 0);split<;>omega,fun k=>by rw[cx];show(if k=1 then(1:Int)else 0)<P;split<;>omega,.inr (by decide)⟩;have fo:Fp (P:Int) [1]:=ZQ (by decide) (by omega);obtain⟨x,x1,x2,x3,x4⟩:=Vg (fu:=fu) (w:=[0,1]) (a:=m) (E:=P) hp fx hm (by decide) (by omega) (by omega) (by omega) hf;rw[cx]at x4;have hc:j7 w w (XU (fun _=>[1]) 0)=j7 w w (fun _ _=>0):=jc fun s _ k _=>zx;obtain⟨r,hr,hs,rfl,hI⟩:=Rz (fu:=fu) hp hm ha hb hw x2 (by omega) x4 hf (y:=(([]::j7 w w (XU (fun _=>[1]) 0),Qz w fun i=>i+1),[1],x,0)) ⟨fun _=>[1],0,rfl,xaj _,fun k hk=>⟨fo,by simp;omega,by
  obtain rfl:k=0:=by omega
  show Em (P:Int) m (pc 1) (ci [1]);rw[vW];exact Em.rfl⟩⟩
 rw[hc]at hr;refine⟨hs,?_,hI⟩;unfold Zq;rw[zb,show(m.length:Int)-1=(w:Int)by omega,yN,yF,zf,za (v:=([]::j7 w w (fun _ _=>0),Qz w fun i=>i+1))]
 ·rw[za (z7 ⟨by omega,by omega⟩ hf),za x1];show bd (zj (PV fu m P (w:Int)) fu (([]::j7 w w (fun _ _=>0),Qz w fun i=>i+1),[1],x,0)) _=_;rw[za hr];simp only;rw[zfc]
 ·have hd:xae w 0=Qz w fun s=>if s<0 then s+1 else 0:=by
   unfold Qz;rw[show(fun s=>if s<0 then s+1 else 0)=fun _=>0 from funext fun s=>zx,List.map_const',xcx]
  rw[hd];refine zC (fun x:(List (List Int)×List Nat)×Int=> ∃i:Nat,i<=w/\x=(([]::j7 i w (fun _ _=>0),Qz w fun s=>if s<i then s+1 else 0),(i:Int))) (fun x=>w-x.2.toNat) _ ?_ _ _ ⟨0,xaj _,rfl⟩ (by show w-0<fu;omega);rintro x L ⟨i,hi,rfl⟩ ih;simp only;rw[Yv];by_cases h1:i<w
  ·rw[zM,yN,yF,zf,Je,Yv,zp h1,zf,xbN,EC i w (fun _ _=>0),zf,lv,xav,kj,zb];refine ih _ ⟨i+1,by omega,?_⟩ (by show w-((i:Int)+1).toNat<w-(i:Int).toNat;omega);have:(fun s=>if s=i then i+1 else if s<i then s+1 else 0)=fun s=>if s<i+1 then s+1 else 0:=funext fun s=>by
    by_cases e:s=i
    ·rw[iq e,zM,e]
    ·rw[ir e];by_cases e2:s<i
     ·rw[iq e2,zM]
     ·rw[ir e2,zx]
   rw[this];rfl
  ·rw[zx];obtain rfl:i=w:=by omega
   congr 2;unfold Qz;exact xbL fun s hs=>iq (xaQ.1 hs)
end
section
variable{m:List Int}{P w:Nat}
theorem Di.short{p:Int}(hp:2<=p)(hm:wy p m){f:Pz}(hf: ∀k,m.length-1<=k->f k=0)(h:Di p (ci m) f):Cg p f (pc 0):=by
 obtain⟨q,fq,hc⟩:=h;have:=hm.mn.zero hp fq fun k hk=>by rw[<-hc k,hf k hk,xag]
 exact hc.trans (this.mul_zero_r _)
theorem Aq(F:Nat->Pz)(k:Nat): ∀n,smP n F k=zU n fun i=>F i k
 |0=>by show pc 0 k=0;unfold pc;split<;>rfl
 |n+1=>by
  show(smP n F+F n) k=zU n (fun i=>F i k)+F n k;rw[zI,Aq F k n]
theorem Em.smP{p:Int}{a:List Int}{F G:Nat->Pz}: ∀n,(∀i,i<n->Em p a (F i) (G i))->Em p a (smP n F) (smP n G)
 |0,_=>Em.rfl
 |n+1,h=>(Di.add (Em.smP n fun i hi=>h i (by omega)) (h n (by omega))).cg (Cg.of (funext fun k=>by
  show(Go.Proofs.YtmggkmchbdanfaaGreat.smP n F k-Go.Proofs.YtmggkmchbdanfaaGreat.smP n G k)+(F n k-G n k)=(Go.Proofs.YtmggkmchbdanfaaGreat.smP n F k+F n k)-(Go.Proofs.YtmggkmchbdanfaaGreat.smP n G k+G n k);omega))
theorem Lr{hs:Nat->List Int}(hp:wB (P:Int)=true)(hm:wy (P:Int) m)(hb:m.length=w+1)(hI: ∀k,k<=w->Fp (P:Int) (hs k)/\(hs k).length<=w/\Em (P:Int) m (pp (pp vx P) k) (ci (hs k))){e:Pz}(he: ∀k,w<=k->e k=0):
 Di (P:Int) (ci m) (pp e P-e)↔ ∀s,s<w->(P:Int)∣dt w (XU hs w s) e:=by
 obtain⟨p1,p2⟩:=zo hp;have hn:=Yc hp;rw[xaR]at hn;let S:Pz:=smP w fun i=>pc (e i)*ci (hs i)
 have h1:Em (P:Int) m (pp e P) S:=(Em.cg (zf1 (by omega) hn he)).trans (Em.smP w fun i hi=>Em.mul (Fs.pc _) (Fs.ci _) Em.rfl (hI i (by omega)).2.2);have h2: ∀k,w<=k->(S-e) k=0:=fun k hk=>by
  show S k-e k=0;rw[he k hk,show S k=zU w fun i=>(pc (e i)*ci (hs i)) k from Aq _ k w,yT fun i hi=>by rw[zQ,zP (by have:=(hI i (by omega)).2.1;omega),xat]];rfl
 have h3: ∀s,s<w->dt w (XU hs w s) e=(S-e) s:=fun s ha=>by
  show zU w (fun k=>(if k<w then ci (hs k) s-(if s=k then 1 else 0)else 0)*e k)=S s-e s;rw[show S s=zU w fun i=>(pc (e i)*ci (hs i)) s from Aq _ s w,zT (g:=fun k=>(pc (e k)*ci (hs k)) s+(if k=s then-e k else 0)) fun k hk=>by
   rw[iq hk,zQ];by_cases h:k=s
   ·rw[iq h.symm,iq h,xfK,xbi (e k)];omega
   ·rw[ir (fun g=>h g.symm),ir h,xcB,xbx,xbi],Zb,xQ (i:=s) (fun k hk=>ir hk),iq ha,iq rfl]
  omega
 have h4:Di (P:Int) (ci m) (pp e P-e)↔Di (P:Int) (ci m) (S-e):=⟨fun h=>(h1.symm.trans (show Em _ _ _ e from h):Em _ _ _ e),fun h=>(h1.trans (show Em _ _ _ e from h):Em _ _ _ e)⟩;rw[h4];constructor
 ·intro h s ha;have:=Di.short (by omega) hm (fun k hk=>h2 k (by omega)) h;rw[h3 s ha];have h5:=this s;rw[zK,xag]at h5;exact xaG h5
 ·intro h;refine(Di.zero _ _).cg fun s=> ?_;rw[zK,xag];symm;by_cases ha:s<w
  ·rw[<-h3 s ha];exact xax (h s ha)
  ·rw[h2 s (by omega),xag]
theorem zcF(hp:wB (P:Int)=true):P=2\/P % 2=1:=by
 obtain⟨p1,p2⟩:=zo hp;have hn:=Yc hp;rw[xaR]at hn;by_cases h:P=2
 ·exact .inl h
 ·have:=hn 2 (by omega);right;by_cases h4:4<=P
  ·have:=this (by omega);omega
  ·omega
theorem ia{fu:Nat}(hp:wB (P:Int)=true)(hm:wy (P:Int) m)(hg:m.length=w+1)(hu:1<=w)(hw:w<=64)(hf:3000000<=fu):
 ∃bs,Zq fu m P=some bs/\1<=bs.length/\bs.length<=w/\(∀v∈bs,Rl v/\v.length=w)/\Bs P m (fun i=>ci (bs.getD i [])) bs.length/\ ∃c:Int,Cg (P:Int) (ci (bs.getD 0 [])) (pc c):=by
 obtain⟨p1,p2⟩:=zo hp;obtain⟨hs,h1,hI⟩:=b9 (fu:=fu) hp hm hg hu hw hf;have hR: ∀s k,VM (XU hs w s k):=fun s k=>by
  show VM (if k<w then ci (hs k) s-(if s=k then 1 else 0)else 0);by_cases h:k<w
  ·rw[iq h];have f:=(hI k (by omega)).1;have f1:=f.nn s;have f2:=f.lt s;split
   ·exact⟨by omega,by omega⟩
   ·exact⟨by omega,by omega⟩
  ·rw[ir h];exact⟨by omega,by omega⟩
 obtain⟨A,n,c,pv,e1,e2,e3⟩:=o9 (fu:=fu) (N:=w) (w:=w) (m:=j7 w w (XU hs w)) hp (kj _ _ _) hw (fun r hr=>by
  unfold j7 at hr;obtain⟨s,_,rfl⟩:=xal.1 hr;refine⟨zF _ _,fun k=> ?_⟩;by_cases hk:k<w
  ·rw[qY hk];exact hR s k
  ·rw[zP (by rw[zF];omega)];exact⟨by omega,by omega⟩) hw hf
 have hK: ∀e:Pz,Kr (P:Int) w w (fun i=>ci ((j7 w w (XU hs w)).getD i [])) e↔ ∀s,s<w->(P:Int)∣dt w (XU hs w s) e:=fun e=>forall_congr' fun s=>imp_congr_right fun hb=>by rw[show dt w (ci ((j7 w w (XU hs w)).getD s [])) e=dt w (XU hs w s) e from zT fun k hk=>by rw[vk hb,qY hk]]
 let F:Nat->List Int:=fun c=>zl w (gV (P:Int) A pv c n)
 have hn: ∀i,i<(bW n pv w).length->(bW n pv w).getD i 0<w/\aV n pv ((bW n pv w).getD i 0)=true:=fun i hi=>by
  rw[UV,IR hi,xdH];have:=xbh hi;have h2:=xbW.1 this;exact⟨xaQ.1 h2.1,h2.2⟩
 have ha: ∀i,i<(bW n pv w).length->((bW n pv w).map F).getD i []=F ((bW n pv w).getD i 0):=fun i hi=>by rw[UV,UV,xaA,IR hi];rfl
 have ho: ∀i,i<w->(P:Int)∣A i 0:=by
  have h0:Kr (P:Int) w w A fun k=>if k=0 then 1 else 0:=(e2.kr _).2 ((hK _).2 fun s hb=>by
   show(P:Int)∣zU w fun k=>XU hs w s k*(if k=0 then 1 else 0);rw[xQ (i:=0) (fun k hk=>by rw[ir hk,xat]),zM,iq rfl,xce];show(P:Int)∣(if 0<w then ci (hs 0) s-(if s=0 then 1 else 0)else 0);rw[zM];have g:=(hI 0 (xaj _)).2.2;have g1:Cg (P:Int) (pc 1-ci (hs 0)) (pc 0):=Di.short (by omega) hm (fun k hk=>by
    rw[yC,zP (by have:=(hI 0 (xaj _)).2.1;omega)];show pc 1 k-0=0;unfold pc;rw[zx];rfl) g
   have g2:=g1 s;rw[yC,zK,xag]at g2;have g3:=xaG g2;have g4:(pc 1 s:Int)=if s=0 then 1 else 0:=rfl;rw[g4]at g3;have:=Int.dvd_neg.2 g3;rw[Int.neg_sub]at this;exact this)
  intro i hi;have:(P:Int)∣zU w fun k=>A i k*(if k=0 then 1 else 0):=h0 i hi;rw[xQ (i:=0) (fun k hk=>by rw[ir hk,xat]),zM,iq rfl,xce]at this;exact this
 have hq:aV n pv 0=true:=UK.2 fun i hi h=>by
  have h2:=e2.on i hi;rw[h]at h2;have h3:=ho i (by have:=e2.hn;omega);rw[h2]at h3;have:=Int.le_of_dvd (by omega) h3;omega
 have hx: ∃l,bW n pv w=0::l:=by
  obtain⟨u,rfl⟩: ∃u,w=u+1:=⟨w-1,by omega⟩;unfold bW;rw[List.range_succ_eq_map,xdh,iq hq];exact⟨_,rfl⟩
 obtain⟨l,hl⟩:=hx;refine⟨(bW n pv w).map F,by rw[h1,za e1],by rw[hl];simp,by rw[xaM];exact OO n pv w,fun v hv=> ?_,⟨zcF hp,by omega,fun e he hd=> ?_,fun i hi k hk=> ?_,fun i hi=> ?_⟩,1,?_⟩
 ·obtain⟨c,_,rfl⟩:=xal.1 hv;refine⟨fun k=> ?_,zF _ _⟩;by_cases hk:k<w
  ·show VM (ci (zl w _) k);rw[qY hk];have:=LB (p:=(P:Int)) (by omega) (A:=A) (pv:=pv) (c:=c) n k;exact⟨by omega,by omega⟩
  ·rw[zP (by show(zl w _).length<=k;rw[zF];omega)];exact⟨by omega,by omega⟩
 ·have ht: ∀k,w<=k->e k=0:=fun k hk=>he k (by omega);refine⟨fun i=>e ((bW n pv w).getD i 0),fun k=> ?_⟩;rw[Aq,xaM];by_cases hk:k<w
  ·rw[zbQ (by omega) e2 ((hK e).2 ((Lr hp hm hg hI ht).1 hd)) hk];congr 1;refine zT fun i hi=> ?_;rw[zQ,ha i hi];show _=_*ci (zl w _) k;rw[qY hk]
  ·rw[ht k (by omega),yT fun i hi=>by
    rw[zQ,ha i hi];show _*ci (zl w _) k=0;rw[zP (by rw[zF];omega),xat]]
 ·rw[xaM]at hi;rw[ha i hi];exact zP (by show(zl w _).length<=k;rw[zF];omega)
 ·rw[xaM]at hi;have hz: ∀k,w<=k->ci (((bW n pv w).map F).getD i []) k=0:=fun k hk=>by
   rw[ha i hi];exact zP (by show(zl w _).length<=k;rw[zF];omega)
  refine(Lr hp hm hg hI hz).2 ((hK _).1 ?_);have:=zfx (by omega) e2 e3 (hn i hi).1 (hn i hi).2;intro s hb;have h2:=this s hb;rw[show dt w _ (ci (((bW n pv w).map F).getD i []))=dt w _ (gV (P:Int) A pv ((bW n pv w).getD i 0) n)from zT fun k hk=>by
   rw[ha i hi];show _*ci (zl w _) k=_;rw[qY hk]]
  exact h2
 ·intro k;rw[ha 0 (by rw[hl];simp),hl];show ci (zl w (gV (P:Int) A pv 0 n)) k % P=(if k=0 then(1:Int)else 0) % P;by_cases hk:k<w
  ·rw[qY hk];by_cases hc:aV n pv k=true
   ·rw[dm (UK.1 hc)]
   ·have: ∃i,i<n/\pv i=k:=xaf fun h=>hc (UK.2 fun i hi h2=>h ⟨i,hi,h2⟩);obtain⟨i,hi,rfl⟩:=this;rw[iG hi fun j hj hy=>e2.pv_ne (i:=i) (j:=j) hi hj hy];have h0:pv i≠0:=fun h=>by rw[h]at hc;exact hc hq
    rw[ir h0,xag];have h5:=ho i (by have:=e2.hn;omega);exact xax (xaG (by rw[xcC _ (xdN _)];exact xax (Int.dvd_neg.2 h5)))
  ·rw[zP (by rw[zF];omega),zx]
end
section
section
variable{α:Type}
def iB1(d:α)(cmp:α->α->Option Int):((Int×Int×Int×List α)->Option (Int×Int×List α))->(Int×Int×Int×List α)->Option (Int×Int×List α):=fun L (i2,i3,i4,t2)=>
 if i2<i4 then
 zG i4 (t2.length) fun j1=>
 nm ((t2.getD j1 d)) fun t3=>
 ze (i4-(1:Int)) fun x2=>
 zG x2 (t2.length) fun j2=>
 nm ((t2.getD j2 d)) fun t4=>
 bd (cmp t3 t4) fun x3=>
 if x3<(0:Int)then
 ze (i4-(1:Int)) fun x4=>
 ze (i4-(1:Int)) fun x5=>
 zG x5 (t2.length) fun j3=>
 nm ((t2.getD j3 d)) fun t5=>
 zG i4 (t2.length) fun j4=>
 nm ((t2.getD j4 d)) fun t6=>
 zG i4 (t2.length) fun j5=>
 nm (t2.set j5 t5) fun t7=>
 zG x4 (t7.length) fun j6=>
 nm (t7.set j6 t6) fun t8=>
 ze (i4-(1:Int)) fun x6=>
 L (i2,i3,x6,t8)
 else
 some (i2,i3,t2)
 else
 some (i2,i3,t2)
def iB0(fu:Nat)(d:α)(a1 a2:Int)(cmp:α->α->Option Int):((Int×List α)->Option (List α))->(Int×List α)->Option (List α):=fun L (i1,t1)=>
 if i1<a2 then
 bd (zj (iB1 d cmp) fu (a1,a2,i1,t1)) fun(i5,i6,t9)=>
 ze (i1+(1:Int)) fun x7=>
 L (x7,t9)
 else
 some t1
structure Od3(c:α->α->Int)(S:α->Prop):Prop where
 tr: ∀x y z,S x->S y->S z-> ¬c y x<0-> ¬c z y<0-> ¬c z x<0
 an: ∀x y,S x->S y->c x y<0-> ¬c y x<0
theorem HB(d x:α): ∀(a b:List α),(a++x::b).getD a.length d=x
 |[],_=>rfl
 |_::a,b=>HB d x a b
theorem B3(d y x:α): ∀(a b:List α),(a++y::x::b).getD (a.length+1) d=x
 |[],_=>rfl
 |_::a,b=>B3 d y x a b
theorem zaN(x z:α): ∀(a b:List α),(a++x::b).set a.length z=a++z::b
 |[],_=>rfl
 |h::a,b=>congrArg (h:: ·) (zaN x z a b)
theorem ML(y x z:α): ∀(a b:List α),(a++y::x::b).set (a.length+1) z=a++y::z::b
 |[],_=>rfl
 |h::a,b=>congrArg (h:: ·) (ML y x z a b)
theorem L4{l:List α}(h:0<l.length): ∃a y,l=a++[y]:=⟨l.dropLast,l.getLast (fun e=>by rw[e]at h;exact absurd h (Nat.lt_irrefl _)),(List.dropLast_concat_getLast _).symm⟩
theorem zgG{fu:Nat}{d:α}{cmp:α->α->Option Int}{c:α->α->Int}{S:α->Prop}(hc: ∀x y,S x->S y->cmp x y=some (c x y)){s rest:List α}{x:α}(hs: ∀y∈s,S y)(hx:S x)(hn:(s++x::rest).length<=1000)(hf:3000000<=fu){N:Int}:
 ∃r,zj (iB1 d cmp) fu (0,N,(s.length:Int),s++x::rest)=some r/\ ∃r1 r2,s=r1++r2/\r=(0,N,r1++x::(r2++rest))/\(∀y∈r2,c x y<0)/\ ∀a y,r1=a++[y]-> ¬c x y<0:=by
 rw[xau,xav]at hn;refine yA (fun t:Int×Int×Int×List α=> ∃r1 r2,s=r1++r2/\t=(0,N,(r1.length:Int),r1++x::(r2++rest))/\ ∀y∈r2,c x y<0) (fun t=>t.2.2.1.toNat) _ ?_ fu _ ⟨s,[],(xbK s).symm,rfl,fun y hy=>by simp at hy⟩ (by show(s.length:Int).toNat<fu;omega);rintro t L ⟨r1,r2,e,rfl,hI⟩ ih;unfold iB1;simp only;have hl:s.length=r1.length+r2.length:=by rw[e,xau]
 by_cases h:0<r1.length
 ·obtain⟨a,y,rfl⟩:=L4 h;have ha:(a++[y]).length=a.length+1:=by simp
  have h1:a++[y]++x::(r2++rest)=a++y::x::(r2++rest):=by simp
  have h2:(a++y::x::(r2++rest)).length=a.length+2+r2.length+rest.length:=by simp;omega
  have hy:S y:=hs y (by rw[e];simp);rw[h1,ha,zM,h2,yB,zf,B3,zb,show((a.length+1:Nat):Int)-1=(a.length:Int)by omega,yB,zf,HB,za (hc x y hx hy)];by_cases h3:c x y<0
  ·rw[iq h3,zb,zb,yB,zf,HB,yB,zf,B3,yB,zf,ML,xau,zp (by simp),zf,zaN,zb];refine ih _ ⟨a,y::r2,by rw[e];simp,rfl,fun z hz=> ?_⟩ (by show(a.length:Int).toNat<((a++[y]).length:Int).toNat;omega);rcases xad.1 hz with rfl|hz
   ·exact h3
   ·exact hI z hz
  ·rw[ir h3];refine⟨_,rfl,a++[y],r2,e,by rw[h1],hI,fun b z hz=> ?_⟩;have:=List.append_inj' hz rfl;rw[List.singleton_inj.1 this.2]at h3;exact h3
 ·rw[zx];obtain rfl:r1=[]:=xbF.1 (by omega);exact⟨_,rfl,[],r2,e,rfl,hI,fun b z hz=>by
   have:=congrArg xaF hz;simp at this⟩
theorem Tb{fu:Nat}{d:α}{cmp:α->α->Option Int}{c:α->α->Int}{S:α->Prop}(hc: ∀x y,S x->S y->cmp x y=some (c x y)){t:List α}(hS: ∀y∈t,S y)(hn:t.length<=1000)(hf:3000000<=fu):
 ∃r,zj (iB0 fu d 0 (t.length:Int) cmp) fu (1,t)=some r/\r.Perm t/\(Od3 c S->r.Pairwise fun a b=> ¬c b a<0):=by
 cases t with
 |nil=>
  refine yA (fun x:Int×List α=>x=(1,[])) (fun _=>0) _ ?_ fu _ rfl (by omega);rintro x L rfl ih;exact⟨[],rfl,xdA _,fun _=>List.Pairwise.nil⟩
 |cons z t=>
  refine yA (fun x:Int×List α=> ∃s rest,x=((s.length:Int),s++rest)/\(s++rest).Perm (z::t)/\(Od3 c S->s.Pairwise fun a b=> ¬c b a<0)) (fun x=>(z::t).length-x.1.toNat) _ ?_ fu _ ⟨[z],t,rfl,xdA _,fun _=>List.pairwise_singleton _ _⟩ (by show(z::t).length-1<fu;omega);rintro x L ⟨s,rest,rfl,hP,hO⟩ ih;unfold iB0;simp only;have hl:=hP.length_eq;rw[xau]at hl;have hm: ∀y∈s++rest,S y:=fun y hy=>hS y (hP.mem_iff.1 hy)
  cases rest with
  |nil=>
   rw[ir (by simp at hl;simp;omega)];rw[xbK]at hP;exact⟨s,by rw[xbK],hP,hO⟩
  |cons x rest=>
   rw[xav]at hl;rw[zM];have hs: ∀y∈s,S y:=fun y hy=>hm y (xdy _ hy);have hx:S x:=hm x (by simp);obtain⟨r,e1,r1,r2,rfl,rfl,h2,h3⟩:=zgG (fu:=fu) (d:=d) (N:=((z::t).length:Int)) (rest:=rest) hc hs hx (by rw[xau,xav];omega) hf;rw[za e1];simp only;rw[zb];have hq:(r1++x::(r2++rest)).Perm (r1++r2++x::rest):=by
    rw[xak];refine xbZ r1 ?_;rw[<-xbN];have:(x::r2++rest).Perm (r2++x::rest):=xcp.symm;exact this
   refine ih _ ⟨r1++x::r2,rest,?_,?_,fun ho=> ?_⟩ ?_
   ·rw[show(((r1++x::r2).length:Nat):Int)=((r1++r2).length:Int)+1 by simp;omega,xak,xbN]
   ·rw[xak,xbN];exact hq.trans hP
   ·have hp:=xdg.1 (hO ho);have hd: ∀y∈r1,¬c x y<0:=fun y hy=>by
     obtain⟨a,w,rfl⟩:=L4 (xff hy);have hw:=h3 a w rfl;rcases xaa.1 hy with h|h
     ·have h5:=xdg.1 hp.1;exact ho.tr y w x (hs y (by simp[h])) (hs w (by simp)) hx (h5.2.2 y h w (by simp)) hw
     ·rw[xai.1 h];exact hw
    refine xdg.2 ⟨hp.1,xcZ.2 ⟨fun y hy=>ho.an x y hx (hs y (by simp[hy])) (h2 y hy),hp.2.1⟩,fun a ha b hb=> ?_⟩;rcases xad.1 hb with rfl|hb
    ·exact hd a ha
    ·exact hp.2.2 a ha b hb
   ·show(z::t).length-(((r1++r2).length:Int)+1).toNat<(z::t).length-((r1++r2).length:Int).toNat;omega
end
theorem zhc(cmp:List Int->List Int->Option Int)(f:Nat):wv f cmp=iB1 [] cmp:=by
 funext L ⟨_,_,_,_⟩;rfl
theorem zf6(cmp:List Int->List Int->Option Int)(f:Nat)(a b:Int):xd f a b cmp=iB0 f [] a b cmp:=by
 funext L ⟨_,_⟩;unfold xd iB0;rw[zhc]
theorem rb{fu:Nat}{cmp:List Int->List Int->Option Int}{c:List Int->List Int->Int}{S:List Int->Prop}(hc: ∀x y,S x->S y->cmp x y=some (c x y)){t:List (List Int)}(hS: ∀y∈t,S y)(hn:t.length<=12)(hf:3000001<=fu):
 ∃r,xw fu t cmp=some r/\r.Perm t/\(Od3 c S->r.Pairwise fun a b=> ¬c b a<0):=by
 obtain⟨g,rfl⟩: ∃g,fu=g+2:=⟨fu-2,by omega⟩;obtain⟨r,h1,h2,h3⟩:=Tb (fu:=g+1) (d:=[]) hc hS (by omega) (by omega);refine⟨r,?_,h2,h3⟩;unfold xw qW;rw[zf,za (za (vH (by unfold fY;omega)))];refine za (v:=r) (za (v:=r) ?_);rw[qN];unfold vA;simp only;rw[zb,zM];refine za (v:=r) ?_;unfold xk;rw[zb,zf6];exact za (v:=r) h1
theorem zgJ(cmp:List Zr->List Zr->Option Int)(f:Nat):xI f cmp=iB1 [] cmp:=by
 funext L ⟨_,_,_,_⟩;rfl
theorem zhm(cmp:List Zr->List Zr->Option Int)(f:Nat)(a b:Int):yW f a b cmp=iB0 f [] a b cmp:=by
 funext L ⟨_,_⟩;unfold yW iB0;rw[zgJ]
theorem CV{fu:Nat}{cmp:List Zr->List Zr->Option Int}{c:List Zr->List Zr->Int}{S:List Zr->Prop}(hc: ∀x y,S x->S y->cmp x y=some (c x y)){t:List (List Zr)}(hS: ∀y∈t,S y)(hn:t.length<=12)(hf:3000001<=fu):
 ∃r,yn fu t cmp=some r/\r.Perm t/\(Od3 c S->r.Pairwise fun a b=> ¬c b a<0):=by
 obtain⟨g,rfl⟩: ∃g,fu=g+2:=⟨fu-2,by omega⟩;obtain⟨r,h1,h2,h3⟩:=Tb (fu:=g+1) (d:=[]) hc hS (by omega) (by omega);refine⟨r,?_,h2,h3⟩;unfold yn qW;rw[zf,za (za (vH (by unfold fY;omega)))];refine za (v:=r) (za (v:=r) ?_);rw[qN];unfold wI;simp only;rw[zb,zM];refine za (v:=r) ?_;unfold y6;rw[zb,zhm];exact za (v:=r) h1
end
section
variable{p:Int}{m a:List Int}{fu:Nat}
theorem c9{p:Int}: ∀{l1 l2:List Pz},List.Sublist l1 l2->(∀w∈l2,Fs w)->Di p (prZ l1) (prZ l2)
 |_,_,.slnil,_=>Di.refl _ _
 |_,_,.cons a h,hf=>Di.mul a (hf a (FS)) (c9 h fun w hw=>hf w (H1 _ hw))
 |_,_,.cons_cons a h,hf=>by
  obtain⟨q,fq,hc⟩:=c9 (p:=p) h fun w hw=>hf w (H1 _ hw);refine⟨q,fq,((Cg.rfl (f:=a)).mul hc).trans (Cg.of ?_)⟩;exact zw _ _ _
theorem Fs.dvp{f:Pz}(h:Fs f):Fs (dvp f):=by
 obtain⟨n,hn⟩:=h;exact⟨n,fun k hk=>by show _*f (k+1)=0;rw[hn _ (by omega),xat]⟩
theorem qD.sq(hp:2<=p){u:List Int}(hu:W9 p u)(hc:qD p (ci m) (dvp (ci m)))(h:Di p (ci u*ci u) (ci m)):False:=by
 obtain⟨q,fq,hq⟩:=h;have h1:Di p (ci u) (ci m):=⟨q*ci u,fq.mul (Fs.ci u),hq.trans (Cg.of (zd _ _ _).symm)⟩;have h2:Di p (ci u) (dvp (ci m)):=⟨dvp q*ci u+(q*dvp (ci u)+q*dvp (ci u)),(fq.dvp.mul (Fs.ci u)).add ((fq.mul (Fs.ci u).dvp).add (fq.mul (Fs.ci u).dvp)),(R8 hq).trans (Cg.of (by rw[Vv,Vv,yo,yo,zd,zd,xB,zg (ci u) (dvp (ci u))]))⟩;obtain⟨s,t,fs,ft,ha⟩:=hc;exact hu.ne hp ((Di.add (Di.mul s fs h1) (Di.mul t ft h2)).cg ha)
theorem zf2(hp:wB p=true)(hm:wy p m)(hl:m.length<=290)(hc:qD p (ci m) (dvp (ci m))): ∃us,Sf p m us:=by
 obtain⟨p1,p2⟩:=zo hp;obtain⟨us,h1,h2⟩:=zf5 hp m.length rfl hl hm;refine⟨us,hp,hm,hl,fun u hu=>⟨(h1 u hu).1,by have:=(h1 u hu).2;omega⟩,?_,h2⟩;refine xdj.2 fun{a b} hs=> ?_;have ha:a∈us:=hs.subset (by simp);have hb:b∈us:=hs.subset (by simp);refine(h1 a ha).1.cop hp (h1 b hb).1 (by have:=(h1 a ha).2;omega) (by have:=(h1 b hb).2;omega) fun hd=> ?_;subst hd;have:=c9 (p:=p) (hs.map ci) Q4;refine qD.sq p1 (h1 a ha).1 hc ((Di.cg ?_ h2.symm));refine Di.trans ?_ this;refine⟨pc 1,Fs.pc 1,Cg.of ?_⟩;show ci a*(ci a*pc 1)=_;rw[zY,zy]
theorem cM(hp:wB p=true)(hm:wy p m)(hl:m.length<=290)(hf:3000000<=fu): ∃b,v7 fu m p=some (m,0)/\uG fu m p=some (b,0)/\(b=true↔qD p (ci m) (dvp (ci m))):=by
 obtain⟨p1,p2⟩:=zo hp;have hc:=hm.ln;obtain⟨x,x0,x1,hx,e1⟩:=ZR (fu:=fu) hp hm.fm hm.ln (by omega) hf;rw[hm.top,xce,xaz (by omega) x1]at hx;subst hx;rw[Td (by omega) hm.fm]at e1;obtain⟨g,s,t,g1,hR,g3⟩:=Wu (fu:=fu) hp hm.fm (Pb (p:=p) (by omega) m) (by omega) (by have:=zez p m;omega) hf;have ha:qD p (ci m) (dvp (ci m))↔g.length=1:=by
  rw[LV p1 hR g3];exact⟨fun h=>h.congr Cg.rfl (zaF p m).symm,fun h=>h.congr Cg.rfl (zaF p m)⟩
 refine⟨decide (g.length=1),e1,?_,by rw[ha];exact decide_eq_true_iff⟩;unfold uG XG;rw[za e1];simp only[if_true];rw[zx,za rfl];simp only[if_true];rw[za (dS hp hm.fm (by omega) hf)];simp only;rw[za g1];simp only;by_cases hb:g.length=1
 ·rw[zM,decide_eq_true hb]
 ·rw[zx,decide_eq_false hb]
theorem eN(hp:wB p=true)(ha:Fp p a)(h0:0<a.length)(hl:a.length<=65)(hf:3000000<=fu):
 ∃m b,TN p a m/\wy p m/\uG fu m p=some (b,0)/\(b=true↔qD p (ci m) (dvp (ci m)))/\jb fu a p=if b=true then some (m,0)else some ([],1):=by
 obtain⟨p1,p2⟩:=zo hp;obtain⟨x,x0,x1,hx,e1⟩:=ZR (fu:=fu) hp ha h0 (by omega) hf;have hM:=FK p1 ha h0 hx;obtain⟨m,hb⟩: ∃m,m=y4 p a [x]:=⟨_,rfl⟩;rw[<-hb]at hM e1;have hc:=hM.ln;have hm:wy p m:=⟨hM.fm,by omega,hM.top⟩;obtain⟨b,_,b1,b2⟩:=cM (fu:=fu) hp hm (by omega) hf;refine⟨m,b,hM,hm,b1,b2,?_⟩;unfold jb QM;have e2:(bd (v7 fu a p) fun(t1,x1)=>if x1=(0:Int)then if(t1.length:Int)=(0:Int)then some (([],(8:Int)))else if(65:Int)<(t1.length:Int)then some (([],(6:Int)))else some ((t1,(0:Int)))else some ([],x1))=some (m,0):=by
  rw[za e1];simp only;rw[iq trivial,zx,zx]
 rw[za e2];simp only;rw[iq trivial,za b1];simp only;cases b<;>rfl
theorem Uq{b:List Int}(ha:a.length<=1000)(hb:b.length<=1000)(hf:3000000<=fu): ∃c,wz fu a b=some c:=by
 unfold wz;by_cases h:a.length=b.length
 ·rw[zM,zb];obtain⟨r,hr,_⟩:=yA (f:=Z7 fu a b) (fun i:Int=> -1<=i/\i<a.length) (fun i=>(i+1).toNat) (fun _=>True) (by
   rintro i L ⟨h1,h2⟩ ih;unfold Z7;by_cases h3:0<=i
   ·obtain⟨k,rfl⟩:=xaB h3;rw[iq h3,yB,zf,yB,zf];split
    ·exact⟨_,rfl,trivial⟩
    ·rw[yB,zf,yB,zf];split
     ·exact⟨_,rfl,trivial⟩
     ·rw[zb];exact ih _ ⟨by omega,by omega⟩ (by omega)
   ·rw[ir h3];exact⟨_,rfl,trivial⟩) fu ((a.length:Int)-1) ⟨by omega,by omega⟩ (by omega)
  rw[za hr]
  cases r with
  |inl _=>exact⟨_,rfl⟩
  |inr i=>exact⟨i,rfl⟩
 ·rw[zx,zb];exact⟨_,rfl⟩
theorem Ef{l1 l2:List Pz}(h:l1.Perm l2):prZ l1=prZ l2:=by
 induction h with
 |nil=>rfl
 |cons x _ ih=>show x*prZ _=x*prZ _;rw[ih]
 |swap x y l=>show y*(x*prZ l)=x*(y*prZ l);rw[zw]
 |trans _ _ h1 h2=>rw[h1,h2]
theorem Rl.take{l:List Int}(h:Rl l)(n:Nat):Rl (l.take n):=fun k=>by
 by_cases hk:k<n
 ·have:ci (l.take n) k=ci l k:=by
   show(l.take n).getD k 0=l.getD k 0;rw[UV,UV,xbT,iq hk]
  rw[this];exact h k
 ·rw[zP (by rw[xay];omega)];exact⟨by omega,by omega⟩
theorem gw{P:Nat}{ds:List Int}(hp:wB (P:Int)=true)(ha:Fp (P:Int) a)(h0:1<a.length)(hl:a.length<=13)(hd:Rl ds)(hk:ds.length<=1000)(hf:3000001<=fu){b:Bool}(hM:TN (P:Int) a m)(hm:wy (P:Int) m)(hq:jb fu a P=some (m,0))(hc:qD (P:Int) (ci m) (dvp (ci m))):
 ∃l us,Za fu a P ds=some (l,0)/\Sf (P:Int) m us/\Pl (P:Int) m l/\ ∀g∈l,W9 (P:Int) g:=by
 obtain⟨p1,p2⟩:=zo hp;have hn:=hM.ln;obtain⟨us,hS⟩:=zf2 hp hm (by omega) hc;obtain⟨bs,e1,b1,b2,b3,hB,c,hb⟩:=ia (fu:=fu) (w:=m.length-1) hp hm (by omega) (by omega) (by omega) (by omega);have ho:=hB.le hS;have he:Rl (ds.take (min ds.length 64)):=hd.take _;obtain⟨l,e2,e3,e4⟩:=dQ (fu:=fu) (bs:=bs) (ds:=ds.take (min ds.length 64)) hS (by omega) (by omega) rfl b1 (by omega) he (by rw[xay];omega) (fun v hv=>⟨(b3 v hv).1,by have:=(b3 v hv).2;omega⟩) (by omega);have hi:=Pl.done hS hB e3 ⟨c,hb⟩ e4;obtain⟨vs,v1,v2,v3⟩:=hS.pick e3.mn ((Di.refl _ _).cg e3.pr.symm);have hr:=KM v2 fun v hv=>(v3 v hv).1;have hj: ∀g∈l,g.length<=290:=fun g hg=>hS.len (e3.mn g hg).1 (e3.dv hg);obtain⟨r,s1,s2,_⟩:=rb (fu:=fu) (cmp:=fun zx0 zx1=>wz fu zx0 zx1) (c:=fun x y=>(wz fu x y).getD 0) (S:=fun x=>x.length<=290) (fun x y hx hy=>by
  obtain⟨c,hc⟩:=Uq (fu:=fu) (a:=x) (b:=y) (by omega) (by omega) (by omega);show wz fu x y=some ((wz fu x y).getD 0);rw[hc];rfl) (t:=l) hj (by omega) hf
 refine⟨r,us,?_,hS,⟨fun g hg=>e3.mn g (s2.mem_iff.1 hg),e3.pr.trans ?_⟩,fun g hg=>hi g (s2.mem_iff.1 hg)⟩
 ·unfold Za;rw[za hq];simp only;rw[iq trivial,zx,za e1,zf,show min (ds.length:Int) 64=((min ds.length 64:Nat):Int)by omega,yN,yF,zf,za e2,za s1]
 ·exact Cg.of (Ef (s2.symm.map ci))
end
section
variable{fu K:Nat}{a b:Zr}
def exI(x y:Int):Int:=if y=0 then 0 else if x % y=0 then x/y else 0
def exE(x y:Int):Int:=if y=0 then 3 else if x % y=0 then 0 else 4
theorem Xe(ha:gh a)(hb:gh b)(hf:3000000<=fu):qU fu a b=some (yP (exI (zv a) (zv b)),exE (zv a) (zv b)):=by
 unfold qU exI exE;rw[za (VG ha hb hf)];unfold zap;by_cases h0:zv b=0
 ·rw[iq h0,iq h0,iq h0];rfl
 ·rw[ir h0,ir h0,ir h0];simp only[if_true];have hr:Bz b.2.length (zv a % zv b):=by
   unfold Bz;have h1:=xcP (zv a) h0;have h2:=Int.emod_lt (zv a) h0;have h3:=Bz.of hb.1;unfold Bz at h3;omega
  rw[za rfl,ir (by decide),za (xa (hr.ok (by have:=hb.2;omega)) hf),zt];by_cases h1:zv a % zv b=0
  ·rw[iq (jd.2 h1),iq h1,iq h1]
  ·rw[ir (fun e=>h1 (jd.1 e)),ir h1,ir h1];rfl
theorem zbW{n:Nat}(h:n<18446744073709551616^K):bl n<=64*K:=Qy (by rw[xdc,nG];exact h)
theorem UC(ha:zm a.2)(hb:zm b.2)(he:a.2.length<=K)(hi:b.2.length<=K)(hK:K<=10000)(hf:3000000<=fu):WE fu a b=some (yP (xee (zv a).natAbs (zv b).natAbs:Nat)):=by
 unfold WE;rw[za (Yz ha (by omega) (by omega)),za (Yz hb (by omega) (by omega)),kf,kf];have hA:nv a.2<18446744073709551616^K:=xap (jt ha) (xaK (by decide) he);have hB:nv b.2<18446744073709551616^K:=xap (jt hb) (xaK (by decide) hi);generalize nv a.2=A at*
 generalize nv b.2=B at*
 have hG:xee A B<18446744073709551616^K:=by
  by_cases h:A=0
  ·rw[h,Nat.gcd_zero_left];exact hB
  ·exact xbe (Nat.gcd_le_left _ (by omega)) hA
 have hc: ∀{n:Nat},n<18446744073709551616^K->(yH n).length<=K:=fun{n} h=>(zH _ _).2 h;rw[za (v:=yH (xee A B))]
 ·have hl:=hc hG;rw[za (yf (zu _) (by omega) (by omega)),z6];rfl
 ·refine zC (fun s:List Nat×List Nat=> ∃x y:Nat,s=(yH x,yH y)/\x<18446744073709551616^K/\y<18446744073709551616^K/\xee x y=xee A B) (fun s=>bl (nv s.1)+bl (nv s.2)+if nv s.1<nv s.2 then 1 else 0) _ ?_ _ _ ⟨A,B,rfl,hA,hB,rfl⟩ ?_
  ·rintro s L ⟨x,y,rfl,hx,hy,hg⟩ ih;unfold b6;simp only;have lx:=hc hx;have ly:=hc hy;by_cases h0:y=0
   ·subst h0;rw[ir (by rw[VW];decide)];rw[Nat.gcd_zero_right]at hg;rw[hg]
   ·have hp:=vK (n:=y) (by omega);rw[zM,za (bU (zu x) (zu y) (by omega) (by omega) hf),z6,z6,ir h0];simp only;have hj:=xbp x (show 0<y by omega);refine ih _ ⟨y,x % y,rfl,hy,by omega,?_⟩ ?_
    ·rw[<-hg,xeu y,<-Nat.gcd_rec,xeu]
    ·simp only[z6];rw[zx];by_cases hd:x<y
     ·rw[iq hd,xaE hd];omega
     ·have:=MW (r0:=x) (r1:=y) (by omega) (by omega);omega
  ·simp only[z6];have h1:=zbW hA;have h2:=zbW hB;split<;>omega
end
section
variable{K fu:Nat}{a:List Zr}
def ZC(f:Nat->Int):Nat->Nat
 |0=>0
 |n+1=>xee (ZC f n) (f n).natAbs
theorem mb(f:Nat->Int): ∀n k,k<n->ZC f n∣(f k).natAbs
 |0,k,h=>absurd h (xbv _)
 |n+1,k,h=>by
  by_cases e:k=n
  ·rw[e];exact Nat.gcd_dvd_right _ _
  ·exact Nat.dvd_trans (Nat.gcd_dvd_left _ _) (mb f n k (by omega))
theorem Br(f:Nat->Int){K:Nat}(h: ∀k,Bz K (f k)): ∀n,ZC f n<18446744073709551616^K
 |0=>xbo (by decide)
 |n+1=>by
  show xee (ZC f n) (f n).natAbs<_;by_cases e:ZC f n=0
  ·rw[e,Nat.gcd_zero_left];exact h n
  ·exact xbe (Nat.gcd_le_left _ (by omega)) (Br f h n)
def vg(a:List Zr):Int:=if cf (yq a) ((yq a).length-1)<0 then-((ZC (cf a) (yq a).length:Nat):Int)else((ZC (cf a) (yq a).length:Nat):Int)
theorem lA(a:List Zr):yq a=qi (yq a).length (cf (yq a)):=X9 _ _
theorem DN(h:xc K a):Bz K (vg a):=by
 have hb:=Br (cf a) h.bz (yq a).length;unfold vg;split
 ·exact(Bz.nat hb).neg
 ·exact Bz.nat hb
theorem Uc(a:List Zr)(k:Nat):vg a∣cf a k:=by
 have h:((ZC (cf a) (yq a).length:Nat):Int)∣cf a k:=by
  by_cases hk:k<(yq a).length
  ·exact xcl.1 (by rw[xbc];exact mb (cf a) _ k hk)
  ·rw[<-uq,yb (by omega)];exact xcJ _
 unfold vg;split
 ·exact Int.neg_dvd.2 h
 ·exact h
theorem mV(h:(yq a).length≠0):vg a≠0:=by
 intro e;have h1:=uV (lA a) h;rw[uq]at h1;have h2:=Uc a ((yq a).length-1);rw[e]at h2;exact h1 (Int.zero_dvd.1 h2)
theorem qT(ha:xc K a)(hK:K<=9999)(hl:a.length<=1000000)(hf:3000000<=fu):wE fu a=some (yP (vg a)):=by
 unfold wE;have hn:=oy ha;have hc:=Vo a;have hb:=Br (cf a) ha.bz;rw[za (zA ha (by omega) hl hf),show qi a.length (cf a)=yq a from rfl,za (z7 (by decide) hf),za (v:=(yq a,(false,[]),yP ((ZC (cf a) (yq a).length:Nat):Int)))]
 ·simp only;by_cases h0:(yq a).length=0
  ·rw[zx];unfold vg;rw[h0];show some (yP ((0:Nat):Int))=some (yP (if cf (yq a) 0<0 then-(((0:Nat):Int))else((0:Nat):Int)));split<;>rfl
  ·rw[zM,show(((yq a).length:Nat):Int)-1=(((yq a).length-1:Nat):Int)by omega,zb,yB,zf,DG (lA a) (by omega)];unfold vg;by_cases h1:cf (yq a) ((yq a).length-1)<0
   ·rw[iq ((iH _).2 h1),iq h1,za (UZ ((Bz.nat (hb _)).ok (by omega)) hf),zt]
   ·rw[ir (fun e=>h1 ((iH _).1 e)),ir h1]
 ·refine zC (fun s:Int×List Zr×Zr×Zr=> ∃i:Nat,i<=(yq a).length/\s=((i:Int),yq a,(false,[]),yP ((ZC (cf a) i:Nat):Int))) (fun s=>(yq a).length-s.1.toNat) _ ?_ _ _ ⟨0,xaj _,rfl⟩ (by show(yq a).length-0<fu;omega);rintro s L ⟨i,hi,rfl⟩ ih;unfold Vy;simp only;by_cases h:i<(yq a).length
  ·have hg:=hn.get i;rw[zM,za rfl];simp only[if_true];rw[zp h,zf,za (UC (yS _) hg.1 (Bz.nat (hb i)).len hg.2 (by omega) hf),zt,xbc,Qh,uq,zb];exact ih _ ⟨i+1,by omega,rfl⟩ (by show(yq a).length-((i:Int)+1).toNat<(yq a).length-(i:Int).toNat;omega)
  ·rw[zx,za rfl];simp only[xah,if_false];obtain rfl:i=(yq a).length:=by omega
   rfl
def vh(a:List Zr):List Zr:=qi a.length (fun k=>cf a k/vg a)
theorem YE(a:List Zr)(k:Nat):cf (vh a) k=cf a k/vg a:=jj (fun k hk=>by rw[yb hk,xfC]) k
theorem Tx(h:xc K a):xc K (vh a):=xg fun k=>(h.bz k).le (xdp _ _)
theorem zfy{x c:Int}(hd:c∣x)(hx:x≠0):x/c≠0:=fun e=>by
 have:=Int.ediv_mul_cancel hd;rw[e,xaU]at this;exact hx this.symm
theorem ZO(a:List Zr):(vh a).length=(yq a).length:=by
 unfold vh yq;rw[xz,xz];refine K1 (qb _ _) (fun k h1 h2=>by rw[Jf (cf a) a.length k h1 h2,xfC]) ?_;by_cases h:dg (cf a) a.length=0
 ·exact .inl h
 ·exact .inr (zfy (Uc a _) (WZ _ _ h))
theorem PQ(a:List Zr):vh a=zi (yq a).length (fun k=>cf a k/vg a):=by
 have h:=ZO a;unfold vh at h⊢;rw[xz]at h;unfold qi;rw[h]
theorem vv(ha:xc K a)(hK:K<=9999)(hl:a.length<=1000000)(hf:3000000<=fu):wk fu a=some (vh a):=by
 unfold wk;have hn:=oy ha;have hb:=Vo a;have hc:=DN ha;rw[za (qT ha hK hl hf),za (zA ha (by omega) hl hf),show qi a.length (cf a)=yq a from rfl,za (lk (p:=yq a) (g:=fun k=>cf a k/vg a) (by omega) (by omega) fun j hj=> ?_),PQ];unfold Wx;rw[za (Xe (hn.okS (by omega) j) (hc.okS (by omega)) hf),zt,Qh,uq];simp only;unfold exI;rw[ir (mV (by omega)),iq (xax (Uc a j))]
end
section
variable{a:List Zr}{fu K:Nat}{s:Int}
theorem zbE{x:Nat}:x/2^1=x/2:=by rw[Nat.pow_one]
theorem zb2{n:Nat}(h:0<n):bl (n/2)<bl n:=by rw[Jc h];omega
theorem Lh{a b:Nat}(h:a<=b):bl a<=bl b:=Qy (xbe h (lZ b))
theorem zcB{y:Int}(hy:Bz K y)(hK:K<=10000)(hf:3000000<=fu):zj (Yf fu 2 (yP y)) fu (2,yP s,0,yP 1)=some (2,yP s,yP (y*y)):=by
 obtain⟨n,hn⟩: ∃n,fu=n+3:=⟨fu-3,by omega⟩;have h:zj (Yf fu 2 (yP y)) (n+3) (2,yP s,0,yP 1)=some (2,yP s,yP (y*y)):=by
  have b1:Bz 1 1:=Bz.one' (xac _);rw[qN];unfold Yf;simp only;rw[iq (by decide),za (ye (b1.ok (by decide)) (hy.ok (by omega)) hf),zt,zt,xbY,H6 (by decide),qN];simp only;rw[iq (by decide),za (ye (hy.ok (by omega)) (hy.ok (by omega)) hf),zt,H6 (by decide),qN];simp only;rw[ir (by decide)]
 rw[<-hn]at h;exact h
theorem mo(hs:0<=s)(hB:Bz K s)(hK:K<=1000)(hf:3000000<=fu): ∃r:Nat,Vn fu (yP s) 2=some (yP (r:Int),0)/\Bz (K+1) (r:Int)/\r*r<=s.toNat/\s.toNat<(r+1)*(r+1):=by
 unfold Vn;obtain⟨S,rfl⟩:=xaB hs;have ht:=hB.len;have hu:bl S<=64*K:=zbW (by unfold Bz at hB;rwa[xbc]at hB);have hl:nv (yP (S:Int)).2=S:=by show nv (yH ((S:Int).natAbs))=S;rw[z6,xbc]
 have hc:xda ((bl S:Nat):Int) 2=((bl S/2:Nat):Int):=by rw[xdE (by omega)];omega
 have h2:bl S/2<=32*K:=by omega
 have he:min (((bl S/2:Nat):Int)+1) (262144:Int)=((bl S/2+1:Nat):Int):=by omega
 rw[ir (by decide),ir (by decide),za (xa (hB.ok (by omega)) hf),zt,ir (fun e=>by
  unfold ky at e;rw[zx]at e;split at e<;>exact absurd e (by decide)),za (z7 (by decide) hf),za (Yq (yS _) (by omega) (by omega)),hl,qZ (by decide),hc,zb,zb,zf,he,za (XO (a:=[1]) (zm.cons (by decide) zm.nil) (by decide) (by omega) (by omega))]
 simp only;obtain⟨H,hH⟩: ∃H,H=1*2^(bl S/2+1):=⟨_,rfl⟩;have ha:H<18446744073709551616^(K+1):=by
  rw[hH,xcm,show(18446744073709551616:Nat)=2^64 by decide,<-xdc];exact xfA (by decide) (by omega)
 have hv:1<=H:=by rw[hH,xcm];exact xbo (by decide)
 have hr:=zbW ha;have hn:S<H*H:=by
  refine xap (lZ S) ?_;rw[hH,xcm,<-xcd];exact xaK (by decide) (by omega)
 rw[show nv [1]=1 from rfl,<-hH,za (yf (zu _) (by have:=(zH (K+1) H).2 ha;omega) (by have:=(zH (K+1) H).2 ha;omega)),z6,ir (by decide)];obtain⟨r,l1,R,rfl,hR,ho,hp⟩:=yA (f:=VI fu (yP (S:Int)) 2) (fun z:Zr×Zr×Zr=> ∃lo hi:Nat,z=((false,[]),yP (lo:Int),yP (hi:Int))/\lo<hi/\hi<=H/\lo*lo<=S/\S<hi*hi) (fun z=>bl ((zv z.2.2).natAbs-(zv z.2.1).natAbs-1)) (fun r=> ∃R:Nat,r=yP (R:Int)/\R<=H/\R*R<=S/\S<(R+1)*(R+1)) (by
  rintro z L ⟨lo,hi,rfl,h1,h2,i1,i2⟩ ih;unfold VI;simp only;have blo:Bz (K+1) (lo:Int):=Bz.nat (by omega);have bhi:Bz (K+1) (hi:Int):=Bz.nat (by omega);have hg:nv (yP ((lo:Int)+(hi:Int))).2=lo+hi:=by
   show nv (yH (((lo:Int)+(hi:Int)).natAbs))=lo+hi;rw[z6];omega
  have bsum:=(blo.add bhi).len;have bmid:Bz (K+1) (((lo+hi)/2:Nat):Int):=Bz.nat (by omega);have hw:(yH ((lo+hi)/2)).length<=K+1:=(zH _ _).2 (by omega);rw[za (vQ (blo.ok (by omega)) (bhi.ok (by omega)) hf),zt,zt,show(1:Int)=((1:Nat):Int)from rfl,za (du (yS _) (by omega) (by decide) (by omega)),hg,zbE,za (yf (zu _) (by omega) (by omega)),z6,ir (by decide),za (kS (bmid.ok (by omega)) (blo.ok (by omega)) hf (by have:=bmid.len;omega) (by have:=blo.len;omega)),zt,zt];by_cases h3:(lo+hi)/2=lo
  ·rw[iq (jd.2 (by omega))];obtain rfl:hi=lo+1:=by omega
   exact⟨_,rfl,lo,rfl,by omega,i1,i2⟩
  ·rw[ir (fun e=>h3 (by have:=jd.1 e;omega)),show(((1:Nat):Int))=1 from rfl,za (z7 (by decide) hf),za (zcB bmid (by omega) hf)];simp only;have bsq:=(bmid.mul bmid).len;rw[za (kS ((bmid.mul bmid).ok (by omega)) (hB.ok (by omega)) hf (by omega) (by omega))];have hd:0<hi-lo-1:=by omega
   have hm: ∀d,d<=(hi-lo-1)/2->bl d<bl (hi-lo-1):=fun d hq=>xbe (Lh hq) (zb2 hd);obtain⟨mid,hj⟩: ∃mid,mid=(lo+hi)/2:=⟨_,rfl⟩;rw[<-hj]at h3⊢;have hk:ky ((mid:Int)*(mid:Nat)) (S:Int)<=0↔mid*mid<=S:=by
    rw[show(mid:Int)*(mid:Nat)=((mid*mid:Nat):Int)by simp];unfold ky;split
    ·exact⟨fun _=>by omega,fun _=>by decide⟩
    ·split
     ·exact⟨fun h=>absurd h (by decide),fun h=>by omega⟩
     ·exact⟨fun _=>by omega,fun _=>by decide⟩
   by_cases hb:mid*mid<=S
   ·rw[zt,zt,iq (hk.2 hb)];exact ih _ ⟨_,hi,rfl,by omega,h2,hb,i2⟩ (by simp only[zt,xbc];exact hm _ (by omega))
   ·rw[zt,zt,ir fun h=>hb (hk.1 h)];exact ih _ ⟨lo,_,rfl,by omega,by omega,i1,by omega⟩ (by simp only[zt,xbc];exact hm _ (by omega))) fu ((false,[]),yP 0,yP (H:Int)) ⟨0,H,rfl,by omega,xac _,xaj _,hn⟩ (by
   simp only[zt,xbc];have:=Lh (show H-Int.natAbs 0-1<=H by omega);omega)
 rw[za l1];exact⟨R,rfl,Bz.nat (by omega),by rw[xaR];exact ho,by rw[xaR];exact hp⟩
def mi(a:List Zr):Int:=if(yq a).length=0 then 8 else if 65<(yq a).length then 6 else 0
theorem Xa(ha:xc K a)(hK:K<=40000)(hl:a.length<=1000000)(hf:3000000<=fu):Zl fu a=some (mi a):=by
 unfold Zl mi;rw[za (zA ha (by omega) hl hf),show qi a.length (cf a)=yq a from rfl];by_cases h0:(yq a).length=0
 ·rw[zM,iq h0]
 ·rw[zx,ir h0];by_cases h1:65<(yq a).length
  ·rw[zM,iq h1]
  ·rw[zx,ir h1]
def dF(f:Nat->Int)(n:Nat):Int:=zU n (fun k=>f k*f k)
theorem ku(x:Int):0<=x*x:=by
 rcases Int.le_total 0 x with h|h
 ·exact xcy h h
 ·exact Int.mul_nonneg_of_nonpos_of_nonpos h h
theorem aB(f:Nat->Int): ∀n,0<=dF f n
 |0=>xfl _
 |n+1=>Int.add_nonneg (aB f n) (ku _)
theorem SM{f:Nat->Int}(h: ∀k,Bz K (f k)): ∀n,n<=18446744073709551615->Bz (K+K+1) (dF f n):=by
 have h1: ∀n:Nat,(dF f n).natAbs<=n*18446744073709551616^(K+K):=by
  intro n
  induction n with
  |zero=>exact xaj _
  |succ n ih=>
   have h2:(dF f (n+1)).natAbs<=(dF f n).natAbs+(f n*f n).natAbs:=Int.natAbs_add_le _ _;have h3:=(h n).mul (h n);unfold Bz at h3;rw[xaV,xcm];omega
 intro n hn;unfold Bz;have h2:=h1 n;have hp:0<18446744073709551616^(K+K):=xbo (by decide);rw[xbu];have h3:n*18446744073709551616^(K+K)<=18446744073709551615*18446744073709551616^(K+K):=xas _ hn;generalize 18446744073709551616^(K+K)=M at*
 omega
theorem Be{f:Nat->Int}: ∀{n},(∃k,k<n/\f k≠0)->1<=dF f n
 |0,⟨k,h,_⟩=>absurd h (xbv _)
 |n+1,⟨k,h,hk⟩=>by
  show 1<=dF f n+f n*f n;have h1:=aB f n;have h2:=ku (f n);by_cases e:k=n
  ·have h3:f n*f n≠0:=fun e2=>by
    rcases xev.1 e2 with h4|h4<;>exact hk (by rw[e];exact h4)
   omega
  ·have:=Be (f:=f) (n:=n) ⟨k,by omega,hk⟩;omega
theorem Jz(ha:xc K a)(hK:K<=300)(hl:a.length<=1000000)(hf:3000000<=fu): ∃y,wo fu a=some (y,mi a)/\(mi a=0-> ∃r:Nat,y=yP (((r+1)*2^((yq a).length-1):Nat):Int)/\r*r<=(-1+dF (cf a) (yq a).length).toNat/\(-1+dF (cf a) (yq a).length).toNat<(r+1)*(r+1)):=by
 unfold wo;rw[za (Xa ha (by omega) hl hf)];by_cases h0:mi a=0
 ·have hb:(yq a).length≠0/\(yq a).length<=65:=by
   unfold mi at h0;split at h0
   ·cases h0
   ·split at h0
    ·cases h0
    ·exact⟨by assumption,by omega⟩
  have hn:=oy ha;have hd:=fun n hn=>SM (K:=K) (f:=cf a) ha.bz n hn;have he:=Be (f:=cf a) (n:=(yq a).length) ⟨(yq a).length-1,by omega,by have:=uV (lA a) hb.1;rwa[uq]at this⟩;have hc: ∀n,n<=18446744073709551615->Bz (K+K+1+1) (-1+dF (cf a) n):=fun n hn=>by
   have:=(hd n hn).add (Bz.one (k:=K+K+1) (by omega));rwa[xfu]at this
  rw[iq h0,za (zA ha (by omega) hl hf),show qi a.length (cf a)=yq a from rfl,za (z7 (by decide) hf),za (v:=(yq a,(false,[]),yP (-1+dF (cf a) (yq a).length)))]
  ·simp only;obtain⟨r,r1,r2,r3,r4⟩:=mo (fu:=fu) (s:= -1+dF (cf a) (yq a).length) (by omega) (hc _ (by omega)) (by omega) hf;have b1:Bz 1 1:=Bz.one' (xac _);have b2:=(r2.add (b1.mono (by omega:1<=K+K+1+1+1))).len;rw[za r1];simp only;rw[za (z7 (by decide) hf),za (vQ (r2.ok (by omega)) (b1.ok (by decide)) hf),zt,zt,show(((yq a).length:Nat):Int)-1=(((yq a).length-1:Nat):Int)by omega,zb,za (XO (yS _) (by omega) (by omega) (by omega))];simp only;have h3:(yH (nv (yP ((r:Int)+1)).2*2^((yq a).length-1))).length<=K+K+1+1+1+1+2:=by
    refine YA (j:=K+K+1+1+1+1) (k:=2) ?_ ?_
    ·rw[show nv (yP ((r:Int)+1)).2=((r:Int)+1).natAbs from z6 _];exact b2
    ·refine(zH _ _).2 ?_;exact xbe (xaK (by decide) (show(yq a).length-1<=64 by omega)) (by decide)
   rw[za (k9 ⟨zu _,by show(yH _).length<=100000;omega⟩ hf)];refine⟨_,by rw[h0],fun _=>⟨r,?_,r3,r4⟩⟩;congr 1;show(if false=true then _ else((nv (yH _):Nat):Int))=_;rw[z6,show nv (yP ((r:Int)+1)).2=((r:Int)+1).natAbs from z6 _,show((r:Int)+1).natAbs=r+1 by omega];rfl
  ·refine zC (fun s:Int×List Zr×Zr×Zr=> ∃i:Nat,i<=(yq a).length/\s=((i:Int),yq a,(false,[]),yP (-1+dF (cf a) i))) (fun s=>(yq a).length-s.1.toNat) _ ?_ _ _ ⟨0,xaj _,rfl⟩ (by show(yq a).length-0<fu;omega);rintro s L ⟨i,hi,rfl⟩ ih;unfold Kp;simp only;by_cases h:i<(yq a).length
   ·have hz:=hn.okZ (by omega) i;have hq:=(ha.bz i).mul (ha.bz i);rw[zM,za rfl];simp only[if_true];rw[zp h,zf,za (ye hz hz hf),Qh,uq,za (vQ ((hc i (by omega)).ok (by omega)) (hq.ok (by omega)) hf),zt,zt,zb,show-1+dF (cf a) i+cf a i*cf a i= -1+dF (cf a) (i+1)by show _= -1+(dF (cf a) i+cf a i*cf a i);omega];exact ih _ ⟨i+1,by omega,rfl⟩ (by show(yq a).length-((i:Int)+1).toNat<(yq a).length-(i:Int).toNat;omega)
   ·rw[zx,za rfl];simp only[xah,if_false];obtain rfl:i=(yq a).length:=by omega
    rfl
 ·rw[ir h0];exact⟨_,rfl,fun h=>absurd h h0⟩
end
section
variable{f g q u v w a b:Pz}{m:Nat}
theorem oE{m:Int}{f:Nat->Int}: ∀{n j:Nat},j<n->(∀k,k<n->k≠j->m∣f k)->m∣zU n f-f j
 |0,j,h,_=>absurd h (xbv _)
 |n+1,j,h,hd=>by
  show m∣zU n f+f n-f j;by_cases e:j=n
  ·subst e;rw[show zU j f+f j-f j=zU j f by omega];exact J2 fun k hk=>hd k (by omega) (by omega)
  ·have h1:=oE (n:=n) (j:=j) (by omega) fun k hk ha=>hd k (by omega) ha;have h2:=hd n (by omega) (by omega);rw[show zU n f+f n-f j=(zU n f-f j)+f n by omega];exact Int.dvd_add h1 h2
theorem VP{n:Nat}(hf: ∀k,n<k->f k=0)(hg: ∀k,m<k->g k=0):(f*g) (n+m)=f n*g m:=by
 have h:zU (n+m+1) (fun i=>f i*g (n+m-i))-f n*g (n+m-n)=0:=Int.zero_dvd.1 (oE (m:=0) (f:=fun i=>f i*g (n+m-i)) (n:=n+m+1) (j:=n) (by omega) fun k hk ha=>by
  show(0:Int)∣f k*g (n+m-k);by_cases hc:k<n
  ·rw[hg (n+m-k) (by omega),xat];exact xdN 0
  ·rw[hf k (by omega),xaU];exact xdN 0)
 rw[show n+m-n=m by omega]at h;rw[xr];omega
def Tp(f:Pz)(n:Nat):Prop:=f n≠0/\ ∀k,n<k->f k=0
def Nz(f:Pz):Prop:= ∃k,f k≠0
theorem Nz.not(h: ¬Nz f)(k:Nat):f k=0:=xaf fun e=>h ⟨k,e⟩
theorem Tp.ex(hf:Fs f)(h0:Nz f): ∃n,Tp f n:=by
 obtain⟨N,hN⟩:=hf;obtain⟨j,hj⟩:=h0;have h1:dg f N≠0:=fun e=>by
  by_cases ha:j<N
  ·exact hj (Jf f N j (by omega) ha)
  ·exact hj (hN j (by omega))
 refine⟨dg f N-1,WZ f N h1,fun k hk=> ?_⟩;by_cases hb:k<N
 ·exact Jf f N k (by omega) hb
 ·exact hN k (by omega)
theorem Tp.mul{n:Nat}(hf:Tp f n)(hg:Tp g m):Tp (f*g) (n+m):=
 ⟨by rw[VP hf.2 hg.2];exact xew hf.1 hg.1,fun k hk=>qk (n:=n+1) (m:=m+1) (fun j hj=>hf.2 j (by omega)) (fun j hj=>hg.2 j (by omega)) (by omega)⟩
theorem Tp.uniq{n:Nat}(h:Tp f n)(g:Tp f m):n=m:=by
 by_cases h1:n<m
 ·exact absurd (h.2 m h1) g.1
 ·by_cases h2:m<n
  ·exact absurd (g.2 n h2) h.1
  ·omega
theorem Tp.nz{n:Nat}(h:Tp f n):Nz f:=⟨n,h.1⟩
theorem Tp.fs{n:Nat}(h:Tp f n):Fs f:=⟨n+1,fun k hk=>h.2 k (by omega)⟩
theorem Nz.mul{f g:Pz}(ff:Fs f)(fg:Fs g)(hf:Nz f)(hg:Nz g):Nz (f*g):=by
 obtain⟨n,hn⟩:=Tp.ex ff hf;obtain⟨m,hm⟩:=Tp.ex fg hg;exact(hn.mul hm).nz
theorem pj(ff:Fs f)(fg:Fs g)(fq:Fs q)(hq:Nz q)(h:f*q=g*q):f=g:=by
 by_cases hz:Nz (f-g)
 ·have h1:=Nz.mul (ff.subt fg) fq hz hq;obtain⟨k,hk⟩:=h1;rw[w9,h,yC,xcV]at hk;exact absurd rfl hk
 ·funext k;have:=Nz.not hz k;rw[yC]at this;omega
theorem Nk{c:Int}(hc:c≠0)(h:pc c*f=pc c*g):f=g:=funext fun k=>by
 have:=congrFun h k;rw[zQ,zQ]at this;exact Int.eq_of_mul_eq_mul_left hc this
def Zd(u v:Pz):Prop:= ∃q:Pz,Fs q/\v=q*u
theorem Zd.refl(u:Pz):Zd u u:=⟨pc 1,Fs.pc 1,(zy u).symm⟩
theorem Zd.trans(h:Zd u v)(g:Zd v w):Zd u w:=by
 obtain⟨q,fq,rfl⟩:=h;obtain⟨r,fr,rfl⟩:=g;exact⟨r*q,fr.mul fq,(zd r q u).symm⟩
theorem Zd.add{u v w:Pz}(h:Zd u v)(g:Zd u w):Zd u (v+w):=by
 obtain⟨q,fq,rfl⟩:=h;obtain⟨r,fr,rfl⟩:=g;exact⟨q+r,fq.add fr,(yo q r u).symm⟩
theorem Zd.sub(h:Zd u v)(g:Zd u w):Zd u (v-w):=by
 obtain⟨q,fq,rfl⟩:=h;obtain⟨r,fr,rfl⟩:=g;exact⟨q-r,fq.subt fr,(w9 q r u).symm⟩
theorem Zd.mul{u v:Pz}(w:Pz)(fw:Fs w)(h:Zd u v):Zd u (w*v):=by
 obtain⟨q,fq,rfl⟩:=h;exact⟨w*q,fw.mul fq,(zd w q u).symm⟩
theorem Zd.left(fv:Fs v):Zd u (u*v):=⟨v,fv,zg u v⟩
def Pm(f:Pz):Prop:= ∀d:Nat,(∀k,(d:Int)∣f k)->d=1
theorem Pm.nz(h:Pm f):Nz f:=xaf fun hn=>absurd (h 0 fun k=>by rw[Nz.not hn k];exact xcJ _) (by decide)
theorem zg3: ∀(n d:Nat),d<=n->2<=d-> ∃P,2<=P/\vF P/\P∣d
 |0,d,h,h2=>by omega
 |n+1,d,h,h2=>by
  by_cases hd:vF d
  ·exact⟨d,h2,hd,Nat.dvd_refl d⟩
  ·have: ∃e,2<=e/\e*e<=d/\d % e=0:=xaf fun hn=>hd fun e e1 e2 e3=>hn ⟨e,e1,e2,e3⟩;obtain⟨e,e1,e2,e3⟩:=this;have e4:e<d:=by
    have:e*2<=e*e:=xaJ e e1;omega
   obtain⟨P,p1,p2,p3⟩:=zg3 n e (by omega) e1;exact⟨P,p1,p2,Nat.dvd_trans p3 (Nat.dvd_of_mod_eq_zero e3)⟩
theorem zdg{Q:Nat->Prop}(h: ∃i,Q i): ∃i,Q i/\ ∀k,k<i-> ¬Q k:=by
 obtain⟨i,hi⟩:=h;revert hi
 induction i using xdq with
 |ind i ih=>
  intro hi;by_cases hc: ∃k,k<i/\Q k
  ·obtain⟨k,hk,hq⟩:=hc;exact ih k hk hq
  ·exact⟨i,hi,fun k hk hq=>hc ⟨k,hk,hq⟩⟩
theorem Ag{P:Nat}(hp:2<=P)(hn:vF P){f g:Pz}{i:Nat}(hi: ¬(P:Int)∣f i)(ha: ∀k,k<i->(P:Int)∣f k)(h: ∀k,(P:Int)∣(f*g) k): ∀n j,j<n->(P:Int)∣g j
 |0,j,hj=>absurd hj (xbv _)
 |n+1,j,hj=>by
  have ih:=Ag hp hn hi ha h n;by_cases hb:j<n
  ·exact ih j hb
  ·have h2:(P:Int)∣zU (i+j+1) (fun a=>f a*g (i+j-a))-f i*g (i+j-i):=oE (m:=(P:Int)) (f:=fun a=>f a*g (i+j-a)) (n:=i+j+1) (j:=i) (by omega) fun k hk hd=>by
    show(P:Int)∣f k*g (i+j-k);by_cases hc:k<i
    ·exact xbB (ha k hc) (xcj _ _)
    ·exact xbB (ih _ (by omega)) (xcK _ _)
   have h3:=h (i+j);rw[xr]at h3;rw[show i+j-i=j by omega]at h2;have h4:=xdo h3 h2;rw[show∀x y:Int,x-(x-y)=y by intro x y;omega]at h4;rcases C7 hp hn h4 with h5|h5
   ·exact absurd h5 hi
   ·exact h5
theorem zic{P:Nat}(hp:2<=P)(hn:vF P)(h: ∀k,(P:Int)∣(f*g) k):(∀k,(P:Int)∣f k)\/ ∀k,(P:Int)∣g k:=by
 by_cases hf: ∀k,(P:Int)∣f k
 ·exact .inl hf
 ·obtain⟨i,h1,h2⟩:=zdg (Q:=fun i=> ¬(P:Int)∣f i) (xfB.1 hf);exact .inr fun k=>Ag hp hn h1 (fun k hk=>Classical.not_not.1 (h2 k hk)) h (k+1) k (xbV k)
theorem Pm.mul(hf:Pm f)(hg:Pm g):Pm (f*g):=fun d hd=>by
 by_cases h1:d=1
 ·exact h1
 ·have: ∃P,2<=P/\vF P/\P∣d:=by
   by_cases h0:d=0
   ·exact⟨2,by decide,fun e e1 e2=>by have:2*2<=e*e:=xbU e1 e1;omega,by rw[h0];exact⟨0,rfl⟩⟩
   ·exact zg3 d d (xac d) (by omega)
  obtain⟨P,p1,p2,p3⟩:=this;rcases zic p1 p2 fun k=>xbB (xef.2 p3) (hd k)with h|h
  ·have:=hf P h;omega
  ·have:=hg P h;omega
theorem Pm.left(h:Pm (u*v)):Pm u:=fun d hd=>h d fun k=>by
 rw[xr];exact J2 fun i _=>xbB (hd i) (xcj _ _)
theorem A8{f:Nat->Int}{d:Nat}: ∀n,(∀k,k<n->d∣(f k).natAbs)->d∣ZC f n
 |0,_=>⟨0,rfl⟩
 |n+1,h=>Nat.dvd_gcd (A8 n fun k hk=>h k (by omega)) (h n (by omega))
theorem DF{f:Nat->Int}{c g:Nat}: ∀n,(∀k,k<n->c∣g*(f k).natAbs)->c∣g*ZC f n
 |0,_=>⟨0,rfl⟩
 |n+1,h=>by
  show c∣g*xee (ZC f n) (f n).natAbs;rw[<-Nat.gcd_mul_left];exact Nat.dvd_gcd (DF n fun k hk=>h k (by omega)) (h n (by omega))
theorem bT{n:Nat}(h: ∀k,n<=k->f k=0)(k:Nat):((ZC f n:Nat):Int)∣f k:=by
 by_cases hk:k<n
 ·exact xcl.1 (by rw[xbc];exact mb f n k hk)
 ·rw[h k (by omega)];exact xcJ _
theorem Pm.ex(hf:Fs f)(h0:Nz f): ∃(c:Nat) (g:Pz),c≠0/\Fs g/\Pm g/\f=pc c*g:=by
 obtain⟨n,hn⟩:=hf;have ha:=bT hn;obtain⟨c,hc⟩: ∃c,c=ZC f n:=⟨_,rfl⟩;rw[<-hc]at ha;have hb:c≠0:=fun e=>by
  obtain⟨j,hj⟩:=h0;have:=ha j;rw[e]at this;exact hj (Int.zero_dvd.1 this)
 have he:=CJ (n:=(c:Int)) (Cg.of_dvd ha);refine⟨c,pdv c f,hb,AA ⟨n,hn⟩,fun d hd=> ?_,he.symm⟩;have h1:c*d∣ZC f n:=A8 n fun k _=>by
  have h2:=congrFun he k;rw[zQ]at h2;have h3:=xfJ (xdN (c:Int)) (hd k);rw[h2]at h3;have h4:=xcl.2 h3;rw[xcr,xbc,xbc]at h4;exact h4
 rw[<-hc]at h1;have h5:c*d∣c*1:=by rw[xcD];exact h1
 exact Nat.dvd_one.1 (Nat.dvd_of_mul_dvd_mul_left (by omega) h5)
theorem zgN{c:Int}(fq:Fs q)(hq:Pm q)(fw:Fs w)(h: ∀k,c∣(w*q) k)(k:Nat):c∣w k:=by
 by_cases h0:Nz w
 ·obtain⟨g,v,g0,fv,hv,rfl⟩:=Pm.ex fw h0;obtain⟨n,hn⟩:=fv.mul fq;have h2:ZC (v*q) n=1:=(hv.mul hq) _ (bT hn);have h3:=DF (f:=v*q) (c:=c.natAbs) (g:=g) n fun k _=>by
   have:=xcl.2 (h k);rw[zd,zQ,xcr,xbc]at this;exact this
  rw[h2,xcD]at h3;rw[zQ];have h4:c∣(g:Int):=xcl.1 (by rw[xbc];exact h3);exact xbB h4 (xcj _ _)
 ·rw[Nz.not h0 k];exact xcJ c
theorem Zd.pm{c:Int}(fq:Fs q)(hq:Pm q)(hc:c≠0)(h:Zd q (pc c*v)):Zd q v:=by
 obtain⟨w,fw,hw⟩:=h;have h1:=zgN fq hq fw (c:=c) fun k=>by rw[<-hw,zQ];exact xcj _ _
 have h2:=CJ (Cg.of_dvd h1);refine⟨pdv c w,AA fw,Nk hc ?_⟩;rw[hw,<-zd,h2]
theorem R1{b:Pz}{m:Nat}(hb:Tp b m): ∀(n:Nat) (a:Pz),(∀k,n<=k->a k=0)-> ∃(c:Int) (q r:Pz),c≠0/\Fs q/\(∀k,m<=k->r k=0)/\pc c*a=q*b+r
 |0,a,h=>⟨1,pc 0,pc 0,by decide,Fs.pc 0,fun k _=>zK k,funext fun k=>by rw[zI,yc,zK,zQ,h k (by omega)];rfl⟩
 |n+1,a,h=>by
  by_cases hn:n+1<=m
  ·exact⟨1,pc 0,a,by decide,Fs.pc 0,fun k hk=>h k (by omega),funext fun k=>by rw[zI,yc,zK,xcA,zy]⟩
  ·obtain⟨c,q,r,hc,fq,hr,he⟩:=R1 hb n (pc (b m)*a-mono (n-m) (a n)*b) fun k hk=>by
    rw[yC,YS,zQ];unfold sh;rw[zM];by_cases e:k=n
    ·rw[e,show n-(n-m)=m by omega,xbi];omega
    ·rw[h k (by omega),hb.2 (k-(n-m)) (by omega)];omega
   refine⟨c*b m,q+pc c*mono (n-m) (a n),r,xew hc hb.1,fq.add ((Fs.pc c).mul ⟨n+1,fun k hk=>zx⟩),hr,?_⟩;rw[yo,<-jX,zd (pc c) (pc (b m)) a,zd (pc c) _ b];rw[w7]at he;funext k;have:=congrFun he k;simp only[zI,yC]at this⊢;omega
theorem zdK(na:Nz a)(hb: ∀k,b k=0): ∃(d s t:Pz) (α β:Int),Nz d/\Fs s/\Fs t/\d=s*a+t*b/\α≠0/\β≠0/\Zd d (pc α*a)/\Zd d (pc β*b):=
 ⟨a,pc 1,pc 0,1,1,na,Fs.pc 1,Fs.pc 0,funext fun k=>by rw[zI,zy,yc,zK,xbx],by decide,by decide,⟨pc 1,Fs.pc 1,rfl⟩,⟨pc 0,Fs.pc 0,funext fun k=>by rw[zQ,hb k,yc,zK];rfl⟩⟩
theorem zim: ∀(n:Nat) (a b:Pz),Fs a->Nz a->(∀k,n<=k->b k=0)-> ∃(d s t:Pz) (α β:Int),Nz d/\Fs s/\Fs t/\d=s*a+t*b/\α≠0/\β≠0/\Zd d (pc α*a)/\Zd d (pc β*b):=by
 intro n
 induction n with
 |zero=>intro a b fa na hb;exact zdK na fun k=>hb k (xaj k)
 |succ n ih=>
  intro a b fa na hb;by_cases nb:Nz b
  ·have fb:Fs b:=⟨n+1,hb⟩;obtain⟨m,hm⟩:=Tp.ex fb nb;have hf:m<=n:=by
    by_cases h:m<=n
    ·exact h
    ·exact absurd (hb m (by omega)) hm.1
   obtain⟨N,hN⟩:=fa;obtain⟨c,q,r,hc,fq,hr,he⟩:=R1 hm N a hN;obtain⟨d,s,t,α,β,nd,fs,ft,hd,hα,hβ,h1,h2⟩:=ih b r fb nb fun k hk=>hr k (by omega);have ha:r=pc c*a-q*b:=funext fun k=>by
    have:=congrFun he k;simp only[zI,yC]at this⊢;omega
   refine⟨d,t*pc c,s-t*q,α*β*c,α,nd,ft.mul (Fs.pc c),fs.subt (ft.mul fq),?_,xew (xew hα hβ) hc,hα,?_,h1⟩
   ·rw[hd,ha,w7,w9,<-zd,<-zd];funext k;simp only[zI,yC];omega
   ·have e:pc (α*β*c)*a=(pc β*q)*(pc α*b)+pc α*(pc β*r):=by rw[<-jX (α*β) c,zd (pc (α*β)) (pc c) a,he,xB,<-jX α β,zd (pc β) q,zw q (pc α) b,zw (pc β) (pc α),zd (pc α) (pc β),zd (pc α) (pc β)]
    rw[e];exact(h1.mul _ ((Fs.pc β).mul fq)).add (h2.mul _ (Fs.pc α))
  ·exact zdK na (Nz.not nb)
theorem zgm(fa:Fs a)(na:Nz a)(fb:Fs b): ∃(g s t:Pz) (γ:Int),Fs g/\Pm g/\Fs s/\Fs t/\γ≠0/\pc γ*g=s*a+t*b/\Zd g a/\Zd g b:=by
 obtain⟨n,hn⟩:=fb;obtain⟨d,s,t,α,β,nd,fs,ft,hd,hα,hβ,h1,h2⟩:=zim n a b fa na hn;have fd:Fs d:=by rw[hd];exact(fs.mul fa).add (ft.mul ⟨n,hn⟩)
 obtain⟨c,g,hc,fg,hg,he⟩:=Pm.ex fd nd;have ha:Zd g d:=⟨pc c,Fs.pc c,he⟩;exact⟨g,s,t,c,fg,hg,fs,ft,by omega,he.symm.trans hd,Zd.pm fg hg hα (ha.trans h1),Zd.pm fg hg hβ (ha.trans h2)⟩
def fK(u:Pz):Prop:= ∀k,1<=k->u k=0
theorem fK.ex(h:fK u): ∃c,u=pc c:=⟨u 0,funext fun k=>by
 unfold pc;by_cases e:k=0
 ·rw[iq e,e]
 ·rw[ir e];exact h k (by omega)⟩
theorem Gb{c:Int}(h:Pm (pc c)):c=1\/c= -1:=by
 have h1:=h c.natAbs fun k=>by
  unfold pc;split
  ·exact Int.natAbs_dvd.2 (xdN _)
  ·exact xcJ _
 omega
structure Ir(q:Pz):Prop where
 fs:Fs q
 pm:Pm q
 dg: ¬fK q
 ir: ∀u v,Fs u->Fs v->q=u*v->fK u\/fK v
theorem Ir.prime(hq:Ir q)(fu:Fs u)(fv:Fs v)(h:Zd q (u*v)):Zd q u\/Zd q v:=by
 obtain⟨g,s,t,γ,fg,hg,fs,ft,hγ,he,⟨w,fw,hw⟩,x,fx,hx⟩:=zgm hq.fs hq.pm.nz fu;rcases hq.ir w g fw fg hw with hc|hc
 ·left;obtain⟨c,rfl⟩:=hc.ex;have ha:Pm (pc c):=(hw▸hq.pm:Pm (pc c*g)).left;refine⟨x*pc c,fx.mul (Fs.pc c),?_⟩;have hb:c*c=1:=by rcases Gb ha with e|e<;>rw[e]<;>rfl
  rw[hw,zd,<-zd (pc c) (pc c) g,jX,hb,zy,hx]
 ·right;obtain⟨c,rfl⟩:=hc.ex;have hd:c≠0:=fun e=>by
   have:=Gb hg;omega
  refine Zd.pm (c:=γ*c) hq.fs hq.pm (xew hγ hd) ?_;rw[<-jX,he,yo];refine Zd.add ⟨s*v,fs.mul fv,?_⟩ ?_
  ·rw[zd,zd,zg q v]
  ·rw[zd];exact h.mul t ft
def Po(q:Pz):Prop:= ∃n,0<q n/\ ∀k,n<k->q k=0
theorem Po.tp(h:Po q): ∃n,Tp q n/\0<q n:=by
 obtain⟨n,h1,h2⟩:=h;exact⟨n,⟨by omega,h2⟩,h1⟩
theorem Ir.eq{r:Pz}(hq:Ir q)(hr:Ir r)(pq:Po q)(pr:Po r)(h:Zd q r):q=r:=by
 obtain⟨w,fw,hw⟩:=h;rcases hr.ir w q fw hq.fs hw with hc|hc
 ·obtain⟨c,rfl⟩:=hc.ex;have ha:Pm (pc c):=(hw▸hr.pm:Pm (pc c*q)).left;rcases Gb ha with e|e
  ·rw[hw,e,zy]
  ·obtain⟨n,h1,h2⟩:=pq.tp;obtain⟨m,h3,h4⟩:=pr.tp;have h5:Tp (pc c*q) n:=⟨by rw[zQ,e];omega,fun k hk=>by rw[zQ,h1.2 k hk,xat]⟩;rw[<-hw]at h5;obtain rfl:=h5.uniq h3;rw[hw,zQ,e]at h4;omega
 ·exact absurd hc hq.dg
theorem fK.tp{n:Nat}(h:Tp u n):fK u↔n=0:=⟨fun hc=>xaf fun e=>h.1 (hc n (by omega)),fun e k hk=>h.2 k (by omega)⟩
end
section
variable{q f:Pz}{m:Nat}{a b:List Zr}{l:List (List Zr×Int)}
theorem Pm.one:Pm (pc 1):=fun d hd=>by
 have:=hd 0;unfold pc at this;rw[iq rfl]at this;exact Nat.dvd_one.1 (xef.1 this)
theorem Pm.pp{q:Pz}(h:Pm q): ∀n,Pm (pp q n)
 |0=>Pm.one
 |n+1=>(Pm.pp h n).mul h
theorem Po.one:Po (pc 1):=⟨0,by decide,fun k hk=>by unfold pc;rw[zx]⟩
theorem Ir.one(h:Ir q): ¬Zd q (pc 1):=fun⟨w,fw,e⟩=>by
 obtain⟨a,ha⟩:=Tp.ex h.fs h.pm.nz;have hw:Nz w:=xaf fun hn=>by
  have:=congrFun e 0;rw[xr,yT fun k _=>by rw[Nz.not hn k,xaU]]at this;exact absurd this (by decide)
 obtain⟨b,hb⟩:=Tp.ex fw hw;have h1:=hb.mul ha;rw[<-e]at h1;have h2:=h1.uniq (m:=0) ⟨by decide,fun k hk=>by unfold pc;rw[zx]⟩;exact h.dg ((fK.tp ha).2 (by omega))
def Mu(q f:Pz)(n:Nat):Prop:= ∃u,Fs u/\f=u*pp q n/\ ¬Zd q u
theorem Mu.ex{q:Pz}(hq:Ir q)(m:Nat): ∀{f:Pz},Tp f m-> ∃n,n<=m/\Mu q f n:=by
 induction m using xdq with
 |ind m ih=>
  intro f hf;by_cases hd:Zd q f
  ·obtain⟨u,fu,e⟩:=hd;have hu:Nz u:=xaf fun hn=>by
    refine hf.1 ?_;rw[e,xr,yT fun k _=>by rw[Nz.not hn k,xaU]]
   obtain⟨a,ha⟩:=Tp.ex fu hu;obtain⟨b,hb⟩:=Tp.ex hq.fs hq.pm.nz;have h1:=ha.mul hb;rw[<-e]at h1;have h1:=h1.uniq hf;have hc:b≠0:=fun h=>hq.dg ((fK.tp hb).2 h);obtain⟨n,hn,v,fv,e2,hv⟩:=ih a (by omega) ha;refine⟨n+1,by omega,v,fv,?_,hv⟩;show f=v*(pp q n*q);rw[e,e2,zd]
  ·exact⟨0,xaj m,f,hf.fs,(zY f).symm,hd⟩
theorem Mu.mul{q f g:Pz}{n m:Nat}(hq:Ir q)(hf:Mu q f n)(hg:Mu q g m):Mu q (f*g) (n+m):=by
 obtain⟨u,fu,rfl,hu⟩:=hf;obtain⟨v,fv,rfl,hv⟩:=hg;refine⟨u*v,fu.mul fv,?_,fun h=> ?_⟩
 ·rw[lX,zd,zd,zw (pp q n)]
 ·rcases hq.prime fu fv h with h|h
  ·exact hu h
  ·exact hv h
theorem Mu.lt{n:Nat}(hq:Ir q)(h:Mu q f n)(g:Mu q f m): ¬n<m:=fun ha=>by
 obtain⟨u,fu,e1,hu⟩:=h;obtain⟨v,fv,e2,hv⟩:=g;obtain⟨d,rfl⟩: ∃d,m=d+1+n:=⟨m-1-n,by omega⟩;have fp:=hq.fs.pp (n:=n);refine hu ⟨v*pp q d,fv.mul (hq.fs.pp d),?_⟩;refine pj fu ((fv.mul (hq.fs.pp d)).mul hq.fs) (hq.fs.pp n) (hq.pm.pp n).nz ?_;rw[<-e1,e2,lX,zd (v*pp q d),zd v];show v*(pp q d*q*pp q n)=_;rw[zd (pp q d)]
theorem Mu.uniq{n:Nat}(hq:Ir q)(h:Mu q f n)(g:Mu q f m):n=m:=by
 have:=h.lt hq g;have:=g.lt hq h;omega
theorem Mu.zero(ff:Fs f)(h: ¬Zd q f):Mu q f 0:=⟨f,ff,(zY f).symm,h⟩
theorem Mu.dvd{n:Nat}(hq:Fs q)(h:Mu q f n)(hn:1<=n):Zd q f:=by
 obtain⟨u,fu,rfl,_⟩:=h;obtain⟨k,rfl⟩: ∃k,n=k+1:=⟨n-1,by omega⟩;exact⟨u*pp q k,fu.mul (hq.pp k),by rw[zd];rfl⟩
theorem Ir.prz{q:Pz}(hq:Ir q): ∀{l:List Pz},(∀r∈l,Fs r)->Zd q (prZ l)-> ∃r,r∈l/\Zd q r
 |[],_,h=>absurd h hq.one
 |r::l,hl,h=>by
  rcases hq.prime (hl r (FS)) (Fs.prZ fun x hx=>hl x (H1 _ hx)) h with h|h
  ·exact⟨r,FS,h⟩
  ·obtain⟨x,hx,h⟩:=Ir.prz hq (fun x hx=>hl x (H1 _ hx)) h;exact⟨x,H1 _ hx,h⟩
def Ae(f g:Nat->Int):Nat->Int
 |0=>0
 |n+1=>if f n=g n then Ae f g n else if f n<g n then-1 else 1
theorem FY(f g:Nat->Int): ∀n,Ae g f n= -Ae f g n
 |0=>rfl
 |n+1=>by
  unfold Ae;by_cases h:f n=g n
  ·rw[iq h,iq h.symm];exact FY f g n
  ·rw[ir h,ir (fun e=>h e.symm)];by_cases h2:f n<g n
   ·rw[iq h2,zx];rfl
   ·rw[ir h2,zM]
theorem Gg(f g:Nat->Int): ∀n,Ae f g n=0-> ∀k,k<n->f k=g k
 |0,_,k,h=>absurd h (xbv _)
 |n+1,h,k,hk=>by
  unfold Ae at h;by_cases h1:f n=g n
  ·rw[iq h1]at h;by_cases e:k=n
   ·rw[e,h1]
   ·exact Gg f g n h k (by omega)
  ·rw[ir h1]at h;split at h<;>exact absurd h (by decide)
theorem tG(f g h:Nat->Int): ∀n,Ae f g n<=0->Ae g h n<=0->Ae f h n<=0
 |0,_,_=>xfl 0
 |n+1,h1,h2=>by
  unfold Ae at h1 h2⊢;by_cases e1:f n=g n
  ·rw[iq e1]at h1;by_cases e2:g n=h n
   ·rw[iq e2]at h2;rw[iq (e1.trans e2)];exact tG f g h n h1 h2
   ·rw[ir e2]at h2;rw[ir (fun e=>e2 (by omega)),e1];exact h2
  ·rw[ir e1]at h1;have h3:f n<g n:=xaf fun hn=>by rw[ir hn]at h1;omega
   by_cases e2:g n=h n
   ·rw[ir (fun e=>e1 (by omega)),zM];omega
   ·rw[ir e2]at h2;have h4:g n<h n:=xaf fun hn=>by rw[ir hn]at h2;omega
    rw[zx,zM];omega
def XZ(a b:List Zr):Int:=if a.length=b.length then Ae (cf a) (cf b) a.length else if a.length<b.length then-1 else 1
theorem ZY(a b:List Zr):XZ b a= -XZ a b:=by
 unfold XZ;by_cases h:a.length=b.length
 ·rw[iq h,iq h.symm,<-h];exact FY _ _ _
 ·rw[ir h,ir (fun e=>h e.symm)];by_cases h2:a.length<b.length
  ·rw[iq h2,zx];rfl
  ·rw[ir h2,zM]
theorem Hb{c:List Zr}(h1:XZ a b<=0)(h2:XZ b c<=0):XZ a c<=0:=by
 unfold XZ at h1 h2⊢;by_cases e1:a.length=b.length
 ·rw[iq e1]at h1;by_cases e2:b.length=c.length
  ·rw[iq e2,<-e1]at h2;rw[iq (e1.trans e2)];exact tG _ _ _ _ h1 h2
  ·rw[ir e2]at h2;rw[ir (fun e=>e2 (by omega)),e1];exact h2
 ·rw[ir e1]at h1;have h3:a.length<b.length:=xaf fun hn=>by rw[ir hn]at h1;omega
  by_cases e2:b.length=c.length
  ·rw[ir (fun e=>e1 (by omega)),zM];omega
  ·rw[ir e2]at h2;have h4:b.length<c.length:=xaf fun hn=>by rw[ir hn]at h2;omega
   rw[zx,zM];omega
theorem iZ(ha:yq a=a)(hb:yq b=b)(h: ∀k,cf a k=cf b k):a=b:=by
 rw[<-ha,<-hb];exact K5 (fun k hk=>yb hk) (fun k hk=>yb hk) h
theorem N5(ha:yq a=a)(hb:yq b=b)(h:XZ a b=0):a=b:=by
 unfold XZ at h;by_cases e:a.length=b.length
 ·rw[iq e]at h;have h1:=Gg _ _ _ h;refine iZ ha hb fun k=> ?_;by_cases hk:k<a.length
  ·exact h1 k hk
  ·rw[yb (by omega),yb (by omega)]
 ·rw[ir e]at h;split at h<;>exact absurd h (by decide)
theorem nJ{α:Type}{R:α->α->Prop}(ha: ∀x y,R x y-> ¬R y x): ∀{l m:List α},l.Pairwise R->m.Pairwise R->(∀x,x∈l↔x∈m)->l=m
 |[],[],_,_,_=>rfl
 |[],y::m,_,_,h=>absurd ((h y).2 (FS)) Nm
 |x::l,[],_,_,h=>absurd ((h x).1 (FS)) Nm
 |x::l,y::m,hl,hm,h=>by
  rw[xcZ]at hl hm;have e:x=y:=by
   rcases xad.1 ((h x).1 (FS))with e|e
   ·exact e
   ·rcases xad.1 ((h y).2 (FS))with e2|e2
    ·exact e2.symm
    ·exact absurd (hl.1 y e2) (ha _ _ (hm.1 x e))
  subst e;rw[nJ ha hl.2 hm.2 fun z=>⟨fun hz=>by
   rcases xad.1 ((h z).1 (H1 _ hz))with e|e
   ·subst e;exact absurd (hl.1 z hz) (ha _ _ (hl.1 z hz))
   ·exact e,fun hz=>by
   rcases xad.1 ((h z).2 (H1 _ hz))with e|e
   ·subst e;exact absurd (hm.1 z hz) (ha _ _ (hm.1 z hz))
   ·exact e⟩]
structure FL(f:Pz)(l:List (List Zr×Int)):Prop where
 el: ∀x∈l,yq x.1=x.1/\Ir (cf x.1)/\Po (cf x.1)/\1<=x.2/\Mu (cf x.1) f x.2.toNat
 al: ∀q,Ir q->Po q->Zd q f-> ∃x∈l,cf x.1=q
 so:l.Pairwise fun x y=>XZ x.1 y.1<0
theorem FL.sub{m:List (List Zr×Int)}(h:FL f l)(g:FL f m){x:List Zr×Int}(hx:x∈l):x∈m:=by
 obtain⟨h1,h2,h3,h4,h5⟩:=h.el x hx;obtain⟨y,hy,e⟩:=g.al _ h2 h3 (h5.dvd h2.fs (by omega));obtain⟨g1,g2,g3,g4,g5⟩:=g.el y hy;have e1:y.1=x.1:=iZ g1 h1 fun k=>congrFun e k;rw[e1]at g5;have e2:=g5.uniq h2 h5;have:y=x:=xeJ e1 (by omega);rw[<-this];exact hy
theorem FL.uniq{m:List (List Zr×Int)}(h:FL f l)(g:FL f m):l=m:=
 nJ (fun x y h1 h2=>by rw[ZY]at h2;omega) h.so g.so fun x=>⟨fun hx=>h.sub g hx,fun hx=>g.sub h hx⟩
end
end Go.Proofs.YtmggkmchbdanfaaGreat
