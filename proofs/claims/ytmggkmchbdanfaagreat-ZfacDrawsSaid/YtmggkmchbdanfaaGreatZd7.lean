/- What is drawn says nothing of a polynomial's factors: for every input. No condition. -/
import Derived.Test.YtmggkmchbdanfaaGreatZd6
set_option linter.unusedVariables false
set_option linter.unusedSimpArgs false
namespace Go.Proofs.YtmggkmchbdanfaaGreat
open And renaming intro->xfr
open Bool renaming and_eq_true->xam,false_eq_true->xah
open Classical renaming byContradiction->xaf
open DataW renaming TrodAll->xex
open Int renaming add_zero->xbx,dvd_mul_left->xcK,dvd_mul_right->xcj,dvd_of_emod_eq_zero->xaG,dvd_refl->xdN,dvd_trans->xbB,emod_emod->xaC,emod_emod_of_dvd->xcC,emod_eq_emod_iff_emod_sub_eq_zero->xaH,emod_eq_of_lt->xaz,emod_eq_zero_of_dvd->xax,eq_ofNat_of_zero_le->xaB,le_of_lt->xdB,le_refl->xfl,mul_add->xeP,mul_assoc->xbG,mul_comm->xbi,mul_dvd_mul->xfJ,mul_emod->xbq,mul_eq_zero->xev,mul_le_mul_of_nonneg_left->xaW,mul_le_mul_of_nonneg_right->xbD,mul_ne_zero->xew,mul_nonneg->xcy,mul_one->xce,mul_zero->xat,natAbs_dvd_natAbs->xcl,natAbs_ediv_le_natAbs->xdp,natAbs_mul->xcr,natAbs_natCast->xbc,natCast_add->xdU,natCast_mul->xeU,one_mul->xbY,pow_nonneg->xfn,pow_succ->xbk,pow_zero->xbs,sub_self->xcV,sub_zero->xcB,toNat_natCast->xaR,zero_add->xcA,zero_ediv->xfC,zero_emod->xag,zero_mul->xaU
open List renaming append_nil->xbK,append_of_mem->xdO,drop_eq_getElem_cons->xcu,drop_eq_nil_of_le->xcf,ext_getElem->xeI,filter_cons->xdh,filter_cons_of_neg->xfc,filter_cons_of_pos->xfb,getD_eq_getElem?_getD->UV,getElem?_append_left->xbn,getElem?_append_right->xci,getElem?_drop->xel,getElem?_eq_getElem->IR,getElem?_eq_none->xaI,getElem?_map->xaA,getElem?_replicate->xeV,getElem?_take->xbT,getElem_map->xfy,getElem_mem->xbh,length->xaF,length_append->xau,length_cons->xav,length_drop->xbO,length_eq_zero_iff->xbF,length_filter_le->xfw,length_map->xaM,length_nil->xcq,length_range->xcx,length_replicate->xaT,length_set->xcG,length_take->xay,map_append->xaN,map_congr_left->xbL,map_cons->xbP,map_map->xcM,mem_append->xaa,mem_cons->xad,mem_cons_of_mem->H1,mem_cons_self->FS,mem_filter->xbW,mem_iff_getElem->xdx,mem_map->xal,mem_map_of_mem->xbM,mem_of_mem_drop->xeD,mem_or_eq_of_mem_set->xeE,mem_range->xaQ,mem_singleton->xai,nil_append->xbE,not_mem_nil->Nm,pairwise_append->xdg,pairwise_cons->xcZ,pairwise_iff_forall_sublist->xdj,pairwise_iff_getElem->xcz,pairwise_map->xez,range->xbb,range_succ->xdC,replicate->xae,take_add_one->xfj,take_length->xcR
open Nat renaming add_comm->xdz,add_mul->xaV,add_sub_cancel->xem,add_zero->xcg,le_mul_of_pos_left->xdk,le_mul_of_pos_right->xck,le_of_lt->xds,le_of_not_lt->xbw,le_refl->xac,le_trans->xao,lt_of_le_of_lt->xbe,lt_of_lt_of_le->xap,mul_add->xbm,mul_le_mul->xbU,mul_le_mul_left->xaJ,mul_le_mul_right->xas,mul_left_comm->xdZ,mul_lt_mul''->xdJ,mul_lt_mul_of_pos_right->xbS,mul_one->xcD,mul_zero->xdi,not_lt_zero->xbv,one_mul->xcm,pow_add->xcd,pow_le_pow_right->xaK,pow_mul->xdc,pow_pos->xbo,pow_succ->xbu,sub_self->xcU,zero_add->xaS,zero_le->xaj,zero_mul->xcI
open Option renaming getD_some->xdH
open Option.some renaming inj->xcY,injEq->xaw
open Prod renaming ext->xeJ
open Prod.mk renaming injEq->xct
open Value renaming okWide->xea
section
variable{a b k:Nat}{p:Int}{f u v g q:Pz}
theorem zdz{A B:Pz}{d e:Nat}(hA:Mn A d)(hB:Mn B e):Mn (A*B) (d+e):=
 ⟨by rw[VP hA.2 hB.2,hA.1,hB.1];rfl,fun k hk=>qk (n:=d+1) (m:=e+1) (fun j hj=>hA.2 j (by omega)) (fun j hj=>hB.2 j (by omega)) (by omega)⟩
theorem zau: ∀{l:List Pz},(∀A∈l,∃d,Mn A d)-> ∃d,Mn (prZ l) d
 |[],_=>⟨0,rfl,fun k hk=>by show pc 1 k=0;unfold pc;rw[zx]⟩
 |A::l,h=>by
  obtain⟨d,hd⟩:=h A (FS);obtain⟨e,he⟩:=zau fun B hB=>h B (H1 _ hB);exact⟨d+e,zdz hd he⟩
theorem aL{α:Type}(F:α->Pz)(P:α->Bool): ∀l:List α,prZ (l.map F)=prZ ((l.filter P).map F)*prZ ((l.filter fun x=> !P x).map F)
 |[]=>(zY _).symm
 |x::l=>by
  have ih:=aL F P l
  cases h:P x with
  |true=>
   rw[xfb h,xfc (by rw[h];decide)];show F x*_=F x*_*_;rw[ih,zd]
  |false=>
   rw[xfc (by rw[h];decide),xfb (by rw[h];rfl)];show F x*_=_*(F x*_);rw[ih,zw]
theorem IX{P:Int}(hp:wB P=true){a b:Pz}{c:Int}(fa:Fs a)(fb:Fs b)(h:Cg P (a*b) (pc c))(hc: ¬P∣c): ∃x,Cg P a (pc x):=by
 obtain⟨p1,p2⟩:=zo hp;obtain⟨Q,rfl⟩:=xaB (show 0<=P by omega);have he:=Yc hp;rw[xaR]at he;have red: ∀f:Pz,Fs f-> ¬Cg (Q:Int) f (pc 0)-> ∃g n,Tp g n/\Cg (Q:Int) g f/\ ¬(Q:Int)∣g n:=fun f ff hn=>by
  have f2:Fs (fun k=>f k % (Q:Int)):=by
   obtain⟨n,hn⟩:=ff;exact⟨n,fun k hk=>by show f k % _=0;rw[hn k hk,xag]⟩
  obtain⟨n,h1⟩:=Tp.ex f2 (xaf fun hz=>hn fun k=>by
   have:=Nz.not hz k;rw[zK,xag];exact this)
  exact⟨_,n,h1,fun k=>xaC _ _,fun hd=>h1.1 (by
   show f n % _=0;have:=xax hd;rwa[xaC]at this)⟩
 have ha: ¬Cg (Q:Int) a (pc 0):=fun e=>hc (by
  have:=(h.symm.trans (e.mul_zero_r b)).dvd 0;unfold pc at this;rwa[iq rfl]at this)
 have hb: ¬Cg (Q:Int) b (pc 0):=fun e=>hc (by
  have:=(h.symm.trans (e.mul_zero_l a)).dvd 0;unfold pc at this;rwa[iq rfl]at this)
 obtain⟨u,i,u1,u2,u3⟩:=red a fa ha;obtain⟨v,j,v1,v2,v3⟩:=red b fb hb;have h1:=(u2.mul v2).trans h;by_cases hf:i=0
 ·subst hf;obtain⟨x,rfl⟩:=((fK.tp u1).2 rfl).ex;exact⟨x,u2.symm⟩
 ·exfalso;have h2:=h1 (i+j);rw[VP u1.2 v1.2,show pc c (i+j)=0 from zx,xag]at h2;rcases C7 (by omega) he (xaG h2)with h3|h3
  ·exact u3 h3
  ·exact v3 h3
theorem br{p a:Int}(hp:wB p=true)(ha:a % p≠0): ∀k,∃w,p^k∣w*a-1
 |0=>⟨0,by rw[xbs];exact Int.one_dvd _⟩
 |k+1=>by
  obtain⟨p1,p2⟩:=zo hp;by_cases hk:k=0
  ·subst hk;obtain⟨Q,rfl⟩:=xaB (show 0<=p by omega);obtain⟨w,hw⟩:=H7 hp (d:=a) fun h=>ha (xax h);exact⟨w,by rw[xbk,xbs,xbY];exact hw⟩
  ·obtain⟨w,hw⟩:=br hp ha k;refine⟨w*(2-w*a),?_⟩;have e:w*(2-w*a)*a-1= -((w*a-1)*(w*a-1)):=by
    generalize hx:w*a=x;have:w*(2-x)*a=x*(2-x):=by rw[xbG,xbi (2-x) a,<-xbG,hx]
    rw[this];grind
   rw[e];refine Int.dvd_neg.2 (xbB (Uf (i:=k+1) (j:=k+k) (by omega)) ?_);rw[Int.pow_add];exact xfJ hw hw
abbrev Lx:=List Zr×List Int
def pu(xs:List Lx):Pz:=prZ (xs.map fun x=>(cf x.1:Pz))
def pl(xs:List Lx):Pz:=prZ (xs.map fun x=>(ci x.2:Pz))
theorem zdw(xs:List Lx):Fs (pu xs):=Fs.prZ fun f hf=>by
 obtain⟨x,_,rfl⟩:=xal.1 hf;exact Fs.cf _
theorem zgz(xs:List Lx):Fs (pl xs):=Fs.prZ fun f hf=>by
 obtain⟨x,_,rfl⟩:=xal.1 hf;exact Fs.ci _
structure Lc(p:Int)(k:Nat)(f:Pz)(n:Nat)(xs:List Lx):Prop where
 hp:wB p=true
 k1:1<=k
 el: ∀x∈xs,Up p k x.1 x.2/\W9 p x.2/\x.2.length<=66
 pw:xs.Pairwise fun a b=>qD p (ci a.2) (ci b.2)
 tp:Tp f n
 nb:n<=64
 ps:0<f n
 lc:f n % p≠0
 pm:Pm f
 cg:Cg (p^k) f (pc (f n)*pu xs)
theorem zhr{x:Lx}(h:Up p k x.1 x.2/\W9 p x.2/\x.2.length<=66):Mn (cf x.1) (x.2.length-1):=by
 obtain⟨h1,h2,_⟩:=h;have h3:=h1.top;have h4:=h2.l1;rw[h1.len]at h3;exact⟨h3,fun j hj=>yb (by rw[h1.len];omega)⟩
theorem Ed{p:Int}{k:Nat}: ∀{xs:List Lx},(∀x∈xs,Up p k x.1 x.2/\W9 p x.2/\x.2.length<=66)->Cg p (pu xs) (pl xs)
 |[],_=>Cg.rfl
 |x::xs,h=>(h x (FS)).1.cg.mul (Ed fun y hy=>h y (H1 _ hy))
theorem zge{xs:List Lx}(h: ∀x∈xs,Up p k x.1 x.2/\W9 p x.2/\x.2.length<=66): ∃d,Mn (pu xs) d:=zau fun A hA=>by
 obtain⟨x,hx,rfl⟩:=xal.1 hA;exact⟨_,zhr (h x hx)⟩
theorem Tt{xs:List Lx}(h: ∀x∈xs,Up p k x.1 x.2/\W9 p x.2/\x.2.length<=66): ∃d,Mn (pl xs) d:=zau fun A hA=>by
 obtain⟨x,hx,rfl⟩:=xal.1 hA;exact⟨_,(h x hx).2.1.mn.mn⟩
theorem Lc.lcp{n:Nat}{xs:List Lx}(h:Lc p k f n xs):Cg p f (pc (f n)*pl xs):=
 (h.cg.down (qQ h.k1)).trans (Cg.rfl.mul (Ed h.el))
theorem Lc.sf{n:Nat}{xs:List Lx}(h:Lc p k f n xs): ∃(m:List Int) (w:Int),Sf p m (xs.map (·.2))/\Cg p (ci m) (pc w*f):=by
 obtain⟨p1,p2⟩:=zo h.hp;obtain⟨w,hw⟩:=br h.hp h.lc 1;rw[xbk,xbs,xbY]at hw;have hz: ∀k,n+1<=k->(fun k=>(w*f k) % p) k=0:=fun k hk=>by
  show(w*f k) % p=0;rw[h.tp.2 k (by omega),xat,xag]
 have hb:(w*f n) % p=1:=by
  have:=(xcC (w*f n) (xdN p));have h2:(w*f n) % p=1 % p:=xaH.2 (xax hw);rw[h2,xaz (by decide) (by omega)]
 have ha:=mU hz;have hc:=gf (n+1) (fun k=>(w*f k) % p);have hf:=tn (n+1) (fun k=>(w*f k) % p);obtain⟨m,hm⟩: ∃m,m=nl (n+1) (fun k=>(w*f k) % p):=⟨_,rfl⟩;rw[<-hm]at ha hc hf;have hd:m.length=n+1:=by
  by_cases e:m.length=n+1
  ·exact e
  ·have:=ha n;rw[zP (by omega)]at this;have h3:(w*f n) % p=0:=this.symm;omega
 have he:Cg p (ci m) (pc w*f):=fun k=>by rw[ha k,zQ];exact xaC _ _
 refine⟨m,w,⟨h.hp,⟨⟨fun k=>by rw[ha k];exact(yg (by omega)).1,fun k=>by rw[ha k];exact(yg (by omega)).2,hc⟩,by omega,by rw[ha];show(w*f (m.length-1)) % p=1;rw[hd];exact hb⟩,by have:=h.nb;omega,fun u hu=> ?_,?_,?_⟩,he⟩
 ·obtain⟨x,hx,rfl⟩:=xal.1 hu;obtain⟨_,h2,h3⟩:=h.el x hx;exact⟨h2,by omega⟩
 ·exact xez.2 h.pw
 ·refine he.trans ((Cg.rfl.mul h.lcp).trans ?_);rw[<-zd,jX,xcM];refine Cg.trans (Cg.mul (f':=pc 1) (fun j=> ?_) Cg.rfl) (Cg.of (zy _));unfold pc;split
  ·rw[hb];exact(xaz (by decide) (by omega)).symm
  ·rfl
noncomputable def own(p:Int)(u:Pz)(xs:List Lx):List Lx:=by
 classical exact xs.filter fun x=>decide (Di p (ci x.2) u)
noncomputable def Db(p:Int)(u:Pz)(xs:List Lx):List Lx:=by
 classical exact xs.filter fun x=> !decide (Di p (ci x.2) u)
theorem Q5{xs:List Lx}{x:Lx}:x∈own p u xs↔x∈xs/\Di p (ci x.2) u:=by
 classical
 unfold own;rw[xbW,decide_eq_true_iff]
theorem LR(p:Int)(u:Pz)(xs:List Lx):pu xs=pu (own p u xs)*pu (Db p u xs)/\pl xs=pl (own p u xs)*pl (Db p u xs):=by
 classical
 exact⟨aL _ _ xs,aL _ _ xs⟩
theorem Lc.or{n:Nat}{xs:List Lx}(h:Lc p k f n xs)(fu:Fs u)(fv:Fs v)(ub: ∀j,b<=j->u j=0)(hb:b<=290)(e:f=u*v){x:Lx}(hx:x∈xs):(Di p (ci x.2) u\/Di p (ci x.2) v)/\ ¬(Di p (ci x.2) u/\Di p (ci x.2) v):=by
 obtain⟨m,w,hS,hm⟩:=h.sf;obtain⟨h1,h2,h3⟩:=h.el x hx;have ha:x.2∈xs.map (·.2):=xbM hx;constructor
 ·rcases h2.or' h.hp (by omega) ub hb with hd|hc
  ·exact .inl hd
  ·right;have hf:Di p (ci x.2) f:=by
    refine Di.cg ?_ h.lcp.symm;exact(QJ (fun y hy=>by obtain⟨z,_,rfl⟩:=xal.1 hy;exact Fs.ci _) (xbM (f:=fun x:Lx=>(ci x.2:Pz)) hx)).mul _ (Fs.pc _)
   rw[e]at hf;exact Di.euclid fv hc hf
 ·rintro⟨d1,d2⟩;exact hS.apart fu fv ⟨pc w,Fs.pc w,by rw[<-e];exact hm⟩ ha d1 d2
theorem Lc.oth_own{n:Nat}{xs:List Lx}(h:Lc p k f n xs)(fu:Fs u)(fv:Fs v)(ub: ∀j,b<=j->u j=0)(hb:b<=290)(e:f=u*v):Db p u xs=own p v xs:=by
 classical
 unfold Db own;refine List.filter_congr fun x hx=> ?_;obtain⟨h1,h2⟩:=h.or fu fv ub hb e hx;by_cases hd:Di p (ci x.2) u
 ·rw[decide_eq_true hd,decide_eq_false fun hv=>h2 ⟨hd,hv⟩];rfl
 ·rw[decide_eq_false hd,decide_eq_true (h1.resolve_left hd)];rfl
theorem Lc.pcop{n:Nat}{xs:List Lx}(h:Lc p k f n xs):(own p u xs).Pairwise (fun a b=>qD p (ci a.2) (ci b.2)):=by
 classical
 unfold own;exact h.pw.sublist List.filter_sublist
theorem Lc.odv{n:Nat}{xs:List Lx}(h:Lc p k f n xs)(fu:Fs u):Di p (pl (own p u xs)) u:=by
 refine Di.prz fu (fun y hy=>by obtain⟨z,_,rfl⟩:=xal.1 hy;exact Fs.ci _) (xez.2 h.pcop) fun y hy=> ?_;obtain⟨z,hz,rfl⟩:=xal.1 hy;exact(Q5.1 hz).2
theorem lQ{n:Nat}{xs:List Lx}(h:Lc p k f n xs)(u:Pz): ∀x∈own p u xs,Up p k x.1 x.2/\W9 p x.2/\x.2.length<=66:=fun x hx=>h.el x (Q5.1 hx).1
theorem Lc.loc{n:Nat}{xs:List Lx}(h:Lc p k f n xs)(hu:Tp u a)(hv:Tp v b)(e:f=u*v):Cg p u (pc (u a)*pl (own p u xs))/\Mn (pl (own p u xs)) a:=by
 obtain⟨p1,p2⟩:=zo h.hp;have fu:=hu.fs;have fv:=hv.fs;have he:a+b=n:=by
  have:=hu.mul hv;rw[<-e]at this;exact this.uniq h.tp
 have hf:f n=u a*v b:=by rw[<-he,e,VP hu.2 hv.2]
 have ho:Db p u xs=own p v xs:=h.oth_own fu fv (b:=a+1) (fun j hj=>hu.2 j (by omega)) (by have:=h.nb;omega) e;obtain⟨α,fα,h1⟩:=h.odv fu;obtain⟨β,fβ,h2⟩:=h.odv fv;obtain⟨d0,hg⟩:=Tt h.el;have ha:=(LR p u xs).2;rw[ho]at ha;have h3:Cg p ((α*β-pc (f n))*pl xs) (pc 0):=by
  rw[w9];refine Cg.iff_sub.1 (Cg.trans ?_ h.lcp);rw[e];refine Cg.trans (Cg.of ?_) (h1.mul h2).symm;rw[ha,zd α,zd α,zw (pl (own p u xs)) β]
 have h4:=hg.zero p1 ((fα.mul fβ).subt (Fs.pc _)) fun j _=>by rw[h3 j,zK,xag]
 have hb: ¬p∣f n:=fun hd=>h.lc (xax hd);obtain⟨x,hx⟩:=IX h.hp fα fβ (Cg.iff_sub.2 h4) hb;have h5:Cg p u (pc x*pl (own p u xs)):=h1.trans (hx.mul Cg.rfl);obtain⟨d,hd⟩:=Tt (lQ h u);have hc: ¬p∣u a:=fun hd=>hb (by rw[hf];exact xbB hd (xcj _ _));have t1:=h5 a;have t2:=h5 d;rw[zQ]at t1 t2;rw[hd.1,xce]at t2;have hi:a=d:=by
  by_cases c1:a<d
  ·exfalso;rw[hu.2 d c1,xag]at t2;refine hc (xaG ?_);rw[t1,xbq,<-t2,xaU,xag]
  ·by_cases c2:d<a
   ·exfalso;rw[hd.2 a c2,xat,xag]at t1;exact hc (xaG t1)
   ·omega
 subst hi;refine⟨h5.trans (Cg.mul (fun j=> ?_) Cg.rfl),hd⟩;unfold pc;split
 ·exact t2.symm
 ·rfl
theorem Lc.up{n:Nat}{xs:List Lx}(h:Lc p k f n xs)(hu:Tp u a)(hv:Tp v b)(e:f=u*v):Cg (p^k) u (pc (u a)*pu (own p u xs)):=by
 obtain⟨p1,p2⟩:=zo h.hp;have fu:=hu.fs;have fv:=hv.fs;have hp:a+b=n:=by
  have:=hu.mul hv;rw[<-e]at this;exact this.uniq h.tp
 have hb:f n=u a*v b:=by rw[<-hp,e,VP hu.2 hv.2]
 have hl: ¬p∣f n:=fun hd=>h.lc (xax hd);have hq:u a % p≠0:=fun hd=>hl (by rw[hb];exact xbB (xaG hd) (xcj _ _));have hr:v b % p≠0:=fun hd=>hl (by rw[hb];exact xbB (xaG hd) (xcK _ _));have ho:Db p u xs=own p v xs:=h.oth_own fu fv (b:=a+1) (fun j hj=>hu.2 j (by omega)) (by have:=h.nb;omega) e;obtain⟨l1,m1⟩:=h.loc hu hv e;obtain⟨l2,m2⟩:=h.loc hv hu (by rw[e,zg]);obtain⟨w,hw⟩:=br h.hp hq k;obtain⟨z,hz⟩:=br h.hp hr k;have hk:=qQ (p:=p) h.k1;have one: ∀{M c d:Int},M∣c*d-1->Cg M (pc c*pc d) (pc 1):=fun{M c d} hd j=>by
  rw[jX];unfold pc;split
  ·exact xaH.2 (xax hd)
  ·rfl
 have hA: ∃A:Pz,Mn A a/\Fs A/\Cg (p^k) A (pc w*u):=by
  refine⟨fun j=>if j=a then 1 else w*u j,⟨iq rfl,fun j hj=> ?_⟩,⟨a+1,fun j hj=> ?_⟩,fun j=> ?_⟩
  ·show(if j=a then(1:Int)else w*u j)=0;rw[zx,hu.2 j hj,xat]
  ·show(if j=a then(1:Int)else w*u j)=0;rw[zx,hu.2 j (by omega),xat]
  ·show(if j=a then(1:Int)else w*u j) % _=_;rw[zQ];by_cases c:j=a
   ·rw[iq c,c];exact(xaH.2 (xax hw)).symm
   ·rw[ir c]
 obtain⟨A,mA,fA,cA⟩:=hA;obtain⟨dA,he⟩:=zge (lQ h u);have hf:=Ed (lQ h u);have hs:=Ed (lQ h v);have cu:Cg p A (pl (own p u xs)):=by
  refine(cA.down hk).trans ((Cg.rfl.mul l1).trans ?_);rw[<-zd];exact(Cg.mul (one (xbB hk hw)) Cg.rfl).trans (Cg.of (zy _))
 have cv:Cg p (pc z*v) (pl (own p v xs)):=by
  refine(Cg.rfl.mul l2).trans ?_;rw[<-zd];exact(Cg.mul (one (xbB hk hz)) Cg.rfl).trans (Cg.of (zy _))
 have mu:Mn (pu (own p u xs)) a:=by
  have t1:=(hf.trans cu.symm) a;have t2:=(hf.trans cu.symm) dA;rw[mA.1]at t1;rw[he.1]at t2;have ha:(1:Int) % p=1:=xaz (by decide) (by omega);have:dA=a:=by
   by_cases c1:dA<a
   ·rw[he.2 a c1,xag,ha]at t1;cases t1
   ·by_cases c2:a<dA
    ·rw[mA.2 dA c2,xag,ha]at t2;cases t2
    ·omega
  rw[<-this];exact he
 have hm:qD p (pl (own p u xs)) (pl (own p v xs)):=by
  have:=sZ (p:=p) (A:=(own p u xs).map (·.2)) (B:=(own p v xs).map (·.2)) fun c hc d hd=>by
   obtain⟨x,hx,rfl⟩:=xal.1 hc;obtain⟨y,hy,rfl⟩:=xal.1 hd;have hg:=Q5.1 hx;have hn:=Q5.1 hy;obtain⟨_,i1,i2⟩:=h.el x hg.1;obtain⟨_,i3,i4⟩:=h.el y hn.1;refine i1.cop h.hp i3 (by omega) (by omega) fun ee=> ?_;have:=(h.or fu fv (b:=a+1) (fun j hj=>hu.2 j (by omega)) (by have:=h.nb;omega) e hg.1).2;exact this ⟨hg.2,by rw[ee];exact hn.2⟩
  rw[xcM,xcM]at this;exact this
 have hi:Cg (p^k) (A*(pc z*v)) (pu (own p u xs)*pu (own p v xs)):=by
  have e1:=(LR p u xs).1;rw[ho]at e1;rw[<-e1];refine(cA.mul Cg.rfl).trans ?_;have e2:pc w*u*(pc z*v)=pc w*(pc z*f):=by rw[e,zd,zw u (pc z) v]
  rw[e2];refine(Cg.mul Cg.rfl (Cg.mul Cg.rfl h.cg)).trans ?_;have e3:pc w*(pc z*(pc (f n)*pu xs))=(pc w*pc (u a))*((pc z*pc (v b))*pu xs):=by
   rw[hb,<-zd,<-zd,<-zd,jX,jX,jX,jX,jX];congr 2;grind
  rw[e3];exact(Cg.mul (one hw) ((Cg.mul (one hz) Cg.rfl).trans (Cg.of (zy _)))).trans (Cg.of (zy _))
 obtain⟨r1,_⟩:=FJ p1 mA mu fA (zdw _) ((Fs.pc z).mul fv) (zdw _) (hm.congr cu.symm cv.symm) (cu.trans hf.symm) (cv.trans hs.symm) k hi;refine Cg.trans ?_ (Cg.rfl.mul r1);refine Cg.trans ?_ (Cg.rfl.mul cA.symm);rw[<-zd];refine Cg.symm ((Cg.mul (one (d:=w) ?_) Cg.rfl).trans (Cg.of (zy _)));rw[xbi];exact hw
theorem Lc.step{n:Nat}{xs:List Lx}(h:Lc p k f n xs)(hg:Tp g a)(hq:Tp q b)(pg:0<g a)(e:f=q*g):Lc p k q b (Db p g xs):=by
 have e2:f=g*q:=by rw[e,zg]
 have hc:a+b=n:=by
  have:=hg.mul hq;rw[<-e2]at this;exact this.uniq h.tp
 have ha:f n=g a*q b:=by rw[<-hc,e2,VP hg.2 hq.2]
 have ho:Db p g xs=own p q xs:=h.oth_own hg.fs hq.fs (b:=a+1) (fun j hj=>hg.2 j (by omega)) (by have:=h.nb;omega) e2;have hb:=h.ps;rw[ho];refine⟨h.hp,h.k1,lQ h q,h.pcop,hq,by have:=h.nb;omega,?_,fun hd=> ?_,?_,h.up hq hg e⟩
 ·rw[ha]at hb;exact Int.pos_of_mul_pos_right hb pg
 ·exact h.lc (by rw[ha];exact xax (xbB (xaG hd) (xcK _ _)))
 ·have:=h.pm;rw[e]at this;exact this.left
theorem Lc.pick{n:Nat}{xs S:List Lx}(h:Lc p k f n xs)(hS: ∀x∈S,x∈xs)(hg:Tp g a)(hq:Tp q b)(e:f=g*q){γ:Int}(hc:Cg p (pc γ*g) (pc (f n)*pl S)){x:Lx}(hx:x∈xs):Di p (ci x.2) g↔x∈S:=by
 obtain⟨p1,p2⟩:=zo h.hp;have hb: ¬p∣f n:=fun hd=>h.lc (xax hd);have elS:=fun y hy=>h.el y (hS y hy);obtain⟨d,hd⟩:=Tt elS;have hγ: ¬p∣γ:=fun hf=>hb (by
  have t:=hc d;rw[zQ,zQ,hd.1,xce]at t;refine xaG ?_;rw[<-t];exact xax (xbB hf (xcj _ _)))
 obtain⟨_,i1,i2⟩:=h.el x hx;have unit: ∀{c:Int} {y:Pz},¬p∣c->Fs y->Di p (ci x.2) (pc c*y)->Di p (ci x.2) y:=fun{c y} hc fy hd=>by
  rcases i1.or' h.hp (by omega) (f:=pc c) (n:=1) (fun k hk=>by unfold pc;rw[zx]) (by decide)with h1|h1
  ·exact absurd (i1.const p1 h1) hc
  ·exact Di.euclid fy h1 hd
 constructor
 ·intro h1;have h2:Di p (ci x.2) (pl S):=unit hb (zgz S) ((h1.mul (pc γ) (Fs.pc γ)).cg hc);have h3:=i1.mem h.hp (us:=S.map (·.2)) (by omega) (fun w hw=>by
   obtain⟨y,hy,rfl⟩:=xal.1 hw;obtain⟨_,j1,j2⟩:=elS y hy;exact⟨j1,by omega⟩) (by rw[xcM];exact h2)
  obtain⟨y,hy,e2⟩:=xal.1 h3;have:x=y:=by
   by_cases ne:x=y
   ·exact ne
   ·exfalso;have XU:=h.pw;have ha:qD p (ci x.2) (ci y.2):=by
     obtain⟨A,B,e3⟩:=xdO hx;have he:=hS y hy;rw[e3]at he XU;rw[xdg,xcZ]at XU;rcases xaa.1 he with h4|h4
     ·exact(XU.2.2 y h4 x (FS)).symm
     ·rcases xad.1 h4 with h5|h5
      ·exact absurd h5.symm ne
      ·exact XU.2.1.1 y h5
    rw[e2]at ha;exact i1.self p1 ha
  rw[this];exact hy
 ·intro h1;refine unit hγ hg.fs (Di.cg ?_ hc.symm);exact(QJ (fun y hy=>by obtain⟨z,_,rfl⟩:=xal.1 hy;exact Fs.ci _) (xbM (f:=fun x:Lx=>(ci x.2:Pz)) h1)).mul _ (Fs.pc _)
end
section
variable{f u v g q:Pz}{p:Int}{k N:Nat}{xs:List Lx}{a:List Int}
theorem zgF{α:Type}{P Q R:α->Bool}: ∀{l:List α},(∀x∈l,P x=true->R x=true)->(∀x∈l,Q x=true->R x=true)->(∀x∈l,¬(P x=true/\Q x=true))->(l.filter P).length+(l.filter Q).length<=(l.filter R).length
 |[],_,_,_=>xac _
 |x::l,h1,h2,h3=>by
  have ih:=zgF (l:=l) (fun y hy=>h1 y (H1 _ hy)) (fun y hy=>h2 y (H1 _ hy)) fun y hy=>h3 y (H1 _ hy);have a1:=h1 x (FS);have a2:=h2 x (FS);have a3:=h3 x (FS);rw[xdh,xdh,xdh];cases hP:P x<;>cases hQ:Q x<;>cases hR:R x<;>simp only[hP,hQ,hR,if_true,xav,xah,if_false]at a1 a2 a3⊢<;>first|omega|exact absurd (a1 trivial) id|exact absurd (a2 trivial) id|exact absurd ⟨trivial,trivial⟩ a3
def Ls(p:Int)(f:Pz)(xs:List Lx)(c:Nat):Prop:= ∀u v,Fs u->Fs v->f=u*v-> ¬fK u->c<=(own p u xs).length
theorem ZX(nf:Nz f)(e:f=u*v):Nz u/\Nz v:=by
 obtain⟨k,hk⟩:=nf;rw[e,xr]at hk;exact⟨xaf fun hn=>hk (yT fun i _=>by rw[Nz.not hn i,xaU]),xaf fun hn=>hk (yT fun i _=>by rw[Nz.not hn _,xat])⟩
theorem Ls.one{n:Nat}(h:Lc p k f n xs):Ls p f xs 1:=fun u v fu fv e nc=>by
 obtain⟨nu,nv⟩:=ZX h.tp.nz e;obtain⟨a,ha⟩:=Tp.ex fu nu;obtain⟨b,hb⟩:=Tp.ex fv nv;obtain⟨_,hm⟩:=h.loc ha hb e
 cases ho:own p u xs with
 |nil=>
  exfalso;rw[ho]at hm;have h1:=hm.1;refine nc ((fK.tp ha).2 (xaf fun h0=> ?_));rw[show pl [] a=0 from ir h0]at h1;cases h1
 |cons x r=>exact Nat.succ_le_succ (xaj _)
theorem Ls.two{w:Pz}{n:Nat}(h:Lc p k f n xs)(fu:Fs u)(fv:Fs v)(fw:Fs w)(e:f=u*v*w):(own p u xs).length+(own p v xs).length<=(own p (u*v) xs).length:=by
 classical
 obtain⟨n1,nw⟩:=ZX h.tp.nz e;obtain⟨nu,nv⟩:=ZX n1 rfl;obtain⟨a,ha⟩:=Tp.ex fu nu;obtain⟨b,hb⟩:=Tp.ex (fv.mul fw) (Nz.mul fv fw nv nw);have hc:a+b=n:=by
  have:=ha.mul hb;rw[<-zd,<-e]at this;exact this.uniq h.tp
 unfold own;refine zgF (fun x _ h1=> ?_) (fun x _ h1=> ?_) fun x hx ⟨h1,h2⟩=> ?_
 ·refine decide_eq_true ?_;rw[zg];exact(of_decide_eq_true h1).mul v fv
 ·exact decide_eq_true ((of_decide_eq_true h1).mul u fu)
 ·refine(h.or fu (fv.mul fw) (b:=a+1) (fun j hj=>ha.2 j (by omega)) (by have:=h.nb;omega) (by rw[e,zd]) hx).2 ⟨of_decide_eq_true h1,?_⟩;rw[zg];exact(of_decide_eq_true h2).mul w fw
theorem Ls.ir{n c:Nat}(h:Lc p k f n xs)(hl:Ls p f xs c)(hc:1<=c)(fg:Fs g)(fq:Fs q)(e:f=g*q)(pm:Pm g)(nc: ¬fK g)(hn:(own p g xs).length<2*c):Ir g:=by
 refine⟨fg,pm,nc,fun u v fu fv e2=>xaf fun ha=> ?_⟩;have cu: ¬fK u:=fun h=>ha (.inl h);have cv: ¬fK v:=fun h=>ha (.inr h);subst e2;have h1:=hl u (v*q) fu (fv.mul fq) (by rw[e,zd]) cu;have h2:=hl v (u*q) fv (fu.mul fq) (by rw[e,zd,zw]) cv;have h3:=Ls.two h fu fv fq e;omega
theorem Ls.step{n c:Nat}(h:Lc p k f n xs)(hl:Ls p f xs c)(fg:Fs g)(fq:Fs q)(e:f=q*g):Ls p q (Db p g xs) c:=fun u v fu fv e2 nc=>by
 classical
 subst e2;have h1:=hl u (v*g) fu (fv.mul fg) (by rw[e,zd]) nc;obtain⟨n1,ng⟩:=ZX h.tp.nz e;obtain⟨nu,nv⟩:=ZX n1 rfl;obtain⟨a,ha⟩:=Tp.ex fg ng;obtain⟨b,hb⟩:=Tp.ex fq n1;have hc:b+a=n:=by
  have:=hb.mul ha;rw[<-e]at this;exact this.uniq h.tp
 have:own p u (Db p g xs)=own p u xs:=by
  unfold own Db;rw[List.filter_filter];refine List.filter_congr fun x hx=> ?_;by_cases hd:Di p (ci x.2) u
  ·have h2:=(h.or fg fq (b:=a+1) (fun j hj=>ha.2 j (by omega)) (by have:=h.nb;omega) (by rw[e,zg]) hx).2;rw[decide_eq_true hd,decide_eq_false fun hg=>h2 ⟨hg,by rw[zg];exact hd.mul v fv⟩];rfl
  ·rw[decide_eq_false hd];rfl
 rw[this];exact h1
structure gP(N c:Nat)(a:List Int):Prop where
 ln:a.length=c
 lo: ∀i,i<c->(i:Int)<=ci a i
 hi: ∀i,i<c->ci a i+c<=N+i
 st: ∀i,i+1<c->ci a i<ci a (i+1)
def Lt(f g:Nat->Int)(c:Nat):Prop:= ∃j,j<c/\f j<g j/\ ∀k,k<j->f k=g k
theorem mm(f g:Nat->Int)(c:Nat):(∀k,k<c->f k=g k)\/Lt f g c\/Lt g f c:=by
 by_cases h: ∃k,k<c/\f k≠g k
 ·obtain⟨j,⟨j1,j2⟩,j3⟩:=zdg h;have je: ∀k,k<j->f k=g k:=fun k hk=>xaf fun hn=>j3 k hk ⟨by omega,hn⟩;by_cases ha:f j<g j
  ·exact .inr (.inl ⟨j,j1,ha,je⟩)
  ·exact .inr (.inr ⟨j,j1,by omega,fun k hk=>(je k hk).symm⟩)
 ·exact .inl fun k hk=>xaf fun hn=>h ⟨k,hk,hn⟩
theorem Lt.asy{f g:Nat->Int}{c:Nat}(h:Lt f g c)(h2:Lt g f c):False:=by
 obtain⟨i,i1,i2,i3⟩:=h;obtain⟨j,j1,j2,j3⟩:=h2;by_cases e:i<j
 ·have:=j3 i e;omega
 ·by_cases e2:j<i
  ·have:=i3 j e2;omega
  ·obtain rfl:i=j:=by omega
   omega
def nxA(c k:Nat)(a:List Int):List Int:=zl c fun i=>if i<k then ci a i else ci a k+1+((i:Int)-k)
theorem gP.up{N c:Nat}{T:List Int}(hT:gP N c T){i:Nat}: ∀d,i+d<c->ci T i+d<=ci T (i+d)
 |0,_=>by rw[xcg];omega
 |d+1,h=>by
  have h1:=hT.up (i:=i) d (by omega);have h2:=hT.st (i+d) (by omega);rw[show i+(d+1)=i+d+1 by omega];omega
theorem VF{c:Nat}{i:Nat}(h:i<c):ci (nxA c k a) i=if i<k then ci a i else ci a k+1+((i:Int)-k):=qY h
theorem gP.next{c:Nat}(h:gP N c a)(hk:k<c)(h1:ci a k+c<N+k):gP N c (nxA c k a):=by
 refine⟨zF _ _,fun i hi=> ?_,fun i hi=> ?_,fun i hi=> ?_⟩
 ·rw[VF hi];have:=h.lo i hi;have:=h.lo k hk;split<;>omega
 ·rw[VF hi];have:=h.hi i hi;split<;>omega
 ·rw[VF (by omega),VF hi];by_cases e:i+1<k
  ·rw[zM,iq e];exact h.st i hi
  ·by_cases e2:i<k
   ·have:=h.st i hi;obtain rfl:k=i+1:=by omega
    rw[zM,zx];omega
   ·rw[ir e2,ir e];omega
theorem zgw{c:Nat}{T:List Int}(hT:gP N c T)(hk:k<c)(ha: ∀i,k<i->i<c->ci a i+c=N+i)(h:Lt (ci a) (ci T) c):(∀i,i<c->ci (nxA c k a) i=ci T i)\/Lt (ci (nxA c k a)) (ci T) c:=by
 obtain⟨j,j1,j2,j3⟩:=h;have hb:j<=k:=by
  by_cases e:j<=k
  ·exact e
  ·have:=ha j (by omega) j1;have:=hT.hi j j1;omega
 by_cases e:j<k
 ·exact .inr ⟨j,j1,by rw[VF j1,iq e];exact j2,fun i hi=>by rw[VF (by omega),zM];exact j3 i hi⟩
 ·obtain rfl:j=k:=by omega
  rcases mm (ci (nxA c j a)) (ci T) c with h1|h1|h1
  ·exact .inl h1
  ·exact .inr h1
  ·exfalso;obtain⟨i,i1,i2,i3⟩:=h1;rw[VF i1]at i2;by_cases e2:i<j
   ·rw[iq e2,j3 i e2]at i2;omega
   ·rw[ir e2]at i2;have:=hT.up (i:=j) (i-j) (by omega);rw[show j+(i-j)=i by omega]at this;omega
def HG(N:Nat)(f:Nat->Int):Nat->Nat
 |0=>0
 |n+1=>HG N f n*(N+1)+(N-(f n).toNat)
theorem PW(N:Nat)(f:Nat->Int): ∀n,HG N f n+1<=(N+1)^n
 |0=>xac _
 |n+1=>by
  have ih:=xas (N+1) (PW N f n);rw[xaV]at ih;show HG N f n*(N+1)+(N-(f n).toNat)+1<=(N+1)^n*(N+1);omega
theorem zav{N:Nat}{f g:Nat->Int}: ∀n,(∀k,k<n->f k=g k)->HG N f n=HG N g n
 |0,_=>rfl
 |n+1,h=>by
  show HG N f n*(N+1)+_=HG N g n*(N+1)+_;rw[zav n fun k hk=>h k (by omega),h n (by omega)]
theorem OV{N:Nat}{f g:Nat->Int}{j:Nat}(h0: ∀k,k<j->f k=g k)(h1:0<=g j)(h2:f j=g j+1)(h3:f j<=N): ∀d,HG N f (j+1+d)+1<=HG N g (j+1+d)
 |0=>by
  show HG N f j*(N+1)+_+1<=HG N g j*(N+1)+_;rw[zav j h0];omega
 |d+1=>by
  have ih:=xas (N+1) (OV h0 h1 h2 h3 d);rw[xaV]at ih;show HG N f (j+1+d)*(N+1)+(N-(f (j+1+d)).toNat)+1<=HG N g (j+1+d)*(N+1)+(N-(g (j+1+d)).toNat);omega
end
section
variable{B R Q:Pz}{la lb ql K J fu:Nat}{b a:List Zr}
structure DvZ(A B Q R:Pz)(la lb n ql K J:Nat):Prop where
 eq:A=Q*B+R
 q1: ∀k,k<n->Q k=0
 q2: ∀k,ql<=k->Q k=0
 r: ∀k,n+(lb-1)<=k->R k=0
 bz: ∀k,Bz (K+(ql-n)*(J+1)) (R k)
 bq: ∀k,Bz (K+(ql-n)*(J+1)) (Q k)
theorem C0{n m:Nat}(hB:Tp B m)(h:Zd B R)(hr: ∀k,n+m<=k->R k=0): ∃w:Pz,R=w*B/\ ∀k,n<=k->w k=0:=by
 obtain⟨w,fw,rfl⟩:=h;refine⟨w,rfl,?_⟩;by_cases nw:Nz w
 ·obtain⟨d,hd⟩:=Tp.ex fw nw;have h1:=(hd.mul hB).1;intro k hk;refine hd.2 k ?_;by_cases c:d<n
  ·omega
  ·exact absurd (hr (d+m) (by omega)) h1
 ·exact fun k _=>Nz.not nw k
theorem DvZ.step{A:Pz}{n:Nat}(h:DvZ A B Q R la lb (n+1) ql K J)(hB:Tp B (lb-1))(hn:n+1<=ql){c:Int}(hc:R (n+(lb-1))=c*B (lb-1))(hJ: ∀k,Bz J (B k)):
 DvZ A B (uK Q n c) (fun k=>R k-c*sh B n k) la lb n ql K J:=by
 have hb:Bz (K+(ql-(n+1))*(J+1)) c:=(h.bz (n+(lb-1))).le (by
  rw[hc,xcr];exact xck _ (by have:=hB.1;omega))
 have ha:K+(ql-n)*(J+1)=K+(ql-(n+1))*(J+1)+J+1:=by rw[show ql-n=ql-(n+1)+1 by omega,xaV];omega
 have e1:uK Q n c=Q+mono n c:=funext fun k=>by
  rw[zI];unfold uK mono;by_cases e:k=n
  ·rw[iq e,iq e,e,h.q1 n (by omega)];omega
  ·rw[ir e,ir e];omega
 refine⟨?_,fun k hk=> ?_,fun k hk=> ?_,fun k hk=> ?_,fun k=> ?_,fun k=> ?_⟩
 ·rw[e1,yo];funext k;have:=congrFun h.eq k;rw[zI]at this;rw[zI,zI,YS];show _=_+_+(R k-c*sh B n k);omega
 ·unfold uK;rw[zx];exact h.q1 k (by omega)
 ·unfold uK;rw[zx];exact h.q2 k hk
 ·show R k-c*sh B n k=0;unfold sh;rw[zM];by_cases e:k=n+(lb-1)
  ·rw[e,hc,show n+(lb-1)-n=lb-1 by omega];omega
  ·rw[h.r k (by omega),hB.2 _ (by omega)];omega
 ·rw[ha];refine Bz.sub ((h.bz k).mono (by omega)) (hb.mul ?_);unfold sh;split
  ·exact hJ _
  ·exact Bz.zero _
 ·rw[ha];unfold uK;split
  ·exact hb.mono (by omega)
  ·exact(h.bq k).mono (by omega)
theorem zcM{n:Nat}{c:Int}(hb:xc J b)(he:b.length=lb)(hn:n+lb<=la)(hl:la<=1000)(hR: ∀k,Bz K (R k))(hc:Bz K c)(hK:K+J+1<=40000)(hf:3000000<=fu):
 zj (VD fu (n:Int) b) fu ((0:Int),b,zi la R,zi ql Q,yP c)=some (b,zi la (fun k=>R k-c*sh (cf b) n k),zi ql Q):=by
 refine zC (fun s:Int×List Zr×List Zr×List Zr×Zr=> ∃j:Nat,j<=lb/\s=((j:Int),b,zi la (fun k=>if k<n+j then R k-c*sh (cf b) n k else R k),zi ql Q,yP c)) (fun s=>lb-s.1.toNat) _ ?_ _ _ ⟨0,xaj _,?_⟩ (by show lb-0<fu;omega)
 ·rintro s L ⟨j,hj,rfl⟩ ih;unfold VD;simp only;by_cases h1:j<lb
  ·rw[zM,za rfl];simp only[if_true];have hd:=hb.get j;rw[yB,zf,show(n:Int)+(j:Int)=((n+j:Nat):Int)by omega,zb,zb,zp (by rw[yL];omega),zf,Yt (by omega),zx,za (ye (hc.ok (by omega)) (fW.of hd (by omega)) hf),zt,Qh];have ha:Bz (K+J) (c*cf b j):=hc.mul (hb.bz j);rw[za (v8 ((hR _).ok (by omega)) (ha.ok (by omega)) hf),zt,zt,zp (by rw[yL];omega),zf,J4,zb];refine ih _ ⟨j+1,by omega,?_⟩ (by show lb-((j:Int)+1).toNat<lb-(j:Int).toNat;omega);rw[show((j:Int)+1)=((j+1:Nat):Int)by omega];refine xeJ rfl (xeJ rfl (xeJ ?_ rfl));refine y7 fun k hk=> ?_;unfold uK;by_cases e:k=n+j
   ·rw[iq e,zM,e];unfold sh;rw[zM,show n+j-n=j by omega]
   ·rw[ir e];show(if k<n+j then R k-c*sh (cf b) n k else R k)=_;by_cases e2:k<n+j
    ·rw[iq e2,zM]
    ·rw[ir e2,zx]
  ·rw[zx,za rfl];simp only[xah,if_false];obtain rfl:j=lb:=by omega
   refine congrArg some (xeJ rfl (xeJ ?_ rfl));refine y7 fun k hk=> ?_;by_cases e:k<n+j
   ·rw[iq e]
   ·rw[ir e];unfold sh;rw[zM,yb (by omega)];omega
 ·refine xeJ rfl (xeJ rfl (xeJ ?_ rfl));refine y7 fun k hk=> ?_;by_cases e:k<n+0
  ·rw[iq e];unfold sh;rw[zx];omega
  ·rw[ir e]
theorem zef(a:List Zr):yq a=zi (yq a).length (cf a):=by
 have h:yq a=zi (dg (cf a) a.length) (cf a):=rfl;rw[show(yq a).length=dg (cf a) a.length from xz _ _];exact h
theorem WY(h:(yq a).length≠0):Tp (cf a) ((yq a).length-1):=by
 have h1:=uV (lA a) h;rw[uq]at h1;exact⟨h1,fun k hk=>by rw[<-uq];exact yb (by omega)⟩
theorem Yw(h:(yq a).length=0)(k:Nat):cf a k=0:=by rw[<-uq];exact yb (by omega)
theorem WB(ha:xc K a)(hb:xc J b)(hK:K+(a.length+1)*(J+1)<=30000)(hH:a.length<=1000)(hJ:b.length<=1000)(h0:(yq b).length≠0)(hf:3000000<=fu):
 ∃q e,wA fu a b=some (q,e)/\(e=0↔Zd (cf b) (cf a))/\(e=0->(cf a:Pz)=cf q*cf b/\yq q=q/\q.length<=a.length):=by
 have hn:=oy hb;have hL:=Vo b;have hM:=Vo a;have tb:=WY h0;have hN:J+1<=(a.length+1)*(J+1):=xdk _ (by omega);obtain⟨la,hi⟩: ∃la,la=(yq a).length:=⟨_,rfl⟩;obtain⟨lb,hg⟩: ∃lb,lb=(yq b).length:=⟨_,rfl⟩;obtain⟨ql,hO⟩: ∃ql,ql=la+1-lb:=⟨_,rfl⟩;have hz:=zef a;rw[<-hi]at hz;rw[<-hg]at tb h0;unfold wA;rw[za (zA ha (by omega) (by omega) hf),za (zA hb (by omega) (by omega) hf),show qi a.length (cf a)=yq a from rfl,show qi b.length (cf b)=yq b from rfl,<-hi,<-hg,zx];by_cases hP:0<la/\la<lb
 ·rw[za (v:=Sum.inr ()) (by rw[zM,zM])];refine⟨[],4,rfl,⟨fun h=>absurd h (by decide),fun h=> ?_⟩,fun h=>absurd h (by decide)⟩;exfalso;have ta:=WY (a:=a) (by omega);rw[<-hi]at ta;obtain⟨w,hw,w0⟩:=C0 (n:=0) tb h fun k hk=>ta.2 k (by omega);exact ta.1 (by rw[hw,xr,yT fun i _=>by rw[w0 i (by omega),xaU]])
 ·rw[za (v:=Sum.inl ()) (by
   by_cases h1:0<la
   ·rw[zM,zx]
   ·rw[zx])]
  simp only;have hp:max ((la:Int)-lb+1) 0=(ql:Int):=by omega
  rw[zb,zb,zf,hp,yN,yF,zf,U2,yL,zb]
  obtain⟨s,hs,hQ⟩:=yA (f:=VH fu) (fun s:Int×List Zr×List Zr×List Zr=> ∃(n:Nat) (Q R:Pz),n<=ql/\s=((n:Int)-1,yq b,zi la R,zi ql Q)/\DvZ (cf a) (cf b) Q R la lb n ql K J) (fun s=>(s.1+1).toNat)
   (fun r=>(∃Q R:Pz,r= .inl (zi la R,zi ql Q)/\DvZ (cf a) (cf b) Q R la lb 0 ql K J)\/(r= .inr 4/\ ¬Zd (cf b) (cf a))) (by
   rintro s L ⟨n,Q,R,hx,rfl,hI⟩ ih
   unfold VH
   simp only
   cases n with
   |zero=>
    rw[zx]
    exact⟨_,rfl,.inl ⟨Q,R,rfl,hI⟩⟩
   |succ n=>
    have hy:(ql-(n+1))*(J+1)<=(a.length+1)*(J+1):=xas _ (by omega)
    have hG:(ql-(n+1))*(J+1)+(J+1)<=(a.length+1)*(J+1):=by
     have:=xas (J+1) (show ql-(n+1)+1<=a.length+1 by omega);rw[xaV,xcm]at this;exact this
    have hl:=hI.bz
    rw[show((n+1:Nat):Int)-1=(n:Int)by omega,zM,<-hg,zb,show(n:Int)+(lb:Int)-1=((n+(lb-1):Nat):Int)by omega,zb,zp (by rw[yL];omega),zf,Yt (by omega),show(lb:Int)-1=((lb-1:Nat):Int)by omega,zb,yB,zf]
    have hq:=hn.get (lb-1)
    rw[za (Xe ((hl _).okS (by omega)) ⟨hq.1,by have:=hq.2;omega⟩ hf),zt,Qh,uq]
    simp only
    have hj:=tb.1
    have hE:exE (R (n+(lb-1))) (cf b (lb-1))=if R (n+(lb-1)) % cf b (lb-1)=0 then 0 else 4:=by unfold exE;rw[ir hj]
    have hX:exI (R (n+(lb-1))) (cf b (lb-1))=if R (n+(lb-1)) % cf b (lb-1)=0 then R (n+(lb-1))/cf b (lb-1)else 0:=by unfold exI;rw[ir hj]
    by_cases hd:R (n+(lb-1)) % cf b (lb-1)=0
    ·rw[iq hd]at hE hX
     obtain⟨c,hu⟩: ∃c,c=R (n+(lb-1))/cf b (lb-1):=⟨_,rfl⟩
     have hc:R (n+(lb-1))=c*cf b (lb-1):=by rw[hu,Int.ediv_mul_cancel (xaG hd)]
     have hA:Bz (K+(ql-(n+1))*(J+1)) c:=(hl (n+(lb-1))).le (by
      rw[hc,xcr];exact xck _ (by omega))
     rw[hE,hX,<-hu,iq rfl,zp (by rw[yL];omega),zf,J4,za (zcM hn hg.symm (by omega) (by omega) hl hA (by omega) hf)]
     simp only
     rw[zb]
     have hs:=hI.step tb hx hc hb.bz
     have e:(fun k=>R k-c*sh (cf (yq b)) n k)=fun k=>R k-c*sh (cf b) n k:=by rw[show cf (yq b)=cf b from funext (uq b)]
     rw[e]
     exact ih _ ⟨n,_,_,by omega,rfl,hs⟩ (by show((n:Int)-1+1).toNat<(((n+1:Nat):Int)-1+1).toNat;omega)
    ·rw[ir hd]at hE
     rw[hE,ir (by decide)]
     refine⟨_,rfl,.inr ⟨rfl,fun hz=>hd ?_⟩⟩
     have hm:Zd (cf b) R:=by
      have e:R=(cf a:Pz)-Q*cf b:=funext fun k=>by
       have:=congrFun hI.eq k;rw[zI]at this;rw[yC];omega
      rw[e];exact hz.sub ⟨Q,⟨ql,hI.q2⟩,rfl⟩
     obtain⟨w,hw,w0⟩:=C0 (n:=n+1) tb hm hI.r
     have:=VP (f:=w) (g:=cf b) (n:=n) (m:=lb-1) (fun k hk=>w0 k (by omega)) tb.2
     rw[<-hw]at this
     rw[this,Int.mul_emod_left]) fu ((ql:Int)-1,yq b,yq a,zi ql fun _=>0) ⟨ql,fun _=>0,cf a,xac _,by rw[hz],⟨funext fun k=>by
    rw[zI,xr,yT fun i _=>xaU _,xcA],fun _ _=>rfl,fun _ _=>rfl,fun k hk=>by
    by_cases e:la=0
    ·exact Yw (by omega) k
    ·rw[<-uq];exact yb (by omega),fun k=>(ha.bz k).mono (by omega),fun k=>Bz.zero _⟩⟩ (by show((ql:Int)-1+1).toNat<fu;omega)
  rw[za hs];rcases hQ with⟨Q,R,rfl,hI⟩|⟨rfl,hB⟩
  ·have hy:(ql-0)*(J+1)<=(a.length+1)*(J+1):=xas _ (by omega);have hC:xc 30000 (zi la R):=VS fun j=>(hI.bz j).mono (by omega);have hD:xc 30000 (zi ql Q):=VS fun j=>(hI.bq j).mono (by omega);have hv: ∀k,la<=k->R k=0:=fun k hk=>by
    by_cases e:la=0
    ·have h1:=congrFun hI.eq k;rw[zI,xr,yT (n:=k+1) fun i _=>by rw[hI.q2 i (by omega),xaU],Yw (by omega)]at h1;omega
    ·exact hI.r k (by omega)
   simp only;rw[za (zA hC (by decide) (by rw[yL];omega) hf),yL,lV];by_cases hr:(qi la R).length=0
   ·have ho: ∀k,R k=0:=fun k=>by rw[<-jj hv k];exact yb (by omega)
    have hF:(cf (qi ql Q):Pz)=Q:=funext fun k=>jj hI.q2 k;have he:(cf a:Pz)=cf (qi ql Q)*cf b:=by
     rw[hF];funext k;have:=congrFun hI.eq k;rw[zI,ho k,xbx]at this;exact this
    rw[zx,za (zA hD (by decide) (by rw[yL];omega) hf),yL,lV];refine⟨_,0,rfl,⟨fun _=>⟨_,Fs.cf _,he⟩,fun _=>rfl⟩,fun _=>⟨he,(X9 _ _).symm,?_⟩⟩;rw[xz];have:=qb Q ql;omega
   ·rw[zM];refine⟨[],4,rfl,⟨fun h=>absurd h (by decide),fun h=> ?_⟩,fun h=>absurd h (by decide)⟩;exfalso;have e:R=(cf a:Pz)-Q*cf b:=funext fun k=>by
     have:=congrFun hI.eq k;rw[zI]at this;rw[yC];omega
    have hm:Zd (cf b) R:=by
     rw[e];exact h.sub ⟨Q,⟨ql,hI.q2⟩,rfl⟩
    obtain⟨w,hw,w0⟩:=C0 (n:=0) tb hm hI.r;have ho: ∀k,R k=0:=fun k=>by rw[hw,xr,yT fun i _=>by rw[w0 i (by omega),xaU]]
    have ht:=uV (X9 la R) hr;rw[jj hv]at ht;exact ht (ho _)
  ·exact⟨[],4,rfl,⟨fun h=>absurd h (by decide),fun h=>absurd h hB⟩,fun h=>absurd h (by decide)⟩
theorem gN(ha:xc K a)(hb:xc J b)(hK:K<=40000)(hJ:J<=40000)(hc:a.length<=1000)(hd:b.length<=1000)(h0:(yq b).length=0)(hf:3000000<=fu):wA fu a b=some ([],3):=by
 unfold wA;rw[za (zA ha (by omega) (by omega) hf),za (zA hb (by omega) (by omega) hf),show qi b.length (cf b)=yq b from rfl,zM]
end
section
variable{N fu:Nat}{a:List Int}
theorem gP.ext{c:Nat}{b:List Int}(ha:gP N c a)(hb:gP N c b)(h: ∀k,k<c->ci a k=ci b k):a=b:=by
 rw[<-Et a,<-Et b,ha.ln,hb.ln];exact ym h
theorem rZ{c:Nat}(hc:c<=1000)(hf:3000000<=fu):zj (fun L (z:List Int×Int)=>
 if z.2<((zl c fun _=>0).length:Int)then
  zG z.2 z.1.length fun j=>
  nm (z.1.set j z.2) fun xs=>
  ze (z.2+1) fun i=>L (xs,i)
 else some z.1) fu (zl c fun _=>0,0)=some (zl c fun i=>(i:Int)):=by
 refine zC (fun s:List Int×Int=> ∃j:Nat,j<=c/\s=(zl c (fun k=>if k<j then(k:Int)else 0),(j:Int))) (fun s=>c-s.2.toNat) _ ?_ _ _ ⟨0,xaj _,?_⟩ (by show c-0<fu;omega)
 ·rintro s L ⟨j,hj,rfl⟩ ih
  simp only[zF]
  by_cases h1:j<c
  ·rw[zM,zp h1,zf,jQ,zb]
   refine ih _ ⟨j+1,by omega,?_⟩ (by show c-((j:Int)+1).toNat<c-(j:Int).toNat;omega)
   refine xeJ (ym fun k hk=> ?_) rfl
   unfold uK
   by_cases e:k=j
   ·rw[iq e,zM,e]
   ·rw[ir e]
    show(if k<j then(k:Int)else 0)=_
    by_cases e2:k<j
    ·rw[iq e2,zM]
    ·rw[ir e2,zx]
  ·rw[zx]
   obtain rfl:j=c:=by omega
   exact congrArg some (ym fun k hk=>iq hk)
 ·exact xeJ (ym fun k hk=>(ir (xbv k)).symm) rfl
theorem AZ{c:Nat}(ha:gP N c a)(hN:N<=1000)(hf:3000000<=fu):
 ∃i:Int,zj (fun L i=>
 if 0<=i then
  zG i a.length fun j=>
  nm (a.getD j 0) fun y=>
  ze ((N:Int)-c) fun e=>
  ze (e+i) fun e=>
  if y=e then ze (i-1) fun i=>L i
  else some i
 else some i) fu ((c:Int)-1)=some i/\ -1<=i/\i<c/\(∀j:Nat,i<j->j<c->ci a j+c=N+j)/\ ∀k:Nat,i=k->ci a k+c<N+k:=by
 have hb:c<=N\/c=0:=by
  by_cases h:c=0
  ·exact .inr h
  ·have:=ha.hi 0 (by omega);have:=ha.lo 0 (by omega);exact .inl (by omega)
 obtain⟨r,h1,h2⟩:=yA (f:=fun L (i:Int)=>
  if 0<=i then
   zG i a.length fun j=>
   nm (a.getD j 0) fun y=>
   ze ((N:Int)-c) fun e=>
   ze (e+i) fun e=>
   if y=e then ze (i-1) fun i=>L i
   else some i
  else some i) (fun i:Int=> -1<=i/\i<c/\ ∀j:Nat,i<j->j<c->ci a j+c=N+j) (fun i=>(i+1).toNat) (fun i=> -1<=i/\i<c/\(∀j:Nat,i<j->j<c->ci a j+c=N+j)/\ ∀k:Nat,i=k->ci a k+c<N+k) (by
   rintro i L ⟨i1,i2,i3⟩ ih;by_cases h0:0<=i
   ·obtain⟨k,rfl⟩:=xaB h0;have hd:=ha.ln;rw[iq h0,yB,zf,zb,zb,Zg];by_cases e:ci a k=(N:Int)-c+k
    ·rw[iq e,zb];refine ih _ ⟨by omega,by omega,fun j hj hc=> ?_⟩ (by omega);by_cases e2:j=k
     ·rw[e2];omega
     ·exact i3 j (by omega) hc
    ·rw[ir e];refine⟨_,rfl,i1,i2,i3,fun j hj=> ?_⟩;obtain rfl:k=j:=by omega
     have:=ha.hi k (by omega);omega
   ·rw[ir h0];exact⟨_,rfl,i1,i2,i3,fun j hj=>by omega⟩) fu ((c:Int)-1) ⟨by omega,by omega,fun j hj hc=>by omega⟩ (by omega)
 exact⟨r,h1,h2⟩
theorem Ev{c k:Nat}(ha:gP N c a)(hN:N<=1000)(hk:k<c)(h1:ci a k+c<N+k)(hf:3000000<=fu):
 zj (fun L (z:Int×List Int)=>
 if z.1<(c:Int)then
  ze (z.1-1) fun e=>
  zG e z.2.length fun j=>
  nm (z.2.getD j 0) fun y=>
  ze (y+1) fun e=>
  zG z.1 z.2.length fun j=>
  nm (z.2.set j e) fun xs=>
  ze (z.1+1) fun i=>L (i,xs)
 else some z.2) fu ((k:Int)+1,a.set k (ci a k+1))=some (nxA c k a):=by
 have hb:=ha.hi k hk;have hc:=ha.lo k hk;refine zC (fun s:Int×List Int=> ∃j:Nat,k+1<=j/\j<=c/\s=((j:Int),zl c (fun i=>if i<k then ci a i else if i<j then ci a k+1+((i:Int)-k)else ci a i))) (fun s=>c-s.1.toNat) _ ?_ _ _ ⟨k+1,xac _,hk,?_⟩ (by show c-((k:Int)+1).toNat<fu;omega)
 ·rintro s L ⟨j,j1,j2,rfl⟩ ih;simp only[zF];by_cases h2:j<c
  ·obtain⟨i,rfl⟩: ∃i,j=i+1:=⟨j-1,by omega⟩;rw[zM,show((i+1:Nat):Int)-1=(i:Int)by omega,zb,yB,zf,vB (by omega),zx,zM,zb,zp h2,zf,jQ,zb];refine ih _ ⟨i+1+1,by omega,by omega,?_⟩ (by show c-(((i+1:Nat):Int)+1).toNat<c-((i+1:Nat):Int).toNat;omega);refine xeJ rfl (ym fun m hm=> ?_);unfold uK;by_cases e:m=i+1
   ·rw[iq e,zx,zM];omega
   ·rw[ir e];show(if m<k then ci a m else if m<i+1 then ci a k+1+((m:Int)-k)else ci a m)=_;by_cases e2:m<k
    ·rw[iq e2,iq e2]
    ·rw[ir e2,ir e2];by_cases e3:m<i+1
     ·rw[iq e3,zM]
     ·rw[ir e3,zx]
  ·rw[zx];obtain rfl:j=c:=by omega
   refine congrArg some (ym fun m hm=> ?_);by_cases e2:m<k
   ·rw[iq e2,iq e2]
   ·rw[ir e2,ir e2,iq hm]
 ·refine xeJ (by show(k:Int)+1=((k+1:Nat):Int);omega) ?_;show a.set k (ci a k+1)=_;conv=>lhs;rw[<-Et a,ha.ln]
  rw[jQ];refine ym fun m hm=> ?_;unfold uK;by_cases e:m=k
  ·rw[iq e,zx,zM,e];rw[show ci (zl c (ci a)) k=ci a k from qY hk];omega
  ·rw[ir e];by_cases e2:m<k
   ·rw[iq e2]
   ·rw[ir e2,zx]
theorem AR{X Y:Type}{c:Nat}{g:List Int->X->Option (List Int×(X⊕Y))}{x0:X}{Rej:List Int->Prop}{Acc:List Int->Y->Prop}(hk:1<=c)(hl:c<=N)(hN:N<=10)(he:c<=5)(hf:3000000<=fu)(hg: ∀a,gP N c a->(g a x0=some (a,.inl x0)/\Rej a)\/ ∃y a',g a x0=some (a',.inr y)/\Acc a y):
 (wa fu (c:Int) (N:Int) g x0=some (.inl x0)/\ ∀a,gP N c a->Rej a)\/ ∃a y,gP N c a/\Acc a y/\wa fu (c:Int) (N:Int) g x0=some (.inr y):=by
 have h0:gP N c (zl c fun i=>(i:Int)):=⟨zF _ _,fun i hi=>by rw[qY hi];omega,fun i hi=>by rw[qY hi];omega,fun i hi=>by rw[qY (by omega),qY hi];omega⟩;have ha: ∀T,gP N c T-> ¬Lt (ci T) (ci (zl c fun i=>(i:Int))) c:=fun T hT ⟨j,j1,j2,_⟩=>by
  rw[qY j1]at j2;have:=hT.lo j j1;omega
 have hj:HG N (ci (zl c fun i=>(i:Int))) c<fu:=by
  have h1:=PW N (ci (zl c fun i=>(i:Int))) c;have h2:(N+1)^c<=11^5:=xao (Nat.pow_le_pow_left (by omega) c) (xaK (by decide) he);have h3:(11:Nat)^5=161051:=by decide
  omega
 obtain⟨r,hr,hQ⟩:=yA (f:=fun L (q:X×List Int)=>w5 fu (c:Int) (N:Int) g q.1 q.2 (fun x xs _ _ _ _ _=>L (x,xs)) (fun x _ _ _=>some (.inl x)) fun y _=>some (.inr y))
  (fun s:X×List Int=>s.1=x0/\gP N c s.2/\ ∀T,gP N c T->Lt (ci T) (ci s.2) c->Rej T) (fun s=>HG N (ci s.2) c) (fun r:X⊕Y=>(r= .inl x0/\ ∀a,gP N c a->Rej a)\/ ∃a y,gP N c a/\Acc a y/\r= .inr y) (by
  rintro⟨x,a⟩ L ⟨hx,hI,hR⟩ ih
  simp only at hx hI hR
  subst hx
  simp only
  unfold w5
  rcases hg a hI with⟨e,rj⟩|⟨y,a',e,ac⟩
  ·rw[za e]
   simp only[Sum.elim_inl]
   obtain⟨i,l1,l2,l3,l4,l5⟩:=AZ hI (by omega) hf
   rw[zb,za l1]
   by_cases hi:i<0
   ·rw[iq hi]
    refine⟨_,rfl,.inl ⟨rfl,fun T hT=> ?_⟩⟩
    rcases mm (ci T) (ci a) c with h|h|h
    ·rw[hT.ext hI h];exact rj
    ·exact hR T hT h
    ·exfalso
     obtain⟨j,j1,j2,_⟩:=h
     have:=l4 j (by omega) j1
     have:=hT.hi j j1
     omega
   ·obtain⟨k,rfl⟩:=xaB (show 0<=i by omega)
    have hn:=hI.ln
    have h5:=l5 k rfl
    have ho:=hI.lo k (by omega)
    rw[ir hi,yB,zf,Zg,zb,yB,zf,zb,za (Ev hI (by omega) (by omega) h5 hf)]
    refine ih _ ⟨rfl,hI.next (by omega) h5,fun T hT hb=> ?_⟩ ?_
    ·rcases mm (ci T) (ci a) c with h|h|h
     ·rw[hT.ext hI h];exact rj
     ·exact hR T hT h
     ·exfalso
      simp only at hb
      rcases zgw (k:=k) hT (by omega) (fun i hi hc=>l4 i (by omega) hc) h with h6|h6
      ·obtain⟨j,j1,j2,_⟩:=hb
       rw[h6 j j1]at j2
       omega
      ·exact hb.asy h6
    ·obtain⟨d,hd⟩: ∃d,c=k+1+d:=⟨c-k-1,by omega⟩
     have:=OV (N:=N) (f:=ci (nxA c k a)) (g:=ci a) (j:=k) (fun m hm=>by rw[VF (by omega),iq hm]) (by omega) (by rw[VF (by omega),zx];omega) (by rw[VF (by omega),zx];omega) d
     rw[<-hd]at this
     exact this
  ·rw[za e]
   simp only[Sum.elim_inr]
   exact⟨_,rfl,.inr ⟨a,y,hI,ac,rfl⟩⟩) fu (x0,zl c fun i=>(i:Int)) ⟨rfl,h0,fun T hT h=>absurd h (ha T hT)⟩ hj
 have hM:wa fu (c:Int) (N:Int) g x0=some r:=by
  unfold wa;rw[yN,yF,zf,Je,za (rZ (by omega) hf)];exact hr
 rw[hM];rcases hQ with⟨rfl,h⟩|⟨a,y,h1,h2,rfl⟩
 ·exact .inl ⟨rfl,h⟩
 ·exact .inr ⟨a,y,h1,h2,rfl⟩
end
section
variable{a:List Int}{m x:Int}{xs:List Lx}{i fu:Nat}
theorem za7{a:List Zr}(h: ¬m<=0):Nw a m=(wj a m,0):=by unfold Nw;rw[ir h]
theorem eR(a:List Zr):(vg a).natAbs=ZC (cf a) (yq a).length:=by
 unfold vg;split
 ·rw[Int.natAbs_neg,xbc]
 ·exact xbc _
theorem VV(a:List Zr):pc (vg a)*(cf (vh a):Pz)=cf a:=funext fun k=>by
 rw[zQ,YE];exact Int.mul_ediv_cancel' (Uc a k)
theorem Qf{a:List Zr}(h:(yq a).length≠0):Pm (cf (vh a))/\Po (cf (vh a)):=by
 have h0:=mV h;have hm:=VV a;constructor
 ·intro d hd;have h1:(vg a).natAbs*d∣ZC (cf a) (yq a).length:=A8 _ fun k _=>by
   have h2:=congrFun hm k;rw[zQ]at h2;have h3:=xcl.2 (xfJ (xdN (vg a)) (hd k));rw[h2,xcr,xbc]at h3;exact h3
  rw[<-eR]at h1;have h5:(vg a).natAbs*d∣(vg a).natAbs*1:=by rw[xcD];exact h1
  exact Nat.dvd_one.1 (Nat.dvd_of_mul_dvd_mul_left (by omega) h5)
 ·have ht:=WY h;refine⟨(yq a).length-1,?_,fun k hk=>by rw[YE,ht.2 k hk,xfC]⟩;have h2:=congrFun hm ((yq a).length-1);rw[zQ]at h2;have h3:=ht.1;obtain⟨x,hx⟩: ∃x,x=cf (vh a) ((yq a).length-1):=⟨_,rfl⟩;rw[<-hx]at h2⊢;have hg:(0:Int)<(ZC (cf a) (yq a).length:Nat):=by
   have:=eR a;omega
  have hc:vg a=if cf (yq a) ((yq a).length-1)<0 then-((ZC (cf a) (yq a).length:Nat):Int)else((ZC (cf a) (yq a).length:Nat):Int):=rfl;rw[uq]at hc;by_cases hn:cf a ((yq a).length-1)<0
  ·rw[iq hn]at hc;refine xaf fun ha=> ?_;have:=Int.mul_nonneg_of_nonpos_of_nonpos (show vg a<=0 by omega) (show x<=0 by omega);omega
  ·rw[ir hn]at hc;refine xaf fun ha=> ?_;have:=Int.mul_nonpos_of_nonneg_of_nonpos (show 0<=vg a by omega) (show x<=0 by omega);omega
theorem We(a:List Zr):yq (vh a)=vh a:=(X9 _ _).symm
theorem TR(a:List Zr)(hm:0<m)(k:Nat):cf (a6 a m) k=near (cf a k) m:=jj (fun j hj=>by
 rw[yb hj];unfold near;rw[xag,zx]) k
theorem PB(x:Int):near x m % m=x % m:=by
 unfold near;split
 ·rw[Int.sub_emod_right,xaC]
 ·exact xaC _ _
theorem zck{y:Int}(h:x % m=y % m)(hb:2*y.natAbs<m):near x m=y:=by
 unfold near;rw[h];by_cases hy:0<=y
 ·rw[xaz hy (by omega),zx]
 ·have e:y % m=y+m:=by
   rw[<-Int.add_emod_right];exact xaz (by omega) (by omega)
  rw[e,zM];omega
def tP(xs:List Lx)(a:List Int)(c:Nat):List Lx:=(xbb c).map fun i=>xs.getD (ci a i).toNat ([],[])
theorem O1(xs:List Lx)(a:List Int)(c:Nat):tP xs a (c+1)=tP xs a c++[xs.getD (ci a c).toNat ([],[])]:=by
 unfold tP;rw[xdC,xaN];rfl
theorem NV(a b:List Lx):pu (a++b)=pu a*pu b:=by
 unfold pu;rw[xaN,xK]
theorem Ej:(xs.map (·.1)).getD i []=(xs.getD i ([],[])).1:=by
 rw[UV,UV,xaA];cases xs[i]? <;>rfl
theorem dM(h:i<xs.length):xs.getD i ([],[])∈xs:=by
 rw[UV,IR h];exact xbh h
theorem NQ{c k:Nat}{p:Int}{f:List Zr}(hp:wB p=true)(hg:1<=k)(hk:k<=1000)(hm: ∀x∈xs,Up p k x.1 x.2/\W9 p x.2/\x.2.length<=66)(hN:xs.length<=1000)(ha:gP xs.length c a)(hc:c<=5)(hn:xc 250 f)(hr:0<f.length)(ht:f.length<=66)(hf:3000000<=fu):
 ∃t,qe fu f (xs.map (·.1)) a (yP (p^k))=some (vh (a6 t (p^k)),a)/\xc 250 t/\t.length<=1+c*66/\Cg (p^k) (cf t) (pc (cf f (f.length-1))*pu (tP xs a c)):=by
 obtain⟨p1,p2⟩:=zo hp;have hb:=e9 hp hk;have hu:=ae hp hg;have hd:gh (yP (p^k)):=hb.okS (by decide);have hv:=ha.ln
 obtain⟨s,hs,t,rfl,t1,t2,t3⟩:=yA (f:=jh fu (xs.map (·.1)) a (yP (p^k))) (fun s:List Zr×Int×List Int=> ∃(i:Nat) (t:List Zr),i<=c/\s=(t,(i:Int),a)/\xc 250 t/\t.length<=1+i*66/\Cg (p^k) (cf t) (pc (cf f (f.length-1))*pu (tP xs a i))) (fun s=>c-s.2.1.toNat)
  (fun r=> ∃t:List Zr,r=(t,a)/\xc 250 t/\t.length<=1+c*66/\Cg (p^k) (cf t) (pc (cf f (f.length-1))*pu (tP xs a c))) (by
  rintro s L ⟨i,t,hi,rfl,h1,h2,h3⟩ ih
  unfold jh
  simp only
  by_cases he:i<c
  ·have hw:=ha.lo i he
   have hx:=ha.hi i he
   obtain⟨j,hj⟩:=xaB (show 0<=ci a i by omega)
   have ho:=dM (xs:=xs) (i:=j) (by omega)
   obtain⟨hU,hI,hl⟩:=hm _ ho
   have hy:=hU.len
   rw[zM,za rfl]
   simp only[if_true]
   rw[yB,zf,Zg,hj,zp (by rw[xaM];omega),zf,Ej,za (gG h1 hU.rd.ok (by omega) (by omega) hd hf),zt,za7 (by omega)]
   simp only
   rw[zb]
   have l1:=Zp (yQ t (xs.getD j ([],[])).1) (p^k)
   have l2:=jz t (xs.getD j ([],[])).1
   refine ih _ ⟨i+1,_,by omega,rfl,Q2 hb (by omega),by omega,?_⟩ (by show c-((i:Int)+1).toNat<c-(i:Int).toNat;omega)
   refine(u9 _ _).trans ?_
   rw[q8,O1,NV,hj,xaR,<-zd]
   refine h3.mul (Cg.of ?_)
   exact(zY _).symm
  ·rw[zx,za rfl]
   simp only[xah,if_false]
   obtain rfl:i=c:=by omega
   exact⟨_,rfl,t,rfl,h1,h2,h3⟩) fu (f.drop (f.length-1),0,a) ⟨0,_,xaj _,rfl,fun z hz=>hn z (xeD hz),by rw[xbO];omega,by
   rw[sB (by omega)]
   refine Cg.of (funext fun j=> ?_)
   rw[show tP xs a 0=[]from rfl,show pu []=pc 1 from rfl,zY]
   cases j with
   |zero=>rfl
   |succ j=>exact yb (p:=[f.getD (f.length-1) (false,[])]) (by simp)⟩ (by show c-(0:Int).toNat<fu;omega)
 refine⟨t,?_,t1,t2,t3⟩;unfold qe;rw[show(f.length:Int)-1=((f.length-1:Nat):Int)by omega,zb,yN,yF,zf,za hs];simp only;have hq:xc 250 (a6 t (p^k)):=xg fun j=>Bz.near hb (by omega);have hA:(a6 t (p^k)).length<=t.length:=by unfold a6;rw[xz];exact qb _ _
 rw[za (ef t1 (by decide) hd (by omega) hf),zt];unfold HF;rw[zx];simp only;rw[za (vv hq (by decide) (by omega) hf)]
theorem E6(hl:a.length<=1000)(hf:3000000<=fu):xy fu a x=some (decide (x∈a),a):=by
 unfold xy vr;obtain⟨s,hs,hQ⟩:=yA (f:=wJ fu a x) (fun i:Int=>0<=i/\i<=a.length/\ ∀j:Nat,j<i->ci a j≠x) (fun i=>(a.length-i).toNat) (fun r:Unit⊕Int=>(r= .inl ()/\ ¬x∈a)\/ ∃i:Nat,r= .inr (i:Int)/\x∈a) (by
  rintro i L ⟨i1,i2,i3⟩ ih;obtain⟨k,rfl⟩:=xaB i1;unfold wJ;by_cases h1:k<a.length
  ·rw[zM,zp h1,zf,Zg];by_cases h2:x=ci a k
   ·rw[iq h2];refine⟨_,rfl,.inr ⟨k,rfl,?_⟩⟩;rw[h2,<-Zg,UV,IR h1];exact xbh h1
   ·rw[ir h2,zb];refine ih _ ⟨by omega,by omega,fun j hj=> ?_⟩ (by omega);by_cases e:j=k
    ·rw[e];exact fun h=>h2 h.symm
    ·exact i3 j (by omega)
  ·rw[zx];refine⟨_,rfl,.inl ⟨rfl,fun hx=> ?_⟩⟩;obtain⟨j,hj,e⟩:=xdx.1 hx;refine i3 j (by omega) ?_;rw[<-Zg,UV,IR hj];exact e) fu 0 ⟨by omega,by omega,fun j hj=>by omega⟩ (by omega)
 rw[hs];rcases hQ with⟨rfl,h⟩|⟨i,rfl,h⟩
 ·rw[decide_eq_false h];rfl
 ·rw[decide_eq_true h];show(if(0:Int)<=(i:Int)then some (true,a)else some (false,a))=some (true,a);rw[zM]
theorem Cn{us:List (List Zr)}(hl:us.length<=1000)(ha:a.length<=1000)(hf:3000000<=fu):
 xi fu us a=some (((xbb us.length).filter fun i:Nat=> !decide ((i:Int)∈a)).map fun i=>us.getD i [],a):=by
 unfold xi;rw[za (v:=(((xbb us.length).filter fun i:Nat=> !decide ((i:Int)∈a)).map fun i=>us.getD i [],a))];refine zC (fun s:List (List Zr)×Int×List Int=> ∃j:Nat,j<=us.length/\s=(((xbb j).filter fun i:Nat=> !decide ((i:Int)∈a)).map fun i=>us.getD i [],(j:Int),a)) (fun s=>us.length-s.2.1.toNat) _ ?_ _ _ ⟨0,xaj _,rfl⟩ (by show us.length-0<fu;omega);rintro s L ⟨j,hj,rfl⟩ ih;unfold jw;simp only;by_cases h1:j<us.length
 ·rw[zM,za rfl];simp only[if_true];rw[zp h1,zf,za (E6 ha hf)];simp only;have hb:((xbb j).filter fun i:Nat=> !decide ((i:Int)∈a)).length<=j:=xao (xfw _ _) (by rw[xcx];exact xac j);by_cases h2:(j:Int)∈a
  ·rw[decide_eq_true h2,ir (by decide),zb];refine ih _ ⟨j+1,by omega,?_⟩ (by show us.length-((j:Int)+1).toNat<us.length-(j:Int).toNat;omega);rw[xdC,List.filter_append,xfc (by rw[decide_eq_true h2];decide),List.filter_nil,xbK];rfl
  ·rw[decide_eq_false h2,iq (by decide),qZ (by rw[xaM];simp only[xav,xcq];omega),zf,zb];refine ih _ ⟨j+1,by omega,?_⟩ (by show us.length-((j:Int)+1).toNat<us.length-(j:Int).toNat;omega);rw[xdC,List.filter_append,xfb (by rw[decide_eq_false h2];decide),List.filter_nil,xaN];rfl
 ·rw[zx,za rfl];simp only[xah,if_false];obtain rfl:j=us.length:=by omega
  rfl
end
section
variable{M p:Int}{f q g f0:Pz}{k i fu:Nat}{xs:List Lx}{a:List Int}
def Bdz(M:Int)(f:Pz):Prop:= ∀(u v:Pz) (b:Nat),Fs u->Tp v b->f=u*v-> ∀j,2*((v b*u j).natAbs:Int)<M
theorem Bdz.dv(h:Bdz M f)(ng:Nz g)(fg:Fs g)(e:f=q*g):Bdz M q:=fun u v b fu hv e2 j=>by
 obtain⟨a,ha⟩:=Tp.ex fg ng;have h1:=h u (v*g) (b+a) fu (hv.mul ha) (by rw[e,e2,zd]) j;rw[VP hv.2 ha.2]at h1;have h2:(v b*u j).natAbs<=(v b*g a*u j).natAbs:=by
  rw[Int.mul_right_comm,xcr (v b*u j)];exact xck _ (by have:=ha.1;omega)
 omega
theorem zhA{K:Nat}(h:Bdz M f)(ng:Nz g)(fg:Fs g)(fq:Fs q)(e:f=q*g)(hM:Bz K M)(k:Nat):Bz K (q k):=by
 obtain⟨a,ha⟩:=Tp.ex fg ng;have h1:=h q g a fq ha e k;have h2:(q k).natAbs<=(g a*q k).natAbs:=by
  rw[xcr];exact xdk _ (by have:=ha.1;omega)
 exact hM.le (by omega)
structure Gd(g:List Zr):Prop where
 can:yq g=g
 ir:Ir (cf g)
 ps:Po (cf g)
 ok:xc 250 g
 ln:g.length<=11
structure Ch(p:Int)(k:Nat)(f0:Pz)(F:List Zr)(xs:List Lx)(out:List (List Zr))(c:Nat):Prop where
 lc:Lc p k (cf F) (F.length-1) xs
 k2:k<=1000
 can:yq F=F
 ok:xc 250 F
 ln:F.length<=11
 bd:Bdz (p^k) (cf F)
 ls:Ls p (cf F) xs c
 ct:xs.length+out.length<=10
 pr:f0=prZ (out.map fun g=>(cf g:Pz))*cf F
 gd: ∀g∈out,Gd g
theorem Ch.l0{c:Nat}{F:List Zr}{out:List (List Zr)}(h:Ch p k f0 F xs out c):0<F.length:=by
 have h1:=h.lc.tp.1;by_cases e:F.length=0
 ·exact absurd (yb (by omega)) h1
 ·omega
theorem zeC(p1:2<=p)(ha: ∀x∈xs,W9 p x.2)(XU:xs.Pairwise fun a b=>qD p (ci a.2) (ci b.2)){j:Nat}(hi:i<xs.length)(hj:j<xs.length)(h:xs.getD i ([],[])=xs.getD j ([],[])):i=j:=by
 have key: ∀i j,i<j->(hj:j<xs.length)->xs.getD i ([],[])=xs.getD j ([],[])->False:=fun i j hb hj h=>by
  have h1:=xcz.1 XU i j (by omega) hj hb;rw[UV,UV,IR hj,IR (show i<xs.length by omega),xdH,xdH]at h;rw[h]at h1;exact(ha _ (xbh hj)).self p1 h1
 by_cases c1:i<j
 ·exact absurd h fun h=>key i j c1 hj h
 ·by_cases c2:j<i
  ·exact absurd h.symm fun h=>key j i c2 hi h
  ·omega
theorem TP(p1:2<=p)(ha: ∀x∈xs,W9 p x.2)(XU:xs.Pairwise fun a b=>qD p (ci a.2) (ci b.2)):xs.Nodup:=by
 refine xcz.2 fun i j hi hj hb h=> ?_;have h1:=xcz.1 XU i j hi hj hb;rw[h]at h1;exact(ha _ (xbh hj)).self p1 h1
theorem GK{α:Type}(d:α)(xs:List α):xs=(xbb xs.length).map fun i=>xs.getD i d:=by
 refine xeI (by simp) fun i h1 h2=> ?_;rw[xfy,List.getElem_range,UV,IR h1];rfl
theorem LF{c:Nat}(ha:gP xs.length c a): ∀x∈tP xs a c,x∈xs:=fun x hx=>by
 obtain⟨j,hj,rfl⟩:=xal.1 hx;have hj:=xaQ.1 hj;have h1:=ha.hi j hj;have h2:=ha.lo j hj;exact dM (by omega)
theorem zea{c:Nat}(p1:2<=p)(hb: ∀x∈xs,W9 p x.2)(XU:xs.Pairwise fun a b=>qD p (ci a.2) (ci b.2))(ha:gP xs.length c a)(hi:i<xs.length):xs.getD i ([],[])∈tP xs a c↔(i:Int)∈a:=by
 have hc:=ha.ln;constructor
 ·intro h;obtain⟨j,hj,e⟩:=xal.1 h;have hj:=xaQ.1 hj;have h1:=ha.hi j hj;have h2:=ha.lo j hj;have e2:=zeC p1 hb XU (by omega) hi e;have e3:(i:Int)=ci a j:=by omega
  rw[e3,<-Zg,UV,IR (by omega)];exact xbh _
 ·intro h;obtain⟨j,hj,e⟩:=xdx.1 h;have e2:ci a j=(i:Int):=by
   rw[<-Zg,UV,IR hj];exact e
  exact xal.2 ⟨j,xaQ.2 (by omega),by rw[e2];rfl⟩
theorem Mm{α:Type}(P:α->Bool): ∀l:List α,(l.filter P).length+(l.filter fun x=> !P x).length=l.length
 |[]=>rfl
 |x::l=>by
  have ih:=Mm P l;rw[xdh,xdh];cases h:P x<;>simp[h]<;>omega
theorem Iq{c:Nat}{F:List Zr}{out:List (List Zr)}(h:Ch p k f0 F xs out c)(hF:1<=c)(hH:c<=5)(ha:gP xs.length c a)(hf:3000000<=fu):
 (vu fu (yP (p^k)) a (F,xs.map (·.1),out)=some (a,.inl (F,xs.map (·.1),out))/\ ∀u v,Fs u->Fs v->cf F=u*v-> ¬fK u->own p u xs≠tP xs a c)\/
 ∃y a',vu fu (yP (p^k)) a (F,xs.map (·.1),out)=some (a',.inr y)/\ ∃F' xs' out',y=(F',xs'.map (·.1),out')/\Ch p k f0 F' xs' out' c/\xs'.length<xs.length:=by
 have hL:=h.lc;have hp:=hL.hp;obtain⟨p1,p2⟩:=zo hp;have hv:=e9 hp h.k2;have hY:=ae hp hL.k1;have hI:=h.l0;have hZ:=h.ln;have h0:=h.ct;have hz:=fun x hx=>(hL.el x hx).2.1;obtain⟨t,t1,t2,t3,t4⟩:=NQ (fu:=fu) hp hL.k1 h.k2 hL.el (by omega) ha hH h.ok hI (by omega) hf;obtain⟨G,hG⟩: ∃G,G=a6 t (p^k):=⟨_,rfl⟩;rw[<-hG]at t1;have hA: ∀j,cf G j=near (cf t j) (p^k):=fun j=>by rw[hG];exact TR t (by omega) j
 have hJ:Cg (p^k) (cf G) (pc (cf F (F.length-1))*pu (tP xs a c)):=Cg.trans (fun j=>by rw[hA];exact PB _) t4;have hK:xc 250 G:=by rw[hG];exact xg fun j=>Bz.near hv (by omega)
 have h8:G.length<=400:=by
  have:(a6 t (p^k)).length<=t.length:=by unfold a6;rw[xz];exact qb _ _
  rw[hG];omega
 have hk:=Tx hK;have hM:=ZO G;have h9:=Vo G;have hm:=VV G;have hn:=We G;obtain⟨g,hg⟩: ∃g,g=vh G:=⟨_,rfl⟩;rw[<-hg]at t1 hk hM hm hn;have exact_: ∀u v,Fs u->Fs v->cf F=u*v->own p u xs=tP xs a c-> ∃b,Tp v b/\(cf G:Pz)=pc (v b)*u:=fun u v fu' fv e ho=>by
  obtain⟨nu,nv⟩:=ZX hL.tp.nz e;obtain⟨d,hd⟩:=Tp.ex fu' nu;obtain⟨b,hb⟩:=Tp.ex fv nv;refine⟨b,hb,funext fun j=> ?_⟩;have h1:=hL.up hd hb e;have hN:d+b=F.length-1:=by
   have:=hd.mul hb;rw[<-e]at this;exact this.uniq hL.tp
  have hO:cf F (F.length-1)=u d*v b:=by rw[<-hN,e,VP hd.2 hb.2]
  rw[hA,zQ];refine zck ?_ ?_
  ·have h2:Cg (p^k) (cf t) (pc (v b)*u):=by
    refine t4.trans ?_;rw[hO,<-ho,xbi,<-jX,zd];exact Cg.rfl.mul h1.symm
   rw[h2 j,zQ]
  ·exact h.bd u v b fu' hb e j
 have reject: ¬(Zd (cf g) (cf F)/\1<g.length)-> ∀u v,Fs u->Fs v->cf F=u*v-> ¬fK u->own p u xs≠tP xs a c:=fun hP u v fu' fv e nc ho=>by
  obtain⟨b,hb,he⟩:=exact_ u v fu' fv e ho;obtain⟨nu,_⟩:=ZX hL.tp.nz e;have hq:(yq G).length≠0:=fun e0=>by
   obtain⟨j,hj⟩:=nu;have:=Yw e0 j;rw[he,zQ]at this;exact(xew hb.1 hj) this
  obtain⟨q1,q2⟩:=Qf hq;rw[<-hg]at q1 q2;have z1:Zd (cf g) (cf G):=⟨pc (vg G),Fs.pc _,hm.symm⟩;rw[he]at z1;have z2:=Zd.pm (Fs.cf g) q1 hb.1 z1;refine hP ⟨z2.trans ⟨v,fv,by rw[e,zg]⟩,xaf fun hl=>nc fun j hj=> ?_⟩;have h3:cf G j=0:=by rw[<-hm,zQ,yb (by omega),xat]
  rw[he,zQ]at h3;rcases xev.1 h3 with h4|h4
  ·exact absurd h4 hb.1
  ·exact h4
 have hB: ∀{q:List Zr} {e:Int},wA fu F g=some (q,e)->vu fu (yP (p^k)) a (F,xs.map (·.1),out)=if e=0 then(if 1<(g.length:Int)then ck ((out.length+1)*24<=140737488355328)<|nm (out++[g]) fun pr=>bd (xi fu (xs.map (·.1)) a) fun w=>some (w.2,.inr (q,w.1,pr))else some (a,.inl (F,xs.map (·.1),out)))else some (a,.inl (F,xs.map (·.1),out)):=fun{q e} hd=>by
  unfold vu;simp only;rw[za t1];simp only;rw[za hd]
 by_cases hr:(yq g).length=0
 ·rw[hB (gN h.ok hk (by decide) (by decide) (by omega) (by omega) hr hf),ir (by decide)];refine .inl ⟨rfl,reject fun hh=> ?_⟩;rw[hn]at hr;omega
 ·obtain⟨q,e,d1,d2,d3⟩:=WB (fu:=fu) h.ok hk (by have:=xas (250+1) (show F.length+1<=12 by omega);omega) (by omega) (by omega) hr hf;rw[hB d1];by_cases he:e=0
  ·by_cases hQ:1<g.length
   ·right;obtain⟨e1,e2,e3⟩:=d3 he;have hq:(yq G).length≠0:=by omega
    obtain⟨q1,q2⟩:=Qf hq;rw[<-hg]at q1 q2;have hc:Tp (cf g) (g.length-1):=by
     have:=WY (a:=g) (by omega);rwa[hn]at this
    obtain⟨nq,ng⟩:=ZX hL.tp.nz e1;have hR:(yq q).length≠0:=fun e0=>by
     obtain⟨j,hj⟩:=nq;exact hj (Yw e0 j)
    have hs:Tp (cf q) (q.length-1):=by
     have:=WY hR;rwa[e2]at this
    have e1':(cf F:Pz)=cf g*cf q:=by rw[e1,zg]
    have ncg: ¬fK (cf g):=fun hC=>by
     have:=(fK.tp hc).1 hC;omega
    have hD: ∀x∈xs,Di p (ci x.2) (cf g)↔x∈tP xs a c:=fun x hx=>hL.pick (LF ha) hc hs e1' (γ:=vg G) (by
     rw[hm];exact(hJ.down (qQ hL.k1)).trans (Cg.rfl.mul (Ed fun y hy=>hL.el y (LF ha y hy)))) hx
    have hS:=TP p1 hz hL.pw;have hV:(own p (cf g) xs).length<=c:=by
     classical
     have h1:(own p (cf g) xs).Nodup:=by unfold own;exact hS.sublist List.filter_sublist
     have h2:=KM h1 (us:=tP xs a c) fun x hx=>(hD x (Q5.1 hx).1).1 (Q5.1 hx).2;have h3:(tP xs a c).length=c:=by unfold tP;simp
     omega
    have hT:=h.ls (cf g) (cf q) (Fs.cf g) (Fs.cf q) e1' ncg;have hE:=Ls.ir hL h.ls hF (Fs.cf g) (Fs.cf q) e1' q1 ncg (by omega);have ht:0<cf g (g.length-1):=by
     obtain⟨m,m1,m2⟩:=q2.tp;have:=m1.uniq hc;rw[<-this];exact m2
    have hu:=hL.step hc hs ht e1;have hW:(own p (cf g) xs).length+(Db p (cf g) xs).length=xs.length:=by
     classical
     unfold own Db;exact Mm (fun x:Lx=>decide (Di p (ci x.2) (cf g))) xs
    have hX:0<p^k:=by omega
    have hw:(((xbb (xs.map (·.1)).length).filter fun i:Nat=> !decide ((i:Int)∈a)).map fun i=>(xs.map (·.1)).getD i [])=(Db p (cf g) xs).map (·.1):=by
     classical
     have e4:Db p (cf g) xs=((xbb xs.length).filter fun i:Nat=> !decide ((i:Int)∈a)).map fun i=>xs.getD i ([],[]):=by
      unfold Db;conv=>lhs;rw[GK ([],[]) xs]
      rw[List.filter_map];refine congrArg _ (List.filter_congr fun i hi=> ?_);have hi:=xaQ.1 hi;show(!decide (Di p (ci (xs.getD i ([],[])).2) (cf g)))=_;have h5:=(hD _ (dM hi)).trans (zea p1 hz hL.pw ha hi);by_cases h6:(i:Int)∈a
      ·rw[decide_eq_true h6,decide_eq_true (h5.2 h6)]
      ·rw[decide_eq_false h6,decide_eq_false fun h7=>h6 (h5.1 h7)]
     rw[e4,xcM,xaM];refine xbL fun i _=> ?_;exact Ej
    have h':=ha.ln;refine⟨(q,(Db p (cf g) xs).map (·.1),out++[g]),a,?_,q,Db p (cf g) xs,out++[g],rfl,?_,by omega⟩
    ·rw[iq he,zM,yF,zf,za (Cn (by rw[xaM];omega) (by omega) hf),hw]
    ·have hU: ∀j,Bz 250 (cf q j):=zhA h.bd ng (Fs.cf g) (Fs.cf q) e1 hv;refine⟨hu,h.k2,e2,by rw[<-e2];exact xg hU,by omega,h.bd.dv ng (Fs.cf g) e1,h.ls.step hL (Fs.cf g) (Fs.cf q) e1,?_,?_,fun x hx=> ?_⟩
     ·rw[xau,List.length_singleton];omega
     ·rw[xaN,xK,h.pr,e1'];show prZ _*(cf g*cf q)=prZ _*(cf g*pc 1)*cf q;rw[zY,zd]
     ·rcases xaa.1 hx with hx|hx
      ·exact h.gd x hx
      ·obtain rfl:=xai.1 hx;have:x.length<=11:=by
        have:=(hc.mul hs).uniq (by rw[<-e1'];exact hL.tp);omega
       exact⟨hn,hE,q2,hk,this⟩
   ·rw[iq he,zx];exact .inl ⟨rfl,reject fun hh=>hQ hh.2⟩
  ·rw[ir he];exact .inl ⟨rfl,reject fun hh=>he (d2.2 hh.1)⟩
theorem zeA{is:List (Fin xs.length)}(hp:is.Pairwise (· < ·)):gP xs.length is.length (is.map fun i=>(i.val:Int))/\tP xs (is.map fun i=>(i.val:Int)) is.length=is.map (xs[·]):=by
 have ha: ∀j (hj:j<is.length),ci (is.map fun i=>(i.val:Int)) j=(is[j].val:Int):=fun j hj=>by
  rw[<-Zg,UV,xaA,IR hj];rfl
 have hb: ∀i j (hi:i<is.length) (hj:j<is.length),i<j->is[i].val<is[j].val:=fun i j hi hj hd=>xcz.1 hp i j hi hj hd;have hc: ∀d i (hi:i+d<is.length),is[i].val+d<=is[i+d].val:=fun d=>by
  induction d with
  |zero=>intro i hi;exact xac _
  |succ d ih=>
   intro i hi;have h1:=ih i (by omega);have h2:=hb (i+d) (i+(d+1)) (by omega) hi (by omega);omega
 refine⟨⟨by simp,fun i hi=> ?_,fun i hi=> ?_,fun i hi=> ?_⟩,?_⟩
 ·rw[ha i hi];have:=hc i 0 (by omega);simp only[xaS]at this;omega
 ·rw[ha i hi];have h1:=hc (is.length-1-i) i (by omega);have h2:=is[i+(is.length-1-i)].isLt;omega
 ·rw[ha i (by omega),ha (i+1) hi];have:=hb i (i+1) (by omega) hi (by omega);omega
 ·unfold tP;refine xeI (by simp) fun i h1 h2=> ?_;rw[xaM]at h2;rw[xfy,List.getElem_range,xfy,ha i h2,xaR,UV,IR is[i].isLt];rfl
theorem DJ{F:List Zr}(h0:Ch p k f0 F xs [] 1)(hf:3000000<=fu):
 ∃s,zj (fun L x=>kV fu (yP (p^k)) x L) fu (F,xs.map (·.1),[],1)=some s/\ ∃(F:List Zr) (xs:List Lx) (out:List (List Zr)) (c:Nat),s=(F,xs.map (·.1),out)/\Ch p k f0 F xs out c/\xs.length<2*c:=by
 exact yA (f:=fun L x=>kV fu (yP (p^k)) x L) (fun s:List Zr×List (List Zr)×List (List Zr)×Int=> ∃(F:List Zr) (xs:List Lx) (out:List (List Zr)) (c:Nat),s=(F,xs.map (·.1),out,(c:Int))/\Ch p k f0 F xs out c/\1<=c/\c<=6) (fun s=>s.2.1.length*20+(20-s.2.2.2.toNat))
  (fun r=> ∃(F:List Zr) (xs:List Lx) (out:List (List Zr)) (c:Nat),r=(F,xs.map (·.1),out)/\Ch p k f0 F xs out c/\xs.length<2*c) (by
  rintro s L ⟨F,xs,out,c,rfl,hC,hb,hg⟩ ih
  unfold kV
  simp only
  have hj:=hC.ct
  rw[zb,xaM]
  by_cases h2:2*c<=xs.length
  ·rw[zM]
   have hc:=fun a ha=>Iq (fu:=fu) (a:=a) hC hb (show c<=5 by omega) ha hf
   rcases AR (fu:=fu) (N:=xs.length) (c:=c) (g:=vu fu (yP (p^k))) (x0:=(F,xs.map (·.1),out)) (Rej:=fun a=> ∀u v,Fs u->Fs v->cf F=u*v-> ¬fK u->own p u xs≠tP xs a c) (Acc:=fun a y=> ∃F' xs' out',y=(F',xs'.map (·.1),out')/\Ch p k f0 F' xs' out' c/\xs'.length<xs.length) hb (by omega) (by omega) (by omega) hf hc with⟨e,hr⟩|⟨a,y,ha,⟨F',xs',out',rfl,hi,hk⟩,e⟩
   ·rw[za e]
    rw[Sum.elim_inl]
    simp only
    rw[zb]
    refine ih _ ⟨F,xs,out,c+1,by rw[show((c+1:Nat):Int)=(c:Int)+1 by omega],?_,by omega,by omega⟩ (by
     show(xs.map (·.1)).length*20+(20-((c:Int)+1).toNat)<(xs.map (·.1)).length*20+(20-(c:Int).toNat);omega)
    refine⟨hC.lc,hC.k2,hC.can,hC.ok,hC.ln,hC.bd,fun u v fu' fv e nc=> ?_,hC.ct,hC.pr,hC.gd⟩
    have h3:=hC.ls u v fu' fv e nc
    by_cases h4:(own p u xs).length=c
    ·exfalso
     have hd:(own p u xs).Sublist xs:=by unfold own;exact List.filter_sublist
     obtain⟨is,e5,e6⟩:=List.sublist_eq_map_getElem hd
     obtain⟨i1,i2⟩:=zeA e6
     have he:is.length=c:=by rw[<-h4,e5,xaM]
     rw[he]at i1 i2
     exact hr _ i1 u v fu' fv e nc (by rw[i2,e5])
    ·omega
   ·rw[za e]
    rw[Sum.elim_inr]
    refine ih _ ⟨F',xs',out',c,rfl,hi,hb,hg⟩ ?_
    show(xs'.map (·.1)).length*20+(20-(c:Int).toNat)<(xs.map (·.1)).length*20+(20-(c:Int).toNat)
    rw[xaM,xaM]
    omega
  ·rw[zx]
   exact⟨_,rfl,F,xs,out,c,rfl,hC,by omega⟩) fu (F,xs.map (·.1),[],1) ⟨F,xs,[],1,rfl,h0,by omega,by omega⟩ (by
   show(xs.map (·.1)).length*20+(20-(1:Int).toNat)<fu
   rw[xaM]
   have:=h0.ct
   omega)
theorem Dq{F:List Zr}(h0:Ch p k (cf F) F xs [] 1)(hf:3000000<=fu):
 ∃out,kM fu F (xs.map (·.1)) (yP (p^k))=some out/\out.length<=11/\(∀g∈out,Gd g)/\cf F=prZ (out.map fun g=>(cf g:Pz)):=by
 obtain⟨f0,hb⟩: ∃f0:Pz,f0=cf F:=⟨_,rfl⟩;rw[<-hb]at h0⊢;obtain⟨s,hs,F',xs',out',c',rfl,hC,hi⟩:=DJ h0 hf;unfold kM;rw[za hs];simp only;have hj:=hC.ct;have hl:=hC.l0;have hm:=hC.ln;have ha:=hC.lc.pm;by_cases h1:1<F'.length
 ·have hn:(yq F').length≠0:=by rw[hC.can];omega
  have hc:vg F'=1:=by
   have a1:=eR F';rw[hC.can]at a1;have a2:=(ha _ (bT fun k hk=>yb hk):ZC (cf F') F'.length=1);have a3:vg F'=if cf (yq F') ((yq F').length-1)<0 then-((ZC (cf F') (yq F').length:Nat):Int)else((ZC (cf F') (yq F').length:Nat):Int):=rfl;rw[hC.can,ir (by have:=hC.lc.ps;omega),a2]at a3;exact a3
  have hP:vh F'=F':=iZ (We F') hC.can fun k=>by rw[YE,hc,Int.ediv_one]
  have he:Ir (cf F'):=by
   have nc: ¬fK (cf F'):=fun h=>by have:=(fK.tp hC.lc.tp).1 h;omega
   have hc1:1<=c'\/c'=0:=by omega
   rcases hc1 with hc1|hc1
   ·refine Ls.ir hC.lc hC.ls hc1 (Fs.cf F') (Fs.pc 1) (zY _).symm ha nc ?_;have:(own p (cf F') xs').length<=xs'.length:=by unfold own;exact xfw _ _
    omega
   ·omega
  refine⟨out'++[F'],?_,by rw[xau,List.length_singleton];omega,fun g hg=> ?_,?_⟩
  ·rw[zM,za (vv hC.ok (by decide) (by omega) hf),hP,yF,zf]
  ·rcases xaa.1 hg with hg|hg
   ·exact hC.gd g hg
   ·obtain rfl:=xai.1 hg;exact⟨hC.can,he,⟨_,hC.lc.ps,hC.lc.tp.2⟩,hC.ok,hC.ln⟩
  ·rw[hC.pr,xaN,xK];show _=prZ _*(cf F'*pc 1);rw[zY]
 ·refine⟨out',by rw[zx],by omega,hC.gd,?_⟩;obtain⟨d,hd⟩:=((fK.tp hC.lc.tp).2 (by omega)).ex;rw[hd]at ha;have h3:=hC.lc.ps;have h4:cf F' (F'.length-1)=d:=by rw[hd,show F'.length-1=0 by omega];exact iq rfl
  rw[hC.pr,hd];rcases Gb ha with e|e
  ·rw[e,zY]
  ·omega
end
section
variable{a b K fu bx by_:Nat}{x y:Int}
def Bb(b:Nat)(x:Int):Prop:=x.natAbs<2^b
theorem Bb.mono(h:Bb a x)(ha:a<=b):Bb b x:=xap h (xaK (by decide) ha)
theorem Bb.mul(hx:Bb a x)(hy:Bb b y):Bb (a+b) (x*y):=by
 unfold Bb at*
 rw[xcr,xcd];by_cases h:y.natAbs=0
 ·rw[h,xdi];exact Nat.mul_pos (xbo (by decide)) (xbo (by decide))
 ·exact Nat.mul_lt_mul_of_lt_of_le hx (xds hy) (by omega)
theorem Bb.sub(hx:Bb b x)(hy:Bb b y):Bb (b+1) (x-y):=by
 unfold Bb at*
 rw[xbu];omega
theorem Bb.zero(b:Nat):Bb b 0:=xbo (by decide)
theorem Bb.bz(h:Bb b x)(hK:b<=64*K):Bz K x:=by
 unfold Bz;rw[show(18446744073709551616:Nat)=2^64 by decide,<-xdc];exact xap h (xaK (by decide) hK)
theorem Bz.bb(h:Bz K x):Bb (64*K) x:=by
 unfold Bz at h;unfold Bb;rwa[show(18446744073709551616:Nat)=2^64 by decide,<-xdc]at h
theorem Bb.le(hy:Bb b y)(h:x.natAbs<=y.natAbs):Bb b x:=xbe h hy
theorem Bb.pow{b:Nat}{x:Int}(h:Bb b x): ∀n,Bb (n*b+1) (x^n)
 |0=>by rw[xbs];unfold Bb;rw[xcI];decide
 |n+1=>by
  rw[xbk,xaV,xcm,Nat.add_right_comm];exact(Bb.pow h n).mul h
theorem Bb.pow'{b:Nat}{x y:Int}{c:Nat}(h:Bb b x)(hy:Bb c y): ∀n,Bb (n*b+c) (x^n*y)
 |0=>by rw[xbs,xbY,xcI,xaS];exact hy
 |n+1=>by
  rw[xbk,Int.mul_right_comm,xaV,xcm,Nat.add_right_comm];exact(Bb.pow' h hy n).mul h
theorem gH{n:Nat}{a:Int}(hn:n<=65536)(hb: ∀d,d<=n->Bz K (a^d))(h1:Bz K a)(hK:K<=40000)(hf:3000000<=fu):XJ fu (yP a) (n:Int)=some (yP (a^n)):=by
 unfold XJ;rw[za (z7 (by decide) hf),za (v:=yP (a^n))];refine zC (fun s:Int×Zr=> ∃i:Nat,s=((i:Int),yP (a^i))/\i<=n) (fun s=>n-s.1.toNat) _ ?_ _ _ ⟨0,by rw[xbs];rfl,xaj _⟩ (by show n-0<fu;omega);rintro s L ⟨i,rfl,hi⟩ ih;unfold KO;simp only;by_cases h:i<n
 ·rw[zM,za (ye ((hb i hi).ok (by omega)) (h1.ok (by omega)) hf),zt,zt,zb,<-xbk];exact ih _ ⟨i+1,rfl,by omega⟩ (by show n-((i:Int)+1).toNat<n-(i:Int).toNat;omega)
 ·rw[zx];obtain rfl:i=n:=by omega
  rfl
structure PsI(x y:Pz)(l:Int)(ly n bx by_ k:Nat)(Q ρ:Pz):Prop where
 fq:Fs Q
 eq:pc (l^(n-k))*x=Q*y+ρ
 z: ∀j,k+(ly-1)<=j->ρ j=0
 b: ∀j,Bb (bx+(n-k)*(by_+1)) (ρ j)
theorem PsI.step{x y:Pz}{l:Int}{ly n k:Nat}{Q ρ:Pz}(h:PsI x y l ly n bx by_ (k+1) Q ρ)(hk:k+1<=n)(hy:Tp y (ly-1))(hl:y (ly-1)=l)(hb: ∀j,Bb by_ (y j)):
 PsI x y l ly n bx by_ k (pc l*Q+mono k (ρ (k+(ly-1)))) (fun j=>l*ρ j-ρ (k+(ly-1))*sh y k j):=by
 have e1:n-k=n-(k+1)+1:=by omega
 have ha:bx+(n-k)*(by_+1)=by_+(bx+(n-(k+1))*(by_+1))+1:=by rw[e1,xaV];omega
 refine⟨((Fs.pc l).mul h.fq).add ⟨k+1,fun j hj=>zx⟩,?_,fun j hj=> ?_,fun j=> ?_⟩
 ·rw[e1,xbk,xbi,<-jX,zd,h.eq,xB,yo,zd];funext j;rw[zI,zI,zI,YS,zQ l ρ];show _=_+_+(l*ρ j-ρ (k+(ly-1))*sh y k j);omega
 ·show l*ρ j-ρ (k+(ly-1))*sh y k j=0;unfold sh;rw[zM];by_cases e:j=k+(ly-1)
  ·rw[e,show k+(ly-1)-k=ly-1 by omega,hl,xbi];omega
  ·rw[h.z j (by omega),hy.2 _ (by omega)];omega
 ·rw[ha];refine Bb.sub ((show Bb by_ l by rw[<-hl];exact hb _).mul (h.b j)) ?_;rw[xdz by_];refine(h.b _).mul ?_;unfold sh;split
  ·exact hb _
  ·exact Bb.zero _
theorem zfm{n:Nat}{l:List Zr}(j:Nat):cf (xae n (false,[])++l) j=sh (cf l) n j:=by
 unfold sh;by_cases h:n<=j
 ·rw[iq h];unfold cf;rw[UV,xci (by rw[xaT];exact h),xaT,<-UV]
 ·rw[ir h];unfold cf;rw[UV,xbn (by rw[xaT];omega),xeV];rw[zM];rfl
theorem fF{x y:List Zr}(hx:yq x=x)(hy:yq y=y)(hl:y.length<=x.length)(hH:0<y.length)(hJ:x.length<=60)(bX: ∀j,Bb bx (cf x j))(bY: ∀j,Bb by_ (cf y j))(hT:bx+(x.length-y.length+1)*(by_+1)<=2400000)(hf:3000000<=fu):
 ∃q r c Q,Yo fu x y=some (q,r,0)/\yq r=r/\r.length<y.length/\c≠0/\Fs Q/\(pc c*cf x:Pz)=Q*cf y+cf r/\ ∀j,Bb (bx+(x.length-y.length+1)*(by_+1)) (cf r j):=by
 obtain⟨n,hn⟩: ∃n,n=x.length-y.length+1:=⟨_,rfl⟩;rw[<-hn]at hT⊢;obtain⟨T,hK⟩: ∃T,T=bx+n*(by_+1):=⟨_,rfl⟩;have ty:Tp (cf y) (y.length-1):=by
  have:=WY (a:=y) (by rw[hy];omega);rwa[hy]at this
 obtain⟨l,he⟩: ∃l,l=cf y (y.length-1):=⟨_,rfl⟩;have hb:l≠0:=by rw[he];exact ty.1
 have bl_:Bb by_ l:=by rw[he];exact bY _
 have hi: ∀d,d<=n->d*(by_+1)<=n*(by_+1):=fun d hd=>xas _ hd;have hm: ∀d:Nat,d*(by_+1)=d*by_+d:=fun d=>by rw[xbm,xcD]
 have hL:by_+1<=T:=by have:=hi 1 (by omega);rw[xcm]at this;omega
 have oX:xc 37500 x:=by rw[<-hx];exact xg fun j=>(bX j).bz (by omega)
 have oY:xc 37500 y:=by rw[<-hy];exact xg fun j=>(bY j).bz (by omega)
 have bpw: ∀d,d<=n->Bz 37501 (l^d):=fun d hd=>(Bb.pow bl_ d).bz (by have:=hi d hd;have:=hm d;omega);have bpx: ∀d,d<=n-> ∀z,Bb (bx+(n-d)*(by_+1)) z->Bb T (l^d*z):=fun d hd z hz=>(Bb.pow' bl_ hz d).mono (by
  have h1:=hm d;have h2:n*(by_+1)=d*(by_+1)+(n-d)*(by_+1):=by rw[<-xaV];congr 1;omega
  omega)
 have hA:y.getD (y.length-1) (false,[])=yP l:=by rw[he];exact DG (show y=qi y.length (cf y)from hy.symm) (by omega)
 obtain⟨r0,hg⟩: ∃r0,r0=qi x.length (fun j=>cf x j*l^n):=⟨_,rfl⟩;have hq: ∀j,cf r0 j=l^n*cf x j:=fun j=>by rw[hg,jj (fun j hj=>by rw[yb hj,xaU]),xbi]
 obtain⟨s,hs,r,q,rfl,ρ,Q,r1,r2,r3,r4⟩:=yA (f:=Y8 fu (yP l)) (fun s:List Zr×List Zr×Int×List Zr=> ∃(k:Nat) (r q:List Zr),s=(y,r,(k:Int)-1,q)/\k<=n/\yq r=r/\r.length<=x.length+60*(n-k)/\q.length=n/\xc 37500 q/\ ∃Q ρ,PsI (cf x) (cf y) l y.length n bx by_ k Q ρ/\ ∀j,cf r j=l^k*ρ j) (fun s=>(s.2.2.1+1).toNat)
  (fun t=> ∃(r q:List Zr),t=(r,q)/\ ∃ρ Q,yq r=r/\(q.length=n/\xc 37500 q)/\PsI (cf x) (cf y) l y.length n bx by_ 0 Q ρ/\ ∀j,cf r j=ρ j) (by
  rintro s L ⟨k,r,q,rfl,hk,hr,hM,ho,hp,Q,ρ,hI,hc⟩ ih
  unfold Y8
  simp only
  cases k with
  |zero=>
   rw[zx]
   exact⟨_,rfl,r,q,rfl,ρ,Q,hr,⟨ho,hp⟩,hI,fun j=>by rw[hc j,xbs,xbY]⟩
  |succ k=>
   have hG:60*(n-(k+1))+60=60*(n-k):=by omega
   have hN:60*(n-k)<=60*60:=xaJ _ (by omega)
   have ht:=hI.step hk ty he.symm bY
   have bR: ∀j,Bb T (cf r j):=fun j=>by rw[hc j];exact bpx (k+1) hk _ (hI.b j)
   have oR:xc 37500 r:=by rw[<-hr];exact xg fun j=>(bR j).bz (by omega)
   rw[show((k+1:Nat):Int)-1=(k:Int)by omega,zM,zb]
   by_cases hO:r.length<k+y.length
   ·have hB:ρ (k+(y.length-1))=0:=by
     have h1:=hc (k+(y.length-1));rw[yb (by omega)]at h1;rcases xev.1 h1.symm with h2|h2
     ·exact absurd h2 (Int.pow_ne_zero hb)
     ·exact h2
    rw[zM,zb]
    refine ih _ ⟨k,r,q,rfl,by omega,hr,by omega,ho,hp,_,_,ht,fun j=> ?_⟩ (by show((k:Int)-1+1).toNat<(((k+1:Nat):Int)-1+1).toNat;omega)
    show cf r j=l^k*(l*ρ j-ρ (k+(y.length-1))*sh (cf y) k j)
    rw[hB,xaU,xcB,hc j,xbk,xbG]
   ·have hC:r.length=k+y.length:=by
     by_cases e:r.length=k+y.length
     ·exact e
     ·exfalso;have h1:=uV (show r=qi r.length (cf r)from hr.symm) (by omega);rw[hc,hI.z _ (by omega),xat]at h1;exact h1 rfl
    obtain⟨w,hw⟩: ∃w,w=ρ (k+(y.length-1)):=⟨_,rfl⟩
    have hD:cf r (k+(y.length-1))=l^k*w*l:=by rw[hc,<-hw,xbk,Int.mul_right_comm]
    have bw:Bb T (l^k*w):=by
     refine bpx k (by omega) w ((hI.b _).mono ?_|>fun h=>by rw[hw];exact h);have:=hi (n-(k+1)) (by omega);have h3:(n-k)*(by_+1)=(n-(k+1))*(by_+1)+(by_+1):=by rw[show n-k=n-(k+1)+1 by omega,xaV,xcm]
     omega
    have bwy: ∀j,Bb T (cf y j*(l^k*w)):=fun j=>by
     have h1:Bb (by_+(k*by_+(bx+(n-(k+1))*(by_+1)))) (cf y j*(l^k*w)):=(bY j).mul (Bb.pow' bl_ (by rw[hw];exact hI.b _) k);refine h1.mono ?_;have h2:n*(by_+1)=(k+1)*(by_+1)+(n-(k+1))*(by_+1):=by rw[<-xaV];congr 1;omega
     have h3:=hm (k+1);rw[xaV k 1 by_,xcm]at h3;omega
    have hE:exE (l^k*w*l) l=0:=by unfold exE;rw[ir hb,iq (Int.mul_emod_left _ _)]
    have hX:exI (l^k*w*l) l=l^k*w:=by unfold exI;rw[ir hb,iq (Int.mul_emod_left _ _),Int.mul_ediv_cancel _ hb]
    rw[zx,zb,show(k:Int)+(y.length:Int)-1=((k+(y.length-1):Nat):Int)by omega,zb,yB,zf,za (Xe (oR.okS (by decide) _) ((bl_.bz (K:=37500) (by omega)).okS (by decide)) hf),Qh,zt,hD,hX,hE]
    simp only
    have hu:(q.set k (yP (l^k*w))).getD k (false,[])=yP (l^k*w):=by rw[UV,List.getElem?_set_self (by omega)];rfl
    rw[yB,zf,yN,yF,zf,zp (by rw[xcG];omega),zf,hu,za (qx (l:=37500) oY ⟨yS _,(bw.bz (K:=37500) (by omega)).len⟩ (by decide) (by omega) hf),zt]
    obtain⟨part,ha⟩: ∃part,part=qi y.length (fun j=>cf y j*(l^k*w)):=⟨_,rfl⟩
    have hF: ∀j,cf part j=cf y j*(l^k*w):=fun j=>by rw[ha,jj (fun j hj=>by rw[yb hj,xaU])]
    have hP:part.length<=y.length:=by rw[ha,xz];exact qb _ _
    have oPt:xc 37500 part:=by rw[ha];exact xg fun j=>(bwy j).bz (by omega)
    have oSum:xc 37500 (xae k (false,[])++part):=fun z hz=>by
     rcases xaa.1 hz with hz|hz
     ·rw[(List.mem_replicate.1 hz).2];exact⟨zm.nil,xaj _⟩
     ·exact oPt z hz
    rw[<-ha,qZ (by rw[xaT];omega),zf,za (jV oR oSum (by decide) (by omega) (by rw[xau,xaT];omega) hf),zb]
    refine ih _ ⟨k,_,_,rfl,by omega,(X9 _ _).symm,?_,by rw[xcG];exact ho,?_,_,_,ht,fun j=> ?_⟩ (by show((k:Int)-1+1).toNat<(((k+1:Nat):Int)-1+1).toNat;omega)
    ·have:=Qi r (xae k (false,[])++part)
     rw[xau,xaT]at this
     omega
    ·intro z hz
     rcases xeE hz with h1|h1
     ·exact hp z h1
     ·rw[h1];exact⟨yS _,(bw.bz (K:=37500) (by omega)).len⟩
    ·rw[MM,zfm,hc j]
     show l^(k+1)*ρ j-sh (cf part) k j=l^k*(l*ρ j-ρ (k+(y.length-1))*sh (cf y) k j)
     rw[<-hw]
     have e2:sh (cf part) k j=l^k*(w*sh (cf y) k j):=by
      unfold sh;split
      ·rw[hF,xbi,xbG]
      ·rw[xat,xat]
     rw[e2,xbk,Int.mul_sub,xbG]) fu (y,r0,(n:Int)-1,xae n (false,[])) ⟨n,r0,_,rfl,xac _,by rw[hg];exact(X9 _ _).symm,by rw[hg,xz];have:=qb (fun j=>cf x j*l^n) x.length;omega,xaT,fun z hz=>by rw[(List.mem_replicate.1 hz).2];exact⟨zm.nil,xaj _⟩,pc 0,cf x,⟨Fs.pc 0,by
    rw[xcU,xbs,zy,yc];exact funext fun j=>by rw[zI,zK,xcA],fun j hj=>yb (by omega),fun j=>by rw[xcU,xcI];exact bX j⟩,hq⟩ (by show((n:Int)-1+1).toNat<fu;omega)
 refine⟨qi q.length (cf q),r,l^n,Q,?_,r1,?_,Int.pow_ne_zero hb,r3.fq,?_,fun j=>by rw[r4 j];exact r3.b j⟩
 ·unfold Yo;have hv:max ((x.length:Int)-y.length+1) 0=(n:Int):=by omega
  rw[za (zA oX (by decide) (by omega) hf),za (zA oY (by decide) (by omega) hf),show qi x.length (cf x)=x from hx,show qi y.length (cf y)=y from hy,zx,zb,zb,zf,hv,show(y.length:Int)-1=((y.length-1:Nat):Int)by omega,zb,yB,zf,hA,za (gH (by omega) bpw ((bl_.bz (K:=37501) (by omega))) (by decide) hf),za (qx (l:=37501) oX ⟨yS _,(bpw n (xac _)).len⟩ (by decide) (by omega) hf),zt,<-hg,yN,yF,zf,zb,za hs];simp only;rw[za (zA r2.2 (by decide) (by omega) hf)]
 ·by_cases e:r.length=0
  ·omega
  ·have h1:=uV (show r=qi r.length (cf r)from r1.symm) e;by_cases h2:r.length<y.length
   ·exact h2
   ·rw[r4,r3.z _ (by omega)]at h1;exact absurd rfl h1
 ·have:=r3.eq;rw[Nat.sub_zero]at this;rw[this,show(cf r:Pz)=ρ from funext r4]
end
section
def fac:Nat->Int
 |0=>1
 |n+1=>((n+1:Nat):Int)*fac n
theorem uc: ∀n,0<fac n
 |0=>by decide
 |n+1=>Int.mul_pos (by omega) (uc n)
def ip(n:Nat)(f g:Pz):Int:=zU (n+1) fun s=>fac s*fac (n-s)*(f s*g s)
theorem uR(n:Nat)(f g:Pz):ip n f g=ip n g f:=zT fun s _=>by rw[xbi (f s)]
theorem Hi(n:Nat)(f g h:Pz):ip n (f+g) h=ip n f h+ip n g h:=by
 unfold ip;rw[<-Zb];exact zT fun s _=>by rw[zI,Int.add_mul,xeP]
theorem iF(n:Nat)(f g h:Pz):ip n h (f+g)=ip n h f+ip n h g:=by rw[uR,Hi,uR n f,uR n g]
theorem E5(n:Nat)(c:Int)(f h:Pz):ip n (pc c*f) h=c*ip n f h:=by
 unfold ip;rw[<-jA];exact zT fun s _=>by rw[zQ,xbG c (f s),Int.mul_left_comm]
theorem er(n:Nat)(c:Int)(f h:Pz):ip n h (pc c*f)=c*ip n h f:=by rw[uR,E5,uR]
theorem CD{f:Nat->Int}: ∀{n},(∀k,k<n->0<=f k)->0<=zU n f
 |0,_=>xfl 0
 |n+1,h=>Int.add_nonneg (CD fun k hk=>h k (by omega)) (h n (by omega))
theorem zdG(n:Nat)(f:Pz):0<=ip n f f:=CD fun s _=>xcy (xcy (xdB (uc _)) (xdB (uc _))) (ku _)
def xP:Pz:=mono 1 1
theorem zga(f:Pz):(xP*f) 0=0:=by
 unfold xP;rw[YS];rfl
theorem zgU(f:Pz)(k:Nat):(xP*f) (k+1)=f k:=by
 unfold xP;rw[YS];unfold sh;rw[zM,xbY];rfl
theorem adx(n:Nat)(f g:Pz):ip (n+1) (xP*f) g=ip n f (dvp g):=by
 unfold ip;rw[jE,zga,xaU,xat,xcA];refine zT fun s hs=> ?_;rw[zgU,show n+1-(s+1)=n-s by omega];show((s+1:Nat):Int)*fac s*fac (n-s)*(f s*g (s+1))=fac s*fac (n-s)*(f s*(((s+1:Nat):Int)*g (s+1)));grind
def dy(n:Nat)(f:Pz):Pz:=pc (n:Int)*f-xP*dvp f
theorem Dr(n:Nat)(f:Pz)(k:Nat):dy n f k=((n:Int)-k)*f k:=by
 unfold dy;rw[yC,zQ]
 cases k with
 |zero=>rw[zga];grind
 |succ k=>
  rw[zgU];show(n:Int)*f (k+1)-((k+1:Nat):Int)*f (k+1)=_;grind
theorem ady(n:Nat)(f g:Pz)(hf:f (n+1)=0):ip (n+1) f g=ip n f (dy (n+1) g):=by
 unfold ip;show zU (n+1) _+fac (n+1)*fac (n+1-(n+1))*(f (n+1)*g (n+1))=_;rw[hf,xaU,xat,xbx];refine zT fun s hs=> ?_;rw[Dr,show n+1-s=(n-s)+1 by omega];show fac s*(((n-s+1:Nat):Int)*fac (n-s))*(f s*g s)=_;have e:((n-s+1:Nat):Int)=((n+1:Nat):Int)-s:=by omega
 rw[e];grind
theorem eul(n:Nat)(f:Pz):pc (n:Int)*f=xP*dvp f+dy n f:=by
 unfold dy;funext k;rw[zI,yC];omega
theorem zeg(n m:Nat)(f g:Pz):dy (n+m) (f*g)=dy n f*g+f*dy m g:=by
 have h1:pc ((n+m:Nat):Int)*(f*g)=pc (n:Int)*f*g+f*(pc (m:Int)*g):=by
  rw[zw f,zd];funext k;rw[zI,zQ,zQ,zQ];grind
 have h2:xP*(dvp f*g+f*dvp g)=xP*dvp f*g+f*(xP*dvp g):=by rw[xB,zd,zw f]
 unfold dy;rw[Vv,h1,h2,w9,w7];funext k;simp only[zI,yC];omega
theorem zaP(n:Nat)(f:Pz):dvp (dy (n+1) f)=dy n (dvp f):=funext fun k=>by
 rw[Dr];show((k+1:Nat):Int)*dy (n+1) f (k+1)=((n:Int)-k)*(((k+1:Nat):Int)*f (k+1));rw[Dr];have e:((n+1:Nat):Int)-((k+1:Nat):Int)=(n:Int)-k:=by omega
 rw[e,Int.mul_left_comm]
def Dg(n:Nat)(f:Pz):Prop:= ∀k,n<k->f k=0
theorem Dg.dx{n:Nat}{f:Pz}(h:Dg (n+1) f):Dg n (dvp f):=fun k hk=>by
 show((k+1:Nat):Int)*f (k+1)=0;rw[h _ (by omega),xat]
theorem Dg.dy{n:Nat}{f:Pz}(h:Dg (n+1) f):Dg n (dy (n+1) f):=fun k hk=>by
 rw[Dr];by_cases e:k=n+1
 ·rw[e,xcV,xaU]
 ·rw[h k (by omega),xat]
theorem Dg.mul{n m:Nat}{f g:Pz}(hf:Dg n f)(hg:Dg m g):Dg (n+m) (f*g):=fun k hk=>qk (n:=n+1) (m:=m+1) (fun j hj=>hf j (by omega)) (fun j hj=>hg j (by omega)) (by omega)
theorem Dg.add{n:Nat}{f g:Pz}(hf:Dg n f)(hg:Dg n g):Dg n (f+g):=fun k hk=>by rw[zI,hf k hk,hg k hk];rfl
theorem Dg.num{f:Pz}(h:Dg 0 f):f=pc (f 0):=funext fun k=>by
 unfold pc;by_cases e:k=0
 ·rw[iq e,e]
 ·rw[ir e,h k (by omega)]
section
variable(a:Nat)(u:Pz)
theorem zdL{m b q0:Nat}{v p q:Pz}(hp:Dg (m+1) p)(hu:Dg a u)(e:b+q0=m+1+a):
 ((m+1:Nat):Int)*ip (m+1+a) (p*u) (v*q)=ip (m+a) (dvp p*u) (dvp v*q)+ip (m+a) (dy (m+1) p*u) (dy b v*q)+(ip (m+a) (dvp p*u) (v*dvp q)+ip (m+a) (dy (m+1) p*u) (v*dy q0 q)):=by
 rw[<-E5,<-zd,eul,yo,Hi,zd,show m+1+a=m+a+1 by omega,adx,ady _ _ _ (hp.dy.mul hu _ (by omega)),Vv,iF,show m+a+1=b+q0 by omega,zeg,iF];omega
def Fk:Nat->Nat->Nat->Pz->Pz->Pz->Int
 |0,pb,_,v,p,q=>ip (pb+a) (p*u) (v*q)
 |k+1,pb,qa,v,p,q=>Fk k (pb-1) (qa-1) v (dvp p) (dvp q)+Fk k (pb-1) (qa-1) v (dy pb p) (dy qa q)
theorem AF(hu:Dg a u): ∀(k:Nat) {m b q0:Nat} {v p q:Pz},k<=m->m<=q0->b+(q0+1)=m+1+a->Dg (m+1) p->
 ((m+1:Nat)-(k:Int))*Fk a u k (m+1) (q0+1) v p q=Fk a u k m (q0+1) (dvp v) (dvp p) q+Fk a u k m (q0+1) (dy b v) (dy (m+1) p) q+Fk a u (k+1) (m+1) (q0+1) v p q
 |0,m,b,q0,v,p,q,_,_,e,hp=>by
  have:=zdL a u (v:=v) (q:=q) hp hu e;show((m+1:Nat)-((0:Nat):Int))*ip (m+1+a) (p*u) (v*q)=ip (m+a) (dvp p*u) (dvp v*q)+ip (m+a) (dy (m+1) p*u) (dy b v*q)+(ip (m+a) (dvp p*u) (v*dvp q)+ip (m+a) (dy (m+1) p*u) (v*dy (q0+1) q));rw[<-this];congr 1
 |k+1,0,_,_,_,_,_,h,_,_,_=>by omega
 |k+1,m+1,b,0,_,_,_,_,h,_,_=>by omega
 |k+1,m+1,b,q0+1,v,p,q,h1,h2,e,hp=>by
  have i1:=AF hu k (m:=m) (b:=b) (q0:=q0) (v:=v) (p:=dvp p) (q:=dvp q) (by omega) (by omega) (by omega) hp.dx;have i2:=AF hu k (m:=m) (b:=b) (q0:=q0) (v:=v) (p:=dy (m+1+1) p) (q:=dy (q0+1+1) q) (by omega) (by omega) (by omega) hp.dy;rw[zaP]at i2;show((m+1+1:Nat)-((k+1:Nat):Int))*(Fk a u k (m+1) (q0+1) v (dvp p) (dvp q)+Fk a u k (m+1) (q0+1) v (dy (m+1+1) p) (dy (q0+1+1) q))=Fk a u k m (q0+1) (dvp v) (dvp (dvp p)) (dvp q)+Fk a u k m (q0+1) (dvp v) (dy (m+1) (dvp p)) (dy (q0+1+1) q)+(Fk a u k m (q0+1) (dy b v) (dvp (dy (m+1+1) p)) (dvp q)+Fk a u k m (q0+1) (dy b v) (dy (m+1) (dy (m+1+1) p)) (dy (q0+1+1) q))+(Fk a u (k+1) (m+1) (q0+1) v (dvp p) (dvp q)+Fk a u (k+1) (m+1) (q0+1) v (dy (m+1+1) p) (dy (q0+1+1) q));rw[zaP,show((m+1+1:Nat)-((k+1:Nat):Int))=((m+1:Nat)-(k:Int))by omega,xeP,i1,i2];omega
def pD:Nat->Nat->Pz->Pz->Pz
 |0,_,p,q=>p*q
 |k+1,qa,p,q=>pD k (qa-1) (dvp p) (dvp q)+pD k (qa-1) (dy (k+1) p) (dy qa q)
theorem S8: ∀(k:Nat) {qa:Nat} {v p q:Pz},Dg k p->Fk a u k k qa v p q=ip a u (v*pD k qa p q)
 |0,qa,v,p,q,h=>by
  show ip (0+a) (p*u) (v*q)=ip a u (v*(p*q));rw[h.num,xaS,E5,zw,er]
 |k+1,qa,v,p,q,h=>by
  show Fk a u k k (qa-1) v (dvp p) (dvp q)+Fk a u k k (qa-1) v (dy (k+1) p) (dy qa q)=ip a u (v*(pD k (qa-1) (dvp p) (dvp q)+pD k (qa-1) (dy (k+1) p) (dy qa q)));rw[S8 k h.dx,S8 k h.dy,xB,iF]
end
theorem OJ: ∀(k:Nat) {d:Nat} {p q:Pz},Dg k p->Dg (k+d) q->Dg d (pD k (k+d) p q)
 |0,d,p,q,hp,hq=>by
  have:=hp.mul hq;rw[xaS,xaS]at this;exact this
 |k+1,d,p,q,hp,hq=>by
  rw[show k+1+d=k+d+1 by omega]at hq⊢;show Dg d (pD k (k+d+1-1) (dvp p) (dvp q)+pD k (k+d+1-1) (dy (k+1) p) (dy (k+d+1) q));rw[xem];exact(OJ k hp.dx hq.dx).add (OJ k hp.dy hq.dy)
theorem Sw: ∀(k:Nat) {d:Nat} {p q g:Pz},Dg k p->Dg d g->fac k*ip (k+d) q (p*g)=ip d (pD k (k+d) p q) g
 |0,d,p,q,g,hp,hg=>by
  show 1*ip (0+d) q (p*g)=ip d (p*q) g;rw[hp.num,xbY,xaS,er,E5]
 |k+1,d,p,q,g,hp,hg=>by
  have i1:=Sw k (d:=d) (q:=dvp q) hp.dx hg;have i2:=Sw k (d:=d) (q:=dy (k+d+1) q) hp.dy hg;rw[show k+1+d=k+d+1 by omega];show((k+1:Nat):Int)*fac k*ip (k+d+1) q (p*g)=ip d (pD k (k+d+1-1) (dvp p) (dvp q)+pD k (k+d+1-1) (dy (k+1) p) (dy (k+d+1) q)) g;rw[xem,Hi,<-i1,<-i2,xbi _ (fac k),xbG,<-er,<-zd,eul,yo,iF,zd,uR _ q,adx,uR _ q,ady _ _ _ (hp.dy.mul hg _ (by omega)),xeP,uR _ (dvp q),uR _ (dy _ q)]
theorem EG{a:Nat}{u:Pz}(hu:Dg a u): ∀(b:Nat) {v:Pz},Dg b v->b<=a-> ∀(j k:Nat),k+j=b->0<=Fk a u k b a v v u
 |b,v,hv,hb,0,k,h=>by
  obtain rfl:k=b:=by omega
  obtain⟨d,rfl⟩: ∃d,a=k+d:=⟨a-k,by omega⟩;have h1:=Sw k (d:=d) (q:=u) (g:=pD k (k+d) v u) hv (OJ k hv hu);rw[S8 _ _ k hv];have h2:=zdG d (pD k (k+d) v u);rw[<-h1]at h2;exact Int.nonneg_of_mul_nonneg_right h2 (uc k)
 |0,v,hv,hb,j+1,k,h=>by omega
 |b+1,v,hv,hb,j+1,k,h=>by
  obtain⟨a',rfl⟩: ∃a',a=a'+1:=⟨a-1,by omega⟩;have h1:=AF (a'+1) u hu k (m:=b) (b:=b+1) (q0:=a') (v:=v) (p:=v) (q:=u) (by omega) (by omega) (by omega) hv;have h2:=EG hu b hv.dx (by omega) j k (by omega);have h3:=EG hu b hv.dy (by omega) j k (by omega);have h4:=EG hu (b+1) hv hb j (k+1) (by omega);have h5:0<=((b+1:Nat)-(k:Int))*Fk (a'+1) u k (b+1) (a'+1) v v u:=by rw[h1];omega
  exact Int.nonneg_of_mul_nonneg_right h5 (by omega)
theorem zhw{u:Pz}(h:Dg 0 u):dvp u=pc 0:=funext fun k=>by
 rw[zK];show((k+1:Nat):Int)*u (k+1)=0;rw[h _ (by omega),xat]
theorem ziD{u:Pz}(h:Dg 0 u):dy 0 u=pc 0:=funext fun k=>by
 rw[zK,Dr];by_cases e:k=0
 ·rw[e];exact xaU _
 ·rw[h k (by omega),xat]
theorem zht{a b:Nat}{u v:Pz}(hu:Dg a u)(hv:Dg (b+1) v):0<=ip (b+a) (dvp v*u) (v*dvp u)+ip (b+a) (dy (b+1) v*u) (v*dy a u):=by
 by_cases h:b+1<=a
 ·exact EG hu (b+1) hv h b 1 (by omega)
 ·cases a with
  |zero=>
   rw[zhw hu,ziD hu,zg v,er,er];omega
  |succ a=>
   have:=EG hv (a+1) hu (by omega) a 1 (by omega);have this:0<=ip (a+(b+1)) (dvp u*v) (u*dvp v)+ip (a+(b+1)) (dy (a+1) u*v) (u*dy (b+1) v):=this;rw[uR,uR _ (dy (a+1) u*v),zg u,zg (dvp u),zg u,zg (dy (a+1) u),show a+(b+1)=b+(a+1)by omega]at this;exact this
theorem zgj{a:Nat}{u:Pz}(hu:Dg a u): ∀(b:Nat) {v:Pz},Dg b v->fac b*(v b*v b)*ip a u u<=ip (b+a) (v*u) (v*u)
 |0,v,hv=>by
  rw[hv.num,E5,er,xaS];show 1*(pc (v 0) 0*pc (v 0) 0)*ip a u u<=v 0*(v 0*ip a u u);have e:pc (v 0) 0=v 0:=rfl;rw[e,xbY,xbG];exact xfl _
 |b+1,v,hv=>by
  have h1:=zdL a u (b:=b+1) (q0:=a) (v:=v) (q:=u) hv hu rfl;have h2:=zht hu hv;have h3:=zdG (b+a) (dy (b+1) v*u);have h4:=zgj hu b hv.dx;have e:dvp v b=((b+1:Nat):Int)*v (b+1):=rfl;rw[e]at h4;have h5:((b+1:Nat):Int)*(fac (b+1)*(v (b+1)*v (b+1))*ip a u u)=fac b*(((b+1:Nat):Int)*v (b+1)*(((b+1:Nat):Int)*v (b+1)))*ip a u u:=by
   show((b+1:Nat):Int)*(((b+1:Nat):Int)*fac b*(v (b+1)*v (b+1))*ip a u u)=_;generalize((b+1:Nat):Int)=x;generalize v (b+1)=y;generalize ip a u u=z;grind
  refine Int.le_of_mul_le_mul_left (a:=((b+1:Nat):Int)) ?_ (by omega);rw[h5,h1];omega
theorem iV: ∀(m n:Nat),fac (m+n)<=2^(m+n)*(fac m*fac n)
 |0,n=>by
  rw[xaS];show fac n<=2^n*(1*fac n);rw[xbY];have:=xbD (show(1:Int)<=2^n from Int.pow_pos (by decide)) (xdB (uc n));omega
 |m+1,0=>by
  show fac (m+1)<=2^(m+1)*(fac (m+1)*1);rw[xce];have:=xbD (show(1:Int)<=2^(m+1)from Int.pow_pos (by decide)) (xdB (uc (m+1)));omega
 |m+1,n+1=>by
  have i1:=xaW (iV m (n+1)) (show(0:Int)<=((m+1:Nat):Int)by omega);have i2:=xaW (iV (m+1) n) (show(0:Int)<=((n+1:Nat):Int)by omega);rw[show m+(n+1)=m+n+1 by omega]at i1;rw[show m+1+n=m+n+1 by omega]at i2;rw[show m+1+(n+1)=m+n+1+1 by omega];have e1:fac (m+n+1+1)=((m+1:Nat):Int)*fac (m+n+1)+((n+1:Nat):Int)*fac (m+n+1):=by
   show((m+n+1+1:Nat):Int)*fac (m+n+1)=_;rw[<-Int.add_mul];congr 1;omega
  have e2:(2:Int)^(m+n+1+1)*(fac (m+1)*fac (n+1))=((m+1:Nat):Int)*(2^(m+n+1)*(fac m*fac (n+1)))+((n+1:Nat):Int)*(2^(m+n+1)*(fac (m+1)*fac n)):=by
   rw[xbk];have f1:fac (m+1)=((m+1:Nat):Int)*fac m:=rfl;have f2:fac (n+1)=((n+1:Nat):Int)*fac n:=rfl;rw[f1,f2];generalize((m+1:Nat):Int)=x;generalize((n+1:Nat):Int)=y;generalize(2:Int)^(m+n+1)=z;grind
  rw[e1,e2];omega
theorem Sv: ∀(m n:Nat),fac m*fac n<=fac (m+n)
 |0,n=>by
  rw[xaS];show 1*fac n<=fac n;omega
 |m+1,n=>by
  rw[show m+1+n=m+n+1 by omega];show((m+1:Nat):Int)*fac m*fac n<=((m+n+1:Nat):Int)*fac (m+n);have h1:=Sv m n;have h2:=xaW h1 (show(0:Int)<=((m+1:Nat):Int)by omega);have h3:=xbD (show((m+1:Nat):Int)<=((m+n+1:Nat):Int)by omega) (xdB (uc (m+n)));rw[xbG];omega
theorem tT{f g:Nat->Int}: ∀{n},(∀k,k<n->f k<=g k)->zU n f<=zU n g
 |0,_=>xfl 0
 |n+1,h=>Int.add_le_add (tT fun k hk=>h k (by omega)) (h n (by omega))
theorem Eo{f:Nat->Int}{j:Nat}: ∀{n},(∀k,k<n->0<=f k)->j<n->f j<=zU n f
 |0,_,h=>absurd h (xbv _)
 |n+1,h,hj=>by
  have h1:=CD fun k (hk:k<n)=>h k (by omega);have h2:=h n (by omega);show f j<=zU n f+f n;by_cases e:j=n
  ·subst e;omega
  ·have:=Eo (fun k hk=>h k (by omega)) (show j<n by omega);omega
theorem mig{f u v:Pz}{a b:Nat}(hu:Tp u a)(hv:Tp v b)(e:f=u*v)(k:Nat):(v b*u k)*(v b*u k)<=4^(a+b)*dF f (a+b+1):=by
 have hS:=aB f (a+b+1);by_cases hk:k<=a
 ·have h1:=zgj (a:=a) (u:=u) hu.2 b (v:=v) hv.2;have h2:fac k*fac (a-k)*(u k*u k)<=ip a u u:=Eo (f:=fun s=>fac s*fac (a-s)*(u s*u s)) (fun s _=>xcy (xcy (xdB (uc _)) (xdB (uc _))) (ku _)) (by omega);have h3:ip (b+a) (v*u) (v*u)<=fac (b+a)*dF f (a+b+1):=by
   rw[zg,<-e,xdz b a];unfold ip dF;rw[<-jA];refine tT fun s hs=>xbD ?_ (ku _);have:=Sv s (a+b-s);rwa[show s+(a+b-s)=a+b by omega]at this
  have h4:=iV b a;have h5:=iV k (a-k);rw[show k+(a-k)=a by omega]at h5;have pb:=uc b;have pw:(0:Int)<2^(b+a):=Int.pow_pos (by decide);have hx:=Int.mul_pos (uc k) (uc (a-k));have ha:=ku (v b);generalize fac k*fac (a-k)=X at*
  have g1:=xaW h2 (show 0<=fac b*(v b*v b)from xcy (xdB pb) ha);have g2:=xbD h4 hS;have g3:=xaW h5 (show 0<=2^(b+a)*fac b from xcy (xdB pw) (xdB pb));have g4:=xbD g3 hS;have g5:fac b*X*((v b*u k)*(v b*u k))<=fac b*X*(2^(b+a)*2^a*dF f (a+b+1)):=by
   have e1:fac b*X*((v b*u k)*(v b*u k))=fac b*(v b*v b)*(X*(u k*u k)):=by grind
   have e2:fac b*X*(2^(b+a)*2^a*dF f (a+b+1))=2^(b+a)*fac b*(2^a*X)*dF f (a+b+1):=by grind
   have e3:2^(b+a)*(fac b*fac a)*dF f (a+b+1)=2^(b+a)*fac b*fac a*dF f (a+b+1):=by grind
   rw[e1,e2];omega
  have g6:=Int.le_of_mul_le_mul_left g5 (Int.mul_pos pb hx);refine Int.le_trans g6 (xbD ?_ hS);have e4:(4:Int)^(a+b)=2^(b+a)*2^(a+b):=by rw[show(4:Int)=2*2 by decide,Int.mul_pow,xdz b a]
  rw[e4];refine xaW ?_ (xdB pw);have:=xaK (n:=2) (by decide) (show a<=a+b by omega);have e5: ∀n:Nat,((2^n:Nat):Int)=(2:Int)^n:=fun n=>by simp
  rw[<-e5,<-e5];omega
 ·rw[hu.2 k (by omega),xat,xat];exact xcy (xfn (by decide)) hS
end
section
variable{fu m:Nat}{a:List Zr}{p g R q:Pz}
theorem PE{f:Pz}{M:Int}(h: ∀k,f k*f k<=M): ∀n:Nat,dF f n<=n*M
 |0=>by show(0:Int)<=((0:Nat):Int)*M;omega
 |n+1=>by
  show zU n (fun k=>f k*f k)+f n*f n<=_;have h1:zU n (fun k=>f k*f k)<=n*M:=PE h n;have h2:=h n;have e:((n+1:Nat):Int)*M=n*M+M:=by grind
  omega
theorem zeR{x y:Nat}(h:x*x<y*y):x<y:=by
 refine xaf fun hn=> ?_;have:=xbU (show y<=x by omega) (show y<=x by omega);omega
theorem C6{f u v:Pz}{n B:Nat}(hf:Tp f n)(fu:Fs u)(fv:Fs v)(e:f=u*v)(hn:n<=40)(hb: ∀k,Bb B (f k))(k:Nat):Bb (B+n+4) (u k):=by
 obtain⟨nu,nv⟩:=ZX hf.nz e;obtain⟨a,ha⟩:=Tp.ex fu nu;obtain⟨b,hc⟩:=Tp.ex fv nv;have he:a+b=n:=by
  have:=ha.mul hc;rw[<-e]at this;exact this.uniq hf
 have h1:=mig ha hc e k;have h2: ∀k,f k*f k<=(2^B:Int)*2^B:=fun k=>by
  have:=hb k;unfold Bb at this;have h3:(f k*f k)=(((f k).natAbs*(f k).natAbs:Nat):Int):=by
   rw[<-xcr];have:=ku (f k);omega
  rw[h3];have h4:=xbU (xds this) (xds this);have h5:((2:Int)^B*2^B)=((2^B*2^B:Nat):Int):=by simp
  omega
 have h3:=PE h2 (a+b+1);have h6:(u k).natAbs<=(v b*u k).natAbs:=by
  rw[xcr];exact xdk _ (by have:=hc.1;omega)
 refine xbe h6 (zeR ?_);have h7:((v b*u k).natAbs*(v b*u k).natAbs:Nat)=(v b*u k*(v b*u k)).natAbs:=(xcr _ _).symm;rw[h7];have h8:(v b*u k*(v b*u k)).natAbs<=4^(a+b)*((a+b+1)*(2^B*2^B)):=by
  have h9:(4:Int)^(a+b)*dF f (a+b+1)<=4^(a+b)*(((a+b+1:Nat):Int)*(2^B*2^B)):=xaW (by omega) (xfn (by decide));have hg:(4:Int)^(a+b)*(((a+b+1:Nat):Int)*(2^B*2^B))=((4^(a+b)*((a+b+1)*(2^B*2^B)):Nat):Int):=by simp
  have:=ku (v b*u k);omega
 refine xbe h8 ?_;have e1:(2:Nat)^(B+n+4)*2^(B+n+4)=4^n*(256*(2^B*2^B)):=by
  rw[show(4:Nat)=2^2 by decide,<-xdc,show(256:Nat)=2^8 by decide,<-xcd,<-xcd,<-xcd,<-xcd];congr 1;omega
 rw[e1];have hd:0<(2:Nat)^B*2^B:=Nat.mul_pos (xbo (by decide)) (xbo (by decide));rw[he];exact Nat.mul_lt_mul_of_pos_left (xbS (by omega) hd) (xbo (by decide))
theorem eV{K:Nat}(ha:xc K a)(hK:K+1<=100000)(hl:a.length<=1000)(hf:3000000<=fu):Yj fu a=some (qi (a.length-1) (dvp (cf a))):=by
 unfold Yj;have hc: ∀k:Nat,k<=1000->Bz 1 (k:Int):=fun k hk=>Bz.nat (by rw[Nat.pow_one];omega);rw[za (lk (g:=fun k=>if k<1000 then cf a k*(k:Int)else 0) (by omega) (by omega) fun j hj=> ?_)]
 ·have he:min (a.length:Int) 1=((min a.length 1:Nat):Int):=by omega
  rw[yL,zf,he,yN,yF,zf];have hd:(zi a.length fun k=>if k<1000 then cf a k*(k:Int)else 0).drop (min a.length 1)=zi (a.length-1) (dvp (cf a)):=by
   refine Fu (by rw[xbO,yL,yL];omega) fun j hj=> ?_;rw[xbO,yL]at hj;rw[Yt (by omega),UV,xel,<-UV,Yt (by omega),show min a.length 1+j=j+1 by omega,zM];show yP (cf a (j+1)*((j+1:Nat):Int))=yP (((j+1:Nat):Int)*cf a (j+1));rw[xbi]
  rw[hd,za (zA (k:=K+1) (VS fun j=> ?_) hK (by rw[yL];omega) hf),yL,lV];unfold dvp;by_cases hj:j+1<=1000
  ·rw[xbi];exact(ha.bz _).mul (hc _ hj)
  ·rw[yb (by omega),xat];exact Bz.zero _
 ·unfold Xi;have hb:=ha.get j;rw[za (z7 ⟨by omega,by omega⟩ hf),za (ye (fW.of hb (by omega)) ((hc j (by omega)).ok (by decide)) hf),zt,Qh,zM]
def VN:Nat->Nat
 |0=>1
 |1=>1
 |n+2=>2*VN (n+1)+VN n
theorem R5: ∀n,VN n<=VN (n+1)
 |0=>xac _
 |n+1=>by show _<=2*VN (n+1)+VN n;omega
theorem WO{i:Nat}: ∀d,VN i<=VN (i+d)
 |0=>xac _
 |d+1=>xao (WO d) (R5 _)
theorem EK(j:Nat): ∀t,VN j+(t+1+1)*VN (j+1)<=VN (j+1+(t+1))
 |0=>by show _<=2*VN (j+1)+VN j;omega
 |t+1=>by
  have ih:=EK j t;have h1:VN (j+1+(t+1+1))=2*VN (j+1+(t+1))+VN (j+1+t):=rfl;have e:(t+1+1+1)*VN (j+1)=(t+1+1)*VN (j+1)+VN (j+1):=by rw[xaV _ 1,xcm]
  have h2:VN (j+1)<=(t+1+1)*VN (j+1):=xdk _ (by omega);omega
theorem BR{d:Pz}(fd:Fs d)(pd:Pm d):Zd d (cf (vh a))↔Zd d (cf a):=by
 by_cases h:(yq a).length=0
 ·have h1:(cf a:Pz)=pc 0:=funext fun k=>by rw[Yw h k,zK]
  have h2:(cf (vh a):Pz)=pc 0:=funext fun k=>by rw[YE,Yw h k,xfC,zK]
  rw[h1,h2]
 ·have hm:=VV a;constructor
  ·intro hz;rw[<-hm];exact hz.mul _ (Fs.pc _)
  ·intro hz;rw[<-hm]at hz;exact Zd.pm fd pd (mV h) hz
theorem rk{C L:Nat}{b:List Zr}(ha:yq a=a)(hb:yq b=b)(hk:vg a=1)(ho:b.length<a.length)(hL:a.length=L)(hD:L<=60)(hC:C*VN (L-1)<=639000)(hp:C*VN L<=2400000){ca cb:Nat}(hy:ca+1<=C)(hA:cb+1<=C)(bA: ∀j,Bb ca (cf a j))(bB: ∀j,Bb cb (cf b j))(hf:3000000<=fu):
 ∃g,QK fu a b=some g/\yq g=g/\Pm (cf g)/\Po (cf g)/\g.length<=L/\ ∀d,Fs d->Pm d->(Zd d (cf g)↔Zd d (cf a)/\Zd d (cf b)):=by
 have hB:C<=C*VN (L-1):=xck _ (xap (show 0<VN 0 by decide) (by have h:=WO (i:=0) (L-1);rwa[xaS]at h));have oA:xc 9985 a:=by rw[<-ha];exact xg fun j=>(bA j).bz (by omega)
 have oB:xc 9985 b:=by rw[<-hb];exact xg fun j=>(bB j).bz (by omega)
 have hl:vh a=a:=iZ (We a) ha fun k=>by rw[YE,hk,Int.ediv_one]
 have hq:(yq a).length≠0:=by rw[ha];omega
 obtain⟨pa1,pa2⟩:=Qf hq;rw[hl]at pa1 pa2
 obtain⟨x,hx,x1,x2,x3,x4,x5,x6⟩:=yA (f:=Q3 fu) (fun s:List Zr×List Zr=>yq s.1=s.1/\Pm (cf s.1)/\Po (cf s.1)/\yq s.2=s.2/\s.2.length<s.1.length/\s.1.length<=L/\(∃bx,bx+1<=C*VN (L-s.1.length)/\ ∀i,Bb bx (cf s.1 i))/\(∃b_,b_+1<=C*VN (L-s.1.length+1)/\ ∀i,Bb b_ (cf s.2 i))/\(s.2.length≠0->Pm (cf s.2)/\Po (cf s.2))/\ ∀d,Fs d->Pm d->((Zd d (cf s.1)/\Zd d (cf s.2))↔(Zd d (cf a)/\Zd d (cf b)))) (fun s=>s.2.length)
  (fun x=>yq x=x/\Pm (cf x)/\Po (cf x)/\x.length<=L/\xc 37500 x/\ ∀d,Fs d->Pm d->(Zd d (cf x)↔(Zd d (cf a)/\Zd d (cf b)))) (by
  rintro⟨x,y⟩ R ⟨h1,h2,h3,h4,h5,h6,⟨bx,h7,h8⟩,⟨b_,h9,hd⟩,hm,he⟩ ih
  simp only at h1 h2 h3 h4 h5 h6 h7 h8 h9 hd hm he
  unfold Q3
  simp only
  have hc: ∀{i},i<=L->C*VN i<=2400000:=fun{i} hi=>xao (xaJ _ (by
   have:=WO (i:=i) (L-i);rwa[show i+(L-i)=L by omega]at this)) hp
  by_cases hr:0<y.length
  ·obtain⟨t,ht⟩: ∃t,x.length-y.length=t+1:=⟨x.length-y.length-1,by omega⟩
   have hg:bx+(x.length-y.length+1)*(b_+1)+1<=C*VN (L-y.length+1):=by
    have hj:=EK (L-x.length) t;rw[show L-x.length+1+(t+1)=L-y.length+1 by omega]at hj;have hs:=xaJ C hj;rw[xbm,xdZ]at hs;have hE:=xaJ (t+1+1) h9;rw[ht];omega
   obtain⟨q,r,c,Q,e1,e2,e3,e4,e5,e6,e7⟩:=fF (fu:=fu) h1 h4 (by omega) hr (by omega) h8 hd (by have:=hc (i:=L-y.length+1) (by omega);omega) hf
   have oR:xc 9985 r:=by
    by_cases hu:r.length=0
    ·rw[xbF.1 hu];intro z hz;cases hz
    ·rw[<-e2];refine xg fun j=>(e7 j).bz ?_;have hj:C*VN (L-y.length+1)<=C*VN (L-1):=xaJ _ (by
      have:=WO (i:=L-y.length+1) (y.length-2);rwa[show L-y.length+1+(y.length-2)=L-1 by omega]at this)
     omega
   rw[zM,za e1]
   simp only
   rw[za (vv oR (by decide) (by omega) hf)]
   have hv:=ZO r
   rw[e2]at hv
   obtain⟨y1,y2⟩:=hm (by omega)
   have hF:=VV r
   refine ih _ ⟨h4,y1,y2,We r,by show(vh r).length<y.length;omega,by show y.length<=L;omega,⟨b_,?_,hd⟩,⟨_,hg,fun i=> ?_⟩,fun(hn:(vh r).length≠0)=>Qf (by rw[e2];show r.length≠0;omega),fun d fd pd=> ?_⟩ (by show(vh r).length<y.length;omega)
   ·refine xao h9 (xaJ _ ?_)
    show VN (L-x.length+1)<=VN (L-y.length)
    have:=WO (i:=L-x.length+1) (x.length-y.length-1)
    rwa[show L-x.length+1+(x.length-y.length-1)=L-y.length by omega]at this
   ·show Bb _ (cf (vh r) i)
    rw[YE]
    exact(e7 i).le (xdp _ _)
   ·rw[<-he d fd pd]
    show(Zd d (cf y)/\Zd d (cf (vh r)))↔(Zd d (cf x)/\Zd d (cf y))
    rw[BR fd pd]
    constructor
    ·rintro⟨z1,z2⟩
     refine⟨Zd.pm fd pd e4 ?_,z1⟩
     rw[e6]
     exact(z1.mul _ e5).add z2
    ·rintro⟨z1,z2⟩
     refine⟨z2,?_⟩
     have:(cf r:Pz)=pc c*cf x-Q*cf y:=funext fun k=>by
      have:=congrFun e6 k;rw[zI]at this;rw[yC];omega
     rw[this]
     exact(z1.mul _ (Fs.pc c)).sub (z2.mul _ e5)
  ·rw[zx]
   refine⟨x,rfl,h1,h2,h3,h6,?_,fun d fd pd=> ?_⟩
   ·rw[<-h1]
    exact xg fun j=>(h8 j).bz (by have:=hc (i:=L-x.length) (by omega);omega)
   ·rw[<-he d fd pd]
    have:Zd d (cf y):=⟨pc 0,Fs.pc 0,funext fun k=>by rw[yb (by omega),yc,zK]⟩
    exact⟨fun h=>⟨h,this⟩,fun h=>h.1⟩) fu (a,vh b) ⟨ha,pa1,pa2,We b,by show(vh b).length<a.length;rw[ZO,hb];exact ho,by show a.length<=L;omega,⟨ca,by show ca+1<=C*VN (L-a.length);rw[hL,xcU];show ca+1<=C*1;omega,bA⟩,⟨cb,by show cb+1<=C*VN (L-a.length+1);rw[hL,xcU];show cb+1<=C*1;omega,fun i=>by
    show Bb cb (cf (vh b) i)
    rw[YE]
    exact(bB i).le (xdp _ _)⟩,fun hn=>Qf (by have:=ZO b;show(yq b).length≠0;rw[<-this];exact hn),fun d fd pd=>by
    show(Zd d (cf a)/\Zd d (cf (vh b)))↔_
    rw[BR fd pd]⟩ (by show(vh b).length<fu;rw[ZO,hb];omega)
 have b1:=(Bz.one' (k:=1) (xac _));have bc:=(DN oB);have hw:qi x.length (fun j=>cf x j*1)=x:=by rw[show(fun j=>cf x j*1)=cf x from funext fun j=>xce _];exact x1
 refine⟨x,?_,x1,x2,x3,x4,x6⟩;unfold QK;rw[za (qT oA (by decide) (by omega) hf),za (qT oB (by decide) (by omega) hf),hk,za (UC (K:=9985) (yS _) (yS _) (xao b1.len (by decide)) bc.len (by decide) hf),zt,zt,show Int.natAbs 1=1 from rfl,Nat.gcd_one_left,show((1:Nat):Int)=1 from rfl,za (vv oA (by decide) (by omega) hf),za (vv oB (by decide) (by omega) hf),hl,za hx,za (qx (l:=1) x5 ⟨yS _,b1.len⟩ (by decide) (by omega) hf),zt];show some (qi x.length fun j=>cf x j*1)=_;rw[hw]
theorem GX(q:Pz): ∀n,dvp (pp q (n+1))=pc ((n+1:Nat):Int)*(pp q n*dvp q)
 |0=>by
  show dvp (pc 1*q)=pc 1*(pc 1*dvp q);rw[zy,zy,zy]
 |n+1=>by
  show dvp (pp q (n+1)*q)=pc _*(pp q n*q*dvp q);rw[Vv,GX q n,zd (pc _),zd (pp q n),zd (pp q n),zg (dvp q) q];show _+pp q n*q*dvp q=_;rw[zd (pp q n)];funext k;rw[zI,zQ,zQ];grind
theorem zcj(hp:Tp p m)(fg:Fs g)(fR:Fs R)(e:p=R*g)(hg:Zd g (dvp p))(hq:Ir q)(h:Zd q p):Zd q R:=by
 refine xaf fun ha=> ?_;obtain⟨n,_,hn⟩:=Mu.ex hq m hp;obtain⟨nR,ng⟩:=ZX hp.nz e;obtain⟨d,hd⟩:=Tp.ex fg ng;obtain⟨i,_,hi⟩:=Mu.ex hq d hd;have h1:=(Mu.zero fR ha).mul hq hi;rw[<-e,xaS]at h1;obtain rfl:=h1.uniq hq hn;have hc:i≠0:=fun h0=>by
  subst h0;obtain⟨u,fu,e2,hu⟩:=hn;rw[show pp q 0=pc 1 from rfl,zY]at e2;rw[<-e2]at hu;exact hu h
 obtain⟨j,rfl⟩: ∃j,i=j+1:=⟨i-1,by omega⟩;obtain⟨u,fu,e2,hu⟩:=hn;obtain⟨v,fv,e3,_⟩:=hi;have h2:Zd (pp q (j+1)) (dvp p):=Zd.trans ⟨v,fv,e3⟩ hg;rw[e2,Vv]at h2;have h3:Zd (pp q (j+1)) (u*dvp (pp q (j+1))):=by
  have:u*dvp (pp q (j+1))=(dvp u*pp q (j+1)+u*dvp (pp q (j+1)))-dvp u*pp q (j+1):=funext fun k=>by simp only[zI,yC];omega
  rw[this];exact h2.sub ⟨dvp u,fu.dvp,rfl⟩
 rw[GX]at h3;obtain⟨w,fw,e4⟩:=h3;have h4:w*q=u*(pc ((j+1:Nat):Int)*dvp q):=by
  refine pj (fw.mul hq.fs) (fu.mul ((Fs.pc _).mul hq.fs.dvp)) (hq.fs.pp j) (hq.pm.pp j).nz ?_;have e5:w*pp q (j+1)=w*q*pp q j:=by
   show w*(pp q j*q)=_;rw[zd,zg (pp q j) q]
  rw[<-e5,<-e4,zd u,zd (pc _),zg (dvp q) (pp q j)]
 rcases hq.prime fu ((Fs.pc _).mul hq.fs.dvp) ⟨w,fw,h4.symm⟩with h5|h5
 ·exact hu h5
 ·obtain⟨t,ht⟩:=Tp.ex hq.fs hq.pm.nz;have he:t≠0:=fun h0=>hq.dg ((fK.tp ht).2 h0);obtain⟨w2,hb,hz⟩:=C0 (n:=0) ht h5 fun k hk=>by
   rw[zQ];show _*(((k+1:Nat):Int)*q (k+1))=0;rw[ht.2 _ (by omega),xat,xat]
  have h6:=congrFun hb (t-1);rw[xr w2,yT fun i _=>by rw[hz i (by omega),xaU],zQ]at h6;have h7:((j+1:Nat):Int)*(((t-1+1:Nat):Int)*q (t-1+1))=0:=h6;rw[show t-1+1=t by omega]at h7;rcases xev.1 h7 with h8|h8
  ·omega
  ·rcases xev.1 h8 with h9|h9
   ·omega
   ·exact ht.1 h9
theorem zfM(hp:Tp p m)(fg:Fs g)(fR:Fs R)(e:p=R*g)(hg: ∀d,Fs d->Pm d->Zd d p->Zd d (dvp p)->Zd d g)(hq:Ir q): ¬Zd (q*q) R:=fun⟨z,fz,ez⟩=>by
 obtain⟨n,_,u,fu,e1,hu⟩:=Mu.ex hq m hp
 cases n with
 |zero=>
  refine hu ⟨z*q*g,(fz.mul hq.fs).mul fg,?_⟩;have e2:u=p:=by rw[e1];exact(zY u).symm
  rw[e2,e,ez];simp only[zg,zw]
 |succ k=>
  have fk:=hq.fs.pp k;have e3:pp q (k+1)=q*pp q k:=zg _ _;obtain⟨w,fw,ew⟩:=hg (pp q k) fk (hq.pm.pp k) ⟨u*q,fu.mul hq.fs,by rw[e1,e3,zd]⟩ (by
   rw[e1,Vv,GX];refine Zd.add ⟨dvp u*q,fu.dvp.mul hq.fs,by rw[e3,zd]⟩ ⟨u*(pc ((k+1:Nat):Int)*dvp q),fu.mul ((Fs.pc _).mul hq.fs.dvp),?_⟩;simp only[zg,zw])
  refine hu ⟨z*w,fz.mul fw,?_⟩;refine pj fu ((fz.mul fw).mul hq.fs) (hq.fs.pp (k+1)) (hq.pm.pp (k+1)).nz ?_;rw[<-e1,e,ez,ew,e3];simp only[zg,zw]
end
noncomputable def zag(fu:Nat)(a:List Zr)(fs:List (List Int))(p:Int):Int:=
 if wB p=true then(if 65<(yq a).length then 6 else if wx fu (yq a) fs p=some true then 0 else 1)else 1
theorem SA{fu:Nat}{p k:Int}{a:List Zr}{fs:List (List Int)}{us:List (List Zr)}{e:Int}(ha:xc 250 a)(hg:a.length<=1000)(h1:1<=k)(h2:k<=1000)(hf:3000200<=fu)(h:vS fu a fs p k=some (us,e)):e=zag fu a fs p:=by
 unfold vS at h;unfold zag;rw[za (jr (by omega))]at h;simp only at h;rw[za (zA ha (by decide) (by omega) (by omega)),show qi a.length (cf a)=yq a from rfl]at h;by_cases hp:wB p=true
 ·have hb:bL p k=(yP (p^k.toNat),0):=by
   unfold bL;rw[if_pos ⟨hp,h1,h2⟩]
  rw[hb]at h;rw[iq hp];simp only[if_true]at h;by_cases hc:65<(yq a).length
  ·rw[zM]at h;rw[iq hc];simp only[xaw,xct]at h;exact h.2.symm
  ·rw[zx]at h;rw[ir hc]
   cases hr:wx fu (yq a) fs p with
   |none=>rw[hr]at h;cases h
   |some b=>
    rw[hr]at h;change(if(!b)=true then _ else _)=_ at h
    cases b with
    |false=>
     rw[iq (by decide)]at h;rw[ir (by simp)];simp only[xaw,xct]at h;exact h.2.symm
    |true=>
     rw[ir (by decide)]at h;rw[iq rfl];split at h
     ·simp only[xaw,xct]at h;exact h.2.symm
     ·cases hd:yU fu (yq a) (yP (p^k.toNat))with
      |none=>rw[hd]at h;cases h
      |some t=>
       rw[hd]at h;change bd (wO fu t fs p k (yP (p^k.toNat))) _=_ at h
       cases he:wO fu t fs p k (yP (p^k.toNat))with
       |none=>rw[he]at h;cases h
       |some t3=>
        rw[he]at h;change some (t3,(0:Int))=_ at h;simp only[xaw,xct]at h;exact h.2.symm
 ·have hb:bL p k=((false,[]),1):=by
   unfold bL;rw[ir (fun h=>hp h.1)]
  rw[hb]at h;rw[ir hp];simp only[Int.reduceEq,if_false,xaw,xct]at h;exact h.2.symm
section
variable{fu:Nat}{p:Int}{a:List Zr}
def zdp(p:Int)(n:Nat)(fs:List (List Int)):Prop:=(∀t,t<fs.length->(fs.getD t []).length<=n/\Gz p (fs.getD t []))/\ ∀t j,t<fs.length->j<t->qD p (ci (fs.getD t [])) (ci (fs.getD j []))
theorem CX{i:Nat}{f:List Int}{fs:List (List Int)}(hp:wB p=true)(hc:Fp p f)(hd:f.length<=290)(hi:i<=fs.length)(hl:i<=1000000)(hF: ∀j,j<i->Fp p (fs.getD j [])/\(fs.getD j []).length<=290)(hf:3000000<=fu):
 ∃r,zj (qC fu p f (fs.take i)) fu 0=some r/\((r= .inl ()/\ ∀j,j<i->qD p (ci f) (ci (fs.getD j [])))\/(r= .inr ()/\ ¬ ∀j,j<i->qD p (ci f) (ci (fs.getD j [])))):=by
 obtain⟨p1,p2⟩:=zo hp;have hk:(fs.take i).length=i:=by rw[xay];omega
 have ha: ∀j,j<i->(fs.take i).getD j []=fs.getD j []:=fun j hj=>by rw[UV,xbT,iq hj,<-UV]
 refine yA (fun x:Int=> ∃j:Nat,x=(j:Int)/\j<=i/\ ∀t,t<j->qD p (ci f) (ci (fs.getD t []))) (fun x=>i-x.toNat) _ ?_ _ _ ⟨0,rfl,xaj _,fun t h=>absurd h (xbv _)⟩ (by show i-0<fu;omega);rintro x L ⟨j,rfl,hj,he⟩ ih;unfold qC;by_cases h1:j<i
 ·obtain⟨k1,k2⟩:=hF j h1;obtain⟨d,s,t,hg,hR,e3⟩:=Wu (fu:=fu) hp hc k1 hd k2 hf;have hb:=LV p1 hR e3;rw[zM,yB,zf,ha j h1,za hg];simp only;by_cases h2:d.length=1
  ·rw[zM,zb];refine ih _ ⟨j+1,rfl,by omega,fun t ht=> ?_⟩ (by omega);by_cases h3:t=j
   ·rw[h3];exact hb.1 h2
   ·exact he t (by omega)
  ·rw[zx];exact⟨_,rfl,.inr ⟨rfl,fun h=>h2 (hb.2 (h j h1))⟩⟩
 ·rw[zx];exact⟨_,rfl,.inl ⟨rfl,fun t ht=>he t (by omega)⟩⟩
theorem IA{fs:List (List Int)}(hp:wB p=true)(hd:a.length<=66)(h0:a.length≠0)(hl:(vC p a).length=a.length)(g1: ∀t,t<fs.length->(fs.getD t []).length<=a.length/\Gz p (fs.getD t [])):
 (∀f∈fs,Fp p f)/\(∀f∈fs,f.length<=66)/\(vC p a).drop (a.length-1)=[ci (vC p a) (a.length-1)]/\Fp p [ci (vC p a) (a.length-1)]:=by
 obtain⟨p1,p2⟩:=zo hp;have ha: ∀{q:List Int->Prop},(∀t,t<fs.length->q (fs.getD t []))-> ∀f∈fs,q f:=fun{q} h f hf=>by
  obtain⟨j,hj,rfl⟩:=xdx.1 hf;have:=h j hj;rw[UV,IR hj]at this;exact this
 have hz:=XX (p:=p) (by omega) a;have hc:ci (vC p a) (a.length-1)≠0:=by
  rcases hz.nl with h|h
  ·omega
  ·rw[hl]at h;exact h
 have he:=hz.nn (a.length-1);have hb:=hz.lt (a.length-1);refine⟨ha fun t ht=>(g1 t ht).2.fp (by omega),ha fun t ht=>by have:=(g1 t ht).1;omega,?_,ZQ (by omega) hb⟩;rw[xcu (by omega),xcf (by omega)];unfold ci;rw[UV,IR (by omega)];rfl
theorem ah{k:Nat}{fs:List (List Int)}(hp:wB p=true)(ha:xc k a)(hk:k<=40000)(hg:a.length<=66)(hf:3000000<=fu):
 ∃b,wx fu a fs p=some b/\(b=true↔JN p a fs):=by
 obtain⟨p1,p2⟩:=zo hp;unfold wx;rw[za (jT ha hk (by omega) p2 (by omega) hf)];simp only;by_cases h0:a.length=0
 ·rw[zM];exact⟨_,rfl,fun e=>absurd e (by decide),fun e=>absurd h0 e.a0⟩
 ·rw[zx];by_cases hl:(vC p a).length=a.length
  ·rw[zM];by_cases ho:a.length<fs.length
   ·rw[zM];exact⟨_,rfl,fun e=>absurd e (by decide),fun e=>by have:=e.fl;omega⟩
   ·rw[zx]
    obtain⟨r,e1,e2⟩:=yA (f:=qy fu a fs p) (fun x:Int×List Int=> ∃i:Nat,x=((i:Int),vC p a)/\i<=fs.length/\(∀t,t<i->(fs.getD t []).length<=a.length/\Gz p (fs.getD t []))/\ ∀t j,t<i->j<t->qD p (ci (fs.getD t [])) (ci (fs.getD j []))) (fun x=>fs.length-x.1.toNat)
     (fun r=>(r= .inr ()/\ ¬zdp p a.length fs)\/(r= .inl (vC p a)/\zdp p a.length fs)) (by
      rintro x L ⟨i,rfl,hi,g1,g2⟩ ih;unfold qy;simp only;by_cases h1:i<fs.length
      ·rw[zM,za rfl];simp only[if_true];rw[zp h1,zf];by_cases h2:a.length<(fs.getD i []).length
       ·rw[zM];exact⟨_,rfl,.inl ⟨rfl,fun h=>by have:=(h.1 i h1).1;omega⟩⟩
       ·obtain⟨b,b1,b2⟩:=Va (fu:=fu) (l:=fs.getD i []) (p:=p) (by omega) hf;rw[zx,za b1]
        cases b with
        |false=>
         rw[iq (by decide)];exact⟨_,rfl,.inl ⟨rfl,fun h=>absurd (b2.2 (h.1 i h1).2) (by decide)⟩⟩
        |true=>
         have hb:=b2.1 rfl;rw[ir (by decide),yN,yF,zf];obtain⟨q,q1,q2⟩:=CX (fu:=fu) (i:=i) (fs:=fs) hp (hb.fp (by omega)) (by omega) (by omega) (by omega) (fun j hj=>⟨(g1 j hj).2.fp (by omega),by have:=(g1 j hj).1;omega⟩) hf;rw[za q1];rcases q2 with⟨rfl,q2⟩|⟨rfl,q2⟩
         ·simp only;rw[zb];refine ih _ ⟨i+1,rfl,by omega,fun t ht=> ?_,fun t j ht hj=> ?_⟩ (by show fs.length-((i:Int)+1).toNat<fs.length-(i:Int).toNat;omega)
          ·by_cases h4:t=i
           ·rw[h4];exact⟨by omega,hb⟩
           ·exact g1 t (by omega)
          ·by_cases h4:t=i
           ·rw[h4]at hj⊢;exact q2 j hj
           ·exact g2 t j (by omega) hj
         ·exact⟨_,rfl,.inl ⟨rfl,fun h=>q2 fun j hj=>h.2 i j h1 hj⟩⟩
      ·rw[zx,za rfl];simp only[xah,if_false];exact⟨_,rfl,.inr ⟨rfl,fun t ht=>g1 t (by omega),fun t j ht hj=>g2 t j (by omega) hj⟩⟩) fu (0,vC p a) ⟨0,rfl,xaj _,fun t h=>absurd h (xbv _),fun t j h=>absurd h (xbv _)⟩ (by show fs.length-0<fu;omega)
    rw[za e1];rcases e2 with⟨rfl,e2⟩|⟨rfl,g1,g2⟩
    ·exact⟨_,rfl,fun e=>absurd e (by decide),fun e=>absurd ⟨e.pl,e.cp⟩ e2⟩
    ·simp only;obtain⟨hm,hd,hc,he⟩:=IA hp hg h0 hl g1;have hq:fs.length*66<=66*66:=xas _ (by omega);have hb:=Ka (p:=p) hd;have hz:=XX (p:=p) (by omega) a;have hn:=qj p (Xz p fs) [ci (vC p a) (a.length-1)];simp only[xav,xcq]at hn;rw[za (qh hp hm hd (by omega) (by decide) (by omega) hf),hl,show(a.length:Int)-1=((a.length-1:Nat):Int)by omega,zb,yN,yF,zf,hc,za (jU hp (Kj (by omega) fs) he (by omega) (by simp) hf)];simp only;rw[za (Vk hp (vG (by omega) _ _) hz (by omega) (by omega) hf)];exact⟨_,rfl,fun e=>⟨h0,hl,by omega,g1,g2,of_decide_eq_true e⟩,fun e=>decide_eq_true e.pr⟩
  ·rw[zx];exact⟨_,rfl,fun e=>absurd e (by decide),fun e=>absurd e.al hl⟩
end
section
variable{a R:List Zr}{fu K:Nat}{q p:Int}{ds:List Int}
theorem iM(h:mi a=0):1<=(yq a).length/\(yq a).length<=65:=by
 unfold mi at h;split at h
 ·cases h
 ·split at h
  ·cases h
  ·omega
theorem M5:wB 2=true:=LK ⟨by decide,by decide,fun d h1 h2=>by
 have:=xbU h1 h1;have h4:(2:Int).toNat=2:=rfl;omega⟩
theorem Nu(hc:yq a=a)(hp:Pm (cf a))(hs:Po (cf a)):vg a=1:=by
 obtain⟨n,hn,hb⟩:=hs.tp;have ha:(yq a).length≠0:=fun e=>hn.1 (Yw e n);have h1:=(WY ha).uniq hn;have a2:ZC (cf a) a.length=1:=hp _ (bT fun k hk=>yb hk);have a3:vg a=if cf (yq a) ((yq a).length-1)<0 then-((ZC (cf a) (yq a).length:Nat):Int)else((ZC (cf a) (yq a).length:Nat):Int):=rfl;rw[uq,h1,zx,hc,a2]at a3;exact a3
theorem Po.left{u v:Pz}(fu:Fs u)(h:Po (u*v))(hv:Po v):Po u:=by
 obtain⟨m,hm,hp⟩:=h.tp;obtain⟨b,hb,hq⟩:=hv.tp;obtain⟨nu,_⟩:=ZX hm.nz rfl;obtain⟨a,ha⟩:=Tp.ex fu nu;obtain rfl:=(ha.mul hb).uniq hm;rw[VP ha.2 hb.2]at hp;exact⟨a,Int.pos_of_mul_pos_left hp hq,ha.2⟩
structure Rad(a R:List Zr):Prop where
 can:yq R=R
 pm:Pm (cf R)
 ps:Po (cf R)
 dv: ∃g:Pz,Fs g/\cf (vh a)=cf R*g
 al: ∀q,Ir q->Zd q (cf a)->Zd q (cf R)
 ln:R.length<=(yq a).length
 sf: ∀q,Ir q-> ¬Zd (q*q) (cf R)
theorem aA(ha:xc K a)(hK:K<=40000)(hl:a.length<=1000000)(h0:mi a≠0)(hf:3000000<=fu):wu fu a=some ([],mi a):=by
 unfold wu;rw[za (Xa ha hK hl hf),ir h0]
theorem aZ{B:Nat}(ha:xc K a)(hK:K<=100)(hl:a.length<=40)(h0:mi a=0)(bA: ∀j,Bb B (cf a j))(hB:B<=6000)(hC:(B+7)*VN ((yq a).length-1)<=639000)(hi:(B+7)*VN ((yq a).length)<=2400000)(hf:3000000<=fu):
 ∃R,wu fu a=some (R,0)/\Rad a R/\ ∀j,Bb (B+(yq a).length+4) (cf R j):=by
 have hu:=iM h0;have hv:=Vo a;obtain⟨p,hp⟩: ∃p,p=vh a:=⟨_,rfl⟩;have hb:yq p=p:=by rw[hp];exact We a
 have hg:p.length=(yq a).length:=by rw[hp];exact ZO a
 obtain⟨p1,p2⟩:=Qf (a:=a) (by omega);rw[<-hp]at p1 p2;have hm:(yq p).length≠0:=by rw[hb];omega
 have tp:=WY hm;rw[hb]at tp;have bP: ∀j,Bb B (cf p j):=fun j=>by
  rw[hp,YE];exact(bA j).le (xdp _ _)
 have oP:xc 94 p:=by rw[<-hb];exact xg fun j=>(bP j).bz (by omega)
 have hn:=Nu hb p1 p2;obtain⟨d,hd⟩: ∃d,d=qi (p.length-1) (dvp (cf p)):=⟨_,rfl⟩;have hc:(cf d:Pz)=dvp (cf p):=funext fun k=>by
  rw[hd];exact jj (fun k hk=>by unfold dvp;rw[yb (by omega),xat]) k
 have ho:yq d=d:=by rw[hd];exact(X9 _ _).symm
 have hr:d.length<p.length:=by
  have:=qb (dvp (cf p)) (p.length-1);rw[hd,xz];omega
 have bD: ∀j,Bb (B+6) (cf d j):=fun j=>by
  rw[hc];show Bb _ (((j+1:Nat):Int)*cf p (j+1));by_cases hj:j+1<64
  ·rw[xbi];exact(bP _).mul (show((j+1:Nat):Int).natAbs<2^6 by rw[xbc];exact hj)
  ·rw[yb (by omega),xat];exact Bb.zero _
 obtain⟨g,g1,g2,g3,g4,g5,g6⟩:=rk (fu:=fu) (C:=B+7) (L:=p.length) hb ho hn hr rfl (by omega) (by rw[hg];exact hC) (by rw[hg];exact hi) (ca:=B) (cb:=B+6) (by omega) (by omega) bP bD hf;obtain⟨z1,z2⟩:=(g6 _ (Fs.cf g) g3).1 (Zd.refl _);have hs:(yq g).length≠0:=fun e=>by
  obtain⟨j,hj⟩:=g3.nz;exact hj (Yw e j)
 obtain⟨w,fw,hw⟩:=z1;have bG: ∀j,Bb (B+(yq a).length+4) (cf g j):=fun j=>(C6 tp (Fs.cf g) fw (by rw[hw,zg]) (by omega) bP j).mono (by omega);have oG:xc 97 g:=by rw[<-g2];exact xg fun j=>(bG j).bz (by omega)
 obtain⟨R,e,r1,r2,r3⟩:=WB (fu:=fu) oP oG (by have:=xas (97+1) (show p.length+1<=41 by omega);omega) (by omega) (by omega) hs hf;have he:e=0:=r2.2 ⟨w,fw,hw⟩;subst he;obtain⟨r4,r5,r6⟩:=r3 rfl;have ht:Pm (cf R):=(r4▸p1:Pm (cf R*cf g:Pz)).left;refine⟨R,?_,⟨r5,ht,Po.left (Fs.cf R) (r4▸p2:Po (cf R*cf g:Pz)) g4,⟨cf g,Fs.cf g,by rw[<-hp];exact r4⟩,fun q hq hz=> ?_,by omega,fun q hq=>zfM tp (Fs.cf g) (Fs.cf R) r4 (fun d fd pd y1 y2=>(g6 d fd pd).2 ⟨y1,by rw[hc];exact y2⟩) hq⟩,fun j=>(C6 tp (Fs.cf R) (Fs.cf g) r4 (by omega) bP j).mono (by omega)⟩
 ·unfold wu;rw[za (Xa ha (by omega) (by omega) hf),iq h0,za (vv ha (by omega) (by omega) hf),<-hp,za (eV oP (by decide) (by omega) hf),<-hd,za g1];unfold fi;rw[za (v:=R) (by rw[za r1])]
 ·refine zcj tp (Fs.cf g) (Fs.cf R) r4 (by rw[<-hc];exact z2) hq ?_;rw[hp];exact(BR hq.fs hq.pm).2 hz
theorem Im:wB 65521=true:=LK ⟨by decide,by decide,fun d h1 h2=>by
 have h3:d<256:=by
  refine xaf fun hn=> ?_;have:=xbU (show 256<=d by omega) (show 256<=d by omega);have h4:(65521:Int).toNat=65521:=rfl;omega
 have key: ∀d:Nat,d<256->2<=d->(65521:Nat) % d≠0:=by decide+kernel
 exact key d h3 h1⟩
theorem eK(h:65521<=q):xJ fu q=some (0,5):=by
 unfold xJ;rw[iq h]
theorem Jq(h1:1<=q)(h:q<65521)(hf:3000000<=fu): ∃r,xJ fu q=some (r,0)/\wB r=true/\q<r/\ ∀s,q<s->s<r->wB s=false:=by
 unfold xJ;obtain⟨r,hr,r1,r2,r3⟩:=yA (f:=WQ fu) (fun i:Int=>q<i/\i<=65521/\ ∀s,q<s->s<i->wB s=false) (fun i=>(65521-i).toNat) (fun r=>wB r=true/\q<r/\ ∀s,q<s->s<r->wB s=false) (by
  rintro i L ⟨i1,i2,i3⟩ ih;unfold WQ;rw[za (Yl (by omega))]
  cases hp:wB i with
  |true=>rw[ir (by decide)];exact⟨_,rfl,hp,i1,i3⟩
  |false=>
   have ha:i≠65521:=fun e=>by rw[e,Im]at hp;cases hp
   rw[iq (by decide),zb];refine ih _ ⟨by omega,by omega,fun s h1 h2=> ?_⟩ (by omega);by_cases e:s=i
   ·rw[e];exact hp
   ·exact i3 s h1 (by omega)) fu (q+1) ⟨by omega,by omega,fun s h1 h2=>by omega⟩ (by omega)
 rw[zx,zf,show max q 1=q by omega,zb,za hr];exact⟨r,rfl,r1,r2,r3⟩
def ZK(R:List Zr)(p:Int):Prop:=wB p=true/\cf R (R.length-1) % p≠0/\qD p (cf R) (dvp (cf R))
theorem tH{x:Int}{f g:Pz}(h:Cg p g (pc x*f))(hc:qD p g (dvp g)):qD p f (dvp f):=by
 have h1:Cg p (dvp g) (pc x*dvp f):=(R8 h).trans (Cg.of (by
  rw[Vv,ze5];funext k;rw[zI,yc,zK,xcA]))
 obtain⟨s,t,fs,ft,e⟩:=hc.congr h h1;refine⟨s*pc x,t*pc x,fs.mul (Fs.pc x),ft.mul (Fs.pc x),?_⟩;rw[zd,zd];exact e
theorem bg(hp:0<p)(hR:0<R.length):(vC p R).length=R.length↔cf R (R.length-1) % p≠0:=by
 have hn:=(XX hp R).nl;constructor
 ·intro h;rcases hn with h1|h1
  ·omega
  ·rw[h,W7]at h1;exact h1
 ·intro h;have:=zcX p R;by_cases e:(vC p R).length=R.length
  ·exact e
  ·exfalso;rw[<-W7,zP (by omega)]at h;exact h rfl
theorem zc7(hp:wB p=true)(hR:0<R.length)(hl:R.length<=65)(hz:(vC p R).length=R.length)(hf:3000000<=fu):
 ∃m b,TN p (vC p R) m/\wy p m/\uG fu (vC p R) p=some (b,0)/\(b=true↔qD p (ci m) (dvp (ci m)))/\jb fu (vC p R) p=if b=true then some (m,0)else some ([],1):=by
 obtain⟨p1,p2⟩:=zo hp;have hF:=XX (p:=p) (by omega) R;obtain⟨m,b,h1,h2,h3,h4,h5⟩:=eN (fu:=fu) hp hF (by omega) (by omega) hf;refine⟨m,b,h1,h2,?_,h4,h5⟩;have hb:=h1.ln;obtain⟨x,x0,x1,hx,e1⟩:=ZR (fu:=fu) hp hF (by omega) (by omega) hf;obtain⟨b',c1,c2,c3⟩:=cM (fu:=fu) hp h2 (by omega) hf;have hM:=FK p1 hF (by omega) hx;have ha:y4 p (vC p R) [x]=m:=by
  obtain⟨_,y,_,hy⟩:=hM.cg;obtain⟨u,_,hu,_⟩:=h1.cg;have hc:Cg p (ci m) (pc (u*y)*ci (y4 p (vC p R) [x])):=by
   rw[<-jX,zd];exact hu.trans (Cg.rfl.mul hy)
  have t1:=hc (m.length-1);have t2:=hM.top;have t3:=hM.ln;rw[h2.top,zQ,show m.length-1=(y4 p (vC p R) [x]).length-1 by omega,t2,xce]at t1;refine(h2.fm.ext hM.fm (hc.trans ?_)).symm;refine(Cg.mul (f':=pc 1) (fun k=> ?_) Cg.rfl).trans (Cg.of (zy _));unfold pc;split
  ·exact t1.symm
  ·rfl
 rw[ha]at e1;rw[<-h3];unfold uG XG;rw[za e1,za c1]
theorem Fv{m:List Int}(h:TN p (vC p R) m):qD p (ci m) (dvp (ci m))↔qD p (cf R) (dvp (cf R)):=by
 obtain⟨x,y,hx,hy⟩:=h.cg;exact⟨fun hc=>tH (hx.trans (Cg.rfl.mul (K4 p R))) hc,fun hc=>tH ((K4 p R).symm.trans hy) hc⟩
theorem gR(hR:yq R=R)(ho:xc K R)(hK:K<=300)(h0:mi R=0)(hf:3000000<=fu): ∃b,X8 fu R p=some (b,0)/\(b=true↔ZK R p):=by
 have ha:=iM h0;rw[hR]at ha;unfold X8;obtain⟨y,y1,_⟩:=Jz (fu:=fu) ho hK (by omega) hf;rw[za y1,h0];simp only[if_true];rw[za (Yl (by omega))]
 cases hp:wB p with
 |false=>
  rw[iq (by decide)];exact⟨_,rfl,fun e=>absurd e (by decide),fun e=>by rw[e.1]at hp;cases hp⟩
 |true=>
  obtain⟨p1,p2⟩:=zo hp;rw[ir (by decide),za (jT ho (by omega) (by omega) p2 (by omega) hf)];simp only;rw[za (zA ho (by omega) (by omega) hf),show qi R.length (cf R)=R from hR];by_cases hz:(vC p R).length=R.length
  ·obtain⟨m,b,h1,h2,h3,h4,_⟩:=zc7 (fu:=fu) hp (by omega) (by omega) hz hf;rw[zM,za h3];refine⟨b,rfl,?_⟩;rw[h4,Fv h1];exact⟨fun hc=>⟨hp,(bg (by omega) (by omega)).1 hz,hc⟩,fun hc=>hc.2.2⟩
  ·rw[zx];exact⟨_,rfl,fun e=>absurd e (by decide),fun e=>absurd ((bg (by omega) (by omega)).2 e.2.1) hz⟩
structure RP(R:List Zr)(p:Int)(l:List (List Int)):Prop where
 el: ∀g∈l,W9 p g/\Gz p g/\g.length<=66
 pw:l.Pairwise fun a b=>qD p (ci a) (ci b)
 cg:Cg p (cf R) (pc (cf R (R.length-1))*prZ (l.map ci))
 ln:l.length<=R.length-1
theorem Ft{p:Int}: ∀{l:List (List Int)},(∀g∈l,wy p g/\1<g.length)-> ∃d,Mn (prZ (l.map ci)) d/\l.length<=d
 |[],_=>⟨0,⟨rfl,fun k hk=>by show pc 1 k=0;unfold pc;rw[zx]⟩,xac _⟩
 |g::l,h=>by
  obtain⟨h1,h2⟩:=h g (FS);obtain⟨d,hd,hl⟩:=Ft fun x hx=>h x (H1 _ hx);exact⟨_,zdz h1.mn hd,by rw[xav];omega⟩
theorem NY(hg:ZK R p)(hR:1<R.length)(hl:R.length<=13)(hd:Rl ds)(hm:ds.length<=1000)(hf:3000001<=fu): ∃l,Za fu (vC p R) p ds=some (l,0)/\RP R p l:=by
 obtain⟨hp,ht,hc⟩:=hg;obtain⟨p1,p2⟩:=zo hp;obtain⟨P,rfl⟩:=xaB (show 0<=p by omega);have hz:=(bg (p:=(P:Int)) (by omega) (by omega)).2 ht;obtain⟨m,b,h1,h2,h3,h4,h5⟩:=zc7 (fu:=fu) hp (by omega) (by omega) hz (by omega);have he:=(Fv h1).2 hc;rw[iq (h4.2 he)]at h5;obtain⟨l,us,e1,hS,hP,hI⟩:=gw (fu:=fu) (b:=b) hp (XX (by omega) R) (by omega) (by omega) hd hm hf h1 h2 h5 he;have hr:=h1.ln;have hi: ∀g∈l,g.length<=66:=fun g hg=>by
  obtain⟨q,fq,hq⟩:=hP.dv hg;have:=Ub p1 h2 (hP.mn g hg).1 fq hq;omega
 refine⟨l,e1,fun g hg=>⟨hI g hg,⟨fun j _=>⟨(hP.mn g hg).1.fm.nn j,(hP.mn g hg).1.fm.lt j⟩,(hP.mn g hg).2,(hP.mn g hg).1.top⟩,hi g hg⟩,?_,?_,?_⟩
 ·refine xdj.2 fun{a b} hs=> ?_;have ha:a∈l:=hs.subset (by simp);have hb:b∈l:=hs.subset (by simp);refine(hI a ha).cop hp (hI b hb) (by have:=hi a ha;omega) (by have:=hi b hb;omega) fun hn=> ?_;subst hn;have:=c9 (p:=(P:Int)) (hs.map ci) Q4;refine qD.sq p1 (hI a ha) he (Di.cg ?_ hP.pr.symm);refine Di.trans ⟨pc 1,Fs.pc 1,Cg.of ?_⟩ this;show ci a*(ci a*pc 1)=_;rw[zY,zy]
 ·obtain⟨x,y,hx,hy⟩:=h1.cg;have hj:=(K4 (P:Int) R).symm.trans hy;have t:=hj (R.length-1);rw[zQ,show R.length-1=m.length-1 by omega,h2.top,xce,show m.length-1=R.length-1 by omega]at t;refine hj.trans (Cg.mul (fun k=> ?_) hP.pr);unfold pc;split
  ·exact t.symm
  ·rfl
 ·obtain⟨d,hd,hu⟩:=Ft hP.mn;have ho:=h2.mn;have hk:(1:Int) % (P:Int)=1:=xaz (by decide) (by omega);have t1:=hP.pr d;rw[hd.1,hk]at t1;by_cases hv:d<=m.length-1
  ·omega
  ·rw[ho.2 d (by omega),xag]at t1;cases t1
theorem iB(hR:yq R=R)(ho:xc K R)(hK:K<=300)(h0:mi R=0)(hm:1<R.length)(hl:R.length<=13)(hd:Rl ds)(hp:ds.length<=1000)(hf:3000001<=fu):
 ∃p l,X6 fu R ds=some (p,l)/\((p=0/\ ∀q,¬ZK R q)\/(ZK R p/\RP R p l)):=by
 have hi: ∀{q r:Int},(∀s,s<=q-> ¬ZK R s)->(∀s,q<s->s<r->wB s=false)-> ∀s,s<r-> ¬ZK R s:=fun{q r} h1 h2 s hs hg=>by
  by_cases h:s<=q
  ·exact h1 s h hg
  ·have:=h2 s (by omega) hs;rw[hg.1]at this;cases this
 have hj: ∀{q:Int},65521<=q->(∀s,s<=q-> ¬ZK R s)-> ∀s,¬ZK R s:=fun{q} hq h s hg=>by
  have:=(zo hg.1).2;exact h s (by omega) hg
 obtain⟨s,hs,p,l,rfl,hQ⟩:=yA (f:=WC fu R ds) (fun s:Int×Int×List (List Int)×Int×Int=>(s.2.2.2.2=0->wB s.2.2.2.1=true)/\0<=s.2.1/\((s.1=0/\s.2.1=0/\(s.2.2.2.2=0-> ∀q,q<s.2.2.2.1-> ¬ZK R q)/\(s.2.2.2.2≠0-> ∀q,¬ZK R q))\/(ZK R s.1/\RP R s.1 s.2.2.1))) (fun s=>if s.2.2.2.2=0 then(65522-s.2.2.2.1).toNat else 0)
  (fun r=> ∃p l,r=(p,l)/\((p=0/\ ∀q,¬ZK R q)\/(ZK R p/\RP R p l))) (by
  rintro⟨b,n,out,q,e⟩ L ⟨i1,i2,i3⟩ ih
  simp only at i1 i2 i3 ih
  unfold WC
  simp only
  by_cases he:e=0
  ·have hq:=i1 he
   obtain⟨q1,q2⟩:=zo hq
   rw[iq he]
   by_cases hn:n<5
   ·obtain⟨c,c1,c2⟩:=gR (fu:=fu) (p:=q) hR ho hK h0 (by omega)
    rw[iq hn,za c1]
    have hc: ∃r e',xJ fu q=some (r,e')/\(e'=0->wB r=true/\q<r/\ ∀s,q<s->s<r->wB s=false)/\(e'≠0->65521<=q):=by
     by_cases h:65521<=q
     ·exact⟨0,5,eK h,fun h=>absurd h (by decide),fun _=>h⟩
     ·obtain⟨r,h1,h2⟩:=Jq (fu:=fu) (q:=q) (by omega) (by omega) (by omega);exact⟨r,0,h1,fun _=>h2,fun h=>absurd rfl h⟩
    obtain⟨r,e',n1,n2,n3⟩:=hc
    have ha:(if e'=0 then(65522-r).toNat else 0)<(if e=0 then(65522-q).toNat else 0):=by
     rw[iq he];split
     ·have:=n2 (by assumption);omega
     ·omega
    cases c with
    |false=>
     have hr: ¬ZK R q:=fun hg=>by have:=c2.2 hg;cases this
     rw[iq (by decide),za n1]
     refine ih _ ⟨fun h=>(n2 h).1,i2,?_⟩ ha
     rcases i3 with⟨j1,j2,j3,j4⟩|j
     ·have hk: ∀s,s<=q-> ¬ZK R s:=fun s hs hg=>by
       by_cases h:s=q
       ·rw[h]at hg;exact hr hg
       ·exact j3 he s (by omega) hg
      exact .inl ⟨j1,j2,fun h=>hi hk (n2 h).2.2,fun h=>hj (n3 h) hk⟩
     ·exact .inr j
    |true=>
     have hg:=c2.1 rfl
     obtain⟨t,t1,t2⟩:=NY (fu:=fu) hg hm hl hd hp hf
     rw[ir (by decide),zb,za (jT ho (by omega) (by omega) q2 (by omega) (by omega))]
     simp only
     rw[za t1]
     simp only
     by_cases hb:b=0
     ·rw[iq hb,za n1]
      exact ih _ ⟨fun h=>(n2 h).1,by show 0<=n+1;omega,.inr ⟨hg,t2⟩⟩ ha
     ·have j:ZK R b/\RP R b out:=by
       rcases i3 with⟨j1,_⟩|j
       ·exact absurd j1 hb
       ·exact j
      rw[ir hb]
      split
      ·rw[za n1]
       exact ih _ ⟨fun h=>(n2 h).1,by show 0<=n+1;omega,.inr ⟨hg,t2⟩⟩ ha
      ·rw[za n1]
       exact ih _ ⟨fun h=>(n2 h).1,by show 0<=n+1;omega,.inr j⟩ ha
   ·rw[ir hn]
    refine⟨_,rfl,b,out,rfl,?_⟩
    rcases i3 with⟨j1,j2,_⟩|j
    ·omega
    ·exact .inr j
  ·rw[ir he]
   refine⟨_,rfl,b,out,rfl,?_⟩
   rcases i3 with⟨j1,j2,j3,j4⟩|j
   ·exact .inl ⟨j1,j4 he⟩
   ·exact .inr j) fu (0,0,[],2,0) ⟨fun _=>M5,xfl 0,.inl ⟨rfl,rfl,fun _ q hq hg=>by have:=(zo hg.1).1;simp only at hq;omega,fun h=>absurd rfl h⟩⟩ (by
   show(if(0:Int)=0 then((65522:Int)-2).toNat else 0)<fu
   rw[iq rfl]
   omega)
 refine⟨p,l,?_,hQ⟩;unfold X6;obtain⟨r,r1,r2,r3,r4⟩:=Jq (fu:=fu) (q:=1) (by decide) (by decide) (by omega);have:r=2:=by
  by_cases h:r=2
  ·exact h
  ·have h5:=(zo r2).1;have:=r4 2 (by decide) (by omega);rw[M5]at this;cases this
 subst this;rw[za r1];simp only;rw[za hs]
end
section
variable{fu K Y:Nat}{a b R:List Zr}
theorem L7(f g:Nat->Int): ∀n,Ae f g n= -1\/Ae f g n=0\/Ae f g n=1
 |0=> .inr (.inl rfl)
 |n+1=>by
  unfold Ae;split
  ·exact L7 f g n
  ·split
   ·exact .inl rfl
   ·exact .inr (.inr rfl)
theorem Ga(a b:List Zr):XZ a b= -1\/XZ a b=0\/XZ a b=1:=by
 unfold XZ;split
 ·exact L7 _ _ _
 ·split
  ·exact .inl rfl
  ·exact .inr (.inr rfl)
theorem Jt(ha:xc K a)(hb:xc K b)(ca:yq a=a)(cb:yq b=b)(hK:K<=40000)(hd:a.length<=1000)(hg:b.length<=1000)(hf:3000000<=fu):u7 fu a b=some (decide (XZ a b<0)):=by
 unfold u7;rw[za (zA ha (by omega) (by omega) hf),za (zA hb (by omega) (by omega) hf),show qi a.length (cf a)=a from ca,show qi b.length (cf b)=b from cb];have hc:XZ a b=if a.length=b.length then Ae (cf a) (cf b) a.length else if a.length<b.length then-1 else 1:=rfl;by_cases hl:a.length=b.length
 ·rw[iq hl]at hc;rw[zM,zb,za (v:=if XZ a b=0 then Sum.inl ()else Sum.inr (decide (XZ a b<0)))]
  ·rcases Ga a b with h|h|h<;>rw[h]<;>rfl
  ·rw[hc];refine zC (fun s:Int=> ∃n:Nat,s=(n:Int)-1/\n<=a.length/\Ae (cf a) (cf b) n=Ae (cf a) (cf b) a.length) (fun s=>(s+1).toNat) _ ?_ _ _ ⟨a.length,rfl,xac _,rfl⟩ (by show((a.length:Int)-1+1).toNat<fu;omega);rintro s L ⟨n,rfl,hn,he⟩ ih;unfold J8
   cases n with
   |zero=>
    rw[zx,<-he];rfl
   |succ n=>
    have oa:=ha.get n;have ob:=hb.get n;rw[show((n+1:Nat):Int)-1=(n:Int)by omega,zM,yB,zf,yB,zf,za (kS (fW.of oa (by omega)) (fW.of ob (by omega)) hf (by omega) (by omega)),Qh,Qh];rw[show Ae (cf a) (cf b) (n+1)=if cf a n=cf b n then Ae (cf a) (cf b) n else if cf a n<cf b n then-1 else 1 from rfl]at he;by_cases e:cf a n=cf b n
    ·rw[iq e]at he;rw[iq (jd.2 e),zb];exact ih _ ⟨n,rfl,by omega,he⟩ (by omega)
    ·rw[ir e]at he;rw[ir fun h=>e (jd.1 h)];unfold ky;by_cases e2:cf a n<cf b n
     ·rw[iq e2]at he⊢;rw[<-he,iq (by decide)];rfl
     ·rw[ir e2]at he⊢;rw[iq (show cf b n<cf a n by omega),<-he,ir (by decide)];rfl
 ·rw[ir hl]at hc;rw[zx,hc];by_cases h2:a.length<b.length
  ·rw[iq h2,zM];rfl
  ·rw[ir h2,zx];rfl
theorem cL(ha:xc K a)(hb:xc K b)(ca:yq a=a)(cb:yq b=b)(hK:K<=40000)(hc:a.length<=1000)(hd:b.length<=1000)(hf:3000000<=fu):qs fu a b=some (XZ a b):=by
 unfold qs;rw[za (Jt ha hb ca cb hK hc hd hf),za (Jt hb ha cb ca hK hd hc hf),ZY a b];rcases Ga a b with h|h|h<;>rw[h]<;>rfl
theorem zbs:Od3 XZ Gd:=⟨fun x y z _ _ _ h1 h2 h3=>by
 have h4:=Hb (a:=x) (b:=y) (c:=z) (by have:=ZY x y;omega) (by have:=ZY y z;omega);have:=ZY x z;omega,fun x y _ _ h1 h2=>by
 have:=ZY x y;omega⟩
def BdY(R:List Zr)(Y:Nat):Prop:= ∃r:Nat,Y=(r+1)*2^(R.length-1)/\(r:Int)*r<dF (cf R) R.length/\dF (cf R) R.length<=((r:Int)+1)*(r+1)
theorem PN(hR:yq R=R)(ho:xc K R)(hK:K<=300)(h0:mi R=0)(hf:3000000<=fu): ∃Y,wo fu R=some (yP (Y:Nat),0)/\BdY R Y:=by
 have ha:=iM h0;have hb:=uV (show R=qi R.length (cf R)from hR.symm) (by rw[hR]at ha;omega);obtain⟨y,h1,h2⟩:=Jz (fu:=fu) ho hK (by rw[hR]at ha;omega) hf;obtain⟨r,rfl,h3,h4⟩:=h2 h0;rw[hR]at h1 h3 h4 ha;have hc:=Be (f:=cf R) (n:=R.length) ⟨R.length-1,by omega,hb⟩;refine⟨_,by rw[h1,h0],r,rfl,?_,?_⟩
 ·have e:((r*r:Nat):Int)=(r:Int)*r:=by simp
  omega
 ·have e:(((r+1)*(r+1):Nat):Int)=((r:Int)+1)*(r+1):=by simp
  omega
theorem zd6{x y:Nat}(h:x*x<=y*y):x<=y:=by
 refine xaf fun hn=> ?_;have:=xdJ (show y<x by omega) (show y<x by omega);omega
theorem zgl{M:Int}(hR:0<R.length)(ht:Tp (cf R) (R.length-1))(hp:0<cf R (R.length-1))(hY:BdY R Y)(hM:2*((Y:Int)*cf R (R.length-1))<M):Bdz M (cf R):=fun u v b fu hv e j=>by
 obtain⟨r,rfl,_,hr⟩:=hY;obtain⟨nu,_⟩:=ZX ht.nz e;obtain⟨a,ha⟩:=Tp.ex fu nu;have hb:a+b=R.length-1:=by
  have:=ha.mul hv;rw[<-e]at this;exact this.uniq ht
 have key:(v b*u j).natAbs<=(r+1)*2^(R.length-1):=by
  refine zd6 ?_;have h7:((v b*u j).natAbs*(v b*u j).natAbs:Nat)=(v b*u j*(v b*u j)).natAbs:=(xcr _ _).symm;have e2:(((r+1)*2^(R.length-1)*((r+1)*2^(R.length-1)):Nat):Int)=4^(R.length-1)*(((r:Int)+1)*(r+1)):=by
   have:(4:Int)^(R.length-1)=2^(R.length-1)*2^(R.length-1):=by rw[show(4:Int)=2*2 by decide,Int.mul_pow]
   rw[this];simp only[xeU,Int.natCast_pow,xdU];grind
  have h0:=ku (v b*u j);have h8:v b*u j*(v b*u j)<=4^(R.length-1)*(((r:Int)+1)*(r+1)):=by
   have h9:=mig ha hv e j;rw[hb,show R.length-1+1=R.length by omega]at h9;exact Int.le_trans h9 (xaW hr (xfn (by decide)))
  omega
 have h5:(((r+1)*2^(R.length-1):Nat):Int)*1<=(((r+1)*2^(R.length-1):Nat):Int)*cf R (R.length-1):=xaW (by omega) (by omega);omega
theorem Tz(hR:yq R=R)(ho:xc K R)(hK:K<=300)(hl:0<R.length)(hb:R.length<=65)(hY:wo fu R=some (yP (Y:Nat),0))(ha:Bz 1000 (Y:Int))(hf:3000000<=fu):XD fu R=some (decide (1000<bl (2*((Y:Int)*cf R (R.length-1))).natAbs)):=by
 have b2:Bz 1 2:=by unfold Bz;decide
 have ob:=ho.get (R.length-1);have bt:=ho.bz (R.length-1);have bm:=ha.mul bt;have bmm:=b2.mul bm;unfold XD;rw[za hY];simp only;rw[za (z7 (by decide) hf),show(R.length:Int)-1=((R.length-1:Nat):Int)by omega,zb,yB,zf,za (ye (ha.ok (by decide)) (fW.of ob (by omega)) hf),zt,Qh,za (ye (b2.ok (by decide)) (bm.ok (by omega)) hf),zt,zt,za (Yq (yS _) (by have:=bmm.len;omega) (by have:=bmm.len;omega)),show nv (yP (2*((Y:Int)*cf R (R.length-1)))).2=(2*((Y:Int)*cf R (R.length-1))).natAbs from z6 _];by_cases h:1000<bl (2*((Y:Int)*cf R (R.length-1))).natAbs
 ·rw[zM,decide_eq_true h]
 ·rw[zx,decide_eq_false h]
theorem za8{n k:Nat}(h:bl n<=k):n<2^k:=xap (lZ n) (xaK (by decide) h)
theorem Ov{p:Int}(hp:wB p=true)(hR:yq R=R)(ho:xc K R)(hK:K<=300)(hl:0<R.length)(he:R.length<=65)(hY:wo fu R=some (yP (Y:Nat),0))(hb:Bz 1000 (Y:Int))(hg:bl (2*((Y:Int)*cf R (R.length-1))).natAbs<=1000)(hf:3000000<=fu):
 ∃k:Nat,Yh fu R p=some (k:Int)/\1<=k/\k<=1000/\2*((Y:Int)*cf R (R.length-1))<p^k:=by
 obtain⟨p1,p2⟩:=zo hp;obtain⟨E,hE⟩: ∃E,E=1000:=⟨_,rfl⟩;have hg:=za8 (k:=E) (by rw[hE];exact hg);have b2:Bz 1 2:=by unfold Bz;decide
 have ob:=ho.get (R.length-1);have bt:=ho.bz (R.length-1);have bm:=hb.mul bt;have bmm:=b2.mul bm;have bp:Bz 1 p:=by unfold Bz;rw[Nat.pow_one];omega
 obtain⟨T,hT⟩: ∃T,T=2*((Y:Int)*cf R (R.length-1)):=⟨_,rfl⟩;have hd: ∀k:Nat,((2^k:Nat):Int)<=p^k:=fun k=>by
  obtain⟨P,rfl⟩:=xaB (show 0<=p by omega);have:=Nat.pow_le_pow_left (show 2<=P by omega) k;have e:((P^k:Nat):Int)=(P:Int)^k:=by simp
  rw[<-e];omega
 obtain⟨r,hr,k,rfl,k1,k2,k3⟩:=yA (f:=Y7 fu p (yP T)) (fun s:Int×Zr=> ∃k:Nat,s=((k:Int),yP (p^k))/\1<=k/\k<=1000) (fun s=>1000-s.1.toNat) (fun r=> ∃k:Nat,r=(k:Int)/\1<=k/\k<=1000/\T<p^k) (by
  rintro s L ⟨k,rfl,k1,k2⟩ ih;unfold Y7;simp only;have ha:=e9 hp k2;rw[za (kS (ha.ok (by decide)) ((hT▸bmm).ok (by omega)) hf (by have:=ha.len;omega) (by have:=(hT▸bmm:Bz _ T).len;omega)),zt,zt];by_cases h:T<p^k
  ·have hc:ky (p^k) T=1:=by unfold ky;rw[zx,iq h]
   rw[hc,ir (by decide)];exact⟨_,rfl,k,rfl,k1,k2,h⟩
  ·have hk:k<1000:=by
    refine xaf fun hn=> ?_;obtain rfl:k=E:=by omega
    have:=hd k;rw[<-hT]at hg;omega
   have hc:ky (p^k) T<=0:=by
    unfold ky;split
    ·decide
    ·first|decide|(rw[ir h];decide)
   rw[iq hc,za (z7 ⟨by omega,by omega⟩ hf),za (ye (ha.ok (by decide)) (bp.ok (by decide)) hf),zt,zt,zb,<-xbk];exact ih _ ⟨k+1,rfl,by omega,by omega⟩ (by show 1000-((k:Int)+1).toNat<1000-(k:Int).toNat;omega)) fu (1,yP p) ⟨1,by rw[xbk,xbs,xbY];rfl,by omega,by omega⟩ (by show 1000-(1:Int).toNat<fu;omega)
 refine⟨k,?_,k1,k2,by rw[<-hT];exact k3⟩;unfold Yh;rw[za hY];simp only;rw[za (z7 (by decide) hf),show(R.length:Int)-1=((R.length-1:Nat):Int)by omega,zb,yB,zf,za (ye (hb.ok (by decide)) (fW.of ob (by omega)) hf),zt,Qh,za (ye (b2.ok (by decide)) (bm.ok (by omega)) hf),zt,zt,<-hT,za (z7 ⟨by omega,by omega⟩ hf),za hr]
end
section
variable{R a:List Zr}{fu K B:Nat}{ds:List Int}
theorem FQ{R:List Zr->List Int->Prop}: ∀{us:List (List Zr)} {fs:List (List Int)},ni R us fs-> ∃xs:List Lx,us=xs.map (·.1)/\fs=xs.map (·.2)/\ ∀x∈xs,R x.1 x.2
 |[],[],_=>⟨[],rfl,rfl,fun _ h=>absurd h Nm⟩
 |u::us,f::fs,h=>by
  obtain⟨xs,e1,e2,h3⟩:=FQ h.2;refine⟨(u,f)::xs,by rw[e1];rfl,by rw[e2];rfl,fun x hx=> ?_⟩;rcases xad.1 hx with rfl|hx
  ·exact h.1
  ·exact h3 x hx
def P7(R:List Zr):Prop:= ∃Y,BdY R Y/\1000<bl (2*((Y:Int)*cf R (R.length-1))).natAbs
theorem BdY.uniq{Y Z:Nat}(h:BdY R Y)(g:BdY R Z):Y=Z:=by
 obtain⟨r,rfl,h1,h2⟩:=h;obtain⟨s,rfl,g1,g2⟩:=g;have key: ∀{r s:Nat} {S:Int},(r:Int)*r<S->S<=((s:Int)+1)*(s+1)-> ¬s<r:=fun{r s S} h1 h2 ha=>by
  have:((s:Int)+1)*(s+1)<=(r:Int)*r:=Int.mul_le_mul (by omega) (by omega) (by omega) (by omega);omega
 have:=key h1 g2;have:=key g1 h2;obtain rfl:r=s:=by omega
 rfl
theorem gz(hR:yq R=R)(pm:Pm (cf R))(ps:Po (cf R))(ho:xc K R)(hK:K<=200)(hl:R.length<=11)(hd:Rl ds)(hV:ds.length<=1000)(hf:3000300<=fu):
 ∃l b,XW fu R ds=some (l,b)/\(b=true↔R.length<2\/(¬P7 R/\ ∃p,ZK R p))/\(b=true->(∀g∈l,Gd g)/\cf R=prZ (l.map fun g=>(cf g:Pz))/\l.Pairwise (fun a b=>XZ a b<0)/\l.length<=12):=by
 have hJ:(yq R).length≠0:=fun e=>by
  obtain⟨j,hj⟩:=pm.nz;exact hj (Yw e j)
 have tR:=WY hJ;rw[hR]at hJ tR;have hB:0<cf R (R.length-1):=by
  obtain⟨m,m1,m2⟩:=ps.tp;rw[<-m1.uniq tR];exact m2
 unfold XW;by_cases h2:R.length<2
 ·rw[zM];refine⟨[],true,rfl,⟨fun _=> .inl h2,fun _=>rfl⟩,fun _=>⟨fun g hg=>absurd hg Nm,?_,List.Pairwise.nil,xaj _⟩⟩;obtain⟨d,hd⟩:=((fK.tp tR).2 (by omega)).ex;have h3:cf R (R.length-1)=d:=by rw[hd,show R.length-1=0 by omega];exact iq rfl
  rw[hd]at pm;rcases Gb pm with e|e
  ·rw[hd,e];rfl
  ·omega
 ·have h0:mi R=0:=by unfold mi;rw[hR,zx,zx]
  obtain⟨Y,hY,hA⟩:=PN (fu:=fu) hR ho (by omega) h0 (by omega);have hM:Bz 1000 (Y:Int):=by
   obtain⟨r,rfl,h3,h4⟩:=hA;have h5:=SM (K:=K) (f:=cf R) ho.bz R.length (by omega);have h6:Bz 401 (r:Int):=by
    refine Bz.nat ?_;refine xbe (show r<=r*r from Nat.le_mul_self r) ?_;have h7:((r*r:Nat):Int)=(r:Int)*r:=by simp
    have h8:=h5.mono (show K+K+1<=401 by omega);unfold Bz at h8;omega
   have h9:Bz 402 (((r+1:Nat):Int)):=(h6.add (Bz.one' (k:=401) (by decide))).le (by omega);have hW:Bz 1 (((2^(R.length-1):Nat):Int)):=Bz.nat (by
    rw[Nat.pow_one];exact xbe (xaK (by decide) (show R.length-1<=10 by omega)) (by decide))
   have:=(h9.mul hW).mono (show 402+1<=1000 by decide);rwa[<-xeU]at this
  have hN:P7 R↔1000<bl (2*((Y:Int)*cf R (R.length-1))).natAbs:=⟨fun⟨Z,z1,z2⟩=>by rw[hA.uniq z1];exact z2,fun h=>⟨Y,hA,h⟩⟩;rw[zx,za (Tz hR ho (by omega) (by omega) (by omega) hY hM (by omega))];by_cases hg:1000<bl (2*((Y:Int)*cf R (R.length-1))).natAbs
  ·rw[decide_eq_true hg,iq rfl];refine⟨[],false,rfl,⟨fun h=>absurd h (by decide),fun h=> ?_⟩,fun h=>absurd h (by decide)⟩;rcases h with h|h
   ·exact absurd h h2
   ·exact absurd (hN.2 hg) h.1
  ·rw[decide_eq_false hg,ir (by decide)];obtain⟨p,l,e1,hQ⟩:=iB (fu:=fu) hR ho (by omega) h0 (by omega) (by omega) hd hV (by omega);rw[za e1];simp only;rcases hQ with⟨hX,hZ⟩|⟨hE,hu⟩
   ·rw[iq hX];refine⟨[],false,rfl,⟨fun h=>absurd h (by decide),fun h=> ?_⟩,fun h=>absurd h (by decide)⟩;rcases h with h|⟨_,q,hq⟩
    ·exact absurd h h2
    ·exact absurd hq (hZ q)
   ·obtain⟨hp,ht,hc⟩:=hE;obtain⟨p1,p2⟩:=zo hp;obtain⟨k,e2,k1,k2,k3⟩:=Ov (fu:=fu) hp hR ho (by omega) (by omega) (by omega) hY hM (xbw hg) (by omega);have hO:bL p (k:Int)=(yP (p^k),0):=by
     unfold bL;rw[if_pos ⟨hp,by omega,by omega⟩,xaR]
    have h1:=hu.ln;rw[zx,za e2,za (jr (by omega)),hO];simp only;have h':Yu fu R l p=some ([],R,l):=by
     unfold Yu;rw[za (v:=(R,l))];obtain⟨n,hn⟩: ∃n,fu=n+1:=⟨fu-1,by omega⟩;have:zj (Xo fu p) (n+1) (R,l)=some (R,l):=by
      rw[qN];unfold Xo;simp only;rw[zx]
     rw[<-hn]at this;exact this
    rw[za h'];simp only;have hz:=(bg (p:=p) (by omega) (by omega)).2 ht;have hP:JN p (yq R) l:=by
     rw[hR];refine⟨by omega,hz,by omega,fun i hi=> ?_,fun i j hi hj=> ?_,?_⟩
     ·have hm:=tX (l:=l) hi;refine⟨?_,(hu.el _ hm).2.1⟩;obtain⟨q,fq,hq⟩:Di p (ci (l.getD i [])) (cf R):=Di.cg ((QJ Q4 (xbM hm)).mul _ (Fs.pc _)) hu.cg.symm;have hT:=(hu.el _ hm).1.mn;obtain⟨x,hx,hcx⟩:=br hp ht 1|>fun⟨x,hx⟩=>(⟨x,hx,rfl⟩: ∃x,p^1∣x*cf R (R.length-1)-1/\True=True);by_cases hlt:(l.getD i []).length<=R.length
      ·exact hlt
      ·exfalso;have h3:=hT.mn.zero p1 fq fun k hk=>by rw[<-hq k,tR.2 k (by have:=hT.ln;omega),xag]
       have h4:=(hq.trans (h3.mul_zero_r _)) (R.length-1);rw[zK,xag]at h4;exact ht h4
     ·have h3:=xcz.1 hu.pw j i (by omega) hi hj;rw[UV,UV,IR hi,IR (show j<l.length by omega)];exact h3.symm
     ·refine(vG (p:=p) (by omega) _ _).ext (XX (by omega) R) ((ki p _ _).trans ((Cg.mul (cF p l) Cg.rfl).trans (Cg.trans ?_ (K4 p R).symm)));rw[vW,zg];refine Cg.trans (Cg.mul (fun j=> ?_) Cg.rfl) hu.cg.symm;rw[W7];unfold pc;split
      ·exact xaC _ _
      ·rfl
    obtain⟨us,e,e3,e4,e5⟩:=fJ (fu:=fu) (p:=p) (k:=(k:Int)) (a:=R) (fs:=l) (ho.mono (by omega)) (by omega) (by omega);have he:e=0:=by
     refine xaf fun hF=> ?_;have hr:=ah (fu:=fu) (fs:=l) hp (ho.mono (by omega:K<=250)) (by decide) (by omega:R.length<=66) (by omega);obtain⟨bb,b1,b2⟩:=hr;rw[b2.2 (by rw[hR]at hP;exact hP)]at b1;have:=SA (ho.mono (by omega:K<=250)) (by omega) (by omega) (by omega) (by omega) e3;unfold zag at this;rw[iq hp,hR,zx,iq b1]at this;exact hF this
    obtain⟨hG,_⟩:=e4 he;rw[xaR]at hG;have hup:=hG.up;obtain⟨xs,rfl,rfl,hx⟩:=FQ hup;have hF:xs.map (·.2)≠[]:=fun e=>by
     have h3:=hu.cg (R.length-1);rw[e,show prZ ([].map ci)=pc 1 from rfl,zY]at h3;have h4:pc (cf R (R.length-1)) (R.length-1)=0:=zx;rw[h4,xag]at h3;exact ht h3
    have hU:=hG.cg hF;rw[hR,xcM]at hU;rw[xaM]at h1;have hC:Ch p k (cf R) R xs [] 1:=by
     have hL:Lc p k (cf R) (R.length-1) xs:=⟨hp,k1,fun x hH=>⟨hx x hH,(hu.el _ (xbM hH)).1,(hu.el _ (xbM hH)).2.2⟩,(xez (R:=fun a b=>qD p (ci a) (ci b)) (f:=fun x:Lx=>x.2)).1 hu.pw,tR,by omega,hB,ht,pm,hU⟩;exact⟨hL,k2,hR,ho.mono (by omega),hl,zgl (by omega) tR hB hA k3,Ls.one hL,by rw[xcq];omega,(zy _).symm,fun g hg=>absurd hg Nm⟩
    obtain⟨out,o1,o2,o3,o4⟩:=Dq (fu:=fu) hC (by omega);rw[zM,za e3];simp only;rw[za o1,qZ (by simp only[xcq];omega),zf,xbE];obtain⟨r,s1,s2,s3⟩:=CV (fu:=fu) (cmp:=fun zx0 zx1=>qs fu zx0 zx1) (c:=XZ) (S:=Gd) (fun x y hx hy=>cL hx.ok hy.ok hx.can hy.can (by decide) (by have:=hx.ln;omega) (by have:=hy.ln;omega) (by omega)) (t:=out) o3 (by omega) (by omega);have hI:cf R=prZ (r.map fun g=>(cf g:Pz)):=by rw[o4];exact Ef (s2.symm.map _)
    have hw: ∀g∈r,Gd g:=fun g hg=>o3 g (s2.mem_iff.1 hg);rw[za s1];refine⟨r,true,rfl,⟨fun _=> .inr ⟨fun h=>hg (hN.1 h),p,hp,ht,hc⟩,fun _=>rfl⟩,fun _=>⟨hw,hI,?_,by rw[s2.length_eq];omega⟩⟩;refine(xdj.2 fun{a b} hs=> ?_);have h3: ¬XZ b a<0:=(xdj.1 (s3 zbs)) hs;have ha:a∈r:=hs.subset (by simp);have hb:b∈r:=hs.subset (by simp);have h4:=ZY a b;by_cases h5:XZ a b=0
    ·exfalso;have hab:=N5 (hw a ha).can (hw b hb).can h5;subst hab;obtain⟨m,w,hS,hm⟩:=hC.lc.sf;have hD:=c9 (p:=p) (hs.map fun g=>(cf g:Pz)) fun f hf=>by
      obtain⟨g,_,rfl⟩:=xal.1 hf;exact Fs.cf g
     rw[<-hI]at hD;have hsq:Di p ((cf a:Pz)*cf a) (ci m):=by
      refine Di.trans ⟨pc 1,Fs.pc 1,Cg.of ?_⟩ (hD.trans ⟨pc w,Fs.pc w,hm⟩);show(cf a:Pz)*(cf a*pc 1)=_;rw[zY,zy]
     have hga:=hw a ha;have hda:Zd (cf a) (cf R):=by
      rw[hI];obtain⟨A,B,e6⟩:=xdO ha;rw[e6,xaN,xbP,xK];refine Zd.mul _ (Fs.prZ fun f hf=> ?_) (Zd.left (Fs.prZ fun f hf=> ?_))
      ·obtain⟨g,_,rfl⟩:=xal.1 hf;exact Fs.cf g
      ·obtain⟨g,_,rfl⟩:=xal.1 hf;exact Fs.cf g
     obtain⟨v,fv,hv⟩:=hda;have h6:=hC.ls (cf a) v (Fs.cf a) fv (by rw[hv,zg]) hga.ir.dg;obtain⟨x,hxo⟩: ∃x,x∈own p (cf a) xs:=by
      cases ho2:own p (cf a) xs with
      |nil=>rw[ho2]at h6;exact absurd h6 (by decide)
      |cons x t=>exact⟨x,FS⟩
     obtain⟨h7,h8⟩:=Q5.1 hxo;exact hS.apart (Fs.cf a) (Fs.cf a) hsq (xbM h7) h8 h8
    ·omega
theorem iC{q:List Zr}{m:Nat}(ha:xc K a)(hK:K<=50)(ta:Tp (cf a) m)(hm:m<=11)(hc:a.length<=40)(bA: ∀j,Bb B (cf a j))(hB:B<=3000)(hq:Gd q)(bQ:xc 50 q)(hf:3000000<=fu):
 ∃n:Nat,u6 fu a q=some (n:Int)/\n<=11/\Mu (cf q) (cf a) n:=by
 have hb:(yq q).length≠0:=fun e=>by
  obtain⟨j,hj⟩:=hq.ir.pm.nz;exact hj (Yw e j)
 have tq:=WY hb;rw[hq.can]at tq;have hg:=hq.ln;have hl:1<=q.length-1:=by refine xaf fun h=>hq.ir.dg ((fK.tp tq).2 (by omega))
 have fp:=fun n=>hq.ir.fs.pp n;have one: ∀(t:List Zr) (n:Nat),xc 60 t->t.length<=40->cf a=(cf t:Pz)*pp (cf q) n-> ∃q' e,wA fu t q=some (q',e)/\(e=0->xc 60 q'/\q'.length<=40/\cf a=(cf q':Pz)*pp (cf q) (n+1))/\(e≠0->Mu (cf q) (cf a) n):=fun t n o1 l1 e1=>by
  obtain⟨q',e,d1,d2,d3⟩:=WB (fu:=fu) o1 bQ (by have:=xas (50+1) (show t.length+1<=41 by omega);omega) (by omega) (by omega) hb hf;refine⟨q',e,d1,fun he=> ?_,fun he=>⟨cf t,Fs.cf t,e1,fun hz=>he (d2.2 hz)⟩⟩;obtain⟨f1,f2,f3⟩:=d3 he;have e2:cf a=(cf q':Pz)*pp (cf q) (n+1):=by
   rw[e1,f1,zd];show _=_*(pp (cf q) n*cf q);rw[zg (pp (cf q) n)]
  refine⟨?_,by omega,e2⟩;rw[<-f2];exact xg fun j=>(C6 ta (Fs.cf q') (fp _) e2 (by omega) bA j).bz (by omega)
 obtain⟨q1,x1,c1,c2,c3⟩:=one a 0 (ha.mono (by omega)) hc (zY _).symm;have deg: ∀{t:List Zr} {n:Nat},cf a=(cf t:Pz)*pp (cf q) n->n<=m:=fun{t n} e=>by
  obtain⟨nt,np⟩:=ZX ta.nz e;obtain⟨i,hi⟩:=Tp.ex (Fs.cf t) nt;have hd: ∀n,Tp (pp (cf q) n) (n*(q.length-1)):=fun n=>by
   induction n with
   |zero=>rw[xcI];exact⟨show pc 1 0≠0 by decide,fun k hk=>by show pc 1 k=0;unfold pc;rw[zx]⟩
   |succ n ih=>rw[xaV,xcm];exact ih.mul tq
  have h1:=hi.mul (hd n);rw[<-e]at h1;have h2:=h1.uniq ta;have h3:=xck n (show 0<q.length-1 by omega);omega
 obtain⟨s,hs,n,rfl,n1,n2⟩:=yA (f:=W0 fu q) (fun s:Int×List Zr×Int=> ∃n:Nat,s.1=(n:Int)/\(s.2.2=0->xc 60 s.2.1/\s.2.1.length<=40/\cf a=(cf s.2.1:Pz)*pp (cf q) (n+1))/\(s.2.2≠0->n<=11/\Mu (cf q) (cf a) n)) (fun s=>if s.2.2=0 then 20-s.1.toNat else 0) (fun r=> ∃n:Nat,r=(n:Int)/\n<=11/\Mu (cf q) (cf a) n) (by
  rintro⟨i,t,e⟩ L ⟨n,hn,h1,h2⟩ ih;simp only at hn h1 h2 ih;subst hn;unfold W0;simp only;by_cases he:e=0
  ·obtain⟨o1,l1,e1⟩:=h1 he;have ho:=deg e1;obtain⟨q',e',d1,d2,d3⟩:=one t (n+1) o1 l1 e1;rw[iq he,zb,za d1];refine ih _ ⟨n+1,by show(n:Int)+1=((n+1:Nat):Int);omega,d2,fun h=>⟨by omega,d3 h⟩⟩ ?_;rw[iq he];split
   ·show 20-((n:Int)+1).toNat<20-(n:Int).toNat;omega
   ·show 0<20-(n:Int).toNat;omega
  ·rw[ir he];exact⟨_,rfl,n,rfl,h2 he⟩) fu (0,q1,x1) ⟨0,rfl,c2,fun h=>⟨by omega,c3 h⟩⟩ (by
  show(if x1=0 then 20-(0:Int).toNat else 0)<fu;split<;>omega)
 refine⟨n,?_,n1,n2⟩;unfold u6;rw[za c1];simp only;rw[za hs]
def zb4(R:List Zr):Prop:=R.length<2\/(¬P7 R/\ ∃p,ZK R p)
theorem zd0(h:Rad a R):Zd (cf R) (cf a):=by
 obtain⟨g,fg,e⟩:=h.dv;rw[<-VV a,e];exact(Zd.left fg).mul _ (Fs.pc _)
theorem aG(ha:xc K a)(hK:K<=40000)(hl:a.length<=1000000)(h0:mi a≠0)(hf:3000000<=fu):yj fu a ds=some ((false,[]),[],mi a):=by
 unfold yj;rw[za (aA ha hK hl h0 hf)];simp only;rw[ir h0]
theorem be(ha:xc K a)(hK:K<=50)(hl:a.length<=40)(h0:mi a=0)(ht:(yq a).length<=11)(bA: ∀j,Bb B (cf a j))(hB:B<=3000)(hC:(B+7)*VN ((yq a).length-1)<=639000)(hk:(B+7)*VN ((yq a).length)<=2400000)(hd:Rl ds)(ho:ds.length<=1000)(hf:3000300<=fu):
 ∃R,wu fu a=some (R,0)/\Rad a R/\(∀j,Bb (B+(yq a).length+4) (cf R j))/\
  ((zb4 R/\ ∃l,yj fu a ds=some (yP (vg a),l,0)/\FL (cf a) l/\l.length<=12/\ ∀x∈l,Gd x.1/\x.2<=11)\/
   (¬zb4 R/\yj fu a ds=some ((false,[]),[],6))):=by
 have hr:=iM h0;have ta:=WY (a:=a) (by omega);obtain⟨R,r1,r2,r3⟩:=aZ (fu:=fu) ha (by omega) hl h0 bA (by omega) hC hk (by omega);have oR:xc 50 R:=by rw[<-r2.can];exact xg fun j=>(r3 j).bz (by omega)
 obtain⟨l,b,s1,s2,s3⟩:=gz (fu:=fu) r2.can r2.pm r2.ps oR (by decide) (by have:=r2.ln;omega) hd ho hf;refine⟨R,r1,r2,r3,?_⟩
 cases b with
 |false=>
  refine .inr ⟨fun h=>(by have:=s2.2 h;cases this),?_⟩;unfold yj;rw[za r1];simp only[if_true];rw[za s1];rfl
 |true=>
  obtain⟨g1,g2,g3,g4⟩:=s3 rfl;refine .inl ⟨s2.1 rfl,?_⟩;have he: ∀q∈l,Zd (cf q) (cf a):=fun q hq=>by
   refine Zd.trans ?_ (zd0 r2);rw[g2];obtain⟨A,D,e6⟩:=xdO hq;rw[e6,xaN,xbP,xK];refine Zd.mul _ (Fs.prZ fun f hf=> ?_) (Zd.left (Fs.prZ fun f hf=> ?_))
   ·obtain⟨g,_,rfl⟩:=xal.1 hf;exact Fs.cf g
   ·obtain⟨g,_,rfl⟩:=xal.1 hf;exact Fs.cf g
  have hj: ∀q∈l,∃n:Nat,u6 fu a q=some (n:Int)/\n<=11/\Mu (cf q) (cf a) n:=fun q hq=>by
   have hG:=g1 q hq;refine iC ha hK ta (by omega) hl bA hB hG ?_ (by omega);obtain⟨u,fu',e⟩:=he q hq;rw[<-hG.can];exact xg fun j=>(C6 ta (Fs.cf q) fu' (by rw[e,zg]) (by omega) bA j).bz (by omega)
  obtain⟨s,hs,out,rfl,o1,o2⟩:=yA (f:=Yb fu a l) (fun s:List (List Zr×Int)×Int×Zr×List (List Zr)=> ∃(i:Nat) (out:List (List Zr×Int)),s=(out,(i:Int),(false,[]),l)/\i<=l.length/\out.map (·.1)=l.take i/\ ∀x∈out,∃n:Nat,x.2=(n:Int)/\n<=11/\Mu (cf x.1) (cf a) n) (fun s=>l.length-s.2.1.toNat)
   (fun r=> ∃out:List (List Zr×Int),r=(out,(false,[]))/\out.map (·.1)=l/\ ∀x∈out,∃n:Nat,x.2=(n:Int)/\n<=11/\Mu (cf x.1) (cf a) n) (by
   rintro s L ⟨i,out,rfl,hi,h1,h2⟩ ih
   unfold Yb
   simp only
   by_cases hb:i<l.length
   ·have hm:l.getD i []∈l:=by
     rw[UV,IR hb];exact xbh hb
    obtain⟨n,n1,n2,n3⟩:=hj _ hm
    have hv:out.length=i:=by
     have:=congrArg xaF h1;rw[xaM,xay]at this;omega
    rw[zM,za rfl]
    simp only[if_true]
    rw[zp hb,zf,za n1,qZ (by simp only[xav,xcq];omega),zf,zb]
    refine ih _ ⟨i+1,_,rfl,by omega,?_,fun x hx=> ?_⟩ (by show l.length-((i:Int)+1).toNat<l.length-(i:Int).toNat;omega)
    ·rw[xaN,h1,xfj,IR hb,UV,IR hb]
     rfl
    ·rcases xaa.1 hx with hx|hx
     ·exact h2 x hx
     ·obtain rfl:=xai.1 hx
      exact⟨n,rfl,n2,n3⟩
   ·rw[zx,za rfl]
    simp only[xah,if_false]
    obtain rfl:i=l.length:=by omega
    rw[xcR]at h1
    exact⟨_,rfl,out,rfl,h1,h2⟩) fu ([],0,(false,[]),l) ⟨0,[],rfl,xaj _,by rw[List.take_zero];rfl,fun x hx=>absurd hx Nm⟩ (by show l.length-(0:Int).toNat<fu;omega)
  have hc: ∀x∈out,x.1∈l:=fun x hx=>by rw[<-o1];exact xbM hx
  refine⟨out,?_,⟨fun x hx=> ?_,fun q hq pq hz=> ?_,?_⟩,?_,fun x hx=>⟨g1 _ (hc x hx),?_⟩⟩
  ·unfold yj;rw[za r1];simp only[if_true];rw[za s1];simp only;rw[ir (by decide),za hs];simp only;rw[za (qT ha (by omega) (by omega) (by omega))]
  ·have hG:=g1 _ (hc x hx);obtain⟨n,n1,n2,n3⟩:=o2 x hx;refine⟨hG.can,hG.ir,hG.ps,?_,by rw[n1,xaR];exact n3⟩;by_cases hn:n=0
   ·exfalso;subst hn;obtain⟨u,fu',e,hu⟩:=n3;rw[show pp (cf x.1) 0=pc 1 from rfl,zY]at e;rw[<-e]at hu;exact hu (he _ (hc x hx))
   ·omega
  ·have h1:=r2.al q hq hz;rw[g2]at h1;obtain⟨f,hp,h2⟩:=hq.prz (fun f hf=>by obtain⟨g,_,rfl⟩:=xal.1 hf;exact Fs.cf g) h1;obtain⟨g,hg,rfl⟩:=xal.1 hp;have e:=hq.eq (g1 g hg).ir pq (g1 g hg).ps h2;rw[<-o1]at hg;obtain⟨x,hx,rfl⟩:=xal.1 hg;exact⟨x,hx,e.symm⟩
  ·have:=g3;rw[<-o1]at this;exact xez.1 this
  ·have:=congrArg xaF o1;rw[xaM]at this;omega
  ·obtain⟨n,n1,n2,n3⟩:=o2 x hx;omega
end
theorem eF{fu c k:Nat}{a:List Zr}(hc:c<=1000)(hf:3000000<=fu):kO fu (c:Int) (k:Int) a=some (decide (dN c k a)):=by
 unfold kO;by_cases h0:c<a.length
 ·rw[zM,decide_eq_false fun e=>by have:=e.1;omega]
 ·rw[zx,za (v:=if∀z∈a,z.2.length<=k then .inl ()else .inr ())]
  ·by_cases h: ∀z∈a,z.2.length<=k
   ·rw[iq h,decide_eq_true (show dN c k a from⟨by omega,h⟩)]
   ·rw[ir h,decide_eq_false fun e:dN c k a=>h e.2]
  ·refine zC (fun s:Int=> ∃j:Nat,s=(j:Int)/\j<=a.length/\ ∀t,t<j->(a.getD t (false,[])).2.length<=k) (fun s=>a.length-s.toNat) _ ?_ _ _ ⟨0,rfl,xaj _,fun t h=>absurd h (xbv _)⟩ (by show a.length-0<fu;omega);rintro s L ⟨j,rfl,hj,he⟩ ih;unfold Jo;by_cases h1:j<a.length
   ·rw[zM,zp h1,zf];by_cases h2:k<(a.getD j (false,[])).2.length
    ·rw[zM,ir (fun e=>by have:=e _ (Ou h1);omega)]
    ·rw[zx,zb];refine ih _ ⟨j+1,rfl,by omega,fun t h=> ?_⟩ (by omega);by_cases h3:t=j
     ·rw[h3];omega
     ·exact he t (by omega)
   ·rw[zx,iq (SB fun t h=>he t (by omega))]
theorem Ni{l:List (List Zr×Int)}{i:Nat}(h:i<l.length):l.getD i ([],0)∈l:=by
 rw[UV,IR h];exact xbh h
def Gl(l:List (List Zr×Int)):Prop:=l.length<=1000/\ ∀x∈l,Gd x.1
theorem px{fu:Nat}{l m:List (List Zr×Int)}(hl:Gl l)(h:l=m)(hf:3000000<=fu):Zi fu l m=some true:=by
 subst h;unfold Zi;have h1:=hl.1;rw[iq rfl,za (v:= .inl ())];refine zC (fun s:Int=> ∃j:Nat,s=(j:Int)/\j<=l.length) (fun s=>l.length-s.toNat) _ ?_ _ _ ⟨0,rfl,xaj _⟩ (by show l.length-0<fu;omega);rintro s L ⟨j,rfl,hj⟩ ih;unfold Ku;by_cases h2:j<l.length
 ·have hg:=hl.2 _ (Ni h2);have ha:=hg.ln;rw[zM,zp h2,zf,zp h2,zf,iq rfl,zp h2,zf,zp h2,zf,za (gD hg.ok (by decide) (by omega) hf),decide_eq_true rfl,ir (by decide),zb];exact ih _ ⟨j+1,rfl,by omega⟩ (by omega)
 ·rw[zx]
theorem P1{l:List Int}(h:(Ty.l .i).ok l):Rl l:=fun k=>by
 unfold ci;rw[UV];by_cases hk:k<l.length
 ·rw[IR hk];exact h.2 _ (xbh hk)
 ·rw[xaI (by omega)];exact⟨by decide,by decide⟩
theorem Ht{fu B m:Nat}{a:List Zr}{ds:List Int}(ha:xc m a)(hm:m<=50)(hl:a.length<=40)(hn:(yq a).length<=11)(bA: ∀j,Bb B (cf a j))(hB:B<=180)(hd:Rl ds)(hb:ds.length<=1000)(hf:3000300<=fu):
 (mi a≠0/\yj fu a ds=some ((false,[]),[],mi a))\/
 (mi a=0/\ ∃R,wu fu a=some (R,0)/\Rad a R/\(∀j,Bb (B+(yq a).length+4) (cf R j))/\
  ((zb4 R/\ ∃l,yj fu a ds=some (yP (vg a),l,0)/\FL (cf a) l/\l.length<=12/\ ∀x∈l,Gd x.1/\x.2<=11)\/
   (¬zb4 R/\yj fu a ds=some ((false,[]),[],6)))):=by
 by_cases h0:mi a=0
 ·refine .inr ⟨h0,?_⟩;have p1:=WO (i:=(yq a).length-1) (10-((yq a).length-1));have p2:=WO (i:=(yq a).length) (11-(yq a).length);rw[show(yq a).length-1+(10-((yq a).length-1))=10 by omega]at p1;rw[show(yq a).length+(11-(yq a).length)=11 by omega]at p2;have q1:VN 10=3363:=by decide
  have q2:VN 11=8119:=by decide
  have r1:=xbU (show B+7<=187 by omega) (show VN ((yq a).length-1)<=3363 by omega);have r2:=xbU (show B+7<=187 by omega) (show VN ((yq a).length)<=8119 by omega);exact be ha hm hl h0 hn bA (by omega) (by omega) (by omega) hd hb hf
 ·exact .inl ⟨h0,aG ha (by omega) (by omega) h0 (by omega)⟩
section
set_option maxRecDepth 100000
theorem Ea:VQ 4000000=some true:=by decide+kernel
end
theorem GV(a:List Zr)(x y:List Int)(ha:(Ty.l (.p .b (.l .u))).ok a)(hx:(Ty.l .i).ok x)(hy:(Ty.l .i).ok y):jm 4000000 a x y=some true:=by
 obtain⟨fu,hc⟩: ∃fu,fu=4000000:=⟨_,rfl⟩;have hb:=Ea;rw[<-hc]at hb⊢;have hf:3000300<=fu:=by omega
 unfold jm;have hd:kO fu 9 1 a=some (decide (dN 9 1 a)):=eF (c:=9) (k:=1) (by decide) (by omega);rw[za hb,za hd];by_cases hs:dN 9 1 a
 ·rw[decide_eq_true hs,ir (by decide)];by_cases he:20<x.length
  ·rw[zM]
  ·by_cases hi:20<y.length
   ·rw[zx,zM]
   ·rw[zx,zx];have pa:=zcV ha hs.2;have la:=hs.1;have na:=Vo a;have bA: ∀j,Bb 64 (cf a j):=fun j=>(pa.bz j).bb;have key: ∃c l e,yj fu a x=some (c,l,e)/\yj fu a y=some (c,l,e)/\Gl l:=by
     rcases Ht pa (by decide) (by omega) (by omega) bA (by decide) (P1 hx) (by omega) hf with⟨h0,e1⟩|⟨h0,R,r1,r2,r3,h1⟩
     ·rcases Ht pa (by decide) (by omega) (by omega) bA (by decide) (P1 hy) (by omega) hf with⟨_,e2⟩|⟨g0,_⟩
      ·exact⟨_,_,_,e1,e2,xaj _,fun x hx=>absurd hx Nm⟩
      ·exact absurd g0 h0
     ·rcases Ht pa (by decide) (by omega) (by omega) bA (by decide) (P1 hy) (by omega) hf with⟨g0,_⟩|⟨_,S,s1,s2,s3,g1⟩
      ·exact absurd h0 g0
      ·rw[r1]at s1;obtain rfl:R=S:=congrArg Prod.fst (xcY s1);rcases h1 with⟨hF,l,e1,f1,l1,d1⟩|⟨hF,e1⟩
       ·rcases g1 with⟨_,k,e2,f2,_,_⟩|⟨gF,_⟩
        ·obtain rfl:=f1.uniq f2;exact⟨_,_,_,e1,e2,by omega,fun x hx=>(d1 x hx).1⟩
        ·exact absurd hF gF
       ·rcases g1 with⟨gF,_⟩|⟨_,e2⟩
        ·exact absurd gF hF
        ·exact⟨_,_,_,e1,e2,xaj _,fun x hx=>absurd hx Nm⟩
    obtain⟨c,l,e,e1,e2,hg⟩:=key;rw[za e1];simp only;rw[za e2];simp only;rw[iq trivial,iq trivial,za (px hg rfl (by omega))]
 ·rw[decide_eq_false hs,iq (by decide)]
section
namespace zfacDraws
open Go.ChangeShapes Go.WideShapes Go.ChangeAt Go.RowKit
theorem own:ownKnob Tryz.prog.godebug=none:=by kernel_rfl
theorem atW:YI Tryz.prog .u 54:=id (by kernel_rfl:Tryz.prog.underlying 54=some (.int .u64))
theorem atB:YI Tryz.prog .b 4:=id (by kernel_rfl:Tryz.prog.underlying 4=some .bool)
theorem atL:YI Tryz.prog (.l .u) 28:=YI.sl (E:=54) (by kernel_rfl) (by kernel_rfl) (by decide) atW
theorem atZ:YI Tryz.prog (.p .b (.l .u)) 30:=YI.st (A:=4) (B:=28) (by kernel_rfl) (by kernel_rfl) (by kernel_rfl) (by kernel_rfl) atB atL
theorem atP:YI Tryz.prog (.l (.p .b (.l .u))) 22:=YI.sl (E:=30) (by kernel_rfl) (by kernel_rfl) (by decide) atZ
theorem Ow:YI Tryz.prog .i 3:=id (by kernel_rfl:Tryz.prog.underlying 3=some (.int .i64))
theorem zhh:YI Tryz.prog (.l .i) 23:=YI.sl (E:=3) (by kernel_rfl) (by kernel_rfl) (by decide) Ow
def sgO(M:JW [.d (.l (.p .b (.l .u))),.d (.l .i),.d (.l .i)]->Option Bool):W1:=⟨6,[.d (.l (.p .b (.l .u))),.d (.l .i),.d (.l .i)],[.d .b],M,0⟩
set_option maxRecDepth 100000 in
theorem lifted{M:JW [.d (.l (.p .b (.l .u))),.d (.l .i),.d (.l .i)]->Option Bool}(hs:y5 Tryz.prog (sgO M))(hz: ∀x,SS [.d (.l (.p .b (.l .u))),.d (.l .i),.d (.l .i)] x->M x=some true)(os:Os)(started:os.Started)(H:Type)(enc:TypeId×Value->H):
 ReturnsInHanded {} Tryz.checked os 6 .any (Rows.zfacDrawsSpec.pre6 enc Tryz.prog Tryz.f6 Rows.zfacDrawsRow.domain false) (Rows.zfacDrawsSpec.post enc Tryz.prog Tryz.f6 false true false false):=by
 refine returnsInHanded_of_change (C:=Tryz.checked) own started (by kernel_rfl) Tryz.func6
  (ChangeSpec.witness6 (enc:=enc) (C:=Tryz.checked) false ⟨#[],#[.slice none 0 0,.slice none 0 0,.slice none 0 0],[]⟩ 8 (by kernel_rfl) (by kernel_rfl) (by kernel_rfl) (by kernel_rfl)) ?_
 intro W base args ds gs before ha hW hf _;have hb: ∀(j:Nat) t v,Tryz.f6.params[j]? =some t->args[j]? =some v->xea Tryz.prog W .any base t v:=ha;have hc:=hW;obtain⟨p,q,hd,hV,_,_,_⟩:=hW;have hA:xex enc Tryz.prog W 0 (fun _=>true) true Tryz.f6.params.toList args.toList ds p:=hd;rw[Tryz.params6]at hA;obtain⟨v0,vs0,d0,ds0,p0,q0,he,rfl,_,_,r0⟩:=trodAll_cons hA;obtain⟨v1,vs1,d1,ds1,p1,q1,_,rfl,_,_,r1⟩:=trodAll_cons r0;obtain⟨v2,vs2,d2,ds2,p2,q2,_,rfl,_,_,r2⟩:=trodAll_cons r1;obtain⟨_,rfl,_⟩:=trodAll_nil r2;obtain⟨rfl,_⟩:=trodVars_none hV
 exact zb7 (sg:=sgO M) hc rfl hb (by kernel_rfl) (by rw[Tryz.params6];decide+kernel) (by rw[Tryz.params6];exact⟨atP,zhh,zhh,trivial⟩) rfl hs
  (fun x hx=>hz x hx) (B:=4) (by kernel_rfl) Tryz.underlying4 rfl
set_option maxRecDepth 100000 in
theorem fnm:Tryz.pinned.checked.prog.funcNamed Rows.zfacDrawsRow.func=some 6:=by kernel_rfl
set_option maxRecDepth 100000 in
set_option maxHeartbeats 4000000 in
theorem jf:joinedFacts Tryz.pinned.checked.prog 6 Tryz.f6 Rows.zfacDrawsSpec Rows.zfacDrawsRow=true:=by
 unfold joinedFacts;simp only[xam];repeat' apply xfr
 all_goals (as_aux_lemma=>kernel_rfl)
theorem over:Rows.zfacDrawsRow.holds Tryz.pinned (OpenSpec.ofChange Rows.zfacDrawsSpec):=
 OpenClaim.holds_of_wide 6 Tryz.f6 rfl rfl rfl rfl rfl rfl rfl ⟨rfl,rfl,rfl,rfl,rfl⟩ rfl rfl rfl rfl rfl fnm Tryz.func6 jf
  (of_decide_eq_true (by kernel_rfl)) (by unfold Func.isWrapper;first|(rw[iq (by decide+kernel)];kernel_rfl)|(rw[ir (by decide+kernel)];exact⟨rfl,rfl⟩))
  (fun os started H enc _=>lifted (M:=fun x=>jm 4000000 x.1 x.2.1 x.2.2.1) (bS 4000000) (fun x hx=>GV x.1 x.2.1 x.2.2.1 hx.1 hx.2.1 hx.2.2.1) os started H enc)
theorem proved:Rows.ZfacDrawsSaid:=
 over
end zfacDraws
end
end Go.Proofs.YtmggkmchbdanfaaGreat
