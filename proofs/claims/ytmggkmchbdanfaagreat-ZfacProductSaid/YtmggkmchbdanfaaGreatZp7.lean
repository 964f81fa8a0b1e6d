/- A polynomial is its content times its factors, each as often as is told, in order, and none of them can be parted: for every input. No condition. -/
import Derived.Test.YtmggkmchbdanfaaGreatZp6
set_option linter.unusedVariables false
set_option linter.unusedSimpArgs false
namespace Go.Proofs.YtmggkmchbdanfaaGreat
open And renaming intro->xfs
open Bool renaming and_eq_true->xam,false_eq_true->xak
open Classical renaming byContradiction->xad
open DataW renaming TrodAll->xey
open Int renaming add_zero->xbx,dvd_mul_left->xcL,dvd_mul_right->xck,dvd_neg->xfK,dvd_of_emod_eq_zero->xaH,dvd_refl->xdO,dvd_trans->xbC,emod_emod->xaD,emod_emod_of_dvd->xcC,emod_eq_emod_iff_emod_sub_eq_zero->xaI,emod_eq_of_lt->xaz,emod_eq_zero_of_dvd->xax,eq_ofNat_of_zero_le->xaC,le_of_lt->xdC,le_refl->xeS,mul_add->xeR,mul_assoc->xbH,mul_comm->xbi,mul_dvd_mul->xfJ,mul_emod->xbo,mul_eq_zero->xex,mul_le_mul_of_nonneg_left->xaW,mul_le_mul_of_nonneg_right->xby,mul_ne_zero->xdt,mul_nonneg->xcz,mul_one->xcf,mul_zero->xas,natAbs_dvd_natAbs->xcm,natAbs_ediv_le_natAbs->xdp,natAbs_mul->xcb,natAbs_natCast->xbb,natCast_add->xdV,natCast_mul->xeX,one_mul->xbX,pow_nonneg->xfo,pow_succ->xbk,pow_zero->xbs,sub_self->xcX,sub_zero->xcB,toNat_natCast->xaM,zero_add->xcA,zero_ediv->xfC,zero_emod->xag,zero_mul->xaQ
open List renaming append_nil->xbN,append_of_mem->xdP,drop_eq_getElem_cons->xcv,drop_eq_nil_of_le->xcg,ext_getElem->xeK,filter_cons->xdh,filter_cons_of_neg->xff,filter_cons_of_pos->xfe,getD_eq_getElem?_getD->UV,getElem?_append_left->xbn,getElem?_append_right->xcj,getElem?_drop->xen,getElem?_eq_getElem->IR,getElem?_eq_none->xaJ,getElem?_map->xaB,getElem?_replicate->xeY,getElem?_take->xbU,getElem_map->xfz,getElem_mem->xbh,length->xaG,length_append->xau,length_cons->xav,length_drop->xbQ,length_eq_zero_iff->xbG,length_filter_le->xfx,length_map->xaN,length_nil->xcs,length_range->xcy,length_replicate->xaU,length_set->xcG,length_take->xay,map_append->xaO,map_congr_left->xbO,map_cons->xbR,map_map->xcP,mem_append->Nm,mem_cons->xae,mem_cons_of_mem->H1,mem_cons_self->FS,mem_filter->xbY,mem_iff_getElem->xdy,mem_map->xai,mem_map_of_mem->xbI,mem_of_mem_drop->xeE,mem_or_eq_of_mem_set->xeG,mem_range->xaS,mem_singleton->xah,nil_append->xbF,not_mem_nil->xaa,pairwise_append->xdg,pairwise_cons->xcM,pairwise_iff_forall_sublist->xdj,pairwise_iff_getElem->xcp,pairwise_map->xeb,range->xbc,range_succ->xdD,replicate->xaf,take_add_one->xez,take_append_drop->xbK,take_length->xcK
open Nat renaming add_comm->xdA,add_mul->xaV,add_sub_cancel->xeo,add_zero->xch,le_mul_of_pos_left->xdk,le_mul_of_pos_right->xcl,le_of_lt->xcO,le_of_not_lt->xbw,le_refl->xac,le_trans->xao,lt_of_le_of_lt->xbd,lt_of_lt_of_le->xap,mul_add->xbm,mul_le_mul->xbE,mul_le_mul_left->xaA,mul_le_mul_right->xar,mul_left_comm->xea,mul_lt_mul''->xdK,mul_lt_mul_of_pos_right->xbT,mul_one->xcD,mul_zero->xdi,not_lt_zero->xbv,one_mul->xcn,pow_add->xbW,pow_le_pow_right->xaK,pow_lt_pow_right->xeF,pow_mul->xdc,pow_pos->xbp,pow_succ->xbu,sub_self->xcW,zero_add->xaT,zero_le->xaj,zero_mul->xcI
open Option renaming getD_some->xdI
open Option.some renaming injEq->xaw
open Prod renaming ext->xeL
open Prod.mk renaming injEq->xcu
open Value renaming okWide->xec
section
variable{a b k:Nat}{p:Int}{f u v g q:Pz}
theorem zdO{A B:Pz}{d e:Nat}(hA:Mn A d)(hB:Mn B e):Mn (A*B) (d+e):=
 ⟨by rw[Xi hA.2 hB.2,hA.1,hB.1];rfl,fun k hk=>vA (n:=d+1) (m:=e+1) (fun j hj=>hA.2 j (by omega)) (fun j hj=>hB.2 j (by omega)) (by omega)⟩
theorem zaN: ∀{l:List Pz},(∀A∈l,∃d,Mn A d)-> ∃d,Mn (prZ l) d
 |[],_=>⟨0,rfl,fun k hk=>by show pc 1 k=0;unfold pc;rw[zx]⟩
 |A::l,h=>by
  obtain⟨d,hd⟩:=h A (FS);obtain⟨e,he⟩:=zaN fun B hB=>h B (H1 _ hB);exact⟨d+e,zdO hd he⟩
theorem a6{α:Type}(F:α->Pz)(P:α->Bool): ∀l:List α,prZ (l.map F)=prZ ((l.filter P).map F)*prZ ((l.filter fun x=> !P x).map F)
 |[]=>(zL _).symm
 |x::l=>by
  have ih:=a6 F P l
  cases h:P x with
  |true=>
   rw[xfe h,xff (by rw[h];decide)];show F x*_=F x*_*_;rw[ih,zb]
  |false=>
   rw[xff (by rw[h];decide),xfe (by rw[h];rfl)];show F x*_=_*(F x*_);rw[ih,zy]
theorem GY{P:Int}(hp:wG P=true){a b:Pz}{c:Int}(fa:Fs a)(fb:Fs b)(h:Cg P (a*b) (pc c))(hc: ¬P∣c): ∃x,Cg P a (pc x):=by
 obtain⟨p1,p2⟩:=zo hp;obtain⟨Q,rfl⟩:=xaC (show 0<=P by omega);have he:=Yg hp;rw[xaM]at he;have red: ∀f:Pz,Fs f-> ¬Cg (Q:Int) f (pc 0)-> ∃g n,Tp g n/\Cg (Q:Int) g f/\ ¬(Q:Int)∣g n:=fun f ff hn=>by
  have f2:Fs (fun k=>f k % (Q:Int)):=by
   obtain⟨n,hn⟩:=ff;exact⟨n,fun k hk=>by show f k % _=0;rw[hn k hk,xag]⟩
  obtain⟨n,h1⟩:=Tp.ex f2 (xad fun hz=>hn fun k=>by
   have:=Nz.not hz k;rw[zM,xag];exact this)
  exact⟨_,n,h1,fun k=>xaD _ _,fun hd=>h1.1 (by
   show f n % _=0;have:=xax hd;rwa[xaD]at this)⟩
 have ha: ¬Cg (Q:Int) a (pc 0):=fun e=>hc (by
  have:=(h.symm.trans (e.mul_zero_r b)).dvd 0;unfold pc at this;rwa[iq rfl]at this)
 have hb: ¬Cg (Q:Int) b (pc 0):=fun e=>hc (by
  have:=(h.symm.trans (e.mul_zero_l a)).dvd 0;unfold pc at this;rwa[iq rfl]at this)
 obtain⟨u,i,u1,u2,u3⟩:=red a fa ha;obtain⟨v,j,v1,v2,v3⟩:=red b fb hb;have h1:=(u2.mul v2).trans h;by_cases hf:i=0
 ·subst hf;obtain⟨x,rfl⟩:=((JN.tp u1).2 rfl).ex;exact⟨x,u2.symm⟩
 ·exfalso;have h2:=h1 (i+j);rw[Xi u1.2 v1.2,show pc c (i+j)=0 from zx,xag]at h2;rcases Cd (by omega) he (xaH h2)with h3|h3
  ·exact u3 h3
  ·exact v3 h3
theorem cy{p a:Int}(hp:wG p=true)(ha:a % p≠0): ∀k,∃w,p^k∣w*a-1
 |0=>⟨0,by rw[xbs];exact Int.one_dvd _⟩
 |k+1=>by
  obtain⟨p1,p2⟩:=zo hp;by_cases hk:k=0
  ·subst hk;obtain⟨Q,rfl⟩:=xaC (show 0<=p by omega);obtain⟨w,hw⟩:=La hp (d:=a) fun h=>ha (xax h);exact⟨w,by rw[xbk,xbs,xbX];exact hw⟩
  ·obtain⟨w,hw⟩:=cy hp ha k;refine⟨w*(2-w*a),?_⟩;have e:w*(2-w*a)*a-1= -((w*a-1)*(w*a-1)):=by
    generalize hx:w*a=x;have:w*(2-x)*a=x*(2-x):=by rw[xbH,xbi (2-x) a,<-xbH,hx]
    rw[this];grind
   rw[e];refine xfK.2 (xbC (Ui (i:=k+1) (j:=k+k) (by omega)) ?_);rw[Int.pow_add];exact xfJ hw hw
abbrev Lx:=List Zr×List Int
def pu(xs:List Lx):Pz:=prZ (xs.map fun x=>(cf x.1:Pz))
def pl(xs:List Lx):Pz:=prZ (xs.map fun x=>(ci x.2:Pz))
theorem zdo(xs:List Lx):Fs (pu xs):=Fs.prZ fun f hf=>by
 obtain⟨x,_,rfl⟩:=xai.1 hf;exact Fs.cf _
theorem zig(xs:List Lx):Fs (pl xs):=Fs.prZ fun f hf=>by
 obtain⟨x,_,rfl⟩:=xai.1 hf;exact Fs.ci _
structure Lc(p:Int)(k:Nat)(f:Pz)(n:Nat)(xs:List Lx):Prop where
 hp:wG p=true
 k1:1<=k
 el: ∀x∈xs,Up p k x.1 x.2/\Vs p x.2/\x.2.length<=66
 pw:xs.Pairwise fun a b=>qH p (ci a.2) (ci b.2)
 tp:Tp f n
 nb:n<=64
 ps:0<f n
 lc:f n % p≠0
 pm:Pm f
 cg:Cg (p^k) f (pc (f n)*pu xs)
theorem zgH{x:Lx}(h:Up p k x.1 x.2/\Vs p x.2/\x.2.length<=66):Mn (cf x.1) (x.2.length-1):=by
 obtain⟨h1,h2,_⟩:=h;have h3:=h1.top;have h4:=h2.l1;rw[h1.len]at h3;exact⟨h3,fun j hj=>z6 (by rw[h1.len];omega)⟩
theorem E8{p:Int}{k:Nat}: ∀{xs:List Lx},(∀x∈xs,Up p k x.1 x.2/\Vs p x.2/\x.2.length<=66)->Cg p (pu xs) (pl xs)
 |[],_=>Cg.rfl
 |x::xs,h=>(h x (FS)).1.cg.mul (E8 fun y hy=>h y (H1 _ hy))
theorem zhr{xs:List Lx}(h: ∀x∈xs,Up p k x.1 x.2/\Vs p x.2/\x.2.length<=66): ∃d,Mn (pu xs) d:=zaN fun A hA=>by
 obtain⟨x,hx,rfl⟩:=xai.1 hA;exact⟨_,zgH (h x hx)⟩
theorem Sp{xs:List Lx}(h: ∀x∈xs,Up p k x.1 x.2/\Vs p x.2/\x.2.length<=66): ∃d,Mn (pl xs) d:=zaN fun A hA=>by
 obtain⟨x,hx,rfl⟩:=xai.1 hA;exact⟨_,(h x hx).2.1.mn.mn⟩
theorem Lc.lcp{n:Nat}{xs:List Lx}(h:Lc p k f n xs):Cg p f (pc (f n)*pl xs):=
 (h.cg.down (qV h.k1)).trans (Cg.rfl.mul (E8 h.el))
theorem Lc.sf{n:Nat}{xs:List Lx}(h:Lc p k f n xs): ∃(m:List Int) (w:Int),Sf p m (xs.map (·.2))/\Cg p (ci m) (pc w*f):=by
 obtain⟨p1,p2⟩:=zo h.hp;obtain⟨w,hw⟩:=cy h.hp h.lc 1;rw[xbk,xbs,xbX]at hw;have hz: ∀k,n+1<=k->(fun k=>(w*f k) % p) k=0:=fun k hk=>by
  show(w*f k) % p=0;rw[h.tp.2 k (by omega),xas,xag]
 have hb:(w*f n) % p=1:=by
  have:=(xcC (w*f n) (xdO p));have h2:(w*f n) % p=1 % p:=xaI.2 (xax hw);rw[h2,xaz (by decide) (by omega)]
 have ha:=mI hz;have hc:=gJ (n+1) (fun k=>(w*f k) % p);have hf:=Aa (n+1) (fun k=>(w*f k) % p);obtain⟨m,hm⟩: ∃m,m=nl (n+1) (fun k=>(w*f k) % p):=⟨_,rfl⟩;rw[<-hm]at ha hc hf;have hd:m.length=n+1:=by
  by_cases e:m.length=n+1
  ·exact e
  ·have:=ha n;rw[zQ (by omega)]at this;have h3:(w*f n) % p=0:=this.symm;omega
 have he:Cg p (ci m) (pc w*f):=fun k=>by rw[ha k,zD];exact xaD _ _
 refine⟨m,w,⟨h.hp,⟨⟨fun k=>by rw[ha k];exact(yh (by omega)).1,fun k=>by rw[ha k];exact(yh (by omega)).2,hc⟩,by omega,by rw[ha];show(w*f (m.length-1)) % p=1;rw[hd];exact hb⟩,by have:=h.nb;omega,fun u hu=> ?_,?_,?_⟩,he⟩
 ·obtain⟨x,hx,rfl⟩:=xai.1 hu;obtain⟨_,h2,h3⟩:=h.el x hx;exact⟨h2,by omega⟩
 ·exact xeb.2 h.pw
 ·refine he.trans ((Cg.rfl.mul h.lcp).trans ?_);rw[<-zb,qL,xcP];refine Cg.trans (Cg.mul (f':=pc 1) (fun j=> ?_) Cg.rfl) (Cg.of (zt _));unfold pc;split
  ·rw[hb];exact(xaz (by decide) (by omega)).symm
  ·rfl
noncomputable def own(p:Int)(u:Pz)(xs:List Lx):List Lx:=by
 classical exact xs.filter fun x=>decide (Di p (ci x.2) u)
noncomputable def Dx(p:Int)(u:Pz)(xs:List Lx):List Lx:=by
 classical exact xs.filter fun x=> !decide (Di p (ci x.2) u)
theorem Jo{xs:List Lx}{x:Lx}:x∈own p u xs↔x∈xs/\Di p (ci x.2) u:=by
 classical
 unfold own;rw[xbY,decide_eq_true_iff]
theorem M8(p:Int)(u:Pz)(xs:List Lx):pu xs=pu (own p u xs)*pu (Dx p u xs)/\pl xs=pl (own p u xs)*pl (Dx p u xs):=by
 classical
 exact⟨a6 _ _ xs,a6 _ _ xs⟩
theorem Lc.or{n:Nat}{xs:List Lx}(h:Lc p k f n xs)(fu:Fs u)(fv:Fs v)(ub: ∀j,b<=j->u j=0)(hb:b<=290)(e:f=u*v){x:Lx}(hx:x∈xs):(Di p (ci x.2) u\/Di p (ci x.2) v)/\ ¬(Di p (ci x.2) u/\Di p (ci x.2) v):=by
 obtain⟨m,w,hS,hm⟩:=h.sf;obtain⟨h1,h2,h3⟩:=h.el x hx;have ha:x.2∈xs.map (·.2):=xbI hx;constructor
 ·rcases h2.or' h.hp (by omega) ub hb with hd|hc
  ·exact .inl hd
  ·right;have hf:Di p (ci x.2) f:=by
    refine Di.cg ?_ h.lcp.symm;exact(Jj (fun y hy=>by obtain⟨z,_,rfl⟩:=xai.1 hy;exact Fs.ci _) (xbI (f:=fun x:Lx=>(ci x.2:Pz)) hx)).mul _ (Fs.pc _)
   rw[e]at hf;exact Di.euclid fv hc hf
 ·rintro⟨d1,d2⟩;exact hS.apart fu fv ⟨pc w,Fs.pc w,by rw[<-e];exact hm⟩ ha d1 d2
theorem Lc.oth_own{n:Nat}{xs:List Lx}(h:Lc p k f n xs)(fu:Fs u)(fv:Fs v)(ub: ∀j,b<=j->u j=0)(hb:b<=290)(e:f=u*v):Dx p u xs=own p v xs:=by
 classical
 unfold Dx own;refine List.filter_congr fun x hx=> ?_;obtain⟨h1,h2⟩:=h.or fu fv ub hb e hx;by_cases hd:Di p (ci x.2) u
 ·rw[decide_eq_true hd,decide_eq_false fun hv=>h2 ⟨hd,hv⟩];rfl
 ·rw[decide_eq_false hd,decide_eq_true (h1.resolve_left hd)];rfl
theorem Lc.pcop{n:Nat}{xs:List Lx}(h:Lc p k f n xs):(own p u xs).Pairwise (fun a b=>qH p (ci a.2) (ci b.2)):=by
 classical
 unfold own;exact h.pw.sublist List.filter_sublist
theorem Lc.odv{n:Nat}{xs:List Lx}(h:Lc p k f n xs)(fu:Fs u):Di p (pl (own p u xs)) u:=by
 refine Di.prz fu (fun y hy=>by obtain⟨z,_,rfl⟩:=xai.1 hy;exact Fs.ci _) (xeb.2 h.pcop) fun y hy=> ?_;obtain⟨z,hz,rfl⟩:=xai.1 hy;exact(Jo.1 hz).2
theorem oJ{n:Nat}{xs:List Lx}(h:Lc p k f n xs)(u:Pz): ∀x∈own p u xs,Up p k x.1 x.2/\Vs p x.2/\x.2.length<=66:=fun x hx=>h.el x (Jo.1 hx).1
theorem Lc.loc{n:Nat}{xs:List Lx}(h:Lc p k f n xs)(hu:Tp u a)(hv:Tp v b)(e:f=u*v):Cg p u (pc (u a)*pl (own p u xs))/\Mn (pl (own p u xs)) a:=by
 obtain⟨p1,p2⟩:=zo h.hp;have fu:=hu.fs;have fv:=hv.fs;have he:a+b=n:=by
  have:=hu.mul hv;rw[<-e]at this;exact this.uniq h.tp
 have hf:f n=u a*v b:=by rw[<-he,e,Xi hu.2 hv.2]
 have ho:Dx p u xs=own p v xs:=h.oth_own fu fv (b:=a+1) (fun j hj=>hu.2 j (by omega)) (by have:=h.nb;omega) e;obtain⟨α,fα,h1⟩:=h.odv fu;obtain⟨β,fβ,h2⟩:=h.odv fv;obtain⟨d0,hg⟩:=Sp h.el;have ha:=(M8 p u xs).2;rw[ho]at ha;have h3:Cg p ((α*β-pc (f n))*pl xs) (pc 0):=by
  rw[w7];refine Cg.iff_sub.1 (Cg.trans ?_ h.lcp);rw[e];refine Cg.trans (Cg.of ?_) (h1.mul h2).symm;rw[ha,zb α,zb α,zy (pl (own p u xs)) β]
 have h4:=hg.zero p1 ((fα.mul fβ).subt (Fs.pc _)) fun j _=>by rw[h3 j,zM,xag]
 have hb: ¬p∣f n:=fun hd=>h.lc (xax hd);obtain⟨x,hx⟩:=GY h.hp fα fβ (Cg.iff_sub.2 h4) hb;have h5:Cg p u (pc x*pl (own p u xs)):=h1.trans (hx.mul Cg.rfl);obtain⟨d,hd⟩:=Sp (oJ h u);have hc: ¬p∣u a:=fun hd=>hb (by rw[hf];exact xbC hd (xck _ _));have t1:=h5 a;have t2:=h5 d;rw[zD]at t1 t2;rw[hd.1,xcf]at t2;have hi:a=d:=by
  by_cases c1:a<d
  ·exfalso;rw[hu.2 d c1,xag]at t2;refine hc (xaH ?_);rw[t1,xbo,<-t2,xaQ,xag]
  ·by_cases c2:d<a
   ·exfalso;rw[hd.2 a c2,xas,xag]at t1;exact hc (xaH t1)
   ·omega
 subst hi;refine⟨h5.trans (Cg.mul (fun j=> ?_) Cg.rfl),hd⟩;unfold pc;split
 ·exact t2.symm
 ·rfl
theorem Lc.up{n:Nat}{xs:List Lx}(h:Lc p k f n xs)(hu:Tp u a)(hv:Tp v b)(e:f=u*v):Cg (p^k) u (pc (u a)*pu (own p u xs)):=by
 obtain⟨p1,p2⟩:=zo h.hp;have fu:=hu.fs;have fv:=hv.fs;have hp:a+b=n:=by
  have:=hu.mul hv;rw[<-e]at this;exact this.uniq h.tp
 have hb:f n=u a*v b:=by rw[<-hp,e,Xi hu.2 hv.2]
 have hl: ¬p∣f n:=fun hd=>h.lc (xax hd);have hq:u a % p≠0:=fun hd=>hl (by rw[hb];exact xbC (xaH hd) (xck _ _));have hr:v b % p≠0:=fun hd=>hl (by rw[hb];exact xbC (xaH hd) (xcL _ _));have ho:Dx p u xs=own p v xs:=h.oth_own fu fv (b:=a+1) (fun j hj=>hu.2 j (by omega)) (by have:=h.nb;omega) e;obtain⟨l1,m1⟩:=h.loc hu hv e;obtain⟨l2,m2⟩:=h.loc hv hu (by rw[e,zg]);obtain⟨w,hw⟩:=cy h.hp hq k;obtain⟨z,hz⟩:=cy h.hp hr k;have hk:=qV (p:=p) h.k1;have one: ∀{M c d:Int},M∣c*d-1->Cg M (pc c*pc d) (pc 1):=fun{M c d} hd j=>by
  rw[qL];unfold pc;split
  ·exact xaI.2 (xax hd)
  ·rfl
 have hA: ∃A:Pz,Mn A a/\Fs A/\Cg (p^k) A (pc w*u):=by
  refine⟨fun j=>if j=a then 1 else w*u j,⟨iq rfl,fun j hj=> ?_⟩,⟨a+1,fun j hj=> ?_⟩,fun j=> ?_⟩
  ·show(if j=a then(1:Int)else w*u j)=0;rw[zx,hu.2 j hj,xas]
  ·show(if j=a then(1:Int)else w*u j)=0;rw[zx,hu.2 j (by omega),xas]
  ·show(if j=a then(1:Int)else w*u j) % _=_;rw[zD];by_cases c:j=a
   ·rw[iq c,c];exact(xaI.2 (xax hw)).symm
   ·rw[ir c]
 obtain⟨A,mA,fA,cA⟩:=hA;obtain⟨dA,he⟩:=zhr (oJ h u);have hf:=E8 (oJ h u);have hs:=E8 (oJ h v);have cu:Cg p A (pl (own p u xs)):=by
  refine(cA.down hk).trans ((Cg.rfl.mul l1).trans ?_);rw[<-zb];exact(Cg.mul (one (xbC hk hw)) Cg.rfl).trans (Cg.of (zt _))
 have cv:Cg p (pc z*v) (pl (own p v xs)):=by
  refine(Cg.rfl.mul l2).trans ?_;rw[<-zb];exact(Cg.mul (one (xbC hk hz)) Cg.rfl).trans (Cg.of (zt _))
 have mu:Mn (pu (own p u xs)) a:=by
  have t1:=(hf.trans cu.symm) a;have t2:=(hf.trans cu.symm) dA;rw[mA.1]at t1;rw[he.1]at t2;have ha:(1:Int) % p=1:=xaz (by decide) (by omega);have:dA=a:=by
   by_cases c1:dA<a
   ·rw[he.2 a c1,xag,ha]at t1;cases t1
   ·by_cases c2:a<dA
    ·rw[mA.2 dA c2,xag,ha]at t2;cases t2
    ·omega
  rw[<-this];exact he
 have hm:qH p (pl (own p u xs)) (pl (own p v xs)):=by
  have:=sW (p:=p) (A:=(own p u xs).map (·.2)) (B:=(own p v xs).map (·.2)) fun c hc d hd=>by
   obtain⟨x,hx,rfl⟩:=xai.1 hc;obtain⟨y,hy,rfl⟩:=xai.1 hd;have hg:=Jo.1 hx;have hn:=Jo.1 hy;obtain⟨_,i1,i2⟩:=h.el x hg.1;obtain⟨_,i3,i4⟩:=h.el y hn.1;refine i1.cop h.hp i3 (by omega) (by omega) fun ee=> ?_;have:=(h.or fu fv (b:=a+1) (fun j hj=>hu.2 j (by omega)) (by have:=h.nb;omega) e hg.1).2;exact this ⟨hg.2,by rw[ee];exact hn.2⟩
  rw[xcP,xcP]at this;exact this
 have hi:Cg (p^k) (A*(pc z*v)) (pu (own p u xs)*pu (own p v xs)):=by
  have e1:=(M8 p u xs).1;rw[ho]at e1;rw[<-e1];refine(cA.mul Cg.rfl).trans ?_;have e2:pc w*u*(pc z*v)=pc w*(pc z*f):=by rw[e,zb,zy u (pc z) v]
  rw[e2];refine(Cg.mul Cg.rfl (Cg.mul Cg.rfl h.cg)).trans ?_;have e3:pc w*(pc z*(pc (f n)*pu xs))=(pc w*pc (u a))*((pc z*pc (v b))*pu xs):=by
   rw[hb,<-zb,<-zb,<-zb,qL,qL,qL,qL,qL];congr 2;grind
  rw[e3];exact(Cg.mul (one hw) ((Cg.mul (one hz) Cg.rfl).trans (Cg.of (zt _)))).trans (Cg.of (zt _))
 obtain⟨r1,_⟩:=FH p1 mA mu fA (zdo _) ((Fs.pc z).mul fv) (zdo _) (hm.congr cu.symm cv.symm) (cu.trans hf.symm) (cv.trans hs.symm) k hi;refine Cg.trans ?_ (Cg.rfl.mul r1);refine Cg.trans ?_ (Cg.rfl.mul cA.symm);rw[<-zb];refine Cg.symm ((Cg.mul (one (d:=w) ?_) Cg.rfl).trans (Cg.of (zt _)));rw[xbi];exact hw
theorem Lc.step{n:Nat}{xs:List Lx}(h:Lc p k f n xs)(hg:Tp g a)(hq:Tp q b)(pg:0<g a)(e:f=q*g):Lc p k q b (Dx p g xs):=by
 have e2:f=g*q:=by rw[e,zg]
 have hc:a+b=n:=by
  have:=hg.mul hq;rw[<-e2]at this;exact this.uniq h.tp
 have ha:f n=g a*q b:=by rw[<-hc,e2,Xi hg.2 hq.2]
 have ho:Dx p g xs=own p q xs:=h.oth_own hg.fs hq.fs (b:=a+1) (fun j hj=>hg.2 j (by omega)) (by have:=h.nb;omega) e2;have hb:=h.ps;rw[ho];refine⟨h.hp,h.k1,oJ h q,h.pcop,hq,by have:=h.nb;omega,?_,fun hd=> ?_,?_,h.up hq hg e⟩
 ·rw[ha]at hb;exact Int.pos_of_mul_pos_right hb pg
 ·exact h.lc (by rw[ha];exact xax (xbC (xaH hd) (xcL _ _)))
 ·have:=h.pm;rw[e]at this;exact this.left
theorem Lc.pick{n:Nat}{xs S:List Lx}(h:Lc p k f n xs)(hS: ∀x∈S,x∈xs)(hg:Tp g a)(hq:Tp q b)(e:f=g*q){γ:Int}(hc:Cg p (pc γ*g) (pc (f n)*pl S)){x:Lx}(hx:x∈xs):Di p (ci x.2) g↔x∈S:=by
 obtain⟨p1,p2⟩:=zo h.hp;have hb: ¬p∣f n:=fun hd=>h.lc (xax hd);have elS:=fun y hy=>h.el y (hS y hy);obtain⟨d,hd⟩:=Sp elS;have hγ: ¬p∣γ:=fun hf=>hb (by
  have t:=hc d;rw[zD,zD,hd.1,xcf]at t;refine xaH ?_;rw[<-t];exact xax (xbC hf (xck _ _)))
 obtain⟨_,i1,i2⟩:=h.el x hx;have unit: ∀{c:Int} {y:Pz},¬p∣c->Fs y->Di p (ci x.2) (pc c*y)->Di p (ci x.2) y:=fun{c y} hc fy hd=>by
  rcases i1.or' h.hp (by omega) (f:=pc c) (n:=1) (fun k hk=>by unfold pc;rw[zx]) (by decide)with h1|h1
  ·exact absurd (i1.const p1 h1) hc
  ·exact Di.euclid fy h1 hd
 constructor
 ·intro h1;have h2:Di p (ci x.2) (pl S):=unit hb (zig S) ((h1.mul (pc γ) (Fs.pc γ)).cg hc);have h3:=i1.mem h.hp (us:=S.map (·.2)) (by omega) (fun w hw=>by
   obtain⟨y,hy,rfl⟩:=xai.1 hw;obtain⟨_,j1,j2⟩:=elS y hy;exact⟨j1,by omega⟩) (by rw[xcP];exact h2)
  obtain⟨y,hy,e2⟩:=xai.1 h3;have:x=y:=by
   by_cases ne:x=y
   ·exact ne
   ·exfalso;have X3:=h.pw;have ha:qH p (ci x.2) (ci y.2):=by
     obtain⟨A,B,e3⟩:=xdP hx;have he:=hS y hy;rw[e3]at he X3;rw[xdg,xcM]at X3;rcases Nm.1 he with h4|h4
     ·exact(X3.2.2 y h4 x (FS)).symm
     ·rcases xae.1 h4 with h5|h5
      ·exact absurd h5.symm ne
      ·exact X3.2.1.1 y h5
    rw[e2]at ha;exact i1.self p1 ha
  rw[this];exact hy
 ·intro h1;refine unit hγ hg.fs (Di.cg ?_ hc.symm);exact(Jj (fun y hy=>by obtain⟨z,_,rfl⟩:=xai.1 hy;exact Fs.ci _) (xbI (f:=fun x:Lx=>(ci x.2:Pz)) h1)).mul _ (Fs.pc _)
end
section
variable{f u v g q:Pz}{p:Int}{k N:Nat}{xs:List Lx}{a:List Int}
theorem zgs{α:Type}{P Q R:α->Bool}: ∀{l:List α},(∀x∈l,P x=true->R x=true)->(∀x∈l,Q x=true->R x=true)->(∀x∈l,¬(P x=true/\Q x=true))->(l.filter P).length+(l.filter Q).length<=(l.filter R).length
 |[],_,_,_=>xac _
 |x::l,h1,h2,h3=>by
  have ih:=zgs (l:=l) (fun y hy=>h1 y (H1 _ hy)) (fun y hy=>h2 y (H1 _ hy)) fun y hy=>h3 y (H1 _ hy);have a1:=h1 x (FS);have a2:=h2 x (FS);have a3:=h3 x (FS);rw[xdh,xdh,xdh];cases hP:P x<;>cases hQ:Q x<;>cases hR:R x<;>simp only[hP,hQ,hR,if_true,xav,xak,if_false]at a1 a2 a3⊢<;>first|omega|exact absurd (a1 trivial) id|exact absurd (a2 trivial) id|exact absurd ⟨trivial,trivial⟩ a3
def Ls(p:Int)(f:Pz)(xs:List Lx)(c:Nat):Prop:= ∀u v,Fs u->Fs v->f=u*v-> ¬JN u->c<=(own p u xs).length
theorem jV(nf:Nz f)(e:f=u*v):Nz u/\Nz v:=by
 obtain⟨k,hk⟩:=nf;rw[e,xk]at hk;exact⟨xad fun hn=>hk (yF fun i _=>by rw[Nz.not hn i,xaQ]),xad fun hn=>hk (yF fun i _=>by rw[Nz.not hn _,xas])⟩
theorem Ls.one{n:Nat}(h:Lc p k f n xs):Ls p f xs 1:=fun u v fu fv e nc=>by
 obtain⟨nu,nv⟩:=jV h.tp.nz e;obtain⟨a,ha⟩:=Tp.ex fu nu;obtain⟨b,hb⟩:=Tp.ex fv nv;obtain⟨_,hm⟩:=h.loc ha hb e
 cases ho:own p u xs with
 |nil=>
  exfalso;rw[ho]at hm;have h1:=hm.1;refine nc ((JN.tp ha).2 (xad fun h0=> ?_));rw[show pl [] a=0 from ir h0]at h1;cases h1
 |cons x r=>exact Nat.succ_le_succ (xaj _)
theorem Ls.two{w:Pz}{n:Nat}(h:Lc p k f n xs)(fu:Fs u)(fv:Fs v)(fw:Fs w)(e:f=u*v*w):(own p u xs).length+(own p v xs).length<=(own p (u*v) xs).length:=by
 classical
 obtain⟨n1,nw⟩:=jV h.tp.nz e;obtain⟨nu,nv⟩:=jV n1 rfl;obtain⟨a,ha⟩:=Tp.ex fu nu;obtain⟨b,hb⟩:=Tp.ex (fv.mul fw) (Nz.mul fv fw nv nw);have hc:a+b=n:=by
  have:=ha.mul hb;rw[<-zb,<-e]at this;exact this.uniq h.tp
 unfold own;refine zgs (fun x _ h1=> ?_) (fun x _ h1=> ?_) fun x hx ⟨h1,h2⟩=> ?_
 ·refine decide_eq_true ?_;rw[zg];exact(of_decide_eq_true h1).mul v fv
 ·exact decide_eq_true ((of_decide_eq_true h1).mul u fu)
 ·refine(h.or fu (fv.mul fw) (b:=a+1) (fun j hj=>ha.2 j (by omega)) (by have:=h.nb;omega) (by rw[e,zb]) hx).2 ⟨of_decide_eq_true h1,?_⟩;rw[zg];exact(of_decide_eq_true h2).mul w fw
theorem Ls.ir{n c:Nat}(h:Lc p k f n xs)(hl:Ls p f xs c)(hc:1<=c)(fg:Fs g)(fq:Fs q)(e:f=g*q)(pm:Pm g)(nc: ¬JN g)(hn:(own p g xs).length<2*c):Ir g:=by
 refine⟨fg,pm,nc,fun u v fu fv e2=>xad fun ha=> ?_⟩;have cu: ¬JN u:=fun h=>ha (.inl h);have cv: ¬JN v:=fun h=>ha (.inr h);subst e2;have h1:=hl u (v*q) fu (fv.mul fq) (by rw[e,zb]) cu;have h2:=hl v (u*q) fv (fu.mul fq) (by rw[e,zb,zy]) cv;have h3:=Ls.two h fu fv fq e;omega
theorem Ls.step{n c:Nat}(h:Lc p k f n xs)(hl:Ls p f xs c)(fg:Fs g)(fq:Fs q)(e:f=q*g):Ls p q (Dx p g xs) c:=fun u v fu fv e2 nc=>by
 classical
 subst e2;have h1:=hl u (v*g) fu (fv.mul fg) (by rw[e,zb]) nc;obtain⟨n1,ng⟩:=jV h.tp.nz e;obtain⟨nu,nv⟩:=jV n1 rfl;obtain⟨a,ha⟩:=Tp.ex fg ng;obtain⟨b,hb⟩:=Tp.ex fq n1;have hc:b+a=n:=by
  have:=hb.mul ha;rw[<-e]at this;exact this.uniq h.tp
 have:own p u (Dx p g xs)=own p u xs:=by
  unfold own Dx;rw[List.filter_filter];refine List.filter_congr fun x hx=> ?_;by_cases hd:Di p (ci x.2) u
  ·have h2:=(h.or fg fq (b:=a+1) (fun j hj=>ha.2 j (by omega)) (by have:=h.nb;omega) (by rw[e,zg]) hx).2;rw[decide_eq_true hd,decide_eq_false fun hg=>h2 ⟨hg,by rw[zg];exact hd.mul v fv⟩];rfl
  ·rw[decide_eq_false hd];rfl
 rw[this];exact h1
structure gR(N c:Nat)(a:List Int):Prop where
 ln:a.length=c
 lo: ∀i,i<c->(i:Int)<=ci a i
 hi: ∀i,i<c->ci a i+c<=N+i
 st: ∀i,i+1<c->ci a i<ci a (i+1)
def Lt(f g:Nat->Int)(c:Nat):Prop:= ∃j,j<c/\f j<g j/\ ∀k,k<j->f k=g k
theorem mC(f g:Nat->Int)(c:Nat):(∀k,k<c->f k=g k)\/Lt f g c\/Lt g f c:=by
 by_cases h: ∃k,k<c/\f k≠g k
 ·obtain⟨j,⟨j1,j2⟩,j3⟩:=zdB h;have je: ∀k,k<j->f k=g k:=fun k hk=>xad fun hn=>j3 k hk ⟨by omega,hn⟩;by_cases ha:f j<g j
  ·exact .inr (.inl ⟨j,j1,ha,je⟩)
  ·exact .inr (.inr ⟨j,j1,by omega,fun k hk=>(je k hk).symm⟩)
 ·exact .inl fun k hk=>xad fun hn=>h ⟨k,hk,hn⟩
theorem Lt.asy{f g:Nat->Int}{c:Nat}(h:Lt f g c)(h2:Lt g f c):False:=by
 obtain⟨i,i1,i2,i3⟩:=h;obtain⟨j,j1,j2,j3⟩:=h2;by_cases e:i<j
 ·have:=j3 i e;omega
 ·by_cases e2:j<i
  ·have:=i3 j e2;omega
  ·obtain rfl:i=j:=by omega
   omega
def nxA(c k:Nat)(a:List Int):List Int:=zl c fun i=>if i<k then ci a i else ci a k+1+((i:Int)-k)
theorem gR.up{N c:Nat}{T:List Int}(hT:gR N c T){i:Nat}: ∀d,i+d<c->ci T i+d<=ci T (i+d)
 |0,_=>by rw[xch];omega
 |d+1,h=>by
  have h1:=hT.up (i:=i) d (by omega);have h2:=hT.st (i+d) (by omega);rw[show i+(d+1)=i+d+1 by omega];omega
theorem VT{c:Nat}{i:Nat}(h:i<c):ci (nxA c k a) i=if i<k then ci a i else ci a k+1+((i:Int)-k):=jc h
theorem gR.next{c:Nat}(h:gR N c a)(hk:k<c)(h1:ci a k+c<N+k):gR N c (nxA c k a):=by
 refine⟨zI _ _,fun i hi=> ?_,fun i hi=> ?_,fun i hi=> ?_⟩
 ·rw[VT hi];have:=h.lo i hi;have:=h.lo k hk;split<;>omega
 ·rw[VT hi];have:=h.hi i hi;split<;>omega
 ·rw[VT (by omega),VT hi];by_cases e:i+1<k
  ·rw[zN,iq e];exact h.st i hi
  ·by_cases e2:i<k
   ·have:=h.st i hi;obtain rfl:k=i+1:=by omega
    rw[zN,zx];omega
   ·rw[ir e2,ir e];omega
theorem zgQ{c:Nat}{T:List Int}(hT:gR N c T)(hk:k<c)(ha: ∀i,k<i->i<c->ci a i+c=N+i)(h:Lt (ci a) (ci T) c):(∀i,i<c->ci (nxA c k a) i=ci T i)\/Lt (ci (nxA c k a)) (ci T) c:=by
 obtain⟨j,j1,j2,j3⟩:=h;have hb:j<=k:=by
  by_cases e:j<=k
  ·exact e
  ·have:=ha j (by omega) j1;have:=hT.hi j j1;omega
 by_cases e:j<k
 ·exact .inr ⟨j,j1,by rw[VT j1,iq e];exact j2,fun i hi=>by rw[VT (by omega),zN];exact j3 i hi⟩
 ·obtain rfl:j=k:=by omega
  rcases mC (ci (nxA c j a)) (ci T) c with h1|h1|h1
  ·exact .inl h1
  ·exact .inr h1
  ·exfalso;obtain⟨i,i1,i2,i3⟩:=h1;rw[VT i1]at i2;by_cases e2:i<j
   ·rw[iq e2,j3 i e2]at i2;omega
   ·rw[ir e2]at i2;have:=hT.up (i:=j) (i-j) (by omega);rw[show j+(i-j)=i by omega]at this;omega
def IE(N:Nat)(f:Nat->Int):Nat->Nat
 |0=>0
 |n+1=>IE N f n*(N+1)+(N-(f n).toNat)
theorem TJ(N:Nat)(f:Nat->Int): ∀n,IE N f n+1<=(N+1)^n
 |0=>xac _
 |n+1=>by
  have ih:=xar (N+1) (TJ N f n);rw[xaV]at ih;show IE N f n*(N+1)+(N-(f n).toNat)+1<=(N+1)^n*(N+1);omega
theorem Tl{N:Nat}{f g:Nat->Int}: ∀n,(∀k,k<n->f k=g k)->IE N f n=IE N g n
 |0,_=>rfl
 |n+1,h=>by
  show IE N f n*(N+1)+_=IE N g n*(N+1)+_;rw[Tl n fun k hk=>h k (by omega),h n (by omega)]
theorem Sj{N:Nat}{f g:Nat->Int}{j:Nat}(h0: ∀k,k<j->f k=g k)(h1:0<=g j)(h2:f j=g j+1)(h3:f j<=N): ∀d,IE N f (j+1+d)+1<=IE N g (j+1+d)
 |0=>by
  show IE N f j*(N+1)+_+1<=IE N g j*(N+1)+_;rw[Tl j h0];omega
 |d+1=>by
  have ih:=xar (N+1) (Sj h0 h1 h2 h3 d);rw[xaV]at ih;show IE N f (j+1+d)*(N+1)+(N-(f (j+1+d)).toNat)+1<=IE N g (j+1+d)*(N+1)+(N-(g (j+1+d)).toNat);omega
end
section
variable{B R Q:Pz}{la lb ql K J fu:Nat}{b a:List Zr}
structure DvZ(A B Q R:Pz)(la lb n ql K J:Nat):Prop where
 eq:A=Q*B+R
 q1: ∀k,k<n->Q k=0
 q2: ∀k,ql<=k->Q k=0
 r: ∀k,n+(lb-1)<=k->R k=0
 bz: ∀k,Bz (K+(ql-n)*(J+1)) (R k)
 bq: ∀k,Bz (K+(ql-n)*(J+1)) (Q k)
theorem BD{n m:Nat}(hB:Tp B m)(h:Zd B R)(hr: ∀k,n+m<=k->R k=0): ∃w:Pz,R=w*B/\ ∀k,n<=k->w k=0:=by
 obtain⟨w,fw,rfl⟩:=h;refine⟨w,rfl,?_⟩;by_cases nw:Nz w
 ·obtain⟨d,hd⟩:=Tp.ex fw nw;have h1:=(hd.mul hB).1;intro k hk;refine hd.2 k ?_;by_cases c:d<n
  ·omega
  ·exact absurd (hr (d+m) (by omega)) h1
 ·exact fun k _=>Nz.not nw k
theorem DvZ.step{A:Pz}{n:Nat}(h:DvZ A B Q R la lb (n+1) ql K J)(hB:Tp B (lb-1))(hn:n+1<=ql){c:Int}(hc:R (n+(lb-1))=c*B (lb-1))(hJ: ∀k,Bz J (B k)):
 DvZ A B (u5 Q n c) (fun k=>R k-c*sh B n k) la lb n ql K J:=by
 have hb:Bz (K+(ql-(n+1))*(J+1)) c:=(h.bz (n+(lb-1))).le (by
  rw[hc,xcb];exact xcl _ (by have:=hB.1;omega))
 have ha:K+(ql-n)*(J+1)=K+(ql-(n+1))*(J+1)+J+1:=by rw[show ql-n=ql-(n+1)+1 by omega,xaV];omega
 have e1:u5 Q n c=Q+mono n c:=funext fun k=>by
  rw[zK];unfold u5 mono;by_cases e:k=n
  ·rw[iq e,iq e,e,h.q1 n (by omega)];omega
  ·rw[ir e,ir e];omega
 refine⟨?_,fun k hk=> ?_,fun k hk=> ?_,fun k hk=> ?_,fun k=> ?_,fun k=> ?_⟩
 ·rw[e1,yj];funext k;have:=congrFun h.eq k;rw[zK]at this;rw[zK,zK,Y3];show _=_+_+(R k-c*sh B n k);omega
 ·unfold u5;rw[zx];exact h.q1 k (by omega)
 ·unfold u5;rw[zx];exact h.q2 k hk
 ·show R k-c*sh B n k=0;unfold sh;rw[zN];by_cases e:k=n+(lb-1)
  ·rw[e,hc,show n+(lb-1)-n=lb-1 by omega];omega
  ·rw[h.r k (by omega),hB.2 _ (by omega)];omega
 ·rw[ha];refine Bz.sub ((h.bz k).mono (by omega)) (hb.mul ?_);unfold sh;split
  ·exact hJ _
  ·exact Bz.zero _
 ·rw[ha];unfold u5;split
  ·exact hb.mono (by omega)
  ·exact(h.bq k).mono (by omega)
theorem zc7{n:Nat}{c:Int}(hb:xb J b)(he:b.length=lb)(hn:n+lb<=la)(hl:la<=1000)(hR: ∀k,Bz K (R k))(hc:Bz K c)(hK:K+J+1<=40000)(hf:3000000<=fu):
 zj (Qc fu (n:Int) b) fu ((0:Int),b,zi la R,zi ql Q,yE c)=some (b,zi la (fun k=>R k-c*sh (cf b) n k),zi ql Q):=by
 refine zE (fun s:Int×List Zr×List Zr×List Zr×Zr=> ∃j:Nat,j<=lb/\s=((j:Int),b,zi la (fun k=>if k<n+j then R k-c*sh (cf b) n k else R k),zi ql Q,yE c)) (fun s=>lb-s.1.toNat) _ ?_ _ _ ⟨0,xaj _,?_⟩ (by show lb-0<fu;omega)
 ·rintro s L ⟨j,hj,rfl⟩ ih;unfold Qc;simp only;by_cases h1:j<lb
  ·rw[zN,za rfl];simp only[if_true];have hd:=hb.get j;rw[yB,zf,show(n:Int)+(j:Int)=((n+j:Nat):Int)by omega,zd,zd,zp (by rw[yN];omega),zf,Yy (by omega),zx,za (ye (hc.ok (by omega)) (gI.of hd (by omega)) hf),zu,Qm];have ha:Bz (K+J) (c*cf b j):=hc.mul (hb.bz j);rw[za (vU ((hR _).ok (by omega)) (ha.ok (by omega)) hf),zu,zu,zp (by rw[yN];omega),zf,KN,zd];refine ih _ ⟨j+1,by omega,?_⟩ (by show lb-((j:Int)+1).toNat<lb-(j:Int).toNat;omega);rw[show((j:Int)+1)=((j+1:Nat):Int)by omega];refine xeL rfl (xeL rfl (xeL ?_ rfl));refine y9 fun k hk=> ?_;unfold u5;by_cases e:k=n+j
   ·rw[iq e,zN,e];unfold sh;rw[zN,show n+j-n=j by omega]
   ·rw[ir e];show(if k<n+j then R k-c*sh (cf b) n k else R k)=_;by_cases e2:k<n+j
    ·rw[iq e2,zN]
    ·rw[ir e2,zx]
  ·rw[zx,za rfl];simp only[xak,if_false];obtain rfl:j=lb:=by omega
   refine congrArg some (xeL rfl (xeL ?_ rfl));refine y9 fun k hk=> ?_;by_cases e:k<n+j
   ·rw[iq e]
   ·rw[ir e];unfold sh;rw[zN,z6 (by omega)];omega
 ·refine xeL rfl (xeL rfl (xeL ?_ rfl));refine y9 fun k hk=> ?_;by_cases e:k<n+0
  ·rw[iq e];unfold sh;rw[zx];omega
  ·rw[ir e]
theorem zfO(a:List Zr):yb a=zi (yb a).length (cf a):=by
 have h:yb a=zi (dg (cf a) a.length) (cf a):=rfl;rw[show(yb a).length=dg (cf a) a.length from xD _ _];exact h
theorem jt(h:(yb a).length≠0):Tp (cf a) ((yb a).length-1):=by
 have h1:=Zw (cT a) h;rw[kQ]at h1;exact⟨h1,fun k hk=>by rw[<-kQ];exact z6 (by omega)⟩
theorem ku(h:(yb a).length=0)(k:Nat):cf a k=0:=by rw[<-kQ];exact z6 (by omega)
theorem WK(ha:xb K a)(hb:xb J b)(hK:K+(a.length+1)*(J+1)<=30000)(hH:a.length<=1000)(hJ:b.length<=1000)(h0:(yb b).length≠0)(hf:3000000<=fu):
 ∃q e,wB fu a b=some (q,e)/\(e=0↔Zd (cf b) (cf a))/\(e=0->(cf a:Pz)=cf q*cf b/\yb q=q/\q.length<=a.length):=by
 have hn:=eZ hb;have hL:=Vr b;have hM:=Vr a;have tb:=jt h0;have hN:J+1<=(a.length+1)*(J+1):=xdk _ (by omega);obtain⟨la,hi⟩: ∃la,la=(yb a).length:=⟨_,rfl⟩;obtain⟨lb,hg⟩: ∃lb,lb=(yb b).length:=⟨_,rfl⟩;obtain⟨ql,hO⟩: ∃ql,ql=la+1-lb:=⟨_,rfl⟩;have hz:=zfO a;rw[<-hi]at hz;rw[<-hg]at tb h0;unfold wB;rw[za (zz ha (by omega) (by omega) hf),za (zz hb (by omega) (by omega) hf),show qe a.length (cf a)=yb a from rfl,show qe b.length (cf b)=yb b from rfl,<-hi,<-hg,zx];by_cases hP:0<la/\la<lb
 ·rw[za (v:=Sum.inr ()) (by rw[zN,zN])];refine⟨[],4,rfl,⟨fun h=>absurd h (by decide),fun h=> ?_⟩,fun h=>absurd h (by decide)⟩;exfalso;have ta:=jt (a:=a) (by omega);rw[<-hi]at ta;obtain⟨w,hw,w0⟩:=BD (n:=0) tb h fun k hk=>ta.2 k (by omega);exact ta.1 (by rw[hw,xk,yF fun i _=>by rw[w0 i (by omega),xaQ]])
 ·rw[za (v:=Sum.inl ()) (by
   by_cases h1:0<la
   ·rw[zN,zx]
   ·rw[zx])]
  simp only;have hp:max ((la:Int)-lb+1) 0=(ql:Int):=by omega
  rw[zd,zd,zf,hp,yO,yG,zf,aL,yN,zd]
  obtain⟨s,hs,hQ⟩:=yq (f:=VS fu) (fun s:Int×List Zr×List Zr×List Zr=> ∃(n:Nat) (Q R:Pz),n<=ql/\s=((n:Int)-1,yb b,zi la R,zi ql Q)/\DvZ (cf a) (cf b) Q R la lb n ql K J) (fun s=>(s.1+1).toNat)
   (fun r=>(∃Q R:Pz,r= .inl (zi la R,zi ql Q)/\DvZ (cf a) (cf b) Q R la lb 0 ql K J)\/(r= .inr 4/\ ¬Zd (cf b) (cf a))) (by
   rintro s L ⟨n,Q,R,hx,rfl,hI⟩ ih
   unfold VS
   simp only
   cases n with
   |zero=>
    rw[zx]
    exact⟨_,rfl,.inl ⟨Q,R,rfl,hI⟩⟩
   |succ n=>
    have hy:(ql-(n+1))*(J+1)<=(a.length+1)*(J+1):=xar _ (by omega)
    have hG:(ql-(n+1))*(J+1)+(J+1)<=(a.length+1)*(J+1):=by
     have:=xar (J+1) (show ql-(n+1)+1<=a.length+1 by omega);rw[xaV,xcn]at this;exact this
    have hl:=hI.bz
    rw[show((n+1:Nat):Int)-1=(n:Int)by omega,zN,<-hg,zd,show(n:Int)+(lb:Int)-1=((n+(lb-1):Nat):Int)by omega,zd,zp (by rw[yN];omega),zf,Yy (by omega),show(lb:Int)-1=((lb-1:Nat):Int)by omega,zd,yB,zf]
    have hq:=hn.get (lb-1)
    rw[za (Xh ((hl _).okS (by omega)) ⟨hq.1,by have:=hq.2;omega⟩ hf),zu,Qm,kQ]
    simp only
    have hj:=tb.1
    have hE:exE (R (n+(lb-1))) (cf b (lb-1))=if R (n+(lb-1)) % cf b (lb-1)=0 then 0 else 4:=by unfold exE;rw[ir hj]
    have hX:exI (R (n+(lb-1))) (cf b (lb-1))=if R (n+(lb-1)) % cf b (lb-1)=0 then R (n+(lb-1))/cf b (lb-1)else 0:=by unfold exI;rw[ir hj]
    by_cases hd:R (n+(lb-1)) % cf b (lb-1)=0
    ·rw[iq hd]at hE hX
     obtain⟨c,hu⟩: ∃c,c=R (n+(lb-1))/cf b (lb-1):=⟨_,rfl⟩
     have hc:R (n+(lb-1))=c*cf b (lb-1):=by rw[hu,Int.ediv_mul_cancel (xaH hd)]
     have hA:Bz (K+(ql-(n+1))*(J+1)) c:=(hl (n+(lb-1))).le (by
      rw[hc,xcb];exact xcl _ (by omega))
     rw[hE,hX,<-hu,iq rfl,zp (by rw[yN];omega),zf,KN,za (zc7 hn hg.symm (by omega) (by omega) hl hA (by omega) hf)]
     simp only
     rw[zd]
     have hs:=hI.step tb hx hc hb.bz
     have e:(fun k=>R k-c*sh (cf (yb b)) n k)=fun k=>R k-c*sh (cf b) n k:=by rw[show cf (yb b)=cf b from funext (kQ b)]
     rw[e]
     exact ih _ ⟨n,_,_,by omega,rfl,hs⟩ (by show((n:Int)-1+1).toNat<(((n+1:Nat):Int)-1+1).toNat;omega)
    ·rw[ir hd]at hE
     rw[hE,ir (by decide)]
     refine⟨_,rfl,.inr ⟨rfl,fun hz=>hd ?_⟩⟩
     have hm:Zd (cf b) R:=by
      have e:R=(cf a:Pz)-Q*cf b:=funext fun k=>by
       have:=congrFun hI.eq k;rw[zK]at this;rw[yA];omega
      rw[e];exact hz.sub ⟨Q,⟨ql,hI.q2⟩,rfl⟩
     obtain⟨w,hw,w0⟩:=BD (n:=n+1) tb hm hI.r
     have:=Xi (f:=w) (g:=cf b) (n:=n) (m:=lb-1) (fun k hk=>w0 k (by omega)) tb.2
     rw[<-hw]at this
     rw[this,Int.mul_emod_left]) fu ((ql:Int)-1,yb b,yb a,zi ql fun _=>0) ⟨ql,fun _=>0,cf a,xac _,by rw[hz],⟨funext fun k=>by
    rw[zK,xk,yF fun i _=>xaQ _,xcA],fun _ _=>rfl,fun _ _=>rfl,fun k hk=>by
    by_cases e:la=0
    ·exact ku (by omega) k
    ·rw[<-kQ];exact z6 (by omega),fun k=>(ha.bz k).mono (by omega),fun k=>Bz.zero _⟩⟩ (by show((ql:Int)-1+1).toNat<fu;omega)
  rw[za hs];rcases hQ with⟨Q,R,rfl,hI⟩|⟨rfl,hB⟩
  ·have hy:(ql-0)*(J+1)<=(a.length+1)*(J+1):=xar _ (by omega);have hC:xb 30000 (zi la R):=VM fun j=>(hI.bz j).mono (by omega);have hD:xb 30000 (zi ql Q):=VM fun j=>(hI.bq j).mono (by omega);have hv: ∀k,la<=k->R k=0:=fun k hk=>by
    by_cases e:la=0
    ·have h1:=congrFun hI.eq k;rw[zK,xk,yF (n:=k+1) fun i _=>by rw[hI.q2 i (by omega),xaQ],ku (by omega)]at h1;omega
    ·exact hI.r k (by omega)
   simp only;rw[za (zz hC (by decide) (by rw[yN];omega) hf),yN,pf];by_cases hr:(qe la R).length=0
   ·have ho: ∀k,R k=0:=fun k=>by rw[<-jq hv k];exact z6 (by omega)
    have hF:(cf (qe ql Q):Pz)=Q:=funext fun k=>jq hI.q2 k;have he:(cf a:Pz)=cf (qe ql Q)*cf b:=by
     rw[hF];funext k;have:=congrFun hI.eq k;rw[zK,ho k,xbx]at this;exact this
    rw[zx,za (zz hD (by decide) (by rw[yN];omega) hf),yN,pf];refine⟨_,0,rfl,⟨fun _=>⟨_,Fs.cf _,he⟩,fun _=>rfl⟩,fun _=>⟨he,(YH _ _).symm,?_⟩⟩;rw[xD];have:=qf Q ql;omega
   ·rw[zN];refine⟨[],4,rfl,⟨fun h=>absurd h (by decide),fun h=> ?_⟩,fun h=>absurd h (by decide)⟩;exfalso;have e:R=(cf a:Pz)-Q*cf b:=funext fun k=>by
     have:=congrFun hI.eq k;rw[zK]at this;rw[yA];omega
    have hm:Zd (cf b) R:=by
     rw[e];exact h.sub ⟨Q,⟨ql,hI.q2⟩,rfl⟩
    obtain⟨w,hw,w0⟩:=BD (n:=0) tb hm hI.r;have ho: ∀k,R k=0:=fun k=>by rw[hw,xk,yF fun i _=>by rw[w0 i (by omega),xaQ]]
    have ht:=Zw (YH la R) hr;rw[jq hv]at ht;exact ht (ho _)
  ·exact⟨[],4,rfl,⟨fun h=>absurd h (by decide),fun h=>absurd h hB⟩,fun h=>absurd h (by decide)⟩
theorem iA(ha:xb K a)(hb:xb J b)(hK:K<=40000)(hJ:J<=40000)(hc:a.length<=1000)(hd:b.length<=1000)(h0:(yb b).length=0)(hf:3000000<=fu):wB fu a b=some ([],3):=by
 unfold wB;rw[za (zz ha (by omega) (by omega) hf),za (zz hb (by omega) (by omega) hf),show qe b.length (cf b)=yb b from rfl,zN]
end
section
variable{N fu:Nat}{a:List Int}
theorem gR.ext{c:Nat}{b:List Int}(ha:gR N c a)(hb:gR N c b)(h: ∀k,k<c->ci a k=ci b k):a=b:=by
 rw[<-Fa a,<-Fa b,ha.ln,hb.ln];exact yo h
theorem sG{c:Nat}(hc:c<=1000)(hf:3000000<=fu):zj (fun L (z:List Int×Int)=>
 if z.2<((zl c fun _=>0).length:Int)then
  zH z.2 z.1.length fun j=>
  nm (z.1.set j z.2) fun xs=>
  ze (z.2+1) fun i=>L (xs,i)
 else some z.1) fu (zl c fun _=>0,0)=some (zl c fun i=>(i:Int)):=by
 refine zE (fun s:List Int×Int=> ∃j:Nat,j<=c/\s=(zl c (fun k=>if k<j then(k:Int)else 0),(j:Int))) (fun s=>c-s.2.toNat) _ ?_ _ _ ⟨0,xaj _,?_⟩ (by show c-0<fu;omega)
 ·rintro s L ⟨j,hj,rfl⟩ ih
  simp only[zI]
  by_cases h1:j<c
  ·rw[zN,zp h1,zf,jF,zd]
   refine ih _ ⟨j+1,by omega,?_⟩ (by show c-((j:Int)+1).toNat<c-(j:Int).toNat;omega)
   refine xeL (yo fun k hk=> ?_) rfl
   unfold u5
   by_cases e:k=j
   ·rw[iq e,zN,e]
   ·rw[ir e]
    show(if k<j then(k:Int)else 0)=_
    by_cases e2:k<j
    ·rw[iq e2,zN]
    ·rw[ir e2,zx]
  ·rw[zx]
   obtain rfl:j=c:=by omega
   exact congrArg some (yo fun k hk=>iq hk)
 ·exact xeL (yo fun k hk=>(ir (xbv k)).symm) rfl
theorem Bg{c:Nat}(ha:gR N c a)(hN:N<=1000)(hf:3000000<=fu):
 ∃i:Int,zj (fun L i=>
 if 0<=i then
  zH i a.length fun j=>
  nm (a.getD j 0) fun y=>
  ze ((N:Int)-c) fun e=>
  ze (e+i) fun e=>
  if y=e then ze (i-1) fun i=>L i
  else some i
 else some i) fu ((c:Int)-1)=some i/\ -1<=i/\i<c/\(∀j:Nat,i<j->j<c->ci a j+c=N+j)/\ ∀k:Nat,i=k->ci a k+c<N+k:=by
 have hb:c<=N\/c=0:=by
  by_cases h:c=0
  ·exact .inr h
  ·have:=ha.hi 0 (by omega);have:=ha.lo 0 (by omega);exact .inl (by omega)
 obtain⟨r,h1,h2⟩:=yq (f:=fun L (i:Int)=>
  if 0<=i then
   zH i a.length fun j=>
   nm (a.getD j 0) fun y=>
   ze ((N:Int)-c) fun e=>
   ze (e+i) fun e=>
   if y=e then ze (i-1) fun i=>L i
   else some i
  else some i) (fun i:Int=> -1<=i/\i<c/\ ∀j:Nat,i<j->j<c->ci a j+c=N+j) (fun i=>(i+1).toNat) (fun i=> -1<=i/\i<c/\(∀j:Nat,i<j->j<c->ci a j+c=N+j)/\ ∀k:Nat,i=k->ci a k+c<N+k) (by
   rintro i L ⟨i1,i2,i3⟩ ih;by_cases h0:0<=i
   ·obtain⟨k,rfl⟩:=xaC h0;have hd:=ha.ln;rw[iq h0,yB,zf,zd,zd,Zc];by_cases e:ci a k=(N:Int)-c+k
    ·rw[iq e,zd];refine ih _ ⟨by omega,by omega,fun j hj hc=> ?_⟩ (by omega);by_cases e2:j=k
     ·rw[e2];omega
     ·exact i3 j (by omega) hc
    ·rw[ir e];refine⟨_,rfl,i1,i2,i3,fun j hj=> ?_⟩;obtain rfl:k=j:=by omega
     have:=ha.hi k (by omega);omega
   ·rw[ir h0];exact⟨_,rfl,i1,i2,i3,fun j hj=>by omega⟩) fu ((c:Int)-1) ⟨by omega,by omega,fun j hj hc=>by omega⟩ (by omega)
 exact⟨r,h1,h2⟩
theorem GI{c k:Nat}(ha:gR N c a)(hN:N<=1000)(hk:k<c)(h1:ci a k+c<N+k)(hf:3000000<=fu):
 zj (fun L (z:Int×List Int)=>
 if z.1<(c:Int)then
  ze (z.1-1) fun e=>
  zH e z.2.length fun j=>
  nm (z.2.getD j 0) fun y=>
  ze (y+1) fun e=>
  zH z.1 z.2.length fun j=>
  nm (z.2.set j e) fun xs=>
  ze (z.1+1) fun i=>L (i,xs)
 else some z.2) fu ((k:Int)+1,a.set k (ci a k+1))=some (nxA c k a):=by
 have hb:=ha.hi k hk;have hc:=ha.lo k hk;refine zE (fun s:Int×List Int=> ∃j:Nat,k+1<=j/\j<=c/\s=((j:Int),zl c (fun i=>if i<k then ci a i else if i<j then ci a k+1+((i:Int)-k)else ci a i))) (fun s=>c-s.1.toNat) _ ?_ _ _ ⟨k+1,xac _,hk,?_⟩ (by show c-((k:Int)+1).toNat<fu;omega)
 ·rintro s L ⟨j,j1,j2,rfl⟩ ih;simp only[zI];by_cases h2:j<c
  ·obtain⟨i,rfl⟩: ∃i,j=i+1:=⟨j-1,by omega⟩;rw[zN,show((i+1:Nat):Int)-1=(i:Int)by omega,zd,yB,zf,vO (by omega),zx,zN,zd,zp h2,zf,jF,zd];refine ih _ ⟨i+1+1,by omega,by omega,?_⟩ (by show c-(((i+1:Nat):Int)+1).toNat<c-((i+1:Nat):Int).toNat;omega);refine xeL rfl (yo fun m hm=> ?_);unfold u5;by_cases e:m=i+1
   ·rw[iq e,zx,zN];omega
   ·rw[ir e];show(if m<k then ci a m else if m<i+1 then ci a k+1+((m:Int)-k)else ci a m)=_;by_cases e2:m<k
    ·rw[iq e2,iq e2]
    ·rw[ir e2,ir e2];by_cases e3:m<i+1
     ·rw[iq e3,zN]
     ·rw[ir e3,zx]
  ·rw[zx];obtain rfl:j=c:=by omega
   refine congrArg some (yo fun m hm=> ?_);by_cases e2:m<k
   ·rw[iq e2,iq e2]
   ·rw[ir e2,ir e2,iq hm]
 ·refine xeL (by show(k:Int)+1=((k+1:Nat):Int);omega) ?_;show a.set k (ci a k+1)=_;conv=>lhs;rw[<-Fa a,ha.ln]
  rw[jF];refine yo fun m hm=> ?_;unfold u5;by_cases e:m=k
  ·rw[iq e,zx,zN,e];rw[show ci (zl c (ci a)) k=ci a k from jc hk];omega
  ·rw[ir e];by_cases e2:m<k
   ·rw[iq e2]
   ·rw[ir e2,zx]
theorem Ba{X Y:Type}{c:Nat}{g:List Int->X->Option (List Int×(X⊕Y))}{x0:X}{Rej:List Int->Prop}{Acc:List Int->Y->Prop}(hk:1<=c)(hl:c<=N)(hN:N<=10)(he:c<=5)(hf:3000000<=fu)(hg: ∀a,gR N c a->(g a x0=some (a,.inl x0)/\Rej a)\/ ∃y a',g a x0=some (a',.inr y)/\Acc a y):
 (wi fu (c:Int) (N:Int) g x0=some (.inl x0)/\ ∀a,gR N c a->Rej a)\/ ∃a y,gR N c a/\Acc a y/\wi fu (c:Int) (N:Int) g x0=some (.inr y):=by
 have h0:gR N c (zl c fun i=>(i:Int)):=⟨zI _ _,fun i hi=>by rw[jc hi];omega,fun i hi=>by rw[jc hi];omega,fun i hi=>by rw[jc (by omega),jc hi];omega⟩;have ha: ∀T,gR N c T-> ¬Lt (ci T) (ci (zl c fun i=>(i:Int))) c:=fun T hT ⟨j,j1,j2,_⟩=>by
  rw[jc j1]at j2;have:=hT.lo j j1;omega
 have hj:IE N (ci (zl c fun i=>(i:Int))) c<fu:=by
  have h1:=TJ N (ci (zl c fun i=>(i:Int))) c;have h2:(N+1)^c<=11^5:=xao (Nat.pow_le_pow_left (by omega) c) (xaK (by decide) he);have h3:(11:Nat)^5=161051:=by decide
  omega
 obtain⟨r,hr,hQ⟩:=yq (f:=fun L (q:X×List Int)=>w9 fu (c:Int) (N:Int) g q.1 q.2 (fun x xs _ _ _ _ _=>L (x,xs)) (fun x _ _ _=>some (.inl x)) fun y _=>some (.inr y))
  (fun s:X×List Int=>s.1=x0/\gR N c s.2/\ ∀T,gR N c T->Lt (ci T) (ci s.2) c->Rej T) (fun s=>IE N (ci s.2) c) (fun r:X⊕Y=>(r= .inl x0/\ ∀a,gR N c a->Rej a)\/ ∃a y,gR N c a/\Acc a y/\r= .inr y) (by
  rintro⟨x,a⟩ L ⟨hx,hI,hR⟩ ih
  simp only at hx hI hR
  subst hx
  simp only
  unfold w9
  rcases hg a hI with⟨e,rj⟩|⟨y,a',e,ac⟩
  ·rw[za e]
   simp only[Sum.elim_inl]
   obtain⟨i,l1,l2,l3,l4,l5⟩:=Bg hI (by omega) hf
   rw[zd,za l1]
   by_cases hi:i<0
   ·rw[iq hi]
    refine⟨_,rfl,.inl ⟨rfl,fun T hT=> ?_⟩⟩
    rcases mC (ci T) (ci a) c with h|h|h
    ·rw[hT.ext hI h];exact rj
    ·exact hR T hT h
    ·exfalso
     obtain⟨j,j1,j2,_⟩:=h
     have:=l4 j (by omega) j1
     have:=hT.hi j j1
     omega
   ·obtain⟨k,rfl⟩:=xaC (show 0<=i by omega)
    have hn:=hI.ln
    have h5:=l5 k rfl
    have ho:=hI.lo k (by omega)
    rw[ir hi,yB,zf,Zc,zd,yB,zf,zd,za (GI hI (by omega) (by omega) h5 hf)]
    refine ih _ ⟨rfl,hI.next (by omega) h5,fun T hT hb=> ?_⟩ ?_
    ·rcases mC (ci T) (ci a) c with h|h|h
     ·rw[hT.ext hI h];exact rj
     ·exact hR T hT h
     ·exfalso
      simp only at hb
      rcases zgQ (k:=k) hT (by omega) (fun i hi hc=>l4 i (by omega) hc) h with h6|h6
      ·obtain⟨j,j1,j2,_⟩:=hb
       rw[h6 j j1]at j2
       omega
      ·exact hb.asy h6
    ·obtain⟨d,hd⟩: ∃d,c=k+1+d:=⟨c-k-1,by omega⟩
     have:=Sj (N:=N) (f:=ci (nxA c k a)) (g:=ci a) (j:=k) (fun m hm=>by rw[VT (by omega),iq hm]) (by omega) (by rw[VT (by omega),zx];omega) (by rw[VT (by omega),zx];omega) d
     rw[<-hd]at this
     exact this
  ·rw[za e]
   simp only[Sum.elim_inr]
   exact⟨_,rfl,.inr ⟨a,y,hI,ac,rfl⟩⟩) fu (x0,zl c fun i=>(i:Int)) ⟨rfl,h0,fun T hT h=>absurd h (ha T hT)⟩ hj
 have hM:wi fu (c:Int) (N:Int) g x0=some r:=by
  unfold wi;rw[yO,yG,zf,QM,za (sG (by omega) hf)];exact hr
 rw[hM];rcases hQ with⟨rfl,h⟩|⟨a,y,h1,h2,rfl⟩
 ·exact .inl ⟨rfl,h⟩
 ·exact .inr ⟨a,y,h1,h2,rfl⟩
end
section
variable{a:List Int}{m x:Int}{xs:List Lx}{i fu:Nat}
theorem zbe{a:List Zr}(h: ¬m<=0):Ou a m=(wq a m,0):=by unfold Ou;rw[ir h]
theorem fW(a:List Zr):(y8 a).natAbs=ZL (cf a) (yb a).length:=by
 unfold y8;split
 ·rw[Int.natAbs_neg,xbb]
 ·exact xbb _
theorem Wu(a:List Zr):pc (y8 a)*(cf (x9 a):Pz)=cf a:=funext fun k=>by
 rw[zD,uc];exact Int.mul_ediv_cancel' (Uh a k)
theorem WG{a:List Zr}(h:(yb a).length≠0):Pm (cf (x9 a))/\Po (cf (x9 a)):=by
 have h0:=Kv h;have hm:=Wu a;constructor
 ·intro d hd;have h1:(y8 a).natAbs*d∣ZL (cf a) (yb a).length:=BJ _ fun k _=>by
   have h2:=congrFun hm k;rw[zD]at h2;have h3:=xcm.2 (xfJ (xdO (y8 a)) (hd k));rw[h2,xcb,xbb]at h3;exact h3
  rw[<-fW]at h1;have h5:(y8 a).natAbs*d∣(y8 a).natAbs*1:=by rw[xcD];exact h1
  exact Nat.dvd_one.1 (Nat.dvd_of_mul_dvd_mul_left (by omega) h5)
 ·have ht:=jt h;refine⟨(yb a).length-1,?_,fun k hk=>by rw[uc,ht.2 k hk,xfC]⟩;have h2:=congrFun hm ((yb a).length-1);rw[zD]at h2;have h3:=ht.1;obtain⟨x,hx⟩: ∃x,x=cf (x9 a) ((yb a).length-1):=⟨_,rfl⟩;rw[<-hx]at h2⊢;have hg:(0:Int)<(ZL (cf a) (yb a).length:Nat):=by
   have:=fW a;omega
  have hc:y8 a=if cf (yb a) ((yb a).length-1)<0 then-((ZL (cf a) (yb a).length:Nat):Int)else((ZL (cf a) (yb a).length:Nat):Int):=rfl;rw[kQ]at hc;by_cases hn:cf a ((yb a).length-1)<0
  ·rw[iq hn]at hc;refine xad fun ha=> ?_;have:=Int.mul_nonneg_of_nonpos_of_nonpos (show y8 a<=0 by omega) (show x<=0 by omega);omega
  ·rw[ir hn]at hc;refine xad fun ha=> ?_;have:=Int.mul_nonpos_of_nonneg_of_nonpos (show 0<=y8 a by omega) (show x<=0 by omega);omega
theorem uX(a:List Zr):yb (x9 a)=x9 a:=(YH _ _).symm
theorem TG(a:List Zr)(hm:0<m)(k:Nat):cf (bK a m) k=near (cf a k) m:=jq (fun j hj=>by
 rw[z6 hj];unfold near;rw[xag,zx]) k
theorem zak(x:Int):near x m % m=x % m:=by
 unfold near;split
 ·rw[Int.sub_emod_right,xaD]
 ·exact xaD _ _
theorem zdj{y:Int}(h:x % m=y % m)(hb:2*y.natAbs<m):near x m=y:=by
 unfold near;rw[h];by_cases hy:0<=y
 ·rw[xaz hy (by omega),zx]
 ·have e:y % m=y+m:=by
   rw[<-Int.add_emod_right];exact xaz (by omega) (by omega)
  rw[e,zN];omega
def tc(xs:List Lx)(a:List Int)(c:Nat):List Lx:=(xbc c).map fun i=>xs.getD (ci a i).toNat ([],[])
theorem SZ(xs:List Lx)(a:List Int)(c:Nat):tc xs a (c+1)=tc xs a c++[xs.getD (ci a c).toNat ([],[])]:=by
 unfold tc;rw[xdD,xaO];rfl
theorem NN(a b:List Lx):pu (a++b)=pu a*pu b:=by
 unfold pu;rw[xaO,xM]
theorem DP:(xs.map (·.1)).getD i []=(xs.getD i ([],[])).1:=by
 rw[UV,UV,xaB];cases xs[i]? <;>rfl
theorem er(h:i<xs.length):xs.getD i ([],[])∈xs:=by
 rw[UV,IR h];exact xbh h
theorem Oy{c k:Nat}{p:Int}{f:List Zr}(hp:wG p=true)(hg:1<=k)(hk:k<=1000)(hm: ∀x∈xs,Up p k x.1 x.2/\Vs p x.2/\x.2.length<=66)(hN:xs.length<=1000)(ha:gR xs.length c a)(hc:c<=5)(hn:xb 250 f)(hr:0<f.length)(ht:f.length<=66)(hf:3000000<=fu):
 ∃t,qj fu f (xs.map (·.1)) a (yE (p^k))=some (x9 (bK t (p^k)),a)/\xb 250 t/\t.length<=1+c*66/\Cg (p^k) (cf t) (pc (cf f (f.length-1))*pu (tc xs a c)):=by
 obtain⟨p1,p2⟩:=zo hp;have hb:=gl hp hk;have hu:=au hp hg;have hd:gx (yE (p^k)):=hb.okS (by decide);have hv:=ha.ln
 obtain⟨s,hs,t,rfl,t1,t2,t3⟩:=yq (f:=jo fu (xs.map (·.1)) a (yE (p^k))) (fun s:List Zr×Int×List Int=> ∃(i:Nat) (t:List Zr),i<=c/\s=(t,(i:Int),a)/\xb 250 t/\t.length<=1+i*66/\Cg (p^k) (cf t) (pc (cf f (f.length-1))*pu (tc xs a i))) (fun s=>c-s.2.1.toNat)
  (fun r=> ∃t:List Zr,r=(t,a)/\xb 250 t/\t.length<=1+c*66/\Cg (p^k) (cf t) (pc (cf f (f.length-1))*pu (tc xs a c))) (by
  rintro s L ⟨i,t,hi,rfl,h1,h2,h3⟩ ih
  unfold jo
  simp only
  by_cases he:i<c
  ·have hw:=ha.lo i he
   have hx:=ha.hi i he
   obtain⟨j,hj⟩:=xaC (show 0<=ci a i by omega)
   have ho:=er (xs:=xs) (i:=j) (by omega)
   obtain⟨hU,hI,hl⟩:=hm _ ho
   have hy:=hU.len
   rw[zN,za rfl]
   simp only[if_true]
   rw[yB,zf,Zc,hj,zp (by rw[xaN];omega),zf,DP,za (gQ h1 hU.rd.ok (by omega) (by omega) hd hf),zu,zbe (by omega)]
   simp only
   rw[zd]
   have l1:=Ze (yS t (xs.getD j ([],[])).1) (p^k)
   have l2:=jG t (xs.getD j ([],[])).1
   refine ih _ ⟨i+1,_,by omega,rfl,Jn hb (by omega),by omega,?_⟩ (by show c-((i:Int)+1).toNat<c-(i:Int).toNat;omega)
   refine(Zp _ _).trans ?_
   rw[qv,SZ,NN,hj,xaM,<-zb]
   refine h3.mul (Cg.of ?_)
   exact(zL _).symm
  ·rw[zx,za rfl]
   simp only[xak,if_false]
   obtain rfl:i=c:=by omega
   exact⟨_,rfl,t,rfl,h1,h2,h3⟩) fu (f.drop (f.length-1),0,a) ⟨0,_,xaj _,rfl,fun z hz=>hn z (xeE hz),by rw[xbQ];omega,by
   rw[sQ (by omega)]
   refine Cg.of (funext fun j=> ?_)
   rw[show tc xs a 0=[]from rfl,show pu []=pc 1 from rfl,zL]
   cases j with
   |zero=>rfl
   |succ j=>exact z6 (p:=[f.getD (f.length-1) (false,[])]) (by simp)⟩ (by show c-(0:Int).toNat<fu;omega)
 refine⟨t,?_,t1,t2,t3⟩;unfold qj;rw[show(f.length:Int)-1=((f.length-1:Nat):Int)by omega,zd,yO,yG,zf,za hs];simp only;have hq:xb 250 (bK t (p^k)):=y7 fun j=>Bz.near hb (by omega);have hA:(bK t (p^k)).length<=t.length:=by unfold bK;rw[xD];exact qf _ _
 rw[za (fc t1 (by decide) hd (by omega) hf),zu];unfold IX;rw[zx];simp only;rw[za (wK hq (by decide) (by omega) hf)]
theorem Gr(hl:a.length<=1000)(hf:3000000<=fu):xB fu a x=some (decide (x∈a),a):=by
 unfold xB vu;obtain⟨s,hs,hQ⟩:=yq (f:=wQ fu a x) (fun i:Int=>0<=i/\i<=a.length/\ ∀j:Nat,j<i->ci a j≠x) (fun i=>(a.length-i).toNat) (fun r:Unit⊕Int=>(r= .inl ()/\ ¬x∈a)\/ ∃i:Nat,r= .inr (i:Int)/\x∈a) (by
  rintro i L ⟨i1,i2,i3⟩ ih;obtain⟨k,rfl⟩:=xaC i1;unfold wQ;by_cases h1:k<a.length
  ·rw[zN,zp h1,zf,Zc];by_cases h2:x=ci a k
   ·rw[iq h2];refine⟨_,rfl,.inr ⟨k,rfl,?_⟩⟩;rw[h2,<-Zc,UV,IR h1];exact xbh h1
   ·rw[ir h2,zd];refine ih _ ⟨by omega,by omega,fun j hj=> ?_⟩ (by omega);by_cases e:j=k
    ·rw[e];exact fun h=>h2 h.symm
    ·exact i3 j (by omega)
  ·rw[zx];refine⟨_,rfl,.inl ⟨rfl,fun hx=> ?_⟩⟩;obtain⟨j,hj,e⟩:=xdy.1 hx;refine i3 j (by omega) ?_;rw[<-Zc,UV,IR hj];exact e) fu 0 ⟨by omega,by omega,fun j hj=>by omega⟩ (by omega)
 rw[hs];rcases hQ with⟨rfl,h⟩|⟨i,rfl,h⟩
 ·rw[decide_eq_false h];rfl
 ·rw[decide_eq_true h];show(if(0:Int)<=(i:Int)then some (true,a)else some (false,a))=some (true,a);rw[zN]
theorem Cp{us:List (List Zr)}(hl:us.length<=1000)(ha:a.length<=1000)(hf:3000000<=fu):
 xl fu us a=some (((xbc us.length).filter fun i:Nat=> !decide ((i:Int)∈a)).map fun i=>us.getD i [],a):=by
 unfold xl;rw[za (v:=(((xbc us.length).filter fun i:Nat=> !decide ((i:Int)∈a)).map fun i=>us.getD i [],a))];refine zE (fun s:List (List Zr)×Int×List Int=> ∃j:Nat,j<=us.length/\s=(((xbc j).filter fun i:Nat=> !decide ((i:Int)∈a)).map fun i=>us.getD i [],(j:Int),a)) (fun s=>us.length-s.2.1.toNat) _ ?_ _ _ ⟨0,xaj _,rfl⟩ (by show us.length-0<fu;omega);rintro s L ⟨j,hj,rfl⟩ ih;unfold jv;simp only;by_cases h1:j<us.length
 ·rw[zN,za rfl];simp only[if_true];rw[zp h1,zf,za (Gr ha hf)];simp only;have hb:((xbc j).filter fun i:Nat=> !decide ((i:Int)∈a)).length<=j:=xao (xfx _ _) (by rw[xcy];exact xac j);by_cases h2:(j:Int)∈a
  ·rw[decide_eq_true h2,ir (by decide),zd];refine ih _ ⟨j+1,by omega,?_⟩ (by show us.length-((j:Int)+1).toNat<us.length-(j:Int).toNat;omega);rw[xdD,List.filter_append,xff (by rw[decide_eq_true h2];decide),List.filter_nil,xbN];rfl
  ·rw[decide_eq_false h2,iq (by decide),q9 (by rw[xaN];simp only[xav,xcs];omega),zf,zd];refine ih _ ⟨j+1,by omega,?_⟩ (by show us.length-((j:Int)+1).toNat<us.length-(j:Int).toNat;omega);rw[xdD,List.filter_append,xfe (by rw[decide_eq_false h2];decide),List.filter_nil,xaO];rfl
 ·rw[zx,za rfl];simp only[xak,if_false];obtain rfl:j=us.length:=by omega
  rfl
end
section
variable{M p:Int}{f q g f0:Pz}{k i fu:Nat}{xs:List Lx}{a:List Int}
def Bdz(M:Int)(f:Pz):Prop:= ∀(u v:Pz) (b:Nat),Fs u->Tp v b->f=u*v-> ∀j,2*((v b*u j).natAbs:Int)<M
theorem Bdz.dv(h:Bdz M f)(ng:Nz g)(fg:Fs g)(e:f=q*g):Bdz M q:=fun u v b fu hv e2 j=>by
 obtain⟨a,ha⟩:=Tp.ex fg ng;have h1:=h u (v*g) (b+a) fu (hv.mul ha) (by rw[e,e2,zb]) j;rw[Xi hv.2 ha.2]at h1;have h2:(v b*u j).natAbs<=(v b*g a*u j).natAbs:=by
  rw[Int.mul_right_comm,xcb (v b*u j)];exact xcl _ (by have:=ha.1;omega)
 omega
theorem zin{K:Nat}(h:Bdz M f)(ng:Nz g)(fg:Fs g)(fq:Fs q)(e:f=q*g)(hM:Bz K M)(k:Nat):Bz K (q k):=by
 obtain⟨a,ha⟩:=Tp.ex fg ng;have h1:=h q g a fq ha e k;have h2:(q k).natAbs<=(g a*q k).natAbs:=by
  rw[xcb];exact xdk _ (by have:=ha.1;omega)
 exact hM.le (by omega)
structure Gd(g:List Zr):Prop where
 can:yb g=g
 ir:Ir (cf g)
 ps:Po (cf g)
 ok:xb 250 g
 ln:g.length<=11
structure Ch(p:Int)(k:Nat)(f0:Pz)(F:List Zr)(xs:List Lx)(out:List (List Zr))(c:Nat):Prop where
 lc:Lc p k (cf F) (F.length-1) xs
 k2:k<=1000
 can:yb F=F
 ok:xb 250 F
 ln:F.length<=11
 bd:Bdz (p^k) (cf F)
 ls:Ls p (cf F) xs c
 ct:xs.length+out.length<=10
 pr:f0=prZ (out.map fun g=>(cf g:Pz))*cf F
 gd: ∀g∈out,Gd g
theorem Ch.l0{c:Nat}{F:List Zr}{out:List (List Zr)}(h:Ch p k f0 F xs out c):0<F.length:=by
 have h1:=h.lc.tp.1;by_cases e:F.length=0
 ·exact absurd (z6 (by omega)) h1
 ·omega
theorem zfC(p1:2<=p)(ha: ∀x∈xs,Vs p x.2)(X3:xs.Pairwise fun a b=>qH p (ci a.2) (ci b.2)){j:Nat}(hi:i<xs.length)(hj:j<xs.length)(h:xs.getD i ([],[])=xs.getD j ([],[])):i=j:=by
 have key: ∀i j,i<j->(hj:j<xs.length)->xs.getD i ([],[])=xs.getD j ([],[])->False:=fun i j hb hj h=>by
  have h1:=xcp.1 X3 i j (by omega) hj hb;rw[UV,UV,IR hj,IR (show i<xs.length by omega),xdI,xdI]at h;rw[h]at h1;exact(ha _ (xbh hj)).self p1 h1
 by_cases c1:i<j
 ·exact absurd h fun h=>key i j c1 hj h
 ·by_cases c2:j<i
  ·exact absurd h.symm fun h=>key j i c2 hi h
  ·omega
theorem zaC(p1:2<=p)(ha: ∀x∈xs,Vs p x.2)(X3:xs.Pairwise fun a b=>qH p (ci a.2) (ci b.2)):xs.Nodup:=by
 refine xcp.2 fun i j hi hj hb h=> ?_;have h1:=xcp.1 X3 i j hi hj hb;rw[h]at h1;exact(ha _ (xbh hj)).self p1 h1
theorem HA{α:Type}(d:α)(xs:List α):xs=(xbc xs.length).map fun i=>xs.getD i d:=by
 refine xeK (by simp) fun i h1 h2=> ?_;rw[xfz,List.getElem_range,UV,IR h1];rfl
theorem MI{c:Nat}(ha:gR xs.length c a): ∀x∈tc xs a c,x∈xs:=fun x hx=>by
 obtain⟨j,hj,rfl⟩:=xai.1 hx;have hj:=xaS.1 hj;have h1:=ha.hi j hj;have h2:=ha.lo j hj;exact er (by omega)
theorem zfz{c:Nat}(p1:2<=p)(hb: ∀x∈xs,Vs p x.2)(X3:xs.Pairwise fun a b=>qH p (ci a.2) (ci b.2))(ha:gR xs.length c a)(hi:i<xs.length):xs.getD i ([],[])∈tc xs a c↔(i:Int)∈a:=by
 have hc:=ha.ln;constructor
 ·intro h;obtain⟨j,hj,e⟩:=xai.1 h;have hj:=xaS.1 hj;have h1:=ha.hi j hj;have h2:=ha.lo j hj;have e2:=zfC p1 hb X3 (by omega) hi e;have e3:(i:Int)=ci a j:=by omega
  rw[e3,<-Zc,UV,IR (by omega)];exact xbh _
 ·intro h;obtain⟨j,hj,e⟩:=xdy.1 h;have e2:ci a j=(i:Int):=by
   rw[<-Zc,UV,IR hj];exact e
  exact xai.2 ⟨j,xaS.2 (by omega),by rw[e2];rfl⟩
theorem LP{α:Type}(P:α->Bool): ∀l:List α,(l.filter P).length+(l.filter fun x=> !P x).length=l.length
 |[]=>rfl
 |x::l=>by
  have ih:=LP P l;rw[xdh,xdh];cases h:P x<;>simp[h]<;>omega
theorem IB{c:Nat}{F:List Zr}{out:List (List Zr)}(h:Ch p k f0 F xs out c)(hF:1<=c)(hH:c<=5)(ha:gR xs.length c a)(hf:3000000<=fu):
 (vz fu (yE (p^k)) a (F,xs.map (·.1),out)=some (a,.inl (F,xs.map (·.1),out))/\ ∀u v,Fs u->Fs v->cf F=u*v-> ¬JN u->own p u xs≠tc xs a c)\/
 ∃y a',vz fu (yE (p^k)) a (F,xs.map (·.1),out)=some (a',.inr y)/\ ∃F' xs' out',y=(F',xs'.map (·.1),out')/\Ch p k f0 F' xs' out' c/\xs'.length<xs.length:=by
 have hL:=h.lc;have hp:=hL.hp;obtain⟨p1,p2⟩:=zo hp;have hv:=gl hp h.k2;have hY:=au hp hL.k1;have hI:=h.l0;have hZ:=h.ln;have h0:=h.ct;have hz:=fun x hx=>(hL.el x hx).2.1;obtain⟨t,t1,t2,t3,t4⟩:=Oy (fu:=fu) hp hL.k1 h.k2 hL.el (by omega) ha hH h.ok hI (by omega) hf;obtain⟨G,hG⟩: ∃G,G=bK t (p^k):=⟨_,rfl⟩;rw[<-hG]at t1;have hA: ∀j,cf G j=near (cf t j) (p^k):=fun j=>by rw[hG];exact TG t (by omega) j
 have hJ:Cg (p^k) (cf G) (pc (cf F (F.length-1))*pu (tc xs a c)):=Cg.trans (fun j=>by rw[hA];exact zak _) t4;have hK:xb 250 G:=by rw[hG];exact y7 fun j=>Bz.near hv (by omega)
 have h8:G.length<=400:=by
  have:(bK t (p^k)).length<=t.length:=by unfold bK;rw[xD];exact qf _ _
  rw[hG];omega
 have hk:=Ta hK;have hM:=Z7 G;have h9:=Vr G;have hm:=Wu G;have hn:=uX G;obtain⟨g,hg⟩: ∃g,g=x9 G:=⟨_,rfl⟩;rw[<-hg]at t1 hk hM hm hn;have exact_: ∀u v,Fs u->Fs v->cf F=u*v->own p u xs=tc xs a c-> ∃b,Tp v b/\(cf G:Pz)=pc (v b)*u:=fun u v fu' fv e ho=>by
  obtain⟨nu,nv⟩:=jV hL.tp.nz e;obtain⟨d,hd⟩:=Tp.ex fu' nu;obtain⟨b,hb⟩:=Tp.ex fv nv;refine⟨b,hb,funext fun j=> ?_⟩;have h1:=hL.up hd hb e;have hN:d+b=F.length-1:=by
   have:=hd.mul hb;rw[<-e]at this;exact this.uniq hL.tp
  have hO:cf F (F.length-1)=u d*v b:=by rw[<-hN,e,Xi hd.2 hb.2]
  rw[hA,zD];refine zdj ?_ ?_
  ·have h2:Cg (p^k) (cf t) (pc (v b)*u):=by
    refine t4.trans ?_;rw[hO,<-ho,xbi,<-qL,zb];exact Cg.rfl.mul h1.symm
   rw[h2 j,zD]
  ·exact h.bd u v b fu' hb e j
 have reject: ¬(Zd (cf g) (cf F)/\1<g.length)-> ∀u v,Fs u->Fs v->cf F=u*v-> ¬JN u->own p u xs≠tc xs a c:=fun hP u v fu' fv e nc ho=>by
  obtain⟨b,hb,he⟩:=exact_ u v fu' fv e ho;obtain⟨nu,_⟩:=jV hL.tp.nz e;have hq:(yb G).length≠0:=fun e0=>by
   obtain⟨j,hj⟩:=nu;have:=ku e0 j;rw[he,zD]at this;exact(xdt hb.1 hj) this
  obtain⟨q1,q2⟩:=WG hq;rw[<-hg]at q1 q2;have z1:Zd (cf g) (cf G):=⟨pc (y8 G),Fs.pc _,hm.symm⟩;rw[he]at z1;have z2:=Zd.pm (Fs.cf g) q1 hb.1 z1;refine hP ⟨z2.trans ⟨v,fv,by rw[e,zg]⟩,xad fun hl=>nc fun j hj=> ?_⟩;have h3:cf G j=0:=by rw[<-hm,zD,z6 (by omega),xas]
  rw[he,zD]at h3;rcases xex.1 h3 with h4|h4
  ·exact absurd h4 hb.1
  ·exact h4
 have hB: ∀{q:List Zr} {e:Int},wB fu F g=some (q,e)->vz fu (yE (p^k)) a (F,xs.map (·.1),out)=if e=0 then(if 1<(g.length:Int)then ck ((out.length+1)*24<=140737488355328)<|nm (out++[g]) fun pr=>bd (xl fu (xs.map (·.1)) a) fun w=>some (w.2,.inr (q,w.1,pr))else some (a,.inl (F,xs.map (·.1),out)))else some (a,.inl (F,xs.map (·.1),out)):=fun{q e} hd=>by
  unfold vz;simp only;rw[za t1];simp only;rw[za hd]
 by_cases hr:(yb g).length=0
 ·rw[hB (iA h.ok hk (by decide) (by decide) (by omega) (by omega) hr hf),ir (by decide)];refine .inl ⟨rfl,reject fun hh=> ?_⟩;rw[hn]at hr;omega
 ·obtain⟨q,e,d1,d2,d3⟩:=WK (fu:=fu) h.ok hk (by have:=xar (250+1) (show F.length+1<=12 by omega);omega) (by omega) (by omega) hr hf;rw[hB d1];by_cases he:e=0
  ·by_cases hQ:1<g.length
   ·right;obtain⟨e1,e2,e3⟩:=d3 he;have hq:(yb G).length≠0:=by omega
    obtain⟨q1,q2⟩:=WG hq;rw[<-hg]at q1 q2;have hc:Tp (cf g) (g.length-1):=by
     have:=jt (a:=g) (by omega);rwa[hn]at this
    obtain⟨nq,ng⟩:=jV hL.tp.nz e1;have hR:(yb q).length≠0:=fun e0=>by
     obtain⟨j,hj⟩:=nq;exact hj (ku e0 j)
    have hs:Tp (cf q) (q.length-1):=by
     have:=jt hR;rwa[e2]at this
    have e1':(cf F:Pz)=cf g*cf q:=by rw[e1,zg]
    have ncg: ¬JN (cf g):=fun hC=>by
     have:=(JN.tp hc).1 hC;omega
    have hD: ∀x∈xs,Di p (ci x.2) (cf g)↔x∈tc xs a c:=fun x hx=>hL.pick (MI ha) hc hs e1' (γ:=y8 G) (by
     rw[hm];exact(hJ.down (qV hL.k1)).trans (Cg.rfl.mul (E8 fun y hy=>hL.el y (MI ha y hy)))) hx
    have hS:=zaC p1 hz hL.pw;have hV:(own p (cf g) xs).length<=c:=by
     classical
     have h1:(own p (cf g) xs).Nodup:=by unfold own;exact hS.sublist List.filter_sublist
     have h2:=KI h1 (us:=tc xs a c) fun x hx=>(hD x (Jo.1 hx).1).1 (Jo.1 hx).2;have h3:(tc xs a c).length=c:=by unfold tc;simp
     omega
    have hT:=h.ls (cf g) (cf q) (Fs.cf g) (Fs.cf q) e1' ncg;have hE:=Ls.ir hL h.ls hF (Fs.cf g) (Fs.cf q) e1' q1 ncg (by omega);have ht:0<cf g (g.length-1):=by
     obtain⟨m,m1,m2⟩:=q2.tp;have:=m1.uniq hc;rw[<-this];exact m2
    have hu:=hL.step hc hs ht e1;have hW:(own p (cf g) xs).length+(Dx p (cf g) xs).length=xs.length:=by
     classical
     unfold own Dx;exact LP (fun x:Lx=>decide (Di p (ci x.2) (cf g))) xs
    have hX:0<p^k:=by omega
    have hw:(((xbc (xs.map (·.1)).length).filter fun i:Nat=> !decide ((i:Int)∈a)).map fun i=>(xs.map (·.1)).getD i [])=(Dx p (cf g) xs).map (·.1):=by
     classical
     have e4:Dx p (cf g) xs=((xbc xs.length).filter fun i:Nat=> !decide ((i:Int)∈a)).map fun i=>xs.getD i ([],[]):=by
      unfold Dx;conv=>lhs;rw[HA ([],[]) xs]
      rw[List.filter_map];refine congrArg _ (List.filter_congr fun i hi=> ?_);have hi:=xaS.1 hi;show(!decide (Di p (ci (xs.getD i ([],[])).2) (cf g)))=_;have h5:=(hD _ (er hi)).trans (zfz p1 hz hL.pw ha hi);by_cases h6:(i:Int)∈a
      ·rw[decide_eq_true h6,decide_eq_true (h5.2 h6)]
      ·rw[decide_eq_false h6,decide_eq_false fun h7=>h6 (h5.1 h7)]
     rw[e4,xcP,xaN];refine xbO fun i _=> ?_;exact DP
    have h':=ha.ln;refine⟨(q,(Dx p (cf g) xs).map (·.1),out++[g]),a,?_,q,Dx p (cf g) xs,out++[g],rfl,?_,by omega⟩
    ·rw[iq he,zN,yG,zf,za (Cp (by rw[xaN];omega) (by omega) hf),hw]
    ·have hU: ∀j,Bz 250 (cf q j):=zin h.bd ng (Fs.cf g) (Fs.cf q) e1 hv;refine⟨hu,h.k2,e2,by rw[<-e2];exact y7 hU,by omega,h.bd.dv ng (Fs.cf g) e1,h.ls.step hL (Fs.cf g) (Fs.cf q) e1,?_,?_,fun x hx=> ?_⟩
     ·rw[xau,List.length_singleton];omega
     ·rw[xaO,xM,h.pr,e1'];show prZ _*(cf g*cf q)=prZ _*(cf g*pc 1)*cf q;rw[zL,zb]
     ·rcases Nm.1 hx with hx|hx
      ·exact h.gd x hx
      ·obtain rfl:=xah.1 hx;have:x.length<=11:=by
        have:=(hc.mul hs).uniq (by rw[<-e1'];exact hL.tp);omega
       exact⟨hn,hE,q2,hk,this⟩
   ·rw[iq he,zx];exact .inl ⟨rfl,reject fun hh=>hQ hh.2⟩
  ·rw[ir he];exact .inl ⟨rfl,reject fun hh=>he (d2.2 hh.1)⟩
theorem zgb{is:List (Fin xs.length)}(hp:is.Pairwise (· < ·)):gR xs.length is.length (is.map fun i=>(i.val:Int))/\tc xs (is.map fun i=>(i.val:Int)) is.length=is.map (xs[·]):=by
 have ha: ∀j (hj:j<is.length),ci (is.map fun i=>(i.val:Int)) j=(is[j].val:Int):=fun j hj=>by
  rw[<-Zc,UV,xaB,IR hj];rfl
 have hb: ∀i j (hi:i<is.length) (hj:j<is.length),i<j->is[i].val<is[j].val:=fun i j hi hj hd=>xcp.1 hp i j hi hj hd;have hc: ∀d i (hi:i+d<is.length),is[i].val+d<=is[i+d].val:=fun d=>by
  induction d with
  |zero=>intro i hi;exact xac _
  |succ d ih=>
   intro i hi;have h1:=ih i (by omega);have h2:=hb (i+d) (i+(d+1)) (by omega) hi (by omega);omega
 refine⟨⟨by simp,fun i hi=> ?_,fun i hi=> ?_,fun i hi=> ?_⟩,?_⟩
 ·rw[ha i hi];have:=hc i 0 (by omega);simp only[xaT]at this;omega
 ·rw[ha i hi];have h1:=hc (is.length-1-i) i (by omega);have h2:=is[i+(is.length-1-i)].isLt;omega
 ·rw[ha i (by omega),ha (i+1) hi];have:=hb i (i+1) (by omega) hi (by omega);omega
 ·unfold tc;refine xeK (by simp) fun i h1 h2=> ?_;rw[xaN]at h2;rw[xfz,List.getElem_range,xfz,ha i h2,xaM,UV,IR is[i].isLt];rfl
theorem Fj{F:List Zr}(h0:Ch p k f0 F xs [] 1)(hf:3000000<=fu):
 ∃s,zj (fun L x=>uk fu (yE (p^k)) x L) fu (F,xs.map (·.1),[],1)=some s/\ ∃(F:List Zr) (xs:List Lx) (out:List (List Zr)) (c:Nat),s=(F,xs.map (·.1),out)/\Ch p k f0 F xs out c/\xs.length<2*c:=by
 exact yq (f:=fun L x=>uk fu (yE (p^k)) x L) (fun s:List Zr×List (List Zr)×List (List Zr)×Int=> ∃(F:List Zr) (xs:List Lx) (out:List (List Zr)) (c:Nat),s=(F,xs.map (·.1),out,(c:Int))/\Ch p k f0 F xs out c/\1<=c/\c<=6) (fun s=>s.2.1.length*20+(20-s.2.2.2.toNat))
  (fun r=> ∃(F:List Zr) (xs:List Lx) (out:List (List Zr)) (c:Nat),r=(F,xs.map (·.1),out)/\Ch p k f0 F xs out c/\xs.length<2*c) (by
  rintro s L ⟨F,xs,out,c,rfl,hC,hb,hg⟩ ih
  unfold uk
  simp only
  have hj:=hC.ct
  rw[zd,xaN]
  by_cases h2:2*c<=xs.length
  ·rw[zN]
   have hc:=fun a ha=>IB (fu:=fu) (a:=a) hC hb (show c<=5 by omega) ha hf
   rcases Ba (fu:=fu) (N:=xs.length) (c:=c) (g:=vz fu (yE (p^k))) (x0:=(F,xs.map (·.1),out)) (Rej:=fun a=> ∀u v,Fs u->Fs v->cf F=u*v-> ¬JN u->own p u xs≠tc xs a c) (Acc:=fun a y=> ∃F' xs' out',y=(F',xs'.map (·.1),out')/\Ch p k f0 F' xs' out' c/\xs'.length<xs.length) hb (by omega) (by omega) (by omega) hf hc with⟨e,hr⟩|⟨a,y,ha,⟨F',xs',out',rfl,hi,hk⟩,e⟩
   ·rw[za e]
    rw[Sum.elim_inl]
    simp only
    rw[zd]
    refine ih _ ⟨F,xs,out,c+1,by rw[show((c+1:Nat):Int)=(c:Int)+1 by omega],?_,by omega,by omega⟩ (by
     show(xs.map (·.1)).length*20+(20-((c:Int)+1).toNat)<(xs.map (·.1)).length*20+(20-(c:Int).toNat);omega)
    refine⟨hC.lc,hC.k2,hC.can,hC.ok,hC.ln,hC.bd,fun u v fu' fv e nc=> ?_,hC.ct,hC.pr,hC.gd⟩
    have h3:=hC.ls u v fu' fv e nc
    by_cases h4:(own p u xs).length=c
    ·exfalso
     have hd:(own p u xs).Sublist xs:=by unfold own;exact List.filter_sublist
     obtain⟨is,e5,e6⟩:=List.sublist_eq_map_getElem hd
     obtain⟨i1,i2⟩:=zgb e6
     have he:is.length=c:=by rw[<-h4,e5,xaN]
     rw[he]at i1 i2
     exact hr _ i1 u v fu' fv e nc (by rw[i2,e5])
    ·omega
   ·rw[za e]
    rw[Sum.elim_inr]
    refine ih _ ⟨F',xs',out',c,rfl,hi,hb,hg⟩ ?_
    show(xs'.map (·.1)).length*20+(20-(c:Int).toNat)<(xs.map (·.1)).length*20+(20-(c:Int).toNat)
    rw[xaN,xaN]
    omega
  ·rw[zx]
   exact⟨_,rfl,F,xs,out,c,rfl,hC,by omega⟩) fu (F,xs.map (·.1),[],1) ⟨F,xs,[],1,rfl,h0,by omega,by omega⟩ (by
   show(xs.map (·.1)).length*20+(20-(1:Int).toNat)<fu
   rw[xaN]
   have:=h0.ct
   omega)
theorem Fb{F:List Zr}(h0:Ch p k (cf F) F xs [] 1)(hf:3000000<=fu):
 ∃out,ud fu F (xs.map (·.1)) (yE (p^k))=some out/\out.length<=11/\(∀g∈out,Gd g)/\cf F=prZ (out.map fun g=>(cf g:Pz)):=by
 obtain⟨f0,hb⟩: ∃f0:Pz,f0=cf F:=⟨_,rfl⟩;rw[<-hb]at h0⊢;obtain⟨s,hs,F',xs',out',c',rfl,hC,hi⟩:=Fj h0 hf;unfold ud;rw[za hs];simp only;have hj:=hC.ct;have hl:=hC.l0;have hm:=hC.ln;have ha:=hC.lc.pm;by_cases h1:1<F'.length
 ·have hn:(yb F').length≠0:=by rw[hC.can];omega
  have hc:y8 F'=1:=by
   have a1:=fW F';rw[hC.can]at a1;have a2:=(ha _ (du fun k hk=>z6 hk):ZL (cf F') F'.length=1);have a3:y8 F'=if cf (yb F') ((yb F').length-1)<0 then-((ZL (cf F') (yb F').length:Nat):Int)else((ZL (cf F') (yb F').length:Nat):Int):=rfl;rw[hC.can,ir (by have:=hC.lc.ps;omega),a2]at a3;exact a3
  have hP:x9 F'=F':=Wc (uX F') hC.can fun k=>by rw[uc,hc,Int.ediv_one]
  have he:Ir (cf F'):=by
   have nc: ¬JN (cf F'):=fun h=>by have:=(JN.tp hC.lc.tp).1 h;omega
   have hc1:1<=c'\/c'=0:=by omega
   rcases hc1 with hc1|hc1
   ·refine Ls.ir hC.lc hC.ls hc1 (Fs.cf F') (Fs.pc 1) (zL _).symm ha nc ?_;have:(own p (cf F') xs').length<=xs'.length:=by unfold own;exact xfx _ _
    omega
   ·omega
  refine⟨out'++[F'],?_,by rw[xau,List.length_singleton];omega,fun g hg=> ?_,?_⟩
  ·rw[zN,za (wK hC.ok (by decide) (by omega) hf),hP,yG,zf]
  ·rcases Nm.1 hg with hg|hg
   ·exact hC.gd g hg
   ·obtain rfl:=xah.1 hg;exact⟨hC.can,he,⟨_,hC.lc.ps,hC.lc.tp.2⟩,hC.ok,hC.ln⟩
  ·rw[hC.pr,xaO,xM];show _=prZ _*(cf F'*pc 1);rw[zL]
 ·refine⟨out',by rw[zx],by omega,hC.gd,?_⟩;obtain⟨d,hd⟩:=((JN.tp hC.lc.tp).2 (by omega)).ex;rw[hd]at ha;have h3:=hC.lc.ps;have h4:cf F' (F'.length-1)=d:=by rw[hd,show F'.length-1=0 by omega];exact iq rfl
  rw[hC.pr,hd];rcases dc ha with e|e
  ·rw[e,zL]
  ·omega
end
section
variable{a b K fu bx by_:Nat}{x y:Int}
def Bb(b:Nat)(x:Int):Prop:=x.natAbs<2^b
theorem Bb.mono(h:Bb a x)(ha:a<=b):Bb b x:=xap h (xaK (by decide) ha)
theorem Bb.mul(hx:Bb a x)(hy:Bb b y):Bb (a+b) (x*y):=by
 unfold Bb at*
 rw[xcb,xbW];by_cases h:y.natAbs=0
 ·rw[h,xdi];exact Nat.mul_pos (xbp (by decide)) (xbp (by decide))
 ·exact Nat.mul_lt_mul_of_lt_of_le hx (xcO hy) (by omega)
theorem Bb.sub(hx:Bb b x)(hy:Bb b y):Bb (b+1) (x-y):=by
 unfold Bb at*
 rw[xbu];omega
theorem Bb.zero(b:Nat):Bb b 0:=xbp (by decide)
theorem Bb.bz(h:Bb b x)(hK:b<=64*K):Bz K x:=by
 unfold Bz;rw[show(18446744073709551616:Nat)=2^64 by decide,<-xdc];exact xap h (xaK (by decide) hK)
theorem Bz.bb(h:Bz K x):Bb (64*K) x:=by
 unfold Bz at h;unfold Bb;rwa[show(18446744073709551616:Nat)=2^64 by decide,<-xdc]at h
theorem Bb.le(hy:Bb b y)(h:x.natAbs<=y.natAbs):Bb b x:=xbd h hy
theorem Bb.pow{b:Nat}{x:Int}(h:Bb b x): ∀n,Bb (n*b+1) (x^n)
 |0=>by rw[xbs];unfold Bb;rw[xcI];decide
 |n+1=>by
  rw[xbk,xaV,xcn,Nat.add_right_comm];exact(Bb.pow h n).mul h
theorem Bb.pow'{b:Nat}{x y:Int}{c:Nat}(h:Bb b x)(hy:Bb c y): ∀n,Bb (n*b+c) (x^n*y)
 |0=>by rw[xbs,xbX,xcI,xaT];exact hy
 |n+1=>by
  rw[xbk,Int.mul_right_comm,xaV,xcn,Nat.add_right_comm];exact(Bb.pow' h hy n).mul h
theorem gV{n:Nat}{a:Int}(hn:n<=65536)(hb: ∀d,d<=n->Bz K (a^d))(h1:Bz K a)(hK:K<=40000)(hf:3000000<=fu):XP fu (yE a) (n:Int)=some (yE (a^n)):=by
 unfold XP;rw[za (z8 (by decide) hf),za (v:=yE (a^n))];refine zE (fun s:Int×Zr=> ∃i:Nat,s=((i:Int),yE (a^i))/\i<=n) (fun s=>n-s.1.toNat) _ ?_ _ _ ⟨0,by rw[xbs];rfl,xaj _⟩ (by show n-0<fu;omega);rintro s L ⟨i,rfl,hi⟩ ih;unfold KK;simp only;by_cases h:i<n
 ·rw[zN,za (ye ((hb i hi).ok (by omega)) (h1.ok (by omega)) hf),zu,zu,zd,<-xbk];exact ih _ ⟨i+1,rfl,by omega⟩ (by show n-((i:Int)+1).toNat<n-(i:Int).toNat;omega)
 ·rw[zx];obtain rfl:i=n:=by omega
  rfl
structure PsI(x y:Pz)(l:Int)(ly n bx by_ k:Nat)(Q ρ:Pz):Prop where
 fq:Fs Q
 eq:pc (l^(n-k))*x=Q*y+ρ
 z: ∀j,k+(ly-1)<=j->ρ j=0
 b: ∀j,Bb (bx+(n-k)*(by_+1)) (ρ j)
theorem PsI.step{x y:Pz}{l:Int}{ly n k:Nat}{Q ρ:Pz}(h:PsI x y l ly n bx by_ (k+1) Q ρ)(hk:k+1<=n)(hy:Tp y (ly-1))(hl:y (ly-1)=l)(hb: ∀j,Bb by_ (y j)):
 PsI x y l ly n bx by_ k (pc l*Q+mono k (ρ (k+(ly-1)))) (fun j=>l*ρ j-ρ (k+(ly-1))*sh y k j):=by
 have e1:n-k=n-(k+1)+1:=by omega
 have ha:bx+(n-k)*(by_+1)=by_+(bx+(n-(k+1))*(by_+1))+1:=by rw[e1,xaV];omega
 refine⟨((Fs.pc l).mul h.fq).add ⟨k+1,fun j hj=>zx⟩,?_,fun j hj=> ?_,fun j=> ?_⟩
 ·rw[e1,xbk,xbi,<-qL,zb,h.eq,xw,yj,zb];funext j;rw[zK,zK,zK,Y3,zD l ρ];show _=_+_+(l*ρ j-ρ (k+(ly-1))*sh y k j);omega
 ·show l*ρ j-ρ (k+(ly-1))*sh y k j=0;unfold sh;rw[zN];by_cases e:j=k+(ly-1)
  ·rw[e,show k+(ly-1)-k=ly-1 by omega,hl,xbi];omega
  ·rw[h.z j (by omega),hy.2 _ (by omega)];omega
 ·rw[ha];refine Bb.sub ((show Bb by_ l by rw[<-hl];exact hb _).mul (h.b j)) ?_;rw[xdA by_];refine(h.b _).mul ?_;unfold sh;split
  ·exact hb _
  ·exact Bb.zero _
theorem zeV{n:Nat}{l:List Zr}(j:Nat):cf (xaf n (false,[])++l) j=sh (cf l) n j:=by
 unfold sh;by_cases h:n<=j
 ·rw[iq h];unfold cf;rw[UV,xcj (by rw[xaU];exact h),xaU,<-UV]
 ·rw[ir h];unfold cf;rw[UV,xbn (by rw[xaU];omega),xeY];rw[zN];rfl
theorem gb{x y:List Zr}(hx:yb x=x)(hy:yb y=y)(hl:y.length<=x.length)(hH:0<y.length)(hJ:x.length<=60)(bX: ∀j,Bb bx (cf x j))(bY: ∀j,Bb by_ (cf y j))(hT:bx+(x.length-y.length+1)*(by_+1)<=2400000)(hf:3000000<=fu):
 ∃q r c Q,Yr fu x y=some (q,r,0)/\yb r=r/\r.length<y.length/\c≠0/\Fs Q/\(pc c*cf x:Pz)=Q*cf y+cf r/\ ∀j,Bb (bx+(x.length-y.length+1)*(by_+1)) (cf r j):=by
 obtain⟨n,hn⟩: ∃n,n=x.length-y.length+1:=⟨_,rfl⟩;rw[<-hn]at hT⊢;obtain⟨T,hK⟩: ∃T,T=bx+n*(by_+1):=⟨_,rfl⟩;have ty:Tp (cf y) (y.length-1):=by
  have:=jt (a:=y) (by rw[hy];omega);rwa[hy]at this
 obtain⟨l,he⟩: ∃l,l=cf y (y.length-1):=⟨_,rfl⟩;have hb:l≠0:=by rw[he];exact ty.1
 have bl_:Bb by_ l:=by rw[he];exact bY _
 have hi: ∀d,d<=n->d*(by_+1)<=n*(by_+1):=fun d hd=>xar _ hd;have hm: ∀d:Nat,d*(by_+1)=d*by_+d:=fun d=>by rw[xbm,xcD]
 have hL:by_+1<=T:=by have:=hi 1 (by omega);rw[xcn]at this;omega
 have oX:xb 37500 x:=by rw[<-hx];exact y7 fun j=>(bX j).bz (by omega)
 have oY:xb 37500 y:=by rw[<-hy];exact y7 fun j=>(bY j).bz (by omega)
 have bpw: ∀d,d<=n->Bz 37501 (l^d):=fun d hd=>(Bb.pow bl_ d).bz (by have:=hi d hd;have:=hm d;omega);have bpx: ∀d,d<=n-> ∀z,Bb (bx+(n-d)*(by_+1)) z->Bb T (l^d*z):=fun d hd z hz=>(Bb.pow' bl_ hz d).mono (by
  have h1:=hm d;have h2:n*(by_+1)=d*(by_+1)+(n-d)*(by_+1):=by rw[<-xaV];congr 1;omega
  omega)
 have hA:y.getD (y.length-1) (false,[])=yE l:=by rw[he];exact Gj (show y=qe y.length (cf y)from hy.symm) (by omega)
 obtain⟨r0,hg⟩: ∃r0,r0=qe x.length (fun j=>cf x j*l^n):=⟨_,rfl⟩;have hq: ∀j,cf r0 j=l^n*cf x j:=fun j=>by rw[hg,jq (fun j hj=>by rw[z6 hj,xaQ]),xbi]
 obtain⟨s,hs,r,q,rfl,ρ,Q,r1,r2,r3,r4⟩:=yq (f:=Xy fu (yE l)) (fun s:List Zr×List Zr×Int×List Zr=> ∃(k:Nat) (r q:List Zr),s=(y,r,(k:Int)-1,q)/\k<=n/\yb r=r/\r.length<=x.length+60*(n-k)/\q.length=n/\xb 37500 q/\ ∃Q ρ,PsI (cf x) (cf y) l y.length n bx by_ k Q ρ/\ ∀j,cf r j=l^k*ρ j) (fun s=>(s.2.2.1+1).toNat)
  (fun t=> ∃(r q:List Zr),t=(r,q)/\ ∃ρ Q,yb r=r/\(q.length=n/\xb 37500 q)/\PsI (cf x) (cf y) l y.length n bx by_ 0 Q ρ/\ ∀j,cf r j=ρ j) (by
  rintro s L ⟨k,r,q,rfl,hk,hr,hM,ho,hp,Q,ρ,hI,hc⟩ ih
  unfold Xy
  simp only
  cases k with
  |zero=>
   rw[zx]
   exact⟨_,rfl,r,q,rfl,ρ,Q,hr,⟨ho,hp⟩,hI,fun j=>by rw[hc j,xbs,xbX]⟩
  |succ k=>
   have hG:60*(n-(k+1))+60=60*(n-k):=by omega
   have hN:60*(n-k)<=60*60:=xaA _ (by omega)
   have ht:=hI.step hk ty he.symm bY
   have bR: ∀j,Bb T (cf r j):=fun j=>by rw[hc j];exact bpx (k+1) hk _ (hI.b j)
   have oR:xb 37500 r:=by rw[<-hr];exact y7 fun j=>(bR j).bz (by omega)
   rw[show((k+1:Nat):Int)-1=(k:Int)by omega,zN,zd]
   by_cases hO:r.length<k+y.length
   ·have hB:ρ (k+(y.length-1))=0:=by
     have h1:=hc (k+(y.length-1));rw[z6 (by omega)]at h1;rcases xex.1 h1.symm with h2|h2
     ·exact absurd h2 (Int.pow_ne_zero hb)
     ·exact h2
    rw[zN,zd]
    refine ih _ ⟨k,r,q,rfl,by omega,hr,by omega,ho,hp,_,_,ht,fun j=> ?_⟩ (by show((k:Int)-1+1).toNat<(((k+1:Nat):Int)-1+1).toNat;omega)
    show cf r j=l^k*(l*ρ j-ρ (k+(y.length-1))*sh (cf y) k j)
    rw[hB,xaQ,xcB,hc j,xbk,xbH]
   ·have hC:r.length=k+y.length:=by
     by_cases e:r.length=k+y.length
     ·exact e
     ·exfalso;have h1:=Zw (show r=qe r.length (cf r)from hr.symm) (by omega);rw[hc,hI.z _ (by omega),xas]at h1;exact h1 rfl
    obtain⟨w,hw⟩: ∃w,w=ρ (k+(y.length-1)):=⟨_,rfl⟩
    have hD:cf r (k+(y.length-1))=l^k*w*l:=by rw[hc,<-hw,xbk,Int.mul_right_comm]
    have bw:Bb T (l^k*w):=by
     refine bpx k (by omega) w ((hI.b _).mono ?_|>fun h=>by rw[hw];exact h);have:=hi (n-(k+1)) (by omega);have h3:(n-k)*(by_+1)=(n-(k+1))*(by_+1)+(by_+1):=by rw[show n-k=n-(k+1)+1 by omega,xaV,xcn]
     omega
    have bwy: ∀j,Bb T (cf y j*(l^k*w)):=fun j=>by
     have h1:Bb (by_+(k*by_+(bx+(n-(k+1))*(by_+1)))) (cf y j*(l^k*w)):=(bY j).mul (Bb.pow' bl_ (by rw[hw];exact hI.b _) k);refine h1.mono ?_;have h2:n*(by_+1)=(k+1)*(by_+1)+(n-(k+1))*(by_+1):=by rw[<-xaV];congr 1;omega
     have h3:=hm (k+1);rw[xaV k 1 by_,xcn]at h3;omega
    have hE:exE (l^k*w*l) l=0:=by unfold exE;rw[ir hb,iq (Int.mul_emod_left _ _)]
    have hX:exI (l^k*w*l) l=l^k*w:=by unfold exI;rw[ir hb,iq (Int.mul_emod_left _ _),Int.mul_ediv_cancel _ hb]
    rw[zx,zd,show(k:Int)+(y.length:Int)-1=((k+(y.length-1):Nat):Int)by omega,zd,yB,zf,za (Xh (oR.okS (by decide) _) ((bl_.bz (K:=37500) (by omega)).okS (by decide)) hf),Qm,zu,hD,hX,hE]
    simp only
    have hu:(q.set k (yE (l^k*w))).getD k (false,[])=yE (l^k*w):=by rw[UV,List.getElem?_set_self (by omega)];rfl
    rw[yB,zf,yO,yG,zf,zp (by rw[xcG];omega),zf,hu,za (qy (l:=37500) oY ⟨yU _,(bw.bz (K:=37500) (by omega)).len⟩ (by decide) (by omega) hf),zu]
    obtain⟨part,ha⟩: ∃part,part=qe y.length (fun j=>cf y j*(l^k*w)):=⟨_,rfl⟩
    have hF: ∀j,cf part j=cf y j*(l^k*w):=fun j=>by rw[ha,jq (fun j hj=>by rw[z6 hj,xaQ])]
    have hP:part.length<=y.length:=by rw[ha,xD];exact qf _ _
    have oPt:xb 37500 part:=by rw[ha];exact y7 fun j=>(bwy j).bz (by omega)
    have oSum:xb 37500 (xaf k (false,[])++part):=fun z hz=>by
     rcases Nm.1 hz with hz|hz
     ·rw[(List.mem_replicate.1 hz).2];exact⟨zm.nil,xaj _⟩
     ·exact oPt z hz
    rw[<-ha,q9 (by rw[xaU];omega),zf,za (jY oR oSum (by decide) (by omega) (by rw[xau,xaU];omega) hf),zd]
    refine ih _ ⟨k,_,_,rfl,by omega,(YH _ _).symm,?_,by rw[xcG];exact ho,?_,_,_,ht,fun j=> ?_⟩ (by show((k:Int)-1+1).toNat<(((k+1:Nat):Int)-1+1).toNat;omega)
    ·have:=Qg r (xaf k (false,[])++part)
     rw[xau,xaU]at this
     omega
    ·intro z hz
     rcases xeG hz with h1|h1
     ·exact hp z h1
     ·rw[h1];exact⟨yU _,(bw.bz (K:=37500) (by omega)).len⟩
    ·rw[Nc,zeV,hc j]
     show l^(k+1)*ρ j-sh (cf part) k j=l^k*(l*ρ j-ρ (k+(y.length-1))*sh (cf y) k j)
     rw[<-hw]
     have e2:sh (cf part) k j=l^k*(w*sh (cf y) k j):=by
      unfold sh;split
      ·rw[hF,xbi,xbH]
      ·rw[xas,xas]
     rw[e2,xbk,Int.mul_sub,xbH]) fu (y,r0,(n:Int)-1,xaf n (false,[])) ⟨n,r0,_,rfl,xac _,by rw[hg];exact(YH _ _).symm,by rw[hg,xD];have:=qf (fun j=>cf x j*l^n) x.length;omega,xaU,fun z hz=>by rw[(List.mem_replicate.1 hz).2];exact⟨zm.nil,xaj _⟩,pc 0,cf x,⟨Fs.pc 0,by
    rw[xcW,xbs,zt,yg];exact funext fun j=>by rw[zK,zM,xcA],fun j hj=>z6 (by omega),fun j=>by rw[xcW,xcI];exact bX j⟩,hq⟩ (by show((n:Int)-1+1).toNat<fu;omega)
 refine⟨qe q.length (cf q),r,l^n,Q,?_,r1,?_,Int.pow_ne_zero hb,r3.fq,?_,fun j=>by rw[r4 j];exact r3.b j⟩
 ·unfold Yr;have hv:max ((x.length:Int)-y.length+1) 0=(n:Int):=by omega
  rw[za (zz oX (by decide) (by omega) hf),za (zz oY (by decide) (by omega) hf),show qe x.length (cf x)=x from hx,show qe y.length (cf y)=y from hy,zx,zd,zd,zf,hv,show(y.length:Int)-1=((y.length-1:Nat):Int)by omega,zd,yB,zf,hA,za (gV (by omega) bpw ((bl_.bz (K:=37501) (by omega))) (by decide) hf),za (qy (l:=37501) oX ⟨yU _,(bpw n (xac _)).len⟩ (by decide) (by omega) hf),zu,<-hg,yO,yG,zf,zd,za hs];simp only;rw[za (zz r2.2 (by decide) (by omega) hf)]
 ·by_cases e:r.length=0
  ·omega
  ·have h1:=Zw (show r=qe r.length (cf r)from r1.symm) e;by_cases h2:r.length<y.length
   ·exact h2
   ·rw[r4,r3.z _ (by omega)]at h1;exact absurd rfl h1
 ·have:=r3.eq;rw[Nat.sub_zero]at this;rw[this,show(cf r:Pz)=ρ from funext r4]
end
section
def fac:Nat->Int
 |0=>1
 |n+1=>((n+1:Nat):Int)*fac n
theorem uz: ∀n,0<fac n
 |0=>by decide
 |n+1=>Int.mul_pos (by omega) (uz n)
def ip(n:Nat)(f g:Pz):Int:=zV (n+1) fun s=>fac s*fac (n-s)*(f s*g s)
theorem Zf(n:Nat)(f g:Pz):ip n f g=ip n g f:=zU fun s _=>by rw[xbi (f s)]
theorem Ld(n:Nat)(f g h:Pz):ip n (f+g) h=ip n f h+ip n g h:=by
 unfold ip;rw[<-Zg];exact zU fun s _=>by rw[zK,Int.add_mul,xeR]
theorem lO(n:Nat)(f g h:Pz):ip n h (f+g)=ip n h f+ip n h g:=by rw[Zf,Ld,Zf n f,Zf n g]
theorem Ey(n:Nat)(c:Int)(f h:Pz):ip n (pc c*f) h=c*ip n f h:=by
 unfold ip;rw[<-jR];exact zU fun s _=>by rw[zD,xbH c (f s),Int.mul_left_comm]
theorem eR(n:Nat)(c:Int)(f h:Pz):ip n h (pc c*f)=c*ip n h f:=by rw[Zf,Ey,Zf]
theorem Dh{f:Nat->Int}: ∀{n},(∀k,k<n->0<=f k)->0<=zV n f
 |0,_=>xeS 0
 |n+1,h=>Int.add_nonneg (Dh fun k hk=>h k (by omega)) (h n (by omega))
theorem zd4(n:Nat)(f:Pz):0<=ip n f f:=Dh fun s _=>xcz (xcz (xdC (uz _)) (xdC (uz _))) (jk _)
def xP:Pz:=mono 1 1
theorem zhX(f:Pz):(xP*f) 0=0:=by
 unfold xP;rw[Y3];rfl
theorem zgx(f:Pz)(k:Nat):(xP*f) (k+1)=f k:=by
 unfold xP;rw[Y3];unfold sh;rw[zN,xbX];rfl
theorem adx(n:Nat)(f g:Pz):ip (n+1) (xP*f) g=ip n f (dvp g):=by
 unfold ip;rw[jL,zhX,xaQ,xas,xcA];refine zU fun s hs=> ?_;rw[zgx,show n+1-(s+1)=n-s by omega];show((s+1:Nat):Int)*fac s*fac (n-s)*(f s*g (s+1))=fac s*fac (n-s)*(f s*(((s+1:Nat):Int)*g (s+1)));grind
def dy(n:Nat)(f:Pz):Pz:=pc (n:Int)*f-xP*dvp f
theorem GD(n:Nat)(f:Pz)(k:Nat):dy n f k=((n:Int)-k)*f k:=by
 unfold dy;rw[yA,zD]
 cases k with
 |zero=>rw[zhX];grind
 |succ k=>
  rw[zgx];show(n:Int)*f (k+1)-((k+1:Nat):Int)*f (k+1)=_;grind
theorem ady(n:Nat)(f g:Pz)(hf:f (n+1)=0):ip (n+1) f g=ip n f (dy (n+1) g):=by
 unfold ip;show zV (n+1) _+fac (n+1)*fac (n+1-(n+1))*(f (n+1)*g (n+1))=_;rw[hf,xaQ,xas,xbx];refine zU fun s hs=> ?_;rw[GD,show n+1-s=(n-s)+1 by omega];show fac s*(((n-s+1:Nat):Int)*fac (n-s))*(f s*g s)=_;have e:((n-s+1:Nat):Int)=((n+1:Nat):Int)-s:=by omega
 rw[e];grind
theorem eul(n:Nat)(f:Pz):pc (n:Int)*f=xP*dvp f+dy n f:=by
 unfold dy;funext k;rw[zK,yA];omega
theorem zeQ(n m:Nat)(f g:Pz):dy (n+m) (f*g)=dy n f*g+f*dy m g:=by
 have h1:pc ((n+m:Nat):Int)*(f*g)=pc (n:Int)*f*g+f*(pc (m:Int)*g):=by
  rw[zy f,zb];funext k;rw[zK,zD,zD,zD];grind
 have h2:xP*(dvp f*g+f*dvp g)=xP*dvp f*g+f*(xP*dvp g):=by rw[xw,zb,zy f]
 unfold dy;rw[XR,h1,h2,w7,w8];funext k;simp only[zK,yA];omega
theorem TR(n:Nat)(f:Pz):dvp (dy (n+1) f)=dy n (dvp f):=funext fun k=>by
 rw[GD];show((k+1:Nat):Int)*dy (n+1) f (k+1)=((n:Int)-k)*(((k+1:Nat):Int)*f (k+1));rw[GD];have e:((n+1:Nat):Int)-((k+1:Nat):Int)=(n:Int)-k:=by omega
 rw[e,Int.mul_left_comm]
def Dg(n:Nat)(f:Pz):Prop:= ∀k,n<k->f k=0
theorem Dg.dx{n:Nat}{f:Pz}(h:Dg (n+1) f):Dg n (dvp f):=fun k hk=>by
 show((k+1:Nat):Int)*f (k+1)=0;rw[h _ (by omega),xas]
theorem Dg.dy{n:Nat}{f:Pz}(h:Dg (n+1) f):Dg n (dy (n+1) f):=fun k hk=>by
 rw[GD];by_cases e:k=n+1
 ·rw[e,xcX,xaQ]
 ·rw[h k (by omega),xas]
theorem Dg.mul{n m:Nat}{f g:Pz}(hf:Dg n f)(hg:Dg m g):Dg (n+m) (f*g):=fun k hk=>vA (n:=n+1) (m:=m+1) (fun j hj=>hf j (by omega)) (fun j hj=>hg j (by omega)) (by omega)
theorem Dg.add{n:Nat}{f g:Pz}(hf:Dg n f)(hg:Dg n g):Dg n (f+g):=fun k hk=>by rw[zK,hf k hk,hg k hk];rfl
theorem Dg.num{f:Pz}(h:Dg 0 f):f=pc (f 0):=funext fun k=>by
 unfold pc;by_cases e:k=0
 ·rw[iq e,e]
 ·rw[ir e,h k (by omega)]
section
variable(a:Nat)(u:Pz)
theorem zdC{m b q0:Nat}{v p q:Pz}(hp:Dg (m+1) p)(hu:Dg a u)(e:b+q0=m+1+a):
 ((m+1:Nat):Int)*ip (m+1+a) (p*u) (v*q)=ip (m+a) (dvp p*u) (dvp v*q)+ip (m+a) (dy (m+1) p*u) (dy b v*q)+(ip (m+a) (dvp p*u) (v*dvp q)+ip (m+a) (dy (m+1) p*u) (v*dy q0 q)):=by
 rw[<-Ey,<-zb,eul,yj,Ld,zb,show m+1+a=m+a+1 by omega,adx,ady _ _ _ (hp.dy.mul hu _ (by omega)),XR,lO,show m+a+1=b+q0 by omega,zeQ,lO];omega
def Fk:Nat->Nat->Nat->Pz->Pz->Pz->Int
 |0,pb,_,v,p,q=>ip (pb+a) (p*u) (v*q)
 |k+1,pb,qa,v,p,q=>Fk k (pb-1) (qa-1) v (dvp p) (dvp q)+Fk k (pb-1) (qa-1) v (dy pb p) (dy qa q)
theorem Bw(hu:Dg a u): ∀(k:Nat) {m b q0:Nat} {v p q:Pz},k<=m->m<=q0->b+(q0+1)=m+1+a->Dg (m+1) p->
 ((m+1:Nat)-(k:Int))*Fk a u k (m+1) (q0+1) v p q=Fk a u k m (q0+1) (dvp v) (dvp p) q+Fk a u k m (q0+1) (dy b v) (dy (m+1) p) q+Fk a u (k+1) (m+1) (q0+1) v p q
 |0,m,b,q0,v,p,q,_,_,e,hp=>by
  have:=zdC a u (v:=v) (q:=q) hp hu e;show((m+1:Nat)-((0:Nat):Int))*ip (m+1+a) (p*u) (v*q)=ip (m+a) (dvp p*u) (dvp v*q)+ip (m+a) (dy (m+1) p*u) (dy b v*q)+(ip (m+a) (dvp p*u) (v*dvp q)+ip (m+a) (dy (m+1) p*u) (v*dy (q0+1) q));rw[<-this];congr 1
 |k+1,0,_,_,_,_,_,h,_,_,_=>by omega
 |k+1,m+1,b,0,_,_,_,_,h,_,_=>by omega
 |k+1,m+1,b,q0+1,v,p,q,h1,h2,e,hp=>by
  have i1:=Bw hu k (m:=m) (b:=b) (q0:=q0) (v:=v) (p:=dvp p) (q:=dvp q) (by omega) (by omega) (by omega) hp.dx;have i2:=Bw hu k (m:=m) (b:=b) (q0:=q0) (v:=v) (p:=dy (m+1+1) p) (q:=dy (q0+1+1) q) (by omega) (by omega) (by omega) hp.dy;rw[TR]at i2;show((m+1+1:Nat)-((k+1:Nat):Int))*(Fk a u k (m+1) (q0+1) v (dvp p) (dvp q)+Fk a u k (m+1) (q0+1) v (dy (m+1+1) p) (dy (q0+1+1) q))=Fk a u k m (q0+1) (dvp v) (dvp (dvp p)) (dvp q)+Fk a u k m (q0+1) (dvp v) (dy (m+1) (dvp p)) (dy (q0+1+1) q)+(Fk a u k m (q0+1) (dy b v) (dvp (dy (m+1+1) p)) (dvp q)+Fk a u k m (q0+1) (dy b v) (dy (m+1) (dy (m+1+1) p)) (dy (q0+1+1) q))+(Fk a u (k+1) (m+1) (q0+1) v (dvp p) (dvp q)+Fk a u (k+1) (m+1) (q0+1) v (dy (m+1+1) p) (dy (q0+1+1) q));rw[TR,show((m+1+1:Nat)-((k+1:Nat):Int))=((m+1:Nat)-(k:Int))by omega,xeR,i1,i2];omega
def pD:Nat->Nat->Pz->Pz->Pz
 |0,_,p,q=>p*q
 |k+1,qa,p,q=>pD k (qa-1) (dvp p) (dvp q)+pD k (qa-1) (dy (k+1) p) (dy qa q)
theorem PK: ∀(k:Nat) {qa:Nat} {v p q:Pz},Dg k p->Fk a u k k qa v p q=ip a u (v*pD k qa p q)
 |0,qa,v,p,q,h=>by
  show ip (0+a) (p*u) (v*q)=ip a u (v*(p*q));rw[h.num,xaT,Ey,zy,eR]
 |k+1,qa,v,p,q,h=>by
  show Fk a u k k (qa-1) v (dvp p) (dvp q)+Fk a u k k (qa-1) v (dy (k+1) p) (dy qa q)=ip a u (v*(pD k (qa-1) (dvp p) (dvp q)+pD k (qa-1) (dy (k+1) p) (dy qa q)));rw[PK k h.dx,PK k h.dy,xw,lO]
end
theorem zaO: ∀(k:Nat) {d:Nat} {p q:Pz},Dg k p->Dg (k+d) q->Dg d (pD k (k+d) p q)
 |0,d,p,q,hp,hq=>by
  have:=hp.mul hq;rw[xaT,xaT]at this;exact this
 |k+1,d,p,q,hp,hq=>by
  rw[show k+1+d=k+d+1 by omega]at hq⊢;show Dg d (pD k (k+d+1-1) (dvp p) (dvp q)+pD k (k+d+1-1) (dy (k+1) p) (dy (k+d+1) q));rw[xeo];exact(zaO k hp.dx hq.dx).add (zaO k hp.dy hq.dy)
theorem za7: ∀(k:Nat) {d:Nat} {p q g:Pz},Dg k p->Dg d g->fac k*ip (k+d) q (p*g)=ip d (pD k (k+d) p q) g
 |0,d,p,q,g,hp,hg=>by
  show 1*ip (0+d) q (p*g)=ip d (p*q) g;rw[hp.num,xbX,xaT,eR,Ey]
 |k+1,d,p,q,g,hp,hg=>by
  have i1:=za7 k (d:=d) (q:=dvp q) hp.dx hg;have i2:=za7 k (d:=d) (q:=dy (k+d+1) q) hp.dy hg;rw[show k+1+d=k+d+1 by omega];show((k+1:Nat):Int)*fac k*ip (k+d+1) q (p*g)=ip d (pD k (k+d+1-1) (dvp p) (dvp q)+pD k (k+d+1-1) (dy (k+1) p) (dy (k+d+1) q)) g;rw[xeo,Ld,<-i1,<-i2,xbi _ (fac k),xbH,<-eR,<-zb,eul,yj,lO,zb,Zf _ q,adx,Zf _ q,ady _ _ _ (hp.dy.mul hg _ (by omega)),xeR,Zf _ (dvp q),Zf _ (dy _ q)]
theorem EG{a:Nat}{u:Pz}(hu:Dg a u): ∀(b:Nat) {v:Pz},Dg b v->b<=a-> ∀(j k:Nat),k+j=b->0<=Fk a u k b a v v u
 |b,v,hv,hb,0,k,h=>by
  obtain rfl:k=b:=by omega
  obtain⟨d,rfl⟩: ∃d,a=k+d:=⟨a-k,by omega⟩;have h1:=za7 k (d:=d) (q:=u) (g:=pD k (k+d) v u) hv (zaO k hv hu);rw[PK _ _ k hv];have h2:=zd4 d (pD k (k+d) v u);rw[<-h1]at h2;exact Int.nonneg_of_mul_nonneg_right h2 (uz k)
 |0,v,hv,hb,j+1,k,h=>by omega
 |b+1,v,hv,hb,j+1,k,h=>by
  obtain⟨a',rfl⟩: ∃a',a=a'+1:=⟨a-1,by omega⟩;have h1:=Bw (a'+1) u hu k (m:=b) (b:=b+1) (q0:=a') (v:=v) (p:=v) (q:=u) (by omega) (by omega) (by omega) hv;have h2:=EG hu b hv.dx (by omega) j k (by omega);have h3:=EG hu b hv.dy (by omega) j k (by omega);have h4:=EG hu (b+1) hv hb j (k+1) (by omega);have h5:0<=((b+1:Nat)-(k:Int))*Fk (a'+1) u k (b+1) (a'+1) v v u:=by rw[h1];omega
  exact Int.nonneg_of_mul_nonneg_right h5 (by omega)
theorem zhQ{u:Pz}(h:Dg 0 u):dvp u=pc 0:=funext fun k=>by
 rw[zM];show((k+1:Nat):Int)*u (k+1)=0;rw[h _ (by omega),xas]
theorem zjd{u:Pz}(h:Dg 0 u):dy 0 u=pc 0:=funext fun k=>by
 rw[zM,GD];by_cases e:k=0
 ·rw[e];exact xaQ _
 ·rw[h k (by omega),xas]
theorem zhA{a b:Nat}{u v:Pz}(hu:Dg a u)(hv:Dg (b+1) v):0<=ip (b+a) (dvp v*u) (v*dvp u)+ip (b+a) (dy (b+1) v*u) (v*dy a u):=by
 by_cases h:b+1<=a
 ·exact EG hu (b+1) hv h b 1 (by omega)
 ·cases a with
  |zero=>
   rw[zhQ hu,zjd hu,zg v,eR,eR];omega
  |succ a=>
   have:=EG hv (a+1) hu (by omega) a 1 (by omega);have this:0<=ip (a+(b+1)) (dvp u*v) (u*dvp v)+ip (a+(b+1)) (dy (a+1) u*v) (u*dy (b+1) v):=this;rw[Zf,Zf _ (dy (a+1) u*v),zg u,zg (dvp u),zg u,zg (dy (a+1) u),show a+(b+1)=b+(a+1)by omega]at this;exact this
theorem zgE{a:Nat}{u:Pz}(hu:Dg a u): ∀(b:Nat) {v:Pz},Dg b v->fac b*(v b*v b)*ip a u u<=ip (b+a) (v*u) (v*u)
 |0,v,hv=>by
  rw[hv.num,Ey,eR,xaT];show 1*(pc (v 0) 0*pc (v 0) 0)*ip a u u<=v 0*(v 0*ip a u u);have e:pc (v 0) 0=v 0:=rfl;rw[e,xbX,xbH];exact xeS _
 |b+1,v,hv=>by
  have h1:=zdC a u (b:=b+1) (q0:=a) (v:=v) (q:=u) hv hu rfl;have h2:=zhA hu hv;have h3:=zd4 (b+a) (dy (b+1) v*u);have h4:=zgE hu b hv.dx;have e:dvp v b=((b+1:Nat):Int)*v (b+1):=rfl;rw[e]at h4;have h5:((b+1:Nat):Int)*(fac (b+1)*(v (b+1)*v (b+1))*ip a u u)=fac b*(((b+1:Nat):Int)*v (b+1)*(((b+1:Nat):Int)*v (b+1)))*ip a u u:=by
   show((b+1:Nat):Int)*(((b+1:Nat):Int)*fac b*(v (b+1)*v (b+1))*ip a u u)=_;generalize((b+1:Nat):Int)=x;generalize v (b+1)=y;generalize ip a u u=z;grind
  refine Int.le_of_mul_le_mul_left (a:=((b+1:Nat):Int)) ?_ (by omega);rw[h5,h1];omega
theorem me: ∀(m n:Nat),fac (m+n)<=2^(m+n)*(fac m*fac n)
 |0,n=>by
  rw[xaT];show fac n<=2^n*(1*fac n);rw[xbX];have:=xby (show(1:Int)<=2^n from Int.pow_pos (by decide)) (xdC (uz n));omega
 |m+1,0=>by
  show fac (m+1)<=2^(m+1)*(fac (m+1)*1);rw[xcf];have:=xby (show(1:Int)<=2^(m+1)from Int.pow_pos (by decide)) (xdC (uz (m+1)));omega
 |m+1,n+1=>by
  have i1:=xaW (me m (n+1)) (show(0:Int)<=((m+1:Nat):Int)by omega);have i2:=xaW (me (m+1) n) (show(0:Int)<=((n+1:Nat):Int)by omega);rw[show m+(n+1)=m+n+1 by omega]at i1;rw[show m+1+n=m+n+1 by omega]at i2;rw[show m+1+(n+1)=m+n+1+1 by omega];have e1:fac (m+n+1+1)=((m+1:Nat):Int)*fac (m+n+1)+((n+1:Nat):Int)*fac (m+n+1):=by
   show((m+n+1+1:Nat):Int)*fac (m+n+1)=_;rw[<-Int.add_mul];congr 1;omega
  have e2:(2:Int)^(m+n+1+1)*(fac (m+1)*fac (n+1))=((m+1:Nat):Int)*(2^(m+n+1)*(fac m*fac (n+1)))+((n+1:Nat):Int)*(2^(m+n+1)*(fac (m+1)*fac n)):=by
   rw[xbk];have f1:fac (m+1)=((m+1:Nat):Int)*fac m:=rfl;have f2:fac (n+1)=((n+1:Nat):Int)*fac n:=rfl;rw[f1,f2];generalize((m+1:Nat):Int)=x;generalize((n+1:Nat):Int)=y;generalize(2:Int)^(m+n+1)=z;grind
  rw[e1,e2];omega
theorem zaS: ∀(m n:Nat),fac m*fac n<=fac (m+n)
 |0,n=>by
  rw[xaT];show 1*fac n<=fac n;omega
 |m+1,n=>by
  rw[show m+1+n=m+n+1 by omega];show((m+1:Nat):Int)*fac m*fac n<=((m+n+1:Nat):Int)*fac (m+n);have h1:=zaS m n;have h2:=xaW h1 (show(0:Int)<=((m+1:Nat):Int)by omega);have h3:=xby (show((m+1:Nat):Int)<=((m+n+1:Nat):Int)by omega) (xdC (uz (m+n)));rw[xbH];omega
theorem tz{f g:Nat->Int}: ∀{n},(∀k,k<n->f k<=g k)->zV n f<=zV n g
 |0,_=>xeS 0
 |n+1,h=>Int.add_le_add (tz fun k hk=>h k (by omega)) (h n (by omega))
theorem FP{f:Nat->Int}{j:Nat}: ∀{n},(∀k,k<n->0<=f k)->j<n->f j<=zV n f
 |0,_,h=>absurd h (xbv _)
 |n+1,h,hj=>by
  have h1:=Dh fun k (hk:k<n)=>h k (by omega);have h2:=h n (by omega);show f j<=zV n f+f n;by_cases e:j=n
  ·subst e;omega
  ·have:=FP (fun k hk=>h k (by omega)) (show j<n by omega);omega
theorem mig{f u v:Pz}{a b:Nat}(hu:Tp u a)(hv:Tp v b)(e:f=u*v)(k:Nat):(v b*u k)*(v b*u k)<=4^(a+b)*dV f (a+b+1):=by
 have hS:=aV f (a+b+1);by_cases hk:k<=a
 ·have h1:=zgE (a:=a) (u:=u) hu.2 b (v:=v) hv.2;have h2:fac k*fac (a-k)*(u k*u k)<=ip a u u:=FP (f:=fun s=>fac s*fac (a-s)*(u s*u s)) (fun s _=>xcz (xcz (xdC (uz _)) (xdC (uz _))) (jk _)) (by omega);have h3:ip (b+a) (v*u) (v*u)<=fac (b+a)*dV f (a+b+1):=by
   rw[zg,<-e,xdA b a];unfold ip dV;rw[<-jR];refine tz fun s hs=>xby ?_ (jk _);have:=zaS s (a+b-s);rwa[show s+(a+b-s)=a+b by omega]at this
  have h4:=me b a;have h5:=me k (a-k);rw[show k+(a-k)=a by omega]at h5;have pb:=uz b;have pw:(0:Int)<2^(b+a):=Int.pow_pos (by decide);have hx:=Int.mul_pos (uz k) (uz (a-k));have ha:=jk (v b);generalize fac k*fac (a-k)=X at*
  have g1:=xaW h2 (show 0<=fac b*(v b*v b)from xcz (xdC pb) ha);have g2:=xby h4 hS;have g3:=xaW h5 (show 0<=2^(b+a)*fac b from xcz (xdC pw) (xdC pb));have g4:=xby g3 hS;have g5:fac b*X*((v b*u k)*(v b*u k))<=fac b*X*(2^(b+a)*2^a*dV f (a+b+1)):=by
   have e1:fac b*X*((v b*u k)*(v b*u k))=fac b*(v b*v b)*(X*(u k*u k)):=by grind
   have e2:fac b*X*(2^(b+a)*2^a*dV f (a+b+1))=2^(b+a)*fac b*(2^a*X)*dV f (a+b+1):=by grind
   have e3:2^(b+a)*(fac b*fac a)*dV f (a+b+1)=2^(b+a)*fac b*fac a*dV f (a+b+1):=by grind
   rw[e1,e2];omega
  have g6:=Int.le_of_mul_le_mul_left g5 (Int.mul_pos pb hx);refine Int.le_trans g6 (xby ?_ hS);have e4:(4:Int)^(a+b)=2^(b+a)*2^(a+b):=by rw[show(4:Int)=2*2 by decide,Int.mul_pow,xdA b a]
  rw[e4];refine xaW ?_ (xdC pw);have:=xaK (n:=2) (by decide) (show a<=a+b by omega);have e5: ∀n:Nat,((2^n:Nat):Int)=(2:Int)^n:=fun n=>by simp
  rw[<-e5,<-e5];omega
 ·rw[hu.2 k (by omega),xas,xas];exact xcz (xfo (by decide)) hS
end
section
variable{fu m:Nat}{a:List Zr}{p g R q:Pz}
theorem Iq{f:Pz}{M:Int}(h: ∀k,f k*f k<=M): ∀n:Nat,dV f n<=n*M
 |0=>by show(0:Int)<=((0:Nat):Int)*M;omega
 |n+1=>by
  show zV n (fun k=>f k*f k)+f n*f n<=_;have h1:zV n (fun k=>f k*f k)<=n*M:=Iq h n;have h2:=h n;have e:((n+1:Nat):Int)*M=n*M+M:=by grind
  omega
theorem RI{x y:Nat}(h:x*x<y*y):x<y:=by
 refine xad fun hn=> ?_;have:=xbE (show y<=x by omega) (show y<=x by omega);omega
theorem gf{f u v:Pz}{n B:Nat}(hf:Tp f n)(fu:Fs u)(fv:Fs v)(e:f=u*v)(hn:n<=40)(hb: ∀k,Bb B (f k))(k:Nat):Bb (B+n+4) (u k):=by
 obtain⟨nu,nv⟩:=jV hf.nz e;obtain⟨a,ha⟩:=Tp.ex fu nu;obtain⟨b,hc⟩:=Tp.ex fv nv;have he:a+b=n:=by
  have:=ha.mul hc;rw[<-e]at this;exact this.uniq hf
 have h1:=mig ha hc e k;have h2: ∀k,f k*f k<=(2^B:Int)*2^B:=fun k=>by
  have:=hb k;unfold Bb at this;have h3:(f k*f k)=(((f k).natAbs*(f k).natAbs:Nat):Int):=by
   rw[<-xcb];have:=jk (f k);omega
  rw[h3];have h4:=xbE (xcO this) (xcO this);have h5:((2:Int)^B*2^B)=((2^B*2^B:Nat):Int):=by simp
  omega
 have h3:=Iq h2 (a+b+1);have h6:(u k).natAbs<=(v b*u k).natAbs:=by
  rw[xcb];exact xdk _ (by have:=hc.1;omega)
 refine xbd h6 (RI ?_);have h7:((v b*u k).natAbs*(v b*u k).natAbs:Nat)=(v b*u k*(v b*u k)).natAbs:=(xcb _ _).symm;rw[h7];have h8:(v b*u k*(v b*u k)).natAbs<=4^(a+b)*((a+b+1)*(2^B*2^B)):=by
  have h9:(4:Int)^(a+b)*dV f (a+b+1)<=4^(a+b)*(((a+b+1:Nat):Int)*(2^B*2^B)):=xaW (by omega) (xfo (by decide));have hg:(4:Int)^(a+b)*(((a+b+1:Nat):Int)*(2^B*2^B))=((4^(a+b)*((a+b+1)*(2^B*2^B)):Nat):Int):=by simp
  have:=jk (v b*u k);omega
 refine xbd h8 ?_;have e1:(2:Nat)^(B+n+4)*2^(B+n+4)=4^n*(256*(2^B*2^B)):=by
  rw[show(4:Nat)=2^2 by decide,<-xdc,show(256:Nat)=2^8 by decide,<-xbW,<-xbW,<-xbW,<-xbW];congr 1;omega
 rw[e1];have hd:0<(2:Nat)^B*2^B:=Nat.mul_pos (xbp (by decide)) (xbp (by decide));rw[he];exact Nat.mul_lt_mul_of_pos_left (xbT (by omega) hd) (xbp (by decide))
theorem ga{K:Nat}(ha:xb K a)(hK:K+1<=100000)(hl:a.length<=1000)(hf:3000000<=fu):Yx fu a=some (qe (a.length-1) (dvp (cf a))):=by
 unfold Yx;have hc: ∀k:Nat,k<=1000->Bz 1 (k:Int):=fun k hk=>Bz.nat (by rw[Nat.pow_one];omega);rw[za (ll (g:=fun k=>if k<1000 then cf a k*(k:Int)else 0) (by omega) (by omega) fun j hj=> ?_)]
 ·have he:min (a.length:Int) 1=((min a.length 1:Nat):Int):=by omega
  rw[yN,zf,he,yO,yG,zf];have hd:(zi a.length fun k=>if k<1000 then cf a k*(k:Int)else 0).drop (min a.length 1)=zi (a.length-1) (dvp (cf a)):=by
   refine Eg (by rw[xbQ,yN,yN];omega) fun j hj=> ?_;rw[xbQ,yN]at hj;rw[Yy (by omega),UV,xen,<-UV,Yy (by omega),show min a.length 1+j=j+1 by omega,zN];show yE (cf a (j+1)*((j+1:Nat):Int))=yE (((j+1:Nat):Int)*cf a (j+1));rw[xbi]
  rw[hd,za (zz (k:=K+1) (VM fun j=> ?_) hK (by rw[yN];omega) hf),yN,pf];unfold dvp;by_cases hj:j+1<=1000
  ·rw[xbi];exact(ha.bz _).mul (hc _ hj)
  ·rw[z6 (by omega),xas];exact Bz.zero _
 ·unfold Xq;have hb:=ha.get j;rw[za (z8 ⟨by omega,by omega⟩ hf),za (ye (gI.of hb (by omega)) ((hc j (by omega)).ok (by decide)) hf),zu,Qm,zN]
def Ve:Nat->Nat
 |0=>1
 |1=>1
 |n+2=>2*Ve (n+1)+Ve n
theorem O3: ∀n,Ve n<=Ve (n+1)
 |0=>xac _
 |n+1=>by show _<=2*Ve (n+1)+Ve n;omega
theorem Zb{i:Nat}: ∀d,Ve i<=Ve (i+d)
 |0=>xac _
 |d+1=>xao (Zb d) (O3 _)
theorem ED(j:Nat): ∀t,Ve j+(t+1+1)*Ve (j+1)<=Ve (j+1+(t+1))
 |0=>by show _<=2*Ve (j+1)+Ve j;omega
 |t+1=>by
  have ih:=ED j t;have h1:Ve (j+1+(t+1+1))=2*Ve (j+1+(t+1))+Ve (j+1+t):=rfl;have e:(t+1+1+1)*Ve (j+1)=(t+1+1)*Ve (j+1)+Ve (j+1):=by rw[xaV _ 1,xcn]
  have h2:Ve (j+1)<=(t+1+1)*Ve (j+1):=xdk _ (by omega);omega
theorem Dc{d:Pz}(fd:Fs d)(pd:Pm d):Zd d (cf (x9 a))↔Zd d (cf a):=by
 by_cases h:(yb a).length=0
 ·have h1:(cf a:Pz)=pc 0:=funext fun k=>by rw[ku h k,zM]
  have h2:(cf (x9 a):Pz)=pc 0:=funext fun k=>by rw[uc,ku h k,xfC,zM]
  rw[h1,h2]
 ·have hm:=Wu a;constructor
  ·intro hz;rw[<-hm];exact hz.mul _ (Fs.pc _)
  ·intro hz;rw[<-hm]at hz;exact Zd.pm fd pd (Kv h) hz
theorem se{C L:Nat}{b:List Zr}(ha:yb a=a)(hb:yb b=b)(hk:y8 a=1)(ho:b.length<a.length)(hL:a.length=L)(hD:L<=60)(hC:C*Ve (L-1)<=639000)(hp:C*Ve L<=2400000){ca cb:Nat}(hy:ca+1<=C)(hA:cb+1<=C)(bA: ∀j,Bb ca (cf a j))(bB: ∀j,Bb cb (cf b j))(hf:3000000<=fu):
 ∃g,QI fu a b=some g/\yb g=g/\Pm (cf g)/\Po (cf g)/\g.length<=L/\ ∀d,Fs d->Pm d->(Zd d (cf g)↔Zd d (cf a)/\Zd d (cf b)):=by
 have hB:C<=C*Ve (L-1):=xcl _ (xap (show 0<Ve 0 by decide) (by have h:=Zb (i:=0) (L-1);rwa[xaT]at h));have oA:xb 9985 a:=by rw[<-ha];exact y7 fun j=>(bA j).bz (by omega)
 have oB:xb 9985 b:=by rw[<-hb];exact y7 fun j=>(bB j).bz (by omega)
 have hl:x9 a=a:=Wc (uX a) ha fun k=>by rw[uc,hk,Int.ediv_one]
 have hq:(yb a).length≠0:=by rw[ha];omega
 obtain⟨pa1,pa2⟩:=WG hq;rw[hl]at pa1 pa2
 obtain⟨x,hx,x1,x2,x3,x4,x5,x6⟩:=yq (f:=Jf fu) (fun s:List Zr×List Zr=>yb s.1=s.1/\Pm (cf s.1)/\Po (cf s.1)/\yb s.2=s.2/\s.2.length<s.1.length/\s.1.length<=L/\(∃bx,bx+1<=C*Ve (L-s.1.length)/\ ∀i,Bb bx (cf s.1 i))/\(∃b_,b_+1<=C*Ve (L-s.1.length+1)/\ ∀i,Bb b_ (cf s.2 i))/\(s.2.length≠0->Pm (cf s.2)/\Po (cf s.2))/\ ∀d,Fs d->Pm d->((Zd d (cf s.1)/\Zd d (cf s.2))↔(Zd d (cf a)/\Zd d (cf b)))) (fun s=>s.2.length)
  (fun x=>yb x=x/\Pm (cf x)/\Po (cf x)/\x.length<=L/\xb 37500 x/\ ∀d,Fs d->Pm d->(Zd d (cf x)↔(Zd d (cf a)/\Zd d (cf b)))) (by
  rintro⟨x,y⟩ R ⟨h1,h2,h3,h4,h5,h6,⟨bx,h7,h8⟩,⟨b_,h9,hd⟩,hm,he⟩ ih
  simp only at h1 h2 h3 h4 h5 h6 h7 h8 h9 hd hm he
  unfold Jf
  simp only
  have hc: ∀{i},i<=L->C*Ve i<=2400000:=fun{i} hi=>xao (xaA _ (by
   have:=Zb (i:=i) (L-i);rwa[show i+(L-i)=L by omega]at this)) hp
  by_cases hr:0<y.length
  ·obtain⟨t,ht⟩: ∃t,x.length-y.length=t+1:=⟨x.length-y.length-1,by omega⟩
   have hg:bx+(x.length-y.length+1)*(b_+1)+1<=C*Ve (L-y.length+1):=by
    have hj:=ED (L-x.length) t;rw[show L-x.length+1+(t+1)=L-y.length+1 by omega]at hj;have hs:=xaA C hj;rw[xbm,xea]at hs;have hE:=xaA (t+1+1) h9;rw[ht];omega
   obtain⟨q,r,c,Q,e1,e2,e3,e4,e5,e6,e7⟩:=gb (fu:=fu) h1 h4 (by omega) hr (by omega) h8 hd (by have:=hc (i:=L-y.length+1) (by omega);omega) hf
   have oR:xb 9985 r:=by
    by_cases hu:r.length=0
    ·rw[xbG.1 hu];intro z hz;cases hz
    ·rw[<-e2];refine y7 fun j=>(e7 j).bz ?_;have hj:C*Ve (L-y.length+1)<=C*Ve (L-1):=xaA _ (by
      have:=Zb (i:=L-y.length+1) (y.length-2);rwa[show L-y.length+1+(y.length-2)=L-1 by omega]at this)
     omega
   rw[zN,za e1]
   simp only
   rw[za (wK oR (by decide) (by omega) hf)]
   have hv:=Z7 r
   rw[e2]at hv
   obtain⟨y1,y2⟩:=hm (by omega)
   have hF:=Wu r
   refine ih _ ⟨h4,y1,y2,uX r,by show(x9 r).length<y.length;omega,by show y.length<=L;omega,⟨b_,?_,hd⟩,⟨_,hg,fun i=> ?_⟩,fun(hn:(x9 r).length≠0)=>WG (by rw[e2];show r.length≠0;omega),fun d fd pd=> ?_⟩ (by show(x9 r).length<y.length;omega)
   ·refine xao h9 (xaA _ ?_)
    show Ve (L-x.length+1)<=Ve (L-y.length)
    have:=Zb (i:=L-x.length+1) (x.length-y.length-1)
    rwa[show L-x.length+1+(x.length-y.length-1)=L-y.length by omega]at this
   ·show Bb _ (cf (x9 r) i)
    rw[uc]
    exact(e7 i).le (xdp _ _)
   ·rw[<-he d fd pd]
    show(Zd d (cf y)/\Zd d (cf (x9 r)))↔(Zd d (cf x)/\Zd d (cf y))
    rw[Dc fd pd]
    constructor
    ·rintro⟨z1,z2⟩
     refine⟨Zd.pm fd pd e4 ?_,z1⟩
     rw[e6]
     exact(z1.mul _ e5).add z2
    ·rintro⟨z1,z2⟩
     refine⟨z2,?_⟩
     have:(cf r:Pz)=pc c*cf x-Q*cf y:=funext fun k=>by
      have:=congrFun e6 k;rw[zK]at this;rw[yA];omega
     rw[this]
     exact(z1.mul _ (Fs.pc c)).sub (z2.mul _ e5)
  ·rw[zx]
   refine⟨x,rfl,h1,h2,h3,h6,?_,fun d fd pd=> ?_⟩
   ·rw[<-h1]
    exact y7 fun j=>(h8 j).bz (by have:=hc (i:=L-x.length) (by omega);omega)
   ·rw[<-he d fd pd]
    have:Zd d (cf y):=⟨pc 0,Fs.pc 0,funext fun k=>by rw[z6 (by omega),yg,zM]⟩
    exact⟨fun h=>⟨h,this⟩,fun h=>h.1⟩) fu (a,x9 b) ⟨ha,pa1,pa2,uX b,by show(x9 b).length<a.length;rw[Z7,hb];exact ho,by show a.length<=L;omega,⟨ca,by show ca+1<=C*Ve (L-a.length);rw[hL,xcW];show ca+1<=C*1;omega,bA⟩,⟨cb,by show cb+1<=C*Ve (L-a.length+1);rw[hL,xcW];show cb+1<=C*1;omega,fun i=>by
    show Bb cb (cf (x9 b) i)
    rw[uc]
    exact(bB i).le (xdp _ _)⟩,fun hn=>WG (by have:=Z7 b;show(yb b).length≠0;rw[<-this];exact hn),fun d fd pd=>by
    show(Zd d (cf a)/\Zd d (cf (x9 b)))↔_
    rw[Dc fd pd]⟩ (by show(x9 b).length<fu;rw[Z7,hb];omega)
 have b1:=(Bz.one' (k:=1) (xac _));have bc:=(Gf oB);have hw:qe x.length (fun j=>cf x j*1)=x:=by rw[show(fun j=>cf x j*1)=cf x from funext fun j=>xcf _];exact x1
 refine⟨x,?_,x1,x2,x3,x4,x6⟩;unfold QI;rw[za (qQ oA (by decide) (by omega) hf),za (qQ oB (by decide) (by omega) hf),hk,za (UR (K:=9985) (yU _) (yU _) (xao b1.len (by decide)) bc.len (by decide) hf),zu,zu,show Int.natAbs 1=1 from rfl,Nat.gcd_one_left,show((1:Nat):Int)=1 from rfl,za (wK oA (by decide) (by omega) hf),za (wK oB (by decide) (by omega) hf),hl,za hx,za (qy (l:=1) x5 ⟨yU _,b1.len⟩ (by decide) (by omega) hf),zu];show some (qe x.length fun j=>cf x j*1)=_;rw[hw]
theorem Ic(q:Pz): ∀n,dvp (pp q (n+1))=pc ((n+1:Nat):Int)*(pp q n*dvp q)
 |0=>by
  show dvp (pc 1*q)=pc 1*(pc 1*dvp q);rw[zt,zt,zt]
 |n+1=>by
  show dvp (pp q (n+1)*q)=pc _*(pp q n*q*dvp q);rw[XR,Ic q n,zb (pc _),zb (pp q n),zb (pp q n),zg (dvp q) q];show _+pp q n*q*dvp q=_;rw[zb (pp q n)];funext k;rw[zK,zD,zD];grind
theorem zbh(hp:Tp p m)(fg:Fs g)(fR:Fs R)(e:p=R*g)(hg:Zd g (dvp p))(hq:Ir q)(h:Zd q p):Zd q R:=by
 refine xad fun ha=> ?_;obtain⟨n,_,hn⟩:=Mu.ex hq m hp;obtain⟨nR,ng⟩:=jV hp.nz e;obtain⟨d,hd⟩:=Tp.ex fg ng;obtain⟨i,_,hi⟩:=Mu.ex hq d hd;have h1:=(Mu.zero fR ha).mul hq hi;rw[<-e,xaT]at h1;obtain rfl:=h1.uniq hq hn;have hc:i≠0:=fun h0=>by
  subst h0;obtain⟨u,fu,e2,hu⟩:=hn;rw[show pp q 0=pc 1 from rfl,zL]at e2;rw[<-e2]at hu;exact hu h
 obtain⟨j,rfl⟩: ∃j,i=j+1:=⟨i-1,by omega⟩;obtain⟨u,fu,e2,hu⟩:=hn;obtain⟨v,fv,e3,_⟩:=hi;have h2:Zd (pp q (j+1)) (dvp p):=Zd.trans ⟨v,fv,e3⟩ hg;rw[e2,XR]at h2;have h3:Zd (pp q (j+1)) (u*dvp (pp q (j+1))):=by
  have:u*dvp (pp q (j+1))=(dvp u*pp q (j+1)+u*dvp (pp q (j+1)))-dvp u*pp q (j+1):=funext fun k=>by simp only[zK,yA];omega
  rw[this];exact h2.sub ⟨dvp u,fu.dvp,rfl⟩
 rw[Ic]at h3;obtain⟨w,fw,e4⟩:=h3;have h4:w*q=u*(pc ((j+1:Nat):Int)*dvp q):=by
  refine mz (fw.mul hq.fs) (fu.mul ((Fs.pc _).mul hq.fs.dvp)) (hq.fs.pp j) (hq.pm.pp j).nz ?_;have e5:w*pp q (j+1)=w*q*pp q j:=by
   show w*(pp q j*q)=_;rw[zb,zg (pp q j) q]
  rw[<-e5,<-e4,zb u,zb (pc _),zg (dvp q) (pp q j)]
 rcases hq.prime fu ((Fs.pc _).mul hq.fs.dvp) ⟨w,fw,h4.symm⟩with h5|h5
 ·exact hu h5
 ·obtain⟨t,ht⟩:=Tp.ex hq.fs hq.pm.nz;have he:t≠0:=fun h0=>hq.dg ((JN.tp ht).2 h0);obtain⟨w2,hb,hz⟩:=BD (n:=0) ht h5 fun k hk=>by
   rw[zD];show _*(((k+1:Nat):Int)*q (k+1))=0;rw[ht.2 _ (by omega),xas,xas]
  have h6:=congrFun hb (t-1);rw[xk w2,yF fun i _=>by rw[hz i (by omega),xaQ],zD]at h6;have h7:((j+1:Nat):Int)*(((t-1+1:Nat):Int)*q (t-1+1))=0:=h6;rw[show t-1+1=t by omega]at h7;rcases xex.1 h7 with h8|h8
  ·omega
  ·rcases xex.1 h8 with h9|h9
   ·omega
   ·exact ht.1 h9
theorem zfP(hp:Tp p m)(fg:Fs g)(fR:Fs R)(e:p=R*g)(hg: ∀d,Fs d->Pm d->Zd d p->Zd d (dvp p)->Zd d g)(hq:Ir q): ¬Zd (q*q) R:=fun⟨z,fz,ez⟩=>by
 obtain⟨n,_,u,fu,e1,hu⟩:=Mu.ex hq m hp
 cases n with
 |zero=>
  refine hu ⟨z*q*g,(fz.mul hq.fs).mul fg,?_⟩;have e2:u=p:=by rw[e1];exact(zL u).symm
  rw[e2,e,ez];simp only[zg,zy]
 |succ k=>
  have fk:=hq.fs.pp k;have e3:pp q (k+1)=q*pp q k:=zg _ _;obtain⟨w,fw,ew⟩:=hg (pp q k) fk (hq.pm.pp k) ⟨u*q,fu.mul hq.fs,by rw[e1,e3,zb]⟩ (by
   rw[e1,XR,Ic];refine Zd.add ⟨dvp u*q,fu.dvp.mul hq.fs,by rw[e3,zb]⟩ ⟨u*(pc ((k+1:Nat):Int)*dvp q),fu.mul ((Fs.pc _).mul hq.fs.dvp),?_⟩;simp only[zg,zy])
  refine hu ⟨z*w,fz.mul fw,?_⟩;refine mz fu ((fz.mul fw).mul hq.fs) (hq.fs.pp (k+1)) (hq.pm.pp (k+1)).nz ?_;rw[<-e1,e,ez,ew,e3];simp only[zg,zy]
end
noncomputable def R3(fu:Nat)(a:List Zr)(fs:List (List Int))(p:Int):Int:=
 if wG p=true then(if 65<(yb a).length then 6 else if wA fu (yb a) fs p=some true then 0 else 1)else 1
theorem zan{fu:Nat}{p k:Int}{a:List Zr}{fs:List (List Int)}{us:List (List Zr)}{e:Int}(ha:xb 250 a)(hg:a.length<=1000)(h1:1<=k)(h2:k<=1000)(hf:3000200<=fu)(h:qb fu a fs p k=some (us,e)):e=R3 fu a fs p:=by
 unfold qb at h;unfold R3;rw[za (jC (by omega))]at h;simp only at h;rw[za (zz ha (by decide) (by omega) (by omega)),show qe a.length (cf a)=yb a from rfl]at h;by_cases hp:wG p=true
 ·have hb:dB p k=(yE (p^k.toNat),0):=by
   unfold dB;rw[if_pos ⟨hp,h1,h2⟩]
  rw[hb]at h;rw[iq hp];simp only[if_true]at h;by_cases hc:65<(yb a).length
  ·rw[zN]at h;rw[iq hc];simp only[xaw,xcu]at h;exact h.2.symm
  ·rw[zx]at h;rw[ir hc]
   cases hr:wA fu (yb a) fs p with
   |none=>rw[hr]at h;cases h
   |some b=>
    rw[hr]at h;change(if(!b)=true then _ else _)=_ at h
    cases b with
    |false=>
     rw[iq (by decide)]at h;rw[ir (by simp)];simp only[xaw,xcu]at h;exact h.2.symm
    |true=>
     rw[ir (by decide)]at h;rw[iq rfl];split at h
     ·simp only[xaw,xcu]at h;exact h.2.symm
     ·cases hd:yV fu (yb a) (yE (p^k.toNat))with
      |none=>rw[hd]at h;cases h
      |some t=>
       rw[hd]at h;change bd (wU fu t fs p k (yE (p^k.toNat))) _=_ at h
       cases he:wU fu t fs p k (yE (p^k.toNat))with
       |none=>rw[he]at h;cases h
       |some t3=>
        rw[he]at h;change some (t3,(0:Int))=_ at h;simp only[xaw,xcu]at h;exact h.2.symm
 ·have hb:dB p k=((false,[]),1):=by
   unfold dB;rw[ir (fun h=>hp h.1)]
  rw[hb]at h;rw[ir hp];simp only[Int.reduceEq,if_false,xaw,xcu]at h;exact h.2.symm
section
variable{fu:Nat}{p:Int}{a:List Zr}
def zdP(p:Int)(n:Nat)(fs:List (List Int)):Prop:=(∀t,t<fs.length->(fs.getD t []).length<=n/\GR p (fs.getD t []))/\ ∀t j,t<fs.length->j<t->qH p (ci (fs.getD t [])) (ci (fs.getD j []))
theorem Dd{i:Nat}{f:List Int}{fs:List (List Int)}(hp:wG p=true)(hc:Fp p f)(hd:f.length<=290)(hi:i<=fs.length)(hl:i<=1000000)(hF: ∀j,j<i->Fp p (fs.getD j [])/\(fs.getD j []).length<=290)(hf:3000000<=fu):
 ∃r,zj (qs fu p f (fs.take i)) fu 0=some r/\((r= .inl ()/\ ∀j,j<i->qH p (ci f) (ci (fs.getD j [])))\/(r= .inr ()/\ ¬ ∀j,j<i->qH p (ci f) (ci (fs.getD j [])))):=by
 obtain⟨p1,p2⟩:=zo hp;have hk:(fs.take i).length=i:=by rw[xay];omega
 have ha: ∀j,j<i->(fs.take i).getD j []=fs.getD j []:=fun j hj=>by rw[UV,xbU,iq hj,<-UV]
 refine yq (fun x:Int=> ∃j:Nat,x=(j:Int)/\j<=i/\ ∀t,t<j->qH p (ci f) (ci (fs.getD t []))) (fun x=>i-x.toNat) _ ?_ _ _ ⟨0,rfl,xaj _,fun t h=>absurd h (xbv _)⟩ (by show i-0<fu;omega);rintro x L ⟨j,rfl,hj,he⟩ ih;unfold qs;by_cases h1:j<i
 ·obtain⟨k1,k2⟩:=hF j h1;obtain⟨d,s,t,hg,hR,e3⟩:=WE (fu:=fu) hp hc k1 hd k2 hf;have hb:=MN p1 hR e3;rw[zN,yB,zf,ha j h1,za hg];simp only;by_cases h2:d.length=1
  ·rw[zN,zd];refine ih _ ⟨j+1,rfl,by omega,fun t ht=> ?_⟩ (by omega);by_cases h3:t=j
   ·rw[h3];exact hb.1 h2
   ·exact he t (by omega)
  ·rw[zx];exact⟨_,rfl,.inr ⟨rfl,fun h=>h2 (hb.2 (h j h1))⟩⟩
 ·rw[zx];exact⟨_,rfl,.inl ⟨rfl,fun t ht=>he t (by omega)⟩⟩
theorem IJ{fs:List (List Int)}(hp:wG p=true)(hd:a.length<=66)(h0:a.length≠0)(hl:(vS p a).length=a.length)(g1: ∀t,t<fs.length->(fs.getD t []).length<=a.length/\GR p (fs.getD t [])):
 (∀f∈fs,Fp p f)/\(∀f∈fs,f.length<=66)/\(vS p a).drop (a.length-1)=[ci (vS p a) (a.length-1)]/\Fp p [ci (vS p a) (a.length-1)]:=by
 obtain⟨p1,p2⟩:=zo hp;have ha: ∀{q:List Int->Prop},(∀t,t<fs.length->q (fs.getD t []))-> ∀f∈fs,q f:=fun{q} h f hf=>by
  obtain⟨j,hj,rfl⟩:=xdy.1 hf;have:=h j hj;rw[UV,IR hj]at this;exact this
 have hz:=X8 (p:=p) (by omega) a;have hc:ci (vS p a) (a.length-1)≠0:=by
  rcases hz.nl with h|h
  ·omega
  ·rw[hl]at h;exact h
 have he:=hz.nn (a.length-1);have hb:=hz.lt (a.length-1);refine⟨ha fun t ht=>(g1 t ht).2.fp (by omega),ha fun t ht=>by have:=(g1 t ht).1;omega,?_,Yc (by omega) hb⟩;rw[xcv (by omega),xcg (by omega)];unfold ci;rw[UV,IR (by omega)];rfl
theorem aj{k:Nat}{fs:List (List Int)}(hp:wG p=true)(ha:xb k a)(hk:k<=40000)(hg:a.length<=66)(hf:3000000<=fu):
 ∃b,wA fu a fs p=some b/\(b=true↔KJ p a fs):=by
 obtain⟨p1,p2⟩:=zo hp;unfold wA;rw[za (kf ha hk (by omega) p2 (by omega) hf)];simp only;by_cases h0:a.length=0
 ·rw[zN];exact⟨_,rfl,fun e=>absurd e (by decide),fun e=>absurd h0 e.a0⟩
 ·rw[zx];by_cases hl:(vS p a).length=a.length
  ·rw[zN];by_cases ho:a.length<fs.length
   ·rw[zN];exact⟨_,rfl,fun e=>absurd e (by decide),fun e=>by have:=e.fl;omega⟩
   ·rw[zx]
    obtain⟨r,e1,e2⟩:=yq (f:=qx fu a fs p) (fun x:Int×List Int=> ∃i:Nat,x=((i:Int),vS p a)/\i<=fs.length/\(∀t,t<i->(fs.getD t []).length<=a.length/\GR p (fs.getD t []))/\ ∀t j,t<i->j<t->qH p (ci (fs.getD t [])) (ci (fs.getD j []))) (fun x=>fs.length-x.1.toNat)
     (fun r=>(r= .inr ()/\ ¬zdP p a.length fs)\/(r= .inl (vS p a)/\zdP p a.length fs)) (by
      rintro x L ⟨i,rfl,hi,g1,g2⟩ ih;unfold qx;simp only;by_cases h1:i<fs.length
      ·rw[zN,za rfl];simp only[if_true];rw[zp h1,zf];by_cases h2:a.length<(fs.getD i []).length
       ·rw[zN];exact⟨_,rfl,.inl ⟨rfl,fun h=>by have:=(h.1 i h1).1;omega⟩⟩
       ·obtain⟨b,b1,b2⟩:=Vq (fu:=fu) (l:=fs.getD i []) (p:=p) (by omega) hf;rw[zx,za b1]
        cases b with
        |false=>
         rw[iq (by decide)];exact⟨_,rfl,.inl ⟨rfl,fun h=>absurd (b2.2 (h.1 i h1).2) (by decide)⟩⟩
        |true=>
         have hb:=b2.1 rfl;rw[ir (by decide),yO,yG,zf];obtain⟨q,q1,q2⟩:=Dd (fu:=fu) (i:=i) (fs:=fs) hp (hb.fp (by omega)) (by omega) (by omega) (by omega) (fun j hj=>⟨(g1 j hj).2.fp (by omega),by have:=(g1 j hj).1;omega⟩) hf;rw[za q1];rcases q2 with⟨rfl,q2⟩|⟨rfl,q2⟩
         ·simp only;rw[zd];refine ih _ ⟨i+1,rfl,by omega,fun t ht=> ?_,fun t j ht hj=> ?_⟩ (by show fs.length-((i:Int)+1).toNat<fs.length-(i:Int).toNat;omega)
          ·by_cases h4:t=i
           ·rw[h4];exact⟨by omega,hb⟩
           ·exact g1 t (by omega)
          ·by_cases h4:t=i
           ·rw[h4]at hj⊢;exact q2 j hj
           ·exact g2 t j (by omega) hj
         ·exact⟨_,rfl,.inl ⟨rfl,fun h=>q2 fun j hj=>h.2 i j h1 hj⟩⟩
      ·rw[zx,za rfl];simp only[xak,if_false];exact⟨_,rfl,.inr ⟨rfl,fun t ht=>g1 t (by omega),fun t j ht hj=>g2 t j (by omega) hj⟩⟩) fu (0,vS p a) ⟨0,rfl,xaj _,fun t h=>absurd h (xbv _),fun t j h=>absurd h (xbv _)⟩ (by show fs.length-0<fu;omega)
    rw[za e1];rcases e2 with⟨rfl,e2⟩|⟨rfl,g1,g2⟩
    ·exact⟨_,rfl,fun e=>absurd e (by decide),fun e=>absurd ⟨e.pl,e.cp⟩ e2⟩
    ·simp only;obtain⟨hm,hd,hc,he⟩:=IJ hp hg h0 hl g1;have hq:fs.length*66<=66*66:=xar _ (by omega);have hb:=Ky (p:=p) hd;have hz:=X8 (p:=p) (by omega) a;have hn:=qk p (XM p fs) [ci (vS p a) (a.length-1)];simp only[xav,xcs]at hn;rw[za (qm hp hm hd (by omega) (by decide) (by omega) hf),hl,show(a.length:Int)-1=((a.length-1:Nat):Int)by omega,zd,yO,yG,zf,hc,za (jS hp (JV (by omega) fs) he (by omega) (by simp) hf)];simp only;rw[za (Vt hp (vJ (by omega) _ _) hz (by omega) (by omega) hf)];exact⟨_,rfl,fun e=>⟨h0,hl,by omega,g1,g2,of_decide_eq_true e⟩,fun e=>decide_eq_true e.pr⟩
  ·rw[zx];exact⟨_,rfl,fun e=>absurd e (by decide),fun e=>absurd e.al hl⟩
end
section
variable{a R:List Zr}{fu K:Nat}{q p:Int}{ds:List Int}
theorem dn(h:dZ a=0):1<=(yb a).length/\(yb a).length<=65:=by
 unfold dZ at h;split at h
 ·cases h
 ·split at h
  ·cases h
  ·omega
theorem MR:wG 2=true:=Mj ⟨by decide,by decide,fun d h1 h2=>by
 have:=xbE h1 h1;have h4:(2:Int).toNat=2:=rfl;omega⟩
theorem ey(hc:yb a=a)(hp:Pm (cf a))(hs:Po (cf a)):y8 a=1:=by
 obtain⟨n,hn,hb⟩:=hs.tp;have ha:(yb a).length≠0:=fun e=>hn.1 (ku e n);have h1:=(jt ha).uniq hn;have a2:ZL (cf a) a.length=1:=hp _ (du fun k hk=>z6 hk);have a3:y8 a=if cf (yb a) ((yb a).length-1)<0 then-((ZL (cf a) (yb a).length:Nat):Int)else((ZL (cf a) (yb a).length:Nat):Int):=rfl;rw[kQ,h1,zx,hc,a2]at a3;exact a3
theorem Po.left{u v:Pz}(fu:Fs u)(h:Po (u*v))(hv:Po v):Po u:=by
 obtain⟨m,hm,hp⟩:=h.tp;obtain⟨b,hb,hq⟩:=hv.tp;obtain⟨nu,_⟩:=jV hm.nz rfl;obtain⟨a,ha⟩:=Tp.ex fu nu;obtain rfl:=(ha.mul hb).uniq hm;rw[Xi ha.2 hb.2]at hp;exact⟨a,Int.pos_of_mul_pos_left hp hq,ha.2⟩
structure Rad(a R:List Zr):Prop where
 can:yb R=R
 pm:Pm (cf R)
 ps:Po (cf R)
 dv: ∃g:Pz,Fs g/\cf (x9 a)=cf R*g
 al: ∀q,Ir q->Zd q (cf a)->Zd q (cf R)
 ln:R.length<=(yb a).length
 sf: ∀q,Ir q-> ¬Zd (q*q) (cf R)
theorem bg(ha:xb K a)(hK:K<=40000)(hl:a.length<=1000000)(h0:dZ a≠0)(hf:3000000<=fu):wz fu a=some ([],dZ a):=by
 unfold wz;rw[za (Xv ha hK hl hf),ir h0]
theorem cd{B:Nat}(ha:xb K a)(hK:K<=100)(hl:a.length<=40)(h0:dZ a=0)(bA: ∀j,Bb B (cf a j))(hB:B<=6000)(hC:(B+7)*Ve ((yb a).length-1)<=639000)(hi:(B+7)*Ve ((yb a).length)<=2400000)(hf:3000000<=fu):
 ∃R,wz fu a=some (R,0)/\Rad a R/\ ∀j,Bb (B+(yb a).length+4) (cf R j):=by
 have hu:=dn h0;have hv:=Vr a;obtain⟨p,hp⟩: ∃p,p=x9 a:=⟨_,rfl⟩;have hb:yb p=p:=by rw[hp];exact uX a
 have hg:p.length=(yb a).length:=by rw[hp];exact Z7 a
 obtain⟨p1,p2⟩:=WG (a:=a) (by omega);rw[<-hp]at p1 p2;have hm:(yb p).length≠0:=by rw[hb];omega
 have tp:=jt hm;rw[hb]at tp;have bP: ∀j,Bb B (cf p j):=fun j=>by
  rw[hp,uc];exact(bA j).le (xdp _ _)
 have oP:xb 94 p:=by rw[<-hb];exact y7 fun j=>(bP j).bz (by omega)
 have hn:=ey hb p1 p2;obtain⟨d,hd⟩: ∃d,d=qe (p.length-1) (dvp (cf p)):=⟨_,rfl⟩;have hc:(cf d:Pz)=dvp (cf p):=funext fun k=>by
  rw[hd];exact jq (fun k hk=>by unfold dvp;rw[z6 (by omega),xas]) k
 have ho:yb d=d:=by rw[hd];exact(YH _ _).symm
 have hr:d.length<p.length:=by
  have:=qf (dvp (cf p)) (p.length-1);rw[hd,xD];omega
 have bD: ∀j,Bb (B+6) (cf d j):=fun j=>by
  rw[hc];show Bb _ (((j+1:Nat):Int)*cf p (j+1));by_cases hj:j+1<64
  ·rw[xbi];exact(bP _).mul (show((j+1:Nat):Int).natAbs<2^6 by rw[xbb];exact hj)
  ·rw[z6 (by omega),xas];exact Bb.zero _
 obtain⟨g,g1,g2,g3,g4,g5,g6⟩:=se (fu:=fu) (C:=B+7) (L:=p.length) hb ho hn hr rfl (by omega) (by rw[hg];exact hC) (by rw[hg];exact hi) (ca:=B) (cb:=B+6) (by omega) (by omega) bP bD hf;obtain⟨z1,z2⟩:=(g6 _ (Fs.cf g) g3).1 (Zd.refl _);have hs:(yb g).length≠0:=fun e=>by
  obtain⟨j,hj⟩:=g3.nz;exact hj (ku e j)
 obtain⟨w,fw,hw⟩:=z1;have bG: ∀j,Bb (B+(yb a).length+4) (cf g j):=fun j=>(gf tp (Fs.cf g) fw (by rw[hw,zg]) (by omega) bP j).mono (by omega);have oG:xb 97 g:=by rw[<-g2];exact y7 fun j=>(bG j).bz (by omega)
 obtain⟨R,e,r1,r2,r3⟩:=WK (fu:=fu) oP oG (by have:=xar (97+1) (show p.length+1<=41 by omega);omega) (by omega) (by omega) hs hf;have he:e=0:=r2.2 ⟨w,fw,hw⟩;subst he;obtain⟨r4,r5,r6⟩:=r3 rfl;have ht:Pm (cf R):=(r4▸p1:Pm (cf R*cf g:Pz)).left;refine⟨R,?_,⟨r5,ht,Po.left (Fs.cf R) (r4▸p2:Po (cf R*cf g:Pz)) g4,⟨cf g,Fs.cf g,by rw[<-hp];exact r4⟩,fun q hq hz=> ?_,by omega,fun q hq=>zfP tp (Fs.cf g) (Fs.cf R) r4 (fun d fd pd y1 y2=>(g6 d fd pd).2 ⟨y1,by rw[hc];exact y2⟩) hq⟩,fun j=>(gf tp (Fs.cf R) (Fs.cf g) r4 (by omega) bP j).mono (by omega)⟩
 ·unfold wz;rw[za (Xv ha (by omega) (by omega) hf),iq h0,za (wK ha (by omega) (by omega) hf),<-hp,za (ga oP (by decide) (by omega) hf),<-hd,za g1];unfold fY;rw[za (v:=R) (by rw[za r1])]
 ·refine zbh tp (Fs.cf g) (Fs.cf R) r4 (by rw[<-hc];exact z2) hq ?_;rw[hp];exact(Dc hq.fs hq.pm).2 hz
theorem LA:wG 65521=true:=Mj ⟨by decide,by decide,fun d h1 h2=>by
 have h3:d<256:=by
  refine xad fun hn=> ?_;have:=xbE (show 256<=d by omega) (show 256<=d by omega);have h4:(65521:Int).toNat=65521:=rfl;omega
 have key: ∀d:Nat,d<256->2<=d->(65521:Nat) % d≠0:=by decide+kernel
 exact key d h3 h1⟩
theorem fX(h:65521<=q):xK fu q=some (0,5):=by
 unfold xK;rw[iq h]
theorem Jx(h1:1<=q)(h:q<65521)(hf:3000000<=fu): ∃r,xK fu q=some (r,0)/\wG r=true/\q<r/\ ∀s,q<s->s<r->wG s=false:=by
 unfold xK;obtain⟨r,hr,r1,r2,r3⟩:=yq (f:=WO fu) (fun i:Int=>q<i/\i<=65521/\ ∀s,q<s->s<i->wG s=false) (fun i=>(65521-i).toNat) (fun r=>wG r=true/\q<r/\ ∀s,q<s->s<r->wG s=false) (by
  rintro i L ⟨i1,i2,i3⟩ ih;unfold WO;rw[za (YD (by omega))]
  cases hp:wG i with
  |true=>rw[ir (by decide)];exact⟨_,rfl,hp,i1,i3⟩
  |false=>
   have ha:i≠65521:=fun e=>by rw[e,LA]at hp;cases hp
   rw[iq (by decide),zd];refine ih _ ⟨by omega,by omega,fun s h1 h2=> ?_⟩ (by omega);by_cases e:s=i
   ·rw[e];exact hp
   ·exact i3 s h1 (by omega)) fu (q+1) ⟨by omega,by omega,fun s h1 h2=>by omega⟩ (by omega)
 rw[zx,zf,show max q 1=q by omega,zd,za hr];exact⟨r,rfl,r1,r2,r3⟩
def kX(R:List Zr)(p:Int):Prop:=wG p=true/\cf R (R.length-1) % p≠0/\qH p (cf R) (dvp (cf R))
theorem tQ{x:Int}{f g:Pz}(h:Cg p g (pc x*f))(hc:qH p g (dvp g)):qH p f (dvp f):=by
 have h1:Cg p (dvp g) (pc x*dvp f):=(TT h).trans (Cg.of (by
  rw[XR,zey];funext k;rw[zK,yg,zM,xcA]))
 obtain⟨s,t,fs,ft,e⟩:=hc.congr h h1;refine⟨s*pc x,t*pc x,fs.mul (Fs.pc x),ft.mul (Fs.pc x),?_⟩;rw[zb,zb];exact e
theorem dp(hp:0<p)(hR:0<R.length):(vS p R).length=R.length↔cf R (R.length-1) % p≠0:=by
 have hn:=(X8 hp R).nl;constructor
 ·intro h;rcases hn with h1|h1
  ·omega
  ·rw[h,Vu]at h1;exact h1
 ·intro h;have:=zcx p R;by_cases e:(vS p R).length=R.length
  ·exact e
  ·exfalso;rw[<-Vu,zQ (by omega)]at h;exact h rfl
theorem zd3(hp:wG p=true)(hR:0<R.length)(hl:R.length<=65)(hz:(vS p R).length=R.length)(hf:3000000<=fu):
 ∃m b,RU p (vS p R) m/\wC p m/\uM fu (vS p R) p=some (b,0)/\(b=true↔qH p (ci m) (dvp (ci m)))/\jj fu (vS p R) p=if b=true then some (m,0)else some ([],1):=by
 obtain⟨p1,p2⟩:=zo hp;have hF:=X8 (p:=p) (by omega) R;obtain⟨m,b,h1,h2,h3,h4,h5⟩:=fZ (fu:=fu) hp hF (by omega) (by omega) hf;refine⟨m,b,h1,h2,?_,h4,h5⟩;have hb:=h1.ln;obtain⟨x,x0,x1,hx,e1⟩:=Yj (fu:=fu) hp hF (by omega) (by omega) hf;obtain⟨b',c1,c2,c3⟩:=da (fu:=fu) hp h2 (by omega) hf;have hM:=DU p1 hF (by omega) hx;have ha:y4 p (vS p R) [x]=m:=by
  obtain⟨_,y,_,hy⟩:=hM.cg;obtain⟨u,_,hu,_⟩:=h1.cg;have hc:Cg p (ci m) (pc (u*y)*ci (y4 p (vS p R) [x])):=by
   rw[<-qL,zb];exact hu.trans (Cg.rfl.mul hy)
  have t1:=hc (m.length-1);have t2:=hM.top;have t3:=hM.ln;rw[h2.top,zD,show m.length-1=(y4 p (vS p R) [x]).length-1 by omega,t2,xcf]at t1;refine(h2.fm.ext hM.fm (hc.trans ?_)).symm;refine(Cg.mul (f':=pc 1) (fun k=> ?_) Cg.rfl).trans (Cg.of (zt _));unfold pc;split
  ·exact t1.symm
  ·rfl
 rw[ha]at e1;rw[<-h3];unfold uM Wh;rw[za e1,za c1]
theorem Ei{m:List Int}(h:RU p (vS p R) m):qH p (ci m) (dvp (ci m))↔qH p (cf R) (dvp (cf R)):=by
 obtain⟨x,y,hx,hy⟩:=h.cg;exact⟨fun hc=>tQ (hx.trans (Cg.rfl.mul (Uu p R))) hc,fun hc=>tQ ((Uu p R).symm.trans hy) hc⟩
theorem im(hR:yb R=R)(ho:xb K R)(hK:K<=300)(h0:dZ R=0)(hf:3000000<=fu): ∃b,Wo fu R p=some (b,0)/\(b=true↔kX R p):=by
 have ha:=dn h0;rw[hR]at ha;unfold Wo;obtain⟨y,y1,_⟩:=JK (fu:=fu) ho hK (by omega) hf;rw[za y1,h0];simp only[if_true];rw[za (YD (by omega))]
 cases hp:wG p with
 |false=>
  rw[iq (by decide)];exact⟨_,rfl,fun e=>absurd e (by decide),fun e=>by rw[e.1]at hp;cases hp⟩
 |true=>
  obtain⟨p1,p2⟩:=zo hp;rw[ir (by decide),za (kf ho (by omega) (by omega) p2 (by omega) hf)];simp only;rw[za (zz ho (by omega) (by omega) hf),show qe R.length (cf R)=R from hR];by_cases hz:(vS p R).length=R.length
  ·obtain⟨m,b,h1,h2,h3,h4,_⟩:=zd3 (fu:=fu) hp (by omega) (by omega) hz hf;rw[zN,za h3];refine⟨b,rfl,?_⟩;rw[h4,Ei h1];exact⟨fun hc=>⟨hp,(dp (by omega) (by omega)).1 hz,hc⟩,fun hc=>hc.2.2⟩
  ·rw[zx];exact⟨_,rfl,fun e=>absurd e (by decide),fun e=>absurd ((dp (by omega) (by omega)).2 e.2.1) hz⟩
structure P9(R:List Zr)(p:Int)(l:List (List Int)):Prop where
 el: ∀g∈l,Vs p g/\GR p g/\g.length<=66
 pw:l.Pairwise fun a b=>qH p (ci a) (ci b)
 cg:Cg p (cf R) (pc (cf R (R.length-1))*prZ (l.map ci))
 ln:l.length<=R.length-1
theorem Fo{p:Int}: ∀{l:List (List Int)},(∀g∈l,wC p g/\1<g.length)-> ∃d,Mn (prZ (l.map ci)) d/\l.length<=d
 |[],_=>⟨0,⟨rfl,fun k hk=>by show pc 1 k=0;unfold pc;rw[zx]⟩,xac _⟩
 |g::l,h=>by
  obtain⟨h1,h2⟩:=h g (FS);obtain⟨d,hd,hl⟩:=Fo fun x hx=>h x (H1 _ hx);exact⟨_,zdO h1.mn hd,by rw[xav];omega⟩
theorem Nt(hg:kX R p)(hR:1<R.length)(hl:R.length<=13)(hd:Rl ds)(hm:ds.length<=1000)(hf:3000001<=fu): ∃l,ZD fu (vS p R) p ds=some (l,0)/\P9 R p l:=by
 obtain⟨hp,ht,hc⟩:=hg;obtain⟨p1,p2⟩:=zo hp;obtain⟨P,rfl⟩:=xaC (show 0<=p by omega);have hz:=(dp (p:=(P:Int)) (by omega) (by omega)).2 ht;obtain⟨m,b,h1,h2,h3,h4,h5⟩:=zd3 (fu:=fu) hp (by omega) (by omega) hz (by omega);have he:=(Ei h1).2 hc;rw[iq (h4.2 he)]at h5;obtain⟨l,us,e1,hS,hP,hI⟩:=gU (fu:=fu) (b:=b) hp (X8 (by omega) R) (by omega) (by omega) hd hm hf h1 h2 h5 he;have hr:=h1.ln;have hi: ∀g∈l,g.length<=66:=fun g hg=>by
  obtain⟨q,fq,hq⟩:=hP.dv hg;have:=Ub p1 h2 (hP.mn g hg).1 fq hq;omega
 refine⟨l,e1,fun g hg=>⟨hI g hg,⟨fun j _=>⟨(hP.mn g hg).1.fm.nn j,(hP.mn g hg).1.fm.lt j⟩,(hP.mn g hg).2,(hP.mn g hg).1.top⟩,hi g hg⟩,?_,?_,?_⟩
 ·refine xdj.2 fun{a b} hs=> ?_;have ha:a∈l:=hs.subset (by simp);have hb:b∈l:=hs.subset (by simp);refine(hI a ha).cop hp (hI b hb) (by have:=hi a ha;omega) (by have:=hi b hb;omega) fun hn=> ?_;subst hn;have:=dK (p:=(P:Int)) (hs.map ci) QY;refine qH.sq p1 (hI a ha) he (Di.cg ?_ hP.pr.symm);refine Di.trans ⟨pc 1,Fs.pc 1,Cg.of ?_⟩ this;show ci a*(ci a*pc 1)=_;rw[zL,zt]
 ·obtain⟨x,y,hx,hy⟩:=h1.cg;have hj:=(Uu (P:Int) R).symm.trans hy;have t:=hj (R.length-1);rw[zD,show R.length-1=m.length-1 by omega,h2.top,xcf,show m.length-1=R.length-1 by omega]at t;refine hj.trans (Cg.mul (fun k=> ?_) hP.pr);unfold pc;split
  ·exact t.symm
  ·rfl
 ·obtain⟨d,hd,hu⟩:=Fo hP.mn;have ho:=h2.mn;have hk:(1:Int) % (P:Int)=1:=xaz (by decide) (by omega);have t1:=hP.pr d;rw[hd.1,hk]at t1;by_cases hv:d<=m.length-1
  ·omega
  ·rw[ho.2 d (by omega),xag]at t1;cases t1
theorem iW(hR:yb R=R)(ho:xb K R)(hK:K<=300)(h0:dZ R=0)(hm:1<R.length)(hl:R.length<=13)(hd:Rl ds)(hp:ds.length<=1000)(hf:3000001<=fu):
 ∃p l,XY fu R ds=some (p,l)/\((p=0/\ ∀q,¬kX R q)\/(kX R p/\P9 R p l)):=by
 have hi: ∀{q r:Int},(∀s,s<=q-> ¬kX R s)->(∀s,q<s->s<r->wG s=false)-> ∀s,s<r-> ¬kX R s:=fun{q r} h1 h2 s hs hg=>by
  by_cases h:s<=q
  ·exact h1 s h hg
  ·have:=h2 s (by omega) hs;rw[hg.1]at this;cases this
 have hj: ∀{q:Int},65521<=q->(∀s,s<=q-> ¬kX R s)-> ∀s,¬kX R s:=fun{q} hq h s hg=>by
  have:=(zo hg.1).2;exact h s (by omega) hg
 obtain⟨s,hs,p,l,rfl,hQ⟩:=yq (f:=W6 fu R ds) (fun s:Int×Int×List (List Int)×Int×Int=>(s.2.2.2.2=0->wG s.2.2.2.1=true)/\0<=s.2.1/\((s.1=0/\s.2.1=0/\(s.2.2.2.2=0-> ∀q,q<s.2.2.2.1-> ¬kX R q)/\(s.2.2.2.2≠0-> ∀q,¬kX R q))\/(kX R s.1/\P9 R s.1 s.2.2.1))) (fun s=>if s.2.2.2.2=0 then(65522-s.2.2.2.1).toNat else 0)
  (fun r=> ∃p l,r=(p,l)/\((p=0/\ ∀q,¬kX R q)\/(kX R p/\P9 R p l))) (by
  rintro⟨b,n,out,q,e⟩ L ⟨i1,i2,i3⟩ ih
  simp only at i1 i2 i3 ih
  unfold W6
  simp only
  by_cases he:e=0
  ·have hq:=i1 he
   obtain⟨q1,q2⟩:=zo hq
   rw[iq he]
   by_cases hn:n<5
   ·obtain⟨c,c1,c2⟩:=im (fu:=fu) (p:=q) hR ho hK h0 (by omega)
    rw[iq hn,za c1]
    have hc: ∃r e',xK fu q=some (r,e')/\(e'=0->wG r=true/\q<r/\ ∀s,q<s->s<r->wG s=false)/\(e'≠0->65521<=q):=by
     by_cases h:65521<=q
     ·exact⟨0,5,fX h,fun h=>absurd h (by decide),fun _=>h⟩
     ·obtain⟨r,h1,h2⟩:=Jx (fu:=fu) (q:=q) (by omega) (by omega) (by omega);exact⟨r,0,h1,fun _=>h2,fun h=>absurd rfl h⟩
    obtain⟨r,e',n1,n2,n3⟩:=hc
    have ha:(if e'=0 then(65522-r).toNat else 0)<(if e=0 then(65522-q).toNat else 0):=by
     rw[iq he];split
     ·have:=n2 (by assumption);omega
     ·omega
    cases c with
    |false=>
     have hr: ¬kX R q:=fun hg=>by have:=c2.2 hg;cases this
     rw[iq (by decide),za n1]
     refine ih _ ⟨fun h=>(n2 h).1,i2,?_⟩ ha
     rcases i3 with⟨j1,j2,j3,j4⟩|j
     ·have hk: ∀s,s<=q-> ¬kX R s:=fun s hs hg=>by
       by_cases h:s=q
       ·rw[h]at hg;exact hr hg
       ·exact j3 he s (by omega) hg
      exact .inl ⟨j1,j2,fun h=>hi hk (n2 h).2.2,fun h=>hj (n3 h) hk⟩
     ·exact .inr j
    |true=>
     have hg:=c2.1 rfl
     obtain⟨t,t1,t2⟩:=Nt (fu:=fu) hg hm hl hd hp hf
     rw[ir (by decide),zd,za (kf ho (by omega) (by omega) q2 (by omega) (by omega))]
     simp only
     rw[za t1]
     simp only
     by_cases hb:b=0
     ·rw[iq hb,za n1]
      exact ih _ ⟨fun h=>(n2 h).1,by show 0<=n+1;omega,.inr ⟨hg,t2⟩⟩ ha
     ·have j:kX R b/\P9 R b out:=by
       rcases i3 with⟨j1,_⟩|j
       ·exact absurd j1 hb
       ·exact j
      rw[ir hb]
      split
      ·rw[za n1]
       exact ih _ ⟨fun h=>(n2 h).1,by show 0<=n+1;omega,.inr ⟨hg,t2⟩⟩ ha
      ·rw[za n1]
       exact ih _ ⟨fun h=>(n2 h).1,by show 0<=n+1;omega,.inr j⟩ ha
   ·rw[ir hn]
    refine⟨_,rfl,b,out,rfl,?_⟩
    rcases i3 with⟨j1,j2,_⟩|j
    ·omega
    ·exact .inr j
  ·rw[ir he]
   refine⟨_,rfl,b,out,rfl,?_⟩
   rcases i3 with⟨j1,j2,j3,j4⟩|j
   ·exact .inl ⟨j1,j4 he⟩
   ·exact .inr j) fu (0,0,[],2,0) ⟨fun _=>MR,xeS 0,.inl ⟨rfl,rfl,fun _ q hq hg=>by have:=(zo hg.1).1;simp only at hq;omega,fun h=>absurd rfl h⟩⟩ (by
   show(if(0:Int)=0 then((65522:Int)-2).toNat else 0)<fu
   rw[iq rfl]
   omega)
 refine⟨p,l,?_,hQ⟩;unfold XY;obtain⟨r,r1,r2,r3,r4⟩:=Jx (fu:=fu) (q:=1) (by decide) (by decide) (by omega);have:r=2:=by
  by_cases h:r=2
  ·exact h
  ·have h5:=(zo r2).1;have:=r4 2 (by decide) (by omega);rw[MR]at this;cases this
 subst this;rw[za r1];simp only;rw[za hs]
end
section
variable{fu K Y:Nat}{a b R:List Zr}
theorem Mm(f g:Nat->Int): ∀n,Au f g n= -1\/Au f g n=0\/Au f g n=1
 |0=> .inr (.inl rfl)
 |n+1=>by
  unfold Au;split
  ·exact Mm f g n
  ·split
   ·exact .inl rfl
   ·exact .inr (.inr rfl)
theorem Eh(a b:List Zr):Xp a b= -1\/Xp a b=0\/Xp a b=1:=by
 unfold Xp;split
 ·exact Mm _ _ _
 ·split
  ·exact .inl rfl
  ·exact .inr (.inr rfl)
theorem Xu(ha:xb K a)(hb:xb K b)(ca:yb a=a)(cb:yb b=b)(hK:K<=40000)(hd:a.length<=1000)(hg:b.length<=1000)(hf:3000000<=fu):ks fu a b=some (decide (Xp a b<0)):=by
 unfold ks;rw[za (zz ha (by omega) (by omega) hf),za (zz hb (by omega) (by omega) hf),show qe a.length (cf a)=a from ca,show qe b.length (cf b)=b from cb];have hc:Xp a b=if a.length=b.length then Au (cf a) (cf b) a.length else if a.length<b.length then-1 else 1:=rfl;by_cases hl:a.length=b.length
 ·rw[iq hl]at hc;rw[zN,zd,za (v:=if Xp a b=0 then Sum.inl ()else Sum.inr (decide (Xp a b<0)))]
  ·rcases Eh a b with h|h|h<;>rw[h]<;>rfl
  ·rw[hc];refine zE (fun s:Int=> ∃n:Nat,s=(n:Int)-1/\n<=a.length/\Au (cf a) (cf b) n=Au (cf a) (cf b) a.length) (fun s=>(s+1).toNat) _ ?_ _ _ ⟨a.length,rfl,xac _,rfl⟩ (by show((a.length:Int)-1+1).toNat<fu;omega);rintro s L ⟨n,rfl,hn,he⟩ ih;unfold KG
   cases n with
   |zero=>
    rw[zx,<-he];rfl
   |succ n=>
    have oa:=ha.get n;have ob:=hb.get n;rw[show((n+1:Nat):Int)-1=(n:Int)by omega,zN,yB,zf,yB,zf,za (ue (gI.of oa (by omega)) (gI.of ob (by omega)) hf (by omega) (by omega)),Qm,Qm];rw[show Au (cf a) (cf b) (n+1)=if cf a n=cf b n then Au (cf a) (cf b) n else if cf a n<cf b n then-1 else 1 from rfl]at he;by_cases e:cf a n=cf b n
    ·rw[iq e]at he;rw[iq (jd.2 e),zd];exact ih _ ⟨n,rfl,by omega,he⟩ (by omega)
    ·rw[ir e]at he;rw[ir fun h=>e (jd.1 h)];unfold kG;by_cases e2:cf a n<cf b n
     ·rw[iq e2]at he⊢;rw[<-he,iq (by decide)];rfl
     ·rw[ir e2]at he⊢;rw[iq (show cf b n<cf a n by omega),<-he,ir (by decide)];rfl
 ·rw[ir hl]at hc;rw[zx,hc];by_cases h2:a.length<b.length
  ·rw[iq h2,zN];rfl
  ·rw[ir h2,zx];rfl
theorem cF(ha:xb K a)(hb:xb K b)(ca:yb a=a)(cb:yb b=b)(hK:K<=40000)(hc:a.length<=1000)(hd:b.length<=1000)(hf:3000000<=fu):qw fu a b=some (Xp a b):=by
 unfold qw;rw[za (Xu ha hb ca cb hK hc hd hf),za (Xu hb ha cb ca hK hd hc hf),uR a b];rcases Eh a b with h|h|h<;>rw[h]<;>rfl
theorem zbD:Od3 Xp Gd:=⟨fun x y z _ _ _ h1 h2 h3=>by
 have h4:=IG (a:=x) (b:=y) (c:=z) (by have:=uR x y;omega) (by have:=uR y z;omega);have:=uR x z;omega,fun x y _ _ h1 h2=>by
 have:=uR x y;omega⟩
def BdY(R:List Zr)(Y:Nat):Prop:= ∃r:Nat,Y=(r+1)*2^(R.length-1)/\(r:Int)*r<dV (cf R) R.length/\dV (cf R) R.length<=((r:Int)+1)*(r+1)
theorem Tz(hR:yb R=R)(ho:xb K R)(hK:K<=300)(h0:dZ R=0)(hf:3000000<=fu): ∃Y,wu fu R=some (yE (Y:Nat),0)/\BdY R Y:=by
 have ha:=dn h0;have hb:=Zw (show R=qe R.length (cf R)from hR.symm) (by rw[hR]at ha;omega);obtain⟨y,h1,h2⟩:=JK (fu:=fu) ho hK (by rw[hR]at ha;omega) hf;obtain⟨r,rfl,h3,h4⟩:=h2 h0;rw[hR]at h1 h3 h4 ha;have hc:=B0 (f:=cf R) (n:=R.length) ⟨R.length-1,by omega,hb⟩;refine⟨_,by rw[h1,h0],r,rfl,?_,?_⟩
 ·have e:((r*r:Nat):Int)=(r:Int)*r:=by simp
  omega
 ·have e:(((r+1)*(r+1):Nat):Int)=((r:Int)+1)*(r+1):=by simp
  omega
theorem zfr{x y:Nat}(h:x*x<=y*y):x<=y:=by
 refine xad fun hn=> ?_;have:=xdK (show y<x by omega) (show y<x by omega);omega
theorem zh7{M:Int}(hR:0<R.length)(ht:Tp (cf R) (R.length-1))(hp:0<cf R (R.length-1))(hY:BdY R Y)(hM:2*((Y:Int)*cf R (R.length-1))<M):Bdz M (cf R):=fun u v b fu hv e j=>by
 obtain⟨r,rfl,_,hr⟩:=hY;obtain⟨nu,_⟩:=jV ht.nz e;obtain⟨a,ha⟩:=Tp.ex fu nu;have hb:a+b=R.length-1:=by
  have:=ha.mul hv;rw[<-e]at this;exact this.uniq ht
 have key:(v b*u j).natAbs<=(r+1)*2^(R.length-1):=by
  refine zfr ?_;have h7:((v b*u j).natAbs*(v b*u j).natAbs:Nat)=(v b*u j*(v b*u j)).natAbs:=(xcb _ _).symm;have e2:(((r+1)*2^(R.length-1)*((r+1)*2^(R.length-1)):Nat):Int)=4^(R.length-1)*(((r:Int)+1)*(r+1)):=by
   have:(4:Int)^(R.length-1)=2^(R.length-1)*2^(R.length-1):=by rw[show(4:Int)=2*2 by decide,Int.mul_pow]
   rw[this];simp only[xeX,Int.natCast_pow,xdV];grind
  have h0:=jk (v b*u j);have h8:v b*u j*(v b*u j)<=4^(R.length-1)*(((r:Int)+1)*(r+1)):=by
   have h9:=mig ha hv e j;rw[hb,show R.length-1+1=R.length by omega]at h9;exact Int.le_trans h9 (xaW hr (xfo (by decide)))
  omega
 have h5:(((r+1)*2^(R.length-1):Nat):Int)*1<=(((r+1)*2^(R.length-1):Nat):Int)*cf R (R.length-1):=xaW (by omega) (by omega);omega
theorem P1(hR:yb R=R)(ho:xb K R)(hK:K<=300)(hl:0<R.length)(hb:R.length<=65)(hY:wu fu R=some (yE (Y:Nat),0))(ha:Bz 1000 (Y:Int))(hf:3000000<=fu):X6 fu R=some (decide (1000<bl (2*((Y:Int)*cf R (R.length-1))).natAbs)):=by
 have b2:Bz 1 2:=by unfold Bz;decide
 have ob:=ho.get (R.length-1);have bt:=ho.bz (R.length-1);have bm:=ha.mul bt;have bmm:=b2.mul bm;unfold X6;rw[za hY];simp only;rw[za (z8 (by decide) hf),show(R.length:Int)-1=((R.length-1:Nat):Int)by omega,zd,yB,zf,za (ye (ha.ok (by decide)) (gI.of ob (by omega)) hf),zu,Qm,za (ye (b2.ok (by decide)) (bm.ok (by omega)) hf),zu,zu,za (Yu (yU _) (by have:=bmm.len;omega) (by have:=bmm.len;omega)),show nv (yE (2*((Y:Int)*cf R (R.length-1)))).2=(2*((Y:Int)*cf R (R.length-1))).natAbs from z7 _];by_cases h:1000<bl (2*((Y:Int)*cf R (R.length-1))).natAbs
 ·rw[zN,decide_eq_true h]
 ·rw[zx,decide_eq_false h]
theorem zbM{n k:Nat}(h:bl n<=k):n<2^k:=xap (mZ n) (xaK (by decide) h)
theorem NM{p:Int}(hp:wG p=true)(hR:yb R=R)(ho:xb K R)(hK:K<=300)(hl:0<R.length)(he:R.length<=65)(hY:wu fu R=some (yE (Y:Nat),0))(hb:Bz 1000 (Y:Int))(hg:bl (2*((Y:Int)*cf R (R.length-1))).natAbs<=1000)(hf:3000000<=fu):
 ∃k:Nat,YC fu R p=some (k:Int)/\1<=k/\k<=1000/\2*((Y:Int)*cf R (R.length-1))<p^k:=by
 obtain⟨p1,p2⟩:=zo hp;obtain⟨E,hE⟩: ∃E,E=1000:=⟨_,rfl⟩;have hg:=zbM (k:=E) (by rw[hE];exact hg);have b2:Bz 1 2:=by unfold Bz;decide
 have ob:=ho.get (R.length-1);have bt:=ho.bz (R.length-1);have bm:=hb.mul bt;have bmm:=b2.mul bm;have bp:Bz 1 p:=by unfold Bz;rw[Nat.pow_one];omega
 obtain⟨T,hT⟩: ∃T,T=2*((Y:Int)*cf R (R.length-1)):=⟨_,rfl⟩;have hd: ∀k:Nat,((2^k:Nat):Int)<=p^k:=fun k=>by
  obtain⟨P,rfl⟩:=xaC (show 0<=p by omega);have:=Nat.pow_le_pow_left (show 2<=P by omega) k;have e:((P^k:Nat):Int)=(P:Int)^k:=by simp
  rw[<-e];omega
 obtain⟨r,hr,k,rfl,k1,k2,k3⟩:=yq (f:=Xr fu p (yE T)) (fun s:Int×Zr=> ∃k:Nat,s=((k:Int),yE (p^k))/\1<=k/\k<=1000) (fun s=>1000-s.1.toNat) (fun r=> ∃k:Nat,r=(k:Int)/\1<=k/\k<=1000/\T<p^k) (by
  rintro s L ⟨k,rfl,k1,k2⟩ ih;unfold Xr;simp only;have ha:=gl hp k2;rw[za (ue (ha.ok (by decide)) ((hT▸bmm).ok (by omega)) hf (by have:=ha.len;omega) (by have:=(hT▸bmm:Bz _ T).len;omega)),zu,zu];by_cases h:T<p^k
  ·have hc:kG (p^k) T=1:=by unfold kG;rw[zx,iq h]
   rw[hc,ir (by decide)];exact⟨_,rfl,k,rfl,k1,k2,h⟩
  ·have hk:k<1000:=by
    refine xad fun hn=> ?_;obtain rfl:k=E:=by omega
    have:=hd k;rw[<-hT]at hg;omega
   have hc:kG (p^k) T<=0:=by
    unfold kG;split
    ·decide
    ·first|decide|(rw[ir h];decide)
   rw[iq hc,za (z8 ⟨by omega,by omega⟩ hf),za (ye (ha.ok (by decide)) (bp.ok (by decide)) hf),zu,zu,zd,<-xbk];exact ih _ ⟨k+1,rfl,by omega,by omega⟩ (by show 1000-((k:Int)+1).toNat<1000-(k:Int).toNat;omega)) fu (1,yE p) ⟨1,by rw[xbk,xbs,xbX];rfl,by omega,by omega⟩ (by show 1000-(1:Int).toNat<fu;omega)
 refine⟨k,?_,k1,k2,by rw[<-hT];exact k3⟩;unfold YC;rw[za hY];simp only;rw[za (z8 (by decide) hf),show(R.length:Int)-1=((R.length-1:Nat):Int)by omega,zd,yB,zf,za (ye (hb.ok (by decide)) (gI.of ob (by omega)) hf),zu,Qm,za (ye (b2.ok (by decide)) (bm.ok (by omega)) hf),zu,zu,<-hT,za (z8 ⟨by omega,by omega⟩ hf),za hr]
end
section
variable{R a:List Zr}{fu K B:Nat}{ds:List Int}
theorem DA{R:List Zr->List Int->Prop}: ∀{us:List (List Zr)} {fs:List (List Int)},nY R us fs-> ∃xs:List Lx,us=xs.map (·.1)/\fs=xs.map (·.2)/\ ∀x∈xs,R x.1 x.2
 |[],[],_=>⟨[],rfl,rfl,fun _ h=>absurd h xaa⟩
 |u::us,f::fs,h=>by
  obtain⟨xs,e1,e2,h3⟩:=DA h.2;refine⟨(u,f)::xs,by rw[e1];rfl,by rw[e2];rfl,fun x hx=> ?_⟩;rcases xae.1 hx with rfl|hx
  ·exact h.1
  ·exact h3 x hx
def L7(R:List Zr):Prop:= ∃Y,BdY R Y/\1000<bl (2*((Y:Int)*cf R (R.length-1))).natAbs
theorem BdY.uniq{Y Z:Nat}(h:BdY R Y)(g:BdY R Z):Y=Z:=by
 obtain⟨r,rfl,h1,h2⟩:=h;obtain⟨s,rfl,g1,g2⟩:=g;have key: ∀{r s:Nat} {S:Int},(r:Int)*r<S->S<=((s:Int)+1)*(s+1)-> ¬s<r:=fun{r s S} h1 h2 ha=>by
  have:((s:Int)+1)*(s+1)<=(r:Int)*r:=Int.mul_le_mul (by omega) (by omega) (by omega) (by omega);omega
 have:=key h1 g2;have:=key g1 h2;obtain rfl:r=s:=by omega
 rfl
theorem lj(hR:yb R=R)(pm:Pm (cf R))(ps:Po (cf R))(ho:xb K R)(hK:K<=200)(hl:R.length<=11)(hd:Rl ds)(hV:ds.length<=1000)(hf:3000300<=fu):
 ∃l b,XT fu R ds=some (l,b)/\(b=true↔R.length<2\/(¬L7 R/\ ∃p,kX R p))/\(b=true->(∀g∈l,Gd g)/\cf R=prZ (l.map fun g=>(cf g:Pz))/\l.Pairwise (fun a b=>Xp a b<0)/\l.length<=12):=by
 have hJ:(yb R).length≠0:=fun e=>by
  obtain⟨j,hj⟩:=pm.nz;exact hj (ku e j)
 have tR:=jt hJ;rw[hR]at hJ tR;have hB:0<cf R (R.length-1):=by
  obtain⟨m,m1,m2⟩:=ps.tp;rw[<-m1.uniq tR];exact m2
 unfold XT;by_cases h2:R.length<2
 ·rw[zN];refine⟨[],true,rfl,⟨fun _=> .inl h2,fun _=>rfl⟩,fun _=>⟨fun g hg=>absurd hg xaa,?_,List.Pairwise.nil,xaj _⟩⟩;obtain⟨d,hd⟩:=((JN.tp tR).2 (by omega)).ex;have h3:cf R (R.length-1)=d:=by rw[hd,show R.length-1=0 by omega];exact iq rfl
  rw[hd]at pm;rcases dc pm with e|e
  ·rw[hd,e];rfl
  ·omega
 ·have h0:dZ R=0:=by unfold dZ;rw[hR,zx,zx]
  obtain⟨Y,hY,hA⟩:=Tz (fu:=fu) hR ho (by omega) h0 (by omega);have hM:Bz 1000 (Y:Int):=by
   obtain⟨r,rfl,h3,h4⟩:=hA;have h5:=PF (K:=K) (f:=cf R) ho.bz R.length (by omega);have h6:Bz 401 (r:Int):=by
    refine Bz.nat ?_;refine xbd (show r<=r*r from Nat.le_mul_self r) ?_;have h7:((r*r:Nat):Int)=(r:Int)*r:=by simp
    have h8:=h5.mono (show K+K+1<=401 by omega);unfold Bz at h8;omega
   have h9:Bz 402 (((r+1:Nat):Int)):=(h6.add (Bz.one' (k:=401) (by decide))).le (by omega);have hW:Bz 1 (((2^(R.length-1):Nat):Int)):=Bz.nat (by
    rw[Nat.pow_one];exact xbd (xaK (by decide) (show R.length-1<=10 by omega)) (by decide))
   have:=(h9.mul hW).mono (show 402+1<=1000 by decide);rwa[<-xeX]at this
  have hN:L7 R↔1000<bl (2*((Y:Int)*cf R (R.length-1))).natAbs:=⟨fun⟨Z,z1,z2⟩=>by rw[hA.uniq z1];exact z2,fun h=>⟨Y,hA,h⟩⟩;rw[zx,za (P1 hR ho (by omega) (by omega) (by omega) hY hM (by omega))];by_cases hg:1000<bl (2*((Y:Int)*cf R (R.length-1))).natAbs
  ·rw[decide_eq_true hg,iq rfl];refine⟨[],false,rfl,⟨fun h=>absurd h (by decide),fun h=> ?_⟩,fun h=>absurd h (by decide)⟩;rcases h with h|h
   ·exact absurd h h2
   ·exact absurd (hN.2 hg) h.1
  ·rw[decide_eq_false hg,ir (by decide)];obtain⟨p,l,e1,hQ⟩:=iW (fu:=fu) hR ho (by omega) h0 (by omega) (by omega) hd hV (by omega);rw[za e1];simp only;rcases hQ with⟨hX,hZ⟩|⟨hE,hu⟩
   ·rw[iq hX];refine⟨[],false,rfl,⟨fun h=>absurd h (by decide),fun h=> ?_⟩,fun h=>absurd h (by decide)⟩;rcases h with h|⟨_,q,hq⟩
    ·exact absurd h h2
    ·exact absurd hq (hZ q)
   ·obtain⟨hp,ht,hc⟩:=hE;obtain⟨p1,p2⟩:=zo hp;obtain⟨k,e2,k1,k2,k3⟩:=NM (fu:=fu) hp hR ho (by omega) (by omega) (by omega) hY hM (xbw hg) (by omega);have hO:dB p (k:Int)=(yE (p^k),0):=by
     unfold dB;rw[if_pos ⟨hp,by omega,by omega⟩,xaM]
    have h1:=hu.ln;rw[zx,za e2,za (jC (by omega)),hO];simp only;have h':Yq fu R l p=some ([],R,l):=by
     unfold Yq;rw[za (v:=(R,l))];obtain⟨n,hn⟩: ∃n,fu=n+1:=⟨fu-1,by omega⟩;have:zj (XB fu p) (n+1) (R,l)=some (R,l):=by
      rw[qW];unfold XB;simp only;rw[zx]
     rw[<-hn]at this;exact this
    rw[za h'];simp only;have hz:=(dp (p:=p) (by omega) (by omega)).2 ht;have hP:KJ p (yb R) l:=by
     rw[hR];refine⟨by omega,hz,by omega,fun i hi=> ?_,fun i j hi hj=> ?_,?_⟩
     ·have hm:=AE (l:=l) hi;refine⟨?_,(hu.el _ hm).2.1⟩;obtain⟨q,fq,hq⟩:Di p (ci (l.getD i [])) (cf R):=Di.cg ((Jj QY (xbI hm)).mul _ (Fs.pc _)) hu.cg.symm;have hT:=(hu.el _ hm).1.mn;obtain⟨x,hx,hcx⟩:=cy hp ht 1|>fun⟨x,hx⟩=>(⟨x,hx,rfl⟩: ∃x,p^1∣x*cf R (R.length-1)-1/\True=True);by_cases hlt:(l.getD i []).length<=R.length
      ·exact hlt
      ·exfalso;have h3:=hT.mn.zero p1 fq fun k hk=>by rw[<-hq k,tR.2 k (by have:=hT.ln;omega),xag]
       have h4:=(hq.trans (h3.mul_zero_r _)) (R.length-1);rw[zM,xag]at h4;exact ht h4
     ·have h3:=xcp.1 hu.pw j i (by omega) hi hj;rw[UV,UV,IR hi,IR (show j<l.length by omega)];exact h3.symm
     ·refine(vJ (p:=p) (by omega) _ _).ext (X8 (by omega) R) ((ky p _ _).trans ((Cg.mul (db p l) Cg.rfl).trans (Cg.trans ?_ (Uu p R).symm)));rw[v8,zg];refine Cg.trans (Cg.mul (fun j=> ?_) Cg.rfl) hu.cg.symm;rw[Vu];unfold pc;split
      ·exact xaD _ _
      ·rfl
    obtain⟨us,e,e3,e4,e5⟩:=fU (fu:=fu) (p:=p) (k:=(k:Int)) (a:=R) (fs:=l) (ho.mono (by omega)) (by omega) (by omega);have he:e=0:=by
     refine xad fun hF=> ?_;have hr:=aj (fu:=fu) (fs:=l) hp (ho.mono (by omega:K<=250)) (by decide) (by omega:R.length<=66) (by omega);obtain⟨bb,b1,b2⟩:=hr;rw[b2.2 (by rw[hR]at hP;exact hP)]at b1;have:=zan (ho.mono (by omega:K<=250)) (by omega) (by omega) (by omega) (by omega) e3;unfold R3 at this;rw[iq hp,hR,zx,iq b1]at this;exact hF this
    obtain⟨hG,_⟩:=e4 he;rw[xaM]at hG;have hup:=hG.up;obtain⟨xs,rfl,rfl,hx⟩:=DA hup;have hF:xs.map (·.2)≠[]:=fun e=>by
     have h3:=hu.cg (R.length-1);rw[e,show prZ ([].map ci)=pc 1 from rfl,zL]at h3;have h4:pc (cf R (R.length-1)) (R.length-1)=0:=zx;rw[h4,xag]at h3;exact ht h3
    have hU:=hG.cg hF;rw[hR,xcP]at hU;rw[xaN]at h1;have hC:Ch p k (cf R) R xs [] 1:=by
     have hL:Lc p k (cf R) (R.length-1) xs:=⟨hp,k1,fun x hH=>⟨hx x hH,(hu.el _ (xbI hH)).1,(hu.el _ (xbI hH)).2.2⟩,(xeb (R:=fun a b=>qH p (ci a) (ci b)) (f:=fun x:Lx=>x.2)).1 hu.pw,tR,by omega,hB,ht,pm,hU⟩;exact⟨hL,k2,hR,ho.mono (by omega),hl,zh7 (by omega) tR hB hA k3,Ls.one hL,by rw[xcs];omega,(zt _).symm,fun g hg=>absurd hg xaa⟩
    obtain⟨out,o1,o2,o3,o4⟩:=Fb (fu:=fu) hC (by omega);rw[zN,za e3];simp only;rw[za o1,q9 (by simp only[xcs];omega),zf,xbF];obtain⟨r,s1,s2,s3⟩:=CA (fu:=fu) (cmp:=fun zx0 zx1=>qw fu zx0 zx1) (c:=Xp) (S:=Gd) (fun x y hx hy=>cF hx.ok hy.ok hx.can hy.can (by decide) (by have:=hx.ln;omega) (by have:=hy.ln;omega) (by omega)) (t:=out) o3 (by omega) (by omega);have hI:cf R=prZ (r.map fun g=>(cf g:Pz)):=by rw[o4];exact DX (s2.symm.map _)
    have hw: ∀g∈r,Gd g:=fun g hg=>o3 g (s2.mem_iff.1 hg);rw[za s1];refine⟨r,true,rfl,⟨fun _=> .inr ⟨fun h=>hg (hN.1 h),p,hp,ht,hc⟩,fun _=>rfl⟩,fun _=>⟨hw,hI,?_,by rw[s2.length_eq];omega⟩⟩;refine(xdj.2 fun{a b} hs=> ?_);have h3: ¬Xp b a<0:=(xdj.1 (s3 zbD)) hs;have ha:a∈r:=hs.subset (by simp);have hb:b∈r:=hs.subset (by simp);have h4:=uR a b;by_cases h5:Xp a b=0
    ·exfalso;have hab:=NZ (hw a ha).can (hw b hb).can h5;subst hab;obtain⟨m,w,hS,hm⟩:=hC.lc.sf;have hD:=dK (p:=p) (hs.map fun g=>(cf g:Pz)) fun f hf=>by
      obtain⟨g,_,rfl⟩:=xai.1 hf;exact Fs.cf g
     rw[<-hI]at hD;have hsq:Di p ((cf a:Pz)*cf a) (ci m):=by
      refine Di.trans ⟨pc 1,Fs.pc 1,Cg.of ?_⟩ (hD.trans ⟨pc w,Fs.pc w,hm⟩);show(cf a:Pz)*(cf a*pc 1)=_;rw[zL,zt]
     have hga:=hw a ha;have hda:Zd (cf a) (cf R):=by
      rw[hI];obtain⟨A,B,e6⟩:=xdP ha;rw[e6,xaO,xbR,xM];refine Zd.mul _ (Fs.prZ fun f hf=> ?_) (Zd.left (Fs.prZ fun f hf=> ?_))
      ·obtain⟨g,_,rfl⟩:=xai.1 hf;exact Fs.cf g
      ·obtain⟨g,_,rfl⟩:=xai.1 hf;exact Fs.cf g
     obtain⟨v,fv,hv⟩:=hda;have h6:=hC.ls (cf a) v (Fs.cf a) fv (by rw[hv,zg]) hga.ir.dg;obtain⟨x,hxo⟩: ∃x,x∈own p (cf a) xs:=by
      cases ho2:own p (cf a) xs with
      |nil=>rw[ho2]at h6;exact absurd h6 (by decide)
      |cons x t=>exact⟨x,FS⟩
     obtain⟨h7,h8⟩:=Jo.1 hxo;exact hS.apart (Fs.cf a) (Fs.cf a) hsq (xbI h7) h8 h8
    ·omega
theorem iC{q:List Zr}{m:Nat}(ha:xb K a)(hK:K<=50)(ta:Tp (cf a) m)(hm:m<=11)(hc:a.length<=40)(bA: ∀j,Bb B (cf a j))(hB:B<=3000)(hq:Gd q)(bQ:xb 50 q)(hf:3000000<=fu):
 ∃n:Nat,u7 fu a q=some (n:Int)/\n<=11/\Mu (cf q) (cf a) n:=by
 have hb:(yb q).length≠0:=fun e=>by
  obtain⟨j,hj⟩:=hq.ir.pm.nz;exact hj (ku e j)
 have tq:=jt hb;rw[hq.can]at tq;have hg:=hq.ln;have hl:1<=q.length-1:=by refine xad fun h=>hq.ir.dg ((JN.tp tq).2 (by omega))
 have fp:=fun n=>hq.ir.fs.pp n;have one: ∀(t:List Zr) (n:Nat),xb 60 t->t.length<=40->cf a=(cf t:Pz)*pp (cf q) n-> ∃q' e,wB fu t q=some (q',e)/\(e=0->xb 60 q'/\q'.length<=40/\cf a=(cf q':Pz)*pp (cf q) (n+1))/\(e≠0->Mu (cf q) (cf a) n):=fun t n o1 l1 e1=>by
  obtain⟨q',e,d1,d2,d3⟩:=WK (fu:=fu) o1 bQ (by have:=xar (50+1) (show t.length+1<=41 by omega);omega) (by omega) (by omega) hb hf;refine⟨q',e,d1,fun he=> ?_,fun he=>⟨cf t,Fs.cf t,e1,fun hz=>he (d2.2 hz)⟩⟩;obtain⟨f1,f2,f3⟩:=d3 he;have e2:cf a=(cf q':Pz)*pp (cf q) (n+1):=by
   rw[e1,f1,zb];show _=_*(pp (cf q) n*cf q);rw[zg (pp (cf q) n)]
  refine⟨?_,by omega,e2⟩;rw[<-f2];exact y7 fun j=>(gf ta (Fs.cf q') (fp _) e2 (by omega) bA j).bz (by omega)
 obtain⟨q1,x1,c1,c2,c3⟩:=one a 0 (ha.mono (by omega)) hc (zL _).symm;have deg: ∀{t:List Zr} {n:Nat},cf a=(cf t:Pz)*pp (cf q) n->n<=m:=fun{t n} e=>by
  obtain⟨nt,np⟩:=jV ta.nz e;obtain⟨i,hi⟩:=Tp.ex (Fs.cf t) nt;have hd: ∀n,Tp (pp (cf q) n) (n*(q.length-1)):=fun n=>by
   induction n with
   |zero=>rw[xcI];exact⟨show pc 1 0≠0 by decide,fun k hk=>by show pc 1 k=0;unfold pc;rw[zx]⟩
   |succ n ih=>rw[xaV,xcn];exact ih.mul tq
  have h1:=hi.mul (hd n);rw[<-e]at h1;have h2:=h1.uniq ta;have h3:=xcl n (show 0<q.length-1 by omega);omega
 obtain⟨s,hs,n,rfl,n1,n2⟩:=yq (f:=WM fu q) (fun s:Int×List Zr×Int=> ∃n:Nat,s.1=(n:Int)/\(s.2.2=0->xb 60 s.2.1/\s.2.1.length<=40/\cf a=(cf s.2.1:Pz)*pp (cf q) (n+1))/\(s.2.2≠0->n<=11/\Mu (cf q) (cf a) n)) (fun s=>if s.2.2=0 then 20-s.1.toNat else 0) (fun r=> ∃n:Nat,r=(n:Int)/\n<=11/\Mu (cf q) (cf a) n) (by
  rintro⟨i,t,e⟩ L ⟨n,hn,h1,h2⟩ ih;simp only at hn h1 h2 ih;subst hn;unfold WM;simp only;by_cases he:e=0
  ·obtain⟨o1,l1,e1⟩:=h1 he;have ho:=deg e1;obtain⟨q',e',d1,d2,d3⟩:=one t (n+1) o1 l1 e1;rw[iq he,zd,za d1];refine ih _ ⟨n+1,by show(n:Int)+1=((n+1:Nat):Int);omega,d2,fun h=>⟨by omega,d3 h⟩⟩ ?_;rw[iq he];split
   ·show 20-((n:Int)+1).toNat<20-(n:Int).toNat;omega
   ·show 0<20-(n:Int).toNat;omega
  ·rw[ir he];exact⟨_,rfl,n,rfl,h2 he⟩) fu (0,q1,x1) ⟨0,rfl,c2,fun h=>⟨by omega,c3 h⟩⟩ (by
  show(if x1=0 then 20-(0:Int).toNat else 0)<fu;split<;>omega)
 refine⟨n,?_,n1,n2⟩;unfold u7;rw[za c1];simp only;rw[za hs]
def Gm(R:List Zr):Prop:=R.length<2\/(¬L7 R/\ ∃p,kX R p)
theorem zeX(h:Rad a R):Zd (cf R) (cf a):=by
 obtain⟨g,fg,e⟩:=h.dv;rw[<-Wu a,e];exact(Zd.left fg).mul _ (Fs.pc _)
theorem aE(ha:xb K a)(hK:K<=40000)(hl:a.length<=1000000)(h0:dZ a≠0)(hf:3000000<=fu):yQ fu a ds=some ((false,[]),[],dZ a):=by
 unfold yQ;rw[za (bg ha hK hl h0 hf)];simp only;rw[ir h0]
theorem Vn(ha:xb K a)(hK:K<=50)(hl:a.length<=40)(h0:dZ a=0)(ht:(yb a).length<=11)(bA: ∀j,Bb B (cf a j))(hB:B<=3000)(hC:(B+7)*Ve ((yb a).length-1)<=639000)(hk:(B+7)*Ve ((yb a).length)<=2400000)(hd:Rl ds)(ho:ds.length<=1000)(hf:3000300<=fu):
 ∃R,wz fu a=some (R,0)/\Rad a R/\(∀j,Bb (B+(yb a).length+4) (cf R j))/\
  ((Gm R/\ ∃l,yQ fu a ds=some (yE (y8 a),l,0)/\FL (cf a) l/\l.length<=12/\ ∀x∈l,Gd x.1/\x.2<=11)\/
   (¬Gm R/\yQ fu a ds=some ((false,[]),[],6))):=by
 have hr:=dn h0;have ta:=jt (a:=a) (by omega);obtain⟨R,r1,r2,r3⟩:=cd (fu:=fu) ha (by omega) hl h0 bA (by omega) hC hk (by omega);have oR:xb 50 R:=by rw[<-r2.can];exact y7 fun j=>(r3 j).bz (by omega)
 obtain⟨l,b,s1,s2,s3⟩:=lj (fu:=fu) r2.can r2.pm r2.ps oR (by decide) (by have:=r2.ln;omega) hd ho hf;refine⟨R,r1,r2,r3,?_⟩
 cases b with
 |false=>
  refine .inr ⟨fun h=>(by have:=s2.2 h;cases this),?_⟩;unfold yQ;rw[za r1];simp only[if_true];rw[za s1];rfl
 |true=>
  obtain⟨g1,g2,g3,g4⟩:=s3 rfl;refine .inl ⟨s2.1 rfl,?_⟩;have he: ∀q∈l,Zd (cf q) (cf a):=fun q hq=>by
   refine Zd.trans ?_ (zeX r2);rw[g2];obtain⟨A,D,e6⟩:=xdP hq;rw[e6,xaO,xbR,xM];refine Zd.mul _ (Fs.prZ fun f hf=> ?_) (Zd.left (Fs.prZ fun f hf=> ?_))
   ·obtain⟨g,_,rfl⟩:=xai.1 hf;exact Fs.cf g
   ·obtain⟨g,_,rfl⟩:=xai.1 hf;exact Fs.cf g
  have hj: ∀q∈l,∃n:Nat,u7 fu a q=some (n:Int)/\n<=11/\Mu (cf q) (cf a) n:=fun q hq=>by
   have hG:=g1 q hq;refine iC ha hK ta (by omega) hl bA hB hG ?_ (by omega);obtain⟨u,fu',e⟩:=he q hq;rw[<-hG.can];exact y7 fun j=>(gf ta (Fs.cf q) fu' (by rw[e,zg]) (by omega) bA j).bz (by omega)
  obtain⟨s,hs,out,rfl,o1,o2⟩:=yq (f:=Z8 fu a l) (fun s:List (List Zr×Int)×Int×Zr×List (List Zr)=> ∃(i:Nat) (out:List (List Zr×Int)),s=(out,(i:Int),(false,[]),l)/\i<=l.length/\out.map (·.1)=l.take i/\ ∀x∈out,∃n:Nat,x.2=(n:Int)/\n<=11/\Mu (cf x.1) (cf a) n) (fun s=>l.length-s.2.1.toNat)
   (fun r=> ∃out:List (List Zr×Int),r=(out,(false,[]))/\out.map (·.1)=l/\ ∀x∈out,∃n:Nat,x.2=(n:Int)/\n<=11/\Mu (cf x.1) (cf a) n) (by
   rintro s L ⟨i,out,rfl,hi,h1,h2⟩ ih
   unfold Z8
   simp only
   by_cases hb:i<l.length
   ·have hm:l.getD i []∈l:=by
     rw[UV,IR hb];exact xbh hb
    obtain⟨n,n1,n2,n3⟩:=hj _ hm
    have hv:out.length=i:=by
     have:=congrArg xaG h1;rw[xaN,xay]at this;omega
    rw[zN,za rfl]
    simp only[if_true]
    rw[zp hb,zf,za n1,q9 (by simp only[xav,xcs];omega),zf,zd]
    refine ih _ ⟨i+1,_,rfl,by omega,?_,fun x hx=> ?_⟩ (by show l.length-((i:Int)+1).toNat<l.length-(i:Int).toNat;omega)
    ·rw[xaO,h1,xez,IR hb,UV,IR hb]
     rfl
    ·rcases Nm.1 hx with hx|hx
     ·exact h2 x hx
     ·obtain rfl:=xah.1 hx
      exact⟨n,rfl,n2,n3⟩
   ·rw[zx,za rfl]
    simp only[xak,if_false]
    obtain rfl:i=l.length:=by omega
    rw[xcK]at h1
    exact⟨_,rfl,out,rfl,h1,h2⟩) fu ([],0,(false,[]),l) ⟨0,[],rfl,xaj _,by rw[List.take_zero];rfl,fun x hx=>absurd hx xaa⟩ (by show l.length-(0:Int).toNat<fu;omega)
  have hc: ∀x∈out,x.1∈l:=fun x hx=>by rw[<-o1];exact xbI hx
  refine⟨out,?_,⟨fun x hx=> ?_,fun q hq pq hz=> ?_,?_⟩,?_,fun x hx=>⟨g1 _ (hc x hx),?_⟩⟩
  ·unfold yQ;rw[za r1];simp only[if_true];rw[za s1];simp only;rw[ir (by decide),za hs];simp only;rw[za (qQ ha (by omega) (by omega) (by omega))]
  ·have hG:=g1 _ (hc x hx);obtain⟨n,n1,n2,n3⟩:=o2 x hx;refine⟨hG.can,hG.ir,hG.ps,?_,by rw[n1,xaM];exact n3⟩;by_cases hn:n=0
   ·exfalso;subst hn;obtain⟨u,fu',e,hu⟩:=n3;rw[show pp (cf x.1) 0=pc 1 from rfl,zL]at e;rw[<-e]at hu;exact hu (he _ (hc x hx))
   ·omega
  ·have h1:=r2.al q hq hz;rw[g2]at h1;obtain⟨f,hp,h2⟩:=hq.prz (fun f hf=>by obtain⟨g,_,rfl⟩:=xai.1 hf;exact Fs.cf g) h1;obtain⟨g,hg,rfl⟩:=xai.1 hp;have e:=hq.eq (g1 g hg).ir pq (g1 g hg).ps h2;rw[<-o1]at hg;obtain⟨x,hx,rfl⟩:=xai.1 hg;exact⟨x,hx,e.symm⟩
  ·have:=g3;rw[<-o1]at this;exact xeb.1 this
  ·have:=congrArg xaG o1;rw[xaN]at this;omega
  ·obtain⟨n,n1,n2,n3⟩:=o2 x hx;omega
end
section
variable{R q:List Zr}{b:Nat}
theorem kX.dv{p:Int}(h:kX R p)(hR:yb R=R)(hq:yb q=q)(hz:Zd (cf q) (cf R)):kX q p:=by
 obtain⟨hp,ht,hc⟩:=h;obtain⟨w,fw,e⟩:=hz;have ha:R.length≠0:=fun h0=>ht (by rw[z6 (by omega),xag]);have tR:=jt (a:=R) (by rw[hR];exact ha);rw[hR]at tR;obtain⟨nw,nq⟩:=jV tR.nz e;have hd:q.length≠0:=fun h0=>by
  obtain⟨j,hj⟩:=nq;exact hj (z6 (by omega))
 have tq:=jt (a:=q) (by rw[hq];exact hd);rw[hq]at tq;obtain⟨b,hb⟩:=Tp.ex fw nw;have he:b+(q.length-1)=R.length-1:=by
  have:=hb.mul tq;rw[<-e]at this;exact this.uniq tR
 refine⟨hp,fun h0=>ht ?_,?_⟩
 ·rw[<-he,e,Xi hb.2 tq.2,xbo,h0,xas,xag]
 ·obtain⟨s,t,fs,ft,h1⟩:=hc;refine⟨s*w+t*dvp w,t*w,(fs.mul fw).add (ft.mul fw.dvp),ft.mul fw,Cg.trans (Cg.of ?_) h1⟩;rw[e,XR,xw,yj,zb,zb,zb];funext k;simp only[zK];omega
theorem Rad.self(hq:Gd q)(h:Rad q R):R=q:=by
 have hb:=ey hq.can hq.ir.pm hq.ps;have hP:x9 q=q:=Wc (uX q) hq.can fun k=>by rw[uc,hb,Int.ediv_one]
 obtain⟨g,fg,e⟩:=h.dv;rw[hP]at e;have hz:=h.al _ hq.ir (Zd.refl _);rcases hq.ir.ir _ _ (Fs.cf R) fg e with hc|hc
 ·exfalso;obtain⟨c,hc⟩:=hc.ex;have hp:=h.pm;rw[hc]at hz hp;refine hq.ir.one (Zd.pm (c:=c) hq.ir.fs hq.ir.pm ?_ ?_)
  ·rcases dc hp with e|e<;>omega
  ·rw[zL];exact hz
 ·obtain⟨c,rfl⟩:=hc.ex;have ha:=hq.ir.pm;rw[e,zg]at ha;have hd:=dc ha.left;rcases hd with e1|e1
  ·refine Wc h.can hq.can fun k=> ?_;rw[e,e1,zL]
  ·exfalso;obtain⟨n,n1,n2⟩:=h.ps.tp;obtain⟨m,m1,m2⟩:=hq.ps.tp;rw[e,zg,e1]at m1 m2;have h3:Tp (pc (-1)*(cf R:Pz)) n:=⟨by rw[zD];omega,fun k hk=>by rw[zD,n1.2 k hk,xas]⟩;obtain rfl:=h3.uniq m1;rw[zD]at m2;omega
theorem zay(hl:R.length<=11)(hb:b<=400)(bR: ∀j,Bb b (cf R j)): ¬L7 R:=fun⟨Y,⟨r,hY,h1,_⟩,h3⟩=>by
 obtain⟨E,hE⟩: ∃E,E=1000:=⟨_,rfl⟩;have h4: ∀k,cf R k*cf R k<=(2^b:Int)*2^b:=fun k=>by
  have:=bR k;unfold Bb at this;have h3:(cf R k*cf R k)=(((cf R k).natAbs*(cf R k).natAbs:Nat):Int):=by
   rw[<-xcb];have:=jk (cf R k);omega
  rw[h3];have h4:=xbE (xcO this) (xcO this);have h5:((2:Int)^b*2^b)=((2^b*2^b:Nat):Int):=by simp
  omega
 have h5:=Iq h4 R.length;have h6:r<4*2^b:=by
  refine RI ?_;have e1:((r*r:Nat):Int)=(r:Int)*r:=by simp
  have e2:((2:Int)^b*2^b)=((2^b*2^b:Nat):Int):=by simp
  have e3:4*2^b*(4*2^b)=16*(2^b*2^b):=by grind
  rw[e3];rw[e2]at h5;generalize 2^b*2^b=Q at*
  have h7:(R.length:Int)*(Q:Int)<=11*(Q:Int):=xby (by omega) (by omega);omega
 have h7:(2*((Y:Int)*cf R (R.length-1))).natAbs<2^E:=by
  rw[xcb,xcb,xbb,hY];have t:=bR (R.length-1);unfold Bb at t;have h8:(r+1)*2^(R.length-1)<=4*2^b*2^10:=xbE (by omega) (xaK (by decide) (by omega));have h9:=xbE h8 (xcO t);have ha:=xaA 2 h9;refine xbd ha ?_;have e:2*(4*2^b*2^10*2^b)=2^(b+b+13):=by
   rw[xbW,xbW,show(2:Nat)^13=2*4*2^10 by decide];generalize(2:Nat)^b=Q;generalize(2:Nat)^10=T;grind
  rw[e];exact xeF (by decide) (by omega)
 have:=Vh h7;omega
theorem Gm.dv{R q:List Zr}{b:Nat}(h:Gm R)(hR:yb R=R)(nR:Nz (cf R))(hq:Gd q)(hz:Zd (cf q) (cf R))(hb:b<=400)(bq: ∀j,Bb b (cf q j)):Gm q:=by
 refine .inr ⟨zay hq.ln hb bq,?_⟩;rcases h with h|⟨_,p,hp⟩
 ·exfalso;obtain⟨w,fw,e⟩:=hz;have hc:JN (cf R):=fun k hk=>z6 (by omega);obtain⟨nw,nq⟩:=jV nR e;obtain⟨a,ha⟩:=Tp.ex fw nw;obtain⟨d,hd⟩:=Tp.ex hq.ir.fs nq;have h1:=ha.mul hd;rw[<-e]at h1;have h2:=(JN.tp h1).1 hc;exact hq.ir.dg ((JN.tp hd).2 (by omega))
 ·exact⟨p,hp.dv hR hq.can hz⟩
theorem FL.one(hq:Gd q):FL (cf q) [(q,1)]:=⟨fun x hx=>by
 obtain rfl:=xah.1 hx;refine⟨hq.can,hq.ir,hq.ps,xeS 1,?_⟩;have:=Mu.self hq.ir 1;show Mu (cf q) (cf q) 1;have e:pp (cf q:Pz) 1=cf q:=zt _;rwa[e]at this,fun r hr pr hz=>⟨(q,1),xah.2 rfl,(hr.eq hq.ir pr hq.ps hz).symm⟩,List.pairwise_singleton _ _⟩
theorem zeC:Rl []:=fun k=>by
 rw[zQ (xaj k)];exact⟨by omega,by omega⟩
theorem JL{fu:Nat}(hq:Gd q)(hF:Gm q)(hb:b<=400)(bq: ∀j,Bb b (cf q j))(hC:(b+7)*3363<=639000)(hf:3000300<=fu):vh fu q=some (true,0):=by
 have ha:b+7<=190:=xad fun hn=>by
  have:=xar 3363 (show 191<=b+7 by omega);omega
 have hc:(b+7)*8119<=2400000:=xao (xar 8119 ha) (by decide);have hg:q.length≠0:=fun e=>by
  obtain⟨j,hj⟩:=hq.ir.pm.nz;exact hj (z6 (by omega))
 have hd:=hq.ln;have h0:dZ q=0:=by unfold dZ;rw[hq.can,zx,zx]
 have oq:xb 50 q:=by rw[<-hq.can];exact y7 fun j=>(bq j).bz (by omega)
 have p1:Ve ((yb q).length-1)<=3363:=by
  rw[hq.can];have:=Zb (i:=q.length-1) (10-(q.length-1));rw[show q.length-1+(10-(q.length-1))=10 by omega]at this;exact this
 have p2:Ve ((yb q).length)<=8119:=by
  rw[hq.can];have:=Zb (i:=q.length) (11-q.length);rw[show q.length+(11-q.length)=11 by omega]at this;exact this
 obtain⟨R,r1,r2,r3,h⟩:=Vn (fu:=fu) (ds:=[]) oq (by decide) (by omega) h0 (by rw[hq.can];exact hd) bq (by omega) (xao (xaA _ p1) hC) (xao (xaA _ p2) hc) zeC (xaj _) hf;have he:=Rad.self hq r2;subst he;rcases h with⟨_,l,e,hl,_⟩|⟨hn,_⟩
 ·have:=hl.uniq (FL.one hq);subst this;unfold vh;rw[za e];rfl
 ·exact absurd hF hn
end
section
variable{f:Pz}{l:List (List Zr×Int)}
def QH(l:List (List Zr×Int)):Pz:=prM (l.map fun x=>((cf x.1:Pz),x.2.toNat))
theorem FL.prod(h:FL f l)(ff:Fs f)(nf:Nz f): ∃c,c≠0/\f=pc c*QH l:=by
 refine zbz ff nf ?_ (fun x hx=> ?_) fun q hq pq hz=> ?_
 ·refine xeb.2 (h.so.imp_of_mem fun{x y} hx hy h1 e=> ?_);have:=Wc (h.el x hx).1 (h.el y hy).1 fun k=>congrFun e k;rw[this]at h1;have:=uR y.1 y.1;omega
 ·obtain⟨y,hy,rfl⟩:=xai.1 hx;obtain⟨_,g2,g3,_,g5⟩:=h.el y hy;exact⟨g2,g3,g5⟩
 ·obtain⟨y,hy,e⟩:=h.al q hq pq hz;exact⟨_,xbI hy,e⟩
theorem FL.pr(h:FL f l):Pm (QH l)/\Po (QH l):=by
 refine⟨P7 fun x hx=> ?_,za1 fun x hx=> ?_⟩
 ·obtain⟨y,hy,rfl⟩:=xai.1 hx;exact(h.el y hy).2.1.pm
 ·obtain⟨y,hy,rfl⟩:=xai.1 hx;exact(h.el y hy).2.2.1
theorem zbH{a:List Zr}{c:Int}{g:Pz}(h:(yb a).length≠0)(pm:Pm g)(ps:Po g)(e:(cf a:Pz)=pc c*g):c=y8 a/\g=cf (x9 a):=by
 obtain⟨h1,h2⟩:=WG h;have hm:=Wu a;have ha:=Kv h;obtain⟨n,n1,n2⟩:=ps.tp;obtain⟨m,m1,m2⟩:=h2.tp;have hc:c≠0:=fun e0=>by
  have ta:=(jt h).1;rw[e,zD,e0,xaQ]at ta;exact ta rfl
 have z1:Zd g (cf (x9 a)):=Zd.pm (c:=y8 a) n1.fs pm ha ⟨pc c,Fs.pc c,by rw[hm,e]⟩;obtain⟨w,fw,ew⟩:=z1;have t1:Tp (pc c*g) n:=⟨by rw[zD];exact xdt hc n1.1,fun k hk=>by rw[zD,n1.2 k hk,xas]⟩;have t2:Tp (pc (y8 a)*(cf (x9 a):Pz)) m:=⟨by rw[zD];exact xdt ha m1.1,fun k hk=>by rw[zD,m1.2 k hk,xas]⟩;rw[hm]at t2;rw[<-e]at t1;have hb:=t1.uniq t2;subst hb;obtain⟨nw,_⟩:=jV h1.nz ew;obtain⟨d,hd⟩:=Tp.ex fw nw;have h3:=hd.mul n1;rw[<-ew]at h3;have h3:=h3.uniq m1;obtain⟨x,rfl⟩:=((JN.tp hd).2 (by omega)).ex;have h4:Pm (pc x):=(show Pm (pc x*g)by rw[<-ew];exact h1).left;have h5:g=cf (x9 a):=by
  rcases dc h4 with e1|e1
  ·rw[ew,e1,zt]
  ·rw[ew,zD,e1]at m2;omega
 refine⟨?_,h5⟩;have h6:pc c*g=pc (y8 a)*g:=by rw[<-e,h5,hm]
 have h7:=congrFun h6 n;rw[zD,zD]at h7;exact Int.eq_of_mul_eq_mul_right n1.1 h7
end
theorem eJ{fu c k:Nat}{a:List Zr}(hc:c<=1000)(hf:3000000<=fu):kT fu (c:Int) (k:Int) a=some (decide (eH c k a)):=by
 unfold kT;by_cases h0:c<a.length
 ·rw[zN,decide_eq_false fun e=>by have:=e.1;omega]
 ·rw[zx,za (v:=if∀z∈a,z.2.length<=k then .inl ()else .inr ())]
  ·by_cases h: ∀z∈a,z.2.length<=k
   ·rw[iq h,decide_eq_true (show eH c k a from⟨by omega,h⟩)]
   ·rw[ir h,decide_eq_false fun e:eH c k a=>h e.2]
  ·refine zE (fun s:Int=> ∃j:Nat,s=(j:Int)/\j<=a.length/\ ∀t,t<j->(a.getD t (false,[])).2.length<=k) (fun s=>a.length-s.toNat) _ ?_ _ _ ⟨0,rfl,xaj _,fun t h=>absurd h (xbv _)⟩ (by show a.length-0<fu;omega);rintro s L ⟨j,rfl,hj,he⟩ ih;unfold Jw;by_cases h1:j<a.length
   ·rw[zN,zp h1,zf];by_cases h2:k<(a.getD j (false,[])).2.length
    ·rw[zN,ir (fun e=>by have:=e _ (Ox h1);omega)]
    ·rw[zx,zd];refine ih _ ⟨j+1,rfl,by omega,fun t h=> ?_⟩ (by omega);by_cases h3:t=j
     ·rw[h3];omega
     ·exact he t (by omega)
   ·rw[zx,iq (zaD fun t h=>he t (by omega))]
theorem Af{l:List (List Zr×Int)}{i:Nat}(h:i<l.length):l.getD i ([],0)∈l:=by
 rw[UV,IR h];exact xbh h
section
variable{l:List (List Zr×Int)}{B i:Nat}{a t:List Zr}
theorem zho{l:List Int}(h:(Ty.l .i).ok l):Rl l:=fun k=>by
 unfold ci;rw[UV];by_cases hk:k<l.length
 ·rw[IR hk];exact h.2 _ (xbh hk)
 ·rw[xaJ (by omega)];exact⟨by decide,by decide⟩
theorem zfh{fu m:Nat}{ds:List Int}(ha:xb m a)(hm:m<=50)(hl:a.length<=40)(hn:(yb a).length<=11)(bA: ∀j,Bb B (cf a j))(hB:B<=180)(hd:Rl ds)(hb:ds.length<=1000)(hf:3000300<=fu):
 (dZ a≠0/\yQ fu a ds=some ((false,[]),[],dZ a))\/
 (dZ a=0/\ ∃R,wz fu a=some (R,0)/\Rad a R/\(∀j,Bb (B+(yb a).length+4) (cf R j))/\
  ((Gm R/\ ∃l,yQ fu a ds=some (yE (y8 a),l,0)/\FL (cf a) l/\l.length<=12/\ ∀x∈l,Gd x.1/\x.2<=11)\/
   (¬Gm R/\yQ fu a ds=some ((false,[]),[],6)))):=by
 by_cases h0:dZ a=0
 ·refine .inr ⟨h0,?_⟩;have p1:=Zb (i:=(yb a).length-1) (10-((yb a).length-1));have p2:=Zb (i:=(yb a).length) (11-(yb a).length);rw[show(yb a).length-1+(10-((yb a).length-1))=10 by omega]at p1;rw[show(yb a).length+(11-(yb a).length)=11 by omega]at p2;have q1:Ve 10=3363:=by decide
  have q2:Ve 11=8119:=by decide
  have r1:=xbE (show B+7<=187 by omega) (show Ve ((yb a).length-1)<=3363 by omega);have r2:=xbE (show B+7<=187 by omega) (show Ve ((yb a).length)<=8119 by omega);exact Vn ha hm hl h0 hn bA (by omega) (by omega) (by omega) hd hb hf
 ·exact .inl ⟨h0,aE ha (by omega) (by omega) h0 (by omega)⟩
theorem Rad.tp{R:List Zr}(h:Rad a R):Tp (cf R) (R.length-1)/\R.length≠0:=by
 have h0:(yb R).length≠0:=fun e=>by
  obtain⟨j,hj⟩:=h.pm.nz;exact hj (ku e j)
 have:=jt h0;rw[h.can]at this h0;exact⟨this,h0⟩
theorem mN(l m:List (List Zr×Int)):QH (l++m)=QH l*QH m:=by
 induction l with
 |nil=>exact(zt _).symm
 |cons x l ih=>
  show pp (cf x.1) x.2.toNat*QH (l++m)=pp (cf x.1) x.2.toNat*QH l*QH m;rw[ih,zb]
theorem zft:Fs (QH l):=oH fun x hx=>by
 obtain⟨y,_,rfl⟩:=xai.1 hx;exact Fs.cf _
theorem IC(h:i<l.length):l.take (i+1)=l.take i++[l.getD i ([],0)]:=by
 rw[xez,IR h,UV,IR h];rfl
theorem DG(h:i<l.length):QH (l.take (i+1))=QH (l.take i)*pp (cf (l.getD i ([],0)).1) (l.getD i ([],0)).2.toNat:=by
 rw[IC h,mN];show _*(pp _ _*pc 1)=_;rw[zL]
theorem zda(l:List (List Zr×Int))(i:Nat):QH l=QH (l.take i)*QH (l.drop i):=by
 rw[<-mN,xbK]
theorem zf3{d:Nat}(h:yb t=t)(ht:Tp (cf t) d):t.length=d+1:=by
 have h0:(yb t).length≠0:=fun e=>ht.1 (ku e d);have h1:=(jt h0).uniq ht;rw[h]at h0 h1;omega
theorem zhM{r:Pz}{n K:Nat}(ta:Tp (cf a) n)(hn:n<=40)(bA: ∀j,Bb B (cf a j))(fr:Fs r)(ct:yb t=t)(e:(cf a:Pz)=cf t*r)(hK:B+n+4<=64*K):xb K t/\t.length<=n+1/\t.length≠0:=by
 obtain⟨nt,nr⟩:=jV ta.nz e;obtain⟨d,hd⟩:=Tp.ex (Fs.cf t) nt;obtain⟨b,hb⟩:=Tp.ex fr nr;have h1:=hd.mul hb;rw[<-e]at h1;have h2:=h1.uniq ta;have h3:=zf3 ct hd;refine⟨?_,by omega,by omega⟩;rw[<-ct];exact y7 fun j=>(gf ta (Fs.cf t) fr e hn bA j).bz hK
end
section
set_option maxRecDepth 100000
theorem FJ:VV 4000000=some true:=by decide+kernel
end
theorem dH{fu k:Nat}{a b:List Zr}(ha:xb k a)(hk:k<=1000000)(hb:a.length<=1000000)(hf:3000000<=fu)(h:a=b):Zk fu a b=some true:=by
 unfold Zk;rw[za (ie ha hk hb hf),decide_eq_true h]
theorem Fh(fu:Nat)(i:Int)(l:List (List Zr×Int))(q:List Zr):ZQ fu i l q=xZ fu i l q:=rfl
theorem rK{fu i:Nat}{l:List (List Zr×Int)}{a0 q out:List Zr}{c:Bool}{n:Nat}(hi:i<l.length)(hn:(l.getD i ([],0)).2=(n:Int))(ha:n<=11)(hq:Gd q)(co:yb out=out)
 (hB: ∀(t:List Zr) (k:Nat),k<=n->yb t=t->(cf t:Pz)=cf out*pp (cf q) k->xb 3 t/\t.length<=11) (hf:3000000<=fu):
 ∃out',zj (xZ fu (i:Int) l q) fu (a0,c,out,0)=some (a0,c,out')/\yb out'=out'/\(cf out':Pz)=cf out*pp (cf q) n:=by
 have hb:=hq.ln
 obtain⟨r,hr,out',rfl,h1,h2⟩:=yq (f:=xZ fu (i:Int) l q) (fun s:List Zr×Bool×List Zr×Int=> ∃(k:Nat) (t:List Zr),s=(a0,c,t,(k:Int))/\k<=n/\yb t=t/\(cf t:Pz)=cf out*pp (cf q) k) (fun s=>n-s.2.2.2.toNat)
  (fun r=> ∃out',r=(a0,c,out')/\yb out'=out'/\(cf out':Pz)=cf out*pp (cf q) n) (by
  rintro s L ⟨k,t,rfl,hk,h1,h2⟩ ih
  unfold xZ
  simp only
  rw[zp hi,zf,hn]
  by_cases hc:k<n
  ·obtain⟨o1,o2⟩:=hB t k hk h1 h2
   rw[zN,za (xh o1 hq.ok (by omega) (by omega) hf),zd]
   refine ih _ ⟨k+1,_,rfl,by omega,(YH _ _).symm,?_⟩ (by show n-((k:Int)+1).toNat<n-(k:Int).toNat;omega)
   rw[qv,h2,zb]
   rfl
  ·rw[zx]
   obtain rfl:k=n:=by omega
   exact⟨_,rfl,t,rfl,h1,h2⟩) fu (a0,c,out,0) ⟨0,out,rfl,xaj _,co,(zL _).symm⟩ (by show n-(0:Int).toNat<fu;omega)
 exact⟨out',hr,h1,h2⟩
theorem BH(a:List Zr)(x:List Int)(ha:(Ty.l (.p .b (.l .u))).ok a)(hx:(Ty.l .i).ok x):qo 4000000 a x=some true:=by
 obtain⟨fu,hD⟩: ∃fu,fu=4000000:=⟨_,rfl⟩;have hv:=FJ;rw[<-hD]at hv⊢;have hf:3000300<=fu:=by omega
 unfold qo;have hE:kT fu 11 2 a=some (decide (eH 11 2 a)):=eJ (c:=11) (k:=2) (by decide) (by omega);rw[za hv,za hE];by_cases hs:eH 11 2 a
 ·rw[decide_eq_true hs,ir (by decide)];by_cases hL:20<x.length
  ·rw[zN]
  ·rw[zx];have pa:=zc9 ha hs.2;have la:=hs.1;have na:=Vr a;have bA: ∀j,Bb 128 (cf a j):=fun j=>(pa.bz j).bb;have hl:zF fu a=some (yb a):=zz pa (by decide) (by omega) (by omega);rcases zfh pa (by decide) (by omega) (by omega) bA (by decide) (zho hx) (by omega) hf with⟨h0,e1⟩|⟨h0,R,r1,r2,r3,h1⟩
   ·have hw:dZ a=8/\(yb a).length=0:=by
     unfold dZ at h0⊢;by_cases h:(yb a).length=0
     ·rw[iq h];exact⟨rfl,h⟩
     ·rw[ir h,zx]at h0;exact absurd rfl h0
    rw[za e1];simp only;rw[ir h0,iq trivial,hw.1,ir (by decide),iq rfl,za hl,zN]
   ·have hM:=dn h0;have ta:=jt (a:=a) (by omega);rcases h1 with⟨hF,l,e1,f1,l1,d1⟩|⟨hF,e1⟩
    ·rw[za e1];simp only;rw[iq trivial];have hH:=Kv (a:=a) (by omega);obtain⟨c0,hc,he⟩:=f1.prod ta.fs ta.nz;obtain⟨q1,q2⟩:=f1.pr;obtain⟨rfl,_⟩:=zbH (a:=a) (by omega) q1 q2 he;obtain⟨tR,lR⟩:=r2.tp;have hy:yb [yE (y8 a)]=[yE (y8 a)]:=by
      show qe 1 (cf [yE (y8 a)])=_;have e:cf [yE (y8 a)] 0=y8 a:=zu _;have hd:dg (cf [yE (y8 a)]) 1=1:=Kf (by rw[e];exact hH);unfold qe;rw[hd];show[yE (cf [yE (y8 a)] 0)]=_;rw[e]
     have hz:(cf [yE (y8 a)]:Pz)=pc (y8 a):=funext fun k=>by
      unfold pc
      cases k with
      |zero=>exact zu _
      |succ k=>exact z6 (p:=[yE (y8 a)]) (by simp)
     obtain⟨s,hI,out,rfl,o1,o2⟩:=yq (f:=jm fu a true) (fun s:List Zr×Int×List (List Zr×Int)=> ∃(i:Nat) (t:List Zr),s=(t,(i:Int),l)/\i<=l.length/\yb t=t/\(cf t:Pz)=pc (y8 a)*QH (l.take i)) (fun s=>l.length-s.2.1.toNat)
      (fun r=> ∃t:List Zr,r= .inl t/\yb t=t/\(cf t:Pz)=pc (y8 a)*QH l) (by
      rintro s L ⟨i,t,rfl,hi,h1,h2⟩ ih
      unfold jm
      simp only
      by_cases hb:i<l.length
      ·have hm:=Af hb
       obtain⟨hG,hN⟩:=d1 _ hm
       obtain⟨g1,g2,g3,g4,g5⟩:=f1.el _ hm
       obtain⟨q,ho⟩: ∃q,q=(l.getD i ([],0)).1:=⟨_,rfl⟩
       obtain⟨n,hp⟩: ∃n:Nat,(l.getD i ([],0)).2=(n:Int):=⟨(l.getD i ([],0)).2.toNat,by omega⟩
       rw[<-ho]at hG g1 g2 g3 g5
       have hA:Zd (cf q) (cf a):=g5.dvd g2.fs (by omega)
       obtain⟨w,fw,ew⟩:=id hA
       have bq: ∀j,Bb 144 (cf q j):=fun j=>(gf ta (Fs.cf q) fw (by rw[ew,zg]) (by omega) bA j).mono (by omega)
       have hC:=JL (fu:=fu) (b:=144) hG (hF.dv r2.can r2.pm.nz hG (r2.al _ g2 hA) (by decide) bq) (by decide) bq (by decide) hf
       have hO:=hG.ln
       have hP:2<=q.length:=by
        have h0:(yb q).length≠0:=fun e=>by
         obtain⟨j,hj⟩:=g2.pm.nz;exact hj (ku e j)
        have tq:=jt h0;rw[g1]at tq h0;exact xad fun hn=>g2.dg ((JN.tp tq).2 (by omega))
       have ht:x9 q=q:=Wc (uX q) g1 fun k=>by rw[uc,ey g1 g2.pm g3,Int.ediv_one]
       have hB: ∀(t':List Zr) (k:Nat),k<=n->yb t'=t'->(cf t':Pz)=cf t*pp (cf q) k->xb 3 t'/\t'.length<=11:=fun t' k hk c1 c2=>by
        have e2:(cf a:Pz)=cf t'*(pp (cf q) (n-k)*QH (l.drop (i+1))):=by
         rw[he,zda l (i+1),DG hb,<-ho,hp,xaM,c2,h2,show pp (cf q:Pz) n=pp (cf q) k*pp (cf q) (n-k)by rw[<-fF];congr 1;omega];simp only[zb]
        obtain⟨o1,o2,_⟩:=zhM (K:=3) ta (by omega) bA ((g2.fs.pp _).mul zft) c1 e2 (by omega);exact⟨o1,by omega⟩
       obtain⟨out',p1,p2,p3⟩:=rK (fu:=fu) (a0:=a) (c:=true) hb hp (by omega) hG h1 hB (by omega)
       have hq:(cf out':Pz)=pc (y8 a)*QH (l.take (i+1)):=by rw[p3,h2,DG hb,<-ho,hp,xaM,zb]
       rw[zN,zp hb,zf,<-ho,za hC]
       simp only
       rw[iq trivial,ir (by decide),zx,za (wK hG.ok (by decide) (by omega) (by omega)),ht,za (dH hG.ok (by decide) (by omega) (by omega) rfl),ir (by decide),zp hb,zf,hp,zx,zp hb,zf,hp,zx]
       by_cases hQ:0<i
       ·have hg:i-1<l.length:=by omega
        have hJ:=Af hg
        obtain⟨hu,_⟩:=d1 _ hJ
        have hR:=hu.ln
        have hK:Xp (l.getD (i-1) ([],0)).1 q<0:=by
         have:=xcp.1 f1.so (i-1) i hg hb (by omega);rw[ho,UV,IR hg,UV,IR hb];exact this
        rw[zN,show(i:Int)-1=((i-1:Nat):Int)by omega,zd,zp hg,zf,za (Xu hu.ok hG.ok hu.can hG.can (by decide) (by omega) (by omega) (by omega)),decide_eq_true hK,ir (by decide),za p1]
        simp only
        rw[zd]
        exact ih _ ⟨i+1,out',rfl,by omega,p2,hq⟩ (by show l.length-((i:Int)+1).toNat<l.length-(i:Int).toNat;omega)
       ·rw[zx,Fh,za p1]
        simp only
        rw[zd]
        exact ih _ ⟨i+1,out',rfl,by omega,p2,hq⟩ (by show l.length-((i:Int)+1).toNat<l.length-(i:Int).toNat;omega)
      ·rw[zx]
       obtain rfl:i=l.length:=by omega
       rw[xcK]at h2
       exact⟨_,rfl,t,rfl,h1,h2⟩) fu ([yE (y8 a)],0,l) ⟨0,_,rfl,xaj _,hy,by rw[hz];exact(zL _).symm⟩ (by show l.length-(0:Int).toNat<fu;omega)
     rw[za hI];simp only;have hr:out=yb a:=Wc o1 (zcI a) fun k=>by rw[kQ];exact congrFun (o2.trans he.symm) k
     rw[iq trivial,za hl,za (dH (k:=2) (by rw[hr];exact eZ pa) (by decide) (by rw[hr];omega) (by omega) hr)]
    ·rw[za e1];simp only;rw[ir (by decide),iq trivial,iq trivial]
 ·rw[decide_eq_false hs,iq (by decide)]
section
namespace zfacProduct
open Go.ChangeShapes Go.WideShapes Go.ChangeAt Go.RowKit
theorem own:ownKnob Tryz.prog.godebug=none:=by kernel_rfl
theorem atW:YZ Tryz.prog .u 54:=id (by kernel_rfl:Tryz.prog.underlying 54=some (.int .u64))
theorem atB:YZ Tryz.prog .b 4:=id (by kernel_rfl:Tryz.prog.underlying 4=some .bool)
theorem atL:YZ Tryz.prog (.l .u) 28:=YZ.sl (E:=54) (by kernel_rfl) (by kernel_rfl) (by decide) atW
theorem atZ:YZ Tryz.prog (.p .b (.l .u)) 30:=YZ.st (A:=4) (B:=28) (by kernel_rfl) (by kernel_rfl) (by kernel_rfl) (by kernel_rfl) atB atL
theorem atP:YZ Tryz.prog (.l (.p .b (.l .u))) 22:=YZ.sl (E:=30) (by kernel_rfl) (by kernel_rfl) (by decide) atZ
theorem OV:YZ Tryz.prog .i 3:=id (by kernel_rfl:Tryz.prog.underlying 3=some (.int .i64))
theorem zjc:YZ Tryz.prog (.l .i) 23:=YZ.sl (E:=3) (by kernel_rfl) (by kernel_rfl) (by decide) OV
def sgO(M:Kc [.d (.l (.p .b (.l .u))),.d (.l .i)]->Option Bool):Vb:=⟨4,[.d (.l (.p .b (.l .u))),.d (.l .i)],[.d .b],M,0⟩
set_option maxRecDepth 100000 in
theorem lifted{M:Kc [.d (.l (.p .b (.l .u))),.d (.l .i)]->Option Bool}(hs:y5 Tryz.prog (sgO M))(hz: ∀x,R5 [.d (.l (.p .b (.l .u))),.d (.l .i)] x->M x=some true)(os:Os)(started:os.Started)(H:Type)(enc:TypeId×Value->H):
 ReturnsInHanded {} Tryz.checked os 4 .any (Rows.zfacProductSpec.pre6 enc Tryz.prog Tryz.f4 Rows.zfacProductRow.domain false) (Rows.zfacProductSpec.post enc Tryz.prog Tryz.f4 false true false false):=by
 refine returnsInHanded_of_change (C:=Tryz.checked) own started (by kernel_rfl) Tryz.func4
  (ChangeSpec.witness6 (enc:=enc) (C:=Tryz.checked) false ⟨#[],#[.slice none 0 0,.slice none 0 0],[]⟩ 8 (by kernel_rfl) (by kernel_rfl) (by kernel_rfl) (by kernel_rfl)) ?_
 intro W base args ds gs before ha hW hf _;have hb: ∀(j:Nat) t v,Tryz.f4.params[j]? =some t->args[j]? =some v->xec Tryz.prog W .any base t v:=ha;have hc:=hW;obtain⟨p,q,hd,hV,_,_,_⟩:=hW;have hA:xey enc Tryz.prog W 0 (fun _=>true) true Tryz.f4.params.toList args.toList ds p:=hd;rw[Tryz.params4]at hA;obtain⟨v0,vs0,d0,ds0,p0,q0,he,rfl,_,_,r0⟩:=trodAll_cons hA;obtain⟨v1,vs1,d1,ds1,p1,q1,_,rfl,_,_,r1⟩:=trodAll_cons r0;obtain⟨_,rfl,_⟩:=trodAll_nil r1;obtain⟨rfl,_⟩:=trodVars_none hV
 exact zcs (sg:=sgO M) hc rfl hb (by kernel_rfl) (by rw[Tryz.params4];decide+kernel) (by rw[Tryz.params4];exact⟨atP,zjc,trivial⟩) rfl hs
  (fun x hx=>hz x hx) (B:=4) (by kernel_rfl) Tryz.underlying4 rfl
set_option maxRecDepth 100000 in
theorem fnm:Tryz.pinned.checked.prog.funcNamed Rows.zfacProductRow.func=some 4:=by kernel_rfl
set_option maxRecDepth 100000 in
set_option maxHeartbeats 4000000 in
theorem jf:joinedFacts Tryz.pinned.checked.prog 4 Tryz.f4 Rows.zfacProductSpec Rows.zfacProductRow=true:=by
 unfold joinedFacts;simp only[xam];repeat' apply xfs
 all_goals (as_aux_lemma=>kernel_rfl)
theorem over:Rows.zfacProductRow.holds Tryz.pinned (OpenSpec.ofChange Rows.zfacProductSpec):=
 OpenClaim.holds_of_wide 4 Tryz.f4 rfl rfl rfl rfl rfl rfl rfl ⟨rfl,rfl,rfl,rfl,rfl⟩ rfl rfl rfl rfl rfl fnm Tryz.func4 jf
  (of_decide_eq_true (by kernel_rfl)) (by unfold Func.isWrapper;first|(rw[iq (by decide+kernel)];kernel_rfl)|(rw[ir (by decide+kernel)];exact⟨rfl,rfl⟩))
  (fun os started H enc _=>lifted (M:=fun x=>qo 4000000 x.1 x.2.1) (UE 4000000) (fun x hx=>BH x.1 x.2.1 hx.1 hx.2.1) os started H enc)
theorem proved:Rows.ZfacProductSaid:=
 over
end zfacProduct
end
end Go.Proofs.YtmggkmchbdanfaaGreat
