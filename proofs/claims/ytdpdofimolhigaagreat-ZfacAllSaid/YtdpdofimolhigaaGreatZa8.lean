/- The factors of any polynomial of which all can be tried: those of the document, for every input. No condition. -/
import Derived.Test.YtdpdofimolhigaaGreatZa7
set_option linter.all false
namespace Go.Proofs.YtdpdofimolhigaaGreat
open Bool renaming true->I,false->yL
open Go renaming Value->xn,TypeId->wn
open Go.Proofs.YtdpdofimolhigaaGreat renaming cf->M,Zr->G,bd->Y,za->U,ci->C,nm->B,cC->D,pc->F,ze->Q,zf->E,Pz->A,iq->S
open List renaming length->X,length->Wl
open Option renaming some->Z,none->yD
open _root_ renaming rfl->O,List->N,Int->J,Nat->K,Option->V,List->zC,Int->zI,Nat->zV,Option->z7,trivial->xS,absurd->wl,Bool->ws,funext->wu,congrArg->wF,if_true->wN,if_false->wP,decide_eq_false->wS,decide_eq_true->wU,True->vF,congrFun->vN,of_decide_eq_true->vR,or_false->uS,if_pos->Zc
open And renaming intro->xfn
open Bool renaming and_eq_true->Th,false_eq_true->xaj,not_false->xfk,not_true->xdG
open Classical renaming byContradiction->xac
open DataW renaming TrodAll->xeD
open Int renaming add_comm->xfG,add_zero->xby,dvd_mul_left->xcB,dvd_of_emod_eq_zero->xaA,ediv_mul_cancel->xeL,emod_emod->xay,emod_eq_of_lt->xax,emod_eq_zero_of_dvd->xaq,eq_ofNat_of_zero_le->xat,le_of_lt->xds,le_refl->xfh,mul_add->xfg,mul_assoc->xcv,mul_comm->xaX,mul_eq_zero->xeB,mul_le_mul_of_nonneg_left->xaN,mul_le_mul_of_nonneg_right->xbg,mul_ne_zero->xeh,mul_nonneg->xcD,mul_one->xci,mul_zero->xaw,natAbs_ediv_le_natAbs->xbX,natAbs_mul->xcK,natAbs_natCast->xaW,natCast_dvd_natCast->xde,natCast_mul->xda,one_mul->xcr,pow_succ->xbo,pow_zero->xbD,sub_zero->xcy,tdiv->xbQ,tdiv_eq_ediv_of_nonneg->xcN,tmod->xbn,toNat_natCast->xaJ,zero_add->xco,zero_ediv->xdX,zero_emod->xae,zero_mul->xaK,zero_sub->xfH
open List renaming append_assoc->xal,append_of_mem->xdY,drop_eq_getElem_cons->xbK,drop_eq_nil_of_le->xbS,ext_getElem->xeG,getD_eq_getElem?_getD->Yh,getElem?_append_left->xbb,getElem?_append_right->xbv,getElem?_drop->xeP,getElem?_eq_getElem->xaa,getElem?_eq_none->xbB,getElem?_map->xbZ,getElem?_range->xen,getElem?_replicate->xeQ,getElem?_set_self->xdQ,getElem?_take->xcx,getElem_mem->xbx,getElem_of_mem->xcz,length->xaD,length_append->xak,length_cons->xar,length_drop->xca,length_eq_zero_iff->xbs,length_filter_le->xfs,length_map->xaV,length_nil->xbA,length_replicate->xaR,length_set->xbz,length_singleton->xeC,length_take->xap,map_append->xaU,map_congr_left->xce,map_cons->xch,map_map->xcP,mem_append->pN,mem_append_left->xcF,mem_cons->PQ,mem_cons_of_mem->kE,mem_cons_self->Qh,mem_iff_getElem->xdF,mem_map->xan,mem_map_of_mem->xbH,mem_or_eq_of_mem_set->xeb,mem_range->xaZ,mem_replicate->xeY,mem_singleton->xab,nil_append->xbF,not_mem_nil->QT,pairwise_cons->xbR,pairwise_iff_forall_sublist->xdh,pairwise_iff_getElem->xcR,pairwise_map->xeF,range->xaE,range_succ->xdb,replicate->sR,take_add_one->xeE,take_length->xcA
open List.Pairwise renaming nil->xfc
open Nat renaming add_assoc->xcL,add_comm->xdI,add_mul->xaT,add_mul_div_left->xcu,add_mul_mod_self_left->xbY,add_sub_cancel->xdv,add_zero->xbM,div_add_mod->xbj,div_eq_of_lt->xbc,div_le_self->xcd,div_one->xdz,eq_zero_or_pos->xcb,le_mul_of_pos_left->xdj,le_mul_of_pos_right->xcl,le_of_lt->xdp,le_of_not_lt->xbl,le_refl->eZ,le_trans->PX,lt_of_le_of_lt->xaG,lt_of_lt_of_le->xah,lt_of_not_le->xcT,min_eq_left->xcg,mod_eq_of_lt->xag,mod_lt->xaI,mul_add->xbV,mul_assoc->xbe,mul_comm->xaH,mul_div_cancel->xeu,mul_le_mul->xbp,mul_le_mul_left->xas,mul_le_mul_right->xaf,mul_left_comm->xfe,mul_lt_mul''->xdA,mul_lt_mul_of_pos_right->xbP,mul_one->xdl,mul_zero->xcG,not_lt_zero->xbf,one_mul->xbL,pos_of_ne_zero->xcm,pow_add->xbq,pow_le_pow_right->xam,pow_lt_pow_right->xdE,pow_mul->xbT,pow_pos->xaP,pow_succ->xbi,pow_zero->xeA,sub_self->xcX,zero_add->xaF,zero_le->sB,zero_mul->xcs
open Option renaming getD_some->xeq
open Option.some renaming inj->xdc,injEq->xao
open Prod.mk renaming injEq->xcZ
open Value renaming okWide->xei
section
variable{M p:zI}{f q g f0:Pz}{k i fu:zV}{xs:zC Lx}{a:zC zI}
def Bdz(M:J)(f:A):Prop:=∀(u v:A) (b:K),Fs u->Tp v b->f=u*v->∀j,2*((v b*u j).natAbs:J)<M
theorem Bdz.dv(h:Bdz M f)(ng:Nz g)(d:Fs g)(e:f=q*g):Bdz M q:=λu v b fu hv l j=>by
 obtain⟨a,c⟩:=Tp.ex d ng;have h1:=h u (v*g) (b+a) fu (hv.mul c) (by rw[e,l,zd]) j;rw[KH hv.2 c.2]at h1;have m:(v b*u j).natAbs<=(v b*g a*u j).natAbs:=by
  rw[Int.mul_right_comm,xcK<|v b*u j];exact xcl _ (by have:=c.1;lia)
 lia
theorem zv7{K:zV}(h:Bdz M f)(ng:Nz g)(c:Fs g)(fq:Fs q)(e:f=q*g)(d:Bz K M)(k:zV):Bz K (q k):=by
 obtain⟨a,b⟩:=Tp.ex c ng;have h1:=h q g a fq b e k;have j:(q k).natAbs<=(g a*q k).natAbs:=by
  rw[xcK];exact xdj _ (by have:=b.1;lia)
 exact d.le W
structure Gd(g:N G):Prop where
 can:zX g=g
 ir:Ir (cf g)
 ps:Po (cf g)
 ok:yQ 250 g
 ln:g.length<=11
structure Ch(p:J)(k:K)(f0:A)(F:N G)(xs:N Lx)(out:N (N G))(c:K):Prop where
 lc:Lc p k (cf F) (F.length-1) xs
 k2:k<=1000
 can:zX F=F
 ok:yQ 250 F
 ln:F.length<=11
 bd:Bdz (p^k) (cf F)
 ls:Ls p (cf F) xs c
 ct:xs.length+out.length<=10
 pr:f0=prZ (out.map λg=>(cf g:A))*cf F
 gd:∀g∈out,Gd g
theorem Ch.l0{c:K}{F:N G}{out:N (N G)}(h:Ch p k f0 F xs out c):0<X F:=by
 have h1:=h.lc.tp.1;by_cases e:X F=0
 ·exact wl (zY W) h1
 ·lia
theorem zuB(c:2<=p)(d:∀x∈xs,KT p x.2)(U5:xs.Pairwise λa b=>jj p (C a.2)<|C b.2){j:K}(hi:i<X xs)(e:j<X xs)(h:xs.getD i ([],[])=xs.getD j ([],[])):i=j:=by grind [KT.self,xcR]
theorem zpp(c:2<=p)(d:∀x∈xs,KT p x.2)(U5:xs.Pairwise λa b=>jj p (C a.2)<|C b.2):xs.Nodup:=by grind [KT.self,xcR]
theorem ziJ{α:Type}(d:α)(xs:N α):xs=(xaE (X xs)).map λi=>xs.getD i d:=by
 refine xeG Xn λi h1 b=> ?_;simp_all
theorem zjK{c:K}(d:LG (X xs) c a):∀x∈sel xs a c,x∈xs:=λx e=>by
 obtain⟨j,b,rfl⟩:=xan.1 e;have b:=xaZ.1 b;have h1:=d.hi j b;have h:=d.lo j b;grind
theorem ztm{c:K}(n:2<=p)(o:∀x∈xs,KT p x.2)(U5:xs.Pairwise λa b=>jj p (C a.2)<|C b.2)(l:LG (X xs) c a)(hi:i<X xs):xs.getD i ([],[])∈sel xs a c↔(i:J)∈a:=by
 have hc:=l.ln;constructor
 ·intro h;obtain⟨j,d,e⟩:=xan.1 h;have d:=xaZ.1 d;have h1:=l.hi j d;have s:=l.lo j d;have m:=zuB n o U5 W hi e;have r:i=C a j:=W
  rw[r,<-YU];simp_all
 ·intro h;obtain⟨j,d,e⟩:=xdF.1 h;have m:C a j=i:=by
   rw[<-YU,Yh,xaa d];exact e
  exact xan.2 ⟨j,xaZ.2 W,by rw[m];rfl⟩
theorem zjF{α:Type}(P:α->ws):∀l:N α,X (l.filter P)+X (l.filter λx=> !P x)=X l
 |[]=>rfl
 |x::l=>by
  have b:=zjF P l;grind
theorem zh4{c:K}{F:N Zr}{out:N (N Zr)}(h:Ch p k f0 F xs out c)(hF:1<=c)(hH:c<=5)(L:LG (X xs) c a)(R:3000000<=fu):
 (jQ fu (yf<|p^k) a (F,xs.map (·.1),out)=Z (a,.inl (F,xs.map (·.1),out))/\∀u v,Fs u->Fs v->cf F=u*v->¬Cn u->own p u xs≠sel xs a c)\/
 ∃y a',jQ fu (yf<|p^k) a (F,xs.map (·.1),out)=Z (a',.inr y)/\∃F' H E,y=(F',H.map (·.1),E)/\Ch p k f0 F' H E c/\X H<X xs:=by
 have l:=h.lc;have hp:=l.hp;obtain⟨p1,p2⟩:=zp hp;have hv:=Gg hp h.k2;have hY:=BR hp l.k1;have hI:=h.l0;have hZ:=h.ln;have h0:=h.ct;have hz:=λx hx=>(l.el x hx).2.1;obtain⟨t,t1,t2,t3,t4⟩:=zkP (fu:=fu) hp l.k1 h.k2 l.el W L hH h.ok hI W R;obtain⟨G,T⟩:∃G,G=Eo t (p^k):=⟨_,O⟩;rw[<-T]at t1;have hA:∀j,cf G j=near (cf t j) (p^k):=λj=>by rw[T];exact zmN t W j
 have hJ:Cg (p^k) (cf G) (pc (cf F<|X F-1)*pu (sel xs a c)):=Cg.trans (λj=>by rw[hA];exact zpv _) t4;have hK:yQ 250 G:=by rw[T];exact yF λj=>Bz.near hv W
 have h8:X G<=400:=by
  have:X (Eo t<|p^k)<=X t:=by unfold Eo;rw[xJ];exact qH _ _
  rw[T];lia
 have V:=pA hK;have hM:=ue G;have h9:=jG G;have hm:=QJ G;have hn:=jg G;obtain⟨g,hg⟩:∃g,g=xb G:=⟨_,O⟩;rw[<-hg]at t1 V hM hm hn;have r:∀u v,Fs u->Fs v->cf F=u*v->own p u xs=sel xs a c->∃b,Tp v b/\(cf G:A)=pc (v b)*u:=λu v s fv e ho=>by
  obtain⟨nu,nv⟩:=Y7 l.tp.nz e;obtain⟨d,hd⟩:=Tp.ex s nu;obtain⟨b,z⟩:=Tp.ex fv nv;refine⟨b,z,wu λj=> ?_⟩;have h1:=l.up hd z e;have hN:d+b=X F-1:=by
   have:=hd.mul z;rw[<-e]at this;exact this.uniq l.tp
  have hO:cf F (X F-1)=u d*v b:=by rw[<-hN,e,KH hd.2 z.2]
  rw[hA,zU];refine zq2 ?_ ?_
  ·have h2:Cg (p^k) (cf t) (pc (v b)*u):=by
    refine t4.trans ?_;rw[hO,<-ho,xaX,<-uk,zd];exact Cg.rfl.mul h1.symm
   rw[h2 j,zU]
  ·exact h.bd u v b s z e j
 have n:¬(Zd (cf g) (cf F)/\1<X g)->∀u v,Fs u->Fs v->cf F=u*v->¬Cn u->own p u xs≠sel xs a c:=λhP u v s fv e nc ho=>by
  obtain⟨b,z,D⟩:=r u v s fv e ho;obtain⟨nu,_⟩:=Y7 l.tp.nz e;have hq:X (zX G)≠0:=λe0=>by
   obtain⟨j,hj⟩:=nu;have:=VT e0 j;rw[D,zU]at this;exact(xeh z.1 hj) this
  obtain⟨q1,q2⟩:=Xm hq;rw[<-hg]at q1 q2;have z1:Zd (cf g) (cf G):=⟨pc<|yG G,Fs.pc _,hm.symm⟩;rw[D]at z1;have z2:=Zd.pm (Fs.cf g) q1 z.1 z1;refine hP ⟨z2.trans ⟨v,fv,by rw[e,zk]⟩,xac λhl=>nc λj hj=> ?_⟩;have h3:cf G j=0:=by rw[<-hm,zU,zY W,xaw]
  rw[D,zU]at h3;obtain h4|h4:=xeB.1 h3
  ·exact wl h4 z.1
  ·exact h4
 have hB:∀{q:N Zr}{e:J},wV fu F g=Z (q,e)->jQ fu (yf<|p^k) a (F,xs.map (·.1),out)=if e=0 then(if 1<(X g:J)then ck ((X out+1)*24<=140737488355328)<|B (out++[g]) λpr=>Y (wb fu (xs.map (·.1)) a) λw=>Z (w.2,.inr (q,w.1,pr))else Z (a,.inl (F,xs.map (·.1),out)))else Z (a,.inl (F,xs.map (·.1),out)):=λ{q e} hd=>by
  unfold jQ;simp only;rw[U t1];simp only;rw[U hd]
 by_cases hr:X (zX g)=0
 ·rw[hB<|Ll h.ok V YL YL W W hr R,ir YL];refine .inl ⟨O,n λhh=> ?_⟩;rw[hn]at hr;lia
 ·obtain⟨q,e,d1,d2,d3⟩:=au (fu:=fu) h.ok V (by have:=xaf (250+1) (W:X F+1<=12);lia) W W hr R;rw[hB d1];by_cases D:e=0
  ·by_cases hQ:1<X g
   ·right;obtain⟨e1,e2,e3⟩:=d3 D;have hq:X (zX G)≠0:=W
    obtain⟨q1,q2⟩:=Xm hq;rw[<-hg]at q1 q2;have hc:Tp (cf g) (X g-1):=by
     have:=Ze (a:=g) W;rwa[hn]at this
    obtain⟨nq,ng⟩:=Y7 l.tp.nz e1;have hR:X (zX q)≠0:=λe0=>by
     obtain⟨j,hj⟩:=nq;exact hj<|VT e0 j
    have hs:Tp (cf q) (X q-1):=by
     have:=Ze hR;rwa[e2]at this
    have o:(cf F:A)=cf g*cf q:=by rw[e1,zk]
    have P:¬Cn (cf g):=λhC=>by
     have:=(Cn.tp hc).1 hC;lia
    have hD:∀x∈xs,Di p (C x.2) (cf g)↔x∈sel xs a c:=λx hx=>l.pick (zjK L) hc hs o (γ:=yG G) (by
     rw[hm];exact(hJ.down<|uW l.k1).trans<|Cg.rfl.mul<|zes λy hy=>l.el y<|zjK L y hy) hx
    have hS:=zpp p1 hz l.pw;have hV:X (own p (cf g) xs)<=c:=by
     classical
     have h1:(own p (cf g) xs).Nodup:=by unfold own;exact hS.sublist List.filter_sublist
     have h2:=oE h1 (us:=sel xs a c) λx hx=>(hD x (lv.1 hx).1).1 (lv.1 hx).2;have h3:X (sel xs a c)=c:=by unfold sel;simp
     lia
    have hT:=h.ls (cf g) (cf q) (Fs.cf g) (Fs.cf q) o P;have hE:=Ls.ir l h.ls hF (Fs.cf g) (Fs.cf q) o q1 P W;have ht:0<cf g (X g-1):=by
     obtain⟨m,m1,m2⟩:=q2.tp;have:=m1.uniq hc;rw[<-this];exact m2
    have hu:=l.step hc hs ht e1;have hW:X (own p (cf g) xs)+X (oth p (cf g) xs)=X xs:=by
     classical
     unfold own oth;exact zjF (λx:Lx=>decide<|Di p (C x.2)<|cf g) xs
    have hX:0<p^k:=W
    have hw:(((xaE (X (xs.map (·.1)))).filter λi:K=> !decide ((i:J)∈a)).map λi=>(xs.map (·.1)).getD i [])=(oth p (cf g) xs).map (·.1):=by
     classical
     have e4:oth p (cf g) xs=((xaE (X xs)).filter λi:K=> !decide ((i:J)∈a)).map λi=>xs.getD i ([],[]):=by
      unfold oth;conv=>lhs;rw[ziJ ([],[]) xs]
      rw[List.filter_map];refine wF _<|List.filter_congr λi hi=> ?_;have hi:=xaZ.1 hi;show(!decide (Di p (C (xs.getD i ([],[])).2)<|cf g))=_;have h5:=(hD _<|zbN hi).trans<|ztm p1 hz l.pw L hi;by_cases h6:(i:J)∈a
      ·rw[wU h6,wU<|h5.2 h6]
      ·rw[wS h6,wS λh7=>h6<|h5.1 h7]
     rw[e4,xcP,xaV];refine xce λi _=> ?_;exact zet
    have h':=L.ln;refine⟨(q,(oth p (cf g) xs).map (·.1),out++[g]),a,?_,q,oth p (cf g) xs,out++[g],O,?_,W⟩
    ·rw[S D,zS,yM,Q,U<|zcf (by rw[xaV];lia) W R,hw]
    ·have hU:∀j,Bz 250 (cf q j):=zv7 h.bd ng (Fs.cf g) (Fs.cf q) e1 hv;refine⟨hu,h.k2,e2,by rw[<-e2];exact yF hU,W,h.bd.dv ng (Fs.cf g) e1,h.ls.step l (Fs.cf g) (Fs.cf q) e1,?_,?_,λx hx=> ?_⟩
     ·rw[xak,xeC];lia
     ·rw[xaU,wO,h.pr,o];show prZ _*(cf g*cf q)=prZ _*(cf g*pc 1)*cf q;rw[yp,zd]
     ·obtain hx|hx:=pN.1 hx
      ·exact h.gd x hx
      ·obtain rfl:=xab.1 hx;have:X x<=11:=by
        have:=(hc.mul hs).uniq (by rw[<-o];exact l.tp);lia
       exact⟨hn,hE,q2,V,this⟩
   ·rw[S D,zA];exact .inl ⟨O,n λhh=>hQ hh.2⟩
  ·rw[ir D];exact .inl ⟨O,n λhh=>D<|d2.2 hh.1⟩
theorem zu9{is:N (Fin (X xs))}(hp:is.Pairwise (· < ·)):LG (X xs) (X is) (is.map λi=>(i.val:J))/\sel xs (is.map λi=>(i.val:J)) (X is)=is.map (xs[·]):=by
 have b:∀j (c:j<X is),C (is.map λi=>(i.val:J)) j=(is[j].val:J):=λj c=>by
  rw[<-YU,Yh,xbZ,xaa c];rfl
 have h:∀i j (hi:i<X is) (c:j<X is),i<j->is[i].val<is[j].val:=λi j hi c hd=>xcR.1 hp i j hi c hd;have hc:∀d i (hi:i+d<X is),is[i].val+d<=is[i+d].val:=λd=>by
  induction d with
  |zero=>intro i hi;exact eZ _
  |succ d l=>
   intro i hi;have h1:=l i W;have e:=h (i+d) (i+(d+1)) W hi W;lia
 refine⟨⟨Xn,λi hi=> ?_,λi hi=> ?_,λi hi=> ?_⟩,?_⟩
 ·rw[b i hi];have:=hc i 0 W;simp only[xaF]at this;lia
 ·rw[b i hi];have h1:=hc (X is-1-i) i W;have e:=is[i+(X is-1-i)].isLt;lia
 ·rw[b i W,b (i+1) hi];have:=h i (i+1) W hi W;lia
 ·unfold sel;refine xeG Xn λi h1 e=> ?_;rw[xaV]at e;rw[List.getElem_map,List.getElem_range,List.getElem_map,b i e,xaJ,Yh,xaa is[i].isLt];rfl
theorem zel{F:List Zr}(h0:Ch p k f0 F xs [] 1)(hf:3000000<=fu):
 ∃s,zg (fun L x=>Xu fu (yf<|p^k) x L) fu (F,xs.map (·.1),[],1)=some s/\∃(F:List Zr) (xs:List Lx) (out:List (List Zr)) (c:Nat),s=(F,xs.map (·.1),out)/\Ch p k f0 F xs out c/\xs.length<2*c:=by
 exact yb (f:=fun L x=>Xu fu (yf<|p^k) x L) (fun s:List Zr×List (List Zr)×List (List Zr)×Int=>∃(F:List Zr) (xs:List Lx) (out:List (List Zr)) (c:Nat),s=(F,xs.map (·.1),out,(c:Int))/\Ch p k f0 F xs out c/\1<=c/\c<=6) (fun s=>s.2.1.length*20+(20-s.2.2.2.toNat))
  (fun r=>∃(F:List Zr) (xs:List Lx) (out:List (List Zr)) (c:Nat),r=(F,xs.map (·.1),out)/\Ch p k f0 F xs out c/\xs.length<2*c) (by
  rintro s L ⟨F,xs,out,c,rfl,hC,hb,hg⟩ ih
  unfold Xu
  simp only
  have hj:=hC.ct
  rw[zb,xaV]
  by_cases h2:2*c<=xs.length
  ·rw[zS]
   have hc:=fun a ha=>zh4 (fu:=fu) (a:=a) hC hb (show c<=5 by lia) ha hf
   rcases zdq (fu:=fu) (N:=xs.length) (c:=c) (g:=jQ fu<|yf<|p^k) (x0:=(F,xs.map (·.1),out)) (Rej:=fun a=>∀u v,Fs u->Fs v->cf F=u*v->¬Cn u->own p u xs≠sel xs a c) (Acc:=fun a y=>∃F' xs' out',y=(F',xs'.map (·.1),out')/\Ch p k f0 F' xs' out' c/\xs'.length<xs.length) hb (by lia) (by lia) (by lia) hf hc with⟨e,hr⟩|⟨a,y,ha,⟨F',xs',out',rfl,hi,hk⟩,e⟩
   ·rw[za e]
    rw[Sum.elim_inl]
    simp only
    rw[zb]
    refine ih _ ⟨F,xs,out,c+1,by rw[show((c+1:Nat):Int)=(c:Int)+1 by lia],?_,by lia,by lia⟩ (by
     show(xs.map (·.1)).length*20+(20-((c:Int)+1).toNat)<(xs.map (·.1)).length*20+(20-(c:Int).toNat);lia)
    refine⟨hC.lc,hC.k2,hC.can,hC.ok,hC.ln,hC.bd,fun u v fu' fv e nc=> ?_,hC.ct,hC.pr,hC.gd⟩
    have h3:=hC.ls u v fu' fv e nc
    by_cases h4:(own p u xs).length=c
    ·exfalso
     have hd:(own p u xs).Sublist xs:=by unfold own;exact List.filter_sublist
     obtain⟨is,e5,e6⟩:=List.sublist_eq_map_getElem hd
     obtain⟨i1,i2⟩:=zu9 e6
     have he:is.length=c:=by rw[<-h4,e5,xaV]
     rw[he]at i1 i2
     exact hr _ i1 u v fu' fv e nc<|by rw[i2,e5]
    ·lia
   ·rw[za e]
    rw[Sum.elim_inr]
    refine ih _ ⟨F',xs',out',c,rfl,hi,hb,hg⟩ ?_
    show(xs'.map (·.1)).length*20+(20-(c:Int).toNat)<(xs.map (·.1)).length*20+(20-(c:Int).toNat)
    rw[xaV,xaV]
    lia
  ·rw[zA]
   exact⟨_,rfl,F,xs,out,c,rfl,hC,by lia⟩) fu (F,xs.map (·.1),[],1) ⟨F,xs,[],1,rfl,h0,by lia,by lia⟩ (by
   show(xs.map (·.1)).length*20+(20-(1:Int).toNat)<fu
   rw[xaV]
   have:=h0.ct
   lia)
theorem zgv{F:N G}(h0:Ch p k (cf F) F xs [] 1)(n:3000000<=fu):
 ∃out,Y8 fu F (xs.map (·.1)) (yf<|p^k)=Z out/\X out<=11/\(∀g∈out,Gd g)/\cf F=prZ (out.map λg=>(cf g:A)):=by
 obtain⟨f0,r⟩:∃f0:A,f0=cf F:=⟨_,O⟩;rw[<-r]at h0⊢;obtain⟨s,t,b,l,j,o,rfl,c,hi⟩:=zel h0 n;unfold Y8;rw[U t];simp only;have B:=c.ct;have hl:=c.l0;have C:=c.ln;have m:=c.lc.pm;by_cases h1:1<X b
 ·have hn:X (zX b)≠0:=by rw[c.can];lia
  have hc:yG b=1:=by
   have u:=GV b;rw[c.can]at u;have v:=(m _ (Ef λk w=>zY w):QD (cf b) (X b)=1);have a3:yG b=if cf (zX b) (X (zX b)-1)<0 then-((QD (cf b) (X (zX b)):K):J)else((QD (cf b) (X (zX b)):K):J):=O;rw[c.can,ir (by have:=c.lc.ps;lia),v]at a3;exact a3
  have x:xb b=b:=du (jg b) c.can λk=>by rw[Xk,hc,Int.ediv_one]
  have y:Ir (cf b):=by
   have z:¬Cn (cf b):=λh=>by have:=(Cn.tp c.lc.tp).1 h;lia
   have hc1:1<=o\/o=0:=W
   obtain hc1|hc1:=hc1
   ·refine Ls.ir c.lc c.ls hc1 (Fs.cf b) (Fs.pc 1) (yp _).symm m z ?_;have:X (own p (cf b) l)<=X l:=by unfold own;exact xfs _ _
    lia
   ·lia
  refine⟨j++[b],?_,by rw[xak,xeC];lia,λg hg=> ?_,?_⟩
  ·rw[zS,U<|jR c.ok YL W n,x,yM,Q]
  ·obtain hg|hg:=pN.1 hg
   ·exact c.gd g hg
   ·obtain rfl:=xab.1 hg;exact⟨c.can,y,⟨_,c.lc.ps,c.lc.tp.2⟩,c.ok,c.ln⟩
  ·rw[c.pr,xaU,wO];show _=prZ _*(cf b*pc 1);rw[yp]
 ·refine⟨j,by rw[zA],W,c.gd,?_⟩;obtain⟨d,hd⟩:=((Cn.tp c.lc.tp).2 W).ex;rw[hd]at m;have D:=c.lc.ps;have E:cf b (X b-1)=d:=by rw[hd,(W:X b-1=0)];exact S O
  rw[c.pr,hd];obtain e|e:=zaZ m
  ·rw[e,yp]
  ·lia
end
section
variable{a b K fu bx by_:zV}{x y:zI}
def Bb(b:zV)(x:J):Prop:=x.natAbs<2^b
theorem Bb.mono(h:Bb a x)(c:a<=b):Bb b x:=xah h<|xam YL c
theorem Bb.mul(c:Bb a x)(d:Bb b y):Bb (a+b) (x*y):=by
 unfold Bb at*
 rw[xcK,xbq];by_cases h:y.natAbs=0
 ·rw[h,xcG];exact Nat.mul_pos (xaP YL)<|xaP YL
 ·exact Nat.mul_lt_mul_of_lt_of_le c (xdp d) W
theorem Bb.sub(c:Bb b x)(d:Bb b y):Bb (b+1) (x-y):=by grind [Bb,xbi]
theorem Bb.zero(b:zV):Bb b 0:=xaP YL
theorem Bb.bz(h:Bb b x)(c:b<=64*K):Bz K x:=by
 unfold Bz;rw[(YL:(18446744073709551616:zV)=2^64),<-xbT];exact xah h<|xam YL c
theorem Bz.bb(h:Bz K x):Bb (64*K) x:=by grind [Bb,Bz,xbT]
theorem Bb.le(c:Bb b y)(h:x.natAbs<=y.natAbs):Bb b x:=xaG h c
theorem Bb.pow{b:zV}{x:J}(h:Bb b x):∀n,Bb (n*b+1) (x^n)
 |0=>by rw[xbD];unfold Bb;rw[xcs];decide
 |n+1=>by
  rw[xbo,xaT,xbL,Nat.add_right_comm];exact(Bb.pow h n).mul h
theorem Bb.pow'{b:zV}{x y:J}{c:zV}(h:Bb b x)(d:Bb c y):∀n,Bb (n*b+c) (x^n*y)
 |0=>by rw[xbD,xcr,xcs,xaF];exact d
 |n+1=>by
  rw[xbo,Int.mul_right_comm,xaT,xbL,Nat.add_right_comm];exact(Bb.pow' h d n).mul h
theorem Lq{n:zV}{a:J}(hn:n<=65536)(e:∀d,d<=n->Bz K (a^d))(h1:Bz K a)(g:K<=40000)(c:3000000<=fu):Ud fu (yf a) (n:J)=Z (yf<|a^n):=by
 unfold Ud;rw[U<|yE YL c,U (v:=yf<|a^n)];refine zt (λs:J×G=>∃i:zV,s=((i:J),yf<|a^i)/\i<=n) (λs=>n-s.1.toNat) _ ?_ _ _ ⟨0,by rw[xbD];rfl,sB _⟩ (by show n-0<fu;lia);rintro s L ⟨i,rfl,hi⟩ f;unfold n4;simp only;by_cases h:i<n
 ·rw[zS,U<|yK ((e i hi).ok W) (h1.ok W) c,zm,zm,zb,<-xbo];exact f _ ⟨i+1,O,W⟩ (by show n-((i:J)+1).toNat<n-(i:J).toNat;lia)
 ·rw[zA];obtain rfl:i=n:=W
  rfl
structure PsI(x y:A)(l:J)(ly n bx by_ k:zV)(Q ρ:A):Prop where
 fq:Fs Q
 eq:F (l^(n-k))*x=Q*y+ρ
 z:∀j,k+(ly-1)<=j->ρ j=0
 b:∀j,Bb (bx+(n-k)*(by_+1))<|ρ j
theorem PsI.step{x y:A}{l:J}{c n k:zV}{Q d:A}(h:PsI x y l c n bx by_ (k+1) Q d)(o:k+1<=n)(g:Tp y (c-1))(hl:y (c-1)=l)(f:∀j,Bb by_<|y j):
 PsI x y l c n bx by_ k (F l*Q+mono k (d<|k+(c-1))) (λj=>l*d j-d (k+(c-1))*sh y k j):=by
 have e1:n-k=n-(k+1)+1:=W
 have i:bx+(n-k)*(by_+1)=by_+(bx+(n-(k+1))*(by_+1))+1:=by rw[e1,xaT];lia
 refine⟨((Fs.pc l).mul h.fq).add ⟨k+1,λj m=>zA⟩,?_,λj m=> ?_,λj=> ?_⟩
 ·rw[e1,xbo,xaX,<-uk,zd,h.eq,xu,yu,zd];funext j;rw[zG,zG,zG,qF,zU l d];show _=_+_+(l*d j-d (k+(c-1))*sh y k j);lia
 ·show l*d j-d (k+(c-1))*sh y k j=0;unfold sh;rw[zS];by_cases e:j=k+(c-1)
  ·rw[e,(W:k+(c-1)-k=c-1),hl,xaX];lia
  ·rw[h.z j W,g.2 _ W];lia
 ·rw[i];refine Bb.sub ((show Bb by_ l by rw[<-hl];exact f _).mul<|h.b j) ?_;rw[xdI by_];refine(h.b _).mul ?_;unfold sh;split
  ·exact f _
  ·exact Bb.zero _
theorem zpt{n:zV}{l:N G}(j:zV):M (sR n (yL,[])++l) j=sh (M l) n j:=by
 unfold sh;by_cases h:n<=j
 ·rw[S h];unfold M;rw[Yh,xbv (by rw[xaR];exact h),xaR,<-Yh]
 ·rw[ir h];unfold M;rw[Yh,xbb (by rw[xaR];lia),xeQ];rw[zS];rfl
theorem HY{x y:N G}(hx:zX x=x)(p:zX y=y)(hl:X y<=X x)(hH:0<X y)(hJ:X x<=60)(bX:∀j,Bb bx<|M x j)(D:∀j,Bb by_<|M y j)(hT:bx+(X x-X y+1)*(by_+1)<=2400000)(m:3000000<=fu):
 ∃q r c Q,Xj fu x y=Z (q,r,0)/\zX r=r/\X r<X y/\c≠0/\Fs Q/\(F c*M x:A)=Q*M y+M r/\∀j,Bb (bx+(X x-X y+1)*(by_+1)) (M r j):=by
 obtain⟨n,hn⟩:∃n,n=X x-X y+1:=⟨_,O⟩;rw[<-hn]at hT⊢;obtain⟨T,hK⟩:∃T,T=bx+n*(by_+1):=⟨_,O⟩;have ty:Tp (M y) (X y-1):=by
  have:=Ze (a:=y) (by rw[p];lia);rwa[p]at this
 obtain⟨l,E⟩:∃l,l=M y (X y-1):=⟨_,O⟩;have u:l≠0:=by rw[E];exact ty.1
 have i:Bb by_ l:=by rw[E];exact D _
 have hi:∀d,d<=n->d*(by_+1)<=n*(by_+1):=λd hd=>xaf _ hd;have hm:∀d:zV,d*(by_+1)=d*by_+d:=λd=>by rw[xbV,xdl]
 have hL:by_+1<=T:=by have:=hi 1 W;rw[xbL]at this;lia
 have oX:yQ 37500 x:=by rw[<-hx];exact yF λj=>(bX j).bz W
 have oY:yQ 37500 y:=by rw[<-p];exact yF λj=>(D j).bz W
 have v:∀d,d<=n->Bz 37501 (l^d):=λd hd=>(Bb.pow i d).bz (by have:=hi d hd;have:=hm d;lia);have B:∀d,d<=n->∀z,Bb (bx+(n-d)*(by_+1)) z->Bb T (l^d*z):=λd hd z hz=>(Bb.pow' i hz d).mono (by
  have h1:=hm d;have h2:n*(by_+1)=d*(by_+1)+(n-d)*(by_+1):=by rw[<-xaT];congr 1;lia
  lia)
 have hA:y.getD (X y-1) (yL,[])=yf l:=by rw[E];exact gA (show y=xW (X y) (M y)from p.symm)
 obtain⟨r0,H⟩:∃r0,r0=xW (X x) (λj=>M x j*l^n):=⟨_,O⟩;have hq:∀j,M r0 j=l^n*M x j:=λj=>by rw[H,kz (λj P=>by rw[zY P,xaK]),xaX]
 obtain⟨s,hs,r,q,rfl,g,Q,r1,r2,R,r4⟩:=yb (f:=KE fu<|yf l) (λs:N G×N G×J×N G=>∃(k:zV) (r q:N G),s=(y,r,(k:J)-1,q)/\k<=n/\zX r=r/\X r<=X x+60*(n-k)/\X q=n/\yQ 37500 q/\∃Q g,PsI (M x) (M y) l (X y) n bx by_ k Q g/\∀j,M r j=l^k*g j) (λs=>(s.2.2.1+1).toNat)
  (λt=>∃(r q:N G),t=(r,q)/\∃g Q,zX r=r/\(X q=n/\yQ 37500 q)/\PsI (M x) (M y) l (X y) n bx by_ 0 Q g/\∀j,M r j=g j) (by
  rintro s L ⟨k,r,q,rfl,hk,V,hM,ho,hp,Q,g,o,hc⟩ ih
  unfold KE
  simp only
  cases k with
  |zero=>
   rw[zA]
   exact⟨_,O,r,q,O,g,Q,V,⟨ho,hp⟩,o,λj=>by rw[hc j,xbD,xcr]⟩
  |succ k=>
   have hG:60*(n-(k+1))+60=60*(n-k):=W
   have hN:60*(n-k)<=60*60:=xas _ W
   have ht:=o.step hk ty E.symm D
   have bR:∀j,Bb T (M r j):=λj=>by rw[hc j];exact B (k+1) hk _<|o.b j
   have oR:yQ 37500 r:=by rw[<-V];exact yF λj=>(bR j).bz W
   rw[(W:((k+1:zV):J)-1=(k:J)),zS,zb]
   by_cases hO:X r<k+X y
   ·have hB:g (k+(X y-1))=0:=by
     have h1:=hc<|k+(X y-1);rw[zY W]at h1;obtain h2|h2:=xeB.1 h1.symm
     ·exact wl h2<|Int.pow_ne_zero u
     ·exact h2
    rw[zS,zb]
    refine ih _ ⟨k,r,q,O,W,V,W,ho,hp,_,_,ht,λj=> ?_⟩ (by show((k:J)-1+1).toNat<(((k+1:zV):J)-1+1).toNat;lia)
    show M r j=l^k*(l*g j-g (k+(X y-1))*sh (M y) k j)
    rw[hB,xaK,xcy,hc j,xbo,xcv]
   ·have hC:X r=k+X y:=by
     by_cases e:X r=k+X y
     ·exact e
     ·exfalso;have h1:=XB (show r=xW (X r) (M r)from V.symm) W;rw[hc,o.z _ W,xaw]at h1;exact h1 O
    obtain⟨w,Y⟩:∃w,w=g (k+(X y-1)):=⟨_,O⟩
    have hD:M r (k+(X y-1))=l^k*w*l:=by rw[hc,<-Y,xbo,Int.mul_right_comm]
    have bw:Bb T (l^k*w):=by
     refine B k W w ((o.b _).mono ?_|>λh=>by rw[Y];exact h);have:=hi (n-(k+1)) W;have h3:(n-k)*(by_+1)=(n-(k+1))*(by_+1)+(by_+1):=by rw[(W:n-k=n-(k+1)+1),xaT,xbL]
     lia
    have a0:∀j,Bb T (M y j*(l^k*w)):=λj=>by
     have h1:Bb (by_+(k*by_+(bx+(n-(k+1))*(by_+1)))) (M y j*(l^k*w)):=(D j).mul<|Bb.pow' i (by rw[Y];exact o.b _) k;refine h1.mono ?_;have h2:n*(by_+1)=(k+1)*(by_+1)+(n-(k+1))*(by_+1):=by rw[<-xaT];congr 1;lia
     have h3:=hm<|k+1;rw[xaT k 1 by_,xbL]at h3;lia
    have hE:exE (l^k*w*l) l=0:=by unfold exE;rw[ir u,S<|Int.mul_emod_left _ _]
    have hX:exI (l^k*w*l) l=l^k*w:=by unfold exI;rw[ir u,S<|Int.mul_emod_left _ _,Int.mul_ediv_cancel _ u]
    rw[zA,zb,(W:(k:J)+(X y:J)-1=((k+(X y-1):zV):J)),zb,yc,ze,U<|KI (oR.okS YL _) ((i.bz (K:=37500) W).okS YL) m,YV,zm,hD,hX,hE]
    simp only
    have hu:(q.set k<|yf<|l^k*w).getD k (yL,[])=yf (l^k*w):=by rw[Yh,xdQ W];rfl
    rw[yc,ze,yU,yM,ze,zo (by rw[xbz];lia),ze,hu,U<|ux (l:=37500) oY ⟨yx _,(bw.bz (K:=37500) W).len⟩ YL W m,zm]
    obtain⟨part,ha⟩:∃part,part=xW (X y) (λj=>M y j*(l^k*w)):=⟨_,O⟩
    have hF:∀j,M part j=M y j*(l^k*w):=λj=>by rw[ha,kz<|λj P=>by rw[zY P,xaK]]
    have hP:X part<=X y:=by rw[ha,xJ];exact qH _ _
    have a1:yQ 37500 part:=by rw[ha];exact yF λj=>(a0 j).bz W
    have C:yQ 37500 (sR k (yL,[])++part):=λz hz=>by
     obtain hz|hz:=pN.1 hz
     ·rw[(xeY.1 hz).2];exact⟨zn.nil,sB _⟩
     ·exact a1 z hz
    rw[<-ha,xi (by rw[xaR];lia),ze,U<|Yw oR C YL W (by rw[xak,xaR];lia) m,zb]
    refine ih _ ⟨k,_,_,O,W,(vZ _ _).symm,?_,by rw[xbz];exact ho,?_,_,_,ht,λj=> ?_⟩ (by show((k:J)-1+1).toNat<(((k+1:zV):J)-1+1).toNat;lia)
    ·have:=gM r<|sR k (yL,[])++part
     rw[xak,xaR]at this
     lia
    ·intro z hz
     obtain h1|h1:=xeb hz
     ·exact hp z h1
     ·rw[h1];exact⟨yx _,(bw.bz (K:=37500) W).len⟩
    ·rw[Nu,zpt,hc j]
     show l^(k+1)*g j-sh (M part) k j=l^k*(l*g j-g (k+(X y-1))*sh (M y) k j)
     rw[<-Y]
     have e2:sh (M part) k j=l^k*(w*sh (M y) k j):=by
      unfold sh;split
      ·rw[hF,xaX,xcv]
      ·rw[xaw,xaw]
     rw[e2,xbo,Int.mul_sub,xcv]) fu (y,r0,(n:J)-1,sR n (yL,[])) ⟨n,r0,_,O,eZ _,by rw[H];exact(vZ _ _).symm,by rw[H,xJ];have:=qH (λj=>M x j*l^n) (X x);lia,xaR,λz hz=>by rw[(xeY.1 hz).2];exact⟨zn.nil,sB _⟩,F 0,M x,⟨Fs.pc 0,by
    rw[xcX,xbD,zB,zT];exact wu λj=>by rw[zG,zE,xco],λj P=>zY W,λj=>by rw[xcX,xcs];exact bX j⟩,hq⟩ (by show((n:J)-1+1).toNat<fu;lia)
 refine⟨xW (X q)<|M q,r,l^n,Q,?_,r1,?_,Int.pow_ne_zero u,R.fq,?_,λj=>by rw[r4 j];exact R.b j⟩
 ·unfold Xj;have hv:max ((X x:J)-X y+1) 0=(n:J):=W
  rw[U<|zP oX YL W m,U<|zP oY YL W m,show xW (X x) (M x)=x from hx,show xW (X y) (M y)=y from p,zA,zb,zb,ze,hv,(W:(X y:J)-1=((X y-1:zV):J)),zb,yc,ze,hA,U<|Lq W v ((i.bz (K:=37501) W)) YL m,U<|ux (l:=37501) oX ⟨yx _,(v n<|eZ _).len⟩ YL W m,zm,<-H,yU,yM,ze,zb,U hs];simp only;rw[U<|zP r2.2 YL W m]
 ·by_cases e:X r=0
  ·lia
  ·have h1:=XB (show r=xW (X r) (M r)from r1.symm) e;by_cases h2:X r<X y
   ·exact h2
   ·rw[r4,R.z _ W]at h1;exact wl O h1
 ·have:=R.eq;rw[Nat.sub_zero]at this;rw[this,show(M r:A)=g from wu r4]
end
section
def fac:K->J
 |0=>1
 |n+1=>((n+1:K):J)*fac n
theorem Xz:∀n,0<fac n
 |0=>by decide
 |n+1=>Int.mul_pos W<|Xz n
def ip(n:K)(f g:A):J:=yA (n+1) λs=>fac s*fac (n-s)*(f s*g s)
theorem Uh(n:K)(f g:A):ip n f g=ip n g f:=yH λs _=>by rw[xaX<|f s]
theorem zig(n:K)(f g h:A):ip n (f+g) h=ip n f h+ip n g h:=by
 unfold ip;rw[<-Vv];exact yH λs _=>by rw[zG,Int.add_mul,xfg]
theorem NG(n:K)(f g h:A):ip n h (f+g)=ip n h f+ip n h g:=by grind [Uh,zig]
theorem zfQ(n:K)(c:J)(f h:A):ip n (F c*f) h=c*ip n f h:=by
 unfold ip;rw[<-Ya];exact yH λs _=>by rw[zU,xcv c<|f s,Int.mul_left_comm]
theorem Ga(n:K)(c:J)(f h:A):ip n h (F c*f)=c*ip n h f:=by rw[Uh,zfQ,Uh]
theorem zc2{f:K->J}:∀{n},(∀k,k<n->0<=f k)->0<=yA n f
 |0,_=>xfh 0
 |n+1,h=>Int.add_nonneg (zc2 λk a=>h k W)<|h n W
theorem zs6(n:K)(f:A):0<=ip n f f:=zc2 λs _=>xcD (xcD (xds<|Xz _)<|xds<|Xz _)<|Wk _
def xP:A:=mono 1 1
theorem zvT(f:A):(xP*f) 0=0:=by
 unfold xP;rw[qF];rfl
theorem zwT(f:A)(k:K):(xP*f) (k+1)=f k:=by simp_all [sh,xP,qF]
theorem adx(n:K)(f g:A):ip (n+1) (xP*f) g=ip n f (dvp g):=by
 unfold ip;rw[ZO,zvT,xaK,xaw,xco];refine yH λs a=> ?_;rw[zwT,(W:n+1-(s+1)=n-s)];show((s+1:K):J)*fac s*fac (n-s)*(f s*g (s+1))=fac s*fac (n-s)*(f s*(((s+1:K):J)*g (s+1)));grind
def dy(n:K)(f:A):A:=F (n:J)*f-xP*dvp f
theorem zeE(n:K)(f:A)(k:K):dy n f k=((n:J)-k)*f k:=by
 unfold dy;rw[yT,zU]
 cases k with
 |zero=>rw[zvT];grind
 |succ k=>
  rw[zwT];show n*f (k+1)-((k+1:K):J)*f (k+1)=_;grind
theorem ady(n:K)(f g:A)(a:f (n+1)=0):ip (n+1) f g=ip n f (dy (n+1) g):=by
 show yA (n+1) _+fac (n+1)*fac (n+1-(n+1))*(f (n+1)*g (n+1))=_;rw[a,xaK,xaw,xby];refine yH λs b=> ?_;rw[zeE,(W:n+1-s=(n-s)+1)];show fac s*(((n-s+1:K):J)*fac (n-s))*(f s*g s)=_;grind
theorem eul(n:K)(f:A):F (n:J)*f=xP*dvp f+dy n f:=by
 unfold dy;funext k;rw[zG,yT];lia
theorem ztO(n m:K)(f g:A):dy (n+m) (f*g)=dy n f*g+f*dy m g:=by
 have h1:F ((n+m:K):J)*(f*g)=F n*f*g+f*(F m*g):=by
  rw[zD f,zd];funext k;rw[zG,zU,zU,zU];grind
 have a:xP*(dvp f*g+f*dvp g)=xP*dvp f*g+f*(xP*dvp g):=by rw[xu,zd,zD f]
 unfold dy;rw[Uk,h1,a,ji,ve];funext k;simp only[zG,yT];lia
theorem zpU(n:K)(f:A):dvp (dy (n+1) f)=dy n (dvp f):=wu λk=>by
 rw[zeE];show((k+1:K):J)*dy (n+1) f (k+1)=(n-k)*(((k+1:K):J)*f (k+1));rw[zeE];grind
def Dg(n:K)(f:A):Prop:=∀k,n<k->f k=0
theorem Dg.dx{n:K}{f:A}(h:Dg (n+1) f):Dg n (dvp f):=λk a=>by
 show((k+1:K):J)*f (k+1)=0;rw[h _ W,xaw]
theorem Dg.dy{n:K}{f:A}(h:Dg (n+1) f):Dg n (dy (n+1) f):=λk a=>by
 rw[zeE];by_cases e:k=n+1
 ·simp_all
 ·rw[h k W,xaw]
theorem Dg.mul{n m:K}{f g:A}(a:Dg n f)(b:Dg m g):Dg (n+m) (f*g):=λk d=>ug (n:=n+1) (m:=m+1) (λj c=>a j W)<|λj c=>b j W
theorem Dg.add{n:K}{f g:A}(b:Dg n f)(c:Dg n g):Dg n (f+g):=λk a=>by rw[zG,b k a,c k a];rfl
theorem Dg.num{f:A}(h:Dg 0 f):f=F (f 0):=wu λk=>by
 unfold F;by_cases e:k=0
 ·simp_all
 ·rw[ir e,h k W]
section
variable(a:zV)(u:Pz)
theorem zsL{m b q0:K}{v p q:A}(hp:Dg (m+1) p)(c:Dg a u)(e:b+q0=m+1+a):
 ((m+1:K):J)*ip (m+1+a) (p*u) (v*q)=ip (m+a) (dvp p*u) (dvp v*q)+ip (m+a) (dy (m+1) p*u) (dy b v*q)+(ip (m+a) (dvp p*u) (v*dvp q)+ip (m+a) (dy (m+1) p*u) (v*dy q0 q)):=by
 rw[<-zfQ,<-zd,eul,yu,zig,zd,(W:m+1+a=m+a+1),adx,ady _ _ _ (hp.dy.mul c _ W),Uk,NG,(W:m+a+1=b+q0),ztO,NG];lia
def Fk:K->K->K->A->A->A->J
 |0,b,_,v,p,q=>ip (b+a) (p*u)<|v*q
 |k+1,b,c,v,p,q=>Fk k (b-1) (c-1) v (dvp p) (dvp q)+Fk k (b-1) (c-1) v (dy b p) (dy c q)
theorem zcU(c:Dg a u):∀(k:K) {m b q0:K}{v p q:A},k<=m->m<=q0->b+(q0+1)=m+1+a->Dg (m+1) p->
 ((m+1:K)-(k:J))*Fk a u k (m+1) (q0+1) v p q=Fk a u k m (q0+1) (dvp v) (dvp p) q+Fk a u k m (q0+1) (dy b v) (dy (m+1) p) q+Fk a u (k+1) (m+1) (q0+1) v p q
 |0,m,b,q0,v,p,q,_,_,e,hp=>by
  have:=zsL a u (v:=v) (q:=q) hp c e;assumption
 |k+1,0,_,_,_,_,_,h,_,_,_=>by lia
 |k+1,m+1,b,0,_,_,_,_,h,_,_=>by lia
 |k+1,m+1,b,q0+1,v,p,q,h1,d,e,hp=>by
  have i1:=zcU c k (b:=b) (q0:=q0) (v:=v) (q:=dvp q) W W W hp.dx;have i2:=zcU c k (b:=b) (q0:=q0) (v:=v) (q:=dy (q0+1+1) q) W W W hp.dy;rw[zpU]at i2;show((m+1+1:K)-((k+1:K):J))*(Fk a u k (m+1) (q0+1) v (dvp p) (dvp q)+Fk a u k (m+1) (q0+1) v (dy (m+1+1) p) (dy (q0+1+1) q))=Fk a u k m (q0+1) (dvp v) (dvp<|dvp p) (dvp q)+Fk a u k m (q0+1) (dvp v) (dy (m+1)<|dvp p) (dy (q0+1+1) q)+(Fk a u k m (q0+1) (dy b v) (dvp<|dy (m+1+1) p) (dvp q)+Fk a u k m (q0+1) (dy b v) (dy (m+1)<|dy (m+1+1) p) (dy (q0+1+1) q))+(Fk a u (k+1) (m+1) (q0+1) v (dvp p) (dvp q)+Fk a u (k+1) (m+1) (q0+1) v (dy (m+1+1) p) (dy (q0+1+1) q));rw[zpU,(W:((m+1+1:K)-((k+1:K):J))=((m+1:K)-(k:J))),xfg];lia
def pD:K->K->A->A->A
 |0,_,p,q=>p*q
 |k+1,b,p,q=>pD k (b-1) (dvp p) (dvp q)+pD k (b-1) (dy (k+1) p) (dy b q)
theorem zoB:∀(k:K) {b:K}{v p q:A},Dg k p->Fk a u k k b v p q=ip a u (v*pD k b p q)
 |0,b,v,p,q,h=>by
  show ip (0+a) (p*u) (v*q)=ip a u (v*(p*q));rw[h.num,xaF,zfQ,zD,Ga]
 |k+1,b,v,p,q,h=>by
  show Fk a u k k (b-1) v (dvp p) (dvp q)+Fk a u k k (b-1) v (dy (k+1) p) (dy b q)=ip a u (v*(pD k (b-1) (dvp p) (dvp q)+pD k (b-1) (dy (k+1) p) (dy b q)));rw[zoB k h.dx,zoB k h.dy,xu,NG]
end
theorem zpe:∀(k:K) {d:K}{p q:A},Dg k p->Dg (k+d) q->Dg d (pD k (k+d) p q)
 |0,d,p,q,hp,a=>by
  have:=hp.mul a;rw[xaF,xaF]at this;exact this
 |k+1,d,p,q,hp,a=>by
  rw[(W:k+1+d=k+d+1)]at a⊢;exact(zpe k hp.dx a.dx).add<|zpe k hp.dy a.dy
theorem zmo:∀(k:K) {d:K}{p q g:A},Dg k p->Dg d g->fac k*ip (k+d) q (p*g)=ip d (pD k (k+d) p q) g
 |0,d,p,q,g,hp,a=>by
  show 1*ip (0+d) q (p*g)=ip d (p*q) g;rw[hp.num,xcr,xaF,Ga,zfQ]
 |k+1,d,p,q,g,hp,a=>by
  have i1:=zmo k (q:=dvp q) hp.dx a;have i2:=zmo k (q:=dy (k+d+1) q) hp.dy a;rw[(W:k+1+d=k+d+1)];show((k+1:K):J)*fac k*ip (k+d+1) q (p*g)=ip d (pD k (k+d+1-1) (dvp p) (dvp q)+pD k (k+d+1-1) (dy (k+1) p) (dy (k+d+1) q)) g;rw[xdv,zig,<-i1,<-i2,xaX _<|fac k,xcv,<-Ga,<-zd,eul,yu,NG,zd,Uh _ q,adx,Uh _ q,ady _ _ _ (hp.dy.mul a _ W),xfg,Uh _<|dvp q,Uh _<|dy _ q]
theorem zfY{a:K}{u:A}(e:Dg a u):∀(b:K) {v:A},Dg b v->b<=a->∀(j k:K),k+j=b->0<=Fk a u k b a v v u
 |b,v,hv,f,0,k,h=>by
  obtain rfl:k=b:=W
  obtain⟨d,rfl⟩:∃d,a=k+d:=⟨a-k,W⟩;have h1:=zmo k (d:=d) (q:=u) (g:=pD k (k+d) v u) hv<|zpe k hv e;rw[zoB _ _ k hv];have i:=zs6 d<|pD k (k+d) v u;rw[<-h1]at i;exact Int.nonneg_of_mul_nonneg_right i<|Xz k
 |0,v,hv,f,j+1,k,h=>by lia
 |b+1,v,hv,f,j+1,k,h=>by
  obtain⟨c,rfl⟩:∃c,a=c+1:=⟨a-1,W⟩;have h1:=zcU (c+1) u e k (m:=b) (b:=b+1) (q0:=c) (v:=v) (p:=v) (q:=u) W W W hv;have i:=zfY e b hv.dx W j k W;have n:=zfY e b hv.dy W j k W;have o:=zfY e (b+1) hv f j (k+1) W;have l:0<=((b+1:K)-(k:J))*Fk (c+1) u k (b+1) (c+1) v v u:=by rw[h1];lia
  exact Int.nonneg_of_mul_nonneg_right l W
theorem zxl{u:A}(h:Dg 0 u):dvp u=F 0:=wu λk=>by
 rw[zE];show((k+1:K):J)*u (k+1)=0;rw[h _ W,xaw]
theorem zyD{u:A}(h:Dg 0 u):dy 0 u=F 0:=wu λk=>by
 rw[zE,zeE];by_cases e:k=0
 ·simp_all
 ·rw[h k W,xaw]
theorem zxh{a b:K}{u v:A}(c:Dg a u)(hv:Dg (b+1) v):0<=ip (b+a) (dvp v*u) (v*dvp u)+ip (b+a) (dy (b+1) v*u) (v*dy a u):=by
 by_cases h:b+1<=a
 ·exact zfY c (b+1) hv h b 1 W
 ·cases a with
  |zero=>
   rw[zxl c,zyD c,zk v,Ga,Ga];lia
  |succ a=>
   have:=zfY hv (a+1) c W a 1 W;have this:0<=ip (a+(b+1)) (dvp u*v) (u*dvp v)+ip (a+(b+1)) (dy (a+1) u*v) (u*dy (b+1) v):=this;rw[Uh,Uh _<|dy (a+1) u*v,zk u,zk<|dvp u,zk u,zk<|dy (a+1) u,(W:a+(b+1)=b+(a+1))]at this;lia
theorem zxq{a:K}{u:A}(c:Dg a u):∀(b:K) {v:A},Dg b v->fac b*(v b*v b)*ip a u u<=ip (b+a) (v*u) (v*u)
 |0,v,hv=>by
  rw[hv.num,zfQ,Ga,xaF];show 1*(F (v 0) 0*F (v 0) 0)*ip a u u<=v 0*(v 0*ip a u u);have e:F (v 0) 0=v 0:=O;rw[e,xcr,xcv];lia
 |b+1,v,hv=>by
  have h1:=zsL a u (b:=b+1) (q0:=a) (v:=v) (q:=u) hv c O;have f:=zxh c hv;have g:=zs6 (b+a)<|dy (b+1) v*u;have d:=zxq c b hv.dx;have e:dvp v b=((b+1:K):J)*v (b+1):=O;rw[e]at d;have h:((b+1:K):J)*(fac (b+1)*(v (b+1)*v (b+1))*ip a u u)=fac b*(((b+1:K):J)*v (b+1)*(((b+1:K):J)*v (b+1)))*ip a u u:=by
   show((b+1:K):J)*(((b+1:K):J)*fac b*(v (b+1)*v (b+1))*ip a u u)=_;grind
  refine Int.le_of_mul_le_mul_left (a:=((b+1:K):J)) ?_ W;lia
theorem NA:∀(m n:K),fac (m+n)<=2^(m+n)*(fac m*fac n)
 |0,n=>by
  rw[xaF];show fac n<=2^n*(1*fac n);rw[xcr];have:=xbg (show(1:J)<=2^n from Int.pow_pos YL)<|xds<|Xz n;lia
 |m+1,0=>by
  show fac (m+1)<=2^(m+1)*(fac (m+1)*1);rw[xci];have:=xbg (show(1:J)<=2^(m+1)from Int.pow_pos YL)<|xds<|Xz<|m+1;lia
 |m+1,n+1=>by
  have i1:=xaN (NA m<|n+1) (W:(0:J)<=((m+1:K):J));have i2:=xaN (NA (m+1) n) (W:(0:J)<=((n+1:K):J));rw[(W:m+(n+1)=m+n+1)]at i1;rw[(W:m+1+n=m+n+1)]at i2;rw[(W:m+1+(n+1)=m+n+1+1)];have e1:fac (m+n+1+1)=((m+1:K):J)*fac (m+n+1)+((n+1:K):J)*fac (m+n+1):=by
   show((m+n+1+1:K):J)*fac (m+n+1)=_;rw[<-Int.add_mul];congr 1;lia
  have a:(2:J)^(m+n+1+1)*(fac (m+1)*fac (n+1))=((m+1:K):J)*(2^(m+n+1)*(fac m*fac (n+1)))+((n+1:K):J)*(2^(m+n+1)*(fac (m+1)*fac n)):=by
   rw[xbo];have f1:fac (m+1)=((m+1:K):J)*fac m:=O;have f2:fac (n+1)=((n+1:K):J)*fac n:=O;rw[f1,f2];generalize((m+1:K):J)=x;generalize((n+1:K):J)=y;generalize(2:J)^(m+n+1)=z;grind
  rw[e1,a];lia
theorem zoP:∀(m n:K),fac m*fac n<=fac (m+n)
 |0,n=>by
  rw[xaF];show 1*fac n<=fac n;lia
 |m+1,n=>by
  rw[(W:m+1+n=m+n+1)];show((m+1:K):J)*fac m*fac n<=((m+n+1:K):J)*fac (m+n);have h1:=zoP m n;have a:=xaN h1 (W:0<=((m+1:K):J));have b:=xbg (W:((m+1:K):J)<=((m+n+1:K):J))<|xds<|Xz<|m+n;grind
theorem zbL{f g:K->J}:∀{n},(∀k,k<n->f k<=g k)->yA n f<=yA n g
 |0,_=>xfh 0
 |n+1,h=>Int.add_le_add (zbL λk a=>h k W)<|h n W
theorem zgq{f:K->J}{j:K}:∀{n},(∀k,k<n->0<=f k)->j<n->f j<=yA n f
 |0,_,h=>wl h<|xbf _
 |n+1,h,b=>by
  have h1:=zc2 λk (a:k<n)=>h k W;have c:=h n W;show f j<=yA n f+f n;by_cases e:j=n
  ·grind
  ·have:=zgq (λk a=>h k W) (W:j<n);lia
theorem mig{f u v:A}{a b:K}(g:Tp u a)(hv:Tp v b)(e:f=u*v)(k:K):(v b*u k)*(v b*u k)<=4^(a+b)*Aj f (a+b+1):=by
 have c:=B4 f<|a+b+1;by_cases x:k<=a
 ·have h1:=zxq (a:=a) (u:=u) g.2 b (v:=v) hv.2;have j:fac k*fac (a-k)*(u k*u k)<=ip a u u:=zgq (f:=λs=>fac s*fac (a-s)*(u s*u s)) (λs _=>xcD (xcD (xds<|Xz _)<|xds<|Xz _)<|Wk _) W;have y:ip (b+a) (v*u) (v*u)<=fac (b+a)*Aj f (a+b+1):=by
   rw[zk,<-e,xdI b a];unfold ip Aj;rw[<-Ya];refine zbL λs z=>xbg ?_<|Wk _;have:=zoP s<|a+b-s;rwa[(W:s+(a+b-s)=a+b)]at this
  have l:=NA b a;have h:=NA k<|a-k;rw[(W:k+(a-k)=a)]at h;have d:=Xz b;have pw:(0:J)<2^(b+a):=Int.pow_pos YL;have m:=Int.mul_pos (Xz k)<|Xz<|a-k;have o:=Wk<|v b;generalize fac k*fac (a-k)=X at*
  have g1:=xaN j (show 0<=fac b*(v b*v b)from xcD (xds d) o);have B:=xbg l c;have p:=xaN h (show 0<=2^(b+a)*fac b from xcD (xds pw)<|xds d);have C:=xbg p c;have q:fac b*X*((v b*u k)*(v b*u k))<=fac b*X*(2^(b+a)*2^a*Aj f (a+b+1)):=by
   have e1:fac b*X*((v b*u k)*(v b*u k))=fac b*(v b*v b)*(X*(u k*u k)):=by grind
   have r:fac b*X*(2^(b+a)*2^a*Aj f (a+b+1))=2^(b+a)*fac b*(2^a*X)*Aj f (a+b+1):=by grind
   have D:2^(b+a)*(fac b*fac a)*Aj f (a+b+1)=2^(b+a)*fac b*fac a*Aj f (a+b+1):=by grind
   rw[e1,r];lia
  have t:=Int.le_of_mul_le_mul_left q<|Int.mul_pos d m;refine Int.le_trans t<|xbg ?_ c;have w:(4:J)^(a+b)=2^(b+a)*2^(a+b):=by rw[(YL:(4:J)=2*2),Int.mul_pow,xdI b a]
  rw[w];refine xaN ?_<|xds pw;have:=xam (n:=2) YL (W:a<=a+b);have i:∀n:K,((2^n:K):J)=(2:J)^n:=λn=>by simp
  rw[<-i,<-i];lia
 ·rw[g.2 k W,xaw,xaw];exact xcD (Int.pow_nonneg YL) c
end
section
variable{B:(zC Zr×zC Zr->z7 (zC Zr))->zC Zr×zC Zr->z7 (zC Zr)}{fu ca cb m:zV}{a b:zC Zr}{d p g R q:Pz}
theorem zn5{f:A}{M:J}(h:∀k,f k*f k<=M):∀n:K,Aj f n<=n*M
 |0=>by show 0<=0*M;lia
 |n+1=>by
  show yA n (λk=>f k*f k)+f n*f n<=_;have h1:yA n (λk=>f k*f k)<=n*M:=zn5 h n;grind
theorem zu4{x y:K}(h:x*x<y*y):x<y:=by
 refine xac λhn=> ?_;have:=xbp (W:y<=x) (W:y<=x);lia
theorem FW{f u v:A}{n B:K}(c:Tp f n)(fu:Fs u)(j:Fs v)(e:f=u*v)(hn:n<=40)(l:∀k,Bb B<|f k)(k:K):Bb (B+n+4) (u k):=by
 obtain⟨o,nv⟩:=Y7 c.nz e;obtain⟨a,h⟩:=Tp.ex fu o;obtain⟨b,hc⟩:=Tp.ex j nv;have r:a+b=n:=by
  have:=h.mul hc;rw[<-e]at this;exact this.uniq c
 have h1:=mig h hc e k;have s:∀k,f k*f k<=(2^B:J)*2^B:=λk=>by
  have:=l k;unfold Bb at this;have i:(f k*f k)=(((f k).natAbs*(f k).natAbs:K):J):=by simp_all
  rw[i];have y:=xbp (xdp this)<|xdp this;grind
 have i:=zn5 s<|a+b+1;have t:(u k).natAbs<=(v b*u k).natAbs:=by
  rw[xcK];exact xdj _ (by have:=hc.1;lia)
 refine xaG t<|zu4 ?_;have w:((v b*u k).natAbs*(v b*u k).natAbs:K)=(v b*u k*(v b*u k)).natAbs:=(xcK _ _).symm;rw[w];have x:(v b*u k*(v b*u k)).natAbs<=4^(a+b)*((a+b+1)*(2^B*2^B)):=by
  have z:(4:J)^(a+b)*Aj f (a+b+1)<=4^(a+b)*(((a+b+1:K):J)*(2^B*2^B)):=xaN W (Int.pow_nonneg YL);have C:(4:J)^(a+b)*(((a+b+1:K):J)*(2^B*2^B))=((4^(a+b)*((a+b+1)*(2^B*2^B)):K):J):=Xn
  have:=Wk<|v b*u k;lia
 refine xaG x ?_;have e1:(2:K)^(B+n+4)*2^(B+n+4)=4^n*(256*(2^B*2^B)):=by
  rw[(YL:(4:K)=2^2),<-xbT,(YL:(256:K)=2^8),<-xbq,<-xbq,<-xbq,<-xbq];congr 1;lia
 rw[e1];have hd:0<(2:K)^B*2^B:=Nat.mul_pos (xaP YL) (xaP YL);rw[r];exact Nat.mul_lt_mul_of_pos_left (xbP W hd)<|xaP YL
theorem Hg{K:zV}(f:yQ K a)(h:K+1<=100000)(hl:X a<=1000)(e:3000000<=fu):Ji fu a=Z (xW (X a-1)<|dvp<|M a):=by
 unfold Ji;have hc:∀k:zV,k<=1000->Bz 1 (k:J):=λk n=>Bz.nat (by rw[Nat.pow_one];lia);rw[U<|MY (g:=λk=>if k<1000 then M a k*(k:J)else 0) W W λj c=> ?_]
 ·have i:min (X a:J) 1=((min (X a) 1:zV):J):=W
  rw[yh,Q,i,yU,yM,Q];have hd:(zi (X a) λk=>if k<1000 then M a k*(k:J)else 0).drop (min (X a) 1)=zi (X a-1) (dvp<|M a):=by
   refine zfi (by rw[xca,yh,yh];lia) λj c=> ?_;rw[xca,yh]at c;rw[XC W,Yh,xeP,<-Yh,XC W,(W:min (X a) 1+j=j+1),zS];show yf (M a (j+1)*((j+1:zV):J))=yf (((j+1:zV):J)*M a (j+1));grind
  rw[hd,U<|zP (k:=K+1) (Y6 λj=> ?_) h (by rw[yh];lia) e,yh,Cm];unfold dvp;by_cases c:j+1<=1000
  ·rw[xaX];exact(f.bz _).mul<|hc _ c
  ·rw[zY W,xaw];exact Bz.zero _
 ·unfold Kv;have l:=f.get j;rw[U<|yE ⟨W,W⟩ e,U<|yK (iw.of l W) ((hc j W).ok YL) e,zm,YV,zS]
def sZ:K->K
 |0=>1
 |1=>1
 |n+2=>2*sZ (n+1)+sZ n
theorem zp5:∀n,sZ n<=sZ (n+1)
 |0=>eZ _
 |n+1=>by show _<=2*sZ (n+1)+sZ n;lia
theorem rY{i:K}:∀d,sZ i<=sZ (i+d)
 |0=>eZ _
 |d+1=>PX (rY d)<|zp5 _
theorem zfW(j:K):∀t,sZ j+(t+1+1)*sZ (j+1)<=sZ (j+1+(t+1))
 |0=>by show _<=2*sZ (j+1)+sZ j;lia
 |t+1=>by
  have c:=zfW j t;have h1:sZ (j+1+(t+1+1))=2*sZ (j+1+(t+1))+sZ (j+1+t):=O;grind
theorem Nh(f:Fs d)(pd:Pm d):Zd d (M<|xb a)↔Zd d (M a):=by
 by_cases h:X (zX a)=0
 ·have h1:(M a:A)=F 0:=wu λk=>by rw[VT h k,zE]
  have i:(M (xb a):A)=F 0:=wu λk=>by rw[Xk,VT h k,xdX,zE]
  grind
 ·have e:=QJ a;constructor
  ·intro c;rw[<-e];exact c.mul _<|Fs.pc _
  ·intro c;rw[<-e]at c;exact Zd.pm f pd (sI h) c
theorem zi9{x y r Q:A}{c:J}(i:Fs d)(pd:Pm d)(hc:c≠0)(h:Fs Q)(e:F c*x=Q*y+r):(Zd d y/\Zd d r)↔(Zd d x/\Zd d y):=by
 constructor
 ·rintro⟨f,z2⟩;refine⟨Zd.pm i pd hc ?_,f⟩;rw[e];exact(f.mul _ h).add z2
 ·rintro⟨f,z2⟩;refine⟨z2,?_⟩;have:r=F c*x-Q*y:=wu λk=>by
   have:=vN e k;rw[zG]at this;rw[yT];lia
  rw[this];exact(f.mul _<|Fs.pc c).sub<|z2.mul _ h
theorem zfP{Ps:N G->N G->V (N G×N G×J)}{Pr:N G->V (N G)}(hB:∀R x y,B R (x,y)=if(0:J)<(X y:J)then Y (Ps x y) λt=>Y (Pr t.2.1) λy'=>R (y,y')else Z x)(hk:∀{K:zV}{a:N G},yQ K a->K<=9985->X a<=1000->Pr a=Z (xb a))(hl:∀{bx e:zV}{x y:N G},zX x=x->zX y=y->X y<=X x->0<X y->X x<=60->(∀j,Bb bx<|M x j)->(∀j,Bb e<|M y j)->bx+(X x-X y+1)*(e+1)<=2400000->
 ∃q r c Q,Ps x y=Z (q,r,0)/\zX r=r/\X r<X y/\c≠0/\Fs Q/\(F c*M x:A)=Q*M y+M r/\∀j,Bb (bx+(X x-X y+1)*(e+1))<|M r j) {C L n bx b_:zV} (ha:zX a=a) (u:Pm (M a)) (v:Po (M a)) (hb:zX b=b) (hm:X b<X a) (hL:X a<=L) (hu:L<=60) (hC:C*sZ (L-1)<=639000) (ho:C*sZ L<=2400000) (w:bx+1<=C*sZ (L-X a)) (f:∀j,Bb bx (M a j)) (l:b_+1<=C*sZ (L-X a+1)) (hc:∀j,Bb b_ (M b j)) (hd:X b≠0->Pm (M b)/\Po (M b)) (hn:X b<n):
 ∃x,zg B n (a,b)=Z x/\zX x=x/\Pm (M x)/\Po (M x)/\X x<=L/\yQ 37500 x/\∀d,Fs d->Pm d->(Zd d (M x)↔(Zd d (M a)/\Zd d (M b))):=by
 refine yb (λs:N G×N G=>zX s.1=s.1/\Pm (M s.1)/\Po (M s.1)/\zX s.2=s.2/\X s.2<X s.1/\X s.1<=L/\(∃bx,bx+1<=C*sZ (L-X s.1)/\∀i,Bb bx<|M s.1 i)/\(∃b_,b_+1<=C*sZ (L-X s.1+1)/\∀i,Bb b_<|M s.2 i)/\(X s.2≠0->Pm (M s.2)/\Po (M s.2))/\∀d,Fs d->Pm d->((Zd d (M s.1)/\Zd d (M s.2))↔(Zd d (M a)/\Zd d (M b)))) (λs=>X s.2) _ ?_ n (a,b) ⟨ha,u,v,hb,hm,hL,⟨bx,w,f⟩,⟨b_,l,hc⟩,hd,λ_ _ _=>Iff.rfl⟩ hn;rintro⟨x,y⟩ R ⟨h1,S,T,D,h5,h6,⟨bx,w,f⟩,⟨b_,l,hc⟩,hd,E⟩ ih;simp only at h1 S T D h5 h6 w f l hc hd E;rw[hB];have he:∀{i},i<=L->C*sZ i<=2400000:=λ{i} hi=>PX (xas _ (by
  have:=rY (i:=i)<|L-i;rwa[(W:i+(L-i)=L)]at this)) ho
 by_cases hp:0<X y
 ·obtain⟨t,ht⟩:∃t,X x-X y=t+1:=⟨X x-X y-1,W⟩;have hg:bx+(X x-X y+1)*(b_+1)+1<=C*sZ (L-X y+1):=by
   have H:=zfW (L-X x) t;rw[(W:L-X x+1+(t+1)=L-X y+1)]at H;have hq:=xas C H;rw[xbV,xfe]at hq;have hv:=xas (t+1+1) l;rw[ht];lia
  obtain⟨q,r,c,Q,e1,P,e3,e4,e5,e6,e7⟩:=hl h1 D W hp W f hc (by have:=he (i:=L-X y+1) W;lia);have oR:yQ 9985 r:=by
   by_cases hr:X r=0
   ·rw[xbs.1 hr];intro z hz;cases hz
   ·rw[<-P];refine yF λj=>(e7 j).bz ?_;have H:C*sZ (L-X y+1)<=C*sZ (L-1):=xas _ (by
     have:=rY (i:=L-X y+1)<|X y-2;rwa[(W:L-X y+1+(X y-2)=L-1)]at this)
    lia
  rw[zS,U e1];simp only;rw[U<|hk oR YL W];have hs:=ue r;rw[P]at hs;obtain⟨y1,y2⟩:=hd W;refine ih _ ⟨D,y1,y2,jg r,by show(xb r).length<X y;lia,by show X y<=L;lia,⟨b_,?_,hc⟩,⟨_,hg,λi=> ?_⟩,λ(hn:X (xb r)≠0)=>Xm (by rw[P];show X r≠0;lia),λd o pd=> ?_⟩ (by show(xb r).length<X y;lia)
  ·refine PX l<|xas _ ?_;show sZ (L-X x+1)<=sZ (L-X y);have:=rY (i:=L-X x+1)<|X x-X y-1;rwa[(W:L-X x+1+(X x-X y-1)=L-X y)]at this
  ·show Bb _ (M (xb r) i);rw[Xk];exact(e7 i).le<|xbX _ _
  ·rw[<-E d o pd];show(Zd d (M y)/\Zd d (M<|xb r))↔(Zd d (M x)/\Zd d (M y));rw[Nh o pd];exact zi9 o pd e4 e5 e6
 ·rw[zA];refine⟨x,O,h1,S,T,h6,?_,λd o pd=> ?_⟩
  ·rw[<-h1];exact yF λj=>(f j).bz (by have:=he (i:=L-X x) W;lia)
  ·rw[<-E d o pd];have:Zd d (M y):=⟨F 0,Fs.pc 0,wu λk=>by rw[zY W,zT,zE]⟩;exact⟨λh=>⟨h,this⟩,λh=>h.1⟩
def GcZ(ca cb c e:K):Prop:=(∃C,ca+1<=C/\cb+1<=C/\C*sZ (c-1)<=639000/\C*sZ c<=2400000)\/
 (ca<=639000/\(ca+(c-e+1)*(cb+1)+1)*sZ (e-1)<=639000/\(ca+(c-e+1)*(cb+1)+1)*sZ e<=2400000)
theorem zoS{Ps:N G->N G->V (N G×N G×J)}{Pr:N G->V (N G)}(E:∀R x y,B R (x,y)=if(0:J)<(X y:J)then Y (Ps x y) λt=>Y (Pr t.2.1) λy'=>R (y,y')else Z x)(hc:∀{K:zV}{a:N G},yQ K a->K<=9985->X a<=1000->Pr a=Z (xb a))(hd:∀{bx e:zV}{x y:N G},zX x=x->zX y=y->X y<=X x->0<X y->X x<=60->(∀j,Bb bx<|M x j)->(∀j,Bb e<|M y j)->bx+(X x-X y+1)*(e+1)<=2400000->
 ∃q r c Q,Ps x y=Z (q,r,0)/\zX r=r/\X r<X y/\c≠0/\Fs Q/\(F c*M x:A)=Q*M y+M r/\∀j,Bb (bx+(X x-X y+1)*(e+1))<|M r j) {n:zV} (z:zX a=a) (o:Pm (M a)) (s:Po (M a)) (hb:zX b=b) (hi:X b<X a) (he:X a<=60) (H:∀j,Bb ca (M a j)) (bB:∀j,Bb cb (M b j)) (hZ:GcZ ca cb (X a) (X b)) (hn:X b+1<n):
 ∃x,zg B n (a,xb b)=Z x/\zX x=x/\Pm (M x)/\Po (M x)/\X x<=X a/\yQ 37500 x/\∀d,Fs d->Pm d->(Zd d (M x)↔(Zd d (M a)/\Zd d (M b))):=by
 have D:X (xb b)=X b:=by rw[ue,hb]
 have f:∀j,Bb cb (M (xb b) j):=λj=>by rw[Xk];exact(bB j).le<|xbX _ _
 have pb:X (xb b)≠0->Pm (M<|xb b)/\Po (M<|xb b):=λh=>Xm (by rw[hb];lia);have u:∀{x:N G},(∀d,Fs d->Pm d->(Zd d (M x)↔(Zd d (M a)/\Zd d (M<|xb b))))->∀d,Fs d->Pm d->(Zd d (M x)↔(Zd d (M a)/\Zd d (M b))):=λh d l pd=>by rw[h d l pd,Nh l pd]
 rcases hZ with⟨C,h1,h2,h3,h4⟩|h1
 ·obtain⟨x,e1,v,e3,P,S,e6,w⟩:=zfP E hc hd (C:=C) (L:=X a) (n:=n) z o s (jg b) W (eZ _) he h3 h4 (by rw[xcX];show ca+1<=C*1;lia) H (by rw[xcX];show cb+1<=C*1;lia) f pb W;exact⟨x,e1,v,e3,P,S,e6,u w⟩
 ·obtain⟨hj,h1,hf⟩:=h1;obtain⟨n,rfl⟩:∃m,n=m+1:=⟨n-1,W⟩;rw[w6,E];by_cases hk:0<X b
  ·obtain⟨T,hT⟩:∃T,T=ca+(X a-X b+1)*(cb+1):=⟨_,O⟩;rw[<-hT]at h1 hf;have hl:T+1<=(T+1)*sZ (X b-1):=xcl _<|xah (YL:0<sZ 0) (by have h:=rY (i:=0)<|X b-1;rwa[xaF]at h);obtain⟨q,r,c,Q,e1,v,e3,P,S,e6,w⟩:=hd z (jg b) W W he H f (by rw[D,<-hT];lia);rw[D,<-hT]at w;have oR:yQ 9985 r:=by rw[<-v];exact yF λj=>(w j).bz W
   rw[zS,U e1];simp only;rw[U<|hc oR YL W];have hg:=ue r;rw[v]at hg;obtain⟨y1,y2⟩:=pb W;obtain⟨x,g1,g2,g3,g4,g5,g6,g7⟩:=zfP E hc hd (C:=T+1) (L:=X b) (n:=n) (jg b) y1 y2 (jg r) W W W h1 hf (bx:=cb) (by
    rw[D,xcX];show cb+1<=(T+1)*1;have:=xaf (cb+1) (W:1<=X a-X b+1);lia) f (b_:=T) (by rw[D,xcX];show T+1<=(T+1)*1;lia) (λj=>by rw[Xk];exact(w j).le (xbX _ _)) (λh=>Xm (by rw[v];lia)) W
   refine⟨x,g1,g2,g3,g4,W,g6,u λd l pd=> ?_⟩;rw[g7 d l pd,Nh (a:=r) l pd];exact zi9 l pd P S e6
  ·rw[zA];refine⟨a,O,z,o,s,eZ _,?_,λd l pd=> ?_⟩
   ·rw[<-z];exact yF λj=>(H j).bz W
   ·have:Zd d (M b):=⟨F 0,Fs.pc 0,wu λk=>by rw[zY W,zT,zE]⟩;exact⟨λh=>⟨h,this⟩,λh=>h.1⟩
theorem Tu(i:zX a=a)(r:zX b=b)(hc:yG a=1)(y:X b<X a)(z:X a<=60)(s:∀j,Bb ca<|M a j)(t:∀j,Bb cb<|M b j)(A:GcZ ca cb (X a) (X b))(Y:ca<=639000)(hk:cb<=639000)(c:3000000<=fu):
 ∃g,Qi fu a b=Z g/\zX g=g/\Pm (M g)/\Po (M g)/\X g<=X a/\∀d,Fs d->Pm d->(Zd d (M g)↔Zd d (M a)/\Zd d (M b)):=by
 have u:yQ 9985 a:=by rw[<-i];exact yF λj=>(s j).bz W
 have o:yQ 9985 b:=by rw[<-r];exact yF λj=>(t j).bz W
 have hd:xb a=a:=du (jg a) i λk=>by rw[Xk,hc,Int.ediv_one]
 obtain⟨e,f⟩:=Xm (a:=a) (by rw[i];lia);rw[hd]at e f;obtain⟨x,C,v,D,E,F,G,H⟩:=zoS (B:=Eu fu) (Ps:=Xj fu) (Pr:=vd fu) (n:=fu) (λ_ _ _=>O) (λh h1 w=>jR h W W c) (λh1 w L N P Q S T=>HY h1 w L N P Q S T c) i e f r y z s t A W;have b1:=(Bz.one' (k:=1)<|eZ _);have V:=(oU o);have hi:xW (X x) (λj=>M x j*1)=x:=by rw[show(λj=>M x j*1)=M x from wu λj=>xci _];exact v
 refine⟨x,?_,v,D,E,F,H⟩;unfold Qi;rw[U<|Zb u,U<|Zb o,hc,U<|AJ (K:=9985) (yx _) (yx _) (PX b1.len YL) V.len YL c,zm,zm,show Int.natAbs 1=1 from O,Nat.gcd_one_left,show((1:zV):J)=1 from O,U<|jR u YL W c,U<|jR o YL W c,hd,U C,U<|ux (l:=1) G ⟨yx _,b1.len⟩ YL W c,zm];show Z (xW (X x) λj=>M x j*1)=_;rw[hi]
theorem zim(q:A):∀n,dvp (pp q<|n+1)=F ((n+1:K):J)*(pp q n*dvp q)
 |0=>by
  show dvp (F 1*q)=F 1*(F 1*dvp q);rw[zB,zB,zB]
 |n+1=>by
  show dvp (pp q (n+1)*q)=F _*(pp q n*q*dvp q);rw[Uk,zim q n,zd<|F _,zd<|pp q n,zk (dvp q) q];show _+pp q n*q*dvp q=_;rw[zd<|pp q n];funext k;rw[zG,zU,zU];grind
theorem zrZ(hp:Tp p m)(A:Fs g)(C:Fs R)(e:p=R*g)(D:Zd g (dvp p))(c:Ir q)(h:Zd q p):Zd q R:=by
 refine xac λE=> ?_;obtain⟨n,_,hn⟩:=Mu.ex c m hp;obtain⟨T,ng⟩:=Y7 hp.nz e;obtain⟨d,hd⟩:=Tp.ex A ng;obtain⟨i,_,hi⟩:=Mu.ex c d hd;have h1:=(Mu.zero C E).mul c hi;rw[<-e,xaF]at h1;obtain rfl:=h1.uniq c hn;have hc:i≠0:=λh0=>by
  subst h0;obtain⟨u,fu,l,o⟩:=hn;rw[show pp q 0=F 1 from O,yp]at l;simp_all
 obtain⟨j,rfl⟩:∃j,i=j+1:=⟨i-1,W⟩;obtain⟨u,fu,l,o⟩:=hn;obtain⟨v,G,H,_⟩:=hi;have r:Zd (pp q<|j+1) (dvp p):=Zd.trans ⟨v,G,H⟩ D;rw[l,Uk]at r;have s:Zd (pp q<|j+1) (u*dvp (pp q<|j+1)):=by
  have:u*dvp (pp q<|j+1)=(dvp u*pp q (j+1)+u*dvp (pp q<|j+1))-dvp u*pp q (j+1):=wu λk=>by simp only[zG,yT];lia
  rw[this];exact r.sub ⟨dvp u,fu.dvp,O⟩
 rw[zim]at s;obtain⟨w,x,L⟩:=s;have M:w*q=u*(F ((j+1:K):J)*dvp q):=by
  refine C5 (x.mul c.fs) (fu.mul<|(Fs.pc _).mul c.fs.dvp) (c.fs.pp j) (c.pm.pp j).nz ?_;have N:w*pp q (j+1)=w*q*pp q j:=by
   show w*(pp q j*q)=_;rw[zd,zk (pp q j) q]
  rw[<-N,<-L,zd u,zd<|F _,zk (dvp q)<|pp q j]
 rcases c.prime fu ((Fs.pc _).mul c.fs.dvp) ⟨w,x,M.symm⟩with h5|h5
 ·exact o h5
 ·obtain⟨t,f⟩:=Tp.ex c.fs c.pm.nz;have U:t≠0:=λh0=>c.dg<|(Cn.tp f).2 h0;obtain⟨P,Q,S⟩:=zcQ (n:=0) f h5 λk V=>by
   rw[zU];show _*(((k+1:K):J)*q (k+1))=0;rw[f.2 _ W,xaw,xaw]
  have y:=vN Q<|t-1;rw[qt P,xz λi _=>by rw[S i W,xaK],zU]at y;have z:((j+1:K):J)*(((t-1+1:K):J)*q (t-1+1))=0:=y;rw[(W:t-1+1=t)]at z;obtain h8|h8:=xeB.1 z
  ·lia
  ·obtain h9|h9:=xeB.1 h8
   ·lia
   ·exact f.1 h9
theorem ztM(hp:Tp p m)(o:Fs g)(x:Fs R)(e:p=R*g)(r:∀d,Fs d->Pm d->Zd d p->Zd d (dvp p)->Zd d g)(c:Ir q):¬Zd (q*q) R:=λ⟨z,f,i⟩=>by
 obtain⟨n,_,u,fu,e1,j⟩:=Mu.ex c m hp
 cases n with
 |zero=>
  refine j ⟨z*q*g,(f.mul c.fs).mul o,?_⟩;have s:u=p:=by rw[e1];exact(yp u).symm
  rw[s,e,i];simp only[zk,zD]
 |succ k=>
  have t:=c.fs.pp k;have h:pp q (k+1)=q*pp q k:=zk _ _;obtain⟨w,l,v⟩:=r (pp q k) t (c.pm.pp k) ⟨u*q,fu.mul c.fs,by rw[e1,h,zd]⟩ (by
   rw[e1,Uk,zim];refine Zd.add ⟨dvp u*q,fu.dvp.mul c.fs,by rw[h,zd]⟩ ⟨u*(F ((k+1:K):J)*dvp q),fu.mul<|(Fs.pc _).mul c.fs.dvp,?_⟩;simp only[zk,zD])
  refine j ⟨z*w,f.mul l,?_⟩;refine C5 fu ((f.mul l).mul c.fs) (c.fs.pp<|k+1) (c.pm.pp<|k+1).nz ?_;rw[<-e1,e,i,v,h];simp only[zk,zD]
end
noncomputable def zpr(fu:K)(a:N G)(fs:N (N J))(p:J):J:=
 if wB p=I then(if 65<(zX a).length then 6 else if qj fu (zX a) fs p=Z I then 0 else 1)else 1
theorem zoN{fu:K}{p k:J}{a:N G}{fs:N (N J)}{us:N (N G)}{e:J}(f:yQ 250 a)(i:X a<=1000)(h1:1<=k)(j:k<=1000)(l:3000200<=fu)(h:kn fu a fs p k=Z (us,e)):e=zpr fu a fs p:=by
 unfold kn at h;unfold zpr;rw[U<|ZH W]at h;simp only at h;rw[U (zP f YL W W),show xW (X a) (M a)=zX a from O]at h;by_cases hp:wB p=I
 ·have c:En p k=(yf<|p^k.toNat,0):=by
   unfold En;simp_all
  rw[c]at h;rw[S hp];simp only[wN]at h;by_cases g:65<X (zX a)
  ·grind
  ·rw[zA]at h;rw[ir g]
   cases d:qj fu (zX a) fs p with
   |none=>rw[d]at h;cases h
   |some b=>
    rw[d]at h;change(if(!b)=I then _ else _)=_ at h
    cases b with
    |false=>
     rw[S YL]at h;rw[ir Xn];simp only[xao,xcZ]at h;exact h.2.symm
    |true=>
     rw[ir YL]at h;rw[S O];split at h
     ·simp only[xao,xcZ]at h;exact h.2.symm
     ·cases hc:xB fu (zX a) (yf<|p^k.toNat)with
      |none=>rw[hc]at h;cases h
      |some t=>
       rw[hc]at h;change Y (qX fu t fs p k<|yf<|p^k.toNat) _=_ at h
       cases hd:qX fu t fs p k (yf<|p^k.toNat)with
       |none=>rw[hd]at h;cases h
       |some t3=>
        rw[hd]at h;change Z (t3,(0:J))=_ at h;simp only[xao,xcZ]at h;exact h.2.symm
 ·have c:En p k=((yL,[]),1):=by
   unfold En;rw[ir<|λh=>hp h.1]
  rw[c]at h;rw[ir hp];simp only[Int.reduceEq,wP,xao,xcZ]at h;exact h.2.symm
section
variable{fu:zV}{p:zI}{a:zC Zr}
def zsN(p:J)(n:K)(fs:N (N J)):Prop:=(∀t,t<X fs->X (fs.getD t [])<=n/\PlL p (fs.getD t []))/\∀t j,t<X fs->j<t->jj p (C<|fs.getD t []) (C<|fs.getD j [])
theorem zdC{i:K}{f:N J}{fs:N (N J)}(hp:wB p=I)(hc:Fp p f)(hd:X f<=290)(hi:i<=X fs)(hl:i<=1000000)(k:∀j,j<i->Fp p (fs.getD j [])/\X (fs.getD j [])<=290)(y:3000000<=fu):
 ∃r,zg (uy fu p f<|fs.take i) fu 0=Z r/\((r=.inl ()/\∀j,j<i->jj p (C f) (C<|fs.getD j []))\/(r=.inr ()/\¬∀j,j<i->jj p (C f) (C<|fs.getD j []))):=by
 obtain⟨l,z⟩:=zp hp;have A:X (fs.take i)=i:=by rw[xap];lia
 have m:∀j,j<i->(fs.take i).getD j []=fs.getD j []:=λj b=>by rw[Yh,xcx,S b,<-Yh]
 refine yb (λx:J=>∃j:K,x=(j:J)/\j<=i/\∀t,t<j->jj p (C f) (C<|fs.getD t [])) (λx=>i-x.toNat) _ ?_ _ _ ⟨0,O,sB _,λt h=>wl h<|xbf _⟩ (by show i-0<fu;lia);rintro x L ⟨j,rfl,b,c⟩ n;unfold uy;by_cases h1:j<i
 ·obtain⟨k1,k2⟩:=k j h1;obtain⟨d,s,t,o,q,u⟩:=VA (fu:=fu) hp hc k1 hd k2;have e:=Fa l q u;rw[zS,yc,Q,m j h1,U o];simp only;by_cases g:X d=1
  ·rw[zS,zb];refine n _ ⟨j+1,O,W,λt v=> ?_⟩ W;by_cases w:t=j
   ·rw[w];exact e.1 g
   ·exact c t W
  ·rw[zA];exact⟨_,O,.inr ⟨O,λh=>g<|e.2<|h j h1⟩⟩
 ·rw[zA];exact⟨_,O,.inl ⟨O,λt v=>c t W⟩⟩
theorem zh7{fs:N (N J)}(hp:wB p=I)(hd:X a<=66)(h0:X a≠0)(hl:X (jH p a)=X a)(g1:∀t,t<X fs->X (fs.getD t [])<=X a/\PlL p (fs.getD t [])):
 (∀f∈fs,Fp p f)/\(∀f∈fs,X f<=66)/\(jH p a).drop (X a-1)=[C (jH p a)<|X a-1]/\Fp p [C (jH p a)<|X a-1]:=by
 obtain⟨i,k⟩:=zp hp;have d:∀{q:N J->Prop},(∀t,t<X fs->q (fs.getD t []))->∀f∈fs,q f:=λ{q} h f e=>by
  obtain⟨j,l,rfl⟩:=xdF.1 e;simp_all
 have b:=Q8 (p:=p) W a;have hc:C (jH p a) (X a-1)≠0:=by
  obtain h|h:=b.nl
  ·lia
  ·simp_all
 have m:=b.nn<|X a-1;have g:=b.lt<|X a-1;refine⟨d λt c=>(g1 t c).2.fp W,d λt c=>by have:=(g1 t c).1;lia,?_,ZA W g⟩;rw[xbK W,xbS W];unfold C;rw[Yh,xaa W];rfl
theorem B8{k:K}{fs:N (N J)}(hp:wB p=I)(u:yQ k a)(v:k<=40000)(w:X a<=66)(g:3000000<=fu):
 ∃b,qj fu a fs p=Z b/\(b=I↔ph p a fs):=by
 obtain⟨E,y⟩:=zp hp;unfold qj;rw[U<|Yj u v W y];simp only;by_cases h0:X a=0
 ·rw[zS];exact⟨_,O,λe=>wl e YL,λe=>wl h0 e.a0⟩
 ·rw[zA];by_cases hl:X (jH p a)=X a
  ·rw[zS];by_cases F:X a<X fs
   ·rw[zS];exact⟨_,O,λe=>wl e YL,λe=>by have:=e.fl;lia⟩
   ·rw[zA]
    obtain⟨r,e1,m⟩:=yb (f:=um fu a fs p) (λx:J×N J=>∃i:K,x=((i:J),jH p a)/\i<=X fs/\(∀t,t<i->X (fs.getD t [])<=X a/\PlL p (fs.getD t []))/\∀t j,t<i->j<t->jj p (C<|fs.getD t []) (C<|fs.getD j [])) (λx=>X fs-x.1.toNat)
     (λr=>(r=.inr ()/\¬zsN p (X a) fs)\/(r=.inl (jH p a)/\zsN p (X a) fs)) (by
      rintro x L ⟨i,rfl,hi,g1,d⟩ z;unfold um;simp only;by_cases h1:i<X fs
      ·rw[zS,U O];simp only[wN];rw[zo h1,Q];by_cases G:X a<X (fs.getD i [])
       ·rw[zS];exact⟨_,O,.inl ⟨O,λh=>by have:=(h.1 i h1).1;lia⟩⟩
       ·obtain⟨b,b1,b2⟩:=dq (fu:=fu) (l:=fs.getD i []) (p:=p) W g;rw[zA,U b1]
        cases b with
        |false=>
         rw[S YL];exact⟨_,O,.inl ⟨O,λh=>wl (b2.2 (h.1 i h1).2) YL⟩⟩
        |true=>
         have n:=b2.1 O;rw[ir YL,yU,yM,Q];obtain⟨q,q1,q2⟩:=zdC (fu:=fu) (i:=i) (fs:=fs) hp (n.fp W) W W W (λj c=>⟨(g1 j c).2.fp W,by have:=(g1 j c).1;lia⟩) g;rw[U q1];rcases q2 with⟨rfl,q2⟩|⟨rfl,q2⟩
         ·simp only;rw[zb];refine z _ ⟨i+1,O,W,λt o=> ?_,λt j o c=> ?_⟩ (by show X fs-((i:J)+1).toNat<X fs-(i:J).toNat;lia)
          ·by_cases s:t=i
           ·rw[s];exact⟨W,n⟩
           ·exact g1 t W
          ·by_cases s:t=i
           ·rw[s]at c⊢;exact q2 j c
           ·exact d t j W c
         ·exact⟨_,O,.inl ⟨O,λh=>q2 λj c=>h.2 i j h1 c⟩⟩
      ·rw[zA,U O];simp only[xaj,wP];exact⟨_,O,.inr ⟨O,λt o=>g1 t W,λt j o c=>d t j W c⟩⟩) fu (0,jH p a) ⟨0,O,sB _,λt h=>wl h (xbf _),λt j h=>wl h (xbf _)⟩ (by show X fs-0<fu;lia)
    rw[U e1];rcases m with⟨rfl,m⟩|⟨rfl,g1,d⟩
    ·exact⟨_,O,λe=>wl e YL,λe=>wl ⟨e.pl,e.cp⟩ m⟩
    ·simp only;obtain⟨A,hd,hc,B⟩:=zh7 hp w h0 hl g1;have H:X fs*66<=66*66:=xaf _ W;have n:=ox (p:=p) hd;have D:=Q8 (p:=p) W a;have hn:=vy p (KP p fs) [C (jH p a)<|X a-1];simp only[xar,xbA]at hn;rw[U (kX hp A hd W YL),hl,(W:(X a:J)-1=((X a-1:K):J)),zb,yU,yM,Q,hc,U<|Yu hp (nQ W fs) B W Xn];simp only;rw[U<|de hp (vv W _ _) D W W g];exact⟨_,O,λe=>⟨h0,hl,W,g1,d,vR e⟩,λe=>wU e.pr⟩
  ·rw[zA];exact⟨_,O,λe=>wl e YL,λe=>wl e.al hl⟩
end
section
variable{a R:zC Zr}{fu K B B1:zV}{f g:Pz}{q p:zI}{ds:zC zI}
theorem db(h:BJ a=0):1<=X (zX a)/\X (zX a)<=65:=by grind [BJ]
theorem zju:wB 2=I:=zj7 ⟨YL,YL,λd h1 b=>by
 have:=xbp h1 h1;lia⟩
theorem zkN(hc:zX a=a)(hp:Pm (M a))(b:Po (M a)):yG a=1:=by
 obtain⟨n,hn,h⟩:=b.tp;have c:=λe=>hn.1<|VT e n;have h1:=(Ze c).uniq hn;have i:=hp _<|Ef λk d=>zY d;have a3:yG a=if M (zX a) (X (zX a)-1)<0 then-((QD (M a) (X (zX a)):zV):J)else((QD (M a) (X (zX a)):zV):J):=O;grind
theorem Po.left{u v:A}(fu:Fs u)(h:Po (u*v))(hv:Po v):Po u:=by
 obtain⟨m,d,hp⟩:=h.tp;obtain⟨b,e,i⟩:=hv.tp;obtain⟨j,_⟩:=Y7 d.nz O;obtain⟨a,c⟩:=Tp.ex fu j;obtain rfl:=(c.mul e).uniq d;rw[KH c.2 e.2]at hp;exact⟨a,Int.pos_of_mul_pos_left hp i,c.2⟩
structure Rad(a R:N G):Prop where
 can:zX R=R
 pm:Pm (M R)
 ps:Po (M R)
 dv:∃g:A,Fs g/\M (xb a)=M R*g
 al:∀q,Ir q->Zd q (M a)->Zd q (M R)
 ln:R.length<=(zX a).length
 sf:∀q,Ir q->¬Zd (q*q) (M R)
theorem CW(b:yQ K a)(c:K<=40000)(hl:X a<=1000000)(h0:BJ a≠0)(d:3000000<=fu):jo fu a=Z ([],BJ a):=by grind [jo,U,KC]
structure zfA(a g R:N G):Prop where
 rad:Rad a R
 gc:zX g=g
 gp:Pm (M g)
 go:Po (M g)
 gd:∀d,Fs d->Pm d->(Zd d (M g)↔Zd d (M<|xb a)/\Zd d (dvp<|M<|xb a))
 eq:(M (xb a):A)=M R*M g
theorem zrB(H:Pm f)(b:Po f)(l:Pm g)(C:Po g)(h:Zd f g)(k:Zd g f):f=g:=by
 obtain⟨u,fu,e⟩:=h;obtain⟨v,o,r⟩:=k;obtain⟨n,tf,hn⟩:=b.tp;obtain⟨m,tg,D⟩:=C.tp;have nz:∀{w x y:A},Fs w->y=w*x->Nz y->Nz w:=λ{w x y} J e E=>xac λhn=>by
  have:w=F 0:=wu λk=>by rw[zE];exact xac λh=>hn ⟨k,h⟩
  obtain⟨j,s⟩:=E;rw[e,this,zU,xaK]at s;exact s O
 obtain⟨i,t⟩:=Tp.ex fu<|nz fu e tg.nz;obtain⟨j,G⟩:=Tp.ex o<|nz o r tf.nz;have h1:=(t.mul tf).uniq<|e▸tg;have L:=(G.mul tg).uniq<|r▸tf;have hi:i=0:=W
 have z:u=F (u 0):=wu λk=>by
  unfold F;by_cases d:k=0
  ·rw[S d,d]
  ·rw[ir d,t.2 k W]
 generalize u 0=c at z;subst z;rw[e]at l;obtain rfl|rfl:=zaZ l.left
 ·rw[e,zB]
 ·have:m=n:=W
  rw[e,this,zU]at D;lia
theorem zfA.uniq{g b c:N G}(h:zfA a g R)(k:zfA a b c):R=c:=by
 have e:(M g:A)=M b:=zrB h.gp h.go k.gp k.go ((k.gd _ (Fs.cf g) h.gp).2<|(h.gd _ (Fs.cf g) h.gp).1<|Zd.refl _)<|(h.gd _ (Fs.cf b) k.gp).2<|(k.gd _ (Fs.cf b) k.gp).1<|Zd.refl _;have d:=h.eq.symm.trans k.eq;rw[e]at d;have i:=C5 (Fs.cf R) (Fs.cf c) (Fs.cf b) k.go.tp.choose_spec.1.nz d;exact du h.rad.can k.rad.can λj=>vN i j
theorem zjv{Gc:N G->N G->V (N G)}{Dv:N G->N G->V (N G×J)}(hl:X a<=40)(h0:BJ a=0)(P:∀j,Bb B<|M a j)(o:∀j,Bb B1<|M a<|j+1)(hB:B<=6000)(Q:∀{x y:N G},zX x=x->zX y=y->yG x=1->X y+1=X x->X x=X (zX a)->(∀j,Bb B<|M x j)->(∀j,Bb (B1+6)<|M y j)->∃g,Gc x y=Z g/\zX g=g/\Pm (M g)/\Po (M g)/\X g<=X x/\∀d,Fs d->Pm d->(Zd d (M g)↔Zd d (M x)/\Zd d (M y)))(S:∀{x y:N G},yQ 94 x->yQ 97 y->X x<=40->X y<=40->X (zX y)≠0->∃q e,Dv x y=Z (q,e)/\(e=0↔Zd (M y) (M x))/\(e=0->(M x:A)=M q*M y/\zX q=q/\X q<=X x)):
 ∃g R,Gc (xb a) (xW (X (xb a)-1)<|dvp<|M<|xb a)=Z g/\Dv (xb a) g=Z (R,0)/\zfA a g R/\∀j,Bb (B+X (zX a)+4) (M R j):=by
 have ht:=db h0;have hu:=jG a;obtain⟨p,hp⟩:∃p,p=xb a:=⟨_,O⟩;have i:zX p=p:=by rw[hp];exact jg a
 have T:X p=X (zX a):=by rw[hp];exact ue a
 obtain⟨r,s⟩:=Xm (a:=a) W;have hc:=λq h1 C=>(Nh (a:=a) (d:=q) h1 C).2;rw[<-hp]at r s hc⊢;have hi:X (zX p)≠0:=by rw[i];lia
 have tp:=Ze hi;rw[i]at tp;have D:∀{b:zV}{j},Bb b (M a j)->Bb b (M p j):=λh=>by
  rw[hp,Xk];exact h.le<|xbX _ _
 have m:∀j,Bb B (M p j):=λj=>D<|P j;have oP:yQ 94 p:=by rw[<-i];exact yF λj=>(m j).bz W
 have U:=zkN i r s;obtain⟨d,hd⟩:∃d,d=xW (X p-1) (dvp<|M p):=⟨_,O⟩;have n:(M d:A)=dvp (M p):=wu λk=>by
  rw[hd];exact kz (λk hk=>by unfold dvp;rw[zY W,xaw]) k
 have hn:zX d=d:=by rw[hd];exact(vZ _ _).symm
 have Y:X d+1=X p:=by
  rw[hd,xJ];by_cases h1:X p=1
  ·rw[h1];rfl
  ·have:dg (dvp<|M p) (X p-1)=X p-1:=dw (eZ _) (λk h1 C=>by lia) (.inr (by
    show((X p-1-1+1:zV):J)*M p (X p-1-1+1)≠0;rw[(W:X p-1-1+1=X p-1)];exact xeh W tp.1))
   lia
 have bD:∀j,Bb (B1+6) (M d j):=λj=>by
  rw[n];show Bb _ (((j+1:zV):J)*M p (j+1));by_cases t:j+1<64
  ·rw[xaX];exact(D<|o j).mul (show((j+1:zV):J).natAbs<2^6 by rw[xaW];exact t)
  ·rw[zY W,xaw];exact Bb.zero _
 obtain⟨g,g1,E,u,F,g5,v⟩:=Q i hn U Y T m bD;obtain⟨z1,z2⟩:=(v _ (Fs.cf g) u).1<|Zd.refl _;have hr:X (zX g)≠0:=λe=>by
  obtain⟨j,t⟩:=u.nz;exact t<|VT e j
 obtain⟨w,H,L⟩:=z1;have bG:∀j,Bb (B+X (zX a)+4) (M g j):=λj=>(FW tp (Fs.cf g) H (by rw[L,zk]) W m j).mono W;have oG:yQ 97 g:=by rw[<-E];exact yF λj=>(bG j).bz W
 obtain⟨R,e,r1,r2,r3⟩:=S oP oG W W hr;have he:e=0:=r2.2 ⟨w,H,L⟩;subst he;obtain⟨c,r5,r6⟩:=r3 O;have hs:Pm (M R):=(c▸r:Pm (M R*M g:A)).left;refine⟨g,R,by rw[<-hd];exact g1,r1,⟨⟨r5,hs,Po.left (Fs.cf R) (c▸s:Po (M R*M g:A)) F,⟨M g,Fs.cf g,by rw[<-hp];exact c⟩,λq l hz=> ?_,W,λq l=>ztM tp (Fs.cf g) (Fs.cf R) c (λd z pd y1 y2=>(v d z pd).2 ⟨y1,by rw[n];exact y2⟩) l⟩,E,u,F,λd z pd=>by rw[<-hp,v d z pd,n],by rw[<-hp];exact c⟩,λj=>(FW tp (Fs.cf R) (Fs.cf g) c W m j).mono W⟩;exact zrZ tp (Fs.cf g) (Fs.cf R) c (by rw[<-n];exact z2) l<|hc q l.fs l.pm hz
theorem zob(r:yQ K a)(s:K<=100)(hl:X a<=40)(h0:BJ a=0)(i:∀j,Bb B<|M a j)(b:∀j,Bb B1<|M a<|j+1)(k:B<=6000)(t:B1<=6000)(l:GcZ B (B1+6) (X (zX a)) (X (zX a)-1))(e:3000000<=fu):
 ∃g R,Qi fu (xb a) (xW (X (xb a)-1)<|dvp<|M<|xb a)=Z g/\wV fu (xb a) g=Z (R,0)/\zfA a g R/\∀j,Bb (B+X (zX a)+4) (M R j):=by
 have hc:=jG a
 exact zjv (Gc:=Qi fu) (Dv:=wV fu) hl h0 i b k (λ{x y} g1 c h m d n o=>Tu g1 c h W W n o (by rw[(W:X y=X (zX a)-1),d];exact l) W W e)
  (λ{x y} g1 c h m d=>au g1 c (by have:=xaf (97+1) (W:X x+1<=41);lia) W W d e)
theorem CB(b:yQ K a)(e:K<=100)(hl:X a<=40)(h0:BJ a=0)(h:∀j,Bb B<|M a j)(d:∀j,Bb B1<|M a<|j+1)(i:B<=6000)(k:B1<=6000)(l:GcZ B (B1+6) (X (zX a)) (X (zX a)-1))(c:3000000<=fu):
 ∃g R,jo fu a=Z (R,0)/\zfA a g R/\∀j,Bb (B+X (zX a)+4) (M R j):=by
 have hc:=jG a;have hd:=ue a;obtain⟨g,R,h1,m,n,o⟩:=zob b e hl h0 h d i k l c;refine⟨g,R,?_,n,o⟩;unfold jo;rw[U<|KC b W W c,S h0,U<|jR b W W c,U<|Hg (pA b) W W c,U h1];unfold GL;rw[U (v:=R)<|by rw[U m]]
theorem R8:wB 65521=I:=zj7 ⟨YL,YL,λd h1 e=>by
 have c:d<256:=by
  refine xac λhn=> ?_;have:=xbp (W:256<=d) (W:256<=d);lia
 have b:∀d:zV,d<256->2<=d->65521%d≠0:=by decide+kernel
 exact b d c h1⟩
theorem Hj(h:65521<=q):vb fu q=Z (0,5):=by
 unfold vb;simp_all
theorem nA(h1:1<=q)(h:q<65521)(k:3000000<=fu):∃r,vb fu q=Z (r,0)/\wB r=I/\q<r/\∀s,q<s->s<r->wB s=yL:=by
 unfold vb;obtain⟨r,c,r1,r2,l⟩:=yb (f:=aq fu) (λi:J=>q<i/\i<=65521/\∀s,q<s->s<i->wB s=yL) (λi=>(65521-i).toNat) (λr=>wB r=I/\q<r/\∀s,q<s->s<r->wB s=yL) (by
  rintro i L ⟨i1,i2,b⟩ d;unfold aq;rw[U<|Jj W]
  cases hp:wB i with
  |true=>rw[ir YL];exact⟨_,O,hp,i1,b⟩
  |false=>
   have m:i≠65521:=λe=>by rw[e,R8]at hp;cases hp
   rw[S YL,zb];refine d _ ⟨W,W,λs h1 j=> ?_⟩ W;by_cases e:s=i
   ·simp_all
   ·exact b s h1 W) fu (q+1) ⟨W,W,λs h1 j=>by lia⟩ W
 rw[zA,Q,(W:max q 1=q),zb,U c];simp_all
def ZJ(R:N G)(p:J):Prop:=wB p=I/\M R (X R-1)%p≠0/\jj p (M R) (dvp<|M R)
theorem za5{x:J}(h:Cg p g (F x*f))(hc:jj p g (dvp g)):jj p f (dvp f):=by
 have h1:Cg p (dvp g) (F x*dvp f):=(zhK h).trans (Cg.of (by
  rw[Uk,zvj];funext k;rw[zG,zT,zE,xco]))
 obtain⟨s,t,fs,b,e⟩:=hc.congr h h1;refine⟨s*F x,t*F x,fs.mul<|Fs.pc x,b.mul<|Fs.pc x,?_⟩;rw[zd,zd];exact e
theorem gh(hp:0<p:=by lia)(b:0<X R:=by lia):X (jH p R)=X R↔M R (X R-1)%p≠0:=by
 have hn:=(Q8 hp R).nl;constructor
 ·intro h;obtain h1|h1:=hn
  ·lia
  ·rw[h,bW]at h1;exact h1
 ·intro h;have:=zrA p R;by_cases e:X (jH p R)=X R
  ·exact e
  ·exfalso;rw[<-bW,zW W]at h;lia
theorem znt(hp:wB p=I)(v:0<X R)(hl:X R<=65)(w:X (jH p R)=X R)(h:3000000<=fu:=by lia):
 ∃m b,zoG p (jH p R) m/\xZ p m/\Zq fu (jH p R) p=Z (b,0)/\(b=I↔jj p (C m) (dvp<|C m))/\Zp fu (jH p R) p=if b=I then Z (m,0)else Z ([],1):=by
 obtain⟨i,z⟩:=zp hp;have e:=Q8 (p:=p) W R;obtain⟨m,b,h1,c,j,l,n⟩:=Hq (fu:=fu) hp e W W h;refine⟨m,b,h1,c,?_,l,n⟩;have A:=h1.ln;obtain⟨x,x0,D,o,e1⟩:=YQ (fu:=fu) hp e;obtain⟨E,c1,c2,G⟩:=Du (fu:=fu) hp c W h;have d:=DN i e W o;have r:yS p (jH p R) [x]=m:=by
  obtain⟨_,y,_,s⟩:=d.cg;obtain⟨u,_,t,_⟩:=h1.cg;have hc:Cg p (C m) (F (u*y)*C (yS p (jH p R) [x])):=by
   rw[<-uk,zd];exact t.trans<|Cg.rfl.mul s
  have t1:=hc<|X m-1;have t2:=d.top;have t3:=d.ln;rw[c.top,zU,(W:X m-1=X (yS p (jH p R) [x])-1),t2,xci]at t1;refine(c.fm.ext d.fm<|hc.trans ?_).symm;refine(Cg.mul (f':=F 1) (λk=> ?_) Cg.rfl).trans<|Cg.of<|zB _;unfold F;split
  ·exact t1.symm
  ·rfl
 rw[r]at e1;rw[<-j];unfold Zq WO;rw[U e1,U c1]
theorem Sa{m:N J}(h:zoG p (jH p R) m):jj p (C m) (dvp<|C m)↔jj p (M R) (dvp<|M R):=by
 obtain⟨x,y,b,c⟩:=h.cg;exact⟨λhc=>za5 (b.trans<|Cg.rfl.mul<|Ab p R) hc,λhc=>za5 ((Ab p R).symm.trans c) hc⟩
theorem Mb(h:zX R=R)(c:yQ K R)(j:K<=300)(h0:BJ R=0)(i:3000000<=fu):∃b,Ui fu R p=Z (b,0)/\(b=I↔ZJ R p):=by
 have k:=db h0;rw[h]at k;unfold Ui;obtain⟨y,l,_⟩:=lY (fu:=fu) c j W i;rw[U l,h0];simp only[wN];rw[U<|Jj W]
 cases hp:wB p with
 |false=>
  rw[S YL];exact⟨_,O,λe=>wl e YL,λe=>by rw[e.1]at hp;cases hp⟩
 |true=>
  obtain⟨s,n⟩:=zp hp;rw[ir YL,U<|Yj c W W n];simp only;rw[U<|zP c W W i,show xW (X R) (M R)=R from h];by_cases d:X (jH p R)=X R
  ·obtain⟨m,b,h1,t,o,r,_⟩:=znt (fu:=fu) hp W W d;rw[zS,U o];refine⟨b,O,?_⟩;rw[r,Sa h1];exact⟨λhc=>⟨hp,(gh).1 d,hc⟩,λhc=>hc.2.2⟩
  ·rw[zA];exact⟨_,O,λe=>wl e YL,λe=>wl ((gh).2 e.2.1) d⟩
structure zmY(R:N G)(p:J)(l:N (N J)):Prop where
 el:∀g∈l,KT p g/\PlL p g/\g.length<=66
 pw:l.Pairwise λa b=>jj p (C a)<|C b
 cg:Cg p (M R) (F (M R<|R.length-1)*prZ (l.map C))
 ln:l.length<=R.length-1
theorem zed{p:J}:∀{l:N (N J)},(∀g∈l,xZ p g/\1<X g)->∃d,Mn (prZ<|l.map C) d/\X l<=d
 |[],_=>⟨0,⟨O,λk c=>by show F 1 k=0;unfold F;rw[zA]⟩,eZ _⟩
 |g::l,h=>by
  obtain⟨h1,e⟩:=h g<|Qh;obtain⟨d,hd,hl⟩:=zed λx b=>h x<|kE _ b;exact⟨_,zst h1.mn hd,by rw[xar];lia⟩
theorem zlh(c:ZJ R p)(Q:1<X R)(hl:X R<=13)(hd:Rl ds)(z:X ds<=1000)(A:3000001<=fu):∃l,WB fu (jH p R) p ds=Z (l,0)/\zmY R p l:=by
 obtain⟨hp,D,hc⟩:=c;obtain⟨s,T⟩:=zp hp;obtain⟨P,rfl⟩:=xat (W:0<=p);have E:=(gh (p:=(P:J))).2 D;obtain⟨m,b,h1,h,U,G,u⟩:=znt (fu:=fu) hp W W E;have n:=(Sa h1).2 hc;rw[S<|G.2 n]at u;obtain⟨l,us,e1,V,e,i⟩:=L7 (fu:=fu) (b:=b) hp (Q8 W R) W W hd z A h1 h u n;have Y:=h1.ln;have hi:∀g∈l,X g<=66:=λg c=>by
  obtain⟨q,fq,H⟩:=e.dv c;have:=dm s h (e.mn g c).1 fq H;lia
 refine⟨l,e1,λg c=>⟨i g c,⟨λj _=>⟨(e.mn g c).1.fm.nn j,(e.mn g c).1.fm.lt j⟩,(e.mn g c).2,(e.mn g c).1.top⟩,hi g c⟩,?_,?_,?_⟩
 ·refine xdh.2 λ{a b} o=> ?_;have r:a∈l:=o.subset Xn;have v:b∈l:=o.subset Xn;refine(i a r).cop hp (i b v) (by have:=hi a r;lia) (by have:=hi b v;lia) λhn=> ?_;subst hn;have:=Ez (p:=(P:J)) (o.map C) ib;refine jj.sq s (i a r) n<|Di.cg ?_ e.pr.symm;refine Di.trans ⟨F 1,Fs.pc 1,Cg.of ?_⟩ this;show C a*(C a*F 1)=_;rw[yp,zB]
 ·obtain⟨x,y,hx,L⟩:=h1.cg;have w:=(Ab (P:J) R).symm.trans L;have t:=w<|X R-1;rw[zU,(W:X R-1=X m-1),h.top,xci,(W:X m-1=X R-1)]at t;refine w.trans<|Cg.mul (λk=> ?_) e.pr;unfold F;split
  ·exact t.symm
  ·rfl
 ·obtain⟨d,hd,hu⟩:=zed e.mn;have M:=h.mn;have N:(1:J)%(P:J)=1:=xax YL W;have t1:=e.pr d;rw[hd.1,N]at t1;by_cases hv:d<=X m-1
  ·lia
  ·rw[M.2 d W,xae]at t1;cases t1
theorem L9(G:zX R=R)(C:yQ K R)(H:K<=300)(h0:BJ R=0)(M:1<X R)(hl:X R<=13)(hd:Rl ds)(hp:X ds<=1000)(P:3000001<=fu):
 ∃p l,UE fu R ds=Z (p,l)/\((p=0/\∀q,¬ZJ R q)\/(ZJ R p/\zmY R p l)):=by
 have hi:∀{q r:J},(∀s,s<=q->¬ZJ R s)->(∀s,q<s->s<r->wB s=yL)->∀s,s<r->¬ZJ R s:=λ{q r} h1 y s v d=>by
  by_cases h:s<=q
  ·simp_all
  ·have:=y s W v;rw[d.1]at this;grind
 have Q:∀{q:J},65521<=q->(∀s,s<=q->¬ZJ R s)->∀s,¬ZJ R s:=λ{q} w h s d=>by
  have:=(zp d.1).2;exact h s W d
 obtain⟨s,v,p,l,rfl,T⟩:=yb (f:=aK fu R ds) (λs:J×J×N (N J)×J×J=>(s.2.2.2.2=0->wB s.2.2.2.1=I)/\0<=s.2.1/\((s.1=0/\s.2.1=0/\(s.2.2.2.2=0->∀q,q<s.2.2.2.1->¬ZJ R q)/\(s.2.2.2.2≠0->∀q,¬ZJ R q))\/(ZJ R s.1/\zmY R s.1 s.2.2.1))) (λs=>if s.2.2.2.2=0 then(65522-s.2.2.2.1).toNat else 0)
  (λr=>∃p l,r=(p,l)/\((p=0/\∀q,¬ZJ R q)\/(ZJ R p/\zmY R p l))) (by
  rintro⟨b,n,out,q,e⟩ L ⟨i1,i2,m⟩ o
  simp only at i1 i2 m o
  unfold aK
  simp only
  by_cases i:e=0
  ·have w:=i1 i
   obtain⟨q1,q2⟩:=zp w
   rw[S i]
   by_cases hn:n<5
   ·obtain⟨c,c1,c2⟩:=Mb (fu:=fu) (p:=q) G C H h0 W
    rw[S hn,U c1]
    have hc:∃r u,vb fu q=Z (r,u)/\(u=0->wB r=I/\q<r/\∀s,q<s->s<r->wB s=yL)/\(u≠0->65521<=q):=by
     by_cases h:65521<=q
     ·exact⟨0,5,Hj h,λh=>wl h YL,λ_=>h⟩
     ·obtain⟨r,h1,y⟩:=nA (fu:=fu) (q:=q) W W W;exact⟨r,0,h1,λ_=>y,λh=>wl O h⟩
    obtain⟨r,u,n1,n2,V⟩:=hc
    have x:(if u=0 then(65522-r).toNat else 0)<(if e=0 then(65522-q).toNat else 0):=by
     rw[S i];split
     ·have:=n2 (by assumption);lia
     ·lia
    cases c with
    |false=>
     have Y:¬ZJ R q:=λd=>by have:=c2.2 d;cases this
     rw[S YL,U n1]
     refine o _ ⟨λh=>(n2 h).1,i2,?_⟩ x
     rcases m with⟨k,z,D,E⟩|j
     ·have F:∀s,s<=q->¬ZJ R s:=λs v d=>by
       by_cases h:s=q
       ·rw[h]at d;exact Y d
       ·exact D i s W d
      exact .inl ⟨k,z,λh=>hi F (n2 h).2.2,λh=>Q (V h) F⟩
     ·exact .inr j
    |true=>
     have d:=c2.1 O
     obtain⟨t,t1,t2⟩:=zlh (fu:=fu) d M hl hd hp P
     rw[ir YL,zb,U<|Yj C W W q2]
     simp only
     rw[U t1]
     simp only
     by_cases A:b=0
     ·rw[S A,U n1]
      exact o _ ⟨λh=>(n2 h).1,by show 0<=n+1;lia,.inr ⟨d,t2⟩⟩ x
     ·have j:ZJ R b/\zmY R b out:=by
       rcases m with⟨k,_⟩|j
       ·exact wl k A
       ·exact j
      rw[ir A]
      split
      ·rw[U n1]
       exact o _ ⟨λh=>(n2 h).1,by show 0<=n+1;lia,.inr ⟨d,t2⟩⟩ x
      ·rw[U n1]
       exact o _ ⟨λh=>(n2 h).1,by show 0<=n+1;lia,.inr j⟩ x
   ·rw[ir hn]
    refine⟨_,O,b,out,O,?_⟩
    rcases m with⟨k,z,_⟩|j
    ·lia
    ·exact .inr j
  ·rw[ir i]
   refine⟨_,O,b,out,O,?_⟩
   rcases m with⟨k,z,D,E⟩|j
   ·exact .inl ⟨k,E i⟩
   ·exact .inr j) fu (0,0,[],2,0) ⟨λ_=>zju,xfh 0,.inl ⟨O,O,λ_ q w d=>by have:=(zp d.1).1;simp only at w;lia,λh=>wl O h⟩⟩ (by
   show(if(0:J)=0 then((65522:J)-2).toNat else 0)<fu
   rw[S O]
   lia)
 refine⟨p,l,?_,T⟩;unfold UE;obtain⟨r,r1,r2,r3,r4⟩:=nA (fu:=fu) (q:=1) YL YL W;have:r=2:=by
  by_cases h:r=2
  ·exact h
  ·have h5:=(zp r2).1;have:=r4 2 YL W;rw[zju]at this;cases this
 subst this;rw[U r1];simp only;rw[U v]
end
section
variable{fu K Y:zV}{a b R:zC Zr}
theorem zi7(f g:zV->J):∀n,Lf f g n= -1\/Lf f g n=0\/Lf f g n=1
 |0=> .inr (.inl O)
 |n+1=>by
  unfold Lf;split
  ·exact zi7 f g n
  ·lia
theorem N2(a b:N G):jO a b= -1\/jO a b=0\/jO a b=1:=by grind [jO,zi7]
theorem IU(f:yQ K a)(g:yQ K b)(k:zX a=a)(l:zX b=b)(p:K<=40000)(hd:X a<=1000)(q:X b<=1000)(d:3000000<=fu):WK fu a b=Z (decide<|jO a b<0):=by
 unfold WK;rw[U<|zP f W W d,U<|zP g W W d,show xW (X a) (M a)=a from k,show xW (X b) (M b)=b from l];have hc:jO a b=if X a=X b then Lf (M a) (M b) (X a) else if X a<X b then-1 else 1:=O;by_cases hl:X a=X b
 ·rw[S hl]at hc;rw[zS,zb,U (v:=if jO a b=0 then Sum.inl ()else Sum.inr (decide<|jO a b<0))]
  ·obtain h|h|h:=N2 a b<;>rw[h]<;>rfl
  ·rw[hc];refine zt (λs:J=>∃n:zV,s=(n:J)-1/\n<=X a/\Lf (M a) (M b) n=Lf (M a) (M b) (X a)) (λs=>(s+1).toNat) _ ?_ _ _ ⟨X a,O,eZ _,O⟩ (by show((X a:J)-1+1).toNat<fu;lia);rintro s L ⟨n,rfl,hn,c⟩ m;unfold nU
   cases n with
   |zero=>
    rw[zA,<-c];rfl
   |succ n=>
    have o:=f.get n;have ob:=g.get n;rw[(W:((n+1:zV):J)-1=(n:J)),zS,yc,Q,yc,Q,U<|Xl (iw.of o W) (iw.of ob W) d,YV,YV];rw[show Lf (M a) (M b) (n+1)=if M a n=M b n then Lf (M a) (M b) n else if M a n<M b n then-1 else 1 from O]at c;by_cases e:M a n=M b n
    ·rw[S e]at c;rw[S<|xK.2 e,zb];exact m _ ⟨n,O,W,c⟩ W
    ·rw[ir e]at c;rw[ir λh=>e<|xK.1 h];unfold ke;by_cases i:M a n<M b n
     ·rw[S i]at c⊢;rw[<-c,S YL];rfl
     ·rw[ir i]at c⊢;rw[S (W:M b n<M a n),<-c,ir YL];rfl
 ·rw[ir hl]at hc;rw[zA,hc];by_cases j:X a<X b
  ·rw[S j,zS];rfl
  ·rw[ir j,zA];rfl
theorem DK(c:yQ K a)(d:yQ K b)(e:zX a=a)(f:zX b=b)(g:K<=40000)(hc:X a<=1000)(hd:X b<=1000)(h:3000000<=fu):uz fu a b=Z (jO a b):=by grind [uz,U,IU,YT,N2]
theorem zsg:Od3 jO Gd:=⟨λx y z _ _ _ h1 d e=>by
 have f:=PJ (a:=x) (b:=y) (c:=z) (by have:=YT x y;lia) (by have:=YT y z;lia);have:=YT x z;lia,λx y _ _ h1 d=>by
 have:=YT x y;lia⟩
def BdY(R:N G)(Y:zV):Prop:=∃r:zV,Y=(r+1)*2^(X R-1)/\(r:J)*r<Aj (M R) (X R)/\Aj (M R) (X R)<=((r:J)+1)*(r+1)
theorem znb(c:zX R=R)(e:yQ K R)(f:K<=300)(h0:BJ R=0)(g:3000000<=fu):∃Y,vV fu R=Z (yf (Y:zV),0)/\BdY R Y:=by
 have d:=db h0;have h:=XB (show R=xW (X R) (M R)from c.symm) (by rw[c]at d;lia);obtain⟨y,h1,i⟩:=lY e f (by rw[c]at d;lia) g;obtain⟨r,rfl,j,k⟩:=i h0;rw[c]at h1 j k d;have hc:=Nc (n:=X R) ⟨X R-1,W,h⟩;refine⟨_,by rw[h1,h0],r,O,?_,?_⟩
 ·lia
 ·grind
theorem ztG{x y:zV}(h:x*x<=y*y):x<=y:=by
 refine xac λhn=> ?_;have:=xdA (W:y<x) (W:y<x);lia
theorem zw8{M:J}(m:0<X R)(c:Tp (cf R) (X R-1))(hp:0<cf R (X R-1))(g:BdY R Y)(n:2*((Y:J)*cf R (X R-1))<M):Bdz M (cf R):=λu v b fu hv e j=>by
 obtain⟨r,rfl,_,h⟩:=g;obtain⟨i,_⟩:=Y7 c.nz e;obtain⟨a,d⟩:=Tp.ex fu i;have k:a+b=X R-1:=by
  have:=d.mul hv;rw[<-e]at this;exact this.uniq c
 have l:(v b*u j).natAbs<=(r+1)*2^(X R-1):=by
  refine ztG ?_;have o:((v b*u j).natAbs*(v b*u j).natAbs:zV)=(v b*u j*(v b*u j)).natAbs:=(xcK _ _).symm;have p:(((r+1)*2^(X R-1)*((r+1)*2^(X R-1)):zV):J)=4^(X R-1)*(((r:J)+1)*(r+1)):=by
   have:(4:J)^(X R-1)=2^(X R-1)*2^(X R-1):=by rw[(YL:(4:J)=2*2),Int.mul_pow]
   grind
  have h0:=Wk<|v b*u j;have q:v b*u j*(v b*u j)<=4^(X R-1)*(((r:J)+1)*(r+1)):=by
   have f:=mig d hv e j;rw[k,(W:X R-1+1=X R)]at f;exact Int.le_trans f<|xaN h<|Int.pow_nonneg YL
  lia
 have s:(((r+1)*2^(X R-1):zV):J)*1<=(((r+1)*2^(X R-1):zV):J)*cf R (X R-1):=xaN W W;lia
theorem zos(k:zX R=R)(e:yQ K R)(l:K<=300)(hl:0<X R)(m:X R<=65)(i:vV fu R=Z (yf (Y:zV),0))(f:Bz 1000 (Y:J))(d:3000000<=fu):Uu fu R=Z (decide<|1000<bl (2*((Y:J)*M R (X R-1))).natAbs):=by
 have b2:Bz 1 2:=by unfold Bz;decide
 have ob:=e.get<|X R-1;have j:=e.bz<|X R-1;have g:=f.mul j;have c:=b2.mul g;unfold Uu;rw[U i];simp only;rw[U<|yE YL d,(W:(X R:J)-1=((X R-1:zV):J)),zb,yc,Q,U<|yK (f.ok YL) (iw.of ob W) d,zm,YV,U<|yK (b2.ok YL) (g.ok W) d,zm,zm,U<|Ja (yx _) (by have:=c.len;lia) (by have:=c.len;lia),show nv (yf<|2*((Y:J)*M R (X R-1))).2=(2*((Y:J)*M R (X R-1))).natAbs from ym _];by_cases h:1000<bl (2*((Y:J)*M R (X R-1))).natAbs
 ·grind
 ·grind
theorem zr5{n k:zV}(h:bl n<=k):n<2^k:=by grind [IB,xah,xam]
theorem zk4{p:J}(hp:wB p=I)(y:zX R=R)(l:yQ K R)(z:K<=300)(hl:0<X R)(A:X R<=65)(o:vV fu R=Z (yf (Y:zV),0))(m:Bz 1000 (Y:J))(i:bl (2*((Y:J)*M R (X R-1))).natAbs<=1000)(c:3000000<=fu):
 ∃k:zV,Q6 fu R p=Z (k:J)/\1<=k/\k<=1000/\2*((Y:J)*M R (X R-1))<p^k:=by
 obtain⟨B,C⟩:=zp hp;obtain⟨E,q⟩:∃E,E=1000:=⟨_,O⟩;have i:=zr5 (k:=E) (by rw[q];exact i);have b2:Bz 1 2:=by unfold Bz;decide
 have ob:=l.get<|X R-1;have t:=l.bz<|X R-1;have n:=m.mul t;have d:=b2.mul n;have u:Bz 1 p:=by unfold Bz;rw[Nat.pow_one];lia
 obtain⟨T,g⟩:∃T,T=2*((Y:J)*M R (X R-1)):=⟨_,O⟩;have hd:∀k:zV,((2^k:zV):J)<=p^k:=λk=>by
  obtain⟨P,rfl⟩:=xat (W:0<=p);have:=Nat.pow_le_pow_left (W:2<=P) k;have e:((P^k:zV):J)=(P:J)^k:=Xn
  rw[<-e];lia
 obtain⟨r,v,k,rfl,k1,k2,w⟩:=yb (f:=Kn fu p<|yf T) (λs:J×G=>∃k:zV,s=((k:J),yf<|p^k)/\1<=k/\k<=1000) (λs=>1000-s.1.toNat) (λr=>∃k:zV,r=(k:J)/\1<=k/\k<=1000/\T<p^k) (by
  rintro s L ⟨k,rfl,k1,k2⟩ x;unfold Kn;simp only;have j:=Gg hp k2;rw[U<|Xl (j.ok YL) ((g▸d).ok W) c (by have:=j.len;lia) (by have:=(g▸d:Bz _ T).len;lia),zm,zm];by_cases h:T<p^k
  ·have hc:ke (p^k) T=1:=by unfold ke;rw[zA,S h]
   rw[hc,ir YL];exact⟨_,O,k,O,k1,k2,h⟩
  ·have D:k<1000:=by
    refine xac λhn=> ?_;obtain rfl:k=E:=W
    have:=hd k;rw[<-g]at i;lia
   have hc:ke (p^k) T<=0:=by
    unfold ke;split
    ·decide
    ·first|decide|(rw[ir h];decide)
   rw[S hc,U<|yE ⟨W,W⟩ c,U<|yK (j.ok YL) (u.ok YL) c,zm,zm,zb,<-xbo];exact x _ ⟨k+1,O,W,W⟩ (by show 1000-((k:J)+1).toNat<1000-(k:J).toNat;lia)) fu (1,yf p) ⟨1,by rw[xbo,xbD,xcr];rfl,W,W⟩ (by show 1000-(1:J).toNat<fu;lia)
 refine⟨k,?_,k1,k2,by rw[<-g];exact w⟩;unfold Q6;rw[U o];simp only;rw[U<|yE YL c,(W:(X R:J)-1=((X R-1:zV):J)),zb,yc,Q,U<|yK (m.ok YL) (iw.of ob W) c,zm,YV,U<|yK (b2.ok YL) (n.ok W) c,zm,zm,<-g,U<|yE ⟨W,W⟩ c,U v]
end
section
variable{R a:zC Zr}{fu K B:zV}{ds:zC zI}
theorem zgs{R:N G->N J->Prop}:∀{us:N (N G)}{fs:N (N J)},OX R us fs->∃xs:N Lx,us=xs.map (·.1)/\fs=xs.map (·.2)/\∀x∈xs,R x.1 x.2
 |[],[],_=>⟨[],O,O,λ_ h=>wl h QT⟩
 |u::us,f::fs,h=>by
  obtain⟨xs,e1,b,c⟩:=zgs h.2;refine⟨(u,f)::xs,by rw[e1];rfl,by rw[b];rfl,λx hx=> ?_⟩;obtain rfl|hx:=PQ.1 hx
  ·exact h.1
  ·simp_all
def zi5(R:N G):Prop:=∃Y,BdY R Y/\1000<bl (2*((Y:J)*M R (X R-1))).natAbs
theorem BdY.uniq{Y f:zV}(h:BdY R Y)(g:BdY R f):Y=f:=by
 obtain⟨r,rfl,h1,b⟩:=h;obtain⟨s,rfl,g1,d⟩:=g;have c:∀{r s:zV}{S:J},r*r<S->S<=(s+1)*(s+1)->¬s<r:=λ{r s S} h1 b e=>by
  have:((s:J)+1)*(s+1)<=r*r:=Int.mul_le_mul W W W W;lia
 grind
theorem Lb(s:zX R=R)(pm:Pm (M R))(ps:Po (M R))(E:yQ K R)(hK:K<=200)(hl:X R<=11)(hd:Rl ds)(hV:X ds<=1000)(H:3000300<=fu):
 ∃l b,KY fu R ds=Z (l,b)/\(b=I↔X R<2\/(¬zi5 R/\∃p,ZJ R p))/\(b=I->(∀g∈l,Gd g)/\M R=prZ (l.map λg=>(M g:Pz))/\l.Pairwise (λa b=>jO a b<0)/\X l<=12):=by
 have hJ:X (zX R)≠0:=λe=>by
  obtain⟨j,hj⟩:=pm.nz;exact hj<|VT e j
 have L:=Ze hJ;rw[s]at hJ L;have hB:0<M R (X R-1):=by
  obtain⟨m,m1,m2⟩:=ps.tp;rw[<-m1.uniq L];exact m2
 unfold KY;by_cases h2:X R<2
 ·rw[zS];refine⟨[],I,O,⟨λ_=> .inl h2,λ_=>O⟩,λ_=>⟨λg u=>wl u QT,?_,xfc,sB _⟩⟩;obtain⟨d,hd⟩:=((Cn.tp L).2 W).ex;have z:M R (X R-1)=d:=by rw[hd,(W:X R-1=0)];exact iq O
  rw[hd]at pm;obtain e|e:=zaZ pm
  ·rw[hd,e];rfl
  ·lia
 ·have h0:BJ R=0:=by unfold BJ;rw[s,zA,zA]
  obtain⟨Y,hY,V⟩:=znb (fu:=fu) s E W h0 W;have hM:Bz 1000 (Y:J):=by
   obtain⟨r,rfl,z,N⟩:=V;have h5:=zg8 (K:=K) (f:=M R) E.bz (X R) W;have h6:Bz 401 (r:J):=by
    refine Bz.nat ?_;refine xaG (show r<=r*r from Nat.le_mul_self r) ?_;have h7:((r*r:zV):J)=(r:J)*r:=Xn
    have h8:=h5.mono (W:K+K+1<=401);unfold Bz at h8;lia
   have h9:Bz 402 (((r+1:zV):J)):=(h6.add<|Bz.one' (k:=401) YL).le W;have hW:Bz 1 (((2^(X R-1):zV):J)):=Bz.nat (by
    rw[Nat.pow_one];exact xaG (xam YL (W:X R-1<=10)) YL)
   have:=(h9.mul hW).mono (YL:402+1<=1000);rwa[<-xda]at this
  have hN:zi5 R↔1000<bl (2*((Y:J)*M R (X R-1))).natAbs:=⟨λ⟨o,z1,z2⟩=>by rw[V.uniq z1];exact z2,λh=>⟨Y,V,h⟩⟩;rw[zA,U<|zos s E W W W hY hM W];by_cases u:1000<bl (2*((Y:J)*M R (X R-1))).natAbs
  ·rw[wU u,iq O];refine⟨[],yL,O,⟨λh=>wl h YL,λh=> ?_⟩,λh=>wl h YL⟩;obtain h|h:=h
   ·exact wl h h2
   ·exact wl (hN.2 u) h.1
  ·rw[wS u,ir YL];obtain⟨p,l,e1,hQ⟩:=L9 (fu:=fu) s E W h0 W W hd hV W;rw[U e1];simp only;rcases hQ with⟨hX,hZ⟩|⟨hE,D⟩
   ·rw[iq hX];refine⟨[],yL,O,⟨λh=>wl h YL,λh=> ?_⟩,λh=>wl h YL⟩;obtain h|⟨_,q,hq⟩:=h
    ·exact wl h h2
    ·exact wl hq<|hZ q
   ·obtain⟨hp,P,hc⟩:=hE;obtain⟨p1,p2⟩:=zp hp;obtain⟨k,e2,k1,k2,k3⟩:=zk4 (fu:=fu) hp s E W W W hY hM (xbl u) W;have hO:En p (k:J)=(yf<|p^k,0):=by
     unfold En;rw[Zc ⟨hp,W,W⟩,xaJ]
    have h1:=D.ln;rw[zA,U e2,U (ZH W),hO];simp only;have h':Q9 fu R l p=Z ([],R,l):=by
     unfold Q9;rw[U (v:=(R,l))];obtain⟨n,hn⟩:∃n,fu=n+1:=⟨fu-1,W⟩;have:zg (Ki fu p) (n+1) (R,l)=Z (R,l):=by
      rw[w6];unfold Ki;simp only;rw[zA]
     rw[<-hn]at this;exact this
    rw[U h'];simp only;have hz:=(gh (p:=p)).2 P;have hP:ph p (zX R) l:=by
     rw[s];refine⟨W,hz,W,λi hi=> ?_,λi j hi hj=> ?_,?_⟩
     ·have T:=zby (l:=l) hi;refine⟨?_,(D.el _ T).2.1⟩;obtain⟨q,fq,hq⟩:Di p (C<|l.getD i []) (M R):=Di.cg ((iA ib<|xbH T).mul _<|Fs.pc _) D.cg.symm;have hT:=(D.el _ T).1.mn;obtain⟨x,G,b5⟩:=E5 hp P 1|>λ⟨x,G⟩=>(⟨x,G,O⟩:∃x,p^1∣x*M R (X R-1)-1/\vF=vF);by_cases a0:X (l.getD i [])<=X R
      ·exact a0
      ·exfalso;have z:=hT.mn.zero p1 fq λk hk=>by rw[<-hq k,L.2 k (by have:=hT.ln;lia),xae]
       have N:=(hq.trans<|z.mul_zero_r _)<|X R-1;rw[zE,xae]at N;exact P N
     ·have z:=xcR.1 D.pw j i W hi hj;rw[Yh,Yh,xaa hi,xaa (W:j<X l)];exact z.symm
     ·refine(vv (p:=p) W _ _).ext (Q8 W R) ((jD p _ _).trans<|(Cg.mul (Dr p l) Cg.rfl).trans<|Cg.trans ?_ (Ab p R).symm);rw[va,zk];refine Cg.trans (Cg.mul (λj=> ?_) Cg.rfl) D.cg.symm;rw[bW];unfold F;split
      ·exact xay _ _
      ·rfl
    obtain⟨us,e,e3,e4,e5⟩:=Gm (fu:=fu) (p:=p) (k:=(k:J)) (a:=R) (fs:=l) (E.mono W) W W;have he:e=0:=by
     refine xac λhF=> ?_;have hr:=B8 (fu:=fu) (fs:=l) hp (E.mono (by lia:K<=250)) YL (by lia:X R<=66) W;obtain⟨bb,b1,b2⟩:=hr;rw[b2.2<|by rw[s]at hP;exact hP]at b1;have:=zoN (E.mono (by lia:K<=250)) W W W W e3;unfold zpr at this;rw[iq hp,s,zA,iq b1]at this;exact hF this
    obtain⟨hG,_⟩:=e4 he;rw[xaJ]at hG;have a1:=hG.up;obtain⟨xs,rfl,rfl,G⟩:=zgs a1;have hF:xs.map (·.2)≠[]:=λe=>by
     have z:=D.cg<|X R-1;rw[e,show prZ ([].map C)=F 1 from O,yp]at z;have N:F (M R<|X R-1) (X R-1)=0:=zA;rw[N,xae]at z;exact P z
    have hU:=hG.cg hF;rw[s,xcP]at hU;rw[xaV]at h1;have hC:Ch p k (M R) R xs [] 1:=by
     have hL:Lc p k (M R) (X R-1) xs:=⟨hp,k1,λx hH=>⟨G x hH,(D.el _<|xbH hH).1,(D.el _<|xbH hH).2.2⟩,(xeF (R:=λa b=>jj p (C a)<|C b) (f:=λx:Lx=>x.2)).1 D.pw,L,W,hB,P,pm,hU⟩;exact⟨hL,k2,s,E.mono W,hl,zw8 W L hB V k3,Ls.one hL,by rw[xbA];lia,(zB _).symm,λg u=>wl u QT⟩
    obtain⟨out,o1,o2,o3,o4⟩:=zgv (fu:=fu) hC W;rw[zS,U e3];simp only;rw[U o1,xi (by simp only[xbA];lia),Q,xbF];obtain⟨r,s1,s2,s3⟩:=zcb (fu:=fu) (cmp:=λa2 a3=>uz fu a2 a3) (c:=jO) (S:=Gd) (λx y G hy=>DK G.ok hy.ok G.can hy.can YL (by have:=G.ln;lia) (by have:=hy.ln;lia) W) (t:=out) o3 W W;have hI:M R=prZ (r.map λg=>(M g:Pz)):=by rw[o4];exact zfH<|s2.symm.map _
    have hw:∀g∈r,Gd g:=λg u=>o3 g<|s2.mem_iff.1 u;rw[U s1];refine⟨r,I,O,⟨λ_=> .inr ⟨λh=>u<|hN.1 h,p,hp,P,hc⟩,λ_=>O⟩,λ_=>⟨hw,hI,?_,by rw[s2.length_eq];lia⟩⟩;refine(xdh.2 λ{a b} hs=> ?_);have z:¬jO b a<0:=(xdh.1<|s3 zsg) hs;have ha:a∈r:=hs.subset Xn;have hb:b∈r:=hs.subset Xn;have N:=YT a b;by_cases h5:jO a b=0
    ·exfalso;have a4:=GU (hw a ha).can (hw b hb).can h5;subst a4;obtain⟨m,w,hS,T⟩:=hC.lc.sf;have hD:=Ez (p:=p) (hs.map λg=>(M g:Pz)) λf H=>by
      obtain⟨g,_,rfl⟩:=xan.1 H;exact Fs.cf g
     rw[<-hI]at hD;have a5:Di p ((M a:Pz)*M a) (C m):=by
      refine Di.trans ⟨F 1,Fs.pc 1,Cg.of ?_⟩<|hD.trans ⟨F w,Fs.pc w,T⟩;show(M a:Pz)*(M a*F 1)=_;rw[yp,zB]
     have a9:=hw a ha;have b0:Zd (M a) (M R):=by
      rw[hI];obtain⟨A,B,e6⟩:=xdY ha;rw[e6,xaU,xch,wO];refine Zd.mul _ (Fs.prZ λf H=> ?_)<|Zd.left<|Fs.prZ λf H=> ?_
      ·obtain⟨g,_,rfl⟩:=xan.1 H;exact Fs.cf g
      ·obtain⟨g,_,rfl⟩:=xan.1 H;exact Fs.cf g
     obtain⟨v,fv,hv⟩:=b0;have h6:=hC.ls (M a) v (Fs.cf a) fv (by rw[hv,zk]) a9.ir.dg;obtain⟨x,b3⟩:∃x,x∈own p (M a) xs:=by
      cases b4:own p (M a) xs with
      |nil=>rw[b4]at h6;exact wl h6 YL
      |cons x t=>exact⟨x,Qh⟩
     obtain⟨h7,h8⟩:=lv.1 b3;exact hS.apart (Fs.cf a) (Fs.cf a) a5 (xbH h7) h8 h8
    ·lia
theorem LF{q:N G}{m:zV}(y:yQ K a)(V:K<=50)(l:Tp (M a) m)(Y:m<=11)(hc:X a<=40)(z:∀j,Bb B<|M a j)(hB:B<=3000)(d:Gd q)(C:yQ 50 q)(D:3000000<=fu):
 ∃n:zV,Vy fu a q=Z (n:J)/\n<=11/\Mu (M q) (M a) n:=by
 have v:X (zX q)≠0:=λe=>by
  obtain⟨j,E⟩:=d.ir.pm.nz;exact E<|VT e j
 have o:=Ze v;rw[d.can]at o;have hg:=d.ln;have hl:1<=X q-1:=by refine xac λh=>d.ir.dg<|(Cn.tp o).2 W
 have fp:=λn=>d.ir.fs.pp n;have one:∀(t:N G) (n:zV),yQ 60 t->X t<=40->M a=(M t:A)*pp (M q) n->∃b e,wV fu t q=Z (b,e)/\(e=0->yQ 60 b/\X b<=40/\M a=(M b:A)*pp (M q) (n+1))/\(e≠0->Mu (M q) (M a) n):=λt n o1 l1 e1=>by
  obtain⟨b,e,d1,d2,d3⟩:=au (fu:=fu) o1 C (by have:=xaf (50+1) (W:X t+1<=41);lia) W W v D;refine⟨b,e,d1,λc=> ?_,λc=>⟨M t,Fs.cf t,e1,λH=>c<|d2.2 H⟩⟩;obtain⟨f1,f2,f3⟩:=d3 c;have w:M a=(M b:A)*pp (M q) (n+1):=by
   rw[e1,f1,zd];show _=_*(pp (M q) n*M q);rw[zk<|pp (M q) n]
  refine⟨?_,W,w⟩;rw[<-f2];exact yF λj=>(FW l (Fs.cf b) (fp _) w W z j).bz W
 obtain⟨q1,x,c1,c2,P⟩:=one a 0 (y.mono W) hc (yp _).symm;have p:∀{t:N G}{n:zV},M a=(M t:A)*pp (M q) n->n<=m:=λ{t n} e=>by
  obtain⟨Q,np⟩:=Y7 l.nz e;obtain⟨i,hi⟩:=Tp.ex (Fs.cf t) Q;have hd:∀n,Tp (pp (M q) n) (n*(X q-1)):=λn=>by
   induction n with
   |zero=>rw[xcs];exact⟨show F 1 0≠0 by decide,λk hk=>by show F 1 k=0;unfold F;rw[zA]⟩
   |succ n g=>rw[xaT,xbL];exact g.mul o
  have h1:=hi.mul<|hd n;rw[<-e]at h1;have u:=h1.uniq l;have h3:=xcl n (W:0<X q-1);lia
 obtain⟨s,T,n,rfl,n1,n2⟩:=yb (f:=aG fu q) (λs:J×N G×J=>∃n:zV,s.1=(n:J)/\(s.2.2=0->yQ 60 s.2.1/\X s.2.1<=40/\M a=(M s.2.1:A)*pp (M q) (n+1))/\(s.2.2≠0->n<=11/\Mu (M q) (M a) n)) (λs=>if s.2.2=0 then 20-s.1.toNat else 0) (λr=>∃n:zV,r=(n:J)/\n<=11/\Mu (M q) (M a) n) (by
  rintro⟨i,t,e⟩ L ⟨n,hn,h1,u⟩ g;simp only at hn h1 u g;subst hn;unfold aG;simp only;by_cases c:e=0
  ·obtain⟨o1,l1,e1⟩:=h1 c;have ho:=p e1;obtain⟨b,e',d1,d2,d3⟩:=one t (n+1) o1 l1 e1;rw[S c,zb,U d1];refine g _ ⟨n+1,by show(n:J)+1=((n+1:zV):J);lia,d2,λh=>⟨W,d3 h⟩⟩ ?_;rw[S c];split
   ·show 20-((n:J)+1).toNat<20-(n:J).toNat;lia
   ·show 0<20-(n:J).toNat;lia
  ·rw[ir c];exact⟨_,O,n,O,u c⟩) fu (0,q1,x) ⟨0,O,c2,λh=>⟨W,P h⟩⟩ (by
  show(if x=0 then 20-(0:J).toNat else 0)<fu;split<;>lia)
 refine⟨n,?_,n1,n2⟩;unfold Vy;rw[U c1];simp only;rw[U T]
def zla(R:N G):Prop:=X R<2\/(¬zi5 R/\∃p,ZJ R p)
theorem ztL(h:Rad a R):Zd (M R) (M a):=by
 obtain⟨g,b,e⟩:=h.dv;rw[<-QJ a,e];exact(Zd.left b).mul _<|Fs.pc _
theorem aB(b:yQ K a)(c:K<=40000)(hl:X a<=1000000)(h0:BJ a≠0)(d:3000000<=fu:=by lia):xE fu a ds=Z ((yL,[]),[],BJ a):=by grind [xE,U,CW]
theorem FE(w:yQ K a)(T:K<=50)(hl:X a<=40)(h0:BJ a=0)(hr:X (zX a)<=11)(y:∀j,Bb B<|M a j)(V:B<=3000)(r1:jo fu a=Z (R,0))(r2:Rad a R)(Y:∀j,Bb (B+X (zX a)+4)<|M R j)(hd:Rl ds)(hk:X ds<=1000)(d:3000300<=fu):
 (zla R/\∃l,xE fu a ds=Z (yf<|yG a,l,0)/\FL (M a) l/\X l<=12/\∀x∈l,Gd x.1/\x.2<=11)\/
  (¬zla R/\xE fu a ds=Z ((yL,[]),[],6)):=by
 have hp:=db h0;have z:=Ze (a:=a) W;have oR:yQ 50 R:=by rw[<-r2.can];exact yF λj=>(Y j).bz W
 obtain⟨l,b,C,E,s3⟩:=Lb (fu:=fu) r2.can r2.pm r2.ps oR YL (by have:=r2.ln;lia) hd hk d
 cases b with
 |false=>
  refine .inr ⟨λh=>(by have:=E.2 h;cases this),?_⟩;unfold xE;rw[U r1];simp only[wN];rw[U C];rfl
 |true=>
  obtain⟨g1,H,g3,g4⟩:=s3 O;refine .inl ⟨E.1 O,?_⟩;have P:∀q∈l,Zd (M q) (M a):=λq c=>by
   refine Zd.trans ?_<|ztL r2;rw[H];obtain⟨A,D,e6⟩:=xdY c;rw[e6,xaU,xch,wO];refine Zd.mul _ (Fs.prZ λf d=> ?_)<|Zd.left<|Fs.prZ λf d=> ?_
   ·obtain⟨g,_,rfl⟩:=xan.1 d;exact Fs.cf g
   ·obtain⟨g,_,rfl⟩:=xan.1 d;exact Fs.cf g
  have hj:∀q∈l,∃n:zV,Vy fu a q=Z (n:J)/\n<=11/\Mu (M q) (M a) n:=λq c=>by
   have k:=g1 q c;refine LF w T z W hl y V k ?_ W;obtain⟨u,m,e⟩:=P q c;rw[<-k.can];exact yF λj=>(FW z (Fs.cf q) m (by rw[e,zk]) W y j).bz W
  obtain⟨s,hs,out,rfl,o1,o2⟩:=yb (f:=QK fu a l) (λs:N (N G×J)×J×G×N (N G)=>∃(i:zV) (out:N (N G×J)),s=(out,(i:J),(yL,[]),l)/\i<=X l/\out.map (·.1)=l.take i/\∀x∈out,∃n:zV,x.2=(n:J)/\n<=11/\Mu (M x.1) (M a) n) (λs=>X l-s.2.1.toNat)
   (λr=>∃out:N (N G×J),r=(out,(yL,[]))/\out.map (·.1)=l/\∀x∈out,∃n:zV,x.2=(n:J)/\n<=11/\Mu (M x.1) (M a) n) (by
   rintro s L ⟨i,out,rfl,hi,h1,t⟩ ih
   unfold QK
   simp only
   by_cases o:i<X l
   ·have hm:l.getD i []∈l:=by
     rw[Yh,xaa o];exact xbx o
    obtain⟨n,n1,n2,p⟩:=hj _ hm
    have ht:X out=i:=by
     have:=wF xaD h1;rw[xaV,xap]at this;lia
    rw[zS,U O]
    simp only[wN]
    rw[zo o,Q,U n1,xi (by simp only[xar,xbA];lia),Q,zb]
    refine ih _ ⟨i+1,_,O,W,?_,λx hx=> ?_⟩ (by show X l-((i:J)+1).toNat<X l-(i:J).toNat;lia)
    ·rw[xaU,h1,xeE,xaa o,Yh,xaa o]
     rfl
    ·obtain hx|hx:=pN.1 hx
     ·exact t x hx
     ·obtain rfl:=xab.1 hx
      exact⟨n,O,n2,p⟩
   ·rw[zA,U O]
    simp only[xaj,wP]
    obtain rfl:i=X l:=W
    rw[xcA]at h1
    exact⟨_,O,out,O,h1,t⟩) fu ([],0,(yL,[]),l) ⟨0,[],O,sB _,by rw[List.take_zero];rfl,λx hx=>wl hx QT⟩ (by show X l-(0:J).toNat<fu;lia)
  have hc:∀x∈out,x.1∈l:=λx hx=>by rw[<-o1];exact xbH hx
  refine⟨out,?_,⟨λx hx=> ?_,λq c pq hz=> ?_,?_⟩,?_,λx hx=>⟨g1 _<|hc x hx,?_⟩⟩
  ·unfold xE;rw[U r1];simp only[wN];rw[U C];simp only;rw[ir YL,U hs];simp only;rw[U<|Zb w]
  ·have k:=g1 _<|hc x hx;obtain⟨n,n1,n2,p⟩:=o2 x hx;refine⟨k.can,k.ir,k.ps,?_,by rw[n1,xaJ];exact p⟩;by_cases hn:n=0
   ·exfalso;subst hn;obtain⟨u,m,e,S⟩:=p;rw[show pp (M x.1) 0=F 1 from O,yp]at e;rw[<-e]at S;exact S<|P _<|hc x hx
   ·lia
  ·have h1:=r2.al q c hz;rw[H]at h1;obtain⟨f,ho,t⟩:=c.prz (λf d=>by obtain⟨g,_,rfl⟩:=xan.1 d;exact Fs.cf g) h1;obtain⟨g,v,rfl⟩:=xan.1 ho;have e:=c.eq (g1 g v).ir pq (g1 g v).ps t;rw[<-o1]at v;obtain⟨x,hx,rfl⟩:=xan.1 v;exact⟨x,hx,e.symm⟩
  ·have:=g3;rw[<-o1]at this;exact xeF.1 this
  ·have:=wF xaD o1;rw[xaV]at this;lia
  ·obtain⟨n,n1,n2,p⟩:=o2 x hx;lia
end
theorem zoC:Rl []:=λk=>by
 rw[zW<|sB k];lia
section
variable{q:zC Zr}{f:Pz}{l:zC (zC Zr×zI)}
theorem Mu.scale{q:A}{c:J}{n:K}(a:Ir q)(hc:c≠0)(h:Mu q f n):Mu q (F c*f) n:=by
 obtain⟨u,fu,e,b⟩:=h;exact⟨F c*u,(Fs.pc c).mul fu,by rw[e,zd],λd=>b<|Zd.pm a.fs a.pm hc d⟩
theorem FL.scale{f:A}{l:N (N G×J)}{c:J}(hc:c≠0)(h:FL f l):FL (F c*f) l:=
 ⟨λx d=>by
  obtain⟨h1,b,e,g,i⟩:=h.el x d;exact⟨h1,b,e,g,i.scale b hc⟩,λq a j k=>h.al q a j<|Zd.pm a.fs a.pm hc k,h.so⟩
theorem FL.num{c:J}(hc:c≠0):FL (F c) []:=
 ⟨λx b=>wl b QT,λq a e d=>wl (Zd.pm a.fs a.pm hc<|by rw[yp];exact d) a.one,xfc⟩
def ed(q:N G)(n:J):N (N G×J)->N (N G×J)
 |[]=>[(q,n)]
 |x::l=>if jO x.1 q<0 then x::ed q n l else if x.1=q then(x.1,x.2+n)::l else(q,n)::x::l
theorem DU{q:N G}{n:J}:∀{l:N (N G×J)}{y},y∈ed q n l->y∈l\/y.1=q
 |[],y,h=> .inr<|by rw[xab.1 h]
 |x::l,y,h=>by
  unfold ed at h;split at h
  ·obtain rfl|h:=PQ.1 h
   ·simp_all
   ·obtain h|h:=DU h
    ·simp_all
    ·grind
  ·grind
theorem zaU{q:N G}{n:J}:∀{l:N (N G×J)}{x},x∈l->x.1≠q->x∈ed q n l
 |y::l,x,h,a=>by
  unfold ed;split
  ·obtain rfl|h:=PQ.1 h
   ·simp_all
   ·exact kE _<|zaU h a
  ·grind
theorem PK{q:N G}{n:J}:∀{l:N (N G×J)},X (ed q n l)<=X l+1
 |[]=>eZ _
 |x::l=>by
  unfold ed;split
  ·exact Nat.succ_le_succ PK
  ·grind
theorem zrI{z:N G}{n:J}(h:∀x∈l,jO z x.1<0)(b:jO z q<0):∀x∈ed q n l,jO z x.1<0:=λx a=>by
 obtain h1|h1:=DU a
 ·grind
 ·simp_all
theorem zj6{q:N G}{n:J}(a:zX q=q):∀{l:N (N G×J)},(∀x∈l,zX x.1=x.1)->l.Pairwise (λx y=>jO x.1 y.1<0)->(ed q n l).Pairwise λx y=>jO x.1 y.1<0
 |[],_,_=>List.pairwise_singleton _ _
 |x::l,hc,h=>by
  rw[xbR]at h;unfold ed;split
  ·rename_i c;exact xbR.2 ⟨zrI h.1 c,zj6 a (λy hy=>hc y<|kE _ hy) h.2⟩
  ·split
   ·exact xbR.2 h
   ·rename_i h1 d;have g:jO q x.1<0:=by
     have i:=YT x.1 q;have j:jO x.1 q≠0:=λe=>d<|GU (hc x<|Qh) a e;lia
    refine xbR.2 ⟨λy hy=> ?_,xbR.2 h⟩;show jO q y.1<0;obtain rfl|hy:=PQ.1 hy
    ·exact g
    ·have i:=h.1 y hy;have j:jO q y.1<=0:=PJ (b:=x.1) W W;have k:jO q y.1≠0:=λe=>by
      have m:=GU a (hc y<|kE _ hy) e;simp_all
     lia
theorem ziS{q:N G}{n:J}(i:zX q=q):∀{l:N (N G×J)},(∀x∈l,zX x.1=x.1)->l.Pairwise (λx y=>jO x.1 y.1<0)->∀y∈ed q n l,y.1=q->(∃x∈l,x.1=q/\y.2=x.2+n)\/(y.2=n/\∀x∈l,x.1≠q)
 |[],_,_,y,hy,_=>by
  obtain rfl:=xab.1 hy;simp_all
 |x::l,hc,h,y,hy,e=>by
  have h0:=h;rw[xbR]at h;have b:jO q q=0:=by have:=YT q q;lia
  unfold ed at hy;split at hy
  ·rename_i j;have hd:x.1≠q:=λe=>by rw[e]at j;lia
   obtain rfl|hy:=PQ.1 hy
   ·simp_all
   ·rcases ziS i (λy hy=>hc y<|kE _ hy) h.2 y hy e with⟨z,hz,h1,a⟩|⟨h1,a⟩
    ·grind
    ·refine .inr ⟨h1,λz hz=> ?_⟩;obtain rfl|hz:=PQ.1 hz
     ·exact hd
     ·exact a z hz
  ·split at hy
   ·rename_i _ c;obtain rfl|hy:=PQ.1 hy
    ·exact .inl ⟨x,Qh,c,O⟩
    ·exfalso;have:=h.1 y hy;rw[e,c]at this;lia
   ·rename_i h1 a;have d:∀z∈x::l,z.1≠q:=λz hz g=>by
     obtain rfl|hz:=PQ.1 hz
     ·exact a g
     ·have:=h.1 z hz;rw[g]at this;exact h1 this
    obtain rfl|hy:=PQ.1 hy
    ·exact .inr ⟨O,d⟩
    ·exact wl e<|d y hy
theorem SA{q:N G}{n:J}:∀{l:N (N G×J)},∃y∈ed q n l,y.1=q
 |[]=>⟨_,Qh,O⟩
 |x::l=>by
  unfold ed;split
  ·obtain⟨y,a,e⟩:=SA (q:=q) (n:=n) (l:=l);grind
  ·split
   ·simp_all
   ·simp_all
theorem FL.put{n:K}(h:FL f l)(u:Fs f)(g:zX q=q)(a:Ir (M q))(s:Po (M q))(hn:1<=n):FL (f*pp (M q) n) (ed q (n:J) l):=by
 have hc:=λx b=>(h.el x b).1;refine⟨λy c=> ?_,λr i pr d=> ?_,zj6 g hc h.so⟩
 ·by_cases e:y.1=q
  ·rw[e];rcases ziS g hc h.so y c e with⟨x,b,h1,j⟩|⟨h1,j⟩
   ·obtain⟨_,_,_,v,m⟩:=h.el x b;rw[h1]at m;have:=m.mul a<|Mu.self a n;grind
   ·have z:¬Zd (M q) f:=λd=>by
     obtain⟨x,b,o⟩:=h.al _ a s d;exact j x b<|du (hc x b) g λk=>vN o k
    have:=(Mu.zero u z).mul a<|Mu.self a n;grind
  ·obtain h1|h1:=DU c
   ·obtain⟨g1,p,w,v,m⟩:=h.el y h1;refine⟨g1,p,w,v,?_⟩;have j:¬Zd (M y.1) (pp (M q) n):=λd=>e<|du g1 g λk=>vN (p.eq a w s<|p.pp a.fs n d) k;exact m.mul p<|Mu.zero (a.fs.pp n) j
   ·exact wl h1 e
 ·rcases i.prime u (a.fs.pp n) d with h1|h1
  ·obtain⟨x,b,e⟩:=h.al r i pr h1;by_cases o:x.1=q
   ·obtain⟨y,c,t⟩:=SA (q:=q) (n:=(n:J)) (l:=l);exact⟨y,c,by rw[t,<-o];exact e⟩
   ·exact⟨x,zaU b o,e⟩
  ·have e:=i.eq a pr s<|i.pp a.fs n h1;obtain⟨y,c,t⟩:=SA (q:=q) (n:=(n:J)) (l:=l);exact⟨y,c,by rw[t];exact e.symm⟩
end
section
variable{fu:zV}{a q:zC Zr}{l:zC (zC Zr×zI)}
theorem GM{c k:K}(hc:c<=1000)(g:3000000<=fu):Xc fu (c:J) (k:J) a=Z (decide<|Gn c k a):=by
 unfold Xc;by_cases h0:c<X a
 ·rw[zS,wS λe=>by have:=e.1;lia]
 ·rw[zA,U (v:=if∀z∈a,X z.2<=k then .inl ()else .inr ())]
  ·by_cases h:∀z∈a,X z.2<=k
   ·rw[S h,wU (show Gn c k a from⟨W,h⟩)]
   ·rw[ir h,wS λe:Gn c k a=>h e.2]
  ·refine zt (λs:J=>∃j:K,s=(j:J)/\j<=X a/\∀t,t<j->(a.getD t (yL,[])).2.length<=k) (λs=>X a-s.toNat) _ ?_ _ _ ⟨0,O,sB _,λt h=>wl h<|xbf _⟩ (by show X a-0<fu;lia);rintro s L ⟨j,rfl,i,b⟩ d;unfold mJ;by_cases h1:j<X a
   ·rw[zS,zo h1,Q];by_cases m:k<(a.getD j (yL,[])).2.length
    ·grind
    ·rw[zA,zb];refine d _ ⟨j+1,O,W,λt h=> ?_⟩ W;by_cases f:t=j
     ·rw[f];lia
     ·exact b t W
   ·rw[zA,S<|zmt λt h=>b t W]
theorem LU{K:zV}{b:N G}(f:yQ K a)(g:yQ K b)(k:zX a=a)(m:zX b=b)(r:K<=40000)(hd:X a<=1000)(t:X b<=1000)(d:3000000<=fu):KU fu a b=Z (decide<|jO a b<0):=by
 unfold KU;rw[U<|yw f W W d,U<|yw g W W d,show xW (X a) (M a)=a from k,show xW (X b) (M b)=b from m];have hc:jO a b=if X a=X b then Lf (M a) (M b) (X a) else if X a<X b then-1 else 1:=O;by_cases hl:X a=X b
 ·rw[S hl]at hc;rw[zS,zb,U (v:=if jO a b=0 then Sum.inl ()else Sum.inr (decide<|jO a b<0))]
  ·obtain h|h|h:=N2 a b<;>rw[h]<;>rfl
  ·rw[hc];refine zt (λs:J=>∃n:zV,s=(n:J)-1/\n<=X a/\Lf (M a) (M b) n=Lf (M a) (M b) (X a)) (λs=>(s+1).toNat) _ ?_ _ _ ⟨X a,O,eZ _,O⟩ (by show((X a:J)-1+1).toNat<fu;lia);rintro s L ⟨n,rfl,hn,c⟩ o;unfold pE
   cases n with
   |zero=>
    rw[zA,<-c];rfl
   |succ n=>
    have p:=f.get n;have ob:=g.get n;rw[(W:((n+1:zV):J)-1=(n:J)),zS,yc,Q,yc,Q,U (aW (iw.of p W) (iw.of ob W) d W W),YV,YV];rw[show Lf (M a) (M b) (n+1)=if M a n=M b n then Lf (M a) (M b) n else if M a n<M b n then-1 else 1 from O]at c;by_cases e:M a n=M b n
    ·rw[S e]at c;rw[S<|xK.2 e,zb];exact o _ ⟨n,O,W,c⟩ W
    ·rw[ir e]at c;rw[ir λh=>e<|xK.1 h];unfold ke;by_cases i:M a n<M b n
     ·rw[S i]at c⊢;rw[<-c,S YL];rfl
     ·rw[ir i]at c⊢;rw[S (W:M b n<M a n),<-c,ir YL];rfl
 ·rw[ir hl]at hc;rw[zA,hc];by_cases j:X a<X b
  ·rw[S j,zS];rfl
  ·rw[ir j,zA];rfl
theorem tD{i:K}(h:i<X l):l.getD i ([],0)∈l:=by grind
def Gl(l:N (N G×J)):Prop:=X l<=1000/\∀x∈l,Gd x.1
theorem RF{m:N (N G×J)}(hl:Gl l)(h:l=m)(d:3000000<=fu):W7 fu l m=Z I:=by
 subst h;unfold W7;have h1:=hl.1;rw[S O,U (v:=.inl ())];refine zt (λs:J=>∃j:K,s=j/\j<=X l) (λs=>X l-s.toNat) _ ?_ _ _ ⟨0,O,sB _⟩ (by show X l-0<fu;lia);rintro s L ⟨j,rfl,f⟩ e;unfold nY;by_cases b:j<X l
 ·have c:=hl.2 _<|tD b;have g:=c.ln;rw[zS,zo b,Q,zo b,Q,S O,zo b,Q,zo b,Q,U<|mr c.ok YL W d,wU O,zb];exact e _ ⟨j+1,O,W⟩ W
 ·grind
def bJ(q:N G):N (N G×J)->K
 |[]=>0
 |x::l=>if jO x.1 q<0 then bJ q l+1 else 0
theorem zkj(q:N G):∀l,bJ q l<=X l
 |[]=>eZ _
 |x::l=>by
  unfold bJ;split
  ·exact Nat.succ_le_succ<|zkj q l
  ·lia
theorem zko{q:N G}:∀{l:N (N G×J)}{j:K},j<bJ q l->jO (l.getD j ([],0)).1 q<0
 |[],j,h=>wl h<|xbf _
 |x::l,j,h=>by
  unfold bJ at h;split at h
  ·rename_i h1
   cases j with
   |zero=>exact h1
   |succ j=>exact zko (l:=l) W
  ·lia
theorem ziR{q:N G}:∀{l:N (N G×J)},bJ q l<X l->¬jO (l.getD (bJ q l) ([],0)).1 q<0
 |[],h=>wl h<|xbf _
 |x::l,h=>by
  unfold bJ at h⊢;split at h
  ·rename_i h1;rw[S h1];exact ziR (l:=l)<|by simpa using h
  ·grind
theorem ziZ(q:N G)(n:J):∀l:N (N G×J),ed q n l=if bJ q l<X l/\(l.getD (bJ q l) ([],0)).1=q then l.set (bJ q l) ((l.getD (bJ q l) ([],0)).1,(l.getD (bJ q l) ([],0)).2+n)else l.take (bJ q l)++[(q,n)]++l.drop (bJ q l)
 |[]=>by skip;rfl
 |x::l=>by
  have b:=ziZ q n l;unfold ed bJ;by_cases h:jO x.1 q<0
  ·grind
  ·grind
theorem OY{n:J}(hl:Gl l)(f:Gd q)(hn:∀x∈l,Um<|x.2+n)(i:3000000<=fu):dh fu l q n=Z (ed q n l):=by
 have h1:=hl.1;have g:=zkj q l;have hd:=f.ln;have m:zg (fF fu l q) fu (0:J)=Z ((bJ q l:K):J):=by
  refine zt (λs:J=>∃j:K,s=(j:J)/\j<=bJ q l) (λs=>X l-s.toNat) _ ?_ _ _ ⟨0,O,sB _⟩ (by show X l-0<fu;lia);rintro s L ⟨j,rfl,t⟩ o;unfold fF;by_cases b:j<X l
  ·have c:=hl.2 _<|tD b;have hc:=c.ln;rw[zS,zo b,Q,U<|LU c.ok f.ok c.can f.can YL W W i];by_cases d:j<bJ q l
   ·rw[wU<|zko d,S O,zb];exact o _ ⟨j+1,O,W⟩ W
   ·obtain rfl:j=bJ q l:=W
    rw[wS<|ziR b,ir YL]
  ·rw[zA];obtain rfl:j=bJ q l:=W
   rfl
 have e:=ziZ q n l;obtain⟨k,p⟩:∃k,k=bJ q l:=⟨_,O⟩;rw[<-p]at m e g;unfold dh;rw[U m,U (v:=decide<|k<X l/\(l.getD k ([],0)).1=q)]
 ·by_cases b:k<X l/\(l.getD k ([],0)).1=q
  ·rw[S b]at e;have r:=hn _<|tD b.1;rw[wU b,S O,xbF,xi (by rw[xbA];lia),Q,zo b.1,Q,fT r,zo b.1,Q,e]
  ·rw[ir b]at e;rw[wS b,ir YL,yU,xi g,Q,xbF,xi (by rw[xbA,xap];lia),Q,xi (by rw[xap,xeC];lia),Q,yU,xi g,Q,xi (by rw[xak,xap,xeC,xca];lia),Q,e]
 ·by_cases b:k<X l
  ·have c:=hl.2 _<|tD b;have hc:=c.ln;rw[zS,zo b,Q,U<|mr c.ok YL W i];by_cases d:(l.getD k ([],0)).1=q
   ·rw[wU d,wU (show k<X l/\(l.getD k ([],0)).1=q from⟨b,d⟩)]
   ·rw[wS d,wS λh=>d h.2]
  ·rw[zA,wS λh=>b h.1]
theorem Gl.put{n:J}(hl:Gl l)(d:X l<=999)(b:Gd q):Gl (ed q n l):=
 ⟨PX PK W,λx c=>by
  obtain h|h:=DU c
  ·exact hl.2 x h
  ·rw[h];exact b⟩
end
theorem ztf{l:N J}(h:(Ty.l .i).ok l):Rl l:=λk=>by
 unfold C;rw[Yh];by_cases a:k<X l
 ·rw[xaa a];exact h.2 _<|xbx a
 ·grind
theorem zdD{t:N G}{d:K}(h:zX t=t)(a:Tp (M t) d):X t=d+1:=by
 have h0:=λe=>a.1<|VT e d;have h1:=(Ze h0).uniq a;grind
theorem zw7{a t:N G}{r:A}{n B K:zV}(c:Tp (M a) n)(hn:n<=40)(f:∀j,Bb B<|M a j)(fr:Fs r)(ct:zX t=t)(e:(M a:A)=M t*r)(g:B+n+4<=64*K):yQ K t/\X t<=n+1/\X t≠0:=by
 obtain⟨h,i⟩:=Y7 c.nz e;obtain⟨d,hd⟩:=Tp.ex (Fs.cf t) h;obtain⟨b,k⟩:=Tp.ex fr i;have h1:=hd.mul k;rw[<-e]at h1;have l:=h1.uniq c;have m:=zdD ct hd;refine⟨?_,W,W⟩;rw[<-ct];exact yF λj=>(FW c (Fs.cf t) fr e hn f j).bz g
def lnP(v:J):A:=λk=>if k=0 then v else if k=1 then 1 else 0
theorem zg9(v:J):Tp (lnP v) 1:=⟨by show 1≠0;decide,λk a=>by unfold lnP;rw[zA,zA]⟩
theorem zqP(v:J):lnP v 1=1:=O
theorem ztZ(v:J):Pm (lnP v):=λd hd=>by
 have:=hd 1;exact Nat.dvd_one.1<|xde.1 this
theorem zuz(v:J):Po (lnP v):=⟨1,by rw[zqP];decide,(zg9 v).2⟩
section
variable{f:Pz}{x v w:zI}{j:zV}
def Ev(f:A)(x v:J):Prop:=Zd (lnP (-x))<|f-F v
theorem zcG(v:J)(g:A)(k:K):(lnP v*g) k=v*g k+(if k=0 then 0 else g (k-1)):=by
 have e:lnP v=F v+mono 1 1:=wu λk=>by
  rw[zG];unfold lnP F mono;by_cases h0:k=0
  ·subst h0;simp
  ·by_cases h1:k=1
   ·subst h1;simp
   ·simp[h0,h1]
 rw[e,yu,zG,zU,qF,xcr];unfold sh;by_cases h:k=0
 ·subst h;simp
 ·rw[zS,ir h]
theorem Ev.uniq(h:Ev f x v)(g:Ev f x w):v=w:=by
 refine xac λhn=> ?_;have h1:=Zd.sub h g;have e:f-F v-(f-F w)=F (w-v):=wu λk=>by simp only[yT];unfold F;split<;>lia
 rw[e]at h1;obtain⟨q,fq,eq⟩:=h1;have nz:Nz (F<|w-v):=⟨0,(W:(w-v:J)≠0)⟩;obtain⟨b,_⟩:=Y7 nz eq;obtain⟨i,hi⟩:=Tp.ex fq b;have a:=hi.mul<|zg9 (-x);rw[<-eq]at a;have:=(Cn.tp a).1<|Cn.pc _;lia
theorem Ev.mul{f g:A}{x v w:J}(a:Fs f)(h:Ev f x v)(k:Ev g x w):Ev (f*g) x (v*w):=by
 have h1:=(Zd.mul f a k).add<|Zd.mul (F w) (Fs.pc w) h;have e:f*(g-F w)+F w*(f-F v)=f*g-F (v*w):=by
  rw[ve,ve,zk f<|F w,uk,xaX w v];funext k;simp only[zG,yT];lia
 rwa[e]at h1
theorem Ev.pc(c x:J):Ev (F c) x c:=⟨Go.Proofs.YtdpdofimolhigaaGreat.pc 0,Fs.pc 0,by rw[zT];funext k;rw[yT,zE];lia⟩
theorem Ev.hor(a:Fs f)(h:Ev (λk=>f<|k+1) x v):Ev f x (f 0+x*v):=by
 obtain⟨n,hn⟩:=a;have b:Fs (λk=>f<|k+1):=⟨n,λk c=>hn (k+1) W⟩;have h1:=(Zd.left (u:=lnP (-x)) b).add<|Zd.mul (Go.Proofs.YtdpdofimolhigaaGreat.pc x) (Fs.pc x) h;have e:lnP (-x)*(λk=>f<|k+1)+Go.Proofs.YtdpdofimolhigaaGreat.pc x*((λk=>f<|k+1)-Go.Proofs.YtdpdofimolhigaaGreat.pc v)=f-Go.Proofs.YtdpdofimolhigaaGreat.pc (f 0+x*v):=by
  funext k;rw[zG,zcG,zU,yT,yT];show-x*f (k+1)+(if k=0 then 0 else f (k-1+1))+x*(f (k+1)-_)=_;unfold Go.Proofs.YtdpdofimolhigaaGreat.pc;by_cases h0:k=0
  ·subst h0;simp only[wN];rw[Int.mul_sub,Int.neg_mul];lia
  ·rw[ir h0,ir h0,ir h0,Int.neg_mul,(W:k-1+1=k),xcy];lia
 unfold Ev;rwa[e]at h1
theorem Ev.ex(x:J):∀(n:K) (f:A),(∀k,n<=k->f k=0)->∃v,Ev f x v
 |0,f,h=>⟨0,by
  have:f=Go.Proofs.YtdpdofimolhigaaGreat.pc 0:=wu λk=>by rw[h k<|sB k,zE]
  rw[this];exact Ev.pc 0 x⟩
 |n+1,f,h=>by
  obtain⟨v,hv⟩:=Ev.ex x n (λk=>f<|k+1) λk a=>h (k+1) W;exact⟨_,Ev.hor ⟨n+1,h⟩ hv⟩
theorem Ev.four(h:∀k,4<=k->f k=0)(x:J):Ev f x (f 0+x*(f 1+x*(f 2+x*f 3))):=by
 have a:∀(i:K),Fs (λk=>f<|k+i):=λi=>⟨4,λk d=>h (k+i) W⟩;have b:Ev (λk=>f<|k+3) x (f 3):=by
  have:(λk=>f<|k+3)=Go.Proofs.YtdpdofimolhigaaGreat.pc (f 3):=wu λk=>by
   unfold Go.Proofs.YtdpdofimolhigaaGreat.pc;by_cases h0:k=0
   ·subst h0;rfl
   ·rw[ir h0,h (k+3) W]
  rw[this];exact Ev.pc _ _
 have c:Ev (λk=>f<|k+2) x (f 2+x*f 3):=Ev.hor (a 2) b;have h1:Ev (λk=>f<|k+1) x (f 1+x*(f 2+x*f 3)):=Ev.hor (a 1) c;exact Ev.hor ⟨4,h⟩ h1
theorem Ev.dvd{u:A}(fu:Fs u)(a:Zd u f)(h:Ev u x v)(g:Ev f x w):v∣w:=by
 obtain⟨q,fq,e⟩:=a;obtain⟨n,hn⟩:=fq;obtain⟨y,b⟩:=Ev.ex x n q hn;have h1:=Ev.mul ⟨n,hn⟩ b h;rw[<-e]at h1;rw[<-h1.uniq g];exact xcB ..
theorem Ev.root(h:Ev f x 0):Zd (lnP (-x)) f:=by
 have e:f-Go.Proofs.YtdpdofimolhigaaGreat.pc 0=f:=wu λk=>by rw[yT,zE];lia
 unfold Ev at h;rwa[e]at h
def gV(i:K):J:=if i%2=0 then-(((i+1)/2:K):J)else(((i+1)/2:K):J)
def MU(u:A):K->K->J
 |0,j=>u 0+gV j*(u 1+gV j*(u 2+gV j*u 3))
 |1,j=>if j=1 then u 1+u 2+u 3 else if j=2 then u 1+u 3 else u 1+u 2+3*u 3
 |2,j=>if j=2 then u 2 else u 2+2*u 3
 |_,_=>u 3
theorem zmc(u:A){k:K}(a:1<=k)(b:k<=j)(c:j<=3):MU u (k-1) j-MU u (k-1) (j-1)=MU u k j*(gV j-gV (j-k)):=by
 have:(k=1/\j=1)\/(k=1/\j=2)\/(k=1/\j=3)\/(k=2/\j=2)\/(k=2/\j=3)\/(k=3/\j=3):=W
 rcases this with⟨rfl,rfl⟩|⟨rfl,rfl⟩|⟨rfl,rfl⟩|⟨rfl,rfl⟩|⟨rfl,rfl⟩|⟨rfl,rfl⟩<;>simp[MU,gV]<;>lia
theorem zvm{i:K}(hi:i<=3)(a:j<i):gV i-gV j≠0/\(gV i-gV j).natAbs<=3:=by
 have:(i=1/\j=0)\/(i=2/\j=0)\/(i=2/\j=1)\/(i=3/\j=0)\/(i=3/\j=1)\/(i=3/\j=2):=W
 rcases this with⟨rfl,rfl⟩|⟨rfl,rfl⟩|⟨rfl,rfl⟩|⟨rfl,rfl⟩|⟨rfl,rfl⟩|⟨rfl,rfl⟩<;>decide
end
theorem zje(d:K)(c:J):(M (sR d (yL,[])++[yf c]):A)=mono d c:=wu λj=>by
 rw[zpt];unfold sh mono M;by_cases h:d<=j
 ·rw[S h];by_cases e:j=d
  ·rw[S e,e,xcX];exact zm c
  ·rw[ir e,Yh,xbB<|by simp;lia];rfl
 ·rw[ir h,zA]
theorem MO{K d:zV}{c:J}(h:Bz K c):yQ K (sR d (yL,[])++[yf c]):=λz hz=>by
 obtain hz|hz:=pN.1 hz
 ·rw[(xeY.1 hz).2];exact⟨zn.nil,sB _⟩
 ·rw[xab.1 hz];exact⟨yx _,h.len⟩
theorem zth{B A R Q:Pz}(b:Fs Q)(e:A=Q*B+R):Zd B A↔Zd B R:=by
 have a:Zd B (Q*B):=⟨Q,b,O⟩;constructor
 ·intro h;have:R=A-Q*B:=wu λk=>by rw[e,yT,zG];lia
  rw[this];exact h.sub a
 ·intro h;rw[e];exact a.add h
theorem aD{fu K g:zV}{a b:N G}(ha:yQ K a)(hb:yQ g b)(hK:K+(X a+1)*(g+1)<=30000)(hL:X a<=1000)(hC:X b<=1000)(h0:X (zX b)≠0)(m:3000000<=fu):
 ∃q e,q7 fu a b=Z (q,e)/\(e=0↔Zd (M b) (M a))/\(e=0->(M a:A)=M q*M b/\zX q=q/\X q<=X a):=by
 obtain⟨B,o⟩:∃B,B=zX b:=⟨_,O⟩;have hD:(M B:A)=M b:=wu λk=>by rw[o];exact Zy b k
 have y:yQ g B:=by rw[o];exact fE hb
 have nB:zX B=B:=by rw[o];exact zcB b
 have lB:X B<=1000:=by rw[o];exact PX (jG b) hC
 have hF:X B≠0:=by rw[o];exact h0
 have D:Tp (M B) (X B-1):=by have:=Ze (a:=B) (by rw[nB];exact hF);rwa[nB]at this
 have hG:=jG a;have hJ:∀s,s<=X a->s*(g+1)+(g+1)<=(X a+1)*(g+1):=λs hs=>by
  have:=xaf (g+1) (W:s+1<=X a+1);rwa[xaT,xbL]at this
 obtain⟨t,ht,hQ⟩:=yb (f:=Jl fu) (λs=>∃(r q:N G),s=(B,r,q)/\zX r=r/\zX q=q/\(M a:A)=M q*M B+M r/\X r<=X a/\X q<=X a/\yQ (K+(X a-X r)*(g+1)) r/\yQ (K+(X a-X r)*(g+1)) q)
  (λs=>X s.2.1) (λt=>(∃q,t=Sum.inl q/\(M a:A)=M q*M B/\zX q=q/\X q<=X a)\/(t=.inr ()/\¬Zd (M B) (M a))) (by
  rintro s L ⟨r,q,rfl,hr,hq,E,hM,hH,u,H⟩ ih
  unfold Jl
  simp only
  have hy:=zth (Fs.cf q) E
  by_cases hN:0<X r
  ·have tR:Tp (M r) (X r-1):=by have:=Ze (a:=r) (by rw[hr];lia);rwa[hr]at this
   have hs:=hJ (X a-X r) W
   generalize hS:K+(X a-X r)*(g+1)=S at u H hs
   have P:∀j,mI (r.getD j (yL,[])):=u.okS W
   have R:∀j,mI (B.getD j (yL,[])):=y.okS W
   rw[zS,zb,zb,(W:(X r:J)-1=((X r-1:zV):J)),yc,Q,zb,(W:(X B:J)-1=((X B-1:zV):J)),yc,Q,
    U (fW (P _) (R _) m),YV,YV]
   simp only
   have T:Zd (M B) (M r)->∃n,X r-1=n+(X B-1)/\M B (X B-1)∣M r (X r-1):=λh=>by
    obtain⟨w,fw,e⟩:=h;obtain⟨n,hn⟩:=Tp.ex fw (xac λhn=>tR.1 (by
     have:w=F 0:=wu λk=>by rw[zE];exact xac λh=>hn ⟨k,h⟩
     rw[e,this,zU,xaK]))
    have h1:=(hn.mul D).uniq<|e▸tR;refine⟨n,h1.symm,w n,?_⟩;rw[<-h1,e,KH hn.2 D.2,xaX]
   by_cases hO:X r<X B
   ·rw[zS]
    refine⟨_,O,.inr ⟨O,λh=> ?_⟩⟩
    obtain⟨n,h1,_⟩:=T<|hy.1 h
    lia
   ·rw[zA]
    obtain⟨l,hl⟩:∃l,l=M B (X B-1):=⟨_,O⟩
    obtain⟨w,V⟩:∃w,w=M r (X r-1):=⟨_,O⟩
    have Y:l≠0:=by rw[hl];exact D.1
    rw[<-hl,<-V]at T⊢
    by_cases v:w%l=0
    ·have hE:exE w l=0:=by unfold exE;rw[ir Y,iq v]
     have hX:exI w l=w/l:=by unfold exI;rw[ir Y,iq v]
     have hA:w/l*l=w:=xeL<|xaA v
     obtain⟨c,hc⟩:∃c,c=w/l:=⟨_,O⟩
     rw[<-hc]at hA
     have bw:Bz S w:=by rw[V];exact u.bz _
     have x:Bz S c:=bw.le<|by rw[hc];exact xbX _ _
     obtain⟨d,hd⟩:∃d,X r=d+X B:=⟨X r-X B,W⟩
     rw[hE,hX,<-hc,iq O,(W:(X r:J)-(X B:J)=(d:J)),yU,yM,Q,xi (by simp;lia),Q,U<|ZS H (MO x) W W (by simp;lia) m,
      U (Vt (MO x) y (by simp;lia) W m)]
     obtain⟨part,hi⟩:∃part,part=sR d (false,[])++[yf c]:=⟨_,O⟩
     have hp:(M part:A)=mono d c:=by rw[hi];exact zje d c
     have hP:X part=d+1:=by rw[hi];simp
     rw[<-hi]
     have oM:yQ (S+g+1) (xe part B):=by
      have hm:zX (xe part B)=xe part B:=(vZ _ _).symm;rw[<-hm];refine yF λj=> ?_;rw[qh,hp,qF];refine Bz.mono (j:=S+g) (x.mul ?_) W;unfold sh;split
      ·exact y.bz _
      ·exact Bz.zero _
     rw[U<|a6 (u.mono W) oM W W (by have:=jC part B;lia) m]
     obtain⟨i,C⟩:∃i,i=U1 r (xe part B):=⟨_,O⟩
     have hu:∀k,M i k=M r k-c*sh (M B) d k:=λk=>by rw[C,Nu,qh,hp,qF]
     have hv:zX i=i:=by rw[C];exact(vZ _ _).symm
     have hI:X i<=X r-1:=rM (show i=xW (X i) (M i)from hv.symm) λk hk=>by
      rw[hu];unfold sh;rw[zS];by_cases e:k=X r-1
      ·rw[e,<-V,(W:X r-1-d=X B-1),<-hl,hA];lia
      ·rw[zY W,zY W];lia
     have hR:S+(g+1)<=K+(X a-X i)*(g+1):=by
      have:=xaf (g+1) (W:X a-X r+1<=X a-X i);rw[xaT,xbL]at this;lia
     have hT:=ME q part
     refine ih _ ⟨i,bU q part,by rw[C];rfl,hv,(vZ _ _).symm,?_,W,?_,?_,?_⟩ (by show(U1 r<|xe part B).length<X r;rw[<-C];lia)
     ·rw[E]
      funext k
      rw[zG,zG,hu,CX,yu,zG,hp,qF]
      lia
     ·have:=aZ q part;lia
     ·have h9:yQ (K+(X a-X i)*(g+1)) (zX i):=yF λj=>by
       rw[hu];refine Bz.mono (j:=S+g+1) (Bz.sub ((u.bz j).mono W)<|x.mul ?_) W;unfold sh;split
       ·exact y.bz _
       ·exact Bz.zero _
      rwa[hv]at h9
     ·exact(tJ H<|by rw[hi];exact MO x).mono W
    ·have hE:exE w l=4:=by unfold exE;rw[ir Y,ir v]
     rw[hE,ir YL]
     refine⟨_,O,.inr ⟨O,λh=> ?_⟩⟩
     obtain⟨_,_,h2⟩:=T<|hy.1 h
     exact v<|xaq h2
  ·rw[zA]
   refine⟨_,O,.inl ⟨q,O,?_,hq,hH⟩⟩
   rw[E]
   funext k
   rw[zG,zY (p:=r) W,xby]) fu (B,zX a,[]) ⟨zX a,[],O,zcB a,O,by
    funext k;rw[zG,Zy];have:((M []:A)*M B) k=0:=by rw[show(M []:A)=F 0 from wu λk=>by rw[zY<|sB _,zE],zU,xaK]
    lia,hG,sB _,(fE ha).mono W,λz hz=>by cases hz⟩ (by show(zX a).length<fu;lia)
 unfold q7;rw[U<|yw hb (by have:=hJ 0 W;lia) W m,show xW (X b) (M b)=zX b from O,zA,U<|yw ha W W m,show xW (X a) (M a)=zX a from O,<-o,U ht];rw[hD]at hQ;rcases hQ with⟨q,rfl,h1,h2,h3⟩|⟨rfl,h1⟩
 ·exact⟨q,0,O,⟨λ_=>⟨M q,Fs.cf q,h1⟩,λ_=>O⟩,λ_=>⟨h1,h2,h3⟩⟩
 ·exact⟨[],4,O,⟨λh=>wl h YL,λh=>wl h h1⟩,λh=>wl h YL⟩
section
variable{fu K:zV}{x:zI}
theorem ziT{l:N J}(a:∀k,-9223372036854775807<=C l k/\C l k<=9223372036854775807)(hl:X l<=1000000)(b:3000000<=fu):kN fu l=Z (uH l):=by
 unfold kN;have c:yQ 1 (zi (X l)<|C l):=Y6 λk=>by
  have:=a k;unfold Bz;lia
 rw[U (v:=zi (X l)<|C l)]
 ·rw[U<|yw c YL (by rw[yh];exact hl) b,yh,Cm];rfl
 ·refine zt (λs:N G×J=>∃i:zV,i<=X l/\s=(zi i<|C l,(i:J))) (λs=>X l-s.2.toNat) _ ?_ _ _ ⟨0,sB _,O⟩ (by show X l-0<fu;lia);rintro s L ⟨i,hi,rfl⟩ d;unfold ET;simp only;by_cases h:i<X l
  ·rw[zS,zo h,Q,YU,U<|xX<|a i,xi (by rw[yh];simp;lia),Q,te,zb];exact d _ ⟨i+1,W,O⟩ (by show X l-((i:J)+1).toNat<X l-(i:J).toNat;lia)
  ·rw[zA];obtain rfl:i=X l:=W
   rfl
theorem zsT(c:x.natAbs<=1000)(b:3000000<=fu):∃p,kN fu [x,1]=Z p/\(M p:A)=lnP x/\zX p=p/\X p<=2/\yQ 1 p:=by
 have a:∀k,-9223372036854775807<=C [x,1] k/\C [x,1] k<=9223372036854775807:=λk=>by
  obtain _|_|k:=k
  ·show _<=x/\x<=_;lia
  ·show _<=(1:J)/\(1:J)<=_;lia
  ·rw[zW Xn];lia
 refine⟨_,ziT a Xn b,?_,(vZ _ _).symm,Dh _,?_⟩
 ·rw[jB];funext k;obtain _|_|k:=k
  ·rfl
  ·rfl
  ·rw[zW Xn];unfold lnP;rw[zA,zA]
 ·exact yF λk=>by have:=a k;unfold Bz;lia
theorem ztF(c:x.natAbs<=1000000000)(b:3000000<=fu):∃p,kN fu [x]=Z p/\(M p:A)=F x/\X p<=1/\yQ 1 p:=by
 have a:∀k,-9223372036854775807<=C [x] k/\C [x] k<=9223372036854775807:=λk=>by
  obtain _|k:=k
  ·show _<=x/\x<=_;lia
  ·rw[zW Xn];lia
 refine⟨_,ziT a Xn b,by rw[jB,va],Dh _,?_⟩;exact yF λk=>by have:=a k;unfold Bz;lia
theorem zwC{b:zV}{y:J}(a:Bb b x)(c:Bb b y):Bb (b+1) (x+y):=by
 have:=Bb.sub a (show Bb b (-y)by unfold Bb at*;rw[Int.natAbs_neg];exact c);rwa[Int.sub_neg]at this
theorem L5{B:zV}{a:N G}(h:yQ K a)(t:K<=40000)(hl:X a<=50)(i:x.natAbs<4)(l:∀j,Bb B<|M a j)(u:B<=1000)(m:3000000<=fu):∃v,K7 fu a (yf x)=Z (yf v)/\Ev (M a) x v/\Bb (B+3*X a) v:=by
 unfold K7;have hc:Bb 2 x:=i;have hd:Bz 1 x:=by unfold Bz;lia
 rw[U<|xX ⟨YL,YL⟩,zb]
 obtain⟨r,o,v,rfl,h1,b⟩:=yb (f:=aJ fu a<|yf x) (λs:J×G=>∃(n:zV) (v:J),s=((n:J)-1,yf v)/\n<=X a/\Ev (λk=>M a<|k+n) x v/\Bb (B+3*(X a-n)) v) (λs=>(s.1+1).toNat)
  (λr=>∃v,r=yf v/\Ev (M a) x v/\Bb (B+3*X a) v) (by
  rintro s L ⟨n,v,rfl,hn,h1,b⟩ p
  unfold aJ
  simp only
  cases n with
  |zero=>rw[zA];exact⟨_,O,v,O,h1,b⟩
  |succ n=>
   have c:=h.okS W n
   have d:=b.mul hc
   have q:=zwC d<|(l n).mono (W:B<=B+3*(X a-(n+1))+2)
   have z2:=b.bz (K:=20) W
   have z3:=d.bz (K:=20) W
   rw[zS,U (xV (z2.ok YL)<|hd.ok YL),zm,zm,(W:((n+1:zV):J)-1=(n:J)),yc,Q,U<|qp (z3.ok YL) ⟨c.1,by have:=c.2;lia⟩ m,zm,zb]
   refine p _ ⟨n,v*x+M a n,by rw[<-YV],W,?_,q.mono W⟩ (by show((n:J)-1+1).toNat<(((n+1:zV):J)-1+1).toNat;lia)
   have g:=Ev.hor (f:=λk=>M a<|k+n) (x:=x) (v:=v) ⟨X a,λk w=>zY W⟩ (by
    have e:(λk=>M a<|k+1+n)=λk=>M a (k+(n+1)):=wu λk=>by rw[(W:k+1+n=k+(n+1))]
    rw[e];exact h1)
   rw[xaF,xaX x v,xfG]at g
   exact g) fu ((X a:J)-1,yf 0) ⟨X a,0,O,eZ _,by
    have e:(λk=>M a<|k+X a)=F 0:=wu λk=>by rw[zY W,zE]
    rw[e];exact Ev.pc 0 x,Bb.zero _⟩ (by show((X a:J)-1+1).toNat<fu;lia)
 rw[U o];exact⟨v,O,h1,b⟩
theorem zlL(c:Bz K x)(g:K<=1000)(a:3000000<=fu):q8 fu (yf x)=Z (x,I)\/(q8 fu (yf x)=Z (0,yL)):=by
 by_cases h0:0<=x/\x<9223372036854775808
 ·exact .inl<|gH h0.1 h0.2 a
 have h:=c.len;have hc:=(tW (x:=x)).2 W;unfold q8;rw[U<|y6 (yx x) W a,zm,zA];by_cases h1:1<(yf x).2.length
 ·rw[zS];exact .inr O
 have i:x.natAbs<18446744073709551616:=by
  have b:Bz 1 x:=(zN _ _).1 (by show(yf x).2.length<=1;lia);unfold Bz at b;lia
 have d:((yf x).2.getD 0 0:zV)=x.natAbs:=by
  show(yN x.natAbs).getD 0 0=_;rw[Xi,xdz,xag W]
 rw[zA,show(0:J)=((0:zV):J)from O,yc,Q,d];by_cases hn:x<0
 ·rw[S<|(K6 x).2 hn,(K6 x).2 hn];by_cases b:x.natAbs<=9223372036854775808
  ·rw[zS,Q];by_cases e:x= -9223372036854775808
   ·subst e;exact .inl O
   ·rw[GZ,Gv W];exact .inl<|by rw[(W:(0:J)-(x.natAbs:J)=x)]
  ·rw[zA,ir YL];exact .inr O
 ·have f:(yf x).1=yL:=by unfold yf;simp;lia
  rw[f,ir YL,S YL,zA];exact .inr O
theorem Ak(G:Bz K x)(H:K<=1000)(h0:x≠0)(M:3000000<=fu):∃l,YN fu (yf x)=Z l/\X l<=4000/\(l=[]\/((∀y∈l,y.natAbs<=1000000)/\∀y,y∣x->y∈l)):=by
 unfold YN;obtain e|e:=zlL G H M
 case inr=>rw[U e];exact⟨_,O,sB _,.inl O⟩
 rw[U e];simp only[xdG,xaj,wP];by_cases h1:(1000000:J)<x
 ·rw[S h1];exact⟨_,O,sB _,.inl O⟩
 rw[ir h1];by_cases A:x< -1000000
 ·rw[S A];exact⟨_,O,sB _,.inl O⟩
 rw[ir A];obtain⟨N,p⟩:∃N,N=x.natAbs:=⟨_,O⟩;have hi:max x (0-x)=(N:J):=W
 obtain⟨r,P,q1,q2,B⟩:=yb (f:=XW fu x) (λs:zC J×J=>∃d:zV,s.2=(d:J)/\1<=d/\d<=1001/\X s.1<=4*(d-1)/\(∀y∈s.1,y.natAbs<=1000000)/\∀e:zV,e<d->(e:J)∣x->(e:J)∈s.1/\ -(e:J)∈s.1/\((N/e:zV):J)∈s.1/\ -((N/e:zV):J)∈s.1)
  (λs=>1002-s.2.toNat) (λr=>X r<=4000/\(∀y∈r,y.natAbs<=1000000)/\∀e:zV,e*e<=N->(e:J)∣x->(e:J)∈r/\ -(e:J)∈r/\((N/e:zV):J)∈r/\ -((N/e:zV):J)∈r) (by
  rintro⟨t,i⟩ L ⟨d,hd,d1,d2,hl,g,b⟩ q
  simp only at hd hl g b
  subst hd
  have hv:d*d<=1001*1001:=xbp d2 d2
  have hc:(d:J)*d=((d*d:zV):J):=Xn
  unfold XW
  simp only
  rw[hc,zb,Gv W,ze,hi]
  by_cases v:d*d<=N
  ·have hw:d<=1000:=xbl λh=>by
    have:=xbp h h;lia
   rw[zS,yM,ze]
   by_cases n:xbn x d=0
   ·have hn:(d:J)∣x:=Int.dvd_of_tmod_eq_zero n
    have hz:d∣N:=by rw[p];exact Int.ofNat_dvd_left.1 hn
    have R:N/d<=N:=xcd _ _
    rw[S n,Gv W,xi (by simp;lia),ze]
    have old:∀(u:zC J),(∀y∈t,y∈u)->(d:J)∈u-> -(d:J)∈u->((N/d:zV):J)∈u-> -((N/d:zV):J)∈u->∀e:zV,e<d+1->(e:J)∣x->(e:J)∈u/\ -(e:J)∈u/\((N/e:zV):J)∈u/\ -((N/e:zV):J)∈u:=λu o T V Y u4 e c a=>by
     by_cases j:e=d
     ·subst j;exact⟨T,V,Y,u4⟩
     ·obtain⟨C,D,w,z⟩:=b e W a;exact⟨o _ C,o _ D,o _ w,o _ z⟩
    by_cases j:((d*d:zV):J)=N
    ·have ho:N/d=d:=by rw[<-Int.natCast_inj.1 j];exact xeu _ W
     rw[zb,Gv W,ze,hi,S j,U O]
     simp only[xaj,wP]
     rw[zb]
     refine q _ ⟨d+1,Xn,W,W,by simp;lia,λy hy=> ?_,?_⟩ (by show 1002-((d:J)+1).toNat<1002-(d:J).toNat;lia)
     ·obtain hy|hy:=pN.1 hy
      ·exact g y hy
      ·simp only[PQ,QT,uS]at hy
       lia
     ·refine old _ (λy hy=>xcF _ hy) ?_ ?_ ?_ ?_<;>simp[ho]
    ·have E:xbQ (N:J) d=((N/d:zV):J):=Xn
     have F:xbQ (0-(N:J)) d= -((N/d:zV):J):=by rw[xfH,Int.neg_tdiv];simp
     rw[zb,Gv W,ze,hi,ir j,U O]
     simp only[wN]
     generalize N/d=Q at E F R old
     rw[Gv W,ze,hi,yM,E,zb,Gv W,ze,hi,Gv W,yM,F,zb,xi (by simp;lia),ze,zb]
     refine q _ ⟨d+1,Xn,W,W,by simp;lia,λy hy=> ?_,?_⟩ (by show 1002-((d:J)+1).toNat<1002-(d:J).toNat;lia)
     ·obtain hy|hy:=pN.1 hy
      ·obtain hy|hy:=pN.1 hy
       ·exact g y hy
       ·simp only[PQ,QT,uS]at hy
        lia
      ·simp only[PQ,QT,uS]at hy
       lia
     ·refine old _ (λy hy=>xcF _<|xcF _ hy) ?_ ?_ ?_ ?_<;>simp
   ·rw[ir n,zb]
    refine q _ ⟨d+1,Xn,W,W,by simp at hl⊢;lia,g,λe c a=>b e (Nat.lt_of_le_of_ne W λh=>n<|by subst h;exact Int.tmod_eq_zero_of_dvd a) a⟩ (by show 1002-((d:J)+1).toNat<1002-(d:J).toNat;lia)
  ·rw[zA]
   refine⟨t,O,W,g,λe c a=>b e (xcT λh=>v<|PX (xbp h h) c) a⟩) fu ([],1) ⟨1,O,eZ _,W,sB _,λ_ h=>wl h QT,λe c a=>by
   have:e=0:=W
   subst this
   exact wl (Int.zero_dvd.1 a) h0⟩ (by show 1002-(1:J).toNat<fu;lia)
 rw[U P];refine⟨r,O,q1,.inr ⟨q2,λy hy=> ?_⟩⟩;obtain⟨e,c⟩:∃e,e=y.natAbs:=⟨_,O⟩;have a:(e:J)∣x:=by rw[c];exact Int.natAbs_dvd.2 hy
 have hp:e∣N:=by rw[p];exact Int.ofNat_dvd_left.1 a
 obtain⟨m,b⟩:=hp;have hA:0<N:=W
 have hB:0<e:=xcm λh=>by rw[h,xcs]at b;lia
 have hs:0<m:=xcm λh=>by rw[h,xcG]at b;lia
 have k:(y=(e:J))\/(y= -(e:J)):=W
 by_cases v:e<=m
 ·have:=xas e v;obtain⟨C,D,_,_⟩:=B e W a;obtain h|h:=k<;>rw[h]<;>assumption
 ·have:=xaf m (W:m<=e);have hk:(m:J)∣x:=Int.ofNat_dvd_left.2 (by rw[<-p,b];exact Nat.dvd_mul_left _ _);obtain⟨_,_,w,z⟩:=B m W hk;have ht:N/m=e:=by rw[b];exact xeu _ hs
  rw[ht]at w z;obtain h|h:=k<;>rw[h]<;>assumption
end
def EY(d:K)(v:N J)(u:A):Prop:=(∀k,d<k->u k=0)/\∀j,j<=d->v.getD j 0=MU u 0 j
def nwP(c:N J)(d:K):K->A
 |0=>F 0
 |m+1=>lnP (-gV (d-m))*nwP c d m+F (c.getD (d-m) 0)
theorem Ek(c:N J)(d:K):∀m k,m<=k->nwP c d m k=0
 |0,k,_=>zE k
 |m+1,k,h=>by
  show(lnP _*nwP c d m+F _) k=0;rw[zG,zcG,Ek c d m k W,zA,Ek c d m (k-1) W];unfold F;rw[zA];simp
theorem zmm{d:K}{c:N J}{u:A}(h1:1<=d)(q:d<=3)(a:∀k,d<k->u k=0)(hc:∀j,j<=d->c.getD j 0=MU u j j):nwP c d (d+1)=u:=by
 obtain⟨G,h⟩:∃G:K->J,∀j,c.getD j 0=G j:=⟨λj=>c.getD j 0,λ_=>O⟩;have hc:∀j,j<=d->G j=MU u j j:=λj n=>(h j).symm.trans<|hc j n;have c0:=hc 0 W;have c1:=hc 1 W;have b:gV 0=0:=O;have e:gV 1=1:=O;have i:gV 2= -1:=O;have d0:MU u 0 0=u 0:=by simp[MU,b]
 have d1:MU u 1 1=u 1+u 2+u 3:=by simp[MU]
 have d2:MU u 2 2=u 2:=by simp[MU]
 have d3:MU u 3 3=u 3:=by simp[MU]
 have f:∀(m k:K),nwP c d (m+1) k= -gV (d-m)*nwP c d m k+(if k=0 then 0 else nwP c d m (k-1))+(if k=0 then G (d-m)else 0):=λm k=>by
  show(lnP _*nwP c d m+F _) k=_;rw[zG,zcG,h];rfl
 have h0:∀k,nwP c d 0 k=0:=zE;rw[d0]at c0;rw[d1]at c1;funext k;by_cases o:d<k
 ·rw[a k o,Ek _ _ _ _ W]
 have:d=1\/d=2\/d=3:=W
 obtain rfl|rfl|rfl:=this
 ·have p:=a 2 W;have g:=a 3 W;have:k=0\/k=1:=W
  obtain rfl|rfl:=this<;>simp[f,h0,c0,c1,b,e,p,g]
 ·have c2:=hc 2 W;rw[d2]at c2;have g:=a 3 W;have:k=0\/k=1\/k=2:=W
  obtain rfl|rfl|rfl:=this<;>simp[f,h0,c0,c1,c2,b,e,i,g]<;>lia
 ·have c2:=hc 2 W;have l:=hc 3 W;rw[d2]at c2;rw[d3]at l;have:k=0\/k=1\/k=2\/k=3:=W
  obtain rfl|rfl|rfl|rfl:=this<;>simp[f,h0,c0,c1,c2,l,b,e,i]<;>lia
theorem zcV{d j:K}(h:j<=d:=by lia):((xaE<|d+1).map gV).getD j 0=gV j:=by
 rw[Yh,xbZ,xen W];rfl
theorem DB(d:K):X ((xaE<|d+1).map gV)=d+1:=Xn
theorem zpf{fu d k:K}{c v:N J}(D:d<=3)(w:1<=k)(E:k<=d)(hl:Wl c=d+1)(l:∀j,(c.getD j 0).natAbs<=2^(k-1)*1000000)(hc:∀u,EY d v u->∀j,j<=d->c.getD j 0=MU u (min (k-1) j) j)(F:3000000<=fu):
 ∃r,zg (VE fu (k:J)) fu ((xaE<|d+1).map gV,(d:J),c)=Z r/\((∃a,r=.inl ((xaE<|d+1).map gV,a)/\Wl a=d+1/\(∀j,(a.getD j 0).natAbs<=2^k*1000000)/\∀u,EY d v u->∀j,j<=d->a.getD j 0=MU u (min k j) j)\/(r=.inr ()/\∀u,¬EY d v u)):=by
 have hp:(2:K)^k=2*2^(k-1):=by obtain⟨n,rfl⟩:∃n,k=n+1:=⟨k-1,W⟩;rw[xbi,xdv,xaH]
 have x:(2:K)^(k-1)<=2^2:=xam YL W;have G:(2:K)^2=4:=O;obtain⟨M,m⟩:∃M,M=2^(k-1)*1000000:=⟨_,O⟩;have H:M<=4000000:=by rw[m];exact xaf 1000000 x
 rw[hp,xbe,<-m];rw[<-m]at l
 refine yb (λs:N J×J×N J=>∃(i:K) (a:N J),s=((xaE<|d+1).map gV,(i:J)-1,a)/\k<=i/\i<=d+1/\Wl a=d+1/\(∀j,(a.getD j 0).natAbs<=2*M)/\(∀j,j<i->(a.getD j 0).natAbs<=M)/\∀u,EY d v u->∀j,j<=d->a.getD j 0=MU u (if j<i then min (k-1) j else min k j) j) (λs=>(s.2.1+1).toNat) _ ?_ fu _
  ⟨d+1,c,Xn,W,eZ _,hl,λj=>by have:=l j;lia,λj _=>l j,λu b j e=>by rw[zS];exact hc u b j e⟩ (by show((d:J)+1).toNat<fu;lia)
 rintro s L ⟨i,a,rfl,P,R,hn,q,o,g⟩ y;unfold VE;simp only;by_cases h:k<i
 ·obtain⟨n,rfl⟩:∃n,i=n+1:=⟨i-1,W⟩;obtain⟨hi,z⟩:=zvm (i:=n) (j:=n-k) W W;have b1:=o n W;have b2:=o (n-1) W;have e1:((n+1:K):J)-1=(n:J):=W
  rw[e1,zS,zo (by rw[DB];lia),Q,zb,(W:(n:J)-k=((n-k:K):J)),zo (by rw[DB];lia),Q,zcV,zcV];generalize A:gV n-gV (n-k)=X at hi z;rw[zb,yc,Q,zb,(W:(n:J)-1=((n-1:K):J)),yc,Q,zb,xi hi,Q];have p:∀u,EY d v u->a.getD n 0-a.getD (n-1) 0=MU u k n*X:=λu b=>by
   have t1:=g u b n W;have t2:=g u b (n-1) W;rw[zS,xcg W]at t1;rw[zS,xcg W]at t2;rw[t1,t2,zmc u w W W,A]
  generalize B:a.getD n 0-a.getD (n-1) 0=Y at p;by_cases h0:xbn Y X=0
  ·have C:(xbQ Y X).natAbs<=2*M:=by
    rw[Int.natAbs_tdiv];exact PX (xcd _ _) W
   have hv:Um (xbQ Y X):=⟨W,W⟩;rw[S h0,yc,Q,zb,yc,Q,B,zb,xi hi,fT hv,yc,Q,zb];have hd:∀j,(a.set n<|xbQ Y X).getD j 0=if j=n then xbQ Y X else a.getD j 0:=λj=>by
    rw[Yh,List.getElem?_set];by_cases e:n=j
    ·subst e;rw[S O,zS,S O];rfl
    ·rw[ir e,zA,Yh]
   refine y _ ⟨n,_,by rw[(W:((n-1:K):J)=(n:J)-1)],W,W,by rw[xbz];exact hn,λj=> ?_,λj e=> ?_,λu b j e=> ?_⟩ (by show(((n-1:K):J)+1).toNat<(((n+1:K):J)-1+1).toNat;lia)
   ·rw[hd];split
    ·exact C
    ·exact q j
   ·rw[hd,zA];exact o j W
   ·rw[hd];by_cases t:j=n
    ·subst t;rw[S O,zA,xcg W,p u b];exact Int.mul_tdiv_cancel _ hi
    ·rw[ir t,g u b j e];by_cases f:j<n
     ·rw[zS,S f]
     ·rw[zA,ir f]
  ·rw[ir h0];refine⟨_,O,.inr ⟨O,λu b=>h0 ?_⟩⟩;rw[p u b];exact Int.mul_tmod_left _ _
 ·obtain rfl:i=k:=W
  rw[zA];refine⟨_,O,.inl ⟨a,O,hn,q,λu b j e=> ?_⟩⟩;rw[g u b j e];by_cases f:j<i
  ·rw[S f,Nat.min_eq_right W,Nat.min_eq_right W]
  ·rw[ir f]
theorem Cz{fu d:K}{v:N J}(h1:1<=d)(C:d<=3)(hl:X v=d+1)(H:∀j,(v.getD j 0).natAbs<=1000000)(e:3000000<=fu):
 ∃p ok,Xv fu ((xaE<|d+1).map gV) v=Z (p,ok)/\zX p=p/\X p<=d+1/\yQ 60 p/\∀u,EY d v u->ok=I/\(M p:A)=u:=by
 unfold Xv
 obtain⟨r,q,w⟩:=yb (f:=W2 fu<|(xaE<|d+1).map gV) (λs:J×N J=>∃(k:K) (c:N J),s=((k:J),c)/\1<=k/\k<=d+1/\X c=d+1/\(∀j,(c.getD j 0).natAbs<=2^(k-1)*1000000)/\∀u,EY d v u->∀j,j<=d->c.getD j 0=MU u (min (k-1) j) j) (λs=>d+1-s.1.toNat)
  (λr=>(∃c,r=.inl c/\X c=d+1/\(∀j,(c.getD j 0).natAbs<=8000000)/\∀u,EY d v u->∀j,j<=d->c.getD j 0=MU u j j)\/(r=.inr ()/\∀u,¬EY d v u)) (by
  rintro s L ⟨k,c,rfl,g,V,D,hd,hc⟩ y
  unfold W2
  simp only
  rw[DB]
  by_cases h:k<d+1
  ·obtain⟨r,q,w⟩:=zpf (fu:=fu) C g W D hd hc e
   rw[zS,zb,(W:((d+1:K):J)-1=(d:J)),U q]
   rcases w with⟨P,rfl,q1,q2,B⟩|⟨rfl,q1⟩
   ·simp only
    rw[zb]
    exact y _ ⟨k+1,P,O,W,W,q1,q2,B⟩ (by show d+1-((k:J)+1).toNat<d+1-(k:J).toNat;lia)
   ·exact⟨_,O,.inr ⟨O,q1⟩⟩
  ·obtain rfl:k=d+1:=W
   rw[zA]
   have R:(2:K)^(d+1-1)<=2^3:=xam YL W
   refine⟨_,O,.inl ⟨c,O,D,λj=>PX (hd j)<|xaf 1000000 R,λu a j o=> ?_⟩⟩
   rw[hc u a j o,Nat.min_eq_right W]) fu (1,[]++v) ⟨1,v,O,eZ 1,W,hl,λj=>by have:=H j;simpa using this,λu a j o=>by rw[xcg W];exact a.2 j o⟩ (by show d+1-(1:J).toNat<fu;lia)
 rw[xi (by simp;lia),Q,U q];rcases w with⟨c,rfl,q1,q2,B⟩|⟨rfl,q1⟩
 ·simp only;rw[DB,zb,(W:((d+1:K):J)-1=(d:J))]
  obtain⟨p,hp,i,b,l⟩:=yb (f:=WX fu ((xaE<|d+1).map gV) c) (λs:N G×J=>∃(m:K) (p:N G),s=(p,(d:J)-m)/\m<=d+1/\zX p=p/\(M p:A)=nwP c d m/\yQ (12*m) p) (λs=>(s.2+1).toNat)
   (λp=>zX p=p/\(M p:A)=nwP c d (d+1)/\yQ 60 p) (by
   rintro s L ⟨m,p,rfl,Y,i,b,l⟩ y
   unfold WX
   simp only
   by_cases h:m<d+1
   ·have hi:X p<=m:=rM (show p=xW (X p) (M p)from i.symm) λk g=>by rw[b];exact Ek _ _ _ _ g
    have o:d-m<=3:=W
    have hn:(-gV (d-m)).natAbs<=1000:=by
     have:d-m=0\/d-m=1\/d-m=2\/d-m=3:=W
     obtain h|h|h|h:=this<;>rw[h]<;>decide
    obtain⟨t,S,t1,t2,t3,t4⟩:=zsT (fu:=fu) (x:=0-gV (d-m)) W e
    obtain⟨z,n,T,z2,z3⟩:=ztF (fu:=fu) (x:=c.getD (d-m) 0) (by have:=q2<|d-m;lia) e
    have E:=Xt l t4
    have lm:=jC p t
    rw[zS,(W:(d:J)-m=((d-m:K):J)),zo (by rw[DB];lia),Q,zcV,Gv W,U S,U<|Vt l t4 W W e,yc,Q,U n,U<|ZS E (z3.mono W) W W W e,zb]
    refine y _ ⟨m+1,_,by rw[(W:((d-m:K):J)-1=(d:J)-((m+1:K):J))],W,(vZ _ _).symm,?_,?_⟩ (by show(((d-m:K):J)-1+1).toNat<((d:J)-m+1).toNat;lia)
    ·have e1:=CX (xe p t) z
     unfold bU at e1
     rw[e1,qh,b,t1,T,zk,xfH]
     rfl
    ·exact yF λj=>((E.bz j).add<|(z3.mono (W:1<=12*m+1+X p)).bz j).mono W
   ·obtain rfl:m=d+1:=W
    rw[zA]
    exact⟨_,O,i,b,l.mono W⟩) fu ([],(d:J)) ⟨0,[],Xn,sB _,O,wu λk=>by show M [] k=F 0 k;rw[zE];exact zY (sB k),λz n=>wl n QT⟩ (by show((d:J)+1).toNat<fu;lia)
  rw[U hp];refine⟨p,I,O,i,?_,l,λu a=>⟨O,?_⟩⟩
  ·exact rM (show p=xW (X p) (M p)from i.symm) λk g=>by rw[b];exact Ek _ _ _ _ g
  ·rw[b];exact zmm h1 C a.1<|B u a
 ·exact⟨[],yL,O,O,sB _,λz n=>wl n QT,λu a=>wl a<|q1 u⟩
section
variable{fu d B K:zV}{a:zC Zr}
def oq:N (N J)->zV->N J
 |[],_=>[]
 |l::ls,t=>l.getD (t%X l) 0::oq ls (t/X l)
def JC:N (N J)->zV
 |[]=>1
 |l::ls=>X l*JC ls
theorem GG(l:N J):∀ls,JC (ls++[l])=JC ls*X l
 |[]=>by show X l*1=1*X l;lia
 |x::ls=>by show X x*JC (ls++[l])=X x*JC ls*X l;rw[GG l ls,xbe]
theorem zfv:∀(ls:N (N J)) (t:zV),X (oq ls t)=X ls
 |[],_=>rfl
 |l::ls,t=>by show(oq ls _).length+1=X ls+1;rw[zfv ls]
theorem zjl{M:zV}:∀{ls:N (N J)} (t j:zV),(∀l∈ls,∀y∈l,y.natAbs<=M)->((oq ls t).getD j 0).natAbs<=M
 |[],t,j,_=>by show(([]:N J).getD j 0).natAbs<=M;simp
 |l::ls,t,j,h=>by
  cases j with
  |zero=>
   show(l.getD (t%X l) 0).natAbs<=M;by_cases hl:t%X l<X l
   ·rw[Yh,xaa hl];exact h l (Qh) _<|xbx hl
   ·rw[Yh,xbB W];exact sB _
  |succ j=>exact zjl (ls:=ls) (t/X l) j λx b=>h x<|kE _ b
theorem zf6:∀{ls:N (N J)}{w:N J},X w=X ls->(∀j,j<X ls->w.getD j 0∈ls.getD j [])->∃t,t<JC ls/\oq ls t=w
 |[],w,h,_=>⟨0,Nat.one_pos,(xbs.1 h).symm⟩
 |l::ls,[],h,_=>by simp at h
 |l::ls,y::w,h,c=>by
  obtain⟨t,f,e⟩:=zf6 (ls:=ls) (w:=w) (by simpa using h) λj b=>c (j+1) (by simpa using b);have h0:y∈l:=c 0 Xn;obtain⟨j,b,e0⟩:=xcz h0;refine⟨j+X l*t,?_,?_⟩
  ·show _<X l*JC ls;have:=xas (X l) (W:t+1<=JC ls);rw[xbV,xdl]at this;lia
  ·show l.getD ((j+X l*t)%X l) 0::oq ls ((j+X l*t)/X l)=y::w;rw[xbY,xag b,xcu _ _ W,xbc b,xaF,e,Yh,xaa b,<-e0];rfl
theorem zsl{t:zV}{ls:N (N J)}{n:J}(hl:X ls<=10)(h0:∀l∈ls,l≠[]/\X l<=4000)(e:t<=1000000)(o:3000000<=fu):zg (U7 fu ls) fu (a,n,[],0,(t:J))=Z (a,n,oq ls t):=by
 refine zt (λs:N G×J×N J×J×J=>∃(i k:zV) (v:N J),s=(a,n,v,(i:J),(k:J))/\i<=X ls/\k<=1000000/\X v=i/\v++oq (ls.drop i) k=oq ls t) (λs=>X ls-s.2.2.2.1.toNat) _ ?_ fu _ ⟨0,t,[],O,sB _,e,O,O⟩ (by show X ls-(0:J).toNat<fu;lia);rintro s L ⟨i,k,v,rfl,hi,f,hv,b⟩ g;unfold U7;simp only;by_cases h:i<X ls
 ·have c:ls.getD i []=ls[i]:=by rw[Yh,xaa h];rfl
  obtain⟨l0,l1⟩:=h0 _<|xbx h;rw[xbK h]at b;rw[zS,zo h,Q,zo h,Q,c];generalize ls[i]=l at l0 l1 b c⊢;have hp:0<X l:=List.length_pos_iff.2 l0;have j:=xaI k hp;have m:Um ((k/X l:zV):J):=by
   have:=xcd k (X l);generalize k/X l=q at this⊢;exact⟨W,W⟩
  rw[yM,Q,show xbn (k:J) (X l:J)=((k%X l:zV):J)from O,zo j,Q,xi (by simp;lia),Q,zo h,Q,c,yM,show xbQ (k:J) (X l:J)=((k/X l:zV):J)from O,fT m,zb];refine g _ ⟨i+1,k/X l,_,O,W,PX (xcd _ _) f,by rw[xak,hv];rfl,?_⟩ (by show X ls-((i:J)+1).toNat<X ls-(i:J).toNat;lia);rw[xal];exact b
 ·rw[zA];obtain rfl:i=X ls:=W
  rw[List.drop_length]at b;have:v=oq ls t:=by rw[<-b];simp[oq]
  rw[this]
theorem zud(i:zV)(a:N G)(d m:J)(hi:i<=1000):(ck ((2:J)≠0)<|nm (xbn (i:J) (2:J)) λb=>if b=(0:J)then nm (ng (((i+1)/2:zV):J)) λc=>Z (a,d,m,c)else Z (a,d,m,(((i+1)/2:zV):J)):V (N G×J×J×J))=Z (a,d,m,gV i):=by
 rw[xi YL,Q,show xbn (i:J) (2:J)=((i%2:zV):J)from O];unfold gV;by_cases h:i%2=0
 ·rw[zS,S h,Gv W,xfH]
 ·rw[zA,ir h]
theorem zlr{i:zV}(h:i<=3):(gV i).natAbs<4/\(0-gV i).natAbs<=1000:=by
 have:i=0\/i=1\/i=2\/i=3:=W
 obtain rfl|rfl|rfl|rfl:=this<;>decide
def Plc(a:A)(j:zV)(l:N J):Prop:=∃v,Ev a (gV j) v/\l≠[]/\X l<=4000/\(∀y∈l,y.natAbs<=1000000)/\∀y,y∣v->y∈l
theorem zll(u:yQ K a)(P:K<=1000)(w:∀j,Bb B<|M a j)(R:B<=128)(hl:X a<=7)(T:d<=3)(c:3000000<=fu):
 ∃r,zg (aA fu a (d:J) 2500) fu ([],[],1,0)=Z r/\((∃ls,r=.inl ((xaE<|d+1).map gV,ls,((JC ls:zV):J))/\X ls=d+1/\JC ls<=2500/\∀j,j<=d->Plc (M a) j (ls.getD j []))\/
  (r=.inr ([],yL))\/∃(g:N G) (i:zV),r=.inr (g,I)/\i<=d/\zX g=g/\X g<=2/\(M g:A)=lnP (-gV i)/\Zd (M g) (M a)):=by
 refine yb (λs:N J×N (N J)×J×J=>∃(i:zV) (ls:N (N J)),s=((xaE i).map gV,ls,((JC ls:zV):J),(i:J))/\i<=d+1/\X ls=i/\JC ls<=2500/\∀j,j<i->Plc (M a) j (ls.getD j [])) (λs=>d+1-s.2.2.2.toNat) _ ?_ fu _ ⟨0,[],O,sB _,O,YL,λj f=>wl f<|xbf _⟩ (by show d+1-(0:J).toNat<fu;lia);rintro s L ⟨i,ls,rfl,hi,k,hn,hp⟩ y;unfold aA;simp only;by_cases h:i<=d
 ·obtain⟨z,C⟩:=zlr (i:=i) W;obtain⟨v,e1,o,D⟩:=L5 (fu:=fu) u W W z w W c;have p:Bz 3 v:=D.bz W;rw[zS,zb,xi YL,(W:(i:J)+1=((i+1:zV):J)),show xbQ ((i+1:zV):J) (2:J)=(((i+1)/2:zV):J)from O,zb,U<|zud i a (d:J) 2500 W];simp only;rw[U<|xX ⟨W,W⟩,U e1,U<|qx (p.ok YL) c,zm];by_cases h0:v=0
  ·obtain⟨g,g1,m,E,F,_⟩:=zsT (fu:=fu) C c;rw[S<|xK.2 h0,Gv W,U g1];rw[xfH]at m;refine⟨_,O,.inr (.inr ⟨g,i,O,h,E,F,m,?_⟩)⟩;rw[m];subst h0;exact o.root
  ·obtain⟨l,l1,q,b⟩:=Ak (fu:=fu) (x:=v) p YL h0 c;rw[ir λh=>h0<|xK.1 h,U l1];by_cases e:l=[]
   ·rw[S<|by rw[e];rfl];exact⟨_,O,.inr (.inl O)⟩
   ·have V:0<X l:=List.length_pos_iff.2 e;have Y:JC ls*X l<=2500*4000:=xbp hn q;have hc:((JC ls:zV):J)*(X l:J)=((JC ls*X l:zV):J):=Xn
    rw[zA,hc,zb];by_cases t:(2500:J)<((JC ls*X l:zV):J)
    ·rw[S t];exact⟨_,O,.inr (.inl O)⟩
    ·rw[ir t,zb,xi (by simp;lia),Q,xi (by rw[k];simp;lia),Q,zb];refine y _ ⟨i+1,ls++[l],by rw[GG,xdb,xaU];rfl,W,by rw[xak,k];rfl,by rw[GG];lia,λj f=> ?_⟩ (by show d+1-((i:J)+1).toNat<d+1-(i:J).toNat;lia);by_cases hd:j=i
     ·have n:(ls++[l]).getD j []=l:=by rw[Yh,xbv W,(W:j-X ls=0)];rfl
      rw[n,hd];obtain b|⟨b,H⟩:=b
      ·exact wl b e
      ·exact⟨v,o,e,q,b,H⟩
     ·have n:(ls++[l]).getD j []=ls.getD j []:=by rw[Yh,xbb W,Yh]
      rw[n];exact hp j W
 ·obtain rfl:i=d+1:=W
  rw[zA];exact⟨_,O,.inl ⟨ls,O,k,hn,λj f=>hp j W⟩⟩
theorem Lg(Y:yQ K a)(hK:K<=1000)(bA:∀j,Bb B<|M a j)(hB:B<=128)(hl:X a<=7)(h1:1<=d)(h3:d<=3)(z:3000000<=fu):
 ∃g ok,Uj fu a (d:J) 2500=Z (g,ok)/\(ok=I->(g=[]/\∀u m,Tp u m->1<=m->m<=d->¬Zd u (M a))\/(zX g=g/\Pm (M g)/\Po (M g)/\2<=X g/\X g<=d+1/\Zd (M g) (M a))):=by
 unfold Uj;obtain⟨r,hr,hQ⟩:=zll (fu:=fu) Y hK bA hB hl h3 z;rw[U hr];rcases hQ with⟨ls,rfl,hd,hn,hp⟩|rfl|⟨g,i,rfl,hi,g1,g2,P,g4⟩
 ·simp only;have Q:∀l∈ls,l≠[]/\X l<=4000/\∀y∈l,y.natAbs<=1000000:=λl b=>by
   obtain⟨j,o,rfl⟩:=xcz b;obtain⟨v,_,q1,q2,R,_⟩:=hp j W;rw[Yh,xaa o]at q1 q2 R;exact⟨q1,q2,R⟩
  obtain⟨s,hs,hS⟩:=yb (f:=be fu a ((JC ls:zV):J)) (λs:N J×J×N (N J)=>∃t:zV,s=((xaE<|d+1).map gV,(t:J),ls)/\t<=JC ls/\∀c,c<t->∀u m,Tp u m->1<=m->m<=d->Zd u (M a)->¬EY d (oq ls c) u) (λs=>JC ls-s.2.1.toNat)
   (λr=>(r=.inl ()/\∀c,c<JC ls->∀u m,Tp u m->1<=m->m<=d->Zd u (M a)->¬EY d (oq ls c) u)\/∃g:N G,r=.inr g/\zX g=g/\Pm (M g)/\Po (M g)/\2<=X g/\X g<=d+1/\Zd (M g) (M a)) (by
   rintro s L ⟨t,rfl,A,C⟩ ih
   unfold be
   simp only
   by_cases h:t<JC ls
   ·obtain⟨p,ok,p1,T,p3,p4,V⟩:=Cz (fu:=fu) (d:=d) (v:=oq ls t) h1 h3 (by rw[zfv];exact hd) (λj=>zjl t j λl b=>(Q l b).2.2) z
    rw[zS,U<|zsl W (λl b=>⟨(Q l b).1,(Q l b).2.1⟩) W z]
    simp only
    rw[U p1]
    simp only
    have go:(∀u m,Tp u m->1<=m->m<=d->Zd u (M a)->¬EY d (oq ls t) u)->∃r,(E ((t:J)+1) λx=>L ((xaE<|d+1).map gV,x,ls))=Z r/\((r=.inl ()/\∀c,c<JC ls->∀u m,Tp u m->1<=m->m<=d->Zd u (M a)->¬EY d (oq ls c) u)\/∃g:N G,r=.inr g/\zX g=g/\Pm (M g)/\Po (M g)/\2<=X g/\X g<=d+1/\Zd (M g) (M a)):=λhq=>by
     rw[zb];refine ih _ ⟨t+1,O,W,λc hg=> ?_⟩ (by show JC ls-((t:J)+1).toNat<JC ls-(t:J).toNat;lia);by_cases h2:c=t
     ·subst h2;exact hq
     ·exact C c W
    cases ok with
    |false=>
     simp only[xfk,wN]
     exact go λu m _ _ _ _ n=>nomatch(V u n).1
    |true=>
     simp only[xdG,xaj,wP]
     have ho:∀u m,Tp u m->EY d (oq ls t) u->X p=m+1:=λu m b n=>by
      obtain⟨_,e⟩:=V u n;rw[<-e]at b;exact zdD T b
     by_cases h2:X p<2
     ·rw[zS]
      exact go λu m b hc _ _ n=>by have:=ho u m b n;lia
     ·rw[zA]
      have hv:X (zX p)≠0:=by rw[T];lia
      obtain⟨P1,P2⟩:=Xm hv
      have hx:=ue p
      rw[T]at hx
      have oP:=pA p4
      have hy:X (zX<|xb p)≠0:=by rw[jg];lia
      have hD:(X a+1)*(60+1)<=8*61:=xaf 61 W
      obtain⟨q,e,q1,q2,R⟩:=aD (fu:=fu) Y oP W W W hy z
      rw[U<|jS p4,U q1]
      simp only
      by_cases D:e=0
      ·rw[S D]
       exact⟨_,O,.inr ⟨_,O,jg p,P1,P2,W,W,q2.1 D⟩⟩
      ·rw[ir D]
       refine go λu m b hc _ H n=>D<|q2.2 ?_
       obtain⟨_,e2⟩:=V u n
       have h6:Zd (M<|xb p) (M p):=⟨F<|yG p,Fs.pc _,(QJ p).symm⟩
       rw[e2]at h6
       exact h6.trans H
   ·rw[zA]
    obtain rfl:t=JC ls:=W
    exact⟨_,O,.inl ⟨O,C⟩⟩) fu ((xaE (d+1)).map gV,0,ls) ⟨0,O,sB _,λc hg=>wl hg (xbf _)⟩ (by show JC ls-(0:J).toNat<fu;lia)
  rw[U hs];rcases hS with⟨rfl,C⟩|⟨g,rfl,g1⟩
  ·refine⟨_,_,O,λ_=> .inl ⟨O,λu m b hc hA H=> ?_⟩⟩;have hC:∀k,4<=k->u k=0:=λk hk=>b.2 k W;have hw:∀j,j<=d->((xaE<|d+1).map<|MU u 0).getD j 0=MU u 0 j:=λj o=>by rw[Yh,xbZ,xen W];rfl
   obtain⟨t,A,e⟩:=zf6 (ls:=ls) (w:=(xaE<|d+1).map<|MU u 0) (by simp[hd]) λj o=>by
    obtain⟨v,q1,_,_,_,q5⟩:=hp j W;rw[hw j W];exact q5 _<|Ev.dvd b.fs H (Ev.four hC<|gV j) q1
   refine C t A u m b hc hA H ⟨λk hk=>b.2 k W,λj o=> ?_⟩;rw[e,hw j o]
  ·exact⟨_,_,O,λ_=> .inr g1⟩
 ·exact⟨_,_,O,λh=>nomatch h⟩
 ·simp only;have A:Tp (M g) 1:=by rw[P];exact zg9 _
  have hE:=zdD g1 A;refine⟨_,_,O,λ_=> .inr ⟨g1,by rw[P];exact ztZ _,by rw[P];exact zuz _,W,W,g4⟩⟩
end
section
structure Pt(A:N G)(a:N G):Prop where
 can:zX a=a
 pm:Pm (M a)
 ps:Po (M a)
 ln:2<=a.length
 dv:Zd (M a) (M A)
section
variable{A:zC Zr}{n B0:zV}(tA:Tp (cf A) n)(hn:n<=6)(bA:∀j,Bb B0<|cf A j)(hB:B0+n+4<=128)
 include tA hn bA hB
theorem Pt.sz{a:N G}(h:Pt A a):yQ 2 a/\X a<=n+1/\∀j,Bb 128 (M a j):=by
 obtain⟨w,b,e⟩:=h.dv;rw[zk]at e;obtain⟨o1,o2,_⟩:=zw7 (K:=2) tA W bA b h.can e W;exact⟨o1,o2,λj=>(FW tA (Fs.cf a) b e W bA j).mono W⟩
theorem Pt.gd{a:N G}(h:Pt A a)(hi:Ir (M a)):Gd a:=by
 obtain⟨o,l,_⟩:=Pt.sz tA hn bA hB h;exact⟨h.can,hi,h.ps,o.mono YL,W⟩
theorem Ve:∀(k:K) (a:N G) (fu:K),X a<=k->Pt A a->3000000+k<=fu->
 ∃l ok,uq fu a 2500=Z (l,ok)/\X l+1<=X a/\(∀q∈l,Gd q)/\(ok=I->(M a:Pz)=prZ (l.map M))
 |0,a,fu,h,c,_=>by have:=c.ln;lia
 |k+1,a,fu,h,c,hf=>by
  obtain⟨F,rfl⟩:∃F,fu=F+1:=⟨fu-1,W⟩;obtain⟨T,la,ba⟩:=Pt.sz tA hn bA hB c;have ht:=c.ln;have o:Tp (M a) (X a-1):=by have:=Ze (a:=a) (by rw[c.can];lia);rwa[c.can]at this
  unfold uq
  obtain⟨r,hr,hQ⟩:=yb (f:=QP F (uq F) a 2500) (λs:J=>∃d:K,s=(d:J)/\1<=d/\d<=4/\∀u m,Tp u m->1<=m->m<d->¬Zd u (M a)) (λs=>5-s.toNat)
   (λr=>(r=.inl ()/\∀u m,Tp u m->1<=m->2*m<X a->¬Zd u (M a))\/∃l ok,r=.inr (l,ok)/\X l+1<=X a/\(∀q∈l,Gd q)/\(ok=I->(M a:Pz)=prZ (l.map M))) (by
   rintro s L ⟨d,rfl,d1,d4,B⟩ ih
   unfold QP
   rw[zb]
   by_cases hd:2*d<X a
   ·obtain⟨g,ok,g1,g2⟩:=Lg (fu:=F) (d:=d) T YL ba YL W d1 W W
    rw[zS,U g1]
    simp only
    cases ok with
    |false=>simp only[xfk,wN];exact⟨_,O,.inr ⟨[],yL,O,by simp;lia,λq t=>wl t QT,λh=>nomatch h⟩⟩
    |true=>
     simp only[xdG,xaj,wP]
     rcases g2 O with⟨rfl,g3⟩|⟨gc,gp,go,gl,a0,V⟩
     ·rw[ir Xn,zb]
      refine ih _ ⟨d+1,O,W,W,λu m C D hu hz=> ?_⟩ (by show 5-((d:J)+1).toNat<5-(d:J).toNat;lia)
      exact g3 u m C D W hz
     ·have Y:Pt A g:=⟨gc,gp,go,gl,V.trans c.dv⟩
      obtain⟨og,lg,bg⟩:=Pt.sz tA hn bA hB Y
      have hs:(X a+1)*(2+1)<=8*3:=xaf 3 W
      obtain⟨b,e,b1,b2,b3⟩:=aD (fu:=F) T og W W W (by rw[gc];lia) W
      have he:=b2.2 V
      obtain⟨p,b5,b6⟩:=b3 he
      have tg:Tp (M g) (X g-1):=by have:=Ze (a:=g) (by rw[gc];lia);rwa[gc]at this
      obtain⟨nb,_⟩:=Y7 o.nz p
      obtain⟨i,hi⟩:=Tp.ex (Fs.cf b) nb
      have w:=hi.mul tg
      rw[<-p]at w
      have h4:=w.uniq o
      have h5:=zdD b5 hi
      have pb:Pm (M b):=(show Pm (M b*M g)by rw[<-p];exact c.pm).left
      have sb:Po (M b):=by
       obtain⟨x,E,H⟩:=c.ps.tp;obtain⟨y,P,y2⟩:=go.tp;obtain rfl:=E.uniq o;obtain rfl:=P.uniq tg;refine⟨i,?_,hi.2⟩;have h6:=KH (f:=M b) (g:=M g) hi.2 tg.2;rw[h4,<-p]at h6;rw[h6]at H;exact Int.pos_of_mul_pos_left H y2
      have Pb:Pt A b:=⟨b5,pb,sb,W,(Zd.left<|Fs.cf g).trans<|by rw[<-p];exact c.dv⟩
      obtain⟨x,xo,E,H,x3,x4⟩:=Ve k g F W Y W
      obtain⟨y,yo,P,y2,y3,y4⟩:=Ve k b F W Pb W
      rw[zS,zS,U b1]
      simp only
      rw[U E]
      simp only
      rw[U P]
      simp only
      rw[yM,Q]
      have hb:∀q∈x++y,Gd q:=λq t=>(pN.1 t).elim (x3 q)<|y3 q
      have hg:X (x++y)+1<=X a:=by rw[xak];lia
      cases xo with
      |false=>rw[ir YL];exact⟨_,O,.inr ⟨_,_,O,hg,hb,λh=>nomatch h⟩⟩
      |true=>
       rw[S O]
       refine⟨_,O,.inr ⟨_,_,O,hg,hb,λh=> ?_⟩⟩
       rw[xaU,wO,<-x4 O,<-y4 h,zk]
       exact p
   ·rw[zA]
    exact⟨_,O,.inl ⟨O,λu m C D hv=>B u m C D W⟩⟩) F 1 ⟨1,O,eZ 1,YL,λu m _ h1 h2=>by lia⟩ (by show 5-(1:J).toNat<F;lia)
  rw[U hr];rcases hQ with⟨rfl,B⟩|⟨l,ok,rfl,q⟩
  ·have hl:Ir (M a):=⟨Fs.cf a,c.pm,λhc=>by have:=(Cn.tp o).1 hc;lia,λu v z fv e=>by
    obtain⟨nu,nv⟩:=Y7 o.nz e;obtain⟨i,hi⟩:=Tp.ex z nu;obtain⟨j,R⟩:=Tp.ex fv nv;have w:=hi.mul R;rw[<-e]at w;have h4:=w.uniq o;by_cases ho:i=0
    ·exact .inl<|(Cn.tp hi).2 ho
    by_cases hp:j=0
    ·exact .inr<|(Cn.tp R).2 hp
    exfalso;by_cases h5:i<=j
    ·exact B u i hi W W ⟨v,fv,by rw[e,zk]⟩
    ·exact B v j R W W ⟨u,z,e⟩⟩
   refine⟨[a],I,O,by simp;lia,λq t=> ?_,λ_=> ?_⟩
   ·rw[xab.1 t];exact Pt.gd tA hn bA hB c hl
   ·show _=(M a:Pz)*pc 1;rw[zk,zB]
  ·exact⟨l,ok,O,q⟩
end
theorem zfR{q:N G}{M:J}(a:0<=M):∀{l:N (N G×J)},(∀x∈l,0<=x.2/\x.2<=M)->∀y∈ed q 1 l,0<=y.2/\y.2<=M+1
 |[],_,y,hy=>by rw[xab.1 hy];constructor<;>lia
 |x::l,h,y,hy=>by
  have c:=h x<|Qh;have hl:=λz b=>h z<|kE _ b;unfold ed at hy;split at hy
  ·obtain rfl|hy:=PQ.1 hy
   ·constructor<;>lia
   ·exact zfR a hl y hy
  ·split at hy
   ·obtain rfl|hy:=PQ.1 hy
    ·constructor<;>simp<;>lia
    ·have:=hl y hy;constructor<;>lia
   ·obtain rfl|hy:=PQ.1 hy
    ·constructor<;>simp<;>lia
    ·have:=h y hy;constructor<;>lia
theorem zsf{fu:K}{l:N (N G)}(hl:X l<=10)(k:∀q∈l,Gd q)(d:3000000<=fu):∃out,zg (WQ fu l) fu ([],0)=Z out/\FL (prZ<|l.map M) out:=by
 refine yb (λs:N (N G×J)×J=>∃i:K,s.2=(i:J)/\i<=X l/\FL (prZ<|(l.take i).map M) s.1/\Gl s.1/\X s.1<=i/\∀x∈s.1,0<=x.2/\x.2<=(i:J)) (λs=>X l-s.2.toNat) _ ?_ fu _ ⟨0,O,sB _,FL.num (c:=1) YL,⟨sB _,λx a=>wl a QT⟩,eZ _,λx a=>wl a QT⟩ (by show X l-(0:J).toNat<fu;lia);rintro⟨out,c⟩ L ⟨i,hc,hi,h1,g,m,j⟩ o;simp only at hc h1 g m j;subst hc;unfold WQ;simp only;by_cases h:i<X l
 ·have b:=k _<|xbx h;have e:l.getD i []=l[i]:=by rw[Yh,xaa h];rfl
  rw[zS,zo h,Q,e,U<|OY g b (λx a=>by have:=j x a;exact⟨W,W⟩) d,zb];refine o _ ⟨i+1,O,W,?_,g.put W b,PX PK W,λx a=>zfR W j x a⟩ (by show X l-((i:J)+1).toNat<X l-(i:J).toNat;lia);have p:=h1.put (n:=1) (Fs.prZ λf d=>by obtain⟨x,_,rfl⟩:=xan.1 d;exact Fs.cf x) b.can b.ir b.ps<|eZ 1;rw[xeE,xaa h,xaU,wO];have r:pp (M l[i]:A) 1=prZ (List.map M (Z l[i]).toList):=by
   show pp (M l[i]:A) 1=(M l[i]:A)*F 1;rw[zk (M l[i]:A),zB];exact zB _
  rw[<-r];exact p
 ·rw[zA];obtain rfl:i=X l:=W
  rw[xcA]at h1;exact⟨_,O,h1⟩
theorem Ai{fu:K}{a:N G}(d:yQ 1 a)(h0:X (zX a)≠0)(p:X a<=7)(q:3000100<=fu):
 ∃l ok,Xx fu a 2500=Z (l,ok)/\(ok=I->FL (M a) l):=by
 have b:=jg a;obtain⟨g,i⟩:=Xm h0;have r:=ue a;have hn:=jG a;have oP:=pA d;have m:∀j,Bb 64 (M (xb a) j):=λj=>(oP.bz j).bb;have f:Tp (M<|xb a) (X (xb a)-1):=by have:=Ze (a:=xb a) (by rw[b];lia);rwa[b]at this
 have hc:=sI h0;unfold Xx;rw[U<|jS d];by_cases n:X (xb a)<2
 ·rw[zS];refine⟨_,_,O,λ_=> ?_⟩;have e:(M (xb a):A)=F (M (xb a) 0):=wu λk=>by
   obtain _|k:=k
   ·rfl
   ·rw[zY W];rfl
  have c:M (xb a) 0≠0:=by have:=f.1;rwa[(W:X (xb a)-1=0)]at this
  rw[<-QJ a,e];exact FL.scale hc<|FL.num c
 rw[zA];obtain⟨l,ok,h1,n,c,o⟩:=Ve f W m W (X (xb a)) (xb a) fu (eZ _) ⟨b,g,i,W,Zd.refl _⟩ W;rw[U h1];simp only;obtain⟨out,q1,q2⟩:=zsf (fu:=fu) W c W;rw[U q1];refine⟨out,ok,O,λh=> ?_⟩;rw[<-QJ a];exact FL.scale hc<|by rw[o h];exact q2
end
theorem zo6(r:N G)(l:J):(M (xW (X r)<|λj=>M r j*zv (yf l)):A)=F l*M r:=wu λk=>by
 rw[kz (λj a=>by rw[zY a,xaK]),zm,zU,xaX]
theorem zdP(r:N G)(f:K->J):X (xW (X r) f)<=X r:=by rw[xJ];exact qH _ _
theorem EO{fu bx b:zV}{x y:N G}(hx:zX x=x)(R:zX y=y)(hl:X y<=X x)(hL:0<X y)(hM:X x<=60)(bX:∀j,Bb bx<|M x j)(bY:∀j,Bb b<|M y j)(hT:bx+(X x-X y+1)*(b+1)<=2400000)(u:3000000<=fu):
 ∃q r c Q,Yp fu x y=Z (q,r,0)/\zX r=r/\X r<X y/\c≠0/\Fs Q/\(F c*M x:A)=Q*M y+M r/\∀j,Bb (bx+(X x-X y+1)*(b+1)) (M r j):=by
 obtain⟨n,hn⟩:∃n,n=X x-X y+1:=⟨_,O⟩;rw[<-hn]at hT⊢;have ty:Tp (M y) (X y-1):=by
  have:=Ze (a:=y) (by rw[R];lia);rwa[R]at this
 obtain⟨l,Y⟩:∃l,l=M y (X y-1):=⟨_,O⟩;have hC:l≠0:=by rw[Y];exact ty.1
 have C:Bb b l:=by rw[Y];exact bY _
 have hp:∀d,d<=n->bx+d*(b+1)<=2400000:=λd hd=>by have:=xaf (b+1) hd;lia
 have hN:b+1<=2400000:=by have:=hp 1 W;lia
 have oX:yQ 37500 x:=by rw[<-hx];exact yF λj=>(bX j).bz W
 have oY:yQ 37500 y:=by rw[<-R];exact yF λj=>(bY j).bz W
 have ol:zn (yf l).2/\(yf l).2.length<=37500:=⟨yx _,(C.bz (K:=37500) W).len⟩;have hF:y.getD (X y-1) (yL,[])=yf l:=by rw[Y];exact gA (show y=xW (X y) (M y)from R.symm)
 have g:∀{s:zV}{r:N G},s<=n->zX r=r->(∀j,Bb (bx+s*(b+1))<|M r j)->yQ 37500 r:=λ{s r} D i h=>by rw[<-i];exact yF λj=>(h j).bz (by have:=hp s D;lia)
 have up:∀{s:zV}{z w v:J},Bb (bx+s*(b+1)) z->Bb (bx+s*(b+1)) w->Bb b v->Bb (bx+(s+1)*(b+1)) (l*z-w*v):=λ{s z w v} S T hv=>by
  have e:bx+(s+1)*(b+1)=b+(bx+s*(b+1))+1:=by rw[xaT];lia
  rw[e];refine Bb.sub (C.mul S) ?_;rw[xdI b];exact T.mul hv
 obtain⟨t,ht,s,r,q,rfl,D,i,P,hu,m,B,hb,Q,E,H⟩:=yb (f:=Qy fu<|yf l) (λst:N G×N G×N G×J=>∃(s:zV) (r q:N G),st=(y,r,q,((n-s:zV):J))/\X r+s<=X x/\zX r=r/\zX q=q/\(∀j,Bb (bx+s*(b+1))<|M r j)/\(∀j,Bb (bx+s*(b+1))<|M q j)/\X q<=100/\s<=n/\∃Q:A,Fs Q/\F (l^s)*M x=Q*M y+M r) (λst=>X st.2.1)
  (λt=>∃(s:zV) (r q:N G),t=(r,q,((n-s:zV):J))/\s<=n/\zX r=r/\zX q=q/\X r<X y/\(∀j,Bb (bx+s*(b+1))<|M r j)/\(∀j,Bb (bx+s*(b+1))<|M q j)/\X q<=100/\∃Q:A,Fs Q/\F (l^s)*M x=Q*M y+M r) (by
  rintro st L ⟨s,r,q,rfl,hO,i,P,m,B,hb,D,Q,E,H⟩ ih
  unfold Qy
  simp only
  by_cases hP:X y<=X r
  ·have tR:Tp (M r) (X r-1):=by have:=Ze (a:=r) (by rw[i];lia);rwa[i]at this
   have hA:s+1<=n:=W
   obtain⟨w,T⟩:∃w,w=M r (X r-1):=⟨_,O⟩
   have hG:r.getD (X r-1) (yL,[])=yf w:=by rw[T];exact gA (show r=xW (X r) (M r)from i.symm)
   obtain⟨d,hd⟩:∃d,X r=d+X y:=⟨X r-X y,W⟩
   have oR:=g W i m
   have oQ:=g W P B
   have bw:Bb (bx+s*(b+1)) w:=by rw[T];exact m _
   have V:Bz 37500 w:=bw.bz (by have:=hp s D;lia)
   rw[zS,zb,(W:(X r:J)-(X y:J)=(d:J)),yU,yM,ze,zb,(W:(X r:J)-1=((X r-1:zV):J)),yc,hG,ze,xi (by simp;lia),ze,
    U (jh oQ ol YL W u)]
   obtain⟨q1,hc⟩:∃q1,q1=xW (X q) (λj=>M q j*zv (yf l)):=⟨_,O⟩
   obtain⟨r1,hg⟩:∃r1,r1=xW (X r) (λj=>M r j*zv (yf l)):=⟨_,O⟩
   obtain⟨part,hi⟩:∃part,part=sR d (false,[])++[yf w]:=⟨_,O⟩
   have c1:(M q1:A)=F l*M q:=by rw[hc];exact zo6 q l
   have c2:(M r1:A)=F l*M r:=by rw[hg];exact zo6 r l
   have cp:(M part:A)=mono d w:=by rw[hi];exact zje d w
   have l1:X q1<=X q:=by rw[hc];exact zdP _ _
   have l2:X r1<=X r:=by rw[hg];exact zdP _ _
   have lp:X part=d+1:=by rw[hi];simp
   have o:∀{z:J},Bb (bx+s*(b+1)) z->Bb (bx+(s+1)*(b+1)) (l*z):=λS=>by have:=up S (Bb.zero _)<|Bb.zero _;rwa[xaK,xcy]at this
   have o1:yQ 37500 q1:=g hA (by rw[hc];exact(vZ _ _).symm) λj=>by rw[c1,zU];exact o<|B j
   have o2:yQ 37500 r1:=g hA (by rw[hg];exact(vZ _ _).symm) λj=>by rw[c2,zU];exact o<|m j
   have op:yQ 37500 part:=by rw[hi];exact MO V
   have om:yQ (37500+37500) (xe part y):=by
    have hm:zX (xe part y)=xe part y:=(vZ _ _).symm;rw[<-hm];refine yF λj=> ?_;rw[qh,cp,qF];refine V.mul ?_;unfold sh;split
    ·exact oY.bz _
    ·exact Bz.zero _
   rw[<-hc,<-hi,U<|ZS o1 op YL W W u,U<|jh oR ol YL W u,<-hg,U<|Vt op oY W W u,
    U (a6 (k:=37500+37500) (o2.mono YL) om YL W (by have:=jC part y;lia) u),zb,(W:(((n-s:zV):J)-1)=((n-(s+1):zV):J))]
   obtain⟨p,ho⟩:∃p,p=U1 r1 (xe part y):=⟨_,O⟩
   have hB:∀k,M p k=l*M r k-w*sh (M y) d k:=λk=>by rw[ho,Nu,qh,cp,qF,c2,zU]
   have hD:zX p=p:=by rw[ho];exact(vZ _ _).symm
   have hK:X p<=X r-1:=rM (show p=xW (X p) (M p)from hD.symm) λk hk=>by
    rw[hB];unfold sh;rw[zS];by_cases e:k=X r-1
    ·rw[e,<-T,(W:X r-1-d=X y-1),<-Y,xaX];lia
    ·rw[zY W,zY W];lia
   refine ih _ ⟨s+1,p,bU q1 part,by rw[ho];rfl,W,hD,(vZ _ _).symm,λj=> ?_,λj=> ?_,by have:=aZ q1 part;lia,hA,F l*Q+mono d w,((Fs.pc l).mul E).add ⟨d+1,λj hj=>zA⟩,?_⟩ (by show(U1 r1<|xe part y).length<X r;rw[<-ho];lia)
   ·rw[hB]
    refine up (m j) bw ?_
    unfold sh
    split
    ·exact bY _
    ·exact Bb.zero _
   ·rw[ME,c1,zU,cp]
    have:l*M q j+mono d w j=l*M q j-mono d (-w) j*1:=by unfold mono;split<;>lia
    rw[this]
    refine(up (B j) ?_ (v:=1) ?_)
    ·unfold mono
     split
     ·show(-w).natAbs<_;rw[Int.natAbs_neg];exact bw
     ·exact Bb.zero _
    ·have h1:(1:zV)<=l.natAbs:=Nat.one_le_iff_ne_zero.2<|Int.natAbs_ne_zero.2 hC
     exact C.le h1
   ·rw[xbo,xaX,<-uk,zd,H,xu,yu,zd]
    funext k
    rw[zG,zG,zG,qF,hB,zU l<|M r]
    lia
  ·rw[zA]
   exact⟨_,O,s,r,q,O,D,i,P,W,m,B,hb,Q,E,H⟩) fu (y,x,[],(n:J)) ⟨0,x,[],Xn,W,hx,O,λj=>by rw[xcs];exact bX j,λj=>by rw[zY (sB _)];exact Bb.zero _,Xn,W,F 0,Fs.pc 0,by funext k;rw[zG,zU,zT,zE,xbD,xcr,xco]⟩ (by show X x<fu;lia)
 obtain⟨t2,hH,r2,q2,rfl,hI,hE,a0,Q2,a1,hJ⟩:=yb (f:=QQ fu<|yf l) (λst:N G×N G×J=>∃(s:zV) (r q:N G),st=(r,q,((n-s:zV):J))/\s<=n/\zX r=r/\zX q=q/\X r<X y/\(∀j,Bb (bx+s*(b+1))<|M r j)/\(∀j,Bb (bx+s*(b+1))<|M q j)/\X q<=100/\∃Q:A,Fs Q/\F (l^s)*M x=Q*M y+M r) (λst=>st.2.2.toNat)
  (λt=>∃(r q:N G),t=(r,q)/\zX r=r/\X r<X y/\(∀j,Bb (bx+n*(b+1))<|M r j)/\∃Q:A,Fs Q/\F (l^n)*M x=Q*M y+M r) (by
  rintro st L ⟨s,r,q,rfl,D,i,P,hu,m,B,hb,Q,E,H⟩ ih
  unfold QQ
  simp only
  by_cases h0:s<n
  ·have o:∀{z:J},Bb (bx+s*(b+1)) z->Bb (bx+(s+1)*(b+1)) (l*z):=λS=>by have:=up S (Bb.zero _)<|Bb.zero _;rwa[xaK,xcy]at this
   have l1:=zdP q<|λj=>M q j*zv (yf l)
   have l2:=zdP r<|λj=>M r j*zv (yf l)
   rw[zS,U<|jh (g W P B) ol YL W u,U<|jh (g W i m) ol YL W u,zb,(W:(((n-s:zV):J)-1)=((n-(s+1):zV):J))]
   refine ih _ ⟨s+1,_,_,O,h0,(vZ _ _).symm,(vZ _ _).symm,W,λj=> ?_,λj=> ?_,W,F l*Q,(Fs.pc l).mul E,?_⟩ (by show((n-(s+1):zV):J).toNat<((n-s:zV):J).toNat;lia)
   ·rw[zo6,zU];exact o<|m j
   ·rw[zo6,zU];exact o<|B j
   ·rw[zo6,xbo,xaX,<-uk,zd,H,xu,zd]
  ·obtain rfl:s=n:=W
   rw[zA]
   exact⟨_,O,r,q,O,i,hu,m,Q,E,H⟩) fu (r,q,((n-s:zV):J)) ⟨s,r,q,O,D,i,P,hu,m,B,hb,Q,E,H⟩ (by show((n-s:zV):J).toNat<fu;lia)
 refine⟨q2,r2,l^n,Q2,?_,hI,hE,Int.pow_ne_zero hC,a1,hJ,a0⟩;unfold Yp;rw[U<|yw oY YL W u,show xW (X y) (M y)=y from R,zA,U<|yw oX YL W u,show xW (X x) (M x)=x from hx,zb,(W:(X y:J)-1=((X y-1:zV):J)),yc,hF,ze,zb,zb,(W:(X x:J)-(X y:J)+1=(n:J)),U ht];simp only;rw[U hH]
section
variable{fu K:zV}{a:zC Zr}
theorem Pn{i m:zV}{b:N G}(f:zX a=a)(r:zX b=b)(hc:yG a=1)(w:X b<X a)(y:X a<=60)(s:∀j,Bb i<|M a j)(t:∀j,Bb m<|M b j)(z:GcZ i m (X a) (X b))(Y:i<=639000)(hk:m<=639000)(o:3000000<=fu):
 ∃g,J1 fu a b=Z g/\zX g=g/\Pm (M g)/\Po (M g)/\X g<=X a/\∀d,Fs d->Pm d->(Zd d (M g)↔Zd d (M a)/\Zd d (M b)):=by
 have u:yQ 9985 a:=by rw[<-f];exact yF λj=>(s j).bz W
 have p:yQ 9985 b:=by rw[<-r];exact yF λj=>(t j).bz W
 have hd:xb a=a:=du (jg a) f λk=>by rw[Xk,hc,Int.ediv_one]
 obtain⟨c,e⟩:=Xm (a:=a) (by rw[f];lia);rw[hd]at c e;obtain⟨x,A,v,C,D,E,F,H⟩:=zoS (B:=Bn fu) (Ps:=Yp fu) (Pr:=vY fu) (n:=fu) (λ_ _ _=>O) (λh h1 q=>jS h h1 q) (λh1 q L P Q R S T=>EO h1 q L P Q R S T o) f c e r w y s t z W;have b1:=(Bz.one' (k:=1)<|eZ _);have V:=(oU p);have hi:xW (X x) (λj=>M x j*1)=x:=by rw[show(λj=>M x j*1)=M x from wu λj=>xci _];exact v
 refine⟨x,?_,v,C,D,E,H⟩;unfold J1;rw[U<|Zg u,U<|Zg p,hc,U<|oI (K:=9985) (yx _) (yx _) (PX b1.len YL) V.len YL o,zm,zm,show Int.natAbs 1=1 from O,Nat.gcd_one_left,show((1:zV):J)=1 from O,U<|jS u,U<|jS p,hd,U A,U<|jh (l:=1) F ⟨yx _,b1.len⟩ YL W o,zm];show Z (xW (X x) λj=>M x j*1)=_;rw[hi]
theorem GQ(b:yQ K a)(f:K+1<=100000)(hl:X a<=1000)(c:3000000<=fu):Q7 fu a=Z (xW (X a-1)<|dvp<|M a):=by
 unfold Q7;rw[U (v:=zi (X a-1)<|dvp<|M a)]
 ·have o:yQ (K+1) (zi (X a-1)<|dvp<|M a):=Y6 λj=>by
   by_cases g:j+1<X a
   ·show Bz _ (((j+1:zV):J)*M a (j+1));rw[xaX];exact(b.bz _).mul<|Bz.nat W
   ·show Bz _ (((j+1:zV):J)*M a (j+1));rw[zY W,xaw];exact Bz.zero _
  rw[U<|yw o W (by rw[yh];lia) c,yh,Cm]
 ·refine zt (λs=>∃k:zV,k<=X a-1/\s=(zi k<|dvp<|M a,((k+1:zV):J))) (λs=>X a-s.2.toNat) _ ?_ fu _ ⟨0,sB _,O⟩ (by show X a-1<fu;lia);rintro s L ⟨k,i,rfl⟩ d;unfold lX;simp only;by_cases h:k+1<X a
  ·have e:=b.okZ W<|k+1;have b1:Bz 1 ((k+1:zV):J):=Bz.nat W;rw[zS,zo h,Q,U<|xX ⟨W,W⟩,U (xV e<|b1.ok YL),zm,YV,xi (by rw[yh];simp;lia),Q,zb];refine d _ ⟨k+1,W,?_⟩ (by show X a-(((k+1:zV):J)+1).toNat<X a-((k+1:zV):J).toNat;lia);rw[show zi (k+1) (dvp<|M a)=zi k (dvp<|M a)++[yf<|dvp (M a) k]from te.symm];congr 2;show[yf<|M a (k+1)*((k+1:zV):J)]=[yf<|((k+1:zV):J)*M a (k+1)];rw[xaX]
  ·rw[zA];obtain rfl:k=X a-1:=W
   rfl
theorem BT{B b:zV}(h:yQ K a)(t:K<=100)(hl:X a<=40)(h0:BJ a=0)(k:∀j,Bb B<|M a j)(c:∀j,Bb b<|M a<|j+1)(l:B<=6000)(u:b<=6000)(m:GcZ B (b+6) (X (zX a)) (X (zX a)-1))(d:3000000<=fu):
 ∃g R,zfA a g R/\XD fu a=Z R/\∀j,Bb (B+X (zX a)+4) (M R j):=by
 have hc:=jG a;have hd:=ue a
 obtain⟨g,R,h1,n,o,p⟩:=zjv (Gc:=J1 fu) (Dv:=q7 fu) hl h0 k c l (λ{x y} g1 e i q f r s=>Pn g1 e i W W r s (by rw[(W:X y=X (zX a)-1),f];exact m) W W d)
  (λ{x y} g1 e i q f=>aD g1 e (by have:=xaf (97+1) (W:X x+1<=41);lia) W W f d)
 refine⟨g,R,o,?_,p⟩;unfold XD;rw[U<|jS h,U<|GQ (pA h) W W d,U h1,U n]
end
theorem L8{fu i:K}(hi:i<=200000)(f:3000000<=fu):dC fu [1] (i:J)=Z (yN<|2^i,0):=by
 obtain⟨q,m,b,rfl⟩:∃q m,m<64/\i=64*q+m:=⟨i/64,i%64,xaI _ YL,(xbj i 64).symm⟩;have e1:xbQ ((64*q+m:K):J) 64=(q:J):=by rw[xcN W];lia
 have c:xbn ((64*q+m:K):J) 64=(m:J):=by rw[Int.tmod_eq_emod_of_nonneg W];lia
 have hp:2^m<18446744073709551616:=by
  have:=xdE (a:=2) YL b;exact this
 have hv:nv ((sR (q+1) 0).set q<|2^m)=2^(64*q+m):=by
  have:=zhs (sR (q+1) 0) q (2^m) Xn;rw[WZ,Yh,xeQ,zS]at this;simp only[xeq,xcG,xbM,xaF]at this;rw[this,xbq,xbT]
 have d:zn ((sR (q+1) 0).set q<|2^m):=λx e=>by
  obtain h|h:=xeb e
  ·rw[(xeY.1 h).2];decide
  ·rw[h];exact hp
 unfold dC eK
 rw[zA,zA,xi YL,e1,c,zb,zb,(W:(q:J)+1=((q+1:K):J)),yU,yM,Q,xi YL,zb,xi YL,Q,yM,Q,zo Xn,Q,
  (W:min ((m:J)).toNat 64=m),xbL,xag hp]
 show Y (Wm fu [1]<|(sR (q+1) 0).set q<|2^m) _=_;rw[U (si (a:=[1]) (zn.cons YL zn.nil) d YL (by simp;lia)<|by simp;lia),hv,show nv [1]=1 from O,xbL]
theorem Mg{fu K:zV}{s:J}(q:0<=s)(b:Bz K s)(D:K<=1000)(d:3000000<=fu):∃r:zV,Ub fu (yf s) 2=Z (yf (r:J),0)/\Bz (K+1) (r:J)/\r*r<=s.toNat/\s.toNat<(r+1)*(r+1):=by
 obtain⟨S,rfl⟩:=xat q;rw[xaJ];have E:bl S<=64*K:=ah (by
  unfold Bz at b;rw[xaW,(YL:(18446744073709551616:zV)=2^64),<-xbT]at b;exact b)
 have u:nv (yf (S:J)).2=S:=by show nv (yN<|(S:J).natAbs)=S;rw[ym,xaW]
 have v:xbQ ((bl S:zV):J) 2=((bl S/2:zV):J):=by rw[xcN W];lia
 have a:∀{r:zV},r*r<=S->Bz (K+1) (r:J):=λ{r} h=>by
  unfold Bz at b⊢;rw[xaW]at b⊢;obtain rfl|h0:=xcb r
  ·exact xaP YL
  ·have:r<=r*r:=xdj _ h0;rw[xbi];lia
 obtain⟨⟨t1,t2⟩,w,r,n,h1,g⟩:=yb (f:=af fu (yf (S:J)) 2) (λst:J×G×G=>∃(k r:zV) (z:G),st=((k:J)-1,z,yf (r:J))/\k<=bl S/2+1/\r*r<=S/\S<(r+2^k)*(r+2^k)) (λst=>(st.1+1).toNat)
  (λt=>∃r:zV,t.2=yf (r:J)/\r*r<=S/\S<(r+1)*(r+1)) (by
  rintro st L ⟨k,r,z,rfl,F,h1,g⟩ o
  unfold af
  simp only
  cases k with
  |zero=>
   rw[zA]
   exact⟨_,O,r,O,h1,g⟩
  |succ k=>
   have p:=a h1
   have l:Bz (K+1) ((2^k:zV):J):=by
    unfold Bz;rw[xaW,(YL:(18446744073709551616:zV)=2^64),<-xbT];exact xdE YL W
   have A:zv (yL,yN<|2^k)=((2^k:zV):J):=by show((nv (yN<|2^k):zV):J)=_;rw[ym]
   obtain⟨x,i⟩:∃x,x=r+2^k:=⟨_,O⟩
   have bx:Bz (K+2) (x:J):=by rw[i];have:=p.add l;exact this
   have b1:Bz 1 (1:J):=Bz.one'<|eZ _
   have hd:zg (jw fu<|yf (x:J)) fu ((2:J),yf (S:J),(0:J),yf 1)=Z (2,yf (S:J),yf ((x*x:zV):J)):=by
    obtain⟨fu,rfl⟩:∃j,fu=j+1+1+1:=⟨fu-3,W⟩;rw[w6];generalize B:zg (jw (fu+1+1+1)<|yf (x:J)) (fu+1+1)=L;unfold jw;simp only;rw[iq YL,U (xV (b1.ok YL)<|bx.ok W),zm,zm,xcr,fT YL,<-B,w6];generalize C:zg (jw (fu+1+1+1)<|yf (x:J)) (fu+1)=H;unfold jw;simp only;rw[iq YL,U (xV (bx.ok W)<|bx.ok W),zm,fT YL,<-C,w6];unfold jw;simp only;rw[ir YL,xda]
   rw[(W:((k+1:zV):J)-1=(k:J)),zS,U<|L8 W d]
   simp only
   rw[U<|qp (p.ok W) ⟨zz _,PX ((zN (K+1)<|2^k).2<|by unfold Bz at l;rwa[xaW]at l) W⟩ d,zm,A,show(r:J)+((2^k:zV):J)=(x:J)by rw[i];lia,U (xX (x:=1) YL),U hd]
   simp only
   have c:Bz (K+2+(K+2)) ((x*x:zV):J):=by rw[xda];exact bx.mul bx
   rw[U (aW (c.ok W) (b.ok W) d (PX c.len W)<|PX b.len W),zm,zm]
   have m:2^(k+1)=2^k+2^k:=by rw[xbi];lia
   by_cases hc:x*x<=S
   ·rw[iq (by
     have:¬0<ke ((x*x:zV):J) (S:J):=λh=>by have:=E8.1 h;lia
     lia),zb]
    exact o _ ⟨k,x,_,O,W,hc,by rw[i,xcL,<-m];exact g⟩ (by show((k:J)-1+1).toNat<(((k+1:zV):J)-1+1).toNat;lia)
   ·rw[ir (by
     have:=(E8 (x:=((x*x:zV):J)) (y:=(S:J))).2 W;lia),zb]
    exact o _ ⟨k,r,_,O,W,h1,by rw[<-i];lia⟩ (by show((k:J)-1+1).toNat<(((k+1:zV):J)-1+1).toNat;lia)) fu (((bl S/2:zV):J),(yL,[]),yf 0) ⟨bl S/2+1,0,_,by congr 1;lia,eZ _,sB _,by
   rw[xaF,<-xbq]
   exact xah (IB S)<|xam YL W⟩ (by show(((bl S/2:zV):J)+1).toNat<fu;lia)
 simp only at n;subst n;refine⟨r,?_,a h1,h1,g⟩;unfold Ub;rw[ir YL,ir YL,U<|qx (b.ok W) d,zm,ir (λe=>by
  have:¬0<ke (0:J) (S:J)->vF:=λ_=>xS;unfold ke at e;rw[zA]at e;split at e<;>exact wl e YL),U (xX (x:=0) YL),U (nj (yx _) (PX b.len W) (by have:=b.len;lia)),u,xi YL,v,zb,U w]
theorem Hk{fu K:zV}{R:N G}(hR:zX R=R)(ho:yQ K R)(hK:K<=300)(h0:BJ R=0)(hf:3000000<=fu):∃Y,Je fu R=Z (yf (Y:zV),0)/\BdY R Y/\Bz (K+K+4+2) (Y:J):=by
 have hb:=db h0;rw[hR]at hb;have hj:=XB (show R=xW R.length (M R)from hR.symm) (by lia);have hd:∀n,n<=70->Bz (K+K+1) (Aj (M R) n):=λn hn=>zg8 ho.bz n (by lia);have he:1<=Aj (M R) R.length:=Nc ⟨R.length-1,by lia,hj⟩;have ha:zg (KD fu R) fu ((0:J),yf 0)=Z (yf<|Aj (M R) R.length):=by
  refine zt (λs=>∃k:zV,k<=R.length/\s=((k:J),yf<|Aj (M R) k)) (λs=>R.length-s.1.toNat) _ ?_ fu _ ⟨0,sB _,O⟩ (by show R.length-0<fu;lia);rintro s L ⟨k,hk,rfl⟩ ih;unfold KD;simp only;by_cases h:k<R.length
  ·have oZ:=ho.okZ (by lia) k;have b2:=(ho.bz k).mul<|ho.bz k;rw[zS,zo h,Q,zo h,Q,U<|xV oZ oZ,YV,U<|qp ((hd k<|by lia).ok<|by lia) (b2.ok<|by lia) hf,zm,zm,zb];exact ih _ ⟨k+1,h,O⟩ (by show R.length-((k:J)+1).toNat<R.length-(k:J).toNat;lia)
  ·rw[zA];obtain rfl:k=R.length:=by lia
   rfl
 obtain⟨S,hS⟩:∃S,S=Aj (M R) R.length:=⟨_,O⟩;have bS:Bz (K+K+1) S:=by rw[hS];exact hd _<|by lia
 rw[<-hS]at ha he;obtain⟨r,r1,r2,r3,r4⟩:=Mg (fu:=fu) (s:=S) (by lia) bS (by lia) hf;have brr:Bz (K+K+1+1+(K+K+1+1)) ((r:J)*r):=r2.mul r2;obtain⟨c,hc,hl,hm⟩:∃c:zV,(bd (wk fu (yf (r:J))<|yf (r:J)) λy7=>bd (Yf fu y7<|yf S) λx4=>if x4<(0:J)then bd (wg fu (1:J)) λy8=>bd (vj fu (yf (r:J)) y8) λy9=>Z y9 else Z (yf (r:J)))=Z (yf (c:J))/\Bz (K+K+4) (c:J)/\∃q:zV,c=q+1/\(q:J)*q<S/\S<=((q:J)+1)*(q+1):=by
  rw[U (xV (r2.ok<|by lia)<|r2.ok<|by lia),zm,U (aW (brr.ok<|by lia) (bS.ok<|by lia) hf (PX brr.len<|by lia)<|PX bS.len<|by lia),zm,zm];have e3:((r:J)*r)<=S:=by
   have:((r*r:zV):J)<=(S.toNat:J):=by lia
   rw[xda]at this;lia
  have e4:S<((r:J)+1)*(r+1):=by
   have:(S.toNat:J)<(((r+1)*(r+1):zV):J):=by lia
   rw[xda]at this;have h5:((r+1:zV):J)=(r:J)+1:=by lia
   rw[h5]at this;lia
  by_cases hg:(r:J)*r<S
  ·rw[qN hg,iq (by decide),U (xX (x:=1)<|by decide),U<|qp (r2.ok<|by lia) ((Bz.one'<|eZ 1).ok<|by decide) hf,zm,zm];refine⟨r+1,O,?_,r,O,hg,by lia⟩;have:=r2.add<|(Bz.one'<|eZ 1).mono (show 1<=K+K+1+1 by lia);exact this.mono<|by lia
  ·have e5:(r:J)*r=S:=Int.le_antisymm e3 (Int.not_lt.1 hg)
   rw[ua e5,ir<|by decide];have hr:r≠0:=λe=>by rw[e]at e5;simp at e5;lia
   refine⟨r,O,r2.mono (by lia),r-1,by lia,?_,?_⟩
   ·have:(((r-1)*(r-1):zV):J)<((r*r:zV):J):=by
     have:=Nat.mul_lt_mul_of_lt_of_le (show r-1<r by lia) (show r-1<=r by lia) (by lia);lia
    rw[xda,xda]at this;lia
   ·rw[show((r-1:zV):J)+1=(r:J)by lia];lia
 obtain⟨q,rfl,hp,hq⟩:=hm;have b2:∀k,k<=R.length->Bz (K+K+4+2) (((q+1)*2^k:zV):J):=λk hk=>by
  rw[xda];refine hl.mul ?_;unfold Bz;rw[xaW,show(18446744073709551616:zV)=2^64 by decide,<-xbT];exact xdE (by decide)<|by lia
 have hi:zg (Kk fu R) fu ((1:J),yf ((q+1:zV):J))=Z (yf (((q+1)*2^(R.length-1):zV):J)):=by
  refine zt (λs=>∃k:zV,k+1<=R.length/\s=(((k+1:zV):J),yf (((q+1)*2^k:zV):J))) (λs=>R.length-s.1.toNat) _ ?_ fu _ ⟨0,by lia,by rw[xeA,xdl];rfl⟩ (by show R.length-1<fu;lia);rintro s L ⟨k,hk,rfl⟩ ih;unfold Kk;simp only;by_cases h:k+1<R.length
  ·have b2:=b2 k (by lia);rw[zS,U<|qp (b2.ok<|by lia) (b2.ok<|by lia) hf,zm,zb];refine ih _ ⟨k+1,by lia,?_⟩ (by show R.length-(((k+1:zV):J)+1).toNat<R.length-((k+1:zV):J).toNat;lia);congr 2;rw[xbi,<-xbe];lia
  ·rw[zA];obtain rfl:k=R.length-1:=by lia
   rfl
 refine⟨(q+1)*2^(R.length-1),?_,⟨q,O,by rw[<-hS];exact hp,by rw[<-hS];exact hq⟩,b2 _<|by lia⟩;unfold Je;rw[U<|uc ho,iq h0,U<|yw ho (by lia) (by lia) hf,show xW R.length (M R)=R from hR,U (xX (x:=0)<|by decide),U ha,U r1];simp only;rw[U hc,U hi]
section
variable{fu K:zV}{R:zC Zr}{q:zI}
theorem Ly{p:J}(d:zX R=R)(a:yQ K R)(l:K<=300)(h0:BJ R=0)(g:3000300<=fu):∃b,KZ fu R p=Z (b,0)/\(b=I↔ZJ R p):=by
 have h:=db h0;rw[d]at h;unfold KZ;rw[U<|uc a,S h0,U<|eh W]
 cases hp:wB p with
 |false=>
  rw[S YL];exact⟨_,O,λe=>wl e YL,λe=>by rw[e.1]at hp;cases hp⟩
 |true=>
  obtain⟨n,i⟩:=zp hp;rw[ir YL,U<|Pe a W W i W W];simp only;rw[U (yw a W W W),show xW (X R) (M R)=R from d];by_cases c:X (jH p R)=X R
  ·obtain⟨m,b,h1,o,f,j,_⟩:=znt (fu:=fu) hp W W c;obtain⟨r,s,g1,k⟩:=znY (fu:=fu) hp (Q8 (p:=p) W R) W g;rw[g1]at f;obtain⟨rfl,rfl⟩:=Prod.mk.inj<|xdc f;rw[zS,U k];refine⟨_,O,?_⟩;rw[j,Sa h1];exact⟨λhc=>⟨hp,(gh).1 c,hc⟩,λhc=>hc.2.2⟩
  ·rw[zA];exact⟨_,O,λe=>wl e YL,λe=>wl ((gh).2 e.2.1) c⟩
theorem Hr(h:65521<=q):YX fu q=Z (0,5):=by
 unfold YX;rw[S h]
theorem LV(h1:1<=q)(h:q<65521)(j:3000000<=fu):∃r,YX fu q=Z (r,0)/\wB r=I/\q<r/\∀s,q<s->s<r->wB s=yL:=by
 unfold YX;obtain⟨r,c,r1,r2,d⟩:=yb (f:=bE fu) (λi:J=>q<=i/\i<65521/\∀s,q<s->s<=i->wB s=yL) (λi=>(65521-i).toNat) (λr=>wB r=I/\q<r/\∀s,q<s->s<r->wB s=yL) (by
  rintro i L ⟨i1,i2,a⟩ g;unfold bE;rw[zb,U<|eh W]
  cases hp:wB (i+1)with
  |true=>rw[S O];exact⟨_,O,hp,W,λs h1 b=>a s h1 W⟩
  |false=>
   have k:i+1≠65521:=λe=>by rw[e,R8]at hp;cases hp
   rw[ir YL];refine g _ ⟨W,W,λs h1 b=> ?_⟩ W;by_cases e:s=i+1
   ·rw[e];exact hp
   ·exact a s h1 W) fu q ⟨W,W,λs h1 b=>by lia⟩ W
 rw[zA,Q,(W:max q 1=q),U c];exact⟨r,O,r1,r2,d⟩
theorem zhX(j:zX R=R)(k:yQ K R)(l:K<=300)(h0:BJ R=0)(hl:1<X R)(m:3000300<=fu):
 ∃s,zg (qw fu R) fu ((2:J),(0:J))=Z s/\(s=.inr ()/\(∃p,ZJ R p)\/s=.inl ()/\¬∃p,ZJ R p):=by
 refine yb (λst:J×J=>(st.2=0/\2<=st.1/\st.1<=65521/\∀q,q<st.1->¬ZJ R q)\/(st.2≠0/\st.1=0/\¬∃p,ZJ R p)) (λst=>if st.2=0 then(65523-st.1).toNat else 0) _ ?_ fu _ (.inl ⟨O,YL,YL,λq a h=>by have:=zp h.1;have:q<2:=a;lia⟩) (by show(if(0:J)=0 then(65523-2:J).toNat else 0)<fu;rw[S O];lia);rintro⟨p,e⟩ L g d;simp only at g d;unfold qw;simp only;rcases g with⟨rfl,h1,n,f⟩|⟨h1,n,f⟩
 ·obtain⟨b,b1,b2⟩:=Ly (fu:=fu) (p:=p) j k l h0 m;rw[S O,zS,U b1];simp only;by_cases c:b=I
  ·rw[S c];exact⟨_,O,.inl ⟨O,p,b2.1 c⟩⟩
  ·rw[ir c];have i:∀q,q<p+1->¬ZJ R q:=λq a h=>by
    by_cases e:q=p
    ·exact c<|b2.2<|e▸h
    ·exact f q W h
   by_cases o:p<65521
   ·obtain⟨r,r1,r2,u,t⟩:=LV (fu:=fu) (q:=p) W o W;have:=zp r2;rw[U r1];refine d (r,0) (.inl ⟨O,by show 2<=r;lia,by show r<=65521;lia,λq a h=> ?_⟩) (by rw[S O,S O];lia);have a:q<r:=a;by_cases hc:q<p+1
    ·exact i q hc h
    ·have:=t q W a;rw[h.1]at this;cases this
   ·rw[U<|Hr W];refine d (0,5) (.inr ⟨YL,O,λ⟨q,a⟩=>i q (by have:=zp a.1;lia) a⟩)<|by rw[ir YL,S O];lia
 ·rw[ir h1];exact⟨_,O,.inr ⟨O,f⟩⟩
theorem GB{B m:zV}{a:N G}(n:yQ K a)(w:K<=100)(hl:X a<=40)(h0:BJ a=0)(y:∀j,Bb B<|M a j)(o:∀j,Bb m<|M a<|j+1)(z:B<=6000)(A:m<=6000)(p:GcZ B (m+6) (X (zX a)) (X (zX a)-1))(C:3000300<=fu):
 ∃g R,zfA a g R/\((zla R/\kJ fu a=Z 0)\/(¬zla R/\kJ fu a=Z 6)):=by
 have hr:=jG a;obtain⟨g,R,i,h1,D⟩:=BT (fu:=fu) n w hl h0 y o z A p W;have f:=i.rad.can;have ht:=i.rad.ln;have r:yQ 95 R:=by rw[<-f];exact yF λj=>(D j).bz W
 have hi:X R≠0:=λe=>by
  obtain⟨j,E⟩:=i.rad.ps.tp.choose_spec.1.nz;exact E<|zY W
 have hq:=db h0;have hc:BJ R=0:=by unfold BJ;rw[f,ir hi,zA]
 obtain⟨Y,F,t,c⟩:=Hk (fu:=fu) f r YL hc W;refine⟨g,R,i,?_⟩
 ·unfold kJ;have H:Xy fu a=Z (R,0):=by
   unfold Xy;rw[U<|uc n,S h0,U h1]
  obtain⟨l,k⟩:∃l,l=M R (X R-1):=⟨_,O⟩;have d:Bz 95 l:=by rw[k];exact r.bz _
  have b2:Bz 1 (2:J):=by unfold Bz;decide
  have L:R.getD (X R-1) (yL,[])=yf l:=by rw[k];exact gA (show R=xW (X R) (M R)from f.symm)
  rw[U<|uc n,S h0,U H];simp only;rw[U F];simp only
  rw[U (xX (x:=2) YL),zb,(W:(X R:J)-1=((X R-1:zV):J)),yc,Q,L,U (xV (c.ok YL)<|d.ok YL),zm,zm,
   U (xV (b2.ok YL)<|(c.mul d).ok YL),zm,zm]
  have u:=b2.mul<|c.mul d;have P:nv (yf<|2*((Y:J)*l)).2=(2*((Y:J)*l)).natAbs:=ym _;have hd:zi5 R↔1000<bl (2*((Y:J)*l)).natAbs:=⟨λ⟨b,p,h⟩=>by rw[p.uniq t,<-k]at h;exact h,λh=>⟨Y,t,by rw[<-k];exact h⟩⟩;by_cases hn:1<X R
  ·rw[zS,U<|nj (yx _) (PX u.len YL) (by have:=u.len;lia),P];by_cases v:1000<bl (2*((Y:J)*l)).natAbs
   ·rw[zS];exact .inr ⟨λh=>by obtain h|h:=h;lia;exact h.1<|hd.2 v,O⟩
   ·rw[zA];obtain⟨s,T,V⟩:=zhX f r YL hc hn C;show((zla R/\(bd (zg (qw fu R) fu ((2:J),(0:J))) _)=_)\/_);rw[U T];rcases V with⟨rfl,hp⟩|⟨rfl,hp⟩
    ·exact .inl ⟨.inr ⟨λh=>v<|hd.1 h,hp⟩,O⟩
    ·refine .inr ⟨λh=>by obtain h|h:=h;lia;exact hp h.2,?_⟩;simp only;rw[zS];rfl
  ·rw[zA];have ho:∃s,zg (qw fu R) fu ((2:J),(0:J))=Z (Sum.inl s):=⟨(),by
    obtain⟨fu,rfl⟩:∃j,fu=j+1:=⟨fu-1,W⟩;rw[w6];unfold qw;simp only;rw[S (by trivial),zA]⟩
   obtain⟨s,hs⟩:=ho;show((zla R/\(bd (zg (qw fu R) fu ((2:J),(0:J))) _)=_)\/_);rw[U hs];refine .inl ⟨.inl W,?_⟩;simp only;rw[zA]
end
section
set_option maxRecDepth 100000
theorem zeg:eE 4000000=Z I:=by decide+kernel
end
section
variable{fu:zV}{a:zC Zr}
theorem ziV{e:J}(h:xE fu a []=Z ((yL,[]),[],e))(b:e≠0):wK fu a=Z (yL,e):=by
 unfold wK;rw[U h];simp only;rw[ir b]
def on1:N (N G×J)->ws
 |[x]=>decide<|x.2=1
 |_=>yL
theorem zub{c:G}{l:N (N G×J)}(h:xE fu a []=Z (c,l,0)):wK fu a=Z (on1 l,0):=by
 unfold wK;rw[U h];simp only[wN];obtain _|⟨x,_|⟨y,t⟩⟩:=l
 ·rw[ir YL];rfl
 ·show(if x.2=1 then Z (I,(0:J))else Z (yL,0))=Z (decide<|x.2=1,0);by_cases b:x.2=1
  ·rw[S b,wU b]
  ·rw[ir b,wS b]
 ·rw[ir<|by simp;lia];rfl
theorem zxn{L:K}(h1:1<=L)(b:L<=7):GcZ 64 (64+6) L (L-1):=by
 have:L=1\/L=2\/L=3\/L=4\/L=5\/L=6\/L=7:=W
 refine .inr ⟨YL,?_,?_⟩<;>obtain rfl|rfl|rfl|rfl|rfl|rfl|rfl:=this<;>decide
theorem zmC(a:N G)(ds:N J)(w:(Ty.l (.p .b (.l .u))).ok a)(hd:(Ty.l .i).ok ds):XI 4000000 a ds=Z I:=by
 obtain⟨fu,hi⟩:∃fu,fu=4000000:=⟨_,O⟩;have hc:=zeg;rw[<-hi]at hc⊢;have r:3000300<=fu:=W
 unfold XI;have z:Xc fu 7 1 a=Z (decide<|Gn 7 1 a):=GM (c:=7) (k:=1) YL W;rw[U hc,U z];by_cases n:Gn 7 1 a
 case neg=>rw[wS n,S YL]
 rw[wU n,ir YL];by_cases F:20<X ds
 ·rw[zS]
 rw[zA];have pa:=zqK w n.2;have H:=n.1;have K:=jG a;have d:∀j,Bb 64 (M a j):=λj=>(pa.bz j).bb;by_cases h0:BJ a=0
 case neg=>
  have e1:=aB (fu:=fu) (ds:=ds) pa YL W h0;have e:=ziV (aB (fu:=fu) (ds:=[]) pa YL W h0) h0;have A:kJ fu a=Z (BJ a):=by
   unfold kJ;rw[U<|uc pa,ir h0]
  rw[U A,U e1];simp only;rw[U e];simp only;rw[ir h0,S xS,S xS,S xS]
 have B:=db h0;have s:=zxn B.1 W;obtain⟨g,R,C,f⟩:=GB (fu:=fu) pa YL W h0 d (λj=>d _) YL YL s r;obtain⟨L,P,r1,v,D⟩:=CB (fu:=fu) pa YL W h0 d (λj=>d _) YL YL s W;obtain rfl:=C.uniq v;have o:=λ(ds:N J) (hd:Rl ds) (hl:X ds<=1000)=>FE (fu:=fu) (ds:=ds) pa YL W h0 W d YL r1 v.rad D hd hl r;rcases f with⟨m,f⟩|⟨m,f⟩
 ·rcases o ds (ztf hd) W with⟨_,l,e1,f1,l1,d1⟩|⟨h,_⟩
  case inr=>exact wl m h
  rcases o [] zoC (sB _)with⟨_,Q,e,f2,_,_⟩|⟨h,_⟩
  case inr=>exact wl m h
  obtain rfl:=f1.uniq f2;obtain⟨k,ok,k1,k2⟩:=Ai (fu:=fu) pa W W W;rw[U f,U e1];simp only;rw[U<|zub e];simp only[wN];have T:=(oU pa).len;rw[U<|Zg pa,U<|my,wU O,ir YL,U k1];simp only
  cases ok with
  |false=>rw[S YL]
  |true=>
   obtain rfl:=f1.uniq<|k2 O;rw[ir YL,U (RF ⟨W,λx E=>(d1 x E).1⟩ O W),S O];obtain _|⟨x,_|⟨y,t⟩⟩:=l
   ·rw[ir YL];rfl
   ·show(if x.2=1 then Z (decide (x.2=1)==I)else Z (decide (x.2=1)==yL))=Z I;by_cases q:x.2=1
    ·rw[S q,wU q];rfl
    ·rw[ir q,wS q];rfl
   ·rw[ir<|by simp;lia];rfl
 ·rcases o ds (ztf hd) W with⟨h,_⟩|⟨_,e1⟩
  ·exact wl h m
  rcases o [] zoC (sB _)with⟨h,_⟩|⟨_,e⟩
  ·exact wl h m
  rw[U f,U e1];simp only;rw[U<|ziV e YL];simp only;rw[ir YL,S xS,S xS,S xS]
end
section
namespace zfacAll
open Go.ChangeShapes Go.WideShapes Go.ChangeAt Go.RowKit
theorem own:ownKnob Tryz.prog.godebug=yD:=Xs
theorem atW:Jw Tryz.prog .u 72:=id (by kernel_rfl:Tryz.prog.underlying 72=Z (.int .u64))
theorem atB:Jw Tryz.prog .b 4:=id (by kernel_rfl:Tryz.prog.underlying 4=Z .bool)
theorem atL:Jw Tryz.prog (.l .u) 28:=Jw.sl (E:=72) Xs Xs YL atW
theorem atZ:Jw Tryz.prog (.p .b (.l .u)) 30:=Jw.st (A:=4) (B:=28) Xs Xs Xs Xs atB atL
theorem atP:Jw Tryz.prog (.l (.p .b (.l .u))) 22:=Jw.sl (E:=30) Xs Xs YL atZ
theorem atI:Jw Tryz.prog .i 3:=id (by kernel_rfl:Tryz.prog.underlying 3=Z (.int .i64))
theorem zyk:Jw Tryz.prog (.l .i) 23:=Jw.sl (E:=3) Xs Xs YL atI
def sgO(M:pK [.d (.l (.p .b (.l .u))),.d (.l .i)]->V ws):QY:=⟨3,[.d (.l (.p .b (.l .u))),.d (.l .i)],[.d .b],M,0⟩
set_option maxRecDepth 100000 in
theorem lifted{M:pK [.d (.l (.p .b (.l .u))),.d (.l .i)]->V ws}(h:xI Tryz.prog (sgO M))(k:∀x,zn0 [.d (.l (.p .b (.l .u))),.d (.l .i)] x->M x=Z I)(os:Os)(a:os.Started)(H:Type)(enc:wn×xn->H):
 ReturnsInHanded {} Tryz.checked os 3 .any (Rows.zfacAllSpec.pre6 enc Tryz.prog Tryz.f3 Rows.zfacAllRow.domain yL) (Rows.zfacAllSpec.post enc Tryz.prog Tryz.f3 yL I yL yL):=by
 refine returnsInHanded_of_change (C:=Tryz.checked) own a Xs Tryz.func3
  (ChangeSpec.witness6 (enc:=enc) (C:=Tryz.checked) yL ⟨#[],#[.slice yD 0 0,.slice yD 0 0],[]⟩ 8 Xs Xs Xs Xs) ?_
 intro W c args ds A e m f D _;have n:∀(j:K) t v,Tryz.f3.params[j]? =Z t->args[j]? =Z v->xei Tryz.prog W .any c t v:=m;have hc:=f;obtain⟨p,q,hd,o,_,_,_⟩:=f;have g:xeD enc Tryz.prog W 0 (λ_=>I) I Tryz.f3.params.toList args.toList ds p:=hd;rw[Tryz.params3]at g;obtain⟨v0,r,d0,s,p0,q0,E,rfl,_,_,r0⟩:=trodAll_cons g;obtain⟨v1,w,d1,y,F,q1,_,rfl,_,_,r1⟩:=trodAll_cons r0;obtain⟨_,rfl,_⟩:=trodAll_nil r1;obtain⟨rfl,_⟩:=trodVars_none o
 exact zsa (sg:=sgO M) hc O n Xs (by rw[Tryz.params3];decide+kernel) (by rw[Tryz.params3];exact⟨atP,zyk,xS⟩) O h
  (λx z=>k x z) (B:=4) Xs Tryz.underlying4 O
set_option maxRecDepth 100000 in
theorem fnm:Tryz.pinned.checked.prog.funcNamed Rows.zfacAllRow.func=Z 3:=Xs
set_option maxRecDepth 100000 in
set_option maxHeartbeats 4000000 in
theorem jf:joinedFacts Tryz.pinned.checked.prog 3 Tryz.f3 Rows.zfacAllSpec Rows.zfacAllRow=I:=by
 unfold joinedFacts;simp only[Th];repeat' apply xfn
 all_goals (as_aux_lemma=>kernel_rfl)
theorem over:Rows.zfacAllRow.holds Tryz.pinned (OpenSpec.ofChange Rows.zfacAllSpec):=
 OpenClaim.holds_of_wide 3 Tryz.f3 O O O O O O O ⟨O,O,O,O,O⟩ O O O O O fnm Tryz.func3 jf
  (vR Xs) (by unfold Func.isWrapper;first|(rw[S<|by decide+kernel];kernel_rfl)|(rw[ir<|by decide+kernel];exact⟨O,O⟩))
  (λos a H enc _=>lifted (M:=λx=>XI 4000000 x.1 x.2.1) (IZ 4000000) (λx b=>zmC x.1 x.2.1 b.1 b.2.1) os a H enc)
theorem proved:Rows.ZfacAllSaid:=
 over
end zfacAll
end
end Go.Proofs.YtdpdofimolhigaaGreat
