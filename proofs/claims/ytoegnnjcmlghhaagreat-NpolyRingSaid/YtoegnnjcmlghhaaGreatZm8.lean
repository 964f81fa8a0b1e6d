/- The polynomials over a field that is made are a ring, for every input. No condition. -/
import Derived.Test.YtoegnnjcmlghhaaGreatZm7
import Derived.Below
import Derived.Lib.Join
set_option linter.all false
namespace Go.Proofs.YtoegnnjcmlghhaaGreat
open Bool renaming false->I,true->wL
open Go renaming Value->wN,TypeId->wT,madeCells->g9,Deferred->lm
open Go.Proofs.YtoegnnjcmlghhaaGreat renaming Zr->M,cf->G,bd->Y,za->U,ci->C,nm->B,cC->D,zp->F,pc->Q,ze->A,iq->S
open List renaming length->X
open Nat renaming beq->E
open Option renaming some->Z,none->wF
open _root_ renaming rfl->O,List->N,Int->J,Nat->K,Option->V,List->xS,Int->wn,Nat->wr,Option->ww,trivial->wR,absurd->wS,Bool->v6,Rat->qR,funext->kW,congrArg->uL,if_false->uP,if_true->uS,Unit->Z3,True->Xs,decide_eq_true->Wd,decide_eq_false->Wl,of_decide_eq_true->Wr,congrFun->Ww,Decidable->QR,if_pos->bi,not_true_eq_false->g8
open And renaming intro->xfF
open Bool renaming and_eq_true->xad,false_eq_true->xai
open Classical renaming byContradiction->xak
open DataW renaming TrodAll->xeT
open Int renaming add_zero->xbW,dvd_mul_right->xbY,dvd_of_emod_eq_zero->xaF,dvd_refl->xek,dvd_trans->xbu,emod_emod->xaQ,emod_eq_of_lt->xaH,eq_ofNat_of_zero_le->xaC,le_of_lt->xdF,le_refl->xfW,mul_add->xfx,mul_assoc->xcY,mul_comm->xbJ,mul_dvd_mul->xfV,mul_eq_zero->xeQ,mul_le_mul_of_nonneg_left->xaU,mul_le_mul_of_nonneg_right->xbA,mul_ne_zero->xdH,mul_nonneg->xcx,mul_one->xcQ,mul_zero->xaA,natAbs_dvd_natAbs->xcl,natAbs_ediv_le_natAbs->xbB,natAbs_mul->xcw,natAbs_natCast->xaG,natAbs_neg->xfB,natCast_mul->xfi,one_mul->xdd,pow_succ->xbP,pow_zero->xce,sub_zero->xdh,toNat_natCast->xaZ,zero_add->xcI,zero_ediv->xem,zero_emod->xap,zero_mul->xba
open List renaming append_nil->xbm,append_of_mem->xeo,drop_eq_getElem_cons->xbV,drop_eq_nil_of_le->xbR,ext_getElem->xed,filter_cons_of_neg->xfq,filter_cons_of_pos->xfp,getD_eq_getElem?_getD->UV,getElem?_append_left->xbb,getElem?_append_right->xbr,getElem?_drop->xfh,getElem?_eq_getElem->xab,getElem?_eq_none->xbn,getElem?_map->xbX,getElem?_replicate->xcN,getElem?_set_ne->xeW,getElem?_set_self->xds,getElem?_take->xbD,getElem_mem->xbG,length->xaI,length_append->xat,length_cons->xaw,length_drop->xch,length_eq_one_iff->xcT,length_eq_zero_iff->xbE,length_filter_le->xfI,length_map->xav,length_nil->xbT,length_pos_iff->xfb,length_range->xex,length_replicate->xaM,length_set->xbg,length_take->xar,map_append->xaR,map_congr_left->xcc,map_cons->xbQ,map_map->xdg,map_take->xfl,mem_append->xaa,mem_cons->xah,mem_cons_of_mem->FS,mem_cons_self->IR,mem_iff_getElem->xcq,mem_map->xas,mem_map_of_mem->xbF,mem_of_mem_drop->xfN,mem_or_eq_of_mem_set->xdz,mem_range->xbd,mem_replicate->xen,mem_singleton->xac,nil_append->xbN,not_mem_nil->H1,pairwise_iff_forall_sublist->xdr,pairwise_iff_getElem->xcU,pairwise_map->xez,range->xaO,range_succ->xdj,replicate->Nm,take_add_one->xeU,take_length->xca
open Nat renaming add_comm->xdR,add_mul->xbi,le_mul_of_pos_left->xea,le_mul_of_pos_right->xcj,le_of_lt->xdC,le_of_not_lt->xbx,le_refl->So,le_succ->xbz,le_trans->xal,lt_of_le_of_lt->xaK,lt_of_lt_of_le->xag,lt_trichotomy->xfy,min_eq_left->xck,mul_add->xco,mul_le_mul->xcf,mul_le_mul_left->xaE,mul_le_mul_right->xaj,mul_left_comm->xfw,mul_lt_mul''->xci,mul_lt_mul_of_pos_right->xbO,mul_one->xeI,mul_pos->xdL,mul_zero->xdo,not_lt_zero->xbc,one_mul->xcP,pow_add->xbj,pow_le_pow_right->xam,pow_mul->xcg,pow_pos->xaY,pow_succ->xbw,sub_self->xcE,succ_mul->xeB,two_pow_pos->xdZ,zero_add->xaJ,zero_le->xae,zero_mul->xcC
open Option renaming getD_some->xcX
open Option.some renaming injEq->xau
open Prod renaming ext->xfr
open Prod.mk renaming injEq->xcL
open Rat renaming intCast_add->xfX,intCast_mul->xcu,natCast_inj->xey,natCast_mul->xdG,pow_succ->xeD,pow_zero->xeC
open Value renaming okWide->xeA
section
variable{B R Q:Pz}{la lb ql K J fu:wr}{b a:xS Zr}
structure DvZ(A B Q R:Pz)(la lb n ql K J:wr):Prop where
 eq:A=Q*B+R
 q1:∀k,k<n->Q k=0
 q2:∀k,ql<=k->Q k=0
 r:∀k,n+(lb-1)<=k->R k=0
 bz:∀k,Bz (K+(ql-n)*(J+1))<|R k
 bq:∀k,Bz (K+(ql-n)*(J+1))<|Q k
theorem MO{n m:wr}(e:Tp B m)(h:Zd B R)(g:∀k,n+m<=k->R k=0):∃w:Pz,R=w*B/\∀k,n<=k->w k=0:=by
 obtain⟨w,f,rfl⟩:=h;refine⟨w,O,?_⟩;by_cases nw:Nz w
 ·obtain⟨d,hd⟩:=Tp.ex f nw;have h1:=(hd.mul e).1;intro k i;refine hd.2 k ?_;by_cases c:d<n
  ·lia
  ·simp_all
 ·exact λk _=>Nz.not nw k
theorem DvZ.step{A:Pz}{n:wr}(h:DvZ A B Q R la lb (n+1) ql K J)(f:Tp B (lb-1))(hn:n+1<=ql){c:wn}(hc:R (n+(lb-1))=c*B (lb-1))(i:∀k,Bz J<|B k):
 DvZ A B (XI Q n c) (λk=>R k-c*sh B n k) la lb n ql K J:=by
 have hd:Bz (K+(ql-(n+1))*(J+1)) c:=(h.bz<|n+(lb-1)).le (by
  rw[hc,xcw];exact xcj _ (by have:=f.1;lia))
 have g:K+(ql-n)*(J+1)=K+(ql-(n+1))*(J+1)+J+1:=by rw[(W:ql-n=ql-(n+1)+1),xbi];lia
 have e1:XI Q n c=Q+mono n c:=kW λk=>by
  rw[zP];unfold XI mono;by_cases e:k=n
  ·rw[S e,S e,e,h.q1 n W];lia
  ·lia
 refine⟨?_,λk d=> ?_,λk d=> ?_,λk d=> ?_,λk=> ?_,λk=> ?_⟩
 ·rw[e1,yW];funext k;have:=Ww h.eq k;rw[zP]at this;rw[zP,zP,Vx];show _=_+_+(R k-c*sh B n k);lia
 ·unfold XI;rw[zD];exact h.q1 k W
 ·unfold XI;rw[zD];exact h.q2 k d
 ·show R k-c*sh B n k=0;unfold sh;rw[yg];by_cases e:k=n+(lb-1)
  ·rw[e,hc,(W:n+(lb-1)-n=lb-1)];lia
  ·rw[h.r k W,f.2 _ W];lia
 ·rw[g];refine Bz.sub ((h.bz k).mono W)<|hd.mul ?_;unfold sh;split
  ·exact i _
  ·exact Bz.zero _
 ·rw[g];unfold XI;split
  ·exact hd.mono W
  ·exact(h.bq k).mono W
theorem zjn{n:wr}{c:wn}(d:xa J b)(o:X b=lb)(hn:n+lb<=la)(hl:la<=1000)(i:∀k,Bz K<|R k)(hc:Bz K c)(p:K+J+1<=40000)(f:3000000<=fu):
 zg (Uf fu (n:wn) b) fu ((0:wn),b,zi la R,zi ql Q,yG c)=Z (b,zi la<|λk=>R k-c*sh (G b) n k,zi ql Q):=by
 refine zA (λs:wn×N M×N M×N M×M=>∃j:wr,j<=lb/\s=((j:wn),b,zi la (λk=>if k<n+j then R k-c*sh (G b) n k else R k),zi ql Q,yG c)) (λs=>lb-s.1.toNat) _ ?_ _ _ ⟨0,xae _,?_⟩ (by show lb-0<fu;lia)
 ·rintro s L ⟨j,q,rfl⟩ l;unfold Uf;simp only;by_cases h1:j<lb
  ·rw[yg,U O];simp only[uS];have hd:=d.get j;rw[yo,A,(W:(n:wn)+(j:wn)=((n+j:wr):wn)),zb,zb,zn (by rw[yz];lia),A,Yq W,zD,U<|yj (hc.ok W) (iU.of hd W) f,zo,Vn];have m:Bz (K+J) (c*G b j):=hc.mul<|d.bz j;rw[U<|qd ((i _).ok W) (m.ok W) f,zo,zo,zn (by rw[yz];lia),A,bU,zb];refine l _ ⟨j+1,W,?_⟩ (by show lb-((j:wn)+1).toNat<lb-(j:wn).toNat;lia);rw[(W:((j:wn)+1)=((j+1:wr):wn))];refine xfr O<|xfr O<|xfr ?_ O;refine y9 λk g=> ?_;unfold XI;by_cases e:k=n+j
   ·rw[S e,yg,e];unfold sh;rw[yg,(W:n+j-n=j)]
   ·rw[ir e];show(if k<n+j then R k-c*sh (G b) n k else R k)=_;by_cases h:k<n+j
    ·rw[S h,yg]
    ·rw[ir h,zD]
  ·rw[zD,U O];simp only[xai,uP];obtain rfl:j=lb:=W
   refine uL Z<|xfr O<|xfr ?_ O;refine y9 λk g=> ?_;by_cases e:k<n+j
   ·rw[S e]
   ·rw[ir e];unfold sh;rw[yg,yn W];lia
 ·refine xfr O<|xfr O<|xfr ?_ O;refine y9 λk g=> ?_;by_cases e:k<n+0
  ·rw[S e];unfold sh;rw[zD];lia
  ·rw[ir e]
theorem zn1(a:N M):yx a=zi (X (yx a)) (G a):=by
 have h:yx a=zi (dg (G a) (X a)) (G a):=O;rw[show(yx a).length=dg (G a) (X a) from xC _ _];exact h
theorem X9(h:X (yx a)≠0):Tp (G a) (X (yx a)-1):=by
 have h1:=Xq (az a) h;rw[ZT]at h1;exact⟨h1,λk c=>by rw[<-ZT];exact yn W⟩
theorem Vd(h:X (yx a)=0)(k:wr):G a k=0:=by rw[<-ZT];exact yn W
theorem JD(H:xa K a)(y:xa J b)(hK:K+(X a+1)*(J+1)<=30000)(hJ:X a<=1000)(hL:X b<=1000)(h0:X (yx b)≠0)(o:3000000<=fu):
 ∃q e,wA fu a b=Z (q,e)/\(e=0↔Zd (G b) (G a))/\(e=0->(G a:Pz)=G q*G b/\yx q=q/\X q<=X a):=by
 have hn:=dp y;have hM:=ZC b;have hN:=ZC a;have l:=X9 h0;have hO:J+1<=(X a+1)*(J+1):=xea _ W;obtain⟨la,hi⟩:∃la,la=X (yx a):=⟨_,O⟩;obtain⟨lb,t⟩:∃lb,lb=X (yx b):=⟨_,O⟩;obtain⟨ql,hP⟩:∃ql,ql=la+1-lb:=⟨_,O⟩;have u:=zn1 a;rw[<-hi]at u;rw[<-t]at l h0;unfold wA;rw[U<|zI H W W o,U<|zI y W W o,show wK (X a) (G a)=yx a from O,show wK (X b) (G b)=yx b from O,<-hi,<-t,zD];by_cases hR:0<la/\la<lb
 ·rw[U (v:=Sum.inr ())<|by rw[yg,yg]];refine⟨[],4,O,⟨λh=>wS h mD,λh=> ?_⟩,λh=>wS h mD⟩;exfalso;have z:=X9 (a:=a) W;rw[<-hi]at z;obtain⟨w,p,w0⟩:=MO (n:=0) l h λk C=>z.2 k W;exact z.1<|by rw[p,wV,yZ λi _=>by rw[w0 i W,xba]]
 ·rw[U (v:=Sum.inl ()) (by
   by_cases h1:0<la
   ·rw[yg,zD]
   ·rw[zD])]
  simp only;have hp:max ((la:wn)-lb+1) 0=(ql:wn):=W
  rw[zb,zb,A,hp,yI,y8,A,bf,yz,zb]
  obtain⟨s,D,hQ⟩:=zX (f:=Ue fu) (λs:wn×N M×N M×N M=>∃(n:wr) (Q R:Pz),n<=ql/\s=((n:wn)-1,yx b,zi la R,zi ql Q)/\DvZ (G a) (G b) Q R la lb n ql K J) (λs=>(s.1+1).toNat)
   (λr=>(∃Q R:Pz,r=.inl (zi la R,zi ql Q)/\DvZ (G a) (G b) Q R la lb 0 ql K J)\/(r=.inr 4/\¬Zd (G b) (G a))) (by
   rintro s L ⟨n,Q,R,hy,rfl,d⟩ ih
   unfold Ue
   simp only
   cases n with
   |zero=>
    rw[zD]
    exact⟨_,O,.inl ⟨Q,R,O,d⟩⟩
   |succ n=>
    have hA:(ql-(n+1))*(J+1)<=(X a+1)*(J+1):=xaj _ W
    have hH:(ql-(n+1))*(J+1)+(J+1)<=(X a+1)*(J+1):=by
     have:=xaj (J+1) (W:ql-(n+1)+1<=X a+1);rw[xbi,xcP]at this;exact this
    have hl:=d.bz
    rw[(W:((n+1:wr):wn)-1=(n:wn)),yg,<-t,zb,(W:(n:wn)+(lb:wn)-1=((n+(lb-1):wr):wn)),zb,zn (by rw[yz];lia),A,Yq W,(W:(lb:wn)-1=((lb-1:wr):wn)),zb,yo,A]
    have P:=hn.get<|lb-1
    rw[U<|uh ((hl _).okS W) ⟨P.1,by have:=P.2;lia⟩ o,zo,Vn,ZT]
    simp only
    have T:=l.1
    have x:exE (R<|n+(lb-1)) (G b<|lb-1)=if R (n+(lb-1))%G b (lb-1)=0 then 0 else 4:=by unfold exE;rw[ir T]
    have V:exI (R<|n+(lb-1)) (G b<|lb-1)=if R (n+(lb-1))%G b (lb-1)=0 then R (n+(lb-1))/G b (lb-1)else 0:=by unfold exI;rw[ir T]
    by_cases hd:R (n+(lb-1))%G b (lb-1)=0
    ·rw[S hd]at x V
     obtain⟨c,Y⟩:∃c,c=R (n+(lb-1))/G b (lb-1):=⟨_,O⟩
     have hc:R (n+(lb-1))=c*G b (lb-1):=by rw[Y,Int.ediv_mul_cancel<|xaF hd]
     have hB:Bz (K+(ql-(n+1))*(J+1)) c:=(hl<|n+(lb-1)).le (by
      rw[hc,xcw];exact xcj _ W)
     rw[x,V,<-Y,S O,zn (by rw[yz];lia),A,bU,U<|zjn hn t.symm W W hl hB W o]
     simp only
     rw[zb]
     have D:=d.step l hy hc y.bz
     have e:(λk=>R k-c*sh (G<|yx b) n k)=λk=>R k-c*sh (G b) n k:=by rw[show G (yx b)=G b from kW (ZT b)]
     rw[e]
     exact ih _ ⟨n,_,_,W,O,D⟩ (by show((n:wn)-1+1).toNat<(((n+1:wr):wn)-1+1).toNat;lia)
    ·rw[ir hd]at x
     rw[x,ir mD]
     refine⟨_,O,.inr ⟨O,λu=>hd ?_⟩⟩
     have E:Zd (G b) R:=by
      have e:R=(G a:Pz)-Q*G b:=kW λk=>by
       have:=Ww d.eq k;rw[zP]at this;rw[y7];lia
      rw[e];exact u.sub ⟨Q,⟨ql,d.q2⟩,O⟩
     obtain⟨w,p,w0⟩:=MO (n:=n+1) l E d.r
     have:=K8 (f:=w) (g:=G b) (n:=n) (m:=lb-1) (λk C=>w0 k W) l.2
     rw[<-p]at this
     rw[this,Int.mul_emod_left]) fu ((ql:wn)-1,yx b,yx a,zi ql λ_=>0) ⟨ql,λ_=>0,G a,So _,by rw[u],⟨kW λk=>by
    rw[zP,wV,yZ λi _=>xba _,xcI],λ_ _=>O,λ_ _=>O,λk C=>by
    by_cases e:la=0
    ·exact Vd W k
    ·rw[<-ZT];exact yn W,λk=>(H.bz k).mono W,λk=>Bz.zero _⟩⟩ (by show((ql:wn)-1+1).toNat<fu;lia)
  rw[U D];rcases hQ with⟨Q,R,rfl,d⟩|⟨rfl,hC⟩
  ·have hA:(ql-0)*(J+1)<=(X a+1)*(J+1):=xaj _ W;have hD:xa 30000 (zi la R):=XH λj=>(d.bz j).mono W;have hF:xa 30000 (zi ql Q):=XH λj=>(d.bq j).mono W;have hv:∀k,la<=k->R k=0:=λk C=>by
    by_cases e:la=0
    ·have h1:=Ww d.eq k;rw[zP,wV,yZ (n:=k+1) λi _=>by rw[d.q2 i W,xba],Vd W]at h1;lia
    ·exact d.r k W
   simp only;rw[U<|zI hD mD (by rw[yz];lia) o,yz,C9];by_cases hr:X (wK la R)=0
   ·have F:∀k,R k=0:=λk=>by rw[<-jO hv k];exact yn W
    have hG:(G (wK ql Q):Pz)=Q:=kW λk=>jO d.q2 k;have he:(G a:Pz)=G (wK ql Q)*G b:=by
     rw[hG];funext k;have:=Ww d.eq k;rw[zP,F k,xbW]at this;exact this
    rw[zD,U<|zI hF mD (by rw[yz];lia) o,yz,C9];refine⟨_,0,O,⟨λ_=>⟨_,Fs.cf _,he⟩,λ_=>O⟩,λ_=>⟨he,(QY _ _).symm,?_⟩⟩;rw[xC];have:=qJ Q ql;lia
   ·rw[yg];refine⟨[],4,O,⟨λh=>wS h mD,λh=> ?_⟩,λh=>wS h mD⟩;exfalso;have e:R=(G a:Pz)-Q*G b:=kW λk=>by
     have:=Ww d.eq k;rw[zP]at this;rw[y7];lia
    have E:Zd (G b) R:=by
     rw[e];exact h.sub ⟨Q,⟨ql,d.q2⟩,O⟩
    obtain⟨w,p,w0⟩:=MO (n:=0) l E d.r;have F:∀k,R k=0:=λk=>by rw[p,wV,yZ λi _=>by rw[w0 i W,xba]]
    have ht:=Xq (QY la R) hr;rw[jO hv]at ht;exact ht<|F _
  ·exact⟨[],4,O,⟨λh=>wS h mD,λh=>wS h hC⟩,λh=>wS h mD⟩
theorem AW(c:xa K a)(d:xa J b)(e:K<=40000)(f:J<=40000)(hc:X a<=1000)(hd:X b<=1000)(h0:X (yx b)=0)(g:3000000<=fu):wA fu a b=Z ([],3):=by grind [wA,yx,U,zI]
end
section
variable{N fu:wr}{a:xS wn}
theorem Bq.ext{c:K}{b:xS J}(d:Bq N c a)(e:Bq N c b)(h:∀k,k<c->C a k=C b k):a=b:=by
 rw[<-Oq a,<-Oq b,d.ln,e.ln];exact y3 h
theorem FW{c:K}(hc:c<=1000)(f:3000000<=fu):zg (λL (z:xS J×J)=>
 if z.2<(X (zl c λ_=>0):J)then
  zF z.2 (X z.1) λj=>
  B (z.1.set j z.2) λxs=>
  zf (z.2+1) λi=>L (xs,i)
 else Z z.1) fu (zl c λ_=>0,0)=Z (zl c λi=>(i:J)):=by
 refine zA (λs:xS J×J=>∃j:K,j<=c/\s=(zl c (λk=>if k<j then(k:J)else 0),(j:J))) (λs=>c-s.2.toNat) _ ?_ _ _ ⟨0,xae _,?_⟩ (by show c-0<fu;lia)
 ·rintro s L ⟨j,g,rfl⟩ d
  simp only[ye]
  by_cases h1:j<c
  ·rw[yg,zn h1,A,ZW,zb]
   refine d _ ⟨j+1,W,?_⟩ (by show c-((j:J)+1).toNat<c-(j:J).toNat;lia)
   refine xfr (y3 λk b=> ?_) O
   unfold XI
   by_cases e:k=j
   ·lia
   ·grind
  ·rw[zD]
   obtain rfl:j=c:=W
   exact uL Z<|y3 λk b=>S b
 ·exact xfr (y3 λk b=>(ir<|xbc k).symm) O
theorem Me{c:K}(b:Bq N c a)(o:N<=1000)(p:3000000<=fu):
 ∃i:J,zg (λL i=>
 if 0<=i then
  zF i (X a) λj=>
  B (a.getD j 0) λy=>
  zf ((N:J)-c) λe=>
  zf (e+i) λe=>
  if y=e then zf (i-1) λi=>L i
  else Z i
 else Z i) fu ((c:J)-1)=Z i/\ -1<=i/\i<c/\(∀j:K,i<j->j<c->C a j+c=N+j)/\∀k:K,i=k->C a k+c<N+k:=by
 have hd:c<=N\/c=0:=by
  by_cases h:c=0
  ·lia
  ·have:=b.hi 0 W;have:=b.lo 0 W;exact .inl W
 obtain⟨r,h1,l⟩:=zX (f:=λL (i:J)=>
  if 0<=i then
   zF i (X a) λj=>
   B (a.getD j 0) λy=>
   zf ((N:J)-c) λe=>
   zf (e+i) λe=>
   if y=e then zf (i-1) λi=>L i
   else Z i
  else Z i) (λi:J=> -1<=i/\i<c/\∀j:K,i<j->j<c->C a j+c=N+j) (λi=>(i+1).toNat) (λi=> -1<=i/\i<c/\(∀j:K,i<j->j<c->C a j+c=N+j)/\∀k:K,i=k->C a k+c<N+k) (by
   rintro i L ⟨i1,i2,d⟩ m;by_cases h0:0<=i
   ·obtain⟨k,rfl⟩:=xaC h0;have q:=b.ln;rw[S h0,yo,A,zb,zb,QJ];by_cases e:C a k=(N:J)-c+k
    ·rw[S e,zb];refine m _ ⟨W,W,λj g hc=> ?_⟩ W;by_cases n:j=k
     ·rw[n];lia
     ·exact d j W hc
    ·rw[ir e];refine⟨_,O,i1,i2,d,λj g=> ?_⟩;obtain rfl:k=j:=W
     have:=b.hi k W;lia
   ·rw[ir h0];exact⟨_,O,i1,i2,d,λj g=>by lia⟩) fu ((c:J)-1) ⟨W,W,λj g hc=>by lia⟩ W
 exact⟨r,h1,l⟩
theorem Rq{c k:K}(f:Bq N c a)(o:N<=1000)(d:k<c)(h1:C a k+c<N+k)(p:3000000<=fu):
 zg (λL (z:J×xS J)=>
 if z.1<(c:J)then
  zf (z.1-1) λe=>
  zF e (X z.2) λj=>
  B (z.2.getD j 0) λy=>
  zf (y+1) λe=>
  zF z.1 (X z.2) λj=>
  B (z.2.set j e) λxs=>
  zf (z.1+1) λi=>L (i,xs)
 else Z z.2) fu ((k:J)+1,a.set k (C a k+1))=Z (nxA c k a):=by
 have hc:=f.hi k d;have hd:=f.lo k d;refine zA (λs:J×xS J=>∃j:K,k+1<=j/\j<=c/\s=((j:J),zl c (λi=>if i<k then C a i else if i<j then C a k+1+((i:J)-k)else C a i))) (λs=>c-s.1.toNat) _ ?_ _ _ ⟨k+1,So _,d,?_⟩ (by show c-((k:J)+1).toNat<fu;lia)
 ·rintro s L ⟨j,q,r,rfl⟩ l;simp only[ye];by_cases n:j<c
  ·obtain⟨i,rfl⟩:∃i,j=i+1:=⟨j-1,W⟩;rw[yg,(W:((i+1:K):J)-1=(i:J)),zb,yo,A,kI,zD,yg,zb,zn n,A,ZW,zb];refine l _ ⟨i+1+1,W,W,?_⟩ (by show c-(((i+1:K):J)+1).toNat<c-((i+1:K):J).toNat;lia);refine xfr O<|y3 λm g=> ?_;unfold XI;by_cases e:m=i+1
   ·rw[S e,zD,yg];lia
   ·rw[ir e];show(if m<k then C a m else if m<i+1 then C a k+1+((m:J)-k)else C a m)=_;by_cases b:m<k
    ·rw[S b,S b]
    ·rw[ir b,ir b];by_cases h:m<i+1
     ·rw[S h,yg]
     ·rw[ir h,zD]
  ·rw[zD];obtain rfl:j=c:=W
   refine uL Z<|y3 λm g=> ?_;by_cases b:m<k
   ·rw[S b,S b]
   ·rw[ir b,ir b,S g]
 ·refine xfr (by show(k:J)+1=((k+1:K):J);lia) ?_;show a.set k (C a k+1)=_;conv=>lhs;rw[<-Oq a,f.ln]
  rw[ZW];refine y3 λm g=> ?_;unfold XI;by_cases e:m=k
  ·rw[S e,zD,yg,e];rw[show C (zl c<|C a) k=C a k from Zo d];lia
  ·rw[ir e];by_cases b:m<k
   ·rw[S b]
   ·rw[ir b,zD]
theorem LJ{X Y:Type}{c:K}{g:xS J->X->V (xS J×(X⊕Y))}{x0:X}{Rej:xS J->Prop}{Acc:xS J->Y->Prop}(hl:1<=c)(hn:c<=N)(hN:N<=10)(F:c<=5)(p:3000000<=fu)(G:∀a,Bq N c a->(g a x0=Z (a,.inl x0)/\Rej a)\/∃y v,g a x0=Z (v,.inr y)/\Acc a y):
 (vj fu (c:J) (N:J) g x0=Z (.inl x0)/\∀a,Bq N c a->Rej a)\/∃a y,Bq N c a/\Acc a y/\vj fu (c:J) (N:J) g x0=Z (.inr y):=by
 have h0:Bq N c (zl c λi=>(i:J)):=⟨ye _ _,λi hi=>by rw[Zo hi];lia,λi hi=>by rw[Zo hi];lia,λi hi=>by rw[Zo W,Zo hi];lia⟩;have H:∀T,Bq N c T->¬Lt (C T) (C<|zl c λi=>(i:J)) c:=λT b ⟨j,n,o,_⟩=>by
  rw[Zo n]at o;have:=b.lo j n;lia
 have M:TH N (C<|zl c λi=>(i:J)) c<fu:=by
  have h1:=zhZ N (C<|zl c λi=>(i:J)) c;have w:(N+1)^c<=11^5:=xal (Nat.pow_le_pow_left W c)<|xam mD F;lia
 obtain⟨r,P,Q⟩:=zX (f:=λL (q:X×xS J)=>qj fu (c:J) (N:J) g q.1 q.2 (λx xs _ _ _ _ _=>L (x,xs)) (λx _ _ _=>Z (.inl x)) λy _=>Z (.inr y))
  (λs:X×xS J=>s.1=x0/\Bq N c s.2/\∀T,Bq N c T->Lt (C T) (C s.2) c->Rej T) (λs=>TH N (C s.2) c) (λr:X⊕Y=>(r=.inl x0/\∀a,Bq N c a->Rej a)\/∃a y,Bq N c a/\Acc a y/\r=.inr y) (by
  rintro⟨x,a⟩ L ⟨z,l,t⟩ R
  simp only at z l t
  subst z
  simp only
  unfold qj
  rcases G a l with⟨e,B⟩|⟨y,v,e,ac⟩
  ·rw[U e]
   simp only[Sum.elim_inl]
   obtain⟨i,l1,l2,l3,D,l5⟩:=Me l W p
   rw[zb,U l1]
   by_cases hi:i<0
   ·rw[S hi]
    refine⟨_,O,.inl ⟨O,λT b=> ?_⟩⟩
    rcases Dc (C T) (C a) c with h|h|h
    ·rw[b.ext l h];exact B
    ·exact t T b h
    ·exfalso
     obtain⟨j,n,o,_⟩:=h
     have:=D j W n
     have:=b.hi j n
     lia
   ·obtain⟨k,rfl⟩:=xaC (W:0<=i)
    have ho:=l.ln
    have E:=l5 k O
    have hp:=l.lo k W
    rw[ir hi,yo,A,QJ,zb,yo,A,zb,U<|Rq l W W E p]
    refine R _ ⟨O,l.next W E,λT b u=> ?_⟩ ?_
    ·rcases Dc (C T) (C a) c with h|h|h
     ·rw[b.ext l h];exact B
     ·exact t T b h
     ·exfalso
      simp only at u
      rcases zpI (k:=k) b W (λi hi hc=>D i W hc) h with h6|h6
      ·obtain⟨j,n,o,_⟩:=u
       rw[h6 j n]at o
       lia
      ·exact u.asy h6
    ·obtain⟨d,hd⟩:∃d,c=k+1+d:=⟨c-k-1,W⟩
     have:=ziF (N:=N) (f:=C<|nxA c k a) (g:=C a) (j:=k) (λm hm=>by rw[Uh,S hm]) W (by rw[Uh,zD];lia) (by rw[Uh,zD];lia) d
     rw[<-hd]at this
     exact this
  ·rw[U e]
   simp only[Sum.elim_inr]
   exact⟨_,O,.inr ⟨a,y,l,ac,O⟩⟩) fu (x0,zl c λi=>(i:J)) ⟨O,h0,λT b h=>wS h (H T b)⟩ M
 have hM:vj fu (c:J) (N:J) g x0=Z r:=by
  unfold vj;rw[yI,y8,A,dD,U<|FW W p];exact P
 rw[hM];rcases Q with⟨rfl,h⟩|⟨a,y,h1,w,rfl⟩
 ·exact .inl ⟨O,h⟩
 ·exact .inr ⟨a,y,h1,w,O⟩
end
section
variable{a:xS wn}{m:wn}{xs:xS Lx}{i fu:wr}
theorem zkj{a:N M}(h:¬m<=0):zdS a m=(vF a m,0):=by unfold zdS;rw[ir h]
theorem Ad(a:N M):(yD a).natAbs=WC (G a) (X (yx a)):=by grind [yD]
theorem gM(a:N M):Q (yD a)*(G (y5 a):Pz)=G a:=by grind [zU,Yh,WI,Int.mul_ediv_cancel']
theorem VO{a:N M}(h:X (yx a)≠0):Pm (G<|y5 a)/\Po (G<|y5 a):=by
 have h0:=rN h;have e:=gM a;constructor
 ·intro d hd;have h1:(yD a).natAbs*d∣WC (G a) (X (yx a)):=NR _ λk _=>by
   have b:=Ww e k;rw[zU]at b;have c:=xcl.2<|xfV (xek<|yD a)<|hd k;rw[b,xcw,xaG]at c;exact c
  rw[<-Ad]at h1;have f:(yD a).natAbs*d∣(yD a).natAbs*1:=by rw[xeI];exact h1
  exact Nat.dvd_one.1<|Nat.dvd_of_mul_dvd_mul_left W f
 ·have ht:=X9 h;refine⟨X (yx a)-1,?_,λk g=>by rw[Yh,ht.2 k g,xem]⟩;have b:=Ww e<|X (yx a)-1;rw[zU]at b;have c:=ht.1;obtain⟨x,j⟩:∃x,x=G (y5 a) (X (yx a)-1):=⟨_,O⟩;rw[<-j]at b⊢;have n:(0:J)<(WC (G a) (X (yx a)):K):=by
   have:=Ad a;lia
  have hc:yD a=if G (yx a) (X (yx a)-1)<0 then-((WC (G a) (X (yx a)):K):J)else((WC (G a) (X (yx a)):K):J):=O;rw[ZT]at hc;by_cases hn:G a (X (yx a)-1)<0
  ·rw[S hn]at hc;refine xak λl=> ?_;have:=Int.mul_nonneg_of_nonpos_of_nonpos (W:yD a<=0) (W:x<=0);lia
  ·rw[ir hn]at hc;refine xak λl=> ?_;have:=Int.mul_nonpos_of_nonneg_of_nonpos (W:0<=yD a) (W:x<=0);lia
theorem qS(a:N M):yx (y5 a)=y5 a:=(QY _ _).symm
theorem ziE(a:N M)(c:0<m)(k:K):G (pK a m) k=near (G a k) m:=jO (λj b=>by
 rw[yn b];unfold near;rw[xap,zD]) k
theorem zfm(x:J):near x m%m=x%m:=by
 unfold near;split
 ·simp_all
 ·simp_all
theorem zjU{x y:J}(h:x%m=y%m)(c:2*y.natAbs<m):near x m=y:=by
 unfold near;rw[h];by_cases b:0<=y
 ·rw[xaH b W,zD]
 ·have e:y%m=y+m:=by
   rw[<-Int.add_emod_right];exact xaH W W
  lia
def Ho(xs:N Lx)(a:N J)(c:K):N Lx:=(xaO c).map λi=>xs.getD (C a i).toNat ([],[])
theorem zg4(xs:N Lx)(a:N J)(c:K):Ho xs a (c+1)=Ho xs a c++[xs.getD (C a c).toNat ([],[])]:=by grind [Ho,xdj]
theorem zdM(a b:N Lx):pu (a++b)=pu a*pu b:=by grind [pu,vm]
theorem RF:(xs.map (·.1)).getD i []=(xs.getD i ([],[])).1:=by grind
theorem If(h:i<X xs):xs.getD i ([],[])∈xs:=by grind
theorem zdN{c k:K}{p:J}{f:N M}(hp:qp p=wL)(o:1<=k)(q:k<=1000)(hn:∀x∈xs,Up p k x.1 x.2/\Qy p x.2/\X x.2<=66)(F:X xs<=1000)(b:Bq (X xs) c a)(hc:c<=5)(u:xa 250 f)(ht:0<X f)(H:X f<=66)(d:3000000<=fu):
 ∃t,jE fu f (xs.map (·.1)) a (yG<|p^k)=Z (y5<|pK t<|p^k,a)/\xa 250 t/\X t<=1+c*66/\Cg (p^k) (G t) (Q (G f<|X f-1)*pu (Ho xs a c)):=by
 obtain⟨P,R⟩:=zw hp;have hd:=sX hp q;have hv:=nh hp o;have e:gy (yG<|p^k):=hd.okS mD;have S:=b.ln
 obtain⟨s,v,t,rfl,t1,t2,t3⟩:=zX (f:=uz fu (xs.map (·.1)) a<|yG<|p^k) (λs:N M×J×N J=>∃(i:K) (t:N M),i<=c/\s=(t,(i:J),a)/\xa 250 t/\X t<=1+i*66/\Cg (p^k) (G t) (Q (G f<|X f-1)*pu (Ho xs a i))) (λs=>c-s.2.1.toNat)
  (λr=>∃t:N M,r=(t,a)/\xa 250 t/\X t<=1+c*66/\Cg (p^k) (G t) (Q (G f<|X f-1)*pu (Ho xs a c))) (by
  rintro s L ⟨i,t,hi,rfl,h1,w,g⟩ y
  unfold uz
  simp only
  by_cases h:i<c
  ·have T:=b.lo i h
   have V:=b.hi i h
   obtain⟨j,l⟩:=xaC (W:0<=C a i)
   have B:=If (xs:=xs) (i:=j) W
   obtain⟨n,Y,hl⟩:=hn _ B
   have hB:=n.len
   rw[yg,U O]
   simp only[uS]
   rw[yo,A,QJ,l,zn (by rw[xav];lia),A,RF,U<|Br h1 n.rd.ok W W e d,zo,zkj W]
   simp only
   rw[zb]
   have l1:=Xo (xb t (xs.getD j ([],[])).1)<|p^k
   have l2:=ug t (xs.getD j ([],[])).1
   refine y _ ⟨i+1,_,W,O,ay hd W,W,?_⟩ (by show c-((i:J)+1).toNat<c-(i:J).toNat;lia)
   refine(Xz _ _).trans ?_
   rw[uj,zg4,zdM,l,xaZ,<-zd]
   refine g.mul<|Cg.of ?_
   exact(yp _).symm
  ·rw[zD,U O]
   simp only[xai,uP]
   obtain rfl:i=c:=W
   exact⟨_,O,t,O,h1,w,g⟩) fu (f.drop (X f-1),0,a) ⟨0,_,xae _,O,λz D=>u z (xfN D),by rw[xch];lia,by
   rw[Hy]
   refine Cg.of<|funext λj=> ?_
   rw[show Ho xs a 0=[]from O,show pu []=Q 1 from O,yp]
   cases j with
   |zero=>rfl
   |succ j=>exact yn (p:=[f.getD (X f-1) (I,[])]) mK⟩ (by show c-(0:J).toNat<fu;lia)
 refine⟨t,?_,t1,t2,t3⟩;unfold jE;rw[(W:(X f:J)-1=((X f-1:K):J)),zb,yI,y8,A,U v];simp only;have E:xa 250 (pK t<|p^k):=xi λj=>Bz.near hd W;have hC:X (pK t<|p^k)<=X t:=by unfold pK;rw[xC];exact qJ _ _
 rw[U<|Ai t1 mD e W d,zo];unfold S6;rw[zD];simp only;rw[U<|vR E]
theorem Sl{x:J}(hl:X a<=1000)(p:3000000<=fu):wg fu a x=Z (decide<|x∈a,a):=by
 unfold wg qP;obtain⟨s,g,l⟩:=zX (f:=vW fu a x) (λi:J=>0<=i/\i<=X a/\∀j:K,j<i->C a j≠x) (λi=>(X a-i).toNat) (λr:Z3⊕J=>(r=.inl ()/\¬x∈a)\/∃i:K,r=.inr (i:J)/\x∈a) (by
  rintro i L ⟨i1,i2,d⟩ n;obtain⟨k,rfl⟩:=xaC i1;unfold vW;by_cases h1:k<X a
  ·rw[yg,zn h1,A,QJ];by_cases b:x=C a k
   ·rw[S b];refine⟨_,O,.inr ⟨k,O,?_⟩⟩;rw[b,<-QJ,UV,xab h1];simp_all
   ·rw[ir b,zb];refine n _ ⟨W,W,λj c=> ?_⟩ W;by_cases e:j=k
    ·rw[e];exact λh=>b h.symm
    ·exact d j W
  ·rw[zD];refine⟨_,O,.inl ⟨O,λo=> ?_⟩⟩;obtain⟨j,c,e⟩:=xcq.1 o;refine d j W ?_;rw[<-QJ,UV,xab c];exact e) fu 0 ⟨W,W,λj c=>by lia⟩ W
 rw[g];rcases l with⟨rfl,h⟩|⟨i,rfl,h⟩
 ·rw[Wl h];rfl
 ·rw[Wd h];show(if(0:J)<=(i:J)then Z (wL,a)else Z (I,a))=Z (wL,a);rw[yg]
theorem L7{us:N (N M)}(hl:X us<=1000)(d:X a<=1000)(e:3000000<=fu):
 xM fu us a=Z (((xaO (X us)).filter λi:K=> !decide ((i:J)∈a)).map λi=>us.getD i [],a):=by
 unfold xM;rw[U (v:=(((xaO (X us)).filter λi:K=> !decide ((i:J)∈a)).map λi=>us.getD i [],a))];refine zA (λs:N (N M)×J×N J=>∃j:K,j<=X us/\s=(((xaO j).filter λi:K=> !decide ((i:J)∈a)).map λi=>us.getD i [],(j:J),a)) (λs=>X us-s.2.1.toNat) _ ?_ _ _ ⟨0,xae _,O⟩ (by show X us-0<fu;lia);rintro s L ⟨j,f,rfl⟩ c;unfold uJ;simp only;by_cases h1:j<X us
 ·rw[yg,U O];simp only[uS];rw[zn h1,A,U<|Sl d e];simp only;have hc:X ((xaO j).filter λi:K=> !decide ((i:J)∈a))<=j:=xal (xfI _ _) (by rw[xex];exact So j);by_cases b:(j:J)∈a
  ·rw[Wd b,ir mD,zb];refine c _ ⟨j+1,W,?_⟩ (by show X us-((j:J)+1).toNat<X us-(j:J).toNat;lia);rw[xdj,List.filter_append,xfq (by rw[Wd b];decide),List.filter_nil,xbm];rfl
  ·rw[Wl b,S mD,wM (by rw[xav];simp only[xaw,xbT];lia),A,zb];refine c _ ⟨j+1,W,?_⟩ (by show X us-((j:J)+1).toNat<X us-(j:J).toNat;lia);rw[xdj,List.filter_append,xfp (by rw[Wl b];decide),List.filter_nil,xaR];rfl
 ·rw[zD,U O];simp only[xai,uP];obtain rfl:j=X us:=W
  rfl
end
section
variable{M p:wn}{f q g f0:Pz}{k i fu:wr}{xs:xS Lx}{a:xS wn}
def Bdz(M:J)(f:Pz):Prop:=∀(u v:Pz) (b:K),Fs u->Tp v b->f=u*v->∀j,2*((v b*u j).natAbs:J)<M
theorem Bdz.dv(h:Bdz M f)(d:Nz g)(l:Fs g)(e:f=q*g):Bdz M q:=λu v b fu hv m j=>by
 obtain⟨a,c⟩:=Tp.ex l d;have h1:=h u (v*g) (b+a) fu (hv.mul c) (by rw[e,m,zd]) j;rw[K8 hv.2 c.2]at h1;have n:(v b*u j).natAbs<=(v b*g a*u j).natAbs:=by
  rw[Int.mul_right_comm,xcw<|v b*u j];exact xcj _ (by have:=c.1;lia)
 lia
theorem zp3{K:wr}(h:Bdz M f)(c:Nz g)(d:Fs g)(fq:Fs q)(e:f=q*g)(j:Bz K M)(k:wr):Bz K (q k):=by
 obtain⟨a,b⟩:=Tp.ex d c;have h1:=h q g a fq b e k;have l:(q k).natAbs<=(g a*q k).natAbs:=by
  rw[xcw];exact xea _ (by have:=b.1;lia)
 exact j.le W
structure Gd(g:N Zr):Prop where
 can:yx g=g
 ir:Ir (G g)
 ps:Po (G g)
 ok:xa 250 g
 ln:g.length<=11
structure Ch(p:J)(k:K)(f0:Pz)(F:N Zr)(xs:N Lx)(out:N (N Zr))(c:K):Prop where
 lc:Lc p k (G F) (F.length-1) xs
 k2:k<=1000
 can:yx F=F
 ok:xa 250 F
 ln:F.length<=11
 bd:Bdz (p^k) (G F)
 ls:Ls p (G F) xs c
 ct:xs.length+out.length<=10
 pr:f0=prZ (out.map λg=>(G g:Pz))*G F
 gd:∀g∈out,Gd g
theorem Ch.l0{c:K}{F:N Zr}{out:N (N Zr)}(h:Ch p k f0 F xs out c):0<X F:=by
 have h1:=h.lc.tp.1;by_cases e:X F=0
 ·exact wS (yn W) h1
 ·lia
theorem znk(c:2<=p)(d:∀x∈xs,Qy p x.2)(JO:xs.Pairwise λa b=>kn p (C a.2)<|C b.2){j:K}(hi:i<X xs)(e:j<X xs)(h:xs.getD i ([],[])=xs.getD j ([],[])):i=j:=by grind [Qy.self,xcU]
theorem zeE(c:2<=p)(d:∀x∈xs,Qy p x.2)(JO:xs.Pairwise λa b=>kn p (C a.2)<|C b.2):xs.Nodup:=by grind [Qy.self,xcU]
theorem SW{α:Type}(d:α)(xs:N α):xs=(xaO (X xs)).map λi=>xs.getD i d:=by
 refine xed mK λi h1 b=> ?_;simp_all
theorem zcg{c:K}(d:Bq (X xs) c a):∀x∈Ho xs a c,x∈xs:=λx e=>by
 obtain⟨j,b,rfl⟩:=xas.1 e;have b:=xbd.1 b;have h1:=d.hi j b;have h:=d.lo j b;grind
theorem znw{c:K}(n:2<=p)(hc:∀x∈xs,Qy p x.2)(JO:xs.Pairwise λa b=>kn p (C a.2)<|C b.2)(l:Bq (X xs) c a)(hi:i<X xs):xs.getD i ([],[])∈Ho xs a c↔(i:J)∈a:=by
 have hd:=l.ln;constructor
 ·intro h;obtain⟨j,d,e⟩:=xas.1 h;have d:=xbd.1 d;have h1:=l.hi j d;have r:=l.lo j d;have m:=znk n hc JO W hi e;have o:i=C a j:=W
  rw[o,<-QJ];simp_all
 ·intro h;obtain⟨j,d,e⟩:=xcq.1 h;have m:C a j=i:=by
   rw[<-QJ,UV,xab d];exact e
  exact xas.2 ⟨j,xbd.2 W,by rw[m];rfl⟩
theorem zbg{α:Type}(P:α->v6):∀l:N α,X (l.filter P)+X (l.filter λx=> !P x)=X l
 |[]=>rfl
 |x::l=>by
  have b:=zbg P l;grind
theorem S9{c:K}{F:N Zr}{out:N (N Zr)}(h:Ch p k f0 F xs out c)(hH:1<=c)(hI:c<=5)(L:Bq (X xs) c a)(R:3000000<=fu):
 (qT fu (yG<|p^k) a (F,xs.map (·.1),out)=Z (a,.inl (F,xs.map (·.1),out))/\∀u v,Fs u->Fs v->cf F=u*v->¬nQ u->own p u xs≠Ho xs a c)\/
 ∃y a',qT fu (yG<|p^k) a (F,xs.map (·.1),out)=Z (a',.inr y)/\∃F' H E,y=(F',H.map (·.1),E)/\Ch p k f0 F' H E c/\X H<X xs:=by
 have l:=h.lc;have hp:=l.hp;obtain⟨p1,p2⟩:=zw hp;have hz:=sX hp h.k2;have hZ:=nh hp l.k1;have hJ:=h.l0;have h0:=h.ln;have h8:=h.ct;have hA:=λx hx=>(l.el x hx).2.1;obtain⟨t,t1,t2,t3,t4⟩:=zdN (fu:=fu) hp l.k1 h.k2 l.el W L hI h.ok hJ W R;obtain⟨G,T⟩:∃G,G=pK t (p^k):=⟨_,O⟩;rw[<-T]at t1;have hC:∀j,cf G j=near (cf t j) (p^k):=λj=>by rw[T];exact ziE t W j
 have hK:Cg (p^k) (cf G) (Q (cf F<|X F-1)*pu (Ho xs a c)):=Cg.trans (λj=>by rw[hC];exact zfm _) t4;have hM:xa 250 G:=by rw[T];exact xi λj=>Bz.near hz W
 have h9:X G<=400:=by
  have:X (pK t<|p^k)<=X t:=by unfold pK;rw[xC];exact qJ _ _
  rw[T];lia
 have V:=E9 hM;have hN:=ZA G;have h':=ZC G;have hm:=gM G;have hn:=qS G;obtain⟨g,hg⟩:∃g,g=y5 G:=⟨_,O⟩;rw[<-hg]at t1 V hN hm hn;have r:∀u v,Fs u->Fs v->cf F=u*v->own p u xs=Ho xs a c->∃b,Tp v b/\(cf G:Pz)=Q (v b)*u:=λu v s fv e ho=>by
  obtain⟨nu,nv⟩:=VU l.tp.nz e;obtain⟨d,hd⟩:=Tp.ex s nu;obtain⟨b,z⟩:=Tp.ex fv nv;refine⟨b,z,kW λj=> ?_⟩;have h1:=l.up hd z e;have hO:d+b=X F-1:=by
   have:=hd.mul z;rw[<-e]at this;exact this.uniq l.tp
  have hP:cf F (X F-1)=u d*v b:=by rw[<-hO,e,K8 hd.2 z.2]
  rw[hC,zU];refine zjU ?_ ?_
  ·have h2:Cg (p^k) (cf t) (Q (v b)*u):=by
    refine t4.trans ?_;rw[hP,<-ho,xbJ,<-jx,zd];exact Cg.rfl.mul h1.symm
   rw[h2 j,zU]
  ·exact h.bd u v b s z e j
 have n:¬(Zd (cf g) (cf F)/\1<X g)->∀u v,Fs u->Fs v->cf F=u*v->¬nQ u->own p u xs≠Ho xs a c:=λhQ u v s fv e nc ho=>by
  obtain⟨b,z,D⟩:=r u v s fv e ho;obtain⟨nu,_⟩:=VU l.tp.nz e;have hq:X (yx G)≠0:=λe0=>by
   obtain⟨j,hj⟩:=nu;have:=Vd e0 j;rw[D,zU]at this;exact(xdH z.1 hj) this
  obtain⟨q1,q2⟩:=VO hq;rw[<-hg]at q1 q2;have z1:Zd (cf g) (cf G):=⟨Q<|yD G,Fs.pc _,hm.symm⟩;rw[D]at z1;have z2:=Zd.pm (Fs.cf g) q1 z.1 z1;refine hQ ⟨z2.trans ⟨v,fv,by rw[e,zk]⟩,xak λhl=>nc λj hj=> ?_⟩;have h3:cf G j=0:=by rw[<-hm,zU,yn W,xaA]
  rw[D,zU]at h3;obtain h4|h4:=xeQ.1 h3
  ·exact wS h4 z.1
  ·exact h4
 have hB:∀{q:N Zr}{e:J},wA fu F g=Z (q,e)->qT fu (yG<|p^k) a (F,xs.map (·.1),out)=if e=0 then(if 1<(X g:J)then ck ((X out+1)*24<=140737488355328)<|B (out++[g]) λpr=>Y (xM fu (xs.map (·.1)) a) λw=>Z (w.2,.inr (q,w.1,pr))else Z (a,.inl (F,xs.map (·.1),out)))else Z (a,.inl (F,xs.map (·.1),out)):=λ{q e} hd=>by
  unfold qT;simp only;rw[U t1];simp only;rw[U hd]
 by_cases hr:X (yx g)=0
 ·rw[hB<|AW h.ok V mD mD W W hr R,ir mD];refine .inl ⟨O,n λhh=> ?_⟩;rw[hn]at hr;lia
 ·obtain⟨q,e,d1,d2,d3⟩:=JD (fu:=fu) h.ok V (by have:=xaj (250+1) (W:X F+1<=12);lia) W W hr R;rw[hB d1];by_cases D:e=0
  ·by_cases hR:1<X g
   ·right;obtain⟨e1,e2,e3⟩:=d3 D;have hq:X (yx G)≠0:=W
    obtain⟨q1,q2⟩:=VO hq;rw[<-hg]at q1 q2;have hc:Tp (cf g) (X g-1):=by
     have:=X9 (a:=g) W;rwa[hn]at this
    obtain⟨nq,ng⟩:=VU l.tp.nz e1;have hS:X (yx q)≠0:=λe0=>by
     obtain⟨j,hj⟩:=nq;exact hj<|Vd e0 j
    have ht:Tp (cf q) (X q-1):=by
     have:=X9 hS;rwa[e2]at this
    have o:(cf F:Pz)=cf g*cf q:=by rw[e1,zk]
    have P:¬nQ (cf g):=λhD=>by
     have:=(nQ.tp hc).1 hD;lia
    have hE:∀x∈xs,Di p (C x.2) (cf g)↔x∈Ho xs a c:=λx hx=>l.pick (zcg L) hc ht o (γ:=yD G) (by
     rw[hm];exact(hK.down<|kN l.k1).trans<|Cg.rfl.mul<|Ou λy hy=>l.el y<|zcg L y hy) hx
    have hT:=zeE p1 hA l.pw;have hW:X (own p (cf g) xs)<=c:=by
     classical
     have h1:(own p (cf g) xs).Nodup:=by unfold own;exact hT.sublist List.filter_sublist
     have h2:=fE h1 (us:=Ho xs a c) λx hx=>(hE x (bT.1 hx).1).1 (bT.1 hx).2;have h3:X (Ho xs a c)=c:=by unfold Ho;simp
     lia
    have hU:=h.ls (cf g) (cf q) (Fs.cf g) (Fs.cf q) o P;have hF:=Ls.ir l h.ls hH (Fs.cf g) (Fs.cf q) o q1 P W;have hu:0<cf g (X g-1):=by
     obtain⟨m,m1,m2⟩:=q2.tp;have:=m1.uniq hc;rw[<-this];exact m2
    have hv:=l.step hc ht hu e1;have hX:X (own p (cf g) xs)+X (SQ p (cf g) xs)=X xs:=by
     classical
     unfold own SQ;exact zbg (λx:Lx=>decide<|Di p (C x.2)<|cf g) xs
    have hY:0<p^k:=W
    have hw:(((xaO (X (xs.map (·.1)))).filter λi:K=> !decide ((i:J)∈a)).map λi=>(xs.map (·.1)).getD i [])=(SQ p (cf g) xs).map (·.1):=by
     classical
     have e4:SQ p (cf g) xs=((xaO (X xs)).filter λi:K=> !decide ((i:J)∈a)).map λi=>xs.getD i ([],[]):=by
      unfold SQ;conv=>lhs;rw[SW ([],[]) xs]
      rw[List.filter_map];refine uL _<|List.filter_congr λi hi=> ?_;have hi:=xbd.1 hi;show(!decide (Di p (C (xs.getD i ([],[])).2)<|cf g))=_;have h5:=(hE _<|If hi).trans<|znw p1 hA l.pw L hi;by_cases h6:(i:J)∈a
      ·rw[Wd h6,Wd<|h5.2 h6]
      ·rw[Wl h6,Wl λh7=>h6<|h5.1 h7]
     rw[e4,xdg,xav];refine xcc λi _=> ?_;exact RF
    have a0:=L.ln;refine⟨(q,(SQ p (cf g) xs).map (·.1),out++[g]),a,?_,q,SQ p (cf g) xs,out++[g],O,?_,W⟩
    ·rw[S D,yg,y8,A,U<|L7 (by rw[xav];lia) W R,hw]
    ·have hV:∀j,Bz 250 (cf q j):=zp3 h.bd ng (Fs.cf g) (Fs.cf q) e1 hz;refine⟨hv,h.k2,e2,by rw[<-e2];exact xi hV,W,h.bd.dv ng (Fs.cf g) e1,h.ls.step l (Fs.cf g) (Fs.cf q) e1,?_,?_,λx hx=> ?_⟩
     ·rw[xat,List.length_singleton];lia
     ·rw[xaR,vm,h.pr,o];show prZ _*(cf g*cf q)=prZ _*(cf g*Q 1)*cf q;rw[yp,zd]
     ·obtain hx|hx:=xaa.1 hx
      ·exact h.gd x hx
      ·obtain rfl:=xac.1 hx;have:X x<=11:=by
        have:=(hc.mul ht).uniq (by rw[<-o];exact l.tp);lia
       exact⟨hn,hF,q2,V,this⟩
   ·rw[S D,zD];exact .inl ⟨O,n λhh=>hR hh.2⟩
  ·rw[ir D];exact .inl ⟨O,n λhh=>D<|d2.2 hh.1⟩
theorem zm7{is:N (Fin (X xs))}(hp:is.Pairwise (· < ·)):Bq (X xs) (X is) (is.map λi=>(i.val:J))/\Ho xs (is.map λi=>(i.val:J)) (X is)=is.map (xs[·]):=by
 have b:∀j (c:j<X is),C (is.map λi=>(i.val:J)) j=(is[j].val:J):=λj c=>by
  rw[<-QJ,UV,xbX,xab c];rfl
 have hc:∀i j (hi:i<X is) (c:j<X is),i<j->is[i].val<is[j].val:=λi j hi c h=>xcU.1 hp i j hi c h;have hd:∀d i (hi:i+d<X is),is[i].val+d<=is[i+d].val:=λd=>by
  induction d with
  |zero=>intro i hi;exact So _
  |succ d l=>
   intro i hi;have h1:=l i W;have e:=hc (i+d) (i+(d+1)) W hi W;lia
 refine⟨⟨mK,λi hi=> ?_,λi hi=> ?_,λi hi=> ?_⟩,?_⟩
 ·rw[b i hi];have:=hd i 0 W;simp only[xaJ]at this;lia
 ·rw[b i hi];have h1:=hd (X is-1-i) i W;have e:=is[i+(X is-1-i)].isLt;lia
 ·rw[b i W,b (i+1) hi];have:=hc i (i+1) W hi W;lia
 ·unfold Ho;refine xed mK λi h1 e=> ?_;rw[xav]at e;rw[List.getElem_map,List.getElem_range,List.getElem_map,b i e,xaZ,UV,xab is[i].isLt];rfl
theorem Rv{F:List Zr}(h0:Ch p k f0 F xs [] 1)(hf:3000000<=fu):
 ∃s,zg (fun L x=>Yp fu (yG<|p^k) x L) fu (F,xs.map (·.1),[],1)=some s/\∃(F:List Zr) (xs:List Lx) (out:List (List Zr)) (c:Nat),s=(F,xs.map (·.1),out)/\Ch p k f0 F xs out c/\xs.length<2*c:=by
 exact zX (f:=fun L x=>Yp fu (yG<|p^k) x L) (fun s:List Zr×List (List Zr)×List (List Zr)×Int=>∃(F:List Zr) (xs:List Lx) (out:List (List Zr)) (c:Nat),s=(F,xs.map (·.1),out,(c:Int))/\Ch p k f0 F xs out c/\1<=c/\c<=6) (fun s=>s.2.1.length*20+(20-s.2.2.2.toNat))
  (fun r=>∃(F:List Zr) (xs:List Lx) (out:List (List Zr)) (c:Nat),r=(F,xs.map (·.1),out)/\Ch p k f0 F xs out c/\xs.length<2*c) (by
  rintro s L ⟨F,xs,out,c,rfl,hC,hc,hi⟩ ih
  unfold Yp
  simp only
  have hk:=hC.ct
  rw[zb,xav]
  by_cases h2:2*c<=xs.length
  ·rw[yg]
   have hd:=fun a ha=>S9 (fu:=fu) (a:=a) hC hc (show c<=5 by lia) ha hf
   rcases LJ (fu:=fu) (N:=xs.length) (c:=c) (g:=qT fu<|yG<|p^k) (x0:=(F,xs.map (·.1),out)) (Rej:=fun a=>∀u v,Fs u->Fs v->cf F=u*v->¬nQ u->own p u xs≠Ho xs a c) (Acc:=fun a y=>∃F' xs' out',y=(F',xs'.map (·.1),out')/\Ch p k f0 F' xs' out' c/\xs'.length<xs.length) hc (by lia) (by lia) (by lia) hf hd with⟨e,hr⟩|⟨a,y,ha,⟨F',xs',out',rfl,hj,hl⟩,e⟩
   ·rw[za e]
    rw[Sum.elim_inl]
    simp only
    rw[zb]
    refine ih _ ⟨F,xs,out,c+1,by rw[show((c+1:Nat):Int)=(c:Int)+1 by lia],?_,by lia,by lia⟩ (by
     show(xs.map (·.1)).length*20+(20-((c:Int)+1).toNat)<(xs.map (·.1)).length*20+(20-(c:Int).toNat);lia)
    refine⟨hC.lc,hC.k2,hC.can,hC.ok,hC.ln,hC.bd,fun u v fu' fv e nc=> ?_,hC.ct,hC.pr,hC.gd⟩
    have h3:=hC.ls u v fu' fv e nc
    by_cases h4:(own p u xs).length=c
    ·exfalso
     have he:(own p u xs).Sublist xs:=by unfold own;exact List.filter_sublist
     obtain⟨is,e5,e6⟩:=List.sublist_eq_map_getElem he
     obtain⟨i1,i2⟩:=zm7 e6
     have hg:is.length=c:=by rw[<-h4,e5,xav]
     rw[hg]at i1 i2
     exact hr _ i1 u v fu' fv e nc<|by rw[i2,e5]
    ·lia
   ·rw[za e]
    rw[Sum.elim_inr]
    refine ih _ ⟨F',xs',out',c,rfl,hj,hc,hi⟩ ?_
    show(xs'.map (·.1)).length*20+(20-(c:Int).toNat)<(xs.map (·.1)).length*20+(20-(c:Int).toNat)
    rw[xav,xav]
    lia
  ·rw[zD]
   exact⟨_,rfl,F,xs,out,c,rfl,hC,by lia⟩) fu (F,xs.map (·.1),[],1) ⟨F,xs,[],1,rfl,h0,by lia,by lia⟩ (by
   show(xs.map (·.1)).length*20+(20-(1:Int).toNat)<fu
   rw[xav]
   have:=h0.ct
   lia)
theorem O3{F:N Zr}(h0:Ch p k (G F) F xs [] 1)(o:3000000<=fu):
 ∃out,Yb fu F (xs.map (·.1)) (yG<|p^k)=Z out/\X out<=11/\(∀g∈out,Gd g)/\G F=prZ (out.map λg=>(G g:Pz)):=by
 obtain⟨f0,hc⟩:∃f0:Pz,f0=G F:=⟨_,O⟩;rw[<-hc]at h0⊢;obtain⟨s,r,b,l,j,n,rfl,c,z⟩:=Rv h0 o;unfold Yb;rw[U r];simp only;have hl:=c.ct;have B:=c.l0;have hn:=c.ln;have m:=c.lc.pm;by_cases h1:1<X b
 ·have C:X (yx b)≠0:=by rw[c.can];lia
  have t:yD b=1:=by
   have u:=Ad b;rw[c.can]at u;have v:=(m _ (si λk w=>yn w):WC (G b) (X b)=1);have a3:yD b=if G (yx b) (X (yx b)-1)<0 then-((WC (G b) (X (yx b)):K):J)else((WC (G b) (X (yx b)):K):J):=O;rw[c.can,ir (by have:=c.lc.ps;lia),v]at a3;exact a3
  have x:y5 b=b:=BU (qS b) c.can λk=>by rw[Yh,t,Int.ediv_one]
  have hi:Ir (G b):=by
   have y:¬nQ (G b):=λh=>by have:=(nQ.tp c.lc.tp).1 h;lia
   have hc1:1<=n\/n=0:=W
   obtain hc1|hc1:=hc1
   ·refine Ls.ir c.lc c.ls hc1 (Fs.cf b) (Fs.pc 1) (yp _).symm m y ?_;have:X (own p (G b) l)<=X l:=by unfold own;exact xfI _ _
    lia
   ·lia
  refine⟨j++[b],?_,by rw[xat,List.length_singleton];lia,λg hg=> ?_,?_⟩
  ·rw[yg,U<|vR c.ok,x,y8,A]
  ·obtain hg|hg:=xaa.1 hg
   ·exact c.gd g hg
   ·obtain rfl:=xac.1 hg;exact⟨c.can,hi,⟨_,c.lc.ps,c.lc.tp.2⟩,c.ok,c.ln⟩
  ·rw[c.pr,xaR,vm];show _=prZ _*(G b*Q 1);rw[yp]
 ·refine⟨j,by rw[zD],W,c.gd,?_⟩;obtain⟨d,hd⟩:=((nQ.tp c.lc.tp).2 W).ex;rw[hd]at m;have D:=c.lc.ps;have E:G b (X b-1)=d:=by rw[hd,(W:X b-1=0)];exact S O
  rw[c.pr,hd];obtain e|e:=AN m
  ·rw[e,yp]
  ·lia
end
section
variable{a b K fu bx by_:wr}{y:wn}
def Bb(b:wr)(x:J):Prop:=x.natAbs<2^b
theorem Bb.mono{x:J}(h:Bb a x)(c:a<=b):Bb b x:=xag h<|xam mD c
theorem Bb.mul{x:J}(c:Bb a x)(d:Bb b y):Bb (a+b) (x*y):=by
 unfold Bb at*
 rw[xcw,xbj];by_cases h:y.natAbs=0
 ·rw[h,xdo];exact xdL (xaY mD)<|xaY mD
 ·exact Nat.mul_lt_mul_of_lt_of_le c (xdC d) W
theorem Bb.sub{x:J}(c:Bb b x)(d:Bb b y):Bb (b+1) (x-y):=by grind [Bb,xbw]
theorem Bb.zero(b:wr):Bb b 0:=xaY mD
theorem Bb.bz{x:J}(h:Bb b x)(c:b<=64*K):Bz K x:=by
 unfold Bz;rw[(mD:(18446744073709551616:wr)=2^64),<-xcg];exact xag h<|xam mD c
theorem Bb.le{x:J}(c:Bb b y)(h:x.natAbs<=y.natAbs):Bb b x:=xaK h c
theorem Bb.pow{b:wr}{x:J}(h:Bb b x):∀n,Bb (n*b+1) (x^n)
 |0=>by rw[xce];unfold Bb;rw[xcC];decide
 |n+1=>by
  rw[xbP,xbi,xcP,Nat.add_right_comm];exact(Bb.pow h n).mul h
theorem Bb.pow'{b:wr}{x y:J}{c:wr}(h:Bb b x)(d:Bb c y):∀n,Bb (n*b+c) (x^n*y)
 |0=>by rw[xce,xdd,xcC,xaJ];exact d
 |n+1=>by
  rw[xbP,Int.mul_right_comm,xbi,xcP,Nat.add_right_comm];exact(Bb.pow' h d n).mul h
theorem A1{n:wr}{a:J}(hn:n<=65536)(e:∀d,d<=n->Bz K (a^d))(h1:Bz K a)(g:K<=40000)(c:3000000<=fu):Q1 fu (yG a) (n:J)=Z (yG<|a^n):=by
 unfold Q1;rw[U<|yw mD c,U (v:=yG<|a^n)];refine zA (λs:J×M=>∃i:wr,s=((i:J),yG<|a^i)/\i<=n) (λs=>n-s.1.toNat) _ ?_ _ _ ⟨0,by rw[xce];rfl,xae _⟩ (by show n-0<fu;lia);rintro s L ⟨i,rfl,hi⟩ f;unfold dQ;simp only;by_cases h:i<n
 ·rw[yg,U<|yj ((e i hi).ok W) (h1.ok W) c,zo,zo,zb,<-xbP];exact f _ ⟨i+1,O,W⟩ (by show n-((i:J)+1).toNat<n-(i:J).toNat;lia)
 ·rw[zD];obtain rfl:i=n:=W
  rfl
structure PsI(x y:Pz)(l:J)(ly n bx by_ k:wr)(Q ρ:Pz):Prop where
 fq:Fs Q
 eq:pc (l^(n-k))*x=Q*y+ρ
 z:∀j,k+(ly-1)<=j->ρ j=0
 b:∀j,Bb (bx+(n-k)*(by_+1))<|ρ j
theorem PsI.step{x y:Pz}{l:J}{c n k:wr}{Q d:Pz}(h:PsI x y l c n bx by_ (k+1) Q d)(o:k+1<=n)(g:Tp y (c-1))(hl:y (c-1)=l)(f:∀j,Bb by_<|y j):
 PsI x y l c n bx by_ k (pc l*Q+mono k (d<|k+(c-1))) (λj=>l*d j-d (k+(c-1))*sh y k j):=by
 have e1:n-k=n-(k+1)+1:=W
 have i:bx+(n-k)*(by_+1)=by_+(bx+(n-(k+1))*(by_+1))+1:=by rw[e1,xbi];lia
 refine⟨((Fs.pc l).mul h.fq).add ⟨k+1,λj m=>zD⟩,?_,λj m=> ?_,λj=> ?_⟩
 ·rw[e1,xbP,xbJ,<-jx,zd,h.eq,wG,yW,zd];funext j;rw[zP,zP,zP,Vx,zU l d];show _=_+_+(l*d j-d (k+(c-1))*sh y k j);lia
 ·show l*d j-d (k+(c-1))*sh y k j=0;unfold sh;rw[yg];by_cases e:j=k+(c-1)
  ·rw[e,(W:k+(c-1)-k=c-1),hl,xbJ];lia
  ·rw[h.z j W,g.2 _ W];lia
 ·rw[i];refine Bb.sub ((show Bb by_ l by rw[<-hl];exact f _).mul<|h.b j) ?_;rw[xdR by_];refine(h.b _).mul ?_;unfold sh;split
  ·exact f _
  ·exact Bb.zero _
theorem znl{n:wr}{l:N M}(j:wr):G (Nm n (I,[])++l) j=sh (G l) n j:=by
 unfold sh;by_cases h:n<=j
 ·rw[S h];unfold G;rw[UV,xbr (by rw[xaM];exact h),xaM,<-UV]
 ·rw[ir h];unfold G;rw[UV,xbb (by rw[xaM];lia),xcN];rw[yg];rfl
theorem sI{x y:N M}(hx:yx x=x)(p:yx y=y)(hl:X y<=X x)(hJ:0<X y)(hK:X x<=60)(bX:∀j,Bb bx<|G x j)(D:∀j,Bb by_<|G y j)(hT:bx+(X x-X y+1)*(by_+1)<=2400000)(m:3000000<=fu):
 ∃q r c Q,Yg fu x y=Z (q,r,0)/\yx r=r/\X r<X y/\c≠0/\Fs Q/\(pc c*G x:Pz)=Q*G y+G r/\∀j,Bb (bx+(X x-X y+1)*(by_+1)) (G r j):=by
 obtain⟨n,hn⟩:∃n,n=X x-X y+1:=⟨_,O⟩;rw[<-hn]at hT⊢;obtain⟨T,hL⟩:∃T,T=bx+n*(by_+1):=⟨_,O⟩;have ty:Tp (G y) (X y-1):=by
  have:=X9 (a:=y) (by rw[p];lia);rwa[p]at this
 obtain⟨l,E⟩:∃l,l=G y (X y-1):=⟨_,O⟩;have u:l≠0:=by rw[E];exact ty.1
 have i:Bb by_ l:=by rw[E];exact D _
 have Y:∀d,d<=n->d*(by_+1)<=n*(by_+1):=λd hd=>xaj _ hd;have ho:∀d:wr,d*(by_+1)=d*by_+d:=λd=>by rw[xco,xeI]
 have hM:by_+1<=T:=by have:=Y 1 W;rw[xcP]at this;lia
 have oX:xa 37500 x:=by rw[<-hx];exact xi λj=>(bX j).bz W
 have oY:xa 37500 y:=by rw[<-p];exact xi λj=>(D j).bz W
 have v:∀d,d<=n->Bz 37501 (l^d):=λd hd=>(Bb.pow i d).bz (by have:=Y d hd;have:=ho d;lia);have B:∀d,d<=n->∀z,Bb (bx+(n-d)*(by_+1)) z->Bb T (l^d*z):=λd hd z hz=>(Bb.pow' i hz d).mono (by
  have h1:=ho d;have h2:n*(by_+1)=d*(by_+1)+(n-d)*(by_+1):=by rw[<-xbi];congr 1;lia
  lia)
 have hB:y.getD (X y-1) (I,[])=yG l:=by rw[E];exact De (show y=wK (X y) (G y)from p.symm)
 obtain⟨r0,hi⟩:∃r0,r0=wK (X x) (λj=>G x j*l^n):=⟨_,O⟩;have ht:∀j,G r0 j=l^n*G x j:=λj=>by rw[hi,jO (λj F=>by rw[yn F,xba]),xbJ]
 obtain⟨s,hs,r,q,rfl,g,Q,r1,r2,H,r4⟩:=zX (f:=V8 fu<|yG l) (λs:N M×N M×J×N M=>∃(k:wr) (r q:N M),s=(y,r,(k:J)-1,q)/\k<=n/\yx r=r/\X r<=X x+60*(n-k)/\X q=n/\xa 37500 q/\∃Q g,PsI (G x) (G y) l (X y) n bx by_ k Q g/\∀j,G r j=l^k*g j) (λs=>(s.2.2.1+1).toNat)
  (λt=>∃(r q:N M),t=(r,q)/\∃g Q,yx r=r/\(X q=n/\xa 37500 q)/\PsI (G x) (G y) l (X y) n bx by_ 0 Q g/\∀j,G r j=g j) (by
  rintro s L ⟨k,r,q,rfl,hk,P,hN,hp,hq,Q,g,o,hc⟩ ih
  unfold V8
  simp only
  cases k with
  |zero=>
   rw[zD]
   exact⟨_,O,r,q,O,g,Q,P,⟨hp,hq⟩,o,λj=>by rw[hc j,xce,xdd]⟩
  |succ k=>
   have hH:60*(n-(k+1))+60=60*(n-k):=W
   have hO:60*(n-k)<=60*60:=xaE _ W
   have hu:=o.step hk ty E.symm D
   have bR:∀j,Bb T (G r j):=λj=>by rw[hc j];exact B (k+1) hk _<|o.b j
   have oR:xa 37500 r:=by rw[<-P];exact xi λj=>(bR j).bz W
   rw[(W:((k+1:wr):J)-1=(k:J)),yg,zb]
   by_cases hP:X r<k+X y
   ·have hC:g (k+(X y-1))=0:=by
     have h1:=hc<|k+(X y-1);rw[yn W]at h1;obtain h2|h2:=xeQ.1 h1.symm
     ·exact wS h2<|Int.pow_ne_zero u
     ·exact h2
    rw[yg,zb]
    refine ih _ ⟨k,r,q,O,W,P,W,hp,hq,_,_,hu,λj=> ?_⟩ (by show((k:J)-1+1).toNat<(((k+1:wr):J)-1+1).toNat;lia)
    show G r j=l^k*(l*g j-g (k+(X y-1))*sh (G y) k j)
    rw[hC,xba,xdh,hc j,xbP,xcY]
   ·have hD:X r=k+X y:=by
     by_cases e:X r=k+X y
     ·exact e
     ·exfalso;have h1:=Xq (show r=wK (X r) (G r)from P.symm) W;rw[hc,o.z _ W,xaA]at h1;exact h1 O
    obtain⟨w,R⟩:∃w,w=g (k+(X y-1)):=⟨_,O⟩
    have hF:G r (k+(X y-1))=l^k*w*l:=by rw[hc,<-R,xbP,Int.mul_right_comm]
    have bw:Bb T (l^k*w):=by
     refine B k W w ((o.b _).mono ?_|>λh=>by rw[R];exact h);have:=Y (n-(k+1)) W;have h3:(n-k)*(by_+1)=(n-(k+1))*(by_+1)+(by_+1):=by rw[(W:n-k=n-(k+1)+1),xbi,xcP]
     lia
    have a0:∀j,Bb T (G y j*(l^k*w)):=λj=>by
     have h1:Bb (by_+(k*by_+(bx+(n-(k+1))*(by_+1)))) (G y j*(l^k*w)):=(D j).mul<|Bb.pow' i (by rw[R];exact o.b _) k;refine h1.mono ?_;have h2:n*(by_+1)=(k+1)*(by_+1)+(n-(k+1))*(by_+1):=by rw[<-xbi];congr 1;lia
     have h3:=ho<|k+1;rw[xbi k 1 by_,xcP]at h3;lia
    have hE:exE (l^k*w*l) l=0:=by unfold exE;rw[ir u,S<|Int.mul_emod_left _ _]
    have hX:exI (l^k*w*l) l=l^k*w:=by unfold exI;rw[ir u,S<|Int.mul_emod_left _ _,Int.mul_ediv_cancel _ u]
    rw[zD,zb,(W:(k:J)+(X y:J)-1=((k+(X y-1):wr):J)),zb,yo,A,U<|uh (oR.okS mD _) ((i.bz (K:=37500) W).okS mD) m,Vn,zo,hF,hX,hE]
    simp only
    have hv:(q.set k<|yG<|l^k*w).getD k (I,[])=yG (l^k*w):=by rw[UV,xds W];rfl
    rw[yo,A,yI,y8,A,zn (by rw[xbg];lia),A,hv,U<|jX (l:=37500) oY ⟨yN _,(bw.bz (K:=37500) W).len⟩ mD W m,zo]
    obtain⟨part,V⟩:∃part,part=wK (X y) (λj=>G y j*(l^k*w)):=⟨_,O⟩
    have hG:∀j,G part j=G y j*(l^k*w):=λj=>by rw[V,jO<|λj F=>by rw[yn F,xba]]
    have hQ:X part<=X y:=by rw[V,xC];exact qJ _ _
    have a1:xa 37500 part:=by rw[V];exact xi λj=>(a0 j).bz W
    have C:xa 37500 (Nm k (I,[])++part):=λz hz=>by
     obtain hz|hz:=xaa.1 hz
     ·rw[(xen.1 hz).2];exact⟨zm.nil,xae _⟩
     ·exact a1 z hz
    rw[<-V,wM (by rw[xaM];lia),A,U<|Zh oR C mD W (by rw[xat,xaM];lia) m,zb]
    refine ih _ ⟨k,_,_,O,W,(QY _ _).symm,?_,by rw[xbg];exact hp,?_,_,_,hu,λj=> ?_⟩ (by show((k:J)-1+1).toNat<(((k+1:wr):J)-1+1).toNat;lia)
    ·have:=UJ r<|Nm k (I,[])++part
     rw[xat,xaM]at this
     lia
    ·intro z hz
     obtain h1|h1:=xdz hz
     ·exact hq z h1
     ·rw[h1];exact⟨yN _,(bw.bz (K:=37500) W).len⟩
    ·rw[zbE,znl,hc j]
     show l^(k+1)*g j-sh (G part) k j=l^k*(l*g j-g (k+(X y-1))*sh (G y) k j)
     rw[<-R]
     have e2:sh (G part) k j=l^k*(w*sh (G y) k j):=by
      unfold sh;split
      ·rw[hG,xbJ,xcY]
      ·rw[xaA,xaA]
     rw[e2,xbP,Int.mul_sub,xcY]) fu (y,r0,(n:J)-1,Nm n (I,[])) ⟨n,r0,_,O,So _,by rw[hi];exact(QY _ _).symm,by rw[hi,xC];have:=qJ (λj=>G x j*l^n) (X x);lia,xaM,λz hz=>by rw[(xen.1 hz).2];exact⟨zm.nil,xae _⟩,pc 0,G x,⟨Fs.pc 0,by
    rw[xcE,xce,zC,yB];exact kW λj=>by rw[zP,zO,xcI],λj F=>yn W,λj=>by rw[xcE,xcC];exact bX j⟩,ht⟩ (by show((n:J)-1+1).toNat<fu;lia)
 refine⟨wK (X q)<|G q,r,l^n,Q,?_,r1,?_,Int.pow_ne_zero u,H.fq,?_,λj=>by rw[r4 j];exact H.b j⟩
 ·unfold Yg;have hA:max ((X x:J)-X y+1) 0=(n:J):=W
  rw[U<|zI oX mD W m,U<|zI oY mD W m,show wK (X x) (G x)=x from hx,show wK (X y) (G y)=y from p,zD,zb,zb,A,hA,(W:(X y:J)-1=((X y-1:wr):J)),zb,yo,A,hB,U<|A1 W v ((i.bz (K:=37501) W)) mD m,U<|jX (l:=37501) oX ⟨yN _,(v n<|So _).len⟩ mD W m,zo,<-hi,yI,y8,A,zb,U hs];simp only;rw[U<|zI r2.2 mD W m]
 ·by_cases e:X r=0
  ·lia
  ·have h1:=Xq (show r=wK (X r) (G r)from r1.symm) e;by_cases h2:X r<X y
   ·exact h2
   ·rw[r4,H.z _ W]at h1;exact wS O h1
 ·have:=H.eq;rw[Nat.sub_zero]at this;rw[this,show(G r:Pz)=g from kW r4]
end
section
def fac:K->J
 |0=>1
 |n+1=>((n+1:K):J)*fac n
theorem Ym:∀n,0<fac n
 |0=>by decide
 |n+1=>Int.mul_pos W<|Ym n
def ip(n:K)(f g:Pz):J:=yu (n+1) λs=>fac s*fac (n-s)*(f s*g s)
theorem QI(n:K)(f g:Pz):ip n f g=ip n g f:=yC λs _=>by rw[xbJ<|f s]
theorem zaH(n:K)(f g h:Pz):ip n (f+g) h=ip n f h+ip n g h:=by
 unfold ip;rw[<-Y5];exact yC λs _=>by rw[zP,Int.add_mul,xfx]
theorem B7(n:K)(f g h:Pz):ip n h (f+g)=ip n h f+ip n h g:=by grind [QI,zaH]
theorem N8(n:K)(c:J)(f h:Pz):ip n (Q c*f) h=c*ip n f h:=by
 unfold ip;rw[<-Ze];exact yC λs _=>by rw[zU,xcY c<|f s,Int.mul_left_comm]
theorem tC(n:K)(c:J)(f h:Pz):ip n h (Q c*f)=c*ip n h f:=by rw[QI,N8,QI]
theorem LB{f:K->J}:∀{n},(∀k,k<n->0<=f k)->0<=yu n f
 |0,_=>xfW 0
 |n+1,h=>Int.add_nonneg (LB λk a=>h k W)<|h n W
theorem zmc(n:K)(f:Pz):0<=ip n f f:=LB λs _=>xcx (xcx (xdF<|Ym _)<|xdF<|Ym _)<|YO _
def xP:Pz:=mono 1 1
theorem zrc(f:Pz):(xP*f) 0=0:=by
 unfold xP;rw[Vx];rfl
theorem zqf(f:Pz)(k:K):(xP*f) (k+1)=f k:=by simp_all [sh,xP,Vx]
theorem adx(n:K)(f g:Pz):ip (n+1) (xP*f) g=ip n f (dvp g):=by
 unfold ip;rw[Zj,zrc,xba,xaA,xcI];refine yC λs a=> ?_;rw[zqf,(W:n+1-(s+1)=n-s)];show((s+1:K):J)*fac s*fac (n-s)*(f s*g (s+1))=fac s*fac (n-s)*(f s*(((s+1:K):J)*g (s+1)));grind
def dy(n:K)(f:Pz):Pz:=Q (n:J)*f-xP*dvp f
theorem Ra(n:K)(f:Pz)(k:K):dy n f k=((n:J)-k)*f k:=by
 unfold dy;rw[y7,zU]
 cases k with
 |zero=>rw[zrc];grind
 |succ k=>
  rw[zqf];show n*f (k+1)-((k+1:K):J)*f (k+1)=_;grind
theorem ady(n:K)(f g:Pz)(a:f (n+1)=0):ip (n+1) f g=ip n f (dy (n+1) g):=by
 show yu (n+1) _+fac (n+1)*fac (n+1-(n+1))*(f (n+1)*g (n+1))=_;rw[a,xba,xaA,xbW];refine yC λs b=> ?_;rw[Ra,(W:n+1-s=(n-s)+1)];show fac s*(((n-s+1:K):J)*fac (n-s))*(f s*g s)=_;grind
theorem eul(n:K)(f:Pz):Q (n:J)*f=xP*dvp f+dy n f:=by
 unfold dy;funext k;rw[zP,y7];lia
theorem zn5(n m:K)(f g:Pz):dy (n+m) (f*g)=dy n f*g+f*dy m g:=by
 have h1:Q ((n+m:K):J)*(f*g)=Q n*f*g+f*(Q m*g):=by
  rw[zE f,zd];funext k;rw[zP,zU,zU,zU];grind
 have a:xP*(dvp f*g+f*dvp g)=xP*dvp f*g+f*(xP*dvp g):=by rw[wG,zd,zE f]
 unfold dy;rw[K5,h1,a,ke,qq];funext k;simp only[zP,y7];lia
theorem zgB(n:K)(f:Pz):dvp (dy (n+1) f)=dy n (dvp f):=kW λk=>by
 rw[Ra];show((k+1:K):J)*dy (n+1) f (k+1)=(n-k)*(((k+1:K):J)*f (k+1));rw[Ra];grind
def Dg(n:K)(f:Pz):Prop:=∀k,n<k->f k=0
theorem Dg.dx{n:K}{f:Pz}(h:Dg (n+1) f):Dg n (dvp f):=λk a=>by
 show((k+1:K):J)*f (k+1)=0;rw[h _ W,xaA]
theorem Dg.dy{n:K}{f:Pz}(h:Dg (n+1) f):Dg n (dy (n+1) f):=λk a=>by
 rw[Ra];by_cases e:k=n+1
 ·simp_all
 ·rw[h k W,xaA]
theorem Dg.mul{n m:K}{f g:Pz}(a:Dg n f)(b:Dg m g):Dg (n+m) (f*g):=λk d=>uy (n:=n+1) (m:=m+1) (λj c=>a j W)<|λj c=>b j W
theorem Dg.add{n:K}{f g:Pz}(b:Dg n f)(c:Dg n g):Dg n (f+g):=λk a=>by rw[zP,b k a,c k a];rfl
theorem Dg.num{f:Pz}(h:Dg 0 f):f=Q (f 0):=kW λk=>by
 unfold Q;by_cases e:k=0
 ·simp_all
 ·rw[ir e,h k W]
section
variable(a:wr)(u:Pz)
theorem zlE{m b q0:K}{v p q:Pz}(hp:Dg (m+1) p)(c:Dg a u)(e:b+q0=m+1+a):
 ((m+1:K):J)*ip (m+1+a) (p*u) (v*q)=ip (m+a) (dvp p*u) (dvp v*q)+ip (m+a) (dy (m+1) p*u) (dy b v*q)+(ip (m+a) (dvp p*u) (v*dvp q)+ip (m+a) (dy (m+1) p*u) (v*dy q0 q)):=by
 rw[<-N8,<-zd,eul,yW,zaH,zd,(W:m+1+a=m+a+1),adx,ady _ _ _ (hp.dy.mul c _ W),K5,B7,(W:m+a+1=b+q0),zn5,B7];lia
def Fk:K->K->K->Pz->Pz->Pz->J
 |0,b,_,v,p,q=>ip (b+a) (p*u)<|v*q
 |k+1,b,c,v,p,q=>Fk k (b-1) (c-1) v (dvp p) (dvp q)+Fk k (b-1) (c-1) v (dy b p) (dy c q)
theorem IZ(c:Dg a u):∀(k:K) {m b q0:K}{v p q:Pz},k<=m->m<=q0->b+(q0+1)=m+1+a->Dg (m+1) p->
 ((m+1:K)-(k:J))*Fk a u k (m+1) (q0+1) v p q=Fk a u k m (q0+1) (dvp v) (dvp p) q+Fk a u k m (q0+1) (dy b v) (dy (m+1) p) q+Fk a u (k+1) (m+1) (q0+1) v p q
 |0,m,b,q0,v,p,q,_,_,e,hp=>by
  have:=zlE a u (v:=v) (q:=q) hp c e;assumption
 |k+1,0,_,_,_,_,_,h,_,_,_=>by lia
 |k+1,m+1,b,0,_,_,_,_,h,_,_=>by lia
 |k+1,m+1,b,q0+1,v,p,q,h1,d,e,hp=>by
  have i1:=IZ c k (b:=b) (q0:=q0) (v:=v) (q:=dvp q) W W W hp.dx;have i2:=IZ c k (b:=b) (q0:=q0) (v:=v) (q:=dy (q0+1+1) q) W W W hp.dy;rw[zgB]at i2;show((m+1+1:K)-((k+1:K):J))*(Fk a u k (m+1) (q0+1) v (dvp p) (dvp q)+Fk a u k (m+1) (q0+1) v (dy (m+1+1) p) (dy (q0+1+1) q))=Fk a u k m (q0+1) (dvp v) (dvp<|dvp p) (dvp q)+Fk a u k m (q0+1) (dvp v) (dy (m+1)<|dvp p) (dy (q0+1+1) q)+(Fk a u k m (q0+1) (dy b v) (dvp<|dy (m+1+1) p) (dvp q)+Fk a u k m (q0+1) (dy b v) (dy (m+1)<|dy (m+1+1) p) (dy (q0+1+1) q))+(Fk a u (k+1) (m+1) (q0+1) v (dvp p) (dvp q)+Fk a u (k+1) (m+1) (q0+1) v (dy (m+1+1) p) (dy (q0+1+1) q));rw[zgB,(W:((m+1+1:K)-((k+1:K):J))=((m+1:K)-(k:J))),xfx];lia
def pD:K->K->Pz->Pz->Pz
 |0,_,p,q=>p*q
 |k+1,b,p,q=>pD k (b-1) (dvp p) (dvp q)+pD k (b-1) (dy (k+1) p) (dy b q)
theorem zgV:∀(k:K) {b:K}{v p q:Pz},Dg k p->Fk a u k k b v p q=ip a u (v*pD k b p q)
 |0,b,v,p,q,h=>by
  show ip (0+a) (p*u) (v*q)=ip a u (v*(p*q));rw[h.num,xaJ,N8,zE,tC]
 |k+1,b,v,p,q,h=>by
  show Fk a u k k (b-1) v (dvp p) (dvp q)+Fk a u k k (b-1) v (dy (k+1) p) (dy b q)=ip a u (v*(pD k (b-1) (dvp p) (dvp q)+pD k (b-1) (dy (k+1) p) (dy b q)));rw[zgV k h.dx,zgV k h.dy,wG,B7]
end
theorem zhn:∀(k:K) {d:K}{p q:Pz},Dg k p->Dg (k+d) q->Dg d (pD k (k+d) p q)
 |0,d,p,q,hp,a=>by
  have:=hp.mul a;rw[xaJ,xaJ]at this;exact this
 |k+1,d,p,q,hp,a=>by
  rw[(W:k+1+d=k+d+1)]at a⊢;exact(zhn k hp.dx a.dx).add<|zhn k hp.dy a.dy
theorem ziu:∀(k:K) {d:K}{p q g:Pz},Dg k p->Dg d g->fac k*ip (k+d) q (p*g)=ip d (pD k (k+d) p q) g
 |0,d,p,q,g,hp,a=>by
  show 1*ip (0+d) q (p*g)=ip d (p*q) g;rw[hp.num,xdd,xaJ,tC,N8]
 |k+1,d,p,q,g,hp,a=>by
  have i1:=ziu k (q:=dvp q) hp.dx a;have i2:=ziu k (q:=dy (k+d+1) q) hp.dy a;rw[(W:k+1+d=k+d+1)];show((k+1:K):J)*fac k*ip (k+d+1) q (p*g)=ip d (pD k (k+d+1-1) (dvp p) (dvp q)+pD k (k+d+1-1) (dy (k+1) p) (dy (k+d+1) q)) g;rw[Nat.add_sub_cancel,zaH,<-i1,<-i2,xbJ _<|fac k,xcY,<-tC,<-zd,eul,yW,B7,zd,QI _ q,adx,QI _ q,ady _ _ _ (hp.dy.mul a _ W),xfx,QI _<|dvp q,QI _<|dy _ q]
theorem Re{a:K}{u:Pz}(e:Dg a u):∀(b:K) {v:Pz},Dg b v->b<=a->∀(j k:K),k+j=b->0<=Fk a u k b a v v u
 |b,v,hv,f,0,k,h=>by
  obtain rfl:k=b:=W
  obtain⟨d,rfl⟩:∃d,a=k+d:=⟨a-k,W⟩;have h1:=ziu k (d:=d) (q:=u) (g:=pD k (k+d) v u) hv<|zhn k hv e;rw[zgV _ _ k hv];have i:=zmc d<|pD k (k+d) v u;rw[<-h1]at i;exact Int.nonneg_of_mul_nonneg_right i<|Ym k
 |0,v,hv,f,j+1,k,h=>by lia
 |b+1,v,hv,f,j+1,k,h=>by
  obtain⟨c,rfl⟩:∃c,a=c+1:=⟨a-1,W⟩;have h1:=IZ (c+1) u e k (m:=b) (b:=b+1) (q0:=c) (v:=v) (p:=v) (q:=u) W W W hv;have i:=Re e b hv.dx W j k W;have n:=Re e b hv.dy W j k W;have o:=Re e (b+1) hv f j (k+1) W;have l:0<=((b+1:K)-(k:J))*Fk (c+1) u k (b+1) (c+1) v v u:=by rw[h1];lia
  exact Int.nonneg_of_mul_nonneg_right l W
theorem zp4{u:Pz}(h:Dg 0 u):dvp u=Q 0:=kW λk=>by
 rw[zO];show((k+1:K):J)*u (k+1)=0;rw[h _ W,xaA]
theorem zr3{u:Pz}(h:Dg 0 u):dy 0 u=Q 0:=kW λk=>by
 rw[zO,Ra];by_cases e:k=0
 ·simp_all
 ·rw[h k W,xaA]
theorem zpk{a b:K}{u v:Pz}(c:Dg a u)(hv:Dg (b+1) v):0<=ip (b+a) (dvp v*u) (v*dvp u)+ip (b+a) (dy (b+1) v*u) (v*dy a u):=by
 by_cases h:b+1<=a
 ·exact Re c (b+1) hv h b 1 W
 ·cases a with
  |zero=>
   rw[zp4 c,zr3 c,zk v,tC,tC];lia
  |succ a=>
   have:=Re hv (a+1) c W a 1 W;have this:0<=ip (a+(b+1)) (dvp u*v) (u*dvp v)+ip (a+(b+1)) (dy (a+1) u*v) (u*dy (b+1) v):=this;rw[QI,QI _<|dy (a+1) u*v,zk u,zk<|dvp u,zk u,zk<|dy (a+1) u,(W:a+(b+1)=b+(a+1))]at this;lia
theorem zqz{a:K}{u:Pz}(c:Dg a u):∀(b:K) {v:Pz},Dg b v->fac b*(v b*v b)*ip a u u<=ip (b+a) (v*u) (v*u)
 |0,v,hv=>by
  rw[hv.num,N8,tC,xaJ];show 1*(Q (v 0) 0*Q (v 0) 0)*ip a u u<=v 0*(v 0*ip a u u);have e:Q (v 0) 0=v 0:=O;rw[e,xdd,xcY];lia
 |b+1,v,hv=>by
  have h1:=zlE a u (b:=b+1) (q0:=a) (v:=v) (q:=u) hv c O;have f:=zpk c hv;have g:=zmc (b+a)<|dy (b+1) v*u;have d:=zqz c b hv.dx;have e:dvp v b=((b+1:K):J)*v (b+1):=O;rw[e]at d;have h:((b+1:K):J)*(fac (b+1)*(v (b+1)*v (b+1))*ip a u u)=fac b*(((b+1:K):J)*v (b+1)*(((b+1:K):J)*v (b+1)))*ip a u u:=by
   show((b+1:K):J)*(((b+1:K):J)*fac b*(v (b+1)*v (b+1))*ip a u u)=_;grind
  refine Int.le_of_mul_le_mul_left (a:=((b+1:K):J)) ?_ W;lia
theorem BJ:∀(m n:K),fac (m+n)<=2^(m+n)*(fac m*fac n)
 |0,n=>by
  rw[xaJ];show fac n<=2^n*(1*fac n);rw[xdd];have:=xbA (show(1:J)<=2^n from Int.pow_pos mD)<|xdF<|Ym n;lia
 |m+1,0=>by
  show fac (m+1)<=2^(m+1)*(fac (m+1)*1);rw[xcQ];have:=xbA (show(1:J)<=2^(m+1)from Int.pow_pos mD)<|xdF<|Ym<|m+1;lia
 |m+1,n+1=>by
  have i1:=xaU (BJ m<|n+1) (W:(0:J)<=((m+1:K):J));have i2:=xaU (BJ (m+1) n) (W:(0:J)<=((n+1:K):J));rw[(W:m+(n+1)=m+n+1)]at i1;rw[(W:m+1+n=m+n+1)]at i2;rw[(W:m+1+(n+1)=m+n+1+1)];have e1:fac (m+n+1+1)=((m+1:K):J)*fac (m+n+1)+((n+1:K):J)*fac (m+n+1):=by
   show((m+n+1+1:K):J)*fac (m+n+1)=_;rw[<-Int.add_mul];congr 1;lia
  have a:(2:J)^(m+n+1+1)*(fac (m+1)*fac (n+1))=((m+1:K):J)*(2^(m+n+1)*(fac m*fac (n+1)))+((n+1:K):J)*(2^(m+n+1)*(fac (m+1)*fac n)):=by
   rw[xbP];have f1:fac (m+1)=((m+1:K):J)*fac m:=O;have f2:fac (n+1)=((n+1:K):J)*fac n:=O;rw[f1,f2];generalize((m+1:K):J)=x;generalize((n+1:K):J)=y;generalize(2:J)^(m+n+1)=z;grind
  rw[e1,a];lia
theorem zhE:∀(m n:K),fac m*fac n<=fac (m+n)
 |0,n=>by
  rw[xaJ];show 1*fac n<=fac n;lia
 |m+1,n=>by
  rw[(W:m+1+n=m+n+1)];show((m+1:K):J)*fac m*fac n<=((m+n+1:K):J)*fac (m+n);have h1:=zhE m n;have a:=xaU h1 (W:0<=((m+1:K):J));have b:=xbA (W:((m+1:K):J)<=((m+n+1:K):J))<|xdF<|Ym<|m+n;grind
theorem GR{f g:K->J}:∀{n},(∀k,k<n->f k<=g k)->yu n f<=yu n g
 |0,_=>xfW 0
 |n+1,h=>Int.add_le_add (GR λk a=>h k W)<|h n W
theorem Pf{f:K->J}{j:K}:∀{n},(∀k,k<n->0<=f k)->j<n->f j<=yu n f
 |0,_,h=>wS h<|xbc _
 |n+1,h,b=>by
  have h1:=LB λk (a:k<n)=>h k W;have c:=h n W;show f j<=yu n f+f n;by_cases e:j=n
  ·grind
  ·have:=Pf (λk a=>h k W) (W:j<n);lia
theorem mig{f u v:Pz}{a b:K}(g:Tp u a)(hv:Tp v b)(e:f=u*v)(k:K):(v b*u k)*(v b*u k)<=4^(a+b)*sD f (a+b+1):=by
 have c:=nB f<|a+b+1;by_cases x:k<=a
 ·have h1:=zqz (a:=a) (u:=u) g.2 b (v:=v) hv.2;have j:fac k*fac (a-k)*(u k*u k)<=ip a u u:=Pf (f:=λs=>fac s*fac (a-s)*(u s*u s)) (λs _=>xcx (xcx (xdF<|Ym _)<|xdF<|Ym _)<|YO _) W;have y:ip (b+a) (v*u) (v*u)<=fac (b+a)*sD f (a+b+1):=by
   rw[zk,<-e,xdR b a];unfold ip sD;rw[<-Ze];refine GR λs z=>xbA ?_<|YO _;have:=zhE s<|a+b-s;rwa[(W:s+(a+b-s)=a+b)]at this
  have l:=BJ b a;have h:=BJ k<|a-k;rw[(W:k+(a-k)=a)]at h;have d:=Ym b;have pw:(0:J)<2^(b+a):=Int.pow_pos mD;have m:=Int.mul_pos (Ym k)<|Ym<|a-k;have o:=YO<|v b;generalize fac k*fac (a-k)=X at*
  have g1:=xaU j (show 0<=fac b*(v b*v b)from xcx (xdF d) o);have A:=xbA l c;have p:=xaU h (show 0<=2^(b+a)*fac b from xcx (xdF pw)<|xdF d);have B:=xbA p c;have q:fac b*X*((v b*u k)*(v b*u k))<=fac b*X*(2^(b+a)*2^a*sD f (a+b+1)):=by
   have e1:fac b*X*((v b*u k)*(v b*u k))=fac b*(v b*v b)*(X*(u k*u k)):=by grind
   have r:fac b*X*(2^(b+a)*2^a*sD f (a+b+1))=2^(b+a)*fac b*(2^a*X)*sD f (a+b+1):=by grind
   have C:2^(b+a)*(fac b*fac a)*sD f (a+b+1)=2^(b+a)*fac b*fac a*sD f (a+b+1):=by grind
   rw[e1,r];lia
  have t:=Int.le_of_mul_le_mul_left q<|Int.mul_pos d m;refine Int.le_trans t<|xbA ?_ c;have w:(4:J)^(a+b)=2^(b+a)*2^(a+b):=by rw[(mD:(4:J)=2*2),Int.mul_pow,xdR b a]
  rw[w];refine xaU ?_<|xdF pw;have:=xam (n:=2) mD (W:a<=a+b);have i:∀n:K,((2^n:K):J)=(2:J)^n:=λn=>by simp
  rw[<-i,<-i];lia
 ·rw[g.2 k W,xaA,xaA];exact xcx (Int.pow_nonneg mD) c
end
section
variable{B:(xS Zr×xS Zr->ww (xS Zr))->xS Zr×xS Zr->ww (xS Zr)}{fu ca cb m:wr}{a b:xS Zr}{d p g R q:Pz}
theorem zfN{f:Pz}{M:J}(h:∀k,f k*f k<=M):∀n:K,sD f n<=n*M
 |0=>by show 0<=0*M;lia
 |n+1=>by
  show yu n (λk=>f k*f k)+f n*f n<=_;have h1:yu n (λk=>f k*f k)<=n*M:=zfN h n;grind
theorem znx{x y:K}(h:x*x<y*y):x<y:=by
 refine xak λhn=> ?_;have:=xcf (W:y<=x) (W:y<=x);lia
theorem Mi{f u v:Pz}{n B:K}(c:Tp f n)(fu:Fs u)(j:Fs v)(e:f=u*v)(hn:n<=40)(l:∀k,Bb B<|f k)(k:K):Bb (B+n+4) (u k):=by
 obtain⟨o,nv⟩:=VU c.nz e;obtain⟨a,h⟩:=Tp.ex fu o;obtain⟨b,hc⟩:=Tp.ex j nv;have r:a+b=n:=by
  have:=h.mul hc;rw[<-e]at this;exact this.uniq c
 have h1:=mig h hc e k;have s:∀k,f k*f k<=(2^B:J)*2^B:=λk=>by
  have:=l k;unfold Bb at this;have i:(f k*f k)=(((f k).natAbs*(f k).natAbs:K):J):=by simp_all
  rw[i];have y:=xcf (xdC this)<|xdC this;grind
 have i:=zfN s<|a+b+1;have t:(u k).natAbs<=(v b*u k).natAbs:=by
  rw[xcw];exact xea _ (by have:=hc.1;lia)
 refine xaK t<|znx ?_;have w:((v b*u k).natAbs*(v b*u k).natAbs:K)=(v b*u k*(v b*u k)).natAbs:=(xcw _ _).symm;rw[w];have x:(v b*u k*(v b*u k)).natAbs<=4^(a+b)*((a+b+1)*(2^B*2^B)):=by
  have z:(4:J)^(a+b)*sD f (a+b+1)<=4^(a+b)*(((a+b+1:K):J)*(2^B*2^B)):=xaU W (Int.pow_nonneg mD);have A:(4:J)^(a+b)*(((a+b+1:K):J)*(2^B*2^B))=((4^(a+b)*((a+b+1)*(2^B*2^B)):K):J):=mK
  have:=YO<|v b*u k;lia
 refine xaK x ?_;have e1:(2:K)^(B+n+4)*2^(B+n+4)=4^n*(256*(2^B*2^B)):=by
  rw[(mD:(4:K)=2^2),<-xcg,(mD:(256:K)=2^8),<-xbj,<-xbj,<-xbj,<-xbj];congr 1;lia
 rw[e1];have hd:0<(2:K)^B*2^B:=xdL (xaY mD) (xaY mD);rw[r];exact Nat.mul_lt_mul_of_pos_left (xbO W hd)<|xaY mD
theorem tu{K:wr}(f:xa K a)(h:K+1<=100000)(hl:X a<=1000)(e:3000000<=fu):WX fu a=Z (wK (X a-1)<|dvp<|G a):=by
 unfold WX;have hc:∀k:wr,k<=1000->Bz 1 (k:J):=λk n=>Bz.nat (by rw[Nat.pow_one];lia);rw[U<|BH (g:=λk=>if k<1000 then G a k*(k:J)else 0) W W λj c=> ?_]
 ·have i:min (X a:J) 1=((min (X a) 1:wr):J):=W
  rw[yz,A,i,yI,y8,A];have hd:(zi (X a) λk=>if k<1000 then G a k*(k:J)else 0).drop (min (X a) 1)=zi (X a-1) (dvp<|G a):=by
   refine zeT (by rw[xch,yz,yz];lia) λj c=> ?_;rw[xch,yz]at c;rw[Yq W,UV,xfh,<-UV,Yq W,(W:min (X a) 1+j=j+1),yg];show yG (G a (j+1)*((j+1:wr):J))=yG (((j+1:wr):J)*G a (j+1));grind
  rw[hd,U<|zI (k:=K+1) (XH λj=> ?_) h (by rw[yz];lia) e,yz,C9];unfold dvp;by_cases c:j+1<=1000
  ·rw[xbJ];exact(f.bz _).mul<|hc _ c
  ·rw[yn W,xaA];exact Bz.zero _
 ·unfold Qf;have l:=f.get j;rw[U<|yw ⟨W,W⟩ e,U<|yj (iU.of l W) ((hc j W).ok mD) e,zo,Vn,yg]
def aj:K->K
 |0=>1
 |1=>1
 |n+2=>2*aj (n+1)+aj n
theorem zgm:∀n,aj n<=aj (n+1)
 |0=>So _
 |n+1=>by show _<=2*aj (n+1)+aj n;lia
theorem dP{i:K}:∀d,aj i<=aj (i+d)
 |0=>So _
 |d+1=>xal (dP d)<|zgm _
theorem Sb(j:K):∀t,aj j+(t+1+1)*aj (j+1)<=aj (j+1+(t+1))
 |0=>by show _<=2*aj (j+1)+aj j;lia
 |t+1=>by
  have c:=Sb j t;have h1:aj (j+1+(t+1+1))=2*aj (j+1+(t+1))+aj (j+1+t):=O;grind
theorem BR(f:Fs d)(pd:Pm d):Zd d (G<|y5 a)↔Zd d (G a):=by
 by_cases h:X (yx a)=0
 ·have h1:(G a:Pz)=Q 0:=kW λk=>by rw[Vd h k,zO]
  have i:(G (y5 a):Pz)=Q 0:=kW λk=>by rw[Yh,Vd h k,xem,zO]
  grind
 ·have e:=gM a;constructor
  ·intro c;rw[<-e];exact c.mul _<|Fs.pc _
  ·intro c;rw[<-e]at c;exact Zd.pm f pd (rN h) c
theorem zcF{x y r Q:Pz}{c:J}(i:Fs d)(pd:Pm d)(hc:c≠0)(h:Fs Q)(e:pc c*x=Q*y+r):(Zd d y/\Zd d r)↔(Zd d x/\Zd d y):=by
 constructor
 ·rintro⟨f,z2⟩;refine⟨Zd.pm i pd hc ?_,f⟩;rw[e];exact(f.mul _ h).add z2
 ·rintro⟨f,z2⟩;refine⟨z2,?_⟩;have:r=pc c*x-Q*y:=kW λk=>by
   have:=Ww e k;rw[zP]at this;rw[y7];lia
  rw[this];exact(f.mul _<|Fs.pc c).sub<|z2.mul _ h
theorem SJ{Ps:N M->N M->V (N M×N M×J)}{Pr:N M->V (N M)}(hB:∀R x y,B R (x,y)=if(0:J)<(X y:J)then Y (Ps x y) λt=>Y (Pr t.2.1) λy'=>R (y,y')else Z x)(hk:∀{K:wr}{a:N M},xa K a->K<=9985->X a<=1000->Pr a=Z (y5 a))(hl:∀{bx by_:wr}{x y:N M},yx x=x->yx y=y->X y<=X x->0<X y->X x<=60->(∀j,Bb bx<|G x j)->(∀j,Bb by_<|G y j)->bx+(X x-X y+1)*(by_+1)<=2400000->
 ∃q r c Q,Ps x y=Z (q,r,0)/\yx r=r/\X r<X y/\c≠0/\Fs Q/\(pc c*G x:Pz)=Q*G y+G r/\∀j,Bb (bx+(X x-X y+1)*(by_+1))<|G r j) {C L n bx b_:wr} (ha:yx a=a) (o:Pm (G a)) (u:Po (G a)) (hb:yx b=b) (hm:X b<X a) (hL:X a<=L) (hv:L<=60) (hC:C*aj (L-1)<=639000) (ho:C*aj L<=2400000) (v:bx+1<=C*aj (L-X a)) (e:∀j,Bb bx (G a j)) (f:b_+1<=C*aj (L-X a+1)) (hc:∀j,Bb b_ (G b j)) (hd:X b≠0->Pm (G b)/\Po (G b)) (hn:X b<n):
 ∃x,zg B n (a,b)=Z x/\yx x=x/\Pm (G x)/\Po (G x)/\X x<=L/\xa 37500 x/\∀d,Fs d->Pm d->(Zd d (G x)↔(Zd d (G a)/\Zd d (G b))):=by
 refine zX (λs:N M×N M=>yx s.1=s.1/\Pm (G s.1)/\Po (G s.1)/\yx s.2=s.2/\X s.2<X s.1/\X s.1<=L/\(∃bx,bx+1<=C*aj (L-X s.1)/\∀i,Bb bx<|G s.1 i)/\(∃b_,b_+1<=C*aj (L-X s.1+1)/\∀i,Bb b_<|G s.2 i)/\(X s.2≠0->Pm (G s.2)/\Po (G s.2))/\∀d,Fs d->Pm d->((Zd d (G s.1)/\Zd d (G s.2))↔(Zd d (G a)/\Zd d (G b)))) (λs=>X s.2) _ ?_ n (a,b) ⟨ha,o,u,hb,hm,hL,⟨bx,v,e⟩,⟨b_,f,hc⟩,hd,λ_ _ _=>Iff.rfl⟩ hn;rintro⟨x,y⟩ R ⟨h1,F,H,w,h5,P,⟨bx,v,e⟩,⟨b_,f,hc⟩,hd,A⟩ ih;simp only at h1 F H w h5 P v e f hc hd A;rw[hB];have S:∀{i},i<=L->C*aj i<=2400000:=λ{i} hi=>xal (xaE _ (by
  have:=dP (i:=i)<|L-i;rwa[(W:i+(L-i)=L)]at this)) ho
 by_cases hp:0<X y
 ·obtain⟨t,ht⟩:∃t,X x-X y=t+1:=⟨X x-X y-1,W⟩;have hg:bx+(X x-X y+1)*(b_+1)+1<=C*aj (L-X y+1):=by
   have D:=Sb (L-X x) t;rw[(W:L-X x+1+(t+1)=L-X y+1)]at D;have hq:=xaE C D;rw[xco,xfw]at hq;have hw:=xaE (t+1+1) f;rw[ht];lia
  obtain⟨q,r,c,Q,e1,E,e3,e4,e5,e6,T⟩:=hl h1 w W hp W e hc (by have:=S (i:=L-X y+1) W;lia);have oR:xa 9985 r:=by
   by_cases hr:X r=0
   ·rw[xbE.1 hr];intro z hz;cases hz
   ·rw[<-E];refine xi λj=>(T j).bz ?_;have D:C*aj (L-X y+1)<=C*aj (L-1):=xaE _ (by
     have:=dP (i:=L-X y+1)<|X y-2;rwa[(W:L-X y+1+(X y-2)=L-1)]at this)
    lia
  rw[yg,U e1];simp only;rw[U<|hk oR mD W];have hu:=ZA r;rw[E]at hu;obtain⟨y1,y2⟩:=hd W;refine ih _ ⟨w,y1,y2,qS r,by show(y5 r).length<X y;lia,by show X y<=L;lia,⟨b_,?_,hc⟩,⟨_,hg,λi=> ?_⟩,λ(hn:X (y5 r)≠0)=>VO (by rw[E];show X r≠0;lia),λd l pd=> ?_⟩ (by show(y5 r).length<X y;lia)
  ·refine xal f<|xaE _ ?_;show aj (L-X x+1)<=aj (L-X y);have:=dP (i:=L-X x+1)<|X x-X y-1;rwa[(W:L-X x+1+(X x-X y-1)=L-X y)]at this
  ·show Bb _ (G (y5 r) i);rw[Yh];exact(T i).le<|xbB _ _
  ·rw[<-A d l pd];show(Zd d (G y)/\Zd d (G<|y5 r))↔(Zd d (G x)/\Zd d (G y));rw[BR l pd];exact zcF l pd e4 e5 e6
 ·rw[zD];refine⟨x,O,h1,F,H,P,?_,λd l pd=> ?_⟩
  ·rw[<-h1];exact xi λj=>(e j).bz (by have:=S (i:=L-X x) W;lia)
  ·rw[<-A d l pd];have:Zd d (G y):=⟨pc 0,Fs.pc 0,kW λk=>by rw[yn W,yB,zO]⟩;exact⟨λh=>⟨h,this⟩,λh=>h.1⟩
def GcZ(ca cb c e:K):Prop:=(∃C,ca+1<=C/\cb+1<=C/\C*aj (c-1)<=639000/\C*aj c<=2400000)\/
 (ca<=639000/\(ca+(c-e+1)*(cb+1)+1)*aj (e-1)<=639000/\(ca+(c-e+1)*(cb+1)+1)*aj e<=2400000)
theorem zod{Ps:N M->N M->V (N M×N M×J)}{Pr:N M->V (N M)}(A:∀R x y,B R (x,y)=if(0:J)<(X y:J)then Y (Ps x y) λt=>Y (Pr t.2.1) λy'=>R (y,y')else Z x)(hc:∀{K:wr}{a:N M},xa K a->K<=9985->X a<=1000->Pr a=Z (y5 a))(hd:∀{bx by_:wr}{x y:N M},yx x=x->yx y=y->X y<=X x->0<X y->X x<=60->(∀j,Bb bx<|G x j)->(∀j,Bb by_<|G y j)->bx+(X x-X y+1)*(by_+1)<=2400000->
 ∃q r c Q,Ps x y=Z (q,r,0)/\yx r=r/\X r<X y/\c≠0/\Fs Q/\(pc c*G x:Pz)=Q*G y+G r/\∀j,Bb (bx+(X x-X y+1)*(by_+1))<|G r j) {n:wr} (w:yx a=a) (l:Pm (G a)) (o:Po (G a)) (S:yx b=b) (hi:X b<X a) (he:X a<=60) (D:∀j,Bb ca (G a j)) (bB:∀j,Bb cb (G b j)) (hZ:GcZ ca cb (X a) (X b)) (hn:X b+1<n):
 ∃x,zg B n (a,y5 b)=Z x/\yx x=x/\Pm (G x)/\Po (G x)/\X x<=X a/\xa 37500 x/\∀d,Fs d->Pm d->(Zd d (G x)↔(Zd d (G a)/\Zd d (G b))):=by
 have z:X (y5 b)=X b:=by rw[ZA,S]
 have e:∀j,Bb cb (G (y5 b) j):=λj=>by rw[Yh];exact(bB j).le<|xbB _ _
 have pb:X (y5 b)≠0->Pm (G<|y5 b)/\Po (G<|y5 b):=λh=>VO (by rw[S];lia);have s:∀{x:N M},(∀d,Fs d->Pm d->(Zd d (G x)↔(Zd d (G a)/\Zd d (G<|y5 b))))->∀d,Fs d->Pm d->(Zd d (G x)↔(Zd d (G a)/\Zd d (G b))):=λh d f pd=>by rw[h d f pd,BR f pd]
 rcases hZ with⟨C,h1,h2,h3,h4⟩|h1
 ·obtain⟨x,e1,u,e3,E,F,H,v⟩:=SJ A hc hd (C:=C) (L:=X a) (n:=n) w l o (qS b) W (So _) he h3 h4 (by rw[xcE];show ca+1<=C*1;lia) D (by rw[xcE];show cb+1<=C*1;lia) e pb W;exact⟨x,e1,u,e3,E,F,H,s v⟩
 ·obtain⟨hj,h1,hf⟩:=h1;obtain⟨n,rfl⟩:∃m,n=m+1:=⟨n-1,W⟩;rw[kF,A];by_cases hk:0<X b
  ·obtain⟨T,P⟩:∃T,T=ca+(X a-X b+1)*(cb+1):=⟨_,O⟩;rw[<-P]at h1 hf;have hl:T+1<=(T+1)*aj (X b-1):=xcj _<|xag (mD:0<aj 0) (by have h:=dP (i:=0)<|X b-1;rwa[xaJ]at h);obtain⟨q,r,c,Q,e1,u,e3,E,F,H,v⟩:=hd w (qS b) W W he D e (by rw[z,<-P];lia);rw[z,<-P]at v;have oR:xa 9985 r:=by rw[<-u];exact xi λj=>(v j).bz W
   rw[yg,U e1];simp only;rw[U<|hc oR mD W];have hg:=ZA r;rw[u]at hg;obtain⟨y1,y2⟩:=pb W;obtain⟨x,g1,g2,g3,g4,g5,g6,g7⟩:=SJ A hc hd (C:=T+1) (L:=X b) (n:=n) (qS b) y1 y2 (qS r) W W W h1 hf (bx:=cb) (by
    rw[z,xcE];show cb+1<=(T+1)*1;have:=xaj (cb+1) (W:1<=X a-X b+1);lia) e (b_:=T) (by rw[z,xcE];show T+1<=(T+1)*1;lia) (λj=>by rw[Yh];exact(v j).le (xbB _ _)) (λh=>VO (by rw[u];lia)) W
   refine⟨x,g1,g2,g3,g4,W,g6,s λd f pd=> ?_⟩;rw[g7 d f pd,BR (a:=r) f pd];exact zcF f pd E F H
  ·rw[zD];refine⟨a,O,w,l,o,So _,?_,λd f pd=> ?_⟩
   ·rw[<-w];exact xi λj=>(D j).bz W
   ·have:Zd d (G b):=⟨pc 0,Fs.pc 0,kW λk=>by rw[yn W,yB,zO]⟩;exact⟨λh=>⟨h,this⟩,λh=>h.1⟩
theorem Fv(f:yx a=a)(r:yx b=b)(hc:yD a=1)(y:X b<X a)(z:X a<=60)(s:∀j,Bb ca<|G a j)(t:∀j,Bb cb<|G b j)(A:GcZ ca cb (X a) (X b))(Y:ca<=639000)(hk:cb<=639000)(i:3000000<=fu):
 ∃g,Wi fu a b=Z g/\yx g=g/\Pm (G g)/\Po (G g)/\X g<=X a/\∀d,Fs d->Pm d->(Zd d (G g)↔Zd d (G a)/\Zd d (G b)):=by
 have u:xa 9985 a:=by rw[<-f];exact xi λj=>(s j).bz W
 have o:xa 9985 b:=by rw[<-r];exact xi λj=>(t j).bz W
 have hd:y5 a=a:=BU (qS a) f λk=>by rw[Yh,hc,Int.ediv_one]
 obtain⟨c,e⟩:=VO (a:=a) (by rw[f];lia);rw[hd]at c e;obtain⟨x,C,v,D,E,F,H,L⟩:=zod (B:=oz fu) (Ps:=Yg fu) (Pr:=wc fu) (n:=fu) (λ_ _ _=>O) (λh h1 w=>vR h) (λh1 w M N P Q S T=>sI h1 w M N P Q S T i) f c e r y z s t A W;have b1:=(Bz.one' (k:=1)<|So _);have V:=(C8 o);have hi:wK (X x) (λj=>G x j*1)=x:=by rw[show(λj=>G x j*1)=G x from kW λj=>xcQ _];exact v
 refine⟨x,?_,v,D,E,F,L⟩;unfold Wi;rw[U<|kU u,U<|kU o,hc,U<|Uv (K:=9985) (yN _) (yN _) (xal b1.len mD) V.len mD i,zo,zo,show Int.natAbs 1=1 from O,Nat.gcd_one_left,show((1:wr):J)=1 from O,U<|vR u,U<|vR o,hd,U C,U<|jX (l:=1) H ⟨yN _,b1.len⟩ mD W i,zo];show Z (wK (X x) λj=>G x j*1)=_;rw[hi]
theorem zad(q:Pz):∀n,dvp (pp q<|n+1)=Q ((n+1:K):J)*(pp q n*dvp q)
 |0=>by
  show dvp (Q 1*q)=Q 1*(Q 1*dvp q);rw[zC,zC,zC]
 |n+1=>by
  show dvp (pp q (n+1)*q)=Q _*(pp q n*q*dvp q);rw[K5,zad q n,zd<|Q _,zd<|pp q n,zk (dvp q) q];show _+pp q n*q*dvp q=_;rw[zd<|pp q n];funext k;rw[zP,zU,zU];grind
theorem zjT(hp:Tp p m)(z:Fs g)(A:Fs R)(e:p=R*g)(C:Zd g (dvp p))(c:Ir q)(h:Zd q p):Zd q R:=by
 refine xak λD=> ?_;obtain⟨n,_,hn⟩:=Mu.ex c m hp;obtain⟨S,E⟩:=VU hp.nz e;obtain⟨d,hd⟩:=Tp.ex z E;obtain⟨i,_,hi⟩:=Mu.ex c d hd;have h1:=(Mu.zero A D).mul c hi;rw[<-e,xaJ]at h1;obtain rfl:=h1.uniq c hn;have T:i≠0:=λh0=>by
  subst h0;obtain⟨u,fu,f,l⟩:=hn;rw[show pp q 0=Q 1 from O,yp]at f;simp_all
 obtain⟨j,rfl⟩:∃j,i=j+1:=⟨i-1,W⟩;obtain⟨u,fu,f,l⟩:=hn;obtain⟨v,F,G,_⟩:=hi;have o:Zd (pp q<|j+1) (dvp p):=Zd.trans ⟨v,F,G⟩ C;rw[f,K5]at o;have r:Zd (pp q<|j+1) (u*dvp (pp q<|j+1)):=by
  have:u*dvp (pp q<|j+1)=(dvp u*pp q (j+1)+u*dvp (pp q<|j+1))-dvp u*pp q (j+1):=kW λk=>by simp only[zP,y7];lia
  rw[this];exact o.sub ⟨dvp u,fu.dvp,O⟩
 rw[zad]at r;obtain⟨w,s,H⟩:=r;have L:w*q=u*(Q ((j+1:K):J)*dvp q):=by
  refine Dm (s.mul c.fs) (fu.mul<|(Fs.pc _).mul c.fs.dvp) (c.fs.pp j) (c.pm.pp j).nz ?_;have M:w*pp q (j+1)=w*q*pp q j:=by
   show w*(pp q j*q)=_;rw[zd,zk (pp q j) q]
  rw[<-M,<-H,zd u,zd<|Q _,zk (dvp q)<|pp q j]
 rcases c.prime fu ((Fs.pc _).mul c.fs.dvp) ⟨w,s,L.symm⟩with h5|h5
 ·exact l h5
 ·obtain⟨t,ht⟩:=Tp.ex c.fs c.pm.nz;have U:t≠0:=λh0=>c.dg<|(nQ.tp ht).2 h0;obtain⟨N,hc,P⟩:=MO (n:=0) ht h5 λk V=>by
   rw[zU];show _*(((k+1:K):J)*q (k+1))=0;rw[ht.2 _ W,xaA,xaA]
  have x:=Ww hc<|t-1;rw[wV N,yZ λi _=>by rw[P i W,xba],zU]at x;have y:((j+1:K):J)*(((t-1+1:K):J)*q (t-1+1))=0:=x;rw[(W:t-1+1=t)]at y;obtain h8|h8:=xeQ.1 y
  ·lia
  ·obtain h9|h9:=xeQ.1 h8
   ·lia
   ·exact ht.1 h9
theorem zms(hp:Tp p m)(o:Fs g)(x:Fs R)(e:p=R*g)(r:∀d,Fs d->Pm d->Zd d p->Zd d (dvp p)->Zd d g)(c:Ir q):¬Zd (q*q) R:=λ⟨z,f,i⟩=>by
 obtain⟨n,_,u,fu,e1,j⟩:=Mu.ex c m hp
 cases n with
 |zero=>
  refine j ⟨z*q*g,(f.mul c.fs).mul o,?_⟩;have s:u=p:=by rw[e1];exact(yp u).symm
  rw[s,e,i];simp only[zk,zE]
 |succ k=>
  have t:=c.fs.pp k;have h:pp q (k+1)=q*pp q k:=zk _ _;obtain⟨w,l,v⟩:=r (pp q k) t (c.pm.pp k) ⟨u*q,fu.mul c.fs,by rw[e1,h,zd]⟩ (by
   rw[e1,K5,zad];refine Zd.add ⟨dvp u*q,fu.dvp.mul c.fs,by rw[h,zd]⟩ ⟨u*(Q ((k+1:K):J)*dvp q),fu.mul<|(Fs.pc _).mul c.fs.dvp,?_⟩;simp only[zk,zE])
  refine j ⟨z*w,f.mul l,?_⟩;refine Dm fu ((f.mul l).mul c.fs) (c.fs.pp<|k+1) (c.pm.pp<|k+1).nz ?_;rw[<-e1,e,i,v,h];simp only[zk,zE]
end
noncomputable def zev(fu:K)(a:N M)(fs:N (N J))(p:J):J:=
 if qp p=wL then(if 65<(yx a).length then 6 else if vB fu (yx a) fs p=Z wL then 0 else 1)else 1
theorem zfB{fu:K}{p k:J}{a:N M}{fs:N (N J)}{us:N (N M)}{e:J}(f:xa 250 a)(hi:X a<=1000)(h1:1<=k)(i:k<=1000)(j:3000200<=fu)(h:jo fu a fs p k=Z (us,e)):e=zev fu a fs p:=by
 unfold jo at h;unfold zev;rw[U<|uH W]at h;simp only at h;rw[U (zI f mD W W),show wK (X a) (G a)=yx a from O]at h;by_cases hp:qp p=wL
 ·have hc:ri p k=(yG<|p^k.toNat,0):=by
   unfold ri;simp_all
  rw[hc]at h;rw[S hp];simp only[uS]at h;by_cases g:65<X (yx a)
  ·grind
  ·rw[zD]at h;rw[ir g]
   cases c:vB fu (yx a) fs p with
   |none=>rw[c]at h;cases h
   |some b=>
    rw[c]at h;change(if(!b)=wL then _ else _)=_ at h
    cases b with
    |false=>
     rw[S mD]at h;rw[ir mK];simp only[xau,xcL]at h;exact h.2.symm
    |true=>
     rw[ir mD]at h;rw[S O];split at h
     ·simp only[xau,xcL]at h;exact h.2.symm
     ·cases hd:xq fu (yx a) (yG<|p^k.toNat)with
      |none=>rw[hd]at h;cases h
      |some t=>
       rw[hd]at h;change Y (qh fu t fs p k<|yG<|p^k.toNat) _=_ at h
       cases d:qh fu t fs p k (yG<|p^k.toNat)with
       |none=>rw[d]at h;cases h
       |some t3=>
        rw[d]at h;change Z (t3,(0:J))=_ at h;simp only[xau,xcL]at h;exact h.2.symm
 ·have hc:ri p k=((I,[]),1):=by
   unfold ri;rw[ir<|λh=>hp h.1]
  rw[hc]at h;rw[ir hp];simp only[Int.reduceEq,uP,xau,xcL]at h;exact h.2.symm
section
variable{fu:wr}{p:wn}{a:xS Zr}
def zlL(p:J)(n:K)(fs:N (N J)):Prop:=(∀t,t<X fs->X (fs.getD t [])<=n/\SO p (fs.getD t []))/\∀t j,t<X fs->j<t->kn p (C<|fs.getD t []) (C<|fs.getD j [])
theorem L9{i:K}{f:N J}{fs:N (N J)}(hp:qp p=wL)(hd:Fp p f)(g:X f<=290)(hi:i<=X fs)(y:i<=1000000)(k:∀j,j<i->Fp p (fs.getD j [])/\X (fs.getD j [])<=290)(l:3000000<=fu):
 ∃r,zg (jV fu p f<|fs.take i) fu 0=Z r/\((r=.inl ()/\∀j,j<i->kn p (C f) (C<|fs.getD j []))\/(r=.inr ()/\¬∀j,j<i->kn p (C f) (C<|fs.getD j []))):=by
 obtain⟨m,z⟩:=zw hp;have hl:X (fs.take i)=i:=by rw[xar];lia
 have n:∀j,j<i->(fs.take i).getD j []=fs.getD j []:=λj b=>by rw[UV,xbD,S b,<-UV]
 refine zX (λx:J=>∃j:K,x=(j:J)/\j<=i/\∀t,t<j->kn p (C f) (C<|fs.getD t [])) (λx=>i-x.toNat) _ ?_ _ _ ⟨0,O,xae _,λt h=>wS h<|xbc _⟩ (by show i-0<fu;lia);rintro x L ⟨j,rfl,b,c⟩ o;unfold jV;by_cases h1:j<i
 ·obtain⟨k1,k2⟩:=k j h1;obtain⟨d,s,t,q,u,v⟩:=Jv (fu:=fu) hp hd k1 g k2 l;have hc:=zbr m u v;rw[yg,yo,A,n j h1,U q];simp only;by_cases e:X d=1
  ·rw[yg,zb];refine o _ ⟨j+1,O,W,λt ht=> ?_⟩ W;by_cases w:t=j
   ·rw[w];exact hc.1 e
   ·exact c t W
  ·rw[zD];exact⟨_,O,.inr ⟨O,λh=>e<|hc.2<|h j h1⟩⟩
 ·rw[zD];exact⟨_,O,.inl ⟨O,λt ht=>c t W⟩⟩
theorem zap{fs:N (N J)}(hp:qp p=wL)(e:X a<=66)(h0:X a≠0)(hl:X (q9 p a)=X a)(g1:∀t,t<X fs->X (fs.getD t [])<=X a/\SO p (fs.getD t [])):
 (∀f∈fs,Fp p f)/\(∀f∈fs,X f<=66)/\(q9 p a).drop (X a-1)=[C (q9 p a)<|X a-1]/\Fp p [C (q9 p a)<|X a-1]:=by
 obtain⟨g,i⟩:=zw hp;have c:∀{q:N J->Prop},(∀t,t<X fs->q (fs.getD t []))->∀f∈fs,q f:=λ{q} h f d=>by
  obtain⟨j,k,rfl⟩:=xcq.1 d;simp_all
 have b:=Jl (p:=p) W a;have hd:C (q9 p a) (X a-1)≠0:=by
  obtain h|h:=b.nl
  ·lia
  ·simp_all
 have l:=b.nn<|X a-1;have hc:=b.lt<|X a-1;refine⟨c λt ht=>(g1 t ht).2.fp W,c λt ht=>by have:=(g1 t ht).1;lia,?_,Qe W hc⟩;rw[xbV W,xbR W];unfold C;rw[UV,xab W];rfl
theorem nM{k:K}{fs:N (N J)}(hp:qp p=wL)(s:xa k a)(u:k<=40000)(v:X a<=66)(g:3000000<=fu):
 ∃b,vB fu a fs p=Z b/\(b=wL↔eJ p a fs):=by
 obtain⟨E,w⟩:=zw hp;unfold vB;rw[U<|uZ s u W w];simp only;by_cases h0:X a=0
 ·rw[yg];exact⟨_,O,λe=>wS e mD,λe=>wS h0 e.a0⟩
 ·rw[zD];by_cases hl:X (q9 p a)=X a
  ·rw[yg];by_cases F:X a<X fs
   ·rw[yg];exact⟨_,O,λe=>wS e mD,λe=>by have:=e.fl;lia⟩
   ·rw[zD]
    obtain⟨r,e1,m⟩:=zX (f:=jI fu a fs p) (λx:J×N J=>∃i:K,x=((i:J),q9 p a)/\i<=X fs/\(∀t,t<i->X (fs.getD t [])<=X a/\SO p (fs.getD t []))/\∀t j,t<i->j<t->kn p (C<|fs.getD t []) (C<|fs.getD j [])) (λx=>X fs-x.1.toNat)
     (λr=>(r=.inr ()/\¬zlL p (X a) fs)\/(r=.inl (q9 p a)/\zlL p (X a) fs)) (by
      rintro x L ⟨i,rfl,hi,g1,d⟩ y;unfold jI;simp only;by_cases h1:i<X fs
      ·rw[yg,U O];simp only[uS];rw[zn h1,A];by_cases G:X a<X (fs.getD i [])
       ·rw[yg];exact⟨_,O,.inl ⟨O,λh=>by have:=(h.1 i h1).1;lia⟩⟩
       ·obtain⟨b,b1,b2⟩:=K6 (fu:=fu) (l:=fs.getD i []) (p:=p) W g;rw[zD,U b1]
        cases b with
        |false=>
         rw[S mD];exact⟨_,O,.inl ⟨O,λh=>wS (b2.2 (h.1 i h1).2) mD⟩⟩
        |true=>
         have hc:=b2.1 O;rw[ir mD,yI,y8,A];obtain⟨q,q1,q2⟩:=L9 (fu:=fu) (i:=i) (fs:=fs) hp (hc.fp W) W W W (λj c=>⟨(g1 j c).2.fp W,by have:=(g1 j c).1;lia⟩) g;rw[U q1];rcases q2 with⟨rfl,q2⟩|⟨rfl,q2⟩
         ·simp only;rw[zb];refine y _ ⟨i+1,O,W,λt ht=> ?_,λt j ht c=> ?_⟩ (by show X fs-((i:J)+1).toNat<X fs-(i:J).toNat;lia)
          ·by_cases n:t=i
           ·rw[n];exact⟨W,hc⟩
           ·exact g1 t W
          ·by_cases n:t=i
           ·rw[n]at c⊢;exact q2 j c
           ·exact d t j W c
         ·exact⟨_,O,.inl ⟨O,λh=>q2 λj c=>h.2 i j h1 c⟩⟩
      ·rw[zD,U O];simp only[xai,uP];exact⟨_,O,.inr ⟨O,λt ht=>g1 t W,λt j ht c=>d t j W c⟩⟩) fu (0,q9 p a) ⟨0,O,xae _,λt h=>wS h (xbc _),λt j h=>wS h (xbc _)⟩ (by show X fs-0<fu;lia)
    rw[U e1];rcases m with⟨rfl,m⟩|⟨rfl,g1,d⟩
    ·exact⟨_,O,λe=>wS e mD,λe=>wS ⟨e.pl,e.cp⟩ m⟩
    ·simp only;obtain⟨hn,o,hd,z⟩:=zap hp v h0 hl g1;have H:X fs*66<=66*66:=xaj _ W;have hc:=fG (p:=p) o;have B:=Jl (p:=p) W a;have D:=jF p (QH p fs) [C (q9 p a)<|X a-1];simp only[xaw,xbT]at D;rw[U (jD hp hn o W mD),hl,(W:(X a:J)-1=((X a-1:K):J)),zb,yI,y8,A,hd,U<|u5 hp (db W fs) z W mK];simp only;rw[U<|K7 hp (jc W _ _) B W W g];exact⟨_,O,λe=>⟨h0,hl,W,g1,d,Wr e⟩,λe=>Wd e.pr⟩
  ·rw[zD];exact⟨_,O,λe=>wS e mD,λe=>wS e.al hl⟩
end
section
variable{a R:xS Zr}{B B1 fu K:wr}{q p:wn}{ds:xS wn}
theorem BO(h:Gr a=0):1<=X (yx a)/\X (yx a)<=65:=by grind [Gr]
theorem zbR:qp 2=wL:=zhT ⟨mD,mD,λd h1 b=>by
 have:=xcf h1 h1;lia⟩
theorem zdH(hc:yx a=a)(hp:Pm (G a))(b:Po (G a)):yD a=1:=by
 obtain⟨n,hn,hd⟩:=b.tp;have c:=λe=>hn.1<|Vd e n;have h1:=(X9 c).uniq hn;have f:=hp _<|si λk d=>yn d;have a3:yD a=if G (yx a) (X (yx a)-1)<0 then-((WC (G a) (X (yx a)):wr):J)else((WC (G a) (X (yx a)):wr):J):=O;grind
theorem Po.left{u v:Pz}(fu:Fs u)(h:Po (u*v))(hv:Po v):Po u:=by
 obtain⟨m,d,hp⟩:=h.tp;obtain⟨b,e,f⟩:=hv.tp;obtain⟨g,_⟩:=VU d.nz O;obtain⟨a,c⟩:=Tp.ex fu g;obtain rfl:=(c.mul e).uniq d;rw[K8 c.2 e.2]at hp;exact⟨a,Int.pos_of_mul_pos_left hp f,c.2⟩
structure Rad(a R:N M):Prop where
 can:yx R=R
 pm:Pm (G R)
 ps:Po (G R)
 dv:∃g:Pz,Fs g/\G (y5 a)=G R*g
 al:∀q,Ir q->Zd q (G a)->Zd q (G R)
 ln:R.length<=(yx a).length
 sf:∀q,Ir q->¬Zd (q*q) (G R)
structure zoD(a g R:N M):Prop where
 rad:Rad a R
 gc:yx g=g
 gp:Pm (G g)
 go:Po (G g)
 gd:∀d,Fs d->Pm d->(Zd d (G g)↔Zd d (G<|y5 a)/\Zd d (dvp<|G<|y5 a))
 eq:(G (y5 a):Pz)=G R*G g
theorem zll{Gc:N M->N M->V (N M)}{Dv:N M->N M->V (N M×J)}(hl:X a<=40)(h0:Gr a=0)(H:∀j,Bb B<|G a j)(m:∀j,Bb B1<|G a<|j+1)(hB:B<=6000)(L:∀{x y:N M},yx x=x->yx y=y->yD x=1->X y+1=X x->X x=X (yx a)->(∀j,Bb B<|G x j)->(∀j,Bb (B1+6)<|G y j)->∃g,Gc x y=Z g/\yx g=g/\Pm (G g)/\Po (G g)/\X g<=X x/\∀d,Fs d->Pm d->(Zd d (G g)↔Zd d (G x)/\Zd d (G y)))(P:∀{x y:N M},xa 94 x->xa 97 y->X x<=40->X y<=40->X (yx y)≠0->∃q e,Dv x y=Z (q,e)/\(e=0↔Zd (G y) (G x))/\(e=0->(G x:Pz)=G q*G y/\yx q=q/\X q<=X x)):
 ∃g R,Gc (y5 a) (wK (X (y5 a)-1)<|dvp<|G<|y5 a)=Z g/\Dv (y5 a) g=Z (R,0)/\zoD a g R/\∀j,Bb (B+X (yx a)+4) (G R j):=by
 have hv:=BO h0;have hy:=ZC a;obtain⟨p,hp⟩:∃p,p=y5 a:=⟨_,O⟩;have f:yx p=p:=by rw[hp];exact qS a
 have hi:X p=X (yx a):=by rw[hp];exact ZA a
 obtain⟨n,o⟩:=VO (a:=a) W;have v:=λq h1 z=>(BR (a:=a) (d:=q) h1 z).2;rw[<-hp]at n o v⊢;have Q:X (yx p)≠0:=by rw[f];lia
 have tp:=X9 Q;rw[f]at tp;have A:∀{b:wr}{j},Bb b (G a j)->Bb b (G p j):=λh=>by
  rw[hp,Yh];exact h.le<|xbB _ _
 have l:∀j,Bb B (G p j):=λj=>A<|H j;have oP:xa 94 p:=by rw[<-f];exact xi λj=>(l j).bz W
 have hn:=zdH f n o;obtain⟨d,hd⟩:∃d,d=wK (X p-1) (dvp<|G p):=⟨_,O⟩;have hc:(G d:Pz)=dvp (G p):=kW λk=>by
  rw[hd];exact jO (λk hk=>by unfold dvp;rw[yn W,xaA]) k
 have S:yx d=d:=by rw[hd];exact(QY _ _).symm
 have T:X d+1=X p:=by
  rw[hd,xC];by_cases h1:X p=1
  ·rw[h1];rfl
  ·have:dg (dvp<|G p) (X p-1)=X p-1:=K1 (So _) (λk h1 z=>by lia) (.inr (by
    show((X p-1-1+1:wr):J)*G p (X p-1-1+1)≠0;rw[(W:X p-1-1+1=X p-1)];exact xdH W tp.1))
   lia
 have U:∀j,Bb (B1+6) (G d j):=λj=>by
  rw[hc];show Bb _ (((j+1:wr):J)*G p (j+1));by_cases r:j+1<64
  ·rw[xbJ];exact(A<|m j).mul (show((j+1:wr):J).natAbs<2^6 by rw[xaG];exact r)
  ·rw[yn W,xaA];exact Bb.zero _
 obtain⟨g,g1,C,s,D,g5,t⟩:=L f S hn T hi l U;obtain⟨Y,z2⟩:=(t _ (Fs.cf g) s).1<|Zd.refl _;have ht:X (yx g)≠0:=λe=>by
  obtain⟨j,r⟩:=s.nz;exact r<|Vd e j
 obtain⟨w,E,F⟩:=Y;have bG:∀j,Bb (B+X (yx a)+4) (G g j):=λj=>(Mi tp (Fs.cf g) E (by rw[F,zk]) W l j).mono W;have oG:xa 97 g:=by rw[<-C];exact xi λj=>(bG j).bz W
 obtain⟨R,e,r1,r2,r3⟩:=P oP oG W W ht;have he:e=0:=r2.2 ⟨w,E,F⟩;subst he;obtain⟨c,r5,r6⟩:=r3 O;have hu:Pm (G R):=(c▸n:Pm (G R*G g:Pz)).left;refine⟨g,R,by rw[<-hd];exact g1,r1,⟨⟨r5,hu,Po.left (Fs.cf R) (c▸o:Po (G R*G g:Pz)) D,⟨G g,Fs.cf g,by rw[<-hp];exact c⟩,λq i hz=> ?_,W,λq i=>zms tp (Fs.cf g) (Fs.cf R) c (λd u pd y1 y2=>(t d u pd).2 ⟨y1,by rw[hc];exact y2⟩) i⟩,C,s,D,λd u pd=>by rw[<-hp,t d u pd,hc],by rw[<-hp];exact c⟩,λj=>(Mi tp (Fs.cf R) (Fs.cf g) c W l j).mono W⟩;exact zjT tp (Fs.cf g) (Fs.cf R) c (by rw[<-hc];exact z2) i<|v q i.fs i.pm hz
theorem ze2(o:xa K a)(r:K<=100)(hl:X a<=40)(h0:Gr a=0)(h:∀j,Bb B<|G a j)(b:∀j,Bb B1<|G a<|j+1)(i:B<=6000)(hc:B1<=6000)(k:GcZ B (B1+6) (X (yx a)) (X (yx a)-1))(e:3000000<=fu):
 ∃g R,Wi fu (y5 a) (wK (X (y5 a)-1)<|dvp<|G<|y5 a)=Z g/\wA fu (y5 a) g=Z (R,0)/\zoD a g R/\∀j,Bb (B+X (yx a)+4) (G R j):=by
 have hd:=ZC a
 exact zll (Gc:=Wi fu) (Dv:=wA fu) hl h0 h b i (λ{x y} g1 c f l d m n=>Fv g1 c f W W m n (by rw[(W:X y=X (yx a)-1),d];exact k) W W e)
  (λ{x y} g1 c f l d=>JD g1 c (by have:=xaj (97+1) (W:X x+1<=41);lia) W W d e)
theorem ni(b:xa K a)(e:K<=100)(hl:X a<=40)(h0:Gr a=0)(f:∀j,Bb B<|G a j)(c:∀j,Bb B1<|G a<|j+1)(h:B<=6000)(hc:B1<=6000)(i:GcZ B (B1+6) (X (yx a)) (X (yx a)-1))(d:3000000<=fu):
 ∃g R,qA fu a=Z (R,0)/\zoD a g R/\∀j,Bb (B+X (yx a)+4) (G R j):=by
 have hd:=ZC a;have n:=ZA a;obtain⟨g,R,h1,k,l,m⟩:=ze2 b e hl h0 f c h hc i d;refine⟨g,R,?_,l,m⟩;unfold qA;rw[U<|cL b W W d,S h0,U<|vR b,U<|tu (E9 b) W W d,U h1];unfold sY;rw[U (v:=R)<|by rw[U k]]
theorem rP(d:xa K a)(e:K<=100)(hl:X a<=40)(h0:Gr a=0)(b:∀j,Bb B<|G a j)(c:B<=6000)(f:(B+7)*aj (X (yx a)-1)<=639000)(hc:(B+7)*aj (X (yx a))<=2400000)(h:3000000<=fu):
 ∃R,qA fu a=Z (R,0)/\Rad a R/\∀j,Bb (B+X (yx a)+4) (G R j):=by
 obtain⟨g,R,h1,i,k⟩:=ni (fu:=fu) d e hl h0 b (λj=>b<|j+1) c c (.inl ⟨B+7,W,W,f,hc⟩) h;exact⟨R,h1,i.rad,k⟩
theorem zaL:qp 65521=wL:=zhT ⟨mD,mD,λd h1 e=>by
 have c:d<256:=by
  refine xak λhn=> ?_;have:=xcf (W:256<=d) (W:256<=d);lia
 have b:∀d:wr,d<256->2<=d->65521%d≠0:=by decide+kernel
 exact b d c h1⟩
theorem Af(h:65521<=q):wO fu q=Z (0,5):=by
 unfold wO;simp_all
theorem cG(h1:1<=q)(h:q<65521)(j:3000000<=fu):∃r,wO fu q=Z (r,0)/\qp r=wL/\q<r/\∀s,q<s->s<r->qp s=I:=by
 unfold wO;obtain⟨r,c,r1,r2,k⟩:=zX (f:=Ka fu) (λi:J=>q<i/\i<=65521/\∀s,q<s->s<i->qp s=I) (λi=>(65521-i).toNat) (λr=>qp r=wL/\q<r/\∀s,q<s->s<r->qp s=I) (by
  rintro i L ⟨i1,i2,b⟩ d;unfold Ka;rw[U<|WM W]
  cases hp:qp i with
  |true=>rw[ir mD];exact⟨_,O,hp,i1,b⟩
  |false=>
   have l:i≠65521:=λe=>by rw[e,zaL]at hp;cases hp
   rw[S mD,zb];refine d _ ⟨W,W,λs h1 g=> ?_⟩ W;by_cases e:s=i
   ·simp_all
   ·exact b s h1 W) fu (q+1) ⟨W,W,λs h1 g=>by lia⟩ W
 rw[zD,A,(W:max q 1=q),zb,U c];simp_all
def XZ(R:N M)(p:J):Prop:=qp p=wL/\G R (X R-1)%p≠0/\kn p (G R) (dvp<|G R)
theorem H5{x:J}{f g:Pz}(h:Cg p g (Q x*f))(hc:kn p g (dvp g)):kn p f (dvp f):=by
 have h1:Cg p (dvp g) (Q x*dvp f):=(zh0 h).trans (Cg.of (by
  rw[K5,zoz];funext k;rw[zP,yB,zO,xcI]))
 obtain⟨s,t,fs,b,e⟩:=hc.congr h h1;refine⟨s*Q x,t*Q x,fs.mul<|Fs.pc x,b.mul<|Fs.pc x,?_⟩;rw[zd,zd];exact e
theorem sn(hp:0<p:=by lia)(b:0<X R:=by lia):X (q9 p R)=X R↔G R (X R-1)%p≠0:=by
 have hn:=(Jl hp R).nl;constructor
 ·intro h;obtain h1|h1:=hn
  ·lia
  ·rw[h,Ku]at h1;exact h1
 ·intro h;have:=zjK p R;by_cases e:X (q9 p R)=X R
  ·exact e
  ·exfalso;rw[<-Ku,yA W]at h;lia
theorem zma(hp:qp p=wL)(s:0<X R)(hl:X R<=65)(t:X (q9 p R)=X R)(e:3000000<=fu:=by lia):
 ∃m b,zhd p (q9 p R) m/\vv p m/\YX fu (q9 p R) p=Z (b,0)/\(b=wL↔kn p (C m) (dvp<|C m))/\uw fu (q9 p R) p=if b=wL then Z (m,0)else Z ([],1):=by
 obtain⟨g,v⟩:=zw hp;have f:=Jl (p:=p) W R;obtain⟨m,b,h1,c,h,i,j⟩:=Ah (fu:=fu) hp f W W e;refine⟨m,b,h1,c,?_,i,j⟩;have hd:=h1.ln;obtain⟨x,x0,w,l,e1⟩:=Wz (fu:=fu) hp f W W e;obtain⟨z,c1,c2,A⟩:=rZ (fu:=fu) hp c W e;have d:=RP g f W l;have n:xE p (q9 p R) [x]=m:=by
  obtain⟨_,y,_,o⟩:=d.cg;obtain⟨u,_,r,_⟩:=h1.cg;have hc:Cg p (C m) (Q (u*y)*C (xE p (q9 p R) [x])):=by
   rw[<-jx,zd];exact r.trans<|Cg.rfl.mul o
  have t1:=hc<|X m-1;have t2:=d.top;have t3:=d.ln;rw[c.top,zU,(W:X m-1=X (xE p (q9 p R) [x])-1),t2,xcQ]at t1;refine(c.fm.ext d.fm<|hc.trans ?_).symm;refine(Cg.mul (f':=Q 1) (λk=> ?_) Cg.rfl).trans<|Cg.of<|zC _;unfold Q;split
  ·exact t1.symm
  ·rfl
 rw[n]at e1;rw[<-h];unfold YX Q0;rw[U e1,U c1]
theorem PY{m:N J}(h:zhd p (q9 p R) m):kn p (C m) (dvp<|C m)↔kn p (G R) (dvp<|G R):=by
 obtain⟨x,y,b,c⟩:=h.cg;exact⟨λhc=>H5 (b.trans<|Cg.rfl.mul<|iK p R) hc,λhc=>H5 ((iK p R).symm.trans c) hc⟩
theorem BE(f:yx R=R)(c:xa K R)(h:K<=300)(h0:Gr R=0)(g:3000000<=fu):∃b,QM fu R p=Z (b,0)/\(b=wL↔XZ R p):=by
 have i:=BO h0;rw[f]at i;unfold QM;obtain⟨y,j,_⟩:=cj (fu:=fu) c h W g;rw[U j,h0];simp only[uS];rw[U<|WM W]
 cases hp:qp p with
 |false=>
  rw[S mD];exact⟨_,O,λe=>wS e mD,λe=>by rw[e.1]at hp;cases hp⟩
 |true=>
  obtain⟨o,k⟩:=zw hp;rw[ir mD,U<|uZ c W W k];simp only;rw[U<|zI c W W g,show wK (X R) (G R)=R from f];by_cases d:X (q9 p R)=X R
  ·obtain⟨m,b,h1,r,l,n,_⟩:=zma (fu:=fu) hp W W d;rw[yg,U l];refine⟨b,O,?_⟩;rw[n,PY h1];exact⟨λhc=>⟨hp,(sn).1 d,hc⟩,λhc=>hc.2.2⟩
  ·rw[zD];exact⟨_,O,λe=>wS e mD,λe=>wS ((sn).2 e.2.1) d⟩
structure zgE(R:N M)(p:J)(l:N (N J)):Prop where
 el:∀g∈l,Qy p g/\SO p g/\g.length<=66
 pw:l.Pairwise λa b=>kn p (C a)<|C b
 cg:Cg p (G R) (Q (G R<|R.length-1)*prZ (l.map C))
 ln:l.length<=R.length-1
theorem Pk{p:J}:∀{l:N (N J)},(∀g∈l,vv p g/\1<X g)->∃d,Mn (prZ<|l.map C) d/\X l<=d
 |[],_=>⟨0,⟨O,λk c=>by show Q 1 k=0;unfold Q;rw[zD]⟩,So _⟩
 |g::l,h=>by
  obtain⟨h1,e⟩:=h g<|IR;obtain⟨d,hd,hl⟩:=Pk λx b=>h x<|FS _ b;exact⟨_,zlI h1.mn hd,by rw[xaw];lia⟩
theorem zdT(c:XZ R p)(L:1<X R)(hl:X R<=13)(hd:Rl ds)(w:X ds<=1000)(z:3000001<=fu):∃l,XG fu (q9 p R) p ds=Z (l,0)/\zgE R p l:=by
 obtain⟨hp,ht,hc⟩:=c;obtain⟨r,M⟩:=zw hp;obtain⟨P,rfl⟩:=xaC (W:0<=p);have A:=(sn (p:=(P:J))).2 ht;obtain⟨m,b,h1,f,N,D,s⟩:=zma (fu:=fu) hp W W A;have i:=(PY h1).2 hc;rw[S<|D.2 i]at s;obtain⟨l,us,e1,T,e,h⟩:=Bx (fu:=fu) (b:=b) hp (Jl W R) W W hd w z h1 f s i;have U:=h1.ln;have hi:∀g∈l,X g<=66:=λg c=>by
  obtain⟨q,fq,E⟩:=e.dv c;have:=gV r f (e.mn g c).1 fq E;lia
 refine⟨l,e1,λg c=>⟨h g c,⟨λj _=>⟨(e.mn g c).1.fm.nn j,(e.mn g c).1.fm.lt j⟩,(e.mn g c).2,(e.mn g c).1.top⟩,hi g c⟩,?_,?_,?_⟩
 ·refine xdr.2 λ{a b} n=> ?_;have o:a∈l:=n.subset mK;have u:b∈l:=n.subset mK;refine(h a o).cop hp (h b u) (by have:=hi a o;lia) (by have:=hi b u;lia) λhn=> ?_;subst hn;have:=pW (p:=(P:J)) (n.map C) bC;refine kn.sq r (h a o) i<|Di.cg ?_ e.pr.symm;refine Di.trans ⟨Q 1,Fs.pc 1,Cg.of ?_⟩ this;show C a*(C a*Q 1)=_;rw[yp,zC]
 ·obtain⟨x,y,V,F⟩:=h1.cg;have v:=(iK (P:J) R).symm.trans F;have t:=v<|X R-1;rw[zU,(W:X R-1=X m-1),f.top,xcQ,(W:X m-1=X R-1)]at t;refine v.trans<|Cg.mul (λk=> ?_) e.pr;unfold Q;split
  ·exact t.symm
  ·rfl
 ·obtain⟨d,hd,Y⟩:=Pk e.mn;have G:=f.mn;have H:(1:J)%(P:J)=1:=xaH mD W;have t1:=e.pr d;rw[hd.1,H]at t1;by_cases hv:d<=X m-1
  ·lia
  ·rw[G.2 d W,xap]at t1;cases t1
theorem A7(F:yx R=R)(A:xa K R)(G:K<=300)(h0:Gr R=0)(H:1<X R)(hl:X R<=13)(hd:Rl ds)(hp:X ds<=1000)(M:3000001<=fu):
 ∃p l,QK fu R ds=Z (p,l)/\((p=0/\∀q,¬XZ R q)\/(XZ R p/\zgE R p l)):=by
 have hi:∀{q r:J},(∀s,s<=q->¬XZ R s)->(∀s,q<s->s<r->qp s=I)->∀s,s<r->¬XZ R s:=λ{q r} h1 x s u d=>by
  by_cases h:s<=q
  ·simp_all
  ·have:=x s W u;rw[d.1]at this;grind
 have P:∀{q:J},65521<=q->(∀s,s<=q->¬XZ R s)->∀s,¬XZ R s:=λ{q} v h s d=>by
  have:=(zw d.1).2;exact h s W d
 obtain⟨s,u,p,l,rfl,Q⟩:=zX (f:=J1 fu R ds) (λs:J×J×N (N J)×J×J=>(s.2.2.2.2=0->qp s.2.2.2.1=wL)/\0<=s.2.1/\((s.1=0/\s.2.1=0/\(s.2.2.2.2=0->∀q,q<s.2.2.2.1->¬XZ R q)/\(s.2.2.2.2≠0->∀q,¬XZ R q))\/(XZ R s.1/\zgE R s.1 s.2.2.1))) (λs=>if s.2.2.2.2=0 then(65522-s.2.2.2.1).toNat else 0)
  (λr=>∃p l,r=(p,l)/\((p=0/\∀q,¬XZ R q)\/(XZ R p/\zgE R p l))) (by
  rintro⟨b,n,out,q,e⟩ L ⟨i1,i2,k⟩ m
  simp only at i1 i2 k m
  unfold J1
  simp only
  by_cases g:e=0
  ·have v:=i1 g
   obtain⟨q1,q2⟩:=zw v
   rw[S g]
   by_cases hn:n<5
   ·obtain⟨c,c1,c2⟩:=BE (fu:=fu) (p:=q) F A G h0 W
    rw[S hn,U c1]
    have hc:∃r o,wO fu q=Z (r,o)/\(o=0->qp r=wL/\q<r/\∀s,q<s->s<r->qp s=I)/\(o≠0->65521<=q):=by
     by_cases h:65521<=q
     ·exact⟨0,5,Af h,λh=>wS h mD,λ_=>h⟩
     ·obtain⟨r,h1,x⟩:=cG (fu:=fu) (q:=q) W W W;exact⟨r,0,h1,λ_=>x,λh=>wS O h⟩
    obtain⟨r,o,n1,n2,T⟩:=hc
    have w:(if o=0 then(65522-r).toNat else 0)<(if e=0 then(65522-q).toNat else 0):=by
     rw[S g];split
     ·have:=n2 (by assumption);lia
     ·lia
    cases c with
    |false=>
     have V:¬XZ R q:=λd=>by have:=c2.2 d;cases this
     rw[S mD,U n1]
     refine m _ ⟨λh=>(n2 h).1,i2,?_⟩ w
     rcases k with⟨i,y,C,D⟩|j
     ·have E:∀s,s<=q->¬XZ R s:=λs u d=>by
       by_cases h:s=q
       ·rw[h]at d;exact V d
       ·exact C g s W d
      exact .inl ⟨i,y,λh=>hi E (n2 h).2.2,λh=>P (T h) E⟩
     ·exact .inr j
    |true=>
     have d:=c2.1 O
     obtain⟨t,t1,t2⟩:=zdT (fu:=fu) d H hl hd hp M
     rw[ir mD,zb,U<|uZ A W W q2]
     simp only
     rw[U t1]
     simp only
     by_cases z:b=0
     ·rw[S z,U n1]
      exact m _ ⟨λh=>(n2 h).1,by show 0<=n+1;lia,.inr ⟨d,t2⟩⟩ w
     ·have j:XZ R b/\zgE R b out:=by
       rcases k with⟨i,_⟩|j
       ·exact wS i z
       ·exact j
      rw[ir z]
      split
      ·rw[U n1]
       exact m _ ⟨λh=>(n2 h).1,by show 0<=n+1;lia,.inr ⟨d,t2⟩⟩ w
      ·rw[U n1]
       exact m _ ⟨λh=>(n2 h).1,by show 0<=n+1;lia,.inr j⟩ w
   ·rw[ir hn]
    refine⟨_,O,b,out,O,?_⟩
    rcases k with⟨i,y,_⟩|j
    ·lia
    ·exact .inr j
  ·rw[ir g]
   refine⟨_,O,b,out,O,?_⟩
   rcases k with⟨i,y,C,D⟩|j
   ·exact .inl ⟨i,D g⟩
   ·exact .inr j) fu (0,0,[],2,0) ⟨λ_=>zbR,xfW 0,.inl ⟨O,O,λ_ q v d=>by have:=(zw d.1).1;simp only at v;lia,λh=>wS O h⟩⟩ (by
   show(if(0:J)=0 then((65522:J)-2).toNat else 0)<fu
   rw[S O]
   lia)
 refine⟨p,l,?_,Q⟩;unfold QK;obtain⟨r,r1,r2,r3,Y⟩:=cG (fu:=fu) (q:=1) mD mD W;have:r=2:=by
  by_cases h:r=2
  ·exact h
  ·have h5:=(zw r2).1;have:=Y 2 mD W;rw[zbR]at this;cases this
 subst this;rw[U r1];simp only;rw[U u]
end
section
variable{fu K Y:wr}{a b R:xS Zr}
theorem zbu(f g:wr->J):∀n,HD f g n= -1\/HD f g n=0\/HD f g n=1
 |0=> .inr (.inl O)
 |n+1=>by
  unfold HD;split
  ·exact zbu f g n
  ·lia
theorem Sc(a b:N M):Ja a b= -1\/Ja a b=0\/Ja a b=1:=by grind [Ja,zbu]
theorem BC(f:xa K a)(g:xa K b)(k:yx a=a)(l:yx b=b)(p:K<=40000)(hd:X a<=1000)(q:X b<=1000)(d:3000000<=fu):Xy fu a b=Z (decide<|Ja a b<0):=by
 unfold Xy;rw[U<|zI f W W d,U<|zI g W W d,show wK (X a) (G a)=a from k,show wK (X b) (G b)=b from l];have hc:Ja a b=if X a=X b then HD (G a) (G b) (X a) else if X a<X b then-1 else 1:=O;by_cases hl:X a=X b
 ·rw[S hl]at hc;rw[yg,zb,U (v:=if Ja a b=0 then Sum.inl ()else Sum.inr (decide<|Ja a b<0))]
  ·obtain h|h|h:=Sc a b<;>rw[h]<;>rfl
  ·rw[hc];refine zA (λs:J=>∃n:wr,s=(n:J)-1/\n<=X a/\HD (G a) (G b) n=HD (G a) (G b) (X a)) (λs=>(s+1).toNat) _ ?_ _ _ ⟨X a,O,So _,O⟩ (by show((X a:J)-1+1).toNat<fu;lia);rintro s L ⟨n,rfl,hn,c⟩ m;unfold de
   cases n with
   |zero=>
    rw[zD,<-c];rfl
   |succ n=>
    have o:=f.get n;have ob:=g.get n;rw[(W:((n+1:wr):J)-1=(n:J)),yg,yo,A,yo,A,U<|Yd (iU.of o W) (iU.of ob W) d,Vn,Vn];rw[show HD (G a) (G b) (n+1)=if G a n=G b n then HD (G a) (G b) n else if G a n<G b n then-1 else 1 from O]at c;by_cases e:G a n=G b n
    ·rw[S e]at c;rw[S<|xL.2 e,zb];exact m _ ⟨n,O,W,c⟩ W
    ·rw[ir e]at c;rw[ir λh=>e<|xL.1 h];unfold kh;by_cases i:G a n<G b n
     ·rw[S i]at c⊢;rw[<-c,S mD];rfl
     ·rw[ir i]at c⊢;rw[S (W:G b n<G a n),<-c,ir mD];rfl
 ·rw[ir hl]at hc;rw[zD,hc];by_cases j:X a<X b
  ·rw[S j,yg];rfl
  ·rw[ir j,zD];rfl
theorem nY(c:xa K a)(d:xa K b)(e:yx a=a)(f:yx b=b)(g:K<=40000)(hc:X a<=1000)(hd:X b<=1000)(h:3000000<=fu):j8 fu a b=Z (Ja a b):=by grind [j8,U,BC,Wq,Sc]
theorem ziZ:Od3 Ja Gd:=⟨λx y z _ _ _ h1 d e=>by
 have f:=zak (a:=x) (b:=y) (c:=z) (by have:=Wq x y;lia) (by have:=Wq y z;lia);have:=Wq x z;lia,λx y _ _ h1 d=>by
 have:=Wq x y;lia⟩
def BdY(R:N M)(Y:wr):Prop:=∃r:wr,Y=(r+1)*2^(X R-1)/\(r:J)*r<sD (G R) (X R)/\sD (G R) (X R)<=((r:J)+1)*(r+1)
theorem zhk(c:yx R=R)(e:xa K R)(f:K<=300)(h0:Gr R=0)(g:3000000<=fu):∃Y,vy fu R=Z (yG (Y:wr),0)/\BdY R Y:=by
 have d:=BO h0;have hc:=Xq (show R=wK (X R) (G R)from c.symm) (by rw[c]at d;lia);obtain⟨y,h1,h⟩:=cj e f (by rw[c]at d;lia) g;obtain⟨r,rfl,i,j⟩:=h h0;rw[c]at h1 i j d;have hd:=Mq (n:=X R) ⟨X R-1,W,hc⟩;refine⟨_,by rw[h1,h0],r,O,?_,?_⟩
 ·lia
 ·grind
theorem zmI{x y:wr}(h:x*x<=y*y):x<=y:=by
 refine xak λhn=> ?_;have:=xci (W:y<x) (W:y<x);lia
theorem zpt{M:J}(k:0<X R)(ht:Tp (G R) (X R-1))(hp:0<G R (X R-1))(f:BdY R Y)(l:2*((Y:J)*G R (X R-1))<M):Bdz M (G R):=λu v b fu hv e j=>by
 obtain⟨r,rfl,_,g⟩:=f;obtain⟨h,_⟩:=VU ht.nz e;obtain⟨a,c⟩:=Tp.ex fu h;have hc:a+b=X R-1:=by
  have:=c.mul hv;rw[<-e]at this;exact this.uniq ht
 have i:(v b*u j).natAbs<=(r+1)*2^(X R-1):=by
  refine zmI ?_;have m:((v b*u j).natAbs*(v b*u j).natAbs:wr)=(v b*u j*(v b*u j)).natAbs:=(xcw _ _).symm;have n:(((r+1)*2^(X R-1)*((r+1)*2^(X R-1)):wr):J)=4^(X R-1)*(((r:J)+1)*(r+1)):=by
   have:(4:J)^(X R-1)=2^(X R-1)*2^(X R-1):=by rw[(mD:(4:J)=2*2),Int.mul_pow]
   grind
  have h0:=YO<|v b*u j;have o:v b*u j*(v b*u j)<=4^(X R-1)*(((r:J)+1)*(r+1)):=by
   have d:=mig c hv e j;rw[hc,(W:X R-1+1=X R)]at d;exact Int.le_trans d<|xaU g<|Int.pow_nonneg mD
  lia
 have p:(((r+1)*2^(X R-1):wr):J)*1<=(((r+1)*2^(X R-1):wr):J)*G R (X R-1):=xaU W W;lia
theorem zfj(k:yx R=R)(e:xa K R)(l:K<=300)(hl:0<X R)(hc:X R<=65)(i:vy fu R=Z (yG (Y:wr),0))(f:Bz 1000 (Y:J))(d:3000000<=fu):QV fu R=Z (decide<|1000<bl (2*((Y:J)*G R (X R-1))).natAbs):=by
 have b2:Bz 1 2:=by unfold Bz;decide
 have ob:=e.get<|X R-1;have j:=e.bz<|X R-1;have g:=f.mul j;have c:=b2.mul g;unfold QV;rw[U i];simp only;rw[U<|yw mD d,(W:(X R:J)-1=((X R-1:wr):J)),zb,yo,A,U<|yj (f.ok mD) (iU.of ob W) d,zo,Vn,U<|yj (b2.ok mD) (g.ok W) d,zo,zo,U<|W3 (yN _) (by have:=c.len;lia) (by have:=c.len;lia),show nv (yG<|2*((Y:J)*G R (X R-1))).2=(2*((Y:J)*G R (X R-1))).natAbs from zV _];by_cases h:1000<bl (2*((Y:J)*G R (X R-1))).natAbs
 ·grind
 ·grind
theorem zjf{n k:wr}(h:bl n<=k):n<2^k:=by grind [DG,xag,xam]
theorem zdt{p:J}(hp:qp p=wL)(x:yx R=R)(l:xa K R)(y:K<=300)(hl:0<X R)(hi:X R<=65)(n:vy fu R=Z (yG (Y:wr),0))(hd:Bz 1000 (Y:J))(i:bl (2*((Y:J)*G R (X R-1))).natAbs<=1000)(c:3000000<=fu):
 ∃k:wr,W4 fu R p=Z (k:J)/\1<=k/\k<=1000/\2*((Y:J)*G R (X R-1))<p^k:=by
 obtain⟨z,B⟩:=zw hp;obtain⟨E,o⟩:∃E,E=1000:=⟨_,O⟩;have i:=zjf (k:=E) (by rw[o];exact i);have b2:Bz 1 2:=by unfold Bz;decide
 have ob:=l.get<|X R-1;have q:=l.bz<|X R-1;have m:=hd.mul q;have d:=b2.mul m;have t:Bz 1 p:=by unfold Bz;rw[Nat.pow_one];lia
 obtain⟨T,g⟩:∃T,T=2*((Y:J)*G R (X R-1)):=⟨_,O⟩;have u:∀k:wr,((2^k:wr):J)<=p^k:=λk=>by
  obtain⟨P,rfl⟩:=xaC (W:0<=p);have:=Nat.pow_le_pow_left (W:2<=P) k;have e:((P^k:wr):J)=(P:J)^k:=mK
  rw[<-e];lia
 obtain⟨r,v,k,rfl,k1,k2,k3⟩:=zX (f:=VR fu p<|yG T) (λs:J×M=>∃k:wr,s=((k:J),yG<|p^k)/\1<=k/\k<=1000) (λs=>1000-s.1.toNat) (λr=>∃k:wr,r=(k:J)/\1<=k/\k<=1000/\T<p^k) (by
  rintro s L ⟨k,rfl,k1,k2⟩ w;unfold VR;simp only;have j:=sX hp k2;rw[U<|Yd (j.ok mD) ((g▸d).ok W) c (by have:=j.len;lia) (by have:=(g▸d:Bz _ T).len;lia),zo,zo];by_cases h:T<p^k
  ·have hc:kh (p^k) T=1:=by unfold kh;rw[zD,S h]
   rw[hc,ir mD];exact⟨_,O,k,O,k1,k2,h⟩
  ·have C:k<1000:=by
    refine xak λhn=> ?_;obtain rfl:k=E:=W
    have:=u k;rw[<-g]at i;lia
   have hc:kh (p^k) T<=0:=by
    unfold kh;split
    ·decide
    ·first|decide|(rw[ir h];decide)
   rw[S hc,U<|yw ⟨W,W⟩ c,U<|yj (j.ok mD) (t.ok mD) c,zo,zo,zb,<-xbP];exact w _ ⟨k+1,O,W,W⟩ (by show 1000-((k:J)+1).toNat<1000-(k:J).toNat;lia)) fu (1,yG p) ⟨1,by rw[xbP,xce,xdd];rfl,W,W⟩ (by show 1000-(1:J).toNat<fu;lia)
 refine⟨k,?_,k1,k2,by rw[<-g];exact k3⟩;unfold W4;rw[U n];simp only;rw[U<|yw mD c,(W:(X R:J)-1=((X R-1:wr):J)),zb,yo,A,U<|yj (hd.ok mD) (iU.of ob W) c,zo,Vn,U<|yj (b2.ok mD) (m.ok W) c,zo,zo,<-g,U<|yw ⟨W,W⟩ c,U v]
end
section
variable{R a:xS Zr}{fu K B:wr}{ds:xS wn}
theorem RE{R:N M->N J->Prop}:∀{us:N (N M)}{fs:N (N J)},DY R us fs->∃xs:N Lx,us=xs.map (·.1)/\fs=xs.map (·.2)/\∀x∈xs,R x.1 x.2
 |[],[],_=>⟨[],O,O,λ_ h=>wS h H1⟩
 |u::us,f::fs,h=>by
  obtain⟨xs,e1,b,c⟩:=RE h.2;refine⟨(u,f)::xs,by rw[e1];rfl,by rw[b];rfl,λx hx=> ?_⟩;obtain rfl|hx:=xah.1 hx
  ·exact h.1
  ·simp_all
def zfL(R:N M):Prop:=∃Y,BdY R Y/\1000<bl (2*((Y:J)*G R (X R-1))).natAbs
theorem BdY.uniq{Y f:wr}(h:BdY R Y)(g:BdY R f):Y=f:=by
 obtain⟨r,rfl,h1,b⟩:=h;obtain⟨s,rfl,g1,d⟩:=g;have c:∀{r s:wr}{S:J},r*r<S->S<=(s+1)*(s+1)->¬s<r:=λ{r s S} h1 b e=>by
  have:((s:J)+1)*(s+1)<=r*r:=Int.mul_le_mul W W W W;lia
 grind
theorem Bc(s:yx R=R)(pm:Pm (G R))(ps:Po (G R))(E:xa K R)(hK:K<=200)(hl:X R<=11)(hd:Rl ds)(hV:X ds<=1000)(H:3000300<=fu):
 ∃l b,QW fu R ds=Z (l,b)/\(b=wL↔X R<2\/(¬zfL R/\∃p,XZ R p))/\(b=wL->(∀g∈l,Gd g)/\G R=prZ (l.map λg=>(G g:Pz))/\l.Pairwise (λa b=>Ja a b<0)/\X l<=12):=by
 have hJ:X (yx R)≠0:=λe=>by
  obtain⟨j,hj⟩:=pm.nz;exact hj<|Vd e j
 have L:=X9 hJ;rw[s]at hJ L;have hB:0<G R (X R-1):=by
  obtain⟨m,m1,m2⟩:=ps.tp;rw[<-m1.uniq L];exact m2
 unfold QW;by_cases h2:X R<2
 ·rw[yg];refine⟨[],wL,O,⟨λ_=> .inl h2,λ_=>O⟩,λ_=>⟨λg u=>wS u H1,?_,List.Pairwise.nil,xae _⟩⟩;obtain⟨d,hd⟩:=((nQ.tp L).2 W).ex;have z:G R (X R-1)=d:=by rw[hd,(W:X R-1=0)];exact iq O
  rw[hd]at pm;obtain e|e:=AN pm
  ·rw[hd,e];rfl
  ·lia
 ·have h0:Gr R=0:=by unfold Gr;rw[s,zD,zD]
  obtain⟨Y,hY,T⟩:=zhk (fu:=fu) s E W h0 W;have hM:Bz 1000 (Y:J):=by
   obtain⟨r,rfl,z,M⟩:=T;have h5:=zf6 (K:=K) (f:=G R) E.bz (X R) W;have V:Bz 401 (r:J):=by
    refine Bz.nat ?_;refine xaK (show r<=r*r from Nat.le_mul_self r) ?_;have h7:((r*r:wr):J)=(r:J)*r:=mK
    have h8:=h5.mono (W:K+K+1<=401);unfold Bz at h8;lia
   have h9:Bz 402 (((r+1:wr):J)):=(V.add<|Bz.one' (k:=401) mD).le W;have hW:Bz 1 (((2^(X R-1):wr):J)):=Bz.nat (by
    rw[Nat.pow_one];exact xaK (xam mD (W:X R-1<=10)) mD)
   have:=(h9.mul hW).mono (mD:402+1<=1000);rwa[<-xfi]at this
  have hN:zfL R↔1000<bl (2*((Y:J)*G R (X R-1))).natAbs:=⟨λ⟨o,z1,z2⟩=>by rw[T.uniq z1];exact z2,λh=>⟨Y,T,h⟩⟩;rw[zD,U<|zfj s E W W W hY hM W];by_cases u:1000<bl (2*((Y:J)*G R (X R-1))).natAbs
  ·rw[Wd u,iq O];refine⟨[],I,O,⟨λh=>wS h mD,λh=> ?_⟩,λh=>wS h mD⟩;obtain h|h:=h
   ·exact wS h h2
   ·exact wS (hN.2 u) h.1
  ·rw[Wl u,ir mD];obtain⟨p,l,e1,hQ⟩:=A7 (fu:=fu) s E W h0 W W hd hV W;rw[U e1];simp only;rcases hQ with⟨hX,hZ⟩|⟨hE,D⟩
   ·rw[iq hX];refine⟨[],I,O,⟨λh=>wS h mD,λh=> ?_⟩,λh=>wS h mD⟩;obtain h|⟨_,q,hq⟩:=h
    ·exact wS h h2
    ·exact wS hq<|hZ q
   ·obtain⟨hp,ht,hc⟩:=hE;obtain⟨p1,p2⟩:=zw hp;obtain⟨k,e2,k1,k2,k3⟩:=zdt (fu:=fu) hp s E W W W hY hM (xbx u) W;have hO:ri p (k:J)=(yG<|p^k,0):=by
     unfold ri;rw[bi ⟨hp,W,W⟩,xaZ]
    have h1:=D.ln;rw[zD,U e2,U (uH W),hO];simp only;have h':WU fu R l p=Z ([],R,l):=by
     unfold WU;rw[U (v:=(R,l))];obtain⟨n,hn⟩:∃n,fu=n+1:=⟨fu-1,W⟩;have:zg (Qv fu p) (n+1) (R,l)=Z (R,l):=by
      rw[kF];unfold Qv;simp only;rw[zD]
     rw[<-hn]at this;exact this
    rw[U h'];simp only;have hz:=(sn (p:=p)).2 ht;have hP:eJ p (yx R) l:=by
     rw[s];refine⟨W,hz,W,λi hi=> ?_,λi j hi hj=> ?_,?_⟩
     ·have P:=Hb (l:=l) hi;refine⟨?_,(D.el _ P).2.1⟩;obtain⟨q,fq,hq⟩:Di p (C<|l.getD i []) (G R):=Di.cg ((bE bC<|xbF P).mul _<|Fs.pc _) D.cg.symm;have hT:=(D.el _ P).1.mn;obtain⟨x,F,b0⟩:=pS hp ht 1|>λ⟨x,F⟩=>(⟨x,F,O⟩:∃x,p^1∣x*G R (X R-1)-1/\Xs=Xs);by_cases a0:X (l.getD i [])<=X R
      ·exact a0
      ·exfalso;have z:=hT.mn.zero p1 fq λk hk=>by rw[<-hq k,L.2 k (by have:=hT.ln;lia),xap]
       have M:=(hq.trans<|z.mul_zero_r _)<|X R-1;rw[zO,xap]at M;exact ht M
     ·have z:=xcU.1 D.pw j i W hi hj;rw[UV,UV,xab hi,xab (W:j<X l)];exact z.symm
     ·refine(jc (p:=p) W _ _).ext (Jl W R) ((ZF p _ _).trans<|(Cg.mul (nX p l) Cg.rfl).trans<|Cg.trans ?_ (iK p R).symm);rw[jY,zk];refine Cg.trans (Cg.mul (λj=> ?_) Cg.rfl) D.cg.symm;rw[Ku];unfold Q;split
      ·exact xaQ _ _
      ·rfl
    obtain⟨us,e,e3,e4,e5⟩:=tT (fu:=fu) (p:=p) (k:=(k:J)) (a:=R) (fs:=l) (E.mono W) W W;have he:e=0:=by
     refine xak λhF=> ?_;have hr:=nM (fu:=fu) (fs:=l) hp (E.mono (by lia:K<=250)) mD (by lia:X R<=66) W;obtain⟨bb,b1,b2⟩:=hr;rw[b2.2<|by rw[s]at hP;exact hP]at b1;have:=zfB (E.mono (by lia:K<=250)) W W W W e3;unfold zev at this;rw[iq hp,s,zD,iq b1]at this;exact hF this
    obtain⟨hG,_⟩:=e4 he;rw[xaZ]at hG;have a1:=hG.up;obtain⟨xs,rfl,rfl,F⟩:=RE a1;have hF:xs.map (·.2)≠[]:=λe=>by
     have z:=D.cg<|X R-1;rw[e,show prZ ([].map C)=Q 1 from O,yp]at z;have M:Q (G R<|X R-1) (X R-1)=0:=zD;rw[M,xap]at z;exact ht z
    have hU:=hG.cg hF;rw[s,xdg]at hU;rw[xav]at h1;have hC:Ch p k (G R) R xs [] 1:=by
     have hL:Lc p k (G R) (X R-1) xs:=⟨hp,k1,λx hH=>⟨F x hH,(D.el _<|xbF hH).1,(D.el _<|xbF hH).2.2⟩,(xez (R:=λa b=>kn p (C a)<|C b) (f:=λx:Lx=>x.2)).1 D.pw,L,W,hB,ht,pm,hU⟩;exact⟨hL,k2,s,E.mono W,hl,zpt W L hB T k3,Ls.one hL,by rw[xbT];lia,(zC _).symm,λg u=>wS u H1⟩
    obtain⟨out,o1,o2,o3,o4⟩:=O3 (fu:=fu) hC W;rw[yg,U e3];simp only;rw[U o1,wM (by simp only[xbT];lia),ze,xbN];obtain⟨r,s1,s2,s3⟩:=IM (fu:=fu) (cmp:=λa2 a3=>j8 fu a2 a3) (c:=Ja) (S:=Gd) (λx y F hy=>nY F.ok hy.ok F.can hy.can mD (by have:=F.ln;lia) (by have:=hy.ln;lia) W) (t:=out) o3 W W;have hI:G R=prZ (r.map λg=>(G g:Pz)):=by rw[o4];exact OV<|s2.symm.map _
    have hw:∀g∈r,Gd g:=λg u=>o3 g<|s2.mem_iff.1 u;rw[U s1];refine⟨r,wL,O,⟨λ_=> .inr ⟨λh=>u<|hN.1 h,p,hp,ht,hc⟩,λ_=>O⟩,λ_=>⟨hw,hI,?_,by rw[s2.length_eq];lia⟩⟩;refine(xdr.2 λ{a b} hs=> ?_);have z:¬Ja b a<0:=(xdr.1<|s3 ziZ) hs;have ha:a∈r:=hs.subset mK;have hb:b∈r:=hs.subset mK;have M:=Wq a b;by_cases h5:Ja a b=0
    ·exfalso;have a4:=zdr (hw a ha).can (hw b hb).can h5;subst a4;obtain⟨m,w,hS,P⟩:=hC.lc.sf;have hD:=pW (p:=p) (hs.map λg=>(G g:Pz)) λf H=>by
      obtain⟨g,_,rfl⟩:=xas.1 H;exact Fs.cf g
     rw[<-hI]at hD;have a5:Di p ((G a:Pz)*G a) (C m):=by
      refine Di.trans ⟨Q 1,Fs.pc 1,Cg.of ?_⟩<|hD.trans ⟨Q w,Fs.pc w,P⟩;show(G a:Pz)*(G a*Q 1)=_;rw[yp,zC]
     have a6:=hw a ha;have a7:Zd (G a) (G R):=by
      rw[hI];obtain⟨A,B,e6⟩:=xeo ha;rw[e6,xaR,xbQ,vm];refine Zd.mul _ (Fs.prZ λf H=> ?_)<|Zd.left<|Fs.prZ λf H=> ?_
      ·obtain⟨g,_,rfl⟩:=xas.1 H;exact Fs.cf g
      ·obtain⟨g,_,rfl⟩:=xas.1 H;exact Fs.cf g
     obtain⟨v,fv,hv⟩:=a7;have V:=hC.ls (G a) v (Fs.cf a) fv (by rw[hv,zk]) a6.ir.dg;obtain⟨x,a8⟩:∃x,x∈own p (G a) xs:=by
      cases a9:own p (G a) xs with
      |nil=>rw[a9]at V;exact wS V mD
      |cons x t=>exact⟨x,IR⟩
     obtain⟨h7,h8⟩:=bT.1 a8;exact hS.apart (Fs.cf a) (Fs.cf a) a5 (xbF h7) h8 h8
    ·lia
theorem Bj{q:N M}{m:wr}(x:xa K a)(T:K<=50)(l:Tp (G a) m)(V:m<=11)(hd:X a<=40)(y:∀j,Bb B<|G a j)(Y:B<=3000)(d:Gd q)(z:xa 50 q)(A:3000000<=fu):
 ∃n:wr,Y4 fu a q=Z (n:J)/\n<=11/\Mu (G q) (G a) n:=by
 have hc:X (yx q)≠0:=λe=>by
  obtain⟨j,C⟩:=d.ir.pm.nz;exact C<|Vd e j
 have o:=X9 hc;rw[d.can]at o;have hl:=d.ln;have ho:1<=X q-1:=by refine xak λh=>d.ir.dg<|(nQ.tp o).2 W
 have fp:=λn=>d.ir.fs.pp n;have one:∀(t:N M) (n:wr),xa 60 t->X t<=40->G a=(G t:Pz)*pp (G q) n->∃b e,wA fu t q=Z (b,e)/\(e=0->xa 60 b/\X b<=40/\G a=(G b:Pz)*pp (G q) (n+1))/\(e≠0->Mu (G q) (G a) n):=λt n o1 l1 e1=>by
  obtain⟨b,e,d1,d2,d3⟩:=JD (fu:=fu) o1 z (by have:=xaj (50+1) (W:X t+1<=41);lia) W W hc A;refine⟨b,e,d1,λc=> ?_,λc=>⟨G t,Fs.cf t,e1,λD=>c<|d2.2 D⟩⟩;obtain⟨f1,f2,f3⟩:=d3 c;have v:G a=(G b:Pz)*pp (G q) (n+1):=by
   rw[e1,f1,zd];show _=_*(pp (G q) n*G q);rw[zk<|pp (G q) n]
  refine⟨?_,W,v⟩;rw[<-f2];exact xi λj=>(Mi l (Fs.cf b) (fp _) v W y j).bz W
 obtain⟨q1,w,c1,c2,E⟩:=one a 0 (x.mono W) hd (yp _).symm;have p:∀{t:N M}{n:wr},G a=(G t:Pz)*pp (G q) n->n<=m:=λ{t n} e=>by
  obtain⟨F,np⟩:=VU l.nz e;obtain⟨i,hi⟩:=Tp.ex (Fs.cf t) F;have H:∀n,Tp (pp (G q) n) (n*(X q-1)):=λn=>by
   induction n with
   |zero=>rw[xcC];exact⟨show Q 1 0≠0 by decide,λk hk=>by show Q 1 k=0;unfold Q;rw[zD]⟩
   |succ n g=>rw[xbi,xcP];exact g.mul o
  have h1:=hi.mul<|H n;rw[<-e]at h1;have u:=h1.uniq l;have h3:=xcj n (W:0<X q-1);lia
 obtain⟨s,P,n,rfl,n1,n2⟩:=zX (f:=Jx fu q) (λs:J×N M×J=>∃n:wr,s.1=(n:J)/\(s.2.2=0->xa 60 s.2.1/\X s.2.1<=40/\G a=(G s.2.1:Pz)*pp (G q) (n+1))/\(s.2.2≠0->n<=11/\Mu (G q) (G a) n)) (λs=>if s.2.2=0 then 20-s.1.toNat else 0) (λr=>∃n:wr,r=(n:J)/\n<=11/\Mu (G q) (G a) n) (by
  rintro⟨i,t,e⟩ L ⟨n,hn,h1,u⟩ g;simp only at hn h1 u g;subst hn;unfold Jx;simp only;by_cases c:e=0
  ·obtain⟨o1,l1,e1⟩:=h1 c;have hp:=p e1;obtain⟨b,e',d1,d2,d3⟩:=one t (n+1) o1 l1 e1;rw[S c,zb,U d1];refine g _ ⟨n+1,by show(n:J)+1=((n+1:wr):J);lia,d2,λh=>⟨W,d3 h⟩⟩ ?_;rw[S c];split
   ·show 20-((n:J)+1).toNat<20-(n:J).toNat;lia
   ·show 0<20-(n:J).toNat;lia
  ·rw[ir c];exact⟨_,O,n,O,u c⟩) fu (0,q1,w) ⟨0,O,c2,λh=>⟨W,E h⟩⟩ (by
  show(if w=0 then 20-(0:J).toNat else 0)<fu;split<;>lia)
 refine⟨n,?_,n1,n2⟩;unfold Y4;rw[U c1];simp only;rw[U P]
def zi3(R:N M):Prop:=X R<2\/(¬zfL R/\∃p,XZ R p)
theorem zna(h:Rad a R):Zd (G R) (G a):=by
 obtain⟨g,b,e⟩:=h.dv;rw[<-gM a,e];exact(Zd.left b).mul _<|Fs.pc _
theorem oJ(w:xa K a)(S:K<=50)(hl:X a<=40)(h0:Gr a=0)(ht:X (yx a)<=11)(y:∀j,Bb B<|G a j)(T:B<=3000)(r1:qA fu a=Z (R,0))(r2:Rad a R)(V:∀j,Bb (B+X (yx a)+4)<|G R j)(hd:Rl ds)(Y:X ds<=1000)(d:3000300<=fu):
 (zi3 R/\∃l,vE fu a ds=Z (yG<|yD a,l,0)/\FL (G a) l/\X l<=12/\∀x∈l,Gd x.1/\x.2<=11)\/
  (¬zi3 R/\vE fu a ds=Z ((I,[]),[],6)):=by
 have hr:=BO h0;have z:=X9 (a:=a) W;have oR:xa 50 R:=by rw[<-r2.can];exact xi λj=>(V j).bz W
 obtain⟨l,b,C,E,s3⟩:=Bc (fu:=fu) r2.can r2.pm r2.ps oR mD (by have:=r2.ln;lia) hd Y d
 cases b with
 |false=>
  refine .inr ⟨λh=>(by have:=E.2 h;cases this),?_⟩;unfold vE;rw[U r1];simp only[uS];rw[U C];rfl
 |true=>
  obtain⟨g1,F,g3,g4⟩:=s3 O;refine .inl ⟨E.1 O,?_⟩;have H:∀q∈l,Zd (G q) (G a):=λq c=>by
   refine Zd.trans ?_<|zna r2;rw[F];obtain⟨A,D,e6⟩:=xeo c;rw[e6,xaR,xbQ,vm];refine Zd.mul _ (Fs.prZ λf d=> ?_)<|Zd.left<|Fs.prZ λf d=> ?_
   ·obtain⟨g,_,rfl⟩:=xas.1 d;exact Fs.cf g
   ·obtain⟨g,_,rfl⟩:=xas.1 d;exact Fs.cf g
  have hk:∀q∈l,∃n:wr,Y4 fu a q=Z (n:J)/\n<=11/\Mu (G q) (G a) n:=λq c=>by
   have k:=g1 q c;refine Bj w S z W hl y T k ?_ W;obtain⟨u,m,e⟩:=H q c;rw[<-k.can];exact xi λj=>(Mi z (Fs.cf q) m (by rw[e,zk]) W y j).bz W
  obtain⟨s,hs,out,rfl,o1,o2⟩:=zX (f:=Wh fu a l) (λs:N (N M×J)×J×M×N (N M)=>∃(i:wr) (out:N (N M×J)),s=(out,(i:J),(I,[]),l)/\i<=X l/\out.map (·.1)=l.take i/\∀x∈out,∃n:wr,x.2=(n:J)/\n<=11/\Mu (G x.1) (G a) n) (λs=>X l-s.2.1.toNat)
   (λr=>∃out:N (N M×J),r=(out,(I,[]))/\out.map (·.1)=l/\∀x∈out,∃n:wr,x.2=(n:J)/\n<=11/\Mu (G x.1) (G a) n) (by
   rintro s L ⟨i,out,rfl,hi,h1,p⟩ ih
   unfold Wh
   simp only
   by_cases hc:i<X l
   ·have hm:l.getD i []∈l:=by
     rw[UV,xab hc];exact xbG hc
    obtain⟨n,n1,n2,o⟩:=hk _ hm
    have hv:X out=i:=by
     have:=uL xaI h1;rw[xav,xar]at this;lia
    rw[yg,U O]
    simp only[uS]
    rw[zn hc,ze,U n1,wM (by simp only[xaw,xbT];lia),ze,zb]
    refine ih _ ⟨i+1,_,O,W,?_,λx hx=> ?_⟩ (by show X l-((i:J)+1).toNat<X l-(i:J).toNat;lia)
    ·rw[xaR,h1,xeU,xab hc,UV,xab hc]
     rfl
    ·obtain hx|hx:=xaa.1 hx
     ·exact p x hx
     ·obtain rfl:=xac.1 hx
      exact⟨n,O,n2,o⟩
   ·rw[zD,U O]
    simp only[xai,uP]
    obtain rfl:i=X l:=W
    rw[xca]at h1
    exact⟨_,O,out,O,h1,p⟩) fu ([],0,(I,[]),l) ⟨0,[],O,xae _,by rw[List.take_zero];rfl,λx hx=>wS hx H1⟩ (by show X l-(0:J).toNat<fu;lia)
  have v:∀x∈out,x.1∈l:=λx hx=>by rw[<-o1];exact xbF hx
  refine⟨out,?_,⟨λx hx=> ?_,λq c pq hz=> ?_,?_⟩,?_,λx hx=>⟨g1 _<|v x hx,?_⟩⟩
  ·unfold vE;rw[U r1];simp only[uS];rw[U C];simp only;rw[ir mD,U hs];simp only;rw[U<|kU w]
  ·have k:=g1 _<|v x hx;obtain⟨n,n1,n2,o⟩:=o2 x hx;refine⟨k.can,k.ir,k.ps,?_,by rw[n1,xaZ];exact o⟩;by_cases hn:n=0
   ·exfalso;subst hn;obtain⟨u,m,e,P⟩:=o;rw[show pp (G x.1) 0=Q 1 from O,yp]at e;rw[<-e]at P;exact P<|H _<|v x hx
   ·lia
  ·have h1:=r2.al q c hz;rw[F]at h1;obtain⟨f,hp,p⟩:=c.prz (λf d=>by obtain⟨g,_,rfl⟩:=xas.1 d;exact Fs.cf g) h1;obtain⟨g,t,rfl⟩:=xas.1 hp;have e:=c.eq (g1 g t).ir pq (g1 g t).ps p;rw[<-o1]at t;obtain⟨x,hx,rfl⟩:=xas.1 t;exact⟨x,hx,e.symm⟩
  ·have:=g3;rw[<-o1]at this;exact xez.1 this
  ·have:=uL xaI o1;rw[xav]at this;lia
  ·obtain⟨n,n1,n2,o⟩:=o2 x hx;lia
theorem r7(b:xa K a)(e:K<=50)(hl:X a<=40)(h0:Gr a=0)(hc:X (yx a)<=11)(c:∀j,Bb B<|G a j)(f:B<=3000)(g:(B+7)*aj (X (yx a)-1)<=639000)(h:(B+7)*aj (X (yx a))<=2400000)(hd:Rl ds)(i:X ds<=1000)(k:3000300<=fu):
 ∃R,qA fu a=Z (R,0)/\Rad a R/\(∀j,Bb (B+X (yx a)+4)<|G R j)/\
  ((zi3 R/\∃l,vE fu a ds=Z (yG<|yD a,l,0)/\FL (G a) l/\X l<=12/\∀x∈l,Gd x.1/\x.2<=11)\/
   (¬zi3 R/\vE fu a ds=Z ((I,[]),[],6))):=by
 obtain⟨R,r1,r2,d⟩:=rP (fu:=fu) b W hl h0 c W g h W;exact⟨R,r1,r2,d,oJ b e hl h0 hc c f r1 r2 d hd i k⟩
end
theorem zoJ:Rl []:=λk=>by
 rw[yA<|xae k];lia
def zqO(l:N (N M×J)):Pz:=prM<|l.map λx=>((G x.1:Pz),x.2.toNat)
theorem FL.prod{f:Pz}{l:N (N M×J)}(h:FL f l)(d:Fs f)(g:Nz f):∃c,c≠0/\f=Q c*zqO l:=by
 refine zk4 d g ?_ (λx b=> ?_) λq i j m=> ?_
 ·refine xez.2<|h.so.imp_of_mem λ{x y} b a h1 e=> ?_;have:=BU (h.el x b).1 (h.el y a).1 λk=>Ww e k;rw[this]at h1;have:=Wq y.1 y.1;lia
 ·obtain⟨y,a,rfl⟩:=xas.1 b;obtain⟨_,n,o,_,p⟩:=h.el y a;simp_all
 ·obtain⟨y,a,e⟩:=h.al q i j m;exact⟨_,xbF a,e⟩
section
variable{fu d b j k h:wr}{r:xS Zr×xS Qr}{β:wr->qR}
theorem zaa{r:N M×N Qr}(h:X r.1≠0):xW fu (Z r)=Z I:=by
 unfold xW;rw[ir mK,U O,zD]
theorem zdp{a c:N Qr}{q:N Qr}(h:X r.1≠0)(h1:xF fu r a c=Z q):xU fu (Z r) a c=Z (q,0):=by
 unfold xU;rw[U<|zaa h,ir mD,U O,U h1]
theorem zdk{a c:N Qr}{q:N Qr}(h:X r.1≠0)(h1:vk fu r a c 1=Z q):vK fu (Z r) a c=Z (q,0):=by
 unfold vK;rw[U<|zaa h,ir mD,U O,U h1]
theorem zcN{a:N Qr}{q:N Qr}(h:X r.1≠0)(h1:xy fu r a=Z q):vL fu (Z r) a=Z (q,0):=by
 unfold vL;rw[U<|zaa h,ir mD,U O,U h1]
theorem znO{k:K}{c:qR}(h:Hx k c):Ht k [c]:=by
 obtain⟨D,a,e,n,h1,f⟩:=h;refine⟨D,a,e,λi=> ?_⟩
 cases i with
 |zero=>exact⟨n,h1,f⟩
 |succ i=>exact⟨0,by rw[aO mK];grind,xdZ _⟩
theorem zkg{P:N M}(hc:yx P=P)(hp:Pm (G P))(oP:xa 1 P)(hl:2<=X P)(o:X P<=5)(i:∀j,Bb 10<|G P j)(m:3000300<=fu):∃c e,wm fu P=Z (c,e)/\(c=wL->e=0->Ir (G P)):=by
 have h0:Gr P=0:=by unfold Gr;rw[hc,zD,zD]
 have p:aj (X (yx P)-1)<=99:=by
  rw[hc];have:X P=2\/X P=3\/X P=4\/X P=5:=W
  obtain h|h|h|h:=this<;>rw[h]<;>decide
 have q:aj (X (yx P))<=99:=by
  rw[hc];have:X P=2\/X P=3\/X P=4\/X P=5:=W
  obtain h|h|h|h:=this<;>rw[h]<;>decide
 obtain⟨R,r1,r2,s,h⟩:=r7 (fu:=fu) (ds:=[]) (B:=10) (K:=1) oP mD W h0 (by rw[hc];lia) i mD W W zoJ (xae _) m;rcases h with⟨_,l,e,hd,_⟩|⟨_,e⟩
 ·by_cases h1:X l=1
  ·obtain⟨x,rfl⟩:=xcT.1 h1;by_cases f:x.2=1
   ·refine⟨wL,0,?_,λ_ _=> ?_⟩
    ·unfold wm;rw[U e];show(if x.2=1 then Z (wL,(0:J))else Z (I,0))=_;rw[S f]
    ·obtain⟨g1,g,t,u,v⟩:=hd.el x<|xac.2 O;obtain⟨c,c0,a⟩:=hd.prod (Fs.cf P) hp.nz;have e1:zqO [x]=G x.1:=by
      show pp (G x.1:Pz) x.2.toNat*Q 1=_;rw[f,zk,zC];exact zC _
     rw[e1]at a;have w:=hp c.natAbs λk=>by rw[a,zU];exact xbu (Int.natAbs_dvd.2<|xek c)<|xbY ..
     have n:c=1\/c= -1:=W
     obtain rfl|rfl:=n
     ·rw[a,zC];exact g
     ·rw[a];exact g.neg
   ·refine⟨I,0,?_,λh=>nomatch h⟩;unfold wm;rw[U e];show(if x.2=1 then Z (wL,(0:J))else Z (I,0))=_;rw[ir f]
  ·refine⟨I,0,?_,λh=>nomatch h⟩;unfold wm;rw[U e];show(if(X l:J)=1 then _ else Z (I,(0:J)))=_;rw[zD]
 ·refine⟨I,6,?_,λh=>nomatch h⟩;unfold wm;rw[U e];rfl
structure O8(m:N M)(r:N M×N Qr)(d:K)(β:K->qR):Prop where
 mn:r.1=y5 m
 ln:(y5 m).length=d+1
 fl:Fld r d 10 β
 d4:d<=4
 by_:r.2=((xaO<|d+1).map β).map cq
 pr:Ir (G<|y5 m)
 at_:∀i,β i*(G (y5 m) d:qR)=(G (y5 m) i:qR)
 ne:r.1.length≠0
theorem O8.tp{m:N Zr}(M:O8 m r d β):Tp (G<|y5 m) d:=by
 have h:=M.ln;have:=X9 (a:=y5 m) (by rw[qS];lia);rwa[qS,h]at this
theorem Df{m:N M}(u:xa 1 m)(hl:X m<=5)(z:∀j,Bb 10<|G m j)(B:3000300<=fu):
 ∃q e,VK fu m=Z (q,e)/\(e=0->∃r d β,q=Z r/\O8 m r d β):=by
 unfold VK;have C:=ZA m;have T:=ZC m;rw[U<|vR u,zD];by_cases D:X (y5 m)<2
 ·rw[yg];exact⟨_,_,O,λh=>nomatch h⟩
 ·rw[zD];obtain⟨P,f⟩:∃P,P=y5 m:=⟨_,O⟩;rw[<-f]at C D⊢;have oP:xa 1 P:=f▸E9 u;have o:yx P=P:=f▸qS m;have v:=(VO (a:=m) W).1;have l:∀j,Bb 10 (G P j):=λj=>by rw[f,Yh];exact xaK (xbB _ _)<|z j
  rw[<-f]at v;obtain⟨c,e,E,F⟩:=zkg o v oP W W l B;rw[U E];simp only;by_cases p:e=0
  ·rw[S p]
   cases c with
   |false=>rw[S mD];exact⟨_,_,O,λh=>nomatch h⟩
   |true=>
    rw[ir mD];obtain⟨d,hd⟩:∃d,X P=d+1:=⟨X P-1,W⟩;have H:Tp (G P) d:=by have:=X9 (a:=P) (by rw[o];lia);rwa[o,hd]at this
    have w:=H.1;have V:((G P d:J):qR)≠0:=λh=>w<|Rat.intCast_inj.1<|h.trans (by rfl:(0:qR)=((0:J):qR));obtain⟨β,g⟩:∃β:wr->qR,β=λi=>Rat.divInt (G P i) (G P d):=⟨_,O⟩;have n:∀i,β i*(G P d:qR)=(G P i:qR):=λi=>by rw[g];show Rat.divInt _ _*_=_;rw[Rat.divInt_eq_div];grind
    have hc:β d=1:=by have:=n d;grind
    have t:zg (Ub fu P) fu (0,((P,[]),([]:N Qr)))=Z ((P,[]),((xaO<|d+1).map β).map cq):=by
     refine zA (λs=>∃i:wr,i<=d+1/\s=((i:J),((P,[]),((xaO i).map β).map cq))) (λs=>d+1-s.1.toNat) _ ?_ fu _ ⟨0,W,O⟩ (by show d+1-(0:J).toNat<fu;lia);rintro _ L ⟨i,hi,rfl⟩ Q;unfold Ub;simp only;by_cases h:i=d+1
     ·rw[zD,U O];simp only[xai,uP];rw[h]
     ·rw[yg,U O];simp only[uS];have e1:(X P:J)-1=(d:J):=W
      have l1:=λj (R:j<X P)=>oP _<|zde R;have x:=l1 i W;have y:=l1 d W;rw[yo,A,e1,zb,yo,A,U (lL (K:=1) x.1 y.1 x.2 y.2 mD),ir (show¬zv (P.getD d (I,[]))=0 from w)];simp only;rw[wM (by simp;lia),A,zb];refine Q _ ⟨i+1,W,?_⟩ (by show d+1-((i:J)+1).toNat<d+1-(i:J).toNat;lia);rw[xdj,xaR,xaR,g];rfl
    rw[U t];refine⟨_,_,O,λ_=>⟨(P,((xaO<|d+1).map β).map cq),d,β,O,⟨f,by rw[<-f];exact hd,⟨mK,λi hi=> ?_,hc,?_,W,W,mD⟩,W,O,by rw[<-f];exact F O p,by rw[<-f];exact n,by show X P≠0;lia⟩⟩⟩
    ·show(((xaO<|d+1).map β).map cq).getD i ((I,[]),[])=_;rw[DZ (by simp;lia),zdg W]
    ·refine⟨(G P d).natAbs,W,l d,λi=> ?_⟩;by_cases Y:0<=G P d
     ·refine⟨G P i,?_,l i⟩;rw[<-n i];have:(((G P d).natAbs:wr):qR)=(G P d:qR):=by
       have h:(((G P d).natAbs:wr):J)=G P d:=W
       rw[<-h];rfl
      rw[this]
     ·refine⟨-G P i,?_,by rw[xfB];exact l i⟩;rw[Rat.intCast_neg,<-n i];have:(((G P d).natAbs:wr):qR)= -(G P d:qR):=by
       have h:(((G P d).natAbs:wr):J)= -G P d:=W
       rw[<-Rat.intCast_neg,<-h];rfl
      rw[this];grind
  ·rw[ir p];exact⟨_,_,O,λh=>nomatch h⟩
end
section
variable{fu:wr}
def zib(z:M):Prop:=X z.2<=1/\(X z.2=1->z.2.getD 0 0<=1000)
theorem zne{m:N M}(d:(Ty.l (.p .b (.l .u))).ok m)(h:∀j,j<X m->zib (m.getD j (I,[]))):xa 1 m/\∀j,Bb 10 (G m j):=by
 refine⟨zj8 d<|zhY λj c=>(h j c).1,λj=> ?_⟩;by_cases c:j<X m
 ·obtain⟨h1,a⟩:=h j c;unfold Bb G;rw[vI];obtain⟨l,hl⟩:∃l,l=(m.getD j (false,[])).2:=⟨_,O⟩;rw[<-hl]at h1 a⊢
  match l,h1,a with
  |[],_,_=>decide
  |[x],_,a=>
   have:=a O;have e:nv [x]=x:=tH x;have:x<=1000:=this;rw[e];lia
 ·rw[yn W];unfold Bb;decide
def zeC(n k:K)(l:N Qr):Prop:=X l<=n/\∀j,j<X l->(l.getD j ((I,[]),[])).1.2.length<=k/\(l.getD j ((I,[]),[])).2.length<=k
theorem zkK{k j:K}{x:qR}{l:N qR}(b:Hx j x)(hl:Ht k l):Ht (j+k) (x::l):=by
 obtain⟨D,c,a,n,h1,d⟩:=b;obtain⟨E,e,E1,f⟩:=hl;refine⟨D*E,xdL c e,by rw[xbj];exact xci a E1,λi=> ?_⟩
 cases i with
 |zero=>exact⟨n*E,by rw[xdG,xcu,<-h1];show x*_=x*(D:qR)*(E:qR);grind,vo d<|by rw[xaG];exact E1⟩
 |succ i=>
  obtain⟨u,g,h⟩:=f i;exact⟨D*u,by rw[xdG,xcu,<-g];show wU l i*_=(D:qR)*(wU l i*(E:qR));grind,vo (by rw[xaG];exact a) h⟩
theorem zor{x:Qr}{k:K}(h:Qz k x)(b:1<=k):Hx (64*k) (qv x):=by
 have e:18446744073709551616^k=2^(64*k):=by rw[xcg]
 have h1:nv x.1.2<2^(64*k):=by rw[<-e];exact xag (vn h.1)<|xam mD h.2.1
 have a:nv x.2<2^(64*k):=by rw[<-e];exact xag (vn h.2.2.1)<|xam mD h.2.2.2
 by_cases h0:nv x.2=0
 ·refine⟨1,mD,Nat.one_lt_two_pow W,0,?_,xdZ _⟩;unfold qv;rw[h0,Rat.mkRat_zero];grind
 ·refine⟨nv x.2,W,a,zv x.1,?_,by rw[vI];exact h1⟩;unfold qv;rw[Rat.mkRat_eq_div];have:((nv x.2:K):qR)≠0:=λe=>by have:=xey.1<|e.trans (by rfl:(0:qR)=((0:K):qR));lia
  grind
theorem zef{k:K}(a:1<=k):∀{l:N Qr},(∀x∈l,Qz k x)->Ht (64*k*X l+1) (vl l)
 |[],_=>⟨1,mD,Nat.one_lt_two_pow W,λi=>⟨0,by rw[aO<|by simp[vl]];grind,xdZ _⟩⟩
 |x::l,h=>by
  have:=zkK (zor (h x<|IR) a)<|zef a λy b=>h y<|FS _ b;show Ht _ (qv x::vl l);rw[xaw,Nat.mul_succ];exact sF.mono this W
theorem znh{n k:K}{l:N Qr}(f:1<=k)(hl:(Ty.l (.p (.p .b (.l .u)) (.l .u))).ok l)(h:zeC n k l):(∀x∈l,Qz k x)/\Ht (64*k*n+1) (vl l):=by
 have h1:∀x∈l,Qz k x:=λx c=>by
  obtain⟨i,hi,e⟩:=xcq.1 c;have a:=h.2 i hi;rw[UV,xab hi,xcX,e]at a;have d:=hl.2 x c;exact⟨DS d.1.2,a.1,DS d.2,a.2⟩
 exact⟨h1,sF.mono (zef f h1) (by have:=xaE (64*k) h.1;lia)⟩
theorem rM{l:N Qr}(hl:X l<=1000)(h:∀x∈l,Kg x)(j:3000000<=fu):QO fu l l=Z wL:=by
 unfold QO;rw[S O,U (v:=.inl ())];refine zA (λs:J=>∃i:K,s=(i:J)/\i<=X l) (λs=>X l-s.toNat) _ ?_ fu 0 ⟨0,O,xae _⟩ (by show X l-(0:J).toNat<fu;lia);rintro _ L ⟨i,rfl,hi⟩ e;unfold gA;by_cases d:i<X l
 ·have c:=Mm h i;have e1:=BA (fu:=fu) (a:=(l.getD i ((I,[]),[])).1) (b:=(l.getD i ((I,[]),[])).1) (by have:=c.2.1;lia) (by have:=c.2.1;lia);have f:=Qa (fu:=fu) (a:=(l.getD i ((I,[]),[])).2) (b:=(l.getD i ((I,[]),[])).2) (by have:=c.2.2.2;lia) (by have:=c.2.2.2;lia);have g:Q6 fu (l.getD i ((I,[]),[])) (l.getD i ((I,[]),[]))=Z wL:=by
   unfold Q6;rw[U e1,Wd O,S O,U f,Wd O]
  rw[yg,zn d,A,zn d,A,U g];rw[ir mD,zb];exact e _ ⟨i+1,O,W⟩ W
 ·rw[zD]
end
section
variable{fu d k k':wr}{r:xS Zr×xS Qr}{β:wr->qR}
structure Elm(d:K)(β:K->qR)(k:K)(q:N qR)(f:qR->qR):Prop where
 rd:Fw d q
 kg:jZ (yE (d+1) β) (vd q) f
 ht:Ht k q
structure nS(k:K)(a:N Qr):Prop where
 ok:∀x∈a,Kg x
 ln:a.length<=32
 ht:Ht k (vl a)
theorem Elm.opd{q:N qR}{f:qR->qR}(h:Elm d β k q f)(hd:d<=32)(a:k<=256000):nS k (q.map cq):=
 ⟨zga h.ht a,by rw[xav];have:=h.rd.1;lia,by rw[oq];exact h.ht⟩
theorem zf7{m:N Zr}(M:O8 m r d β){a c:N Qr}(b:nS k a)(hc:nS k' c)(i:k+k'+1111<=250000)(e:3000000<=fu):∃q,xU fu (Z r) a c=Z (q.map cq,0)/\Elm d β (k+k'+1111) q λt=>vd (vl a) t*vd (vl c) t:=by
 obtain⟨q,h1,f,g,h⟩:=zd8 (fu:=fu) M.fl b.ok hc.ok b.ln hc.ln b.ht hc.ht W e;exact⟨q,zdp M.ne h1,f,g,h⟩
theorem zgd{m:N Zr}(M:O8 m r d β){a c:N Qr}(b:nS k a)(hc:nS k' c)(i:k+k'+374<=250000)(e:3000000<=fu):∃q,vK fu (Z r) a c=Z (q.map cq,0)/\Elm d β (k+k'+374) q λt=>vd (vl a) t+vd (vl c) t:=by
 obtain⟨q,h1,f,g,h⟩:=zeD (fu:=fu) (n:=1) M.fl b.ok hc.ok b.ln hc.ln b.ht hc.ht (.inl O) W e;exact⟨q,zdk M.ne h1,f,g.trans (jZ.of λt=>by show _+((1:J):qR)*_=_;grind),h⟩
theorem zhi{m:N Zr}(M:O8 m r d β){a:N Qr}(b:nS k a)(h:k+352<=250000)(c:3000000<=fu):∃q,vL fu (Z r) a=Z (q.map cq,0)/\Elm d β (k+352) q (vd<|vl a):=by
 have:=xaj (10+1) b.ln;obtain⟨q,h1,e,f,g⟩:=cZ (fu:=fu) M.fl b.ok (by have:=b.ln;lia) b.ht W c;exact⟨q,zcN M.ne h1,e,f,sF.mono g W⟩
end
section
variable{d k:wr}{β:wr->qR}
def sA(n:K)(F:qR->qR->qR):Prop:=∃c:K->qR->qR,(∀i,ZD<|c i)/\∀x t,F x t=yE n (λi=>c i t) x
theorem ZD.zero:ZD λ_=>0:=ZD.c 0
theorem sA.mono{m n:K}{F:qR->qR->qR}:sA n F->n<=m->sA m F:=λ⟨c,hc,h⟩ a=>by
 refine⟨λi=>if i<n then c i else λ_=>0,λi=> ?_,λx t=> ?_⟩
 ·show ZD (if i<n then c i else λ_=>0);split
  ·exact hc i
  ·exact ZD.zero
 ·have e1:=Yj (f:=λi=>(if i<n then c i else λ_=>0) t) a (λi hi=>by rw[zD]) x;rw[h,e1];exact jH λi hi=>by rw[S hi]
theorem sA.add{n:K}{F G:qR->qR->qR}:sA n F->sA n G->sA n λx t=>F x t+G x t:=λ⟨c,hc,h⟩ ⟨e,a,g⟩=>⟨λi t=>c i t+e i t,λi=>(hc i).add<|a i,λx t=>by have:=h x t;have:=g x t;rw[QZ];grind⟩
theorem sA.smul{n:K}{F:qR->qR->qR}{f:qR->qR}(a:ZD f):sA n F->sA n λx t=>f t*F x t:=λ⟨c,hc,h⟩=>⟨λi t=>f t*c i t,λi=>a.mul<|hc i,λx t=>by have:=h x t;rw[QP];grind⟩
theorem sA.x{n:K}{F:qR->qR->qR}:sA n F->sA (n+1) λx t=>x*F x t:=λ⟨c,hc,h⟩=>by
 refine⟨λi=>if i=0 then λ_=>0 else c (i-1),λi=> ?_,λx t=> ?_⟩
 ·show ZD (if i=0 then λ_=>0 else c (i-1));split
  ·exact ZD.zero
  ·exact hc _
 ·have e1:yE n (λi=>(if i+1=0 then λ_=>0 else c (i+1-1)) t) x=yE n (λi=>c i t) x:=jH λi _=>by rw[zD];rfl
  have:=h x t;rw[vT,e1];show x*F x t=0+_;grind
theorem sA.xn{n:K}{F:qR->qR->qR}(h:sA n F):∀m,sA (n+m) λx t=>x^m*F x t
 |0=>by obtain⟨c,hc,h⟩:=h;exact⟨c,hc,λx t=>by have:=h x t;show x^0*F x t=yE n (λi=>c i t) x;rw[xeC];grind⟩
 |m+1=>by obtain⟨c,hc,h⟩:=(h.xn m).x;exact⟨c,hc,λx t=>by have:=h x t;show x^(m+1)*F x t=yE (n+m+1) (λi=>c i t) x;rw[xeD];grind⟩
theorem sA.mul{m:K}{G:qR->qR->qR}(a:sA (m+1) G):∀(n:K) (f:K->qR->qR),(∀i,ZD<|f i)->sA (n+m) λx t=>yE n (λi=>f i t) x*G x t
 |0,f,_=>⟨λ_ _=>0,λ_=>ZD.zero,λx t=>by rw[iE];show(0:qR)*_=0;grind⟩
 |n+1,f,b=>by
  obtain⟨c,hc,h⟩:=((sA.mul a n f b).mono (m:=n+1+m) W).add (((a.xn n).smul<|b n).mono (m:=n+1+m) W);exact⟨c,hc,λx t=>by rw[<-h];show(yE n (λi=>f i t) x+f n t*x^n)*G x t=_;grind⟩
def b9(F:qR->qR->qR):Prop:=∃n,sA n F
theorem b9.self(n:K){f:K->qR->qR}(a:∀i,ZD<|f i):b9 λx t=>yE n (λi=>f i t) x:=⟨n,f,a,λ_ _=>O⟩
theorem b9.add{F G:qR->qR->qR}:b9 F->b9 G->b9 λx t=>F x t+G x t:=λ⟨m,h⟩ ⟨n,g⟩=>⟨max m n,(h.mono W).add<|g.mono W⟩
theorem b9.mul{F G:qR->qR->qR}:b9 F->b9 G->b9 λx t=>F x t*G x t:=λ⟨m,f,a,h⟩ ⟨n,g⟩=>⟨m+n,by
 obtain⟨c,hc,e⟩:=sA.mul (g.mono<|xbz n) m f a;exact⟨c,hc,λx t=>by rw[<-e];show F x t*G x t=yE m (λi=>f i t) x*G x t;rw[h]⟩⟩
theorem b9.t{f:qR->qR}(a:ZD f):b9 λ_ t=>f t:=⟨1,λ_=>f,λ_=>a,λx t=>by rw[vT];show f t=f t+x*0;grind⟩
theorem b9.c(a:qR):b9 λ_ _=>a:=b9.t<|ZD.c a
theorem b9.x:b9 λx _=>x:=by
 have h1:sA 1 λ_ _=>(1:qR):=⟨λ_ _=>1,λ_=>ZD.c 1,λx t=>by rw[vT];show(1:qR)=1+x*0;grind⟩;obtain⟨c,hc,h⟩:=h1.x;exact⟨2,c,hc,λx t=>by rw[<-h];grind⟩
theorem b9.smul{F:qR->qR->qR}(a:qR)(h:b9 F):b9 λx t=>a*F x t:=(b9.c a).mul h
theorem b9.xn:∀m:K,b9 λx _=>x^m
 |0=>by obtain⟨n,c,hc,h⟩:=b9.c 1;exact⟨n,c,hc,λx t=>by show x^0=_;rw[xeC];exact h x t⟩
 |m+1=>by obtain⟨n,c,hc,h⟩:=(b9.xn m).mul b9.x;exact⟨n,c,hc,λx t=>by show x^(m+1)=_;rw[xeD];exact h x t⟩
def jd(P:qR->qR)(F G:qR->qR->qR):Prop:=∃Q,b9 Q/\∀x t,F x t-G x t=P t*Q x t
variable{P:qR->qR}{F G H F' G':qR->qR->qR}
theorem jd.of(h:∀x t,F x t=G x t):jd P F G:=⟨_,b9.c 0,λx t=>by rw[h];grind⟩
theorem jd.refl:jd P F F:=jd.of λ_ _=>O
theorem jd.symm:jd P F G->jd P G F:=λ⟨Q,h,e⟩=>⟨_,h.smul (-1),λx t=>by have:=e x t;grind⟩
theorem jd.trans:jd P F G->jd P G H->jd P F H:=λ⟨Q,h,e⟩ ⟨R,k,a⟩=>⟨_,h.add k,λx t=>by have:=e x t;have:=a x t;grind⟩
theorem jd.add:jd P F G->jd P F' G'->jd P (λx t=>F x t+F' x t) λx t=>G x t+G' x t:=λ⟨Q,h,e⟩ ⟨R,k,a⟩=>⟨_,h.add k,λx t=>by have:=e x t;have:=a x t;grind⟩
theorem jd.mul(a:b9 F')(b:b9 G):jd P F G->jd P F' G'->jd P (λx t=>F x t*F' x t) λx t=>G x t*G' x t:=λ⟨Q,h,e⟩ ⟨R,k,c⟩=>⟨_,(h.mul a).add<|b.mul k,λx t=>by have:=e x t;have:=c x t;grind⟩
theorem jd.mono{f g:qR->qR}(m:K):jZ P f g->jd P (λx t=>f t*x^m) λx t=>g t*x^m:=λ⟨Q,h,e⟩=>⟨_,(b9.t h).mul<|b9.xn m,λx t=>by have:=e t;grind⟩
theorem jd.coef{n:K}{f g:K->qR->qR}(h:jd P (λx t=>yE n (λi=>f i t) x) λx t=>yE n (λi=>g i t) x){i:K}(hi:i<n):jZ P (f i) (g i):=by
 obtain⟨Q,⟨m,c,hc,o⟩,e⟩:=h;refine⟨if i<m then c i else λ_=>0,by split;exact hc i;exact ZD.zero,λt=> ?_⟩;obtain⟨N,r⟩:∃N,N=max n m:=⟨_,O⟩;have a:=zcs (n:=N) (f:=λj=>if j<n then f j t+ -1*g j t else 0) (g:=λj=>P t*(if j<m then c j t else 0)) (λx=>by
  have p:=Yj (f:=λj=>if j<n then f j t+ -1*g j t else 0) (W:n<=N) (λj b=>by rw[zD]) x;have q:=Yj (f:=λj=>if j<m then c j t else 0) (W:m<=N) (λj b=>by rw[zD]) x;have a3:yE n (λj=>if j<n then f j t+ -1*g j t else 0) x=yE n (λj=>f j t) x+ -1*yE n (λj=>g j t) x:=by rw[<-QP,<-QZ];exact jH λj b=>by rw[S b]
  have a4:yE m (λj=>if j<m then c j t else 0) x=Q x t:=by rw[o];exact jH λj b=>by rw[S b]
  rw[p,a3,QP,q,a4];have:=e x t;grind) i W
 rw[S hi]at a;by_cases l:i<m
 ·rw[S l]at a⊢;grind
 ·rw[ir l]at a⊢;grind
end
section
variable{fu d k k':wr}{r:xS Zr×xS Qr}{β:wr->qR}{m:xS Zr}
def QB(A:N (N Qr))(x t:qR):qR:=yE (X A) (λi=>vd (vl<|A.getD i []) t) x
def mm(l:N (N qR)):N (N Qr):=l.map λq=>q.map cq
theorem zaA{A:N (N Qr)}{i:K}(h:X A<=i:=by lia):A.getD i []=[]:=by rw[UV,xbn h];rfl
theorem JH{A:N (N Qr)}{n:K}(h:X A<=n)(x t:qR):QB A x t=yE n (λi=>vd (vl<|A.getD i []) t) x:=(Yj h (λi hi=>by rw[zaA hi];rfl) x).symm
theorem aD(A:N (N Qr)):b9 (QB A):=b9.self (X A) (f:=λi t=>vd (vl<|A.getD i []) t) λi=>bH _
theorem zbd{A:N (N Qr)}{i:K}{q:N Qr}(h:i<X A)(x t:qR):QB (A.set i q) x t=QB A x t+(vd (vl q) t-vd (vl<|A.getD i []) t)*x^i:=by
 rw[JH (n:=X A)<|by rw[xbg];exact So _];have:=zhN (f:=λi=>vd (vl<|A.getD i []) t) (k:=i) (v:=vd (vl q) t) (t:=x) h;show _=yE (X A) _ x+_;rw[<-this];refine jH λj a=> ?_;unfold upq;by_cases e:j=i
 ·rw[S e,e,UV,xds h];rfl
 ·rw[ir e,UV,xeW<|Ne.symm e,<-UV]
theorem PB(l:N (N qR))(i:K):(mm l).getD i []=(l.getD i []).map cq:=by
 unfold mm;rw[UV,UV,xbX];cases l[i]? <;>rfl
theorem ZR(l:N (N qR)):X (mm l)=X l:=xav _
structure Ke(k n:K)(A:N (N Qr)):Prop where
 el:∀a∈A,nS k a
 ln:A.length<=n
theorem nS.mono{a:N Qr}(h:nS k a)(b:k<=k'):nS k' a:=⟨h.ok,h.ln,sF.mono h.ht b⟩
theorem nS.nil:nS (k+1) []:=⟨λx a=>(H1 a).elim,mD,⟨1,mD,Nat.one_lt_two_pow W,λi=>⟨0,by show wU [] i*_=_;unfold wU;rw[List.getD_nil];grind,xdZ _⟩⟩⟩
theorem Ke.at{n:K}{A:N (N Qr)}(h:Ke (k+1) n A)(i:K):nS (k+1) (A.getD i []):=by
 by_cases hi:i<X A
 ·rw[UV,xab hi];exact h.el _<|xbG hi
 ·rw[zaA];exact nS.nil
structure Plm(d:K)(β:K->qR)(k:K)(l:N (N qR)):Prop where
 rd:∀i,Fw d<|l.getD i []
 ht:∀i,Ht k<|l.getD i []
 tp:l.length≠0->l.getD (l.length-1) []≠[]
theorem Plm.op{l:N (N qR)}{n:K}(h:Plm d β k l)(hd:d<=32)(c:k<=256000)(hn:X l<=n):Ke k n (mm l):=⟨λa f=>by
 obtain⟨q,g,rfl⟩:=xas.1 f;obtain⟨i,hi,e⟩:=xcq.1 g;have h1:=h.rd i;have b:=h.ht i;rw[UV,xab hi,xcX,e]at h1 b;exact⟨zga b c,by rw[xav];have:=h1.1;lia,by rw[oq];exact b⟩,by rw[ZR];exact hn⟩
theorem W7{l:N (N qR)}{i:K}(h:X l<=i:=by lia):l.getD i []=[]:=by rw[UV,xbn h];rfl
theorem Plm.inj{l a:N (N qR)}(c:β d=1)(h:Plm d β k l)(o:Plm d β k' a)(e:jd (yE (d+1) β) (QB<|mm l) (QB<|mm a)):l=a:=by
 obtain⟨n,hn⟩:∃n,n=max (X l) (X a):=⟨_,O⟩;have b:∀i,l.getD i []=a.getD i []:=λi=>by
  by_cases hi:i<n
  ·have:=jd.coef (n:=n) (f:=λi t=>vd (vl<|(mm l).getD i []) t) (g:=λi t=>vd (vl<|(mm a).getD i []) t) (P:=yE (d+1) β) (by
    obtain⟨Q,h1,j⟩:=e;exact⟨Q,h1,λx t=>by
     have:=j x t;rwa[JH (n:=n) (by rw[ZR];lia),JH (n:=n)<|by rw[ZR];lia]at this⟩) hi
   refine Fw.inj c (h.rd i) (o.rd i) ?_;have e1:∀l:N (N qR),vd (l.getD i [])=λt=>vd (vl<|(mm l).getD i []) t:=λl=>by rw[PB,oq]
   rw[e1 l,e1 a];exact this
  ·rw[W7,W7]
 have hl:X l=X a:=by
  rcases xfy (X l) (X a) with h1|h1|h1
  ·exact wS ((b _).symm.trans<|W7)<|o.tp W
  ·exact h1
  ·exact wS ((b _).trans<|W7)<|h.tp W
 refine xed hl λi h1 j=> ?_;have:=b i;simpa[UV,xab h1,xab j]using this
theorem gJ{q:N Qr}:xo fu q 0=Z (.inr q):=by unfold xo;rw[S O]
theorem S7(M:O8 m r d β){A:N (N Qr)}{n:K}(B:Ke (k+1) n A)(hn:n<=1000)(D:k+1+352<=250000)(C:3000000<=fu):
 ∃l,yh fu (Z r) A=Z (.inr<|mm l)/\Plm d β (k+1+352) l/\X l<=X A/\jd (yE (d+1) β) (QB<|mm l) (QB A):=by
 have hc:=B.ln;obtain⟨t1,E,e1⟩:=zhi (fu:=fu) M (a:=[]) (nS.nil (k:=0)) mD C;have p:∃y,zg (Zq fu (Z r) A) fu (0,Nm (X A) [])=Z y/\∃l,y=.inl (mm l)/\X l=X A/\∀i,i<X A->Elm d β (k+1+352) (l.getD i []) (vd<|vl<|A.getD i []):=by
  refine zX (λs=>∃(i:K) (l:N (N qR)),s=((i:J),mm l++Nm (X A-i) [])/\i<=X A/\X l=i/\∀j,j<i->Elm d β (k+1+352) (l.getD j []) (vd<|vl<|A.getD j [])) (λs=>X A-s.1.toNat) _ ?_ fu _ ⟨0,[],O,xae _,O,λj u=>wS u<|xbc _⟩ (by show X A-(0:J).toNat<fu;lia);rintro _ L ⟨i,l,rfl,hi,g1,b⟩ c;unfold Zq;simp only;by_cases h:i=X A
  ·rw[zD,U O];simp only[xai,uP];exact⟨_,O,l,by rw[h,xcE];simp,W,λj u=>b j W⟩
  ·rw[yg,U O];simp only[uS];obtain⟨q,q1,q2⟩:=zhi (fu:=fu) M (B.at i) D C;rw[yo,ze,U q1];simp only;rw[U gJ];simp only;rw[zn (by simp[ZR];lia),ze,zb,Ln (by rw[ZR,g1]) W];refine c _ ⟨i+1,l++[q],by simp[mm],W,by simp[g1],λj u=> ?_⟩ (by show X A-((i:J)+1).toNat<X A-(i:J).toNat;lia);by_cases e:j=i
   ·rw[e,UV,xbr W,g1,xcE];exact q2
   ·rw[UV,xbb W,<-UV];exact b j W
 obtain⟨_,r1,l,rfl,r2,v⟩:=p;have f:∃y,zg (u7 fu) fu (mm l)=Z y/\∃n,y=mm (l.take n)/\n<=X l/\(∀i,n<=i->l.getD i []=[])/\(n≠0->l.getD (n-1) []≠[]):=by
  refine zX (λs=>∃n,s=mm (l.take n)/\n<=X l/\∀i,n<=i->l.getD i []=[]) (λs=>X s) _ ?_ fu _ ⟨X l,by rw[xca],So _,λi hi=>W7 hi⟩ (by rw[ZR];lia);rintro _ L ⟨n,rfl,g1,b⟩ c;have hl:X (mm<|l.take n)=n:=by rw[ZR,xar];lia
  unfold u7;rw[hl]
  cases n with
  |zero=>rw[zD];exact⟨_,O,0,O,g1,b,λh=>wS O h⟩
  |succ e=>
   have e1:((e+1:K):J)-1=(e:J):=W
   have F:(0:J)<((e+1:K):J):=W
   have G:(mm<|l.take<|e+1).getD e []=(l.getD e []).map cq:=by rw[PB,UV,xbD,yg,<-UV]
   rw[S F,e1,zb,yo,ze,G,xav];by_cases h0:X (l.getD e [])=0
   ·rw[yg,zb,yI,y8,ze];refine c _ ⟨e,?_,W,λi hi=> ?_⟩<|by rw[xar,hl];lia
    ·unfold mm;rw[<-xfl,List.take_take,xck<|xbz e]
    ·by_cases h:i=e
     ·rw[h];exact xbE.1 h0
     ·exact b i W
   ·rw[zD];exact⟨_,O,e+1,O,g1,b,λ_ h=>h0<|by rw[(W:e+1-1=e)]at h;rw[h];rfl⟩
 obtain⟨_,H,g,rfl,R,P,Q⟩:=f;have o:∀i,(l.take g).getD i []=l.getD i []:=λi=>by
  by_cases h:i<g
  ·rw[UV,xbD,S h,<-UV]
  ·rw[P i W,W7<|by rw[xar];lia]
 have w:X (l.take g)=g:=by rw[xar];lia
 have hd:Fw d []/\Ht (k+1+352) []:=⟨Fw.nil d,(nS.nil (k:=k+352)).ht.mono W⟩;refine⟨l.take g,?_,⟨λi=> ?_,λi=> ?_,λh=> ?_⟩,W,?_⟩
 ·unfold yh;rw[U E];simp only;rw[U gJ];simp only;rw[yI,y8,ze,U r1];simp only;rw[U H]
 ·rw[o];by_cases h:i<X A
  ·exact(v i h).rd
  ·rw[W7];exact hd.1
 ·rw[o];by_cases h:i<X A
  ·exact(v i h).ht
  ·rw[W7];exact hd.2
 ·rw[o,w];rw[w]at h;exact Q h
 ·have z:∀i,jZ (yE (d+1) β) (vd<|l.getD i []) (vd<|vl<|A.getD i []):=λi=>by
   by_cases h:i<X A
   ·exact(v i h).kg
   ·rw[W7,zaA];exact jZ.refl
  have step:∀n,jd (yE (d+1) β) (λx t=>yE n (λi=>vd (l.getD i []) t) x) (λx t=>yE n (λi=>vd (vl<|A.getD i []) t) x):=λn=>by
   induction n with
   |zero=>exact jd.refl
   |succ n c=>exact c.add<|jd.mono n<|z n
  refine jd.trans (jd.of λx t=> ?_)<|step (X A);rw[JH (n:=X A)<|by rw[ZR,w];lia];exact jH λi _=>by rw[PB,oq,o]
end
section
variable{fu d k k':wr}{r:xS Zr×xS Qr}{β:wr->qR}{m:xS Zr}
structure PJ(d:K)(β:K->qR)(k n:K)(l:N (N qR))(F:qR->qR->qR):Prop where
 pl:Plm d β k l
 ln:l.length<=n
 kg:jd (yE (d+1) β) (QB<|mm l) F
theorem PJ.op{l:N (N qR)}{n:K}{F:qR->qR->qR}(h:PJ d β k n l F)(hd:d<=32)(a:k<=256000):Ke k n (mm l):=h.pl.op hd a h.ln
theorem PJ.eq{l b:N (N qR)}{n f:K}{F G:qR->qR->qR}(a:β d=1)(h:PJ d β k n l F)(c:PJ d β k' f b G)(e:∀x t,F x t=G x t):l=b:=
 Plm.inj a h.pl c.pl (h.kg.trans<|(jd.of e).trans c.kg.symm)
theorem dR(M:O8 m r d β){A:N (N Qr)}{n:K}(a:Ke (k+1) n A)(hn:n<=1000)(f:k+353<=250000)(b:3000000<=fu):
 ∃l,yh fu (Z r) A=Z (.inr<|mm l)/\PJ d β (k+353) n l (QB A):=by
 obtain⟨l,h1,c,g,e⟩:=S7 (fu:=fu) M a hn W b;exact⟨l,h1,by rw[(W:k+353=k+1+352)];exact c,by have:=a.ln;lia,e⟩
theorem zfu{A:N (N Qr)}{n i:K}{q:N Qr}(b:Ke k n A)(c:nS k q):Ke k n (A.set i q):=⟨λa e=>by
 obtain h|h:=xdz e
 ·exact b.el a h
 ·rw[h];exact c,by rw[xbg];exact b.ln⟩
theorem zn9(n:K):Ke (k+1) n (Nm n []):=⟨λa b=>by rw[(xen.1 b).2];exact nS.nil,mK⟩
theorem zom(n:K)(x t:qR):QB (Nm n []) x t=0:=by
 unfold QB;rw[<-iE (X (Nm n ([]:N Qr))) x];refine jH λi _=> ?_;have:(Nm n ([]:N Qr)).getD i []=[]:=by rw[UV,xcN];split<;>rfl
 rw[this];rfl
theorem Ke.mono{A:N (N Qr)}{n:K}(h:Ke k n A)(b:k<=k'):Ke k' n A:=⟨λa c=>(h.el a c).mono b,h.ln⟩
theorem zkf(M:O8 m r d β){B T t5:N (N Qr)}{a:N Qr}{i n g:K}{i2:J}{b c e:K}(D:nS (b+1) a)(E:Ke (c+1) n B)(o:Ke (e+1) g T)(hi:i+X B<=X T)(hn:g<=1000)(hk:e+b+c+1490<=250000)(w:3000000<=fu):
 ∃y,zg (kO fu (i:J) B (Z r) t5 i2 a) fu (0,T)=Z y/\∃l,y=.inl l/\Ke (e+b+c+1488) g l/\X l=X T/\jd (yE (d+1) β) (QB l) (λx t=>QB T x t+vd (vl a) t*x^i*QB B x t):=by
 have hd:=M.d4;have hc:=o.ln;have G:e+1<=e+b+c+1488:=W
 refine zX (λs=>∃(j:K) (f:N (N Qr)),s=((j:J),f)/\j<=X B/\Ke (e+b+c+1488) g f/\X f=X T/\(∀q,i+j<=q->f.getD q []=T.getD q [])/\jd (yE (d+1) β) (QB f) (λx t=>QB T x t+vd (vl a) t*x^i*yE j (λq=>vd (vl<|B.getD q []) t) x)) (λs=>X B-s.1.toNat) _ ?_ fu _ ⟨0,T,O,xae _,o.mono G,O,λ_ _=>O,jd.of λx t=>by show _=_+_*0;grind⟩ (by show X B-(0:J).toNat<fu;lia);rintro _ L ⟨j,f,rfl,hj,g1,z,u,v⟩ H;unfold kO;simp only;by_cases h:j=X B
 ·rw[ir W,U O];simp only[xai,uP];refine⟨_,O,f,O,g1,z,?_⟩;rw[h]at v;exact v
 ·rw[S W,U O];simp only[uS];have P:(i:J)+j=((i+j:K):J):=W
  obtain⟨p,Q,C⟩:=zf7 (fu:=fu) M D (E.at j) W w;have d32:d<=32:=W
  have k1:b+1+(c+1)+1111<=256000:=W
  have k2:b+1+(c+1)+1111<=b+c+1113:=W
  have R:nS (b+c+1113) (p.map cq):=nS.mono (C.opd d32 k1) k2;obtain⟨q,q1,q2⟩:=zgd (fu:=fu) M (o.at<|i+j) R W w;rw[zn W,A,P,jL ⟨W,W⟩,jL ⟨W,W⟩,zn W,A,U Q];simp only;rw[U gJ];simp only;rw[u (i+j)<|So _,U q1];simp only;rw[U gJ];simp only;rw[zn W,A,jL ⟨W,W⟩];have k3:e+1+(b+c+1113)+374<=256000:=W
  have k4:e+1+(b+c+1113)+374<=e+b+c+1488:=W
  have V:nS (e+b+c+1488) (q.map cq):=nS.mono (q2.opd d32 k3) k4;refine H _ ⟨j+1,_,O,W,zfu g1 V,by rw[xbg,z],λY hq=> ?_,?_⟩ (by show X B-((j:J)+1).toNat<X B-(j:J).toNat;lia)
  ·rw[UV,xeW W,<-UV];exact u Y W
  ·have a1:jZ (yE (d+1) β) (vd<|vl<|q.map cq) (λt=>vd (vl<|T.getD (i+j) []) t+vd (vl a) t*vd (vl<|B.getD j []) t):=by
    rw[oq];refine q2.kg.trans<|jZ.refl.add ?_;rw[oq];exact C.kg
   have a2:=v.add<|jd.mono (i+j)<|a1.sub<|jZ.refl (F:=vd<|vl<|T.getD (i+j) []);refine jd.trans (jd.of λx t=> ?_)<|a2.trans<|jd.of λx t=> ?_
   ·rw[zbd W,u (i+j)<|So _]
   ·rw[UR];show _=_+_*(yE j (λq=>vd (vl<|B.getD q []) t) x+vd (vl<|B.getD j []) t*x^j);grind
theorem QX(M:O8 m r d β){A B:N (N Qr)}{n a b c:K}(j:Ke (b+1) n A)(o:Ke (c+1) a B)(hn:n<=32)(E:a<=32)(u:n*(b+c+1490)+400<=250000)(p:3000000<=fu):
 ∃l,wZ fu (Z r) A B=Z (mm l,0)/\PJ d β (n*(b+c+1490)+354) (n+a) l (λx t=>QB A x t*QB B x t):=by
 have hc:=j.ln;have hd:=o.ln;obtain⟨W,v⟩:∃W,W=b+c+1490:=⟨_,O⟩;rw[<-v]at u⊢;have e:∃y,zg (kQ fu (Z r) A B) fu (0,Nm (X A+X B) [])=Z y/\∃T,y=.inl T/\Ke (n*W+1) (n+a) T/\jd (yE (d+1) β) (QB T) (λx t=>QB A x t*QB B x t):=by
  refine zX (λs=>∃(i:K) (T:N (N Qr)),s=((i:J),T)/\i<=X A/\Ke (i*W+1) (n+a) T/\X T=X A+X B/\jd (yE (d+1) β) (QB T) (λx t=>yE i (λq=>vd (vl<|A.getD q []) t) x*QB B x t)) (λs=>X A-s.1.toNat) _ ?_ fu _ ⟨0,_,O,xae _,⟨(zn9 (k:=0*W)<|X A+X B).el,by simp;lia⟩,mK,jd.of λx t=>by rw[zom];show _=0*_;grind⟩ (by show X A-(0:J).toNat<fu;lia);rintro _ L ⟨i,T,rfl,hi,g1,G,f⟩ w;unfold kQ;simp only;by_cases h:i=X A
  ·rw[ir lM,U O];simp only[xai,uP];refine⟨_,O,T,O,g1.mono (by have:=xaj W (lM:i<=n);lia),?_⟩;rw[h]at f;exact f
  ·rw[S lM,U O];simp only[uS];have w1:=xaj W (lM:i+1<=n);rw[xeB]at w1;obtain⟨_,v1,z,rfl,C,v3,v4⟩:=zkf (fu:=fu) (t5:=A) (i2:=(X A:J)) (i:=i) M (j.at i) o g1 lM lM lM p;rw[zn lM,ze,U v1];simp only;rw[jL ⟨lM,lM⟩];refine w _ ⟨i+1,z,O,lM,C.mono (by rw[xeB];lia),lM,v4.trans<|(f.add<|jd.refl (F:=λx t=>vd (vl<|A.getD i []) t*x^i*QB B x t)).trans<|jd.of λx t=> ?_⟩ (by show X A-((i:J)+1).toNat<X A-(i:J).toNat;lia);show _=(yE i (λq=>vd (vl<|A.getD q []) t) x+vd (vl<|A.getD i []) t*x^i)*_;grind
 obtain⟨_,r1,T,rfl,r2,D⟩:=e;obtain⟨l,l1,g⟩:=dR (fu:=fu) M r2 lM lM p;refine⟨l,?_,⟨by have:=g.pl;exact⟨this.rd,λi=>sF.mono (this.ht i) lM,this.tp⟩,g.ln,g.kg.trans D⟩⟩;unfold wZ qY;rw[(lM:(X A:J)+X B=((X A+X B:K):J)),jL ⟨lM,lM⟩,yI,wM lM,ze,U r1];simp only;rw[l1];rfl
end
section
variable{fu d k k':wr}{r:xS Zr×xS Qr}{β:wr->qR}{m:xS Zr}
theorem zm6{A:N (N Qr)}{n:K}(h:X A<=n):Hg (Nm n ([]:N Qr)) A=A++Nm (n-X A) []:=by
 unfold Hg;rw[xaM,xck h,xca,List.drop_replicate]
theorem zeQ{A:N (N Qr)}{n i:K}:(A++Nm n []).getD i []=A.getD i []:=by
 rw[UV,UV,List.getElem?_append];split
 ·rfl
 ·rw[xcN,xbn (l:=A) W];split<;>rfl
theorem zok{A:N (N Qr)}{n b:K}(c:Ke (k+1) b A)(h:X A<=n):Ke (k+1) n (A++Nm (n-X A) []):=⟨λa e=>by
 obtain h1|h1:=xaa.1 e
 ·exact c.el a h1
 ·rw[(xen.1 h1).2];exact nS.nil,by simp;lia⟩
theorem NB(M:O8 m r d β){A B:xS (xS Qr)}{n a c:K}(g:Ke (a+1) n A)(v:Ke (c+1) n B)(hn:n<=64)(Q:a+c+800<=250000)(w:3000000<=fu):
 ∃l,YJ fu (Z r) A B=Z (mm l,0)/\PJ d β (a+c+730) n l (λx t=>QB A x t+QB B x t):=by
 have hc:=g.ln;have R:=v.ln;have hd:=M.d4;obtain⟨N,V⟩:∃N,N=max (X A) (X B):=⟨_,O⟩;obtain⟨b,f⟩:∃b,b=A++Nm (N-X A) ([]:xS Qr):=⟨_,O⟩;have o0:Ke (a+1) N b:=f▸zok g W;have l0:X b=N:=by rw[f];simp;lia
 have j:∃y,zg (uA fu (Z r) B I) fu (0,b)=Z y/\∃T,y=.inl T/\Ke (a+c+376+1) N T/\jd (yE (d+1) β) (QB T) (λx t=>QB A x t+QB B x t):=by
  refine zX (λs=>∃(i:K) (T:xS (xS Qr)),s=((i:J),T)/\i<=X B/\Ke (a+c+376+1) N T/\X T=N/\(∀q,i<=q->T.getD q []=A.getD q [])/\jd (yE (d+1) β) (QB T) (λx t=>QB A x t+yE i (λq=>vd (vl<|B.getD q []) t) x)) (λs=>X B-s.1.toNat) _ ?_ fu _ ⟨0,b,O,xae _,o0.mono W,l0,λq _=>by rw[f];exact zeQ,jd.of λx t=> ?_⟩ (by show X B-(0:J).toNat<fu;lia)
  ·rintro _ L ⟨i,T,rfl,hi,g1,z,o,p⟩ C;unfold uA;simp only;by_cases h:i=X B
   ·rw[ir W,U O];simp only[xai,uP];refine⟨_,O,T,O,g1,?_⟩;rw[h]at p;exact p
   ·rw[S W,U O];simp only[uS];obtain⟨q,q1,q2⟩:=zgd (fu:=fu) M (g.at i) (v.at i) W w;rw[zn W,ze,ir mD,zn W,ze,o i<|So _,U q1];simp only;rw[U gJ];simp only;rw[zn W,ze,jL ⟨W,W⟩];have D:nS (a+c+376+1) (q.map cq):=nS.mono (q2.opd W W) W;refine C _ ⟨i+1,_,O,W,zfu g1 D,by rw[xbg,z],λE Y=> ?_,?_⟩ (by show X B-((i:J)+1).toNat<X B-(i:J).toNat;lia)
    ·rw[UV,xeW W,<-UV];exact o E W
    ·have G:jZ (yE (d+1) β) (vd<|vl<|q.map cq) (λt=>vd (vl<|A.getD i []) t+vd (vl<|B.getD i []) t):=by rw[oq];exact q2.kg
     have H:=p.add<|jd.mono i<|G.sub<|jZ.refl (F:=vd<|vl<|A.getD i []);refine jd.trans (jd.of λx t=> ?_)<|H.trans<|jd.of λx t=> ?_
     ·rw[zbd W,o i<|So _]
     ·show _=_+(yE i (λq=>vd (vl<|B.getD q []) t) x+vd (vl<|B.getD i []) t*x^i);grind
  ·have e:QB b x t=QB A x t:=by
    rw[JH (n:=N) W,JH (A:=A) (n:=N) W];exact jH λi _=>by rw[f,zeQ]
   rw[e];show _=_+0;grind
 obtain⟨_,r1,T,rfl,r2,P⟩:=j;obtain⟨l,l1,u⟩:=dR (fu:=fu) M r2 W W w;refine⟨l,?_,⟨by have:=u.pl;exact⟨this.rd,λi=>sF.mono (this.ht i) W,this.tp⟩,by have:=u.ln;lia,u.kg.trans P⟩⟩;unfold YJ ZX;rw[ze,(W:max (X A:J) (X B)=(N:J)),yI,wM W,ze,ze,zm6 W,<-f,U r1];simp only;rw[l1];rfl
theorem zd5(M:O8 m r d β){A:N (N Qr)}{n b:K}(D:Ke (b+1) n A)(hn:n<=32)(P:b+2500<=250000)(f:3000000<=fu):
 ∃l l0,jl fu (Z r) A=Z (mm l,0)/\X l0<=n/\jd (yE (d+1) β) (QB<|mm l0) (QB A)/\PJ d β (b+1900) n l (λx t=>yE (X l0-1) (λi=>((i+1:K):qR)*vd (vl<|(mm l0).getD (i+1) []) t) x):=by
 have hd:=M.d4;obtain⟨l0,E,o⟩:=dR (fu:=fu) M D W W f;have F:=o.ln;have o0:=o.op W W;have hc:∀i:K,i<=32->nS 7 [cq (i:qR)]:=λi hi=>by
  have B:Hx 7 ((i:K):qR):=⟨1,mD,mD,i,by show((i:K):qR)*((1:K):qR)=((i:J):qR);show _=((i:K):qR);grind,by rw[xaG];lia⟩;exact⟨λx G=>by rw[xac.1 G];exact(B.hs mD).rs,mK,by show Ht 7 [qv<|cq (i:qR)];rw[Kp];exact znO B⟩
 have p:∃y,zg (VV fu (Z r)<|mm l0) fu ([],(0:J),0,Z r,mm l0)=Z y/\∃T:N (N Qr),y=.inl (T,0,Z r)/\Ke (b+1500+1) (X l0-1) T/\X T=X l0-1/\∀i,i<X l0-1->jZ (yE (d+1) β) (vd<|vl<|T.getD i []) (λt=>((i+1:K):qR)*vd (vl<|(mm l0).getD (i+1) []) t):=by
  refine zX (λs=>∃(i:K) (T:N (N Qr)),s=(T,(i:J),0,Z r,mm l0)/\i<=X l0/\Ke (b+1500+1) (i-1) T/\X T=i-1/\∀j,j<i-1->jZ (yE (d+1) β) (vd<|vl<|T.getD j []) (λt=>((j+1:K):qR)*vd (vl<|(mm l0).getD (j+1) []) t)) (λs=>X l0-s.2.1.toNat) _ ?_ fu _ ⟨0,[],O,xae _,⟨λa u=>(H1 u).elim,mK⟩,O,λj c=>wS c<|xbc _⟩ (by show X l0-(0:J).toNat<fu;lia);rintro _ L ⟨i,T,rfl,hi,g1,v,C⟩ g;unfold VV;simp only;rw[ZR];by_cases h:i=X l0
  ·rw[ir W,U O];simp only[xai,uP];exact⟨_,O,T,O,h▸g1,h▸v,λj c=>C j W⟩
  ·rw[S W,U O];simp only[uS];rw[zn W,ze]
   cases i with
   |zero=>
    rw[ir mD,jL ⟨mD,mD⟩];exact g _ ⟨1,T,O,W,g1,v,λj c=>wS c<|xbc _⟩ (by show X l0-((0:J)+1).toNat<X l0-(0:J).toNat;lia)
   |succ i=>
    have e0:(0:J)<((i+1:K):J):=W
    have ir:XB ((i+1:K):J):=⟨W,W⟩;obtain⟨q,q1,q2⟩:=zf7 (fu:=fu) M (Ke.at (k:=b+352) (by exact o0)<|i+1) (hc (i+1) W) W f;rw[S e0,U<|gj ir f,show(((i+1:K):J):qR)=((i+1:K):qR)from O,U q1];simp only;rw[U gJ];simp only;have w:X T=i:=v;rw[wM (by simp;lia),ze,jL ⟨W,W⟩];refine g _ ⟨i+1+1,_,O,W,⟨λa u=> ?_,by simp[w]⟩,by simp[w],λj c=> ?_⟩ (by show X l0-(((i+1:K):J)+1).toNat<X l0-((i+1:K):J).toNat;lia)
    ·obtain h1|h1:=xaa.1 u
     ·exact g1.el a h1
     ·rw[xac.1 h1];exact nS.mono (q2.opd W W) W
    ·by_cases e:j=i
     ·rw[e,UV,xbr W,w,xcE];show jZ _ (vd<|vl<|q.map cq) _;rw[oq];exact q2.kg.trans (jZ.of λt=>by
       show _*(0+qv (cq ((i+1:K):qR))*t^0)=_;rw[Kp,xeC];grind)
     ·rw[UV,xbb W,<-UV];exact C j W
 obtain⟨_,r1,T,rfl,r2,Q,H⟩:=p;obtain⟨l,l1,z⟩:=dR (fu:=fu) M r2 W W f;refine⟨l,l0,?_,F,o.kg,⟨by have:=z.pl;exact⟨this.rd,λi=>sF.mono (this.ht i) W,this.tp⟩,by have:=z.ln;lia,z.kg.trans ?_⟩⟩
 ·unfold jl;rw[U E];simp only;rw[U r1];simp only;rw[l1];rfl
 ·have step:∀n,n<=X l0-1->jd (yE (d+1) β) (λx t=>yE n (λi=>vd (vl<|T.getD i []) t) x) (λx t=>yE n (λi=>((i+1:K):qR)*vd (vl<|(mm l0).getD (i+1) []) t) x):=λn=>by
   induction n with
   |zero=>intro _;exact jd.refl
   |succ n g=>intro hn;exact(g W).add<|jd.mono n<|H n W
  refine jd.trans (jd.of λx t=> ?_)<|step _<|So _;rw[JH (n:=X l0-1) W]
end
section
variable{fu d k k':wr}{r:xS Zr×xS Qr}{β:wr->qR}{m:xS Zr}{F G F' G':qR->qR->qR}
def iG(F F':qR->qR->qR):Prop:=∃R:qR->qR->qR->qR,(∀x t,ZD λh=>R x t h)/\∀x t h,F (x+h) t-F x t=h*F' x t+h*h*R x t h
theorem iG.c(f:qR->qR):iG (λ_ t=>f t) λ_ _=>0:=⟨λ_ _ _=>0,λ_ _=>ZD.c 0,λx t h=>by grind⟩
theorem iG.x:iG (λx _=>x) λ_ _=>1:=⟨λ_ _ _=>0,λ_ _=>ZD.c 0,λx t h=>by grind⟩
theorem iG.add:iG F F'->iG G G'->iG (λx t=>F x t+G x t) λx t=>F' x t+G' x t:=λ⟨R,a,e⟩ ⟨S,b,c⟩=>⟨λx t h=>R x t h+S x t h,λx t=>(a x t).add<|b x t,λx t h=>by have:=e x t h;have:=c x t h;grind⟩
theorem iG.mul:iG F F'->iG G G'->iG (λx t=>F x t*G x t) λx t=>F' x t*G x t+F x t*G' x t:=λ⟨R,a,e⟩ ⟨S,b,f⟩=>
 ⟨λx t h=>F' x t*G' x t+R x t h*G x t+F x t*S x t h+h*(F' x t*S x t h)+h*(R x t h*G' x t)+h*(h*(R x t h*S x t h)),λx t=>
  (((((ZD.c<|F' x t*G' x t).add<|(a x t).mul<|ZD.c<|G x t).add<|(ZD.c<|F x t).mul<|b x t).add<|ZD.x.mul<|(ZD.c<|F' x t).mul<|b x t).add<|ZD.x.mul<|(a x t).mul<|ZD.c<|G' x t).add (ZD.x.mul<|ZD.x.mul<|(a x t).mul<|b x t),
  λx t h=>by
   have g:F (x+h) t=F x t+(h*F' x t+h*h*R x t h):=by have:=e x t h;grind
   have i:G (x+h) t=G x t+(h*G' x t+h*h*S x t h):=by have:=f x t h;grind
   show F (x+h) t*G (x+h) t-F x t*G x t=_;rw[g,i];clear e f g i a b;grind⟩
theorem iG.of(h:iG F F')(e:∀x t,F x t=G x t)(a:∀x t,F' x t=G' x t):iG G G':=by
 have:F=G:=kW λx=>kW λt=>e x t;have:F'=G':=kW λx=>kW λt=>a x t;subst_vars;exact h
theorem iG.xn:∀n:K,iG (λx _=>x^(n+1)) λx _=>((n+1:K):qR)*x^n
 |0=>iG.x.of (λx t=>by rw[xeD,xeC];grind) λx t=>by rw[xeC];show(1:qR)=((1:K):qR)*1;grind
 |n+1=>((iG.xn n).mul iG.x).of (λx t=>by rw[xeD x<|n+1]) λx t=>by
  have:((n+1+1:K):qR)=((n+1:K):qR)+1:=Rat.natCast_add (n+1) 1;rw[this,xeD];grind
theorem iG.self(f:K->qR->qR):∀n,iG (λx t=>yE n (λi=>f i t) x) λx t=>yE (n-1) (λi=>((i+1:K):qR)*f (i+1) t) x
 |0=>(iG.c λ_=>0).of (λ_ _=>O) λ_ _=>O
 |1=>(iG.c<|f 0).of (λx t=>by show f 0 t=0+f 0 t*x^0;rw[xeC];grind) λ_ _=>O
 |n+2=>((iG.self f<|n+1).add<|(iG.c<|f<|n+1).mul<|iG.xn n).of (λx t=>O) λx t=>by
  show yE n (λi=>((i+1:K):qR)*f (i+1) t) x+(0*x^(n+1)+f (n+1) t*(((n+1:K):qR)*x^n))=yE n (λi=>((i+1:K):qR)*f (i+1) t) x+((n+1:K):qR)*f (n+1) t*x^n;grind
theorem zr5{c:qR}{S:qR->qR}(a:ZD S)(h:∀h,h≠0->c+h*S h=0):c=0:=by
 obtain⟨n,s,b⟩:=a;have:=se (n+1) (λi=>if i=0 then c else s (i-1)) 1 (λk f=>by
  have h0:((k:K):qR)≠0:=λe=>by have:=xey.1<|e.trans (by rfl:(0:qR)=((0:K):qR));lia
  have e1:yE n (λi=>(if i+1=0 then c else s (i+1-1))) (k:qR)=yE n s k:=jH λi _=>by simp
  have:=h k h0;rw[vT,e1,<-b,iq O];exact this) 0 W
 simpa using this
theorem iG.kg{P:qR->qR}(p:iG F F')(s:iG G G')(h:jd P F G):jd P F' G':=by
 obtain⟨Q,⟨n,q,b,e⟩,a⟩:=h;obtain⟨R,g,j⟩:=p;obtain⟨S,l,eS⟩:=s;obtain⟨U,o,eU⟩:=iG.self q n;refine⟨_,b9.self (n-1) (f:=λi t=>((i+1:K):qR)*q (i+1) t) λi=>(b<|i+1).smul _,λx t=> ?_⟩;have:=zr5 (c:=F' x t-G' x t-P t*yE (n-1) (λi=>((i+1:K):qR)*q (i+1) t) x) (S:=λh=>R x t h-S x t h-P t*U x t h) (((g x t).sub<|l x t).sub<|(o x t).smul<|P t) λh h0=>by
  have v:=j x t h;have w:=eS x t h;have a3:=eU x t h;have b1:=a (x+h) t;have b2:=a x t;rw[e]at b1 b2;have b3:h*(F' x t-G' x t-P t*yE (n-1) (λi=>((i+1:K):qR)*q (i+1) t) x+h*(R x t h-S x t h-P t*U x t h))=0:=by
   have u:yE n (λi=>q i t) (x+h)-yE n (λi=>q i t) x=h*yE (n-1) (λi=>((i+1:K):qR)*q (i+1) t) x+h*h*U x t h:=a3;generalize yE (n-1) (λi=>((i+1:K):qR)*q (i+1) t) x=V at*
   generalize yE n (λi=>q i t) (x+h)=y at*
   generalize yE n (λi=>q i t) x=z at*
   clear e j eS eU g l o b a a3;grind
  obtain h1|h1:=Rat.mul_eq_zero.1 b3
  ·exact wS h1 h0
  ·exact h1
 grind
theorem zkx{l b:N (N qR)}{n a:K}(hl:X l=n+1)(p:X b=a+1):∃c:K->qR->qR,(∀i,ZD<|c i)/\(∀t,c (n+a) t=vd (vl<|(mm l).getD n []) t*vd (vl<|(mm b).getD a []) t)/\∀x t,QB (mm l) x t*QB (mm b) x t=yE (n+a+1) (λi=>c i t) x:=by
 obtain⟨f,e⟩:∃f:K->qR->qR,f=λi t=>vd (vl<|(mm l).getD i []) t:=⟨_,O⟩;obtain⟨g,h⟩:∃g:K->qR->qR,g=λi t=>vd (vl<|(mm b).getD i []) t:=⟨_,O⟩;have j:∀i,ZD (f i):=λi=>e▸bH _;have o:∀i,ZD (g i):=λi=>h▸bH _;have h1:sA (n+a) λx t=>yE n (λi=>f i t) x*yE (a+1) (λi=>g i t) x:=sA.mul ⟨g,o,λ_ _=>O⟩ n f j;have q:sA (a+n) λx t=>f n t*(x^n*yE a (λi=>g i t) x):=sA.smul (j n)<|sA.xn ⟨g,o,λ_ _=>O⟩ n;obtain⟨c,hc,s⟩:=h1.add (q.mono W);refine⟨λi=>if i<n+a then c i else λt=>f n t*g a t,λi=> ?_,λt=> ?_,λx t=> ?_⟩
 ·show ZD (if i<n+a then c i else λt=>f n t*g a t);split
  ·exact hc i
  ·exact(j n).mul<|o a
 ·show(if n+a<n+a then c (n+a)else λt=>f n t*g a t) t=_;rw[zD,e,h]
 ·have e1:yE (n+a) (λi=>(if i<n+a then c i else λt=>f n t*g a t) t) x=yE (n+a) (λi=>c i t) x:=jH λi hi=>by rw[S hi]
  rw[JH (n:=n+1) (by rw[ZR,hl];exact So _),JH (A:=mm b) (n:=a+1)<|by rw[ZR,p];exact So _];show(yE n (λi=>vd (vl<|(mm l).getD i []) t) x+vd (vl<|(mm l).getD n []) t*x^n)*(yE a (λi=>vd (vl<|(mm b).getD i []) t) x+vd (vl<|(mm b).getD a []) t*x^a)=yE (n+a) (λi=>(if i<n+a then c i else λt=>f n t*g a t) t) x+(if n+a<n+a then c (n+a)else λt=>f n t*g a t) t*x^(n+a);rw[e1,<-s,zD,e,h,UR];show _=yE n (λi=>vd (vl<|(mm l).getD i []) t) x*(yE a (λi=>vd (vl<|(mm b).getD i []) t) x+vd (vl<|(mm b).getD a []) t*x^a)+_+_;grind
end
section
variable{fu d k k':wr}{r:xS Zr×xS Qr}{β:wr->qR}{m:xS Zr}
theorem zdy(a:(Ty.l (.p .b (.l .u))).ok m)(v:3000300<=fu):∃q p,Q5 fu m=Z (q,p)/\(q=wF\/∃r d β,q=Z r/\O8 m r d β):=by
 unfold Q5;by_cases h:5<X m
 ·rw[S W];exact⟨_,_,O,.inl O⟩
 rw[ir W];obtain⟨y,h1,c⟩:=zX (f:=Jw fu m) (λs:J=>∃i:K,s=(i:J)/\i<=X m/\∀j,j<i->zib (m.getD j (I,[]))) (λs=>X m-s.toNat) (λy=>y=.inr wF\/y=.inl ()/\∀j,j<X m->zib (m.getD j (I,[]))) (by
  rintro _ L ⟨i,rfl,hi,g⟩ w;unfold Jw;by_cases a:i<X m
  ·rw[S W,zn a,A];by_cases E:1<(m.getD i (I,[])).2.length
   ·rw[S W];exact⟨_,O,.inl O⟩
   ·rw[ir W,zn a,A];have step:zib (m.getD i (I,[]))->∃r,L ((i:J)+1)=Z r/\(r=.inr wF\/r=.inl ()/\∀j,j<X m->zib (m.getD j (I,[]))):=λhl=>w _ ⟨i+1,O,W,λj n=>by
     by_cases e:j=i
     ·rw[e];exact hl
     ·exact g j W⟩ W
    by_cases x:(m.getD i (I,[])).2.length=1
    ·rw[S W,zn a,A,show(0:J)=((0:K):J)from O,zn W,A];by_cases a3:100<(m.getD i (I,[])).2.getD 0 0
     ·rw[S W];exact⟨_,O,.inl O⟩
     ·rw[ir W,jL ⟨W,W⟩];exact step ⟨W,λ_=>by lia⟩
    ·rw[ir W,jL ⟨W,W⟩];exact step ⟨W,λh=>wS h x⟩
  ·rw[ir W];exact⟨_,O,.inr ⟨O,λj n=>g j W⟩⟩) fu 0 ⟨0,O,xae _,λj n=>wS n (xbc _)⟩ (by show X m-(0:J).toNat<fu;lia)
 rw[U h1];obtain rfl|⟨rfl,c⟩:=c
 ·exact⟨_,_,O,.inl O⟩
 ·simp only;obtain⟨t,z⟩:=zne a c;obtain⟨q,e,B,C⟩:=Df (fu:=fu) t W z v;rw[U B];simp only;by_cases o:e=0
  ·rw[S o,U<|Bh t mD W W];obtain⟨r,d,β,g1,D⟩:=C o;exact⟨_,_,O,.inr ⟨r,d,β,g1,D⟩⟩
  ·rw[ir o];exact⟨_,_,O,.inl O⟩
def zjp(n:K)(l:N (N Qr)):Prop:=X l<=n/\∀j,j<X l->zeC 4 1 (l.getD j [])
theorem zkh{ls:N (N<|N Qr)}{i t:K}(hi:i<X ls)(ht:t<X (ls.getD i []))(c:X ((ls.getD i []).getD t [])<=4)(h:3000000<=fu):
 ∃z,zg (Uz fu ls (t:J)) fu ((i:J),0)=Z z/\(z=.inr ()\/z=.inl (i:J)/\zeC 4 1 ((ls.getD i []).getD t [])):=by
 obtain⟨l,hl⟩:∃l,l=(ls.getD i []).getD t []:=⟨_,O⟩;rw[<-hl]at c⊢;refine zX (λs:J×J=>∃u:K,s=((i:J),(u:J))/\u<=X l/\∀j,j<u->(l.getD j ((I,[]),[])).1.2.length<=1/\(l.getD j ((I,[]),[])).2.length<=1) (λs=>X l-s.2.toNat) _ ?_ fu _ ⟨0,O,xae _,λj a=>wS a<|xbc _⟩ (by show X l-(0:J).toNat<fu;lia);rintro _ L ⟨u,rfl,n,g⟩ f;unfold Uz;simp only;rw[zn hi,A,zn ht,A,<-hl];by_cases b:u<X l
 ·rw[S W,zn hi,A,zn ht,A,<-hl,zn b,A];by_cases o:1<(l.getD u ((I,[]),[])).1.2.length
  ·rw[S W];exact⟨_,O,.inl O⟩
  ·rw[ir W,zn hi,A,zn ht,A,<-hl,zn b,A];by_cases p:1<(l.getD u ((I,[]),[])).2.length
   ·rw[S W];exact⟨_,O,.inl O⟩
   ·rw[ir W,jL ⟨W,W⟩];refine f _ ⟨u+1,O,W,λj a=> ?_⟩ (by show X l-((u:J)+1).toNat<X l-(u:J).toNat;lia);by_cases e:j=u
    ·rw[e];lia
    ·exact g j W
 ·rw[ir W];exact⟨_,O,.inr ⟨O,W,λj a=>g j W⟩⟩
theorem zkD{ls:N (N<|N Qr)}{i n:K}(hi:i<X ls)(hl:X (ls.getD i [])<=100)(c:3000000<=fu):
 ∃z,zg (Um fu (i:J)) fu ((n:J),ls,0)=Z z/\(z=.inr ()\/z=.inl ((n:J),ls)/\∀j,j<X (ls.getD i [])->zeC 4 1 ((ls.getD i []).getD j [])):=by
 refine zX (λs:J×N (N<|N Qr)×J=>∃u:K,s=((n:J),ls,(u:J))/\u<=X (ls.getD i [])/\∀j,j<u->zeC 4 1 ((ls.getD i []).getD j [])) (λs=>X (ls.getD i [])-s.2.2.toNat) _ ?_ fu _ ⟨0,O,xae _,λj a=>wS a<|xbc _⟩ (by show(ls.getD i []).length-(0:J).toNat<fu;lia);rintro _ L ⟨u,rfl,l,g⟩ f;unfold Um;simp only;rw[zn hi,A];by_cases b:u<X (ls.getD i [])
 ·rw[S W,zn hi,A,zn b,A];by_cases o:4<X ((ls.getD i []).getD u [])
  ·rw[S W];exact⟨_,O,.inl O⟩
  ·rw[ir W];obtain⟨z,h,z2⟩:=zkh (fu:=fu) hi b W c;rw[U h];obtain rfl|⟨rfl,z2⟩:=z2
   ·exact⟨_,O,.inl O⟩
   ·simp only;rw[jL ⟨W,W⟩];refine f _ ⟨u+1,O,W,λj a=> ?_⟩ (by show(ls.getD i []).length-((u:J)+1).toNat<X (ls.getD i [])-(u:J).toNat;lia);by_cases e:j=u
    ·rw[e];exact z2
    ·exact g j W
 ·rw[ir W];exact⟨_,O,.inr ⟨O,λj a=>g j W⟩⟩
theorem zfO{n:K}{ls:N (N<|N Qr)}(hl:X ls<=10)(hn:n<=100)(o:3000000<=fu):∃c,VL fu (n:J) ls=Z c/\(c=wL->∀j,j<X ls->zjp n (ls.getD j [])):=by
 unfold VL;obtain⟨y,h1,a⟩:=zX (f:=Uq fu (n:J) ls) (λs:J=>∃i:K,s=(i:J)/\i<=X ls/\∀j,j<i->zjp n (ls.getD j [])) (λs=>X ls-s.toNat) (λy=>y=.inr ()\/y=.inl ()/\∀j,j<X ls->zjp n (ls.getD j [])) (by
  rintro _ L ⟨i,rfl,hi,g⟩ p;unfold Uq;by_cases l:i<X ls
  ·rw[S W,zn l,A];by_cases t:n<X (ls.getD i [])
   ·rw[S W];exact⟨_,O,.inl O⟩
   ·rw[ir W];obtain⟨z,q,z2⟩:=zkD (fu:=fu) (n:=n) l W o;rw[U q];obtain rfl|⟨rfl,z2⟩:=z2
    ·exact⟨_,O,.inl O⟩
    ·simp only;rw[jL ⟨W,W⟩];refine p _ ⟨i+1,O,W,λj b=> ?_⟩ W;by_cases e:j=i
     ·rw[e];exact⟨W,z2⟩
     ·exact g j W
  ·rw[ir W];exact⟨_,O,.inr ⟨O,λj b=>g j W⟩⟩) fu 0 ⟨0,O,xae _,λj b=>wS b (xbc _)⟩ (by show X ls-(0:J).toNat<fu;lia)
 rw[U h1];obtain rfl|⟨rfl,a⟩:=a
 ·exact⟨_,O,λh=>nomatch h⟩
 ·exact⟨_,O,λ_=>a⟩
theorem Kx{A:N (N Qr)}{n:K}(c:Ke k n A)(hn:n<=1000)(f:3000000<=fu):ym fu A A=Z wL:=by
 have h:=c.ln;have b:Je fu A A=Z wL:=by
  unfold Je;rw[S O,U (v:=.inl ())];refine zA (λs:J=>∃i:K,s=(i:J)/\i<=X A) (λs=>X A-s.toNat) _ ?_ fu 0 ⟨0,O,xae _⟩ (by show X A-(0:J).toNat<fu;lia);rintro _ L ⟨i,rfl,hi⟩ g;unfold gG;by_cases a:i<X A
  ·have e:nS k (A.getD i []):=by rw[UV,xab a];exact c.el _<|xbG a
   rw[S W,zn a,ze,zn a,ze,U<|rM (by have:=e.ln;lia) e.ok f,ir mD,jL ⟨W,W⟩];exact g _ ⟨i+1,O,W⟩ W
  ·rw[ir W]
 unfold ym;rw[U b]
theorem zam{A:N (N Qr)}{n:K}(f:(Ty.l (.l (.p (.p .b (.l .u)) (.l .u)))).ok A)(h:zjp n A):Ke 257 n A:=⟨λx c=>by
 obtain⟨i,hi,e⟩:=xcq.1 c;have a:=h.2 i hi;rw[UV,xab hi,xcX,e]at a;obtain⟨g1,g⟩:=znh mD (f.2 x c) a;exact⟨λy j=>(g1 y j).mono mD,by have:=a.1;lia,g⟩,h.1⟩
theorem RL(M:O8 m r d β){A:N (N Qr)}{n:K}(a:Ke (k+1) n A)(hn:n<=1000)(b:k+353<=250000)(c:3000000<=fu):
 ∃l,Xa fu (Z r) A=Z (mm l,0)/\PJ d β (k+353) n l (QB A):=by
 obtain⟨l,h1,e⟩:=dR (fu:=fu) M a hn b c;refine⟨l,?_,e⟩;unfold Xa;rw[h1];rfl
end
section
set_option maxRecDepth 100000
theorem OH:Va 4000000=Z wL:=by decide+kernel
end
theorem zkA{N K:wr}{u:Pz}(h:∀i,N<=i->u i=0)(a:N<=K)(t:qR):yE K (λi=>(u i:qR)) t=yE N (λi=>(u i:qR)) t:=Yj a (λi hi=>by rw[h i hi];rfl) t
theorem zmx{P:Pz}{d N:K}{β f:K->qR}(l:Ir P)(C:Tp P d)(o:∀i,β i*(P d:qR)=(P i:qR))(E:¬jZ (yE (d+1) β) (yE N f) λ_=>0):∃F,ZD F/\jZ (yE (d+1) β) (λt=>F t*yE N f t) λ_=>1:=by
 obtain⟨D,G,D0,H,p⟩:=zer f N;have rD:(D:qR)≠0:=λe=>by have:=xey.1<|e.trans (by rfl:(0:qR)=((0:K):qR));lia
 obtain⟨g,s,u,γ,L,M,⟨ns,R⟩,⟨a,T⟩,q,e,⟨w,V,r⟩,⟨v,fv,ev⟩⟩:=zl5 l.fs l.pm.nz ⟨N,p⟩;have j:∀t,yE (d+1) (λi=>(P i:qR)) t=(P d:qR)*yE (d+1) β t:=λt=>by rw[<-QP];exact jH λi _=>by rw[<-o i];grind
 have k:∀t,yE N (λi=>(G i:qR)) t=(D:qR)*yE N f t:=λt=>by rw[<-QP];exact jH λi hi=>by rw[<-H i hi];grind
 have A:∀i,d+1<=i->P i=0:=λi hi=>C.2 i W;obtain hc|hc:=l.ir w g V L r
 ·exfalso;obtain⟨c,rfl⟩:=hc.ex;have h1:c*c=1:=by rcases AN (show Pm (Q c*g)by rw[<-r];exact l.pm).left with h|h<;>rw[h]<;>rfl
  have h2:G=v*Q c*P:=by rw[ev,r,zd,<-zd<|Q c,jx,h1,zC]
  obtain⟨n,hn⟩:=fv.mul<|Fs.pc c;refine E ⟨λt=>1/(D:qR)*(P d:qR)*yE n (λi=>((v*Q c) i:qR)) t,(ZD.self _ _).smul _,λt=> ?_⟩;have m:=IH t P (d+1) A n (v*Q c) hn (N+(n+(d+1))) W;rw[<-h2,zkA p W,k,j]at m;have y:yE N f t=1/(D:qR)*((D:qR)*yE N f t):=by grind
  rw[y,m];grind
 ·obtain⟨c,rfl⟩:=hc.ex;have hd:c≠0:=by obtain h|h:=AN M<;>lia
  obtain⟨x,z⟩:∃x:J,x=γ*c:=⟨_,O⟩;have x0:x≠0:=by rw[z];exact xdH q hd
  have rx:(x:qR)≠0:=λe=>x0<|Rat.intCast_inj.1<|e.trans (by rfl:(0:qR)=((0:J):qR));refine⟨λt=>(D:qR)/(x:qR)*yE a (λi=>(u i:qR)) t,(ZD.self _ _).smul _,λt=> -((P d:qR)/(x:qR))*yE ns (λi=>(s i:qR)) t,(ZD.self _ _).smul _,λt=> ?_⟩;have m:=IH t P (d+1) A ns s R (1+(ns+a+(d+1+N))) W;have y:=IH t G N p a u T (1+(ns+a+(d+1+N))) W;have b:yE (1+(ns+a+(d+1+N))) (λi=>((Q x i:J):qR)) t=(x:qR):=by
   rw[xdR,vT,show yE _ (λi=>((Q x (i+1):J):qR)) t=0 from X4 λi _=>by show((0:J):qR)*_=0;grind];show(x:qR)+t*0=_;grind
  rw[z,<-jx,e]at b;have h6:(λi=>(((s*P+u*G) i:J):qR))=λi=>(((s*P) i:J):qR)+(((u*G) i:J):qR):=kW λi=>by rw[zP,xfX]
  rw[h6,QZ,m,y,j,k,<-z]at b;show(D:qR)/(x:qR)*yE a (λi=>(u i:qR)) t*yE N f t-1=yE (d+1) β t*(-((P d:qR)/(x:qR))*yE ns (λi=>(s i:qR)) t);generalize yE a (λi=>(u i:qR)) t=U at b⊢;generalize yE ns (λi=>(s i:qR)) t=S at b⊢;generalize yE N f t=Y at b⊢;generalize yE (d+1) β t=B at b⊢;grind
section
variable{fu d k k':wr}{r:xS Zr×xS Qr}{β:wr->qR}{m:xS Zr}
theorem zj0(M:O8 m r d β){a:xS Qr}(b:¬jZ (yE (d+1) β) (vd<|vl a) λ_=>0):∃F,ZD F/\jZ (yE (d+1) β) (λt=>F t*vd (vl a) t) λ_=>1:=zmx (N:=X (vl a)) (f:=wU<|vl a) M.pr M.tp M.at_ b
theorem PJ.nil:PJ d β (k+1) 0 [] λ_ _=>0:=⟨⟨λi=>by rw[List.getD_nil];exact Fw.nil d,λi=>by rw[List.getD_nil];exact nS.nil.ht,λh=>wS O h⟩,So _,jd.refl⟩
theorem Plm.z{l:N (N qR)}(a:β d=1)(h:Plm d β k l){i:K}(e:jZ (yE (d+1) β) (λt=>vd (vl<|(mm l).getD i []) t) λ_=>0):l.getD i []=[]:=by
 refine Fw.inj a (h.rd i) (Fw.nil d)<|jZ.trans (jZ.of λt=> ?_)<|e.trans<|jZ.of λt=>(zbC t).symm;rw[PB,oq]
theorem zoU(M:O8 m r d β){A B:xS (xS Qr)}{k4 v n1 n2:K}{o b l:xS (xS qR)}(eA:PJ d β k n1 o (QB A))(s:PJ d β k' n2 b (QB B))(e:PJ d β k4 v l λx t=>QB A x t*QB B x t):
 (o=[]\/b=[]->l=[])/\(o≠[]->b≠[]->X l+1=X o+X b):=by
 have p:=M.fl.one;have e1:jd (yE (d+1) β) (QB<|mm l) λx t=>QB (mm o) x t*QB (mm b) x t:=e.kg.trans (jd.mul (aD _) (aD _) eA.kg s.kg).symm;constructor
 ·intro h;refine Plm.inj (k':=1) p e.pl (PJ.nil (k:=0)).pl<|e1.trans<|jd.of λx t=> ?_;obtain rfl|rfl:=h
  ·show(0:qR)*_=0;grind
  ·show _*(0:qR)=0;grind
 ·intro w hc;obtain⟨n,hn⟩:∃n,X o=n+1:=⟨X o-1,by have:=xfb.2 w;lia⟩;obtain⟨a,hd⟩:∃n,X b=n+1:=⟨X b-1,by have:=xfb.2 hc;lia⟩;obtain⟨c,Q,c1,c2⟩:=zkx hn hd;obtain⟨N,E⟩:∃N,N=max (X l) (n+a+1):=⟨_,O⟩;have co:∀i,i<N->jZ (yE (d+1) β) (λt=>vd (vl<|(mm l).getD i []) t) λt=>(if i<n+a+1 then c i else λ_=>0) t:=λi hi=>by
   refine jd.coef (n:=N) (f:=λi t=>vd (vl<|(mm l).getD i []) t) (g:=λi t=>(if i<n+a+1 then c i else λ_=>0) t) ?_ hi;refine jd.trans (jd.of λx t=> ?_)<|e1.trans<|jd.of λx t=> ?_
   ·exact(JH (by rw[ZR];lia) x t).symm
   ·rw[c2];have y:=Yj (f:=λi=>(if i<n+a+1 then c i else λ_=>0) t) (W:n+a+1<=N) (λj u=>by rw[ir W]) x;rw[y];exact jH λj u=>by rw[S u]
  have hi:¬X l>n+a+1:=λh=>by
   refine e.pl.tp W<|e.pl.z p<|(co (X l-1) W).trans<|jZ.of λt=> ?_;rw[ir W]
  have lo:¬X l<n+a+1:=λh=>by
   have z:=co (n+a) W;rw[PB,W7 W]at z;have z2:jZ (yE (d+1) β) (λt=>vd (vl<|(mm o).getD n []) t*vd (vl<|(mm b).getD a []) t) λ_=>0:=by
    refine jZ.trans (jZ.of λt=> ?_)<|z.symm.trans<|jZ.of λt=> ?_
    ·rw[S W,c1]
    ·show vd (vl []) t=0;exact zbC t
   have nz:¬jZ (yE (d+1) β) (vd<|vl<|(mm o).getD n []) λ_=>0:=λh=>eA.pl.tp W (by rw[(W:X o-1=n)];exact eA.pl.z p h);obtain⟨q,C,D⟩:=zj0 M nz;have k1:jZ (yE (d+1) β) (λt=>q t*(vd (vl<|(mm o).getD n []) t*vd (vl<|(mm b).getD a []) t)) λt=>q t*0:=jZ.mul ((bH _).mul<|bH _) C jZ.refl z2;have k2:jZ (yE (d+1) β) (λt=>vd (vl<|(mm b).getD a []) t) λ_=>0:=by
    have k3:jZ (yE (d+1) β) (λt=>q t*vd (vl<|(mm o).getD n []) t*vd (vl<|(mm b).getD a []) t) λt=>1*vd (vl<|(mm b).getD a []) t:=jZ.mul (bH _) (ZD.c 1) D jZ.refl;exact jZ.trans (jZ.of λt=>by grind)<|k3.symm.trans<|(jZ.of λt=>by grind).trans<|k1.trans<|jZ.of λt=>by grind
   exact s.pl.tp W<|by rw[(W:X b-1=a)];exact s.pl.z p k2
  lia
theorem MY(M:O8 m r d β){A:N (N Qr)}{n a:K}(c:Ke (a+1) n A)(hn:n<=32)(e:a+2500<=250000)(g:3000000<=fu):
 ∃l F b,jl fu (Z r) A=Z (mm l,0)/\b9 F/\b9 b/\jd (yE (d+1) β) F (QB A)/\iG F b/\PJ d β (a+1900) n l b:=by
 obtain⟨l,l0,h1,_,h,j⟩:=zd5 (fu:=fu) M c hn e g;refine⟨l,QB<|mm l0,_,h1,aD _,b9.self (X l0-1) (f:=λi t=>((i+1:K):qR)*vd (vl<|(mm l0).getD (i+1) []) t) λi=>(bH _).smul _,h,?_,j⟩;have:=iG.self (λi t=>vd (vl<|(mm l0).getD i []) t) (X l0);refine this.of (λx t=> ?_) λx t=>O;exact(JH (by rw[ZR];exact So _) x t).symm
theorem zal(m:N Zr)(a b c:N (N Qr))(hm:(Ty.l (.p .b (.l .u))).ok m)(ha:(Ty.l (.l (.p (.p .b (.l .u)) (.l .u)))).ok a)(hb:(Ty.l (.l (.p (.p .b (.l .u)) (.l .u)))).ok b)(hc:(Ty.l (.l (.p (.p .b (.l .u)) (.l .u)))).ok c):uQ 4000000 m a b c=Z wL:=by
 obtain⟨fu,he⟩:∃fu,fu=4000000:=⟨_,O⟩;have hg:3000300<=fu:=W
 have hi:Va fu=Z wL:=by rw[he];exact OH
 rw[<-he];unfold uQ;obtain⟨q1,p,h1,H⟩:=zdy (fu:=fu) hm hg;rw[U hi,U h1];simp only;obtain rfl|⟨r,d,β,rfl,M⟩:=H
 ·rfl
 rw[ir mK];obtain⟨cc,h3,h4⟩:=zfO (fu:=fu) (n:=3) (ls:=[a,b,c]) mK mD W;have hj:VL fu 3 [a,b,c]=Z cc:=h3;rw[U hj]
 cases cc with
 |false=>rfl
 |true=>
  rw[ir mD];have P:=h4 O;have fa:=P 0 mK;have i:Ke (256+1) 3 a:=zam ha fa;have ob:Ke (256+1) 3 b:=zam hb (P 1 mK);have K:Ke (256+1) 3 c:=zam hc (P 2 mK);have hk:=M.d4;have hd:d<=32:=W
  have e:3000000<=fu:=W
  have f:=M.fl.one;obtain⟨t2,a2,e2⟩:=RL (fu:=fu) M i mD mD e;obtain⟨t3,a3,e3⟩:=RL (fu:=fu) M ob mD mD e;obtain⟨t4,a4,q⟩:=QX (fu:=fu) M i ob mD mD mD e;obtain⟨t5,a5,e5⟩:=QX (fu:=fu) M ob i mD mD mD e;obtain⟨t6,a6,e6⟩:=QX (fu:=fu) M ob K mD mD mD e;have L:Ke (6359+1) 6 (mm t4):=q.op hd mD;have o6:Ke (6359+1) 6 (mm t6):=e6.op hd mD;obtain⟨t7,a7,Q⟩:=QX (fu:=fu) M L K mD mD mD e;obtain⟨t8,a8,e8⟩:=QX (fu:=fu) M i o6 mD mD mD e;obtain⟨t9,a9,e9⟩:=NB (fu:=fu) M ob K mD mD e;have o9:Ke (1241+1) 3 (mm t9):=e9.op hd mD;obtain⟨t10,R,j⟩:=QX (fu:=fu) M i o9 mD mD mD e;obtain⟨t11,T,v⟩:=QX (fu:=fu) M i K mD mD mD e;have V:Ke (6359+1) 6 (mm t11):=v.op hd mD;obtain⟨t12,a0,w⟩:=NB (fu:=fu) M L V mD mD e;obtain⟨t13,FA,y,a1,pA,z,kA,dA,A⟩:=MY (fu:=fu) M i mD mD e;obtain⟨t14,FB,B,b0,pB,b1,kB,dB,C⟩:=MY (fu:=fu) M ob mD mD e;have b2:Ke (2155+1) 3 (mm t13):=A.op hd mD;have b3:Ke (2155+1) 3 (mm t14):=C.op hd mD;obtain⟨t15,b4,D⟩:=QX (fu:=fu) M b2 ob mD mD mD e;obtain⟨t16,c0,E⟩:=QX (fu:=fu) M i b3 mD mD mD e;have c1:Ke (12056+1) 6 (mm t15):=D.op hd mD;have c2:Ke (12056+1) 6 (mm t16):=E.op hd mD;obtain⟨t17,c7,o⟩:=NB (fu:=fu) M c1 c2 mD mD e;obtain⟨t18,F4,F,c8,p4,h6,k4,d4,G⟩:=MY (fu:=fu) M L mD mD e;have s:=aD a;have yb:=aD b;have yc:=aD c;have k7:=Q.kg.trans<|jd.mul yc (s.mul yb) q.kg jd.refl;have k8:=e8.kg.trans<|jd.mul (aD _) s jd.refl e6.kg;have c9:=j.kg.trans<|jd.mul (aD _) s jd.refl e9.kg;have e0:=w.kg.trans<|q.kg.add v.kg;have e1:=o.kg.trans<|(D.kg.trans<|jd.mul yb z A.kg jd.refl).add<|E.kg.trans<|jd.mul (aD _) s jd.refl C.kg;have g0:jd (yE (d+1) β) F λx t=>y x t*FB x t+FA x t*B x t:=iG.kg d4 (dA.mul dB)<|(k4.trans q.kg).trans (jd.mul pB s kA kB).symm;have g3:jd (yE (d+1) β) F λx t=>y x t*QB b x t+QB a x t*B x t:=g0.trans<|(jd.mul pB z jd.refl kB).add<|jd.mul b1 s kA jd.refl;have q5:t5=t4:=e5.eq f q λx t=>by grind
  have q8:t8=t7:=Plm.inj f e8.pl Q.pl<|k8.trans<|(jd.of λx t=>by grind).trans k7.symm;have g4:t12=t10:=Plm.inj f w.pl j.pl<|e0.trans<|(jd.of λx t=>by grind).trans c9.symm;have g5:t18=t17:=Plm.inj f G.pl o.pl<|(G.kg.trans g3).trans e1.symm;obtain⟨g1,g2⟩:=zoU M e2 e3 q;have o7:=Q.op hd mD;have g6:=j.op hd mD;have g7:=o.op hd mD;have s4:=Kx (fu:=fu) L mD e;have s7:=Kx (fu:=fu) o7 mD e;have g8:=Kx (fu:=fu) g6 mD e;have g9:=Kx (fu:=fu) g7 mD e;rw[U a2,U a3];simp only;rw[U a4,U a5,U a6];simp only;rw[U a7,U a8,U a9];simp only;rw[U R,U T];simp only;rw[U a0,U a1,U b0];simp only;rw[U b4,U c0];simp only;rw[U c7,U c8];simp only[uS];rw[q5,q8,g4,g5,ZR,ZR,ZR];have g:Y (ym fu (mm t4)<|mm t4) (λc3=>if c3=wL then Y (ym fu (mm t7)<|mm t7) (λc4=>if c4=wL then Y (ym fu (mm t10)<|mm t10) (λc5=>if c5=wL then Y (ym fu (mm t17)<|mm t17) (λc6=>Z c6)else Z I)else Z I)else Z I)=Z wL:=by rw[U s4,S O,U s7,S O,U g8,S O,U g9]
  by_cases hz:t2=[]\/t3=[]
  ·have h0:=g1 hz;rw[S<|by rw[h0];rfl];obtain hz|hz:=hz
   ·rw[S<|by rw[hz];rfl];exact g
   ·by_cases H:(X t2:J)=0
    ·rw[S H];exact g
    ·rw[ir H,S<|by rw[hz];rfl];exact g
  ·have n2:t2≠[]:=λh=>hz (.inl h);have n3:t3≠[]:=λh=>hz (.inr h);have hl:=g2 n2 n3;have:=xfb.2 n2;have:=xfb.2 n3;have:=e2.ln;have:=e3.ln;rw[ir W,S W,jL ⟨W,W⟩,jL ⟨W,W⟩,S W];exact g
end
section
namespace npolyRing
open Go.ChangeShapes Go.WideShapes Go.ChangeAt Go.RowKit
theorem own:ownKnob Tryz.prog.godebug=wF:=mS
theorem atW:Xu Tryz.prog .u 73:=id (by kernel_rfl:Tryz.prog.underlying 73=Z (.int .u64))
theorem atB:Xu Tryz.prog .b 4:=id (by kernel_rfl:Tryz.prog.underlying 4=Z .bool)
theorem atL:Xu Tryz.prog (.l .u) 42:=Xu.sl (E:=73) mS mS mD atW
theorem atZ:Xu Tryz.prog (.p .b (.l .u)) 44:=Xu.st (A:=4) (B:=42) mS mS mS mS atB atL
theorem atP:Xu Tryz.prog (.l (.p .b (.l .u))) 22:=Xu.sl (E:=44) mS mS mD atZ
theorem atQ:Xu Tryz.prog (.p (.p .b (.l .u)) (.l .u)) 46:=Xu.st (A:=44) (B:=42) mS mS mS mS atZ atL
theorem atR:Xu Tryz.prog (.l (.p (.p .b (.l .u)) (.l .u))) 41:=Xu.sl (E:=46) mS mS mD atQ
theorem znr:Xu Tryz.prog (.l (.l (.p (.p .b (.l .u)) (.l .u)))) 23:=Xu.sl (E:=41) mS mS mD atR
def sgO(M:UU [.d (.l (.p .b (.l .u))),.d (.l (.l (.p (.p .b (.l .u)) (.l .u)))),.d (.l (.l (.p (.p .b (.l .u)) (.l .u)))),.d (.l (.l (.p (.p .b (.l .u)) (.l .u))))]->V v6):XW:=⟨6,[.d (.l (.p .b (.l .u))),.d (.l (.l (.p (.p .b (.l .u)) (.l .u)))),.d (.l (.l (.p (.p .b (.l .u)) (.l .u)))),.d (.l (.l (.p (.p .b (.l .u)) (.l .u))))],[.d .b],M,0⟩
set_option maxRecDepth 100000 in
theorem lifted{M:UU [.d (.l (.p .b (.l .u))),.d (.l (.l (.p (.p .b (.l .u)) (.l .u)))),.d (.l (.l (.p (.p .b (.l .u)) (.l .u)))),.d (.l (.l (.p (.p .b (.l .u)) (.l .u))))]->V v6}(h:yY Tryz.prog (sgO M))(i:∀x,zfp [.d (.l (.p .b (.l .u))),.d (.l (.l (.p (.p .b (.l .u)) (.l .u)))),.d (.l (.l (.p (.p .b (.l .u)) (.l .u)))),.d (.l (.l (.p (.p .b (.l .u)) (.l .u))))] x->M x=Z wL)(os:Os)(a:os.Started)(H:Type)(enc:wT×wN->H):
 ReturnsInHanded {} Tryz.checked os 6 .any (Rows.npolyRingSpec.pre6 enc Tryz.prog Tryz.f6 Rows.npolyRingRow.domain I) (Rows.npolyRingSpec.post enc Tryz.prog Tryz.f6 I wL I I):=by
 refine returnsInHanded_of_change (C:=Tryz.checked) own a mS Tryz.func6
  (ChangeSpec.witness6 (enc:=enc) (C:=Tryz.checked) I ⟨#[],#[.slice wF 0 0,.slice wF 0 0,.slice wF 0 0,.slice wF 0 0],[]⟩ 8 mS mS mS mS) ?_
 intro W c args ds F e k f G _;have hc:∀(j:K) t v,Tryz.f6.params[j]? =Z t->args[j]? =Z v->xeA Tryz.prog W .any c t v:=k;have hd:=f;obtain⟨p,q,m,n,_,_,_⟩:=f;have g:xeT enc Tryz.prog W 0 (λ_=>wL) wL Tryz.f6.params.toList args.toList ds p:=m;rw[Tryz.params6]at g;obtain⟨v0,o,d0,r,p0,q0,J,rfl,_,_,r0⟩:=trodAll_cons g;obtain⟨v1,s,d1,w,L,q1,_,rfl,_,_,r1⟩:=trodAll_cons r0;obtain⟨N,vs2,d2,y,P,q2,_,rfl,_,_,r2⟩:=trodAll_cons r1;obtain⟨v3,z,d3,A,Q,R,_,rfl,_,_,D⟩:=trodAll_cons r2;obtain⟨_,rfl,_⟩:=trodAll_nil D;obtain⟨rfl,_⟩:=trodVars_none n
 exact zkV (sg:=sgO M) hd O hc mS (by rw[Tryz.params6];decide+kernel) (by rw[Tryz.params6];exact⟨atP,znr,znr,znr,wR⟩) O h
  (λx E=>i x E) (B:=4) mS Tryz.underlying4 O
set_option maxRecDepth 100000 in
theorem fnm:Tryz.pinned.checked.prog.funcNamed Rows.npolyRingRow.func=Z 6:=mS
set_option maxRecDepth 100000 in
set_option maxHeartbeats 4000000 in
theorem jf:joinedFacts Tryz.pinned.checked.prog 6 Tryz.f6 Rows.npolyRingSpec Rows.npolyRingRow=wL:=by
 unfold joinedFacts;simp only[xad];repeat' apply xfF
 all_goals (as_aux_lemma=>kernel_rfl)
theorem over:Rows.npolyRingRow.holds Tryz.pinned (OpenSpec.ofChange Rows.npolyRingSpec):=
 OpenClaim.holds_of_wide 6 Tryz.f6 O O O O O O O ⟨O,O,O,O,O⟩ O O O O O fnm Tryz.func6 jf
  (Wr mS) (by unfold Func.isWrapper;first|(rw[S<|by decide+kernel];kernel_rfl)|(rw[ir<|by decide+kernel];exact⟨O,O⟩))
  (λos a H enc _=>lifted (M:=λx=>uQ 4000000 x.1 x.2.1 x.2.2.1 x.2.2.2.1) (oH 4000000) (λx b=>zal x.1 x.2.1 x.2.2.1 x.2.2.2.1 b.1 b.2.1 b.2.2.1 b.2.2.2.1) os a H enc)
theorem proved:Rows.NpolyRingSaid:=
 over
end npolyRing
end
end Go.Proofs.YtoegnnjcmlghhaaGreat
