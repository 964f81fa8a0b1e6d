/- What a proof needs: rules of walking, mirrors of functions and their plain laws. No condition. -/
import Derived.Test.YtoegnnjcmlghhaaGreatZm6
set_option linter.all false
namespace Go.Proofs.YtoegnnjcmlghhaaGreat
open Bool renaming false->I,true->wL
open Go renaming Deferred->lm
open Go.Proofs.YtoegnnjcmlghhaaGreat renaming Zr->M,cf->G,bd->Y,za->U,ci->C,nm->B,cC->D,zp->F,pc->Q,ze->A,iq->S
open List renaming length->X
open Nat renaming beq->E
open Option renaming some->Z
open _root_ renaming rfl->O,List->N,Int->J,Nat->K,Option->V,List->xS,Int->wn,Nat->wr,trivial->wR,absurd->wS,Bool->v6,Rat->qR,funext->kW,congrArg->uL,if_false->uP,if_true->uS,True->Xs,decide_eq_true->Wd,decide_eq_false->Wl,of_decide_eq_true->Wr,congrFun->Ww,Decidable->QR,False->KW,if_pos->bi
open Bool renaming false_eq_true->xai
open Classical renaming byContradiction->xak,choose_spec->xfH
open Int renaming add_zero->xbW,dvd_mul_left->xcJ,dvd_mul_right->xbY,dvd_of_emod_eq_zero->xaF,dvd_refl->xek,dvd_sub->xdu,dvd_trans->xbu,dvd_zero->xdD,emod_emod->xaQ,emod_emod_of_dvd->xcA,emod_eq_emod_iff_emod_sub_eq_zero->xaL,emod_eq_of_lt->xaH,emod_eq_zero_of_dvd->xax,emod_lt_of_pos->xdK,emod_nonneg->xcH,eq_ofNat_of_zero_le->xaC,le_refl->xfW,mul_assoc->xcY,mul_comm->xbJ,mul_dvd_mul->xfV,mul_emod->xcd,mul_eq_zero->xeQ,mul_le_mul_of_nonneg_left->xaU,mul_ne_zero->xdH,mul_nonneg->xcx,mul_one->xcQ,mul_zero->xaA,natAbs_dvd_natAbs->xcl,natAbs_ediv_le_natAbs->xbB,natAbs_mul->xcw,natAbs_natCast->xaG,natCast_add->xfm,natCast_dvd_natCast->xcO,one_mul->xdd,pow_succ->xbP,pow_zero->xce,sub_self->xel,sub_zero->xdh,tdiv->xdx,tdiv_eq_ediv_of_nonneg->xeV,tmod->xcB,toNat_natCast->xaZ,toNat_of_nonneg->xdc,zero_add->xcI,zero_ediv->xem,zero_emod->xap,zero_mul->xba
open List renaming append_assoc->xaq,append_nil->xbm,append_of_mem->xeo,cons_append->xbL,drop->xdO,ext_getElem?->xcv,filter_cons->xfK,filter_cons_of_neg->xfq,filter_cons_of_pos->xfp,getD_eq_getElem?_getD->UV,getElem?_append_left->xbb,getElem?_append_right->xbr,getElem?_drop->xfh,getElem?_eq_getElem->xab,getElem?_eq_none->xbn,getElem?_map->xbX,getElem?_replicate->xcN,getElem_mem->xbG,getElem_of_mem->xcZ,length->xaI,length_append->xat,length_cons->xaw,length_drop->xch,length_eq_zero_iff->xbE,length_filter_le->xfI,length_map->xav,length_nil->xbT,length_pos_of_mem->xft,length_range->xex,length_replicate->xaM,length_set->xbg,length_take->xar,map_append->xaR,map_congr_left->xcc,map_cons->xbQ,map_map->xdg,map_nil->xdS,map_take->xfl,mem_append->xaa,mem_append_left->xdP,mem_append_right->xep,mem_cons->xah,mem_cons_of_mem->FS,mem_cons_self->IR,mem_filter->xbU,mem_iff_getElem->xcq,mem_map->xas,mem_map_of_mem->xbF,mem_of_getElem?->xbt,mem_or_eq_of_mem_set->xdz,mem_range->xbd,mem_replicate->xen,mem_singleton->xac,nodup_cons->xfo,not_mem_nil->H1,pairwise_append->xdn,pairwise_cons->xdk,pairwise_iff_forall_sublist->xdr,pairwise_iff_getElem->xcU,pairwise_map->xez,perm_middle->xbZ,range->xaO,range_succ->xdj,replicate->Nm,take->xdB,take_add_one->xeU,take_length->xca,take_of_length_le->xaW
open List.Perm renaming append_left->xbo,refl->xdy
open Nat renaming add_assoc->xcK,add_comm->xdR,add_mul->xbi,add_zero->xbM,div_div_eq_div_mul->xaD,div_eq_of_lt->xbh,div_one->xer,eq_of_beq_eq_true->xde,eq_zero_or_pos->xcs,gcd->xdq,gcd_dvd_left->xfL,gcd_dvd_right->xdv,le_refl->So,le_trans->xal,lt_irrefl->xfR,lt_of_le_of_lt->xaK,lt_of_lt_of_le->xag,lt_of_not_le->xdp,lt_succ_self->xdM,lt_trichotomy->xfy,min_eq_left->xck,mul_comm->xaS,mul_le_mul->xcf,mul_le_mul_left->xaE,mul_le_mul_right->xaj,mul_lt_mul''->xci,mul_one->xeI,mul_pos->xdL,not_lt_zero->xbc,one_mul->xcP,pos_of_ne_zero->xcR,pow_add->xbj,pow_le_pow_right->xam,pow_lt_pow_right->xfO,pow_mul->xcg,pow_pos->xaY,pow_succ->xbw,pow_zero->xfe,strongRecOn->xdA,sub_self->xcE,succ_mul->xeB,two_pow_pos->xdZ,zero_le->xae
open Option renaming getD_some->xcX
open Rat renaming add_zero->xfg,intCast_add->xfX,intCast_mul->xcu,natCast_inj->xey,natCast_mul->xdG,zero_mul->xeR
section
variable{fu d b k:wr}{r:xS Zr×xS Qr}{β:wr->qR}
def zjB(F:Fld r d b β){l:N qR}{e:K}(hl:Ht k l)(u:d<=e)(hc:e<X l)(v:X l<=1000)(w:k+b+1<=256000)(g:3000000<=fu):
 ∃y,zg (Yy fu (e:J) r (d:J)) fu (0,l.map cq,cq<|wU l e)=Z y/\∃a,y=a.map cq/\X a=X l/\∀i,wU a i=if e-d<=i/\i<e then wU l i-wU l e*β (i-(e-d))else wU l i:=by
 have hd:=F.d2;refine zX (λs=>∃(m:K) (l1:N qR),s=((m:J),l1.map cq,cq<|wU l e)/\m<=d/\X l1=X l/\∀i,wU l1 i=if e-d<=i/\i<e-d+m then wU l i-wU l e*β (i-(e-d))else wU l i) (λs=>d-s.1.toNat) _ ?_ fu _ ⟨0,l,O,xae _,O,λi=>by rw[zD]⟩ (by show d-(0:J).toNat<fu;lia);rintro _ L ⟨m,l1,rfl,n,h1,f⟩ o;unfold Yy;simp only;by_cases p:m=d;rw[zD,U O];simp only[xai,uP];exact⟨_,O,l1,O,h1,λi=>by rw[f];congr 1;rw[p,(W:e-d+d=e)]⟩;rw[yg,U O];simp only[uS];have e1:(e:J)-d=((e-d:K):J):=W
 have j:((e-d:K):J)+m=((e-d+m:K):J):=W
 rw[e1,zb,j,zb,zb,j,zb,zn (by rw[xav];lia),A,DZ,zn (by rw[F.len];lia),A,F.at_ m n];have q:Aq (wU l e):=hl.hs W;have t:Aq (β m):=(F.ht.hx m).hs W;have a3:Aq (wU l e*β m):=((sF.hx hl e).mul<|F.ht.hx m).hs W;have a4:wU l1 (e-d+m)=wU l (e-d+m):=by rw[f,zD]
 have a5:Aq (wU l<|e-d+m):=hl.hs W;rw[a4,U<|bF q.rs t.rs g,Kp,Kp,U<|Nu a5.rs a3.rs g,Kp,Kp,zn (by rw[xav];lia),A,zb,<-List.map_set];refine o _ ⟨m+1,_,O,W,by rw[xbg,h1],λi=> ?_⟩ (by show d-((m:J)+1).toNat<d-(m:J).toNat;lia);rw[Nq W];unfold upq;by_cases c:i=e-d+m;rw[S c,yg,c,(W:e-d+m-(e-d)=m)];rw[ir c,f];congr 1;exact propext ⟨λh=>by lia,λh=>by lia⟩
theorem zcP(F:Fld r d b β){l a:N qR}{e:K}(s:d<=e)(j:X l=e+1)(hl:Ht k l)(h1:X a=X l)(f:∀i,wU a i=if e-d<=i/\i<e then wU l i-wU l e*β (i-(e-d))else wU l i):
 jZ (yE (d+1) β) (vd<|a.take e) (vd l)/\Ht (k+b+1) (a.take e):=by
 constructor;refine⟨_,((ZD.self (e-d+1) (λi=>if i=e-d then 1 else 0)).smul (-wU l e)),λt=> ?_⟩;have g1:vd (a.take e) t=yE e (wU l) t+ -1*yE e (λi=>if e-d<=i/\i<e then wU l e*β (i-(e-d))else 0) t:=by rw[be (n:=e) (by rw[xar];lia),<-QP,<-QZ];refine q7 λi hi=> ?_;rw[Dj hi,f];split<;>grind
 have h:=gP (β:=β) (g:=λi=>if e-d<=i/\i<e then wU l e*β (i-(e-d))else 0) (c:=wU l e) (e:=e-d) (λi hi=>by rw[zD]) d (λi hi=>by rw[yg,(W:e-d+i-(e-d)=i)]) t;rw[(W:e-d+d=e)]at h;have m:vd l t=yE e (wU l) t+wU l e*t^e:=by unfold vd;rw[j];rfl
 have o:yE (d+1) β t=yE d β t+1*t^d:=by rw[<-F.one];rfl
 have p:yE (e-d+1) (λi=>if i=e-d then 1 else 0) t=t^(e-d):=by show yE (e-d) _ t+(if e-d=e-d then(1:qR)else 0)*t^(e-d)=_;rw[S O,show yE (e-d) (λi=>if i=e-d then 1 else 0) t=0 from X4 λi hi=>by show(if i=e-d then(1:qR)else 0)*t^i=0;rw[zD,xeR]];grind
 have q:t^e=t^(e-d)*t^d:=by rw[<-UR,(W:e-d+d=e)]
 rw[g1,h,m,o,p,q];grind
 exact Ht.take (sF.less (e:=e) hl F.ht λi=>by
  rw[f];by_cases c:e-d<=i/\i<e;exact .inr ⟨_,S c⟩;exact .inl<|ir c)
def zkL(F:Fld r d b β){k0 n0:K}{l0:N qR}(h0:Ht k0 l0)(hn:X l0=n0)(E:n0<=100)(G:k0+n0*(b+1)<=255000)(o:3000000<=fu):
 ∃y,zg (YA fu r (d:J)) fu (l0.map cq,(n0:J)-1)=Z y/\∃q,(y=.inl (q.map cq)\/y=.inr (q.map cq))/\Fw d q/\jZ (yE (d+1) β) (vd q) (vd l0)/\Ht (k0+n0*(b+1)) q:=by
 have hd:=F.d2;have H:=F.b2;refine zX (λs=>∃(l:N qR) (j:K),s=(l.map cq,(X l:J)-1)/\X l+j=n0/\jZ (yE (d+1) β) (vd l) (vd l0)/\Ht (k0+j*(b+1)) l) (λs=>X s.1) _ ?_ fu _ ⟨l0,0,by rw[hn],W,jZ.refl,by simpa using h0⟩ (by show(l0.map cq).length<fu;rw[xav];lia);rintro _ L ⟨l,j,rfl,M,c,a⟩ p;have P:j*(b+1)<=n0*(b+1):=xaj _ W;unfold YA;simp only;by_cases v:X l=0
 rw[zD];refine⟨_,O,l,.inl O,?_,c,a.mono W⟩;rw[xbE.1 v];exact Fw.nil d;have⟨e,g⟩:∃e,X l=e+1:=⟨X l-1,W⟩;have e1:(X l:J)-1=(e:J):=W
 rw[e1,yg,zn (by rw[xav];lia),A,DZ];by_cases hl:d<=e;rw[yg,U O];simp only[uS];obtain⟨_,h1,u,rfl,w,x⟩:=zjB F a hl W W W o;have⟨z,B⟩:=zcP F hl g a w x;have m:X (u.take e)=e:=by rw[xar];lia
 rw[U h1,yI,wM (by rw[xav];lia),A,zb,<-xfl];exact p _ ⟨_,j+1,by rw[m],W,z.trans c,B.mono<|by rw[xeB];lia⟩ (by show(((u.take e).map cq)).length<X (l.map cq);rw[xav,xav];lia);rw[zD,U O];simp only[xai,uP];have C:Aq (wU l e):=a.hs W;rw[U<|Gy C.rs o,Kp];by_cases hc:wU l e=0
 rw[S<|GI.2 hc,yI,wM (by rw[xav];lia),A,zb,<-xfl];have m:X (l.take e)=e:=by rw[xar];lia
 refine p _ ⟨_,j+1,by rw[m],W,jZ.trans (jZ.of λt=> ?_) c,a.take.mono<|by rw[xeB];lia⟩ (by show((l.take e).map cq).length<X (l.map cq);rw[xav,xav];lia);rw[be (n:=e) W];show _=yE (X l) (wU l) t;rw[g];show _=yE e (wU l) t+wU l e*t^e;rw[hc,xeR,xfg];exact q7 λi hi=>by rw[Dj hi]
 rw[ir<|λh=>hc<|GI.1 h,zb];have D:(e:J)+1=((e+1:K):J):=W
 rw[D,yI,wM (by rw[xav];lia),A,<-g,<-xav (f:=cq),xca];exact⟨_,O,l,.inr O,⟨W,λ_=>by rw[g];exact hc⟩,c,a.mono W⟩
def zj1{a:N Qr}(e:∀x∈a,Kg x)(hn:X a<=100)(f:3000000<=fu):zg (YB fu r a) fu (0,Nm (X a) ((I,[]),[]))=Z ((a.map qv).map cq):=by
 refine zA (λs=>∃m:K,m<=X a/\s=((m:J),((a.take m).map qv).map cq++Nm (X a-m) ((I,[]),[]))) (λs=>X a-s.1.toNat) _ ?_ fu _ ⟨0,W,mK⟩ (by show X a-(0:J).toNat<fu;lia);rintro _ L ⟨m,j,rfl⟩ g;unfold YB;simp only;by_cases h:m=X a;rw[zD,U O];simp[h];rw[yg,U O];simp only[uS];have i:Kg (a.getD m ((I,[]),[])):=by
  have c:m<X a:=W
  rw[UV,xab c];exact e _<|xbG c
 rw[yo,A,U<|jN i f,zn (by simp;lia),A,zb,Ln (by simp;lia) W];refine g _ ⟨m+1,W,?_⟩ (by show X a-((m:J)+1).toNat<X a-(m:J).toNat;lia);have c:m<X a:=W
 rw[xeU,xab c,UV,xab c];simp only[Option.toList,xcX,xaR,xbQ,xdS];rfl
def cZ(F:Fld r d b β){a:N Qr}(e:∀x∈a,Kg x)(hn:X a<=100)(f:Ht k (a.map qv))(g:k+X a*(b+1)<=255000)(c:3000000<=fu):
 ∃q,xy fu r a=Z (q.map cq)/\Fw d q/\jZ (yE (d+1) β) (vd q) (vd<|a.map qv)/\Ht (k+X a*(b+1)) q:=by
 have hd:=F.d2;have⟨y,h1,q,h,i⟩:=zkL F f (xav _) hn g c;refine⟨q,?_,i⟩;unfold xy;rw[yI,y8,A,U<|zj1 e hn c,F.len,zb,xav,xav,zb,(W:((d+1:K):J)-1=(d:J)),U h1];obtain rfl|rfl:=h<;>rfl
end
section
variable{fu d b j k:wr}{r:xS Zr×xS Qr}{β:wr->qR}
def vl(a:N Qr):N qR:=a.map qv
def AJ(a:N Qr)(i:K):wU (vl a) i=qv (a.getD i ((I,[]),[])):=by unfold wU vl;rw[UV,UV,xbX];cases a[i]? <;>simp[Tj]
def zek{a:N Qr}{i:K}{v:qR}:vl (a.set i<|cq v)=(vl a).set i v:=by unfold vl;rw[List.map_set,Kp]
def oq(l:N qR):vl (l.map cq)=l:=by unfold vl;rw[xdg];exact(xcc λx _=>Kp x).trans<|List.map_id l
def ed(a:N Qr):X (vl a)=X a:=xav _
def Mm{a:N Qr}(c:∀x∈a,Kg x)(i:K):Kg (a.getD i ((I,[]),[])):=by
 rw[UV]
 cases h:a[i]? with
 |none=>exact Kg.nil
 |some x=>exact c x<|xbt h
def zbi{a:N Qr}(c:∀x∈a,Kg x){i:K}{v:qR}(hv:Aq v):∀x∈a.set i (cq v),Kg x:=λx e=>by
 obtain h|h:=xdz e
 exact c x h;rw[h];exact hv.rs
def zi4(n:K):∀x∈Nm n (((I,[]),[]):Qr),Kg x:=λx a=>by rw[(xen.1 a).2];exact Kg.nil
def zmr{l:N qR}{k:K}(h:Ht k l)(a:k<=256000):∀x∈l.map cq,Kg x:=λx c=>by
 obtain⟨y,f,rfl⟩:=xas.1 c;have⟨i,hi,e⟩:=xcq.1 f;have:=h.hs (i:=i) a;unfold wU at this;rw[UV,xab hi,xcX,e]at this;exact this.rs
def ze7{q:N qR}{o:N Qr}{i2:J}{i1:K}{x:qR}{t7:N Qr}(l:∀x∈o,Kg x)(hl:i1+X q<=X o)(h1:X o<=1000)(n:Aq x)(p:∀m,Aq<|wU q m)(t:∀m,Aq<|x*wU q m)(u:∀j m,Aq<|wU (vl o) j+x*wU q m)(g:3000000<=fu):
 ∃y,zg (kL fu (i1:J) (q.map cq) r t7 i2) fu (0,q.map cq,o,cq x)=Z y/\∃a,y=(q.map cq,a)/\(∀x∈a,Kg x)/\X a=X o/\∀j,wU (vl a) j=wU (vl o) j+(if i1<=j/\j<i1+X q then x*wU q (j-i1)else 0):=by
 refine zX (λs=>∃(m:K) (o1:N Qr),s=((m:J),q.map cq,o1,cq x)/\m<=X q/\(∀x∈o1,Kg x)/\X o1=X o/\∀j,wU (vl o1) j=wU (vl o) j+(if i1<=j/\j<i1+m then x*wU q (j-i1)else 0)) (λs=>X q-s.1.toNat) _ ?_ fu _ ⟨0,o,O,xae _,l,O,λj=>by rw[zD,xfg]⟩ (by show X q-(0:J).toNat<fu;lia);rintro _ L ⟨m,o1,rfl,B,e,i,f⟩ v;unfold kL;simp only;rw[xav];by_cases hc:m=X q;rw[zD,U O];simp only[xai,uP];exact⟨_,O,o1,O,e,i,λj=>by rw[f,hc]⟩;rw[yg,U O];simp only[uS];have w:(i1:J)+m=((i1+m:K):J):=W
 have z:qv (o1.getD (i1+m) ((I,[]),[]))=wU (vl o) (i1+m):=by rw[<-AJ,f,zD,xfg]
 rw[yo,A,DZ,w,zb,zb,yo,A,U<|bF n.rs (p m).rs g,Kp,Kp,U<|rk (Mm e _) (t m).rs g,Kp,z,yo,A,zb];refine v _ ⟨m+1,_,O,W,zbi e<|u _ _,by rw[xbg,i],λj=> ?_⟩ (by show X q-((m:J)+1).toNat<X q-(m:J).toNat;lia);rw[zek,Nq<|by rw[ed];lia];unfold upq;by_cases c:j=i1+m;rw[S c,yg,c,(W:i1+m-i1=m)];rw[ir c,f];congr 2;exact propext ⟨λh=>by lia,λh=>by lia⟩
def za5{D:wr}{x:qR}{n:J}{K:wr}(h0:0<D)(h1:D<2^K)(a:x*D=n)(c:n.natAbs<2^K)(e:K<=256000:=by lia):Aq x:=Hx.hs ⟨D,h0,h1,n,a,c⟩ e
theorem zgx{p q:N qR}(hp:Ht j p)(H:Ht k q)(hc:X p<=16)(hd:X q<=16)(hK:j+k+5<=255000)(M:3000000<=fu):
 ∃y,zg (kT fu r<|p.map cq) fu (0,q.map cq,Nm (X p+X q) ((I,[]),[]))=Z y/\(∀x∈y,Kg x)/\X y=X p+X q/\Ht (j+k+5) (vl y)/\∀t,vd (vl y) t=vd p t*vd q t:=by
 have⟨D,d0,d1,w⟩:=hp;have⟨E,e0,e1,z⟩:=H;have w1:D*E<2^(j+k):=by rw[xbj];exact xci d1 e1
 have w2:2^(j+k+5)=2^(j+k)*32:=xbj 2 (j+k) 5;have cx:∀i m,∃n:J,wU p i*wU q m*((D*E:wr):qR)=n/\n.natAbs<2^(j+k):=λi m=>by
  have⟨n,a,h⟩:=w i;have⟨u,b1,b2⟩:=z m;exact⟨n*u,by rw[xdG,xcu,<-a,<-b1];grind,vo h b2⟩
 refine zX (λs=>∃(m:wr) (o:N Qr),s=((m:J),q.map cq,o)/\m<=X p/\(∀x∈o,Kg x)/\X o=X p+X q/\(∀i,∃n:J,wU (vl o) i*((D*E:wr):qR)=n/\n.natAbs<=m*2^(j+k))/\∀t,vd (vl o) t=yE m (wU p) t*vd q t) (λs=>X p-s.1.toNat) _ ?_ fu _ ⟨0,_,O,xae _,zi4 _,xaM,λi=>⟨0,by rw[AJ];simp[UV,xcN];split<;>simp[Tj],mK⟩,λt=> ?_⟩ (by show X p-(0:J).toNat<fu;lia);rintro _ L ⟨m,o,rfl,hm,h1,B,v,C⟩ P;unfold kT;simp only;rw[xav];by_cases Q:m=X p;rw[zD,U O];simp only[xai,uP];refine⟨_,O,h1,B,⟨D*E,xdL d0 e0,W,λi=> ?_⟩,λt=>by rw[C,Q];rfl⟩;have⟨n,a,h⟩:=v i;have:m*2^(j+k)<=16*2^(j+k):=xaj _ W;have:=xdZ<|j+k;exact⟨n,a,W⟩;rw[yg,U O];simp only[uS];have w3:m*2^(j+k)<=16*2^(j+k):=xaj _ W;have w4:=xdZ<|j+k;have e5:=xam (mD:0<2) (W:j<=j+k+5);have e6:=xam (mD:0<2) (W:k<=j+k+5);have R:Aq (wU p m):=by have⟨n,a,h⟩:=w m;exact za5 (K:=j+k+5) d0 W a W
 have S:∀i,Aq (wU q i):=λi=>by have⟨n,a,h⟩:=z i;exact za5 (K:=j+k+5) e0 W a W
 have T:∀i,Aq (wU p m*wU q i):=λi=>by have⟨n,a,h⟩:=cx m i;exact za5 (K:=j+k+5) (xdL d0 e0) W a W
 have F:∀i l,∃n:J,(wU (vl o) i+wU p m*wU q l)*((D*E:wr):qR)=n/\n.natAbs<=(m+1)*2^(j+k):=λi l=>by
  have⟨n,a,h⟩:=cx m l;have⟨u,b1,b2⟩:=v i;refine⟨u+n,by rw[xfX,<-a,<-b1];grind,?_⟩;rw[xeB];lia
 have V:∀i l,Aq (wU (vl o) i+wU p m*wU q l):=λi l=>by
  have⟨n,a,h⟩:=F i l;rw[xeB]at h;exact za5 (K:=j+k+5) (xdL d0 e0) W a W
 rw[zn (by rw[xav];lia),A,DZ];obtain⟨_,g1,Y,rfl,g2,g3,G⟩:=ze7 (fu:=fu) (r:=r) (i2:=(X p:J)) (i1:=m) (x:=wU p m) (t7:=p.map cq) h1 W W R S T V M;rw[U g1];simp only;rw[zb];refine P _ ⟨m+1,_,O,W,g2,g3.trans B,λi=> ?_,λt=> ?_⟩ (by show X p-((m:J)+1).toNat<X p-(m:J).toNat;lia);rw[G];split;exact F _ _;have⟨n,a,h⟩:=v i;exact⟨n,by rw[xfg];exact a,by rw[xeB];lia⟩;have c1:vd (vl Y) t=vd (vl o) t+yE (X p+X q) (λi=>if m<=i/\i<m+X q then wU p m*wU q (i-m)else 0) t:=by rw[be (n:=X p+X q) (by rw[ed];lia),be (n:=X p+X q) (by rw[ed];lia),<-QZ];exact q7 λi _=>by rw[G]
 have c2:=gP (β:=wU q) (g:=λi=>if m<=i/\i<m+X q then wU p m*wU q (i-m)else 0) (c:=wU p m) (e:=m) (λi hi=>by rw[zD]) (X q) (λi hi=>by rw[yg,(W:m+i-m=i)]) t;have c3:=Yj (f:=λi=>if m<=i/\i<m+X q then wU p m*wU q (i-m)else 0) (W:m+X q<=X p+X q) (λi hi=>by rw[zD]) t;rw[c1,c3,c2,C];show _=(yE m (wU p) t+wU p m*t^m)*vd q t;show _+wU p m*(t^m*vd q t)=_;grind;have:∀i,wU (vl<|Nm (X p+X q) (((I,[]),[]):Qr)) i=0:=λi=>by rw[AJ];simp[UV,xcN];split<;>simp[Tj]
 show yE _ _ t=0*_;rw[xeR];exact X4 λi _=>by rw[this,xeR]
def bH(l:N qR):ZD (vd l):=ZD.self _ _
def zd8(F:Fld r d b β){a c:N Qr}(f:∀x∈a,Kg x)(hc:∀x∈c,Kg x)(g:X a<=32)(h:X c<=32)(i:Ht j (vl a))(l:Ht k (vl c))(D:j+k+101*(b+1)<=250000)(e:3000000<=fu):
 ∃q,xF fu r a c=Z (q.map cq)/\Fw d q/\jZ (yE (d+1) β) (vd q) (λt=>vd (vl a) t*vd (vl c) t)/\Ht (j+k+101*(b+1)) q:=by
 have hd:=F.d2;have E:=F.b2;have G:X a*(b+1)<=32*(b+1):=xaj _ g;have H:X c*(b+1)<=32*(b+1):=xaj _ h;have⟨p,m,n,s,u⟩:=cZ (fu:=fu) F f W i W e;have⟨q,q1,q2,v,w⟩:=cZ (fu:=fu) F hc W l W e;have hp:=n.1;have L:=q2.1;have⟨o,o1,o2,M,y,B⟩:=zgx (fu:=fu) (r:=r) u w W W W e;have P:X o*(b+1)<=32*(b+1):=xaj _ W;have⟨z,C,z2,z3,z4⟩:=cZ (fu:=fu) F o2 W y W e;refine⟨z,?_,z2,z3.trans<|(jZ.of B).trans<|jZ.mul (bH _) (bH _) s v,z4.mono W⟩;unfold xF;rw[U m,U q1,xav,xav,zb,(W:(X p:J)+X q=((X p+X q:K):J)),yI,y8,A,U o1,U C]
def zk2{a c o:N Qr}{n:J}(q:∀x∈o,Kg x)(hc:∀x∈c,Kg x)(hl:X c<=X o)(h1:X o<=1000)(hn:n=1\/n= -1)(t:∀j,Aq<|wU (vl o) j+wU (vl c) j*n)(u:∀j,Aq<|wU (vl c) j*n)(f:3000000<=fu):
 ∃y,zg (YC fu r c n) fu (0,o)=Z y/\(∀x∈y,Kg x)/\X y=X o/\∀j,wU (vl y) j=wU (vl o) j+wU (vl c) j*n:=by
 have hd:XB n:=by obtain rfl|rfl:=hn<;>decide
 have v:Aq (n:qR):=by
  unfold Aq Qh;rw[Rat.num_intCast,Rat.den_intCast];obtain rfl|rfl:=hn
  exact⟨Bz.one' mD,Bz.one' mD⟩;exact⟨Bz.one mD,Bz.one' mD⟩
 refine zX (λs=>∃(m:K) (o1:N Qr),s=((m:J),o1)/\m<=X c/\(∀x∈o1,Kg x)/\X o1=X o/\∀j,wU (vl o1) j=wU (vl o) j+(if j<m then wU (vl c) j*n else 0)) (λs=>X c-s.1.toNat) _ ?_ fu _ ⟨0,o,O,xae _,q,O,λj=>by rw[zD,xfg]⟩ (by show X c-(0:J).toNat<fu;lia);rintro _ L ⟨m,o1,rfl,B,g,p,i⟩ w;unfold YC;simp only;by_cases C:m=X c;rw[zD,U O];simp only[xai,uP];refine⟨_,O,g,p,λj=> ?_⟩;rw[i];by_cases e:j<m;rw[S e];rw[ir e,aO (l:=vl c) (by rw[ed];lia),xeR];rw[yg,U O];simp only[uS];have z:qv (o1.getD m ((I,[]),[]))=wU (vl o) m:=by rw[<-AJ,i,zD,xfg]
 rw[yo,A,yo,A,U<|gj hd f,U<|bF (Mm hc m) v.rs f,Kp,U<|rk (Mm g m) (by rw[<-AJ];exact(u m).rs) f,Kp,z,<-AJ,yo,A,zb];refine w _ ⟨m+1,_,O,W,zbi g<|t m,by rw[xbg,p],λj=> ?_⟩ (by show X c-((m:J)+1).toNat<X c-(m:J).toNat;lia);rw[zek,Nq<|by rw[ed];lia];unfold upq;by_cases e:j=m;rw[S e,yg,e];rw[ir e,i];congr 2;exact propext ⟨λh=>by lia,λh=>by lia⟩
theorem zol{a:N Qr}{n:K}(h:X a<=n):(∀j,wU (vl<|Hg (Nm n ((I,[]),[])) a) j=wU (vl a) j)/\X (Hg (Nm n (((I,[]),[]):Qr)) a)=n/\((∀x∈a,Kg x)->∀x∈Hg (Nm n (((I,[]),[]):Qr)) a,Kg x):=by
 have e:Hg (Nm n (((I,[]),[]):Qr)) a=a++Nm (n-X a) ((I,[]),[]):=by unfold Hg;rw[xaM,xck h,xca,List.drop_replicate]
 rw[e];refine⟨λj=> ?_,by simp;lia,λc x f=> ?_⟩;rw[AJ,AJ,UV,UV,List.getElem?_append];split;rfl;rw[xcN,xbn (l:=a) W];split<;>rfl;obtain h1|h1:=xaa.1 f
 exact c x h1;rw[(xen.1 h1).2];exact Kg.nil
theorem zeD(F:Fld r d b β){a c:N Qr}{n:J}(m:∀x∈a,Kg x)(hc:∀x∈c,Kg x)(C:X a<=32)(hi:X c<=32)(p:Ht j (vl a))(e:Ht k (vl c))(hn:n=1\/n= -1)(D:j+k+34*(b+1)<=250000)(f:3000000<=fu):
 ∃q,vk fu r a c n=Z (q.map cq)/\Fw d q/\jZ (yE (d+1) β) (vd q) (λt=>vd (vl a) t+n*vd (vl c) t)/\Ht (j+k+34*(b+1)) q:=by
 have hd:=F.d2;have E:=F.b2;have⟨c1,c2,u⟩:=zol (a:=a) (n:=max (X a) (X c)) W;have g:sF (j+k+1+1) λi=>wU (vl a) i+n*wU (vl c) i:=sF.comb (s:=1) p e ⟨n,O,by obtain rfl|rfl:=hn<;>decide⟩;have v:∀i,Hx (k+1) (wU (vl c) i*n):=λi=>(sF.hx e i).mul ⟨1,mD,mD,n,by show(n:qR)*((1:K):qR)=n;grind,by obtain rfl|rfl:=hn<;>decide⟩;have⟨o,o1,o2,G,w⟩:=zk2 (fu:=fu) (r:=r) (a:=a) (c:=c) (n:=n) (u m) hc W W hn (λi=>by rw[c1,Rat.mul_comm];exact(g.hx i).hs W) (λi=>(v i).hs W) f;have h:∀i,wU (vl o) i=wU (vl a) i+n*wU (vl c) i:=λi=>by rw[w,c1,Rat.mul_comm]
 have H:X o*(b+1)<=32*(b+1):=xaj _ W;have y:Ht (j+k+1+1) (vl o):=by unfold Ht;rw[show wU (vl o)=λi=>wU (vl a) i+n*wU (vl c) i from kW h];exact g
 have⟨z,B,z2,z3,z4⟩:=cZ (fu:=fu) F o2 W y W f;refine⟨z,?_,z2,z3.trans<|jZ.of λt=> ?_,z4.mono W⟩;unfold vk;rw[A,(W:max (X a:J) (X c)=((max (X a) (X c):K):J)),yI,y8,A,A,U o1,U B];rw[show o.map qv=vl o from O,be (n:=max (X a) (X c)) (by rw[ed];lia),be (l:=vl a) (n:=max (X a) (X c)) (by rw[ed];lia),be (l:=vl c) (n:=max (X a) (X c)) (by rw[ed];lia),<-QP,<-QZ];exact q7 λi _=>by rw[h]
end
section
variable{fu d b j k h:wr}{r:xS Zr×xS Qr}{β:wr->qR}
def zdg{n i:K}(h:i<n):wU ((xaO n).map β) i=β i:=by unfold wU;simp[UV,h]
def zga{l:N qR}{k:K}(h:Ht k l)(a:k<=256000):∀x∈l.map cq,Kg x:=zmr h a
end
section
variable{m u d g:xS wn}{P:wr}{f v w:Pz}{y p a:wn}{b:wr->Pz}{l us:xS (xS wn)}
def pp(f:Pz):K->Pz
 |0=>Q 1
 |n+1=>pp f n*f
def Cd(f:Pz)(m:K):∀n,pp f (m+n)=pp f m*pp f n
 |0=>(yp _).symm
 |n+1=>by rw[<-xcK];show pp f (m+n)*f=_;rw[Cd f m n,zd];rfl
def zgD(f g:Pz):∀n,pp (f*g) n=pp f n*pp g n
 |0=>(yp _).symm
 |n+1=>by
  show pp (f*g) n*(f*g)=pp f n*f*(pp g n*g);rw[zgD f g n,zd,zd,zE<|pp g n]
def zhe(f:Pz)(m:K):∀n,pp (pp f m) n=pp f (m*n)
 |0=>rfl
 |n+1=>by rw[Nat.mul_succ,Cd f,<-zhe f m n];rfl
def ziL(c:J):∀n,pp (Q c) n=Q (c^n)
 |0=>by rw[xce];rfl
 |n+1=>by show pp (Q c) n*Q c=_;rw[ziL c n,jx,xbP]
def Fs.pp{f:Pz}(h:Fs f):∀n,Fs (pp f n)
 |0=>⟨1,λk c=>zD⟩
 |n+1=>(Fs.pp h n).mul h
def smP:K->(K->Pz)->Pz
 |0,_=>Q 0
 |n+1,F=>smP n F+F n
def Wj{F G:K->Pz}:∀n,(∀i,i<n->F i=G i)->smP n F=smP n G
 |0,_=>rfl
 |n+1,h=>by show smP n F+F n=smP n G+G n;rw[Wj n λi hi=>h i W,h n W]
def zaP{m:J}{F G:K->Pz}:∀n,(∀i,i<n->Cg m (F i) (G i))->Cg m (smP n F) (smP n G)
 |0,_=>Cg.rfl
 |n+1,h=>(zaP n λi hi=>h i W).add<|h n W
theorem JZ(f g:Pz):f+g=g+f:=by grind [zP,Int.add_comm]
def Vw(f g h:Pz):f+g+h=f+(g+h):=kW λk=>by simp only[zP];lia
def WB(f:Pz):f+Q 0=f:=kW λk=>by rw[zP,zO,xbW]
def CD(f:Pz):Q 0+f=f:=kW λk=>by rw[zP,zO,xcI]
def oI(g:Pz)(F:K->Pz):∀n,smP n F*g=smP n λi=>F i*g
 |0=>yB g
 |n+1=>by show(smP n F+F n)*g=smP n (λi=>F i*g)+F n*g;rw[yW,oI g F n]
def LU(F G:K->Pz):∀n,smP n (λi=>F i+G i)=smP n F+smP n G
 |0=>(WB _).symm
 |n+1=>by
  show smP n (λi=>F i+G i)+(F n+G n)=smP n F+F n+(smP n G+G n);rw[LU F G n];funext k;simp only[zP];lia
def YH(F:K->Pz):∀n,smP (n+1) F=F 0+smP n λi=>F (i+1)
 |0=>by show Q 0+F 0=F 0+Q 0;rw[JZ]
 |n+1=>by show smP (n+1) F+F (n+1)=F 0+(smP n (λi=>F<|i+1)+F (n+1));rw[YH F n,Vw]
def zgv{m:J}{F:K->Pz}(n:K)(h:∀i,i<n->Cg m (F i) (Q 0)):Cg m (smP n F) (Q 0):=by
 induction n with
 |zero=>exact Cg.rfl
 |succ n c=>
  have:=(c λi hi=>h i W).add (h n W);rw[WB]at this;exact this
theorem zan(a b:J):Q (a+b)=Q a+Q b:=by grind [Q,zP]
def zen(f g:Pz):∀n,pp (f+g) n=smP (n+1) λi=>Q (cV n i)*(pp f i*pp g (n-i))
 |0=>by
  show Q 1=Q 0+Q ((cV 0 0:K):J)*(Q 1*Q 1);rw[CD,zC,show((cV 0 0:K):J)=1 from O,zC]
 |n+1=>by
  show pp (f+g) n*(f+g)=_;rw[zen f g n,wG,oI,oI];have e1:(smP (n+1) λi=>Q (cV n i)*(pp f i*pp g (n-i))*g)=smP (n+2) λi=>Q (cV n i)*(pp f i*pp g (n+1-i)):=by
   have c:Q ((cV n (n+1):K):J)*(pp f (n+1)*pp g (n+1-(n+1)))=Q 0:=by rw[rQ n (n+1) W];exact yB _
   show _=smP (n+1) _+Q ((cV n (n+1):K):J)*(pp f (n+1)*pp g (n+1-(n+1)));rw[c,WB];refine Wj _ λi hi=> ?_;rw[(W:n+1-i=n-i+1),zd,zd];rfl
  have e:(smP (n+1) λi=>Q (cV n i)*(pp f i*pp g (n-i))*f)=smP (n+1) λi=>Q (cV n i)*(pp f (i+1)*pp g (n+1-(i+1))):=
   Wj _ λi hi=>by rw[(W:n+1-(i+1)=n-i),zd,zk (pp f i*_) f,<-zd f,zk f<|pp f i];rfl
  rw[e1,e,YH _<|n+1,YH (λi=>Q ((cV (n+1) i:K):J)*(pp f i*pp g (n+1-i)))<|n+1,Vv,Vv,<-Vw,JZ<|smP _ _,Vw,<-LU];congr 1;refine Wj _ λi hi=> ?_;rw[JU,xfm,zan,yW,JZ]
def zq3(hp:2<=P)(hn:kz P)(f g:Pz):Cg (P:J) (pp (f+g) P) (pp f P+pp g P):=by
 obtain⟨q,rfl⟩:∃q,P=q+1:=⟨P-1,W⟩;rw[zen];show Cg _ (smP (q+1) _+Q ((cV (q+1) (q+1):K):J)*(pp f (q+1)*pp g (q+1-(q+1)))) _;rw[YH,DJ,Vv,xcE,show((1:K):J)=1 from O,zC,zC];have e:=zgv (m:=((q+1:K):J)) (F:=λi=>Q ((cV (q+1) (i+1):K):J)*(pp f (i+1)*pp g (q+1-(i+1)))) q λi hi=>Cg.of_dvd λk=>by
  rw[zU];exact xbu (xcO.2<|zcq hp hn)<|xbY _ _
 have h1:pp f 0*pp g (q+1-0)=pp g (q+1):=zC _;have h:pp f (q+1)*pp g 0=pp f (q+1):=yp _;rw[h1,h];have c:=((Cg.rfl (m:=((q+1:K):J)) (f:=pp g<|q+1)).add e).add<|Cg.rfl (f:=pp f<|q+1);rw[WB,JZ (pp g _)<|pp f _]at c;exact c
def HO{P:K}(hp:2<=P)(hn:kz P)(F:K->Pz):∀n,Cg (P:J) (pp (smP n F) P) (smP n λi=>pp (F i) P)
 |0=>by
  show Cg _ (pp (Q 0) P) (Q 0);rw[ziL,Int.zero_pow W];exact Cg.rfl
 |n+1=>(zq3 hp hn (smP n F)<|F n).trans<|(HO hp hn F n).add Cg.rfl
def vx:Pz:=mono 1 1
def zcD(c:J):∀i,(mono i c:Pz)=Q c*pp vx i
 |0=>by
  show _=Q c*Q 1;rw[yp];funext k;unfold mono Q;rfl
 |i+1=>by
  show _=Q c*(pp vx i*vx);rw[<-zd,<-zcD c i];funext k;rw[zk];show mono (i+1) c k=((mono 1 1:Pz)*mono i c) k;rw[Vx];unfold sh mono;by_cases h:1<=k;rw[S h];by_cases e:k=i+1
  rw[S e,yg,xdd];rw[ir e,zD,xaA];rw[ir h,zD];rfl
def zfv{n:K}(h:∀k,n<=k->f k=0):f=smP n λi=>mono i (f i):=by
 have e:∀m k,smP m (λi=>(mono i (f i):Pz)) k=if k<m then f k else 0:=λm=>by
  induction m with
  |zero=>intro k;rw[zD];exact zO k
  |succ m j=>
   intro k;show(smP m (λi=>(mono i (f i):Pz))+mono m (f m)) k=_;rw[zP,j];unfold mono;by_cases h1:k=m;rw[S h1,zD,yg,h1,xcI];rw[ir h1,xbW];by_cases c:k<m;rw[S c,yg];rw[ir c,zD]
 funext k;rw[e];split;rfl;exact h k W
def E5(hp:2<=P)(hn:kz P)(a:J):a^P%P=a%P:=by
 have h1:a%P=((a%P).toNat:J)%P:=by have:=xcH a (W:(P:J)≠0);rw[xdc this,xaQ]
 have c:=Tt hp hn (a%P).toNat;have e:=xcH a (W:(P:J)≠0);rw[xdc e,xaQ]at c;rw[<-c,<-xcA (a^P)<|xek _];have:∀n,(a%P)^n%P=a^n%P:=λn=>by
  induction n with
  |zero=>rw[xce,xce]
  |succ n h=>rw[xbP,xbP,xcd,h,xaQ,<-xcd]
 rw[this,xaQ]
def zpC(hp:2<=P)(hn:kz P){n:K}(h:∀k,n<=k->f k=0):Cg (P:J) (pp f P) (smP n λi=>Q (f i)*pp (pp vx P) i):=by
 have h1:pp f P=pp (smP n λi=>mono i<|f i) P:=by rw[<-zfv h]
 rw[h1];refine(HO hp hn _ n).trans<|zaP n λi hi=> ?_;rw[zcD,zgD,ziL,zhe,zhe,xaS];refine Cg.mul (λk=> ?_) Cg.rfl;unfold Q;split;exact E5 hp hn _;rfl
def es(d:K->J):K->J->J
 |0,_=>0
 |n+1,a=>d 0+a*es (λk=>d<|k+1) n a
theorem zix(a:J):∀(n:K) (d:K->J),∃q:K->J,(∀b,es d (n+1) b=(b-a)*es q n b+es d (n+1) a)/\(∀k,k<n->d (k+1)=q k-a*(if k+1<n then q (k+1)else 0))/\d 0=es d (n+1) a-a*(if 0<n then q 0 else 0)
 |0,d=>⟨λ_=>0,λb=>by show d 0+b*0=(b-a)*0+(d 0+a*0);grind,λk i=>by lia,by show d 0=d 0+a*0-a*(if 0<0 then 0 else 0);rw[zD];grind⟩
 |n+1,d=>by
  have⟨q,h1,j,h⟩:=zix a n λk=>d<|k+1;have⟨e,c⟩:∃e,e=es (λk=>d<|k+1) (n+1) a:=⟨_,O⟩;rw[<-c]at h1 h
  refine⟨λk=>match k with
   |0=>e
   |k+1=>q k,λb=> ?_,λk i=> ?_,?_⟩
  show d 0+b*es (λk=>d<|k+1) (n+1) b=(b-a)*(e+b*es q n b)+(d 0+a*es (λk=>d<|k+1) (n+1) a);rw[h1 b,<-c];generalize es q n b=x;grind
  cases k with
  |zero=>
   show d (0+1)=e-a*(if 0+1<n+1 then q 0 else 0);have o:d (0+1)=e-a*(if 0<n then q 0 else 0):=h;rw[o];by_cases hn:0<n;rw[S hn,yg];rw[ir hn,zD]
  |succ k=>
   show d (k+1+1)=q k-a*(if k+1+1<n+1 then q (k+1)else 0);rw[j k W];by_cases hn:k+1<n;rw[S hn,yg];rw[ir hn,zD]
  show d 0=d 0+a*es (λk=>d<|k+1) (n+1) a-a*(if 0<n+1 then e else 0);rw[yg,c];grind
theorem IX(hp:2<=P)(hn:kz P){x:J}(h:(P:J)∣x*y):(P:J)∣x\/(P:J)∣y:=by
 by_cases c:(P:J)∣x;exact .inl c;right;have h0:0<(x%P).toNat:=by have h1:=xcH x (W:(P:J)≠0);have i:x%P≠0:=λe=>c<|xaF e;lia
 have h1:(x%P).toNat<P:=by have:=xdK x (W:(0:J)<P);lia
 have i:(P:J)∣(x%P)*y:=by
  have:(x%P)*y=x*y-P*(x/P*y):=by have:=Int.emod_add_mul_ediv x P;grind
  rw[this];exact xdu h<|xbY _ _
 have k:P∣(x%P).toNat*y.natAbs:=by
  have j:=xcl.2 i;rw[xcw]at j;have n:(x%P).natAbs=(x%P).toNat:=W
  rwa[xaG,n]at j
 exact xcl.1<|by rw[xaG];exact zcb hp hn h0 h1 k
def zb5{P:K}(hp:2<=P)(hn:kz P):∀(n:K) (d:K->J),n<=P->(∀a:K,a<n->(P:J)∣es d n a)->∀k,k<n->(P:J)∣d k
 |0,_,_,_,k,i=>by lia
 |n+1,d,t,h,k,i=>by
  have⟨q,h1,j,o⟩:=zix (n:J) n d;have e:=zb5 hp hn n q W λa x=>by
   have e1:=h1 a;have r:(P:J)∣((a:J)-n)*es q n a:=by
    have:((a:J)-n)*es q n a=es d (n+1) a-es d (n+1) n:=W
    rw[this];exact xdu (h a W)<|h n W
   obtain e3|e3:=IX hp hn r
   exfalso;have⟨c,hc⟩:=e3;have z:c<0:=by apply Int.not_le.1;intro hd;have:=xcx (W:(0:J)<=P) hd;lia
   have A:(P:J)*c<=(P:J)*(-1):=xaU W W;lia;exact e3
  have s:=h n W
  cases k with
  |zero=>
   rw[o];refine xdu s ?_;split;exact xbu (e 0 W)<|xcJ _ _;rw[xaA];exact xdD _
  |succ k=>
   rw[j k W];refine xdu (e k W) ?_;split;exact xbu (e (k+1) W)<|xcJ _ _;rw[xaA];exact xdD _
def sc:K->K->J
 |0,k=>if k=0 then 1 else 0
 |n+1,0=> -(n:J)*sc n 0
 |n+1,k+1=>sc n k-(n:J)*sc n (k+1)
theorem tI:∀n k,n<k->sc n k=0
 |0,k,h=>zD
 |n+1,0,h=>by lia
 |n+1,k+1,h=>by show sc n k-(n:J)*sc n (k+1)=0;rw[tI n k W,tI n (k+1) W];grind
theorem S4:∀n,sc n n=1
 |0=>rfl
 |n+1=>by show sc n n-(n:J)*sc n (n+1)=1;rw[S4 n,tI n (n+1) W];grind
def prv(v:Pz):K->Pz
 |0=>Q 1
 |n+1=>prv v n*(v-Q n)
theorem za2(a:J)(f:Pz):Q (-a)*f= -(Q a*f):=by grind [zb8,zU,Int.neg_mul]
theorem za3(v:Pz):∀n,prv v n=smP (n+1) λk=>Q (sc n k)*pp v k
 |0=>by
  show Q 1=Q 0+Q (sc 0 0)*Q 1;rw[CD,show sc 0 0=1 from O,yp]
 |n+1=>by
  show prv v n*(v-Q n)=_;have e:∀F G:Pz,F*(G-Q n)=F*G+ -(Q n*F):=λF G=>by rw[qq,zk F<|Q n,Oo]
  rw[e,za3 v n,oI];have c: -(Q (n:J)*smP (n+1) λk=>Q (sc n k)*pp v k)=smP (n+2) λk=>Q (-(n:J)*sc n k)*pp v k:=by rw[<-za2,zk,oI];show _=smP (n+1) _+Q (-(n:J)*sc n (n+1))*pp v (n+1);rw[tI n (n+1) W,xaA,yB,WB];exact Wj _ λi _=>by rw[zk,<-zd,jx]
  rw[c,YH _<|n+1,YH (λk=>Q (sc (n+1) k)*pp v k)<|n+1,<-Vw,JZ<|smP _ _,Vw,<-LU];congr 1;refine Wj _ λi _=> ?_;show Q (sc n i)*pp v i*v+Q (-(n:J)*sc n (i+1))*pp v (i+1)=Q (sc n i-(n:J)*sc n (i+1))*pp v (i+1);rw[zd];show Q (sc n i)*pp v (i+1)+_=_;rw[<-yW,<-zan];congr 2;grind
theorem fh(d:K->J)(a:J):∀n,es d (n+1) a=es d n a+d n*a^n:=by
 intro n
 induction n generalizing d with
 |zero=>show d 0+a*0=0+d 0*a^0;rw[xce];grind
 |succ n c=>
  show d 0+a*es (λk=>d<|k+1) (n+1) a=d 0+a*es (λk=>d<|k+1) n a+d (n+1)*a^(n+1);rw[c,xbP];grind
theorem Tx(c d:K->J)(a:J):∀n,es (λk=>c k+d k) n a=es c n a+es d n a
 |0=>rfl
 |n+1=>by rw[fh,fh,fh,Tx c d a n];grind
def prn(a:J):K->J
 |0=>1
 |n+1=>prn a n*(a-n)
theorem zgk(a:J):∀n,prn a n=es (sc n) (n+1) a
 |0=>by show(1:J)=1+a*0;grind
 |n+1=>by
  show prn a n*(a-n)=_;have h1:es (sc<|n+1) (n+2) a= -(n:J)*sc n 0+a*es (λk=>sc n k-(n:J)*sc n (k+1)) (n+1) a:=O;have e:es (λk=>sc n k-(n:J)*sc n (k+1)) (n+1) a=es (sc n) (n+1) a+es (λk=> -(n:J)*sc n (k+1)) (n+1) a:=by rw[<-Tx];congr 1;funext k;grind
  have h:∀m (d:K->J) (c:J),es (λk=>c*d k) m a=c*es d m a:=λm=>by
   induction m with
   |zero=>intro d c;show(0:J)=c*0;grind
   |succ m i=>intro d c;rw[fh,fh,i];grind
  have j:es (sc n) (n+2) a=es (sc n) (n+1) a:=by rw[fh,tI n (n+1) W,xba,xbW]
  have o:es (sc n) (n+2) a=sc n 0+a*es (λk=>sc n<|k+1) (n+1) a:=O;rw[h1,e,h,zgk a n];grind
def zcx{a:K}:∀n,a<n->prn a n=0
 |0,h=>by lia
 |n+1,h=>by
  show prn a n*((a:J)-n)=0;by_cases e:a=n;rw[e,xel,xaA];rw[zcx n W,xba]
theorem zno(hp:2<=P)(hn:kz P)(k:K):sc P k%P=(if k=P then(1:J)else if k=1 then-1 else 0)%P:=by
 by_cases h:k<P
 have e:=zb5 hp hn P (λk=>sc P k+(if k=1 then 1 else 0)) (So _) (λa i=>by
  rw[Tx];have e1:es (λk=>if k=1 then(1:J)else 0) P (a:J)=a:=by
   obtain⟨q,rfl⟩:∃q,P=q+2:=⟨P-2,W⟩;show(0:J)+a*((1:J)+a*es (λk=>if k+1+1=1 then(1:J)else 0) q a)=a;have:∀m,es (λk=>if k+1+1=1 then(1:J)else 0) m (a:J)=0:=λm=>by
    induction m with
    |zero=>rfl
    |succ m j=>rw[fh,j,zD];grind
   rw[this];grind
  have n:=zgk (a:J) P;rw[zcx P i,fh,S4]at n;have o:=E5 hp hn (a:J);rw[e1];have r:es (sc P) P (a:J)+a=a-a^P:=by grind
  rw[r];exact xaF<|xaL.1 o.symm) k h
 rw[zD];have hc:=xax e;by_cases h1:k=1
 rw[S h1]at hc⊢;refine xaL.2 ?_;rw[(W:sc P k- -1=sc P k+1)];exact hc;rw[ir h1]at hc⊢;rw[xbW]at hc;rw[hc,xap];by_cases c:k=P;rw[S c,c,S4];rw[ir c,zD,tI P k W]
def zgo:∀n,(smP n λ_=>Q 0)=Q 0
 |0=>rfl
 |n+1=>by show(smP n λ_=>Q 0)+Q 0=Q 0;rw[zgo n,WB]
def zjo(hp:2<=P)(hn:kz P)(v:Pz):Cg (P:J) (prv v P) (pp v P-v):=by
 rw[za3]
 have h1:Cg (P:J) (smP (P+1) λk=>Q (sc P k)*pp v k) (smP (P+1) λk=>Q (if k=P then(1:J)else if k=1 then-1 else 0)*pp v k):=
  zaP _ λk _=>Cg.mul (λj=>by unfold Q;split;exact zno hp hn k;rfl) Cg.rfl
 refine h1.trans<|Cg.of ?_;obtain⟨q,rfl⟩:∃q,P=q+2:=⟨P-2,W⟩;show smP (q+2) _+Q (if q+2=q+2 then(1:J)else _)*pp v (q+2)=_;rw[S O,zC,YH _<|q+1,YH _ q,zD,zD,zD,S O];have c:(smP q λk=>Q (if k+1+1=q+2 then(1:J)else if k+1+1=1 then-1 else 0)*pp v (k+1+1))=Q 0:=by rw[Wj (G:=λ_=>Q 0) q λi hi=>by rw[zD,zD,yB]];exact zgo q
 rw[c];have e:Q (-1)*pp v (0+1)= -v:=by rw[za2,zC];show-(Q 1*v)= -v;rw[zC]
 rw[e,yB];funext k;simp only[zP,y7,zb8,zO];lia
def Di(p:J)(u v:Pz):Prop:=∃q:Pz,Fs q/\Cg p v (q*u)
def Di.refl(p:J)(u:Pz):Di p u u:=⟨Q 1,Fs.pc 1,Cg.of (zC u).symm⟩
def Di.trans{p:J}{u v w:Pz}(h:Di p u v)(g:Di p v w):Di p u w:=by have⟨q,f1,h1⟩:=h;have⟨r,f2,c⟩:=g;exact⟨r*q,f2.mul f1,c.trans<|((Cg.rfl (f:=r)).mul h1).trans<|Cg.of (zd r q u).symm⟩
def Di.add{p:J}{u v w:Pz}(h:Di p u v)(g:Di p u w):Di p u (v+w):=by have⟨q,f1,h1⟩:=h;have⟨r,f2,c⟩:=g;exact⟨q+r,f1.add f2,(h1.add c).trans<|Cg.of (yW q r u).symm⟩
def Di.sub{p:J}{u v w:Pz}(h:Di p u v)(g:Di p u w):Di p u (v-w):=by have⟨q,f1,h1⟩:=h;have⟨r,f2,c⟩:=g;exact⟨q-r,f1.subt f2,(h1.sub c).trans<|Cg.of (ke q r u).symm⟩
def Di.mul{p:J}{u v:Pz}(w:Pz)(c:Fs w)(h:Di p u v):Di p u (w*v):=by have⟨q,f1,h1⟩:=h;exact⟨w*q,c.mul f1,((Cg.rfl (f:=w)).mul h1).trans<|Cg.of (zd w q u).symm⟩
def Di.cg{u:Pz}(h:Di p u v)(g:Cg p v w):Di p u w:=by have⟨q,f1,h1⟩:=h;exact⟨q,f1,g.symm.trans h1⟩
def Di.zero(p:J)(u:Pz):Di p u (Q 0):=⟨Q 0,Fs.pc 0,Cg.of (yB u).symm⟩
def Di.euclid{u:Pz}(c:Fs w)(h:kn p u v)(g:Di p u (v*w)):Di p u w:=by
 have⟨s,t,fs,e,h1⟩:=h;have i:Cg p (w*s*u+t*(v*w)) w:=by refine Cg.trans (Cg.of ?_)<|(h1.mul<|Cg.rfl (f:=w)).trans<|Cg.of<|zC w;rw[yW,zd t,zk (s*u) w,zd w]
 refine Di.cg (Di.add ?_<|g.mul t e) i;exact⟨w*s,c.mul fs,Cg.rfl⟩
def Di.both{u:Pz}(j:Fs w)(h:kn p u v)(g1:Di p u w)(c:Di p v w):Di p (u*v) w:=by have⟨q,fq,h1⟩:=c;have e:Di p u q:=Di.euclid fq h<|g1.cg<|h1.trans<|Cg.of<|zk q v;have⟨r,fr,i⟩:=e;refine⟨r,fr,h1.trans<|(i.mul<|Cg.rfl (f:=v)).trans<|Cg.of<|zd r u v⟩
def Di.prz{p:J}{w:Pz}(e:Fs w):∀{us:N Pz},(∀u∈us,Fs u)->us.Pairwise (kn p)->(∀u∈us,Di p u w)->Di p (prZ us) w
 |[],_,_,_=>⟨w,e,Cg.of (yp w).symm⟩
 |u::us,i,hp,h=>by
  have⟨h1,j⟩:=xdk.1 hp;refine Di.both e ?_ (h u<|IR)<|Di.prz e (λg c=>i g<|FS _ c) j λg c=>h g<|FS _ c;exact(kn.prZ (i u<|IR) (λg c=>i g<|FS _ c) λg c=>(h1 g c).symm).symm
structure Qy(p:J)(u:N J):Prop where
 mn:vv p u
 l1:1<u.length
 ir:∀d,vv p d->Di p (C d) (C u)->d.length=1\/d=u
def LZ{a b:N J}(hp:2<=p)(c:vv p a)(i:vv p b)(h:Di p (C a) (C b))(hl:X b<=X a):a=b:=by
 have⟨q,fq,h1⟩:=h;have⟨n,hn⟩:=fq;have hd:=c.ln;have x:=i.ln;have z:=gV hp i c ⟨n,hn⟩ h1;have e:X a=X b:=W
 have j:Cg p ((q-Q 1)*C a) (C b-C a):=by rw[ke,zC];exact h1.symm.sub Cg.rfl
 have o:=c.mn.zero hp (Fs.subt ⟨n,hn⟩<|Fs.pc 1) λk A=>by
  rw[j k,y7];by_cases hc:k=X a-1
  have r:=c.top;have s:=i.top;rw[hc,r,e,s,xel,xap];rw[yA W,yA W];exact xap _
 refine c.fm.ext i.fm ?_;have t:=j.symm.trans<|o.mul_zero_r<|C a;exact(Cg.iff_sub.2 t).symm
theorem Qy.or(hp:qp p=wL){l:N J}(c:Qy p u)(i:X u<=290)(hl:Fp p l)(hc:X l<=290):Di p (ci u) (ci l)\/kn p (ci u) (ci l):=by
 have⟨j,q⟩:=zw hp;have⟨d,s,t,_,e,hd⟩:=uI (fu:=3000000) hp c.mn.fm hl i hc<|So _;have h:=zks j c.mn e hd;have⟨A,C,k,n,h1,o⟩:=e.dv;rcases c.ir d h ⟨A,k,h1⟩with h3|h3
 exact .inr<|Lr e h3 h.top;left;rw[<-h3];exact⟨C,n,o⟩
def Qy.ne(hp:2<=p)(e:Qy p u):¬Di p (C u) (Q 1):=λ⟨q,fq,h⟩=>by
 have hl:=e.l1;have h1:=e.mn.mn.zero hp fq λk i=>by rw[<-h k,show Q 1 k=0 from zD,xap]
 have c:=(h.trans<|h1.mul_zero_r _) 0;rw[zO,xap]at c;unfold Q at c;rw[S O,xaH mD W]at c;cases c
theorem Qy.cop(hp:qp p=wL){w:N J}(c:Qy p u)(e:Qy p w)(i:X u<=290)(hc:X w<=290)(h:u≠w):kn p (C u) (C w):=by grind [Qy.or,vv.fm,Qy.mn,Qy.ir,Qy.l1]
def quo(hp:qp p=wL)(e:vv p m)(hd:vv p d)(k:X m<=90000)(h:Di p (C d) (C m)):∃q,vv p q/\Cg p (C m) (C q*C d)/\X m+1=X q+X d:=by have⟨i,x⟩:=zw hp;have⟨A,j,h1⟩:=h;have hc:=gV i e hd j h1;have⟨q,r,_,n,o,s,t,z⟩:=xH (fu:=3000000) hp e.fm hd.fm hd.ln k W<|So _;have⟨a,b,c⟩:=Hh i e hd j h1 n o s t;exact⟨q,a,b,c⟩
def zqJ(hp:qp p=wL):∀(n:K) {m:N J},X m=n->n<=290->vv p m->∃us:N (N J),(∀u∈us,Qy p u/\X u<=n)/\Cg p (C m) (prZ<|us.map C):=by
 intro n
 induction n using xdA with
 |ind n j=>
  intro m G hn c;have⟨s,H⟩:=zw hp;have L:=c.ln;by_cases h1:X m=1
  refine⟨[],(λu e=>by cases e),?_⟩;have:=c.one h1;rw[this];refine Cg.of<|funext λk=> ?_;show C [1] k=Q 1 k
  cases k with
  |zero=>rfl
  |succ k=>rw[yA mK];exact(zD).symm
  by_cases hi:Qy p m;refine⟨[m],λu e=> ?_,?_⟩;rw[xac.1 e];exact⟨hi,W⟩;exact Cg.of (yp<|C m).symm;have⟨d,i,hc,ht,t⟩:∃d,vv p d/\Di p (C d) (C m)/\X d≠1/\d≠m:=by
   apply xak;intro x;refine hi ⟨c,W,λd z A=> ?_⟩;by_cases o:X d=1
   exact .inl o;right;apply xak;intro B;exact x ⟨d,z,A,o,B⟩
  have⟨q,D,E,hv⟩:=quo hp c i W hc;have M:=i.ln;have R:X d<X m:=by apply xdp;intro h;exact t<|LZ s i c hc h
  have⟨us,hd,hl⟩:=j (X d) W O W i;have⟨vs,r,F⟩:=j (X q) W O W D;refine⟨vs++us,λu e=> ?_,?_⟩;obtain h|h:=xaa.1 e
  exact⟨(r u h).1,by have:=(r u h).2;lia⟩;exact⟨(hd u h).1,by have:=(hd u h).2;lia⟩;rw[xaR,vm];exact E.trans<|F.mul hl
def bE{p:J}{u:Pz}:∀{us:N Pz},(∀w∈us,Fs w)->u∈us->Di p u (prZ us)
 |[],_,h=>by cases h
 |w::us,c,h=>by
  have i:=Fs.prZ λg e=>c g<|FS _ e;obtain rfl|h:=xah.1 h
  exact⟨prZ us,i,Cg.of<|zk _ _⟩;exact(bE (λg e=>c g<|FS _ e) h).mul w<|c w<|IR
def Qy.mem{p:J}(hp:qp p=wL){u:N J}(c:Qy p u)(k:X u<=290):∀{us:N (N J)},(∀w∈us,Qy p w/\X w<=290)->Di p (C u) (prZ<|us.map C)->u∈us
 |[],_,h=>wS h<|c.ne (zw hp).1
 |w::us,i,h=>by
  by_cases e:u=w;rw[e];exact IR;have h1:=c.cop hp (i w<|IR).1 k (i w<|IR).2 e;refine FS _<|Qy.mem hp c k (λg j=>i g<|FS _ j)<|Di.euclid (Fs.prZ λg j=> ?_) h1 h;obtain⟨l,_,rfl⟩:=xas.1 j;exact Fs.ci l
def Fs.to{n:K}(h:∀k,n<=k->f k=0):Fs f:=⟨n,h⟩
def Fs.vx:Fs vx:=⟨2,λk c=>zD⟩
def lst(hp:0<p){n:K}(h:∀k,n<=k->f k=0):∃l:N J,Fp p l/\X l<=n/\Cg p (C l) f:=by refine⟨pm p<|zl n f,Dx hp _,xal (zbz _ _) (by rw[ye];exact So _),?_⟩;exact(OW p _).trans<|Cg.of<|funext λk=>XM h k
def Qy.or'(hp:qp p=wL)(e:Qy p u)(i:X u<=290){n:K}(h:∀k,n<=k->f k=0)(hn:n<=290):Di p (C u) f\/kn p (C u) f:=by
 have⟨j,o⟩:=zw hp;have⟨l,h1,q,c⟩:=lst (p:=p) W h;obtain h4|h4:=e.or hp i h1 W
 exact .inl<|h4.cg c;exact .inr<|h4.congr Cg.rfl c
def Qy.const(hp:2<=p)(e:Qy p u){c:J}(h:Di p (C u) (Q c)):p∣c:=by
 have⟨q,fq,h⟩:=h;have hl:=e.l1;have h1:=e.mn.mn.zero hp fq λk j=>by rw[<-h k,show Q c k=0 from zD,xap]
 have i:=(h.trans<|h1.mul_zero_r _) 0;rw[zO,xap]at i;exact xaF i
def Di.const{c:J}{u:Pz}(h:p∣c):Di p u (Q c):=(Di.zero p u).cg λk=>by
 rw[zO];unfold Q;split;rw[xap,xax h];rfl
def Vl(p:J)(u:N J)(v:Pz)(c:J):Prop:=Di p (C u)<|v-Q c
theorem Tw(a b:J):Q (a-b)=Q a-Q b:=by grind [Q,y7]
def Vl.uniq(hp:2<=p)(c:Qy p u){b:J}(h:Vl p u v a)(g:Vl p u v b):p∣a-b:=by refine c.const hp<|(Di.sub g h).cg<|Cg.of ?_;rw[Tw];funext k;simp only[y7];lia
def Vl.add{p:J}{u:N J}{v w:Pz}{a b:J}(h:Vl p u v a)(g:Vl p u w b):Vl p u (v+w) (a+b):=by refine(Di.add h g).cg<|Cg.of ?_;rw[zan];funext k;simp only[zP,y7];lia
def Vl.sub{p:J}{u:N J}{v w:Pz}{a b:J}(h:Vl p u v a)(g:Vl p u w b):Vl p u (v-w) (a-b):=by refine(Di.sub h g).cg<|Cg.of ?_;rw[Tw];funext k;simp only[y7];lia
def Vl.mul{p:J}{u:N J}{v w:Pz}{a b:J}(c:Fs v)(h:Vl p u v a)(g:Vl p u w b):Vl p u (v*w) (a*b):=by refine(Di.add (Di.mul v c g)<|Di.mul (Q b) (Fs.pc b) h).cg<|Cg.of ?_;rw[qq,qq,zk v<|Q b,jx,xbJ b a];funext k;simp only[zP,y7];lia
def Vl.pc(p:J)(u:N J)(c:J):Vl p u (Q c) c:=(Di.zero p<|C u).cg<|Cg.of<|funext λk=>by rw[y7,zO,xel]
def Vl.pp{p:J}{u:N J}{v:Pz}{a:J}(c:Fs v)(h:Vl p u v a):∀n,Vl p u (pp v n) (a^n)
 |0=>by rw[xce];exact Vl.pc p u 1
 |n+1=>by rw[xbP];exact Vl.mul (c.pp n) (Vl.pp c h n) h
def Vl.cg{p:J}{u:N J}{v w:Pz}{a:J}(h:Vl p u v a)(g:Cg p v w):Vl p u w a:=Di.cg h<|g.sub Cg.rfl
def Vl.md{b:J}(h:Vl p u v a)(g:p∣a-b):Vl p u v b:=by refine(Di.add h<|Di.const (u:=C u) g).cg<|Cg.of ?_;rw[Tw];funext k;simp only[zP,y7];lia
def Vl.di(hp:2<=p)(c:Qy p u)(h:Vl p u v a):Di p (C u) v↔p∣a:=by constructor;intro g;have h0:Vl p u v 0:=g.cg (Cg.of<|funext λk=>by rw[y7,zO,xdh]);have:=h.uniq hp c h0;rwa[xdh]at this;intro g;have h0:Vl p u v 0:=h.md (by rwa[xdh]);exact Di.cg h0<|Cg.of<|funext λk=>by rw[y7,zO,xdh]
def zeR{p:J}(hp:qp p=wL){u:N J}(e:Qy p u)(o:X u<=290){v:Pz}{n:K}(hv:∀k,n<=k->v k=0)(hd:1<=n)(hn:n<=290):∀j,Di p (C u) (prv v j)->∃c:K,c<j/\Vl p u v c
 |0,h=>wS h<|e.ne (zw hp).1
 |j+1,h=>by
  have q:∀k,n<=k->(v-Q (j:J)) k=0:=λk r=>by rw[y7,hv k r,show Q (j:J) k=0 from zD];rfl
  obtain h1|h1:=e.or' hp o q hn
  exact⟨j,W,h1⟩
  have s:∀i,Fs (prv v i):=λi=>by
   induction i with
   |zero=>exact Fs.pc 1
   |succ i t=>exact t.mul<|(Fs.to hv).subt<|Fs.pc _
  have x:Di p (C u) (prv v j):=Di.euclid (s j) h1<|h.cg<|Cg.of<|zk _ _;have⟨c,hc,z⟩:=zeR hp e o hv hd hn j x;exact⟨c,W,z⟩
def zk0(hp:qp (P:J)=wL)(h:Qy (P:J) u)(hc:X u<=290)(hd:Di (P:J) (C u) (C m)){n:K}(hv:∀k,n<=k->v k=0)(i:1<=n)(hn:n<=290)(j:Di (P:J) (C m) (pp v P-v)):∃c:K,c<P/\Vl (P:J) u v c:=by have⟨o,q⟩:=zw hp;have e:=Wc hp;rw[xaZ]at e;exact zeR hp h hc hv i hn P<|(hd.trans j).cg (zjo W e v).symm
def zqP{p:J}{m:N J}(c:vv p m):∀(n:K) (f:Pz),(∀k,n<=k->f k=0)->∃q r:Pz,Fs q/\(∀k,X m-1<=k->r k=0)/\f=q*C m+r
 |0,f,h=>⟨Q 0,Q 0,Fs.pc 0,λk _=>zO k,kW λk=>by rw[zP,yB,zO,h k W];rfl⟩
 |n+1,f,h=>by
  have hl:=c.ln;by_cases hn:n+1<=X m-1
  exact⟨Q 0,f,Fs.pc 0,λk i=>h k W,kW λk=>by rw[zP,yB,zO,xcI]⟩
  have⟨d,hd⟩:∃d,d=X m-1:=⟨_,O⟩;have⟨q,r,fq,j,o⟩:=zqP c n (f-mono (n-d) (f n)*C m) λk i=>by
   rw[y7,Vx];unfold sh;rw[yg];by_cases e:k=n;have ht:=c.top;rw[e,(W:n-(n-d)=X m-1),ht];lia;rw[h k W,yA W];lia
  refine⟨q+mono (n-d) (f n),r,fq.add ⟨n+1,λk i=>zD⟩,j,?_⟩;rw[yW];funext k;have:=Ww o k;simp only[zP,y7]at this⊢;lia
def zqx(hp:qp (P:J)=wL)(R:vv (P:J) m)(F:∀u∈us,Qy (P:J) u/\X u<=290)(JO:us.Pairwise (λa b=>kn (P:J) (C a)<|C b))(hc:Cg (P:J) (C m) (prZ<|us.map C))(hd:u∈us):
 ∃e:Pz,(∀k,X m-1<=k->e k=0)/\Vl (P:J) u e 1/\(∀w,w∈us->w≠u->Vl (P:J) w e 0)/\Di (P:J) (C m) (pp e P-e):=by
 have⟨G,p2⟩:=zw hp;have S:=Wc hp;rw[xaZ]at S;have⟨a,b,H⟩:=xeo hd;have o:∀{l:N (N J)},∀g∈l.map C,Fs g:=λg x=>by obtain⟨l,_,rfl⟩:=xas.1 x;exact Fs.ci l
 have⟨i,D⟩:∃i,i=prZ ((a++b).map C):=⟨_,O⟩;have T:Fs i:=by rw[D];exact Fs.prZ o
 have hi:kn (P:J) (C u) i:=by
  rw[D];refine(kn.prZ (Fs.ci u) o λg x=> ?_).symm;obtain⟨l,hl,rfl⟩:=xas.1 x;rw[H,xdn,xdk]at JO;obtain h|h:=xaa.1 hl
  exact JO.2.2 l h u<|IR;exact(JO.2.1.1 l h).symm
 have⟨s,t,fs,K,h1⟩:=hi;have⟨n,hn⟩:=K.mul T;have⟨q,e,fq,L,U⟩:=zqP R n (t*i) hn;have V:∀w∈us,Di (P:J) (C w) (C m):=λw j=>Di.cg (bE o<|xbF j) hc.symm;have M:∀w∈us,∀{c:J},Vl (P:J) w (t*i) c->Vl (P:J) w e c:=λw j c h=>by
  have z:=Di.sub h<|Di.mul q fq<|V w j;refine z.cg<|Cg.of ?_;rw[U];funext k;simp only[zP,y7];lia
 have v1:Vl (P:J) u e 1:=M u hd (by have z:Di (P:J) (C u) (Q 0-s*C u):=(Di.zero _ _).sub ⟨s,fs,Cg.rfl⟩;refine z.cg<|Cg.trans (Cg.of ?_)<|(Cg.rfl (f:=t*i)).sub h1;funext k;simp only[zP,y7,zO];lia)
 have v0:∀w,w∈us->w≠u->Vl (P:J) w e 0:=λw j ht=>M w j (by
  have Y:w∈a++b:=by
   rw[H]at j;obtain h|h:=xaa.1 j
   exact xdP _ h;obtain h|h:=xah.1 h
   exact wS h ht;exact xep _ h
  have z:Di (P:J) (C w) i:=by rw[D];exact bE o<|xbF Y
  exact(z.mul t K).cg<|Cg.of<|funext λk=>by rw[y7,zO,xdh])
 refine⟨e,L,v1,v0,?_⟩;have B:=Fs.to L;have hk:Di (P:J) (prZ<|us.map C) (pp e P-e):=by refine Di.prz ((B.pp P).subt B) o ?_ λg x=> ?_;exact xez.2 JO;obtain⟨w,j,rfl⟩:=xas.1 x;by_cases E:w=u;subst E;have A:=Vl.sub (Vl.pp B v1 P) v1;rw[Int.one_pow,xel]at A;exact(A.di G (F w j).1).2<|xdD _;have A:=Vl.sub (Vl.pp B (v0 w j E) P)<|v0 w j E;rw[Int.zero_pow W,xel]at A;exact(A.di G (F w j).1).2<|xdD _
 have⟨r,fr,h5⟩:=hk;exact⟨r,fr,h5.trans<|Cg.rfl.mul hc.symm⟩
def p8{p:J}{u:N J}{a c:K->J}{b:K->Pz}:∀n,(∀i,i<n->Vl p u (b i) (c i))->Vl p u (smP n λi=>Q (a i)*b i) (yu n λi=>a i*c i)
 |0,_=>Vl.pc p u 0
 |n+1,h=>Vl.add (p8 n λi hi=>h i W)<|Vl.mul (Fs.pc _) (Vl.pc p u<|a n)<|h n W
def sep(hp:qp (P:J)=wL)(s:vv (P:J) m)(j:∀u∈us,Qy (P:J) u/\X u<=290)(JO:us.Pairwise (λa b=>kn (P:J) (C a)<|C b))(hc:Cg (P:J) (C m) (prZ<|us.map C)){n:K}(t:∀e:Pz,(∀k,X m-1<=k->e k=0)->Di (P:J) (C m) (pp e P-e)->∃a:K->J,Cg (P:J) e<|smP n λi=>Q (a i)*b i){w:N J}(hd:u∈us)(o:w∈us){c:K->J}(h1:∀i,i<n->Vl (P:J) u (b i) (c i))(x:∀i,i<n->Vl (P:J) w (b i) (c i)):u=w:=by
 have⟨q,H⟩:=zw hp;apply xak;intro z;have⟨e,e1,A,B,D⟩:=zqx hp s j JO hc hd;have⟨a,r⟩:=t e e1 D;have f1:=(p8 (a:=a) n h1).cg r.symm;have f2:=(p8 (a:=a) n x).cg r.symm;have g1:=A.uniq q (j u hd).1 f1;have E:=(B w o λh=>z h.symm).uniq q (j w o).1 f2;have F:=xdu g1 E;have⟨k,L⟩:=F;have G:(P:J)*k=1:=W
 have h6:k=1\/k<=0\/2<=k:=W
 obtain h6|h6|h6:=h6
 rw[h6]at G;lia;have:=xaU h6 (W:(0:J)<=P);lia;have:=xaU h6 (W:(0:J)<=P);lia
theorem zbW{P:J}{a b:J}(h:P∣a-b):∀n:K,P∣a^n-b^n
 |0=>by rw[xce,xce,xel];exact xdD _
 |n+1=>by
  have⟨x,c⟩:=h;have⟨y,e⟩:=zbW ⟨x,c⟩ n;refine⟨y*a+b^n*x,?_⟩;rw[xbP,xbP];grind
def th(P:K)(y:J):Prop:=if 2<P then(P:J)∣y^((P-1)/2)-1 else(P:J)∣y
def th.md{z:J}(h:(P:J)∣y-z)(g:th P y):th P z:=by
 unfold th at g⊢;split;rw[bi ‹_›]at g;have:=zbW h<|(P-1)/2;have e:=xdu g this;have c:y^((P-1)/2)-1-(y^((P-1)/2)-z^((P-1)/2))=z^((P-1)/2)-1:=W
 rwa[c]at e;rw[if_neg ‹_›]at g;have e:=xdu g h;have c:y-(y-z)=z:=W
 rwa[c]at e
def th.iff{z:J}(h:(P:J)∣y-z):th P y↔th P z:=by refine⟨th.md h,th.md ?_⟩;have⟨k,c⟩:=h;exact⟨-k,by rw[Int.mul_neg];lia⟩
def Tm(hp:qp (P:J)=wL){d:J}(hd:¬(P:J)∣d):∃k:K,(P:J)∣(k:J)*d-1:=by
 have⟨n,o⟩:=zw hp;have h0:=xcH d (W:(P:J)≠0);have h1:=xdK d (W:(0:J)<P);have q:d%P≠0:=λe=>hd<|xaF e;have c:=zac hp (W:0<d%P) h1;have⟨x,h⟩:∃x,x=(d%P)^((P:J)-2).toNat:=⟨_,O⟩;rw[<-h]at c;have i:0<=x:=by rw[h];exact Int.pow_nonneg h0
 refine⟨x.toNat,?_⟩;rw[xdc i];have j:(x*d)%P=1%P:=by rw[xcd,<-xcA d<|xek _,<-xcd,c,xaH mD W]
 exact xaF<|xaL.1 j
def zjY(hp:qp (P:J)=wL)(A:P=2\/P%2=1){b:J}(h:∀c:K,c<P->(th P (a+c)↔th P (b+c))):(P:J)∣a-b:=by
 have⟨B,C⟩:=zw hp;apply xak;intro hd;have hc:∀y:J,th P (a+y)↔th P (b+y):=λy=>by
  have e1:=xcH y (W:(P:J)≠0);have D:=xdK y (W:(0:J)<P);have j:=h (y%P).toNat W;rw[xdc e1]at j;have E:(P:J)∣y-y%P:=⟨y/P,by have:=Int.emod_add_mul_ediv y P;lia⟩;have o:(P:J)∣a+y-(a+y%P):=by rwa[(W:a+y-(a+y%P)=y-y%P)]
  have r:(P:J)∣b+y-(b+y%P):=by rwa[(W:b+y-(b+y%P)=y-y%P)]
  exact(th.iff o).trans<|j.trans (th.iff r).symm
 have s:∀y:J,th P y↔th P (y+(a-b)):=λy=>by
  have:=hc<|y-b;rw[(W:b+(y-b)=y),(W:a+(y-b)=y+(a-b))]at this;exact this.symm
 have t:∀k:K,th P 0↔th P ((k:J)*(a-b)):=λk=>by
  induction k with
  |zero=>rw[show((0:K):J)=0 from O,xba]
  |succ k x=>
   refine x.trans<|(s _).trans ?_;rw[xfm,Int.add_mul,show((1:K):J)=1 from O,xdd]
 have⟨k,h1⟩:=Tm hp hd;have e:=(t k).trans<|th.iff h1;have n:¬(P:J)∣1:=λ⟨q,z⟩=>by
  have h6:q<=0\/1<=q:=W
  obtain h6|h6:=h6
  have:=xaU h6 (W:(0:J)<=P);lia;have:=xaU h6 (W:(0:J)<=P);lia
 unfold th at e;by_cases i:2<P;rw[S i,S i,Int.one_pow,xel,Int.zero_pow W]at e;have:=e.2<|xdD _;refine n ?_;have⟨q,z⟩:=this;exact⟨-q,by rw[Int.mul_neg];lia⟩;rw[ir i,ir i]at e;exact n<|e.1<|xdD _
theorem zf5(A B D:K->J)(x z:J):∀n,yu n (λi=>A i*(B i-x*D i*z))=yu n (λi=>A i*B i)-x*z*yu n (λi=>A i*D i)
 |0=>by show(0:J)=0-x*z*0;lia
 |n+1=>by
  show yu n _+A n*(B n-x*D n*z)=yu n _+A n*B n-x*z*(yu n _+A n*D n);rw[zf5 A B D x z n];grind
theorem Cu{P:K}(hp:qp (P:J)=wL):∀(n:K) (c:N K) (A C:K->K->J),c.Nodup->(∀j∈c,∀k∈c,(P:J)∣yu n (λi=>A j i*C i k)-(if j=k then 1 else 0))->X c<=n
 |0,[],_,_,_,_=>So _
 |0,j::c,A,C,_,h=>by
  exfalso;have⟨Y,p2⟩:=zw hp;have:=h j (IR) j<|IR;rw[S O]at this;have⟨q,H⟩:=this;have hi:(0:J)-1=P*q:=H;have h6:q<= -1\/0<=q:=W
  obtain h6|h6:=h6
  have:=xaU h6 (W:(0:J)<=P);lia;have:=xcx (W:(0:J)<=P) h6;lia
 |n+1,c,A,C,t,h=>by
  by_cases D:∀j∈c,(P:J)∣C n j;refine Nat.le_succ_of_le<|Cu hp n c A C t λj r k z=> ?_;have h1:=h j r k z;have B:(P:J)∣A j n*C n k:=xbu (D k z)<|xcJ _ _;have L:=xdu h1 B;have e:yu (n+1) (λi=>A j i*C i k)-(if j=k then 1 else 0)-A j n*C n k=yu n (λi=>A j i*C i k)-(if j=k then 1 else 0):=by show yu n _+A j n*C n k-_-A j n*C n k=_;lia
  rwa[e]at L;have⟨o,hd,hc⟩:∃o,o∈c/\¬(P:J)∣C n o:=by apply xak;intro M;refine D λj r=> ?_;apply xak;intro h1;exact M ⟨j,r,h1⟩
  have⟨x,Q⟩:=Tm hp hc;have R:=List.length_erase_of_mem hd;have T:=xft hd;have:=Cu hp n (c.erase o) A (λi k=>C i k-(x:J)*C i o*C n k) (t.erase o) λj r k z=>by
   have⟨n1,F⟩:=t.mem_erase_iff.1 r;have⟨n2,U⟩:=t.mem_erase_iff.1 z;have h1:=h j F k U;have B:=h j F o hd;rw[ir n1,xdh]at B;rw[zf5];have⟨k1,e1⟩:=h1;have⟨k2,G⟩:=B;have⟨k3,e3⟩:=Q;have s:yu n (λi=>A j i*C i k)+A j n*C n k-(if j=k then 1 else 0)=P*k1:=e1;have E:yu n (λi=>A j i*C i o)+A j n*C n o=P*k2:=G;have V:(if j=k then(1:J)else 0)=if j=k then 1 else 0:=O;generalize(if j=k then(1:J)else 0)=dl at s⊢;generalize yu n (λi=>A j i*C i k)=s1 at s⊢;generalize yu n (λi=>A j i*C i o)=s0 at E⊢;refine⟨k1-((x:J)*C n k*k2-A j n*C n k*k3),?_⟩;clear e1 G V D hc h R T;grind
  lia
structure Sf(p:J)(m:N J)(us:N (N J)):Prop where
 hp:qp p=wL
 mn:vv p m
 ml:m.length<=290
 ir:∀u∈us,Qy p u/\u.length<=290
 pw:us.Pairwise (λa b=>kn p (C a)<|C b)
 cg:Cg p (C m) (prZ<|us.map C)
theorem bC:∀g∈l.map C,Fs g:=by grind [C,Fs.ci]
theorem Qy.self(hp:2<=p)(c:Qy p u):¬kn p (C u) (C u):=λ⟨s,t,fs,e,h⟩=>by
 refine c.ne hp ⟨s+t,fs.add e,h.symm.trans<|Cg.of ?_⟩;rw[yW]
def Sf.dv(h:Sf p m us)(c:u∈us):Di p (C u) (C m):=(bE bC<|xbF c).cg h.cg.symm
def Sf.mem{p:J}{m:N J}{us:N (N J)}(h:Sf p m us){u:N J}(c:Qy p u)(e:X u<=290)(hd:Di p (C u) (C m)):u∈us:=c.mem h.hp e h.ir<|hd.cg h.cg
def Sf.sq(h:Sf p m us)(e:u∈us):¬Di p (C u*C u) (C m):=λhd=>by
 have⟨c,A⟩:=zw h.hp;obtain⟨a,b,rfl⟩:=xeo e;have⟨hi,j⟩:=h.ir u e;have JO:=h.pw;rw[xdn,xdk]at JO;have⟨q,fq,h1⟩:=hd;have i:=h.cg;rw[xaR,xbQ,vm]at i;have n:Cg p (prZ (a.map C)*(C u*prZ (b.map C))) (q*(C u*C u)):=i.symm.trans h1;have o:Fs (prZ<|(a++b).map C):=Fs.prZ bC;have r:Cg p ((prZ ((a++b).map C)-q*C u)*C u) (Q 0):=by rw[ke,xaR,vm];refine Cg.trans (Cg.sub (Cg.of ?_)<|Cg.of<|zd q (C u)<|C u)<|Cg.iff_sub.1 n;rw[zd,zk<|prZ<|b.map C]
 have s:=hi.mn.mn.zero c (o.subt<|fq.mul<|Fs.ci u) λk B=>by rw[r k,zO,xap]
 have t:Di p (C u) (prZ<|(a++b).map C):=⟨q,fq,Cg.iff_sub.2 s⟩;have x:=hi.mem h.hp j (us:=a++b) (λw z=>by
  obtain h|h:=xaa.1 z
  exact(by assumption:Sf p m (a++u::b)).ir w<|xdP _ h;exact(by assumption:Sf p m (a++u::b)).ir w<|xep _<|FS _ h) t
 obtain h8|h8:=xaa.1 x
 exact hi.self c<|JO.2.2 u h8 u<|IR;exact hi.self c<|JO.2.1.1 u h8
def Sf.len(h:Sf p m us)(c:vv p g)(hd:Di p (C g) (C m)):X g<=290:=by have⟨q,fq,h1⟩:=hd;exact xal (gV (zw h.hp).1 h.mn c fq h1) h.ml
def Sf.some{p:J}{m:N J}{us:N (N J)}(h:Sf p m us){g:N J}(e:vv p g)(hd:Di p (C g) (C m))(hl:1<X g):∃u,u∈us/\Di p (C u) (C g):=by
 have j:=h.len e hd;have⟨vs,h1,i⟩:=zqJ h.hp (X g) O j e
 cases vs with
 |nil=>
  exfalso;have c:=i<|X g-1;have ht:=e.top;have hp:=(zw h.hp).1;rw[ht,show prZ (List.map C [])=Q 1 from O,show Q 1 (X g-1)=0 from zD,xap,xaH mD W]at c;cases c
 |cons v vs=>
  have c:Di p (C v) (C g):=(bE bC<|xbF<|IR).cg i.symm;have⟨k,n⟩:=h1 v<|IR;exact⟨v,h.mem k W<|c.trans hd,c⟩
def Sf.one{p:J}{m:N J}{us:N (N J)}(h:Sf p m us){g:N J}(c:vv p g)(hd:Di p (C g) (C m))(hl:1<X g)(o:∀u∈us,∀w∈us,Di p (C u) (C g)->Di p (C w) (C g)->u=w):Qy p g:=by
 have⟨s,A⟩:=zw h.hp;have B:=h.len c hd;have⟨u,i,h1⟩:=h.some c hd hl;have⟨hi,D⟩:=h.ir u i;have⟨q,j,hc,hn⟩:=quo h.hp c hi.mn W h1;by_cases t:1<X q;exfalso;have k:Di p (C q) (C g):=⟨C u,Fs.ci u,hc.trans<|Cg.of<|zk _ _⟩;have⟨w,x,n⟩:=h.some j (k.trans hd) t;have e:=o w x u i (n.trans k) h1;subst e;have⟨r,fr,z⟩:=n;refine h.sq i<|Di.trans ⟨r,fr,hc.trans<|(z.mul Cg.rfl).trans<|Cg.of<|zd _ _ _⟩ hd;have hp:=j.ln;have E:=j.one W;have:g=u:=by refine(LZ s hi.mn c h1 ?_).symm;lia
 rw[this];exact hi
def Sf.apart(h:Sf p m us){a b:Pz}(k:Fs a)(n:Fs b)(c:Di p (a*b) (C m))(e:u∈us)(h1:Di p (C u) a)(i:Di p (C u) b):KW:=by have⟨q,fq,e1⟩:=h1;have⟨r,fr,j⟩:=i;refine h.sq e<|Di.trans ⟨q*r,fq.mul fr,(e1.mul j).trans<|Cg.of ?_⟩ c;rw[zd,zd,zE (C u) r]
def zmm{t e i:N J}{S:K}(c:BzR p g t d e i S)(u:N J):Di p (ci u) (ci d)↔Di p (ci u) (ci g)/\Di p (ci u) (ci t):=by have⟨A,C,j,k,h1,n⟩:=c.dv;refine⟨λh=>⟨h.trans ⟨A,j,h1⟩,h.trans ⟨C,k,n⟩⟩,λ⟨a,b⟩=> ?_⟩;exact(Di.add (a.mul _<|Fs.ci _)<|b.mul _<|Fs.ci _).cg c.cg.symm
def fE{α:Type}[DecidableEq α]:∀{vs us:N α},vs.Nodup->(∀v∈vs,v∈us)->X vs<=X us
 |[],_,_,_=>xae _
 |v::vs,us,hn,h=>by
  have⟨h1,i⟩:=xfo.1 hn;have hv:=h v<|IR;have j:=fE (us:=us.erase v) i λw c=>by
   refine(List.mem_erase_of_ne λe=> ?_).2<|h w<|FS _ c;rw[e]at c;exact h1 c
  have k:=List.length_erase_of_mem hv;have n:=xft hv;simp only[xaw];lia
def Sf.nodup(h:Sf p m us):us.Nodup:=by
 have hp:=(zw h.hp).1;have:∀us:N (N J),(∀u∈us,Qy p u/\X u<=290)->us.Pairwise (λa b=>kn p (C a)<|C b)->us.Nodup:=λus=>by
  induction us with
  |nil=>intro _ _;exact List.nodup_nil
  |cons u us c=>
   intro hi e;have⟨w1,i⟩:=xdk.1 e;refine xfo.2 ⟨λj=> ?_,c (λg k=>hi g<|FS _ k) i⟩;exact(hi u<|IR).1.self hp<|w1 u j
 exact this us h.ir h.pw
structure Pl(p:J)(m:N J)(l:N (N J)):Prop where
 mn:∀g∈l,vv p g/\1<g.length
 pr:Cg p (C m) (prZ<|l.map C)
def Pl.dv(h:Pl p m l)(c:g∈l):Di p (C g) (C m):=(bE bC<|xbF c).cg h.pr.symm
theorem zba(a b:N (N J))(g:N J):prZ ((a++g::b).map C)=C g*prZ ((a++b).map C):=by grind [prZ,C,vm,zE]
def Sf.pick{p:J}{m:N J}{us:N (N J)}(h:Sf p m us):∀{l:N (N J)},(∀g∈l,vv p g/\1<X g)->Di p (prZ<|l.map C) (C m)->∃vs:N (N J),X vs=X l/\vs.Nodup/\∀v∈vs,v∈us/\Di p (C v) (prZ<|l.map C)
 |[],_,_=>⟨[],O,List.nodup_nil,λv hv=>by cases hv⟩
 |g::l,c,hd=>by
  have fl:Fs (prZ<|l.map C):=Fs.prZ bC;have d1:Di p (C g) (prZ<|(g::l).map C):=⟨prZ<|l.map C,fl,Cg.of<|zk _ _⟩;have d2:Di p (prZ<|l.map C) (prZ<|(g::l).map C):=⟨C g,Fs.ci g,Cg.rfl⟩;have⟨j,k⟩:=c g<|IR;have⟨u,e,i⟩:=h.some j (d1.trans hd) k;have⟨vs,v1,n,v3⟩:=h.pick (λg o=>c g<|FS _ o)<|d2.trans hd;refine⟨u::vs,by simp[v1],xfo.2 ⟨λhc=> ?_,n⟩,λv hv=> ?_⟩;exact h.apart (Fs.ci g) fl hd e i (v3 u hc).2;obtain rfl|hv:=xah.1 hv
  exact⟨e,i.trans d1⟩;exact⟨(v3 v hv).1,(v3 v hv).2.trans d2⟩
def Sf.more(h:Sf p m us)(hl:Pl p m l){w:N J}(j:g∈l)(c:u∈us)(e:w∈us)(h1:Di p (C u) (C g))(k:Di p (C w) (C g))(n:u≠w):X l<X us:=by
 obtain⟨a,b,rfl⟩:=xeo j;have i:=hl.pr;rw[zba]at i;have fl:Fs (prZ<|(a++b).map C):=Fs.prZ bC;have hd:Di p (C g*prZ ((a++b).map C)) (C m):=⟨Q 1,Fs.pc 1,i.trans<|Cg.of (zC _).symm⟩;have⟨vs,v1,o,v3⟩:=h.pick (l:=a++b) (λx q=>by
  obtain h|h:=xaa.1 q
  exact hl.mn x<|xdP _ h;exact hl.mn x<|xep _<|FS _ h) (Di.trans ⟨C g,Fs.ci g,Cg.rfl⟩ hd)
 have hn:(u::w::vs).Nodup:=by
  refine xfo.2 ⟨λhc=> ?_,xfo.2 ⟨λhc=> ?_,o⟩⟩;obtain hc|hc:=xah.1 hc
  exact n hc;exact h.apart (Fs.ci g) fl hd c h1 (v3 u hc).2;exact h.apart (Fs.ci g) fl hd e k (v3 w hc).2
 have:=fE (us:=us) hn λv hv=>by
  obtain rfl|hv:=xah.1 hv
  exact c;obtain rfl|hv:=xah.1 hv
  exact e;exact(v3 v hv).1
 simp only[xaw,xat]at this v1⊢;lia
def Pl.split{a b:N (N J)}{q:N J}(h:Pl p m (a++g::b))(hd:vv p d)(c:vv p q)(e:1<X d)(i:1<X q)(hc:Cg p (C g) (C q*C d)):Pl p m (a++d::(b++[q])):=by
 refine⟨λx hx=> ?_,?_⟩;obtain hx|hx:=xaa.1 hx
 exact h.mn x<|xdP _ hx;obtain rfl|hx:=xah.1 hx
 exact⟨hd,e⟩;obtain hx|hx:=xaa.1 hx
 exact h.mn x<|xep _<|FS _ hx;rw[xac.1 hx];exact⟨c,i⟩;have h1:=h.pr;rw[zba]at h1⊢;rw[<-xaq,xaR,vm];refine h1.trans<|(hc.mul Cg.rfl).trans<|Cg.of ?_;show C q*C d*prZ ((a++b).map C)=C d*(prZ ((a++b).map C)*(C q*Q 1));rw[yp,zk (prZ _)<|C q,zE<|C d,zd]
structure Bs(P:K)(m:N J)(b:K->Pz)(n:K):Prop where
 od:P=2\/P%2=1
 ml:1<m.length
 sp:∀e:Pz,(∀k,m.length-1<=k->e k=0)->Di (P:J) (C m) (pp e P-e)->∃a:K->J,Cg (P:J) e<|smP n λi=>Q (a i)*b i
 sm:∀i,i<n->∀k,m.length-1<=k->b i k=0
 fx:∀i,i<n->Di (P:J) (C m) (pp (b i) P-b i)
def Bs.val(h:Sf (P:J) m us){n:K}(e:Bs P m b n)(j:u∈us){i:K}(hi:i<n):∃c:K,c<P/\Vl (P:J) u (b i) c:=by have hl:=h.ml;have k:=e.ml;exact zk0 h.hp (h.ir u j).1 (h.ir u j).2 (h.dv j) (n:=X m-1) (e.sm i hi) W W<|e.fx i hi
def Bs.le(h:Sf (P:J) m us){n:K}(D:Bs P m b n):X us<=n:=by
 have⟨E,Y⟩:=zw h.hp;have hl:=h.nodup;have hd:∀j,j<X us->us.getD j []∈us:=λj k=>by rw[UV,xab k];exact xbG k
 have F:∀i j,∃c:J,i<n->j<X us->Vl (P:J) (us.getD j []) (b i) c:=λi j=>by
  by_cases hi:i<n;by_cases k:j<X us;have⟨c,_,hc⟩:=D.val h (hd j k) hi;exact⟨c,λ_ _=>hc⟩;exact⟨0,λ_ h=>wS h k⟩;exact⟨0,λh=>wS h hi⟩
 have G:∀j,∃a:K->J,j<X us->∃e:Pz,Cg (P:J) e (smP n λi=>Q (a i)*b i)/\Vl (P:J) (us.getD j []) e 1/\∀w,w∈us->w≠us.getD j []->Vl (P:J) w e 0:=λj=>by
  by_cases k:j<X us;have⟨e,e1,t,x,s⟩:=zqx h.hp h.mn h.ir h.pw h.cg<|hd j k;have⟨a,T⟩:=D.sp e e1 s;exact⟨a,λ_=>⟨e,T,t,x⟩⟩;exact⟨λ_=>0,λh=>wS h k⟩
 have z:∃A:K->K->J,∀j,j<X us->∃e:Pz,Cg (P:J) e (smP n λi=>Q (A j i)*b i)/\Vl (P:J) (us.getD j []) e 1/\∀w,w∈us->w≠us.getD j []->Vl (P:J) w e 0:=⟨λj=>Classical.choose<|G j,λj=>xfH<|G j⟩;have B:∃C:K->K->J,∀i j,i<n->j<X us->Vl (P:J) (us.getD j []) (b i) (C i j):=⟨λi j=>Classical.choose<|F i j,λi j=>xfH<|F i j⟩;have⟨A,z⟩:=z;have⟨C,B⟩:=B;have:=Cu h.hp n (xaO (X us)) A C List.nodup_range λj k o U=>by
  have l1:=xbd.1 k;have r:=xbd.1 U;have⟨e,e1,t,x⟩:=z j l1;have s:=(p8 (a:=A j) n λi hi=>B i o hi r).cg e1.symm;have H:=(h.ir _<|hd o r).1;by_cases q:j=o;subst q;rw[S O];exact s.uniq E H t;rw[ir q];refine s.uniq E H<|x _ (hd o r) λV=>q ?_;have g1:=UV (l:=us) (i:=j) (a:=[]);have L:=UV (l:=us) (i:=o) (a:=[]);rw[xab l1]at g1;rw[xab r]at L;have M:us[j]=us[o]:=by have:us.getD j []=us.getD o []:=V.symm;rw[g1,L]at this;exact this
  apply xak;intro hh;have R:=xcU.1 hl;obtain hlt|hlt:=Nat.lt_or_gt_of_ne q
  exact R j o l1 r hlt M;exact R o j r l1 hlt M.symm
 rwa[xex]at this
def Ct(P:K)(us:N (N J))(v:Pz)(c:J)(g:N J):Prop:=
 (∀u∈us,Di (P:J) (C u) (C g)->∀a,Vl (P:J) u v a->th P (a+c))\/(∀u∈us,Di (P:J) (C u) (C g)->∀a,Vl (P:J) u v a->¬th P (a+c))
def Ct.sub{c:J}(h:Ct P us v c g)(hd:Di (P:J) (C d) (C g)):Ct P us v c d:=by
 obtain h|h:=h
 exact .inl λu e i=>h u e<|i.trans hd;exact .inr λu e i=>h u e<|i.trans hd
def Pl.done(h:Sf (P:J) m us){n:K}(e:Bs P m b n)(hl:Pl (P:J) m l)(h0:∃c:J,Cg (P:J) (b 0)<|Q c)(B:X l=n\/∀i,1<=i->i<n->∀c:K,c<P->∀g∈l,Ct P us (b i) c g):∀g∈l,Qy (P:J) g:=λg o=>by
 have⟨G,H⟩:=zw h.hp;have⟨g1,D⟩:=hl.mn g o;refine h.one g1 (hl.dv o) D λu j w k h1 r=> ?_;apply xak;intro A;have hn:=e.le h;have L:=h.more hl o j k h1 r A;obtain he|he:=B
 lia
 refine A ?_;have hc:∀i,∃c:J,i<n->Vl (P:J) u (b i) c/\Vl (P:J) w (b i) c:=λi=>by
  by_cases hi:i<n;by_cases E:i=0
  have⟨c,hc⟩:=h0;subst E;exact⟨c,λ_=>⟨(Vl.pc _ u c).cg hc.symm,(Vl.pc _ w c).cg hc.symm⟩⟩
  have⟨x,_,s⟩:=e.val h j hi;have⟨y,_,t⟩:=e.val h k hi;have hd:(P:J)∣(x:J)-y:=zjY h.hp e.od λc F=>by
   obtain ht|ht:=he i W hi c F g o
   exact⟨λ_=>ht w k r _ t,λ_=>ht u j h1 _ s⟩;exact⟨λz=>wS z<|ht u j h1 _ s,λz=>wS z<|ht w k r _ t⟩
  exact⟨y,λ_=>⟨s.md hd,t⟩⟩;exact⟨0,λh=>wS h hi⟩
 have q:∃C:K->J,∀i,i<n->Vl (P:J) u (b i) (C i)/\Vl (P:J) w (b i) (C i):=⟨λi=>Classical.choose<|hc i,λi=>xfH<|hc i⟩;have⟨C,q⟩:=q;exact sep h.hp h.mn h.ir h.pw h.cg e.sp j k (λi hi=>(q i hi).1) λi hi=>(q i hi).2
end
section
variable{p:wn}{a g d v ds m:xS wn}{y:Pz}{E fu P k i nb:wr}{us l bs:xS (xS wn)}
def Em(p:J)(a:N J)(x y:Pz):Prop:=Di p (C a)<|x-y
def Em.rfl{x:Pz}:Em p a x x:=(Di.zero p<|C a).cg<|Cg.of<|funext λk=>by rw[y7,zO,xel]
def Em.cg{p:J}{a:N J}{x y:Pz}(h:Cg p x y):Em p a x y:=(Di.zero p<|C a).cg (Cg.iff_sub.1 h).symm
def Em.symm{x:Pz}(h:Em p a x y):Em p a y x:=(Di.sub (Di.zero p<|C a) h).cg<|Cg.of<|funext λk=>by simp only[y7,zO];lia
def Em.trans{x z:Pz}(h:Em p a x y)(g:Em p a y z):Em p a x z:=(Di.add h g).cg<|Cg.of<|funext λk=>by simp only[zP,y7];lia
def Em.mul{p:J}{a:N J}{x y z w:Pz}(fx:Fs x)(b:Fs w)(h:Em p a x y)(g:Em p a z w):Em p a (x*z) (y*w):=by refine(Di.add (Di.mul x fx g)<|Di.mul w b h).cg<|Cg.of ?_;rw[qq,qq,zk w x,zk w y];funext k;simp only[zP,y7];lia
def Em.dv{b:N J}{x:Pz}(h:Em p a x y)(g:Di p (C b) (C a)):Em p b x y:=g.trans h
def Em.vl{u:N J}{x:Pz}{c:J}(h:Em p u x y)(g:Vl p u y c):Vl p u x c:=by refine(Di.add h g).cg<|Cg.of ?_;funext k;simp only[zP,y7];lia
def Em.rest{x q r:N J}(h:Cg p (C x) (C q*C a+C r)):Em p a (C x) (C r):=by refine⟨C q,Fs.ci q,(h.sub Cg.rfl).trans<|Cg.of ?_⟩;funext k;simp only[zP,y7];lia
theorem zkG(h0:0<E)(h:E<18446744073709551616):yG (E:J)=(I,[E]):=by grind [yG,GP]
def zqo(n:K):n<2^bl n:=by
 induction n using xdA with
 |ind n b=>
  obtain rfl|h:=xcs n
  skip;decide;have h1:=b (n/2) W;rw[dI h];lia
structure PwI(p:J)(a w:N J)(E i:K)(t:N J):Prop where
 fp:Fp p t
 ln:t.length<a.length
 em:Em p a (pp (C w)<|E/2^i) (C t)
def K3{w:N J}(hp:qp p=wL)(o:Fp p w)(e:vv p a)(hm:X w<=40000)(hn:X a<=40000)(h0:0<E)(hE:E<1048576)(c:3000000<=fu):
 ∃r,uV fu w (yG E) a p=Z (r,0)/\Fp p r/\X r<X a/\Em p a (pp (C w) E) (C r):=by
 have⟨p1,h⟩:=zw hp;have hc:=e.ln;have u:=zkG h0 (W:E<18446744073709551616);have z:zm [E]:=λx G=>by rw[xac.1 G];lia
 have H:nv [E]=E:=by simp[nv]
 have M:iU (yG (E:J)):=by rw[u];exact⟨z,mK⟩
 have⟨q1,r1,d1,d2,d3,d4,d5,d6⟩:=xH (fu:=fu) hp (Qe (x:=1)) e.fm hc mK W c;have⟨q2,r2,f1,f2,f3,f4,f5,f6⟩:=xH (fu:=fu) hp o e.fm hc W W c;have R:bl E<=20:=af (W:E<2^20);have hl:kh (E:J) 0=1:=by unfold kh;rw[zD,yg]
 unfold uV;rw[U<|Zu hp,S O,U<|xe M c,zo,hl,ir mD,U<|zK W h (e.fm.rl h) W c,e.fm.pm,zD,U d1];simp only;rw[U<|zK W h (o.rl h) W c,o.pm,U f1];simp only;rw[u];show∃r,Y (Zf fu [E]) _=_/\_;rw[U (W3 z mK<|by simp;lia),H,zb];have hd:=zX (f:=Wk fu (I,[E]) p a) (λs:N J×N J×J=>∃(i:K) (t:N J),s=(t,r2,(i:J)-1)/\i<=20/\PwI p a w E i t) (λs=>(s.2.2+1).toNat) (λr=>PwI p a w E 0 r) (by
  rintro s L ⟨i,t,rfl,hi,b⟩ B;unfold Wk;simp only
  cases i with
  |zero=>rw[zD];exact⟨t,O,b⟩
  |succ i=>
   have ho:=b.ln;have ml:=jF p t t;have⟨q3,j,g1,g2,D,T,V,g6⟩:=xH (fu:=fu) hp (jc (p:=p) W t t) e.fm hc W W c;have n:Em p a (pp (C w)<|E/2^(i+1)+E/2^(i+1)) (C j):=by rw[Cd];refine(Em.mul ((Fs.ci w).pp _) (Fs.ci t) b.em b.em).trans<|(Em.cg (ZF p t t).symm).trans<|Em.rest T
   have ei:((i+1:K):J)-1=(i:J):=W
   have e1:xdx (i:J) 64=0:=by rw[xeV W];lia
   have e2:xcB (i:J) 64=(i:J):=by rw[Int.tmod_eq_emod_of_nonneg W];lia
   have e3:E/2^i/2=E/2^(i+1):=by rw[xaD,xbw]
   rw[ei,yg,U<|ve W h b.fp b.fp W W c,U g1];simp only;rw[wM mD,e1,jL ⟨mD,mD⟩,show(0:J)=((0:K):J)from O,zn mK,A,wM mD,e2,A,y8,A,A];have e4:(([E]:N K).getD 0 0/2^(min (i:J).toNat 64)) &&& 1=E/2^i%2:=by rw[Nat.and_one_is_mod,xaZ,xck W];rfl
   rw[e4];by_cases hb:E/2^i%2=1
   rw[yg];have a0:=jF p j r2;have⟨q4,F,k1,k2,k3,k4,k5,k6⟩:=xH (fu:=fu) hp (jc (p:=p) W j r2) e.fm hc W W c;rw[U<|ve W h D f3 W W c,U k1];simp only;rw[zb];refine B _ ⟨i,F,O,W,⟨k3,k5,?_⟩⟩ (by show((i:J)-1+1).toNat<(((i+1:K):J)-1+1).toNat;lia);have q:E/2^i=E/2^(i+1)+E/2^(i+1)+1:=W
   rw[q];show Em p a (pp (C w) (E/2^(i+1)+E/2^(i+1))*C w) (C F);exact(Em.mul ((Fs.ci w).pp _) (Fs.ci r2) n<|Em.rest f4).trans<|(Em.cg (ZF p j r2).symm).trans<|Em.rest k4;rw[zD,zb];refine B _ ⟨i,j,O,W,⟨D,V,?_⟩⟩ (by show((i:J)-1+1).toNat<(((i+1:K):J)-1+1).toNat;lia);have q:E/2^i=E/2^(i+1)+E/2^(i+1):=W
   rw[q];exact n)
 have⟨r,hr,b⟩:=hd fu (r1,r2,((bl E:K):J)-1) ⟨bl E,r1,O,R,⟨d3,d5,by have hz:E/2^bl E=0:=xbh<|zqo E;rw[hz];show Em p a (Q 1) (C r1);have h1:Em p a (C [1]) (C r1):=Em.rest d4;rwa[jY]at h1⟩⟩ (by show(((bl E:K):J)-1+1).toNat<fu;lia)
 refine⟨r,?_,b.fp,b.ln,?_⟩;rw[U hr];have:=b.em;rwa[xfe,xer]at this
def ziI{h s t:N J}{S:K}(hp:2<=p)(c:vv p h)(b:BzR p g h d s t S)(hd:X d=0\/ci d (X d-1)=1):vv p d:=by
 have⟨A,C,f,z2,d1,d2⟩:=b.dv;have hl:0<X d:=by refine xcR λe=> ?_;have h1:=d2<|X h-1;rw[c.top,wV,yZ λi hi=>by rw[yA W,xaA],xaH mD W]at h1;cases h1
 exact⟨b.df,hl,hd.resolve_left W⟩
def GD{t:N J}(hp:qp p=wL)(ht:Fp p t)(c:vv p g)(e:X t<=290)(hc:X g<=290)(f:3000000<=fu):
 ∃d,bZ fu t g p=Z d/\vv p d/\Di p (ci d) (ci g)/\∀u:N J,Di p (ci u) (ci d)↔Di p (ci u) (ci t)/\Di p (ci u) (ci g):=by
 have⟨h,n⟩:=zw hp;have⟨d,o,q,e1,b,j⟩:=Jv hp ht c.fm e hc f;have⟨A,C,r,z2,d1,d2⟩:=b.dv;refine⟨d,?_,ziI h c b j,⟨C,z2,d2⟩,λu=>zmm b u⟩;unfold bZ;rw[U e1]
def IW(hp:qp p=wL)(e:vv p g)(hd:vv p d)(x:X g<=290)(h:Di p (C d) (C g))(j:3000000<=fu):
 ∃q,gL fu g d p=Z q/\vv p q/\Cg p (C g) (C q*C d)/\X g+1=X q+X d:=by
 have⟨n,f⟩:=zw hp;have⟨A,o,h1⟩:=h;have hc:=gV n e hd o h1;have⟨q,r,e1,s,t,u,w,z⟩:=xH hp e.fm hd.fm hd.ln W W j;have⟨a,b,c⟩:=Hh n e hd o h1 s t u w;refine⟨q,?_,a,b,c⟩;unfold gL ku;rw[U (v:=(q,r,0))];rw[U<|Zu hp,S O,U<|zK W f (hd.fm.rl f) W j,hd.fm.pm,zD,U<|zK W f (e.fm.rl f) W j,e.fm.pm,U e1]
def AY{c:J}(hp:qp (P:J)=wL)(hv:Rl v)(L:X v<=290)(n:vv (P:J) g)(M:X g<=290)(hl:0<=c)(R:c<P)(b:3000000<=fu):
 ∃t,Jj fu v c g P=Z t/\Fp (P:J) t/\X t<=290/\∀u:N J,Qy (P:J) u->Di (P:J) (C u) (C g)->∀x,Vl (P:J) u (C v) x->(Di (P:J) (C u) (C t)↔th P (x+c)):=by
 have⟨o,h⟩:=zw hp;have hi:=n.ln;have A:Rl [c]:=λk=>by
  rw[jY];unfold Q;split;lia;lia
 have⟨w,f⟩:∃w,w=XV (P:J) (pm P v) (pm P [c]) 1:=⟨_,O⟩;have l1:=zbz (P:J) v;have q:=zbz (P:J) [c];have B:X w<=290:=by have:=B6 (P:J) (pm P v) (pm P [c]) 1;rw[<-f]at this;simp only[xaw,xbT]at q;lia
 have s:Fp (P:J) w:=by rw[f];exact aB W _ _ _
 have D:Cg (P:J) (C w) (C v+Q c):=by rw[f];refine(Ix _ _ _ _).trans<|(OW _ v).add ?_;rw[zC];exact(OW _ [c]).trans<|Cg.of<|jY c
 have F:KU fu v [c] P=Z (w,0):=by unfold KU;rw[U<|Zu hp,S O,U<|zK W h hv W b,U<|zK W h A mK b,U<|J4 W h (Dx W v) (Dx W [c]) mD W W (by simp only[xaw,xbT]at q;lia) b,f]
 have vw:∀u:N J,∀x,Vl (P:J) u (C v) x->Vl (P:J) u (C w) (x+c):=λu x e=>(Vl.add e<|Vl.pc _ u c).cg D.symm;unfold Jj;rw[U F];simp only;by_cases z:2<P;have⟨r,e1,G,T,H⟩:=K3 (fu:=fu) (E:=(P-1)/2) hp s n W W W W b;have hd:xdx ((P:J)-1) 2=(((P-1)/2:K):J):=by rw[xeV W];lia
 have⟨t,ht⟩:∃t,t=XV (P:J) r [1] ((P:J)-1):=⟨_,O⟩;have f1:Fp (P:J) [1]:=Qe;have lt:=B6 (P:J) r [1]<|(P:J)-1;rw[<-ht]at lt;have ct:Cg (P:J) (C t) (C r-Q 1):=by rw[ht];refine(Ix _ _ _ _).trans ?_;rw[jY,jx,xcQ];intro k;rw[zP,y7];unfold Q;split;rw[(W:C r k+((P:J)-1)=C r k-1+P*1),Int.add_mul_emod_self_left];rw[xbW,xdh]
 rw[yg,zb,wM mD,hd,zb,U<|yw ⟨W,W⟩ b,U e1];simp only;rw[U<|fi hp G f1 W mK b];refine⟨t,by rw[ht],by rw[ht];exact aB W _ _ _,by simp only[xaw,xbT]at lt;lia,λu j hc x e=> ?_⟩
 have v1:Vl (P:J) u (C t) ((x+c)^((P-1)/2)-1):=
  (Vl.sub ((Em.dv H hc).symm.vl<|Vl.pp (Fs.ci w) (vw u x e)<|(P-1)/2)<|Vl.pc _ u 1).cg ct.symm
 refine(v1.di o j).trans ?_;unfold th;rw[S z];rw[zD];refine⟨w,O,s,B,λu j hc x e=> ?_⟩;refine((vw u x e).di o j).trans ?_;unfold th;rw[ir z]
def nxt(P:K)(ds:N J)(k:K):J:=if k<X ds then ds.getD k 0%P else((k-X ds:K):J)
theorem mJ(b:2<=P)(c:P<=65521)(hd:Rl ds)(e:k<P+X ds)(hc:X ds<=1000):Yo fu (k:J) ds P=Z (nxt P ds k)/\0<=nxt P ds k/\nxt P ds k<P:=by unfold Yo nxt;by_cases h:k<X ds;rw[zn h,A,U (show Zn fu (ds.getD k 0) P=Z (ds.getD k 0%P)from YF W W<|hd k)];have:=xg (a:=ds.getD k 0) (p:=P);simp_all;rw[zb];grind
abbrev Ts:=Pz->J->Prop
structure Pd(P:K)(m:N J)(us:N (N J))(S:Ts)(l:N (N J)):Prop where
 pl:Pl (P:J) m l
 ts:∀v c,S v c->∀g∈l,Ct P us v c g
def zg5{α:Type}{a b:N α}{g q d:α}:((a++g::b)++[q]).set (X a) d=a++d::(b++[q]):=by simp_all
def zgW{α:Type}{l:N α}(h:i<X l)(z:α):∃a b,l=a++l.getD i z::b/\X a=i:=by refine⟨l.take i,l.drop<|i+1,?_,by rw[xar];lia⟩;simp_all
theorem YG{α:Type}{l:N α}(h:i<X l)(z:α):l.getD i z∈l:=by grind
def Sf.pl_len(h:Sf p m us)(hl:Pl p m l):X l<=X us:=by have⟨vs,v1,b,v3⟩:=h.pick hl.mn ⟨Q 1,Fs.pc 1,hl.pr.trans<|Cg.of (zC _).symm⟩;have:=fE b λv hv=>(v3 v hv).1;lia
def zgX{t7:N (N J)}{i2 i4:J}{S:Ts}(h:Sf (P:J) m us)(hJ:X us<=290)(hK:X bs=nb)(hG:nb<=290)(hd:Rl ds)(hA:X ds<=1000)(hv:Rl v)(hB:X v<=290)(hk:k<P+X ds)(H:3000000<=fu)(hl:Pd P m us S l):
 ∃r,zg (Qu fu P ds bs P ds i2 (k:J) t7 i4 v) fu (l,0)=Z r/\
  ((∃D,r=.inl D/\Pl (P:J) m D/\X D=nb)\/∃D,r=.inr D/\Pd P m us (λw c=>S w c\/w=C v/\c=nxt P ds k) D):=by
 have⟨M,p2⟩:=zw h.hp;have⟨n1,n2,n3⟩:=mJ (fu:=fu) (P:=P) (k:=k) (ds:=ds) W W hd hk hA;refine zX (λs:N (N J)×J=>∃(i:K) (l:N (N J)),s=(l,(i:J))/\Pd P m us S l/\i<=X l/\∀j,j<i->Ct P us (C v) (nxt P ds k) (l.getD j [])) (λs=>300-s.2.toNat) _ ?_ _ _ ⟨0,l,O,hl,xae _,λj G=>by lia⟩ (by show 300-0<fu;lia);rintro s L ⟨i,l,rfl,hl,hi,ht⟩ Y;have hL:=h.pl_len hl.pl;unfold Qu;simp only;by_cases h1:i<X l;rw[yg];by_cases h2:X l=nb;rw[yg];exact⟨_,O,.inl ⟨l,O,hl.pl,h2⟩⟩
 rw[zD,U n1,zn h1,A];have⟨a,b,hc,hp⟩:=zgW h1 [];have F:=YG h1 [];have⟨g,f⟩:∃g,g=l.getD i []:=⟨_,O⟩;rw[<-f]at hc F⊢;have⟨g1,g2⟩:=hl.pl.mn g F;have hC:=hl.pl.dv F;have Q:=h.len g1 hC;have⟨t,t1,t2,t3,t4⟩:=AY (fu:=fu) h.hp hv hB g1 Q n2 n3 H;have⟨d,d1,d2,d3,d4⟩:=GD (fu:=fu) h.hp t2 g1 t3 Q H;have hM:=d2.ln;have hH:X d<=X g:=by have⟨q,fq,hq⟩:=d3;exact gV M g1 d2 fq hq
 rw[U t1,zn h1,A,<-f,U d1];have hn:∀u∈us,Di (P:J) (C u) (C g)->∀x,Vl (P:J) u (C v) x->(Di (P:J) (C u) (C d)↔th P (x+nxt P ds k)):=λu n o x hx=>
  ⟨λR=>(t4 u (h.ir u n).1 o x hx).1 ((d4 u).1 R).1,λR=>(d4 u).2 ⟨(t4 u (h.ir u n).1 o x hx).2 R,o⟩⟩
 by_cases h3:1<X d/\X d<X g;have⟨q,q1,q2,q3,q4⟩:=IW (fu:=fu) h.hp g1 d2 Q d3 H;rw[yg,zn h1,A,<-f,yg,U O];simp only[uS];rw[zn h1,A,<-f,U q1,wM (by simp;lia),A,zn (by simp;lia),A,zb];have hr:(l++[q]).set i d=a++d::(b++[q]):=by rw[hc,<-hp,zg5]
 have hD:Di (P:J) (C q) (C g):=⟨C d,Fs.ci d,q3.trans<|Cg.of<|zk _ _⟩;have hw:∀x∈a++d::(b++[q]),x=d\/x=q\/x∈l:=λx hx=>by
  obtain hx|hx:=xaa.1 hx
  right;right;rw[hc];exact xdP _ hx;obtain hx|hx:=xah.1 hx
  exact .inl hx;obtain hx|hx:=xaa.1 hx
  right;right;rw[hc];exact xep _<|FS _ hx;exact .inr (.inl<|xac.1 hx)
 have hy:Pl (P:J) m (a++d::(b++[q])):=by have:=hl.pl;rw[hc]at this;exact this.split d2 q2 W W q3
 refine Y _ ⟨i+1,_,O,?_,?_,?_⟩ ?_;rw[hr];refine⟨hy,λw c z x hx=> ?_⟩;obtain rfl|rfl|hx:=hw x hx
 exact(hl.ts w c z g F).sub d3;exact(hl.ts w c z g F).sub hD;exact hl.ts w c z x hx;rw[xbg,xat];lia;intro j G;rw[hr];by_cases T:j=i;left;have e:(a++d::(b++[q])).getD j []=d:=by rw[T,<-hp,UV,xbr<|So _,xcE];rfl
 rw[e];intro u n hz x hx;exact(hn u n (hz.trans d3) x hx).1 hz;have e:(a++d::(b++[q])).getD j []=l.getD j []:=by rw[hc,UV,UV,xbb W,xbb W]
 rw[e];exact ht j W
 have:=h.pl_len hy;have hI:X l=X a+1+X b:=by rw[hc];simp;lia
 simp only[xat,xaw]at this;show 300-((i:J)+1).toNat<300-(i:J).toNat;lia;have hE:Ct P us (C v) (nxt P ds k) g:=by
  by_cases h4:1<X d;left;have e:d=g:=LZ M d2 g1 d3 W;intro u n o x hx;exact(hn u n o x hx).1<|by rw[e];exact o
  right;intro u n o x hx hT;have h5:=(hn u n o x hx).2 hT;have h6:d=[1]:=d2.one W;rw[h6,jY]at h5;exact(h.ir u n).1.ne M h5
 have hF:(if(1:J)<(X d:J)then
  zF (i:J) (X l) λj5=>
  B (l.getD j5 []) λt13=>
  if(X d:J)<(X t13:J)then
  Z (bs,(P:J),ds,(k:J),v,t7,i4,i2,wL)
  else
  Z (bs,(P:J),ds,(k:J),v,t7,i4,i2,I)
  else
  Z (bs,(P:J),ds,(k:J),v,t7,i4,i2,I):V (N (N J)×J×N J×J×N J×N (N J)×J×J×v6))=Z (bs,(P:J),ds,(k:J),v,t7,i4,i2,I):=by
  by_cases h4:1<X d;rw[yg,zn h1,A,<-f,zD];rw[zD]
 rw[U hF];simp only[xai,uP];rw[zb];refine Y _ ⟨i+1,l,O,hl,W,λj G=> ?_⟩ (by show 300-((i:J)+1).toNat<300-(i:J).toNat;lia);by_cases T:j=i;rw[T,<-f];exact hE;exact ht j W
 rw[zD];refine⟨_,O,.inr ⟨l,O,hl.pl,λw c z g f=> ?_⟩⟩;obtain z|⟨rfl,rfl⟩:=z
 exact hl.ts w c z g f;have⟨j,G,e⟩:=xcZ f;have:=ht j W;rw[UV,xab G]at this;rw[<-e];exact this
def Pd.mono{S T:Ts}(h:Pd P m us S l)(b:∀v c,T v c->S v c):Pd P m us T l:=⟨h.pl,λv c ht=>h.ts v c<|b v c ht⟩
def zh9{S:Ts}(h:Sf (P:J) m us)(hn:X us<=290)(hc:X bs=nb)(ht:1<=nb)(u:nb<=290)(hd:Rl ds)(z:X ds<=1000)(hv:∀v∈bs,Rl v/\X v<=290)(B:k<P+X ds)(D:3000000<=fu)(hl:Pd P m us S l):
 ∃r,zg (Qc fu P ds (k:J)<|bs.drop 1) fu (bs,(P:J),ds,l,0)=Z r/\
  ((∃f,r=.inl f/\Pl (P:J) m f/\X f=nb)\/∃f,r=.inr (bs,(P:J),ds,f)/\Pd P m us (λw c=>S w c\/∃i,1<=i/\i<nb/\w=C (bs.getD i [])/\c=nxt P ds k) f):=by
 refine zX (λs:N (N J)×J×N J×N (N J)×J=>∃(i:K) (l:N (N J)),s=(bs,(P:J),ds,l,(i:J))/\i+1<=nb/\Pd P m us (λw c=>S w c\/∃j,1<=j/\j<i+1/\w=C (bs.getD j [])/\c=nxt P ds k) l) (λs=>300-s.2.2.2.2.toNat) _ ?_ _ _ ⟨0,l,O,W,hl.mono λw c n=>n.elim id λ⟨j,a,b,_⟩=>by lia⟩ (by show 300-0<fu;lia);rintro s L ⟨i,l,rfl,hi,q⟩ F;unfold Qc;simp only;have o:X (bs.drop 1)=nb-1:=by rw[xch,hc]
 have t:∀{β:Type} (x:β) (k:β->V ((N<|N J)⊕(N (N J)×J×N J×N (N J)))),Y (Z x) k=k x:=λ_ _=>O;by_cases h1:i+1<nb;rw[iq (by rw[o];lia),t];simp only[uS];rw[zn (by rw[o];lia),A];have e:(bs.drop 1).getD i []=bs.getD (i+1) []:=by rw[UV,UV,xfh,xdR]
 have⟨hp,G⟩:=hv _<|YG (l:=bs) (i:=i+1) W [];rw[e];have⟨r,H,M⟩:=zgX (fu:=fu) (i2:=(i:J)) (i4:=((X (bs.drop 1):K):J)) (t7:=bs.drop 1) (ds:=ds) h hn hc u hd z hp G B D q;rw[U H];rcases M with⟨f,rfl,g1,Q⟩|⟨f,rfl,g1⟩
 exact⟨_,O,.inl ⟨f,O,g1,Q⟩⟩;simp only;rw[zb];refine F _ ⟨i+1,f,O,W,g1.mono λw c n=> ?_⟩ (by show 300-((i:J)+1).toNat<300-(i:J).toNat;lia);obtain n|⟨j,a,b,c1,c2⟩:=n;exact .inl (.inl n);by_cases R:j=i+1
 subst R;exact .inr ⟨c1,c2⟩;exact .inl (.inr ⟨j,a,W,c1,c2⟩);rw[ir (by rw[o];lia),t];simp only[xai,uP];refine⟨_,O,.inr ⟨l,O,q.mono λw c n=> ?_⟩⟩;obtain n|⟨j,a,b,c1,c2⟩:=n
 exact .inl n;exact .inr ⟨j,a,W,c1,c2⟩
def tL(h:Sf (P:J) m us)(hn:1<X m)(u:X us<=290)(hp:X bs=nb)(x:1<=nb)(hi:nb<=290)(hd:Rl ds)(ht:X ds<=1000)(hv:∀v∈bs,Rl v/\X v<=290)(z:3000000<=fu):
 ∃l,W8 fu m bs P ds=Z l/\Pl (P:J) m l/\(X l=nb\/∀i,1<=i->i<nb->∀c:K,c<P->∀g∈l,Ct P us (C<|bs.getD i []) c g):=by
 have⟨S,T⟩:=zw h.hp;unfold W8
 have B:=zX (f:=Qq fu bs P ds) (λs:N (N J)×J=>∃(k:K) (l:N (N J)),s=(l,(k:J))/\k<=P+X ds/\Pd P m us (λw c=>∃j i,j<k/\1<=i/\i<nb/\w=C (bs.getD i [])/\c=nxt P ds j) l) (λs=>P+X ds-s.2.toNat)
  (λl=>Pl (P:J) m l/\(X l=nb\/∀i,1<=i->i<nb->∀c:K,c<P->∀g∈l,Ct P us (C<|bs.getD i []) c g)) (by
  rintro s L ⟨k,l,rfl,V,b⟩ D
  unfold Qq
  simp only
  rw[zb]
  by_cases h1:k<P+X ds;rw[yg,show(1:J)=((1:K):J)from O,yI,y8,A]
  have⟨r,F,G⟩:=zh9 (fu:=fu) (ds:=ds) h u hp x hi hd ht hv h1 z b
  rw[U F]
  rcases G with⟨o,rfl,g1,H⟩|⟨o,rfl,g1⟩
  exact⟨_,O,g1,.inl H⟩;simp only
  rw[zb]
  refine D _ ⟨k+1,o,O,W,g1.mono λw c e=> ?_⟩ (by show P+X ds-((k:J)+1).toNat<P+X ds-(k:J).toNat;lia)
  have⟨j,i,Y,q,a3,a4,a5⟩:=e
  by_cases t:j=k;subst t;exact .inr ⟨i,q,a3,a4,a5⟩;exact .inl ⟨j,i,W,q,a3,a4,a5⟩;rw[zD]
  refine⟨_,O,b.pl,.inr λi M Q c hc g n=> ?_⟩
  refine b.ts _ _ ⟨X ds+c,i,W,M,Q,O,?_⟩ g n
  unfold nxt
  rw[zD,(W:X ds+c-X ds=c)])
 have⟨l,hl,R⟩:=B fu ([m],0) ⟨0,[m],O,xae _,⟨⟨λg n=>by rw[xac.1 n];exact⟨h.mn,hn⟩,Cg.of (yp<|C m).symm⟩,λv c e=>by have⟨j,i,t,_⟩:=e;lia⟩⟩ (by show P+X ds-0<fu;lia);exact⟨l,by rw[U hl],R⟩
end
section
variable{N w r i fu lo a:wr}{R M A B:wr->Pz}{g f:Pz}{σ:wr->wr}{p q:wn}{m:xS (xS wn)}{l:xS wn}{e:wr->wn}
def ZI(N w:K)(R:K->Pz):xS (xS J):=(xaO N).map λr=>zl w<|R r
def ZK(N w:K)(R:K->Pz):X (ZI N w R)=N:=by unfold ZI;simp
def qE(h:r<N):(ZI N w R).getD r []=zl w (R r):=by simp_all [ZI]
theorem ZB{S:K->Pz}(h:∀r,r<N->∀k,k<w->R r k=S r k):ZI N w R=ZI N w S:=by grind [ZI,y3,xcc]
theorem Lb:(ZI N w R).set r (zl w g)=ZI N w λs=>if s=r then g else R s:=by refine xcv λi=> ?_;unfold ZI;by_cases h:r=i;grind;grind
def aq(N:K)(σ:K->K):xS K:=(xaO N).map σ
def W6(N:K)(σ:K->K):X (aq N σ)=N:=by unfold aq;simp
def uY(h:i<N:=by lia):(aq N σ).getD i 0=σ i:=by simp_all [aq]
def stk(p:J)(a:K)(own f:Pz):Pz:=λk=>(f k+(p-f a)*own k)%p
def Gx(p:J)(a:K)(own f:Pz)(i:K):Pz:=λk=>if k<i then stk p a own f k else f k
def zi7(hp:0<p)(a:K)(own f:Pz)(k:K):0<=stk p a own f k/\stk p a own f k<p:=xg hp
def zcL{ix:xS K}{n lo2 n2 q:K}{y:J}(h1:2<=p)(P:p<=65521)(h:∀s,s<N->∀k,0<=R s k/\R s k<p)(o:r<N)(t:q<N)(hd:q≠r)(Q:w<=64)(C:y=R q a)(b:xS (xS J))(h0:b=ZI N w R)(T:3000000<=fu):
 zg (λL (z:((xS (xS J)×xS K)×K×K)×(K×K)×K×K×K×J)=>
 if z.2.2.2.2.2<(X (b.getD r []):J)then
  zF z.2.2.2.2.2 (X (z.1.1.1.getD z.2.2.2.1 [])) λj=>
  nm ((z.1.1.1.getD z.2.2.2.1 []).getD j 0) λv=>
  zF z.2.2.2.2.2 (X (z.1.1.1.getD z.2.2.2.2.1 [])) λj=>
  nm ((z.1.1.1.getD z.2.2.2.2.1 []).getD j 0) λu=>
  zf (p-y) λe=>
  zf (e*v) λe=>
  zf (u+e) λe=>
  ck (p≠0)<|
  nm (xcB e p) λe=>
  zF z.2.2.2.2.2 (X (z.1.1.1.getD z.2.2.2.2.1 [])) λj=>
  nm (z.1.1.1.set z.2.2.2.2.1<|(z.1.1.1.getD z.2.2.2.2.1 []).set j e) λx=>
  zf (z.2.2.2.2.2+1) λi=>
  L (((x,z.1.1.2),z.1.2),z.2.1,z.2.2.1,z.2.2.2.1,z.2.2.2.2.1,i)
 else Z (z.1,z.2.1,z.2.2.1)) fu (((b,ix),lo,n),(lo2,n2),r,r,q,0)=Z (((ZI N w λs=>if s=q then stk p a (R r) (R q)else R s,ix),lo,n),(lo2,n2),r):=by
 subst h0;refine zA (λz:((xS (xS J)×xS K)×K×K)×(K×K)×K×K×K×J=>∃i:K,i<=w/\z=(((ZI N w λs=>if s=q then Gx p a (R r) (R q) i else R s,ix),lo,n),(lo2,n2),r,r,q,(i:J))) (λz=>w-z.2.2.2.2.2.toNat) _ ?_ _ _ ⟨0,xae _,by
  rw[ZB (R:=R) (S:=λs=>if s=q then Gx p a (R r) (R q) 0 else R s) λs _ k _=>by
   by_cases e:s=q;rw[iq e,e];unfold Gx;rw[zD];rw[ir e]]
  rfl⟩ (by show w-0<fu;lia)
 rintro z L ⟨i,hi,rfl⟩ D;simp only;rw[qE o,ye];by_cases c:i<w;have E:(ZI N w λs=>if s=q then Gx p a (R r) (R q) i else R s).getD r []=zl w (R r):=by rw[qE o,ir<|λe=>hd e.symm]
 have F:(ZI N w λs=>if s=q then Gx p a (R r) (R q) i else R s).getD q []=zl w (Gx p a (R r) (R q) i):=by rw[qE t,iq O]
 have ev:Gx p a (R r) (R q) i i=R q i:=zD;have⟨v1,U⟩:=h r o i;have⟨V,Y⟩:=h q t i;have⟨G,H⟩:=h q t a;rw[<-C]at G H;have m1:0<=(p-y)*R r i:=xcx W v1;have m2:(p-y)*R r i<=65521*65521:=Int.mul_le_mul W W v1 W;rw[yg,E,ye,zn c,ze,kI c,F,ye,zn c,ze,kI c,ev,zb,zb,zb,y8,ze,iH,zn c,ze,ZW,Lb,zb];refine D _ ⟨i+1,W,?_⟩ (by show w-((i:J)+1).toNat<w-(i:J).toNat;lia);rw[ZB (S:=λs=>if s=q then Gx p a (R r) (R q) (i+1)else R s) λs _ k _=>by
  by_cases e:s=q;rw[iq e,iq e];unfold XI Gx;by_cases d:k=i;rw[iq d,yg,d,C];rfl;rw[ir d];by_cases hc:k<i;rw[iq hc,yg];rw[ir hc,zD];rw[ir e,ir e,ir e]]
 rfl;rw[zD];obtain rfl:i=w:=W
 rw[ZB (S:=λs=>if s=q then stk p a (R r) (R q)else R s) λs _ k d=>by
  by_cases e:s=q;rw[iq e,iq e];unfold Gx;rw[iq d];rw[ir e,ir e]]
structure Ps(N:K)(σ:K->K):Prop where
 lt:∀i,i<N->σ i<N
 ij:∀i j,i<N->j<N->σ i=σ j->i=j
def Ib{n t:K}(h1:2<=p)(P:p<=65521)(Q:∀s,s<N->∀k,0<=R s k/\R s k<p)(b:Ps N σ)(ht:t<N)(hp:t<lo\/lo+n<=t)(hn:lo+n<=N)(hN:N<=64)(T:w<=64)(E:a<w)(V:3000000<=fu):
 ∃S:K->Pz,v8 fu (ZI N w R) (aq N σ) (σ t) (a:J) p lo n=Z (ZI N w S)/\(∀s,s<N->∀k,0<=S s k/\S s k<p)/\∀j,j<N->S (σ j)=if lo<=j/\j<lo+n then stk p a (R<|σ t) (R<|σ j)else R (σ j):=by
 unfold v8;have hd:=zX (f:=(λL (x:((xS (xS J)×xS K)×K×K)×(K×K)×K×J)=>
 if x.2.2.2<(n:J)then
  zF x.2.2.2 x.2.1.2 λj=>
  nm (x.1.1.2.getD (x.2.1.1+j) 0) λq=>
  zF (a:J) (X (x.1.1.1.getD q [])) λj=>
  nm ((x.1.1.1.getD q []).getD j 0) λy=>
  Y (zg (λL (z:((xS (xS J)×xS K)×K×K)×(K×K)×K×K×K×J)=>
   if z.2.2.2.2.2<(X (x.1.1.1.getD x.2.2.1 []):J)then
    zF z.2.2.2.2.2 (X (z.1.1.1.getD z.2.2.2.1 [])) λj=>
    nm ((z.1.1.1.getD z.2.2.2.1 []).getD j 0) λv=>
    zF z.2.2.2.2.2 (X (z.1.1.1.getD z.2.2.2.2.1 [])) λj=>
    nm ((z.1.1.1.getD z.2.2.2.2.1 []).getD j 0) λu=>
    zf (p-y) λe=>
    zf (e*v) λe=>
    zf (u+e) λe=>
    ck (p≠0)<|
    nm (xcB e p) λe=>
    zF z.2.2.2.2.2 (X (z.1.1.1.getD z.2.2.2.2.1 [])) λj=>
    nm (z.1.1.1.set z.2.2.2.2.1<|(z.1.1.1.getD z.2.2.2.2.1 []).set j e) λD=>
    zf (z.2.2.2.2.2+1) λi=>
    L (((D,z.1.1.2),z.1.2),z.2.1,z.2.2.1,z.2.2.2.1,z.2.2.2.2.1,i)
   else Z (z.1,z.2.1,z.2.2.1)) fu (x.1,x.2.1,x.2.2.1,x.2.2.1,q,0)) λz=>
  zf (x.2.2.2+1) λi=>
  L (z.1,z.2.1,z.2.2,i)
 else Z x.1)) (λx=>∃(c:K) (S:K->Pz),x=(((ZI N w S,aq N σ),lo,n),(lo,n),σ t,(c:J))/\c<=n/\(∀s,s<N->∀k,0<=S s k/\S s k<p)/\∀j,j<N->S (σ j)=if lo<=j/\j<lo+c then stk p a (R (σ t)) (R (σ j))else R (σ j)) (λx=>n-x.2.2.2.toNat)
  (λy=>∃S:K->Pz,y=((ZI N w S,aq N σ),lo,n)/\(∀s,s<N->∀k,0<=S s k/\S s k<p)/\∀j,j<N->S (σ j)=if lo<=j/\j<lo+n then stk p a (R<|σ t) (R<|σ j)else R (σ j)) (by
  rintro x L ⟨c,S,rfl,hc,C,d⟩ ih
  simp only
  by_cases hi:c<n;have o:lo+c<N:=W
  have hk:=b.lt t ht
  have F:=b.lt (lo+c) o
  have hl:σ (lo+c)≠σ t:=λe=>by have:=b.ij _ _ o ht e;lia
  have hm:S (σ<|lo+c)=R (σ<|lo+c):=by rw[d _ o,zD]
  have ho:S (σ t)=R (σ t):=by rw[d _ ht,zD]
  rw[yg,zn hi,ze,uY o,qE F,ye,zn E,ze,kI E,U<|zcL (ix:=aq N σ) (lo:=lo) (n:=n) (lo2:=lo) (n2:=n) h1 P C hk F hl T O _ O V]
  simp only
  rw[zb]
  refine ih _ ⟨c+1,λs=>if s=σ (lo+c)then stk p a (S<|σ t) (S<|σ<|lo+c)else S s,O,W,λs hs k=> ?_,λj G=> ?_⟩ (by show n-((c:J)+1).toNat<n-(c:J).toNat;lia);show 0<=(if s=σ (lo+c)then stk p a (S<|σ t) (S<|σ<|lo+c)else S s) k/\(if s=σ (lo+c)then stk p a (S<|σ t) (S<|σ<|lo+c)else S s) k<p
  by_cases e:s=σ (lo+c);rw[iq e];exact zi7 (W:0<p) _ _ _ _;rw[ir e];exact C s hs k;show(if σ j=σ (lo+c)then stk p a (S<|σ t) (S<|σ<|lo+c)else S (σ j))=_
  by_cases e:j=lo+c;rw[e,iq O,yg,ho,hm];rw[ir<|λh=>e<|b.ij _ _ G o h,d j G]
  by_cases H:lo<=j/\j<lo+c;rw[iq H,yg];rw[ir H,zD];rw[zD]
  obtain rfl:c=n:=W
  exact⟨_,O,S,O,C,d⟩)
 obtain⟨y,hy,S,rfl,C,d⟩:=hd fu (((ZI N w R,aq N σ),lo,n),(lo,n),σ t,0) ⟨0,R,O,xae _,Q,λj o=>by rw[zD]⟩ (by show n-0<fu;lia);refine⟨S,?_,C,d⟩;rw[U hy];simp only;rw[wM ⟨wR,wR,wR⟩]
def cd(hp:qp p=wL)(d:X m<=64)(b:∀r∈m,X r=w)(j:w<=64)(n:3000000<=fu):XL fu m p=Z 0:=by
 unfold XL;rw[U<|Zu hp,S O,zD,U (v:=Sum.inl ())];refine zA (λi:J=>∃k:K,i=(k:J)/\k<=X m) (λi=>X m-i.toNat) _ ?_ _ _ ⟨0,O,xae _⟩ W;rintro i L ⟨k,rfl,o⟩ c;unfold dK;by_cases h:k<X m;have e1:=b _<|YG h [];have s:=b _<|YG (W:0<X m) [];rw[yg,U O];simp only[uS];rw[zn h,ze,zD,show(0:J)=((0:K):J)from O,yo,ze,yg,zb];exact c _ ⟨k+1,W,W⟩ W
 rw[zD,U O];simp_all
def Bu(h1:1<=p)(d:p<=65521)(j:Rl l)(hl:X l<=1000000)(o:3000000<=fu):Xr fu l p=Z (zl (X l)<|λk=>C l k%p):=by
 unfold Xr;rw[yI,y8,ze,dD,U (v:=zl (X l)<|λk=>C l k%p)];refine zA (λs:J×xS J=>∃i:K,i<=X l/\s=((i:J),zl (X l) (λk=>if k<i then C l k%p else 0))) (λs=>X l-s.1.toNat) _ ?_ _ _ ⟨0,xae _,by rw[y3 (f:=λ_=>0) (g:=λk=>if k<0 then C l k%p else 0) λk _=>by rw[zD]];rfl⟩ (by show X l-0<fu;lia);rintro s L ⟨i,hi,rfl⟩ n;unfold dS;simp only;by_cases h:i<X l
 rw[yg,zn h,ze,U (show Zn fu (l.getD i 0) p=Z (l.getD i 0%p)from YF h1 d<|j i),zn (by rw[ye];exact h),ze,ZW,zb];refine n _ ⟨i+1,W,?_⟩ (by show X l-((i:J)+1).toNat<X l-(i:J).toNat;lia);rw[y3 (g:=λk=>if k<i+1 then C l k%p else 0) λk _=>by
  unfold XI;by_cases b:k=i;rw[S b,yg,b,QJ];rw[ir b];show(if k<i then C l k%p else 0)=_;by_cases c:k<i;rw[S c,yg];rw[ir c,zD]]
 rfl;rw[zD];rw[y3 (g:=λk=>C l k%p) λk b=>by rw[yg]]
theorem R1{l:xS (xS J)}{g:xS J->V v6}{b:xS J->v6}(o:∀z∈l,g z=Z (b z))(hl:X l<=1000000)(v:3000000<=fu):
 (yU fu l g=Z (-1)/\∀z∈l,b z=I)\/∃i:K,i<X l/\yU fu l g=Z (i:J)/\b (l.getD i [])=wL/\∀j,j<i->b (l.getD j [])=I:=by
 unfold yU
 have s:=zX (f:=vM fu l g) (λi:J=>∃k:K,i=(k:J)/\k<=X l/\∀j,j<k->b (l.getD j [])=I) (λi=>X l-i.toNat)
  (λr=>(r=.inl ()/\∀j,j<X l->b (l.getD j [])=I)\/∃i:K,i<X l/\r=.inr (i:J)/\b (l.getD i [])=wL/\∀j,j<i->b (l.getD j [])=I) (by
  rintro i L ⟨k,rfl,x,c⟩ t
  unfold vM
  by_cases h:k<X l;rw[yg,zn h,ze,U<|o _<|YG h []]
  cases d:b (l.getD k [])with
  |true=>
   grind
  |false=>
   rw[ir mD,zb]
   refine t _ ⟨k+1,W,W,λj y=> ?_⟩ W
   by_cases e:j=k;rw[e];exact d;exact c j W
  rw[zD]
  exact⟨_,O,.inl ⟨O,λj C=>c j W⟩⟩)
 have⟨r,n,hc⟩:=s fu 0 ⟨0,O,xae _,λj c=>by lia⟩ (by show X l-0<fu;lia);rcases hc with⟨rfl,hd⟩|⟨i,hi,rfl,d,c⟩
 left;refine⟨by rw[U n],λz u=> ?_⟩;have⟨j,c,e⟩:=xcZ u;have:=hd j c;rw[UV,xab c]at this;rw[<-e];exact this;right;exact⟨i,hi,by rw[U n],d,c⟩
theorem zc6{g:J->V v6}{b:J->v6}(o:∀z,g z=Z (b z))(hl:X l<=1000000)(u:3000000<=fu):
 (xv fu l g=Z (-1)/\∀j,j<X l->b (C l j)=I)\/∃i:K,i<X l/\xv fu l g=Z (i:J)/\b (C l i)=wL/\∀j,j<i->b (C l j)=I:=by
 unfold xv
 have s:=zX (f:=vc fu l g) (λi:J=>∃k:K,i=(k:J)/\k<=X l/\∀j,j<k->b (C l j)=I) (λi=>X l-i.toNat)
  (λr=>(r=.inl ()/\∀j,j<X l->b (C l j)=I)\/∃i:K,i<X l/\r=.inr (i:J)/\b (C l i)=wL/\∀j,j<i->b (C l j)=I) (by
  rintro i L ⟨k,rfl,v,c⟩ t
  unfold vc
  by_cases h:k<X l;rw[yg,zn h,ze,U<|o _,QJ]
  cases d:b (C l k)with
  |true=>
   grind
  |false=>
   rw[ir mD,zb]
   refine t _ ⟨k+1,W,W,λj x=> ?_⟩ W
   by_cases e:j=k;rw[e];exact d;exact c j W
  rw[zD]
  exact⟨_,O,.inl ⟨O,λj y=>c j W⟩⟩)
 have⟨r,n,hc⟩:=s fu 0 ⟨0,O,xae _,λj c=>by lia⟩ (by show X l-0<fu;lia);rcases hc with⟨rfl,hd⟩|⟨i,hi,rfl,d,c⟩
 exact .inl ⟨by rw[U n],hd⟩;exact .inr ⟨i,hi,by rw[U n],d,c⟩
def dt(w:K)(f:Pz)(e:K->J):J:=yu w λk=>f k*e k
def zh2(h:∀k,k<w->f k%p=g k%p):dt w f e%p=dt w g e%p:=gX λk b=>by rw[xcd,h k b,<-xcd]
theorem zes(c d:J):dt w (λk=>c*f k+d*g k) e=c*dt w f e+d*dt w g e:=by unfold dt;rw[<-Ze,<-Ze,<-Y5];grind
def Kr(p:J)(N w:K)(A:K->Pz)(e:K->J):Prop:=∀i,i<N->p∣dt w (A i) e
structure CA(p:J)(N w:K)(M A:K->Pz)(n c:K)(pv:K->K):Prop where
 hn:n<=N
 hc:c<=w
 rg:∀i,i<N->∀k,0<=A i k/\A i k<p
 lt:∀i,i<n->pv i<c
 on:∀i,i<n->A i (pv i)=1
 no:∀i,i<n->∀j,j<N->j≠i->A j (pv i)=0
 ld:∀i,i<n->∀k,k<pv i->A i k=0
 zr:∀i,n<=i->i<N->∀k,k<c->A i k=0
 kr:∀e,Kr p N w A e↔Kr p N w M e
def CA.skip{n c:K}{pv:K->K}(h:CA p N w M A n c pv)(hc:c<w)(d:∀i,n<=i->i<N->A i c=0):CA p N w M A n (c+1) pv:=
 ⟨h.hn,hc,h.rg,λi hi=>by have:=h.lt i hi;lia,h.on,h.no,h.ld,λi h1 b k j=>by
  by_cases e:k=c;simp_all;exact h.zr i h1 b k W,h.kr⟩
theorem CA.swap{n c:K}{pv:K->K}(h:CA p N w M A n c pv)(y:n<=a)(z:a<N)(C:∀i,i<N->B i=if i=n then A a else if i=a then A n else A i):CA p N w M B n c pv:=by
 have o:∀i,i<n->B i=A i:=λi hi=>by grind
 have hc:∀i,i<N->∃j,j<N/\B i=A j/\(n<=i->n<=j)/\(∀x,x<n->(i≠x->j≠x)):=λi hi=>by
  by_cases e1:i=n
  ·grind
  ·grind
 have hd:∀i,i<N->∃j,j<N/\A i=B j:=λi hi=>by
  by_cases e1:i=n
  ·grind
  ·grind
 refine⟨h.hn,h.hc,λi hi=> ?_,h.lt,λi hi=> ?_,λi hi j b s=> ?_,λi hi k d=> ?_,λi h1 t k d=> ?_,λe=> ?_⟩
 ·have⟨j,b,e,_⟩:=hc i hi;rw[e];exact h.rg j b
 ·rw[o i hi];exact h.on i hi
 ·have⟨x,u,e,_,v⟩:=hc j b;rw[e];exact h.no i hi x u<|v i hi s
 ·rw[o i hi];exact h.ld i hi k d
 ·have⟨j,b,e,hl,_⟩:=hc i t;rw[e];exact h.zr j (hl h1) b k d
 ·refine Iff.trans ⟨λd i hi=> ?_,λd i hi=> ?_⟩<|h.kr e
  ·have⟨j,b,e⟩:=hd i hi;rw[e];exact d j b
  ·have⟨j,b,e,_⟩:=hc i hi;rw[e];exact d j b
theorem CA.step{n c:K}{pv:K->K}(hp:2<=p)(h:CA p N w M A n c pv)(hc:n<N)(ht:c<w)(C:(q*A n c)%p=1)(t:B n=λk=>(A n k*q)%p)(P:∀j,j<N->j≠n->B j=stk p c (B n) (A j)):
 CA p N w M B (n+1) (c+1) (λi=>if i=n then c else pv i):=by
 have hl:∀k,k<c->B n k=0:=λk d=>by rw[t];show A n k*q%p=0;rw[h.zr n (So _) hc k d,xba,xap]
 have hn:B n c=1:=by rw[t];show A n c*q%p=1;rw[xbJ,C]
 have hd:∀j,j<N->j≠n->∀k,B j k=(A j k+(p-A j c)*B n k)%p:=λj b s k=>by rw[P j b s];rfl
 have u:∀j,j<N->j≠n->∀k,B n k=0->B j k=A j k:=λj b s k d=>by
  rw[hd j b s,d,xaA,xbW];exact xaH (h.rg j b k).1 (h.rg j b k).2
 have z:∀i,i<n->B n (pv i)=0:=λi hi=>hl _<|h.lt i hi;refine⟨hc,ht,λi hi k=> ?_,λi hi=> ?_,λi hi=> ?_,λi hi j b Q=> ?_,λi hi k d=> ?_,λi h1 o k d=> ?_,λe=> ?_⟩;by_cases e:i=n;rw[e,t];exact xg;rw[hd i hi e];exact xg;show(if i=n then c else pv i)<c+1;by_cases e:i=n;rw[S e];lia;rw[ir e];have:=h.lt i W;lia;show B i (if i=n then c else pv i)=1;by_cases e:i=n;rw[S e,e,hn];rw[ir e,u i W e _<|z i W];exact h.on i W
 show B j (if i=n then c else pv i)=0;by_cases e:i=n;rw[S e,hd j b W,hn,xcQ,(W:A j c+(p-A j c)=p),Int.emod_self];rw[ir e];by_cases D:j=n;rw[D];exact z i W
 rw[u j b D _<|z i W];exact h.no i W j b Q;have v:k<(if i=n then c else pv i):=d;by_cases e:i=n;rw[S e]at v;rw[e];exact hl k v;rw[ir e]at v;have E:=h.lt i W;rw[u i W e k<|hl k W];exact h.ld i W k v;by_cases e:k=c;rw[e,hd i o W,hn,xcQ,(W:A i c+(p-A i c)=p),Int.emod_self];rw[u i o W k<|hl k W];exact h.zr i W o k W
 refine Iff.trans ?_<|h.kr e;have F:dt w (B n) e%p=(q*dt w (A n) e)%p:=by
  have:=zh2 (p:=p) (w:=w) (f:=B n) (g:=λk=>q*A n k+0*A n k) (e:=e) λk _=>by rw[t];show A n k*q%p%p=_;rw[xaQ];congr 1;grind
  rw[this,zes];congr 1;grind
 have G:∀j,j<N->j≠n->dt w (B j) e%p=(dt w (A j) e+(p-A j c)*dt w (B n) e)%p:=λj b s=>by
  have:=zh2 (p:=p) (w:=w) (f:=B j) (g:=λk=>1*A j k+(p-A j c)*B n k) (e:=e) λk _=>by rw[hd j b s,xaQ];congr 1;grind
  rw[this,zes];congr 1;grind
 have dv:∀{x y:J},x%p=y%p->(p∣x↔p∣y):=λ{x y} H=>⟨λT=>xaF (by rw[<-H];exact xax T),λU=>xaF<|by rw[H];exact xax U⟩;have hv:p∣dt w (B n) e->p∣dt w (A n) e:=λV=>by
  have h1:=(dv F).1 V;have o:p∣A n c*(q*dt w (A n) e):=xbu h1<|xcJ _ _;refine(dv ?_).1 o;rw[<-xcY,xcd,xbJ (A n c) q,C,xdd,xaQ]
 constructor;intro d j b;by_cases e1:j=n;rw[e1];exact hv<|d n hc;have h1:=(dv<|G j b e1).1<|d j b;have o:p∣(p-A j c)*dt w (B n) e:=xbu (d n hc)<|xcJ _ _;have E:=xdu h1 o;rwa[Int.add_sub_cancel]at E;intro d j b;have L:p∣dt w (B n) e:=(dv F).2<|xbu (d n hc)<|xcJ _ _;by_cases e1:j=n;rw[e1];exact L;exact(dv<|G j b e1).2<|Int.dvd_add (d j b)<|xbu L<|xcJ _ _
theorem R5(N w:K)(R:K->Pz):ZI N w R++[zl w<|R N]=ZI (N+1) w R:=by grind [ZI,xdj]
theorem zf2(N:K)(σ:K->K):aq N σ++[σ N]=aq (N+1) σ:=by grind [aq,xdj]
theorem BW{v:K}:(aq N σ).set i v=aq N λs=>if s=i then v else σ s:=by refine xcv λj=> ?_;unfold aq;by_cases h:i=j;grind;grind
def zeW(b:∀i,i<N->σ i<N):((aq N σ).map λr=>(ZI N w R).getD r [])=ZI N w λi=>R (σ i):=by show((xaO N).map σ).map _=(xaO N).map _;rw[xdg];exact xcc λi hi=>qE<|b i<|xbd.1 hi
def ziq{n:K}(h:n<=N):(ZI N w R).take n=ZI n w R:=by unfold ZI;rw[<-xfl,List.take_range,xck h]
theorem zfP{n:K}(h:n<=N):(ZI N w R).drop n=ZI (N-n) w λi=>R (n+i):=by refine xcv λi=> ?_;unfold ZI;by_cases hi:n+i<N;grind;grind
def zio{n:K}(h1:2<=p)(E:p<=65521)(v:∀s,s<N->∀k,0<=R s k/\R s k<p)(d:r<N)(x:σ n=r)(hn:n<N)(hc:0<=q)(F:q<p)(G:w<=64)(b:xS (xS J))(h0:b=ZI N w R)(t:J)(C:t=(n:J))(H:3000000<=fu):
 zg (λL (z:(xS (xS J)×xS K)×K×J)=>
  if z.2.2<(X (b.getD r []):J)then
   zF z.2.2 (X (z.1.1.getD z.2.1 [])) λj=>
   nm ((z.1.1.getD z.2.1 []).getD j 0) λy=>
   zF t (X z.1.2) λj=>
   nm (z.1.2.getD j 0) λr=>
   zf (y*q) λe=>
   ck (p≠0)<|
   nm (xcB e p) λe=>
   zF z.2.2 (X (z.1.1.getD r [])) λj=>
   nm (z.1.1.set r<|(z.1.1.getD r []).set j e) λh=>
   zf (z.2.2+1) λi=>L ((h,z.1.2),z.2.1,i)
  else Z z.1) fu ((b,aq N σ),r,0)=Z (ZI N w λs=>if s=r then λk=>(R r k*q)%p else R s,aq N σ):=by
 subst h0 C;refine zA (λz:(xS (xS J)×xS K)×K×J=>∃i:K,i<=w/\z=((ZI N w λs=>if s=r then λk=>if k<i then(R r k*q)%p else R r k else R s,aq N σ),r,(i:J))) (λz=>w-z.2.2.toNat) _ ?_ _ _ ⟨0,xae _,by
  rw[ZB (R:=R) (S:=λs=>if s=r then λk=>if k<0 then(R r k*q)%p else R r k else R s) λs _ k _=>by
   by_cases e:s=r;simp_all;rw[ir e]]
  rfl⟩ (by show w-0<fu;lia)
 rintro z L ⟨i,hi,rfl⟩ D;simp only;rw[qE d,ye];by_cases o:i<w;have u:(ZI N w λs=>if s=r then λk=>if k<i then(R r k*q)%p else R r k else R s).getD r []=zl w (λk=>if k<i then(R r k*q)%p else R r k):=by rw[qE d,iq O]
 have⟨v1,P⟩:=v r d i;have Q:0<=R r i*q:=xcx v1 hc;have T:R r i*q<=65521*65521:=Int.mul_le_mul W W hc W;rw[yg,u,ye,zn o,ze,kI o,zD,W6,zn hn,ze,uY hn,x,zb,y8,ze,iH,u,ye,zn o,ze,ZW,Lb,zb];refine D _ ⟨i+1,W,?_⟩ (by show w-((i:J)+1).toNat<w-(i:J).toNat;lia);rw[ZB (S:=λs=>if s=r then λk=>if k<i+1 then(R r k*q)%p else R r k else R s) λs _ k _=>by
  by_cases e:s=r;rw[iq e,iq e];unfold XI;show _=if k<i+1 then(R r k*q)%p else R r k;by_cases c:k=i;rw[iq c,yg,c];rw[ir c];show(if k<i then(R r k*q)%p else R r k)=_;by_cases hd:k<i;rw[iq hd,yg];rw[ir hd,zD];rw[ir e,ir e,ir e]]
 rfl;rw[zD];obtain rfl:i=w:=W
 rw[ZB (S:=λs=>if s=r then λk=>(R r k*q)%p else R s) λs _ k c=>by
  by_cases e:s=r;rw[iq e,iq e];show(if k<i then _ else _)=_;rw[iq c];rw[ir e,ir e]]
def zq5(hp:0<p):CA p N w M (λi k=>M i k%p) 0 0 (λ_=>0):=
 ⟨xae _,xae _,λi _ k=>xg hp,λi hi=>by lia,λi hi=>by lia,λi hi=>by lia,λi hi=>by lia,λi _ _ k j=>by lia,λe=>by
  have dv:∀{x y:J},x%p=y%p->(p∣x↔p∣y):=λ{x y} b=>⟨λc=>xaF (by rw[<-b];exact xax c),λd=>xaF<|by rw[b];exact xax d⟩;have:∀i,p∣dt w (λk=>M i k%p) e↔p∣dt w (M i) e:=λi=>dv<|zh2 λk _=>xaQ _ _;exact⟨λh i hi=>(this i).1<|h i hi,λh i hi=>(this i).2<|h i hi⟩⟩
def zhz(fu:K)(p:J):ol ((xS (xS J)×xS K)×J×J) ((xS (xS J)×xS K)×J):=λL (x:(xS (xS J)×xS K)×J×J)=>if x.2.1<(X x.1.2:J)then zF 0 (X x.1.2) λj=>nm (x.1.2.getD j 0) λr=>if x.2.2<(X (x.1.1.getD r []):J)then jA x.2.1 λj=>ck (j<=X x.1.2)<|Y (yU fu (xdB (X x.1.2-j)<|xdO j<|x.1.2.map λr=>x.1.1.getD r []) λz=>jS fu z x.2.2) λi=>if i<0 then zf (x.2.2+1) λc=>L (x.1,x.2.1,c)else zf (x.2.1+i) λa=>zf (x.2.1+i) λb=>zF b (X x.1.2) λj=>nm (x.1.2.getD j 0) λr1=>zF x.2.1 (X x.1.2) λj=>nm (x.1.2.getD j 0) λr2=>zF x.2.1 (X x.1.2) λj=>nm (x.1.2.set j r1) λix=>zF a (X ix) λj=>nm (ix.set j r2) λix=>zF x.2.1 (X ix) λj=>nm (ix.getD j 0) λr=>zF x.2.2 (X (x.1.1.getD r [])) λj=>nm ((x.1.1.getD r []).getD j 0) λy=>Y (Vy fu y p) λq=>zF x.2.1 (X ix) λj=>nm (ix.getD j 0) λr=>Y (zg (λL (z:(xS (xS J)×xS K)×K×J)=>if z.2.2<(X (x.1.1.getD r []):J)then zF z.2.2 (X (z.1.1.getD z.2.1 [])) λj=>nm ((z.1.1.getD z.2.1 []).getD j 0) λy=>zF x.2.1 (X z.1.2) λj=>nm (z.1.2.getD j 0) λr=>zf (y*q.1) λe=>ck (p≠0)<|nm (xcB e p) λe=>zF z.2.2 (X (z.1.1.getD r [])) λj=>nm (z.1.1.set r<|(z.1.1.getD r []).set j e) λd=>zf (z.2.2+1) λi=>L ((d,z.1.2),z.2.1,i)else Z z.1) fu ((x.1.1,ix),r,0)) λm=>zF x.2.1 (X m.2) λj=>nm (m.2.getD j 0) λr=>jA x.2.1 λj=>ck (j<=X m.2)<|Y (v8 fu m.1 m.2 r x.2.2 p 0 j) λd=>zF x.2.1 (X m.2) λj=>nm (m.2.getD j 0) λr=>zf (x.2.1+1) λe=>jA e λj=>ck (j<=X m.2)<|Y (v8 fu d m.2 r x.2.2 p j<|X m.2-j) λd=>zf (x.2.1+1) λk=>zf (x.2.2+1) λc=>L ((d,m.2),k,c)else Z (x.1,x.2.1)else Z (x.1,x.2.1)
def EI(p:J)(N w:K)(M:K->Pz)(x:(xS (xS J)×xS K)×J×J):Prop:=
 ∃(R:K->Pz) (σ:K->K) (n c:K) (pv:K->K),x=((ZI N w R,aq N σ),(n:J),(c:J))/\(∀s,s<N->∀k,0<=R s k/\R s k<p)/\Ps N σ/\CA p N w M (λi=>R<|σ i) n c pv
def EQ(p:J)(N w:K)(M:K->Pz)(y:(xS (xS J)×xS K)×J):Prop:=
 ∃(R:K->Pz) (σ:K->K) (n c:K) (pv:K->K),y=((ZI N w R,aq N σ),(n:J))/\Ps N σ/\CA p N w M (λi=>R<|σ i) n c pv/\(n=N\/c=w)
def zmh{α:Type}{n:K}{k:K->V α}(h:0<n):zF (0:J) n k=k 0:=by rw[show 0=((0:K):J)from O,zn h]
def ziC(hp:qp p=wL)(hN:N<=64)(hw:w<=64)(F:3000000<=fu){x:(xS (xS J)×xS K)×J×J}(hx:EI p N w M x):∃y,zg (zhz fu p) fu x=Z y/\EQ p N w M y:=by
 have⟨Q,p2⟩:=zw hp;refine zX (EI p N w M) (λx=>w-x.2.2.toNat) _ ?_ _ _ hx (by obtain⟨R,σ,n,c,pv,rfl,_⟩:=hx;show w-(c:J).toNat<fu;lia);rintro x L ⟨R,σ,n,c,pv,rfl,T,d,E⟩ ih;unfold zhz;simp only;have hq:=E.hn;have hr:=E.hc;rw[W6];by_cases h1:n<N
 ·have hl:=d.lt 0 W;rw[yg,zmh W,ze,uY,qE hl,ye];by_cases u:c<w
  ·rw[yg,yI,y8,zeW d.lt,zfP W,xaW<|by rw[ZK];exact So _];have hg:∀z∈ZI (N-n) w (λi=>R<|σ<|n+i),jS fu z (c:J)=Z (!decide (C z c=0)):=λz hz=>by
    obtain⟨j,o,rfl⟩:=xas.1 hz;unfold jS;rw[zn (by rw[ye];exact u),ze,QJ];by_cases e:C (zl w<|R<|σ<|n+j) c=0
    ·rw[S e,Wd e];rfl
    ·rw[ir e,Wl e];rfl
   rcases R1 (fu:=fu) (b:=λz=> !decide (C z c=0)) hg (by rw[ZK];lia) F with⟨g1,V⟩|⟨i,hi,g1,V,g3⟩
   ·rw[U g1,S mD,zb];refine ih _ ⟨R,σ,n,c+1,pv,O,T,d,E.skip u λi h3 h4=> ?_⟩ (by show w-((c:J)+1).toNat<w-(c:J).toNat;lia);have g4:=V ((ZI (N-n) w<|λi=>R<|σ<|n+i).getD (i-n) [])<|YG (by rw[ZK];lia) [];rw[qE W,Zo u,(W:n+(i-n)=i)]at g4;show R (σ i) c=0;simpa using g4
   ·rw[ZK]at hi;rw[qE hi,Zo u]at V;have G:R (σ<|n+i) c≠0:=by simpa using V
    have⟨τ,v⟩:∃τ:K->K,τ=λs=>if s=n+i then σ n else if s=n then σ (n+i)else σ s:=⟨_,O⟩;have hm:τ n=σ (n+i):=by
     rw[v];show(if n=n+i then σ n else if n=n then σ (n+i)else σ n)=_;by_cases e:n=n+i
     ·rw[S e];exact uL σ e
     ·rw[ir e,S O]
    have hc:Ps N τ:=by
     have hd:∀s,τ s=σ (if s=n+i then n else if s=n then n+i else s):=λs=>by
      rw[v];show(if s=n+i then σ n else if s=n then σ (n+i)else σ s)=_;by_cases e1:s=n+i
      ·rw[S e1,S e1]
      ·rw[ir e1,ir e1];by_cases h:s=n
       ·rw[S h,S h]
       ·rw[ir h,ir h]
     refine⟨λs hs=> ?_,λs t hs ht e=> ?_⟩
     ·rw[hd];refine d.lt _ ?_;split<;>(try split)<;>lia
     ·rw[hd,hd]at e;have:=d.ij _ _ (by split<;>(try split)<;>lia) (by split<;>(try split)<;>lia) e;split at this<;>(try split at this)<;>(try split at this)<;>(try split at this)<;>lia
    have hn:CA p N w M (λj=>R<|τ j) n c pv:=E.swap (a:=n+i) W W λj o=>by
     rw[v];show R (if j=n+i then σ n else if j=n then σ (n+i)else σ j)=if j=n then R (σ<|n+i)else if j=n+i then R (σ n)else R (σ j);by_cases h:j=n+i
     ·rw[S h];by_cases e1:j=n
      ·rw[S e1];have e3:n+i=n:=W
       rw[e3]
      ·rw[ir e1,S h]
     ·rw[ir h];by_cases e1:j=n
      ·rw[S e1,S e1]
      ·rw[ir e1,ir e1,ir h]
    have hk:=hc.lt n h1;have⟨y1,y2⟩:=T (τ n) hk c;have⟨q,q1,q2,q3,q4⟩:=K0 (fu:=fu) (a:=R (τ n) c) hp (by rw[hm]at y1 y2⊢;lia) y2 F;have e1:(n:J)+(i:J)=((n+i:K):J):=W
    have ho:(aq N σ).set n (σ<|n+i)=aq N λs=>if s=n then σ (n+i)else σ s:=BW;rw[U g1,zD,e1,zb,zb,yo,ze,uY,zn h1,ze,uY h1,zn h1,ze,BW,W6,yo,ze,BW,W6];rw[show(λs=>if s=n+i then σ n else if s=n then σ (n+i)else σ s)=τ from v.symm];rw[zn h1,ze,uY h1,qE hk,ye,zn u,ze,kI u,U q1];simp only;rw[zn h1,ze,uY h1,U<|zio (fu:=fu) (n:=n) (r:=τ n) (q:=q) Q p2 T hk O h1 q2 q3 hw _ O _ O F];simp only;have⟨S1,Y⟩:∃S1:K->Pz,S1=λs=>if s=τ n then λk=>(R (τ n) k*q)%p else R s:=⟨_,O⟩;rw[<-Y];have r1:∀s,s<N->∀k,0<=S1 s k/\S1 s k<p:=λs hs k=>by
     rw[Y];show 0<=(if s=τ n then λk=>(R (τ n) k*q)%p else R s) k/\(if s=τ n then λk=>(R (τ n) k*q)%p else R s) k<p;by_cases e:s=τ n
     ·rw[S e];exact xg (W:0<p)
     ·rw[ir e];exact T s hs k
    have a0:S1 (τ n)=λk=>(R (τ n) k*q)%p:=by rw[Y];exact S O
    have H:∀j,j<N->j≠n->S1 (τ j)=R (τ j):=λj o G=>by rw[Y];exact ir λe=>G<|hc.ij _ _ o h1 e
    have⟨S2,t1,r2,t2⟩:=Ib (fu:=fu) (a:=c) (lo:=0) (n:=n) (t:=n) Q p2 r1 hc h1 (.inr W) W hN hw u F;have⟨S3,t3,r3,t4⟩:=Ib (fu:=fu) (a:=c) (lo:=n+1) (n:=N-(n+1)) (t:=n) Q p2 r2 hc h1 (.inl W) W hN hw u F;have P:S2 (τ n)=S1 (τ n):=by rw[t2 n h1,zD]
    have D:S3 (τ n)=S1 (τ n):=by rw[t4 n h1,zD,P]
    have h:(n:J)+1=((n+1:K):J):=W
    rw[W6,zn h1,ze,uY h1,yI,y8,U t1,zn h1,ze,uY h1,h,zb,yI,y8,U t3,zb,zb];refine ih _ ⟨S3,τ,n+1,c+1,λi=>if i=n then c else pv i,O,r3,hc,?_⟩ (by show w-((c:J)+1).toNat<w-(c:J).toNat;lia);refine hn.step (q:=q) Q h1 u q4 (D.trans a0) λj o G=> ?_;show S3 (τ j)=stk p c (S3<|τ n) (R<|τ j);by_cases hu:j<n
    ·rw[t4 j o,zD,t2 j o,bi ⟨W,W⟩,D,H j o G]
    ·rw[t4 j o,bi ⟨W,W⟩,P,t2 j o,zD,D,H j o G]
  ·rw[zD];exact⟨_,O,R,σ,n,c,pv,O,d,E,.inr W⟩
 ·rw[zD];exact⟨_,O,R,σ,n,c,pv,O,d,E,.inl W⟩
def ph(hp:qp p=wL)(hd:X m=N)(D:N<=64)(o:∀r∈m,X r=w/\Rl r)(t:w<=64)(b:3000000<=fu):
 ∃(A:K->Pz) (n c:K) (pv:K->K),Zg fu m p=Z (ZI n w A,0)/\CA p N w (λi=>C<|m.getD i []) A n c pv/\(n=N\/c=w):=by
 have⟨V,E⟩:=zw hp;unfold Zg;rw[U<|cd hp W (λr F=>(o r F).1) t b,S O];have⟨M,u⟩:∃M:K->Pz,M=λi=>C (m.getD i []):=⟨_,O⟩;rw[<-u];rw[U (v:=(ZI N w<|λi k=>M i k%p,aq N λi=>i))];show∃A n c pv,Y (zg (zhz fu p) fu ((ZI N w<|λi k=>M i k%p,aq N λi=>i),0,0)) _=_/\_;obtain⟨y,G,R,σ,n,c,pv,rfl,d,z,H⟩:=ziC (fu:=fu) (M:=M) hp D t b (x:=((ZI N w<|λi k=>M i k%p,aq N λi=>i),0,0)) ⟨_,_,0,0,λ_=>0,O,λs _ k=>xg,⟨λi hi=>hi,λi j _ _ h=>h⟩,zq5 W⟩;have hn:=z.hn;refine⟨λi=>R<|σ i,n,c,pv,?_,z,H⟩;rw[U G];simp only;rw[yI,zeW d.lt,ZK,wM hn,ze,ziq hn];refine zA (λx:(xS (xS J)×xS K)×J=>∃i:K,i<=N/\x=((ZI i w<|λi k=>M i k%p,aq i λi=>i),(i:J))) (λx=>N-x.2.toNat) _ ?_ _ _ ⟨0,xae _,O⟩ (by show N-0<fu;lia);rintro x L ⟨i,hi,rfl⟩ P;simp only;by_cases h:i<N;have hc:=YG (l:=m) (i:=i) W [];have⟨e1,Q⟩:=o _ hc;have T:Xr fu (m.getD i []) p=Z (zl w<|λk=>M i k%p):=by rw[Bu W E Q W b,e1,u]
 rw[yg,yo,ze,U T,W6,y8,ze,ZK,ze,zb];refine P _ ⟨i+1,W,?_⟩ (by show N-((i:J)+1).toNat<N-(i:J).toNat;lia);rw[<-R5,<-zf2];rfl;rw[zD];obtain rfl:i=N:=W
 rfl
end
section
variable{fu w i N c0:wr}{p:wn}{M A:wr->Pz}
def du{n c:K}{pv:K->K}(h:CA p N w M A n c pv)(hi:i<n)(q:w<=64)(k:3000000<=fu):Vp fu (zl w<|A i)=Z (pv i:J):=by
 have hc:=h.lt i hi;have hd:=h.hc;unfold Vp;have m:∀z,(λd=>Z8 fu d) z=Z (!decide (z=0)):=λz=>by
  show Z8 fu z=_;unfold Z8;by_cases e:z=0
  simp_all;simp_all
 have f:=h.on i hi;rcases zc6 (fu:=fu) (l:=zl w<|A i) (b:=λz=> !decide (z=0)) m (by rw[ye];lia) k with⟨g1,a⟩|⟨j,g,g1,a,o⟩
 exfalso;have:=a (pv i) (by rw[ye];lia);rw[Zo W,f]at this;simp_all;rw[ye]at g;rw[Zo g]at a;have e:j=pv i:=by
  rcases xfy j (pv i)with h1|h1|h1
  rw[h.ld i hi j h1]at a;exact wS a mD
  exact h1;have:=o (pv i) h1;rw[Zo W,f]at this;simp_all
 rw[U g1,e]
def sE(n:K)(pv:K->K)(c:K):v6:=(xaO n).all λi=> !E (pv i) c
theorem lP{n c:K}{pv:K->K}:sE n pv c=wL↔∀i,i<n->pv i≠c:=by grind [sE,Nat.beq_refl,xde]
theorem P4{n c:K}{pv:K->K}(h:CA p N w M A n c0 pv)(m:N<=64)(f:w<=64)(d:3000000<=fu):xQ fu (ZI n w A) (λz=>jk fu z (c:J))=Z (!sE n pv c):=by
 have hn:=h.hn;unfold xQ;have g:∀i,i<n->jk fu (zl w<|A i) (c:J)=Z (decide<|pv i=c):=λi hi=>by
  unfold jk;rw[U<|du h hi f d];by_cases e:pv i=c;simp_all;grind
 have⟨b,j⟩:∃b:xS J->v6,b=λz=>match jk fu z (c:J)with
  |some x=>x
  |none=>I:=⟨_,O⟩
 have hc:∀i,i<n->b (zl w<|A i)=decide (pv i=c):=λi hi=>by rw[j];simp only[g i hi]
 have k:∀z∈ZI n w A,(λz=>jk fu z (c:J)) z=Z (b z):=λz l=>by
  obtain⟨i,hi,rfl⟩:=xas.1 l;simp_all
 rcases R1 (fu:=fu) k (by rw[ZK];lia) d with⟨g1,a⟩|⟨i,hi,g1,a,o⟩
 rw[U g1,ir mD];have:sE n pv c=wL:=lP.2 λi hi e=>by
  have:=a _ (xbF (xbd.2 hi):zl w (A i)∈ZI n w A);grind
 rw[this];rfl;rw[ZK]at hi;rw[qE hi,hc i hi]at a;rw[U g1,yg];have:sE n pv c=I:=by
  cases hd:sE n pv c with
  |false=>rfl
  |true=>exact wS (Wr a)<|lP.1 hd i hi
 rw[this];rfl
def Bm(p:J)(A:K->Pz)(pv:K->K)(c:K):K->Pz
 |0=>λk=>if k=c then 1 else 0
 |i+1=>XI (Bm p A pv c i) (pv i) (-A i c%p)
theorem znS{n c:K}{pv:K->K}{t2:xS (xS J)}{i4:J}(h1:2<=p)(b:p<=65521)(h:CA p N w M A n c0 pv)(g:N<=64)(d:w<=64)(hc:c<w)(e:3000000<=fu):
 zg (Ug fu (c:J) (w:J) p (ZI n w A) i4) fu (0,t2,zl w<|Bm p A pv c 0)=Z (t2,zl w<|Bm p A pv c n):=by
 have hn:=h.hn;have j:=h.hc;refine zA (λs:J×xS (xS J)×xS J=>∃i:K,i<=n/\s=((i:J),t2,zl w<|Bm p A pv c i)) (λs=>n-s.1.toNat) _ ?_ _ _ ⟨0,xae _,O⟩ (by show n-0<fu;lia);rintro s L ⟨i,hi,rfl⟩ f;unfold Ug;simp only;have hd:∀{β:Type} (x:β) (k:β->V (xS (xS J)×xS J)),Y (Z x) k=k x:=λ_ _=>O;by_cases a:i<n;have l:=h.lt i a;have⟨m,o⟩:=h.rg i W c;rw[S (by rw[ZK];lia),hd];simp only[uS];rw[zn (by rw[ZK];exact a),ze,qE a,U<|du h a d e,zn (by rw[ye];exact hc),ze,kI hc,zb,U<|YF W b ⟨W,W⟩,zn (by rw[ye];lia),ze,ZW,zb];refine f _ ⟨i+1,W,?_⟩ (by show n-((i:J)+1).toNat<n-(i:J).toNat;lia);rw[Int.zero_sub];rfl;rw[ir (by rw[ZK];lia),hd];grind
def ox(n:K)(pv:K->K)(w:K):xS K:=(xaO w).filter<|sE n pv
theorem DH(n:K)(pv:K->K)(w:K):ox n pv (w+1)=if sE n pv w=wL then ox n pv w++[w]else ox n pv w:=by grind [ox,xdj]
def zgc(n:K)(pv:K->K)(w:K):X (ox n pv w)<=w:=by have:=xfI (sE n pv)<|xaO w;rw[xex]at this;exact this
def C5{m:xS (xS J)}(hp:qp p=wL)(l:X m=N)(e:N<=64)(f:∀r∈m,X r=w/\Rl r)(a:w<=64)(b:3000000<=fu):
 ∃(A:K->Pz) (n c:K) (pv:K->K),Vz fu m (w:J) p=Z ((ox n pv w).map λc=>zl w<|Bm p A pv c n,0)/\CA p N w (λi=>C<|m.getD i []) A n c pv/\(n=N\/c=w):=by
 have⟨o,q⟩:=zw hp;have⟨A,n,c,pv,e1,d,t⟩:=ph (fu:=fu) hp l e f a b;refine⟨A,n,c,pv,?_,d,t⟩;have hn:=d.hn;unfold Vz;rw[U (v:=Sum.inl ())];simp only;rw[U e1];simp only;rw[U (v:=(ox n pv w).map λc=>zl w<|Bm p A pv c n)];refine zA (λs:xS (xS J)×J=>∃k:K,k<=w/\s=((ox n pv k).map λc=>zl w<|Bm p A pv c n,(k:J))) (λs=>w-s.2.toNat) _ ?_ _ _ ⟨0,xae _,O⟩ (by show w-0<fu;lia);rintro s L ⟨k,z,rfl⟩ g;unfold mq;simp only;have h:∀{β:Type} (x:β) (k:β->V (xS<|xS J)),Y (Z x) k=k x:=λ_ _=>O;by_cases hc:k<w;rw[yg,h];simp only[uS];rw[U<|P4 (c:=k) d e a b]
 cases hd:sE n pv k with
 |false=>
  rw[show(!I)=wL from O,S O,zb];refine g _ ⟨k+1,W,?_⟩ (by show w-((k:J)+1).toNat<w-(k:J).toNat;lia);rw[DH,ir<|by rw[hd];decide];rfl
 |true=>
  have B:=zgc n pv k;have u:zl w (XI (λ_=>0) k 1)=zl w (Bm p A pv k 0):=y3 λj _=>by unfold XI;rfl
  rw[show(!wL)=I from O,ir mD,yI,y8,ze,dD,zn (by rw[ye];exact hc),ze,ZW,u,U<|znS (i4:=(w:J)) o q d e a hc b];simp only;rw[wM (by rw[xav];simp;lia),ze,zb];refine g _ ⟨k+1,W,?_⟩ (by show w-((k:J)+1).toNat<w-(k:J).toNat;lia);rw[DH,S hd,xaR];rfl
 rw[zD,h];simp only[xai,uP];obtain rfl:k=w:=W
 rfl;rw[U<|cd hp W (λr y=>(f r y).1) a b,S O,zD,zD];by_cases h0:0<X m;have D:=(f _<|YG h0 []).1;rw[yg,zmh h0,ze,yg];rw[zD]
def r9{p:J}{A:K->Pz}{pv:K->K}{c k:K}:∀{n:K},(∀i,i<n->pv i≠k)->Bm p A pv c n k=if k=c then 1 else 0
 |0,_=>rfl
 |n+1,h=>by
  show XI (Bm p A pv c n) (pv n) _ k=_;unfold XI;rw[ir<|λe=>h n W e.symm];exact r9 λi hi=>h i W
def B4{p:J}{A:K->Pz}{pv:K->K}{c i:K}:∀{n:K},i<n->(∀j,j<n->j≠i->pv j≠pv i)->Bm p A pv c n (pv i)= -A i c%p
 |0,h,_=>by lia
 |n+1,h,hd=>by
  show XI (Bm p A pv c n) (pv n) _ (pv i)=_;unfold XI;by_cases e:i=n;simp_all;rw[ir<|λa=>hd n W (λb=>e b.symm) a.symm];exact B4 W λj f d=>hd j W d
def CA.pv_ne{n c:K}{pv:K->K}(h:CA p N w M A n c pv){j:K}(hi:i<n)(a:j<n)(b:j≠i):pv j≠pv i:=λe=>by
 have h1:=h.on i hi;have hn:=h.hn;have f:=h.no j a i W λd=>b d.symm;simp_all
def zbP{p:J}(hp:2<=p){A:K->Pz}{pv:K->K}{c:K}:∀(n k:K),0<=Bm p A pv c n k/\Bm p A pv c n k<p
 |0,k=>by
  show 0<=(if k=c then 1 else 0)/\(if k=c then 1 else 0)<p;lia
 |n+1,k=>by
  show 0<=XI (Bm p A pv c n) (pv n) (-A n c%p) k/\XI (Bm p A pv c n) (pv n) (-A n c%p) k<p;unfold XI;split;exact xg;exact zbP hp n k
theorem zce(n:K)(pv:K->K)(F:K->J):∀w,yu (X (ox n pv w)) (λj=>F<|(ox n pv w).getD j 0)=yu w λc=>if sE n pv c=wL then F c else 0
 |0=>rfl
 |w+1=>by
  have a:=zce n pv F w;show _=yu w _+(if sE n pv w=wL then F w else 0);rw[DH];by_cases h:sE n pv w=wL;rw[S h,xat,<-a];show yu (X (ox n pv w)) _+F ((ox n pv w++[w]).getD (X (ox n pv w)) 0)=_;congr 1;exact yC λj b=>by grind
  simp_all;simp_all
def zhA{n c:K}{pv:K->K}(h:CA p N w M A n c pv)(hi:i<n)(e:K->J):dt w (A i) e=e (pv i)+yu w λk=>if sE n pv k=wL then A i k*e k else 0:=by
 have l:=h.lt i hi;have m:=h.hc;have hn:=h.hn;have h1:dt w (A i) e=yu w (λk=>(if k=pv i then e k else 0)+if sE n pv k=wL then A i k*e k else 0):=by
  refine yC λk f=> ?_;by_cases e1:k=pv i;have a:=λa=>lP.1 a i hi e1.symm;rw[S e1,ir a,e1,h.on i hi,xdd,xbW];rw[ir e1];by_cases a:sE n pv k=wL;simp_all;rw[ir a,xbW];have⟨j,d,b⟩:∃j,j<n/\pv j=k:=by apply xak;intro hc;exact a<|lP.2 λj d b=>hc ⟨j,d,b⟩
  have hd:i≠j:=λg=>by rw[<-g]at b;exact e1 b.symm
  rw[<-b,h.no j d i W hd,xba]
 rw[h1,Y5,wy<|λk f=>ir f,yg,S O]
def znM(hp:2<=p){n:K}{pv:K->K}(h:CA p N w M A n c0 pv)(hd:n=N\/c0=w){c:K}(hc:c<w)(hl:sE n pv c=wL):Kr p N w M (Bm p A pv c n):=(h.kr _).1 λi hi=>by
 by_cases a:i<n;rw[zhA h a,B4 a λj f l=>h.pv_ne (i:=i) (j:=j) a f l];have m:yu w (λk=>if sE n pv k=wL then A i k*Bm p A pv c n k else 0)=A i c:=by
  rw[yC (g:=λk=>if k=c then A i k else 0) λk b=>by
   by_cases d:sE n pv k=wL;rw[S d,r9<|lP.1 d];by_cases e:k=c;simp_all;simp_all;rw[ir d];by_cases e:k=c;simp_all;rw[ir e],wy (i:=c)<|λk b=>ir b,S hc,S O]
 rw[m];refine xaF ?_;rw[Int.emod_add_emod,(W:-A i c+A i c=0),xap];obtain he|he:=hd
 lia;have:dt w (A i) (Bm p A pv c n)=0:=by unfold dt;rw[yZ λk b=>by rw[h.zr i W hi k W,xba]]
 simp_all
theorem zkw(hp:2<=p){n:K}{pv:K->K}(h:CA p N w M A n c0 pv){e:K->J}(f:Kr p N w M e){k:K}(l:k<w):
 e k%p=yu (X (ox n pv w)) (λj=>e ((ox n pv w).getD j 0)*Bm p A pv ((ox n pv w).getD j 0) n k)%p:=by
 rw[zce n pv (λc=>e c*Bm p A pv c n k) w];by_cases d:sE n pv k=wL
 congr 1;rw[yC (g:=λc=>if c=k then e c else 0) λc hc=>by
  rw[r9<|lP.1 d];by_cases e1:c=k;simp_all;rw[ir e1,ir (λh:k=c=>e1 h.symm),xaA,ite_self],wy (i:=k)<|λc hc=>ir hc,S l,S O]
 obtain⟨i,hi,rfl⟩:∃i,i<n/\pv i=k:=by apply xak;intro hd;exact d<|lP.2 λj b m=>hd ⟨j,b,m⟩
 have hn:=h.hn;have h1:=(h.kr e).2 f i W;rw[zhA h hi]at h1;have o:yu w (λc=>if sE n pv c=wL then e c*Bm p A pv c n (pv i)else 0)%p=(-(yu w λk=>if sE n pv k=wL then A i k*e k else 0))%p:=by
  have q: -(yu w λk=>if sE n pv k=wL then A i k*e k else 0)=yu w λk=> -1*(if sE n pv k=wL then A i k*e k else 0):=by rw[Ze];lia
  rw[q];refine gX λc hc=> ?_;by_cases a:sE n pv c=wL;rw[S a,S a,B4 hi λj b hl=>h.pv_ne (i:=i) (j:=j) hi b hl,xcd,xaQ,<-xcd];grind;rw[ir a,ir a,xaA]
 rw[o];refine xaL.2<|xax ?_;rw[Int.sub_neg];exact h1
end
section
variable{N w r fu P:wr}{R:wr->Pz}{m:xS wn}
def Ni(h:r<N):(([]:xS J)::ZI N w R).getD (r+1) []=zl w (R r):=qE h
theorem zgp{g:Pz}:(([]:xS J)::ZI N w R).set (r+1) (zl w g)=[]::ZI N w λs=>if s=r then g else R s:=by grind [Lb]
theorem zn6{c:K}{h:xS J}(f:w<=64)(hc:c<w)(hl:X h<=w)(b:J)(d:b=(c:J))(g:3000000<=fu):
 zg (λL (y:(xS (xS J)×xS K)×J)=>
 if y.2<(X h:J)then
  zF y.2 (X h) λj=>
  B (h.getD j 0) λv=>
  zF y.2 (X y.1.2) λj=>
  B (y.1.2.getD j 0) λr=>
  zF b (X (y.1.1.getD r [])) λj=>
  B (y.1.1.set r<|(y.1.1.getD r []).set j v) λa=>
  zf (y.2+1) λi=>L ((a,y.1.2),i)
 else Z y.1) fu (([]::ZI w w R,aq w λi=>i+1),0)=Z ([]::ZI w w λs=>if s<X h then XI (R s) c (C h s)else R s,aq w λi=>i+1):=by
 subst d;refine zA (λy:(xS (xS J)×xS K)×J=>∃i:K,i<=X h/\y=(([]::ZI w w λs=>if s<i then XI (R s) c (C h s)else R s,aq w λi=>i+1),(i:J))) (λy=>X h-y.2.toNat) _ ?_ _ _ ⟨0,xae _,by rw[ZB (R:=R) (S:=λs=>if s<0 then XI (R s) c (C h s)else R s) λs _ k _=>by rw[zD]];rfl⟩ (by show X h-0<fu;lia);rintro y L ⟨i,hi,rfl⟩ e;simp only;by_cases h1:i<X h;rw[yg,zn h1,A,QJ,W6,yo,A,uY,Ni W,ye,zn hc,A,ZW,zgp,zD,zb];refine e _ ⟨i+1,W,?_⟩ (by show X h-((i:J)+1).toNat<X h-(i:J).toNat;lia);grind;grind
def JO(a:K->xS J)(c:K):K->Pz:=λi k=>if k<c then C (a k) i-(if i=k then 1 else 0)else 0
def Du{a b:xS J}{p:J}(hp:qp p=wL)(e:Fp p a)(c:vv p b)(hc:X a<=90000)(hd:X b<=90000)(f:3000000<=fu):
 ∃q r,ku fu a b p=Z (q,r,0)/\Fp p r/\Cg p (C a) (C q*C b+C r)/\X r<X b:=by
 have⟨j,d⟩:=zw hp;have⟨q,r,e1,k,g,h,i,l⟩:=xH hp e c.fm c.ln hc hd f;refine⟨q,r,?_,g,h,i⟩;unfold ku;rw[U<|Zu hp,S O,U<|zK W d (c.fm.rl d) W f,c.fm.pm,zD,U<|zK W d (e.rl d) W f,e.pm,U e1]
def zhx(fu:K)(f:xS J)(p n:J):ol ((xS (xS J)×xS K)×xS J×xS J×J) (xS (xS J)×xS K):=λL (x:(xS (xS J)×xS K)×xS J×xS J×J)=>if x.2.2.2<n then Y (zg (λL (y:(xS (xS J)×xS K)×J)=>if y.2<(X x.2.1:J)then zF y.2 (X x.2.1) λj=>B (x.2.1.getD j 0) λv=>zF y.2 (X y.1.2) λj=>B (y.1.2.getD j 0) λr=>zF x.2.2.2 (X (y.1.1.getD r [])) λj=>B (y.1.1.set r<|(y.1.1.getD r []).set j v) λa=>zf (y.2+1) λi=>L ((a,y.1.2),i)else Z y.1) fu (x.1,0)) λy=>zF x.2.2.2 (X y.2) λj=>B (y.2.getD j 0) λr=>zF x.2.2.2 (X (y.1.getD r [])) λj=>B ((y.1.getD r []).getD j 0) λv=>zf (v-1) λe=>zF x.2.2.2 (X (y.1.getD r [])) λj=>B (y.1.set r<|(y.1.getD r []).set j e) λa=>Y (kq fu x.2.1 x.2.2.1 p) λu=>Y (ku fu u.1 f p) λw=>zf (x.2.2.2+1) λi=>L ((a,y.2),w.2.1,x.2.2.1,i)else Z x.1
def zmp:((aq N λi=>i+1).map λr=>(([]:xS J)::ZI N w R).getD r [])=ZI N w R:=by show((xaO N).map λi=>i+1).map _=(xaO N).map _;rw[xdg];exact xcc λi hi=>Ni<|xbd.1 hi
def FxI(P:K)(m x:xS J)(w:K)(y:(xS (xS J)×xS K)×xS J×xS J×J):Prop:=
 ∃(a:K->xS J) (c:K),y=(([]::ZI w w (JO a c),aq w λi=>i+1),a c,x,(c:J))/\c<=w/\∀k,k<=c->Fp (P:J) (a k)/\X (a k)<=w/\Em (P:J) m (pp (pp vx P) k) (C<|a k)
def zhm{x:xS J}(hp:qp (P:J)=wL)(o:vv (P:J) m)(hi:X m=w+1)(B:1<=w)(q:w<=64)(t:Fp (P:J) x)(hl:X x<=w)(hd:Em (P:J) m (pp vx P) (C x))(h:3000000<=fu){y:(xS (xS J)×xS K)×xS J×xS J×J}(j:FxI P m x w y):
 ∃r,zg (zhx fu m P (w:J)) fu y=Z r/\∃a:K->xS J,r=([]::ZI w w (JO a w),aq w λi=>i+1)/\∀k,k<=w->Fp (P:J) (a k)/\X (a k)<=w/\Em (P:J) m (pp (pp vx P) k) (C<|a k):=by
 have⟨D,E⟩:=zw hp;refine zX (FxI P m x w) (λy=>w-y.2.2.2.toNat) _ ?_ _ _ j (by obtain⟨a,c,rfl,_⟩:=j;show w-(c:J).toNat<fu;lia);rintro y L ⟨a,c,rfl,hc,d⟩ u;unfold zhx;simp only;by_cases h1:c<w
 have⟨k1,k2,k3⟩:=d c<|So _;have F:=k1.nn c;have hn:=k1.lt c;have⟨R,f⟩:∃R:K->Pz,R=λs=>if s<X (a c) then XI (JO a c s) c (C (a c) s)else JO a c s:=⟨_,O⟩;have l:∀s,R s c=C (a c) s:=λs=>by
  rw[f];show(if s<X (a c) then XI (JO a c s) c (C (a c) s)else JO a c s) c=_;by_cases e:s<X (a c);rw[iq e];exact iq O;rw[ir e,yA W];exact zD
 have v:∀s k,k≠c->R s k=JO a c s k:=λs k g=>by
  rw[f];show(if s<X (a c) then XI (JO a c s) c (C (a c) s)else JO a c s) k=_;by_cases e:s<X (a c);rw[iq e];exact ir g;rw[ir e]
 have G:=jF (P:J) (a c) x;have⟨q2,r2,d1,d2,d3,d4⟩:=Du (fu:=fu) hp (jc (p:=(P:J)) W (a c) x) o W W h;rw[yg,U<|zn6 (fu:=fu) (R:=JO a c) q h1 k2 _ O h,<-f];simp only;rw[W6,zn h1,A,uY h1,Ni h1,ye,zn h1,A,kI h1,l,zb,zn h1,A,ZW,zgp,U<|u5 hp k1 t,U d1];simp only;rw[zb];refine u _ ⟨λk=>if k=c+1 then r2 else a k,c+1,?_,W,λk g=> ?_⟩ (by show w-((c:J)+1).toNat<w-(c:J).toNat;lia)
 show _=((_,_),(if c+1=c+1 then r2 else a (c+1)),x,_);rw[iq O,ZB (S:=JO (λk=>if k=c+1 then r2 else a k)<|c+1) λs H k g=>by
  show(if s=c then XI (R c) c (C (a c) c-1)else R s) k=if k<c+1 then C (if k=c+1 then r2 else a k) s-(if s=k then 1 else 0)else 0;by_cases e1:k=c;rw[e1,show(if c<c+1 then C (if c=c+1 then r2 else a c) s-(if s=c then(1:J)else 0)else 0)=C (a c) s-(if s=c then(1:J)else 0)by rw[yg,zD]];by_cases b:s=c;rw[iq b,iq b,b];exact iq O;rw[ir b,ir b,l,xdh];have z:(if s=c then XI (R c) c (C (a c) c-1)else R s) k=R s k:=by by_cases b:s=c;rw[iq b,b];exact ir e1;rw[ir b]
  rw[z,v s k e1];unfold JO;by_cases n:k<c;rw[iq n,show(if k<c+1 then C (if k=c+1 then r2 else a k) s-(if s=k then(1:J)else 0)else 0)=C (a k) s-(if s=k then(1:J)else 0)by rw[yg,zD]];rw[ir n,ir (W:¬k<c+1)]]
 rfl;show Fp (P:J) (if k=c+1 then r2 else a k)/\X (if k=c+1 then r2 else a k)<=w/\Em (P:J) m (pp (pp vx P) k) (C (if k=c+1 then r2 else a k));by_cases e:k=c+1
 rw[iq e,e];refine⟨d2,W,?_⟩;show Em (P:J) m (pp (pp vx P) c*pp vx P) (C r2);exact(Em.mul ((Fs.vx.pp P).pp c) (Fs.ci x) k3 hd).trans<|(Em.cg (ZF (P:J) (a c) x).symm).trans<|Em.rest d3;rw[ir e];exact d k W
 rw[zD];obtain rfl:c=w:=W
 exact⟨_,O,a,O,d⟩
def rU(hp:qp (P:J)=wL)(d:vv (P:J) m)(j:X m=w+1)(hc:1<=w)(l:w<=64)(c:3000000<=fu):
 ∃b:K->xS J,XC fu m P=Y (Vz fu (ZI w w<|JO b w) (w:J) P) (λr=>Z r.1)/\∀k,k<=w->Fp (P:J) (b k)/\X (b k)<=w/\Em (P:J) m (pp (pp vx P) k) (C<|b k):=by
 have⟨z,B⟩:=zw hp;have cx:C [0,1]=vx:=by
  funext k
  match k with
  |0=>rfl
  |1=>rfl
  |k+2=>rw[yA mK];exact(show(if k+2=1 then(1:J)else 0)=0 from zD).symm
 have fx:Fp (P:J) [0,1]:=⟨λk=>by rw[cx];show 0<=(if k=1 then(1:J)else 0);split<;>lia,λk=>by rw[cx];show(if k=1 then(1:J)else 0)<P;split<;>lia,.inr mD⟩;have n:Fp (P:J) [1]:=Qe;have⟨x,o,p,D,f⟩:=K3 (fu:=fu) (w:=[0,1]) (a:=m) (E:=P) hp fx d mD W W W c;rw[cx]at f;have hd:ZI w w (JO (λ_=>[1]) 0)=ZI w w (λ_ _=>0):=ZB λs _ k _=>zD;obtain⟨r,g,b,rfl,q⟩:=zhm (fu:=fu) hp d j hc l p W f c (y:=(([]::ZI w w (JO (λ_=>[1]) 0),aq w λi=>i+1),[1],x,0)) ⟨λ_=>[1],0,O,xae _,λk F=>⟨n,by simp;lia,by
  obtain rfl:k=0:=W
  show Em (P:J) m (Q 1) (C [1]);rw[jY];exact Em.rfl⟩⟩
 rw[hd]at g;refine⟨b,?_,q⟩;unfold XC;rw[zb,(W:(X m:J)-1=(w:J)),yI,y8,A,U (v:=([]::ZI w w (λ_ _=>0),aq w λi=>i+1))];rw[U<|yw ⟨W,W⟩ c,U o];show Y (zg (zhx fu m P (w:J)) fu (([]::ZI w w (λ_ _=>0),aq w λi=>i+1),[1],x,0)) _=_;rw[U g];simp only;rw[zmp];have t:Nm w 0=aq w λs=>if s<0 then s+1 else 0:=by unfold aq;rw[show(λs=>if s<0 then s+1 else 0)=λ_=>0 from kW λs=>zD,List.map_const',xex]
 rw[t];refine zA (λx:(xS (xS J)×xS K)×J=>∃i:K,i<=w/\x=(([]::ZI i w (λ_ _=>0),aq w λs=>if s<i then s+1 else 0),(i:J))) (λx=>w-x.2.toNat) _ ?_ _ _ ⟨0,xae _,O⟩ (by show w-0<fu;lia);rintro x L ⟨i,hi,rfl⟩ u;simp only;rw[W6];by_cases h1:i<w
 rw[yg,yI,y8,A,dD,W6,zn h1,A,xbL,R5 i w<|λ_ _=>0,A,BW,xaw,ZK,zb];refine u _ ⟨i+1,W,?_⟩ (by show w-((i:J)+1).toNat<w-(i:J).toNat;lia);have:(λs=>if s=i then i+1 else if s<i then s+1 else 0)=λs=>if s<i+1 then s+1 else 0:=kW λs=>by
  by_cases e:s=i;rw[S e,yg,e];rw[ir e];by_cases h:s<i;rw[S h,yg];rw[ir h,zD]
 rw[this];rfl;rw[zD];obtain rfl:i=w:=W
 congr 2;unfold aq;exact xcc λs b=>S<|xbd.1 b
end
section
variable{m:xS wn}{P w:wr}
def Di.short{p:J}(hp:2<=p)(a:vv p m){f:Pz}(b:∀k,X m-1<=k->f k=0)(h:Di p (C m) f):Cg p f (Q 0):=by
 have⟨q,fq,hc⟩:=h;have:=a.mn.zero hp fq λk c=>by rw[<-hc k,b k c,xap]
 exact hc.trans<|this.mul_zero_r _
def LN(F:K->Pz)(k:K):∀n,smP n F k=yu n λi=>F i k
 |0=>by show Q 0 k=0;unfold Q;split<;>rfl
 |n+1=>by
  show(smP n F+F n) k=yu n (λi=>F i k)+F n k;rw[zP,LN F k n]
def Em.smP{p:J}{a:N J}{F G:K->Pz}:∀n,(∀i,i<n->Em p a (F i) (G i))->Em p a (smP n F) (smP n G)
 |0,_=>Em.rfl
 |n+1,h=>(Di.add (Em.smP n λi hi=>h i W)<|h n W).cg (Cg.of (kW λk=>by
  show(Go.Proofs.YtoegnnjcmlghhaaGreat.smP n F k-Go.Proofs.YtoegnnjcmlghhaaGreat.smP n G k)+(F n k-G n k)=(Go.Proofs.YtoegnnjcmlghhaaGreat.smP n F k+F n k)-(Go.Proofs.YtoegnnjcmlghhaaGreat.smP n G k+G n k);lia))
theorem zcm{a:K->N J}(hp:qp (P:J)=wL)(o:vv (P:J) m)(hc:X m=w+1)(d:∀k,k<=w->Fp (P:J) (a k)/\X (a k)<=w/\Em (P:J) m (pp (pp vx P) k) (C<|a k)){e:Pz}(f:∀k,w<=k->e k=0):
 Di (P:J) (C m) (pp e P-e)↔∀s,s<w->(P:J)∣dt w (JO a w s) e:=by
 have⟨q,r⟩:=zw hp;have hn:=Wc hp;rw[xaZ]at hn;let S:Pz:=smP w λi=>Q (e i)*C (a i)
 have h1:Em (P:J) m (pp e P) S:=(Em.cg<|zpC W hn f).trans<|Em.smP w λi hi=>Em.mul (Fs.pc _) (Fs.ci _) Em.rfl (d i W).2.2;have j:∀k,w<=k->(S-e) k=0:=λk b=>by
  show S k-e k=0;rw[f k b,show S k=yu w λi=>(Q (e i)*C (a i)) k from LN _ k w,yZ λi hi=>by rw[zU,yA (by have:=(d i W).2.1;lia),xaA]];rfl
 have l:∀s,s<w->dt w (JO a w s) e=(S-e) s:=λs c=>by
  show yu w (λk=>(if k<w then C (a k) s-(if s=k then 1 else 0)else 0)*e k)=S s-e s;rw[show S s=yu w λi=>(Q (e i)*C (a i)) s from LN _ s w,yC (g:=λk=>(Q (e k)*C (a k)) s+(if k=s then-e k else 0)) λk b=>by
   rw[iq b,zU];by_cases h:k=s;grind;rw[ir<|λg=>h g.symm,ir h,xdh,xbW,xbJ],Y5,wy (i:=s)<|λk b=>ir b,iq c,iq O]
  lia
 have p:Di (P:J) (C m) (pp e P-e)↔Di (P:J) (C m) (S-e):=⟨λh=>(h1.symm.trans (show Em _ _ _ e from h):Em _ _ _ e),λh=>(h1.trans (show Em _ _ _ e from h):Em _ _ _ e)⟩;rw[p];constructor;intro h s c;have:=Di.short W o (λk b=>j k W) h;rw[l s c];have n:=this s;rw[zO,xap]at n;exact xaF n;intro h;refine(Di.zero _ _).cg λs=> ?_;rw[zO,xap];symm;by_cases c:s<w;rw[<-l s c];exact xax<|h s c;rw[j s W,xap]
def zkn(hp:qp (P:J)=wL):P=2\/P%2=1:=by
 have⟨a,b⟩:=zw hp;have hn:=Wc hp;by_cases h:P=2
 lia;have:=hn 2 W;by_cases c:4<=P;lia;lia
def Ba{fu:K}(hp:qp (P:J)=wL)(x:vv (P:J) m)(hn:X m=w+1)(V:1<=w)(z:w<=64)(D:3000000<=fu):
 ∃bs,XC fu m P=Z bs/\1<=X bs/\X bs<=w/\(∀v∈bs,Rl v/\X v=w)/\Bs P m (λi=>C<|bs.getD i []) (X bs)/\∃c:J,Cg (P:J) (C<|bs.getD 0 []) (Q c):=by
 have⟨p1,p2⟩:=zw hp;have⟨b,h1,t⟩:=rU (fu:=fu) hp x hn V z D;have Y:∀s k,XB (JO b w s k):=λs k=>by
  show XB (if k<w then C (b k) s-(if s=k then 1 else 0)else 0);by_cases h:k<w;rw[S h];have f:=(t k W).1;have f1:=f.nn s;have f2:=f.lt s;split;exact⟨W,W⟩;exact⟨W,W⟩;rw[ir h];exact⟨W,W⟩
 have⟨A,n,c,pv,e1,o,e3⟩:=C5 (fu:=fu) (N:=w) (w:=w) (m:=ZI w w<|JO b w) hp (ZK _ _ _) z (λr E=>by
  unfold ZI at E;obtain⟨s,_,rfl⟩:=xas.1 E;refine⟨ye _ _,λk=> ?_⟩;by_cases a:k<w;rw[Zo a];exact Y s k;rw[yA<|by rw[ye];lia];exact⟨W,W⟩) z D
 have B:∀e:Pz,Kr (P:J) w w (λi=>C<|(ZI w w<|JO b w).getD i []) e↔∀s,s<w->(P:J)∣dt w (JO b w s) e:=λe=>forall_congr' λs=>imp_congr_right λhc=>by rw[show dt w (C<|(ZI w w<|JO b w).getD s []) e=dt w (JO b w s) e from yC λk a=>by rw[qE hc,Zo a]]
 let F:K->xS J:=λc=>zl w<|Bm (P:J) A pv c n
 have G:∀i,i<X (ox n pv w)->(ox n pv w).getD i 0<w/\sE n pv ((ox n pv w).getD i 0)=wL:=λi hi=>by
  rw[UV,xab hi,xcX];have:=xbG hi;have d:=xbU.1 this;exact⟨xbd.1 d.1,d.2⟩
 have q:∀i,i<X (ox n pv w)->((ox n pv w).map F).getD i []=F ((ox n pv w).getD i 0):=λi hi=>by rw[UV,UV,xbX,xab hi];rfl
 have H:∀i,i<w->(P:J)∣A i 0:=by
  have h0:Kr (P:J) w w A λk=>if k=0 then 1 else 0:=(o.kr _).2 ((B _).2 λs hc=>by
   show(P:J)∣yu w λk=>JO b w s k*(if k=0 then 1 else 0);rw[wy (i:=0) (λk a=>by rw[ir a,xaA]),yg,S O,xcQ];show(P:J)∣(if 0<w then C (b 0) s-(if s=0 then 1 else 0)else 0);rw[yg];have g:=(t 0<|xae _).2.2;have g1:Cg (P:J) (Q 1-C (b 0)) (Q 0):=Di.short W x (λk a=>by
    rw[y7,yA (by have:=(t 0<|xae _).2.1;lia)];show Q 1 k-0=0;unfold Q;rw[zD];rfl) g
   have L:=g1 s;rw[y7,zO,xap]at L;have M:=xaF L;have g4:(Q 1 s:J)=if s=0 then 1 else 0:=O;rw[g4]at M;have:=Int.dvd_neg.2 M;rw[Int.neg_sub]at this;exact this)
  intro i hi;have:(P:J)∣yu w λk=>A i k*(if k=0 then 1 else 0):=h0 i hi;rw[wy (i:=0) (λk a=>by rw[ir a,xaA]),yg,S O,xcQ]at this;exact this
 have ht:sE n pv 0=wL:=lP.2 λi hi h=>by
  have d:=o.on i hi;rw[h]at d;have R:=H i (by have:=o.hn;lia);rw[d]at R;have:=Int.le_of_dvd W R;lia
 have hA:∃l,ox n pv w=0::l:=by obtain⟨u,rfl⟩:∃u,w=u+1:=⟨w-1,W⟩;unfold ox;rw[List.range_succ_eq_map,xfK,S ht];exact⟨_,O⟩
 have⟨l,hl⟩:=hA;refine⟨(ox n pv w).map F,by rw[h1,U e1],by rw[hl];simp,by rw[xav];exact zgc n pv w,λv hv=> ?_,⟨zkn hp,W,λe he hd=> ?_,λi hi k a=> ?_,λi hi=> ?_⟩,1,?_⟩;obtain⟨c,_,rfl⟩:=xas.1 hv;refine⟨λk=> ?_,ye _ _⟩;by_cases a:k<w;show XB (C (zl w _) k);rw[Zo a];have:=zbP (p:=(P:J)) W (A:=A) (pv:=pv) (c:=c) n k;exact⟨W,W⟩;rw[yA (by show(zl w _).length<=k;rw[ye];lia)];exact⟨W,W⟩;have T:∀k,w<=k->e k=0:=λk a=>he k W;refine⟨λi=>e<|(ox n pv w).getD i 0,λk=> ?_⟩;rw[LN,xav];by_cases a:k<w;rw[zkw W o ((B e).2<|(zcm hp x hn t T).1 hd) a];congr 1;refine yC λi hi=> ?_;rw[zU,q i hi];show _=_*C (zl w _) k;rw[Zo a]
 rw[T k W,yZ λi hi=>by
  rw[zU,q i hi];show _*C (zl w _) k=0;rw[yA (by rw[ye];lia),xaA]]
 rw[xav]at hi;rw[q i hi];exact yA (by show(zl w _).length<=k;rw[ye];lia)
 rw[xav]at hi;have hz:∀k,w<=k->C (((ox n pv w).map F).getD i []) k=0:=λk a=>by
  rw[q i hi];exact yA (by show(zl w _).length<=k;rw[ye];lia)
 refine(zcm hp x hn t hz).2<|(B _).1 ?_;have:=znM W o e3 (G i hi).1 (G i hi).2;intro s hc;have d:=this s hc;rw[show dt w _ (C<|((ox n pv w).map F).getD i [])=dt w _ (Bm (P:J) A pv ((ox n pv w).getD i 0) n)from yC λk a=>by
  rw[q i hi];show _*C (zl w _) k=_;rw[Zo a]]
 exact d;intro k;rw[q 0 (by rw[hl];simp),hl];show C (zl w<|Bm (P:J) A pv 0 n) k%P=(if k=0 then(1:J)else 0)%P;by_cases a:k<w;rw[Zo a];by_cases y:sE n pv k=wL;rw[r9<|lP.1 y];have:∃i,i<n/\pv i=k:=xak λh=>y<|lP.2 λi hi d=>h ⟨i,hi,d⟩;obtain⟨i,hi,rfl⟩:=this;rw[B4 hi λj hj hB=>o.pv_ne (i:=i) (j:=j) hi hj hB];have h0:pv i≠0:=λh=>by rw[h]at y;exact y ht
 rw[ir h0,xap];have h5:=H i (by have:=o.hn;lia);exact xax<|xaF<|by rw[xcA _<|xek _];exact xax<|Int.dvd_neg.2 h5
 rw[yA (by rw[ye];lia),zD]
end
section
section
variable{α:Type}
def iB1(d:α)(cmp:α->α->V J):ol (J×J×J×N α) (J×J×N α):=λL (i2,a,i4,t2)=>
 if i2<i4 then
 zF i4 (X t2) λb=>
 B (t2.getD b d) λt3=>
 zf (i4-1) λc=>
 zF c (X t2) λe=>
 B (t2.getD e d) λt4=>
 Y (cmp t3 t4) λf=>
 if f<0then
 zf (i4-1) λg=>
 zf (i4-1) λh=>
 zF h (X t2) λi=>
 B (t2.getD i d) λt5=>
 zF i4 (X t2) λj=>
 B (t2.getD j d) λt6=>
 zF i4 (X t2) λk=>
 B (t2.set k t5) λt7=>
 zF g (X t7) λl=>
 B (t7.set l t6) λt8=>
 zf (i4-1) λm=>
 L (i2,a,m,t8)
 else
 Z (i2,a,t2)
 else
 Z (i2,a,t2)
def iB0(fu:K)(d:α)(b a:J)(cmp:α->α->V J):ol (J×N α) (N α):=λL (i1,t1)=>
 if i1<a then
 Y (zg (iB1 d cmp) fu (b,a,i1,t1)) λ(e,f,t9)=>
 zf (i1+1) λc=>
 L (c,t9)
 else
 Z t1
structure Od3(c:α->α->J)(S:α->Prop):Prop where
 tr:∀x y z,S x->S y->S z->¬c y x<0->¬c z y<0->¬c z x<0
 an:∀x y,S x->S y->c x y<0->¬c y x<0
def zao(d x:α):∀(a b:N α),(a++x::b).getD (X a) d=x
 |[],_=>rfl
 |_::a,b=>zao d x a b
def Ld(d y x:α):∀(a b:N α),(a++y::x::b).getD (X a+1) d=x
 |[],_=>rfl
 |_::a,b=>Ld d y x a b
def zhp(x z:α):∀(a b:N α),(a++x::b).set (X a) z=a++z::b
 |[],_=>rfl
 |h::a,b=>uL (h:: ·)<|zhp x z a b
def zcj(y x z:α):∀(a b:N α),(a++y::x::b).set (X a+1) z=a++y::z::b
 |[],_=>rfl
 |h::a,b=>uL (h:: ·)<|zcj y x z a b
def zbJ{l:N α}(h:0<X l):∃a y,l=a++[y]:=⟨l.dropLast,l.getLast (λe=>by rw[e]at h;exact wS h<|xfR _),(List.dropLast_concat_getLast _).symm⟩
def zqB{fu:K}{d:α}{cmp:α->α->V J}{c:α->α->J}{S:α->Prop}(hc:∀x y,S x->S y->cmp x y=Z (c x y)){s rest:xS α}{x:α}(j:∀y∈s,S y)(k:S x)(hn:X (s++x::rest)<=1000)(o:3000000<=fu){N:J}:
 ∃r,zg (iB1 d cmp) fu (0,N,(X s:J),s++x::rest)=Z r/\∃r1 r2,s=r1++r2/\r=(0,N,r1++x::(r2++rest))/\(∀y∈r2,c x y<0)/\∀a y,r1=a++[y]->¬c x y<0:=by
 rw[xat,xaw]at hn;refine zX (λt:J×J×J×xS α=>∃r1 r2,s=r1++r2/\t=(0,N,(X r1:J),r1++x::(r2++rest))/\∀y∈r2,c x y<0) (λt=>t.2.2.1.toNat) _ ?_ fu _ ⟨s,[],(xbm s).symm,O,λy g=>by simp at g⟩ (by show(X s:J).toNat<fu;lia);rintro t L ⟨r1,r2,e,rfl,i⟩ l;unfold iB1;simp only;have hl:X s=X r1+X r2:=by rw[e,xat]
 by_cases h:0<X r1;obtain⟨a,y,rfl⟩:=zbJ h;have m:X (a++[y])=X a+1:=mK
 have h1:a++[y]++x::(r2++rest)=a++y::x::(r2++rest):=mK
 have n:X (a++y::x::(r2++rest))=X a+2+X r2+X rest:=by simp;lia
 have g:S y:=j y (by rw[e];simp);rw[h1,m,yg,n,yo,A,Ld,zb,(W:((X a+1:K):J)-1=(X a:J)),yo,A,zao,U<|hc x y k g];by_cases f:c x y<0;rw[iq f,zb,zb,yo,A,zao,yo,A,Ld,yo,A,zcj,xat,zn mK,A,zhp,zb];refine l _ ⟨a,y::r2,by rw[e];simp,O,λz hz=> ?_⟩ (by show(X a:J).toNat<(X (a++[y]):J).toNat;lia);obtain rfl|hz:=xah.1 hz
 exact f;exact i z hz;rw[ir f];refine⟨_,O,a++[y],r2,e,by rw[h1],i,λb z hz=> ?_⟩;have:=List.append_inj' hz O;rw[List.singleton_inj.1 this.2]at f;exact f
 rw[zD];obtain rfl:r1=[]:=xbE.1 W;exact⟨_,O,[],r2,e,O,i,λb z hz=>by
  have:=uL xaI hz;simp at this⟩
def zgh{fu:K}{d:α}{cmp:α->α->V J}{c:α->α->J}{S:α->Prop}(hc:∀x y,S x->S y->cmp x y=Z (c x y)){t:xS α}(p:∀y∈t,S y)(hn:X t<=1000:=by lia)(q:3000000<=fu:=by lia):
 ∃r,zg (iB0 fu d 0 (X t:J) cmp) fu (1,t)=Z r/\r.Perm t/\(Od3 c S->r.Pairwise λa b=>¬c b a<0):=by
 cases t with
 |nil=>
  refine zX (λx:J×xS α=>x=(1,[])) (λ_=>0) _ ?_ fu _ O W;rintro x L rfl k;exact⟨[],O,xdy _,λ_=>List.Pairwise.nil⟩
 |cons z t=>
  refine zX (λx:J×xS α=>∃s rest,x=((X s:J),s++rest)/\(s++rest).Perm (z::t)/\(Od3 c S->s.Pairwise λa b=>¬c b a<0)) (λx=>X (z::t)-x.1.toNat) _ ?_ fu _ ⟨[z],t,O,xdy _,λ_=>List.pairwise_singleton _ _⟩ (by show(z::t).length-1<fu;lia);rintro x L ⟨s,rest,rfl,f,l⟩ k;unfold iB0;simp only;have hl:=f.length_eq;rw[xat]at hl;have m:∀y∈s++rest,S y:=λy e=>p y<|f.mem_iff.1 e
  cases rest with
  |nil=>
   rw[ir<|by simp at hl;simp;lia];rw[xbm]at f;exact⟨s,by rw[xbm],f,l⟩
  |cons x rest=>
   rw[xaw]at hl;rw[yg];have g:∀y∈s,S y:=λy e=>m y<|xdP _ e;have i:S x:=m x mK;obtain⟨r,e1,r1,r2,rfl,rfl,u,v⟩:=zqB (fu:=fu) (d:=d) (N:=(X (z::t):J)) (rest:=rest) hc g i (by rw[xat,xaw];lia) q;rw[U e1];simp only;rw[zb];have A:(r1++x::(r2++rest)).Perm (r1++r2++x::rest):=by rw[xaq];refine xbo r1 ?_;rw[<-xbL];have:(x::r2++rest).Perm (r2++x::rest):=xbZ.symm;exact this
   refine k _ ⟨r1++x::r2,rest,?_,?_,λj=> ?_⟩ ?_;rw[show((X (r1++x::r2):K):J)=(X (r1++r2):J)+1 by simp;lia,xaq,xbL];rw[xaq,xbL];exact A.trans f
   have hp:=xdn.1<|l j;have hd:∀y∈r1,¬c x y<0:=λy e=>by
    obtain⟨a,w,rfl⟩:=zbJ<|xft e;have n:=v a w O;obtain h|h:=xaa.1 e
    have B:=xdn.1 hp.1;exact j.tr y w x (g y<|by simp[h]) (g w mK) i (B.2.2 y h w mK) n;rw[xac.1 h];exact n
   refine xdn.2 ⟨hp.1,xdk.2 ⟨λy e=>j.an x y i (g y<|by simp[e])<|u y e,hp.2.1⟩,λa o b hb=> ?_⟩;obtain rfl|hb:=xah.1 hb
   exact hd a o;exact hp.2.2 a o b hb;show(z::t).length-((X (r1++r2):J)+1).toNat<X (z::t)-(X (r1++r2):J).toNat;lia
end
def Gi{fu:K}{cmp:N J->N J->V J}{c:N J->N J->J}{S:N J->Prop}(hc:∀x y,S x->S y->cmp x y=Z (c x y)){t:N (N J)}(d:∀y∈t,S y)(hn:X t<=12)(h:3000001<=fu):
 ∃r,wh fu t cmp=Z r/\r.Perm t/\(Od3 c S->r.Pairwise λa b=>¬c b a<0):=by
 obtain⟨g,rfl⟩:∃g,fu=g+2:=⟨fu-2,W⟩;obtain⟨r,h1,e,f⟩:=zgh (fu:=g+1) hc d;refine⟨r,?_,e,f⟩;unfold wh ue;rw[A,U<|U<|jj<|by unfold ET;lia];refine U<|U ?_;rw[kF];unfold jh;simp only;rw[zb,yg];refine U ?_;exact U h1
def IM{fu:K}{cmp:N M->N M->V J}{c:N M->N M->J}{S:N M->Prop}(hc:∀x y,S x->S y->cmp x y=Z (c x y)){t:N (N M)}(d:∀y∈t,S y)(hn:X t<=12)(h:3000001<=fu):
 ∃r,yL fu t cmp=Z r/\r.Perm t/\(Od3 c S->r.Pairwise λa b=>¬c b a<0):=by
 obtain⟨g,rfl⟩:∃g,fu=g+2:=⟨fu-2,W⟩;obtain⟨r,h1,e,f⟩:=zgh (fu:=g+1) hc d;refine⟨r,?_,e,f⟩;unfold yL ue;rw[A,U<|U<|jj<|by unfold ET;lia];refine U<|U ?_;rw[kF];unfold vV;simp only;rw[zb,yg];refine U ?_;exact U h1
end
section
variable{p:wn}{m a:xS wn}{fu:wr}
def pW{p:J}:∀{l1 c:N Pz},List.Sublist l1 c->(∀w∈c,Fs w)->Di p (prZ l1) (prZ c)
 |_,_,.slnil,_=>Di.refl _ _
 |_,_,.cons a h,b=>Di.mul a (b a<|IR)<|pW h λw d=>b w<|FS _ d
 |_,_,.cons_cons a h,b=>by
  obtain⟨q,fq,hc⟩:=pW h λw d=>b w<|FS _ d;refine⟨q,fq,((Cg.rfl).mul hc).trans<|Cg.of ?_⟩;exact zE _ _ _
def Fs.dvp{f:Pz}(h:Fs f):Fs (dvp f):=by have⟨n,hn⟩:=h;exact⟨n,λk b=>by show _*f (k+1)=0;rw[hn _ W,xaA]⟩
def kn.sq(hp:2<=p){u:N J}(c:Qy p u)(hc:kn p (C m) (dvp<|C m))(h:Di p (C u*C u) (C m)):KW:=by have⟨q,fq,b⟩:=h;have h1:Di p (C u) (C m):=⟨q*C u,fq.mul<|Fs.ci u,b.trans<|Cg.of (zd _ _ _).symm⟩;have d:Di p (C u) (dvp<|C m):=⟨dvp q*C u+(q*dvp (C u)+q*dvp (C u)),(fq.dvp.mul<|Fs.ci u).add<|(fq.mul (Fs.ci u).dvp).add<|fq.mul (Fs.ci u).dvp,(zh0 b).trans<|Cg.of<|by rw[K5,K5,yW,yW,zd,zd,wG,zk (C u)<|dvp<|C u]⟩;have⟨s,t,fs,e,f⟩:=hc;exact c.ne hp<|(Di.add (Di.mul s fs h1)<|Di.mul t e d).cg f
def zqr(hp:qp p=wL)(e:vv p m)(hl:X m<=290)(hc:kn p (C m) (dvp<|C m)):∃us,Sf p m us:=by have⟨i,j⟩:=zw hp;have⟨us,h1,f⟩:=zqJ hp (X m) O hl e;refine⟨us,hp,e,hl,λu g=>⟨(h1 u g).1,by have:=(h1 u g).2;lia⟩,?_,f⟩;refine xdr.2 λ{a b} c=> ?_;have d:a∈us:=c.subset mK;have h:b∈us:=c.subset mK;refine(h1 a d).1.cop hp (h1 b h).1 (by have:=(h1 a d).2;lia) (by have:=(h1 b h).2;lia) λhd=> ?_;subst hd;have:=pW (p:=p) (c.map C) bC;refine kn.sq i (h1 a d).1 hc<|(Di.cg ?_ f.symm);refine Di.trans ?_ this;refine⟨Q 1,Fs.pc 1,Cg.of ?_⟩;show C a*(C a*Q 1)=_;rw[yp,zC]
def rZ(hp:qp p=wL)(c:vv p m)(hl:X m<=290)(d:3000000<=fu):∃b,jm fu m p=Z (m,0)/\YX fu m p=Z (b,0)/\(b=wL↔kn p (C m) (dvp<|C m)):=by
 have⟨f,n⟩:=zw hp;have hd:=c.ln;have⟨x,x0,i,e,e1⟩:=Wz (fu:=fu) hp c.fm c.ln W d;rw[c.top,xcQ,xaH W i]at e;subst e;rw[zfM W c.fm]at e1;have⟨g,s,t,g1,j,k⟩:=Jv (fu:=fu) hp c.fm (ze1 (p:=p) W m) W (by have:=znG p m;lia) d;have l:kn p (C m) (dvp<|C m)↔X g=1:=by rw[zbr f j k];exact⟨λh=>h.congr Cg.rfl (zir p m).symm,λh=>h.congr Cg.rfl<|zir p m⟩
 refine⟨decide<|X g=1,e1,?_,by rw[l];exact decide_eq_true_iff⟩;unfold YX Q0;rw[U e1];simp only[uS];rw[zD,U O];simp only[uS];rw[U<|tN hp c.fm W d];simp only;rw[U g1];simp only;by_cases hc:X g=1
 simp_all;rw[zD,Wl hc]
theorem Ah(hp:qp p=wL)(e:Fp p a)(h0:0<X a)(hl:X a<=65)(f:3000000<=fu):
 ∃m b,zhd p a m/\vv p m/\YX fu m p=Z (b,0)/\(b=wL↔kn p (C m) (dvp<|C m))/\uw fu a p=if b=wL then Z (m,0)else Z ([],1):=by
 have⟨g,k⟩:=zw hp;have⟨x,x0,d,h,e1⟩:=Wz hp e h0 W f;have c:=RP g e h0 h;have⟨m,hc⟩:∃m,m=xE p a [x]:=⟨_,O⟩;rw[<-hc]at c e1;have hd:=c.ln;have i:vv p m:=⟨c.fm,W,c.top⟩;have⟨b,_,b1,b2⟩:=rZ hp i W f;unfold uw bL;have j:(Y (jm fu a p) λ(t1,d)=>if d=(0:J)then if(X t1:J)=(0:J)then Z (([],(8:J)))else if(65:J)<(X t1:J)then Z (([],6))else Z ((t1,0))else Z ([],d))=Z (m,0):=by rw[U e1];grind
 rw[U j];simp only;rw[U b1];grind
def iW{b:N J}(j:X a<=1000)(l:X b<=1000)(n:3000000<=fu):∃c,vA fu a b=Z c:=by
 unfold vA;by_cases h:X a=X b;rw[yg,zb];have⟨r,e,_⟩:=zX (f:=WA fu a b) (λi:J=> -1<=i/\i<X a) (λi=>(i+1).toNat) (λ_=>Xs) (by
  rintro i L ⟨h1,o⟩ g;unfold WA;by_cases d:0<=i;obtain⟨k,rfl⟩:=xaC d;rw[S d,yo,A,yo,A];split;simp_all;rw[yo,A,yo,A];split;simp_all;rw[zb];exact g _ ⟨W,W⟩ W
  rw[ir d];exact⟨_,O,wR⟩) fu ((X a:J)-1) ⟨W,W⟩ W
 rw[U e]
 cases r with
 |inl _=>exact⟨_,O⟩
 |inr i=>exact⟨i,O⟩
 rw[zD,zb];exact⟨_,O⟩
def OV{l1 b:N Pz}(h:l1.Perm b):prZ l1=prZ b:=by
 induction h with
 |nil=>rfl
 |cons x _ c=>show x*prZ _=x*prZ _;rw[c]
 |swap x y l=>show y*(x*prZ l)=x*(y*prZ l);rw[zE]
 |trans _ _ h1 d=>rw[h1,d]
def Rl.take{l:N J}(h:Rl l)(n:K):Rl (l.take n):=λk=>by
 by_cases b:k<n;have:C (l.take n) k=C l k:=by show(l.take n).getD k 0=l.getD k 0;simp_all
 rw[this];exact h k;rw[yA<|by rw[xar];lia];exact⟨W,W⟩
def Bx{P:K}{ds:N J}(hp:qp (P:J)=wL)(H:Fp (P:J) a)(h0:1<X a)(hl:X a<=13)(hd:Rl ds)(hn:X ds<=1000)(o:3000001<=fu){b:v6}(q:zhd (P:J) a m)(k:vv (P:J) m)(s:uw fu a P=Z (m,0))(hc:kn (P:J) (C m) (dvp<|C m)):
 ∃l us,XG fu a P ds=Z (l,0)/\Sf (P:J) m us/\Pl (P:J) m l/\∀g∈l,Qy (P:J) g:=by
 have⟨L,M⟩:=zw hp;have Q:=q.ln;have⟨us,e⟩:=zqr hp k W hc;have⟨bs,e1,b1,b2,b3,n,c,u⟩:=Ba (fu:=fu) (w:=X m-1) hp k W W W W;have R:=n.le e;have hi:Rl (ds.take<|min (X ds) 64):=hd.take _;have⟨l,z,d,B⟩:=tL (fu:=fu) (bs:=bs) (ds:=ds.take<|min (X ds) 64) e W W O b1 W hi (by rw[xar];lia) (λv hv=>⟨(b3 v hv).1,by have:=(b3 v hv).2;lia⟩) W;have D:=Pl.done e n d ⟨c,u⟩ B;have⟨vs,v1,E,v3⟩:=e.pick d.mn<|(Di.refl _ _).cg d.pr.symm;have ht:=fE E λv hv=>(v3 v hv).1;have F:∀g∈l,X g<=290:=λg f=>e.len (d.mn g f).1<|d.dv f;have⟨r,G,h,_⟩:=Gi (fu:=fu) (cmp:=λi j=>vA fu i j) (c:=λx y=>(vA fu x y).getD 0) (S:=λx=>X x<=290) (λx y T V=>by
  have⟨c,hc⟩:=iW (fu:=fu) (a:=x) (b:=y) W W W;show vA fu x y=Z ((vA fu x y).getD 0);rw[hc];rfl) (t:=l) F W o
 refine⟨r,us,?_,e,⟨λg f=>d.mn g<|h.mem_iff.1 f,d.pr.trans ?_⟩,λg f=>D g<|h.mem_iff.1 f⟩;unfold XG;rw[U s];simp only;rw[iq wR,zD,U e1,A,(W:min (X ds:J) 64=((min (X ds) 64:K):J)),yI,y8,A,U z,U G];exact Cg.of<|OV<|h.symm.map C
end
section
variable{K fu:wr}{a:xS Zr}
def WC(f:wr->J):wr->wr
 |0=>0
 |n+1=>xdq (WC f n) (f n).natAbs
def Ew(f:wr->J):∀n k,k<n->WC f n∣(f k).natAbs
 |0,k,h=>wS h<|xbc _
 |n+1,k,h=>by
  by_cases e:k=n;rw[e];exact xdv _ _;exact Nat.dvd_trans (xfL _ _)<|Ew f n k W
theorem B9(f:wr->J){K:wr}(h:∀k,Bz K<|f k):∀n,WC f n<18446744073709551616^K
 |0=>xaY mD
 |n+1=>by
  show xdq (WC f n) (f n).natAbs<_;by_cases e:WC f n=0
  rw[e,Nat.gcd_zero_left];exact h n;exact xaK (Nat.gcd_le_left _ W)<|B9 f h n
def yD(a:N M):J:=if G (yx a) (X (yx a)-1)<0 then-((WC (G a) (X (yx a)):wr):J)else((WC (G a) (X (yx a)):wr):J)
def az(a:N M):yx a=wK (X (yx a)) (G<|yx a):=QY _ _
def zjg(a:N M):yx (yx a)=yx a:=(az a).symm
theorem C8(h:xa K a):Bz K (yD a):=by grind [yD,B9,xa.bz,Bz.nat,Bz.neg]
theorem WI(a:N M)(k:wr):yD a∣G a k:=by
 have h:((WC (G a) (X (yx a)):wr):J)∣G a k:=by
  by_cases b:k<X (yx a);exact xcl.1<|by skip;exact Ew (G a) _ k b
  rw[<-ZT,yn W];exact xdD _
 unfold yD;split;simp_all;exact h
def rN(h:X (yx a)≠0):yD a≠0:=by intro e;have h1:=Xq (az a) h;rw[ZT]at h1;have b:=WI a<|X (yx a)-1;simp_all
def kU(c:xa K a)(g:K<=9999:=by lia)(hl:X a<=1000000:=by lia)(b:3000000<=fu:=by lia):vP fu a=Z (yG<|yD a):=by
 unfold vP;have hn:=dp c;have hd:=ZC a;have hc:=B9 (G a) c.bz;rw[U<|zI c W hl b,show wK (X a) (G a)=yx a from O,U<|yw mD b,U (v:=(yx a,(I,[]),yG ((WC (G a) (X (yx a)):wr):J)))];simp only;by_cases h0:X (yx a)=0
 rw[zD];unfold yD;rw[h0];show Z (yG ((0:wr):J))=Z (yG (if G (yx a) 0<0 then-(((0:wr):J))else((0:wr):J)));simp_all;rw[yg,(W:((X (yx a):wr):J)-1=((X (yx a)-1:wr):J)),zb,yo,A,De<|az a];unfold yD;by_cases h1:G (yx a) (X (yx a)-1)<0;rw[S<|(QU _).2 h1,S h1,U<|Ui ((Bz.nat<|hc _).ok W) b,zo];rw[ir<|λe=>h1<|(QU _).1 e,ir h1];refine zA (λs:J×N M×M×M=>∃i:wr,i<=X (yx a)/\s=((i:J),yx a,(I,[]),yG ((WC (G a) i:wr):J))) (λs=>X (yx a)-s.1.toNat) _ ?_ _ _ ⟨0,xae _,O⟩ (by show(yx a).length-0<fu;lia);rintro s L ⟨i,hi,rfl⟩ f;unfold Ky;simp only;by_cases h:i<X (yx a);have d:=hn.get i;rw[yg,U O];simp only[uS];rw[zn h,A,U<|Uv (yN _) d.1 (Bz.nat<|hc i).len d.2 W b,zo,xaG,Vn,ZT,zb];exact f _ ⟨i+1,W,O⟩ (by show(yx a).length-((i:J)+1).toNat<X (yx a)-(i:J).toNat;lia);rw[zD,U O];simp only[xai,uP];obtain rfl:i=X (yx a):=W
 rfl
def zdw(a:N M):yD (yx a)=yD a:=by unfold yD;rw[zjg,show G (yx a)=G a from kW (ZT a)]
def mW(b:xa K a)(g:K<=9999)(hl:X a<=1000000)(c:3000000<=fu):Yk fu a=Z (yG<|yD a):=by
 unfold Yk;have hn:=dp b;have hd:=ZC a;have hc:=B9 (G a) b.bz;rw[U<|vN b W hl c,show wK (X a) (G a)=yx a from O,U (lQ mD),U (v:=yG ((WC (G a) (X (yx a)):wr):J))];by_cases h0:X (yx a)=0
 rw[zD];unfold yD;rw[h0];show Z (yG ((0:wr):J))=Z (yG (if G (yx a) 0<0 then-(((0:wr):J))else((0:wr):J)));simp_all;rw[yg,(W:((X (yx a):wr):J)-1=((X (yx a)-1:wr):J)),zb,yo,A,De<|az a];unfold yD;by_cases h1:G (yx a) (X (yx a)-1)<0;rw[S<|(QU _).2 h1,S h1,U<|DK ((Bz.nat<|hc _).ok W) c,zo];rw[ir<|λe=>h1<|(QU _).1 e,ir h1];refine zA (λs:J×M=>∃i:wr,i<=X (yx a)/\s=((i:J),yG ((WC (G a) i:wr):J))) (λs=>X (yx a)-s.1.toNat) _ ?_ _ _ ⟨0,xae _,O⟩ (by show(yx a).length-0<fu;lia);rintro s L ⟨i,hi,rfl⟩ f;unfold KC;simp only;by_cases h:i<X (yx a);have d:=hn.get i;rw[yg,zn h,A,U<|DU (yN _) d.1 (Bz.nat<|hc i).len d.2 W c,zo,xaG,Vn,ZT,zb];exact f _ ⟨i+1,W,O⟩ (by show(yx a).length-((i:J)+1).toNat<X (yx a)-(i:J).toNat;lia);rw[zD];obtain rfl:i=X (yx a):=W
 rfl
def y5(a:N M):N M:=wK (X a)<|λk=>G a k/yD a
theorem Yh(a:N M)(k:wr):G (y5 a) k=G a k/yD a:=jO (λk b=>by rw[yn b,xem]) k
def E9(h:xa K a):xa K (y5 a):=xi λk=>(h.bz k).le<|xbB _ _
theorem zm0{x c:J}(hd:c∣x)(b:x≠0):x/c≠0:=λe=>by
 have:=Int.ediv_mul_cancel hd;simp_all
theorem ZA(a:N M):X (y5 a)=X (yx a):=by grind [yx,y5,xC,K1,qJ,VS,zm0,WI,Qj,xem]
theorem zia(a:N M):y5 a=zi (X (yx a)) (λk=>G a k/yD a):=by grind [wK,y5,ZA,xC]
def vR(b:xa K a)(d:K<=9999:=by lia)(hl:X a<=1000000:=by lia)(c:3000000<=fu:=by lia):wc fu a=Z (y5 a):=by unfold wc;have hn:=dp b;have hd:=ZC a;have hc:=C8 b;rw[U<|kU b d hl,U<|zI b W hl c,show wK (X a) (G a)=yx a from O,U<|BH W W λj e=> ?_,zia];unfold Jz;rw[U<|uh (hn.okS W j) (hc.okS W) c,zo,Vn,ZT];unfold exI;rw[ir (rN W),S<|xax<|WI a j]
def PR(c:xa K a)(R:K<=9985)(hl:X a<=1000)(h0:X (yx a)≠0)(f:3000000<=fu):KX fu (yx a) [yG<|yD a]=Z (y5 a,0):=by
 unfold KX;have hn:=dp c;have T:=ZC a;have hc:=C8 c;have i:=rN h0;have w:=hc.len;have l:xa K [yG<|yD a]:=λz o=>by
  obtain rfl:=xac.1 o;exact⟨yN _,w⟩
 have x:wK [yG<|yD a].length (G [yG<|yD a])=[yG<|yD a]:=by show wK 1 _=_;unfold wK;rw[show dg (G [yG<|yD a]) 1=1 from dE (m:=0) (by show zv (yG<|yD a)≠0;rw[zo];exact i)];show[yG<|zv<|yG<|yD a]=_;rw[zo]
 have r:∀k,G [yG<|yD a] k=if k=0 then yD a else 0:=λk=>by
  by_cases b:k=0
  rw[S b,b];exact zo _;rw[ir b];exact yn<|by simp;lia
 rw[U<|vN l W mK f,x,ir (mK:¬((X ([yG<|yD a]:N M):wr):J)=0),U<|vN hn W W f,show wK (X (yx a)) (G<|yx a)=yx a from(az a).symm];have⟨n,ht⟩:∃n,n=X a:=⟨_,O⟩;rw[U (v:=.inl<|y5 a)];refine zA (λs:N M×N M×N M=>∃m:wr,m<=n/\s=([yG<|yD a],wK m<|G a,wK n (λk=>if m<=k then G a k/yD a else 0))) (λs=>X s.2.1) _ ?_ _ _ ⟨n,So _,?_⟩ (by show(yx a).length<fu;lia)
 rintro s L ⟨m,V,rfl⟩ y;unfold lV;simp only;have Y:=qJ (G a) m;have h:X (wK m<|G a)=dg (G a) m:=xC _ _;have B:∀k,G (wK m<|G a) k=if k<m then G a k else 0:=λk=>by
  have e:wK m (G a)=wK m (λk=>if k<m then G a k else 0):=Wg λk b=>by rw[S b]
  rw[e,jO λk b=>zD]
 by_cases h1:0<dg (G a) m;have⟨d,hd⟩:∃d,dg (G a) m=d+1:=⟨dg (G a) m-1,W⟩;have hH:G a d≠0:=by have:=Qj (G a) m W;rw[hd]at this;exact this
 have C:(wK m<|G a).getD d (I,[])=yG (G a d):=by unfold wK;rw[hd];exact Yq W
 have hv:exI (G a d) (yD a)=G a d/yD a:=by unfold exI;rw[ir i,S<|xax<|WI a d]
 have D:exE (G a d) (yD a)=0:=by unfold exE;rw[ir i,S<|xax<|WI a d]
 have E:Bz K (G a d/yD a):=(c.bz d).le<|xbB _ _;have hp:Nm d (I,[])++[yG<|G a d/yD a]=zi (d+1) (mono d<|G a d/yD a):=by
  rw[bf,<-B5];congr 1;exact y9 λk b=>by unfold mono;rw[zD]
  unfold mono;rw[S O]
 have q:xa K (zi (d+1)<|mono d<|G a d/yD a):=XH λj=>by
  unfold mono;split;exact E;exact Bz.zero _
 have F:xa K (wK n (λk=>if m<=k then G a k/yD a else 0)):=xi λj=>by
  split;exact(c.bz j).le<|xbB _ _;exact Bz.zero _
 have hL:X (wK n (λk=>if m<=k then G a k/yD a else 0))<=n:=by rw[xC];exact qJ _ _
 have H:xa K (wK m<|G a):=xi c.bz;have t:=Y2 q l;have u:=ug (zi (d+1)<|mono d<|G a d/yD a) [yG<|yD a];rw[yz]at u t;rw[S (by rw[h];lia),h,hd,show(X ([yG<|yD a]:N M):wr)=1 from O,(W:((d+1:wr):J)-((1:wr):J)=(d:J)),zb,(W:((d+1:wr):J)-1=(d:J)),zb,yo,A,C,show((1:wr):J)-1=((0:wr):J)by rfl,zb,yo,A,show([yG<|yD a]:N M).getD 0 (I,[])=yG (yD a)from O,U<|Ae ((c.bz d).okS W) (hc.okS W) f,zo,zo,hv,D];simp only[uS];rw[zD,yI,y8,A,wM (by simp;lia),A,hp,U<|ey F q W W (by rw[yz];lia) f,U<|CP q l (by rw[yz];lia) mK f,U<|Dt (k:=K+K+(d+1)) (H.mono W) t W W (by simp at u;lia) f];have e1:aG (wK m<|G a) (xb (zi (d+1)<|mono d<|G a d/yD a) [yG<|yD a])=wK d (G a):=by
  unfold aG;have P:wK d (G a)=wK d (λk=>if k<d then G a k else 0):=Wg λk b=>by rw[S b]
  rw[P];refine Y9 (λk b=>by rw[yn W,yn W];rfl) (λk b=>zD) λk=> ?_;rw[zcQ,B];unfold Rj;by_cases b:k<d;rw[yg,S b,zD,xaA,xdh];rw[ir b];by_cases hi:k=d;subst hi;rw[yg,S<|So _,r,yg,Int.ediv_mul_cancel<|WI a k];lia;have o:(if k<m then G a k else 0)=0:=by
   split;exact VS (G a) m k W W
   rfl
  rw[o,yg,r,zD,xaA];rfl
 have Q:wK (max (X (wK n (λk=>if m<=k then G a k/yD a else 0))) (X (zi (d+1)<|mono d<|G a d/yD a))) (λj=>G (wK n (λk=>if m<=k then G a k/yD a else 0)) j+G (zi (d+1)<|mono d<|G a d/yD a) j)=wK n (λk=>if d<=k then G a k/yD a else 0):=by refine Y9 (λk b=>by rw[yn W,yn W];rfl) (λk b=>by rw[yn (p:=a) W,xem,ite_self]) λk=> ?_;rw[jO (λk b=>by rw[yn (p:=a) W,xem,ite_self]),KD<|λk b=>by unfold mono;rw[zD]];unfold mono;by_cases b:k<d;rw[ir (W:¬m<=k),ir (W:¬k=d),ir (W:¬d<=k)];rfl;by_cases hi:k=d;subst hi;rw[ir (W:¬m<=k),S O,S<|So _,xcI];rw[ir hi,S (W:d<=k),xbW];by_cases g:m<=k;rw[S g];rw[ir g,VS (G a) m k W W,xem]
 show L ([yG<|yD a],_,_)=_;rw[e1,Q];exact y _ ⟨d,W,O⟩ (by show(wK d<|G a).length<X (wK m<|G a);rw[h,xC];have:=qJ (G a) d;lia);rw[ir<|by rw[h];lia];congr 2;unfold y5;rw[<-ht];refine Wg λk b=> ?_;by_cases g:m<=k;rw[S g];rw[ir g,VS (G a) m k W W,xem];rw[ht];congr 2;have e:wK (X a) (λk=>if X a<=k then G a k/yD a else 0)=wK (X a) (λ_=>0):=Wg λk b=>zD;rw[e];have:dg (λ_=>(0:J)) (X a)=0:=K1 (xae _) (λ_ _ _=>O) (.inl O);unfold wK;rw[this];rfl
def Bh(b:xa K a)(d:K<=9985)(hl:X a<=1000)(c:3000000<=fu):Jd fu a=Z (y5 a):=by
 unfold Jd;have hc:=ZC a;rw[U<|vN b W W c,show wK (X a) (G a)=yx a from O];by_cases h0:X (yx a)=0
 skip;have:=ZA a;simp_all;rw[zD,U<|mW (dp b) W W c,zdw,U<|PR b d hl h0 c]
end
section
variable{a:xS Zr}{fu K:wr}{s:wn}
def zja{x:wr}:x/2^1=x/2:=by rw[Nat.pow_one]
def zjX{n:wr}(h:0<n):bl (n/2)<bl n:=by rw[dI h];omega
def zcv{a b:wr}(h:a<=b):bl a<=bl b:=af<|xaK h<|DG b
def zku{y:J}(b:Bz K y)(d:K<=10000)(c:3000000<=fu):zg (W2 fu 2<|yG y) fu (2,yG s,0,yG 1)=Z (2,yG s,yG<|y*y):=by
 have⟨n,hn⟩:∃n,fu=n+3:=⟨fu-3,lW⟩;have h:zg (W2 fu 2<|yG y) (n+3) (2,yG s,0,yG 1)=Z (2,yG s,yG<|y*y):=by have b1:=Bz.one'<|So _;rw[kF];unfold W2;simp only;rw[U<|yj (b1.ok mD) (b.ok lW) c,zo,zo,xdd,jL mD,kF];simp only;rw[U<|yj (b.ok lW) (b.ok lW) c,zo];rfl
 simp_all
def Cw(u:0<=s)(j:Bz K s)(F:K<=1000)(i:3000000<=fu):∃r:wr,KB fu (yG s) 2=Z (yG (r:J),0)/\Bz (K+1) (r:J)/\r*r<=s.toNat/\s.toNat<(r+1)*(r+1):=by
 unfold KB;obtain⟨S,rfl⟩:=xaC u;have G:=j.len;have hv:bl S<=64*K:=zcM (by unfold Bz at j;rwa[xaG]at j);have hn:nv (yG (S:J)).2=S:=by show nv (yH<|(S:J).natAbs)=S;rw[zV,xaG]
 have v:xdx ((bl S:wr):J) 2=((bl S/2:wr):J):=by rw[xeV lW];omega
 have n:bl S/2<=32*K:=lW
 have w:min (((bl S/2:wr):J)+1) (262144:J)=((bl S/2+1:wr):J):=lW
 rw[ir mD,ir mD,U<|xe (j.ok lW) i,zo,ir (λe=>by
  unfold kh at e;rw[zD]at e;split at e<;>exact wS e mD),U (yw mD i),U (W3 (yN _) lW lW),hn,wM mD,v,zb,zb,A,w,U (QQ (a:=[1]) (zm.cons mD zm.nil) mD lW lW)]
 simp only;have⟨H,l⟩:∃H,H=1*2^(bl S/2+1):=⟨_,O⟩;have m:H<18446744073709551616^(K+1):=by rw[l,xcP,(mD:(18446744073709551616:wr)=2^64),<-xcg];exact xfO mD lW
 have N:1<=H:=by rw[l,xcP];exact xaY mD
 have ht:=zcM m;have x:S<H*H:=by refine xag (DG S) ?_;rw[l,xcP,<-xbj];exact xam mD lW
 rw[show nv [1]=1 from O,<-l,U<|yM (zt _) (by have:=(zJ (K+1) H).2 m;omega) (by have:=(zJ (K+1) H).2 m;omega),zV,ir mD];obtain⟨r,l1,R,rfl,P,hp,y⟩:=zX (f:=K9 fu (yG (S:J)) 2) (λz:M×M×M=>∃lo hi:wr,z=((I,[]),yG (lo:J),yG (hi:J))/\lo<hi/\hi<=H/\lo*lo<=S/\S<hi*hi) (λz=>bl<|(zv z.2.2).natAbs-(zv z.2.1).natAbs-1) (λr=>∃R:wr,r=yG (R:J)/\R<=H/\R*R<=S/\S<(R+1)*(R+1)) (by
  rintro z L ⟨lo,hi,rfl,h1,n,i1,i2⟩ o;unfold K9;simp only;have g:Bz (K+1) (lo:J):=Bz.nat lW;have k:Bz (K+1) (hi:J):=Bz.nat lW;have B:nv (yG<|(lo:J)+(hi:J)).2=lo+hi:=by show nv (yH<|((lo:J)+(hi:J)).natAbs)=lo+hi;rw[zV];omega
  have p:=(g.add k).len;have c:Bz (K+1) (((lo+hi)/2:wr):J):=Bz.nat lW;have Q:X (yH<|(lo+hi)/2)<=K+1:=(zJ _ _).2 lW;rw[U<|vZ (g.ok lW) (k.ok lW) i,zo,zo,show(1:J)=((1:wr):J)from O,U (n8 (yN _) lW mD lW),B,zja,U (yM (zt _) lW lW),zV,ir mD,U<|Yd (c.ok lW) (g.ok lW) i (by have:=c.len;omega) (by have:=g.len;omega),zo,zo];by_cases q:(lo+hi)/2=lo;rw[iq<|xL.2 lW];obtain rfl:hi=lo+1:=lW
  exact⟨_,O,lo,O,lW,i1,i2⟩;rw[ir<|λe=>q (by have:=xL.1 e;omega),show(((1:wr):J))=1 from O,U<|yw mD i,U<|zku c lW i];simp only;have C:=(c.mul c).len;rw[U<|Yd ((c.mul c).ok lW) (j.ok lW) i lW lW];have hd:0<hi-lo-1:=lW
  have t:∀d,d<=(hi-lo-1)/2->bl d<bl (hi-lo-1):=λd D=>xaK (zcv D)<|zjX hd;have⟨b,E⟩:∃b,b=(lo+hi)/2:=⟨_,O⟩;rw[<-E]at q⊢;have hl:kh ((b:J)*(b:wr)) (S:J)<=0↔b*b<=S:=by rw[(mK:(b:J)*(b:wr)=((b*b:wr):J))];unfold kh;split;exact⟨λ_=>by omega,λ_=>by decide⟩;split;exact⟨λh=>wS h mD,λh=>by omega⟩;exact⟨λ_=>by omega,λ_=>by decide⟩
  by_cases hc:b*b<=S;rw[zo,zo,iq<|hl.2 hc];exact o _ ⟨_,hi,O,lW,n,hc,i2⟩<|by simp only[zo,xaG];exact t _ lW
  rw[zo,zo,ir λh=>hc<|hl.1 h];exact o _ ⟨lo,_,O,lW,lW,i1,lW⟩<|by simp only[zo,xaG];exact t _ lW) fu ((I,[]),yG 0,yG (H:J)) ⟨0,H,O,lW,So _,xae _,x⟩ (by
  simp only[zo,xaG];have:=zcv (lW:H-Int.natAbs 0-1<=H);omega)
 rw[U l1];exact⟨R,O,Bz.nat lW,by rw[xaZ];exact hp,by rw[xaZ];exact y⟩
def Gr(a:N M):J:=if(yx a).length=0 then 8 else if 65<X (yx a) then 6 else 0
theorem cL(b:xa K a)(c:K<=40000)(hl:X a<=1000000)(d:3000000<=fu):XN fu a=Z (Gr a):=by grind [XN,Gr,yx,U,zI]
def sD(f:wr->J)(n:wr):J:=yu n<|λk=>f k*f k
def YO(x:J):0<=x*x:=by
 obtain h|h:=Int.le_total 0 x
 exact xcx h h;exact Int.mul_nonneg_of_nonpos_of_nonpos h h
def nB(f:wr->J):∀n,0<=sD f n
 |0=>xfW _
 |n+1=>Int.add_nonneg (nB f n)<|YO _
theorem zf6{f:wr->J}(h:∀k,Bz K<|f k):∀n,n<=18446744073709551615->Bz (K+K+1) (sD f n):=by
 have h1:∀n:wr,(sD f n).natAbs<=n*18446744073709551616^(K+K):=by
  intro n
  induction n with
  |zero=>exact xae _
  |succ n d=>
   have c:(sD f<|n+1).natAbs<=(sD f n).natAbs+(f n*f n).natAbs:=Int.natAbs_add_le _ _;have b:=(h n).mul<|h n;unfold Bz at b;grind
 intro n hn;unfold Bz;have c:=h1 n;have hp:0<18446744073709551616^(K+K):=xaY mD;have b:n*18446744073709551616^(K+K)<=18446744073709551615*18446744073709551616^(K+K):=xaj _ hn;omega
def Mq{f:wr->J}:∀{n},(∃k,k<n/\f k≠0)->1<=sD f n
 |0,⟨k,h,_⟩=>wS h<|xbc _
 |n+1,⟨k,h,b⟩=>by
  show 1<=sD f n+f n*f n;have h1:=nB f n;have d:=YO<|f n;by_cases e:k=n
  have g:f n*f n≠0:=λc=>by
   obtain h4|h4:=xeQ.1 c<;>exact b<|by rw[e];exact h4
  omega;have:=Mq (n:=n) ⟨k,lW,b⟩;omega
def cj(c:xa K a)(p:K<=300)(hl:X a<=1000000)(b:3000000<=fu):∃y,vy fu a=Z (y,Gr a)/\(Gr a=0->∃r:wr,y=yG (((r+1)*2^(X (yx a)-1):wr):J)/\r*r<=(-1+sD (G a) (X (yx a))).toNat/\(-1+sD (G a) (X (yx a))).toNat<(r+1)*(r+1)):=by
 unfold vy;rw[U<|cL c lW hl b];by_cases h0:Gr a=0
 have hc:X (yx a)≠0/\X (yx a)<=65:=by
  unfold Gr at h0;split at h0;cases h0
  omega
 have hn:=dp c;have e:=λn hn=>zf6 (K:=K) (f:=G a) c.bz n hn;have q:=Mq (f:=G a) (n:=X (yx a)) ⟨X (yx a)-1,lW,by have:=Xq (az a) hc.1;rwa[ZT]at this⟩;have hd:∀n,n<=18446744073709551615->Bz (K+K+1+1) (-1+sD (G a) n):=λn hn=>by
  have:=(e n hn).add (Bz.one (k:=K+K+1) lW);rwa[Int.add_comm]at this
 rw[S h0,U<|zI c lW hl b,show wK (X a) (G a)=yx a from O,U<|yw mD b,U (v:=(yx a,(I,[]),yG (-1+sD (G a) (X (yx a)))))];simp only;have⟨r,r1,r2,g,l⟩:=Cw (fu:=fu) (s:= -1+sD (G a) (X (yx a))) lW (hd _ lW) lW b;have b1:Bz 1 1:=Bz.one'<|So _;have b2:=(r2.add<|b1.mono (by omega:1<=K+K+1+1+1)).len;rw[U r1];simp only;rw[U<|yw mD b,U<|vZ (r2.ok lW) (b1.ok mD) b,zo,zo,(lW:((X (yx a):wr):J)-1=((X (yx a)-1:wr):J)),zb,U<|QQ (yN _) lW lW lW];simp only;have t:X (yH<|nv (yG<|(r:J)+1).2*2^(X (yx a)-1))<=K+K+1+1+1+1+2:=by refine YQ (j:=K+K+1+1+1+1) (k:=2) ?_ ?_;rw[show nv (yG<|(r:J)+1).2=((r:J)+1).natAbs from zV _];exact b2;refine(zJ _ _).2 ?_;exact xaK (xam mD (lW:X (yx a)-1<=64)) mD
 rw[U<|uf ⟨zt _,by show(yH _).length<=100000;omega⟩ b];refine⟨_,by rw[h0],λ_=>⟨r,?_,g,l⟩⟩;congr 1;show(if I=wL then _ else((nv (yH _):wr):J))=_;rw[zV,show nv (yG<|(r:J)+1).2=((r:J)+1).natAbs from zV _,(lW:((r:J)+1).natAbs=r+1)];rfl;refine zA (λs:J×N M×M×M=>∃i:wr,i<=X (yx a)/\s=((i:J),yx a,(I,[]),yG (-1+sD (G a) i))) (λs=>X (yx a)-s.1.toNat) _ ?_ _ _ ⟨0,xae _,O⟩ (by show(yx a).length-0<fu;omega);rintro s L ⟨i,hi,rfl⟩ m;unfold fX;simp only;by_cases h:i<X (yx a);have d:=hn.okZ lW i;have o:=(c.bz i).mul<|c.bz i;rw[yg,U O];simp only[uS];rw[zn h,A,U<|yj d d b,Vn,ZT,U<|vZ ((hd i lW).ok lW) (o.ok lW) b,zo,zo,zb,show-1+sD (G a) i+G a i*G a i= -1+sD (G a) (i+1)by show _= -1+(sD (G a) i+G a i*G a i);omega];exact m _ ⟨i+1,lW,O⟩ (by show(yx a).length-((i:J)+1).toNat<X (yx a)-(i:J).toNat;omega);rw[zD,U O];simp only[xai,uP];obtain rfl:i=X (yx a):=lW
 rfl;rw[ir h0];exact⟨_,O,λh=>wS h h0⟩
end
section
variable{f g q u v w a b:Pz}{m:wr}
def EZ{m:J}{f:K->J}:∀{n j:K},j<n->(∀k,k<n->k≠j->m∣f k)->m∣yu n f-f j
 |0,j,h,_=>wS h<|xbc _
 |n+1,j,h,hd=>by
  show m∣yu n f+f n-f j;by_cases e:j=n;subst e;rw[(W:yu j f+f j-f j=yu j f)];exact fW λk c=>hd k W W
  have h1:=EZ (n:=n) W λk c d=>hd k W d;have i:=hd n W W;rw[(W:yu n f+f n-f j=(yu n f-f j)+f n)];exact Int.dvd_add h1 i
theorem K8{n:K}(c:∀k,n<k->f k=0)(d:∀k,m<k->g k=0):(f*g) (n+m)=f n*g m:=by
 have h:=Int.zero_dvd.1 (EZ (f:=λi=>f i*g (n+m-i)) (n:=n+m+1) (j:=n) W λk e l=>by
  by_cases hc:k<n;grind;rw[c k W,xba];exact xek 0)
 rw[(W:n+m-n=m)]at h;rw[wV];lia
def Tp(f:Pz)(n:K):Prop:=f n≠0/\∀k,n<k->f k=0
def Nz(f:Pz):Prop:=∃k,f k≠0
def Nz.not(h:¬Nz f)(k:K):f k=0:=xak λe=>h ⟨k,e⟩
def Tp.ex(c:Fs f)(h0:Nz f):∃n,Tp f n:=by
 have⟨N,i⟩:=c;have⟨j,d⟩:=h0;have h1:dg f N≠0:=λe=>by
  by_cases h:j<N;exact d<|VS f N j W h;simp_all
 refine⟨dg f N-1,Qj f N h1,λk l=> ?_⟩;by_cases hc:k<N;exact VS f N k W hc;simp_all
def Tp.mul{n:K}(c:Tp f n)(d:Tp g m):Tp (f*g) (n+m):=
 ⟨by rw[K8 c.2 d.2];exact xdH c.1 d.1,λk h=>uy (n:=n+1) (m:=m+1) (λj e=>c.2 j W)<|λj e=>d.2 j W⟩
def Tp.uniq{n:K}(h:Tp f n)(g:Tp f m):n=m:=by by_cases h1:n<m;exact wS (h.2 m h1) g.1;by_cases c:m<n;exact wS (g.2 n c) h.1;lia
def Tp.nz{n:K}(h:Tp f n):Nz f:=⟨n,h.1⟩
def Tp.fs{n:K}(h:Tp f n):Fs f:=⟨n+1,λk c=>h.2 k W⟩
def Nz.mul{f g:Pz}(c:Fs f)(d:Fs g)(e:Nz f)(h:Nz g):Nz (f*g):=by have⟨n,hn⟩:=Tp.ex c e;have⟨m,i⟩:=Tp.ex d h;exact(hn.mul i).nz
def Dm(d:Fs f)(e:Fs g)(fq:Fs q)(i:Nz q)(h:f*q=g*q):f=g:=by by_cases c:Nz (f-g);have h1:=Nz.mul (d.subt e) fq c i;have⟨k,j⟩:=h1;rw[ke,h,y7]at j;lia;funext k;have:=Nz.not c k;rw[y7]at this;lia
def zdZ{c:J}(hc:c≠0)(h:Q c*f=Q c*g):f=g:=kW λk=>by
 have:=Ww h k;rw[zU,zU]at this;exact Int.eq_of_mul_eq_mul_left hc this
def Zd(u v:Pz):Prop:=∃q:Pz,Fs q/\v=q*u
def Zd.refl(u:Pz):Zd u u:=⟨Q 1,Fs.pc 1,(zC u).symm⟩
def Zd.trans(h:Zd u v)(g:Zd v w):Zd u w:=by obtain⟨q,fq,rfl⟩:=h;obtain⟨r,fr,rfl⟩:=g;exact⟨r*q,fr.mul fq,(zd r q u).symm⟩
def Zd.add{u v w:Pz}(h:Zd u v)(g:Zd u w):Zd u (v+w):=by obtain⟨q,fq,rfl⟩:=h;obtain⟨r,fr,rfl⟩:=g;exact⟨q+r,fq.add fr,(yW q r u).symm⟩
def Zd.sub(h:Zd u v)(g:Zd u w):Zd u (v-w):=by obtain⟨q,fq,rfl⟩:=h;obtain⟨r,fr,rfl⟩:=g;exact⟨q-r,fq.subt fr,(ke q r u).symm⟩
def Zd.mul{u v:Pz}(w:Pz)(c:Fs w)(h:Zd u v):Zd u (w*v):=by obtain⟨q,fq,rfl⟩:=h;exact⟨w*q,c.mul fq,(zd w q u).symm⟩
def Zd.left(c:Fs v):Zd u (u*v):=⟨v,c,zk u v⟩
def Pm(f:Pz):Prop:=∀d:K,(∀k,(d:J)∣f k)->d=1
def Pm.nz(h:Pm f):Nz f:=xak λhn=>wS (h 0 λk=>by rw[Nz.not hn k];exact xdD _) mD
def zqD:∀(n d:K),d<=n->2<=d->∃P,2<=P/\kz P/\P∣d
 |0,d,h,i=>by lia
 |n+1,d,h,i=>by
  by_cases hd:kz d;exact⟨d,i,hd,Nat.dvd_refl d⟩;have:∃e,2<=e/\e*e<=d/\d%e=0:=xak λhn=>hd λe e1 j c=>hn ⟨e,e1,j,c⟩;have⟨e,e1,j,c⟩:=this;have p:e<d:=by have:e*2<=e*e:=xaE e e1;lia
  have⟨P,k,l,o⟩:=zqD n e W e1;exact⟨P,k,l,Nat.dvd_trans o<|Nat.dvd_of_mod_eq_zero c⟩
theorem zmk{Q:K->Prop}(h:∃i,Q i):∃i,Q i/\∀k,k<i->¬Q k:=by
 have⟨i,hi⟩:=h
 induction i using xdA with
 |ind i c=>
  by_cases hc:∃k,k<i/\Q k;grind;grind
def Hn{P:K}(hp:2<=P)(hn:kz P){f g:Pz}{i:K}(hi:¬(P:J)∣f i)(c:∀k,k<i->(P:J)∣f k)(h:∀k,(P:J)∣(f*g) k):∀n j,j<n->(P:J)∣g j
 |0,j,d=>wS d<|xbc _
 |n+1,j,d=>by
  have p:=Hn hp hn hi c h n;by_cases hd:j<n;simp_all
  have e:(P:J)∣yu (i+j+1) (λa=>f a*g (i+j-a))-f i*g (i+j-i):=EZ (m:=(P:J)) (f:=λa=>f a*g (i+j-a)) (n:=i+j+1) (j:=i) W λk r s=>by
   show(P:J)∣f k*g (i+j-k);by_cases hc:k<i;exact xbu (c k hc)<|xbY _ _;exact xbu (p _ W)<|xcJ _ _
  have l:=h<|i+j;rw[wV]at l;rw[(W:i+j-i=j)]at e;have o:=xdu l e;rw[show∀x y:J,x-(x-y)=y by intro x y;lia]at o;obtain h5|h5:=IX hp hn o
  lia;exact h5
def zst{P:K}(hp:2<=P)(hn:kz P)(h:∀k,(P:J)∣(f*g) k):(∀k,(P:J)∣f k)\/∀k,(P:J)∣g k:=by by_cases c:∀k,(P:J)∣f k;simp_all;have⟨i,h1,d⟩:=zmk<|Classical.not_forall.1 c;exact .inr λk=>Hn hp hn h1 (λk e=>Classical.not_not.1<|d k e) h (k+1) k<|xdM k
def Pm.mul(c:Pm f)(i:Pm g):Pm (f*g):=λd hd=>by
 by_cases h1:d=1
 exact h1;have:∃P,2<=P/\kz P/\P∣d:=by
  by_cases h0:d=0
  exact⟨2,mD,λe e1 o=>by have:2*2<=e*e:=xcf e1 e1;lia,by rw[h0];exact⟨0,O⟩⟩;exact zqD d d (So d) W
 have⟨P,j,l,n⟩:=this;rcases zst j l λk=>xbu (xcO.2 n) (hd k)with h|h
 have:=c P h;lia;have:=i P h;lia
def Pm.left(h:Pm (u*v)):Pm u:=λd hd=>h d λk=>by
 exact fW λi _=>xbu (hd i)<|xbY _ _
def NR{f:K->J}{d:K}:∀n,(∀k,k<n->d∣(f k).natAbs)->d∣WC f n
 |0,_=>⟨0,O⟩
 |n+1,h=>Nat.dvd_gcd (NR n λk c=>h k W)<|h n W
def OJ{f:K->J}{c g:K}:∀n,(∀k,k<n->c∣g*(f k).natAbs)->c∣g*WC f n
 |0,_=>⟨0,O⟩
 |n+1,h=>by
  show c∣g*xdq (WC f n) (f n).natAbs;rw[<-Nat.gcd_mul_left];exact Nat.dvd_gcd (OJ n λk d=>h k W)<|h n W
def si{n:K}(h:∀k,n<=k->f k=0)(k:K):((WC f n:K):J)∣f k:=by
 by_cases c:k<n;exact xcl.1<|by skip;exact Ew f n k c
 simp_all
def Pm.ex(p:Fs f)(h0:Nz f):∃(c:K) (g:Pz),c≠0/\Fs g/\Pm g/\f=Q c*g:=by
 have⟨n,hn⟩:=p;have h:=si hn;have⟨c,hc⟩:∃c,c=WC f n:=⟨_,O⟩;rw[<-hc]at h;have r:c≠0:=λe=>by
  have⟨j,t⟩:=h0;have:=h j;rw[e]at this;lia
 have i:=Lv<|Cg.of_dvd h;refine⟨c,pdv c f,r,Nk ⟨n,hn⟩,λd hd=> ?_,i.symm⟩;have h1:=NR n λk _=>by
  have l:=Ww i k;rw[zU]at l;have o:=xfV (xek c)<|hd k;rw[l]at o;have x:=xcl.2 o;assumption
 rw[<-hc]at h1;have s:c*d∣c*1:=by rw[xeI];exact h1
 exact Nat.dvd_one.1<|Nat.dvd_of_mul_dvd_mul_left W s
def zqm{c:J}(fq:Fs q)(e:Pm q)(i:Fs w)(h:∀k,c∣(w*q) k)(k:K):c∣w k:=by
 by_cases h0:Nz w
 obtain⟨g,v,g0,j,hv,rfl⟩:=Pm.ex i h0;have⟨n,hn⟩:=j.mul fq;have l:=(hv.mul e) _<|si hn;have d:=OJ n λk _=>by
  have:=xcl.2<|h k;rw[zd,zU,xcw,xaG]at this;exact this
 rw[l,xeI]at d;rw[zU];have o:c∣g:=xcl.1 (by skip;exact d);exact xbu o<|xbY _ _;rw[Nz.not h0 k];exact xdD c
def Zd.pm{c:J}(fq:Fs q)(i:Pm q)(hc:c≠0)(h:Zd q (Q c*v)):Zd q v:=by
 have⟨w,d,e⟩:=h;have h1:=zqm fq i d λk=>by rw[<-e,zU];exact xbY _ _
 have j:=Lv<|Cg.of_dvd h1;refine⟨pdv c w,Nk d,zdZ hc ?_⟩;rw[e,<-zd,j]
theorem zeP{b:Pz}{m:K}(d:Tp b m):∀(n:K) (a:Pz),(∀k,n<=k->a k=0)->∃(c:J) (q r:Pz),c≠0/\Fs q/\(∀k,m<=k->r k=0)/\Q c*a=q*b+r
 |0,a,h=>⟨1,Q 0,Q 0,mD,Fs.pc 0,λk _=>zO k,kW λk=>by rw[zP,yB,zO,zU,h k W];rfl⟩
 |n+1,a,h=>by
  by_cases hn:n+1<=m;exact⟨1,Q 0,a,mD,Fs.pc 0,λk i=>h k W,kW λk=>by rw[zP,yB,zO,xcI,zC]⟩
  have⟨c,q,r,hc,fq,l,j⟩:=zeP d n (Q (b m)*a-mono (n-m) (a n)*b) λk i=>by
   rw[y7,Vx,zU];unfold sh;rw[yg];by_cases e:k=n;grind;rw[h k W,d.2 (k-(n-m)) W];lia
  refine⟨c*b m,q+Q c*mono (n-m) (a n),r,xdH hc d.1,fq.add<|(Fs.pc c).mul ⟨n+1,λk i=>zD⟩,l,?_⟩;rw[yW,<-jx,zd (Q c) (Q<|b m) a,zd (Q c) _ b];rw[qq]at j;funext k;have:=Ww j k;simp only[zP,y7]at this⊢;lia
def zl6(c:Nz a)(e:∀k,b k=0):∃(d s t:Pz) (α β:J),Nz d/\Fs s/\Fs t/\d=s*a+t*b/\α≠0/\β≠0/\Zd d (Q α*a)/\Zd d (Q β*b):=
 ⟨a,Q 1,Q 0,1,1,c,Fs.pc 1,Fs.pc 0,kW λk=>by rw[zP,zC,yB,zO,xbW],mD,mD,⟨Q 1,Fs.pc 1,O⟩,⟨Q 0,Fs.pc 0,kW λk=>by rw[zU,e k,yB,zO];rfl⟩⟩
def zsf:∀(n:K) (a b:Pz),Fs a->Nz a->(∀k,n<=k->b k=0)->∃(d s t:Pz) (α β:J),Nz d/\Fs s/\Fs t/\d=s*a+t*b/\α≠0/\β≠0/\Zd d (Q α*a)/\Zd d (Q β*b):=by
 intro n
 induction n with
 |zero=>intro a b p l j;exact zl6 l λk=>j k<|xae k
 |succ n B=>
  intro a b p l j;by_cases nb:Nz b;have x:Fs b:=⟨n+1,j⟩;have⟨m,y⟩:=Tp.ex x nb;have H:m<=n:=by by_cases h:m<=n;exact h;exact wS (j m W) y.1
  have⟨N,C⟩:=p;have⟨c,q,r,hc,fq,D,z⟩:=zeP y N a C;have⟨d,s,t,α,β,E,fs,A,hd,i,o,h1,F⟩:=B b r x nb λk L=>D k W;have G:r=Q c*a-q*b:=kW λk=>by
   have:=Ww z k;simp only[zP,y7]at this⊢;lia
  refine⟨d,t*Q c,s-t*q,α*β*c,α,E,A.mul<|Fs.pc c,fs.subt<|A.mul fq,?_,xdH (xdH i o) hc,i,?_,h1⟩;rw[hd,G,qq,ke,<-zd,<-zd];funext k;simp only[zP,y7];lia;have e:Q (α*β*c)*a=(Q β*q)*(Q α*b)+Q α*(Q β*r):=by rw[<-jx (α*β) c,zd (Q<|α*β) (Q c) a,z,wG,<-jx α β,zd (Q β) q,zE q (Q α) b,zE (Q β)<|Q α,zd (Q α)<|Q β,zd (Q α)<|Q β]
  rw[e];exact(h1.mul _<|(Fs.pc β).mul fq).add<|F.mul _<|Fs.pc α;exact zl6 l<|Nz.not nb
def zl5(k:Fs a)(r:Nz a)(x:Fs b):∃(g s t:Pz) (γ:J),Fs g/\Pm g/\Fs s/\Fs t/\γ≠0/\Q γ*g=s*a+t*b/\Zd g a/\Zd g b:=by
 have⟨n,hn⟩:=x;have⟨d,s,t,α,β,y,fs,l,hd,e,h,h1,z⟩:=zsf n a b k r hn;have A:Fs d:=by rw[hd];exact(fs.mul k).add<|l.mul ⟨n,hn⟩
 have⟨c,g,hc,i,j,o⟩:=Pm.ex A y;have p:Zd g d:=⟨Q c,Fs.pc c,o⟩;exact⟨g,s,t,c,i,j,fs,l,W,o.symm.trans hd,Zd.pm i j e<|p.trans h1,Zd.pm i j h<|p.trans z⟩
def nQ(u:Pz):Prop:=∀k,1<=k->u k=0
def nQ.ex(h:nQ u):∃c,u=Q c:=⟨u 0,kW λk=>by
 unfold Q;by_cases e:k=0
 simp_all;rw[ir e];exact h k W⟩
def AN{c:J}(h:Pm (Q c)):c=1\/c= -1:=by
 have h1:=h c.natAbs λk=>by
  unfold Q;split;exact Int.natAbs_dvd.2<|xek _;simp_all
 lia
structure Ir(q:Pz):Prop where
 fs:Fs q
 pm:Pm q
 dg:¬nQ q
 ir:∀u v,Fs u->Fs v->q=u*v->nQ u\/nQ v
def Ir.prime(d:Ir q)(fu:Fs u)(k:Fs v)(h:Zd q (u*v)):Zd q u\/Zd q v:=by
 have⟨g,s,t,γ,l,n,fs,o,i,p,⟨w,r,j⟩,x,fx,y⟩:=zl5 d.fs d.pm.nz fu;obtain hc|hc:=d.ir w g r l j
 left;obtain⟨c,rfl⟩:=hc.ex;have z:=(j▸d.pm:Pm (Q c*g)).left;refine⟨x*Q c,fx.mul<|Fs.pc c,?_⟩;have hd:c*c=1:=by obtain e|e:=AN z<;>rw[e]<;>rfl
 rw[j,zd,<-zd (Q c) (Q c) g,jx,hd,zC,y]
 right;obtain⟨c,rfl⟩:=hc.ex;have A:c≠0:=λe=>by
  have:=AN n;lia
 refine Zd.pm d.fs d.pm (xdH i A) ?_;rw[<-jx,p,yW];refine Zd.add ⟨s*v,fs.mul k,?_⟩ ?_;rw[zd,zd,zk q v];rw[zd];exact h.mul t o
def Po(q:Pz):Prop:=∃n,0<q n/\∀k,n<k->q k=0
def Po.tp(h:Po q):∃n,Tp q n/\0<q n:=by have⟨n,h1,c⟩:=h;exact⟨n,⟨W,c⟩,h1⟩
def Ir.eq{r:Pz}(i:Ir q)(j:Ir r)(o:Po q)(pr:Po r)(h:Zd q r):q=r:=by
 have⟨w,p,d⟩:=h;obtain hc|hc:=j.ir w q p i.fs d
 obtain⟨c,rfl⟩:=hc.ex;have s:=(d▸j.pm:Pm (Q c*q)).left;obtain e|e:=AN s
 rw[d,e,zC];have⟨n,h1,z⟩:=o.tp;have⟨m,t,x⟩:=pr.tp;have l:Tp (Q c*q) n:=⟨by rw[zU,e];lia,λk y=>by rw[zU,h1.2 k y,xaA]⟩;rw[<-d]at l;obtain rfl:=l.uniq t;rw[d,zU,e]at x;lia;exact wS hc i.dg
def nQ.tp{n:K}(h:Tp u n):nQ u↔n=0:=⟨λhc=>xak λe=>h.1 (hc n W),λe k c=>h.2 k W⟩
def Po.or(fu:Fs u)(h:Nz u):Po u\/Po (Q (-1)*u):=by have⟨n,hn⟩:=Tp.ex fu h;have:=hn.1;by_cases hp:0<u n;exact .inl ⟨n,hp,hn.2⟩;exact .inr ⟨n,by rw[zU];lia,λk c=>by rw[zU,hn.2 k c,xaA]⟩
def Pm.neg(h:Pm u):Pm (Q (-1)*u):=λd hd=>h d λk=>by
 have:=hd k;rw[zU]at this;simp_all
def Ir.neg{u:Pz}(h:Ir u):Ir (Q (-1)*u):=by
 refine⟨(Fs.pc _).mul h.fs,h.pm.neg,λhc=>h.dg λk c=> ?_,λa b d i e=> ?_⟩;have:=hc k c;rw[zU]at this;lia;have:u=(Q (-1)*a)*b:=by rw[zd,<-e,<-zd,jx];exact(zC u).symm
 rcases h.ir _ b ((Fs.pc _).mul d) i this with hc|hc
 left;intro k c;have:=hc k c;rw[zU]at this;lia;simp_all
def Ir.ex:∀(n:K) {f:Pz}{m:K},m<=n->Tp f m->Pm f->1<=m->∃q,Ir q/\Po q/\Zd q f
 |0,f,m,h,_,_,h1=>by lia
 |n+1,f,m,h,ht,hp,h1=>by
  by_cases hi:Ir f;obtain h2|h2:=Po.or hi.fs hp.nz
  exact⟨f,hi,h2,Zd.refl f⟩;refine⟨_,hi.neg,h2,Q (-1),Fs.pc _,?_⟩;rw[<-zd,jx];exact(zC f).symm;have:∃u v,Fs u/\Fs v/\f=u*v/\¬nQ u/\¬nQ v:=xak λhn=>hi ⟨ht.fs,hp,λhc=>by have:=(nQ.tp ht).1 hc;lia,λu v fu c e=>xak λhc=>hn ⟨u,v,fu,c,e,λh=>hc (.inl h),λh=>hc (.inr h)⟩⟩;have⟨u,v,fu,c,e,l,cv⟩:=this;have j:=(e▸hp:Pm (u*v)).left;have hv:Pm v:=by rw[e,zk]at hp;exact hp.left
  have⟨a,d⟩:=Tp.ex fu j.nz;have⟨b,k⟩:=Tp.ex c hv.nz;have i:=(d.mul k);rw[<-e]at i;have i:=i.uniq ht;have hd:b≠0:=λh=>cv<|(nQ.tp k).2 h;have p:a≠0:=λh=>l<|(nQ.tp d).2 h;have⟨q,q1,q2,o⟩:=Ir.ex n W d j W;exact⟨q,q1,q2,o.trans<|by rw[e];exact Zd.left c⟩
end
section
variable{q f:Pz}{m:wr}{a b:xS Zr}
def Pm.one:Pm (Q 1):=λd hd=>by
 have:=hd 0;exact Nat.dvd_one.1<|xcO.1 this
def Pm.pp{q:Pz}(h:Pm q):∀n,Pm (pp q n)
 |0=>Pm.one
 |n+1=>(Pm.pp h n).mul h
def Po.one:Po (Q 1):=⟨0,mD,λk c=>by unfold Q;rw[zD]⟩
def Ir.one(h:Ir q):¬Zd q (Q 1):=λ⟨w,d,e⟩=>by
 have⟨a,c⟩:=Tp.ex h.fs h.pm.nz;have g:Nz w:=xak λhn=>by
  have:=Ww e 0;rw[wV,yZ λk _=>by rw[Nz.not hn k,xba]]at this;exact wS this mD
 have⟨b,i⟩:=Tp.ex d g;have h1:=i.mul c;rw[<-e]at h1;have j:=h1.uniq (m:=0) ⟨mD,λk l=>by unfold Q;rw[zD]⟩;exact h.dg<|(nQ.tp c).2 W
def Mu(q f:Pz)(n:K):Prop:=∃u,Fs u/\f=u*pp q n/\¬Zd q u
def Mu.ex{q:Pz}(c:Ir q)(m:K):∀{f:Pz},Tp f m->∃n,n<=m/\Mu q f n:=by
 induction m using xdA with
 |ind m j=>
  intro f d;by_cases hd:Zd q f
  have⟨u,fu,e⟩:=hd;have l:Nz u:=xak λhn=>by
   refine d.1 ?_;rw[e,wV,yZ λk _=>by rw[Nz.not hn k,xba]]
  have⟨a,g⟩:=Tp.ex fu l;have⟨b,i⟩:=Tp.ex c.fs c.pm.nz;have h1:=g.mul i;rw[<-e]at h1;have h1:=h1.uniq d;have hc:b≠0:=λh=>c.dg<|(nQ.tp i).2 h;have⟨n,hn,v,o,p,hv⟩:=j a W g;refine⟨n+1,W,v,o,?_,hv⟩;show f=v*(pp q n*q);rw[e,p,zd];exact⟨0,xae m,f,d.fs,(yp f).symm,hd⟩
theorem Mu.mul{q f g:Pz}{n m:K}(d:Ir q)(e:Mu q f n)(i:Mu q g m):Mu q (f*g) (n+m):=by
 obtain⟨u,fu,rfl,j⟩:=e;obtain⟨v,c,rfl,hv⟩:=i;refine⟨u*v,fu.mul c,?_,λh=> ?_⟩;rw[Cd,zd,zd,zE<|pp q n];obtain h|h:=d.prime fu c h
 grind;grind
def Mu.lt{n:K}(c:Ir q)(h:Mu q f n)(g:Mu q f m):¬n<m:=λk=>by
 have⟨u,fu,e1,i⟩:=h;have⟨v,e,j,hv⟩:=g;obtain⟨d,rfl⟩:∃d,m=d+1+n:=⟨m-1-n,W⟩;refine i ⟨v*pp q d,e.mul<|c.fs.pp d,?_⟩;refine Dm fu ((e.mul<|c.fs.pp d).mul c.fs) (c.fs.pp n) (c.pm.pp n).nz ?_;rw[<-e1,j,Cd,zd<|v*pp q d,zd v];show v*(pp q d*q*pp q n)=_;rw[zd<|pp q d]
def Mu.uniq{n:K}(c:Ir q)(h:Mu q f n)(g:Mu q f m):n=m:=by have:=h.lt c g;have:=g.lt c h;lia
def Mu.zero(c:Fs f)(h:¬Zd q f):Mu q f 0:=⟨f,c,(yp f).symm,h⟩
def Ir.pp{q r:Pz}(c:Ir q)(d:Fs r):∀n,Zd q (pp r n)->Zd q r
 |0,h=>wS h c.one
 |n+1,h=>by
  rcases c.prime (d.pp n) d h with h|h
  exact Ir.pp c d n h;exact h
theorem Ir.prz{q:Pz}(d:Ir q):∀{l:N Pz},(∀r∈l,Fs r)->Zd q (prZ l)->∃r,r∈l/\Zd q r
 |[],_,h=>wS h d.one
 |r::l,hl,h=>by
  rcases d.prime (hl r<|IR) (Fs.prZ λx c=>hl x<|FS _ c) h with h|h
  simp_all;have⟨x,c,h⟩:=Ir.prz d (λx c=>hl x<|FS _ c) h;grind
def prM:N (Pz×K)->Pz
 |[]=>Q 1
 |x::r=>pp x.1 x.2*prM r
def LK:∀{l:N (Pz×K)},(∀x∈l,Fs x.1)->Fs (prM l)
 |[],_=>Fs.pc 1
 |x::r,h=>((h x<|IR).pp _).mul<|LK λy c=>h y<|FS _ c
def zfF{q:Pz}(c:Ir q)(e:Po q):∀{l:N (Pz×K)},(∀x∈l,Ir x.1/\Po x.1/\q≠x.1)->¬Zd q (prM l)
 |[],_,h=>c.one h
 |x::r,hl,h=>by
  have⟨h1,i,j⟩:=hl x<|IR;have g:=λy d=>hl y<|FS _ d;rcases c.prime (h1.fs.pp _) (LK λy d=>(g y d).1.fs) h with h|h
  exact j<|c.eq h1 e i<|c.pp h1.fs _ h;exact zfF c e g h
def mus{f:Pz}(d:Fs f)(g:Nz f):∀{l:N (Pz×K)},l.Pairwise (λx y=>x.1≠y.1)->(∀x∈l,Ir x.1/\Po x.1/\Mu x.1 f x.2)->∃u,Fs u/\f=u*prM l/\∀x∈l,¬Zd x.1 u
 |[],_,_=>⟨f,d,(yp f).symm,λ_ h=>wS h H1⟩
 |x::r,hp,h=>by
  have⟨h1,o,p⟩:=h x<|IR;rw[xdk]at hp;have c:=λy hy=>h y<|FS _ hy;have⟨u,fu,e,s⟩:=mus d g hp.2 c;have t:Nz u:=xak λhn=>by
   have⟨k,v⟩:=g;rw[e,wV,yZ λk _=>by rw[Nz.not hn k,xba]]at v;lia
  have⟨m,z⟩:=Tp.ex fu t;have⟨n,_,hn⟩:=Mu.ex h1 m z;have A:=Mu.zero (LK λy hy=>(c y hy).1.fs)<|zfF h1 o λy hy=>⟨(c y hy).1,(c y hy).2.1,hp.1 y hy⟩;have i:=hn.mul h1 A;rw[<-e]at i;obtain rfl:n=x.2:=(i.uniq h1 p);have⟨w,B,j,C⟩:=hn;refine⟨w,B,?_,λy hy=> ?_⟩;show f=w*(pp x.1 x.2*prM r);rw[<-zd,<-j,e];obtain rfl|hy:=xah.1 hy
  exact C;exact λD=>s y hy<|by rw[j,zk];exact D.mul _<|h1.fs.pp _
theorem zk4(o:Fs f)(j:Nz f){l:N (Pz×K)}(hp:l.Pairwise λx y=>x.1≠y.1)(h:∀x∈l,Ir x.1/\Po x.1/\Mu x.1 f x.2)(p:∀q,Ir q->Po q->Zd q f->∃x∈l,x.1=q):∃c,c≠0/\f=Q c*prM l:=by
 have⟨u,fu,e,A⟩:=mus o j hp h;have r:Nz u:=xak λhn=>by
  have⟨k,s⟩:=j;rw[e,wV,yZ λk _=>by rw[Nz.not hn k,xba]]at s;lia
 obtain⟨c,g,hc,t,i,rfl⟩:=Pm.ex fu r;have⟨m,n⟩:=Tp.ex t i.nz;by_cases h1:1<=m;have⟨q,q1,q2,v⟩:=Ir.ex m (So m) n i h1;have w:Zd q (Q c*g):=v.mul _<|Fs.pc _;obtain⟨x,B,rfl⟩:=p q q1 q2 (by rw[e,zk];exact w.mul _<|LK λy z=>(h y z).1.fs);grind;obtain⟨d,rfl⟩:=((nQ.tp n).2 W).ex;refine⟨c*d,xdH W ?_,by rw[e,jx]⟩;have:=AN i;lia
def HD(f g:K->J):K->J
 |0=>0
 |n+1=>if f n=g n then HD f g n else if f n<g n then-1 else 1
theorem N5(f g:K->J):∀n,HD g f n= -HD f g n
 |0=>rfl
 |n+1=>by
  unfold HD;by_cases h:f n=g n;rw[S h,S h.symm];exact N5 f g n;lia
theorem SD(f g:K->J):∀n,HD f g n=0->∀k,k<n->f k=g k
 |0,_,k,h=>wS h<|xbc _
 |n+1,h,k,c=>by
  unfold HD at h;by_cases h1:f n=g n;rw[S h1]at h;by_cases e:k=n;grind;exact SD f g n h k W
  lia
def GU(f g h:K->J):∀n,HD f g n<=0->HD g h n<=0->HD f h n<=0
 |0,_,_=>xfW 0
 |n+1,h1,c=>by
  unfold HD at h1 c⊢;by_cases e1:f n=g n;rw[S e1]at h1;by_cases d:g n=h n;rw[S d]at c;rw[S<|e1.trans d];exact GU f g h n h1 c;lia;lia
def Ja(a b:N M):J:=if X a=X b then HD (G a) (G b) (X a) else if X a<X b then-1 else 1
theorem Wq(a b:N M):Ja b a= -Ja a b:=by grind [Ja,N5]
def zak{c:N M}(h1:Ja a b<=0)(d:Ja b c<=0):Ja a c<=0:=by unfold Ja at h1 d⊢;by_cases e1:X a=X b;rw[S e1]at h1;by_cases e:X b=X c;rw[S e,<-e1]at d;rw[S<|e1.trans e];exact GU _ _ _ _ h1 d;lia;lia
def BU(d:yx a=a)(e:yx b=b)(h:∀k,G a k=G b k):a=b:=by rw[<-d,<-e];exact Y9 (λk c=>yn c) (λk c=>yn c) h
def zdr(c:yx a=a)(d:yx b=b)(h:Ja a b=0):a=b:=by unfold Ja at h;by_cases e:X a=X b;rw[S e]at h;have h1:=SD _ _ _ h;refine BU c d λk=> ?_;by_cases g:k<X a;simp_all;rw[yn W,yn W];lia
structure FL(f:Pz)(l:N (N M×J)):Prop where
 el:∀x∈l,yx x.1=x.1/\Ir (G x.1)/\Po (G x.1)/\1<=x.2/\Mu (G x.1) f x.2.toNat
 al:∀q,Ir q->Po q->Zd q f->∃x∈l,G x.1=q
 so:l.Pairwise λx y=>Ja x.1 y.1<0
end
def jH{n:K}{f g:K->qR}{t:qR}(h:∀i,i<n->f i=g i):yE n f t=yE n g t:=q7 λi hi=>by rw[h i hi]
def IH(t:qR)(v:Pz)(N:wr)(hv:∀i,N<=i->v i=0):∀(M:wr) (u:Pz),(∀i,M<=i->u i=0)->∀K,M+N<=K->yE K (λk=>(((u*v) k:J):qR)) t=yE M (λi=>(u i:qR)) t*yE N (λi=>(v i:qR)) t
 |0,u,a,K,_=>by
  show _=0*_;rw[xeR];rw[<-iE K t];refine jH λk _=> ?_;have:(u*v) k=0:=by rw[wV];exact yZ λi _=>by rw[a i<|xae _,xba]
  rw[this];rfl
 |M+1,u,a,K,q=>by
  have⟨w,b⟩:∃w:Pz,w=λi=>if i<M then u i else 0:=⟨_,O⟩;have⟨z,d⟩:∃z:Pz,z=λi=>if i=M then u M else 0:=⟨_,O⟩;have e:u=w+z:=by funext i;rw[zP,b,d];by_cases h:i<M;simp[h,(W:i≠M)];by_cases l:i=M;simp[l];simp[h,l,a i W]
  have j:∀k,(z*v) k=if M<=k then u M*v (k-M)else 0:=λk=>by
   rw[wV,wy (i:=M)<|λi hi=>by rw[d];simp[hi]];by_cases h:M<=k;rw[yg,S h,d];simp;rw[zD,ir h]
  have m:=IH t v N hv M w (λi hi=>by rw[b];simp;lia) K W;have e1:yE M (λi=>(w i:qR)) t=yE M (λi=>(u i:qR)) t:=jH λi hi=>by rw[b];simp[hi]
  have n:=gP (β:=λi=>(v i:qR)) (g:=λk=>(((z*v) k:J):qR)) (c:=(u M:qR)) (e:=M) (λi hi=>by rw[j,zD];rfl) N (λi hi=>by rw[j,yg,(W:M+i-M=i),xcu]) t;have o:=Yj (f:=λk=>(((z*v) k:J):qR)) (W:M+N<=K) (λi hi=>by
   rw[j];split;rw[hv _ W,xaA];rfl;rfl) t
  have p:yE K (λk=>(((u*v) k:J):qR)) t=yE K (λk=>(((w*v) k:J):qR)) t+yE K (λk=>(((z*v) k:J):qR)) t:=by rw[<-QZ];exact jH λk _=>by rw[e,yW,zP,xfX]
  rw[p,m,o,n,e1];show _=(yE M (λi=>(u i:qR)) t+(u M:qR)*t^M)*_;grind
def zer(g:K->qR):∀N,∃(D:K) (G:Pz),0<D/\(∀i,i<N->g i*D=G i)/\∀i,N<=i->G i=0
 |0=>⟨1,Q 0,mD,λi hi=>wS hi<|xbc _,λi _=>zO i⟩
 |N+1=>by
  have⟨D,G,h0,h1,a⟩:=zer g N;refine⟨D*(g N).den,λi=>if i<N then G i*(g N).den else if i=N then(g N).num*D else 0,xdL h0 (g N).den_pos,λi hi=> ?_,λi hi=>by show(if i<N then _ else if i=N then _ else 0)=_;rw[zD,zD]⟩;have hd:((g N).den:qR)≠0:=λe=>by
   have:=xey.1<|e.trans (by rfl:(0:qR)=((0:K):qR));exact(g N).den_nz this
  have hn:g N*((g N).den:qR)=((g N).num:qR):=by have:=Rat.mkRat_eq_div (g N).num (g N).den;rw[Rat.mkRat_self]at this;rw[this];grind
  show _=(((if i<N then G i*(g N).den else if i=N then(g N).num*D else 0):J):qR);by_cases h:i<N;rw[S h,xdG,xcu,<-h1 i h];show _=g i*(D:qR)*((g N).den:qR);grind;have:i=N:=W
  subst this;rw[ir h,S O,xdG,xcu,<-hn];show _=g i*((g i).den:qR)*(D:qR);grind
section
variable{a b k:wr}{p:wn}{f u v g q:Pz}
def zlI{A B:Pz}{d e:K}(c:Mn A d)(h:Mn B e):Mn (A*B) (d+e):=
 ⟨by rw[K8 c.2 h.2,c.1,h.1];rfl,λk l=>uy (n:=d+1) (m:=e+1) (λj i=>c.2 j W)<|λj i=>h.2 j W⟩
def zf1:∀{l:N Pz},(∀A∈l,∃d,Mn A d)->∃d,Mn (prZ l) d
 |[],_=>⟨0,O,λk j=>by show Q 1 k=0;unfold Q;rw[zD]⟩
 |A::l,h=>by
  have⟨d,hd⟩:=h A<|IR;have⟨e,c⟩:=zf1 λB i=>h B<|FS _ i;exact⟨d+e,zlI hd c⟩
def mU{α:Type}(F:α->Pz)(P:α->v6):∀l:N α,prZ (l.map F)=prZ ((l.filter P).map F)*prZ ((l.filter λx=> !P x).map F)
 |[]=>(yp _).symm
 |x::l=>by
  have c:=mU F P l
  cases h:P x with
  |true=>
   rw[xfp h,xfq<|by rw[h];decide];show F x*_=F x*_*_;rw[c,zd]
  |false=>
   rw[xfq (by rw[h];decide),xfp<|by rw[h];rfl];show F x*_=_*(F x*_);rw[c,zE]
def TP{P:J}(hp:qp P=wL){a b:Pz}{c:J}(s:Fs a)(t:Fs b)(h:Cg P (a*b) (pc c))(hc:¬P∣c):∃x,Cg P a (pc x):=by
 have⟨E,F⟩:=zw hp;obtain⟨Q,rfl⟩:=xaC (W:0<=P);have l:=Wc hp;rw[xaZ]at l;have d:∀f:Pz,Fs f->¬Cg (Q:J) f (pc 0)->∃g n,Tp g n/\Cg (Q:J) g f/\¬(Q:J)∣g n:=λf w hn=>by
  have f2:Fs (λk=>f k%(Q:J)):=by have⟨n,hn⟩:=w;exact⟨n,λk y=>by show f k%_=0;rw[hn k y,xap]⟩
  have⟨n,h1⟩:=Tp.ex f2 (xak λz=>hn λk=>by
   have:=Nz.not z k;rw[zO,xap];exact this)
  exact⟨_,n,h1,λk=>xaQ _ _,λhd=>h1.1 (by show f n%_=0;have:=xax hd;rwa[xaQ]at this)⟩
 have A:¬Cg (Q:J) a (pc 0):=λe=>hc (by have:=(h.symm.trans<|e.mul_zero_r b).dvd 0;unfold pc at this;rwa[S O]at this)
 have B:¬Cg (Q:J) b (pc 0):=λe=>hc (by have:=(h.symm.trans<|e.mul_zero_l a).dvd 0;unfold pc at this;rwa[S O]at this)
 have⟨u,i,m,o,G⟩:=d a s A;have⟨v,j,v1,C,v3⟩:=d b t B;have h1:=(o.mul C).trans h;by_cases D:i=0
 subst D;obtain⟨x,rfl⟩:=((nQ.tp m).2 O).ex;exact⟨x,o.symm⟩;exfalso;have r:=h1<|i+j;rw[K8 m.2 v1.2,show pc c (i+j)=0 from zD,xap]at r;rcases IX W l (xaF r)with h3|h3
 lia;exact v3 h3
theorem pS{p a:J}(hp:qp p=wL)(d:a%p≠0):∀k,∃w,p^k∣w*a-1
 |0=>⟨0,by rw[xce];exact Int.one_dvd _⟩
 |k+1=>by
  have⟨l,m⟩:=zw hp;by_cases i:k=0
  subst i;obtain⟨Q,rfl⟩:=xaC (W:0<=p);have⟨w,c⟩:=Tm hp λh=>d<|xax h;grind;have⟨w,c⟩:=pS hp d k;refine⟨w*(2-w*a),?_⟩;have e:w*(2-w*a)*a-1= -((w*a-1)*(w*a-1)):=by grind
  rw[e];refine Int.dvd_neg.2<|xbu (iu (j:=k+k)) ?_;rw[Int.pow_add];exact xfV c c
abbrev Lx:=N M×N J
def pu(xs:N Lx):Pz:=prZ<|xs.map λx=>(G x.1:Pz)
def pl(xs:N Lx):Pz:=prZ<|xs.map λx=>(C x.2:Pz)
def zl1(xs:N Lx):Fs (pu xs):=Fs.prZ λf c=>by
 obtain⟨x,_,rfl⟩:=xas.1 c;exact Fs.cf _
def zqM(xs:N Lx):Fs (pl xs):=Fs.prZ λf c=>by
 obtain⟨x,_,rfl⟩:=xas.1 c;exact Fs.ci _
structure Lc(p:J)(k:K)(f:Pz)(n:K)(xs:N Lx):Prop where
 hp:qp p=wL
 k1:1<=k
 el:∀x∈xs,Up p k x.1 x.2/\Qy p x.2/\x.2.length<=66
 pw:xs.Pairwise λa b=>kn p (C a.2)<|C b.2
 tp:Tp f n
 nb:n<=64
 ps:0<f n
 lc:f n%p≠0
 pm:Pm f
 cg:Cg (p^k) f (Q (f n)*pu xs)
def zqu{x:Lx}(h:Up p k x.1 x.2/\Qy p x.2/\X x.2<=66):Mn (G x.1) (X x.2-1):=by have⟨h1,d,_⟩:=h;have c:=h1.top;rw[h1.len]at c;exact⟨c,λj e=>yn<|by rw[h1.len];lia⟩
def Ou{p:J}{k:K}:∀{xs:N Lx},(∀x∈xs,Up p k x.1 x.2/\Qy p x.2/\X x.2<=66)->Cg p (pu xs) (pl xs)
 |[],_=>Cg.rfl
 |x::xs,h=>(h x<|IR).1.cg.mul<|Ou λy c=>h y<|FS _ c
def zqI{xs:N Lx}(h:∀x∈xs,Up p k x.1 x.2/\Qy p x.2/\X x.2<=66):∃d,Mn (pu xs) d:=zf1 λA c=>by
 obtain⟨x,e,rfl⟩:=xas.1 c;exact⟨_,zqu<|h x e⟩
def zfU{xs:N Lx}(h:∀x∈xs,Up p k x.1 x.2/\Qy p x.2/\X x.2<=66):∃d,Mn (pl xs) d:=zf1 λA c=>by
 obtain⟨x,e,rfl⟩:=xas.1 c;exact⟨_,(h x e).2.1.mn.mn⟩
def Lc.lcp{n:K}{xs:N Lx}(h:Lc p k f n xs):Cg p f (Q (f n)*pl xs):=
 (h.cg.down<|kN h.k1).trans (Cg.rfl.mul<|Ou h.el)
def Lc.sf{n:K}{xs:N Lx}(h:Lc p k f n xs):∃(m:N J) (w:J),Sf p m (xs.map (·.2))/\Cg p (C m) (Q w*f):=by
 have⟨A,B⟩:=zw h.hp;have⟨w,i⟩:=pS h.hp h.lc 1;rw[xbP,xce,xdd]at i;have o:∀k,n+1<=k->(λk=>(w*f k)%p) k=0:=λk D=>by
  show(w*f k)%p=0;rw[h.tp.2 k W,xaA,xap]
 have hc:(w*f n)%p=1:=by have:=(xcA (w*f n)<|xek p);have d:(w*f n)%p=1%p:=xaL.2<|xax i;rw[d,xaH mD W]
 have c:=DP o;have hd:=AD (n+1)<|λk=>(w*f k)%p;have r:=Hd (n+1)<|λk=>(w*f k)%p;have⟨m,s⟩:∃m,m=nl (n+1) (λk=>(w*f k)%p):=⟨_,O⟩;rw[<-s]at c hd r;have t:X m=n+1:=by
  by_cases e:X m=n+1
  exact e;have:=c n;rw[yA W]at this;lia
 have l:Cg p (C m) (Q w*f):=λk=>by rw[c k,zU];exact xaQ _ _
 refine⟨m,w,⟨h.hp,⟨⟨λk=>by rw[c k];exact(xg).1,λk=>by rw[c k];exact(xg).2,hd⟩,W,by rw[c];show(w*f (X m-1))%p=1;rw[t];exact hc⟩,by have:=h.nb;lia,λu y=> ?_,?_,?_⟩,l⟩;obtain⟨x,z,rfl⟩:=xas.1 y;have⟨_,d,E⟩:=h.el x z;exact⟨d,W⟩;exact xez.2 h.pw;refine l.trans<|(Cg.rfl.mul h.lcp).trans ?_;rw[<-zd,jx,xdg];refine Cg.trans (Cg.mul (f':=Q 1) (λj=> ?_) Cg.rfl)<|Cg.of<|zC _;unfold Q;split;rw[hc];exact(xaH mD W).symm;rfl
noncomputable def own(p:J)(u:Pz)(xs:N Lx):N Lx:=by
 classical exact xs.filter λx=>decide<|Di p (C x.2) u
noncomputable def SQ(p:J)(u:Pz)(xs:N Lx):N Lx:=by
 classical exact xs.filter λx=> !decide (Di p (C x.2) u)
theorem bT{xs:N Lx}{x:Lx}:x∈own p u xs↔x∈xs/\Di p (C x.2) u:=by grind [own]
def zbw(p:J)(u:Pz)(xs:N Lx):pu xs=pu (own p u xs)*pu (SQ p u xs)/\pl xs=pl (own p u xs)*pl (SQ p u xs):=by exact⟨mU _ _ xs,mU _ _ xs⟩
def Lc.or{n:K}{xs:N Lx}(h:Lc p k f n xs)(fu:Fs u)(d:Fs v)(l:∀j,b<=j->u j=0)(o:b<=290)(e:f=u*v){x:Lx}(c:x∈xs):(Di p (C x.2) u\/Di p (C x.2) v)/\¬(Di p (C x.2) u/\Di p (C x.2) v):=by
 have⟨m,w,r,s⟩:=h.sf;have⟨h1,t,D⟩:=h.el x c;have A:x.2∈xs.map (·.2):=xbF c;constructor;obtain hd|hc:=t.or' h.hp W l o
 simp_all;right;have i:Di p (C x.2) f:=by refine Di.cg ?_ h.lcp.symm;exact(bE (λy B=>by obtain⟨z,_,rfl⟩:=xas.1 B;exact Fs.ci _)<|xbF c).mul _<|Fs.pc _
 rw[e]at i;exact Di.euclid d hc i;rintro⟨d1,d2⟩;exact r.apart fu d ⟨Q w,Fs.pc w,by rw[<-e];exact s⟩ A d1 d2
def Lc.oth_own{n:K}{xs:N Lx}(h:Lc p k f n xs)(fu:Fs u)(c:Fs v)(d:∀j,b<=j->u j=0)(i:b<=290)(e:f=u*v):SQ p u xs=own p v xs:=by refine List.filter_congr λx l=> ?_;have⟨h1,m⟩:=h.or fu c d i e l;by_cases hd:Di p (C x.2) u;simp_all;simp_all
def Lc.pcop{n:K}{xs:N Lx}(h:Lc p k f n xs):(own p u xs).Pairwise (λa b=>kn p (C a.2)<|C b.2):=by exact h.pw.sublist List.filter_sublist
def Lc.odv{n:K}{xs:N Lx}(h:Lc p k f n xs)(fu:Fs u):Di p (pl<|own p u xs) u:=by refine Di.prz fu (λy c=>by obtain⟨z,_,rfl⟩:=xas.1 c;exact Fs.ci _) (xez.2 h.pcop) λy c=> ?_;obtain⟨z,d,rfl⟩:=xas.1 c;exact(bT.1 d).2
def E8{n:K}{xs:N Lx}(h:Lc p k f n xs)(u:Pz):∀x∈own p u xs,Up p k x.1 x.2/\Qy p x.2/\X x.2<=66:=λx c=>h.el x (bT.1 c).1
def Lc.loc{n:K}{xs:N Lx}(h:Lc p k f n xs)(c:Tp u a)(hv:Tp v b)(e:f=u*v):Cg p u (Q (u a)*pl (own p u xs))/\Mn (pl<|own p u xs) a:=by
 have⟨t,F⟩:=zw h.hp;have fu:=c.fs;have o:=hv.fs;have w:a+b=n:=by have:=c.mul hv;rw[<-e]at this;exact this.uniq h.tp
 have y:f n=u a*v b:=by rw[<-w,e,K8 c.2 hv.2]
 have z:SQ p u xs=own p v xs:=h.oth_own fu o (b:=a+1) (λj G=>c.2 j W) (by have:=h.nb;lia) e;have⟨α,i,h1⟩:=h.odv fu;have⟨β,l,A⟩:=h.odv o;have⟨d0,hi⟩:=zfU h.el;have r:=(zbw p u xs).2;rw[z]at r;have B:Cg p ((α*β-Q (f n))*pl xs) (Q 0):=by rw[ke];refine Cg.iff_sub.1<|Cg.trans ?_ h.lcp;rw[e];refine Cg.trans (Cg.of ?_) (h1.mul A).symm;rw[r,zd α,zd α,zE (pl<|own p u xs) β]
 have C:=hi.zero t ((i.mul l).subt<|Fs.pc _) λj _=>by rw[B j,zO,xap]
 have hc:¬p∣f n:=λhd=>h.lc<|xax hd;have⟨x,D⟩:=TP h.hp i l (Cg.iff_sub.2 C) hc;have m:Cg p u (Q x*pl (own p u xs)):=h1.trans<|D.mul Cg.rfl;have⟨d,hd⟩:=zfU<|E8 h u;have s:¬p∣u a:=λhd=>hc (by rw[y];exact xbu hd<|xbY _ _);have t1:=m a;have t2:=m d;rw[zU]at t1 t2;rw[hd.1,xcQ]at t2;have E:a=d:=by by_cases c1:a<d;exfalso;rw[c.2 d c1,xap]at t2;refine s<|xaF ?_;rw[t1,xcd,<-t2,xba,xap];by_cases c2:d<a;exfalso;rw[hd.2 a c2,xaA,xap]at t1;exact s<|xaF t1;lia
 subst E;refine⟨m.trans<|Cg.mul (λj=> ?_) Cg.rfl,hd⟩;unfold Q;split;exact t2.symm;rfl
theorem Lc.up{n:K}{xs:N Lx}(h:Lc p k f n xs)(i:Tp u a)(hv:Tp v b)(e:f=u*v):Cg (p^k) u (Q (u a)*pu (own p u xs)):=by
 have⟨R,p2⟩:=zw h.hp;have fu:=i.fs;have s:=hv.fs;have T:a+b=n:=by have:=i.mul hv;rw[<-e]at this;exact this.uniq h.tp
 have t:f n=u a*v b:=by rw[<-T,e,K8 i.2 hv.2]
 have H:¬p∣f n:=λhd=>h.lc<|xax hd;have U:u a%p≠0:=λhd=>H (by rw[t];exact xbu (xaF hd)<|xbY _ _);have ht:v b%p≠0:=λhd=>H (by rw[t];exact xbu (xaF hd)<|xcJ _ _);have V:SQ p u xs=own p v xs:=h.oth_own fu s (b:=a+1) (λj m=>i.2 j W) (by have:=h.nb;lia) e;have⟨l1,m1⟩:=h.loc i hv e;have⟨Y,m2⟩:=h.loc hv i (by rw[e,zk]);have⟨w,o⟩:=pS h.hp U k;have⟨z,L⟩:=pS h.hp ht k;have C:=kN (p:=p) h.k1;have one:∀{M c d:J},M∣c*d-1->Cg M (Q c*Q d) (Q 1):=λ{M c d} hd j=>by
  rw[jx];unfold Q;split;exact xaL.2<|xax hd;rfl
 have hA:∃A:Pz,Mn A a/\Fs A/\Cg (p^k) A (Q w*u):=by refine⟨λj=>if j=a then 1 else w*u j,⟨S O,λj m=> ?_⟩,⟨a+1,λj m=> ?_⟩,λj=> ?_⟩;show(if j=a then(1:J)else w*u j)=0;rw[zD,i.2 j m,xaA];show(if j=a then(1:J)else w*u j)=0;rw[zD,i.2 j W,xaA];show(if j=a then(1:J)else w*u j)%_=_;rw[zU];by_cases c:j=a;rw[S c,c];exact(xaL.2<|xax o).symm;rw[ir c]
 have⟨A,D,fA,E⟩:=hA;have⟨l,F⟩:=zqI<|E8 h u;have G:=Ou<|E8 h u;have hB:=Ou<|E8 h v;have r:Cg p A (pl<|own p u xs):=by refine(E.down C).trans<|(Cg.rfl.mul l1).trans ?_;rw[<-zd];exact(Cg.mul (one<|xbu C o) Cg.rfl).trans<|Cg.of<|zC _
 have cv:Cg p (Q z*v) (pl<|own p v xs):=by refine(Cg.rfl.mul Y).trans ?_;rw[<-zd];exact(Cg.mul (one<|xbu C L) Cg.rfl).trans<|Cg.of<|zC _
 have mu:Mn (pu<|own p u xs) a:=by
  have t1:=(G.trans r.symm) a;have t2:=(G.trans r.symm) l;rw[D.1]at t1;rw[F.1]at t2;have P:(1:J)%p=1:=xaH mD W;have:l=a:=by
   by_cases c1:l<a;rw[F.2 a c1,xap,P]at t1;cases t1
   by_cases c2:a<l;rw[D.2 l c2,xap,P]at t2;cases t2
   lia
  rw[<-this];exact F
 have hn:kn p (pl<|own p u xs) (pl<|own p v xs):=by
  have:=HQ (p:=p) (A:=(own p u xs).map (·.2)) (B:=(own p v xs).map (·.2)) λc hc d hd=>by
   obtain⟨x,hx,rfl⟩:=xas.1 hc;obtain⟨y,hy,rfl⟩:=xas.1 hd;have hi:=bT.1 hx;have hp:=bT.1 hy;have⟨_,i1,i2⟩:=h.el x hi.1;have⟨_,i3,i4⟩:=h.el y hp.1;refine i1.cop h.hp i3 W W λee=> ?_;have:=(h.or fu s (b:=a+1) (λj m=>i.2 j W) (by have:=h.nb;lia) e hi.1).2;exact this ⟨hi.2,by rw[ee];exact hp.2⟩
  rw[xdg,xdg]at this;exact this
 have hl:Cg (p^k) (A*(Q z*v)) (pu (own p u xs)*pu (own p v xs)):=by
  have e1:=(zbw p u xs).1;rw[V]at e1;rw[<-e1];refine(E.mul Cg.rfl).trans ?_;have e2:Q w*u*(Q z*v)=Q w*(Q z*f):=by rw[e,zd,zE u (Q z) v]
  rw[e2];refine(Cg.mul Cg.rfl<|Cg.mul Cg.rfl h.cg).trans ?_;have e3:Q w*(Q z*(Q (f n)*pu xs))=(Q w*Q (u a))*((Q z*Q (v b))*pu xs):=by rw[t,<-zd,<-zd,<-zd,jx,jx,jx,jx,jx];congr 2;grind
  rw[e3];exact(Cg.mul (one o)<|(Cg.mul (one L) Cg.rfl).trans<|Cg.of<|zC _).trans<|Cg.of<|zC _
 have⟨r1,_⟩:=Sp R D mu fA (zl1 _) ((Fs.pc z).mul s) (zl1 _) (hn.congr r.symm cv.symm) (r.trans G.symm) (cv.trans hB.symm) k hl;refine Cg.trans ?_<|Cg.rfl.mul r1;refine Cg.trans ?_<|Cg.rfl.mul E.symm;rw[<-zd];refine Cg.symm<|(Cg.mul (one (d:=w) ?_) Cg.rfl).trans<|Cg.of<|zC _;rw[xbJ];exact o
def Lc.step{n:K}{xs:N Lx}(h:Lc p k f n xs)(c:Tp g a)(d:Tp q b)(m:0<g a)(e:f=q*g):Lc p k q b (SQ p g xs):=by
 have i:f=g*q:=by rw[e,zk]
 have o:a+b=n:=by have:=c.mul d;rw[<-i]at this;exact this.uniq h.tp
 have l:f n=g a*q b:=by rw[<-o,i,K8 c.2 d.2]
 have r:=h.oth_own c.fs d.fs (b:=a+1) (λj s=>c.2 j W) (by have:=h.nb;lia) i;have hc:=h.ps;rw[r];refine⟨h.hp,h.k1,E8 h q,h.pcop,d,by have:=h.nb;lia,?_,λhd=> ?_,?_,h.up d c e⟩;rw[l]at hc;exact Int.pos_of_mul_pos_right hc m;exact h.lc<|by rw[l];exact xax<|xbu (xaF hd)<|xcJ _ _
 have:=h.pm;rw[e]at this;exact this.left
def Lc.pick{n:K}{xs S:N Lx}(h:Lc p k f n xs)(o:∀x∈S,x∈xs)(G:Tp g a)(V:Tp q b)(e:f=g*q){γ:J}(hc:Cg p (Q γ*g) (Q (f n)*pl S)){x:Lx}(r:x∈xs):Di p (C x.2) g↔x∈S:=by
 have⟨s,Y⟩:=zw h.hp;have D:¬p∣f n:=λhd=>h.lc<|xax hd;have l:=λy i=>h.el y<|o y i;have⟨d,hd⟩:=zfU l;have m:¬p∣γ:=λhi=>D (by have t:=hc d;rw[zU,zU,hd.1,xcQ]at t;refine xaF ?_;rw[<-t];exact xax<|xbu hi<|xbY _ _)
 have⟨_,i1,i2⟩:=h.el x r;have j:∀{c:J}{y:Pz},¬p∣c->Fs y->Di p (C x.2) (Q c*y)->Di p (C x.2) y:=λ{c y} hc H hd=>by
  rcases i1.or' h.hp W (f:=Q c) (n:=1) (λk hk=>by unfold Q;rw[zD]) mD with h1|h1
  exact wS (i1.const s h1) hc;exact Di.euclid H h1 hd
 constructor
 intro h1;have L:Di p (C x.2) (pl S):=j D (zqM S)<|(h1.mul (Q γ)<|Fs.pc γ).cg hc;have M:=i1.mem h.hp (us:=S.map (·.2)) W (λw P=>by
  obtain⟨y,i,rfl⟩:=xas.1 P;have⟨_,R,j2⟩:=l y i;exact⟨R,W⟩) (by rw[xdg];exact L)
 have⟨y,i,T⟩:=xas.1 M;have:x=y:=by
  by_cases ne:x=y;exact ne;exfalso;have JO:=h.pw;have E:kn p (C x.2) (C y.2):=by
   have⟨A,B,U⟩:=xeo r;have F:=o y i;rw[U]at F JO;rw[xdn,xdk]at JO;obtain h4|h4:=xaa.1 F
   exact(JO.2.2 y h4 x<|IR).symm;obtain h5|h5:=xah.1 h4
   exact wS h5.symm ne;exact JO.2.1.1 y h5
  rw[T]at E;exact i1.self s E
 rw[this];exact i;intro h1;refine j m G.fs<|Di.cg ?_ hc.symm;exact(bE (λy i=>by obtain⟨z,_,rfl⟩:=xas.1 i;exact Fs.ci _)<|xbF (f:=λx:Lx=>(C x.2:Pz)) h1).mul _<|Fs.pc _
end
section
variable{f u v g q:Pz}{p:wn}{k N:wr}{xs:xS Lx}{a:xS wn}
theorem zpd{α:Type}{P Q R:α->v6}:∀{l:xS α},(∀x∈l,P x=wL->R x=wL)->(∀x∈l,Q x=wL->R x=wL)->(∀x∈l,¬(P x=wL/\Q x=wL))->X (l.filter P)+X (l.filter Q)<=X (l.filter R)
 |[],_,_,_=>So _
 |x::l,h1,c,d=>by
  have e:=zpd (λy b=>h1 y<|FS _ b) (λy b=>c y<|FS _ b) λy b=>d y<|FS _ b;grind
def Ls(p:J)(f:Pz)(xs:xS Lx)(c:K):Prop:=∀u v,Fs u->Fs v->f=u*v->¬nQ u->c<=X (own p u xs)
def VU(c:Nz f)(e:f=u*v):Nz u/\Nz v:=by have⟨k,b⟩:=c;rw[e]at b;exact⟨xak λhn=>b (yZ λi _=>by rw[Nz.not hn i,xba]),xak λhn=>b<|yZ λi _=>by rw[Nz.not hn _,xaA]⟩
def Ls.one{n:K}(h:Lc p k f n xs):Ls p f xs 1:=λu v fu i e j=>by
 have⟨l,nv⟩:=VU h.tp.nz e;have⟨a,c⟩:=Tp.ex fu l;have⟨b,m⟩:=Tp.ex i nv;have⟨_,d⟩:=h.loc c m e
 cases o:own p u xs with
 |nil=>
  exfalso;rw[o]at d;have h1:=d.1;refine j<|(nQ.tp c).2<|xak λh0=> ?_;rw[show pl [] a=0 from ir h0]at h1;cases h1
 |cons x r=>exact Nat.succ_le_succ<|xae _
def Ls.two{w:Pz}{n:K}(h:Lc p k f n xs)(fu:Fs u)(c:Fs v)(d:Fs w)(e:f=u*v*w):X (own p u xs)+X (own p v xs)<=X (own p (u*v) xs):=by
 classical
 have⟨n1,nw⟩:=VU h.tp.nz e;have⟨l,nv⟩:=VU n1 O;have⟨a,i⟩:=Tp.ex fu l;have⟨b,m⟩:=Tp.ex (c.mul d)<|Nz.mul c d nv nw;have hc:a+b=n:=by have:=i.mul m;rw[<-zd,<-e]at this;exact this.uniq h.tp
 refine zpd (λx _ h1=> ?_) (λx _ h1=> ?_) λx o ⟨h1,r⟩=> ?_;refine Wd ?_;rw[zk];exact(Wr h1).mul v c;exact Wd<|(Wr h1).mul u fu;refine(h.or fu (c.mul d) (b:=a+1) (λj s=>i.2 j W) (by have:=h.nb;lia) (by rw[e,zd]) o).2 ⟨Wr h1,?_⟩;rw[zk];exact(Wr r).mul w d
def Ls.ir{n c:K}(h:Lc p k f n xs)(hl:Ls p f xs c)(hc:1<=c)(i:Fs g)(fq:Fs q)(e:f=g*q)(pm:Pm g)(j:¬nQ g)(hn:X (own p g xs)<2*c):Ir g:=by refine⟨i,pm,j,λu v fu b l=>xak λd=> ?_⟩;have m:=λh=>d (.inl h);have cv:=λh=>d (.inr h);subst l;have h1:=hl u (v*q) fu (b.mul fq) (by rw[e,zd]) m;have o:=hl v (u*q) b (fu.mul fq) (by rw[e,zd,zE]) cv;have r:=Ls.two h fu b fq e;lia
def Ls.step{n c:K}(h:Lc p k f n xs)(hl:Ls p f xs c)(d:Fs g)(fq:Fs q)(e:f=q*g):Ls p q (SQ p g xs) c:=λu v fu i m o=>by
 classical
 subst m;have h1:=hl u (v*g) fu (i.mul d) (by rw[e,zd]) o;have⟨n1,r⟩:=VU h.tp.nz e;have⟨a,l⟩:=Tp.ex d r;have⟨b,s⟩:=Tp.ex fq n1;have hc:b+a=n:=by have:=s.mul l;rw[<-e]at this;exact this.uniq h.tp
 have:own p u (SQ p g xs)=own p u xs:=by unfold own SQ;rw[List.filter_filter];refine List.filter_congr λx t=> ?_;by_cases hd:Di p (C x.2) u;have w:=(h.or d fq (b:=a+1) (λj z=>l.2 j W) (by have:=h.nb;lia) (by rw[e,zk]) t).2;rw[Wd hd,Wl λy=>w ⟨y,by rw[zk];exact hd.mul v i⟩];rfl;simp_all
 simp_all
structure Bq(N c:K)(a:xS J):Prop where
 ln:a.length=c
 lo:∀i,i<c->(i:J)<=C a i
 hi:∀i,i<c->C a i+c<=N+i
 st:∀i,i+1<c->C a i<C a (i+1)
def Lt(f g:K->J)(c:K):Prop:=∃j,j<c/\f j<g j/\∀k,k<j->f k=g k
def Dc(f g:K->J)(c:K):(∀k,k<c->f k=g k)\/Lt f g c\/Lt g f c:=by by_cases h:∃k,k<c/\f k≠g k;have⟨j,⟨d,m⟩,i⟩:=zmk h;have e:=λk b=>xak λhn=>i k b ⟨W,hn⟩;by_cases l:f j<g j;exact .inr (.inl ⟨j,d,l,e⟩);exact .inr (.inr ⟨j,d,W,λk b=>(e k b).symm⟩);simp_all
theorem Lt.asy{f g:K->J}{c:K}(h:Lt f g c)(b:Lt g f c):KW:=by have⟨i,i1,i2,d⟩:=h;have⟨j,l,m,n⟩:=b;by_cases e:i<j;simp_all;grind
def nxA(c k:K)(a:xS J):xS J:=zl c λi=>if i<k then C a i else C a k+1+((i:J)-k)
theorem Bq.up{N c:K}{T:xS J}(b:Bq N c T){i:K}:∀d,i+d<c->C T i+d<=C T (i+d)
 |0,_=>by rw[xbM];lia
 |d+1,h=>by
  have h1:=b.up (i:=i) d W;have e:=b.st (i+d) W;grind
def Uh{c:K}{i:K}(h:i<c:=by lia):C (nxA c k a) i=if i<k then C a i else C a k+1+((i:J)-k):=Zo h
theorem Bq.next{c:K}(h:Bq N c a)(b:k<c)(h1:C a k+c<N+k):Bq N c (nxA c k a):=by refine⟨ye _ _,λi hi=> ?_,λi hi=> ?_,λi hi=> ?_⟩;rw[Uh hi];have:=h.lo i hi;have:=h.lo k b;lia;rw[Uh hi];have:=h.hi i hi;lia;rw[Uh,Uh hi];by_cases e:i+1<k;rw[yg,S e];exact h.st i hi;by_cases d:i<k;have:=h.st i hi;grind;lia
def zpI{c:K}{T:xS J}(l:Bq N c T)(r:k<c)(n:∀i,k<i->i<c->C a i+c=N+i)(h:Lt (C a) (C T) c):(∀i,i<c->C (nxA c k a) i=C T i)\/Lt (C<|nxA c k a) (C T) c:=by
 have⟨j,b,o,m⟩:=h;have hc:j<=k:=by by_cases e:j<=k;exact e;have:=n j W b;have:=l.hi j b;lia
 by_cases e:j<k;exact .inr ⟨j,b,by rw[Uh b,S e];exact o,λi hi=>by rw[Uh,yg];exact m i hi⟩;obtain rfl:j=k:=W
 rcases Dc (C<|nxA c j a) (C T) c with h1|h1|h1
 simp_all;simp_all;exfalso;have⟨i,i1,i2,s⟩:=h1;rw[Uh i1]at i2;by_cases d:i<j;rw[S d,m i d]at i2;lia;rw[ir d]at i2;have:=l.up (i:=j) (i-j) W;rw[(W:j+(i-j)=i)]at this;lia
def TH(N:K)(f:K->J):K->K
 |0=>0
 |n+1=>TH N f n*(N+1)+(N-(f n).toNat)
def zhZ(N:K)(f:K->J):∀n,TH N f n+1<=(N+1)^n
 |0=>So _
 |n+1=>by
  have b:=xaj (N+1)<|zhZ N f n;rw[xbi]at b;show TH N f n*(N+1)+(N-(f n).toNat)+1<=(N+1)^n*(N+1);lia
def ziH{N:K}{f g:K->J}:∀n,(∀k,k<n->f k=g k)->TH N f n=TH N g n
 |0,_=>rfl
 |n+1,h=>by
  show TH N f n*(N+1)+_=TH N g n*(N+1)+_;rw[ziH n λk b=>h k W,h n W]
def ziF{N:K}{f g:K->J}{j:K}(h0:∀k,k<j->f k=g k)(h1:0<=g j)(b:f j=g j+1)(c:f j<=N):∀d,TH N f (j+1+d)+1<=TH N g (j+1+d)
 |0=>by
  show TH N f j*(N+1)+_+1<=TH N g j*(N+1)+_;rw[ziH j h0];lia
 |d+1=>by
  have e:=xaj (N+1)<|ziF h0 h1 b c d;rw[xbi]at e;show TH N f (j+1+d)*(N+1)+(N-(f<|j+1+d).toNat)+1<=TH N g (j+1+d)*(N+1)+(N-(g<|j+1+d).toNat);lia
end
end Go.Proofs.YtoegnnjcmlghhaaGreat
