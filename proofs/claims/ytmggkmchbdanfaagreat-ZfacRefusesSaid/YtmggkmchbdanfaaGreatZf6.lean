/- What a proof needs: rules of walking, mirrors of functions and their plain laws. No condition. -/
import Derived.Test.YtmggkmchbdanfaaGreatZf5
set_option linter.all false
namespace Go.Proofs.YtmggkmchbdanfaaGreat
open Bool renaming true->I,false->wL
open Go renaming Func->QR
open Go.Proofs.YtmggkmchbdanfaaGreat renaming cf->H,Zr->M,bd->G,za->Y,ci->U,nm->C,cC->B,pc->D,ze->Q,zf->E,nv->A
open List renaming length->X
open Nat renaming beq->F
open Option renaming some->Z
open _root_ renaming rfl->O,List->N,Int->J,Nat->K,Option->V,List->xS,Int->wl,Nat->wr,trivial->wR,absurd->wS,Bool->v6,funext->qR,congrArg->kW,if_true->uP,if_false->uS,decide_eq_false->uT,decide_eq_true->Z0,Unit->Z2,True->Z5,of_decide_eq_true->Wf,congrFun->Wr,False->V3,if_pos->aM
open Bool renaming false_eq_true->xar
open Classical renaming byContradiction->xai,choose_spec->xfC,not_forall->xfI
open Int renaming add_zero->xbF,dvd_mul_left->xcL,dvd_mul_right->xcl,dvd_of_emod_eq_zero->xaF,dvd_refl->xet,dvd_sub->xdp,dvd_trans->xbx,dvd_zero->xdy,ediv_mul_cancel->xeW,emod_add_mul_ediv->xfB,emod_emod->xaE,emod_emod_of_dvd->xcC,emod_eq_emod_iff_emod_sub_eq_zero->xaI,emod_eq_of_lt->xaD,emod_eq_zero_of_dvd->xav,emod_lt_of_pos->xdD,emod_nonneg->xcI,eq_ofNat_of_zero_le->xaz,le_refl->xft,mul_assoc->xct,mul_comm->xbg,mul_dvd_mul->xfP,mul_emod->xbc,mul_eq_zero->xeK,mul_le_mul_of_nonneg_left->xaU,mul_ne_zero->xeq,mul_nonneg->xcz,mul_one->xck,mul_zero->xaC,natAbs_dvd_natAbs->xcp,natAbs_ediv_le_natAbs->xcc,natAbs_mul->xcK,natAbs_natCast->xbb,natCast_add->xff,natCast_dvd_natCast->xdN,one_mul->xcv,pow_succ->xbr,pow_zero->xbI,sub_self->xdP,sub_zero->xcB,tdiv->xcw,tdiv_eq_ediv_of_nonneg->xcO,tmod->xbE,toNat_natCast->xaN,toNat_of_nonneg->xcZ,zero_add->xco,zero_ediv->xef,zero_emod->xah,zero_mul->xaP
open List renaming append_assoc->xao,append_nil->xbB,append_of_mem->xeg,cons_append->xbL,drop->xdI,ext_getElem->xeQ,ext_getElem?->xcy,filter_cons->xfF,filter_cons_of_neg->xfi,filter_cons_of_pos->xfh,getD_eq_getElem?_getD->xaa,getElem?_append_left->xbj,getElem?_append_right->xbz,getElem?_drop->xfa,getElem?_eq_getElem->xak,getElem?_map->xcu,getElem_mem->xcd,getElem_of_mem->xcW,length->xaH,length_append->xaq,length_cons->xaw,length_drop->xcf,length_eq_zero_iff->xbv,length_filter_le->xfD,length_map->xaZ,length_nil->xbR,length_pos_of_mem->xfl,length_range->xep,length_set->xbt,length_take->xas,map_append->xba,map_congr_left->xci,map_cons->xbU,map_map->xcP,mem_append->So,mem_append_left->xdL,mem_append_right->xeh,mem_cons->xag,mem_cons_of_mem->UV,mem_cons_self->FS,mem_filter->xbY,mem_iff_getElem->xdK,mem_map->xap,mem_map_of_mem->xbK,mem_of_mem_drop->xfH,mem_range->xbd,mem_singleton->xad,nodup_cons->xfg,pairwise_append->xdi,pairwise_cons->xdC,pairwise_iff_forall_sublist->xdl,pairwise_iff_getElem->xcT,pairwise_map->xeN,perm_middle->xcg,range->xaY,range_succ->xdv,replicate->Nm,take->xdu,take_of_length_le->xaW
open List.Perm renaming append_left->xbo,refl->xdr
open Nat renaming add_assoc->xcM,add_comm->xdO,add_mul->xaX,add_sub_cancel->xec,add_zero->xbO,div_div_eq_div_mul->xaG,div_eq_of_lt->xbi,div_le_self->xcE,div_lt_iff_lt_mul->xaS,div_one->xdU,eq_of_beq_eq_true->xdt,eq_zero_or_pos->xbV,gcd->xdX,gcd_comm->xee,le_add_right->xbw,le_div_iff_mul_le->xcn,le_max_left->xdV,le_max_right->xdG,le_mul_of_pos_left->xdm,le_mul_of_pos_right->xcm,le_of_not_lt->xbs,le_refl->IR,le_trans->xae,lt_of_le_of_lt->xaK,lt_of_lt_of_le->xaj,lt_of_not_le->xdk,lt_succ_self->xdj,min_eq_left->xcF,mod_eq_of_lt->xam,mod_lt->xaM,mul_add->xcj,mul_comm->xaL,mul_le_mul->xbM,mul_le_mul_left->xaA,mul_le_mul_right->xan,mul_one->xdn,mul_zero->xcQ,not_lt_zero->xbC,one_mul->xbN,pos_of_ne_zero->xcD,pow_add->xbu,pow_le_pow_right->xau,pow_lt_pow_right->xdJ,pow_mul->xbX,pow_pos->xaV,pow_succ->xbq,pow_zero->xeJ,strongRecOn->xdc,sub_self->xdb,zero_add->xaJ,zero_le->xac,zero_mul->xcx
open Option renaming getD_some->xeA
open Prod renaming ext->xfj
section
variable{N fu:wr}{p:wl}{g h r0 s0 t0 r1 s1 t1 q:xS wl}
theorem zhk(p:J)(a b:xS J):vy p a b (-1)=vy p a b (p-1):=by
 refine eG λk _=> ?_;refine xaI.2<|xav ⟨-U b k,?_⟩;grind
def S5.next(a:S5 p g h r0 s0 t0 r1 s1 t1 N)(j:2<=p)(l:Fp p q)(hc:X q<=N)(c:Cg p (U r0) (U q*U r1+U (vy p r0 (yH p q r1)<|p-1)))(hd:X (vy p r0 (yH p q r1)<|p-1)<X r1):
 S5 p g h r1 s1 t1 (vy p r0 (yH p q r1)<|p-1) (vy p s0 (yH p q s1)<|p-1) (vy p t0 (yH p q t1)<|p-1) N:=by
 have m:=a.l0;have e:=a.l1;have n:=a.b0;have o:=a.b1;have hi:=a.b2;have r:=a.b3;refine⟨a.f1,a.g1,a.h1,ZD W _ _ _,ZD W _ _ _,ZD W _ _ _,a.c1,?_,?_,e,W,?_,?_,?_,?_⟩
 ·refine(Zz _ _).trans<|(a.c0.sub<|(qT p q r1).trans<|Cg.rfl.mul a.c1).trans ?_;refine Cg.trans (Cg.of ?_)<|Cg.symm (((Zz s0<|yH p q s1).trans<|Cg.rfl.sub<|qT p q s1).mul (Cg.rfl (f:=U g))|>.add (((Zz t0<|yH p q t1).trans<|Cg.rfl.sub<|qT p q t1).mul<|Cg.rfl (f:=U h)));simp only[xg,ym,vL,qw,zd];funext k;simp only[zI,yY];lia
 ·have⟨A,B,C,D,d,z2,z3,z4,d1,d2⟩:=a.dv;refine⟨A*U q+B,A,C*U q+D,C,(d.mul<|Fs.ci q).add z2,d,(z3.mul<|Fs.ci q).add z4,z3,?_,?_⟩
  ·refine d1.trans<|((Cg.rfl (f:=A)).mul c|>.add Cg.rfl).trans<|Cg.of ?_;simp only[xg,ym,zd];funext k;simp only[zI];lia
  ·refine d2.trans<|((Cg.rfl (f:=C)).mul c|>.add Cg.rfl).trans<|Cg.of ?_;simp only[xg,ym,zd];funext k;simp only[zI];lia
 ·have:N*(N+1-X r1)<=N*(N+1-X (vy p r0 (yH p q r1)<|p-1)):=xaA _ W;lia
 ·have:N*(N+1-X r1)<=N*(N+1-X (vy p r0 (yH p q r1)<|p-1)):=xaA _ W;lia
 ·have h1:=gX p s0 (yH p q s1)<|p-1;have i:=wZ p q s1;have b:N*(N+1-X r1+1)<=N*(N+1-X (vy p r0 (yH p q r1)<|p-1)):=xaA _ W;rw[xcj,xdn]at b;lia
 ·have h1:=gX p t0 (yH p q t1)<|p-1;have i:=wZ p q t1;have b:N*(N+1-X r1+1)<=N*(N+1-X (vy p r0 (yH p q r1)<|p-1)):=xaA _ W;rw[xcj,xdn]at b;lia
def R6(hp:wh p=I)(c:Fp p r0)(hc:Fp p s0)(hd:Fp p t0)(d:Fp p r1)(e:Fp p s1)(f:Fp p t1)(j:Fp p q)(v:X q<=300)(l1:X r0<=90000)(k:X s0<=90000)(l:X t0<=90000)(m:X r1<=90000)(o:X s1<=90000)(r:X t1<=90000)(a:3000000<=fu):
 zg (qx fu [r0,s0,t0] [r1,s1,t1] q) fu (p,[],((0:K):J))=Z (p,[vy p r0 (yH p q r1)<|p-1,vy p s0 (yH p q s1)<|p-1,vy p t0 (yH p q t1)<|p-1]):=by
 have⟨w,z⟩:=zo hp;have⟨n,hn⟩:∃n,fu=n+4:=⟨fu-4,W⟩
 have step:∀(L:J×xS (xS J)×J->V (J×xS (xS J))) (i:K) (x y:xS J) (ts:xS (xS J)),i<3->X ts=i->[r0,s0,t0].getD i []=x->[r1,s1,t1].getD i []=y->Fp p x->Fp p y->X x<=90000->X y<=90000->
  qx fu [r0,s0,t0] [r1,s1,t1] q L (p,ts,(i:J))=L (p,ts++[vy p x (yH p q y)<|p-1],((i+1:K):J)):=λL i x y ts hi A s t u hl B C=>by
  unfold qx;simp only;have f4:=wZ p q y;rw[zP,zp (n:=[r0,s0,t0].length) hi,Q,s,zp (n:=[r1,s1,t1].length) hi,Q,t,Y<|ZH hp j hl W W a,Y<|C1 hp u (w5 W _ _) W W W a,zhk,xr (by simp;lia),Q,zb];rfl
 have b:zg (qx fu [r0,s0,t0] [r1,s1,t1] q) (n+4) (p,[],((0:K):J))=Z (p,[vy p r0 (yH p q r1)<|p-1,vy p s0 (yH p q s1)<|p-1,vy p t0 (yH p q t1)<|p-1]):=by
  rw[wA,step _ 0 r0 r1 _ iI O O O c d l1 m,wA,step _ 1 s0 s1 _ iI O O O hc e k o,wA,step _ 2 t0 t1 _ iI O O O hd f l r,wA];rfl
 rw[<-hn]at b;exact b
def S5.step06(a:S5 p g h r0 s0 t0 r1 s1 t1 N)(hp:wh p=I)(f:N<=290)(i:0<X r1)(c:3000000<=fu):
 ∃q r r2 d t2,Zw fu r0 r1 p=Z (q,r,0)/\zg (qx fu [r0,s0,t0] [r1,s1,t1] q) fu (p,[],((0:K):J))=Z (p,[r2,d,t2])/\X r2<X r1/\S5 p g h r1 s1 t1 r2 d t2 N:=by
 have⟨j,m⟩:=zo hp;have n:1+N*(N+1-X r1)<=90000:=by
  have:N*(N+1-X r1)<=290*290:=xbM f W;lia
 have o:=a.l0;have hi:=a.l1;have s:=a.b0;have t:=a.b1;have hl:=a.b2;have u:=a.b3;have⟨q,r,e1,e,l,hc,hd,hn⟩:=dD (fu:=fu) hp a.f0 a.f1 i W W c;have b:vy p r0 (yH p q r1) (p-1)=r:=by
  refine Fp.ext (ZD W _ _ _) l<|(Zz r0<|yH p q r1).trans ?_;refine(hc.sub<|qT p q r1).trans<|Cg.of ?_;funext k;simp only[zI,yY];lia
 exact⟨q,r,_,_,_,e1,R6 hp a.f0 a.g0 a.h0 a.f1 a.g1 a.h1 e W W W W W W W c,by rw[b];exact hd,a.next j e W (by rw[b];exact hc)<|by rw[b];exact hd⟩
def Tj(hp:wh p=I)(e:N<=290)(i:3000000<=fu)(a:S5 p g h r0 s0 t0 r1 s1 t1 N):
 ∃d s t,zg (ZM fu p) fu ([r0,s0,t0],[r1,s1,t1])=Z [d,s,t]/\BzR p g h d s t (1+N*(N+1)):=by
 obtain⟨r,e1,d,s,t,rfl,j⟩:=yr (f:=ZM fu p) (λx:xS (xS J)×xS (xS J)=>∃r0 s0 t0 r1 s1 t1,x=([r0,s0,t0],[r1,s1,t1])/\S5 p g h r0 s0 t0 r1 s1 t1 N) (λx=>X (x.2.getD 0 [])) (λr=>∃d s t,r=[d,s,t]/\BzR p g h d s t (1+N*(N+1))) (by
  rintro x L ⟨r0,s0,t0,r1,s1,t1,rfl,a⟩ l;unfold ZM;simp only;rw[show(0:J)=((0:K):J)from O,zp iP,Q];show∃r,(if((0:K):J)<(X r1:J)then _ else _)=Z r/\_;by_cases h0:0<X r1
  ·have⟨q,r,r2,u,t2,m,n,hc,hd⟩:=a.step06 (fu:=fu) hp e h0 i;rw[zP,zp iP,Q,zp iP,Q];show∃r,G (Zw fu r0 r1 p) _=Z r/\_;rw[Y m];simp only;rw[Y n];exact l _ ⟨_,_,_,_,_,_,O,hd⟩ hc
  ·rw[zA];have b:U r1=pc 0:=qR λk=>by rw[zU W,zH]
   have c:1+N*(N+1-X r1)<=1+N*(N+1):=by
    have:N*(N+1-X r1)<=N*(N+1):=xaA _ W;lia
   have v:=a.l0;have hi:N*1<=N*(N+1):=xaA _ W;refine⟨_,O,r0,s0,t0,O,a.f0,a.g0,a.h0,a.c0,?_,W,xae a.b0 c,xae a.b1 c⟩;have⟨A,B,C,D,o,z2,z3,z4,d1,d2⟩:=a.dv;rw[b,zk B,zQ]at d1;rw[b,zk D,zQ]at d2;refine⟨A,C,o,z3,d1.trans<|Cg.of ?_,d2.trans<|Cg.of ?_⟩<;>funext k<;>rw[zI,zH,xbF]) fu ([r0,s0,t0],[r1,s1,t1]) ⟨_,_,_,_,_,_,O,a⟩ (by have:=a.l1;show X r1<fu;lia)
 exact⟨d,s,t,e1,j⟩
def Mv:U ([]:xS J)=D 0:=qR λk=>by rw[zU<|xac _,zH]
theorem rM(hp:wh p=I)(v:Fp p g)(w:Fp p h)(hi:X g<=290)(T:X h<=290)(o:3000000<=fu):
 ∃d s t,XW fu g h p=Z (d,s,t,0)/\BzR p g h d s t (2+max (X g) (X h)*(max (X g) (X h)+1))/\(X d=0\/U d (X d-1)=1):=by
 have⟨z,V⟩:=zo hp;unfold XW;rw[Y<|wO hp,iq O,Y<|Xl hp v,Y<|Xl hp w];have z0:=Mv;have c:∀f:Pz,f+D 0=f:=λf=>qR λk=>by rw[zI,zH,xbF]
 have e:∀f:Pz,D 0+f=f:=λf=>qR λk=>by rw[zI,zH,xco]
 have B:S5 p g h g [1] [] h [] [1] (max (X g) (X h)):=by
  refine⟨v,uB,Ud,w,Ud,uB,Cg.of ?_,Cg.of ?_,⟨D 1,D 0,D 0,D 1,Fs.pc 1,Fs.pc 0,Fs.pc 0,Fs.pc 1,Cg.of ?_,Cg.of ?_⟩,xdV _ _,xdG _ _,xbw _ _,xac _,xac _,xbw _ _⟩
  ·rw[wX,z0,zC,zQ,c]
  ·rw[wX,z0,zC,zQ,e]
  ·rw[zC,zQ,c]
  ·rw[zC,zQ,e]
 have⟨d,s,t,e1,b⟩:=Tj (fu:=fu) hp W o B;have hS:max (X g) (X h)*(max (X g) (X h)+1)<=290*291:=xbM W W;generalize max (X g) (X h)*(max (X g) (X h)+1)=S at*
 rw[Y e1,show(0:J)=((0:K):J)from O,zp iP,Q];show∃i j l,(if(X d:J)=((0:K):J)then _ else _)=_/\_;by_cases h0:0<X d
 ·have hk:=b.dl;have he:U d (X d-1)≠0:=by
   obtain h|h:=b.df.nl
   ·lia
   ·exact h
  have t1:=b.df.nn<|X d-1;have t2:=b.df.lt<|X d-1;have⟨x,H,L,M,y⟩:=YP (fu:=fu) hp (W:0<U d (X d-1)) t2 o;have r:∀{a:xS J},Fp p a->X a<=90000->xu fu a [x] p=Z (yH p a [x]):=λ{a} P hl=>ZH hp P (uB L M) W iP o;rw[zA,zp iP,Q,zp iP,Q];show∃i j l,E ((X d:J)-1) _=_/\_;rw[(W:(X d:J)-1=((X d-1:K):J)),zb];show∃i j l,zG ((X d-1:K):J) (X d) _=_/\_;rw[yj,Q];show∃i j l,G (vO fu (U d<|X d-1) p) _=_/\_;rw[Y H,zp iP,Q];show∃i j l,G (xu fu d [x] p) _=_/\_;rw[Y (r b.df<|xae b.dl W),show(1:J)=((1:K):J)from O,zp iP,Q];show∃i j l,G (xu fu s [x] p) _=_/\_;rw[Y (r b.sf<|xae b.sl W),show(2:J)=((2:K):J)from O,zp iP,Q];show∃i j l,G (xu fu t [x] p) _=_/\_;rw[Y<|r b.tf<|xae b.tl W];have n:∀a:xS J,Cg p (U<|yH p a [x]) (U a*D x):=λa=>by
   have:=qT p a [x];rw[wX]at this;exact this
  have hc:Cg p (D x*D (U d<|X d-1)) (D 1):=λk=>by
   rw[kH];unfold D;split
   ·rw[y];exact(xaD iI W).symm
   ·rfl
  have f1:=wZ p d [x];have f2:=wZ p s [x];have f3:=wZ p t [x];have hm:=b.sl;have hn:=b.tl;simp only[xaw,xbR]at f1 f2 f3;have R:=rY z b.df h0 y;refine⟨yH p d [x],yH p s [x],yH p t [x],O,⟨w5 W _ _,w5 W _ _,w5 W _ _,?_,?_,W,W,W⟩,.inr R.top⟩
  ·refine(n d).trans<|(b.cg.mul Cg.rfl).trans<|Cg.trans (Cg.of ?_)<|Cg.symm<|((n s).mul Cg.rfl).add<|(n t).mul Cg.rfl;simp only[xg,ym,zd,zk,zB]
  ·have⟨A,C,u,z3,d1,d2⟩:=b.dv;have m:∀F:Pz,Cg p (F*U d) (F*D (U d<|X d-1)*U (yH p d [x])):=λF=>by
    refine Cg.symm<|(Cg.rfl.mul<|n d).trans<|Cg.trans (Cg.of ?_)<|((Cg.rfl (f:=F*U d)).mul hc).trans<|Cg.of<|yf _;simp only[zd,zk,zB]
   exact⟨_,_,u.mul<|Fs.pc _,z3.mul<|Fs.pc _,d1.trans<|m A,d2.trans<|m C⟩
 ·rw[zP];have hd:U d=D 0:=qR λk=>by rw[zU W,zH]
  have⟨A,C,u,z3,d1,d2⟩:=b.dv;refine⟨[],[1],[],O,⟨Ud,uB,Ud,?_,⟨A,C,u,z3,?_,?_⟩,xac _,by simp;lia,xac _⟩,.inl O⟩
  ·rw[wX,Mv,zC,zQ,c];refine Cg.symm<|d1.trans<|Cg.of ?_;rw[hd,zk,zQ]
  ·rw[Mv,<-hd];exact d1
  ·rw[Mv,<-hd];exact d2
theorem Jv(hp:wh p=I)(a:Fp p g)(b:Fp p h)(c:X g<=290)(e:X h<=290)(f:3000000<=fu):
 ∃d s t,YZ fu g h p=Z (d,0)/\BzR p g h d s t (2+max (X g) (X h)*(max (X g) (X h)+1))/\(X d=0\/U d (X d-1)=1):=by grind [YZ,rM,Y]
theorem XN(hp:wh p=I)(a:Fp p g)(b:Fp p h)(c:X g<=290)(e:X h<=290)(f:3000000<=fu:=by lia):
 ∃d s t,kz fu g h p=Z (d,0)/\BzR p g h d s t (2+max (X g) (X h)*(max (X g) (X h)+1))/\(X d=0\/U d (X d-1)=1):=by grind [kz,uI,Y]
def pK{d s t:xS J}{S:K}(hp:2<=p)(a:BzR p g h d s t S)(hd:X d=0\/U d (X d-1)=1):X d=1↔qB p (U g) (U h):=by
 refine⟨λh1=>Mq a h1 (hd.resolve_left W),λhc=> ?_⟩;have⟨A,C,c,z2,d1,d2⟩:=a.dv;have⟨u,v,z3,z4,hc⟩:=hc;have b:Cg p ((u*A+v*C)*U d) (D 1):=by
  refine Cg.trans (Cg.of ?_)<|(((Cg.rfl).mul d1.symm).add<|(Cg.rfl).mul d2.symm).trans hc;rw[ym,zd,zd]
 have f:0<X d:=by
  refine xcD λe=> ?_;have h1:=b 0;rw[vK,xk λi hi=>by rw[zU W,xaC]]at h1;unfold D at h1;rw[xah,xaD iI W]at h1;cases h1
 exact CP hp ((z3.mul c).add<|z4.mul z2) f (hd.resolve_left W) b
end
section
variable{a:xS wl}{p:wl}{fu:wr}
def dvp(f:Pz):Pz:=λk=>((k+1:K):J)*f (k+1)
theorem QV(f g:Pz):dvp (f*g)=dvp f*g+f*dvp g:=by
 funext k;show((k+1:K):J)*(f*g) (k+1)=(dvp f*g) k+(f*dvp g) k;rw[vK,vK,vK,<-uR];have e:yp (k+1+1) (λi=>((k+1:K):J)*(f i*g (k+1-i)))=yp (k+1+1) (λi=>(i:J)*(f i*g (k+1-i)))+yp (k+1+1) (λi=>((k+1-i:K):J)*(f i*g (k+1-i))):=by
  rw[<-Xt];exact yu λi hi=>by grind
 rw[e];congr 1
 ·rw[Zc];show((0:K):J)*_+_=_;rw[show((0:K):J)=0 from O,xaP,xco];exact yu λi hi=>by
   show((i+1:K):J)*(f (i+1)*g (k+1-(i+1)))=((i+1:K):J)*f (i+1)*g (k-i);grind
 ·show yp (k+1) _+((k+1-(k+1):K):J)*_=_;rw[xdb,show((0:K):J)=0 from O,xaP,xbF];exact yu λi hi=>by
   show((k+1-i:K):J)*(f i*g (k+1-i))=f i*(((k-i+1:K):J)*g (k-i+1));grind
def Tc{m:J}{f g:Pz}(h:Cg m f g):Cg m (dvp f) (dvp g):=λk=>by
 show(((k+1:K):J)*f (k+1))%m=(((k+1:K):J)*g (k+1))%m;rw[xbc,h,<-xbc]
def znD(c:J):dvp (D c)=D 0:=qR λk=>by
 rw[zH];rfl
def drv(p:J)(a:N J):N J:=nl (X a)<|λk=>dvp (U a) k%p
def pS{k:K}(h:X a<=k+1:=by lia):dvp (U a) k=0:=by
 show((k+1:K):J)*U a (k+1)=0;rw[zU h,xaC]
def nL(p:J)(a:N J)(k:K):U (drv p a) k=dvp (U a) k%p:=Eo (λk b=>by rw[pS,xah]) k
def EG(p:J)(a:N J):Cg p (U<|drv p a) (dvp<|U a):=λk=>by rw[nL,xaE]
def gD(hp:0<p)(a:N J):Fp p (drv p a):=⟨λk=>by rw[nL];exact(yn hp).1,λk=>by rw[nL];exact(yn hp).2,Ak _ _⟩
def zmG(hp:0<p)(h:0<X a):X (drv p a)<X a:=by
 have:=(gD hp a).nl.le (n:=X a-1) λk b=>by rw[nL,pS,xah]
 lia
def zf8(p:J)(a:N J):X (drv p a)<=X a:=HY _ _
def ae(hp:wh p=I)(b:Fp p a)(hc:X a<=90000:=by lia)(e:3000000<=fu:=by lia):W5 fu a p=Z (drv p a,0):=by
 have⟨n,c⟩:=zo hp;unfold W5;have g:∀k:K,0<=((k:J)%p)*U a k/\((k:J)%p)*U a k<=4293001441:=λk=>by
  have d:=yn (a:=(k:J)) (p:=p);exact Zi c d.1 d.2 (b.nn k)<|b.lt k
 rw[Y<|uh hp,iq O,Y<|zO W c (b.rl c) W e,b.pm,Y (v:=zl (X a-1)<|λk=>(((k+1:K):J)%p)*U a (k+1))]
 ·have l:∀k,X a-1<=k->(((k+1:K):J)%p)*U a (k+1)=0:=λk o=>by rw[zU W,xaC]
  have d:Rl (zl (X a-1)<|λk=>(((k+1:K):J)%p)*U a (k+1)):=λk=>by
   rw[v8 l];have:=g<|k+1;exact⟨W,W⟩
  rw[Y<|zO W c d (by rw[zD];lia) e];congr 2;refine(cz W _).ext (gD W _) λk=> ?_;rw[si,v8 l,nL,xaE,xaE];show _=(((k+1:K):J)*U a (k+1))%p;rw[xbc,xaE,<-xbc]
 ·refine zw (λs:N J×J×N J=>∃i:K,i<=X a/\s=(zl (i-1)<|λk=>(((k+1:K):J)%p)*U a (k+1),(i:J),a)) (λs=>X a-s.2.1.toNat) _ ?_ _ _ ⟨0,xac _,O⟩ (by show X a-0<fu;lia);rintro s L ⟨i,hi,rfl⟩ m;unfold cG;simp only;by_cases h:i<X a
  ·rw[zP,Y O];simp only[uP];rw[zp h,Q,ZZ];by_cases h0:0<i
   ·have hd:=g i;obtain⟨j,rfl⟩:∃j,i=j+1:=⟨i-1,W⟩;rw[zP,yL,Q,jQ,zb,xr (by rw[zD];simp;lia),Q,(W:j+1-1=j),eZ (f:=λk=>(((k+1:K):J)%p)*U a (k+1)) O,zb];exact m _ ⟨j+1+1,W,O⟩ (by show X a-(((j+1:K):J)+1).toNat<X a-((j+1:K):J).toNat;lia)
   ·obtain rfl:i=0:=W
    rw[zA,zb];exact m _ ⟨1,W,O⟩ (by show X a-(((0:K):J)+1).toNat<X a-((0:K):J).toNat;lia)
  ·rw[zA,Y O];simp only[xar,uS];obtain rfl:i=X a:=W
   rfl
def te(hp:wh p=I)(c:Fp p a)(hd:X a<=90000)(g:3000000<=fu):W3 fu a p=Z (drv p a,0):=by
 have⟨m,d⟩:=zo hp;unfold W3;have j:∀k:K,0<=((k:J)%p)*U a k/\((k:J)%p)*U a k<=4293001441:=λk=>by
  have b:=yn (a:=(k:J)) (p:=p);exact Zi d b.1 b.2 (c.nn k)<|c.lt k
 rw[Y<|wO hp,iq O,Y<|Xl hp c,Y (v:=zl (X a-1)<|λk=>dvp (U a) k%p)]
 ·have e:∀k,X a-1<=k->dvp (U a) k%p=0:=λk o=>by rw[pS,xah]
  have b:Rl (zl (X a-1)<|λk=>dvp (U a) k%p):=λk=>by
   rw[v8 e];have:=yn (a:=dvp (U a) k) (p:=p);lia
  rw[Y<|vi W d b (by rw[zD];lia) g];congr 2;refine(cz W _).ext (gD W _) λk=> ?_;rw[si,v8 e,nL,xaE]
 ·by_cases hl:X a=0
  ·have⟨n,hn⟩:∃n,fu=n+1:=⟨fu-1,W⟩;obtain rfl:a=[]:=xbv.1 hl;have h1:zg (Ym fu p []) (n+1) ([],1)=Z []:=by
    rw[wA];unfold Ym;simp only;rw[ir iI]
   rw[<-hn]at h1;exact h1
  ·refine zw (λs:N J×J=>∃i:K,i+1<=X a/\s=(zl i<|λk=>dvp (U a) k%p,((i+1:K):J))) (λs=>X a-s.2.toNat) _ ?_ _ _ ⟨0,W,O⟩ (by show X a-1<fu;lia);rintro s L ⟨i,hi,rfl⟩ l;unfold Ym;simp only;by_cases h:i+1<X a
   ·have hc:=j<|i+1;rw[zP,yL,Q,jQ,zp h,Q,ZZ,zb,yL,Q,jQ hc.1,xr (by rw[zD];simp;lia),Q,eZ (f:=λk=>dvp (U a) k%p) (by
     show _=(((i+1:K):J)*U a (i+1))%p;rw[xbc,xaE,<-xbc]),zb]
    exact l _ ⟨i+1,W,O⟩ (by show X a-(((i+1:K):J)+1).toNat<X a-((i+1:K):J).toNat;lia)
   ·rw[zA];obtain rfl:i=X a-1:=W
    rfl
end
section
variable{p:wl}{m g d:xS wl}{A:Pz}{fu:wr}
structure xH(p:J)(m:N J):Prop where
 fm:Fp p m
 ln:0<m.length
 top:U m (m.length-1)=1
def xH.mn(h:xH p m):Mn (U m) (X m-1):=⟨h.top,λk a=>zU W⟩
def xH.one(h:xH p m)(hl:X m=1):m=[1]:=by
 match m,hl with
 |[x],_=>have:=h.top;exact kW (λy=>[y]) this
def zg2(hp:2<=p):xH p [1]:=⟨uB,iI,O⟩
def tu{q r:N J}(hp:2<=p)(a:xH p m)(f:xH p g)(w:Fs A)(hd:Cg p (U m) (A*U g))(o:Fp p q)(C:Fp p r)(t:Cg p (U m) (U q*U g+U r))(E:X r<X g):
 xH p q/\Cg p (U m) (U q*U g)/\X m+1=X q+X g:=by
 have F:=f.ln;have h1:Cg p ((A-U q)*U g) (U r):=by
  rw[qw];refine((hd.symm.trans t).sub Cg.rfl).trans<|Cg.of ?_;funext k;rw[yY,zI];lia
 have y:=f.mn.zero hp (w.subt<|Fs.ci q) λk u=>by rw[h1 k,zU W,xah]
 have G:Cg p (U r) (D 0):=h1.symm.trans<|y.mul_zero_r _;have b:Cg p (U m) (U q*U g):=by
  refine t.trans<|Cg.iff_sub.2 ?_;have e:U q*U g+U r-U q*U g=U r:=by
   funext k;rw[yY,zI];lia
  simp_all
 have hl:=a.ln;have q0:0<X q:=by
  refine xcD λe=> ?_;have v:=b<|X m-1;rw[a.top,vK,xk λi hi=>by rw[zU (l:=q) W,xaP],xah,xaD iI W]at v;cases v
 have z:=f.mn.top (x:=U q) (n:=X q-1) λk u=>zU W;have c:=b<|X q-1+(X g-1);rw[z,a.fm.mod,o.mod]at c;have hc:U q (X q-1)≠0:=by
  obtain h|h:=o.nl
  ·lia
  ·exact h
 have B:X m+1=X q+X g:=by
  have H:X q-1+(X g-1)<X m:=xdk λh=>by
   rw[zU h]at c;exact hc c.symm
  have K:X m<=X q-1+(X g-1)+1:=a.fm.nl.le λk u=>by rw[<-a.fm.mod,b,kf (n:=X q) (m:=X g) (λj s=>zU s)<|λj s=>zU s,xah]
  lia
 refine⟨⟨o,q0,?_⟩,b,B⟩;rw[<-c,(W:X q-1+(X g-1)=X m-1),a.top]
def lA(hp:wh p=I)(b:xH p m)(a:xH p g)(hc:X m<=290)(l:X g<=290)(c:Fs A)(hd:Cg p (U m) (A*U g))(e:3000000<=fu):
 ∃q,J5 fu m g p=Z q/\xH p q/\Cg p (U m) (U q*U g)/\X m+1=X q+X g:=by
 have⟨f,n⟩:=zo hp;have⟨q,r,e1,h,i,j,k,hi⟩:=dD hp b.fm a.fm a.ln W W e;refine⟨q,?_,tu f b a c hd h i j k⟩;unfold J5;rw[Y e1]
def Cq{h s t:N J}{S:K}(hp:2<=p)(b:xH p g)(a:BzR p g h d s t S)(hd:X d=0\/U d (X d-1)=1):xH p d:=by
 have⟨A,C,c,z2,d1,d2⟩:=a.dv;have hl:0<X d:=by
  refine xcD λe=> ?_;have h1:=d1<|X g-1;rw[b.top,vK,xk λi hi=>by rw[zU W,xaC],xaD iI W]at h1;cases h1
 exact⟨a.df,hl,hd.resolve_left W⟩
def Km{a:N J}(hp:2<=p)(c:xH p a)(hd:xH p d)(e:Fs A)(h:Cg p (U a) (A*U d)):X d<=X a:=by
 refine xbs λi=> ?_;have f:∀k,X d-1<=k->(A*U d) k%p=0:=λk j=>by rw[<-h k,zU W,xah]
 have h0:=hd.mn.zero hp e f;have b:=(h.trans<|h0.mul_zero_r _)<|X a-1;rw[c.top,zH,xaD iI W]at b;cases b
def mJ{w:N J}(hp:wh p=I)(j:xH p g)(o:Fp p w)(r:X g<=290)(hi:X w<=290)(l:3000000<=fu):
 ∃x,Yw fu g w p=Z x/\xH p x/\X x<=X g/\(qB p (U g) (U w)->x=g)/\(¬qB p (U g) (U w)->X x<X g):=by
 have⟨i,T⟩:=zo hp;unfold Yw;have⟨d,s,t,e1,k,hd⟩:=Jv (fu:=fu) hp j.fm o r hi l;rw[Y e1];simp only;have u:=Cq i j k hd;have hl:=pK i k hd
 have⟨x,l1,D,E,F,G⟩:=yr (f:=XP fu w p) (λz:N J×N J=>∃a d:N J,z=(a,d)/\xH p a/\X a<=X g/\xH p d/\X d<=290/\(∃A:Pz,Fs A/\Cg p (U a) (A*U d))/\((a=g/\(X d=1↔qB p (U g) (U w)))\/(X a<X g/\¬qB p (U g) (U w))))
  (λz=>X z.1) (λx=>xH p x/\X x<=X g/\(qB p (U g) (U w)->x=g)/\(¬qB p (U g) (U w)->X x<X g)) (by
   rintro z L ⟨a,d,rfl,v,H,hd,hn,⟨A,K,M⟩,hc⟩ P;unfold XP;simp only;by_cases h1:1<X d
   ·have⟨q,q1,q2,V,q4⟩:=lA (fu:=fu) hp v hd W hn K M l;have⟨Q,s',t',n,y,R⟩:=Jv (fu:=fu) hp q2.fm o W hi l;have B:=Cq i q2 y R;rw[zP,Y q1,Y n];have⟨S,C',e,z2,d1,d2⟩:=y.dv;have hq:=Km i q2 B e d1;refine P _ ⟨q,Q,O,q2,W,B,W,⟨S,e,d1⟩,.inr ⟨W,?_⟩⟩ (by show X q<X a;lia);rcases hc with⟨c,b⟩|⟨c,b⟩
    ·exact λh=>by have:=b.2 h;lia
    ·exact b
   ·have hr:=hd.ln;rw[zA];refine⟨_,O,v,H,λh=> ?_,λh=> ?_⟩
    ·rcases hc with⟨c,b⟩|⟨c,b⟩
     ·exact c
     ·exact wS h b
    ·rcases hc with⟨c,b⟩|⟨c,b⟩
     ·exact wS (b.1 W) h
     ·exact c) fu (g,d) ⟨g,d,O,j,IR _,u,by have⟨A,C,e,z2,d1,d2⟩:=k.dv;exact xae (Km i j u e d1) r,by have⟨A,C,e,z2,d1,d2⟩:=k.dv;exact⟨A,e,d1⟩,.inl ⟨O,hl⟩⟩ (by show X g<fu;lia)
 rw[Y l1];exact⟨x,O,D,E,F,G⟩
end
section
variable{fu P:wr}{a m:xS wl}{p:wl}
def A6(d:2<=P)(e:P<=65521)(hl:X a<=290)(g:3000000<=fu):Ji fu a (P:J)=Z (zl ((X a+P-1)/P)<|λk=>U a<|k*P):=by
 unfold Ji;have⟨n,hn⟩:∃n,n=(X a+P-1)/P:=⟨_,O⟩;have hc:n<=65900:=by
  rw[hn];refine xae (xcE _ _) W
 rw[<-hn,Y (v:=zl n<|λk=>U a<|k*P)];refine zw (λs:N J×J=>∃i:K,i<=n/\s=(zl i<|λk=>U a<|k*P,((i*P:K):J))) (λs=>X a-s.2.toNat) _ ?_ _ _ ⟨0,xac _,by rw[xcx];rfl⟩ (by show X a-0<fu;lia);rintro s L ⟨i,hi,rfl⟩ b;unfold gz;simp only;by_cases h:i*P<X a
 ·have c:i+1<=n:=by
   rw[hn,xcn W,xaX,xbN];lia
  rw[zP,zp h,Q,ZZ,xr (by rw[zD];simp;lia),Q,eZ (f:=λk=>U a<|k*P) O,show((i*P:K):J)+(P:J)=(((i+1)*P:K):J)by rw[xaX,xbN];lia,nD ⟨W,by rw[xaX,xbN];lia⟩];exact b _ ⟨i+1,c,O⟩ (by
   show X a-(((i+1)*P:K):J).toNat<X a-((i*P:K):J).toNat;rw[xaX,xbN];lia)
 ·rw[zA];have j:n<=i:=by
   have l:n<i+1:=by
    rw[hn,xaS W,xaX,xbN];lia
   lia
  obtain rfl:i=n:=W
  rfl
def zfW(hp:wh (P:J)=I)(b:xH (P:J) m)(h1:1<X m)(hd:X (drv (P:J) m)=0):
 xH (P:J) (zl ((X m+P-1)/P)<|λk=>U m<|k*P)/\X (zl ((X m+P-1)/P)<|λk=>U m<|k*P)<X m:=by
 have⟨o,q⟩:=zo hp;have h:=Y0 hp;rw[xaN]at h;have i:∀k,(((k+1:K):J)*U m (k+1))%(P:J)=0:=λk=>by
  have:=nL (P:J) m k;rw[zU W]at this;exact this.symm
 have l:P∣X m-1:=by
  have⟨j,n⟩:∃j,X m-1=j+1:=⟨X m-2,W⟩;have f:=i j;rw[<-n,b.top,xck]at f;exact xdN.1<|xaF f
 have⟨c,hc⟩:=l;have r:1<=c:=xcD λe=>by rw[e,xcQ]at hc;lia
 have hn:(X m+P-1)/P=c+1:=by
  rw[show X m+P-1=(c+1)*P by rw[xaX,xbN,xaL];lia];exact Nat.mul_div_cancel _ W
 rw[hn];have hi:2*c<=P*c:=xan _ W;have g:U (zl (c+1)<|λk=>U m<|k*P) c=1:=by rw[jh W,xaL,<-hc,b.top]
 refine⟨⟨⟨λk=> ?_,λk=> ?_,.inr ?_⟩,by rw[zD];lia,?_⟩,by rw[zD];lia⟩
 ·by_cases d:k<c+1
  ·rw[jh d];exact b.fm.nn _
  ·rw[zU<|by rw[zD];lia];lia
 ·by_cases d:k<c+1
  ·rw[jh d];exact b.fm.lt _
  ·rw[zU<|by rw[zD];lia];lia
 ·rw[zD,xec,g];decide
 ·rw[zD,xec,g]
theorem DT(hp:0<p)(b:Fp p m):yH p m [1]=m:=by grind [Fp.ext,w5,qT,wX,yf]
def AB(hp:wh p=I)(b:xH p m)(hl:X m<=90000:=by lia)(c:3000000<=fu:=by lia):wE fu m p=Z (m,0):=by
 have⟨d,e⟩:=zo hp;rw[We (x:=1) hp b.fm b.ln hl iI W (by rw[b.top];exact xaD iI W),DT W b.fm]
def Ot{f:Pz}(hp:2<=p)(b:xH p m)(c:Cg p f (D 0))(h:qB p (U m) f):X m=1:=by
 have⟨s,t,d,z2,h⟩:=h;refine CP hp d b.ln b.top<|Cg.trans ?_ h;refine Cg.trans (Cg.of ?_)<|Cg.add Cg.rfl (c.mul_zero_l t).symm;funext k;rw[zI,zH,xbF]
def Ta(hp:wh (P:J)=I):∀(n:K) {fu:K}{m:N J},X m=n->n<=290->3000001+n<=fu->xH (P:J) m->
 ∃r,wU fu m (P:J)=Z r/\xH (P:J) r/\X r<=X m/\(qB (P:J) (U m) (dvp<|U m)->r=m)/\(¬qB (P:J) (U m) (dvp<|U m)->X r<X m):=by
 intro n
 induction n using xdc with
 |_ n L=>
 intro fu m hn hC hD b;have⟨c,p2⟩:=zo hp;obtain⟨F,rfl⟩:∃F,fu=F+1:=⟨fu-1,W⟩;have d:3000000<=F:=W
 have ho:=b.ln;unfold wU;rw[Y<|AB hp b];simp only;by_cases h1:X m=1
 ·have hl:=b.one h1;rw[zP];refine⟨[1],O,zg2 c,by simp;lia,λ_=>hl.symm,λh=>wS ?_ h⟩;rw[hl,wX];exact qB.one _ _
 ·rw[zA,Y<|te hp b.fm W d];simp only;have z:=EG (P:J) m;by_cases hd:X (drv (P:J) m)=0
  ·have⟨hq,hE⟩:=zfW hp b W hd;have⟨r,e1,j,e3,M,Q⟩:=L _ W (fu:=F) O W W hq;rw[zP,Y<|A6 W W W d,Y e1];have l:Cg (P:J) (dvp<|U m) (D 0):=z.symm.trans (Cg.of<|funext λk=>by rw[zU W,zH]);exact⟨r,O,j,W,λh=>wS (Ot c b l h) h1,λ_=>by lia⟩
  ·have hF:=zmG (p:=(P:J)) W ho;have⟨g,s,t,g1,E,R⟩:=Jv (fu:=F) hp b.fm (gD (p:=(P:J)) W m) W W d;have o:=Cq c b E R;have hr:=pK c E R;have S:qB (P:J) (U m) (dvp<|U m)↔X g=1:=by
    rw[hr];exact⟨λh=>h.congr Cg.rfl z.symm,λh=>h.congr Cg.rfl z⟩
   have⟨A,C,z1,z2,d1,d2⟩:=E.dv;have hG:=o.ln;have hH:X g<=X (drv (P:J) m):=by
    have hs:=(gD (p:=(P:J)) W m).nl;refine xbs λhI=> ?_;have l:∀k,X g-1<=k->(C*U g) k%(P:J)=0:=λk T=>by rw[<-d2 k,zU W,xah]
    have h0:=o.mn.zero c z2 l;have V:=(d2.trans<|h0.mul_zero_r _)<|X (drv (P:J) m)-1;rw[(gD (p:=(P:J)) W m).mod,zH,xah]at V;obtain h|h:=hs
    ·exact hd h
    ·exact h V
   have⟨w,w1,i,w3,w4⟩:=lA (fu:=F) hp b o W W z1 d1 d;have⟨x,x1,G,x3,x4,x5⟩:=mJ (fu:=F) hp o i.fm W W d;have⟨r,e1,j,e3,M,Q⟩:=L _ (W:X x<n) (fu:=F) O W W G;have ht:=i.ln;have hu:=j.ln;have⟨f1,f2⟩:=Rj c ht i.top hu j.top;rw[zA,Y g1];simp only;rw[Y w1,Y x1,Y e1,Y<|ZH hp i.fm j.fm W W d];refine⟨_,O,⟨w5 W _ _,W,by rw[f1];exact f2⟩,W,λh=> ?_,λh=> ?_⟩
   ·have hi:=S.1 h;have hc:=o.one hi;have B:x=g:=x4 (by rw[hc,wX];exact qB.one _ _);have hv:r=x:=M (by rw[B,hc,wX];exact qB.one _ _);rw[hv,B,hc,DT W i.fm];refine(i.fm.ext b.fm ?_);have h6:=w3;rw[hc,wX,yf]at h6;exact h6.symm
   ·have hi:X g≠1:=λe=>h<|S.2 e;have hJ:X r<X g:=by
     by_cases H:qB (P:J) (U g) (U w)
     ·have B:=x4 H;subst B;refine Q λhw=> ?_;have hx:Cg (P:J) (dvp<|U m) (dvp (U w)*U x+U w*dvp (U x)):=by
       have:=Tc w3;rw[QV]at this;exact this
      have hy:Cg (P:J) (dvp<|U m) (C*U x):=z.symm.trans d2;have hA:Cg (P:J) (U w*dvp (U x)) ((C-dvp (U w))*U x):=by
       rw[qw];refine Cg.trans (Cg.of ?_)<|(hx.symm.trans hy).sub Cg.rfl;funext k;simp only[yY,zI];lia
      have⟨u,v,zu,zv,hB⟩:=H;have hX:Cg (P:J) (dvp<|U x) ((u*dvp (U x)+v*(C-dvp (U w)))*U x):=by
       have a1:Cg (P:J) (dvp<|U x) ((u*U x+v*U w)*dvp (U x)):=by
        have:=hB.symm.mul<|Cg.rfl (f:=dvp<|U x);rw[zC]at this;exact this
       refine a1.trans ?_;rw[ym,ym];refine Cg.add (Cg.of ?_) ?_
       ·simp only[zd,zk,zB]
       ·rw[zd,zd];exact Cg.rfl.mul hA
      have q:∀y:N J,Fs (dvp<|U y):=λy=>⟨X y,λk T=>pS⟩;have l:=G.mn.zero c ((zu.mul<|q x).add<|zv.mul<|z2.subt<|q w) λk T=>by rw[<-hX k,pS,xah]
      exact hi<|Ot c G (hX.trans<|l.mul_zero_r _) hw
     ·have:=x5 H;lia
    lia
theorem MZ{b:N J}(h:X a≠X b):ZK fu a b=Z wL:=by grind [ZK]
def ziy(hp:wh p=I)(d:Fp p a)(hl:X a<=290)(A:3000300<=fu):∃b e,uw fu a p=Z (b,e)/\aE fu a p=Z (b,e):=by
 have⟨k,B⟩:=zo hp;obtain⟨P,rfl⟩:=xaz (W:0<=p);unfold uw aE Xn K4;by_cases h0:X a=0
 ·obtain rfl:a=[]:=xbv.1 h0;refine⟨wL,8,?_,?_⟩
  ·rw[Y<|rn hp W];rfl
  ·rw[Y<|wO hp,iq O,Y<|Xl hp d];rfl
 ·have⟨x,x0,l,j,e1⟩:=ZA (fu:=fu) hp d;have f:=rY k d W j;have⟨m,hd⟩:∃m,m=yH (P:J) a [x]:=⟨_,O⟩;rw[<-hd]at f e1;have i:xH (P:J) m:=⟨f.fm,by have:=f.ln;lia,f.top⟩;have C:=f.ln;have⟨g,s,t,g1,n,o⟩:=XN (fu:=fu) hp i.fm (gD (p:=(P:J)) W m) W (by have:=zf8 (P:J) m;lia);have q:=pK k n o;have hc:qB (P:J) (U m) (dvp<|U m)↔X g=1:=by
   rw[q];exact⟨λh=>h.congr Cg.rfl (EG (P:J) m).symm,λh=>h.congr Cg.rfl<|EG (P:J) m⟩
  have u:wE fu a (P:J)=Z (m,0):=by rw[We hp d W W x0 l j,hd]
  have⟨r,r1,r2,D,v,w⟩:=Ta hp (X m) (fu:=fu) O W W i;have y:wU fu a (P:J)=Z r:=by
   obtain⟨F,rfl⟩:∃F,fu=F+1:=⟨fu-1,W⟩;rw[<-r1];unfold wU;have z:wE F a (P:J)=Z (m,0):=by rw[We hp d W W x0 l j,hd]
   rw[Y z,Y<|AB hp i]
  refine⟨decide<|X g=1,0,?_,?_⟩
  ·rw[Y e1];simp only[uP];rw[zA,Y O];simp only[uP];rw[Y<|ae hp i.fm];simp only;rw[Y g1];simp only;by_cases c:X g=1
   ·rw[zP,Z0 c]
   ·rw[zA,uT c]
  ·rw[Y<|wO hp,iq O,Y<|Xl hp d,zA,Y O,iq O,Y u];simp only;rw[Y y];by_cases c:X g=1
   ·rw[v<|hc.2 c,Y (Ml O W W),Z0 c]
   ·have:=w<|λh=>c<|hc.1 h;rw[Y (MZ W),uT c]
end
section
variable{m u d g:xS wl}{P:wr}{f v w:Pz}{y p a:wl}{b:wr->Pz}{l us:xS (xS wl)}
def pp(f:Pz):K->Pz
 |0=>D 1
 |n+1=>pp f n*f
def EA(f:Pz)(m:K):∀n,pp f (m+n)=pp f m*pp f n
 |0=>(yf _).symm
 |n+1=>by rw[<-xcM];show pp f (m+n)*f=_;rw[EA f m n,zd];rfl
def zeZ(f g:Pz):∀n,pp (f*g) n=pp f n*pp g n
 |0=>(yf _).symm
 |n+1=>by
  show pp (f*g) n*(f*g)=pp f n*f*(pp g n*g);rw[zeZ f g n,zd,zd,zB<|pp g n]
def zfr(f:Pz)(m:K):∀n,pp (pp f m) n=pp f (m*n)
 |0=>rfl
 |n+1=>by rw[Nat.mul_succ,EA f,<-zfr f m n];rfl
def zhe(c:J):∀n,pp (D c) n=D (c^n)
 |0=>by rw[xbI];rfl
 |n+1=>by show pp (D c) n*D c=_;rw[zhe c n,kH,xbr]
def Fs.pp{f:Pz}(h:Fs f):∀n,Fs (pp f n)
 |0=>⟨1,λk c=>zA⟩
 |n+1=>(Fs.pp h n).mul h
def smP:K->(K->Pz)->Pz
 |0,_=>D 0
 |n+1,F=>smP n F+F n
def WA{F G:K->Pz}:∀n,(∀i,i<n->F i=G i)->smP n F=smP n G
 |0,_=>rfl
 |n+1,h=>by show smP n F+F n=smP n G+G n;rw[WA n λi hi=>h i W,h n W]
def zaV{m:J}{F G:K->Pz}:∀n,(∀i,i<n->Cg m (F i) (G i))->Cg m (smP n F) (smP n G)
 |0,_=>Cg.rfl
 |n+1,h=>(zaV n λi hi=>h i W).add<|h n W
theorem Kb(f g:Pz):f+g=g+f:=by grind [zI,Int.add_comm]
def VA(f g h:Pz):f+g+h=f+(g+h):=qR λk=>by simp only[zI];lia
def Wx(f:Pz):f+D 0=f:=qR λk=>by rw[zI,zH,xbF]
def E8(f:Pz):D 0+f=f:=qR λk=>by rw[zI,zH,xco]
def oJ(g:Pz)(F:K->Pz):∀n,smP n F*g=smP n λi=>F i*g
 |0=>zQ g
 |n+1=>by show(smP n F+F n)*g=smP n (λi=>F i*g)+F n*g;rw[ym,oJ g F n]
def Na(F G:K->Pz):∀n,smP n (λi=>F i+G i)=smP n F+smP n G
 |0=>(Wx _).symm
 |n+1=>by
  show smP n (λi=>F i+G i)+(F n+G n)=smP n F+F n+(smP n G+G n);rw[Na F G n];funext k;simp only[zI];lia
def YW(F:K->Pz):∀n,smP (n+1) F=F 0+smP n λi=>F (i+1)
 |0=>by show D 0+F 0=F 0+D 0;rw[Kb]
 |n+1=>by show smP (n+1) F+F (n+1)=F 0+(smP n (λi=>F<|i+1)+F (n+1));rw[YW F n,VA]
def zgG{m:J}{F:K->Pz}(n:K)(h:∀i,i<n->Cg m (F i) (D 0)):Cg m (smP n F) (D 0):=by
 induction n with
 |zero=>exact Cg.rfl
 |succ n c=>
  have:=(c λi hi=>h i W).add (h n W);rw[Wx]at this;exact this
theorem Tu(a b:J):D (a+b)=D a+D b:=by grind [D,zI]
def zgA(f g:Pz):∀n,pp (f+g) n=smP (n+1) λi=>D (c8 n i)*(pp f i*pp g (n-i))
 |0=>by
  show D 1=D 0+D ((c8 0 0:K):J)*(D 1*D 1);rw[E8,zC,show((c8 0 0:K):J)=1 from O,zC]
 |n+1=>by
  show pp (f+g) n*(f+g)=_;rw[zgA f g n,xg,oJ,oJ];have e1:(smP (n+1) λi=>D (c8 n i)*(pp f i*pp g (n-i))*g)=smP (n+2) λi=>D (c8 n i)*(pp f i*pp g (n+1-i)):=by
   have c:D ((c8 n (n+1):K):J)*(pp f (n+1)*pp g (n+1-(n+1)))=D 0:=by rw[n8 n (n+1) W];exact zQ _
   show _=smP (n+1) _+D ((c8 n (n+1):K):J)*(pp f (n+1)*pp g (n+1-(n+1)));rw[c,Wx];refine WA _ λi hi=> ?_;rw[(W:n+1-i=n-i+1),zd,zd];rfl
  have e:(smP (n+1) λi=>D (c8 n i)*(pp f i*pp g (n-i))*f)=smP (n+1) λi=>D (c8 n i)*(pp f (i+1)*pp g (n+1-(i+1))):=
   WA _ λi hi=>by rw[(W:n+1-(i+1)=n-i),zd,zk (pp f i*_) f,<-zd f,zk f<|pp f i];rfl
  rw[e1,e,YW _<|n+1,YW (λi=>D ((c8 (n+1) i:K):J)*(pp f i*pp g (n+1-i)))<|n+1,Vx,Vx,<-VA,Kb<|smP _ _,VA,<-Na];congr 1;refine WA _ λi hi=> ?_;rw[JT,xff,Tu,ym,Kb]
def zpr(hp:2<=P)(hn:jK P)(f g:Pz):Cg (P:J) (pp (f+g) P) (pp f P+pp g P):=by
 obtain⟨q,rfl⟩:∃q,P=q+1:=⟨P-1,W⟩;rw[zgA];show Cg _ (smP (q+1) _+D ((c8 (q+1) (q+1):K):J)*(pp f (q+1)*pp g (q+1-(q+1)))) _;rw[YW,DA,Vx,xdb,show((1:K):J)=1 from O,zC,zC];have e:=zgG (m:=((q+1:K):J)) (F:=λi=>D ((c8 (q+1) (i+1):K):J)*(pp f (i+1)*pp g (q+1-(i+1)))) q λi hi=>Cg.of_dvd λk=>by
  rw[zS];exact xbx (xdN.2<|zcX hp hn)<|xcl _ _
 have h1:pp f 0*pp g (q+1-0)=pp g (q+1):=zC _;have h:pp f (q+1)*pp g 0=pp f (q+1):=yf _;rw[h1,h];have c:=((Cg.rfl (m:=((q+1:K):J)) (f:=pp g<|q+1)).add e).add<|Cg.rfl (f:=pp f<|q+1);rw[Wx,Kb (pp g _)<|pp f _]at c;exact c
def Hj{P:K}(hp:2<=P)(hn:jK P)(F:K->Pz):∀n,Cg (P:J) (pp (smP n F) P) (smP n λi=>pp (F i) P)
 |0=>by
  show Cg _ (pp (D 0) P) (D 0);rw[zhe,Int.zero_pow W];exact Cg.rfl
 |n+1=>(zpr hp hn (smP n F)<|F n).trans<|(Hj hp hn F n).add Cg.rfl
def vx:Pz:=mono 1 1
def zbt(c:J):∀i,(mono i c:Pz)=D c*pp vx i
 |0=>by
  show _=D c*D 1;rw[yf];funext k;unfold mono D;rfl
 |i+1=>by
  show _=D c*(pp vx i*vx);rw[<-zd,<-zbt c i];funext k;rw[zk];show mono (i+1) c k=((mono 1 1:Pz)*mono i c) k;rw[qI];unfold sh mono;by_cases h:1<=k
  ·rw[iq h];by_cases e:k=i+1
   ·rw[iq e,zP,xcv]
   ·rw[ir e,zA,xaC]
  ·rw[ir h,zA];rfl
def zeX{n:K}(h:∀k,n<=k->f k=0):f=smP n λi=>mono i (f i):=by
 have e:∀m k,smP m (λi=>(mono i (f i):Pz)) k=if k<m then f k else 0:=λm=>by
  induction m with
  |zero=>intro k;rw[zA];exact zH k
  |succ m j=>
   intro k;show(smP m (λi=>(mono i (f i):Pz))+mono m (f m)) k=_;rw[zI,j];unfold mono;by_cases h1:k=m
   ·rw[iq h1,zA,zP,h1,xco]
   ·rw[ir h1,xbF];by_cases c:k<m
    ·rw[iq c,zP]
    ·rw[ir c,zA]
 funext k;rw[e];split
 ·rfl
 ·exact h k W
def DZ(hp:2<=P)(hn:jK P)(a:J):a^P%P=a%P:=by
 have h1:a%P=((a%P).toNat:J)%P:=by
  have:=xcI a (W:(P:J)≠0);rw[xcZ this,xaE]
 have c:=zbp hp hn (a%P).toNat;have e:=xcI a (W:(P:J)≠0);rw[xcZ e,xaE]at c;rw[<-c,<-xcC (a^P)<|xet _];have:∀n,(a%P)^n%P=a^n%P:=λn=>by
  induction n with
  |zero=>rw[xbI,xbI]
  |succ n h=>rw[xbr,xbr,xbc,h,xaE,<-xbc]
 rw[this,xaE]
def zpi(hp:2<=P)(hn:jK P){n:K}(h:∀k,n<=k->f k=0):Cg (P:J) (pp f P) (smP n λi=>D (f i)*pp (pp vx P) i):=by
 have h1:pp f P=pp (smP n λi=>mono i<|f i) P:=by rw[<-zeX h]
 rw[h1];refine(Hj hp hn _ n).trans<|zaV n λi hi=> ?_;rw[zbt,zeZ,zhe,zfr,zfr,xaL];refine Cg.mul (λk=> ?_) Cg.rfl;unfold D;split
 ·exact DZ hp hn _
 ·rfl
def es(d:K->J):K->J->J
 |0,_=>0
 |n+1,a=>d 0+a*es (λk=>d<|k+1) n a
theorem zgL(a:J):∀(n:K) (d:K->J),∃q:K->J,(∀b,es d (n+1) b=(b-a)*es q n b+es d (n+1) a)/\(∀k,k<n->d (k+1)=q k-a*(if k+1<n then q (k+1)else 0))/\d 0=es d (n+1) a-a*(if 0<n then q 0 else 0)
 |0,d=>⟨λ_=>0,λb=>by show d 0+b*0=(b-a)*0+(d 0+a*0);grind,λk i=>by lia,by show d 0=d 0+a*0-a*(if 0<0 then 0 else 0);rw[zA];grind⟩
 |n+1,d=>by
  have⟨q,h1,j,h⟩:=zgL a n λk=>d<|k+1;have⟨e,c⟩:∃e,e=es (λk=>d<|k+1) (n+1) a:=⟨_,O⟩;rw[<-c]at h1 h
  refine⟨λk=>match k with
   |0=>e
   |k+1=>q k,λb=> ?_,λk i=> ?_,?_⟩
  ·show d 0+b*es (λk=>d<|k+1) (n+1) b=(b-a)*(e+b*es q n b)+(d 0+a*es (λk=>d<|k+1) (n+1) a);rw[h1 b,<-c];generalize es q n b=x;grind
  ·cases k with
   |zero=>
    show d (0+1)=e-a*(if 0+1<n+1 then q 0 else 0);have o:d (0+1)=e-a*(if 0<n then q 0 else 0):=h;rw[o];by_cases hn:0<n
    ·rw[iq hn,zP]
    ·rw[ir hn,zA]
   |succ k=>
    show d (k+1+1)=q k-a*(if k+1+1<n+1 then q (k+1)else 0);rw[j k W];by_cases hn:k+1<n
    ·rw[iq hn,zP]
    ·rw[ir hn,zA]
  ·show d 0=d 0+a*es (λk=>d<|k+1) (n+1) a-a*(if 0<n+1 then e else 0);rw[zP,c];grind
theorem Nw(hp:2<=P)(hn:jK P){x:J}(h:(P:J)∣x*y):(P:J)∣x\/(P:J)∣y:=by
 by_cases c:(P:J)∣x
 ·exact .inl c
 ·right;have h0:0<(x%P).toNat:=by
   have h1:=xcI x (W:(P:J)≠0);have i:x%P≠0:=λe=>c<|xaF e;lia
  have h1:(x%P).toNat<P:=by
   have:=xdD x (W:(0:J)<P);lia
  have i:(P:J)∣(x%P)*y:=by
   have:(x%P)*y=x*y-P*(x/P*y):=by
    have:=xfB x P;grind
   rw[this];exact xdp h<|xcl _ _
  have k:P∣(x%P).toNat*y.natAbs:=by
   have j:=xcp.2 i;rw[xcK]at j;have n:(x%P).natAbs=(x%P).toNat:=W
   rwa[xbb,n]at j
  exact xcp.1<|by rw[xbb];exact zbV hp hn h0 h1 k
def zcB{P:K}(hp:2<=P)(hn:jK P):∀(n:K) (d:K->J),n<=P->(∀a:K,a<n->(P:J)∣es d n a)->∀k,k<n->(P:J)∣d k
 |0,_,_,_,k,i=>by lia
 |n+1,d,t,h,k,i=>by
  have⟨q,h1,j,o⟩:=zgL (n:J) n d;have e:=zcB hp hn n q W λa x=>by
   have e1:=h1 a;have r:(P:J)∣((a:J)-n)*es q n a:=by
    have:((a:J)-n)*es q n a=es d (n+1) a-es d (n+1) n:=W
    rw[this];exact xdp (h a W)<|h n W
   obtain e3|e3:=Nw hp hn r
   ·exfalso;have⟨c,hc⟩:=e3;have z:c<0:=by
     apply Int.not_le.1;intro s;have:=xcz (W:(0:J)<=P) s;lia
    have A:(P:J)*c<=(P:J)*(-1):=xaU W W;lia
   ·exact e3
  have hd:=h n W
  cases k with
  |zero=>
   rw[o];refine xdp hd ?_;split
   ·exact xbx (e 0 W)<|xcL _ _
   ·rw[xaC];exact xdy _
  |succ k=>
   rw[j k W];refine xdp (e k W) ?_;split
   ·exact xbx (e (k+1) W)<|xcL _ _
   ·rw[xaC];exact xdy _
def sc:K->K->J
 |0,k=>if k=0 then 1 else 0
 |n+1,0=> -(n:J)*sc n 0
 |n+1,k+1=>sc n k-(n:J)*sc n (k+1)
theorem sR:∀n k,n<k->sc n k=0
 |0,k,h=>zA
 |n+1,0,h=>by lia
 |n+1,k+1,h=>by show sc n k-(n:J)*sc n (k+1)=0;rw[sR n k W,sR n (k+1) W];grind
theorem zaC:∀n,sc n n=1
 |0=>rfl
 |n+1=>by show sc n n-(n:J)*sc n (n+1)=1;rw[zaC n,sR n (n+1) W];grind
def prv(v:Pz):K->Pz
 |0=>D 1
 |n+1=>prv v n*(v-D n)
theorem zcc(a:J)(f:Pz):D (-a)*f= -(D a*f):=by grind [zbX,zS,Int.neg_mul]
theorem zbE(v:Pz):∀n,prv v n=smP (n+1) λk=>D (sc n k)*pp v k
 |0=>by
  show D 1=D 0+D (sc 0 0)*D 1;rw[E8,show sc 0 0=1 from O,yf]
 |n+1=>by
  show prv v n*(v-D n)=_;have e:∀F G:Pz,F*(G-D n)=F*G+ -(D n*F):=λF G=>by rw[vL,zk F<|D n,O2]
  rw[e,zbE v n,oJ];have c: -(D (n:J)*smP (n+1) λk=>D (sc n k)*pp v k)=smP (n+2) λk=>D (-(n:J)*sc n k)*pp v k:=by
   rw[<-zcc,zk,oJ];show _=smP (n+1) _+D (-(n:J)*sc n (n+1))*pp v (n+1);rw[sR n (n+1) W,xaC,zQ,Wx];exact WA _ λi _=>by rw[zk,<-zd,kH]
  rw[c,YW _<|n+1,YW (λk=>D (sc (n+1) k)*pp v k)<|n+1,<-VA,Kb<|smP _ _,VA,<-Na];congr 1;refine WA _ λi _=> ?_;show D (sc n i)*pp v i*v+D (-(n:J)*sc n (i+1))*pp v (i+1)=D (sc n i-(n:J)*sc n (i+1))*pp v (i+1);rw[zd];show D (sc n i)*pp v (i+1)+_=_;rw[<-ym,<-Tu];congr 2;grind
theorem eR(d:K->J)(a:J):∀n,es d (n+1) a=es d n a+d n*a^n:=by
 intro n
 induction n generalizing d with
 |zero=>show d 0+a*0=0+d 0*a^0;rw[xbI];grind
 |succ n c=>
  show d 0+a*es (λk=>d<|k+1) (n+1) a=d 0+a*es (λk=>d<|k+1) n a+d (n+1)*a^(n+1);rw[c,xbr];grind
theorem zaY(c d:K->J)(a:J):∀n,es (λk=>c k+d k) n a=es c n a+es d n a
 |0=>rfl
 |n+1=>by rw[eR,eR,eR,zaY c d a n];grind
def prn(a:J):K->J
 |0=>1
 |n+1=>prn a n*(a-n)
theorem zig(a:J):∀n,prn a n=es (sc n) (n+1) a
 |0=>by show(1:J)=1+a*0;grind
 |n+1=>by
  show prn a n*(a-n)=_;have h1:es (sc<|n+1) (n+2) a= -(n:J)*sc n 0+a*es (λk=>sc n k-(n:J)*sc n (k+1)) (n+1) a:=O;have e:es (λk=>sc n k-(n:J)*sc n (k+1)) (n+1) a=es (sc n) (n+1) a+es (λk=> -(n:J)*sc n (k+1)) (n+1) a:=by rw[<-zaY];congr 1;funext k;grind
  have h:∀m (d:K->J) (c:J),es (λk=>c*d k) m a=c*es d m a:=λm=>by
   induction m with
   |zero=>intro d c;show(0:J)=c*0;grind
   |succ m i=>intro d c;rw[eR,eR,i];grind
  have j:es (sc n) (n+2) a=es (sc n) (n+1) a:=by rw[eR,sR n (n+1) W,xaP,xbF]
  have o:es (sc n) (n+2) a=sc n 0+a*es (λk=>sc n<|k+1) (n+1) a:=O;rw[h1,e,h,zig a n];grind
def zcY{a:K}:∀n,a<n->prn a n=0
 |0,h=>by lia
 |n+1,h=>by
  show prn a n*((a:J)-n)=0;by_cases e:a=n
  ·rw[e,xdP,xaC]
  ·rw[zcY n W,xaP]
theorem znB(hp:2<=P)(hn:jK P)(k:K):sc P k%P=(if k=P then(1:J)else if k=1 then-1 else 0)%P:=by
 by_cases h:k<P
 ·have i:=zcB hp hn P (λk=>sc P k+(if k=1 then 1 else 0)) (IR _) (λa j=>by
   rw[zaY];have e1:es (λk=>if k=1 then(1:J)else 0) P (a:J)=a:=by
    obtain⟨q,rfl⟩:∃q,P=q+2:=⟨P-2,W⟩;show(0:J)+a*((1:J)+a*es (λk=>if k+1+1=1 then(1:J)else 0) q a)=a;have:∀m,es (λk=>if k+1+1=1 then(1:J)else 0) m (a:J)=0:=λm=>by
     induction m with
     |zero=>rfl
     |succ m n=>rw[eR,n,zA];grind
    rw[this];grind
   have o:=zig (a:J) P;rw[zcY P j,eR,zaC]at o;have r:=DZ hp hn (a:J);rw[e1];have s:es (sc P) P (a:J)+a=a-a^P:=by grind
   rw[s];exact xaF<|xaI.1 r.symm) k h
  rw[zA];have c:=xav i;by_cases h1:k=1
  ·rw[iq h1]at c⊢;refine xaI.2 ?_;rw[(W:sc P k- -1=sc P k+1)];exact c
  ·rw[ir h1]at c⊢;rw[xbF]at c;rw[c,xah]
 ·by_cases e:k=P
  ·rw[iq e,e,zaC]
  ·rw[ir e,zA,sR P k W]
def zis:∀n,(smP n λ_=>D 0)=D 0
 |0=>rfl
 |n+1=>by show(smP n λ_=>D 0)+D 0=D 0;rw[zis n,Wx]
def zi8(hp:2<=P)(hn:jK P)(v:Pz):Cg (P:J) (prv v P) (pp v P-v):=by
 rw[zbE]
 have h1:Cg (P:J) (smP (P+1) λk=>D (sc P k)*pp v k) (smP (P+1) λk=>D (if k=P then(1:J)else if k=1 then-1 else 0)*pp v k):=
  zaV _ λk _=>Cg.mul (λj=>by unfold D;split;exact znB hp hn k;rfl) Cg.rfl
 refine h1.trans<|Cg.of ?_;obtain⟨q,rfl⟩:∃q,P=q+2:=⟨P-2,W⟩;show smP (q+2) _+D (if q+2=q+2 then(1:J)else _)*pp v (q+2)=_;rw[iq O,zC,YW _<|q+1,YW _ q,zA,zA,zA,iq O];have c:(smP q λk=>D (if k+1+1=q+2 then(1:J)else if k+1+1=1 then-1 else 0)*pp v (k+1+1))=D 0:=by
  rw[WA (G:=λ_=>D 0) q λi hi=>by rw[zA,zA,zQ]];exact zis q
 rw[c];have e:D (-1)*pp v (0+1)= -v:=by
  rw[zcc,zC];show-(D 1*v)= -v;rw[zC]
 rw[e,zQ];funext k;simp only[zI,yY,zbX,zH];lia
def Di(p:J)(u v:Pz):Prop:=∃q:Pz,Fs q/\Cg p v (q*u)
def Di.refl(p:J)(u:Pz):Di p u u:=⟨D 1,Fs.pc 1,Cg.of (zC u).symm⟩
def Di.trans{p:J}{u v w:Pz}(h:Di p u v)(g:Di p v w):Di p u w:=by
 have⟨q,f1,h1⟩:=h;have⟨r,f2,c⟩:=g;exact⟨r*q,f2.mul f1,c.trans<|((Cg.rfl (f:=r)).mul h1).trans<|Cg.of (zd r q u).symm⟩
def Di.add{p:J}{u v w:Pz}(h:Di p u v)(g:Di p u w):Di p u (v+w):=by
 have⟨q,f1,h1⟩:=h;have⟨r,f2,c⟩:=g;exact⟨q+r,f1.add f2,(h1.add c).trans<|Cg.of (ym q r u).symm⟩
def Di.sub{p:J}{u v w:Pz}(h:Di p u v)(g:Di p u w):Di p u (v-w):=by
 have⟨q,f1,h1⟩:=h;have⟨r,f2,c⟩:=g;exact⟨q-r,f1.subt f2,(h1.sub c).trans<|Cg.of (qw q r u).symm⟩
def Di.mul{p:J}{u v:Pz}(w:Pz)(c:Fs w)(h:Di p u v):Di p u (w*v):=by
 have⟨q,f1,h1⟩:=h;exact⟨w*q,c.mul f1,((Cg.rfl (f:=w)).mul h1).trans<|Cg.of (zd w q u).symm⟩
def Di.cg{u:Pz}(h:Di p u v)(g:Cg p v w):Di p u w:=by
 have⟨q,f1,h1⟩:=h;exact⟨q,f1,g.symm.trans h1⟩
def Di.zero(p:J)(u:Pz):Di p u (D 0):=⟨D 0,Fs.pc 0,Cg.of (zQ u).symm⟩
def Di.euclid{u:Pz}(c:Fs w)(h:qB p u v)(g:Di p u (v*w)):Di p u w:=by
 have⟨s,t,fs,e,h1⟩:=h;have i:Cg p (w*s*u+t*(v*w)) w:=by
  refine Cg.trans (Cg.of ?_)<|(h1.mul<|Cg.rfl (f:=w)).trans<|Cg.of<|zC w;rw[ym,zd t,zk (s*u) w,zd w]
 refine Di.cg (Di.add ?_<|g.mul t e) i;exact⟨w*s,c.mul fs,Cg.rfl⟩
def Di.both{u:Pz}(j:Fs w)(h:qB p u v)(g1:Di p u w)(c:Di p v w):Di p (u*v) w:=by
 have⟨q,fq,h1⟩:=c;have e:Di p u q:=Di.euclid fq h<|g1.cg<|h1.trans<|Cg.of<|zk q v;have⟨r,fr,i⟩:=e;refine⟨r,fr,h1.trans<|(i.mul<|Cg.rfl (f:=v)).trans<|Cg.of<|zd r u v⟩
def Di.prz{p:J}{w:Pz}(e:Fs w):∀{us:N Pz},(∀u∈us,Fs u)->us.Pairwise (qB p)->(∀u∈us,Di p u w)->Di p (prZ us) w
 |[],_,_,_=>⟨w,e,Cg.of (yf w).symm⟩
 |u::us,i,hp,h=>by
  have⟨h1,j⟩:=xdC.1 hp;refine Di.both e ?_ (h u<|FS)<|Di.prz e (λg c=>i g<|UV _ c) j λg c=>h g<|UV _ c;exact(qB.prZ (i u<|FS) (λg c=>i g<|UV _ c) λg c=>(h1 g c).symm).symm
structure QI(p:J)(u:N J):Prop where
 mn:xH p u
 l1:1<u.length
 ir:∀d,xH p d->Di p (U d) (U u)->d.length=1\/d=u
def LF{a b:N J}(hp:2<=p)(c:xH p a)(i:xH p b)(h:Di p (U a) (U b))(hl:X b<=X a):a=b:=by
 have⟨q,fq,h1⟩:=h;have⟨n,hn⟩:=fq;have hd:=c.ln;have x:=i.ln;have z:=Km hp i c ⟨n,hn⟩ h1;have e:X a=X b:=W
 have j:Cg p ((q-D 1)*U a) (U b-U a):=by
  rw[qw,zC];exact h1.symm.sub Cg.rfl
 have o:=c.mn.zero hp (Fs.subt ⟨n,hn⟩<|Fs.pc 1) λk A=>by
  rw[j k,yY];by_cases hc:k=X a-1
  ·have r:=c.top;have s:=i.top;rw[hc,r,e,s,xdP,xah]
  ·rw[zU W,zU W];exact xah _
 refine c.fm.ext i.fm ?_;have t:=j.symm.trans<|o.mul_zero_r<|U a;exact(Cg.iff_sub.2 t).symm
theorem QI.or(hp:wh p=I){l:N J}(c:QI p u)(i:X u<=290)(hl:Fp p l)(j:X l<=290):Di p (U u) (U l)\/qB p (U u) (U l):=by
 have⟨k,r⟩:=zo hp;have⟨d,s,t,_,e,hd⟩:=uI (fu:=3000000) hp c.mn.fm hl i j<|IR _;have h:=Cq k c.mn e hd;have⟨A,C,n,o,h1,q⟩:=e.dv;rcases c.ir d h ⟨A,n,h1⟩with h3|h3
 ·exact .inr<|Mq e h3 h.top
 ·left;rw[<-h3];exact⟨C,o,q⟩
def QI.ne(hp:2<=p)(e:QI p u):¬Di p (U u) (D 1):=λ⟨q,fq,h⟩=>by
 have hl:=e.l1;have h1:=e.mn.mn.zero hp fq λk i=>by rw[<-h k,show D 1 k=0 from zA,xah]
 have c:=(h.trans<|h1.mul_zero_r _) 0;rw[zH,xah]at c;unfold D at c;rw[iq O,xaD iI W]at c;cases c
theorem QI.cop(hp:wh p=I){w:N J}(c:QI p u)(e:QI p w)(i:X u<=290)(j:X w<=290)(h:u≠w):qB p (U u) (U w):=by grind [QI.or,xH.fm,QI.mn,QI.ir,QI.l1]
def quo(hp:wh p=I)(e:xH p m)(hd:xH p d)(k:X m<=90000)(h:Di p (U d) (U m)):∃q,xH p q/\Cg p (U m) (U q*U d)/\X m+1=X q+X d:=by
 have⟨i,x⟩:=zo hp;have⟨A,j,h1⟩:=h;have z:=Km i e hd j h1;have⟨q,r,_,n,o,s,t,B⟩:=xA (fu:=3000000) hp e.fm hd.fm hd.ln k W<|IR _;have⟨a,b,c⟩:=tu i e hd j h1 n o s t;exact⟨q,a,b,c⟩
def zoW(hp:wh p=I):∀(n:K) {m:N J},X m=n->n<=290->xH p m->∃us:N (N J),(∀u∈us,QI p u/\X u<=n)/\Cg p (U m) (prZ<|us.map U):=by
 intro n
 induction n using xdc with
 |ind n j=>
  intro m G hn c;have⟨s,H⟩:=zo hp;have L:=c.ln;by_cases h1:X m=1
  ·refine⟨[],(λu e=>by cases e),?_⟩;have:=c.one h1;rw[this];refine Cg.of<|funext λk=> ?_;show U [1] k=D 1 k
   cases k with
   |zero=>rfl
   |succ k=>rw[zU iP];exact(zA).symm
  by_cases hi:QI p m
  ·refine⟨[m],λu e=> ?_,?_⟩
   ·rw[xad.1 e];exact⟨hi,W⟩
   ·exact Cg.of (yf<|U m).symm
  ·have⟨d,i,o,M,t⟩:∃d,xH p d/\Di p (U d) (U m)/\X d≠1/\d≠m:=by
    apply xai;intro x;refine hi ⟨c,W,λd z A=> ?_⟩;by_cases r:X d=1
    ·exact .inl r
    ·right;apply xai;intro B;exact x ⟨d,z,A,r,B⟩
   have⟨q,C,E,Q⟩:=quo hp c i W o;have R:=i.ln;have hv:X d<X m:=by
    apply xdk;intro h;exact t<|LF s i c o h
   have⟨us,hc,F⟩:=j (X d) W O W i;have⟨vs,hd,hl⟩:=j (X q) W O W C;refine⟨vs++us,λu e=> ?_,?_⟩
   ·obtain h|h:=So.1 e
    ·exact⟨(hd u h).1,by have:=(hd u h).2;lia⟩
    ·exact⟨(hc u h).1,by have:=(hc u h).2;lia⟩
   ·rw[xba,w9];exact E.trans<|hl.mul F
def aJ{p:J}{u:Pz}:∀{us:N Pz},(∀w∈us,Fs w)->u∈us->Di p u (prZ us)
 |[],_,h=>by cases h
 |w::us,c,h=>by
  have i:=Fs.prZ λg e=>c g<|UV _ e;obtain rfl|h:=xag.1 h
  ·exact⟨prZ us,i,Cg.of<|zk _ _⟩
  ·exact(aJ (λg e=>c g<|UV _ e) h).mul w<|c w<|FS
def QI.mem{p:J}(hp:wh p=I){u:N J}(c:QI p u)(k:X u<=290):∀{us:N (N J)},(∀w∈us,QI p w/\X w<=290)->Di p (U u) (prZ<|us.map U)->u∈us
 |[],_,h=>wS h<|c.ne (zo hp).1
 |w::us,i,h=>by
  by_cases e:u=w
  ·rw[e];exact FS
  ·have h1:=c.cop hp (i w<|FS).1 k (i w<|FS).2 e;refine UV _<|QI.mem hp c k (λg j=>i g<|UV _ j)<|Di.euclid (Fs.prZ λg j=> ?_) h1 h;obtain⟨l,_,rfl⟩:=xap.1 j;exact Fs.ci l
def Fs.to{n:K}(h:∀k,n<=k->f k=0):Fs f:=⟨n,h⟩
def Fs.vx:Fs vx:=⟨2,λk c=>zA⟩
def lst(hp:0<p){n:K}(h:∀k,n<=k->f k=0):∃l:N J,Fp p l/\X l<=n/\Cg p (U l) f:=by
 refine⟨pm p<|zl n f,cz hp _,xae (Hz _ _) (by rw[zD];exact IR _),?_⟩;exact(IC p _).trans<|Cg.of<|funext λk=>v8 h k
def QI.or'(hp:wh p=I)(e:QI p u)(i:X u<=290){n:K}(h:∀k,n<=k->f k=0)(hn:n<=290):Di p (U u) f\/qB p (U u) f:=by
 have⟨j,o⟩:=zo hp;have⟨l,h1,q,c⟩:=lst (p:=p) W h;obtain h4|h4:=e.or hp i h1 W
 ·exact .inl<|h4.cg c
 ·exact .inr<|h4.congr Cg.rfl c
def QI.const(hp:2<=p)(e:QI p u){c:J}(h:Di p (U u) (D c)):p∣c:=by
 have⟨q,fq,h⟩:=h;have hl:=e.l1;have h1:=e.mn.mn.zero hp fq λk j=>by rw[<-h k,show D c k=0 from zA,xah]
 have i:=(h.trans<|h1.mul_zero_r _) 0;rw[zH,xah]at i;exact xaF i
def Di.const{c:J}{u:Pz}(h:p∣c):Di p u (D c):=(Di.zero p u).cg λk=>by
 rw[zH];unfold D;split
 ·rw[xah,xav h]
 ·rfl
def Vl(p:J)(u:N J)(v:Pz)(c:J):Prop:=Di p (U u)<|v-D c
theorem zbm(a b:J):D (a-b)=D a-D b:=by grind [D,yY]
def Vl.uniq(hp:2<=p)(c:QI p u){b:J}(h:Vl p u v a)(g:Vl p u v b):p∣a-b:=by
 refine c.const hp<|(Di.sub g h).cg<|Cg.of ?_;rw[zbm];funext k;simp only[yY];lia
def Vl.add{p:J}{u:N J}{v w:Pz}{a b:J}(h:Vl p u v a)(g:Vl p u w b):Vl p u (v+w) (a+b):=by
 refine(Di.add h g).cg<|Cg.of ?_;rw[Tu];funext k;simp only[zI,yY];lia
def Vl.sub{p:J}{u:N J}{v w:Pz}{a b:J}(h:Vl p u v a)(g:Vl p u w b):Vl p u (v-w) (a-b):=by
 refine(Di.sub h g).cg<|Cg.of ?_;rw[zbm];funext k;simp only[yY];lia
def Vl.mul{p:J}{u:N J}{v w:Pz}{a b:J}(c:Fs v)(h:Vl p u v a)(g:Vl p u w b):Vl p u (v*w) (a*b):=by
 refine(Di.add (Di.mul v c g)<|Di.mul (D b) (Fs.pc b) h).cg<|Cg.of ?_;rw[vL,vL,zk v<|D b,kH,xbg b a];funext k;simp only[zI,yY];lia
def Vl.pc(p:J)(u:N J)(c:J):Vl p u (D c) c:=(Di.zero p<|U u).cg<|Cg.of<|funext λk=>by rw[yY,zH,xdP]
def Vl.pp{p:J}{u:N J}{v:Pz}{a:J}(c:Fs v)(h:Vl p u v a):∀n,Vl p u (pp v n) (a^n)
 |0=>by rw[xbI];exact Vl.pc p u 1
 |n+1=>by rw[xbr];exact Vl.mul (c.pp n) (Vl.pp c h n) h
def Vl.cg{p:J}{u:N J}{v w:Pz}{a:J}(h:Vl p u v a)(g:Cg p v w):Vl p u w a:=Di.cg h<|g.sub Cg.rfl
def Vl.md{b:J}(h:Vl p u v a)(g:p∣a-b):Vl p u v b:=by
 refine(Di.add h<|Di.const (u:=U u) g).cg<|Cg.of ?_;rw[zbm];funext k;simp only[zI,yY];lia
def Vl.di(hp:2<=p)(c:QI p u)(h:Vl p u v a):Di p (U u) v↔p∣a:=by
 constructor
 ·intro g;have h0:Vl p u v 0:=g.cg (Cg.of<|funext λk=>by rw[yY,zH,xcB]);have:=h.uniq hp c h0;rwa[xcB]at this
 ·intro g;have h0:Vl p u v 0:=h.md (by rwa[xcB]);exact Di.cg h0<|Cg.of<|funext λk=>by rw[yY,zH,xcB]
def zfo{p:J}(hp:wh p=I){u:N J}(e:QI p u)(o:X u<=290){v:Pz}{n:K}(hv:∀k,n<=k->v k=0)(q:1<=n)(hn:n<=290):∀j,Di p (U u) (prv v j)->∃c:K,c<j/\Vl p u v c
 |0,h=>wS h<|e.ne (zo hp).1
 |j+1,h=>by
  have r:∀k,n<=k->(v-D (j:J)) k=0:=λk s=>by rw[yY,hv k s,show D (j:J) k=0 from zA];rfl
  obtain h1|h1:=e.or' hp o r hn
  ·exact⟨j,W,h1⟩
  ·have t:∀i,Fs (prv v i):=λi=>by
    induction i with
    |zero=>exact Fs.pc 1
    |succ i x=>exact x.mul<|(Fs.to hv).subt<|Fs.pc _
   have z:Di p (U u) (prv v j):=Di.euclid (t j) h1<|h.cg<|Cg.of<|zk _ _;have⟨c,hc,A⟩:=zfo hp e o hv q hn j z;exact⟨c,W,A⟩
def zjR(hp:wh (P:J)=I)(h:QI (P:J) u)(i:X u<=290)(hc:Di (P:J) (U u) (U m)){n:K}(hv:∀k,n<=k->v k=0)(hd:1<=n)(hn:n<=290)(j:Di (P:J) (U m) (pp v P-v)):∃c:K,c<P/\Vl (P:J) u v c:=by
 have⟨o,q⟩:=zo hp;have e:=Y0 hp;rw[xaN]at e;exact zfo hp h i hv hd hn P<|(hc.trans j).cg (zi8 W e v).symm
def zou{p:J}{m:N J}(c:xH p m):∀(n:K) (f:Pz),(∀k,n<=k->f k=0)->∃q r:Pz,Fs q/\(∀k,X m-1<=k->r k=0)/\f=q*U m+r
 |0,f,h=>⟨D 0,D 0,Fs.pc 0,λk _=>zH k,qR λk=>by rw[zI,zQ,zH,h k W];rfl⟩
 |n+1,f,h=>by
  have hl:=c.ln;by_cases hn:n+1<=X m-1
  ·exact⟨D 0,f,Fs.pc 0,λk i=>h k W,qR λk=>by rw[zI,zQ,zH,xco]⟩
  ·have⟨d,hd⟩:∃d,d=X m-1:=⟨_,O⟩;have⟨q,r,fq,j,o⟩:=zou c n (f-mono (n-d) (f n)*U m) λk i=>by
    rw[yY,qI];unfold sh;rw[zP];by_cases e:k=n
    ·have s:=c.top;rw[e,(W:n-(n-d)=X m-1),s];lia
    ·rw[h k W,zU W];lia
   refine⟨q+mono (n-d) (f n),r,fq.add ⟨n+1,λk i=>zA⟩,j,?_⟩;rw[ym];funext k;have:=Wr o k;simp only[zI,yY]at this⊢;lia
def zoX(hp:wh (P:J)=I)(M:xH (P:J) m)(F:∀u∈us,QI (P:J) u/\X u<=290)(Kc:us.Pairwise (λa b=>qB (P:J) (U a)<|U b))(hc:Cg (P:J) (U m) (prZ<|us.map U))(G:u∈us):
 ∃e:Pz,(∀k,X m-1<=k->e k=0)/\Vl (P:J) u e 1/\(∀w,w∈us->w≠u->Vl (P:J) w e 0)/\Di (P:J) (U m) (pp e P-e):=by
 have⟨H,p2⟩:=zo hp;have Q:=Y0 hp;rw[xaN]at Q;have⟨a,b,hd⟩:=xeg G;have o:∀{l:N (N J)},∀g∈l.map U,Fs g:=λg x=>by obtain⟨l,_,rfl⟩:=xap.1 x;exact Fs.ci l
 have⟨i,C⟩:∃i,i=prZ ((a++b).map U):=⟨_,O⟩;have R:Fs i:=by rw[C];exact Fs.prZ o
 have S:qB (P:J) (U u) i:=by
  rw[C];refine(qB.prZ (Fs.ci u) o λg x=> ?_).symm;obtain⟨l,hl,rfl⟩:=xap.1 x;rw[hd,xdi,xdC]at Kc;obtain h|h:=So.1 hl
  ·exact Kc.2.2 l h u<|FS
  ·exact(Kc.2.1.1 l h).symm
 have⟨s,t,fs,K,h1⟩:=S;have⟨n,hn⟩:=K.mul R;have⟨q,e,fq,L,T⟩:=zou M n (t*i) hn;have V:∀w∈us,Di (P:J) (U w) (U m):=λw j=>Di.cg (aJ o<|xbK j) hc.symm;have hi:∀w∈us,∀{c:J},Vl (P:J) w (t*i) c->Vl (P:J) w e c:=λw j c h=>by
  have z:=Di.sub h<|Di.mul q fq<|V w j;refine z.cg<|Cg.of ?_;rw[T];funext k;simp only[zI,yY];lia
 have v1:Vl (P:J) u e 1:=hi u G (by
  have z:Di (P:J) (U u) (D 0-s*U u):=(Di.zero _ _).sub ⟨s,fs,Cg.rfl⟩;refine z.cg<|Cg.trans (Cg.of ?_)<|(Cg.rfl (f:=t*i)).sub h1;funext k;simp only[zI,yY,zH];lia)
 have v0:∀w,w∈us->w≠u->Vl (P:J) w e 0:=λw j Y=>hi w j (by
  have h3:w∈a++b:=by
   rw[hd]at j;obtain h|h:=So.1 j
   ·exact xdL _ h
   ·obtain h|h:=xag.1 h
    ·exact wS h Y
    ·exact xeh _ h
  have z:Di (P:J) (U w) i:=by rw[C];exact aJ o<|xbK h3
  exact(z.mul t K).cg<|Cg.of<|funext λk=>by rw[yY,zH,xcB])
 refine⟨e,L,v1,v0,?_⟩;have B:=Fs.to L;have hj:Di (P:J) (prZ<|us.map U) (pp e P-e):=by
  refine Di.prz ((B.pp P).subt B) o ?_ λg x=> ?_
  ·exact xeN.2 Kc
  ·obtain⟨w,j,rfl⟩:=xap.1 x;by_cases E:w=u
   ·subst E;have A:=Vl.sub (Vl.pp B v1 P) v1;rw[Int.one_pow,xdP]at A;exact(A.di H (F w j).1).2<|xdy _
   ·have A:=Vl.sub (Vl.pp B (v0 w j E) P)<|v0 w j E;rw[Int.zero_pow W,xdP]at A;exact(A.di H (F w j).1).2<|xdy _
 have⟨r,fr,h5⟩:=hj;exact⟨r,fr,h5.trans<|Cg.rfl.mul hc.symm⟩
def oc{p:J}{u:N J}{a c:K->J}{b:K->Pz}:∀n,(∀i,i<n->Vl p u (b i) (c i))->Vl p u (smP n λi=>D (a i)*b i) (yp n λi=>a i*c i)
 |0,_=>Vl.pc p u 0
 |n+1,h=>Vl.add (oc n λi hi=>h i W)<|Vl.mul (Fs.pc _) (Vl.pc p u<|a n)<|h n W
def sep(hp:wh (P:J)=I)(s:xH (P:J) m)(j:∀u∈us,QI (P:J) u/\X u<=290)(Kc:us.Pairwise (λa b=>qB (P:J) (U a)<|U b))(hc:Cg (P:J) (U m) (prZ<|us.map U)){n:K}(t:∀e:Pz,(∀k,X m-1<=k->e k=0)->Di (P:J) (U m) (pp e P-e)->∃a:K->J,Cg (P:J) e<|smP n λi=>D (a i)*b i){w:N J}(o:u∈us)(hd:w∈us){c:K->J}(h1:∀i,i<n->Vl (P:J) u (b i) (c i))(x:∀i,i<n->Vl (P:J) w (b i) (c i)):u=w:=by
 have⟨q,H⟩:=zo hp;apply xai;intro z;have⟨e,e1,A,B,C⟩:=zoX hp s j Kc hc o;have⟨a,r⟩:=t e e1 C;have f1:=(oc (a:=a) n h1).cg r.symm;have f2:=(oc (a:=a) n x).cg r.symm;have g1:=A.uniq q (j u o).1 f1;have E:=(B w hd λh=>z h.symm).uniq q (j w hd).1 f2;have F:=xdp g1 E;have⟨k,L⟩:=F;have G:(P:J)*k=1:=W
 have h6:k=1\/k<=0\/2<=k:=W
 obtain h6|h6|h6:=h6
 ·rw[h6]at G;lia
 ·have:=xaU h6 (W:(0:J)<=P);lia
 ·have:=xaU h6 (W:(0:J)<=P);lia
theorem zcZ{P:J}{a b:J}(h:P∣a-b):∀n:K,P∣a^n-b^n
 |0=>by rw[xbI,xbI,xdP];exact xdy _
 |n+1=>by
  have⟨x,c⟩:=h;have⟨y,e⟩:=zcZ ⟨x,c⟩ n;refine⟨y*a+b^n*x,?_⟩;rw[xbr,xbr];grind
def sJ(P:K)(y:J):Prop:=if 2<P then(P:J)∣y^((P-1)/2)-1 else(P:J)∣y
def sJ.md{z:J}(h:(P:J)∣y-z)(g:sJ P y):sJ P z:=by
 unfold sJ at g⊢;split
 ·rw[aM ‹_›]at g;have:=zcZ h<|(P-1)/2;have e:=xdp g this;have c:y^((P-1)/2)-1-(y^((P-1)/2)-z^((P-1)/2))=z^((P-1)/2)-1:=W
  rwa[c]at e
 ·rw[if_neg ‹_›]at g;have e:=xdp g h;have c:y-(y-z)=z:=W
  rwa[c]at e
def sJ.iff{z:J}(h:(P:J)∣y-z):sJ P y↔sJ P z:=by
 refine⟨sJ.md h,sJ.md ?_⟩;have⟨k,c⟩:=h;exact⟨-k,by rw[Int.mul_neg];lia⟩
def TE(hp:wh (P:J)=I){d:J}(hd:¬(P:J)∣d):∃k:K,(P:J)∣(k:J)*d-1:=by
 have⟨n,o⟩:=zo hp;have h0:=xcI d (W:(P:J)≠0);have h1:=xdD d (W:(0:J)<P);have q:d%P≠0:=λe=>hd<|xaF e;have c:=Dz hp (W:0<d%P) h1;have⟨x,h⟩:∃x,x=(d%P)^((P:J)-2).toNat:=⟨_,O⟩;rw[<-h]at c;have i:0<=x:=by rw[h];exact Int.pow_nonneg h0
 refine⟨x.toNat,?_⟩;rw[xcZ i];have j:(x*d)%P=1%P:=by rw[xbc,<-xcC d<|xet _,<-xbc,c,xaD iI W]
 exact xaF<|xaI.1 j
def zkR(hp:wh (P:J)=I)(A:P=2\/P%2=1){b:J}(h:∀c:K,c<P->(sJ P (a+c)↔sJ P (b+c))):(P:J)∣a-b:=by
 have⟨B,C⟩:=zo hp;apply xai;intro hd;have n:∀y:J,sJ P (a+y)↔sJ P (b+y):=λy=>by
  have e1:=xcI y (W:(P:J)≠0);have D:=xdD y (W:(0:J)<P);have j:=h (y%P).toNat W;rw[xcZ e1]at j;have E:(P:J)∣y-y%P:=⟨y/P,by have:=xfB y P;lia⟩;have o:(P:J)∣a+y-(a+y%P):=by rwa[(W:a+y-(a+y%P)=y-y%P)]
  have r:(P:J)∣b+y-(b+y%P):=by rwa[(W:b+y-(b+y%P)=y-y%P)]
  exact(sJ.iff o).trans<|j.trans (sJ.iff r).symm
 have s:∀y:J,sJ P y↔sJ P (y+(a-b)):=λy=>by
  have:=n<|y-b;rw[(W:b+(y-b)=y),(W:a+(y-b)=y+(a-b))]at this;exact this.symm
 have t:∀k:K,sJ P 0↔sJ P ((k:J)*(a-b)):=λk=>by
  induction k with
  |zero=>rw[show((0:K):J)=0 from O,xaP]
  |succ k x=>
   refine x.trans<|(s _).trans ?_;rw[xff,Int.add_mul,show((1:K):J)=1 from O,xcv]
 have⟨k,h1⟩:=TE hp hd;have e:=(t k).trans<|sJ.iff h1;have hc:¬(P:J)∣1:=λ⟨q,z⟩=>by
  have h6:q<=0\/1<=q:=W
  obtain h6|h6:=h6
  ·have:=xaU h6 (W:(0:J)<=P);lia
  ·have:=xaU h6 (W:(0:J)<=P);lia
 unfold sJ at e;by_cases i:2<P
 ·rw[iq i,iq i,Int.one_pow,xdP,Int.zero_pow W]at e;have:=e.2<|xdy _;refine hc ?_;have⟨q,z⟩:=this;exact⟨-q,by rw[Int.mul_neg];lia⟩
 ·rw[ir i,ir i]at e;exact hc<|e.1<|xdy _
theorem zhf(A B D:K->J)(x z:J):∀n,yp n (λi=>A i*(B i-x*D i*z))=yp n (λi=>A i*B i)-x*z*yp n (λi=>A i*D i)
 |0=>by show(0:J)=0-x*z*0;lia
 |n+1=>by
  show yp n _+A n*(B n-x*D n*z)=yp n _+A n*B n-x*z*(yp n _+A n*D n);rw[zhf A B D x z n];grind
theorem CX{P:K}(hp:wh (P:J)=I):∀(n:K) (c:N K) (A C:K->K->J),c.Nodup->(∀j∈c,∀k∈c,(P:J)∣yp n (λi=>A j i*C i k)-(if j=k then 1 else 0))->X c<=n
 |0,[],_,_,_,_=>IR _
 |0,j::c,A,C,_,h=>by
  exfalso;have⟨Y,p2⟩:=zo hp;have:=h j (FS) j<|FS;rw[iq O]at this;have⟨q,L⟩:=this;have hg:(0:J)-1=P*q:=L;have h6:q<= -1\/0<=q:=W
  obtain h6|h6:=h6
  ·have:=xaU h6 (W:(0:J)<=P);lia
  ·have:=xcz (W:(0:J)<=P) h6;lia
 |n+1,c,A,C,t,h=>by
  by_cases D:∀j∈c,(P:J)∣C n j
  ·refine Nat.le_succ_of_le<|CX hp n c A C t λj r k z=> ?_;have h1:=h j r k z;have B:(P:J)∣A j n*C n k:=xbx (D k z)<|xcL _ _;have M:=xdp h1 B;have e:yp (n+1) (λi=>A j i*C i k)-(if j=k then 1 else 0)-A j n*C n k=yp n (λi=>A j i*C i k)-(if j=k then 1 else 0):=by
    show yp n _+A j n*C n k-_-A j n*C n k=_;lia
   rwa[e]at M
  ·have⟨o,E,hc⟩:∃o,o∈c/\¬(P:J)∣C n o:=by
    apply xai;intro Q;refine D λj r=> ?_;apply xai;intro h1;exact Q ⟨j,r,h1⟩
   have⟨x,R⟩:=TE hp hc;have hd:=List.length_erase_of_mem E;have S:=xfl E;have:=CX hp n (c.erase o) A (λi k=>C i k-(x:J)*C i o*C n k) (t.erase o) λj r k z=>by
    have⟨n1,G⟩:=t.mem_erase_iff.1 r;have⟨n2,T⟩:=t.mem_erase_iff.1 z;have h1:=h j G k T;have B:=h j G o E;rw[ir n1,xcB]at B;rw[zhf];have⟨k1,e1⟩:=h1;have⟨k2,H⟩:=B;have⟨U,e3⟩:=R;have s:yp n (λi=>A j i*C i k)+A j n*C n k-(if j=k then 1 else 0)=P*k1:=e1;have F:yp n (λi=>A j i*C i o)+A j n*C n o=P*k2:=H;have V:(if j=k then(1:J)else 0)=if j=k then 1 else 0:=O;generalize(if j=k then(1:J)else 0)=dl at s⊢;generalize yp n (λi=>A j i*C i k)=s1 at s⊢;generalize yp n (λi=>A j i*C i o)=s0 at F⊢;refine⟨k1-((x:J)*C n k*k2-A j n*C n k*U),?_⟩;clear e1 H V D hc h hd S;grind
   lia
structure Sf(p:J)(m:N J)(us:N (N J)):Prop where
 hp:wh p=I
 mn:xH p m
 ml:m.length<=290
 ir:∀u∈us,QI p u/\u.length<=290
 pw:us.Pairwise (λa b=>qB p (U a)<|U b)
 cg:Cg p (U m) (prZ<|us.map U)
theorem bn:∀g∈l.map U,Fs g:=by grind [U,Fs.ci]
theorem QI.self(hp:2<=p)(c:QI p u):¬qB p (U u) (U u):=λ⟨s,t,fs,e,h⟩=>by
 refine c.ne hp ⟨s+t,fs.add e,h.symm.trans<|Cg.of ?_⟩;rw[ym]
def Sf.dv(h:Sf p m us)(c:u∈us):Di p (U u) (U m):=(aJ bn<|xbK c).cg h.cg.symm
def Sf.mem{p:J}{m:N J}{us:N (N J)}(h:Sf p m us){u:N J}(c:QI p u)(e:X u<=290)(hd:Di p (U u) (U m)):u∈us:=c.mem h.hp e h.ir<|hd.cg h.cg
def Sf.sq(h:Sf p m us)(e:u∈us):¬Di p (U u*U u) (U m):=λhd=>by
 have⟨c,A⟩:=zo h.hp;obtain⟨a,b,rfl⟩:=xeg e;have⟨hi,j⟩:=h.ir u e;have Kc:=h.pw;rw[xdi,xdC]at Kc;have⟨q,fq,h1⟩:=hd;have i:=h.cg;rw[xba,xbU,w9]at i;have n:Cg p (prZ (a.map U)*(U u*prZ (b.map U))) (q*(U u*U u)):=i.symm.trans h1;have o:Fs (prZ<|(a++b).map U):=Fs.prZ bn;have r:Cg p ((prZ ((a++b).map U)-q*U u)*U u) (D 0):=by
  rw[qw,xba,w9];refine Cg.trans (Cg.sub (Cg.of ?_)<|Cg.of<|zd q (U u)<|U u)<|Cg.iff_sub.1 n;rw[zd,zk<|prZ<|b.map U]
 have s:=hi.mn.mn.zero c (o.subt<|fq.mul<|Fs.ci u) λk B=>by rw[r k,zH,xah]
 have t:Di p (U u) (prZ<|(a++b).map U):=⟨q,fq,Cg.iff_sub.2 s⟩;have x:=hi.mem h.hp j (us:=a++b) (λw z=>by
  obtain h|h:=So.1 z
  ·exact(by assumption:Sf p m (a++u::b)).ir w<|xdL _ h
  ·exact(by assumption:Sf p m (a++u::b)).ir w<|xeh _<|UV _ h) t
 obtain h8|h8:=So.1 x
 ·exact hi.self c<|Kc.2.2 u h8 u<|FS
 ·exact hi.self c<|Kc.2.1.1 u h8
def Sf.len(h:Sf p m us)(c:xH p g)(hd:Di p (U g) (U m)):X g<=290:=by
 have⟨q,fq,h1⟩:=hd;exact xae (Km (zo h.hp).1 h.mn c fq h1) h.ml
def Sf.some{p:J}{m:N J}{us:N (N J)}(h:Sf p m us){g:N J}(e:xH p g)(hd:Di p (U g) (U m))(hl:1<X g):∃u,u∈us/\Di p (U u) (U g):=by
 have j:=h.len e hd;have⟨vs,h1,i⟩:=zoW h.hp (X g) O j e
 cases vs with
 |nil=>
  exfalso;have c:=i<|X g-1;have k:=e.top;have hp:=(zo h.hp).1;rw[k,show prZ (List.map U [])=D 1 from O,show D 1 (X g-1)=0 from zA,xah,xaD iI W]at c;cases c
 |cons v vs=>
  have c:Di p (U v) (U g):=(aJ bn<|xbK<|FS).cg i.symm;have⟨n,o⟩:=h1 v<|FS;exact⟨v,h.mem n W<|c.trans hd,c⟩
def Sf.one{p:J}{m:N J}{us:N (N J)}(h:Sf p m us){g:N J}(c:xH p g)(hd:Di p (U g) (U m))(hl:1<X g)(o:∀u∈us,∀w∈us,Di p (U u) (U g)->Di p (U w) (U g)->u=w):QI p g:=by
 have⟨s,A⟩:=zo h.hp;have B:=h.len c hd;have⟨u,i,h1⟩:=h.some c hd hl;have⟨hi,C⟩:=h.ir u i;have⟨q,j,k,D⟩:=quo h.hp c hi.mn W h1;by_cases t:1<X q
 ·exfalso;have hc:Di p (U q) (U g):=⟨U u,Fs.ci u,k.trans<|Cg.of<|zk _ _⟩;have⟨w,x,n⟩:=h.some j (hc.trans hd) t;have e:=o w x u i (n.trans hc) h1;subst e;have⟨r,fr,z⟩:=n;refine h.sq i<|Di.trans ⟨r,fr,k.trans<|(z.mul Cg.rfl).trans<|Cg.of<|zd _ _ _⟩ hd
 ·have hn:=j.ln;have E:=j.one W;have:g=u:=by
   refine(LF s hi.mn c h1 ?_).symm;lia
  rw[this];exact hi
def Sf.apart(h:Sf p m us){a b:Pz}(k:Fs a)(n:Fs b)(c:Di p (a*b) (U m))(e:u∈us)(h1:Di p (U u) a)(i:Di p (U u) b):V3:=by
 have⟨q,fq,e1⟩:=h1;have⟨r,fr,j⟩:=i;refine h.sq e<|Di.trans ⟨q*r,fq.mul fr,(e1.mul j).trans<|Cg.of ?_⟩ c;rw[zd,zd,zB (U u) r]
def znJ{t e i:N J}{S:K}(c:BzR p g t d e i S)(u:N J):Di p (U u) (U d)↔Di p (U u) (U g)/\Di p (U u) (U t):=by
 have⟨A,C,j,k,h1,n⟩:=c.dv;refine⟨λh=>⟨h.trans ⟨A,j,h1⟩,h.trans ⟨C,k,n⟩⟩,λ⟨a,b⟩=> ?_⟩;exact(Di.add (a.mul _<|Fs.ci _)<|b.mul _<|Fs.ci _).cg c.cg.symm
def dj{α:Type}[DecidableEq α]:∀{vs us:N α},vs.Nodup->(∀v∈vs,v∈us)->X vs<=X us
 |[],_,_,_=>xac _
 |v::vs,us,hn,h=>by
  have⟨h1,i⟩:=xfg.1 hn;have hv:=h v<|FS;have j:=dj (us:=us.erase v) i λw c=>by
   refine(List.mem_erase_of_ne λe=> ?_).2<|h w<|UV _ c;rw[e]at c;exact h1 c
  have k:=List.length_erase_of_mem hv;have n:=xfl hv;simp only[xaw];lia
def Sf.nodup(h:Sf p m us):us.Nodup:=by
 have hp:=(zo h.hp).1;have:∀us:N (N J),(∀u∈us,QI p u/\X u<=290)->us.Pairwise (λa b=>qB p (U a)<|U b)->us.Nodup:=λus=>by
  induction us with
  |nil=>intro _ _;exact List.nodup_nil
  |cons u us c=>
   intro hi e;have⟨w1,i⟩:=xdC.1 e;refine xfg.2 ⟨λj=> ?_,c (λg k=>hi g<|UV _ k) i⟩;exact(hi u<|FS).1.self hp<|w1 u j
 exact this us h.ir h.pw
structure Pl(p:J)(m:N J)(l:N (N J)):Prop where
 mn:∀g∈l,xH p g/\1<g.length
 pr:Cg p (U m) (prZ<|l.map U)
def Pl.dv(h:Pl p m l)(c:g∈l):Di p (U g) (U m):=(aJ bn<|xbK c).cg h.pr.symm
theorem zbI(a b:N (N J))(g:N J):prZ ((a++g::b).map U)=U g*prZ ((a++b).map U):=by grind [prZ,U,w9,zB]
def Sf.pick{p:J}{m:N J}{us:N (N J)}(h:Sf p m us):∀{l:N (N J)},(∀g∈l,xH p g/\1<X g)->Di p (prZ<|l.map U) (U m)->∃vs:N (N J),X vs=X l/\vs.Nodup/\∀v∈vs,v∈us/\Di p (U v) (prZ<|l.map U)
 |[],_,_=>⟨[],O,List.nodup_nil,λv hv=>by cases hv⟩
 |g::l,c,hd=>by
  have fl:Fs (prZ<|l.map U):=Fs.prZ bn;have d1:Di p (U g) (prZ<|(g::l).map U):=⟨prZ<|l.map U,fl,Cg.of<|zk _ _⟩;have d2:Di p (prZ<|l.map U) (prZ<|(g::l).map U):=⟨U g,Fs.ci g,Cg.rfl⟩;have⟨j,k⟩:=c g<|FS;have⟨u,e,i⟩:=h.some j (d1.trans hd) k;have⟨vs,v1,n,v3⟩:=h.pick (λg o=>c g<|UV _ o)<|d2.trans hd;refine⟨u::vs,by simp[v1],xfg.2 ⟨λhc=> ?_,n⟩,λv hv=> ?_⟩
  ·exact h.apart (Fs.ci g) fl hd e i (v3 u hc).2
  ·obtain rfl|hv:=xag.1 hv
   ·exact⟨e,i.trans d1⟩
   ·exact⟨(v3 v hv).1,(v3 v hv).2.trans d2⟩
def Sf.more(h:Sf p m us)(hl:Pl p m l){w:N J}(j:g∈l)(c:u∈us)(e:w∈us)(h1:Di p (U u) (U g))(k:Di p (U w) (U g))(n:u≠w):X l<X us:=by
 obtain⟨a,b,rfl⟩:=xeg j;have i:=hl.pr;rw[zbI]at i;have fl:Fs (prZ<|(a++b).map U):=Fs.prZ bn;have hd:Di p (U g*prZ ((a++b).map U)) (U m):=⟨D 1,Fs.pc 1,i.trans<|Cg.of (zC _).symm⟩;have⟨vs,v1,o,v3⟩:=h.pick (l:=a++b) (λx q=>by
  obtain h|h:=So.1 q
  ·exact hl.mn x<|xdL _ h
  ·exact hl.mn x<|xeh _<|UV _ h) (Di.trans ⟨U g,Fs.ci g,Cg.rfl⟩ hd)
 have hn:(u::w::vs).Nodup:=by
  refine xfg.2 ⟨λhc=> ?_,xfg.2 ⟨λhc=> ?_,o⟩⟩
  ·obtain hc|hc:=xag.1 hc
   ·exact n hc
   ·exact h.apart (Fs.ci g) fl hd c h1 (v3 u hc).2
  ·exact h.apart (Fs.ci g) fl hd e k (v3 w hc).2
 have:=dj (us:=us) hn λv hv=>by
  obtain rfl|hv:=xag.1 hv
  ·exact c
  ·obtain rfl|hv:=xag.1 hv
   ·exact e
   ·exact(v3 v hv).1
 simp only[xaw,xaq]at this v1⊢;lia
def Pl.split{a b:N (N J)}{q:N J}(h:Pl p m (a++g::b))(hd:xH p d)(c:xH p q)(e:1<X d)(i:1<X q)(hc:Cg p (U g) (U q*U d)):Pl p m (a++d::(b++[q])):=by
 refine⟨λx hx=> ?_,?_⟩
 ·obtain hx|hx:=So.1 hx
  ·exact h.mn x<|xdL _ hx
  ·obtain rfl|hx:=xag.1 hx
   ·exact⟨hd,e⟩
   ·obtain hx|hx:=So.1 hx
    ·exact h.mn x<|xeh _<|UV _ hx
    ·rw[xad.1 hx];exact⟨c,i⟩
 ·have h1:=h.pr;rw[zbI]at h1⊢;rw[<-xao,xba,w9];refine h1.trans<|(hc.mul Cg.rfl).trans<|Cg.of ?_;show U q*U d*prZ ((a++b).map U)=U d*(prZ ((a++b).map U)*(U q*D 1));rw[yf,zk (prZ _)<|U q,zB<|U d,zd]
structure Bs(P:K)(m:N J)(b:K->Pz)(n:K):Prop where
 od:P=2\/P%2=1
 ml:1<m.length
 sp:∀e:Pz,(∀k,m.length-1<=k->e k=0)->Di (P:J) (U m) (pp e P-e)->∃a:K->J,Cg (P:J) e<|smP n λi=>D (a i)*b i
 sm:∀i,i<n->∀k,m.length-1<=k->b i k=0
 fx:∀i,i<n->Di (P:J) (U m) (pp (b i) P-b i)
def Bs.val(h:Sf (P:J) m us){n:K}(e:Bs P m b n)(j:u∈us){i:K}(hi:i<n):∃c:K,c<P/\Vl (P:J) u (b i) c:=by
 have hl:=h.ml;have k:=e.ml;exact zjR h.hp (h.ir u j).1 (h.ir u j).2 (h.dv j) (n:=X m-1) (e.sm i hi) W W<|e.fx i hi
def Bs.le(h:Sf (P:J) m us){n:K}(E:Bs P m b n):X us<=n:=by
 have⟨F,V⟩:=zo h.hp;have hl:=h.nodup;have hd:∀j,j<X us->us.getD j []∈us:=λj k=>by rw[xaa,xak k];exact xcd k
 have G:∀i j,∃c:J,i<n->j<X us->Vl (P:J) (us.getD j []) (b i) c:=λi j=>by
  by_cases hi:i<n
  ·by_cases k:j<X us
   ·have⟨c,_,hc⟩:=E.val h (hd j k) hi;exact⟨c,λ_ _=>hc⟩
   ·exact⟨0,λ_ h=>wS h k⟩
  ·exact⟨0,λh=>wS h hi⟩
 have H:∀j,∃a:K->J,j<X us->∃e:Pz,Cg (P:J) e (smP n λi=>D (a i)*b i)/\Vl (P:J) (us.getD j []) e 1/\∀w,w∈us->w≠us.getD j []->Vl (P:J) w e 0:=λj=>by
  by_cases k:j<X us
  ·have⟨e,e1,t,x,s⟩:=zoX h.hp h.mn h.ir h.pw h.cg<|hd j k;have⟨a,S⟩:=E.sp e e1 s;exact⟨a,λ_=>⟨e,S,t,x⟩⟩
  ·exact⟨λ_=>0,λh=>wS h k⟩
 have z:∃A:K->K->J,∀j,j<X us->∃e:Pz,Cg (P:J) e (smP n λi=>D (A j i)*b i)/\Vl (P:J) (us.getD j []) e 1/\∀w,w∈us->w≠us.getD j []->Vl (P:J) w e 0:=⟨λj=>Classical.choose<|H j,λj=>xfC<|H j⟩;have B:∃C:K->K->J,∀i j,i<n->j<X us->Vl (P:J) (us.getD j []) (b i) (C i j):=⟨λi j=>Classical.choose<|G i j,λi j=>xfC<|G i j⟩;have⟨A,z⟩:=z;have⟨C,B⟩:=B;have:=CX h.hp n (xaY (X us)) A C List.nodup_range λj k o T=>by
  have l1:=xbd.1 k;have r:=xbd.1 T;have⟨e,e1,t,x⟩:=z j l1;have s:=(oc (a:=A j) n λi hi=>B i o hi r).cg e1.symm;have L:=(h.ir _<|hd o r).1;by_cases q:j=o
  ·subst q;rw[iq O];exact s.uniq F L t
  ·rw[ir q];refine s.uniq F L<|x _ (hd o r) λU=>q ?_;have g1:=xaa (l:=us) (i:=j) (a:=[]);have M:=xaa (l:=us) (i:=o) (a:=[]);rw[xak l1]at g1;rw[xak r]at M;have Q:us[j]=us[o]:=by
    have:us.getD j []=us.getD o []:=U.symm;rw[g1,M]at this;exact this
   apply xai;intro Y;have R:=xcT.1 hl;obtain hlt|hlt:=Nat.lt_or_gt_of_ne q
   ·exact R j o l1 r hlt Q
   ·exact R o j r l1 hlt Q.symm
 rwa[xep]at this
def Ct(P:K)(us:N (N J))(v:Pz)(c:J)(g:N J):Prop:=
 (∀u∈us,Di (P:J) (U u) (U g)->∀a,Vl (P:J) u v a->sJ P (a+c))\/(∀u∈us,Di (P:J) (U u) (U g)->∀a,Vl (P:J) u v a->¬sJ P (a+c))
def Ct.sub{c:J}(h:Ct P us v c g)(hd:Di (P:J) (U d) (U g)):Ct P us v c d:=by
 obtain h|h:=h
 ·exact .inl λu e i=>h u e<|i.trans hd
 ·exact .inr λu e i=>h u e<|i.trans hd
def Pl.done(h:Sf (P:J) m us){n:K}(e:Bs P m b n)(hl:Pl (P:J) m l)(h0:∃c:J,Cg (P:J) (b 0)<|D c)(B:X l=n\/∀i,1<=i->i<n->∀c:K,c<P->∀g∈l,Ct P us (b i) c g):∀g∈l,QI (P:J) g:=λg o=>by
 have⟨H,L⟩:=zo h.hp;have⟨g1,E⟩:=hl.mn g o;refine h.one g1 (hl.dv o) E λu j w k h1 r=> ?_;apply xai;intro A;have hn:=e.le h;have M:=h.more hl o j k h1 r A;obtain he|he:=B
 ·lia
 ·refine A ?_;have hc:∀i,∃c:J,i<n->Vl (P:J) u (b i) c/\Vl (P:J) w (b i) c:=λi=>by
   by_cases hi:i<n
   ·by_cases F:i=0
    ·have⟨c,hc⟩:=h0;subst F;exact⟨c,λ_=>⟨(Vl.pc _ u c).cg hc.symm,(Vl.pc _ w c).cg hc.symm⟩⟩
    ·have⟨x,_,s⟩:=e.val h j hi;have⟨y,_,t⟩:=e.val h k hi;have hd:(P:J)∣(x:J)-y:=zkR h.hp e.od λc G=>by
      obtain ht|ht:=he i W hi c G g o
      ·exact⟨λ_=>ht w k r _ t,λ_=>ht u j h1 _ s⟩
      ·exact⟨λz=>wS z<|ht u j h1 _ s,λz=>wS z<|ht w k r _ t⟩
     exact⟨y,λ_=>⟨s.md hd,t⟩⟩
   ·exact⟨0,λh=>wS h hi⟩
  have q:∃C:K->J,∀i,i<n->Vl (P:J) u (b i) (C i)/\Vl (P:J) w (b i) (C i):=⟨λi=>Classical.choose<|hc i,λi=>xfC<|hc i⟩;have⟨C,q⟩:=q;exact sep h.hp h.mn h.ir h.pw h.cg e.sp j k (λi hi=>(q i hi).1) λi hi=>(q i hi).2
end
section
variable{p:wl}{a g d t v ds m:xS wl}{x y:Pz}{E fu P k i nb:wr}{us l bs:xS (xS wl)}
def Em(p:J)(a:N J)(x y:Pz):Prop:=Di p (U a)<|x-y
def Em.rfl:Em p a x x:=(Di.zero p<|U a).cg<|Cg.of<|funext λk=>by rw[yY,zH,xdP]
def Em.cg{p:J}{a:N J}{x y:Pz}(h:Cg p x y):Em p a x y:=(Di.zero p<|U a).cg (Cg.iff_sub.1 h).symm
def Em.symm(h:Em p a x y):Em p a y x:=(Di.sub (Di.zero p<|U a) h).cg<|Cg.of<|funext λk=>by simp only[yY,zH];lia
def Em.trans{z:Pz}(h:Em p a x y)(g:Em p a y z):Em p a x z:=(Di.add h g).cg<|Cg.of<|funext λk=>by simp only[zI,yY];lia
def Em.mul{p:J}{a:N J}{x y z w:Pz}(fx:Fs x)(b:Fs w)(h:Em p a x y)(g:Em p a z w):Em p a (x*z) (y*w):=by
 refine(Di.add (Di.mul x fx g)<|Di.mul w b h).cg<|Cg.of ?_;rw[vL,vL,zk w x,zk w y];funext k;simp only[zI,yY];lia
def Em.dv{b:N J}(h:Em p a x y)(g:Di p (U b) (U a)):Em p b x y:=g.trans h
def Em.vl{u:N J}{c:J}(h:Em p u x y)(g:Vl p u y c):Vl p u x c:=by
 refine(Di.add h g).cg<|Cg.of ?_;funext k;simp only[zI,yY];lia
def Em.rest{x q r:N J}(h:Cg p (U x) (U q*U a+U r)):Em p a (U x) (U r):=by
 refine⟨U q,Fs.ci q,(h.sub Cg.rfl).trans<|Cg.of ?_⟩;funext k;simp only[zI,yY];lia
theorem zjw(h0:0<E)(h:E<18446744073709551616):ya (E:J)=(wL,[E]):=by grind [ya,HL]
def zpq(n:K):n<2^bl n:=by
 induction n using xdc with
 |ind n b=>
  obtain rfl|h:=xbV n
  ·skip;decide
  ·have h1:=b (n/2) W;rw[aH h];lia
structure PwI(p:J)(a w:N J)(E i:K)(t:N J):Prop where
 fp:Fp p t
 ln:t.length<a.length
 em:Em p a (pp (U w)<|E/2^i) (U t)
def KB{w:N J}(hp:wh p=I)(o:Fp p w)(e:xH p a)(hm:X w<=40000)(hn:X a<=40000)(h0:0<E)(hE:E<1048576)(c:3000000<=fu):
 ∃r,Zp fu w (ya E) a p=Z (r,0)/\Fp p r/\X r<X a/\Em p a (pp (U w) E) (U r):=by
 have⟨p1,h⟩:=zo hp;have hc:=e.ln;have u:=zjw h0 (W:E<18446744073709551616);have z:zm [E]:=λx H=>by rw[xad.1 H];lia
 have M:A [E]=E:=by simp[A]
 have R:cX (ya (E:J)):=by rw[u];exact⟨z,iP⟩
 have⟨q1,r1,d1,d2,d3,d4,d5,d6⟩:=xA (fu:=fu) hp (uB (x:=1)) e.fm hc iP W c;have⟨q2,r2,f1,f2,f3,f4,f5,f6⟩:=xA (fu:=fu) hp o e.fm hc W W c;have S:bl E<=20:=Jt (W:E<2^20);have hl:jy (E:J) 0=1:=by unfold jy;rw[zA,zP]
 unfold Zp;rw[Y<|uh hp,iq O,Y<|xE R c,zn,hl,ir iI,Y<|zO W h (e.fm.rl h) W c,e.fm.pm,zA,Y d1];simp only;rw[Y<|zO W h (o.rl h) W c,o.pm,Y f1];simp only;rw[u];show∃r,G (u5 fu [E]) _=_/\_;rw[Y (W6 z iP<|by simp;lia),M,zb];have hd:=yr (f:=Wh fu (wL,[E]) p a) (λs:N J×N J×J=>∃(i:K) (t:N J),s=(t,r2,(i:J)-1)/\i<=20/\PwI p a w E i t) (λs=>(s.2.2+1).toNat) (λr=>PwI p a w E 0 r) (by
  rintro s L ⟨i,t,rfl,hi,b⟩ B;unfold Wh;simp only
  cases i with
  |zero=>rw[zA];exact⟨t,O,b⟩
  |succ i=>
   have ho:=b.ln;have ml:=wZ p t t;have⟨q3,j,g1,g2,C,T,V,g6⟩:=xA (fu:=fu) hp (w5 (p:=p) W t t) e.fm hc W W c;have n:Em p a (pp (U w)<|E/2^(i+1)+E/2^(i+1)) (U j):=by
    rw[EA];refine(Em.mul ((Fs.ci w).pp _) (Fs.ci t) b.em b.em).trans<|(Em.cg (qT p t t).symm).trans<|Em.rest T
   have ei:((i+1:K):J)-1=(i:J):=W
   have e1:xcw (i:J) 64=0:=by rw[xcO W];lia
   have e2:xbE (i:J) 64=(i:J):=by rw[Int.tmod_eq_emod_of_nonneg W];lia
   have e3:E/2^i/2=E/2^(i+1):=by rw[xaG,xbq]
   rw[ei,zP,Y<|vk W h b.fp b.fp W W c,Y g1];simp only;rw[xr iI,e1,nD ⟨iI,iI⟩,show(0:J)=((0:K):J)from O,zp iP,Q,xr iI,e2,Q,yL,Q,Q];have e4:(([E]:N K).getD 0 0/2^(min (i:J).toNat 64)) &&& 1=E/2^i%2:=by rw[Nat.and_one_is_mod,xaN,xcF W];rfl
   rw[e4];by_cases hb:E/2^i%2=1
   ·rw[zP];have a0:=wZ p j r2;have⟨q4,F,k1,k2,k3,k4,k5,k6⟩:=xA (fu:=fu) hp (w5 (p:=p) W j r2) e.fm hc W W c;rw[Y<|vk W h C f3 W W c,Y k1];simp only;rw[zb];refine B _ ⟨i,F,O,W,⟨k3,k5,?_⟩⟩ (by show((i:J)-1+1).toNat<(((i+1:K):J)-1+1).toNat;lia);have q:E/2^i=E/2^(i+1)+E/2^(i+1)+1:=W
    rw[q];show Em p a (pp (U w) (E/2^(i+1)+E/2^(i+1))*U w) (U F);exact(Em.mul ((Fs.ci w).pp _) (Fs.ci r2) n<|Em.rest f4).trans<|(Em.cg (qT p j r2).symm).trans<|Em.rest k4
   ·rw[zA,zb];refine B _ ⟨i,j,O,W,⟨C,V,?_⟩⟩ (by show((i:J)-1+1).toNat<(((i+1:K):J)-1+1).toNat;lia);have q:E/2^i=E/2^(i+1)+E/2^(i+1):=W
    rw[q];exact n)
 have⟨r,hr,b⟩:=hd fu (r1,r2,((bl E:K):J)-1) ⟨bl E,r1,O,S,⟨d3,d5,by
  have hz:E/2^bl E=0:=xbi<|zpq E;rw[hz];show Em p a (D 1) (U r1);have h1:Em p a (U [1]) (U r1):=Em.rest d4;rwa[wX]at h1⟩⟩ (by show(((bl E:K):J)-1+1).toNat<fu;lia)
 refine⟨r,?_,b.fp,b.ln,?_⟩
 ·rw[Y hr]
 ·have:=b.em;rwa[xeJ,xdU]at this
def ziA{h s:N J}{S:K}(hp:2<=p)(c:xH p h)(b:BzR p g h d s t S)(hd:X d=0\/U d (X d-1)=1):xH p d:=by
 have⟨A,C,f,z2,d1,d2⟩:=b.dv;have hl:0<X d:=by
  refine xcD λe=> ?_;have h1:=d2<|X h-1;rw[c.top,vK,xk λi hi=>by rw[zU W,xaC],xaD iI W]at h1;cases h1
 exact⟨b.df,hl,hd.resolve_left W⟩
def Gx(hp:wh p=I)(e:Fp p t)(c:xH p g)(f:X t<=290)(h:X g<=290)(o:3000000<=fu):
 ∃d,aw fu t g p=Z d/\xH p d/\Di p (U d) (U g)/\∀u:N J,Di p (U u) (U d)↔Di p (U u) (U t)/\Di p (U u) (U g):=by
 obtain⟨j,q⟩:=zo hp;obtain⟨d,r,s,e1,b,n⟩:=XN (fu:=fu) hp e c.fm f h;obtain⟨A,C,w,z2,d1,d2⟩:=b.dv;refine⟨d,?_,ziA j c b n,⟨C,z2,d2⟩,λu=>znJ b u⟩;unfold aw;rw[Y e1]
def L4(hp:wh p=I)(e:xH p g)(hd:xH p d)(B:X g<=290)(h:Di p (U d) (U g))(j:3000000<=fu):
 ∃q,iC fu g d p=Z q/\xH p q/\Cg p (U g) (U q*U d)/\X g+1=X q+X d:=by
 have⟨n,f⟩:=zo hp;have⟨A,o,h1⟩:=h;have C:=Km n e hd o h1;have⟨q,r,e1,s,u,w,z,D⟩:=xA hp e.fm hd.fm hd.ln W W j;have⟨a,b,c⟩:=tu n e hd o h1 s u w z;refine⟨q,?_,a,b,c⟩;unfold iC kG;rw[Y (v:=(q,r,0))];rw[Y<|uh hp,iq O,Y<|zO W f (hd.fm.rl f) W j,hd.fm.pm,zA,Y<|zO W f (e.fm.rl f) W j,e.fm.pm,Y e1]
def Bg{c:J}(hp:wh (P:J)=I)(hv:Rl v)(hi:X v<=290)(o:xH (P:J) g)(M:X g<=290)(Q:0<=c)(hl:c<P)(b:3000000<=fu):
 ∃t,QT fu v c g P=Z t/\Fp (P:J) t/\X t<=290/\∀u:N J,QI (P:J) u->Di (P:J) (U u) (U g)->∀x,Vl (P:J) u (U v) x->(Di (P:J) (U u) (U t)↔sJ P (x+c)):=by
 have⟨q,j⟩:=zo hp;have R:=o.ln;have hc:Rl [c]:=λk=>by
  rw[wX];unfold D;split
  ·lia
  ·lia
 have⟨w,f⟩:∃w,w=vy (P:J) (pm P v) (pm P [c]) 1:=⟨_,O⟩;have l1:=Hz (P:J) v;have s:=Hz (P:J) [c];have C:X w<=290:=by
  have:=gX (P:J) (pm P v) (pm P [c]) 1;rw[<-f]at this;simp only[xaw,xbR]at s;lia
 have z:Fp (P:J) w:=by rw[f];exact ZD W _ _ _
 have F:Cg (P:J) (U w) (U v+D c):=by
  rw[f];refine(Np _ _ _ _).trans<|(IC _ v).add ?_;rw[zC];exact(IC _ [c]).trans<|Cg.of<|wX c
 have G:KY fu v [c] P=Z (w,0):=by
  unfold KY;rw[Y<|uh hp,iq O,Y<|zO W j hv W b,Y<|zO W j hc iP b,Y<|JY W j (cz W v) (cz W [c]) iI W W (by simp only[xaw,xbR]at s;lia) b,f]
 have vw:∀u:N J,∀x,Vl (P:J) u (U v) x->Vl (P:J) u (U w) (x+c):=λu x e=>(Vl.add e<|Vl.pc _ u c).cg F.symm;unfold QT;rw[Y G];simp only;by_cases A:2<P
 ·have⟨r,e1,H,S,L⟩:=KB (fu:=fu) (E:=(P-1)/2) hp z o W W W W b;have hd:xcw ((P:J)-1) 2=(((P-1)/2:K):J):=by rw[xcO W];lia
  have⟨t,h⟩:∃t,t=vy (P:J) r [1] ((P:J)-1):=⟨_,O⟩;have f1:Fp (P:J) [1]:=uB;have lt:=gX (P:J) r [1]<|(P:J)-1;rw[<-h]at lt;have ct:Cg (P:J) (U t) (U r-D 1):=by
   rw[h];refine(Np _ _ _ _).trans ?_;rw[wX,kH,xck];intro k;rw[zI,yY];unfold D;split
   ·rw[(W:U r k+((P:J)-1)=U r k-1+P*1),Int.add_mul_emod_self_left]
   ·rw[xbF,xcB]
  rw[zP,zb,xr iI,hd,zb,Y<|yq ⟨W,W⟩,Y e1];simp only;rw[Y<|gn hp H f1 W iP b];refine⟨t,by rw[h],by rw[h];exact ZD W _ _ _,by simp only[xaw,xbR]at lt;lia,λu n B x e=> ?_⟩
  have v1:Vl (P:J) u (U t) ((x+c)^((P-1)/2)-1):=
   (Vl.sub ((Em.dv L B).symm.vl<|Vl.pp (Fs.ci w) (vw u x e)<|(P-1)/2)<|Vl.pc _ u 1).cg ct.symm
  refine(v1.di q n).trans ?_;unfold sJ;rw[iq A]
 ·rw[zA];refine⟨w,O,z,C,λu n B x e=> ?_⟩;refine((vw u x e).di q n).trans ?_;unfold sJ;rw[ir A]
def nxt(P:K)(ds:N J)(k:K):J:=if k<X ds then ds.getD k 0%P else((k-X ds:K):J)
theorem n4(b:2<=P)(c:P<=65521)(hd:Rl ds)(e:k<P+X ds)(f:X ds<=1000):Yr fu (k:J) ds P=Z (nxt P ds k)/\0<=nxt P ds k/\nxt P ds k<P:=by
 unfold Yr nxt;by_cases h:k<X ds
 ·rw[zp h,Q,Y (show Ze fu (ds.getD k 0) P=Z (ds.getD k 0%P)from YT W W<|hd k)];have:=yn (a:=ds.getD k 0) (p:=P);simp_all
 ·rw[zb];grind
abbrev Ts:=Pz->J->Prop
structure Pd(P:K)(m:N J)(us:N (N J))(S:Ts)(l:N (N J)):Prop where
 pl:Pl (P:J) m l
 ts:∀v c,S v c->∀g∈l,Ct P us v c g
def zhY{α:Type}{a b:N α}{g q d:α}:((a++g::b)++[q]).set (X a) d=a++d::(b++[q]):=by
 simp_all
def zg0{α:Type}{l:N α}(h:i<X l)(z:α):∃a b,l=a++l.getD i z::b/\X a=i:=by
 refine⟨l.take i,l.drop<|i+1,?_,by rw[xas];lia⟩;simp_all
theorem Y3{α:Type}{l:N α}(h:i<X l)(z:α):l.getD i z∈l:=by grind
def Sf.pl_len(h:Sf p m us)(hl:Pl p m l):X l<=X us:=by
 have⟨vs,v1,b,v3⟩:=h.pick hl.mn ⟨D 1,Fs.pc 1,hl.pr.trans<|Cg.of (zC _).symm⟩;have:=dj b λv hv=>(v3 v hv).1;lia
def zhy{t7:N (N J)}{i2 i4:J}{S:Ts}(h:Sf (P:J) m us)(hH:X us<=290)(hI:X bs=nb)(hE:nb<=290)(hd:Rl ds)(hy:X ds<=1000)(hv:Rl v)(hz:X v<=290)(hk:k<P+X ds)(F:3000000<=fu)(hl:Pd P m us S l):
 ∃r,zg (Qb fu P ds bs P ds i2 (k:J) t7 i4 v) fu (l,0)=Z r/\
  ((∃B,r=.inl B/\Pl (P:J) m B/\X B=nb)\/∃B,r=.inr B/\Pd P m us (λw c=>S w c\/w=U v/\c=nxt P ds k) B):=by
 have⟨G,p2⟩:=zo h.hp;have⟨n1,n2,n3⟩:=n4 (fu:=fu) (P:=P) (k:=k) (ds:=ds) W W hd hk hy;refine yr (λs:N (N J)×J=>∃(i:K) (l:N (N J)),s=(l,(i:J))/\Pd P m us S l/\i<=X l/\∀j,j<i->Ct P us (U v) (nxt P ds k) (l.getD j [])) (λs=>300-s.2.toNat) _ ?_ _ _ ⟨0,l,O,hl,xac _,λj D=>by lia⟩ (by show 300-0<fu;lia);rintro s L ⟨i,l,rfl,hl,hi,H⟩ ih;have hJ:=h.pl_len hl.pl;unfold Qb;simp only;by_cases h1:i<X l
 ·rw[zP];by_cases h2:X l=nb
  ·rw[zP];exact⟨_,O,.inl ⟨l,O,hl.pl,h2⟩⟩
  rw[zA,Y n1,zp h1,Q];have⟨a,b,z,ho⟩:=zg0 h1 [];have hc:=Y3 h1 [];have⟨g,f⟩:∃g,g=l.getD i []:=⟨_,O⟩;rw[<-f]at z hc⊢;have⟨g1,g2⟩:=hl.pl.mn g hc;have hA:=hl.pl.dv hc;have M:=h.len g1 hA;have⟨t,t1,t2,t3,t4⟩:=Bg (fu:=fu) h.hp hv hz g1 M n2 n3 F;have⟨d,d1,d2,d3,d4⟩:=Gx (fu:=fu) h.hp t2 g1 t3 M F;have hK:=d2.ln;have hF:X d<=X g:=by
   have⟨q,fq,hq⟩:=d3;exact Km G g1 d2 fq hq
  rw[Y t1,zp h1,Q,<-f,Y d1];have R:∀u∈us,Di (P:J) (U u) (U g)->∀x,Vl (P:J) u (U v) x->(Di (P:J) (U u) (U d)↔sJ P (x+nxt P ds k)):=λu n o x hx=>
   ⟨λT=>(t4 u (h.ir u n).1 o x hx).1 ((d4 u).1 T).1,λT=>(d4 u).2 ⟨(t4 u (h.ir u n).1 o x hx).2 T,o⟩⟩
  by_cases h3:1<X d/\X d<X g
  ·have⟨q,q1,q2,q3,q4⟩:=L4 (fu:=fu) h.hp g1 d2 M d3 F;rw[zP,zp h1,Q,<-f,zP,Y O];simp only[uP];rw[zp h1,Q,<-f,Y q1,xr (by simp;lia),Q,zp (by simp;lia),Q,zb];have hp:(l++[q]).set i d=a++d::(b++[q]):=by rw[z,<-ho,zhY]
   have hB:Di (P:J) (U q) (U g):=⟨U d,Fs.ci d,q3.trans<|Cg.of<|zk _ _⟩;have hr:∀x∈a++d::(b++[q]),x=d\/x=q\/x∈l:=λx hx=>by
    obtain hx|hx:=So.1 hx
    ·right;right;rw[z];exact xdL _ hx
    ·obtain hx|hx:=xag.1 hx
     ·exact .inl hx
     ·obtain hx|hx:=So.1 hx
      ·right;right;rw[z];exact xeh _<|UV _ hx
      ·exact .inr (.inl<|xad.1 hx)
   have hs:Pl (P:J) m (a++d::(b++[q])):=by
    have:=hl.pl;rw[z]at this;exact this.split d2 q2 W W q3
   refine ih _ ⟨i+1,_,O,?_,?_,?_⟩ ?_
   ·rw[hp];refine⟨hs,λw c A x hx=> ?_⟩;obtain rfl|rfl|hx:=hr x hx
    ·exact(hl.ts w c A g hc).sub d3
    ·exact(hl.ts w c A g hc).sub hB
    ·exact hl.ts w c A x hx
   ·rw[xbt,xaq];lia
   ·intro j D;rw[hp];by_cases hn:j=i
    ·left;have e:(a++d::(b++[q])).getD j []=d:=by rw[hn,<-ho,xaa,xbz<|IR _,xdb];rfl
     rw[e];intro u n hw x hx;exact(R u n (hw.trans d3) x hx).1 hw
    ·have e:(a++d::(b++[q])).getD j []=l.getD j []:=by rw[z,xaa,xaa,xbj W,xbj W]
     rw[e];exact H j W
   ·have:=h.pl_len hs;have hG:X l=X a+1+X b:=by rw[z];simp;lia
    simp only[xaq,xaw]at this;show 300-((i:J)+1).toNat<300-(i:J).toNat;lia
  ·have hC:Ct P us (U v) (nxt P ds k) g:=by
    by_cases h4:1<X d
    ·left;have e:d=g:=LF G d2 g1 d3 W;intro u n o x hx;exact(R u n o x hx).1<|by rw[e];exact o
    ·right;intro u n o x hx hT;have h5:=(R u n o x hx).2 hT;have h6:d=[1]:=d2.one W;rw[h6,wX]at h5;exact(h.ir u n).1.ne G h5
   have hD:(if(1:J)<(X d:J)then
    zG (i:J) (X l) λj5=>
    C (l.getD j5 []) λt13=>
    if(X d:J)<(X t13:J)then
    Z (bs,(P:J),ds,(k:J),v,t7,i4,i2,I)
    else
    Z (bs,(P:J),ds,(k:J),v,t7,i4,i2,wL)
    else
    Z (bs,(P:J),ds,(k:J),v,t7,i4,i2,wL):V (N (N J)×J×N J×J×N J×N (N J)×J×J×v6))=Z (bs,(P:J),ds,(k:J),v,t7,i4,i2,wL):=by
    by_cases h4:1<X d
    ·rw[zP,zp h1,Q,<-f,zA]
    ·rw[zA]
   rw[Y hD];simp only[xar,uS];rw[zb];refine ih _ ⟨i+1,l,O,hl,W,λj D=> ?_⟩ (by show 300-((i:J)+1).toNat<300-(i:J).toNat;lia);by_cases hn:j=i
   ·rw[hn,<-f];exact hC
   ·exact H j W
 ·rw[zA];refine⟨_,O,.inr ⟨l,O,hl.pl,λw c A g f=> ?_⟩⟩;obtain A|⟨rfl,rfl⟩:=A
  ·exact hl.ts w c A g f
  ·have⟨j,D,e⟩:=xcW f;have:=H j W;rw[xaa,xak D]at this;rw[<-e];exact this
def Pd.mono{S T:Ts}(h:Pd P m us S l)(b:∀v c,T v c->S v c):Pd P m us T l:=⟨h.pl,λv c e=>h.ts v c<|b v c e⟩
def zfE{S:Ts}(h:Sf (P:J) m us)(A:X us<=290)(q:X bs=nb)(hq:1<=nb)(hc:nb<=290)(hd:Rl ds)(hn:X ds<=1000)(hv:∀v∈bs,Rl v/\X v<=290)(B:k<P+X ds)(C:3000000<=fu)(hl:Pd P m us S l):
 ∃r,zg (Qg fu P ds (k:J)<|bs.drop 1) fu (bs,(P:J),ds,l,0)=Z r/\
  ((∃f,r=.inl f/\Pl (P:J) m f/\X f=nb)\/∃f,r=.inr (bs,(P:J),ds,f)/\Pd P m us (λw c=>S w c\/∃i,1<=i/\i<nb/\w=U (bs.getD i [])/\c=nxt P ds k) f):=by
 refine yr (λs:N (N J)×J×N J×N (N J)×J=>∃(i:K) (l:N (N J)),s=(bs,(P:J),ds,l,(i:J))/\i+1<=nb/\Pd P m us (λw c=>S w c\/∃j,1<=j/\j<i+1/\w=U (bs.getD j [])/\c=nxt P ds k) l) (λs=>300-s.2.2.2.2.toNat) _ ?_ _ _ ⟨0,l,O,W,hl.mono λw c n=>n.elim id λ⟨j,a,b,_⟩=>by lia⟩ (by show 300-0<fu;lia);rintro s L ⟨i,l,rfl,hi,u⟩ D;unfold Qg;simp only;have o:X (bs.drop 1)=nb-1:=by rw[xcf,q]
 have z:∀{β:Type} (x:β) (k:β->V ((N<|N J)⊕(N (N J)×J×N J×N (N J)))),G (Z x) k=k x:=λ_ _=>O;by_cases h1:i+1<nb
 ·rw[iq (by rw[o];lia),z];simp only[uP];rw[zp (by rw[o];lia),Q];have e:(bs.drop 1).getD i []=bs.getD (i+1) []:=by rw[xaa,xaa,xfa,xdO]
  have⟨F,hp⟩:=hv _<|Y3 (l:=bs) (i:=i+1) W [];rw[e];have⟨r,H,M⟩:=zhy (fu:=fu) (i2:=(i:J)) (i4:=((X (bs.drop 1):K):J)) (t7:=bs.drop 1) (ds:=ds) h A q hc hd hn F hp B C u;rw[Y H];rcases M with⟨f,rfl,g1,R⟩|⟨f,rfl,g1⟩
  ·exact⟨_,O,.inl ⟨f,O,g1,R⟩⟩
  ·simp only;rw[zb];refine D _ ⟨i+1,f,O,W,g1.mono λw c n=> ?_⟩ (by show 300-((i:J)+1).toNat<300-(i:J).toNat;lia);obtain n|⟨j,a,b,c1,c2⟩:=n
   ·exact .inl (.inl n)
   ·by_cases T:j=i+1
    ·subst T;exact .inr ⟨c1,c2⟩
    ·exact .inl (.inr ⟨j,a,W,c1,c2⟩)
 ·rw[ir (by rw[o];lia),z];simp only[xar,uS];refine⟨_,O,.inr ⟨l,O,u.mono λw c n=> ?_⟩⟩;obtain n|⟨j,a,b,c1,c2⟩:=n
  ·exact .inl n
  ·exact .inr ⟨j,a,W,c1,c2⟩
def sN(h:Sf (P:J) m us)(z:1<X m)(hn:X us<=290)(A:X bs=nb)(B:1<=nb)(C:nb<=290)(hd:Rl ds)(hp:X ds<=1000)(hv:∀v∈bs,Rl v/\X v<=290)(D:3000000<=fu):
 ∃l,WX fu m bs P ds=Z l/\Pl (P:J) m l/\(X l=nb\/∀i,1<=i->i<nb->∀c:K,c<P->∀g∈l,Ct P us (U<|bs.getD i []) c g):=by
 have⟨V,p2⟩:=zo h.hp;unfold WX
 have F:=yr (f:=Qh fu bs P ds) (λs:N (N J)×J=>∃(k:K) (l:N (N J)),s=(l,(k:J))/\k<=P+X ds/\Pd P m us (λw c=>∃j i,j<k/\1<=i/\i<nb/\w=U (bs.getD i [])/\c=nxt P ds j) l) (λs=>P+X ds-s.2.toNat)
  (λl=>Pl (P:J) m l/\(X l=nb\/∀i,1<=i->i<nb->∀c:K,c<P->∀g∈l,Ct P us (U<|bs.getD i []) c g)) (by
  rintro s L ⟨k,l,rfl,hk,b⟩ G
  unfold Qh
  simp only
  rw[zb]
  by_cases h1:k<P+X ds
  ·rw[zP,show(1:J)=((1:K):J)from O,yJ,yL,Q]
   have⟨r,H,hi⟩:=zfE (fu:=fu) (ds:=ds) h hn A B C hd hp hv h1 D b
   rw[Y H]
   rcases hi with⟨o,rfl,g1,M⟩|⟨o,rfl,g1⟩
   ·exact⟨_,O,g1,.inl M⟩
   ·simp only
    rw[zb]
    refine G _ ⟨k+1,o,O,W,g1.mono λw c e=> ?_⟩ (by show P+X ds-((k:J)+1).toNat<P+X ds-(k:J).toNat;lia)
    have⟨j,i,a1,q,a3,a4,a5⟩:=e
    by_cases u:j=k
    ·subst u;exact .inr ⟨i,q,a3,a4,a5⟩
    ·exact .inl ⟨j,i,W,q,a3,a4,a5⟩
  ·rw[zA]
   refine⟨_,O,b.pl,.inr λi R S c hc g n=> ?_⟩
   refine b.ts _ _ ⟨X ds+c,i,W,R,S,O,?_⟩ g n
   unfold nxt
   rw[zA,(W:X ds+c-X ds=c)])
 have⟨l,hl,T⟩:=F fu ([m],0) ⟨0,[m],O,xac _,⟨⟨λg n=>by rw[xad.1 n];exact⟨h.mn,z⟩,Cg.of (yf<|U m).symm⟩,λv c e=>by have⟨j,i,u,_⟩:=e;lia⟩⟩ (by show P+X ds-0<fu;lia);exact⟨l,by rw[Y hl],T⟩
end
section
variable{N w r i fu lo a:wr}{R M A B:wr->Pz}{g f:Pz}{σ:wr->wr}{p q:wl}{m:xS (xS wl)}{l:xS wl}{e:wr->wl}
def ZE(N w:K)(R:K->Pz):xS (xS J):=(xaY N).map λr=>zl w<|R r
def ZN(N w:K)(R:K->Pz):X (ZE N w R)=N:=by unfold ZE;simp
def qP(h:r<N):(ZE N w R).getD r []=zl w (R r):=by simp_all [ZE]
theorem ZR{S:K->Pz}(h:∀r,r<N->∀k,k<w->R r k=S r k):ZE N w R=ZE N w S:=by grind [ZE,yF,xci]
theorem La:(ZE N w R).set r (zl w g)=ZE N w λs=>if s=r then g else R s:=by
 refine xcy λi=> ?_;unfold ZE;by_cases h:r=i
 ·grind
 ·grind
def aq(N:K)(σ:K->K):xS K:=(xaY N).map σ
def WZ(N:K)(σ:K->K):X (aq N σ)=N:=by unfold aq;simp
def u9(h:i<N:=by lia):(aq N σ).getD i 0=σ i:=by simp_all [aq]
def stk(p:J)(a:K)(own f:Pz):Pz:=λk=>(f k+(p-f a)*own k)%p
def FY(p:J)(a:K)(own f:Pz)(i:K):Pz:=λk=>if k<i then stk p a own f k else f k
def ziY(hp:0<p)(a:K)(own f:Pz)(k:K):0<=stk p a own f k/\stk p a own f k<p:=yn hp
def zdC{ix:xS K}{n lo2 n2 q:K}{y:J}(h1:2<=p)(V:p<=65521)(h:∀s,s<N->∀k,0<=R s k/\R s k<p)(o:r<N)(t:q<N)(hc:q≠r)(Y:w<=64)(D:y=R q a)(b:xS (xS J))(h0:b=ZE N w R)(hf:3000000<=fu):
 zg (λL (z:((xS (xS J)×xS K)×K×K)×(K×K)×K×K×K×J)=>
 if z.2.2.2.2.2<(X (b.getD r []):J)then
  zG z.2.2.2.2.2 (X (z.1.1.1.getD z.2.2.2.1 [])) λj=>
  C ((z.1.1.1.getD z.2.2.2.1 []).getD j 0) λv=>
  zG z.2.2.2.2.2 (X (z.1.1.1.getD z.2.2.2.2.1 [])) λj=>
  C ((z.1.1.1.getD z.2.2.2.2.1 []).getD j 0) λu=>
  E (p-y) λe=>
  E (e*v) λe=>
  E (u+e) λe=>
  ck (p≠0)<|
  C (xbE e p) λe=>
  zG z.2.2.2.2.2 (X (z.1.1.1.getD z.2.2.2.2.1 [])) λj=>
  C (z.1.1.1.set z.2.2.2.2.1<|(z.1.1.1.getD z.2.2.2.2.1 []).set j e) λx=>
  E (z.2.2.2.2.2+1) λi=>
  L (((x,z.1.1.2),z.1.2),z.2.1,z.2.2.1,z.2.2.2.1,z.2.2.2.2.1,i)
 else Z (z.1,z.2.1,z.2.2.1)) fu (((b,ix),lo,n),(lo2,n2),r,r,q,0)=Z (((ZE N w λs=>if s=q then stk p a (R r) (R q)else R s,ix),lo,n),(lo2,n2),r):=by
 subst h0;refine zw (λz:((xS (xS J)×xS K)×K×K)×(K×K)×K×K×K×J=>∃i:K,i<=w/\z=(((ZE N w λs=>if s=q then FY p a (R r) (R q) i else R s,ix),lo,n),(lo2,n2),r,r,q,(i:J))) (λz=>w-z.2.2.2.2.2.toNat) _ ?_ _ _ ⟨0,xac _,by
  rw[ZR (R:=R) (S:=λs=>if s=q then FY p a (R r) (R q) 0 else R s) λs _ k _=>by
   by_cases e:s=q
   ·rw[iq e,e];unfold FY;rw[zA]
   ·rw[ir e]]
  rfl⟩ (by show w-0<fu;lia)
 rintro z L ⟨i,hi,rfl⟩ G;simp only;rw[qP o,zD];by_cases c:i<w
 ·have H:(ZE N w λs=>if s=q then FY p a (R r) (R q) i else R s).getD r []=zl w (R r):=by rw[qP o,ir<|λe=>hc e.symm]
  have P:(ZE N w λs=>if s=q then FY p a (R r) (R q) i else R s).getD q []=zl w (FY p a (R r) (R q) i):=by rw[qP t,iq O]
  have ev:FY p a (R r) (R q) i i=R q i:=zA;have⟨v1,v2⟩:=h r o i;have⟨u1,u2⟩:=h q t i;have⟨T,U⟩:=h q t a;rw[<-D]at T U;have m1:0<=(p-y)*R r i:=xcz W v1;have m2:(p-y)*R r i<=65521*65521:=Int.mul_le_mul W W v1 W;rw[zP,H,zD,zp c,Q,qS c,P,zD,zp c,Q,qS c,ev,zb,zb,zb,yL,Q,jQ,zp c,Q,uC,La,zb];refine G _ ⟨i+1,W,?_⟩ (by show w-((i:J)+1).toNat<w-(i:J).toNat;lia);rw[ZR (S:=λs=>if s=q then FY p a (R r) (R q) (i+1)else R s) λs _ k _=>by
   by_cases e:s=q
   ·rw[iq e,iq e];unfold Ya FY;by_cases d:k=i
    ·rw[iq d,zP,d,D];rfl
    ·rw[ir d];by_cases F:k<i
     ·rw[iq F,zP]
     ·rw[ir F,zA]
   ·rw[ir e,ir e,ir e]]
  rfl
 ·rw[zA];obtain rfl:i=w:=W
  rw[ZR (S:=λs=>if s=q then stk p a (R r) (R q)else R s) λs _ k d=>by
   by_cases e:s=q
   ·rw[iq e,iq e];unfold FY;rw[iq d]
   ·rw[ir e,ir e]]
structure Ps(N:K)(σ:K->K):Prop where
 lt:∀i,i<N->σ i<N
 ij:∀i j,i<N->j<N->σ i=σ j->i=j
def Iy{n t:K}(h1:2<=p)(V:p<=65521)(hR:∀s,s<N->∀k,0<=R s k/\R s k<p)(b:Ps N σ)(F:t<N)(ho:t<lo\/lo+n<=t)(hn:lo+n<=N)(hN:N<=64)(hw:w<=64)(P:a<w)(hf:3000000<=fu):
 ∃S:K->Pz,qj fu (ZE N w R) (aq N σ) (σ t) (a:J) p lo n=Z (ZE N w S)/\(∀s,s<N->∀k,0<=S s k/\S s k<p)/\∀j,j<N->S (σ j)=if lo<=j/\j<lo+n then stk p a (R<|σ t) (R<|σ j)else R (σ j):=by
 unfold qj;have hb:=yr (f:=(λL (x:((xS (xS J)×xS K)×K×K)×(K×K)×K×J)=>
 if x.2.2.2<(n:J)then
  zG x.2.2.2 x.2.1.2 λj=>
  C (x.1.1.2.getD (x.2.1.1+j) 0) λq=>
  zG (a:J) (X (x.1.1.1.getD q [])) λj=>
  C ((x.1.1.1.getD q []).getD j 0) λy=>
  G (zg (λL (z:((xS (xS J)×xS K)×K×K)×(K×K)×K×K×K×J)=>
   if z.2.2.2.2.2<(X (x.1.1.1.getD x.2.2.1 []):J)then
    zG z.2.2.2.2.2 (X (z.1.1.1.getD z.2.2.2.1 [])) λj=>
    C ((z.1.1.1.getD z.2.2.2.1 []).getD j 0) λv=>
    zG z.2.2.2.2.2 (X (z.1.1.1.getD z.2.2.2.2.1 [])) λj=>
    C ((z.1.1.1.getD z.2.2.2.2.1 []).getD j 0) λu=>
    E (p-y) λe=>
    E (e*v) λe=>
    E (u+e) λe=>
    ck (p≠0)<|
    C (xbE e p) λe=>
    zG z.2.2.2.2.2 (X (z.1.1.1.getD z.2.2.2.2.1 [])) λj=>
    C (z.1.1.1.set z.2.2.2.2.1<|(z.1.1.1.getD z.2.2.2.2.1 []).set j e) λH=>
    E (z.2.2.2.2.2+1) λi=>
    L (((H,z.1.1.2),z.1.2),z.2.1,z.2.2.1,z.2.2.2.1,z.2.2.2.2.1,i)
   else Z (z.1,z.2.1,z.2.2.1)) fu (x.1,x.2.1,x.2.2.1,x.2.2.1,q,0)) λz=>
  E (x.2.2.2+1) λi=>
  L (z.1,z.2.1,z.2.2,i)
 else Z x.1)) (λx=>∃(c:K) (S:K->Pz),x=(((ZE N w S,aq N σ),lo,n),(lo,n),σ t,(c:J))/\c<=n/\(∀s,s<N->∀k,0<=S s k/\S s k<p)/\∀j,j<N->S (σ j)=if lo<=j/\j<lo+c then stk p a (R (σ t)) (R (σ j))else R (σ j)) (λx=>n-x.2.2.2.toNat)
  (λy=>∃S:K->Pz,y=((ZE N w S,aq N σ),lo,n)/\(∀s,s<N->∀k,0<=S s k/\S s k<p)/\∀j,j<N->S (σ j)=if lo<=j/\j<lo+n then stk p a (R<|σ t) (R<|σ j)else R (σ j)) (by
  rintro x L ⟨c,S,rfl,hc,D,d⟩ ih
  simp only
  by_cases hg:c<n
  ·have o:lo+c<N:=W
   have hi:=b.lt t F
   have hd:=b.lt (lo+c) o
   have hk:σ (lo+c)≠σ t:=λe=>by have:=b.ij _ _ o F e;lia
   have hl:S (σ<|lo+c)=R (σ<|lo+c):=by rw[d _ o,zA]
   have hm:S (σ t)=R (σ t):=by rw[d _ F,zA]
   rw[zP,zp hg,Q,u9 o,qP hd,zD,zp P,Q,qS P,Y<|zdC (ix:=aq N σ) (lo:=lo) (n:=n) (lo2:=lo) (n2:=n) h1 V D hi hd hk hw O _ O hf]
   simp only
   rw[zb]
   refine ih _ ⟨c+1,λs=>if s=σ (lo+c)then stk p a (S<|σ t) (S<|σ<|lo+c)else S s,O,W,λs hs k=> ?_,λj T=> ?_⟩ (by show n-((c:J)+1).toNat<n-(c:J).toNat;lia)
   ·show 0<=(if s=σ (lo+c)then stk p a (S<|σ t) (S<|σ<|lo+c)else S s) k/\(if s=σ (lo+c)then stk p a (S<|σ t) (S<|σ<|lo+c)else S s) k<p
    by_cases e:s=σ (lo+c)
    ·rw[iq e];exact ziY (W:0<p) _ _ _ _
    ·rw[ir e];exact D s hs k
   ·show(if σ j=σ (lo+c)then stk p a (S<|σ t) (S<|σ<|lo+c)else S (σ j))=_
    by_cases e:j=lo+c
    ·rw[e,iq O,zP,hm,hl]
    ·rw[ir<|λh=>e<|b.ij _ _ T o h,d j T]
     by_cases U:lo<=j/\j<lo+c
     ·rw[iq U,zP]
     ·rw[ir U,zA]
  ·rw[zA]
   obtain rfl:c=n:=W
   exact⟨_,O,S,O,D,d⟩)
 obtain⟨y,hy,S,rfl,D,d⟩:=hb fu (((ZE N w R,aq N σ),lo,n),(lo,n),σ t,0) ⟨0,R,O,xac _,hR,λj o=>by rw[zA]⟩ (by show n-0<fu;lia);refine⟨S,?_,D,d⟩;rw[Y hy];simp only;rw[xr ⟨wR,wR,wR⟩]
def b6(hp:wh p=I)(d:X m<=64)(b:∀r∈m,X r=w)(j:w<=64)(n:3000000<=fu):XB fu m p=Z 0:=by
 unfold XB;rw[Y<|uh hp,iq O,zA,Y (v:=Sum.inl ())];refine zw (λi:J=>∃k:K,i=(k:J)/\k<=X m) (λi=>X m-i.toNat) _ ?_ _ _ ⟨0,O,xac _⟩ W;rintro i L ⟨k,rfl,o⟩ c;unfold ek;by_cases h:k<X m
 ·have e1:=b _<|Y3 h [];have s:=b _<|Y3 (W:0<X m) [];rw[zP,Y O];simp only[uP];rw[zp h,Q,zA,show(0:J)=((0:K):J)from O,yj,Q,zP,zb];exact c _ ⟨k+1,W,W⟩ W
 ·rw[zA,Y O];simp_all
def AR(h1:1<=p)(d:p<=65521)(j:Rl l)(hl:X l<=1000000)(o:3000000<=fu):Xm fu l p=Z (zl (X l)<|λk=>U l k%p):=by
 unfold Xm;rw[yJ,yL,Q,Uo,Y (v:=zl (X l)<|λk=>U l k%p)];refine zw (λs:J×xS J=>∃i:K,i<=X l/\s=((i:J),zl (X l) (λk=>if k<i then U l k%p else 0))) (λs=>X l-s.1.toNat) _ ?_ _ _ ⟨0,xac _,by rw[yF (f:=λ_=>0) (g:=λk=>if k<0 then U l k%p else 0) λk _=>by rw[zA]];rfl⟩ (by show X l-0<fu;lia);rintro s L ⟨i,hi,rfl⟩ n;unfold eK;simp only;by_cases h:i<X l
 ·rw[zP,zp h,Q,Y (show Ze fu (l.getD i 0) p=Z (l.getD i 0%p)from YT h1 d<|j i),zp (by rw[zD];exact h),Q,uC,zb];refine n _ ⟨i+1,W,?_⟩ (by show X l-((i:J)+1).toNat<X l-(i:J).toNat;lia);rw[yF (g:=λk=>if k<i+1 then U l k%p else 0) λk _=>by
   unfold Ya;by_cases b:k=i
   ·rw[iq b,zP,b,ZZ]
   ·rw[ir b];show(if k<i then U l k%p else 0)=_;by_cases c:k<i
    ·rw[iq c,zP]
    ·rw[ir c,zA]]
  rfl
 ·rw[zA];rw[yF (g:=λk=>U l k%p) λk b=>by rw[zP]]
theorem PC{l:xS (xS J)}{g:xS J->V v6}{b:xS J->v6}(o:∀z∈l,g z=Z (b z))(hl:X l<=1000000)(v:3000000<=fu):
 (yU fu l g=Z (-1)/\∀z∈l,b z=wL)\/∃i:K,i<X l/\yU fu l g=Z (i:J)/\b (l.getD i [])=I/\∀j,j<i->b (l.getD j [])=wL:=by
 unfold yU
 have s:=yr (f:=vQ fu l g) (λi:J=>∃k:K,i=(k:J)/\k<=X l/\∀j,j<k->b (l.getD j [])=wL) (λi=>X l-i.toNat)
  (λr=>(r=.inl ()/\∀j,j<X l->b (l.getD j [])=wL)\/∃i:K,i<X l/\r=.inr (i:J)/\b (l.getD i [])=I/\∀j,j<i->b (l.getD j [])=wL) (by
  rintro i L ⟨k,rfl,x,c⟩ t
  unfold vQ
  by_cases h:k<X l
  ·rw[zP,zp h,Q,Y<|o _<|Y3 h []]
   cases d:b (l.getD k [])with
   |true=>
    grind
   |false=>
    rw[ir iI,zb]
    refine t _ ⟨k+1,W,W,λj y=> ?_⟩ W
    by_cases e:j=k
    ·rw[e];exact d
    ·exact c j W
  ·rw[zA]
   exact⟨_,O,.inl ⟨O,λj C=>c j W⟩⟩)
 have⟨r,n,hc⟩:=s fu 0 ⟨0,O,xac _,λj c=>by lia⟩ (by show X l-0<fu;lia);rcases hc with⟨rfl,hd⟩|⟨i,hi,rfl,d,c⟩
 ·left;refine⟨by rw[Y n],λz u=> ?_⟩;have⟨j,c,e⟩:=xcW u;have:=hd j c;rw[xaa,xak c]at this;rw[<-e];exact this
 ·right;exact⟨i,hi,by rw[Y n],d,c⟩
theorem zeb{g:J->V v6}{b:J->v6}(o:∀z,g z=Z (b z))(hl:X l<=1000000)(u:3000000<=fu):
 (xp fu l g=Z (-1)/\∀j,j<X l->b (U l j)=wL)\/∃i:K,i<X l/\xp fu l g=Z (i:J)/\b (U l i)=I/\∀j,j<i->b (U l j)=wL:=by
 unfold xp
 have s:=yr (f:=w8 fu l g) (λi:J=>∃k:K,i=(k:J)/\k<=X l/\∀j,j<k->b (U l j)=wL) (λi=>X l-i.toNat)
  (λr=>(r=.inl ()/\∀j,j<X l->b (U l j)=wL)\/∃i:K,i<X l/\r=.inr (i:J)/\b (U l i)=I/\∀j,j<i->b (U l j)=wL) (by
  rintro i L ⟨k,rfl,v,c⟩ t
  unfold w8
  by_cases h:k<X l
  ·rw[zP,zp h,Q,Y<|o _,ZZ]
   cases d:b (U l k)with
   |true=>
    grind
   |false=>
    rw[ir iI,zb]
    refine t _ ⟨k+1,W,W,λj x=> ?_⟩ W
    by_cases e:j=k
    ·rw[e];exact d
    ·exact c j W
  ·rw[zA]
   exact⟨_,O,.inl ⟨O,λj y=>c j W⟩⟩)
 have⟨r,n,hc⟩:=s fu 0 ⟨0,O,xac _,λj c=>by lia⟩ (by show X l-0<fu;lia);rcases hc with⟨rfl,hd⟩|⟨i,hi,rfl,d,c⟩
 ·exact .inl ⟨by rw[Y n],hd⟩
 ·exact .inr ⟨i,hi,by rw[Y n],d,c⟩
def dt(w:K)(f:Pz)(e:K->J):J:=yp w λk=>f k*e k
def zhW(h:∀k,k<w->f k%p=g k%p):dt w f e%p=dt w g e%p:=gL λk b=>by rw[xbc,h k b,<-xbc]
theorem zh2(c d:J):dt w (λk=>c*f k+d*g k) e=c*dt w f e+d*dt w g e:=by
 unfold dt;rw[<-uR,<-uR,<-Xt];grind
def Kr(p:J)(N w:K)(A:K->Pz)(e:K->J):Prop:=∀i,i<N->p∣dt w (A i) e
structure Cz(p:J)(N w:K)(M A:K->Pz)(n c:K)(pv:K->K):Prop where
 hn:n<=N
 hc:c<=w
 rg:∀i,i<N->∀k,0<=A i k/\A i k<p
 lt:∀i,i<n->pv i<c
 on:∀i,i<n->A i (pv i)=1
 no:∀i,i<n->∀j,j<N->j≠i->A j (pv i)=0
 ld:∀i,i<n->∀k,k<pv i->A i k=0
 zr:∀i,n<=i->i<N->∀k,k<c->A i k=0
 kr:∀e,Kr p N w A e↔Kr p N w M e
def Cz.skip{n c:K}{pv:K->K}(h:Cz p N w M A n c pv)(hc:c<w)(d:∀i,n<=i->i<N->A i c=0):Cz p N w M A n (c+1) pv:=
 ⟨h.hn,hc,h.rg,λi hi=>by have:=h.lt i hi;lia,h.on,h.no,h.ld,λi h1 b k j=>by
  by_cases e:k=c
  ·simp_all
  ·exact h.zr i h1 b k W,h.kr⟩
theorem Cz.swap{n c:K}{pv:K->K}(h:Cz p N w M A n c pv)(z:n<=a)(hl:a<N)(C:∀i,i<N->B i=if i=n then A a else if i=a then A n else A i):Cz p N w M B n c pv:=by
 have hd:∀i,i<n->B i=A i:=λi hi=>by grind
 have o:∀i,i<N->∃j,j<N/\B i=A j/\(n<=i->n<=j)/\(∀x,x<n->(i≠x->j≠x)):=λi hi=>by
  by_cases e1:i=n
  ·grind
  ·grind
 have hc:∀i,i<N->∃j,j<N/\A i=B j:=λi hi=>by
  by_cases e1:i=n
  ·grind
  ·grind
 refine⟨h.hn,h.hc,λi hi=> ?_,h.lt,λi hi=> ?_,λi hi j b s=> ?_,λi hi k d=> ?_,λi h1 t k d=> ?_,λe=> ?_⟩
 ·have⟨j,b,e,_⟩:=o i hi;rw[e];exact h.rg j b
 ·rw[hd i hi];exact h.on i hi
 ·have⟨x,u,e,_,v⟩:=o j b;rw[e];exact h.no i hi x u<|v i hi s
 ·rw[hd i hi];exact h.ld i hi k d
 ·have⟨j,b,e,y,_⟩:=o i t;rw[e];exact h.zr j (y h1) b k d
 ·refine Iff.trans ⟨λd i hi=> ?_,λd i hi=> ?_⟩<|h.kr e
  ·have⟨j,b,e⟩:=hc i hi;rw[e];exact d j b
  ·have⟨j,b,e,_⟩:=o i hi;rw[e];exact d j b
theorem Cz.step{n c:K}{pv:K->K}(hp:2<=p)(h:Cz p N w M A n c pv)(s:n<N)(P:c<w)(D:(q*A n c)%p=1)(t:B n=λk=>(A n k*q)%p)(Q:∀j,j<N->j≠n->B j=stk p c (B n) (A j)):
 Cz p N w M B (n+1) (c+1) (λi=>if i=n then c else pv i):=by
 have u:∀k,k<c->B n k=0:=λk d=>by rw[t];show A n k*q%p=0;rw[h.zr n (IR _) s k d,xaP,xah]
 have z:B n c=1:=by rw[t];show A n c*q%p=1;rw[xbg,D]
 have hc:∀j,j<N->j≠n->∀k,B j k=(A j k+(p-A j c)*B n k)%p:=λj b hd k=>by rw[Q j b hd];rfl
 have v:∀j,j<N->j≠n->∀k,B n k=0->B j k=A j k:=λj b hd k d=>by
  rw[hc j b hd,d,xaC,xbF];exact xaD (h.rg j b k).1 (h.rg j b k).2
 have C:∀i,i<n->B n (pv i)=0:=λi hi=>u _<|h.lt i hi;refine⟨s,P,λi hi k=> ?_,λi hi=> ?_,λi hi=> ?_,λi hi j b S=> ?_,λi hi k d=> ?_,λi h1 o k d=> ?_,λe=> ?_⟩
 ·by_cases e:i=n
  ·rw[e,t];exact yn
  ·rw[hc i hi e];exact yn
 ·show(if i=n then c else pv i)<c+1;by_cases e:i=n
  ·rw[iq e];lia
  ·rw[ir e];have:=h.lt i W;lia
 ·show B i (if i=n then c else pv i)=1;by_cases e:i=n
  ·rw[iq e,e,z]
  ·rw[ir e,v i W e _<|C i W];exact h.on i W
 ·show B j (if i=n then c else pv i)=0;by_cases e:i=n
  ·rw[iq e,hc j b W,z,xck,(W:A j c+(p-A j c)=p),Int.emod_self]
  ·rw[ir e];by_cases E:j=n
   ·rw[E];exact C i W
   ·rw[v j b E _<|C i W];exact h.no i W j b S
 ·have hl:k<(if i=n then c else pv i):=d;by_cases e:i=n
  ·rw[iq e]at hl;rw[e];exact u k hl
  ·rw[ir e]at hl;have F:=h.lt i W;rw[v i W e k<|u k W];exact h.ld i W k hl
 ·by_cases e:k=c
  ·rw[e,hc i o W,z,xck,(W:A i c+(p-A i c)=p),Int.emod_self]
  ·rw[v i o W k<|u k W];exact h.zr i W o k W
 ·refine Iff.trans ?_<|h.kr e;have G:dt w (B n) e%p=(q*dt w (A n) e)%p:=by
   have:=zhW (p:=p) (w:=w) (f:=B n) (g:=λk=>q*A n k+0*A n k) (e:=e) λk _=>by rw[t];show A n k*q%p%p=_;rw[xaE];congr 1;grind
   rw[this,zh2];congr 1;grind
  have H:∀j,j<N->j≠n->dt w (B j) e%p=(dt w (A j) e+(p-A j c)*dt w (B n) e)%p:=λj b hd=>by
   have:=zhW (p:=p) (w:=w) (f:=B j) (g:=λk=>1*A j k+(p-A j c)*B n k) (e:=e) λk _=>by rw[hc j b hd,xaE];congr 1;grind
   rw[this,zh2];congr 1;grind
  have dv:∀{x y:J},x%p=y%p->(p∣x↔p∣y):=λ{x y} hn=>⟨λT=>xaF (by rw[<-hn];exact xav T),λU=>xaF<|by rw[hn];exact xav U⟩;have V:p∣dt w (B n) e->p∣dt w (A n) e:=λY=>by
   have h1:=(dv G).1 Y;have o:p∣A n c*(q*dt w (A n) e):=xbx h1<|xcL _ _;refine(dv ?_).1 o;rw[<-xct,xbc,xbg (A n c) q,D,xcv,xaE]
  constructor
  ·intro d j b;by_cases e1:j=n
   ·rw[e1];exact V<|d n s
   ·have h1:=(dv<|H j b e1).1<|d j b;have o:p∣(p-A j c)*dt w (B n) e:=xbx (d n s)<|xcL _ _;have F:=xdp h1 o;rwa[Int.add_sub_cancel]at F
  ·intro d j b;have L:p∣dt w (B n) e:=(dv G).2<|xbx (d n s)<|xcL _ _;by_cases e1:j=n
   ·rw[e1];exact L
   ·exact(dv<|H j b e1).2<|Int.dvd_add (d j b)<|xbx L<|xcL _ _
theorem Oj(N w:K)(R:K->Pz):ZE N w R++[zl w<|R N]=ZE (N+1) w R:=by grind [ZE,xdv]
theorem ze9(N:K)(σ:K->K):aq N σ++[σ N]=aq (N+1) σ:=by grind [aq,xdv]
theorem B7{v:K}:(aq N σ).set i v=aq N λs=>if s=i then v else σ s:=by
 refine xcy λj=> ?_;unfold aq;by_cases h:i=j
 ·grind
 ·grind
def zgn(b:∀i,i<N->σ i<N):((aq N σ).map λr=>(ZE N w R).getD r [])=ZE N w λi=>R (σ i):=by
 show((xaY N).map σ).map _=(xaY N).map _;rw[xcP];exact xci λi hi=>qP<|b i<|xbd.1 hi
def ze4{n:K}(h:n<=N):(ZE N w R).take n=ZE n w R:=by
 unfold ZE;rw[<-List.map_take,List.take_range,xcF h]
theorem zgM{n:K}(h:n<=N):(ZE N w R).drop n=ZE (N-n) w λi=>R (n+i):=by
 refine xcy λi=> ?_;unfold ZE;by_cases hi:n+i<N
 ·grind
 ·grind
def zg7{n:K}(h1:2<=p)(G:p<=65521)(x:∀s,s<N->∀k,0<=R s k/\R s k<p)(d:r<N)(hd:σ n=r)(hn:n<N)(t:0<=q)(H:q<p)(P:w<=64)(b:xS (xS J))(h0:b=ZE N w R)(u:J)(D:u=(n:J))(T:3000000<=fu):
 zg (λL (z:(xS (xS J)×xS K)×K×J)=>
  if z.2.2<(X (b.getD r []):J)then
   zG z.2.2 (X (z.1.1.getD z.2.1 [])) λj=>
   C ((z.1.1.getD z.2.1 []).getD j 0) λy=>
   zG u (X z.1.2) λj=>
   C (z.1.2.getD j 0) λr=>
   E (y*q) λe=>
   ck (p≠0)<|
   C (xbE e p) λe=>
   zG z.2.2 (X (z.1.1.getD r [])) λj=>
   C (z.1.1.set r<|(z.1.1.getD r []).set j e) λh=>
   E (z.2.2+1) λi=>L ((h,z.1.2),z.2.1,i)
  else Z z.1) fu ((b,aq N σ),r,0)=Z (ZE N w λs=>if s=r then λk=>(R r k*q)%p else R s,aq N σ):=by
 subst h0 D;refine zw (λz:(xS (xS J)×xS K)×K×J=>∃i:K,i<=w/\z=((ZE N w λs=>if s=r then λk=>if k<i then(R r k*q)%p else R r k else R s,aq N σ),r,(i:J))) (λz=>w-z.2.2.toNat) _ ?_ _ _ ⟨0,xac _,by
  rw[ZR (R:=R) (S:=λs=>if s=r then λk=>if k<0 then(R r k*q)%p else R r k else R s) λs _ k _=>by
   by_cases e:s=r
   ·simp_all
   ·rw[ir e]]
  rfl⟩ (by show w-0<fu;lia)
 rintro z L ⟨i,hi,rfl⟩ F;simp only;rw[qP d,zD];by_cases o:i<w
 ·have v:(ZE N w λs=>if s=r then λk=>if k<i then(R r k*q)%p else R r k else R s).getD r []=zl w (λk=>if k<i then(R r k*q)%p else R r k):=by rw[qP d,iq O]
  have⟨v1,U⟩:=x r d i;have V:0<=R r i*q:=xcz v1 t;have Y:R r i*q<=65521*65521:=Int.mul_le_mul W W t W;rw[zP,v,zD,zp o,Q,qS o,zA,WZ,zp hn,Q,u9 hn,hd,zb,yL,Q,jQ,v,zD,zp o,Q,uC,La,zb];refine F _ ⟨i+1,W,?_⟩ (by show w-((i:J)+1).toNat<w-(i:J).toNat;lia);rw[ZR (S:=λs=>if s=r then λk=>if k<i+1 then(R r k*q)%p else R r k else R s) λs _ k _=>by
   by_cases e:s=r
   ·rw[iq e,iq e];unfold Ya;show _=if k<i+1 then(R r k*q)%p else R r k;by_cases c:k=i
    ·rw[iq c,zP,c]
    ·rw[ir c];show(if k<i then(R r k*q)%p else R r k)=_;by_cases hc:k<i
     ·rw[iq hc,zP]
     ·rw[ir hc,zA]
   ·rw[ir e,ir e,ir e]]
  rfl
 ·rw[zA];obtain rfl:i=w:=W
  rw[ZR (S:=λs=>if s=r then λk=>(R r k*q)%p else R s) λs _ k c=>by
   by_cases e:s=r
   ·rw[iq e,iq e];show(if k<i then _ else _)=_;rw[iq c]
   ·rw[ir e,ir e]]
def zoC(hp:0<p):Cz p N w M (λi k=>M i k%p) 0 0 (λ_=>0):=
 ⟨xac _,xac _,λi _ k=>yn hp,λi hi=>by lia,λi hi=>by lia,λi hi=>by lia,λi hi=>by lia,λi _ _ k j=>by lia,λe=>by
  have dv:∀{x y:J},x%p=y%p->(p∣x↔p∣y):=λ{x y} b=>⟨λc=>xaF (by rw[<-b];exact xav c),λd=>xaF<|by rw[b];exact xav d⟩;have:∀i,p∣dt w (λk=>M i k%p) e↔p∣dt w (M i) e:=λi=>dv<|zhW λk _=>xaE _ _;exact⟨λh i hi=>(this i).1<|h i hi,λh i hi=>(this i).2<|h i hi⟩⟩
def zfU(fu:K)(p:J):(((xS (xS J)×xS K)×J×J)->V ((xS (xS J)×xS K)×J))->((xS (xS J)×xS K)×J×J)->V ((xS (xS J)×xS K)×J):=λL (x:(xS (xS J)×xS K)×J×J)=>if x.2.1<(X x.1.2:J)then zG 0 (X x.1.2) λj=>C (x.1.2.getD j 0) λr=>if x.2.2<(X (x.1.1.getD r []):J)then kv x.2.1 λj=>ck (j<=X x.1.2)<|G (yU fu (xdu (X x.1.2-j)<|xdI j<|x.1.2.map λr=>x.1.1.getD r []) λz=>kh fu z x.2.2) λi=>if i<0 then E (x.2.2+1) λc=>L (x.1,x.2.1,c)else E (x.2.1+i) λa=>E (x.2.1+i) λb=>zG b (X x.1.2) λj=>C (x.1.2.getD j 0) λr1=>zG x.2.1 (X x.1.2) λj=>C (x.1.2.getD j 0) λr2=>zG x.2.1 (X x.1.2) λj=>C (x.1.2.set j r1) λix=>zG a (X ix) λj=>C (ix.set j r2) λix=>zG x.2.1 (X ix) λj=>C (ix.getD j 0) λr=>zG x.2.2 (X (x.1.1.getD r [])) λj=>C ((x.1.1.getD r []).getD j 0) λy=>G (Vr fu y p) λq=>zG x.2.1 (X ix) λj=>C (ix.getD j 0) λr=>G (zg (λL (z:(xS (xS J)×xS K)×K×J)=>if z.2.2<(X (x.1.1.getD r []):J)then zG z.2.2 (X (z.1.1.getD z.2.1 [])) λj=>C ((z.1.1.getD z.2.1 []).getD j 0) λy=>zG x.2.1 (X z.1.2) λj=>C (z.1.2.getD j 0) λr=>E (y*q.1) λe=>ck (p≠0)<|C (xbE e p) λe=>zG z.2.2 (X (z.1.1.getD r [])) λj=>C (z.1.1.set r<|(z.1.1.getD r []).set j e) λd=>E (z.2.2+1) λi=>L ((d,z.1.2),z.2.1,i)else Z z.1) fu ((x.1.1,ix),r,0)) λm=>zG x.2.1 (X m.2) λj=>C (m.2.getD j 0) λr=>kv x.2.1 λj=>ck (j<=X m.2)<|G (qj fu m.1 m.2 r x.2.2 p 0 j) λd=>zG x.2.1 (X m.2) λj=>C (m.2.getD j 0) λr=>E (x.2.1+1) λe=>kv e λj=>ck (j<=X m.2)<|G (qj fu d m.2 r x.2.2 p j<|X m.2-j) λd=>E (x.2.1+1) λk=>E (x.2.2+1) λc=>L ((d,m.2),k,c)else Z (x.1,x.2.1)else Z (x.1,x.2.1)
def EI(p:J)(N w:K)(M:K->Pz)(x:(xS (xS J)×xS K)×J×J):Prop:=
 ∃(R:K->Pz) (σ:K->K) (n c:K) (pv:K->K),x=((ZE N w R,aq N σ),(n:J),(c:J))/\(∀s,s<N->∀k,0<=R s k/\R s k<p)/\Ps N σ/\Cz p N w M (λi=>R<|σ i) n c pv
def EQ(p:J)(N w:K)(M:K->Pz)(y:(xS (xS J)×xS K)×J):Prop:=
 ∃(R:K->Pz) (σ:K->K) (n c:K) (pv:K->K),y=((ZE N w R,aq N σ),(n:J))/\Ps N σ/\Cz p N w M (λi=>R<|σ i) n c pv/\(n=N\/c=w)
def zlG{α:Type}{n:K}{k:K->V α}(h:0<n):zG (0:J) n k=k 0:=by
 rw[show 0=((0:K):J)from O,zp h]
def zex(hp:wh p=I)(hN:N<=64)(hw:w<=64)(E:3000000<=fu){x:(xS (xS J)×xS K)×J×J}(hx:EI p N w M x):∃y,zg (zfU fu p) fu x=Z y/\EQ p N w M y:=by
 have⟨S,p2⟩:=zo hp;refine yr (EI p N w M) (λx=>w-x.2.2.toNat) _ ?_ _ _ hx (by obtain⟨R,σ,n,c,pv,rfl,_⟩:=hx;show w-(c:J).toNat<fu;lia);rintro x L ⟨R,σ,n,c,pv,rfl,T,d,D⟩ ih;unfold zfU;simp only;have ho:=D.hn;have hq:=D.hc;rw[WZ];by_cases h1:n<N
 ·have hk:=d.lt 0 W;rw[zP,zlG W,Q,u9,qP hk,zD];by_cases u:c<w
  ·rw[zP,yJ,yL,zgn d.lt,zgM W,xaW<|by rw[ZN];exact IR _];have he:∀z∈ZE (N-n) w (λi=>R<|σ<|n+i),kh fu z (c:J)=Z (!decide (U z c=0)):=λz hz=>by
    obtain⟨j,o,rfl⟩:=xap.1 hz;unfold kh;rw[zp (by rw[zD];exact u),Q,ZZ];by_cases e:U (zl w<|R<|σ<|n+j) c=0
    ·rw[iq e,Z0 e];rfl
    ·rw[ir e,uT e];rfl
   rcases PC (fu:=fu) (b:=λz=> !decide (U z c=0)) he (by rw[ZN];lia) E with⟨g1,V⟩|⟨i,hi,g1,V,g3⟩
   ·rw[Y g1,iq iI,zb];refine ih _ ⟨R,σ,n,c+1,pv,O,T,d,D.skip u λi h3 h4=> ?_⟩ (by show w-((c:J)+1).toNat<w-(c:J).toNat;lia);have g4:=V ((ZE (N-n) w<|λi=>R<|σ<|n+i).getD (i-n) [])<|Y3 (by rw[ZN];lia) [];rw[qP W,jh u,(W:n+(i-n)=i)]at g4;show R (σ i) c=0;simpa using g4
   ·rw[ZN]at hi;rw[qP hi,jh u]at V;have F:R (σ<|n+i) c≠0:=by simpa using V
    have⟨τ,v⟩:∃τ:K->K,τ=λs=>if s=n+i then σ n else if s=n then σ (n+i)else σ s:=⟨_,O⟩;have hl:τ n=σ (n+i):=by
     rw[v];show(if n=n+i then σ n else if n=n then σ (n+i)else σ n)=_;by_cases e:n=n+i
     ·rw[iq e];exact kW σ e
     ·rw[ir e,iq O]
    have G:Ps N τ:=by
     have hc:∀s,τ s=σ (if s=n+i then n else if s=n then n+i else s):=λs=>by
      rw[v];show(if s=n+i then σ n else if s=n then σ (n+i)else σ s)=_;by_cases e1:s=n+i
      ·rw[iq e1,iq e1]
      ·rw[ir e1,ir e1];by_cases h:s=n
       ·rw[iq h,iq h]
       ·rw[ir h,ir h]
     refine⟨λs hs=> ?_,λs t hs ht e=> ?_⟩
     ·rw[hc];refine d.lt _ ?_;split<;>(try split)<;>lia
     ·rw[hc,hc]at e;have:=d.ij _ _ (by split<;>(try split)<;>lia) (by split<;>(try split)<;>lia) e;split at this<;>(try split at this)<;>(try split at this)<;>(try split at this)<;>lia
    have hm:Cz p N w M (λj=>R<|τ j) n c pv:=D.swap (a:=n+i) W W λj o=>by
     rw[v];show R (if j=n+i then σ n else if j=n then σ (n+i)else σ j)=if j=n then R (σ<|n+i)else if j=n+i then R (σ n)else R (σ j);by_cases h:j=n+i
     ·rw[iq h];by_cases e1:j=n
      ·rw[iq e1];have e3:n+i=n:=W
       rw[e3]
      ·rw[ir e1,iq h]
     ·rw[ir h];by_cases e1:j=n
      ·rw[iq e1,iq e1]
      ·rw[ir e1,ir e1,ir h]
    have hg:=G.lt n h1;have⟨y1,y2⟩:=T (τ n) hg c;have⟨q,q1,q2,q3,q4⟩:=Kq (fu:=fu) (a:=R (τ n) c) hp (by rw[hl]at y1 y2⊢;lia) y2 E;have e1:(n:J)+(i:J)=((n+i:K):J):=W
    have hn:(aq N σ).set n (σ<|n+i)=aq N λs=>if s=n then σ (n+i)else σ s:=B7;rw[Y g1,zA,e1,zb,zb,yj,Q,u9,zp h1,Q,u9 h1,zp h1,Q,B7,WZ,yj,Q,B7,WZ];rw[show(λs=>if s=n+i then σ n else if s=n then σ (n+i)else σ s)=τ from v.symm];rw[zp h1,Q,u9 h1,qP hg,zD,zp u,Q,qS u,Y q1];simp only;rw[zp h1,Q,u9 h1,Y<|zg7 (fu:=fu) (n:=n) (r:=τ n) (q:=q) S p2 T hg O h1 q2 q3 hw _ O _ O E];simp only;have⟨S1,hd⟩:∃S1:K->Pz,S1=λs=>if s=τ n then λk=>(R (τ n) k*q)%p else R s:=⟨_,O⟩;rw[<-hd];have r1:∀s,s<N->∀k,0<=S1 s k/\S1 s k<p:=λs hs k=>by
     rw[hd];show 0<=(if s=τ n then λk=>(R (τ n) k*q)%p else R s) k/\(if s=τ n then λk=>(R (τ n) k*q)%p else R s) k<p;by_cases e:s=τ n
     ·rw[iq e];exact yn (W:0<p)
     ·rw[ir e];exact T s hs k
    have a0:S1 (τ n)=λk=>(R (τ n) k*q)%p:=by rw[hd];exact iq O
    have H:∀j,j<N->j≠n->S1 (τ j)=R (τ j):=λj o F=>by rw[hd];exact ir λe=>F<|G.ij _ _ o h1 e
    have⟨S2,t1,r2,t2⟩:=Iy (fu:=fu) (a:=c) (lo:=0) (n:=n) (t:=n) S p2 r1 G h1 (.inr W) W hN hw u E;have⟨S3,t3,r3,t4⟩:=Iy (fu:=fu) (a:=c) (lo:=n+1) (n:=N-(n+1)) (t:=n) S p2 r2 G h1 (.inl W) W hN hw u E;have P:S2 (τ n)=S1 (τ n):=by rw[t2 n h1,zA]
    have C:S3 (τ n)=S1 (τ n):=by rw[t4 n h1,zA,P]
    have h:(n:J)+1=((n+1:K):J):=W
    rw[WZ,zp h1,Q,u9 h1,yJ,yL,Y t1,zp h1,Q,u9 h1,h,zb,yJ,yL,Y t3,zb,zb];refine ih _ ⟨S3,τ,n+1,c+1,λi=>if i=n then c else pv i,O,r3,G,?_⟩ (by show w-((c:J)+1).toNat<w-(c:J).toNat;lia);refine hm.step (q:=q) S h1 u q4 (C.trans a0) λj o F=> ?_;show S3 (τ j)=stk p c (S3<|τ n) (R<|τ j);by_cases hr:j<n
    ·rw[t4 j o,zA,t2 j o,aM ⟨W,W⟩,C,H j o F]
    ·rw[t4 j o,aM ⟨W,W⟩,P,t2 j o,zA,C,H j o F]
  ·rw[zA];exact⟨_,O,R,σ,n,c,pv,O,d,D,.inr W⟩
 ·rw[zA];exact⟨_,O,R,σ,n,c,pv,O,d,D,.inl W⟩
def rL(hp:wh p=I)(hc:X m=N)(C:N<=64)(o:∀r∈m,X r=w/\Rl r)(t:w<=64)(b:3000000<=fu):
 ∃(A:K->Pz) (n c:K) (pv:K->K),Zg fu m p=Z (ZE n w A,0)/\Cz p N w (λi=>U<|m.getD i []) A n c pv/\(n=N\/c=w):=by
 have⟨p1,D⟩:=zo hp;unfold Zg;rw[Y<|b6 hp W (λr E=>(o r E).1) t b,iq O];have⟨M,u⟩:∃M:K->Pz,M=λi=>U (m.getD i []):=⟨_,O⟩;rw[<-u];rw[Y (v:=(ZE N w<|λi k=>M i k%p,aq N λi=>i))]
 ·show∃A n c pv,G (zg (zfU fu p) fu ((ZE N w<|λi k=>M i k%p,aq N λi=>i),0,0)) _=_/\_;obtain⟨y,F,R,σ,n,c,pv,rfl,d,z,H⟩:=zex (fu:=fu) (M:=M) hp C t b (x:=((ZE N w<|λi k=>M i k%p,aq N λi=>i),0,0)) ⟨_,_,0,0,λ_=>0,O,λs _ k=>yn,⟨λi hi=>hi,λi j _ _ h=>h⟩,zoC W⟩;have hn:=z.hn;refine⟨λi=>R<|σ i,n,c,pv,?_,z,H⟩;rw[Y F];simp only;rw[yJ,zgn d.lt,ZN,xr hn,Q,ze4 hn]
 ·refine zw (λx:(xS (xS J)×xS K)×J=>∃i:K,i<=N/\x=((ZE i w<|λi k=>M i k%p,aq i λi=>i),(i:J))) (λx=>N-x.2.toNat) _ ?_ _ _ ⟨0,xac _,O⟩ (by show N-0<fu;lia);rintro x L ⟨i,hi,rfl⟩ P;simp only;by_cases h:i<N
  ·have S:=Y3 (l:=m) (i:=i) W [];have⟨e1,T⟩:=o _ S;have V:Xm fu (m.getD i []) p=Z (zl w<|λk=>M i k%p):=by rw[AR W D T W b,e1,u]
   rw[zP,yj,Q,Y V,WZ,yL,Q,ZN,Q,zb];refine P _ ⟨i+1,W,?_⟩ (by show N-((i:J)+1).toNat<N-(i:J).toNat;lia);rw[<-Oj,<-ze9];rfl
  ·rw[zA];obtain rfl:i=N:=W
   rfl
end
section
variable{fu w i N c0:wr}{p:wl}{M A:wr->Pz}
def gb{n c:K}{pv:K->K}(h:Cz p N w M A n c pv)(hi:i<n)(q:w<=64)(k:3000000<=fu):VJ fu (zl w<|A i)=Z (pv i:J):=by
 have r:=h.lt i hi;have hc:=h.hc;unfold VJ;have m:∀z,(λd=>Yd fu d) z=Z (!decide (z=0)):=λz=>by
  show Yd fu z=_;unfold Yd;by_cases e:z=0
  ·simp_all
  ·simp_all
 have f:=h.on i hi;rcases zeb (fu:=fu) (l:=zl w<|A i) (b:=λz=> !decide (z=0)) m (by rw[zD];lia) k with⟨g1,a⟩|⟨j,g,g1,a,o⟩
 ·exfalso;have:=a (pv i) (by rw[zD];lia);rw[jh W,f]at this;simp_all
 ·rw[zD]at g;rw[jh g]at a;have e:j=pv i:=by
   rcases Nat.lt_trichotomy j (pv i)with h1|h1|h1
   ·rw[h.ld i hi j h1]at a;exact wS a iI
   ·exact h1
   ·have:=o (pv i) h1;rw[jh W,f]at this;simp_all
  rw[Y g1,e]
def sx(n:K)(pv:K->K)(c:K):v6:=(xaY n).all λi=> !F (pv i) c
theorem lP{n c:K}{pv:K->K}:sx n pv c=I↔∀i,i<n->pv i≠c:=by grind [sx,Nat.beq_refl,xdt]
theorem O4{n c:K}{pv:K->K}(h:Cz p N w M A n c0 pv)(m:N<=64)(f:w<=64)(d:3000000<=fu):xR fu (ZE n w A) (λz=>jw fu z (c:J))=Z (!sx n pv c):=by
 have hn:=h.hn;unfold xR;have g:∀i,i<n->jw fu (zl w<|A i) (c:J)=Z (decide<|pv i=c):=λi hi=>by
  unfold jw;rw[Y<|gb h hi f d];by_cases e:pv i=c
  ·simp_all
  ·grind
 have⟨b,j⟩:∃b:xS J->v6,b=λz=>match jw fu z (c:J)with
  |some x=>x
  |none=>wL:=⟨_,O⟩
 have hc:∀i,i<n->b (zl w<|A i)=decide (pv i=c):=λi hi=>by rw[j];simp only[g i hi]
 have k:∀z∈ZE n w A,(λz=>jw fu z (c:J)) z=Z (b z):=λz l=>by
  obtain⟨i,hi,rfl⟩:=xap.1 l;simp_all
 rcases PC (fu:=fu) k (by rw[ZN];lia) d with⟨g1,a⟩|⟨i,hi,g1,a,o⟩
 ·rw[Y g1,ir iI];have:sx n pv c=I:=lP.2 λi hi e=>by
   have:=a _ (xbK (xbd.2 hi):zl w (A i)∈ZE n w A);grind
  rw[this];rfl
 ·rw[ZN]at hi;rw[qP hi,hc i hi]at a;rw[Y g1,zP];have:sx n pv c=wL:=by
   cases hd:sx n pv c with
   |false=>rfl
   |true=>exact wS (Wf a)<|lP.1 hd i hi
  rw[this];rfl
def A8(p:J)(A:K->Pz)(pv:K->K)(c:K):K->Pz
 |0=>λk=>if k=c then 1 else 0
 |i+1=>Ya (A8 p A pv c i) (pv i) (-A i c%p)
theorem znP{n c:K}{pv:K->K}{t2:xS (xS J)}{i4:J}(h1:2<=p)(d:p<=65521)(h:Cz p N w M A n c0 pv)(j:N<=64)(e:w<=64)(hc:c<w)(f:3000000<=fu):
 zg (Uv fu (c:J) (w:J) p (ZE n w A) i4) fu (0,t2,zl w<|A8 p A pv c 0)=Z (t2,zl w<|A8 p A pv c n):=by
 have hn:=h.hn;have hd:=h.hc;refine zw (λs:J×xS (xS J)×xS J=>∃i:K,i<=n/\s=((i:J),t2,zl w<|A8 p A pv c i)) (λs=>n-s.1.toNat) _ ?_ _ _ ⟨0,xac _,O⟩ (by show n-0<fu;lia);rintro s L ⟨i,hi,rfl⟩ g;unfold Uv;simp only;have b:∀{β:Type} (x:β) (k:β->V (xS (xS J)×xS J)),G (Z x) k=k x:=λ_ _=>O;by_cases a:i<n
 ·have l:=h.lt i a;have⟨m,o⟩:=h.rg i W c;rw[iq (by rw[ZN];lia),b];simp only[uP];rw[zp (by rw[ZN];exact a),Q,qP a,Y<|gb h a e f,zp (by rw[zD];exact hc),Q,qS hc,zb,Y<|YT W d ⟨W,W⟩,zp (by rw[zD];lia),Q,uC,zb];refine g _ ⟨i+1,W,?_⟩ (by show n-((i:J)+1).toNat<n-(i:J).toNat;lia);rw[Int.zero_sub];rfl
 ·rw[ir (by rw[ZN];lia),b];grind
def oi(n:K)(pv:K->K)(w:K):xS K:=(xaY w).filter<|sx n pv
theorem C3(n:K)(pv:K->K)(w:K):oi n pv (w+1)=if sx n pv w=I then oi n pv w++[w]else oi n pv w:=by grind [oi,xdv]
def zgy(n:K)(pv:K->K)(w:K):X (oi n pv w)<=w:=by
 have:=xfD (sx n pv)<|xaY w;rw[xep]at this;exact this
def EW{m:xS (xS J)}(hp:wh p=I)(hd:X m=N)(e:N<=64)(f:∀r∈m,X r=w/\Rl r)(a:w<=64)(b:3000000<=fu):
 ∃(A:K->Pz) (n c:K) (pv:K->K),VR fu m (w:J) p=Z ((oi n pv w).map λc=>zl w<|A8 p A pv c n,0)/\Cz p N w (λi=>U<|m.getD i []) A n c pv/\(n=N\/c=w):=by
 have⟨o,q⟩:=zo hp;have⟨A,n,c,pv,e1,d,t⟩:=rL (fu:=fu) hp hd e f a b;refine⟨A,n,c,pv,?_,d,t⟩;have hn:=d.hn;unfold VR;rw[Y (v:=Sum.inl ())]
 ·simp only;rw[Y e1];simp only;rw[Y (v:=(oi n pv w).map λc=>zl w<|A8 p A pv c n)];refine zw (λs:xS (xS J)×J=>∃k:K,k<=w/\s=((oi n pv k).map λc=>zl w<|A8 p A pv c n,(k:J))) (λs=>w-s.2.toNat) _ ?_ _ _ ⟨0,xac _,O⟩ (by show w-0<fu;lia);rintro s L ⟨k,z,rfl⟩ g;unfold mi;simp only;have h:∀{β:Type} (x:β) (k:β->V (xS<|xS J)),G (Z x) k=k x:=λ_ _=>O;by_cases l:k<w
  ·rw[zP,h];simp only[uP];rw[Y<|O4 (c:=k) d e a b]
   cases hc:sx n pv k with
   |false=>
    rw[show(!wL)=I from O,iq O,zb];refine g _ ⟨k+1,W,?_⟩ (by show w-((k:J)+1).toNat<w-(k:J).toNat;lia);rw[C3,ir<|by rw[hc];decide];rfl
   |true=>
    have B:=zgy n pv k;have u:zl w (Ya (λ_=>0) k 1)=zl w (A8 p A pv k 0):=yF λj _=>by unfold Ya;rfl
    rw[show(!I)=wL from O,ir iI,yJ,yL,Q,Uo,zp (by rw[zD];exact l),Q,uC,u,Y<|znP (i4:=(w:J)) o q d e a l b];simp only;rw[xr (by rw[xaZ];simp;lia),Q,zb];refine g _ ⟨k+1,W,?_⟩ (by show w-((k:J)+1).toNat<w-(k:J).toNat;lia);rw[C3,iq hc,xba];rfl
  ·rw[zA,h];simp only[xar,uS];obtain rfl:k=w:=W
   rfl
 ·rw[Y<|b6 hp W (λr y=>(f r y).1) a b,iq O,zA,zA];by_cases h0:0<X m
  ·have C:=(f _<|Y3 h0 []).1;rw[zP,zlG h0,Q,zP]
  ·rw[zA]
def pC{p:J}{A:K->Pz}{pv:K->K}{c k:K}:∀{n:K},(∀i,i<n->pv i≠k)->A8 p A pv c n k=if k=c then 1 else 0
 |0,_=>rfl
 |n+1,h=>by
  show Ya (A8 p A pv c n) (pv n) _ k=_;unfold Ya;rw[ir<|λe=>h n W e.symm];exact pC λi hi=>h i W
def BN{p:J}{A:K->Pz}{pv:K->K}{c i:K}:∀{n:K},i<n->(∀j,j<n->j≠i->pv j≠pv i)->A8 p A pv c n (pv i)= -A i c%p
 |0,h,_=>by lia
 |n+1,h,hd=>by
  show Ya (A8 p A pv c n) (pv n) _ (pv i)=_;unfold Ya;by_cases e:i=n
  ·simp_all
  ·rw[ir<|λa=>hd n W (λb=>e b.symm) a.symm];exact BN W λj f d=>hd j W d
def Cz.pv_ne{n c:K}{pv:K->K}(h:Cz p N w M A n c pv){j:K}(hi:i<n)(a:j<n)(b:j≠i):pv j≠pv i:=λe=>by
 have h1:=h.on i hi;have hn:=h.hn;have f:=h.no j a i W λd=>b d.symm;simp_all
def zbQ{p:J}(hp:2<=p){A:K->Pz}{pv:K->K}{c:K}:∀(n k:K),0<=A8 p A pv c n k/\A8 p A pv c n k<p
 |0,k=>by
  show 0<=(if k=c then 1 else 0)/\(if k=c then 1 else 0)<p;lia
 |n+1,k=>by
  show 0<=Ya (A8 p A pv c n) (pv n) (-A n c%p) k/\Ya (A8 p A pv c n) (pv n) (-A n c%p) k<p;unfold Ya;split
  ·exact yn
  ·exact zbQ hp n k
theorem zcp(n:K)(pv:K->K)(F:K->J):∀w,yp (X (oi n pv w)) (λj=>F<|(oi n pv w).getD j 0)=yp w λc=>if sx n pv c=I then F c else 0
 |0=>rfl
 |w+1=>by
  have a:=zcp n pv F w;show _=yp w _+(if sx n pv w=I then F w else 0);rw[C3];by_cases h:sx n pv w=I
  ·rw[iq h,xaq,<-a];show yp (X (oi n pv w)) _+F ((oi n pv w++[w]).getD (X (oi n pv w)) 0)=_;congr 1
   ·exact yu λj b=>by grind
   ·simp_all
  ·simp_all
def zhx{n c:K}{pv:K->K}(h:Cz p N w M A n c pv)(hi:i<n)(e:K->J):dt w (A i) e=e (pv i)+yp w λk=>if sx n pv k=I then A i k*e k else 0:=by
 have hd:=h.lt i hi;have m:=h.hc;have hn:=h.hn;have h1:dt w (A i) e=yp w (λk=>(if k=pv i then e k else 0)+if sx n pv k=I then A i k*e k else 0):=by
  refine yu λk f=> ?_;by_cases e1:k=pv i
  ·have a:=λa=>lP.1 a i hi e1.symm;rw[iq e1,ir a,e1,h.on i hi,xcv,xbF]
  ·rw[ir e1];by_cases a:sx n pv k=I
   ·simp_all
   ·rw[ir a,xbF];have⟨j,d,b⟩:∃j,j<n/\pv j=k:=by
     apply xai;intro g;exact a<|lP.2 λj d b=>g ⟨j,d,b⟩
    have hc:i≠j:=λl=>by rw[<-l]at b;exact e1 b.symm
    rw[<-b,h.no j d i W hc,xaP]
 rw[h1,Xt,wM<|λk f=>ir f,zP,iq O]
def zn6(hp:2<=p){n:K}{pv:K->K}(h:Cz p N w M A n c0 pv)(f:n=N\/c0=w){c:K}(hc:c<w)(o:sx n pv c=I):Kr p N w M (A8 p A pv c n):=(h.kr _).1 λi hi=>by
 by_cases a:i<n
 ·rw[zhx h a,BN a λj l hd=>h.pv_ne (i:=i) (j:=j) a l hd];have m:yp w (λk=>if sx n pv k=I then A i k*A8 p A pv c n k else 0)=A i c:=by
   rw[yu (g:=λk=>if k=c then A i k else 0) λk b=>by
    by_cases d:sx n pv k=I
    ·rw[iq d,pC<|lP.1 d];by_cases e:k=c
     ·simp_all
     ·simp_all
    ·rw[ir d];by_cases e:k=c
     ·simp_all
     ·rw[ir e],wM (i:=c)<|λk b=>ir b,iq hc,iq O]
  rw[m];refine xaF ?_;rw[Int.emod_add_emod,(W:-A i c+A i c=0),xah]
 ·obtain he|he:=f
  ·lia
  ·have:dt w (A i) (A8 p A pv c n)=0:=by
    unfold dt;rw[xk λk b=>by rw[h.zr i W hi k W,xaP]]
   simp_all
theorem zjD(hp:2<=p){n:K}{pv:K->K}(h:Cz p N w M A n c0 pv){e:K->J}(f:Kr p N w M e){k:K}(l:k<w):
 e k%p=yp (X (oi n pv w)) (λj=>e ((oi n pv w).getD j 0)*A8 p A pv ((oi n pv w).getD j 0) n k)%p:=by
 rw[zcp n pv (λc=>e c*A8 p A pv c n k) w];by_cases d:sx n pv k=I
 ·congr 1;rw[yu (g:=λc=>if c=k then e c else 0) λc hc=>by
   rw[pC<|lP.1 d];by_cases e1:c=k
   ·simp_all
   ·rw[ir e1,ir (λh:k=c=>e1 h.symm),xaC,ite_self],wM (i:=k)<|λc hc=>ir hc,iq l,iq O]
 ·obtain⟨i,hi,rfl⟩:∃i,i<n/\pv i=k:=by
   apply xai;intro m;exact d<|lP.2 λj b hd=>m ⟨j,b,hd⟩
  have hn:=h.hn;have h1:=(h.kr e).2 f i W;rw[zhx h hi]at h1;have o:yp w (λc=>if sx n pv c=I then e c*A8 p A pv c n (pv i)else 0)%p=(-(yp w λk=>if sx n pv k=I then A i k*e k else 0))%p:=by
   have q: -(yp w λk=>if sx n pv k=I then A i k*e k else 0)=yp w λk=> -1*(if sx n pv k=I then A i k*e k else 0):=by rw[uR];lia
   rw[q];refine gL λc hc=> ?_;by_cases a:sx n pv c=I
   ·rw[iq a,iq a,BN hi λj b r=>h.pv_ne (i:=i) (j:=j) hi b r,xbc,xaE,<-xbc];grind
   ·rw[ir a,ir a,xaC]
  rw[o];refine xaI.2<|xav ?_;rw[Int.sub_neg];exact h1
end
section
variable{N w r fu P:wr}{R:wr->Pz}{m:xS wl}
def L6(h:r<N):(([]:xS J)::ZE N w R).getD (r+1) []=zl w (R r):=qP h
theorem zeL{g:Pz}:(([]:xS J)::ZE N w R).set (r+1) (zl w g)=[]::ZE N w λs=>if s=r then g else R s:=by grind [La]
theorem zmT{c:K}{h:xS J}(f:w<=64)(hc:c<w)(hl:X h<=w)(b:J)(d:b=(c:J))(g:3000000<=fu):
 zg (λL (y:(xS (xS J)×xS K)×J)=>
 if y.2<(X h:J)then
  zG y.2 (X h) λj=>
  C (h.getD j 0) λv=>
  zG y.2 (X y.1.2) λj=>
  C (y.1.2.getD j 0) λr=>
  zG b (X (y.1.1.getD r [])) λj=>
  C (y.1.1.set r<|(y.1.1.getD r []).set j v) λa=>
  E (y.2+1) λi=>L ((a,y.1.2),i)
 else Z y.1) fu (([]::ZE w w R,aq w λi=>i+1),0)=Z ([]::ZE w w λs=>if s<X h then Ya (R s) c (U h s)else R s,aq w λi=>i+1):=by
 subst d;refine zw (λy:(xS (xS J)×xS K)×J=>∃i:K,i<=X h/\y=(([]::ZE w w λs=>if s<i then Ya (R s) c (U h s)else R s,aq w λi=>i+1),(i:J))) (λy=>X h-y.2.toNat) _ ?_ _ _ ⟨0,xac _,by rw[ZR (R:=R) (S:=λs=>if s<0 then Ya (R s) c (U h s)else R s) λs _ k _=>by rw[zA]];rfl⟩ (by show X h-0<fu;lia);rintro y L ⟨i,hi,rfl⟩ e;simp only;by_cases h1:i<X h
 ·rw[zP,zp h1,Q,ZZ,WZ,yj,Q,u9,L6 W,zD,zp hc,Q,uC,zeL,zA,zb];refine e _ ⟨i+1,W,?_⟩ (by show X h-((i:J)+1).toNat<X h-(i:J).toNat;lia);grind
 ·grind
def Kc(a:K->xS J)(c:K):K->Pz:=λi k=>if k<c then U (a k) i-(if i=k then 1 else 0)else 0
def CH{a b:xS J}{p:J}(hp:wh p=I)(e:Fp p a)(c:xH p b)(hc:X a<=90000)(hd:X b<=90000)(f:3000000<=fu):
 ∃q r,kG fu a b p=Z (q,r,0)/\Fp p r/\Cg p (U a) (U q*U b+U r)/\X r<X b:=by
 have⟨j,d⟩:=zo hp;have⟨q,r,e1,k,g,h,i,l⟩:=xA hp e c.fm c.ln hc hd f;refine⟨q,r,?_,g,h,i⟩;unfold kG;rw[Y<|uh hp,iq O,Y<|zO W d (c.fm.rl d) W f,c.fm.pm,zA,Y<|zO W d (e.rl d) W f,e.pm,Y e1]
def zhN(fu:K)(f:xS J)(p n:J):(((xS (xS J)×xS K)×xS J×xS J×J)->V (xS (xS J)×xS K))->((xS (xS J)×xS K)×xS J×xS J×J)->V (xS (xS J)×xS K):=λL (x:(xS (xS J)×xS K)×xS J×xS J×J)=>if x.2.2.2<n then G (zg (λL (y:(xS (xS J)×xS K)×J)=>if y.2<(X x.2.1:J)then zG y.2 (X x.2.1) λj=>C (x.2.1.getD j 0) λv=>zG y.2 (X y.1.2) λj=>C (y.1.2.getD j 0) λr=>zG x.2.2.2 (X (y.1.1.getD r [])) λj=>C (y.1.1.set r<|(y.1.1.getD r []).set j v) λa=>E (y.2+1) λi=>L ((a,y.1.2),i)else Z y.1) fu (x.1,0)) λy=>zG x.2.2.2 (X y.2) λj=>C (y.2.getD j 0) λr=>zG x.2.2.2 (X (y.1.getD r [])) λj=>C ((y.1.getD r []).getD j 0) λv=>E (v-1) λe=>zG x.2.2.2 (X (y.1.getD r [])) λj=>C (y.1.set r<|(y.1.getD r []).set j e) λa=>G (kE fu x.2.1 x.2.2.1 p) λu=>G (kG fu u.1 f p) λw=>E (x.2.2.2+1) λi=>L ((a,y.2),w.2.1,x.2.2.1,i)else Z x.1
def zmi:((aq N λi=>i+1).map λr=>(([]:xS J)::ZE N w R).getD r [])=ZE N w R:=by
 show((xaY N).map λi=>i+1).map _=(xaY N).map _;rw[xcP];exact xci λi hi=>L6<|xbd.1 hi
def FxI(P:K)(m x:xS J)(w:K)(y:(xS (xS J)×xS K)×xS J×xS J×J):Prop:=
 ∃(a:K->xS J) (c:K),y=(([]::ZE w w (Kc a c),aq w λi=>i+1),a c,x,(c:J))/\c<=w/\∀k,k<=c->Fp (P:J) (a k)/\X (a k)<=w/\Em (P:J) m (pp (pp vx P) k) (U<|a k)
def ze8{x:xS J}(hp:wh (P:J)=I)(o:xH (P:J) m)(hi:X m=w+1)(B:1<=w)(q:w<=64)(t:Fp (P:J) x)(hl:X x<=w)(hd:Em (P:J) m (pp vx P) (U x))(h:3000000<=fu){y:(xS (xS J)×xS K)×xS J×xS J×J}(j:FxI P m x w y):
 ∃r,zg (zhN fu m P (w:J)) fu y=Z r/\∃a:K->xS J,r=([]::ZE w w (Kc a w),aq w λi=>i+1)/\∀k,k<=w->Fp (P:J) (a k)/\X (a k)<=w/\Em (P:J) m (pp (pp vx P) k) (U<|a k):=by
 have⟨C,D⟩:=zo hp;refine yr (FxI P m x w) (λy=>w-y.2.2.2.toNat) _ ?_ _ _ j (by obtain⟨a,c,rfl,_⟩:=j;show w-(c:J).toNat<fu;lia);rintro y L ⟨a,c,rfl,hc,d⟩ u;unfold zhN;simp only;by_cases h1:c<w
 ·have⟨k1,k2,v⟩:=d c<|IR _;have E:=k1.nn c;have hn:=k1.lt c;have⟨R,f⟩:∃R:K->Pz,R=λs=>if s<X (a c) then Ya (Kc a c s) c (U (a c) s)else Kc a c s:=⟨_,O⟩;have l:∀s,R s c=U (a c) s:=λs=>by
   rw[f];show(if s<X (a c) then Ya (Kc a c s) c (U (a c) s)else Kc a c s) c=_;by_cases e:s<X (a c)
   ·rw[iq e];exact iq O
   ·rw[ir e,zU W];exact zA
  have z:∀s k,k≠c->R s k=Kc a c s k:=λs k g=>by
   rw[f];show(if s<X (a c) then Ya (Kc a c s) c (U (a c) s)else Kc a c s) k=_;by_cases e:s<X (a c)
   ·rw[iq e];exact ir g
   ·rw[ir e]
  have F:=wZ (P:J) (a c) x;have⟨q2,r2,d1,d2,d3,d4⟩:=CH (fu:=fu) hp (w5 (p:=(P:J)) W (a c) x) o W W h;rw[zP,Y<|zmT (fu:=fu) (R:=Kc a c) q h1 k2 _ O h,<-f];simp only;rw[WZ,zp h1,Q,u9 h1,L6 h1,zD,zp h1,Q,qS h1,l,zb,zp h1,Q,uC,zeL,Y<|u4 hp k1 t,Y d1];simp only;rw[zb];refine u _ ⟨λk=>if k=c+1 then r2 else a k,c+1,?_,W,λk g=> ?_⟩ (by show w-((c:J)+1).toNat<w-(c:J).toNat;lia)
  ·show _=((_,_),(if c+1=c+1 then r2 else a (c+1)),x,_);rw[iq O,ZR (S:=Kc (λk=>if k=c+1 then r2 else a k)<|c+1) λs G k g=>by
    show(if s=c then Ya (R c) c (U (a c) c-1)else R s) k=if k<c+1 then U (if k=c+1 then r2 else a k) s-(if s=k then 1 else 0)else 0;by_cases e1:k=c
    ·rw[e1,show(if c<c+1 then U (if c=c+1 then r2 else a c) s-(if s=c then(1:J)else 0)else 0)=U (a c) s-(if s=c then(1:J)else 0)by rw[zP,zA]];by_cases b:s=c
     ·rw[iq b,iq b,b];exact iq O
     ·rw[ir b,ir b,l,xcB]
    ·have A:(if s=c then Ya (R c) c (U (a c) c-1)else R s) k=R s k:=by
      by_cases b:s=c
      ·rw[iq b,b];exact ir e1
      ·rw[ir b]
     rw[A,z s k e1];unfold Kc;by_cases n:k<c
     ·rw[iq n,show(if k<c+1 then U (if k=c+1 then r2 else a k) s-(if s=k then(1:J)else 0)else 0)=U (a k) s-(if s=k then(1:J)else 0)by rw[zP,zA]]
     ·rw[ir n,ir (W:¬k<c+1)]]
   rfl
  ·show Fp (P:J) (if k=c+1 then r2 else a k)/\X (if k=c+1 then r2 else a k)<=w/\Em (P:J) m (pp (pp vx P) k) (U (if k=c+1 then r2 else a k));by_cases e:k=c+1
   ·rw[iq e,e];refine⟨d2,W,?_⟩;show Em (P:J) m (pp (pp vx P) c*pp vx P) (U r2);exact(Em.mul ((Fs.vx.pp P).pp c) (Fs.ci x) v hd).trans<|(Em.cg (qT (P:J) (a c) x).symm).trans<|Em.rest d3
   ·rw[ir e];exact d k W
 ·rw[zA];obtain rfl:c=w:=W
  exact⟨_,O,a,O,d⟩
def oU(hp:wh (P:J)=I)(c:xH (P:J) m)(j:X m=w+1)(l:1<=w)(n:w<=64)(d:3000000<=fu):
 ∃b:K->xS J,XJ fu m P=G (VR fu (ZE w w<|Kc b w) (w:J) P) (λr=>Z r.1)/\∀k,k<=w->Fp (P:J) (b k)/\X (b k)<=w/\Em (P:J) m (pp (pp vx P) k) (U<|b k):=by
 have⟨z,A⟩:=zo hp;have cx:U [0,1]=vx:=by
  funext k
  match k with
  |0=>rfl
  |1=>rfl
  |k+2=>rw[zU iP];exact(show(if k+2=1 then(1:J)else 0)=0 from zA).symm
 have fx:Fp (P:J) [0,1]:=⟨λk=>by rw[cx];show 0<=(if k=1 then(1:J)else 0);split<;>lia,λk=>by rw[cx];show(if k=1 then(1:J)else 0)<P;split<;>lia,.inr iI⟩;have o:Fp (P:J) [1]:=uB;have⟨x,p,q,B,f⟩:=KB (fu:=fu) (w:=[0,1]) (a:=m) (E:=P) hp fx c iI W W W d;rw[cx]at f;have hc:ZE w w (Kc (λ_=>[1]) 0)=ZE w w (λ_ _=>0):=ZR λs _ k _=>zA;obtain⟨r,g,b,rfl,t⟩:=ze8 (fu:=fu) hp c j l n q W f d (y:=(([]::ZE w w (Kc (λ_=>[1]) 0),aq w λi=>i+1),[1],x,0)) ⟨λ_=>[1],0,O,xac _,λk C=>⟨o,by simp;lia,by
  obtain rfl:k=0:=W
  show Em (P:J) m (D 1) (U [1]);rw[wX];exact Em.rfl⟩⟩
 rw[hc]at g;refine⟨b,?_,t⟩;unfold XJ;rw[zb,(W:(X m:J)-1=(w:J)),yJ,yL,Q,Y (v:=([]::ZE w w (λ_ _=>0),aq w λi=>i+1))]
 ·rw[Y<|yq ⟨W,W⟩,Y p];show G (zg (zhN fu m P (w:J)) fu (([]::ZE w w (λ_ _=>0),aq w λi=>i+1),[1],x,0)) _=_;rw[Y g];simp only;rw[zmi]
 ·have hd:Nm w 0=aq w λs=>if s<0 then s+1 else 0:=by
   unfold aq;rw[show(λs=>if s<0 then s+1 else 0)=λ_=>0 from qR λs=>zA,List.map_const',xep]
  rw[hd];refine zw (λx:(xS (xS J)×xS K)×J=>∃i:K,i<=w/\x=(([]::ZE i w (λ_ _=>0),aq w λs=>if s<i then s+1 else 0),(i:J))) (λx=>w-x.2.toNat) _ ?_ _ _ ⟨0,xac _,O⟩ (by show w-0<fu;lia);rintro x L ⟨i,hi,rfl⟩ u;simp only;rw[WZ];by_cases h1:i<w
  ·rw[zP,yJ,yL,Q,Uo,WZ,zp h1,Q,xbL,Oj i w<|λ_ _=>0,Q,B7,xaw,ZN,zb];refine u _ ⟨i+1,W,?_⟩ (by show w-((i:J)+1).toNat<w-(i:J).toNat;lia);have:(λs=>if s=i then i+1 else if s<i then s+1 else 0)=λs=>if s<i+1 then s+1 else 0:=qR λs=>by
    by_cases e:s=i
    ·rw[iq e,zP,e]
    ·rw[ir e];by_cases h:s<i
     ·rw[iq h,zP]
     ·rw[ir h,zA]
   rw[this];rfl
  ·rw[zA];obtain rfl:i=w:=W
   congr 2;unfold aq;exact xci λs b=>iq<|xbd.1 b
end
section
variable{m:xS wl}{P w:wr}
def Di.short{p:J}(hp:2<=p)(a:xH p m){f:Pz}(b:∀k,X m-1<=k->f k=0)(h:Di p (U m) f):Cg p f (D 0):=by
 have⟨q,fq,hc⟩:=h;have:=a.mn.zero hp fq λk c=>by rw[<-hc k,b k c,xah]
 exact hc.trans<|this.mul_zero_r _
def IX(F:K->Pz)(k:K):∀n,smP n F k=yp n λi=>F i k
 |0=>by show D 0 k=0;unfold D;split<;>rfl
 |n+1=>by
  show(smP n F+F n) k=yp n (λi=>F i k)+F n k;rw[zI,IX F k n]
def Em.smP{p:J}{a:N J}{F G:K->Pz}:∀n,(∀i,i<n->Em p a (F i) (G i))->Em p a (smP n F) (smP n G)
 |0,_=>Em.rfl
 |n+1,h=>(Di.add (Em.smP n λi hi=>h i W)<|h n W).cg (Cg.of (qR λk=>by
  show(Go.Proofs.YtmggkmchbdanfaaGreat.smP n F k-Go.Proofs.YtmggkmchbdanfaaGreat.smP n G k)+(F n k-G n k)=(Go.Proofs.YtmggkmchbdanfaaGreat.smP n F k+F n k)-(Go.Proofs.YtmggkmchbdanfaaGreat.smP n G k+G n k);lia))
theorem zc1{a:K->N J}(hp:wh (P:J)=I)(o:xH (P:J) m)(q:X m=w+1)(d:∀k,k<=w->Fp (P:J) (a k)/\X (a k)<=w/\Em (P:J) m (pp (pp vx P) k) (U<|a k)){e:Pz}(f:∀k,w<=k->e k=0):
 Di (P:J) (U m) (pp e P-e)↔∀s,s<w->(P:J)∣dt w (Kc a w s) e:=by
 have⟨r,t⟩:=zo hp;have hn:=Y0 hp;rw[xaN]at hn;let S:Pz:=smP w λi=>D (e i)*U (a i)
 have h1:Em (P:J) m (pp e P) S:=(Em.cg<|zpi W hn f).trans<|Em.smP w λi hi=>Em.mul (Fs.pc _) (Fs.ci _) Em.rfl (d i W).2.2;have j:∀k,w<=k->(S-e) k=0:=λk b=>by
  show S k-e k=0;rw[f k b,show S k=yp w λi=>(D (e i)*U (a i)) k from IX _ k w,xk λi hi=>by rw[zS,zU (by have:=(d i W).2.1;lia),xaC]];rfl
 have l:∀s,s<w->dt w (Kc a w s) e=(S-e) s:=λs c=>by
  show yp w (λk=>(if k<w then U (a k) s-(if s=k then 1 else 0)else 0)*e k)=S s-e s;rw[show S s=yp w λi=>(D (e i)*U (a i)) s from IX _ s w,yu (g:=λk=>(D (e k)*U (a k)) s+(if k=s then-e k else 0)) λk b=>by
   rw[iq b,zS];by_cases h:k=s
   ·grind
   ·rw[ir<|λg=>h g.symm,ir h,xcB,xbF,xbg],Xt,wM (i:=s)<|λk b=>ir b,iq c,iq O]
  lia
 have p:Di (P:J) (U m) (pp e P-e)↔Di (P:J) (U m) (S-e):=⟨λh=>(h1.symm.trans (show Em _ _ _ e from h):Em _ _ _ e),λh=>(h1.trans (show Em _ _ _ e from h):Em _ _ _ e)⟩;rw[p];constructor
 ·intro h s c;have:=Di.short W o (λk b=>j k W) h;rw[l s c];have n:=this s;rw[zH,xah]at n;exact xaF n
 ·intro h;refine(Di.zero _ _).cg λs=> ?_;rw[zH,xah];symm;by_cases c:s<w
  ·rw[<-l s c];exact xav<|h s c
  ·rw[j s W,xah]
def zkY(hp:wh (P:J)=I):P=2\/P%2=1:=by
 have⟨a,b⟩:=zo hp;have hn:=Y0 hp;by_cases h:P=2
 ·lia
 ·have:=hn 2 W;by_cases c:4<=P
  ·lia
  ·lia
def AL{fu:K}(hp:wh (P:J)=I)(x:xH (P:J) m)(z:X m=w+1)(T:1<=w)(B:w<=64)(E:3000000<=fu):
 ∃bs,XJ fu m P=Z bs/\1<=X bs/\X bs<=w/\(∀v∈bs,Rl v/\X v=w)/\Bs P m (λi=>U<|bs.getD i []) (X bs)/\∃c:J,Cg (P:J) (U<|bs.getD 0 []) (D c):=by
 have⟨p1,p2⟩:=zo hp;have⟨b,h1,t⟩:=oU (fu:=fu) hp x z T B E;have V:∀s k,K8 (Kc b w s k):=λs k=>by
  show K8 (if k<w then U (b k) s-(if s=k then 1 else 0)else 0);by_cases h:k<w
  ·rw[iq h];have f:=(t k W).1;have f1:=f.nn s;have f2:=f.lt s;split
   ·exact⟨W,W⟩
   ·exact⟨W,W⟩
  ·rw[ir h];exact⟨W,W⟩
 have⟨A,n,c,pv,e1,o,e3⟩:=EW (fu:=fu) (N:=w) (w:=w) (m:=ZE w w<|Kc b w) hp (ZN _ _ _) B (λr G=>by
  unfold ZE at G;obtain⟨s,_,rfl⟩:=xap.1 G;refine⟨zD _ _,λk=> ?_⟩;by_cases a:k<w
  ·rw[jh a];exact V s k
  ·rw[zU<|by rw[zD];lia];exact⟨W,W⟩) B E
 have C:∀e:Pz,Kr (P:J) w w (λi=>U<|(ZE w w<|Kc b w).getD i []) e↔∀s,s<w->(P:J)∣dt w (Kc b w s) e:=λe=>forall_congr' λs=>imp_congr_right λy=>by rw[show dt w (U<|(ZE w w<|Kc b w).getD s []) e=dt w (Kc b w s) e from yu λk a=>by rw[qP y,jh a]]
 let F:K->xS J:=λc=>zl w<|A8 (P:J) A pv c n
 have hn:∀i,i<X (oi n pv w)->(oi n pv w).getD i 0<w/\sx n pv ((oi n pv w).getD i 0)=I:=λi hi=>by
  rw[xaa,xak hi,xeA];have:=xcd hi;have d:=xbY.1 this;exact⟨xbd.1 d.1,d.2⟩
 have q:∀i,i<X (oi n pv w)->((oi n pv w).map F).getD i []=F ((oi n pv w).getD i 0):=λi hi=>by rw[xaa,xaa,xcu,xak hi];rfl
 have H:∀i,i<w->(P:J)∣A i 0:=by
  have h0:Kr (P:J) w w A λk=>if k=0 then 1 else 0:=(o.kr _).2 ((C _).2 λs y=>by
   show(P:J)∣yp w λk=>Kc b w s k*(if k=0 then 1 else 0);rw[wM (i:=0) (λk a=>by rw[ir a,xaC]),zP,iq O,xck];show(P:J)∣(if 0<w then U (b 0) s-(if s=0 then 1 else 0)else 0);rw[zP];have g:=(t 0<|xac _).2.2;have g1:Cg (P:J) (D 1-U (b 0)) (D 0):=Di.short W x (λk a=>by
    rw[yY,zU (by have:=(t 0<|xac _).2.1;lia)];show D 1 k-0=0;unfold D;rw[zA];rfl) g
   have L:=g1 s;rw[yY,zH,xah]at L;have M:=xaF L;have g4:(D 1 s:J)=if s=0 then 1 else 0:=O;rw[g4]at M;have:=Int.dvd_neg.2 M;rw[Int.neg_sub]at this;exact this)
  intro i hi;have:(P:J)∣yp w λk=>A i k*(if k=0 then 1 else 0):=h0 i hi;rw[wM (i:=0) (λk a=>by rw[ir a,xaC]),zP,iq O,xck]at this;exact this
 have Q:sx n pv 0=I:=lP.2 λi hi h=>by
  have d:=o.on i hi;rw[h]at d;have R:=H i (by have:=o.hn;lia);rw[d]at R;have:=Int.le_of_dvd W R;lia
 have hx:∃l,oi n pv w=0::l:=by
  obtain⟨u,rfl⟩:∃u,w=u+1:=⟨w-1,W⟩;unfold oi;rw[List.range_succ_eq_map,xfF,iq Q];exact⟨_,O⟩
 have⟨l,hl⟩:=hx;refine⟨(oi n pv w).map F,by rw[h1,Y e1],by rw[hl];simp,by rw[xaZ];exact zgy n pv w,λv hv=> ?_,⟨zkY hp,W,λe he hd=> ?_,λi hi k a=> ?_,λi hi=> ?_⟩,1,?_⟩
 ·obtain⟨c,_,rfl⟩:=xap.1 hv;refine⟨λk=> ?_,zD _ _⟩;by_cases a:k<w
  ·show K8 (U (zl w _) k);rw[jh a];have:=zbQ (p:=(P:J)) W (A:=A) (pv:=pv) (c:=c) n k;exact⟨W,W⟩
  ·rw[zU (by show(zl w _).length<=k;rw[zD];lia)];exact⟨W,W⟩
 ·have S:∀k,w<=k->e k=0:=λk a=>he k W;refine⟨λi=>e<|(oi n pv w).getD i 0,λk=> ?_⟩;rw[IX,xaZ];by_cases a:k<w
  ·rw[zjD W o ((C e).2<|(zc1 hp x z t S).1 hd) a];congr 1;refine yu λi hi=> ?_;rw[zS,q i hi];show _=_*U (zl w _) k;rw[jh a]
  ·rw[S k W,xk λi hi=>by
    rw[zS,q i hi];show _*U (zl w _) k=0;rw[zU (by rw[zD];lia),xaC]]
 ·rw[xaZ]at hi;rw[q i hi];exact zU (by show(zl w _).length<=k;rw[zD];lia)
 ·rw[xaZ]at hi;have hz:∀k,w<=k->U (((oi n pv w).map F).getD i []) k=0:=λk a=>by
   rw[q i hi];exact zU (by show(zl w _).length<=k;rw[zD];lia)
  refine(zc1 hp x z t hz).2<|(C _).1 ?_;have:=zn6 W o e3 (hn i hi).1 (hn i hi).2;intro s y;have d:=this s y;rw[show dt w _ (U<|((oi n pv w).map F).getD i [])=dt w _ (A8 (P:J) A pv ((oi n pv w).getD i 0) n)from yu λk a=>by
   rw[q i hi];show _*U (zl w _) k=_;rw[jh a]]
  exact d
 ·intro k;rw[q 0 (by rw[hl];simp),hl];show U (zl w<|A8 (P:J) A pv 0 n) k%P=(if k=0 then(1:J)else 0)%P;by_cases a:k<w
  ·rw[jh a];by_cases hc:sx n pv k=I
   ·rw[pC<|lP.1 hc]
   ·have:∃i,i<n/\pv i=k:=xai λh=>hc<|lP.2 λi hi d=>h ⟨i,hi,d⟩;obtain⟨i,hi,rfl⟩:=this;rw[BN hi λj hj hy=>o.pv_ne (i:=i) (j:=j) hi hj hy];have h0:pv i≠0:=λh=>by rw[h]at hc;exact hc Q
    rw[ir h0,xah];have h5:=H i (by have:=o.hn;lia);exact xav<|xaF<|by rw[xcC _<|xet _];exact xav<|Int.dvd_neg.2 h5
  ·rw[zU (by rw[zD];lia),zA]
end
section
section
variable{α:Type}
def iB1(d:α)(cmp:α->α->V J):((J×J×J×N α)->V (J×J×N α))->(J×J×J×N α)->V (J×J×N α):=λL (i2,a,i4,t2)=>
 if i2<i4 then
 zG i4 (X t2) λb=>
 C ((t2.getD b d)) λt3=>
 E (i4-(1:J)) λc=>
 zG c (X t2) λe=>
 C ((t2.getD e d)) λt4=>
 G (cmp t3 t4) λf=>
 if f<(0:J)then
 E (i4-(1:J)) λg=>
 E (i4-(1:J)) λh=>
 zG h (X t2) λi=>
 C ((t2.getD i d)) λt5=>
 zG i4 (X t2) λj=>
 C ((t2.getD j d)) λt6=>
 zG i4 (X t2) λk=>
 C (t2.set k t5) λt7=>
 zG g (X t7) λl=>
 C (t7.set l t6) λt8=>
 E (i4-(1:J)) λm=>
 L (i2,a,m,t8)
 else
 Z (i2,a,t2)
 else
 Z (i2,a,t2)
def iB0(fu:K)(d:α)(b a:J)(cmp:α->α->V J):((J×N α)->V (N α))->(J×N α)->V (N α):=λL (i1,t1)=>
 if i1<a then
 G (zg (iB1 d cmp) fu (b,a,i1,t1)) λ(e,f,t9)=>
 E (i1+(1:J)) λc=>
 L (c,t9)
 else
 Z t1
structure Od3(c:α->α->J)(S:α->Prop):Prop where
 tr:∀x y z,S x->S y->S z->¬c y x<0->¬c z y<0->¬c z x<0
 an:∀x y,S x->S y->c x y<0->¬c y x<0
def zaz(d x:α):∀(a b:N α),(a++x::b).getD (X a) d=x
 |[],_=>rfl
 |_::a,b=>zaz d x a b
def MO(d y x:α):∀(a b:N α),(a++y::x::b).getD (X a+1) d=x
 |[],_=>rfl
 |_::a,b=>MO d y x a b
def zf3(x z:α):∀(a b:N α),(a++x::b).set (X a) z=a++z::b
 |[],_=>rfl
 |h::a,b=>kW (h:: ·)<|zf3 x z a b
def zcd(y x z:α):∀(a b:N α),(a++y::x::b).set (X a+1) z=a++y::z::b
 |[],_=>rfl
 |h::a,b=>kW (h:: ·)<|zcd y x z a b
def zbF{l:N α}(h:0<X l):∃a y,l=a++[y]:=⟨l.dropLast,l.getLast (λe=>by rw[e]at h;exact wS h<|Nat.lt_irrefl _),(List.dropLast_concat_getLast _).symm⟩
def zoQ{fu:K}{d:α}{cmp:α->α->V J}{c:α->α->J}{S:α->Prop}(hc:∀x y,S x->S y->cmp x y=Z (c x y)){s rest:xS α}{x:α}(j:∀y∈s,S y)(k:S x)(hn:X (s++x::rest)<=1000)(o:3000000<=fu){N:J}:
 ∃r,zg (iB1 d cmp) fu (0,N,(X s:J),s++x::rest)=Z r/\∃r1 r2,s=r1++r2/\r=(0,N,r1++x::(r2++rest))/\(∀y∈r2,c x y<0)/\∀a y,r1=a++[y]->¬c x y<0:=by
 rw[xaq,xaw]at hn;refine yr (λt:J×J×J×xS α=>∃r1 r2,s=r1++r2/\t=(0,N,(X r1:J),r1++x::(r2++rest))/\∀y∈r2,c x y<0) (λt=>t.2.2.1.toNat) _ ?_ fu _ ⟨s,[],(xbB s).symm,O,λy g=>by simp at g⟩ (by show(X s:J).toNat<fu;lia);rintro t L ⟨r1,r2,e,rfl,i⟩ l;unfold iB1;simp only;have hl:X s=X r1+X r2:=by rw[e,xaq]
 by_cases h:0<X r1
 ·obtain⟨a,y,rfl⟩:=zbF h;have m:X (a++[y])=X a+1:=iP
  have h1:a++[y]++x::(r2++rest)=a++y::x::(r2++rest):=iP
  have n:X (a++y::x::(r2++rest))=X a+2+X r2+X rest:=by simp;lia
  have g:S y:=j y (by rw[e];simp);rw[h1,m,zP,n,yj,Q,MO,zb,(W:((X a+1:K):J)-1=(X a:J)),yj,Q,zaz,Y<|hc x y k g];by_cases f:c x y<0
  ·rw[iq f,zb,zb,yj,Q,zaz,yj,Q,MO,yj,Q,zcd,xaq,zp iP,Q,zf3,zb];refine l _ ⟨a,y::r2,by rw[e];simp,O,λz hz=> ?_⟩ (by show(X a:J).toNat<(X (a++[y]):J).toNat;lia);obtain rfl|hz:=xag.1 hz
   ·exact f
   ·exact i z hz
  ·rw[ir f];refine⟨_,O,a++[y],r2,e,by rw[h1],i,λb z hz=> ?_⟩;have:=List.append_inj' hz O;rw[List.singleton_inj.1 this.2]at f;exact f
 ·rw[zA];obtain rfl:r1=[]:=xbv.1 W;exact⟨_,O,[],r2,e,O,i,λb z hz=>by
   have:=kW xaH hz;simp at this⟩
def zgV{fu:K}{d:α}{cmp:α->α->V J}{c:α->α->J}{S:α->Prop}(hc:∀x y,S x->S y->cmp x y=Z (c x y)){t:xS α}(p:∀y∈t,S y)(hn:X t<=1000:=by lia)(q:3000000<=fu:=by lia):
 ∃r,zg (iB0 fu d 0 (X t:J) cmp) fu (1,t)=Z r/\r.Perm t/\(Od3 c S->r.Pairwise λa b=>¬c b a<0):=by
 cases t with
 |nil=>
  refine yr (λx:J×xS α=>x=(1,[])) (λ_=>0) _ ?_ fu _ O W;rintro x L rfl k;exact⟨[],O,xdr _,λ_=>List.Pairwise.nil⟩
 |cons z t=>
  refine yr (λx:J×xS α=>∃s rest,x=((X s:J),s++rest)/\(s++rest).Perm (z::t)/\(Od3 c S->s.Pairwise λa b=>¬c b a<0)) (λx=>X (z::t)-x.1.toNat) _ ?_ fu _ ⟨[z],t,O,xdr _,λ_=>List.pairwise_singleton _ _⟩ (by show(z::t).length-1<fu;lia);rintro x L ⟨s,rest,rfl,f,l⟩ k;unfold iB0;simp only;have hl:=f.length_eq;rw[xaq]at hl;have m:∀y∈s++rest,S y:=λy e=>p y<|f.mem_iff.1 e
  cases rest with
  |nil=>
   rw[ir<|by simp at hl;simp;lia];rw[xbB]at f;exact⟨s,by rw[xbB],f,l⟩
  |cons x rest=>
   rw[xaw]at hl;rw[zP];have g:∀y∈s,S y:=λy e=>m y<|xdL _ e;have i:S x:=m x iP;obtain⟨r,e1,r1,r2,rfl,rfl,u,v⟩:=zoQ (fu:=fu) (d:=d) (N:=(X (z::t):J)) (rest:=rest) hc g i (by rw[xaq,xaw];lia) q;rw[Y e1];simp only;rw[zb];have A:(r1++x::(r2++rest)).Perm (r1++r2++x::rest):=by
    rw[xao];refine xbo r1 ?_;rw[<-xbL];have:(x::r2++rest).Perm (r2++x::rest):=xcg.symm;exact this
   refine k _ ⟨r1++x::r2,rest,?_,?_,λj=> ?_⟩ ?_
   ·rw[show((X (r1++x::r2):K):J)=(X (r1++r2):J)+1 by simp;lia,xao,xbL]
   ·rw[xao,xbL];exact A.trans f
   ·have hp:=xdi.1<|l j;have hd:∀y∈r1,¬c x y<0:=λy e=>by
     obtain⟨a,w,rfl⟩:=zbF<|xfl e;have n:=v a w O;obtain h|h:=So.1 e
     ·have B:=xdi.1 hp.1;exact j.tr y w x (g y<|by simp[h]) (g w iP) i (B.2.2 y h w iP) n
     ·rw[xad.1 h];exact n
    refine xdi.2 ⟨hp.1,xdC.2 ⟨λy e=>j.an x y i (g y<|by simp[e])<|u y e,hp.2.1⟩,λa o b hb=> ?_⟩;obtain rfl|hb:=xag.1 hb
    ·exact hd a o
    ·exact hp.2.2 a o b hb
   ·show(z::t).length-((X (r1++r2):J)+1).toNat<X (z::t)-(X (r1++r2):J).toNat;lia
end
def Gk{fu:K}{cmp:N J->N J->V J}{c:N J->N J->J}{S:N J->Prop}(hc:∀x y,S x->S y->cmp x y=Z (c x y)){t:N (N J)}(d:∀y∈t,S y)(hn:X t<=12)(h:3000001<=fu):
 ∃r,wj fu t cmp=Z r/\r.Perm t/\(Od3 c S->r.Pairwise λa b=>¬c b a<0):=by
 obtain⟨g,rfl⟩:∃g,fu=g+2:=⟨fu-2,W⟩;obtain⟨r,h1,e,f⟩:=zgV (fu:=g+1) hc d;refine⟨r,?_,e,f⟩;unfold wj ui;rw[Q,Y<|Y<|jm<|by unfold sA;lia];refine Y<|Y ?_;rw[wA];unfold jt;simp only;rw[zb,zP];refine Y ?_;exact Y h1
def MX{fu:K}{cmp:N M->N M->V J}{c:N M->N M->J}{S:N M->Prop}(hc:∀x y,S x->S y->cmp x y=Z (c x y)){t:N (N M)}(d:∀y∈t,S y)(hn:X t<=12)(h:3000001<=fu):
 ∃r,yM fu t cmp=Z r/\r.Perm t/\(Od3 c S->r.Pairwise λa b=>¬c b a<0):=by
 obtain⟨g,rfl⟩:∃g,fu=g+2:=⟨fu-2,W⟩;obtain⟨r,h1,e,f⟩:=zgV (fu:=g+1) hc d;refine⟨r,?_,e,f⟩;unfold yM ui;rw[Q,Y<|Y<|jm<|by unfold sA;lia];refine Y<|Y ?_;rw[wA];unfold vW;simp only;rw[zb,zP];refine Y ?_;exact Y h1
end
section
variable{p:wl}{m a:xS wl}{fu:wr}
def pN{p:J}:∀{l1 c:N Pz},List.Sublist l1 c->(∀w∈c,Fs w)->Di p (prZ l1) (prZ c)
 |_,_,.slnil,_=>Di.refl _ _
 |_,_,.cons a h,b=>Di.mul a (b a<|FS)<|pN h λw d=>b w<|UV _ d
 |_,_,.cons_cons a h,b=>by
  obtain⟨q,fq,hc⟩:=pN h λw d=>b w<|UV _ d;refine⟨q,fq,((Cg.rfl).mul hc).trans<|Cg.of ?_⟩;exact zB _ _ _
def Fs.dvp{f:Pz}(h:Fs f):Fs (dvp f):=by
 have⟨n,hn⟩:=h;exact⟨n,λk b=>by show _*f (k+1)=0;rw[hn _ W,xaC]⟩
def qB.sq(hp:2<=p){u:N J}(c:QI p u)(hc:qB p (U m) (dvp<|U m))(h:Di p (U u*U u) (U m)):V3:=by
 have⟨q,fq,b⟩:=h;have h1:Di p (U u) (U m):=⟨q*U u,fq.mul<|Fs.ci u,b.trans<|Cg.of (zd _ _ _).symm⟩;have d:Di p (U u) (dvp<|U m):=⟨dvp q*U u+(q*dvp (U u)+q*dvp (U u)),(fq.dvp.mul<|Fs.ci u).add<|(fq.mul (Fs.ci u).dvp).add<|fq.mul (Fs.ci u).dvp,(Tc b).trans<|Cg.of<|by rw[QV,QV,ym,ym,zd,zd,xg,zk (U u)<|dvp<|U u]⟩;have⟨s,t,fs,e,f⟩:=hc;exact c.ne hp<|(Di.add (Di.mul s fs h1)<|Di.mul t e d).cg f
def zpA(hp:wh p=I)(e:xH p m)(hl:X m<=290)(hc:qB p (U m) (dvp<|U m)):∃us,Sf p m us:=by
 have⟨i,j⟩:=zo hp;have⟨us,h1,f⟩:=zoW hp (X m) O hl e;refine⟨us,hp,e,hl,λu g=>⟨(h1 u g).1,by have:=(h1 u g).2;lia⟩,?_,f⟩;refine xdl.2 λ{a b} c=> ?_;have d:a∈us:=c.subset iP;have h:b∈us:=c.subset iP;refine(h1 a d).1.cop hp (h1 b h).1 (by have:=(h1 a d).2;lia) (by have:=(h1 b h).2;lia) λhd=> ?_;subst hd;have:=pN (p:=p) (c.map U) bn;refine qB.sq i (h1 a d).1 hc<|(Di.cg ?_ f.symm);refine Di.trans ?_ this;refine⟨D 1,Fs.pc 1,Cg.of ?_⟩;show U a*(U a*D 1)=_;rw[yf,zC]
def rP(hp:wh p=I)(c:xH p m)(hl:X m<=290)(n:3000000<=fu):∃b,vA fu m p=Z (m,0)/\uw fu m p=Z (b,0)/\(b=I↔qB p (U m) (dvp<|U m)):=by
 have⟨e,o⟩:=zo hp;have hc:=c.ln;have⟨x,x0,f,d,e1⟩:=ZA (fu:=fu) hp c.fm c.ln;rw[c.top,xck,xaD W f]at d;subst d;rw[DT W c.fm]at e1;have⟨g,s,t,g1,i,j⟩:=XN (fu:=fu) hp c.fm (gD (p:=p) W m) W (by have:=zf8 p m;lia);have k:qB p (U m) (dvp<|U m)↔X g=1:=by
  rw[pK e i j];exact⟨λh=>h.congr Cg.rfl (EG p m).symm,λh=>h.congr Cg.rfl<|EG p m⟩
 refine⟨decide<|X g=1,e1,?_,by rw[k];exact decide_eq_true_iff⟩;unfold uw Xn;rw[Y e1];simp only[uP];rw[zA,Y O];simp only[uP];rw[Y<|ae hp c.fm];simp only;rw[Y g1];simp only;by_cases l:X g=1
 ·simp_all
 ·rw[zA,uT l]
theorem sP(hp:wh p=I)(e:Fp p a)(h0:0<X a)(hl:X a<=65)(f:3000000<=fu):
 ∃m b,zg3 p a m/\xH p m/\uw fu m p=Z (b,0)/\(b=I↔qB p (U m) (dvp<|U m))/\ux fu a p=if b=I then Z (m,0)else Z ([],1):=by
 obtain⟨g,l⟩:=zo hp;obtain⟨x,x0,d,h,e1⟩:=ZA (fu:=fu) hp e h0;have c:=rY g e h0 h;obtain⟨m,i⟩:∃m,m=yH p a [x]:=⟨_,O⟩;rw[<-i]at c e1;have hc:=c.ln;have j:xH p m:=⟨c.fm,W,c.top⟩;obtain⟨b,_,b1,b2⟩:=rP hp j W f;unfold ux aD;have k:(G (vA fu a p) λ(t1,d)=>if d=(0:J)then if(X t1:J)=(0:J)then Z (([],(8:J)))else if(65:J)<(X t1:J)then Z (([],6))else Z ((t1,0))else Z ([],d))=Z (m,0):=by
  rw[Y e1];grind
 rw[Y k];simp only;rw[Y b1];grind
def iV{b:N J}(j:X a<=1000)(l:X b<=1000)(n:3000000<=fu):∃c,vH fu a b=Z c:=by
 unfold vH;by_cases h:X a=X b
 ·rw[zP,zb];have⟨r,e,_⟩:=yr (f:=WK fu a b) (λi:J=> -1<=i/\i<X a) (λi=>(i+1).toNat) (λ_=>Z5) (by
   rintro i L ⟨h1,o⟩ g;unfold WK;by_cases d:0<=i
   ·obtain⟨k,rfl⟩:=xaz d;rw[iq d,yj,Q,yj,Q];split
    ·simp_all
    ·rw[yj,Q,yj,Q];split
     ·simp_all
     ·rw[zb];exact g _ ⟨W,W⟩ W
   ·rw[ir d];exact⟨_,O,wR⟩) fu ((X a:J)-1) ⟨W,W⟩ W
  rw[Y e]
  cases r with
  |inl _=>exact⟨_,O⟩
  |inr i=>exact⟨i,O⟩
 ·rw[zA,zb];exact⟨_,O⟩
def Ou{l1 b:N Pz}(h:l1.Perm b):prZ l1=prZ b:=by
 induction h with
 |nil=>rfl
 |cons x _ c=>show x*prZ _=x*prZ _;rw[c]
 |swap x y l=>show y*(x*prZ l)=x*(y*prZ l);rw[zB]
 |trans _ _ h1 d=>rw[h1,d]
def Rl.take{l:N J}(h:Rl l)(n:K):Rl (l.take n):=λk=>by
 by_cases b:k<n
 ·have:U (l.take n) k=U l k:=by
   show(l.take n).getD k 0=l.getD k 0;simp_all
  rw[this];exact h k
 ·rw[zU<|by rw[xas];lia];exact⟨W,W⟩
def AU{P:K}{ds:N J}(hp:wh (P:J)=I)(F:Fp (P:J) a)(h0:1<X a)(hl:X a<=13)(hd:Rl ds)(G:X ds<=1000)(o:3000001<=fu){b:v6}(q:zg3 (P:J) a m)(k:xH (P:J) m)(s:ux fu a P=Z (m,0))(hc:qB (P:J) (U m) (dvp<|U m)):
 ∃l us,Xr fu a P ds=Z (l,0)/\Sf (P:J) m us/\Pl (P:J) m l/\∀g∈l,QI (P:J) g:=by
 have⟨H,L⟩:=zo hp;have hn:=q.ln;have⟨us,e⟩:=zpA hp k W hc;have⟨bs,e1,b1,b2,b3,n,c,u⟩:=AL (fu:=fu) (w:=X m-1) hp k W W W W;have M:=n.le e;have z:Rl (ds.take<|min (X ds) 64):=hd.take _;have⟨l,A,d,B⟩:=sN (fu:=fu) (bs:=bs) (ds:=ds.take<|min (X ds) 64) e W W O b1 W z (by rw[xas];lia) (λv hv=>⟨(b3 v hv).1,by have:=(b3 v hv).2;lia⟩) W;have hi:=Pl.done e n d ⟨c,u⟩ B;have⟨vs,v1,C,v3⟩:=e.pick d.mn<|(Di.refl _ _).cg d.pr.symm;have R:=dj C λv hv=>(v3 v hv).1;have D:∀g∈l,X g<=290:=λg f=>e.len (d.mn g f).1<|d.dv f;have⟨r,E,h,_⟩:=Gk (fu:=fu) (cmp:=λi j=>vH fu i j) (c:=λx y=>(vH fu x y).getD 0) (S:=λx=>X x<=290) (λx y T V=>by
  have⟨c,hc⟩:=iV (fu:=fu) (a:=x) (b:=y) W W W;show vH fu x y=Z ((vH fu x y).getD 0);rw[hc];rfl) (t:=l) D W o
 refine⟨r,us,?_,e,⟨λg f=>d.mn g<|h.mem_iff.1 f,d.pr.trans ?_⟩,λg f=>hi g<|h.mem_iff.1 f⟩
 ·unfold Xr;rw[Y s];simp only;rw[iq wR,zA,Y e1,Q,(W:min (X ds:J) 64=((min (X ds) 64:K):J)),yJ,yL,Q,Y A,Y E]
 ·exact Cg.of<|Ou<|h.symm.map U
end
section
variable{fu K:wr}{a b:Zr}{p:wl}
def exI(x y:J):J:=if y=0 then 0 else if x%y=0 then x/y else 0
def exE(x y:J):J:=if y=0 then 3 else if x%y=0 then 0 else 4
def VW(f:b7 a)(c:b7 b)(d:3000000<=fu):kU fu a b=Z (ya<|exI (zv a)<|zv b,exE (zv a)<|zv b):=by
 unfold kU exI exE;rw[Y<|UE f c d];unfold GP;by_cases h0:zv b=0
 ·rw[iq h0,iq h0,iq h0];rfl
 ·rw[ir h0,ir h0,ir h0];simp only[uP];have g:Bz (X b.2) (zv a%zv b):=by
   unfold Bz;have h1:=xcI (zv a) h0;have i:=Int.emod_lt (zv a) h0;have h:=Bz.of c.1;unfold Bz at h;lia
  rw[Y O,ir iI,Y<|xE (g.ok (by have:=c.2;lia)) d,zn];by_cases h1:zv a%zv b=0
  ·rw[iq<|wJ.2 h1,iq h1,iq h1]
  ·rw[ir<|λe=>h1<|wJ.1 e,ir h1,ir h1];rfl
def UH(f:b7 a)(c:b7 b)(d:3000000<=fu):Vc fu a b=Z (ya<|exI (zv a)<|zv b,exE (zv a)<|zv b):=by
 unfold Vc exI exE;rw[Y<|J0 f c d];unfold GP;by_cases h0:zv b=0
 ·rw[iq h0,iq h0,iq h0];rfl
 ·rw[ir h0,ir h0,ir h0];simp only[uP];have g:Bz (X b.2) (zv a%zv b):=by
   unfold Bz;have h1:=xcI (zv a) h0;have i:=Int.emod_lt (zv a) h0;have h:=Bz.of c.1;unfold Bz at h;lia
  rw[Y<|q8 (g.ok (by have:=c.2;lia)) d,zn];by_cases h1:zv a%zv b=0
  ·rw[iq<|wJ.2 h1,iq h1,iq h1]
  ·rw[ir<|λe=>h1<|wJ.1 e,ir h1,ir h1];rfl
def zdb{n:wr}(h:n<18446744073709551616^K):bl n<=64*K:=Jt<|by rw[xbX];exact h
def iZ(e:zm a.2)(f:zm b.2)(j:X a.2<=K)(hi:X b.2<=K)(q:K<=10000)(k:3000000<=fu):Ju fu a b=Z (ya (xdX (zv a).natAbs (zv b).natAbs:wr)):=by
 unfold Ju;rw[Y<|Ve e,Y<|Ve f,q6,q6];have c:nv a.2<18446744073709551616^K:=xaj (qm e)<|xau iI j;have g:nv b.2<18446744073709551616^K:=xaj (qm f)<|xau iI hi;generalize nv a.2=A at*
 generalize nv b.2=B at*
 have l:xdX A B<18446744073709551616^K:=by
  by_cases h:A=0
  ·simp_all
  ·exact xaK (Nat.gcd_le_left _ W) c
 have hc:∀{n:wr},n<18446744073709551616^K->X (yD n)<=K:=λ{n} h=>(zK _ _).2 h;rw[Y (v:=yD<|xdX A B)]
 ·have hl:=hc l;rw[Y (yO (zz _) W W),ye];rfl
 ·refine zw (λs:N wr×N wr=>∃x y:wr,s=(yD x,yD y)/\x<18446744073709551616^K/\y<18446744073709551616^K/\xdX x y=xdX A B) (λs=>bl (nv s.1)+bl (nv s.2)+if nv s.1<nv s.2 then 1 else 0) _ ?_ _ _ ⟨A,B,O,c,g,O⟩ ?_
  ·rintro s L ⟨x,y,rfl,m,i,d⟩ o;unfold pz;simp only;have r:=hc m;have t:=hc i;by_cases h0:y=0
   ·subst h0;rw[ir<|by rw[ah];decide];rw[Nat.gcd_zero_right]at d;rw[d]
   ·have hp:=vF (n:=y) W;rw[zP,Y<|oC (zz x) (zz y) W W k,ye,ye,ir h0];simp only;have u:=xaM x (W:0<y);refine o _ ⟨y,x%y,O,i,W,?_⟩ ?_
    ·rw[<-d,xee y,<-Nat.gcd_rec,xee]
    ·simp only[ye];rw[zA];by_cases hd:x<y
     ·rw[iq hd,xam hd];lia
     ·have:=Lz (r0:=x) (r1:=y);lia
  ·simp only[ye];have h1:=zdb c;have w:=zdb g;split<;>lia
def fJ(c:zm a.2)(hl:X a.2<=200000)(d:3000000<=fu):Vj fu a=Z (ya ((zv a).natAbs:wr)):=by
 unfold Vj;rw[Y<|y5 (z:=(wL,a.2)) c hl d,q6];rfl
def eJ(d:zm a.2)(f:zm b.2)(hd:X a.2<=K)(k:X b.2<=K)(q:K<=10000)(c:3000000<=fu):VH fu a b=Z (ya (xdX (zv a).natAbs (zv b).natAbs:wr)):=by
 unfold VH;rw[Y<|fJ d W c,Y<|fJ f W c,q6,q6];have g:nv a.2<18446744073709551616^K:=xaj (qm d)<|xau iI hd;have h:nv b.2<18446744073709551616^K:=xaj (qm f)<|xau iI k;generalize nv a.2=A at*
 generalize nv b.2=B at*
 rw[Y (v:=ya (xdX A B:wr))];refine zw (λs:M×M=>∃x y:wr,s=(ya (x:wr),ya (y:wr))/\x<18446744073709551616^K/\y<18446744073709551616^K/\xdX x y=xdX A B) (λs=>bl (zv s.1).natAbs+bl (zv s.2).natAbs+if(zv s.1).natAbs<(zv s.2).natAbs then 1 else 0) _ ?_ _ _ ⟨A,B,O,g,h,O⟩ ?_
 ·rintro s L ⟨x,y,rfl,l,i,m⟩ n;unfold lJ;simp only;have o:=Bz.nat l;have j:=Bz.nat i;rw[Y<|q8 (j.ok W) c,zn];by_cases h0:y=0
  ·subst h0;rw[iq<|wJ.2 (show((0:wr):J)=0 from O)];simp_all
  ·rw[ir<|λe=>h0 (by have:=wJ.1 e;lia),Y<|J0 (o.okS W) (j.okS W) c,zn,zn];unfold GP;rw[zA];simp only;have hi:=xaM x (W:0<y);rw[show((x:J)%(y:J))=((x%y:wr):J)from O];refine n _ ⟨y,x%y,O,i,W,?_⟩ ?_
   ·rw[<-m,xee y,<-Nat.gcd_rec,xee]
   ·simp only[zn,xbb];rw[zA];by_cases hc:x<y
    ·rw[iq hc,xam hc];lia
    ·have:=Lz (r0:=x) (r1:=y);lia
 ·simp only[zn,xbb];have h1:=zdb g;have r:=zdb h;split<;>lia
def sH{x:J}(h0:0<=x)(h:x<9223372036854775808)(e:3000000<=fu):W2 fu (ya x)=Z (x,I):=by
 have c:Bz 1 x:=by unfold Bz;lia
 unfold W2;rw[Y<|y5 (yo x) (by have:=c.len;lia) e,zn];have f:(ya x).1=wL:=by unfold ya;simp;lia
 by_cases d:x=0
 ·subst d;rfl
 ·have i:=oT.2 d;have hc:=c.len;obtain⟨n,rfl⟩:=xaz h0;have g:(ya n).2.getD 0 0=n:=by
   show(yD<|(n:J).natAbs).getD 0 0=n;rw[xbb,Xh,xdU,xam W]
  rw[zA,zA,show 0=((0:wr):J)from O,yj,Q,f,ir iI,iq iI,g,zP,Q,Ik]
theorem Ej(d:b7 a)(h1:1<=p)(g:p<=65521)(c:3000000<=fu):K1 fu a p=Z (zv a%p,0):=by
 unfold K1;have e:Bz 1 p:=by unfold Bz;lia
 have f:=yn (a:=zv a) (p:=p);rw[Y<|vz ⟨W,W⟩,Y<|Bj d (e.okS iI) c,zn];unfold ri;rw[zA];simp only[uP];rw[Y<|sH f.1 W c]
theorem Dj{k:wr}{a:N M}(e:yI k a)(g:k<=40000)(h1:1<=p)(j:p<=65521)(hl:X a<=1000000)(l:3000000<=fu):KX fu a p=Z (qU p a,0):=by
 unfold KX;have hd:=vT (λk=>H a k%p) (X a);rw[zA,Y (v:=zl (X a)<|λk=>H a k%p)]
 ·rw[Y (v:=((dg (λk=>H a k%p) (X a):wr):J))]
  ·rw[yJ,xr (by rw[zD];exact hd),Q,Cc hd];rfl
  ·rw[zD];refine zw (λt:J=>∃m:wr,m<=X a/\t=(m:J)/\dg (λk=>H a k%p) m=dg (λk=>H a k%p) (X a)) (λt=>t.toNat) _ ?_ _ _ ⟨X a,IR _,O,O⟩ W;rintro t L ⟨m,n,rfl,c⟩ d;unfold lk
   cases m with
   |zero=>
    rw[zA,<-c];rfl
   |succ m=>
    rw[zP,(W:((m+1:wr):J)-1=(m:J)),zb,zp (by rw[zD];lia),Q,qS];by_cases h0:H a m%p=0
    ·rw[iq h0,zb];exact d _ ⟨m,W,O,by rw[<-UZ (f:=λk=>H a k%p) h0,c]⟩ W
    ·rw[ir h0,<-c,JW (f:=λk=>H a k%p) h0]
 ·refine zw (λs:N J×J=>∃i:wr,i<=X a/\s=(zl i<|λk=>H a k%p,(i:J))) (λs=>X a-s.2.toNat) _ ?_ _ _ ⟨0,xac _,O⟩ (by show X a-0<fu;lia);rintro s L ⟨i,hi,rfl⟩ d;unfold lQ;simp only;by_cases h:i<X a
  ·rw[zP,zp h,Q,Y<|Ej (e.okS g i) h1 j l,YI];simp only;rw[xr (by rw[zD];simp;lia),Q,eZ (f:=λk=>H a k%p) O,zb];exact d _ ⟨i+1,W,O⟩ (by show X a-((i:J)+1).toNat<X a-(i:J).toNat;lia)
  ·rw[zA];obtain rfl:i=X a:=W
   rfl
end
section
variable{K fu:wr}{a:xS Zr}
def Wj(f:wr->J):wr->wr
 |0=>0
 |n+1=>xdX (Wj f n) (f n).natAbs
def Ek(f:wr->J):∀n k,k<n->Wj f n∣(f k).natAbs
 |0,k,h=>wS h<|xbC _
 |n+1,k,h=>by
  by_cases e:k=n
  ·rw[e];exact Nat.gcd_dvd_right _ _
  ·exact Nat.dvd_trans (Nat.gcd_dvd_left _ _)<|Ek f n k W
theorem BX(f:wr->J){K:wr}(h:∀k,Bz K<|f k):∀n,Wj f n<18446744073709551616^K
 |0=>xaV iI
 |n+1=>by
  show xdX (Wj f n) (f n).natAbs<_;by_cases e:Wj f n=0
  ·rw[e,Nat.gcd_zero_left];exact h n
  ·exact xaK (Nat.gcd_le_left _ W)<|BX f h n
def yw(a:N M):J:=if H (zZ a) (X (zZ a)-1)<0 then-((Wj (H a) (X (zZ a)):wr):J)else((Wj (H a) (X (zZ a)):wr):J)
def aQ(a:N M):zZ a=xJ (X (zZ a)) (H<|zZ a):=qc _ _
def N3(a:N M):zZ (zZ a)=zZ a:=(aQ a).symm
theorem pQ(h:yI K a):Bz K (yw a):=by grind [yw,BX,yI.bz,Bz.nat,Bz.neg]
theorem Wv(a:N M)(k:wr):yw a∣H a k:=by
 have h:((Wj (H a) (X (zZ a)):wr):J)∣H a k:=by
  by_cases b:k<X (zZ a)
  ·exact xcp.1<|by skip;exact Ek (H a) _ k b
  ·rw[<-kS,zX W];exact xdy _
 unfold yw;split
 ·simp_all
 ·exact h
def pT(h:X (zZ a)≠0):yw a≠0:=by
 intro e;have h1:=YA (aQ a) h;rw[kS]at h1;have b:=Wv a<|X (zZ a)-1;simp_all
def kX(b:yI K a)(j:K<=9999:=by lia)(hl:X a<=1000000:=by lia)(c:3000000<=fu:=by lia):vR fu a=Z (ya<|yw a):=by
 unfold vR;have hn:=Ua b;have hc:=qg a;have d:=BX (H a) b.bz;rw[Y<|zM b W hl c,show xJ (X a) (H a)=zZ a from O,Y (yq iI),Y (v:=(zZ a,(wL,[]),ya ((Wj (H a) (X (zZ a)):wr):J)))]
 ·simp only;by_cases h0:X (zZ a)=0
  ·rw[zA];unfold yw;rw[h0];show Z (ya ((0:wr):J))=Z (ya (if H (zZ a) 0<0 then-(((0:wr):J))else((0:wr):J)));simp_all
  ·rw[zP,(W:((X (zZ a):wr):J)-1=((X (zZ a)-1:wr):J)),zb,yj,Q,U5<|aQ a];unfold yw;by_cases h1:H (zZ a) (X (zZ a)-1)<0
   ·rw[iq<|(bh _).2 h1,iq h1,Y<|lF ((Bz.nat<|d _).ok W) c,zn]
   ·rw[ir<|λe=>h1<|(bh _).1 e,ir h1]
 ·refine zw (λs:J×N M×M×M=>∃i:wr,i<=X (zZ a)/\s=((i:J),zZ a,(wL,[]),ya ((Wj (H a) i:wr):J))) (λs=>X (zZ a)-s.1.toNat) _ ?_ _ _ ⟨0,xac _,O⟩ (by show(zZ a).length-0<fu;lia);rintro s L ⟨i,hi,rfl⟩ g;unfold Kx;simp only;by_cases h:i<X (zZ a)
  ·have f:=hn.get i;rw[zP,Y O];simp only[uP];rw[zp h,Q,Y<|iZ (yo _) f.1 (Bz.nat<|d i).len f.2 W c,zn,xbb,YI,kS,zb];exact g _ ⟨i+1,W,O⟩ (by show(zZ a).length-((i:J)+1).toNat<X (zZ a)-(i:J).toNat;lia)
  ·rw[zA,Y O];simp only[xar,uS];obtain rfl:i=X (zZ a):=W
   rfl
def zc5(a:N M):yw (zZ a)=yw a:=by
 unfold yw;rw[N3,show H (zZ a)=H a from qR (kS a)]
def YQ(b:yI K a)(j:K<=9999)(hl:X a<=1000000)(c:3000000<=fu):ja fu a=Z (ya<|yw a):=by
 unfold ja;have hn:=Ua b;have hc:=qg a;have d:=BX (H a) b.bz;rw[Y<|yG b W hl c,show xJ (X a) (H a)=zZ a from O,Y (vz iI),Y (v:=ya ((Wj (H a) (X (zZ a)):wr):J))]
 ·by_cases h0:X (zZ a)=0
  ·rw[zA];unfold yw;rw[h0];show Z (ya ((0:wr):J))=Z (ya (if H (zZ a) 0<0 then-(((0:wr):J))else((0:wr):J)));simp_all
  ·rw[zP,(W:((X (zZ a):wr):J)-1=((X (zZ a)-1:wr):J)),zb,yj,Q,U5<|aQ a];unfold yw;by_cases h1:H (zZ a) (X (zZ a)-1)<0
   ·rw[iq<|(bh _).2 h1,iq h1,Y<|gF ((Bz.nat<|d _).ok W) c,zn]
   ·rw[ir<|λe=>h1<|(bh _).1 e,ir h1]
 ·refine zw (λs:J×M=>∃i:wr,i<=X (zZ a)/\s=((i:J),ya ((Wj (H a) i:wr):J))) (λs=>X (zZ a)-s.1.toNat) _ ?_ _ _ ⟨0,xac _,O⟩ (by show(zZ a).length-0<fu;lia);rintro s L ⟨i,hi,rfl⟩ g;unfold KJ;simp only;by_cases h:i<X (zZ a)
  ·have f:=hn.get i;rw[zP,zp h,Q,Y<|eJ (yo _) f.1 (Bz.nat<|d i).len f.2 W c,zn,xbb,YI,kS,zb];exact g _ ⟨i+1,W,O⟩ (by show(zZ a).length-((i:J)+1).toNat<X (zZ a)-(i:J).toNat;lia)
  ·rw[zA];obtain rfl:i=X (zZ a):=W
   rfl
def xc(a:N M):N M:=xJ (X a)<|λk=>H a k/yw a
theorem Ye(a:N M)(k:wr):H (xc a) k=H a k/yw a:=jz (λk b=>by rw[zX b,xef]) k
def dK(h:yI K a):yI K (xc a):=yE λk=>(h.bz k).le<|xcc _ _
theorem zmQ{x c:J}(hd:c∣x)(b:x≠0):x/c≠0:=λe=>by
 have:=xeW hd;simp_all
theorem km(a:N M):X (xc a)=X (zZ a):=by grind [zZ,xc,xv,K2,vT,Qx,zmQ,Wv,Qq,xef]
theorem zfv(a:N M):xc a=zi (X (zZ a)) (λk=>H a k/yw a):=by grind [xJ,xc,km,xv]
def vP(b:yI K a)(d:K<=9999)(hl:X a<=1000000)(c:3000000<=fu):xL fu a=Z (xc a):=by
 unfold xL;have hn:=Ua b;have e:=qg a;have hc:=pQ b;rw[Y<|kX b d hl,Y<|zM b W hl c,show xJ (X a) (H a)=zZ a from O,Y<|BU W W λj f=> ?_,zfv];unfold J2;rw[Y<|VW (hn.okS W j) (hc.okS W) c,zn,YI,kS];unfold exI;rw[ir (pT W),iq<|xav<|Wv a j]
def P6(c:yI K a)(S:K<=9985)(hl:X a<=1000)(h0:X (zZ a)≠0)(f:3000000<=fu):kJ fu (zZ a) [ya<|yw a]=Z (xc a,0):=by
 unfold kJ;have hn:=Ua c;have T:=qg a;have hc:=pQ c;have hi:=pT h0;have u:=hc.len;have l:yI K [ya<|yw a]:=λz o=>by
  obtain rfl:=xad.1 o;exact⟨yo _,u⟩
 have w:xJ [ya<|yw a].length (H [ya<|yw a])=[ya<|yw a]:=by
  show xJ 1 _=_;unfold xJ;rw[show dg (H [ya<|yw a]) 1=1 from JW (m:=0) (by show zv (ya<|yw a)≠0;rw[zn];exact hi)];show[ya<|zv<|ya<|yw a]=_;rw[zn]
 have q:∀k,H [ya<|yw a] k=if k=0 then yw a else 0:=λk=>by
  by_cases b:k=0
  ·rw[iq b,b];exact zn _
  ·rw[ir b];exact zX<|by simp;lia
 rw[Y<|yG l W iP f,w,ir (iP:¬((X ([ya<|yw a]:N M):wr):J)=0),Y<|yG hn W W f,show xJ (X (zZ a)) (H<|zZ a)=zZ a from(aQ a).symm];have⟨n,r⟩:∃n,n=X a:=⟨_,O⟩;rw[Y (v:=.inl<|xc a)];refine zw (λs:N M×N M×N M=>∃m:wr,m<=n/\s=([ya<|yw a],xJ m<|H a,xJ n (λk=>if m<=k then H a k/yw a else 0))) (λs=>X s.2.1) _ ?_ _ _ ⟨n,IR _,?_⟩ (by show(zZ a).length<fu;lia)
 ·rintro s L ⟨m,U,rfl⟩ x;unfold WO;simp only;have V:=vT (H a) m;have h:X (xJ m<|H a)=dg (H a) m:=xv _ _;have y:∀k,H (xJ m<|H a) k=if k<m then H a k else 0:=λk=>by
   have e:xJ m (H a)=xJ m (λk=>if k<m then H a k else 0):=Wa λk b=>by rw[iq b]
   rw[e,jz λk b=>zA]
  by_cases h1:0<dg (H a) m
  ·have⟨d,hd⟩:∃d,dg (H a) m=d+1:=⟨dg (H a) m-1,W⟩;have hE:H a d≠0:=by have:=Qq (H a) m W;rw[hd]at this;exact this
   have A:(xJ m<|H a).getD d (wL,[])=ya (H a d):=by
    unfold xJ;rw[hd];exact YB W
   have B:exI (H a d) (yw a)=H a d/yw a:=by
    unfold exI;rw[ir hi,iq<|xav<|Wv a d]
   have C:exE (H a d) (yw a)=0:=by
    unfold exE;rw[ir hi,iq<|xav<|Wv a d]
   have D:Bz K (H a d/yw a):=(c.bz d).le<|xcc _ _;have E:Nm d (wL,[])++[ya<|H a d/yw a]=zi (d+1) (mono d<|H a d/yw a):=by
    rw[aR,<-o7];congr 1
    ·exact xd λk b=>by unfold mono;rw[zA]
    ·unfold mono;rw[iq O]
   have hp:yI K (zi (d+1)<|mono d<|H a d/yw a):=YM λj=>by
    unfold mono;split
    ·exact D
    ·exact Bz.zero _
   have F:yI K (xJ n (λk=>if m<=k then H a k/yw a else 0)):=yE λj=>by
    split
    ·exact(c.bz j).le<|xcc _ _
    ·exact Bz.zero _
   have hH:X (xJ n (λk=>if m<=k then H a k/yw a else 0))<=n:=by rw[xv];exact vT _ _
   have G:yI K (xJ m<|H a):=yE c.bz;have hv:=Xk hp l;have t:=jk (zi (d+1)<|mono d<|H a d/yw a) [ya<|yw a];rw[yh]at t hv;rw[iq (by rw[h];lia),h,hd,show(X ([ya<|yw a]:N M):wr)=1 from O,(W:((d+1:wr):J)-((1:wr):J)=(d:J)),zb,(W:((d+1:wr):J)-1=(d:J)),zb,yj,Q,A,show((1:wr):J)-1=((0:wr):J)by rfl,zb,yj,Q,show([ya<|yw a]:N M).getD 0 (wL,[])=ya (yw a)from O,Y<|UH ((c.bz d).okS W) (hc.okS W) f,zn,zn,B,C];simp only[uP];rw[zA,yJ,yL,Q,xr (by simp;lia),Q,E,Y<|XR F hp W W (by rw[yh];lia) f,Y<|JE hp l (by rw[yh];lia) iP f,Y<|JN (k:=K+K+(d+1)) (G.mono W) hv W W (by simp at t;lia) f];have e1:JC (xJ m<|H a) (yW (zi (d+1)<|mono d<|H a d/yw a) [ya<|yw a])=xJ d (H a):=by
    unfold JC;have P:xJ d (H a)=xJ d (λk=>if k<d then H a k else 0):=Wa λk b=>by rw[iq b]
    rw[P];refine Xo (λk b=>by rw[zX W,zX W];rfl) (λk b=>zA) λk=> ?_;rw[zdx,y];unfold OA;by_cases b:k<d
    ·rw[zP,iq b,zA,xaC,xcB]
    ·rw[ir b];by_cases i:k=d
     ·subst i;rw[zP,iq<|IR _,q,zP,xeW<|Wv a k];lia
     ·have o:(if k<m then H a k else 0)=0:=by
       split
       ·exact Qx (H a) m k W W
       ·rfl
      rw[o,zP,q,zA,xaC];rfl
   have R:xJ (max (X (xJ n (λk=>if m<=k then H a k/yw a else 0))) (X (zi (d+1)<|mono d<|H a d/yw a))) (λj=>H (xJ n (λk=>if m<=k then H a k/yw a else 0)) j+H (zi (d+1)<|mono d<|H a d/yw a) j)=xJ n (λk=>if d<=k then H a k/yw a else 0):=by
    refine Xo (λk b=>by rw[zX W,zX W];rfl) (λk b=>by rw[zX (p:=a) W,xef,ite_self]) λk=> ?_;rw[jz (λk b=>by rw[zX (p:=a) W,xef,ite_self]),KD<|λk b=>by unfold mono;rw[zA]];unfold mono;by_cases b:k<d
    ·rw[ir (W:¬m<=k),ir (W:¬k=d),ir (W:¬d<=k)];rfl
    ·by_cases i:k=d
     ·subst i;rw[ir (W:¬m<=k),iq O,iq<|IR _,xco]
     ·rw[ir i,iq (W:d<=k),xbF];by_cases g:m<=k
      ·rw[iq g]
      ·rw[ir g,Qx (H a) m k W W,xef]
   show L ([ya<|yw a],_,_)=_;rw[e1,R];exact x _ ⟨d,W,O⟩ (by show(xJ d<|H a).length<X (xJ m<|H a);rw[h,xv];have:=vT (H a) d;lia)
  ·rw[ir<|by rw[h];lia];congr 2;unfold xc;rw[<-r];refine Wa λk b=> ?_;by_cases g:m<=k
   ·rw[iq g]
   ·rw[ir g,Qx (H a) m k W W,xef]
 ·rw[r];congr 2
  ·have e:xJ (X a) (λk=>if X a<=k then H a k/yw a else 0)=xJ (X a) (λ_=>0):=Wa λk b=>zA;rw[e];have:dg (λ_=>(0:J)) (X a)=0:=K2 (xac _) (λ_ _ _=>O) (.inl O);unfold xJ;rw[this];rfl
def ua(b:yI K a)(d:K<=9985:=by lia)(hl:X a<=1000:=by lia)(c:3000000<=fu:=by lia):qb fu a=Z (xc a):=by
 unfold qb;have e:=qg a;rw[Y<|yG b W W c,show xJ (X a) (H a)=zZ a from O];by_cases h0:X (zZ a)=0
 ·skip;have:=km a;simp_all
 ·rw[zA,Y<|YQ (Ua b) W W c,zc5,Y<|P6 b d hl h0 c]
end
section
variable{a:xS Zr}{fu K:wr}{s:wl}
def ziJ{x:wr}:x/2^1=x/2:=by rw[Nat.pow_one]
def zkH{n:wr}(h:0<n):bl (n/2)<bl n:=by rw[aH h];omega
def zb1{a b:wr}(h:a<=b):bl a<=bl b:=Jt<|xaK h<|AI b
def zi3{y:J}(b:Bz K y)(d:K<=10000)(c:3000000<=fu):zg (W7 fu 2<|ya y) fu (2,ya s,0,ya 1)=Z (2,ya s,ya<|y*y):=by
 have⟨n,hn⟩:∃n,fu=n+3:=⟨fu-3,ii⟩;have h:zg (W7 fu 2<|ya y) (n+3) (2,ya s,0,ya 1)=Z (2,ya s,ya<|y*y):=by
  have b1:=Bz.one'<|IR _;rw[wA];unfold W7;simp only;rw[Y<|yB (b1.ok iI) (b.ok ii) c,zn,zn,xcv,nD iI,wA];simp only;rw[Y<|yB (b.ok ii) (b.ok ii) c,zn];rfl
 simp_all
def Dt(w:0<=s)(j:Bz K s)(F:K<=1000)(i:3000000<=fu):∃r:wr,KP fu (ya s) 2=Z (ya (r:J),0)/\Bz (K+1) (r:J)/\r*r<=s.toNat/\s.toNat<(r+1)*(r+1):=by
 unfold KP;obtain⟨S,rfl⟩:=xaz w;have G:=j.len;have N:bl S<=64*K:=zdb (by unfold Bz at j;rwa[xbb]at j);have hl:A (ya (S:J)).2=S:=by show A (yD<|(S:J).natAbs)=S;rw[ye,xbb]
 have hc:xcw ((bl S:wr):J) 2=((bl S/2:wr):J):=by rw[xcO ii];omega
 have o:bl S/2<=32*K:=ii
 have x:min (((bl S/2:wr):J)+1) (262144:J)=((bl S/2+1:wr):J):=ii
 rw[ir iI,ir iI,Y<|xE (j.ok ii) i,zn,ir (λe=>by
  unfold jy at e;rw[zA]at e;split at e<;>exact wS e iI),Y (yq iI i),Y (W6 (yo _) ii ii),hl,xr iI,hc,zb,zb,Q,x,Y (QZ (a:=[1]) (zm.cons iI zm.nil) iI ii ii)]
 simp only;have⟨H,l⟩:∃H,H=1*2^(bl S/2+1):=⟨_,O⟩;have m:H<18446744073709551616^(K+1):=by
  rw[l,xbN,(iI:(18446744073709551616:wr)=2^64),<-xbX];exact xdJ iI ii
 have hv:1<=H:=by rw[l,xbN];exact xaV iI
 have P:=zdb m;have hn:S<H*H:=by
  refine xaj (AI S) ?_;rw[l,xbN,<-xbu];exact xau iI ii
 rw[show A [1]=1 from O,<-l,Y<|yO (zz _) (by have:=(zK (K+1) H).2 m;omega) (by have:=(zK (K+1) H).2 m;omega),ye,ir iI];obtain⟨r,l1,R,rfl,T,y,hp⟩:=yr (f:=Ux fu (ya (S:J)) 2) (λz:M×M×M=>∃lo hi:wr,z=((wL,[]),ya (lo:J),ya (hi:J))/\lo<hi/\hi<=H/\lo*lo<=S/\S<hi*hi) (λz=>bl<|(zv z.2.2).natAbs-(zv z.2.1).natAbs-1) (λr=>∃R:wr,r=ya (R:J)/\R<=H/\R*R<=S/\S<(R+1)*(R+1)) (by
  rintro z L ⟨lo,hi,rfl,h1,o,i1,i2⟩ p;unfold Ux;simp only;have g:Bz (K+1) (lo:J):=Bz.nat ii;have k:Bz (K+1) (hi:J):=Bz.nat ii;have B:A (ya<|(lo:J)+(hi:J)).2=lo+hi:=by
   show A (yD<|((lo:J)+(hi:J)).natAbs)=lo+hi;rw[ye];omega
  have q:=(g.add k).len;have c:Bz (K+1) (((lo+hi)/2:wr):J):=Bz.nat ii;have U:X (yD<|(lo+hi)/2)<=K+1:=(zK _ _).2 ii;rw[Y<|jx (g.ok ii) (k.ok ii) i,zn,zn,show(1:J)=((1:wr):J)from O,Y (rk (yo _) ii iI ii),B,ziJ,Y (yO (zz _) ii ii),ye,ir iI,Y<|Z7 (c.ok ii) (g.ok ii) i (by have:=c.len;omega) (by have:=g.len;omega),zn,zn];by_cases t:(lo+hi)/2=lo
  ·rw[iq<|wJ.2 ii];obtain rfl:hi=lo+1:=ii
   exact⟨_,O,lo,O,ii,i1,i2⟩
  ·rw[ir<|λe=>t (by have:=wJ.1 e;omega),show(((1:wr):J))=1 from O,Y<|yq iI i,Y<|zi3 c ii i];simp only;have C:=(c.mul c).len;rw[Y<|Z7 ((c.mul c).ok ii) (j.ok ii) i ii ii];have hd:0<hi-lo-1:=ii
   have u:∀d,d<=(hi-lo-1)/2->bl d<bl (hi-lo-1):=λd D=>xaK (zb1 D)<|zkH hd;have⟨b,E⟩:∃b,b=(lo+hi)/2:=⟨_,O⟩;rw[<-E]at t⊢;have v:jy ((b:J)*(b:wr)) (S:J)<=0↔b*b<=S:=by
    rw[(iP:(b:J)*(b:wr)=((b*b:wr):J))];unfold jy;split
    ·exact⟨λ_=>by omega,λ_=>by decide⟩
    ·split
     ·exact⟨λh=>wS h iI,λh=>by omega⟩
     ·exact⟨λ_=>by omega,λ_=>by decide⟩
   by_cases n:b*b<=S
   ·rw[zn,zn,iq<|v.2 n];exact p _ ⟨_,hi,O,ii,o,n,i2⟩<|by simp only[zn,xbb];exact u _ ii
   ·rw[zn,zn,ir λh=>n<|v.1 h];exact p _ ⟨lo,_,O,ii,ii,i1,ii⟩<|by simp only[zn,xbb];exact u _ ii) fu ((wL,[]),ya 0,ya (H:J)) ⟨0,H,O,ii,IR _,xac _,hn⟩ (by
   simp only[zn,xbb];have:=zb1 (ii:H-Int.natAbs 0-1<=H);omega)
 rw[Y l1];exact⟨R,O,Bz.nat ii,by rw[xaN];exact y,by rw[xaN];exact hp⟩
def cH(a:N M):J:=if(zZ a).length=0 then 8 else if 65<X (zZ a) then 6 else 0
theorem Yn(b:yI K a)(c:K<=40000)(hl:X a<=1000000)(d:3000000<=fu):ZP fu a=Z (cH a):=by grind [ZP,cH,zZ,Y,zM]
theorem va(b:yI K a)(c:K<=40000:=by omega)(hl:X a<=1000000:=by omega)(d:3000000<=fu:=by omega):qp fu a=Z (cH a):=by grind [qp,cH,zZ,Y,yG]
def iJ(f:wr->J)(n:wr):J:=yp n<|λk=>f k*f k
def YV(x:J):0<=x*x:=by
 obtain h|h:=Int.le_total 0 x
 ·exact xcz h h
 ·exact Int.mul_nonneg_of_nonpos_of_nonpos h h
def mQ(f:wr->J):∀n,0<=iJ f n
 |0=>xft _
 |n+1=>Int.add_nonneg (mQ f n)<|YV _
theorem zaq{f:wr->J}(h:∀k,Bz K<|f k):∀n,n<=18446744073709551615->Bz (K+K+1) (iJ f n):=by
 have h1:∀n:wr,(iJ f n).natAbs<=n*18446744073709551616^(K+K):=by
  intro n
  induction n with
  |zero=>exact xac _
  |succ n d=>
   have c:(iJ f<|n+1).natAbs<=(iJ f n).natAbs+(f n*f n).natAbs:=Int.natAbs_add_le _ _;have b:=(h n).mul<|h n;unfold Bz at b;grind
 intro n hn;unfold Bz;have c:=h1 n;have hp:0<18446744073709551616^(K+K):=xaV iI;have b:n*18446744073709551616^(K+K)<=18446744073709551615*18446744073709551616^(K+K):=xan _ hn;omega
def Cm{f:wr->J}:∀{n},(∃k,k<n/\f k≠0)->1<=iJ f n
 |0,⟨k,h,_⟩=>wS h<|xbC _
 |n+1,⟨k,h,b⟩=>by
  show 1<=iJ f n+f n*f n;have h1:=mQ f n;have d:=YV<|f n;by_cases e:k=n
  ·have g:f n*f n≠0:=λc=>by
    obtain h4|h4:=xeK.1 c<;>exact b<|by rw[e];exact h4
   omega
  ·have:=Cm (n:=n) ⟨k,ii,b⟩;omega
def cq(c:yI K a)(p:K<=300)(hl:X a<=1000000)(b:3000000<=fu):∃y,vo fu a=Z (y,cH a)/\(cH a=0->∃r:wr,y=ya (((r+1)*2^(X (zZ a)-1):wr):J)/\r*r<=(-1+iJ (H a) (X (zZ a))).toNat/\(-1+iJ (H a) (X (zZ a))).toNat<(r+1)*(r+1)):=by
 unfold vo;rw[Y<|Yn c ii hl b];by_cases h0:cH a=0
 ·have e:X (zZ a)≠0/\X (zZ a)<=65:=by
   unfold cH at h0;split at h0
   ·cases h0
   ·omega
  have hn:=Ua c;have hd:=λn hn=>zaq (K:=K) (f:=H a) c.bz n hn;have q:=Cm (f:=H a) (n:=X (zZ a)) ⟨X (zZ a)-1,ii,by have:=YA (aQ a) e.1;rwa[kS]at this⟩;have hc:∀n,n<=18446744073709551615->Bz (K+K+1+1) (-1+iJ (H a) n):=λn hn=>by
   have:=(hd n hn).add (Bz.one (k:=K+K+1) ii);rwa[Int.add_comm]at this
  rw[iq h0,Y<|zM c ii hl b,show xJ (X a) (H a)=zZ a from O,Y<|yq iI b,Y (v:=(zZ a,(wL,[]),ya (-1+iJ (H a) (X (zZ a)))))]
  ·simp only;have⟨r,r1,r2,g,l⟩:=Dt (fu:=fu) (s:= -1+iJ (H a) (X (zZ a))) ii (hc _ ii) ii b;have b1:Bz 1 1:=Bz.one'<|IR _;have b2:=(r2.add<|b1.mono (by omega:1<=K+K+1+1+1)).len;rw[Y r1];simp only;rw[Y<|yq iI b,Y<|jx (r2.ok ii) (b1.ok iI) b,zn,zn,(ii:((X (zZ a):wr):J)-1=((X (zZ a)-1:wr):J)),zb,Y<|QZ (yo _) ii ii ii];simp only;have t:X (yD<|A (ya<|(r:J)+1).2*2^(X (zZ a)-1))<=K+K+1+1+1+1+2:=by
    refine Xa (j:=K+K+1+1+1+1) (k:=2) ?_ ?_
    ·rw[show A (ya<|(r:J)+1).2=((r:J)+1).natAbs from ye _];exact b2
    ·refine(zK _ _).2 ?_;exact xaK (xau iI (ii:X (zZ a)-1<=64)) iI
   rw[Y<|Yu ⟨zz _,by show(yD _).length<=100000;omega⟩ b];refine⟨_,by rw[h0],λ_=>⟨r,?_,g,l⟩⟩;congr 1;show(if wL=I then _ else((A (yD _):wr):J))=_;rw[ye,show A (ya<|(r:J)+1).2=((r:J)+1).natAbs from ye _,(ii:((r:J)+1).natAbs=r+1)];rfl
  ·refine zw (λs:J×N M×M×M=>∃i:wr,i<=X (zZ a)/\s=((i:J),zZ a,(wL,[]),ya (-1+iJ (H a) i))) (λs=>X (zZ a)-s.1.toNat) _ ?_ _ _ ⟨0,xac _,O⟩ (by show(zZ a).length-0<fu;omega);rintro s L ⟨i,hi,rfl⟩ m;unfold fL;simp only;by_cases h:i<X (zZ a)
   ·have d:=hn.okZ ii i;have o:=(c.bz i).mul<|c.bz i;rw[zP,Y O];simp only[uP];rw[zp h,Q,Y<|yB d d b,YI,kS,Y<|jx ((hc i ii).ok ii) (o.ok ii) b,zn,zn,zb,show-1+iJ (H a) i+H a i*H a i= -1+iJ (H a) (i+1)by show _= -1+(iJ (H a) i+H a i*H a i);omega];exact m _ ⟨i+1,ii,O⟩ (by show(zZ a).length-((i:J)+1).toNat<X (zZ a)-(i:J).toNat;omega)
   ·rw[zA,Y O];simp only[xar,uS];obtain rfl:i=X (zZ a):=ii
    rfl
 ·rw[ir h0];exact⟨_,O,λh=>wS h h0⟩
end
section
variable{f g q u v w a b:Pz}{m:wr}
def CK{m:J}{f:K->J}:∀{n j:K},j<n->(∀k,k<n->k≠j->m∣f k)->m∣yp n f-f j
 |0,j,h,_=>wS h<|xbC _
 |n+1,j,h,hd=>by
  show m∣yp n f+f n-f j;by_cases e:j=n
  ·subst e;rw[(W:yp j f+f j-f j=yp j f)];exact e9 λk c=>hd k W W
  ·have h1:=CK (n:=n) W λk c d=>hd k W d;have i:=hd n W W;rw[(W:yp n f+f n-f j=(yp n f-f j)+f n)];exact Int.dvd_add h1 i
theorem Jz{n:K}(c:∀k,n<k->f k=0)(d:∀k,m<k->g k=0):(f*g) (n+m)=f n*g m:=by
 have h:=Int.zero_dvd.1 (CK (f:=λi=>f i*g (n+m-i)) (n:=n+m+1) (j:=n) W λk e l=>by
  by_cases hc:k<n
  ·grind
  ·rw[c k W,xaP];exact xet 0)
 rw[(W:n+m-n=m)]at h;rw[vK];lia
def Tp(f:Pz)(n:K):Prop:=f n≠0/\∀k,n<k->f k=0
def Nz(f:Pz):Prop:=∃k,f k≠0
def Nz.not(h:¬Nz f)(k:K):f k=0:=xai λe=>h ⟨k,e⟩
def Tp.ex(c:Fs f)(h0:Nz f):∃n,Tp f n:=by
 have⟨N,l⟩:=c;have⟨j,d⟩:=h0;have h1:dg f N≠0:=λe=>by
  by_cases h:j<N
  ·exact d<|Qx f N j W h
  ·simp_all
 refine⟨dg f N-1,Qq f N h1,λk o=> ?_⟩;by_cases i:k<N
 ·exact Qx f N k W i
 ·simp_all
def Tp.mul{n:K}(c:Tp f n)(d:Tp g m):Tp (f*g) (n+m):=
 ⟨by rw[Jz c.2 d.2];exact xeq c.1 d.1,λk h=>kf (n:=n+1) (m:=m+1) (λj e=>c.2 j W)<|λj e=>d.2 j W⟩
def Tp.uniq{n:K}(h:Tp f n)(g:Tp f m):n=m:=by
 by_cases h1:n<m
 ·exact wS (h.2 m h1) g.1
 ·by_cases c:m<n
  ·exact wS (g.2 n c) h.1
  ·lia
def Tp.nz{n:K}(h:Tp f n):Nz f:=⟨n,h.1⟩
def Tp.fs{n:K}(h:Tp f n):Fs f:=⟨n+1,λk c=>h.2 k W⟩
def Nz.mul{f g:Pz}(c:Fs f)(d:Fs g)(e:Nz f)(h:Nz g):Nz (f*g):=by
 have⟨n,hn⟩:=Tp.ex c e;have⟨m,i⟩:=Tp.ex d h;exact(hn.mul i).nz
def o9(d:Fs f)(e:Fs g)(fq:Fs q)(i:Nz q)(h:f*q=g*q):f=g:=by
 by_cases c:Nz (f-g)
 ·have h1:=Nz.mul (d.subt e) fq c i;have⟨k,j⟩:=h1;rw[qw,h,yY]at j;lia
 ·funext k;have:=Nz.not c k;rw[yY]at this;lia
def zc9{c:J}(hc:c≠0)(h:D c*f=D c*g):f=g:=qR λk=>by
 have:=Wr h k;rw[zS,zS]at this;exact Int.eq_of_mul_eq_mul_left hc this
def Zd(u v:Pz):Prop:=∃q:Pz,Fs q/\v=q*u
def Zd.refl(u:Pz):Zd u u:=⟨D 1,Fs.pc 1,(zC u).symm⟩
def Zd.trans(h:Zd u v)(g:Zd v w):Zd u w:=by
 obtain⟨q,fq,rfl⟩:=h;obtain⟨r,fr,rfl⟩:=g;exact⟨r*q,fr.mul fq,(zd r q u).symm⟩
def Zd.add{u v w:Pz}(h:Zd u v)(g:Zd u w):Zd u (v+w):=by
 obtain⟨q,fq,rfl⟩:=h;obtain⟨r,fr,rfl⟩:=g;exact⟨q+r,fq.add fr,(ym q r u).symm⟩
def Zd.sub(h:Zd u v)(g:Zd u w):Zd u (v-w):=by
 obtain⟨q,fq,rfl⟩:=h;obtain⟨r,fr,rfl⟩:=g;exact⟨q-r,fq.subt fr,(qw q r u).symm⟩
def Zd.mul{u v:Pz}(w:Pz)(c:Fs w)(h:Zd u v):Zd u (w*v):=by
 obtain⟨q,fq,rfl⟩:=h;exact⟨w*q,c.mul fq,(zd w q u).symm⟩
def Zd.left(c:Fs v):Zd u (u*v):=⟨v,c,zk u v⟩
def Pm(f:Pz):Prop:=∀d:K,(∀k,(d:J)∣f k)->d=1
def Pm.nz(h:Pm f):Nz f:=xai λhn=>wS (h 0 λk=>by rw[Nz.not hn k];exact xdy _) iI
def zqs:∀(n d:K),d<=n->2<=d->∃P,2<=P/\jK P/\P∣d
 |0,d,h,i=>by lia
 |n+1,d,h,i=>by
  by_cases hd:jK d
  ·exact⟨d,i,hd,Nat.dvd_refl d⟩
  ·have:∃e,2<=e/\e*e<=d/\d%e=0:=xai λhn=>hd λe e1 j c=>hn ⟨e,e1,j,c⟩;have⟨e,e1,j,c⟩:=this;have p:e<d:=by
    have:e*2<=e*e:=xaA e e1;lia
   have⟨P,k,l,o⟩:=zqs n e W e1;exact⟨P,k,l,Nat.dvd_trans o<|Nat.dvd_of_mod_eq_zero c⟩
theorem zlP{Q:K->Prop}(h:∃i,Q i):∃i,Q i/\∀k,k<i->¬Q k:=by
 have⟨i,hi⟩:=h
 induction i using xdc with
 |ind i c=>
  by_cases hc:∃k,k<i/\Q k
  ·grind
  ·grind
def Iv{P:K}(hp:2<=P)(hn:jK P){f g:Pz}{i:K}(hi:¬(P:J)∣f i)(c:∀k,k<i->(P:J)∣f k)(h:∀k,(P:J)∣(f*g) k):∀n j,j<n->(P:J)∣g j
 |0,j,d=>wS d<|xbC _
 |n+1,j,d=>by
  have p:=Iv hp hn hi c h n;by_cases r:j<n
  ·simp_all
  ·have e:(P:J)∣yp (i+j+1) (λa=>f a*g (i+j-a))-f i*g (i+j-i):=CK (m:=(P:J)) (f:=λa=>f a*g (i+j-a)) (n:=i+j+1) (j:=i) W λk s hd=>by
    show(P:J)∣f k*g (i+j-k);by_cases hc:k<i
    ·exact xbx (c k hc)<|xcl _ _
    ·exact xbx (p _ W)<|xcL _ _
   have l:=h<|i+j;rw[vK]at l;rw[(W:i+j-i=j)]at e;have o:=xdp l e;rw[show∀x y:J,x-(x-y)=y by intro x y;lia]at o;obtain h5|h5:=Nw hp hn o
   ·lia
   ·exact h5
def zq1{P:K}(hp:2<=P)(hn:jK P)(h:∀k,(P:J)∣(f*g) k):(∀k,(P:J)∣f k)\/∀k,(P:J)∣g k:=by
 by_cases c:∀k,(P:J)∣f k
 ·simp_all
 ·have⟨i,h1,d⟩:=zlP<|xfI.1 c;exact .inr λk=>Iv hp hn h1 (λk e=>Classical.not_not.1<|d k e) h (k+1) k<|xdj k
def Pm.mul(c:Pm f)(i:Pm g):Pm (f*g):=λd hd=>by
 by_cases h1:d=1
 ·exact h1
 ·have:∃P,2<=P/\jK P/\P∣d:=by
   by_cases h0:d=0
   ·exact⟨2,iI,λe e1 o=>by have:2*2<=e*e:=xbM e1 e1;lia,by rw[h0];exact⟨0,O⟩⟩
   ·exact zqs d d (IR d) W
  have⟨P,j,l,n⟩:=this;rcases zq1 j l λk=>xbx (xdN.2 n) (hd k)with h|h
  ·have:=c P h;lia
  ·have:=i P h;lia
def Pm.left(h:Pm (u*v)):Pm u:=λd hd=>h d λk=>by
 exact e9 λi _=>xbx (hd i)<|xcl _ _
def LU{f:K->J}{d:K}:∀n,(∀k,k<n->d∣(f k).natAbs)->d∣Wj f n
 |0,_=>⟨0,O⟩
 |n+1,h=>Nat.dvd_gcd (LU n λk c=>h k W)<|h n W
def Om{f:K->J}{c g:K}:∀n,(∀k,k<n->c∣g*(f k).natAbs)->c∣g*Wj f n
 |0,_=>⟨0,O⟩
 |n+1,h=>by
  show c∣g*xdX (Wj f n) (f n).natAbs;rw[<-Nat.gcd_mul_left];exact Nat.dvd_gcd (Om n λk d=>h k W)<|h n W
def pk{n:K}(h:∀k,n<=k->f k=0)(k:K):((Wj f n:K):J)∣f k:=by
 by_cases c:k<n
 ·exact xcp.1<|by skip;exact Ek f n k c
 ·simp_all
def Pm.ex(p:Fs f)(h0:Nz f):∃(c:K) (g:Pz),c≠0/\Fs g/\Pm g/\f=D c*g:=by
 have⟨n,hn⟩:=p;have h:=pk hn;have⟨c,hc⟩:∃c,c=Wj f n:=⟨_,O⟩;rw[<-hc]at h;have r:c≠0:=λe=>by
  have⟨j,t⟩:=h0;have:=h j;rw[e]at this;lia
 have i:=L8<|Cg.of_dvd h;refine⟨c,pdv c f,r,NA ⟨n,hn⟩,λd hd=> ?_,i.symm⟩;have h1:=LU n λk _=>by
  have l:=Wr i k;rw[zS]at l;have o:=xfP (xet c)<|hd k;rw[l]at o;have x:=xcp.2 o;assumption
 rw[<-hc]at h1;have s:c*d∣c*1:=by rw[xdn];exact h1
 exact Nat.dvd_one.1<|Nat.dvd_of_mul_dvd_mul_left W s
def zpZ{c:J}(fq:Fs q)(e:Pm q)(i:Fs w)(h:∀k,c∣(w*q) k)(k:K):c∣w k:=by
 by_cases h0:Nz w
 ·obtain⟨g,v,g0,j,hv,rfl⟩:=Pm.ex i h0;obtain⟨n,hn⟩:=j.mul fq;have l:=(hv.mul e) _<|pk hn;have d:=Om n λk _=>by
   have:=xcp.2<|h k;rw[zd,zS,xcK,xbb]at this;exact this
  rw[l,xdn]at d;rw[zS];have o:c∣g:=xcp.1 (by skip;exact d);exact xbx o<|xcl _ _
 ·rw[Nz.not h0 k];exact xdy c
def Zd.pm{c:J}(fq:Fs q)(i:Pm q)(hc:c≠0)(h:Zd q (D c*v)):Zd q v:=by
 have⟨w,d,e⟩:=h;have h1:=zpZ fq i d λk=>by rw[<-e,zS];exact xcl _ _
 have j:=L8<|Cg.of_dvd h1;refine⟨pdv c w,NA d,zc9 hc ?_⟩;rw[e,<-zd,j]
theorem zgg{b:Pz}{m:K}(d:Tp b m):∀(n:K) (a:Pz),(∀k,n<=k->a k=0)->∃(c:J) (q r:Pz),c≠0/\Fs q/\(∀k,m<=k->r k=0)/\D c*a=q*b+r
 |0,a,h=>⟨1,D 0,D 0,iI,Fs.pc 0,λk _=>zH k,qR λk=>by rw[zI,zQ,zH,zS,h k W];rfl⟩
 |n+1,a,h=>by
  by_cases hn:n+1<=m
  ·exact⟨1,D 0,a,iI,Fs.pc 0,λk i=>h k W,qR λk=>by rw[zI,zQ,zH,xco,zC]⟩
  ·have⟨c,q,r,hc,fq,l,j⟩:=zgg d n (D (b m)*a-mono (n-m) (a n)*b) λk i=>by
    rw[yY,qI,zS];unfold sh;rw[zP];by_cases e:k=n
    ·grind
    ·rw[h k W,d.2 (k-(n-m)) W];lia
   refine⟨c*b m,q+D c*mono (n-m) (a n),r,xeq hc d.1,fq.add<|(Fs.pc c).mul ⟨n+1,λk i=>zA⟩,l,?_⟩;rw[ym,<-kH,zd (D c) (D<|b m) a,zd (D c) _ b];rw[vL]at j;funext k;have:=Wr j k;simp only[zI,yY]at this⊢;lia
def zk5(c:Nz a)(e:∀k,b k=0):∃(d s t:Pz) (α β:J),Nz d/\Fs s/\Fs t/\d=s*a+t*b/\α≠0/\β≠0/\Zd d (D α*a)/\Zd d (D β*b):=
 ⟨a,D 1,D 0,1,1,c,Fs.pc 1,Fs.pc 0,qR λk=>by rw[zI,zC,zQ,zH,xbF],iI,iI,⟨D 1,Fs.pc 1,O⟩,⟨D 0,Fs.pc 0,qR λk=>by rw[zS,e k,zQ,zH];rfl⟩⟩
def zri:∀(n:K) (a b:Pz),Fs a->Nz a->(∀k,n<=k->b k=0)->∃(d s t:Pz) (α β:J),Nz d/\Fs s/\Fs t/\d=s*a+t*b/\α≠0/\β≠0/\Zd d (D α*a)/\Zd d (D β*b):=by
 intro n
 induction n with
 |zero=>intro a b p l j;exact zk5 l λk=>j k<|xac k
 |succ n B=>
  intro a b p l j;by_cases nb:Nz b
  ·have x:Fs b:=⟨n+1,j⟩;have⟨m,y⟩:=Tp.ex x nb;have L:m<=n:=by
    by_cases h:m<=n
    ·exact h
    ·exact wS (j m W) y.1
   have⟨N,C⟩:=p;have⟨c,q,r,hc,fq,E,z⟩:=zgg y N a C;have⟨d,s,t,α,β,F,fs,A,hd,i,o,h1,G⟩:=B b r x nb λk M=>E k W;have H:r=D c*a-q*b:=qR λk=>by
    have:=Wr z k;simp only[zI,yY]at this⊢;lia
   refine⟨d,t*D c,s-t*q,α*β*c,α,F,A.mul<|Fs.pc c,fs.subt<|A.mul fq,?_,xeq (xeq i o) hc,i,?_,h1⟩
   ·rw[hd,H,vL,qw,<-zd,<-zd];funext k;simp only[zI,yY];lia
   ·have e:D (α*β*c)*a=(D β*q)*(D α*b)+D α*(D β*r):=by rw[<-kH (α*β) c,zd (D<|α*β) (D c) a,z,xg,<-kH α β,zd (D β) q,zB q (D α) b,zB (D β)<|D α,zd (D α)<|D β,zd (D α)<|D β]
    rw[e];exact(h1.mul _<|(Fs.pc β).mul fq).add<|G.mul _<|Fs.pc α
  ·exact zk5 l<|Nz.not nb
def zo2(k:Fs a)(r:Nz a)(x:Fs b):∃(g s t:Pz) (γ:J),Fs g/\Pm g/\Fs s/\Fs t/\γ≠0/\D γ*g=s*a+t*b/\Zd g a/\Zd g b:=by
 have⟨n,hn⟩:=x;have⟨d,s,t,α,β,y,fs,l,hd,e,h,h1,z⟩:=zri n a b k r hn;have A:Fs d:=by rw[hd];exact(fs.mul k).add<|l.mul ⟨n,hn⟩
 have⟨c,g,hc,i,j,o⟩:=Pm.ex A y;have p:Zd g d:=⟨D c,Fs.pc c,o⟩;exact⟨g,s,t,c,i,j,fs,l,W,o.symm.trans hd,Zd.pm i j e<|p.trans h1,Zd.pm i j h<|p.trans z⟩
def Cp(u:Pz):Prop:=∀k,1<=k->u k=0
def Cp.ex(h:Cp u):∃c,u=D c:=⟨u 0,qR λk=>by
 unfold D;by_cases e:k=0
 ·simp_all
 ·rw[ir e];exact h k W⟩
def CC{c:J}(h:Pm (D c)):c=1\/c= -1:=by
 have h1:=h c.natAbs λk=>by
  unfold D;split
  ·exact Int.natAbs_dvd.2<|xet _
  ·simp_all
 lia
structure Ir(q:Pz):Prop where
 fs:Fs q
 pm:Pm q
 dg:¬Cp q
 ir:∀u v,Fs u->Fs v->q=u*v->Cp u\/Cp v
def Ir.prime(d:Ir q)(fu:Fs u)(k:Fs v)(h:Zd q (u*v)):Zd q u\/Zd q v:=by
 have⟨g,s,t,γ,l,n,fs,o,i,p,⟨w,r,j⟩,x,fx,y⟩:=zo2 d.fs d.pm.nz fu;obtain hc|hc:=d.ir w g r l j
 ·left;obtain⟨c,rfl⟩:=hc.ex;have z:=(j▸d.pm:Pm (D c*g)).left;refine⟨x*D c,fx.mul<|Fs.pc c,?_⟩;have A:c*c=1:=by obtain e|e:=CC z<;>rw[e]<;>rfl
  rw[j,zd,<-zd (D c) (D c) g,kH,A,zC,y]
 ·right;obtain⟨c,rfl⟩:=hc.ex;have hd:c≠0:=λe=>by
   have:=CC n;lia
  refine Zd.pm d.fs d.pm (xeq i hd) ?_;rw[<-kH,p,ym];refine Zd.add ⟨s*v,fs.mul k,?_⟩ ?_
  ·rw[zd,zd,zk q v]
  ·rw[zd];exact h.mul t o
def Po(q:Pz):Prop:=∃n,0<q n/\∀k,n<k->q k=0
def Po.tp(h:Po q):∃n,Tp q n/\0<q n:=by
 have⟨n,h1,c⟩:=h;exact⟨n,⟨W,c⟩,h1⟩
def Ir.eq{r:Pz}(i:Ir q)(j:Ir r)(o:Po q)(pr:Po r)(h:Zd q r):q=r:=by
 have⟨w,p,d⟩:=h;obtain hc|hc:=j.ir w q p i.fs d
 ·obtain⟨c,rfl⟩:=hc.ex;have s:=(d▸j.pm:Pm (D c*q)).left;obtain e|e:=CC s
  ·rw[d,e,zC]
  ·have⟨n,h1,z⟩:=o.tp;have⟨m,t,x⟩:=pr.tp;have l:Tp (D c*q) n:=⟨by rw[zS,e];lia,λk y=>by rw[zS,h1.2 k y,xaC]⟩;rw[<-d]at l;obtain rfl:=l.uniq t;rw[d,zS,e]at x;lia
 ·exact wS hc i.dg
def Cp.tp{n:K}(h:Tp u n):Cp u↔n=0:=⟨λhc=>xai λe=>h.1 (hc n W),λe k c=>h.2 k W⟩
end
section
variable{q f:Pz}{m:wr}{a b:xS Zr}
def Pm.one:Pm (D 1):=λd hd=>by
 have:=hd 0;exact Nat.dvd_one.1<|xdN.1 this
def Pm.pp{q:Pz}(h:Pm q):∀n,Pm (pp q n)
 |0=>Pm.one
 |n+1=>(Pm.pp h n).mul h
def Po.one:Po (D 1):=⟨0,iI,λk c=>by unfold D;rw[zA]⟩
def Ir.one(h:Ir q):¬Zd q (D 1):=λ⟨w,d,e⟩=>by
 have⟨a,c⟩:=Tp.ex h.fs h.pm.nz;have g:Nz w:=xai λhn=>by
  have:=Wr e 0;rw[vK,xk λk _=>by rw[Nz.not hn k,xaP]]at this;exact wS this iI
 have⟨b,i⟩:=Tp.ex d g;have h1:=i.mul c;rw[<-e]at h1;have j:=h1.uniq (m:=0) ⟨iI,λk l=>by unfold D;rw[zA]⟩;exact h.dg<|(Cp.tp c).2 W
def Mu(q f:Pz)(n:K):Prop:=∃u,Fs u/\f=u*pp q n/\¬Zd q u
def Mu.ex{q:Pz}(c:Ir q)(m:K):∀{f:Pz},Tp f m->∃n,n<=m/\Mu q f n:=by
 induction m using xdc with
 |ind m j=>
  intro f d;by_cases hd:Zd q f
  ·have⟨u,fu,e⟩:=hd;have l:Nz u:=xai λhn=>by
    refine d.1 ?_;rw[e,vK,xk λk _=>by rw[Nz.not hn k,xaP]]
   have⟨a,g⟩:=Tp.ex fu l;have⟨b,i⟩:=Tp.ex c.fs c.pm.nz;have h1:=g.mul i;rw[<-e]at h1;have h1:=h1.uniq d;have hc:b≠0:=λh=>c.dg<|(Cp.tp i).2 h;have⟨n,hn,v,o,p,hv⟩:=j a W g;refine⟨n+1,W,v,o,?_,hv⟩;show f=v*(pp q n*q);rw[e,p,zd]
  ·exact⟨0,xac m,f,d.fs,(yf f).symm,hd⟩
theorem Mu.mul{q f g:Pz}{n m:K}(d:Ir q)(e:Mu q f n)(i:Mu q g m):Mu q (f*g) (n+m):=by
 obtain⟨u,fu,rfl,j⟩:=e;obtain⟨v,c,rfl,hv⟩:=i;refine⟨u*v,fu.mul c,?_,λh=> ?_⟩
 ·rw[EA,zd,zd,zB<|pp q n]
 ·obtain h|h:=d.prime fu c h
  ·grind
  ·grind
def Mu.lt{n:K}(c:Ir q)(h:Mu q f n)(g:Mu q f m):¬n<m:=λk=>by
 have⟨u,fu,e1,i⟩:=h;have⟨v,e,j,hv⟩:=g;obtain⟨d,rfl⟩:∃d,m=d+1+n:=⟨m-1-n,W⟩;refine i ⟨v*pp q d,e.mul<|c.fs.pp d,?_⟩;refine o9 fu ((e.mul<|c.fs.pp d).mul c.fs) (c.fs.pp n) (c.pm.pp n).nz ?_;rw[<-e1,j,EA,zd<|v*pp q d,zd v];show v*(pp q d*q*pp q n)=_;rw[zd<|pp q d]
def Mu.uniq{n:K}(c:Ir q)(h:Mu q f n)(g:Mu q f m):n=m:=by
 have:=h.lt c g;have:=g.lt c h;lia
def Mu.zero(c:Fs f)(h:¬Zd q f):Mu q f 0:=⟨f,c,(yf f).symm,h⟩
theorem Ir.prz{q:Pz}(d:Ir q):∀{l:N Pz},(∀r∈l,Fs r)->Zd q (prZ l)->∃r,r∈l/\Zd q r
 |[],_,h=>wS h d.one
 |r::l,hl,h=>by
  rcases d.prime (hl r<|FS) (Fs.prZ λx c=>hl x<|UV _ c) h with h|h
  ·simp_all
  ·have⟨x,c,h⟩:=Ir.prz d (λx c=>hl x<|UV _ c) h;grind
def Ie(f g:K->J):K->J
 |0=>0
 |n+1=>if f n=g n then Ie f g n else if f n<g n then-1 else 1
theorem SS(f g:K->J):∀n,Ie g f n= -Ie f g n
 |0=>rfl
 |n+1=>by
  unfold Ie;by_cases h:f n=g n
  ·rw[iq h,iq h.symm];exact SS f g n
  ·lia
theorem OO(f g:K->J):∀n,Ie f g n=0->∀k,k<n->f k=g k
 |0,_,k,h=>wS h<|xbC _
 |n+1,h,k,c=>by
  unfold Ie at h;by_cases h1:f n=g n
  ·rw[iq h1]at h;by_cases e:k=n
   ·grind
   ·exact OO f g n h k W
  ·lia
def Hh(f g h:K->J):∀n,Ie f g n<=0->Ie g h n<=0->Ie f h n<=0
 |0,_,_=>xft 0
 |n+1,h1,c=>by
  unfold Ie at h1 c⊢;by_cases e1:f n=g n
  ·rw[iq e1]at h1;by_cases d:g n=h n
   ·rw[iq d]at c;rw[iq<|e1.trans d];exact Hh f g h n h1 c
   ·lia
  ·lia
def Q4(a b:N M):J:=if X a=X b then Ie (H a) (H b) (X a) else if X a<X b then-1 else 1
theorem Js(a b:N M):Q4 b a= -Q4 a b:=by grind [Q4,SS]
def zam{c:N M}(h1:Q4 a b<=0)(d:Q4 b c<=0):Q4 a c<=0:=by
 unfold Q4 at h1 d⊢;by_cases e1:X a=X b
 ·rw[iq e1]at h1;by_cases e:X b=X c
  ·rw[iq e,<-e1]at d;rw[iq<|e1.trans e];exact Hh _ _ _ _ h1 d
  ·lia
 ·lia
def ia(d:zZ a=a)(e:zZ b=b)(h:∀k,H a k=H b k):a=b:=by
 rw[<-d,<-e];exact Xo (λk c=>zX c) (λk c=>zX c) h
def zdn(c:zZ a=a)(d:zZ b=b)(h:Q4 a b=0):a=b:=by
 unfold Q4 at h;by_cases e:X a=X b
 ·rw[iq e]at h;have h1:=OO _ _ _ h;refine ia c d λk=> ?_;by_cases g:k<X a
  ·simp_all
  ·rw[zX W,zX W]
 ·lia
structure FL(f:Pz)(l:N (N M×J)):Prop where
 el:∀x∈l,zZ x.1=x.1/\Ir (H x.1)/\Po (H x.1)/\1<=x.2/\Mu (H x.1) f x.2.toNat
 al:∀q,Ir q->Po q->Zd q f->∃x∈l,H x.1=q
 so:l.Pairwise λx y=>Q4 x.1 y.1<0
end
section
variable{a b k:wr}{p:wl}{f u v g q:Pz}
def zlB{A B:Pz}{d e:K}(c:Mn A d)(h:Mn B e):Mn (A*B) (d+e):=
 ⟨by rw[Jz c.2 h.2,c.1,h.1];rfl,λk l=>kf (n:=d+1) (m:=e+1) (λj i=>c.2 j W)<|λj i=>h.2 j W⟩
def zh4:∀{l:N Pz},(∀A∈l,∃d,Mn A d)->∃d,Mn (prZ l) d
 |[],_=>⟨0,O,λk j=>by show D 1 k=0;unfold D;rw[zA]⟩
 |A::l,h=>by
  have⟨d,hd⟩:=h A<|FS;have⟨e,c⟩:=zh4 λB i=>h B<|UV _ i;exact⟨d+e,zlB hd c⟩
def nX{α:Type}(F:α->Pz)(P:α->v6):∀l:N α,prZ (l.map F)=prZ ((l.filter P).map F)*prZ ((l.filter λx=> !P x).map F)
 |[]=>(yf _).symm
 |x::l=>by
  have c:=nX F P l
  cases h:P x with
  |true=>
   rw[xfh h,xfi<|by rw[h];decide];show F x*_=F x*_*_;rw[c,zd]
  |false=>
   rw[xfi (by rw[h];decide),xfh<|by rw[h];rfl];show F x*_=_*(F x*_);rw[c,zB]
def zbn{P:J}(hp:wh P=I){a b:Pz}{c:J}(s:Fs a)(t:Fs b)(h:Cg P (a*b) (D c))(hc:¬P∣c):∃x,Cg P a (D x):=by
 have⟨F,G⟩:=zo hp;obtain⟨Q,rfl⟩:=xaz (W:0<=P);have l:=Y0 hp;rw[xaN]at l;have d:∀f:Pz,Fs f->¬Cg (Q:J) f (D 0)->∃g n,Tp g n/\Cg (Q:J) g f/\¬(Q:J)∣g n:=λf w hn=>by
  have f2:Fs (λk=>f k%(Q:J)):=by
   have⟨n,hn⟩:=w;exact⟨n,λk y=>by show f k%_=0;rw[hn k y,xah]⟩
  have⟨n,h1⟩:=Tp.ex f2 (xai λz=>hn λk=>by
   have:=Nz.not z k;rw[zH,xah];exact this)
  exact⟨_,n,h1,λk=>xaE _ _,λhd=>h1.1 (by
   show f n%_=0;have:=xav hd;rwa[xaE]at this)⟩
 have A:¬Cg (Q:J) a (D 0):=λe=>hc (by
  have:=(h.symm.trans<|e.mul_zero_r b).dvd 0;unfold D at this;rwa[iq O]at this)
 have B:¬Cg (Q:J) b (D 0):=λe=>hc (by
  have:=(h.symm.trans<|e.mul_zero_l a).dvd 0;unfold D at this;rwa[iq O]at this)
 have⟨u,i,m,o,H⟩:=d a s A;have⟨v,j,v1,C,v3⟩:=d b t B;have h1:=(o.mul C).trans h;by_cases E:i=0
 ·subst E;obtain⟨x,rfl⟩:=((Cp.tp m).2 O).ex;exact⟨x,o.symm⟩
 ·exfalso;have r:=h1<|i+j;rw[Jz m.2 v1.2,show D c (i+j)=0 from zA,xah]at r;rcases Nw W l (xaF r)with h3|h3
  ·lia
  ·exact v3 h3
theorem rQ{p a:J}(hp:wh p=I)(d:a%p≠0):∀k,∃w,p^k∣w*a-1
 |0=>⟨0,by rw[xbI];exact Int.one_dvd _⟩
 |k+1=>by
  have⟨l,m⟩:=zo hp;by_cases i:k=0
  ·subst i;obtain⟨Q,rfl⟩:=xaz (W:0<=p);have⟨w,c⟩:=TE hp λh=>d<|xav h;grind
  ·have⟨w,c⟩:=rQ hp d k;refine⟨w*(2-w*a),?_⟩;have e:w*(2-w*a)*a-1= -((w*a-1)*(w*a-1)):=by grind
   rw[e];refine Int.dvd_neg.2<|xbx (iF (j:=k+k)) ?_;rw[Int.pow_add];exact xfP c c
abbrev Lx:=N M×N J
def pu(xs:N Lx):Pz:=prZ<|xs.map λx=>(H x.1:Pz)
def pl(xs:N Lx):Pz:=prZ<|xs.map λx=>(U x.2:Pz)
def zlm(xs:N Lx):Fs (pu xs):=Fs.prZ λf c=>by
 obtain⟨x,_,rfl⟩:=xap.1 c;exact Fs.cf _
def zoM(xs:N Lx):Fs (pl xs):=Fs.prZ λf c=>by
 obtain⟨x,_,rfl⟩:=xap.1 c;exact Fs.ci _
structure Lc(p:J)(k:K)(f:Pz)(n:K)(xs:N Lx):Prop where
 hp:wh p=I
 k1:1<=k
 el:∀x∈xs,Up p k x.1 x.2/\QI p x.2/\x.2.length<=66
 pw:xs.Pairwise λa b=>qB p (U a.2)<|U b.2
 tp:Tp f n
 nb:n<=64
 ps:0<f n
 lc:f n%p≠0
 pm:Pm f
 cg:Cg (p^k) f (D (f n)*pu xs)
def zpC{x:Lx}(h:Up p k x.1 x.2/\QI p x.2/\X x.2<=66):Mn (H x.1) (X x.2-1):=by
 have⟨h1,d,_⟩:=h;have c:=h1.top;rw[h1.len]at c;exact⟨c,λj e=>zX<|by rw[h1.len];lia⟩
def Ow{p:J}{k:K}:∀{xs:N Lx},(∀x∈xs,Up p k x.1 x.2/\QI p x.2/\X x.2<=66)->Cg p (pu xs) (pl xs)
 |[],_=>Cg.rfl
 |x::xs,h=>(h x<|FS).1.cg.mul<|Ow λy c=>h y<|UV _ c
def zo6{xs:N Lx}(h:∀x∈xs,Up p k x.1 x.2/\QI p x.2/\X x.2<=66):∃d,Mn (pu xs) d:=zh4 λA c=>by
 obtain⟨x,e,rfl⟩:=xap.1 c;exact⟨_,zpC<|h x e⟩
def zhr{xs:N Lx}(h:∀x∈xs,Up p k x.1 x.2/\QI p x.2/\X x.2<=66):∃d,Mn (pl xs) d:=zh4 λA c=>by
 obtain⟨x,e,rfl⟩:=xap.1 c;exact⟨_,(h x e).2.1.mn.mn⟩
def Lc.lcp{n:K}{xs:N Lx}(h:Lc p k f n xs):Cg p f (D (f n)*pl xs):=
 (h.cg.down<|kT h.k1).trans (Cg.rfl.mul<|Ow h.el)
def Lc.sf{n:K}{xs:N Lx}(h:Lc p k f n xs):∃(m:N J) (w:J),Sf p m (xs.map (·.2))/\Cg p (U m) (D w*f):=by
 have⟨A,B⟩:=zo h.hp;have⟨w,i⟩:=rQ h.hp h.lc 1;rw[xbr,xbI,xcv]at i;have r:∀k,n+1<=k->(λk=>(w*f k)%p) k=0:=λk C=>by
  show(w*f k)%p=0;rw[h.tp.2 k W,xaC,xah]
 have l:(w*f n)%p=1:=by
  have:=(xcC (w*f n)<|xet p);have d:(w*f n)%p=1%p:=xaI.2<|xav i;rw[d,xaD iI W]
 have c:=Eo r;have hc:=Ak (n+1)<|λk=>(w*f k)%p;have s:=HY (n+1)<|λk=>(w*f k)%p;have⟨m,t⟩:∃m,m=nl (n+1) (λk=>(w*f k)%p):=⟨_,O⟩;rw[<-t]at c hc s;have hd:X m=n+1:=by
  by_cases e:X m=n+1
  ·exact e
  ·have:=c n;rw[zU W]at this;lia
 have o:Cg p (U m) (D w*f):=λk=>by rw[c k,zS];exact xaE _ _
 refine⟨m,w,⟨h.hp,⟨⟨λk=>by rw[c k];exact(yn).1,λk=>by rw[c k];exact(yn).2,hc⟩,W,by rw[c];show(w*f (X m-1))%p=1;rw[hd];exact l⟩,by have:=h.nb;lia,λu y=> ?_,?_,?_⟩,o⟩
 ·obtain⟨x,z,rfl⟩:=xap.1 y;have⟨_,d,E⟩:=h.el x z;exact⟨d,W⟩
 ·exact xeN.2 h.pw
 ·refine o.trans<|(Cg.rfl.mul h.lcp).trans ?_;rw[<-zd,kH,xcP];refine Cg.trans (Cg.mul (f':=D 1) (λj=> ?_) Cg.rfl)<|Cg.of<|zC _;unfold D;split
  ·rw[l];exact(xaD iI W).symm
  ·rfl
noncomputable def own(p:J)(u:Pz)(xs:N Lx):N Lx:=by
 classical exact xs.filter λx=>decide<|Di p (U x.2) u
noncomputable def SX(p:J)(u:Pz)(xs:N Lx):N Lx:=by
 classical exact xs.filter λx=> !decide (Di p (U x.2) u)
theorem aU{xs:N Lx}{x:Lx}:x∈own p u xs↔x∈xs/\Di p (U x.2) u:=by grind [own]
def zb0(p:J)(u:Pz)(xs:N Lx):pu xs=pu (own p u xs)*pu (SX p u xs)/\pl xs=pl (own p u xs)*pl (SX p u xs):=by
 exact⟨nX _ _ xs,nX _ _ xs⟩
def Lc.or{n:K}{xs:N Lx}(h:Lc p k f n xs)(fu:Fs u)(d:Fs v)(l:∀j,b<=j->u j=0)(o:b<=290)(e:f=u*v){x:Lx}(c:x∈xs):(Di p (U x.2) u\/Di p (U x.2) v)/\¬(Di p (U x.2) u/\Di p (U x.2) v):=by
 have⟨m,w,r,s⟩:=h.sf;have⟨h1,t,C⟩:=h.el x c;have A:x.2∈xs.map (·.2):=xbK c;constructor
 ·obtain hd|hc:=t.or' h.hp W l o
  ·simp_all
  ·right;have i:Di p (U x.2) f:=by
    refine Di.cg ?_ h.lcp.symm;exact(aJ (λy B=>by obtain⟨z,_,rfl⟩:=xap.1 B;exact Fs.ci _)<|xbK c).mul _<|Fs.pc _
   rw[e]at i;exact Di.euclid d hc i
 ·rintro⟨d1,d2⟩;exact r.apart fu d ⟨D w,Fs.pc w,by rw[<-e];exact s⟩ A d1 d2
def Lc.oth_own{n:K}{xs:N Lx}(h:Lc p k f n xs)(fu:Fs u)(c:Fs v)(d:∀j,b<=j->u j=0)(i:b<=290)(e:f=u*v):SX p u xs=own p v xs:=by
 refine List.filter_congr λx l=> ?_;have⟨h1,m⟩:=h.or fu c d i e l;by_cases hd:Di p (U x.2) u
 ·simp_all
 ·simp_all
def Lc.pcop{n:K}{xs:N Lx}(h:Lc p k f n xs):(own p u xs).Pairwise (λa b=>qB p (U a.2)<|U b.2):=by
 exact h.pw.sublist List.filter_sublist
def Lc.odv{n:K}{xs:N Lx}(h:Lc p k f n xs)(fu:Fs u):Di p (pl<|own p u xs) u:=by
 refine Di.prz fu (λy c=>by obtain⟨z,_,rfl⟩:=xap.1 c;exact Fs.ci _) (xeN.2 h.pcop) λy c=> ?_;obtain⟨z,d,rfl⟩:=xap.1 c;exact(aU.1 d).2
def Dw{n:K}{xs:N Lx}(h:Lc p k f n xs)(u:Pz):∀x∈own p u xs,Up p k x.1 x.2/\QI p x.2/\X x.2<=66:=λx c=>h.el x (aU.1 c).1
def Lc.loc{n:K}{xs:N Lx}(h:Lc p k f n xs)(c:Tp u a)(hv:Tp v b)(e:f=u*v):Cg p u (D (u a)*pl (own p u xs))/\Mn (pl<|own p u xs) a:=by
 have⟨t,G⟩:=zo h.hp;have fu:=c.fs;have o:=hv.fs;have w:a+b=n:=by
  have:=c.mul hv;rw[<-e]at this;exact this.uniq h.tp
 have y:f n=u a*v b:=by rw[<-w,e,Jz c.2 hv.2]
 have z:SX p u xs=own p v xs:=h.oth_own fu o (b:=a+1) (λj H=>c.2 j W) (by have:=h.nb;lia) e;have⟨α,i,h1⟩:=h.odv fu;have⟨β,l,A⟩:=h.odv o;have⟨d0,B⟩:=zhr h.el;have r:=(zb0 p u xs).2;rw[z]at r;have C:Cg p ((α*β-D (f n))*pl xs) (D 0):=by
  rw[qw];refine Cg.iff_sub.1<|Cg.trans ?_ h.lcp;rw[e];refine Cg.trans (Cg.of ?_) (h1.mul A).symm;rw[r,zd α,zd α,zB (pl<|own p u xs) β]
 have E:=B.zero t ((i.mul l).subt<|Fs.pc _) λj _=>by rw[C j,zH,xah]
 have s:¬p∣f n:=λhd=>h.lc<|xav hd;have⟨x,F⟩:=zbn h.hp i l (Cg.iff_sub.2 E) s;have m:Cg p u (D x*pl (own p u xs)):=h1.trans<|F.mul Cg.rfl;have⟨d,hd⟩:=zhr<|Dw h u;have hc:¬p∣u a:=λhd=>s (by rw[y];exact xbx hd<|xcl _ _);have t1:=m a;have t2:=m d;rw[zS]at t1 t2;rw[hd.1,xck]at t2;have hi:a=d:=by
  by_cases c1:a<d
  ·exfalso;rw[c.2 d c1,xah]at t2;refine hc<|xaF ?_;rw[t1,xbc,<-t2,xaP,xah]
  ·by_cases c2:d<a
   ·exfalso;rw[hd.2 a c2,xaC,xah]at t1;exact hc<|xaF t1
   ·lia
 subst hi;refine⟨m.trans<|Cg.mul (λj=> ?_) Cg.rfl,hd⟩;unfold D;split
 ·exact t2.symm
 ·rfl
theorem Lc.up{n:K}{xs:N Lx}(h:Lc p k f n xs)(i:Tp u a)(hv:Tp v b)(e:f=u*v):Cg (p^k) u (D (u a)*pu (own p u xs)):=by
 have⟨R,p2⟩:=zo h.hp;have fu:=i.fs;have s:=hv.fs;have hp:a+b=n:=by
  have:=i.mul hv;rw[<-e]at this;exact this.uniq h.tp
 have t:f n=u a*v b:=by rw[<-hp,e,Jz i.2 hv.2]
 have hl:¬p∣f n:=λhd=>h.lc<|xav hd;have S:u a%p≠0:=λhd=>hl (by rw[t];exact xbx (xaF hd)<|xcl _ _);have T:v b%p≠0:=λhd=>hl (by rw[t];exact xbx (xaF hd)<|xcL _ _);have U:SX p u xs=own p v xs:=h.oth_own fu s (b:=a+1) (λj m=>i.2 j W) (by have:=h.nb;lia) e;have⟨l1,m1⟩:=h.loc i hv e;have⟨V,m2⟩:=h.loc hv i (by rw[e,zk]);have⟨w,o⟩:=rQ h.hp S k;have⟨z,P⟩:=rQ h.hp T k;have C:=kT (p:=p) h.k1;have one:∀{M c d:J},M∣c*d-1->Cg M (D c*D d) (D 1):=λ{M c d} hd j=>by
  rw[kH];unfold D;split
  ·exact xaI.2<|xav hd
  ·rfl
 have Y:∃A:Pz,Mn A a/\Fs A/\Cg (p^k) A (D w*u):=by
  refine⟨λj=>if j=a then 1 else w*u j,⟨iq O,λj m=> ?_⟩,⟨a+1,λj m=> ?_⟩,λj=> ?_⟩
  ·show(if j=a then(1:J)else w*u j)=0;rw[zA,i.2 j m,xaC]
  ·show(if j=a then(1:J)else w*u j)=0;rw[zA,i.2 j W,xaC]
  ·show(if j=a then(1:J)else w*u j)%_=_;rw[zS];by_cases c:j=a
   ·rw[iq c,c];exact(xaI.2<|xav o).symm
   ·rw[ir c]
 have⟨A,E,fA,F⟩:=Y;have⟨l,G⟩:=zo6<|Dw h u;have H:=Ow<|Dw h u;have hs:=Ow<|Dw h v;have r:Cg p A (pl<|own p u xs):=by
  refine(F.down C).trans<|(Cg.rfl.mul l1).trans ?_;rw[<-zd];exact(Cg.mul (one<|xbx C o) Cg.rfl).trans<|Cg.of<|zC _
 have cv:Cg p (D z*v) (pl<|own p v xs):=by
  refine(Cg.rfl.mul V).trans ?_;rw[<-zd];exact(Cg.mul (one<|xbx C P) Cg.rfl).trans<|Cg.of<|zC _
 have mu:Mn (pu<|own p u xs) a:=by
  have t1:=(H.trans r.symm) a;have t2:=(H.trans r.symm) l;rw[E.1]at t1;rw[G.1]at t2;have Q:(1:J)%p=1:=xaD iI W;have:l=a:=by
   by_cases c1:l<a
   ·rw[G.2 a c1,xah,Q]at t1;cases t1
   ·by_cases c2:a<l
    ·rw[E.2 l c2,xah,Q]at t2;cases t2
    ·lia
  rw[<-this];exact G
 have hm:qB p (pl<|own p u xs) (pl<|own p v xs):=by
  have:=IK (p:=p) (A:=(own p u xs).map (·.2)) (B:=(own p v xs).map (·.2)) λc hc d hd=>by
   obtain⟨x,hx,rfl⟩:=xap.1 hc;obtain⟨y,hy,rfl⟩:=xap.1 hd;have L:=aU.1 hx;have hn:=aU.1 hy;have⟨_,i1,i2⟩:=h.el x L.1;have⟨_,i3,i4⟩:=h.el y hn.1;refine i1.cop h.hp i3 W W λee=> ?_;have:=(h.or fu s (b:=a+1) (λj m=>i.2 j W) (by have:=h.nb;lia) e L.1).2;exact this ⟨L.2,by rw[ee];exact hn.2⟩
  rw[xcP,xcP]at this;exact this
 have hi:Cg (p^k) (A*(D z*v)) (pu (own p u xs)*pu (own p v xs)):=by
  have e1:=(zb0 p u xs).1;rw[U]at e1;rw[<-e1];refine(F.mul Cg.rfl).trans ?_;have e2:D w*u*(D z*v)=D w*(D z*f):=by rw[e,zd,zB u (D z) v]
  rw[e2];refine(Cg.mul Cg.rfl<|Cg.mul Cg.rfl h.cg).trans ?_;have e3:D w*(D z*(D (f n)*pu xs))=(D w*D (u a))*((D z*D (v b))*pu xs):=by
   rw[t,<-zd,<-zd,<-zd,kH,kH,kH,kH,kH];congr 2;grind
  rw[e3];exact(Cg.mul (one o)<|(Cg.mul (one P) Cg.rfl).trans<|Cg.of<|zC _).trans<|Cg.of<|zC _
 have⟨r1,_⟩:=RL R E mu fA (zlm _) ((Fs.pc z).mul s) (zlm _) (hm.congr r.symm cv.symm) (r.trans H.symm) (cv.trans hs.symm) k hi;refine Cg.trans ?_<|Cg.rfl.mul r1;refine Cg.trans ?_<|Cg.rfl.mul F.symm;rw[<-zd];refine Cg.symm<|(Cg.mul (one (d:=w) ?_) Cg.rfl).trans<|Cg.of<|zC _;rw[xbg];exact o
def Lc.step{n:K}{xs:N Lx}(h:Lc p k f n xs)(c:Tp g a)(d:Tp q b)(o:0<g a)(e:f=q*g):Lc p k q b (SX p g xs):=by
 have i:f=g*q:=by rw[e,zk]
 have hc:a+b=n:=by
  have:=c.mul d;rw[<-i]at this;exact this.uniq h.tp
 have l:f n=g a*q b:=by rw[<-hc,i,Jz c.2 d.2]
 have r:=h.oth_own c.fs d.fs (b:=a+1) (λj s=>c.2 j W) (by have:=h.nb;lia) i;have m:=h.ps;rw[r];refine⟨h.hp,h.k1,Dw h q,h.pcop,d,by have:=h.nb;lia,?_,λhd=> ?_,?_,h.up d c e⟩
 ·rw[l]at m;exact Int.pos_of_mul_pos_right m o
 ·exact h.lc<|by rw[l];exact xav<|xbx (xaF hd)<|xcL _ _
 ·have:=h.pm;rw[e]at this;exact this.left
def Lc.pick{n:K}{xs S:N Lx}(h:Lc p k f n xs)(o:∀x∈S,x∈xs)(H:Tp g a)(hq:Tp q b)(e:f=g*q){γ:J}(hc:Cg p (D γ*g) (D (f n)*pl S)){x:Lx}(r:x∈xs):Di p (U x.2) g↔x∈S:=by
 obtain⟨s,p2⟩:=zo h.hp;have C:¬p∣f n:=λhd=>h.lc<|xav hd;have l:=λy i=>h.el y<|o y i;obtain⟨d,hd⟩:=zhr l;have m:¬p∣γ:=λL=>C (by
  have t:=hc d;rw[zS,zS,hd.1,xck]at t;refine xaF ?_;rw[<-t];exact xav<|xbx L<|xcl _ _)
 obtain⟨_,i1,i2⟩:=h.el x r;have j:∀{c:J}{y:Pz},¬p∣c->Fs y->Di p (U x.2) (D c*y)->Di p (U x.2) y:=λ{c y} hc M hd=>by
  rcases i1.or' h.hp W (f:=D c) (n:=1) (λk hk=>by unfold D;rw[zA]) iI with h1|h1
  ·exact wS (i1.const s h1) hc
  ·exact Di.euclid M h1 hd
 constructor
 ·intro h1;have P:Di p (U x.2) (pl S):=j C (zoM S)<|(h1.mul (D γ)<|Fs.pc γ).cg hc;have Q:=i1.mem h.hp (us:=S.map (·.2)) W (λw R=>by
   obtain⟨y,i,rfl⟩:=xap.1 R;obtain⟨_,T,j2⟩:=l y i;exact⟨T,W⟩) (by rw[xcP];exact P)
  obtain⟨y,i,V⟩:=xap.1 Q;have:x=y:=by
   by_cases E:x=y
   ·exact E
   ·exfalso;have Kc:=h.pw;have F:qB p (U x.2) (U y.2):=by
     obtain⟨A,B,Y⟩:=xeg r;have G:=o y i;rw[Y]at G Kc;rw[xdi,xdC]at Kc;obtain h4|h4:=So.1 G
     ·exact(Kc.2.2 y h4 x<|FS).symm
     ·obtain h5|h5:=xag.1 h4
      ·exact wS h5.symm E
      ·exact Kc.2.1.1 y h5
    rw[V]at F;exact i1.self s F
  rw[this];exact i
 ·intro h1;refine j m H.fs<|Di.cg ?_ hc.symm;exact(aJ (λy i=>by obtain⟨z,_,rfl⟩:=xap.1 i;exact Fs.ci _)<|xbK (f:=λx:Lx=>(U x.2:Pz)) h1).mul _<|Fs.pc _
end
section
variable{f u v g q:Pz}{p:wl}{k N:wr}{xs:xS Lx}{a:xS wl}
theorem zp6{α:Type}{P Q R:α->v6}:∀{l:xS α},(∀x∈l,P x=I->R x=I)->(∀x∈l,Q x=I->R x=I)->(∀x∈l,¬(P x=I/\Q x=I))->X (l.filter P)+X (l.filter Q)<=X (l.filter R)
 |[],_,_,_=>IR _
 |x::l,h1,c,d=>by
  have e:=zp6 (λy b=>h1 y<|UV _ b) (λy b=>c y<|UV _ b) λy b=>d y<|UV _ b;grind
def Ls(p:J)(f:Pz)(xs:xS Lx)(c:K):Prop:=∀u v,Fs u->Fs v->f=u*v->¬Cp u->c<=X (own p u xs)
def VX(c:Nz f)(e:f=u*v):Nz u/\Nz v:=by
 have⟨k,b⟩:=c;rw[e]at b;exact⟨xai λhn=>b (xk λi _=>by rw[Nz.not hn i,xaP]),xai λhn=>b<|xk λi _=>by rw[Nz.not hn _,xaC]⟩
def Ls.one{n:K}(h:Lc p k f n xs):Ls p f xs 1:=λu v fu i e j=>by
 have⟨l,A⟩:=VX h.tp.nz e;have⟨a,c⟩:=Tp.ex fu l;have⟨b,m⟩:=Tp.ex i A;have⟨_,d⟩:=h.loc c m e
 cases o:own p u xs with
 |nil=>
  exfalso;rw[o]at d;have h1:=d.1;refine j<|(Cp.tp c).2<|xai λh0=> ?_;rw[show pl [] a=0 from ir h0]at h1;cases h1
 |cons x r=>exact Nat.succ_le_succ<|xac _
def Ls.two{w:Pz}{n:K}(h:Lc p k f n xs)(fu:Fs u)(c:Fs v)(d:Fs w)(e:f=u*v*w):X (own p u xs)+X (own p v xs)<=X (own p (u*v) xs):=by
 classical
 have⟨n1,nw⟩:=VX h.tp.nz e;have⟨l,A⟩:=VX n1 O;have⟨a,i⟩:=Tp.ex fu l;have⟨b,m⟩:=Tp.ex (c.mul d)<|Nz.mul c d A nw;have hc:a+b=n:=by
  have:=i.mul m;rw[<-zd,<-e]at this;exact this.uniq h.tp
 refine zp6 (λx _ h1=> ?_) (λx _ h1=> ?_) λx o ⟨h1,r⟩=> ?_
 ·refine Z0 ?_;rw[zk];exact(Wf h1).mul v c
 ·exact Z0<|(Wf h1).mul u fu
 ·refine(h.or fu (c.mul d) (b:=a+1) (λj s=>i.2 j W) (by have:=h.nb;lia) (by rw[e,zd]) o).2 ⟨Wf h1,?_⟩;rw[zk];exact(Wf r).mul w d
def Ls.ir{n c:K}(h:Lc p k f n xs)(hl:Ls p f xs c)(hc:1<=c)(i:Fs g)(fq:Fs q)(e:f=g*q)(pm:Pm g)(j:¬Cp g)(hn:X (own p g xs)<2*c):Ir g:=by
 refine⟨i,pm,j,λu v fu b l=>xai λd=> ?_⟩;have m:=λh=>d (.inl h);have cv:=λh=>d (.inr h);subst l;have h1:=hl u (v*q) fu (b.mul fq) (by rw[e,zd]) m;have o:=hl v (u*q) b (fu.mul fq) (by rw[e,zd,zB]) cv;have r:=Ls.two h fu b fq e;lia
def Ls.step{n c:K}(h:Lc p k f n xs)(hl:Ls p f xs c)(d:Fs g)(fq:Fs q)(e:f=q*g):Ls p q (SX p g xs) c:=λu v fu i m o=>by
 classical
 subst m;have h1:=hl u (v*g) fu (i.mul d) (by rw[e,zd]) o;have⟨n1,r⟩:=VX h.tp.nz e;have⟨a,l⟩:=Tp.ex d r;have⟨b,s⟩:=Tp.ex fq n1;have hc:b+a=n:=by
  have:=s.mul l;rw[<-e]at this;exact this.uniq h.tp
 have:own p u (SX p g xs)=own p u xs:=by
  unfold own SX;rw[List.filter_filter];refine List.filter_congr λx t=> ?_;by_cases hd:Di p (U x.2) u
  ·have w:=(h.or d fq (b:=a+1) (λj z=>l.2 j W) (by have:=h.nb;lia) (by rw[e,zk]) t).2;rw[Z0 hd,uT λy=>w ⟨y,by rw[zk];exact hd.mul v i⟩];rfl
  ·simp_all
 simp_all
structure BG(N c:K)(a:xS J):Prop where
 ln:a.length=c
 lo:∀i,i<c->(i:J)<=U a i
 hi:∀i,i<c->U a i+c<=N+i
 st:∀i,i+1<c->U a i<U a (i+1)
def Lt(f g:K->J)(c:K):Prop:=∃j,j<c/\f j<g j/\∀k,k<j->f k=g k
def Fw(f g:K->J)(c:K):(∀k,k<c->f k=g k)\/Lt f g c\/Lt g f c:=by
 by_cases h:∃k,k<c/\f k≠g k
 ·have⟨j,⟨d,m⟩,i⟩:=zlP h;have e:=λk b=>xai λhn=>i k b ⟨W,hn⟩;by_cases l:f j<g j
  ·exact .inr (.inl ⟨j,d,l,e⟩)
  ·exact .inr (.inr ⟨j,d,W,λk b=>(e k b).symm⟩)
 ·simp_all
theorem Lt.asy{f g:K->J}{c:K}(h:Lt f g c)(b:Lt g f c):V3:=by
 have⟨i,i1,i2,d⟩:=h;have⟨j,l,m,n⟩:=b;by_cases e:i<j
 ·simp_all
 ·grind
def nxA(c k:K)(a:xS J):xS J:=zl c λi=>if i<k then U a i else U a k+1+((i:J)-k)
theorem BG.up{N c:K}{T:xS J}(b:BG N c T){i:K}:∀d,i+d<c->U T i+d<=U T (i+d)
 |0,_=>by rw[xbO];lia
 |d+1,h=>by
  have h1:=b.up (i:=i) d W;have e:=b.st (i+d) W;grind
def Uu{c:K}{i:K}(h:i<c:=by lia):U (nxA c k a) i=if i<k then U a i else U a k+1+((i:J)-k):=jh h
theorem BG.next{c:K}(h:BG N c a)(b:k<c)(h1:U a k+c<N+k):BG N c (nxA c k a):=by
 refine⟨zD _ _,λi hi=> ?_,λi hi=> ?_,λi hi=> ?_⟩
 ·rw[Uu hi];have:=h.lo i hi;have:=h.lo k b;lia
 ·rw[Uu hi];have:=h.hi i hi;lia
 ·rw[Uu,Uu hi];by_cases e:i+1<k
  ·rw[zP,iq e];exact h.st i hi
  ·by_cases d:i<k
   ·have:=h.st i hi;grind
   ·lia
def zo5{c:K}{T:xS J}(l:BG N c T)(r:k<c)(n:∀i,k<i->i<c->U a i+c=N+i)(h:Lt (U a) (U T) c):(∀i,i<c->U (nxA c k a) i=U T i)\/Lt (U<|nxA c k a) (U T) c:=by
 have⟨j,b,o,m⟩:=h;have s:j<=k:=by
  by_cases e:j<=k
  ·exact e
  ·have:=n j W b;have:=l.hi j b;lia
 by_cases e:j<k
 ·exact .inr ⟨j,b,by rw[Uu b,iq e];exact o,λi hi=>by rw[Uu,zP];exact m i hi⟩
 ·obtain rfl:j=k:=W
  rcases Fw (U<|nxA c j a) (U T) c with h1|h1|h1
  ·simp_all
  ·simp_all
  ·exfalso;have⟨i,i1,i2,t⟩:=h1;rw[Uu i1]at i2;by_cases d:i<j
   ·rw[iq d,m i d]at i2;lia
   ·rw[ir d]at i2;have:=l.up (i:=j) (i-j) W;rw[(W:j+(i-j)=i)]at this;lia
def msr(N:K)(f:K->J):K->K
 |0=>0
 |n+1=>msr N f n*(N+1)+(N-(f n).toNat)
def zeM(N:K)(f:K->J):∀n,msr N f n+1<=(N+1)^n
 |0=>IR _
 |n+1=>by
  have b:=xan (N+1)<|zeM N f n;rw[xaX]at b;show msr N f n*(N+1)+(N-(f n).toNat)+1<=(N+1)^n*(N+1);lia
def zgF{N:K}{f g:K->J}:∀n,(∀k,k<n->f k=g k)->msr N f n=msr N g n
 |0,_=>rfl
 |n+1,h=>by
  show msr N f n*(N+1)+_=msr N g n*(N+1)+_;rw[zgF n λk b=>h k W,h n W]
def zhF{N:K}{f g:K->J}{j:K}(h0:∀k,k<j->f k=g k)(h1:0<=g j)(b:f j=g j+1)(c:f j<=N):∀d,msr N f (j+1+d)+1<=msr N g (j+1+d)
 |0=>by
  show msr N f j*(N+1)+_+1<=msr N g j*(N+1)+_;rw[zgF j h0];lia
 |d+1=>by
  have e:=xan (N+1)<|zhF h0 h1 b c d;rw[xaX]at e;show msr N f (j+1+d)*(N+1)+(N-(f<|j+1+d).toNat)+1<=msr N g (j+1+d)*(N+1)+(N-(g<|j+1+d).toNat);lia
end
section
variable{B R Q:Pz}{la lb ql K J fu:wr}{b a:xS Zr}
structure DvZ(A B Q R:Pz)(la lb n ql K J:wr):Prop where
 eq:A=Q*B+R
 q1:∀k,k<n->Q k=0
 q2:∀k,ql<=k->Q k=0
 r:∀k,n+(lb-1)<=k->R k=0
 bz:∀k,Bz (K+(ql-n)*(J+1))<|R k
 bq:∀k,Bz (K+(ql-n)*(J+1))<|Q k
def LR{n m:wr}(e:Tp B m)(h:Zd B R)(g:∀k,n+m<=k->R k=0):∃w:Pz,R=w*B/\∀k,n<=k->w k=0:=by
 obtain⟨w,f,rfl⟩:=h;refine⟨w,O,?_⟩;by_cases nw:Nz w
 ·have⟨d,hd⟩:=Tp.ex f nw;have h1:=(hd.mul e).1;intro k i;refine hd.2 k ?_;by_cases c:d<n
  ·lia
  ·simp_all
 ·exact λk _=>Nz.not nw k
def DvZ.step{A:Pz}{n:wr}(h:DvZ A B Q R la lb (n+1) ql K J)(f:Tp B (lb-1))(hn:n+1<=ql){c:wl}(hc:R (n+(lb-1))=c*B (lb-1))(j:∀k,Bz J<|B k):
 DvZ A B (Ya Q n c) (λk=>R k-c*sh B n k) la lb n ql K J:=by
 have g:Bz (K+(ql-(n+1))*(J+1)) c:=(h.bz<|n+(lb-1)).le (by
  rw[hc,xcK];exact xcm _ (by have:=f.1;lia))
 have i:K+(ql-n)*(J+1)=K+(ql-(n+1))*(J+1)+J+1:=by rw[(W:ql-n=ql-(n+1)+1),xaX];lia
 have e1:Ya Q n c=Q+mono n c:=qR λk=>by
  rw[zI];unfold Ya mono;by_cases e:k=n
  ·rw[iq e,iq e,e,h.q1 n W];lia
  ·lia
 refine⟨?_,λk d=> ?_,λk d=> ?_,λk d=> ?_,λk=> ?_,λk=> ?_⟩
 ·rw[e1,ym];funext k;have:=Wr h.eq k;rw[zI]at this;rw[zI,zI,qI];show _=_+_+(R k-c*sh B n k);lia
 ·unfold Ya;rw[zA];exact h.q1 k W
 ·unfold Ya;rw[zA];exact h.q2 k d
 ·show R k-c*sh B n k=0;unfold sh;rw[zP];by_cases e:k=n+(lb-1)
  ·rw[e,hc,(W:n+(lb-1)-n=lb-1)];lia
  ·rw[h.r k W,f.2 _ W];lia
 ·rw[i];refine Bz.sub ((h.bz k).mono W)<|g.mul ?_;unfold sh;split
  ·exact j _
  ·exact Bz.zero _
 ·rw[i];unfold Ya;split
  ·exact g.mono W
  ·exact(h.bq k).mono W
def zkL{n:wr}{c:wl}(d:yI J b)(o:X b=lb)(hn:n+lb<=la)(hl:la<=1000)(i:∀k,Bz K<|R k)(hc:Bz K c)(p:K+J+1<=40000)(f:3000000<=fu):
 zg (Uk fu (n:wl) b) fu ((0:wl),b,zi la R,zi ql Q,ya c)=Z (b,zi la<|λk=>R k-c*sh (H b) n k,zi ql Q):=by
 refine zw (λs:wl×N M×N M×N M×M=>∃j:wr,j<=lb/\s=((j:wl),b,zi la (λk=>if k<n+j then R k-c*sh (H b) n k else R k),zi ql Q,ya c)) (λs=>lb-s.1.toNat) _ ?_ _ _ ⟨0,xac _,?_⟩ (by show lb-0<fu;lia)
 ·rintro s L ⟨j,q,rfl⟩ l;unfold Uk;simp only;by_cases h1:j<lb
  ·rw[zP,Y O];simp only[uP];have hd:=d.get j;rw[yj,ze,(W:(n:wl)+(j:wl)=((n+j:wr):wl)),zb,zb,zp (by rw[yh];lia),ze,YB W,zA,Y<|yB (hc.ok W) (cX.of hd W) f,zn,YI];have m:Bz (K+J) (c*H b j):=hc.mul<|d.bz j;rw[Y<|jA ((i _).ok W) (m.ok W) f,zn,zn,zp (by rw[yh];lia),ze,bH,zb];refine l _ ⟨j+1,W,?_⟩ (by show lb-((j:wl)+1).toNat<lb-(j:wl).toNat;lia);rw[(W:((j:wl)+1)=((j+1:wr):wl))];refine xfj O<|xfj O<|xfj ?_ O;refine xd λk g=> ?_;unfold Ya;by_cases e:k=n+j
   ·rw[iq e,zP,e];unfold sh;rw[zP,(W:n+j-n=j)]
   ·rw[ir e];show(if k<n+j then R k-c*sh (H b) n k else R k)=_;by_cases h:k<n+j
    ·rw[iq h,zP]
    ·rw[ir h,zA]
  ·rw[zA,Y O];simp only[xar,uS];obtain rfl:j=lb:=W
   refine kW Z<|xfj O<|xfj ?_ O;refine xd λk g=> ?_;by_cases e:k<n+j
   ·rw[iq e]
   ·rw[ir e];unfold sh;rw[zP,zX W];lia
 ·refine xfj O<|xfj O<|xfj ?_ O;refine xd λk g=> ?_;by_cases e:k<n+0
  ·rw[iq e];unfold sh;rw[zA];lia
  ·rw[ir e]
def znY(a:N M):zZ a=zi (X (zZ a)) (H a):=by
 have h:zZ a=zi (dg (H a) (X a)) (H a):=O;rw[show(zZ a).length=dg (H a) (X a) from xv _ _];exact h
def YD(h:X (zZ a)≠0):Tp (H a) (X (zZ a)-1):=by
 have h1:=YA (aQ a) h;rw[kS]at h1;exact⟨h1,λk c=>by rw[<-kS];exact zX W⟩
def W1(h:X (zZ a)=0)(k:wr):H a k=0:=by rw[<-kS];exact zX W
def JX(F:yI K a)(y:yI J b)(hK:K+(X a+1)*(J+1)<=30000)(hH:X a<=1000)(hJ:X b<=1000)(h0:X (zZ b)≠0)(o:3000000<=fu):
 ∃q e,wz fu a b=Z (q,e)/\(e=0↔Zd (H b) (H a))/\(e=0->(H a:Pz)=H q*H b/\zZ q=q/\X q<=X a):=by
 have hn:=Ua y;have hL:=qg b;have hM:=qg a;have l:=YD h0;have hN:J+1<=(X a+1)*(J+1):=xdm _ W;have⟨la,hi⟩:∃la,la=X (zZ a):=⟨_,O⟩;have⟨lb,t⟩:∃lb,lb=X (zZ b):=⟨_,O⟩;have⟨ql,hO⟩:∃ql,ql=la+1-lb:=⟨_,O⟩;have u:=znY a;rw[<-hi]at u;rw[<-t]at l h0;unfold wz;rw[Y<|zM F W W o,Y<|zM y W W o,show xJ (X a) (H a)=zZ a from O,show xJ (X b) (H b)=zZ b from O,<-hi,<-t,zA];by_cases hP:0<la/\la<lb
 ·rw[Y (v:=Sum.inr ())<|by rw[zP,zP]];refine⟨[],4,O,⟨λh=>wS h iI,λh=> ?_⟩,λh=>wS h iI⟩;exfalso;have z:=YD (a:=a) W;rw[<-hi]at z;have⟨w,p,w0⟩:=LR (n:=0) l h λk A=>z.2 k W;exact z.1<|by rw[p,vK,xk λi _=>by rw[w0 i W,xaP]]
 ·rw[Y (v:=Sum.inl ()) (by
   by_cases h1:0<la
   ·rw[zP,zA]
   ·rw[zA])]
  simp only;have hp:max ((la:wl)-lb+1) 0=(ql:wl):=W
  rw[zb,zb,ze,hp,yJ,yL,ze,aR,yh,zb]
  have⟨s,C,hQ⟩:=yr (f:=Uj fu) (λs:wl×N M×N M×N M=>∃(n:wr) (Q R:Pz),n<=ql/\s=((n:wl)-1,zZ b,zi la R,zi ql Q)/\DvZ (H a) (H b) Q R la lb n ql K J) (λs=>(s.1+1).toNat)
   (λr=>(∃Q R:Pz,r=.inl (zi la R,zi ql Q)/\DvZ (H a) (H b) Q R la lb 0 ql K J)\/(r=.inr 4/\¬Zd (H b) (H a))) (by
   rintro s L ⟨n,Q,R,hx,rfl,d⟩ ih
   unfold Uj
   simp only
   cases n with
   |zero=>
    rw[zA]
    exact⟨_,O,.inl ⟨Q,R,O,d⟩⟩
   |succ n=>
    have hy:(ql-(n+1))*(J+1)<=(X a+1)*(J+1):=xan _ W
    have hG:(ql-(n+1))*(J+1)+(J+1)<=(X a+1)*(J+1):=by
     have:=xan (J+1) (W:ql-(n+1)+1<=X a+1);rw[xaX,xbN]at this;exact this
    have hl:=d.bz
    rw[(W:((n+1:wr):wl)-1=(n:wl)),zP,<-t,zb,(W:(n:wl)+(lb:wl)-1=((n+(lb-1):wr):wl)),zb,zp (by rw[yh];lia),ze,YB W,(W:(lb:wl)-1=((lb-1:wr):wl)),zb,yj,ze]
    have G:=hn.get<|lb-1
    rw[Y<|VW ((hl _).okS W) ⟨G.1,by have:=G.2;lia⟩ o,zn,YI,kS]
    simp only
    have P:=l.1
    have x:exE (R<|n+(lb-1)) (H b<|lb-1)=if R (n+(lb-1))%H b (lb-1)=0 then 0 else 4:=by unfold exE;rw[ir P]
    have S:exI (R<|n+(lb-1)) (H b<|lb-1)=if R (n+(lb-1))%H b (lb-1)=0 then R (n+(lb-1))/H b (lb-1)else 0:=by unfold exI;rw[ir P]
    by_cases hd:R (n+(lb-1))%H b (lb-1)=0
    ·rw[iq hd]at x S
     have⟨c,T⟩:∃c,c=R (n+(lb-1))/H b (lb-1):=⟨_,O⟩
     have hc:R (n+(lb-1))=c*H b (lb-1):=by rw[T,xeW<|xaF hd]
     have hA:Bz (K+(ql-(n+1))*(J+1)) c:=(hl<|n+(lb-1)).le (by
      rw[hc,xcK];exact xcm _ W)
     rw[x,S,<-T,iq O,zp (by rw[yh];lia),ze,bH,Y<|zkL hn t.symm W W hl hA W o]
     simp only
     rw[zb]
     have C:=d.step l hx hc y.bz
     have e:(λk=>R k-c*sh (H<|zZ b) n k)=λk=>R k-c*sh (H b) n k:=by rw[show H (zZ b)=H b from qR (kS b)]
     rw[e]
     exact ih _ ⟨n,_,_,W,O,C⟩ (by show((n:wl)-1+1).toNat<(((n+1:wr):wl)-1+1).toNat;lia)
    ·rw[ir hd]at x
     rw[x,ir iI]
     refine⟨_,O,.inr ⟨O,λu=>hd ?_⟩⟩
     have D:Zd (H b) R:=by
      have e:R=(H a:Pz)-Q*H b:=qR λk=>by
       have:=Wr d.eq k;rw[zI]at this;rw[yY];lia
      rw[e];exact u.sub ⟨Q,⟨ql,d.q2⟩,O⟩
     have⟨w,p,w0⟩:=LR (n:=n+1) l D d.r
     have:=Jz (f:=w) (g:=H b) (n:=n) (m:=lb-1) (λk A=>w0 k W) l.2
     rw[<-p]at this
     rw[this,Int.mul_emod_left]) fu ((ql:wl)-1,zZ b,zZ a,zi ql λ_=>0) ⟨ql,λ_=>0,H a,IR _,by rw[u],⟨qR λk=>by
    rw[zI,vK,xk λi _=>xaP _,xco],λ_ _=>O,λ_ _=>O,λk A=>by
    by_cases e:la=0
    ·exact W1 W k
    ·rw[<-kS];exact zX W,λk=>(F.bz k).mono W,λk=>Bz.zero _⟩⟩ (by show((ql:wl)-1+1).toNat<fu;lia)
  rw[Y C];rcases hQ with⟨Q,R,rfl,d⟩|⟨rfl,hB⟩
  ·have hy:(ql-0)*(J+1)<=(X a+1)*(J+1):=xan _ W;have hC:yI 30000 (zi la R):=YM λj=>(d.bz j).mono W;have hD:yI 30000 (zi ql Q):=YM λj=>(d.bq j).mono W;have hv:∀k,la<=k->R k=0:=λk A=>by
    by_cases e:la=0
    ·have h1:=Wr d.eq k;rw[zI,vK,xk (n:=k+1) λi _=>by rw[d.q2 i W,xaP],W1 W]at h1;lia
    ·exact d.r k W
   simp only;rw[Y<|zM hC iI (by rw[yh];lia) o,yh,sY];by_cases hr:X (xJ la R)=0
   ·have E:∀k,R k=0:=λk=>by rw[<-jz hv k];exact zX W
    have hF:(H (xJ ql Q):Pz)=Q:=qR λk=>jz d.q2 k;have U:(H a:Pz)=H (xJ ql Q)*H b:=by
     rw[hF];funext k;have:=Wr d.eq k;rw[zI,E k,xbF]at this;exact this
    rw[zA,Y<|zM hD iI (by rw[yh];lia) o,yh,sY];refine⟨_,0,O,⟨λ_=>⟨_,Fs.cf _,U⟩,λ_=>O⟩,λ_=>⟨U,(qc _ _).symm,?_⟩⟩;rw[xv];have:=vT Q ql;lia
   ·rw[zP];refine⟨[],4,O,⟨λh=>wS h iI,λh=> ?_⟩,λh=>wS h iI⟩;exfalso;have e:R=(H a:Pz)-Q*H b:=qR λk=>by
     have:=Wr d.eq k;rw[zI]at this;rw[yY];lia
    have D:Zd (H b) R:=by
     rw[e];exact h.sub ⟨Q,⟨ql,d.q2⟩,O⟩
    have⟨w,p,w0⟩:=LR (n:=0) l D d.r;have E:∀k,R k=0:=λk=>by rw[p,vK,xk λi _=>by rw[w0 i W,xaP]]
    have V:=YA (qc la R) hr;rw[jz hv]at V;exact V<|E _
  ·exact⟨[],4,O,⟨λh=>wS h iI,λh=>wS h hB⟩,λh=>wS h iI⟩
theorem A1(c:yI K a)(d:yI J b)(e:K<=40000)(f:J<=40000)(hc:X a<=1000)(hd:X b<=1000)(h0:X (zZ b)=0)(g:3000000<=fu):wz fu a b=Z ([],3):=by grind [wz,zZ,Y,zM]
end
section
variable{N fu:wr}{a:xS wl}
def BG.ext{c:K}{b:xS J}(d:BG N c a)(e:BG N c b)(h:∀k,k<c->U a k=U b k):a=b:=by
 rw[<-RE a,<-RE b,d.ln,e.ln];exact yF h
theorem Gp{c:K}(hc:c<=1000)(f:3000000<=fu):zg (λL (z:xS J×J)=>
 if z.2<(X (zl c λ_=>0):J)then
  zG z.2 (X z.1) λj=>
  C (z.1.set j z.2) λxs=>
  E (z.2+1) λi=>L (xs,i)
 else Z z.1) fu (zl c λ_=>0,0)=Z (zl c λi=>(i:J)):=by
 refine zw (λs:xS J×J=>∃j:K,j<=c/\s=(zl c (λk=>if k<j then(k:J)else 0),(j:J))) (λs=>c-s.2.toNat) _ ?_ _ _ ⟨0,xac _,?_⟩ (by show c-0<fu;lia)
 ·rintro s L ⟨j,g,rfl⟩ d
  simp only[zD]
  by_cases h1:j<c
  ·rw[zP,zp h1,Q,uC,zb]
   refine d _ ⟨j+1,W,?_⟩ (by show c-((j:J)+1).toNat<c-(j:J).toNat;lia)
   refine xfj (yF λk b=> ?_) O
   unfold Ya
   by_cases e:k=j
   ·lia
   ·grind
  ·rw[zA]
   obtain rfl:j=c:=W
   exact kW Z<|yF λk b=>iq b
 ·exact xfj (yF λk b=>(ir<|xbC k).symm) O
def LV{c:K}(b:BG N c a)(o:N<=1000)(p:3000000<=fu):
 ∃i:J,zg (λL i=>
 if 0<=i then
  zG i (X a) λj=>
  C (a.getD j 0) λy=>
  E ((N:J)-c) λe=>
  E (e+i) λe=>
  if y=e then E (i-1) λi=>L i
  else Z i
 else Z i) fu ((c:J)-1)=Z i/\ -1<=i/\i<c/\(∀j:K,i<j->j<c->U a j+c=N+j)/\∀k:K,i=k->U a k+c<N+k:=by
 have q:c<=N\/c=0:=by
  by_cases h:c=0
  ·lia
  ·have:=b.hi 0 W;have:=b.lo 0 W;exact .inl W
 have⟨r,h1,l⟩:=yr (f:=λL (i:J)=>
  if 0<=i then
   zG i (X a) λj=>
   C (a.getD j 0) λy=>
   E ((N:J)-c) λe=>
   E (e+i) λe=>
   if y=e then E (i-1) λi=>L i
   else Z i
  else Z i) (λi:J=> -1<=i/\i<c/\∀j:K,i<j->j<c->U a j+c=N+j) (λi=>(i+1).toNat) (λi=> -1<=i/\i<c/\(∀j:K,i<j->j<c->U a j+c=N+j)/\∀k:K,i=k->U a k+c<N+k) (by
   rintro i L ⟨i1,i2,d⟩ m;by_cases h0:0<=i
   ·obtain⟨k,rfl⟩:=xaz h0;have hd:=b.ln;rw[iq h0,yj,Q,zb,zb,ZZ];by_cases e:U a k=(N:J)-c+k
    ·rw[iq e,zb];refine m _ ⟨W,W,λj g hc=> ?_⟩ W;by_cases n:j=k
     ·rw[n];lia
     ·exact d j W hc
    ·rw[ir e];refine⟨_,O,i1,i2,d,λj g=> ?_⟩;obtain rfl:k=j:=W
     have:=b.hi k W;lia
   ·rw[ir h0];exact⟨_,O,i1,i2,d,λj g=>by lia⟩) fu ((c:J)-1) ⟨W,W,λj g hc=>by lia⟩ W
 exact⟨r,h1,l⟩
def P7{c k:K}(f:BG N c a)(o:N<=1000)(d:k<c)(h1:U a k+c<N+k)(p:3000000<=fu):
 zg (λL (z:J×xS J)=>
 if z.1<(c:J)then
  E (z.1-1) λe=>
  zG e (X z.2) λj=>
  C (z.2.getD j 0) λy=>
  E (y+1) λe=>
  zG z.1 (X z.2) λj=>
  C (z.2.set j e) λxs=>
  E (z.1+1) λi=>L (i,xs)
 else Z z.2) fu ((k:J)+1,a.set k (U a k+1))=Z (nxA c k a):=by
 have q:=f.hi k d;have hc:=f.lo k d;refine zw (λs:J×xS J=>∃j:K,k+1<=j/\j<=c/\s=((j:J),zl c (λi=>if i<k then U a i else if i<j then U a k+1+((i:J)-k)else U a i))) (λs=>c-s.1.toNat) _ ?_ _ _ ⟨k+1,IR _,d,?_⟩ (by show c-((k:J)+1).toNat<fu;lia)
 ·rintro s L ⟨j,r,t,rfl⟩ l;simp only[zD];by_cases n:j<c
  ·obtain⟨i,rfl⟩:∃i,j=i+1:=⟨j-1,W⟩;rw[zP,(W:((i+1:K):J)-1=(i:J)),zb,yj,Q,qS,zA,zP,zb,zp n,Q,uC,zb];refine l _ ⟨i+1+1,W,W,?_⟩ (by show c-(((i+1:K):J)+1).toNat<c-((i+1:K):J).toNat;lia);refine xfj O<|yF λm g=> ?_;unfold Ya;by_cases e:m=i+1
   ·rw[iq e,zA,zP];lia
   ·rw[ir e];show(if m<k then U a m else if m<i+1 then U a k+1+((m:J)-k)else U a m)=_;by_cases b:m<k
    ·rw[iq b,iq b]
    ·rw[ir b,ir b];by_cases h:m<i+1
     ·rw[iq h,zP]
     ·rw[ir h,zA]
  ·rw[zA];obtain rfl:j=c:=W
   refine kW Z<|yF λm g=> ?_;by_cases b:m<k
   ·rw[iq b,iq b]
   ·rw[ir b,ir b,iq g]
 ·refine xfj (by show(k:J)+1=((k+1:K):J);lia) ?_;show a.set k (U a k+1)=_;conv=>lhs;rw[<-RE a,f.ln]
  rw[uC];refine yF λm g=> ?_;unfold Ya;by_cases e:m=k
  ·rw[iq e,zA,zP,e];rw[show U (zl c<|U a) k=U a k from jh d];lia
  ·rw[ir e];by_cases b:m<k
   ·rw[iq b]
   ·rw[ir b,zA]
def Ny{X Y:Type}{c:K}{g:xS J->X->V (xS J×(X⊕Y))}{x0:X}{Rej:xS J->Prop}{Acc:xS J->Y->Prop}(hk:1<=c)(hl:c<=N)(hN:N<=10)(D:c<=5)(p:3000000<=fu)(E:∀a,BG N c a->(g a x0=Z (a,.inl x0)/\Rej a)\/∃y v,g a x0=Z (v,.inr y)/\Acc a y):
 (vj fu (c:J) (N:J) g x0=Z (.inl x0)/\∀a,BG N c a->Rej a)\/∃a y,BG N c a/\Acc a y/\vj fu (c:J) (N:J) g x0=Z (.inr y):=by
 have h0:BG N c (zl c λi=>(i:J)):=⟨zD _ _,λi hi=>by rw[jh hi];lia,λi hi=>by rw[jh hi];lia,λi hi=>by rw[jh W,jh hi];lia⟩;have F:∀T,BG N c T->¬Lt (U T) (U<|zl c λi=>(i:J)) c:=λT b ⟨j,n,o,_⟩=>by
  rw[jh n]at o;have:=b.lo j n;lia
 have G:msr N (U<|zl c λi=>(i:J)) c<fu:=by
  have h1:=zeM N (U<|zl c λi=>(i:J)) c;have w:(N+1)^c<=11^5:=xae (Nat.pow_le_pow_left W c)<|xau iI D;lia
 have⟨r,H,M⟩:=yr (f:=λL (q:X×xS J)=>qA fu (c:J) (N:J) g q.1 q.2 (λx xs _ _ _ _ _=>L (x,xs)) (λx _ _ _=>Z (.inl x)) λy _=>Z (.inr y))
  (λs:X×xS J=>s.1=x0/\BG N c s.2/\∀T,BG N c T->Lt (U T) (U s.2) c->Rej T) (λs=>msr N (U s.2) c) (λr:X⊕Y=>(r=.inl x0/\∀a,BG N c a->Rej a)\/∃a y,BG N c a/\Acc a y/\r=.inr y) (by
  rintro⟨x,a⟩ L ⟨z,l,t⟩ P
  simp only at z l t
  subst z
  simp only
  unfold qA
  rcases E a l with⟨e,A⟩|⟨y,v,e,R⟩
  ·rw[za e]
   simp only[Sum.elim_inl]
   have⟨i,l1,l2,l3,B,S⟩:=LV l W p
   rw[zb,za l1]
   by_cases hi:i<0
   ·rw[iq hi]
    refine⟨_,O,.inl ⟨O,λT b=> ?_⟩⟩
    rcases Fw (U T) (U a) c with h|h|h
    ·rw[b.ext l h];exact A
    ·exact t T b h
    ·exfalso
     have⟨j,n,o,_⟩:=h
     have:=B j W n
     have:=b.hi j n
     lia
   ·obtain⟨k,rfl⟩:=xaz (W:0<=i)
    have hn:=l.ln
    have C:=S k O
    have ho:=l.lo k W
    rw[ir hi,yj,Q,ZZ,zb,yj,Q,zb,za<|P7 l W W C p]
    refine P _ ⟨O,l.next W C,λT b u=> ?_⟩ ?_
    ·rcases Fw (U T) (U a) c with h|h|h
     ·rw[b.ext l h];exact A
     ·exact t T b h
     ·exfalso
      simp only at u
      rcases zo5 (k:=k) b W (λi hi hc=>B i W hc) h with h6|h6
      ·have⟨j,n,o,_⟩:=u
       rw[h6 j n]at o
       lia
      ·exact u.asy h6
    ·have⟨d,hd⟩:∃d,c=k+1+d:=⟨c-k-1,W⟩
     have:=zhF (N:=N) (f:=U<|nxA c k a) (g:=U a) (j:=k) (λm hm=>by rw[Uu,iq hm]) W (by rw[Uu,zA];lia) (by rw[Uu,zA];lia) d
     rw[<-hd]at this
     exact this
  ·rw[za e]
   simp only[Sum.elim_inr]
   exact⟨_,O,.inr ⟨a,y,l,R,O⟩⟩) fu (x0,zl c λi=>(i:J)) ⟨O,h0,λT b h=>wS h (F T b)⟩ G
 have hM:vj fu (c:J) (N:J) g x0=Z r:=by
  unfold vj;rw[yJ,yL,Q,Uo,za<|Gp W p];exact H
 rw[hM];rcases M with⟨rfl,h⟩|⟨a,y,h1,w,rfl⟩
 ·exact .inl ⟨O,h⟩
 ·exact .inr ⟨a,y,h1,w,O⟩
end
section
variable{a:xS wl}{m x:wl}{xs:xS Lx}{i fu:wr}
def zj2{a:N M}(h:¬m<=0):zc8 a m=(vE a m,0):=by unfold zc8;rw[ir h]
theorem tN(a:N M):(yw a).natAbs=Wj (H a) (X (zZ a)):=by grind [yw]
theorem gV(a:N M):D (yw a)*(H (xc a):Pz)=H a:=by grind [zS,Ye,Wv,Int.mul_ediv_cancel']
def VS{a:N M}(h:X (zZ a)≠0):Pm (H<|xc a)/\Po (H<|xc a):=by
 have h0:=pT h;have e:=gV a;constructor
 ·intro d hd;have h1:(yw a).natAbs*d∣Wj (H a) (X (zZ a)):=LU _ λk _=>by
   have b:=Wr e k;rw[zS]at b;have c:=xcp.2<|xfP (xet<|yw a)<|hd k;rw[b,xcK,xbb]at c;exact c
  rw[<-tN]at h1;have g:(yw a).natAbs*d∣(yw a).natAbs*1:=by rw[xdn];exact h1
  exact Nat.dvd_one.1<|Nat.dvd_of_mul_dvd_mul_left W g
 ·have f:=YD h;refine⟨X (zZ a)-1,?_,λk j=>by rw[Ye,f.2 k j,xef]⟩;have b:=Wr e<|X (zZ a)-1;rw[zS]at b;have c:=f.1;have⟨x,l⟩:∃x,x=H (xc a) (X (zZ a)-1):=⟨_,O⟩;rw[<-l]at b⊢;have o:(0:J)<(Wj (H a) (X (zZ a)):K):=by
   have:=tN a;lia
  have hc:yw a=if H (zZ a) (X (zZ a)-1)<0 then-((Wj (H a) (X (zZ a)):K):J)else((Wj (H a) (X (zZ a)):K):J):=O;rw[kS]at hc;by_cases hn:H a (X (zZ a)-1)<0
  ·rw[iq hn]at hc;refine xai λn=> ?_;have:=Int.mul_nonneg_of_nonpos_of_nonpos (W:yw a<=0) (W:x<=0);lia
  ·rw[ir hn]at hc;refine xai λn=> ?_;have:=Int.mul_nonpos_of_nonneg_of_nonpos (W:0<=yw a) (W:x<=0);lia
def ke(a:N M):zZ (xc a)=xc a:=(qc _ _).symm
def zfP(a:N M)(c:0<m)(k:K):H (ot a m) k=near (H a k) m:=jz (λj b=>by
 rw[zX b];unfold near;rw[xah,zA]) k
def zia(x:J):near x m%m=x%m:=by
 unfold near;split
 ·simp_all
 ·simp_all
def ziL{y:J}(h:x%m=y%m)(c:2*y.natAbs<m):near x m=y:=by
 unfold near;rw[h];by_cases b:0<=y
 ·rw[xaD b W,zA]
 ·have e:y%m=y+m:=by
   rw[<-Int.add_emod_right];exact xaD W W
  lia
def HZ(xs:N Lx)(a:N J)(c:K):N Lx:=(xaY c).map λi=>xs.getD (U a i).toNat ([],[])
theorem zhK(xs:N Lx)(a:N J)(c:K):HZ xs a (c+1)=HZ xs a c++[xs.getD (U a c).toNat ([],[])]:=by grind [HZ,xdv]
theorem zd8(a b:N Lx):pu (a++b)=pu a*pu b:=by grind [pu,w9]
theorem RR:(xs.map (·.1)).getD i []=(xs.getD i ([],[])).1:=by grind
theorem IJ(h:i<X xs):xs.getD i ([],[])∈xs:=by grind
def zdX{c k:K}{p:J}{f:N M}(hp:wh p=I)(o:1<=k)(q:k<=1000)(u:∀x∈xs,Up p k x.1 x.2/\QI p x.2/\X x.2<=66)(E:X xs<=1000)(b:BG (X xs) c a)(hc:c<=5)(hn:yI 250 f)(F:0<X f)(G:X f<=66)(d:3000000<=fu):
 ∃t,jV fu f (xs.map (·.1)) a (ya<|p^k)=Z (xc<|ot t<|p^k,a)/\yI 250 t/\X t<=1+c*66/\Cg (p^k) (H t) (D (H f<|X f-1)*pu (HZ xs a c)):=by
 have⟨P,R⟩:=zo hp;have e:=sO hp q;have S:=nQ hp o;have hd:b7 (ya<|p^k):=e.okS iI;have hv:=b.ln
 obtain⟨s,v,t,rfl,t1,t2,t3⟩:=yr (f:=uE fu (xs.map (·.1)) a<|ya<|p^k) (λs:N M×J×N J=>∃(i:K) (t:N M),i<=c/\s=(t,(i:J),a)/\yI 250 t/\X t<=1+i*66/\Cg (p^k) (H t) (D (H f<|X f-1)*pu (HZ xs a i))) (λs=>c-s.2.1.toNat)
  (λr=>∃t:N M,r=(t,a)/\yI 250 t/\X t<=1+c*66/\Cg (p^k) (H t) (D (H f<|X f-1)*pu (HZ xs a c))) (by
  rintro s L ⟨i,t,hi,rfl,h1,w,g⟩ y
  unfold uE
  simp only
  by_cases h:i<c
  ·have T:=b.lo i h
   have V:=b.hi i h
   have⟨j,l⟩:=xaz (W:0<=U a i)
   have A:=IJ (xs:=xs) (i:=j) W
   have⟨n,hI,hl⟩:=u _ A
   have hy:=n.len
   rw[zP,Y O]
   simp only[uP]
   rw[yj,Q,ZZ,l,zp (by rw[xaZ];lia),Q,RR,Y<|Bn h1 n.rd.ok W W hd d,zn,zj2 W]
   simp only
   rw[zb]
   have l1:=XD (yW t (xs.getD j ([],[])).1)<|p^k
   have l2:=jk t (xs.getD j ([],[])).1
   refine y _ ⟨i+1,_,W,O,aW e W,W,?_⟩ (by show c-((i:J)+1).toNat<c-(i:J).toNat;lia)
   refine(Xg _ _).trans ?_
   rw[vZ,zhK,zd8,l,xaN,<-zd]
   refine g.mul<|Cg.of ?_
   exact(yf _).symm
  ·rw[zA,Y O]
   simp only[xar,uS]
   obtain rfl:i=c:=W
   exact⟨_,O,t,O,h1,w,g⟩) fu (f.drop (X f-1),0,a) ⟨0,_,xac _,O,λz B=>hn z (xfH B),by rw[xcf];lia,by
   rw[HF]
   refine Cg.of<|funext λj=> ?_
   rw[show HZ xs a 0=[]from O,show pu []=D 1 from O,yf]
   cases j with
   |zero=>rfl
   |succ j=>exact zX (p:=[f.getD (X f-1) (wL,[])]) iP⟩ (by show c-(0:J).toNat<fu;lia)
 refine⟨t,?_,t1,t2,t3⟩;unfold jV;rw[(W:(X f:J)-1=((X f-1:K):J)),zb,yJ,yL,Q,Y v];simp only;have C:yI 250 (ot t<|p^k):=yE λj=>Bz.near e W;have hA:X (ot t<|p^k)<=X t:=by unfold ot;rw[xv];exact vT _ _
 rw[Y<|tD t1 iI hd W d,zn];unfold TX;rw[zA];simp only;rw[Y<|vP C iI W d]
def PA(hl:X a<=1000)(p:3000000<=fu):wc fu a x=Z (decide<|x∈a,a):=by
 unfold wc qX;have⟨s,g,l⟩:=yr (f:=qi fu a x) (λi:J=>0<=i/\i<=X a/\∀j:K,j<i->U a j≠x) (λi=>(X a-i).toNat) (λr:Z2⊕J=>(r=.inl ()/\¬x∈a)\/∃i:K,r=.inr (i:J)/\x∈a) (by
  rintro i L ⟨i1,i2,d⟩ n;obtain⟨k,rfl⟩:=xaz i1;unfold qi;by_cases h1:k<X a
  ·rw[zP,zp h1,Q,ZZ];by_cases b:x=U a k
   ·rw[iq b];refine⟨_,O,.inr ⟨k,O,?_⟩⟩;rw[b,<-ZZ,xaa,xak h1];simp_all
   ·rw[ir b,zb];refine n _ ⟨W,W,λj c=> ?_⟩ W;by_cases e:j=k
    ·rw[e];exact λh=>b h.symm
    ·exact d j W
  ·rw[zA];refine⟨_,O,.inl ⟨O,λo=> ?_⟩⟩;have⟨j,c,e⟩:=xdK.1 o;refine d j W ?_;rw[<-ZZ,xaa,xak c];exact e) fu 0 ⟨W,W,λj c=>by lia⟩ W
 rw[g];rcases l with⟨rfl,h⟩|⟨i,rfl,h⟩
 ·rw[uT h];rfl
 ·rw[Z0 h];show(if(0:J)<=(i:J)then Z (I,a)else Z (wL,a))=Z (I,a);rw[zP]
def Nc{us:N (N M)}(hl:X us<=1000)(d:X a<=1000)(e:3000000<=fu):
 xN fu us a=Z (((xaY (X us)).filter λi:K=> !decide ((i:J)∈a)).map λi=>us.getD i [],a):=by
 unfold xN;rw[Y (v:=(((xaY (X us)).filter λi:K=> !decide ((i:J)∈a)).map λi=>us.getD i [],a))];refine zw (λs:N (N M)×J×N J=>∃j:K,j<=X us/\s=(((xaY j).filter λi:K=> !decide ((i:J)∈a)).map λi=>us.getD i [],(j:J),a)) (λs=>X us-s.2.1.toNat) _ ?_ _ _ ⟨0,xac _,O⟩ (by show X us-0<fu;lia);rintro s L ⟨j,f,rfl⟩ c;unfold uH;simp only;by_cases h1:j<X us
 ·rw[zP,Y O];simp only[uP];rw[zp h1,Q,Y<|PA d e];simp only;have g:X ((xaY j).filter λi:K=> !decide ((i:J)∈a))<=j:=xae (xfD _ _) (by rw[xep];exact IR j);by_cases b:(j:J)∈a
  ·rw[Z0 b,ir iI,zb];refine c _ ⟨j+1,W,?_⟩ (by show X us-((j:J)+1).toNat<X us-(j:J).toNat;lia);rw[xdv,List.filter_append,xfi (by rw[Z0 b];decide),List.filter_nil,xbB];rfl
  ·rw[uT b,iq iI,xr (by rw[xaZ];simp only[xaw,xbR];lia),Q,zb];refine c _ ⟨j+1,W,?_⟩ (by show X us-((j:J)+1).toNat<X us-(j:J).toNat;lia);rw[xdv,List.filter_append,xfh (by rw[uT b];decide),List.filter_nil,xba];rfl
 ·rw[zA,Y O];simp only[xar,uS];obtain rfl:j=X us:=W
  rfl
end
section
variable{M p:wl}{f q g f0:Pz}{k i fu:wr}{xs:xS Lx}{a:xS wl}
def Bdz(M:J)(f:Pz):Prop:=∀(u v:Pz) (b:K),Fs u->Tp v b->f=u*v->∀j,2*((v b*u j).natAbs:J)<M
def Bdz.dv(h:Bdz M f)(d:Nz g)(l:Fs g)(e:f=q*g):Bdz M q:=λu v b fu hv m j=>by
 have⟨a,c⟩:=Tp.ex l d;have h1:=h u (v*g) (b+a) fu (hv.mul c) (by rw[e,m,zd]) j;rw[Jz hv.2 c.2]at h1;have n:(v b*u j).natAbs<=(v b*g a*u j).natAbs:=by
  rw[Int.mul_right_comm,xcK<|v b*u j];exact xcm _ (by have:=c.1;lia)
 lia
def zpX{K:wr}(h:Bdz M f)(c:Nz g)(d:Fs g)(fq:Fs q)(e:f=q*g)(j:Bz K M)(k:wr):Bz K (q k):=by
 have⟨a,b⟩:=Tp.ex d c;have h1:=h q g a fq b e k;have l:(q k).natAbs<=(g a*q k).natAbs:=by
  rw[xcK];exact xdm _ (by have:=b.1;lia)
 exact j.le W
structure Gd(g:N Zr):Prop where
 can:zZ g=g
 ir:Ir (H g)
 ps:Po (H g)
 ok:yI 250 g
 ln:g.length<=11
structure Ch(p:J)(k:K)(f0:Pz)(F:N Zr)(xs:N Lx)(out:N (N Zr))(c:K):Prop where
 lc:Lc p k (H F) (F.length-1) xs
 k2:k<=1000
 can:zZ F=F
 ok:yI 250 F
 ln:F.length<=11
 bd:Bdz (p^k) (H F)
 ls:Ls p (H F) xs c
 ct:xs.length+out.length<=10
 pr:f0=prZ (out.map λg=>(H g:Pz))*H F
 gd:∀g∈out,Gd g
def Ch.l0{c:K}{F:N Zr}{out:N (N Zr)}(h:Ch p k f0 F xs out c):0<X F:=by
 have h1:=h.lc.tp.1;by_cases e:X F=0
 ·exact wS (zX W) h1
 ·lia
theorem zni(c:2<=p)(d:∀x∈xs,QI p x.2)(Kc:xs.Pairwise λa b=>qB p (U a.2)<|U b.2){j:K}(hi:i<X xs)(e:j<X xs)(h:xs.getD i ([],[])=xs.getD j ([],[])):i=j:=by grind [QI.self,xcT]
theorem zfR(c:2<=p)(d:∀x∈xs,QI p x.2)(Kc:xs.Pairwise λa b=>qB p (U a.2)<|U b.2):xs.Nodup:=by grind [QI.self,xcT]
def zaj{α:Type}(d:α)(xs:N α):xs=(xaY (X xs)).map λi=>xs.getD i d:=by
 refine xeQ iP λi h1 b=> ?_;simp_all
theorem zbA{c:K}(d:BG (X xs) c a):∀x∈HZ xs a c,x∈xs:=λx e=>by
 obtain⟨j,b,rfl⟩:=xap.1 e;have b:=xbd.1 b;have h1:=d.hi j b;have h:=d.lo j b;grind
def znX{c:K}(n:2<=p)(o:∀x∈xs,QI p x.2)(Kc:xs.Pairwise λa b=>qB p (U a.2)<|U b.2)(l:BG (X xs) c a)(hi:i<X xs):xs.getD i ([],[])∈HZ xs a c↔(i:J)∈a:=by
 have hc:=l.ln;constructor
 ·intro h;have⟨j,d,e⟩:=xap.1 h;have d:=xbd.1 d;have h1:=l.hi j d;have s:=l.lo j d;have m:=zni n o Kc W hi e;have r:i=U a j:=W
  rw[r,<-ZZ];simp_all
 ·intro h;have⟨j,d,e⟩:=xdK.1 h;have m:U a j=i:=by
   rw[<-ZZ,xaa,xak d];exact e
  exact xap.2 ⟨j,xbd.2 W,by rw[m];rfl⟩
theorem zbT{α:Type}(P:α->v6):∀l:N α,X (l.filter P)+X (l.filter λx=> !P x)=X l
 |[]=>rfl
 |x::l=>by
  have b:=zbT P l;grind
def zba{c:K}{F:N Zr}{out:N (N Zr)}(h:Ch p k f0 F xs out c)(hF:1<=c)(hH:c<=5)(P:BG (X xs) c a)(S:3000000<=fu):
 (q9 fu (ya<|p^k) a (F,xs.map (·.1),out)=Z (a,.inl (F,xs.map (·.1),out))/\∀u v,Fs u->Fs v->H F=u*v->¬Cp u->own p u xs≠HZ xs a c)\/
 ∃y a',q9 fu (ya<|p^k) a (F,xs.map (·.1),out)=Z (a',.inr y)/\∃F' L E,y=(F',L.map (·.1),E)/\Ch p k f0 F' L E c/\X L<X xs:=by
 have l:=h.lc;have hp:=l.hp;have⟨p1,p2⟩:=zo hp;have hv:=sO hp h.k2;have hY:=nQ hp l.k1;have hI:=h.l0;have hZ:=h.ln;have h0:=h.ct;have hz:=λx hx=>(l.el x hx).2.1;have⟨t,t1,t2,t3,t4⟩:=zdX (fu:=fu) hp l.k1 h.k2 l.el W P hH h.ok hI W S;have⟨G,T⟩:∃G,G=ot t (p^k):=⟨_,O⟩;rw[<-T]at t1;have hA:∀j,H G j=near (H t j) (p^k):=λj=>by rw[T];exact zfP t W j
 have hJ:Cg (p^k) (H G) (D (H F<|X F-1)*pu (HZ xs a c)):=Cg.trans (λj=>by rw[hA];exact zia _) t4;have hK:yI 250 G:=by rw[T];exact yE λj=>Bz.near hv W
 have h8:X G<=400:=by
  have:X (ot t<|p^k)<=X t:=by unfold ot;rw[xv];exact vT _ _
  rw[T];lia
 have V:=dK hK;have hM:=km G;have h9:=qg G;have hm:=gV G;have hn:=ke G;have⟨g,hg⟩:∃g,g=xc G:=⟨_,O⟩;rw[<-hg]at t1 V hM hm hn;have r:∀u v,Fs u->Fs v->H F=u*v->own p u xs=HZ xs a c->∃b,Tp v b/\(H G:Pz)=D (v b)*u:=λu v s fv e ho=>by
  have⟨nu,A⟩:=VX l.tp.nz e;have⟨d,hd⟩:=Tp.ex s nu;have⟨b,z⟩:=Tp.ex fv A;refine⟨b,z,qR λj=> ?_⟩;have h1:=l.up hd z e;have hN:d+b=X F-1:=by
   have:=hd.mul z;rw[<-e]at this;exact this.uniq l.tp
  have hO:H F (X F-1)=u d*v b:=by rw[<-hN,e,Jz hd.2 z.2]
  rw[hA,zS];refine ziL ?_ ?_
  ·have h2:Cg (p^k) (H t) (D (v b)*u):=by
    refine t4.trans ?_;rw[hO,<-ho,xbg,<-kH,zd];exact Cg.rfl.mul h1.symm
   rw[h2 j,zS]
  ·exact h.bd u v b s z e j
 have n:¬(Zd (H g) (H F)/\1<X g)->∀u v,Fs u->Fs v->H F=u*v->¬Cp u->own p u xs≠HZ xs a c:=λhP u v s fv e nc ho=>by
  have⟨b,z,B⟩:=r u v s fv e ho;have⟨nu,_⟩:=VX l.tp.nz e;have hq:X (zZ G)≠0:=λe0=>by
   have⟨j,hj⟩:=nu;have:=W1 e0 j;rw[B,zS]at this;exact(xeq z.1 hj) this
  have⟨q1,q2⟩:=VS hq;rw[<-hg]at q1 q2;have z1:Zd (H g) (H G):=⟨D<|yw G,Fs.pc _,hm.symm⟩;rw[B]at z1;have z2:=Zd.pm (Fs.cf g) q1 z.1 z1;refine hP ⟨z2.trans ⟨v,fv,by rw[e,zk]⟩,xai λhl=>nc λj hj=> ?_⟩;have h3:H G j=0:=by rw[<-hm,zS,zX W,xaC]
  rw[B,zS]at h3;obtain h4|h4:=xeK.1 h3
  ·exact wS h4 z.1
  ·exact h4
 have hB:∀{q:N Zr}{e:J},wz fu F g=Z (q,e)->q9 fu (ya<|p^k) a (F,xs.map (·.1),out)=if e=0 then(if 1<(X g:J)then ck ((X out+1)*24<=140737488355328)<|C (out++[g]) λpr=>bd (xN fu (xs.map (·.1)) a) λw=>Z (w.2,.inr (q,w.1,pr))else Z (a,.inl (F,xs.map (·.1),out)))else Z (a,.inl (F,xs.map (·.1),out)):=λ{q e} hd=>by
  unfold q9;simp only;rw[Y t1];simp only;rw[Y hd]
 by_cases hr:X (zZ g)=0
 ·rw[hB<|A1 h.ok V iI iI W W hr S,ir iI];refine .inl ⟨O,n λhh=> ?_⟩;rw[hn]at hr;lia
 ·have⟨q,e,d1,d2,d3⟩:=JX (fu:=fu) h.ok V (by have:=xan (250+1) (W:X F+1<=12);lia) W W hr S;rw[hB d1];by_cases B:e=0
  ·by_cases hQ:1<X g
   ·right;have⟨e1,e2,e3⟩:=d3 B;have hq:X (zZ G)≠0:=W
    have⟨q1,q2⟩:=VS hq;rw[<-hg]at q1 q2;have hc:Tp (H g) (X g-1):=by
     have:=YD (a:=g) W;rwa[hn]at this
    have⟨nq,ng⟩:=VX l.tp.nz e1;have hR:X (zZ q)≠0:=λe0=>by
     have⟨j,hj⟩:=nq;exact hj<|W1 e0 j
    have hs:Tp (H q) (X q-1):=by
     have:=YD hR;rwa[e2]at this
    have o:(H F:Pz)=H g*H q:=by rw[e1,zk]
    have R:¬Cp (H g):=λhC=>by
     have:=(Cp.tp hc).1 hC;lia
    have hD:∀x∈xs,Di p (U x.2) (H g)↔x∈HZ xs a c:=λx hx=>l.pick (zbA P) hc hs o (γ:=yw G) (by
     rw[hm];exact(hJ.down<|kT l.k1).trans<|Cg.rfl.mul<|Ow λy hy=>l.el y<|zbA P y hy) hx
    have hS:=zfR p1 hz l.pw;have hV:X (own p (H g) xs)<=c:=by
     classical
     have h1:(own p (H g) xs).Nodup:=by unfold own;exact hS.sublist List.filter_sublist
     have h2:=dj h1 (us:=HZ xs a c) λx hx=>(hD x (aU.1 hx).1).1 (aU.1 hx).2;have h3:X (HZ xs a c)=c:=by unfold HZ;simp
     lia
    have hT:=h.ls (H g) (H q) (Fs.cf g) (Fs.cf q) o R;have hE:=Ls.ir l h.ls hF (Fs.cf g) (Fs.cf q) o q1 R W;have ht:0<H g (X g-1):=by
     have⟨m,m1,m2⟩:=q2.tp;have:=m1.uniq hc;rw[<-this];exact m2
    have hu:=l.step hc hs ht e1;have hW:X (own p (H g) xs)+X (SX p (H g) xs)=X xs:=by
     classical
     unfold own SX;exact zbT (λx:Lx=>decide<|Di p (U x.2)<|H g) xs
    have hX:0<p^k:=W
    have hw:(((xaY (X (xs.map (·.1)))).filter λi:K=> !decide ((i:J)∈a)).map λi=>(xs.map (·.1)).getD i [])=(SX p (H g) xs).map (·.1):=by
     classical
     have e4:SX p (H g) xs=((xaY (X xs)).filter λi:K=> !decide ((i:J)∈a)).map λi=>xs.getD i ([],[]):=by
      unfold SX;conv=>lhs;rw[zaj ([],[]) xs]
      rw[List.filter_map];refine kW _<|List.filter_congr λi hi=> ?_;have hi:=xbd.1 hi;show(!decide (Di p (U (xs.getD i ([],[])).2)<|H g))=_;have h5:=(hD _<|IJ hi).trans<|znX p1 hz l.pw P hi;by_cases h6:(i:J)∈a
      ·rw[Z0 h6,Z0<|h5.2 h6]
      ·rw[uT h6,uT λh7=>h6<|h5.1 h7]
     rw[e4,xcP,xaZ];refine xci λi _=> ?_;exact RR
    have h':=P.ln;refine⟨(q,(SX p (H g) xs).map (·.1),out++[g]),a,?_,q,SX p (H g) xs,out++[g],O,?_,W⟩
    ·rw[iq B,zP,yL,Q,Y<|Nc (by rw[xaZ];lia) W S,hw]
    ·have hU:∀j,Bz 250 (H q j):=zpX h.bd ng (Fs.cf g) (Fs.cf q) e1 hv;refine⟨hu,h.k2,e2,by rw[<-e2];exact yE hU,W,h.bd.dv ng (Fs.cf g) e1,h.ls.step l (Fs.cf g) (Fs.cf q) e1,?_,?_,λx hx=> ?_⟩
     ·rw[xaq,List.length_singleton];lia
     ·rw[xba,w9,h.pr,o];show prZ _*(H g*H q)=prZ _*(H g*D 1)*H q;rw[yf,zd]
     ·obtain hx|hx:=So.1 hx
      ·exact h.gd x hx
      ·obtain rfl:=xad.1 hx;have:X x<=11:=by
        have:=(hc.mul hs).uniq (by rw[<-o];exact l.tp);lia
       exact⟨hn,hE,q2,V,this⟩
   ·rw[iq B,zA];exact .inl ⟨O,n λhh=>hQ hh.2⟩
  ·rw[ir B];exact .inl ⟨O,n λhh=>B<|d2.2 hh.1⟩
def znC{is:N (Fin (X xs))}(hp:is.Pairwise (· < ·)):BG (X xs) (X is) (is.map λi=>(i.val:J))/\HZ xs (is.map λi=>(i.val:J)) (X is)=is.map (xs[·]):=by
 have b:∀j (c:j<X is),U (is.map λi=>(i.val:J)) j=(is[j].val:J):=λj c=>by
  rw[<-ZZ,xaa,xcu,xak c];rfl
 have h:∀i j (hi:i<X is) (c:j<X is),i<j->is[i].val<is[j].val:=λi j hi c hd=>xcT.1 hp i j hi c hd;have hc:∀d i (hi:i+d<X is),is[i].val+d<=is[i+d].val:=λd=>by
  induction d with
  |zero=>intro i hi;exact IR _
  |succ d l=>
   intro i hi;have h1:=l i W;have e:=h (i+d) (i+(d+1)) W hi W;lia
 refine⟨⟨iP,λi hi=> ?_,λi hi=> ?_,λi hi=> ?_⟩,?_⟩
 ·rw[b i hi];have:=hc i 0 W;simp only[xaJ]at this;lia
 ·rw[b i hi];have h1:=hc (X is-1-i) i W;have e:=is[i+(X is-1-i)].isLt;lia
 ·rw[b i W,b (i+1) hi];have:=h i (i+1) W hi W;lia
 ·unfold HZ;refine xeQ iP λi h1 e=> ?_;rw[xaZ]at e;rw[List.getElem_map,List.getElem_range,List.getElem_map,b i e,xaN,xaa,xak is[i].isLt];rfl
theorem Ox{F:List Zr}(h0:Ch p k f0 F xs [] 1)(hf:3000000<=fu):
 ∃s,zg (fun L x=>Yy fu (ya<|p^k) x L) fu (F,xs.map (·.1),[],1)=some s/\∃(F:List Zr) (xs:List Lx) (out:List (List Zr)) (c:Nat),s=(F,xs.map (·.1),out)/\Ch p k f0 F xs out c/\xs.length<2*c:=by
 exact yr (f:=fun L x=>Yy fu (ya<|p^k) x L) (fun s:List Zr×List (List Zr)×List (List Zr)×Int=>∃(F:List Zr) (xs:List Lx) (out:List (List Zr)) (c:Nat),s=(F,xs.map (·.1),out,(c:Int))/\Ch p k f0 F xs out c/\1<=c/\c<=6) (fun s=>s.2.1.length*20+(20-s.2.2.2.toNat))
  (fun r=>∃(F:List Zr) (xs:List Lx) (out:List (List Zr)) (c:Nat),r=(F,xs.map (·.1),out)/\Ch p k f0 F xs out c/\xs.length<2*c) (by
  rintro s L ⟨F,xs,out,c,rfl,hC,hb,hg⟩ ih
  unfold Yy
  simp only
  have hj:=hC.ct
  rw[zb,xaZ]
  by_cases h2:2*c<=xs.length
  ·rw[zP]
   have hc:=fun a ha=>zba (fu:=fu) (a:=a) hC hb (show c<=5 by lia) ha hf
   rcases Ny (fu:=fu) (N:=xs.length) (c:=c) (g:=q9 fu<|ya<|p^k) (x0:=(F,xs.map (·.1),out)) (Rej:=fun a=>∀u v,Fs u->Fs v->cf F=u*v->¬Cp u->own p u xs≠HZ xs a c) (Acc:=fun a y=>∃F' xs' out',y=(F',xs'.map (·.1),out')/\Ch p k f0 F' xs' out' c/\xs'.length<xs.length) hb (by lia) (by lia) (by lia) hf hc with⟨e,hr⟩|⟨a,y,ha,⟨F',xs',out',rfl,hi,hk⟩,e⟩
   ·rw[za e]
    rw[Sum.elim_inl]
    simp only
    rw[zb]
    refine ih _ ⟨F,xs,out,c+1,by rw[show((c+1:Nat):Int)=(c:Int)+1 by lia],?_,by lia,by lia⟩ (by
     show(xs.map (·.1)).length*20+(20-((c:Int)+1).toNat)<(xs.map (·.1)).length*20+(20-(c:Int).toNat);lia)
    refine⟨hC.lc,hC.k2,hC.can,hC.ok,hC.ln,hC.bd,fun u v fu' fv e nc=> ?_,hC.ct,hC.pr,hC.gd⟩
    have h3:=hC.ls u v fu' fv e nc
    by_cases h4:(own p u xs).length=c
    ·exfalso
     have hd:(own p u xs).Sublist xs:=by unfold own;exact List.filter_sublist
     obtain⟨is,e5,e6⟩:=List.sublist_eq_map_getElem hd
     obtain⟨i1,i2⟩:=znC e6
     have he:is.length=c:=by rw[<-h4,e5,xaZ]
     rw[he]at i1 i2
     exact hr _ i1 u v fu' fv e nc<|by rw[i2,e5]
    ·lia
   ·rw[za e]
    rw[Sum.elim_inr]
    refine ih _ ⟨F',xs',out',c,rfl,hi,hb,hg⟩ ?_
    show(xs'.map (·.1)).length*20+(20-(c:Int).toNat)<(xs.map (·.1)).length*20+(20-(c:Int).toNat)
    rw[xaZ,xaZ]
    lia
  ·rw[zA]
   exact⟨_,rfl,F,xs,out,c,rfl,hC,by lia⟩) fu (F,xs.map (·.1),[],1) ⟨F,xs,[],1,rfl,h0,by lia,by lia⟩ (by
   show(xs.map (·.1)).length*20+(20-(1:Int).toNat)<fu
   rw[xaZ]
   have:=h0.ct
   lia)
def Rv{F:N Zr}(h0:Ch p k (H F) F xs [] 1)(n:3000000<=fu):
 ∃out,Yg fu F (xs.map (·.1)) (ya<|p^k)=Z out/\X out<=11/\(∀g∈out,Gd g)/\H F=prZ (out.map λg=>(H g:Pz)):=by
 have⟨f0,r⟩:∃f0:Pz,f0=H F:=⟨_,O⟩;rw[<-r]at h0⊢;obtain⟨s,t,b,l,j,o,rfl,c,hi⟩:=Ox h0 n;unfold Yg;rw[Y t];simp only;have A:=c.ct;have hl:=c.l0;have B:=c.ln;have m:=c.lc.pm;by_cases h1:1<X b
 ·have hn:X (zZ b)≠0:=by rw[c.can];lia
  have hc:yw b=1:=by
   have u:=tN b;rw[c.can]at u;have v:=(m _ (pk λk w=>zX w):Wj (H b) (X b)=1);have a3:yw b=if H (zZ b) (X (zZ b)-1)<0 then-((Wj (H b) (X (zZ b)):K):J)else((Wj (H b) (X (zZ b)):K):J):=O;rw[c.can,ir (by have:=c.lc.ps;lia),v]at a3;exact a3
  have x:xc b=b:=ia (ke b) c.can λk=>by rw[Ye,hc,Int.ediv_one]
  have y:Ir (H b):=by
   have z:¬Cp (H b):=λh=>by have:=(Cp.tp c.lc.tp).1 h;lia
   have hc1:1<=o\/o=0:=W
   obtain hc1|hc1:=hc1
   ·refine Ls.ir c.lc c.ls hc1 (Fs.cf b) (Fs.pc 1) (yf _).symm m z ?_;have:X (own p (H b) l)<=X l:=by unfold own;exact xfD _ _
    lia
   ·lia
  refine⟨j++[b],?_,by rw[xaq,List.length_singleton];lia,λg hg=> ?_,?_⟩
  ·rw[zP,Y<|vP c.ok iI W n,x,yL,Q]
  ·obtain hg|hg:=So.1 hg
   ·exact c.gd g hg
   ·obtain rfl:=xad.1 hg;exact⟨c.can,y,⟨_,c.lc.ps,c.lc.tp.2⟩,c.ok,c.ln⟩
  ·rw[c.pr,xba,w9];show _=prZ _*(H b*D 1);rw[yf]
 ·refine⟨j,by rw[zA],W,c.gd,?_⟩;have⟨d,hd⟩:=((Cp.tp c.lc.tp).2 W).ex;rw[hd]at m;have C:=c.lc.ps;have E:H b (X b-1)=d:=by rw[hd,(W:X b-1=0)];exact iq O
  rw[c.pr,hd];obtain e|e:=CC m
  ·rw[e,yf]
  ·lia
end
end Go.Proofs.YtmggkmchbdanfaaGreat
