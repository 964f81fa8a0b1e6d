/- What a proof needs: rules of walking, mirrors of functions and their plain laws. No condition. -/
import Derived.Test.YtdpdofimolhigaaGreatZa6
set_option linter.all false
namespace Go.Proofs.YtdpdofimolhigaaGreat
open Bool renaming true->I,false->yL
open Go.Proofs.YtdpdofimolhigaaGreat renaming cf->M,Zr->G,bd->Y,za->U,ci->C,nm->B,cC->D,pc->F,ze->Q,zf->E,Pz->A,iq->S
open List renaming length->X
open Option renaming some->Z
open _root_ renaming rfl->O,List->N,Int->J,Nat->K,Option->V,List->zC,Int->zI,Nat->zV,trivial->xS,absurd->wl,Bool->ws,funext->wu,congrArg->wF,if_true->wN,if_false->wP,decide_eq_false->wS,decide_eq_true->wU,Unit->wW,True->vF,congrFun->vN,of_decide_eq_true->vR,False->jN,if_pos->Zc
open Bool renaming false_eq_true->xaj
open Classical renaming byContradiction->xac,choose_spec->xfr,not_forall->xfx
open Int renaming add_comm->xfG,add_zero->xby,dvd_mul_left->xcB,dvd_mul_right->xck,dvd_of_emod_eq_zero->xaA,dvd_refl->xej,dvd_sub->xdm,dvd_trans->xbu,dvd_zero->xdr,ediv_mul_cancel->xeL,emod_add_mul_ediv->xfq,emod_emod->xay,emod_emod_of_dvd->xcE,emod_eq_emod_iff_emod_sub_eq_zero->xaC,emod_eq_of_lt->xax,emod_eq_zero_of_dvd->xaq,emod_lt_of_pos->xdw,emod_nonneg->xcJ,eq_ofNat_of_zero_le->xat,le_refl->xfh,mul_assoc->xcv,mul_comm->xaX,mul_dvd_mul->xfE,mul_emod->xaY,mul_eq_zero->xeB,mul_le_mul_of_nonneg_left->xaN,mul_ne_zero->xeh,mul_nonneg->xcD,mul_one->xci,mul_zero->xaw,natAbs_dvd_natAbs->xcp,natAbs_ediv_le_natAbs->xbX,natAbs_mul->xcK,natAbs_natCast->xaW,natCast_add->xeT,natCast_dvd_natCast->xde,one_mul->xcr,pow_succ->xbo,pow_zero->xbD,sub_self->xdL,sub_zero->xcy,tdiv->xbQ,tdiv_eq_ediv_of_nonneg->xcN,tmod->xbn,toNat_natCast->xaJ,toNat_of_nonneg->xcV,zero_add->xco,zero_ediv->xdX,zero_emod->xae,zero_mul->xaK,zero_sub->xfH
open List renaming append_assoc->xal,append_nil->xbN,append_of_mem->xdY,cons_append->xbJ,drop->xdD,ext_getElem?->xcC,filter_cons->xfu,filter_cons_of_neg->xeW,filter_cons_of_pos->xeV,getD_eq_getElem?_getD->Yh,getElem?_append_left->xbb,getElem?_append_right->xbv,getElem?_drop->xeP,getElem?_eq_getElem->xaa,getElem?_map->xbZ,getElem_mem->xbx,getElem_of_mem->xcz,length->xaD,length_append->xak,length_cons->xar,length_drop->xca,length_eq_zero_iff->xbs,length_filter_le->xfs,length_map->xaV,length_nil->xbA,length_pos_of_mem->xfb,length_range->xeg,length_set->xbz,length_take->xap,map_append->xaU,map_congr_left->xce,map_cons->xch,map_map->xcP,mem_append->pN,mem_append_left->xcF,mem_append_right->xdZ,mem_cons->PQ,mem_cons_of_mem->kE,mem_cons_self->Qh,mem_filter->xcf,mem_iff_getElem->xdF,mem_map->xan,mem_map_of_mem->xbH,mem_of_mem_drop->xfw,mem_range->xaZ,mem_singleton->xab,nodup_cons->xeU,not_mem_nil->QT,pairwise_append->xdg,pairwise_cons->xbR,pairwise_iff_forall_sublist->xdh,pairwise_iff_getElem->xcR,pairwise_map->xeF,perm_middle->xcj,range->xaE,range_succ->xdb,replicate->sR,take->xdo,take_of_length_le->xaQ
open List.Pairwise renaming nil->xfc
open List.Perm renaming append_left->xbC,refl->xdJ
open Nat renaming add_assoc->xcL,add_comm->xdI,add_mul->xaT,add_zero->xbM,beq->xad,div_div_eq_div_mul->xaB,div_eq_of_lt->xbc,div_one->xdz,eq_of_beq_eq_true->xdn,eq_zero_or_pos->xcb,gcd->xdR,gcd_comm->xdW,le_mul_of_pos_left->xdj,le_mul_of_pos_right->xcl,le_refl->eZ,le_trans->PX,lt_of_le_of_lt->xaG,lt_of_lt_of_le->xah,lt_of_not_le->xcT,lt_succ_self->xdy,min_eq_left->xcg,mod_eq_of_lt->xag,mod_lt->xaI,mul_comm->xaH,mul_le_mul->xbp,mul_le_mul_left->xas,mul_le_mul_right->xaf,mul_one->xdl,not_lt_zero->xbf,one_mul->xbL,pos_of_ne_zero->xcm,pow_add->xbq,pow_le_pow_right->xam,pow_lt_pow_right->xdE,pow_mul->xbT,pow_pos->xaP,pow_succ->xbi,pow_zero->xeA,strongRecOn->xcY,sub_self->xcX,zero_le->sB
open Option renaming getD_some->xeq
open Prod renaming ext->xeX
section
variable{m u d g:zC zI}{P:zV}{f v w:Pz}{y p a:zI}{b:zV->Pz}{l us:zC (zC zI)}
def pp(f:A):K->A
 |0=>F 1
 |n+1=>pp f n*f
def SD(f:A)(m:K):∀n,pp f (m+n)=pp f m*pp f n
 |0=>(yp _).symm
 |n+1=>by rw[<-xcL];show pp f (m+n)*f=_;rw[SD f m n,zd];rfl
def zna(f g:A):∀n,pp (f*g) n=pp f n*pp g n
 |0=>(yp _).symm
 |n+1=>by
  show pp (f*g) n*(f*g)=pp f n*f*(pp g n*g);rw[zna f g n,zd,zd,zD<|pp g n]
def zmn(f:A)(m:K):∀n,pp (pp f m) n=pp f (m*n)
 |0=>rfl
 |n+1=>by rw[Nat.mul_succ,SD f,<-zmn f m n];rfl
def zpi(c:J):∀n,pp (F c) n=F (c^n)
 |0=>by rw[xbD];rfl
 |n+1=>by show pp (F c) n*F c=_;rw[zpi c n,uk,xbo]
def Fs.pp{f:A}(h:Fs f):∀n,Fs (pp f n)
 |0=>⟨1,λk c=>zA⟩
 |n+1=>(Fs.pp h n).mul h
def smP:K->(K->A)->A
 |0,_=>pc 0
 |n+1,F=>smP n F+F n
def QB{F G:K->A}:∀n,(∀i,i<n->F i=G i)->smP n F=smP n G
 |0,_=>rfl
 |n+1,h=>by show smP n F+F n=smP n G+G n;rw[QB n λi hi=>h i W,h n W]
def zhL{m:J}{F G:K->A}:∀n,(∀i,i<n->Cg m (F i) (G i))->Cg m (smP n F) (smP n G)
 |0,_=>Cg.rfl
 |n+1,h=>(zhL n λi hi=>h i W).add<|h n W
theorem UY(f g:A):f+g=g+f:=by grind [zG,xfG]
def J7(f g h:A):f+g+h=f+(g+h):=wu λk=>by simp only[zG];lia
def QU(f:A):f+F 0=f:=wu λk=>by rw[zG,zE,xby]
def OQ(f:A):F 0+f=f:=wu λk=>by rw[zG,zE,xco]
def Ew(g:A)(F:K->A):∀n,smP n F*g=smP n λi=>F i*g
 |0=>zT g
 |n+1=>by show(smP n F+F n)*g=smP n (λi=>F i*g)+F n*g;rw[yu,Ew g F n]
def zdw(F G:K->A):∀n,smP n (λi=>F i+G i)=smP n F+smP n G
 |0=>(QU _).symm
 |n+1=>by
  show smP n (λi=>F i+G i)+(F n+G n)=smP n F+F n+(smP n G+G n);rw[zdw F G n];funext k;simp only[zG];lia
def Wi(F:K->A):∀n,smP (n+1) F=F 0+smP n λi=>F (i+1)
 |0=>by show pc 0+F 0=F 0+pc 0;rw[UY]
 |n+1=>by show smP (n+1) F+F (n+1)=F 0+(smP n (λi=>F<|i+1)+F (n+1));rw[Wi F n,J7]
def zov{m:J}{F:K->A}(n:K)(h:∀i,i<n->Cg m (F i) (pc 0)):Cg m (smP n F) (pc 0):=by
 induction n with
 |zero=>exact Cg.rfl
 |succ n c=>
  have:=(c λi hi=>h i W).add (h n W);rw[QU]at this;exact this
theorem zii(a b:J):F (a+b)=F a+F b:=by grind [F,zG]
def zl0(f g:A):∀n,pp (f+g) n=smP (n+1) λi=>F (nH n i)*(pp f i*pp g (n-i))
 |0=>by
  show F 1=F 0+F ((nH 0 0:K):J)*(F 1*F 1);rw[OQ,zB,show((nH 0 0:K):J)=1 from O,zB]
 |n+1=>by
  show pp (f+g) n*(f+g)=_;rw[zl0 f g n,xu,Ew,Ew];have e1:(smP (n+1) λi=>F (nH n i)*(pp f i*pp g (n-i))*g)=smP (n+2) λi=>F (nH n i)*(pp f i*pp g (n+1-i)):=by
   have c:F ((nH n (n+1):K):J)*(pp f (n+1)*pp g (n+1-(n+1)))=F 0:=by rw[Ft n (n+1) W];exact zT _
   show _=smP (n+1) _+F ((nH n (n+1):K):J)*(pp f (n+1)*pp g (n+1-(n+1)));rw[c,QU];refine QB _ λi hi=> ?_;rw[(W:n+1-i=n-i+1),zd,zd];rfl
  have e:(smP (n+1) λi=>F (nH n i)*(pp f i*pp g (n-i))*f)=smP (n+1) λi=>F (nH n i)*(pp f (i+1)*pp g (n+1-(i+1))):=
   QB _ λi hi=>by rw[(W:n+1-(i+1)=n-i),zd,zk (pp f i*_) f,<-zd f,zk f<|pp f i];rfl
  rw[e1,e,Wi _<|n+1,Wi (λi=>F ((nH (n+1) i:K):J)*(pp f i*pp g (n+1-i)))<|n+1,JZ,JZ,<-J7,UY<|smP _ _,J7,<-zdw];congr 1;refine QB _ λi hi=> ?_;rw[ax,xeT,zii,yu,UY]
def zwS(hp:2<=P)(hn:kQ P)(f g:A):Cg (P:J) (pp (f+g) P) (pp f P+pp g P):=by
 obtain⟨q,rfl⟩:∃q,P=q+1:=⟨P-1,W⟩;rw[zl0];show Cg _ (smP (q+1) _+pc ((nH (q+1) (q+1):K):J)*(pp f (q+1)*pp g (q+1-(q+1)))) _;rw[Wi,OJ,JZ,xcX,show((1:K):J)=1 from O,zB,zB];have e:=zov (m:=((q+1:K):J)) (F:=λi=>pc ((nH (q+1) (i+1):K):J)*(pp f (i+1)*pp g (q+1-(i+1)))) q λi hi=>Cg.of_dvd λk=>by
  rw[zU];exact xbu (xde.2<|zja hp hn)<|xck _ _
 have h1:pp f 0*pp g (q+1-0)=pp g (q+1):=zB _;have h:pp f (q+1)*pp g 0=pp f (q+1):=yp _;rw[h1,h];have c:=((Cg.rfl (m:=((q+1:K):J)) (f:=pp g<|q+1)).add e).add<|Cg.rfl (f:=pp f<|q+1);rw[QU,UY (pp g _)<|pp f _]at c;exact c
def zbM{P:K}(hp:2<=P)(hn:kQ P)(F:K->A):∀n,Cg (P:J) (pp (smP n F) P) (smP n λi=>pp (F i) P)
 |0=>by
  show Cg _ (pp (pc 0) P) (pc 0);rw[zpi,Int.zero_pow W];exact Cg.rfl
 |n+1=>(zwS hp hn (smP n F)<|F n).trans<|(zbM hp hn F n).add Cg.rfl
def vx:A:=mono 1 1
def zi1(c:J):∀i,(mono i c:A)=F c*pp vx i
 |0=>by
  show _=F c*F 1;rw[yp];funext k;unfold mono F;rfl
 |i+1=>by
  show _=F c*(pp vx i*vx);rw[<-zd,<-zi1 c i];funext k;rw[zk];show mono (i+1) c k=((mono 1 1:A)*mono i c) k;rw[qF];unfold sh mono;by_cases h:1<=k
  ·rw[S h];by_cases e:k=i+1
   ·rw[S e,zS,xcr]
   ·rw[ir e,zA,xaw]
  ·rw[ir h,zA];rfl
def zok{n:K}(h:∀k,n<=k->f k=0):f=smP n λi=>mono i (f i):=by
 have e:∀m k,smP m (λi=>(mono i (f i):A)) k=if k<m then f k else 0:=λm=>by
  induction m with
  |zero=>intro k;rw[zA];exact zE k
  |succ m j=>
   intro k;show(smP m (λi=>(mono i (f i):A))+mono m (f m)) k=_;rw[zG,j];unfold mono;by_cases h1:k=m
   ·rw[S h1,zA,zS,h1,xco]
   ·rw[ir h1,xby];by_cases c:k<m
    ·rw[S c,zS]
    ·rw[ir c,zA]
 funext k;rw[e];split
 ·rfl
 ·exact h k W
def Oe(hp:2<=P)(hn:kQ P)(a:J):a^P%P=a%P:=by
 have h1:a%P=((a%P).toNat:J)%P:=by
  have:=xcJ a (W:(P:J)≠0);rw[xcV this,xay]
 have c:=zg5 hp hn (a%P).toNat;have e:=xcJ a (W:(P:J)≠0);rw[xcV e,xay]at c;rw[<-c,<-xcE (a^P)<|xej _];have:∀n,(a%P)^n%P=a^n%P:=λn=>by
  induction n with
  |zero=>rw[xbD,xbD]
  |succ n h=>rw[xbo,xbo,xaY,h,xay,<-xaY]
 rw[this,xay]
def zwv(hp:2<=P)(hn:kQ P){n:K}(h:∀k,n<=k->f k=0):Cg (P:J) (pp f P) (smP n λi=>F (f i)*pp (pp vx P) i):=by
 have h1:pp f P=pp (smP n λi=>mono i<|f i) P:=by rw[<-zok h]
 rw[h1];refine(zbM hp hn _ n).trans<|zhL n λi hi=> ?_;rw[zi1,zna,zpi,zmn,zmn,xaH];refine Cg.mul (λk=> ?_) Cg.rfl;unfold F;split
 ·exact Oe hp hn _
 ·rfl
def es(d:K->J):K->J->J
 |0,_=>0
 |n+1,a=>d 0+a*es (λk=>d<|k+1) n a
theorem znR(a:J):∀(n:K) (d:K->J),∃q:K->J,(∀b,es d (n+1) b=(b-a)*es q n b+es d (n+1) a)/\(∀k,k<n->d (k+1)=q k-a*(if k+1<n then q (k+1)else 0))/\d 0=es d (n+1) a-a*(if 0<n then q 0 else 0)
 |0,d=>⟨λ_=>0,λb=>by show d 0+b*0=(b-a)*0+(d 0+a*0);grind,λk i=>by lia,by show d 0=d 0+a*0-a*(if 0<0 then 0 else 0);rw[zA];grind⟩
 |n+1,d=>by
  have⟨q,h1,j,h⟩:=znR a n λk=>d<|k+1;have⟨e,c⟩:∃e,e=es (λk=>d<|k+1) (n+1) a:=⟨_,O⟩;rw[<-c]at h1 h
  refine⟨λk=>match k with
   |0=>e
   |k+1=>q k,λb=> ?_,λk i=> ?_,?_⟩
  ·show d 0+b*es (λk=>d<|k+1) (n+1) b=(b-a)*(e+b*es q n b)+(d 0+a*es (λk=>d<|k+1) (n+1) a);rw[h1 b,<-c];generalize es q n b=x;grind
  ·cases k with
   |zero=>
    show d (0+1)=e-a*(if 0+1<n+1 then q 0 else 0);have o:d (0+1)=e-a*(if 0<n then q 0 else 0):=h;rw[o];by_cases hn:0<n
    ·rw[S hn,zS]
    ·rw[ir hn,zA]
   |succ k=>
    show d (k+1+1)=q k-a*(if k+1+1<n+1 then q (k+1)else 0);rw[j k W];by_cases hn:k+1<n
    ·rw[S hn,zS]
    ·rw[ir hn,zA]
  ·show d 0=d 0+a*es (λk=>d<|k+1) (n+1) a-a*(if 0<n+1 then e else 0);rw[zS,c];grind
theorem zb6(hp:2<=P)(hn:kQ P){x:J}(h:(P:J)∣x*y):(P:J)∣x\/(P:J)∣y:=by
 by_cases c:(P:J)∣x
 ·exact .inl c
 ·right;have h0:0<(x%P).toNat:=by
   have h1:=xcJ x (W:(P:J)≠0);have i:x%P≠0:=λe=>c<|xaA e;lia
  have h1:(x%P).toNat<P:=by
   have:=xdw x (W:(0:J)<P);lia
  have i:(P:J)∣(x%P)*y:=by
   have:(x%P)*y=x*y-P*(x/P*y):=by
    have:=xfq x P;grind
   rw[this];exact xdm h<|xck _ _
  have k:P∣(x%P).toNat*y.natAbs:=by
   have j:=xcp.2 i;rw[xcK]at j;have n:(x%P).natAbs=(x%P).toNat:=W
   rwa[xaW,n]at j
  exact xcp.1<|by rw[xaW];exact zkk hp hn h0 h1 k
def zjJ{P:K}(hp:2<=P)(hn:kQ P):∀(n:K) (d:K->J),n<=P->(∀a:K,a<n->(P:J)∣es d n a)->∀k,k<n->(P:J)∣d k
 |0,_,_,_,k,i=>by lia
 |n+1,d,t,h,k,i=>by
  have⟨q,h1,j,o⟩:=znR (n:J) n d;have e:=zjJ hp hn n q W λa x=>by
   have e1:=h1 a;have r:(P:J)∣((a:J)-n)*es q n a:=by
    have:((a:J)-n)*es q n a=es d (n+1) a-es d (n+1) n:=W
    rw[this];exact xdm (h a W)<|h n W
   obtain e3|e3:=zb6 hp hn r
   ·exfalso;have⟨c,hc⟩:=e3;have z:c<0:=by
     apply Int.not_le.1;intro s;have:=xcD (W:(0:J)<=P) s;lia
    have A:(P:J)*c<=(P:J)*(-1):=xaN W W;lia
   ·exact e3
  have hd:=h n W
  cases k with
  |zero=>
   rw[o];refine xdm hd ?_;split
   ·exact xbu (e 0 W)<|xcB _ _
   ·rw[xaw];exact xdr _
  |succ k=>
   rw[j k W];refine xdm (e k W) ?_;split
   ·exact xbu (e (k+1) W)<|xcB _ _
   ·rw[xaw];exact xdr _
def sc:K->K->J
 |0,k=>if k=0 then 1 else 0
 |n+1,0=> -(n:J)*sc n 0
 |n+1,k+1=>sc n k-(n:J)*sc n (k+1)
theorem HQ:∀n k,n<k->sc n k=0
 |0,k,h=>zA
 |n+1,0,h=>by lia
 |n+1,k+1,h=>by show sc n k-(n:J)*sc n (k+1)=0;rw[HQ n k W,HQ n (k+1) W];grind
theorem zhx:∀n,sc n n=1
 |0=>rfl
 |n+1=>by show sc n n-(n:J)*sc n (n+1)=1;rw[zhx n,HQ n (n+1) W];grind
def prv(v:A):K->A
 |0=>F 1
 |n+1=>prv v n*(v-F n)
theorem zjo(a:J)(f:A):F (-a)*f= -(F a*f):=by grind [ziQ,zU,Int.neg_mul]
theorem zi3(v:A):∀n,prv v n=smP (n+1) λk=>pc (sc n k)*pp v k
 |0=>by
  show pc 1=pc 0+pc (sc 0 0)*pc 1;rw[OQ,show sc 0 0=1 from O,yp]
 |n+1=>by
  show prv v n*(v-pc n)=_;have e:∀F G:A,F*(G-pc n)=F*G+ -(pc n*F):=λF G=>by rw[ve,zk F<|pc n,zgo]
  rw[e,zi3 v n,Ew];have c: -(pc (n:J)*smP (n+1) λk=>pc (sc n k)*pp v k)=smP (n+2) λk=>pc (-(n:J)*sc n k)*pp v k:=by
   rw[<-zjo,zk,Ew];show _=smP (n+1) _+pc (-(n:J)*sc n (n+1))*pp v (n+1);rw[HQ n (n+1) W,xaw,zT,QU];exact QB _ λi _=>by rw[zk,<-zd,uk]
  rw[c,Wi _<|n+1,Wi (λk=>pc (sc (n+1) k)*pp v k)<|n+1,<-J7,UY<|smP _ _,J7,<-zdw];congr 1;refine QB _ λi _=> ?_;show pc (sc n i)*pp v i*v+pc (-(n:J)*sc n (i+1))*pp v (i+1)=pc (sc n i-(n:J)*sc n (i+1))*pp v (i+1);rw[zd];show pc (sc n i)*pp v (i+1)+_=_;rw[<-yu,<-zii];congr 2;grind
theorem oJ(d:K->J)(a:J):∀n,es d (n+1) a=es d n a+d n*a^n:=by
 intro n
 induction n generalizing d with
 |zero=>show d 0+a*0=0+d 0*a^0;rw[xbD];grind
 |succ n c=>
  show d 0+a*es (λk=>d<|k+1) (n+1) a=d 0+a*es (λk=>d<|k+1) n a+d (n+1)*a^(n+1);rw[c,xbo];grind
theorem zh3(c d:K->J)(a:J):∀n,es (λk=>c k+d k) n a=es c n a+es d n a
 |0=>rfl
 |n+1=>by rw[oJ,oJ,oJ,zh3 c d a n];grind
def prn(a:J):K->J
 |0=>1
 |n+1=>prn a n*(a-n)
theorem zmK(a:J):∀n,prn a n=es (sc n) (n+1) a
 |0=>by show(1:J)=1+a*0;grind
 |n+1=>by
  show prn a n*(a-n)=_;have h1:es (sc<|n+1) (n+2) a= -(n:J)*sc n 0+a*es (λk=>sc n k-(n:J)*sc n (k+1)) (n+1) a:=O;have e:es (λk=>sc n k-(n:J)*sc n (k+1)) (n+1) a=es (sc n) (n+1) a+es (λk=> -(n:J)*sc n (k+1)) (n+1) a:=by rw[<-zh3];congr 1;funext k;grind
  have h:∀m (d:K->J) (c:J),es (λk=>c*d k) m a=c*es d m a:=λm=>by
   induction m with
   |zero=>intro d c;show(0:J)=c*0;grind
   |succ m i=>intro d c;rw[oJ,oJ,i];grind
  have j:es (sc n) (n+2) a=es (sc n) (n+1) a:=by rw[oJ,HQ n (n+1) W,xaK,xby]
  have o:es (sc n) (n+2) a=sc n 0+a*es (λk=>sc n<|k+1) (n+1) a:=O;rw[h1,e,h,zmK a n];grind
def ziO{a:K}:∀n,a<n->prn a n=0
 |0,h=>by lia
 |n+1,h=>by
  show prn a n*((a:J)-n)=0;by_cases e:a=n
  ·rw[e,xdL,xaw]
  ·rw[ziO n W,xaK]
theorem zuQ(hp:2<=P)(hn:kQ P)(k:K):sc P k%P=(if k=P then(1:J)else if k=1 then-1 else 0)%P:=by
 by_cases h:k<P
 ·have i:=zjJ hp hn P (λk=>sc P k+(if k=1 then 1 else 0)) (eZ _) (λa j=>by
   rw[zh3];have e1:es (λk=>if k=1 then(1:J)else 0) P (a:J)=a:=by
    obtain⟨q,rfl⟩:∃q,P=q+2:=⟨P-2,W⟩;show(0:J)+a*((1:J)+a*es (λk=>if k+1+1=1 then(1:J)else 0) q a)=a;have:∀m,es (λk=>if k+1+1=1 then(1:J)else 0) m (a:J)=0:=λm=>by
     induction m with
     |zero=>rfl
     |succ m n=>rw[oJ,n,zA];grind
    rw[this];grind
   have o:=zmK (a:J) P;rw[ziO P j,oJ,zhx]at o;have r:=Oe hp hn (a:J);rw[e1];have s:es (sc P) P (a:J)+a=a-a^P:=by grind
   rw[s];exact xaA<|xaC.1 r.symm) k h
  rw[zA];have c:=xaq i;by_cases h1:k=1
  ·rw[S h1]at c⊢;refine xaC.2 ?_;rw[(W:sc P k- -1=sc P k+1)];exact c
  ·rw[ir h1]at c⊢;rw[xby]at c;rw[c,xae]
 ·by_cases e:k=P
  ·rw[S e,e,zhx]
  ·rw[ir e,zA,HQ P k W]
def zo5:∀n,(smP n λ_=>F 0)=F 0
 |0=>rfl
 |n+1=>by show(smP n λ_=>F 0)+F 0=F 0;rw[zo5 n,QU]
def zqM(hp:2<=P)(hn:kQ P)(v:A):Cg (P:J) (prv v P) (pp v P-v):=by
 rw[zi3]
 have h1:Cg (P:J) (smP (P+1) λk=>F (sc P k)*pp v k) (smP (P+1) λk=>F (if k=P then(1:J)else if k=1 then-1 else 0)*pp v k):=
  zhL _ λk _=>Cg.mul (λj=>by unfold F;split;exact zuQ hp hn k;rfl) Cg.rfl
 refine h1.trans<|Cg.of ?_;obtain⟨q,rfl⟩:∃q,P=q+2:=⟨P-2,W⟩;show smP (q+2) _+F (if q+2=q+2 then(1:J)else _)*pp v (q+2)=_;rw[S O,zB,Wi _<|q+1,Wi _ q,zA,zA,zA,S O];have c:(smP q λk=>F (if k+1+1=q+2 then(1:J)else if k+1+1=1 then-1 else 0)*pp v (k+1+1))=F 0:=by
  rw[QB (G:=λ_=>F 0) q λi hi=>by rw[zA,zA,zT]];exact zo5 q
 rw[c];have e:F (-1)*pp v (0+1)= -v:=by
  rw[zjo,zB];show-(F 1*v)= -v;rw[zB]
 rw[e,zT];funext k;simp only[zG,yT,ziQ,zE];lia
def Di(p:J)(u v:A):Prop:=∃q:A,Fs q/\Cg p v (q*u)
def Di.refl(p:J)(u:A):Di p u u:=⟨F 1,Fs.pc 1,Cg.of (zB u).symm⟩
def Di.trans{p:J}{u v w:A}(h:Di p u v)(g:Di p v w):Di p u w:=by
 have⟨q,f1,h1⟩:=h;have⟨r,f2,c⟩:=g;exact⟨r*q,f2.mul f1,c.trans<|((Cg.rfl (f:=r)).mul h1).trans<|Cg.of (zd r q u).symm⟩
def Di.add{p:J}{u v w:A}(h:Di p u v)(g:Di p u w):Di p u (v+w):=by
 have⟨q,f1,h1⟩:=h;have⟨r,f2,c⟩:=g;exact⟨q+r,f1.add f2,(h1.add c).trans<|Cg.of (yu q r u).symm⟩
def Di.sub{p:J}{u v w:A}(h:Di p u v)(g:Di p u w):Di p u (v-w):=by
 have⟨q,f1,h1⟩:=h;have⟨r,f2,c⟩:=g;exact⟨q-r,f1.subt f2,(h1.sub c).trans<|Cg.of (ji q r u).symm⟩
def Di.mul{p:J}{u v:A}(w:A)(c:Fs w)(h:Di p u v):Di p u (w*v):=by
 have⟨q,f1,h1⟩:=h;exact⟨w*q,c.mul f1,((Cg.rfl (f:=w)).mul h1).trans<|Cg.of (zd w q u).symm⟩
def Di.cg{u:A}(h:Di p u v)(g:Cg p v w):Di p u w:=by
 have⟨q,f1,h1⟩:=h;exact⟨q,f1,g.symm.trans h1⟩
def Di.zero(p:J)(u:A):Di p u (F 0):=⟨F 0,Fs.pc 0,Cg.of (zT u).symm⟩
def Di.euclid{u:A}(c:Fs w)(h:jj p u v)(g:Di p u (v*w)):Di p u w:=by
 have⟨s,t,fs,e,h1⟩:=h;have i:Cg p (w*s*u+t*(v*w)) w:=by
  refine Cg.trans (Cg.of ?_)<|(h1.mul<|Cg.rfl (f:=w)).trans<|Cg.of<|zB w;rw[yu,zd t,zk (s*u) w,zd w]
 refine Di.cg (Di.add ?_<|g.mul t e) i;exact⟨w*s,c.mul fs,Cg.rfl⟩
def Di.both{u:A}(j:Fs w)(h:jj p u v)(g1:Di p u w)(c:Di p v w):Di p (u*v) w:=by
 have⟨q,fq,h1⟩:=c;have e:Di p u q:=Di.euclid fq h<|g1.cg<|h1.trans<|Cg.of<|zk q v;have⟨r,fr,i⟩:=e;refine⟨r,fr,h1.trans<|(i.mul<|Cg.rfl (f:=v)).trans<|Cg.of<|zd r u v⟩
def Di.prz{p:J}{w:A}(e:Fs w):∀{us:N A},(∀u∈us,Fs u)->us.Pairwise (jj p)->(∀u∈us,Di p u w)->Di p (prZ us) w
 |[],_,_,_=>⟨w,e,Cg.of (yp w).symm⟩
 |u::us,i,hp,h=>by
  have⟨h1,j⟩:=xbR.1 hp;refine Di.both e ?_ (h u<|Qh)<|Di.prz e (λg c=>i g<|kE _ c) j λg c=>h g<|kE _ c;exact(jj.prZ (i u<|Qh) (λg c=>i g<|kE _ c) λg c=>(h1 g c).symm).symm
structure KT(p:J)(u:N J):Prop where
 mn:xZ p u
 l1:1<u.length
 ir:∀d,xZ p d->Di p (C d) (C u)->d.length=1\/d=u
def zca{a b:N J}(hp:2<=p)(c:xZ p a)(i:xZ p b)(h:Di p (C a) (C b))(hl:X b<=X a):a=b:=by
 have⟨q,fq,h1⟩:=h;have⟨n,hn⟩:=fq;have hd:=c.ln;have x:=i.ln;have z:=dm hp i c ⟨n,hn⟩ h1;have e:X a=X b:=W
 have j:Cg p ((q-F 1)*C a) (C b-C a):=by
  rw[ji,zB];exact h1.symm.sub Cg.rfl
 have o:=c.mn.zero hp (Fs.subt ⟨n,hn⟩<|Fs.pc 1) λk A=>by
  rw[j k,yT];by_cases hc:k=X a-1
  ·have r:=c.top;have s:=i.top;rw[hc,r,e,s,xdL,xae]
  ·rw[zW W,zW W];exact xae _
 refine c.fm.ext i.fm ?_;have t:=j.symm.trans<|o.mul_zero_r<|C a;exact(Cg.iff_sub.2 t).symm
theorem KT.or(hp:wB p=I){l:N J}(c:KT p u)(i:X u<=290)(hl:Fp p l)(j:X l<=290):Di p (ci u) (ci l)\/jj p (ci u) (ci l):=by
 have⟨k,r⟩:=zp hp;have⟨d,s,t,_,e,hd⟩:=ZM (fu:=3000000) hp c.mn.fm hl i j<|eZ _;have h:=Na k c.mn e hd;have⟨A,C,n,o,h1,q⟩:=e.dv;rcases c.ir d h ⟨A,n,h1⟩with h3|h3
 ·exact .inr<|zcJ e h3 h.top
 ·left;rw[<-h3];exact⟨C,o,q⟩
def KT.ne(hp:2<=p)(e:KT p u):¬Di p (C u) (F 1):=λ⟨q,fq,h⟩=>by
 have hl:=e.l1;have h1:=e.mn.mn.zero hp fq λk i=>by rw[<-h k,show F 1 k=0 from zA,xae]
 have c:=(h.trans<|h1.mul_zero_r _) 0;rw[zE,xae]at c;unfold F at c;rw[S O,xax YL W]at c;cases c
theorem KT.cop(hp:wB p=I){w:N J}(c:KT p u)(e:KT p w)(i:X u<=290)(j:X w<=290)(h:u≠w):jj p (C u) (C w):=by grind [KT.or,xZ.fm,KT.mn,KT.ir,KT.l1]
def quo(hp:wB p=I)(e:xZ p m)(hd:xZ p d)(k:X m<=90000)(h:Di p (C d) (C m)):∃q,xZ p q/\Cg p (C m) (C q*C d)/\X m+1=X q+X d:=by
 have⟨i,x⟩:=zp hp;have⟨A,j,h1⟩:=h;have z:=dm i e hd j h1;have⟨q,r,_,n,o,s,t,B⟩:=xO (fu:=3000000) hp e.fm hd.fm hd.ln k W<|eZ _;have⟨a,b,c⟩:=Gi i e hd j h1 n o s t;exact⟨q,a,b,c⟩
def zxG(hp:wB p=I):∀(n:K) {m:N J},X m=n->n<=290->xZ p m->∃us:N (N J),(∀u∈us,KT p u/\X u<=n)/\Cg p (C m) (prZ<|us.map C):=by
 intro n
 induction n using xcY with
 |ind n j=>
  intro m H hn c;have⟨s,L⟩:=zp hp;have M:=c.ln;by_cases h1:X m=1
  ·refine⟨[],(λu e=>by cases e),?_⟩;have:=c.one h1;rw[this];refine Cg.of<|funext λk=> ?_;show C [1] k=F 1 k
   cases k with
   |zero=>rfl
   |succ k=>rw[zW Xn];exact(zA).symm
  by_cases hi:KT p m
  ·refine⟨[m],λu e=> ?_,?_⟩
   ·rw[xab.1 e];exact⟨hi,W⟩
   ·exact Cg.of (yp<|C m).symm
  ·have⟨d,i,o,Q,t⟩:∃d,xZ p d/\Di p (C d) (C m)/\X d≠1/\d≠m:=by
    apply xac;intro x;refine hi ⟨c,W,λd z A=> ?_⟩;by_cases r:X d=1
    ·exact .inl r
    ·right;apply xac;intro B;exact x ⟨d,z,A,r,B⟩
   have⟨q,D,E,R⟩:=quo hp c i W o;have S:=i.ln;have hv:X d<X m:=by
    apply xcT;intro h;exact t<|zca s i c o h
   have⟨us,hc,G⟩:=j (X d) W O W i;have⟨vs,hd,hl⟩:=j (X q) W O W D;refine⟨vs++us,λu e=> ?_,?_⟩
   ·obtain h|h:=pN.1 e
    ·exact⟨(hd u h).1,by have:=(hd u h).2;lia⟩
    ·exact⟨(hc u h).1,by have:=(hc u h).2;lia⟩
   ·rw[xaU,wO];exact E.trans<|hl.mul G
def iA{p:J}{u:A}:∀{us:N A},(∀w∈us,Fs w)->u∈us->Di p u (prZ us)
 |[],_,h=>by cases h
 |w::us,c,h=>by
  have i:=Fs.prZ λg e=>c g<|kE _ e;obtain rfl|h:=PQ.1 h
  ·exact⟨prZ us,i,Cg.of<|zk _ _⟩
  ·exact(iA (λg e=>c g<|kE _ e) h).mul w<|c w<|Qh
def KT.mem{p:J}(hp:wB p=I){u:N J}(c:KT p u)(k:X u<=290):∀{us:N (N J)},(∀w∈us,KT p w/\X w<=290)->Di p (C u) (prZ<|us.map C)->u∈us
 |[],_,h=>wl h<|c.ne (zp hp).1
 |w::us,i,h=>by
  by_cases e:u=w
  ·rw[e];exact Qh
  ·have h1:=c.cop hp (i w<|Qh).1 k (i w<|Qh).2 e;refine kE _<|KT.mem hp c k (λg j=>i g<|kE _ j)<|Di.euclid (Fs.prZ λg j=> ?_) h1 h;obtain⟨l,_,rfl⟩:=xan.1 j;exact Fs.ci l
def Fs.to{n:K}(h:∀k,n<=k->f k=0):Fs f:=⟨n,h⟩
def Fs.vx:Fs vx:=⟨2,λk c=>zA⟩
def lst(hp:0<p){n:K}(h:∀k,n<=k->f k=0):∃l:N J,Fp p l/\X l<=n/\Cg p (C l) f:=by
 refine⟨pm p<|zl n f,mj hp _,PX (zbp _ _) (by rw[zF];exact eZ _),?_⟩;exact(zaY p _).trans<|Cg.of<|funext λk=>qP h k
def KT.or'(hp:wB p=I)(e:KT p u)(i:X u<=290){n:K}(h:∀k,n<=k->f k=0)(hn:n<=290):Di p (C u) f\/jj p (C u) f:=by
 have⟨j,o⟩:=zp hp;have⟨l,h1,q,c⟩:=lst (p:=p) W h;obtain h4|h4:=e.or hp i h1 W
 ·exact .inl<|h4.cg c
 ·exact .inr<|h4.congr Cg.rfl c
def KT.const(hp:2<=p)(e:KT p u){c:J}(h:Di p (C u) (F c)):p∣c:=by
 have⟨q,fq,h⟩:=h;have hl:=e.l1;have h1:=e.mn.mn.zero hp fq λk j=>by rw[<-h k,show F c k=0 from zA,xae]
 have i:=(h.trans<|h1.mul_zero_r _) 0;rw[zE,xae]at i;exact xaA i
def Di.const{c:J}{u:A}(h:p∣c):Di p u (F c):=(Di.zero p u).cg λk=>by
 rw[zE];unfold F;split
 ·rw[xae,xaq h]
 ·rfl
def Vl(p:J)(u:N J)(v:A)(c:J):Prop:=Di p (C u)<|v-F c
theorem zhZ(a b:J):F (a-b)=F a-F b:=by grind [F,yT]
def Vl.uniq(hp:2<=p)(c:KT p u){b:J}(h:Vl p u v a)(g:Vl p u v b):p∣a-b:=by
 refine c.const hp<|(Di.sub g h).cg<|Cg.of ?_;rw[zhZ];funext k;simp only[yT];lia
def Vl.add{p:J}{u:N J}{v w:A}{a b:J}(h:Vl p u v a)(g:Vl p u w b):Vl p u (v+w) (a+b):=by
 refine(Di.add h g).cg<|Cg.of ?_;rw[zii];funext k;simp only[zG,yT];lia
def Vl.sub{p:J}{u:N J}{v w:A}{a b:J}(h:Vl p u v a)(g:Vl p u w b):Vl p u (v-w) (a-b):=by
 refine(Di.sub h g).cg<|Cg.of ?_;rw[zhZ];funext k;simp only[yT];lia
def Vl.mul{p:J}{u:N J}{v w:A}{a b:J}(c:Fs v)(h:Vl p u v a)(g:Vl p u w b):Vl p u (v*w) (a*b):=by
 refine(Di.add (Di.mul v c g)<|Di.mul (F b) (Fs.pc b) h).cg<|Cg.of ?_;rw[ve,ve,zk v<|F b,uk,xaX b a];funext k;simp only[zG,yT];lia
def Vl.pc(p:J)(u:N J)(c:J):Vl p u (F c) c:=(Di.zero p<|C u).cg<|Cg.of<|funext λk=>by rw[yT,zE,xdL]
def Vl.pp{p:J}{u:N J}{v:A}{a:J}(c:Fs v)(h:Vl p u v a):∀n,Vl p u (pp v n) (a^n)
 |0=>by rw[xbD];exact Vl.pc p u 1
 |n+1=>by rw[xbo];exact Vl.mul (c.pp n) (Vl.pp c h n) h
def Vl.cg{p:J}{u:N J}{v w:A}{a:J}(h:Vl p u v a)(g:Cg p v w):Vl p u w a:=Di.cg h<|g.sub Cg.rfl
def Vl.md{b:J}(h:Vl p u v a)(g:p∣a-b):Vl p u v b:=by
 refine(Di.add h<|Di.const (u:=C u) g).cg<|Cg.of ?_;rw[zhZ];funext k;simp only[zG,yT];lia
def Vl.di(hp:2<=p)(c:KT p u)(h:Vl p u v a):Di p (C u) v↔p∣a:=by
 constructor
 ·intro g;have h0:Vl p u v 0:=g.cg (Cg.of<|funext λk=>by rw[yT,zE,xcy]);have:=h.uniq hp c h0;rwa[xcy]at this
 ·intro g;have h0:Vl p u v 0:=h.md (by rwa[xcy]);exact Di.cg h0<|Cg.of<|funext λk=>by rw[yT,zE,xcy]
def zpy{p:J}(hp:wB p=I){u:N J}(e:KT p u)(o:X u<=290){v:A}{n:K}(hv:∀k,n<=k->v k=0)(q:1<=n)(hn:n<=290):∀j,Di p (C u) (prv v j)->∃c:K,c<j/\Vl p u v c
 |0,h=>wl h<|e.ne (zp hp).1
 |j+1,h=>by
  have r:∀k,n<=k->(v-F (j:J)) k=0:=λk s=>by rw[yT,hv k s,show F (j:J) k=0 from zA];rfl
  obtain h1|h1:=e.or' hp o r hn
  ·exact⟨j,W,h1⟩
  ·have t:∀i,Fs (prv v i):=λi=>by
    induction i with
    |zero=>exact Fs.pc 1
    |succ i x=>exact x.mul<|(Fs.to hv).subt<|Fs.pc _
   have z:Di p (C u) (prv v j):=Di.euclid (t j) h1<|h.cg<|Cg.of<|zk _ _;have⟨c,hc,B⟩:=zpy hp e o hv q hn j z;exact⟨c,W,B⟩
def zq3(hp:wB (P:J)=I)(h:KT (P:J) u)(i:X u<=290)(hc:Di (P:J) (C u) (C m)){n:K}(hv:∀k,n<=k->v k=0)(hd:1<=n)(hn:n<=290)(j:Di (P:J) (C m) (pp v P-v)):∃c:K,c<P/\Vl (P:J) u v c:=by
 have⟨o,q⟩:=zp hp;have e:=Wa hp;rw[xaJ]at e;exact zpy hp h i hv hd hn P<|(hc.trans j).cg (zqM W e v).symm
def zw9{p:J}{m:N J}(c:xZ p m):∀(n:K) (f:A),(∀k,n<=k->f k=0)->∃q r:A,Fs q/\(∀k,X m-1<=k->r k=0)/\f=q*C m+r
 |0,f,h=>⟨F 0,F 0,Fs.pc 0,λk _=>zE k,wu λk=>by rw[zG,zT,zE,h k W];rfl⟩
 |n+1,f,h=>by
  have hl:=c.ln;by_cases hn:n+1<=X m-1
  ·exact⟨F 0,f,Fs.pc 0,λk i=>h k W,wu λk=>by rw[zG,zT,zE,xco]⟩
  ·have⟨d,hd⟩:∃d,d=X m-1:=⟨_,O⟩;have⟨q,r,fq,j,o⟩:=zw9 c n (f-mono (n-d) (f n)*C m) λk i=>by
    rw[yT,qF];unfold sh;rw[zS];by_cases e:k=n
    ·have s:=c.top;rw[e,(W:n-(n-d)=X m-1),s];lia
    ·rw[h k W,zW W];lia
   refine⟨q+mono (n-d) (f n),r,fq.add ⟨n+1,λk i=>zA⟩,j,?_⟩;rw[yu];funext k;have:=vN o k;simp only[zG,yT]at this⊢;lia
def zwl(hp:wB (P:J)=I)(R:xZ (P:J) m)(H:∀u∈us,KT (P:J) u/\X u<=290)(U5:us.Pairwise (λa b=>jj (P:J) (C a)<|C b))(hc:Cg (P:J) (C m) (prZ<|us.map C))(K:u∈us):
 ∃e:A,(∀k,X m-1<=k->e k=0)/\Vl (P:J) u e 1/\(∀w,w∈us->w≠u->Vl (P:J) w e 0)/\Di (P:J) (C m) (pp e P-e):=by
 have⟨L,p2⟩:=zp hp;have S:=Wa hp;rw[xaJ]at S;have⟨a,b,hd⟩:=xdY K;have o:∀{l:N (N J)},∀g∈l.map C,Fs g:=λg x=>by obtain⟨l,_,rfl⟩:=xan.1 x;exact Fs.ci l
 have⟨i,E⟩:∃i,i=prZ ((a++b).map C):=⟨_,O⟩;have T:Fs i:=by rw[E];exact Fs.prZ o
 have U:jj (P:J) (C u) i:=by
  rw[E];refine(jj.prZ (Fs.ci u) o λg x=> ?_).symm;obtain⟨l,hl,rfl⟩:=xan.1 x;rw[hd,xdg,xbR]at U5;obtain h|h:=pN.1 hl
  ·exact U5.2.2 l h u<|Qh
  ·exact(U5.2.1.1 l h).symm
 have⟨s,t,fs,M,h1⟩:=U;have⟨n,hn⟩:=M.mul T;have⟨q,e,fq,Q,V⟩:=zw9 R n (t*i) hn;have Y:∀w∈us,Di (P:J) (C w) (C m):=λw j=>Di.cg (iA o<|xbH j) hc.symm;have hi:∀w∈us,∀{c:J},Vl (P:J) w (t*i) c->Vl (P:J) w e c:=λw j c h=>by
  have z:=Di.sub h<|Di.mul q fq<|Y w j;refine z.cg<|Cg.of ?_;rw[V];funext k;simp only[zG,yT];lia
 have v1:Vl (P:J) u e 1:=hi u K (by
  have z:Di (P:J) (C u) (F 0-s*C u):=(Di.zero _ _).sub ⟨s,fs,Cg.rfl⟩;refine z.cg<|Cg.trans (Cg.of ?_)<|(Cg.rfl (f:=t*i)).sub h1;funext k;simp only[zG,yT,zE];lia)
 have v0:∀w,w∈us->w≠u->Vl (P:J) w e 0:=λw j hr=>hi w j (by
  have h3:w∈a++b:=by
   rw[hd]at j;obtain h|h:=pN.1 j
   ·exact xcF _ h
   ·obtain h|h:=PQ.1 h
    ·exact wl h hr
    ·exact xdZ _ h
  have z:Di (P:J) (C w) i:=by rw[E];exact iA o<|xbH h3
  exact(z.mul t M).cg<|Cg.of<|funext λk=>by rw[yT,zE,xcy])
 refine⟨e,Q,v1,v0,?_⟩;have D:=Fs.to Q;have hj:Di (P:J) (prZ<|us.map C) (pp e P-e):=by
  refine Di.prz ((D.pp P).subt D) o ?_ λg x=> ?_
  ·exact xeF.2 U5
  ·obtain⟨w,j,rfl⟩:=xan.1 x;by_cases G:w=u
   ·subst G;have B:=Vl.sub (Vl.pp D v1 P) v1;rw[Int.one_pow,xdL]at B;exact(B.di L (H w j).1).2<|xdr _
   ·have B:=Vl.sub (Vl.pp D (v0 w j G) P)<|v0 w j G;rw[Int.zero_pow W,xdL]at B;exact(B.di L (H w j).1).2<|xdr _
 have⟨r,fr,h5⟩:=hj;exact⟨r,fr,h5.trans<|Cg.rfl.mul hc.symm⟩
def EC{p:J}{u:N J}{a c:K->J}{b:K->A}:∀n,(∀i,i<n->Vl p u (b i) (c i))->Vl p u (smP n λi=>F (a i)*b i) (yA n λi=>a i*c i)
 |0,_=>Vl.pc p u 0
 |n+1,h=>Vl.add (EC n λi hi=>h i W)<|Vl.mul (Fs.pc _) (Vl.pc p u<|a n)<|h n W
def sep(hp:wB (P:J)=I)(s:xZ (P:J) m)(j:∀u∈us,KT (P:J) u/\X u<=290)(U5:us.Pairwise (λa b=>jj (P:J) (C a)<|C b))(hc:Cg (P:J) (C m) (prZ<|us.map C)){n:K}(t:∀e:A,(∀k,X m-1<=k->e k=0)->Di (P:J) (C m) (pp e P-e)->∃a:K->J,Cg (P:J) e<|smP n λi=>F (a i)*b i){w:N J}(o:u∈us)(hd:w∈us){c:K->J}(h1:∀i,i<n->Vl (P:J) u (b i) (c i))(x:∀i,i<n->Vl (P:J) w (b i) (c i)):u=w:=by
 have⟨q,M⟩:=zp hp;apply xac;intro z;have⟨e,e1,B,D,E⟩:=zwl hp s j U5 hc o;have⟨a,r⟩:=t e e1 E;have f1:=(EC (a:=a) n h1).cg r.symm;have f2:=(EC (a:=a) n x).cg r.symm;have g1:=B.uniq q (j u o).1 f1;have G:=(D w hd λh=>z h.symm).uniq q (j w hd).1 f2;have H:=xdm g1 G;have⟨k,Q⟩:=H;have L:(P:J)*k=1:=W
 have h6:k=1\/k<=0\/2<=k:=W
 obtain h6|h6|h6:=h6
 ·rw[h6]at L;lia
 ·have:=xaN h6 (W:(0:J)<=P);lia
 ·have:=xaN h6 (W:(0:J)<=P);lia
theorem zjE{P:J}{a b:J}(h:P∣a-b):∀n:K,P∣a^n-b^n
 |0=>by rw[xbD,xbD,xdL];exact xdr _
 |n+1=>by
  have⟨x,c⟩:=h;have⟨y,e⟩:=zjE ⟨x,c⟩ n;refine⟨y*a+b^n*x,?_⟩;rw[xbo,xbo];grind
def Gq(P:K)(y:J):Prop:=if 2<P then(P:J)∣y^((P-1)/2)-1 else(P:J)∣y
def Gq.md{z:J}(h:(P:J)∣y-z)(g:Gq P y):Gq P z:=by
 unfold Gq at g⊢;split
 ·rw[Zc ‹_›]at g;have:=zjE h<|(P-1)/2;have e:=xdm g this;have c:y^((P-1)/2)-1-(y^((P-1)/2)-z^((P-1)/2))=z^((P-1)/2)-1:=W
  rwa[c]at e
 ·rw[if_neg ‹_›]at g;have e:=xdm g h;have c:y-(y-z)=z:=W
  rwa[c]at e
def Gq.iff{z:J}(h:(P:J)∣y-z):Gq P y↔Gq P z:=by
 refine⟨Gq.md h,Gq.md ?_⟩;have⟨k,c⟩:=h;exact⟨-k,by rw[Int.mul_neg];lia⟩
def zgY(hp:wB (P:J)=I){d:J}(hd:¬(P:J)∣d):∃k:K,(P:J)∣(k:J)*d-1:=by
 have⟨n,o⟩:=zp hp;have h0:=xcJ d (W:(P:J)≠0);have h1:=xdw d (W:(0:J)<P);have q:d%P≠0:=λe=>hd<|xaA e;have c:=OO hp (W:0<d%P) h1;have⟨x,h⟩:∃x,x=(d%P)^((P:J)-2).toNat:=⟨_,O⟩;rw[<-h]at c;have i:0<=x:=by rw[h];exact Int.pow_nonneg h0
 refine⟨x.toNat,?_⟩;rw[xcV i];have j:(x*d)%P=1%P:=by rw[xaY,<-xcE d<|xej _,<-xaY,c,xax YL W]
 exact xaA<|xaC.1 j
def zqf(hp:wB (P:J)=I)(A:P=2\/P%2=1){b:J}(h:∀c:K,c<P->(Gq P (a+c)↔Gq P (b+c))):(P:J)∣a-b:=by
 have⟨B,C⟩:=zp hp;apply xac;intro hd;have n:∀y:J,Gq P (a+y)↔Gq P (b+y):=λy=>by
  have e1:=xcJ y (W:(P:J)≠0);have D:=xdw y (W:(0:J)<P);have j:=h (y%P).toNat W;rw[xcV e1]at j;have E:(P:J)∣y-y%P:=⟨y/P,by have:=xfq y P;lia⟩;have o:(P:J)∣a+y-(a+y%P):=by rwa[(W:a+y-(a+y%P)=y-y%P)]
  have r:(P:J)∣b+y-(b+y%P):=by rwa[(W:b+y-(b+y%P)=y-y%P)]
  exact(Gq.iff o).trans<|j.trans (Gq.iff r).symm
 have s:∀y:J,Gq P y↔Gq P (y+(a-b)):=λy=>by
  have:=n<|y-b;rw[(W:b+(y-b)=y),(W:a+(y-b)=y+(a-b))]at this;exact this.symm
 have t:∀k:K,Gq P 0↔Gq P ((k:J)*(a-b)):=λk=>by
  induction k with
  |zero=>rw[show((0:K):J)=0 from O,xaK]
  |succ k x=>
   refine x.trans<|(s _).trans ?_;rw[xeT,Int.add_mul,show((1:K):J)=1 from O,xcr]
 have⟨k,h1⟩:=zgY hp hd;have e:=(t k).trans<|Gq.iff h1;have hc:¬(P:J)∣1:=λ⟨q,z⟩=>by
  have h6:q<=0\/1<=q:=W
  obtain h6|h6:=h6
  ·have:=xaN h6 (W:(0:J)<=P);lia
  ·have:=xaN h6 (W:(0:J)<=P);lia
 unfold Gq at e;by_cases i:2<P
 ·rw[S i,S i,Int.one_pow,xdL,Int.zero_pow W]at e;have:=e.2<|xdr _;refine hc ?_;have⟨q,z⟩:=this;exact⟨-q,by rw[Int.mul_neg];lia⟩
 ·rw[ir i,ir i]at e;exact hc<|e.1<|xdr _
theorem zpR(A B D:K->J)(x z:J):∀n,yA n (λi=>A i*(B i-x*D i*z))=yA n (λi=>A i*B i)-x*z*yA n (λi=>A i*D i)
 |0=>by show(0:J)=0-x*z*0;lia
 |n+1=>by
  show yA n _+A n*(B n-x*D n*z)=yA n _+A n*B n-x*z*(yA n _+A n*D n);rw[zpR A B D x z n];grind
theorem R9{P:K}(hp:wB (P:J)=I):∀(n:K) (c:N K) (A C:K->K->J),c.Nodup->(∀j∈c,∀k∈c,(P:J)∣yA n (λi=>A j i*C i k)-(if j=k then 1 else 0))->X c<=n
 |0,[],_,_,_,_=>eZ _
 |0,j::c,A,C,_,h=>by
  exfalso;have⟨p1,p2⟩:=zp hp;have:=h j (Qh) j<|Qh;rw[S O]at this;have⟨q,L⟩:=this;have hg:(0:J)-1=P*q:=L;have h6:q<= -1\/0<=q:=W
  obtain h6|h6:=h6
  ·have:=xaN h6 (W:(0:J)<=P);lia
  ·have:=xcD (W:(0:J)<=P) h6;lia
 |n+1,c,A,C,t,h=>by
  by_cases D:∀j∈c,(P:J)∣C n j
  ·refine Nat.le_succ_of_le<|R9 hp n c A C t λj r k z=> ?_;have h1:=h j r k z;have B:(P:J)∣A j n*C n k:=xbu (D k z)<|xcB _ _;have M:=xdm h1 B;have e:yA (n+1) (λi=>A j i*C i k)-(if j=k then 1 else 0)-A j n*C n k=yA n (λi=>A j i*C i k)-(if j=k then 1 else 0):=by
    show yA n _+A j n*C n k-_-A j n*C n k=_;lia
   rwa[e]at M
  ·have⟨o,E,hc⟩:∃o,o∈c/\¬(P:J)∣C n o:=by
    apply xac;intro Q;refine D λj r=> ?_;apply xac;intro h1;exact Q ⟨j,r,h1⟩
   have⟨x,R⟩:=zgY hp hc;have hd:=List.length_erase_of_mem E;have T:=xfb E;have:=R9 hp n (c.erase o) A (λi k=>C i k-(x:J)*C i o*C n k) (t.erase o) λj r k z=>by
    have⟨n1,G⟩:=t.mem_erase_iff.1 r;have⟨n2,U⟩:=t.mem_erase_iff.1 z;have h1:=h j G k U;have B:=h j G o E;rw[ir n1,xcy]at B;rw[zpR];have⟨k1,e1⟩:=h1;have⟨k2,H⟩:=B;have⟨V,e3⟩:=R;have s:yA n (λi=>A j i*C i k)+A j n*C n k-(if j=k then 1 else 0)=P*k1:=e1;have F:yA n (λi=>A j i*C i o)+A j n*C n o=P*k2:=H;have Y:(if j=k then(1:J)else 0)=if j=k then 1 else 0:=O;generalize(if j=k then(1:J)else 0)=dl at s⊢;generalize yA n (λi=>A j i*C i k)=s1 at s⊢;generalize yA n (λi=>A j i*C i o)=s0 at F⊢;refine⟨k1-((x:J)*C n k*k2-A j n*C n k*V),?_⟩;clear e1 H Y D hc h hd T;grind
   lia
structure Sf(p:J)(m:N J)(us:N (N J)):Prop where
 hp:wB p=I
 mn:xZ p m
 ml:m.length<=290
 ir:∀u∈us,KT p u/\u.length<=290
 pw:us.Pairwise (λa b=>jj p (C a)<|C b)
 cg:Cg p (C m) (prZ<|us.map C)
theorem ib:∀g∈l.map C,Fs g:=by grind [C,Fs.ci]
theorem KT.self(hp:2<=p)(c:KT p u):¬jj p (C u) (C u):=λ⟨s,t,fs,e,h⟩=>by
 refine c.ne hp ⟨s+t,fs.add e,h.symm.trans<|Cg.of ?_⟩;rw[yu]
def Sf.dv(h:Sf p m us)(c:u∈us):Di p (C u) (C m):=(iA ib<|xbH c).cg h.cg.symm
def Sf.mem{p:J}{m:N J}{us:N (N J)}(h:Sf p m us){u:N J}(c:KT p u)(e:X u<=290)(hd:Di p (C u) (C m)):u∈us:=c.mem h.hp e h.ir<|hd.cg h.cg
def Sf.sq(h:Sf p m us)(e:u∈us):¬Di p (C u*C u) (C m):=λhd=>by
 have⟨c,A⟩:=zp h.hp;obtain⟨a,b,rfl⟩:=xdY e;have⟨hi,j⟩:=h.ir u e;have U5:=h.pw;rw[xdg,xbR]at U5;have⟨q,fq,h1⟩:=hd;have i:=h.cg;rw[xaU,xch,wO]at i;have n:Cg p (prZ (a.map C)*(C u*prZ (b.map C))) (q*(C u*C u)):=i.symm.trans h1;have o:Fs (prZ<|(a++b).map C):=Fs.prZ ib;have r:Cg p ((prZ ((a++b).map C)-q*C u)*C u) (F 0):=by
  rw[ji,xaU,wO];refine Cg.trans (Cg.sub (Cg.of ?_)<|Cg.of<|zd q (C u)<|C u)<|Cg.iff_sub.1 n;rw[zd,zk<|prZ<|b.map C]
 have s:=hi.mn.mn.zero c (o.subt<|fq.mul<|Fs.ci u) λk B=>by rw[r k,zE,xae]
 have t:Di p (C u) (prZ<|(a++b).map C):=⟨q,fq,Cg.iff_sub.2 s⟩;have x:=hi.mem h.hp j (us:=a++b) (λw z=>by
  obtain h|h:=pN.1 z
  ·exact(by assumption:Sf p m (a++u::b)).ir w<|xcF _ h
  ·exact(by assumption:Sf p m (a++u::b)).ir w<|xdZ _<|kE _ h) t
 obtain h8|h8:=pN.1 x
 ·exact hi.self c<|U5.2.2 u h8 u<|Qh
 ·exact hi.self c<|U5.2.1.1 u h8
def Sf.len(h:Sf p m us)(c:xZ p g)(hd:Di p (C g) (C m)):X g<=290:=by
 have⟨q,fq,h1⟩:=hd;exact PX (dm (zp h.hp).1 h.mn c fq h1) h.ml
def Sf.some{p:J}{m:N J}{us:N (N J)}(h:Sf p m us){g:N J}(e:xZ p g)(hd:Di p (C g) (C m))(hl:1<X g):∃u,u∈us/\Di p (C u) (C g):=by
 have j:=h.len e hd;have⟨vs,h1,i⟩:=zxG h.hp (X g) O j e
 cases vs with
 |nil=>
  exfalso;have c:=i<|X g-1;have k:=e.top;have hp:=(zp h.hp).1;rw[k,show prZ (List.map C [])=F 1 from O,show F 1 (X g-1)=0 from zA,xae,xax YL W]at c;cases c
 |cons v vs=>
  have c:Di p (C v) (C g):=(iA ib<|xbH<|Qh).cg i.symm;have⟨n,o⟩:=h1 v<|Qh;exact⟨v,h.mem n W<|c.trans hd,c⟩
def Sf.one{p:J}{m:N J}{us:N (N J)}(h:Sf p m us){g:N J}(c:xZ p g)(hd:Di p (C g) (C m))(hl:1<X g)(o:∀u∈us,∀w∈us,Di p (C u) (C g)->Di p (C w) (C g)->u=w):KT p g:=by
 have⟨s,A⟩:=zp h.hp;have B:=h.len c hd;have⟨u,i,h1⟩:=h.some c hd hl;have⟨hi,D⟩:=h.ir u i;have⟨q,j,k,E⟩:=quo h.hp c hi.mn W h1;by_cases t:1<X q
 ·exfalso;have hc:Di p (C q) (C g):=⟨C u,Fs.ci u,k.trans<|Cg.of<|zk _ _⟩;have⟨w,x,n⟩:=h.some j (hc.trans hd) t;have e:=o w x u i (n.trans hc) h1;subst e;have⟨r,fr,z⟩:=n;refine h.sq i<|Di.trans ⟨r,fr,k.trans<|(z.mul Cg.rfl).trans<|Cg.of<|zd _ _ _⟩ hd
 ·have hn:=j.ln;have F:=j.one W;have:g=u:=by
   refine(zca s hi.mn c h1 ?_).symm;lia
  rw[this];exact hi
def Sf.apart(h:Sf p m us){a b:A}(k:Fs a)(n:Fs b)(c:Di p (a*b) (C m))(e:u∈us)(h1:Di p (C u) a)(i:Di p (C u) b):jN:=by
 have⟨q,fq,e1⟩:=h1;have⟨r,fr,j⟩:=i;refine h.sq e<|Di.trans ⟨q*r,fq.mul fr,(e1.mul j).trans<|Cg.of ?_⟩ c;rw[zd,zd,zD (C u) r]
def zt9{t e i:N J}{S:K}(c:BzR p g t d e i S)(u:N J):Di p (ci u) (ci d)↔Di p (ci u) (ci g)/\Di p (ci u) (ci t):=by
 have⟨A,C,j,k,h1,n⟩:=c.dv;refine⟨λh=>⟨h.trans ⟨A,j,h1⟩,h.trans ⟨C,k,n⟩⟩,λ⟨a,b⟩=> ?_⟩;exact(Di.add (a.mul _<|Fs.ci _)<|b.mul _<|Fs.ci _).cg c.cg.symm
def oE{α:Type}[DecidableEq α]:∀{vs us:N α},vs.Nodup->(∀v∈vs,v∈us)->X vs<=X us
 |[],_,_,_=>sB _
 |v::vs,us,hn,h=>by
  have⟨h1,i⟩:=xeU.1 hn;have hv:=h v<|Qh;have j:=oE (us:=us.erase v) i λw c=>by
   refine(List.mem_erase_of_ne λe=> ?_).2<|h w<|kE _ c;rw[e]at c;exact h1 c
  have k:=List.length_erase_of_mem hv;have n:=xfb hv;simp only[xar];lia
def Sf.nodup(h:Sf p m us):us.Nodup:=by
 have hp:=(zp h.hp).1;have:∀us:N (N J),(∀u∈us,KT p u/\X u<=290)->us.Pairwise (λa b=>jj p (C a)<|C b)->us.Nodup:=λus=>by
  induction us with
  |nil=>intro _ _;exact List.nodup_nil
  |cons u us c=>
   intro hi e;have⟨w1,i⟩:=xbR.1 e;refine xeU.2 ⟨λj=> ?_,c (λg k=>hi g<|kE _ k) i⟩;exact(hi u<|Qh).1.self hp<|w1 u j
 exact this us h.ir h.pw
structure Pl(p:J)(m:N J)(l:N (N J)):Prop where
 mn:∀g∈l,xZ p g/\1<g.length
 pr:Cg p (C m) (prZ<|l.map C)
def Pl.dv(h:Pl p m l)(c:g∈l):Di p (C g) (C m):=(iA ib<|xbH c).cg h.pr.symm
theorem zkf(a b:N (N J))(g:N J):prZ ((a++g::b).map C)=C g*prZ ((a++b).map C):=by grind [prZ,C,wO,zD]
def Sf.pick{p:J}{m:N J}{us:N (N J)}(h:Sf p m us):∀{l:N (N J)},(∀g∈l,xZ p g/\1<X g)->Di p (prZ<|l.map C) (C m)->∃vs:N (N J),X vs=X l/\vs.Nodup/\∀v∈vs,v∈us/\Di p (C v) (prZ<|l.map C)
 |[],_,_=>⟨[],O,List.nodup_nil,λv hv=>by cases hv⟩
 |g::l,c,hd=>by
  have fl:Fs (prZ<|l.map C):=Fs.prZ ib;have d1:Di p (C g) (prZ<|(g::l).map C):=⟨prZ<|l.map C,fl,Cg.of<|zk _ _⟩;have d2:Di p (prZ<|l.map C) (prZ<|(g::l).map C):=⟨C g,Fs.ci g,Cg.rfl⟩;have⟨j,k⟩:=c g<|Qh;have⟨u,e,i⟩:=h.some j (d1.trans hd) k;have⟨vs,v1,n,v3⟩:=h.pick (λg o=>c g<|kE _ o)<|d2.trans hd;refine⟨u::vs,by simp[v1],xeU.2 ⟨λhc=> ?_,n⟩,λv hv=> ?_⟩
  ·exact h.apart (Fs.ci g) fl hd e i (v3 u hc).2
  ·obtain rfl|hv:=PQ.1 hv
   ·exact⟨e,i.trans d1⟩
   ·exact⟨(v3 v hv).1,(v3 v hv).2.trans d2⟩
def Sf.more(h:Sf p m us)(hl:Pl p m l){w:N J}(j:g∈l)(c:u∈us)(e:w∈us)(h1:Di p (C u) (C g))(k:Di p (C w) (C g))(n:u≠w):X l<X us:=by
 obtain⟨a,b,rfl⟩:=xdY j;have i:=hl.pr;rw[zkf]at i;have fl:Fs (prZ<|(a++b).map C):=Fs.prZ ib;have hd:Di p (C g*prZ ((a++b).map C)) (C m):=⟨F 1,Fs.pc 1,i.trans<|Cg.of (zB _).symm⟩;have⟨vs,v1,o,v3⟩:=h.pick (l:=a++b) (λx q=>by
  obtain h|h:=pN.1 q
  ·exact hl.mn x<|xcF _ h
  ·exact hl.mn x<|xdZ _<|kE _ h) (Di.trans ⟨C g,Fs.ci g,Cg.rfl⟩ hd)
 have hn:(u::w::vs).Nodup:=by
  refine xeU.2 ⟨λhc=> ?_,xeU.2 ⟨λhc=> ?_,o⟩⟩
  ·obtain hc|hc:=PQ.1 hc
   ·exact n hc
   ·exact h.apart (Fs.ci g) fl hd c h1 (v3 u hc).2
  ·exact h.apart (Fs.ci g) fl hd e k (v3 w hc).2
 have:=oE (us:=us) hn λv hv=>by
  obtain rfl|hv:=PQ.1 hv
  ·exact c
  ·obtain rfl|hv:=PQ.1 hv
   ·exact e
   ·exact(v3 v hv).1
 simp only[xar,xak]at this v1⊢;lia
def Pl.split{a b:N (N J)}{q:N J}(h:Pl p m (a++g::b))(hd:xZ p d)(c:xZ p q)(e:1<X d)(i:1<X q)(hc:Cg p (C g) (C q*C d)):Pl p m (a++d::(b++[q])):=by
 refine⟨λx hx=> ?_,?_⟩
 ·obtain hx|hx:=pN.1 hx
  ·exact h.mn x<|xcF _ hx
  ·obtain rfl|hx:=PQ.1 hx
   ·exact⟨hd,e⟩
   ·obtain hx|hx:=pN.1 hx
    ·exact h.mn x<|xdZ _<|kE _ hx
    ·rw[xab.1 hx];exact⟨c,i⟩
 ·have h1:=h.pr;rw[zkf]at h1⊢;rw[<-xal,xaU,wO];refine h1.trans<|(hc.mul Cg.rfl).trans<|Cg.of ?_;show C q*C d*prZ ((a++b).map C)=C d*(prZ ((a++b).map C)*(C q*F 1));rw[yp,zk (prZ _)<|C q,zD<|C d,zd]
structure Bs(P:K)(m:N J)(b:K->A)(n:K):Prop where
 od:P=2\/P%2=1
 ml:1<m.length
 sp:∀e:A,(∀k,m.length-1<=k->e k=0)->Di (P:J) (C m) (pp e P-e)->∃a:K->J,Cg (P:J) e<|smP n λi=>F (a i)*b i
 sm:∀i,i<n->∀k,m.length-1<=k->b i k=0
 fx:∀i,i<n->Di (P:J) (C m) (pp (b i) P-b i)
def Bs.val(h:Sf (P:J) m us){n:K}(e:Bs P m b n)(j:u∈us){i:K}(hi:i<n):∃c:K,c<P/\Vl (P:J) u (b i) c:=by
 have hl:=h.ml;have k:=e.ml;exact zq3 h.hp (h.ir u j).1 (h.ir u j).2 (h.dv j) (n:=X m-1) (e.sm i hi) W W<|e.fx i hi
def Bs.le(h:Sf (P:J) m us){n:K}(D:Bs P m b n):X us<=n:=by
 have⟨E,Y⟩:=zp h.hp;have hl:=h.nodup;have hd:∀j,j<X us->us.getD j []∈us:=λj k=>by rw[Yh,xaa k];exact xbx k
 have G:∀i j,∃c:J,i<n->j<X us->Vl (P:J) (us.getD j []) (b i) c:=λi j=>by
  by_cases hi:i<n
  ·by_cases k:j<X us
   ·have⟨c,_,hc⟩:=D.val h (hd j k) hi;exact⟨c,λ_ _=>hc⟩
   ·exact⟨0,λ_ h=>wl h k⟩
  ·exact⟨0,λh=>wl h hi⟩
 have H:∀j,∃a:K->J,j<X us->∃e:Pz,Cg (P:J) e (smP n λi=>F (a i)*b i)/\Vl (P:J) (us.getD j []) e 1/\∀w,w∈us->w≠us.getD j []->Vl (P:J) w e 0:=λj=>by
  by_cases k:j<X us
  ·have⟨e,e1,t,x,s⟩:=zwl h.hp h.mn h.ir h.pw h.cg<|hd j k;have⟨a,T⟩:=D.sp e e1 s;exact⟨a,λ_=>⟨e,T,t,x⟩⟩
  ·exact⟨λ_=>0,λh=>wl h k⟩
 have z:∃A:K->K->J,∀j,j<X us->∃e:Pz,Cg (P:J) e (smP n λi=>F (A j i)*b i)/\Vl (P:J) (us.getD j []) e 1/\∀w,w∈us->w≠us.getD j []->Vl (P:J) w e 0:=⟨λj=>Classical.choose<|H j,λj=>xfr<|H j⟩;have B:∃C:K->K->J,∀i j,i<n->j<X us->Vl (P:J) (us.getD j []) (b i) (C i j):=⟨λi j=>Classical.choose<|G i j,λi j=>xfr<|G i j⟩;have⟨A,z⟩:=z;have⟨C,B⟩:=B;have:=R9 h.hp n (xaE (X us)) A C List.nodup_range λj k o U=>by
  have l1:=xaZ.1 k;have r:=xaZ.1 U;have⟨e,e1,t,x⟩:=z j l1;have s:=(EC (a:=A j) n λi hi=>B i o hi r).cg e1.symm;have L:=(h.ir _<|hd o r).1;by_cases q:j=o
  ·subst q;rw[S O];exact s.uniq E L t
  ·rw[ir q];refine s.uniq E L<|x _ (hd o r) λV=>q ?_;have g1:=Yh (l:=us) (i:=j) (a:=[]);have M:=Yh (l:=us) (i:=o) (a:=[]);rw[xaa l1]at g1;rw[xaa r]at M;have Q:us[j]=us[o]:=by
    have:us.getD j []=us.getD o []:=V.symm;rw[g1,M]at this;exact this
   apply xac;intro hh;have R:=xcR.1 hl;obtain hlt|hlt:=Nat.lt_or_gt_of_ne q
   ·exact R j o l1 r hlt Q
   ·exact R o j r l1 hlt Q.symm
 rwa[xeg]at this
def Ct(P:K)(us:N (N J))(v:A)(c:J)(g:N J):Prop:=
 (∀u∈us,Di (P:J) (C u) (C g)->∀a,Vl (P:J) u v a->Gq P (a+c))\/(∀u∈us,Di (P:J) (C u) (C g)->∀a,Vl (P:J) u v a->¬Gq P (a+c))
def Ct.sub{c:J}(h:Ct P us v c g)(hd:Di (P:J) (C d) (C g)):Ct P us v c d:=by
 obtain h|h:=h
 ·exact .inl λu e i=>h u e<|i.trans hd
 ·exact .inr λu e i=>h u e<|i.trans hd
def Pl.done(h:Sf (P:J) m us){n:K}(e:Bs P m b n)(hl:Pl (P:J) m l)(h0:∃c:J,Cg (P:J) (b 0)<|F c)(B:X l=n\/∀i,1<=i->i<n->∀c:K,c<P->∀g∈l,Ct P us (b i) c g):∀g∈l,KT (P:J) g:=λg o=>by
 have⟨H,L⟩:=zp h.hp;have⟨g1,D⟩:=hl.mn g o;refine h.one g1 (hl.dv o) D λu j w k h1 r=> ?_;apply xac;intro A;have hn:=e.le h;have M:=h.more hl o j k h1 r A;obtain he|he:=B
 ·lia
 ·refine A ?_;have hc:∀i,∃c:J,i<n->Vl (P:J) u (b i) c/\Vl (P:J) w (b i) c:=λi=>by
   by_cases hi:i<n
   ·by_cases E:i=0
    ·have⟨c,hc⟩:=h0;subst E;exact⟨c,λ_=>⟨(Vl.pc _ u c).cg hc.symm,(Vl.pc _ w c).cg hc.symm⟩⟩
    ·have⟨x,_,s⟩:=e.val h j hi;have⟨y,_,t⟩:=e.val h k hi;have hd:(P:J)∣(x:J)-y:=zqf h.hp e.od λc G=>by
      obtain ht|ht:=he i W hi c G g o
      ·exact⟨λ_=>ht w k r _ t,λ_=>ht u j h1 _ s⟩
      ·exact⟨λz=>wl z<|ht u j h1 _ s,λz=>wl z<|ht w k r _ t⟩
     exact⟨y,λ_=>⟨s.md hd,t⟩⟩
   ·exact⟨0,λh=>wl h hi⟩
  have q:∃C:K->J,∀i,i<n->Vl (P:J) u (b i) (C i)/\Vl (P:J) w (b i) (C i):=⟨λi=>Classical.choose<|hc i,λi=>xfr<|hc i⟩;have⟨C,q⟩:=q;exact sep h.hp h.mn h.ir h.pw h.cg e.sp j k (λi hi=>(q i hi).1) λi hi=>(q i hi).2
end
section
variable{p:zI}{a g d t v ds m:zC zI}{x y:Pz}{E fu P k i nb:zV}{us l bs:zC (zC zI)}
def Em(p:J)(a:N J)(x y:A):Prop:=Di p (C a)<|x-y
def Em.rfl:Em p a x x:=(Di.zero p<|C a).cg<|Cg.of<|funext λk=>by rw[yT,zE,xdL]
def Em.cg{p:J}{a:N J}{x y:A}(h:Cg p x y):Em p a x y:=(Di.zero p<|C a).cg (Cg.iff_sub.1 h).symm
def Em.symm(h:Em p a x y):Em p a y x:=(Di.sub (Di.zero p<|C a) h).cg<|Cg.of<|funext λk=>by simp only[yT,zE];lia
def Em.trans{z:A}(h:Em p a x y)(g:Em p a y z):Em p a x z:=(Di.add h g).cg<|Cg.of<|funext λk=>by simp only[zG,yT];lia
def Em.mul{p:J}{a:N J}{x y z w:A}(fx:Fs x)(b:Fs w)(h:Em p a x y)(g:Em p a z w):Em p a (x*z) (y*w):=by
 refine(Di.add (Di.mul x fx g)<|Di.mul w b h).cg<|Cg.of ?_;rw[ve,ve,zk w x,zk w y];funext k;simp only[zG,yT];lia
def Em.dv{b:N J}(h:Em p a x y)(g:Di p (C b) (C a)):Em p b x y:=g.trans h
def Em.vl{u:N J}{c:J}(h:Em p u x y)(g:Vl p u y c):Vl p u x c:=by
 refine(Di.add h g).cg<|Cg.of ?_;funext k;simp only[zG,yT];lia
def Em.rest{x q r:N J}(h:Cg p (C x) (C q*C a+C r)):Em p a (C x) (C r):=by
 refine⟨C q,Fs.ci q,(h.sub Cg.rfl).trans<|Cg.of ?_⟩;funext k;simp only[zG,yT];lia
theorem zsk(h0:0<E)(h:E<18446744073709551616):yf (E:J)=(yL,[E]):=by grind [yf,zaP]
def zwk(n:K):n<2^bl n:=by
 induction n using xcY with
 |ind n b=>
  obtain rfl|h:=xcb n
  ·skip;decide
  ·have h1:=b (n/2) W;rw[iB h];lia
structure PwI(p:J)(a w:N J)(E i:K)(t:N J):Prop where
 fp:Fp p t
 ln:t.length<a.length
 em:Em p a (pp (C w)<|E/2^i) (C t)
def dc{w:N J}(hp:wB p=I)(o:Fp p w)(e:xZ p a)(hm:X w<=40000)(hn:X a<=40000)(h0:0<E)(hE:E<1048576)(c:3000000<=fu):
 ∃r,ZT fu w (yf E) a p=Z (r,0)/\Fp p r/\X r<X a/\Em p a (pp (C w) E) (C r):=by
 have⟨p1,h⟩:=zp hp;have hc:=e.ln;have u:=zsk h0 (W:E<18446744073709551616);have z:zn [E]:=λx G=>by rw[xab.1 G];lia
 have H:nv [E]=E:=by simp[nv]
 have M:iw (yf (E:J)):=by rw[u];exact⟨z,Xn⟩
 have⟨q1,r1,d1,d2,d3,d4,d5,d6⟩:=xO (fu:=fu) hp (ZA (x:=1)) e.fm hc Xn W c;have⟨q2,r2,f1,f2,f3,f4,f5,f6⟩:=xO (fu:=fu) hp o e.fm hc W W c;have R:bl E<=20:=ah (W:E<2^20);have hl:ke (E:J) 0=1:=by unfold ke;rw[zA,zS]
 unfold ZT;rw[U<|Zm hp,S O,U<|xM M c,zm,hl,ir YL,U<|zQ W h (e.fm.rl h) W c,e.fm.pm,zA,U d1];simp only;rw[U<|zQ W h (o.rl h) W c,o.pm,U f1];simp only;rw[u];show∃r,Y (ZW fu [E]) _=_/\_;rw[U (Ja z Xn<|by simp;lia),H,zb];have hd:=yb (f:=QA fu (yL,[E]) p a) (λs:N J×N J×J=>∃(i:K) (t:N J),s=(t,r2,(i:J)-1)/\i<=20/\PwI p a w E i t) (λs=>(s.2.2+1).toNat) (λr=>PwI p a w E 0 r) (by
  rintro s L ⟨i,t,rfl,hi,b⟩ A;unfold QA;simp only
  cases i with
  |zero=>rw[zA];exact⟨t,O,b⟩
  |succ i=>
   have ho:=b.ln;have ml:=vy p t t;have⟨q3,j,g1,g2,B,T,V,g6⟩:=xO (fu:=fu) hp (vv (p:=p) W t t) e.fm hc W W c;have n:Em p a (pp (C w)<|E/2^(i+1)+E/2^(i+1)) (C j):=by
    rw[SD];refine(Em.mul ((Fs.ci w).pp _) (Fs.ci t) b.em b.em).trans<|(Em.cg (jD p t t).symm).trans<|Em.rest T
   have ei:((i+1:K):J)-1=(i:J):=W
   have e1:xbQ (i:J) 64=0:=by rw[xcN W];lia
   have e2:xbn (i:J) 64=(i:J):=by rw[Int.tmod_eq_emod_of_nonneg W];lia
   have e3:E/2^i/2=E/2^(i+1):=by rw[xaB,xbi]
   rw[ei,zS,U<|vM W h b.fp b.fp W W c,U g1];simp only;rw[xi YL,e1,fT ⟨YL,YL⟩,show(0:J)=((0:K):J)from O,zo Xn,Q,xi YL,e2,Q,yM,Q,Q];have e4:(([E]:N K).getD 0 0/2^(min (i:J).toNat 64)) &&& 1=E/2^i%2:=by rw[Nat.and_one_is_mod,xaJ,xcg W];rfl
   rw[e4];by_cases hb:E/2^i%2=1
   ·rw[zS];have a0:=vy p j r2;have⟨q4,D,k1,k2,k3,k4,k5,k6⟩:=xO (fu:=fu) hp (vv (p:=p) W j r2) e.fm hc W W c;rw[U<|vM W h B f3 W W c,U k1];simp only;rw[zb];refine A _ ⟨i,D,O,W,⟨k3,k5,?_⟩⟩ (by show((i:J)-1+1).toNat<(((i+1:K):J)-1+1).toNat;lia);have q:E/2^i=E/2^(i+1)+E/2^(i+1)+1:=W
    rw[q];show Em p a (pp (C w) (E/2^(i+1)+E/2^(i+1))*C w) (C D);exact(Em.mul ((Fs.ci w).pp _) (Fs.ci r2) n<|Em.rest f4).trans<|(Em.cg (jD p j r2).symm).trans<|Em.rest k4
   ·rw[zA,zb];refine A _ ⟨i,j,O,W,⟨B,V,?_⟩⟩ (by show((i:J)-1+1).toNat<(((i+1:K):J)-1+1).toNat;lia);have q:E/2^i=E/2^(i+1)+E/2^(i+1):=W
    rw[q];exact n)
 have⟨r,hr,b⟩:=hd fu (r1,r2,((bl E:K):J)-1) ⟨bl E,r1,O,R,⟨d3,d5,by
  have hz:E/2^bl E=0:=xbc<|zwk E;rw[hz];show Em p a (F 1) (C r1);have h1:Em p a (C [1]) (C r1):=Em.rest d4;rwa[va]at h1⟩⟩ (by show(((bl E:K):J)-1+1).toNat<fu;lia)
 refine⟨r,?_,b.fp,b.ln,?_⟩
 ·rw[U hr]
 ·have:=b.em;rwa[xeA,xdz]at this
def zm0{h s:N J}{S:K}(hp:2<=p)(c:xZ p h)(b:BzR p g h d s t S)(hd:X d=0\/ci d (X d-1)=1):xZ p d:=by
 have⟨A,C,f,z2,d1,d2⟩:=b.dv;have hl:0<X d:=by
  refine xcm λe=> ?_;have h1:=d2<|X h-1;rw[c.top,qt,xz λi hi=>by rw[zW W,xaw],xax YL W]at h1;cases h1
 exact⟨b.df,hl,hd.resolve_left W⟩
def zaK(hp:wB p=I)(e:Fp p t)(c:xZ p g)(f:X t<=290)(h:X g<=290)(j:3000000<=fu):
 ∃d,iu fu t g p=Z d/\xZ p d/\Di p (ci d) (ci g)/\∀u:N J,Di p (ci u) (ci d)↔Di p (ci u) (ci t)/\Di p (ci u) (ci g):=by
 obtain⟨n,q⟩:=zp hp;obtain⟨d,r,s,e1,b,o⟩:=VA hp e c.fm f h j;obtain⟨A,C,w,z2,d1,d2⟩:=b.dv;refine⟨d,?_,zm0 n c b o,⟨C,z2,d2⟩,λu=>zt9 b u⟩;unfold iu;rw[U e1]
def zdl(hp:wB p=I)(e:xZ p g)(hd:xZ p d)(B:X g<=290)(h:Di p (C d) (C g))(j:3000000<=fu):
 ∃q,Aa fu g d p=Z q/\xZ p q/\Cg p (C g) (C q*C d)/\X g+1=X q+X d:=by
 have⟨n,f⟩:=zp hp;have⟨A,o,h1⟩:=h;have D:=dm n e hd o h1;have⟨q,r,e1,s,u,w,z,F⟩:=xO hp e.fm hd.fm hd.ln W W j;have⟨a,b,c⟩:=Gi n e hd o h1 s u w z;refine⟨q,?_,a,b,c⟩;unfold Aa uD;rw[U (v:=(q,r,0))];rw[U<|Zm hp,S O,U<|zQ W f (hd.fm.rl f) W j,hd.fm.pm,zA,U<|zQ W f (e.fm.rl f) W j,e.fm.pm,U e1]
def IM{c:J}(hp:wB (P:J)=I)(hv:Rl v)(hi:X v<=290)(o:xZ (P:J) g)(Q:X g<=290)(R:0<=c)(hl:c<P)(b:3000000<=fu):
 ∃t,Uq fu v c g P=Z t/\Fp (P:J) t/\X t<=290/\∀u:N J,KT (P:J) u->Di (P:J) (C u) (C g)->∀x,Vl (P:J) u (C v) x->(Di (P:J) (C u) (C t)↔Gq P (x+c)):=by
 have⟨q,j⟩:=zp hp;have T:=o.ln;have hc:Rl [c]:=λk=>by
  rw[va];unfold F;split
  ·lia
  ·lia
 have⟨w,f⟩:∃w,w=vT (P:J) (pm P v) (pm P [c]) 1:=⟨_,O⟩;have l1:=zbp (P:J) v;have s:=zbp (P:J) [c];have D:X w<=290:=by
  have:=tz (P:J) (pm P v) (pm P [c]) 1;rw[<-f]at this;simp only[xar,xbA]at s;lia
 have z:Fp (P:J) w:=by rw[f];exact YH W _ _ _
 have G:Cg (P:J) (C w) (C v+F c):=by
  rw[f];refine(zdS _ _ _ _).trans<|(zaY _ v).add ?_;rw[zB];exact(zaY _ [c]).trans<|Cg.of<|va c
 have H:dK fu v [c] P=Z (w,0):=by
  unfold dK;rw[U<|Zm hp,S O,U<|zQ W j hv W b,U<|zQ W j hc Xn b,U<|aH W j (mj W v) (mj W [c]) YL W W (by simp only[xar,xbA]at s;lia) b,f]
 have vw:∀u:N J,∀x,Vl (P:J) u (C v) x->Vl (P:J) u (C w) (x+c):=λu x e=>(Vl.add e<|Vl.pc _ u c).cg G.symm;unfold Uq;rw[U H];simp only;by_cases A:2<P
 ·have⟨r,e1,L,V,M⟩:=dc (fu:=fu) (E:=(P-1)/2) hp z o W W W W b;have hd:xbQ ((P:J)-1) 2=(((P-1)/2:K):J):=by rw[xcN W];lia
  have⟨t,h⟩:∃t,t=vT (P:J) r [1] ((P:J)-1):=⟨_,O⟩;have f1:Fp (P:J) [1]:=ZA;have lt:=tz (P:J) r [1]<|(P:J)-1;rw[<-h]at lt;have ct:Cg (P:J) (C t) (C r-F 1):=by
   rw[h];refine(zdS _ _ _ _).trans ?_;rw[va,uk,xci];intro k;rw[zG,yT];unfold F;split
   ·rw[(W:C r k+((P:J)-1)=C r k-1+P*1),Int.add_mul_emod_self_left]
   ·rw[xby,xcy]
  rw[zS,zb,xi YL,hd,zb,U<|yE ⟨W,W⟩ b,U e1];simp only;rw[U<|r7 hp L f1 W Xn b];refine⟨t,by rw[h],by rw[h];exact YH W _ _ _,by simp only[xar,xbA]at lt;lia,λu n B x e=> ?_⟩
  have v1:Vl (P:J) u (C t) ((x+c)^((P-1)/2)-1):=
   (Vl.sub ((Em.dv M B).symm.vl<|Vl.pp (Fs.ci w) (vw u x e)<|(P-1)/2)<|Vl.pc _ u 1).cg ct.symm
  refine(v1.di q n).trans ?_;unfold Gq;rw[S A]
 ·rw[zA];refine⟨w,O,z,D,λu n B x e=> ?_⟩;refine((vw u x e).di q n).trans ?_;unfold Gq;rw[ir A]
def nxt(P:K)(ds:N J)(k:K):J:=if k<X ds then ds.getD k 0%P else((k-X ds:K):J)
theorem BP(b:2<=P)(c:P<=65521)(hd:Rl ds)(e:k<P+X ds)(f:X ds<=1000):XJ fu (k:J) ds P=Z (nxt P ds k)/\0<=nxt P ds k/\nxt P ds k<P:=by
 unfold XJ nxt;by_cases h:k<X ds
 ·rw[zo h,Q,U (show Ys fu (ds.getD k 0) P=Z (ds.getD k 0%P)from XZ W W<|hd k)];have:=yz (a:=ds.getD k 0) (p:=P);simp_all
 ·rw[zb];grind
abbrev Ts:=A->J->Prop
structure Pd(P:K)(m:N J)(us:N (N J))(S:Ts)(l:N (N J)):Prop where
 pl:Pl (P:J) m l
 ts:∀v c,S v c->∀g∈l,Ct P us v c g
def zlY{α:Type}{a b:N α}{g q d:α}:((a++g::b)++[q]).set (X a) d=a++d::(b++[q]):=by
 simp_all
def zoY{α:Type}{l:N α}(h:i<X l)(z:α):∃a b,l=a++l.getD i z::b/\X a=i:=by
 refine⟨l.take i,l.drop<|i+1,?_,by rw[xap];lia⟩;simp_all
theorem X8{α:Type}{l:N α}(h:i<X l)(z:α):l.getD i z∈l:=by grind
def Sf.pl_len(h:Sf p m us)(hl:Pl p m l):X l<=X us:=by
 have⟨vs,v1,b,v3⟩:=h.pick hl.mn ⟨F 1,Fs.pc 1,hl.pr.trans<|Cg.of (zB _).symm⟩;have:=oE b λv hv=>(v3 v hv).1;lia
def zpq{t7:N (N J)}{i2 i4:J}{S:Ts}(h:Sf (P:J) m us)(hH:X us<=290)(hI:X bs=nb)(hE:nb<=290)(hd:Rl ds)(hy:X ds<=1000)(hv:Rl v)(hz:X v<=290)(hk:k<P+X ds)(G:3000000<=fu)(hl:Pd P m us S l):
 ∃r,zg (Kt fu P ds bs P ds i2 (k:J) t7 i4 v) fu (l,0)=Z r/\
  ((∃D,r=.inl D/\Pl (P:J) m D/\X D=nb)\/∃D,r=.inr D/\Pd P m us (λw c=>S w c\/w=C v/\c=nxt P ds k) D):=by
 have⟨H,p2⟩:=zp h.hp;have⟨n1,n2,n3⟩:=BP (fu:=fu) (P:=P) (k:=k) (ds:=ds) W W hd hk hy;refine yb (λs:N (N J)×J=>∃(i:K) (l:N (N J)),s=(l,(i:J))/\Pd P m us S l/\i<=X l/\∀j,j<i->Ct P us (C v) (nxt P ds k) (l.getD j [])) (λs=>300-s.2.toNat) _ ?_ _ _ ⟨0,l,O,hl,sB _,λj F=>by lia⟩ (by show 300-0<fu;lia);rintro s L ⟨i,l,rfl,hl,hi,M⟩ ih;have hJ:=h.pl_len hl.pl;unfold Kt;simp only;by_cases h1:i<X l
 ·rw[zS];by_cases h2:X l=nb
  ·rw[zS];exact⟨_,O,.inl ⟨l,O,hl.pl,h2⟩⟩
  rw[zA,U n1,zo h1,Q];have⟨a,b,z,ho⟩:=zoY h1 [];have hc:=X8 h1 [];have⟨g,f⟩:∃g,g=l.getD i []:=⟨_,O⟩;rw[<-f]at z hc⊢;have⟨g1,g2⟩:=hl.pl.mn g hc;have hA:=hl.pl.dv hc;have R:=h.len g1 hA;have⟨t,t1,t2,t3,t4⟩:=IM (fu:=fu) h.hp hv hz g1 R n2 n3 G;have⟨d,d1,d2,d3,d4⟩:=zaK (fu:=fu) h.hp t2 g1 t3 R G;have hK:=d2.ln;have hF:X d<=X g:=by
   have⟨q,fq,hq⟩:=d3;exact dm H g1 d2 fq hq
  rw[U t1,zo h1,Q,<-f,U d1];have T:∀u∈us,Di (P:J) (C u) (C g)->∀x,Vl (P:J) u (C v) x->(Di (P:J) (C u) (C d)↔Gq P (x+nxt P ds k)):=λu n o x hx=>
   ⟨λY=>(t4 u (h.ir u n).1 o x hx).1 ((d4 u).1 Y).1,λY=>(d4 u).2 ⟨(t4 u (h.ir u n).1 o x hx).2 Y,o⟩⟩
  by_cases h3:1<X d/\X d<X g
  ·have⟨q,q1,q2,q3,q4⟩:=zdl (fu:=fu) h.hp g1 d2 R d3 G;rw[zS,zo h1,Q,<-f,zS,U O];simp only[wN];rw[zo h1,Q,<-f,U q1,xi (by simp;lia),Q,zo (by simp;lia),Q,zb];have hp:(l++[q]).set i d=a++d::(b++[q]):=by rw[z,<-ho,zlY]
   have hB:Di (P:J) (C q) (C g):=⟨C d,Fs.ci d,q3.trans<|Cg.of<|zk _ _⟩;have hr:∀x∈a++d::(b++[q]),x=d\/x=q\/x∈l:=λx hx=>by
    obtain hx|hx:=pN.1 hx
    ·right;right;rw[z];exact xcF _ hx
    ·obtain hx|hx:=PQ.1 hx
     ·exact .inl hx
     ·obtain hx|hx:=pN.1 hx
      ·right;right;rw[z];exact xdZ _<|kE _ hx
      ·exact .inr (.inl<|xab.1 hx)
   have hs:Pl (P:J) m (a++d::(b++[q])):=by
    have:=hl.pl;rw[z]at this;exact this.split d2 q2 W W q3
   refine ih _ ⟨i+1,_,O,?_,?_,?_⟩ ?_
   ·rw[hp];refine⟨hs,λw c A x hx=> ?_⟩;obtain rfl|rfl|hx:=hr x hx
    ·exact(hl.ts w c A g hc).sub d3
    ·exact(hl.ts w c A g hc).sub hB
    ·exact hl.ts w c A x hx
   ·rw[xbz,xak];lia
   ·intro j F;rw[hp];by_cases hn:j=i
    ·left;have e:(a++d::(b++[q])).getD j []=d:=by rw[hn,<-ho,Yh,xbv<|eZ _,xcX];rfl
     rw[e];intro u n hw x hx;exact(T u n (hw.trans d3) x hx).1 hw
    ·have e:(a++d::(b++[q])).getD j []=l.getD j []:=by rw[z,Yh,Yh,xbb W,xbb W]
     rw[e];exact M j W
   ·have:=h.pl_len hs;have hG:X l=X a+1+X b:=by rw[z];simp;lia
    simp only[xak,xar]at this;show 300-((i:J)+1).toNat<300-(i:J).toNat;lia
  ·have hC:Ct P us (C v) (nxt P ds k) g:=by
    by_cases h4:1<X d
    ·left;have e:d=g:=zca H d2 g1 d3 W;intro u n o x hx;exact(T u n o x hx).1<|by rw[e];exact o
    ·right;intro u n o x hx hT;have h5:=(T u n o x hx).2 hT;have h6:d=[1]:=d2.one W;rw[h6,va]at h5;exact(h.ir u n).1.ne H h5
   have hD:(if(1:J)<(X d:J)then
    zH (i:J) (X l) λj5=>
    B (l.getD j5 []) λt13=>
    if(X d:J)<(X t13:J)then
    Z (bs,(P:J),ds,(k:J),v,t7,i4,i2,I)
    else
    Z (bs,(P:J),ds,(k:J),v,t7,i4,i2,yL)
    else
    Z (bs,(P:J),ds,(k:J),v,t7,i4,i2,yL):V (N (N J)×J×N J×J×N J×N (N J)×J×J×ws))=Z (bs,(P:J),ds,(k:J),v,t7,i4,i2,yL):=by
    by_cases h4:1<X d
    ·rw[zS,zo h1,Q,<-f,zA]
    ·rw[zA]
   rw[U hD];simp only[xaj,wP];rw[zb];refine ih _ ⟨i+1,l,O,hl,W,λj F=> ?_⟩ (by show 300-((i:J)+1).toNat<300-(i:J).toNat;lia);by_cases hn:j=i
   ·rw[hn,<-f];exact hC
   ·exact M j W
 ·rw[zA];refine⟨_,O,.inr ⟨l,O,hl.pl,λw c A g f=> ?_⟩⟩;obtain A|⟨rfl,rfl⟩:=A
  ·exact hl.ts w c A g f
  ·have⟨j,F,e⟩:=xcz f;have:=M j W;rw[Yh,xaa F]at this;rw[<-e];exact this
def Pd.mono{S T:Ts}(h:Pd P m us S l)(b:∀v c,T v c->S v c):Pd P m us T l:=⟨h.pl,λv c e=>h.ts v c<|b v c e⟩
def zp7{S:Ts}(h:Sf (P:J) m us)(A:X us<=290)(q:X bs=nb)(hq:1<=nb)(hc:nb<=290)(hd:Rl ds)(hn:X ds<=1000)(hv:∀v∈bs,Rl v/\X v<=290)(B:k<P+X ds)(D:3000000<=fu)(hl:Pd P m us S l):
 ∃r,zg (KF fu P ds (k:J)<|bs.drop 1) fu (bs,(P:J),ds,l,0)=Z r/\
  ((∃f,r=.inl f/\Pl (P:J) m f/\X f=nb)\/∃f,r=.inr (bs,(P:J),ds,f)/\Pd P m us (λw c=>S w c\/∃i,1<=i/\i<nb/\w=C (bs.getD i [])/\c=nxt P ds k) f):=by
 refine yb (λs:N (N J)×J×N J×N (N J)×J=>∃(i:K) (l:N (N J)),s=(bs,(P:J),ds,l,(i:J))/\i+1<=nb/\Pd P m us (λw c=>S w c\/∃j,1<=j/\j<i+1/\w=C (bs.getD j [])/\c=nxt P ds k) l) (λs=>300-s.2.2.2.2.toNat) _ ?_ _ _ ⟨0,l,O,W,hl.mono λw c n=>n.elim id λ⟨j,a,b,_⟩=>by lia⟩ (by show 300-0<fu;lia);rintro s L ⟨i,l,rfl,hi,u⟩ F;unfold KF;simp only;have o:X (bs.drop 1)=nb-1:=by rw[xca,q]
 have z:∀{β:Type} (x:β) (k:β->V ((N<|N J)⊕(N (N J)×J×N J×N (N J)))),Y (Z x) k=k x:=λ_ _=>O;by_cases h1:i+1<nb
 ·rw[iq (by rw[o];lia),z];simp only[wN];rw[zo (by rw[o];lia),Q];have e:(bs.drop 1).getD i []=bs.getD (i+1) []:=by rw[Yh,Yh,xeP,xdI]
  have⟨G,hp⟩:=hv _<|X8 (l:=bs) (i:=i+1) W [];rw[e];have⟨r,H,M⟩:=zpq (fu:=fu) (i2:=(i:J)) (i4:=((X (bs.drop 1):K):J)) (t7:=bs.drop 1) (ds:=ds) h A q hc hd hn G hp B D u;rw[U H];rcases M with⟨f,rfl,g1,R⟩|⟨f,rfl,g1⟩
  ·exact⟨_,O,.inl ⟨f,O,g1,R⟩⟩
  ·simp only;rw[zb];refine F _ ⟨i+1,f,O,W,g1.mono λw c n=> ?_⟩ (by show 300-((i:J)+1).toNat<300-(i:J).toNat;lia);obtain n|⟨j,a,b,c1,c2⟩:=n
   ·exact .inl (.inl n)
   ·by_cases T:j=i+1
    ·subst T;exact .inr ⟨c1,c2⟩
    ·exact .inl (.inr ⟨j,a,W,c1,c2⟩)
 ·rw[ir (by rw[o];lia),z];simp only[xaj,wP];refine⟨_,O,.inr ⟨l,O,u.mono λw c n=> ?_⟩⟩;obtain n|⟨j,a,b,c1,c2⟩:=n
  ·exact .inl n
  ·exact .inr ⟨j,a,W,c1,c2⟩
def HF(h:Sf (P:J) m us)(z:1<X m)(hn:X us<=290)(A:X bs=nb)(B:1<=nb)(D:nb<=290)(hd:Rl ds)(hp:X ds<=1000)(hv:∀v∈bs,Rl v/\X v<=290)(F:3000000<=fu):
 ∃l,Q3 fu m bs P ds=Z l/\Pl (P:J) m l/\(X l=nb\/∀i,1<=i->i<nb->∀c:K,c<P->∀g∈l,Ct P us (C<|bs.getD i []) c g):=by
 have⟨Y,p2⟩:=zp h.hp;unfold Q3
 have G:=yb (f:=J8 fu bs P ds) (λs:N (N J)×J=>∃(k:K) (l:N (N J)),s=(l,(k:J))/\k<=P+X ds/\Pd P m us (λw c=>∃j i,j<k/\1<=i/\i<nb/\w=C (bs.getD i [])/\c=nxt P ds j) l) (λs=>P+X ds-s.2.toNat)
  (λl=>Pl (P:J) m l/\(X l=nb\/∀i,1<=i->i<nb->∀c:K,c<P->∀g∈l,Ct P us (C<|bs.getD i []) c g)) (by
  rintro s L ⟨k,l,rfl,hk,b⟩ H
  unfold J8
  simp only
  rw[zb]
  by_cases h1:k<P+X ds
  ·rw[zS,show(1:J)=((1:K):J)from O,yU,yM,Q]
   have⟨r,M,hi⟩:=zp7 (fu:=fu) (ds:=ds) h hn A B D hd hp hv h1 F b
   rw[U M]
   rcases hi with⟨o,rfl,g1,R⟩|⟨o,rfl,g1⟩
   ·exact⟨_,O,g1,.inl R⟩
   ·simp only
    rw[zb]
    refine H _ ⟨k+1,o,O,W,g1.mono λw c e=> ?_⟩ (by show P+X ds-((k:J)+1).toNat<P+X ds-(k:J).toNat;lia)
    have⟨j,i,a1,q,a3,a4,a5⟩:=e
    by_cases u:j=k
    ·subst u;exact .inr ⟨i,q,a3,a4,a5⟩
    ·exact .inl ⟨j,i,W,q,a3,a4,a5⟩
  ·rw[zA]
   refine⟨_,O,b.pl,.inr λi S T c hc g n=> ?_⟩
   refine b.ts _ _ ⟨X ds+c,i,W,S,T,O,?_⟩ g n
   unfold nxt
   rw[zA,(W:X ds+c-X ds=c)])
 have⟨l,hl,V⟩:=G fu ([m],0) ⟨0,[m],O,sB _,⟨⟨λg n=>by rw[xab.1 n];exact⟨h.mn,z⟩,Cg.of (yp<|C m).symm⟩,λv c e=>by have⟨j,i,u,_⟩:=e;lia⟩⟩ (by show P+X ds-0<fu;lia);exact⟨l,by rw[U hl],V⟩
end
section
variable{N w r i fu lo a:zV}{R M A B:zV->Pz}{g f:Pz}{σ:zV->zV}{p q:zI}{m:zC (zC zI)}{l:zC zI}{e:zV->zI}
def YJ(N w:K)(R:K->Pz):zC (zC J):=(xaE N).map λr=>zl w<|R r
def YP(N w:K)(R:K->Pz):X (YJ N w R)=N:=by unfold YJ;simp
def jx(h:r<N):(YJ N w R).getD r []=zl w (R r):=by simp_all [YJ]
theorem YC{S:K->Pz}(h:∀r,r<N->∀k,k<w->R r k=S r k):YJ N w R=YJ N w S:=by grind [YJ,yR,xce]
theorem zb7:(YJ N w R).set r (zl w g)=YJ N w λs=>if s=r then g else R s:=by
 refine xcC λi=> ?_;unfold YJ;by_cases h:r=i
 ·grind
 ·grind
def gW(N:K)(σ:K->K):zC K:=(xaE N).map σ
def Jq(N:K)(σ:K->K):X (gW N σ)=N:=by unfold gW;simp
def ZZ(h:i<N:=by lia):(gW N σ).getD i 0=σ i:=by simp_all [gW]
def stk(p:J)(a:K)(own f:Pz):Pz:=λk=>(f k+(p-f a)*own k)%p
def Tn(p:J)(a:K)(own f:Pz)(i:K):Pz:=λk=>if k<i then stk p a own f k else f k
def zsd(hp:0<p)(a:K)(own f:Pz)(k:K):0<=stk p a own f k/\stk p a own f k<p:=yz hp
def zlw{ix:zC K}{n lo2 n2 q:K}{y:J}(h1:2<=p)(U:p<=65521)(h:∀s,s<N->∀k,0<=R s k/\R s k<p)(o:r<N)(t:q<N)(hc:q≠r)(V:w<=64)(C:y=R q a)(b:zC (zC J))(h0:b=YJ N w R)(Y:3000000<=fu):
 zg (λL (z:((zC (zC J)×zC K)×K×K)×(K×K)×K×K×K×J)=>
 if z.2.2.2.2.2<(X (b.getD r []):J)then
  zH z.2.2.2.2.2 (X (z.1.1.1.getD z.2.2.2.1 [])) λj=>
  nm ((z.1.1.1.getD z.2.2.2.1 []).getD j 0) λv=>
  zH z.2.2.2.2.2 (X (z.1.1.1.getD z.2.2.2.2.1 [])) λj=>
  nm ((z.1.1.1.getD z.2.2.2.2.1 []).getD j 0) λu=>
  E (p-y) λe=>
  E (e*v) λe=>
  E (u+e) λe=>
  ck (p≠0)<|
  nm (xbn e p) λe=>
  zH z.2.2.2.2.2 (X (z.1.1.1.getD z.2.2.2.2.1 [])) λj=>
  nm (z.1.1.1.set z.2.2.2.2.1<|(z.1.1.1.getD z.2.2.2.2.1 []).set j e) λx=>
  E (z.2.2.2.2.2+1) λi=>
  L (((x,z.1.1.2),z.1.2),z.2.1,z.2.2.1,z.2.2.2.1,z.2.2.2.2.1,i)
 else Z (z.1,z.2.1,z.2.2.1)) fu (((b,ix),lo,n),(lo2,n2),r,r,q,0)=Z (((YJ N w λs=>if s=q then stk p a (R r) (R q)else R s,ix),lo,n),(lo2,n2),r):=by
 subst h0;refine zt (λz:((zC (zC J)×zC K)×K×K)×(K×K)×K×K×K×J=>∃i:K,i<=w/\z=(((YJ N w λs=>if s=q then Tn p a (R r) (R q) i else R s,ix),lo,n),(lo2,n2),r,r,q,(i:J))) (λz=>w-z.2.2.2.2.2.toNat) _ ?_ _ _ ⟨0,sB _,by
  rw[YC (R:=R) (S:=λs=>if s=q then Tn p a (R r) (R q) 0 else R s) λs _ k _=>by
   by_cases e:s=q
   ·rw[iq e,e];unfold Tn;rw[zA]
   ·rw[ir e]]
  rfl⟩ (by show w-0<fu;lia)
 rintro z L ⟨i,hi,rfl⟩ F;simp only;rw[jx o,zF];by_cases c:i<w
 ·have G:(YJ N w λs=>if s=q then Tn p a (R r) (R q) i else R s).getD r []=zl w (R r):=by rw[jx o,ir<|λe=>hc e.symm]
  have H:(YJ N w λs=>if s=q then Tn p a (R r) (R q) i else R s).getD q []=zl w (Tn p a (R r) (R q) i):=by rw[jx t,iq O]
  have ev:Tn p a (R r) (R q) i i=R q i:=zA;have⟨v1,v2⟩:=h r o i;have⟨u1,u2⟩:=h q t i;have⟨P,T⟩:=h q t a;rw[<-C]at P T;have m1:0<=(p-y)*R r i:=xcD W v1;have m2:(p-y)*R r i<=65521*65521:=Int.mul_le_mul W W v1 W;rw[zS,G,zF,zo c,Q,jE c,H,zF,zo c,Q,jE c,ev,zb,zb,zb,yM,Q,kZ,zo c,Q,Zx,zb7,zb];refine F _ ⟨i+1,W,?_⟩ (by show w-((i:J)+1).toNat<w-(i:J).toNat;lia);rw[YC (S:=λs=>if s=q then Tn p a (R r) (R q) (i+1)else R s) λs _ k _=>by
   by_cases e:s=q
   ·rw[iq e,iq e];unfold Xg Tn;by_cases d:k=i
    ·rw[iq d,zS,d,C];rfl
    ·rw[ir d];by_cases D:k<i
     ·rw[iq D,zS]
     ·rw[ir D,zA]
   ·rw[ir e,ir e,ir e]]
  rfl
 ·rw[zA];obtain rfl:i=w:=W
  rw[YC (S:=λs=>if s=q then stk p a (R r) (R q)else R s) λs _ k d=>by
   by_cases e:s=q
   ·rw[iq e,iq e];unfold Tn;rw[iq d]
   ·rw[ir e,ir e]]
structure Ps(N:K)(σ:K->K):Prop where
 lt:∀i,i<N->σ i<N
 ij:∀i j,i<N->j<N->σ i=σ j->i=j
def zaM{n t:K}(h1:2<=p)(T:p<=65521)(V:∀s,s<N->∀k,0<=R s k/\R s k<p)(b:Ps N σ)(D:t<N)(ho:t<lo\/lo+n<=t)(hn:lo+n<=N)(hN:N<=64)(hw:w<=64)(G:a<w)(hf:3000000<=fu):
 ∃S:K->Pz,qY fu (YJ N w R) (gW N σ) (σ t) (a:J) p lo n=Z (YJ N w S)/\(∀s,s<N->∀k,0<=S s k/\S s k<p)/\∀j,j<N->S (σ j)=if lo<=j/\j<lo+n then stk p a (R<|σ t) (R<|σ j)else R (σ j):=by
 unfold qY;have hb:=yb (f:=(λL (x:((zC (zC J)×zC K)×K×K)×(K×K)×K×J)=>
 if x.2.2.2<(n:J)then
  zH x.2.2.2 x.2.1.2 λj=>
  nm (x.1.1.2.getD (x.2.1.1+j) 0) λq=>
  zH (a:J) (X (x.1.1.1.getD q [])) λj=>
  nm ((x.1.1.1.getD q []).getD j 0) λy=>
  Y (zg (λL (z:((zC (zC J)×zC K)×K×K)×(K×K)×K×K×K×J)=>
   if z.2.2.2.2.2<(X (x.1.1.1.getD x.2.2.1 []):J)then
    zH z.2.2.2.2.2 (X (z.1.1.1.getD z.2.2.2.1 [])) λj=>
    nm ((z.1.1.1.getD z.2.2.2.1 []).getD j 0) λv=>
    zH z.2.2.2.2.2 (X (z.1.1.1.getD z.2.2.2.2.1 [])) λj=>
    nm ((z.1.1.1.getD z.2.2.2.2.1 []).getD j 0) λu=>
    E (p-y) λe=>
    E (e*v) λe=>
    E (u+e) λe=>
    ck (p≠0)<|
    nm (xbn e p) λe=>
    zH z.2.2.2.2.2 (X (z.1.1.1.getD z.2.2.2.2.1 [])) λj=>
    nm (z.1.1.1.set z.2.2.2.2.1<|(z.1.1.1.getD z.2.2.2.2.1 []).set j e) λF=>
    E (z.2.2.2.2.2+1) λi=>
    L (((F,z.1.1.2),z.1.2),z.2.1,z.2.2.1,z.2.2.2.1,z.2.2.2.2.1,i)
   else Z (z.1,z.2.1,z.2.2.1)) fu (x.1,x.2.1,x.2.2.1,x.2.2.1,q,0)) λz=>
  E (x.2.2.2+1) λi=>
  L (z.1,z.2.1,z.2.2,i)
 else Z x.1)) (λx=>∃(c:K) (S:K->Pz),x=(((YJ N w S,gW N σ),lo,n),(lo,n),σ t,(c:J))/\c<=n/\(∀s,s<N->∀k,0<=S s k/\S s k<p)/\∀j,j<N->S (σ j)=if lo<=j/\j<lo+c then stk p a (R (σ t)) (R (σ j))else R (σ j)) (λx=>n-x.2.2.2.toNat)
  (λy=>∃S:K->Pz,y=((YJ N w S,gW N σ),lo,n)/\(∀s,s<N->∀k,0<=S s k/\S s k<p)/\∀j,j<N->S (σ j)=if lo<=j/\j<lo+n then stk p a (R<|σ t) (R<|σ j)else R (σ j)) (by
  rintro x L ⟨c,S,rfl,hc,C,d⟩ ih
  simp only
  by_cases hg:c<n
  ·have o:lo+c<N:=W
   have hi:=b.lt t D
   have hd:=b.lt (lo+c) o
   have hk:σ (lo+c)≠σ t:=λe=>by have:=b.ij _ _ o D e;lia
   have hl:S (σ<|lo+c)=R (σ<|lo+c):=by rw[d _ o,zA]
   have hm:S (σ t)=R (σ t):=by rw[d _ D,zA]
   rw[zS,zo hg,Q,ZZ o,jx hd,zF,zo G,Q,jE G,U<|zlw (ix:=gW N σ) (lo:=lo) (n:=n) (lo2:=lo) (n2:=n) h1 T C hi hd hk hw O _ O hf]
   simp only
   rw[zb]
   refine ih _ ⟨c+1,λs=>if s=σ (lo+c)then stk p a (S<|σ t) (S<|σ<|lo+c)else S s,O,W,λs hs k=> ?_,λj H=> ?_⟩ (by show n-((c:J)+1).toNat<n-(c:J).toNat;lia)
   ·show 0<=(if s=σ (lo+c)then stk p a (S<|σ t) (S<|σ<|lo+c)else S s) k/\(if s=σ (lo+c)then stk p a (S<|σ t) (S<|σ<|lo+c)else S s) k<p
    by_cases e:s=σ (lo+c)
    ·rw[iq e];exact zsd (W:0<p) _ _ _ _
    ·rw[ir e];exact C s hs k
   ·show(if σ j=σ (lo+c)then stk p a (S<|σ t) (S<|σ<|lo+c)else S (σ j))=_
    by_cases e:j=lo+c
    ·rw[e,iq O,zS,hm,hl]
    ·rw[ir<|λh=>e<|b.ij _ _ H o h,d j H]
     by_cases P:lo<=j/\j<lo+c
     ·rw[iq P,zS]
     ·rw[ir P,zA]
  ·rw[zA]
   obtain rfl:c=n:=W
   exact⟨_,O,S,O,C,d⟩)
 obtain⟨y,hy,S,rfl,C,d⟩:=hb fu (((YJ N w R,gW N σ),lo,n),(lo,n),σ t,0) ⟨0,R,O,sB _,V,λj o=>by rw[zA]⟩ (by show n-0<fu;lia);refine⟨S,?_,C,d⟩;rw[U hy];simp only;rw[xi ⟨xS,xS,xS⟩]
def ni(hp:wB p=I)(d:X m<=64)(b:∀r∈m,X r=w)(j:w<=64)(n:3000000<=fu):Vk fu m p=Z 0:=by
 unfold Vk;rw[U<|Zm hp,S O,zA,U (v:=Sum.inl ())];refine zt (λi:J=>∃k:K,i=(k:J)/\k<=X m) (λi=>X m-i.toNat) _ ?_ _ _ ⟨0,O,sB _⟩ W;rintro i L ⟨k,rfl,o⟩ c;unfold ra;by_cases h:k<X m
 ·have e1:=b _<|X8 h [];have s:=b _<|X8 (W:0<X m) [];rw[zS,U O];simp only[wN];rw[zo h,Q,zA,show(0:J)=((0:K):J)from O,yc,Q,zS,zb];exact c _ ⟨k+1,W,W⟩ W
 ·rw[zA,U O];simp_all
def LQ(h1:1<=p)(d:p<=65521)(j:Rl l)(hl:X l<=1000000)(o:3000000<=fu):W3 fu l p=Z (zl (X l)<|λk=>C l k%p):=by
 unfold W3;rw[yU,yM,Q,fc,U (v:=zl (X l)<|λk=>C l k%p)];refine zt (λs:J×zC J=>∃i:K,i<=X l/\s=((i:J),zl (X l) (λk=>if k<i then C l k%p else 0))) (λs=>X l-s.1.toNat) _ ?_ _ _ ⟨0,sB _,by rw[yR (f:=λ_=>0) (g:=λk=>if k<0 then C l k%p else 0) λk _=>by rw[zA]];rfl⟩ (by show X l-0<fu;lia);rintro s L ⟨i,hi,rfl⟩ n;unfold pY;simp only;by_cases h:i<X l
 ·rw[zS,zo h,Q,U (show Ys fu (l.getD i 0) p=Z (l.getD i 0%p)from XZ h1 d<|j i),zo (by rw[zF];exact h),Q,Zx,zb];refine n _ ⟨i+1,W,?_⟩ (by show X l-((i:J)+1).toNat<X l-(i:J).toNat;lia);rw[yR (g:=λk=>if k<i+1 then C l k%p else 0) λk _=>by
   unfold Xg;by_cases b:k=i
   ·rw[S b,zS,b,YU]
   ·rw[ir b];show(if k<i then C l k%p else 0)=_;by_cases c:k<i
    ·rw[S c,zS]
    ·rw[ir c,zA]]
  rfl
 ·rw[zA];rw[yR (g:=λk=>C l k%p) λk b=>by rw[zS]]
theorem zeZ{l:zC (zC J)}{g:zC J->V ws}{b:zC J->ws}(o:∀z∈l,g z=Z (b z))(hl:X l<=1000000)(v:3000000<=fu):
 (xg fu l g=Z (-1)/\∀z∈l,b z=yL)\/∃i:K,i<X l/\xg fu l g=Z (i:J)/\b (l.getD i [])=I/\∀j,j<i->b (l.getD j [])=yL:=by
 unfold xg
 have s:=yb (f:=qD fu l g) (λi:J=>∃k:K,i=(k:J)/\k<=X l/\∀j,j<k->b (l.getD j [])=yL) (λi=>X l-i.toNat)
  (λr=>(r=.inl ()/\∀j,j<X l->b (l.getD j [])=yL)\/∃i:K,i<X l/\r=.inr (i:J)/\b (l.getD i [])=I/\∀j,j<i->b (l.getD j [])=yL) (by
  rintro i L ⟨k,rfl,x,c⟩ t
  unfold qD
  by_cases h:k<X l
  ·rw[zS,zo h,Q,U<|o _<|X8 h []]
   cases d:b (l.getD k [])with
   |true=>
    grind
   |false=>
    rw[ir YL,zb]
    refine t _ ⟨k+1,W,W,λj y=> ?_⟩ W
    by_cases e:j=k
    ·rw[e];exact d
    ·exact c j W
  ·rw[zA]
   exact⟨_,O,.inl ⟨O,λj C=>c j W⟩⟩)
 have⟨r,n,hc⟩:=s fu 0 ⟨0,O,sB _,λj c=>by lia⟩ (by show X l-0<fu;lia);rcases hc with⟨rfl,hd⟩|⟨i,hi,rfl,d,c⟩
 ·left;refine⟨by rw[U n],λz u=> ?_⟩;have⟨j,c,e⟩:=xcz u;have:=hd j c;rw[Yh,xaa c]at this;rw[<-e];exact this
 ·right;exact⟨i,hi,by rw[U n],d,c⟩
theorem zk1{g:J->V ws}{b:J->ws}(o:∀z,g z=Z (b z))(hl:X l<=1000000)(u:3000000<=fu):
 (xF fu l g=Z (-1)/\∀j,j<X l->b (C l j)=yL)\/∃i:K,i<X l/\xF fu l g=Z (i:J)/\b (C l i)=I/\∀j,j<i->b (C l j)=yL:=by
 unfold xF
 have s:=yb (f:=vD fu l g) (λi:J=>∃k:K,i=(k:J)/\k<=X l/\∀j,j<k->b (C l j)=yL) (λi=>X l-i.toNat)
  (λr=>(r=.inl ()/\∀j,j<X l->b (C l j)=yL)\/∃i:K,i<X l/\r=.inr (i:J)/\b (C l i)=I/\∀j,j<i->b (C l j)=yL) (by
  rintro i L ⟨k,rfl,v,c⟩ t
  unfold vD
  by_cases h:k<X l
  ·rw[zS,zo h,Q,U<|o _,YU]
   cases d:b (C l k)with
   |true=>
    grind
   |false=>
    rw[ir YL,zb]
    refine t _ ⟨k+1,W,W,λj x=> ?_⟩ W
    by_cases e:j=k
    ·rw[e];exact d
    ·exact c j W
  ·rw[zA]
   exact⟨_,O,.inl ⟨O,λj y=>c j W⟩⟩)
 have⟨r,n,hc⟩:=s fu 0 ⟨0,O,sB _,λj c=>by lia⟩ (by show X l-0<fu;lia);rcases hc with⟨rfl,hd⟩|⟨i,hi,rfl,d,c⟩
 ·exact .inl ⟨by rw[U n],hd⟩
 ·exact .inr ⟨i,hi,by rw[U n],d,c⟩
def dt(w:K)(f:Pz)(e:K->J):J:=yA w λk=>f k*e k
def zoM(h:∀k,k<w->f k%p=g k%p):dt w f e%p=dt w g e%p:=tM λk b=>by rw[xaY,h k b,<-xaY]
theorem zpg(c d:J):dt w (λk=>c*f k+d*g k) e=c*dt w f e+d*dt w g e:=by
 unfold dt;rw[<-Ya,<-Ya,<-Vv];grind
def Kr(p:J)(N w:K)(A:K->Pz)(e:K->J):Prop:=∀i,i<N->p∣dt w (A i) e
structure PB(p:J)(N w:K)(M A:K->Pz)(n c:K)(pv:K->K):Prop where
 hn:n<=N
 hc:c<=w
 rg:∀i,i<N->∀k,0<=A i k/\A i k<p
 lt:∀i,i<n->pv i<c
 on:∀i,i<n->A i (pv i)=1
 no:∀i,i<n->∀j,j<N->j≠i->A j (pv i)=0
 ld:∀i,i<n->∀k,k<pv i->A i k=0
 zr:∀i,n<=i->i<N->∀k,k<c->A i k=0
 kr:∀e,Kr p N w A e↔Kr p N w M e
def PB.skip{n c:K}{pv:K->K}(h:PB p N w M A n c pv)(hc:c<w)(d:∀i,n<=i->i<N->A i c=0):PB p N w M A n (c+1) pv:=
 ⟨h.hn,hc,h.rg,λi hi=>by have:=h.lt i hi;lia,h.on,h.no,h.ld,λi h1 b k j=>by
  by_cases e:k=c
  ·simp_all
  ·exact h.zr i h1 b k W,h.kr⟩
theorem PB.swap{n c:K}{pv:K->K}(h:PB p N w M A n c pv)(z:n<=a)(hl:a<N)(C:∀i,i<N->B i=if i=n then A a else if i=a then A n else A i):PB p N w M B n c pv:=by
 have hd:∀i,i<n->B i=A i:=λi hi=>by grind
 have o:∀i,i<N->∃j,j<N/\B i=A j/\(n<=i->n<=j)/\(∀x,x<n->(i≠x->j≠x)):=λi hi=>by
  by_cases e1:i=n
  ·grind
  ·grind
 have hc:∀i,i<N->∃j,j<N/\A i=B j:=λi hi=>by
  by_cases e1:i=n
  ·grind
  ·grind
 refine⟨h.hn,h.hc,λi hi=> ?_,h.lt,λi hi=> ?_,λi hi j b s=> ?_,λi hi k d=> ?_,λi h1 t k d=> ?_,λe=> ?_⟩
 ·have⟨j,b,e,_⟩:=o i hi;rw[e];exact h.rg j b
 ·rw[hd i hi];exact h.on i hi
 ·have⟨x,u,e,_,v⟩:=o j b;rw[e];exact h.no i hi x u<|v i hi s
 ·rw[hd i hi];exact h.ld i hi k d
 ·have⟨j,b,e,y,_⟩:=o i t;rw[e];exact h.zr j (y h1) b k d
 ·refine Iff.trans ⟨λd i hi=> ?_,λd i hi=> ?_⟩<|h.kr e
  ·have⟨j,b,e⟩:=hc i hi;rw[e];exact d j b
  ·have⟨j,b,e,_⟩:=o i hi;rw[e];exact d j b
theorem PB.step{n c:K}{pv:K->K}(hp:2<=p)(h:PB p N w M A n c pv)(s:n<N)(P:c<w)(D:(q*A n c)%p=1)(t:B n=λk=>(A n k*q)%p)(Q:∀j,j<N->j≠n->B j=stk p c (B n) (A j)):
 PB p N w M B (n+1) (c+1) (λi=>if i=n then c else pv i):=by
 have u:∀k,k<c->B n k=0:=λk d=>by rw[t];show A n k*q%p=0;rw[h.zr n (eZ _) s k d,xaK,xae]
 have z:B n c=1:=by rw[t];show A n c*q%p=1;rw[xaX,D]
 have hc:∀j,j<N->j≠n->∀k,B j k=(A j k+(p-A j c)*B n k)%p:=λj b hd k=>by rw[Q j b hd];rfl
 have v:∀j,j<N->j≠n->∀k,B n k=0->B j k=A j k:=λj b hd k d=>by
  rw[hc j b hd,d,xaw,xby];exact xax (h.rg j b k).1 (h.rg j b k).2
 have C:∀i,i<n->B n (pv i)=0:=λi hi=>u _<|h.lt i hi;refine⟨s,P,λi hi k=> ?_,λi hi=> ?_,λi hi=> ?_,λi hi j b T=> ?_,λi hi k d=> ?_,λi h1 o k d=> ?_,λe=> ?_⟩
 ·by_cases e:i=n
  ·rw[e,t];exact yz
  ·rw[hc i hi e];exact yz
 ·show(if i=n then c else pv i)<c+1;by_cases e:i=n
  ·rw[S e];lia
  ·rw[ir e];have:=h.lt i W;lia
 ·show B i (if i=n then c else pv i)=1;by_cases e:i=n
  ·rw[S e,e,z]
  ·rw[ir e,v i W e _<|C i W];exact h.on i W
 ·show B j (if i=n then c else pv i)=0;by_cases e:i=n
  ·rw[S e,hc j b W,z,xci,(W:A j c+(p-A j c)=p),Int.emod_self]
  ·rw[ir e];by_cases E:j=n
   ·rw[E];exact C i W
   ·rw[v j b E _<|C i W];exact h.no i W j b T
 ·have hl:k<(if i=n then c else pv i):=d;by_cases e:i=n
  ·rw[S e]at hl;rw[e];exact u k hl
  ·rw[ir e]at hl;have F:=h.lt i W;rw[v i W e k<|u k W];exact h.ld i W k hl
 ·by_cases e:k=c
  ·rw[e,hc i o W,z,xci,(W:A i c+(p-A i c)=p),Int.emod_self]
  ·rw[v i o W k<|u k W];exact h.zr i W o k W
 ·refine Iff.trans ?_<|h.kr e;have G:dt w (B n) e%p=(q*dt w (A n) e)%p:=by
   have:=zoM (p:=p) (w:=w) (f:=B n) (g:=λk=>q*A n k+0*A n k) (e:=e) λk _=>by rw[t];show A n k*q%p%p=_;rw[xay];congr 1;grind
   rw[this,zpg];congr 1;grind
  have H:∀j,j<N->j≠n->dt w (B j) e%p=(dt w (A j) e+(p-A j c)*dt w (B n) e)%p:=λj b hd=>by
   have:=zoM (p:=p) (w:=w) (f:=B j) (g:=λk=>1*A j k+(p-A j c)*B n k) (e:=e) λk _=>by rw[hc j b hd,xay];congr 1;grind
   rw[this,zpg];congr 1;grind
  have dv:∀{x y:J},x%p=y%p->(p∣x↔p∣y):=λ{x y} hn=>⟨λU=>xaA (by rw[<-hn];exact xaq U),λV=>xaA<|by rw[hn];exact xaq V⟩;have Y:p∣dt w (B n) e->p∣dt w (A n) e:=λhh=>by
   have h1:=(dv G).1 hh;have o:p∣A n c*(q*dt w (A n) e):=xbu h1<|xcB _ _;refine(dv ?_).1 o;rw[<-xcv,xaY,xaX (A n c) q,D,xcr,xay]
  constructor
  ·intro d j b;by_cases e1:j=n
   ·rw[e1];exact Y<|d n s
   ·have h1:=(dv<|H j b e1).1<|d j b;have o:p∣(p-A j c)*dt w (B n) e:=xbu (d n s)<|xcB _ _;have F:=xdm h1 o;rwa[Int.add_sub_cancel]at F
  ·intro d j b;have L:p∣dt w (B n) e:=(dv G).2<|xbu (d n s)<|xcB _ _;by_cases e1:j=n
   ·rw[e1];exact L
   ·exact(dv<|H j b e1).2<|Int.dvd_add (d j b)<|xbu L<|xcB _ _
theorem zgK(N w:K)(R:K->Pz):YJ N w R++[zl w<|R N]=YJ (N+1) w R:=by grind [YJ,xdb]
theorem zmz(N:K)(σ:K->K):gW N σ++[σ N]=gW (N+1) σ:=by grind [gW,xdb]
theorem MR{v:K}:(gW N σ).set i v=gW N λs=>if s=i then v else σ s:=by
 refine xcC λj=> ?_;unfold gW;by_cases h:i=j
 ·grind
 ·grind
def znx(b:∀i,i<N->σ i<N):((gW N σ).map λr=>(YJ N w R).getD r [])=YJ N w λi=>R (σ i):=by
 show((xaE N).map σ).map _=(xaE N).map _;rw[xcP];exact xce λi hi=>jx<|b i<|xaZ.1 hi
def zod{n:K}(h:n<=N):(YJ N w R).take n=YJ n w R:=by
 unfold YJ;rw[<-List.map_take,List.take_range,xcg h]
theorem zmx{n:K}(h:n<=N):(YJ N w R).drop n=YJ (N-n) w λi=>R (n+i):=by
 refine xcC λi=> ?_;unfold YJ;by_cases hi:n+i<N
 ·grind
 ·grind
def zo3{n:K}(h1:2<=p)(F:p<=65521)(x:∀s,s<N->∀k,0<=R s k/\R s k<p)(d:r<N)(hd:σ n=r)(hn:n<N)(t:0<=q)(G:q<p)(H:w<=64)(b:zC (zC J))(h0:b=YJ N w R)(u:J)(C:u=(n:J))(P:3000000<=fu):
 zg (λL (z:(zC (zC J)×zC K)×K×J)=>
  if z.2.2<(X (b.getD r []):J)then
   zH z.2.2 (X (z.1.1.getD z.2.1 [])) λj=>
   nm ((z.1.1.getD z.2.1 []).getD j 0) λy=>
   zH u (X z.1.2) λj=>
   nm (z.1.2.getD j 0) λr=>
   E (y*q) λe=>
   ck (p≠0)<|
   nm (xbn e p) λe=>
   zH z.2.2 (X (z.1.1.getD r [])) λj=>
   nm (z.1.1.set r<|(z.1.1.getD r []).set j e) λh=>
   E (z.2.2+1) λi=>L ((h,z.1.2),z.2.1,i)
  else Z z.1) fu ((b,gW N σ),r,0)=Z (YJ N w λs=>if s=r then λk=>(R r k*q)%p else R s,gW N σ):=by
 subst h0 C;refine zt (λz:(zC (zC J)×zC K)×K×J=>∃i:K,i<=w/\z=((YJ N w λs=>if s=r then λk=>if k<i then(R r k*q)%p else R r k else R s,gW N σ),r,(i:J))) (λz=>w-z.2.2.toNat) _ ?_ _ _ ⟨0,sB _,by
  rw[YC (R:=R) (S:=λs=>if s=r then λk=>if k<0 then(R r k*q)%p else R r k else R s) λs _ k _=>by
   by_cases e:s=r
   ·simp_all
   ·rw[ir e]]
  rfl⟩ (by show w-0<fu;lia)
 rintro z L ⟨i,hi,rfl⟩ D;simp only;rw[jx d,zF];by_cases o:i<w
 ·have v:(YJ N w λs=>if s=r then λk=>if k<i then(R r k*q)%p else R r k else R s).getD r []=zl w (λk=>if k<i then(R r k*q)%p else R r k):=by rw[jx d,iq O]
  have⟨v1,T⟩:=x r d i;have U:0<=R r i*q:=xcD v1 t;have V:R r i*q<=65521*65521:=Int.mul_le_mul W W t W;rw[zS,v,zF,zo o,Q,jE o,zA,Jq,zo hn,Q,ZZ hn,hd,zb,yM,Q,kZ,v,zF,zo o,Q,Zx,zb7,zb];refine D _ ⟨i+1,W,?_⟩ (by show w-((i:J)+1).toNat<w-(i:J).toNat;lia);rw[YC (S:=λs=>if s=r then λk=>if k<i+1 then(R r k*q)%p else R r k else R s) λs _ k _=>by
   by_cases e:s=r
   ·rw[iq e,iq e];unfold Xg;show _=if k<i+1 then(R r k*q)%p else R r k;by_cases c:k=i
    ·rw[iq c,zS,c]
    ·rw[ir c];show(if k<i then(R r k*q)%p else R r k)=_;by_cases hc:k<i
     ·rw[iq hc,zS]
     ·rw[ir hc,zA]
   ·rw[ir e,ir e,ir e]]
  rfl
 ·rw[zA];obtain rfl:i=w:=W
  rw[YC (S:=λs=>if s=r then λk=>(R r k*q)%p else R s) λs _ k c=>by
   by_cases e:s=r
   ·rw[iq e,iq e];show(if k<i then _ else _)=_;rw[iq c]
   ·rw[ir e,ir e]]
def zvS(hp:0<p):PB p N w M (λi k=>M i k%p) 0 0 (λ_=>0):=
 ⟨sB _,sB _,λi _ k=>yz hp,λi hi=>by lia,λi hi=>by lia,λi hi=>by lia,λi hi=>by lia,λi _ _ k j=>by lia,λe=>by
  have dv:∀{x y:J},x%p=y%p->(p∣x↔p∣y):=λ{x y} b=>⟨λc=>xaA (by rw[<-b];exact xaq c),λd=>xaA<|by rw[b];exact xaq d⟩;have:∀i,p∣dt w (λk=>M i k%p) e↔p∣dt w (M i) e:=λi=>dv<|zoM λk _=>xay _ _;exact⟨λh i hi=>(this i).1<|h i hi,λh i hi=>(this i).2<|h i hi⟩⟩
def zpH(fu:K)(p:J):(((zC (zC J)×zC K)×J×J)->V ((zC (zC J)×zC K)×J))->((zC (zC J)×zC K)×J×J)->V ((zC (zC J)×zC K)×J):=λL (x:(zC (zC J)×zC K)×J×J)=>if x.2.1<(X x.1.2:J)then zH 0 (X x.1.2) λj=>nm (x.1.2.getD j 0) λr=>if x.2.2<(X (x.1.1.getD r []):J)then uC x.2.1 λj=>ck (j<=X x.1.2)<|Y (xg fu (xdo (X x.1.2-j)<|xdD j<|x.1.2.map λr=>x.1.1.getD r []) λz=>uu fu z x.2.2) λi=>if i<0 then E (x.2.2+1) λc=>L (x.1,x.2.1,c)else E (x.2.1+i) λa=>E (x.2.1+i) λb=>zH b (X x.1.2) λj=>nm (x.1.2.getD j 0) λr1=>zH x.2.1 (X x.1.2) λj=>nm (x.1.2.getD j 0) λr2=>zH x.2.1 (X x.1.2) λj=>nm (x.1.2.set j r1) λix=>zH a (X ix) λj=>nm (ix.set j r2) λix=>zH x.2.1 (X ix) λj=>nm (ix.getD j 0) λr=>zH x.2.2 (X (x.1.1.getD r [])) λj=>nm ((x.1.1.getD r []).getD j 0) λy=>Y (JW fu y p) λq=>zH x.2.1 (X ix) λj=>nm (ix.getD j 0) λr=>Y (zg (λL (z:(zC (zC J)×zC K)×K×J)=>if z.2.2<(X (x.1.1.getD r []):J)then zH z.2.2 (X (z.1.1.getD z.2.1 [])) λj=>nm ((z.1.1.getD z.2.1 []).getD j 0) λy=>zH x.2.1 (X z.1.2) λj=>nm (z.1.2.getD j 0) λr=>E (y*q.1) λe=>ck (p≠0)<|nm (xbn e p) λe=>zH z.2.2 (X (z.1.1.getD r [])) λj=>nm (z.1.1.set r<|(z.1.1.getD r []).set j e) λd=>E (z.2.2+1) λi=>L ((d,z.1.2),z.2.1,i)else Z z.1) fu ((x.1.1,ix),r,0)) λm=>zH x.2.1 (X m.2) λj=>nm (m.2.getD j 0) λr=>uC x.2.1 λj=>ck (j<=X m.2)<|Y (qY fu m.1 m.2 r x.2.2 p 0 j) λd=>zH x.2.1 (X m.2) λj=>nm (m.2.getD j 0) λr=>E (x.2.1+1) λe=>uC e λj=>ck (j<=X m.2)<|Y (qY fu d m.2 r x.2.2 p j<|X m.2-j) λd=>E (x.2.1+1) λk=>E (x.2.2+1) λc=>L ((d,m.2),k,c)else Z (x.1,x.2.1)else Z (x.1,x.2.1)
def EI(p:J)(N w:K)(M:K->Pz)(x:(zC (zC J)×zC K)×J×J):Prop:=
 ∃(R:K->Pz) (σ:K->K) (n c:K) (pv:K->K),x=((YJ N w R,gW N σ),(n:J),(c:J))/\(∀s,s<N->∀k,0<=R s k/\R s k<p)/\Ps N σ/\PB p N w M (λi=>R<|σ i) n c pv
def EQ(p:J)(N w:K)(M:K->Pz)(y:(zC (zC J)×zC K)×J):Prop:=
 ∃(R:K->Pz) (σ:K->K) (n c:K) (pv:K->K),y=((YJ N w R,gW N σ),(n:J))/\Ps N σ/\PB p N w M (λi=>R<|σ i) n c pv/\(n=N\/c=w)
def zsX{α:Type}{n:K}{k:K->V α}(h:0<n):zH (0:J) n k=k 0:=by
 rw[show 0=((0:K):J)from O,zo h]
def zn1(hp:wB p=I)(hN:N<=64)(hw:w<=64)(F:3000000<=fu){x:(zC (zC J)×zC K)×J×J}(hx:EI p N w M x):∃y,zg (zpH fu p) fu x=Z y/\EQ p N w M y:=by
 have⟨V,p2⟩:=zp hp;refine yb (EI p N w M) (λx=>w-x.2.2.toNat) _ ?_ _ _ hx (by obtain⟨R,σ,n,c,pv,rfl,_⟩:=hx;show w-(c:J).toNat<fu;lia);rintro x L ⟨R,σ,n,c,pv,rfl,Y,d,E⟩ ih;unfold zpH;simp only;have ho:=E.hn;have hq:=E.hc;rw[Jq];by_cases h1:n<N
 ·have hk:=d.lt 0 W;rw[zS,zsX W,Q,ZZ,jx hk,zF];by_cases u:c<w
  ·rw[zS,yU,yM,znx d.lt,zmx W,xaQ<|by rw[YP];exact eZ _];have he:∀z∈YJ (N-n) w (λi=>R<|σ<|n+i),uu fu z (c:J)=Z (!decide (C z c=0)):=λz hz=>by
    obtain⟨j,o,rfl⟩:=xan.1 hz;unfold uu;rw[zo (by rw[zF];exact u),Q,YU];by_cases e:C (zl w<|R<|σ<|n+j) c=0
    ·rw[S e,wU e];rfl
    ·rw[ir e,wS e];rfl
   rcases zeZ (fu:=fu) (b:=λz=> !decide (C z c=0)) he (by rw[YP];lia) F with⟨g1,g2⟩|⟨i,hi,g1,g2,g3⟩
   ·rw[U g1,S YL,zb];refine ih _ ⟨R,σ,n,c+1,pv,O,Y,d,E.skip u λi h3 h4=> ?_⟩ (by show w-((c:J)+1).toNat<w-(c:J).toNat;lia);have g4:=g2 ((YJ (N-n) w<|λi=>R<|σ<|n+i).getD (i-n) [])<|X8 (by rw[YP];lia) [];rw[jx W,km u,(W:n+(i-n)=i)]at g4;show R (σ i) c=0;simpa using g4
   ·rw[YP]at hi;rw[jx hi,km u]at g2;have G:R (σ<|n+i) c≠0:=by simpa using g2
    have⟨τ,v⟩:∃τ:K->K,τ=λs=>if s=n+i then σ n else if s=n then σ (n+i)else σ s:=⟨_,O⟩;have hl:τ n=σ (n+i):=by
     rw[v];show(if n=n+i then σ n else if n=n then σ (n+i)else σ n)=_;by_cases e:n=n+i
     ·rw[S e];exact wF σ e
     ·rw[ir e,S O]
    have H:Ps N τ:=by
     have hc:∀s,τ s=σ (if s=n+i then n else if s=n then n+i else s):=λs=>by
      rw[v];show(if s=n+i then σ n else if s=n then σ (n+i)else σ s)=_;by_cases e1:s=n+i
      ·rw[S e1,S e1]
      ·rw[ir e1,ir e1];by_cases h:s=n
       ·rw[S h,S h]
       ·rw[ir h,ir h]
     refine⟨λs hs=> ?_,λs t hs ht e=> ?_⟩
     ·rw[hc];refine d.lt _ ?_;split<;>(try split)<;>lia
     ·rw[hc,hc]at e;have:=d.ij _ _ (by split<;>(try split)<;>lia) (by split<;>(try split)<;>lia) e;split at this<;>(try split at this)<;>(try split at this)<;>(try split at this)<;>lia
    have hm:PB p N w M (λj=>R<|τ j) n c pv:=E.swap (a:=n+i) W W λj o=>by
     rw[v];show R (if j=n+i then σ n else if j=n then σ (n+i)else σ j)=if j=n then R (σ<|n+i)else if j=n+i then R (σ n)else R (σ j);by_cases h:j=n+i
     ·rw[S h];by_cases e1:j=n
      ·rw[S e1];have e3:n+i=n:=W
       rw[e3]
      ·rw[ir e1,S h]
     ·rw[ir h];by_cases e1:j=n
      ·rw[S e1,S e1]
      ·rw[ir e1,ir e1,ir h]
    have hg:=H.lt n h1;have⟨y1,y2⟩:=Y (τ n) hg c;have⟨q,q1,q2,q3,q4⟩:=cr (fu:=fu) (a:=R (τ n) c) hp (by rw[hl]at y1 y2⊢;lia) y2 F;have e1:(n:J)+(i:J)=((n+i:K):J):=W
    have hn:(gW N σ).set n (σ<|n+i)=gW N λs=>if s=n then σ (n+i)else σ s:=MR;rw[U g1,zA,e1,zb,zb,yc,Q,ZZ,zo h1,Q,ZZ h1,zo h1,Q,MR,Jq,yc,Q,MR,Jq];rw[show(λs=>if s=n+i then σ n else if s=n then σ (n+i)else σ s)=τ from v.symm];rw[zo h1,Q,ZZ h1,jx hg,zF,zo u,Q,jE u,U q1];simp only;rw[zo h1,Q,ZZ h1,U<|zo3 (fu:=fu) (n:=n) (r:=τ n) (q:=q) V p2 Y hg O h1 q2 q3 hw _ O _ O F];simp only;have⟨S1,hd⟩:∃S1:K->Pz,S1=λs=>if s=τ n then λk=>(R (τ n) k*q)%p else R s:=⟨_,O⟩;rw[<-hd];have r1:∀s,s<N->∀k,0<=S1 s k/\S1 s k<p:=λs hs k=>by
     rw[hd];show 0<=(if s=τ n then λk=>(R (τ n) k*q)%p else R s) k/\(if s=τ n then λk=>(R (τ n) k*q)%p else R s) k<p;by_cases e:s=τ n
     ·rw[S e];exact yz (W:0<p)
     ·rw[ir e];exact Y s hs k
    have a0:S1 (τ n)=λk=>(R (τ n) k*q)%p:=by rw[hd];exact S O
    have P:∀j,j<N->j≠n->S1 (τ j)=R (τ j):=λj o G=>by rw[hd];exact ir λe=>G<|H.ij _ _ o h1 e
    have⟨S2,t1,r2,t2⟩:=zaM (fu:=fu) (a:=c) (lo:=0) (n:=n) (t:=n) V p2 r1 H h1 (.inr W) W hN hw u F;have⟨S3,t3,r3,t4⟩:=zaM (fu:=fu) (a:=c) (lo:=n+1) (n:=N-(n+1)) (t:=n) V p2 r2 H h1 (.inl W) W hN hw u F;have T:S2 (τ n)=S1 (τ n):=by rw[t2 n h1,zA]
    have D:S3 (τ n)=S1 (τ n):=by rw[t4 n h1,zA,T]
    have h:(n:J)+1=((n+1:K):J):=W
    rw[Jq,zo h1,Q,ZZ h1,yU,yM,U t1,zo h1,Q,ZZ h1,h,zb,yU,yM,U t3,zb,zb];refine ih _ ⟨S3,τ,n+1,c+1,λi=>if i=n then c else pv i,O,r3,H,?_⟩ (by show w-((c:J)+1).toNat<w-(c:J).toNat;lia);refine hm.step (q:=q) V h1 u q4 (D.trans a0) λj o G=> ?_;show S3 (τ j)=stk p c (S3<|τ n) (R<|τ j);by_cases hr:j<n
    ·rw[t4 j o,zA,t2 j o,Zc ⟨W,W⟩,D,P j o G]
    ·rw[t4 j o,Zc ⟨W,W⟩,T,t2 j o,zA,D,P j o G]
  ·rw[zA];exact⟨_,O,R,σ,n,c,pv,O,d,E,.inr W⟩
 ·rw[zA];exact⟨_,O,R,σ,n,c,pv,O,d,E,.inl W⟩
def DR(hp:wB p=I)(hc:X m=N)(D:N<=64)(o:∀r∈m,X r=w/\Rl r)(t:w<=64)(b:3000000<=fu):
 ∃(A:K->Pz) (n c:K) (pv:K->K),ZU fu m p=Z (YJ n w A,0)/\PB p N w (λi=>C<|m.getD i []) A n c pv/\(n=N\/c=w):=by
 have⟨p1,E⟩:=zp hp;unfold ZU;rw[U<|ni hp W (λr F=>(o r F).1) t b,S O];have⟨M,u⟩:∃M:K->Pz,M=λi=>C (m.getD i []):=⟨_,O⟩;rw[<-u];rw[U (v:=(YJ N w<|λi k=>M i k%p,gW N λi=>i))]
 ·show∃A n c pv,Y (zg (zpH fu p) fu ((YJ N w<|λi k=>M i k%p,gW N λi=>i),0,0)) _=_/\_;obtain⟨y,G,R,σ,n,c,pv,rfl,d,z,H⟩:=zn1 (fu:=fu) (M:=M) hp D t b (x:=((YJ N w<|λi k=>M i k%p,gW N λi=>i),0,0)) ⟨_,_,0,0,λ_=>0,O,λs _ k=>yz,⟨λi hi=>hi,λi j _ _ h=>h⟩,zvS W⟩;have hn:=z.hn;refine⟨λi=>R<|σ i,n,c,pv,?_,z,H⟩;rw[U G];simp only;rw[yU,znx d.lt,YP,xi hn,Q,zod hn]
 ·refine zt (λx:(zC (zC J)×zC K)×J=>∃i:K,i<=N/\x=((YJ i w<|λi k=>M i k%p,gW i λi=>i),(i:J))) (λx=>N-x.2.toNat) _ ?_ _ _ ⟨0,sB _,O⟩ (by show N-0<fu;lia);rintro x L ⟨i,hi,rfl⟩ P;simp only;by_cases h:i<N
  ·have T:=X8 (l:=m) (i:=i) W [];have⟨e1,V⟩:=o _ T;have ep:W3 fu (m.getD i []) p=Z (zl w<|λk=>M i k%p):=by rw[LQ W E V W b,e1,u]
   rw[zS,yc,Q,U ep,Jq,yM,Q,YP,Q,zb];refine P _ ⟨i+1,W,?_⟩ (by show N-((i:J)+1).toNat<N-(i:J).toNat;lia);rw[<-zgK,<-zmz];rfl
  ·rw[zA];obtain rfl:i=N:=W
   rfl
end
section
variable{fu w i N c0:zV}{p:zI}{M A:zV->Pz}
def sA{n c:K}{pv:K->K}(h:PB p N w M A n c pv)(hi:i<n)(q:w<=64)(k:3000000<=fu):J4 fu (zl w<|A i)=Z (pv i:J):=by
 have r:=h.lt i hi;have hc:=h.hc;unfold J4;have m:∀z,(λd=>Xd fu d) z=Z (!decide (z=0)):=λz=>by
  show Xd fu z=_;unfold Xd;by_cases e:z=0
  ·simp_all
  ·simp_all
 have f:=h.on i hi;rcases zk1 (fu:=fu) (l:=zl w<|A i) (b:=λz=> !decide (z=0)) m (by rw[zF];lia) k with⟨g1,a⟩|⟨j,g,g1,a,o⟩
 ·exfalso;have:=a (pv i) (by rw[zF];lia);rw[km W,f]at this;simp_all
 ·rw[zF]at g;rw[km g]at a;have e:j=pv i:=by
   rcases Nat.lt_trichotomy j (pv i)with h1|h1|h1
   ·rw[h.ld i hi j h1]at a;exact wl a YL
   ·exact h1
   ·have:=o (pv i) h1;rw[km W,f]at this;simp_all
  rw[U g1,e]
def FO(n:K)(pv:K->K)(c:K):ws:=(xaE n).all λi=> !xad (pv i) c
theorem AG{n c:K}{pv:K->K}:FO n pv c=I↔∀i,i<n->pv i≠c:=by grind [FO,Nat.beq_refl,xdn]
theorem zeL{n c:K}{pv:K->K}(h:PB p N w M A n c0 pv)(m:N<=64)(f:w<=64)(d:3000000<=fu):wq fu (YJ n w A) (λz=>kH fu z (c:J))=Z (!FO n pv c):=by
 have hn:=h.hn;unfold wq;have g:∀i,i<n->kH fu (zl w<|A i) (c:J)=Z (decide<|pv i=c):=λi hi=>by
  unfold kH;rw[U<|sA h hi f d];by_cases e:pv i=c
  ·simp_all
  ·grind
 have⟨b,j⟩:∃b:zC J->ws,b=λz=>match kH fu z (c:J)with
  |some x=>x
  |none=>yL:=⟨_,O⟩
 have hc:∀i,i<n->b (zl w<|A i)=decide (pv i=c):=λi hi=>by rw[j];simp only[g i hi]
 have k:∀z∈YJ n w A,(λz=>kH fu z (c:J)) z=Z (b z):=λz l=>by
  obtain⟨i,hi,rfl⟩:=xan.1 l;simp_all
 rcases zeZ (fu:=fu) k (by rw[YP];lia) d with⟨g1,a⟩|⟨i,hi,g1,a,o⟩
 ·rw[U g1,ir YL];have:FO n pv c=I:=AG.2 λi hi e=>by
   have:=a _ (xbH (xaZ.2 hi):zl w (A i)∈YJ n w A);grind
  rw[this];rfl
 ·rw[YP]at hi;rw[jx hi,hc i hi]at a;rw[U g1,zS];have:FO n pv c=yL:=by
   cases hd:FO n pv c with
   |false=>rfl
   |true=>exact wl (vR a)<|AG.1 hd i hi
  rw[this];rfl
def Me(p:J)(A:K->Pz)(pv:K->K)(c:K):K->Pz
 |0=>λk=>if k=c then 1 else 0
 |i+1=>Xg (Me p A pv c i) (pv i) (-A i c%p)
theorem zvk{n c:K}{pv:K->K}{t2:zC (zC J)}{i4:J}(h1:2<=p)(d:p<=65521)(h:PB p N w M A n c0 pv)(j:N<=64)(e:w<=64)(hc:c<w)(f:3000000<=fu):
 zg (dW fu (c:J) (w:J) p (YJ n w A) i4) fu (0,t2,zl w<|Me p A pv c 0)=Z (t2,zl w<|Me p A pv c n):=by
 have hn:=h.hn;have hd:=h.hc;refine zt (λs:J×zC (zC J)×zC J=>∃i:K,i<=n/\s=((i:J),t2,zl w<|Me p A pv c i)) (λs=>n-s.1.toNat) _ ?_ _ _ ⟨0,sB _,O⟩ (by show n-0<fu;lia);rintro s L ⟨i,hi,rfl⟩ g;unfold dW;simp only;have b:∀{β:Type} (x:β) (k:β->V (zC (zC J)×zC J)),Y (Z x) k=k x:=λ_ _=>O;by_cases a:i<n
 ·have l:=h.lt i a;have⟨m,o⟩:=h.rg i W c;rw[S (by rw[YP];lia),b];simp only[wN];rw[zo (by rw[YP];exact a),Q,jx a,U<|sA h a e f,zo (by rw[zF];exact hc),Q,jE hc,Gv W,U<|XZ W d ⟨W,W⟩,zo (by rw[zF];lia),Q,Zx,zb];refine g _ ⟨i+1,W,?_⟩ (by show n-((i:J)+1).toNat<n-(i:J).toNat;lia);rw[xfH];rfl
 ·rw[ir (by rw[YP];lia),b];grind
def Fg(n:K)(pv:K->K)(w:K):zC K:=(xaE w).filter<|FO n pv
theorem Oa(n:K)(pv:K->K)(w:K):Fg n pv (w+1)=if FO n pv w=I then Fg n pv w++[w]else Fg n pv w:=by grind [Fg,xdb]
def zow(n:K)(pv:K->K)(w:K):X (Fg n pv w)<=w:=by
 have:=xfs (FO n pv)<|xaE w;rw[xeg]at this;exact this
def OM{m:zC (zC J)}(hp:wB p=I)(hd:X m=N)(e:N<=64)(f:∀r∈m,X r=w/\Rl r)(a:w<=64)(b:3000000<=fu):
 ∃(A:K->Pz) (n c:K) (pv:K->K),Ju fu m (w:J) p=Z ((Fg n pv w).map λc=>zl w<|Me p A pv c n,0)/\PB p N w (λi=>C<|m.getD i []) A n c pv/\(n=N\/c=w):=by
 have⟨o,q⟩:=zp hp;have⟨A,n,c,pv,e1,d,t⟩:=DR (fu:=fu) hp hd e f a b;refine⟨A,n,c,pv,?_,d,t⟩;have hn:=d.hn;unfold Ju;rw[U (v:=Sum.inl ())]
 ·simp only;rw[U e1];simp only;rw[U (v:=(Fg n pv w).map λc=>zl w<|Me p A pv c n)];refine zt (λs:zC (zC J)×J=>∃k:K,k<=w/\s=((Fg n pv k).map λc=>zl w<|Me p A pv c n,(k:J))) (λs=>w-s.2.toNat) _ ?_ _ _ ⟨0,sB _,O⟩ (by show w-0<fu;lia);rintro s L ⟨k,z,rfl⟩ g;unfold Bj;simp only;have h:∀{β:Type} (x:β) (k:β->V (zC<|zC J)),Y (Z x) k=k x:=λ_ _=>O;by_cases l:k<w
  ·rw[zS,h];simp only[wN];rw[U<|zeL (c:=k) d e a b]
   cases hc:FO n pv k with
   |false=>
    rw[show(!yL)=I from O,S O,zb];refine g _ ⟨k+1,W,?_⟩ (by show w-((k:J)+1).toNat<w-(k:J).toNat;lia);rw[Oa,ir<|by rw[hc];decide];rfl
   |true=>
    have B:=zow n pv k;have u:zl w (Xg (λ_=>0) k 1)=zl w (Me p A pv k 0):=yR λj _=>by unfold Xg;rfl
    rw[show(!I)=yL from O,ir YL,yU,yM,Q,fc,zo (by rw[zF];exact l),Q,Zx,u,U<|zvk (i4:=(w:J)) o q d e a l b];simp only;rw[xi (by rw[xaV];simp;lia),Q,zb];refine g _ ⟨k+1,W,?_⟩ (by show w-((k:J)+1).toNat<w-(k:J).toNat;lia);rw[Oa,S hc,xaU];rfl
  ·rw[zA,h];simp only[xaj,wP];obtain rfl:k=w:=W
   rfl
 ·rw[U<|ni hp W (λr y=>(f r y).1) a b,S O,zA,zA];by_cases h0:0<X m
  ·have D:=(f _<|X8 h0 []).1;rw[zS,zsX h0,Q,zS]
  ·rw[zA]
def Da{p:J}{A:K->Pz}{pv:K->K}{c k:K}:∀{n:K},(∀i,i<n->pv i≠k)->Me p A pv c n k=if k=c then 1 else 0
 |0,_=>rfl
 |n+1,h=>by
  show Xg (Me p A pv c n) (pv n) _ k=_;unfold Xg;rw[ir<|λe=>h n W e.symm];exact Da λi hi=>h i W
def Mr{p:J}{A:K->Pz}{pv:K->K}{c i:K}:∀{n:K},i<n->(∀j,j<n->j≠i->pv j≠pv i)->Me p A pv c n (pv i)= -A i c%p
 |0,h,_=>by lia
 |n+1,h,hd=>by
  show Xg (Me p A pv c n) (pv n) _ (pv i)=_;unfold Xg;by_cases e:i=n
  ·simp_all
  ·rw[ir<|λa=>hd n W (λb=>e b.symm) a.symm];exact Mr W λj f d=>hd j W d
def PB.pv_ne{n c:K}{pv:K->K}(h:PB p N w M A n c pv){j:K}(hi:i<n)(a:j<n)(b:j≠i):pv j≠pv i:=λe=>by
 have h1:=h.on i hi;have hn:=h.hn;have f:=h.no j a i W λd=>b d.symm;simp_all
def zi0{p:J}(hp:2<=p){A:K->Pz}{pv:K->K}{c:K}:∀(n k:K),0<=Me p A pv c n k/\Me p A pv c n k<p
 |0,k=>by
  show 0<=(if k=c then 1 else 0)/\(if k=c then 1 else 0)<p;lia
 |n+1,k=>by
  show 0<=Xg (Me p A pv c n) (pv n) (-A n c%p) k/\Xg (Me p A pv c n) (pv n) (-A n c%p) k<p;unfold Xg;split
  ·exact yz
  ·exact zi0 hp n k
theorem zjs(n:K)(pv:K->K)(F:K->J):∀w,yA (X (Fg n pv w)) (λj=>F<|(Fg n pv w).getD j 0)=yA w λc=>if FO n pv c=I then F c else 0
 |0=>rfl
 |w+1=>by
  have a:=zjs n pv F w;show _=yA w _+(if FO n pv w=I then F w else 0);rw[Oa];by_cases h:FO n pv w=I
  ·rw[S h,xak,<-a];show yA (X (Fg n pv w)) _+F ((Fg n pv w++[w]).getD (X (Fg n pv w)) 0)=_;congr 1
   ·exact yH λj b=>by grind
   ·simp_all
  ·simp_all
def zp8{n c:K}{pv:K->K}(h:PB p N w M A n c pv)(hi:i<n)(e:K->J):dt w (A i) e=e (pv i)+yA w λk=>if FO n pv k=I then A i k*e k else 0:=by
 have hd:=h.lt i hi;have m:=h.hc;have hn:=h.hn;have h1:dt w (A i) e=yA w (λk=>(if k=pv i then e k else 0)+if FO n pv k=I then A i k*e k else 0):=by
  refine yH λk f=> ?_;by_cases e1:k=pv i
  ·have a:=λa=>AG.1 a i hi e1.symm;rw[S e1,ir a,e1,h.on i hi,xcr,xby]
  ·rw[ir e1];by_cases a:FO n pv k=I
   ·simp_all
   ·rw[ir a,xby];have⟨j,d,b⟩:∃j,j<n/\pv j=k:=by
     apply xac;intro g;exact a<|AG.2 λj d b=>g ⟨j,d,b⟩
    have hc:i≠j:=λl=>by rw[<-l]at b;exact e1 b.symm
    rw[<-b,h.no j d i W hc,xaK]
 rw[h1,Vv,vg<|λk f=>ir f,zS,S O]
def zvd(hp:2<=p){n:K}{pv:K->K}(h:PB p N w M A n c0 pv)(f:n=N\/c0=w){c:K}(hc:c<w)(o:FO n pv c=I):Kr p N w M (Me p A pv c n):=(h.kr _).1 λi hi=>by
 by_cases a:i<n
 ·rw[zp8 h a,Mr a λj l hd=>h.pv_ne (i:=i) (j:=j) a l hd];have m:yA w (λk=>if FO n pv k=I then A i k*Me p A pv c n k else 0)=A i c:=by
   rw[yH (g:=λk=>if k=c then A i k else 0) λk b=>by
    by_cases d:FO n pv k=I
    ·rw[S d,Da<|AG.1 d];by_cases e:k=c
     ·simp_all
     ·simp_all
    ·rw[ir d];by_cases e:k=c
     ·simp_all
     ·rw[ir e],vg (i:=c)<|λk b=>ir b,S hc,S O]
  rw[m];refine xaA ?_;rw[Int.emod_add_emod,(W:-A i c+A i c=0),xae]
 ·obtain he|he:=f
  ·lia
  ·have:dt w (A i) (Me p A pv c n)=0:=by
    unfold dt;rw[xz λk b=>by rw[h.zr i W hi k W,xaK]]
   simp_all
theorem zqg(hp:2<=p){n:K}{pv:K->K}(h:PB p N w M A n c0 pv){e:K->J}(f:Kr p N w M e){k:K}(l:k<w):
 e k%p=yA (X (Fg n pv w)) (λj=>e ((Fg n pv w).getD j 0)*Me p A pv ((Fg n pv w).getD j 0) n k)%p:=by
 rw[zjs n pv (λc=>e c*Me p A pv c n k) w];by_cases d:FO n pv k=I
 ·congr 1;rw[yH (g:=λc=>if c=k then e c else 0) λc hc=>by
   rw[Da<|AG.1 d];by_cases e1:c=k
   ·simp_all
   ·rw[ir e1,ir (λh:k=c=>e1 h.symm),xaw,ite_self],vg (i:=k)<|λc hc=>ir hc,S l,S O]
 ·obtain⟨i,hi,rfl⟩:∃i,i<n/\pv i=k:=by
   apply xac;intro m;exact d<|AG.2 λj b hd=>m ⟨j,b,hd⟩
  have hn:=h.hn;have h1:=(h.kr e).2 f i W;rw[zp8 h hi]at h1;have o:yA w (λc=>if FO n pv c=I then e c*Me p A pv c n (pv i)else 0)%p=(-(yA w λk=>if FO n pv k=I then A i k*e k else 0))%p:=by
   have q: -(yA w λk=>if FO n pv k=I then A i k*e k else 0)=yA w λk=> -1*(if FO n pv k=I then A i k*e k else 0):=by rw[Ya];lia
   rw[q];refine tM λc hc=> ?_;by_cases a:FO n pv c=I
   ·rw[S a,S a,Mr hi λj b r=>h.pv_ne (i:=i) (j:=j) hi b r,xaY,xay,<-xaY];grind
   ·rw[ir a,ir a,xaw]
  rw[o];refine xaC.2<|xaq ?_;rw[Int.sub_neg];exact h1
end
section
variable{N w r fu P:zV}{R:zV->Pz}{m:zC zI}
def zdG(h:r<N):(([]:zC J)::YJ N w R).getD (r+1) []=zl w (R r):=jx h
theorem zpm{g:A}:(([]:zC J)::YJ N w R).set (r+1) (zl w g)=[]::YJ N w λs=>if s=r then g else R s:=by grind [zb7]
theorem zvn{c:K}{h:zC J}(f:w<=64)(hc:c<w)(hl:X h<=w)(b:J)(d:b=(c:J))(g:3000000<=fu):
 zg (λL (y:(zC (zC J)×zC K)×J)=>
 if y.2<(X h:J)then
  zH y.2 (X h) λj=>
  B (h.getD j 0) λv=>
  zH y.2 (X y.1.2) λj=>
  B (y.1.2.getD j 0) λr=>
  zH b (X (y.1.1.getD r [])) λj=>
  B (y.1.1.set r<|(y.1.1.getD r []).set j v) λa=>
  E (y.2+1) λi=>L ((a,y.1.2),i)
 else Z y.1) fu (([]::YJ w w R,gW w λi=>i+1),0)=Z ([]::YJ w w λs=>if s<X h then Xg (R s) c (C h s)else R s,gW w λi=>i+1):=by
 subst d;refine zt (λy:(zC (zC J)×zC K)×J=>∃i:K,i<=X h/\y=(([]::YJ w w λs=>if s<i then Xg (R s) c (C h s)else R s,gW w λi=>i+1),(i:J))) (λy=>X h-y.2.toNat) _ ?_ _ _ ⟨0,sB _,by rw[YC (R:=R) (S:=λs=>if s<0 then Xg (R s) c (C h s)else R s) λs _ k _=>by rw[zA]];rfl⟩ (by show X h-0<fu;lia);rintro y L ⟨i,hi,rfl⟩ e;simp only;by_cases h1:i<X h
 ·rw[zS,zo h1,Q,YU,Jq,yc,Q,ZZ,zdG W,zF,zo hc,Q,Zx,zpm,zA,zb];refine e _ ⟨i+1,W,?_⟩ (by show X h-((i:J)+1).toNat<X h-(i:J).toNat;lia);grind
 ·grind
def U5(a:K->zC J)(c:K):K->A:=λi k=>if k<c then C (a k) i-(if i=k then 1 else 0)else 0
def RU{a b:zC J}{p:J}(hp:wB p=I)(e:Fp p a)(c:xZ p b)(hc:X a<=90000)(hd:X b<=90000)(f:3000000<=fu):
 ∃q r,uD fu a b p=Z (q,r,0)/\Fp p r/\Cg p (C a) (C q*C b+C r)/\X r<X b:=by
 have⟨j,d⟩:=zp hp;have⟨q,r,e1,k,g,h,i,l⟩:=xO hp e c.fm c.ln hc hd f;refine⟨q,r,?_,g,h,i⟩;unfold uD;rw[U<|Zm hp,S O,U<|zQ W d (c.fm.rl d) W f,c.fm.pm,zA,U<|zQ W d (e.rl d) W f,e.pm,U e1]
def zoI(fu:K)(f:zC J)(p n:J):(((zC (zC J)×zC K)×zC J×zC J×J)->V (zC (zC J)×zC K))->((zC (zC J)×zC K)×zC J×zC J×J)->V (zC (zC J)×zC K):=λL (x:(zC (zC J)×zC K)×zC J×zC J×J)=>if x.2.2.2<n then Y (zg (λL (y:(zC (zC J)×zC K)×J)=>if y.2<(X x.2.1:J)then zH y.2 (X x.2.1) λj=>B (x.2.1.getD j 0) λv=>zH y.2 (X y.1.2) λj=>B (y.1.2.getD j 0) λr=>zH x.2.2.2 (X (y.1.1.getD r [])) λj=>B (y.1.1.set r<|(y.1.1.getD r []).set j v) λa=>E (y.2+1) λi=>L ((a,y.1.2),i)else Z y.1) fu (x.1,0)) λy=>zH x.2.2.2 (X y.2) λj=>B (y.2.getD j 0) λr=>zH x.2.2.2 (X (y.1.getD r [])) λj=>B ((y.1.getD r []).getD j 0) λv=>E (v-1) λe=>zH x.2.2.2 (X (y.1.getD r [])) λj=>B (y.1.set r<|(y.1.getD r []).set j e) λa=>Y (uG fu x.2.1 x.2.2.1 p) λu=>Y (uD fu u.1 f p) λw=>E (x.2.2.2+1) λi=>L ((a,y.2),w.2.1,x.2.2.1,i)else Z x.1
def ztz:((gW N λi=>i+1).map λr=>(([]:zC J)::YJ N w R).getD r [])=YJ N w R:=by
 show((xaE N).map λi=>i+1).map _=(xaE N).map _;rw[xcP];exact xce λi hi=>zdG<|xaZ.1 hi
def FxI(P:K)(m x:zC J)(w:K)(y:(zC (zC J)×zC K)×zC J×zC J×J):Prop:=
 ∃(a:K->zC J) (c:K),y=(([]::YJ w w (U5 a c),gW w λi=>i+1),a c,x,(c:J))/\c<=w/\∀k,k<=c->Fp (P:J) (a k)/\X (a k)<=w/\Em (P:J) m (pp (pp vx P) k) (C<|a k)
def zoQ{x:zC J}(hp:wB (P:J)=I)(o:xZ (P:J) m)(hi:X m=w+1)(D:1<=w)(q:w<=64)(t:Fp (P:J) x)(hl:X x<=w)(hd:Em (P:J) m (pp vx P) (C x))(h:3000000<=fu){y:(zC (zC J)×zC K)×zC J×zC J×J}(j:FxI P m x w y):
 ∃r,zg (zoI fu m P (w:J)) fu y=Z r/\∃a:K->zC J,r=([]::YJ w w (U5 a w),gW w λi=>i+1)/\∀k,k<=w->Fp (P:J) (a k)/\X (a k)<=w/\Em (P:J) m (pp (pp vx P) k) (C<|a k):=by
 have⟨E,F⟩:=zp hp;refine yb (FxI P m x w) (λy=>w-y.2.2.2.toNat) _ ?_ _ _ j (by obtain⟨a,c,rfl,_⟩:=j;show w-(c:J).toNat<fu;lia);rintro y L ⟨a,c,rfl,hc,d⟩ u;unfold zoI;simp only;by_cases h1:c<w
 ·have⟨k1,k2,v⟩:=d c<|eZ _;have G:=k1.nn c;have hn:=k1.lt c;have⟨R,f⟩:∃R:K->A,R=λs=>if s<X (a c) then Xg (U5 a c s) c (C (a c) s)else U5 a c s:=⟨_,O⟩;have l:∀s,R s c=C (a c) s:=λs=>by
   rw[f];show(if s<X (a c) then Xg (U5 a c s) c (C (a c) s)else U5 a c s) c=_;by_cases e:s<X (a c)
   ·rw[iq e];exact iq O
   ·rw[ir e,zW W];exact zA
  have z:∀s k,k≠c->R s k=U5 a c s k:=λs k g=>by
   rw[f];show(if s<X (a c) then Xg (U5 a c s) c (C (a c) s)else U5 a c s) k=_;by_cases e:s<X (a c)
   ·rw[iq e];exact ir g
   ·rw[ir e]
  have H:=vy (P:J) (a c) x;have⟨q2,r2,d1,d2,d3,d4⟩:=RU (fu:=fu) hp (vv (p:=(P:J)) W (a c) x) o W W h;rw[zS,U<|zvn (fu:=fu) (R:=U5 a c) q h1 k2 _ O h,<-f];simp only;rw[Jq,zo h1,Q,ZZ h1,zdG h1,zF,zo h1,Q,jE h1,l,zb,zo h1,Q,Zx,zpm,U<|Yu hp k1 t,U d1];simp only;rw[zb];refine u _ ⟨λk=>if k=c+1 then r2 else a k,c+1,?_,W,λk g=> ?_⟩ (by show w-((c:J)+1).toNat<w-(c:J).toNat;lia)
  ·show _=((_,_),(if c+1=c+1 then r2 else a (c+1)),x,_);rw[iq O,YC (S:=U5 (λk=>if k=c+1 then r2 else a k)<|c+1) λs M k g=>by
    show(if s=c then Xg (R c) c (C (a c) c-1)else R s) k=if k<c+1 then C (if k=c+1 then r2 else a k) s-(if s=k then 1 else 0)else 0;by_cases e1:k=c
    ·rw[e1,show(if c<c+1 then C (if c=c+1 then r2 else a c) s-(if s=c then(1:J)else 0)else 0)=C (a c) s-(if s=c then(1:J)else 0)by rw[zS,zA]];by_cases b:s=c
     ·rw[iq b,iq b,b];exact iq O
     ·rw[ir b,ir b,l,xcy]
    ·have B:(if s=c then Xg (R c) c (C (a c) c-1)else R s) k=R s k:=by
      by_cases b:s=c
      ·rw[iq b,b];exact ir e1
      ·rw[ir b]
     rw[B,z s k e1];unfold U5;by_cases n:k<c
     ·rw[iq n,show(if k<c+1 then C (if k=c+1 then r2 else a k) s-(if s=k then(1:J)else 0)else 0)=C (a k) s-(if s=k then(1:J)else 0)by rw[zS,zA]]
     ·rw[ir n,ir (W:¬k<c+1)]]
   rfl
  ·show Fp (P:J) (if k=c+1 then r2 else a k)/\X (if k=c+1 then r2 else a k)<=w/\Em (P:J) m (pp (pp vx P) k) (C (if k=c+1 then r2 else a k));by_cases e:k=c+1
   ·rw[iq e,e];refine⟨d2,W,?_⟩;show Em (P:J) m (pp (pp vx P) c*pp vx P) (C r2);exact(Em.mul ((Fs.vx.pp P).pp c) (Fs.ci x) v hd).trans<|(Em.cg (jD (P:J) (a c) x).symm).trans<|Em.rest d3
   ·rw[ir e];exact d k W
 ·rw[zA];obtain rfl:c=w:=W
  exact⟨_,O,a,O,d⟩
def Ej(hp:wB (P:J)=I)(d:xZ (P:J) m)(j:X m=w+1)(l:1<=w)(n:w<=64)(c:3000000<=fu):
 ∃b:K->zC J,VV fu m P=Y (Ju fu (YJ w w<|U5 b w) (w:J) P) (λr=>Z r.1)/\∀k,k<=w->Fp (P:J) (b k)/\X (b k)<=w/\Em (P:J) m (pp (pp vx P) k) (C<|b k):=by
 have⟨z,A⟩:=zp hp;have cx:C [0,1]=vx:=by
  funext k
  match k with
  |0=>rfl
  |1=>rfl
  |k+2=>rw[zW Xn];exact(show(if k+2=1 then(1:J)else 0)=0 from zA).symm
 have fx:Fp (P:J) [0,1]:=⟨λk=>by rw[cx];show 0<=(if k=1 then(1:J)else 0);split<;>lia,λk=>by rw[cx];show(if k=1 then(1:J)else 0)<P;split<;>lia,.inr YL⟩;have o:Fp (P:J) [1]:=ZA;have⟨x,p,q,B,f⟩:=dc (fu:=fu) (w:=[0,1]) (a:=m) (E:=P) hp fx d YL W W W c;rw[cx]at f;have hc:YJ w w (U5 (λ_=>[1]) 0)=YJ w w (λ_ _=>0):=YC λs _ k _=>zA;obtain⟨r,g,b,rfl,t⟩:=zoQ (fu:=fu) hp d j l n q W f c (y:=(([]::YJ w w (U5 (λ_=>[1]) 0),gW w λi=>i+1),[1],x,0)) ⟨λ_=>[1],0,O,sB _,λk D=>⟨o,by simp;lia,by
  obtain rfl:k=0:=W
  show Em (P:J) m (F 1) (C [1]);rw[va];exact Em.rfl⟩⟩
 rw[hc]at g;refine⟨b,?_,t⟩;unfold VV;rw[zb,(W:(X m:J)-1=(w:J)),yU,yM,Q,U (v:=([]::YJ w w (λ_ _=>0),gW w λi=>i+1))]
 ·rw[U<|yE ⟨W,W⟩ c,U p];show Y (zg (zoI fu m P (w:J)) fu (([]::YJ w w (λ_ _=>0),gW w λi=>i+1),[1],x,0)) _=_;rw[U g];simp only;rw[ztz]
 ·have hd:sR w 0=gW w λs=>if s<0 then s+1 else 0:=by
   unfold gW;rw[show(λs=>if s<0 then s+1 else 0)=λ_=>0 from wu λs=>zA,List.map_const',xeg]
  rw[hd];refine zt (λx:(zC (zC J)×zC K)×J=>∃i:K,i<=w/\x=(([]::YJ i w (λ_ _=>0),gW w λs=>if s<i then s+1 else 0),(i:J))) (λx=>w-x.2.toNat) _ ?_ _ _ ⟨0,sB _,O⟩ (by show w-0<fu;lia);rintro x L ⟨i,hi,rfl⟩ u;simp only;rw[Jq];by_cases h1:i<w
  ·rw[zS,yU,yM,Q,fc,Jq,zo h1,Q,xbJ,zgK i w<|λ_ _=>0,Q,MR,xar,YP,zb];refine u _ ⟨i+1,W,?_⟩ (by show w-((i:J)+1).toNat<w-(i:J).toNat;lia);have:(λs=>if s=i then i+1 else if s<i then s+1 else 0)=λs=>if s<i+1 then s+1 else 0:=wu λs=>by
    by_cases e:s=i
    ·rw[S e,zS,e]
    ·rw[ir e];by_cases h:s<i
     ·rw[S h,zS]
     ·rw[ir h,zA]
   rw[this];rfl
  ·rw[zA];obtain rfl:i=w:=W
   congr 2;unfold gW;exact xce λs b=>S<|xaZ.1 b
end
section
variable{m:zC zI}{P w:zV}
def Di.short{p:J}(hp:2<=p)(a:xZ p m){f:A}(b:∀k,X m-1<=k->f k=0)(h:Di p (C m) f):Cg p f (F 0):=by
 have⟨q,fq,hc⟩:=h;have:=a.mn.zero hp fq λk c=>by rw[<-hc k,b k c,xae]
 exact hc.trans<|this.mul_zero_r _
def zb5(F:K->A)(k:K):∀n,smP n F k=yA n λi=>F i k
 |0=>by show pc 0 k=0;unfold pc;split<;>rfl
 |n+1=>by
  show(smP n F+F n) k=yA n (λi=>F i k)+F n k;rw[zG,zb5 F k n]
def Em.smP{p:J}{a:N J}{F G:K->A}:∀n,(∀i,i<n->Em p a (F i) (G i))->Em p a (smP n F) (smP n G)
 |0,_=>Em.rfl
 |n+1,h=>(Di.add (Em.smP n λi hi=>h i W)<|h n W).cg (Cg.of (wu λk=>by
  show(Go.Proofs.YtdpdofimolhigaaGreat.smP n F k-Go.Proofs.YtdpdofimolhigaaGreat.smP n G k)+(F n k-G n k)=(Go.Proofs.YtdpdofimolhigaaGreat.smP n F k+F n k)-(Go.Proofs.YtdpdofimolhigaaGreat.smP n G k+G n k);lia))
theorem zjS{a:K->N J}(hp:wB (P:J)=I)(o:xZ (P:J) m)(q:X m=w+1)(d:∀k,k<=w->Fp (P:J) (a k)/\X (a k)<=w/\Em (P:J) m (pp (pp vx P) k) (C<|a k)){e:A}(f:∀k,w<=k->e k=0):
 Di (P:J) (C m) (pp e P-e)↔∀s,s<w->(P:J)∣dt w (U5 a w s) e:=by
 have⟨r,t⟩:=zp hp;have hn:=Wa hp;rw[xaJ]at hn;let S:A:=smP w λi=>F (e i)*C (a i)
 have h1:Em (P:J) m (pp e P) S:=(Em.cg<|zwv W hn f).trans<|Em.smP w λi hi=>Em.mul (Fs.pc _) (Fs.ci _) Em.rfl (d i W).2.2;have j:∀k,w<=k->(S-e) k=0:=λk b=>by
  show S k-e k=0;rw[f k b,show S k=yA w λi=>(F (e i)*C (a i)) k from zb5 _ k w,xz λi hi=>by rw[zU,zW (by have:=(d i W).2.1;lia),xaw]];rfl
 have l:∀s,s<w->dt w (U5 a w s) e=(S-e) s:=λs c=>by
  show yA w (λk=>(if k<w then C (a k) s-(if s=k then 1 else 0)else 0)*e k)=S s-e s;rw[show S s=yA w λi=>(F (e i)*C (a i)) s from zb5 _ s w,yH (g:=λk=>(F (e k)*C (a k)) s+(if k=s then-e k else 0)) λk b=>by
   rw[iq b,zU];by_cases h:k=s
   ·grind
   ·rw[ir<|λg=>h g.symm,ir h,xcy,xby,xaX],Vv,vg (i:=s)<|λk b=>ir b,iq c,iq O]
  lia
 have p:Di (P:J) (C m) (pp e P-e)↔Di (P:J) (C m) (S-e):=⟨λh=>(h1.symm.trans (show Em _ _ _ e from h):Em _ _ _ e),λh=>(h1.trans (show Em _ _ _ e from h):Em _ _ _ e)⟩;rw[p];constructor
 ·intro h s c;have:=Di.short W o (λk b=>j k W) h;rw[l s c];have n:=this s;rw[zE,xae]at n;exact xaA n
 ·intro h;refine(Di.zero _ _).cg λs=> ?_;rw[zE,xae];symm;by_cases c:s<w
  ·rw[<-l s c];exact xaq<|h s c
  ·rw[j s W,xae]
def zrc(hp:wB (P:J)=I):P=2\/P%2=1:=by
 have⟨a,b⟩:=zp hp;have hn:=Wa hp;by_cases h:P=2
 ·lia
 ·have:=hn 2 W;by_cases c:4<=P
  ·lia
  ·lia
def IH{fu:K}(hp:wB (P:J)=I)(x:xZ (P:J) m)(z:X m=w+1)(V:1<=w)(B:w<=64)(E:3000000<=fu):
 ∃bs,VV fu m P=Z bs/\1<=X bs/\X bs<=w/\(∀v∈bs,Rl v/\X v=w)/\Bs P m (λi=>C<|bs.getD i []) (X bs)/\∃c:J,Cg (P:J) (C<|bs.getD 0 []) (pc c):=by
 have⟨p1,p2⟩:=zp hp;have⟨b,h1,t⟩:=Ej (fu:=fu) hp x z V B E;have Y:∀s k,Um (U5 b w s k):=λs k=>by
  show Um (if k<w then C (b k) s-(if s=k then 1 else 0)else 0);by_cases h:k<w
  ·rw[S h];have f:=(t k W).1;have f1:=f.nn s;have f2:=f.lt s;split
   ·exact⟨W,W⟩
   ·exact⟨W,W⟩
  ·rw[ir h];exact⟨W,W⟩
 have⟨A,n,c,pv,e1,o,e3⟩:=OM (fu:=fu) (N:=w) (w:=w) (m:=YJ w w<|U5 b w) hp (YP _ _ _) B (λr G=>by
  unfold YJ at G;obtain⟨s,_,rfl⟩:=xan.1 G;refine⟨zF _ _,λk=> ?_⟩;by_cases a:k<w
  ·rw[km a];exact Y s k
  ·rw[zW<|by rw[zF];lia];exact⟨W,W⟩) B E
 have D:∀e:Pz,Kr (P:J) w w (λi=>C<|(YJ w w<|U5 b w).getD i []) e↔∀s,s<w->(P:J)∣dt w (U5 b w s) e:=λe=>forall_congr' λs=>imp_congr_right λy=>by rw[show dt w (C<|(YJ w w<|U5 b w).getD s []) e=dt w (U5 b w s) e from yH λk a=>by rw[jx y,km a]]
 let F:K->zC J:=λc=>zl w<|Me (P:J) A pv c n
 have hn:∀i,i<X (Fg n pv w)->(Fg n pv w).getD i 0<w/\FO n pv ((Fg n pv w).getD i 0)=I:=λi hi=>by
  rw[Yh,xaa hi,xeq];have:=xbx hi;have d:=xcf.1 this;exact⟨xaZ.1 d.1,d.2⟩
 have q:∀i,i<X (Fg n pv w)->((Fg n pv w).map F).getD i []=F ((Fg n pv w).getD i 0):=λi hi=>by rw[Yh,Yh,xbZ,xaa hi];rfl
 have H:∀i,i<w->(P:J)∣A i 0:=by
  have h0:Kr (P:J) w w A λk=>if k=0 then 1 else 0:=(o.kr _).2 ((D _).2 λs y=>by
   show(P:J)∣yA w λk=>U5 b w s k*(if k=0 then 1 else 0);rw[vg (i:=0) (λk a=>by rw[ir a,xaw]),zS,S O,xci];show(P:J)∣(if 0<w then C (b 0) s-(if s=0 then 1 else 0)else 0);rw[zS];have g:=(t 0<|sB _).2.2;have g1:Cg (P:J) (pc 1-C (b 0)) (pc 0):=Di.short W x (λk a=>by
    rw[yT,zW (by have:=(t 0<|sB _).2.1;lia)];show pc 1 k-0=0;unfold pc;rw[zA];rfl) g
   have L:=g1 s;rw[yT,zE,xae]at L;have M:=xaA L;have g4:(pc 1 s:J)=if s=0 then 1 else 0:=O;rw[g4]at M;have:=Int.dvd_neg.2 M;rw[Int.neg_sub]at this;exact this)
  intro i hi;have:(P:J)∣yA w λk=>A i k*(if k=0 then 1 else 0):=h0 i hi;rw[vg (i:=0) (λk a=>by rw[ir a,xaw]),zS,S O,xci]at this;exact this
 have Q:FO n pv 0=I:=AG.2 λi hi h=>by
  have d:=o.on i hi;rw[h]at d;have R:=H i (by have:=o.hn;lia);rw[d]at R;have:=Int.le_of_dvd W R;lia
 have hx:∃l,Fg n pv w=0::l:=by
  obtain⟨u,rfl⟩:∃u,w=u+1:=⟨w-1,W⟩;unfold Fg;rw[List.range_succ_eq_map,xfu,S Q];exact⟨_,O⟩
 have⟨l,hl⟩:=hx;refine⟨(Fg n pv w).map F,by rw[h1,U e1],by rw[hl];simp,by rw[xaV];exact zow n pv w,λv hv=> ?_,⟨zrc hp,W,λe he hd=> ?_,λi hi k a=> ?_,λi hi=> ?_⟩,1,?_⟩
 ·obtain⟨c,_,rfl⟩:=xan.1 hv;refine⟨λk=> ?_,zF _ _⟩;by_cases a:k<w
  ·show Um (C (zl w _) k);rw[km a];have:=zi0 (p:=(P:J)) W (A:=A) (pv:=pv) (c:=c) n k;exact⟨W,W⟩
  ·rw[zW (by show(zl w _).length<=k;rw[zF];lia)];exact⟨W,W⟩
 ·have T:∀k,w<=k->e k=0:=λk a=>he k W;refine⟨λi=>e<|(Fg n pv w).getD i 0,λk=> ?_⟩;rw[zb5,xaV];by_cases a:k<w
  ·rw[zqg W o ((D e).2<|(zjS hp x z t T).1 hd) a];congr 1;refine yH λi hi=> ?_;rw[zU,q i hi];show _=_*C (zl w _) k;rw[km a]
  ·rw[T k W,xz λi hi=>by
    rw[zU,q i hi];show _*C (zl w _) k=0;rw[zW (by rw[zF];lia),xaw]]
 ·rw[xaV]at hi;rw[q i hi];exact zW (by show(zl w _).length<=k;rw[zF];lia)
 ·rw[xaV]at hi;have hz:∀k,w<=k->C (((Fg n pv w).map F).getD i []) k=0:=λk a=>by
   rw[q i hi];exact zW (by show(zl w _).length<=k;rw[zF];lia)
  refine(zjS hp x z t hz).2<|(D _).1 ?_;have:=zvd W o e3 (hn i hi).1 (hn i hi).2;intro s y;have d:=this s y;rw[show dt w _ (C<|((Fg n pv w).map F).getD i [])=dt w _ (Me (P:J) A pv ((Fg n pv w).getD i 0) n)from yH λk a=>by
   rw[q i hi];show _*C (zl w _) k=_;rw[km a]]
  exact d
 ·intro k;rw[q 0 (by rw[hl];simp),hl];show C (zl w<|Me (P:J) A pv 0 n) k%P=(if k=0 then(1:J)else 0)%P;by_cases a:k<w
  ·rw[km a];by_cases hc:FO n pv k=I
   ·rw[Da<|AG.1 hc]
   ·have:∃i,i<n/\pv i=k:=xac λh=>hc<|AG.2 λi hi d=>h ⟨i,hi,d⟩;obtain⟨i,hi,rfl⟩:=this;rw[Mr hi λj hj hy=>o.pv_ne (i:=i) (j:=j) hi hj hy];have h0:pv i≠0:=λh=>by rw[h]at hc;exact hc Q
    rw[ir h0,xae];have h5:=H i (by have:=o.hn;lia);exact xaq<|xaA<|by rw[xcE _<|xej _];exact xaq<|Int.dvd_neg.2 h5
  ·rw[zW (by rw[zF];lia),zA]
end
section
section
variable{α:Type}
def iB1(d:α)(cmp:α->α->V J):((J×J×J×N α)->V (J×J×N α))->(J×J×J×N α)->V (J×J×N α):=λL (i2,a,i4,t2)=>
 if i2<i4 then
 zH i4 (X t2) λb=>
 B ((t2.getD b d)) λt3=>
 E (i4-(1:J)) λc=>
 zH c (X t2) λe=>
 B ((t2.getD e d)) λt4=>
 Y (cmp t3 t4) λf=>
 if f<(0:J)then
 E (i4-(1:J)) λg=>
 E (i4-(1:J)) λh=>
 zH h (X t2) λi=>
 B ((t2.getD i d)) λt5=>
 zH i4 (X t2) λj=>
 B ((t2.getD j d)) λt6=>
 zH i4 (X t2) λk=>
 B (t2.set k t5) λt7=>
 zH g (X t7) λl=>
 B (t7.set l t6) λt8=>
 E (i4-(1:J)) λm=>
 L (i2,a,m,t8)
 else
 Z (i2,a,t2)
 else
 Z (i2,a,t2)
def iB0(fu:K)(d:α)(b a:J)(cmp:α->α->V J):((J×N α)->V (N α))->(J×N α)->V (N α):=λL (i1,t1)=>
 if i1<a then
 Y (zg (iB1 d cmp) fu (b,a,i1,t1)) λ(e,f,t9)=>
 E (i1+(1:J)) λc=>
 L (c,t9)
 else
 Z t1
structure Od3(c:α->α->J)(S:α->Prop):Prop where
 tr:∀x y z,S x->S y->S z->¬c y x<0->¬c z y<0->¬c z x<0
 an:∀x y,S x->S y->c x y<0->¬c y x<0
def zht(d x:α):∀(a b:N α),(a++x::b).getD (X a) d=x
 |[],_=>rfl
 |_::a,b=>zht d x a b
def zdd(d y x:α):∀(a b:N α),(a++y::x::b).getD (X a+1) d=x
 |[],_=>rfl
 |_::a,b=>zdd d y x a b
def zpL(x z:α):∀(a b:N α),(a++x::b).set (X a) z=a++z::b
 |[],_=>rfl
 |h::a,b=>wF (h:: ·)<|zpL x z a b
def zjP(y x z:α):∀(a b:N α),(a++y::x::b).set (X a+1) z=a++y::z::b
 |[],_=>rfl
 |h::a,b=>wF (h:: ·)<|zjP y x z a b
def zjh{l:N α}(h:0<X l):∃a y,l=a++[y]:=⟨l.dropLast,l.getLast (λe=>by rw[e]at h;exact wl h<|Nat.lt_irrefl _),(List.dropLast_concat_getLast _).symm⟩
def zxj{fu:K}{d:α}{cmp:α->α->V J}{c:α->α->J}{S:α->Prop}(hc:∀x y,S x->S y->cmp x y=Z (c x y)){s rest:zC α}{x:α}(j:∀y∈s,S y)(k:S x)(hn:X (s++x::rest)<=1000)(o:3000000<=fu){N:J}:
 ∃r,zg (iB1 d cmp) fu (0,N,(X s:J),s++x::rest)=Z r/\∃r1 r2,s=r1++r2/\r=(0,N,r1++x::(r2++rest))/\(∀y∈r2,c x y<0)/\∀a y,r1=a++[y]->¬c x y<0:=by
 rw[xak,xar]at hn;refine yb (λt:J×J×J×zC α=>∃r1 r2,s=r1++r2/\t=(0,N,(X r1:J),r1++x::(r2++rest))/\∀y∈r2,c x y<0) (λt=>t.2.2.1.toNat) _ ?_ fu _ ⟨s,[],(xbN s).symm,O,λy g=>by simp at g⟩ (by show(X s:J).toNat<fu;lia);rintro t L ⟨r1,r2,e,rfl,i⟩ l;unfold iB1;simp only;have hl:X s=X r1+X r2:=by rw[e,xak]
 by_cases h:0<X r1
 ·obtain⟨a,y,rfl⟩:=zjh h;have m:X (a++[y])=X a+1:=Xn
  have h1:a++[y]++x::(r2++rest)=a++y::x::(r2++rest):=Xn
  have n:X (a++y::x::(r2++rest))=X a+2+X r2+X rest:=by simp;lia
  have g:S y:=j y (by rw[e];simp);rw[h1,m,zS,n,yc,Q,zdd,zb,(W:((X a+1:K):J)-1=(X a:J)),yc,Q,zht,U<|hc x y k g];by_cases f:c x y<0
  ·rw[iq f,zb,zb,yc,Q,zht,yc,Q,zdd,yc,Q,zjP,xak,zo Xn,Q,zpL,zb];refine l _ ⟨a,y::r2,by rw[e];simp,O,λz hz=> ?_⟩ (by show(X a:J).toNat<(X (a++[y]):J).toNat;lia);obtain rfl|hz:=PQ.1 hz
   ·exact f
   ·exact i z hz
  ·rw[ir f];refine⟨_,O,a++[y],r2,e,by rw[h1],i,λb z hz=> ?_⟩;have:=List.append_inj' hz O;rw[List.singleton_inj.1 this.2]at f;exact f
 ·rw[zA];obtain rfl:r1=[]:=xbs.1 W;exact⟨_,O,[],r2,e,O,i,λb z hz=>by
   have:=wF xaD hz;simp at this⟩
def zmi{fu:K}{d:α}{cmp:α->α->V J}{c:α->α->J}{S:α->Prop}(hc:∀x y,S x->S y->cmp x y=Z (c x y)){t:zC α}(p:∀y∈t,S y)(hn:X t<=1000:=by lia)(q:3000000<=fu:=by lia):
 ∃r,zg (iB0 fu d 0 (X t:J) cmp) fu (1,t)=Z r/\r.Perm t/\(Od3 c S->r.Pairwise λa b=>¬c b a<0):=by
 cases t with
 |nil=>
  refine yb (λx:J×zC α=>x=(1,[])) (λ_=>0) _ ?_ fu _ O W;rintro x L rfl k;exact⟨[],O,xdJ _,λ_=>xfc⟩
 |cons z t=>
  refine yb (λx:J×zC α=>∃s rest,x=((X s:J),s++rest)/\(s++rest).Perm (z::t)/\(Od3 c S->s.Pairwise λa b=>¬c b a<0)) (λx=>X (z::t)-x.1.toNat) _ ?_ fu _ ⟨[z],t,O,xdJ _,λ_=>List.pairwise_singleton _ _⟩ (by show(z::t).length-1<fu;lia);rintro x L ⟨s,rest,rfl,f,l⟩ k;unfold iB0;simp only;have hl:=f.length_eq;rw[xak]at hl;have m:∀y∈s++rest,S y:=λy e=>p y<|f.mem_iff.1 e
  cases rest with
  |nil=>
   rw[ir<|by simp at hl;simp;lia];rw[xbN]at f;exact⟨s,by rw[xbN],f,l⟩
  |cons x rest=>
   rw[xar]at hl;rw[zS];have g:∀y∈s,S y:=λy e=>m y<|xcF _ e;have i:S x:=m x Xn;obtain⟨r,e1,r1,r2,rfl,rfl,u,v⟩:=zxj (fu:=fu) (d:=d) (N:=(X (z::t):J)) (rest:=rest) hc g i (by rw[xak,xar];lia) q;rw[U e1];simp only;rw[zb];have A:(r1++x::(r2++rest)).Perm (r1++r2++x::rest):=by
    rw[xal];refine xbC r1 ?_;rw[<-xbJ];have:(x::r2++rest).Perm (r2++x::rest):=xcj.symm;exact this
   refine k _ ⟨r1++x::r2,rest,?_,?_,λj=> ?_⟩ ?_
   ·rw[show((X (r1++x::r2):K):J)=(X (r1++r2):J)+1 by simp;lia,xal,xbJ]
   ·rw[xal,xbJ];exact A.trans f
   ·have hp:=xdg.1<|l j;have hd:∀y∈r1,¬c x y<0:=λy e=>by
     obtain⟨a,w,rfl⟩:=zjh<|xfb e;have n:=v a w O;obtain h|h:=pN.1 e
     ·have B:=xdg.1 hp.1;exact j.tr y w x (g y<|by simp[h]) (g w Xn) i (B.2.2 y h w Xn) n
     ·rw[xab.1 h];exact n
    refine xdg.2 ⟨hp.1,xbR.2 ⟨λy e=>j.an x y i (g y<|by simp[e])<|u y e,hp.2.1⟩,λa o b hb=> ?_⟩;obtain rfl|hb:=PQ.1 hb
    ·exact hd a o
    ·exact hp.2.2 a o b hb
   ·show(z::t).length-((X (r1++r2):J)+1).toNat<X (z::t)-(X (r1++r2):J).toNat;lia
end
def zaB{fu:K}{cmp:N J->N J->V J}{c:N J->N J->J}{S:N J->Prop}(hc:∀x y,S x->S y->cmp x y=Z (c x y)){t:N (N J)}(d:∀y∈t,S y)(hn:X t<=12)(h:3000001<=fu):
 ∃r,wH fu t cmp=Z r/\r.Perm t/\(Od3 c S->r.Pairwise λa b=>¬c b a<0):=by
 obtain⟨g,rfl⟩:∃g,fu=g+2:=⟨fu-2,W⟩;obtain⟨r,h1,e,f⟩:=zmi (fu:=g+1) hc d;refine⟨r,?_,e,f⟩;unfold wH Zj;rw[Q,U<|U<|kh<|by unfold NY;lia];refine U<|U ?_;rw[w6];unfold j8;simp only;rw[zb,zS];refine U ?_;exact U h1
def zcb{fu:K}{cmp:N G->N G->V J}{c:N G->N G->J}{S:N G->Prop}(hc:∀x y,S x->S y->cmp x y=Z (c x y)){t:N (N G)}(d:∀y∈t,S y)(hn:X t<=12)(h:3000001<=fu):
 ∃r,yV fu t cmp=Z r/\r.Perm t/\(Od3 c S->r.Pairwise λa b=>¬c b a<0):=by
 obtain⟨g,rfl⟩:∃g,fu=g+2:=⟨fu-2,W⟩;obtain⟨r,h1,e,f⟩:=zmi (fu:=g+1) hc d;refine⟨r,?_,e,f⟩;unfold yV Zj;rw[Q,U<|U<|kh<|by unfold NY;lia];refine U<|U ?_;rw[w6];unfold qJ;simp only;rw[zb,zS];refine U ?_;exact U h1
end
section
variable{p:zI}{m a:zC zI}{fu:zV}
def Ez{p:J}:∀{l1 c:N A},List.Sublist l1 c->(∀w∈c,Fs w)->Di p (prZ l1) (prZ c)
 |_,_,.slnil,_=>Di.refl _ _
 |_,_,.cons a h,b=>Di.mul a (b a<|Qh)<|Ez h λw d=>b w<|kE _ d
 |_,_,.cons_cons a h,b=>by
  obtain⟨q,fq,hc⟩:=Ez h λw d=>b w<|kE _ d;refine⟨q,fq,((Cg.rfl).mul hc).trans<|Cg.of ?_⟩;exact zD _ _ _
def Fs.dvp{f:A}(h:Fs f):Fs (dvp f):=by
 have⟨n,hn⟩:=h;exact⟨n,λk b=>by show _*f (k+1)=0;rw[hn _ W,xaw]⟩
def jj.sq(hp:2<=p){u:N J}(c:KT p u)(hc:jj p (C m) (dvp<|C m))(h:Di p (C u*C u) (C m)):jN:=by
 have⟨q,fq,b⟩:=h;have h1:Di p (C u) (C m):=⟨q*C u,fq.mul<|Fs.ci u,b.trans<|Cg.of (zd _ _ _).symm⟩;have d:Di p (C u) (dvp<|C m):=⟨dvp q*C u+(q*dvp (C u)+q*dvp (C u)),(fq.dvp.mul<|Fs.ci u).add<|(fq.mul (Fs.ci u).dvp).add<|fq.mul (Fs.ci u).dvp,(zhK b).trans<|Cg.of<|by rw[Uk,Uk,yu,yu,zd,zd,xu,zk (C u)<|dvp<|C u]⟩;have⟨s,t,fs,e,f⟩:=hc;exact c.ne hp<|(Di.add (Di.mul s fs h1)<|Di.mul t e d).cg f
def zxg(hp:wB p=I)(e:xZ p m)(hl:X m<=290)(hc:jj p (C m) (dvp<|C m)):∃us,Sf p m us:=by
 have⟨i,j⟩:=zp hp;have⟨us,h1,f⟩:=zxG hp (X m) O hl e;refine⟨us,hp,e,hl,λu g=>⟨(h1 u g).1,by have:=(h1 u g).2;lia⟩,?_,f⟩;refine xdh.2 λ{a b} c=> ?_;have d:a∈us:=c.subset Xn;have h:b∈us:=c.subset Xn;refine(h1 a d).1.cop hp (h1 b h).1 (by have:=(h1 a d).2;lia) (by have:=(h1 b h).2;lia) λhd=> ?_;subst hd;have:=Ez (p:=p) (c.map C) ib;refine jj.sq i (h1 a d).1 hc<|(Di.cg ?_ f.symm);refine Di.trans ?_ this;refine⟨F 1,Fs.pc 1,Cg.of ?_⟩;show C a*(C a*F 1)=_;rw[yp,zB]
def Du(hp:wB p=I)(c:xZ p m)(hl:X m<=290)(n:3000000<=fu):∃b,vQ fu m p=Z (m,0)/\Zq fu m p=Z (b,0)/\(b=I↔jj p (C m) (dvp<|C m)):=by
 have⟨e,o⟩:=zp hp;have hc:=c.ln;have⟨x,x0,f,d,e1⟩:=YQ (fu:=fu) hp c.fm c.ln;rw[c.top,xci,xax W f]at d;subst d;rw[Pa W c.fm]at e1;have⟨g,s,t,g1,i,j⟩:=VA (fu:=fu) hp c.fm (rU (p:=p) W m) W (by have:=zoH p m;lia);have k:jj p (C m) (dvp<|C m)↔X g=1:=by
  rw[Fa e i j];exact⟨λh=>h.congr Cg.rfl (S5 p m).symm,λh=>h.congr Cg.rfl<|S5 p m⟩
 refine⟨decide<|X g=1,e1,?_,by rw[k];exact decide_eq_true_iff⟩;unfold Zq WO;rw[U e1];simp only[wN];rw[zA,U O];simp only[wN];rw[U<|gm hp c.fm];simp only;rw[U g1];simp only;by_cases l:X g=1
 ·simp_all
 ·rw[zA,wS l]
theorem Hq(hp:wB p=I)(e:Fp p a)(h0:0<X a)(hl:X a<=65)(f:3000000<=fu):
 ∃m b,zoG p a m/\xZ p m/\Zq fu m p=Z (b,0)/\(b=I↔jj p (C m) (dvp<|C m))/\Zp fu a p=if b=I then Z (m,0)else Z ([],1):=by
 obtain⟨g,l⟩:=zp hp;obtain⟨x,x0,d,h,e1⟩:=YQ (fu:=fu) hp e h0;have c:=DN g e h0 h;obtain⟨m,i⟩:∃m,m=yS p a [x]:=⟨_,O⟩;rw[<-i]at c e1;have hc:=c.ln;have j:xZ p m:=⟨c.fm,W,c.top⟩;obtain⟨b,_,b1,b2⟩:=Du hp j W f;unfold Zp iU;have k:(Y (vQ fu a p) λ(t1,d)=>if d=(0:J)then if(X t1:J)=(0:J)then Z (([],(8:J)))else if(65:J)<(X t1:J)then Z (([],6))else Z ((t1,0))else Z ([],d))=Z (m,0):=by
  rw[U e1];grind
 rw[U k];simp only;rw[U b1];grind
def Ax{b:N J}(j:X a<=1000)(l:X b<=1000)(n:3000000<=fu):∃c,qg fu a b=Z c:=by
 unfold qg;by_cases h:X a=X b
 ·rw[zS,zb];have⟨r,e,_⟩:=yb (f:=QF fu a b) (λi:J=> -1<=i/\i<X a) (λi=>(i+1).toNat) (λ_=>vF) (by
   rintro i L ⟨h1,o⟩ g;unfold QF;by_cases d:0<=i
   ·obtain⟨k,rfl⟩:=xat d;rw[S d,yc,Q,yc,Q];split
    ·simp_all
    ·rw[yc,Q,yc,Q];split
     ·simp_all
     ·rw[zb];exact g _ ⟨W,W⟩ W
   ·rw[ir d];exact⟨_,O,xS⟩) fu ((X a:J)-1) ⟨W,W⟩ W
  rw[U e]
  cases r with
  |inl _=>exact⟨_,O⟩
  |inr i=>exact⟨i,O⟩
 ·rw[zA,zb];exact⟨_,O⟩
def zfH{l1 b:N A}(h:l1.Perm b):prZ l1=prZ b:=by
 induction h with
 |nil=>rfl
 |cons x _ c=>show x*prZ _=x*prZ _;rw[c]
 |swap x y l=>show y*(x*prZ l)=x*(y*prZ l);rw[zD]
 |trans _ _ h1 d=>rw[h1,d]
def Rl.take{l:N J}(h:Rl l)(n:K):Rl (l.take n):=λk=>by
 by_cases b:k<n
 ·have:C (l.take n) k=C l k:=by
   show(l.take n).getD k 0=l.getD k 0;simp_all
  rw[this];exact h k
 ·rw[zW<|by rw[xap];lia];exact⟨W,W⟩
def L7{P:K}{ds:N J}(hp:wB (P:J)=I)(G:Fp (P:J) a)(h0:1<X a)(hl:X a<=13)(hd:Rl ds)(H:X ds<=1000)(o:3000001<=fu){b:ws}(q:zoG (P:J) a m)(k:xZ (P:J) m)(s:Zp fu a P=Z (m,0))(hc:jj (P:J) (C m) (dvp<|C m)):
 ∃l us,WB fu a P ds=Z (l,0)/\Sf (P:J) m us/\Pl (P:J) m l/\∀g∈l,KT (P:J) g:=by
 have⟨L,M⟩:=zp hp;have hn:=q.ln;have⟨us,e⟩:=zxg hp k W hc;have⟨bs,e1,b1,b2,b3,n,c,u⟩:=IH (fu:=fu) (w:=X m-1) hp k W W W W;have R:=n.le e;have z:Rl (ds.take<|min (X ds) 64):=hd.take _;have⟨l,A,d,B⟩:=HF (fu:=fu) (bs:=bs) (ds:=ds.take<|min (X ds) 64) e W W O b1 W z (by rw[xap];lia) (λv hv=>⟨(b3 v hv).1,by have:=(b3 v hv).2;lia⟩) W;have hi:=Pl.done e n d ⟨c,u⟩ B;have⟨vs,v1,D,v3⟩:=e.pick d.mn<|(Di.refl _ _).cg d.pr.symm;have T:=oE D λv hv=>(v3 v hv).1;have E:∀g∈l,X g<=290:=λg f=>e.len (d.mn g f).1<|d.dv f;have⟨r,F,h,_⟩:=zaB (fu:=fu) (cmp:=λi j=>qg fu i j) (c:=λx y=>(qg fu x y).getD 0) (S:=λx=>X x<=290) (λx y V Y=>by
  have⟨c,hc⟩:=Ax (fu:=fu) (a:=x) (b:=y) W W W;show qg fu x y=Z ((qg fu x y).getD 0);rw[hc];rfl) (t:=l) E W o
 refine⟨r,us,?_,e,⟨λg f=>d.mn g<|h.mem_iff.1 f,d.pr.trans ?_⟩,λg f=>hi g<|h.mem_iff.1 f⟩
 ·unfold WB;rw[U s];simp only;rw[iq xS,zA,U e1,Q,(W:min (X ds:J) 64=((min (X ds) 64:K):J)),yU,yM,Q,U A,U F]
 ·exact Cg.of<|zfH<|h.symm.map C
end
section
variable{fu K:zV}{a b:Zr}{p:zI}
def exI(x y:J):J:=if y=0 then 0 else if x%y=0 then x/y else 0
def exE(x y:J):J:=if y=0 then 3 else if x%y=0 then 0 else 4
def KI(f:mI a)(c:mI b)(d:3000000<=fu):uY fu a b=Z (yf<|exI (zv a)<|zv b,exE (zv a)<|zv b):=by
 unfold uY exI exE;rw[U<|fH f c d];unfold zaD;by_cases h0:zv b=0
 ·rw[S h0,S h0,S h0];rfl
 ·rw[ir h0,ir h0,ir h0];simp only[wN];have g:Bz (X b.2) (zv a%zv b):=by
   unfold Bz;have h1:=xcJ (zv a) h0;have i:=Int.emod_lt (zv a) h0;have h:=Bz.of c.1;unfold Bz at h;lia
  rw[U O,ir YL,U<|xM (g.ok (by have:=c.2;lia)) d,zm];by_cases h1:zv a%zv b=0
  ·rw[S<|xK.2 h1,S h1,S h1]
  ·rw[ir<|λe=>h1<|xK.1 e,ir h1,ir h1];rfl
def fW(f:mI a)(c:mI b)(d:3000000<=fu):Jb fu a b=Z (yf<|exI (zv a)<|zv b,exE (zv a)<|zv b):=by
 unfold Jb exI exE;rw[U<|aX f c d];unfold zaD;by_cases h0:zv b=0
 ·rw[S h0,S h0,S h0];rfl
 ·rw[ir h0,ir h0,ir h0];simp only[wN];have g:Bz (X b.2) (zv a%zv b):=by
   unfold Bz;have h1:=xcJ (zv a) h0;have i:=Int.emod_lt (zv a) h0;have h:=Bz.of c.1;unfold Bz at h;lia
  rw[U<|qx (g.ok (by have:=c.2;lia)) d,zm];by_cases h1:zv a%zv b=0
  ·rw[S<|xK.2 h1,S h1,S h1]
  ·rw[ir<|λe=>h1<|xK.1 e,ir h1,ir h1];rfl
def zkT{n:zV}(h:n<18446744073709551616^K):bl n<=64*K:=ah<|by rw[xbT];exact h
def AJ(e:zn a.2)(f:zn b.2)(j:X a.2<=K)(hi:X b.2<=K)(q:K<=10000)(k:3000000<=fu):aw fu a b=Z (yf (xdR (zv a).natAbs (zv b).natAbs:zV)):=by
 unfold aw;rw[U<|QW e,U<|QW f,jT,jT];have c:nv a.2<18446744073709551616^K:=xah (q9 e)<|xam YL j;have g:nv b.2<18446744073709551616^K:=xah (q9 f)<|xam YL hi;generalize nv a.2=A at*
 generalize nv b.2=B at*
 have l:xdR A B<18446744073709551616^K:=by
  by_cases h:A=0
  ·simp_all
  ·exact xaG (Nat.gcd_le_left _ W) c
 have hc:∀{n:zV},n<18446744073709551616^K->X (yN n)<=K:=λ{n} h=>(zN _ _).2 h;rw[U (v:=yN<|xdR A B)]
 ·have hl:=hc l;rw[U (yW (zz _) W W),ym];rfl
 ·refine zt (λs:N zV×N zV=>∃x y:zV,s=(yN x,yN y)/\x<18446744073709551616^K/\y<18446744073709551616^K/\xdR x y=xdR A B) (λs=>bl (nv s.1)+bl (nv s.2)+if nv s.1<nv s.2 then 1 else 0) _ ?_ _ _ ⟨A,B,O,c,g,O⟩ ?_
  ·rintro s L ⟨x,y,rfl,m,i,d⟩ o;unfold FA;simp only;have r:=hc m;have t:=hc i;by_cases h0:y=0
   ·subst h0;rw[ir<|by rw[gn];decide];rw[Nat.gcd_zero_right]at d;rw[d]
   ·have hp:=qi (n:=y) W;rw[zS,U<|C9 (zz x) (zz y) W W k,ym,ym,ir h0];simp only;have u:=xaI x (W:0<y);refine o _ ⟨y,x%y,O,i,W,?_⟩ ?_
    ·rw[<-d,xdW y,<-Nat.gcd_rec,xdW]
    ·simp only[ym];rw[zA];by_cases hd:x<y
     ·rw[S hd,xag hd];lia
     ·have:=zcu (r0:=x) (r1:=y);lia
  ·simp only[ym];have h1:=zkT c;have w:=zkT g;split<;>lia
def rI(c:zn a.2)(hl:X a.2<=200000)(d:3000000<=fu):JY fu a=Z (yf ((zv a).natAbs:zV)):=by
 unfold JY;rw[U<|y6 (z:=(yL,a.2)) c hl d,jT];rfl
def oI(d:zn a.2)(f:zn b.2)(hd:X a.2<=K)(k:X b.2<=K)(q:K<=10000)(c:3000000<=fu):JS fu a b=Z (yf (xdR (zv a).natAbs (zv b).natAbs:zV)):=by
 unfold JS;rw[U<|rI d W c,U<|rI f W c,jT,jT];have g:nv a.2<18446744073709551616^K:=xah (q9 d)<|xam YL hd;have h:nv b.2<18446744073709551616^K:=xah (q9 f)<|xam YL k;generalize nv a.2=A at*
 generalize nv b.2=B at*
 rw[U (v:=yf (xdR A B:zV))];refine zt (λs:G×G=>∃x y:zV,s=(yf (x:zV),yf (y:zV))/\x<18446744073709551616^K/\y<18446744073709551616^K/\xdR x y=xdR A B) (λs=>bl (zv s.1).natAbs+bl (zv s.2).natAbs+if(zv s.1).natAbs<(zv s.2).natAbs then 1 else 0) _ ?_ _ _ ⟨A,B,O,g,h,O⟩ ?_
 ·rintro s L ⟨x,y,rfl,l,i,m⟩ n;unfold Bg;simp only;have o:=Bz.nat l;have j:=Bz.nat i;rw[U<|qx (j.ok W) c,zm];by_cases h0:y=0
  ·subst h0;rw[S<|xK.2 (show((0:zV):J)=0 from O)];simp_all
  ·rw[ir<|λe=>h0 (by have:=xK.1 e;lia),U<|aX (o.okS W) (j.okS W) c,zm,zm];unfold zaD;rw[zA];simp only;have hi:=xaI x (W:0<y);rw[show((x:J)%(y:J))=((x%y:zV):J)from O];refine n _ ⟨y,x%y,O,i,W,?_⟩ ?_
   ·rw[<-m,xdW y,<-Nat.gcd_rec,xdW]
   ·simp only[zm,xaW];rw[zA];by_cases hc:x<y
    ·rw[S hc,xag hc];lia
    ·have:=zcu (r0:=x) (r1:=y);lia
 ·simp only[zm,xaW];have h1:=zkT g;have r:=zkT h;split<;>lia
def gH{x:J}(h0:0<=x)(h:x<9223372036854775808)(e:3000000<=fu):q8 fu (yf x)=Z (x,I):=by
 have c:Bz 1 x:=by unfold Bz;lia
 unfold q8;rw[U<|y6 (yx x) (by have:=c.len;lia) e,zm];have f:(yf x).1=yL:=by unfold yf;simp;lia
 by_cases d:x=0
 ·subst d;rfl
 ·have i:=tW.2 d;have hc:=c.len;obtain⟨n,rfl⟩:=xat h0;have g:(yf n).2.getD 0 0=n:=by
   show(yN<|(n:J).natAbs).getD 0 0=n;rw[xaW,Xi,xdz,xag W]
  rw[zA,zA,show 0=((0:zV):J)from O,yc,Q,f,ir YL,S YL,g,zS,Q,GZ]
theorem Ot(d:mI a)(h1:1<=p)(g:p<=65521)(c:3000000<=fu):cd fu a p=Z (zv a%p,0):=by
 unfold cd;have e:Bz 1 p:=by unfold Bz;lia
 have f:=yz (a:=zv a) (p:=p);rw[U<|xX ⟨W,W⟩,U<|Lu d (e.okS YL) c,zm];unfold Ee;rw[zA];simp only[wN];rw[U<|gH f.1 W c]
theorem Pe{k:zV}{a:N G}(e:yQ k a)(g:k<=40000)(h1:1<=p)(j:p<=65521)(hl:X a<=1000000)(l:3000000<=fu):dJ fu a p=Z (jH p a,0):=by
 unfold dJ;have hd:=qH (λk=>M a k%p) (X a);rw[zA,U (v:=zl (X a)<|λk=>M a k%p)]
 ·rw[U (v:=((dg (λk=>M a k%p) (X a):zV):J))]
  ·rw[yU,xi (by rw[zF];exact hd),Q,MZ hd];rfl
  ·rw[zF];refine zt (λt:J=>∃m:zV,m<=X a/\t=(m:J)/\dg (λk=>M a k%p) m=dg (λk=>M a k%p) (X a)) (λt=>t.toNat) _ ?_ _ _ ⟨X a,eZ _,O,O⟩ W;rintro t L ⟨m,n,rfl,c⟩ d;unfold AY
   cases m with
   |zero=>
    rw[zA,<-c];rfl
   |succ m=>
    rw[zS,(W:((m+1:zV):J)-1=(m:J)),zb,zo (by rw[zF];lia),Q,jE];by_cases h0:M a m%p=0
    ·rw[S h0,zb];exact d _ ⟨m,W,O,by rw[<-fZ (f:=λk=>M a k%p) h0,c]⟩ W
    ·rw[ir h0,<-c,a8 (f:=λk=>M a k%p) h0]
 ·refine zt (λs:N J×J=>∃i:zV,i<=X a/\s=(zl i<|λk=>M a k%p,(i:J))) (λs=>X a-s.2.toNat) _ ?_ _ _ ⟨0,sB _,O⟩ (by show X a-0<fu;lia);rintro s L ⟨i,hi,rfl⟩ d;unfold By;simp only;by_cases h:i<X a
  ·rw[zS,zo h,Q,U<|Ot (e.okS g i) h1 j l,YV];simp only;rw[xi (by rw[zF];simp;lia),Q,oC (f:=λk=>M a k%p) O,zb];exact d _ ⟨i+1,W,O⟩ (by show X a-((i:J)+1).toNat<X a-(i:J).toNat;lia)
  ·rw[zA];obtain rfl:i=X a:=W
   rfl
end
section
variable{K fu:zV}{a:zC Zr}
def QD(f:zV->J):zV->zV
 |0=>0
 |n+1=>xdR (QD f n) (f n).natAbs
def Rj(f:zV->J):∀n k,k<n->QD f n∣(f k).natAbs
 |0,k,h=>wl h<|xbf _
 |n+1,k,h=>by
  by_cases e:k=n
  ·rw[e];exact Nat.gcd_dvd_right _ _
  ·exact Nat.dvd_trans (Nat.gcd_dvd_left _ _)<|Rj f n k W
theorem NC(f:zV->J){K:zV}(h:∀k,Bz K<|f k):∀n,QD f n<18446744073709551616^K
 |0=>xaP YL
 |n+1=>by
  show xdR (QD f n) (f n).natAbs<_;by_cases e:QD f n=0
  ·rw[e,Nat.gcd_zero_left];exact h n
  ·exact xaG (Nat.gcd_le_left _ W)<|NC f h n
def yG(a:N G):J:=if M (zX a) (X (zX a)-1)<0 then-((QD (M a) (X (zX a)):zV):J)else((QD (M a) (X (zX a)):zV):J)
def gZ(a:N G):zX a=xW (X (zX a)) (M<|zX a):=vZ _ _
def zcB(a:N G):zX (zX a)=zX a:=(gZ a).symm
theorem oU(h:yQ K a):Bz K (yG a):=by grind [yG,NC,yQ.bz,Bz.nat,Bz.neg]
theorem Qn(a:N G)(k:zV):yG a∣M a k:=by
 have h:((QD (M a) (X (zX a)):zV):J)∣M a k:=by
  by_cases b:k<X (zX a)
  ·exact xcp.1<|by skip;exact Rj (M a) _ k b
  ·rw[<-Zy,zY W];exact xdr _
 unfold yG;split
 ·simp_all
 ·exact h
def sI(h:X (zX a)≠0):yG a≠0:=by
 intro e;have h1:=XB (gZ a) h;rw[Zy]at h1;have b:=Qn a<|X (zX a)-1;simp_all
def Zb(c:yQ K a)(j:K<=9999:=by lia)(hl:X a<=1000000:=by lia)(b:3000000<=fu:=by lia):qy fu a=Z (yf<|yG a):=by
 unfold qy;have hn:=fE c;have hc:=jG a;have d:=NC (M a) c.bz;rw[U<|zP c W hl b,show xW (X a) (M a)=zX a from O,U<|yE YL b,U (v:=(zX a,(yL,[]),yf ((QD (M a) (X (zX a)):zV):J)))]
 ·simp only;by_cases h0:X (zX a)=0
  ·rw[zA];unfold yG;rw[h0];show Z (yf ((0:zV):J))=Z (yf (if M (zX a) 0<0 then-(((0:zV):J))else((0:zV):J)));simp_all
  ·rw[zS,(W:((X (zX a):zV):J)-1=((X (zX a)-1:zV):J)),zb,yc,Q,gA<|gZ a];unfold yG;by_cases h1:M (zX a) (X (zX a)-1)<0
   ·rw[S<|(K6 _).2 h1,S h1,U<|Ba ((Bz.nat<|d _).ok W) b,zm]
   ·rw[ir<|λe=>h1<|(K6 _).1 e,ir h1]
 ·refine zt (λs:J×N G×G×G=>∃i:zV,i<=X (zX a)/\s=((i:J),zX a,(yL,[]),yf ((QD (M a) i:zV):J))) (λs=>X (zX a)-s.1.toNat) _ ?_ _ _ ⟨0,sB _,O⟩ (by show(zX a).length-0<fu;lia);rintro s L ⟨i,hi,rfl⟩ g;unfold dk;simp only;by_cases h:i<X (zX a)
  ·have f:=hn.get i;rw[zS,U O];simp only[wN];rw[zo h,Q,U<|AJ (yx _) f.1 (Bz.nat<|d i).len f.2 W b,zm,xaW,YV,Zy,zb];exact g _ ⟨i+1,W,O⟩ (by show(zX a).length-((i:J)+1).toNat<X (zX a)-(i:J).toNat;lia)
  ·rw[zA,U O];simp only[xaj,wP];obtain rfl:i=X (zX a):=W
   rfl
def zlv(a:N G):yG (zX a)=yG a:=by
 unfold yG;rw[zcB,show M (zX a)=M a from wu (Zy a)]
def Zg(b:yQ K a)(j:K<=9999:=by lia)(hl:X a<=1000000:=by lia)(c:3000000<=fu:=by lia):qB fu a=Z (yf<|yG a):=by
 unfold qB;have hn:=fE b;have hc:=jG a;have d:=NC (M a) b.bz;rw[U<|yw b W hl c,show xW (X a) (M a)=zX a from O,U (xX YL),U (v:=yf ((QD (M a) (X (zX a)):zV):J))]
 ·by_cases h0:X (zX a)=0
  ·rw[zA];unfold yG;rw[h0];show Z (yf ((0:zV):J))=Z (yf (if M (zX a) 0<0 then-(((0:zV):J))else((0:zV):J)));simp_all
  ·rw[zS,(W:((X (zX a):zV):J)-1=((X (zX a)-1:zV):J)),zb,yc,Q,gA<|gZ a];unfold yG;by_cases h1:M (zX a) (X (zX a)-1)<0
   ·rw[S<|(K6 _).2 h1,S h1,U<|rk ((Bz.nat<|d _).ok W) c,zm]
   ·rw[ir<|λe=>h1<|(K6 _).1 e,ir h1]
 ·refine zt (λs:J×G=>∃i:zV,i<=X (zX a)/\s=((i:J),yf ((QD (M a) i:zV):J))) (λs=>X (zX a)-s.1.toNat) _ ?_ _ _ ⟨0,sB _,O⟩ (by show(zX a).length-0<fu;lia);rintro s L ⟨i,hi,rfl⟩ g;unfold da;simp only;by_cases h:i<X (zX a)
  ·have f:=hn.get i;rw[zS,zo h,Q,U<|oI (yx _) f.1 (Bz.nat<|d i).len f.2 W c,zm,xaW,YV,Zy,zb];exact g _ ⟨i+1,W,O⟩ (by show(zX a).length-((i:J)+1).toNat<X (zX a)-(i:J).toNat;lia)
  ·rw[zA];obtain rfl:i=X (zX a):=W
   rfl
def xb(a:N G):N G:=xW (X a)<|λk=>M a k/yG a
theorem Xk(a:N G)(k:zV):M (xb a) k=M a k/yG a:=kz (λk b=>by rw[zY b,xdX]) k
def pA(h:yQ K a):yQ K (xb a):=yF λk=>(h.bz k).le<|xbX _ _
theorem ztW{x c:J}(hd:c∣x)(b:x≠0):x/c≠0:=λe=>by
 have:=xeL hd;simp_all
theorem ue(a:N G):X (xb a)=X (zX a):=by grind [zX,xb,xJ,dw,qH,Kf,ztW,Qn,Kh,xdX]
theorem zmP(a:N G):xb a=zi (X (zX a)) (λk=>M a k/yG a):=by grind [xW,xb,ue,xJ]
def jR(b:yQ K a)(d:K<=9999)(hl:X a<=1000000)(c:3000000<=fu):vd fu a=Z (xb a):=by
 unfold vd;have hn:=fE b;have e:=jG a;have hc:=oU b;rw[U<|Zb b d hl,U<|zP b W hl c,show xW (X a) (M a)=zX a from O,U<|MY W W λj f=> ?_,zmP];unfold aO;rw[U<|KI (hn.okS W j) (hc.okS W) c,zm,YV,Zy];unfold exI;rw[ir (sI W),S<|xaq<|Qn a j]
def ze9(c:yQ K a)(T:K<=9985)(hl:X a<=1000)(h0:X (zX a)≠0)(f:3000000<=fu):q7 fu (zX a) [yf<|yG a]=Z (xb a,0):=by
 unfold q7;have hn:=fE c;have V:=jG a;have hc:=oU c;have hi:=sI h0;have u:=hc.len;have l:yQ K [yf<|yG a]:=λz o=>by
  obtain rfl:=xab.1 o;exact⟨yx _,u⟩
 have w:xW [yf<|yG a].length (M [yf<|yG a])=[yf<|yG a]:=by
  show xW 1 _=_;unfold xW;rw[show dg (M [yf<|yG a]) 1=1 from a8 (m:=0) (by show zv (yf<|yG a)≠0;rw[zm];exact hi)];show[yf<|zv<|yf<|yG a]=_;rw[zm]
 have q:∀k,M [yf<|yG a] k=if k=0 then yG a else 0:=λk=>by
  by_cases b:k=0
  ·rw[S b,b];exact zm _
  ·rw[ir b];exact zY<|by simp;lia
 rw[U<|yw l W Xn f,w,ir (Xn:¬((X ([yf<|yG a]:N G):zV):J)=0),U<|yw hn W W f,show xW (X (zX a)) (M<|zX a)=zX a from(gZ a).symm];have⟨n,r⟩:∃n,n=X a:=⟨_,O⟩;rw[U (v:=.inl<|xb a)];refine zt (λs:N G×N G×N G=>∃m:zV,m<=n/\s=([yf<|yG a],xW m<|M a,xW n (λk=>if m<=k then M a k/yG a else 0))) (λs=>X s.2.1) _ ?_ _ _ ⟨n,eZ _,?_⟩ (by show(zX a).length<fu;lia)
 ·rintro s L ⟨m,Y,rfl⟩ x;unfold Jl;simp only;have hG:=qH (M a) m;have h:X (xW m<|M a)=dg (M a) m:=xJ _ _;have y:∀k,M (xW m<|M a) k=if k<m then M a k else 0:=λk=>by
   have e:xW m (M a)=xW m (λk=>if k<m then M a k else 0):=QI λk b=>by rw[S b]
   rw[e,kz λk b=>zA]
  by_cases h1:0<dg (M a) m
  ·have⟨d,hd⟩:∃d,dg (M a) m=d+1:=⟨dg (M a) m-1,W⟩;have hE:M a d≠0:=by have:=Kh (M a) m W;rw[hd]at this;exact this
   have A:(xW m<|M a).getD d (yL,[])=yf (M a d):=by
    unfold xW;rw[hd];exact XC W
   have B:exI (M a d) (yG a)=M a d/yG a:=by
    unfold exI;rw[ir hi,S<|xaq<|Qn a d]
   have C:exE (M a d) (yG a)=0:=by
    unfold exE;rw[ir hi,S<|xaq<|Qn a d]
   have D:Bz K (M a d/yG a):=(c.bz d).le<|xbX _ _;have E:sR d (yL,[])++[yf<|M a d/yG a]=zi (d+1) (mono d<|M a d/yG a):=by
    rw[gY,<-te];congr 1
    ·exact xp λk b=>by unfold mono;rw[zA]
    ·unfold mono;rw[S O]
   have hp:yQ K (zi (d+1)<|mono d<|M a d/yG a):=Y6 λj=>by
    unfold mono;split
    ·exact D
    ·exact Bz.zero _
   have F:yQ K (xW n (λk=>if m<=k then M a k/yG a else 0)):=yF λj=>by
    split
    ·exact(c.bz j).le<|xbX _ _
    ·exact Bz.zero _
   have hH:X (xW n (λk=>if m<=k then M a k/yG a else 0))<=n:=by rw[xJ];exact qH _ _
   have H:yQ K (xW m<|M a):=yF c.bz;have hv:=Xt hp l;have t:=jC (zi (d+1)<|mono d<|M a d/yG a) [yf<|yG a];rw[yh]at t hv;rw[S (by rw[h];lia),h,hd,show(X ([yf<|yG a]:N G):zV)=1 from O,(W:((d+1:zV):J)-((1:zV):J)=(d:J)),zb,(W:((d+1:zV):J)-1=(d:J)),zb,yc,Q,A,show((1:zV):J)-1=((0:zV):J)by rfl,zb,yc,Q,show([yf<|yG a]:N G).getD 0 (yL,[])=yf (yG a)from O,U<|fW ((c.bz d).okS W) (hc.okS W) f,zm,zm,B,C];simp only[wN];rw[zA,yU,yM,Q,xi (by simp;lia),Q,E,U<|ZS F hp W W (by rw[yh];lia) f,U<|Vt hp l (by rw[yh];lia) Xn f,U<|a6 (k:=K+K+(d+1)) (H.mono W) hv W W (by simp at t;lia) f];have e1:U1 (xW m<|M a) (xe (zi (d+1)<|mono d<|M a d/yG a) [yf<|yG a])=xW d (M a):=by
    unfold U1;have P:xW d (M a)=xW d (λk=>if k<d then M a k else 0):=QI λk b=>by rw[S b]
    rw[P];refine VM (λk b=>by rw[zY W,zY W];rfl) (λk b=>zA) λk=> ?_;rw[zkF,y];unfold shP;by_cases b:k<d
    ·rw[zS,S b,zA,xaw,xcy]
    ·rw[ir b];by_cases i:k=d
     ·subst i;rw[zS,S<|eZ _,q,zS,xeL<|Qn a k];lia
     ·have o:(if k<m then M a k else 0)=0:=by
       split
       ·exact Kf (M a) m k W W
       ·rfl
      rw[o,zS,q,zA,xaw];rfl
   have R:xW (max (X (xW n (λk=>if m<=k then M a k/yG a else 0))) (X (zi (d+1)<|mono d<|M a d/yG a))) (λj=>M (xW n (λk=>if m<=k then M a k/yG a else 0)) j+M (zi (d+1)<|mono d<|M a d/yG a) j)=xW n (λk=>if d<=k then M a k/yG a else 0):=by
    refine VM (λk b=>by rw[zY W,zY W];rfl) (λk b=>by rw[zY (p:=a) W,xdX,ite_self]) λk=> ?_;rw[kz (λk b=>by rw[zY (p:=a) W,xdX,ite_self]),cn<|λk b=>by unfold mono;rw[zA]];unfold mono;by_cases b:k<d
    ·rw[ir (W:¬m<=k),ir (W:¬k=d),ir (W:¬d<=k)];rfl
    ·by_cases i:k=d
     ·subst i;rw[ir (W:¬m<=k),S O,S<|eZ _,xco]
     ·rw[ir i,S (W:d<=k),xby];by_cases g:m<=k
      ·rw[S g]
      ·rw[ir g,Kf (M a) m k W W,xdX]
   show L ([yf<|yG a],_,_)=_;rw[e1,R];exact x _ ⟨d,W,O⟩ (by show(xW d<|M a).length<X (xW m<|M a);rw[h,xJ];have:=qH (M a) d;lia)
  ·rw[ir<|by rw[h];lia];congr 2;unfold xb;rw[<-r];refine QI λk b=> ?_;by_cases g:m<=k
   ·rw[S g]
   ·rw[ir g,Kf (M a) m k W W,xdX]
 ·rw[r];congr 2
  ·have e:xW (X a) (λk=>if X a<=k then M a k/yG a else 0)=xW (X a) (λ_=>0):=QI λk b=>zA;rw[e];have:dg (λ_=>(0:J)) (X a)=0:=dw (sB _) (λ_ _ _=>O) (.inl O);unfold xW;rw[this];rfl
def jS(b:yQ K a)(d:K<=9985:=by lia)(hl:X a<=1000:=by lia)(c:3000000<=fu:=by lia):vY fu a=Z (xb a):=by
 unfold vY;have e:=jG a;rw[U<|yw b W W c,show xW (X a) (M a)=zX a from O];by_cases h0:X (zX a)=0
 ·skip;have:=ue a;simp_all
 ·rw[zA,U<|Zg<|fE b,zlv,U<|ze9 b d hl h0 c]
end
section
variable{a:zC Zr}{fu K:zV}{s:zI}
def zrT{x:zV}:x/2^1=x/2:=by rw[Nat.pow_one]
def zr0{n:zV}(h:0<n):bl (n/2)<bl n:=by rw[iB h];omega
def zka{a b:zV}(h:a<=b):bl a<=bl b:=ah<|xaG h<|IB b
def zqH{y:J}(b:Bz K y)(d:K<=10000)(c:3000000<=fu):zg (Jk fu 2<|yf y) fu (2,yf s,0,yf 1)=Z (2,yf s,yf<|y*y):=by
 have⟨n,hn⟩:∃n,fu=n+3:=⟨fu-3,YD⟩;have h:zg (Jk fu 2<|yf y) (n+3) (2,yf s,0,yf 1)=Z (2,yf s,yf<|y*y):=by
  have b1:=Bz.one'<|eZ _;rw[w6];unfold Jk;simp only;rw[U<|yK (b1.ok YL) (b.ok YD) c,zm,zm,xcr,fT YL,w6];simp only;rw[U<|yK (b.ok YD) (b.ok YD) c,zm];rfl
 simp_all
def Rm(w:0<=s)(j:Bz K s)(E:K<=1000)(i:3000000<=fu):∃r:zV,cy fu (yf s) 2=Z (yf (r:J),0)/\Bz (K+1) (r:J)/\r*r<=s.toNat/\s.toNat<(r+1)*(r+1):=by
 unfold cy;obtain⟨S,rfl⟩:=xat w;have F:=j.len;have M:bl S<=64*K:=zkT (by unfold Bz at j;rwa[xaW]at j);have hl:nv (yf (S:J)).2=S:=by show nv (yN<|(S:J).natAbs)=S;rw[ym,xaW]
 have hc:xbQ ((bl S:zV):J) 2=((bl S/2:zV):J):=by rw[xcN YD];omega
 have o:bl S/2<=32*K:=YD
 have x:min (((bl S/2:zV):J)+1) (262144:J)=((bl S/2+1:zV):J):=YD
 rw[ir YL,ir YL,U<|xM (j.ok YD) i,zm,ir (λe=>by
  unfold ke at e;rw[zA]at e;split at e<;>exact wl e YL),U (yE YL i),U (Ja (yx _) YD YD),hl,xi YL,hc,zb,zb,Q,x,U (UA (a:=[1]) (zn.cons YL zn.nil) YL YD YD)]
 simp only;have⟨H,l⟩:∃H,H=1*2^(bl S/2+1):=⟨_,O⟩;have m:H<18446744073709551616^(K+1):=by
  rw[l,xbL,(YL:(18446744073709551616:zV)=2^64),<-xbT];exact xdE YL YD
 have hv:1<=H:=by rw[l,xbL];exact xaP YL
 have N:=zkT m;have hn:S<H*H:=by
  refine xah (IB S) ?_;rw[l,xbL,<-xbq];exact xam YL YD
 rw[show nv [1]=1 from O,<-l,U<|yW (zz _) (by have:=(zN (K+1) H).2 m;omega) (by have:=(zN (K+1) H).2 m;omega),ym,ir YL];obtain⟨r,l1,R,rfl,P,y,hp⟩:=yb (f:=eH fu (yf (S:J)) 2) (λz:G×G×G=>∃lo hi:zV,z=((yL,[]),yf (lo:J),yf (hi:J))/\lo<hi/\hi<=H/\lo*lo<=S/\S<hi*hi) (λz=>bl<|(zv z.2.2).natAbs-(zv z.2.1).natAbs-1) (λr=>∃R:zV,r=yf (R:J)/\R<=H/\R*R<=S/\S<(R+1)*(R+1)) (by
  rintro z L ⟨lo,hi,rfl,h1,o,i1,i2⟩ p;unfold eH;simp only;have g:Bz (K+1) (lo:J):=Bz.nat YD;have k:Bz (K+1) (hi:J):=Bz.nat YD;have A:nv (yf<|(lo:J)+(hi:J)).2=lo+hi:=by
   show nv (yN<|((lo:J)+(hi:J)).natAbs)=lo+hi;rw[ym];omega
  have q:=(g.add k).len;have c:Bz (K+1) (((lo+hi)/2:zV):J):=Bz.nat YD;have T:X (yN<|(lo+hi)/2)<=K+1:=(zN _ _).2 YD;rw[U<|ku (g.ok YD) (k.ok YD) i,zm,zm,show(1:J)=((1:zV):J)from O,U (Ea (yx _) YD YL YD),A,zrT,U (yW (zz _) YD YD),ym,ir YL,U<|Xl (c.ok YD) (g.ok YD) i (by have:=c.len;omega) (by have:=g.len;omega),zm,zm];by_cases t:(lo+hi)/2=lo
  ·rw[iq<|xK.2 YD];obtain rfl:hi=lo+1:=YD
   exact⟨_,O,lo,O,YD,i1,i2⟩
  ·rw[ir<|λe=>t (by have:=xK.1 e;omega),show(((1:zV):J))=1 from O,U<|yE YL i,U<|zqH c YD i];simp only;have B:=(c.mul c).len;rw[U<|Xl ((c.mul c).ok YD) (j.ok YD) i YD YD];have hd:0<hi-lo-1:=YD
   have u:∀d,d<=(hi-lo-1)/2->bl d<bl (hi-lo-1):=λd C=>xaG (zka C)<|zr0 hd;have⟨b,D⟩:∃b,b=(lo+hi)/2:=⟨_,O⟩;rw[<-D]at t⊢;have v:ke ((b:J)*(b:zV)) (S:J)<=0↔b*b<=S:=by
    rw[(Xn:(b:J)*(b:zV)=((b*b:zV):J))];unfold ke;split
    ·exact⟨λ_=>by omega,λ_=>by decide⟩
    ·split
     ·exact⟨λh=>wl h YL,λh=>by omega⟩
     ·exact⟨λ_=>by omega,λ_=>by decide⟩
   by_cases n:b*b<=S
   ·rw[zm,zm,iq<|v.2 n];exact p _ ⟨_,hi,O,YD,o,n,i2⟩<|by simp only[zm,xaW];exact u _ YD
   ·rw[zm,zm,ir λh=>n<|v.1 h];exact p _ ⟨lo,_,O,YD,YD,i1,YD⟩<|by simp only[zm,xaW];exact u _ YD) fu ((yL,[]),yf 0,yf (H:J)) ⟨0,H,O,YD,eZ _,sB _,hn⟩ (by
   simp only[zm,xaW];have:=zka (YD:H-Int.natAbs 0-1<=H);omega)
 rw[U l1];exact⟨R,O,Bz.nat YD,by rw[xaJ];exact y,by rw[xaJ];exact hp⟩
def BJ(a:N G):J:=if(zX a).length=0 then 8 else if 65<X (zX a) then 6 else 0
theorem KC(b:yQ K a)(c:K<=40000)(hl:X a<=1000000)(d:3000000<=fu):W5 fu a=Z (BJ a):=by grind [W5,BJ,zX,U,zP]
theorem uc(b:yQ K a)(c:K<=40000:=by omega)(hl:X a<=1000000:=by omega)(d:3000000<=fu:=by omega):kM fu a=Z (BJ a):=by grind [kM,BJ,zX,U,yw]
def Aj(f:zV->J)(n:zV):J:=yA n<|λk=>f k*f k
def Wk(x:J):0<=x*x:=by
 obtain h|h:=Int.le_total 0 x
 ·exact xcD h h
 ·exact Int.mul_nonneg_of_nonpos_of_nonpos h h
def B4(f:zV->J):∀n,0<=Aj f n
 |0=>xfh _
 |n+1=>Int.add_nonneg (B4 f n)<|Wk _
theorem zg8{f:zV->J}(h:∀k,Bz K<|f k):∀n,n<=18446744073709551615->Bz (K+K+1) (Aj f n):=by
 have h1:∀n:zV,(Aj f n).natAbs<=n*18446744073709551616^(K+K):=by
  intro n
  induction n with
  |zero=>exact sB _
  |succ n d=>
   have c:(Aj f<|n+1).natAbs<=(Aj f n).natAbs+(f n*f n).natAbs:=Int.natAbs_add_le _ _;have b:=(h n).mul<|h n;unfold Bz at b;grind
 intro n hn;unfold Bz;have c:=h1 n;have hp:0<18446744073709551616^(K+K):=xaP YL;have b:n*18446744073709551616^(K+K)<=18446744073709551615*18446744073709551616^(K+K):=xaf _ hn;omega
def Nc{f:zV->J}:∀{n},(∃k,k<n/\f k≠0)->1<=Aj f n
 |0,⟨k,h,_⟩=>wl h<|xbf _
 |n+1,⟨k,h,b⟩=>by
  show 1<=Aj f n+f n*f n;have h1:=B4 f n;have d:=Wk<|f n;by_cases e:k=n
  ·have g:f n*f n≠0:=λc=>by
    obtain h4|h4:=xeB.1 c<;>exact b<|by rw[e];exact h4
   omega
  ·have:=Nc (n:=n) ⟨k,YD,b⟩;omega
def lY(c:yQ K a)(p:K<=300)(hl:X a<=1000000)(b:3000000<=fu):∃y,vV fu a=Z (y,BJ a)/\(BJ a=0->∃r:zV,y=yf (((r+1)*2^(X (zX a)-1):zV):J)/\r*r<=(-1+Aj (M a) (X (zX a))).toNat/\(-1+Aj (M a) (X (zX a))).toNat<(r+1)*(r+1)):=by
 unfold vV;rw[U<|KC c YD hl b];by_cases h0:BJ a=0
 ·have e:X (zX a)≠0/\X (zX a)<=65:=by
   unfold BJ at h0;split at h0
   ·cases h0
   ·omega
  have hn:=fE c;have hd:=λn hn=>zg8 (K:=K) (f:=M a) c.bz n hn;have q:=Nc (f:=M a) (n:=X (zX a)) ⟨X (zX a)-1,YD,by have:=XB (gZ a) e.1;rwa[Zy]at this⟩;have hc:∀n,n<=18446744073709551615->Bz (K+K+1+1) (-1+Aj (M a) n):=λn hn=>by
   have:=(hd n hn).add (Bz.one (k:=K+K+1) YD);rwa[xfG]at this
  rw[S h0,U<|zP c YD hl b,show xW (X a) (M a)=zX a from O,U<|yE YL b,U (v:=(zX a,(yL,[]),yf (-1+Aj (M a) (X (zX a)))))]
  ·simp only;have⟨r,r1,r2,g,l⟩:=Rm (fu:=fu) (s:= -1+Aj (M a) (X (zX a))) YD (hc _ YD) YD b;have b1:Bz 1 1:=Bz.one'<|eZ _;have b2:=(r2.add<|b1.mono (by omega:1<=K+K+1+1+1)).len;rw[U r1];simp only;rw[U<|yE YL b,U<|ku (r2.ok YD) (b1.ok YL) b,zm,zm,(YD:((X (zX a):zV):J)-1=((X (zX a)-1:zV):J)),zb,U<|UA (yx _) YD YD YD];simp only;have t:X (yN<|nv (yf<|(r:J)+1).2*2^(X (zX a)-1))<=K+K+1+1+1+1+2:=by
    refine Wg (j:=K+K+1+1+1+1) (k:=2) ?_ ?_
    ·rw[show nv (yf<|(r:J)+1).2=((r:J)+1).natAbs from ym _];exact b2
    ·refine(zN _ _).2 ?_;exact xaG (xam YL (YD:X (zX a)-1<=64)) YL
   rw[U<|XH ⟨zz _,by show(yN _).length<=100000;omega⟩ b];refine⟨_,by rw[h0],λ_=>⟨r,?_,g,l⟩⟩;congr 1;show(if yL=I then _ else((nv (yN _):zV):J))=_;rw[ym,show nv (yf<|(r:J)+1).2=((r:J)+1).natAbs from ym _,(YD:((r:J)+1).natAbs=r+1)];rfl
  ·refine zt (λs:J×N G×G×G=>∃i:zV,i<=X (zX a)/\s=((i:J),zX a,(yL,[]),yf (-1+Aj (M a) i))) (λs=>X (zX a)-s.1.toNat) _ ?_ _ _ ⟨0,sB _,O⟩ (by show(zX a).length-0<fu;omega);rintro s L ⟨i,hi,rfl⟩ m;unfold oT;simp only;by_cases h:i<X (zX a)
   ·have d:=hn.okZ YD i;have o:=(c.bz i).mul<|c.bz i;rw[zS,U O];simp only[wN];rw[zo h,Q,U<|yK d d b,YV,Zy,U<|ku ((hc i YD).ok YD) (o.ok YD) b,zm,zm,zb,show-1+Aj (M a) i+M a i*M a i= -1+Aj (M a) (i+1)by show _= -1+(Aj (M a) i+M a i*M a i);omega];exact m _ ⟨i+1,YD,O⟩ (by show(zX a).length-((i:J)+1).toNat<X (zX a)-(i:J).toNat;omega)
   ·rw[zA,U O];simp only[xaj,wP];obtain rfl:i=X (zX a):=YD
    rfl
 ·rw[ir h0];exact⟨_,O,λh=>wl h h0⟩
end
section
variable{f g q u v w a b:Pz}{m:zV}
def R7{m:J}{f:K->J}:∀{n j:K},j<n->(∀k,k<n->k≠j->m∣f k)->m∣yA n f-f j
 |0,j,h,_=>wl h<|xbf _
 |n+1,j,h,hd=>by
  show m∣yA n f+f n-f j;by_cases e:j=n
  ·subst e;rw[(W:yA j f+f j-f j=yA j f)];exact ry λk c=>hd k W W
  ·have h1:=R7 (n:=n) W λk c d=>hd k W d;have i:=hd n W W;rw[(W:yA n f+f n-f j=(yA n f-f j)+f n)];exact Int.dvd_add h1 i
theorem KH{n:K}(c:∀k,n<k->f k=0)(d:∀k,m<k->g k=0):(f*g) (n+m)=f n*g m:=by
 have h:=Int.zero_dvd.1 (R7 (f:=λi=>f i*g (n+m-i)) (n:=n+m+1) (j:=n) W λk e l=>by
  by_cases hc:k<n
  ·grind
  ·rw[c k W,xaK];exact xej 0)
 rw[(W:n+m-n=m)]at h;rw[qt];lia
def Tp(f:A)(n:K):Prop:=f n≠0/\∀k,n<k->f k=0
def Nz(f:A):Prop:=∃k,f k≠0
def Nz.not(h:¬Nz f)(k:K):f k=0:=xac λe=>h ⟨k,e⟩
def Tp.ex(c:Fs f)(h0:Nz f):∃n,Tp f n:=by
 have⟨N,l⟩:=c;have⟨j,d⟩:=h0;have h1:dg f N≠0:=λe=>by
  by_cases h:j<N
  ·exact d<|Kf f N j W h
  ·simp_all
 refine⟨dg f N-1,Kh f N h1,λk o=> ?_⟩;by_cases i:k<N
 ·exact Kf f N k W i
 ·simp_all
def Tp.mul{n:K}(c:Tp f n)(d:Tp g m):Tp (f*g) (n+m):=
 ⟨by rw[KH c.2 d.2];exact xeh c.1 d.1,λk h=>ug (n:=n+1) (m:=m+1) (λj e=>c.2 j W)<|λj e=>d.2 j W⟩
def Tp.uniq{n:K}(h:Tp f n)(g:Tp f m):n=m:=by
 by_cases h1:n<m
 ·exact wl (h.2 m h1) g.1
 ·by_cases c:m<n
  ·exact wl (g.2 n c) h.1
  ·lia
def Tp.nz{n:K}(h:Tp f n):Nz f:=⟨n,h.1⟩
def Tp.fs{n:K}(h:Tp f n):Fs f:=⟨n+1,λk c=>h.2 k W⟩
def Nz.mul{f g:A}(c:Fs f)(d:Fs g)(e:Nz f)(h:Nz g):Nz (f*g):=by
 have⟨n,hn⟩:=Tp.ex c e;have⟨m,i⟩:=Tp.ex d h;exact(hn.mul i).nz
def C5(d:Fs f)(e:Fs g)(fq:Fs q)(i:Nz q)(h:f*q=g*q):f=g:=by
 by_cases c:Nz (f-g)
 ·have h1:=Nz.mul (d.subt e) fq c i;have⟨k,j⟩:=h1;rw[ji,h,yT]at j;lia
 ·funext k;have:=Nz.not c k;rw[yT]at this;lia
def zlM{c:J}(hc:c≠0)(h:F c*f=F c*g):f=g:=wu λk=>by
 have:=vN h k;rw[zU,zU]at this;exact Int.eq_of_mul_eq_mul_left hc this
def Zd(u v:A):Prop:=∃q:A,Fs q/\v=q*u
def Zd.refl(u:A):Zd u u:=⟨F 1,Fs.pc 1,(zB u).symm⟩
def Zd.trans(h:Zd u v)(g:Zd v w):Zd u w:=by
 obtain⟨q,fq,rfl⟩:=h;obtain⟨r,fr,rfl⟩:=g;exact⟨r*q,fr.mul fq,(zd r q u).symm⟩
def Zd.add{u v w:A}(h:Zd u v)(g:Zd u w):Zd u (v+w):=by
 obtain⟨q,fq,rfl⟩:=h;obtain⟨r,fr,rfl⟩:=g;exact⟨q+r,fq.add fr,(yu q r u).symm⟩
def Zd.sub(h:Zd u v)(g:Zd u w):Zd u (v-w):=by
 obtain⟨q,fq,rfl⟩:=h;obtain⟨r,fr,rfl⟩:=g;exact⟨q-r,fq.subt fr,(ji q r u).symm⟩
def Zd.mul{u v:A}(w:A)(c:Fs w)(h:Zd u v):Zd u (w*v):=by
 obtain⟨q,fq,rfl⟩:=h;exact⟨w*q,c.mul fq,(zd w q u).symm⟩
def Zd.left(c:Fs v):Zd u (u*v):=⟨v,c,zk u v⟩
def Pm(f:A):Prop:=∀d:K,(∀k,(d:J)∣f k)->d=1
def Pm.nz(h:Pm f):Nz f:=xac λhn=>wl (h 0 λk=>by rw[Nz.not hn k];exact xdr _) YL
def zwd:∀(n d:K),d<=n->2<=d->∃P,2<=P/\kQ P/\P∣d
 |0,d,h,i=>by lia
 |n+1,d,h,i=>by
  by_cases hd:kQ d
  ·exact⟨d,i,hd,Nat.dvd_refl d⟩
  ·have:∃e,2<=e/\e*e<=d/\d%e=0:=xac λhn=>hd λe e1 j c=>hn ⟨e,e1,j,c⟩;have⟨e,e1,j,c⟩:=this;have p:e<d:=by
    have:e*2<=e*e:=xas e e1;lia
   have⟨P,k,l,o⟩:=zwd n e W e1;exact⟨P,k,l,Nat.dvd_trans o<|Nat.dvd_of_mod_eq_zero c⟩
theorem zs9{Q:K->Prop}(h:∃i,Q i):∃i,Q i/\∀k,k<i->¬Q k:=by
 have⟨i,hi⟩:=h
 induction i using xcY with
 |ind i c=>
  by_cases hc:∃k,k<i/\Q k
  ·grind
  ·grind
def zbW{P:K}(hp:2<=P)(hn:kQ P){f g:A}{i:K}(hi:¬(P:J)∣f i)(c:∀k,k<i->(P:J)∣f k)(h:∀k,(P:J)∣(f*g) k):∀n j,j<n->(P:J)∣g j
 |0,j,d=>wl d<|xbf _
 |n+1,j,d=>by
  have p:=zbW hp hn hi c h n;by_cases r:j<n
  ·simp_all
  ·have e:(P:J)∣yA (i+j+1) (λa=>f a*g (i+j-a))-f i*g (i+j-i):=R7 (m:=(P:J)) (f:=λa=>f a*g (i+j-a)) (n:=i+j+1) (j:=i) W λk s hd=>by
    show(P:J)∣f k*g (i+j-k);by_cases hc:k<i
    ·exact xbu (c k hc)<|xck _ _
    ·exact xbu (p _ W)<|xcB _ _
   have l:=h<|i+j;rw[qt]at l;rw[(W:i+j-i=j)]at e;have o:=xdm l e;rw[show∀x y:J,x-(x-y)=y by intro x y;lia]at o;obtain h5|h5:=zb6 hp hn o
   ·lia
   ·exact h5
def zyu{P:K}(hp:2<=P)(hn:kQ P)(h:∀k,(P:J)∣(f*g) k):(∀k,(P:J)∣f k)\/∀k,(P:J)∣g k:=by
 by_cases c:∀k,(P:J)∣f k
 ·simp_all
 ·have⟨i,h1,d⟩:=zs9<|xfx.1 c;exact .inr λk=>zbW hp hn h1 (λk e=>Classical.not_not.1<|d k e) h (k+1) k<|xdy k
def Pm.mul(c:Pm f)(i:Pm g):Pm (f*g):=λd hd=>by
 by_cases h1:d=1
 ·exact h1
 ·have:∃P,2<=P/\kQ P/\P∣d:=by
   by_cases h0:d=0
   ·exact⟨2,YL,λe e1 o=>by have:2*2<=e*e:=xbp e1 e1;lia,by rw[h0];exact⟨0,O⟩⟩
   ·exact zwd d d (eZ d) W
  have⟨P,j,l,n⟩:=this;rcases zyu j l λk=>xbu (xde.2 n) (hd k)with h|h
  ·have:=c P h;lia
  ·have:=i P h;lia
def Pm.left(h:Pm (u*v)):Pm u:=λd hd=>h d λk=>by
 exact ry λi _=>xbu (hd i)<|xck _ _
def zdT{f:K->J}{d:K}:∀n,(∀k,k<n->d∣(f k).natAbs)->d∣QD f n
 |0,_=>⟨0,O⟩
 |n+1,h=>Nat.dvd_gcd (zdT n λk c=>h k W)<|h n W
def zgD{f:K->J}{c g:K}:∀n,(∀k,k<n->c∣g*(f k).natAbs)->c∣g*QD f n
 |0,_=>⟨0,O⟩
 |n+1,h=>by
  show c∣g*xdR (QD f n) (f n).natAbs;rw[<-Nat.gcd_mul_left];exact Nat.dvd_gcd (zgD n λk d=>h k W)<|h n W
def Ef{n:K}(h:∀k,n<=k->f k=0)(k:K):((QD f n:K):J)∣f k:=by
 by_cases c:k<n
 ·exact xcp.1<|by skip;exact Rj f n k c
 ·simp_all
def Pm.ex(p:Fs f)(h0:Nz f):∃(c:K) (g:A),c≠0/\Fs g/\Pm g/\f=F c*g:=by
 have⟨n,hn⟩:=p;have h:=Ef hn;have⟨c,hc⟩:∃c,c=QD f n:=⟨_,O⟩;rw[<-hc]at h;have r:c≠0:=λe=>by
  have⟨j,t⟩:=h0;have:=h j;rw[e]at this;lia
 have i:=zb4<|Cg.of_dvd h;refine⟨c,pdv c f,r,zdV ⟨n,hn⟩,λd hd=> ?_,i.symm⟩;have h1:=zdT n λk _=>by
  have l:=vN i k;rw[zU]at l;have o:=xfE (xej c)<|hd k;rw[l]at o;have x:=xcp.2 o;assumption
 rw[<-hc]at h1;have s:c*d∣c*1:=by rw[xdl];exact h1
 exact Nat.dvd_one.1<|Nat.dvd_of_mul_dvd_mul_left W s
def zwu{c:J}(fq:Fs q)(e:Pm q)(i:Fs w)(h:∀k,c∣(w*q) k)(k:K):c∣w k:=by
 by_cases h0:Nz w
 ·obtain⟨g,v,g0,j,hv,rfl⟩:=Pm.ex i h0;have⟨n,hn⟩:=j.mul fq;have l:=(hv.mul e) _<|Ef hn;have d:=zgD n λk _=>by
   have:=xcp.2<|h k;rw[zd,zU,xcK,xaW]at this;exact this
  rw[l,xdl]at d;rw[zU];have o:c∣g:=xcp.1 (by skip;exact d);exact xbu o<|xck _ _
 ·rw[Nz.not h0 k];exact xdr c
def Zd.pm{c:J}(fq:Fs q)(i:Pm q)(hc:c≠0)(h:Zd q (F c*v)):Zd q v:=by
 have⟨w,d,e⟩:=h;have h1:=zwu fq i d λk=>by rw[<-e,zU];exact xck _ _
 have j:=zb4<|Cg.of_dvd h1;refine⟨pdv c w,zdV d,zlM hc ?_⟩;rw[e,<-zd,j]
theorem zpl{b:A}{m:K}(d:Tp b m):∀(n:K) (a:A),(∀k,n<=k->a k=0)->∃(c:J) (q r:A),c≠0/\Fs q/\(∀k,m<=k->r k=0)/\F c*a=q*b+r
 |0,a,h=>⟨1,F 0,F 0,YL,Fs.pc 0,λk _=>zE k,wu λk=>by rw[zG,zT,zE,zU,h k W];rfl⟩
 |n+1,a,h=>by
  by_cases hn:n+1<=m
  ·exact⟨1,F 0,a,YL,Fs.pc 0,λk i=>h k W,wu λk=>by rw[zG,zT,zE,xco,zB]⟩
  ·have⟨c,q,r,hc,fq,l,j⟩:=zpl d n (F (b m)*a-mono (n-m) (a n)*b) λk i=>by
    rw[yT,qF,zU];unfold sh;rw[zS];by_cases e:k=n
    ·grind
    ·rw[h k W,d.2 (k-(n-m)) W];lia
   refine⟨c*b m,q+F c*mono (n-m) (a n),r,xeh hc d.1,fq.add<|(Fs.pc c).mul ⟨n+1,λk i=>zA⟩,l,?_⟩;rw[yu,<-uk,zd (F c) (F<|b m) a,zd (F c) _ b];rw[ve]at j;funext k;have:=vN j k;simp only[zG,yT]at this⊢;lia
def zsR(c:Nz a)(e:∀k,b k=0):∃(d s t:A) (α β:J),Nz d/\Fs s/\Fs t/\d=s*a+t*b/\α≠0/\β≠0/\Zd d (F α*a)/\Zd d (F β*b):=
 ⟨a,F 1,F 0,1,1,c,Fs.pc 1,Fs.pc 0,wu λk=>by rw[zG,zB,zT,zE,xby],YL,YL,⟨F 1,Fs.pc 1,O⟩,⟨F 0,Fs.pc 0,wu λk=>by rw[zU,e k,zT,zE];rfl⟩⟩
def zyM:∀(n:K) (a b:A),Fs a->Nz a->(∀k,n<=k->b k=0)->∃(d s t:A) (α β:J),Nz d/\Fs s/\Fs t/\d=s*a+t*b/\α≠0/\β≠0/\Zd d (F α*a)/\Zd d (F β*b):=by
 intro n
 induction n with
 |zero=>intro a b p l j;exact zsR l λk=>j k<|sB k
 |succ n C=>
  intro a b p l j;by_cases nb:Nz b
  ·have x:Fs b:=⟨n+1,j⟩;have⟨m,y⟩:=Tp.ex x nb;have M:m<=n:=by
    by_cases h:m<=n
    ·exact h
    ·exact wl (j m W) y.1
   have⟨N,D⟩:=p;have⟨c,q,r,hc,fq,E,z⟩:=zpl y N a D;have⟨d,s,t,α,β,G,fs,B,hd,i,o,h1,H⟩:=C b r x nb λk P=>E k W;have L:r=F c*a-q*b:=wu λk=>by
    have:=vN z k;simp only[zG,yT]at this⊢;lia
   refine⟨d,t*F c,s-t*q,α*β*c,α,G,B.mul<|Fs.pc c,fs.subt<|B.mul fq,?_,xeh (xeh i o) hc,i,?_,h1⟩
   ·rw[hd,L,ve,ji,<-zd,<-zd];funext k;simp only[zG,yT];lia
   ·have e:F (α*β*c)*a=(F β*q)*(F α*b)+F α*(F β*r):=by rw[<-uk (α*β) c,zd (F<|α*β) (F c) a,z,xu,<-uk α β,zd (F β) q,zD q (F α) b,zD (F β)<|F α,zd (F α)<|F β,zd (F α)<|F β]
    rw[e];exact(h1.mul _<|(Fs.pc β).mul fq).add<|H.mul _<|Fs.pc α
  ·exact zsR l<|Nz.not nb
def zwx(k:Fs a)(r:Nz a)(x:Fs b):∃(g s t:A) (γ:J),Fs g/\Pm g/\Fs s/\Fs t/\γ≠0/\F γ*g=s*a+t*b/\Zd g a/\Zd g b:=by
 have⟨n,hn⟩:=x;have⟨d,s,t,α,β,y,fs,l,hd,e,h,h1,z⟩:=zyM n a b k r hn;have B:Fs d:=by rw[hd];exact(fs.mul k).add<|l.mul ⟨n,hn⟩
 have⟨c,g,hc,i,j,o⟩:=Pm.ex B y;have p:Zd g d:=⟨F c,Fs.pc c,o⟩;exact⟨g,s,t,c,i,j,fs,l,W,o.symm.trans hd,Zd.pm i j e<|p.trans h1,Zd.pm i j h<|p.trans z⟩
def Cn(u:A):Prop:=∀k,1<=k->u k=0
def Cn.ex(h:Cn u):∃c,u=F c:=⟨u 0,wu λk=>by
 unfold F;by_cases e:k=0
 ·simp_all
 ·rw[ir e];exact h k W⟩
def Cn.pc(c:J):Cn (F c):=λk d=>by unfold Go.Proofs.YtdpdofimolhigaaGreat.pc;rw[zA]
def zaZ{c:J}(h:Pm (F c)):c=1\/c= -1:=by
 have h1:=h c.natAbs λk=>by
  unfold F;split
  ·exact Int.natAbs_dvd.2<|xej _
  ·simp_all
 lia
structure Ir(q:A):Prop where
 fs:Fs q
 pm:Pm q
 dg:¬Cn q
 ir:∀u v,Fs u->Fs v->q=u*v->Cn u\/Cn v
def Ir.prime(d:Ir q)(fu:Fs u)(k:Fs v)(h:Zd q (u*v)):Zd q u\/Zd q v:=by
 have⟨g,s,t,γ,l,n,fs,o,i,p,⟨w,r,j⟩,x,fx,y⟩:=zwx d.fs d.pm.nz fu;obtain hc|hc:=d.ir w g r l j
 ·left;obtain⟨c,rfl⟩:=hc.ex;have z:=(j▸d.pm:Pm (F c*g)).left;refine⟨x*F c,fx.mul<|Fs.pc c,?_⟩;have A:c*c=1:=by obtain e|e:=zaZ z<;>rw[e]<;>rfl
  rw[j,zd,<-zd (F c) (F c) g,uk,A,zB,y]
 ·right;obtain⟨c,rfl⟩:=hc.ex;have hd:c≠0:=λe=>by
   have:=zaZ n;lia
  refine Zd.pm d.fs d.pm (xeh i hd) ?_;rw[<-uk,p,yu];refine Zd.add ⟨s*v,fs.mul k,?_⟩ ?_
  ·rw[zd,zd,zk q v]
  ·rw[zd];exact h.mul t o
def Po(q:A):Prop:=∃n,0<q n/\∀k,n<k->q k=0
def Po.tp(h:Po q):∃n,Tp q n/\0<q n:=by
 have⟨n,h1,c⟩:=h;exact⟨n,⟨W,c⟩,h1⟩
def Ir.eq{r:A}(i:Ir q)(j:Ir r)(o:Po q)(pr:Po r)(h:Zd q r):q=r:=by
 have⟨w,p,d⟩:=h;obtain hc|hc:=j.ir w q p i.fs d
 ·obtain⟨c,rfl⟩:=hc.ex;have s:=(d▸j.pm:Pm (F c*q)).left;obtain e|e:=zaZ s
  ·rw[d,e,zB]
  ·have⟨n,h1,z⟩:=o.tp;have⟨m,t,x⟩:=pr.tp;have l:Tp (F c*q) n:=⟨by rw[zU,e];lia,λk y=>by rw[zU,h1.2 k y,xaw]⟩;rw[<-d]at l;obtain rfl:=l.uniq t;rw[d,zU,e]at x;lia
 ·exact wl hc i.dg
def Cn.tp{n:K}(h:Tp u n):Cn u↔n=0:=⟨λhc=>xac λe=>h.1 (hc n W),λe k c=>h.2 k W⟩
end
section
variable{q f:Pz}{m:zV}{a b:zC Zr}{l:zC (zC Zr×zI)}
def Pm.one:Pm (F 1):=λd hd=>by
 have:=hd 0;exact Nat.dvd_one.1<|xde.1 this
def Pm.pp{q:A}(h:Pm q):∀n,Pm (pp q n)
 |0=>Pm.one
 |n+1=>(Pm.pp h n).mul h
def Po.one:Po (F 1):=⟨0,YL,λk c=>by unfold F;rw[zA]⟩
def Ir.one(h:Ir q):¬Zd q (F 1):=λ⟨w,d,e⟩=>by
 have⟨a,c⟩:=Tp.ex h.fs h.pm.nz;have g:Nz w:=xac λhn=>by
  have:=vN e 0;rw[qt,xz λk _=>by rw[Nz.not hn k,xaK]]at this;exact wl this YL
 have⟨b,i⟩:=Tp.ex d g;have h1:=i.mul c;rw[<-e]at h1;have j:=h1.uniq (m:=0) ⟨YL,λk n=>by unfold F;rw[zA]⟩;exact h.dg<|(Cn.tp c).2 W
def Mu(q f:A)(n:K):Prop:=∃u,Fs u/\f=u*pp q n/\¬Zd q u
def Mu.ex{q:A}(c:Ir q)(m:K):∀{f:A},Tp f m->∃n,n<=m/\Mu q f n:=by
 induction m using xcY with
 |ind m j=>
  intro f d;by_cases hd:Zd q f
  ·have⟨u,fu,e⟩:=hd;have o:Nz u:=xac λhn=>by
    refine d.1 ?_;rw[e,qt,xz λk _=>by rw[Nz.not hn k,xaK]]
   have⟨a,g⟩:=Tp.ex fu o;have⟨b,i⟩:=Tp.ex c.fs c.pm.nz;have h1:=g.mul i;rw[<-e]at h1;have h1:=h1.uniq d;have hc:b≠0:=λh=>c.dg<|(Cn.tp i).2 h;have⟨n,hn,v,p,r,hv⟩:=j a W g;refine⟨n+1,W,v,p,?_,hv⟩;show f=v*(pp q n*q);rw[e,r,zd]
  ·exact⟨0,sB m,f,d.fs,(yp f).symm,hd⟩
theorem Mu.mul{q f g:A}{n m:K}(d:Ir q)(e:Mu q f n)(i:Mu q g m):Mu q (f*g) (n+m):=by
 obtain⟨u,fu,rfl,j⟩:=e;obtain⟨v,c,rfl,hv⟩:=i;refine⟨u*v,fu.mul c,?_,λh=> ?_⟩
 ·rw[SD,zd,zd,zD<|pp q n]
 ·obtain h|h:=d.prime fu c h
  ·grind
  ·grind
def Mu.lt{n:K}(c:Ir q)(h:Mu q f n)(g:Mu q f m):¬n<m:=λk=>by
 have⟨u,fu,e1,i⟩:=h;have⟨v,e,j,hv⟩:=g;obtain⟨d,rfl⟩:∃d,m=d+1+n:=⟨m-1-n,W⟩;refine i ⟨v*pp q d,e.mul<|c.fs.pp d,?_⟩;refine C5 fu ((e.mul<|c.fs.pp d).mul c.fs) (c.fs.pp n) (c.pm.pp n).nz ?_;rw[<-e1,j,SD,zd<|v*pp q d,zd v];show v*(pp q d*q*pp q n)=_;rw[zd<|pp q d]
def Mu.uniq{n:K}(c:Ir q)(h:Mu q f n)(g:Mu q f m):n=m:=by
 have:=h.lt c g;have:=g.lt c h;lia
def Mu.zero(c:Fs f)(h:¬Zd q f):Mu q f 0:=⟨f,c,(yp f).symm,h⟩
def Mu.dvd{n:K}(c:Fs q)(h:Mu q f n)(hn:1<=n):Zd q f:=by
 obtain⟨u,fu,rfl,_⟩:=h;obtain⟨k,rfl⟩:∃k,n=k+1:=⟨n-1,W⟩;exact⟨u*pp q k,fu.mul<|c.pp k,by rw[zd];rfl⟩
def Mu.self(c:Ir q)(n:K):Mu q (pp q n) n:=⟨F 1,Fs.pc 1,(zB _).symm,c.one⟩
def Ir.pp{q r:A}(c:Ir q)(d:Fs r):∀n,Zd q (pp r n)->Zd q r
 |0,h=>wl h c.one
 |n+1,h=>by
  rcases c.prime (d.pp n) d h with h|h
  ·exact Ir.pp c d n h
  ·exact h
theorem Ir.prz{q:A}(d:Ir q):∀{l:N A},(∀r∈l,Fs r)->Zd q (prZ l)->∃r,r∈l/\Zd q r
 |[],_,h=>wl h d.one
 |r::l,hl,h=>by
  rcases d.prime (hl r<|Qh) (Fs.prZ λx c=>hl x<|kE _ c) h with h|h
  ·simp_all
  ·have⟨x,c,h⟩:=Ir.prz d (λx c=>hl x<|kE _ c) h;grind
def Lf(f g:K->J):K->J
 |0=>0
 |n+1=>if f n=g n then Lf f g n else if f n<g n then-1 else 1
theorem zfC(f g:K->J):∀n,Lf g f n= -Lf f g n
 |0=>rfl
 |n+1=>by
  unfold Lf;by_cases h:f n=g n
  ·rw[S h,S h.symm];exact zfC f g n
  ·lia
theorem zej(f g:K->J):∀n,Lf f g n=0->∀k,k<n->f k=g k
 |0,_,k,h=>wl h<|xbf _
 |n+1,h,k,c=>by
  unfold Lf at h;by_cases h1:f n=g n
  ·rw[S h1]at h;by_cases e:k=n
   ·grind
   ·exact zej f g n h k W
  ·lia
def zbP(f g h:K->J):∀n,Lf f g n<=0->Lf g h n<=0->Lf f h n<=0
 |0,_,_=>xfh 0
 |n+1,h1,c=>by
  unfold Lf at h1 c⊢;by_cases e1:f n=g n
  ·rw[S e1]at h1;by_cases d:g n=h n
   ·rw[S d]at c;rw[S<|e1.trans d];exact zbP f g h n h1 c
   ·lia
  ·lia
def jO(a b:N G):J:=if X a=X b then Lf (M a) (M b) (X a) else if X a<X b then-1 else 1
theorem YT(a b:N G):jO b a= -jO a b:=by grind [jO,zfC]
def PJ{c:N G}(h1:jO a b<=0)(d:jO b c<=0):jO a c<=0:=by
 unfold jO at h1 d⊢;by_cases e1:X a=X b
 ·rw[S e1]at h1;by_cases e:X b=X c
  ·rw[S e,<-e1]at d;rw[S<|e1.trans e];exact zbP _ _ _ _ h1 d
  ·lia
 ·lia
def du(d:zX a=a)(e:zX b=b)(h:∀k,M a k=M b k):a=b:=by
 rw[<-d,<-e];exact VM (λk c=>zY c) (λk c=>zY c) h
def GU(c:zX a=a)(d:zX b=b)(h:jO a b=0):a=b:=by
 unfold jO at h;by_cases e:X a=X b
 ·rw[S e]at h;have h1:=zej _ _ _ h;refine du c d λk=> ?_;by_cases g:k<X a
  ·simp_all
  ·rw[zY W,zY W]
 ·lia
theorem Re{α:Type}{R:α->α->Prop}(g:∀x y,R x y->¬R y x):∀{l m:N α},l.Pairwise R->m.Pairwise R->(∀x,x∈l↔x∈m)->l=m
 |[],[],_,_,_=>rfl
 |[],y::m,_,_,h=>wl ((h y).2<|Qh) QT
 |x::l,[],_,_,h=>wl ((h x).1<|Qh) QT
 |x::l,y::m,hl,d,h=>by
  rw[xbR]at hl d;have e:x=y:=by
   rcases PQ.1 ((h x).1<|Qh)with e|e
   ·exact e
   ·rcases PQ.1 ((h y).2<|Qh)with e2|e2
    ·simp_all
    ·grind
  subst e;rw[Re g hl.2 d.2 λz=>⟨λc=>by
   rcases PQ.1 ((h z).1<|kE _ c)with e|e
   ·grind
   ·exact e,λc=>by
   rcases PQ.1 ((h z).2<|kE _ c)with e|e
   ·grind
   ·exact e⟩]
structure FL(f:A)(l:N (N G×J)):Prop where
 el:∀x∈l,zX x.1=x.1/\Ir (M x.1)/\Po (M x.1)/\1<=x.2/\Mu (M x.1) f x.2.toNat
 al:∀q,Ir q->Po q->Zd q f->∃x∈l,M x.1=q
 so:l.Pairwise λx y=>jO x.1 y.1<0
theorem FL.sub{m:N (N G×J)}(h:FL f l)(g:FL f m){x:N G×J}(j:x∈l):x∈m:=by
 have⟨h1,c,n,p,d⟩:=h.el x j;have⟨y,o,e⟩:=g.al _ c n (d.dvd c.fs W);have⟨g1,r,s,t,i⟩:=g.el y o;have e1:=du g1 h1 λk=>vN e k;rw[e1]at i;have u:=i.uniq c d;grind
def FL.uniq{m:N (N G×J)}(h:FL f l)(g:FL f m):l=m:=
 Re (λx y h1 d=>by rw[YT]at d;lia) h.so g.so λx=>⟨λc=>h.sub g c,λc=>g.sub h c⟩
end
section
variable{a b k:zV}{p:zI}{f u v g q:Pz}
def zst{A B:Pz}{d e:K}(c:Mn A d)(h:Mn B e):Mn (A*B) (d+e):=
 ⟨by rw[KH c.2 h.2,c.1,h.1];rfl,λk l=>ug (n:=d+1) (m:=e+1) (λj i=>c.2 j W)<|λj i=>h.2 j W⟩
def znF:∀{l:N Pz},(∀A∈l,∃d,Mn A d)->∃d,Mn (prZ l) d
 |[],_=>⟨0,O,λk j=>by show F 1 k=0;unfold F;rw[zA]⟩
 |A::l,h=>by
  have⟨d,hd⟩:=h A<|Qh;have⟨e,c⟩:=znF λB i=>h B<|kE _ i;exact⟨d+e,zst hd c⟩
def CN{α:Type}(F:α->A)(P:α->ws):∀l:N α,prZ (l.map F)=prZ ((l.filter P).map F)*prZ ((l.filter λx=> !P x).map F)
 |[]=>(yp _).symm
 |x::l=>by
  have c:=CN F P l
  cases h:P x with
  |true=>
   rw[xeV h,xeW<|by rw[h];decide];show F x*_=F x*_*_;rw[c,zd]
  |false=>
   rw[xeW (by rw[h];decide),xeV<|by rw[h];rfl];show F x*_=_*(F x*_);rw[c,zD]
def zic{P:J}(hp:wB P=I){a b:A}{c:J}(s:Fs a)(t:Fs b)(h:Cg P (a*b) (F c))(hc:¬P∣c):∃x,Cg P a (F x):=by
 have⟨G,H⟩:=zp hp;obtain⟨Q,rfl⟩:=xat (W:0<=P);have l:=Wa hp;rw[xaJ]at l;have d:∀f:A,Fs f->¬Cg (Q:J) f (F 0)->∃g n,Tp g n/\Cg (Q:J) g f/\¬(Q:J)∣g n:=λf w hn=>by
  have f2:Fs (λk=>f k%(Q:J)):=by
   have⟨n,hn⟩:=w;exact⟨n,λk y=>by show f k%_=0;rw[hn k y,xae]⟩
  have⟨n,h1⟩:=Tp.ex f2 (xac λz=>hn λk=>by
   have:=Nz.not z k;rw[zE,xae];exact this)
  exact⟨_,n,h1,λk=>xay _ _,λhd=>h1.1 (by
   show f n%_=0;have:=xaq hd;rwa[xay]at this)⟩
 have B:¬Cg (Q:J) a (F 0):=λe=>hc (by
  have:=(h.symm.trans<|e.mul_zero_r b).dvd 0;unfold F at this;rwa[S O]at this)
 have C:¬Cg (Q:J) b (F 0):=λe=>hc (by
  have:=(h.symm.trans<|e.mul_zero_l a).dvd 0;unfold F at this;rwa[S O]at this)
 have⟨u,i,m,o,K⟩:=d a s B;have⟨v,j,v1,D,v3⟩:=d b t C;have h1:=(o.mul D).trans h;by_cases E:i=0
 ·subst E;obtain⟨x,rfl⟩:=((Cn.tp m).2 O).ex;exact⟨x,o.symm⟩
 ·exfalso;have r:=h1<|i+j;rw[KH m.2 v1.2,show F c (i+j)=0 from zA,xae]at r;rcases zb6 W l (xaA r)with h3|h3
  ·lia
  ·exact v3 h3
theorem E5{p a:J}(hp:wB p=I)(d:a%p≠0):∀k,∃w,p^k∣w*a-1
 |0=>⟨0,by rw[xbD];exact Int.one_dvd _⟩
 |k+1=>by
  have⟨l,m⟩:=zp hp;by_cases i:k=0
  ·subst i;obtain⟨Q,rfl⟩:=xat (W:0<=p);have⟨w,c⟩:=zgY hp λh=>d<|xaq h;grind
  ·have⟨w,c⟩:=E5 hp d k;refine⟨w*(2-w*a),?_⟩;have e:w*(2-w*a)*a-1= -((w*a-1)*(w*a-1)):=by grind
   rw[e];refine Int.dvd_neg.2<|xbu (tu (j:=k+k)) ?_;rw[Int.pow_add];exact xfE c c
abbrev Lx:=N G×N J
def pu(xs:N Lx):A:=prZ<|xs.map λx=>(M x.1:A)
def pl(xs:N Lx):A:=prZ<|xs.map λx=>(C x.2:A)
def ztb(xs:N Lx):Fs (pu xs):=Fs.prZ λf c=>by
 obtain⟨x,_,rfl⟩:=xan.1 c;exact Fs.cf _
def zwH(xs:N Lx):Fs (pl xs):=Fs.prZ λf c=>by
 obtain⟨x,_,rfl⟩:=xan.1 c;exact Fs.ci _
structure Lc(p:J)(k:K)(f:A)(n:K)(xs:N Lx):Prop where
 hp:wB p=I
 k1:1<=k
 el:∀x∈xs,Up p k x.1 x.2/\KT p x.2/\x.2.length<=66
 pw:xs.Pairwise λa b=>jj p (C a.2)<|C b.2
 tp:Tp f n
 nb:n<=64
 ps:0<f n
 lc:f n%p≠0
 pm:Pm f
 cg:Cg (p^k) f (F (f n)*pu xs)
def zwB{x:Lx}(h:Up p k x.1 x.2/\KT p x.2/\X x.2<=66):Mn (M x.1) (X x.2-1):=by
 have⟨h1,d,_⟩:=h;have c:=h1.top;rw[h1.len]at c;exact⟨c,λj e=>zY<|by rw[h1.len];lia⟩
def zes{p:J}{k:K}:∀{xs:N Lx},(∀x∈xs,Up p k x.1 x.2/\KT p x.2/\X x.2<=66)->Cg p (pu xs) (pl xs)
 |[],_=>Cg.rfl
 |x::xs,h=>(h x<|Qh).1.cg.mul<|zes λy c=>h y<|kE _ c
def zwp{xs:N Lx}(h:∀x∈xs,Up p k x.1 x.2/\KT p x.2/\X x.2<=66):∃d,Mn (pu xs) d:=znF λA c=>by
 obtain⟨x,e,rfl⟩:=xan.1 c;exact⟨_,zwB<|h x e⟩
def znp{xs:N Lx}(h:∀x∈xs,Up p k x.1 x.2/\KT p x.2/\X x.2<=66):∃d,Mn (pl xs) d:=znF λA c=>by
 obtain⟨x,e,rfl⟩:=xan.1 c;exact⟨_,(h x e).2.1.mn.mn⟩
def Lc.lcp{n:K}{xs:N Lx}(h:Lc p k f n xs):Cg p f (F (f n)*pl xs):=
 (h.cg.down<|uW h.k1).trans (Cg.rfl.mul<|zes h.el)
def Lc.sf{n:K}{xs:N Lx}(h:Lc p k f n xs):∃(m:N J) (w:J),Sf p m (xs.map (·.2))/\Cg p (C m) (F w*f):=by
 have⟨A,B⟩:=zp h.hp;have⟨w,i⟩:=E5 h.hp h.lc 1;rw[xbo,xbD,xcr]at i;have r:∀k,n+1<=k->(λk=>(w*f k)%p) k=0:=λk D=>by
  show(w*f k)%p=0;rw[h.tp.2 k W,xaw,xae]
 have l:(w*f n)%p=1:=by
  have:=(xcE (w*f n)<|xej p);have d:(w*f n)%p=1%p:=xaC.2<|xaq i;rw[d,xax YL W]
 have c:=Ou r;have hc:=Ib (n+1)<|λk=>(w*f k)%p;have s:=zbr (n+1)<|λk=>(w*f k)%p;have⟨m,t⟩:∃m,m=nl (n+1) (λk=>(w*f k)%p):=⟨_,O⟩;rw[<-t]at c hc s;have hd:X m=n+1:=by
  by_cases e:X m=n+1
  ·exact e
  ·have:=c n;rw[zW W]at this;lia
 have o:Cg p (C m) (F w*f):=λk=>by rw[c k,zU];exact xay _ _
 refine⟨m,w,⟨h.hp,⟨⟨λk=>by rw[c k];exact(yz).1,λk=>by rw[c k];exact(yz).2,hc⟩,W,by rw[c];show(w*f (X m-1))%p=1;rw[hd];exact l⟩,by have:=h.nb;lia,λu y=> ?_,?_,?_⟩,o⟩
 ·obtain⟨x,z,rfl⟩:=xan.1 y;have⟨_,d,E⟩:=h.el x z;exact⟨d,W⟩
 ·exact xeF.2 h.pw
 ·refine o.trans<|(Cg.rfl.mul h.lcp).trans ?_;rw[<-zd,uk,xcP];refine Cg.trans (Cg.mul (f':=F 1) (λj=> ?_) Cg.rfl)<|Cg.of<|zB _;unfold F;split
  ·rw[l];exact(xax YL W).symm
  ·rfl
noncomputable def own(p:J)(u:A)(xs:N Lx):N Lx:=by
 classical exact xs.filter λx=>decide<|Di p (C x.2) u
noncomputable def oth(p:J)(u:A)(xs:N Lx):N Lx:=by
 classical exact xs.filter λx=> !decide (Di p (C x.2) u)
theorem lv{xs:N Lx}{x:Lx}:x∈own p u xs↔x∈xs/\Di p (C x.2) u:=by grind [own]
def zjX(p:J)(u:A)(xs:N Lx):pu xs=pu (own p u xs)*pu (oth p u xs)/\pl xs=pl (own p u xs)*pl (oth p u xs):=by
 exact⟨CN _ _ xs,CN _ _ xs⟩
def Lc.or{n:K}{xs:N Lx}(h:Lc p k f n xs)(fu:Fs u)(d:Fs v)(l:∀j,b<=j->u j=0)(o:b<=290)(e:f=u*v){x:Lx}(c:x∈xs):(Di p (C x.2) u\/Di p (C x.2) v)/\¬(Di p (C x.2) u/\Di p (C x.2) v):=by
 have⟨m,w,r,s⟩:=h.sf;have⟨h1,t,D⟩:=h.el x c;have A:x.2∈xs.map (·.2):=xbH c;constructor
 ·obtain hd|hc:=t.or' h.hp W l o
  ·simp_all
  ·right;have i:Di p (C x.2) f:=by
    refine Di.cg ?_ h.lcp.symm;exact(iA (λy B=>by obtain⟨z,_,rfl⟩:=xan.1 B;exact Fs.ci _)<|xbH c).mul _<|Fs.pc _
   rw[e]at i;exact Di.euclid d hc i
 ·rintro⟨d1,d2⟩;exact r.apart fu d ⟨F w,Fs.pc w,by rw[<-e];exact s⟩ A d1 d2
def Lc.oth_own{n:K}{xs:N Lx}(h:Lc p k f n xs)(fu:Fs u)(c:Fs v)(d:∀j,b<=j->u j=0)(i:b<=290)(e:f=u*v):oth p u xs=own p v xs:=by
 refine List.filter_congr λx l=> ?_;have⟨h1,m⟩:=h.or fu c d i e l;by_cases hd:Di p (C x.2) u
 ·simp_all
 ·simp_all
def Lc.pcop{n:K}{xs:N Lx}(h:Lc p k f n xs):(own p u xs).Pairwise (λa b=>jj p (C a.2)<|C b.2):=by
 exact h.pw.sublist List.filter_sublist
def Lc.odv{n:K}{xs:N Lx}(h:Lc p k f n xs)(fu:Fs u):Di p (pl<|own p u xs) u:=by
 refine Di.prz fu (λy c=>by obtain⟨z,_,rfl⟩:=xan.1 c;exact Fs.ci _) (xeF.2 h.pcop) λy c=> ?_;obtain⟨z,d,rfl⟩:=xan.1 c;exact(lv.1 d).2
def P5{n:K}{xs:N Lx}(h:Lc p k f n xs)(u:A):∀x∈own p u xs,Up p k x.1 x.2/\KT p x.2/\X x.2<=66:=λx c=>h.el x (lv.1 c).1
def Lc.loc{n:K}{xs:N Lx}(h:Lc p k f n xs)(c:Tp u a)(hv:Tp v b)(e:f=u*v):Cg p u (F (u a)*pl (own p u xs))/\Mn (pl<|own p u xs) a:=by
 have⟨t,G⟩:=zp h.hp;have fu:=c.fs;have o:=hv.fs;have w:a+b=n:=by
  have:=c.mul hv;rw[<-e]at this;exact this.uniq h.tp
 have y:f n=u a*v b:=by rw[<-w,e,KH c.2 hv.2]
 have z:oth p u xs=own p v xs:=h.oth_own fu o (b:=a+1) (λj H=>c.2 j W) (by have:=h.nb;lia) e;have⟨α,i,h1⟩:=h.odv fu;have⟨β,l,A⟩:=h.odv o;have⟨d0,B⟩:=znp h.el;have r:=(zjX p u xs).2;rw[z]at r;have C:Cg p ((α*β-F (f n))*pl xs) (F 0):=by
  rw[ji];refine Cg.iff_sub.1<|Cg.trans ?_ h.lcp;rw[e];refine Cg.trans (Cg.of ?_) (h1.mul A).symm;rw[r,zd α,zd α,zD (pl<|own p u xs) β]
 have D:=B.zero t ((i.mul l).subt<|Fs.pc _) λj _=>by rw[C j,zE,xae]
 have s:¬p∣f n:=λhd=>h.lc<|xaq hd;have⟨x,E⟩:=zic h.hp i l (Cg.iff_sub.2 D) s;have m:Cg p u (F x*pl (own p u xs)):=h1.trans<|E.mul Cg.rfl;have⟨d,hd⟩:=znp<|P5 h u;have hc:¬p∣u a:=λhd=>s (by rw[y];exact xbu hd<|xck _ _);have t1:=m a;have t2:=m d;rw[zU]at t1 t2;rw[hd.1,xci]at t2;have hi:a=d:=by
  by_cases c1:a<d
  ·exfalso;rw[c.2 d c1,xae]at t2;refine hc<|xaA ?_;rw[t1,xaY,<-t2,xaK,xae]
  ·by_cases c2:d<a
   ·exfalso;rw[hd.2 a c2,xaw,xae]at t1;exact hc<|xaA t1
   ·lia
 subst hi;refine⟨m.trans<|Cg.mul (λj=> ?_) Cg.rfl,hd⟩;unfold F;split
 ·exact t2.symm
 ·rfl
theorem Lc.up{n:K}{xs:N Lx}(h:Lc p k f n xs)(i:Tp u a)(hv:Tp v b)(e:f=u*v):Cg (p^k) u (F (u a)*pu (own p u xs)):=by
 have⟨R,p2⟩:=zp h.hp;have fu:=i.fs;have s:=hv.fs;have hp:a+b=n:=by
  have:=i.mul hv;rw[<-e]at this;exact this.uniq h.tp
 have t:f n=u a*v b:=by rw[<-hp,e,KH i.2 hv.2]
 have hl:¬p∣f n:=λhd=>h.lc<|xaq hd;have T:u a%p≠0:=λhd=>hl (by rw[t];exact xbu (xaA hd)<|xck _ _);have U:v b%p≠0:=λhd=>hl (by rw[t];exact xbu (xaA hd)<|xcB _ _);have V:oth p u xs=own p v xs:=h.oth_own fu s (b:=a+1) (λj m=>i.2 j W) (by have:=h.nb;lia) e;have⟨l1,m1⟩:=h.loc i hv e;have⟨Y,m2⟩:=h.loc hv i (by rw[e,zk]);have⟨w,o⟩:=E5 h.hp T k;have⟨z,P⟩:=E5 h.hp U k;have C:=uW (p:=p) h.k1;have one:∀{M c d:J},M∣c*d-1->Cg M (F c*F d) (F 1):=λ{M c d} hd j=>by
  rw[uk];unfold F;split
  ·exact xaC.2<|xaq hd
  ·rfl
 have hA:∃A:Pz,Mn A a/\Fs A/\Cg (p^k) A (F w*u):=by
  refine⟨λj=>if j=a then 1 else w*u j,⟨S O,λj m=> ?_⟩,⟨a+1,λj m=> ?_⟩,λj=> ?_⟩
  ·show(if j=a then(1:J)else w*u j)=0;rw[zA,i.2 j m,xaw]
  ·show(if j=a then(1:J)else w*u j)=0;rw[zA,i.2 j W,xaw]
  ·show(if j=a then(1:J)else w*u j)%_=_;rw[zU];by_cases c:j=a
   ·rw[S c,c];exact(xaC.2<|xaq o).symm
   ·rw[ir c]
 have⟨A,D,fA,E⟩:=hA;have⟨l,G⟩:=zwp<|P5 h u;have H:=zes<|P5 h u;have hs:=zes<|P5 h v;have r:Cg p A (pl<|own p u xs):=by
  refine(E.down C).trans<|(Cg.rfl.mul l1).trans ?_;rw[<-zd];exact(Cg.mul (one<|xbu C o) Cg.rfl).trans<|Cg.of<|zB _
 have cv:Cg p (F z*v) (pl<|own p v xs):=by
  refine(Cg.rfl.mul Y).trans ?_;rw[<-zd];exact(Cg.mul (one<|xbu C P) Cg.rfl).trans<|Cg.of<|zB _
 have mu:Mn (pu<|own p u xs) a:=by
  have t1:=(H.trans r.symm) a;have t2:=(H.trans r.symm) l;rw[D.1]at t1;rw[G.1]at t2;have Q:(1:J)%p=1:=xax YL W;have:l=a:=by
   by_cases c1:l<a
   ·rw[G.2 a c1,xae,Q]at t1;cases t1
   ·by_cases c2:a<l
    ·rw[D.2 l c2,xae,Q]at t2;cases t2
    ·lia
  rw[<-this];exact G
 have hm:jj p (pl<|own p u xs) (pl<|own p v xs):=by
  have:=zbI (p:=p) (A:=(own p u xs).map (·.2)) (B:=(own p v xs).map (·.2)) λc hc d hd=>by
   obtain⟨x,hx,rfl⟩:=xan.1 hc;obtain⟨y,hy,rfl⟩:=xan.1 hd;have L:=lv.1 hx;have hn:=lv.1 hy;have⟨_,i1,i2⟩:=h.el x L.1;have⟨_,i3,i4⟩:=h.el y hn.1;refine i1.cop h.hp i3 W W λee=> ?_;have:=(h.or fu s (b:=a+1) (λj m=>i.2 j W) (by have:=h.nb;lia) e L.1).2;exact this ⟨L.2,by rw[ee];exact hn.2⟩
  rw[xcP,xcP]at this;exact this
 have hi:Cg (p^k) (A*(F z*v)) (pu (own p u xs)*pu (own p v xs)):=by
  have e1:=(zjX p u xs).1;rw[V]at e1;rw[<-e1];refine(E.mul Cg.rfl).trans ?_;have e2:F w*u*(F z*v)=F w*(F z*f):=by rw[e,zd,zD u (F z) v]
  rw[e2];refine(Cg.mul Cg.rfl<|Cg.mul Cg.rfl h.cg).trans ?_;have e3:F w*(F z*(F (f n)*pu xs))=(F w*F (u a))*((F z*F (v b))*pu xs):=by
   rw[t,<-zd,<-zd,<-zd,uk,uk,uk,uk,uk];congr 2;grind
  rw[e3];exact(Cg.mul (one o)<|(Cg.mul (one P) Cg.rfl).trans<|Cg.of<|zB _).trans<|Cg.of<|zB _
 have⟨r1,_⟩:=zef R D mu fA (ztb _) ((Fs.pc z).mul s) (ztb _) (hm.congr r.symm cv.symm) (r.trans H.symm) (cv.trans hs.symm) k hi;refine Cg.trans ?_<|Cg.rfl.mul r1;refine Cg.trans ?_<|Cg.rfl.mul E.symm;rw[<-zd];refine Cg.symm<|(Cg.mul (one (d:=w) ?_) Cg.rfl).trans<|Cg.of<|zB _;rw[xaX];exact o
def Lc.step{n:K}{xs:N Lx}(h:Lc p k f n xs)(c:Tp g a)(d:Tp q b)(o:0<g a)(e:f=q*g):Lc p k q b (oth p g xs):=by
 have i:f=g*q:=by rw[e,zk]
 have hc:a+b=n:=by
  have:=c.mul d;rw[<-i]at this;exact this.uniq h.tp
 have l:f n=g a*q b:=by rw[<-hc,i,KH c.2 d.2]
 have r:=h.oth_own c.fs d.fs (b:=a+1) (λj s=>c.2 j W) (by have:=h.nb;lia) i;have m:=h.ps;rw[r];refine⟨h.hp,h.k1,P5 h q,h.pcop,d,by have:=h.nb;lia,?_,λhd=> ?_,?_,h.up d c e⟩
 ·rw[l]at m;exact Int.pos_of_mul_pos_right m o
 ·exact h.lc<|by rw[l];exact xaq<|xbu (xaA hd)<|xcB _ _
 ·have:=h.pm;rw[e]at this;exact this.left
def Lc.pick{n:K}{xs S:N Lx}(h:Lc p k f n xs)(o:∀x∈S,x∈xs)(L:Tp g a)(hq:Tp q b)(e:f=g*q){γ:J}(hc:Cg p (F γ*g) (F (f n)*pl S)){x:Lx}(r:x∈xs):Di p (C x.2) g↔x∈S:=by
 have⟨s,p2⟩:=zp h.hp;have D:¬p∣f n:=λhd=>h.lc<|xaq hd;have l:=λy i=>h.el y<|o y i;have⟨d,hd⟩:=znp l;have m:¬p∣γ:=λM=>D (by
  have t:=hc d;rw[zU,zU,hd.1,xci]at t;refine xaA ?_;rw[<-t];exact xaq<|xbu M<|xck _ _)
 have⟨_,i1,i2⟩:=h.el x r;have j:∀{c:J}{y:Pz},¬p∣c->Fs y->Di p (C x.2) (F c*y)->Di p (C x.2) y:=λ{c y} hc P hd=>by
  rcases i1.or' h.hp W (f:=F c) (n:=1) (λk hk=>by unfold F;rw[zA]) YL with h1|h1
  ·exact wl (i1.const s h1) hc
  ·exact Di.euclid P h1 hd
 constructor
 ·intro h1;have Q:Di p (C x.2) (pl S):=j D (zwH S)<|(h1.mul (F γ)<|Fs.pc γ).cg hc;have R:=i1.mem h.hp (us:=S.map (·.2)) W (λw T=>by
   obtain⟨y,i,rfl⟩:=xan.1 T;have⟨_,U,j2⟩:=l y i;exact⟨U,W⟩) (by rw[xcP];exact Q)
  have⟨y,i,V⟩:=xan.1 R;have:x=y:=by
   by_cases E:x=y
   ·exact E
   ·exfalso;have U5:=h.pw;have G:jj p (C x.2) (C y.2):=by
     have⟨A,B,Y⟩:=xdY r;have H:=o y i;rw[Y]at H U5;rw[xdg,xbR]at U5;obtain h4|h4:=pN.1 H
     ·exact(U5.2.2 y h4 x<|Qh).symm
     ·obtain h5|h5:=PQ.1 h4
      ·exact wl h5.symm E
      ·exact U5.2.1.1 y h5
    rw[V]at G;exact i1.self s G
  rw[this];exact i
 ·intro h1;refine j m L.fs<|Di.cg ?_ hc.symm;exact(iA (λy i=>by obtain⟨z,_,rfl⟩:=xan.1 i;exact Fs.ci _)<|xbH (f:=λx:Lx=>(C x.2:Pz)) h1).mul _<|Fs.pc _
end
section
variable{f u v g q:Pz}{p:zI}{k N:zV}{xs:zC Lx}{a:zC zI}
theorem zvY{α:Type}{P Q R:α->ws}:∀{l:zC α},(∀x∈l,P x=I->R x=I)->(∀x∈l,Q x=I->R x=I)->(∀x∈l,¬(P x=I/\Q x=I))->X (l.filter P)+X (l.filter Q)<=X (l.filter R)
 |[],_,_,_=>eZ _
 |x::l,h1,c,d=>by
  have e:=zvY (λy b=>h1 y<|kE _ b) (λy b=>c y<|kE _ b) λy b=>d y<|kE _ b;grind
def Ls(p:J)(f:A)(xs:zC Lx)(c:K):Prop:=∀u v,Fs u->Fs v->f=u*v->¬Cn u->c<=X (own p u xs)
def Y7(c:Nz f)(e:f=u*v):Nz u/\Nz v:=by
 have⟨k,b⟩:=c;rw[e]at b;exact⟨xac λhn=>b (xz λi _=>by rw[Nz.not hn i,xaK]),xac λhn=>b<|xz λi _=>by rw[Nz.not hn _,xaw]⟩
def Ls.one{n:K}(h:Lc p k f n xs):Ls p f xs 1:=λu v fu i e j=>by
 have⟨l,nv⟩:=Y7 h.tp.nz e;have⟨a,c⟩:=Tp.ex fu l;have⟨b,m⟩:=Tp.ex i nv;have⟨_,d⟩:=h.loc c m e
 cases o:own p u xs with
 |nil=>
  exfalso;rw[o]at d;have h1:=d.1;refine j<|(Cn.tp c).2<|xac λh0=> ?_;rw[show pl [] a=0 from ir h0]at h1;cases h1
 |cons x r=>exact Nat.succ_le_succ<|sB _
def Ls.two{w:A}{n:K}(h:Lc p k f n xs)(fu:Fs u)(c:Fs v)(d:Fs w)(e:f=u*v*w):X (own p u xs)+X (own p v xs)<=X (own p (u*v) xs):=by
 classical
 have⟨n1,nw⟩:=Y7 h.tp.nz e;have⟨l,nv⟩:=Y7 n1 O;have⟨a,i⟩:=Tp.ex fu l;have⟨b,m⟩:=Tp.ex (c.mul d)<|Nz.mul c d nv nw;have hc:a+b=n:=by
  have:=i.mul m;rw[<-zd,<-e]at this;exact this.uniq h.tp
 refine zvY (λx _ h1=> ?_) (λx _ h1=> ?_) λx o ⟨h1,r⟩=> ?_
 ·refine wU ?_;rw[zk];exact(vR h1).mul v c
 ·exact wU<|(vR h1).mul u fu
 ·refine(h.or fu (c.mul d) (b:=a+1) (λj s=>i.2 j W) (by have:=h.nb;lia) (by rw[e,zd]) o).2 ⟨vR h1,?_⟩;rw[zk];exact(vR r).mul w d
def Ls.ir{n c:K}(h:Lc p k f n xs)(hl:Ls p f xs c)(hc:1<=c)(i:Fs g)(fq:Fs q)(e:f=g*q)(pm:Pm g)(j:¬Cn g)(hn:X (own p g xs)<2*c):Ir g:=by
 refine⟨i,pm,j,λu v fu b l=>xac λd=> ?_⟩;have m:=λh=>d (.inl h);have cv:=λh=>d (.inr h);subst l;have h1:=hl u (v*q) fu (b.mul fq) (by rw[e,zd]) m;have o:=hl v (u*q) b (fu.mul fq) (by rw[e,zd,zD]) cv;have r:=Ls.two h fu b fq e;lia
def Ls.step{n c:K}(h:Lc p k f n xs)(hl:Ls p f xs c)(d:Fs g)(fq:Fs q)(e:f=q*g):Ls p q (oth p g xs) c:=λu v fu i m o=>by
 classical
 subst m;have h1:=hl u (v*g) fu (i.mul d) (by rw[e,zd]) o;have⟨n1,ng⟩:=Y7 h.tp.nz e;have⟨a,l⟩:=Tp.ex d ng;have⟨b,r⟩:=Tp.ex fq n1;have hc:b+a=n:=by
  have:=r.mul l;rw[<-e]at this;exact this.uniq h.tp
 have:own p u (oth p g xs)=own p u xs:=by
  unfold own oth;rw[List.filter_filter];refine List.filter_congr λx s=> ?_;by_cases hd:Di p (C x.2) u
  ·have t:=(h.or d fq (b:=a+1) (λj y=>l.2 j W) (by have:=h.nb;lia) (by rw[e,zk]) s).2;rw[wU hd,wS λw=>t ⟨w,by rw[zk];exact hd.mul v i⟩];rfl
  ·simp_all
 simp_all
structure LG(N c:K)(a:zC J):Prop where
 ln:a.length=c
 lo:∀i,i<c->(i:J)<=C a i
 hi:∀i,i<c->C a i+c<=N+i
 st:∀i,i+1<c->C a i<C a (i+1)
def Lt(f g:K->J)(c:K):Prop:=∃j,j<c/\f j<g j/\∀k,k<j->f k=g k
def R6(f g:K->J)(c:K):(∀k,k<c->f k=g k)\/Lt f g c\/Lt g f c:=by
 by_cases h:∃k,k<c/\f k≠g k
 ·have⟨j,⟨d,m⟩,i⟩:=zs9 h;have e:=λk b=>xac λhn=>i k b ⟨W,hn⟩;by_cases l:f j<g j
  ·exact .inr (.inl ⟨j,d,l,e⟩)
  ·exact .inr (.inr ⟨j,d,W,λk b=>(e k b).symm⟩)
 ·simp_all
theorem Lt.asy{f g:K->J}{c:K}(h:Lt f g c)(b:Lt g f c):jN:=by
 have⟨i,i1,i2,d⟩:=h;have⟨j,l,m,n⟩:=b;by_cases e:i<j
 ·simp_all
 ·grind
def nxA(c k:K)(a:zC J):zC J:=zl c λi=>if i<k then C a i else C a k+1+((i:J)-k)
theorem LG.up{N c:K}{T:zC J}(b:LG N c T){i:K}:∀d,i+d<c->C T i+d<=C T (i+d)
 |0,_=>by rw[xbM];lia
 |d+1,h=>by
  have h1:=b.up (i:=i) d W;have e:=b.st (i+d) W;grind
def eY{c:K}{i:K}(h:i<c:=by lia):C (nxA c k a) i=if i<k then C a i else C a k+1+((i:J)-k):=km h
theorem LG.next{c:K}(h:LG N c a)(b:k<c)(h1:C a k+c<N+k):LG N c (nxA c k a):=by
 refine⟨zF _ _,λi hi=> ?_,λi hi=> ?_,λi hi=> ?_⟩
 ·rw[eY hi];have:=h.lo i hi;have:=h.lo k b;lia
 ·rw[eY hi];have:=h.hi i hi;lia
 ·rw[eY,eY hi];by_cases e:i+1<k
  ·rw[zS,S e];exact h.st i hi
  ·by_cases d:i<k
   ·have:=h.st i hi;grind
   ·lia
def zwb{c:K}{T:zC J}(l:LG N c T)(r:k<c)(n:∀i,k<i->i<c->C a i+c=N+i)(h:Lt (C a) (C T) c):(∀i,i<c->C (nxA c k a) i=C T i)\/Lt (C<|nxA c k a) (C T) c:=by
 have⟨j,b,o,m⟩:=h;have s:j<=k:=by
  by_cases e:j<=k
  ·exact e
  ·have:=n j W b;have:=l.hi j b;lia
 by_cases e:j<k
 ·exact .inr ⟨j,b,by rw[eY b,S e];exact o,λi hi=>by rw[eY,zS];exact m i hi⟩
 ·obtain rfl:j=k:=W
  rcases R6 (C<|nxA c j a) (C T) c with h1|h1|h1
  ·simp_all
  ·simp_all
  ·exfalso;have⟨i,i1,i2,t⟩:=h1;rw[eY i1]at i2;by_cases d:i<j
   ·rw[S d,m i d]at i2;lia
   ·rw[ir d]at i2;have:=l.up (i:=j) (i-j) W;rw[(W:j+(i-j)=i)]at this;lia
def msr(N:K)(f:K->J):K->K
 |0=>0
 |n+1=>msr N f n*(N+1)+(N-(f n).toNat)
def znU(N:K)(f:K->J):∀n,msr N f n+1<=(N+1)^n
 |0=>eZ _
 |n+1=>by
  have b:=xaf (N+1)<|znU N f n;rw[xaT]at b;show msr N f n*(N+1)+(N-(f n).toNat)+1<=(N+1)^n*(N+1);lia
def zmp{N:K}{f g:K->J}:∀n,(∀k,k<n->f k=g k)->msr N f n=msr N g n
 |0,_=>rfl
 |n+1,h=>by
  show msr N f n*(N+1)+_=msr N g n*(N+1)+_;rw[zmp n λk b=>h k W,h n W]
def zmk{N:K}{f g:K->J}{j:K}(h0:∀k,k<j->f k=g k)(h1:0<=g j)(b:f j=g j+1)(c:f j<=N):∀d,msr N f (j+1+d)+1<=msr N g (j+1+d)
 |0=>by
  show msr N f j*(N+1)+_+1<=msr N g j*(N+1)+_;rw[zmp j h0];lia
 |d+1=>by
  have e:=xaf (N+1)<|zmk h0 h1 b c d;rw[xaT]at e;show msr N f (j+1+d)*(N+1)+(N-(f<|j+1+d).toNat)+1<=msr N g (j+1+d)*(N+1)+(N-(g<|j+1+d).toNat);lia
end
section
variable{B R Q:Pz}{la lb ql K J fu:zV}{b a:zC Zr}
structure DvZ(A B Q R:Pz)(la lb n ql K J:zV):Prop where
 eq:A=Q*B+R
 q1:∀k,k<n->Q k=0
 q2:∀k,ql<=k->Q k=0
 r:∀k,n+(lb-1)<=k->R k=0
 bz:∀k,Bz (K+(ql-n)*(J+1))<|R k
 bq:∀k,Bz (K+(ql-n)*(J+1))<|Q k
def zcQ{n m:zV}(e:Tp B m)(h:Zd B R)(g:∀k,n+m<=k->R k=0):∃w:A,R=w*B/\∀k,n<=k->w k=0:=by
 obtain⟨w,f,rfl⟩:=h;refine⟨w,O,?_⟩;by_cases nw:Nz w
 ·have⟨d,hd⟩:=Tp.ex f nw;have h1:=(hd.mul e).1;intro k i;refine hd.2 k ?_;by_cases c:d<n
  ·lia
  ·simp_all
 ·exact λk _=>Nz.not nw k
def DvZ.step{A:Pz}{n:zV}(h:DvZ A B Q R la lb (n+1) ql K J)(f:Tp B (lb-1))(hn:n+1<=ql){c:zI}(hc:R (n+(lb-1))=c*B (lb-1))(j:∀k,Bz J<|B k):
 DvZ A B (Xg Q n c) (λk=>R k-c*sh B n k) la lb n ql K J:=by
 have g:Bz (K+(ql-(n+1))*(J+1)) c:=(h.bz<|n+(lb-1)).le (by
  rw[hc,xcK];exact xcl _ (by have:=f.1;lia))
 have i:K+(ql-n)*(J+1)=K+(ql-(n+1))*(J+1)+J+1:=by rw[(W:ql-n=ql-(n+1)+1),xaT];lia
 have e1:Xg Q n c=Q+mono n c:=wu λk=>by
  rw[zG];unfold Xg mono;by_cases e:k=n
  ·rw[S e,S e,e,h.q1 n W];lia
  ·lia
 refine⟨?_,λk d=> ?_,λk d=> ?_,λk d=> ?_,λk=> ?_,λk=> ?_⟩
 ·rw[e1,yu];funext k;have:=vN h.eq k;rw[zG]at this;rw[zG,zG,qF];show _=_+_+(R k-c*sh B n k);lia
 ·unfold Xg;rw[zA];exact h.q1 k W
 ·unfold Xg;rw[zA];exact h.q2 k d
 ·show R k-c*sh B n k=0;unfold sh;rw[zS];by_cases e:k=n+(lb-1)
  ·rw[e,hc,(W:n+(lb-1)-n=lb-1)];lia
  ·rw[h.r k W,f.2 _ W];lia
 ·rw[i];refine Bz.sub ((h.bz k).mono W)<|g.mul ?_;unfold sh;split
  ·exact j _
  ·exact Bz.zero _
 ·rw[i];unfold Xg;split
  ·exact g.mono W
  ·exact(h.bq k).mono W
def zqX{n:zV}{c:zI}(d:yQ J b)(o:X b=lb)(hn:n+lb<=la)(hl:la<=1000)(i:∀k,Bz K<|R k)(hc:Bz K c)(p:K+J+1<=40000)(f:3000000<=fu):
 zg (dQ fu (n:zI) b) fu ((0:zI),b,zi la R,zi ql Q,yf c)=Z (b,zi la<|λk=>R k-c*sh (M b) n k,zi ql Q):=by
 refine zt (λs:zI×N G×N G×N G×G=>∃j:zV,j<=lb/\s=((j:zI),b,zi la (λk=>if k<n+j then R k-c*sh (M b) n k else R k),zi ql Q,yf c)) (λs=>lb-s.1.toNat) _ ?_ _ _ ⟨0,sB _,?_⟩ (by show lb-0<fu;lia)
 ·rintro s L ⟨j,q,rfl⟩ l;unfold dQ;simp only;by_cases h1:j<lb
  ·rw[zS,U O];simp only[wN];have hd:=d.get j;rw[yc,ze,(W:(n:zI)+(j:zI)=((n+j:zV):zI)),zb,zb,zo (by rw[yh];lia),ze,XC W,zA,U<|yK (hc.ok W) (iw.of hd W) f,zm,YV];have m:Bz (K+J) (c*M b j):=hc.mul<|d.bz j;rw[U<|kF ((i _).ok W) (m.ok W) f,zm,zm,zo (by rw[yh];lia),ze,iC,zb];refine l _ ⟨j+1,W,?_⟩ (by show lb-((j:zI)+1).toNat<lb-(j:zI).toNat;lia);rw[(W:((j:zI)+1)=((j+1:zV):zI))];refine xeX O<|xeX O<|xeX ?_ O;refine xp λk g=> ?_;unfold Xg;by_cases e:k=n+j
   ·rw[S e,zS,e];unfold sh;rw[zS,(W:n+j-n=j)]
   ·rw[ir e];show(if k<n+j then R k-c*sh (M b) n k else R k)=_;by_cases h:k<n+j
    ·rw[S h,zS]
    ·rw[ir h,zA]
  ·rw[zA,U O];simp only[xaj,wP];obtain rfl:j=lb:=W
   refine wF Z<|xeX O<|xeX ?_ O;refine xp λk g=> ?_;by_cases e:k<n+j
   ·rw[S e]
   ·rw[ir e];unfold sh;rw[zS,zY W];lia
 ·refine xeX O<|xeX O<|xeX ?_ O;refine xp λk g=> ?_;by_cases e:k<n+0
  ·rw[S e];unfold sh;rw[zA];lia
  ·rw[ir e]
def zun(a:N G):zX a=zi (X (zX a)) (M a):=by
 have h:zX a=zi (dg (M a) (X a)) (M a):=O;rw[show(zX a).length=dg (M a) (X a) from xJ _ _];exact h
def Ze(h:X (zX a)≠0):Tp (M a) (X (zX a)-1):=by
 have h1:=XB (gZ a) h;rw[Zy]at h1;exact⟨h1,λk c=>by rw[<-Zy];exact zY W⟩
def VT(h:X (zX a)=0)(k:zV):M a k=0:=by rw[<-Zy];exact zY W
def au(H:yQ K a)(y:yQ J b)(hK:K+(X a+1)*(J+1)<=30000)(hH:X a<=1000)(hJ:X b<=1000)(h0:X (zX b)≠0)(o:3000000<=fu):
 ∃q e,wV fu a b=Z (q,e)/\(e=0↔Zd (M b) (M a))/\(e=0->(M a:A)=M q*M b/\zX q=q/\X q<=X a):=by
 have hn:=fE y;have hL:=jG b;have hM:=jG a;have l:=Ze h0;have hN:J+1<=(X a+1)*(J+1):=xdj _ W;have⟨la,hi⟩:∃la,la=X (zX a):=⟨_,O⟩;have⟨lb,t⟩:∃lb,lb=X (zX b):=⟨_,O⟩;have⟨ql,hO⟩:∃ql,ql=la+1-lb:=⟨_,O⟩;have u:=zun a;rw[<-hi]at u;rw[<-t]at l h0;unfold wV;rw[U<|zP H W W o,U<|zP y W W o,show xW (X a) (M a)=zX a from O,show xW (X b) (M b)=zX b from O,<-hi,<-t,zA];by_cases hP:0<la/\la<lb
 ·rw[U (v:=Sum.inr ())<|by rw[zS,zS]];refine⟨[],4,O,⟨λh=>wl h YL,λh=> ?_⟩,λh=>wl h YL⟩;exfalso;have z:=Ze (a:=a) W;rw[<-hi]at z;have⟨w,p,w0⟩:=zcQ (n:=0) l h λk C=>z.2 k W;exact z.1<|by rw[p,qt,xz λi _=>by rw[w0 i W,xaK]]
 ·rw[U (v:=Sum.inl ()) (by
   by_cases h1:0<la
   ·rw[zS,zA]
   ·rw[zA])]
  simp only;have hp:max ((la:zI)-lb+1) 0=(ql:zI):=W
  rw[zb,zb,ze,hp,yU,yM,ze,gY,yh,zb]
  have⟨s,D,hQ⟩:=yb (f:=fK fu) (λs:zI×N G×N G×N G=>∃(n:zV) (Q R:A),n<=ql/\s=((n:zI)-1,zX b,zi la R,zi ql Q)/\DvZ (M a) (M b) Q R la lb n ql K J) (λs=>(s.1+1).toNat)
   (λr=>(∃Q R:A,r=.inl (zi la R,zi ql Q)/\DvZ (M a) (M b) Q R la lb 0 ql K J)\/(r=.inr 4/\¬Zd (M b) (M a))) (by
   rintro s L ⟨n,Q,R,hx,rfl,d⟩ ih
   unfold fK
   simp only
   cases n with
   |zero=>
    rw[zA]
    exact⟨_,O,.inl ⟨Q,R,O,d⟩⟩
   |succ n=>
    have hy:(ql-(n+1))*(J+1)<=(X a+1)*(J+1):=xaf _ W
    have hG:(ql-(n+1))*(J+1)+(J+1)<=(X a+1)*(J+1):=by
     have:=xaf (J+1) (W:ql-(n+1)+1<=X a+1);rw[xaT,xbL]at this;exact this
    have hl:=d.bz
    rw[(W:((n+1:zV):zI)-1=(n:zI)),zS,<-t,zb,(W:(n:zI)+(lb:zI)-1=((n+(lb-1):zV):zI)),zb,zo (by rw[yh];lia),ze,XC W,(W:(lb:zI)-1=((lb-1:zV):zI)),zb,yc,ze]
    have P:=hn.get<|lb-1
    rw[U<|KI ((hl _).okS W) ⟨P.1,by have:=P.2;lia⟩ o,zm,YV,Zy]
    simp only
    have T:=l.1
    have x:exE (R<|n+(lb-1)) (M b<|lb-1)=if R (n+(lb-1))%M b (lb-1)=0 then 0 else 4:=by unfold exE;rw[ir T]
    have V:exI (R<|n+(lb-1)) (M b<|lb-1)=if R (n+(lb-1))%M b (lb-1)=0 then R (n+(lb-1))/M b (lb-1)else 0:=by unfold exI;rw[ir T]
    by_cases hd:R (n+(lb-1))%M b (lb-1)=0
    ·rw[S hd]at x V
     have⟨c,Y⟩:∃c,c=R (n+(lb-1))/M b (lb-1):=⟨_,O⟩
     have hc:R (n+(lb-1))=c*M b (lb-1):=by rw[Y,xeL<|xaA hd]
     have hA:Bz (K+(ql-(n+1))*(J+1)) c:=(hl<|n+(lb-1)).le (by
      rw[hc,xcK];exact xcl _ W)
     rw[x,V,<-Y,S O,zo (by rw[yh];lia),ze,iC,U<|zqX hn t.symm W W hl hA W o]
     simp only
     rw[zb]
     have D:=d.step l hx hc y.bz
     have e:(λk=>R k-c*sh (M<|zX b) n k)=λk=>R k-c*sh (M b) n k:=by rw[show M (zX b)=M b from wu (Zy b)]
     rw[e]
     exact ih _ ⟨n,_,_,W,O,D⟩ (by show((n:zI)-1+1).toNat<(((n+1:zV):zI)-1+1).toNat;lia)
    ·rw[ir hd]at x
     rw[x,ir YL]
     refine⟨_,O,.inr ⟨O,λu=>hd ?_⟩⟩
     have E:Zd (M b) R:=by
      have e:R=(M a:A)-Q*M b:=wu λk=>by
       have:=vN d.eq k;rw[zG]at this;rw[yT];lia
      rw[e];exact u.sub ⟨Q,⟨ql,d.q2⟩,O⟩
     have⟨w,p,w0⟩:=zcQ (n:=n+1) l E d.r
     have:=KH (f:=w) (g:=M b) (n:=n) (m:=lb-1) (λk C=>w0 k W) l.2
     rw[<-p]at this
     rw[this,Int.mul_emod_left]) fu ((ql:zI)-1,zX b,zX a,zi ql λ_=>0) ⟨ql,λ_=>0,M a,eZ _,by rw[u],⟨wu λk=>by
    rw[zG,qt,xz λi _=>xaK _,xco],λ_ _=>O,λ_ _=>O,λk C=>by
    by_cases e:la=0
    ·exact VT W k
    ·rw[<-Zy];exact zY W,λk=>(H.bz k).mono W,λk=>Bz.zero _⟩⟩ (by show((ql:zI)-1+1).toNat<fu;lia)
  rw[U D];rcases hQ with⟨Q,R,rfl,d⟩|⟨rfl,hB⟩
  ·have hy:(ql-0)*(J+1)<=(X a+1)*(J+1):=xaf _ W;have hC:yQ 30000 (zi la R):=Y6 λj=>(d.bz j).mono W;have hD:yQ 30000 (zi ql Q):=Y6 λj=>(d.bq j).mono W;have hv:∀k,la<=k->R k=0:=λk C=>by
    by_cases e:la=0
    ·have h1:=vN d.eq k;rw[zG,qt,xz (n:=k+1) λi _=>by rw[d.q2 i W,xaK],VT W]at h1;lia
    ·exact d.r k W
   simp only;rw[U<|zP hC YL (by rw[yh];lia) o,yh,Cm];by_cases hr:X (xW la R)=0
   ·have F:∀k,R k=0:=λk=>by rw[<-kz hv k];exact zY W
    have hF:(M (xW ql Q):A)=Q:=wu λk=>kz d.q2 k;have he:(M a:A)=M (xW ql Q)*M b:=by
     rw[hF];funext k;have:=vN d.eq k;rw[zG,F k,xby]at this;exact this
    rw[zA,U<|zP hD YL (by rw[yh];lia) o,yh,Cm];refine⟨_,0,O,⟨λ_=>⟨_,Fs.cf _,he⟩,λ_=>O⟩,λ_=>⟨he,(vZ _ _).symm,?_⟩⟩;rw[xJ];have:=qH Q ql;lia
   ·rw[zS];refine⟨[],4,O,⟨λh=>wl h YL,λh=> ?_⟩,λh=>wl h YL⟩;exfalso;have e:R=(M a:A)-Q*M b:=wu λk=>by
     have:=vN d.eq k;rw[zG]at this;rw[yT];lia
    have E:Zd (M b) R:=by
     rw[e];exact h.sub ⟨Q,⟨ql,d.q2⟩,O⟩
    have⟨w,p,w0⟩:=zcQ (n:=0) l E d.r;have F:∀k,R k=0:=λk=>by rw[p,qt,xz λi _=>by rw[w0 i W,xaK]]
    have ht:=XB (vZ la R) hr;rw[kz hv]at ht;exact ht<|F _
  ·exact⟨[],4,O,⟨λh=>wl h YL,λh=>wl h hB⟩,λh=>wl h YL⟩
theorem Ll(c:yQ K a)(d:yQ J b)(e:K<=40000)(f:J<=40000)(hc:X a<=1000)(hd:X b<=1000)(h0:X (zX b)=0)(g:3000000<=fu):wV fu a b=Z ([],3):=by grind [wV,zX,U,zP]
end
section
variable{N fu:zV}{a:zC zI}
def LG.ext{c:K}{b:zC J}(d:LG N c a)(e:LG N c b)(h:∀k,k<c->C a k=C b k):a=b:=by
 rw[<-zga a,<-zga b,d.ln,e.ln];exact yR h
theorem zad{c:K}(hc:c<=1000)(f:3000000<=fu):zg (λL (z:zC J×J)=>
 if z.2<(X (zl c λ_=>0):J)then
  zH z.2 (X z.1) λj=>
  B (z.1.set j z.2) λxs=>
  E (z.2+1) λi=>L (xs,i)
 else Z z.1) fu (zl c λ_=>0,0)=Z (zl c λi=>(i:J)):=by
 refine zt (λs:zC J×J=>∃j:K,j<=c/\s=(zl c (λk=>if k<j then(k:J)else 0),(j:J))) (λs=>c-s.2.toNat) _ ?_ _ _ ⟨0,sB _,?_⟩ (by show c-0<fu;lia)
 ·rintro s L ⟨j,g,rfl⟩ d
  simp only[zF]
  by_cases h1:j<c
  ·rw[zS,zo h1,Q,Zx,zb]
   refine d _ ⟨j+1,W,?_⟩ (by show c-((j:J)+1).toNat<c-(j:J).toNat;lia)
   refine xeX (yR λk b=> ?_) O
   unfold Xg
   by_cases e:k=j
   ·lia
   ·grind
  ·rw[zA]
   obtain rfl:j=c:=W
   exact wF Z<|yR λk b=>S b
 ·exact xeX (yR λk b=>(ir<|xbf k).symm) O
def zci{c:K}(b:LG N c a)(o:N<=1000)(p:3000000<=fu):
 ∃i:J,zg (λL i=>
 if 0<=i then
  zH i (X a) λj=>
  B (a.getD j 0) λy=>
  E ((N:J)-c) λe=>
  E (e+i) λe=>
  if y=e then E (i-1) λi=>L i
  else Z i
 else Z i) fu ((c:J)-1)=Z i/\ -1<=i/\i<c/\(∀j:K,i<j->j<c->C a j+c=N+j)/\∀k:K,i=k->C a k+c<N+k:=by
 have q:c<=N\/c=0:=by
  by_cases h:c=0
  ·lia
  ·have:=b.hi 0 W;have:=b.lo 0 W;exact .inl W
 have⟨r,h1,l⟩:=yb (f:=λL (i:J)=>
  if 0<=i then
   zH i (X a) λj=>
   B (a.getD j 0) λy=>
   E ((N:J)-c) λe=>
   E (e+i) λe=>
   if y=e then E (i-1) λi=>L i
   else Z i
  else Z i) (λi:J=> -1<=i/\i<c/\∀j:K,i<j->j<c->C a j+c=N+j) (λi=>(i+1).toNat) (λi=> -1<=i/\i<c/\(∀j:K,i<j->j<c->C a j+c=N+j)/\∀k:K,i=k->C a k+c<N+k) (by
   rintro i L ⟨i1,i2,d⟩ m;by_cases h0:0<=i
   ·obtain⟨k,rfl⟩:=xat h0;have hd:=b.ln;rw[S h0,yc,Q,zb,zb,YU];by_cases e:C a k=(N:J)-c+k
    ·rw[S e,zb];refine m _ ⟨W,W,λj g hc=> ?_⟩ W;by_cases n:j=k
     ·rw[n];lia
     ·exact d j W hc
    ·rw[ir e];refine⟨_,O,i1,i2,d,λj g=> ?_⟩;obtain rfl:k=j:=W
     have:=b.hi k W;lia
   ·rw[ir h0];exact⟨_,O,i1,i2,d,λj g=>by lia⟩) fu ((c:J)-1) ⟨W,W,λj g hc=>by lia⟩ W
 exact⟨r,h1,l⟩
def zeI{c k:K}(f:LG N c a)(o:N<=1000)(d:k<c)(h1:C a k+c<N+k)(p:3000000<=fu):
 zg (λL (z:J×zC J)=>
 if z.1<(c:J)then
  E (z.1-1) λe=>
  zH e (X z.2) λj=>
  B (z.2.getD j 0) λy=>
  E (y+1) λe=>
  zH z.1 (X z.2) λj=>
  B (z.2.set j e) λxs=>
  E (z.1+1) λi=>L (i,xs)
 else Z z.2) fu ((k:J)+1,a.set k (C a k+1))=Z (nxA c k a):=by
 have q:=f.hi k d;have hc:=f.lo k d;refine zt (λs:J×zC J=>∃j:K,k+1<=j/\j<=c/\s=((j:J),zl c (λi=>if i<k then C a i else if i<j then C a k+1+((i:J)-k)else C a i))) (λs=>c-s.1.toNat) _ ?_ _ _ ⟨k+1,eZ _,d,?_⟩ (by show c-((k:J)+1).toNat<fu;lia)
 ·rintro s L ⟨j,r,t,rfl⟩ l;simp only[zF];by_cases n:j<c
  ·obtain⟨i,rfl⟩:∃i,j=i+1:=⟨j-1,W⟩;rw[zS,(W:((i+1:K):J)-1=(i:J)),zb,yc,Q,jE,zA,zS,zb,zo n,Q,Zx,zb];refine l _ ⟨i+1+1,W,W,?_⟩ (by show c-(((i+1:K):J)+1).toNat<c-((i+1:K):J).toNat;lia);refine xeX O<|yR λm g=> ?_;unfold Xg;by_cases e:m=i+1
   ·rw[S e,zA,zS];lia
   ·rw[ir e];show(if m<k then C a m else if m<i+1 then C a k+1+((m:J)-k)else C a m)=_;by_cases b:m<k
    ·rw[S b,S b]
    ·rw[ir b,ir b];by_cases h:m<i+1
     ·rw[S h,zS]
     ·rw[ir h,zA]
  ·rw[zA];obtain rfl:j=c:=W
   refine wF Z<|yR λm g=> ?_;by_cases b:m<k
   ·rw[S b,S b]
   ·rw[ir b,ir b,S g]
 ·refine xeX (by show(k:J)+1=((k+1:K):J);lia) ?_;show a.set k (C a k+1)=_;conv=>lhs;rw[<-zga a,f.ln]
  rw[Zx];refine yR λm g=> ?_;unfold Xg;by_cases e:m=k
  ·rw[S e,zA,zS,e];rw[show C (zl c<|C a) k=C a k from km d];lia
  ·rw[ir e];by_cases b:m<k
   ·rw[S b]
   ·rw[ir b,zA]
def zdq{X Y:Type}{c:K}{g:zC J->X->V (zC J×(X⊕Y))}{x0:X}{Rej:zC J->Prop}{Acc:zC J->Y->Prop}(hk:1<=c)(hl:c<=N)(hN:N<=10)(E:c<=5)(p:3000000<=fu)(F:∀a,LG N c a->(g a x0=Z (a,.inl x0)/\Rej a)\/∃y v,g a x0=Z (v,.inr y)/\Acc a y):
 (vB fu (c:J) (N:J) g x0=Z (.inl x0)/\∀a,LG N c a->Rej a)\/∃a y,LG N c a/\Acc a y/\vB fu (c:J) (N:J) g x0=Z (.inr y):=by
 have h0:LG N c (zl c λi=>(i:J)):=⟨zF _ _,λi hi=>by rw[km hi];lia,λi hi=>by rw[km hi];lia,λi hi=>by rw[km W,km hi];lia⟩;have G:∀T,LG N c T->¬Lt (C T) (C<|zl c λi=>(i:J)) c:=λT b ⟨j,n,o,_⟩=>by
  rw[km n]at o;have:=b.lo j n;lia
 have H:msr N (C<|zl c λi=>(i:J)) c<fu:=by
  have h1:=znU N (C<|zl c λi=>(i:J)) c;have w:(N+1)^c<=11^5:=PX (Nat.pow_le_pow_left W c)<|xam YL E;lia
 have⟨r,M,P⟩:=yb (f:=λL (q:X×zC J)=>jd fu (c:J) (N:J) g q.1 q.2 (λx xs _ _ _ _ _=>L (x,xs)) (λx _ _ _=>Z (.inl x)) λy _=>Z (.inr y))
  (λs:X×zC J=>s.1=x0/\LG N c s.2/\∀T,LG N c T->Lt (C T) (C s.2) c->Rej T) (λs=>msr N (C s.2) c) (λr:X⊕Y=>(r=.inl x0/\∀a,LG N c a->Rej a)\/∃a y,LG N c a/\Acc a y/\r=.inr y) (by
  rintro⟨x,a⟩ L ⟨z,l,t⟩ R
  simp only at z l t
  subst z
  simp only
  unfold jd
  rcases F a l with⟨e,A⟩|⟨y,v,e,ac⟩
  ·rw[U e]
   simp only[Sum.elim_inl]
   have⟨i,l1,l2,l3,B,l5⟩:=zci l W p
   rw[zb,U l1]
   by_cases hi:i<0
   ·rw[S hi]
    refine⟨_,O,.inl ⟨O,λT b=> ?_⟩⟩
    rcases R6 (C T) (C a) c with h|h|h
    ·rw[b.ext l h];exact A
    ·exact t T b h
    ·exfalso
     have⟨j,n,o,_⟩:=h
     have:=B j W n
     have:=b.hi j n
     lia
   ·obtain⟨k,rfl⟩:=xat (W:0<=i)
    have hn:=l.ln
    have D:=l5 k O
    have ho:=l.lo k W
    rw[ir hi,yc,Q,YU,zb,yc,Q,zb,U<|zeI l W W D p]
    refine R _ ⟨O,l.next W D,λT b u=> ?_⟩ ?_
    ·rcases R6 (C T) (C a) c with h|h|h
     ·rw[b.ext l h];exact A
     ·exact t T b h
     ·exfalso
      simp only at u
      rcases zwb (k:=k) b W (λi hi hc=>B i W hc) h with h6|h6
      ·have⟨j,n,o,_⟩:=u
       rw[h6 j n]at o
       lia
      ·exact u.asy h6
    ·have⟨d,hd⟩:∃d,c=k+1+d:=⟨c-k-1,W⟩
     have:=zmk (N:=N) (f:=C<|nxA c k a) (g:=C a) (j:=k) (λm hm=>by rw[eY,S hm]) W (by rw[eY,zA];lia) (by rw[eY,zA];lia) d
     rw[<-hd]at this
     exact this
  ·rw[U e]
   simp only[Sum.elim_inr]
   exact⟨_,O,.inr ⟨a,y,l,ac,O⟩⟩) fu (x0,zl c λi=>(i:J)) ⟨O,h0,λT b h=>wl h (G T b)⟩ H
 have hM:vB fu (c:J) (N:J) g x0=Z r:=by
  unfold vB;rw[yU,yM,Q,fc,U<|zad W p];exact M
 rw[hM];rcases P with⟨rfl,h⟩|⟨a,y,h1,w,rfl⟩
 ·exact .inl ⟨O,h⟩
 ·exact .inr ⟨a,y,h1,w,O⟩
end
section
variable{a:zC zI}{m x:zI}{xs:zC Lx}{i fu:zV}
def zr4{a:N G}(h:¬m<=0):zlb a m=(qm a m,0):=by unfold zlb;rw[ir h]
theorem GV(a:N G):(yG a).natAbs=QD (M a) (X (zX a)):=by grind [yG]
theorem QJ(a:N G):F (yG a)*(M (xb a):A)=M a:=by grind [zU,Xk,Qn,Int.mul_ediv_cancel']
def Xm{a:N G}(h:X (zX a)≠0):Pm (M<|xb a)/\Po (M<|xb a):=by
 have h0:=sI h;have e:=QJ a;constructor
 ·intro d hd;have h1:(yG a).natAbs*d∣QD (M a) (X (zX a)):=zdT _ λk _=>by
   have b:=vN e k;rw[zU]at b;have c:=xcp.2<|xfE (xej<|yG a)<|hd k;rw[b,xcK,xaW]at c;exact c
  rw[<-GV]at h1;have g:(yG a).natAbs*d∣(yG a).natAbs*1:=by rw[xdl];exact h1
  exact Nat.dvd_one.1<|Nat.dvd_of_mul_dvd_mul_left W g
 ·have f:=Ze h;refine⟨X (zX a)-1,?_,λk j=>by rw[Xk,f.2 k j,xdX]⟩;have b:=vN e<|X (zX a)-1;rw[zU]at b;have c:=f.1;have⟨x,l⟩:∃x,x=M (xb a) (X (zX a)-1):=⟨_,O⟩;rw[<-l]at b⊢;have o:(0:J)<(QD (M a) (X (zX a)):K):=by
   have:=GV a;lia
  have hc:yG a=if M (zX a) (X (zX a)-1)<0 then-((QD (M a) (X (zX a)):K):J)else((QD (M a) (X (zX a)):K):J):=O;rw[Zy]at hc;by_cases hn:M a (X (zX a)-1)<0
  ·rw[S hn]at hc;refine xac λn=> ?_;have:=Int.mul_nonneg_of_nonpos_of_nonpos (W:yG a<=0) (W:x<=0);lia
  ·rw[ir hn]at hc;refine xac λn=> ?_;have:=Int.mul_nonpos_of_nonneg_of_nonpos (W:0<=yG a) (W:x<=0);lia
def jg(a:N G):zX (xb a)=xb a:=(vZ _ _).symm
def zmN(a:N G)(c:0<m)(k:K):M (Eo a m) k=near (M a k) m:=kz (λj b=>by
 rw[zY b];unfold near;rw[xae,zA]) k
def zpv(x:J):near x m%m=x%m:=by
 unfold near;split
 ·simp_all
 ·simp_all
def zq2{y:J}(h:x%m=y%m)(c:2*y.natAbs<m):near x m=y:=by
 unfold near;rw[h];by_cases b:0<=y
 ·rw[xax b W,zA]
 ·have e:y%m=y+m:=by
   rw[<-Int.add_emod_right];exact xax W W
  lia
def sel(xs:N Lx)(a:N J)(c:K):N Lx:=(xaE c).map λi=>xs.getD (C a i).toNat ([],[])
theorem zmV(xs:N Lx)(a:N J)(c:K):sel xs a (c+1)=sel xs a c++[xs.getD (C a c).toNat ([],[])]:=by grind [sel,xdb]
theorem zlO(a b:N Lx):pu (a++b)=pu a*pu b:=by grind [pu,wO]
theorem zet:(xs.map (·.1)).getD i []=(xs.getD i ([],[])).1:=by grind
theorem zbN(h:i<X xs):xs.getD i ([],[])∈xs:=by grind
def zkP{c k:K}{p:J}{f:N G}(hp:wB p=I)(o:1<=k)(q:k<=1000)(u:∀x∈xs,Up p k x.1 x.2/\KT p x.2/\X x.2<=66)(E:X xs<=1000)(b:LG (X xs) c a)(hc:c<=5)(hn:yQ 250 f)(H:0<X f)(P:X f<=66)(d:3000000<=fu):
 ∃t,kV fu f (xs.map (·.1)) a (yf<|p^k)=Z (xb<|Eo t<|p^k,a)/\yQ 250 t/\X t<=1+c*66/\Cg (p^k) (M t) (F (M f<|X f-1)*pu (sel xs a c)):=by
 have⟨R,S⟩:=zp hp;have e:=Gg hp q;have T:=BR hp o;have hd:mI (yf<|p^k):=e.okS YL;have hv:=b.ln
 obtain⟨s,v,t,rfl,t1,t2,t3⟩:=yb (f:=Zw fu (xs.map (·.1)) a<|yf<|p^k) (λs:N G×J×N J=>∃(i:K) (t:N G),i<=c/\s=(t,(i:J),a)/\yQ 250 t/\X t<=1+i*66/\Cg (p^k) (M t) (F (M f<|X f-1)*pu (sel xs a i))) (λs=>c-s.2.1.toNat)
  (λr=>∃t:N G,r=(t,a)/\yQ 250 t/\X t<=1+c*66/\Cg (p^k) (M t) (F (M f<|X f-1)*pu (sel xs a c))) (by
  rintro s L ⟨i,t,hi,rfl,h1,w,g⟩ y
  unfold Zw
  simp only
  by_cases h:i<c
  ·have V:=b.lo i h
   have Y:=b.hi i h
   have⟨j,l⟩:=xat (W:0<=C a i)
   have A:=zbN (xs:=xs) (i:=j) W
   have⟨n,hI,hl⟩:=u _ A
   have hy:=n.len
   rw[zS,U O]
   simp only[wN]
   rw[yc,Q,YU,l,zo (by rw[xaV];lia),Q,zet,U<|Lh h1 n.rd.ok W W hd d,zm,zr4 W]
   simp only
   rw[zb]
   have l1:=W8 (xe t (xs.getD j ([],[])).1)<|p^k
   have l2:=jC t (xs.getD j ([],[])).1
   refine y _ ⟨i+1,_,W,O,ie e W,W,?_⟩ (by show c-((i:J)+1).toNat<c-(i:J).toNat;lia)
   refine(W0 _ _).trans ?_
   rw[qh,zmV,zlO,l,xaJ,<-zd]
   refine g.mul<|Cg.of ?_
   exact(yp _).symm
  ·rw[zA,U O]
   simp only[xaj,wP]
   obtain rfl:i=c:=W
   exact⟨_,O,t,O,h1,w,g⟩) fu (f.drop (X f-1),0,a) ⟨0,_,sB _,O,λz B=>hn z (xfw B),by rw[xca];lia,by
   rw[zbT]
   refine Cg.of<|funext λj=> ?_
   rw[show sel xs a 0=[]from O,show pu []=F 1 from O,yp]
   cases j with
   |zero=>rfl
   |succ j=>exact zY (p:=[f.getD (X f-1) (yL,[])]) Xn⟩ (by show c-(0:J).toNat<fu;lia)
 refine⟨t,?_,t1,t2,t3⟩;unfold kV;rw[(W:(X f:J)-1=((X f-1:K):J)),zb,yU,yM,Q,U v];simp only;have D:yQ 250 (Eo t<|p^k):=yF λj=>Bz.near e W;have hA:X (Eo t<|p^k)<=X t:=by unfold Eo;rw[xJ];exact qH _ _
 rw[U<|GA t1 YL hd W d,zm];unfold zg4;rw[zA];simp only;rw[U<|jR D YL W d]
def zf5(hl:X a<=1000)(p:3000000<=fu):wA fu a x=Z (decide<|x∈a,a):=by
 unfold wA jK;have⟨s,g,l⟩:=yb (f:=qK fu a x) (λi:J=>0<=i/\i<=X a/\∀j:K,j<i->C a j≠x) (λi=>(X a-i).toNat) (λr:wW⊕J=>(r=.inl ()/\¬x∈a)\/∃i:K,r=.inr (i:J)/\x∈a) (by
  rintro i L ⟨i1,i2,d⟩ n;obtain⟨k,rfl⟩:=xat i1;unfold qK;by_cases h1:k<X a
  ·rw[zS,zo h1,Q,YU];by_cases b:x=C a k
   ·rw[S b];refine⟨_,O,.inr ⟨k,O,?_⟩⟩;rw[b,<-YU,Yh,xaa h1];simp_all
   ·rw[ir b,zb];refine n _ ⟨W,W,λj c=> ?_⟩ W;by_cases e:j=k
    ·rw[e];exact λh=>b h.symm
    ·exact d j W
  ·rw[zA];refine⟨_,O,.inl ⟨O,λo=> ?_⟩⟩;have⟨j,c,e⟩:=xdF.1 o;refine d j W ?_;rw[<-YU,Yh,xaa c];exact e) fu 0 ⟨W,W,λj c=>by lia⟩ W
 rw[g];rcases l with⟨rfl,h⟩|⟨i,rfl,h⟩
 ·rw[wS h];rfl
 ·rw[wU h];show(if(0:J)<=(i:J)then Z (I,a)else Z (yL,a))=Z (I,a);rw[zS]
def zcf{us:N (N G)}(hl:X us<=1000)(d:X a<=1000)(e:3000000<=fu):
 wb fu us a=Z (((xaE (X us)).filter λi:K=> !decide ((i:J)∈a)).map λi=>us.getD i [],a):=by
 unfold wb;rw[U (v:=(((xaE (X us)).filter λi:K=> !decide ((i:J)∈a)).map λi=>us.getD i [],a))];refine zt (λs:N (N G)×J×N J=>∃j:K,j<=X us/\s=(((xaE j).filter λi:K=> !decide ((i:J)∈a)).map λi=>us.getD i [],(j:J),a)) (λs=>X us-s.2.1.toNat) _ ?_ _ _ ⟨0,sB _,O⟩ (by show X us-0<fu;lia);rintro s L ⟨j,f,rfl⟩ c;unfold ZF;simp only;by_cases h1:j<X us
 ·rw[zS,U O];simp only[wN];rw[zo h1,Q,U<|zf5 d e];simp only;have g:X ((xaE j).filter λi:K=> !decide ((i:J)∈a))<=j:=PX (xfs _ _) (by rw[xeg];exact eZ j);by_cases b:(j:J)∈a
  ·rw[wU b,ir YL,zb];refine c _ ⟨j+1,W,?_⟩ (by show X us-((j:J)+1).toNat<X us-(j:J).toNat;lia);rw[xdb,List.filter_append,xeW (by rw[wU b];decide),List.filter_nil,xbN];rfl
  ·rw[wS b,S YL,xi (by rw[xaV];simp only[xar,xbA];lia),Q,zb];refine c _ ⟨j+1,W,?_⟩ (by show X us-((j:J)+1).toNat<X us-(j:J).toNat;lia);rw[xdb,List.filter_append,xeV (by rw[wS b];decide),List.filter_nil,xaU];rfl
 ·rw[zA,U O];simp only[xaj,wP];obtain rfl:j=X us:=W
  rfl
end
end Go.Proofs.YtdpdofimolhigaaGreat
