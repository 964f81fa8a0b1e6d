/- What a proof needs: rules of walking, mirrors of functions and their plain laws. No condition. -/
import Derived.Test.YtmggkmchbdanfaaGreatZf4
set_option linter.all false
namespace Go.Proofs.YtmggkmchbdanfaaGreat
open Bool renaming true->I,false->wL
open Go renaming Func->QR
open Go.Proofs.YtmggkmchbdanfaaGreat renaming Zr->M,bd->G,za->Y,nm->C,cC->B,ze->Q,zf->E,nv->A
open List renaming length->X,length->i7
open Nat renaming beq->F
open Option renaming some->Z
open _root_ renaming rfl->O,List->N,Int->J,Nat->K,Option->V,List->xS,Int->wl,Nat->wr,Option->ww,trivial->wR,absurd->wS,Bool->v6,funext->qR,if_true->uP,if_false->uS,decide_eq_false->uT,decide_eq_true->Z0,True->Z5,of_decide_eq_true->Wf,congrFun->Wr,Decidable->WL,False->V3,if_pos->aM
open Bool renaming false_eq_true->xar
open Classical renaming byContradiction->xai,not_forall->xfI,not_imp->xfr
open Int renaming add_emod->xdx,add_zero->xbF,dvd_mul_left->xcL,dvd_mul_right->xcl,dvd_of_emod_eq_zero->xaF,dvd_refl->xet,dvd_sub->xdp,dvd_trans->xbx,dvd_zero->xdy,emod_add_mul_ediv->xfB,emod_emod->xaE,emod_emod_of_dvd->xcC,emod_eq_emod_iff_emod_sub_eq_zero->xaI,emod_eq_of_lt->xaD,emod_eq_zero_of_dvd->xav,emod_lt_of_pos->xdD,emod_nonneg->xcI,eq_ofNat_of_zero_le->xaz,fdiv->xeP,le_of_lt->xdz,le_refl->xft,mul_add->xfs,mul_assoc->xct,mul_comm->xbg,mul_dvd_mul->xfP,mul_emod->xbc,mul_eq_zero->xeK,mul_le_mul_of_nonneg_right->xbn,mul_nonneg->xcz,mul_one->xck,mul_zero->xaC,natAbs_dvd_natAbs->xcp,natAbs_mul->xcK,natAbs_natCast->xbb,natCast_add->xff,natCast_dvd_natCast->xdN,natCast_nonneg->xdg,one_mul->xcv,pow_succ->xbr,pow_zero->xbI,sub_emod->xfA,sub_self->xdP,sub_zero->xcB,tdiv->xcw,tdiv_eq_ediv_of_nonneg->xcO,tmod->xbE,toNat_natCast->xaN,toNat_of_nonneg->xcZ,zero_add->xco,zero_ediv->xef,zero_emod->xah,zero_mul->xaP
open List renaming append_assoc->xao,cons_append->xbL,drop->xdI,drop_eq_getElem_cons->xcb,drop_eq_nil_of_le->xbW,eq_nil_of_length_eq_zero->xbe,ext_getElem->xeQ,ext_getElem?->xcy,getD_cons_succ->xdo,getD_eq_getElem?_getD->xaa,getElem?_eq_getElem->xak,getElem?_eq_none->xbP,getElem?_take->xce,getElem_mem->xcd,length_append->xaq,length_cons->xaw,length_drop->xcf,length_eq_zero_iff->xbv,length_nil->xbR,length_range->xep,length_replicate->xaT,length_set->xbt,length_take->xas,map_append->xba,map_congr_left->xci,mem_append->So,mem_cons->xag,mem_cons_of_mem->UV,mem_cons_self->FS,mem_iff_getElem->xdK,mem_map->xap,mem_of_mem_drop->xfH,mem_of_mem_take->xel,mem_or_eq_of_mem_set->xcS,mem_range->xbd,mem_singleton->xad,nil_append->xbH,not_mem_nil->H1,pairwise_append->xdi,pairwise_iff_getElem->xcT,range->xaY,range_succ->xdv,replicate->Nm,replicate_succ->xdQ,set_cons_succ->xfd,take->xdu,take_add_one->xfq,take_append_drop->xbA,take_length->xcJ,take_of_length_le->xaW,take_succ_cons->xeu
open Nat renaming add_assoc->xcM,add_comm->xdO,add_mul->xaX,add_mul_div_left->xcA,add_mul_mod_self_left->xcr,add_sub_cancel->xec,add_zero->xbO,div_add_mod->xbp,div_div_eq_div_mul->xaG,div_eq_of_lt->xbi,div_le_self->xcE,div_lt_iff_lt_mul->xaS,div_mul_le_self->xcH,div_one->xdU,eq_zero_of_not_pos->xfk,eq_zero_or_pos->xbV,gcd->xdX,gcd_comm->xee,le_add_right->xbw,le_antisymm->xcG,le_div_iff_mul_le->xcn,le_max_left->xdV,le_max_right->xdG,le_mul_of_pos_left->xdm,le_of_lt->xdw,le_of_not_lt->xbs,le_refl->IR,le_succ->xbD,le_trans->xae,lt_of_le_of_lt->xaK,lt_of_lt_of_le->xaj,lt_of_not_le->xdk,lt_or_ge->xbS,lt_trans->xeZ,min_eq_left->xcF,mod_add_div->xeo,mod_eq_of_lt->xam,mod_lt->xaM,mul_add->xcj,mul_assoc->xbl,mul_comm->xaL,mul_div_mul_right->xfz,mul_le_mul->xbM,mul_le_mul_left->xaA,mul_le_mul_right->xan,mul_left_comm->xfp,mul_lt_mul''->xdF,mul_lt_mul_of_pos_right->xbT,mul_mod_mul_right->xed,mul_one->xdn,mul_zero->xcQ,not_lt_zero->xbC,one_mul->xbN,pos_of_ne_zero->xcD,pow_add->xbu,pow_le_pow_right->xau,pow_lt_pow_right->xdJ,pow_mul->xbX,pow_pos->xaV,pow_succ->xbq,pow_succ'->xdM,pow_zero->xeJ,strongRecOn->xdc,sub_le->xeY,sub_self->xdb,zero_add->xaJ,zero_le->xac,zero_mul->xcx
section
variable{x k fu:wr}{r a b l d:xS wr}
def nw:N K->K
 |[]=>0
 |x::r=>x+4294967296*nw r
def kY:K->K->N K
 |0,_=>[]
 |k+1,n=>n%4294967296::kY k (n/4294967296)
def oV:K->K->N K
 |0,_=>[]
 |f+1,n=>if n=0 then[]else n%4294967296::oV f (n/4294967296)
def VF(n:K):N K:=oV n n
def Ht:N K->N K
 |[]=>[]
 |x::r=>match Ht r with
  |[]=>if x=0 then[]else[x]
  |y::s=>x::y::s
def xi(l:N K):Prop:=∀x∈l,x<4294967296
def xi.nil:xi []:=λx c=>wS c H1
def xi.cons(h:x<4294967296)(c:xi r):xi (x::r):=λy hy=>by
 obtain rfl|hy:=xag.1 hy
 ·exact h
 ·exact c y hy
def xi.head(h:xi (x::r)):x<4294967296:=h x<|FS
def xi.tail(h:xi (x::r)):xi r:=λy c=>h y<|UV _ c
def xi.append(c:xi a)(e:xi b):xi (a++b):=λx f=>by
 obtain h|h:=So.1 f
 ·exact c x h
 ·exact e x h
theorem xi.take{a:N K}(h:xi a)(k:K):xi (a.take k):=λx c=>h x<|xel c
def xi.getD{a:N K}(h:xi a)(k:K):a.getD k 0<4294967296:=by
 rw[xaa];by_cases c:k<X a
 ·rw[xak c];exact h _<|xcd c
 ·simp_all
def LY:nw []=0:=O
def kR(x:K)(r:N K):nw (x::r)=x+4294967296*nw r:=O
theorem gY:∀(a b:N K),nw (a++b)=nw a+4294967296^X a*nw b
 |[],b=>by simp[nw]
 |x::a,b=>by
  rw[xbL,kR,gY a b,kR];grind
def Nn:∀k,nw (Nm k 0)=0
 |0=>rfl
 |k+1=>by rw[xdQ,kR,Nn k]
def QC:∀{l:N K},xi l->nw l<4294967296^X l
 |[],_=>by simp[nw]
 |x::r,h=>by
  have h1:=h.head;have c:=QC h.tail;rw[kR,xaw];omega
theorem BY(l:N K)(x:K):nw (l++[x])=nw l+4294967296^X l*x:=by
 rw[gY,kR,LY];simp
theorem yX:∀k n,X (kY k n)=k
 |0,_=>rfl
 |k+1,n=>by rw[kY,xaw,yX]
theorem q7:∀k n,xi (kY k n)
 |0,_=>xi.nil
 |k+1,n=>xi.cons (xaM _ iI)<|q7 k _
theorem Xv:∀k n,nw (kY k n)=n%4294967296^k
 |0,n=>by simp[kY,nw,Nat.mod_one]
 |k+1,n=>by rw[kY,kR,Xv k,xbq,xaL<|4294967296^k,Nat.mod_mul]
def bj:∀{l:N K},xi l->kY (X l) (nw l)=l
 |[],_=>rfl
 |x::r,h=>by
  have h1:=h.head;rw[xaw,kY,kR,xcr,xam h1,xcA _ _ iI,xbi h1,xaJ,bj h.tail]
def DR(c:xi a)(e:xi b)(hl:X a=X b)(h:nw a=nw b):a=b:=by
 rw[<-bj c,<-bj e,hl,h]
def tw:∀k,kY k 0=Nm k 0
 |0=>rfl
 |k+1=>by rw[kY,tw k,xdQ]
def tI:∀k n,kY (k+1) n=kY k n++[n/4294967296^k%4294967296]
 |0,n=>by simp[kY]
 |k+1,n=>by rw[kY,tI k,kY,xbL,xaG,<-xdM]
def Iz:∀(k n i:K),i<k->(kY k n).getD i 0=n/4294967296^i%4294967296
 |0,_,_,h=>by omega
 |k+1,n,0,_=>by simp[kY]
 |k+1,n,i+1,h=>by rw[kY,xdo,Iz k _ i ii,xaG,<-xdM]
def HQ:∀f n,xi (oV f n)
 |0,_=>xi.nil
 |f+1,n=>by
  rw[oV];split
  ·exact xi.nil
  ·exact xi.cons (xaM _ iI)<|HQ f _
def qC(n:K):xi (VF n):=HQ n n
def zbr:∀f n,n<=f->nw (oV f n)=n
 |0,n,h=>by rw[oV,LY];omega
 |f+1,n,h=>by
  rw[oV];split
  ·rename_i h0;rw[LY,h0]
  ·rename_i h0;have c:n/4294967296<=f:=ii
   rw[kR,zbr f _ c,xeo]
def qY(n:K):nw (VF n)=n:=zbr n n<|IR _
def zbv:∀f f' n,n<=f->n<=f'->oV f n=oV f' n
 |0,f',n,h,c=>by
  have:n=0:=ii
  subst this;cases f'<;>simp[oV]
 |f+1,0,n,h,c=>by
  have:n=0:=ii
  subst this;rfl
 |f+1,f'+1,n,h,c=>by
  rw[oV,oV];split
  ·rfl
  ·rename_i h0;rw[zbv f f' _ ii ii]
theorem fH:VF 0=[]:=O
theorem r9{n:K}(h:0<n):VF n=n%4294967296::VF (n/4294967296):=by
 have e:VF n=oV ((n-1)+1) n:=by unfold VF;congr 1;omega
 rw[e,oV,zA];congr 1;exact zbv _ _ _ ii ii
theorem zek{n:K}(h0:0<n)(h:n<4294967296):VF n=[n]:=by grind [r9,fH]
def zko{n:K}:VF n=[]↔n=0:=by
 constructor
 ·intro h;rw[<-qY n,h];rfl
 ·rintro rfl;rfl
def P4{n:K}(h:0<n):0<X (VF n):=by rw[r9 h,xaw];omega
def ve:∀(k n:K),X (VF n)<=k↔n<4294967296^k
 |0,n=>by rw[Nat.le_zero,xbv,zko];simp
 |k+1,n=>by
  by_cases h:n=0
  ·subst h;simp[fH];exact xaV iI
  ·rw[r9 ii,xaw,Nat.add_le_add_iff_right,ve k,xaS iI,xbq]
def lK:∀(l:N K) (k:K),k+1=X l->l.getD k 0≠0->Ht l=l
 |[],_,h,_=>by simp at h
 |[x],0,_,h=>by simp at h;simp[Ht,h]
 |[x],k+1,h,_=>by simp at h
 |x::y::r,0,h,_=>by simp at h
 |x::y::r,k+1,h,h0=>by
  have:=lK (y::r) k (by simpa using h) (by simpa using h0);simp only[Ht]at this⊢;rw[this]
theorem zk2(l:N K)(k:K)(h:k+1=X l)(h0:l.getD k 0=0):l=l.take k++[0]:=by grind [xbA,xcb]
theorem SM:∀{l:N K},xi l->Ht l=VF (nw l)
 |[],_=>rfl
 |x::r,h=>by
  have c:=SM h.tail;have e:=h.head;rw[Ht,c,kR];by_cases f:nw r=0
  ·rw[f,fH];by_cases h0:x=0
   ·simp[h0,fH]
   ·simp only[h0,uS,xcQ,xbO];rw[zek ii e]
  ·have e1:=r9 (n:=nw r) ii;have g:=r9 (n:=x+4294967296*nw r) ii;grind
theorem Pq(hl:xi l)(h:l=[]\/l.getD (X l-1) 0≠0):VF (nw l)=l:=by
 rw[<-SM hl];obtain rfl|h:=h
 ·rfl
 ·cases hn:X l with
  |zero=>rw[xbe hn];rfl
  |succ k=>exact lK l k hn.symm<|by rw[hn]at h;exact h
def NM(hl:xi l)(k:K):nw (l.take k)=nw l%4294967296^k:=by
 by_cases c:k<=X l
 ·have e:=gY (l.take k)<|l.drop k;rw[xbA,xas,xcF c]at e;have:=QC<|hl.take k;rw[xas,xcF c]at this;rw[e,xcr,xam this]
 ·rw[xaW ii,xam];exact xaj (QC hl)<|xau iI ii
def zck(hl:xi l)(k:K):nw (l.drop k)=nw l/4294967296^k:=by
 by_cases c:k<=X l
 ·have e:=gY (l.take k)<|l.drop k;rw[xbA,xas,xcF c]at e;have:=QC<|hl.take k;rw[xas,xcF c]at this;rw[e,xcA _ _ (xaV iI),xbi this,xaJ]
 ·rw[xbW ii,LY,xbi];exact xaj (QC hl)<|xau iI ii
def aI:∀{l:N K},xi l->∀k,l.getD k 0=nw l/4294967296^k%4294967296
 |[],_,k=>by simp[nw]
 |x::r,h,0=>by rw[List.getD_cons_zero,kR,xdU,xcr,xam h.head]
 |x::r,h,k+1=>by rw[xdo,aI h.tail k,kR,xdM,<-xaG,xcA _ _ iI,xbi h.head,xaJ]
def zfC(h:xi a):a.take (X (VF<|nw a))=VF (nw a):=by
 have c:=(ve _ _).2<|QC h;refine DR (h.take _) (qC _) (by rw[xas];omega) ?_;rw[NM h,qY];exact xam<|(ve _ _).1<|IR _
theorem Fj(k:K):(4294967296:K)^(2*k)=18446744073709551616^k:=by grind [xbX]
def zir(k:K):(4294967296:K)^(2*k+1)=18446744073709551616^k*4294967296:=by
 rw[xbq,Fj]
theorem kL(l:N K):∀k,nw (l.take<|k+1)=nw (l.take k)+4294967296^k*l.getD k 0:=by
 induction l with
 |nil=>intro k;simp[nw]
 |cons x r c=>
  intro k
  cases k with
  |zero=>simp[nw]
  |succ k=>
   rw[xeu,kR,c k,xeu,kR,xdo,xbq,xcj];rw[xaL (4294967296^k) 4294967296,xbl,xcM]
def L7(c:k+1<=X a)(h0:a.getD k 0=0):nw (a.take k)=nw (a.take<|k+1):=by
 rw[kL,h0];simp
theorem LJ(h:xi a)(c:k+1<=X a)(h0:a.getD k 0≠0):VF (nw<|a.take<|k+1)=a.take (k+1):=by grind [Pq,xi.take]
def zdA(h:xi l):X (VF<|nw l)<=X l:=(ve _ _).2<|QC h
theorem NN:∀(o:N K) (j v:K),j<X o->nw (o.set j v)+4294967296^j*o.getD j 0=nw o+4294967296^j*v
 |[],j,v,h=>by simp at h
 |x::r,0,v,h=>by simp[nw];omega
 |x::r,j+1,v,h=>by
  have c:=NN r j v (by simpa using h);rw[xfd,kR,kR,xdo,xbq,xaL<|4294967296^j,xbl,xbl];omega
def xi.set{o:N K}(h:xi o)(j:K){v:K}(hv:v<4294967296):xi (o.set j v):=λx c=>by
 obtain h1|h1:=xcS c
 ·exact h x h1
 ·omega
theorem Kf(h:xi a)(hl:X a<=1099511627776)(m:X a<fu):Y9 fu a=Z (VF<|nw a):=by
 unfold Y9;have f:=zdA h;rw[Y (v:=(X (VF<|nw a):J)),yJ,xr f,Q,zfC h];refine zw (λi:J=>0<=i/\i<=X a/\nw (a.take i.toNat)=nw a) (λi=>i.toNat) _ ?_ _ _ ⟨ii,ii,iP⟩ ii;rintro i L ⟨h0,h1,hn⟩ g;obtain⟨k,rfl⟩:=xaz h0;unfold ll;simp only[xaN]at*
 by_cases e:0<(k:J)
 ·obtain⟨j,rfl⟩:∃j,k=j+1:=⟨k-1,ii⟩;have e1:((j+1:K):J)-1=(j:J):=ii
  rw[iq e,e1,zb,yj,Q];by_cases c:a.getD j 0=0
  ·rw[iq (by rw[c]),zb];refine g _ ⟨ii,ii,?_⟩ ii;rw[xaN,L7 ii c,hn]
  ·rw[zA,<-hn,LJ h ii c,xas];grind
 ·rw[ir e,<-hn];have:k=0:=ii
  subst this;rfl
def zhm(h:zm a)(c:k<X a):kY (2*k) (A a)++[a.getD k 0 &&& 4294967295,a.getD k 0/2^32]=kY (2*(k+1)) (A a):=by
 rw[(ii:2*(k+1)=(2*k+1)+1),tI,tI,xao,Kv h,Da];congr 1;rw[zir,Fj,<-xaG];congr 1
 ·omega
 ·congr 1;omega
theorem PF(h:zm a)(hl:X a<=4294967296)(e:2*X a<fu):zg (Wk fu a) fu ([],0)=Z (kY (2*X a)<|A a):=by
 refine zw (λs:N K×J=>∃k:K,k<=X a/\s=(kY (2*k)<|A a,(k:J))) (λs=>X a-s.2.toNat) _ ?_ _ _ ⟨0,ii,O⟩ (by show X a-0<fu;omega);rintro s L ⟨k,f,rfl⟩ c;unfold Wk;simp only;by_cases h1:k<X a
 ·rw[zP,zp h1,Q,Q,zp h1,Q,Q,EC,xr (by simp only[yX,xaw,xbR];omega),Q,zb,zhm h h1];exact c _ ⟨k+1,ii,O⟩ (by show X a-((k:J)+1).toNat<X a-(k:J).toNat;omega)
 ·grind
theorem xT(h:zm a)(hl:X a<=4294967296:=by omega)(c:2*X a<fu:=by omega):xz fu a=Z (VF<|A a):=by grind [xz,Fj,qm,Y,PF,Kf,q7,yX,Xv,xam]
def zda(h:xi d)(k:K):d.getD (2*k) 0+d.getD (2*k+1) 0*2^32=nw d/18446744073709551616^k%18446744073709551616:=by
 rw[aI h,aI h,zir,<-xaG,Fj];omega
def za2{n:K}(h:xi d)(hl:X d<=4294967296)(hn:n=(X d+1)/2)(j:X d+1<fu):zg (VY fu d) fu ([],0)=Z (vu n<|nw d):=by
 refine zw (λs:N K×J=>∃k:K,k<=n/\s=(vu k<|nw d,2*(k:J))) (λs=>2*n-s.2.toNat) _ ?_ _ _ ⟨0,ii,O⟩ (by show 2*n-0<fu;omega);rintro s L ⟨k,m,rfl⟩ c;unfold VY;simp only;have f:2*(k:J)=((2*k:K):J):=ii
 have hp:=zda h k;by_cases h1:2*k<X d
 ·have d0:=h.getD<|2*k;have d1:=h.getD<|2*k+1;rw[f,zP,zp h1,Q,zb];have g:((2*k:K):J)+1=((2*k+1:K):J):=ii
  have e:((2*k:K):J)+2=2*((k+1:K):J):=ii
  by_cases i:2*k+1<X d
  ·rw[zP,zb,g,zp i,Q,EC,Q,Q,xr (by simp only[yc,xaw,xbR];omega),Q,zb,e];refine c _ ⟨k+1,ii,?_⟩ (by show 2*n-(2*((k+1:K):J)).toNat<2*n-(((2*k:K):J)).toNat;omega);rw[UR,<-hp,xam ii,xam ii]
  ·rw[zA,xr (by simp only[yc,xaw,xbR];omega),Q,zb,e];refine c _ ⟨k+1,ii,?_⟩ (by show 2*n-(2*((k+1:K):J)).toNat<2*n-(((2*k:K):J)).toNat;omega);have z:d.getD (2*k+1) 0=0:=by rw[xaa,xbP ii];rfl
   rw[z,xcx,xbO]at hp;rw[UR,<-hp]
 ·rw[zA];obtain rfl:k=n:=ii
  rfl
def ku(h:xi d)(hl:X d<=4294967296)(c:X d+1<fu):qt fu d=Z (yD<|nw d):=by
 unfold qt;have⟨n,hn⟩:∃n,n=(X d+1)/2:=⟨_,O⟩;have e:nw d<18446744073709551616^n:=by
  rw[<-Fj];exact xaj (QC h)<|xau iI ii
 rw[Y<|za2 h hl hn c,Y (Qz (wm _ _) (by rw[yc];omega)<|by rw[yc];omega),kK,xam e]
end
section
variable{o y x a b:xS wr}{i m fu:wr}
theorem zdh{T k x c:K}(d:i+k<X o)(h:nw o+4294967296^(i+k)*c=T+4294967296^i*(x*nw (y.take k))):
 nw (o.set (i+k)<|(x*y.getD k 0+o.getD (i+k) 0+c)%4294967296)+4294967296^(i+(k+1))*((x*y.getD k 0+o.getD (i+k) 0+c)/4294967296)=T+4294967296^i*(x*nw (y.take<|k+1)):=by grind [NN,kL,xcj,xfp,xbl,xeo]
def zdu(c:xi o){j v:K}(d:j<m)(hv:v<4294967296)(h:nw o<4294967296^m):nw (o.set j v)<4294967296^m:=by
 have e:(o.set j v).drop m=o.drop m:=List.drop_set_of_lt d;have h1:=zck (c.set j hv) m;have f:=zck c m;rw[e,f,xbi h]at h1;have hp:0<4294967296^m:=xaV iI;rcases xbS (nw<|o.set j v) (4294967296^m)with h3|h3
 ·exact h3
 ·have:=Nat.div_pos h3 hp;lia
def TW(c:xi o)(h:nw o<4294967296^m):o.getD m 0=0:=by
 rw[aI c,xbi h]
def zhu{x y o c:K}(d:x<4294967296)(e:y<4294967296)(f:o<4294967296)(hc:c<4294967296):x*y+o+c<18446744073709551616:=by
 have:x*y<=4294967295*4294967295:=xbM W W;lia
def Nr{n:K}{o0:N K}(j:xi x)(l:xi y)(hi:i<X x)(hn:n=X x+X y)(w:n<=4294967296)(h0:xi o0)(p:X o0=n)(q:nw o0=nw (x.take i)*nw y)(hl:nw o0<4294967296^(i+X y))(A:X y<fu):
 zg (Ur fu (i:J)) fu (x,y,0,0,o0)=Z (x,y,nw (x.take<|i+1)*nw y/4294967296^(i+X y),kY n<|nw (x.take<|i+1)*nw y%4294967296^(i+X y)):=by
 refine zw (λs:N K×N K×K×J×N K=>∃(c k:K) (o:N K),s=(x,y,c,(k:J),o)/\k<=X y/\c<4294967296/\xi o/\X o=n/\nw o<4294967296^(i+X y)/\nw o+4294967296^(i+k)*c=nw o0+4294967296^i*(x.getD i 0*nw (y.take k)))
  (λs=>X y-s.2.2.2.1.toNat) _ ?_ _ _ ⟨0,0,o0,O,W,W,h0,p,hl,by simp[nw]⟩ (by show X y-0<fu;lia)
 rintro s L ⟨c,k,o,rfl,B,hc,d,h,hd,f⟩ r;unfold Ur;simp only;by_cases h1:k<X y
 ·have e:(i:J)+(k:J)=((i+k:K):J):=W
  have bx:=j.getD i;have g:=l.getD k;have t:=d.getD<|i+k;have C:=zhu bx g t hc;rw[zP,zp hi,Q,zp h1,Q,Q,e,zb,yj,Q,Q,Q,zb,Q,Da,yj,Q,Q,EC,zb];have u:((x.getD i 0*y.getD k 0%18446744073709551616+o.getD (i+k) 0)%18446744073709551616+c)%18446744073709551616=x.getD i 0*y.getD k 0+o.getD (i+k) 0+c:=by
   generalize x.getD i 0*y.getD k 0=z at*
   lia
  rw[u];refine r _ ⟨_,k+1,_,O,W,?_,d.set _ (xaM _ iI),by rw[xbt,h],zdu d W (xaM _ iI) hd,zdh W f⟩ (by show X y-((k:J)+1).toNat<X y-(k:J).toNat;lia);generalize x.getD i 0*y.getD k 0+o.getD (i+k) 0+c=z at*
  lia
 ·rw[zA];obtain rfl:k=X y:=W
  rw[xcJ,q]at f;have v:nw (x.take<|i+1)*nw y=nw (x.take i)*nw y+4294967296^i*(x.getD i 0*nw y):=by rw[kL,xaX,xbl]
  rw[<-v]at f;have hp:0<4294967296^(i+X y):=xaV iI;rw[<-f,xcA _ _ hp,xbi hd,xcr,xam hd,xaJ];have:=bj d;rw[h]at this;rw[this]
def TT(c:xi x)(k:K):nw (x.take k)<4294967296^k:=by
 rw[NM c];exact xaM _<|xaV iI
def th(c:xi x)(d:xi y)(k:K):nw (x.take k)*nw y<4294967296^(k+X y):=by
 rw[xbu];exact xdF (TT c k)<|QC d
def Og{n:K}(c:xi x)(d:xi y)(hn:n=X x+X y)(h:n<=4294967296)(t:n<fu):
 zg (Ub fu x y) fu (0,kY n 0)=Z (kY n<|nw x*nw y):=by
 refine zw (λs:J×N K=>∃k:K,k<=X x/\s=((k:J),kY n<|nw (x.take k)*nw y)) (λs=>X x-s.1.toNat) _ ?_ _ _ ⟨0,W,by simp[nw]⟩ (by show X x-0<fu;lia);rintro s L ⟨k,u,rfl⟩ j;unfold Ub;simp only;by_cases h1:k<X x
 ·have l:=th c d k;have hc:=th c d<|k+1;have hi:4294967296^(k+X y)<=4294967296^n:=xau iI W;have hv:nw (kY n<|nw (x.take k)*nw y)=nw (x.take k)*nw y:=by rw[Xv,xam W]
  have e:(k:J)+(X y:J)=((k+X y:K):J):=W
  rw[zP,Y<|Nr (n:=n) c d h1 hn h (q7 _ _) (yX _ _) hv (by rw[hv];exact l) W];simp only;rw[e,zb,zp (by rw[yX];lia),Q,zb];refine j _ ⟨k+1,W,?_⟩ (by show X x-((k:J)+1).toNat<X x-(k:J).toNat;lia);have p:nw (x.take<|k+1)*nw y/4294967296^(k+X y)<4294967296:=by
   rw[xaS<|xaV iI];rw[(W:k+1+X y=(k+X y)+1),xbq,xaL<|4294967296^(k+X y)]at hc;exact hc
  have hp:0<4294967296^(k+X y):=xaV iI;generalize nw (x.take<|k+1)*nw y=S at*
  have q:=xaM S hp;have f:nw (kY n<|S%4294967296^(k+X y))=S%4294967296^(k+X y):=by rw[Xv,xam W]
  have r:=TW (q7 n<|S%4294967296^(k+X y)) (m:=k+X y) (by rw[f];exact q);have g:=NN (kY n<|S%4294967296^(k+X y)) (k+X y) (S/4294967296^(k+X y)) (by rw[yX];lia);rw[r,f,xcQ,xbO,xeo]at g;have hd:=bj<|(q7 n<|S%4294967296^(k+X y)).set (k+X y) p;rw[g,xbt,yX]at hd;rw[hd];rfl
 ·rw[zA];obtain rfl:k=X x:=W
  rw[xcJ]
def Vt(h:zm a):X (VF<|A a)<=2*X a:=by
 rw[ve,Fj];exact qm h
def fI(c:zm a)(d:zm b)(hd:X a<=268435456)(j:X b<=268435456)(k:2*(X a+X b)+1<fu):
 YY fu a b=Z (yD<|A a*A b):=by
 unfold YY;have l1:=Vt c;have l:=Vt d;rw[Y<|xT c,Y<|xT d];have e1:nw (VF<|A a)=A a:=qY _;have h:nw (VF<|A b)=A b:=qY _;have f:=qC<|A a;have g:=qC<|A b;generalize VF (A a)=x at*
 generalize VF (A b)=y at*
 have e:X x+X y=((X x+X y:K):J):=W
 have hc:A a*A b<4294967296^(X x+X y):=by
  have:=th f g (X x);simp_all
 rw[e,zb,yJ,yL,Q,<-tw,Y (Og f g O W W),e1,h,Y (ku (q7 _ _) (by rw[yX];lia)<|by rw[yX];lia),Xv,xam hc]
theorem bT(f:X a<=1099511627776)(g:X a<fu):Q7 fu a b=Z (decide<|a=b):=by
 unfold Q7;by_cases hl:X a=X b
 ·rw[zP,Y (v:=if a=b then .inl ()else .inr ())]
  ·grind
  ·refine zw (λi:J=>∃k:K,i=(k:J)/\k<=X a/\a.take k=b.take k) (λi=>X a-i.toNat) _ ?_ _ _ ⟨0,O,W,O⟩ (by show X a-0<fu;lia);rintro i L ⟨k,rfl,j,c⟩ d;unfold ef;by_cases h1:k<X a
   ·rw[zP,zp h1,Q,yj,Q];by_cases e:a.getD k 0=b.getD k 0
    ·rw[zP,zb];refine d _ ⟨k+1,W,W,?_⟩ (by show X a-((k:J)+1).toNat<X a-(k:J).toNat;lia);rw[xfq,xfq,c,getD_some 0 h1,getD_some 0 (by lia:k<X b),e]
    ·grind
   ·rw[zA];obtain rfl:k=X a:=W
    rw[xcJ,xaW W]at c;rw[iq c]
 ·rw[zA,uT<|λh=>hl<|by rw[h]]
end
section
variable{fu:wr}{a b:Zr}{x:wl}
def zv(z:M):J:=if z.1=I then-((A z.2:K):J)else((A z.2:K):J)
def ya(x:J):M:=(decide<|x<0,yD x.natAbs)
theorem zn(x:J):zv (ya x)=x:=by grind [ya,zv,ye]
def yo(x:J):zm (ya x).2:=zz _
theorem q6(z:M):(zv z).natAbs=A z.2:=by unfold zv;split<;>omega
theorem zfS(s:v6)(n:K):(if s=I then if 0<((X (yD n):K):J)then Z (I,yD n)else Z (wL,yD n)else Z (wL,yD n))=Z (ya (if s=I then-(n:J)else(n:J))):=by grind [ya,Ns,vF]
theorem yO{s:v6}{a:N K}(h:zm a)(hl:X a<=17592186044416)(c:X a<fu):xj fu s a=Z (ya (if s=I then-((A a:K):J)else((A a:K):J))):=by
 unfold xj;rw[Y<|Ve h hl c];exact zfS s _
theorem Qw{z:M}(h:zm z.2)(hl:X z.2<=17592186044416)(c:X z.2<fu):y6 fu z=Z (ya<|zv z):=by
 unfold y6;rw[Y<|Qz h hl c];exact zfS z.1 _
def dw{z:M}(h:zm z.2)(hl:X z.2<=17592186044416)(c:X z.2<fu):jg fu z=Z (ya<|zv z):=by
 unfold jg;rw[Y<|yO h hl c];rfl
theorem DJ(h0:0<=x)(h:x<18446744073709551616):((sA x:K):J)=x:=by unfold sA;omega
theorem dP{x:K}(h:x<18446744073709551616):zm [x]:=zm.cons h zm.nil
theorem EE(x:K):A [x]=x:=by simp[A]
theorem aY(h:K8 x)(c:1<fu:=by omega):yi fu x=Z (ya x):=by grind [yi,sA,Q,Y,yO,dP,EE]
theorem vz(h: -9223372036854775807<=x/\x<=9223372036854775807)(c:1<fu:=by omega):wH fu x=Z (ya x):=by grind [wH,zv,DJ,nD,Q,Y,Qw,dP,EE]
theorem zbD(a b:M):(if(!(a.1==b.1))=I then-((A a.2*A b.2:K):J)else((A a.2*A b.2:K):J))=zv a*zv b:=by grind [zv]
def lu(c:zm a.2)(d:zm b.2)(hc:X a.2<=1073741824)(hd:X b.2<=1073741824)(e:4*(X a.2+X b.2)+64<=fu):z8 fu a b=Z (ya<|zv a*zv b):=by
 unfold z8;have hl:=Xa (xb c)<|xb d;rw[Q,Y<|Jb c d hc hd e,Y (yO (zz _) ii ii),ye,<-zbD]
def Dq(c:zm a.2)(d:zm b.2)(hc:X a.2<=268435456)(hd:X b.2<=268435456)(e:2*(X a.2+X b.2)+1<fu):wu fu a b=Z (ya<|zv a*zv b):=by
 unfold wu;have hl:=Xa (xb c)<|xb d;rw[Q,Y<|fI c d hc hd e,Y<|Qw (zz _) (by show(yD _).length<=_;omega) (by show(yD _).length<_;omega)];rw[<-zbD];show Z (ya (if _ then-((A (yD _):K):J)else((A (yD _):K):J)))=_;rw[ye]
def Bp(hl:X a.2<=1099511627776)(c:X a.2<fu):Q5 fu a b=Z (decide<|a=b):=by
 have⟨s,a⟩:=a;have⟨t,b⟩:=b;unfold Q5;rw[Q];cases s<;>cases t
 ·simp only;rw[Y<|bT hl c];simp
 ·simp
 ·simp
 ·simp only;rw[Y<|bT hl c];simp
theorem zjt{a:J}{e b:K}(h:bl a.natAbs*e<=b*64):X (yD (a^e).natAbs)<=b+1:=by
 rw[zK,Int.natAbs_pow];have h1:a.natAbs^e<=(2^bl a.natAbs)^e:=Nat.pow_le_pow_left (xdw<|AI _) e;rw[<-xbX]at h1;have c:2^(bl a.natAbs*e)<=2^(64*b):=xau iI ii;rw[xbX 2 64 b]at c;grind
theorem zfi(i:K)(h:i<=65536):gi (i:J) 1=((i%2:K):J):=by grind [gi,SZ,sA]
theorem zmt(i:K):xeP (i:J) (2^(min (((1:K):J)).toNat 64))=((i/2:K):J):=by grind
def zeg{n:K}{a:J}(hn:n<=65536)(l:bl a.natAbs*n<=262144)(r:65600<fu):
 zg (bf fu) fu ((n:J),ya a,ya 1)=Z (ya<|a^n):=by
 have hc:∀e,e<=n->X (yD (a^e).natAbs)<=4097:=λe g=>zjt (b:=4096)<|xae (xaA _ g) l;refine zw (λs:J×M×M=>∃i d e:K,s=((i:J),ya<|a^d,ya<|a^e)/\e+d*i=n/\(0<i->d<=n)/\0<d) (λs=>s.1.toNat) _ ?_ _ _ ⟨n,1,0,by simp[xbr],ii,ii,ii⟩ (by show((n:J)).toNat<fu;omega);rintro s L ⟨i,d,e,rfl,g,hd,hi⟩ h;unfold bf;simp only;have c:∀p q,p<=n->q<=n->z8 fu (ya<|a^p) (ya<|a^q)=Z (ya<|a^(p+q)):=by
  intro p q hp m;have h1:=hc p hp;have k:=hc q m;rw[lu (yo _) (yo _) (by show(yD _).length<=_;omega) (by show(yD _).length<=_;omega) (by show 4*(X (yD _)+X (yD _))+64<=fu;omega),zn,zn,Int.pow_add]
 by_cases h0:0<i
 ·have f:=hd h0;have t:i<=n:=by
   have:=xdm i hi;omega
  have j:d*i=d*(i/2)*2+d*(i%2):=by rw[xbl,<-xcj];congr 1;omega
  rw[zP,Q,zfi i ii];by_cases h1:i%2=1
  ·rw[zP];rw[h1,xdn]at j;rw[Y<|c e d ii f];by_cases k:1<i
   ·have o:d*1<=d*(i/2):=xaA d ii;rw[zP,Y<|c d d f f,Q,zmt];refine h _ ⟨i/2,d+d,e+d,O,?_,ii,ii⟩ (by show((i/2:K):J).toNat<(i:J).toNat;omega);rw[xaX];omega
   ·rw[zA,Q,zmt];refine h _ ⟨i/2,d,e+d,O,?_,ii,ii⟩ (by show((i/2:K):J).toNat<(i:J).toNat;omega);rw[(ii:i/2=0),xcQ]at j⊢;omega
  ·rw[zA];rw[(ii:i%2=0),xcQ,xbO]at j;by_cases k:1<i
   ·have o:d*1<=d*(i/2):=xaA d ii;rw[zP,Y<|c d d f f,Q,zmt];refine h _ ⟨i/2,d+d,e,O,?_,ii,ii⟩ (by show((i/2:K):J).toNat<(i:J).toNat;omega);rw[xaX];omega
   ·omega
 ·rw[zA];obtain rfl:i=0:=ii
  rw[xcQ,xbO]at g;rw[g]
theorem Gy{n:K}{z:M}(h:zm z.2)(hl:X z.2<=1000000)(hn:n<=65536)(d:1000100<fu):
 aF fu z (n:J)=Z (if 262144<bl (A z.2)*n then((wL,[]),6)else(ya<|zv z^n,0)):=by
 unfold aF;have c:=zbb h hl;have f:=xbM c hn;have e:((bl (A z.2):K):J)*n=((bl (A z.2)*n:K):J):=iP
 rw[zA,zA,Y O];simp only[xar,uS];rw[Y (W6 h ii ii),zb];by_cases h1:262144<bl (A z.2)*n
 ·grind
 ·rw[zA,ir h1,Y (aY iI ii),Y (dw h ii ii),Y<|zeg hn (by rw[q6];omega) ii]
end
section
variable{d fu:wr}{p:wl}
def jK(p:K):Prop:=∀d,2<=d->d*d<=p->p%d≠0
open Classical in
noncomputable def wh(p:J):v6:=decide<|2<=p/\p<=65521/\jK p.toNat
open Classical in
theorem zcw{p:J}(h:2<=p/\p<=65521/\jK p.toNat):wh p=I:=by unfold wh;exact Z0 h
open Classical in
theorem Fi{p:J}(h:¬(2<=p/\p<=65521/\jK p.toNat)):wh p=wL:=by unfold wh;exact uT h
def Ck(d:K):(d:J)*(d:J)=((d*d:K):J):=iP
def zbJ{p:K}(h:p<=65521)(hd:d<=300:=by lia):d*d<=90000:=xae (xbM hd hd) iI
def zcP{p:K}(h:p<=65521)(hd:d*d<=p):d<256:=by
 obtain h1|h1:=xbS d 256
 ·exact h1
 ·have:=xbM h1 h1;lia
def Tq{p:K}(h:p<=65521)(m:400<fu):(jK p->zg (ZI fu (p:J)) fu (I,2)=Z I)/\(¬jK p->zg (ZI fu (p:J)) fu (I,2)=Z wL):=by
 constructor
 ·intro hn;refine zw (λi:v6×J=>∃d:K,i=(I,(d:J))/\2<=d/\d<=256) (λi=>300-i.2.toNat) _ ?_ _ _ ⟨2,O,W,W⟩ (by show 300-2<fu;lia);rintro i L ⟨d,rfl,j,c⟩ f;unfold ZI;simp only[uP];have k:=zbJ h (d:=d);rw[Ck,zb];by_cases a:d*d<=p
  ·have b:=hn d j a;have:=zcP h a;have e:xbE (p:J) (d:J)=((p%d:K):J):=O;rw[zP,yL,Q,e,zA,zb];exact f _ ⟨d+1,O,W,W⟩ (by show 300-((d:J)+1).toNat<300-(d:J).toNat;lia)
  ·rw[zA]
 ·intro hn;have⟨d0,g⟩:=xfI.1 hn;have⟨n,g⟩:=xfr.1 g;have⟨a,b⟩:=xfr.1 g;have b:p%d0=0:=Classical.not_not.1 b;have o:=zcP h a;refine zw (λi:v6×J=>∃d:K,i=(I,(d:J))/\2<=d/\d<=d0) (λi=>300-i.2.toNat) _ ?_ _ _ ⟨2,O,W,W⟩ (by show 300-2<fu;lia);rintro i L ⟨d,rfl,j,c⟩ f;unfold ZI;simp only[uP];have k:=zbJ h (d:=d);have hc:=xbM c c;rw[Ck,zb];have e:xbE (p:J) (d:J)=((p%d:K):J):=O;rw[zP,yL,Q,e];by_cases l:p%d=0
  ·rw[zP]
  ·rw[zA,zb];refine f _ ⟨d+1,O,W,?_⟩ (by show 300-((d:J)+1).toNat<300-(d:J).toNat;lia);obtain h8|h8:=xbS d d0
   ·exact h8
   ·exact wS (by rw[(W:d=d0)];exact b) l
theorem zfb{p:K}(h:p<=65521)(m:400<fu):(jK p->zg (XU fu (p:J)) fu 2=Z (.inl ()))/\(¬jK p->zg (XU fu (p:J)) fu 2=Z (.inr ())):=by
 constructor
 ·intro hn;refine zw (λi:J=>∃d:K,i=(d:J)/\2<=d/\d<=256) (λi=>300-i.toNat) _ ?_ _ _ ⟨2,O,W,W⟩ (by show 300-2<fu;lia);rintro i L ⟨d,rfl,j,c⟩ f;unfold XU;have k:=zbJ h (d:=d);rw[Ck,zb];by_cases a:d*d<=p
  ·have b:=hn d j a;have:=zcP h a;have e:xbE (p:J) (d:J)=((p%d:K):J):=O;rw[zP,yL,Q,e,zA,zb];exact f _ ⟨d+1,W,W,W⟩ (by show 300-((d:J)+1).toNat<300-(d:J).toNat;lia)
  ·grind
 ·intro hn;have⟨d0,g⟩:=xfI.1 hn;have⟨n,g⟩:=xfr.1 g;have⟨a,b⟩:=xfr.1 g;have b:p%d0=0:=Classical.not_not.1 b;have o:=zcP h a;refine zw (λi:J=>∃d:K,i=(d:J)/\2<=d/\d<=d0) (λi=>300-i.toNat) _ ?_ _ _ ⟨2,O,W,W⟩ (by show 300-2<fu;lia);rintro i L ⟨d,rfl,j,c⟩ f;unfold XU;have k:=zbJ h (d:=d);have hc:=xbM c c;rw[Ck,zb];have e:xbE (p:J) (d:J)=((p%d:K):J):=O;rw[zP,yL,Q,e];by_cases l:p%d=0
  ·rw[zP]
  ·rw[zA,zb];refine f _ ⟨d+1,W,W,?_⟩ (by show 300-((d:J)+1).toNat<300-(d:J).toNat;lia);obtain h8|h8:=xbS d d0
   ·exact h8
   ·exact wS (by rw[(W:d=d0)];exact b) l
theorem WU(f:400<fu):uQ fu p=Z (wh p):=by
 unfold uQ;have e:zg (ZI fu p) fu (wL,2)=Z wL:=by
  obtain⟨k,rfl⟩:∃k,fu=k+1:=⟨fu-1,W⟩;rfl
 by_cases a:2<=p
 ·rw[iq a];by_cases b:p<=65521
  ·rw[iq b,Y O];obtain⟨q,rfl⟩:=xaz (by lia:0<=p);have⟨l1,g⟩:=Tq (p:=q) W f;by_cases c:jK q
   ·rw[Y<|l1 c,zcw ⟨a,b,c⟩]
   ·rw[Y<|g c,Fi (p:=q)<|λh=>c h.2.2]
  ·rw[ir b,Y O,Y e];rw[Fi<|λh=>b h.2.1]
 ·rw[ir a,Y O,Y e];rw[Fi<|λh=>a h.1]
theorem Ug(a:400<fu):X8 fu p=Z (wh p):=by grind [X8,Fi,zfb,Y,zcw]
noncomputable def rK(p k:J):M×J:=if wh p=I/\1<=k/\k<=1000 then(ya<|p^k.toNat,0)else((wL,[]),1)
def zo(h:wh p=I):2<=p/\p<=65521:=by
 refine xai λhn=> ?_;rw[Fi<|λh=>hn ⟨h.1,h.2.1⟩]at h;cases h
def znm(h:wh p=I):bl (A (ya p).2)<=16:=by
 have:=zo h;refine Jt ?_;show A (yD p.natAbs)<_;rw[ye];lia
def zj8{x:J}(h:x.natAbs<18446744073709551616):(ya x).2.length<=1:=by
 show(yD _).length<=1;rw[zK];lia
theorem uO{k:J}(c:3000000<fu):qN fu p k=Z (rK p k):=by
 unfold qN rK;rw[Y<|WU W];by_cases h1:wh p=I
 ·have e:=zo h1;rw[ir<|by simp[h1]];by_cases a:k<1
  ·grind
  ·rw[ir a];by_cases b:1000<k
   ·simp_all
   ·obtain⟨n,rfl⟩:=xaz (by lia:0<=k);have hl:=zj8 (x:=p) W;have f:bl (A (ya p).2)*n<=16*1000:=xbM (znm h1) W;rw[ir b,aM ⟨h1,W,W⟩,Y<|aY ⟨W,W⟩,Y (Gy (yo p) W W W),zA,zn];rfl
 ·simp_all
end
section
variable{fu k j:wr}{a b:Zr}{x y:wl}
theorem dH{a b:J}:uJ fu a b=Z (jy a b):=by grind [uJ,Yx,Y,qf,vM,jX]
theorem af{a b:K}:ju fu a b=Z (jy a b):=by grind [ju,kV,Y,qf,vM,jX]
theorem bK{a b:N K}(f:zm a)(g:zm b)(n:X a<=1000000:=by lia)(o:X b<=1000000:=by lia)(p:2000000<fu:=by lia):Jm fu a b=Z (jy (A a:K) (A b:K)):=by
 unfold Jm;have h1:=xb f;have q:=xb g;rw[Y (xZ f W W),Y<|xZ g W W];generalize A a=x at*
 generalize A b=y at*
 by_cases h:X (yD x)=X (yD y)
 ·rw[zP,zb];by_cases hc:x=y
  ·subst hc;rw[Y (v:=.inl ())]
   ·rw[jX O]
   ·refine zw (λi:J=>∃m:K,i=(m:J)-1/\m<=X (yD x)) (λi=>(i+1).toNat) _ ?_ _ _ ⟨_,O,IR _⟩ W;rintro i L ⟨m,rfl,l⟩ d;unfold dV;by_cases h0:m=0
    ·rw[zA]
    ·have e:(m:J)-1=((m-1:K):J):=W
     rw[zP,e,yj,Q,yj,Q,iq O,zb];exact d _ ⟨m-1,O,W⟩ W
  ·rw[Y (v:=.inr<|jy x y)];refine zw (λi:J=>∃m:K,i=(m:J)-1/\m<=X (yD x)/\x/18446744073709551616^m=y/18446744073709551616^m) (λi=>(i+1).toNat) _ ?_ _ _ ⟨_,O,IR _,zg1 h⟩ W;rintro i L ⟨m,rfl,l,c⟩ d;unfold dV;by_cases h0:m=0
   ·subst h0;rw[xeJ,xdU,xdU]at c;exact wS c hc
   ·have e:(m:J)-1=((m-1:K):J):=W
    rw[zP,e,yj,Q,yj,Q];by_cases hd:(yD x).getD (m-1) 0=(yD y).getD (m-1) 0
    ·rw[iq (by rw[hd]),zb];exact d _ ⟨m-1,O,W,zgR W c hd⟩ W
    ·rw[zA,yj,Q,yj,Q,Y af,zdW W c hd]
 ·rw[zA,Y dH,zju h]
def cX(z:M):Prop:=zm z.2/\X z.2<=100000
def Bz(k:K)(x:J):Prop:=x.natAbs<18446744073709551616^k
def Bz.ok(h:Bz k x)(c:k<=100000):cX (ya x):=⟨yo x,xae ((zK _ _).2 h) c⟩
theorem Bz.of{z:M}(h:zm z.2):Bz (X z.2) (zv z):=by grind [Bz,q6,qm]
def Bz.mono(h:Bz j x)(c:j<=k):Bz k x:=xaj h<|xau iI c
def cX.bz{z:M}(h:cX z):Bz 100000 (zv z):=(Bz.of h.1).mono h.2
theorem Bz.neg(h:Bz k x):Bz k (-x):=by unfold Bz at*;rw[Int.natAbs_neg];exact h
theorem Bz.add(c:Bz k x)(d:Bz k y):Bz (k+1) (x+y):=by grind [Bz]
theorem Bz.sub(c:Bz k x)(d:Bz k y):Bz (k+1) (x-y):=by grind [Bz.add,Bz.neg]
def Bz.mul(c:Bz j x)(d:Bz k y):Bz (j+k) (x*y):=by unfold Bz at*;rw[xcK,xbu];exact xdF c d
def Bz.le(c:Bz k y)(h:x.natAbs<=y.natAbs):Bz k x:=xaK h c
theorem xX(z:M):(z.1=I/\zv z= -((A z.2:K):J))\/(z.1=wL/\zv z=((A z.2:K):J)):=by grind [zv]
theorem Yu{z:M}(h:cX z)(c:3000000<=fu):jg fu z=Z (ya<|zv z):=dw h.1 (by have:=h.2;lia) (by have:=h.2;lia)
def lF{z:M}(h:cX z)(d:3000000<=fu):YN fu z=Z (ya (-zv z)):=by
 unfold YN;have:=h.2;rw[Y<|yO h.1 W W];rcases xX z with⟨h1,c⟩|⟨h1,c⟩<;>rw[h1,c]<;>simp
theorem jx(e:cX a)(f:cX b)(o:3000000<=fu):qL fu a b=Z (ya<|zv a+zv b):=by
 unfold qL;have l:=e.2;have m:=f.2;have p:X (yD<|A a.2+A b.2)<=100001:=Zj (xae (xb e.1) l)<|xae (xb f.1) m;rw[Q];by_cases i:a.1=b.1
 ·rw[iq (by simp[i]),Y<|ZO e.1 f.1,Y (yO (zz _) W W),ye];rcases xX a with⟨h1,c⟩|⟨h1,c⟩<;>rcases xX b with⟨g,d⟩|⟨g,d⟩
  ·grind
  ·simp_all
  ·rw[h1,g]at i;cases i
  ·rw[h1,c,d,ir iI];congr 2
 ·rw[ir<|by simp[i]];rw[Y<|bK e.1 f.1];by_cases hc:A a.2<A b.2
  ·have hd:X (yD<|A b.2-A a.2)<=100000:=xae (JB<|xeY _ _)<|xae (xb f.1) m;rw[qf W,iq iI,Y O];simp only;rw[Y (QX f.1 e.1 W W W),zA];simp only;rw[Y (yO (zz _) W W),ye];rcases xX a with⟨h1,c⟩|⟨h1,c⟩<;>rcases xX b with⟨g,d⟩|⟨g,d⟩<;>rw[g,c,d]<;>simp_all
   ·congr 1;lia
   ·congr 1;lia
  ·have hd:X (yD<|A a.2-A b.2)<=100000:=xae (JB<|xeY _ _)<|xae (xb e.1) l;have n:¬jy ((A a.2:K):J) ((A b.2:K):J)<0:=by
    rcases xbS (A b.2) (A a.2)with h|h
    ·rw[vM W];decide
    ·rw[jX W];decide
   rw[ir n,Y O];simp only;rw[Y (QX e.1 f.1 W W W),zA];simp only;rw[Y (yO (zz _) W W),ye];rcases xX a with⟨h1,c⟩|⟨h1,c⟩<;>rcases xX b with⟨g,d⟩|⟨g,d⟩<;>rw[h1,c,d]<;>simp_all
   ·congr 1;lia
   ·congr 1;lia
def jA(e:cX a)(c:cX b)(d:3000000<=fu):jv fu a b=Z (ya<|zv a-zv b):=by
 unfold jv;have h1:=(Bz.neg c.bz).ok<|IR _;rw[Y<|lF c d,Y<|jx e h1 d,zn];congr 2
theorem oT:0<(((ya x).2.length:K):J)↔x≠0:=by grind [ya,Ns,vF]
theorem bh(x:J):(ya x).1=I↔x<0:=by unfold ya;simp
theorem xE{z:M}(h:cX z)(c:3000000<=fu):xV fu z=Z (jy (zv z) 0):=by grind [xV,Y,Yu,bh,nD,qf,oT,jX,vM]
theorem OZ(x y:J):jy (x-y) 0=jy x y:=by grind [qf,jX,vM]
def Z7(c:cX a)(d:cX b)(e:3000000<=fu)(hl:X a.2<=99999:=by lia)(hc:X b.2<=99999:=by lia):kM fu a b=Z (jy (zv a)<|zv b):=by
 unfold kM;have h1:=((Bz.of c.1).mono hl).sub<|(Bz.of d.1).mono hc;rw[Y<|jA c d e,Y<|xE (h1.ok<|IR _) e,zn,OZ]
def yB(c:cX a)(d:cX b)(e:3000000<=fu):z8 fu a b=Z (ya<|zv a*zv b):=by
 have:=c.2;have:=d.2;exact lu c.1 d.1 W W W
def yq(h:K8 x)(c:3000000<=fu:=by lia):yi fu x=Z (ya x):=aY h
end
section
variable{fu k B i:wr}{a x y t:xS wr}{b:Zr}
theorem xG:qF fu a (k:J)=Z (a.getD k 0):=by grind [qF,zp,Q]
def zbR{x y:K}(d:0<B)(h:x/B^(k+1)=y/B^(k+1))(hd:x/B^k%B<y/B^k%B):x<y:=by
 have h1:=JK x B k d;have f:=JK y B k d;rw[h]at h1;refine xdk λe=> ?_;have:=Nat.div_le_div_right (c:=B^k) e;omega
theorem zjg{x y:K}(c:0<B)(h:x/B^(k+1)=y/B^(k+1))(hd:x/B^k%B=y/B^k%B):x/B^k=y/B^k:=by grind [JK]
theorem J3{b:N K}(h:xi a)(j:xi b)(n:X a<=1000000)(o:X b<=1000000)(p:2000000<fu):uc fu a b=Z (jy (nw a:K) (nw b:K)):=by
 unfold uc;have e1:max (X a:J) (X b:J)=((max (X a) (X b):K):J):=ii
 rw[Q,e1,zb];have t0:nw a/4294967296^(max (X a) (X b))=nw b/4294967296^(max (X a) (X b)):=by
  have h1:nw a<4294967296^(max (X a) (X b)):=xaj (QC h)<|xau iI<|xdV _ _;have d:nw b<4294967296^(max (X a) (X b)):=xaj (QC j)<|xau iI<|xdG _ _;rw[xbi h1,xbi d]
 have g1:∀k,a.getD k 0=nw a/4294967296^k%4294967296:=aI h;have c:∀k,b.getD k 0=nw b/4294967296^k%4294967296:=aI j;by_cases hc:nw a=nw b
 ·rw[Y (v:=.inl ())]
  ·rw[hc,jX O]
  ·refine zw (λi:J=>∃m:K,i=(m:J)-1/\m<=max (X a) (X b)) (λi=>(i+1).toNat) _ ?_ _ _ ⟨_,O,IR _⟩ ii;rintro i L ⟨m,rfl,l⟩ f;unfold Xe;by_cases h0:m=0
   ·rw[zA]
   ·have e:(m:J)-1=((m-1:K):J):=ii
    rw[zP,e,Y xG,Y xG,g1,c,hc,zA,Y xG,Y xG,g1,c,hc,zA,zb];exact f _ ⟨m-1,O,ii⟩ ii
 ·rw[Y (v:=.inr<|jy (nw a:K) (nw b:K))];refine zw (λi:J=>∃m:K,i=(m:J)-1/\m<=max (X a) (X b)/\nw a/4294967296^m=nw b/4294967296^m) (λi=>(i+1).toNat) _ ?_ _ _ ⟨_,O,IR _,t0⟩ ii;rintro i L ⟨m,rfl,l,g⟩ f;unfold Xe;by_cases h0:m=0
  ·subst h0;rw[xeJ,xdU,xdU]at g;exact wS g hc
  ·have e:(m:J)-1=((m-1:K):J):=ii
   have hd:nw a/4294967296^(m-1+1)=nw b/4294967296^(m-1+1):=by rw[(ii:m-1+1=m)];exact g
   rw[zP,e,Y xG,Y xG];by_cases h1:a.getD (m-1) 0<b.getD (m-1) 0
   ·rw[zP,qf];rw[g1,c]at h1;have:=zbR iI hd h1;omega
   ·rw[zA,Y xG,Y xG];by_cases d:b.getD (m-1) 0<a.getD (m-1) 0
    ·rw[zP,vM];rw[g1,c]at d;have:=zbR iI hd.symm d;omega
    ·rw[zA,zb];refine f _ ⟨m-1,O,ii,zjg iI hd ?_⟩ ii;rw[<-g1,<-c];omega
theorem N5{c:K}(d:X t=i)(h:nw t+4294967296^i*c=nw (x.take i)+nw (y.take i)):
 nw (t++[(x.getD i 0+y.getD i 0+c)%4294967296])+4294967296^(i+1)*((x.getD i 0+y.getD i 0+c)/4294967296)=nw (x.take<|i+1)+nw (y.take<|i+1):=by grind [BY,kL,xbp]
theorem dn{b:N K}(e:zm a)(f:zm b)(r:X a<=200000)(u:X b<=200000)(w:2000000<fu):VT fu a b=Z (yD<|A a+A b):=by
 unfold VT;rw[Y (xT e ii ii),Y<|xT f ii ii];have l1:=Vt e;have z:=Vt f;have g:=qC<|A a;have j:=qC<|A b;have v1:=qY<|A a;have m:=qY<|A b;generalize VF (A a)=x at*
 generalize VF (A b)=y at*
 have⟨n,hn⟩:∃n,n=max (X x) (X y)+1:=⟨_,O⟩;have hd:nw x+nw y<4294967296^n:=by
  have h1:nw x<4294967296^(max (X x) (X y)):=xaj (QC g)<|xau iI<|xdV _ _;have C:nw y<4294967296^(max (X x) (X y)):=xaj (QC j)<|xau iI<|xdG _ _;rw[hn,xbq];omega
 rw[Y (v:=kY n<|nw x+nw y)]
 ·rw[Y (ku (q7 _ _) (by rw[yX];omega)<|by rw[yX];omega),Xv,xam hd,v1,m]
 ·refine zw (λs:N K×K×J=>∃(t:N K) (c i:K),s=(t,c,(i:J))/\i<=n/\X t=i/\xi t/\c<=1/\nw t+4294967296^i*c=nw (x.take i)+nw (y.take i)) (λs=>n-s.2.2.toNat) _ ?_ _ _ ⟨[],0,0,O,ii,O,xi.nil,ii,by simp[nw]⟩ (by show n-0<fu;omega);rintro s L ⟨t,c,i,rfl,hi,d,l,hc,hv⟩ o;unfold mo;simp only;have e1:max (X x:J) (X y:J)=((max (X x) (X y):K):J):=ii
  rw[Q,e1,zb];by_cases h1:i<n
  ·have b1:=g.getD i;have b2:=j.getD i;have p:((x.getD i 0+y.getD i 0)%18446744073709551616+c)%18446744073709551616=x.getD i 0+y.getD i 0+c:=ii
   rw[zP,Y xG,Y xG,Q,Q,Q,Da,p,xr (by simp[d];omega),Q,Q,EC,zb];refine o _ ⟨_,_,i+1,O,ii,by simp[d],l.append<|xi.cons (xaM _ iI) xi.nil,ii,N5 d hv⟩ (by show n-((i:J)+1).toNat<n-(i:J).toNat;omega)
  ·rw[zA];obtain rfl:i=n:=ii
   rw[xaW ii,xaW ii]at hv;have hp:0<4294967296^i:=xaV iI;have q:c=0:=by
    obtain h|h:=xbV c
    ·exact h
    ·have:4294967296^i*1<=4294967296^i*c:=xaA _ h;omega
   subst q;rw[xcQ,xbO]at hv;rw[<-hv,<-d,bj l]
theorem GD{b D:K}(c:X t=i)(d:D+y.getD i 0+b=x.getD i 0+4294967296)(h:nw t+nw (y.take i)=nw (x.take i)+4294967296^i*b)(e:D<8589934592):
 nw (t++[D%4294967296])+nw (y.take<|i+1)=nw (x.take<|i+1)+4294967296^(i+1)*(1-D/4294967296):=by
 rw[BY,c,kL,kL,xbq];have hd:D/4294967296=0\/D/4294967296=1:=ii
 have e1:4294967296^i*(D%4294967296)+4294967296^i*y.getD i 0+4294967296^i*b+4294967296^i*4294967296*(D/4294967296)=4294967296^i*x.getD i 0+4294967296^i*4294967296:=by
  rw[xbl,<-xcj,<-xcj,<-xcj,<-xcj];grind
 grind
def bW(f:xi x)(g:xi y)(hl:X x<=1000000)(r:2000000<fu)(h:nw y<=nw x):Xp fu x y=Z (VF<|nw x-nw y):=by
 unfold Xp;have u:=QC f;have j:nw (y.take (X x))=nw y:=by rw[NM g,xam ii]
 have d:∃t,xi t/\X t=X x/\nw t=nw x-nw y/\zg (JV fu x y) fu ([],0,0)=Z t:=by
  refine⟨kY (X x)<|nw x-nw y,q7 _ _,yX _ _,by rw[Xv,xam ii],?_⟩;refine zw (λs:N K×K×J=>∃(t:N K) (b i:K),s=(t,b,(i:J))/\i<=X x/\X t=i/\xi t/\b<=1/\nw t+nw (y.take i)=nw (x.take i)+4294967296^i*b) (λs=>X x-s.2.2.toNat) _ ?_ _ _ ⟨[],0,0,O,ii,O,xi.nil,ii,by simp[nw]⟩ (by show X x-0<fu;omega);rintro s L ⟨t,b,i,rfl,hi,c,e,v,hv⟩ l;unfold JV;simp only;by_cases h1:i<X x
  ·have b1:=f.getD i;have b2:=g.getD i;have⟨D,hd⟩:∃D,D=x.getD i 0+4294967296-y.getD i 0-b:=⟨_,O⟩;have m:(((x.getD i 0+4294967296)%18446744073709551616+18446744073709551616-y.getD i 0)%18446744073709551616+18446744073709551616-b)%18446744073709551616=D:=ii
   have n:(1+18446744073709551616-D/2^32)%18446744073709551616=1-D/4294967296:=ii
   rw[zP,Y xG,Q,Y xG,Q,Q,Q,Da,m,xr (by simp[c];omega),Q,Q,EC,Q,n,zb];exact l _ ⟨_,_,i+1,O,ii,by simp[c],e.append<|xi.cons (xaM _ iI) xi.nil,ii,GD c ii hv ii⟩ (by show X x-((i:J)+1).toNat<X x-(i:J).toNat;omega)
  ·rw[zA];obtain rfl:i=X x:=ii
   rw[j,xcJ]at hv;have o:=QC e;rw[c]at o;have hc:b=0:=by
    obtain h|h:=xbV b
    ·exact h
    ·have:4294967296^X x*1<=4294967296^X x*b:=xaA _ h;omega
   subst hc;rw[xcQ,xbO]at hv;rw[(ii:nw x-nw y=nw t),<-c,bj e]
 have⟨t,k1,k2,p,q⟩:=d;rw[Y q,Y (Kf k1 ii ii),p]
def J9{b:N K}(c:zm a)(d:zm b)(hd:X a<=200000)(j:X b<=200000)(e:2000000<fu):
 Y8 fu a b=Z (if A a<A b then([],1)else(yD<|A a-A b,0)):=by
 unfold Y8;rw[Y (xT c ii ii),Y<|xT d ii ii];have l1:=Vt c;have l:=Vt d;have f:=qC<|A a;have g:=qC<|A b;rw[Y<|J3 f g ii ii e,qY,qY];by_cases h:A a<A b
 ·rw[qf ii,iq iI,iq h]
 ·have hc:¬jy ((A a:K):J) ((A b:K):J)<0:=by
   rcases xbS (A b) (A a)with h|h
   ·rw[vM ii];decide
   ·rw[jX ii];decide
  have m:X (VF<|A a-A b)<=2*X a:=by
   rw[ve,Fj];exact xaK (xeY _ _)<|qm c
  rw[ir hc,ir h,Y (bW f g ii e<|by rw[qY,qY];omega),qY,qY,Y (ku (qC _) ii ii),qY]
def y5{z:M}(h:zm z.2)(hl:X z.2<=200000)(c:3000000<=fu):y6 fu z=Z (ya<|zv z):=Qw h ii ii
def EU(s:v6)(n:K):zv (s,yD n)=if s=I then-(n:J)else(n:J):=by unfold zv;rw[ye]
def gF{z:M}(h:cX z)(c:3000000<=fu):Vq fu z=Z (ya (-zv z)):=by
 unfold Vq;have:=h.2;rw[Y<|y5 (z:=(!z.1,z.2)) h.1 (by show X z.2<=_;omega) c];rcases xX z with⟨h1,d⟩|⟨h1,d⟩
 ·skip;unfold zv;simp[h1]
 ·skip;unfold zv;simp[h1]
theorem qD{a:M}(g:cX a)(h:cX b)(j:3000000<=fu):vD fu a b=Z (ya<|zv a+zv b):=by
 unfold vD;have l:=g.2;have m:=h.2;have n:X (yD<|A a.2+A b.2)<=100001:=Zj (xae (xb g.1) l)<|xae (xb h.1) m;rw[Q];by_cases d:a.1=b.1
 ·rw[iq (by simp[d]),Y (dn g.1 h.1 ii ii ii),Y<|y5 (z:=(a.1,yD<|A a.2+A b.2)) (zz _) (by show(yD _).length<=_;omega) j,EU];rcases xX a with⟨h1,e⟩|⟨h1,e⟩<;>rcases xX b with⟨c,f⟩|⟨c,f⟩
  ·grind
  ·simp_all
  ·simp_all
  ·rw[h1,e,f,ir iI];congr 2
 ·rw[ir (by simp[d]),Y<|J9 g.1 h.1 ii ii ii];by_cases hc:A a.2<A b.2
  ·have hd:X (yD<|A b.2-A a.2)<=100000:=xae (JB<|xeY _ _)<|xae (xb h.1) m;rw[iq hc];simp only;rw[ir iI,Y (J9 h.1 g.1 ii ii ii),zA];simp only;rw[Y<|y5 (z:=(b.1,yD<|A b.2-A a.2)) (zz _) (by show(yD _).length<=_;omega) j,EU];rcases xX a with⟨h1,e⟩|⟨h1,e⟩<;>rcases xX b with⟨c,f⟩|⟨c,f⟩
   ·rw[h1,c]at d;exact wS O d
   ·rw[c,e,f,ir iI];congr 2;omega
   ·rw[c,e,f,iq O];congr 2;omega
   ·rw[h1,c]at d;exact wS O d
  ·have hd:X (yD<|A a.2-A b.2)<=100000:=xae (JB<|xeY _ _)<|xae (xb g.1) l;rw[ir hc];simp only;rw[iq wR,Y<|y5 (z:=(a.1,yD<|A a.2-A b.2)) (zz _) (by show(yD _).length<=_;omega) j,EU];rcases xX a with⟨h1,e⟩|⟨h1,e⟩<;>rcases xX b with⟨c,f⟩|⟨c,f⟩
   ·rw[h1,c]at d;exact wS O d
   ·rw[h1,e,f,iq O];congr 2;omega
   ·rw[h1,e,f,ir iI];congr 2;omega
   ·rw[h1,c]at d;exact wS O d
def Fo{a:M}(e:cX a)(c:cX b)(d:3000000<=fu):KN fu a b=Z (ya<|zv a-zv b):=by
 unfold KN;have h1:=(Bz.neg c.bz).ok<|IR _;rw[Y<|gF c d,Y<|qD e h1 d,zn];congr 2
theorem q8{z:M}(h:cX z)(d:3000000<=fu):qe fu z=Z (jy (zv z) 0):=by
 unfold qe;have:=h.2;rw[Y<|y5 h.1 ii d];by_cases h1:zv z<0
 ·rw[iq<|(bh _).2 h1,qf h1]
 ·rw[ir<|λe=>h1<|(bh _).1 e];by_cases c:zv z=0
  ·rw[ir<|λe=>oT.1 e c,jX c]
  ·rw[iq<|oT.2 c,vM ii]
def dW{a:M}(c:cX a)(d:cX b)(e:3000000<=fu)(hl:X a.2<=99999)(hc:X b.2<=99999):Za fu a b=Z (jy (zv a)<|zv b):=by
 unfold Za;have h1:=((Bz.of c.1).mono hl).sub<|(Bz.of d.1).mono hc;rw[Y<|Fo c d e,Y<|q8 (h1.ok<|IR _) e,zn,OZ]
def wg{a:M}(c:cX a)(d:cX b)(e:3000000<=fu:=by omega):wu fu a b=Z (ya<|zv a*zv b):=by
 have:=c.2;have:=d.2;exact Dq c.1 d.1 ii ii ii
end
section
variable{b v1 v0 u w q r fu x y s lo:wr}
theorem zgK(a:q*v1+r=u)(h:q*v0<=b*r+w):q*(v1*b+v0)<=u*b+w:=by grind [xcj,xbl,xaX,xaL]
theorem zdY(a:q*v1+r=u)(h:b*r+w<q*v0):u*b+w<q*(v1*b+v0):=by grind [xcj,xbl,xaX,xaL]
def tX(hv:0<v1*b+v0)(a:q*v1+r=u)(c:(u*b+w)/(v1*b+v0)<=q:=by lia)(h:q*v0<=b*r+w:=by lia):q=(u*b+w)/(v1*b+v0):=
 xcG ((xcn hv).2<|zgK a h) c
theorem zgm(hv:0<v1*b+v0)(a:q*v1+r=u)(h:b*r+w<q*v0):(u*b+w)/(v1*b+v0)<=q-1/\0<q/\(q-1)*v1+(r+v1)=u:=by
 have h0:0<q:=by
  obtain h0|h0:=xbV q
  ·simp_all
  ·exact h0
 have h1:=(xaS hv).2<|zdY a h;obtain⟨p,rfl⟩:∃p,q=p+1:=⟨q-1,W⟩;grind
theorem TD(a:u<v1*b+v0)(c:v0<b)(d:q*v1+r=u)(e:b<=r):q<b:=by
 refine xdk λh=> ?_;have:b*v1<=q*v1:=xan _ h;grind
def za8(a:q<b)(c:v0<b)(d:b<=r):q*v0<=b*r+w:=by
 have h1:=xbM (xdw a)<|xdw c;have e:b*b<=b*r:=xaA _ d;lia
theorem bL(a:u<v1*b+v0)(c:w<b:=by lia):(u*b+w)/(v1*b+v0)<b:=by
 have hv:0<v1*b+v0:=W
 rw[xaS hv];have:(u+1)*b<=(v1*b+v0)*b:=xan _ a;grind
def EJ{β:Type}(mk:K->K->β)(ms:β->K)(hc:∀q r,ms (mk q r)=2-r/2147483648){f:(β->V K)->β->V K}(h1:2147483648<=v1)(C:v1<4294967296)(h0:v0<4294967296)(g:u<v1*4294967296+v0)(m:w<4294967296)(D:10<fu)(n:∀(q r:K) (L:β->V K),q<18446744073709551616->r<4294967296->q*v0<18446744073709551616\/4294967296<=q->
 f L (mk q r)=if 4294967296<=q then(if 4294967296<=r+v1 then Z (q-1)else L (mk (q-1)<|r+v1))else if 4294967296*r+w<q*v0 then(if 4294967296<=r+v1 then Z (q-1)else L (mk (q-1)<|r+v1))else Z q):
 zg f fu (mk (u/v1)<|u%v1)=Z ((u*4294967296+w)/(v1*4294967296+v0)):=by
 have hv:0<v1*4294967296+v0:=W
 have E:=bL g m;have hi:u/v1<18446744073709551616:=by
  rw[xaS W];lia
 refine zw (λs:β=>∃q r,s=mk q r/\q<18446744073709551616/\r<4294967296/\q*v1+r=u/\(u*4294967296+w)/(v1*4294967296+v0)<=q) ms _ ?_ _ _ ⟨_,_,O,hi,?_,?_,?_⟩<|by rw[hc];lia
 ·rintro s L ⟨q,r,rfl,o,t,i,v⟩ k;have z:q*v0<18446744073709551616\/4294967296<=q:=by
   obtain h|h:=xbS q 4294967296
   ·left;exact xdF (a:=q) (b:=v0) (c:=4294967296) (d:=4294967296) h h0
   ·exact .inr h
  rw[n q r L o t z];by_cases l:4294967296<=q
  ·rw[iq l];have hd:(q-1)*v1+(r+v1)=u:=by
    obtain⟨p,rfl⟩:∃p,q=p+1:=⟨q-1,W⟩;rw[xaX]at i;simp only[xec];lia
   by_cases e:4294967296<=r+v1
   ·rw[iq e,<-tX hv hd W<|za8 (TD g h0 hd e) h0 e]
   ·rw[ir e];exact k _ ⟨_,_,O,W,W,hd,W⟩<|by rw[hc,hc];lia
  ·rw[ir l];by_cases j:4294967296*r+w<q*v0
   ·have⟨d1,d2,d3⟩:=zgm hv i j;rw[iq j];by_cases e:4294967296<=r+v1
    ·rw[iq e,<-tX hv d3 d1<|za8 (TD g h0 d3 e) h0 e]
    ·rw[ir e];exact k _ ⟨_,_,O,W,W,d3,d1⟩<|by rw[hc,hc];lia
   ·rw[ir j,<-tX hv i v]
 ·have:=xaM u (W:0<v1);lia
 ·rw[xaL];exact xbp u v1
 ·rw[xcn W];have B:(u*4294967296+w)/(v1*4294967296+v0)*(v1*4294967296+v0)<=u*4294967296+w:=xcH _ _;generalize(u*4294967296+w)/(v1*4294967296+v0)=Q at*
  rw[xcj,<-xbl]at B;generalize Q*v1=A at*
  lia
theorem Ly(h:y<2^s):x*2^s|||y=x*2^s+y:=by grind [xaL,Nat.two_pow_add_eq_or_of_lt]
def SL(h0:0<y)(h:y<18446744073709551616):bl y<=64/\9223372036854775808<=y*2^(64-bl y)/\y*2^(64-bl y)<18446744073709551616:=by
 have h1:=Jt (k:=64) (by simpa using h);have a:=AI y;refine⟨h1,?_,?_⟩
 ·have hp:1<=bl y:=by rw[aH h0];lia
  have c:2^(bl y-1)<=y:=by
   refine xbs λd=> ?_;have:=Jt d;lia
  have e:9223372036854775808=2^(bl y-1)*2^(64-bl y):=by rw[<-xbu,(W:bl y-1+(64-bl y)=63)]
  rw[e];exact xan _ c
 ·have e:18446744073709551616=2^bl y*2^(64-bl y):=by rw[<-xbu,(W:bl y+(64-bl y)=64)]
  rw[e];exact xbT a<|xaV iI
def R0(a:lo<18446744073709551616)(c:s<=64):lo*2^s=lo/2^(64-s)*18446744073709551616+lo*2^s%18446744073709551616/\lo/2^(64-s)<2^s:=by
 have e:18446744073709551616=2^(64-s)*2^s:=by rw[<-xbu,(W:64-s+s=64)]
 have hp:0<2^s:=xaV iI;have d:lo*2^s/18446744073709551616=lo/2^(64-s):=by rw[e,xfz _ _ hp]
 refine⟨W,?_⟩;rw[xaS (xaV iI),xaL,<-e];exact a
theorem mN{w1 w0:K}(a:0<y)(c:0<b)(d:w0<b):((x*b+w1)*b+w0)/y=(x*b+w1)/y*b+((x*b+w1)%y*b+w0)/y/\((x*b+w1)*b+w0)%y=((x*b+w1)%y*b+w0)%y:=by
 generalize x*b+w1=X;have h:=xbp X y;have e:X*b+w0=X%y*b+w0+y*(X/y*b):=by grind
 rw[e];constructor
 ·rw[xcA _ _ a];lia
 ·simp_all
def zox{a:K}(c:a<4294967296)(d:b<4294967296):(a*4294967296%18446744073709551616+b)%18446744073709551616=a*4294967296+b:=W
theorem kI(a:x<18446744073709551616):xB fu x=Z ((64-bl x:K):J):=by
 unfold xB;have h:=Jt (k:=64) (by simpa using a);rw[Y<|jm a,zb];grind
def VE{hi:K}(hn:lo<18446744073709551616)(G:y<18446744073709551616)(R:hi<y)(H:10<fu):
 jj fu hi lo y=Z ((hi*18446744073709551616+lo)/y,(hi*18446744073709551616+lo)%y):=by
 unfold jj;rw[zA,zA];by_cases h0:hi=0
 ·subst h0;rw[iq O,yL,Q,yL,Q,xcx,xaJ]
 ·rw[zA,za<|kI G];have⟨n1,n2,l⟩:=SL (y:=y) W G;have⟨s,S⟩:∃s,s=64-bl y:=⟨_,O⟩;rw[<-S]at n2 l⊢;have T:s<=64:=W
  have U:sA (s:J)=s:=by have:=DJ (x:=(s:J)) W W;lia
  have em:min (s:J).toNat 64=s:=W
  have e8:(64+18446744073709551616-s)%18446744073709551616=64-s:=W
  have n:min (((64-s:K):K):J).toNat 64=64-s:=W
  have⟨Y,c⟩:∃Y,Y=y*2^s:=⟨_,O⟩;rw[<-c]at n2 l;have⟨w1,w2⟩:=R0 hn T;have hp:0<2^s:=xaV iI;have hx:hi*2^s+2^s<=Y:=by
   have:(hi+1)*2^s<=y*2^s:=xan _ R;rw[xaX,xbN]at this;rw[c];exact this
  simp only[nm,U,em,e8,n,Da,EC];rw[<-c,xam l,xam (W:hi*2^s<18446744073709551616),Ly w2];have⟨u,o⟩:∃u,u=hi*2^s+lo/2^(64-s):=⟨_,O⟩;have⟨t,p⟩:∃t,t=lo*2^s%18446744073709551616:=⟨_,O⟩;have hv:t<18446744073709551616:=by rw[p];exact xaM _ iI
  rw[<-o,<-p];have hd:u<Y:=W
  have ho:(hi*18446744073709551616+lo)*2^s=u*18446744073709551616+t:=by
   rw[xaX,w1,o,<-p,xaX,Nat.mul_right_comm];lia
  have e:Y=Y/4294967296*4294967296+Y%4294967296:=W
  have M:2147483648<=Y/4294967296:=W
  have N:Y/4294967296<4294967296:=W
  have a0:Y%4294967296<4294967296:=W
  have step:∀{u w:K},u<Y->w<4294967296->(u*4294967296+w)/(Y/4294967296*4294967296+Y%4294967296)=(u*4294967296+w)/Y:=by intro u w _ _;rw[<-e]
  have ew:Y/2^32=Y/4294967296:=O;have et:t/2^32=t/4294967296:=O;rw[ew,et,yL];have f:∀{u:K},u<Y->(u+18446744073709551616-u/(Y/4294967296)*(Y/4294967296)%18446744073709551616)%18446744073709551616=u%(Y/4294967296):=by
   intro u o;have h1:=xbp u<|Y/4294967296;rw[xaL]at h1;have v:u/(Y/4294967296)*(Y/4294967296)<=u:=W
   rw[xam (W:u/(Y/4294967296)*(Y/4294967296)<18446744073709551616)];lia
  have body:∀{q r w:K},q<18446744073709551616->r<4294967296->w<4294967296->(q*(Y%4294967296)<18446744073709551616\/4294967296<=q)->∀(A B C:V K),(4294967296<=r+Y/4294967296->A=Z (q-1))->(¬4294967296<=r+Y/4294967296->A=B)->C=Z q->
   (if((4294967296:K):J)<=(q:J)then A else if(((4294967296*r%18446744073709551616+w)%18446744073709551616:K):J)<((q*(Y%4294967296)%18446744073709551616:K):J)then A else C)=
   if 4294967296<=q then(if 4294967296<=r+Y/4294967296 then Z (q-1)else B)else if 4294967296*r+w<q*(Y%4294967296)then(if 4294967296<=r+Y/4294967296 then Z (q-1)else B)else Z q:=by
   intro q r w d k hw g A B C h1 v h3;have hA:A=if 4294967296<=r+Y/4294967296 then Z (q-1)else B:=by
    split
    ·next h=>exact h1 h
    ·next h=>exact v h
   rw[<-hA,h3];by_cases z:4294967296<=q
   ·rw[zP,iq z]
   ·have e3:(q*(Y%4294967296))%18446744073709551616=q*(Y%4294967296):=xam<|g.resolve_right z;have e4:(4294967296*r%18446744073709551616+w)%18446744073709551616=4294967296*r+w:=W
    rw[zA,ir z,e3,e4];by_cases P:4294967296*r+w<q*(Y%4294967296)
    ·rw[zP,iq P]
    ·rw[zA,ir P]
  have L0:zg (jY fu (Y/4294967296) (Y%4294967296)<|t/4294967296) fu (u/(Y/4294967296),u%(Y/4294967296))=Z ((u*4294967296+t/4294967296)/Y):=by
   rw[<-step hd (by lia:t/4294967296<4294967296)];refine EJ (λq r=>(q,r)) (λs=>2-s.2/2147483648) (λ_ _=>O) (w:=t/4294967296) M N a0 (by rw[<-e];exact hd) W H ?_;intro q r L d k g;have e1:(r+Y/4294967296)%18446744073709551616=r+Y/4294967296:=W
   by_cases hc:q=0
   ·subst hc;unfold jY;simp only[nm,xcx,Nat.zero_mod];rw[zA,zA,zA,zA]
   have D:(q+18446744073709551616-1)%18446744073709551616=q-1:=W
   refine Eq.trans ?_<|body d k W g (if 4294967296<=r+Y/4294967296 then Z (q-1)else L (q-1,r+Y/4294967296)) _ _ (λh=>iq h) (λh=>ir h) O;unfold jY;simp only[nm,e1,D];have E:∀(X:V K),(if((4294967296:K):J)<=((r+Y/4294967296:K):J)then Z (q-1)else X)=if 4294967296<=r+Y/4294967296 then Z (q-1)else X:=by
    intro X;by_cases h:4294967296<=r+Y/4294967296
    ·rw[zP,iq h]
    ·rw[zA,ir h]
   rw[E]
  have i:∀{x q:K},x/Y=q->∀{m:K},m=x%18446744073709551616->(m+18446744073709551616-q*Y%18446744073709551616)%18446744073709551616=x%Y:=by
   intro x q d m hm;have h1:=xbp x Y;rw[d,xaL]at h1;have v:=xaM x (W:0<Y);lia
  rw[f hd,za L0,i O (x:=u*4294967296+t/4294967296) W];have⟨a,F⟩:∃a,a=(u*4294967296+t/4294967296)%Y:=⟨_,O⟩;have j:a<Y:=by rw[F];exact xaM _ W
  rw[<-F,yL,f j];have L1:zg (jT fu (Y/4294967296) (Y%4294967296)<|t%4294967296) fu (a%(Y/4294967296),a/(Y/4294967296))=Z ((a*4294967296+t%4294967296)/Y):=by
   rw[<-step j (by lia:t%4294967296<4294967296)];refine EJ (λq r=>(r,q)) (λs=>2-s.1/2147483648) (λ_ _=>O) (w:=t%4294967296) M N a0 (by rw[<-e];exact j) W H ?_;intro q r L d k g;have e1:(r+Y/4294967296)%18446744073709551616=r+Y/4294967296:=W
   by_cases hc:q=0
   ·subst hc;unfold jT;simp only[nm,xcx,Nat.zero_mod];rw[zA,zA,zA,zA]
   have D:(q+18446744073709551616-1)%18446744073709551616=q-1:=W
   refine Eq.trans ?_<|body d k W g (if 4294967296<=r+Y/4294967296 then Z (q-1)else L (r+Y/4294967296,q-1)) _ _ (λh=>iq h) (λh=>ir h) O;unfold jT;simp only[nm,e1,D];have E:∀(X:V K),(if((4294967296:K):J)<=((r+Y/4294967296:K):J)then Z (q-1)else X)=if 4294967296<=r+Y/4294967296 then Z (q-1)else X:=by
    intro X;by_cases h:4294967296<=r+Y/4294967296
    ·rw[zP,iq h]
    ·rw[zA,ir h]
   rw[E]
  rw[za L1,i O (x:=a*4294967296+t%4294967296) W];have hl:=bL (b:=4294967296) (v1:=Y/4294967296) (v0:=Y%4294967296) (u:=u) (w:=t/4294967296) (by rw[<-e];exact hd);rw[step hd W]at hl;have hc:=bL (b:=4294967296) (v1:=Y/4294967296) (v0:=Y%4294967296) (u:=a) (w:=t%4294967296) (by rw[<-e];exact j);rw[step j W]at hc;have⟨k1,k2⟩:=mN (x:=u) (b:=4294967296) (y:=Y) (w1:=t/4294967296) (w0:=t%4294967296) W iI W;rw[<-F]at k1 k2;have eU:(u*4294967296+t/4294967296)*4294967296+t%4294967296=(hi*18446744073709551616+lo)*2^s:=by rw[ho];lia
  rw[eU,c,xfz _ _ hp,<-c]at k1;rw[eU,c,xed,<-c]at k2;rw[k1,<-k2,Nat.mul_div_cancel _ hp];rw[zox hl hc]
end
section
variable{x fu s:wr}{a:xS wr}
def zb9{m:K}{l:N K}:(Nm (m+1) 0++l).set m x=Nm m 0++(x::l):=by
 rw[List.replicate_succ'];simp_all
def H0(k n:K):vu (k+1) n=n%18446744073709551616::vu k (n/18446744073709551616):=O
def oj{q r:K}(h:r<18446744073709551616):(q*18446744073709551616+r)%18446744073709551616=r/\(q*18446744073709551616+r)/18446744073709551616=q:=W
theorem tC(A m:K):A/18446744073709551616^m=A/18446744073709551616^(m+1)*18446744073709551616+A/18446744073709551616^m%18446744073709551616:=by grind [JK]
def DM(c:zm a)(j:x<18446744073709551616)(h0:0<x)(hl:X a<=1000000)(o:2000000<fu):VD fu a x=Z (yD<|A a/x,A a%x):=by
 unfold VD;rw[yJ,yL,Q,zb];have f:=qm c;have d:zg (Uf fu a x) fu (0,(X a:J)-1,Nm (X a) 0)=Z (A a%x,vu (X a)<|A a/x):=by
  refine zw (λs:K×J×N K=>∃m:K,m<=X a/\s=(A a/18446744073709551616^m%x,(m:J)-1,Nm m 0++vu (X a-m) (A a/18446744073709551616^m/x))) (λs=>(s.2.1+1).toNat) _ ?_ _ _ ⟨X a,IR _,?_⟩ (by show((X a:J)-1+1).toNat<fu;lia)
  ·rintro s L ⟨m,p,rfl⟩ k;unfold Uf;simp only
   cases m with
   |zero=>
    simp_all
   |succ m=>
    have e:((m+1:K):J)-1=(m:J):=W
    have g:=c.getD m;have hd:A a/18446744073709551616^(m+1)%x<x:=xaM _ h0;have l:a.getD m 0=A a/18446744073709551616^m%18446744073709551616:=Kv c m;have h:=tC (A a) m;rw[<-l]at h;rw[zP,e,yj,Q,Y<|VE g j hd W];have⟨k1,k2⟩:=mN (x:=0) (b:=18446744073709551616) (y:=x) (w1:=A a/18446744073709551616^(m+1)) (w0:=a.getD m 0) h0 iI g;rw[xcx,xaJ,<-h]at k1 k2;rw[zp (by simp;lia),Q,zb,zb9,<-k2];refine k _ ⟨m,W,?_⟩ (by show((m:J)-1+1).toNat<(((m+1:K):J)-1+1).toNat;lia);have i:(A a/18446744073709551616^(m+1)%x*18446744073709551616+a.getD m 0)/x<18446744073709551616:=by
     rw[xaS h0];have:(A a/18446744073709551616^(m+1)%x+1)*18446744073709551616<=x*18446744073709551616:=xan _ hd;rw[xaL 18446744073709551616 x];lia
    have n:X a-m=(X a-(m+1))+1:=W
    rw[k1,n,H0];congr 3;rw[(oj i).1,(oj i).2]
  ·rw[xbi f,Nat.zero_div,Nat.zero_mod,xdb];simp[vu]
 rw[Y d];have hc:A a/x<18446744073709551616^X a:=xaK (xcE _ _) f;simp only;rw[Y (xm (wm _ _) (by rw[yc];lia)<|by rw[yc];lia),kK,xam hc]
def HJ(b:s<=64):(18446744073709551616:K)=2^(64-s)*2^s:=by rw[<-xbu,(W:64-s+s=64)]
theorem RU{y c:K}(f:y<18446744073709551616)(d:s<64)(hc:c<2^s):y*2^s%18446744073709551616|||c=(y*2^s+c)%18446744073709551616/\y/2/2^(63-s)=(y*2^s+c)/18446744073709551616/\(y*2^s+c)/18446744073709551616<2^s:=by
 have⟨w1,h⟩:=R0 f<|xdw d;have hp:0<2^s:=xaV iI;have e:=HJ<|xdw d;have b:y*2^s%18446744073709551616=y%2^(64-s)*2^s:=by rw[e,xed]
 have h1:y%2^(64-s)*2^s+2^s<=18446744073709551616:=by
  rw[e];have:=xan (2^s)<|xaM y<|xaV (n:=64-s) (iI:0<2);grind
 have g:y/2/2^(63-s)=y/2^(64-s):=by rw[xaG,(g9:64-s=63-s+1),xbq,xaL 2]
 refine⟨?_,?_,?_⟩
 ·rw[b,Ly hc];rw[b]at w1;generalize y%2^(64-s)*2^s=A at*
  generalize y*2^s=i at*
  generalize y/2^(64-s)=W at*
  lia
 ·rw[g];rw[b]at w1;generalize y%2^(64-s)*2^s=A at*
  generalize y*2^s=i at*
  generalize y/2^(64-s)=W at*
  lia
 ·rw[b]at w1;generalize y%2^(64-s)*2^s=A at*
  generalize y*2^s=i at*
  generalize y/2^(64-s)=W at*
  lia
def mZ{a:N K}{s:K}(b:zm a)(c:s<64):∀k,(vJ (dQ a<|2^s) k).2<2^s
 |0=>xaV iI
 |k+1=>(RU (b.getD k) c<|mZ b c k).2.2
def Hk:(2:K)^64=18446744073709551616:=iI
def QZ{n:K}(b:zm a)(hl:X a<=1000000:=by lia)(hn:n<=262144:=by lia)(j:2000000<fu:=by lia):WE fu a (n:J)=Z (yD<|A a*2^n,0):=by
 unfold WE;have⟨s,l⟩:∃s,s=n%64:=⟨_,O⟩;have c:s<64:=W
 rw[zA,zA,Y<|j9 (step:=dQ a<|2^s) W W ?_]
 ·have m:=mZ b c (X a);have hd:2^s<18446744073709551616:=by rw[<-Hk];exact xdJ iI c
  have e1:xcw (n:J) 64=((n/64:K):J):=O;simp only;rw[xr (by have:=wv (dQ a<|2^s) (X a);simp[this];lia),Q,xr iI,e1,zb,Oa W];rw[Y (J8 W<|by rw[yc];lia),Y (xm ((zm.replicate _).append<|wm _ _) (by simp[yc];lia)<|by simp[yc];lia),EN,kK,xam<|Fy b hd];congr 3;rw[<-Hk,<-xbX,xaL<|2^_,xbl,<-xbu];congr 2;lia
 ·intro k d;have hc:=mZ b c k;have⟨l1,e,o⟩:=RU (b.getD k) c hc;unfold dk;have e1:xbE (n:J) 64=((n%64:K):J):=O;have f:min (((1:K):J)).toNat 64=1:=iI
  have g:min ((n%64:K):J).toNat 64=s:=W
  have h:(63:J)-((n%64:K):J)=((63-s:K):J):=W
  have i:min ((63-s:K):J).toNat 64=63-s:=W
  rw[zp d,Q,xr iI,Q,e1,yL,Q,g,Q,zp d,Q,Q,f,xr iI,Q,h,zb,yL,Q,i,l1];rw[show(2:K)^1=2 from O,e];rfl
def IL{step:K->K->K×K}{X:K}(h:∀k,step k 0=(X/18446744073709551616^k%18446744073709551616,0)):∀n,vJ step n=(vu n X,0)
 |0=>rfl
 |n+1=>by
  have b:=IL h n;unfold vJ;rw[b,h,UR]
def zgk{A k:K}(f:s<64):A/18446744073709551616^k%18446744073709551616/2^s|||A/18446744073709551616^(k+1)%18446744073709551616*2%18446744073709551616*2^(63-s)%18446744073709551616=A/2^s/18446744073709551616^k%18446744073709551616:=by
 have e:=HJ<|xdw f;have hp:0<2^s:=xaV iI;have j:0<2^(64-s):=xaV iI;have h1:=tC A k;have e0:A/18446744073709551616^(k+1)=A/18446744073709551616^k/18446744073709551616:=by rw[xbq,xaG]
 rw[xaG,xaL<|2^s,<-xaG];rw[e0]at h1⊢;generalize A/18446744073709551616^k=X at*
 have e1:X/18446744073709551616%18446744073709551616*2%18446744073709551616*2^(63-s)%18446744073709551616=X/18446744073709551616%2^s*2^(64-s):=by
  rw[Nat.mod_mul_mod,xbl,<-xdM,(W:(63-s).succ=64-s)];rw[Nat.mod_mul_mod];generalize X/18446744073709551616=V;conv=>lhs;rw[e,xaL (2^(64-s))<|2^s]
  rw[xed]
 have g:X%18446744073709551616/2^s<2^(64-s):=by
  rw[xaS hp,<-e];exact xaM _ iI
 rw[e1,Nat.or_comm,Ly g];have b:X/2^s=X/18446744073709551616*2^(64-s)+X%18446744073709551616/2^s:=by
  have c:=xbp X 18446744073709551616;have h:X=X%18446744073709551616+2^s*(X/18446744073709551616*2^(64-s)):=by
   have:2^s*(X/18446744073709551616*2^(64-s))=18446744073709551616*(X/18446744073709551616):=by rw[e,xaL<|X/_,<-xbl,xaL<|2^s]
   lia
  conv=>lhs;rw[h]
  rw[xcA _ _ hp];lia
 rw[b];have d:X/18446744073709551616*2^(64-s)=X/18446744073709551616%2^s*2^(64-s)+18446744073709551616*(X/18446744073709551616/2^s):=by
  have c:=xbp (X/18446744073709551616)<|2^s;conv=>lhs;rw[<-c]
  rw[xaX,e,xaL (2^(64-s))<|2^s,xbl,xbl,xaL (2^(64-s))<|_/_];lia
 have l:X/18446744073709551616%2^s*2^(64-s)+2^(64-s)<=18446744073709551616:=by
  generalize X/18446744073709551616=V;rw[e,xaL (2^(64-s))<|2^s];have:=xan (2^(64-s))<|xaM V hp;rw[Nat.succ_mul]at this;exact this
 have i:X/18446744073709551616%2^s*2^(64-s)+X%18446744073709551616/2^s<18446744073709551616:=by
  clear d b e1 e0 h1;generalize X/18446744073709551616%2^s*2^(64-s)=m at*
  generalize X%18446744073709551616/2^s=V at*
  lia
 rw[d,Nat.add_right_comm,xcr,xam i]
theorem rk{n:K}(b:zm a)(hl:i7 a<=1000000)(hn:n<=1000000000)(q:2000000<fu):U3 fu a (n:J)=Z (yD<|A a/2^n):=by
 unfold U3;have e0:max (n:J) 0=(n:J):=W
 have e1:xcw (n:J) 64=((n/64:K):J):=O;have f:xbE (n:J) 64=((n%64:K):J):=O;have g:=qm b;have c:2^n=18446744073709551616^(n/64)*2^(n%64):=by
  rw[<-Hk,<-xbX,<-xbu];grind
 rw[Q,e0,xr iI,e1,zb];by_cases h:i7 a<=n/64
 ·rw[zP];have:A a/2^n=0:=by rw[c,<-xaG,xbi<|xaj g<|xau iI h,Nat.zero_div]
  rw[this];rfl
 ·rw[zA,xr iI,zb,yJ,yL,Q,xr iI,Q,f];have hd:=b.drop<|n/64;have hv:A (a.drop<|n/64)=A a/18446744073709551616^(n/64):=Mi b _;have⟨D,d⟩:∃D,D=a.drop (n/64):=⟨_,O⟩;rw[<-d]at hd hv⊢;have r:i7 D<=1000000:=by rw[d,xcf];lia
  have⟨s,e⟩:∃s,s=n%64:=⟨_,O⟩;have hc:s<64:=W
  have jN:=IL (step:=λk _=>(A D/2^s/18446744073709551616^k%18446744073709551616,0)) (X:=A D/2^s)<|λ_=>O;rw[<-e,Y<|j9 (step:=λk _=>(A D/2^s/18446744073709551616^k%18446744073709551616,0)) W W ?_]
  ·rw[jN];simp only;rw[Y (xm (wm _ _) (by rw[yc];lia)<|by rw[yc];lia),kK,xam<|xaK (xcE _ _)<|qm hd,hv,c,<-xaG,e]
  ·intro k i;rw[jN];unfold gm;have j:min (((1:K):J)).toNat 64=1:=iI
   have l:min (s:J).toNat 64=s:=W
   have m:(63:J)-(s:J)=((63-s:K):J):=W
   have o:min ((63-s:K):J).toNat 64=63-s:=W
   have p:(k:J)+1=((k+1:K):J):=W
   rw[zp i,Q,yL,Q,l,p,zb,Y (VK D W),Q,j,m,zb,yL,Q,o,Q,Kv hd,Kv hd,show(2:K)^1=2 from O,zgk hc]
end
section
variable{fu u v1 v0 v d x:wr}
def zaZ{w:K}(h1:9223372036854775808<=v1)(j:v1<18446744073709551616)(h0:v0<18446744073709551616)(f:u<v1*18446744073709551616+v0)(k:w<18446744073709551616)(b:u/v1<18446744073709551616)(l:10<fu):
 zg (Uh fu w v1 v0) fu (u/v1,u%v1)=Z ((u*18446744073709551616+w)/(v1*18446744073709551616+v0)):=by
 have hv:0<v1*18446744073709551616+v0:=W
 refine zw (λs:K×K=>∃q r,s=(q,r)/\q<18446744073709551616/\r<18446744073709551616/\q*v1+r=u/\(u*18446744073709551616+w)/(v1*18446744073709551616+v0)<=q) (λs=>2-s.2/9223372036854775808) _ ?_ _ _ ⟨_,_,O,b,?_,?_,?_⟩ (by show 2-u%v1/9223372036854775808<fu;lia)
 ·rintro s L ⟨q,r,rfl,b,m,c,e⟩ g;have n:q*v0<18446744073709551616*18446744073709551616:=xdF b h0;have a:∀(hc:18446744073709551616*r+w<q*v0),(if((0:K):J)<(((r+v1+0)/18446744073709551616:K):J)then Z ((q+18446744073709551616-1)%18446744073709551616)else L ((q+18446744073709551616-1)%18446744073709551616,(r+v1+0)%18446744073709551616))=Z ((u*18446744073709551616+w)/(v1*18446744073709551616+v0)):=by
   intro hc;have⟨d1,d2,d3⟩:=zgm hv c hc;have h:(q+18446744073709551616-1)%18446744073709551616=q-1:=W
   rw[h];by_cases hd:18446744073709551616<=r+v1
   ·rw[zP,<-tX hv d3 d1<|za8 (TD f h0 d3 hd) h0 hd]
   ·rw[zA];exact g _ ⟨_,_,O,W,W,by rw[(W:(r+v1+0)%18446744073709551616=r+v1)];exact d3,d1⟩ (by show 2-(r+v1+0)%18446744073709551616/9223372036854775808<2-r/9223372036854775808;lia)
  unfold Uh;simp only;rw[Y<|VN b h0];simp only[C];by_cases c1:q*v0/18446744073709551616<r
  ·rw[zP,<-tX hv c e]
  ·rw[zA];by_cases c2:q*v0/18446744073709551616=r
   ·rw[zP];by_cases o:q*v0%18446744073709551616<=w
    ·rw[zP,<-tX hv c e]
    ·rw[zA,yL];exact a W
   ·rw[zA,yL];exact a W
 ·have:=xaM u (W:0<v1);lia
 ·rw[xaL];exact xbp u v1
 ·rw[xcn W];have i:(u*18446744073709551616+w)/(v1*18446744073709551616+v0)*(v1*18446744073709551616+v0)<=u*18446744073709551616+w:=xcH _ _;generalize(u*18446744073709551616+w)/(v1*18446744073709551616+v0)=Q at*
  rw[xcj,<-xbl]at i;generalize Q*v1=A at*
  lia
def CN{a b c:K}(h1:9223372036854775808<=v1)(e:v1<18446744073709551616)(h0:v0<18446744073709551616)(b1:b<18446744073709551616)(b0:c<18446744073709551616)(f:10<fu):
 KO fu a b c v1 v0=Z (if v1<=a then 18446744073709551615 else((a*18446744073709551616+b)*18446744073709551616+c)/(v1*18446744073709551616+v0)):=by
 unfold KO;by_cases h:v1<=a
 ·simp_all
 ·have g:(a*18446744073709551616+b)/v1<18446744073709551616:=by
   rw[xaS W];lia
  rw[zA,ir h,Y<|VE b1 e W f];simp only;rw[Y<|zaZ h1 e h0 ?_ b0 g f];lia
def zj0{q:K}(hd:0<d)(hv:0<v/d)(h:q*v<=u):q<=u/d/(v/d):=by
 refine(xcn hv).2<|(xcn hd).2 ?_;refine xae ?_ h;rw[xbl];exact xaA _<|xcH v d
def zkM{B:K}(hd:0<d)(a:x*(v/d)<=u/d)(b:x<=B)(hv:B*d<=v):x*v<=u+v:=by
 have h1:x*v<=x*(v/d*d+d):=xaA _ (by have h:=xbp v d;have:=xaM v hd;rw[xaL d]at h;lia);have c:x*(v/d*d+d)=x*(v/d)*d+x*d:=by rw[xcj,xbl]
 have e:=xae (xan _ a)<|xcH u d;have f:x*d<=B*d:=xan _ b;lia
def TN{U V D:K}(b:0<D)(f:9223372036854775808*(18446744073709551616*D)<=V)(m:V<18446744073709551616*(18446744073709551616*D))(g:U<V*18446744073709551616)(a:x=if V/D/18446744073709551616<=U/D/18446744073709551616/18446744073709551616 then 18446744073709551615 else U/D/(V/D)):U/V<=x/\x<=U/V+1/\x<18446744073709551616:=by
 have e:0<V:=W
 have n:U/V<18446744073709551616:=by rw[xaS e,xaL];exact g
 have o:9223372036854775808*18446744073709551616<=V/D:=by rw[xcn b,xbl];exact f
 have up:∀{x:K},x*V<=U+V->x<=U/V+1:=λ{x} h=>by
  have:x<=(U+V)/V:=(xcn e).2 h;simp_all
 by_cases h:V/D/18446744073709551616<=U/D/18446744073709551616/18446744073709551616
 ·rw[iq h]at a;subst a;refine⟨W,up ?_,iI⟩;have e1:V/D/18446744073709551616=V/(D*18446744073709551616):=xaG ..;have i:U/D/18446744073709551616/18446744073709551616=U/(D*18446744073709551616*18446744073709551616):=by rw[xaG,xaG,<-xbl]
  rw[e1,i]at h;have j:0<D*18446744073709551616:=W
  have k1:=xcH U<|D*18446744073709551616*18446744073709551616;have k2:V<(V/(D*18446744073709551616)+1)*(D*18446744073709551616):=by
   have h1:=xbp V<|D*18446744073709551616;have p:=xaM V j;rw[xaX,xbN,xaL];lia
  have k:V/(D*18446744073709551616)*(D*18446744073709551616*18446744073709551616)<=U:=xae (xan _ h) k1;rw[<-xbl]at k;have l:18446744073709551615*V<=18446744073709551615*((V/(D*18446744073709551616)+1)*(D*18446744073709551616)):=xaA _<|xdw k2;rw[xaX,xbN]at l;generalize V/(D*18446744073709551616)*(D*18446744073709551616)=A at*
  lia
 ·rw[ir h]at a;have hc:x<=18446744073709551616:=by
   rw[a];have c:U/D/18446744073709551616/18446744073709551616<V/D/18446744073709551616:=xdk h;have h1:U/D<(V/D)*18446744073709551616+18446744073709551616*18446744073709551616:=W
   have:U/D<=18446744073709551616*(V/D)+(V/D):=W
   refine Nat.le_of_lt_succ<|(xaS W).2 ?_;rw[Nat.succ_mul];lia
  have hd:U/V<=x:=by
   rw[a];exact zj0 b W<|xcH U V
  have c:x<18446744073709551616:=by
   rw[a,xaS W];have c:U/D/18446744073709551616/18446744073709551616<V/D/18446744073709551616:=xdk h;lia
  refine⟨hd,up<|zkM b (B:=18446744073709551616) ?_ hc ?_,c⟩
  ·rw[a];exact xcH _ _
  ·lia
end
section
variable{fu V k y:wr}{s:wl}{v t:xS wr}
def FZ{n P x0:K}(hv:zm v)(a:X v=n)(b:A v=V)(d:zm t)(hi:X t=n+1)(e:A t=P)(hc:0<V)(h1:P/V<=x0)(f:x0<=P/V+1)(g:x0<18446744073709551616)(hn:n<=500000)(r:2000000<fu):
 zg (dp fu v) fu (s,(n:J),x0,t)=Z (s,(n:J),P/V,t):=by
 have hd:V<18446744073709551616^n:=by rw[<-b,<-a];exact qm hv
 refine zw (λq:J×J×K×N K=>∃x,q=(s,(n:J),x,t)/\P/V<=x/\x<=P/V+1/\x<18446744073709551616) (λq=>q.2.2.1-P/V) _ ?_ _ _ ⟨x0,O,h1,f,g⟩ (by show x0-P/V<fu;lia);rintro q L ⟨x,rfl,g1,u,i⟩ j;unfold dp;simp only;have l:V*x<18446744073709551616^(n+1):=by
  rw[xbq]
  calc V*x<=V*18446744073709551616:=xaA _ W
   _<_:=xbT hd iI
 rw[Y<|aN hv i,Y (bK (wm _ _) d<|by rw[yc];lia),kK,b,a,xam l,e];have w:=xbp P V;have z:=xaM P hc;by_cases h:x=P/V
 ·have hl:V*x<=P:=by rw[h];lia
  have m:¬(0:J)<jy ((V*x:K):J) (P:J):=by
   rcases xbS (V*x) P with hh|hh
   ·rw[qf W];decide
   ·rw[jX W];decide
  rw[ir m,h]
 ·have c:x=P/V+1:=W
  have o:P<V*x:=by rw[c,xcj,xdn];lia
  have B:0<x:=by rw[c];exact Nat.succ_pos _
  have p:(P:J)<((V*x:K):J):=Int.ofNat_lt.2 o;rw[vM p,iq iI,Q,(W:(x+18446744073709551616-1)%18446744073709551616=x-1)];exact j _ ⟨x-1,O,W,W,W⟩ (by show x-1-P/V<x-P/V;lia)
def zh5{j:K}(a:zm t)(hl:X t<=k)(b:k<=j):(t++Nm j 0).take k=vu k (A t):=by
 refine sF ((a.append<|zm.replicate _).take _) (wm _ _) (by rw[yc,xas,xaq,xaT];lia) ?_;rw[B3<|a.append<|zm.replicate _,uy,XI,xcQ,xbO,kK]
def zei{n e a:K}{L:N K×J×N K×N K->ww (N K×N K)}(hv:zm v)(hl:X v=n)(o:A v=V)(hQ:2<=n)(hc:9223372036854775808*18446744073709551616^(n-1)<=V)(f:zm t)(hR:X t=e+n)(hk:k<e)(hb:e+n<=500000)(hf:2000000<fu)(hT:A t=a/18446744073709551616^(k+1)%V*18446744073709551616^(k+1)+a%18446744073709551616^(k+1)):
 ∃q,zm q/\X q=e+n/\A q=a/18446744073709551616^k%V*18446744073709551616^k+a%18446744073709551616^k/\
  Vv fu s v L (v,(k:J),t,Nm (k+1) 0++vu (e-(k+1)) (a/18446744073709551616^(k+1)/V))=L (v,(k:J)-1,q,Nm k 0++vu (e-k) (a/18446744073709551616^k/V)):=by
 have hd:V<18446744073709551616^n:=by rw[<-o,<-hl];exact qm hv
 have R:0<18446744073709551616^k:=xaV iI;have h:0<V:=by
  have:0<18446744073709551616^(n-1):=xaV iI;lia
 have⟨T,hn⟩:∃T,T=a/18446744073709551616^(k+1)%V:=⟨_,O⟩;have⟨g,z⟩:∃g,g=a/18446744073709551616^k%18446744073709551616:=⟨_,O⟩;have hp:g<18446744073709551616:=by rw[z];exact xaM _ iI
 have hH:T<V:=by rw[hn];exact xaM _ h
 have⟨P,S⟩:∃P,P=T*18446744073709551616+g:=⟨_,O⟩;have U:=tC a k;rw[<-z]at U;have⟨k1,k2⟩:=mN (x:=0) (b:=18446744073709551616) (y:=V) (w1:=a/18446744073709551616^(k+1)) (w0:=g) h iI hp;rw[xcx,xaJ,<-U,<-hn,<-S]at k1 k2;have hx:a%18446744073709551616^(k+1)=g*18446744073709551616^k+a%18446744073709551616^k:=by rw[xbq,Nat.mod_mul,z,xaL];lia
 have r:P<V*18446744073709551616:=by
  have:(T+1)*18446744073709551616<=V*18446744073709551616:=xan _ hH;lia
 have hy:A t=P*18446744073709551616^k+a%18446744073709551616^k:=by rw[hT,<-hn,hx,S,xaX,xbq,xaL<|18446744073709551616^k,xbl];lia
 have hA:=xaM a R;have B:A t/18446744073709551616^k=P:=by rw[hy,xdO,Nat.add_mul_div_right _ _ R,xbi hA,xaJ]
 have hI:A t%18446744073709551616^k=a%18446744073709551616^k:=by rw[hy,xdO,Nat.add_mul_mod_self_right,Nat.mod_mod]
 have⟨D,u⟩:∃D,D=18446744073709551616^(n-2):=⟨_,O⟩;have hJ:0<D:=by rw[u];exact xaV iI
 have c:18446744073709551616^(n-1)=18446744073709551616*D:=by rw[u,<-xdM,(W:(n-2).succ=n-1)]
 have en:18446744073709551616^n=18446744073709551616*(18446744073709551616*D):=by rw[<-c,<-xdM,(W:(n-1).succ=n)]
 rw[c]at hc;have C:=hd;rw[en]at C;have E:∀j,t.getD (k+j) 0=P/18446744073709551616^j%18446744073709551616:=λj=>by rw[Kv f,xbu,<-xaG,B]
 have gv:∀j,v.getD j 0=V/18446744073709551616^j%18446744073709551616:=λj=>by rw[Kv hv,o]
 have i:P/18446744073709551616^n=P/D/18446744073709551616/18446744073709551616:=by rw[en,xaG,xaG];congr 1;lia
 have m:P/18446744073709551616^(n-1)=P/D/18446744073709551616:=by rw[c,xaG,xaL D]
 have d:V/18446744073709551616^(n-1)=V/D/18446744073709551616:=by rw[c,xaG,xaL D]
 have hK:P/D/18446744073709551616/18446744073709551616<18446744073709551616:=by
  rw[<-i,xaS (xaV iI),xaL];exact xeZ r<|xbT hd iI
 have hB:V/D/18446744073709551616<18446744073709551616:=by
  rw[<-d,xaS (xaV iI),c];exact C
 have hr:9223372036854775808<=V/D/18446744073709551616:=by
  rw[<-d,xcn (xaV iI),c];exact hc
 have m1:t.getD (k+n) 0=P/D/18446744073709551616/18446744073709551616:=by rw[E,i,xam hK]
 have m2:t.getD (k+n-1) 0=P/D/18446744073709551616%18446744073709551616:=by rw[(W:k+n-1=k+(n-1)),E,m]
 have m3:t.getD (k+n-2) 0=P/D%18446744073709551616:=by rw[(W:k+n-2=k+(n-2)),E,<-u]
 have m4:v.getD (n-1) 0=V/D/18446744073709551616:=by rw[gv,d,xam hB]
 have m5:v.getD (n-2) 0=V/D%18446744073709551616:=by rw[gv,<-u]
 have eg:((P/D/18446744073709551616/18446744073709551616*18446744073709551616+P/D/18446744073709551616%18446744073709551616)*18446744073709551616+P/D%18446744073709551616)/(V/D/18446744073709551616*18446744073709551616+V/D%18446744073709551616)=P/D/(V/D):=by
  generalize P/D=p;generalize V/D=w;rw[(W:(p/18446744073709551616/18446744073709551616*18446744073709551616+p/18446744073709551616%18446744073709551616)*18446744073709551616+p%18446744073709551616=p),(W:w/18446744073709551616*18446744073709551616+w%18446744073709551616=w)]
 have⟨x0,hC⟩:∃x0,x0=if V/D/18446744073709551616<=P/D/18446744073709551616/18446744073709551616 then 18446744073709551615 else P/D/(V/D):=⟨_,O⟩;have⟨n1,n2,n3⟩:=TN hJ hc C r hC;have hE:zm (xdu (k+n+1-k)<|xdI k t):=(f.drop k).take _;have F:X (xdu (k+n+1-k)<|xdI k t)=n+1:=by rw[xas,xcf];lia
 have G:P<18446744073709551616^(n+1):=by
  rw[xbq];exact xeZ r<|xbT hd iI
 have hi:A (xdu (k+n+1-k)<|xdI k t)=P:=by rw[B3<|f.drop k,Mi f,B,(W:k+n+1-k=n+1),xam G]
 have H:P/V<18446744073709551616:=by rw[xaS h,xaL];exact r
 have hF:V*(P/V)<=P:=Nat.mul_div_le P V;have hG:A (vu (n+1)<|V*(P/V))=V*(P/V):=by rw[kK,xam W]
 have hL:P-V*(P/V)=P%V:=by have:=xbp P V;lia
 have hN:=xaM P h;have hO:X (yD<|P%V)<=n:=(zK _ _).2 W;refine⟨xdu k t++vu (n+1) (P%V)++xdI (k+(n+1)) t,((f.take _).append<|wm _ _).append<|f.drop _,?_,?_,?_⟩
 ·rw[xaq,xaq,xas,yc,xcf];lia
 ·have hz:A (xdI (k+(n+1)) t)=0:=by rw[Mi f,xbu,<-xaG,B,xbi G]
  have hM:P%V<18446744073709551616^(n+1):=xaK (Nat.mod_le _ _) G;rw[uy,hz,xcQ,xbO,uy,B3 f,hI,kK,xam hM,xas,(W:min k (X t)=k),<-k2,xaL];lia
 ·unfold Vv;simp only;have c1:(k:J)+(X v:J)=((k+n:K):J):=W
  have c2:((k+n:K):J)-1=((k+n-1:K):J):=W
  have c3:((k+n:K):J)-2=((k+n-2:K):J):=W
  have c4:(X v:J)-1=((n-1:K):J):=W
  have c5:(X v:J)-2=((n-2:K):J):=W
  have c6:((k+n:K):J)+1=((k+n+1:K):J):=W
  rw[zP,c1,zb,yj,Q,zb,c2,zb,yj,Q,zb,c3,zb,yj,Q,c4,zb,yj,Q,c5,zb,yj,Q];rw[m1,m2,m3,m4,m5,Y (CN hr hB (xaM _ iI) (xaM _ iI) (xaM _ iI) W),eg,<-hC];rw[zb,c6,zb,yJ,yJ,xr ⟨W,W⟩,Q,xr (by rw[F];simp;lia),Q,xbH];rw[hl,Y<|FZ hv hl o hE F hi h n1 n2 n3 W hf];simp only;have c7:(n:J)+1=((n+1:K):J):=W
  rw[zp (by simp;lia),Q,zb9,yJ,yL,Y<|aN hv H,hl,o,Y (UD hE (wm _ _) W (by rw[yc];lia) (by rw[F,yc];lia)<|by rw[hi,hG];exact hF),hi,hG,hL];rw[c7,zb,yJ,yL,Q,zb,yJ,xr iP,Q,zh5 (zz _) W<|IR _,ye,Q,zb];have M:lZ k (X t-k) t (vu (n+1)<|P%V)=xdu k t++vu (n+1) (P%V)++xdI (k+(n+1)) t:=by
   unfold lZ;rw[yc,(W:min (n+1) (X t-k)=n+1),xaW (l:=vu (n+1)<|P%V)<|by rw[yc];exact IR _]
  rw[M];have e2:e-k=(e-(k+1))+1:=W
  have e3:vu (e-k) (a/18446744073709551616^k/V)=P/V::vu (e-(k+1)) (a/18446744073709551616^(k+1)/V):=by rw[e2,H0,k1,(oj H).1,(oj H).2]
  rw[e3]
theorem zai(h:0<y):2^(bl y-1)<=y:=by
 refine xbs λa=> ?_;have h1:=Jt a;grind
theorem zkn{n s:K}(a:0<y)(hn:n=X (yD y))(f:s=64-bl ((yD y).getD (n-1) 0)):s<=63/\9223372036854775808*18446744073709551616^(n-1)<=y*2^s/\y*2^s<18446744073709551616^n/\X (yD<|y*2^s)=n:=by
 have hc:=vF a;have c:=Fv a;rw[<-hn]at c;have g:(yD y).getD (n-1) 0≠0:=by rw[hn];exact zfh a
 have d:=(zz y).getD<|n-1;have⟨b1,_,_⟩:=SL (y:=(yD y).getD (n-1) 0) W d;have b2:1<=bl ((yD y).getD (n-1) 0):=by rw[aH];lia
 have e1:18446744073709551616^n=2^bl y*2^s:=by
  rw[<-Hk,<-xbX,<-xbu];grind
 have e:9223372036854775808*18446744073709551616^(n-1)=2^(bl y-1)*2^s:=by
  rw[<-Hk,<-xbX,<-xbu,(iI:(9223372036854775808:K)=2^63),<-xbu];grind
 have g1:9223372036854775808*18446744073709551616^(n-1)<=y*2^s:=by rw[e];exact xan _<|zai a
 have b:y*2^s<18446744073709551616^n:=by rw[e1];exact xbT (AI y)<|xaV iI
 refine⟨W,g1,b,xcG ((zK _ _).2 b)<|xbs λh=> ?_⟩;have:=(zK (n-1)<|y*2^s).1 W;have hp:0<18446744073709551616^(n-1):=xaV iI;lia
def oC{a b:N K}(r:zm a)(u:zm b)(hC:X a<=200000)(hD:X b<=200000)(hf:3000000<=fu):
 UI fu a b=Z (if A b=0 then([],[],3)else(yD<|A a/A b,yD<|A a%A b,0)):=by
 unfold UI;have h1:=xb r;have h2:=xb u;rw[Y (xZ r W W),Y<|xZ u W W];generalize A a=x at*
 generalize A b=y at*
 by_cases h0:y=0
 ·subst h0;rw[iq O];rfl
 ·have hE:=vF (n:=y) W;rw[zA,Y O,ir h0];simp only[xar,uS];rw[Y<|bK (zz x)<|zz y,ye,ye];by_cases w:x<y
  ·rw[qf W,iq iI,Y O];simp only[uP];rw[Y<|Ve<|zz x,ye,xbi w,xam w];rfl
  ·have hv:¬jy (x:J) (y:J)<0:=by
    obtain h|h:=xbS y x
    ·rw[vM W];decide
    ·rw[jX W];decide
   rw[ir hv,Y O];simp only[xar,uS];have⟨n,hn⟩:∃n,n=X (yD y):=⟨_,O⟩;have hi:=(zz y).getD<|n-1;by_cases hA:n=1
   ·have P:(yD y).getD 0 0=y:=by
     rw[Xh,xeJ,xdU,xam];have:=(zK 1 y).1 W;simpa using this
    have R:y<18446744073709551616:=by have:=(zK 1 y).1 W;simpa using this
    rw[zP,show(0:J)=((0:K):J)from O,yj,Q,P,Y (DM (zz x) R W W W),ye];simp only;have S:=xaM x (W:0<y);rw[Y (xm (dP W) iP<|by simp;lia),EE]
   ·have⟨s,z⟩:∃s,s=64-bl ((yD y).getD (n-1) 0):=⟨_,O⟩;have⟨f,v1,B,v3⟩:=zkn W hn z;have⟨V,g⟩:∃V,V=y*2^s:=⟨_,O⟩;have⟨U,e⟩:∃U,U=x*2^s:=⟨_,O⟩;have⟨d,T⟩:∃d,d=X (yD x):=⟨_,O⟩;have hB:n<=d:=by rw[hn,T];exact JB W
    have C:x<18446744073709551616^d:=(zK d x).1 W;have hl:2^s<=9223372036854775808:=by
     rw[(iI:(9223372036854775808:K)=2^63)];exact xau iI f
    have hy:U<18446744073709551616^(d+1):=by
     rw[e,xbq];exact xaj (xbT C<|xaV iI)<|xaA _ W
    have hF:X (yD U)<=d+1:=(zK _ _).2 hy;rw[<-g]at v1 B v3;have e1:(((X (yD y):K):J))-1=((n-1:K):J):=W
    rw[zA,e1,zb,yj,Q,Y<|kI hi,<-z,Y<|QZ<|zz y,ye,<-g];simp only;rw[Y<|QZ<|zz x,ye,<-e];simp only;have e2:(((X (yD x):K):J))+1=((d+1:K):J):=W
    have e3:((d+1:K):J)-((X (yD U):K):J)=((d+1-X (yD U):K):J):=W
    rw[e2,zb,e3,zb,yJ,yL,Q];have⟨t8,hc⟩:∃t8,t8=yD U++Nm (d+1-X (yD U)) 0:=⟨_,O⟩;have i:zm t8:=by rw[hc];exact(zz U).append<|zm.replicate _
    have a0:X t8=d+1:=by rw[hc,xaq,xaT];lia
    have j:A t8=U:=by rw[hc,uy,XI,xcQ,xbO,ye]
    have⟨c,hG⟩:∃c,c=d+1-n:=⟨_,O⟩;have e4:(X t8:J)-((X (yD V):K):J)=(c:J):=W
    rw[<-hc,e4,zb,yJ,yL,Q,xaT,zb];have D:0<V:=by
     have:0<18446744073709551616^(n-1):=xaV iI;lia
    have hz:0<18446744073709551616^c:=xaV iI;have E:U<18446744073709551616^c*V:=by
     have k1:18446744073709551616^c*(9223372036854775808*18446744073709551616^(n-1))<=18446744073709551616^c*V:=xaA _ v1;have k2:18446744073709551616^c*(9223372036854775808*18446744073709551616^(n-1))=18446744073709551616^d*9223372036854775808:=by
      rw[xaL 9223372036854775808,<-xbl,<-xbu];congr 2;lia
     have k3:U<18446744073709551616^d*9223372036854775808:=by
      rw[e];exact xaj (xbT C<|xaV iI)<|xaA _ hl
     lia
    have F:U/18446744073709551616^c<V:=by rw[xaS hz,xaL];exact E
    have l:∃t,zm t/\X t=c+n/\A t=U%V/\zg (Vv fu (s:J)<|yD V) fu (yD V,(c:J)-1,t8,Nm c 0)=Z (t,vu c<|U/V):=by
     refine⟨vu (c+n)<|U%V,wm _ _,yc _ _,?_,?_⟩
     ·rw[kK,xam];have h5:=xaM U D;exact xaj (xeZ h5 B)<|xau iI W
     ·refine zw (λq:N K×J×N K×N K=>∃(m:K) (t:N K),m<=c/\zm t/\X t=c+n/\A t=U/18446744073709551616^m%V*18446744073709551616^m+U%18446744073709551616^m/\q=(yD V,(m:J)-1,t,Nm m 0++vu (c-m) (U/18446744073709551616^m/V))) (λq=>(q.2.1+1).toNat) _ ?_ _ _ ⟨c,t8,IR _,i,W,?_,?_⟩ (by show((c:J)-1+1).toNat<fu;lia)
      ·rintro q L ⟨m,t,S,G,H,hd,rfl⟩ ih
       cases m with
       |zero=>
        unfold Vv;simp only;rw[zA];rw[xeJ,xdn,Nat.mod_one,xbO,xdU]at hd;have:=gR G;rw[H,hd]at this;rw[this];simp
       |succ m=>
        have⟨t',g1,M,o,p⟩:=zei (fu:=fu) (k:=m) (s:=(s:J)) (L:=L) (zz V) v3 (ye V) W v1 G H W W W hd;rw[(W:((m+1:K):J)-1=(m:J)),p];exact ih _ ⟨m,t',W,g1,M,o,O⟩ (by show((m:J)-1+1).toNat<(((m+1:K):J)-1+1).toNat;lia)
      ·rw[j,xam F,xaL];exact(xbp U _).symm
      ·rw[xbi F,xdb];simp[vu]
    have⟨t,g1,M,o,p⟩:=l;rw[Y p];simp only;have he:U/V<18446744073709551616^c:=by rw[xaS D];exact E
    have hp:0<2^s:=xaV iI;rw[Y (xm (wm _ _) (by rw[yc];lia)<|by rw[yc];lia),kK,xam he,Y (rk g1 W W W),o];rw[e,g,xfz _ _ hp,xed,Nat.mul_div_cancel _ hp]
end
section
variable{x:xS wr}{i d0 fu U y j r:wr}
theorem Lr{t:N K}{c:K}(a:X t=i)(h:nw t+4294967296^i*c=2*nw (x.take i)+d0):
 nw (t++[(x.getD i 0*2+c)%4294967296])+4294967296^(i+1)*((x.getD i 0*2+c)/4294967296)=2*nw (x.take<|i+1)+d0:=by
 rw[BY,kL];have:=xbp (x.getD i 0*2+c) 4294967296;grind
def zki{t1 t2:N K}(g:xi x)(hl:X x<=1000000)(hd:d0<=1)(v:2000000<fu):
 ∃t d,zg (Uy fu x) fu (t1,t2,[],d0,0)=Z (t1,t2,t,d)/\xi (t++[d])/\X t=X x/\nw (t++[d])=2*nw x+d0:=by
 have w:=QC g;have⟨T,f⟩:∃T,T=kY (X x+1) (2*nw x+d0):=⟨_,O⟩;have n:2*nw x+d0<4294967296^(X x+1):=by rw[xbq];lia
 have o:X T=X x+1:=by rw[f,yX]
 have h:nw T=2*nw x+d0:=by rw[f,Xv,xam n]
 have k:xi T:=by rw[f];exact q7 _ _
 have l:T=T.take (X x)++[T.getD (X x) 0]:=by
  have e:=(xbA (X x) T).symm;have b:T.drop (X x)=[T.getD (X x) 0]:=by
   rw[xcb W,xbW W,xaa,xak W];rfl
  rw[b]at e;exact e
 refine⟨T.take (X x),T.getD (X x) 0,?_,by rw[<-l];exact k,by rw[xas];lia,by rw[<-l];exact h⟩;refine zw (λs:N K×N K×N K×K×J=>∃(t:N K) (c i:K),s=(t1,t2,t,c,(i:J))/\i<=X x/\X t=i/\xi t/\c<=1/\nw t+4294967296^i*c=2*nw (x.take i)+d0) (λs=>X x-s.2.2.2.2.toNat) _ ?_ _ _ ⟨[],d0,0,O,W,O,xi.nil,hd,by simp[nw]⟩ (by show X x-0<fu;lia);rintro s L ⟨t,c,i,rfl,hi,a,m,hc,hv⟩ p;unfold Uy;simp only;by_cases h1:i<X x
 ·have b1:=g.getD i;have b:(x.getD i 0*2%18446744073709551616+c)%18446744073709551616=x.getD i 0*2+c:=W
  have q:x.getD i 0/2^(min (((31:K)):J).toNat 64)=(x.getD i 0*2+c)/4294967296:=by
   rw[(iI:min (((31:K)):J).toNat 64=31)];lia
  rw[zP,zp h1,Q,Q,Q,b,Q,Da,xr (by simp[a];lia),Q,zp h1,Q,Q,q,zb];exact p _ ⟨_,_,i+1,O,W,by simp[a],m.append<|xi.cons (xaM _ iI) xi.nil,W,Lr a hv⟩ (by show X x-((i:J)+1).toNat<X x-(i:J).toNat;lia)
 ·rw[zA];obtain rfl:i=X x:=W
  rw[xcJ]at hv;have u:xi (t++[c]):=m.append<|xi.cons W xi.nil;have:T=t++[c]:=by
   refine DR k u (by simp[a,o]) ?_;rw[h,BY,a,hv]
  have e1:T.take (X x)=t:=by rw[this,<-a];simp
  have b:T.getD (X x) 0=c:=by rw[this,<-a];simp[xaa]
  rw[e1,b]
theorem zmE(b:0<y):(y<=2*(U/2^(i+1)%y)+U/2^i%2->U/2^i/y=2*(U/2^(i+1)/y)+1/\U/2^i%y=2*(U/2^(i+1)%y)+U/2^i%2-y)/\(2*(U/2^(i+1)%y)+U/2^i%2<y->U/2^i/y=2*(U/2^(i+1)/y)/\U/2^i%y=2*(U/2^(i+1)%y)+U/2^i%2):=by
 have d:U/2^(i+1)=U/2^i/2:=by rw[xbq,xaG]
 rw[d];generalize U/2^i=V;have h1:=xbp (V/2) y;have e:=xaM (V/2) b;generalize V/2/y=q at*
 generalize V/2%y=r at*
 have a:∀Q R,V=y*Q+R->R<y->V/y=Q/\V%y=R:=λQ R h c=>by
  rw[h];exact⟨by rw[Nat.mul_add_div b,xbi c,xbO],by rw[Nat.mul_add_mod,xam c]⟩
 refine⟨λh=>a _ _ ?_ W,λh=>a _ _ ?_ W⟩
 ·grind
 ·grind
def zq0(x:K):x &&& 1=x%2:=Nat.and_two_pow_sub_one_eq_mod x 1
def zdZ(a:r<32):U/4294967296^j%4294967296/2^r%2=U/2^(32*j+r)%2:=by
 rw[xbu,xbX,(iI:2^32=4294967296),<-xaG];rw[show 4294967296=2^r*2^(32-r)by rw[<-xbu,(W:r+(32-r)=32)],Nat.mod_mul_right_div_self,show 2^(32-r)=2*2^(31-r)by rw[<-xdM,(W:(31-r).succ=32-r)],Nat.mod_mul_right_mod]
def zm7{Q:K}(d:r<32):(Q*2^(32*j+r+1)/4294967296^j%4294967296)|||1*2^r%18446744073709551616=Q*2^(32*j+r+1)/4294967296^j%4294967296+2^r/\Q*2^(32*j+r+1)/4294967296^j%4294967296+2^r<4294967296:=by
 have e1:Q*2^(32*j+r+1)/4294967296^j=Q*2^(r+1):=by rw[xcM,xbu,xbX,(iI:(2:K)^32=4294967296),xfp,Nat.mul_div_cancel_left _<|xaV iI]
 have b:Q*2^(r+1)%4294967296=Q%2^(31-r)*2^(r+1):=by rw[show(4294967296:K)=2^(31-r)*2^(r+1)by rw[<-xbu,(W:31-r+(r+1)=32)],xed]
 have h1:2^r<2^(r+1):=xdJ iI W;have e:2^r<=2147483648:=by
  rw[(iI:(2147483648:K)=2^31)];exact xau iI W
 rw[e1,b,xbN,xam (a:=2^r) W,Ly h1];refine⟨O,?_⟩;have c:(Q%2^(31-r)+1)*2^(r+1)<=2^(31-r)*2^(r+1):=xan _ (xaM _<|xaV iI);rw[<-xbu,(W:31-r+(r+1)=32),xaX,xbN]at c;lia
def zfY(k:0<y)(hu:X (VF U)<=80000)(A:X (VF y)<=80000)(hf:3000000<=fu):
 zg (K3 fu (VF y)<|VF U) fu ([],32*((X (VF U):K):J)-1,Nm (X (VF U)) 0)=Z (VF<|U%y,kY (X (VF U))<|U/y):=by
 have⟨n,hn⟩:∃n,n=X (VF U):=⟨_,O⟩;have c:U<2^(32*n):=by
  rw[xbX,(iI:(2:K)^32=4294967296)];exact(ve _ _).1 W
 rw[<-hn];refine zw (λs:N K×J×N K=>∃(m:K),m<=32*n/\s=(VF<|U/2^m%y,(m:J)-1,kY n<|U/2^m/y*2^m)) (λs=>(s.2.1+1).toNat) _ ?_ _ _ ⟨32*n,IR _,?_⟩ (by show(32*(n:J)-1+1).toNat<fu;lia)
 ·rintro s L ⟨m,hm,rfl⟩ l;unfold K3;simp only
  cases m with
  |zero=>rw[zA,xeJ,xdU,xdn]
  |succ i=>
   have⟨j,B⟩:∃j,j=i/32:=⟨_,O⟩;have⟨r,C⟩:∃r,r=i%32:=⟨_,O⟩;have hd:r<32:=W
   have hi:i=32*j+r:=W
   have D:((i+1:K):J)-1=(i:J):=W
   have E:xcw (i:J) (32:J)=(j:J):=by rw[B];rfl
   have F:xbE (i:J) (32:J)=(r:J):=by rw[C];rfl
   have b:j<n:=W
   have a:min (r:J).toNat 64=r:=W
   have G:(VF U).getD j 0=U/4294967296^j%4294967296:=by rw[aI<|qC U,qY]
   have H:(VF U).getD j 0/2^r%2=U/2^i%2:=by rw[G,zdZ hd,<-hi]
   have o:=xaM (U/2^(i+1)) k;have⟨R,e⟩:∃R,R=U/2^(i+1)%y:=⟨_,O⟩;rw[<-e]at o;have hv:y<4294967296^X (VF y):=(ve _ _).1<|IR _;have hz:X (VF R)<=80000:=xae ((ve (X (VF y)) R).2<|xeZ o hv) A;have hl:X (VF<|2*R+U/2^i%2)<=1000000:=by
    refine xae ((ve (X (VF y)+1) _).2 ?_) (W:X (VF y)+1<=1000000);rw[xbq];lia
   have⟨t,d,g1,M,f,p⟩:=zki (fu:=fu) (d0:=U/2^i%2) (t1:=VF y) (t2:=VF U) (qC R) W W W;rw[qY]at p;have⟨q,u⟩:=zmE (U:=U) (i:=i) k;rw[<-e]at q u;have P:U/2^(i+1)/y*2^(i+1)<4294967296^n:=by
    rw[show(4294967296:K)^n=2^(32*n)by rw[xbX,(iI:(2:K)^32=4294967296)]];refine xaK ?_ c;exact xae (xan _<|xcE _ _)<|xcH _ _
   have v:2*(U/2^(i+1)/y)*2^i=U/2^(i+1)/y*2^(i+1):=by rw[xbq,xaL<|2^i,<-xbl,xaL 2]
   rw[D,<-e,zP,xr iI,E,zb,yj,ze,xr iI,F,ze,yL,ze,a,ze,zq0,H];rw[Y g1];simp only;rw[xr (by simp[f];lia),ze,Y (Kf M (by simp[f];lia)<|by simp[f];lia),p,Y (J3 (fu:=fu) (qC _) (qC y) ?_ W W),qY,qY];by_cases hc:y<=2*R+U/2^i%2
   ·have⟨w1,g⟩:=q hc;have S:(0:J)<=jy ((2*R+U/2^i%2:K):J) (y:J):=by
     rcases xbS y (2*R+U/2^i%2)with h|h
     ·rw[vM<|Int.ofNat_lt.2 h];decide
     ·rw[jX<|by rw[xcG h hc]];decide
    have⟨o1,o2⟩:=zm7 (Q:=U/2^(i+1)/y) (j:=j) hd;rw[<-hi]at o1 o2;have w:(kY n<|U/2^(i+1)/y*2^(i+1)).getD j 0=U/2^(i+1)/y*2^(i+1)/4294967296^j%4294967296:=Iz _ _ _ b;have hp:(kY n<|U/2^(i+1)/y*2^(i+1)).set j (U/2^(i+1)/y*2^(i+1)/4294967296^j%4294967296+2^r)=kY n (U/2^i/y*2^i):=by
     refine DR ((q7 _ _).set j o2) (q7 _ _) (by rw[xbt,yX,yX]) ?_;have h1:=NN (kY n<|U/2^(i+1)/y*2^(i+1)) j (U/2^(i+1)/y*2^(i+1)/4294967296^j%4294967296+2^r) (by rw[yX];exact b);rw[w,Xv,xam P,xcj]at h1;have h2:4294967296^j*2^r=2^i:=by rw[hi,xbu,xbX,(iI:(2:K)^32=4294967296)]
     have T:U/2^i/y*2^i=U/2^(i+1)/y*2^(i+1)+2^i:=by rw[w1,xaX,xbN,v]
     have V:U/2^i/y*2^i<4294967296^n:=by
      rw[show(4294967296:K)^n=2^(32*n)by rw[xbX,(iI:(2:K)^32=4294967296)]];refine xaK ?_ c;exact xae (xan _<|xcE _ _)<|xcH _ _
     rw[Xv,xam V,T];lia
    rw[iq S,Y O,iq O,Y (bW (fu:=fu) (qC _) (qC y) hl W<|by rw[qY,qY];exact hc),qY,qY];rw[xr iI,zb,xr iI,zb,zp (by rw[yX];exact b),ze,xr iI,ze,yL,a,ze,ze,w,o1,zp (by rw[yX];exact b),ze,hp,zb,<-g];exact l _ ⟨i,W,O⟩ (by show((i:J)-1+1).toNat<(((i+1:K):J)-1+1).toNat;lia)
   ·have z:=xdk hc;have⟨w1,g⟩:=u z;rw[qf<|Int.ofNat_lt.2 z,ir iI,Y O];simp only[xar,uS];rw[zb,<-g,<-v,<-w1];exact l _ ⟨i,W,O⟩ (by show((i:J)-1+1).toNat<(((i+1:K):J)-1+1).toNat;lia)
   ·exact hl
 ·rw[xbi c,Nat.zero_mod,Nat.zero_div,xcx,tw,fH,(W:(32:J)*(n:J)-1=((32*n:K):J)-1)]
def EP{a b:N K}(c:zm a)(d:zm b)(hd:X a<=40000)(h:X b<=40000)(e:3000000<=fu):
 KR fu a b=Z (if A b=0 then([],[],3)else(yD<|A a/A b,yD<|A a%A b,0)):=by
 unfold KR;have l1:=Vt c;have k:=Vt d;have f:=xT (fu:=fu) c;rw[Y<|xT d];generalize A a=U at*
 generalize A b=y at*
 by_cases h0:y=0
 ·subst h0;rfl
 ·have l:=P4 (n:=y) W;have hc:U<4294967296^X (VF U):=(ve _ _).1<|IR _;have hi:X (VF<|U%y)<=X (VF y):=(ve _ _).2<|xeZ (xaM _ W)<|(ve _ _).1<|IR _;rw[zA,ir h0,Y f,yJ,yL,Q,zb,zb,Y<|zfY W W W e];simp only;have g:U/y<4294967296^X (VF U):=xaK (xcE _ _) hc;rw[Y (ku (q7 _ _) (by rw[yX];lia)<|by rw[yX];lia),Xv,xam g,Y (ku (qC _) W W),qY]
end
section
variable{k fu:wr}{x y:wl}{a b m:Zr}
def b7(z:M):Prop:=zm z.2/\X z.2<=40000
theorem b7.ok{z:M}(h:b7 z):cX z:=⟨h.1,xae h.2 iI⟩
def Bz.okS(h:Bz k x)(c:k<=40000):b7 (ya x):=⟨yo x,xae ((zK _ _).2 h) c⟩
def Bz.len(h:Bz k x):(ya x).2.length<=k:=(zK _ _).2 h
theorem zce{q r:J}(c:y≠0)(h:y*q+r=x)(h0:0<=r:=by lia)(h1:r<(y.natAbs:J):=by lia):x/y=q/\x%y=r:=by grind [Int.ediv_emod_unique',Int.ediv_emod_unique]
def GP(x y:J):M×M×J:=if y=0 then((wL,[]),(wL,[]),3)else(ya<|x/y,ya<|x%y,0)
theorem Ss{q0 r0:K}(n:A b.2≠0)(j:q0=A a.2/A b.2)(f:r0=A a.2%A b.2):
 (¬(a.1=I/\0<r0)->zv a/zv b=(if(!(a.1==b.1))=I then-(q0:J)else(q0:J))/\zv a%zv b=(r0:J))/\
 (a.1=I/\0<r0->zv a/zv b=(if(!(a.1==b.1))=I then-((q0+1:K):J)else((q0+1:K):J))/\zv a%zv b=((A b.2-r0:K):J)):=by
 have hd:=xbp (A a.2)<|A b.2;have l:=xaM (A a.2) (W:0<A b.2);rw[<-j,<-f]at hd;rw[<-f]at l;have g:zv b≠0:=by have:=q6 b;lia
 have o:=q6 b;have hc:((A b.2:K):J)*(q0:J)+(r0:J)=((A a.2:K):J):=by rw[<-hd];simp
 refine⟨λh=> ?_,λh=> ?_⟩
 ·refine zce g ?_;rcases xX a with⟨h1,e⟩|⟨h1,e⟩<;>rcases xX b with⟨c,d⟩|⟨c,d⟩<;>rw[h1,c,e,d]
  ·grind
  ·grind
  ·rw[iq iI,Int.neg_mul_neg];lia
  ·rw[ir iI];lia
 ·refine zce g ?_;have⟨h1,hp⟩:=h;have e1:((A b.2-r0:K):J)=((A b.2:K):J)-(r0:J):=W
  have i:((A b.2:K):J)*(((q0+1:K)):J)=((A b.2:K):J)*(q0:J)+((A b.2:K):J):=by rw[xff,xfs];simp
  rcases xX a with⟨_,e⟩|⟨h,_⟩
  ·rcases xX b with⟨c,d⟩|⟨c,d⟩<;>rw[h1,c,e,d,e1]
   ·rw[ir iI,Int.neg_mul,i];lia
   ·rw[iq iI,Int.mul_neg,i];lia
  ·rw[h1]at h;cases h
theorem BM:zv b=0↔A b.2=0:=by
 have:=q6 b;lia
theorem UE(d:b7 a)(c:b7 b)(j:3000000<=fu):Wi fu a b=Z (GP (zv a)<|zv b):=by
 unfold Wi GP;have l:=d.2;have i:=c.2;rw[Y<|oC d.1 c.1 W W j];by_cases h0:A b.2=0
 ·rw[iq h0,iq<|BM.2 h0];rfl
 ·rw[ir h0,ir<|λh=>h0<|BM.1 h];simp only[uP];have⟨q0,e⟩:∃q0,q0=A a.2/A b.2:=⟨_,O⟩;have⟨r0,f⟩:∃r0,r0=A a.2%A b.2:=⟨_,O⟩;have n:X (yD q0)<=40000:=by
   refine xae ((zK (X a.2) q0).2 ?_) l;rw[e];exact xaK (xcE _ _)<|qm d.1
  have hd:r0<A b.2:=by rw[f];exact xaM _ W
  have lr:X (yD r0)<=40000:=xae ((zK (X b.2) r0).2<|xeZ hd<|qm c.1) i;have o:X (yD<|A b.2-r0)<=40000:=xae ((zK (X b.2) _).2<|xaK (xeY _ _)<|qm c.1) i;have⟨k1,k2⟩:=Ss h0 e f;rw[<-e,<-f];have p:X (yD<|q0+1)<=40001:=Zj (y:=1) n iI;by_cases hc:a.1=I/\0<r0
  ·have⟨w1,g⟩:=k2 hc;have:=vF hc.2;rw[iq hc.1,zP,Y (v:=(yD<|q0+1,yD<|A b.2-r0))]
   ·rw[w1,g];simp only;rw[Q,Y (yO (zz _) W W),Y (yO (zz _) W W),ye,ye];rfl
   ·rw[Y (ZO (zz _) (dP iI) W iP<|by simp;lia),ye,EE,Y (QX c.1 (zz _) W W W),ye,zA]
  ·have⟨w1,g⟩:=k1 hc;rw[Y (v:=(yD q0,yD r0))]
   ·rw[w1,g];simp only;rw[Q,Y (yO (zz _) W W),Y (yO (zz _) W W),ye,ye];rfl
   ·by_cases h1:a.1=I
    ·have:r0=0:=xfk λhp=>hc ⟨h1,hp⟩;subst this;rw[iq h1,ir iI]
    ·rw[ir h1]
theorem J0(e:b7 a)(c:b7 b)(d:3000000<=fu):YS fu a b=Z (GP (zv a)<|zv b):=by
 unfold YS GP;have l:=e.2;have j:=c.2;rw[Y<|EP e.1 c.1 W W d];by_cases h0:A b.2=0
 ·rw[iq h0,iq<|BM.2 h0];rfl
 ·rw[ir h0,ir<|λh=>h0<|BM.1 h];simp only[uP];have⟨q0,f⟩:∃q0,q0=A a.2/A b.2:=⟨_,O⟩;have⟨r0,g⟩:∃r0,r0=A a.2%A b.2:=⟨_,O⟩;have n:X (yD q0)<=40000:=by
   refine xae ((zK (X a.2) q0).2 ?_) l;rw[f];exact xaK (xcE _ _)<|qm e.1
  have hd:r0<A b.2:=by rw[g];exact xaM _ W
  have lr:X (yD r0)<=40000:=xae ((zK (X b.2) r0).2<|xeZ hd<|qm c.1) j;have o:X (yD<|A b.2-r0)<=40000:=xae ((zK (X b.2) _).2<|xaK (xeY _ _)<|qm c.1) j;have⟨k1,k2⟩:=Ss h0 f g;rw[<-f,<-g];have p:X (yD<|q0+1)<=40001:=Zj (y:=1) n iI;by_cases hc:a.1=I/\0<r0
  ·have⟨w1,i⟩:=k2 hc;have:=vF hc.2;rw[iq hc.1,zP,Y (v:=(yD<|q0+1,yD<|A b.2-r0))]
   ·rw[w1,i];simp only;rw[Q,Y<|y5 (zz _) (by show(yD _).length<=_;lia) d,Y<|y5 (zz _) (by show(yD _).length<=_;lia) d,EU,EU];rfl
   ·rw[Y (dn (zz _) (dP iI) W iP W),ye,EE,Y (J9 c.1 (zz _) W W W),ye,zA]
  ·have⟨w1,i⟩:=k1 hc;rw[Y (v:=(yD q0,yD r0))]
   ·rw[w1,i];simp only;rw[Q,Y<|y5 (zz _) (by show(yD _).length<=_;lia) d,Y<|y5 (zz _) (by show(yD _).length<=_;lia) d,EU,EU];rfl
   ·by_cases h1:a.1=I
    ·have:r0=0:=xfk λhp=>hc ⟨h1,hp⟩;subst this;rw[iq h1,ir iI]
    ·rw[ir h1]
def ri(x m:J):M×J:=if m<=0 then((wL,[]),1)else(ya<|x%m,0)
def near(x m:J):J:=if m<x%m+x%m then x%m-m else x%m
def zic(x m:J):M×J:=if m<=0 then((wL,[]),1)else(ya<|near x m,0)
theorem Bz.emod{m:J}(c:Bz k m)(h0:0<m):Bz k (x%m):=by
 have h1:=xcI x (W:m≠0);have d:=xdD x h0;exact c.le W
theorem Bz.near{k:K}{x m:J}(c:Bz k m)(h0:0<m):Bz k (near x m):=by
 have h1:=xcI x (W:m≠0);have d:=xdD x h0;refine c.le ?_;unfold Go.Proofs.YtmggkmchbdanfaaGreat.near;lia
theorem BT:jy x 0<=0↔x<=0:=by grind [qf,jX,vM]
theorem rf:0<jy x y↔y<x:=by grind [qf,jX,vM]
theorem wJ:jy x y=0↔x=y:=by grind [qf,jX,vM]
theorem Yv(c:b7 a)(d:b7 m)(e:3000000<=fu):jl fu a m=Z (ri (zv a)<|zv m):=by grind [jl,GP,ri,Y,xE,b7.ok,BT,UE]
theorem Bj(c:b7 a)(d:b7 m)(e:3000000<=fu):QN fu a m=Z (ri (zv a)<|zv m):=by grind [QN,GP,ri,Y,q8,b7.ok,BT,J0]
def Bo(g:b7 a)(d:b7 m)(f:3000000<=fu):XO fu a m=Z (zic (zv a)<|zv m):=by
 unfold XO zic;rw[Y<|Yv g d f];unfold ri;by_cases h:zv m<=0
 ·simp_all
 ·have c:Bz 40000 (zv a%zv m):=Bz.emod ((Bz.of d.1).mono d.2) W;rw[ir h,ir h];simp only[uP];have hl:=d.2;have i:=(c.add c).ok W;have j:=(c.add c).len;rw[Y<|jx (c.okS W).ok (c.okS W).ok f,zn,Y<|Z7 i d.ok f,zn];unfold near;by_cases hc:zv m<zv a%zv m+zv a%zv m
  ·rw[iq<|rf.2 hc,iq hc,Y<|jA (c.okS W).ok d.ok f,zn]
  ·rw[ir<|λe=>hc<|rf.1 e,ir hc]
end
section
variable{f g:wr->wl}{j m k fu:wr}{p:xS Zr}
def zi(n:K)(f:K->J):N M:=(xaY n).map λk=>ya<|f k
def cf(p:N M)(k:K):J:=zv<|p.getD k (wL,[])
def dg(f:K->J):K->K
 |0=>0
 |n+1=>if f n=0 then dg f n else n+1
def xJ(n:K)(f:K->J):N M:=zi (dg f n) f
def yI(k:K)(p:N M):Prop:=∀z∈p,zm z.2/\X z.2<=k
def Ya(f:K->J)(j:K)(v:J):K->J:=λk=>if k=j then v else f k
theorem YI(p:N M)(k:K):zv (p.getD k (wL,[]))=cf p k:=O
theorem yh(n:K)(f:K->J):X (zi n f)=n:=by unfold zi;simp
theorem YB{n:K}(h:j<n):(zi n f).getD j (wL,[])=ya (f j):=by simp_all [zi]
theorem xd{n:K}(h:∀k,k<n->f k=g k):zi n f=zi n g:=by simp_all [zi]
theorem bH{n:K}{v:J}:(zi n f).set j (ya v)=zi n (Ya f j v):=by
 refine xcy λi=> ?_;unfold zi Ya;by_cases h:j=i
 ·grind
 ·grind
theorem zgY:ya 0=(wL,[]):=O
theorem aR(n:K):Nm n (wL,[])=zi n (λ_=>0):=by grind [zi,zgY,List.map_const',xep]
theorem o7{n:K}:zi n f++[ya<|f n]=zi (n+1) f:=by grind [zi,xdv]
theorem Sv{n:K}(h:j<n):cf (zi n f) j=f j:=by unfold cf;rw[YB h,zn]
theorem zX(h:X p<=j):cf p j=0:=by
 unfold cf;rw[xaa,xbP h];rfl
theorem KD{n:K}(h:∀k,n<=k->f k=0)(j:K):cf (zi n f) j=f j:=by grind [Sv,zX,yh]
theorem vT(f:K->J):∀n,dg f n<=n
 |0=>IR _
 |n+1=>by unfold dg;split;exact xae (vT f n)<|xbD _;exact IR _
theorem Qx(f:K->J):∀n k,dg f n<=k->k<n->f k=0
 |0,k,_,h=>wS h<|xbC _
 |n+1,k,h1,a=>by
  unfold dg at h1;split at h1
  ·rename_i h0;by_cases b:k=n
   ·simp_all
   ·exact Qx f n k h1 W
  ·lia
theorem Qq(f:K->J):∀n,dg f n≠0->f (dg f n-1)≠0
 |0,h=>wS O h
 |n+1,h=>by
  unfold dg at h⊢;split
  ·rename_i h0;rw[iq h0]at h;exact Qq f n h
  ·simp_all
theorem K2{n d:K}(h1:d<=n)(b:∀k,d<=k->k<n->f k=0)(h3:d=0\/f (d-1)≠0):dg f n=d:=by
 have a:=vT f n;rcases Nat.lt_trichotomy (dg f n) d with h|h|h
 ·obtain h3|h3:=h3
  ·lia
  ·exact wS (Qx f n (d-1) W W) h3
 ·exact h
 ·exact wS (b (dg f n-1) W W)<|Qq f n W
theorem Xo{n:K}(b:∀k,n<=k->f k=0)(c:∀k,m<=k->g k=0)(h:∀k,f k=g k):xJ n f=xJ m g:=by
 have e:dg f n=dg g m:=by
  refine K2 ?_ ?_ ?_
  ·refine xbs λd=> ?_;have:=Qq g m W;grind
  ·intro k h1 i;rw[h];by_cases a:k<m
   ·exact Qx g m k h1 a
   ·simp_all
  ·by_cases h0:dg g m=0
   ·lia
   ·right;rw[h];exact Qq g m h0
 unfold xJ;rw[e];exact xd λk _=>h k
theorem xv(n:K)(f:K->J):X (xJ n f)=dg f n:=yh _ _
def jz{n:K}(h:∀k,n<=k->f k=0)(j:K):cf (xJ n f) j=f j:=by
 refine KD (λk a=> ?_) j;by_cases hn:k<n
 ·exact Qx f n k a hn
 ·simp_all
def yI.get(h:yI k p)(j:K):zm (p.getD j (wL,[])).2/\(p.getD j (wL,[])).2.length<=k:=by
 rw[xaa];by_cases a:j<X p
 ·rw[xak a];exact h _<|xcd a
 ·rw[xbP W];exact⟨zm.nil,xac _⟩
theorem yI.okZ(h:yI k p)(a:k<=100000)(j:K):cX (p.getD j (wL,[])):=⟨(h.get j).1,xae (h.get j).2 a⟩
def yI.okS(h:yI k p)(a:k<=40000)(j:K):b7 (p.getD j (wL,[])):=⟨(h.get j).1,xae (h.get j).2 a⟩
theorem yI.bz(h:yI k p)(j:K):Bz k (cf p j):=(Bz.of (h.get j).1).mono (h.get j).2
def yI.mono(h:yI j p)(b:j<=k):yI k p:=λz a=>⟨(h z a).1,xae (h z a).2 b⟩
theorem Bz.zero(k:K):Bz k 0:=xaV iI
def YM{n:K}(h:∀j,Bz k<|f j):yI k (zi n f):=λz a=>by
 obtain⟨j,_,rfl⟩:=xap.1 a;exact⟨yo _,(h j).len⟩
def BU{a:J->M->V M}(hl:X p<=1000000)(l:2000000<fu)(h:∀j:K,j<X p->a (j:J) (p.getD j (wL,[]))=Z (ya<|g j)):
 zJ fu p a=Z (zi (X p) g):=by
 unfold zJ;rw[yJ,yL,Q,aR,Y];refine zw (λs:J×N M=>∃i:K,i<=X p/\s=((i:J),zi (X p) (λk=>if k<i then g k else 0))) (λs=>X p-s.1.toNat) _ ?_ _ _ ⟨0,xac _,by rw[xd (g:=λk=>if k<0 then g k else 0)<|λk _=>by rw[zA]];rfl⟩ (by show X p-0<fu;lia);rintro s L ⟨i,hi,rfl⟩ c;unfold vd;simp only;by_cases h1:i<X p
 ·rw[zP,Y O];simp only[uP];rw[zp h1,Q,Y<|h i h1,zp (by rw[yh];exact h1),Q,bH,zb];refine c _ ⟨i+1,W,?_⟩ (by show X p-((i:J)+1).toNat<X p-(i:J).toNat;lia);congr 1;refine xd λk d=> ?_;unfold Ya;by_cases e:k=i
  ·rw[iq e,zP,e]
  ·rw[ir e];show(if k<i then g k else 0)=_;by_cases b:k<i
   ·rw[iq b,zP]
   ·rw[ir b,zA]
 ·rw[zA,Y O];simp only[xar,uS];congr 1;exact xd λk d=>by rw[zP]
def UZ(h:f m=0):dg f (m+1)=dg f m:=by conv=>lhs;unfold dg;rw[iq h]
def JW(h:f m≠0):dg f (m+1)=m+1:=by conv=>lhs;unfold dg;rw[ir h]
theorem HR(h:j<m):(p.take m).getD j (wL,[])=p.getD j (wL,[]):=by grind
theorem zM(h:yI k p)(c:k<=100000)(hl:X p<=1000000)(d:3000000<=fu):zT fu p=Z (xJ (X p)<|cf p):=by
 unfold zT;have hd:=vT (cf p) (X p);rw[Y (v:=p.take<|dg (cf p) (X p))]
 ·have a:X (p.take<|dg (cf p) (X p))=dg (cf p) (X p):=by rw[xas];lia
  rw[Y<|BU (g:=cf p) W W ?_,a]
  ·rfl
  ·intro j i;rw[a]at i;unfold JD;rw[HR i,Y<|Yu (h.okZ c j) d];rfl
 ·refine zw (λt:N M=>∃m,m<=X p/\t=p.take m/\dg (cf p) m=dg (cf p) (X p)) (λt=>X t) _ ?_ _ _ ⟨X p,IR _,xcJ.symm,O⟩ W;rintro t L ⟨m,n,rfl,b⟩ l;have a:X (p.take m)=m:=by rw[xas];lia
  unfold fY
  cases m with
  |zero=>
   rw[zA,<-b];rfl
  |succ m=>
   rw[zP,a,(W:((m+1:K):J)-1=(m:J)),zb,yj,Q,HR W,Y<|xE (h.okZ c m) d,YI];by_cases h0:cf p m=0
   ·rw[iq<|wJ.2 h0,zb,yJ,yL,Q,List.take_take,(W:min m (m+1)=m)];exact l _ ⟨m,W,O,by rw[<-UZ h0,b]⟩<|by rw[a,xas];lia
   ·rw[ir<|λe=>h0<|wJ.1 e,<-b,JW h0]
theorem yG(h:yI k p)(d:k<=100000)(hl:X p<=1000000)(c:3000000<=fu):yQ fu p=Z (xJ (X p)<|cf p):=by
 unfold yQ;have hd:=vT (cf p) (X p);rw[Y (v:=((dg (cf p) (X p):K):J))]
 ·rw[Y (v:=xJ (X p)<|cf p)];unfold xJ;refine zw (λs:N M×J=>∃i:K,i<=dg (cf p) (X p)/\s=(zi i<|cf p,(i:J))) (λs=>X p-s.2.toNat) _ ?_ _ _ ⟨0,xac _,O⟩ (by show X p-0<fu;lia);rintro s L ⟨i,hi,rfl⟩ a;unfold eT;simp only;by_cases h1:i<dg (cf p) (X p)
  ·rw[zP,yj,Q,Y<|y5 (h.get i).1 (by have:=(h.get i).2;lia) c,xr (by rw[yh];simp;lia),Q,zb];exact a _ ⟨i+1,W,by rw[<-o7];rfl⟩ (by show X p-((i:J)+1).toNat<X p-(i:J).toNat;lia)
  ·grind
 ·refine zw (λi:J=>∃m:K,i=(m:J)/\m<=X p/\dg (cf p) m=dg (cf p) (X p)) (λi=>i.toNat) _ ?_ _ _ ⟨X p,O,IR _,O⟩ W;rintro i L ⟨m,rfl,l,b⟩ a;unfold eE
  cases m with
  |zero=>rw[zA,<-b];rfl
  |succ m=>
   rw[zP,(W:((m+1:K):J)-1=(m:J)),zb,yj,Q,Y<|q8 (h.okZ d m) c,YI];by_cases h0:cf p m=0
   ·rw[iq<|wJ.2 h0,zb];exact a _ ⟨m,O,W,by rw[<-UZ h0,b]⟩ W
   ·rw[ir<|λe=>h0<|wJ.1 e,<-b,JW h0]
end
section
variable{a b p:xS Zr}{k fu j l:wr}{h g:wr->Zr}
theorem Vi(h:max (X a) (X b)<=k:=by lia):cf a k+cf b k=0:=by grind [zX]
theorem zad(c:yI k a)(d:yI k b)(e:k<=100000)(f:3000000<=fu)(hc:X b<=1000000)(j:K)(i:j<X b):
 um fu (j:J) (b.getD j (wL,[])) a=Z (if j<X a then ya (cf a j+cf b j)else b.getD j (wL,[])):=by grind [um,zp,Q,Y,jx,yI.okZ,YI]
def Av(a b:N M):N M:=(xaY (X b)).map λj=>if j<X a then ya (cf a j+cf b j)else b.getD j (wL,[])
theorem zew{n:K}(c:j<n):((xaY n).map h).getD j (wL,[])=h j:=by grind
theorem map_set{n i:K}:((xaY n).map h).set i (g i)=(xaY n).map (λk=>if k=i then g k else h k):=by
 refine xcy λm=> ?_;by_cases e:i=m
 ·grind
 ·grind
def zfK{c:J->M->V M}(hl:X p<=1000000)(n:2000000<fu)(h:∀j:K,j<X p->c (j:J) (p.getD j (wL,[]))=Z (g j)):
 zJ fu p c=Z ((xaY (X p)).map g):=by
 unfold zJ;have e0:Nm (X p) ((wL,[]):M)=(xaY (X p)).map (λk=>if k<0 then g k else(wL,[])):=by
  rw[aR];rfl
 rw[yJ,yL,Q,e0,Y];refine zw (λs:J×N M=>∃i:K,i<=X p/\s=((i:J),(xaY (X p)).map (λk=>if k<i then g k else(wL,[])))) (λs=>X p-s.1.toNat) _ ?_ _ _ ⟨0,xac _,O⟩ (by show X p-0<fu;lia);rintro s L ⟨i,hi,rfl⟩ m;unfold vd;simp only;by_cases h1:i<X p
 ·rw[zP,Y O];simp only[uP];rw[zp h1,Q,Y<|h i h1,zp (by simp;exact h1),Q,map_set,zb];refine m _ ⟨i+1,W,?_⟩ (by show X p-((i:J)+1).toNat<X p-(i:J).toNat;lia);congr 1;refine xci λk d=> ?_;by_cases e:k=i
  ·rw[iq e,zP,e]
  ·rw[ir e];by_cases f:k<i
   ·rw[iq f,zP]
   ·rw[ir f,zA]
 ·rw[zA,Y O];simp only[xar,uS];congr 1;refine xci λk d=> ?_;have:=xbd.1 d;rw[zP]
theorem zfO(i:yI k a)(d:yI k b)(o:k+1<=100000)(hd:X b<=1000000)(m:3000000<=fu)(hl:X a<=X b):
 G (zJ fu b<|λe f=>um fu e f a) (λt1=>G (zT fu t1) λt2=>Z t2)=Z (xJ (max (X a) (X b))<|λj=>cf a j+cf b j):=by
 have q:X (Av a b)=X b:=by unfold Av;simp
 have r:∀j,j<X b->(Av a b).getD j (wL,[])=if j<X a then ya (cf a j+cf b j)else b.getD j (wL,[]):=λj c=>by unfold Av;rw[zew c]
 have hc:∀j,cf (Av a b) j=cf a j+cf b j:=λj=>by
  by_cases c:j<X b
  ·conv=>lhs;unfold cf
   rw[r j c];by_cases h:j<X a
   ·rw[iq h,zn]
   ·rw[ir h,zX (p:=a) W,xco];rfl
  ·rw[zX W,zX W,zX W];rfl
 have s:yI (k+1) (Av a b):=λz n=>by
  unfold Av at n;obtain⟨j,c,rfl⟩:=xap.1 n;split
  ·exact⟨yo _,((i.bz j).add<|d.bz j).len⟩
  ·exact(d.mono<|xbD k).get j
 rw[Y<|zfK (g:=λj=>if j<X a then ya (cf a j+cf b j)else b.getD j (wL,[])) hd W λj c=>zad i d W m hd j c];show G (zT fu<|Av a b) _=_;rw[Y<|zM s o W m,q];congr 1;refine Xo (λj c=>zX W) (λj c=>Vi c) hc
theorem gk(c:yI k a)(d:yI k b)(e:k+1<=100000)(hc:X a<=1000000)(hd:X b<=1000000)(f:3000000<=fu):
 qs fu a b=Z (xJ (max (X a) (X b))<|λj=>cf a j+cf b j):=by grind [qs,zfO]
theorem mG:JL fu p (j:J)=Z (p.getD j (wL,[])):=by grind [JL,zp,Q]
def XR(c:yI k a)(d:yI k b)(m:k+1<=100000)(hc:X a<=1000000)(hd:X b<=1000000)(e:3000000<=fu):
 Y7 fu a b=Z (xJ (max (X a) (X b))<|λj=>cf a j+cf b j):=by
 unfold Y7;have⟨n,hn⟩:∃n,n=max (X a) (X b):=⟨_,O⟩;have r:n<=1000000:=W
 have o:yI (k+1) (zi n<|λj=>cf a j+cf b j):=YM λj=>(c.bz j).add<|d.bz j;rw[Y (v:=zi n<|λj=>cf a j+cf b j)]
 ·rw[Y<|yG o m (by rw[yh];lia) e,yh,<-hn];congr 1;exact Xo (λj f=>zX<|by rw[yh];lia) (λj f=>Vi)<|λj=>KD (λj f=>Vi) j
 ·refine zw (λs:N M×J=>∃i:K,i<=n/\s=(zi i<|λj=>cf a j+cf b j,(i:J))) (λs=>n-s.2.toNat) _ ?_ _ _ ⟨0,xac _,O⟩ (by show n-0<fu;lia);rintro s L ⟨i,hi,rfl⟩ q;unfold mm;simp only;rw[Q];by_cases h1:i<n
  ·rw[zP,Y mG,Y mG,Y<|qD (c.okZ W i) (d.okZ W i) e,YI,YI,xr (by rw[yh];simp;lia),Q,zb];exact q _ ⟨i+1,W,by rw[<-o7];rfl⟩ (by show n-((i:J)+1).toNat<n-(i:J).toNat;lia)
  ·rw[zA];obtain rfl:i=n:=W
   rfl
def WH{c:J}(h:X a<=k):cf a k*c=0:=by rw[zX h,xaP]
def cX.of{z:M}(h:zm z.2/\X z.2<=k)(c:k<=100000):cX z:=⟨h.1,xae h.2 c⟩
def ks{c:M}(e:yI k a)(hc:zm c.2/\X c.2<=l)(i:k+l<=100000)(m:X a<=1000000)(f:3000000<=fu):
 qk fu a c=Z (xJ (X a)<|λj=>cf a j*zv c):=by
 unfold qk;have n:yI (k+l) (zi (X a)<|λj=>cf a j*zv c):=YM λj=>(e.bz j).mul<|(Bz.of hc.1).mono hc.2;rw[Y<|BU m W ?_]
 ·rw[Y<|zM n i (by rw[yh];lia) f,yh];congr 1;exact Xo (λj d=>zX<|by rw[yh];lia) (λj d=>WH d)<|λj=>KD (λj d=>WH d) j
 ·intro j d;unfold VU;rw[Y<|yB (e.okZ W j) (cX.of hc W) f,YI]
theorem qv{c:M}(e:yI k a)(hc:zm c.2/\X c.2<=l)(f:k+l<=100000)(q:X a<=1000000)(m:3000000<=fu):
 vq fu a c=Z (xJ (X a)<|λj=>cf a j*zv c):=by
 unfold vq;have n:yI (k+l) (zi (X a)<|λj=>cf a j*zv c):=YM λj=>(e.bz j).mul<|(Bz.of hc.1).mono hc.2;rw[Y (v:=zi (X a)<|λj=>cf a j*zv c)]
 ·rw[Y<|yG n f (by rw[yh];lia) m,yh];congr 1;exact Xo (λj d=>zX<|by rw[yh];lia) (λj d=>WH d)<|λj=>KD (λj d=>WH d) j
 ·refine zw (λs:N M×J=>∃i:K,i<=X a/\s=(zi i<|λj=>cf a j*zv c,(i:J))) (λs=>X a-s.2.toNat) _ ?_ _ _ ⟨0,xac _,O⟩ (by show X a-0<fu;lia);rintro s L ⟨i,hi,rfl⟩ o;unfold cD;simp only;by_cases h1:i<X a
  ·rw[zP,zp h1,Q,Y (wg (e.okZ W i)<|cX.of hc W),YI,xr (by rw[yh];simp;lia),Q,zb];exact o _ ⟨i+1,W,by rw[<-o7];rfl⟩ (by show X a-((i:J)+1).toNat<X a-(i:J).toNat;lia)
  ·grind
def JC(a b:N M):N M:=xJ (max (X a) (X b))<|λj=>cf a j-cf b j
def yE{n:K}{f:K->J}(h:∀j,Bz k<|f j):yI k (xJ n f):=YM h
theorem Ra{m:K}(d:m=dg (λj=>cf b j* -1) (X b)):xJ (max (X a) (X (xJ (X b)<|λj=>cf b j* -1))) (λj=>cf a j+cf (xJ (X b)<|λj=>cf b j* -1) j)=JC a b:=by
 have e:∀j,cf (xJ (X b)<|λj=>cf b j* -1) j=cf b j* -1:=jz λj c=>WH c;refine Xo (λj c=>Vi c) (λj c=> ?_)<|λj=> ?_
 ·rw[zX W,zX W];rfl
 ·grind
theorem Bz.one:∀{k:K},1<=k->Bz k (-1):=by grind [Bz]
def Zb(e:yI k a)(c:yI k b)(i:k+2<=100000)(hc:X a<=1000000)(f:X b<=1000000)(d:3000000<=fu):
 kF fu a b=Z (JC a b):=by
 unfold kF;have hd:=vT (λj=>cf b j* -1) (X b);rw[Y (yq iI),Y<|ks c ⟨yo _,(Bz.one<|IR _).len⟩ W f d,zn,Y<|gk (e.mono W) (yE λj=>(c.bz j).mul<|Bz.one<|IR _) W hc (by rw[xv];lia) d,Ra O]
def JN(e:yI k a)(c:yI k b)(i:k+2<=100000)(hc:X a<=1000000)(f:X b<=1000000)(d:3000000<=fu):
 Vu fu a b=Z (JC a b):=by
 unfold Vu;have hd:=vT (λj=>cf b j* -1) (X b);rw[Y (vz iI),Y<|qv c ⟨yo _,(Bz.one<|IR _).len⟩ W f d,zn,Y<|XR (e.mono W) (yE λj=>(c.bz j).mul<|Bz.one<|IR _) W hc (by rw[xv];lia) d,Ra O]
end
section
variable{kb ka fu:wr}{b a:xS Zr}
def OA(b:N M)(i k:K):J:=if i<=k then cf b (k-i)else 0
def Xb(a b:N M):K->K->J
 |0,_=>0
 |n+1,k=>Xb a b n k+cf a n*OA b n k
def Yp(a b:N M)(i j k:K):J:=Xb a b i k+if i<=k/\k<i+j then cf a i*cf b (k-i)else 0
def yW(a b:N M):N M:=xJ (X a+X b)<|Xb a b (X a)
theorem ziu(c:yI kb b)(i k:K):Bz kb (OA b i k):=by grind [OA,Bz.zero,yI.bz]
def pj{ka kb:K}{a b:N M}(c:yI ka a)(d:yI kb b):∀n k,Bz (ka+kb+n) (Xb a b n k)
 |0,k=>Bz.zero _
 |n+1,k=>by
  have h:=((c.bz n).mul<|ziu d n k).mono (W:ka+kb<=ka+kb+n);exact Bz.add (pj c d n k) h
def E6(c:yI ka a)(d:yI kb b)(i j k:K):Bz (ka+kb+i+1) (Yp a b i j k):=by
 refine Bz.add (pj c d i k) ?_;split
 ·exact((c.bz i).mul<|d.bz _).mono W
 ·exact Bz.zero _
def Oo{a b:N M}{k:K}:∀{n},n+X b<=k+1->Xb a b n k=0
 |0,_=>rfl
 |n+1,h=>by
  unfold Xb OA;rw[Oo W,zP,zX (p:=b) W,xaC];rfl
def aj{k:K}(h:X a+X b<=k:=by lia):Xb a b (X a) k=0:=Oo W
def ra(a b:N M)(i k:K):Yp a b i 0 k=Xb a b i k:=by
 unfold Yp;lia
theorem pR(a b:N M)(i k:K):Yp a b i (X b) k=Xb a b (i+1) k:=by
 rw[show Xb a b (i+1) k=Xb a b i k+cf a i*OA b i k from O];unfold Yp OA;by_cases h:i<=k
 ·rw[iq h];by_cases c:k<i+X b
  ·lia
  ·rw[ir<|λe=>c e.2,zX (p:=b) W,xaC]
 ·grind
def r8(a b:N M)(i j k:K):Ya (Yp a b i j) (i+j) (Yp a b i j (i+j)+cf a i*cf b j) k=Yp a b i (j+1) k:=by
 unfold Ya;by_cases h:k=i+j
 ·subst h;unfold Yp;simp_all
 ·skip;unfold Yp;by_cases c:i<=k/\k<i+j
  ·lia
  ·lia
def xY(c:yI ka a)(d:yI kb b)(o:ka+kb+X a+1<=100000)(hc:X b<=100000)(g:3000000<=fu):xD fu a b=Z (yW a b):=by
 unfold xD;rw[zb,(W:(X a:J)+(X b:J)=((X a+X b:K):J)),yJ,yL,Q,aR];have⟨n,hn⟩:∃n,n=X a+X b:=⟨_,O⟩;rw[<-hn,Y (v:=zi n<|Xb a b (X a))]
 ·rw[Y<|zM (YM<|pj c d (X a)) W (by rw[yh];lia) g,yh];congr 1;unfold yW;exact Xo (λj f=>zX<|by rw[yh];lia) (λj f=>aj f)<|λj=>KD (λj f=>aj) j
 ·refine zw (λs:J×N M=>∃i:K,i<=X a/\s=((i:J),zi n<|Xb a b i)) (λs=>X a-s.1.toNat) _ ?_ _ _ ⟨0,xac _,O⟩ (by show X a-0<fu;lia);rintro s L ⟨i,hi,rfl⟩ l;unfold mF;simp only;by_cases h1:i<X a
  ·rw[zP,Y O];simp only[uP];rw[zp h1,Q,Y (v:=zi n<|Xb a b<|i+1),zb]
   ·exact l _ ⟨i+1,W,O⟩ (by show X a-((i:J)+1).toNat<X a-(i:J).toNat;lia)
   ·refine zw (λs:J×N M×M=>∃j:K,j<=X b/\s=((j:J),zi n<|Yp a b i j,a.getD i (wL,[]))) (λs=>X b-s.1.toNat) _ ?_ _ _ ⟨0,xac _,by rw[xd λk _=>(ra a b i k).symm];rfl⟩ (by show X b-0<fu;lia);rintro s p ⟨j,f,rfl⟩ h;unfold my;simp only;by_cases m:j<X b
    ·rw[zP,Y O];simp only[uP];have e:(i:J)+(j:J)=((i+j:K):J):=W
     have hp:=E6 c d i j<|i+j;rw[zp m,Q,e,zb,zb,zp (by rw[yh];lia),Q,YB W,Y<|yB (c.okZ W i) (d.okZ W j) g,YI,YI,Y<|jx (hp.ok W) (((c.bz i).mul<|d.bz j).ok W) g,zn,zn,zp (by rw[yh];lia),Q,bH,zb];exact h _ ⟨j+1,W,by rw[xd λk _=>r8 a b i j k];rfl⟩ (by show X b-((j:J)+1).toNat<X b-(j:J).toNat;lia)
    ·rw[zA,Y O];simp only[xar,uS];obtain rfl:j=X b:=W
     rw[xd λk _=>pR a b i k]
  ·rw[zA,Y O];simp only[xar,uS];obtain rfl:i=X a:=W
   rfl
def JE(c:yI ka a)(d:yI kb b)(o:ka+kb+X a+1<=100000)(hc:X b<=100000)(h:3000000<=fu):VG fu a b=Z (yW a b):=by
 unfold VG;rw[zb,(W:(X a:J)+(X b:J)=((X a+X b:K):J)),yJ,yL,Q,aR];have⟨n,hn⟩:∃n,n=X a+X b:=⟨_,O⟩;rw[<-hn,Y (v:=zi n<|Xb a b (X a))]
 ·rw[Y<|yG (YM<|pj c d (X a)) W (by rw[yh];lia) h,yh];congr 1;unfold yW;exact Xo (λj f=>zX<|by rw[yh];lia) (λj f=>aj f)<|λj=>KD (λj f=>aj) j
 ·refine zw (λs:J×N M=>∃i:K,i<=X a/\s=((i:J),zi n<|Xb a b i)) (λs=>X a-s.1.toNat) _ ?_ _ _ ⟨0,xac _,O⟩ (by show X a-0<fu;lia);rintro s L ⟨i,hi,rfl⟩ l;unfold mb;simp only;by_cases h1:i<X a
  ·rw[zP,Y (v:=(a,b,zi n<|Xb a b<|i+1))]
   ·simp only;rw[zb];exact l _ ⟨i+1,W,O⟩ (by show X a-((i:J)+1).toNat<X a-(i:J).toNat;lia)
   ·refine zw (λs:N M×N M×J×N M=>∃j:K,j<=X b/\s=(a,b,(j:J),zi n<|Yp a b i j)) (λs=>X b-s.2.2.1.toNat) _ ?_ _ _ ⟨0,xac _,by rw[xd λk _=>(ra a b i k).symm];rfl⟩ (by show X b-0<fu;lia);rintro s p ⟨j,f,rfl⟩ g;unfold lS;simp only;by_cases m:j<X b
    ·rw[zP];have e:(i:J)+(j:J)=((i+j:K):J):=W
     have hp:=E6 c d i j<|i+j;rw[e,zb,zb,zp (by rw[yh];lia),Q,YB W,zp h1,Q,zp m,Q,Y<|wg (c.okZ W i)<|d.okZ W j,YI,YI,Y<|qD (hp.ok W) (((c.bz i).mul<|d.bz j).ok W) h,zn,zn,zp (by rw[yh];lia),Q,bH,zb];exact g _ ⟨j+1,W,by rw[xd λk _=>r8 a b i j k];rfl⟩ (by show X b-((j:J)+1).toNat<X b-(j:J).toNat;lia)
    ·rw[zA];obtain rfl:j=X b:=W
     rw[xd λk _=>pR a b i k]
  ·rw[zA];obtain rfl:i=X a:=W
   rfl
def Xk(c:yI ka a)(d:yI kb b):yI (ka+kb+X a) (yW a b):=yE<|pj c d (X a)
theorem NQ(a b:N M)(k:K):cf (yW a b) k=Xb a b (X a) k:=jz (λj c=>aj c) k
def jk(a b:N M):X (yW a b)<=X a+X b:=by unfold yW;rw[xv];exact vT _ _
end
section
variable{f g:wr->wl}{fu k:wr}{a:xS Zr}{m:Zr}{a2:Zr->Zr->ww (Zr×wl)}
theorem C7{f g:K->J}:∀{n},(∀k,k<n->f k=g k)->dg f n=dg g n
 |0,_=>rfl
 |n+1,h=>by
  unfold dg;rw[h n W,C7 λk b=>h k W]
theorem Wa{n:K}(h:∀k,k<n->f k=g k):xJ n f=xJ n g:=by grind [xJ,C7,vT,xd]
def sY{n:K}:xJ n (cf<|zi n f)=xJ n f:=Wa λk b=>Sv b
def OH{l:K}{c:J}(n:b7 m)(h0:0<zv m)(r:X a<=1000000)(hl:l<=100000)(o:∀j,Bz l<|g j)(b:3000000<=fu)(h:∀j,j<X a->a2 (a.getD j (wL,[])) m=Z (ya<|g j,c)):
 qQ fu a m a2=Z (xJ (X a) g,0):=by
 unfold qQ;rw[Y<|xE n.ok b,ir (λe=>by have:=BT.1 e;lia),yJ,yL,Q,aR,Y (v:=zi (X a) g)]
 ·rw[Y<|zM (YM o) hl (by rw[yh];lia) b,yh,sY]
 ·refine zw (λs:J×N M=>∃i:K,i<=X a/\s=((i:J),zi (X a) (λk=>if k<i then g k else 0))) (λs=>X a-s.1.toNat) _ ?_ _ _ ⟨0,xac _,by rw[xd (g:=λk=>if k<0 then g k else 0)<|λk _=>by rw[zA]];rfl⟩ (by show X a-0<fu;lia);rintro s L ⟨i,hi,rfl⟩ p;unfold U6;simp only;by_cases h1:i<X a
  ·rw[zP,Y O];simp only[uP];rw[zp h1,Q,Y<|h i h1];simp only;rw[zp (by rw[yh];exact h1),Q,bH,zb];refine p _ ⟨i+1,W,?_⟩ (by show X a-((i:J)+1).toNat<X a-(i:J).toNat;lia);congr 1;refine xd λk q=> ?_;unfold Ya;by_cases e:k=i
   ·rw[iq e,zP,e]
   ·rw[ir e];show(if k<i then g k else 0)=_;by_cases d:k<i
    ·rw[iq d,zP]
    ·rw[ir d,zA]
  ·rw[zA,Y O];simp only[xar,uS];congr 1;exact xd λk q=>by rw[zP]
theorem Ic(b:b7 m)(h0:zv m<=0)(c:3000000<=fu):qQ fu a m a2=Z ([],1):=by grind [qQ,Y,xE,b7.ok,BT]
def vE(a:N M)(m:J):N M:=xJ (X a)<|λj=>cf a j%m
def ot(a:N M)(m:J):N M:=xJ (X a)<|λj=>near (cf a j) m
def zc8(a:N M)(m:J):N M×J:=if m<=0 then([],1)else(vE a m,0)
def TX(a:N M)(m:J):N M×J:=if m<=0 then([],1)else(ot a m,0)
def b7.bz{z:M}(h:b7 z):Bz 40000 (zv z):=(Bz.of h.1).mono h.2
theorem b5(e:yI k a)(h:k<=40000)(b:b7 m)(hc:X a<=1000000)(d:3000000<=fu):XA fu a m=Z (zc8 a<|zv m):=by
 unfold XA zc8;by_cases h0:zv m<=0
 ·rw[Y<|Ic b h0 d,iq h0]
 ·have⟨K,i⟩:∃K,K=40000:=⟨_,O⟩;have l:Bz K (zv m):=by rw[i];exact b.bz
  rw[ir h0,Y<|OH (c:=0) b W hc (W:K<=100000) (λj=>l.emod W) d λj n=> ?_]
  ·rfl
  ·show jl fu _ _=_;rw[Yv (e.okS h j) b d];unfold ri;rw[ir h0];rfl
def tD(e:yI k a)(h:k<=40000)(b:b7 m)(hc:X a<=1000000)(d:3000000<=fu):W4 fu a m=Z (TX a<|zv m):=by
 unfold W4 TX;by_cases h0:zv m<=0
 ·rw[Y<|Ic b h0 d,iq h0]
 ·have⟨K,i⟩:∃K,K=40000:=⟨_,O⟩;have l:Bz K (zv m):=by rw[i];exact b.bz
  rw[ir h0,Y<|OH (c:=0) b W hc (W:K<=100000) (λj=>l.near W) d λj n=> ?_]
  ·rfl
  ·show XO fu _ _=_;rw[Bo (e.okS h j) b d];unfold zic;rw[ir h0];rfl
def Bn{c d:K}{b:N M}(e:yI c a)(h:yI d b)(l:c+d+X a+1<=40000)(hc:X b<=40000)(j:b7 m)(i:3000000<=fu):Jg fu a b m=Z (zc8 (yW a b)<|zv m):=by
 unfold Jg;have:=jk a b;rw[Y<|xY e h W W i,Y<|b5 (Xk e h) W j W i]
end
section
def O6(n:K)(f:K->J):xJ (X (xJ n f)) (cf<|xJ n f)=xJ n f:=by
 have e:∀k,k<dg f n->cf (xJ n f) k=f k:=λk a=>Sv a;have h:dg (cf<|xJ n f) (X (xJ n f))=dg f n:=by
  rw[xv];refine K2 (IR _) (λk h1 b=>by lia) ?_;by_cases h0:dg f n=0
  ·lia
  ·right;rw[e _ W];exact Qq f n h0
 show zi (dg (cf<|xJ n f) (X (xJ n f))) (cf<|xJ n f)=xJ n f;rw[h];exact xd e
theorem zeI{p:N M}(h:p=xJ (X p) (cf p)):p=zi (X p) (cf p):=by grind [xJ,xv]
def YA{p:N M}(h:p=xJ (X p) (cf p))(h0:X p≠0):cf p (X p-1)≠0:=by grind [xv,Qq]
def U5{p:N M}(h:p=xJ (X p) (cf p)){j:K}(a:j<X p:=by lia):p.getD j (wL,[])=ya (cf p j):=by grind [zeI,YB]
def qc(n:K)(f:K->J):xJ n f=xJ (X (xJ n f)) (cf<|xJ n f):=(O6 n f).symm
def nP{p:N M}(h:p=xJ (X p) (cf p)){l:K}(a:∀k,l<=k->cf p k=0):X p<=l:=by
 refine xbs λb=> ?_;exact YA h W<|a _ W
def dvF(r d:N M)(m:J)(qn:K):K->K->J
 |0=>cf r
 |s+1=>λk=>dvF r d m qn s k-(dvF r d m qn s (qn-(s+1)+(X d-1))%m)*OA d (qn-(s+1)) k
def FB(r d:N M)(m:J)(qn i:K):K->J:=dvF r d m qn<|qn-i
def dvC(r d:N M)(m:J)(qn i:K):J:=FB r d m qn (i+1) (i+(X d-1))%m
section
variable{r d:xS Zr}{m:wl}{qn:wr}
def B9:FB r d m qn qn=cf r:=by unfold FB;rw[xdb];rfl
theorem DY{i:K}(h:i<qn)(k:K):FB r d m qn i k=FB r d m qn (i+1) k-dvC r d m qn i*OA d i k:=by
 unfold dvC FB;have⟨s,a⟩:∃s,s=qn-(i+1):=⟨_,O⟩;rw[(W:qn-i=s+1)];show dvF r d m qn s k-(dvF r d m qn s (qn-(s+1)+(X d-1))%m)*OA d (qn-(s+1)) k=_;grind
def N0{K:wr}(a:yI K r)(hd:yI K d)(b:Bz K m)(h0:0<m):∀s k,Bz (2*K+s) (dvF r d m qn s k)
 |0,k=>(a.bz k).mono W
 |s+1,k=>by
  have h:=((Bz.emod (x:=dvF r d m qn s<|qn-(s+1)+(X d-1)) b h0).mul<|ziu hd (qn-(s+1)) k).mono (W:K+K<=2*K+s);exact Bz.sub (N0 a hd b h0 s k) h
def za1{K:wr}(a:Bz K m)(h0:0<m)(i:wr):Bz K (dvC r d m qn i):=Bz.emod a h0
end
def Xi{fu k:K}{a:N M}{m:M}(b:yI k a)(c:k<=40000)(d:b7 m)(h0:0<zv m)(e:X a<=1000000:=by lia)(f:3000000<=fu:=by lia):xn fu a m=Z (vE a<|zv m):=by grind [xn,zc8,Y,b5]
def aW{K:wr}{a:N M}{m:J}(b:Bz K m)(h0:0<m):yI K (vE a m):=yE λj=>Bz.emod b h0
theorem XD(a:N M)(m:J):X (vE a m)<=X a:=by unfold vE;rw[xv];exact vT _ _
def uG(a:N M)(m:J)(k:K):cf (vE a m) k=cf a k%m:=jz (λj b=>by rw[zX b,xah]) k
def UY(a:N M)(m:J):vE a m=xJ (X (vE a m)) (cf<|vE a m):=qc _ _
def dvQ(r d:N M)(m:J)(qn:K):K->J:=λk=>if k<qn then dvC r d m qn k else 0
def GB(r d:N M)(m:J):N M:=xJ (X r+1-X d)<|λk=>dvQ r d m (X r+1-X d) k%m
def WM(r d:N M)(m:J):N M:=xJ (X r)<|λk=>FB r d m (X r+1-X d) 0 k%m
def Bx(r d:N M)(m:J)(qn i j:K):K->J:=λk=>FB r d m qn (i+1) k-if i<=k/\k<i+j then dvC r d m qn i*cf d (k-i)else 0
def zdg{r d:N M}{m:J}{qn i k:K}:Bx r d m qn i 0 k=FB r d m qn (i+1) k:=by
 unfold Bx;lia
def zdF{r d:N M}{m:J}{qn i:K}(h:i<qn)(k:K):Bx r d m qn i (X d) k=FB r d m qn i k:=by
 rw[DY h];unfold Bx OA;by_cases h:i<=k
 ·rw[iq h];by_cases a:k<i+X d
  ·lia
  ·rw[ir<|λe=>a e.2,zX W,xaC]
 ·grind
def zd4(r d:N M)(m:J)(qn i j k:K):Ya (Bx r d m qn i j) (i+j) (Bx r d m qn i j (i+j)-dvC r d m qn i*cf d j) k=Bx r d m qn i (j+1) k:=by
 unfold Ya;by_cases h:k=i+j
 ·subst h;unfold Bx;simp_all
 ·skip;unfold Bx;by_cases a:i<=k/\k<i+j
  ·lia
  ·lia
def zka{K:wr}{r d:N M}{m:J}{qn i j:wr}(b:yI K r)(hd:yI K d)(a:Bz K m)(h0:0<m)(h:i<qn)(k:wr):Bz (2*K+qn+1) (Bx r d m qn i j k):=by
 refine Bz.sub ((N0 b hd a h0 _ k).mono W) ?_;split
 ·exact((za1 a h0 i).mul<|hd.bz _).mono W
 ·exact Bz.zero _
def zdO{fu K n i qn:wr}{r d:N M}{m:M}{q:wr->J}(c:yI K r)(hd:yI K d)(a:Bz K (zv m))(h0:0<zv m)(hn:X r=n)(o:qn=n+1-X d)(p:0<X d)(hi:i<qn)(t:2*K+n+5<=40000)(g:q i=dvC r d (zv m) qn i)(b:3000000<=fu):
 zg (YH fu d (i:J)) fu (d,m,0,zi n<|FB r d (zv m) qn<|i+1,zi qn q)=Z (d,m,zi n<|FB r d (zv m) qn i,zi qn q):=by
 refine zw (λs:N M×M×J×N M×N M=>∃j:wr,j<=X d/\s=(d,m,(j:J),zi n<|Bx r d (zv m) qn i j,zi qn q)) (λs=>X d-s.2.2.1.toNat) _ ?_ _ _ ⟨0,xac _,by rw[xd (f:=Bx r d (zv m) qn i 0) λk _=>zdg];rfl⟩ (by show X d-0<fu;lia);rintro s L ⟨j,u,rfl⟩ h;unfold YH;simp only;by_cases l:j<X d
 ·rw[zP,Y O];simp only[uP];have e:(i:J)+(j:J)=((i+j:wr):J):=W
  have hp:=zka (j:=j) c hd a h0 hi<|i+j;have hc:=za1 (r:=r) (d:=d) (qn:=qn) a h0 i;rw[zp l,Q,e,zb,zb,zp (by rw[yh];lia),Q,YB W,zp (by rw[yh];lia),Q,YB hi,g,Y<|yB (hc.ok W) (hd.okZ W j) b,YI,zn,Y<|jA (hp.ok W) ((hc.mul<|hd.bz j).ok W) b,zn,zn,zp (by rw[yh];lia),Q,bH,zb];exact h _ ⟨j+1,W,by rw[xd λk _=>zd4 r d (zv m) qn i j k];rfl⟩ (by show X d-((j:J)+1).toNat<X d-(j:J).toNat;lia)
 ·rw[zA,Y O];simp only[xar,uS];obtain rfl:j=X d:=W
  rw[xd λk _=>zdF hi k]
def MY{fu K n qn:wr}{r d:N M}{m:M}(a:yI K r)(j:r=zi n (cf r))(hd:yI K d)(b:Bz K (zv m))(l:zm m.2)(v:X m.2<=K)(h0:0<zv m)(hn:X r=n)(o:qn=n+1-X d)(hc:0<X d)(p:2*K+n+5<=40000)(w:X d<=1000000)(c:3000000<=fu):
 zg (YR fu d m) fu ((qn:J)-1,r,Nm qn (wL,[]))=Z (zi n<|FB r d (zv m) qn 0,zi qn<|dvQ r d (zv m) qn):=by
 refine zw (λs:J×N M×N M=>∃i:wr,i<=qn/\s=((i:J)-1,zi n<|FB r d (zv m) qn i,zi qn (λk=>if i<=k then dvC r d (zv m) qn k else 0))) (λs=>(s.1+1).toNat) _ ?_ _ _ ⟨qn,IR _,?_⟩ (by show((qn:J)-1+1).toNat<fu;lia)
 ·rintro s L ⟨i,hi,rfl⟩ t;unfold YR;simp only
  cases i with
  |zero=>
   have e0:(zi qn λk=>if 0<=k then dvC r d (zv m) qn k else 0)=zi qn (dvQ r d (zv m) qn):=xd λk e=>by
    rw[iq<|xac _];unfold dvQ;lia
   rw[zA,e0]
  |succ i=>
   have e1:((i+1:wr):J)-1=(i:J):=W
   have u:(i:J)+(X d:J)-1=((i+(X d-1):wr):J):=W
   have hp:Bz (2*K+qn) (FB r d (zv m) qn (i+1)<|i+(X d-1)):=(N0 a hd b h0 _ _).mono W;rw[e1,zP,zb,u,zb,zp (by rw[yh];lia),Q,YB W,Y<|Yv (hp.okS W) ⟨l,W⟩ c,zn];unfold ri;rw[zA];simp only;rw[zp (by rw[yh];lia),Q,bH,Y<|zdO (q:=Ya (λk=>if i+1<=k then dvC r d (zv m) qn k else 0) i<|FB r d (zv m) qn (i+1) (i+(X d-1))%zv m) a hd b h0 hn o hc W p ?_ c]
   ·simp only;rw[zb];refine t _ ⟨i,W,?_⟩ (by show((i:J)-1+1).toNat<(((i+1:wr):J)-1+1).toNat;lia);congr 2;refine xd λk e=> ?_;unfold Ya;by_cases h:k=i
    ·rw[iq h,zP,h];rfl
    ·rw[ir h];show(if i+1<=k then _ else _)=_;by_cases f:i+1<=k
     ·rw[iq f,zP]
     ·rw[ir f,zA]
   ·unfold Ya;rw[iq O];rfl
 ·rw[B9,<-j,aR,xd (g:=λk=>if qn<=k then dvC r d (zv m) qn k else 0) λk e=>by rw[zA]]
def QA{fu k K:wr}{a d:N M}{m:M}(l:yI k a)(b:k<=40000)(hd:yI K d)(e:zm m.2)(g:X m.2<=K)(h0:0<zv m)(hi:0<X d)(t:2*K+X a+5<=40000)(o:X d<=1000000)(p:3000000<=fu):
 kq fu a d m=Z (GB (vE a<|zv m) d<|zv m,WM (vE a<|zv m) d<|zv m):=by
 unfold kq;have c:Bz K (zv m):=(Bz.of e).mono g;have f:b7 m:=⟨e,W⟩;have h:=aW (a:=a) c h0;have hl:=XD a<|zv m;have hc:=zeI<|UY a<|zv m;rw[Y<|Xi l b f h0];generalize vE a (zv m)=r at*
 have⟨qn,i⟩:∃qn,qn=X r+1-X d:=⟨_,O⟩;have e1:max ((X r:J)-(X d:J)+1) 0=(qn:J):=W
 rw[zb,zb,Q,e1,yJ,yL,Q,xaT,zb,Y<|MY h hc hd c e g h0 O i hi W o p];simp only;have q:∀j,Bz K (dvQ r d (zv m) qn j):=λj=>by
  unfold dvQ;split
  ·exact za1 c h0 j
  ·exact Bz.zero _
 have s:∀j,Bz (2*K+qn) (FB r d (zv m) qn 0 j):=λj=>(N0 h hd c h0 _ _).mono W;rw[Y (Xi (YM q) W f h0<|by rw[yh];lia),Y<|Xi (YM s) W f h0<|by rw[yh];lia];unfold GB WM vE;rw[<-i,yh,yh,Wa λk b=>by rw[Sv b],Wa (n:=X r) λk b=>by rw[Sv b]]
end
section
variable{k:wr}{a b:xS Zr}
def mono(i:K)(c:J):K->J:=λk=>if k=i then c else 0
theorem zcJ(i:K)(c:J)(k:K):cf (zi (i+1)<|mono i c) k=mono i c k:=by grind [mono,KD]
theorem HA{d:N M}{i:K}{c:J}(k:K):∀n,n<=i->Xb (zi (i+1)<|mono i c) d n k=0
 |0,_=>rfl
 |n+1,h=>by
  unfold Xb;rw[HA k n W,zcJ];unfold mono;grind
def zdx(d:N M)(i:K)(c:J)(k:K):cf (yW (zi (i+1)<|mono i c) d) k=c*OA d i k:=by simp_all [mono,Xb,NQ,yh,HA,zcJ]
def BK(a b:N M)(k:K):cf (JC a b) k=cf a k-cf b k:=jz (λj c=>by rw[zX W,zX W];rfl) k
def U2(a b:N M):X (JC a b)<=max (X a) (X b):=by unfold JC;rw[xv];exact vT _ _
def Cr(c:yI k a)(d:yI k b):yI (k+1) (JC a b):=yE λj=>(c.bz j).sub<|d.bz j
theorem Bz.one':∀{k:K},1<=k->Bz k 1:=by grind [Bz]
theorem Rs(hl:X a=X b)(h:∀j,j<X a->a.getD j (wL,[])=b.getD j (wL,[])):a=b:=by grind [xeQ]
theorem AJ{fu:K}(f:yI k a)(m:k<=1000000)(n:X a<=1000000)(o:3000000<=fu):ZG fu a b=Z (decide<|a=b):=by
 unfold ZG;by_cases hl:X a=X b
 ·rw[zP,Y (v:=if a=b then .inl ()else .inr ())]
  ·grind
  ·refine zw (λi:J=>∃j:K,i=(j:J)/\j<=X a/\∀l,l<j->a.getD l (wL,[])=b.getD l (wL,[])) (λi=>X a-i.toNat) _ ?_ _ _ ⟨0,O,xac _,λl h=>wS h<|xbC _⟩ (by show X a-0<fu;lia);rintro i L ⟨j,rfl,p,d⟩ g;unfold eH;by_cases h1:j<X a
   ·have:=(f.get j).2;rw[zP,zp h1,Q,yj,Q,Y<|Bp W W];by_cases c:a.getD j (wL,[])=b.getD j (wL,[])
    ·rw[Z0 c,ir iI,zb];refine g _ ⟨j+1,O,W,λl h=> ?_⟩ W;by_cases q:l=j
     ·simp_all
     ·exact d l W
    ·rw[uT c,iq iI,ir<|λe=>c<|by rw[e]]
   ·rw[zA,iq<|Rs hl λl h=>d l W]
 ·rw[zA,uT<|λe=>hl<|by rw[e]]
theorem HF{d:N M}(h:X d≠0:=by lia):d.drop (X d-1)=[d.getD (X d-1) (wL,[])]:=by grind [xcb]
end
def zhL{l:N K}(h:(Ty.l .u).ok l):zm l:=λx a=>h.2 x a
def zjW{p:N M}(h:(Ty.l (.p .b (.l .u))).ok p){k:K}(c:∀z∈p,X z.2<=k):yI k p:=λz a=>⟨zhL (h.2 z a).2,c z a⟩
def sD(c k:K)(p:N M):Prop:=X p<=c/\∀z∈p,X z.2<=k
instance(c k:K)(p:N M):WL (sD c k p):=inferInstanceAs<|WL<|_/\_
def zoo{l:N M}{i:K}(h:i<X l):l.getD i (wL,[])∈l:=by grind
def zet{l:N M}{q:M->Prop}(h:∀j,j<X l->q (l.getD j (wL,[]))):∀z∈l,q z:=by grind [xdK]
section
def Iw{a b:N M}(k:K):∀c,Xb a b (X a+c) k=Xb a b (X a) k
 |0=>rfl
 |c+1=>by
  show Xb a b (X a+c) k+cf a (X a+c)*OA b (X a+c) k=_;rw[Iw k c,zX W,xaP,xbF]
def RK{a b:N M}{n:K}(h:X a<=n)(k:K):Xb a b n k=Xb a b (X a) k:=by
 have:=Iw (a:=a) (b:=b) k<|n-X a;simp_all
def DF{a b:N M}{m:J}(h:∀k,cf a k%m=cf b k%m):vE a m=vE b m:=by grind [vE,Xo,zX,xah]
section
variable{r d:xS Zr}{m:wl}
theorem zcA{qn:K}{q:N M}(a:∀j,j<qn->cf q j=dvC r d m qn j)(k:K):∀n,n<=qn->FB r d m qn n k=FB r d m qn 0 k+Xb q d n k
 |0,_=>by show _=_+0;lia
 |n+1,h=>by
  have b:=zcA a k n W;rw[DY W]at b;show _=_+(Xb q d n k+cf q n*OA d n k);grind
def zcl(j:K):cf (GB r d m) j=dvQ r d m (X r+1-X d) j%m:=jz (λk a=>by unfold dvQ;rw[zA,xah]) j
def ET{qn:K}(hn:X r<=qn+(X d-1))(a:0<X d)(b:cf d (X d-1)=1):∀c i k,i+c=qn->i+(X d-1)<=k->FB r d m qn i k%m=0
 |0,i,k,hi,e=>by
  obtain rfl:i=qn:=W
  rw[B9,zX W,xah]
 |c+1,i,k,hi,e=>by
  rw[DY W];by_cases h:k=i+(X d-1)
  ·unfold OA dvC;simp_all
  ·have f:=ET hn a b c (i+1) k W W;unfold OA;rw[zP,zX W,xaC,xcB];exact f
def nY(h:X r<=X r+1-X d+(X d-1))(a:0<X d)(b:cf d (X d-1)=1)(k:K):cf (WM r d m) k=FB r d m (X r+1-X d) 0 k%m:=
 jz (λj c=>by
  by_cases e:X d<=X r
  ·exact ET h a b _ 0 j (xaJ _) W
  ·rw[(W:X r+1-X d=0),B9,zX c,xah]) k
def GV(a:0<X d)(b:cf d (X d-1)=1):X (WM r d m)<X d:=by
 have h:X (WM r d m)<=X d-1:=nP (qc _ _) λk c=>by
  rw[show xJ (X r) (λk=>FB r d m (X r+1-X d) 0 k%m)=WM r d m from O,nY W a b];exact ET W a b _ 0 k (xaJ _) W
 lia
end
end
section
variable{m:wl}
def yp:K->(K->J)->J
 |0,_=>0
 |n+1,f=>yp n f+f n
def yu{f g:K->J}:∀{n},(∀k,k<n->f k=g k)->yp n f=yp n g
 |0,_=>rfl
 |n+1,h=>by
  show yp n f+f n=yp n g+g n;rw[yu λk a=>h k W,h n W]
def Xt(f g:K->J):∀n,yp n (λk=>f k+g k)=yp n f+yp n g
 |0=>rfl
 |n+1=>by
  show yp n _+(f n+g n)=yp n f+f n+(yp n g+g n);rw[Xt f g n];lia
theorem uR(c:J)(f:K->J):∀n,yp n (λk=>c*f k)=c*yp n f
 |0=>by show 0=c*0;lia
 |n+1=>by
  show yp n _+c*f n=c*(yp n f+f n);rw[uR c f n,xfs]
theorem zd9(c:J)(f:K->J)(n:K):yp n (λk=>f k*c)=yp n f*c:=by grind [uR,xbg]
def xk:∀{n}{f:K->J},(∀k,k<n->f k=0)->yp n f=0
 |0,_,_=>rfl
 |n+1,f,h=>by
  show yp n f+f n=0;rw[xk λk a=>h k W,h n W];rfl
def Zc(f:K->J):∀n,yp (n+1) f=f 0+yp n (λk=>f<|k+1)
 |0=>by show 0+f 0=f 0+0;lia
 |n+1=>by
  show yp (n+1) f+f (n+1)=f 0+(yp n _+f (n+1));rw[Zc f n];lia
def SA(f:K->J):∀n,yp (n+1) f=yp (n+1) (λk=>f<|n-k)
 |0=>rfl
 |n+1=>by
  rw[Zc (λk=>f<|n+1-k)<|n+1];show yp (n+1) f+f (n+1)=f (n+1-0)+_;rw[SA f n,Nat.sub_zero,yu (f:=λk=>f<|n+1-(k+1)) λk _=>by rw[(W:n+1-(k+1)=n-k)]];lia
def Mo{f:K->J}{n:K}(h:∀k,n<=k->f k=0):∀c,yp (n+c) f=yp n f
 |0=>rfl
 |c+1=>by
  show yp (n+c) f+f (n+c)=_;rw[Mo h c,h _ W];lia
theorem Ov(G:K->K->J):∀n,yp n (λi=>yp (i+1)<|λj=>G j<|i-j)=yp n (λj=>yp (n-j)<|λl=>G j l)
 |0=>rfl
 |n+1=>by
  show yp n _+yp (n+1) (λj=>G j<|n-j)=yp n _+yp (n+1-n) (λl=>G n l);rw[Ov G n,yu (f:=λj=>yp (n+1-j)<|λl=>G j l) (g:=λj=>yp (n-j) (λl=>G j l)+G j (n-j)) λj a=>by rw[(W:n+1-j=(n-j)+1)];rfl,Xt,(W:n+1-n=1)];show _+(yp n (λj=>G j<|n-j)+G n (n-n))=_+(0+G n 0);grind
abbrev Pz:=K->J
instance:_root_.Add Pz:=⟨λf g k=>f k+g k⟩
instance:_root_.Sub Pz:=⟨λf g k=>f k-g k⟩
instance:_root_.Neg Pz:=⟨λf k=> -f k⟩
instance:_root_.Mul Pz:=⟨λf g k=>yp (k+1)<|λi=>f i*g (k-i)⟩
def pc(c:J):Pz:=λk=>if k=0 then c else 0
theorem zI(f g:Pz)(k:K):(f+g) k=f k+g k:=O
theorem yY(f g:Pz)(k:K):(f-g) k=f k-g k:=O
theorem zbX(f:Pz)(k:K):(-f) k= -f k:=O
theorem vK(f g:Pz)(k:K):(f*g) k=yp (k+1) (λi=>f i*g (k-i)):=O
theorem zk(f g:Pz):f*g=g*f:=by
 funext k;rw[vK,SA];exact yu λi hi=>by rw[(W:k-(k-i)=i),xbg]
theorem xg(f g h:Pz):f*(g+h)=f*g+f*h:=by
 funext k;rw[zI,vK,vK,vK,<-Xt];exact yu λi _=>by rw[zI,xfs]
theorem ym(f g h:Pz):(f+g)*h=f*h+g*h:=by grind [zk,xg]
theorem zdr(f g:Pz):f*(-g)= -(f*g):=by grind [zbX,yp,vK,uR]
theorem O2(f g:Pz):f-g=f+ -g:=by
 rfl
theorem vL(f g h:Pz):f*(g-h)=f*g-f*h:=by grind [O2,xg,zdr]
theorem qw(f g h:Pz):(f-g)*h=f*h-g*h:=by grind [zk,vL]
theorem zd(f g h:Pz):f*g*h=f*(g*h):=by
 funext k;have e1:(f*g*h) k=yp (k+1) (λi=>yp (i+1)<|λj=>(λj l=>f j*g l*h (k-(j+l))) j<|i-j):=by
  rw[vK];refine yu λi hi=> ?_;rw[vK,<-zd9];exact yu λj a=>by grind
 rw[e1,Ov<|λj l=>f j*g l*h (k-(j+l)),vK];refine yu λj a=> ?_;rw[vK,<-uR,(W:k+1-j=k-j+1)];exact yu λl hl=>by
  show f j*g l*h (k-(j+l))=f j*(g l*h (k-j-l));rw[(W:k-(j+l)=k-j-l),xct]
theorem zB(f g h:Pz):f*(g*h)=g*(f*h):=by grind [zd,zk]
theorem zS(c:J)(f:Pz)(k:K):(pc c*f) k=c*f k:=by simp_all [pc,vK,Zc,xk]
def zC(f:Pz):pc 1*f=f:=by funext k;rw[zS,xcv]
def zQ(f:Pz):pc 0*f=pc 0:=by
 funext k;rw[zS,xaP];unfold pc;split<;>rfl
def zH(k:K):pc 0 k=0:=by unfold pc;split<;>rfl
def kH(a b:J):pc a*pc b=pc (a*b):=by
 funext k;rw[zS];unfold pc;split
 ·rfl
 ·lia
def Cg(m:J)(f g:Pz):Prop:=∀k,f k%m=g k%m
def Cg.rfl{f:Pz}:Cg m f f:=λ_=>Eq.refl _
def Cg.of{f g:Pz}(h:f=g):Cg m f g:=λ_=>by rw[h]
def Cg.symm{m:J}{f g:Pz}(h:Cg m f g):Cg m g f:=λk=>(h k).symm
def Cg.trans{m:J}{f g h:Pz}(h1:Cg m f g)(a:Cg m g h):Cg m f h:=λk=>(h1 k).trans<|a k
def Cg.add{f f' g a:Pz}(h1:Cg m f f')(b:Cg m g a):Cg m (f+g) (f'+a):=λk=>by
 rw[zI,zI,xdx,h1,b,<-xdx]
def Cg.sub{f f' g a:Pz}(h1:Cg m f f')(b:Cg m g a):Cg m (f-g) (f'-a):=λk=>by
 rw[yY,yY,xfA,h1,b,<-xfA]
def gL{m:J}{f g:K->J}:∀{n},(∀k,k<n->f k%m=g k%m)->yp n f%m=yp n g%m
 |0,_=>Eq.refl _
 |n+1,h=>by
  show(yp n f+f n)%m=(yp n g+g n)%m;rw[xdx,gL λk a=>h k W,h n W,<-xdx]
def Cg.mul{f f' g a:Pz}(h1:Cg m f f')(b:Cg m g a):Cg m (f*g) (f'*a):=λk=>by
 exact gL λi _=>by rw[xbc,h1,b,<-xbc]
def Cg.down{n:J}{f g:Pz}(h:Cg m f g)(hd:n∣m):Cg n f g:=λk=>by
 have:=h k;rw[<-xcC (f k) hd,this,xcC _ hd]
def Cg.dvd{f:Pz}(h:Cg m f (pc 0))(k:K):m∣f k:=xaF<|by rw[h,zH,xah]
def Cg.of_dvd{f:Pz}(h:∀k,m∣f k):Cg m f (pc 0):=λk=>by rw[zH,xah,xav<|h k]
def e9{m:J}{f:K->J}:∀{n},(∀k,k<n->m∣f k)->m∣yp n f
 |0,_=>xdy _
 |n+1,h=>Int.dvd_add (e9 λk a=>h k W)<|h n W
def Cg.mul_zero{n:J}{f g:Pz}(a:Cg m f (pc 0))(b:Cg n g (pc 0)):Cg (m*n) (f*g) (pc 0):=Cg.of_dvd λk=>by
 exact e9 λi _=>xfP (a.dvd i)<|b.dvd _
def Cg.mul_zero_l{f:Pz}(g:Pz)(a:Cg m f (pc 0)):Cg m (g*f) (pc 0):=by
 have:=(Cg.rfl (f:=g)).mul a;rw[zk g<|pc 0,zQ]at this;lia
def Cg.iff_sub{f g:Pz}:Cg m f g↔Cg m (f-g) (pc 0):=by
 constructor
 ·intro h;refine Cg.of_dvd λk=> ?_;exact xaF<|xaI.1<|h k
 ·intro h k;have:=xav<|h.dvd k;exact xaI.2 this
end
section
variable{m:wl}{f g h s t:Pz}
theorem yf(f:Pz):f*pc 1=f:=by rw[zk,zC]
def ziW(f g h s t e q:Pz):f-(g+(t*e+q*g))*(h+(s*e-q*h))=(f-g*h-e)+(e*(pc 1-(s*g+t*h))-(t*s)*(e*e)+(t*h-g*s)*(q*e)+(g*h)*(q*q)):=by
 simp only[xg,vL,yf,zB,zk];funext k;simp only[zI,yY];lia
def zhD(g h s t b c:Pz):(s-(s*b-c*h))*g+(t-(t*b+c*g))*h-pc 1=(s*g+t*h-pc 1-b)-(s*g+t*h-pc 1-b)*b-b*b:=by
 simp only[xg,vL,yf,zB,zk];funext k;simp only[zI,yY];lia
def Cg.zero_add(a:Cg m f (pc 0))(b:Cg m g (pc 0)):Cg m (f+g) (pc 0):=Cg.of_dvd λk=>by skip;exact Int.dvd_add (a.dvd k)<|b.dvd k
def Cg.zero_sub(a:Cg m f (pc 0))(b:Cg m g (pc 0)):Cg m (f-g) (pc 0):=Cg.of_dvd λk=>by skip;exact xdp (a.dvd k)<|b.dvd k
def Cg.mul_zero_r(g:Pz)(a:Cg m f (pc 0)):Cg m (f*g) (pc 0):=by rw[zk];exact a.mul_zero_l g
def zfe{n:J}(b:m∣n*n)(hn:n∣m){e q r d i:Pz}(h1:Cg n f (g*h))(p:Cg n (s*g+t*h) (pc 1))(j:Cg m e (f-g*h))(hd:Cg m (s*e) (q*h+r))(c:Cg n q (pc 0))(w:Cg n r (pc 0))(l:Cg m d (g+(t*e+q*g)))(o:Cg m i (h+r)):
 Cg m f (d*i)/\Cg n d g/\Cg n i h:=by
 have a:Cg n e (pc 0):=(j.down hn).trans<|Cg.iff_sub.1 h1;have u:Cg m r (s*e-q*h):=by
  refine Cg.iff_sub.2<|Cg.of_dvd λk=> ?_;have:=(Cg.iff_sub.1 hd).dvd k;simp only[zI,yY]at this⊢;have e1:r k-((s*e) k-(q*h) k)= -((s*e) k-((q*h) k+r k)):=W
  simp_all
 refine⟨?_,?_,?_⟩
 ·refine Cg.trans ?_<|Cg.symm<|l.mul<|o.trans<|Cg.rfl.add u;refine Cg.iff_sub.2 ?_;rw[ziW];have v:Cg m (f-g*h-e) (pc 0):=Cg.iff_sub.1 j.symm;have z2:Cg n (pc 1-(s*g+t*h)) (pc 0):=Cg.iff_sub.1 p.symm;exact v.zero_add ((((a.mul_zero z2).down b).zero_sub<|((a.mul_zero a).down b).mul_zero_l _).zero_add (((c.mul_zero a).down b).mul_zero_l _)|>.zero_add (((c.mul_zero c).down b).mul_zero_l _))
 ·refine(l.down hn).trans<|Cg.iff_sub.2 ?_;have e1:g+(t*e+q*g)-g=t*e+q*g:=by
   funext k;simp only[zI,yY];lia
  rw[e1];exact(a.mul_zero_l t).zero_add<|c.mul_zero_r g
 ·refine(o.down hn).trans<|Cg.iff_sub.2 ?_;have e1:h+r-h=r:=by
   funext k;simp only[zI,yY];lia
  simp_all
def zhS{n:J}(o:m∣n*n)(hn:n∣m){b c d a e:Pz}(p:Cg n (s*g+t*h) (pc 1))(i:Cg m b (s*g+t*h-pc 1))(hd:Cg m (s*b) (c*h+d))(q:Cg m a (s-d))(r:Cg m e (t-(t*b+c*g))):
 Cg m (a*g+e*h) (pc 1):=by
 have j:=(i.down hn).trans<|Cg.iff_sub.1 p;have hc:Cg m d (s*b-c*h):=by
  refine Cg.iff_sub.2<|Cg.of_dvd λk=> ?_;have:=(Cg.iff_sub.1 hd).dvd k;simp only[zI,yY]at this⊢;have e1:d k-((s*b) k-(c*h) k)= -((s*b) k-((c*h) k+d k)):=W
  simp_all
 refine((q.trans<|Cg.rfl.sub hc).mul Cg.rfl|>.add (r.mul Cg.rfl)).trans<|Cg.iff_sub.2 ?_;rw[zhD];have l:=Cg.iff_sub.1 i.symm;exact(l.zero_sub<|l.mul_zero_r b).zero_sub<|(j.mul_zero j).down o
end
section
variable{a p:wl}{fu j m:wr}{f g:Pz}{l:xS wl}
theorem PK(hp:0<p:=by lia):(if xbE a p<0 then xbE a p+p else xbE a p)=a%p:=by
 have h1:=xcI a (W:p≠0);have b:=xdD a hp;by_cases h:0<=a\/p∣a
 ·grind
 ·grind
theorem jQ(b:0<=a:=by lia):xbE a p=a%p:=by grind
def yn(hp:0<p:=by lia):0<=a%p/\a%p<p:=⟨xcI a W,xdD a hp⟩
theorem YT(h1:1<=p)(c:p<=65521)(d:K8 a):Ze fu a p=Z (a%p):=by
 unfold Ze;have e:=yn (a:=a) (p:=p);have b:=PK (a:=a) (p:=p);rw[zA,yL,Q];by_cases h:xbE a p<0
 ·rw[iq h]at b;rw[iq h,zb,b]
 ·grind
def zl(n:K)(f:Pz):N J:=(xaY n).map f
def ci(l:N J):Pz:=λk=>l.getD k 0
def nl(n:K)(f:Pz):N J:=zl (dg f n) f
def ZZ(l:N J)(k:K):l.getD k 0=ci l k:=O
theorem zD(n:K)(f:Pz):X (zl n f)=n:=by unfold zl;simp
def qS{n:K}(h:j<n:=by lia):(zl n f).getD j 0=f j:=by simp_all [zl]
theorem yF{n:K}(h:∀k,k<n->f k=g k):zl n f=zl n g:=by simp_all [zl]
theorem uC{n:K}{v:J}:(zl n f).set j v=zl n (Ya f j v):=by
 refine xcy λi=> ?_;unfold zl Ya;by_cases h:j=i
 ·grind
 ·grind
theorem Uo(n:K):Nm n 0=zl n (λ_=>0):=by grind [zl,List.map_const',xep]
theorem zjO{n:K}:zl n f++[f n]=zl (n+1) f:=by grind [zl,xdv]
def Cc{n:K}(h:m<=n:=by lia):(zl n f).take m=zl m f:=by
 unfold zl;rw[<-List.map_take,List.take_range,xcF h]
theorem jh{n:K}(h:j<n):ci (zl n f) j=f j:=qS h
theorem zU(h:X l<=j):ci l j=0:=by simp_all [ci]
theorem v8{n:K}(h:∀k,n<=k->f k=0)(j:K):ci (zl n f) j=f j:=by grind [jh,zU,zD]
theorem RE(l:N J):zl (X l) (ci l)=l:=by grind [zl,ci,zD,xeQ]
def zh8(n:K)(f:Pz):X (nl n f)=dg f n:=zD _ _
def HY(n:K)(f:Pz):X (nl n f)<=n:=by rw[zh8];exact vT _ _
def Eo{n:K}(h:∀k,n<=k->f k=0)(j:K):ci (nl n f) j=f j:=by
 refine v8 (λk b=> ?_) j;by_cases hn:k<n
 ·exact Qx f n k b hn
 ·simp_all
theorem zoc{n:K}(c:∀k,n<=k->f k=0)(d:∀k,m<=k->g k=0)(h:∀k,f k=g k):dg f n=dg g m:=by
 refine K2 ?_ ?_ ?_
 ·refine xbs λe=> ?_;have:=Qq g m W;grind
 ·intro k h1 i;rw[h];by_cases b:k<m
  ·exact Qx g m k h1 b
  ·simp_all
 ·by_cases h0:dg g m=0
  ·lia
  ·right;rw[h];exact Qq g m h0
theorem zob{n:K}(b:∀k,n<=k->f k=0)(c:∀k,m<=k->g k=0)(h:∀k,f k=g k):nl n f=nl m g:=by grind [nl,zoc,yF]
theorem eG{n:K}(h:∀k,k<n->f k=g k):nl n f=nl n g:=by grind [nl,C7,vT,yF]
def Nl(l:N J):Prop:=X l=0\/ci l (X l-1)≠0
def Ak(n:K)(f:Pz):Nl (nl n f):=by
 by_cases h:X (nl n f)=0
 ·exact .inl h
 ·right;rw[zh8]at h⊢;unfold nl;rw[jh W];exact Qq f n h
def Nl.eq(h:Nl l):l=nl (X l) (ci l):=by
 have e:=K2 (IR _) (λk h1 b=>by lia)<|h.imp id id;unfold nl;rw[e,RE]
def Nl.ext{a b:N J}(d:Nl a)(e:Nl b)(h:∀k,ci a k=ci b k):a=b:=by
 rw[d.eq,e.eq];exact zob (λk c=>zU c) (λk c=>zU c) h
theorem Nl.le(h:Nl l){n:K}(b:∀k,n<=k->ci l k=0):X l<=n:=by
 obtain h|h:=h
 ·lia
 ·grind
def Rl(l:N J):Prop:=∀k,K8<|ci l k
structure Fp(p:J)(l:N J):Prop where
 nn:∀k,0<=ci l k
 lt:∀k,ci l k<p
 nl:Nl l
def pm(p:J)(l:N J):N J:=nl (X l)<|λk=>ci l k%p
def si(p:J)(l:N J)(k:K):ci (pm p l) k=ci l k%p:=Eo (λk b=>by rw[zU b,xah]) k
def Hz(p:J)(l:N J):X (pm p l)<=X l:=HY _ _
def cz(hp:0<p)(l:N J):Fp p (pm p l):=⟨λk=>by rw[si];exact(yn hp).1,λk=>by rw[si];exact(yn hp).2,Ak _ _⟩
def IC(p:J)(l:N J):Cg p (ci<|pm p l) (ci l):=λk=>by rw[si,xaE]
def Fp.mod(h:Fp p l)(k:K):ci l k%p=ci l k:=xaD (h.nn k)<|h.lt k
def Fp.pm{p:J}{l:N J}(h:Fp p l):pm p l=l:=by
 refine Nl.ext (Ak _ _) h.nl λk=> ?_;exact(si p l k).trans<|h.mod k
theorem Fp.ext{p:J}{a b:N J}(c:Fp p a)(d:Fp p b)(h:Cg p (ci a) (ci b)):a=b:=Nl.ext c.nl d.nl λk=>by rw[<-c.mod,h,d.mod]
def Fp.rl(h:Fp p l)(hp:p<=65521):Rl l:=λk=>by
 have h1:=h.nn k;have b:=h.lt k;lia
def zO(h1:1<=p)(n:p<=65521)(o:Rl l)(hl:X l<=1000000)(r:3000000<=fu):yg fu l p=Z (pm p l):=by
 unfold yg;have hd:=vT (λk=>ci l k%p) (X l);rw[yJ,yL,Q,Uo,Y (v:=zl (X l)<|λk=>ci l k%p)]
 ·rw[Y (v:=pm p l)];refine zw (λt:N J=>∃m,m<=X l/\t=zl m (λk=>ci l k%p)/\dg (λk=>ci l k%p) m=dg (λk=>ci l k%p) (X l)) (λt=>X t) _ ?_ _ _ ⟨X l,IR _,O,O⟩ (by rw[zD];lia);rintro t L ⟨m,u,rfl,b⟩ c;unfold cd;rw[zD]
  cases m with
  |zero=>
   rw[zA];unfold pm nl;rw[<-b];rfl
  |succ m=>
   rw[zP,(W:((m+1:K):J)-1=(m:J)),zb,yj,Q,qS];by_cases h0:ci l m%p=0
   ·rw[iq h0,zb,yJ,yL,Q,Cc];exact c _ ⟨m,W,O,by rw[<-UZ (f:=λk=>ci l k%p) h0,b]⟩<|by rw[zD,zD];lia
   ·rw[ir h0];unfold pm nl;rw[<-b,JW (f:=λk=>ci l k%p) h0]
 ·refine zw (λs:J×N J=>∃i:K,i<=X l/\s=((i:J),zl (X l) (λk=>if k<i then ci l k%p else 0))) (λs=>X l-s.1.toNat) _ ?_ _ _ ⟨0,xac _,by rw[yF (g:=λk=>if k<0 then ci l k%p else 0)<|λk _=>by rw[zA]];rfl⟩ (by show X l-0<fu;lia);rintro s L ⟨i,hi,rfl⟩ c;unfold b9;simp only;by_cases h:i<X l
  ·rw[zP,zp h,Q,ZZ,Y<|YT h1 n<|o i,zp (by rw[zD];exact h),Q,uC,zb];refine c _ ⟨i+1,W,?_⟩ (by show X l-((i:J)+1).toNat<X l-(i:J).toNat;lia);congr 1;refine yF λk q=> ?_;unfold Ya;by_cases e:k=i
   ·rw[iq e,zP,e]
   ·rw[ir e];show(if k<i then ci l k%p else 0)=_;by_cases d:k<i
    ·rw[iq d,zP]
    ·rw[ir d,zA]
  ·rw[zA];congr 1;exact yF λk q=>by rw[zP]
end
section
variable{f g:Pz}{p:wl}{fu:wr}{a b:xS wl}
def sh(g:Pz)(i k:K):J:=if i<=k then g (k-i)else 0
def FE(f g:Pz)(n k:K):J:=yp n<|λi=>f i*sh g i k
theorem oW{n:K}(d:∀k,n<=k->f k=0)(k:K):FE f g n k=(f*g) k:=by
 have e1:=Mo (f:=λi=>f i*sh g i k) (λi hi=>by rw[d i hi,xaP])<|k+1;have c:=Mo (f:=λi=>f i*sh g i k) (n:=k+1) (λi hi=>by unfold sh;rw[zA,xaC]) n;rw[xdO]at c;unfold FE;rw[<-e1,c];exact yu λi hi=>by unfold sh;rw[zP]
theorem Pa(a b:N M)(k:K):∀n,Xb a b n k=FE (cf a) (cf b) n k
 |0=>rfl
 |n+1=>by
  show Xb a b n k+cf a n*OA b n k=FE (cf a) (cf b) n k+cf a n*sh (cf b) n k;rw[Pa a b k n];rfl
theorem vZ(a b:N M):cf (yW a b)=(cf a:Pz)*cf b:=by grind [NQ,Pa,oW,zX]
def ov(f g:Pz)(i j k:K):J:=FE f g i k+if i<=k/\k<i+j then f i*g (k-i)else 0
def Hx(f g:Pz)(i k:K):ov f g i 0 k=FE f g i k:=by
 unfold ov;lia
theorem Ib{n:K}(c:∀k,n<=k->g k=0)(i k:K):ov f g i n k=FE f g (i+1) k:=by
 show _=FE f g i k+f i*sh g i k;unfold ov sh;by_cases h:i<=k
 ·grind
 ·grind
def HV(f g:Pz)(p:J)(i j k:K):Ya (λk=>ov f g i j k%p) (i+j) ((ov f g i j (i+j)%p+f i*g j)%p) k=ov f g i (j+1) k%p:=by
 unfold Ya;by_cases h:k=i+j
 ·subst h;unfold ov;simp_all
 ·rw[ir h];show ov f g i j k%p=_;unfold ov;congr 2;by_cases c:i<=k/\k<i+j
  ·lia
  ·lia
def yH(p:J)(a b:N J):N J:=nl (X a+X b)<|λk=>(ci a*ci b) k%p
theorem kf{n m:K}(c:∀k,n<=k->f k=0)(d:∀k,m<=k->g k=0){k:K}(h:n+m<=k+1:=by lia):(f*g) k=0:=by
 refine xk λi hi=> ?_;by_cases h1:i<n
 ·grind
 ·simp_all
def aB(p:J)(a b:N J)(k:K):ci (yH p a b) k=(ci a*ci b) k%p:=Eo (λk d=>by rw[kf (λj c=>zU c)<|λj c=>zU c,xah]) k
theorem qT(p:J)(a b:N J):Cg p (ci<|yH p a b) (ci a*ci b):=λk=>by rw[aB,xaE]
theorem w5(hp:0<p)(a b:N J):Fp p (yH p a b):=⟨λk=>by rw[aB];exact(yn hp).1,λk=>by rw[aB];exact(yn hp).2,Ak _ _⟩
def wZ(p:J)(a b:N J):X (yH p a b)<=X a+X b:=HY _ _
def Zi{x y:J}(e:p<=65521)(d:0<=x)(h:x<p)(c:0<=y)(i:y<p):0<=x*y/\x*y<=4293001441:=by
 refine⟨xcz d c,?_⟩;have h1:x*y<=65521*y:=xbn W c;lia
def vk(h1:1<=p)(l:p<=65521)(m:Fp p a)(o:Fp p b)(hc:X a<=100000)(hd:X b<=100000)(q:3000000<=fu):wQ fu a b p=Z (yH p a b):=by
 unfold wQ;have⟨n,hn⟩:∃n,n=X a+X b:=⟨_,O⟩;rw[zb,(W:(X a:J)+(X b:J)=(n:J)),yJ,yL,Q,Uo,Y (v:=zl n<|λk=>FE (ci a) (ci b) (X a) k%p)]
 ·have r:∀k,n<=k->FE (ci a) (ci b) (X a) k%p=0:=λk d=>by rw[oW<|λj c=>zU c,kf (λj c=>zU c)<|λj c=>zU c,xah]
  have t:Rl (zl n<|λk=>FE (ci a) (ci b) (X a) k%p):=λk=>by
   rw[v8 r];have:=yn (a:=FE (ci a) (ci b) (X a) k) (p:=p);exact⟨W,W⟩
  rw[Y<|zO h1 l t (by rw[zD];lia) q];congr 1;unfold pm yH;rw[zD,<-hn];exact eG λk d=>by rw[jh d,xaE,oW<|λj c=>zU c]
 ·refine zw (λs:J×N J=>∃i:K,i<=X a/\s=((i:J),zl n<|λk=>FE (ci a) (ci b) i k%p)) (λs=>X a-s.1.toNat) _ ?_ _ _ ⟨0,xac _,by rw[yF (g:=λk=>FE (ci a) (ci b) 0 k%p) λk _=>by show(0:J)=0%p;rw[xah]];rfl⟩ (by show X a-0<fu;lia);rintro s L ⟨i,hi,rfl⟩ u;unfold KZ;simp only;by_cases w:i<X a
  ·rw[zP,Y O];simp only[uP];rw[zp w,Q,Y (v:=zl n<|λk=>FE (ci a) (ci b) (i+1) k%p),zb]
   ·exact u _ ⟨i+1,W,O⟩ (by show X a-((i:J)+1).toNat<X a-(i:J).toNat;lia)
   ·refine zw (λs:J×N J=>∃j:K,j<=X b/\s=((j:J),zl n<|λk=>ov (ci a) (ci b) i j k%p)) (λs=>X b-s.1.toNat) _ ?_ _ _ ⟨0,xac _,by rw[yF λk _=>by rw[<-Hx]];rfl⟩ (by show X b-0<fu;lia);rintro s y ⟨j,c,rfl⟩ h;unfold KE;simp only;by_cases x:j<X b
    ·rw[zP,Y O];simp only[uP];have e:(i:J)+(j:J)=((i+j:K):J):=W
     have r1:=yn (a:=ov (ci a) (ci b) i j<|i+j) (p:=p);have⟨r2,z⟩:=Zi l (m.nn i) (m.lt i) (o.nn j)<|o.lt j;rw[zp x,Q,e,zb,zb,zp (by rw[zD];lia),Q,qS,ZZ,ZZ,zb,zb,yL,Q,jQ,zp (by rw[zD];lia),Q,uC,zb];exact h _ ⟨j+1,W,by rw[yF λk _=>HV (ci a) (ci b) p i j k];rfl⟩ (by show X b-((j:J)+1).toNat<X b-(j:J).toNat;lia)
    ·rw[zA,Y O];simp only[xar,uS];obtain rfl:j=X b:=W
     rw[yF λk _=>by rw[Ib<|λk d=>zU d]]
  ·rw[zA,Y O];simp only[xar,uS];obtain rfl:i=X a:=W
   rfl
def vy(p:J)(a b:N J)(c:J):N J:=nl (max (X a) (X b))<|λk=>(ci a k+c*ci b k)%p
def Cj(p:J)(a b:N J)(c:J)(k:K):ci (vy p a b c) k=(ci a k+c*ci b k)%p:=Eo (λk d=>by rw[zU W,zU W,xaC];exact xah _) k
def Np(p:J)(a b:N J)(c:J):Cg p (ci<|vy p a b c) (ci a+pc c*ci b):=λk=>by rw[Cj,xaE,zI,zS]
def ZD(hp:0<p)(a b:N J)(c:J):Fp p (vy p a b c):=⟨λk=>by rw[Cj];exact(yn hp).1,λk=>by rw[Cj];exact(yn hp).2,Ak _ _⟩
def gX(p:J)(a b:N J)(c:J):X (vy p a b c)<=max (X a) (X b):=HY _ _
theorem znl{n:K}(h:X a<=n):cpy (Nm n 0) a=zl n (ci a):=by
 unfold cpy;rw[xaT,xcF h,xcJ,List.drop_replicate];refine xeQ (by rw[xaq,xaT,zD];lia) λj h1 c=> ?_;have d:=jh (f:=ci a) (by rw[zD]at c;exact c);have e:(zl n<|ci a).getD j 0=a.getD j 0:=d;grind
def JY{c:J}(h1:1<=p)(o:p<=65521)(h:Fp p a)(j:Fp p b)(hc:0<=c)(hd:c<p)(z:X a<=100000)(A:X b<=100000)(q:3000000<=fu):Y6 fu a b c p=Z (vy p a b c):=by
 unfold Y6;have⟨n,hn⟩:∃n,n=max (X a) (X b):=⟨_,O⟩;have r:∀k,n<=k->ci a k+c*ci b k=0:=λk m=>by rw[zU W,zU W,xaC];rfl
 have t:∀k,0<=ci a k+c*ci b k/\ci a k+c*ci b k<=4293066962:=λk=>by
  have⟨r2,u⟩:=Zi o hc hd (j.nn k)<|j.lt k;have:=h.nn k;have:=h.lt k;lia
 rw[Q,(W:max (X a:J) (X b:J)=(n:J)),yJ,yL,Q,Q,znl W,Y (v:=zl n<|λk=>ci a k+c*ci b k)]
 ·have w:Rl (zl n<|λk=>ci a k+c*ci b k):=λk=>by
   rw[v8 r];have:=t k;exact⟨W,W⟩
  rw[Y<|zO h1 o w (by rw[zD];lia) q];congr 1;unfold pm vy;rw[zD,<-hn];exact eG λk m=>by rw[jh m]
 ·refine zw (λs:J×N J=>∃i:K,i<=X b/\s=((i:J),zl n (λk=>ci a k+if k<i then c*ci b k else 0))) (λs=>X b-s.1.toNat) _ ?_ _ _ ⟨0,xac _,by rw[yF (f:=ci a) (g:=λk=>ci a k+if k<0 then c*ci b k else 0) λk _=>by rw[zA,xbF]];rfl⟩ (by show X b-0<fu;lia);rintro s L ⟨i,hi,rfl⟩ x;unfold lv;simp only;by_cases y:i<X b
  ·rw[zP,Y O];simp only[uP];have⟨r2,u⟩:=Zi o hc hd (j.nn i)<|j.lt i;have:=h.nn i;have:=h.lt i;rw[zp y,Q,zp (by rw[zD];lia),Q,qS,ir<|Nat.lt_irrefl i,xbF,ZZ,zb,zb,zp (by rw[zD];lia),Q,uC,zb];refine x _ ⟨i+1,W,?_⟩ (by show X b-((i:J)+1).toNat<X b-(i:J).toNat;lia);congr 1;refine yF λk m=> ?_;unfold Ya;by_cases e:k=i
   ·rw[iq e,zP,e]
   ·rw[ir e];show ci a k+(if k<i then c*ci b k else 0)=_;by_cases d:k<i
    ·rw[iq d,zP]
    ·rw[ir d,zA]
  ·rw[zA,Y O];simp only[xar,uS];congr 1;refine yF λk m=> ?_;by_cases d:k<i
   ·rw[iq d]
   ·rw[ir d,zU (l:=b) W,xaC]
end
section
variable{p a fu:wr}
theorem gP(hp:2<=p)(h:jK p)(h0:0<a:=by lia)(h1:a<p:=by lia):xdX p a=1:=by
 have⟨g,b⟩:∃g,g=xdX p a:=⟨_,O⟩;have d1:g∣p:=by rw[b];exact Nat.gcd_dvd_left _ _
 have d2:g∣a:=by rw[b];exact Nat.gcd_dvd_right _ _
 have hc:g<=a:=Nat.le_of_dvd h0 d2;have i:0<g:=Nat.pos_of_dvd_of_pos d1 W;rw[<-b];refine xcG (xbs λk=> ?_) i;by_cases c:g*g<=p
 ·exact h g W c<|Nat.mod_eq_zero_of_dvd d1
 ·have⟨d,hd⟩:=d1;have l:d<g:=by
   refine xdk λf=>c ?_;rw[hd];exact xaA _ f
  have j:2<=d:=by
   refine xbs λf=> ?_;have:d=0\/d=1:=W
   obtain e|e:=this
   ·grind
   ·grind
  refine h d j ?_ ?_
  ·rw[hd];exact xan _ W
  ·rw[hd];exact Nat.mul_mod_left _ _
theorem uh{p:J}(hp:wh p=I)(b:400<fu:=by lia):w7 fu p=Z 0:=by grind [w7,Y,WU]
structure IvI(p a:K)(r0 r1:K)(t0 t1:J):Prop where
 lt:r1<r0
 two:2<=r0
 le:r0<=p
 c0:(p:J)∣(r0:J)-t0*a
 c1:(p:J)∣(r1:J)-t1*a
 g:xdX r0 r1=1
 s:∃u0 u1:K,((t0=u0/\t1= -u1)\/(t0= -u0/\t1=u1))/\r0*u1+r1*u0=p
theorem IvI.step{r0 r1:K}{t0 t1:J}(h:IvI p a r0 r1 t0 t1)(k:2<=r1):IvI p a r1 (r0%r1) t1 (t0-((r0/r1:K):J)*t1)/\(((r0/r1:K):J)*t1).natAbs<=p/\(t0-((r0/r1:K):J)*t1).natAbs<=p:=by
 have hd:=xbp r0 r1;have l:=xaM r0 (W:0<r1);have⟨c,b,m,r⟩:=h.s;generalize t:r0/r1=q at*
 generalize n:r0%r1=r2 at*
 have u:=h.le;have hi:=h.lt;have e1:r1*(c+q*b)+r2*b=p:=by grind
 have v:c+q*b<=p:=by
  have d:1*(c+q*b)<=r1*(c+q*b):=xan _ W;lia
 have hc:((q*b:K):J)=(q:J)*(b:J):=iP
 have f:((t1=b/\t0-(q:J)*t1= -((c+q*b:K):J))\/(t1= -b/\t0-(q:J)*t1=((c+q*b:K):J)))/\((q:J)*t1).natAbs<=p:=by
  rcases m with⟨i,j⟩|⟨i,j⟩
  ·grind
  ·rw[i,j,<-hc];exact⟨.inl ⟨O,W⟩,W⟩
 refine⟨⟨l,k,W,h.c1,?_,?_,b,c+q*b,f.1,e1⟩,f.2,by rcases f.1 with⟨_,e⟩|⟨_,e⟩<;>lia⟩
 ·have d:=xdp h.c0<|xbx h.c1<|xcL (q:J) _;have o:(r0:J)-t0*a-(q:J)*((r1:J)-t1*a)=(r2:J)-(t0-(q:J)*t1)*a:=by
   rw[Int.mul_sub,Int.sub_mul,xct];have:(r0:J)=(r1:J)*(q:J)+(r2:J):=by rw[<-hd];simp
   rw[this,xbg (r1:J)];lia
  rw[o]at d;exact d
 ·have d:=h.g;rw[<-n,xee,<-Nat.gcd_rec,xee];exact d
def zgz(hp:p<=65521)(j:70000<fu){t:J}:∀{r0 r1:K}{t0 t1:J},IvI p a r0 r1 t0 t1->∀n,r1<n->∃x:J,zg (nA fu) n ((r0:J),(r1:J),t0,t1)=Z (.inl x)/\(p:J)∣1-x*a/\x.natAbs<=p:=by
 intro r0 r1
 induction r1 using xdc generalizing r0 with
 |_ r1 c=>
  intro t0 t1 h n hn;obtain⟨n,rfl⟩:∃k,n=k+1:=⟨n-1,W⟩;rw[wA];unfold nA;simp only;have l:=h.lt;have m:=h.two;have hc:=h.le;by_cases h0:r1=0
  ·have:=h.g;simp_all
  ·rw[zA];by_cases h1:r1=1
   ·rw[zP];refine⟨t1,O,?_,?_⟩
    ·have:=h.c1;rw[h1]at this;exact this
    ·have⟨o,b,d,q⟩:=h.s;have r:1*b<=r0*b:=xan _ W;rcases d with⟨_,e⟩|⟨_,e⟩<;>lia
   ·have⟨f,u,v⟩:=h.step W;have e1:xcw (r0:J) (r1:J)=((r0/r1:K):J):=O;have hd:=xbp r0 r1;have i:((r0/r1:K):J)*(r1:J)=((r1*(r0/r1):K):J):=by rw[xbg];simp
    have w:((r0/r1:K):J)<=(r0:J):=Int.ofNat_le.2<|xcE _ _;have hi:(0:J)<=((r0/r1:K):J):=xdg _;rw[zA,yL,e1,zb,i,zb,(W:(r0:J)-((r1*(r0/r1):K):J)=((r0%r1:K):J)),zb,zb,zb];exact c (r0%r1) (xaM _ W) f n (by have:=xaM r0 (W:0<r1);lia)
def Kq{p a:J}(hp:wh p=I)(h0:0<a)(h1:a<p)(f:3000000<=fu):∃x,Vr fu a p=Z (x,0)/\0<=x/\x<p/\(x*a)%p=1:=by
 have⟨g,i⟩:=zo hp;have c:jK p.toNat:=by
  refine xai λh=> ?_;rw[Fi<|λe=>h e.2.2]at hp;simp_all
 obtain⟨P,rfl⟩:=xaz (W:0<=p);obtain⟨A,rfl⟩:=xaz (W:0<=a);have d:IvI P A P A 0 1:=⟨W,W,IR _,by rw[xaP,xcB];exact xet _,by rw[xcv,xdP];exact xdy _,gP W c,0,1,.inr ⟨O,O⟩,W⟩;have⟨x,k1,k2,j⟩:=zgz (fu:=fu) (t:=0) (W:P<=65521) W d fu W;have b:=yn (a:=x) (p:=(P:J));refine⟨x%P,?_,b.1,b.2,?_⟩
 ·unfold Vr;rw[Y<|uh hp,iq O,Y<|YT W W ⟨W,W⟩,xaD (a:=(A:J)) W W,Y k1];simp only;rw[Y<|YT W W ⟨W,W⟩]
 ·rw[xbc,xaE,<-xbc];have:=xaI.2<|xav k2;rw[<-this];exact xaD iI W
end
section
variable{p x:wl}{fu i qn:wr}{a b:xS wl}{R Q:Pz}
def yr{α β:Type}{f:(β->V α)->β->V α}(j:β->Prop)(m:β->K)(Q:α->Prop)
 (step:∀s L,j s->(∀c,j c->m c<m s->∃r,L c=Z r/\Q r)->∃r,f L s=Z r/\Q r):∀(n:K) (s:β),j s->m s<n->∃r,zg f n s=Z r/\Q r
 |0,s,_,h=>wS h<|xbC _
 |n+1,s,d,h=>step s _ d λc e g=>yr j m Q step n c e W
theorem wM{f:K->J}{i:K}(h:∀k,k≠i->f k=0):∀n,yp n f=if i<n then f i else 0
 |0=>by skip;rfl
 |n+1=>by
  show yp n f+f n=_;rw[wM h n];by_cases h1:i<n
  ·grind
  ·grind
theorem qI(i:K)(c:J)(g:Pz)(k:K):((mono i c:Pz)*g) k=c*sh g i k:=by
 rw[vK,wM λj d=>by show mono i c j*_=0;unfold mono;rw[ir d,xaP]];unfold sh;by_cases h:i<=k
 ·rw[zP];unfold mono;simp_all
 ·grind
theorem wX(x:J):ci [x]=pc x:=by
 funext k
 cases k with
 |zero=>rfl
 |succ k=>exact zU iP
def uB(h0:0<x:=by lia)(h1:x<p:=by lia):Fp p [x]:=⟨λk=>by rw[wX];unfold pc;split<;>lia,λk=>by rw[wX];unfold pc;split<;>lia,.inr (by show x≠0;lia)⟩
def Ud(h:0<p:=by lia):Fp p []:=⟨λk=>by rw[zU<|xac _];lia,λk=>by skip;exact h,.inl O⟩
def zcx{c:J}(h:0<=x)(d:(x*c)%p=1):0<x:=by
 obtain h|h:=Int.lt_or_eq_of_le h
 ·exact h
 ·rw[<-h,xaP]at d;cases d
def KU{c:J}(hp:wh p=I)(h:Fp p a)(h0:0<c)(h1:c<p)(l:X a<=90000)(d:3000000<=fu):∃x,0<x/\x<p/\(x*c)%p=1/\Vr fu c p=Z (x,0)/\qK fu a c p=Z (yH p a [x]):=by
 have⟨m,j⟩:=zo hp;have⟨x,e1,k,e,f⟩:=Kq hp h0 h1 d;have g:=zcx k f;refine⟨x,g,e,f,e1,?_⟩;unfold qK;rw[Y e1];simp only;rw[Y<|vk W j h (uB g e) W iP d]
def nh(R g:Pz)(p c:J)(i j:K):Pz:=λk=>if i<=k/\k<i+j then(R k+(p-c)*g (k-i))%p else R k
theorem zej(R g:Pz)(p c:J)(i j k:K):Ya (nh R g p c i j) (i+j) ((R (i+j)+(p-c)*g j)%p) k=nh R g p c i (j+1) k:=by grind [nh,Ya]
theorem zdz{g:Pz}{c:J}{n:K}(d:∀k,R k%p=R k)(e:∀k,n<=k->g k=0)(k:K):nh R g p c i n k%p=(R k-c*sh g i k)%p:=by
 unfold nh sh;by_cases h:i<=k/\k<i+n
 ·rw[iq h,iq h.1,xaE,Int.sub_mul];refine xaI.2<|xav ⟨g<|k-i,?_⟩;lia
 ·grind
def zel{n:K}{c:J}(h1:1<=p)(q:p<=65521)(d:Fp p b)(h:∀k,0<=R k/\R k<p)(hc:0<=c)(r:c<p)(hd:i+X b<=n)(hn:n<=100000)(t:3000000<=fu):
 zg (XY fu b (i:J) c) fu (b,p,x,0,zl n R,zl qn Q)=Z (b,p,x,zl n<|nh R (ci b) p c i (X b),zl qn Q):=by
 refine zw (λs:N J×J×J×J×N J×N J=>∃j:K,j<=X b/\s=(b,p,x,(j:J),zl n<|nh R (ci b) p c i j,zl qn Q)) (λs=>X b-s.2.2.2.1.toNat) _ ?_ _ _ ⟨0,xac _,by rw[yF (f:=R) (g:=nh R (ci b) p c i 0) λk _=>by unfold nh;rw[zA]];rfl⟩ (by show X b-0<fu;lia);rintro s L ⟨j,u,rfl⟩ l;unfold XY;simp only;by_cases m:j<X b
 ·rw[zP,Y O];simp only[uP];have e:(i:J)+(j:J)=((i+j:K):J):=W
  have o:nh R (ci b) p c i j (i+j)=R (i+j):=by unfold nh;rw[zA]
  have⟨r1,r2⟩:=h<|i+j;have v:0<=(p-c)*ci b j:=xcz W<|d.nn j;have w:(p-c)*ci b j<=65521*ci b j:=xbn W<|d.nn j;have y:=d.lt j;rw[zp m,ze,e,zb,zb,zp (by rw[zD];lia),ze,qS,ZZ,o,zb,zb,zb,yL,ze,jQ,zp (by rw[zD];lia),ze,uC,zb];exact l _ ⟨j+1,W,by rw[yF λk _=>zej R (ci b) p c i j k];rfl⟩ (by show X b-((j:J)+1).toNat<X b-(j:J).toNat;lia)
 ·rw[zA,Y O];simp only[xar,uS];obtain rfl:j=X b:=W
  rfl
structure FdI(p:J)(a b:N J)(qn i:K)(R Q:Pz):Prop where
 hi:i<=qn
 rr:∀k,0<=R k/\R k<p
 qr:∀k,0<=Q k/\Q k<p
 rz:∀k,i+(b.length-1)<=k->R k=0
 ql:∀k,k<i->Q k=0
 qz:∀k,qn<=k->Q k=0
 cg:Cg p (ci a) (Q*ci b+R)
def FdI.step(h1:1<=p)(h:FdI p a b qn (i+1) R Q)(s:0<X b)(j:(x*ci b (X b-1))%p=1):
 FdI p a b qn i (nh R (ci b) p (R (i+(X b-1))*x%p) i (X b)) (Ya Q i<|R (i+(X b-1))*x%p):=by
 have⟨c,hc⟩:∃c,c=R (i+(X b-1))*x%p:=⟨_,O⟩;have hi:=h.hi;have e:=yn (a:=R (i+(X b-1))*x) (p:=p);rw[<-hc]at e⊢;have m:∀k,R k%p=R k:=λk=>xaD (h.rr k).1 (h.rr k).2;have f:=zdz (g:=ci b) (c:=c) (i:=i) (n:=X b) m<|λk d=>zU d;have hd:∀k,0<=nh R (ci b) p c i (X b) k/\nh R (ci b) p c i (X b) k<p:=λk=>by
  unfold nh;split
  ·exact yn
  ·exact h.rr k
 have o:∀k,Ya Q i c k=(Q+(mono i c:Pz)) k:=λk=>by
  rw[zI];unfold Ya mono;by_cases d:k=i
  ·rw[iq d,iq d,h.ql k W,xco]
  ·lia
 refine⟨W,hd,λk=> ?_,λk d=> ?_,λk d=> ?_,λk d=> ?_,?_⟩
 ·unfold Ya;split
  ·exact e
  ·exact h.qr k
 ·have q:=xaD (hd k).1 (hd k).2;rw[<-q,f];by_cases r:k=i+(X b-1)
  ·unfold sh;rw[zP,(W:k-i=X b-1),hc,r,xfA,xbc,xaE,<-xbc,xct,xbc _<|x*_,j,xck,xaE,<-xfA,xdP,xah]
  ·unfold sh;rw[h.rz k W,zP,zU (l:=b) W,xaC,xcB,xah]
 ·unfold Ya;rw[zA];exact h.ql k W
 ·unfold Ya;rw[zA];exact h.qz k d
 ·refine h.cg.trans λk=> ?_;rw[show Ya Q i c=Q+(mono i c:Pz)from qR o,ym,zI,zI,zI,qI,xdx<|_+_,f,<-xdx];congr 1;lia
def xA(hp:wh p=I)(g:Fp p a)(c:Fp p b)(m:0<X b)(B:X a<=90000)(C:X b<=90000)(d:3000000<=fu):
 ∃q r,xF fu a b p=Z (q,r)/\Fp p q/\Fp p r/\Cg p (ci a) (ci q*ci b+ci r)/\X r<X b/\X q<=X a:=by
 have⟨D,e⟩:=zo hp;unfold xF;rw[xr (by simp;lia),ze,xbH,zb];by_cases hl:X a<X b
 ·rw[zP];refine⟨[],a,O,Ud,g,Cg.of ?_,hl,xac _⟩;funext k;rw[zI,show ci []=pc 0 from qR λj=>by rw[zU<|xac _,zH],zQ,zH,xco]
 ·have⟨qn,E⟩:∃qn,qn=X a-X b+1:=⟨_,O⟩;have F:ci b (X b-1)≠0:=by
   obtain h|h:=c.nl
   ·lia
   ·exact h
  have t1:=c.nn<|X b-1;have t2:=c.lt<|X b-1;have⟨x,e1,o,t,u⟩:=Kq (fu:=fu) hp (W:0<ci b (X b-1)) t2 d;have c1:(X b:J)-1=((X b-1:K):J):=W
  have c2:(X a:J)-(X b:J)+1=(qn:J):=W
  rw[zA,c1,zb,yj,ze,ZZ,Y e1];simp only;rw[zb,c2,yJ,yL,ze]
  have hc:=yr (f:=XE fu b p x) (λs:J×N J×N J=>∃(i:K) (R Q:Pz),s=((i:J)-1,zl (X a) R,zl qn Q)/\FdI p a b qn i R Q) (λs=>(s.1+1).toNat)
   (λr=>∃R Q:Pz,r=(zl (X a) R,zl qn Q)/\FdI p a b qn 0 R Q) (by
    rintro s L ⟨i,R,Q,rfl,h⟩ v;unfold XE;simp only
    cases i with
    |zero=>
     rw[zA];exact⟨_,O,R,Q,O,h⟩
    |succ i=>
     have hi:=h.hi;have⟨r1,r2⟩:=h.rr<|i+(X b-1);have⟨w,G⟩:=Zi e r1 r2 o t;have hd:=yn (a:=R (i+(X b-1))*x) (p:=p);rw[(W:((i+1:K):J)-1=(i:J)),zP,zb,(W:(i:J)+(X b:J)-1=((i+(X b-1):K):J)),zb,zp (by rw[zD];lia),ze,qS,zb,yL,ze,jQ w,zp (by rw[zD];lia),ze,uC,Y<|zel W e c h.rr hd.1 hd.2 W W d];simp only;rw[zb];exact v _ ⟨i,_,_,O,h.step W m u⟩ (by show((i:J)-1+1).toNat<(((i+1:K):J)-1+1).toNat;lia))
   fu ((X a:J)-(X b:J),a,Nm qn 0) ⟨qn,ci a,λ_=>0,by rw[RE,Uo,(W:(X a:J)-(X b:J)=(qn:J)-1)],IR _,λk=>⟨g.nn k,g.lt k⟩,λk=>⟨xft _,W⟩,λk y=>zU W,λk _=>O,λk _=>O,Cg.of (by
    funext k;rw[zI,show((λ_=>0:Pz))=pc 0 from qR λj=>(zH j).symm,zQ,zH,xco])⟩ (by show((X a:J)-(X b:J)+1).toNat<fu;lia)
  obtain⟨_,z,R,Q,rfl,h⟩:=hc;rw[Y z];simp only;have A:Rl (zl (X a) R):=λk=>by
   rw[v8 λj l=>h.rz j W];have:=h.rr k;exact⟨W,W⟩
  have hn:Rl (zl qn Q):=λk=>by
   rw[v8 h.qz];have:=h.qr k;exact⟨W,W⟩
  rw[Y<|zO W e hn (by rw[zD];lia) d,Y<|zO W e A (by rw[zD];lia) d];refine⟨_,_,O,cz W _,cz W _,?_,?_,?_⟩
  ·refine h.cg.trans<|Cg.add (Cg.mul (Cg.symm<|(IC p _).trans<|Cg.of<|funext (v8 h.qz)) Cg.rfl)<|Cg.symm<|(IC p _).trans<|Cg.of<|funext (v8 λj l=>h.rz j W)
  ·have:=(cz (p:=p) W<|zl (X a) R).nl.le (n:=X b-1) λk y=>by rw[si,v8 (λj l=>h.rz j W),h.rz k W,xah]
   lia
  ·have:=Hz p<|zl qn Q;rw[zD]at this;lia
end
section
variable{p:wl}{fu N:wr}{r0 s0 t0 r1 s1 t1 g h:xS wl}{f:Pz}
def zmd(f:Pz):Cg p (pc (p-1)*f) (-f):=λk=>by
 rw[zS,zbX,Int.sub_mul];simp_all
def Zz(a b:xS J):Cg p (ci<|vy p a b<|p-1) (ci a-ci b):=by
 refine(Np p a b<|p-1).trans ?_;exact Cg.rfl.add<|zmd _
def AW{S:K}(hp:wh p=I)(b:Fp p r0)(l:Fp p s0)(m:Fp p t0)(c:Fp p r1)(o:Fp p s1)(hl:Fp p t1)(h0:0<X r1)(l1:X r0<=N)(D:X r1<=N)(E:X s0<=S)(F:X t0<=S)(H:X s1<=S)(M:X t1<=S)(P:N<=9000)(R:S<=90000)(a:3000000<=fu):
 ∃q,Fp p q/\X q<=N/\Cg p (ci r0) (ci q*ci r1+ci (vy p r0 (yH p q r1)<|p-1))/\X (vy p r0 (yH p q r1)<|p-1)<X r1/\
  Xx fu [r0,s0,t0] [r1,s1,t1] p=Z [vy p r0 (yH p q r1)<|p-1,vy p s0 (yH p q s1)<|p-1,vy p t0 (yH p q t1)<|p-1]:=by
 have⟨T,d⟩:=zo hp;have⟨q,r,e1,e,s,hc,t,U⟩:=xA (fu:=fu) hp b c h0 W W a;have hd:vy p r0 (yH p q r1) (p-1)=r:=by
  refine Fp.ext (ZD W _ _ _) s<|(Zz r0<|yH p q r1).trans ?_;refine(hc.sub<|qT p q r1).trans<|Cg.of ?_;funext k;simp only[zI,yY];lia
 refine⟨q,e,W,by rw[hd];exact hc,by rw[hd];exact t,?_⟩;unfold Xx;have f1:=wZ p q r1;have f2:=wZ p q s1;have f3:=wZ p q t1;rw[show(0:J)=((0:K):J)from O,zp iI,zp iI,Q];show G (xF fu r0 r1 p) _=_;rw[Y e1];simp only;rw[Y (v:=([vy p r0 (yH p q r1)<|p-1,vy p s0 (yH p q s1)<|p-1,vy p t0 (yH p q t1)<|p-1],Nm 3 []))];have⟨n,hn⟩:∃n,fu=n+4:=⟨fu-4,W⟩
 have step:∀(L:xS J×J×xS (xS J)×xS (xS J)->V (xS (xS J)×xS (xS J))) (i:K) (x y z u:xS J) (ts:xS (xS J)),i<3->X ts=3->ts.getD i []=x->[r1,s1,t1].getD i []=y->Fp p x->Fp p y->X x<=90000->X y<=90000->
  Zq fu [r1,s1,t1] p L (q,(i:J),ts,Nm 3 [])=L (q,((i+1:K):J),ts.set i<|vy p x (yH p q y)<|p-1,Nm 3 []):=λL i x y z u ts hi hu w A B C hv hw=>by
  unfold Zq;simp only;have f4:=wZ p q y;rw[zP,Y O];simp only[uP];rw[zp hi,zp hi,Q,w,A,Y<|vk W d e C W W a,zb,Y<|JY W d B (w5 W _ _) W W W W a,zp hi,Q,zb];rfl
 have j:zg (Zq fu [r1,s1,t1] p) (n+4) (q,((0:K):J),[r0,s0,t0],Nm 3 [])=Z ([vy p r0 (yH p q r1)<|p-1,vy p s0 (yH p q s1)<|p-1,vy p t0 (yH p q t1)<|p-1],Nm 3 []):=by
  rw[wA,step _ 0 r0 r1 [] [] _ iI O O O b c W W,wA,step _ 1 s0 s1 [] [] _ iI O O O l o W W,wA,step _ 2 t0 t1 [] [] _ iI O O O m hl W W,wA];unfold Zq;simp only;rw[ir iI,Y O];rfl
 rw[<-hn]at j;exact j
def Fs(f:Pz):Prop:=∃n,∀k,n<=k->f k=0
def Fs.add{g:Pz}(a:Fs f)(b:Fs g):Fs (f+g):=by
 have⟨n,hn⟩:=a;have⟨m,c⟩:=b;exact⟨n+m,λk d=>by rw[zI,hn k W,c k W];rfl⟩
def Fs.mul{g:Pz}(a:Fs f)(b:Fs g):Fs (f*g):=by
 have⟨n,hn⟩:=a;have⟨m,c⟩:=b;exact⟨n+m,λk d=>kf hn c⟩
def Fs.pc(c:J):Fs (pc c):=⟨1,λk a=>by unfold Go.Proofs.YtmggkmchbdanfaaGreat.pc;rw[zA]⟩
theorem Fs.ci(l:xS J):Fs (ci l):=⟨X l,λk a=>zU a⟩
def Fs.cf(l:xS M):Fs (cf l):=⟨X l,λk a=>zX a⟩
structure BzR(p:J)(g h d s t:xS J)(S:K):Prop where
 df:Fp p d
 sf:Fp p s
 tf:Fp p t
 cg:Cg p (ci d) (ci s*ci g+ci t*ci h)
 dv:∃A C:Pz,Fs A/\Fs C/\Cg p (ci g) (A*ci d)/\Cg p (ci h) (C*ci d)
 dl:d.length<=S
 sl:s.length<=S
 tl:t.length<=S
structure S5(p:J)(g h r0 s0 t0 r1 s1 t1:xS J)(N:K):Prop where
 f0:Fp p r0
 g0:Fp p s0
 h0:Fp p t0
 f1:Fp p r1
 g1:Fp p s1
 h1:Fp p t1
 c0:Cg p (ci r0) (ci s0*ci g+ci t0*ci h)
 c1:Cg p (ci r1) (ci s1*ci g+ci t1*ci h)
 dv:∃A B C D:Pz,Fs A/\Fs B/\Fs C/\Fs D/\Cg p (ci g) (A*ci r0+B*ci r1)/\Cg p (ci h) (C*ci r0+D*ci r1)
 l0:r0.length<=N
 l1:r1.length<=N
 b0:s0.length<=1+N*(N+1-r1.length)
 b1:t0.length<=1+N*(N+1-r1.length)
 b2:s1.length<=1+N*(N+1-r1.length)
 b3:t1.length<=1+N*(N+1-r1.length)
def S5.step(a:S5 p g h r0 s0 t0 r1 s1 t1 N)(hp:wh p=I)(i:N<=290)(j:0<X r1)(l:3000000<=fu):
 ∃r2 c t2,Xx fu [r0,s0,t0] [r1,s1,t1] p=Z [r2,c,t2]/\X r2<X r1/\S5 p g h r1 s1 t1 r2 c t2 N:=by
 have⟨u,v⟩:=zo hp;have m:1+N*(N+1-X r1)<=90000:=by
  have:N*(N+1-X r1)<=290*290:=xbM i W;lia
 have hd:=a.l0;have d:=a.l1;have n:=a.b0;have hi:=a.b1;have o:=a.b2;have r:=a.b3;have⟨q,w,x,hc,hl,s⟩:=AW (fu:=fu) (S:=1+N*(N+1-X r1)) hp a.f0 a.g0 a.h0 a.f1 a.g1 a.h1 j hd d n hi o r W m l;refine⟨_,_,_,s,hl,a.f1,a.g1,a.h1,ZD W _ _ _,ZD W _ _ _,ZD W _ _ _,a.c1,?_,?_,d,W,?_,?_,?_,?_⟩
 ·refine(Zz _ _).trans<|(a.c0.sub<|(qT p q r1).trans<|Cg.rfl.mul a.c1).trans ?_;refine Cg.trans (Cg.of ?_)<|Cg.symm (((Zz s0<|yH p q s1).trans<|Cg.rfl.sub<|qT p q s1).mul (Cg.rfl (f:=ci g))|>.add (((Zz t0<|yH p q t1).trans<|Cg.rfl.sub<|qT p q t1).mul<|Cg.rfl (f:=ci h)));simp only[xg,ym,vL,qw,zd];funext k;simp only[zI,yY];lia
 ·have⟨A,B,C,D,e,z2,z3,z4,d1,d2⟩:=a.dv;refine⟨A*ci q+B,A,C*ci q+D,C,(e.mul<|Fs.ci q).add z2,e,(z3.mul<|Fs.ci q).add z4,z3,?_,?_⟩
  ·refine d1.trans<|((Cg.rfl (f:=A)).mul hc|>.add Cg.rfl).trans<|Cg.of ?_;simp only[xg,ym,zd];funext k;simp only[zI];lia
  ·refine d2.trans<|((Cg.rfl (f:=C)).mul hc|>.add Cg.rfl).trans<|Cg.of ?_;simp only[xg,ym,zd];funext k;simp only[zI];lia
 ·have:N*(N+1-X r1)<=N*(N+1-X (vy p r0 (yH p q r1)<|p-1)):=xaA _ W;lia
 ·have:N*(N+1-X r1)<=N*(N+1-X (vy p r0 (yH p q r1)<|p-1)):=xaA _ W;lia
 ·have h1:=gX p s0 (yH p q s1)<|p-1;have t:=wZ p q s1;have b:N*(N+1-X r1+1)<=N*(N+1-X (vy p r0 (yH p q r1)<|p-1)):=xaA _ W;rw[xcj,xdn]at b;lia
 ·have h1:=gX p t0 (yH p q t1)<|p-1;have t:=wZ p q t1;have b:N*(N+1-X r1+1)<=N*(N+1-X (vy p r0 (yH p q r1)<|p-1)):=xaA _ W;rw[xcj,xdn]at b;lia
def ze7(hp:wh p=I)(e:N<=290)(i:3000000<=fu)(a:S5 p g h r0 s0 t0 r1 s1 t1 N):
 ∃d s t,zg (ZC fu p) fu ([r0,s0,t0],[r1,s1,t1])=Z [d,s,t]/\BzR p g h d s t (1+N*(N+1)):=by
 obtain⟨r,e1,d,s,t,rfl,j⟩:=yr (f:=ZC fu p) (λx:xS (xS J)×xS (xS J)=>∃r0 s0 t0 r1 s1 t1,x=([r0,s0,t0],[r1,s1,t1])/\S5 p g h r0 s0 t0 r1 s1 t1 N) (λx=>X (x.2.getD 0 [])) (λr=>∃d s t,r=[d,s,t]/\BzR p g h d s t (1+N*(N+1))) (by
  rintro x L ⟨r0,s0,t0,r1,s1,t1,rfl,a⟩ n;unfold ZC;simp only;rw[show(0:J)=((0:K):J)from O,zp iI];show∃r,(if((0:K):J)<(X r1:J)then _ else _)=Z r/\_;by_cases h0:0<X r1
  ·have⟨r2,o,t2,l,q,hc⟩:=a.step (fu:=fu) hp e h0 i;rw[zP,Y l];simp_all
  ·rw[zA];have b:ci r1=pc 0:=qR λk=>by rw[zU W,zH]
   have c:1+N*(N+1-X r1)<=1+N*(N+1):=by
    have:N*(N+1-X r1)<=N*(N+1):=xaA _ W;lia
   have hd:=a.l0;have u:N*1<=N*(N+1):=xaA _ W;refine⟨_,O,r0,s0,t0,O,a.f0,a.g0,a.h0,a.c0,?_,W,xae a.b0 c,xae a.b1 c⟩;have⟨A,B,C,D,m,z2,z3,z4,d1,d2⟩:=a.dv;rw[b,zk B,zQ]at d1;rw[b,zk D,zQ]at d2;refine⟨A,C,m,z3,d1.trans<|Cg.of ?_,d2.trans<|Cg.of ?_⟩<;>funext k<;>rw[zI,zH,xbF]) fu ([r0,s0,t0],[r1,s1,t1]) ⟨_,_,_,_,_,_,O,a⟩ (by have:=a.l1;show X r1<fu;lia)
 exact⟨d,s,t,e1,j⟩
theorem uI(hp:wh p=I)(q:Fp p g)(r:Fp p h)(hs:X g<=290)(ht:X h<=290)(j:3000000<=fu):
 ∃d s t,u7 fu g h p=Z (d,s,t,0)/\BzR p g h d s t (2+max (X g) (X h)*(max (X g) (X h)+1))/\(X d=0\/ci d (X d-1)=1):=by
 have⟨p1,l⟩:=zo hp;unfold u7;rw[Y<|uh hp,iq O,Y<|zO W l (q.rl l) W j,Y<|zO W l (r.rl l) W j,q.pm,r.pm];have z0:ci ([]:xS J)=pc 0:=qR λk=>by rw[zU<|xac _,zH]
 have c:∀f:Pz,f+pc 0=f:=λf=>qR λk=>by rw[zI,zH,xbF]
 have e:∀f:Pz,pc 0+f=f:=λf=>qR λk=>by rw[zI,zH,xco]
 have H:S5 p g h g [1] [] h [] [1] (max (X g) (X h)):=by
  refine⟨q,uB,Ud,r,Ud,uB,Cg.of ?_,Cg.of ?_,⟨pc 1,pc 0,pc 0,pc 1,Fs.pc 1,Fs.pc 0,Fs.pc 0,Fs.pc 1,Cg.of ?_,Cg.of ?_⟩,xdV _ _,xdG _ _,xbw _ _,xac _,xac _,xbw _ _⟩
  ·rw[wX,z0,zC,zQ,c]
  ·rw[wX,z0,zC,zQ,e]
  ·rw[zC,zQ,c]
  ·rw[zC,zQ,e]
 have⟨d,s,t,e1,b⟩:=ze7 (fu:=fu) hp W j H;have hS:max (X g) (X h)*(max (X g) (X h)+1)<=290*291:=xbM W W;generalize max (X g) (X h)*(max (X g) (X h)+1)=S at*
 rw[Y e1,show(0:J)=((0:K):J)from O,zp iI];show∃u v w,G (if((0:K):J)<(X d:J)then Z I else Z wL) _=_/\_;by_cases h0:0<X d
 ·have hu:=b.dl;have hr:ci d (X d-1)≠0:=by
   obtain h|h:=b.df.nl
   ·lia
   ·exact h
  have t1:=b.df.nn<|X d-1;have t2:=b.df.lt<|X d-1;have⟨x,M,P,z,R,x5⟩:=KU (fu:=fu) hp b.df (W:0<ci d (X d-1)) t2 W j;have sc:∀{a:xS J},Fp p a->X a<=90000->qK fu a (ci d<|X d-1) p=Z (yH p a [x]):=λ{a} T hl=>by
   unfold qK;rw[Y R];simp only;rw[Y<|vk W l T (uB M P) W iP j]
  rw[zP,Y O,iq O,zp iI];show∃u v w,E ((X d:J)-1) _=_/\_;rw[(W:(X d:J)-1=((X d-1:K):J)),zb];show∃u v w,zG ((X d-1:K):J) (X d) _=_/\_;rw[yj,Q];show∃u v w,G (zg (vb fu p<|ci d<|X d-1) fu (((0:K):J),[d,s,t])) _=_/\_;have hd:zg (vb fu p<|ci d<|X d-1) fu (((0:K):J),[d,s,t])=Z [yH p d [x],yH p s [x],yH p t [x]]:=by
   have⟨n,hn⟩:∃n,fu=n+4:=⟨fu-4,W⟩
   have step:∀(L:J×xS (xS J)->V (xS<|xS J)) (i:K) (y:xS J) (ts:xS (xS J)),i<3->ts.getD i []=y->Fp p y->X y<=90000->
    vb fu p (ci d<|X d-1) L ((i:J),ts)=L (((i+1:K):J),ts.set i<|yH p y [x]):=λL i y ts hi U ho hq=>by
    unfold vb;simp only;rw[zP,zp hi,U,Y<|sc ho hq,zp hi,Q,zb];rfl
   have B:zg (vb fu p<|ci d<|X d-1) (n+4) (((0:K):J),[d,s,t])=Z [yH p d [x],yH p s [x],yH p t [x]]:=by
    rw[wA,step _ 0 d _ iI O b.df (xae b.dl W),wA,step _ 1 s _ iI O b.sf (xae b.sl W),wA,step _ 2 t _ iI O b.tf (xae b.tl W),wA];unfold vb;simp only;rw[ir iI];rfl
   rw[<-hn]at B;exact B
  rw[Y hd];have o:∀a:xS J,Cg p (ci<|yH p a [x]) (ci a*pc x):=λa=>by
   have:=qT p a [x];rw[wX]at this;exact this
  have he:Cg p (pc x*pc (ci d<|X d-1)) (pc 1):=λk=>by
   rw[kH];unfold pc;split
   ·rw[z];exact(xaD iI W).symm
   ·rfl
  have f1:=wZ p d [x];have f2:=wZ p s [x];have f3:=wZ p t [x];have hv:=b.sl;have hw:=b.tl;simp only[xaw,xbR]at f1 f2 f3;have hc:∀k,ci (yH p d [x]) k=(x*ci d k)%p:=λk=>by rw[aB,wX,zk,zS]
  have hj:X (yH p d [x])=X d:=by
   refine xcG ((w5 W _ _).nl.le λk hk=> ?_)<|xbs λhx=> ?_
   ·rw[hc,zU hk,xaC,xah]
   ·have D:=hc<|X d-1;rw[z,zU W]at D;cases D
  refine⟨yH p d [x],yH p s [x],yH p t [x],O,⟨w5 W _ _,w5 W _ _,w5 W _ _,?_,?_,W,W,W⟩,.inr ?_⟩
  ·refine(o d).trans<|(b.cg.mul Cg.rfl).trans<|Cg.trans (Cg.of ?_)<|Cg.symm<|((o s).mul Cg.rfl).add<|(o t).mul Cg.rfl;simp only[xg,ym,zd,zk,zB]
  ·have⟨A,C,z1,z3,d1,d2⟩:=b.dv;have m:∀F:Pz,Cg p (F*ci d) (F*pc (ci d<|X d-1)*ci (yH p d [x])):=λF=>by
    refine Cg.symm<|(Cg.rfl.mul<|o d).trans<|Cg.trans (Cg.of ?_)<|((Cg.rfl (f:=F*ci d)).mul he).trans<|Cg.of<|yf _;simp only[zd,zk,zB]
   exact⟨_,_,z1.mul<|Fs.pc _,z3.mul<|Fs.pc _,d1.trans<|m A,d2.trans<|m C⟩
  ·rw[hj,hc,z]
 ·rw[zA,Y O,ir iI];exact⟨d,s,t,O,⟨b.df,b.sf,b.tf,b.cg,b.dv,xae b.dl W,xae b.sl W,xae b.tl W⟩,.inl W⟩
end
section
variable{fu:wr}{a l b:xS wl}{p:wl}
def Ik{n:K}(h:n<9223372036854775808:=by lia):SZ n=(n:J):=by
 unfold SZ;lia
def BE{x:J}(h0:0<=x)(h:x<9223372036854775808)(f:3000000<=fu):QK fu (ya x)=Z (x,I):=by
 have c:Bz 1 x:=by unfold Bz;lia
 unfold QK;rw[Y<|Yu (c.ok iI) f,zn];have g:(ya x).1=wL:=by unfold ya;simp;lia
 by_cases d:x=0
 ·subst d;rfl
 ·have i:=oT.2 d;have hc:=c.len;obtain⟨n,rfl⟩:=xaz h0;have e:(ya (n:J)).2.getD 0 0=n:=by
   show(yD<|(n:J).natAbs).getD 0 0=n;rw[xbb,Xh,xeJ,xdU,xam W]
  rw[zA,Y O,ir iI,zA,Y O,ir iI,g,ir iI,Y O,ir iI,ir iI,show(0:J)=((0:K):J)from O,yj,Q,e,zA,yj,Q,e,Q,Ik]
def E5{a:M}(d:b7 a)(h1:1<=p)(g:p<=65521)(c:3000000<=fu):KF fu a p=Z (zv a%p,0):=by
 unfold KF;have e:Bz 1 p:=by unfold Bz;lia
 have f:=yn (a:=zv a) (p:=p);rw[Y<|yq ⟨W,W⟩,Y<|Yv d (e.okS iI) c,zn];unfold ri;rw[zA];simp only[uP];rw[Y<|BE f.1 W c]
def qU(p:J)(a:N M):N J:=nl (X a)<|λk=>cf a k%p
def KQ(p:J)(a:N M)(k:K):ci (qU p a) k=cf a k%p:=Eo (λk c=>by rw[zX c,xah]) k
def gU(p:J)(a:N M):Cg p (ci<|qU p a) (cf a):=λk=>by rw[KQ,xaE]
def WY(hp:0<p)(a:N M):Fp p (qU p a):=⟨λk=>by rw[KQ];exact(yn hp).1,λk=>by rw[KQ];exact(yn hp).2,Ak _ _⟩
def zjC(p:J)(a:N M):X (qU p a)<=X a:=HY _ _
def uW{k:K}{a:N M}(o:yI k a)(c:k<=40000)(h1:1<=p)(q:p<=65521)(hl:X a<=1000000:=by lia)(r:3000000<=fu:=by lia):Zt fu a p=Z (qU p a,0):=by
 unfold Zt;have hd:=vT (λk=>cf a k%p) (X a);rw[zA,Y (v:=zl (X a)<|λk=>cf a k%p)]
 ·rw[Y (v:=qU p a)];refine zw (λt:N J=>∃m,m<=X a/\t=zl m (λk=>cf a k%p)/\dg (λk=>cf a k%p) m=dg (λk=>cf a k%p) (X a)) (λt=>X t) _ ?_ _ _ ⟨X a,IR _,O,O⟩ (by rw[zD];lia);rintro t L ⟨m,u,rfl,d⟩ j;unfold lR;rw[zD]
  cases m with
  |zero=>
   rw[zA];unfold qU nl;rw[<-d];rfl
  |succ m=>
   rw[zP,(W:((m+1:K):J)-1=(m:J)),zb,yj,Q,qS];by_cases h0:cf a m%p=0
   ·rw[iq h0,zb,yJ,yL,Q,Cc];exact j _ ⟨m,W,O,by rw[<-UZ (f:=λk=>cf a k%p) h0,d]⟩<|by rw[zD,zD];lia
   ·rw[ir h0];unfold qU nl;rw[<-d,JW (f:=λk=>cf a k%p) h0]
 ·unfold jJ;rw[yJ,yL,Q,Uo,Y];refine zw (λs:J×N J=>∃i:K,i<=X a/\s=((i:J),zl (X a) (λk=>if k<i then cf a k%p else 0))) (λs=>X a-s.1.toNat) _ ?_ _ _ ⟨0,xac _,by rw[yF (g:=λk=>if k<0 then cf a k%p else 0)<|λk _=>by rw[zA]];rfl⟩ (by show X a-0<fu;lia);rintro s L ⟨i,hi,rfl⟩ j;unfold Zl;simp only;by_cases h:i<X a
  ·rw[zP,Y O];simp only[uP];have e1:WV fu (i:J) (a.getD i (wL,[])) p=Z (cf a i%p):=by
    unfold WV;rw[Y<|E5 (o.okS c i) h1 q r];rfl
   rw[zp h,Q,Y e1,zp (by rw[zD];exact h),Q,uC,zb];refine j _ ⟨i+1,W,?_⟩ (by show X a-((i:J)+1).toNat<X a-(i:J).toNat;lia);congr 1;refine yF λk c=> ?_;unfold Ya;by_cases e:k=i
   ·rw[iq e,zP,e]
   ·rw[ir e];show(if k<i then cf a k%p else 0)=_;by_cases n:k<i
    ·rw[iq n,zP]
    ·rw[ir n,zA]
  ·rw[zA,Y O];simp only[xar,uS];congr 1;exact yF λk c=>by rw[zP]
def uf(l:N J):N M:=xJ (X l)<|ci l
def kn(l:N J):cf (uf l)=ci l:=qR λk=>jz (λk c=>zU c) k
def Oy(l:N J):X (uf l)<=X l:=by unfold uf;rw[xv];exact vT _ _
def Rl.bz(h:Rl l)(k:K):Bz 1 (ci l k):=by
 have⟨h1,c⟩:=h k;unfold Bz;lia
def PO(h:Rl l):yI 1 (uf l):=yE h.bz
theorem ud(h:Rl l)(hl:X l<=1000000)(d:3000000<=fu):ji fu l=Z (uf l):=by
 unfold ji;rw[Y (v:=zi (X l)<|ci l)]
 ·rw[Y<|zM (YM h.bz) iI (by rw[yh];lia) d,yh,sY];rfl
 ·unfold jF;rw[yJ,yL,Q,aR,Y];refine zw (λs:J×N M=>∃i:K,i<=X l/\s=((i:J),zi (X l) (λk=>if k<i then ci l k else 0))) (λs=>X l-s.1.toNat) _ ?_ _ _ ⟨0,xac _,by rw[xd (g:=λk=>if k<0 then ci l k else 0)<|λk _=>by rw[zA]];rfl⟩ (by show X l-0<fu;lia);rintro s L ⟨i,hi,rfl⟩ f;unfold u6;simp only;by_cases h1:i<X l
  ·have e1:XX fu (i:J) (l.getD i 0)=Z (ya<|ci l i):=by
    unfold XX;rw[ZZ,Y<|yq<|h i]
   rw[zP,zp h1,Q,Y e1,zp (by rw[yh];exact h1),Q,bH,zb];refine f _ ⟨i+1,W,?_⟩ (by show X l-((i:J)+1).toNat<X l-(i:J).toNat;lia);congr 1;refine xd λk j=> ?_;unfold Ya;by_cases e:k=i
   ·rw[iq e,zP,e]
   ·rw[ir e];show(if k<i then ci l k else 0)=_;by_cases c:k<i
    ·rw[iq c,zP]
    ·rw[ir c,zA]
  ·rw[zA];congr 1;exact xd λk j=>by rw[zP]
theorem GR(h:Rl l)(hl:X l<=1000000)(c:3000000<=fu):Wo fu l=Z (uf l):=by grind [Wo,Y,ud]
def u4(hp:wh p=I)(d:Fp p a)(e:Fp p b)(hc:X a<=90000:=by lia)(hd:X b<=90000:=by lia)(f:3000000<=fu:=by lia):kE fu a b p=Z (yH p a b,0):=by
 have⟨g,c⟩:=zo hp;unfold kE;rw[Y<|uh hp,iq O,Y<|zO W c (d.rl c) W f,Y<|zO W c (e.rl c) W f,d.pm,e.pm,Y<|vk W c d e W W f]
def gn(hp:wh p=I)(d:Fp p a)(e:Fp p b)(hc:X a<=90000)(hd:X b<=90000)(f:3000000<=fu):VC fu a b p=Z (vy p a b<|p-1,0):=by
 have⟨g,c⟩:=zo hp;unfold VC;rw[Y<|uh hp,iq O,Y<|zO W c (d.rl c) W f,Y<|zO W c (e.rl c) W f,d.pm,e.pm,zb,Y<|JY W c d e W W W W f]
def Ks(hp:wh p=I)(c:Fp p a)(d:Fp p b)(hd:X a<=90000)(f:X b<=90000)(g:3000000<=fu):Xq fu a b p=Z (decide<|a=b):=by
 have⟨i,j⟩:=zo hp;unfold Xq;rw[Y<|gn hp c d hd f g];simp only;have e:=ZD (p:=p) W a b<|p-1;have hc:=Zz (p:=p) a b;by_cases h:a=b
 ·have hl:X (vy p a b<|p-1)<=0:=e.nl.le λk _=>by
   have:=hc k;rw[e.mod,yY]at this;simp_all
  simp_all
 ·rw[uT h,if_neg];intro h0;refine h<|c.ext d<|Cg.iff_sub.2<|hc.symm.trans λk=> ?_;rw[zU W,zH]
end
section
variable{p:wl}{l:xS wl}{fu M i:wr}
def SW(p:J)(l:N J):Prop:=(∀j,j<X l->0<=ci l j/\ci l j<p)/\1<X l/\ci l (X l-1)=1
def SW.fp(hp:0<p)(h:SW p l):Fp p l:=by
 refine⟨λk=> ?_,λk=> ?_,.inr<|by rw[h.2.2];decide⟩
 ·by_cases a:k<X l
  ·exact(h.1 k a).1
  ·rw[zU W];lia
 ·by_cases a:k<X l
  ·exact(h.1 k a).2
  ·rw[zU W];exact hp
theorem Ko(hl:X l<=1000000)(o:3000000<=fu):∃b,XL fu l p=Z b/\(b=I↔SW p l):=by
 unfold XL;have⟨r,e1,g⟩:=yr (f:=Wq fu l p) (λi:J=>∃j:K,i=(j:J)/\j<=X l/\∀t,t<j->0<=ci l t/\ci l t<p) (λi=>X l-i.toNat) (λr=>(r=.inl ()/\∀t,t<X l->0<=ci l t/\ci l t<p)\/(r=.inr ()/\¬∀t,t<X l->0<=ci l t/\ci l t<p)) (by
  rintro i L ⟨j,rfl,q,c⟩ k;unfold Wq;by_cases h1:j<X l
  ·rw[zP,zp h1,Q,ZZ];by_cases a:ci l j<0
   ·grind
   ·rw[ir a];by_cases d:p<=ci l j
    ·rw[iq d];exact⟨_,O,.inr ⟨O,λe=>by have:=(e j h1).2;lia⟩⟩
    ·rw[ir d,zb];refine k _ ⟨j+1,O,W,λt m=> ?_⟩ W;by_cases n:t=j
     ·rw[n];lia
     ·exact c t W
  ·rw[zA];exact⟨_,O,.inl ⟨O,λt m=>c t W⟩⟩) fu 0 ⟨0,O,xac _,λt h=>wS h (xbC _)⟩ (by show X l-0<fu;lia)
 rw[Y e1];rcases g with⟨rfl,h⟩|⟨rfl,h⟩
 ·simp only;by_cases h1:1<X l
  ·rw[zP,(W:(X l:J)-1=((X l-1:K):J)),zb,yj,Q,ZZ];by_cases a:ci l (X l-1)=1
   ·rw[iq a];exact⟨_,O,λ_=>⟨h,h1,a⟩,λ_=>O⟩
   ·rw[ir a];exact⟨_,O,λe=>wS e iI,λe=>wS e.2.2 a⟩
  ·rw[zA];exact⟨_,O,λe=>wS e iI,λe=>wS e.2.1 h1⟩
 ·exact⟨_,O,λe=>wS e iI,λe=>wS e.1 h⟩
def QH(p:J)(fs:N (N J)):N J:=fs.foldl (yH p) [1]
def prZ:N Pz->Pz
 |[]=>pc 1
 |f::r=>f*prZ r
theorem w9:∀(a b:N Pz),prZ (a++b)=prZ a*prZ b
 |[],b=>(zC _).symm
 |f::r,b=>by show f*prZ (r++b)=f*prZ r*prZ b;rw[w9 r b,zd]
def zb6(p:J):∀(fs:N (N J)) (t:N J),Cg p (ci<|fs.foldl (yH p) t) (ci t*prZ (fs.map ci))
 |[],t=>by show Cg p (ci t) (ci t*pc 1);rw[yf];exact Cg.rfl
 |f::r,t=>by refine(zb6 p r<|yH p t f).trans<|((qT p t f).mul Cg.rfl).trans<|Cg.of<|zd _ _ _
def rE(p:J)(fs:N (N J)):Cg p (ci<|QH p fs) (prZ<|fs.map ci):=by
 have:=zb6 p fs [1];rw[wX,zC]at this;exact this
def zbL{p:J}(hp:0<p):∀(fs:N (N J)) {t:N J},Fp p t->Fp p (fs.foldl (yH p) t)
 |[],_,h=>h
 |f::r,t,h=>zbL hp r<|w5 hp t f
def ed(hp:2<=p)(fs:N (N J)):Fp p (QH p fs):=zbL W fs<|uB
theorem zb8{p:J}{M:K}:∀{fs:N (N J)}{t:N J},(∀f∈fs,X f<=M)->X (fs.foldl (yH p) t)<=X t+X fs*M
 |[],_,_=>by simp
 |f::r,t,h=>by
  have h1:=zb8 (p:=p) (t:=yH p t f) λg a=>h g<|UV _ a;have b:=wZ p t f;show(r.foldl (yH p)<|yH p t f).length<=X t+(X r+1)*M;grind
def c9{fs:N (N J)}(h:∀f∈fs,X f<=M):X (QH p fs)<=1+X fs*M:=zb8 h
theorem HG{l:N (N J)}(h:i<X l):l.getD i []∈l:=by grind
theorem zdt{l:N (N J)}(h:i<X l):l.take (i+1)=l.take i++[l.getD i []]:=by grind [xfq]
def jO{fs:N (N J)}(hp:wh p=I)(d:∀f∈fs,Fp p f)(a:∀f∈fs,X f<=M)(g:1+X fs*M<=90000)(h:M<=90000)(hc:X fs<=90000:=by lia)(b:3000000<=fu:=by lia):qu fu fs p=Z (QH p fs):=by
 have⟨j,k⟩:=zo hp;unfold qu;rw[Y (v:=QH p fs)];refine zw (λs:N J×J=>∃i:K,i<=X fs/\s=(QH p<|fs.take i,(i:J))) (λs=>X fs-s.2.toNat) _ ?_ _ _ ⟨0,xac _,O⟩ (by show X fs-0<fu;lia);rintro s L ⟨i,hi,rfl⟩ e;unfold JA;simp only;by_cases h1:i<X fs
 ·have c:=HG h1;have hl:=c9 (p:=p) (fs:=fs.take i) (M:=M) λf b=>a f<|xel b;have hd:X (fs.take i)*M<=X fs*M:=xan _<|List.length_take_le' ..;have m:=a _ c;rw[zP,zp h1,Q,Y<|u4 hp (ed W _)<|d _ c];simp only;rw[zb];refine e _ ⟨i+1,W,?_⟩ (by show X fs-((i:J)+1).toNat<X fs-(i:J).toNat;lia);congr 1;unfold QH;rw[zdt h1,List.foldl_append];rfl
 ·rw[zA,xaW W]
def qB(p:J)(f g:Pz):Prop:=∃s t:Pz,Fs s/\Fs t/\Cg p (s*f+t*g) (pc 1)
theorem qB.symm{f g:Pz}(h:qB p f g):qB p g f:=by
 have⟨s,t,a,z2,h⟩:=h;refine⟨t,s,z2,a,(Cg.of ?_).trans h⟩;funext k;rw[zI,zI,Int.add_comm]
def qB.mul{p:J}{f g h:Pz}(c:Fs g)(d:Fs h)(e:Fs f)(h1:qB p f h)(a:qB p g h):qB p (f*g) h:=by
 have⟨s,t,b,z2,h1⟩:=h1;have⟨u,v,z3,z4,a⟩:=a;refine⟨s*u,s*f*v+t*(u*g+v*h),b.mul z3,((b.mul e).mul z4).add<|z2.mul<|(z3.mul c).add<|z4.mul d,Cg.trans (Cg.of ?_)<|(h1.mul a).trans<|Cg.of<|zC _⟩;simp only[xg,zB,zk];funext k;simp only[zI];lia
def qB.one(p:J)(h:Pz):qB p (pc 1) h:=⟨pc 1,pc 0,Fs.pc 1,Fs.pc 0,Cg.of (by
 rw[zC,zQ];funext k;rw[zI,zH,xbF])⟩
theorem Fs.prZ:∀{fs:N Pz},(∀f∈fs,Fs f)->Fs (prZ fs)
 |[],_=>Fs.pc 1
 |f::r,a=>(a f<|FS).mul<|Fs.prZ λg b=>a g<|UV _ b
theorem qB.prZ{p:J}{h:Pz}(c:Fs h):∀{fs:N Pz},(∀f∈fs,Fs f)->(∀f∈fs,qB p f h)->qB p (prZ fs) h
 |[],_,_=>qB.one p h
 |f::r,b,d=>qB.mul (Fs.prZ λg a=>b g<|UV _ a) c (b f<|FS) (d f<|FS)<|qB.prZ c (λg a=>b g<|UV _ a) λg a=>d g<|UV _ a
def Mq{g h d s t:N J}{S:K}(a:BzR p g h d s t S)(hl:X d=1)(h1:ci d (X d-1)=1):qB p (ci g) (ci h):=by
 have e:ci d=pc 1:=by
  funext k;unfold pc;by_cases b:k=0
  ·simp_all
  ·rw[ir b,zU W]
 have:=a.cg;rw[e]at this;exact⟨ci s,ci t,Fs.ci s,Fs.ci t,this.symm⟩
structure fW(p:J)(a:N Zr)(fs:N (N J)):Prop where
 a0:a.length≠0
 al:(qU p a).length=a.length
 fl:fs.length<=a.length
 pl:∀i,i<fs.length->(fs.getD i []).length<=a.length/\SW p (fs.getD i [])
 cp:∀i j,i<fs.length->j<i->qB p (ci<|fs.getD i []) (ci<|fs.getD j [])
 pr:yH p (QH p fs) [ci (qU p a)<|a.length-1]=qU p a
def PV{f:N J}{fs:N (N J)}(hp:wh p=I)(c:Fp p f)(hc:X f<=290)(hi:i<=X fs)(z:i<=1000000)(g:∀j,j<i->Fp p (fs.getD j [])/\X (fs.getD j [])<=290)(k:3000000<=fu):
 ∃r,zg (ki fu p f<|fs.take i) fu 0=Z r/\(r=.inl ()->∀j,j<i->qB p (ci f) (ci<|fs.getD j [])):=by
 have hd:X (fs.take i)=i:=by rw[xas];lia
 have m:∀j,j<i->(fs.take i).getD j []=fs.getD j []:=λj a=>by rw[xaa,xce,iq a,<-xaa]
 refine yr (λx:J=>∃j:K,x=(j:J)/\j<=i/\∀t,t<j->qB p (ci f) (ci<|fs.getD t [])) (λx=>i-x.toNat) _ ?_ _ _ ⟨0,O,xac _,λt h=>wS h<|xbC _⟩ (by show i-0<fu;lia);rintro x L ⟨j,rfl,a,b⟩ n;unfold ki;by_cases h1:j<i
 ·have⟨k1,k2⟩:=g j h1;have⟨d,s,t,e1,o,q⟩:=uI (fu:=fu) hp c k1 hc k2 k;rw[zP,yj,Q,m j h1];have u:kz fu f (fs.getD j []) p=Z (d,0):=by
   unfold kz;rw[Y e1]
  rw[Y u];simp only;by_cases v:X d=1
  ·rw[zP,zb];refine n _ ⟨j+1,O,W,λt w=> ?_⟩ W;by_cases y:t=j
   ·rw[y];exact Mq o v<|q.resolve_left W
   ·exact b t W
  ·rw[zA];exact⟨_,O,λe=>wS e iP⟩
 ·rw[zA];exact⟨_,O,λ_ t w=>b t W⟩
def oE{k:K}{a:N Zr}{fs:N (N J)}(hp:wh p=I)(v:yI k a)(w:k<=40000)(E:X a<=66)(g:3000000<=fu):
 ∃b,vC fu a fs p=Z b/\(b=I->fW p a fs):=by
 have⟨F,y⟩:=zo hp;unfold vC;rw[Y<|uW v w W y];simp only;by_cases h0:X a=0
 ·simp_all
 ·rw[zA];by_cases hl:X (qU p a)=X a
  ·rw[zP];by_cases G:X a<X fs
   ·simp_all
   ·rw[zA]
    have⟨r,e1,z⟩:=yr (f:=jZ fu a fs p) (λx:J×N J=>∃i:K,x=((i:J),qU p a)/\i<=X fs/\(∀t,t<i->X (fs.getD t [])<=X a/\SW p (fs.getD t []))/\∀t j,t<i->j<t->qB p (ci<|fs.getD t []) (ci<|fs.getD j [])) (λx=>X fs-x.1.toNat)
     (λr=>r=.inr ()\/(r=.inl (qU p a)/\(∀t,t<X fs->X (fs.getD t [])<=X a/\SW p (fs.getD t []))/\∀t j,t<X fs->j<t->qB p (ci<|fs.getD t []) (ci<|fs.getD j []))) (by
      rintro x L ⟨i,rfl,hi,g1,m⟩ A;unfold jZ;simp only;by_cases h1:i<X fs
      ·rw[zP,Y O];simp only[uP];rw[zp h1,Q];by_cases H:X a<X (fs.getD i [])
       ·rw[zP];exact⟨_,O,.inl O⟩
       ·have⟨b,b1,b2⟩:=Ko (fu:=fu) (l:=fs.getD i []) (p:=p) W g;rw[zA,Y b1]
        cases b with
        |false=>
         rw[iq iI];exact⟨_,O,.inl O⟩
        |true=>
         have hc:=b2.1 O;rw[ir iI,yJ,yL,Q];have⟨q,q1,q2⟩:=PV (fu:=fu) (i:=i) (fs:=fs) hp (hc.fp W) W W W (λj c=>⟨(g1 j c).2.fp W,by have:=(g1 j c).1;lia⟩) g;rw[Y q1];obtain q|q:=q
         ·simp only;rw[zb];refine A _ ⟨i+1,O,W,λt d=> ?_,λt j d c=> ?_⟩ (by show X fs-((i:J)+1).toNat<X fs-(i:J).toNat;lia)
          ·by_cases o:t=i
           ·rw[o];exact⟨W,hc⟩
           ·exact g1 t W
          ·by_cases o:t=i
           ·rw[o]at c⊢;exact q2 O j c
           ·exact m t j W c
         ·exact⟨_,O,.inl O⟩
      ·rw[zA,Y O];simp only[xar,uS];exact⟨_,O,.inr ⟨O,λt d=>g1 t W,λt j d c=>m t j W c⟩⟩) fu (0,qU p a) ⟨0,O,xac _,λt h=>wS h (xbC _),λt j h=>wS h (xbC _)⟩ (by show X fs-0<fu;lia)
    rw[Y e1];obtain rfl|⟨rfl,g1,m⟩:=z
    ·exact⟨_,O,λe=>wS e iI⟩
    ·simp only;have s:∀{q:N J->Prop},(∀t,t<X fs->q (fs.getD t []))->∀f∈fs,q f:=λ{q} h f g=>by
      obtain⟨j,c,rfl⟩:=xdK.1 g;have:=h j c;rw[xaa,xak c]at this;exact this
     have B:∀f∈fs,Fp p f:=s λt d=>(g1 t d).2.fp W;have u:∀f∈fs,X f<=66:=s λt d=>by have:=(g1 t d).1;lia
     have P:X fs*66<=66*66:=xan _ W;have hc:=c9 (p:=p) u;have n:=WY (p:=p) W a;have R:ci (qU p a) (X a-1)≠0:=by
      obtain h|h:=n.nl
      ·lia
      ·rw[hl]at h;exact h
     have hv:=n.nn<|X a-1;have hn:=n.lt<|X a-1;have hd:(qU p a).drop (X a-1)=[ci (qU p a)<|X a-1]:=by
      rw[xcb W,xbW W];unfold ci;rw[xaa,xak W];rfl
     have C:=uB (p:=p) (x:=ci (qU p a)<|X a-1) W hn;have D:=wZ p (QH p fs) [ci (qU p a)<|X a-1];simp only[xaw,xbR]at D;rw[Y (jO hp B u W iI),hl,(W:(X a:J)-1=((X a-1:K):J)),zb,yJ,yL,Q,hd,Y<|u4 hp (ed W fs) C W iP];simp only;rw[Y<|Ks hp (w5 W _ _) n W W g];exact⟨_,O,λe=>⟨h0,hl,W,g1,m,Wf e⟩⟩
  ·rw[zA];exact⟨_,O,λe=>wS e iI⟩
end
section
variable{k fu K:wr}{a b x d f g h s:xS Zr}{m:wl}
def UA(a b:N M):N M:=xJ (max (X a) (X b))<|λj=>cf a j+cf b j
def BL(a b:N M)(k:wr):cf (UA a b) k=cf a k+cf b k:=jz (λj c=>Vi c) k
def JH(a b:N M):X (UA a b)<=max (X a) (X b):=by unfold UA;rw[xv];exact vT _ _
def gH(c:yI k a)(e:yI k b):yI (k+1) (UA a b):=yE λj=>(c.bz j).add<|e.bz j
def oo(c:yI k a)(e:yI k b)(i:k+1<=100000)(hc:X a<=1000000)(hd:X b<=1000000)(j:3000000<=fu):qs fu a b=Z (UA a b):=gk c e i hc hd j
def Pe:N M:=uf [1]
def zkZ:(cf Pe:Pz)=pc 1:=by unfold Pe;rw[kn,wX]
def zhT:X Pe<=1:=Oy [1]
def zhE:Rl [1]:=λk=>by
 rw[wX];unfold pc;split<;>exact⟨iI,iI⟩
def zcV:yI 1 Pe:=PO zhE
def gB(f g h:N M)(m:J):N M:=vE (JC f<|yW g h) m
def FC(x d:N M)(m:J):N M:=GB (vE x m) d m
def BZ(x d:N M)(m:J):N M:=WM (vE x m) d m
def puG(f g h s t:N M)(m:J):N M:=vE (UA g<|UA (yW t<|gB f g h m)<|yW (FC (yW s<|gB f g h m) h m) g) m
def FX(f g h s:N M)(m:J):N M:=vE (UA h<|BZ (yW s<|gB f g h m) h m) m
def mz(g h s t:N M)(m:J):N M:=vE (JC (UA (yW s g)<|yW t h) Pe) m
def puS(g h s t:N M)(m:J):N M:=vE (JC s<|BZ (yW s<|mz g h s t m) h m) m
def puT(g h s t:N M)(m:J):N M:=vE (JC t<|UA (yW t<|mz g h s t m)<|yW (FC (yW s<|mz g h s t m) h m) g) m
def zhn(c:Bz K m)(h0:0<m):yI K (FC x d m):=yE λj=>c.emod h0
def zgs(c:Bz K m)(h0:0<m):yI K (BZ x d m):=yE λj=>c.emod h0
theorem zbG(x d:N M)(m:J):X (FC x d m)<=X x+1:=by grind [GB,FC,xv,XD,vT]
theorem zbu(x d:N M)(m:J):X (BZ x d m)<=X x:=by grind [WM,BZ,xv,vT,XD]
def Hg(c:0<X d)(e:cf d (X d-1)=1):X (BZ x d m)<X d:=GV c e
def zcD(i:2<=m)(hl:0<X h)(h1:cf h (X h-1)=1):X (FX f g h s m)=X h/\cf (FX f g h s m) (X h-1)=1:=by
 have j:=Hg (x:=yW s<|gB f g h m) (m:=m) hl h1;have e:∀k,cf (FX f g h s m) k=(cf h k+cf (BZ (yW s<|gB f g h m) h m) k)%m:=λk=>by unfold FX;rw[uG,BL]
 have e1:cf (FX f g h s m) (X h-1)=1:=by
  rw[e,h1,zX (p:=BZ _ _ _) W];exact xaD iI W
 refine⟨xcG (nP (UY _ _) λk c=> ?_)<|xbs λl=> ?_,e1⟩
 ·have:=e k;unfold FX at this;rw[this,zX c,zX (p:=BZ _ _ _) W,xbF,xah]
 ·rw[zX W]at e1;cases e1
def iK{W:wr}{t:N M}{m:M}(hd:yI K f)(n:yI K g)(u:yI K h)(e:yI K s)(j:yI K t)(lf:X f<=W)(lg:X g<=W)(lh:X h<=W)(ls:X s<=W)(lt:X t<=W)(hW:W<=5000)(he:1<=K)(hK:K<=1000)(B:zm m.2)(hc:X m.2<=K)(h2:2<=zv m)(hl:0<X h)(h1:cf h (X h-1)=1)(c:3000000<=fu):
 kt fu [g,h,s,t] f m=Z [puG f g h s t<|zv m,FX f g h s<|zv m,puS (puG f g h s t<|zv m) (FX f g h s<|zv m) s t<|zv m,puT (puG f g h s t<|zv m) (FX f g h s<|zv m) s t<|zv m]:=by
 have l:Bz K (zv m):=(Bz.of B).mono hc;have o:b7 m:=⟨B,g9⟩;have h0:0<zv m:=g9
 unfold kt;rw[CR (i:=0) iI,Q,CR (i:=1) iI,Q,CR (i:=2) iI,Q,CR (i:=3) iI,Q,show[g,h,s,t].getD (Int.toNat 0) []=g from O,show[g,h,s,t].getD (Int.toNat 1) []=h from O,show[g,h,s,t].getD (Int.toNat 2) []=s from O,show[g,h,s,t].getD (Int.toNat 3) []=t from O];have p:=Xk n u;have l1:=jk g h;have L:=U2 f<|yW g h;rw[Y<|xY n u g9 g9 c,Y<|Zb (k:=K+K+X g) (hd.mono g9) p g9 g9 g9 c,Y<|Xi (Cr (hd.mono g9) p) g9 o h0,show vE (JC f<|yW g h) (zv m)=gB f g h (zv m)from O];have v:yI K (gB f g h<|zv m):=aW l h0;have le:X (gB f g h<|zv m)<=W+W:=xae (XD _ _) g9;have w:=Xk e v;have P:=jk s<|gB f g h<|zv m;have E:=zhn (x:=yW s<|gB f g h<|zv m) (d:=h) l h0;have pr:=zgs (x:=yW s<|gB f g h<|zv m) (d:=h) l h0;have lq:=zbG (yW s<|gB f g h<|zv m) h<|zv m;have lr:=zbu (yW s<|gB f g h<|zv m) h<|zv m;rw[Y<|xY e v g9 g9 c,Y<|QA w g9 u B hc h0 hl g9 g9 c,show GB (vE (yW s<|gB f g h<|zv m)<|zv m) h (zv m)=FC (yW s<|gB f g h<|zv m) h (zv m)from O,show WM (vE (yW s<|gB f g h<|zv m)<|zv m) h (zv m)=BZ (yW s<|gB f g h<|zv m) h (zv m)from O];simp only;have q:=Xk j v;have R:=jk t<|gB f g h<|zv m;have y:=Xk E n;have S:=jk (FC (yW s<|gB f g h<|zv m) h<|zv m) g;have r:=gH (k:=K+K+W+W+W+1) (q.mono g9) (y.mono g9);have T:=JH (yW t<|gB f g h<|zv m)<|yW (FC (yW s<|gB f g h<|zv m) h<|zv m) g;have z:=gH (k:=K+K+W+W+W+2) (n.mono g9) r;have U:=JH g<|UA (yW t<|gB f g h<|zv m)<|yW (FC (yW s<|gB f g h<|zv m) h<|zv m) g;rw[Y<|xY j v g9 g9 c,Y<|xY E n g9 g9 c,Y<|oo (k:=K+K+W+W+W+1) (q.mono g9) (y.mono g9) g9 g9 g9 c,Y<|oo (k:=K+K+W+W+W+2) (n.mono g9) r g9 g9 g9 c,Y<|Xi z g9 o h0,show vE (UA g<|UA (yW t<|gB f g h<|zv m)<|yW (FC (yW s<|gB f g h<|zv m) h<|zv m) g) (zv m)=puG f g h s t (zv m)from O];have V:=JH h<|BZ (yW s<|gB f g h<|zv m) h<|zv m;rw[Y<|oo u pr g9 g9 g9 c,Y<|Xi (gH u pr) g9 o h0,show vE (UA h<|BZ (yW s<|gB f g h<|zv m) h<|zv m) (zv m)=FX f g h s (zv m)from O];have⟨hi,hj⟩:=zcD (f:=f) (g:=g) (s:=s) h2 hl h1;have C:yI K (puG f g h s t<|zv m):=aW l h0;have F:yI K (FX f g h s<|zv m):=aW l h0;have lG:X (puG f g h s t<|zv m)<=4*W+1:=xae (XD _ _) g9;clear l1 L P R S T U V p w q y r z v le E pr lq lr;generalize puG f g h s t (zv m)=G at*
 generalize FX f g h s (zv m)=H at*
 have p:=Xk e C;have l1:=jk s G;have w:=Xk j F;have L:=jk t H;have q:=gH (k:=K+K+W) (p.mono g9) (w.mono g9);have P:=JH (yW s G)<|yW t H;have R:=U2 (UA (yW s G)<|yW t H) Pe;have S:=zhT;rw[Y<|xY e C g9 g9 c,Y<|xY j F g9 g9 c,Y<|oo (k:=K+K+W) (p.mono g9) (w.mono g9) g9 g9 g9 c];rw[Y<|GR zhE iI c,show uf [1]=Pe from O,Y<|Zb q (zcV.mono g9) g9 g9 g9 c,Y<|Xi (Cr q<|zcV.mono g9) g9 o h0,show vE (JC (UA (yW s G)<|yW t H) Pe) (zv m)=mz G H s t (zv m)from O];have D:yI K (mz G H s t<|zv m):=aW l h0;have lb:X (mz G H s t<|zv m)<=5*W+2:=xae (XD _ _) g9;have y:=Xk e D;have T:=jk s<|mz G H s t<|zv m;have A:=zhn (x:=yW s<|mz G H s t<|zv m) (d:=H) l h0;have pd:=zgs (x:=yW s<|mz G H s t<|zv m) (d:=H) l h0;have lc:=zbG (yW s<|mz G H s t<|zv m) H<|zv m;have ld:=zbu (yW s<|mz G H s t<|zv m) H<|zv m;have U:=U2 s<|BZ (yW s<|mz G H s t<|zv m) H<|zv m;rw[Y<|xY e D g9 g9 c,Y<|QA y g9 F B hc h0 g9 g9 g9 c,show GB (vE (yW s<|mz G H s t<|zv m)<|zv m) H (zv m)=FC (yW s<|mz G H s t<|zv m) H (zv m)from O,show WM (vE (yW s<|mz G H s t<|zv m)<|zv m) H (zv m)=BZ (yW s<|mz G H s t<|zv m) H (zv m)from O];simp only;rw[Y<|Zb e pd g9 g9 g9 c,Y<|Xi (Cr e pd) g9 o h0,show vE (JC s<|BZ (yW s<|mz G H s t<|zv m) H<|zv m) (zv m)=puS G H s t (zv m)from O];have r:=Xk j D;have V:=jk t<|mz G H s t<|zv m;have z:=Xk A C;have l9:=jk (FC (yW s<|mz G H s t<|zv m) H<|zv m) G;have p7:=gH (k:=K+K+6*W+3) (r.mono g9) (z.mono g9);have a0:=JH (yW t<|mz G H s t<|zv m)<|yW (FC (yW s<|mz G H s t<|zv m) H<|zv m) G;have a1:=U2 t<|UA (yW t<|mz G H s t<|zv m)<|yW (FC (yW s<|mz G H s t<|zv m) H<|zv m) G;rw[Y<|xY j D g9 g9 c,Y<|xY A C g9 g9 c,Y<|oo (k:=K+K+6*W+3) (r.mono g9) (z.mono g9) g9 g9 g9 c,Y<|Zb (j.mono g9) p7 g9 g9 g9 c,Y<|Xi (Cr (j.mono g9) p7) g9 o h0,show vE (JC t<|UA (yW t<|mz G H s t<|zv m)<|yW (FC (yW s<|mz G H s t<|zv m) H<|zv m) G) (zv m)=puT G H s t (zv m)from O]
end
section
variable{x d f g h s t:xS Zr}{m:wl}
def Xg(a:N M)(m:J):Cg m (cf<|vE a m) (cf a):=λk=>by rw[uG,xaE]
def Lq(a b:N M):(cf (JC a b):Pz)=cf a-cf b:=qR λk=>BK a b k
def sI(a b:N M):(cf (UA a b):Pz)=cf a+cf b:=qR λk=>BL a b k
def zh1(b:0<X d)(c:cf d (X d-1)=1):Cg m (cf x) ((cf (FC x d m):Pz)*cf d+cf (BZ x d m)):=by
 intro k;unfold FC BZ;rw[zI,<-vZ,nY W b c,xdx,xaE,<-xdx];have e:=uG x m k;generalize vE x m=r at*
 have⟨qn,a⟩:∃qn,qn=X r+1-X d:=⟨_,O⟩;have hc:∀j,j<qn->cf (GB r d m) j=dvC r d m qn j:=λj i=>by
  rw[zcl];unfold dvQ dvC;simp_all
 have hd:X (GB r d m)<=qn:=by unfold GB;rw[xv,<-a];exact vT _ _
 have h:=zcA hc k qn<|IR _;rw[B9,RK hd]at h;rw[NQ,<-a,Int.add_comm,<-h,e,xaE]
def fT{n x:J}(hn:n∣m)(a:n∣x):n∣x%m:=by
 rw[Int.emod_def];exact xdp a<|xbx hn<|xcl _ _
def Cu{r d:N M}{n m:J}{qn:K}(hn:n∣m)(a:∀k,n∣cf r k):∀s k,n∣dvF r d m qn s k
 |0,k=>a k
 |s+1,k=>xdp (Cu hn a s k)<|xbx (fT hn<|Cu hn a s _)<|xcl _ _
def zfu{n:J}(hn:n∣m)(b:Cg n (cf x) (pc 0))(c:0<X d)(e:cf d (X d-1)=1):Cg n (cf<|FC x d m) (pc 0)/\Cg n (cf<|BZ x d m) (pc 0):=by
 have a:∀k,n∣cf (vE x m) k:=λk=>by rw[uG];exact fT hn<|b.dvd k
 refine⟨Cg.of_dvd λk=> ?_,Cg.of_dvd λk=> ?_⟩
 ·unfold FC;rw[zcl];refine fT hn ?_;unfold dvQ;split
  ·exact fT hn<|Cu hn a _ _
  ·simp_all
 ·unfold BZ;rw[nY W c e];exact fT hn<|Cu hn a _ _
def zmY{n:J}(e:m∣n*n)(hn:n∣m)(h1:Cg n (cf f) ((cf g:Pz)*cf h))(i:Cg n ((cf s:Pz)*cf g+(cf t:Pz)*cf h) (pc 1))(a:0<X h)(b:cf h (X h-1)=1):
 Cg m (cf f) ((cf (puG f g h s t m):Pz)*cf (FX f g h s m))/\Cg n (cf<|puG f g h s t m) (cf g)/\Cg n (cf<|FX f g h s m) (cf h):=by
 have c:Cg m (cf<|gB f g h m) ((cf f:Pz)-(cf g:Pz)*cf h):=by
  refine(Xg _ _).trans<|Cg.of ?_;rw[Lq,vZ]
 have hc:Cg n (cf<|gB f g h m) (pc 0):=(c.down hn).trans<|Cg.iff_sub.1 h1;have hd:Cg m ((cf s:Pz)*cf (gB f g h m)) ((cf (FC (yW s<|gB f g h m) h m):Pz)*cf h+cf (BZ (yW s<|gB f g h m) h m)):=by
  rw[<-vZ];exact zh1 a b
 have⟨j,z2⟩:=zfu (x:=yW s<|gB f g h m) (d:=h) hn (by rw[vZ];exact hc.mul_zero_l _) a b;refine zfe e hn (q:=cf<|FC (yW s<|gB f g h m) h m) (r:=cf<|BZ (yW s<|gB f g h m) h m) h1 i c hd j z2 ?_ ?_
 ·refine(Xg _ _).trans<|Cg.of ?_;rw[sI,sI,vZ,vZ]
 ·refine(Xg _ _).trans<|Cg.of ?_;rw[sI]
def zmK{n:J}(a:m∣n*n)(hn:n∣m)(b:Cg n ((cf s:Pz)*cf g+(cf t:Pz)*cf h) (pc 1))(c:0<X h)(hc:cf h (X h-1)=1):
 Cg m ((cf (puS g h s t m):Pz)*cf g+(cf (puT g h s t m):Pz)*cf h) (pc 1):=by
 have e:Cg m (cf<|mz g h s t m) ((cf s:Pz)*cf g+(cf t:Pz)*cf h-pc 1):=by
  refine(Xg _ _).trans<|Cg.of ?_;rw[Lq,sI,vZ,vZ,zkZ]
 have hd:Cg m ((cf s:Pz)*cf (mz g h s t m)) ((cf (FC (yW s<|mz g h s t m) h m):Pz)*cf h+cf (BZ (yW s<|mz g h s t m) h m)):=by
  rw[<-vZ];exact zh1 c hc
 refine zhS a hn b e hd ?_ ?_
 ·refine(Xg _ _).trans<|Cg.of ?_;rw[Lq]
 ·refine(Xg _ _).trans<|Cg.of ?_;rw[Lq,sI,vZ,vZ]
def zch{a b:N M}(e:0<X a)(hc:0<X b)(c:cf b (X b-1)=1):((cf a:Pz)*cf b) (X a-1+(X b-1))=cf a (X a-1):=by
 rw[vK,wM (i:=X a-1) λi hi=> ?_,zP,(W:X a-1+(X b-1)-(X a-1)=X b-1),c,xck];by_cases h:i<X a-1
 ·rw[zX (p:=b) W,xaC]
 ·rw[zX W,xaP]
theorem zbH(u:2<=m)(e:vE g m=g)(l:vE f m=f)(hp:0<X f)(q:0<X h)(hl:cf h (X h-1)=1)(hc:Cg m (cf f) ((cf g:Pz)*cf h)):
 X f=X g+(X h-1)/\0<X g/\cf g (X g-1)=cf f (X f-1):=by
 have hd:=UY g m;have a:=UY f m;rw[e]at hd;rw[l]at a;have hn:∀k,cf g k%m=cf g k:=λk=>by rw[<-uG,e]
 have b:∀k,cf f k%m=cf f k:=λk=>by rw[<-uG,l]
 have r:=YA a W;have g0:0<X g:=by
  refine xcD λh0=>r ?_;rw[<-b,hc,vK,xk λi hi=>by rw[zX (p:=g) W,xaP],xah]
 have v:=YA hd W;have o:=hc<|X g-1+(X h-1);rw[zch g0 q hl,b,hn]at o;have e1:X f=X g+(X h-1):=by
  refine xcG (nP a λk w=> ?_)<|xbs λy=> ?_
  ·rw[<-b,hc,kf (n:=X g) (m:=X h) (λj c=>zX c)<|λj c=>zX c,xah]
  ·rw[zX (p:=f) W]at o;lia
 grind
end
section
variable{r0 r1 a b K fu:wr}{u0 u1 v0 v1:wl}
structure ZbI(a b:wr)(r0 r1:wr)(u0 v0 u1 v1:J):Prop where
 p0:0<r0
 le0:r0<=max a b
 le1:r1<=max a b
 e0:u0*a+v0*b=r0
 e1:u1*a+v1*b=r1
 g:xdX r0 r1=xdX a b
 su:∃x y:wr,((u0=x/\u1= -y)\/(u0= -x/\u1=y))/\r0*y+r1*x=b
 sv:∃x y:wr,((v0=x/\v1= -y)\/(v0= -x/\v1=y))/\r0*y+r1*x=a
 bu0:u0.natAbs<=b
 bu1:u1.natAbs<=b
 bv0:v0.natAbs<=a
 bv1:v1.natAbs<=a
def O5{c:wr}(i:0<r1)(h:∃x y:wr,((u0=x/\u1= -y)\/(u0= -x/\u1=y))/\r0*y+r1*x=c):
 (∃x y:wr,((u1=x/\u0-((r0/r1:wr):J)*u1= -y)\/(u1= -x/\u0-((r0/r1:wr):J)*u1=y))/\r1*y+r0%r1*x=c)/\(u0-((r0/r1:wr):J)*u1).natAbs<=c:=by
 have⟨x,y,g,j⟩:=h;have hc:=xbp r0 r1;generalize r0/r1=q at*
 generalize r0%r1=r2 at*
 have e1:r1*(x+q*y)+r2*y=c:=by
  rw[xcj,<-xbl];have:r0*y=r1*q*y+r2*y:=by rw[<-xaX,hc]
  lia
 have k:x+q*y<=c:=by
  have l:1*(x+q*y)<=r1*(x+q*y):=xan _ W;lia
 have f:((q*y:wr):J)=(q:J)*(y:J):=iP
 rcases g with⟨d,e⟩|⟨d,e⟩
 ·rw[d,e,Int.mul_neg,<-f];exact⟨⟨y,x+q*y,.inr ⟨O,W⟩,e1⟩,W⟩
 ·rw[d,e,<-f];exact⟨⟨y,x+q*y,.inl ⟨O,W⟩,e1⟩,W⟩
theorem ZbI.step(h:ZbI a b r0 r1 u0 v0 u1 v1)(c:0<r1):ZbI a b r1 (r0%r1) u1 v1 (u0-((r0/r1:wr):J)*u1) (v0-((r0/r1:wr):J)*v1):=by
 have⟨d,e⟩:=O5 c h.su;have⟨t1,t2⟩:=O5 c h.sv;have i:=xbp r0 r1;have hd:=xaM r0 c;have f:=h.le1;refine⟨c,f,W,h.e1,?_,?_,d,t1,h.bu1,e,h.bv1,t2⟩
 ·have e0:=h.e0;have e1:=h.e1;have hc:(r0:J)=(r1:J)*((r0/r1:wr):J)+((r0%r1:wr):J):=W
  grind
 ·rw[<-h.g,xee r1,<-Nat.gcd_rec,xee]
theorem Bz.nat{n:wr}(h:n<18446744073709551616^K):Bz K (n:J):=by unfold Bz;exact h
def iG{q x0 e z0 f g h:J}(c:Bz K q)(h1:Bz K x0)(l:Bz K e)(m:Bz K z0)(i:Bz K f)(j:Bz K g)(k:Bz K h)(n:K<=10000)(d:3000000<=fu):
 Zy fu (ya x0,(ya e,ya z0)) (ya q) (ya f,(ya g,ya h))=Z (ya<|x0-q*f,(ya<|e-q*g,ya<|z0-q*h)):=by
 unfold Zy;have b1:=c.mul i;have b2:=c.mul j;have b3:=c.mul k;rw[Y<|yB (c.ok W) (i.ok W) d,zn,zn,Y<|jA (h1.ok W) (b1.ok W) d,zn,zn,Y<|yB (c.ok W) (j.ok W) d,zn,zn,Y<|jA (l.ok W) (b2.ok W) d,zn,zn,Y<|yB (c.ok W) (k.ok W) d,zn,zn,Y<|jA (m.ok W) (b3.ok W) d,zn,zn]
def Lz(h:r1<=r0:=by lia)(c:0<r1:=by lia):bl (r0%r1)<bl r0:=by
 have f:=xbp r0 r1;have hc:=xaM r0 c;have d:1<=r0/r1:=(xcn c).2 W;have h1:r1*1<=r1*(r0/r1):=xaA _ d;have g:=AI r0;have hp:1<=bl r0:=by rw[aH];lia
 have e:2^bl r0=2*2^(bl r0-1):=by rw[<-xdM,(W:(bl r0-1).succ=bl r0)]
 have:=Jt (n:=r0%r1) (k:=bl r0-1) W;lia
def zd2(q:a<18446744073709551616^K)(t:b<18446744073709551616^K)(w:K<=1000)(f:3000000<=fu)(c:ZbI a b r0 r1 u0 v0 u1 v1):
 ∃r,zg (Qn fu) fu ((ya r0,(ya u0,ya v0)),(ya r1,(ya u1,ya v1)))=Z r/\∃u v:J,r=(ya (xdX a b:wr),(ya u,ya v))/\u*a+v*b=(xdX a b:wr)/\u.natAbs<=b/\v.natAbs<=a:=by
 have hc:∀{n:wr},n<=max a b->bl n<=64*K:=λ{n} hn=>Jt (by
  rw[xbX,Hk];lia)
 refine yr (λs:(M×(M×M))×(M×(M×M))=>∃(r0 r1:wr) (u0 v0 u1 v1:J),s=((ya r0,(ya u0,ya v0)),(ya r1,(ya u1,ya v1)))/\ZbI a b r0 r1 u0 v0 u1 v1) (λs=>bl (zv s.1.1).natAbs+bl (zv s.2.1).natAbs+if(zv s.1.1).natAbs<(zv s.2.1).natAbs then 1 else 0) _ ?_ _ _ ⟨r0,r1,u0,v0,u1,v1,O,c⟩ ?_
 ·rintro s L ⟨r0,r1,u0,v0,u1,v1,rfl,c⟩ k;have d:∀x:J,x.natAbs<=max a b->Bz K x:=λx y=>by unfold Bz;lia
  have z0:Bz K (r0:J):=d _ (by have:=c.le0;lia);have h:Bz K (r1:J):=d _ (by have:=c.le1;lia);unfold Qn;simp only;rw[Y<|xE (h.ok W) f,zn];by_cases h0:r1=0
  ·rw[iq<|wJ.2 W];have i:=c.g;rw[h0,Nat.gcd_zero_right]at i;exact⟨_,O,u0,v0,by rw[i],by rw[c.e0,i],c.bu0,c.bv0⟩
  ·rw[ir<|λe=>h0 (by have:=wJ.1 e;lia),Y<|UE (z0.okS W) (h.okS W) f,zn,zn];unfold GP;rw[zA];simp only;have l:((r0:J)/(r1:J))=((r0/r1:wr):J):=O;have m:Bz K ((r0/r1:wr):J):=Bz.nat (by
    have h1:=xcE r0 r1;have j:=c.le0;lia)
   have o:=c.step W;have hd:=xbp r0 r1;have p:(r0:J)-((r0/r1:wr):J)*(r1:J)=((r0%r1:wr):J):=by
    have:(r0:J)=((r1*(r0/r1)+r0%r1:wr):J):=by rw[hd]
    conv=>lhs;rw[this]
    rw[hd];have j:(r0:J)=(r1:J)*((r0/r1:wr):J)+((r0%r1:wr):J):=by rw[this];simp
    rw[xbg];lia
   rw[l,Y<|iG m z0 (d _ (by have:=c.bu0;lia)) (d _ (by have:=c.bv0;lia)) h (d _ (by have:=c.bu1;lia)) (d _ (by have:=c.bv1;lia)) W f,p];refine k _ ⟨_,_,_,_,_,_,O,o⟩ ?_;simp only[zn,xbb];have z:=xaM r0 (W:0<r1);rw[zA];by_cases hi:r0<r1
   ·rw[iq hi,xam hi];lia
   ·have:=Lz (r0:=r0) (r1:=r1);lia
 ·simp only[zn,xbb];have h1:=hc c.le0;have j:=hc c.le1;split<;>lia
theorem tU{x y:M}(c:zm x.2)(d:zm y.2)(hc:X x.2<=K)(hd:X y.2<=K)(h:zv x=(a:J))(i:zv y=(b:J))(j:0<a)(o:0<b)(k:K<=1000)(f:3000000<=fu):
 ∃u v:J,Vd fu x y=Z (ya (xdX a b:wr),ya u,ya v)/\u*a+v*b=(xdX a b:wr)/\u.natAbs<=b/\v.natAbs<=a:=by
 have g:A x.2=a:=by have:=q6 x;lia
 have nb:A y.2=b:=by have:=q6 y;lia
 have l:a<18446744073709551616^K:=by rw[<-g];exact xaj (qm c)<|xau iI hc
 have m:b<18446744073709551616^K:=by rw[<-nb];exact xaj (qm d)<|xau iI hd
 have n:ZbI a b a b 1 0 0 1:=by refine⟨j,xdV _ _,xdG _ _,W,W,O,⟨1,0,.inl ⟨O,O⟩,W⟩,⟨0,1,.inr ⟨O,O⟩,W⟩,W,W,W,W⟩
 obtain⟨r,e1,u,v,rfl,p,q,s⟩:=zd2 (fu:=fu) l m k f n;unfold Vd;rw[Y (yO c W W),Y (yq iI),Y (yq iI),Y (yO d W W),Y (yq iI),Y (yq iI),ir iI,ir iI,g,nb,Y e1];simp only;rw[Y<|xE ⟨c,W⟩ f,ir (λe=>by rw[h,vM W]at e;exact wS e iI),Y O,Y<|xE ⟨d,W⟩ f,ir (λe=>by rw[i,vM W]at e;exact wS e iI),Y O];grind
end
section
variable{p m:wl}{d:xS wl}{k K:wr}{f:xS Zr}
def CP{x:Pz}(hp:2<=p)(g:Fs x)(s:0<i7 d)(hd:ci d (i7 d-1)=1)(h:Cg p (x*ci d) (pc 1)):i7 d=1:=by
 have⟨n,hn⟩:=g;have⟨X,b⟩:∃X,X=nl n (λk=>x k%p):=⟨_,O⟩;have a:∀k,ci X k=x k%p:=λk=>by
  rw[b];exact Eo (λj o=>by rw[hn j o,xah]) k
 have q:Nl X:=by rw[b];exact Ak _ _
 have c:Cg p (ci X*ci d) (pc 1):=(Cg.mul (λk=>by rw[a,xaE]) Cg.rfl).trans h;obtain h0|h0:=q
 ·have h1:=c 0;rw[vK,xk λi hi=>by rw[zU (l:=X) W,xaP]]at h1;unfold pc at h1;rw[iq O,xah,xaD iI W]at h1;cases h1
 ·have t:0<i7 X:=xcD λe=>h0 (zU W);have r:(ci X*ci d) (i7 X-1+(i7 d-1))=ci X (i7 X-1):=by
   rw[vK,wM (i:=i7 X-1) λi hi=> ?_,zP,(W:i7 X-1+(i7 d-1)-(i7 X-1)=i7 d-1),hd,xck];by_cases hc:i<i7 X-1
   ·rw[zU (l:=d) W,xaC]
   ·rw[zU (l:=X) W,xaP]
  have h1:=c<|i7 X-1+(i7 d-1);rw[r,a,xaE,<-a]at h1;refine Decidable.byContradiction λu=> ?_;unfold pc at h1;rw[zA,xah]at h1;exact h0 h1
def zkj{g h s t:N J}{S:wr}(hp:2<=p)(a:BzR p g h d s t S)(hd:X d=0\/ci d (X d-1)=1)(hc:qB p (ci g) (ci h)):Cg p (ci s*ci g+ci t*ci h) (pc 1):=by
 have⟨A,C,c,z2,d1,d2⟩:=a.dv;have⟨u,v,z3,z4,hc⟩:=hc;have b:Cg p ((u*A+v*C)*ci d) (pc 1):=by
  refine Cg.trans (Cg.of ?_)<|(((Cg.rfl (f:=u)).mul d1.symm).add<|(Cg.rfl (f:=v)).mul d2.symm).trans hc;rw[ym,zd,zd]
 have j:0<X d:=by
  refine xcD λe=> ?_;have h1:=b 0;rw[vK,xk λi hi=>by rw[zU (l:=d) W,xaC]]at h1;unfold pc at h1;rw[xah,xaD iI W]at h1;cases h1
 have n:=hd.resolve_left W;have hl:=CP hp ((z3.mul c).add<|z4.mul z2) j n b;have e:ci d=pc 1:=by
  funext k;unfold pc;by_cases o:k=0
  ·simp_all
  ·rw[ir o,zU W]
 have:=a.cg;rw[e]at this;exact this.symm
def Y0(hp:wh p=I):jK p.toNat:=by
 refine xai λh=> ?_;rw[Fi<|λe=>h e.2.2]at hp;simp_all
def zkb{P N:wr}(h1:1<=P)(b:P<=65521)(a:k<=4*N)(c:0<N):P^k<18446744073709551616^N:=by
 rw[(iI:18446744073709551616=65536^4),<-xbX];exact xaK (xau W a)<|Nat.pow_lt_pow_left W W
def sO(hp:wh p=I)(a:k<=1000:=by lia):Bz 250 (p^k):=by
 have⟨b,c⟩:=zo hp;obtain⟨P,rfl⟩:=xaz (W:0<=p);exact zkb W W a iI
theorem nQ(hp:wh p=I)(a:1<=k:=by lia):2<=p^k:=by
 have⟨b,c⟩:=zo hp;obtain⟨P,rfl⟩:=xaz (W:0<=p);have h1:P^1<=P^k:=xau W a;grind
def iF{i j:wr}(h:i<=j:=by lia):p^i∣p^j:=⟨p^(j-i),by rw[<-Int.pow_add,(W:i+(j-i)=j)]⟩
def zke{c:J}(hp:wh p=I)(hc:c%p≠0)(a:0<=c):xdX c.toNat (p^k).toNat=1:=by
 have⟨h,i⟩:=zo hp;have b:=Y0 hp;obtain⟨P,rfl⟩:=xaz (W:0<=p);obtain⟨C,rfl⟩:=xaz a;have e:=xaM C (W:0<P);have h1:=gP W b W e;have g:xdX C P=1:=by rw[xee,Nat.gcd_rec,xee];exact h1
 exact Nat.Coprime.pow_right k g
structure Rd(K:wr)(m:J)(f:N M):Prop where
 ok:yI K f
 rd:vE f m=f
def Rd.mod(h:Rd K m f)(k:wr):cf f k%m=cf f k:=by rw[<-uG,h.rd]
def Rd.can(h:Rd K m f):f=xJ (X f) (cf f):=by have:=UY f m;rw[h.rd]at this;exact this
def gI(b:Bz K m)(h0:0<m)(a:N M):Rd K m (vE a m):=⟨aW b h0,DF λk=>by rw[uG,xaE]⟩
def AN{fu:wr}(hp:wh p=I)(C:1<=k)(D:k<=1000)(g:Rd 250 (p^k) f)(N:0<X f)(P:X f<=1000)(o:cf f (X f-1)%p≠0)(q:3000000<=fu):
 ∃w u,Jd fu f (ya<|p^k)=Z w/\Rd 250 (p^k) w/\X w=X f/\cf w (X w-1)=1/\(u*cf f (X f-1))%p^k=1/\Cg (p^k) (cf w) (pc u*cf f):=by
 have h:=sO hp D;have E:=nQ hp C;have⟨m,F⟩:∃m,m=p^k:=⟨_,O⟩;have hd:=zke (k:=k) hp o (by
  rw[<-g.mod];exact xcI _ W)
 rw[<-F]at h E g hd⊢;have⟨c,hc⟩:∃c,c=cf f (X f-1):=⟨_,O⟩;have r:=yn (a:=c) (p:=m);have s:=g.mod<|X f-1;rw[<-hc]at s o hd⊢;rw[s]at r;have R:c≠0:=λe=>o (by rw[e,xah]);have S:Bz 250 c:=h.le W;have t:=g.ok.get<|X f-1;have⟨u,v,e1,z,T,U⟩:=tU (fu:=fu) (K:=250) (a:=c.toNat) (b:=m.toNat) (x:=f.getD (X f-1) (wL,[])) (y:=ya m) t.1 (yo _) t.2 h.len (by rw[YI,<-hc];lia) (by rw[zn];lia) W W iI q;rw[hd]at z;have A:Bz 250 u:=h.le W;have B:(u*c)%m=1:=by
  have:u*c=1+m*(-v):=by
   rw[xcZ r.1,xcZ (W:0<=m)]at z;rw[Int.mul_neg,xbg m v];lia
  rw[this,Int.add_mul_emod_self_left];exact xaD iI W
 have G:b7 (ya m):=h.okS iI;have⟨sc,n⟩:∃sc,sc=xJ (X f) (λj=>cf f j*u):=⟨_,O⟩;have H:yI (250+250) sc:=by rw[n];exact yE λj=>(g.ok.bz j).mul A
 have V:X sc<=X f:=by rw[n,xv];exact vT _ _
 have L:∀j,cf sc j=cf f j*u:=λj=>by rw[n];exact jz (λi hi=>WH hi) j
 have hl:∀j,cf (vE sc m) j=cf f j*u%m:=λj=>by rw[uG,L]
 have hn:cf (vE sc m) (X f-1)=1:=by rw[hl,<-hc,xbg,B]
 have hv:X (vE sc m)=X f:=by
  refine xcG (nP (UY _ _) λj M=> ?_)<|xbs λhE=> ?_
  ·rw[hl,zX M,xaP,xah]
  ·rw[zX W]at hn;cases hn
 refine⟨vE sc m,u,?_,gI h W _,hv,by rw[hv];exact hn,B,λj=> ?_⟩
 ·unfold Jd;rw[(W:(X f:J)-1=((X f-1:wr):J)),zb,yj,Q,Y e1];simp only;rw[Y<|ks (l:=250) g.ok ⟨yo _,A.len⟩ iI W q,zn,<-n,Y (Xi H iI G<|by rw[zn];lia),zn]
 ·rw[hl,zS,xaE,xbg]
end
section
variable{G H S f g0 h0:xS Zr}{p:wl}{i k lh LS j fu:wr}
structure TrI(p:J)(k:K)(f g0 h0:N M)(lh LS i:K)(G H S T:N M):Prop where
 i1:1<=i
 ik:i<=k
 rG:Rd 250 (p^i) G
 rH:Rd 250 (p^i) H
 rS:Rd 250 (p^i) S
 rT:Rd 250 (p^i) T
 hl:H.length=lh
 h1:cf H (lh-1)=1
 fac:Cg (p^i) (cf f) ((cf G:Pz)*cf H)
 bez:Cg (p^i) ((cf S:Pz)*cf G+(cf T:Pz)*cf H) (pc 1)
 gp:Cg p (cf G) (cf g0)
 hp:Cg p (cf H) (cf h0)
 sl:S.length<=LS
def zjq{m:J}{T:N M}{K:wr}(d:2<=m)(b:Rd K m T)(hl:0<X H)(h1:cf H (X H-1)=1)(c:Cg m ((cf S:Pz)*cf G+(cf T:Pz)*cf H) (pc 1)):X T<=X S+X G+1:=by
 refine xbs λe=> ?_;have g:=YA b.can W;have hp:=c<|X T-1+(X H-1);rw[zI,zch W hl h1,kf (λj a=>zX a)<|λj a=>zX a,xco,b.mod]at hp;unfold pc at hp;rw[zA,xah]at hp;lia
theorem NS{k:K}(hi:1<=i)(a:cf f (X f-1)%p≠0)(b:0<X f):X (vE f<|p^i)=X f:=by
 refine xcG (XD _ _)<|xbs λhc=>a ?_;have h:cf (vE f<|p^i) (X f-1)=0:=zX W;rw[uG]at h;have hd:p∣p^i:=by
  have:=iF (p:=p) hi;grind
 rw[<-xcC _ hd,h,xah]
def TrI.lens{T:N M}(h:TrI p k f g0 h0 lh LS i G H S T)(hp:wh p=I)(b:cf f (X f-1)%p≠0)(hc:0<X f)(d:0<lh):
 X f=X G+(lh-1)/\0<X G/\cf G (X G-1)=cf f (X f-1)%p^i/\X T<=LS+X G+1:=by
 have a:=nQ hp h.i1;have hl:=h.hl;have h1:=h.h1;rw[<-hl]at h1;have hd:=NS (k:=k) h.i1 b hc;have⟨e1,e,c⟩:=zbH a h.rG.rd (DF λj=>by rw[uG,xaE]) W W h1<|(Xg _ _).trans h.fac;have g:=zjq a h.rT W h1 h.bez;have:=h.sl;rw[hd,uG]at c;lia
def zjx(h:j<=i+i):p^j∣p^i*p^i:=by rw[<-Int.pow_add];exact iF h
theorem kT(h:1<=i:=by lia):p∣p^i:=by
 have:=iF (p:=p) h;grind
def TrI.step{T:N M}(h:TrI p k f g0 h0 lh LS i G H S T)(hp:wh p=I)(w:k<=1000)(o:yI 250 f)(hc:cf f (X f-1)%p≠0)(hi:0<X f)(q:0<lh)(y:i<k)(z:X f<=300)(A:LS<=4500)(B:lh<=LS)(r:3000000<=fu):
 ∃b c e l,kt fu [G,H,S,T] f (ya<|p^min (2*i) k)=Z [b,c,e,l]/\TrI p k f g0 h0 lh LS (min (2*i) k) b c e l:=by
 have⟨j,t⟩:∃j,j=min (2*i) k:=⟨_,O⟩;have hn:=h.i1;have⟨l1,C,D,E⟩:=h.lens hp hc hi q;have a:=sO hp (k:=j);have hd:=nQ hp (k:=j);have hl:=h.hl;have h1:=h.h1;have F:=h.sl;rw[<-hl]at h1;have n:=iK (fu:=fu) (K:=250) (W:=5000) o h.rG.ok h.rH.ok h.rS.ok h.rT.ok g9 g9 g9 g9 g9 (IR _) iI iI (yo<|p^j) a.len (by rw[zn];exact hd) g9 h1 r;rw[zn]at n;rw[<-t];refine⟨_,_,_,_,n,?_⟩;have d1:p^j∣p^i*p^i:=zjx g9;have d2:p^i∣p^j:=iF;have d3:p∣p^i:=kT hn;have⟨f1,f2,f3⟩:=zmY d1 d2 h.fac h.bez g9 h1;have⟨t1,t2⟩:=zcD (f:=f) (g:=G) (s:=S) hd g9 h1;have u:Cg (p^i) ((cf S:Pz)*cf (puG f G H S T<|p^j)+(cf T:Pz)*cf (FX f G H S<|p^j)) (pc 1):=((Cg.rfl.mul f2).add<|Cg.rfl.mul f3).trans h.bez;have v:=zmK d1 d2 u g9 (by rw[t1];exact t2);have hv:=Hg (x:=yW S<|mz (puG f G H S T<|p^j) (FX f G H S<|p^j) S T<|p^j) (d:=FX f G H S<|p^j) (m:=p^j) g9 (by rw[t1];exact t2);refine⟨g9,g9,gI a g9 _,gI a g9 _,gI a g9 _,gI a g9 _,g9,by rw[hl]at t2;exact t2,f1,v,(f2.down d3).trans h.gp,(f3.down d3).trans h.hp,?_⟩;have e1:=XD (JC S<|BZ (yW S<|mz (puG f G H S T<|p^j) (FX f G H S<|p^j) S T<|p^j) (FX f G H S<|p^j)<|p^j)<|p^j;have J:=U2 S<|BZ (yW S<|mz (puG f G H S T<|p^j) (FX f G H S<|p^j) S T<|p^j) (FX f G H S<|p^j)<|p^j;show(vE _ _).length<=LS;lia
theorem ze6(hp:wh p=I)(h1:1<=j)(a:j<=1000)(b:3000000<fu):qN fu p (j:J)=Z (ya<|p^j,0):=by grind [rK,uO]
def zd7{T:N M}(h:TrI p k f g0 h0 lh LS 1 G H S T)(hp:wh p=I)(g:k<=1000)(l:yI 250 f)(m:cf f (X f-1)%p≠0)(hc:0<X f)(hd:0<lh)(n:X f<=300)(o:LS<=4500)(hi:lh<=LS)(q:3000000<fu):
 ∃a b c d,zg (Yo fu f p (k:J)) fu (1,[G,H,S,T])=Z [a,b,c,d]/\TrI p k f g0 h0 lh LS k a b c d:=by
 obtain⟨r,e1,a,b,c,d,rfl,e⟩:=yr (f:=Yo fu f p (k:J)) (λs:J×N (N M)=>∃(i:K) (G H S T:N M),s=((i:J),[G,H,S,T])/\TrI p k f g0 h0 lh LS i G H S T) (λs=>k-s.1.toNat) (λr=>∃G H S T,r=[G,H,S,T]/\TrI p k f g0 h0 lh LS k G H S T) (by
  rintro s L ⟨i,G,H,S,T,rfl,h⟩ t;unfold Yo;simp only;have w:=h.i1;have hl:=h.ik;by_cases u:i<k
  ·have⟨a,b,c,d,e1,e⟩:=h.step (fu:=fu) hp g l m hc hd u n o hi W;have v:min (2*(i:J)) (k:J)=((min (2*i) k:K):J):=W
   rw[zP,zb,Q,v,Y<|ze6 hp W W q];simp only;rw[Y e1];exact t _ ⟨_,_,_,_,_,O,e⟩ (by show k-((min (2*i) k:K):J).toNat<k-(i:J).toNat;lia)
  ·rw[zA];obtain rfl:i=k:=W
   exact⟨_,O,_,_,_,_,O,h⟩) fu (1,[G,H,S,T]) ⟨1,_,_,_,_,O,h⟩ (by show k-1<fu;lia)
 exact⟨_,_,_,_,e1,e⟩
end
section
variable{p:wl}{l:xS wl}{g:Pz}
def Rj{a b:N J}(hp:2<=p)(f:0<X a)(hd:ci a (X a-1)=1)(h:0<X b)(d:ci b (X b-1)=1):X (yH p a b)=X a+X b-1/\ci (yH p a b) (X a+X b-1-1)=1:=by
 have e:(ci a*ci b) (X a-1+(X b-1))=1:=by
  rw[vK,wM (i:=X a-1) λi hi=> ?_,zP,(W:X a-1+(X b-1)-(X a-1)=X b-1),d,hd]
  ·rfl
  ·by_cases hc:i<X a-1
   ·rw[zU (l:=b) W,xaC]
   ·rw[zU (l:=a) W,xaP]
 have h1:ci (yH p a b) (X a+X b-1-1)=1:=by
  rw[aB,(W:X a+X b-1-1=X a-1+(X b-1)),e];exact xaD iI W
 refine⟨xcG ((w5 W a b).nl.le λk o=> ?_)<|xbs λq=> ?_,h1⟩
 ·rw[aB,kf (n:=X a) (m:=X b) (λj c=>zU c)<|λj c=>zU c,xah]
 ·rw[zU W]at h1;cases h1
def Pc{p:J}(hp:2<=p):∀(fs:N (N J)) {t:N J},0<X t->ci t (X t-1)=1->(∀f∈fs,SW p f)->0<X (fs.foldl (yH p) t)/\ci (fs.foldl (yH p) t) (X (fs.foldl (yH p) t)-1)=1
 |[],_,h0,h1,_=>⟨h0,h1⟩
 |f::r,t,h0,h1,h=>by
  have a:=h f<|FS;have⟨e1,b⟩:=Rj hp h0 h1 (show 0<X f by have:=a.2.1;lia) a.2.2;have:=a.2.1;exact Pc hp r W (by rw[e1];exact b) λg c=>h g<|UV _ c
def zdm(hp:2<=p){fs:N (N J)}(h:∀f∈fs,SW p f):0<X (QH p fs)/\ci (QH p fs) (X (QH p fs)-1)=1:=Pc hp fs iI O h
def IA(h:Nl l):X (uf l)=X l:=by
 unfold uf;rw[xv];exact K2 (IR _) (λk h1 a=>by lia)<|h.imp id id
def pY(h:Fp p l)(a:p<=65521):Rd 250 (p^1) (uf l):=by
 refine⟨(PO<|h.rl a).mono iI,?_⟩;rw[xbr,xbI,xcv];unfold vE;rw[show(λj=>cf (uf l) j%p)=cf (uf l)from qR λj=>by rw[kn,h.mod]];exact O6 _ _
def qB.congr{f f' a:Pz}(h:qB p f g)(b:Cg p f f')(c:Cg p g a):qB p f' a:=by
 have⟨s,t,d,z2,h⟩:=h;exact⟨s,t,d,z2,((Cg.rfl.mul b.symm).add<|Cg.rfl.mul c.symm).trans h⟩
theorem IK{A B:N (N J)}(h:∀a∈A,∀b∈B,qB p (ci a)<|ci b):qB p (prZ<|A.map ci) (prZ<|B.map ci):=by grind [Fs.ci,qB.symm,qB.prZ,Fs.prZ]
def zh6{c:J}(hp:wh p=I)(h0:0<c)(h1:c<p):qB p (pc c) g:=by
 have⟨x,e1,b,d,a⟩:=Kq hp h0 h1<|IR _;refine⟨pc x,pc 0,Fs.pc _,Fs.pc _,?_⟩;rw[zQ,kH];intro k;rw[zI,zH,xbF];unfold pc;split
 ·rw[a];exact(xaD iI W).symm
 ·rfl
def Db{α β:Type}(R:α->β->Prop):N α->N β->Prop
 |[],[]=>Z5
 |a::r,b::s=>R a b/\Db R r s
 |_,_=>V3
def Db.append{α β:Type}{R:α->β->Prop}:∀{a:N α}{b:N β}{c:N α}{d:N β},Db R a b->Db R c d->Db R (a++c) (b++d)
 |[],[],_,_,_,h=>h
 |_::_,_::_,_,_,h,e=>⟨h.1,Db.append h.2 e⟩
def Db.len{α β:Type}{R:α->β->Prop}:∀{a:N α}{b:N β},Db R a b->X a=X b
 |[],[],_=>rfl
 |_::_,_::_,h=>by rw[xaw,xaw,h.2.len]
structure Up(p:J)(k:K)(u:N M)(g:N J):Prop where
 rd:Rd 250 (p^k) u
 len:u.length=g.length
 top:cf u (u.length-1)=1
 cg:Cg p (cf u) (ci g)
def zdE{f:N M}(h:0<X f):f.drop (X f-1)=[f.getD (X f-1) (wL,[])]:=HF
def zes{z:M}(hp:0<p)(h0:zv z%p≠0):qU p [z]=[zv z%p]:=by
 have b:=yn (a:=zv z) hp;refine(WY hp [z]).ext (uB W b.2) ((gU p [z]).trans λk=> ?_)
 cases k with
 |zero=>show zv z%p=(zv z%p)%p;rw[xaE]
 |succ k=>skip;rfl
end
def zjP{k:K}{p:J}(hp:wh p=I)(R:1<=k)(hk:k<=1000):∀(n:K) {fu:K}{f:N Zr}{fs:N (N J)},X fs=n->1<=n->n<=66->3000002+n<=fu->
 Rd 250 (p^k) f->0<X f->X f<=66->cf f (X f-1)%p≠0->(∀g∈fs,SW p g/\X g<=66)->fs.Pairwise (λa b=>qB p (ci a)<|ci b)->Cg p (cf f) (pc (cf f<|X f-1)*prZ (fs.map ci))->
 ∃us,qq fu f fs p (k:J) (ya<|p^k)=Z us/\Db (Up p k) us fs/\Cg (p^k) (cf f) (pc (cf f<|X f-1)*prZ (us.map λu=>(cf u:Pz))):=by
 intro n
 induction n using xdc with
 |_ n ih=>
 intro fu f fs hn h7 h8 h9 U D h' v hC Kc V;have⟨E,o⟩:=zo hp;obtain⟨F,rfl⟩:∃F,fu=F+1:=⟨fu-1,W⟩;have hf:3000000<F:=W
 have a5:=nQ hp R;have hH:p∣p^k:=kT R;unfold qq;by_cases h1:n=1
 ·obtain⟨g,rfl⟩:∃g,fs=[g]:=by
   match fs,hn with
   |[g],_=>exact⟨g,O⟩
   |[],h=>simp at h;lia
   |_::_::_,h=>simp at h;lia
  have⟨l,a9⟩:=hC g iP;have⟨w,u,e1,e2,e3,e4,e5,e6⟩:=AN (fu:=F) hp R hk U D W v W;have hu:Cg (p^k) (pc (cf f<|X f-1)*pc u) (pc 1):=λj=>by
   rw[kH,xbg];unfold pc;split
   ·rw[e5];exact(xaD iI W).symm
   ·rfl
  have hD:Cg (p^k) (cf f) (pc (cf f<|X f-1)*cf w):=by
   refine Cg.symm<|(Cg.rfl.mul e6).trans ?_;rw[<-zd];exact(hu.mul Cg.rfl).trans<|Cg.of<|zC _
  have hw:∀x:Pz,prZ [x]=x:=λx=>yf x;have hE:Cg p (cf w) (ci g):=by
   refine(e6.down hH).trans ?_;have y:Cg p (pc u*cf f) (pc u*(pc (cf f<|X f-1)*ci g)):=Cg.rfl.mul<|V.trans<|Cg.of (by show _*prZ [ci g]=_;rw[hw]);refine y.trans ?_;rw[<-zd,zk<|pc u];exact((hu.down hH).mul Cg.rfl).trans<|Cg.of<|zC _
  have hP:X w=X g:=by
   have b0:=l.fp (p:=p) W;refine xcG (xbs λhQ=> ?_)<|xbs λhQ=> ?_
   ·have y:=hE<|X w-1;rw[e4,zU W,xah,xaD iI W]at y;cases y
   ·have y:=hE<|X g-1;rw[l.2.2,zX W,xah,xaD iI W]at y;cases y
  rw[iq iP,Y e1];refine⟨[w],O,⟨⟨e2,hP,e4,hE⟩,wR⟩,?_⟩;show Cg _ _ (_*prZ [(cf w:Pz)]);rw[hw];exact hD
 ·have⟨e,hR⟩:∃h,h=n/2:=⟨_,O⟩;have⟨c,hc⟩:∃c,c=cf f (X f-1):=⟨_,O⟩;have h6:X fs<=66:=W
  have hy:fs=fs.take e++fs.drop e:=(xbA e fs).symm;have hS:X (fs.take e)=e:=by rw[xas];lia
  have hT:X (fs.drop e)=n-e:=by rw[xcf];lia
  have hs:∀g∈fs.take e,SW p g/\X g<=66:=λg l=>hC g<|xel l;have hl:∀g∈fs.drop e,SW p g/\X g<=66:=λg l=>hC g<|xfH l;rw[hy]at Kc V;have⟨a0,a1,L⟩:=xdi.1 Kc;rw[xba,w9,<-hc]at V;have hJ:=yn (a:=c) (p:=p);rw[<-hc]at v;have hU:∀g∈fs.take e,Fp p g:=λg l=>(hs g l).1.fp W;have hV:∀g∈fs.drop e,Fp p g:=λg l=>(hl g l).1.fp W;have A:=rE p<|fs.take e;have B:=rE p<|fs.drop e;have q:=zdm (p:=p) E (fs:=fs.drop e) λg l=>(hl g l).1;have a3:=c9 (p:=p) (fs:=fs.take e) (M:=66) λg l=>(hs g l).2;have a4:=c9 (p:=p) (fs:=fs.drop e) (M:=66) λg l=>(hl g l).2;have b1:X (fs.take e)*66<=66*66:=xan _ W;have b2:X (fs.drop e)*66<=66*66:=xan _ W;have hK:=uB (p:=p) (x:=c%p) W hJ.2;have⟨g0,hG⟩:∃g0,g0=yH p (QH p<|fs.take e) [c%p]:=⟨_,O⟩;have⟨h0,ht⟩:∃h0,h0=QH p (fs.drop e):=⟨_,O⟩;have hd:Fp p g0:=by rw[hG];exact w5 W _ _
  have he:Fp p h0:=by rw[ht];exact ed E _
  have hA:Cg p (pc<|c%p) (pc c):=λj=>by unfold pc;split;exact xaE _ _;rfl
  have hm:Cg p (ci g0) (prZ ((fs.take e).map ci)*pc c):=by
   rw[hG];refine(qT p _ _).trans ?_;rw[wX];exact A.mul hA
  have ho:Cg p (ci h0) (prZ<|(fs.drop e).map ci):=by rw[ht];exact B
  rw[<-ht]at q;have hB:Cg p (cf f) (ci g0*ci h0):=by
   refine V.trans<|Cg.trans (Cg.of ?_) (hm.mul ho).symm;simp only[zd,zk,zB]
  have hL:qB p (ci g0) (ci h0):=by
   refine qB.congr (qB.mul (Fs.pc _) (Fs.prZ λx hx=>by obtain⟨a,_,rfl⟩:=xap.1 hx;exact Fs.ci a) (Fs.prZ λx hx=>by obtain⟨a,_,rfl⟩:=xap.1 hx;exact Fs.ci a) (IK L)<|zh6 hp (W:0<c%p) hJ.2) ?_ ho.symm;exact(Cg.rfl.mul hA).trans hm.symm
  have hi:p^1=p:=by rw[xbr,xbI,xcv]
  have rg:=pY hd o;have rh:=pY he o;have lz:X (uf h0)=X h0:=IA he.nl;have P:X (uf g0)=X g0:=IA hd.nl;have hM:cf (uf h0) (X (uf h0)-1)=1:=by rw[lz,kn];exact q.2
  have hW:X (vE f p)=X f:=by
   have:=NS (k:=k) (i:=1) (p:=p) (f:=f) (IR _) (by rw[<-hc];exact v) D;rw[hi]at this;exact this
  have⟨d1,d2,d3⟩:=zbH (m:=p) (f:=vE f p) (g:=uf g0) (h:=uf h0) E (by have:=rg.rd;rw[hi]at this;exact this) (DF λj=>by rw[uG,xaE]) W W hM ((Xg f p).trans<|by rw[kn,kn];exact hB);rw[hW,lz,P]at d1;rw[P]at d2;have⟨d,s,t,z1,C,z3⟩:=uI (fu:=F) hp hd he W W W;have hN:=zkj E C z3 hL;have b3:max (X g0) (X h0)*(max (X g0) (X h0)+1)<=66*67:=xbM W W;have b4:=C.sl;have c0:=C.tl;have rs:=pY C.sf o;have rt:=pY C.tf o;have hI:TrI p k f (uf g0) (uf h0) (X h0) 4430 1 (uf g0) (uf h0) (uf s) (uf t):=by
   refine⟨IR _,R,rg,rh,rs,rt,lz,by rw[<-lz];exact hM,?_,?_,Cg.rfl,Cg.rfl,by have:=Oy s;lia⟩
   ·rw[hi,kn,kn];exact hB
   ·rw[hi,kn,kn,kn,kn];exact hN
  have⟨G,H,S,T,l1,r⟩:=zd7 (fu:=F) hI hp hk U.ok (by rw[<-hc];exact v) D W W iI W hf;have⟨m1,m2,m3,m4⟩:=r.lens hp (by rw[<-hc];exact v) D W;have hX:c%p^k=c:=by have:=U.mod<|X f-1;rw[<-hc]at this;exact this
  rw[<-hc,hX]at m3;have hY:=r.hl;have hv:=r.h1;rw[<-hY]at hv;have hZ:Cg p (cf G) (pc c*prZ ((fs.take e).map ci)):=by
   refine r.gp.trans ?_;rw[kn,zk];exact hm
  have h3:Cg p (cf H) (pc 1*prZ ((fs.drop e).map ci)):=by
   refine r.hp.trans ?_;rw[kn,zC];exact ho
  have⟨us,u1,u2,u3⟩:=ih e W (fu:=F) (f:=G) (fs:=fs.take e) hS W W W r.rG m2 W (by rw[m3];exact v) hs a0 (by rw[m3];exact hZ);have⟨vs,v1,v2,v3⟩:=ih (n-e) W (fu:=F) (f:=H) (fs:=fs.drop e) hT W W W r.rH W W (by rw[hv,xaD iI W];decide) hl a1 (by rw[hv];exact h3);rw[m3]at u3;rw[hv]at v3;have c1:=u2.len;have c2:=v2.len;refine⟨us++vs,?_,by rw[hy];exact u2.append v2,?_⟩
  ·have ez:[f.getD (X f-1) (wL,[])].length=1:=O;have hO:yI 250 [f.getD (X f-1) (wL,[])]:=λz hz=>by
    obtain rfl:=xad.1 hz;exact U.ok.get _
   have h4:qU p [f.getD (X f-1) (wL,[])]=[c%p]:=by
    rw[hc];exact zes W<|by rw[YI,<-hc];exact v
   have h5:=wZ p (QH p<|fs.take e) [c%p];simp only[xaw,xbR]at h5;have a2:xcw (X fs:J) 2=(e:J):=by rw[hn,hR];rfl
   rw[zA,xr iI,a2,zb,(W:(X f:J)-1=((X f-1:K):J)),zb,yJ,yL,Q,zdE D,Y (uW hO iI W o iP),h4];simp only;rw[yJ,yL,Q,Y (jO hp hU (λg l=>(hs g l).2) W iI),Y (u4 hp (ed E _) hK W iP),<-hG];simp only;rw[yJ,yL,Q,Y (jO hp hV (λg l=>(hl g l).2) W iI),<-ht,Y z1];simp only;rw[Y (ud (hd.rl o) W W),Y (ud (he.rl o) W W),Y (ud (C.sf.rl o) W W),Y (ud (C.tf.rl o) W W),Y l1];rw[CR (i:=0) iI,yJ,yL,Q,show[G,H,S,T].getD (Int.toNat 0) []=G from O,Y u1,CR (i:=1) iI,yJ,yL,Q,show[G,H,S,T].getD (Int.toNat 1) []=H from O,Y v1,yL,Q]
  ·rw[<-hc,xba,w9];refine r.fac.trans<|(u3.mul v3).trans<|Cg.of ?_;rw[zC,zd]
section
variable{a:xS Zr}{p:wl}{fu:wr}
def zZ(a:N M):N M:=xJ (X a)<|cf a
def kS(a:N M)(k:K):cf (zZ a) k=cf a k:=jz (λj b=>zX b) k
def qg(a:N M):X (zZ a)<=X a:=by unfold zZ;rw[xv];exact vT _ _
def Ua{k:K}(h:yI k a):yI k (zZ a):=yE h.bz
structure zoI(p:J)(k:K)(a:N M)(fs:N (N J))(us:N (N M)):Prop where
 hp:wh p=I
 k1:1<=k
 k2:k<=1000
 rt:fW p (zZ a) fs
 up:Db (Up p k) us fs
 cg:fs≠[]->Cg (p^k) (cf a) (pc (cf (zZ a)<|(zZ a).length-1)*prZ (us.map λu=>(cf u:Pz)))
def fW.mem{fs:N (N J)}(h:fW p a fs):∀g∈fs,SW p g/\X g<=X a:=λg b=>by
 obtain⟨j,c,rfl⟩:=xdK.1 b;have:=h.pl j c;simp_all
def fW.pw{fs:N (N J)}(h:fW p a fs):fs.Pairwise (λa b=>qB p (ci a)<|ci b):=by
 refine xcT.2 λi j hi c d=> ?_;have:=h.cp j i c d;rw[xaa,xaa,xak hi,xak c]at this;exact this.symm
def sM{k:J}{fs:N (N J)}(h:yI 250 a)(w:X a<=1000)(x:3000200<=fu):
 ∃us e,jD fu a fs p k=Z (us,e)/\(e=0->zoI p k.toNat a fs us/\1<=k)/\(e≠0->(rK p k).2=0\/e=1):=by
 unfold jD;have y:=qg a;have l:=Ua h;rw[Y<|uO W];by_cases m:wh p=I/\1<=k/\k<=1000
 ·have⟨hp,h1,z⟩:=m;obtain⟨K,rfl⟩:=xaz (W:0<=k);have hc:rK p (K:J)=(ya<|p^K,0):=by
   unfold rK;simp_all
  rw[hc];simp only;rw[Y (zM h iI W W),iq wR,show xJ (X a) (cf a)=zZ a from O];by_cases A:65<X (zZ a)
  ·rw[zP];exact⟨_,_,O,λe=>wS e iI,λ_=> .inl wR⟩
  ·rw[zA];have⟨b,b1,b2⟩:=oE (fu:=fu) (fs:=fs) hp l iI W W;rw[Y b1]
   cases b with
   |false=>
    rw[iq iI];exact⟨_,_,O,λe=>wS e iI,λ_=> .inl wR⟩
   |true=>
    have c:=b2 O;rw[ir iI];by_cases h0:X fs=0
    ·obtain rfl:fs=[]:=xbv.1 h0;rw[iq (show((X ([]:N (N J)):wr):J)=0 from O)];exact⟨_,_,O,λ_=>⟨⟨hp,W,W,c,wR,λe=>wS O e⟩,h1⟩,λe=>wS O e⟩
    ·rw[zA];have⟨B,C⟩:=zo hp;have hl:=sO hp (k:=K);have D:=nQ hp (k:=K);have o:b7 (ya<|p^K):=hl.okS iI;have⟨f,d⟩:∃f,f=vE (zZ a) (p^K):=⟨_,O⟩;have q:=c.a0;have hd:cf (zZ a) (X (zZ a)-1)%p≠0:=by
      have h3:=(WY (p:=p) W<|zZ a).nl;unfold Nl at h3;rw[c.al]at h3;obtain h3|h3:=h3
      ·exact wS h3 q
      ·rw[KQ]at h3;exact h3
     have r:X f=X (zZ a):=by rw[d];exact NS (k:=K) W hd W
     have i:cf f (X f-1)=cf (zZ a) (X (zZ a)-1)%p^K:=by rw[r,d,uG]
     have hi:p∣p^K:=kT;have s:cf f (X f-1)%p≠0:=by rw[i,xcC _ hi];exact hd
     have hn:Cg p (cf f) (pc (cf f<|X f-1)*prZ (fs.map ci)):=by
      have e1:Cg p (cf f) (cf<|zZ a):=by rw[d];exact(Xg _ _).down hi
      refine e1.trans<|(gU p<|zZ a).symm.trans ?_;rw[<-c.pr];refine(qT p _ _).trans ?_;rw[wX,zk];refine Cg.mul (λj=> ?_)<|rE p fs;rw[KQ,i];unfold pc;split
      ·rw[xcC _ hi,xaE]
      ·rfl
     have⟨us,t,u,v⟩:=zjP (k:=K) hp W W (X fs) (fu:=fu) (f:=f) (fs:=fs) O W (by have:=c.fl;lia) (by have:=c.fl;lia) (by rw[d];exact gI hl W _) W W s (λg n=>⟨(c.mem g n).1,by have:=(c.mem g n).2;lia⟩) c.pw hn;rw[Y (Xi l iI o<|by rw[zn];lia),zn,<-d,Y t];refine⟨_,_,O,λ_=>⟨⟨hp,W,W,c,u,λ_=> ?_⟩,h1⟩,λe=>wS O e⟩;rw[xaN];have e1:Cg (p^K) (cf a) (cf f):=by
      rw[d];exact Cg.trans (Cg.of<|funext λj=>(kS a j).symm) (Xg _ _).symm
     refine e1.trans<|v.trans<|Cg.mul (λj=> ?_) Cg.rfl;rw[i];unfold pc;split
     ·rw[xaE]
     ·rfl
 ·have hc:rK p k=((wL,[]),1):=by unfold rK;rw[ir m]
  rw[hc];simp only;rw[Y (zM h iI W W),ir iI];exact⟨_,_,O,λe=>wS e iI,λ_=> .inr O⟩
theorem Ml{a b:N J}(h:a=b)(hl:X a<=1000000)(d:3000000<=fu):ZK fu a b=Z I:=by
 subst h;unfold ZK;rw[iq O,Y (v:=.inl ())];refine zw (λi:J=>∃j:K,i=j/\j<=X a) (λi=>X a-i.toNat) _ ?_ _ _ ⟨0,O,xac _⟩ (by show X a-0<fu;lia);rintro i L ⟨j,rfl,e⟩ c;unfold dR;by_cases h1:j<X a
 ·rw[zP,zp h1,Q,zp h1,Q,iq O,zb];exact c _ ⟨j+1,O,W⟩ W
 ·grind
end
def Mn(A:Pz)(d:K):Prop:=A d=1/\∀k,d<k->A k=0
def Mn.top{A x:Pz}{d n:K}(h:Mn A d)(a:∀k,n<k->x k=0):(x*A) (n+d)=x n:=by
 rw[vK,wM (i:=n) λi hi=> ?_,zP,(W:n+d-n=d),h.1,xck];by_cases hc:i<n
 ·rw[h.2 _ W,xaC]
 ·grind
def Mn.zero{p:J}(hp:2<=p){A x:Pz}{d:K}(h:Mn A d)(j:Fs x)(l:∀k,d<=k->(x*A) k%p=0):Cg p x (pc 0):=by
 have⟨n,hn⟩:=j;have a:∀c,c<=n->∀k,n-c<=k->x k%p=0:=by
  intro c
  induction c with
  |zero=>intro _ k g;rw[hn k W,xah]
  |succ c m=>
   intro hc k g;by_cases h1:n-c<=k
   ·grind
   ·obtain rfl:k=n-(c+1):=W
    have e:Cg p x (λi=>if i<=n-(c+1)then x i else 0):=λi=>by
     by_cases hi:i<=n-(c+1)
     ·simp_all
     ·show _=(if i<=n-(c+1)then x i else 0)%p;rw[ir hi,xah];grind
    have b:=(e.mul<|Cg.rfl (f:=A))<|n-(c+1)+d;rw[l _ W,h.top<|λi hi=>zA]at b;rw[iq<|IR _]at b;exact b.symm
 intro k;rw[zH,xah];by_cases g:k<n
 ·exact a n (IR _) k W
 ·rw[hn k W,xah]
def PB{k m n:J}(h:Int.gcd k m=1)(hd:k∣m*n):k∣n:=
 xcp.1 (Nat.Coprime.dvd_of_dvd_mul_left h<|by rw[<-xcK];exact xcp.2 hd)
def pdv(n:J)(f:Pz):Pz:=λk=>f k/n
def L8{n:J}{f:Pz}(h:Cg n f (pc 0)):pc n*pdv n f=f:=by
 funext k;rw[zS];exact Int.mul_ediv_cancel'<|h.dvd k
def NA{n:J}{f:Pz}(h:Fs f):Fs (pdv n f):=by
 have⟨c,hc⟩:=h;exact⟨c,λk a=>by show f k/n=0;rw[hc k a,xef]⟩
def Fs.subt{f g:Pz}(c:Fs f)(d:Fs g):Fs (f-g):=by
 have⟨a,e⟩:=c;have⟨b,h⟩:=d;exact⟨a+b,λk i=>by rw[yY,e k W,h k W];rfl⟩
def zdL{p n:J}(hp:2<=p)(hn:n≠0)(E:p∣n){A B c g:Pz}{d:K}(i:Mn A d)(o:Mn c d)(F:Fs A)(j:Fs c)(G:Fs B)(l:Fs g)(hc:qB p A B)(h1:Cg n A c)(H:Cg n B g)(h:Cg (n*p) (A*B) (c*g)):
 Cg (n*p) A c/\Cg (n*p) B g:=by
 have⟨a,q⟩:∃a,a=pdv n (c-A):=⟨_,O⟩;have⟨b,r⟩:∃b,b=pdv n (g-B):=⟨_,O⟩;have u:pc n*a=c-A:=by rw[q];exact L8<|Cg.iff_sub.1 h1.symm
 have v:pc n*b=g-B:=by rw[r];exact L8<|Cg.iff_sub.1 H.symm
 have L:Fs a:=by rw[q];exact NA<|j.subt F
 have w:Fs b:=by rw[r];exact NA<|l.subt G
 have x:∀k,c k=A k+n*a k:=λk=>by
  have:=Wr u k;rw[zS,yY]at this;lia
 have bk:∀k,g k=B k+n*b k:=λk=>by
  have:=Wr v k;rw[zS,yY]at this;lia
 have hl:c=A+pc n*a:=qR λk=>by rw[zI,zS,x]
 have M:g=B+pc n*b:=qR λk=>by rw[zI,zS,bk]
 have y:Cg p (a*B+b*A) (pc 0):=by
  refine Cg.of_dvd λk=> ?_;have e:c*g-A*B=pc n*(a*B+b*A+pc n*(a*b)):=by
   rw[hl,M];simp only[xg,ym,zd,zB,zk];funext k;simp only[zI,yY];lia
  have hd:=(Cg.iff_sub.1 h.symm).dvd k;rw[e,zS]at hd;have z:p∣(a*B+b*A+pc n*(a*b)) k:=(Int.mul_dvd_mul_iff_left hn).1 hd;rw[zI,zS]at z;exact(Int.dvd_add_left<|xbx E<|xcl _ _).1 z
 have⟨s,t,fs,N,P⟩:=hc;have Q:∀k,d<=k->a k=0:=λk C=>by
  have e:c k=A k:=by
   by_cases R:k=d
   ·rw[R,i.1,o.1]
   ·rw[i.2 k W,o.2 k W]
  have:=x k;have S:n*a k=0:=W
  exact(xeK.1 S).resolve_left hn
 have D:Cg p a ((s*a-t*b)*A):=by
  have e1:Cg p a (a*(s*A+t*B)):=by
   have:=(Cg.rfl (m:=p) (f:=a)).mul P.symm;rw[yf]at this;exact this
  refine e1.trans<|Cg.iff_sub.2 ?_;have e:a*(s*A+t*B)-(s*a-t*b)*A=t*(a*B+b*A):=by
   simp only[xg,ym,vL,qw,zd,zB,zk];funext k;simp only[zI,yY];lia
  rw[e];exact y.mul_zero_l t
 have T:=i.zero hp ((fs.mul L).subt<|N.mul w) λk C=>by rw[<-D k,Q k C,xah]
 have hi:Cg p a (pc 0):=D.trans<|T.mul_zero_r A;have U:Cg p (b*A) (pc 0):=by
  have e:b*A=a*B+b*A-a*B:=by
   funext k;simp only[zI,yY];lia
  rw[e];exact y.zero_sub<|hi.mul_zero_r B
 have V:Cg p b (pc 0):=i.zero hp w λk _=>by rw[U k,zH,xah]
 refine⟨Cg.symm<|Cg.iff_sub.2<|Cg.of_dvd λk=> ?_,Cg.symm<|Cg.iff_sub.2<|Cg.of_dvd λk=> ?_⟩
 ·rw[<-u,zS];exact Int.mul_dvd_mul_left n<|hi.dvd k
 ·rw[<-v,zS];exact Int.mul_dvd_mul_left n<|V.dvd k
def RL{p:J}(hp:2<=p){A B a e:Pz}{d:K}(f:Mn A d)(g:Mn a d)(i:Fs A)(b:Fs a)(l:Fs B)(c:Fs e)(hc:qB p A B)(h1:Cg p A a)(m:Cg p B e):∀j,Cg (p^j) (A*B) (a*e)->Cg (p^j) A a/\Cg (p^j) B e
 |0,_=>⟨λk=>by rw[xbI,Int.emod_one,Int.emod_one],λk=>by rw[xbI,Int.emod_one,Int.emod_one]⟩
 |1,_=>by grind
 |j+2,h=>by
  have⟨g1,n⟩:=RL hp f g i b l c hc h1 m (j+1)<|h.down<|iF;rw[xbr]at h⊢;exact zdL hp (Int.ne_of_gt<|Int.pow_pos W) (kT) f g i b l c hc g1 n h
def c8:K->K->K
 |_,0=>1
 |0,_+1=>0
 |n+1,k+1=>c8 n k+c8 n (k+1)
def Vx(n:K):c8 n 0=1:=by cases n<;>rfl
def JT(n k:K):c8 (n+1) (k+1)=c8 n k+c8 n (k+1):=O
def n8:∀n k,n<k->c8 n k=0
 |0,0,h=>wS h<|Nat.lt_irrefl _
 |0,k+1,_=>rfl
 |n+1,0,h=>wS h<|xbC _
 |n+1,k+1,h=>by rw[JT,n8 n k W,n8 n (k+1) W]
def DA:∀n,c8 n n=1
 |0=>rfl
 |n+1=>by rw[JT,DA n,n8 n (n+1) W]
def Mf:∀n k,(k+1)*c8 (n+1) (k+1)=(n+1)*c8 n k
 |0,0=>rfl
 |0,k+1=>by skip;rfl
 |n+1,0=>by
  have h:=Mf n 0;rw[Vx]at h;rw[JT,Vx];lia
 |n+1,k+1=>by
  have h1:=Mf n k;have a:=Mf n<|k+1;have b:=JT n k;rw[JT (n+1)<|k+1];grind
def zlE(a:J):∀n,(a+1)^n=yp (n+1) (λk=>(c8 n k:J)*a^k)
 |0=>by
  show _=(0:J)+((1:K):J)*a^0;simp_all
 |n+1=>by
  have e1:yp (n+1+1) (λk=>(c8 (n+1) k:J)*a^k)=1+(yp (n+1) (λk=>a*((c8 n k:J)*a^k))+yp (n+1) (λk=>(c8 n (k+1):J)*a^(k+1))):=by
   rw[Zc,<-Xt];congr 1
   ·show((c8 (n+1) 0:K):J)*a^0=1;rw[Vx,xbI];rfl
   ·exact yu λk _=>by rw[JT,xff,Int.add_mul,xbr,<-xct,<-xct,xbg (_*a^k) a,<-xct]
  have b:yp (n+1) (λk=>(c8 n k:J)*a^k)=1+yp (n+1) (λk=>(c8 n (k+1):J)*a^(k+1)):=by
   have h:yp (n+1+1) (λk=>(c8 n k:J)*a^k)=yp (n+1) (λk=>(c8 n k:J)*a^k):=by
    show yp (n+1) _+((c8 n (n+1):K):J)*a^(n+1)=_;rw[n8 n (n+1) W];lia
   rw[<-h,Zc];congr 1;rw[Vx,xbI];rfl
  rw[e1,uR,xbr,zlE a n,xfs,xck,xbg _ a];lia
def zbV{p x y:K}(hp:2<=p)(hn:jK p)(h0:0<x)(h1:x<p)(h:p∣x*y):p∣y:=
 Nat.Coprime.dvd_of_dvd_mul_left (gP hp hn h0 h1) h
def zcX{p k:K}(hp:2<=p)(hn:jK p)(h0:0<k:=by lia)(h1:k<p:=by lia):p∣c8 p k:=by
 obtain⟨q,rfl⟩:∃q,p=q+1:=⟨p-1,W⟩;obtain⟨j,rfl⟩:∃j,k=j+1:=⟨k-1,W⟩;exact zbV hp hn h0 h1 ⟨c8 q j,Mf q j⟩
def R5{p:K}(hp:2<=p)(hn:jK p)(a:J):(a+1)^p%p=(a^p+1)%p:=by
 obtain⟨q,rfl⟩:∃q,p=q+1:=⟨p-1,W⟩;rw[zlE];show(yp (q+1) _+((c8 (q+1) (q+1):K):J)*a^(q+1))%_=_;rw[DA,Zc];have hd:((q+1:K):J)∣yp q (λk=>(c8 (q+1) (k+1):J)*a^(k+1)):=e9 λk b=>
  xbx (xdN.2<|zcX hp hn) (xcl _ _)
 have⟨c,hc⟩:=hd;rw[Vx];have e:1*1+((q+1:K):J)*c+1*a^(q+1)=a^(q+1)+1+((q+1:K):J)*c:=W
 simp_all
def zbp{p:K}(hp:2<=p)(hn:jK p):∀a:K,(a:J)^p%p=a%p
 |0=>by rw[show((0:K):J)=0 from O,Int.zero_pow W]
 |a+1=>by rw[xff,show((1:K):J)=1 from O,R5 hp hn,xdx,zbp hp hn a,<-xdx]
def Dz{p:J}(hp:wh p=I){a:J}(h0:0<a)(h1:a<p):(a^(p-2).toNat*a)%p=1:=by
 have⟨f,g⟩:=zo hp;have hn:=Y0 hp;obtain⟨P,rfl⟩:=xaz (W:0<=p);obtain⟨A,rfl⟩:=xaz (W:0<=a);have b:2<=P:=W
 have h:=zbp b hn A;obtain⟨Q,rfl⟩:∃Q,P=Q+2:=⟨P-2,W⟩;rw[(W:(((Q+2:K):J)-2).toNat=Q)];have e:(A:J)^(Q+2)-A=A*((A:J)^Q*A-1):=by grind
 have hd:((Q+2:K):J)∣(A:J)*((A:J)^Q*A-1):=by
  rw[<-e];exact xaF<|xaI.1 h
 have c:Int.gcd ((Q+2:K):J) (A:J)=1:=gP b hn;have d:=PB c hd;have i:=xaI.2<|xav d;assumption
section
variable{fu:wr}{p a x:wl}{l b:xS wl}
theorem tS(c:3000000<=fu):wC fu p=Z (if wh p=I then 0 else 1):=by grind [wC,Y,Ug]
def wO(hp:wh p=I)(c:3000000<=fu:=by lia):wC fu p=Z 0:=by
 rw[tS c,iq hp]
theorem eh(h1:1<=p)(d:p<=65521)(e:K8 a):Vo fu a p=Z (a%p):=by
 unfold Vo;have f:=yn (a:=a) (p:=p);have c:=PK (a:=a) (p:=p);rw[zA,yL,Q];by_cases h:xbE a p<0
 ·rw[iq h]at c;rw[iq h,zb,c]
 ·grind
def eZ{n:K}{f:Pz}(h:x=f n):zl n f++[x]=zl (n+1) f:=by rw[h];exact zjO
def vi(h1:1<=p)(e:p<=65521)(g:Rl l)(hl:X l<=1000000)(j:3000000<=fu):yz fu l p=Z (pm p l):=by
 unfold yz;have hd:=vT (λk=>ci l k%p) (X l);rw[Y (v:=zl (X l)<|λk=>ci l k%p)]
 ·rw[Y (v:=((dg (λk=>ci l k%p) (X l):K):J))]
  ·rw[yJ,xr (by rw[zD];exact hd),Q,Cc hd];rfl
  ·rw[zD];refine zw (λt:J=>∃m:K,m<=X l/\t=(m:J)/\dg (λk=>ci l k%p) m=dg (λk=>ci l k%p) (X l)) (λt=>t.toNat) _ ?_ _ _ ⟨X l,IR _,O,O⟩ W;rintro t L ⟨m,n,rfl,c⟩ d;unfold cM
   cases m with
   |zero=>
    rw[zA,<-c];rfl
   |succ m=>
    rw[zP,(W:((m+1:K):J)-1=(m:J)),zb,zp (by rw[zD];lia),Q,qS];by_cases h0:ci l m%p=0
    ·rw[iq h0,zb];exact d _ ⟨m,W,O,by rw[<-UZ (f:=λk=>ci l k%p) h0,c]⟩ W
    ·rw[ir h0,<-c,JW (f:=λk=>ci l k%p) h0]
 ·refine zw (λs:N J×J=>∃i:K,i<=X l/\s=(zl i<|λk=>ci l k%p,(i:J))) (λs=>X l-s.2.toNat) _ ?_ _ _ ⟨0,xac _,O⟩ (by show X l-0<fu;lia);rintro s L ⟨i,hi,rfl⟩ d;unfold cr;simp only;by_cases h:i<X l
  ·rw[zP,zp h,Q,ZZ,Y<|eh h1 e<|g i,xr (by rw[zD];simp;lia),Q,eZ (f:=λk=>ci l k%p) O,zb];exact d _ ⟨i+1,W,O⟩ (by show X l-((i:J)+1).toNat<X l-(i:J).toNat;lia)
  ·rw[zA];obtain rfl:i=X l:=W
   rfl
def Xl(hp:wh p=I)(h:Fp p l)(hl:X l<=1000000:=by lia)(d:3000000<=fu:=by lia):yz fu l p=Z l:=by
 have⟨e,c⟩:=zo hp;rw[vi W c (h.rl c) hl d,h.pm]
def iX{j:K}:Jx fu l (j:J)=Z (ci l j):=by
 unfold Jx;by_cases h:j<X l
 ·rw[zP,zp h];rfl
 ·rw[zA,zU W]
def gu{a:N J}{c:J}(hp:wh p=I)(m:Rl a)(o:Rl b)(hc: -65521<=c/\c<=65521)(u:X a<=100000)(hl:X b<=100000)(e:3000000<=fu):YX fu a b c p=Z (vy p (pm p a) (pm p b) c):=by
 have⟨w,g⟩:=zo hp;unfold YX;rw[Y<|vi W g m W e,Y<|vi W g o W e];have d:=cz (p:=p) W a;have h:=cz (p:=p) W b;have l1:=Hz p a;have y:=Hz p b;generalize pm p a=a at*
 generalize pm p b=b at*
 have⟨n,hn⟩:∃n,n=max (X a) (X b):=⟨_,O⟩;have q:∀k,n<=k->ci a k+c*ci b k=0:=λk j=>by rw[zU W,zU W,xaC];rfl
 have hd:∀k,-4293001441<=c*ci b k/\c*ci b k<=4293001441:=λk=>by
  have b1:=h.nn k;have b2:=h.lt k;have h1:c*ci b k<=65521*ci b k:=xbn W b1;have z: -65521*ci b k<=c*ci b k:=xbn W b1;lia
 rw[Y (v:=zl n<|λk=>ci a k+c*ci b k)]
 ·have r:Rl (zl n<|λk=>ci a k+c*ci b k):=λk=>by
   rw[v8 q];have:=hd k;have:=d.nn k;have:=d.lt k;exact⟨W,W⟩
  rw[Y<|vi W g r (by rw[zD];lia) e];congr 1;unfold pm vy;rw[zD,<-hn];exact eG λk j=>by rw[jh j]
 ·refine zw (λs:N J×N J×N J×J=>∃i:K,i<=n/\s=(a,b,zl i<|λk=>ci a k+c*ci b k,(i:J))) (λs=>n-s.2.2.2.toNat) _ ?_ _ _ ⟨0,xac _,O⟩ (by show n-0<fu;lia);rintro s L ⟨i,hi,rfl⟩ t;unfold lD;simp only;rw[Q,(W:max (X a:J) (X b:J)=(n:J))];by_cases A:i<n
  ·have:=hd i;have:=d.nn i;have:=d.lt i;rw[zP,Y iX,Y iX,zb,zb,xr (by rw[zD];simp;lia),Q,eZ (f:=λk=>ci a k+c*ci b k) O,zb];exact t _ ⟨i+1,W,O⟩ (by show n-((i:J)+1).toNat<n-(i:J).toNat;lia)
  ·rw[zA];obtain rfl:i=n:=W
   rfl
def C1{a:N J}{c:J}(hp:wh p=I)(d:Fp p a)(e:Fp p b)(hc: -65521<=c/\c<=65521)(hd:X a<=100000)(g:X b<=100000)(h:3000000<=fu):YX fu a b c p=Z (vy p a b c):=by
 have⟨i,f⟩:=zo hp;rw[gu hp (d.rl f) (e.rl f) hc hd g h,d.pm,e.pm]
def ZH{a:N J}(hp:wh p=I)(f:Fp p a)(h:Fp p b)(hc:X a<=100000)(hd:X b<=100000)(q:3000000<=fu):xu fu a b p=Z (yH p a b):=by
 have⟨z,o⟩:=zo hp;unfold xu;have⟨n,hn⟩:∃n,n=X a+X b:=⟨_,O⟩;rw[Y<|Xl hp f,Y<|Xl hp h,zb,(W:(X a:J)+(X b:J)=(n:J)),yJ,yL,Q,Uo,Y (v:=zl n<|λk=>FE (ci a) (ci b) (X a) k%p)]
 ·have r:∀k,n<=k->FE (ci a) (ci b) (X a) k%p=0:=λk d=>by rw[oW<|λj c=>zU c,kf (λj c=>zU c)<|λj c=>zU c,xah]
  have t:Rl (zl n<|λk=>FE (ci a) (ci b) (X a) k%p):=λk=>by
   rw[v8 r];have:=yn (a:=FE (ci a) (ci b) (X a) k) (p:=p);exact⟨W,W⟩
  rw[Y<|vi W o t (by rw[zD];lia) q];congr 1;unfold pm yH;rw[zD,<-hn];exact eG λk d=>by rw[jh d,xaE,oW<|λj c=>zU c]
 ·refine zw (λs:J×N J×N J×N J=>∃i:K,i<=X a/\s=((i:J),a,b,zl n<|λk=>FE (ci a) (ci b) i k%p)) (λs=>X a-s.1.toNat) _ ?_ _ _ ⟨0,xac _,by rw[yF (g:=λk=>FE (ci a) (ci b) 0 k%p) λk _=>by show(0:J)=0%p;rw[xah]];rfl⟩ (by show X a-0<fu;lia);rintro s L ⟨i,hi,rfl⟩ u;unfold bM;simp only;by_cases w:i<X a
  ·rw[zP,Y (v:=(p,zl n<|λk=>FE (ci a) (ci b) (i+1) k%p))]
   ·simp only;rw[zb];exact u _ ⟨i+1,W,O⟩ (by show X a-((i:J)+1).toNat<X a-(i:J).toNat;lia)
   ·refine zw (λs:J×J×N J=>∃j:K,j<=X b/\s=(p,(j:J),zl n<|λk=>ov (ci a) (ci b) i j k%p)) (λs=>X b-s.2.1.toNat) _ ?_ _ _ ⟨0,xac _,by rw[yF λk _=>by rw[<-Hx]];rfl⟩ (by show X b-0<fu;lia);rintro s A ⟨j,c,rfl⟩ m;unfold b8;simp only;by_cases y:j<X b
    ·have e:(i:J)+(j:J)=((i+j:K):J):=W
     have r1:=yn (a:=ov (ci a) (ci b) i j<|i+j) (p:=p);have⟨r2,B⟩:=Zi o (f.nn i) (f.lt i) (h.nn j)<|h.lt j;rw[zP,e,zb,zb,zp (by rw[zD];lia),Q,qS,zp w,Q,zp y,Q,ZZ,ZZ,zb,zb,yL,Q,jQ,zp (by rw[zD];lia),Q,uC,zb];exact m _ ⟨j+1,W,by rw[yF λk _=>HV (ci a) (ci b) p i j k];rfl⟩ (by show X b-((j:J)+1).toNat<X b-(j:J).toNat;lia)
    ·rw[zA];obtain rfl:j=X b:=W
     rw[yF λk _=>by rw[Ib<|λk d=>zU d]]
  ·rw[zA];obtain rfl:i=X a:=W
   rfl
def TC(x p:J):∀n,(x%p)^n%p=x^n%p
 |0=>by rw[xbI,xbI]
 |n+1=>by rw[xbr,xbr,xbc,TC x p n,xaE,<-xbc]
def Dy{n:K}(hp:wh p=I)(r:0<=a)(t:a<p)(hn:n<=1000000)(u:3000000<=fu):KH fu a (n:J) p=Z (a^n%p,0):=by
 have⟨w,f⟩:=zo hp;unfold KH;rw[Y<|wO hp,iq O,zA,yL,Q,jQ,Y<|eh W f ⟨W,W⟩,Y (v:=a^n%p)];refine zw (λs:J×J×J=>∃(x y:J) (i:K),s=(x,y,(i:J))/\i<=n/\0<=x/\x<p/\0<=y/\y<p/\(x*y^i)%p=a^n%p) (λs=>s.2.2.toNat) _ ?_ _ _ ⟨1%p,a%p,n,O,IR _,(yn).1,(yn).2,(yn).1,(yn).2,?_⟩ (by show n<fu;lia)
 ·rintro s L ⟨x,y,i,rfl,hi,g,h,j,k,c⟩ m;unfold lL;simp only;have⟨q1,q2⟩:=Zi f g h j k;have⟨o,A⟩:=Zi f j k j k;have d:=yn (a:=y*y) (p:=p);have hc:=yn (a:=x*y) (p:=p);have hd:xcw (i:J) 2=((i/2:K):J):=by rw[xcO W];lia
  have q:∀z:J,(z*(y*y%p)^(i/2))%p=(z*(y^(2*(i/2))))%p:=λz=>by rw[xbc,TC,<-xbc,Int.pow_mul,show y^2=y*y from by rw[xbr,xbr,xbI,xcv]]
  by_cases h0:0<i
  ·rw[zP,xr iI,Q,jQ];by_cases h1:i%2=1
   ·rw[zP,zb,yL,Q,jQ q1,zb,yL,Q,jQ o,xr iI,hd,zb];refine m _ ⟨_,_,i/2,O,W,hc.1,hc.2,d.1,d.2,?_⟩ (by show((i/2:K):J).toNat<(i:J).toNat;lia);rw[q,xbc,xaE,<-xbc,<-c];congr 1;have e:i=2*(i/2)+1:=W
    conv=>rhs;rw[e]
    rw[xbr,xct,xbg y]
   ·rw[zA,zb,yL,Q,jQ o,xr iI,hd,zb];refine m _ ⟨_,_,i/2,O,W,g,h,d.1,d.2,?_⟩ (by show((i/2:K):J).toNat<(i:J).toNat;lia);rw[q,<-c];congr 3;lia
  ·rw[zA];obtain rfl:i=0:=W
   rw[xbI,xck,xaD g h]at c;rw[c]
 ·rw[xbc,xaE,TC,<-xbc,xcv]
def YP(hp:wh p=I)(h0:0<a)(h1:a<p)(g:3000000<=fu):∃x,vO fu a p=Z x/\0<x/\x<p/\(x*a)%p=1:=by
 have⟨h,i⟩:=zo hp;unfold vO;rw[zb];have⟨n,hn⟩:∃n:K,p-2=(n:J):=⟨(p-2).toNat,W⟩;have c:=Dz hp h0 h1;rw[hn,xaN]at c;rw[hn,Y<|Dy hp W h1 W g];simp only;have d:=yn (a:=a^n) (p:=p);by_cases e:p=2
 ·rw[iq e];refine⟨1,O,iI,W,?_⟩;rw[xcv,xaD W h1];lia
 ·rw[ir e];have f:(a^n%p*a)%p=1:=by rw[xbc,xaE,<-xbc];exact c
  exact⟨_,O,zcx d.1 f,d.2,f⟩
def zgI{y c:J}(x0:0<=x)(d:x<p)(e:0<=y)(f:y<p)(g:(x*c)%p=1)(h:(y*c)%p=1):x=y:=by
 have h1:(x*(y*c))%p=x:=by rw[xbc,h,xck,xaE,xaD x0 d]
 have i:(x*(y*c))%p=y:=by rw[show x*(y*c)=y*(x*c)by rw[<-xct,<-xct,xbg x y],xbc,g,xck,xaE,xaD e f]
 lia
end
section
variable{fu:wr}{p x:wl}{b a:xS wl}
theorem zdv{n:K}(hn:n<=1000000)(d:3000000<=fu):zg (Uw fu (n:J)) fu (p,x,[],0)=Z (p,x,zl n<|λ_=>0):=by
 refine zw (λs:J×J×N J×J=>∃i:K,i<=n/\s=(p,x,zl i<|λ_=>0,(i:J))) (λs=>n-s.2.2.2.toNat) _ ?_ _ _ ⟨0,xac _,O⟩ (by show n-0<fu;lia);rintro s L ⟨i,hi,rfl⟩ c;unfold Uw;simp only;by_cases h:i<n
 ·rw[zP,xr (by rw[zD];simp;lia),Q,eZ O,zb];exact c _ ⟨i+1,W,O⟩ (by show n-((i:J)+1).toNat<n-(i:J).toNat;lia)
 ·grind
def SY(b:N J)(c p:J)(n:K):Pz:=λk=>(sh (ci b) n k*c)%p
theorem za4{n:K}{c:J}(hp:1<=p)(e:p<=65521)(d:Fp p b)(hc:0<=c)(j:c<p)(hn:n+X b<=1000000)(m:3000000<=fu):zg (Uz fu b c p) fu (zl n<|λ_=>0,0)=Z (zl (n+X b)<|SY b c p n):=by
 refine zw (λs:N J×J=>∃i:K,i<=X b/\s=(zl (n+i)<|SY b c p n,(i:J))) (λs=>X b-s.2.toNat) _ ?_ _ _ ⟨0,xac _,by rw[yF (g:=SY b c p n) λk o=>by unfold SY sh;rw[zA,xaP,xah]];rfl⟩ (by show X b-0<fu;lia);rintro s L ⟨i,hi,rfl⟩ l;unfold Uz;simp only;by_cases h:i<X b
 ·have⟨q1,q2⟩:=Zi e (d.nn i) (d.lt i) hc j;rw[zP,zp h,Q,ZZ,zb,yL,Q,jQ q1,xr (by rw[zD];simp;lia),Q,eZ (n:=n+i) (f:=SY b c p n) (by unfold SY sh;rw[zP,(W:n+i-n=i)]),zb];exact l _ ⟨i+1,W,O⟩ (by show X b-((i:J)+1).toNat<X b-(i:J).toNat;lia)
 ·grind
structure D6I(p:J)(a b r:N J)(Q:Pz):Prop where
 fr:Fp p r
 lr:r.length<=a.length
 qr:∀k,0<=Q k/\Q k<p
 ql:∀k,k+b.length<=r.length->Q k=0
 qz:∀k,a.length<=k->Q k=0
 cg:Cg p (ci a) (Q*ci b+ci r)
def D6I.step{r:N J}{Q:Pz}(hp:1<=p)(h:D6I p a b r Q)(m:0<X b)(f:(x*ci b (X b-1))%p=1)(hl:X b<=X r):
 X (vy p r (pm p<|zl (X r-X b+X b)<|SY b (ci r (X r-1)*x%p) p<|X r-X b) (-1))<X r/\
 D6I p a b (vy p r (pm p<|zl (X r-X b+X b)<|SY b (ci r (X r-1)*x%p) p<|X r-X b) (-1)) (Ya Q (X r-X b)<|ci r (X r-1)*x%p):=by
 have⟨c,hc⟩:∃c,c=ci r (X r-1)*x%p:=⟨_,O⟩;have⟨n,hn⟩:∃n,n=X r-X b:=⟨_,O⟩;rw[<-hc,<-hn];have e:=yn (a:=ci r (X r-1)*x) (p:=p);rw[<-hc]at e;have o:=h.lr;have g:∀k,n+X b<=k->SY b c p n k=0:=λk d=>by
  unfold SY sh;rw[zP,zU (l:=b) W,xaP,xah]
 have hd:∀k,ci (vy p r (pm p<|zl (n+X b)<|SY b c p n) (-1)) k=(ci r k-c*sh (ci b) n k)%p:=λk=>by
  rw[Cj,si,v8 g];unfold SY;rw[xaE,xbg c];refine xaI.2<|xav ⟨sh (ci b) n k*c/p,?_⟩;have:=xfB (sh (ci b) n k*c) p;lia
 have i:X (vy p r (pm p<|zl (n+X b)<|SY b c p n) (-1))<X r:=by
  have:=(ZD (p:=p) W r (pm p<|zl (n+X b)<|SY b c p n) (-1)).nl.le (n:=X r-1) λk d=>by
   rw[hd];by_cases j:k=X r-1
   ·unfold sh;rw[zP,(W:k-n=X b-1),hc,j,xfA,xbc,xaE,<-xbc,xct,xbc _<|x*_,f,xck,xaE,<-xfA,xdP,xah]
   ·unfold sh;rw[zU (l:=r) W,zP,zU (l:=b) W,xaC,xcB,xah]
  lia
 refine⟨i,ZD W _ _ _,W,λk=> ?_,λk d=> ?_,λk d=> ?_,?_⟩
 ·unfold Ya;split
  ·exact e
  ·exact h.qr k
 ·unfold Ya;rw[zA];exact h.ql k W
 ·unfold Ya;rw[zA];exact h.qz k d
 ·have hi:Ya Q n c=Q+(mono n c:Pz):=qR λk=>by
   rw[zI];unfold Ya mono;by_cases d:k=n
   ·rw[iq d,iq d,h.ql k W,xco]
   ·rw[ir d,ir d,xbF]
  refine h.cg.trans λk=> ?_;rw[hi,ym,zI,zI,zI,qI,xdx<|_+_,hd,xaE,<-xdx];congr 1;lia
def dD(hp:wh p=I)(i:Fp p a)(c:Fp p b)(m:0<X b)(A:X a<=90000)(B:X b<=90000)(d:3000000<=fu):
 ∃q r,Zw fu a b p=Z (q,r,0)/\Fp p q/\Fp p r/\Cg p (ci a) (ci q*ci b+ci r)/\X r<X b/\X q<=X a:=by
 have⟨C,e⟩:=zo hp;unfold Zw;have hn:ci b (X b-1)≠0:=by
  obtain h|h:=c.nl
  ·lia
  ·exact h
 have t1:=c.nn<|X b-1;have t2:=c.lt<|X b-1;have⟨x,e1,n,o,t⟩:=YP (fu:=fu) hp (W:0<ci b (X b-1)) t2 d;rw[Y<|wO hp,iq O,Y<|Xl hp c,zA,Y<|Xl hp i,(W:(X a:J)+1=((X a+1:K):J)),zb,yJ,yL,ze,(W:(X b:J)-1=((X b-1:K):J)),zb,yj,ze,ZZ,Y e1]
 have hc:=yr (f:=K7 fu p x) (λs:N J×N J×N J=>∃(r:N J) (Q:Pz),s=(r,b,zl (X a+1) Q)/\D6I p a b r Q) (λs=>X s.1)
  (λs=>∃(r:N J) (Q:Pz),s=(r,zl (X a+1) Q)/\D6I p a b r Q/\X r<X b) (by
   rintro s L ⟨r,Q,rfl,h⟩ u;unfold K7;simp only;have D:=h.lr;by_cases h1:X b<=X r
   ·have⟨v,w⟩:=h.step W m t h1;have⟨q1,q2⟩:=Zi e (h.fr.nn<|X r-1) (h.fr.lt<|X r-1) (xdz n) o;have hd:=yn (a:=ci r (X r-1)*x) (p:=p);have y:Rl (zl (X r-X b+X b)<|SY b (ci r (X r-1)*x%p) p<|X r-X b):=λk=>by
     by_cases g:k<X r-X b+X b
     ·rw[jh g];unfold SY;have:=yn (a:=sh (ci b) (X r-X b) k*(ci r (X r-1)*x%p)) (p:=p);exact⟨W,W⟩
     ·rw[zU<|by rw[zD];lia];exact⟨iI,iI⟩
    rw[zP,(W:(X r:J)-(X b:J)=((X r-X b:K):J)),zb,(W:(X r:J)-1=((X r-1:K):J)),zb,yj,ze,ZZ,zb,yL,ze,jQ q1,zp (by rw[zD];lia),ze,uC,Y<|zdv W d];simp only;rw[Y<|za4 W e c hd.1 hd.2 W d,Y<|gu hp (h.fr.rl e) y W W (by rw[zD];lia) d,h.fr.pm];exact u _ ⟨_,_,O,w⟩ v
   ·rw[zA];exact⟨_,O,r,Q,O,h,W⟩)
  fu (a,b,Nm (X a+1) 0) ⟨a,λ_=>0,by rw[Uo],i,IR _,λk=>⟨xft _,W⟩,λ_ _=>O,λ_ _=>O,Cg.of (by
   funext k;rw[zI,show((λ_=>0:Pz))=pc 0 from qR λj=>(zH j).symm,zQ,zH,xco])⟩ (by show X a<fu;lia)
 obtain⟨_,hi,r,Q,rfl,h,hl⟩:=hc;rw[Y hi];simp only;have z:Rl (zl (X a+1) Q):=λk=>by
  rw[v8 λj l=>h.qz j W];have:=h.qr k;exact⟨W,W⟩
 rw[Y<|vi W e z (by rw[zD];lia) d];refine⟨_,_,O,cz W _,h.fr,?_,hl,?_⟩
 ·exact h.cg.trans<|Cg.add (Cg.mul (Cg.symm<|(IC p _).trans<|Cg.of<|funext (v8 λj l=>h.qz j W)) Cg.rfl) Cg.rfl
 ·exact(cz (p:=p) W<|zl (X a+1) Q).nl.le λk g=>by rw[si,v8 (λj l=>h.qz j W),h.qz k g,xah]
structure zg3(p:J)(a m:N J):Prop where
 fm:Fp p m
 ln:m.length=a.length
 top:ci m (m.length-1)=1
 cg:∃x y:J,Cg p (ci m) (pc x*ci a)/\Cg p (ci a) (pc y*ci m)
def rY(hp:2<=p)(g:Fp p a)(hd:0<X a)(d:(x*ci a (X a-1))%p=1):zg3 p a (yH p a [x]):=by
 have c:∀k,ci (yH p a [x]) k=(x*ci a k)%p:=λk=>by rw[aB,wX,zk,zS]
 have hc:X (yH p a [x])=X a:=by
  refine xcG ((w5 W _ _).nl.le λk f=> ?_)<|xbs λh=> ?_
  ·rw[c,zU f,xaC,xah]
  ·have e:=c<|X a-1;rw[d,zU W]at e;cases e
 have h1:Cg p (ci<|yH p a [x]) (pc x*ci a):=λk=>by rw[c,zS,xaE]
 refine⟨w5 W _ _,hc,by rw[hc,c,d],x,ci a<|X a-1,h1,?_⟩;refine Cg.symm<|(Cg.rfl.mul h1).trans ?_;rw[<-zd];refine Cg.trans (Cg.mul (λk=> ?_) Cg.rfl)<|Cg.of<|zC _;rw[kH,xbg];unfold pc;split
 ·rw[d];exact(xaD iI W).symm
 ·rfl
def zca(hp:wh p=I)(c:3000000<=fu):wE fu [] p=Z ([],0):=by
 have⟨d,e⟩:=zo hp;unfold wE;rw[Y<|wO hp,iq O,Y (Xl hp (Ud) iP),iq (show((X ([]:N J):K):J)=0 from O)]
def We(hp:wh p=I)(c:Fp p a)(hc:0<X a)(hd:X a<=90000)(x0:0<x)(f:x<p)(g:(x*ci a (X a-1))%p=1)(d:3000000<=fu:=by lia):wE fu a p=Z (yH p a [x],0):=by
 have k:ci a (X a-1)≠0:=by
  obtain h|h:=c.nl
  ·lia
  ·exact h
 have t1:=c.nn<|X a-1;have⟨y,e1,i,e,j⟩:=YP hp (W:0<ci a (X a-1)) (c.lt _) d;obtain rfl:=zgI W f W e g j;unfold wE;rw[Y<|wO hp,iq O,Y<|Xl hp c,zA,(W:X a-1=((X a-1:K):J)),zb,yj,Q,ZZ,Y e1,Y<|ZH hp c (uB i e) W iP d]
def rn(hp:wh p=I)(d:3000000<=fu):vA fu [] p=Z ([],0):=by
 have⟨e,c⟩:=zo hp;unfold vA;rw[Y<|uh hp,iq O,Y<|zO W c ((Ud).rl c) iP d,(Ud).pm,iq (show((X ([]:N J):K):J)=0 from O)]
def ZA(hp:wh p=I)(c:Fp p a)(hd:0<X a:=by lia)(g:X a<=90000:=by lia)(d:3000000<=fu:=by lia):∃x,0<x/\x<p/\(x*ci a (X a-1))%p=1/\vA fu a p=Z (yH p a [x],0):=by
 have⟨k,f⟩:=zo hp;have hc:ci a (X a-1)≠0:=by
  obtain h|h:=c.nl
  ·lia
  ·exact h
 have t1:=c.nn<|X a-1;have⟨x,x0,i,j,_,e⟩:=KU (fu:=fu) hp c (W:0<ci a (X a-1)) (c.lt _) g d;refine⟨x,x0,i,j,?_⟩;unfold vA;rw[Y<|uh hp,iq O,Y<|zO W f (c.rl f) W d,c.pm,zA,(W:(X a:J)-1=((X a-1:K):J)),zb,yj,Q,ZZ,Y e]
end
end Go.Proofs.YtmggkmchbdanfaaGreat
