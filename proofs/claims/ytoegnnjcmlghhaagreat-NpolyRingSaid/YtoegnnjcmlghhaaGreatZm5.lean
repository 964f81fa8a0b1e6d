/- What a proof needs: rules of walking, mirrors of functions and their plain laws. No condition. -/
import Derived.Test.YtoegnnjcmlghhaaGreatZm4
set_option linter.all false
namespace Go.Proofs.YtoegnnjcmlghhaaGreat
open Bool renaming false->I,true->wL
open Go renaming Value->wN,World->wP,TypeId->wT,execOp->jp,run_underlying->ul,Oper->uT,undef->Z0,Tmp->Z4,Code->Z9,wpIn_mono->Wn,resolve->Ws,Func->WF,invoke->WP,results->WT,eqGuard->WW,Act->V0,builtin->Ut,Calls->UT,wpOpsSIn->bI,wpIn_seq->fN,callsDIn_of_wpSIn->ii,recoverD->iT,Deferred->lm
open Go.Proofs.YtoegnnjcmlghhaaGreat renaming Zr->M,bd->Y,za->U,nm->B,cC->D,zp->F,ze->A,iq->S
open List renaming length->X,length->pM
open Nat renaming beq->E
open Option renaming some->Z,none->wF
open _root_ renaming rfl->O,List->N,Int->J,Nat->K,Option->V,List->xS,Int->wn,Nat->wr,Option->ww,trivial->wR,absurd->wS,Bool->v6,Array->ut,congrArg->uL,if_false->uP,if_true->uS,Unit->Z3,True->Xs,decide_eq_true->Wd,decide_eq_false->Wl,reduceCtorEq->WD,Decidable->QR,if_pos->bi,and_true->ge,or_false->i7
open And renaming intro->xfF
open Bool renaming false_eq_true->xai
open Classical renaming byContradiction->xak
open Ending renaming returned->xeu
open Int renaming eq_ofNat_of_zero_le->xaC,fdiv->xfY,natAbs_mul->xcw,natAbs_neg->xfB,natCast_nonneg->xdl,pow_succ->xbP,tdiv->xdx,tmod->xcB,toNat_natCast->xaZ
open Lib renaming bitLen->xfc
open List renaming append_assoc->xaq,cons_append->xbL,drop_eq_getElem_cons->xbV,drop_eq_nil_of_le->xbR,eq_nil_of_length_eq_zero->xbp,getD_cons_succ->xdt,getD_eq_getElem?_getD->UV,getElem?_cons_zero->xbC,getElem?_eq_getElem->xab,getElem?_eq_none->xbn,getElem?_toArray->xfE,getElem_mem->xbG,length_append->xat,length_cons->xaw,length_drop->xch,length_eq_zero_iff->xbE,length_nil->xbT,length_replicate->xaM,length_set->xbg,length_take->xar,map_cons->xbQ,map_nil->xdS,mem_append->xaa,mem_cons->xah,mem_cons_of_mem->FS,mem_cons_self->IR,mem_of_mem_drop->xfN,mem_of_mem_take->xes,mem_or_eq_of_mem_set->xdz,mem_singleton->xac,not_mem_nil->H1,replicate->Nm,replicate_succ->xdU,set_append_right->xfD,set_cons_succ->xfj,take_add_one->xeU,take_append_drop->xby,take_length->xca,take_of_length_le->xaW,take_succ_cons->xeF
open List.cons renaming injEq->xdX
open Nat renaming add_assoc->xcK,add_mul->xbi,add_mul_div_left->xcz,add_mul_mod_self_left->xcn,add_zero->xbM,div_add_mod->xbs,div_div_eq_div_mul->xaD,div_eq_of_lt->xbh,div_le_self->xcD,div_lt_iff_lt_mul->xaX,div_mul_le_self->xcG,div_one->xer,eq_zero_of_not_pos->xfs,eq_zero_or_pos->xcs,le_antisymm->xcF,le_div_iff_mul_le->xct,le_max_left->xew,le_max_right->xec,le_mul_of_pos_left->xea,le_of_lt->xdC,le_of_not_lt->xbx,le_refl->So,le_trans->xal,lt_of_le_of_lt->xaK,lt_of_lt_of_le->xag,lt_of_not_le->xdp,lt_or_ge->xbS,lt_succ_self->xdM,min_eq_left->xck,mod_add_div->xev,mod_eq_of_lt->xao,mod_lt->xaN,mul_add->xco,mul_assoc->xbl,mul_comm->xaS,mul_div_mul_right->xfG,mul_le_mul->xcf,mul_le_mul_left->xaE,mul_le_mul_right->xaj,mul_left_comm->xfw,mul_lt_mul''->xci,mul_lt_mul_of_pos_right->xbO,mul_mod_mul_right->xei,mul_one->xeI,mul_zero->xdo,not_lt_zero->xbc,one_mul->xcP,pow_add->xbj,pow_le_pow_right->xam,pow_lt_pow_right->xfO,pow_mul->xcg,pow_pos->xaY,pow_succ->xbw,pow_succ'->xdQ,pow_zero->xfe,strongRecOn->xdA,sub_le->xfd,sub_self->xcE,succ_mul->xeB,two_pow_pos->xdZ,zero_add->xaJ,zero_le->xae,zero_lt_one->xdm,zero_mul->xcC
open Option.some renaming inj->xdW
open Prod.mk renaming injEq->xcL
open Sum renaming elim->xfk
open _root_.Array renaming replicate->xdi
section
set_option maxRecDepth 100000
section
variable(fu:wr)
def mQ(a:N (M×(N K)))(j:J):ol ((N<|M×(N K))×J×(N<|M×(N K))×(N<|M×(N K))) ((N<|M×(N K))×(N<|M×(N K))×(N<|M×(N K))):=λL (k,b,e,d)=>Y (if b<(X a:J)then Z (j,a,(X a:J),wL)else Z (j,a,(X a:J),I):V (J×(N<|M×(N K))×J×v6)) λ(f,l,B,m)=>if m then zF b (X l) λo=>nm (l.getD o<|((I,[]),[])) λp=>zf (f+b) λq=>zf (f+b) λg=>zF g (X d) λr=>nm (d.getD r<|((I,[]),[])) λs=>zF f (X e) λu=>nm (e.getD u<|((I,[]),[])) λv=>Y (Wx fu v p) λw=>Y (ah fu s w) λy=>zF q (X d) λA=>nm (d.set A y) λh=>zf (b+1) λi=>L (k,i,e,h)else Z (k,e,d)
def nJ(a:N (M×(N K))):ol (J×(N<|M×(N K))×(N<|M×(N K))) ((N<|M×(N K))×(N<|M×(N K))):=λL (b,t3,d)=>if 0<=b then zf (b+(X a:J)) λh=>zf (h-1) λi=>zF i (X d) λj=>B (d.getD j<|((I,[]),[])) λk=>zf ((X a:J)-1) λl=>zF l (X a) λm=>B (a.getD m<|((I,[]),[])) λo=>Y (tK fu k o) λ(p,s)=>zF b (X t3) λq=>B (t3.set q p) λt5=>Y (zg (mQ fu a b) fu<|(a,0,t5,d)) λ(r,e,f)=>zf (b-1) λg=>L (g,e,f)else Z (t3,d)
def U6(a:N (M×(N K)))(g:N (M×(N K))):V ((N<|M×(N K))×(N<|M×(N K))):=zf ((X a:J)-(X g:J)) λj=>zf (j+1) λk=>B (max k 0) λl=>jA l λh=>ck (56*h<=281474976710656)<|B (Nm h<|((I,[]),[])) λi=>ck ((X ([]:N (M×(N K)))+X a)*56<=140737488355328)<|B (([]:N (M×(N K)))++a) λm=>zf ((X i:J)-1) λo=>Y (zg (nJ fu g) fu (o,i,m)) λ(b,d)=>Y (au fu b) λe=>Y (au fu d) λf=>Z (e,f)
def iM(a:V ((N M)×(N<|M×(N K)))):ol ((N<|M×(N K))×(N<|M×(N K))×(N<|M×(N K))×(N<|M×(N K))) ((N<|M×(N K))×(N<|M×(N K))):=λL (b,t3,d,t5)=>if 1<(X t3:J)then Y (U6 fu b t3) λ(e,f)=>Y (a) λg=>Y (a) λh=>Y (xF fu h e t5) λi=>Y (vk fu g d i (-1:J)) λj=>L (t3,f,t5,j)else Z (t3,t5)
def XA(a:V ((N M)×(N<|M×(N K))))(g:N (M×(N K))):V ((N<|M×(N K))×J):=Y (xW fu a) λh=>if h then Z ([],1)else Y (a) λi=>Y (a) λj=>Y (xy fu j g) λf=>if(X f:J)=0 then Z ([],3)else Y (jQ fu 1) λk=>Y (zg (iM fu a) fu (i.2,f,[],[k])) λ(b,d)=>Y (jQ fu 1) λl=>zF 0 (X b) λm=>B (b.getD m<|((I,[]),[])) λo=>Y (tK fu l o) λ(p,r)=>Y (a) λq=>Y (xF fu q d [p]) λe=>Z<|(e,0)
def xU(a:V ((N M)×(N<|M×(N K))))(b:N (M×(N K)))(d:N (M×(N K))):V ((N<|M×(N K))×J):=Y (xW fu a) λe=>if e then Z ([],1)else Y (a) λf=>Y (xF fu f b d) λg=>Z<|(g,0)
def Xx(a:V ((N M)×(N<|M×(N K))))(b:N (M×(N K)))(d:N (M×(N K))):V ((N<|M×(N K))×J):=Y (xW fu a) λe=>if e then Z ([],1)else Y (a) λf=>Y (vk fu f b d (-1:J)) λg=>Z<|(g,0)
def vL(a:V ((N M)×(N<|M×(N K))))(b:N (M×(N K))):V ((N<|M×(N K))×J):=Y (xW fu a) λd=>if d then Z ([],1)else Y (a) λe=>Y (xy fu e b) λf=>Z<|(f,0)
def xo(fu:K)(b:N (M×(N K)))(a:J):V (PX⊕(N<|M×(N K))):=if a=0 then Z (.inr b)else Z (.inl (128,a))
def Zq(e:V ((N M)×(N<|M×(N K))))(a:N (N<|M×(N K))):ol (J×(N<|N<|M×(N K))) ((N<|N<|M×(N K))⊕(PX×Z3)):=λL (b,d)=>Y (if b<(X a:J)then Z (e,a,(X a:J),wL)else Z (e,a,(X a:J),I):V ((V<|(N M)×(N<|M×(N K)))×(N<|N<|M×(N K))×J×v6)) λ(t5,f,r,g)=>if g then zF b (X f) λh=>B (f.getD h []) λi=>Y (vL fu t5 i) λ(j,k)=>Y (xo fu j k) λz2=>match z2 with
 |.inl l=>(Z (.inr<|(l,())))
 |.inr m=>zF b (X d) λo=>B (d.set o m) λp=>zf (b+1) λq=>L (q,p)else Z (.inl d)
def u7(fu:K):ol (N<|N<|M×(N K)) (N<|N<|M×(N K)):=λL a=>if 0<(X a:J)then zf ((X a:J)-1) λf=>zF f (X a) λg=>B (a.getD g []) λb=>if(X b:J)=0 then zf ((X a:J)-1) λh=>jA h λe=>ck (e<=X a)<|B (a.take e) λd=>L d else Z a else Z a
def yh(d:V ((N M)×(N<|M×(N K))))(e:N (N<|M×(N K))):V (PX⊕(N<|N<|M×(N K))):=Y (vL fu d []) λ(g,h)=>Y (xo fu g h) λi=>match i with
 |.inl j=>(Z (.inl j))
 |.inr m=>jA (X e:J) λf=>ck (24*f<=281474976710656)<|B (Nm f []) λt3=>Y (zg (Zq fu d e) fu<|(0,t3)) λk=>match k with
 |.inl a=>Y (zg (u7 fu) fu a) λb=>Z (.inr b)
 |.inr (l,_)=>Z (.inl l)
def bn(A:J)(h:N (N<|M×(N wr))):ol ((V<|(N M)×(N<|M×(N wr)))×(N<|M×(N wr))×J×(N<|N<|M×(N wr))×(N<|N<|M×(N wr))×(N<|N<|M×(N wr))) (((V<|(N M)×(N<|M×(N wr)))×(N<|M×(N wr))×(N<|N<|M×(N wr))×(N<|N<|M×(N wr))×(N<|N<|M×(N wr)))⊕(PX×Z3)):=λL (b,f,g,d,a,e)=>Y (if g<(X h:J)then Z (A,(X h:J),wL)else Z (A,(X h:J),I):V (J×J×v6)) λ(i,K,B)=>if B then zF g (X d) λC=>nm (d.getD C []) λj=>zf (i+g) λk=>zf (i+g) λl=>zF l (X a) λE=>nm (a.getD E []) λm=>zF i (X e) λG=>nm (e.getD G []) λo=>Y (xU fu b o j) λ(p,q)=>Y (xo fu p q) λz5=>match z5 with
 |.inl H=>(Z (.inr<|(H,())))
 |.inr r=>Y (Xx fu b m r) λ(s,u)=>Y (xo fu s u) λz6=>match z6 with
 |.inl c=>(Z (.inr<|(c,())))
 |.inr v=>zF k (X a) λn=>nm (a.set n v) λw=>zf (g+1) λy=>L (b,f,y,d,w,e)else Z (.inl (b,f,d,a,e))
def bM(o:V ((N M)×(N<|M×(N K))))(t5:N (M×(N K))):ol (J×(N<|N<|M×(N K))×(N<|N<|M×(N K))×(N<|N<|M×(N K))) (((N<|N<|M×(N K))×(N<|N<|M×(N K)))⊕(PX×Z3)):=λL (a,d,b,e)=>if 0<=a then zf (a+(X d:J)) λp=>zf (p-1) λq=>zF q (X b) λr=>nm (b.getD r []) λf=>Y (xU fu o f t5) λ(g,s)=>Y (xo fu g s) λz4=>match z4 with
 |.inl u=>(Z (.inr<|(u,())))
 |.inr h=>zF a (X e) λv=>nm (e.set v h) λi=>Y (zg (bn fu a d) fu<|(o,t5,0,d,b,i)) λw=>match w with
 |.inl (y,A,j,k,l)=>zf (a-1) λm=>L (m,j,k,l)
 |.inr (B,_)=>Z (.inr<|(B,()))else Z (.inl (b,e))
def VF(a:V ((N M)×(N<|M×(N K))))(l:N (N<|M×(N K)))(m:N (N<|M×(N K))):V (PX⊕((N<|N<|M×(N K))×(N<|N<|M×(N K)))):=Y (yh fu a l) λo=>match o with
 |.inl p=>(Z (.inl p))
 |.inr i=>Y (yh fu a m) λz2=>match z2 with
 |.inl q=>(Z (.inl q))
 |.inr b=>if(X b:J)=0 then Z (.inl<|(128,3))else zf ((X b:J)-1) λr=>zF r (X b) λs=>nm (b.getD s []) λt3=>Y (XA fu a t3) λ(u,v)=>Y (xo fu u v) λz3=>match z3 with
 |.inl w=>(Z (.inl w))
 |.inr t5=>zf ((X i:J)-(X b:J)) λy=>zf (y+1) λA=>nm (max A 0) λB=>jA B λj=>ck (24*j<=281474976710656)<|nm (Nm j []) λk=>zf ((X k:J)-1) λC=>Y (zg (bM fu a t5) fu (C,b,i,k)) λE=>match E with
 |.inl (d,e)=>(Y (yh fu a e) λz7=>match z7 with
 |.inl G=>(Z (.inl G))
 |.inr f=>Y (yh fu a d) λz8=>match z8 with
 |.inl H=>(Z (.inl H))
 |.inr g=>Z (.inr (f,g)))
 |.inr (h,_)=>Z (.inl h)
def vK(a:V ((N M)×(N<|M×(N K))))(b:N (M×(N K)))(d:N (M×(N K))):V ((N<|M×(N K))×J):=Y (xW fu a) λe=>if e then Z ([],1)else Y (a) λf=>Y (vk fu f b d 1) λg=>Z<|(g,0)
def kO(e:J)(t3:xS (xS<|Zr×(xS wr)))(l:V ((xS Zr)×(xS<|Zr×(xS wr))))(t5:xS (xS<|Zr×(xS wr)))(m:J)(o:xS (Zr×(xS wr))):ol (J×(xS<|xS<|Zr×(xS wr))) ((xS<|xS<|Zr×(xS wr))⊕(PX×Z3)):=λL (a,b)=>Y (if a<(X t3:J)then Z (t3,l,e,o,t5,m,e,t3,(X t3:J),wL)else Z (t3,l,e,o,t5,m,e,t3,(X t3:J),I):V ((xS<|xS<|Zr×(xS wr))×(V<|(xS Zr)×(xS<|Zr×(xS wr)))×J×(xS<|Zr×(xS wr))×(xS<|xS<|Zr×(xS wr))×J×J×(xS<|xS<|Zr×(xS wr))×J×v6)) λ(M,p,q,r,s,N,t,d,P,u)=>if u then zF a (X d) λv=>nm (d.getD v []) λw=>zf (q+a) λy=>zf (q+a) λA=>zF A (X b) λB=>nm (b.getD B []) λf=>Y (xU fu p r w) λ(g,C)=>Y (xo fu g C) λE=>match E with
 |.inl G=>(Z (.inr<|(G,())))
 |.inr h=>Y (vK fu p f h) λ(i,H)=>Y (xo fu i H) λz2=>match z2 with
 |.inl c=>(Z (.inr<|(c,())))
 |.inr j=>zF y (X b) λn=>nm (b.set n j) λk=>zf (a+1) λK=>L (K,k)else Z (.inl b)
def kQ(e:V ((N M)×(N<|M×(N K))))(a:N (N<|M×(N K)))(f:N (N<|M×(N K))):ol (J×(N<|N<|M×(N K))) ((N<|N<|M×(N K))⊕(PX×Z3)):=λL (b,g)=>Y (if b<(X a:J)then Z (f,e,a,(X a:J),wL)else Z (f,e,a,(X a:J),I):V ((N<|N<|M×(N K))×(V<|(N M)×(N<|M×(N K)))×(N<|N<|M×(N K))×J×v6)) λ(t3,h,t5,i,j)=>if j then zF b (X t5) λk=>B (t5.getD k []) λl=>Y (zg (kO fu b t3 h t5 i l) fu<|(0,g)) λm=>match m with
 |.inl d=>zf (b+1) λo=>L (o,d)
 |.inr (p,_)=>Z (.inr<|(p,()))else Z (.inl g)
def qY(d:V ((N M)×(N<|M×(N K))))(e:N (N<|M×(N K)))(f:N (N<|M×(N K))):V (PX⊕(N<|N<|M×(N K))):=zf ((X e:J)+(X f:J)) λh=>jA h λg=>ck (24*g<=281474976710656)<|B (Nm g []) λi=>Y (zg (kQ fu d e f) fu<|(0,i)) λj=>match j with
 |.inl a=>(Y (yh fu d a) λz3=>match z3 with
 |.inl k=>(Z (.inl k))
 |.inr b=>Z (.inr b))
 |.inr (l,_)=>Z (.inl l)
def kK(b:V ((N M)×(N<|M×(N K))))(d:N (N<|M×(N K))):V (PX⊕(N<|N<|M×(N K))):=Y (yh fu b d) λe=>match e with
 |.inl f=>(Z (.inl f))
 |.inr a=>if(X a:J)=0 then Z (.inr [])else zf ((X a:J)-1) λg=>zF g (X a) λh=>B (a.getD h []) λi=>Y (XA fu b i) λ(t3,j)=>Y (xo fu t3 j) λz2=>match z2 with
 |.inl k=>(Z (.inl k))
 |.inr l=>Y (qY fu b a [l]) λz3=>match z3 with
 |.inl m=>(Z (.inl m))
 |.inr t5=>Z (.inr t5)
def FM(b:V ((N M)×(N<|M×(N K)))):ol ((N<|N<|M×(N K))×(N<|N<|M×(N K))) ((N<|N<|M×(N K))⊕(PX×Z3)):=λL (t3,a)=>if 0<(X a:J)then Y (VF fu b t3 a) λz3=>match z3 with
 |.inl d=>(Z (.inr<|(d,())))
 |.inr (t5,e)=>Y (kK fu b e) λz4=>match z4 with
 |.inl f=>(Z (.inr<|(f,())))
 |.inr g=>L (a,g)else Z (.inl t3)
def Ao(a:V ((N M)×(N<|M×(N K))))(g:N (N<|M×(N K)))(h:N (N<|M×(N K))):V ((N<|N<|M×(N K))×J):=Y (yh fu a g) λi=>match i with
 |.inl b=>(ck (b.1=128)<|ck (XB b.2)<|some ([],b.2))
 |.inr j=>Y (kK fu a h) λz2=>match z2 with
 |.inl d=>(ck (d.1=128)<|ck (XB d.2)<|some ([],d.2))
 |.inr k=>Y (zg (FM fu a) fu (j,k)) λl=>match l with
 |.inl m=>(Y (kK fu a m) λz5=>match z5 with
 |.inl e=>(ck (e.1=128)<|ck (XB e.2)<|some ([],e.2))
 |.inr o=>Z<|(o,0))
 |.inr (f,_)=>ck (f.1=128)<|ck (XB f.2)<|some ([],f.2)
def Va:V v6:=Y (J0 fu [(-2:J),0,1]) λg=>Y (VK fu g) λ(a,h)=>if h=0 then if(a).isNone=wL then Z I else Y (jQ fu (-2:J)) λi=>Y (jQ fu 1) λj=>Y (jQ fu 0) λb=>Y (jQ fu (-1:J)) λd=>Y (jQ fu 1) λe=>Y (Ao fu a ([[i],[],[j]])<|[[b,d],[e]]) λ(f,k)=>if k=0 then if(X f:J)=2 then Y (ym fu f<|[[b,d],[e]]) λl=>Z l else Z I else Z I else Z I
def Uz(fu:K)(a:N (N<|N<|M×(N K)))(g:J):ol (J×J) (J⊕Z3):=λL (b,f)=>zF b (X a) λp=>B (a.getD p []) λl=>zF g (X l) λq=>B (l.getD q []) λr=>if f<(X r:J)then zF b (X a) λs=>B (a.getD s []) λm=>zF g (X m) λu=>B (m.getD u []) λo=>zF f (X o) λv=>B (o.getD v<|((I,[]),[])) λw=>if 1<(X w.1.2:J)then Z (.inr ())else zF b (X a) λh=>B (a.getD h []) λd=>zF g (X d) λi=>B (d.getD i []) λe=>zF f (X e) λj=>B (e.getD j<|((I,[]),[])) λk=>if 1<(X k.2:J)then Z (.inr ())else zf (f+1) λy=>L (b,y)else Z (.inl b)
def Um(d:J):ol (J×(N<|N<|N<|M×(N K))×J) ((J×(N<|N<|N<|M×(N K)))⊕Z3):=λL (e,a,b)=>zF d (X a) λg=>B (a.getD g []) λh=>if b<(X h:J)then zF d (X a) λi=>B (a.getD i []) λf=>zF b (X f) λj=>B (f.getD j []) λk=>if 4<(X k:J)then Z (.inr ())else Y (zg (Uz fu a b) fu<|(d,0)) λl=>match l with
 |.inl o=>zf (b+1) λm=>L (e,a,m)
 |.inr _=>Z (.inr ())else Z (.inl (e,a))
def Uq(d:J)(a:N (N<|N<|M×(N K))):ol J (Z3⊕Z3):=λL b=>if b<(X a:J)then zF b (X a) λe=>B (a.getD e []) λf=>if d<(X f:J)then Z (.inr ())else Y (zg (Um fu b) fu<|(d,a,0)) λg=>match g with
 |.inl (i,j)=>zf (b+1) λh=>L h
 |.inr _=>Z (.inr ())else Z (.inl ())
def VL(a:J)(b:N (N<|N<|M×(N K))):V v6:=Y (zg (Uq fu a b) fu 0) λd=>match d with
 |.inl _=>Z wL
 |.inr _=>Z I
def eT(fu:K)(b:N K):ol J J:=λL a=>if 0<a then zf (a-1) λd=>zF d (X b) λe=>B (b.getD e 0) λf=>if(f:J)=(((0:K):K):J)then zf (a-1) λg=>L g else Z a else Z a
def Xl(a:N K):V (N K):=Y (zg (eT fu a) fu<|(X a:J)) λe=>jA e λb=>ck (b<=X a)<|B (a.take b) λd=>ck ((X ([]:N K)+X d)*8<=140737488355328)<|B (([]:N K)++d) λf=>Z f
def xc(b:M):V M:=Y (Xl fu b.2) λa=>if b.1=wL then if 0<(X a:J)then Z (wL,a)else Z (I,a)else Z (I,a)
def Vr(a:M):V M:=Y (xc fu (I,a.2)) λb=>Z b
def qF(fu:K)(a:N K)(b:J):V K:=if b<(X a:J)then zF b (X a) λd=>B (a.getD d 0) λe=>Z e else Z (0:K)
def lO(fu:K)(b:N K):ol J J:=λL a=>if 0<a then zf (a-1) λd=>zF d (X b) λe=>B (b.getD e 0) λf=>if(f:J)=(((0:K):K):J)then zf (a-1) λg=>L g else Z a else Z a
def YN(a:N K):V (N K):=Y (zg (lO fu a) fu<|(X a:J)) λd=>jA d λb=>ck (b<=X a)<|B (a.take b) λe=>Z e
def Wy(fu:K)(a:N K):ol ((N K)×J) (N K):=λL (d,b)=>if b<(X a:J)then zF b (X a) λg=>B (a.getD g 0) λh=>B (h &&& (4294967295:K)) λe=>zF b (X a) λi=>B (a.getD i 0) λj=>B (j/2^(min ((32:K):J).toNat 64)) λf=>ck ((X d+X ([e,f]))*8<=140737488355328)<|B (d++([e,f])) λk=>zf (b+1) λl=>L (k,l)else Z d
def xG(a:N K):V (N K):=Y (zg (Wy fu a) fu<|([],0)) λt3=>Y (YN fu t3) λb=>Z b
def Qt(fu:K)(a:N K):ol ((N K)×J) (N K):=λL (d,b)=>if b<(X a:J)then zF b (X a) λg=>B (a.getD g 0) λe=>zf (b+1) λh=>if h<(X a:J)then zf (b+1) λi=>zF i (X a) λj=>B (a.getD j 0) λk=>B (k*2^(min ((32:K):J).toNat 64)%18446744073709551616) λl=>B ((e+l)%18446744073709551616) λf=>ck ((X d+X ([f]))*8<=140737488355328)<|B (d++([f])) λm=>zf (b+2) λo=>L (m,o)else ck ((X d+X ([e]))*8<=140737488355328)<|B (d++([e])) λt3=>zf (b+2) λp=>L (t3,p)else Z d
def v7(a:N K):V (N K):=Y (zg (Qt fu a) fu<|([],0)) λb=>Y (Xl fu b) λt5=>Z t5
def lK(b:N K)(d:N K):ol ((N K)×K×J) (N K):=λL (t3,g,a)=>B (max (X b:J)<|(X d:J)) λh=>zf (h+1) λi=>if a<i then Y (qF fu b a) λj=>Y (qF fu d a) λk=>B ((j+k)%18446744073709551616) λl=>B ((l+g)%18446744073709551616) λe=>B (e &&& (4294967295:K)) λf=>ck ((X t3+X ([f]))*8<=140737488355328)<|B (t3++([f])) λm=>B (e/2^(min ((32:K):J).toNat 64)) λo=>zf (a+1) λp=>L (m,o,p)else Z t3
def Vk(a:N K)(b:N K):V (N K):=Y (xG fu a) λd=>Y (xG fu b) λe=>Y (zg (lK fu d e) fu<|([],(0:K),0)) λt5=>Y (v7 fu t5) λf=>Z f
def Y7(b:N K)(d:N K):ol J (Z3⊕J):=λL a=>if 0<=a then Y (qF fu b a) λe=>Y (qF fu d a) λf=>if(e:J)<(f:J)then Z (.inr (-1:J))else Y (qF fu b a) λg=>Y (qF fu d a) λh=>if(h:J)<(g:J)then Z (.inr 1)else zf (a-1) λi=>L i else Z (.inl ())
def uk(a:N K)(b:N K):V J:=B (max (X a:J)<|(X b:J)) λd=>zf (d-1) λe=>Y (zg (Y7 fu a b) fu e) λf=>match f with
 |.inl _=>Z 0
 |.inr g=>Z g
def JR(d:N K)(g:N K):ol ((N K)×K×J) (N K):=λL (b,h,a)=>if a<(X d:J)then Y (qF fu d a) λi=>B ((i+(4294967296:K))%18446744073709551616) λj=>Y (qF fu g a) λk=>B ((j+18446744073709551616-k)%18446744073709551616) λl=>B ((l+18446744073709551616-h)%18446744073709551616) λe=>B (e &&& (4294967295:K)) λf=>ck ((X b+X ([f]))*8<=140737488355328)<|B (b++([f])) λm=>B (e/2^(min ((32:K):J).toNat 64)) λo=>B (((1:K)+18446744073709551616-o)%18446744073709551616) λp=>zf (a+1) λq=>L (m,p,q)else Z b
def Xn(a:N K)(b:N K):V (N K):=Y (zg (JR fu a b) fu<|([],(0:K),0)) λt3=>Y (YN fu t3) λd=>Z d
def Ux(fu:K)(a:N K):ol ((N K)×(N K)×(N K)×K×J) ((N K)×(N K)×(N K)×K):=λL (e,f,d,g,b)=>if b<(X a:J)then zF b (X a) λi=>B (a.getD i 0) λj=>B ((j*(2:K))%18446744073709551616) λk=>B ((k+g)%18446744073709551616) λl=>B (l &&& (4294967295:K)) λh=>ck ((X d+X ([h]))*8<=140737488355328)<|B (d++([h])) λm=>zF b (X a) λo=>B (a.getD o 0) λp=>B (p/2^(min ((31:K):J).toNat 64)) λq=>zf (b+1) λr=>L (e,f,m,q,r)else Z (e,f,d,g)
def Uo(q:N K)(f:N K):ol ((N K)×J×(N K)) ((N K)×(N K)):=λL (l,a,t5)=>if 0<=a then ck (32≠0)<|zf (xdx a 32) λr=>zF r (X f) λs=>nm (f.getD s 0) λu=>ck (32≠0)<|nm (xcB a 32) λm=>ck (0<=m)<|nm (u/2^(min (m:J).toNat 64)) λv=>nm (v &&& (1:K)) λw=>Y (zg (Ux fu l) fu<|(q,f,[],w,0)) λ(d,y,e,o)=>ck ((X e+X ([o]))*8<=140737488355328)<|nm (e++([o])) λg=>Y (YN fu g) λb=>Y (Y (uk fu b d) λA=>if(0:J)<=A then Z wL else Z I:V v6) λB=>if B then Y (Xn fu b d) λh=>ck (32≠0)<|zf (xdx a 32) λC=>ck (32≠0)<|zf (xdx a 32) λE=>zF E (X t5) λG=>nm (t5.getD G 0) λH=>ck (32≠0)<|nm (xcB a 32) λp=>ck (0<=p)<|nm ((1:K)*2^(min (p:J).toNat 64)%18446744073709551616) λm8=>nm (H|||m8) λc=>zF C (X t5) λn=>nm (t5.set n c) λi=>zf (a-1) λj=>L (h,j,i)else zf (a-1) λk=>L (b,k,t5)else Z (l,t5)
def Kq(i:N K)(j:N K):V ((N K)×(N K)×J):=Y (xG fu j) λg=>if(X g:J)=0 then Z ([],[],3)else Y (xG fu i) λa=>jA (X a:J) λh=>ck (8*h<=281474976710656)<|B (Nm h 0) λt3=>zf (32*(X a:J)) λk=>zf (k-1) λl=>Y (zg (Uo fu g a) fu ([],l,t3)) λ(b,d)=>Y (v7 fu d) λe=>Y (v7 fu b) λf=>Z<|(e,f,0)
def YY(d:N K)(e:N K):V ((N K)×J):=Y (xG fu d) λa=>Y (xG fu e) λb=>Y (uk fu a b) λf=>if f<0 then Z ([],1)else Y (Xn fu a b) λt3=>Y (v7 fu t3) λg=>Z<|(g,0)
def Vs(b:M)(d:M):V (M×M×J):=Y (Kq fu b.2 d.2) λ(e,a,f)=>if f=0 then Y (if b.1=wL then if 0<(X a:J)then Y (Vk fu e [(1:K)]) λt3=>Y (YY fu d.2 a) λ(g,l)=>Z (t3,g)else Z (e,a)else Z (e,a):V ((N K)×(N K))) λ(t5,h)=>B (!(b.1==d.1)) λi=>Y (xc fu (i,t5)) λj=>Y (xc fu (I,h)) λk=>Z (j,k,0)else Z ((I,[]),(I,[]),f)
def ZE(b:M):V J:=Y (xc fu b) λa=>if a.1=wL then Z (-1:J)else if 0<(X a.2:J)then Z 1 else Z 0
def lD:ol (M×M) M:=λL (b,a)=>Y (ZE fu a) λd=>if d=0 then Z b else Y (Vs fu b a) λ(f,e,g)=>L (a,e)
def Kk(a:M)(b:M):V M:=Y (Vr fu a) λd=>Y (Vr fu b) λe=>Y (zg (lD fu) fu (d,e)) λt3=>Z t3
def KP(a:M):V M:=Y (xc fu<|((!a.1),a.2)) λb=>Z b
def JL(a:J):V M:=if a<0 then zf (0-a) λb=>B (ET b) λd=>Y (xc fu (wL,[d])) λe=>Z e else B (ET a) λf=>Y (xc fu (I,[f])) λg=>Z g
def dF(b:N M):ol J J:=λL a=>if 0<a then zf (a-1) λd=>zF d (X b) λe=>B (b.getD e (I,[])) λf=>Y (ZE fu f) λg=>if g=0 then zf (a-1) λh=>L h else Z a else Z a
def cX(d:N M)(f:J):ol ((N M)×J) (N M):=λL (a,b)=>if b<f then zF b (X d) λg=>B (d.getD g (I,[])) λh=>Y (xc fu h) λe=>ck ((X a+X ([e]))*32<=140737488355328)<|B (a++([e])) λi=>zf (b+1) λj=>L (i,j)else Z a
def vz(a:N M):V (N M):=Y (zg (dF fu a) fu<|(X a:J)) λb=>Y (zg (cX fu a b) fu<|([],0)) λt3=>Z t3
def KC(a:N M):ol (J×M) M:=λL (b,d)=>if b<(X a:J)then zF b (X a) λe=>B (a.getD e (I,[])) λf=>Y (Kk fu d f) λg=>zf (b+1) λh=>L (h,g)else Z d
def Yk(b:N M):V M:=Y (vz fu b) λa=>Y (JL fu 0) λd=>Y (zg (KC fu a) fu<|(0,d)) λt3=>if 0<(X a:J)then zf ((X a:J)-1) λe=>zF e (X a) λf=>B ((a.getD f (I,[])).1) λg=>if g then Y (KP fu t3) λh=>Z h else Z t3 else Z t3
def WJ(b:M)(d:M):V (M×J):=Y (Vs fu b d) λ(e,f,a)=>if a=0 then Y (ZE fu f) λg=>if g=0 then Z (e,0)else Z ((I,[]),4)else Z ((I,[]),a)
def VD(a:M)(b:M):V M:=B (a.1==b.1) λd=>if d then Y (Vk fu a.2 b.2) λe=>Y (xc fu (a.1,e)) λf=>Z f else Y (YY fu a.2 b.2) λ(g,h)=>if h=0 then Y (xc fu (a.1,g)) λi=>Z i else Y (YY fu b.2 a.2) λ(t3,k)=>Y (xc fu (b.1,t3)) λj=>Z j
def JI(fu:K)(a:N M)(b:J):V M:=if 0<=b then if b<(X a:J)then zF b (X a) λd=>B (a.getD d (I,[])) λe=>Z e else Z (I,[])else Z (I,[])
def mi(d:N M)(e:N M):ol ((N M)×J) (N M):=λL (b,a)=>B (max (X d:J)<|(X e:J)) λg=>if a<g then Y (JI fu d a) λh=>Y (JI fu e a) λi=>Y (VD fu h i) λf=>ck ((X b+X ([f]))*32<=140737488355328)<|B (b++([f])) λj=>zf (a+1) λk=>L (j,k)else Z b
def VB(a:N M)(b:N M):V (N M):=Y (zg (mi fu a b) fu<|([],0)) λt3=>Y (vz fu t3) λd=>Z d
def Uj(fu:K)(e:J):ol ((N K)×(N K)×K×J×(N K)) ((N K)×(N K)×K×(N K)):=λL (t5,a,f,b,d)=>if b<(X a:J)then zF e (X t5) λh=>B (t5.getD h 0) λi=>zF b (X a) λj=>B (a.getD j 0) λk=>B ((i*k)%18446744073709551616) λl=>zf (e+b) λm=>zF m (X d) λo=>B (d.getD o 0) λp=>B ((l+p)%18446744073709551616) λq=>B ((q+f)%18446744073709551616) λg=>zf (e+b) λr=>B (g &&& (4294967295:K)) λs=>zF r (X d) λu=>B (d.set u s) λv=>B (g/2^(min ((32:K):J).toNat 64)) λw=>zf (b+1) λy=>L (t5,a,w,y,v)else Z (t5,a,f,d)
def Uy(f:N K)(h:N K):ol (J×(N K)) (N K):=λL (b,g)=>if b<(X f:J)then Y (zg (Uj fu b) fu<|(f,h,(0:K),0,g)) λ(m,d,i,a)=>zf (b+(X d:J)) λj=>zF j (X a) λk=>B (a.set k i) λe=>zf (b+1) λl=>L (l,e)else Z g
def KA(g:N K)(h:N K):V (N K):=Y (xG fu g) λd=>Y (xG fu h) λe=>zf ((X d:J)+(X e:J)) λi=>jA i λf=>ck (8*f<=281474976710656)<|B (Nm f 0) λt3=>Y (zg (Uy fu d e) fu<|(0,t3)) λa=>Y (v7 fu a) λb=>Z b
def YM(a:M)(b:M):V M:=B (!(a.1==b.1)) λd=>Y (KA fu a.2 b.2) λe=>Y (xc fu (d,e)) λf=>Z f
def ll(d:J):ol ((N M)×(N M)×J×(N M)) ((N M)×(N M)×(N M)):=λL (t3,a,b,t5)=>if b<(X a:J)then zf (d+b) λe=>zf (d+b) λf=>zF f (X t5) λg=>B (t5.getD g (I,[])) λh=>zF d (X t3) λi=>B (t3.getD i (I,[])) λj=>zF b (X a) λk=>B (a.getD k (I,[])) λl=>Y (YM fu j l) λm=>Y (VD fu h m) λo=>zF e (X t5) λp=>B (t5.set p o) λq=>zf (b+1) λr=>L (t3,a,r,q)else Z (t3,a,t5)
def mx(b:N M)(e:N M):ol (J×(N M)) (N M):=λL (a,d)=>if a<(X b:J)then Y (zg (ll fu a) fu<|(b,e,0,d)) λ(h,i,f)=>zf (a+1) λg=>L (g,f)else Z d
def KR(d:N M)(e:N M):V (N M):=zf ((X d:J)+(X e:J)) λg=>jA g λf=>ck (32*f<=281474976710656)<|B (Nm f (I,[])) λh=>Y (zg (mx fu d e) fu<|(0,h)) λa=>Y (vz fu a) λb=>Z b
def cr(a:N M)(f:M):ol ((N M)×J) (N M):=λL (b,d)=>if d<(X a:J)then zF d (X a) λg=>B (a.getD g (I,[])) λh=>Y (YM fu h f) λe=>ck ((X b+X ([e]))*32<=140737488355328)<|B (b++([e])) λi=>zf (d+1) λj=>L (i,j)else Z b
def W1(a:N M)(b:M):V (N M):=Y (zg (cr fu a b) fu<|([],0)) λt3=>Y (vz fu t3) λd=>Z d
def KQ(a:N M)(b:N M):V (N M):=Y (JL fu (-1:J)) λd=>Y (W1 fu b d) λe=>Y (VB fu a e) λf=>Z f
def lV:ol ((N M)×(N M)×(N M)) ((N M)⊕Z3):=λL (t3,a,t5)=>if 0<(X a:J)then zf ((X a:J)-(X t3:J)) λd=>zf ((X a:J)-1) λi=>zF i (X a) λj=>B (a.getD j (I,[])) λk=>zf ((X t3:J)-1) λl=>zF l (X t3) λm=>B (t3.getD m (I,[])) λo=>Y (WJ fu k o) λ(e,p)=>if d<0 then Z (.inr ())else if p=0 then jA d λf=>ck (32*f<=281474976710656)<|B (Nm f (I,[])) λg=>ck ((X g+X ([e]))*32<=140737488355328)<|B (g++([e])) λh=>Y (VB fu t5 h) λq=>Y (KR fu h t3) λr=>Y (KQ fu a r) λb=>L (t3,b,q)else Z (.inr ())else Z (.inl t5)
def KX(d:N M)(e:N M):V ((N M)×J):=Y (vz fu e) λb=>if(X b:J)=0 then Z ([],3)else Y (vz fu d) λf=>Y (zg (lV fu) fu (b,f,[])) λg=>match g with
 |.inl a=>Z<|(a,0)
 |.inr _=>Z<|([],4)
def Jd(b:N M):V (N M):=Y (vz fu b) λa=>if(X a:J)=0 then Z []else Y (Yk fu a) λd=>Y (KX fu a [d]) λ(e,f)=>Z e
def Jw(fu:K)(a:N M):ol J (Z3⊕(V<|(N M)×(N<|M×(N K)))):=λL b=>if b<(X a:J)then zF b (X a) λe=>B (a.getD e (I,[])) λf=>if 1<(X f.2:J)then Z (.inr<|(wF:V ((N M)×(N<|M×(N K)))))else zF b (X a) λg=>B (a.getD g (I,[])) λh=>if(X h.2:J)=1 then zF b (X a) λi=>B (a.getD i (I,[])) λd=>zF 0 (X d.2) λj=>B (d.2.getD j 0) λk=>if(((100:K):K):J)<(k:J)then Z (.inr<|(wF:V ((N M)×(N<|M×(N K)))))else zf (b+1) λl=>L l else zf (b+1) λm=>L m else Z (.inl ())
def Q5(a:N M):V ((V<|(N M)×(N<|M×(N K)))×(N M)):=if 5<(X a:J)then Z ((wF:V ((N M)×(N<|M×(N K)))),[])else Y (zg (Jw fu a) fu 0) λb=>match b with
 |.inl _=>Y (VK fu a) λ(d,e)=>if e=0 then Y (Jd fu a) λf=>Z (d,f)else Z ((wF:V ((N M)×(N<|M×(N K)))),[])
 |.inr g=>Z (g,[])
def uA(h:V ((N M)×(N<|M×(N K))))(b:N (N<|M×(N K)))(i:v6):ol (J×(N<|N<|M×(N K))) ((N<|N<|M×(N K))⊕(PX×Z3)):=λL (a,t3)=>Y (if a<(X b:J)then Z (i,h,b,(X b:J),wL)else Z (i,h,b,(X b:J),I):V (v6×(V<|(N M)×(N<|M×(N K)))×(N<|N<|M×(N K))×J×v6)) λ(l,j,t5,c,m)=>if m then zF a (X t5) λo=>nm (t5.getD o []) λk=>if l then zF a (X t3) λp=>nm (t3.getD p []) λq=>Y (Xx fu j q k) λ(r,s)=>Y (xo fu r s) λu=>match u with
 |.inl v=>(Z (.inr<|(v,())))
 |.inr w=>zF a (X t3) λy=>nm (t3.set y w) λA=>zf (a+1) λB=>L (B,A)else zF a (X t3) λC=>nm (t3.getD C []) λd=>Y (vK fu j d k) λ(e,E)=>Y (xo fu e E) λz2=>match z2 with
 |.inl G=>(Z (.inr<|(G,())))
 |.inr f=>zF a (X t3) λH=>nm (t3.set H f) λg=>zf (a+1) λn=>L (n,g)else Z (.inl t3)
def ZX(d:V ((N M)×(N<|M×(N K))))(e:N (N<|M×(N K)))(f:N (N<|M×(N K)))(h:v6):V (PX⊕(N<|N<|M×(N K))):=B (max (X e:J)<|(X f:J)) λi=>jA i λg=>ck (24*g<=281474976710656)<|B (Nm g []) λj=>B (Hg j e) λk=>Y (zg (uA fu d f h) fu<|(0,k)) λl=>match l with
 |.inl a=>(Y (yh fu d a) λz3=>match z3 with
 |.inl m=>(Z (.inl m))
 |.inr b=>Z (.inr b))
 |.inr (o,_)=>Z (.inl o)
def YJ(b:V ((N M)×(N<|M×(N K))))(d:N (N<|M×(N K)))(e:N (N<|M×(N K))):V ((N<|N<|M×(N K))×J):=Y (ZX fu b d e I) λf=>match f with
 |.inl a=>(ck (a.1=128)<|ck (XB a.2)<|some ([],a.2))
 |.inr g=>Z<|(g,0)
def VV(g:V ((N M)×(N<|M×(N K))))(d:N (N<|M×(N K))):ol ((N<|N<|M×(N K))×J×J×(V<|(N M)×(N<|M×(N K)))×(N<|N<|M×(N K))) (((N<|N<|M×(N K))×J×(V<|(N M)×(N<|M×(N K))))⊕(PX×((N<|N<|M×(N K))×J))):=λL (b,a,t3,e,t5)=>Y (if a<(X d:J)then Z (g,(X d:J),wL)else Z (g,(X d:J),I):V ((V<|(N M)×(N<|M×(N K)))×J×v6)) λ(i,u,j)=>if j then zF a (X t5) λk=>B (t5.getD k []) λl=>if 0<a then Y (jQ fu a) λm=>Y (xU fu i l [m]) λ(o,p)=>Y (xo fu o p) λz2=>match z2 with
 |.inl q=>(Z (.inr<|(q,(b,t3))))
 |.inr h=>ck ((X b+X ([h]))*24<=140737488355328)<|B (b++([h])) λf=>zf (a+1) λr=>L (f,r,t3,e,t5)else zf (a+1) λs=>L (b,s,t3,e,t5)else Z (.inl (b,t3,e))
def jl(b:V ((N M)×(N<|M×(N K))))(k:N (N<|M×(N K))):V ((N<|N<|M×(N K))×J):=Y (yh fu b k) λl=>match l with
 |.inl d=>(ck (d.1=128)<|ck (XB d.2)<|some ([],d.2))
 |.inr j=>Y (zg (VV fu b j) fu<|([],0,0,b,j)) λm=>match m with
 |.inl (a,o,e)=>(Y (yh fu e a) λz3=>match z3 with
 |.inl f=>(ck (f.1=128)<|ck (XB f.2)<|some (a,f.2))
 |.inr g=>Z<|(g,0))
 |.inr (h,(i,p))=>ck (h.1=128)<|ck (XB h.2)<|some (i,h.2)
def wZ(b:V ((N M)×(N<|M×(N K))))(d:N (N<|M×(N K)))(e:N (N<|M×(N K))):V ((N<|N<|M×(N K))×J):=Y (qY fu b d e) λf=>match f with
 |.inl a=>(ck (a.1=128)<|ck (XB a.2)<|some ([],a.2))
 |.inr g=>Z<|(g,0)
def Xa(b:V ((N M)×(N<|M×(N K))))(d:N (N<|M×(N K))):V ((N<|N<|M×(N K))×J):=Y (yh fu b d) λe=>match e with
 |.inl a=>(ck (a.1=128)<|ck (XB a.2)<|some ([],a.2))
 |.inr f=>Z<|(f,0)
def uQ(a0:xS Zr)(f:xS (xS<|Zr×(xS wr)))(k:xS (xS<|Zr×(xS wr)))(l:xS (xS<|Zr×(xS wr))):ww v6:=bd (Va fu) λe=>bd (Q5 fu a0) λ(a,t1)=>if(a).isNone=wL then Z e else bd (VL fu 3 [f,k,l]) λP=>if !P then Z e else bd (Xa fu a f) λ(p,x1)=>bd (Xa fu a k) λ(t3,x2)=>bd (wZ fu a f k) λ(d,x3)=>bd (wZ fu a k f) λ(t5,x4)=>bd (wZ fu a k l) λ(Q,x5)=>bd (wZ fu a d l) λ(m,x6)=>bd (wZ fu a f Q) λ(o,x7)=>bd (YJ fu a k l) λ(R,x8)=>bd (wZ fu a f R) λ(g,x9)=>bd (wZ fu a f l) λ(q,S)=>bd (YJ fu a d q) λ(h,U)=>bd (jl fu a f) λ(r,V)=>bd (jl fu a k) λ(s,W)=>bd (wZ fu a r k) λ(u,X)=>bd (wZ fu a f s) λ(v,Y)=>bd (YJ fu a u v) λ(i,c)=>bd (jl fu a d) λ(j,b)=>if(pM d:J)=0 then if(pM p:J)=0 then if e then if b=0 then bd (ym fu d t5) λx=>if x then bd (ym fu m o) λz=>if z then bd (ym fu g h) λD=>if D then bd (ym fu j i) λF=>Z F else Z I else Z I else Z I else Z I else Z I else if(pM t3:J)=0 then if e then if b=0 then bd (ym fu d t5) λL=>if L then bd (ym fu m o) λT=>if T then bd (ym fu g h) λc9=>if c9 then bd (ym fu j i) λw=>Z w else Z I else Z I else Z I else Z I else Z I else if 0<(pM d:J)then zf ((pM p:J)+(pM t3:J)) λy=>zf (y-1) λA=>if(pM d:J)=A then if e then if b=0 then bd (ym fu d t5) λB=>if B then bd (ym fu m o) λC=>if C then bd (ym fu g h) λE=>if E then bd (ym fu j i) λG=>Z G else Z I else Z I else Z I else Z I else Z I else if e then if b=0 then Z I else Z I else Z I else if e then if b=0 then Z I else Z I else Z I else if 0<(pM d:J)then zf ((pM p:J)+(pM t3:J)) λH=>zf (H-1) λn=>if(pM d:J)=n then if e then if b=0 then bd (ym fu d t5) λt=>if t then bd (ym fu m o) λK=>if K then bd (ym fu g h) λM=>if M then bd (ym fu j i) λN=>Z N else Z I else Z I else Z I else Z I else Z I else if e then if b=0 then Z I else Z I else Z I else if e then if b=0 then Z I else Z I else Z I
end
end
section
set_option maxRecDepth 100000
def sL:Z9->Z9|.seq a _=>a|c=>c
def sR:Z9->Z9|.seq _ b=>b|c=>c
def sB:Z9->Z9|.block _ c=>c|.loop c=>c|c=>c
def cT:Z9->Z9|.cond _ a _=>a|c=>c
def cF:Z9->Z9|.cond _ _ b=>b|c=>c
def ro:Z9->N uT|.region _ a _=>a.toList|_=>[]
def rd:Z9->K|.region i _ _=>i|_=>0
noncomputable def tB:Z9:=match Tryz.f57.body with|some c=>c|none=> .skip
noncomputable def t3:Z9:=sL<|sB<|sR tB
noncomputable def tc:Z9:=sR<|sB<|sR tB
noncomputable def t5:Z9:=sL<|cF tc
noncomputable def tc2:Z9:=sR<|cF tc
noncomputable def t67:Z9:=cT tc2
def zlH:Tryz.f57.body=Z (.seq (.region 0 (ro<|sL tB).toArray I) (.block 0 (.seq (.region 3 (ro t3).toArray I) (.cond (.tmp 7) (cT tc) (.seq (.region 5 (ro t5).toArray I) (.cond (.tmp 9) t67<|cF tc2)))))):=mS
def Pb(l:N uT):N (V Z4×Op×V (K×v6)):=l.map λo=>(o.dst,o.op,o.guard)
def k0:Pb (ro<|sL tB)=[(Z 5,.call ⟨.builtin .recover,#[],#[]⟩,wF)]:=mS
def k3:Pb (ro t3)=[(Z 7,.binOp .eql 20 (.tmp 5) (.const .nilIface) 20,wF)]:=mS
def k5:Pb (ro t5)=[(Z 8,.typeAssert (.tmp 5) 20 128 wL,wF),(Z 9,.extract (.tmp 8) 1,wF),(Z 10,.extract (.tmp 8) 0,wF)]:=mS
def k4:cT tc=.region 4 (ro<|cT tc).toArray I:=mS
def k4':Pb (ro<|cT tc)=[(Z 2,.assign (.tmp 5),wF)]:=mS
def anT:An:=⟨[],[],[],[],[],[],[]⟩
noncomputable def cfT:Cf:=⟨tt,[],anT,9,ex,[],[],[],[]⟩
noncomputable def o6:N uT:=ro<|sL t67
noncomputable def o7:N uT:=ro<|sR t67
def k67:t67=.seq (.region 6 o6.toArray I) (.region 7 o7.toArray I):=mS
abbrev cx1:Sg:=⟨0,[(0,0,.vs 0 .i)],[]⟩
def kE(σ:Sg):V (wT×J):=match xA σ.ob 0 with
 |some (.var .i a y)=>Z (a,y)
 |_=>wF
def zre(x z:J)(E:wT):zh6 cfT cx1 6 o6 I ⟨1,[(10,0,.d (.w1 .i) x)],[(0,.var .i E z)]⟩ (λ_ _=>wF) (λσ=>zh6 cfT cx1 7 o7 I σ (λ_ _=>wF) kE)=Z (E,x):=mS
def n6:(o6.all λo=>qK 15 o.dst)=wL:=mS
def n7:(o7.all λo=>qK 15 o.dst)=wL:=mS
def zsu:∃fs,Tryz.prog.underlying 128=Z (.struct fs):=by have⟨_,_,⟨fs,h,_⟩,_⟩:=(Bo 128 ⟨.w1 .i,.st 0,8⟩ mS).2.2.2;exact⟨fs,h⟩
def zbQ{l:N uT}{d:V Z4}{a:Op}{g:V (K×v6)}(h:Pb l=[(d,a,g)]):∃o,l=[o]/\o.dst=d/\o.op=a/\o.guard=g:=by unfold Pb at h;obtain _|⟨o,_|⟨_,_⟩⟩:=l<;>simp only[xbQ,xdS,xdX,xcL,ge,WD,and_false]at h;exact⟨o,O,h.1,h.2.1,h.2.2⟩
def zp1{l:N uT}{d d2 d3:V Z4}{e b c:Op}{g f i:V (K×v6)}(h:Pb l=[(d,e,g),(d2,b,f),(d3,c,i)]):∃o o2 a,l=[o,o2,a]/\(o.dst=d/\o.op=e/\o.guard=g)/\(o2.dst=d2/\o2.op=b/\o2.guard=f)/\a.dst=d3/\a.op=c/\a.guard=i:=by unfold Pb at h;obtain _|⟨o,_|⟨o2,_|⟨a,_|⟨_,_⟩⟩⟩⟩:=l<;>simp only[xbQ,xdS,xdX,xcL,ge,WD,and_false]at h;exact⟨o,o2,a,O,h.1,h.2.1,h.2.2⟩
def zpS:Tryz.prog.underlying 20=Z (.interface<|Tryz.prog.methodsAt 20):=mS
def wu{a:ut uT}{env:y6}{o:uT}(h:o.guard=wF):yR a env o=wL:=by unfold yR;rw[h]
section
variable{we:wP}{Se:wr->Prop}{F:xS MF}{G:xS FF}{env:y6}
abbrev QT(we:wP)(Se:K->Prop)(F:N MF)(G:N FF):Qs:=λe _ w=>e=.normal/\St we Se F G w
def ziK(d:env 5=.nilIface):T Tryz.prog (Nd.of 15) we Se F G (.block 0 (.seq (.region 3 (ro t3).toArray I) (.cond (.tmp 7) (cT tc) (.seq (.region 5 (ro t5).toArray I) (.cond (.tmp 9) t67<|cF tc2))))) (QT we Se F G) env:=by refine zcG<|YI ?_;have⟨o,hl,hd,b,c⟩:=zbQ k3;rw[hl];refine wH<|nW (wu c) (by rw[hd];rfl) λw a=>ui.of_value (v:=.bool wL) (w':=w) ?_ ?_;simp[jp,b,ev,d,WW,run_eql_nil_nil (w:=w) 20 zpS];refine Nv ?_ w a;rw[hd];refine YR O ?_;rw[k4];have⟨o,hl,hd,b,c⟩:=zbQ k4';rw[hl];refine wH<|nW (wu c) (by rw[hd];rfl) λw a=>ui.of_value (w':=w) (by simp[jp,b];rfl) ?_;exact jr (λw a=>⟨O,a⟩) w a
def znZ{v:wN}{E:wT}{x z:J}(h0:env 0=v)(n:XB x)(A:env 10=.agg #[.int .i64 x]){w:wP}(q:St we Se (mP (Ty.i).rep.c E v z::F) G w):Wp Tryz.prog (Nd.of 15) t67 (QT we Se (mP (Ty.i).rep.c E v x::F) G) env w:=by
 have r:∀s∈cfT.cs,yY Tryz.prog s:=λ_ h=>wS h H1;have t:AF Tryz.prog cfT:=.of Fj O;have⟨b,hv,_⟩:=q.openP 0 O;have B:uD Tryz.prog ⟨we,Se,F,G⟩ cx1 ⟨1,[(10,0,.d (.w1 .i) x)],[(0,.var .i E z)]⟩ env w:=by refine⟨⟨λe j=>(by obtain rfl:=xac.1 j;exact xdm),λ_ h=>wS h H1,λe j o k=>(by obtain rfl:=xac.1 j;cases k),λe j o k=>(by obtain rfl:=xac.1 j;cases k;exact xdm)⟩,λ_=>v,?_⟩;refine q.weak λS w l=>⟨?_,?_,l⟩;show(fV (eW eI) x<|env 10).p S w;rw[A];exact⟨[.int .i64 x],O,O,n.1,n.2⟩;exact⟨h0,b,hv⟩
 rw[k67];intro a h1 C D;refine fN<|Wn (DE (N:=Nd.of 15) (Q:=λe env w=>e=.normal/\Wp Tryz.prog (Nd.of 15) (.region 7 o7.toArray I) (QT we Se (mP (Ty.i).rep.c E v x::F) G) env w) Cp Bo CR r t (λ_ _ h=>by cases h) (λH K u w1 L hi=>⟨O,?_⟩) n6 (zre x z E) B a h1 C D) ?_;refine DE (N:=Nd.of 15) Cp Bo CR r t (λ_ _ h=>by cases h) (λg hd f M P hl=>⟨O,?_⟩) n7 K hi;unfold kE at hd;split at hd;rename_i Y y k;cases hd;have⟨hB,vs,R⟩:=hl;have hc:St we Se ([mP (Ty.i).rep.c E (vs 0) x]++(MS vs (yF g.ob 0)++F)) (RS Tryz.prog vs f g.rg++(RS Tryz.prog vs f cx1.rg++G)) M:=qM k R;have⟨S,_,m⟩:=hc.ex;have e1:f 0=vs 0:=(zB.left<|zB.right (Γ:=RS Tryz.prog vs f g.rg) m).1.1;have T:f 0=v:=((P _<|xac.2 O).trans<|L _<|xac.2 O).trans h0;rw[<-e1,T]at hc;exact(St.dropM hc).weak λS w l=>zB.right<|zB.right l
 cases hd
 rintro e U w' ⟨q1,q2,rfl,V⟩;exact V U q1 q2 O
def zfz{v:wN}{E:wT}{x z:J}(h0:env 0=v)(j:XB x)(d:env 5=.iface 128 (.agg #[.int .i64 x])):T Tryz.prog (Nd.of 15) we Se (mP (Ty.i).rep.c E v z::F) G (.block 0 (.seq (.region 3 (ro t3).toArray I) (.cond (.tmp 7) (cT tc) (.seq (.region 5 (ro t5).toArray I) (.cond (.tmp 9) t67<|cF tc2))))) (QT we Se (mP (Ty.i).rep.c E v x::F) G) env:=by refine zcG<|YI ?_;have⟨o,hl,hd,k,l⟩:=zbQ k3;rw[hl];refine wH<|nW (wu l) (by rw[hd];rfl) λw b=>ui.of_value (v:=.bool I) (w':=w) ?_ ?_;simp[jp,k,ev,d,WW,run_eql_held_nil (w:=w) 20 128 _ zpS];refine Nv ?_ w b;rw[hd];refine XJ O<|YI ?_;have⟨o1,o2,A,hl,⟨f,hc,m⟩,⟨g,n,hn⟩,hi,p,q⟩:=zp1 k5;have⟨fs,r⟩:=zsu;rw[hl];have s:put env (Z 7) (.bool I) 5=.iface 128 (.agg #[.int .i64 x]):=d;refine wH<|nW (wu m) (by rw[f];rfl) λw b=>ui.of_value (v:=.tuple #[.agg #[.int .i64 x],.bool wL]) (w':=w) (by simp[jp,hc,ev,s,Instr.typeAssert,ul r]) ?_;rw[f];refine nW (wu hn) (by rw[g];rfl) (λw b=>ui.of_value (v:=.bool wL) (w':=w) (by simp[jp,n,ev,Instr.extract,put,L]) ?_) w b;rw[g];have t:put (put (put env (Z 7) (.bool I)) (Z 8) (.tuple #[.agg #[.int .i64 x],.bool wL])) (Z 9) (.bool wL) 8=.tuple #[.agg #[.int .i64 x],.bool wL]:=O;refine nW (wu q) (by rw[hi];rfl) (λw b=>ui.of_value (v:=.agg #[.int .i64 x]) (w':=w) (by simp[jp,p,ev,t,Instr.extract]) ?_) w b;rw[hi];refine Nv ?_ w b;refine YR O ?_;intro w b a h1 u h;refine Wn (znZ (env:=zW a) (by rw[h];exact h0) j (by rw[h];rfl) b a h1 u O) ?_;rintro e B w' ⟨q1,q2,rfl,y⟩;exact⟨q1,q2,O,y⟩
end
def PS{o:uT}(b:o.op=.call ⟨.builtin .recover,#[],#[]⟩)(a:V0)(w:wP):(jp a.eval o).run Tryz.prog w=.ok .recover w:=by simp[jp,b,Ws,WP,Ut]
def N7{v y:wN}{a:V0}(b:a=(⟨#[v]++xdi (15- #[v].size) Z0,[]⟩:V0).put (Z 5) y):a.tmps.size=15/\a.defers=[]/\zW a 5=y/\zW a 0=v:=by subst b;refine⟨by simp[Act.put],O,?_,?_⟩;simp[Act.put,zW];simp[Act.put,zW]
def gI:HOK Tryz.prog 57 128:=by
 have hn:Tryz.f57.ntmps=15:=mS
 have p:Tryz.f57.results= #[]:=mS
 have j:∀(a:V0) (w:wP),(WT Tryz.f57 a.tmps).run Tryz.prog w=.ok (.tuple #[]) w:=λa w=>by simp[WT]
 have⟨o,hl,hd,hi,k⟩:=zbQ k0;refine⟨mS,λv we Se F G w d=> ?_,λv E z x we Se F G w l d=> ?_⟩;refine ii (n:=0) Tryz.func57 zlH wR λb cs c=>wpSIn_seq ?_;rw[hl];refine wpSIn_region ?_;have hc:iT (b::cs)=wF:=by simp[iT,c]
 show bI _ _ _ [o].toArray _ [0] _ _ _;unfold bI;simp only[xfE,xbC];refine⟨λ_ _=>wR,?_⟩;rw[S (by simp[Region.wanted,k]),PS hi];simp only[hc,hd,hn];unfold bI;generalize f:Act.put _ _ _=a;have⟨h1,g,h,h0⟩:=N7 f.symm;refine wpSIn_of_wpIn O ?_;refine Wn (ziK (F:=F) (G:=G) (we:=we) (Se:=Se) (env:=zW a) h w d a h1 g O) ?_;rintro e m w' ⟨q1,q2,rfl,i⟩;exact⟨q2,_,by rw[<-c],_,j _ _,⟨_,O⟩,O,i⟩;refine ii (n:=0) Tryz.func57 zlH wR λb cs c=>wpSIn_seq ?_;rw[hl];refine wpSIn_region ?_;have hc:iT (b::cs)=Z (.iface 128 (.agg #[.int .i64 x]),{b with mode:=.panicking [{v:=.iface 128 (.agg #[.int .i64 x]),recovered:=wL}]}::cs):=by simp[iT,c,pE]
 show bI _ _ _ [o].toArray _ [0] _ _ _;unfold bI;simp only[xfE,xbC];refine⟨λ_ _=>wR,?_⟩;rw[S (by simp[Region.wanted,k]),PS hi];simp only[hc,hd,hn];unfold bI;generalize f:Act.put _ _ _=a;have⟨h1,g,h,h0⟩:=N7 f.symm;refine wpSIn_of_wpIn O ?_;refine Wn (zfz (F:=F) (G:=G) (we:=we) (Se:=Se) (env:=zW a) (v:=v) h0 l h w d a h1 g O) ?_;rintro e m w' ⟨q1,q2,rfl,i⟩;exact⟨q2,_,O,_,j _ _,⟨_,O⟩,O,i⟩
end
section
set_option maxRecDepth 100000
section
open Go.Proofs.Tryz
variable(fu:wr)
def oi:yv ⟨97,[.d zN,.d zN],[.d .b],λx=>Xd fu x.1 x.2.1,0⟩:=sq fu ⟨[],[],[(4,⟨⟨[(5,.d .i)],[]⟩,⟨[],[(.x 0,⟨[],[]⟩),(.r,⟨[],[(4,.kb I)]⟩)]⟩⟩)],[],[],[],[]⟩ func97<|cN
def IV:yv ⟨86,[.d F,.d F],[.d .b],λx=>QS fu x.1 x.2.1,0⟩:=sq fu wx func86<|D (oi fu)<|cN
def Ns:yv ⟨50,[.d (.p F zN),.d (.p F zN)],[.d .b],λx=>Q6 fu x.1 x.2.1,0⟩:=sq fu wx func50<|D (oi fu)<|D (IV fu)<|cN
def Np:yv ⟨23,[.d (.l (.p F zN)),.d (.l (.p F zN))],[.d .b],λx=>QO fu x.1 x.2.1,0⟩:=sq fu ⟨[],[],[(4,⟨⟨[(5,.d .i)],[]⟩,⟨[],[(.x 0,⟨[],[]⟩),(.r,⟨[],[(4,.kb I)]⟩)]⟩⟩)],[],[],[],[]⟩ func23<|D (Ns fu)<|cN
def NL:yv ⟨63,[.d (.l (.l (.p F zN))),.d (.l (.l (.p F zN)))],[.d .b],λx=>Je fu x.1 x.2.1,0⟩:=sq fu ⟨[],[],[(4,⟨⟨[(5,.d .i)],[]⟩,⟨[],[(.x 0,⟨[],[]⟩),(.r,⟨[],[(4,.kb I)]⟩)]⟩⟩)],[],[],[],[]⟩ func63<|D (Np fu)<|cN
def oZ:yv ⟨18,[.d (.l (.l (.p F zN))),.d (.l (.l (.p F zN)))],[.d .b],λx=>ym fu x.1 x.2.1,0⟩:=sq fu wx func18<|D (NL fu)<|cN
def DQ:yv ⟨184,[.d zN,.d .i],[.d .u],λx=>Vf fu x.1 x.2.1,0⟩:=sq fu wx func184<|cN
def Oe:yv ⟨183,[.d .i,.d .u,.q zN,.q zN],[.d .u,.d .u],λx=>ek fu x.1 x.2.1 x.2.2.1 x.2.2.2.1,0⟩:=sq fu wx func183<|D (DQ fu)<|cN
def Yi:yv ⟨182,[.d .i,.fn [.i,.u] [.u,.u]],[.own .u 73,.d .u],λx=>qb fu x.1<|λz0 a=>x.2.1 (z0,a,()),0⟩:=sq fu ⟨[],[],[(4,q1 [(7,.d .u),(13,.d .i),(6,.own .u 73)] 0 [(7,.d .u),(6,.own .u 73)])],[],[],[],[]⟩ func182<|cN
def vD:yv ⟨136,[.d zN],[.d zN],λx=>wX fu x.1,0⟩:=sq fu ⟨[],[],[(1,q1 [(0,.d zN)] 0 [(0,.d zN)])],[],[],[],[]⟩ func136<|cN
def xu:yv ⟨136,[.own .u 73],[.own .u 73],λx=>xw fu x.1,0⟩:=sq fu ⟨[],[],[(1,q1 [(0,.own .u 73)] 0 [(0,.own .u 73)])],[],[],[],[]⟩ func136<|cN
def Ab:yv ⟨139,[.d zN,.d zN],[.own .u 73],λx=>Zw fu x.1 x.2.1,0⟩:=sq fu wx func139<|D (xu fu)<|D (vD fu)<|D (Yi fu)<|D (Oe fu)<|cN
def AU:yv ⟨234,[.d .i],[.d .b],λx=>Yn fu x.1,0⟩:=sq fu wx func234<|cN
def rn:yv ⟨195,[.d .i,.d .i],[.d .i],λx=>uE fu x.1 x.2.1,0⟩:=sq fu wx func195<|D (AU fu)<|cN
def ny:yv ⟨235,[.d .u],[.d .b],λx=>kH fu x.1,0⟩:=sq fu wx func235<|cN
def cW:yv ⟨196,[.d .u,.d .u],[.d .i],λx=>qU fu x.1 x.2.1,0⟩:=sq fu wx func196<|D (ny fu)<|cN
def Hl:yv ⟨160,[.d zN,.d zN],[.d .i],λx=>Jm fu x.1 x.2.1,0⟩:=sq fu ⟨[],[],[(5,⟨⟨[(5,.d .i)],[]⟩,⟨[],[(.x 0,⟨[],[]⟩),(.r,⟨[(4,.d .i)],[]⟩)]⟩⟩)],[],[],[],[]⟩ func160<|D (xu fu)<|D (vD fu)<|D (rn fu)<|D (cW fu)<|cN
set_option maxRecDepth 100000 in
set_option maxHeartbeats 1000000 in
def Qn(l:N K)(v0:wN)(c:X l<=17592186044416):Fn Tryz.prog 190 [v0].toArray [fV (eS eU) (l) v0] (λu:wN=>u) (λu=>[fV (eS eU) (l) u]) (λ_=>Xs):=by refine Om func190 O O λwe Se rest=> ?_;refine zho (λS w h=>zoj h.1) λhc=> ?_;refine zho (λS w h=>zfH h.1) λhd=> ?_;refine YI ?_;refine wH ?_;refine Ig 1 [(0,v0)] O λrest=> ?_;refine jr ?_;refine YI ?_;refine YI ?_;refine wH ?_;refine Ig 1 [(0,v0),(3,v0)] O λrest=> ?_;refine zkz O O (zjA (e:=eU) (xs:=l) Tryz.underlying42 O O<|λS w h=>h.1) λq1 d=> ?_;refine Ig 0 [(0,v0),(4,.bool<|q1)] O λrest=> ?_;refine jr ?_;refine zoR (q1) O (λb=> ?_)<|λb=> ?_;refine YI ?_;refine wH ?_;refine Ig 1 [(2,.slice wF 0 0)] O λrest=> ?_;refine jr ?_;refine zbL ?_;exact zi1 (.slice wF 0 0:wN) Tryz.results190 O wR<|λS w h=>⟨(cvt (show([])=(l)from by first|rfl|simp_all) zeG),wR⟩;refine Ml ?_;refine YI ?_;refine wH ?_;refine zfo (e:=eU) O O Tryz.underlying42 zpu λv1=> ?_;refine Ig 1 [(5,v1),(6,v0)] O λrest=> ?_;refine zdQ (e:=eU) (xs:=[]) (ys:=l) 0 O O Tryz.underlying42 zpu O mD O O O (λS w h=>h.1) (by first|lia|(simp only[xbT,xat,xaM,xaw,xar,xch];lia)|(simp;lia)) (by first|lia|(simp only[xbT,xat,xaM,xaw,xar,xch];lia)|(simp;lia)) λa=> ?_;show TL _ _ _ _ [mO eU 73 a<|[]++l] _ _ _ _ _;refine Ig 1 [(2,a)] O λrest=> ?_;refine jr ?_;refine zbL ?_;refine zc2 (λw h=>LP 0 h O) ?_;exact zi1 a Tryz.results190 O wR<|λS w h=>⟨(cvt (show([]++l)=(l)from by first|rfl|simp_all) h.1),wR⟩
def Qi(a0:N K)(a:wN)(r0:N K)(H:wj fu a0=Z r0):Fn Tryz.prog 190 [a].toArray [fV (eS eU) (a0) a] (λu:wN=>u) (λu=>[fV (eS eU) (r0) u]) (λ_=>Xs):=by have⟨b,H⟩:=ZO H;obtain rfl:=zm9 H;exact Qn a0 a b
def Qm:yv ⟨190,[.d zN],[.d zN],λx=>wj fu x.1,0⟩:=zoT (s:=zN) (t:=zN) mS λx r v h=>Qi fu x v r h
def nA:yv ⟨157,[.d zN],[.d zN],λx=>YE fu x.1,0⟩:=sq fu wx func157<|D (xu fu)<|D (vD fu)<|D (Qm fu)<|cN
def Ow:yv ⟨264,[.d .i,.d .u,.q zN,.q .i],[.d .u,.d .u],λx=>gB fu x.1 x.2.1 x.2.2.1 x.2.2.2.1,0⟩:=sq fu wx func264<|cN
def AH:yv ⟨140,[.d zN,.d .i],[.own .u 73],λx=>YT fu x.1 x.2.1,0⟩:=sq fu wx func140<|cN
def sK:yv ⟨218,[.d zN,.d .i],[.own .u 73,.d .i],λx=>X7 fu x.1 x.2.1,0⟩:=sq fu ⟨[],[],[],[(4,[23])],[],[],[]⟩ func218<|D (Ow fu)<|D (AH fu)<|D (xu fu)<|D (vD fu)<|D (Yi fu)<|cN
def Sz:yv ⟨265,[.d .i,.d .u,.q zN,.q .i],[.d .u,.d .u],λx=>eY fu x.1 x.2.1 x.2.2.1 x.2.2.2.1,0⟩:=sq fu wx func265<|D (DQ fu)<|cN
def HY:yv ⟨220,[.d zN,.d .i],[.own .u 73],λx=>UF fu x.1 x.2.1,0⟩:=sq fu ⟨[2,3],[],[],[],[],[],[]⟩ func220<|D (xu fu)<|D (vD fu)<|D (Sz fu)<|D (Yi fu)<|cN
set_option maxRecDepth 100000 in
set_option maxHeartbeats 1000000 in
def ra(fu:K)(a0:K)(b:dV a0)(r0:J)(H:xV fu a0=Z r0):Fn Tryz.prog 263 [uv a0].toArray [] (λ_:Z3=>iv<|r0) (λ_=>[]) (λ_=>XB r0):=by
 unfold xV at H;refine Om func263 O O λwe Se rest=>YI<|wH<|XR 1 [(2,iv 0)] O<|jr<|YI ?_
 have⟨B,d,e⟩:=rV H;refine T_X [(.n,JQ we Se (G:=K×J) (λ(d1,i1)=>(⟨[],[],[(0,uv d1),(2,iv<|i1)]⟩:Inv))<|λ(d1,i1)=>(d1,i1)=B/\dV d1/\XB i1)] ?_ ⟨?_,wR⟩;replace H:=d
 refine YI<|wH<|XR 1 [(3,uv a0)] O<|zaV O O O O (λh1=> ?_) (λh1=> ?_);replace H:=znm h1 H
 refine jr<|YR O<|YI<|wH<|XR 1 [(5,uv a0)] O ?_
 have⟨f,r,H⟩:=xN H
 refine ZY O O (Ey (c:=(f:J)) O O (xdl _)<|zdm r<|rL (a:=a0))<|XR 1 [(0,uv f)] O<|jr<|wH<|XR 1 [(2,iv 32)] O<|jr ?_
 exact za4 (f,32) (xfF (xdW H)<|xfF (EY b r) (mD:XB (32))) O<|λw h=>St.weak h<|λS w h=>wR
 replace H:=zof h1 H
 refine jr<|XJ O<|Ml ?_
 exact za4 (a0,0) (xfF (xdW H)<|xfF b (mD:XB (0))) O<|λw h=>St.weak h<|λS w h=>wR
 refine zgC ?_;rintro⟨d1,i1⟩ ⟨g,hi,hn⟩ rest;subst g;replace H:=e;clear d;refine zlt O<|YI ?_
 have⟨C,d,e⟩:=rV H;refine T_X [(.n,JQ we Se (G:=K×J) (λ(d2,i2)=>(⟨[],[],[(0,uv d2),(2,iv<|i2)]⟩:Inv))<|λ(d2,i2)=>(d2,i2)=C/\dV d2/\XB i2)] ?_ ⟨?_,wR⟩;replace H:=d
 refine YI<|wH<|XR 1 [(7,uv d1)] O<|zaV O O O O (λi=> ?_) (λi=> ?_);replace H:=znm i H
 refine jr<|YR O<|YI<|wH<|XR 1 [(9,uv d1)] O ?_
 have⟨j,s,H⟩:=xN H
 refine ZY O O (Ey (c:=(j:J)) O O (xdl _)<|zdm s<|rL (a:=d1))<|XR 1 [(0,uv j)] O<|jr<|wH<|XR 1 [(11,iv<|i1)] O ?_
 have⟨k,D,t,H⟩:=JC H
 refine ZY O O (CB (c:=k) O O<|w_x D t)<|XR 1 [(2,iv<|k)] O<|jr ?_
 exact za4 (j,k) (xfF (xdW H)<|xfF (EY hi s) t) O<|λw h=>St.weak h<|λS w h=>wR
 replace H:=zof i H
 refine jr<|XJ O<|Ml ?_
 exact za4 (d1,i1) (xfF (xdW H)<|xfF hi hn) O<|λw h=>St.weak h<|λS w h=>wR
 refine zgC ?_;rintro⟨d2,i2⟩ ⟨g,P,hv⟩ rest;subst g;replace H:=e;clear d;refine zlt O<|YI<|YI<|wH<|XR 1 [(13,uv d2)] O<|zaV O O O O (λl=> ?_) (λl=> ?_);replace H:=znm l H
 refine jr<|YR O<|YI<|wH<|XR 1 [(15,uv d2)] O ?_
 have⟨m,hp,H⟩:=xN H
 refine ZY O O (Ey (c:=(m:J)) O O (xdl _)<|zdm hp<|rL (a:=d2))<|XR 1 [(0,uv m)] O<|jr<|wH<|XR 1 [(17,iv<|i2)] O ?_
 have⟨o,E,F,H⟩:=JC H
 refine ZY O O (CB (c:=o) O O<|w_x E F)<|XR 1 [(2,iv<|o)] O<|jr<|YI<|wH<|XR 2 [(20,uv m),(19,iv<|o)] O ?_
 have⟨L,p,H⟩:=xN H
 refine ZY O O (Qk (c:=(L:J)) Tryz.underlying73 Tryz.underlying5 O<|mN p<|wu8 _) ?_
 have⟨u,hl,H⟩:=xN H
 refine ZY O O (zhH (z:=u) Tryz.underlying9 O mS O (NG p) hl)<|ZY O O (Qk (c:=(u:J)) Tryz.underlying5 Tryz.underlying3 O<|w64<|b_r<|H7 (NG p) hl) ?_
 have⟨v,M,hc,H⟩:=JC H
 refine ZY O O (CB (c:=v) O O<|w_x M hc)<|XR 1 [(2,iv<|v)] O<|jr<|zbL ?_
 obtain rfl:=zm9 H
 exact zi1 () Tryz.results263 O hc<|λS w h=>wR
 replace H:=zof l H;refine jr<|XJ O<|Ml<|YI<|wH<|XR 2 [(20,uv d2),(19,iv<|i2)] O ?_
 have⟨N,q,H⟩:=xN H;refine ZY O O (Qk (c:=(N:J)) Tryz.underlying73 Tryz.underlying5 O<|mN q<|wu8 _) ?_;have⟨x,y,H⟩:=xN H;refine ZY O O (zhH (z:=x) Tryz.underlying9 O mS O (NG q) y)<|ZY O O (Qk (c:=(x:J)) Tryz.underlying5 Tryz.underlying3 O<|w64<|b_r<|H7 (NG q) y) ?_
 have⟨A,ht,hd,H⟩:=JC H;refine ZY O O (CB (c:=A) O O<|w_x ht hd)<|XR 1 [(2,iv<|A)] O<|jr<|zbL ?_
 obtain rfl:=zm9 H;exact zi1 () Tryz.results263 O hd<|λS w h=>wR
def Xc:yv ⟨263,[.d .u],[.d .i],λx=>xV fu x.1,0⟩:=zob mS λx r a h=>ra fu x a r h
def uW:yv ⟨217,[.d .u],[.d .i],λx=>xI fu x.1,0⟩:=sq fu wx func217<|D (Xc fu)<|cN
def KJ:yv ⟨197,[.d .u,.d .u,.d .u],[.d .u,.d .u],λx=>qZ fu x.1 x.2.1 x.2.2.1,0⟩:=sq fu ⟨[],[],[(17,q1 [(15,.d .u),(16,.d .u)] 0 [(15,.d .u)]),(24,q1 [(16,.d .u),(18,.d .u)] 2 [(18,.d .u)])],[],[],[],[]⟩ func197<|D (uW fu)<|cN
def K4:yv ⟨224,[.d .u,.d .u],[.d .u,.d .u],λx=>qX fu x.1 x.2.1,0⟩:=sq fu wx func224<|cN
def OI:yv ⟨219,[.d .u,.d .u,.d .u,.d .u,.d .u],[.d .u],λx=>Kl fu x.1 x.2.1 x.2.2.1 x.2.2.2.1 x.2.2.2.2.1,0⟩:=sq fu ⟨[],[],[(4,⟨⟨[(11,.d .u),(12,.d .u)],[]⟩,⟨[],[(.r,⟨[(10,.d .u)],[]⟩)]⟩⟩)],[],[],[],[]⟩ func219<|D (K4 fu)<|D (KJ fu)<|cN
def RY:yv ⟨225,[.d .i,.d .u,.q zN,.q zN],[.d .u,.d .u],λx=>eE fu x.1 x.2.1 x.2.2.1 x.2.2.2.1,0⟩:=sq fu wx func225<|D (DQ fu)<|cN
def te:yv ⟨181,[.d zN,.d zN],[.own .u 73,.d .i],λx=>Jt fu x.1 x.2.1,0⟩:=sq fu wx func181<|D (xu fu)<|D (vD fu)<|D (RY fu)<|D (Yi fu)<|cN
def En:yv ⟨138,[.d zN,.d zN],[.own .u 73],λx=>X3 fu x.1 x.2.1,0⟩:=sq fu wx func138<|D (te fu)<|cN
def Ss:yv ⟨223,[.d .i,.d .u,.q zN,.q .u],[.d .u,.d .u],λx=>ga fu x.1 x.2.1 x.2.2.1 x.2.2.2.1,0⟩:=sq fu wx func223<|D (K4 fu)<|cN
def GL:yv ⟨179,[.d zN,.d .u],[.own .u 73],λx=>Jr fu x.1 x.2.1,0⟩:=sq fu wx func179<|D (Yi fu)<|D (Ss fu)<|cN
def Sk:yv ⟨161,[.d zN,.d .u],[.own .u 73,.d .u],λx=>KY fu x.1 x.2.1,0⟩:=sq fu ⟨[],[],[(3,q1 [(7,.d .u),(8,.d .i),(6,.own .u 73)] 0 [(7,.d .u),(6,.own .u 73)])],[],[],[],[]⟩ func161<|D (xu fu)<|D (vD fu)<|D (KJ fu)<|cN
def H2:yv ⟨173,[.d zN,.d zN],[.own .u 73,.d zN,.d .i],λx=>ae fu x.1 x.2.1,0⟩:=sq fu ⟨[],[(196612,⟨[],[(.n,⟨[(23,.d .b)],[]⟩)]⟩),(327686,⟨[],[(.n,⟨[(27,.d .b)],[]⟩)]⟩)],[(16,q1 [(10,.d zN),(16,.d .i),(12,.own .u 73),(15,.own .u 73)] 1 [(12,.own .u 73),(15,.own .u 73)]),(20,⟨⟨[(9,.d .i),(14,.d .i),(17,.d .u),(18,.d zN)],[]⟩,⟨[12,15],[(.x 3,⟨[(9,.d .i),(14,.d .i),(17,.d .u),(18,.d zN)],[]⟩)]⟩⟩)],[(23,[149])],[129],[],[]⟩ func173<|D (Hl fu)<|D (Sk fu)<|D (xu fu)<|D (vD fu)<|D (En fu)<|D (GL fu)<|D (uW fu)<|D (sK fu)<|D (OI fu)<|D (HY fu)<|D (nA fu)<|cN
def ji:yv ⟨108,[.d .b,.d zN],[.d F],λx=>xl fu x.1 x.2.1,0⟩:=sq fu wx func108<|D (nA fu)<|cN
def mZ:yv ⟨141,[.d F,.d F],[.d F,.d F,.d .i],λx=>WG fu x.1 x.2.1,0⟩:=sq fu ⟨[],[(327688,⟨[4,5],[(.n,⟨[(7,.own .u 73),(8,.d zN)],[]⟩)]⟩)],[],[],[],[],[]⟩ func141<|D (Ab fu)<|D (ji fu)<|D (H2 fu)<|D (te fu)<|cN
def YK:yv ⟨135,[.d F],[.d F],λx=>qe fu x.1,0⟩:=sq fu wx func135<|D (ji fu)<|cN
def qi:yv ⟨98,[.d F],[.d .i],λx=>xD fu x.1,0⟩:=sq fu ⟨[1],[],[],[],[],[],[]⟩ func98<|D (YK fu)<|cN
def Xt:yv ⟨91,[.d F,.d F],[.d F,.d .i],λx=>vX fu x.1 x.2.1,0⟩:=sq fu ⟨[],[(196612,⟨[4,6,7],[(.n,⟨[(16,.d .b)],[]⟩)]⟩)],[],[],[],[],[]⟩ func91<|D (qi fu)<|D (mZ fu)<|cN
def nk:yv ⟨130,[.d F,.d F],[.d F],λx=>Wu fu x.1 x.2.1,0⟩:=sq fu ⟨[],[],[(2,⟨⟨[(5,.d zN),(6,.d zN)],[]⟩,⟨[4],[(.x 0,⟨[(5,.d zN)],[]⟩)]⟩⟩)],[],[],[],[]⟩ func130<|D (ji fu)<|D (nA fu)<|D (H2 fu)<|cN
def aN:yv ⟨131,[.d F],[.d F],λx=>u4 fu x.1,0⟩:=sq fu wx func131<|D (ji fu)<|cN
def mM:yv ⟨83,[.d F,.d F],[.d (.p F zN),.d .i],λx=>We fu x.1 x.2.1,0⟩:=sq fu wx func83<|D (qi fu)<|D (Xt fu)<|D (aN fu)<|D (nk fu)<|cN
def ND:yv ⟨137,[.d zN,.d zN],[.own .u 73],λx=>Q3 fu x.1 x.2.1,0⟩:=sq fu ⟨[],[(262149,⟨[5],[(.n,⟨[(0,.d zN),(18,.d zN),(19,.d .i),(21,.d .b)],[]⟩)]⟩),(524297,⟨[5,27],[(.n,⟨[(0,.d zN),(6,.d .i),(18,.d zN),(19,.d .i),(20,.d .i),(28,.d .i),(30,.d .b)],[]⟩)]⟩)],[(3,q1 [(20,.d .i),(5,.own .u 73)] 0 [(5,.own .u 73)]),(7,q1 [(8,.d .u),(29,.d .i),(5,.own .u 73),(27,.own .u 73)] 2 [(5,.own .u 73)])],[],[],[],[]⟩ func137<|D (xu fu)<|D (vD fu)<|D (GL fu)<|cN
def zdP:XW:=⟨90,[.d zN,.d zN],[.own .u 73],λx=>Zx fu x.1 x.2.1,0⟩
def gU:∀fu:K,yv (zdP fu)
 |0=>sg0 mS λ_=>O
 |fu+1=>sq fu wx func90<|D (xu fu)<|D (vD fu)<|D (ND fu)<|D (En fu)<|D (Ab fu)<|D (AH fu)<|D (gU fu)<|cN
def xr:yv ⟨92,[.d F,.d F],[.d F],λx=>zM fu x.1 x.2.1,0⟩:=sq fu wx func92<|D (gU fu)<|D (ji fu)<|cN
def u9:yv ⟨194,[.d F,.d F],[.d F],λx=>vQ fu x.1 x.2.1,0⟩:=sq fu ⟨[2,3],[(262150,⟨[4],[(.n,⟨[(2,.var F 44),(3,.var F 44)],[]⟩)]⟩)],[],[],[],[],[]⟩ func194<|D (Hl fu)<|D (Ab fu)<|D (ji fu)<|D (te fu)<|cN
def X5:yv ⟨193,[.d F,.d F],[.d F],λx=>qu fu x.1 x.2.1,0⟩:=sq fu wx func193<|D (u9 fu)<|D (aN fu)<|cN
def Ej:yv ⟨134,[.d .i,.d F],[.d F],λx=>JF fu x.1 x.2.1,0⟩:=sq fu wx func134<|D (YK fu)<|cN
def xt:yv ⟨127,[.d yQ,.fn [.i,F] [F]],[.own F 44],λx=>zH fu x.1<|λz0 a=>x.2.1 (z0,a,()),0⟩:=sq fu ⟨[],[(262149,⟨[5],[(.n,⟨[(11,.d yQ),(12,.d .i),(14,.d .b)],[]⟩)]⟩)],[(3,q1 [(13,.d .i),(5,.own F 44)] 0 [(5,.own F 44)])],[],[],[],[]⟩ func127<|cN
def xp:yv ⟨88,[.d yQ],[.own F 44],λx=>zQ fu x.1,0⟩:=sq fu ⟨[],[],[(1,q1 [(0,.d yQ)] 0 [(0,.d yQ)])],[],[],[],[]⟩ func88<|D (qi fu)<|D (Ej fu)<|D (xt fu)<|cN
def dW:XW:=⟨216,[.d yQ,.d yQ],[.own F 44,.d .i],λx=>wA fu x.1 x.2.1,0⟩
def KN:yv (dW fu):=sq fu ⟨[],[(327687,⟨[1,6],[(.n,⟨[],[]⟩),(.r,⟨[],[(4,.nil),(5,.ci 4)]⟩)]⟩),(1048593,⟨[1,6,7,9],[(.n,⟨[(8,.d .i),(71,.d .i),(73,.d .b)],[]⟩)]⟩)],[(8,⟨⟨[(8,.d .i),(1,.own F 44),(6,.own F 44),(7,.own F 44)],[]⟩,⟨[],[(.x 0,⟨[(6,.own F 44),(7,.own F 44)],[]⟩),(.r,⟨[(5,.d .i)],[(4,.nil)]⟩)]⟩⟩),(15,⟨⟨[(72,.d .i),(1,.own F 44),(6,.own F 44),(7,.own F 44),(9,.var F 44)],[(70,.al 1)]⟩,⟨[],[(.x 2,⟨[(1,.own F 44),(6,.own F 44),(7,.own F 44)],[]⟩)]⟩⟩)],[(10,[])],[],[],[]⟩ func216<|D (xp fu)<|D (X5 fu)<|D (Xt fu)<|D (xr fu)<|cN
def L5:yv ⟨172,[.d yQ,.d yQ],[.d .i],λx=>Y4 fu x.1 x.2.1,0⟩:=sq fu ⟨[],[],[(3,q1 [(5,.d .i),(6,.own F 44),(7,.d .i)] 0 [(5,.d .i)])],[],[],[],[]⟩ func172<|D (KN fu)<|cN
def JK:yv ⟨247,[.d .i],[.d .b],λx=>Zm fu x.1,0⟩:=sq fu ⟨[],[(131075,⟨[],[(.n,⟨[(3,.d .b)],[]⟩)]⟩)],[(3,q1 [(3,.d .b),(4,.d .i)] 0 [(3,.d .b)])],[],[],[],[]⟩ func247<|cN
def xB:yv ⟨65,[.d .i],[.d F],λx=>yq fu x.1,0⟩:=sq fu wx func65<|D (ji fu)<|cN
def aF:yv ⟨241,[.d zN],[.d .i],λx=>Zf fu x.1,0⟩:=sq fu wx func241<|D (xu fu)<|D (vD fu)<|D (Xc fu)<|cN
def TC:yv ⟨248,[.d F,.d .i],[.d F,.d .i],λx=>aI fu x.1 x.2.1,0⟩:=sq fu ⟨[],[(131075,⟨[4],[(.n,⟨[(8,.d .b)],[]⟩)]⟩)],[(7,⟨⟨[(1,.d .i),(7,.var F 44),(6,.var F 44)],[]⟩,⟨[4],[(.x 1,⟨[(6,.var F 44)],[]⟩)]⟩⟩)],[],[],[],[]⟩ func248<|D (xB fu)<|D (aF fu)<|D (xr fu)<|D (YK fu)<|cN
def Kc:yv ⟨210,[.d .i,.d .i],[.d F,.d .i],λx=>qx fu x.1 x.2.1,0⟩:=sq fu wx func210<|D (TC fu)<|D (xB fu)<|D (JK fu)<|cN
def fZ:yv ⟨339,[.d yQ,.d F,.fn [F,F] [F,.i]],[.own F 44,.d .i],λx=>qH fu x.1 x.2.1<|λz0 a=>x.2.2.1 (z0,a,()),0⟩:=sq fu ⟨[],[(393223,⟨[8],[(.n,⟨[(4,.q F),(17,.d yQ),(18,.d .i),(20,.d .b)],[]⟩)]⟩)],[(5,q1 [(19,.d .i),(8,.own F 44)] 0 [(8,.own F 44)])],[],[],[],[]⟩ func339<|D (xp fu)<|D (qi fu)<|cN
def Jc:yv ⟨315,[.d F,.d F],[.d F,.d .i],λx=>q6 fu x.1 x.2.1,0⟩:=sq fu wx func315<|D (qi fu)<|D (mZ fu)<|cN
def pF:yv ⟨298,[.d yQ,.d F],[.own F 44,.d .i],λx=>Xh fu x.1 x.2.1,0⟩:=sq fu wx func298<|D (Jc fu)<|D (fZ fu)<|cN
def Jg:yv ⟨256,[.d yQ,.d F],[.own F 44],λx=>xq fu x.1 x.2.1,0⟩:=sq fu wx func256<|D (pF fu)<|cN
def ju:yv ⟨287,[.d .i],[.d .i],λx=>vg fu x.1,0⟩:=sq fu wx func287<|D (JK fu)<|cN
def dZ:yv ⟨319,[.d .i,.d .i],[.d .i],λx=>Zn fu x.1 x.2.1,0⟩:=sq fu wx func319<|cN
def E7:XW:=⟨331,[.d .i,.d .i],[.d .i,.d .i],λx=>Vy fu x.1 x.2.1,0⟩
def Ee:yv (E7 fu):=sq fu ⟨[],[],[(5,⟨⟨[(7,.d .i),(8,.d .i),(9,.d .i),(10,.d .i)],[]⟩,⟨[],[(.x 0,⟨[(10,.d .i)],[]⟩),(.r,⟨[],[(4,.ci 0),(5,.ci 3)]⟩)]⟩⟩)],[],[],[],[]⟩ func331<|D (dZ fu)<|D (ju fu)<|cN
def wa:yv ⟨288,[.d xh,.d .i],[.own .i 3],λx=>yi fu x.1 x.2.1,0⟩:=sq fu ⟨[],[],[(3,q1 [(13,.d .i),(5,.own .i 3)] 0 [(5,.own .i 3)]),(7,q1 [(5,.own .i 3)] 2 [(5,.own .i 3)])],[],[],[],[]⟩ func288<|D (dZ fu)<|cN
def VY:yv ⟨289,[.d xh,.d xh,.d .i],[.own .i 3,.own .i 3],λx=>xJ fu x.1 x.2.1 x.2.2.1,0⟩:=sq fu ⟨[],[(851982,⟨[8,12],[(.n,⟨[(9,.d .i),(13,.d .i),(61,.d xh),(62,.d .i),(64,.d .b)],[]⟩)]⟩)],[(7,q1 [(9,.d .i),(8,.own .i 3),(12,.own .i 3)] 0 [(8,.own .i 3),(12,.own .i 3)]),(12,q1 [(1,.d xh),(2,.d .i),(10,.d .i),(63,.d .i),(8,.own .i 3),(12,.own .i 3)] 2 [(1,.d xh),(2,.d .i),(10,.d .i),(8,.own .i 3),(12,.own .i 3)])],[],[],[],[]⟩ func289<|D (wa fu)<|D (Ee fu)<|cN
def Yl:yv ⟨332,[.d xh,.d xh,.d .i],[.own .i 3],λx=>w5 fu x.1 x.2.1 x.2.2.1,0⟩:=sq fu ⟨[],[(262149,⟨[7],[(.n,⟨[(1,.d xh),(2,.d .i),(18,.d xh),(19,.d .i),(21,.d .b)],[]⟩)]⟩),(458760,⟨[7],[(.n,⟨[(1,.d xh),(2,.d .i),(8,.d .i),(9,.d .i),(18,.d xh),(19,.d .i),(20,.d .i),(25,.d xh),(26,.d .i),(28,.d .b)],[]⟩)]⟩)],[(3,q1 [(20,.d .i),(7,.own .i 3)] 0 [(7,.own .i 3)]),(6,q1 [(27,.d .i),(7,.own .i 3)] 2 [(7,.own .i 3)])],[],[],[],[]⟩ func332<|D (wa fu)<|cN
def dG:yv ⟨369,[.d xh,.d xh,.d .i,.d .i],[.own .i 3],λx=>YL fu x.1 x.2.1 x.2.2.1 x.2.2.2.1,0⟩:=sq fu ⟨[],[(327686,⟨[9],[(.n,⟨[(2,.d .i),(3,.d .i),(21,.d xh),(22,.d .i),(24,.d .b)],[]⟩)]⟩)],[(4,q1 [(23,.d .i),(9,.own .i 3)] 0 [(9,.own .i 3)])],[],[],[],[]⟩ func369<|D (wa fu)<|cN
def Mv:yv ⟨335,[.d (.a 3 xh),.d (.a 3 xh),.d .i],[.d (.a 3 xh)],λx=>Xj fu x.1 x.2.1 x.2.2.1,0⟩:=sq fu ⟨[3],[(262149,⟨[3,6],[(.n,⟨[(2,.d .i),(4,.q (.a 3 xh)),(20,.d .b)],[]⟩)]⟩)],[(3,⟨⟨[(7,.d xh),(19,.d .i),(3,.var (.a 3 xh) 301),(6,.var (.a 3 xh) 301)],[]⟩,⟨[8],[(.x 0,⟨[(3,.var (.a 3 xh) 301),(6,.var (.a 3 xh) 301)],[]⟩)]⟩⟩)],[],[],[],[]⟩ func335<|D (VY fu)<|D (Yl fu)<|D (dG fu)<|cN
def dm:yv ⟨336,[.d xh,.d .i,.d .i],[.own .i 3],λx=>qy fu x.1 x.2.1 x.2.2.1,0⟩:=sq fu wx func336<|D (Ee fu)<|D (Yl fu)<|cN
def ef:yv ⟨296,[.d xh,.d xh,.d .i],[.d xh,.d xh,.d xh,.d .i],λx=>Za fu x.1 x.2.1 x.2.2.1,0⟩:=sq fu ⟨[],[(589834,⟨[11],[(.n,⟨[(44,.d .b)],[]⟩)]⟩)],[(5,q1 [(11,.var (.a 3 xh) 301),(12,.var (.a 3 xh) 301)] 0 [(11,.var (.a 3 xh) 301)]),(11,q1 [(51,.d .i),(11,.var (.a 3 xh) 301)] 2 [(11,.var (.a 3 xh) 301)])],[],[],[],[]⟩ func296<|D (wa fu)<|D (dm fu)<|D (Mv fu)<|D (ju fu)<|cN
def gf:yv ⟨291,[.d xh,.d xh,.d .i],[.d xh,.d .i],λx=>ks fu x.1 x.2.1 x.2.2.1,0⟩:=sq fu wx func291<|D (ef fu)<|cN
def KH:yv ⟨292,[.d xh,.d xh,.d .i],[.own .i 3,.d .i],λx=>kq fu x.1 x.2.1 x.2.2.1,0⟩:=sq fu wx func292<|D (wa fu)<|D (Yl fu)<|D (ju fu)<|cN
def Ak:yv ⟨333,[.d xh,.d xh,.d .i],[.own .i 3,.d .i],λx=>VM fu x.1 x.2.1 x.2.2.1,0⟩:=sq fu wx func333<|D (wa fu)<|D (dG fu)<|D (ju fu)<|cN
def CK:yv ⟨294,[.d xh,.d xh,.d .i],[.d .b],λx=>Xv fu x.1 x.2.1 x.2.2.1,0⟩:=sq fu wx func294<|D (Ak fu)<|cN
def CG:yv ⟨290,[.d xh,.d .i],[.d .b],λx=>XT fu x.1 x.2.1,0⟩:=sq fu ⟨[],[],[(2,⟨⟨[(9,.d .i)],[]⟩,⟨[],[(.x 0,⟨[],[]⟩),(.r,⟨[],[(4,.kb I)]⟩)]⟩⟩)],[],[],[],[]⟩ func290<|cN
def UE:yv ⟨293,[.d (.l xh),.d .i],[.own .i 3],λx=>qk fu x.1 x.2.1,0⟩:=sq fu ⟨[],[],[(3,q1 [(5,.own .i 3),(11,.d .i)] 0 [(5,.own .i 3)])],[],[],[],[]⟩ func293<|D (KH fu)<|cN
def NP:yv ⟨316,[.d F],[.d .i,.d .b],λx=>Q9 fu x.1,0⟩:=sq fu ⟨[1],[(196612,⟨[1],[(.n,⟨[(6,.d .b)],[]⟩)]⟩),(327686,⟨[1],[(.n,⟨[(11,.d .b)],[]⟩)]⟩),(458760,⟨[1],[(.n,⟨[(16,.d .b)],[]⟩)]⟩)],[],[],[],[],[]⟩ func316<|D (YK fu)<|cN
def OD:yv ⟨274,[.d F,.d .i],[.d .i,.d .i],λx=>Kz fu x.1 x.2.1,0⟩:=sq fu ⟨[],[],[],[(1,[])],[],[],[]⟩ func274<|D (xB fu)<|D (Jc fu)<|D (NP fu)<|cN
def Gl:yv ⟨273,[.d .i,.d F,.q .i],[.d .i],λx=>WQ fu x.1 x.2.1 x.2.2.1,0⟩:=sq fu wx func273<|D (OD fu)<|cN
def Uu:yv ⟨272,[.d yQ,.fn [.i,F] [.i]],[.own .i 3],λx=>jw fu x.1<|λz0 a=>x.2.1 (z0,a,()),0⟩:=sq fu ⟨[],[(262149,⟨[5],[(.n,⟨[(11,.d yQ),(12,.d .i),(14,.d .b)],[]⟩)]⟩)],[(3,q1 [(13,.d .i),(5,.own .i 3)] 0 [(5,.own .i 3)])],[],[],[],[]⟩ func272<|cN
def VP:yv ⟨244,[.d yQ,.d .i],[.own .i 3,.d .i],λx=>Zv fu x.1 x.2.1,0⟩:=sq fu ⟨[],[],[(4,q1 [(6,.own .i 3)] 0 [(6,.own .i 3)])],[],[],[],[]⟩ func244<|D (Uu fu)<|D (Gl fu)<|cN
def Dz:yv ⟨254,[.d yQ,.d (.l xh),.d .i],[.d .b],λx=>vB fu x.1 x.2.1 x.2.2.1,0⟩:=sq fu ⟨[],[(393223,⟨[7],[(.n,⟨[(0,.d yQ),(1,.d (.l xh)),(2,.d .i),(40,.d (.l xh)),(41,.d .i),(43,.d .b)],[]⟩)]⟩)],[(5,⟨⟨[(42,.d .i),(7,.own .i 3)],[]⟩,⟨[],[(.x 0,⟨[(7,.own .i 3)],[]⟩),(.r,⟨[],[(6,.kb I)]⟩)]⟩⟩),(10,⟨⟨[(62,.d .i)],[]⟩,⟨[7],[(.x 2,⟨[],[]⟩),(.r,⟨[],[(6,.kb I)]⟩)]⟩⟩)],[],[],[],[]⟩ func254<|D (CG fu)<|D (gf fu)<|D (KH fu)<|D (UE fu)<|D (CK fu)<|D (VP fu)<|cN
def sN:yv ⟨338,[.d yQ,.d yQ,.d F],[.d yQ,.own F 44],λx=>jT fu x.1 x.2.1 x.2.2.1,0⟩:=sq fu ⟨[],[(589834,⟨[8,9],[(.n,⟨[(10,.d .i),(47,.d yQ),(48,.d .i),(50,.d .b)],[]⟩)]⟩)],[(4,q1 [(10,.d .i),(8,.own F 44),(9,.own F 44)] 0 [(8,.own F 44),(9,.own F 44)]),(8,q1 [(1,.d yQ),(5,.q F),(49,.d .i),(8,.own F 44),(9,.own F 44)] 2 [(1,.d yQ),(5,.q F),(8,.own F 44),(9,.own F 44)])],[(6,[])],[],[],[]⟩ func338<|D (Jg fu)<|D (X5 fu)<|D (Jc fu)<|D (xr fu)<|cN
def Gn:yv ⟨312,[.d .i,.d F,.q yQ],[.d F],λx=>ur fu x.1 x.2.1 x.2.2.1,0⟩:=sq fu wx func312<|D (u9 fu)<|cN
def AI:yv ⟨267,[.d yQ,.d yQ],[.own F 44],λx=>qc fu x.1 x.2.1,0⟩:=sq fu ⟨[3],[],[],[],[],[],[]⟩ func267<|D (Gn fu)<|D (xp fu)<|D (xt fu)<|cN
def Aw:yv ⟨337,[.d yQ,.d yQ],[.own F 44],λx=>wI fu x.1 x.2.1,0⟩:=sq fu ⟨[],[(262149,⟨[5],[(.n,⟨[(1,.d yQ),(16,.d yQ),(17,.d .i),(19,.d .b)],[]⟩)]⟩),(458760,⟨[5,7],[(.n,⟨[(1,.d yQ),(6,.d .i),(16,.d yQ),(17,.d .i),(18,.d .i),(23,.d yQ),(24,.d .i),(26,.d .b)],[]⟩)]⟩)],[(3,q1 [(18,.d .i),(5,.own F 44)] 0 [(5,.own F 44)]),(6,q1 [(25,.d .i),(5,.own F 44),(7,.var F 44)] 2 [(5,.own F 44)])],[],[],[],[]⟩ func337<|D (xp fu)<|D (u9 fu)<|D (xr fu)<|cN
def DB:yv ⟨149,[.d .i,.d .i],[.d F],λx=>XD fu x.1 x.2.1,0⟩:=sq fu wx func149<|D (xB fu)<|cN
def Uk:yv ⟨148,[.d xh,.fn [.i,.i] [F]],[.own F 44],λx=>jq fu x.1<|λz0 a=>x.2.1 (z0,a,()),0⟩:=sq fu ⟨[],[],[(3,q1 [(13,.d .i),(5,.own F 44)] 0 [(5,.own F 44)])],[],[],[],[]⟩ func148<|cN
def oT:yv ⟨102,[.d xh],[.own F 44],λx=>jg fu x.1,0⟩:=sq fu wx func102<|D (xp fu)<|D (Uk fu)<|D (DB fu)<|cN
def CM:yv ⟨56,[.d xh],[.own F 44],λx=>J0 fu x.1,0⟩:=sq fu wx func56<|D (oT fu)<|cN
def AQ:yv ⟨266,[.d .i,.d F,.q F],[.d F],λx=>Qo fu x.1 x.2.1 x.2.2.1,0⟩:=sq fu wx func266<|D (xr fu)<|cN
def WY:yv ⟨227,[.d yQ,.d F],[.own F 44],λx=>qf fu x.1 x.2.1,0⟩:=sq fu wx func227<|D (xp fu)<|D (AQ fu)<|D (xt fu)<|cN
def Al:yv ⟨228,[.d yQ,.d yQ],[.own F 44],λx=>kv fu x.1 x.2.1,0⟩:=sq fu wx func228<|D (AI fu)<|D (xB fu)<|D (WY fu)<|cN
def tw:yv ⟨297,[.d (.a 4 yQ),.d yQ,.d F],[.d (.a 4 yQ)],λx=>kj fu x.1 x.2.1 x.2.2.1,0⟩:=sq fu wx func297<|D (Jg fu)<|D (Al fu)<|D (AI fu)<|D (Aw fu)<|D (sN fu)<|D (CM fu)<|cN
def sJ:yv ⟨370,[.d (.p F (.p F F)),.d F,.d (.p F (.p F F))],[.d (.p F (.p F F))],λx=>ZJ fu x.1 x.2.1 x.2.2.1,0⟩:=sq fu wx func370<|D (X5 fu)<|D (xr fu)<|cN
def FJ:yv ⟨334,[.d F,.d F],[.d F,.d F,.d F],λx=>W0 fu x.1 x.2.1,0⟩:=sq fu ⟨[],[(393224,⟨[4,5,6],[(.n,⟨[(7,.var (.p F (.p F F)) 335)],[]⟩)]⟩),(524298,⟨[4,5,6],[(.n,⟨[(7,.var (.p F (.p F F)) 335)],[]⟩)]⟩)],[(2,⟨⟨[(7,.var (.p F (.p F F)) 335),(8,.var (.p F (.p F F)) 335)],[]⟩,⟨[4,5,6],[(.x 0,⟨[(7,.var (.p F (.p F F)) 335)],[]⟩)]⟩⟩)],[(1,[]),(9,[])],[],[],[]⟩ func334<|D (xB fu)<|D (qi fu)<|D (aN fu)<|D (ji fu)<|D (mZ fu)<|D (sJ fu)<|cN
def ME:yv ⟨295,[.d yQ,.d F],[.own F 44],λx=>Jf fu x.1 x.2.1,0⟩:=sq fu ⟨[],[],[],[(1,[])],[],[],[]⟩ func295<|D (Jg fu)<|D (WY fu)<|D (FJ fu)<|cN
def FO:XW:=⟨255,[.d yQ,.d (.l xh),.d .i,.d .i,.d F],[.own yQ 22],λx=>qh fu x.1 x.2.1 x.2.2.1 x.2.2.2.1 x.2.2.2.2.1,0⟩
def me:∀fu:K,yv (FO fu)
 |0=>sg0 mS λ_=>O
 |fu+1=>sq fu ⟨[],[],[(10,q1 [(22,.d .i),(21,.var (.a 4 yQ) 273)] 0 [(21,.var (.a 4 yQ) 273)])],[(14,[])],[],[],[]⟩ func255<|D (KH fu)<|D (UE fu)<|D (oT fu)<|D (ME fu)<|D (ef fu)<|D (tw fu)<|D (Kc fu)<|D (VP fu)<|D (me fu)<|cN
def lu:yv ⟨212,[.d yQ,.d (.l xh),.d .i,.d .i],[.own yQ 22,.d .i],λx=>jo fu x.1 x.2.1 x.2.2.1 x.2.2.2.1,0⟩:=sq fu wx func212<|D (Jg fu)<|D (Kc fu)<|D (xp fu)<|D (Dz fu)<|D (me fu)<|cN
def Mw:yv ⟨300,[.d yQ,.d yQ,.d F],[.d yQ,.d .i],λx=>Jh fu x.1 x.2.1 x.2.2.1,0⟩:=sq fu wx func300<|D (Aw fu)<|D (pF fu)<|cN
def Kb:yv ⟨246,[.d F,.d F],[.d .i],λx=>uc fu x.1 x.2.1,0⟩:=sq fu wx func246<|D (X5 fu)<|D (qi fu)<|cN
def MQ:yv ⟨340,[.d F,.d F],[.d F,.d .i],λx=>Y8 fu x.1 x.2.1,0⟩:=sq fu wx func340<|D (X5 fu)<|D (u9 fu)<|D (Jc fu)<|D (Kb fu)<|cN
def Fg:yv ⟨301,[.d yQ,.d F],[.own F 44,.d .i],λx=>WO fu x.1 x.2.1,0⟩:=sq fu wx func301<|D (fZ fu)<|D (MQ fu)<|cN
def Ql:yv ⟨126,[.d yQ],[.d F],λx=>vP fu x.1,0⟩:=sq fu ⟨[],[(327686,⟨[0,2,3],[(.n,⟨[(10,.d .i),(12,.d .b)],[]⟩)]⟩)],[(4,⟨⟨[(11,.d .i),(0,.own F 44),(2,.var F 44),(3,.var F 44)],[(9,.al 0)]⟩,⟨[],[(.x 0,⟨[(0,.own F 44),(2,.var F 44),(3,.var F 44)],[]⟩)]⟩⟩)],[],[],[],[]⟩ func126<|D (xp fu)<|D (xB fu)<|D (nk fu)<|D (aN fu)<|cN
def DI:yv ⟨128,[.d .i,.d F,.q F],[.d F],λx=>Jz fu x.1 x.2.1 x.2.2.1,0⟩:=sq fu wx func128<|D (Xt fu)<|cN
def aw:XW:=⟨81,[.d yQ],[.own F 44],λx=>wc fu x.1,0⟩
def Zz:yv (aw fu):=sq fu wx func81<|D (xp fu)<|D (DI fu)<|D (Ql fu)<|D (xt fu)<|cN
def ZV:XW:=⟨258,[.d yQ,.d tzQ,.own .i 3,.d F],[.d yQ,.own .i 3],λx=>jE fu x.1 x.2.1 x.2.2.1 x.2.2.2.1,1⟩
def iQ:yv (ZV fu):=sgb (fu:=fu) ⟨[],[(262149,⟨[2],[(.n,⟨[(1,.d tzQ),(7,.q F),(18,.d .i),(20,.d .b)],[]⟩)]⟩)],[(3,⟨⟨[(9,.d yQ),(19,.d .i),(2,.own .i 3)],[(17,.al 2)]⟩,⟨[],[(.x 0,⟨[(9,.d yQ),(2,.own .i 3)],[]⟩)]⟩⟩)],[],[],[],[]⟩ func258 (D (Zz fu)<|D (Mw fu)<|D (Fg fu)<|cN) mS λa x=>by kernel_rfl
def X2:GB:=⟨299,[.q .i,.q .i],.i,3,λx _ _ g x0=>vj fu x.1 x.2.1 g x0⟩
def anC:An:=⟨[],[],[(2,⟨⟨[(4,.own .i 3),(12,.d .i)],[]⟩,⟨[0],[(.x 0,⟨[(4,.own .i 3)],[]⟩)]⟩⟩),(8,⟨⟨[(6,.d .i)],[]⟩,⟨[0,4],[(.x 4,⟨[(6,.d .i)],[]⟩)]⟩⟩),(13,⟨⟨[(7,.d .i),(4,.own .i 3)],[]⟩,⟨[0],[(.x 6,⟨[(4,.own .i 3)],[]⟩)]⟩⟩)],[],[],[],[]⟩
def zlK:Z9->Z9|.seq a _=>a|c=>c
def Hv:Z9->Z9|.seq _ b=>b|c=>c
def kIn:Z9->Z9|.block _ c=>c|.loop c=>c|c=>c
def H6(f:WF):Z9:=match f.body with|some c=>c|none=> .skip
noncomputable def kA:Z9:=zlK<|H6 f299
noncomputable def kB:Z9:=zlK<|Hv<|H6 f299
noncomputable def kC:Z9:=kIn<|kIn<|Hv<|Hv<|H6 f299
section
variable{X Y R:Type}{mX:X->wN->MF}{mY:Y->wN->MF}{g:xS wn->X->ww (xS wn×(X⊕Y))}{n all:wn}
def cfC:Cf:=⟨tt,[],anC,fu,ex,[],[],[],[]⟩
def S0(mX:X->wN->MF)(mY:Y->wN->MF)(g:N J->X->V (N J×(X⊕Y)))(n all:J)(x0:X):Sg:=⟨1,[(0,0,.yd 0),(1,0,.q .i n),(2,0,.q .i all)],[(0,.hid .i 3 X Y mX mY g x0)]⟩
def S1(mX:X->wN->MF)(mY:Y->wN->MF)(g:N J->X->V (N J×(X⊕Y)))(n all:J)(x0:X)(xs:N J):Sg:=⟨2,[(4,0,.ow 1),(9,0,.ow 1),(8,0,.d .i n),(0,0,.yd 0),(1,0,.q .i n),(2,0,.q .i all)],[(1,.own .i 3 xs),(0,.hid .i 3 X Y mX mY g x0)]⟩
def S2(mX:X->wN->MF)(mY:Y->wN->MF)(g:N J->X->V (N J×(X⊕Y)))(n all:J)(x0:X)(xs ys:N J):Sg:=⟨3,[(4,0,.ow 2),(4,0,.ow 2),(11,0,.d .i (pM xs:J)),(8,0,.d .i n),(0,0,.yd 0),(1,0,.q .i n),(2,0,.q .i all)],[(2,.own .i 3 ys),(0,.hid .i 3 X Y mX mY g x0)]⟩
def Sn(mX:X->wN->MF)(mY:Y->wN->MF)(g:N J->X->V (N J×(X⊕Y)))(n all:J)(x:X)(xs:N J)(b a c y x0:J):Sg:=
 ⟨5,[(4,0,.ow 4),(4,0,.ow 4),(51,0,.d .i b),(50,0,.d .i a),(48,0,.d .i c),(47,0,.d .i y),(45,0,.d .i a),(43,0,.kb I),(42,0,.d .i a),(6,0,.d .i a),(6,0,.d .i a),(25,0,.d .i x0),(24,0,.d .i n),(23,0,.kb I),(22,0,.kb wL),(20,0,.yd 2),(0,0,.yd 2),(1,0,.q .i n),(2,0,.q .i all)],[(4,.own .i 3 xs),(2,.hid .i 3 X Y mX mY g x)]⟩
def Sr(mX:X->wN->MF)(mY:Y->wN->MF)(g:N J->X->V (N J×(X⊕Y)))(n all:J)(x:X)(x0 a:J)(xs:N J):Sg:=
 ⟨4,[(43,0,.kb wL),(42,0,.d .i a),(6,0,.d .i a),(6,0,.d .i a),(25,0,.d .i x0),(24,0,.d .i n),(23,0,.kb I),(22,0,.kb wL),(21,0,.ow 1),(20,0,.yd 2),(4,0,.ow 1),(0,0,.yd 2),(1,0,.q .i n),(2,0,.q .i all)],[(2,.hid .i 3 X Y mX mY g x),(1,.own .i 3 xs)]⟩
def Sy(mY:Y->wN->MF)(n all:J)(y:Y)(xs:N J):Sg:=
 ⟨3,[(23,0,.kb wL),(22,0,.kb I),(21,0,.ow 1),(20,0,.yd 2),(4,0,.ow 1),(0,0,.yd 2),(1,0,.q .i n),(2,0,.q .i all)],[(2,.hiy Y mY y),(1,.own .i 3 xs)]⟩
def zrU(x0:X)(K:Tg->Sg->V R):den (cfC fu) kA ⟨0,[],[]⟩ (S0 mX mY g n all x0) K=jA n λm=>ck (8*m<=281474976710656)<|B (Nm m 0) λxs=>K .n (S1 mX mY g n all x0 xs):=mS
def zrA(x0:X)(xs:N J)(K:Tg->Sg->V R):den (cfC fu) kB ⟨0,[],[]⟩ (S1 mX mY g n all x0 xs) K=bd (zg (λL (z:N J×J)=>
 if z.2<(pM xs:J)then
  zF z.2 (pM z.1) λj=>
  B (z.1.set j z.2) λxs=>
  zf (z.2+1) λi=>L (xs,i)
 else Z z.1) fu (xs,0)) λys=>K .n (S2 mX mY g n all x0 xs ys):=mS
def zr2(x:X)(xs:N J)(K:Tg->Sg->V R):den (cfC fu) kC ⟨0,[],[]⟩ (chS 3 mX mY g n all x xs) K=
 qj fu n all g x xs (λx xs a b c d e=>K .n<|Sn mX mY g n all x xs a b c d e) (λx a b xs=>K .r<|Sr mX mY g n all x a b xs) λy xs=>K .r (Sy mY n all y xs):=mS
def zi9(g:xS J->X->V (xS J×(X⊕Y)))(x0:X)(r:X⊕Y)(l:wr)(v1 E u:wN)(we:wP)(Se:wr->Prop)(F:xS MF)(G:xS FF)(w:wP)(hY:Py Tryz.prog l eI 3 mX mY g)
 (hi:St we Se (mX x0 u::F) (jy Tryz.prog [.q .i,.q .i] (n,all,()) [v1,E]++G) w) (hM:vj fu n all g x0=Z r):
 UT Tryz.prog 299 #[.func (.yield l) #[] #[],v1,E] w λe w'=>(∃v,e=.returned v)/\∃C,St we Se (xfk (λx=>mX x C) (λy=>mY y C) r::F) G w':=by
 have hX:AF Tryz.prog (cfC fu):=.of Fj O;have U:∀c,NU 66 c=wL->Ic Tryz.prog (cfC fu) 66 c:=λc h=>Ye Cp Bo CR cN hX c h;refine UX (args:=[.func (.yield l) #[] #[],v1,E]) (c:=H6 f299) func299 O mS λrest=> ?_;have hj:uD Tryz.prog (Fr.wd ⟨we,Se,F,G⟩ []) ⟨0,[],[]⟩ (S0 mX mY g n all x0) (L ((([Value.func (.yield l) #[] #[],v1,E]:xS wN).zipIdx 0).map λx=>(x.2,x.1)) rest) w:=by
  refine⟨⟨λe D=> ?_,λ_ D=>wS D H1,λe D q hq=> ?_,λ_ D=>wS D H1⟩,λ_=>U9 (.int .i64 (l:J)) [u],?_⟩;obtain rfl:=xac.1 D;exact xdm;simp only[S0,xah,H1,i7]at D;obtain rfl|rfl|rfl:=D<;>cases hq<;>exact xdm
  have h1:St we Se (Ki (λ_=>U9 (.int .i64 (l:J)) [u]) (0,.hid .i 3 X Y mX mY g x0)::F) (jy Tryz.prog [.q .i,.q .i] (n,all,()) [v1,E]++G) w:=St.grp.2<|St.pr hY hi;exact h1.weak λS w Q=>⟨O,Q.1,Q.2.1,Q.2.2⟩
 have⟨f2,hf⟩:∃f2:xS J->V (X⊕Y),f2=λxs=>zg (λL (q:X×xS J)=>qj fu n all g q.1 q.2 (λx xs _ _ _ _ _=>L (x,xs)) (λx _ _ _=>Z (.inl x)) λy _=>Z (.inr y)) fu (x0,xs):=⟨_,O⟩;have⟨f1,hg⟩:∃f1:xS J->V (X⊕Y),f1=λxs=>bd (zg (λL (z:xS J×J)=>
  if z.2<(pM xs:J)then
   zF z.2 (pM z.1) λj=>
   B (z.1.set j z.2) λxs=>
   zf (z.2+1) λi=>L (xs,i)
  else Z z.1) fu (xs,0)) f2:=⟨_,O⟩
 have hm:(jA n λm=>ck (8*m<=281474976710656)<|B (Nm m 0) f1)=Z r:=by rw[hg,hf];exact hM
 refine BP (x:=kA) (y:=Hv<|H6 f299) ?_;have⟨K,k1,k2⟩:=zfl (λxs:xS J=>(Tg.n,S1 mX mY g n all x0 xs)) f1 (λi j h=>by
  have f:Od.own .i 3 i=Od.own .i 3 j:=by simpa[S1]using h
  cases f;rfl)
 have k1:∀xs,K .n (S1 mX mY g n all x0 xs)=f1 xs:=k1;refine U kA mS (N:=Nd.of 66) (K:=K) O (.inl O) (r:=r) ((zrU fu x0 K).trans<|by simp only[k1];exact hm) (λt σ' H Ds env w _ s=> ?_) hj;have⟨xs,e1,e2⟩:=k2 _ _ _ H;cases e1;refine BP (x:=kB) (y:=Hv<|Hv<|H6 f299) ?_;have⟨K,k1,k2⟩:=zfl (λys:xS J=>(Tg.n,S2 mX mY g n all x0 xs ys)) f2 (λi j h=>by
  have f:Od.own .i 3 i=Od.own .i 3 j:=by simpa[S2]using h
  cases f;rfl)
 have k1:∀ys,K .n (S2 mX mY g n all x0 xs ys)=f2 ys:=k1;refine U kB mS (N:=Nd.of 66) (K:=K) O (.inl O) (r:=r) ((zrA fu x0 xs K).trans<|by simp only[k1];rw[hg]at e2;exact e2) (λt σ' H Ds env w _ s=> ?_) s;have⟨ys,e3,e4⟩:=k2 _ _ _ H;cases e3;have hn:uD Tryz.prog (Fr.wd ⟨we,Se,F,G⟩ Ds) ⟨0,[],[]⟩ (chS 3 mX mY g n all x0 ys) env w:=zlW (o:=0) (p:=2) O O O O O O O s;refine GJ (id:=2) (c:=.loop kC) ?_;have⟨body,hc⟩:∃body:((X×xS J)->V (X⊕Y))->(X×xS J)->V (X⊕Y),body=λL q=>qj fu n all g q.1 q.2 (λx xs _ _ _ _ _=>L (x,xs)) (λx _ _ _=>Z (.inl x)) λy _=>Z (.inr y):=⟨_,O⟩;refine Ph (G:=wr×(X×xS J)) (λq Ds env w=>zg body q.1 q.2=Z r/\uD Tryz.prog (Fr.wd ⟨we,Se,F,G⟩ Ds) ⟨0,[],[]⟩ (chS 3 mX mY g n all q.2.1 q.2.2) env w) (λq=>q.1) (fu,(x0,ys)) ⟨by rw[hc];rw[hf]at e4;exact e4,hn⟩ ?_;rintro⟨k,x,xs⟩ Ds env w ⟨hl,s⟩
 cases k with
 |zero=>exact(zbH hl).elim
 |succ k=>
  have hl:=zbB hl
  have⟨K,k1,k2⟩:=zfl (ι:=(X×xS J×J×J×J×J×J)⊕((X×J×J×xS J)⊕(Y×xS J)))
   (λq=>match q with
    |.inl (x,xs,a,b,c,d,e)=>(Tg.n,Sn mX mY g n all x xs a b c d e)
    |.inr (.inl (x,a,b,xs))=>(Tg.r,Sr mX mY g n all x a b xs)
    |.inr (.inr (y,xs))=>(Tg.r,Sy mY n all y xs))
   (λq=>match q with
    |.inl (x,xs,_,_,_,_,_)=>zg body k (x,xs)
    |.inr (.inl (x,_,_,_))=>Z (.inl x)
    |.inr (.inr (y,_))=>Z (.inr y)) (λi j h=>by
   rcases i with⟨x,xs,a,b,c,d,e⟩|⟨x,a,b,xs⟩|⟨y,xs⟩<;>rcases j with⟨T,A,a',b',c',d',e'⟩|⟨T,a',b',A⟩|⟨y',A⟩
   have f:=uL (λq:Tg×Sg=>q.2.ob) h
   simp only[Sn,xdX,xcL,true_and,ge]at f
   have⟨M,h4⟩:=f
   cases M;cases h4;rfl
   cases uL Prod.fst h
   cases uL Prod.fst h
   cases uL Prod.fst h
   have f:=uL (λq:Tg×Sg=>q.2.ob) h
   simp only[Sr,xdX,xcL,true_and,ge]at f
   have⟨M,h4⟩:=f
   cases M;rfl
   exact wS (uL (λq:Tg×Sg=>q.2.nx) h)<|by simp[Sr,Sy]
   cases uL Prod.fst h
   exact wS (uL (λq:Tg×Sg=>q.2.nx) h)<|by simp[Sr,Sy]
   have f:=uL (λq:Tg×Sg=>q.2.ob) h
   simp only[Sy,xdX,xcL,true_and,ge]at f
   have⟨M,h4⟩:=f
   cases M;rfl)
  have q1:∀x xs a b c d e,K .n (Sn mX mY g n all x xs a b c d e)=zg body k (x,xs):=λx xs a b c d e=>k1 (.inl (x,xs,a,b,c,d,e));have q2:∀x a b xs,K .r (Sr mX mY g n all x a b xs)=Z (.inl x):=λx a b xs=>k1 (.inr (.inl (x,a,b,xs)));have q3:∀y xs,K .r (Sy mY n all y xs)=Z (.inr y):=λy xs=>k1 (.inr (.inr (y,xs)));refine U kC mS (N:=Nd.of 66) (K:=K) O (.inl O) (r:=r) ((zr2 fu x xs K).trans<|by simp only[q1,q2,q3];rw[hc]at hl⊢;exact hl) (λt σ' H Ds env w _ s=> ?_) s;have⟨i,e5,e6⟩:=k2 _ _ _ H
  have P:∀(t:Tg) (env:y6) (w:wP),(∃C,St we Se (xfk (λx=>mX x C) (λy=>mY y C) r::F) G<|wY Ds w)->dw Ds w->∀a:V0,zW a=env->
   ∃v,(WT f299 a.tmps).run Tryz.prog (wY Ds w)=.ok v (wY Ds w)/\(∃v',xeu v=.returned v')/\∃C,St we Se (xfk (λx=>mX x C) (λy=>mY y C) r::F) G (wY Ds w):=λt env w h1 f a Q=>⟨_,uU (rs:=[]) (vs:=[]) O wR,⟨_,O⟩,h1⟩
  rcases i with⟨T,A,a,b,c,d,e⟩|⟨T,a,b,A⟩|⟨y',A⟩
  cases e5;exact⟨(k,(T,A)),⟨e6,zlW (o:=2) (p:=4) O O O O O O O s⟩,xdM k⟩
  cases e5;cases e6;have⟨hd,s⟩:=Z7 s;exact⟨.inr O,hd,P .r _ _ (zmt (o:=2) O s) hd⟩
  cases e5;cases e6;have⟨hd,s⟩:=Z7 s;exact⟨.inr O,hd,P .r _ _ (zmM (o:=2) O s) hd⟩
end
def tz:zik Tryz.prog (X2 fu):=by
 refine⟨mS,?_⟩;rintro⟨n,a,_⟩ X Y f h g x0 r b l vs c d u we Se F G w hc
 match vs,c with
 |[v1,e],_=>exact zi9 fu g x0 r l v1 e u we Se F G w d hc b
def Xi:OM:=⟨257,[.i,.i],299,λx=>[⟨.i,x.2.1⟩,⟨.i,x.1⟩]⟩
def CZ:zav Tryz.prog Xi:=zmQ (s:=Xi) (cf:=⟨tt,[],wx,0,ex,[],[],[],[]⟩) Cp Bo CR cN (.of Fj O) func257 mS λx=>by kernel_rfl
def Xp:yv ⟨341,[.d xh,.d .i],[.d .i],λx=>Y6 fu x.1 x.2.1,0⟩:=sq fu ⟨[],[],[(2,⟨⟨[(8,.d .i)],[]⟩,⟨[],[(.x 0,⟨[],[]⟩),(.r,⟨[(4,.d .i)],[]⟩)]⟩⟩)],[],[],[],[]⟩ func341<|cN
def Kj:yv ⟨341,[.own .i 3,.d .i],[.d .i,.own .i 3],λx=>qP fu x.1 x.2.1,1⟩:=sgb (fu:=fu) ⟨[],[],[(2,⟨⟨[(8,.d .i)],[]⟩,⟨[0],[(.x 0,⟨[],[]⟩),(.r,⟨[(4,.d .i)],[]⟩)]⟩⟩)],[],[],[],[]⟩ func341 (cN) mS λa x=>by kernel_rfl
def Kh:yv ⟨302,[.d xh,.d .i],[.d .b],λx=>ZQ fu x.1 x.2.1,0⟩:=sq fu wx func302<|D (Xp fu)<|cN
def V7:yv ⟨302,[.own .i 3,.d .i],[.d .b,.own .i 3],λx=>wg fu x.1 x.2.1,1⟩:=sgb (fu:=fu) wx func302 (D (Kj fu)<|D (Xp fu)<|cN) mS λa x=>by kernel_rfl
def qN:XW:=⟨259,[.d tzQ,.own .i 3],[.d tzQ,.own .i 3],λx=>xM fu x.1 x.2.1,1⟩
def Kf:yv (qN fu):=sgb (fu:=fu) ⟨[],[(262149,⟨[1,5],[(.n,⟨[(8,.d tzQ),(9,.d .i),(11,.d .b)],[]⟩)]⟩)],[(3,q1 [(5,.own yQ 22),(10,.d .i),(1,.own .i 3)] 0 [(5,.own yQ 22),(1,.own .i 3)])],[],[],[],[]⟩ func259 (D (V7 fu)<|D (Kh fu)<|cN) mS λa x=>by kernel_rfl
def mr:XW:=⟨213,[.d yQ,.d tzQ,.d F],[.own yQ 22],λx=>Yb fu x.1 x.2.1 x.2.2.1,0⟩
def FH:yv (mr fu):=TG (s:=mr fu) (cf:=⟨tt,[ZV fu,dW fu,qN fu,aw fu],⟨[3,4],[],[(3,q1 [(3,.var yQ 22),(4,.var tzQ 105),(7,.bo yQ 22 105),(8,.d .i)] 0 [(3,.var yQ 22),(4,.var tzQ 105),(7,.bo yQ 22 105)]),(6,q1 [(3,.var yQ 22),(4,.var tzQ 105),(7,.bo yQ 22 105)] 1 [])],[(13,[56,57])],[],[7],[]⟩,fu,ex,[],[Xi],[X2 fu],[]⟩) Cp Bo CR (D (iQ fu)<|D (KN fu)<|D (Kf fu)<|D (Zz fu)<|cN) ⟨Fj,λs h=>by obtain rfl:=xac.1 h;exact CZ,λ_ h=>wS h H1,λs h=>by obtain rfl:=xac.1 h;exact tz fu,O,λ_ h=>wS h H1⟩ func213 mS O λx r h=>(id mS:zaX ⟨tt,[ZV fu,dW fu,qN fu,aw fu],⟨[3,4],[],[(3,q1 [(3,.var yQ 22),(4,.var tzQ 105),(7,.bo yQ 22 105),(8,.d .i)] 0 [(3,.var yQ 22),(4,.var tzQ 105),(7,.bo yQ 22 105)]),(6,q1 [(3,.var yQ 22),(4,.var tzQ 105),(7,.bo yQ 22 105)] 1 [])],[(13,[56,57])],[],[7],[]⟩,fu,ex,[],[Xi],[X2 fu],[]⟩ f213 [.d yQ,.d tzQ,.d F] [.own yQ 22] x=Yb fu x.1 x.2.1 x.2.2.1).trans h
def LQ:yv ⟨262,[.d yQ,.d yQ],[.d .b],λx=>Xy fu x.1 x.2.1,0⟩:=sq fu ⟨[],[],[(5,⟨⟨[(5,.d .i)],[]⟩,⟨[0,1],[(.x 0,⟨[],[]⟩),(.r,⟨[(4,.d .b)],[]⟩)]⟩⟩)],[],[],[],[]⟩ func262<|D (xp fu)<|D (Kb fu)<|cN
def Dq:yv ⟨215,[.d yQ,.d yQ],[.d .i],λx=>j8 fu x.1 x.2.1,0⟩:=sq fu wx func215<|D (LQ fu)<|cN
def N9:yv ⟨270,[.d F,.d .i],[.d F,.d .i],λx=>KB fu x.1 x.2.1,0⟩:=sq fu ⟨[],[],[(6,⟨⟨[(4,.var F 44),(6,.var F 44),(9,.var F 44)],[]⟩,⟨[],[(.r,⟨[(4,.var F 44)],[(5,.ci 0)]⟩)]⟩⟩),(11,⟨⟨[(1,.d .i),(2,.q F),(52,.d .i),(11,.var F 44)],[]⟩,⟨[4,6,9,10],[(.x 2,⟨[(1,.d .i),(2,.q F),(11,.var F 44)],[]⟩)]⟩⟩)],[],[],[],[]⟩ func270<|D (xB fu)<|D (qi fu)<|D (u9 fu)<|D (ji fu)<|D (xr fu)<|D (aF fu)<|D (Kb fu)<|D (sK fu)<|D (HY fu)<|cN
def rJ:yv ⟨203,[.d yQ],[.d .i],λx=>XN fu x.1,0⟩:=sq fu wx func203<|D (xp fu)<|cN
def Q7:yv ⟨240,[.d yQ],[.d F,.d .i],λx=>vy fu x.1,0⟩:=sq fu ⟨[],[(524297,⟨[0,2,5],[(.n,⟨[(22,.d .i),(24,.d .b)],[]⟩)]⟩)],[(7,⟨⟨[(23,.d .i),(0,.own F 44),(2,.var F 44),(5,.var F 44)],[(21,.al 0)]⟩,⟨[],[(.x 0,⟨[(0,.own F 44),(2,.var F 44),(5,.var F 44)],[]⟩)]⟩⟩)],[],[],[],[]⟩ func240<|D (xB fu)<|D (u9 fu)<|D (YK fu)<|D (rJ fu)<|D (N9 fu)<|D (xp fu)<|D (sK fu)<|D (xr fu)<|cN
def Gv:yv ⟨209,[.d yQ,.d .i],[.d .i],λx=>W4 fu x.1 x.2.1,0⟩:=sq fu ⟨[],[],[(5,⟨⟨[(9,.d .i),(8,.var F 44)],[]⟩,⟨[5,7],[(.x 0,⟨[(9,.d .i)],[]⟩)]⟩⟩)],[(2,[])],[],[],[]⟩ func209<|D (Q7 fu)<|D (xB fu)<|D (xr fu)<|D (Kb fu)<|cN
def Na:yv ⟨207,[.d yQ],[.d .b],λx=>QV fu x.1,0⟩:=sq fu ⟨[],[],[],[(2,[])],[],[],[]⟩ func207<|D (Q7 fu)<|D (xB fu)<|D (xr fu)<|D (aF fu)<|cN
def Cm:yv ⟨279,[.d xh,.d xh],[.d .i],λx=>vA fu x.1 x.2.1,0⟩:=sq fu ⟨[],[],[(4,⟨⟨[(5,.d .i)],[]⟩,⟨[],[(.x 0,⟨[],[]⟩),(.r,⟨[(4,.d .i)],[]⟩)]⟩⟩)],[],[],[],[]⟩ func279<|cN
def X0:XW:=⟨373,[.d xh,.q .i],[.d .b],λx=>jS fu x.1 x.2.1,0⟩
def tE:yv (X0 fu):=sq fu wx func373<|cN
def aH:XW:=⟨372,[.d xh,.d .i],[.own .i 3],λx=>Xr fu x.1 x.2.1,0⟩
def Nw:yv (aH fu):=sq fu ⟨[],[],[(3,q1 [(13,.d .i),(5,.own .i 3)] 0 [(5,.own .i 3)])],[],[],[],[]⟩ func372<|D (dZ fu)<|cN
def aK:XW:=⟨349,[.d (.l xh),.d .i],[.d .i],λx=>XL fu x.1 x.2.1,0⟩
def o8:yv (aK fu):=sq fu ⟨[],[(393223,⟨[],[(.n,⟨[(0,.d (.l xh)),(17,.d (.l xh)),(18,.d .i),(20,.d .b)],[]⟩)]⟩)],[(5,⟨⟨[(19,.d .i)],[]⟩,⟨[],[(.x 0,⟨[],[]⟩),(.r,⟨[],[(4,.ci 1)]⟩)]⟩⟩)],[],[],[],[]⟩ func349<|D (ju fu)<|cN
def WK:CY:=⟨374,.i,125,3,λb ix r a p lo n=>v8 fu b ix r a p lo n⟩
def Gu(c:wN)(b:N (N J))(ix:N K)(r:K)(a p:J)(lo n:K):zm8 ⟨tt,[],(⟨[],[],[(1,q1 [(3,.matv .i 125 3),(13,.view 0),(0,.row 0),(15,.d .i)] 0 [(3,.matv .i 125 3)]),(5,q1 [(3,.matv .i 125 3),(13,.view 0),(0,.row 0),(23,.row 0),(9,.row 0),(25,.d .i)] 2 [(3,.matv .i 125 3),(13,.view 0),(0,.row 0)])],[],[],[],[]⟩:An),fu,ex,[],[],[],[]⟩ f374 .i 125 3 c b ix r a p lo n=v8 fu b ix r a p lo n:=mS
def Gp:Td Tryz.prog (WK fu):=zmT (s:=WK fu) (cf:=⟨tt,[],(⟨[],[],[(1,q1 [(3,.matv .i 125 3),(13,.view 0),(0,.row 0),(15,.d .i)] 0 [(3,.matv .i 125 3)]),(5,q1 [(3,.matv .i 125 3),(13,.view 0),(0,.row 0),(23,.row 0),(9,.row 0),(25,.d .i)] 2 [(3,.matv .i 125 3),(13,.view 0),(0,.row 0)])],[],[],[],[]⟩:An),fu,ex,[],[],[],[]⟩) Cp Bo CR cN (.of Fj O) func374 mS λc b ix r a p lo n z h=>(Gu fu c b ix r a p lo n).trans h
def qD:XW:=⟨286,[.d (.l xh),.fn [xh] [.b]],[.d .i],λx=>yU fu x.1<|λz0=>x.2.1 (z0,()),0⟩
def u6:yv (qD fu):=sq fu ⟨[],[],[(2,⟨⟨[(8,.d .i)],[]⟩,⟨[],[(.x 0,⟨[],[]⟩),(.r,⟨[(4,.d .i)],[]⟩)]⟩⟩)],[],[],[],[]⟩ func286<|cN
def gu:XW:=⟨350,[.d (.l xh),.d .i],[.d (.l xh),.d .i],λx=>Zg fu x.1 x.2.1,0⟩
def Ek:yv (gu fu):=TG (s:=gu fu) (cf:=⟨tt,[aK fu,aH fu,qD fu,E7 fu,X0 fu],⟨[],[],[(6,q1 [(7,.mat .i 125 3),(25,.d .i)] 0 [(7,.mat .i 125 3)]),(12,q1 [(7,.mat .i 125 3),(10,.d .i),(11,.var .i 3)] 2 [(7,.mat .i 125 3),(10,.d .i)]),(19,q1 [(7,.mat .i 125 3),(90,.row 0),(92,.d .i)] 4 [(7,.mat .i 125 3)])],[(16,[]),(23,[]),(24,[])],[52,117,128],[33],[]⟩,fu,ex,[WK fu],[],[],[]⟩) Cp Bo CR (D (o8 fu)<|D (Nw fu)<|D (u6 fu)<|D (Ee fu)<|D (tE fu)<|cN) ⟨Fj,λ_ h=>wS h H1,λs h=>by obtain rfl:=xac.1 h;exact Gp fu,λ_ h=>wS h H1,O,λ_ h=>wS h H1⟩ func350 mS O λx r h=>(id mS:zaX ⟨tt,[aK fu,aH fu,qD fu,E7 fu,X0 fu],⟨[],[],[(6,q1 [(7,.mat .i 125 3),(25,.d .i)] 0 [(7,.mat .i 125 3)]),(12,q1 [(7,.mat .i 125 3),(10,.d .i),(11,.var .i 3)] 2 [(7,.mat .i 125 3),(10,.d .i)]),(19,q1 [(7,.mat .i 125 3),(90,.row 0),(92,.d .i)] 4 [(7,.mat .i 125 3)])],[(16,[]),(23,[]),(24,[])],[52,117,128],[33],[]⟩,fu,ex,[WK fu],[],[],[]⟩ f350 [.d (.l xh),.d .i] [.d (.l xh),.d .i] x=Zg fu x.1 x.2.1).trans h
def FI:yv ⟨376,[.d .i],[.d .b],λx=>Z8 fu x.1,0⟩:=sq fu wx func376<|cN
def Qb:yv ⟨375,[.d xh,.fn [.i] [.b]],[.d .i],λx=>xv fu x.1<|λz0=>x.2.1 (z0,()),0⟩:=sq fu ⟨[],[],[(2,⟨⟨[(8,.d .i)],[]⟩,⟨[],[(.x 0,⟨[],[]⟩),(.r,⟨[(4,.d .i)],[]⟩)]⟩⟩)],[],[],[],[]⟩ func375<|cN
def Az:yv ⟨353,[.d xh],[.d .i],λx=>Vp fu x.1,0⟩:=sq fu wx func353<|D (FI fu)<|D (Qb fu)<|cN
def FT:yv ⟨352,[.d xh,.q .i],[.d .b],λx=>jk fu x.1 x.2.1,0⟩:=sq fu wx func352<|D (Az fu)<|cN
def VC:yv ⟨351,[.d (.l xh),.fn [xh] [.b]],[.d .b],λx=>xQ fu x.1<|λz0=>x.2.1 (z0,()),0⟩:=sq fu wx func351<|D (u6 fu)<|cN
def RQ:yv ⟨324,[.d (.l xh),.d .i,.d .i],[.own xh 125,.d .i],λx=>Vz fu x.1 x.2.1 x.2.2.1,0⟩:=sq fu ⟨[],[(131076,⟨[],[(.n,⟨[],[]⟩),(.r,⟨[],[(6,.nil),(7,.ci 1)]⟩)]⟩),(458760,⟨[10],[(.n,⟨[(1,.d .i),(2,.d .i),(8,.d (.l xh)),(46,.d .i),(48,.d .b)],[]⟩)]⟩),(851982,⟨[10,12],[(.n,⟨[(1,.d .i),(2,.d .i),(8,.d (.l xh)),(11,.q .i),(46,.d .i),(47,.d .i),(58,.d (.l xh)),(59,.d .i),(61,.d .b)],[]⟩)]⟩)],[(6,q1 [(10,.own xh 125),(47,.d .i)] 0 [(10,.own xh 125)]),(12,q1 [(60,.d .i),(10,.own xh 125),(12,.own .i 3)] 2 [(10,.own xh 125),(12,.own .i 3)])],[],[],[],[]⟩ func324<|D (FT fu)<|D (Az fu)<|D (dZ fu)<|D (o8 fu)<|D (Ek fu)<|D (VC fu)<|cN
def fK:yv ⟨253,[.d xh,.d xh,.d .i],[.own .i 3,.own .i 3,.d .i],λx=>ku fu x.1 x.2.1 x.2.2.1,0⟩:=sq fu wx func253<|D (wa fu)<|D (VY fu)<|D (ju fu)<|cN
def eo:yv ⟨323,[.d xh,.d F,.d xh,.d .i],[.own .i 3,.d .i],λx=>uV fu x.1 x.2.1 x.2.2.1 x.2.2.2.1,0⟩:=sq fu ⟨[],[],[(9,⟨⟨[(11,.own .i 3),(13,.d xh),(14,.d .i)],[]⟩,⟨[10,12],[(.x 0,⟨[(11,.own .i 3)],[]⟩)]⟩⟩)],[],[],[],[]⟩ func323<|D (wa fu)<|D (VY fu)<|D (qi fu)<|D (Yl fu)<|D (aF fu)<|D (ju fu)<|cN
def MR:yv ⟨277,[.d xh,.d .i],[.own xh 125],λx=>XC fu x.1 x.2.1,0⟩:=sq fu ⟨[],[],[(4,q1 [(6,.mat .i 125 3),(23,.d .i)] 0 [(6,.mat .i 125 3)]),(11,q1 [(6,.mat .i 125 3),(10,.d xh),(8,.d xh),(43,.d .i)] 2 [(6,.mat .i 125 3)]),(14,q1 [(6,.mat .i 125 3),(48,.d .i)] 4 [(6,.mat .i 125 3)])],[],[],[20],[]⟩ func277<|D (xB fu)<|D (eo fu)<|D (KH fu)<|D (fK fu)<|D (RQ fu)<|cN
def zdU:yv ⟨322,[.d xh,.d xh,.d .i],[.own .i 3],λx=>gL fu x.1 x.2.1 x.2.2.1,0⟩:=sq fu wx func322<|D (fK fu)<|cN
def SV:yv ⟨320,[.d xh,.d xh,.d .i],[.d xh],λx=>bZ fu x.1 x.2.1 x.2.2.1,0⟩:=sq fu wx func320<|D (gf fu)<|cN
def Bp:yv ⟨318,[.d .i,.q xh,.q .i],[.d .i],λx=>Yo fu x.1 x.2.1 x.2.2.1,0⟩:=sq fu wx func318<|D (dZ fu)<|cN
def R2:yv ⟨348,[.d xh,.d xh,.d .i],[.own .i 3,.d .i],λx=>KU fu x.1 x.2.1 x.2.2.1,0⟩:=sq fu wx func348<|D (wa fu)<|D (dG fu)<|D (ju fu)<|cN
def Lo:yv ⟨321,[.d xh,.d .i,.d xh,.d .i],[.own .i 3],λx=>Jj fu x.1 x.2.1 x.2.2.1 x.2.2.2.1,0⟩:=sq fu wx func321<|D (xB fu)<|D (eo fu)<|D (R2 fu)<|D (Ak fu)<|cN
def GA:yv ⟨276,[.d xh,.d (.l xh),.d .i,.d xh],[.own xh 125],λx=>W8 fu x.1 x.2.1 x.2.2.1 x.2.2.2.1,0⟩:=sq fu ⟨[],[(524297,⟨[10],[(.n,⟨[(11,.d .i),(28,.d (.l xh)),(29,.d .i),(31,.d .b)],[]⟩)]⟩),(983056,⟨[10],[(.n,⟨[(1,.d (.l xh)),(6,.q .i),(7,.q xh),(11,.d .i),(13,.d xh),(28,.d (.l xh)),(29,.d .i),(30,.d .i),(73,.d .b)],[]⟩)]⟩)],[(4,q1 [(10,.own xh 125),(11,.d .i)] 0 [(10,.own xh 125)]),(7,⟨⟨[(1,.d (.l xh)),(6,.q .i),(7,.q xh),(10,.own xh 125),(30,.d .i)],[]⟩,⟨[],[(.x 0,⟨[(10,.own xh 125)],[]⟩),(.x 2,⟨[(1,.d (.l xh)),(6,.q .i),(7,.q xh),(10,.own xh 125)],[]⟩)]⟩⟩),(10,⟨⟨[(10,.own xh 125),(14,.d .i)],[]⟩,⟨[],[(.x 0,⟨[(10,.own xh 125)],[]⟩),(.x 4,⟨[(10,.own xh 125)],[]⟩)]⟩⟩)],[],[],[],[]⟩ func276<|D (SV fu)<|D (Lo fu)<|D (zdU fu)<|D (Bp fu)<|cN
def mg:yv ⟨347,[.d xh,.d .i],[.own .i 3,.d .i],λx=>jm fu x.1 x.2.1,0⟩:=sq fu wx func347<|D (wa fu)<|D (dm fu)<|D (ju fu)<|cN
def Lq:yv ⟨317,[.d xh,.d .i],[.own .i 3,.d .i],λx=>bL fu x.1 x.2.1,0⟩:=sq fu wx func317<|D (mg fu)<|cN
def Gh:yv ⟨314,[.d xh,.d .i],[.own .i 3,.d .i],λx=>WV fu x.1 x.2.1,0⟩:=sq fu ⟨[],[(458760,⟨[7,17],[(.n,⟨[(1,.d .i),(18,.d .i),(20,.d .b)],[]⟩)]⟩)],[(6,q1 [(7,.own .i 3),(19,.d .i),(17,.own .i 3)] 0 [(7,.own .i 3)])],[],[],[],[]⟩ func314<|D (wa fu)<|D (ju fu)<|cN
def Nc:yv ⟨313,[.d xh,.d .i],[.own .i 3,.d .i],λx=>Q0 fu x.1 x.2.1,0⟩:=sq fu wx func313<|D (mg fu)<|cN
def HS:yv ⟨271,[.d xh,.d .i],[.d .b,.d .i],λx=>YX fu x.1 x.2.1,0⟩:=sq fu wx func271<|D (Nc fu)<|D (Gh fu)<|D (gf fu)<|cN
def Fu:yv ⟨275,[.d xh,.d .i],[.d xh,.d .i],λx=>uw fu x.1 x.2.1,0⟩:=sq fu wx func275<|D (Lq fu)<|D (HS fu)<|cN
def b5:yv ⟨261,[.d .u],[.d .i],λx=>ue fu x.1,0⟩:=sq fu wx func261<|D (Xc fu)<|cN
def Z1:yv ⟨354,[.own xh 125,.d .i,.d .i,.fn [xh,xh] [.i]],[.own xh 125],λx=>vU fu x.1 x.2.1 x.2.2.1<|λz0 a=>x.2.2.2.1 (z0,a,()),1⟩:=sgb (fu:=fu) ⟨[],[],[(1,q1 [(8,.d .i),(0,.own xh 125)] 0 [(0,.own xh 125)]),(4,q1 [(1,.d .i),(2,.d .i),(9,.d .i),(0,.own xh 125)] 2 [(1,.d .i),(2,.d .i),(0,.own xh 125)])],[(6,[])],[],[],[]⟩ func354 (cN) mS λb x=>by kernel_rfl
def WE:XW:=⟨325,[.own xh 125,.d .i,.d .i,.d .i,.fn [xh,xh] [.i]],[.own xh 125],λx=>j7 fu x.1 x.2.1 x.2.2.1 x.2.2.2.1<|λz0 a=>x.2.2.2.2.1 (z0,a,()),1⟩
def jJ:∀fu:K,yv (WE fu)
 |0=>sg0 mS λ_=>O
 |fu+1=>sgb (fu:=fu) ⟨[],[],[(2,⟨⟨[(1,.d .i),(2,.d .i),(3,.d .i),(0,.own xh 125)],[(10,.kb wL),(11,.kb wL)]⟩,⟨[],[(.r,⟨[(0,.own xh 125)],[]⟩)]⟩⟩)],[],[],[],[]⟩ func325 (D (Z1 fu)<|D (jJ fu)<|cN) mS λa x=>by kernel_rfl
def VX:yv ⟨278,[.own xh 125,.fn [xh,xh] [.i]],[.own xh 125],λx=>wh fu x.1<|λz0 a=>x.2.1 (z0,a,()),1⟩:=sgb (fu:=fu) wx func278 (D (jJ fu)<|D (b5 fu)<|cN) mS λb x=>by kernel_rfl
def IE:yv ⟨245,[.d xh,.d .i,.d xh],[.own xh 125,.d .i],λx=>XG fu x.1 x.2.1 x.2.2.1,0⟩:=sq fu wx func245<|D (Fu fu)<|D (GA fu)<|D (MR fu)<|D (VX fu)<|D (Cm fu)<|cN
def MZ:yv ⟨242,[.d .i],[.d .i,.d .i],λx=>wO fu x.1,0⟩:=sq fu ⟨[],[],[(4,q1 [(0,.d .i)] 0 [(0,.d .i)])],[],[],[],[]⟩ func242<|D (JK fu)<|cN
def Ng:yv ⟨243,[.d yQ,.d .i],[.d .b,.d .i],λx=>QM fu x.1 x.2.1,0⟩:=sq fu wx func243<|D (HS fu)<|D (Q7 fu)<|D (VP fu)<|D (JK fu)<|D (xp fu)<|cN
def IL:yv ⟨208,[.d yQ,.d xh],[.d .i,.own xh 125],λx=>QK fu x.1 x.2.1,0⟩:=sq fu ⟨[],[],[(4,q1 [(6,.d .i),(7,.d .i),(8,.own xh 125),(9,.d .i),(10,.d .i)] 0 [(6,.d .i),(8,.own xh 125)])],[],[],[],[]⟩ func208<|D (MZ fu)<|D (Ng fu)<|D (VP fu)<|D (IE fu)<|cN
def DM:yv ⟨281,[.d .i],[.d F],λx=>eC fu x.1,0⟩:=sq fu ⟨[],[(262149,⟨[2,3],[(.n,⟨[(0,.d .i),(6,.d .i),(8,.d .b)],[]⟩)]⟩)],[(3,q1 [(7,.d .i),(2,.var F 44),(3,.var F 44)] 0 [(2,.var F 44),(3,.var F 44)])],[(5,[])],[],[],[]⟩ func281<|D (xB fu)<|D (Xt fu)<|D (xr fu)<|cN
def Gm:yv ⟨280,[.d F,.d .i],[.d F],λx=>Ya fu x.1 x.2.1,0⟩:=sq fu ⟨[2],[],[(2,⟨⟨[(1,.d .i),(2,.var F 44),(5,.var F 44)],[]⟩,⟨[4],[(.x 0,⟨[(5,.var F 44)],[]⟩)]⟩⟩)],[],[],[],[]⟩ func280<|D (xB fu)<|D (xr fu)<|cN
def Gz:yv ⟨362,[.d yQ,.d yQ],[.d F],λx=>mo fu x.1 x.2.1,0⟩:=sq fu ⟨[],[(262149,⟨[4,5],[(.n,⟨[(1,.d yQ),(9,.d yQ),(10,.d .i),(12,.d .b)],[]⟩)]⟩)],[(3,q1 [(11,.d .i),(4,.var F 44),(5,.var F 44)] 0 [(4,.var F 44),(5,.var F 44)])],[],[],[],[]⟩ func362<|D (xB fu)<|D (u9 fu)<|D (xr fu)<|cN
def Fh:yv ⟨326,[.d yQ,.d yQ],[.d F,.d .i],λx=>lR fu x.1 x.2.1,0⟩:=sq fu wx func326<|D (Gz fu)<|cN
def Cj:yv ⟨282,[.d yQ],[.d F],λx=>eD fu x.1,0⟩:=sq fu wx func282<|D (Fh fu)<|cN
def MA:yv ⟨249,[.d yQ,.d .i,.d .i],[.d .i,.d .i],λx=>ou fu x.1 x.2.1 x.2.2.1,0⟩:=sq fu ⟨[],[],[(13,⟨⟨[(16,.d .i),(15,.var F 44)],[]⟩,⟨[8,13,14],[(.x 0,⟨[],[]⟩),(.r,⟨[(6,.d .i)],[(7,.ci 0)]⟩)]⟩⟩)],[],[],[],[]⟩ func249<|D (xB fu)<|D (Q7 fu)<|D (Zz fu)<|D (Kb fu)<|D (JK fu)<|D (Gm fu)<|D (DM fu)<|D (Cj fu)<|D (xr fu)<|cN
def Bw:yv ⟨252,[.d xh,.q xh,.q .i],[.d .b],λx=>By fu x.1 x.2.1 x.2.2.1,0⟩:=sq fu wx func252<|D (fK fu)<|cN
def FP:yv ⟨211,[.d yQ,.d (.l xh),.d .i],[.own yQ 22,.d yQ,.d (.l xh)],λx=>WU fu x.1 x.2.1 x.2.2.1,0⟩:=sq fu ⟨[],[],[(2,⟨⟨[(0,.d yQ),(1,.d (.l xh))],[(9,.nil)]⟩,⟨[],[(.x 0,⟨[(0,.d yQ),(1,.d (.l xh))],[(9,.nil)]⟩)]⟩⟩)],[],[],[],[]⟩ func211<|D (lu fu)<|D (VP fu)<|D (KN fu)<|D (MA fu)<|D (Bw fu)<|cN
def uB:yv ⟨303,[.own yQ 22,.d .i,.d .i,.fn [yQ,yQ] [.i]],[.own yQ 22],λx=>w7 fu x.1 x.2.1 x.2.2.1<|λz0 a=>x.2.2.2.1 (z0,a,()),1⟩:=sgb (fu:=fu) ⟨[],[],[(1,q1 [(8,.d .i),(0,.own yQ 22)] 0 [(0,.own yQ 22)]),(4,q1 [(1,.d .i),(2,.d .i),(9,.d .i),(0,.own yQ 22)] 2 [(1,.d .i),(2,.d .i),(0,.own yQ 22)])],[(6,[])],[],[],[]⟩ func303 (cN) mS λb x=>by kernel_rfl
def YD:XW:=⟨260,[.own yQ 22,.d .i,.d .i,.d .i,.fn [yQ,yQ] [.i]],[.own yQ 22],λx=>qG fu x.1 x.2.1 x.2.2.1 x.2.2.2.1<|λz0 a=>x.2.2.2.2.1 (z0,a,()),1⟩
def qw:∀fu:K,yv (YD fu)
 |0=>sg0 mS λ_=>O
 |fu+1=>sgb (fu:=fu) ⟨[],[],[(2,⟨⟨[(1,.d .i),(2,.d .i),(3,.d .i),(0,.own yQ 22)],[(10,.kb wL),(11,.kb wL)]⟩,⟨[],[(.r,⟨[(0,.own yQ 22)],[]⟩)]⟩⟩)],[],[],[],[]⟩ func260 (D (qw fu)<|D (uB fu)<|cN) mS λa x=>by kernel_rfl
def ZU:yv ⟨214,[.own yQ 22,.fn [yQ,yQ] [.i]],[.own yQ 22],λx=>yL fu x.1<|λz0 a=>x.2.1 (z0,a,()),1⟩:=sgb (fu:=fu) wx func214 (D (qw fu)<|D (b5 fu)<|cN) mS λb x=>by kernel_rfl
def Lg:yv ⟨171,[.d yQ,.d xh],[.own yQ 22,.d .b],λx=>QW fu x.1 x.2.1,0⟩:=sq fu wx func171<|D (Na fu)<|D (IL fu)<|D (Gv fu)<|D (Kc fu)<|D (FP fu)<|D (lu fu)<|D (FH fu)<|D (ZU fu)<|D (Dq fu)<|cN
def ML:yv ⟨142,[.d F,.d .i],[.d F],λx=>Q1 fu x.1 x.2.1,0⟩:=sq fu ⟨[],[],[(3,⟨⟨[(8,.d .i),(5,.var F 44)],[]⟩,⟨[4],[(.x 0,⟨[(5,.var F 44)],[]⟩)]⟩⟩)],[],[],[],[]⟩ func142<|D (xB fu)<|D (xr fu)<|cN
def FU:yv ⟨185,[.d yQ,.d yQ],[.own F 44,.own F 44,.d .i],λx=>Yg fu x.1 x.2.1,0⟩:=sq fu ⟨[],[],[(9,⟨⟨[(1,.d yQ),(9,.own F 44),(11,.d .i),(10,.own F 44)],[]⟩,⟨[8],[(.x 0,⟨[(9,.own F 44),(10,.own F 44)],[]⟩)]⟩⟩)],[(12,[]),(13,[1])],[],[],[]⟩ func185<|D (WY fu)<|D (Al fu)<|D (ML fu)<|D (xp fu)<|D (Xt fu)<|cN
def TR:yv ⟨205,[.d yQ,.d yQ],[.own F 44],λx=>Wi fu x.1 x.2.1,0⟩:=sq fu ⟨[],[],[(3,⟨⟨[(6,.d yQ),(7,.own F 44)],[]⟩,⟨[5],[(.x 0,⟨[(6,.d yQ)],[]⟩)]⟩⟩)],[],[],[],[]⟩ func205<|D (nk fu)<|D (WY fu)<|D (Zz fu)<|D (FU fu)<|D (Ql fu)<|cN
def A6:yv ⟨239,[.d .i,.d F],[.d F],λx=>Qf fu x.1 x.2.1,0⟩:=sq fu wx func239<|D (xB fu)<|D (xr fu)<|cN
def Gj:yv ⟨206,[.d yQ],[.own F 44],λx=>WX fu x.1,0⟩:=sq fu wx func206<|D (xp fu)<|D (A6 fu)<|D (xt fu)<|cN
def zcK:yv ⟨204,[.d yQ,.d yQ],[.own F 44],λx=>sY fu x.1 x.2.1,0⟩:=sq fu wx func204<|D (KN fu)<|cN
def EP:yv ⟨170,[.d yQ],[.own F 44,.d .i],λx=>qA fu x.1,0⟩:=sq fu wx func170<|D (rJ fu)<|D (zcK fu)<|D (TR fu)<|D (Gj fu)<|D (Zz fu)<|cN
def CL:yv ⟨129,[.d yQ,.d xh],[.d F,.own (.p yQ .i) 61,.d .i],λx=>vE fu x.1 x.2.1,0⟩:=sq fu ⟨[],[(655371,⟨[4,11,32],[(.n,⟨[(0,.d yQ),(33,.d .i),(35,.d .b)],[]⟩)]⟩)],[(9,q1 [(11,.own (.p yQ .i) 61),(34,.d .i),(4,.var F 44),(32,.own yQ 22)] 0 [(11,.own (.p yQ .i) 61),(4,.var F 44)])],[],[],[],[]⟩ func129<|D (EP fu)<|D (Lg fu)<|D (L5 fu)<|D (Ql fu)<|cN
def nN:yv ⟨82,[.d yQ],[.d .b,.d .i],λx=>wm fu x.1,0⟩:=sq fu wx func82<|D (CL fu)<|cN
def AB:yv ⟨40,[.d yQ],[.d (.po (.w1 (.p yQ (.l (.p F zN))))),.d .i],λx=>VK fu x.1,0⟩:=sq fu ⟨[],[(917519,⟨[6],[(.n,⟨[(0,.d yQ),(32,.d yQ),(33,.d .i),(35,.d .b)],[]⟩)]⟩)],[(13,q1 [(34,.d .i),(6,.vr (.p yQ (.l (.p F zN))) 101 (.p F zN) 46 2 1)] 1 [(6,.vr (.p yQ (.l (.p F zN))) 101 (.p F zN) 46 2 1)])],[(15,[])],[],[],[(6,1,46),(31,1,46)]⟩ func40<|D (Zz fu)<|D (nN fu)<|D (mM fu)<|cN
def qW:yv ⟨87,[.d (.po (.w1 (.p yQ (.l (.p F zN)))))],[.d .b],λx=>xW fu x.1,0⟩:=sq fu wx func87<|cN
def gk:yv ⟨24,[.d .i],[.d (.p F zN)],λx=>jQ fu x.1,0⟩:=sq fu wx func24<|D (xB fu)<|cN
def tZ:yv ⟨146,[.d (.p F zN)],[.d F],λx=>YU fu x.1,0⟩:=sq fu wx func146<|D (YK fu)<|cN
def JN:yv ⟨96,[.d (.p F zN)],[.d (.p F zN)],λx=>wk fu x.1,0⟩:=sq fu ⟨[],[],[],[(1,[])],[],[],[]⟩ func96<|D (gk fu)<|D (tZ fu)<|D (mM fu)<|cN
def ie:yv ⟨49,[.d (.p F zN),.d (.p F zN)],[.d (.p F zN)],λx=>Wx fu x.1 x.2.1,0⟩:=sq fu ⟨[2,3],[],[],[],[],[],[]⟩ func49<|D (JN fu)<|D (gU fu)<|D (xr fu)<|cN
def Dy:yv ⟨51,[.d (.p F zN)],[.d .i],λx=>JX fu x.1,0⟩:=sq fu wx func51<|D (JN fu)<|D (qi fu)<|cN
def Fm:yv ⟨191,[.d (.p F zN),.d (.p F zN),.fn [F,F] [F]],[.d (.p F zN)],λx=>Vc fu x.1 x.2.1<|λz0 a=>x.2.2.1 (z0,a,()),0⟩:=sq fu ⟨[3,4],[],[],[(2,[])],[],[],[]⟩ func191<|D (JN fu)<|D (tZ fu)<|D (xr fu)<|D (gU fu)<|cN
def C4:yv ⟨192,[.d F,.d F,.q .b],[.d F],λx=>XE fu x.1 x.2.1 x.2.2.1,0⟩:=sq fu wx func192<|D (X5 fu)<|D (u9 fu)<|cN
def oO:yv ⟨159,[.d (.p F zN),.d (.p F zN),.d .b],[.d (.p F zN)],λx=>XF fu x.1 x.2.1 x.2.2.1,0⟩:=sq fu wx func159<|D (C4 fu)<|D (Fm fu)<|cN
def Hj:yv ⟨113,[.d (.p F zN),.d (.p F zN)],[.d (.p F zN)],λx=>ah fu x.1 x.2.1,0⟩:=sq fu wx func113<|D (oO fu)<|cN
def Zy:yv ⟨89,[.d (.p yQ (.l (.p F zN))),.d (.l (.p F zN))],[.own (.p F zN) 46],λx=>xy fu x.1 x.2.1,0⟩:=sq fu ⟨[],[(262149,⟨[5],[(.n,⟨[(2,.q (.p yQ (.l (.p F zN)))),(15,.d (.l (.p F zN))),(16,.d .i),(18,.d .b)],[]⟩)]⟩),(851982,⟨[5,10],[(.n,⟨[(2,.q (.p yQ (.l (.p F zN)))),(8,.d .i),(45,.d .b)],[]⟩)]⟩),(983056,⟨[5,10],[(.n,⟨[(2,.q (.p yQ (.l (.p F zN)))),(8,.d .i),(9,.d .i),(46,.d .i),(48,.d .b)],[]⟩)]⟩)],[(3,q1 [(17,.d .i),(5,.own (.p F zN) 46)] 0 [(5,.own (.p F zN) 46)]),(9,⟨⟨[(5,.own (.p F zN) 46),(9,.d .i)],[]⟩,⟨[],[(.x 2,⟨[(5,.own (.p F zN) 46)],[]⟩),(.r,⟨[(4,.own (.p F zN) 46)],[]⟩)]⟩⟩),(14,q1 [(47,.d .i),(5,.own (.p F zN) 46),(10,.var (.p F zN) 46)] 4 [(5,.own (.p F zN) 46)])],[],[],[],[]⟩ func89<|D (JN fu)<|D (ie fu)<|D (Dy fu)<|D (Hj fu)<|cN
def Hk:yv ⟨145,[.d (.p F zN),.d (.p F zN)],[.d (.p F zN)],λx=>ab fu x.1 x.2.1,0⟩:=sq fu wx func145<|D (oO fu)<|cN
def VA:yv ⟨95,[.d (.p yQ (.l (.p F zN))),.d (.l (.p F zN)),.d (.l (.p F zN))],[.own (.p F zN) 46],λx=>xF fu x.1 x.2.1 x.2.2.1,0⟩:=sq fu ⟨[],[(327686,⟨[2,7],[(.n,⟨[(3,.q (.p yQ (.l (.p F zN)))),(24,.d (.l (.p F zN))),(25,.d .i),(27,.d .b)],[]⟩)]⟩),(524297,⟨[2,7,9],[(.n,⟨[(3,.q (.p yQ (.l (.p F zN)))),(8,.d .i),(24,.d (.l (.p F zN))),(25,.d .i),(26,.d .i),(32,.d .i),(34,.d .b)],[]⟩)]⟩)],[(4,q1 [(26,.d .i),(2,.own (.p F zN) 46),(7,.own (.p F zN) 46)] 0 [(7,.own (.p F zN) 46)]),(7,⟨⟨[(33,.d .i),(2,.own (.p F zN) 46),(7,.own (.p F zN) 46),(9,.var (.p F zN) 46)],[(31,.al 2)]⟩,⟨[],[(.x 2,⟨[(2,.own (.p F zN) 46),(7,.own (.p F zN) 46)],[]⟩)]⟩⟩)],[],[],[],[]⟩ func95<|D (Zy fu)<|D (Hk fu)<|D (ie fu)<|cN
def Wm:yv ⟨99,[.d (.p yQ (.l (.p F zN))),.d (.l (.p F zN)),.d (.l (.p F zN)),.d .i],[.own (.p F zN) 46],λx=>vk fu x.1 x.2.1 x.2.2.1 x.2.2.2.1,0⟩:=sq fu ⟨[],[(327686,⟨[9],[(.n,⟨[(3,.d .i),(4,.q (.p yQ (.l (.p F zN)))),(21,.d (.l (.p F zN))),(22,.d .i),(24,.d .b)],[]⟩)]⟩)],[(4,q1 [(23,.d .i),(9,.own (.p F zN) 46)] 0 [(9,.own (.p F zN) 46)])],[],[],[],[]⟩ func99<|D (gk fu)<|D (ie fu)<|D (Hk fu)<|D (Zy fu)<|cN
def Mh:yv ⟨147,[.d (.l (.p F zN))],[.d (.l (.p F zN))],λx=>au fu x.1,0⟩:=sq fu ⟨[],[],[(1,q1 [(0,.d (.l (.p F zN)))] 0 [(0,.d (.l (.p F zN)))])],[],[],[],[]⟩ func147<|D (Dy fu)<|cN
def Ij:yv ⟨101,[.d (.p F zN),.d (.p F zN)],[.d (.p F zN),.d .i],λx=>tK fu x.1 x.2.1,0⟩:=sq fu ⟨[2,3],[],[],[],[],[],[]⟩ func101<|D (JN fu)<|D (tZ fu)<|D (mM fu)<|D (xr fu)<|cN
def tD:yv ⟨100,[.d (.l (.p F zN)),.d (.l (.p F zN))],[.d (.l (.p F zN)),.d (.l (.p F zN))],λx=>U6 fu x.1 x.2.1,0⟩:=sq fu ⟨[],[(589834,⟨[6,7],[(.n,⟨[(8,.d .i),(50,.d (.l (.p F zN))),(51,.d .i),(53,.d .b)],[]⟩)]⟩)],[(4,q1 [(8,.d .i),(6,.own (.p F zN) 46),(7,.own (.p F zN) 46)] 0 [(6,.own (.p F zN) 46),(7,.own (.p F zN) 46)]),(8,q1 [(1,.d (.l (.p F zN))),(52,.d .i),(6,.own (.p F zN) 46),(7,.own (.p F zN) 46)] 2 [(1,.d (.l (.p F zN))),(6,.own (.p F zN) 46),(7,.own (.p F zN) 46)])],[(6,[])],[],[],[]⟩ func100<|D (ie fu)<|D (Mh fu)<|D (Ij fu)<|D (Hj fu)<|cN
def Kn:yv ⟨54,[.d (.po (.w1 (.p yQ (.l (.p F zN))))),.d (.l (.p F zN))],[.own (.p F zN) 46,.d .i],λx=>XA fu x.1 x.2.1,0⟩:=sq fu ⟨[],[],[(8,q1 [(6,.d (.l (.p F zN))),(7,.d (.l (.p F zN))),(8,.d (.l (.p F zN))),(9,.d (.l (.p F zN)))] 0 [(7,.d (.l (.p F zN))),(9,.d (.l (.p F zN)))])],[(11,[])],[],[],[]⟩ func54<|D (Wm fu)<|D (tD fu)<|D (Ij fu)<|D (qW fu)<|D (gk fu)<|D (Zy fu)<|D (VA fu)<|cN
def Xb:yv ⟨47,[.d (.po (.w1 (.p yQ (.l (.p F zN))))),.d (.l (.p F zN)),.d (.l (.p F zN))],[.own (.p F zN) 46,.d .i],λx=>xU fu x.1 x.2.1 x.2.2.1,0⟩:=sq fu wx func47<|D (VA fu)<|D (qW fu)<|cN
def Ks:yv ⟨53,[.d (.po (.w1 (.p yQ (.l (.p F zN))))),.d (.l (.p F zN)),.d (.l (.p F zN))],[.own (.p F zN) 46,.d .i],λx=>Xx fu x.1 x.2.1 x.2.2.1,0⟩:=sq fu wx func53<|D (Wm fu)<|D (qW fu)<|cN
def rf:yv ⟨48,[.d (.po (.w1 (.p yQ (.l (.p F zN))))),.d (.l (.p F zN))],[.own (.p F zN) 46,.d .i],λx=>vL fu x.1 x.2.1,0⟩:=sq fu wx func48<|D (Zy fu)<|D (qW fu)<|cN
def Ly:Ji:=⟨⟨67,[.d (.l (.p F zN)),.d .i],[.d (.l (.p F zN))],λ_=>wF,0⟩,λx=>xo fu x.1 x.2.1⟩
def ZN:NW Tryz.prog (Ly fu):=sgp (fu:=fu) wx func67 (cN) (pN) mS λx=>by kernel_rfl
def nK:Ji:=⟨⟨62,[.d (.w1 (.po (.w1 (.p yQ (.l (.p F zN)))))),.d (.l (.l (.p F zN)))],[.own (.l (.p F zN)) 41],λ_=>wF,0⟩,λx=>yh fu x.1 x.2.1⟩
def wv:NW Tryz.prog (nK fu):=sgp (fu:=fu) ⟨[],[(327686,⟨[5],[(.n,⟨[(2,.q (.w1 (.po (.w1 (.p yQ (.l (.p F zN))))))),(17,.d (.l (.l (.p F zN)))),(18,.d .i),(20,.d .b)],[]⟩)]⟩)],[(4,⟨⟨[(19,.d .i),(5,.own (.l (.p F zN)) 41)],[]⟩,⟨[],[(.x 0,⟨[(5,.own (.l (.p F zN)) 41)],[]⟩),(.p (0,0),⟨[],[]⟩)]⟩⟩),(8,q1 [(5,.own (.l (.p F zN)) 41)] 2 [(5,.own (.l (.p F zN)) 41)])],[],[],[],[]⟩ func62 (D (rf fu)<|cN) (pC (ZN fu)<|pN) mS λx=>by kernel_rfl
def gx:Ji:=⟨⟨58,[.d (.w1 (.po (.w1 (.p yQ (.l (.p F zN)))))),.d (.l (.l (.p F zN))),.d (.l (.l (.p F zN)))],[.own (.l (.p F zN)) 41,.own (.l (.p F zN)) 41],λ_=>wF,0⟩,λx=>VF fu x.1 x.2.1 x.2.2.1⟩
def fT:NW Tryz.prog (gx fu):=sgp (fu:=fu) ⟨[],[(786445,⟨[2,8,10],[(.n,⟨[(11,.d .i),(71,.d .i),(73,.d .b)],[]⟩)]⟩)],[(7,⟨⟨[(11,.d .i),(2,.own (.l (.p F zN)) 41),(8,.own (.l (.p F zN)) 41),(10,.own (.l (.p F zN)) 41)],[]⟩,⟨[],[(.x 0,⟨[(8,.own (.l (.p F zN)) 41),(10,.own (.l (.p F zN)) 41)],[]⟩),(.p (0,0),⟨[],[]⟩)]⟩⟩),(11,⟨⟨[(3,.q (.w1 (.po (.w1 (.p yQ (.l (.p F zN))))))),(9,.d (.l (.p F zN))),(72,.d .i),(2,.own (.l (.p F zN)) 41),(8,.own (.l (.p F zN)) 41),(10,.own (.l (.p F zN)) 41)],[(70,.al 2)]⟩,⟨[],[(.x 2,⟨[(3,.q (.w1 (.po (.w1 (.p yQ (.l (.p F zN))))))),(9,.d (.l (.p F zN))),(2,.own (.l (.p F zN)) 41),(8,.own (.l (.p F zN)) 41),(10,.own (.l (.p F zN)) 41)],[]⟩),(.p (0,0),⟨[],[]⟩)]⟩⟩)],[(1,[]),(9,[65]),(13,[96,100]),(15,[10])],[],[],[]⟩ func58 (D (Xb fu)<|D (Ks fu)<|D (Kn fu)<|cN) (pC (ZN fu)<|pC (wv fu)<|pN) mS λx=>by kernel_rfl
def KK:yv ⟨52,[.d (.po (.w1 (.p yQ (.l (.p F zN))))),.d (.l (.p F zN)),.d (.l (.p F zN))],[.own (.p F zN) 46,.d .i],λx=>vK fu x.1 x.2.1 x.2.2.1,0⟩:=sq fu wx func52<|D (Wm fu)<|D (qW fu)<|cN
def gi:Ji:=⟨⟨64,[.d (.w1 (.po (.w1 (.p yQ (.l (.p F zN)))))),.d (.l (.l (.p F zN))),.d (.l (.l (.p F zN)))],[.own (.l (.p F zN)) 41],λ_=>wF,0⟩,λx=>qY fu x.1 x.2.1 x.2.2.1⟩
def Ve:NW Tryz.prog (gi fu):=sgp (fu:=fu) ⟨[],[(262149,⟨[7],[(.n,⟨[(2,.d (.l (.l (.p F zN)))),(3,.q (.w1 (.po (.w1 (.p yQ (.l (.p F zN))))))),(18,.d (.l (.l (.p F zN)))),(19,.d .i),(21,.d .b)],[]⟩)]⟩),(458760,⟨[7],[(.n,⟨[(2,.d (.l (.l (.p F zN)))),(3,.q (.w1 (.po (.w1 (.p yQ (.l (.p F zN))))))),(8,.d .i),(9,.d (.l (.p F zN))),(18,.d (.l (.l (.p F zN)))),(19,.d .i),(20,.d .i),(25,.d (.l (.l (.p F zN)))),(26,.d .i),(28,.d .b)],[]⟩)]⟩)],[(3,⟨⟨[(20,.d .i),(7,.own (.l (.p F zN)) 41)],[]⟩,⟨[],[(.x 0,⟨[(7,.own (.l (.p F zN)) 41)],[]⟩),(.p (0,0),⟨[],[]⟩)]⟩⟩),(6,⟨⟨[(27,.d .i),(7,.own (.l (.p F zN)) 41)],[]⟩,⟨[],[(.x 2,⟨[(7,.own (.l (.p F zN)) 41)],[]⟩),(.p (0,0),⟨[],[]⟩)]⟩⟩)],[(8,[48,52])],[],[],[]⟩ func64 (D (KK fu)<|D (Xb fu)<|cN) (pC (ZN fu)<|pC (wv fu)<|pN) mS λx=>by kernel_rfl
def nD:Ji:=⟨⟨61,[.d (.w1 (.po (.w1 (.p yQ (.l (.p F zN)))))),.d (.l (.l (.p F zN)))],[.own (.l (.p F zN)) 41],λ_=>wF,0⟩,λx=>kK fu x.1 x.2.1⟩
def mC:NW Tryz.prog (nD fu):=sgp (fu:=fu) ⟨[],[],[],[(4,[21])],[],[],[]⟩ func61 (D (Kn fu)<|cN) (pC (Ve fu)<|pC (ZN fu)<|pC (wv fu)<|pN) mS λx=>by kernel_rfl
def Sj:yv ⟨17,[.d (.po (.w1 (.p yQ (.l (.p F zN))))),.d (.l (.l (.p F zN))),.d (.l (.l (.p F zN)))],[.own (.l (.p F zN)) 41,.d .i],λx=>Ao fu x.1 x.2.1 x.2.2.1,0⟩:=sgr (fu:=fu) ⟨[],[],[(4,⟨⟨[(9,.d (.l (.l (.p F zN)))),(10,.own (.l (.p F zN)) 41)],[]⟩,⟨[7,8],[(.x 0,⟨[(9,.d (.l (.l (.p F zN))))],[]⟩),(.p (0,0),⟨[],[]⟩)]⟩⟩)],[(3,[])],[],[],[]⟩ gI func17 (cN) (pC (fT fu)<|pC (mC fu)<|pC (wv fu)<|pN) mS λx=>by kernel_rfl
def Fi:yv ⟨11,[],[.d .b],λx=>Va fu,0⟩:=sq fu wx func11<|D (AB fu)<|D (Sj fu)<|D (oZ fu)<|D (CM fu)<|D (gk fu)<|cN
def Ot:yv ⟨13,[.d .i,.d (.l (.l (.l (.p F zN))))],[.d .b],λx=>VL fu x.1 x.2.1,0⟩:=sq fu ⟨[],[],[(2,⟨⟨[(5,.d .i)],[]⟩,⟨[],[(.x 0,⟨[],[]⟩),(.r,⟨[],[(4,.kb I)]⟩)]⟩⟩),(7,⟨⟨[(0,.d .i),(1,.d (.l (.l (.l (.p F zN))))),(6,.d .i)],[]⟩,⟨[],[(.x 2,⟨[(0,.d .i),(1,.d (.l (.l (.l (.p F zN)))))],[]⟩),(.r,⟨[],[(4,.kb I)]⟩)]⟩⟩),(12,⟨⟨[(5,.d .i),(7,.d .i)],[]⟩,⟨[],[(.x 4,⟨[(5,.d .i)],[]⟩),(.r,⟨[],[(4,.kb I)]⟩)]⟩⟩)],[],[],[],[]⟩ func13<|cN
def pT:yv ⟨165,[.d zN],[.own .u 73],λx=>Xl fu x.1,0⟩:=sq fu ⟨[],[],[(2,q1 [(3,.d .i)] 0 [(3,.d .i)])],[],[],[],[]⟩ func165<|cN
def qV:yv ⟨119,[.d F],[.d F],λx=>xc fu x.1,0⟩:=sq fu wx func119<|D (pT fu)<|cN
def Ry:yv ⟨169,[.d F],[.d F],λx=>Vr fu x.1,0⟩:=sq fu wx func169<|D (qV fu)<|cN
def mI:yv ⟨230,[.d zN,.d .i],[.d .u],λx=>qF fu x.1 x.2.1,0⟩:=sq fu wx func230<|cN
def gb:yv ⟨238,[.d zN],[.d zN],λx=>YN fu x.1,0⟩:=sq fu ⟨[],[],[(2,q1 [(3,.d .i)] 0 [(3,.d .i)])],[],[],[],[]⟩ func238<|cN
def Xw:yv ⟨229,[.d zN],[.d zN],λx=>xG fu x.1,0⟩:=sq fu ⟨[],[],[(3,q1 [(3,.own .u 73),(4,.d .i)] 0 [(3,.own .u 73)])],[],[],[],[]⟩ func229<|D (gb fu)<|cN
def WZ:yv ⟨231,[.d zN],[.own .u 73],λx=>v7 fu x.1,0⟩:=sq fu ⟨[],[],[(3,q1 [(3,.own .u 73),(4,.d .i)] 0 [(3,.own .u 73)])],[],[],[],[]⟩ func231<|D (pT fu)<|cN
def Ay:yv ⟨187,[.d zN,.d zN],[.own .u 73],λx=>Vk fu x.1 x.2.1,0⟩:=sq fu ⟨[],[],[(6,q1 [(7,.own .u 73),(8,.d .u),(9,.d .i)] 0 [(7,.own .u 73)])],[],[],[],[]⟩ func187<|D (Xw fu)<|D (mI fu)<|D (WZ fu)<|cN
def cJ:yv ⟨232,[.d zN,.d zN],[.d .i],λx=>uk fu x.1 x.2.1,0⟩:=sq fu ⟨[],[],[(2,⟨⟨[(5,.d .i)],[]⟩,⟨[],[(.x 0,⟨[],[]⟩),(.r,⟨[(4,.d .i)],[]⟩)]⟩⟩)],[],[],[],[]⟩ func232<|D (mI fu)<|cN
def pY:yv ⟨233,[.d zN,.d zN],[.d zN],λx=>Xn fu x.1 x.2.1,0⟩:=sq fu ⟨[],[],[(4,q1 [(5,.own .u 73),(6,.d .u),(7,.d .i)] 0 [(5,.own .u 73)])],[],[],[],[]⟩ func233<|D (mI fu)<|D (gb fu)<|cN
def Oj:yv ⟨202,[.d zN,.d zN],[.own .u 73,.own .u 73,.d .i],λx=>Kq fu x.1 x.2.1,0⟩:=sq fu ⟨[],[(1245204,⟨[9],[(.n,⟨[(72,.d .b)],[]⟩)]⟩)],[(8,q1 [(10,.d zN),(11,.d .i),(9,.own .u 73)] 0 [(10,.d zN),(9,.own .u 73)]),(13,⟨⟨[(7,.d zN),(8,.d zN),(12,.own .u 73),(13,.d .u),(14,.d .i)],[]⟩,⟨[9],[(.x 2,⟨[(7,.d zN),(8,.d zN),(12,.own .u 73),(13,.d .u)],[]⟩)]⟩⟩)],[],[],[],[]⟩ func202<|D (Xw fu)<|D (WZ fu)<|D (cJ fu)<|D (pY fu)<|D (gb fu)<|cN
def AK:yv ⟨188,[.d zN,.d zN],[.own .u 73,.d .i],λx=>YY fu x.1 x.2.1,0⟩:=sq fu wx func188<|D (cJ fu)<|D (pY fu)<|D (Xw fu)<|D (WZ fu)<|cN
def AL:yv ⟨166,[.d F,.d F],[.d F,.d F,.d .i],λx=>Vs fu x.1 x.2.1,0⟩:=sq fu ⟨[],[(327688,⟨[4,5],[(.n,⟨[(7,.own .u 73),(8,.own .u 73)],[]⟩)]⟩)],[],[],[],[],[]⟩ func166<|D (Oj fu)<|D (Ay fu)<|D (AK fu)<|D (qV fu)<|cN
def bK:yv ⟨118,[.d F],[.d .i],λx=>ZE fu x.1,0⟩:=sq fu wx func118<|D (qV fu)<|cN
def SI:yv ⟨124,[.d F,.d F],[.d F],λx=>Kk fu x.1 x.2.1,0⟩:=sq fu ⟨[],[],[(3,⟨⟨[(5,.var F 44),(6,.var F 44)],[]⟩,⟨[4],[(.x 0,⟨[(5,.var F 44)],[]⟩)]⟩⟩)],[],[],[],[]⟩ func124<|D (Ry fu)<|D (AL fu)<|D (bK fu)<|cN
def PO:yv ⟨125,[.d F],[.d F],λx=>KP fu x.1,0⟩:=sq fu wx func125<|D (qV fu)<|cN
def EE:yv ⟨112,[.d .i],[.d F],λx=>JL fu x.1,0⟩:=sq fu wx func112<|D (qV fu)<|cN
def ZH:yv ⟨78,[.d yQ],[.own F 44],λx=>vz fu x.1,0⟩:=sq fu ⟨[],[],[(2,q1 [(3,.d .i)] 0 [(3,.d .i)]),(6,q1 [(4,.own F 44),(5,.d .i)] 2 [(4,.own F 44)])],[],[],[],[]⟩ func78<|D (bK fu)<|D (qV fu)<|cN
def BG:yv ⟨80,[.d yQ],[.d F],λx=>Yk fu x.1,0⟩:=sq fu ⟨[],[],[(4,⟨⟨[(5,.d .i),(4,.var F 44)],[]⟩,⟨[2,3],[(.x 0,⟨[(4,.var F 44)],[]⟩)]⟩⟩)],[],[],[],[]⟩ func80<|D (EE fu)<|D (SI fu)<|D (PO fu)<|D (ZH fu)<|cN
def Fx:yv ⟨120,[.d F,.d F],[.d F,.d .i],λx=>WJ fu x.1 x.2.1,0⟩:=sq fu wx func120<|D (bK fu)<|D (AL fu)<|cN
def AA:yv ⟨154,[.d F,.d F],[.d F],λx=>VD fu x.1 x.2.1,0⟩:=sq fu wx func154<|D (Ay fu)<|D (AK fu)<|D (qV fu)<|cN
def TJ:yv ⟨167,[.d yQ,.d .i],[.d F],λx=>JI fu x.1 x.2.1,0⟩:=sq fu wx func167<|cN
def Aj:yv ⟨121,[.d yQ,.d yQ],[.own F 44],λx=>VB fu x.1 x.2.1,0⟩:=sq fu ⟨[],[],[(3,q1 [(5,.own F 44),(6,.d .i)] 0 [(5,.own F 44)])],[],[],[],[]⟩ func121<|D (AA fu)<|D (ZH fu)<|D (TJ fu)<|cN
def R7:yv ⟨189,[.d zN,.d zN],[.own .u 73],λx=>KA fu x.1 x.2.1,0⟩:=sq fu ⟨[],[],[(5,q1 [(8,.d .i),(7,.own .u 73)] 0 [(7,.own .u 73)]),(9,q1 [(5,.d zN),(6,.d zN),(9,.d .u),(10,.d .i),(7,.own .u 73)] 2 [(5,.d zN),(6,.d zN),(9,.d .u),(7,.own .u 73)])],[],[],[],[]⟩ func189<|D (Xw fu)<|D (WZ fu)<|cN
def AG:yv ⟨155,[.d F,.d F],[.d F],λx=>YM fu x.1 x.2.1,0⟩:=sq fu wx func155<|D (R7 fu)<|D (qV fu)<|cN
def OU:yv ⟨123,[.d yQ,.d yQ],[.own F 44],λx=>KR fu x.1 x.2.1,0⟩:=sq fu ⟨[],[],[(3,q1 [(6,.d .i),(5,.own F 44)] 0 [(5,.own F 44)]),(6,q1 [(0,.d yQ),(1,.d yQ),(7,.d .i),(5,.own F 44)] 2 [(0,.d yQ),(1,.d yQ),(5,.own F 44)])],[],[],[],[]⟩ func123<|D (AA fu)<|D (AG fu)<|D (ZH fu)<|cN
def Gg:yv ⟨168,[.d yQ,.d F],[.own F 44],λx=>W1 fu x.1 x.2.1,0⟩:=sq fu ⟨[],[],[(3,q1 [(5,.own F 44),(6,.d .i)] 0 [(5,.own F 44)])],[],[],[],[]⟩ func168<|D (AG fu)<|D (ZH fu)<|cN
def Sx:yv ⟨122,[.d yQ,.d yQ],[.own F 44],λx=>KQ fu x.1 x.2.1,0⟩:=sq fu wx func122<|D (EE fu)<|D (Aj fu)<|D (Gg fu)<|cN
def RN:yv ⟨79,[.d yQ,.d yQ],[.own F 44,.d .i],λx=>KX fu x.1 x.2.1,0⟩:=sq fu ⟨[],[],[(6,⟨⟨[(6,.d yQ),(7,.own F 44),(8,.own F 44)],[]⟩,⟨[],[(.x 0,⟨[(8,.own F 44)],[]⟩),(.r,⟨[],[(4,.nil),(5,.ci 4)]⟩)]⟩⟩)],[(8,[])],[],[],[]⟩ func79<|D (ZH fu)<|D (Fx fu)<|D (Aj fu)<|D (Sx fu)<|D (OU fu)<|cN
def Nn:yv ⟨38,[.d yQ],[.own F 44],λx=>Jd fu x.1,0⟩:=sq fu wx func38<|D (BG fu)<|D (ZH fu)<|D (RN fu)<|cN
def L8:yv ⟨12,[.d yQ],[.d (.po (.w1 (.p yQ (.l (.p F zN))))),.own F 44],λx=>Q5 fu x.1,0⟩:=sq fu ⟨[],[],[(4,⟨⟨[(4,.d .i)],[]⟩,⟨[],[(.x 0,⟨[],[]⟩),(.r,⟨[(2,.d (.po (.w1 (.p yQ (.l (.p F zN))))))],[(3,.nil)]⟩)]⟩⟩)],[],[],[],[]⟩ func12<|D (AB fu)<|D (Nn fu)<|cN
def iV:Ji:=⟨⟨66,[.d (.w1 (.po (.w1 (.p yQ (.l (.p F zN)))))),.d (.l (.l (.p F zN))),.d (.l (.l (.p F zN))),.d .b],[.own (.l (.p F zN)) 41],λ_=>wF,0⟩,λx=>ZX fu x.1 x.2.1 x.2.2.1 x.2.2.2.1⟩
def iY:NW Tryz.prog (iV fu):=sgp (fu:=fu) ⟨[],[(327686,⟨[9],[(.n,⟨[(3,.d .b),(4,.q (.w1 (.po (.w1 (.p yQ (.l (.p F zN))))))),(21,.d (.l (.l (.p F zN)))),(22,.d .i),(24,.d .b)],[]⟩)]⟩)],[(4,⟨⟨[(23,.d .i),(9,.own (.l (.p F zN)) 41)],[]⟩,⟨[],[(.x 0,⟨[(9,.own (.l (.p F zN)) 41)],[]⟩),(.p (0,0),⟨[],[]⟩)]⟩⟩)],[(7,[38]),(8,[52])],[],[],[]⟩ func66 (D (KK fu)<|D (Ks fu)<|cN) (pC (ZN fu)<|pC (wv fu)<|pN) mS λx=>by kernel_rfl
def R6:yv ⟨25,[.d (.po (.w1 (.p yQ (.l (.p F zN))))),.d (.l (.l (.p F zN))),.d (.l (.l (.p F zN)))],[.own (.l (.p F zN)) 41,.d .i],λx=>YJ fu x.1 x.2.1 x.2.2.1,0⟩:=sgr (fu:=fu) wx gI func25 (cN) (pC (iY fu)<|pN) mS λx=>by kernel_rfl
def Gk:yv ⟨26,[.d (.po (.w1 (.p yQ (.l (.p F zN))))),.d (.l (.l (.p F zN)))],[.d (.l (.l (.p F zN))),.d .i],λx=>jl fu x.1 x.2.1,0⟩:=sgr (fu:=fu) ⟨[],[(327686,⟨[4,5,6,13],[(.n,⟨[(0,.d (.po (.w1 (.p yQ (.l (.p F zN)))))),(14,.d .i),(16,.d .b)],[]⟩)]⟩)],[(4,⟨⟨[(4,.own (.l (.p F zN)) 41),(15,.d .i),(5,.var .i 29),(6,.var (.w1 (.po (.w1 (.p yQ (.l (.p F zN)))))) 81),(13,.own (.l (.p F zN)) 41)],[]⟩,⟨[],[(.x 0,⟨[(4,.own (.l (.p F zN)) 41),(5,.var .i 29),(6,.var (.w1 (.po (.w1 (.p yQ (.l (.p F zN)))))) 81)],[]⟩),(.p (0,0),⟨[(4,.own (.l (.p F zN)) 41),(5,.var .i 29)],[]⟩)]⟩⟩)],[],[],[],[]⟩ gI func26 (D (gk fu)<|D (Xb fu)<|cN) (pC (ZN fu)<|pC (wv fu)<|pN) mS λx=>by kernel_rfl
def R3:yv ⟨21,[.d (.po (.w1 (.p yQ (.l (.p F zN))))),.d (.l (.l (.p F zN))),.d (.l (.l (.p F zN)))],[.own (.l (.p F zN)) 41,.d .i],λx=>wZ fu x.1 x.2.1 x.2.2.1,0⟩:=sgr (fu:=fu) wx gI func21 (cN) (pC (Ve fu)<|pN) mS λx=>by kernel_rfl
def Lf:yv ⟨22,[.d (.po (.w1 (.p yQ (.l (.p F zN))))),.d (.l (.l (.p F zN)))],[.own (.l (.p F zN)) 41,.d .i],λx=>Xa fu x.1 x.2.1,0⟩:=sgr (fu:=fu) wx gI func22 (cN) (pC (wv fu)<|pN) mS λx=>by kernel_rfl
def oH:yv ⟨6,[.d yQ,.d (.l (.l (.p F zN))),.d (.l (.l (.p F zN))),.d (.l (.l (.p F zN)))],[.d .b],λx=>uQ fu x.1 x.2.1 x.2.2.1 x.2.2.2.1,0⟩:=sq fu wx func6<|D (Fi fu)<|D (L8 fu)<|D (Ot fu)<|D (oZ fu)<|D (R3 fu)<|D (Lf fu)<|D (R6 fu)<|D (Gk fu)<|cN
end
end
section
variable{r a b l:xS wr}{k:wr}
def nv:N K->K
 |[]=>0
 |x::r=>x+18446744073709551616*nv r
def vu:K->K->N K
 |0,_=>[]
 |k+1,n=>n%18446744073709551616::vu k (n/18446744073709551616)
def sy:K->K->N K
 |0,_=>[]
 |f+1,n=>if n=0 then[]else n%18446744073709551616::sy f (n/18446744073709551616)
def yH(n:K):N K:=sy n n
def H9:N K->N K
 |[]=>[]
 |x::r=>match H9 r with
  |[]=>if x=0 then[]else[x]
  |y::s=>x::y::s
def zm.nil:zm []:=λx c=>wS c H1
def zm.cons{x:K}(h:x<18446744073709551616)(c:zm r):zm (x::r):=λy hy=>by
 obtain rfl|hy:=xah.1 hy
 exact h;exact c y hy
def zm.head{x:K}(h:zm (x::r)):x<18446744073709551616:=h x<|IR
def zm.tail{x:K}(h:zm (x::r)):zm r:=λy c=>h y<|FS _ c
def zm.append(c:zm a)(d:zm b):zm (a++b):=λx e=>by
 obtain h|h:=xaa.1 e
 exact c x h;exact d x h
theorem zm.take{a:N K}(h:zm a)(k:K):zm (a.take k):=λx c=>h x<|xes c
theorem zm.drop{a:N K}(h:zm a)(k:K):zm (a.drop k):=λx c=>h x<|xfN c
theorem zm.getD{a:N K}(h:zm a)(k:K):a.getD k 0<18446744073709551616:=by rw[UV];by_cases c:k<X a;rw[xab c];exact h _<|xbG c;simp_all
def zm.replicate(k:K):zm (Nm k 0):=λx c=>by rw[List.eq_of_mem_replicate c];exact Nat.zero_lt_succ _
def DN:nv []=0:=O
def kX(x:K)(r:N K):nv (x::r)=x+18446744073709551616*nv r:=O
theorem ux:∀(a b:N K),nv (a++b)=nv a+18446744073709551616^X a*nv b
 |[],b=>by simp[nv]
 |x::a,b=>by
  rw[xbL,kX,ux a b,kX];grind
def QN:∀k,nv (Nm k 0)=0
 |0=>rfl
 |k+1=>by rw[xdU,kX,QN k]
theorem vn:∀{l:N K},zm l->nv l<18446744073709551616^X l
 |[],_=>by simp[nv]
 |x::r,h=>by
  have h1:=h.head;have c:=vn h.tail;rw[kX,xaw];lia
theorem sa(l:N K)(x:K):nv (l++[x])=nv l+18446744073709551616^X l*x:=by rw[ux,kX,DN];simp
def zZ:∀k n,X (vu k n)=k
 |0,_=>rfl
 |k+1,n=>by rw[vu,xaw,zZ]
def wq:∀k n,zm (vu k n)
 |0,_=>zm.nil
 |k+1,n=>zm.cons (xaN _ mD)<|wq k _
def kV:∀k n,nv (vu k n)=n%18446744073709551616^k
 |0,n=>by simp[vu,nv,Nat.mod_one]
 |k+1,n=>by rw[vu,kX,kV k,xbw,xaS<|18446744073709551616^k,Nat.mod_mul]
def gZ:∀{l:N K},zm l->vu (X l) (nv l)=l
 |[],_=>rfl
 |x::r,h=>by
  have h1:=h.head;rw[xaw,vu,kX,xcn,xao h1,xcz _ _ mD,xbh h1,xaJ,gZ h.tail]
def tJ(c:zm a)(d:zm b)(hl:X a=X b)(h:nv a=nv b):a=b:=by rw[<-gZ c,<-gZ d,hl,h]
def H0:∀k,vu k 0=Nm k 0
 |0=>rfl
 |k+1=>by rw[vu,H0 k,xdU]
def aa:∀k n,vu (k+1) n=vu k n++[n/18446744073709551616^k%18446744073709551616]
 |0,n=>by simp[vu]
 |k+1,n=>by rw[vu,aa k,vu,xbL,xaD,<-xdQ]
def EC:∀f n,zm (sy f n)
 |0,_=>zm.nil
 |f+1,n=>by
  rw[sy];split;exact zm.nil;exact zm.cons (xaN _ mD)<|EC f _
theorem zt(n:K):zm (yH n):=EC n n
def zbo:∀f n,n<=f->nv (sy f n)=n
 |0,n,h=>by rw[sy,DN];lia
 |f+1,n,h=>by
  rw[sy];split;rename_i h0;rw[DN,h0];rename_i h0;have c:n/18446744073709551616<=f:=W
  rw[kX,zbo f _ c,xev]
theorem zV(n:K):nv (yH n)=n:=zbo n n<|So _
def zb1:∀f f' n,n<=f->n<=f'->sy f n=sy f' n
 |0,f',n,h,c=>by
  have:n=0:=W
  subst this;cases f'<;>simp[sy]
 |f+1,0,n,h,c=>by
  have:n=0:=W
  subst this;rfl
 |f+1,f'+1,n,h,c=>by
  rw[sy,sy];split;rfl;rename_i h0;rw[zb1 f f' _ W W]
theorem gn:yH 0=[]:=O
theorem om{n:K}(h:0<n):yH n=n%18446744073709551616::yH (n/18446744073709551616):=by
 have e:yH n=sy ((n-1)+1) n:=by unfold yH;congr 1;lia
 rw[e,sy,zD];congr 1;exact zb1 _ _ _ W W
theorem GP{n:K}(h0:0<n)(h:n<18446744073709551616):yH n=[n]:=by grind [om,gn]
theorem LF{n:K}:yH n=[]↔n=0:=by constructor;intro h;rw[<-zV n,h];rfl;rintro rfl;rfl
theorem qg{n:K}(h:0<n):0<X (yH n):=by rw[om h,xaw];lia
def zJ:∀(k n:K),X (yH n)<=k↔n<18446744073709551616^k
 |0,n=>by rw[Nat.le_zero,xbE,LF];simp;
 |k+1,n=>by
  by_cases h:n=0
  subst h;simp[gn];exact xaY mD
  rw[om W,xaw,Nat.add_le_add_iff_right,zJ k,xaX mD,xbw]
def zhC{n:K}(h:0<n):(yH n).getD (X (yH n)-1) 0≠0:=by
 intro h0;have hp:=qg h;have e:=gZ<|zt n;rw[zV]at e;have⟨k,c⟩:∃k,X (yH n)=k+1:=⟨X (yH n)-1,W⟩;have h1:=(zJ k n).2;rw[c,aa]at e;rw[<-e]at h0;simp at h0;have d:=(zJ (k+1) n).1 W;have f:n/18446744073709551616^k<18446744073709551616:=by rw[xaX<|xaY mD];rwa[xbw,xaS]at d
 rw[xao f]at h0;have g:n<18446744073709551616^k:=by
  obtain h|h:=Nat.div_eq_zero_iff.1 h0
  lia;exact h
 lia
def lX:∀(l:N K) (k:K),k+1=X l->l.getD k 0≠0->H9 l=l
 |[],_,h,_=>by simp at h
 |[x],0,_,h=>by simp at h;simp[H9,h]
 |[x],k+1,h,_=>by simp at h
 |x::y::r,0,h,_=>by simp at h
 |x::y::r,k+1,h,h0=>by
  have:=lX (y::r) k (by simpa using h) (by simpa using h0);simp only[H9]at this⊢;rw[this]
theorem P1:∀{l:N K},zm l->H9 l=yH (nv l)
 |[],_=>rfl
 |x::r,h=>by
  have c:=P1 h.tail;have d:=h.head;rw[H9,c,kX];by_cases e:nv r=0
  rw[e,gn];by_cases h0:x=0
  simp[h0,gn];simp only[h0,uP,xdo,xbM];rw[GP W d];have e1:=om (n:=nv r) W;have f:=om (n:=x+18446744073709551616*nv r) W;grind
theorem P5(hl:zm l)(h:l=[]\/l.getD (X l-1) 0≠0):yH (nv l)=l:=by
 rw[<-P1 hl];obtain rfl|h:=h
 rfl
 cases hn:X l with
 |zero=>rw[xbp hn];rfl
 |succ k=>exact lX l k hn.symm<|by rw[hn]at h;exact h
def B2(hl:zm l)(k:K):nv (l.take k)=nv l%18446744073709551616^k:=by by_cases c:k<=X l;have e:=ux (l.take k)<|l.drop k;rw[xby,xar,xck c]at e;have:=vn<|hl.take k;rw[xar,xck c]at this;rw[e,xcn,xao this];rw[xaW W,xao];exact xag (vn hl)<|xam mD W
def NS(hl:zm l)(k:K):nv (l.drop k)=nv l/18446744073709551616^k:=by by_cases c:k<=X l;have e:=ux (l.take k)<|l.drop k;rw[xby,xar,xck c]at e;have:=vn<|hl.take k;rw[xar,xck c]at this;rw[e,xcz _ _ (xaY mD),xbh this,xaJ];rw[xbR W,DN,xbh];exact xag (vn hl)<|xam mD W
def KZ:∀{l:N K},zm l->∀k,l.getD k 0=nv l/18446744073709551616^k%18446744073709551616
 |[],_,k=>by simp[nv]
 |x::r,h,0=>by rw[List.getD_cons_zero,kX,xer,xcn,xao h.head]
 |x::r,h,k+1=>by rw[xdt,KZ h.tail k,kX,xdQ,<-xaD,xcz _ _ mD,xbh h.head,xaJ]
theorem Ln{α:Type}{l:N α}{n:K}{z x:α}(hl:X l=k)(c:k<n):(l++Nm (n-k) z).set k x=(l++[x])++Nm (n-(k+1)) z:=by have⟨m,d⟩:∃m,n-k=m+1:=⟨n-k-1,W⟩;rw[xfD _ _ W,hl];grind
def vH(step:K->K->K×K):K->N K×K
 |0=>([],0)
 |k+1=>((vH step k).1++[(step k (vH step k).2).1],(step k (vH step k).2).2)
theorem wz(step:K->K->K×K):∀k,(vH step k).1.length=k
 |0=>rfl
 |k+1=>by rw[vH,xat,wz step k];rfl
def AR(a b:N K)(k c:K):K×K:=((a.getD k 0+b.getD k 0+c)%18446744073709551616,(a.getD k 0+b.getD k 0+c)/18446744073709551616)
theorem zaf{c:K}(d:zm a)(e:zm b)(hc:c<=1):(AR a b k c).2<=1:=by grind [AR,zm.getD]
theorem ja(l:N K):∀k,nv (l.take<|k+1)=nv (l.take k)+18446744073709551616^k*l.getD k 0:=by
 induction l with
 |nil=>intro k;simp[nv]
 |cons x r c=>
  intro k
  cases k with
  |zero=>simp[nv]
  |succ k=>
   rw[xeF,kX,c k,xeF,kX,xdt,xbw,xco];rw[xaS (18446744073709551616^k) 18446744073709551616,xbl,xcK]
theorem Ef(a b:N K):∀k,nv (vH (AR a b) k).1+18446744073709551616^k*(vH (AR a b) k).2=nv (a.take k)+nv (b.take k)/\zm (vH (AR a b) k).1
 |0=>⟨by simp[vH,nv],zm.nil⟩
 |k+1=>by
  have⟨f,d⟩:=Ef a b k;rw[vH,ja,ja,sa,wz];refine⟨?_,d.append<|zm.cons (xaN _ mD) zm.nil⟩;generalize hc:(vH (AR a b) k).2=c at*
  simp only[AR];have e:=xev (a.getD k 0+b.getD k 0+c) 18446744073709551616;grind
theorem zgg{n:K}(c:X a<=n)(d:X b<=n):nv ((vH (AR a b) n).1++[(vH (AR a b) n).2])=nv a+nv b:=by grind [sa,wz,Ef,xaW]
end
section
variable{y k m j i:wr}{l a b o o0 r:xS wr}
def DC{x:K}(h:X (yH x)<X (yH y)):x<y:=by
 have h1:=(zJ (X (yH x)) x).1<|So _;have d:¬y<18446744073709551616^X (yH x):=λc=>by have:=(zJ _ y).2 c;lia
 lia
theorem Kd(x B k:K)(c:0<B):x/B^k=B*(x/B^(k+1))+x/B^k%B:=by grind [xbs,xaD]
def zeq{x:K}(h:x/18446744073709551616^(k+1)=y/18446744073709551616^(k+1))(hd:x/18446744073709551616^k%18446744073709551616<y/18446744073709551616^k%18446744073709551616):x<y:=by have h1:=Kd x 18446744073709551616 k mD;have e:=Kd y 18446744073709551616 k mD;refine xdp λd=> ?_;have f:=Nat.div_le_div_right (c:=18446744073709551616^k) d;lia
theorem znV{x:K}(h:x/18446744073709551616^(k+1)=y/18446744073709551616^(k+1))(hd:x/18446744073709551616^k%18446744073709551616=y/18446744073709551616^k%18446744073709551616):
 x/18446744073709551616^k=y/18446744073709551616^k:=by grind [Kd]
theorem VQ(n k:K):(yH n).getD k 0=n/18446744073709551616^k%18446744073709551616:=by rw[KZ<|zt n,zV]
def ziz{x:K}(h:X (yH x)=X (yH y)):x/18446744073709551616^X (yH x)=y/18446744073709551616^X (yH x):=by rw[xbh<|(zJ _ x).1<|So _,xbh<|(zJ _ y).1 W]
theorem xd(h:zm l):X (yH<|nv l)<=X l:=(zJ _ _).2<|vn h
theorem zgL{x:K}(c:0<m)(h:x/18446744073709551616^m=y/18446744073709551616^m)(hd:(yH x).getD (m-1) 0=(yH y).getD (m-1) 0):x/18446744073709551616^(m-1)=y/18446744073709551616^(m-1):=by grind [znV,VQ]
def zkM{x:K}(h:X (yH x)≠X (yH y)):kh (X (yH x):K) (X (yH y):K)=kh x y:=by
 obtain h|h:=Nat.lt_or_gt_of_ne h
 have:=DC h;rw[qI W,qI W];have:=DC h;rw[vJ W,vJ W]
def zc1{x:K}(d:0<m)(h:x/18446744073709551616^m=y/18446744073709551616^m)(hd:(yH x).getD (m-1) 0≠(yH y).getD (m-1) 0):
 kh ((yH x).getD (m-1) 0:K) ((yH y).getD (m-1) 0:K)=kh x y:=by
 rw[(W:m=m-1+1)]at h;obtain hd|hd:=Nat.lt_or_gt_of_ne hd
 have c:=hd;rw[VQ,VQ]at c;have:=zeq h c;rw[qI W,qI W];have c:=hd;rw[VQ,VQ]at c;have:=zeq h.symm c;rw[vJ W,vJ W]
def cQ(a b:N K)(k c:K):K×K:=((a.getD k 0+18446744073709551616-b.getD k 0-c)%18446744073709551616,if a.getD k 0<b.getD k 0+c then 1 else 0)
def Er(a b:N K)(k c:K):(cQ a b k c).2<=1:=by simp only[cQ];split<;>lia
theorem Ov{a b:N K}(d:zm a)(f:zm b):∀k,nv (vH (cQ a b) k).1+nv (b.take k)=nv (a.take k)+18446744073709551616^k*(vH (cQ a b) k).2/\zm (vH (cQ a b) k).1/\(vH (cQ a b) k).2<=1
 |0=>⟨by simp[vH,nv],zm.nil,xae _⟩
 |k+1=>by
  have⟨h,g,n⟩:=Ov d f k;rw[vH,ja,ja,sa,wz];refine⟨?_,g.append<|zm.cons (xaN _ mD) zm.nil,Er a b k _⟩;generalize hc:(vH (cQ a b) k).2=c at*
  simp only[cQ];have h1:=d.getD k;have p:=f.getD k;generalize a.getD k 0=x at*
  generalize b.getD k 0=y at*
  have e:(x+18446744073709551616-y-c)%18446744073709551616+y+c=x+18446744073709551616*(if x<y+c then 1 else 0):=by grind
  grind
def Cv{n:K}(c:zm a)(d:zm b)(hc:X a<=n)(hd:X b<=n):
 nv (vH (cQ a b) n).1+nv b=nv a+18446744073709551616^n*(vH (cQ a b) n).2/\zm (vH (cQ a b) n).1/\(vH (cQ a b) n).2<=1:=by
 have:=Ov c d n;rwa[xaW hc,xaW hd]at this
theorem Hp{n:K}(c:zm a)(d:zm b)(hc:X a<=n)(hd:X b<=n):0<(vH (cQ a b) n).2↔nv a<nv b:=by have⟨h1,e,g⟩:=Cv c d hc hd;have f:=vn e;rw[wz]at f;constructor;grind;grind
theorem zc7{n:K}(c:zm a)(d:zm b)(hc:X a<=n)(hd:X b<=n)(h:¬nv a<nv b):nv (vH (cQ a b) n).1=nv a-nv b:=by have⟨h1,e,f⟩:=Cv c d hc hd;have:¬0<(vH (cQ a b) n).2:=λhp=>h<|(Hp c d hc hd).1 hp;grind
def dU(a:N K)(x:K)(k c:K):K×K:=((a.getD k 0*x+c)%18446744073709551616,(a.getD k 0*x+c)/18446744073709551616)
def rq{a x c:K}(d:a<18446744073709551616)(e:x<18446744073709551616)(hc:c<18446744073709551616):(a*x+c)/18446744073709551616<18446744073709551616:=by have:a*x<=18446744073709551615*18446744073709551615:=xcf W W;lia
def zaD{x c:K}(d:zm a)(e:x<18446744073709551616)(hc:c<18446744073709551616):(dU a x k c).2<18446744073709551616:=rq (d.getD k) e hc
theorem OA(a:N K)(x:K):∀k,nv (vH (dU a x) k).1+18446744073709551616^k*(vH (dU a x) k).2=nv (a.take k)*x/\zm (vH (dU a x) k).1
 |0=>⟨by simp[vH,nv],zm.nil⟩
 |k+1=>by
  have⟨f,d⟩:=OA a x k;rw[vH,ja,sa,wz];refine⟨?_,d.append<|zm.cons (xaN _ mD) zm.nil⟩;generalize hc:(vH (dU a x) k).2=c at*
  simp only[dU];have e:=xev (a.getD k 0*x+c) 18446744073709551616;grind
def R4{x:K}(hc:(vH (dU a x) (X a)).2<18446744073709551616):(vH (dU a x) (X a)).1++[(vH (dU a x) (X a)).2]=vu (X a+1) (nv a*x):=by
 have⟨h1,c⟩:=OA a x (X a);have hl:=c.append<|zm.cons hc zm.nil;have hn:nv ((vH (dU a x) (X a)).1++[(vH (dU a x) (X a)).2])=nv a*x:=by rw[sa,wz,h1,xaW<|So _]
 have:=gZ hl;rw[xat,wz]at this;simp_all
def Eb{x:K}(c:zm a)(d:x<18446744073709551616):nv a*x<18446744073709551616^(X a+1):=by
 have:=vn c
 calc nv a*x<=nv a*18446744073709551616:=xaE _ W
  _<_:=xbO this mD
theorem zgG:∀(o:N K) (j v:K),j<X o->nv (o.set j v)+18446744073709551616^j*o.getD j 0=nv o+18446744073709551616^j*v
 |[],j,v,h=>by simp at h
 |x::r,0,v,h=>by simp[nv];lia
 |x::r,j+1,v,h=>by
  have c:=zgG r j v (by simpa using h);rw[xfj,kX,kX,xdt,xbw,xaS<|18446744073709551616^j,xbl,xbl];lia
def zm.set{o:N K}(h:zm o)(j:K){v:K}(hv:v<18446744073709551616):zm (o.set j v):=λx c=>by
 obtain h1|h1:=xdz c
 exact h x h1;lia
theorem zfZ{c:K}(d:j+i<X o)(h:nv o+18446744073709551616^(j+i)*c=nv o0+18446744073709551616^j*nv (r.take i)):
 nv (o.set (j+i)<|(o.getD (j+i) 0+r.getD i 0+c)%18446744073709551616)+18446744073709551616^(j+(i+1))*((o.getD (j+i) 0+r.getD i 0+c)/18446744073709551616)=nv o0+18446744073709551616^j*nv (r.take<|i+1):=by grind [zgG,ja,xco,xbl,xbj,xev]
def Q8(c:zm a)(d:zm b):nv a*nv (b.take k)<18446744073709551616^(X a+k):=by have h1:=vn c;have e:=vn<|d.take k;have f:18446744073709551616^X (b.take k)<=18446744073709551616^k:=xam mD (by rw[xar];lia);rw[xbj];exact xci h1 W
def zky{c:K}(h:nv o+18446744073709551616^(j+X r)*c=nv o0+18446744073709551616^j*nv r)(hn:nv o0+18446744073709551616^j*nv r<18446744073709551616^(j+X r)):
 c=0/\nv o=nv o0+18446744073709551616^j*nv r:=by
 have hc:c=0:=by refine xfs λhp=> ?_;have:18446744073709551616^(j+X r)*1<=18446744073709551616^(j+X r)*c:=xaE _ hp;lia
 simp_all
def SB{p:N K}{c:K}(d:zm a)(f:zm b)(hi:¬i<X a+1)(hd:i<=X a+1)(g:nv o=nv a*nv (b.take k))(hp:nv p+18446744073709551616^(k+i)*c=nv o+18446744073709551616^k*nv ((vu (X a+1)<|nv a*b.getD k 0).take i)):nv p=nv a*nv (b.take<|k+1):=by
 obtain rfl:i=X a+1:=W
 have hl:=zZ (X a+1)<|nv a*b.getD k 0;rw[xaW W]at hp;have h:nv (vu (X a+1)<|nv a*b.getD k 0)=nv a*b.getD k 0:=by rw[kV,xao<|Eb d<|f.getD k]
 have e:nv o+18446744073709551616^k*nv (vu (X a+1)<|nv a*b.getD k 0)=nv a*nv (b.take<|k+1):=by rw[h,g,ja,xco,xfw]
 have hc:nv o+18446744073709551616^k*nv (vu (X a+1)<|nv a*b.getD k 0)<18446744073709551616^(k+X (vu (X a+1)<|nv a*b.getD k 0)):=by rw[e,hl,(W:k+(X a+1)=X a+(k+1))];exact Q8 d f
 generalize vu (X a+1) (nv a*b.getD k 0)=r at*
 rw[<-hl]at hp;rw[(zky hp hc).2,e]
def m32{a b:K}(c:a<4294967296)(d:b<4294967296):a*b<=18446744065119617025:=xcf (W:a<=4294967295) (W:b<=4294967295)
def zkS{x:K}(c:x<18446744073709551616)(d:y<18446744073709551616):(x%4294967296)*(y%4294967296)<=18446744065119617025/\(x/2^32)*(y%4294967296)<=18446744065119617025/\
 (x%4294967296)*(y/2^32)<=18446744065119617025/\(x/2^32)*(y/2^32)<=18446744065119617025:=
 ⟨m32 W W,m32 W W,m32 W W,m32 W W⟩
theorem zfh(x y:K):x*y=18446744073709551616*((x/2^32)*(y/2^32))+4294967296*((x/2^32)*(y%4294967296))+4294967296*((x%4294967296)*(y/2^32))+(x%4294967296)*(y%4294967296):=by
 have h1:x=4294967296*(x/2^32)+x%4294967296:=W
 have c:y=4294967296*(y/2^32)+y%4294967296:=W
 grind
def uX{x:K}(c:X (yH x)<=k)(d:X (yH y)<=k):X (yH<|x+y)<=k+1:=by
 rw[zJ]at*
 lia
theorem zr7{x0 c d f P:K}:x0*d+P*((x0+c)*(d+f)-x0*d-c*f)+P*P*(c*f)=(x0+P*c)*(d+P*f):=by
 have e:(x0+c)*(d+f)-x0*d-c*f=x0*f+c*d:=by grind
 grind
theorem zjb(x0 d c e:K):x0*c<=(x0+d)*(c+e)/\d*e<=(x0+d)*(c+e)-x0*c:=by grind
theorem Sd(h:K):l.take (min h (X l))=l.take h:=by rw[Nat.min_def];split;rfl;grind
def N3(h:K):l.drop (min h (X l))=l.drop h:=by rw[Nat.min_def];split;rfl;rw[xbR<|So _,xbR W]
def CN(n:K)(l:N K):nv (Nm n 0++l)=18446744073709551616^n*nv l:=by simp_all [ux,QN]
def HP(h:K):nv (l.take h)+18446744073709551616^h*nv (l.drop h)=nv l:=by by_cases c:h<=X l;have e:=ux (l.take h)<|l.drop h;simp_all;rw[xbR W,xaW W,DN,xdo,xbM]
theorem zkP{A B:N K}(h:K):nv (A.take h)*nv (B.take h)+18446744073709551616^h*((nv (A.take h)+nv (A.drop h))*(nv (B.take h)+nv (B.drop h))-nv (A.take h)*nv (B.take h)-nv (A.drop h)*nv (B.drop h))+
 18446744073709551616^(2*h)*(nv (A.drop h)*nv (B.drop h))=nv A*nv B:=by
 have:= @zr7 (nv<|A.take h) (nv<|A.drop h) (nv<|B.take h) (nv<|B.drop h)<|18446744073709551616^h;rw[HP,HP]at this;rw[Nat.two_mul,xbj];exact this
def YQ{x:K}(c:X (yH x)<=j)(d:X (yH y)<=k):X (yH<|x*y)<=j+k:=by
 rw[zJ]at*
 rw[xbj];exact xci c d
def Sv(q:K){x:K}(c:X (yH x)<=k):X (yH<|18446744073709551616^q*x)<=q+k:=by
 rw[zJ]at*
 rw[xbj];exact Nat.mul_lt_mul_of_pos_left c<|xaY mD
def J5{x:K}(h:x<=y):X (yH x)<=X (yH y):=by have:=(zJ (X (yH y)) y).1<|So _;exact(zJ _ x).2 W
theorem zfD(a b h:K){x0 c d e:K}(f:x0=nv ((yH a).take h))(hc:c=nv ((yH a).drop h))(hd:d=nv ((yH b).take h))(g:e=nv ((yH b).drop h)):
 x0*d+18446744073709551616^h*((x0+c)*(d+e)-x0*d-c*e)+18446744073709551616^(2*h)*(c*e)=a*b:=by grind [zkP,zV]
end
section
variable{a b:xS wr}{k fu:wr}
def zA{α β:Type}{f:(β->V α)->β->V α}(i:β->Prop)(m:β->K)(r:α)
 (step:∀s L,i s->(∀c,i c->m c<m s->L c=Z r)->f L s=Z r):∀(n:K) (s:β),i s->m s<n->zg f n s=Z r
 |0,s,_,h=>wS h<|xbc _
 |n+1,s,d,h=>step s _ d λc e g=>zA i m r step n c e lW
def zf8(h:zm a):a.take (X (yH<|nv a))=yH (nv a):=by refine tJ (h.take _) (zt _) (by rw[xar];have:=xd h;omega) ?_;rw[B2 h,zV];exact xao<|(zJ _ _).1<|So _
def n5(c:k+1<=X a)(h0:a.getD k 0=0):nv (a.take k)=nv (a.take<|k+1):=by rw[ja,h0];simp
theorem sj(h:zm a)(c:k+1<=X a)(h0:a.getD k 0≠0):yH (nv<|a.take<|k+1)=a.take (k+1):=by grind [P5,zm.take]
theorem xm(h:zm a)(hl:X a<=17592186044416)(d:X a<fu):xw fu a=Z (yH<|nv a):=by
 unfold xw;rw[U (v:=yH<|nv a)];refine zA (λl=>zm l/\nv l=nv a/\X l<=17592186044416) (λl=>X l) _ ?_ _ _ ⟨h,O,hl⟩ d;rintro l L ⟨c,hn,g⟩ e;unfold KG;by_cases h0:0<(X l:J);have⟨k,f⟩:∃k,X l=k+1:=⟨X l-1,lW⟩;have e1:(X l:J)-1=(k:J):=lW
 rw[S h0,e1,zb,yo,A];by_cases h1:l.getD k 0=0
 rw[S (by rw[h1]),zb,yI,y8,A];refine e _ ⟨c.take _,?_,by rw[xar];omega⟩ (by rw[xar];omega);rw[n5 lW h1,<-f,xca,hn];rw[zD,<-hn];have:=sj c (k:=k) lW h1;grind;rw[ir h0,<-hn];have:l=[]:=xbE.1 lW;rw[this];rfl
theorem xZ(h:zm a)(hl:X a<=17592186044416)(c:X a<fu):wX fu a=Z (yH<|nv a):=by have:=xm h hl c;assumption
theorem Vb(h:zm a)(hl:X a<=17592186044416:=by omega)(c:X a<fu:=by omega):YE fu a=Z (yH<|nv a):=by grind [YE,wj,U,xZ,wM,xd]
theorem b8(h:zm a)(hl:X a<=17592186044416)(g:X a<fu):Xl fu a=Z (yH<|nv a):=by
 unfold Xl;have e:=xd h;rw[U (v:=(X (yH<|nv a):J)),yI,wM e,A,zf8 h,wM (by simp;omega),A];rfl;refine zA (λi:J=>0<=i/\i<=X a/\nv (a.take i.toNat)=nv a) (λi=>i.toNat) _ ?_ _ _ ⟨lW,lW,mK⟩ lW;rintro i L ⟨h0,h1,hn⟩ f;obtain⟨k,rfl⟩:=xaC h0;unfold eT;simp only[xaZ]at*
 by_cases d:0<(k:J);obtain⟨j,rfl⟩:∃j,k=j+1:=⟨k-1,lW⟩;have e1:((j+1:K):J)-1=(j:J):=lW
 rw[S d,e1,zb,yo,A];by_cases c:a.getD j 0=0
 rw[S (by rw[c]),zb];refine f _ ⟨lW,lW,?_⟩ lW;rw[xaZ,n5 lW c,hn];rw[zD,<-hn,sj h lW c,xar];grind;rw[ir d,<-hn];have:k=0:=lW
 subst this;rfl
def C6(x:K):x &&& 4294967295=x%4294967296:=Nat.and_two_pow_sub_one_eq_mod x 32
def DA:min (((32:K):J)).toNat 64=32:=mD
def Vh{x y:K}(c:x<18446744073709551616)(d:y<18446744073709551616):qX fu x y=Z (x*y/18446744073709551616,x*y%18446744073709551616):=by
 unfold qX;simp only[nm,C6,DA];have⟨b1,b2,b3,f⟩:=zkS c d;have e:=zfh x y;generalize g:(x%4294967296)*(y%4294967296)=A at*
 generalize h:(x/2^32)*(y%4294967296)=B at*
 generalize i:(x%4294967296)*(y/2^32)=C at*
 generalize j:(x/2^32)*(y/2^32)=D at*
 have l:x*y<18446744073709551616*18446744073709551616:=xci c d;generalize x*y=z at*
 congr 2;omega
def jU{n:K}{f:J->K->V (K×K)}{step:K->K->K×K}(hn:n<=17179869184)(c:n<fu)(h:∀k,k<n->f (k:J) (vH step k).2=Z (step k (vH step k).2)):qb fu n f=Z (vH step n):=by
 unfold qb;rw[yI,y8,A,U (v:=((vH step n).2,(vH step n).1))];refine zA (λs:K×J×N K=>∃k:K,k<=n/\s=((vH step k).2,(k:J),(vH step k).1++Nm (n-k) 0)) (λs=>n-s.2.1.toNat) _ ?_ _ _ ⟨0,lW,O⟩ (by simpa using c);rintro s L ⟨k,e,rfl⟩ d;unfold cK;simp only[xaM];by_cases h1:(k:J)<(n:J);have hl:(vH step k).1.length=k:=wz step k;rw[S h1,U (h k lW),zn (by simp[hl];omega),A,zb];refine d _ ⟨k+1,lW,?_⟩ (by show n-((k:J)+1).toNat<n-((k:J)).toNat;omega);rw[Ln hl lW];rfl;rw[ir h1];obtain rfl:k=n:=lW
 simp
theorem Vj(a:N K)(hl:X a<=9223372036854775807):Vf fu a (k:J)=Z (a.getD k 0):=by grind [Vf,zn,A]
def ZG(c:zm a)(d:zm b)(hd:X a<=8589934592:=by omega)(g:X b<=8589934592:=by omega)(h:max (X a) (X b)+1<fu:=by omega):
 Zw fu a b=Z (yH<|nv a+nv b):=by
 unfold Zw;have e:max (X a:J) (X b)=((max (X a) (X b):K):J):=lW
 have hc:∀k,(vH (AR a b) k).2<=1:=by
  intro k
  induction k with
  |zero=>exact xae _
  |succ k f=>exact zaf c d f
 rw[A,e,U<|jU (step:=AR a b) lW lW ?_];have hl:=wz (AR a b)<|max (X a) (X b);show ck _ _=_;rw[wM (by simp;omega),A,U (xm ?_ (by simp;omega)<|by simp;omega),zgg lW lW];exact(Ef a b _).2.append<|zm.cons (by have:=hc<|max (X a) (X b);omega) zm.nil;intro k i;unfold ek;rw[U (Vj a lW),U (Vj b lW),wM<|hc k];rfl
theorem Q4(c:zm a)(d:zm b)(hd:X a<=8589934592)(g:X b<=8589934592)(i:max (X a) (X b)+1<fu):
 Jt fu a b=Z (if nv a<nv b then([],1)else(yH<|nv a-nv b,0)):=by
 unfold Jt;have e:max (X a:J) (X b)=((max (X a) (X b):K):J):=lW
 have hc:∀k,(vH (cQ a b) k).2<=1:=by
  intro k
  cases k with
  |zero=>exact xae _
  |succ k=>exact Er a b k _
 rw[A,e,U<|jU (step:=cQ a b) lW lW ?_];have hl:=wz (cQ a b)<|max (X a) (X b);have f:=Hp c d (xew (X a) (X b))<|xec (X a) (X b);simp only;by_cases h:nv a<nv b;simp_all;rw[ir (by intro h1;exact h<|f.1 lW),ir h,U (xm (Cv c d (xew (X a) (X b))<|xec (X a) (X b)).2.1 lW lW),zc7 c d (xew _ _) (xec _ _) h];intro k j;unfold eE;rw[U (Vj a lW),U (Vj b lW),wM<|hc k];rfl
theorem Ua(c:zm a)(d:zm b)(hc:X a<=8589934592)(hd:X b<=8589934592)(e:max (X a) (X b)+1<fu)(h:nv b<=nv a):
 X3 fu a b=Z (yH<|nv a-nv b):=by grind [X3,U,Q4]
def Ti{a:N K}{x:K}(c:zm a)(d:x<18446744073709551616):∀k,(vH (dU a x) k).2<18446744073709551616
 |0=>Nat.zero_lt_succ _
 |k+1=>zaD c d<|Ti c d k
theorem zcJ{a x c:K}(d:a<18446744073709551616)(e:x<18446744073709551616)(hc:c<18446744073709551616):
 ((a*x%18446744073709551616+c)%18446744073709551616,(a*x/18446744073709551616+(a*x%18446744073709551616+c)/18446744073709551616)%18446744073709551616)=((a*x+c)%18446744073709551616,(a*x+c)/18446744073709551616):=by
 have:=rq d e hc;grind
def aV{x:K}(c:zm a)(d:x<18446744073709551616)(hc:X a<=8589934592:=by omega)(e:X a<fu:=by omega):Jr fu a x=Z (vu (X a+1)<|nv a*x):=by unfold Jr;rw[U<|jU (step:=dU a x) lW e ?_];have hl:=wz (dU a x) (X a);simp only;rw[wM (by simp;omega),A,R4<|Ti c d _];intro k f;unfold ga;rw[zn f,A,U<|Vh (c.getD k) d];exact uL Z<|zcJ (c.getD k) d<|Ti c d k
theorem JT{n:K}(hn:n<=1099511627776:=by omega)(hl:X a<=1099511627776:=by omega):YT fu a (n:J)=Z (Nm n 0++a):=by grind [YT,yI,wM,A]
def Mg{n:K}{t3 t4 t6:N K}{i2:J}(d:zm a)(f:zm b)(v:k<X b)(hn:n=X a+X b+1)(w:n<=17179869184)(g:t6=vu (X a+1) (nv a*b.getD k 0))(m:X a+1<fu):
 zg (JM fu (k:J) t3 t4 i2 t6) fu (0,0,vu n<|nv a*nv (b.take k),t6)=Z (vu n<|nv a*nv (b.take<|k+1)):=by
 have hl:X t6=X a+1:=by rw[g,zZ]
 have q:zm t6:=g▸wq _ _;have t:nv a*nv (b.take k)<18446744073709551616^n:=xag (Q8 d f) (xam mD lW);have h0:nv (vu n<|nv a*nv (b.take k))=nv a*nv (b.take k):=by rw[kV,xao t]
 refine zA (λs:K×J×N K×N K=>∃(c i:K) (o:N K),s=(c,(i:J),o,t6)/\i<=X t6/\c<=1/\zm o/\X o=n/\nv o+18446744073709551616^(k+i)*c=nv a*nv (b.take k)+18446744073709551616^k*nv (t6.take i))
  (λs=>X a+1-s.2.1.toNat) _ ?_ _ _ ⟨0,0,_,O,lW,lW,wq _ _,zZ _ _,by rw[h0];simp[nv]⟩ (by simpa using m)
 rintro s L ⟨c,i,o,rfl,hi,hc,hd,h,l⟩ u;unfold JM;simp only;by_cases h1:i<X t6;rw[yg,U O];simp only[uS];have e:(k:J)+(i:J)=((k+i:K):J):=lW
 rw[zn h1,A,e,zb,zb,yo,A,wM hc,A,A,yo,A,zb];refine u _ ⟨_,i+1,_,O,lW,?_,hd.set _ (xaN _ mD),by rw[xbg,h],?_⟩ (by show X a+1-((i:J)+1).toNat<X a+1-(i:J).toNat;omega);have:=hd.getD<|k+i;have:=q.getD i;omega;have:=zfZ (o:=o) (o0:=vu n<|nv a*nv (b.take k)) (r:=t6) (j:=k) (i:=i) (c:=c) lW (by rw[h0];exact l);rw[h0]at this;exact this;rw[zD,U O];simp only[xai,uP];subst g;refine uL Z<|tJ hd (wq _ _) (by rw[h,zZ]) ?_;rw[SB d f (k:=k) (i:=i) (c:=c) (p:=o) (o:=vu n<|nv a*nv (b.take k)) lW lW h0 (by rw[h0];exact l),kV,xao];exact xag (Q8 d f)<|xam mD lW
theorem BB(c:zm a)(d:zm b)(hc:X a<=4294967296)(hd:X b<=4294967296)(h:X a+X b+1<fu):
 Q3 fu a b=Z (yH<|nv a*nv b):=by
 unfold Q3;have e1:(X a:J)+(X b:J)=((X a+X b:K):J):=lW
 have e:((X a+X b:K):J)+1=((X a+X b+1:K):J):=lW
 have f:nv a*nv b<18446744073709551616^(X a+X b+1):=by have:=Q8 (k:=X b) c d;grind
 rw[e1,zb,e,zb,yI,y8,A,U (v:=vu (X a+X b+1)<|nv a*nv b)];rw[U (xm (wq _ _) (by rw[zZ];omega)<|by rw[zZ];omega),kV,xao f];refine zA (λs:J×N K=>∃k:K,k<=X b/\s=((k:J),vu (X a+X b+1)<|nv a*nv (b.take k))) (λs=>X b-s.1.toNat) _ ?_ _ _ ⟨0,lW,by simp[nv,H0]⟩ (by simp;omega);rintro s L ⟨k,i,rfl⟩ g;unfold eh;simp only;by_cases h1:k<X b;rw[yg,U O];simp only[uS];rw[zn h1,A,U (aV c (d.getD k) lW lW),U (Mg c d h1 O lW O lW),zb];exact g _ ⟨k+1,lW,O⟩ (by show X b-((k:J)+1).toNat<X b-(k:J).toNat;omega);rw[zD,U O];simp only[xai,uP];obtain rfl:k=X b:=lW
 rw[xca]
end
def zaZ(n:K):xdx (n:J) 2=((n/2:K):J):=O
def gF(x h:K):X (yH<|nv<|(yH x).take h)<=h:=by grind [xd,zm.take,zt]
def fF(x h:K):X (yH<|nv<|(yH x).drop h)<=X (yH x)-h:=by grind [xd,zm.drop,zt]
def Xg:∀{fu:wr}{a b:N wr},zm a->zm b->X a<=1073741824->X b<=1073741824->4*(X a+X b)+64<=fu->Zx fu a b=Z (yH<|nv a*nv b)
 |0,a,b,_,_,_,_,T=>by lia
 |fu+1,a,b,D,E,hk,hl,T=>by
  have h1:=xd D;have h2:=xd E;show Y _ _=_;rw[U (xZ D W W),U<|xZ E W W];have eA:nv (yH<|nv a)=nv a:=zV _;have V:nv (yH<|nv b)=nv b:=zV _;generalize hx:nv a=x at*
  generalize hy:nv b=y at*
  generalize hp:X (yH x)=p at*
  generalize s:X (yH y)=q at*
  have e1:min (p:J) (q:J)=((min p q:wr):J):=W
  rw[A,e1];by_cases u:((min p q:wr):J)<8;rw[S u,U (BB (zt x) (zt y) W W W),eA,V];rw[ir u];have F:max (p:J) (q:J)=((max p q:wr):J):=W
  rw[A,F,zaZ,zb];have⟨h,G⟩:∃h,h=max p q/2:=⟨_,O⟩;have H:∀l:wr,min (h:J) (l:J)=((min h l:wr):J):=by intro l;lia
  rw[<-G];simp only[B,H,yI];rw[wM mD,y8];have L:(yH x).take (min h p)=(yH x).take h:=by rw[<-hp];exact Sd h
  have M:(yH x).drop (min h p)=(yH x).drop h:=by rw[<-hp];exact N3 h
  have ty:(yH y).take (min h q)=(yH y).take h:=by rw[<-s];exact Sd h
  have dy:(yH y).drop (min h q)=(yH y).drop h:=by rw[<-s];exact N3 h
  rw[L,ty,M,dy];have v:=gF x h;have w:=gF y h;have f:X ((yH x).drop h)=p-h:=by rw[xch,hp]
  have g:X ((yH y).drop h)=q-h:=by rw[xch,s]
  have i:=fF x h;have o:=fF y h;rw[U (xZ ((zt x).take h) (by rw[xar];lia)<|by rw[xar];lia),y8,y8,U (xZ ((zt y).take h) (by rw[xar];lia)<|by rw[xar];lia),y8];have P:=(zt x).drop h;have⟨m,hm⟩:∃m,m=max p q:=⟨_,O⟩;have f1:p<=m:=W
  have f2:q<=m:=W
  have f3:m+8<=p+q:=W
  have f4:2*h<=m:=W
  have f5:m<=2*h+1:=W
  clear G hm u e1 F H L ty M dy;have g1:p-h<=m-h:=W
  have C:q-h<=m-h:=W
  have g3:h<=m-h:=W
  replace i:=xal i<|hp.symm▸g1;replace o:=xal o<|s.symm▸C;have a0:X ((yH x).drop h)<=m-h:=f▸g1;have a1:X ((yH y).drop h)<=m-h:=g▸C;clear f g g1 C;have Q:=(zt y).drop h;generalize he:nv ((yH x).take h)=x0 at*
  generalize hg:nv ((yH y).take h)=c at*
  generalize hi:(yH x).drop h=dX at*
  generalize hj:(yH y).drop h=dY at*
  generalize hc:nv dX=d at*
  generalize hd:nv dY=e at*
  have s1:=uX (x:=x0) (y:=d) (k:=m-h) W W;have s2:=uX (x:=c) (y:=e) (k:=m-h) W W;have r:=zjb x0 d c e;rw[U<|Xg (fu:=fu) (zt x0) (zt c) W W W];rw[U<|Xg (fu:=fu) P Q W W W];rw[U<|ZG (zt x0) P,U<|ZG (zt c) Q];rw[hc,hd,zV,zV];rw[U (Xg (fu:=fu) (zt<|x0+d) (zt<|c+e) W W W),zV,zV];have l3:=YQ s1 s2;have l1:=YQ v w;have l2:=YQ (x:=d) (y:=e) (j:=m-h) (k:=m-h) W W;have l4:=J5<|xfd ((x0+d)*(c+e))<|x0*c;have l5:=J5<|xfd ((x0+d)*(c+e)-x0*c)<|d*e;rw[U (Ua (zt<|(x0+d)*(c+e)) (zt<|x0*c) W W W<|by rw[zV,zV];exact r.1),zV,zV];rw[U (Ua (zt<|(x0+d)*(c+e)-x0*c) (zt<|d*e) W W W<|by rw[zV,zV];exact r.2),zV,zV];have R:∀n z:wr,zm (Nm n 0++yH z):=λn z=>(zm.replicate n).append<|zt z;have ml:∀n z:wr,X (Nm n 0++yH z)=n+X (yH z):=λn z=>by rw[xat,xaM]
  rw[U<|JT,U (ZG (zt _) (R _ _) W (by rw[ml];lia)<|by rw[ml];lia),zV,CN,zV];have e4:2*(h:J)=((2*h:wr):J):=W
  rw[e4,zb,U<|JT];have t:=Sv h<|xal l5<|xal l4 l3;have l7:=uX (x:=x0*c) (y:=18446744073709551616^h*((x0+d)*(c+e)-x0*c-d*e)) (k:=3*(p+q)) (by clear t;lia) (xal t<|by clear t;lia);have K:=zfD x y h he.symm (by rw[hi,hc]) hg.symm (by rw[hj,hd]);generalize 18446744073709551616^h*((x0+d)*(c+e)-x0*c-d*e)=z1 at*
  generalize hz:x0*c+z1=z at*
  clear t;rw[U (ZG (zt z) (R (2*h)<|d*e) (by clear K;lia) (by rw[ml];clear K;lia)<|by rw[ml];clear K;lia),zV,CN,zV,K]
section
variable{k fu:wr}{a:xS wr}
def blf:K->K->K
 |0,_=>0
 |f+1,n=>if n=0 then 0 else blf f (n/2)+1
def bl(n:K):K:=blf n n
def zem:∀f f' n,n<=f->n<=f'->blf f n=blf f' n
 |0,f',n,h,b=>by
  obtain rfl:n=0:=W
  cases f'<;>rfl
 |f+1,0,n,h,b=>by
  obtain rfl:n=0:=W
  rfl
 |f+1,f'+1,n,h,b=>by
  unfold blf;split;rfl;rw[zem f f' (n/2) W W]
def dI{n:K}(h:0<n:=by lia):bl n=bl (n/2)+1:=by obtain⟨m,rfl⟩:∃m,n=m+1:=⟨n-1,W⟩;show(if m+1=0 then 0 else blf m ((m+1)/2)+1)=_;rw[zem m ((m+1)/2) ((m+1)/2) W<|So _];rfl
def dJ:∀(k:K) {n:K},2^k<=n->bl n=bl (n/2^k)+k
 |0,n,h=>by simp
 |k+1,n,h=>by
  have b:=xdZ k;rw[dI,dJ k W,xaD,xbw,xaS 2];lia
theorem af{n:K}(h:n<2^k):bl n<=k:=by
 induction k generalizing n with
 |zero=>
  obtain rfl:n=0:=W
  exact So _
 |succ k b=>
  obtain rfl|h0:=xcs n
  grind;rw[dI h0];grind
theorem DG(n:K):n<2^bl n:=by
 induction n using xdA with
 |ind n b=>
  obtain rfl|h0:=xcs n
  decide;rw[dI h0];grind
def H3:∀{n:K},n<256->xfc n=bl n:=by decide+kernel
theorem jj{x:K}(q:x<18446744073709551616):xV fu x=Z ((bl x:K):J):=by
 unfold xV;have f:min (16:J).toNat 64=16:=mD
 have o:min (8:J).toNat 64=8:=mD
 have g:min (32:J).toNat 64=32:=mD
 simp only[B,g,f,o];have c:∀(d:K) (i:J),d<65536->0<=i->i<=48->(if(256:J)<=(d:J)then zf (i+8) λj=>zf (j+((xfc (d/2^8%256):K):J)) λl=>Z l else zf (i+((xfc (d%256):K):J)) λm=>Z m)=Z (i+((bl d:K):J)):=by intro d i hd h0 h1;by_cases h:256<=d;have b:=af (n:=d/2^8) (k:=8) W;rw[yg,zb,xao W,H3 W,zb,dJ 8 (n:=d) W];grind;have b:=af (n:=d) (k:=8) W;rw[zD,xao W,H3 W,zb]
 have e:∀(d:K) (i:J),d<4294967296->0<=i->i<=32->(Y (if(65536:J)<=(d:J)then zf (i+16) λp=>Z (d/2^16,p)else Z (d,i)) λ(d2,i2)=>if(256:J)<=(d2:J)then zf (i2+8) λj=>zf (j+((xfc (d2/2^8%256):K):J)) λl=>Z l else zf (i2+((xfc (d2%256):K):J)) λm=>Z m)=Z (i+((bl d:K):J)):=by intro d i hd h0 h1;by_cases h:65536<=d;rw[yg,zb,U O];simp only;rw[c _ _ W W W,dJ 16 (n:=d) W];congr 1;lia;rw[zD,U O];exact c _ _ W W W
 by_cases h:4294967296<=x;rw[yg,U O];simp only;rw[e _ _ W W W,dJ 32 (n:=x) W];congr 1;lia;rw[zD,U O];simp only;rw[e _ _ W W W];congr 1;lia
def NX{n:K}(h:0<n):bl n=64*(X (yH n)-1)+bl ((yH n).getD (X (yH n)-1) 0):=by
 have⟨k,b⟩:∃k,X (yH n)=k+1:=⟨X (yH n)-1,by have:=qg h;lia⟩;have h1:=(zJ (k+1) n).1 W;have d:¬n<18446744073709551616^k:=λh=>by have:=(zJ k n).2 h;lia
 rw[b,VQ,(W:k+1-1=k)];have e:18446744073709551616^k=2^(64*k):=by rw[xcg]
 have c:n/18446744073709551616^k<18446744073709551616:=by rw[xaX<|xaY mD];rw[xbw,xaS]at h1;exact h1
 rw[xao c,e,dJ (64*k)<|by skip;lia];lia
def zhu(h:zm a)(b:X a<=k):bl (nv a)<=64*k:=by refine af ?_;rw[xcg];exact xag (vn h)<|xam mD b
def W3(h:zm a)(hl:X a<=1099511627776)(d:X a<fu):Zf fu a=Z ((bl (nv a):K):J):=by
 unfold Zf;rw[U<|xZ h (xal hl mD) d];have f:=zhu h hl;rcases xcs (nv a)with h0|h0
 rw[h0];rfl;have h1:=qg h0;have b:=(zt<|nv a).getD<|X (yH<|nv a)-1;have e:=NX h0;have⟨k,c⟩:∃k,X (yH<|nv a)=k+1:=⟨X (yH<|nv a)-1,W⟩;rw[c]at e b;simp only[Nat.add_sub_cancel]at e b;have e1:((k+1:K):J)-1=k:=W
 rw[c,e1,zb,zb,zb,yo,A,U<|jj b,zb,e];rfl
end
section
variable{r a b l d:xS wr}{k fu:wr}
def nw:N K->K
 |[]=>0
 |x::r=>x+4294967296*nw r
def kY:K->K->N K
 |0,_=>[]
 |k+1,n=>n%4294967296::kY k (n/4294967296)
def pz:K->K->N K
 |0,_=>[]
 |f+1,n=>if n=0 then[]else n%4294967296::pz f (n/4294967296)
def Vg(n:K):N K:=pz n n
def Ha:N K->N K
 |[]=>[]
 |x::r=>match Ha r with
  |[]=>if x=0 then[]else[x]
  |y::s=>x::y::s
def xj(l:N K):Prop:=∀x∈l,x<4294967296
def xj.nil:xj []:=λx c=>wS c H1
def xj.cons{x:K}(h:x<4294967296)(c:xj r):xj (x::r):=λy hy=>by
 obtain rfl|hy:=xah.1 hy
 exact h;exact c y hy
def xj.head{x:K}(h:xj (x::r)):x<4294967296:=h x<|IR
def xj.tail{x:K}(h:xj (x::r)):xj r:=λy c=>h y<|FS _ c
def xj.append(c:xj a)(e:xj b):xj (a++b):=λx f=>by
 obtain h|h:=xaa.1 f
 exact c x h;exact e x h
theorem xj.take{a:N K}(h:xj a)(k:K):xj (a.take k):=λx c=>h x<|xes c
def xj.getD{a:N K}(h:xj a)(k:K):a.getD k 0<4294967296:=by rw[UV];by_cases c:k<X a;rw[xab c];exact h _<|xbG c;simp_all
def MB:nw []=0:=O
def k9(x:K)(r:N K):nw (x::r)=x+4294967296*nw r:=O
theorem gK:∀(a b:N K),nw (a++b)=nw a+4294967296^X a*nw b
 |[],b=>by simp[nw]
 |x::a,b=>by
  rw[xbL,k9,gK a b,k9];grind
def L3:∀k,nw (Nm k 0)=0
 |0=>rfl
 |k+1=>by rw[xdU,k9,L3 k]
def QG:∀{l:N K},xj l->nw l<4294967296^X l
 |[],_=>by simp[nw]
 |x::r,h=>by
  have h1:=h.head;have c:=QG h.tail;rw[k9,xaw];omega
theorem B0(l:N K)(x:K):nw (l++[x])=nw l+4294967296^X l*x:=by rw[gK,k9,MB];simp
theorem yV:∀k n,X (kY k n)=k
 |0,_=>rfl
 |k+1,n=>by rw[kY,xaw,yV]
theorem qQ:∀k n,xj (kY k n)
 |0,_=>xj.nil
 |k+1,n=>xj.cons (xaN _ mD)<|qQ k _
theorem XP:∀k n,nw (kY k n)=n%4294967296^k
 |0,n=>by simp[kY,nw,Nat.mod_one]
 |k+1,n=>by rw[kY,k9,XP k,xbw,xaS<|4294967296^k,Nat.mod_mul]
def aZ:∀{l:N K},xj l->kY (X l) (nw l)=l
 |[],_=>rfl
 |x::r,h=>by
  have h1:=h.head;rw[xaw,kY,k9,xcn,xao h1,xcz _ _ mD,xbh h1,xaJ,aZ h.tail]
def Ev(c:xj a)(e:xj b)(hl:X a=X b)(h:nw a=nw b):a=b:=by rw[<-aZ c,<-aZ e,hl,h]
def tF:∀k,kY k 0=Nm k 0
 |0=>rfl
 |k+1=>by rw[kY,tF k,xdU]
def sZ:∀k n,kY (k+1) n=kY k n++[n/4294967296^k%4294967296]
 |0,n=>by simp[kY]
 |k+1,n=>by rw[kY,sZ k,kY,xbL,xaD,<-xdQ]
def GK:∀(k n i:K),i<k->(kY k n).getD i 0=n/4294967296^i%4294967296
 |0,_,_,h=>by omega
 |k+1,n,0,_=>by simp[kY]
 |k+1,n,i+1,h=>by rw[kY,xdt,GK k _ i lW,xaD,<-xdQ]
def Iw:∀f n,xj (pz f n)
 |0,_=>xj.nil
 |f+1,n=>by
  rw[pz];split;exact xj.nil;exact xj.cons (xaN _ mD)<|Iw f _
def qC(n:K):xj (Vg n):=Iw n n
def zb9:∀f n,n<=f->nw (pz f n)=n
 |0,n,h=>by rw[pz,MB];omega
 |f+1,n,h=>by
  rw[pz];split;rename_i h0;rw[MB,h0];rename_i h0;have c:n/4294967296<=f:=lW
  rw[k9,zb9 f _ c,xev]
def qO(n:K):nw (Vg n)=n:=zb9 n n<|So _
def zbc:∀f f' n,n<=f->n<=f'->pz f n=pz f' n
 |0,f',n,h,c=>by
  have:n=0:=lW
  subst this;cases f'<;>simp[pz]
 |f+1,0,n,h,c=>by
  have:n=0:=lW
  subst this;rfl
 |f+1,f'+1,n,h,c=>by
  rw[pz,pz];split;rfl;rename_i h0;rw[zbc f f' _ lW lW]
theorem gh:Vg 0=[]:=O
theorem sw{n:K}(h:0<n):Vg n=n%4294967296::Vg (n/4294967296):=by
 have e:Vg n=pz ((n-1)+1) n:=by unfold Vg;congr 1;omega
 rw[e,pz,zD];congr 1;exact zbc _ _ _ lW lW
theorem zcY{n:K}(h0:0<n)(h:n<4294967296):Vg n=[n]:=by grind [sw,gh]
def zkT{n:K}:Vg n=[]↔n=0:=by constructor;intro h;rw[<-qO n,h];rfl;rintro rfl;rfl
def Oa{n:K}(h:0<n):0<X (Vg n):=by rw[sw h,xaw];omega
def va:∀(k n:K),X (Vg n)<=k↔n<4294967296^k
 |0,n=>by rw[Nat.le_zero,xbE,zkT];simp
 |k+1,n=>by
  by_cases h:n=0
  subst h;simp[gh];exact xaY mD
  rw[sw lW,xaw,Nat.add_le_add_iff_right,va k,xaX mD,xbw]
def lY:∀(l:N K) (k:K),k+1=X l->l.getD k 0≠0->Ha l=l
 |[],_,h,_=>by simp at h
 |[x],0,_,h=>by simp at h;simp[Ha,h]
 |[x],k+1,h,_=>by simp at h
 |x::y::r,0,h,_=>by simp at h
 |x::y::r,k+1,h,h0=>by
  have:=lY (y::r) k (by simpa using h) (by simpa using h0);simp only[Ha]at this⊢;rw[this]
theorem zlu(l:N K)(k:K)(h:k+1=X l)(h0:l.getD k 0=0):l=l.take k++[0]:=by grind [xby,xbV]
theorem OY:∀{l:N K},xj l->Ha l=Vg (nw l)
 |[],_=>rfl
 |x::r,h=>by
  have c:=OY h.tail;have e:=h.head;rw[Ha,c,k9];by_cases f:nw r=0
  rw[f,gh];by_cases h0:x=0
  simp[h0,gh];simp only[h0,uP,xdo,xbM];rw[zcY lW e];have e1:=sw (n:=nw r) lW;have g:=sw (n:=x+4294967296*nw r) lW;grind
theorem Rp(hl:xj l)(h:l=[]\/l.getD (X l-1) 0≠0):Vg (nw l)=l:=by
 rw[<-OY hl];obtain rfl|h:=h
 rfl
 cases hn:X l with
 |zero=>rw[xbp hn];rfl
 |succ k=>exact lY l k hn.symm<|by rw[hn]at h;exact h
def NH(hl:xj l)(k:K):nw (l.take k)=nw l%4294967296^k:=by by_cases c:k<=X l;have e:=gK (l.take k)<|l.drop k;rw[xby,xar,xck c]at e;have:=QG<|hl.take k;rw[xar,xck c]at this;rw[e,xcn,xao this];rw[xaW lW,xao];exact xag (QG hl)<|xam mD lW
def zbh(hl:xj l)(k:K):nw (l.drop k)=nw l/4294967296^k:=by by_cases c:k<=X l;have e:=gK (l.take k)<|l.drop k;rw[xby,xar,xck c]at e;have:=QG<|hl.take k;rw[xar,xck c]at this;rw[e,xcz _ _ (xaY mD),xbh this,xaJ];rw[xbR lW,MB,xbh];exact xag (QG hl)<|xam mD lW
def bu:∀{l:N K},xj l->∀k,l.getD k 0=nw l/4294967296^k%4294967296
 |[],_,k=>by simp[nw]
 |x::r,h,0=>by rw[List.getD_cons_zero,k9,xer,xcn,xao h.head]
 |x::r,h,k+1=>by rw[xdt,bu h.tail k,k9,xdQ,<-xaD,xcz _ _ mD,xbh h.head,xaJ]
def zfk(h:xj a):a.take (X (Vg<|nw a))=Vg (nw a):=by have c:=(va _ _).2<|QG h;refine Ev (h.take _) (qC _) (by rw[xar];omega) ?_;rw[NH h,qO];exact xao<|(va _ _).1<|So _
theorem CF(k:K):(4294967296:K)^(2*k)=18446744073709551616^k:=by grind [xcg]
def zeA(k:K):(4294967296:K)^(2*k+1)=18446744073709551616^k*4294967296:=by rw[xbw,CF]
theorem kM(l:N K):∀k,nw (l.take<|k+1)=nw (l.take k)+4294967296^k*l.getD k 0:=by
 induction l with
 |nil=>intro k;simp[nw]
 |cons x r c=>
  intro k
  cases k with
  |zero=>simp[nw]
  |succ k=>
   rw[xeF,k9,c k,xeF,k9,xdt,xbw,xco];rw[xaS (4294967296^k) 4294967296,xbl,xcK]
def NQ(c:k+1<=X a)(h0:a.getD k 0=0):nw (a.take k)=nw (a.take<|k+1):=by rw[kM,h0];simp
theorem MJ(h:xj a)(c:k+1<=X a)(h0:a.getD k 0≠0):Vg (nw<|a.take<|k+1)=a.take (k+1):=by grind [Rp,xj.take]
def zdd(h:xj l):X (Vg<|nw l)<=X l:=(va _ _).2<|QG h
theorem IU:∀(o:N K) (j v:K),j<X o->nw (o.set j v)+4294967296^j*o.getD j 0=nw o+4294967296^j*v
 |[],j,v,h=>by simp at h
 |x::r,0,v,h=>by simp[nw];omega
 |x::r,j+1,v,h=>by
  have c:=IU r j v (by simpa using h);rw[xfj,k9,k9,xdt,xbw,xaS<|4294967296^j,xbl,xbl];omega
def xj.set{o:N K}(h:xj o)(j:K){v:K}(hv:v<4294967296):xj (o.set j v):=λx c=>by
 obtain h1|h1:=xdz c
 exact h x h1;omega
theorem JE(h:xj a)(hl:X a<=1099511627776)(m:X a<fu):YN fu a=Z (Vg<|nw a):=by
 unfold YN;have f:=zdd h;rw[U (v:=(X (Vg<|nw a):J)),yI,wM f,A,zfk h];refine zA (λi:J=>0<=i/\i<=X a/\nw (a.take i.toNat)=nw a) (λi=>i.toNat) _ ?_ _ _ ⟨lW,lW,mK⟩ lW;rintro i L ⟨h0,h1,hn⟩ g;obtain⟨k,rfl⟩:=xaC h0;unfold lO;simp only[xaZ]at*
 by_cases e:0<(k:J);obtain⟨j,rfl⟩:∃j,k=j+1:=⟨k-1,lW⟩;have e1:((j+1:K):J)-1=(j:J):=lW
 rw[S e,e1,zb,yo,A];by_cases c:a.getD j 0=0
 rw[S (by rw[c]),zb];refine g _ ⟨lW,lW,?_⟩ lW;rw[xaZ,NQ lW c,hn];rw[zD,<-hn,MJ h lW c,xar];grind;rw[ir e,<-hn];have:k=0:=lW
 subst this;rfl
def zft(h:zm a)(c:k<X a):kY (2*k) (nv a)++[a.getD k 0 &&& 4294967295,a.getD k 0/2^32]=kY (2*(k+1)) (nv a):=by rw[(lW:2*(k+1)=(2*k+1)+1),sZ,sZ,xaq,KZ h,C6];congr 1;rw[zeA,CF,<-xaD];congr 1;omega;congr 1;omega
theorem PK(h:zm a)(hl:X a<=4294967296)(e:2*X a<fu):zg (Wy fu a) fu ([],0)=Z (kY (2*X a)<|nv a):=by refine zA (λs:N K×J=>∃k:K,k<=X a/\s=(kY (2*k)<|nv a,(k:J))) (λs=>X a-s.2.toNat) _ ?_ _ _ ⟨0,lW,O⟩ (by show X a-0<fu;omega);rintro s L ⟨k,f,rfl⟩ c;unfold Wy;simp only;by_cases h1:k<X a;rw[yg,zn h1,A,A,zn h1,A,A,DA,wM (by simp only[yV,xaw,xbT];omega),A,zb,zft h h1];exact c _ ⟨k+1,lW,O⟩ (by show X a-((k:J)+1).toNat<X a-(k:J).toNat;omega);grind
theorem xR(h:zm a)(hl:X a<=4294967296:=by omega)(c:2*X a<fu:=by omega):xG fu a=Z (Vg<|nv a):=by grind [xG,CF,vn,U,PK,JE,qQ,yV,XP,xao]
def zdi(h:xj d)(k:K):d.getD (2*k) 0+d.getD (2*k+1) 0*2^32=nw d/18446744073709551616^k%18446744073709551616:=by rw[bu h,bu h,zeA,<-xaD,CF];omega
def zaT{n:K}(h:xj d)(hl:X d<=4294967296)(hn:n=(X d+1)/2)(j:X d+1<fu):zg (Qt fu d) fu ([],0)=Z (vu n<|nw d):=by
 refine zA (λs:N K×J=>∃k:K,k<=n/\s=(vu k<|nw d,2*(k:J))) (λs=>2*n-s.2.toNat) _ ?_ _ _ ⟨0,lW,O⟩ (by show 2*n-0<fu;omega);rintro s L ⟨k,m,rfl⟩ c;unfold Qt;simp only;have f:2*(k:J)=((2*k:K):J):=lW
 have hp:=zdi h k;by_cases h1:2*k<X d;have d0:=h.getD<|2*k;have d1:=h.getD<|2*k+1;rw[f,yg,zn h1,A,zb];have g:((2*k:K):J)+1=((2*k+1:K):J):=lW
 have e:((2*k:K):J)+2=2*((k+1:K):J):=lW
 by_cases i:2*k+1<X d;rw[yg,zb,g,zn i,A,DA,A,A,wM (by simp only[zZ,xaw,xbT];omega),A,zb,e];refine c _ ⟨k+1,lW,?_⟩ (by show 2*n-(2*((k+1:K):J)).toNat<2*n-(((2*k:K):J)).toNat;omega);rw[aa,<-hp,xao lW,xao lW];rw[zD,wM (by simp only[zZ,xaw,xbT];omega),A,zb,e];refine c _ ⟨k+1,lW,?_⟩ (by show 2*n-(2*((k+1:K):J)).toNat<2*n-(((2*k:K):J)).toNat;omega);have z:d.getD (2*k+1) 0=0:=by rw[UV,xbn lW];rfl
 rw[z,xcC,xbM]at hp;rw[aa,<-hp];rw[zD];obtain rfl:k=n:=lW
 rfl
def jM(h:xj d)(hl:X d<=4294967296)(c:X d+1<fu):v7 fu d=Z (yH<|nw d):=by
 unfold v7;have⟨n,hn⟩:∃n,n=(X d+1)/2:=⟨_,O⟩;have e:nw d<18446744073709551616^n:=by rw[<-CF];exact xag (QG h)<|xam mD lW
 rw[U<|zaT h hl hn c,U (b8 (wq _ _) (by rw[zZ];omega)<|by rw[zZ];omega),kV,xao e]
end
section
variable{o y a b:xS wr}{i m fu:wr}
theorem zd2{T k x c:K}(d:i+k<X o)(h:nw o+4294967296^(i+k)*c=T+4294967296^i*(x*nw (y.take k))):
 nw (o.set (i+k)<|(x*y.getD k 0+o.getD (i+k) 0+c)%4294967296)+4294967296^(i+(k+1))*((x*y.getD k 0+o.getD (i+k) 0+c)/4294967296)=T+4294967296^i*(x*nw (y.take<|k+1)):=by grind [IU,kM,xco,xfw,xbl,xev]
def zcU(c:xj o){j v:K}(d:j<m)(hv:v<4294967296)(h:nw o<4294967296^m):nw (o.set j v)<4294967296^m:=by
 have e:(o.set j v).drop m=o.drop m:=List.drop_set_of_lt d;have h1:=zbh (c.set j hv) m;have f:=zbh c m;rw[e,f,xbh h]at h1;have hp:0<4294967296^m:=xaY mD;rcases xbS (nw<|o.set j v) (4294967296^m)with h3|h3
 exact h3;have:=Nat.div_pos h3 hp;lia
def Tu(c:xj o)(h:nw o<4294967296^m):o.getD m 0=0:=by rw[bu c,xbh h]
def zg2{x y o c:K}(d:x<4294967296)(e:y<4294967296)(f:o<4294967296)(hc:c<4294967296):x*y+o+c<18446744073709551616:=by have:x*y<=4294967295*4294967295:=xcf W W;lia
def Ma{n:K}{x o0:N K}(j:xj x)(l:xj y)(hi:i<X x)(hn:n=X x+X y)(w:n<=4294967296)(h0:xj o0)(p:X o0=n)(q:nw o0=nw (x.take i)*nw y)(hl:nw o0<4294967296^(i+X y))(B:X y<fu):
 zg (Uj fu (i:J)) fu (x,y,0,0,o0)=Z (x,y,nw (x.take<|i+1)*nw y/4294967296^(i+X y),kY n<|nw (x.take<|i+1)*nw y%4294967296^(i+X y)):=by
 refine zA (λs:N K×N K×K×J×N K=>∃(c k:K) (o:N K),s=(x,y,c,(k:J),o)/\k<=X y/\c<4294967296/\xj o/\X o=n/\nw o<4294967296^(i+X y)/\nw o+4294967296^(i+k)*c=nw o0+4294967296^i*(x.getD i 0*nw (y.take k)))
  (λs=>X y-s.2.2.2.1.toNat) _ ?_ _ _ ⟨0,0,o0,O,W,W,h0,p,hl,by simp[nw]⟩ (by show X y-0<fu;lia)
 rintro s L ⟨c,k,o,rfl,C,hc,d,h,hd,f⟩ r;unfold Uj;simp only;by_cases h1:k<X y;have e:(i:J)+(k:J)=((i+k:K):J):=W
 have bx:=j.getD i;have g:=l.getD k;have t:=d.getD<|i+k;have D:=zg2 bx g t hc;rw[yg,zn hi,A,zn h1,A,A,e,zb,yo,A,A,A,zb,A,C6,yo,A,A,DA,zb];have u:((x.getD i 0*y.getD k 0%18446744073709551616+o.getD (i+k) 0)%18446744073709551616+c)%18446744073709551616=x.getD i 0*y.getD k 0+o.getD (i+k) 0+c:=by
  generalize x.getD i 0*y.getD k 0=z at*
  lia
 rw[u];refine r _ ⟨_,k+1,_,O,W,?_,d.set _ (xaN _ mD),by rw[xbg,h],zcU d W (xaN _ mD) hd,zd2 W f⟩ (by show X y-((k:J)+1).toNat<X y-(k:J).toNat;lia);generalize x.getD i 0*y.getD k 0+o.getD (i+k) 0+c=z at*
 lia;rw[zD];obtain rfl:k=X y:=W
 rw[xca,q]at f;have v:nw (x.take<|i+1)*nw y=nw (x.take i)*nw y+4294967296^i*(x.getD i 0*nw y):=by rw[kM,xbi,xbl]
 rw[<-v]at f;have hp:0<4294967296^(i+X y):=xaY mD;rw[<-f,xcz _ _ hp,xbh hd,xcn,xao hd,xaJ];have:=aZ d;rw[h]at this;rw[this]
def TT{x:N K}(c:xj x)(k:K):nw (x.take k)<4294967296^k:=by rw[NH c];exact xaN _<|xaY mD
def Aa{x:N K}(c:xj x)(d:xj y)(k:K):nw (x.take k)*nw y<4294967296^(k+X y):=by rw[xbj];exact xci (TT c k)<|QG d
def SN{n:K}{x:N K}(c:xj x)(d:xj y)(hn:n=X x+X y)(h:n<=4294967296)(t:n<fu):
 zg (Uy fu x y) fu (0,kY n 0)=Z (kY n<|nw x*nw y):=by
 refine zA (λs:J×N K=>∃k:K,k<=X x/\s=((k:J),kY n<|nw (x.take k)*nw y)) (λs=>X x-s.1.toNat) _ ?_ _ _ ⟨0,W,by simp[nw]⟩ (by show X x-0<fu;lia);rintro s L ⟨k,u,rfl⟩ j;unfold Uy;simp only;by_cases h1:k<X x;have l:=Aa c d k;have hc:=Aa c d<|k+1;have hi:4294967296^(k+X y)<=4294967296^n:=xam mD W;have hv:nw (kY n<|nw (x.take k)*nw y)=nw (x.take k)*nw y:=by rw[XP,xao W]
 have e:(k:J)+(X y:J)=((k+X y:K):J):=W
 rw[yg,U<|Ma (n:=n) c d h1 hn h (qQ _ _) (yV _ _) hv (by rw[hv];exact l) W];simp only;rw[e,zb,zn (by rw[yV];lia),A,zb];refine j _ ⟨k+1,W,?_⟩ (by show X x-((k:J)+1).toNat<X x-(k:J).toNat;lia);have p:nw (x.take<|k+1)*nw y/4294967296^(k+X y)<4294967296:=by rw[xaX<|xaY mD];rw[(W:k+1+X y=(k+X y)+1),xbw,xaS<|4294967296^(k+X y)]at hc;exact hc
 have hp:0<4294967296^(k+X y):=xaY mD;generalize nw (x.take<|k+1)*nw y=S at*
 have q:=xaN S hp;have f:nw (kY n<|S%4294967296^(k+X y))=S%4294967296^(k+X y):=by rw[XP,xao W]
 have r:=Tu (qQ n<|S%4294967296^(k+X y)) (m:=k+X y) (by rw[f];exact q);have g:=IU (kY n<|S%4294967296^(k+X y)) (k+X y) (S/4294967296^(k+X y)) (by rw[yV];lia);rw[r,f,xdo,xbM,xev]at g;have hd:=aZ<|(qQ n<|S%4294967296^(k+X y)).set (k+X y) p;rw[g,xbg,yV]at hd;rw[hd];rfl;rw[zD];obtain rfl:k=X x:=W
 rw[xca]
def Vq(h:zm a):X (Vg<|nv a)<=2*X a:=by rw[va,CF];exact vn h
def EA(c:zm a)(d:zm b)(hd:X a<=268435456)(j:X b<=268435456)(k:2*(X a+X b)+1<fu):
 KA fu a b=Z (yH<|nv a*nv b):=by
 unfold KA;have l1:=Vq c;have l:=Vq d;rw[U<|xR c,U<|xR d];have e1:nw (Vg<|nv a)=nv a:=qO _;have h:nw (Vg<|nv b)=nv b:=qO _;have f:=qC<|nv a;have g:=qC<|nv b;generalize Vg (nv a)=x at*
 generalize Vg (nv b)=y at*
 have e:X x+X y=((X x+X y:K):J):=W
 have hc:nv a*nv b<4294967296^(X x+X y):=by have:=Aa f g (X x);simp_all
 rw[e,zb,yI,y8,A,<-tF,U (SN f g O W W),e1,h,U (jM (qQ _ _) (by rw[yV];lia)<|by rw[yV];lia),XP,xao hc]
theorem Qa(e:X a<=1099511627776)(f:X a<fu):Xd fu a b=Z (decide<|a=b):=by
 unfold Xd;by_cases hl:X a=X b;rw[yg,U (v:=if a=b then .inl ()else .inr ())];grind;refine zA (λi:J=>∃k:K,i=(k:J)/\k<=X a/\a.take k=b.take k) (λi=>X a-i.toNat) _ ?_ _ _ ⟨0,O,W,O⟩ (by show X a-0<fu;lia);rintro i L ⟨k,rfl,g,ht⟩ c;unfold dC;by_cases h1:k<X a;rw[yg,zn h1,A,yo,A];by_cases d:a.getD k 0=b.getD k 0;rw[yg,zb];refine c _ ⟨k+1,W,W,?_⟩ (by show X a-((k:J)+1).toNat<X a-(k:J).toNat;lia);rw[xeU,xeU,ht,getD_some 0 h1,getD_some 0 (by lia:k<X b),d];grind;rw[zD];obtain rfl:k=X a:=W
 rw[xca,xaW W]at ht;rw[S ht];rw[zD,Wl<|λh=>hl<|by rw[h]]
end
section
variable{fu:wr}{a b:Zr}
def zv(z:M):J:=if z.1=wL then-((nv z.2:K):J)else((nv z.2:K):J)
def yG(x:J):M:=(decide<|x<0,yH x.natAbs)
theorem zo(x:J):zv (yG x)=x:=by grind [yG,zv,zV]
def yN(x:J):zm (yG x).2:=zt _
theorem vI(z:M):(zv z).natAbs=nv z.2:=by unfold zv;split<;>omega
theorem zfS(s:v6)(n:K):(if s=wL then if 0<((X (yH n):K):J)then Z (wL,yH n)else Z (I,yH n)else Z (I,yH n))=Z (yG (if s=wL then-(n:J)else(n:J))):=by grind [yG,LF,qg]
theorem yM{s:v6}{a:N K}(h:zm a)(hl:X a<=17592186044416)(c:X a<fu):xl fu s a=Z (yG (if s=wL then-((nv a:K):J)else((nv a:K):J))):=by unfold xl;rw[U<|Vb h hl c];exact zfS s _
theorem VZ{z:M}(h:zm z.2)(hl:X z.2<=17592186044416)(c:X z.2<fu):xc fu z=Z (yG<|zv z):=by unfold xc;rw[U<|b8 h hl c];exact zfS z.1 _
def eK{z:M}(h:zm z.2)(hl:X z.2<=17592186044416)(c:X z.2<fu):qe fu z=Z (yG<|zv z):=by unfold qe;rw[U<|yM h hl c];rfl
theorem Eh{x:J}(h0:0<=x)(h:x<18446744073709551616):((ET x:K):J)=x:=by unfold ET;omega
theorem dj{x:K}(h:x<18446744073709551616):zm [x]:=zm.cons h zm.nil
theorem tH(x:K):nv [x]=x:=by simp[nv]
theorem bj{x:J}(h:XB x)(c:1<fu:=by omega):yq fu x=Z (yG x):=by grind [yq,ET,A,U,yM,dj,tH]
theorem lQ{x:J}(h: -9223372036854775807<=x/\x<=9223372036854775807)(c:1<fu:=by omega):JL fu x=Z (yG x):=by grind [JL,zv,Eh,jL,A,U,VZ,dj,tH]
theorem zbn(a b:M):(if(!(a.1==b.1))=wL then-((nv a.2*nv b.2:K):J)else((nv a.2*nv b.2:K):J))=zv a*zv b:=by grind [zv]
def mz(c:zm a.2)(d:zm b.2)(hc:X a.2<=1073741824)(hd:X b.2<=1073741824)(e:4*(X a.2+X b.2)+64<=fu):zM fu a b=Z (yG<|zv a*zv b):=by unfold zM;have hl:=YQ (xd c)<|xd d;rw[A,U<|Xg c d hc hd e,U (yM (zt _) lW lW),zV,<-zbn]
def C0(c:zm a.2)(d:zm b.2)(hc:X a.2<=268435456)(hd:X b.2<=268435456)(e:2*(X a.2+X b.2)+1<fu):YM fu a b=Z (yG<|zv a*zv b):=by unfold YM;have hl:=YQ (xd c)<|xd d;rw[A,U<|EA c d hc hd e,U<|VZ (zt _) (by show(yH _).length<=_;omega) (by show(yH _).length<_;omega)];rw[<-zbn];show Z (yG (if _ then-((nv (yH _):K):J)else((nv (yH _):K):J)))=_;rw[zV]
def BA(hl:X a.2<=1099511627776)(c:X a.2<fu):QS fu a b=Z (decide<|a=b):=by
 have⟨s,a⟩:=a;have⟨t,b⟩:=b;unfold QS;rw[A];cases s<;>cases t
 simp only;rw[U<|Qa hl c];simp;simp;simp;simp only;rw[U<|Qa hl c];simp
theorem zj9{a:J}{e b:K}(h:bl a.natAbs*e<=b*64):X (yH (a^e).natAbs)<=b+1:=by rw[zJ,Int.natAbs_pow];have h1:a.natAbs^e<=(2^bl a.natAbs)^e:=Nat.pow_le_pow_left (xdC<|DG _) e;rw[<-xcg]at h1;have c:2^(bl a.natAbs*e)<=2^(64*b):=xam mD lW;rw[xcg 2 64 b]at c;grind
theorem zhw(i:K)(h:i<=65536):Tn (i:J) 1=((i%2:K):J):=by grind [Tn,sgn,ET]
theorem zmU(i:K):xfY (i:J) (2^(min (((1:K):J)).toNat 64))=((i/2:K):J):=by grind
def zdV{n:K}{a:J}(hn:n<=65536)(l:bl a.natAbs*n<=262144)(r:65600<fu):
 zg (aL fu) fu ((n:J),yG a,yG 1)=Z (yG<|a^n):=by
 have hc:∀e,e<=n->X (yH (a^e).natAbs)<=4097:=λe g=>zj9 (b:=4096)<|xal (xaE _ g) l;refine zA (λs:J×M×M=>∃i d e:K,s=((i:J),yG<|a^d,yG<|a^e)/\e+d*i=n/\(0<i->d<=n)/\0<d) (λs=>s.1.toNat) _ ?_ _ _ ⟨n,1,0,by simp[xbP],lW,lW,lW⟩ (by show((n:J)).toNat<fu;omega);rintro s L ⟨i,d,e,rfl,g,hd,hi⟩ h;unfold aL;simp only;have c:∀p q,p<=n->q<=n->zM fu (yG<|a^p) (yG<|a^q)=Z (yG<|a^(p+q)):=by intro p q hp m;have h1:=hc p hp;have k:=hc q m;rw[mz (yN _) (yN _) (by show(yH _).length<=_;omega) (by show(yH _).length<=_;omega) (by show 4*(X (yH _)+X (yH _))+64<=fu;omega),zo,zo,Int.pow_add]
 by_cases h0:0<i;have f:=hd h0;have t:i<=n:=by have:=xea i hi;omega
 have j:d*i=d*(i/2)*2+d*(i%2):=by rw[xbl,<-xco];congr 1;omega
 rw[yg,A,zhw i lW];by_cases h1:i%2=1
 rw[yg];rw[h1,xeI]at j;rw[U<|c e d lW f];by_cases k:1<i;have o:d*1<=d*(i/2):=xaE d lW;rw[yg,U<|c d d f f,A,zmU];refine h _ ⟨i/2,d+d,e+d,O,?_,lW,lW⟩ (by show((i/2:K):J).toNat<(i:J).toNat;omega);rw[xbi];omega;rw[zD,A,zmU];refine h _ ⟨i/2,d,e+d,O,?_,lW,lW⟩ (by show((i/2:K):J).toNat<(i:J).toNat;omega);rw[(lW:i/2=0),xdo]at j⊢;omega;rw[zD];rw[(lW:i%2=0),xdo,xbM]at j;by_cases k:1<i;have o:d*1<=d*(i/2):=xaE d lW;rw[yg,U<|c d d f f,A,zmU];refine h _ ⟨i/2,d+d,e,O,?_,lW,lW⟩ (by show((i/2:K):J).toNat<(i:J).toNat;omega);rw[xbi];omega;omega;rw[zD];obtain rfl:i=0:=lW
 rw[xdo,xbM]at g;rw[g]
theorem Fo{n:K}{z:M}(h:zm z.2)(hl:X z.2<=1000000)(hn:n<=65536)(d:1000100<fu):
 aI fu z (n:J)=Z (if 262144<bl (nv z.2)*n then((I,[]),6)else(yG<|zv z^n,0)):=by
 unfold aI;have c:=zhu h hl;have f:=xcf c hn;have e:((bl (nv z.2):K):J)*n=((bl (nv z.2)*n:K):J):=mK
 rw[zD,zD,U O];simp only[xai,uP];rw[U (W3 h lW lW),zb];by_cases h1:262144<bl (nv z.2)*n;grind;rw[zD,ir h1,U (bj mD lW),U (eK h lW lW),U<|zdV hn (by rw[vI];omega) lW]
end
section
variable{d fu:wr}{p:wn}
def kz(p:K):Prop:=∀d,2<=d->d*d<=p->p%d≠0
open Classical in
noncomputable def qp(p:J):v6:=decide<|2<=p/\p<=65521/\kz p.toNat
open Classical in
def zhT{p:J}(h:2<=p/\p<=65521/\kz p.toNat):qp p=wL:=by unfold qp;exact Wd h
open Classical in
def HX{p:J}(h:¬(2<=p/\p<=65521/\kz p.toNat)):qp p=I:=by unfold qp;exact Wl h
def zcC(d:K):(d:J)*(d:J)=((d*d:K):J):=mK
def zlR{p:K}(h:p<=65521)(hd:d<=300:=by lia):d*d<=90000:=xal (xcf hd hd) mD
def zl3{p:K}(h:p<=65521)(hd:d*d<=p):d<256:=by
 obtain h1|h1:=xbS d 256
 exact h1;have:=xcf h1 h1;lia
def TQ{p:K}(h:p<=65521)(m:400<fu):(kz p->zg (ZL fu (p:J)) fu (wL,2)=Z wL)/\(¬kz p->zg (ZL fu (p:J)) fu (wL,2)=Z I):=by
 constructor;intro hn;refine zA (λi:v6×J=>∃d:K,i=(wL,(d:J))/\2<=d/\d<=256) (λi=>300-i.2.toNat) _ ?_ _ _ ⟨2,O,W,W⟩ (by show 300-2<fu;lia);rintro i L ⟨d,rfl,j,c⟩ f;unfold ZL;simp only[uS];have k:=zlR h (d:=d);rw[zcC,zb];by_cases a:d*d<=p;have b:=hn d j a;have:=zl3 h a;have e:xcB (p:J) (d:J)=((p%d:K):J):=O;rw[yg,y8,A,e,zD,zb];exact f _ ⟨d+1,O,W,W⟩ (by show 300-((d:J)+1).toNat<300-(d:J).toNat;lia);rw[zD];intro hn;have⟨d0,g⟩:=Classical.not_forall.1 hn;have⟨hc,g⟩:=Classical.not_imp.1 g;have⟨a,b⟩:=Classical.not_imp.1 g;have b:p%d0=0:=Classical.not_not.1 b;have n:=zl3 h a;refine zA (λi:v6×J=>∃d:K,i=(wL,(d:J))/\2<=d/\d<=d0) (λi=>300-i.2.toNat) _ ?_ _ _ ⟨2,O,W,W⟩ (by show 300-2<fu;lia);rintro i L ⟨d,rfl,j,c⟩ f;unfold ZL;simp only[uS];have k:=zlR h (d:=d);have hd:=xcf c c;rw[zcC,zb];have e:xcB (p:J) (d:J)=((p%d:K):J):=O;rw[yg,y8,A,e];by_cases l:p%d=0
 rw[yg];rw[zD,zb];refine f _ ⟨d+1,O,W,?_⟩ (by show 300-((d:J)+1).toNat<300-(d:J).toNat;lia);obtain h8|h8:=xbS d d0
 exact h8;exact wS (by rw[(W:d=d0)];exact b) l
theorem WM(f:400<fu):Zm fu p=Z (qp p):=by
 unfold Zm;have e:zg (ZL fu p) fu (I,2)=Z I:=by obtain⟨k,rfl⟩:∃k,fu=k+1:=⟨fu-1,W⟩;rfl
 by_cases a:2<=p;rw[S a];by_cases b:p<=65521
 rw[S b,U O];obtain⟨q,rfl⟩:=xaC (by lia:0<=p);have⟨l1,g⟩:=TQ (p:=q) W f;by_cases c:kz q;rw[U<|l1 c,zhT ⟨a,b,c⟩];rw[U<|g c,HX (p:=q)<|λh=>c h.2.2];rw[ir b,U O,U e];rw[HX<|λh=>b h.2.1];rw[ir a,U O,U e];rw[HX<|λh=>a h.1]
noncomputable def ri(p k:J):M×J:=if qp p=wL/\1<=k/\k<=1000 then(yG<|p^k.toNat,0)else((I,[]),1)
def zw(h:qp p=wL):2<=p/\p<=65521:=by refine xak λhn=> ?_;rw[HX<|λh=>hn ⟨h.1,h.2.1⟩]at h;cases h
def zmo(h:qp p=wL):bl (nv (yG p).2)<=16:=by have:=zw h;refine af ?_;show nv (yH p.natAbs)<_;rw[zV];lia
def zi2{x:J}(h:x.natAbs<18446744073709551616):(yG x).2.length<=1:=by show(yH _).length<=1;rw[zJ];lia
theorem uH{k:J}(c:3000000<fu):qx fu p k=Z (ri p k):=by unfold qx ri;rw[U<|WM W];by_cases h1:qp p=wL;have e:=zw h1;rw[ir<|by simp[h1]];by_cases a:k<1;grind;rw[ir a];by_cases b:1000<k;simp_all;obtain⟨n,rfl⟩:=xaC (by lia:0<=k);have hl:=zi2 (x:=p) W;have f:bl (nv (yG p).2)*n<=16*1000:=xcf (zmo h1) W;rw[ir b,bi ⟨h1,W,W⟩,U<|bj ⟨W,W⟩,U (Fo (yN p) W W W),zD,zo];rfl;simp_all
end
section
variable{fu k j:wr}{a b:Zr}{y:wn}
theorem dh{a b:J}:uE fu a b=Z (kh a b):=by grind [uE,Yn,U,qI,vJ,kP]
theorem U4{a b:K}:qU fu a b=Z (kh a b):=by grind [qU,kH,U,qI,vJ,kP]
theorem bW{a b:N K}(d:zm a)(f:zm b)(l:X a<=1000000:=by lia)(n:X b<=1000000:=by lia)(o:2000000<fu:=by lia):Jm fu a b=Z (kh (nv a:K) (nv b:K)):=by
 unfold Jm;have h1:=xd d;have p:=xd f;rw[U (xZ d W W),U<|xZ f W W];generalize nv a=x at*
 generalize nv b=y at*
 by_cases h:X (yH x)=X (yH y);rw[yg,zb];by_cases hc:x=y;subst hc;rw[U (v:=.inl ())];rw[kP O];refine zA (λi:J=>∃m:K,i=(m:J)-1/\m<=X (yH x)) (λi=>(i+1).toNat) _ ?_ _ _ ⟨_,O,So _⟩ W;rintro i L ⟨m,rfl,g⟩ c;unfold fH;by_cases h0:m=0
 rw[zD];have e:(m:J)-1=((m-1:K):J):=W
 rw[yg,e,yo,A,yo,A,S O,zb];exact c _ ⟨m-1,O,W⟩ W
 rw[U (v:=.inr<|kh x y)];refine zA (λi:J=>∃m:K,i=(m:J)-1/\m<=X (yH x)/\x/18446744073709551616^m=y/18446744073709551616^m) (λi=>(i+1).toNat) _ ?_ _ _ ⟨_,O,So _,ziz h⟩ W;rintro i L ⟨m,rfl,g,ht⟩ c;unfold fH;by_cases h0:m=0
 subst h0;rw[xfe,xer,xer]at ht;exact wS ht hc;have e:(m:J)-1=((m-1:K):J):=W
 rw[yg,e,yo,A,yo,A];by_cases hd:(yH x).getD (m-1) 0=(yH y).getD (m-1) 0;rw[S (by rw[hd]),zb];exact c _ ⟨m-1,O,W,zgL W ht hd⟩ W
 rw[zD,yo,A,yo,A,U U4,zc1 W ht hd];rw[zD,U dh,zkM h]
def iU(z:M):Prop:=zm z.2/\X z.2<=100000
def Bz(k:K)(x:J):Prop:=x.natAbs<18446744073709551616^k
def Bz.ok{x:J}(h:Bz k x)(c:k<=100000):iU (yG x):=⟨yN x,xal ((zJ _ _).2 h) c⟩
theorem Bz.of{z:M}(h:zm z.2):Bz (X z.2) (zv z):=by grind [Bz,vI,vn]
def Bz.mono{x:J}(h:Bz j x)(c:j<=k):Bz k x:=xag h<|xam mD c
def iU.bz{z:M}(h:iU z):Bz 100000 (zv z):=(Bz.of h.1).mono h.2
theorem Bz.neg{x:J}(h:Bz k x):Bz k (-x):=by unfold Bz at*;rw[xfB];exact h
theorem Bz.add{x:J}(c:Bz k x)(d:Bz k y):Bz (k+1) (x+y):=by grind [Bz]
theorem Bz.sub{x:J}(c:Bz k x)(d:Bz k y):Bz (k+1) (x-y):=by grind [Bz.add,Bz.neg]
def Bz.mul{x:J}(c:Bz j x)(d:Bz k y):Bz (j+k) (x*y):=by unfold Bz at*;rw[xcw,xbj];exact xci c d
def Bz.le{x:J}(c:Bz k y)(h:x.natAbs<=y.natAbs):Bz k x:=xaK h c
theorem xX(z:M):(z.1=wL/\zv z= -((nv z.2:K):J))\/(z.1=I/\zv z=((nv z.2:K):J)):=by grind [zv]
theorem uf{z:M}(h:iU z)(c:3000000<=fu):qe fu z=Z (yG<|zv z):=eK h.1 (by have:=h.2;lia) (by have:=h.2;lia)
def Ui{z:M}(h:iU z)(d:3000000<=fu):u4 fu z=Z (yG (-zv z)):=by unfold u4;have:=h.2;rw[U<|yM h.1 W W];rcases xX z with⟨h1,c⟩|⟨h1,c⟩<;>rw[h1,c]<;>simp
theorem vZ(e:iU a)(f:iU b)(o:3000000<=fu):vQ fu a b=Z (yG<|zv a+zv b):=by
 unfold vQ;have l:=e.2;have m:=f.2;have p:X (yH<|nv a.2+nv b.2)<=100001:=uX (xal (xd e.1) l)<|xal (xd f.1) m;rw[A];by_cases i:a.1=b.1;rw[S (by simp[i]),U<|ZG e.1 f.1,U (yM (zt _) W W),zV];rcases xX a with⟨h1,c⟩|⟨h1,c⟩<;>rcases xX b with⟨g,d⟩|⟨g,d⟩
 grind;simp_all;rw[h1,g]at i;cases i
 rw[h1,c,d,ir mD];congr 2;rw[ir<|by simp[i]];rw[U<|bW e.1 f.1];by_cases hc:nv a.2<nv b.2;have hd:X (yH<|nv b.2-nv a.2)<=100000:=xal (J5<|xfd _ _)<|xal (xd f.1) m;rw[qI W,S mD,U O];simp only;rw[U (Q4 f.1 e.1 W W W),zD];simp only;rw[U (yM (zt _) W W),zV];rcases xX a with⟨h1,c⟩|⟨h1,c⟩<;>rcases xX b with⟨g,d⟩|⟨g,d⟩<;>rw[g,c,d]<;>simp_all
 congr 1;lia;congr 1;lia;have hd:X (yH<|nv a.2-nv b.2)<=100000:=xal (J5<|xfd _ _)<|xal (xd e.1) l;have n:¬kh ((nv a.2:K):J) ((nv b.2:K):J)<0:=by
  rcases xbS (nv b.2) (nv a.2)with h|h
  rw[vJ W];decide;rw[kP W];decide
 rw[ir n,U O];simp only;rw[U (Q4 e.1 f.1 W W W),zD];simp only;rw[U (yM (zt _) W W),zV];rcases xX a with⟨h1,c⟩|⟨h1,c⟩<;>rcases xX b with⟨g,d⟩|⟨g,d⟩<;>rw[h1,c,d]<;>simp_all
 congr 1;lia;congr 1;lia
def qd(e:iU a)(c:iU b)(d:3000000<=fu):qu fu a b=Z (yG<|zv a-zv b):=by unfold qu;have h1:=(Bz.neg c.bz).ok<|So _;rw[U<|Ui c d,U<|vZ e h1 d,zo];congr 2
theorem Cc{x:J}:0<(((yG x).2.length:K):J)↔x≠0:=by grind [yG,LF,qg]
theorem QU(x:J):(yG x).1=wL↔x<0:=by unfold yG;simp
theorem xe{z:M}(h:iU z)(c:3000000<=fu):xD fu z=Z (kh (zv z) 0):=by grind [xD,U,uf,QU,jL,qI,Cc,kP,vJ]
theorem zf0(x y:J):kh (x-y) 0=kh x y:=by grind [qI,kP,vJ]
def Yd(c:iU a)(d:iU b)(e:3000000<=fu)(hl:X a.2<=99999:=by lia)(hc:X b.2<=99999:=by lia):uc fu a b=Z (kh (zv a)<|zv b):=by unfold uc;have h1:=((Bz.of c.1).mono hl).sub<|(Bz.of d.1).mono hc;rw[U<|qd c d e,U<|xe (h1.ok<|So _) e,zo,zf0]
def yj(c:iU a)(d:iU b)(e:3000000<=fu):zM fu a b=Z (yG<|zv a*zv b):=by have:=c.2;have:=d.2;exact mz c.1 d.1 W W W
def yw{x:J}(h:XB x)(c:3000000<=fu):yq fu x=Z (yG x):=bj h
end
section
variable{fu k B i:wr}{a y b:xS wr}
theorem xK:qF fu a (k:J)=Z (a.getD k 0):=by grind [qF,zn,A]
def zcE{x y:K}(d:0<B)(h:x/B^(k+1)=y/B^(k+1))(hd:x/B^k%B<y/B^k%B):x<y:=by have h1:=Kd x B k d;have f:=Kd y B k d;rw[h]at h1;refine xdp λe=> ?_;have:=Nat.div_le_div_right (c:=B^k) e;omega
theorem zj5{x y:K}(c:0<B)(h:x/B^(k+1)=y/B^(k+1))(hd:x/B^k%B=y/B^k%B):x/B^k=y/B^k:=by grind [Kd]
def J6(g:xj a)(h:xj b)(l:X a<=1000000)(n:X b<=1000000)(o:2000000<fu):uk fu a b=Z (kh (nw a:K) (nw b:K)):=by
 unfold uk;have e1:max (X a:J) (X b:J)=((max (X a) (X b):K):J):=lW
 rw[A,e1,zb];have t0:nw a/4294967296^(max (X a) (X b))=nw b/4294967296^(max (X a) (X b)):=by have h1:nw a<4294967296^(max (X a) (X b)):=xag (QG g)<|xam mD<|xew _ _;have d:nw b<4294967296^(max (X a) (X b)):=xag (QG h)<|xam mD<|xec _ _;rw[xbh h1,xbh d]
 have g1:∀k,a.getD k 0=nw a/4294967296^k%4294967296:=bu g;have c:∀k,b.getD k 0=nw b/4294967296^k%4294967296:=bu h;by_cases hc:nw a=nw b;rw[U (v:=.inl ())];rw[hc,kP O];refine zA (λi:J=>∃m:K,i=(m:J)-1/\m<=max (X a) (X b)) (λi=>(i+1).toNat) _ ?_ _ _ ⟨_,O,So _⟩ lW;rintro i L ⟨m,rfl,j⟩ f;unfold Y7;by_cases h0:m=0
 rw[zD];have e:(m:J)-1=((m-1:K):J):=lW
 rw[yg,e,U xK,U xK,g1,c,hc,zD,U xK,U xK,g1,c,hc,zD,zb];exact f _ ⟨m-1,O,lW⟩ lW
 rw[U (v:=.inr<|kh (nw a:K) (nw b:K))];refine zA (λi:J=>∃m:K,i=(m:J)-1/\m<=max (X a) (X b)/\nw a/4294967296^m=nw b/4294967296^m) (λi=>(i+1).toNat) _ ?_ _ _ ⟨_,O,So _,t0⟩ lW;rintro i L ⟨m,rfl,j,ht⟩ f;unfold Y7;by_cases h0:m=0
 subst h0;rw[xfe,xer,xer]at ht;exact wS ht hc;have e:(m:J)-1=((m-1:K):J):=lW
 have hd:nw a/4294967296^(m-1+1)=nw b/4294967296^(m-1+1):=by rw[(lW:m-1+1=m)];exact ht
 rw[yg,e,U xK,U xK];by_cases h1:a.getD (m-1) 0<b.getD (m-1) 0;rw[yg,qI];rw[g1,c]at h1;have:=zcE mD hd h1;omega;rw[zD,U xK,U xK];by_cases d:b.getD (m-1) 0<a.getD (m-1) 0;rw[yg,vJ];rw[g1,c]at d;have:=zcE mD hd.symm d;omega;rw[zD,zb];refine f _ ⟨m-1,O,lW,zj5 mD hd ?_⟩ lW;rw[<-g1,<-c];omega
theorem MX{x t:N K}{c:K}(ht:X t=i)(h:nw t+4294967296^i*c=nw (x.take i)+nw (y.take i)):
 nw (t++[(x.getD i 0+y.getD i 0+c)%4294967296])+4294967296^(i+1)*((x.getD i 0+y.getD i 0+c)/4294967296)=nw (x.take<|i+1)+nw (y.take<|i+1):=by grind [B0,kM,xbs]
def fL(d:zm a)(e:zm b)(q:X a<=200000)(r:X b<=200000)(u:2000000<fu):Vk fu a b=Z (yH<|nv a+nv b):=by
 unfold Vk;rw[U (xR d lW lW),U<|xR e lW lW];have l1:=Vq d;have w:=Vq e;have f:=qC<|nv a;have g:=qC<|nv b;have v1:=qO<|nv a;have l:=qO<|nv b;generalize Vg (nv a)=x at*
 generalize Vg (nv b)=y at*
 have⟨n,hn⟩:∃n,n=max (X x) (X y)+1:=⟨_,O⟩;have hd:nw x+nw y<4294967296^n:=by have h1:nw x<4294967296^(max (X x) (X y)):=xag (QG f)<|xam mD<|xew _ _;have z:nw y<4294967296^(max (X x) (X y)):=xag (QG g)<|xam mD<|xec _ _;rw[hn,xbw];omega
 rw[U (v:=kY n<|nw x+nw y)];rw[U (jM (qQ _ _) (by rw[yV];omega)<|by rw[yV];omega),XP,xao hd,v1,l];refine zA (λs:N K×K×J=>∃(t:N K) (c i:K),s=(t,c,(i:J))/\i<=n/\X t=i/\xj t/\c<=1/\nw t+4294967296^i*c=nw (x.take i)+nw (y.take i)) (λs=>n-s.2.2.toNat) _ ?_ _ _ ⟨[],0,0,O,lW,O,xj.nil,lW,by simp[nw]⟩ (by show n-0<fu;omega);rintro s L ⟨t,c,i,rfl,hi,ht,j,hc,hv⟩ m;unfold lK;simp only;have e1:max (X x:J) (X y:J)=((max (X x) (X y):K):J):=lW
 rw[A,e1,zb];by_cases h1:i<n;have b1:=f.getD i;have b2:=g.getD i;have o:((x.getD i 0+y.getD i 0)%18446744073709551616+c)%18446744073709551616=x.getD i 0+y.getD i 0+c:=lW
 rw[yg,U xK,U xK,A,A,A,C6,o,wM (by simp[ht];omega),A,A,DA,zb];refine m _ ⟨_,_,i+1,O,lW,by simp[ht],j.append<|xj.cons (xaN _ mD) xj.nil,lW,MX ht hv⟩ (by show n-((i:J)+1).toNat<n-(i:J).toNat;omega);rw[zD];obtain rfl:i=n:=lW
 rw[xaW lW,xaW lW]at hv;have hp:0<4294967296^i:=xaY mD;have p:c=0:=by
  obtain h|h:=xcs c
  exact h;have:4294967296^i*1<=4294967296^i*c:=xaE _ h;omega
 subst p;rw[xdo,xbM]at hv;rw[<-hv,<-ht,aZ j]
theorem Gf{x t:N K}{b D:K}(ht:X t=i)(c:D+y.getD i 0+b=x.getD i 0+4294967296)(h:nw t+nw (y.take i)=nw (x.take i)+4294967296^i*b)(d:D<8589934592):
 nw (t++[D%4294967296])+nw (y.take<|i+1)=nw (x.take<|i+1)+4294967296^(i+1)*(1-D/4294967296):=by
 rw[B0,ht,kM,kM,xbw];have hd:D/4294967296=0\/D/4294967296=1:=lW
 have e1:4294967296^i*(D%4294967296)+4294967296^i*y.getD i 0+4294967296^i*b+4294967296^i*4294967296*(D/4294967296)=4294967296^i*x.getD i 0+4294967296^i*4294967296:=by rw[xbl,<-xco,<-xco,<-xco,<-xco];grind
 grind
def cD{x:N K}(e:xj x)(f:xj y)(hl:X x<=1000000)(o:2000000<fu)(h:nw y<=nw x):Xn fu x y=Z (Vg<|nw x-nw y):=by
 unfold Xn;have p:=QG e;have g:nw (y.take (X x))=nw y:=by rw[NH f,xao lW]
 have c:∃t,xj t/\X t=X x/\nw t=nw x-nw y/\zg (JR fu x y) fu ([],0,0)=Z t:=by
  refine⟨kY (X x)<|nw x-nw y,qQ _ _,yV _ _,by rw[XP,xao lW],?_⟩;refine zA (λs:N K×K×J=>∃(t:N K) (b i:K),s=(t,b,(i:J))/\i<=X x/\X t=i/\xj t/\b<=1/\nw t+nw (y.take i)=nw (x.take i)+4294967296^i*b) (λs=>X x-s.2.2.toNat) _ ?_ _ _ ⟨[],0,0,O,lW,O,xj.nil,lW,by simp[nw]⟩ (by show X x-0<fu;omega);rintro s L ⟨t,b,i,rfl,hi,ht,d,q,hv⟩ j;unfold JR;simp only;by_cases h1:i<X x;have b1:=e.getD i;have b2:=f.getD i;have⟨D,hd⟩:∃D,D=x.getD i 0+4294967296-y.getD i 0-b:=⟨_,O⟩;have l:(((x.getD i 0+4294967296)%18446744073709551616+18446744073709551616-y.getD i 0)%18446744073709551616+18446744073709551616-b)%18446744073709551616=D:=lW
  have m:(1+18446744073709551616-D/2^32)%18446744073709551616=1-D/4294967296:=lW
  rw[yg,U xK,A,U xK,A,A,A,C6,l,wM (by simp[ht];omega),A,A,DA,A,m,zb];exact j _ ⟨_,_,i+1,O,lW,by simp[ht],d.append<|xj.cons (xaN _ mD) xj.nil,lW,Gf ht lW hv lW⟩ (by show X x-((i:J)+1).toNat<X x-(i:J).toNat;omega);rw[zD];obtain rfl:i=X x:=lW
  rw[g,xca]at hv;have n:=QG d;rw[ht]at n;have hc:b=0:=by
   obtain h|h:=xcs b
   exact h;have:4294967296^X x*1<=4294967296^X x*b:=xaE _ h;omega
  subst hc;rw[xdo,xbM]at hv;rw[(lW:nw x-nw y=nw t),<-ht,aZ d]
 have⟨t,k1,k2,k3,k4⟩:=c;rw[U k4,U (JE k1 lW lW),k3]
def JW(c:zm a)(d:zm b)(hd:X a<=200000)(j:X b<=200000)(e:2000000<fu):
 YY fu a b=Z (if nv a<nv b then([],1)else(yH<|nv a-nv b,0)):=by
 unfold YY;rw[U (xR c lW lW),U<|xR d lW lW];have l1:=Vq c;have l:=Vq d;have f:=qC<|nv a;have g:=qC<|nv b;rw[U<|J6 f g lW lW e,qO,qO];by_cases h:nv a<nv b;rw[qI lW,S mD,S h];have hc:¬kh ((nv a:K):J) ((nv b:K):J)<0:=by
  rcases xbS (nv b) (nv a)with h|h
  rw[vJ lW];decide;rw[kP lW];decide
 have m:X (Vg<|nv a-nv b)<=2*X a:=by rw[va,CF];exact xaK (xfd _ _)<|vn c
 rw[ir hc,ir h,U (cD f g lW e<|by rw[qO,qO];omega),qO,qO,U (jM (qC _) lW lW),qO]
def xf{z:M}(h:zm z.2)(hl:X z.2<=200000)(c:3000000<=fu):xc fu z=Z (yG<|zv z):=VZ h lW lW
def EB(s:v6)(n:K):zv (s,yH n)=if s=wL then-(n:J)else(n:J):=by unfold zv;rw[zV]
def DK{z:M}(h:iU z)(c:3000000<=fu):KP fu z=Z (yG (-zv z)):=by
 unfold KP;have:=h.2;rw[U<|xf (z:=(!z.1,z.2)) h.1 (by show X z.2<=_;omega) c];rcases xX z with⟨h1,d⟩|⟨h1,d⟩
 skip;unfold zv;simp[h1];skip;unfold zv;simp[h1]
theorem gw{a b:M}(g:iU a)(h:iU b)(j:3000000<=fu):VD fu a b=Z (yG<|zv a+zv b):=by
 unfold VD;have l:=g.2;have m:=h.2;have n:X (yH<|nv a.2+nv b.2)<=100001:=uX (xal (xd g.1) l)<|xal (xd h.1) m;rw[A];by_cases d:a.1=b.1;rw[S (by simp[d]),U (fL g.1 h.1 lW lW lW),U<|xf (z:=(a.1,yH<|nv a.2+nv b.2)) (zt _) (by show(yH _).length<=_;omega) j,EB];rcases xX a with⟨h1,e⟩|⟨h1,e⟩<;>rcases xX b with⟨c,f⟩|⟨c,f⟩
 grind;simp_all;simp_all;rw[h1,e,f,ir mD];congr 2;rw[ir (by simp[d]),U<|JW g.1 h.1 lW lW lW];by_cases hc:nv a.2<nv b.2;have hd:X (yH<|nv b.2-nv a.2)<=100000:=xal (J5<|xfd _ _)<|xal (xd h.1) m;rw[S hc];simp only;rw[ir mD,U (JW h.1 g.1 lW lW lW),zD];simp only;rw[U<|xf (z:=(b.1,yH<|nv b.2-nv a.2)) (zt _) (by show(yH _).length<=_;omega) j,EB];rcases xX a with⟨h1,e⟩|⟨h1,e⟩<;>rcases xX b with⟨c,f⟩|⟨c,f⟩
 rw[h1,c]at d;exact wS O d;rw[c,e,f,ir mD];congr 2;omega;rw[c,e,f,S O];congr 2;omega;rw[h1,c]at d;exact wS O d;have hd:X (yH<|nv a.2-nv b.2)<=100000:=xal (J5<|xfd _ _)<|xal (xd g.1) l;rw[ir hc];simp only;rw[S wR,U<|xf (z:=(a.1,yH<|nv a.2-nv b.2)) (zt _) (by show(yH _).length<=_;omega) j,EB];rcases xX a with⟨h1,e⟩|⟨h1,e⟩<;>rcases xX b with⟨c,f⟩|⟨c,f⟩
 rw[h1,c]at d;exact wS O d;rw[h1,e,f,S O];congr 2;omega;rw[h1,e,f,ir mD];congr 2;omega;rw[h1,c]at d;exact wS O d
def VW{z:M}(h:iU z)(d:3000000<=fu):ZE fu z=Z (kh (zv z) 0):=by
 unfold ZE;have:=h.2;rw[U<|xf h.1 lW d];by_cases h1:zv z<0;rw[S<|(QU _).2 h1,qI h1];rw[ir<|λe=>h1<|(QU _).1 e];by_cases c:zv z=0
 rw[ir<|λe=>Cc.1 e c,kP c];rw[S<|Cc.2 c,vJ lW]
def b6{a b:M}(c:iU a)(d:iU b)(e:3000000<=fu):YM fu a b=Z (yG<|zv a*zv b):=by have:=c.2;have:=d.2;exact C0 c.1 d.1 lW lW lW
end
section
variable{b v1 v0 u w q r fu y s lo:wr}
theorem zgb(a:q*v1+r=u)(h:q*v0<=b*r+w):q*(v1*b+v0)<=u*b+w:=by grind [xco,xbl,xbi,xaS]
theorem zc3(a:q*v1+r=u)(h:b*r+w<q*v0):u*b+w<q*(v1*b+v0):=by grind [xco,xbl,xbi,xaS]
def sP(hv:0<v1*b+v0)(a:q*v1+r=u)(hc:(u*b+w)/(v1*b+v0)<=q:=by lia)(h:q*v0<=b*r+w:=by lia):q=(u*b+w)/(v1*b+v0):=
 xcF ((xct hv).2<|zgb a h) hc
theorem zhM(hv:0<v1*b+v0)(a:q*v1+r=u)(h:b*r+w<q*v0):(u*b+w)/(v1*b+v0)<=q-1/\0<q/\(q-1)*v1+(r+v1)=u:=by
 have h0:0<q:=by
  obtain h0|h0:=xcs q
  simp_all;exact h0
 have h1:=(xaX hv).2<|zc3 a h;obtain⟨p,rfl⟩:∃p,q=p+1:=⟨q-1,W⟩;grind
theorem zab(a:u<v1*b+v0)(c:v0<b)(hc:q*v1+r=u)(d:b<=r):q<b:=by refine xdp λh=> ?_;have:b*v1<=q*v1:=xaj _ h;grind
def S8(a:q<b)(c:v0<b)(d:b<=r):q*v0<=b*r+w:=by have h1:=xcf (xdC a)<|xdC c;have e:b*b<=b*r:=xaE _ d;lia
theorem aQ(a:u<v1*b+v0)(c:w<b:=by lia):(u*b+w)/(v1*b+v0)<b:=by
 have hv:0<v1*b+v0:=W
 rw[xaX hv];have:(u+1)*b<=(v1*b+v0)*b:=xaj _ a;grind
def ED{β:Type}(mk:K->K->β)(ms:β->K)(hc:∀q r,ms (mk q r)=2-r/2147483648){f:(β->V K)->β->V K}(h1:2147483648<=v1)(z:v1<4294967296)(h0:v0<4294967296)(g:u<v1*4294967296+v0)(l:w<4294967296)(B:10<fu)(m:∀(q r:K) (L:β->V K),q<18446744073709551616->r<4294967296->q*v0<18446744073709551616\/4294967296<=q->
 f L (mk q r)=if 4294967296<=q then(if 4294967296<=r+v1 then Z (q-1)else L (mk (q-1)<|r+v1))else if 4294967296*r+w<q*v0 then(if 4294967296<=r+v1 then Z (q-1)else L (mk (q-1)<|r+v1))else Z q):
 zg f fu (mk (u/v1)<|u%v1)=Z ((u*4294967296+w)/(v1*4294967296+v0)):=by
 have hv:0<v1*4294967296+v0:=W
 have C:=aQ g l;have hi:u/v1<18446744073709551616:=by rw[xaX W];lia
 refine zA (λs:β=>∃q r,s=mk q r/\q<18446744073709551616/\r<4294967296/\q*v1+r=u/\(u*4294967296+w)/(v1*4294967296+v0)<=q) ms _ ?_ _ _ ⟨_,_,O,hi,?_,?_,?_⟩<|by rw[hc];lia
 rintro s L ⟨q,r,rfl,n,o,i,t⟩ j;have v:q*v0<18446744073709551616\/4294967296<=q:=by
  obtain h|h:=xbS q 4294967296
  left;exact xci (a:=q) (b:=v0) (c:=4294967296) (d:=4294967296) h h0;exact .inr h
 rw[m q r L n o v];by_cases k:4294967296<=q;rw[S k];have hd:(q-1)*v1+(r+v1)=u:=by obtain⟨p,rfl⟩:∃p,q=p+1:=⟨q-1,W⟩;rw[xbi]at i;simp only[Nat.add_sub_cancel];lia
 by_cases e:4294967296<=r+v1;rw[S e,<-sP hv hd W<|S8 (zab g h0 hd e) h0 e];rw[ir e];exact j _ ⟨_,_,O,W,W,hd,W⟩<|by rw[hc,hc];lia
 rw[ir k];by_cases ht:4294967296*r+w<q*v0;have⟨d1,d2,d3⟩:=zhM hv i ht;rw[S ht];by_cases e:4294967296<=r+v1;rw[S e,<-sP hv d3 d1<|S8 (zab g h0 d3 e) h0 e];rw[ir e];exact j _ ⟨_,_,O,W,W,d3,d1⟩<|by rw[hc,hc];lia
 rw[ir ht,<-sP hv i t];have:=xaN u (W:0<v1);lia;rw[xaS];exact xbs u v1;rw[xct W];have x:(u*4294967296+w)/(v1*4294967296+v0)*(v1*4294967296+v0)<=u*4294967296+w:=xcG _ _;generalize(u*4294967296+w)/(v1*4294967296+v0)=Q at*
 rw[xco,<-xbl]at x;generalize Q*v1=A at*
 lia
theorem MC{x:K}(h:y<2^s):x*2^s|||y=x*2^s+y:=by grind [xaS,Nat.two_pow_add_eq_or_of_lt]
def SK(h0:0<y)(h:y<18446744073709551616):bl y<=64/\9223372036854775808<=y*2^(64-bl y)/\y*2^(64-bl y)<18446744073709551616:=by
 have h1:=af (k:=64) (by simpa using h);have a:=DG y;refine⟨h1,?_,?_⟩;have hp:1<=bl y:=by rw[dI h0];lia
 have c:2^(bl y-1)<=y:=by refine xbx λhc=> ?_;have:=af hc;lia
 have e:9223372036854775808=2^(bl y-1)*2^(64-bl y):=by rw[<-xbj,(W:bl y-1+(64-bl y)=63)]
 rw[e];exact xaj _ c;have e:18446744073709551616=2^bl y*2^(64-bl y):=by rw[<-xbj,(W:bl y+(64-bl y)=64)]
 rw[e];exact xbO a<|xaY mD
def RA(a:lo<18446744073709551616)(c:s<=64):lo*2^s=lo/2^(64-s)*18446744073709551616+lo*2^s%18446744073709551616/\lo/2^(64-s)<2^s:=by
 have e:18446744073709551616=2^(64-s)*2^s:=by rw[<-xbj,(W:64-s+s=64)]
 have hp:0<2^s:=xaY mD;have d:lo*2^s/18446744073709551616=lo/2^(64-s):=by rw[e,xfG _ _ hp]
 refine⟨W,?_⟩;rw[xaX (xaY mD),xaS,<-e];exact a
theorem nC{x w1 w0:K}(a:0<y)(c:0<b)(d:w0<b):((x*b+w1)*b+w0)/y=(x*b+w1)/y*b+((x*b+w1)%y*b+w0)/y/\((x*b+w1)*b+w0)%y=((x*b+w1)%y*b+w0)%y:=by
 generalize x*b+w1=X;have h:=xbs X y;have e:X*b+w0=X%y*b+w0+y*(X/y*b):=by grind
 rw[e];constructor;rw[xcz _ _ a];lia;simp_all
def zpW{a:K}(c:a<4294967296)(d:b<4294967296):(a*4294967296%18446744073709551616+b)%18446744073709551616=a*4294967296+b:=W
theorem ky{x:K}(a:x<18446744073709551616):xI fu x=Z ((64-bl x:K):J):=by unfold xI;have h:=af (k:=64) (by simpa using a);rw[U<|jj a,zb];grind
def VG{hi:K}(hn:lo<18446744073709551616)(F:y<18446744073709551616)(P:hi<y)(G:10<fu):
 qZ fu hi lo y=Z ((hi*18446744073709551616+lo)/y,(hi*18446744073709551616+lo)%y):=by
 unfold qZ;rw[zD,zD];by_cases h0:hi=0
 subst h0;rw[S O,y8,ze,y8,ze,xcC,xaJ];rw[zD,U<|ky F];have⟨n1,n2,l⟩:=SK (y:=y) W F;have⟨s,Q⟩:∃s,s=64-bl y:=⟨_,O⟩;rw[<-Q]at n2 l⊢;have R:s<=64:=W
 have T:ET (s:J)=s:=by have:=Eh (x:=(s:J)) W W;lia
 have em:min (s:J).toNat 64=s:=W
 have e8:(64+18446744073709551616-s)%18446744073709551616=64-s:=W
 have n:min (((64-s:K):K):J).toNat 64=64-s:=W
 have⟨Y,c⟩:∃Y,Y=y*2^s:=⟨_,O⟩;rw[<-c]at n2 l;have⟨w1,w2⟩:=RA hn R;have hp:0<2^s:=xaY mD;have hz:hi*2^s+2^s<=Y:=by have:(hi+1)*2^s<=y*2^s:=xaj _ P;rw[xbi,xcP]at this;rw[c];exact this
 simp only[nm,T,em,e8,n,C6,DA];rw[<-c,xao l,xao (W:hi*2^s<18446744073709551616),MC w2];have⟨u,o⟩:∃u,u=hi*2^s+lo/2^(64-s):=⟨_,O⟩;have⟨t,ht⟩:∃t,t=lo*2^s%18446744073709551616:=⟨_,O⟩;have hv:t<18446744073709551616:=by rw[ht];exact xaN _ mD
 rw[<-o,<-ht];have hd:u<Y:=W
 have ho:(hi*18446744073709551616+lo)*2^s=u*18446744073709551616+t:=by rw[xbi,w1,o,<-ht,xbi,Nat.mul_right_comm];lia
 have e:Y=Y/4294967296*4294967296+Y%4294967296:=W
 have H:2147483648<=Y/4294967296:=W
 have M:Y/4294967296<4294967296:=W
 have a0:Y%4294967296<4294967296:=W
 have step:∀{u w:K},u<Y->w<4294967296->(u*4294967296+w)/(Y/4294967296*4294967296+Y%4294967296)=(u*4294967296+w)/Y:=by intro u w _ _;rw[<-e]
 have ew:Y/2^32=Y/4294967296:=O;have et:t/2^32=t/4294967296:=O;rw[ew,et,y8];have f:∀{u:K},u<Y->(u+18446744073709551616-u/(Y/4294967296)*(Y/4294967296)%18446744073709551616)%18446744073709551616=u%(Y/4294967296):=by
  intro u o;have h1:=xbs u<|Y/4294967296;rw[xaS]at h1;have p:u/(Y/4294967296)*(Y/4294967296)<=u:=W
  rw[xao (W:u/(Y/4294967296)*(Y/4294967296)<18446744073709551616)];lia
 have body:∀{q r w:K},q<18446744073709551616->r<4294967296->w<4294967296->(q*(Y%4294967296)<18446744073709551616\/4294967296<=q)->∀(A B C:V K),(4294967296<=r+Y/4294967296->A=Z (q-1))->(¬4294967296<=r+Y/4294967296->A=B)->C=Z q->
  (if((4294967296:K):J)<=(q:J)then A else if(((4294967296*r%18446744073709551616+w)%18446744073709551616:K):J)<((q*(Y%4294967296)%18446744073709551616:K):J)then A else C)=
  if 4294967296<=q then(if 4294967296<=r+Y/4294967296 then Z (q-1)else B)else if 4294967296*r+w<q*(Y%4294967296)then(if 4294967296<=r+Y/4294967296 then Z (q-1)else B)else Z q:=by
  intro q r w d k hw g A B C h1 p h3;have hA:A=if 4294967296<=r+Y/4294967296 then Z (q-1)else B:=by
   split
   next h=>exact h1 h
   next h=>exact p h
  rw[<-hA,h3];by_cases v:4294967296<=q;rw[yg,S v];have e3:(q*(Y%4294967296))%18446744073709551616=q*(Y%4294967296):=xao<|g.resolve_right v;have e4:(4294967296*r%18446744073709551616+w)%18446744073709551616=4294967296*r+w:=W
  rw[zD,ir v,e3,e4];by_cases N:4294967296*r+w<q*(Y%4294967296);rw[yg,S N];rw[zD,ir N]
 have L0:zg (jB fu (Y/4294967296) (Y%4294967296)<|t/4294967296) fu (u/(Y/4294967296),u%(Y/4294967296))=Z ((u*4294967296+t/4294967296)/Y):=by
  rw[<-step hd (by lia:t/4294967296<4294967296)];refine ED (λq r=>(q,r)) (λs=>2-s.2/2147483648) (λ_ _=>O) (w:=t/4294967296) H M a0 (by rw[<-e];exact hd) W G ?_;intro q r L d k g;have e1:(r+Y/4294967296)%18446744073709551616=r+Y/4294967296:=W
  by_cases hc:q=0
  subst hc;unfold jB;simp only[nm,xcC,Nat.zero_mod];rw[zD,zD,zD,zD]
  have z:(q+18446744073709551616-1)%18446744073709551616=q-1:=W
  refine Eq.trans ?_<|body d k W g (if 4294967296<=r+Y/4294967296 then Z (q-1)else L (q-1,r+Y/4294967296)) _ _ (λh=>S h) (λh=>ir h) O;unfold jB;simp only[nm,e1,z];have D:∀(X:V K),(if((4294967296:K):J)<=((r+Y/4294967296:K):J)then Z (q-1)else X)=if 4294967296<=r+Y/4294967296 then Z (q-1)else X:=by intro X;by_cases h:4294967296<=r+Y/4294967296;rw[yg,S h];rw[zD,ir h]
  rw[D]
 have i:∀{x q:K},x/Y=q->∀{m:K},m=x%18446744073709551616->(m+18446744073709551616-q*Y%18446744073709551616)%18446744073709551616=x%Y:=by intro x q d m hm;have h1:=xbs x Y;rw[d,xaS]at h1;have p:=xaN x (W:0<Y);lia
 rw[f hd,U L0,i O (x:=u*4294967296+t/4294967296) W];have⟨a,E⟩:∃a,a=(u*4294967296+t/4294967296)%Y:=⟨_,O⟩;have j:a<Y:=by rw[E];exact xaN _ W
 rw[<-E,y8,f j];have L1:zg (jG fu (Y/4294967296) (Y%4294967296)<|t%4294967296) fu (a%(Y/4294967296),a/(Y/4294967296))=Z ((a*4294967296+t%4294967296)/Y):=by
  rw[<-step j (by lia:t%4294967296<4294967296)];refine ED (λq r=>(r,q)) (λs=>2-s.1/2147483648) (λ_ _=>O) (w:=t%4294967296) H M a0 (by rw[<-e];exact j) W G ?_;intro q r L d k g;have e1:(r+Y/4294967296)%18446744073709551616=r+Y/4294967296:=W
  by_cases hc:q=0
  subst hc;unfold jG;simp only[nm,xcC,Nat.zero_mod];rw[zD,zD,zD,zD]
  have z:(q+18446744073709551616-1)%18446744073709551616=q-1:=W
  refine Eq.trans ?_<|body d k W g (if 4294967296<=r+Y/4294967296 then Z (q-1)else L (r+Y/4294967296,q-1)) _ _ (λh=>S h) (λh=>ir h) O;unfold jG;simp only[nm,e1,z];have D:∀(X:V K),(if((4294967296:K):J)<=((r+Y/4294967296:K):J)then Z (q-1)else X)=if 4294967296<=r+Y/4294967296 then Z (q-1)else X:=by intro X;by_cases h:4294967296<=r+Y/4294967296;rw[yg,S h];rw[zD,ir h]
  rw[D]
 rw[U L1,i O (x:=a*4294967296+t%4294967296) W];have hl:=aQ (b:=4294967296) (v1:=Y/4294967296) (v0:=Y%4294967296) (u:=u) (w:=t/4294967296) (by rw[<-e];exact hd);rw[step hd W]at hl;have hc:=aQ (b:=4294967296) (v1:=Y/4294967296) (v0:=Y%4294967296) (u:=a) (w:=t%4294967296) (by rw[<-e];exact j);rw[step j W]at hc;have⟨k1,k2⟩:=nC (x:=u) (b:=4294967296) (y:=Y) (w1:=t/4294967296) (w0:=t%4294967296) W mD W;rw[<-E]at k1 k2;have eU:(u*4294967296+t/4294967296)*4294967296+t%4294967296=(hi*18446744073709551616+lo)*2^s:=by rw[ho];lia
 rw[eU,c,xfG _ _ hp,<-c]at k1;rw[eU,c,xei,<-c]at k2;rw[k1,<-k2,Nat.mul_div_cancel _ hp];rw[zpW hl hc]
end
section
variable{fu s:wr}{a:xS wr}
def zbf{m x:K}{l:N K}:(Nm (m+1) 0++l).set m x=Nm m 0++(x::l):=by rw[List.replicate_succ'];simp_all
def HK(k n:K):vu (k+1) n=n%18446744073709551616::vu k (n/18446744073709551616):=O
def rY{q r:K}(h:r<18446744073709551616):(q*18446744073709551616+r)%18446744073709551616=r/\(q*18446744073709551616+r)/18446744073709551616=q:=W
theorem tj(A m:K):A/18446744073709551616^m=A/18446744073709551616^(m+1)*18446744073709551616+A/18446744073709551616^m%18446744073709551616:=by grind [Kd]
def CT{x:K}(c:zm a)(i:x<18446744073709551616)(h0:0<x)(hl:X a<=1000000)(o:2000000<fu):KY fu a x=Z (yH<|nv a/x,nv a%x):=by
 unfold KY;rw[yI,y8,A,zb];have f:=vn c;have d:zg (UB fu a x) fu (0,(X a:J)-1,Nm (X a) 0)=Z (nv a%x,vu (X a)<|nv a/x):=by
  refine zA (λs:K×J×N K=>∃m:K,m<=X a/\s=(nv a/18446744073709551616^m%x,(m:J)-1,Nm m 0++vu (X a-m) (nv a/18446744073709551616^m/x))) (λs=>(s.2.1+1).toNat) _ ?_ _ _ ⟨X a,So _,?_⟩ (by show((X a:J)-1+1).toNat<fu;lia);rintro s L ⟨m,p,rfl⟩ j;unfold UB;simp only
  cases m with
  |zero=>
   simp_all
  |succ m=>
   have e:((m+1:K):J)-1=(m:J):=W
   have hc:=c.getD m;have hd:nv a/18446744073709551616^(m+1)%x<x:=xaN _ h0;have k:a.getD m 0=nv a/18446744073709551616^m%18446744073709551616:=KZ c m;have g:=tj (nv a) m;rw[<-k]at g;rw[yg,e,yo,A,U<|VG hc i hd W];have⟨k1,k2⟩:=nC (x:=0) (b:=18446744073709551616) (y:=x) (w1:=nv a/18446744073709551616^(m+1)) (w0:=a.getD m 0) h0 mD hc;rw[xcC,xaJ,<-g]at k1 k2;rw[zn (by simp;lia),A,zb,zbf,<-k2];refine j _ ⟨m,W,?_⟩ (by show((m:J)-1+1).toNat<(((m+1:K):J)-1+1).toNat;lia);have h:(nv a/18446744073709551616^(m+1)%x*18446744073709551616+a.getD m 0)/x<18446744073709551616:=by rw[xaX h0];have:(nv a/18446744073709551616^(m+1)%x+1)*18446744073709551616<=x*18446744073709551616:=xaj _ hd;rw[xaS 18446744073709551616 x];lia
   have l:X a-m=(X a-(m+1))+1:=W
   rw[k1,l,HK];congr 3;rw[(rY h).1,(rY h).2]
  rw[xbh f,Nat.zero_div,Nat.zero_mod,xcE];simp[vu]
 rw[U d];have n:nv a/x<18446744073709551616^X a:=xaK (xcD _ _) f;simp only;rw[U (xm (wq _ _) (by rw[zZ];lia)<|by rw[zZ];lia),kV,xao n]
def HH(b:s<=64):(18446744073709551616:K)=2^(64-s)*2^s:=by rw[<-xbj,(W:64-s+s=64)]
theorem N6{y c:K}(f:y<18446744073709551616)(d:s<64)(hc:c<2^s):y*2^s%18446744073709551616|||c=(y*2^s+c)%18446744073709551616/\y/2/2^(63-s)=(y*2^s+c)/18446744073709551616/\(y*2^s+c)/18446744073709551616<2^s:=by
 have⟨w1,h⟩:=RA f<|xdC d;have hp:0<2^s:=xaY mD;have e:=HH<|xdC d;have b:y*2^s%18446744073709551616=y%2^(64-s)*2^s:=by rw[e,xei]
 have h1:y%2^(64-s)*2^s+2^s<=18446744073709551616:=by rw[e];have:=xaj (2^s)<|xaN y<|xaY (n:=64-s) (mD:0<2);grind
 have g:y/2/2^(63-s)=y/2^(64-s):=by rw[xaD,(lM:64-s=63-s+1),xbw,xaS 2]
 refine⟨?_,?_,?_⟩;rw[b,MC hc];rw[b]at w1;generalize y%2^(64-s)*2^s=A at*
 generalize y*2^s=i at*
 generalize y/2^(64-s)=W at*
 lia;rw[g];rw[b]at w1;generalize y%2^(64-s)*2^s=A at*
 generalize y*2^s=i at*
 generalize y/2^(64-s)=W at*
 lia;rw[b]at w1;generalize y%2^(64-s)*2^s=A at*
 generalize y*2^s=i at*
 generalize y/2^(64-s)=W at*
 lia
def mG{a:N K}{s:K}(b:zm a)(c:s<64):∀k,(vH (dU a<|2^s) k).2<2^s
 |0=>xaY mD
 |k+1=>(N6 (b.getD k) c<|mG b c k).2.2
def Hi:(2:K)^64=18446744073709551616:=mD
def QQ{n:K}(b:zm a)(hl:X a<=1000000:=by lia)(hn:n<=262144:=by lia)(j:2000000<fu:=by lia):X7 fu a (n:J)=Z (yH<|nv a*2^n,0):=by
 unfold X7;have⟨s,l⟩:∃s,s=n%64:=⟨_,O⟩;have hd:s<64:=W
 rw[zD,zD,U<|jU (step:=dU a<|2^s) W W ?_];have m:=mG b hd (X a);have d:2^s<18446744073709551616:=by rw[<-Hi];exact xfO mD hd
 have e1:xdx (n:J) 64=((n/64:K):J):=O;simp only;rw[wM (by have:=wz (dU a<|2^s) (X a);simp[this];lia),A,wM mD,e1,zb,R4 W];rw[U (JT W<|by rw[zZ];lia),U (xm ((zm.replicate _).append<|wq _ _) (by simp[zZ];lia)<|by simp[zZ];lia),CN,kV,xao<|Eb b d];congr 3;rw[<-Hi,<-xcg,xaS<|2^_,xbl,<-xbj];congr 2;lia;intro k c;have hc:=mG b hd k;have⟨l1,e,o⟩:=N6 (b.getD k) hd hc;unfold gB;have e1:xcB (n:J) 64=((n%64:K):J):=O;have f:min (((1:K):J)).toNat 64=1:=mD
 have g:min ((n%64:K):J).toNat 64=s:=W
 have h:(63:J)-((n%64:K):J)=((63-s:K):J):=W
 have i:min ((63-s:K):J).toNat 64=63-s:=W
 rw[zn c,A,wM mD,A,e1,y8,A,g,A,zn c,A,A,f,wM mD,A,h,zb,y8,A,i,l1];rw[show(2:K)^1=2 from O,e];rfl
def HZ{step:K->K->K×K}{X:K}(h:∀k,step k 0=(X/18446744073709551616^k%18446744073709551616,0)):∀n,vH step n=(vu n X,0)
 |0=>rfl
 |n+1=>by
  have b:=HZ h n;unfold vH;rw[b,h,aa]
def zgT{A k:K}(f:s<64):A/18446744073709551616^k%18446744073709551616/2^s|||A/18446744073709551616^(k+1)%18446744073709551616*2%18446744073709551616*2^(63-s)%18446744073709551616=A/2^s/18446744073709551616^k%18446744073709551616:=by
 have e:=HH<|xdC f;have hp:0<2^s:=xaY mD;have j:0<2^(64-s):=xaY mD;have h1:=tj A k;have e0:A/18446744073709551616^(k+1)=A/18446744073709551616^k/18446744073709551616:=by rw[xbw,xaD]
 rw[xaD,xaS<|2^s,<-xaD];rw[e0]at h1⊢;generalize A/18446744073709551616^k=X at*
 have e1:X/18446744073709551616%18446744073709551616*2%18446744073709551616*2^(63-s)%18446744073709551616=X/18446744073709551616%2^s*2^(64-s):=by
  rw[Nat.mod_mul_mod,xbl,<-xdQ,(W:(63-s).succ=64-s)];rw[Nat.mod_mul_mod];generalize X/18446744073709551616=V;conv=>lhs;rw[e,xaS (2^(64-s))<|2^s]
  rw[xei]
 have g:X%18446744073709551616/2^s<2^(64-s):=by rw[xaX hp,<-e];exact xaN _ mD
 rw[e1,Nat.or_comm,MC g];have b:X/2^s=X/18446744073709551616*2^(64-s)+X%18446744073709551616/2^s:=by
  have c:=xbs X 18446744073709551616;have h:X=X%18446744073709551616+2^s*(X/18446744073709551616*2^(64-s)):=by
   have:2^s*(X/18446744073709551616*2^(64-s))=18446744073709551616*(X/18446744073709551616):=by rw[e,xaS<|X/_,<-xbl,xaS<|2^s]
   lia
  conv=>lhs;rw[h]
  rw[xcz _ _ hp];lia
 rw[b];have d:X/18446744073709551616*2^(64-s)=X/18446744073709551616%2^s*2^(64-s)+18446744073709551616*(X/18446744073709551616/2^s):=by
  have c:=xbs (X/18446744073709551616)<|2^s;conv=>lhs;rw[<-c]
  rw[xbi,e,xaS (2^(64-s))<|2^s,xbl,xbl,xaS (2^(64-s))<|_/_];lia
 have l:X/18446744073709551616%2^s*2^(64-s)+2^(64-s)<=18446744073709551616:=by generalize X/18446744073709551616=V;rw[e,xaS (2^(64-s))<|2^s];have:=xaj (2^(64-s))<|xaN V hp;rw[xeB]at this;exact this
 have i:X/18446744073709551616%2^s*2^(64-s)+X%18446744073709551616/2^s<18446744073709551616:=by
  clear d b e1 e0 h1;generalize X/18446744073709551616%2^s*2^(64-s)=m at*
  generalize X%18446744073709551616/2^s=V at*
  lia
 rw[d,Nat.add_right_comm,xcn,xao i]
theorem n8{n:K}(b:zm a)(hl:pM a<=1000000)(hn:n<=1000000000)(q:2000000<fu):UF fu a (n:J)=Z (yH<|nv a/2^n):=by
 unfold UF;have e0:max (n:J) 0=(n:J):=W
 have e1:xdx (n:J) 64=((n/64:K):J):=O;have e:xcB (n:J) 64=((n%64:K):J):=O;have f:=vn b;have hc:2^n=18446744073709551616^(n/64)*2^(n%64):=by rw[<-Hi,<-xcg,<-xbj];grind
 rw[A,e0,wM mD,e1,zb];by_cases h:pM a<=n/64;rw[yg];have:nv a/2^n=0:=by rw[hc,<-xaD,xbh<|xag f<|xam mD h,Nat.zero_div]
 rw[this];rfl;rw[zD,wM mD,zb,yI,y8,A,wM mD,A,e];have hd:=b.drop<|n/64;have hv:nv (a.drop<|n/64)=nv a/18446744073709551616^(n/64):=NS b _;have⟨D,c⟩:∃D,D=a.drop (n/64):=⟨_,O⟩;rw[<-c]at hd hv⊢;have r:pM D<=1000000:=by rw[c,xch];lia
 have⟨s,d⟩:∃s,s=n%64:=⟨_,O⟩;have g:s<64:=W
 have jz:=HZ (step:=λk _=>(nv D/2^s/18446744073709551616^k%18446744073709551616,0)) (X:=nv D/2^s)<|λ_=>O;rw[<-d,U<|jU (step:=λk _=>(nv D/2^s/18446744073709551616^k%18446744073709551616,0)) W W ?_];rw[jz];simp only;rw[U (xm (wq _ _) (by rw[zZ];lia)<|by rw[zZ];lia),kV,xao<|xaK (xcD _ _)<|vn hd,hv,hc,<-xaD,d];intro k i;rw[jz];unfold eY;have j:min (((1:K):J)).toNat 64=1:=mD
 have l:min (s:J).toNat 64=s:=W
 have m:(63:J)-(s:J)=((63-s:K):J):=W
 have o:min ((63-s:K):J).toNat 64=63-s:=W
 have p:(k:J)+1=((k+1:K):J):=W
 rw[zn i,A,y8,A,l,p,zb,U (Vj D W),A,j,m,zb,y8,A,o,A,KZ hd,KZ hd,show(2:K)^1=2 from O,zgT g]
end
end Go.Proofs.YtoegnnjcmlghhaaGreat
