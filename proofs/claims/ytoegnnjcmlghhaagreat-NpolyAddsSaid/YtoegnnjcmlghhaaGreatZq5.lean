/- What a proof needs: rules of walking, mirrors of functions and their plain laws. No condition. -/
import Derived.Test.YtoegnnjcmlghhaaGreatZq4
set_option linter.all false
namespace Go.Proofs.YtoegnnjcmlghhaaGreat
open Bool renaming false->I,true->wT
open Go renaming Value->wW,World->qR,TypeId->kW,execOp->uP,undef->Z9,Oper->Xs,Tmp->Wf,Code->Wn,resolve->WN,Func->WT,invoke->V1,results->V4,eqGuard->V5,Act->V6,maxLen->QR,builtin->UT,Calls->aM,wpOpsSIn->cO,madeCells->lm,callsDIn_of_wpSIn->lC,recoverD->mD
open Go.Proofs.YtoegnnjcmlghhaaGreat renaming bd->G,za->Y,Zr->U,nm->B,Qr->D,ze->F,iq->Q,zf->A,ir->S
open List renaming length->X,length->Ap
open Nat renaming beq->R
open Option renaming some->Z,none->wS
open _root_ renaming rfl->O,List->N,Int->J,Nat->K,Option->V,List->ww,Int->wF,Nat->wL,Option->wN,absurd->jp,trivial->jP,Bool->ut,Array->Z3,Unit->Wd,True->Wr,reduceCtorEq->WR,and_true->gT
open Ending renaming returned->xeu
open Int renaming fdiv->xfW,tdiv->xdv,tmod->xcB
open Lib renaming bitLen->xfu
open List renaming drop_eq_getElem_cons->xbX,getD_cons_succ->xds,replicate->So,take_add_one->xeV,take_append_drop->xbG,take_of_length_le->xaW
open Nat renaming add_mul->xbk,div_add_mod->xbu,div_div_eq_div_mul->xaF,lt_of_lt_of_le->xag,mod_add_div->xev,mod_eq_of_lt->xap,mul_add->xcp,mul_assoc->xbn,mul_comm->xaS,mul_left_comm->xfw,pow_add->xbg,pow_le_pow_right->xam,pow_mul->xcg,pow_succ->xbA,strongRecOn->xdz
open Sum renaming elim->xfi
open _root_.Array renaming replicate->xdh
def Ws:=@decide_eq_true
def Ww:=@decide_eq_false
def xaG:=@Nat.mul_le_mul_left
def xaY:=@Nat.pow_pos
def xak:=@Classical.byContradiction
def xbN:=@Nat.mul_lt_mul_of_pos_right
def xbO:=@Int.pow_succ
def xbS:=@Nat.mul_lt_mul''
def xbj:=@Nat.div_eq_of_lt
def xcf:=@Nat.mul_le_mul
def xcl:=@Nat.min_eq_left
def xco:=@Nat.add_mul_mod_self_left
def xcw:=@Int.natAbs_mul
def xcz:=@Nat.add_mul_div_left
def xdD:=@Nat.two_pow_pos
def xdQ:=@Nat.pow_succ'
def xdo:=@Nat.mul_zero
def xdp:=@Nat.lt_of_not_le
def xdx:=@List.mem_or_eq_of_mem_set
def xeF:=@Nat.mul_one
def xeL:=@Int.natAbs_neg
def xea:=@Nat.le_max_right
def xer:=@Nat.div_one
def xew:=@Nat.le_max_left
def xfK:=@List.mem_of_mem_drop
def xfc:=@Nat.sub_le
def xfd:=@Nat.pow_zero
def xfq:=@Nat.eq_zero_of_not_pos
section
set_option maxRecDepth 100000
section
variable(fu:wL)
def GI:rX (N D) (N D):=λL a=>if 0<(X a:J)then A ((X a:J)-1) λd=>zD d (X a) λe=>B (a.getD e<|((I,[]),[])) λf=>G (Vg fu f) λg=>if g=0 then A ((X a:J)-1) λh=>jt h λb=>ck (b<=X a)<|B (a.take b) λi=>L i else Z a else Z a
def dZ(a:N D):V (N D):=G (zg (GI fu) fu a) λt3=>Z t3
def Bf(d e:D):V (D×J):=G (wy fu d) λa=>G (wy fu e) λb=>G (YZ fu b) λf=>G (zP fu a.1 f) λg=>G (YZ fu a) λh=>G (zP fu b.1 h) λi=>G (YO fu g i) λ(j,k)=>Z (j,k)
def rb(a:N D)(j:J):rX ((N D)×J×(N D)×(N D)) ((N D)×(N D)×(N D)):=λL (k,b,e,d)=>G (if b<(X a:J)then Z (j,a,(X a:J),wT)else Z (j,a,(X a:J),I):V (J×(N D)×J×ut)) λ(f,l,B,m)=>if m then zD b (X l) λo=>nm (l.getD o<|((I,[]),[])) λp=>zf (f+b) λq=>zf (f+b) λg=>zD g (X d) λr=>nm (d.getD r<|((I,[]),[])) λs=>zD f (X e) λu=>nm (e.getD u<|((I,[]),[])) λv=>G (Ve fu v p) λw=>G (Kc fu s w) λy=>zD q (X d) λA=>nm (d.set A y) λh=>zf (b+1) λi=>L (k,i,e,h)else Z (k,e,d)
def p8(a:N D):rX (J×(N D)×(N D)) ((N D)×(N D)):=λL (b,t3,d)=>if 0<=b then A (b+(X a:J)) λh=>A (h-1) λi=>zD i (X d) λj=>B (d.getD j<|((I,[]),[])) λk=>A ((X a:J)-1) λl=>zD l (X a) λm=>B (a.getD m<|((I,[]),[])) λo=>G (Bf fu k o) λ(p,s)=>zD b (X t3) λq=>B (t3.set q p) λt5=>G (zg (rb fu a b) fu<|(a,0,t5,d)) λ(r,e,f)=>A (b-1) λg=>L (g,e,f)else Z (t3,d)
def bH(a g:N D):V ((N D)×(N D)):=A ((X a:J)-(X g:J)) λj=>A (j+1) λk=>B (max k 0) λl=>jt l λh=>ck (56*h<=281474976710656)<|B (So h<|((I,[]),[])) λi=>ck ((X ([]:N D)+X a)*56<=140737488355328)<|B (([]:N D)++a) λm=>A ((X i:J)-1) λo=>G (zg (p8 fu g) fu (o,i,m)) λ(b,d)=>G (dZ fu b) λe=>G (dZ fu d) λf=>Z (e,f)
def nM(a:V v6):rX ((N D)×(N D)×(N D)×(N D)) ((N D)×(N D)):=λL (b,t3,d,t5)=>if 1<(X t3:J)then G (bH fu b t3) λ(e,f)=>G (a) λg=>G (a) λh=>G (xM fu h e t5) λi=>G (wG fu g d i (-1:J)) λj=>L (t3,f,t5,j)else Z (t3,t5)
def Wi(a:V v6)(g:N D):V ((N D)×J):=G (xW fu a) λh=>if h then Z ([],1)else G (a) λi=>G (a) λj=>G (xy fu j g) λf=>if(X f:J)=0 then Z ([],3)else G (ji fu 1) λk=>G (zg (nM fu a) fu (i.2,f,[],[k])) λ(b,d)=>G (ji fu 1) λl=>zD 0 (X b) λm=>B (b.getD m<|((I,[]),[])) λo=>G (Bf fu l o) λ(p,r)=>G (a) λq=>G (xM fu q d [p]) λe=>Z<|(e,0)
def xz(a:V v6)(b d:N D):V ((N D)×J):=G (xW fu a) λe=>if e then Z ([],1)else G (a) λf=>G (xM fu f b d) λg=>Z<|(g,0)
def wX(a:V v6)(b d:N D):V ((N D)×J):=G (xW fu a) λe=>if e then Z ([],1)else G (a) λf=>G (wG fu f b d (-1:J)) λg=>Z<|(g,0)
def vL(a:V v6)(b:N D):V ((N D)×J):=G (xW fu a) λd=>if d then Z ([],1)else G (a) λe=>G (xy fu e b) λf=>Z<|(f,0)
def yZ(fu:K)(b:N D)(a:J):V (PX⊕(N D)):=if a=0 then Z (.inr b)else Z (.inl (128,a))
def Zq(e:V v6)(a:N (N D)):rX (J×(N<|N D)) ((N<|N D)⊕(PX×Wd)):=λL (b,d)=>G (if b<(X a:J)then Z (e,a,(X a:J),wT)else Z (e,a,(X a:J),I):V ((V<|v6)×(N<|N D)×J×ut)) λ(t5,f,r,g)=>if g then zD b (X f) λh=>B (f.getD h []) λi=>G (vL fu t5 i) λ(j,k)=>G (yZ fu j k) λz2=>match z2 with
 |.inl l=>(Z (.inr<|(l,())))
 |.inr m=>zD b (X d) λo=>B (d.set o m) λp=>A (b+1) λq=>L (q,p)else Z (.inl d)
def Zu(fu:K):rX (N<|N D) (N<|N D):=λL a=>if 0<(X a:J)then A ((X a:J)-1) λf=>zD f (X a) λg=>B (a.getD g []) λb=>if(X b:J)=0 then A ((X a:J)-1) λh=>jt h λe=>ck (e<=X a)<|B (a.take e) λd=>L d else Z a else Z a
def zZ(d:V v6)(e:N (N D)):V (PX⊕(N<|N D)):=G (vL fu d []) λ(g,h)=>G (yZ fu g h) λi=>match i with
 |.inl j=>(Z (.inl j))
 |.inr m=>jt (X e:J) λf=>ck (24*f<=281474976710656)<|B (So f []) λt3=>G (zg (Zq fu d e) fu<|(0,t3)) λk=>match k with
 |.inl a=>G (zg (Zu fu) fu a) λb=>Z (.inr b)
 |.inr (l,_)=>Z (.inl l)
def dn(A:J)(h:N (N D)):rX ((V<|v6)×(N D)×J×(N<|N D)×(N<|N D)×(N<|N D)) (((V<|v6)×(N D)×(N<|N D)×(N<|N D)×(N<|N D))⊕(PX×Wd)):=λL (b,f,g,d,a,e)=>bd (if g<(X h:J)then Z (A,(X h:J),wT)else Z (A,(X h:J),I):V (J×J×ut)) λ(i,K,B)=>if B then zD g (X d) λC=>nm (d.getD C []) λj=>zf (i+g) λk=>zf (i+g) λl=>zD l (X a) λE=>nm (a.getD E []) λm=>zD i (X e) λG=>nm (e.getD G []) λo=>bd (xz fu b o j) λ(p,q)=>bd (yZ fu p q) λz5=>match z5 with
 |.inl t=>(Z (.inr<|(t,())))
 |.inr r=>bd (wX fu b m r) λ(s,u)=>bd (yZ fu s u) λz6=>match z6 with
 |.inl c=>(Z (.inr<|(c,())))
 |.inr v=>zD k (X a) λn=>nm (a.set n v) λw=>zf (g+1) λy=>L (b,f,y,d,w,e)else Z (.inl (b,f,d,a,e))
def ey(o:V v6)(t5:N D):rX (J×(N<|N D)×(N<|N D)×(N<|N D)) (((N<|N D)×(N<|N D))⊕(PX×Wd)):=λL (a,d,b,e)=>if 0<=a then zf (a+(X d:J)) λp=>zf (p-1) λq=>zD q (X b) λr=>nm (b.getD r []) λf=>G (xz fu o f t5) λ(g,s)=>G (yZ fu g s) λz4=>match z4 with
 |.inl u=>(Z (.inr<|(u,())))
 |.inr h=>zD a (X e) λv=>nm (e.set v h) λi=>G (zg (dn fu a d) fu<|(o,t5,0,d,b,i)) λw=>match w with
 |.inl (y,A,j,k,l)=>zf (a-1) λm=>L (m,j,k,l)
 |.inr (B,_)=>Z (.inr<|(B,()))else Z (.inl (b,e))
def Qa(a:V v6)(l m:N (N D)):V (PX⊕((N<|N D)×(N<|N D))):=bd (zZ fu a l) λo=>match o with
 |.inl p=>(Z (.inl p))
 |.inr i=>bd (zZ fu a m) λz2=>match z2 with
 |.inl q=>(Z (.inl q))
 |.inr b=>if(X b:J)=0 then Z (.inl<|(128,3))else zf ((X b:J)-1) λr=>zD r (X b) λs=>nm (b.getD s []) λt3=>bd (Wi fu a t3) λ(u,v)=>bd (yZ fu u v) λz3=>match z3 with
 |.inl w=>(Z (.inl w))
 |.inr t5=>zf ((X i:J)-(X b:J)) λy=>zf (y+1) λA=>nm (max A 0) λB=>jt B λj=>ck (24*j<=281474976710656)<|nm (So j []) λk=>zf ((X k:J)-1) λC=>bd (zg (ey fu a t5) fu (C,b,i,k)) λE=>match E with
 |.inl (d,e)=>(bd (zZ fu a e) λz7=>match z7 with
 |.inl G=>(Z (.inl G))
 |.inr f=>bd (zZ fu a d) λz8=>match z8 with
 |.inl c=>(Z (.inl c))
 |.inr g=>Z (.inr (f,g)))
 |.inr (h,_)=>Z (.inl h)
def xY(a:V v6)(b d:N D):V ((N D)×J):=G (xW fu a) λe=>if e then Z ([],1)else G (a) λf=>G (wG fu f b d 1) λg=>Z<|(g,0)
def kT(e:J)(t3:ww (ww D))(l:V v6)(t5:ww (ww D))(m:J)(o:ww D):rX (J×(ww<|ww D)) ((ww<|ww D)⊕(PX×Wd)):=λL (a,b)=>bd (if a<(X t3:J)then Z (t3,l,e,o,t5,m,e,t3,(X t3:J),wT)else Z (t3,l,e,o,t5,m,e,t3,(X t3:J),I):V ((ww<|ww D)×(V<|v6)×J×(ww D)×(ww<|ww D)×J×J×(ww<|ww D)×J×ut)) λ(M,p,q,r,s,N,x,d,P,u)=>if u then zD a (X d) λv=>nm (d.getD v []) λw=>zf (q+a) λy=>zf (q+a) λA=>zD A (X b) λB=>nm (b.getD B []) λf=>bd (xz fu p r w) λ(g,C)=>bd (yZ fu g C) λE=>match E with
 |.inl G=>(Z (.inr<|(G,())))
 |.inr h=>bd (xY fu p f h) λ(i,t)=>bd (yZ fu i t) λz2=>match z2 with
 |.inl c=>(Z (.inr<|(c,())))
 |.inr j=>zD y (X b) λn=>nm (b.set n j) λk=>zf (a+1) λK=>L (K,k)else Z (.inl b)
def kV(e:V v6)(a f:N (N D)):rX (J×(N<|N D)) ((N<|N D)⊕(PX×Wd)):=λL (b,g)=>G (if b<(X a:J)then Z (f,e,a,(X a:J),wT)else Z (f,e,a,(X a:J),I):V ((N<|N D)×(V<|v6)×(N<|N D)×J×ut)) λ(t3,h,t5,i,j)=>if j then zD b (X t5) λk=>B (t5.getD k []) λl=>G (zg (kT fu b t3 h t5 i l) fu<|(0,g)) λm=>match m with
 |.inl d=>A (b+1) λo=>L (o,d)
 |.inr (p,_)=>Z (.inr<|(p,()))else Z (.inl g)
def jc(d:V v6)(e f:N (N D)):V (PX⊕(N<|N D)):=A ((X e:J)+(X f:J)) λh=>jt h λg=>ck (24*g<=281474976710656)<|B (So g []) λi=>G (zg (kV fu d e f) fu<|(0,i)) λj=>match j with
 |.inl a=>(G (zZ fu d a) λz3=>match z3 with
 |.inl k=>(Z (.inl k))
 |.inr b=>Z (.inr b))
 |.inr (l,_)=>Z (.inl l)
def kO(b:V v6)(d:N (N D)):V (PX⊕(N<|N D)):=G (zZ fu b d) λe=>match e with
 |.inl f=>(Z (.inl f))
 |.inr a=>if(X a:J)=0 then Z (.inr [])else A ((X a:J)-1) λg=>zD g (X a) λh=>B (a.getD h []) λi=>G (Wi fu b i) λ(t3,j)=>G (yZ fu t3 j) λz2=>match z2 with
 |.inl k=>(Z (.inl k))
 |.inr l=>G (jc fu b a [l]) λz3=>match z3 with
 |.inl m=>(Z (.inl m))
 |.inr t5=>Z (.inr t5)
def Im(b:V v6):rX ((N<|N D)×(N<|N D)) ((N<|N D)⊕(PX×Wd)):=λL (t3,a)=>if 0<(X a:J)then G (Qa fu b t3 a) λz3=>match z3 with
 |.inl d=>(Z (.inr<|(d,())))
 |.inr (t5,e)=>G (kO fu b e) λz4=>match z4 with
 |.inl f=>(Z (.inr<|(f,())))
 |.inr g=>L (a,g)else Z (.inl t3)
def B8(a:V v6)(g h:N (N D)):V ((N<|N D)×J):=G (zZ fu a g) λi=>match i with
 |.inl b=>(ck (b.1=128)<|ck (WQ b.2)<|some ([],b.2))
 |.inr j=>G (kO fu a h) λz2=>match z2 with
 |.inl d=>(ck (d.1=128)<|ck (WQ d.2)<|some ([],d.2))
 |.inr k=>G (zg (Im fu a) fu (j,k)) λl=>match l with
 |.inl m=>(G (kO fu a m) λz5=>match z5 with
 |.inl e=>(ck (e.1=128)<|ck (WQ e.2)<|some ([],e.2))
 |.inr o=>Z<|(o,0))
 |.inr (f,_)=>ck (f.1=128)<|ck (WQ f.2)<|some ([],f.2)
def Vi:V ut:=G (Ua fu [(-2:J),0,1]) λg=>G (Qm fu g) λ(a,h)=>if h=0 then if(a).isNone=wT then Z I else G (ji fu (-2:J)) λi=>G (ji fu 1) λj=>G (ji fu 0) λb=>G (ji fu (-1:J)) λd=>G (ji fu 1) λe=>G (B8 fu a ([[i],[],[j]])<|[[b,d],[e]]) λ(f,k)=>if k=0 then if(X f:J)=2 then G (vY fu f<|[[b,d],[e]]) λl=>Z l else Z I else Z I else Z I
def bE(fu:K)(a:N (N<|N D))(g:J):rX (J×J) (J⊕Wd):=λL (b,f)=>zD b (X a) λp=>B (a.getD p []) λl=>zD g (X l) λq=>B (l.getD q []) λr=>if f<(X r:J)then zD b (X a) λs=>B (a.getD s []) λm=>zD g (X m) λu=>B (m.getD u []) λo=>zD f (X o) λv=>B (o.getD v<|((I,[]),[])) λw=>if 1<(X w.1.2:J)then Z (.inr ())else zD b (X a) λh=>B (a.getD h []) λd=>zD g (X d) λi=>B (d.getD i []) λe=>zD f (X e) λj=>B (e.getD j<|((I,[]),[])) λk=>if 1<(X k.2:J)then Z (.inr ())else A (f+1) λy=>L (b,y)else Z (.inl b)
def aF(d:J):rX (J×(N<|N<|N D)×J) ((J×(N<|N<|N D))⊕Wd):=λL (e,a,b)=>zD d (X a) λg=>B (a.getD g []) λh=>if b<(X h:J)then zD d (X a) λi=>B (a.getD i []) λf=>zD b (X f) λj=>B (f.getD j []) λk=>if 4<(X k:J)then Z (.inr ())else G (zg (bE fu a b) fu<|(d,0)) λl=>match l with
 |.inl o=>A (b+1) λm=>L (e,a,m)
 |.inr _=>Z (.inr ())else Z (.inl (e,a))
def aW(d:J)(a:N (N<|N D)):rX J (Wd⊕Wd):=λL b=>if b<(X a:J)then zD b (X a) λe=>B (a.getD e []) λf=>if d<(X f:J)then Z (.inr ())else G (zg (aF fu b) fu<|(d,a,0)) λg=>match g with
 |.inl (i,j)=>A (b+1) λh=>L h
 |.inr _=>Z (.inr ())else Z (.inl ())
def Qj(a:J)(b:N (N<|N D)):V ut:=G (zg (aW fu a b) fu 0) λd=>match d with
 |.inl _=>Z wT
 |.inr _=>Z I
def iV(fu:K)(b:N K):rX J J:=λL a=>if 0<a then A (a-1) λd=>zD d (X b) λe=>B (b.getD e 0) λf=>if(f:J)=(((0:K):K):J)then A (a-1) λg=>L g else Z a else Z a
def Xo(a:N K):V (N K):=G (zg (iV fu a) fu<|(X a:J)) λe=>jt e λb=>ck (b<=X a)<|B (a.take b) λd=>ck ((X ([]:N K)+X d)*8<=140737488355328)<|B (([]:N K)++d) λf=>Z f
def yY(b:U):V U:=G (Xo fu b.2) λa=>if b.1=wT then if 0<(X a:J)then Z (wT,a)else Z (I,a)else Z (I,a)
def Ql(a:U):V U:=G (yY fu (I,a.2)) λb=>Z b
def qJ(fu:K)(a:N K)(b:J):V K:=if b<(X a:J)then zD b (X a) λd=>B (a.getD d 0) λe=>Z e else Z (0:K)
def oe(fu:K)(b:N K):rX J J:=λL a=>if 0<a then A (a-1) λd=>zD d (X b) λe=>B (b.getD e 0) λf=>if(f:J)=(((0:K):K):J)then A (a-1) λg=>L g else Z a else Z a
def Xg(a:N K):V (N K):=G (zg (oe fu a) fu<|(X a:J)) λd=>jt d λb=>ck (b<=X a)<|B (a.take b) λe=>Z e
def WY(fu:K)(a:N K):rX ((N K)×J) (N K):=λL (d,b)=>if b<(X a:J)then zD b (X a) λg=>B (a.getD g 0) λh=>B (h &&& (4294967295:K)) λe=>zD b (X a) λi=>B (a.getD i 0) λj=>B (j/2^(min ((32:K):J).toNat 64)) λf=>ck ((X d+X ([e,f]))*8<=140737488355328)<|B (d++([e,f])) λk=>A (b+1) λl=>L (k,l)else Z d
def xG(a:N K):V (N K):=G (zg (WY fu a) fu<|([],0)) λt3=>G (Xg fu t3) λb=>Z b
def QW(fu:K)(a:N K):rX ((N K)×J) (N K):=λL (d,b)=>if b<(X a:J)then zD b (X a) λg=>B (a.getD g 0) λe=>A (b+1) λh=>if h<(X a:J)then A (b+1) λi=>zD i (X a) λj=>B (a.getD j 0) λk=>B (k*2^(min ((32:K):J).toNat 64)%18446744073709551616) λl=>B ((e+l)%18446744073709551616) λf=>ck ((X d+X ([f]))*8<=140737488355328)<|B (d++([f])) λm=>A (b+2) λo=>L (m,o)else ck ((X d+X ([e]))*8<=140737488355328)<|B (d++([e])) λt3=>A (b+2) λp=>L (t3,p)else Z d
def qh(a:N K):V (N K):=G (zg (QW fu a) fu<|([],0)) λb=>G (Xo fu b) λt5=>Z t5
def nZ(b d:N K):rX ((N K)×K×J) (N K):=λL (t3,g,a)=>B (max (X b:J)<|(X d:J)) λh=>A (h+1) λi=>if a<i then G (qJ fu b a) λj=>G (qJ fu d a) λk=>B ((j+k)%18446744073709551616) λl=>B ((l+g)%18446744073709551616) λe=>B (e &&& (4294967295:K)) λf=>ck ((X t3+X ([f]))*8<=140737488355328)<|B (t3++([f])) λm=>B (e/2^(min ((32:K):J).toNat 64)) λo=>A (a+1) λp=>L (m,o,p)else Z t3
def Qp(a b:N K):V (N K):=G (xG fu a) λd=>G (xG fu b) λe=>G (zg (nZ fu d e) fu<|([],(0:K),0)) λt5=>G (qh fu t5) λf=>Z f
def We(b d:N K):rX J (Wd⊕J):=λL a=>if 0<=a then G (qJ fu b a) λe=>G (qJ fu d a) λf=>if(e:J)<(f:J)then Z (.inr (-1:J))else G (qJ fu b a) λg=>G (qJ fu d a) λh=>if(h:J)<(g:J)then Z (.inr 1)else A (a-1) λi=>L i else Z (.inl ())
def uy(a b:N K):V J:=B (max (X a:J)<|(X b:J)) λd=>A (d-1) λe=>G (zg (We fu a b) fu e) λf=>match f with
 |.inl _=>Z 0
 |.inr g=>Z g
def Kl(d g:N K):rX ((N K)×K×J) (N K):=λL (b,h,a)=>if a<(X d:J)then G (qJ fu d a) λi=>B ((i+(4294967296:K))%18446744073709551616) λj=>G (qJ fu g a) λk=>B ((j+18446744073709551616-k)%18446744073709551616) λl=>B ((l+18446744073709551616-h)%18446744073709551616) λe=>B (e &&& (4294967295:K)) λf=>ck ((X b+X ([f]))*8<=140737488355328)<|B (b++([f])) λm=>B (e/2^(min ((32:K):J).toNat 64)) λo=>B (((1:K)+18446744073709551616-o)%18446744073709551616) λp=>A (a+1) λq=>L (m,p,q)else Z b
def XF(a b:N K):V (N K):=G (zg (Kl fu a b) fu<|([],(0:K),0)) λt3=>G (Xg fu t3) λd=>Z d
def aJ(fu:K)(a:N K):rX ((N K)×(N K)×(N K)×K×J) ((N K)×(N K)×(N K)×K):=λL (e,f,d,g,b)=>if b<(X a:J)then zD b (X a) λi=>B (a.getD i 0) λj=>B ((j*(2:K))%18446744073709551616) λk=>B ((k+g)%18446744073709551616) λl=>B (l &&& (4294967295:K)) λh=>ck ((X d+X ([h]))*8<=140737488355328)<|B (d++([h])) λm=>zD b (X a) λo=>B (a.getD o 0) λp=>B (p/2^(min ((31:K):J).toNat 64)) λq=>A (b+1) λr=>L (e,f,m,q,r)else Z (e,f,d,g)
def aG(q f:N K):rX ((N K)×J×(N K)) ((N K)×(N K)):=λL (l,a,t5)=>if 0<=a then ck (32≠0)<|zf (xdv a 32) λr=>zD r (X f) λs=>nm (f.getD s 0) λu=>ck (32≠0)<|nm (xcB a 32) λm=>ck (0<=m)<|nm (u/2^(min (m:J).toNat 64)) λv=>nm (v &&& (1:K)) λw=>bd (zg (aJ fu l) fu<|(q,f,[],w,0)) λ(d,y,e,o)=>ck ((X e+X ([o]))*8<=140737488355328)<|nm (e++([o])) λg=>bd (Xg fu g) λb=>bd (bd (uy fu b d) λA=>if(0:J)<=A then Z wT else Z I:V ut) λB=>if B then bd (XF fu b d) λh=>ck (32≠0)<|zf (xdv a 32) λC=>ck (32≠0)<|zf (xdv a 32) λE=>zD E (X t5) λG=>nm (t5.getD G 0) λt=>ck (32≠0)<|nm (xcB a 32) λp=>ck (0<=p)<|nm ((1:K)*2^(min (p:J).toNat 64)%18446744073709551616) λm8=>nm (t|||m8) λc=>zD C (X t5) λn=>nm (t5.set n c) λi=>zf (a-1) λj=>L (h,j,i)else zf (a-1) λk=>L (b,k,t5)else Z (l,t5)
def ax(i j:N K):V ((N K)×(N K)×J):=G (xG fu j) λg=>if(X g:J)=0 then Z ([],[],3)else G (xG fu i) λa=>jt (X a:J) λh=>ck (8*h<=281474976710656)<|B (So h 0) λt3=>A (32*(X a:J)) λk=>A (k-1) λl=>G (zg (aG fu g a) fu ([],l,t3)) λ(b,d)=>G (qh fu d) λe=>G (qh fu b) λf=>Z<|(e,f,0)
def Y6(d e:N K):V ((N K)×J):=G (xG fu d) λa=>G (xG fu e) λb=>G (uy fu a b) λf=>if f<0 then Z ([],1)else G (XF fu a b) λt3=>G (qh fu t3) λg=>Z<|(g,0)
def Zm(b d:U):V (U×U×J):=G (ax fu b.2 d.2) λ(e,a,f)=>if f=0 then G (if b.1=wT then if 0<(X a:J)then G (Qp fu e [(1:K)]) λt3=>G (Y6 fu d.2 a) λ(g,l)=>Z (t3,g)else Z (e,a)else Z (e,a):V ((N K)×(N K))) λ(t5,h)=>B (!(b.1==d.1)) λi=>G (yY fu (i,t5)) λj=>G (yY fu (I,h)) λk=>Z (j,k,0)else Z ((I,[]),(I,[]),f)
def jr(b:U):V J:=G (yY fu b) λa=>if a.1=wT then Z (-1:J)else if 0<(X a.2:J)then Z 1 else Z 0
def oM:rX (U×U) U:=λL (b,a)=>G (jr fu a) λd=>if d=0 then Z b else G (Zm fu b a) λ(f,e,g)=>L (a,e)
def QB(a b:U):V U:=G (Ql fu a) λd=>G (Ql fu b) λe=>G (zg (oM fu) fu (d,e)) λt3=>Z t3
def Y7(a:U):V U:=G (yY fu<|((!a.1),a.2)) λb=>Z b
def W7(a:J):V U:=if a<0 then A (0-a) λb=>B (Ec b) λd=>G (yY fu (wT,[d])) λe=>Z e else B (Ec a) λf=>G (yY fu (I,[f])) λg=>Z g
def iJ(b:N U):rX J J:=λL a=>if 0<a then A (a-1) λd=>zD d (X b) λe=>B (b.getD e (I,[])) λf=>G (jr fu f) λg=>if g=0 then A (a-1) λh=>L h else Z a else Z a
def gZ(d:N U)(f:J):rX ((N U)×J) (N U):=λL (a,b)=>if b<f then zD b (X d) λg=>B (d.getD g (I,[])) λh=>G (yY fu h) λe=>ck ((X a+X ([e]))*32<=140737488355328)<|B (a++([e])) λi=>A (b+1) λj=>L (i,j)else Z a
def wU(a:N U):V (N U):=G (zg (iJ fu a) fu<|(X a:J)) λb=>G (zg (gZ fu a b) fu<|([],0)) λt3=>Z t3
def Uy(a:N U):rX (J×U) U:=λL (b,d)=>if b<(X a:J)then zD b (X a) λe=>B (a.getD e (I,[])) λf=>G (QB fu d f) λg=>A (b+1) λh=>L (h,g)else Z d
def Yz(b:N U):V U:=G (wU fu b) λa=>G (W7 fu 0) λd=>G (zg (Uy fu a) fu<|(0,d)) λt3=>if 0<(X a:J)then A ((X a:J)-1) λe=>zD e (X a) λf=>B ((a.getD f (I,[])).1) λg=>if g then G (Y7 fu t3) λh=>Z h else Z t3 else Z t3
def Vt(b d:U):V (U×J):=G (Zm fu b d) λ(e,f,a)=>if a=0 then G (jr fu f) λg=>if g=0 then Z (e,0)else Z ((I,[]),4)else Z ((I,[]),a)
def Xc(a b:U):V U:=B (a.1==b.1) λd=>if d then G (Qp fu a.2 b.2) λe=>G (yY fu (a.1,e)) λf=>Z f else G (Y6 fu a.2 b.2) λ(g,h)=>if h=0 then G (yY fu (a.1,g)) λi=>Z i else G (Y6 fu b.2 a.2) λ(t3,k)=>G (yY fu (b.1,t3)) λj=>Z j
def Kn(fu:K)(a:N U)(b:J):V U:=if 0<=b then if b<(X a:J)then zD b (X a) λd=>B (a.getD d (I,[])) λe=>Z e else Z (I,[])else Z (I,[])
def oI(d e:N U):rX ((N U)×J) (N U):=λL (b,a)=>B (max (X d:J)<|(X e:J)) λg=>if a<g then G (Kn fu d a) λh=>G (Kn fu e a) λi=>G (Xc fu h i) λf=>ck ((X b+X ([f]))*32<=140737488355328)<|B (b++([f])) λj=>A (a+1) λk=>L (j,k)else Z b
def Qo(a b:N U):V (N U):=G (zg (oI fu a b) fu<|([],0)) λt3=>G (wU fu t3) λd=>Z d
def br(fu:K)(e:J):rX ((N K)×(N K)×K×J×(N K)) ((N K)×(N K)×K×(N K)):=λL (t5,a,f,b,d)=>if b<(X a:J)then zD e (X t5) λh=>B (t5.getD h 0) λi=>zD b (X a) λj=>B (a.getD j 0) λk=>B ((i*k)%18446744073709551616) λl=>A (e+b) λm=>zD m (X d) λo=>B (d.getD o 0) λp=>B ((l+p)%18446744073709551616) λq=>B ((q+f)%18446744073709551616) λg=>A (e+b) λr=>B (g &&& (4294967295:K)) λs=>zD r (X d) λu=>B (d.set u s) λv=>B (g/2^(min ((32:K):J).toNat 64)) λw=>A (b+1) λy=>L (t5,a,w,y,v)else Z (t5,a,f,d)
def bC(f h:N K):rX (J×(N K)) (N K):=λL (b,g)=>if b<(X f:J)then G (zg (br fu b) fu<|(f,h,(0:K),0,g)) λ(m,d,i,a)=>A (b+(X d:J)) λj=>zD j (X a) λk=>B (a.set k i) λe=>A (b+1) λl=>L (l,e)else Z g
def U1(g h:N K):V (N K):=G (xG fu g) λd=>G (xG fu h) λe=>A ((X d:J)+(X e:J)) λi=>jt i λf=>ck (8*f<=281474976710656)<|B (So f 0) λt3=>G (zg (bC fu d e) fu<|(0,t3)) λa=>G (qh fu a) λb=>Z b
def wJ(a b:U):V U:=B (!(a.1==b.1)) λd=>G (U1 fu a.2 b.2) λe=>G (yY fu (d,e)) λf=>Z f
def oj(d:J):rX ((N U)×(N U)×J×(N U)) ((N U)×(N U)×(N U)):=λL (t3,a,b,t5)=>if b<(X a:J)then A (d+b) λe=>A (d+b) λf=>zD f (X t5) λg=>B (t5.getD g (I,[])) λh=>zD d (X t3) λi=>B (t3.getD i (I,[])) λj=>zD b (X a) λk=>B (a.getD k (I,[])) λl=>G (wJ fu j l) λm=>G (Xc fu h m) λo=>zD e (X t5) λp=>B (t5.set p o) λq=>A (b+1) λr=>L (t3,a,r,q)else Z (t3,a,t5)
def nX(b e:N U):rX (J×(N U)) (N U):=λL (a,d)=>if a<(X b:J)then G (zg (oj fu a) fu<|(b,e,0,d)) λ(h,i,f)=>A (a+1) λg=>L (g,f)else Z d
def ae(d e:N U):V (N U):=A ((X d:J)+(X e:J)) λg=>jt g λf=>ck (32*f<=281474976710656)<|B (So f (I,[])) λh=>G (zg (nX fu d e) fu<|(0,h)) λa=>G (wU fu a) λb=>Z b
def fH(a:N U)(f:U):rX ((N U)×J) (N U):=λL (b,d)=>if d<(X a:J)then zD d (X a) λg=>B (a.getD g (I,[])) λh=>G (wJ fu h f) λe=>ck ((X b+X ([e]))*32<=140737488355328)<|B (b++([e])) λi=>A (d+1) λj=>L (i,j)else Z b
def Vv(a:N U)(b:U):V (N U):=G (zg (fH fu a b) fu<|([],0)) λt3=>G (wU fu t3) λd=>Z d
def Um(a b:N U):V (N U):=G (W7 fu (-1:J)) λd=>G (Vv fu b d) λe=>G (Qo fu a e) λf=>Z f
def ov:rX ((N U)×(N U)×(N U)) ((N U)⊕Wd):=λL (t3,a,t5)=>if 0<(X a:J)then A ((X a:J)-(X t3:J)) λd=>A ((X a:J)-1) λi=>zD i (X a) λj=>B (a.getD j (I,[])) λk=>A ((X t3:J)-1) λl=>zD l (X t3) λm=>B (t3.getD m (I,[])) λo=>G (Vt fu k o) λ(e,p)=>if d<0 then Z (.inr ())else if p=0 then jt d λf=>ck (32*f<=281474976710656)<|B (So f (I,[])) λg=>ck ((X g+X ([e]))*32<=140737488355328)<|B (g++([e])) λh=>G (Qo fu t5 h) λq=>G (ae fu h t3) λr=>G (Um fu a r) λb=>L (t3,b,q)else Z (.inr ())else Z (.inl t5)
def Uz(d e:N U):V ((N U)×J):=G (wU fu e) λb=>if(X b:J)=0 then Z ([],3)else G (wU fu d) λf=>G (zg (ov fu) fu (b,f,[])) λg=>match g with
 |.inl a=>Z<|(a,0)
 |.inr _=>Z<|([],4)
def J5(b:N U):V (N U):=G (wU fu b) λa=>if(X a:J)=0 then Z []else G (Yz fu a) λd=>G (Uz fu a [d]) λ(e,f)=>Z e
def KP(fu:K)(a:N U):rX J (Wd⊕(V<|v6)):=λL b=>if b<(X a:J)then zD b (X a) λe=>B (a.getD e (I,[])) λf=>if 1<(X f.2:J)then Z (.inr<|(wS:V v6))else zD b (X a) λg=>B (a.getD g (I,[])) λh=>if(X h.2:J)=1 then zD b (X a) λi=>B (a.getD i (I,[])) λd=>zD 0 (X d.2) λj=>B (d.2.getD j 0) λk=>if(((100:K):K):J)<(k:J)then Z (.inr<|(wS:V v6))else A (b+1) λl=>L l else A (b+1) λm=>L m else Z (.inl ())
def J4(a:N U):V ((V<|v6)×(N U)):=if 5<(X a:J)then Z ((wS:V v6),[])else G (zg (KP fu a) fu 0) λb=>match b with
 |.inl _=>G (Qm fu a) λ(d,e)=>if e=0 then G (J5 fu a) λf=>Z (d,f)else Z ((wS:V v6),[])
 |.inr g=>Z (g,[])
def xV(a:D):V U:=G (yY fu (I,a.2)) λb=>Z b
def XI(d a:U):V (D×J):=G (jr fu a) λg=>if g=0 then Z (((I,[]),[]),3)else G (QB fu d a) λe=>G (Zm fu d e) λ(f,i,j)=>G (Zm fu a e) λ(b,k,l)=>if b.1=wT then G (Y7 fu f) λh=>Z ((h,b.2),0)else Z ((f,b.2),0)
def YU(a:J):V D:=G (W7 fu a) λb=>Z<|(b,[(1:K)])
def jg(a b:U):V D:=G (XI fu a b) λ(d,e)=>if e=0 then Z d else G (YU fu 0) λf=>Z f
def wV(a:D):V D:=G (xV fu a) λb=>G (jg fu a.1 b) λd=>Z d
def Xb(f g:D):V D:=G (wV fu f) λa=>G (wV fu g) λb=>G (xV fu b) λh=>G (wJ fu a.1 h) λi=>G (xV fu a) λj=>G (wJ fu b.1 j) λk=>G (Xc fu i k) λl=>G (xV fu a) λm=>G (xV fu b) λo=>G (wJ fu m o) λd=>G (jg fu l d) λe=>Z e
def kZ(a:N D)(b:J):V D:=if b<(X a:J)then zD b (X a) λd=>B (a.getD d<|((I,[]),[])) λe=>Z e else G (YU fu 0) λf=>Z f
def U5(d e:D):V (D×J):=G (wV fu d) λa=>G (wV fu e) λb=>G (xV fu b) λf=>G (wJ fu a.1 f) λg=>G (xV fu a) λh=>G (wJ fu h b.1) λi=>G (XI fu g i) λ(j,k)=>Z (j,k)
def Qx(d e:D):V D:=G (wV fu d) λa=>G (wV fu e) λb=>G (wJ fu a.1 b.1) λf=>G (xV fu a) λg=>G (xV fu b) λh=>G (wJ fu g h) λi=>G (jg fu f i) λj=>Z j
def Qc(a:D):V D:=G (Y7 fu a.1) λb=>G (xV fu a) λd=>G (jg fu b d) λe=>Z e
def Qv(a b:D):V D:=G (Qc fu b) λd=>G (Xb fu a d) λe=>Z e
def XY(a:D):V J:=G (wV fu a) λb=>G (jr fu b.1) λd=>Z d
def Ky(b:N D):rX J J:=λL a=>if 0<a then A (a-1) λd=>zD d (X b) λe=>B (b.getD e<|((I,[]),[])) λf=>G (XY fu f) λg=>if g=0 then A (a-1) λh=>L h else Z a else Z a
def XJ(d:N D)(f:J):rX ((N D)×J) (N D):=λL (a,b)=>if b<f then zD b (X d) λg=>B (d.getD g<|((I,[]),[])) λh=>G (wV fu h) λe=>ck ((X a+X ([e]))*56<=140737488355328)<|B (a++([e])) λi=>A (b+1) λj=>L (i,j)else Z a
def X0(a:N D):V (N D):=G (zg (Ky fu a) fu<|(X a:J)) λb=>G (zg (XJ fu a b) fu<|([],0)) λt3=>Z t3
def VP(e:J):rX (J×(N D)×J×(N U)×(N D)×D) (J×(N D)×(N U)):=λL (b,t5,a,d,f,g)=>if a<e then zD a (X f) λk=>B (f.getD k<|((I,[]),[])) λh=>G (A (e-b) λl=>if l<=a then Z (e,wT)else Z (e,I):V (J×ut)) λ(m,o)=>if o then A (a-m) λp=>A (p+b) λq=>zD q (X d) λr=>B (d.getD r (I,[])) λs=>G (Qx fu g<|(s,[(1:K)])) λu=>G (Qv fu h u) λj=>ck ((X t5+X ([j]))*56<=140737488355328)<|B (t5++([j])) λv=>A (a+1) λw=>L (b,v,w,d,f,g)else ck ((X t5+X ([h]))*56<=140737488355328)<|B (t5++([h])) λi=>A (a+1) λy=>L (b,i,y,d,f,g)else Z (b,t5,d)
def aN(a:J):rX ((N D)×(N U)) (N D):=λL (t3,b)=>if a<(X t3:J)then A ((X t3:J)-1) λg=>zD g (X t3) λh=>B (t3.getD h<|((I,[]),[])) λi=>zD a (X b) λj=>B (b.getD j (I,[])) λk=>G (U5 fu i<|(k,[(1:K)])) λ(l,m)=>G (zg (VP fu g) fu<|(a,[],0,b,t3,l)) λ(o,d,e)=>G (X0 fu d) λf=>L (f,e)else Z t3
def kq(d:N U)(e:N D):V (N D):=G (wU fu d) λb=>A ((X b:J)-1) λf=>G (X0 fu e) λg=>G (zg (aN fu f) fu (g,b)) λa=>Z a
def Vz(d e:N D):rX ((N D)×J) (N D):=λL (b,a)=>B (max (X d:J)<|(X e:J)) λg=>if a<g then G (kZ fu d a) λh=>G (kZ fu e a) λi=>G (Xb fu h i) λf=>ck ((X b+X ([f]))*56<=140737488355328)<|B (b++([f])) λj=>A (a+1) λk=>L (j,k)else Z b
def Zf(a:N U)(b d:N D):V (N D):=G (zg (Vz fu b d) fu<|([],0)) λt3=>G (kq fu a t3) λe=>Z e
def Xn(f:N U)(a:N (N D)):rX ((N<|N D)×J) (N<|N D):=λL (b,d)=>if d<(X a:J)then zD d (X a) λg=>B (a.getD g []) λh=>G (kq fu f h) λe=>ck ((X b+X ([e]))*24<=140737488355328)<|B (b++([e])) λt3=>A (d+1) λi=>L (t3,i)else Z b
def KH(fu:K)(b:N (N D)):rX J J:=λL a=>if 0<a then A (a-1) λd=>zD d (X b) λe=>B (b.getD e []) λt5=>if(X t5:J)=0 then A (a-1) λf=>L f else Z a else Z a
def vZ(d:N U)(e:N (N D)):V (N<|N D):=G (zg (Xn fu d e) fu<|([],0)) λa=>G (zg (KH fu a) fu<|(X a:J)) λf=>jt f λb=>ck (b<=X a)<|B (a.take b) λg=>Z g
def YN(fu:K)(a:N (N D))(b:J):V (N D):=if b<(X a:J)then zD b (X a) λd=>B (a.getD d []) λe=>Z e else Z []
def Vk(g:N U)(d e:N (N D)):rX ((N<|N D)×J) (N<|N D):=λL (b,a)=>B (max (X d:J)<|(X e:J)) λh=>if a<h then G (YN fu d a) λi=>G (YN fu e a) λt3=>G (Zf fu g i t3) λf=>ck ((X b+X ([f]))*24<=140737488355328)<|B (b++([f])) λt5=>A (a+1) λj=>L (t5,j)else Z b
def az(a:N U)(b d:N (N D)):V (N<|N D):=G (zg (Vk fu a b d) fu<|([],0)) λe=>G (vZ fu a e) λf=>Z f
def VG(e f:N D):rX ((N D)×J) (N D):=λL (a,b)=>A ((X e:J)+(X f:J)) λg=>if b<g then G (YU fu 0) λd=>ck ((X a+X ([d]))*56<=140737488355328)<|B (a++([d])) λh=>A (b+1) λi=>L (h,i)else Z a
def VQ(f:J):rX ((N U)×(N D)×(N D)×J×(N D)) ((N U)×(N D)×(N D)×(N D)):=λL (t5,e,a,b,d)=>if b<(X a:J)then A (f+b) λg=>A (f+b) λh=>zD h (X d) λi=>B (d.getD i<|((I,[]),[])) λj=>zD f (X e) λk=>B (e.getD k<|((I,[]),[])) λl=>zD b (X a) λm=>B (a.getD m<|((I,[]),[])) λo=>G (Qx fu l o) λp=>G (Xb fu j p) λq=>zD g (X d) λr=>B (d.set r q) λs=>A (b+1) λu=>L (t5,e,a,u,s)else Z (t5,e,a,d)
def aE(f:N U)(d g:N D):rX (J×(N D)) (N D):=λL (a,e)=>if a<(X d:J)then G (zg (VQ fu a) fu<|(f,d,g,0,e)) λ(h,i,j,b)=>A (a+1) λk=>L (k,b)else Z e
def Zt(d:N U)(e f:N D):V (N D):=G (zg (VG fu e f) fu<|([],0)) λt3=>G (zg (aE fu d e f) fu<|(0,t3)) λa=>G (kq fu d a) λb=>Z b
def vP(f:N U)(b:N (N D)):rX ((N<|N D)×J) (N<|N D):=λL (d,a)=>if a<(X b:J)then zD a (X b) λg=>B (b.getD g []) λh=>G (YU fu a) λi=>G (Zt fu f h [i]) λe=>ck ((X d+X ([e]))*24<=140737488355328)<|B (d++([e])) λt3=>A (a+1) λj=>L (t3,j)else Z d
def Yy(a:N U)(b:N (N D)):V (N<|N D):=G (zg (vP fu a b) fu<|([],1)) λd=>G (vZ fu a d) λt5=>Z t5
def Kj(b:N U)(d:N (N D))(f:N D):rX ((N D)×J) (N D):=λL (e,a)=>if 0<=a then G (Zt fu b e f) λg=>zD a (X d) λh=>B (d.getD h []) λi=>G (Zf fu b g i) λt3=>A (a-1) λj=>L (t3,j)else Z e
def JL(b:N U)(a:N (N D))(d:N D):V (N D):=A ((X a:J)-1) λe=>G (zg (Kj fu b a d) fu ([],e)) λf=>Z f
def UJ(a b:D):V J:=G (Qv fu a b) λd=>G (XY fu d) λe=>Z e
def KF(e:J):rX ((N<|N D)×(N<|N D)×J) (((N<|N D)×(N<|N D))⊕ut):=λL (a,b,d)=>if 0<=d then zD e (X a) λg=>B (a.getD g []) λh=>G (kZ fu h d) λi=>zD e (X b) λj=>B (b.getD j []) λk=>G (kZ fu k d) λl=>G (UJ fu i l) λf=>if f=0 then A (d-1) λm=>L (a,b,m)else if f<0 then Z (.inr wT)else Z (.inr I)else Z (.inl (a,b))
def KC(b d:N (N D)):rX J (Wd⊕ut):=λL a=>if 0<=a then zD a (X b) λe=>B (b.getD e []) λf=>zD a (X d) λg=>B (d.getD g []) λh=>B (max (X f:J)<|(X h:J)) λi=>A (i-1) λj=>G (zg (KF fu a) fu (b,d,j)) λk=>match k with
 |.inl (t3,o)=>A (a-1) λl=>L l
 |.inr m=>Z (.inr m)else Z (.inl ())
def JU(a b:N (N D)):V ut:=if(X a:J)=(X b:J)then A ((X a:J)-1) λd=>G (zg (KC fu a b) fu d) λe=>match e with
 |.inl _=>Z I
 |.inr f=>Z f else if(X a:J)<(X b:J)then Z wT else Z I
def VE(e:J):rX ((N U)×(N<|N D)×(N<|N D)×J×(N<|N D)) ((N U)×(N<|N D)×(N<|N D)×(N<|N D)):=λL (t3,d,t5,a,b)=>if a<(X t5:J)then A (e+a) λg=>A (e+a) λh=>zD h (X b) λi=>B (b.getD i []) λj=>zD e (X d) λk=>B (d.getD k []) λl=>zD a (X t5) λm=>B (t5.getD m []) λo=>G (Zt fu t3 l o) λp=>G (Zf fu t3 j p) λq=>zD g (X b) λr=>B (b.set r q) λf=>A (a+1) λs=>L (t3,d,t5,s,f)else Z (t3,d,t5,b)
def aK(f:N U)(d g:N (N D)):rX (J×(N<|N D)) (N<|N D):=λL (a,e)=>if a<(X d:J)then G (zg (VE fu a) fu<|(f,d,g,0,e)) λ(h,i,j,b)=>A (a+1) λk=>L (k,b)else Z e
def Uh(d:N U)(e f:N (N D)):V (N<|N D):=A ((X e:J)+(X f:J)) λh=>jt h λg=>ck (24*g<=281474976710656)<|B (So g []) λi=>G (zg (aK fu d e f) fu<|(0,i)) λa=>G (vZ fu d a) λb=>Z b
def VO(a:N D):rX ((N D)×J) (N D):=λL (b,d)=>if d<(X a:J)then zD d (X a) λf=>B (a.getD f<|((I,[]),[])) λg=>G (Qc fu g) λe=>ck ((X b+X ([e]))*56<=140737488355328)<|B (b++([e])) λh=>A (d+1) λi=>L (h,i)else Z b
def gP(a:N U)(b:N D):V (N D):=G (zg (VO fu b) fu<|([],0)) λt3=>G (kq fu a t3) λd=>Z d
def UR(a:N U)(b d:N D):V (N D):=G (gP fu a d) λe=>G (Zf fu a b e) λf=>Z f
def VC(g:N U)(d e:N (N D)):rX ((N<|N D)×J) (N<|N D):=λL (b,a)=>B (max (X d:J)<|(X e:J)) λh=>if a<h then G (YN fu d a) λi=>G (YN fu e a) λt3=>G (UR fu g i t3) λf=>ck ((X b+X ([f]))*24<=140737488355328)<|B (b++([f])) λt5=>A (a+1) λj=>L (t5,j)else Z b
def U3(a:N U)(b d:N (N D)):V (N<|N D):=G (zg (VC fu a b d) fu<|([],0)) λe=>G (vZ fu a e) λf=>Z f
def uJ(h:V v6)(b:N (N D))(i:ut):rX (J×(N<|N D)) ((N<|N D)⊕(PX×Wd)):=λL (a,t3)=>bd (if a<(X b:J)then Z (i,h,b,(X b:J),wT)else Z (i,h,b,(X b:J),I):V (ut×(V<|v6)×(N<|N D)×J×ut)) λ(l,j,t5,c,m)=>if m then zD a (X t5) λo=>nm (t5.getD o []) λk=>if l then zD a (X t3) λp=>nm (t3.getD p []) λq=>bd (wX fu j q k) λ(r,s)=>bd (yZ fu r s) λu=>match u with
 |.inl v=>(Z (.inr<|(v,())))
 |.inr w=>zD a (X t3) λy=>nm (t3.set y w) λA=>zf (a+1) λB=>L (B,A)else zD a (X t3) λC=>nm (t3.getD C []) λd=>bd (xY fu j d k) λ(e,E)=>bd (yZ fu e E) λz2=>match z2 with
 |.inl G=>(Z (.inr<|(G,())))
 |.inr f=>zD a (X t3) λt=>nm (t3.set t f) λg=>zf (a+1) λn=>L (n,g)else Z (.inl t3)
def vX(d:V v6)(e f:N (N D))(h:ut):V (PX⊕(N<|N D)):=B (max (X e:J)<|(X f:J)) λi=>jt i λg=>ck (24*g<=281474976710656)<|B (So g []) λj=>B (LH j e) λk=>G (zg (uJ fu d f h) fu<|(0,k)) λl=>match l with
 |.inl a=>(G (zZ fu d a) λz3=>match z3 with
 |.inl m=>(Z (.inl m))
 |.inr b=>Z (.inr b))
 |.inr (o,_)=>Z (.inl o)
def UY(b:V v6)(d e:N (N D)):V ((N<|N D)×J):=G (vX fu b d e I) λf=>match f with
 |.inl a=>(ck (a.1=128)<|ck (WQ a.2)<|some ([],a.2))
 |.inr g=>Z<|(g,0)
def QU(g:V v6)(d:N (N D)):rX ((N<|N D)×J×J×(V<|v6)×(N<|N D)) (((N<|N D)×J×(V<|v6))⊕(PX×((N<|N D)×J))):=λL (b,a,t3,e,t5)=>G (if a<(X d:J)then Z (g,(X d:J),wT)else Z (g,(X d:J),I):V ((V<|v6)×J×ut)) λ(i,u,j)=>if j then zD a (X t5) λk=>B (t5.getD k []) λl=>if 0<a then G (ji fu a) λm=>G (xz fu i l [m]) λ(o,p)=>G (yZ fu o p) λz2=>match z2 with
 |.inl q=>(Z (.inr<|(q,(b,t3))))
 |.inr h=>ck ((X b+X ([h]))*24<=140737488355328)<|B (b++([h])) λf=>A (a+1) λr=>L (f,r,t3,e,t5)else A (a+1) λs=>L (b,s,t3,e,t5)else Z (.inl (b,t3,e))
def Yu(b:V v6)(k:N (N D)):V ((N<|N D)×J):=G (zZ fu b k) λl=>match l with
 |.inl d=>(ck (d.1=128)<|ck (WQ d.2)<|some ([],d.2))
 |.inr j=>G (zg (QU fu b j) fu<|([],0,0,b,j)) λm=>match m with
 |.inl (a,o,e)=>(G (zZ fu e a) λz3=>match z3 with
 |.inl f=>(ck (f.1=128)<|ck (WQ f.2)<|some (a,f.2))
 |.inr g=>Z<|(g,0))
 |.inr (h,(i,p))=>ck (h.1=128)<|ck (WQ h.2)<|some (i,h.2)
def KT(e:V v6)(f:N D)(a:N (N D)):rX ((N D)×J) ((N D)⊕(PX×(N D))):=λL (b,d)=>if 0<=d then G (xz fu e b f) λ(t3,g)=>G (yZ fu t3 g) λz2=>match z2 with
 |.inl h=>(zD d (X a) λi=>B (a.getD i []) λr=>Z (.inr (h,b)))
 |.inr t5=>zD d (X a) λj=>B (a.getD j []) λk=>G (xY fu e t5 k) λ(l,m)=>G (yZ fu l m) λz3=>match z3 with
 |.inl o=>(Z (.inr (o,b)))
 |.inr p=>A (d-1) λq=>L (p,q)else Z (.inl b)
def Jw(e:V v6)(g:N (N D))(h:N D):V ((N D)×J):=G (zZ fu e g) λi=>match i with
 |.inl a=>(ck (a.1=128)<|ck (WQ a.2)<|some ([],a.2))
 |.inr f=>A ((X f:J)-1) λj=>G (zg (KT fu e h f) fu ([],j)) λk=>match k with
 |.inl l=>Z<|(l,0)
 |.inr (b,d)=>ck (b.1=128)<|ck (WQ b.2)<|some (d,b.2)
def Ko(a:N D)(b:J):V D:=if b<(X a:J)then zD b (X a) λd=>B (a.getD d<|((I,[]),[])) λe=>Z e else G (ji fu 0) λf=>Z f
def mW(a b:D):V J:=G (Kc fu a b) λd=>G (Vg fu d) λe=>Z e
def KQ(e:J):rX ((N<|N D)×(N<|N D)×J) (((N<|N D)×(N<|N D))⊕ut):=λL (a,b,d)=>if 0<=d then zD e (X a) λg=>B (a.getD g []) λh=>G (Ko fu h d) λi=>zD e (X b) λj=>B (b.getD j []) λk=>G (Ko fu k d) λl=>G (mW fu i l) λf=>if f=0 then A (d-1) λm=>L (a,b,m)else if f<0 then Z (.inr wT)else Z (.inr I)else Z (.inl (a,b))
def KU(b d:N (N D)):rX J (Wd⊕ut):=λL a=>if 0<=a then zD a (X b) λe=>B (b.getD e []) λf=>zD a (X d) λg=>B (d.getD g []) λh=>B (max (X f:J)<|(X h:J)) λi=>A (i-1) λj=>G (zg (KQ fu a) fu (b,d,j)) λk=>match k with
 |.inl (t3,o)=>A (a-1) λl=>L l
 |.inr m=>Z (.inr m)else Z (.inl ())
def JJ(a b:N (N D)):V ut:=if(X a:J)=(X b:J)then A ((X a:J)-1) λd=>G (zg (KU fu a b) fu d) λe=>match e with
 |.inl _=>Z I
 |.inr f=>Z f else if(X a:J)<(X b:J)then Z wT else Z I
def UO(b:V v6)(d e:N (N D)):V ((N<|N D)×J):=G (jc fu b d e) λf=>match f with
 |.inl a=>(ck (a.1=128)<|ck (WQ a.2)<|some ([],a.2))
 |.inr g=>Z<|(g,0)
def JA(b:V v6)(d:N (N D)):V ((N<|N D)×J):=G (zZ fu b d) λe=>match e with
 |.inl a=>(ck (a.1=128)<|ck (WQ a.2)<|some ([],a.2))
 |.inr f=>Z<|(f,0)
def UX(b:V v6)(d e:N (N D)):V ((N<|N D)×J):=G (vX fu b d e wT) λf=>match f with
 |.inl a=>(ck (a.1=128)<|ck (WQ a.2)<|some ([],a.2))
 |.inr g=>Z<|(g,0)
def uR(o:ww U)(a b:ww (ww D))(f:ww D):V ut:=bd (Vi fu) λg=>bd (J4 fu o) λ(d,e)=>if(d).isNone=wT then Z g else bd (Qj fu 4<|[a,b,[f]]) λp=>if !p then Z g else bd (UY fu d a b) λ(q,r)=>bd (UX fu d a b) λ(t3,s)=>bd (UO fu d a b) λ(u,v)=>bd (JA fu d a) λ(t5,w)=>bd (Yu fu d a) λ(y,A)=>bd (Jw fu d a f) λ(B,C)=>if g then if r=0 then if s=0 then if v=0 then if w=0 then if A=0 then if C=0 then bd (az fu e a b) λE=>bd (vY fu q E) λG=>if G then bd (U3 fu e a b) λn=>bd (vY fu t3 n) λc=>if c then bd (Uh fu e a b) λh=>bd (vY fu u h) λJ=>if J then bd (vZ fu e a) λi=>bd (vY fu t5 i) λK=>if K then bd (Yy fu e a) λj=>bd (vY fu y j) λM=>if M then bd (JL fu e a f) λk=>bd (Xm fu B k) λN=>if N then bd (JJ fu a b) λt=>bd (JU fu a b) λl=>nm (t==l) λm=>Z m else Z I else Z I else Z I else Z I else Z I else Z I else Z I else Z I else Z I else Z I else Z I else Z I else Z I
end
end
section
set_option maxRecDepth 100000
def sL:Wn->Wn|.seq a _=>a|c=>c
def sR:Wn->Wn|.seq _ b=>b|c=>c
def sB:Wn->Wn|.block _ c=>c|.loop c=>c|c=>c
def cT:Wn->Wn|.cond _ a _=>a|c=>c
def cF:Wn->Wn|.cond _ _ b=>b|c=>c
def ro:Wn->N Xs|.region _ a _=>a.toList|_=>[]
def rd:Wn->K|.region i _ _=>i|_=>0
noncomputable def tB:Wn:=match Tryz.f57.body with|some c=>c|none=> .skip
noncomputable def t3:Wn:=sL<|sB<|sR tB
noncomputable def tc:Wn:=sR<|sB<|sR tB
noncomputable def t5:Wn:=sL<|cF tc
noncomputable def tc2:Wn:=sR<|cF tc
noncomputable def t67:Wn:=cT tc2
def zns:Tryz.f57.body=Z (.seq (.region 0 (ro<|sL tB).toArray I) (.block 0 (.seq (.region 3 (ro t3).toArray I) (.cond (.tmp 7) (cT tc) (.seq (.region 5 (ro t5).toArray I) (.cond (.tmp 9) t67<|cF tc2)))))):=rO
def P4(l:N Xs):N (V Wf×Op×V (K×ut)):=l.map λo=>(o.dst,o.op,o.guard)
def k0:P4 (ro<|sL tB)=[(Z 5,.call ⟨.builtin .recover,#[],#[]⟩,wS)]:=rO
def k3:P4 (ro t3)=[(Z 7,.binOp .eql 20 (.tmp 5) (.const .nilIface) 20,wS)]:=rO
def k5:P4 (ro t5)=[(Z 8,.typeAssert (.tmp 5) 20 128 wT,wS),(Z 9,.extract (.tmp 8) 1,wS),(Z 10,.extract (.tmp 8) 0,wS)]:=rO
def k4:cT tc=.region 4 (ro<|cT tc).toArray I:=rO
def k4':P4 (ro<|cT tc)=[(Z 2,.assign (.tmp 5),wS)]:=rO
def anT:An:=⟨[],[],[],[],[],[],[]⟩
noncomputable def cfT:Cf:=⟨tt,[],anT,9,ex,[],[],[],[]⟩
noncomputable def o6:N Xs:=ro<|sL t67
noncomputable def o7:N Xs:=ro<|sR t67
def k67:t67=.seq (.region 6 o6.toArray I) (.region 7 o7.toArray I):=rO
abbrev cx1:Sg:=⟨0,[(0,0,.vs 0 .i)],[]⟩
def kE(σ:Sg):V (kW×J):=match xB σ.ob 0 with
 |some (.var .i a y)=>Z (a,y)
 |_=>wS
def tAq(x z:J)(E:kW):zhZ cfT cx1 6 o6 I ⟨1,[(10,0,.d (.w1 .i) x)],[(0,.var .i E z)]⟩ (λ_ _=>wS) (λσ=>zhZ cfT cx1 7 o7 I σ (λ_ _=>wS) kE)=Z (E,x):=rO
def n6:(o6.all λo=>jM 15 o.dst)=wT:=rO
def n7:(o7.all λo=>jM 15 o.dst)=wT:=rO
def ztV:∃fs,Tryz.prog.underlying 128=Z (.struct fs):=by have⟨_,_,⟨fs,h,_⟩,_⟩:=(CW 128 ⟨.w1 .i,.st 0,8⟩ rO).2.2.2;exact⟨fs,h⟩
def zcE{l:N Xs}{d:V Wf}{a:Op}{g:V (K×ut)}(h:P4 l=[(d,a,g)]):∃o,l=[o]/\o.dst=d/\o.op=a/\o.guard=g:=by unfold P4 at h;obtain _|⟨o,_|⟨_,_⟩⟩:=l<;>simp only[xbP,xdR,xdV,xcL,gT,WR,and_false]at h;exact⟨o,O,h.1,h.2.1,h.2.2⟩
def zq1{l:N Xs}{d d2 d3:V Wf}{e b c:Op}{g f i:V (K×ut)}(h:P4 l=[(d,e,g),(d2,b,f),(d3,c,i)]):∃o o2 a,l=[o,o2,a]/\(o.dst=d/\o.op=e/\o.guard=g)/\(o2.dst=d2/\o2.op=b/\o2.guard=f)/\a.dst=d3/\a.op=c/\a.guard=i:=by unfold P4 at h;obtain _|⟨o,_|⟨o2,_|⟨a,_|⟨_,_⟩⟩⟩⟩:=l<;>simp only[xbP,xdR,xdV,xcL,gT,WR,and_false]at h;exact⟨o,o2,a,O,h.1,h.2.1,h.2.2⟩
def zrO:Tryz.prog.underlying 20=Z (.interface<|Tryz.prog.methodsAt 20):=rO
def wu{a:Z3 Xs}{H:xj}{o:Xs}(h:o.guard=wS):yX a H o=wT:=by unfold yX;rw[h]
section
variable{we:qR}{Se:wL->Prop}{F:ww MF}{G:ww FF}{H:xj}
abbrev QT(we:qR)(Se:K->Prop)(F:N MF)(G:N FF):Qs:=λe _ w=>e=.normal/\St we Se F G w
def zjl(d:H 5=.nilIface):T Tryz.prog (Nd.of 15) we Se F G (.block 0 (.seq (.region 3 (ro t3).toArray I) (.cond (.tmp 7) (cT tc) (.seq (.region 5 (ro t5).toArray I) (.cond (.tmp 9) t67<|cF tc2))))) (QT we Se F G) H:=by refine zd8<|B6 ?_;have⟨o,hl,hd,b,c⟩:=zcE k3;rw[hl];refine Qi<|rY (wu c) (by rw[hd];rfl) λw a=>ux.of_value (v:=.bool wT) (w':=w) ?_ ?_;simp[uP,b,ev,d,V5,run_eql_nil_nil (w:=w) 20 zrO];refine Nn ?_ w a;rw[hd];refine fY O ?_;rw[k4];have⟨o,hl,hd,b,c⟩:=zcE k4';rw[hl];refine Qi<|rY (wu c) (by rw[hd];rfl) λw a=>ux.of_value (w':=w) (by simp[uP,b];rfl) ?_;exact BS (λw a=>⟨O,a⟩) w a
def zn1{v:wW}{E:kW}{x z:J}(h0:H 0=v)(n:WQ x)(A:H 10=.agg #[.int .i64 x]){w:qR}(q:St we Se (mP (Ty.i).rep.c E v z::F) G w):Wp Tryz.prog (Nd.of 15) t67 (QT we Se (mP (Ty.i).rep.c E v x::F) G) H w:=by
 have r:∀s∈cfT.cs,yU Tryz.prog s:=λ_ h=>jp h H1;have t:BZ Tryz.prog cfT:=.of Hn O;have⟨b,hv,_⟩:=q.openP 0 O;have B:uK Tryz.prog ⟨we,Se,F,G⟩ cx1 ⟨1,[(10,0,.d (.w1 .i) x)],[(0,.var .i E z)]⟩ H w:=by refine⟨⟨λe j=>(by obtain rfl:=xad.1 j;exact xdj),λ_ h=>jp h H1,λe j o k=>(by obtain rfl:=xad.1 j;cases k),λe j o k=>(by obtain rfl:=xad.1 j;cases k;exact xdj)⟩,λ_=>v,?_⟩;refine q.weak λS w l=>⟨?_,?_,l⟩;show(fV (eW eI) x<|H 10).p S w;rw[A];exact⟨[.int .i64 x],O,O,n.1,n.2⟩;exact⟨h0,b,hv⟩
 rw[k67];intro a h1 C D;refine gS<|WD (E6 (N:=Nd.of 15) (Q:=λe H w=>e=.normal/\Wp Tryz.prog (Nd.of 15) (.region 7 o7.toArray I) (QT we Se (mP (Ty.i).rep.c E v x::F) G) H w) DY CW Gy r t (λ_ _ h=>by cases h) (λK L u w1 M hi=>⟨O,?_⟩) n6 (tAq x z E) B a h1 C D) ?_;refine E6 (N:=Nd.of 15) DY CW Gy r t (λ_ _ h=>by cases h) (λg hd f P R hl=>⟨O,?_⟩) n7 L hi;unfold kE at hd;split at hd;rename_i E' y k;cases hd;have⟨hB,vs,T⟩:=hl;have hc:St we Se ([mP (Ty.i).rep.c E (vs 0) x]++(MS vs (yE g.ob 0)++F)) (RS Tryz.prog vs f g.rg++(RS Tryz.prog vs f cx1.rg++G)) P:=qT k T;have⟨S,_,m⟩:=hc.ex;have e1:f 0=vs 0:=(zC.left<|zC.right (Γ:=RS Tryz.prog vs f g.rg) m).1.1;have U:f 0=v:=((R _<|xad.2 O).trans<|M _<|xad.2 O).trans h0;rw[<-e1,U]at hc;exact(St.dropM hc).weak λS w l=>zC.right<|zC.right l
 cases hd
 rintro e V w' ⟨q1,q2,rfl,Y⟩;exact Y V q1 q2 O
def zi6{v:wW}{E:kW}{x z:J}(h0:H 0=v)(j:WQ x)(d:H 5=.iface 128 (.agg #[.int .i64 x])):T Tryz.prog (Nd.of 15) we Se (mP (Ty.i).rep.c E v z::F) G (.block 0 (.seq (.region 3 (ro t3).toArray I) (.cond (.tmp 7) (cT tc) (.seq (.region 5 (ro t5).toArray I) (.cond (.tmp 9) t67<|cF tc2))))) (QT we Se (mP (Ty.i).rep.c E v x::F) G) H:=by refine zd8<|B6 ?_;have⟨o,hl,hd,k,l⟩:=zcE k3;rw[hl];refine Qi<|rY (wu l) (by rw[hd];rfl) λw b=>ux.of_value (v:=.bool I) (w':=w) ?_ ?_;simp[uP,k,ev,d,V5,run_eql_held_nil (w:=w) 20 128 _ zrO];refine Nn ?_ w b;rw[hd];refine Aj O<|B6 ?_;have⟨o1,o2,A,hl,⟨f,hc,m⟩,⟨g,n,hn⟩,hi,p,q⟩:=zq1 k5;have⟨fs,r⟩:=ztV;rw[hl];have s:put H (Z 7) (.bool I) 5=.iface 128 (.agg #[.int .i64 x]):=d;refine Qi<|rY (wu m) (by rw[f];rfl) λw b=>ux.of_value (v:=.tuple #[.agg #[.int .i64 x],.bool wT]) (w':=w) (by simp[uP,hc,ev,s,Instr.typeAssert,Z0 r]) ?_;rw[f];refine rY (wu hn) (by rw[g];rfl) (λw b=>ux.of_value (v:=.bool wT) (w':=w) (by simp[uP,n,ev,Instr.extract,put,L]) ?_) w b;rw[g];have t:put (put (put H (Z 7) (.bool I)) (Z 8) (.tuple #[.agg #[.int .i64 x],.bool wT])) (Z 9) (.bool wT) 8=.tuple #[.agg #[.int .i64 x],.bool wT]:=O;refine rY (wu q) (by rw[hi];rfl) (λw b=>ux.of_value (v:=.agg #[.int .i64 x]) (w':=w) (by simp[uP,p,ev,t,Instr.extract]) ?_) w b;rw[hi];refine Nn ?_ w b;refine fY O ?_;intro w b a h1 u h;refine WD (zn1 (H:=ya a) (by rw[h];exact h0) j (by rw[h];rfl) b a h1 u O) ?_;rintro e B w' ⟨q1,q2,rfl,y⟩;exact⟨q1,q2,O,y⟩
end
def Si{o:Xs}(b:o.op=.call ⟨.builtin .recover,#[],#[]⟩)(a:V6)(w:qR):(uP a.eval o).run Tryz.prog w=.ok .recover w:=by simp[uP,b,WN,V1,UT]
def R9{v y:wW}{a:V6}(b:a=(⟨#[v]++xdh (15- #[v].size) Z9,[]⟩:V6).put (Z 5) y):a.tmps.size=15/\a.defers=[]/\ya a 5=y/\ya a 0=v:=by subst b;refine⟨by simp[Act.put],O,?_,?_⟩;simp[Act.put,ya];simp[Act.put,ya]
def Kk:HOK Tryz.prog 57 128:=by
 have hn:Tryz.f57.ntmps=15:=rO
 have p:Tryz.f57.results= #[]:=rO
 have j:∀(a:V6) (w:qR),(V4 Tryz.f57 a.tmps).run Tryz.prog w=.ok (.tuple #[]) w:=λa w=>by simp[V4]
 have⟨o,hl,hd,hi,k⟩:=zcE k0;refine⟨rO,λv we Se F G w d=> ?_,λv E z x we Se F G w l d=> ?_⟩;refine lC (n:=0) Tryz.func57 zns jP λb cs c=>wpSIn_seq ?_;rw[hl];refine wpSIn_region ?_;have hc:mD (b::cs)=wS:=by simp[mD,c]
 show cO _ _ _ [o].toArray _ [0] _ _ _;unfold cO;simp only[xfD,xbD];refine⟨λ_ _=>jP,?_⟩;rw[Q (by simp[Region.wanted,k]),Si hi];simp only[hc,hd,hn];unfold cO;generalize f:Act.put _ _ _=a;have⟨h1,g,h,h0⟩:=R9 f.symm;refine wpSIn_of_wpIn O ?_;refine WD (zjl (F:=F) (G:=G) (we:=we) (Se:=Se) (H:=ya a) h w d a h1 g O) ?_;rintro e m w' ⟨q1,q2,rfl,i⟩;exact⟨q2,_,by rw[<-c],_,j _ _,⟨_,O⟩,O,i⟩;refine lC (n:=0) Tryz.func57 zns jP λb cs c=>wpSIn_seq ?_;rw[hl];refine wpSIn_region ?_;have hc:mD (b::cs)=Z (.iface 128 (.agg #[.int .i64 x]),{b with mode:=.panicking [{v:=.iface 128 (.agg #[.int .i64 x]),recovered:=wT}]}::cs):=by simp[mD,c,tF]
 show cO _ _ _ [o].toArray _ [0] _ _ _;unfold cO;simp only[xfD,xbD];refine⟨λ_ _=>jP,?_⟩;rw[Q (by simp[Region.wanted,k]),Si hi];simp only[hc,hd,hn];unfold cO;generalize f:Act.put _ _ _=a;have⟨h1,g,h,h0⟩:=R9 f.symm;refine wpSIn_of_wpIn O ?_;refine WD (zi6 (F:=F) (G:=G) (we:=we) (Se:=Se) (H:=ya a) (v:=v) h0 l h w d a h1 g O) ?_;rintro e m w' ⟨q1,q2,rfl,i⟩;exact⟨q2,_,O,_,j _ _,⟨_,O⟩,O,i⟩
end
section
set_option maxRecDepth 100000
section
open Go.Proofs.Tryz
variable(fu:wL)
def tn:zW ⟨97,[.d zw,.d zw],[.d .b],vv2 (XL fu),0⟩:=sq fu (f9 [(4,⟨⟨[(5,.d .i)],[]⟩,⟨[],[(.x 0,⟨[],[]⟩),(.r,⟨[],[(4,.kb I)]⟩)]⟩⟩)]) func97<|cN
def N6:zW ⟨86,[.d zk,.d zk],[.d .b],vv2 (JO fu),0⟩:=f8 fu xL func86<|ee1 tn
def Om:zW ⟨50,[.d d7,.d d7],[.d .b],vv2 (JD fu),0⟩:=f8 fu xL func50<|ee2 tn N6
def sN:zW ⟨23,[.d d8,.d d8],[.d .b],vv2 (Xm fu),0⟩:=f8 fu (f9 [(4,⟨⟨[(5,.d .i)],[]⟩,⟨[],[(.x 0,⟨[],[]⟩),(.r,⟨[],[(4,.kb I)]⟩)]⟩⟩)]) func23<|ee1 Om
def OH:zW ⟨63,[.d (.l d8),.d (.l d8)],[.d .b],vv2 (JC fu),0⟩:=f8 fu (f9 [(4,⟨⟨[(5,.d .i)],[]⟩,⟨[],[(.x 0,⟨[],[]⟩),(.r,⟨[],[(4,.kb I)]⟩)]⟩⟩)]) func63<|ee1 sN
def tS:zW ⟨18,[.d (.l d8),.d (.l d8)],[.d .b],vv2 (vY fu),0⟩:=f8 fu xL func18<|ee1 OH
def Fc:zW ⟨184,[.d zw,.d .i],[.d .u],vv2 (QC fu),0⟩:=sq fu xL func184<|cN
def P8:zW ⟨183,[.d .i,.d .u,.q zw,.q zw],[.d .u,.d .u],vv4 (mx fu),0⟩:=f8 fu xL func183<|ee1 Fc
def Yr:zW ⟨182,[.d .i,.fn [.i,.u] [.u,.u]],[.own .u 73,.d .u],λx=>qd fu x.1<|λz0 a=>x.2.1 (z0,a,()),0⟩:=sq fu (f9 [(4,q1 [(7,.d .u),(13,.d .i),(6,.own .u 73)] 0 [(7,.d .u),(6,.own .u 73)])]) func182<|cN
def vG:zW ⟨136,[.d zw],[.d zw],vv1 (w6 fu),0⟩:=sq fu (f9 [(1,q1 [(0,.d zw)] 0 [(0,.d zw)])]) func136<|cN
def xu:zW ⟨136,[.own .u 73],[.own .u 73],vv1 (xt fu),0⟩:=sq fu (f9 [(1,q1 [(0,.own .u 73)] 0 [(0,.own .u 73)])]) func136<|cN
def BP:zW ⟨139,[.d zw,.d zw],[.own .u 73],vv2 (ZO fu),0⟩:=f8 fu xL func139<|ee4 xu vG Yr P8
def Cu:zW ⟨234,[.d .i],[.d .b],vv1 (YF fu),0⟩:=sq fu xL func234<|cN
def tN:zW ⟨195,[.d .i,.d .i],[.d .i],vv2 (uZ fu),0⟩:=f8 fu xL func195<|ee1 Cu
def pJ:zW ⟨235,[.d .u],[.d .b],vv1 (kM fu),0⟩:=sq fu xL func235<|cN
def mr:zW ⟨196,[.d .u,.d .u],[.d .i],vv2 (jb fu),0⟩:=f8 fu xL func196<|ee1 pJ
def LO:zW ⟨160,[.d zw,.d zw],[.d .i],vv2 (Kg fu),0⟩:=f8 fu (f9 [(5,⟨⟨[(5,.d .i)],[]⟩,⟨[],[(.x 0,⟨[],[]⟩),(.r,⟨[(4,.d .i)],[]⟩)]⟩⟩)]) func160<|ee4 xu vG tN mr
set_option maxRecDepth 100000 in
set_option maxHeartbeats 1000000 in
def Q0(l:N K)(v0:wW)(c:X l<=17592186044416):Fn Tryz.prog 190 [v0].toArray [fV (eS eU) (l) v0] (λu:wW=>u) (λu=>[fV (eS eU) (l) u]) (λ_=>Wr):=by refine zfS func190 O O λwe Se rest=> ?_;refine zgZ (λS w h=>zpl h.1) λhc=> ?_;refine zgZ (λS w h=>zgG h.1) λhd=> ?_;refine B6 ?_;refine Qi ?_;refine Ll 1 [(0,v0)] O λrest=> ?_;refine BS ?_;refine B6 ?_;refine B6 ?_;refine Qi ?_;refine Ll 1 [(0,v0),(3,v0)] O λrest=> ?_;refine zk2 O O (zlP (e:=eU) (xs:=l) Tryz.underlying42 O O<|λS w h=>h.1) λq1 d=> ?_;refine Ll 0 [(0,v0),(4,.bool<|q1)] O λrest=> ?_;refine BS ?_;refine zoa (q1) O (λb=> ?_)<|λb=> ?_;refine B6 ?_;refine Qi ?_;refine Ll 1 [(2,.slice wS 0 0)] O λrest=> ?_;refine BS ?_;refine znU ?_;exact zsc (.slice wS 0 0:wW) Tryz.results190 O jP<|λS w h=>⟨(cvt (show([])=(l)from by first|rfl|simp_all) zgI),jP⟩;refine zn4 ?_;refine B6 ?_;refine Qi ?_;refine zji (e:=eU) O O Tryz.underlying42 zsk λv1=> ?_;refine Ll 1 [(5,v1),(6,v0)] O λrest=> ?_;refine ze8 (e:=eU) (xs:=[]) (ys:=l) 0 O O Tryz.underlying42 zsk O rx O O O (λS w h=>h.1) (by first|lia|(simp only[xbV,xau,xaN,xaw,xas,xch];lia)|(simp;lia)) (by first|lia|(simp only[xbV,xau,xaN,xaw,xas,xch];lia)|(simp;lia)) λa=> ?_;show TL _ _ _ _ [mO eU 73 a<|[]++l] _ _ _ _ _;refine Ll 1 [(2,a)] O λrest=> ?_;refine BS ?_;refine znU ?_;refine zfv (λw h=>Ou 0 h O) ?_;exact zsc a Tryz.results190 O jP<|λS w h=>⟨(cvt (show([]++l)=(l)from by first|rfl|simp_all) h.1),jP⟩
def QP(a0:N K)(a:wW)(r0:N K)(b:wo fu a0=Z r0):Fn Tryz.prog 190 [a].toArray [fV (eS eU) (a0) a] (λu:wW=>u) (λu=>[fV (eS eU) (r0) u]) (λ_=>Wr):=by have⟨c,b⟩:=ZW b;obtain rfl:=ztC b;exact Q0 a0 a c
def Jd:zW ⟨190,[.d zw],[.d zw],λx=>wo fu x.1,0⟩:=zoA (s:=zw) (t:=zw) rO λx r v h=>QP fu x v r h
def pY:zW ⟨157,[.d zw],[.d zw],vv1 (YK fu),0⟩:=f8 fu xL func157<|ee3 xu vG Jd
def Sb:zW ⟨264,[.d .i,.d .u,.q zw,.q .i],[.d .u,.d .u],vv4 (mq fu),0⟩:=sq fu xL func264<|cN
def Cb:zW ⟨140,[.d zw,.d .i],[.own .u 73],vv2 (Y3 fu),0⟩:=sq fu xL func140<|cN
def Bh:zW ⟨218,[.d zw,.d .i],[.own .u 73,.d .i],vv2 (W6 fu),0⟩:=f8 fu ⟨[],[],[],[(4,[23])],[],[],[]⟩ func218<|ee5 Sb Cb xu vG Yr
def Rm:zW ⟨265,[.d .i,.d .u,.q zw,.q .i],[.d .u,.d .u],vv4 (fX fu),0⟩:=f8 fu xL func265<|ee1 Fc
def Mm:zW ⟨220,[.d zw,.d .i],[.own .u 73],vv2 (cM fu),0⟩:=f8 fu ⟨[2,3],[],[],[],[],[],[]⟩ func220<|ee4 xu vG Rm Yr
def Xv:zW ⟨263,[.d .u],[.d .i],vv1 (vJ fu),0⟩:=sq fu (g8 [(131077,⟨[],[(.n,⟨[(0,.d .u),(2,.d .i)],[]⟩)]⟩),(327688,⟨[],[(.n,⟨[(0,.d .u),(2,.d .i)],[]⟩)]⟩)] []) func263<|cN
def Zb:zW ⟨217,[.d .u],[.d .i],vv1 (xK fu),0⟩:=f8 fu xL func217<|ee1 Xv
def ay:zW ⟨197,[.d .u,.d .u,.d .u],[.d .u,.d .u],vv3 (jh fu),0⟩:=f8 fu (f9 [(17,q1 [(15,.d .u),(16,.d .u)] 0 [(15,.d .u)]),(24,q1 [(16,.d .u),(18,.d .u)] 2 [(18,.d .u)])]) func197<|ee1 Zb
def U9:zW ⟨224,[.d .u,.d .u],[.d .u,.d .u],vv2 (q6 fu),0⟩:=sq fu xL func224<|cN
def SR:zW ⟨219,[.d .u,.d .u,.d .u,.d .u,.d .u],[.d .u],vv5 (U6 fu),0⟩:=f8 fu (f9 [(4,⟨⟨[(11,.d .u),(12,.d .u)],[]⟩,⟨[],[(.r,⟨[(10,.d .u)],[]⟩)]⟩⟩)]) func219<|ee2 U9 ay
def zau:zW ⟨225,[.d .i,.d .u,.q zw,.q zw],[.d .u,.d .u],vv4 (gQ fu),0⟩:=f8 fu xL func225<|ee1 Fc
def Ba:zW ⟨181,[.d zw,.d zw],[.own .u 73,.d .i],vv2 (Ka fu),0⟩:=f8 fu xL func181<|ee4 xu vG zau Yr
def Er:zW ⟨138,[.d zw,.d zw],[.own .u 73],vv2 (WJ fu),0⟩:=f8 fu xL func138<|ee1 Ba
def zai:zW ⟨223,[.d .i,.d .u,.q zw,.q .u],[.d .u,.d .u],vv4 (lF fu),0⟩:=f8 fu xL func223<|ee1 U9
def Mx:zW ⟨179,[.d zw,.d .u],[.own .u 73],vv2 (J8 fu),0⟩:=f8 fu xL func179<|ee2 Yr zai
def TM:zW ⟨161,[.d zw,.d .u],[.own .u 73,.d .u],vv2 (ah fu),0⟩:=f8 fu (f9 [(3,q1 [(7,.d .u),(8,.d .i),(6,.own .u 73)] 0 [(7,.d .u),(6,.own .u 73)])]) func161<|ee3 xu vG ay
def IH:zW ⟨173,[.d zw,.d zw],[.own .u 73,.d zw,.d .i],vv2 (cz fu),0⟩:=f8 fu ⟨[],[(196612,⟨[],[(.n,⟨[(23,.d .b)],[]⟩)]⟩),(327686,⟨[],[(.n,⟨[(27,.d .b)],[]⟩)]⟩)],[(16,q1 [(10,.d zw),(16,.d .i),(12,.own .u 73),(15,.own .u 73)] 1 [(12,.own .u 73),(15,.own .u 73)]),(20,⟨⟨[(9,.d .i),(14,.d .i),(17,.d .u),(18,.d zw)],[]⟩,⟨[12,15],[(.x 3,⟨[(9,.d .i),(14,.d .i),(17,.d .u),(18,.d zw)],[]⟩)]⟩⟩)],[(23,[149])],[129],[],[]⟩ func173<|e11 LO TM xu vG Er Mx Zb Bh SR Mm pY
def jq:zW ⟨108,[.d .b,.d zw],[.d zk],vv2 (xk fu),0⟩:=f8 fu xL func108<|ee1 pY
def pT:zW ⟨141,[.d zk,.d zk],[.d zk,.d zk,.d .i],vv2 (Vc fu),0⟩:=f8 fu (g8 [(327688,⟨[4,5],[(.n,⟨[(7,.own .u 73),(8,.d zw)],[]⟩)]⟩)] []) func141<|ee4 BP jq IH Ba
def Xa:zW ⟨135,[.d zk],[.d zk],vv1 (qp fu),0⟩:=f8 fu xL func135<|ee1 jq
def qj:zW ⟨98,[.d zk],[.d .i],vv1 (xF fu),0⟩:=f8 fu ⟨[1],[],[],[],[],[],[]⟩ func98<|ee1 Xa
def X5:zW ⟨91,[.d zk,.d zk],[.d zk,.d .i],vv2 (v7 fu),0⟩:=f8 fu (g8 [(196612,⟨[4,6,7],[(.n,⟨[(16,.d .b)],[]⟩)]⟩)] []) func91<|ee2 qj pT
def o8:zW ⟨130,[.d zk,.d zk],[.d zk],vv2 (WU fu),0⟩:=f8 fu (f9 [(2,⟨⟨[(5,.d zw),(6,.d zw)],[]⟩,⟨[4],[(.x 0,⟨[(5,.d zw)],[]⟩)]⟩⟩)]) func130<|ee3 jq pY IH
def dw:zW ⟨131,[.d zk],[.d zk],vv1 (Zc fu),0⟩:=f8 fu xL func131<|ee1 jq
def pf:zW ⟨83,[.d zk,.d zk],[.d d7,.d .i],vv2 (YO fu),0⟩:=f8 fu xL func83<|ee4 qj X5 dw o8
def MO:zW ⟨137,[.d zw,.d zw],[.own .u 73],vv2 (Jv fu),0⟩:=f8 fu (g8 [(262149,⟨[5],[(.n,⟨[(0,.d zw),(18,.d zw),(19,.d .i),(21,.d .b)],[]⟩)]⟩),(524297,⟨[5,27],[(.n,⟨[(0,.d zw),(6,.d .i),(18,.d zw),(19,.d .i),(20,.d .i),(28,.d .i),(30,.d .b)],[]⟩)]⟩)] [(3,q1 [(20,.d .i),(5,.own .u 73)] 0 [(5,.own .u 73)]),(7,q1 [(8,.d .u),(29,.d .i),(5,.own .u 73),(27,.own .u 73)] 2 [(5,.own .u 73)])]) func137<|ee3 xu vG Mx
def ze9:Wq:=⟨90,[.d zw,.d zw],[.own .u 73],λx=>ZX fu x.1 x.2.1,0⟩
def nh:∀fu:K,zW (ze9 fu)
 |0=>sg0 rO λ_=>O
 |fu+1=>sq fu xL func90<|cC (xu fu)<|cC (vG fu)<|cC (MO fu)<|cC (Er fu)<|cC (BP fu)<|cC (Cb fu)<|cC (nh fu)<|cN
def xq:zW ⟨92,[.d zk,.d zk],[.d zk],vv2 (zP fu),0⟩:=f8 fu xL func92<|ee2 nh jq
def Zv:zW ⟨194,[.d zk,.d zk],[.d zk],vv2 (vT fu),0⟩:=f8 fu ⟨[2,3],[(262150,⟨[4],[(.n,⟨[(2,.var zk 44),(3,.var zk 44)],[]⟩)]⟩)],[],[],[],[],[]⟩ func194<|ee4 LO BP jq Ba
def WV:zW ⟨193,[.d zk,.d zk],[.d zk],vv2 (qL fu),0⟩:=f8 fu xL func193<|ee2 Zv dw
def EE:zW ⟨134,[.d .i,.d zk],[.d zk],vv2 (K1 fu),0⟩:=f8 fu xL func134<|ee1 Xa
def xw:zW ⟨127,[.d yG,.fn [.i,zk] [zk]],[.own zk 44],λx=>zJ fu x.1<|λz0 a=>x.2.1 (z0,a,()),0⟩:=sq fu (g8 [(262149,⟨[5],[(.n,⟨[(11,.d yG),(12,.d .i),(14,.d .b)],[]⟩)]⟩)] [(3,q1 [(13,.d .i),(5,.own zk 44)] 0 [(5,.own zk 44)])]) func127<|cN
def xo:zW ⟨88,[.d yG],[.own zk 44],vv1 (zQ fu),0⟩:=f8 fu (f9 [(1,q1 [(0,.d yG)] 0 [(0,.d yG)])]) func88<|ee3 qj EE xw
def gj:Wq:=⟨216,[.d yG,.d yG],[.own zk 44,.d .i],λx=>wB fu x.1 x.2.1,0⟩
def aB:zW (gj fu):=f8 fu ⟨[],[(327687,⟨[1,6],[(.n,⟨[],[]⟩),(.r,⟨[],[(4,.nil),(5,.ci 4)]⟩)]⟩),(1048593,⟨[1,6,7,9],[(.n,⟨[(8,.d .i),(71,.d .i),(73,.d .b)],[]⟩)]⟩)],[(8,⟨⟨[(8,.d .i),(1,.own zk 44),(6,.own zk 44),(7,.own zk 44)],[]⟩,⟨[],[(.x 0,⟨[(6,.own zk 44),(7,.own zk 44)],[]⟩),(.r,⟨[(5,.d .i)],[(4,.nil)]⟩)]⟩⟩),(15,⟨⟨[(72,.d .i),(1,.own zk 44),(6,.own zk 44),(7,.own zk 44),(9,.var zk 44)],[(70,.al 1)]⟩,⟨[],[(.x 2,⟨[(1,.own zk 44),(6,.own zk 44),(7,.own zk 44)],[]⟩)]⟩⟩)],[(10,[])],[],[],[]⟩ func216<|ee4 xo WV X5 xq
def Oj:zW ⟨172,[.d yG,.d yG],[.d .i],vv2 (Wg fu),0⟩:=f8 fu (f9 [(3,q1 [(5,.d .i),(6,.own zk 44),(7,.d .i)] 0 [(5,.d .i)])]) func172<|ee1 aB
def K5:zW ⟨247,[.d .i],[.d .b],vv1 (Zz fu),0⟩:=sq fu (g8 [(131075,⟨[],[(.n,⟨[(3,.d .b)],[]⟩)]⟩)] [(3,q1 [(3,.d .b),(4,.d .i)] 0 [(3,.d .b)])]) func247<|cN
def xC:zW ⟨65,[.d .i],[.d zk],vv1 (yo fu),0⟩:=f8 fu xL func65<|ee1 jq
def ek:zW ⟨241,[.d zw],[.d .i],vv1 (ZD fu),0⟩:=f8 fu xL func241<|ee3 xu vG Xv
def zb9:zW ⟨248,[.d zk,.d .i],[.d zk,.d .i],vv2 (da fu),0⟩:=f8 fu (g8 [(131075,⟨[4],[(.n,⟨[(8,.d .b)],[]⟩)]⟩)] [(7,⟨⟨[(1,.d .i),(7,.var zk 44),(6,.var zk 44)],[]⟩,⟨[4],[(.x 1,⟨[(6,.var zk 44)],[]⟩)]⟩⟩)]) func248<|ee4 xC ek xq Xa
def K0:zW ⟨210,[.d .i,.d .i],[.d zk,.d .i],vv2 (qC fu),0⟩:=f8 fu xL func210<|ee3 zb9 xC K5
def lR:zW ⟨339,[.d yG,.d zk,.fn [zk,zk] [zk,.i]],[.own zk 44,.d .i],λx=>qN fu x.1 x.2.1<|λz0 a=>x.2.2.1 (z0,a,()),0⟩:=f8 fu (g8 [(393223,⟨[8],[(.n,⟨[(4,.q zk),(17,.d yG),(18,.d .i),(20,.d .b)],[]⟩)]⟩)] [(5,q1 [(19,.d .i),(8,.own zk 44)] 0 [(8,.own zk 44)])]) func339<|ee2 xo qj
def JE:zW ⟨315,[.d zk,.d zk],[.d zk,.d .i],vv2 (q8 fu),0⟩:=f8 fu xL func315<|ee2 qj pT
def tI:zW ⟨298,[.d yG,.d zk],[.own zk 44,.d .i],vv2 (Xx fu),0⟩:=f8 fu xL func298<|ee2 JE lR
def JM:zW ⟨256,[.d yG,.d zk],[.own zk 44],vv2 (xp fu),0⟩:=f8 fu xL func256<|ee1 tI
def jz:zW ⟨287,[.d .i],[.d .i],vv1 (vj fu),0⟩:=f8 fu xL func287<|ee1 K5
def lB:zW ⟨319,[.d .i,.d .i],[.d .i],vv2 (ZJ fu),0⟩:=sq fu xL func319<|cN
def EF:Wq:=⟨331,[.d .i,.d .i],[.d .i,.d .i],λx=>Qu fu x.1 x.2.1,0⟩
def GP:zW (EF fu):=f8 fu (f9 [(5,⟨⟨[(7,.d .i),(8,.d .i),(9,.d .i),(10,.d .i)],[]⟩,⟨[],[(.x 0,⟨[(10,.d .i)],[]⟩),(.r,⟨[],[(4,.ci 0),(5,.ci 3)]⟩)]⟩⟩)]) func331<|ee2 lB jz
def wb:zW ⟨288,[.d xg,.d .i],[.own .i 3],vv2 (yh fu),0⟩:=f8 fu (f9 [(3,q1 [(13,.d .i),(5,.own .i 3)] 0 [(5,.own .i 3)]),(7,q1 [(5,.own .i 3)] 2 [(5,.own .i 3)])]) func288<|ee1 lB
def QY:zW ⟨289,[.d xg,.d xg,.d .i],[.own .i 3,.own .i 3],vv3 (xR fu),0⟩:=f8 fu (g8 [(851982,⟨[8,12],[(.n,⟨[(9,.d .i),(13,.d .i),(61,.d xg),(62,.d .i),(64,.d .b)],[]⟩)]⟩)] [(7,q1 [(9,.d .i),(8,.own .i 3),(12,.own .i 3)] 0 [(8,.own .i 3),(12,.own .i 3)]),(12,q1 [(1,.d xg),(2,.d .i),(10,.d .i),(63,.d .i),(8,.own .i 3),(12,.own .i 3)] 2 [(1,.d xg),(2,.d .i),(10,.d .i),(8,.own .i 3),(12,.own .i 3)])]) func289<|ee2 wb GP
def YE:zW ⟨332,[.d xg,.d xg,.d .i],[.own .i 3],vv3 (wZ fu),0⟩:=f8 fu (g8 [(262149,⟨[7],[(.n,⟨[(1,.d xg),(2,.d .i),(18,.d xg),(19,.d .i),(21,.d .b)],[]⟩)]⟩),(458760,⟨[7],[(.n,⟨[(1,.d xg),(2,.d .i),(8,.d .i),(9,.d .i),(18,.d xg),(19,.d .i),(20,.d .i),(25,.d xg),(26,.d .i),(28,.d .b)],[]⟩)]⟩)] [(3,q1 [(20,.d .i),(7,.own .i 3)] 0 [(7,.own .i 3)]),(6,q1 [(27,.d .i),(7,.own .i 3)] 2 [(7,.own .i 3)])]) func332<|ee1 wb
def iw:zW ⟨369,[.d xg,.d xg,.d .i,.d .i],[.own .i 3],vv4 (Xe fu),0⟩:=f8 fu (g8 [(327686,⟨[9],[(.n,⟨[(2,.d .i),(3,.d .i),(21,.d xg),(22,.d .i),(24,.d .b)],[]⟩)]⟩)] [(4,q1 [(23,.d .i),(9,.own .i 3)] 0 [(9,.own .i 3)])]) func369<|ee1 wb
def Na:zW ⟨335,[.d (.a 3 xg),.d (.a 3 xg),.d .i],[.d (.a 3 xg)],vv3 (Xk fu),0⟩:=f8 fu ⟨[3],[(262149,⟨[3,6],[(.n,⟨[(2,.d .i),(4,.q (.a 3 xg)),(20,.d .b)],[]⟩)]⟩)],[(3,⟨⟨[(7,.d xg),(19,.d .i),(3,.var (.a 3 xg) 301),(6,.var (.a 3 xg) 301)],[]⟩,⟨[8],[(.x 0,⟨[(3,.var (.a 3 xg) 301),(6,.var (.a 3 xg) 301)],[]⟩)]⟩⟩)],[],[],[],[]⟩ func335<|ee3 QY YE iw
def lH:zW ⟨336,[.d xg,.d .i,.d .i],[.own .i 3],vv3 (qE fu),0⟩:=f8 fu xL func336<|ee2 GP YE
def iW:zW ⟨296,[.d xg,.d xg,.d .i],[.d xg,.d xg,.d xg,.d .i],vv3 (Ze fu),0⟩:=f8 fu (g8 [(589834,⟨[11],[(.n,⟨[(44,.d .b)],[]⟩)]⟩)] [(5,q1 [(11,.var (.a 3 xg) 301),(12,.var (.a 3 xg) 301)] 0 [(11,.var (.a 3 xg) 301)]),(11,q1 [(51,.d .i),(11,.var (.a 3 xg) 301)] 2 [(11,.var (.a 3 xg) 301)])]) func296<|ee4 wb lH Na jz
def gX:zW ⟨291,[.d xg,.d xg,.d .i],[.d xg,.d .i],vv3 (kv fu),0⟩:=f8 fu xL func291<|ee1 iW
def UG:zW ⟨292,[.d xg,.d xg,.d .i],[.own .i 3,.d .i],vv3 (ku fu),0⟩:=f8 fu xL func292<|ee3 wb YE jz
def Cl:zW ⟨333,[.d xg,.d xg,.d .i],[.own .i 3,.d .i],vv3 (V8 fu),0⟩:=f8 fu xL func333<|ee3 wb iw jz
def Gg:zW ⟨294,[.d xg,.d xg,.d .i],[.d .b],vv3 (XA fu),0⟩:=f8 fu xL func294<|ee1 Cl
def GN:zW ⟨290,[.d xg,.d .i],[.d .b],vv2 (X9 fu),0⟩:=sq fu (f9 [(2,⟨⟨[(9,.d .i)],[]⟩,⟨[],[(.x 0,⟨[],[]⟩),(.r,⟨[],[(4,.kb I)]⟩)]⟩⟩)]) func290<|cN
def cy:zW ⟨293,[.d (.l xg),.d .i],[.own .i 3],vv2 (qw fu),0⟩:=f8 fu (f9 [(3,q1 [(5,.own .i 3),(11,.d .i)] 0 [(5,.own .i 3)])]) func293<|ee1 UG
def Oc:zW ⟨316,[.d zk],[.d .i,.d .b],vv1 (JV fu),0⟩:=f8 fu ⟨[1],[(196612,⟨[1],[(.n,⟨[(6,.d .b)],[]⟩)]⟩),(327686,⟨[1],[(.n,⟨[(11,.d .b)],[]⟩)]⟩),(458760,⟨[1],[(.n,⟨[(16,.d .b)],[]⟩)]⟩)],[],[],[],[],[]⟩ func316<|ee1 Xa
def SD:zW ⟨274,[.d zk,.d .i],[.d .i,.d .i],vv2 (Uv fu),0⟩:=f8 fu ⟨[],[],[],[(1,[])],[],[],[]⟩ func274<|ee3 xC JE Oc
def Il:zW ⟨273,[.d .i,.d zk,.q .i],[.d .i],vv3 (VL fu),0⟩:=f8 fu xL func273<|ee1 SD
def aL:zW ⟨272,[.d yG,.fn [.i,zk] [.i]],[.own .i 3],λx=>jw fu x.1<|λz0 a=>x.2.1 (z0,a,()),0⟩:=sq fu (g8 [(262149,⟨[5],[(.n,⟨[(11,.d yG),(12,.d .i),(14,.d .b)],[]⟩)]⟩)] [(3,q1 [(13,.d .i),(5,.own .i 3)] 0 [(5,.own .i 3)])]) func272<|cN
def Qt:zW ⟨244,[.d yG,.d .i],[.own .i 3,.d .i],vv2 (Zw fu),0⟩:=f8 fu (f9 [(4,q1 [(6,.own .i 3)] 0 [(6,.own .i 3)])]) func244<|ee2 aL Il
def Ef:zW ⟨254,[.d yG,.d (.l xg),.d .i],[.d .b],vv3 (vE fu),0⟩:=f8 fu (g8 [(393223,⟨[7],[(.n,⟨[(0,.d yG),(1,.d (.l xg)),(2,.d .i),(40,.d (.l xg)),(41,.d .i),(43,.d .b)],[]⟩)]⟩)] [(5,⟨⟨[(42,.d .i),(7,.own .i 3)],[]⟩,⟨[],[(.x 0,⟨[(7,.own .i 3)],[]⟩),(.r,⟨[],[(6,.kb I)]⟩)]⟩⟩),(10,⟨⟨[(62,.d .i)],[]⟩,⟨[7],[(.x 2,⟨[],[]⟩),(.r,⟨[],[(6,.kb I)]⟩)]⟩⟩)]) func254<|ee6 GN gX UG cy Gg Qt
def Bt:zW ⟨338,[.d yG,.d yG,.d zk],[.d yG,.own zk 44],vv3 (jY fu),0⟩:=f8 fu ⟨[],[(589834,⟨[8,9],[(.n,⟨[(10,.d .i),(47,.d yG),(48,.d .i),(50,.d .b)],[]⟩)]⟩)],[(4,q1 [(10,.d .i),(8,.own zk 44),(9,.own zk 44)] 0 [(8,.own zk 44),(9,.own zk 44)]),(8,q1 [(1,.d yG),(5,.q zk),(49,.d .i),(8,.own zk 44),(9,.own zk 44)] 2 [(1,.d yG),(5,.q zk),(8,.own zk 44),(9,.own zk 44)])],[(6,[])],[],[],[]⟩ func338<|ee4 JM WV JE xq
def Hv:zW ⟨312,[.d .i,.d zk,.q yG],[.d zk],vv3 (uB fu),0⟩:=f8 fu xL func312<|ee1 Zv
def B7:zW ⟨267,[.d yG,.d yG],[.own zk 44],vv2 (qf fu),0⟩:=f8 fu ⟨[3],[],[],[],[],[],[]⟩ func267<|ee3 Hv xo xw
def B0:zW ⟨337,[.d yG,.d yG],[.own zk 44],vv2 (wA fu),0⟩:=f8 fu (g8 [(262149,⟨[5],[(.n,⟨[(1,.d yG),(16,.d yG),(17,.d .i),(19,.d .b)],[]⟩)]⟩),(458760,⟨[5,7],[(.n,⟨[(1,.d yG),(6,.d .i),(16,.d yG),(17,.d .i),(18,.d .i),(23,.d yG),(24,.d .i),(26,.d .b)],[]⟩)]⟩)] [(3,q1 [(18,.d .i),(5,.own zk 44)] 0 [(5,.own zk 44)]),(6,q1 [(25,.d .i),(5,.own zk 44),(7,.var zk 44)] 2 [(5,.own zk 44)])]) func337<|ee3 xo Zv xq
def Eh:zW ⟨149,[.d .i,.d .i],[.d zk],vv2 (XZ fu),0⟩:=f8 fu xL func149<|ee1 xC
def aI:zW ⟨148,[.d xg,.fn [.i,.i] [zk]],[.own zk 44],λx=>jA fu x.1<|λz0 a=>x.2.1 (z0,a,()),0⟩:=sq fu (f9 [(3,q1 [(13,.d .i),(5,.own zk 44)] 0 [(5,.own zk 44)])]) func148<|cN
def sQ:zW ⟨102,[.d xg],[.own zk 44],vv1 (ja fu),0⟩:=f8 fu xL func102<|ee3 xo aI Eh
def Gl:zW ⟨56,[.d xg],[.own zk 44],vv1 (Ua fu),0⟩:=f8 fu xL func56<|ee1 sQ
def CV:zW ⟨266,[.d .i,.d zk,.q zk],[.d zk],vv3 (Ja fu),0⟩:=f8 fu xL func266<|ee1 xq
def VN:zW ⟨227,[.d yG,.d zk],[.own zk 44],vv2 (qm fu),0⟩:=f8 fu xL func227<|ee3 xo CV xw
def B3:zW ⟨228,[.d yG,.d yG],[.own zk 44],vv2 (kn fu),0⟩:=f8 fu xL func228<|ee3 B7 xC VN
def AW:zW ⟨297,[.d (.a 4 yG),.d yG,.d zk],[.d (.a 4 yG)],vv3 (jR fu),0⟩:=f8 fu xL func297<|ee6 JM B3 B7 B0 Bt Gl
def A6:zW ⟨370,[.d (.p zk (.p zk zk)),.d zk,.d (.p zk (.p zk zk))],[.d (.p zk (.p zk zk))],vv3 (ZV fu),0⟩:=f8 fu xL func370<|ee2 WV xq
def HS:zW ⟨334,[.d zk,.d zk],[.d zk,.d zk,.d zk],vv2 (VH fu),0⟩:=f8 fu ⟨[],[(393224,⟨[4,5,6],[(.n,⟨[(7,.var (.p zk (.p zk zk)) 335)],[]⟩)]⟩),(524298,⟨[4,5,6],[(.n,⟨[(7,.var (.p zk (.p zk zk)) 335)],[]⟩)]⟩)],[(2,⟨⟨[(7,.var (.p zk (.p zk zk)) 335),(8,.var (.p zk (.p zk zk)) 335)],[]⟩,⟨[4,5,6],[(.x 0,⟨[(7,.var (.p zk (.p zk zk)) 335)],[]⟩)]⟩⟩)],[(1,[]),(9,[])],[],[],[]⟩ func334<|ee6 xC qj dw jq pT A6
def O1:zW ⟨295,[.d yG,.d zk],[.own zk 44],vv2 (JI fu),0⟩:=f8 fu ⟨[],[],[],[(1,[])],[],[],[]⟩ func295<|ee3 JM VN HS
def H2:Wq:=⟨255,[.d yG,.d (.l xg),.d .i,.d .i,.d zk],[.own yG 22],λx=>qi fu x.1 x.2.1 x.2.2.1 x.2.2.2.1 x.2.2.2.2.1,0⟩
def n4:∀fu:K,zW (H2 fu)
 |0=>sg0 rO λ_=>O
 |fu+1=>sq fu ⟨[],[],[(10,q1 [(22,.d .i),(21,.var (.a 4 yG) 273)] 0 [(21,.var (.a 4 yG) 273)])],[(14,[])],[],[],[]⟩ func255<|cC (UG fu)<|cC (cy fu)<|cC (sQ fu)<|cC (O1 fu)<|cC (iW fu)<|cC (AW fu)<|cC (K0 fu)<|cC (Qt fu)<|cC (n4 fu)<|cN
def oc:zW ⟨212,[.d yG,.d (.l xg),.d .i,.d .i],[.own yG 22,.d .i],vv4 (jB fu),0⟩:=f8 fu xL func212<|ee5 JM K0 xo Ef n4
def Nx:zW ⟨300,[.d yG,.d yG,.d zk],[.d yG,.d .i],vv3 (Jt fu),0⟩:=f8 fu xL func300<|ee2 B0 tI
def Ki:zW ⟨246,[.d zk,.d zk],[.d .i],vv2 (kJ fu),0⟩:=f8 fu xL func246<|ee2 WV qj
def MZ:zW ⟨340,[.d zk,.d zk],[.d zk,.d .i],vv2 (XX fu),0⟩:=f8 fu xL func340<|ee4 WV Zv JE Ki
def HV:zW ⟨301,[.d yG,.d zk],[.own zk 44,.d .i],vv2 (Vw fu),0⟩:=f8 fu xL func301<|ee2 lR MZ
def Q6:zW ⟨126,[.d yG],[.d zk],vv1 (vN fu),0⟩:=f8 fu (g8 [(327686,⟨[0,2,3],[(.n,⟨[(10,.d .i),(12,.d .b)],[]⟩)]⟩)] [(4,⟨⟨[(11,.d .i),(0,.own zk 44),(2,.var zk 44),(3,.var zk 44)],[(9,.al 0)]⟩,⟨[],[(.x 0,⟨[(0,.own zk 44),(2,.var zk 44),(3,.var zk 44)],[]⟩)]⟩⟩)]) func126<|ee4 xo xC o8 dw
def Ed:zW ⟨128,[.d .i,.d zk,.q zk],[.d zk],vv3 (K6 fu),0⟩:=f8 fu xL func128<|ee1 X5
def dH:Wq:=⟨81,[.d yG],[.own zk 44],λx=>wh fu x.1,0⟩
def ZM:zW (dH fu):=f8 fu xL func81<|ee4 xo Ed Q6 xw
def Yc:Wq:=⟨258,[.d yG,.d tzQ,.own .i 3,.d zk],[.d yG,.own .i 3],λx=>jJ fu x.1 x.2.1 x.2.2.1 x.2.2.2.1,1⟩
def nT:zW (Yc fu):=sgb (fu:=fu) ⟨[],[(262149,⟨[2],[(.n,⟨[(1,.d tzQ),(7,.q zk),(18,.d .i),(20,.d .b)],[]⟩)]⟩)],[(3,⟨⟨[(9,.d yG),(19,.d .i),(2,.own .i 3)],[(17,.al 2)]⟩,⟨[],[(.x 0,⟨[(9,.d yG),(2,.own .i 3)],[]⟩)]⟩⟩)],[],[],[],[]⟩ func258 (cC (ZM fu)<|cC (Nx fu)<|cC (HV fu)<|cN) rO λa x=>by kernel_rfl
def Vf:HK:=⟨299,[.q .i,.q .i],.i,3,λx _ _ g x0=>vm fu x.1 x.2.1 g x0⟩
def anC:An:=⟨[],[],[(2,⟨⟨[(4,.own .i 3),(12,.d .i)],[]⟩,⟨[0],[(.x 0,⟨[(4,.own .i 3)],[]⟩)]⟩⟩),(8,⟨⟨[(6,.d .i)],[]⟩,⟨[0,4],[(.x 4,⟨[(6,.d .i)],[]⟩)]⟩⟩),(13,⟨⟨[(7,.d .i),(4,.own .i 3)],[]⟩,⟨[0],[(.x 6,⟨[(4,.own .i 3)],[]⟩)]⟩⟩)],[],[],[],[]⟩
def znQ:Wn->Wn|.seq a _=>a|c=>c
def IW:Wn->Wn|.seq _ b=>b|c=>c
def kIn:Wn->Wn|.block _ c=>c|.loop c=>c|c=>c
def Mz(f:WT):Wn:=match f.body with|some c=>c|none=> .skip
noncomputable def kA:Wn:=znQ<|Mz f299
noncomputable def kB:Wn:=znQ<|IW<|Mz f299
noncomputable def kC:Wn:=kIn<|kIn<|IW<|IW<|Mz f299
section
variable{X Y R:Type}{mX:X->wW->MF}{mY:Y->wW->MF}{g:ww wF->X->wN (ww wF×(X⊕Y))}{n all:wF}
def cfC:Cf:=⟨tt,[],anC,fu,ex,[],[],[],[]⟩
def S0(mX:X->wW->MF)(mY:Y->wW->MF)(g:N J->X->V (N J×(X⊕Y)))(n all:J)(x0:X):Sg:=⟨1,[(0,0,.yd 0),(1,0,.q .i n),(2,0,.q .i all)],[(0,.hid .i 3 X Y mX mY g x0)]⟩
def S1(mX:X->wW->MF)(mY:Y->wW->MF)(g:N J->X->V (N J×(X⊕Y)))(n all:J)(x0:X)(xs:N J):Sg:=⟨2,[(4,0,.ow 1),(9,0,.ow 1),(8,0,.d .i n),(0,0,.yd 0),(1,0,.q .i n),(2,0,.q .i all)],[(1,.own .i 3 xs),(0,.hid .i 3 X Y mX mY g x0)]⟩
def S2(mX:X->wW->MF)(mY:Y->wW->MF)(g:N J->X->V (N J×(X⊕Y)))(n all:J)(x0:X)(xs ys:N J):Sg:=⟨3,[(4,0,.ow 2),(4,0,.ow 2),(11,0,.d .i (Ap xs:J)),(8,0,.d .i n),(0,0,.yd 0),(1,0,.q .i n),(2,0,.q .i all)],[(2,.own .i 3 ys),(0,.hid .i 3 X Y mX mY g x0)]⟩
def Sn(mX:X->wW->MF)(mY:Y->wW->MF)(g:N J->X->V (N J×(X⊕Y)))(n all:J)(x:X)(xs:N J)(b a c y x0:J):Sg:=
 ⟨5,[(4,0,.ow 4),(4,0,.ow 4),(51,0,.d .i b),(50,0,.d .i a),(48,0,.d .i c),(47,0,.d .i y),(45,0,.d .i a),(43,0,.kb I),(42,0,.d .i a),(6,0,.d .i a),(6,0,.d .i a),(25,0,.d .i x0),(24,0,.d .i n),(23,0,.kb I),(22,0,.kb wT),(20,0,.yd 2),(0,0,.yd 2),(1,0,.q .i n),(2,0,.q .i all)],[(4,.own .i 3 xs),(2,.hid .i 3 X Y mX mY g x)]⟩
def Sr(mX:X->wW->MF)(mY:Y->wW->MF)(g:N J->X->V (N J×(X⊕Y)))(n all:J)(x:X)(x0 a:J)(xs:N J):Sg:=
 ⟨4,[(43,0,.kb wT),(42,0,.d .i a),(6,0,.d .i a),(6,0,.d .i a),(25,0,.d .i x0),(24,0,.d .i n),(23,0,.kb I),(22,0,.kb wT),(21,0,.ow 1),(20,0,.yd 2),(4,0,.ow 1),(0,0,.yd 2),(1,0,.q .i n),(2,0,.q .i all)],[(2,.hid .i 3 X Y mX mY g x),(1,.own .i 3 xs)]⟩
def Sy(mY:Y->wW->MF)(n all:J)(y:Y)(xs:N J):Sg:=
 ⟨3,[(23,0,.kb wT),(22,0,.kb I),(21,0,.ow 1),(20,0,.yd 2),(4,0,.ow 1),(0,0,.yd 2),(1,0,.q .i n),(2,0,.q .i all)],[(2,.hiy Y mY y),(1,.own .i 3 xs)]⟩
def zto(x0:X)(K:Tg->Sg->V R):den (cfC fu) kA ⟨0,[],[]⟩ (S0 mX mY g n all x0) K=jt n λm=>ck (8*m<=281474976710656)<|B (So m 0) λxs=>K .n (S1 mX mY g n all x0 xs):=rO
def ztu(x0:X)(xs:N J)(K:Tg->Sg->V R):den (cfC fu) kB ⟨0,[],[]⟩ (S1 mX mY g n all x0 xs) K=G (zg (λL (z:N J×J)=>
 if z.2<(Ap xs:J)then
  zD z.2 (Ap z.1) λj=>
  B (z.1.set j z.2) λxs=>
  A (z.2+1) λi=>L (xs,i)
 else Z z.1) fu (xs,0)) λys=>K .n (S2 mX mY g n all x0 xs ys):=rO
def zti(x:X)(xs:N J)(K:Tg->Sg->V R):den (cfC fu) kC ⟨0,[],[]⟩ (chS 3 mX mY g n all x xs) K=
 qA fu n all g x xs (λx xs a b c d e=>K .n<|Sn mX mY g n all x xs a b c d e) (λx a b xs=>K .r<|Sr mX mY g n all x a b xs) λy xs=>K .r (Sy mY n all y xs):=rO
def zmG(g:ww J->X->V (ww J×(X⊕Y)))(x0:X)(r:X⊕Y)(l:wL)(v1 M u:wW)(we:qR)(Se:wL->Prop)(F:ww MF)(G:ww FF)(w:qR)(hY:P6 Tryz.prog l eI 3 mX mY g)
 (hi:St we Se (mX x0 u::F) (jC Tryz.prog [.q .i,.q .i] (n,all,()) [v1,M]++G) w) (hM:vm fu n all g x0=Z r):
 aM Tryz.prog 299 #[.func (.yield l) #[] #[],v1,M] w λe w'=>(∃v,e=.returned v)/\∃D,St we Se (xfi (λx=>mX x D) (λy=>mY y D) r::F) G w':=by
 have hX:BZ Tryz.prog (cfC fu):=.of Hn O;have hD:∀c,PK 66 c=wT->LP Tryz.prog (cfC fu) 66 c:=λc h=>Ym DY CW Gy cN hX c h;refine b8 (args:=[.func (.yield l) #[] #[],v1,M]) (c:=Mz f299) func299 O rO λrest=> ?_;have hj:uK Tryz.prog (Fr.wd ⟨we,Se,F,G⟩ []) ⟨0,[],[]⟩ (S0 mX mY g n all x0) (L ((([Value.func (.yield l) #[] #[],v1,M]:ww wW).zipIdx 0).map λx=>(x.2,x.1)) rest) w:=by
  refine⟨⟨λe E=> ?_,λ_ E=>jp E H1,λe E q hq=> ?_,λ_ E=>jp E H1⟩,λ_=>cK (.int .i64 (l:J)) [u],?_⟩;obtain rfl:=xad.1 E;exact xdj;simp only[S0,xai,H1,mK]at E;obtain rfl|rfl|rfl:=E<;>cases hq<;>exact xdj
  have h1:St we Se (Ug (λ_=>cK (.int .i64 (l:J)) [u]) (0,.hid .i 3 X Y mX mY g x0)::F) (jC Tryz.prog [.q .i,.q .i] (n,all,()) [v1,M]++G) w:=St.grp.2<|St.pr hY hi;exact h1.weak λS w U=>⟨O,U.1,U.2.1,U.2.2⟩
 have⟨f2,hf⟩:∃f2:ww J->V (X⊕Y),f2=λxs=>zg (λL (q:X×ww J)=>qA fu n all g q.1 q.2 (λx xs _ _ _ _ _=>L (x,xs)) (λx _ _ _=>Z (.inl x)) λy _=>Z (.inr y)) fu (x0,xs):=⟨_,O⟩;have⟨f1,hg⟩:∃f1:ww J->V (X⊕Y),f1=λxs=>bd (zg (λL (z:ww J×J)=>
  if z.2<(Ap xs:J)then
   zD z.2 (Ap z.1) λj=>
   B (z.1.set j z.2) λxs=>
   A (z.2+1) λi=>L (xs,i)
  else Z z.1) fu (xs,0)) f2:=⟨_,O⟩
 have hm:(jt n λm=>ck (8*m<=281474976710656)<|B (So m 0) f1)=Z r:=by rw[hg,hf];exact hM
 refine Dx (x:=kA) (y:=IW<|Mz f299) ?_;have⟨K,k1,k2⟩:=zhI (λxs:ww J=>(Tg.n,S1 mX mY g n all x0 xs)) f1 (λi j h=>by
  have f:Od.own .i 3 i=Od.own .i 3 j:=by simpa[S1]using h
  cases f;rfl)
 have k1:∀xs,K .n (S1 mX mY g n all x0 xs)=f1 xs:=k1;refine hD kA rO (N:=Nd.of 66) (K:=K) O (.inl O) (r:=r) ((zto fu x0 K).trans<|by simp only[k1];exact hm) (λt m6 P Ds H w _ s=> ?_) hj;have⟨xs,e1,e2⟩:=k2 _ _ _ P;cases e1;refine Dx (x:=kB) (y:=IW<|IW<|Mz f299) ?_;have⟨K,k1,k2⟩:=zhI (λys:ww J=>(Tg.n,S2 mX mY g n all x0 xs ys)) f2 (λi j h=>by
  have f:Od.own .i 3 i=Od.own .i 3 j:=by simpa[S2]using h
  cases f;rfl)
 have k1:∀ys,K .n (S2 mX mY g n all x0 xs ys)=f2 ys:=k1;refine hD kB rO (N:=Nd.of 66) (K:=K) O (.inl O) (r:=r) ((ztu fu x0 xs K).trans<|by simp only[k1];rw[hg]at e2;exact e2) (λt m6 P Ds H w _ s=> ?_) s;have⟨ys,e3,e4⟩:=k2 _ _ _ P;cases e3;have hn:uK Tryz.prog (Fr.wd ⟨we,Se,F,G⟩ Ds) ⟨0,[],[]⟩ (chS 3 mX mY g n all x0 ys) H w:=znJ (o:=0) (p:=2) O O O O O O O s;refine Lq (id:=2) (c:=.loop kC) ?_;have⟨body,hc⟩:∃body:((X×ww J)->V (X⊕Y))->(X×ww J)->V (X⊕Y),body=λL q=>qA fu n all g q.1 q.2 (λx xs _ _ _ _ _=>L (x,xs)) (λx _ _ _=>Z (.inl x)) λy _=>Z (.inr y):=⟨_,O⟩;refine TZ (G:=wL×(X×ww J)) (λq Ds H w=>zg body q.1 q.2=Z r/\uK Tryz.prog (Fr.wd ⟨we,Se,F,G⟩ Ds) ⟨0,[],[]⟩ (chS 3 mX mY g n all q.2.1 q.2.2) H w) (λq=>q.1) (fu,(x0,ys)) ⟨by rw[hc];rw[hf]at e4;exact e4,hn⟩ ?_;rintro⟨k,x,xs⟩ Ds H w ⟨hl,s⟩
 cases k with
 |zero=>exact(zdM hl).elim
 |succ k=>
  have hl:=zcV hl
  have⟨K,k1,k2⟩:=zhI (ι:=(X×ww J×J×J×J×J×J)⊕((X×J×J×ww J)⊕(Y×ww J)))
   (λq=>match q with
    |.inl (x,xs,a,b,c,d,e)=>(Tg.n,Sn mX mY g n all x xs a b c d e)
    |.inr (.inl (x,a,b,xs))=>(Tg.r,Sr mX mY g n all x a b xs)
    |.inr (.inr (y,xs))=>(Tg.r,Sy mY n all y xs))
   (λq=>match q with
    |.inl (x,xs,_,_,_,_,_)=>zg body k (x,xs)
    |.inr (.inl (x,_,_,_))=>Z (.inl x)
    |.inr (.inr (y,_))=>Z (.inr y)) (λi j h=>by
   rcases i with⟨x,xs,a,b,c,d,e⟩|⟨x,a,b,xs⟩|⟨y,xs⟩<;>rcases j with⟨x',C,a',b',c',d',e'⟩|⟨x',a',b',C⟩|⟨y',C⟩
   have f:=Z2 (λq:Tg×Sg=>q.2.ob) h
   simp only[Sn,xdV,xcL,true_and,gT]at f
   have⟨Q,h4⟩:=f
   cases Q;cases h4;rfl
   cases Z2 Prod.fst h
   cases Z2 Prod.fst h
   cases Z2 Prod.fst h
   have f:=Z2 (λq:Tg×Sg=>q.2.ob) h
   simp only[Sr,xdV,xcL,true_and,gT]at f
   have⟨Q,h4⟩:=f
   cases Q;rfl
   exact jp (Z2 (λq:Tg×Sg=>q.2.nx) h)<|by simp[Sr,Sy]
   cases Z2 Prod.fst h
   exact jp (Z2 (λq:Tg×Sg=>q.2.nx) h)<|by simp[Sr,Sy]
   have f:=Z2 (λq:Tg×Sg=>q.2.ob) h
   simp only[Sy,xdV,xcL,true_and,gT]at f
   have⟨Q,h4⟩:=f
   cases Q;rfl)
  have q1:∀x xs a b c d e,K .n (Sn mX mY g n all x xs a b c d e)=zg body k (x,xs):=λx xs a b c d e=>k1 (.inl (x,xs,a,b,c,d,e));have q2:∀x a b xs,K .r (Sr mX mY g n all x a b xs)=Z (.inl x):=λx a b xs=>k1 (.inr (.inl (x,a,b,xs)));have q3:∀y xs,K .r (Sy mY n all y xs)=Z (.inr y):=λy xs=>k1 (.inr (.inr (y,xs)));refine hD kC rO (N:=Nd.of 66) (K:=K) O (.inl O) (r:=r) ((zti fu x xs K).trans<|by simp only[q1,q2,q3];rw[hc]at hl⊢;exact hl) (λt m6 P Ds H w _ s=> ?_) s;have⟨i,e5,e6⟩:=k2 _ _ _ P
  have T:∀(t:Tg) (H:xj) (w:qR),(∃D,St we Se (xfi (λx=>mX x D) (λy=>mY y D) r::F) G<|wY Ds w)->lS Ds w->∀a:V6,ya a=H->
   ∃v,(V4 f299 a.tmps).run Tryz.prog (wY Ds w)=.ok v (wY Ds w)/\(∃v',xeu v=.returned v')/\∃D,St we Se (xfi (λx=>mX x D) (λy=>mY y D) r::F) G (wY Ds w):=λt H w h1 f a U=>⟨_,Zh (rs:=[]) (vs:=[]) O jP,⟨_,O⟩,h1⟩
  rcases i with⟨x',C,a,b,c,d,e⟩|⟨x',a,b,C⟩|⟨y',C⟩
  cases e5;exact⟨(k,(x',C)),⟨e6,znJ (o:=2) (p:=4) O O O O O O O s⟩,xdL k⟩
  cases e5;cases e6;have⟨hd,s⟩:=Yq s;exact⟨.inr O,hd,T .r _ _ (zpt (o:=2) O s) hd⟩
  cases e5;cases e6;have⟨hd,s⟩:=Yq s;exact⟨.inr O,hd,T .r _ _ (zqr (o:=2) O s) hd⟩
end
def Bo:zkl Tryz.prog (Vf fu):=by
 refine⟨rO,?_⟩;rintro⟨n,a,_⟩ X Y f h g x0 r b l vs c d u we Se F G w hc
 match vs,c with
 |[v1,e],_=>exact zmG fu g x0 r l v1 e u we Se F G w d hc b
def Xp:Rh:=⟨257,[.i,.i],299,λx=>[⟨.i,x.2.1⟩,⟨.i,x.1⟩]⟩
def GF:zbB Tryz.prog Xp:=zp5 (s:=Xp) (cf:=⟨tt,[],xL,0,ex,[],[],[],[]⟩) DY CW Gy cN (.of Hn O) func257 rO λx=>by kernel_rfl
def Xl:zW ⟨341,[.d xg,.d .i],[.d .i],vv2 (XK fu),0⟩:=sq fu (f9 [(2,⟨⟨[(8,.d .i)],[]⟩,⟨[],[(.x 0,⟨[],[]⟩),(.r,⟨[(4,.d .i)],[]⟩)]⟩⟩)]) func341<|cN
def Ud:zW ⟨341,[.own .i 3,.d .i],[.d .i,.own .i 3],vv2 (qU fu),1⟩:=sgb (fu:=fu) ⟨[],[],[(2,⟨⟨[(8,.d .i)],[]⟩,⟨[0],[(.x 0,⟨[],[]⟩),(.r,⟨[(4,.d .i)],[]⟩)]⟩⟩)],[],[],[],[]⟩ func341 (cN) rO λa x=>by kernel_rfl
def Uf:zW ⟨302,[.d xg,.d .i],[.d .b],vv2 (Z8 fu),0⟩:=f8 fu xL func302<|ee1 Xl
def Q4:zW ⟨302,[.own .i 3,.d .i],[.d .b,.own .i 3],vv2 (wm fu),1⟩:=sgb (fu:=fu) xL func302 (cC (Ud fu)<|cC (Xl fu)<|cN) rO λa x=>by kernel_rfl
def qX:Wq:=⟨259,[.d tzQ,.own .i 3],[.d tzQ,.own .i 3],λx=>xT fu x.1 x.2.1,1⟩
def Ue:zW (qX fu):=sgb (fu:=fu) ⟨[],[(262149,⟨[1,5],[(.n,⟨[(8,.d tzQ),(9,.d .i),(11,.d .b)],[]⟩)]⟩)],[(3,q1 [(5,.own yG 22),(10,.d .i),(1,.own .i 3)] 0 [(5,.own yG 22),(1,.own .i 3)])],[],[],[],[]⟩ func259 (cC (Q4 fu)<|cC (Uf fu)<|cN) rO λa x=>by kernel_rfl
def oE:Wq:=⟨213,[.d yG,.d tzQ,.d zk],[.own yG 22],λx=>Yw fu x.1 x.2.1 x.2.2.1,0⟩
def Hi:zW (oE fu):=zcd (s:=oE fu) (cf:=⟨tt,[Yc fu,gj fu,qX fu,dH fu],⟨[3,4],[],[(3,q1 [(3,.var yG 22),(4,.var tzQ 105),(7,.bo yG 22 105),(8,.d .i)] 0 [(3,.var yG 22),(4,.var tzQ 105),(7,.bo yG 22 105)]),(6,q1 [(3,.var yG 22),(4,.var tzQ 105),(7,.bo yG 22 105)] 1 [])],[(13,[56,57])],[],[7],[]⟩,fu,ex,[],[Xp],[Vf fu],[]⟩) DY CW Gy (cC (nT fu)<|cC (aB fu)<|cC (Ue fu)<|cC (ZM fu)<|cN) ⟨Hn,λs h=>by obtain rfl:=xad.1 h;exact GF,λ_ h=>jp h H1,λs h=>by obtain rfl:=xad.1 h;exact Bo fu,O,λ_ h=>jp h H1⟩ func213 rO O λx r h=>(id rO:zbQ ⟨tt,[Yc fu,gj fu,qX fu,dH fu],⟨[3,4],[],[(3,q1 [(3,.var yG 22),(4,.var tzQ 105),(7,.bo yG 22 105),(8,.d .i)] 0 [(3,.var yG 22),(4,.var tzQ 105),(7,.bo yG 22 105)]),(6,q1 [(3,.var yG 22),(4,.var tzQ 105),(7,.bo yG 22 105)] 1 [])],[(13,[56,57])],[],[7],[]⟩,fu,ex,[],[Xp],[Vf fu],[]⟩ f213 [.d yG,.d tzQ,.d zk] [.own yG 22] x=Yw fu x.1 x.2.1 x.2.2.1).trans h
def Oa:zW ⟨262,[.d yG,.d yG],[.d .b],vv2 (XB fu),0⟩:=f8 fu (f9 [(5,⟨⟨[(5,.d .i)],[]⟩,⟨[0,1],[(.x 0,⟨[],[]⟩),(.r,⟨[(4,.d .b)],[]⟩)]⟩⟩)]) func262<|ee2 xo Ki
def FR:zW ⟨215,[.d yG,.d yG],[.d .i],vv2 (jU fu),0⟩:=f8 fu xL func215<|ee1 Oa
def Sk:zW ⟨270,[.d zk,.d .i],[.d zk,.d .i],vv2 (Uu fu),0⟩:=f8 fu (f9 [(6,⟨⟨[(4,.var zk 44),(6,.var zk 44),(9,.var zk 44)],[]⟩,⟨[],[(.r,⟨[(4,.var zk 44)],[(5,.ci 0)]⟩)]⟩⟩),(11,⟨⟨[(1,.d .i),(2,.q zk),(52,.d .i),(11,.var zk 44)],[]⟩,⟨[4,6,9,10],[(.x 2,⟨[(1,.d .i),(2,.q zk),(11,.var zk 44)],[]⟩)]⟩⟩)]) func270<|ee9 xC qj Zv jq xq ek Ki Bh Mm
def sy:zW ⟨203,[.d yG],[.d .i],vv1 (X8 fu),0⟩:=f8 fu xL func203<|ee1 xo
def Jz:zW ⟨240,[.d yG],[.d zk,.d .i],vv1 (vz fu),0⟩:=f8 fu (g8 [(524297,⟨[0,2,5],[(.n,⟨[(22,.d .i),(24,.d .b)],[]⟩)]⟩)] [(7,⟨⟨[(23,.d .i),(0,.own zk 44),(2,.var zk 44),(5,.var zk 44)],[(21,.al 0)]⟩,⟨[],[(.x 0,⟨[(0,.own zk 44),(2,.var zk 44),(5,.var zk 44)],[]⟩)]⟩⟩)]) func240<|ee8 xC Zv Xa sy Sk xo Bh xq
def Ih:zW ⟨209,[.d yG,.d .i],[.d .i],vv2 (Vo fu),0⟩:=f8 fu ⟨[],[],[(5,⟨⟨[(9,.d .i),(8,.var zk 44)],[]⟩,⟨[5,7],[(.x 0,⟨[(9,.d .i)],[]⟩)]⟩⟩)],[(2,[])],[],[],[]⟩ func209<|ee4 Jz xC xq Ki
def Pa:zW ⟨207,[.d yG],[.d .b],vv1 (J6 fu),0⟩:=f8 fu ⟨[],[],[],[(2,[])],[],[],[]⟩ func207<|ee4 Jz xC xq ek
def Ey:zW ⟨279,[.d xg,.d xg],[.d .i],vv2 (vD fu),0⟩:=sq fu (f9 [(4,⟨⟨[(5,.d .i)],[]⟩,⟨[],[(.x 0,⟨[],[]⟩),(.r,⟨[(4,.d .i)],[]⟩)]⟩⟩)]) func279<|cN
def W4:Wq:=⟨373,[.d xg,.q .i],[.d .b],λx=>jZ fu x.1 x.2.1,0⟩
def AO:zW (W4 fu):=sq fu xL func373<|cN
def ed:Wq:=⟨372,[.d xg,.d .i],[.own .i 3],λx=>Wb fu x.1 x.2.1,0⟩
def N3:zW (ed fu):=f8 fu (f9 [(3,q1 [(13,.d .i),(5,.own .i 3)] 0 [(5,.own .i 3)])]) func372<|ee1 lB
def dD:Wq:=⟨349,[.d (.l xg),.d .i],[.d .i],λx=>XQ fu x.1 x.2.1,0⟩
def Av:zW (dD fu):=f8 fu (g8 [(393223,⟨[],[(.n,⟨[(0,.d (.l xg)),(17,.d (.l xg)),(18,.d .i),(20,.d .b)],[]⟩)]⟩)] [(5,⟨⟨[(19,.d .i)],[]⟩,⟨[],[(.x 0,⟨[],[]⟩),(.r,⟨[],[(4,.ci 1)]⟩)]⟩⟩)]) func349<|ee1 jz
def VJ:E8:=⟨374,.i,125,3,λb ix r a p lo n=>qe fu b ix r a p lo n⟩
def Ia(c:wW)(b:N (N J))(ix:N K)(r:K)(a p:J)(lo n:K):zp0 ⟨tt,[],(⟨[],[],[(1,q1 [(3,.matv .i 125 3),(13,.view 0),(0,.row 0),(15,.d .i)] 0 [(3,.matv .i 125 3)]),(5,q1 [(3,.matv .i 125 3),(13,.view 0),(0,.row 0),(23,.row 0),(9,.row 0),(25,.d .i)] 2 [(3,.matv .i 125 3),(13,.view 0),(0,.row 0)])],[],[],[],[]⟩:An),fu,ex,[],[],[],[]⟩ f374 .i 125 3 c b ix r a p lo n=qe fu b ix r a p lo n:=rO
def Hp:zct Tryz.prog (VJ fu):=zoW (s:=VJ fu) (cf:=⟨tt,[],(⟨[],[],[(1,q1 [(3,.matv .i 125 3),(13,.view 0),(0,.row 0),(15,.d .i)] 0 [(3,.matv .i 125 3)]),(5,q1 [(3,.matv .i 125 3),(13,.view 0),(0,.row 0),(23,.row 0),(9,.row 0),(25,.d .i)] 2 [(3,.matv .i 125 3),(13,.view 0),(0,.row 0)])],[],[],[],[]⟩:An),fu,ex,[],[],[],[]⟩) DY CW Gy cN (.of Hn O) func374 rO λb c ix r a p lo n z h=>(Ia fu b c ix r a p lo n).trans h
def qM:Wq:=⟨286,[.d (.l xg),.fn [xg] [.b]],[.d .i],λx=>yR fu x.1<|λz0=>x.2.1 (z0,()),0⟩
def ZB:zW (qM fu):=sq fu (f9 [(2,⟨⟨[(8,.d .i)],[]⟩,⟨[],[(.x 0,⟨[],[]⟩),(.r,⟨[(4,.d .i)],[]⟩)]⟩⟩)]) func286<|cN
def gF:Wq:=⟨350,[.d (.l xg),.d .i],[.d (.l xg),.d .i],λx=>Zi fu x.1 x.2.1,0⟩
def GU:zW (gF fu):=zcd (s:=gF fu) (cf:=⟨tt,[dD fu,ed fu,qM fu,EF fu,W4 fu],⟨[],[],[(6,q1 [(7,.mat .i 125 3),(25,.d .i)] 0 [(7,.mat .i 125 3)]),(12,q1 [(7,.mat .i 125 3),(10,.d .i),(11,.var .i 3)] 2 [(7,.mat .i 125 3),(10,.d .i)]),(19,q1 [(7,.mat .i 125 3),(90,.row 0),(92,.d .i)] 4 [(7,.mat .i 125 3)])],[(16,[]),(23,[]),(24,[])],[52,117,128],[33],[]⟩,fu,ex,[VJ fu],[],[],[]⟩) DY CW Gy (cC (Av fu)<|cC (N3 fu)<|cC (ZB fu)<|cC (GP fu)<|cC (AO fu)<|cN) ⟨Hn,λ_ h=>jp h H1,λs h=>by obtain rfl:=xad.1 h;exact Hp fu,λ_ h=>jp h H1,O,λ_ h=>jp h H1⟩ func350 rO O λx r h=>(id rO:zbQ ⟨tt,[dD fu,ed fu,qM fu,EF fu,W4 fu],⟨[],[],[(6,q1 [(7,.mat .i 125 3),(25,.d .i)] 0 [(7,.mat .i 125 3)]),(12,q1 [(7,.mat .i 125 3),(10,.d .i),(11,.var .i 3)] 2 [(7,.mat .i 125 3),(10,.d .i)]),(19,q1 [(7,.mat .i 125 3),(90,.row 0),(92,.d .i)] 4 [(7,.mat .i 125 3)])],[(16,[]),(23,[]),(24,[])],[52,117,128],[33],[]⟩,fu,ex,[VJ fu],[],[],[]⟩ f350 [.d (.l xg),.d .i] [.d (.l xg),.d .i] x=Zi fu x.1 x.2.1).trans h
def Hq:zW ⟨376,[.d .i],[.d .b],vv1 (Yl fu),0⟩:=sq fu xL func376<|cN
def QN:zW ⟨375,[.d xg,.fn [.i] [.b]],[.d .i],λx=>xv fu x.1<|λz0=>x.2.1 (z0,()),0⟩:=sq fu (f9 [(2,⟨⟨[(8,.d .i)],[]⟩,⟨[],[(.x 0,⟨[],[]⟩),(.r,⟨[(4,.d .i)],[]⟩)]⟩⟩)]) func375<|cN
def Cm:zW ⟨353,[.d xg],[.d .i],vv1 (QI fu),0⟩:=f8 fu xL func353<|ee2 Hq QN
def Ho:zW ⟨352,[.d xg,.q .i],[.d .b],vv2 (jv fu),0⟩:=f8 fu xL func352<|ee1 Cm
def VY:zW ⟨351,[.d (.l xg),.fn [xg] [.b]],[.d .b],λx=>xZ fu x.1<|λz0=>x.2.1 (z0,()),0⟩:=f8 fu xL func351<|ee1 ZB
def SZ:zW ⟨324,[.d (.l xg),.d .i,.d .i],[.own xg 125,.d .i],vv3 (VS fu),0⟩:=f8 fu (g8 [(131076,⟨[],[(.n,⟨[],[]⟩),(.r,⟨[],[(6,.nil),(7,.ci 1)]⟩)]⟩),(458760,⟨[10],[(.n,⟨[(1,.d .i),(2,.d .i),(8,.d (.l xg)),(46,.d .i),(48,.d .b)],[]⟩)]⟩),(851982,⟨[10,12],[(.n,⟨[(1,.d .i),(2,.d .i),(8,.d (.l xg)),(11,.q .i),(46,.d .i),(47,.d .i),(58,.d (.l xg)),(59,.d .i),(61,.d .b)],[]⟩)]⟩)] [(6,q1 [(10,.own xg 125),(47,.d .i)] 0 [(10,.own xg 125)]),(12,q1 [(60,.d .i),(10,.own xg 125),(12,.own .i 3)] 2 [(10,.own xg 125),(12,.own .i 3)])]) func324<|ee6 Ho Cm lB Av GU VY
def gy:zW ⟨253,[.d xg,.d xg,.d .i],[.own .i 3,.own .i 3,.d .i],vv3 (kD fu),0⟩:=f8 fu xL func253<|ee3 wb QY jz
def mj:zW ⟨323,[.d xg,.d zk,.d xg,.d .i],[.own .i 3,.d .i],vv4 (Zs fu),0⟩:=f8 fu (f9 [(9,⟨⟨[(11,.own .i 3),(13,.d xg),(14,.d .i)],[]⟩,⟨[10,12],[(.x 0,⟨[(11,.own .i 3)],[]⟩)]⟩⟩)]) func323<|ee6 wb QY qj YE ek jz
def Nr:zW ⟨277,[.d xg,.d .i],[.own xg 125],vv2 (X3 fu),0⟩:=f8 fu ⟨[],[],[(4,q1 [(6,.mat .i 125 3),(23,.d .i)] 0 [(6,.mat .i 125 3)]),(11,q1 [(6,.mat .i 125 3),(10,.d xg),(8,.d xg),(43,.d .i)] 2 [(6,.mat .i 125 3)]),(14,q1 [(6,.mat .i 125 3),(48,.d .i)] 4 [(6,.mat .i 125 3)])],[],[],[20],[]⟩ func277<|ee5 xC mj UG gy SZ
def zeU:zW ⟨322,[.d xg,.d xg,.d .i],[.own .i 3],vv3 (my fu),0⟩:=f8 fu xL func322<|ee1 gy
def zbv:zW ⟨320,[.d xg,.d xg,.d .i],[.d xg],vv3 (dE fu),0⟩:=f8 fu xL func320<|ee1 gX
def CZ:zW ⟨318,[.d .i,.q xg,.q .i],[.d .i],vv3 (YD fu),0⟩:=f8 fu xL func318<|ee1 lB
def R4:zW ⟨348,[.d xg,.d xg,.d .i],[.own .i 3,.d .i],vv3 (Uq fu),0⟩:=f8 fu xL func348<|ee3 wb iw jz
def NK:zW ⟨321,[.d xg,.d .i,.d xg,.d .i],[.own .i 3],vv4 (JN fu),0⟩:=f8 fu xL func321<|ee4 xC mj R4 Cl
def HD:zW ⟨276,[.d xg,.d (.l xg),.d .i,.d xg],[.own xg 125],vv4 (Vp fu),0⟩:=f8 fu (g8 [(524297,⟨[10],[(.n,⟨[(11,.d .i),(28,.d (.l xg)),(29,.d .i),(31,.d .b)],[]⟩)]⟩),(983056,⟨[10],[(.n,⟨[(1,.d (.l xg)),(6,.q .i),(7,.q xg),(11,.d .i),(13,.d xg),(28,.d (.l xg)),(29,.d .i),(30,.d .i),(73,.d .b)],[]⟩)]⟩)] [(4,q1 [(10,.own xg 125),(11,.d .i)] 0 [(10,.own xg 125)]),(7,⟨⟨[(1,.d (.l xg)),(6,.q .i),(7,.q xg),(10,.own xg 125),(30,.d .i)],[]⟩,⟨[],[(.x 0,⟨[(10,.own xg 125)],[]⟩),(.x 2,⟨[(1,.d (.l xg)),(6,.q .i),(7,.q xg),(10,.own xg 125)],[]⟩)]⟩⟩),(10,⟨⟨[(10,.own xg 125),(14,.d .i)],[]⟩,⟨[],[(.x 0,⟨[(10,.own xg 125)],[]⟩),(.x 4,⟨[(10,.own xg 125)],[]⟩)]⟩⟩)]) func276<|ee4 zbv NK zeU CZ
def og:zW ⟨347,[.d xg,.d .i],[.own .i 3,.d .i],vv2 (jy fu),0⟩:=f8 fu xL func347<|ee3 wb lH jz
def NB:zW ⟨317,[.d xg,.d .i],[.own .i 3,.d .i],vv2 (dM fu),0⟩:=f8 fu xL func317<|ee1 og
def HY:zW ⟨314,[.d xg,.d .i],[.own .i 3,.d .i],vv2 (VK fu),0⟩:=f8 fu (g8 [(458760,⟨[7,17],[(.n,⟨[(1,.d .i),(18,.d .i),(20,.d .b)],[]⟩)]⟩)] [(6,q1 [(7,.own .i 3),(19,.d .i),(17,.own .i 3)] 0 [(7,.own .i 3)])]) func314<|ee2 wb jz
def NY:zW ⟨313,[.d xg,.d .i],[.own .i 3,.d .i],vv2 (JT fu),0⟩:=f8 fu xL func313<|ee1 og
def Mo:zW ⟨271,[.d xg,.d .i],[.d .b,.d .i],vv2 (Y8 fu),0⟩:=f8 fu xL func271<|ee3 NY HY gX
def H4:zW ⟨275,[.d xg,.d .i],[.d xg,.d .i],vv2 (uC fu),0⟩:=f8 fu xL func275<|ee2 NB Mo
def fI:zW ⟨261,[.d .u],[.d .i],vv1 (uo fu),0⟩:=f8 fu xL func261<|ee1 Xv
def Yd:zW ⟨354,[.own xg 125,.d .i,.d .i,.fn [xg,xg] [.i]],[.own xg 125],λx=>vW fu x.1 x.2.1 x.2.2.1<|λz0 a=>x.2.2.2.1 (z0,a,()),1⟩:=sgb (fu:=fu) ⟨[],[],[(1,q1 [(8,.d .i),(0,.own xg 125)] 0 [(0,.own xg 125)]),(4,q1 [(1,.d .i),(2,.d .i),(9,.d .i),(0,.own xg 125)] 2 [(1,.d .i),(2,.d .i),(0,.own xg 125)])],[(6,[])],[],[],[]⟩ func354 (cN) rO λb x=>by kernel_rfl
def W9:Wq:=⟨325,[.own xg 125,.d .i,.d .i,.d .i,.fn [xg,xg] [.i]],[.own xg 125],λx=>jV fu x.1 x.2.1 x.2.2.1 x.2.2.2.1<|λz0 a=>x.2.2.2.2.1 (z0,a,()),1⟩
def kf:∀fu:K,zW (W9 fu)
 |0=>sg0 rO λ_=>O
 |fu+1=>sgb (fu:=fu) ⟨[],[],[(2,⟨⟨[(1,.d .i),(2,.d .i),(3,.d .i),(0,.own xg 125)],[(10,.kb wT),(11,.kb wT)]⟩,⟨[],[(.r,⟨[(0,.own xg 125)],[]⟩)]⟩⟩)],[],[],[],[]⟩ func325 (cC (Yd fu)<|cC (kf fu)<|cN) rO λa x=>by kernel_rfl
def Jb:zW ⟨278,[.own xg 125,.fn [xg,xg] [.i]],[.own xg 125],λx=>wi fu x.1<|λz0 a=>x.2.1 (z0,a,()),1⟩:=sgb (fu:=fu) xL func278 (cC (kf fu)<|cC (fI fu)<|cN) rO λb x=>by kernel_rfl
def MI:zW ⟨245,[.d xg,.d .i,.d xg],[.own xg 125,.d .i],vv3 (X4 fu),0⟩:=f8 fu xL func245<|ee5 H4 HD Nr Jb Ey
def MR:zW ⟨242,[.d .i],[.d .i,.d .i],vv1 (wQ fu),0⟩:=f8 fu (f9 [(4,q1 [(0,.d .i)] 0 [(0,.d .i)])]) func242<|ee1 K5
def Pv:zW ⟨243,[.d yG,.d .i],[.d .b,.d .i],vv2 (JS fu),0⟩:=f8 fu xL func243<|ee5 Mo Jz Qt K5 xo
def Ng:zW ⟨208,[.d yG,.d xg],[.d .i,.own xg 125],vv2 (JR fu),0⟩:=f8 fu (f9 [(4,q1 [(6,.d .i),(7,.d .i),(8,.own xg 125),(9,.d .i),(10,.d .i)] 0 [(6,.d .i),(8,.own xg 125)])]) func208<|ee4 MR Pv Qt MI
def Gf:zW ⟨281,[.d .i],[.d zk],vv1 (iE fu),0⟩:=f8 fu ⟨[],[(262149,⟨[2,3],[(.n,⟨[(0,.d .i),(6,.d .i),(8,.d .b)],[]⟩)]⟩)],[(3,q1 [(7,.d .i),(2,.var zk 44),(3,.var zk 44)] 0 [(2,.var zk 44),(3,.var zk 44)])],[(5,[])],[],[],[]⟩ func281<|ee3 xC X5 xq
def HG:zW ⟨280,[.d zk,.d .i],[.d zk],vv2 (Yt fu),0⟩:=f8 fu ⟨[2],[],[(2,⟨⟨[(1,.d .i),(2,.var zk 44),(5,.var zk 44)],[]⟩,⟨[4],[(.x 0,⟨[(5,.var zk 44)],[]⟩)]⟩⟩)],[],[],[],[]⟩ func280<|ee2 xC xq
def Ij:zW ⟨362,[.d yG,.d yG],[.d zk],vv2 (nY fu),0⟩:=f8 fu (g8 [(262149,⟨[4,5],[(.n,⟨[(1,.d yG),(9,.d yG),(10,.d .i),(12,.d .b)],[]⟩)]⟩)] [(3,q1 [(11,.d .i),(4,.var zk 44),(5,.var zk 44)] 0 [(4,.var zk 44),(5,.var zk 44)])]) func362<|ee3 xC Zv xq
def H9:zW ⟨326,[.d yG,.d yG],[.d zk,.d .i],vv2 (oD fu),0⟩:=f8 fu xL func326<|ee1 Ij
def FB:zW ⟨282,[.d yG],[.d zk],vv1 (mh fu),0⟩:=f8 fu xL func282<|ee1 H9
def OA:zW ⟨249,[.d yG,.d .i,.d .i],[.d .i,.d .i],vv3 (sA fu),0⟩:=f8 fu (f9 [(13,⟨⟨[(16,.d .i),(15,.var zk 44)],[]⟩,⟨[8,13,14],[(.x 0,⟨[],[]⟩),(.r,⟨[(6,.d .i)],[(7,.ci 0)]⟩)]⟩⟩)]) func249<|ee9 xC Jz ZM Ki K5 HG Gf FB xq
def Cn:zW ⟨252,[.d xg,.q xg,.q .i],[.d .b],vv3 (CJ fu),0⟩:=f8 fu xL func252<|ee1 gy
def Hj:zW ⟨211,[.d yG,.d (.l xg),.d .i],[.own yG 22,.d yG,.d (.l xg)],vv3 (VM fu),0⟩:=f8 fu (f9 [(2,⟨⟨[(0,.d yG),(1,.d (.l xg))],[(9,.nil)]⟩,⟨[],[(.x 0,⟨[(0,.d yG),(1,.d (.l xg))],[(9,.nil)]⟩)]⟩⟩)]) func211<|ee5 oc Qt aB OA Cn
def uH:zW ⟨303,[.own yG 22,.d .i,.d .i,.fn [yG,yG] [.i]],[.own yG 22],λx=>vc fu x.1 x.2.1 x.2.2.1<|λz0 a=>x.2.2.2.1 (z0,a,()),1⟩:=sgb (fu:=fu) ⟨[],[],[(1,q1 [(8,.d .i),(0,.own yG 22)] 0 [(0,.own yG 22)]),(4,q1 [(1,.d .i),(2,.d .i),(9,.d .i),(0,.own yG 22)] 2 [(1,.d .i),(2,.d .i),(0,.own yG 22)])],[(6,[])],[],[],[]⟩ func303 (cN) rO λb x=>by kernel_rfl
def YQ:Wq:=⟨260,[.own yG 22,.d .i,.d .i,.d .i,.fn [yG,yG] [.i]],[.own yG 22],λx=>qG fu x.1 x.2.1 x.2.2.1 x.2.2.2.1<|λz0 a=>x.2.2.2.2.1 (z0,a,()),1⟩
def qF:∀fu:K,zW (YQ fu)
 |0=>sg0 rO λ_=>O
 |fu+1=>sgb (fu:=fu) ⟨[],[],[(2,⟨⟨[(1,.d .i),(2,.d .i),(3,.d .i),(0,.own yG 22)],[(10,.kb wT),(11,.kb wT)]⟩,⟨[],[(.r,⟨[(0,.own yG 22)],[]⟩)]⟩⟩)],[],[],[],[]⟩ func260 (cC (qF fu)<|cC (uH fu)<|cN) rO λa x=>by kernel_rfl
def Yj:zW ⟨214,[.own yG 22,.fn [yG,yG] [.i]],[.own yG 22],λx=>yL fu x.1<|λz0 a=>x.2.1 (z0,a,()),1⟩:=sgb (fu:=fu) xL func214 (cC (qF fu)<|cC (fI fu)<|cN) rO λb x=>by kernel_rfl
def OJ:zW ⟨171,[.d yG,.d xg],[.own yG 22,.d .b],vv2 (JX fu),0⟩:=f8 fu xL func171<|ee9 Pa Ng Ih K0 Hj oc Hi Yj FR
def Nt:zW ⟨142,[.d zk,.d .i],[.d zk],vv2 (Js fu),0⟩:=f8 fu (f9 [(3,⟨⟨[(8,.d .i),(5,.var zk 44)],[]⟩,⟨[4],[(.x 0,⟨[(5,.var zk 44)],[]⟩)]⟩⟩)]) func142<|ee2 xC xq
def H3:zW ⟨185,[.d yG,.d yG],[.own zk 44,.own zk 44,.d .i],vv2 (Ys fu),0⟩:=f8 fu ⟨[],[],[(9,⟨⟨[(1,.d yG),(9,.own zk 44),(11,.d .i),(10,.own zk 44)],[]⟩,⟨[8],[(.x 0,⟨[(9,.own zk 44),(10,.own zk 44)],[]⟩)]⟩⟩)],[(12,[]),(13,[1])],[],[],[]⟩ func185<|ee5 VN B3 Nt xo X5
def zbs:zW ⟨205,[.d yG,.d yG],[.own zk 44],vv2 (WK fu),0⟩:=f8 fu (f9 [(3,⟨⟨[(6,.d yG),(7,.own zk 44)],[]⟩,⟨[5],[(.x 0,⟨[(6,.d yG)],[]⟩)]⟩⟩)]) func205<|ee5 o8 VN ZM H3 Q6
def CP:zW ⟨239,[.d .i,.d zk],[.d zk],vv2 (QQ fu),0⟩:=f8 fu xL func239<|ee2 xC xq
def Hr:zW ⟨206,[.d yG],[.own zk 44],vv1 (Vn fu),0⟩:=f8 fu xL func206<|ee3 xo CP xw
def ze1:zW ⟨204,[.d yG,.d yG],[.own zk 44],vv2 (AF fu),0⟩:=f8 fu xL func204<|ee1 aB
def GX:zW ⟨170,[.d yG],[.own zk 44,.d .i],vv1 (qD fu),0⟩:=f8 fu xL func170<|ee5 sy ze1 zbs Hr ZM
def EG:zW ⟨129,[.d yG,.d xg],[.d zk,.own (.p yG .i) 61,.d .i],vv2 (vB fu),0⟩:=f8 fu (g8 [(655371,⟨[4,11,32],[(.n,⟨[(0,.d yG),(33,.d .i),(35,.d .b)],[]⟩)]⟩)] [(9,q1 [(11,.own (.p yG .i) 61),(34,.d .i),(4,.var zk 44),(32,.own yG 22)] 0 [(11,.own (.p yG .i) 61),(4,.var zk 44)])]) func129<|ee4 GX OJ Oj Q6
def pZ:zW ⟨82,[.d yG],[.d .b,.d .i],vv1 (wx fu),0⟩:=f8 fu xL func82<|ee1 EG
def Cd:zW ⟨40,[.d yG],[.d (.po (.w1 (.p yG d8))),.d .i],vv1 (Qm fu),0⟩:=f8 fu ⟨[],[(917519,⟨[6],[(.n,⟨[(0,.d yG),(32,.d yG),(33,.d .i),(35,.d .b)],[]⟩)]⟩)],[(13,q1 [(34,.d .i),(6,.vr (.p yG d8) 101 d7 46 2 1)] 1 [(6,.vr (.p yG d8) 101 d7 46 2 1)])],[(15,[])],[],[],[(6,1,46),(31,1,46)]⟩ func40<|ee3 ZM pZ pf
def jo:zW ⟨87,[.d (.po (.w1 (.p yG d8)))],[.d .b],vv1 (xW fu),0⟩:=sq fu xL func87<|cN
def bJ:zW ⟨24,[.d .i],[.d d7],vv1 (ji fu),0⟩:=f8 fu xL func24<|ee1 xC
def AE:zW ⟨146,[.d d7],[.d zk],vv1 (YZ fu),0⟩:=f8 fu xL func146<|ee1 Xa
def KS:zW ⟨96,[.d d7],[.d d7],vv1 (wy fu),0⟩:=f8 fu ⟨[],[],[],[(1,[])],[],[],[]⟩ func96<|ee3 bJ AE pf
def mZ:zW ⟨49,[.d d7,.d d7],[.d d7],vv2 (Ve fu),0⟩:=f8 fu ⟨[2,3],[],[],[],[],[],[]⟩ func49<|ee3 KS nh xq
def o9:zW ⟨51,[.d d7],[.d .i],vv1 (Vg fu),0⟩:=f8 fu xL func51<|ee2 KS qj
def HX:zW ⟨191,[.d d7,.d d7,.fn [zk,zk] [zk]],[.d d7],λx=>Vx fu x.1 x.2.1<|λz0 a=>x.2.2.1 (z0,a,()),0⟩:=f8 fu ⟨[3,4],[],[],[(2,[])],[],[],[]⟩ func191<|ee4 KS AE xq nh
def EA:zW ⟨192,[.d zk,.d zk,.q .b],[.d zk],vv3 (Wj fu),0⟩:=f8 fu xL func192<|ee2 WV Zv
def Ad:zW ⟨159,[.d d7,.d d7,.d .b],[.d d7],vv3 (XE fu),0⟩:=f8 fu xL func159<|ee2 EA HX
def AU:zW ⟨113,[.d d7,.d d7],[.d d7],vv2 (Kc fu),0⟩:=f8 fu xL func113<|ee1 Ad
def Z1:zW ⟨89,[.d (.p yG d8),.d d8],[.own d7 46],vv2 (xy fu),0⟩:=f8 fu (g8 [(262149,⟨[5],[(.n,⟨[(2,.q (.p yG d8)),(15,.d d8),(16,.d .i),(18,.d .b)],[]⟩)]⟩),(851982,⟨[5,10],[(.n,⟨[(2,.q (.p yG d8)),(8,.d .i),(45,.d .b)],[]⟩)]⟩),(983056,⟨[5,10],[(.n,⟨[(2,.q (.p yG d8)),(8,.d .i),(9,.d .i),(46,.d .i),(48,.d .b)],[]⟩)]⟩)] [(3,q1 [(17,.d .i),(5,.own d7 46)] 0 [(5,.own d7 46)]),(9,⟨⟨[(5,.own d7 46),(9,.d .i)],[]⟩,⟨[],[(.x 2,⟨[(5,.own d7 46)],[]⟩),(.r,⟨[(4,.own d7 46)],[]⟩)]⟩⟩),(14,q1 [(47,.d .i),(5,.own d7 46),(10,.var d7 46)] 4 [(5,.own d7 46)])]) func89<|ee4 KS mZ o9 AU
def IE:zW ⟨145,[.d d7,.d d7],[.d d7],vv2 (cm fu),0⟩:=f8 fu xL func145<|ee1 Ad
def VX:zW ⟨95,[.d (.p yG d8),.d d8,.d d8],[.own d7 46],vv3 (xM fu),0⟩:=f8 fu (g8 [(327686,⟨[2,7],[(.n,⟨[(3,.q (.p yG d8)),(24,.d d8),(25,.d .i),(27,.d .b)],[]⟩)]⟩),(524297,⟨[2,7,9],[(.n,⟨[(3,.q (.p yG d8)),(8,.d .i),(24,.d d8),(25,.d .i),(26,.d .i),(32,.d .i),(34,.d .b)],[]⟩)]⟩)] [(4,q1 [(26,.d .i),(2,.own d7 46),(7,.own d7 46)] 0 [(7,.own d7 46)]),(7,⟨⟨[(33,.d .i),(2,.own d7 46),(7,.own d7 46),(9,.var d7 46)],[(31,.al 2)]⟩,⟨[],[(.x 2,⟨[(2,.own d7 46),(7,.own d7 46)],[]⟩)]⟩⟩)]) func95<|ee3 Z1 IE mZ
def W1:zW ⟨99,[.d (.p yG d8),.d d8,.d d8,.d .i],[.own d7 46],vv4 (wG fu),0⟩:=f8 fu (g8 [(327686,⟨[9],[(.n,⟨[(3,.d .i),(4,.q (.p yG d8)),(21,.d d8),(22,.d .i),(24,.d .b)],[]⟩)]⟩)] [(4,q1 [(23,.d .i),(9,.own d7 46)] 0 [(9,.own d7 46)])]) func99<|ee4 bJ mZ IE Z1
def MY:zW ⟨147,[.d d8],[.d d8],vv1 (dZ fu),0⟩:=f8 fu (f9 [(1,q1 [(0,.d d8)] 0 [(0,.d d8)])]) func147<|ee1 o9
def Iy:zW ⟨101,[.d d7,.d d7],[.d d7,.d .i],vv2 (Bf fu),0⟩:=f8 fu ⟨[2,3],[],[],[],[],[],[]⟩ func101<|ee4 KS AE pf xq
def Bc:zW ⟨100,[.d d8,.d d8],[.d d8,.d d8],vv2 (bH fu),0⟩:=f8 fu ⟨[],[(589834,⟨[6,7],[(.n,⟨[(8,.d .i),(50,.d d8),(51,.d .i),(53,.d .b)],[]⟩)]⟩)],[(4,q1 [(8,.d .i),(6,.own d7 46),(7,.own d7 46)] 0 [(6,.own d7 46),(7,.own d7 46)]),(8,q1 [(1,.d d8),(52,.d .i),(6,.own d7 46),(7,.own d7 46)] 2 [(1,.d d8),(6,.own d7 46),(7,.own d7 46)])],[(6,[])],[],[],[]⟩ func100<|ee4 mZ MY Iy AU
def UZ:zW ⟨54,[.d (.po (.w1 (.p yG d8))),.d d8],[.own d7 46,.d .i],vv2 (Wi fu),0⟩:=f8 fu ⟨[],[],[(8,q1 [(6,.d d8),(7,.d d8),(8,.d d8),(9,.d d8)] 0 [(7,.d d8),(9,.d d8)])],[(11,[])],[],[],[]⟩ func54<|ee7 W1 Bc Iy jo bJ Z1 VX
def uU:zW ⟨47,[.d (.po (.w1 (.p yG d8))),.d d8,.d d8],[.own d7 46,.d .i],vv3 (xz fu),0⟩:=f8 fu xL func47<|ee2 VX jo
def au:zW ⟨53,[.d (.po (.w1 (.p yG d8))),.d d8,.d d8],[.own d7 46,.d .i],vv3 (wX fu),0⟩:=f8 fu xL func53<|ee2 W1 jo
def sU:zW ⟨48,[.d (.po (.w1 (.p yG d8))),.d d8],[.own d7 46,.d .i],vv2 (vL fu),0⟩:=f8 fu xL func48<|ee2 Z1 jo
def N5:J2:=⟨⟨67,[.d d8,.d .i],[.d d8],λ_=>wS,0⟩,λx=>yZ fu x.1 x.2.1⟩
def k9:PN Tryz.prog (N5 fu):=sgp (fu:=fu) xL func67 (cN) (pN) rO λx=>by kernel_rfl
def ra:J2:=⟨⟨62,[.d (.w1 (.po (.w1 (.p yG d8)))),.d (.l d8)],[.own d8 41],λ_=>wS,0⟩,λx=>zZ fu x.1 x.2.1⟩
def xI:PN Tryz.prog (ra fu):=sgp (fu:=fu) ⟨[],[(327686,⟨[5],[(.n,⟨[(2,.q (.w1 (.po (.w1 (.p yG d8))))),(17,.d (.l d8)),(18,.d .i),(20,.d .b)],[]⟩)]⟩)],[(4,⟨⟨[(19,.d .i),(5,.own d8 41)],[]⟩,⟨[],[(.x 0,⟨[(5,.own d8 41)],[]⟩),(.p (0,0),⟨[],[]⟩)]⟩⟩),(8,q1 [(5,.own d8 41)] 2 [(5,.own d8 41)])],[],[],[],[]⟩ func62 (cC (sU fu)<|cN) (pC (k9 fu)<|pN) rO λx=>by kernel_rfl
def gD:J2:=⟨⟨58,[.d (.w1 (.po (.w1 (.p yG d8)))),.d (.l d8),.d (.l d8)],[.own d8 41,.own d8 41],λ_=>wS,0⟩,λx=>Qa fu x.1 x.2.1 x.2.2.1⟩
def iH:PN Tryz.prog (gD fu):=sgp (fu:=fu) ⟨[],[(786445,⟨[2,8,10],[(.n,⟨[(11,.d .i),(71,.d .i),(73,.d .b)],[]⟩)]⟩)],[(7,⟨⟨[(11,.d .i),(2,.own d8 41),(8,.own d8 41),(10,.own d8 41)],[]⟩,⟨[],[(.x 0,⟨[(8,.own d8 41),(10,.own d8 41)],[]⟩),(.p (0,0),⟨[],[]⟩)]⟩⟩),(11,⟨⟨[(3,.q (.w1 (.po (.w1 (.p yG d8))))),(9,.d d8),(72,.d .i),(2,.own d8 41),(8,.own d8 41),(10,.own d8 41)],[(70,.al 2)]⟩,⟨[],[(.x 2,⟨[(3,.q (.w1 (.po (.w1 (.p yG d8))))),(9,.d d8),(2,.own d8 41),(8,.own d8 41),(10,.own d8 41)],[]⟩),(.p (0,0),⟨[],[]⟩)]⟩⟩)],[(1,[]),(9,[65]),(13,[96,100]),(15,[10])],[],[],[]⟩ func58 (cC (uU fu)<|cC (au fu)<|cC (UZ fu)<|cN) (pC (k9 fu)<|pC (xI fu)<|pN) rO λx=>by kernel_rfl
def Xw:zW ⟨52,[.d (.po (.w1 (.p yG d8))),.d d8,.d d8],[.own d7 46,.d .i],vv3 (xY fu),0⟩:=f8 fu xL func52<|ee2 W1 jo
def iK:J2:=⟨⟨64,[.d (.w1 (.po (.w1 (.p yG d8)))),.d (.l d8),.d (.l d8)],[.own d8 41],λ_=>wS,0⟩,λx=>jc fu x.1 x.2.1 x.2.2.1⟩
def VV:PN Tryz.prog (iK fu):=sgp (fu:=fu) ⟨[],[(262149,⟨[7],[(.n,⟨[(2,.d (.l d8)),(3,.q (.w1 (.po (.w1 (.p yG d8))))),(18,.d (.l d8)),(19,.d .i),(21,.d .b)],[]⟩)]⟩),(458760,⟨[7],[(.n,⟨[(2,.d (.l d8)),(3,.q (.w1 (.po (.w1 (.p yG d8))))),(8,.d .i),(9,.d d8),(18,.d (.l d8)),(19,.d .i),(20,.d .i),(25,.d (.l d8)),(26,.d .i),(28,.d .b)],[]⟩)]⟩)],[(3,⟨⟨[(20,.d .i),(7,.own d8 41)],[]⟩,⟨[],[(.x 0,⟨[(7,.own d8 41)],[]⟩),(.p (0,0),⟨[],[]⟩)]⟩⟩),(6,⟨⟨[(27,.d .i),(7,.own d8 41)],[]⟩,⟨[],[(.x 2,⟨[(7,.own d8 41)],[]⟩),(.p (0,0),⟨[],[]⟩)]⟩⟩)],[(8,[48,52])],[],[],[]⟩ func64 (cC (Xw fu)<|cC (uU fu)<|cN) (pC (k9 fu)<|pC (xI fu)<|pN) rO λx=>by kernel_rfl
def p9:J2:=⟨⟨61,[.d (.w1 (.po (.w1 (.p yG d8)))),.d (.l d8)],[.own d8 41],λ_=>wS,0⟩,λx=>kO fu x.1 x.2.1⟩
def re:PN Tryz.prog (p9 fu):=sgp (fu:=fu) ⟨[],[],[],[(4,[21])],[],[],[]⟩ func61 (cC (UZ fu)<|cN) (pC (VV fu)<|pC (k9 fu)<|pC (xI fu)<|pN) rO λx=>by kernel_rfl
def RV:zW ⟨17,[.d (.po (.w1 (.p yG d8))),.d (.l d8),.d (.l d8)],[.own d8 41,.d .i],vv3 (B8 fu),0⟩:=sgr (fu:=fu) ⟨[],[],[(4,⟨⟨[(9,.d (.l d8)),(10,.own d8 41)],[]⟩,⟨[7,8],[(.x 0,⟨[(9,.d (.l d8))],[]⟩),(.p (0,0),⟨[],[]⟩)]⟩⟩)],[(3,[])],[],[],[]⟩ Kk func17 (cN) (pC (iH fu)<|pC (re fu)<|pC (xI fu)<|pN) rO λx=>by kernel_rfl
def HL:zW ⟨11,[],[.d .b],λx=>Vi fu,0⟩:=f8 fu xL func11<|ee5 Cd RV tS Gl bJ
def SL:zW ⟨13,[.d .i,.d (.l (.l d8))],[.d .b],vv2 (Qj fu),0⟩:=sq fu (f9 [(2,⟨⟨[(5,.d .i)],[]⟩,⟨[],[(.x 0,⟨[],[]⟩),(.r,⟨[],[(4,.kb I)]⟩)]⟩⟩),(7,⟨⟨[(0,.d .i),(1,.d (.l (.l d8))),(6,.d .i)],[]⟩,⟨[],[(.x 2,⟨[(0,.d .i),(1,.d (.l (.l d8)))],[]⟩),(.r,⟨[],[(4,.kb I)]⟩)]⟩⟩),(12,⟨⟨[(5,.d .i),(7,.d .i)],[]⟩,⟨[],[(.x 4,⟨[(5,.d .i)],[]⟩),(.r,⟨[],[(4,.kb I)]⟩)]⟩⟩)]) func13<|cN
def rN:zW ⟨165,[.d zw],[.own .u 73],vv1 (Xo fu),0⟩:=sq fu (f9 [(2,q1 [(3,.d .i)] 0 [(3,.d .i)])]) func165<|cN
def qc:zW ⟨119,[.d zk],[.d zk],vv1 (yY fu),0⟩:=f8 fu xL func119<|ee1 rN
def zaq:zW ⟨169,[.d zk],[.d zk],vv1 (Ql fu),0⟩:=f8 fu xL func169<|ee1 qc
def pA:zW ⟨230,[.d zw,.d .i],[.d .u],vv2 (qJ fu),0⟩:=sq fu xL func230<|cN
def gh:zW ⟨238,[.d zw],[.d zw],vv1 (Xg fu),0⟩:=sq fu (f9 [(2,q1 [(3,.d .i)] 0 [(3,.d .i)])]) func238<|cN
def Xr:zW ⟨229,[.d zw],[.d zw],vv1 (xG fu),0⟩:=f8 fu (f9 [(3,q1 [(3,.own .u 73),(4,.d .i)] 0 [(3,.own .u 73)])]) func229<|ee1 gh
def VB:zW ⟨231,[.d zw],[.own .u 73],vv1 (qh fu),0⟩:=f8 fu (f9 [(3,q1 [(3,.own .u 73),(4,.d .i)] 0 [(3,.own .u 73)])]) func231<|ee1 rN
def Ca:zW ⟨187,[.d zw,.d zw],[.own .u 73],vv2 (Qp fu),0⟩:=f8 fu (f9 [(6,q1 [(7,.own .u 73),(8,.d .u),(9,.d .i)] 0 [(7,.own .u 73)])]) func187<|ee3 Xr pA VB
def fh:zW ⟨232,[.d zw,.d zw],[.d .i],vv2 (uy fu),0⟩:=f8 fu (f9 [(2,⟨⟨[(5,.d .i)],[]⟩,⟨[],[(.x 0,⟨[],[]⟩),(.r,⟨[(4,.d .i)],[]⟩)]⟩⟩)]) func232<|ee1 pA
def Ax:zW ⟨233,[.d zw,.d zw],[.d zw],vv2 (XF fu),0⟩:=f8 fu (f9 [(4,q1 [(5,.own .u 73),(6,.d .u),(7,.d .i)] 0 [(5,.own .u 73)])]) func233<|ee2 pA gh
def Rr:zW ⟨202,[.d zw,.d zw],[.own .u 73,.own .u 73,.d .i],vv2 (ax fu),0⟩:=f8 fu (g8 [(1245204,⟨[9],[(.n,⟨[(72,.d .b)],[]⟩)]⟩)] [(8,q1 [(10,.d zw),(11,.d .i),(9,.own .u 73)] 0 [(10,.d zw),(9,.own .u 73)]),(13,⟨⟨[(7,.d zw),(8,.d zw),(12,.own .u 73),(13,.d .u),(14,.d .i)],[]⟩,⟨[9],[(.x 2,⟨[(7,.d zw),(8,.d zw),(12,.own .u 73),(13,.d .u)],[]⟩)]⟩⟩)]) func202<|ee5 Xr VB fh Ax gh
def Cj:zW ⟨188,[.d zw,.d zw],[.own .u 73,.d .i],vv2 (Y6 fu),0⟩:=f8 fu xL func188<|ee4 fh Ax Xr VB
def gN:zW ⟨166,[.d zk,.d zk],[.d zk,.d zk,.d .i],vv2 (Zm fu),0⟩:=f8 fu (g8 [(327688,⟨[4,5],[(.n,⟨[(7,.own .u 73),(8,.own .u 73)],[]⟩)]⟩)] []) func166<|ee4 Rr Ca Cj qc
def XU:zW ⟨118,[.d zk],[.d .i],vv1 (jr fu),0⟩:=f8 fu xL func118<|ee1 qc
def BW:zW ⟨124,[.d zk,.d zk],[.d zk],vv2 (QB fu),0⟩:=f8 fu (f9 [(3,⟨⟨[(5,.var zk 44),(6,.var zk 44)],[]⟩,⟨[4],[(.x 0,⟨[(5,.var zk 44)],[]⟩)]⟩⟩)]) func124<|ee3 zaq gN XU
def lv:zW ⟨125,[.d zk],[.d zk],vv1 (Y7 fu),0⟩:=f8 fu xL func125<|ee1 qc
def pE:zW ⟨112,[.d .i],[.d zk],vv1 (W7 fu),0⟩:=f8 fu xL func112<|ee1 qc
def kP:zW ⟨78,[.d yG],[.own zk 44],vv1 (wU fu),0⟩:=f8 fu (f9 [(2,q1 [(3,.d .i)] 0 [(3,.d .i)]),(6,q1 [(4,.own zk 44),(5,.d .i)] 2 [(4,.own zk 44)])]) func78<|ee2 XU qc
def CD:zW ⟨80,[.d yG],[.d zk],vv1 (Yz fu),0⟩:=f8 fu (f9 [(4,⟨⟨[(5,.d .i),(4,.var zk 44)],[]⟩,⟨[2,3],[(.x 0,⟨[(4,.var zk 44)],[]⟩)]⟩⟩)]) func80<|ee4 pE BW lv kP
def Ik:zW ⟨120,[.d zk,.d zk],[.d zk,.d .i],vv2 (Vt fu),0⟩:=f8 fu xL func120<|ee2 XU gN
def lO:zW ⟨154,[.d zk,.d zk],[.d zk],vv2 (Xc fu),0⟩:=f8 fu xL func154<|ee3 Ca Cj qc
def zck:zW ⟨167,[.d yG,.d .i],[.d zk],vv2 (Kn fu),0⟩:=sq fu xL func167<|cN
def BY:zW ⟨121,[.d yG,.d yG],[.own zk 44],vv2 (Qo fu),0⟩:=f8 fu (f9 [(3,q1 [(5,.own zk 44),(6,.d .i)] 0 [(5,.own zk 44)])]) func121<|ee3 lO kP zck
def S5:zW ⟨189,[.d zw,.d zw],[.own .u 73],vv2 (U1 fu),0⟩:=f8 fu (f9 [(5,q1 [(8,.d .i),(7,.own .u 73)] 0 [(7,.own .u 73)]),(9,q1 [(5,.d zw),(6,.d zw),(9,.d .u),(10,.d .i),(7,.own .u 73)] 2 [(5,.d zw),(6,.d zw),(9,.d .u),(7,.own .u 73)])]) func189<|ee2 Xr VB
def VU:zW ⟨155,[.d zk,.d zk],[.d zk],vv2 (wJ fu),0⟩:=f8 fu xL func155<|ee2 S5 qc
def SH:zW ⟨123,[.d yG,.d yG],[.own zk 44],vv2 (ae fu),0⟩:=f8 fu (f9 [(3,q1 [(6,.d .i),(5,.own zk 44)] 0 [(5,.own zk 44)]),(6,q1 [(0,.d yG),(1,.d yG),(7,.d .i),(5,.own zk 44)] 2 [(0,.d yG),(1,.d yG),(5,.own zk 44)])]) func123<|ee3 lO VU kP
def HA:zW ⟨168,[.d yG,.d zk],[.own zk 44],vv2 (Vv fu),0⟩:=f8 fu (f9 [(3,q1 [(5,.own zk 44),(6,.d .i)] 0 [(5,.own zk 44)])]) func168<|ee2 VU kP
def zaD:zW ⟨122,[.d yG,.d yG],[.own zk 44],vv2 (Um fu),0⟩:=f8 fu xL func122<|ee3 pE BY HA
def Sc:zW ⟨79,[.d yG,.d yG],[.own zk 44,.d .i],vv2 (Uz fu),0⟩:=f8 fu ⟨[],[],[(6,⟨⟨[(6,.d yG),(7,.own zk 44),(8,.own zk 44)],[]⟩,⟨[],[(.x 0,⟨[(8,.own zk 44)],[]⟩),(.r,⟨[],[(4,.nil),(5,.ci 4)]⟩)]⟩⟩)],[(8,[])],[],[],[]⟩ func79<|ee5 kP Ik BY zaD SH
def NR:zW ⟨38,[.d yG],[.own zk 44],vv1 (J5 fu),0⟩:=f8 fu xL func38<|ee3 CD kP Sc
def MX:zW ⟨12,[.d yG],[.d (.po (.w1 (.p yG d8))),.own zk 44],vv1 (J4 fu),0⟩:=f8 fu (f9 [(4,⟨⟨[(4,.d .i)],[]⟩,⟨[],[(.x 0,⟨[],[]⟩),(.r,⟨[(2,.d (.po (.w1 (.p yG d8))))],[(3,.nil)]⟩)]⟩⟩)]) func12<|ee2 Cd NR
def Qb:zW ⟨156,[.d d7],[.d zk],vv1 (xV fu),0⟩:=f8 fu xL func156<|ee1 qc
def tC:zW ⟨158,[.d zk,.d zk],[.d d7,.d .i],vv2 (XI fu),0⟩:=f8 fu xL func158<|ee4 lv BW gN XU
def eh:zW ⟨72,[.d .i],[.d d7],vv1 (YU fu),0⟩:=f8 fu xL func72<|ee1 pE
def JG:zW ⟨153,[.d zk,.d zk],[.d d7],vv2 (jg fu),0⟩:=f8 fu xL func153<|ee2 eh tC
def Wa:zW ⟨152,[.d d7],[.d d7],vv1 (wV fu),0⟩:=f8 fu xL func152<|ee2 JG Qb
def gR:zW ⟨106,[.d d7,.d d7],[.d d7],vv2 (Xb fu),0⟩:=f8 fu xL func106<|ee5 Wa JG lO VU Qb
def GY:zW ⟨76,[.d d8,.d .i],[.d d7],vv2 (kZ fu),0⟩:=f8 fu xL func76<|ee1 eh
def SB:zW ⟨110,[.d d7,.d d7],[.d d7,.d .i],vv2 (U5 fu),0⟩:=f8 fu xL func110<|ee4 Wa VU Qb tC
def BX:zW ⟨107,[.d d7,.d d7],[.d d7],vv2 (Qx fu),0⟩:=f8 fu xL func107<|ee4 Wa JG VU Qb
def B4:zW ⟨150,[.d d7],[.d d7],vv1 (Qc fu),0⟩:=f8 fu xL func150<|ee3 JG Qb lv
def B9:zW ⟨111,[.d d7,.d d7],[.d d7],vv2 (Qv fu),0⟩:=f8 fu xL func111<|ee2 gR B4
def tu:zW ⟨114,[.d d7],[.d .i],vv1 (XY fu),0⟩:=f8 fu xL func114<|ee2 Wa XU
def PE:zW ⟨105,[.d d8],[.own d7 46],vv1 (X0 fu),0⟩:=f8 fu (f9 [(2,q1 [(3,.d .i)] 0 [(3,.d .i)]),(6,q1 [(4,.own d7 46),(5,.d .i)] 2 [(4,.own d7 46)])]) func105<|ee2 Wa tu
def UF:zW ⟨71,[.d yG,.d d8],[.own d7 46],vv2 (kq fu),0⟩:=f8 fu ⟨[],[(851982,⟨[5,7,9,11,13],[(.n,⟨[(8,.d .i),(55,.d .b)],[]⟩)]⟩)],[(4,q1 [(7,.own d7 46),(5,.own zk 44)] 0 [(7,.own d7 46)]),(9,q1 [(6,.d .i),(11,.own d7 46),(12,.d .i),(5,.own zk 44),(7,.own d7 46),(9,.var d7 46)] 2 [(6,.d .i),(11,.own d7 46),(5,.own zk 44)])],[(6,[37])],[],[],[]⟩ func71<|ee5 PE BX SB kP B9
def UW:zW ⟨68,[.d yG,.d d8,.d d8],[.own d7 46],vv3 (Zf fu),0⟩:=f8 fu (f9 [(3,q1 [(7,.own d7 46),(8,.d .i)] 0 [(7,.own d7 46)])]) func68<|ee3 gR GY UF
def Wc:zW ⟨32,[.d yG,.d (.l d8)],[.own d8 41],vv2 (vZ fu),0⟩:=f8 fu (f9 [(3,q1 [(5,.own d8 41),(6,.d .i)] 0 [(5,.own d8 41)]),(7,⟨⟨[(7,.d .i)],[]⟩,⟨[5],[(.x 2,⟨[(7,.d .i)],[]⟩)]⟩⟩)]) func32<|ee1 UF
def En:zW ⟨69,[.d (.l d8),.d .i],[.d d8],vv2 (YN fu),0⟩:=sq fu xL func69<|cN
def Tw:zW ⟨29,[.d yG,.d (.l d8),.d (.l d8)],[.own d8 41],vv3 (az fu),0⟩:=f8 fu (f9 [(3,q1 [(7,.own d8 41),(8,.d .i)] 0 [(7,.own d8 41)])]) func29<|ee3 Wc UW En
def iC:zW ⟨60,[.d yG,.d d8,.d d8],[.own d7 46],vv3 (Zt fu),0⟩:=f8 fu (f9 [(3,q1 [(7,.own d7 46),(8,.d .i)] 0 [(7,.own d7 46)]),(7,q1 [(9,.d .i),(7,.own d7 46)] 2 [(7,.own d7 46)]),(10,q1 [(0,.d yG),(1,.d d8),(2,.d d8),(10,.d .i),(7,.own d7 46)] 4 [(0,.d yG),(1,.d d8),(2,.d d8),(7,.own d7 46)])]) func60<|ee4 eh gR BX UF
def Hh:zW ⟨33,[.d yG,.d (.l d8)],[.own d8 41],vv2 (Yy fu),0⟩:=f8 fu (f9 [(3,q1 [(5,.own d8 41),(6,.d .i)] 0 [(5,.own d8 41)])]) func33<|ee3 eh Wc iC
def Oe:zW ⟨34,[.d yG,.d (.l d8),.d d8],[.own d7 46],vv3 (JL fu),0⟩:=f8 fu (f9 [(3,q1 [(7,.own d7 46),(8,.d .i)] 0 [(7,.own d7 46)])]) func34<|ee2 iC UW
end
end
section
set_option maxRecDepth 100000
section
open Go.Proofs.Tryz
variable(fu:wL)
def zag:zW ⟨75,[.d d7,.d d7],[.d .i],vv2 (UJ fu),0⟩:=f8 fu xL func75<|ee2 tu B9
def Pn:zW ⟨36,[.d (.l d8),.d (.l d8)],[.d .b],vv2 (JU fu),0⟩:=f8 fu (f9 [(4,⟨⟨[(5,.d .i)],[]⟩,⟨[],[(.x 0,⟨[],[]⟩),(.r,⟨[(4,.d .b)],[]⟩)]⟩⟩),(7,⟨⟨[(0,.d (.l d8)),(1,.d (.l d8)),(6,.d .i)],[]⟩,⟨[],[(.x 2,⟨[(0,.d (.l d8)),(1,.d (.l d8))],[]⟩),(.r,⟨[(4,.d .b)],[]⟩)]⟩⟩)]) func36<|ee2 zag GY
def zaj:zW ⟨31,[.d yG,.d (.l d8),.d (.l d8)],[.own d8 41],vv3 (Uh fu),0⟩:=f8 fu (f9 [(3,q1 [(8,.d .i),(7,.own d8 41)] 0 [(7,.own d8 41)]),(6,q1 [(0,.d yG),(1,.d (.l d8)),(2,.d (.l d8)),(9,.d .i),(7,.own d8 41)] 2 [(0,.d yG),(1,.d (.l d8)),(2,.d (.l d8)),(7,.own d8 41)])]) func31<|ee3 Wc iC UW
def R6:zW ⟨109,[.d yG,.d d8],[.own d7 46],vv2 (gP fu),0⟩:=f8 fu (f9 [(3,q1 [(5,.own d7 46),(6,.d .i)] 0 [(5,.own d7 46)])]) func109<|ee2 B4 UF
def SP:zW ⟨70,[.d yG,.d d8,.d d8],[.own d7 46],vv3 (UR fu),0⟩:=f8 fu xL func70<|ee2 UW R6
def PO:zW ⟨30,[.d yG,.d (.l d8),.d (.l d8)],[.own d8 41],vv3 (U3 fu),0⟩:=f8 fu (f9 [(3,q1 [(7,.own d8 41),(8,.d .i)] 0 [(7,.own d8 41)])]) func30<|ee3 Wc En SP
def nU:J2:=⟨⟨66,[.d (.w1 (.po (.w1 (.p yG d8)))),.d (.l d8),.d (.l d8),.d .b],[.own d8 41],λ_=>wS,0⟩,λx=>vX fu x.1 x.2.1 x.2.2.1 x.2.2.2.1⟩
def Jr:PN Tryz.prog (nU fu):=sgp (fu:=fu) ⟨[],[(327686,⟨[9],[(.n,⟨[(3,.d .b),(4,.q (.w1 (.po (.w1 (.p yG d8))))),(21,.d (.l d8)),(22,.d .i),(24,.d .b)],[]⟩)]⟩)],[(4,⟨⟨[(23,.d .i),(9,.own d8 41)],[]⟩,⟨[],[(.x 0,⟨[(9,.own d8 41)],[]⟩),(.p (0,0),⟨[],[]⟩)]⟩⟩)],[(7,[38]),(8,[52])],[],[],[]⟩ func66 (cC (Xw fu)<|cC (au fu)<|cN) (pC (k9 fu)<|pC (xI fu)<|pN) rO λx=>by kernel_rfl
def Rz:zW ⟨25,[.d (.po (.w1 (.p yG d8))),.d (.l d8),.d (.l d8)],[.own d8 41,.d .i],vv3 (UY fu),0⟩:=sgr (fu:=fu) xL Kk func25 (cN) (pC (Jr fu)<|pN) rO λx=>by kernel_rfl
def HQ:zW ⟨26,[.d (.po (.w1 (.p yG d8))),.d (.l d8)],[.d (.l d8),.d .i],vv2 (Yu fu),0⟩:=sgr (fu:=fu) ⟨[],[(327686,⟨[4,5,6,13],[(.n,⟨[(0,.d (.po (.w1 (.p yG d8)))),(14,.d .i),(16,.d .b)],[]⟩)]⟩)],[(4,⟨⟨[(4,.own d8 41),(15,.d .i),(5,.var .i 29),(6,.var (.w1 (.po (.w1 (.p yG d8)))) 81),(13,.own d8 41)],[]⟩,⟨[],[(.x 0,⟨[(4,.own d8 41),(5,.var .i 29),(6,.var (.w1 (.po (.w1 (.p yG d8)))) 81)],[]⟩),(.p (0,0),⟨[(4,.own d8 41),(5,.var .i 29)],[]⟩)]⟩⟩)],[],[],[],[]⟩ Kk func26 (cC (bJ fu)<|cC (uU fu)<|cN) (pC (k9 fu)<|pC (xI fu)<|pN) rO λx=>by kernel_rfl
def Pc:zW ⟨28,[.d (.po (.w1 (.p yG d8))),.d (.l d8),.d d8],[.d d8,.d .i],vv3 (Jw fu),0⟩:=sgr (fu:=fu) ⟨[],[],[(4,⟨⟨[(6,.d d8),(8,.d .i)],[]⟩,⟨[1,7],[(.x 0,⟨[(6,.d d8)],[]⟩),(.p (0,0),⟨[(6,.d d8)],[]⟩)]⟩⟩)],[(6,[24])],[],[],[]⟩ Kk func28 (cC (Xw fu)<|cC (uU fu)<|cN) (pC (k9 fu)<|pC (xI fu)<|pN) rO λx=>by kernel_rfl
def zch:zW ⟨74,[.d d8,.d .i],[.d d7],vv2 (Ko fu),0⟩:=f8 fu xL func74<|ee1 bJ
def zfz:zW ⟨73,[.d d7,.d d7],[.d .i],vv2 (mW fu),0⟩:=f8 fu xL func73<|ee2 AU o9
def Og:zW ⟨35,[.d (.l d8),.d (.l d8)],[.d .b],vv2 (JJ fu),0⟩:=f8 fu (f9 [(4,⟨⟨[(5,.d .i)],[]⟩,⟨[],[(.x 0,⟨[],[]⟩),(.r,⟨[(4,.d .b)],[]⟩)]⟩⟩),(7,⟨⟨[(0,.d (.l d8)),(1,.d (.l d8)),(6,.d .i)],[]⟩,⟨[],[(.x 2,⟨[(0,.d (.l d8)),(1,.d (.l d8))],[]⟩),(.r,⟨[(4,.d .b)],[]⟩)]⟩⟩)]) func35<|ee2 zfz zch
def TX:zW ⟨21,[.d (.po (.w1 (.p yG d8))),.d (.l d8),.d (.l d8)],[.own d8 41,.d .i],vv3 (UO fu),0⟩:=sgr (fu:=fu) xL Kk func21 (cN) (pC (VV fu)<|pN) rO λx=>by kernel_rfl
def NV:zW ⟨22,[.d (.po (.w1 (.p yG d8))),.d (.l d8)],[.own d8 41,.d .i],vv2 (JA fu),0⟩:=sgr (fu:=fu) xL Kk func22 (cN) (pC (xI fu)<|pN) rO λx=>by kernel_rfl
def RF:zW ⟨27,[.d (.po (.w1 (.p yG d8))),.d (.l d8),.d (.l d8)],[.own d8 41,.d .i],vv3 (UX fu),0⟩:=sgr (fu:=fu) xL Kk func27 (cN) (pC (Jr fu)<|pN) rO λx=>by kernel_rfl
def sW:zW ⟨7,[.d yG,.d (.l d8),.d (.l d8),.d d8],[.d .b],vv4 (uR fu),0⟩:=sq fu xL func7<|cC (HL fu)<|cC (MX fu)<|cC (SL fu)<|cC (tS fu)<|cC (TX fu)<|cC (NV fu)<|cC (sN fu)<|cC (Rz fu)<|cC (HQ fu)<|cC (RF fu)<|cC (Pc fu)<|cC (Tw fu)<|cC (PO fu)<|cC (zaj fu)<|cC (Wc fu)<|cC (Hh fu)<|cC (Oe fu)<|cC (Og fu)<|cC (Pn fu)<|cN
end
end
section
variable{r a b l:ww wL}{k:wL}
def nv:N K->K
 |[]=>0
 |x::r=>x+18446744073709551616*nv r
def vy:K->K->N K
 |0,_=>[]
 |k+1,n=>n%18446744073709551616::vy k (n/18446744073709551616)
def sJ:K->K->N K
 |0,_=>[]
 |f+1,n=>if n=0 then[]else n%18446744073709551616::sJ f (n/18446744073709551616)
def yI(n:K):N K:=sJ n n
def LD:N K->N K
 |[]=>[]
 |x::r=>match LD r with
  |[]=>if x=0 then[]else[x]
  |y::s=>x::y::s
def zp.nil:zp []:=λx c=>jp c H1
def zp.cons{x:K}(h:x<18446744073709551616)(c:zp r):zp (x::r):=λy hy=>by
 obtain rfl|hy:=xai.1 hy
 exact h;exact c y hy
def zp.head{x:K}(h:zp (x::r)):x<18446744073709551616:=h x<|IR
def zp.tail{x:K}(h:zp (x::r)):zp r:=λy c=>h y<|FS _ c
def zp.append(c:zp a)(d:zp b):zp (a++b):=λx e=>by
 obtain h|h:=xab.1 e
 exact c x h;exact d x h
theorem zp.take{a:N K}(h:zp a)(k:K):zp (a.take k):=λx c=>h x<|xes c
theorem zp.drop{a:N K}(h:zp a)(k:K):zp (a.drop k):=λx c=>h x<|xfK c
theorem zp.getD{a:N K}(h:zp a)(k:K):a.getD k 0<18446744073709551616:=by rw[UV];by_cases c:k<X a;rw[xaa c];exact h _<|xby c;simp_all
def zp.replicate(k:K):zp (So k 0):=λx c=>by rw[List.eq_of_mem_replicate c];exact Nat.zero_lt_succ _
def EN:nv []=0:=O
def kR(x:K)(r:N K):nv (x::r)=x+18446744073709551616*nv r:=O
theorem uA:∀(a b:N K),nv (a++b)=nv a+18446744073709551616^X a*nv b
 |[],b=>by simp[nv]
 |x::a,b=>by
  rw[xbL,kR,uA a b,kR];grind
def JQ:∀k,nv (So k 0)=0
 |0=>rfl
 |k+1=>by rw[xdT,kR,JQ k]
theorem vd:∀{l:N K},zp l->nv l<18446744073709551616^X l
 |[],_=>by simp[nv]
 |x::r,h=>by
  have h1:=h.head;have c:=vd h.tail;rw[kR,xaw];lia
theorem sX(l:N K)(x:K):nv (l++[x])=nv l+18446744073709551616^X l*x:=by rw[uA,kR,EN];simp
def yc:∀k n,X (vy k n)=k
 |0,_=>rfl
 |k+1,n=>by rw[vy,xaw,yc]
def wq:∀k n,zp (vy k n)
 |0,_=>zp.nil
 |k+1,n=>zp.cons (xaP _ rx)<|wq k _
def kS:∀k n,nv (vy k n)=n%18446744073709551616^k
 |0,n=>by simp[vy,nv,Nat.mod_one]
 |k+1,n=>by rw[vy,kR,kS k,xbA,xaS<|18446744073709551616^k,Nat.mod_mul]
def ny:∀{l:N K},zp l->vy (X l) (nv l)=l
 |[],_=>rfl
 |x::r,h=>by
  have h1:=h.head;rw[xaw,vy,kR,xco,xap h1,xcz _ _ rx,xbj h1,xaD,ny h.tail]
def BN(c:zp a)(d:zp b)(hl:X a=X b)(h:nv a=nv b):a=b:=by rw[<-ny c,<-ny d,hl,h]
def My:∀k,vy k 0=So k 0
 |0=>rfl
 |k+1=>by rw[vy,My k,xdT]
def cV:∀k n,vy (k+1) n=vy k n++[n/18446744073709551616^k%18446744073709551616]
 |0,n=>by simp[vy]
 |k+1,n=>by rw[vy,cV k,vy,xbL,xaF,<-xdQ]
def Fq:∀f n,zp (sJ f n)
 |0,_=>zp.nil
 |f+1,n=>by
  rw[sJ];split;exact zp.nil;exact zp.cons (xaP _ rx)<|Fq f _
theorem zt(n:K):zp (yI n):=Fq n n
def zcK:∀f n,n<=f->nv (sJ f n)=n
 |0,n,h=>by rw[sJ,EN];lia
 |f+1,n,h=>by
  rw[sJ];split;rename_i h0;rw[EN,h0];rename_i h0;have c:n/18446744073709551616<=f:=W
  rw[kR,zcK f _ c,xev]
theorem zV(n:K):nv (yI n)=n:=zcK n n<|Nm _
def zc1:∀f f' n,n<=f->n<=f'->sJ f n=sJ f' n
 |0,f',n,h,c=>by
  have:n=0:=W
  subst this;cases f'<;>simp[sJ]
 |f+1,0,n,h,c=>by
  have:n=0:=W
  subst this;rfl
 |f+1,f'+1,n,h,c=>by
  rw[sJ,sJ];split;rfl;rename_i h0;rw[zc1 f f' _ W W]
theorem mb:yI 0=[]:=O
theorem tw{n:K}(h:0<n):yI n=n%18446744073709551616::yI (n/18446744073709551616):=by
 have e:yI n=sJ ((n-1)+1) n:=by unfold yI;congr 1;lia
 rw[e,sJ,zG];congr 1;exact zc1 _ _ _ W W
theorem Mc{n:K}(h0:0<n)(h:n<18446744073709551616):yI n=[n]:=by grind [tw,mb]
theorem Nb{n:K}:yI n=[]↔n=0:=by constructor;intro h;rw[<-zV n,h];rfl;rintro rfl;rfl
theorem qk{n:K}(h:0<n):0<X (yI n):=by rw[tw h,xaw];lia
def zL:∀(k n:K),X (yI n)<=k↔n<18446744073709551616^k
 |0,n=>by rw[Nat.le_zero,xbt,Nb];simp;
 |k+1,n=>by
  by_cases h:n=0
  subst h;simp[mb];exact xaY rx
  rw[tw W,xaw,Nat.add_le_add_iff_right,zL k,xaX rx,xbA]
def ziC{n:K}(h:0<n):(yI n).getD (X (yI n)-1) 0≠0:=by
 intro h0;have hp:=qk h;have e:=ny<|zt n;rw[zV]at e;have⟨k,c⟩:∃k,X (yI n)=k+1:=⟨X (yI n)-1,W⟩;have h1:=(zL k n).2;rw[c,cV]at e;rw[<-e]at h0;simp at h0;have d:=(zL (k+1) n).1 W;have f:n/18446744073709551616^k<18446744073709551616:=by rw[xaX<|xaY rx];rwa[xbA,xaS]at d
 rw[xap f]at h0;have g:n<18446744073709551616^k:=by
  obtain h|h:=Nat.div_eq_zero_iff.1 h0
  lia;exact h
 lia
def ot:∀(l:N K) (k:K),k+1=X l->l.getD k 0≠0->LD l=l
 |[],_,h,_=>by simp at h
 |[x],0,_,h=>by simp at h;simp[LD,h]
 |[x],k+1,h,_=>by simp at h
 |x::y::r,0,h,_=>by simp at h
 |x::y::r,k+1,h,h0=>by
  have:=ot (y::r) k (by simpa using h) (by simpa using h0);simp only[LD]at this⊢;rw[this]
theorem Tf:∀{l:N K},zp l->LD l=yI (nv l)
 |[],_=>rfl
 |x::r,h=>by
  have c:=Tf h.tail;have d:=h.head;rw[LD,c,kR];by_cases e:nv r=0
  rw[e,mb];by_cases h0:x=0
  simp[h0,mb];simp only[h0,Z5,xdo,xbT];rw[Mc W d];have e1:=tw (n:=nv r) W;have f:=tw (n:=x+18446744073709551616*nv r) W;grind
theorem RQ(hl:zp l)(h:l=[]\/l.getD (X l-1) 0≠0):yI (nv l)=l:=by
 rw[<-Tf hl];obtain rfl|h:=h
 rfl
 cases hn:X l with
 |zero=>rw[xbq hn];rfl
 |succ k=>exact ot l k hn.symm<|by rw[hn]at h;exact h
def Db(hl:zp l)(k:K):nv (l.take k)=nv l%18446744073709551616^k:=by by_cases c:k<=X l;have e:=uA (l.take k)<|l.drop k;rw[xbG,xas,xcl c]at e;have:=vd<|hl.take k;rw[xas,xcl c]at this;rw[e,xco,xap this];rw[xaW W,xap];exact xag (vd hl)<|xam rx W
def Nw(hl:zp l)(k:K):nv (l.drop k)=nv l/18446744073709551616^k:=by by_cases c:k<=X l;have e:=uA (l.take k)<|l.drop k;rw[xbG,xas,xcl c]at e;have:=vd<|hl.take k;rw[xas,xcl c]at this;rw[e,xcz _ _ (xaY rx),xbj this,xaD];rw[xbQ W,EN,xbj];exact xag (vd hl)<|xam rx W
def aj:∀{l:N K},zp l->∀k,l.getD k 0=nv l/18446744073709551616^k%18446744073709551616
 |[],_,k=>by simp[nv]
 |x::r,h,0=>by rw[List.getD_cons_zero,kR,xer,xco,xap h.head]
 |x::r,h,k+1=>by rw[xds,aj h.tail k,kR,xdQ,<-xaF,xcz _ _ rx,xbj h.head,xaD]
theorem OM{α:Type}{l:N α}{n:K}{z x:α}(hl:X l=k)(c:k<n):(l++So (n-k) z).set k x=(l++[x])++So (n-(k+1)) z:=by have⟨m,d⟩:∃m,n-k=m+1:=⟨n-k-1,W⟩;rw[xfC _ _ W,hl];grind
def vI(step:K->K->K×K):K->N K×K
 |0=>([],0)
 |k+1=>((vI step k).1++[(step k (vI step k).2).1],(step k (vI step k).2).2)
theorem wz(step:K->K->K×K):∀k,(vI step k).1.length=k
 |0=>rfl
 |k+1=>by rw[vI,xau,wz step k];rfl
def CL(a b:N K)(k c:K):K×K:=((a.getD k 0+b.getD k 0+c)%18446744073709551616,(a.getD k 0+b.getD k 0+c)/18446744073709551616)
theorem zbw{c:K}(d:zp a)(e:zp b)(hc:c<=1):(CL a b k c).2<=1:=by grind [CL,zp.getD]
theorem jm(l:N K):∀k,nv (l.take<|k+1)=nv (l.take k)+18446744073709551616^k*l.getD k 0:=by
 induction l with
 |nil=>intro k;simp[nv]
 |cons x r c=>
  intro k
  cases k with
  |zero=>simp[nv]
  |succ k=>
   rw[xeC,kR,c k,xeC,kR,xds,xbA,xcp];rw[xaS (18446744073709551616^k) 18446744073709551616,xbn,xcV]
theorem Ft(a b:N K):∀k,nv (vI (CL a b) k).1+18446744073709551616^k*(vI (CL a b) k).2=nv (a.take k)+nv (b.take k)/\zp (vI (CL a b) k).1
 |0=>⟨by simp[vI,nv],zp.nil⟩
 |k+1=>by
  have⟨f,d⟩:=Ft a b k;rw[vI,jm,jm,sX,wz];refine⟨?_,d.append<|zp.cons (xaP _ rx) zp.nil⟩;generalize hc:(vI (CL a b) k).2=c at*
  simp only[CL];have e:=xev (a.getD k 0+b.getD k 0+c) 18446744073709551616;grind
theorem zgA{n:K}(c:X a<=n)(d:X b<=n):nv ((vI (CL a b) n).1++[(vI (CL a b) n).2])=nv a+nv b:=by grind [sX,wz,Ft,xaW]
end
section
variable{y k m j i:wL}{l a b o o0 r:ww wL}
def FM{x:K}(h:X (yI x)<X (yI y)):x<y:=by
 have h1:=(zL (X (yI x)) x).1<|Nm _;have d:¬y<18446744073709551616^X (yI x):=λc=>by have:=(zL _ y).2 c;lia
 lia
theorem KE(x B k:K)(c:0<B):x/B^k=B*(x/B^(k+1))+x/B^k%B:=by grind [xbu,xaF]
def zfN{x:K}(h:x/18446744073709551616^(k+1)=y/18446744073709551616^(k+1))(hd:x/18446744073709551616^k%18446744073709551616<y/18446744073709551616^k%18446744073709551616):x<y:=by have h1:=KE x 18446744073709551616 k rx;have e:=KE y 18446744073709551616 k rx;refine xdp λd=> ?_;have f:=Nat.div_le_div_right (c:=18446744073709551616^k) d;lia
theorem zpd{x:K}(h:x/18446744073709551616^(k+1)=y/18446744073709551616^(k+1))(hd:x/18446744073709551616^k%18446744073709551616=y/18446744073709551616^k%18446744073709551616):
 x/18446744073709551616^k=y/18446744073709551616^k:=by grind [KE]
theorem Qy(n k:K):(yI n).getD k 0=n/18446744073709551616^k%18446744073709551616:=by rw[aj<|zt n,zV]
def zgi{x:K}(h:X (yI x)=X (yI y)):x/18446744073709551616^X (yI x)=y/18446744073709551616^X (yI x):=by rw[xbj<|(zL _ x).1<|Nm _,xbj<|(zL _ y).1 W]
theorem xe(h:zp l):X (yI<|nv l)<=X l:=(zL _ _).2<|vd h
theorem zki{x:K}(c:0<m)(h:x/18446744073709551616^m=y/18446744073709551616^m)(hd:(yI x).getD (m-1) 0=(yI y).getD (m-1) 0):x/18446744073709551616^(m-1)=y/18446744073709551616^(m-1):=by grind [zpd,Qy]
def zmx{x:K}(h:X (yI x)≠X (yI y)):jE (X (yI x):K) (X (yI y):K)=jE x y:=by
 obtain h|h:=Nat.lt_or_gt_of_ne h
 have:=FM h;rw[qP W,qP W];have:=FM h;rw[vK W,vK W]
def zfj{x:K}(d:0<m)(h:x/18446744073709551616^m=y/18446744073709551616^m)(hd:(yI x).getD (m-1) 0≠(yI y).getD (m-1) 0):
 jE ((yI x).getD (m-1) 0:K) ((yI y).getD (m-1) 0:K)=jE x y:=by
 rw[(W:m=m-1+1)]at h;obtain hd|hd:=Nat.lt_or_gt_of_ne hd
 have c:=hd;rw[Qy,Qy]at c;have:=zfN h c;rw[qP W,qP W];have c:=hd;rw[Qy,Qy]at c;have:=zfN h.symm c;rw[vK W,vK W]
def fL(a b:N K)(k c:K):K×K:=((a.getD k 0+18446744073709551616-b.getD k 0-c)%18446744073709551616,if a.getD k 0<b.getD k 0+c then 1 else 0)
def Gj(a b:N K)(k c:K):(fL a b k c).2<=1:=by simp only[fL];split<;>lia
theorem Rp{a b:N K}(d:zp a)(f:zp b):∀k,nv (vI (fL a b) k).1+nv (b.take k)=nv (a.take k)+18446744073709551616^k*(vI (fL a b) k).2/\zp (vI (fL a b) k).1/\(vI (fL a b) k).2<=1
 |0=>⟨by simp[vI,nv],zp.nil,xaf _⟩
 |k+1=>by
  have⟨h,g,n⟩:=Rp d f k;rw[vI,jm,jm,sX,wz];refine⟨?_,g.append<|zp.cons (xaP _ rx) zp.nil,Gj a b k _⟩;generalize hc:(vI (fL a b) k).2=c at*
  simp only[fL];have h1:=d.getD k;have p:=f.getD k;generalize a.getD k 0=x at*
  generalize b.getD k 0=y at*
  have e:(x+18446744073709551616-y-c)%18446744073709551616+y+c=x+18446744073709551616*(if x<y+c then 1 else 0):=by grind
  grind
def FC{n:K}(c:zp a)(d:zp b)(hc:X a<=n)(hd:X b<=n):
 nv (vI (fL a b) n).1+nv b=nv a+18446744073709551616^n*(vI (fL a b) n).2/\zp (vI (fL a b) n).1/\(vI (fL a b) n).2<=1:=by
 have:=Rp c d n;rwa[xaW hc,xaW hd]at this
theorem IY{n:K}(c:zp a)(d:zp b)(hc:X a<=n)(hd:X b<=n):0<(vI (fL a b) n).2↔nv a<nv b:=by have⟨h1,e,g⟩:=FC c d hc hd;have f:=vd e;rw[wz]at f;constructor;grind;grind
theorem zfc{n:K}(c:zp a)(d:zp b)(hc:X a<=n)(hd:X b<=n)(h:¬nv a<nv b):nv (vI (fL a b) n).1=nv a-nv b:=by have⟨h1,e,f⟩:=FC c d hc hd;have:¬0<(vI (fL a b) n).2:=λhp=>h<|(IY c d hc hd).1 hp;grind
def gM(a:N K)(x k c:K):K×K:=((a.getD k 0*x+c)%18446744073709551616,(a.getD k 0*x+c)/18446744073709551616)
def rK{a x c:K}(d:a<18446744073709551616)(e:x<18446744073709551616)(hc:c<18446744073709551616):(a*x+c)/18446744073709551616<18446744073709551616:=by have:a*x<=18446744073709551615*18446744073709551615:=xcf W W;lia
def zbx{x c:K}(d:zp a)(e:x<18446744073709551616)(hc:c<18446744073709551616):(gM a x k c).2<18446744073709551616:=rK (d.getD k) e hc
theorem PW(a:N K)(x:K):∀k,nv (vI (gM a x) k).1+18446744073709551616^k*(vI (gM a x) k).2=nv (a.take k)*x/\zp (vI (gM a x) k).1
 |0=>⟨by simp[vI,nv],zp.nil⟩
 |k+1=>by
  have⟨f,d⟩:=PW a x k;rw[vI,jm,sX,wz];refine⟨?_,d.append<|zp.cons (xaP _ rx) zp.nil⟩;generalize hc:(vI (gM a x) k).2=c at*
  simp only[gM];have e:=xev (a.getD k 0*x+c) 18446744073709551616;grind
def SV{x:K}(hc:(vI (gM a x) (X a)).2<18446744073709551616):(vI (gM a x) (X a)).1++[(vI (gM a x) (X a)).2]=vy (X a+1) (nv a*x):=by
 have⟨h1,c⟩:=PW a x (X a);have hl:=c.append<|zp.cons hc zp.nil;have hn:nv ((vI (gM a x) (X a)).1++[(vI (gM a x) (X a)).2])=nv a*x:=by rw[sX,wz,h1,xaW<|Nm _]
 have:=ny hl;rw[xau,wz]at this;simp_all
def Eg{x:K}(c:zp a)(d:x<18446744073709551616):nv a*x<18446744073709551616^(X a+1):=by
 have:=vd c
 calc nv a*x<=nv a*18446744073709551616:=xaG _ W
  _<_:=xbN this rx
theorem ziM:∀(o:N K) (j v:K),j<X o->nv (o.set j v)+18446744073709551616^j*o.getD j 0=nv o+18446744073709551616^j*v
 |[],j,v,h=>by simp at h
 |x::r,0,v,h=>by simp[nv];lia
 |x::r,j+1,v,h=>by
  have c:=ziM r j v (by simpa using h);rw[xfh,kR,kR,xds,xbA,xaS<|18446744073709551616^j,xbn,xbn];lia
def zp.set{o:N K}(h:zp o)(j:K){v:K}(hv:v<18446744073709551616):zp (o.set j v):=λx c=>by
 obtain h1|h1:=xdx c
 exact h x h1;lia
theorem zfW{c:K}(d:j+i<X o)(h:nv o+18446744073709551616^(j+i)*c=nv o0+18446744073709551616^j*nv (r.take i)):
 nv (o.set (j+i)<|(o.getD (j+i) 0+r.getD i 0+c)%18446744073709551616)+18446744073709551616^(j+(i+1))*((o.getD (j+i) 0+r.getD i 0+c)/18446744073709551616)=nv o0+18446744073709551616^j*nv (r.take<|i+1):=by grind [ziM,jm,xcp,xbn,xbg,xev]
def JY(c:zp a)(d:zp b):nv a*nv (b.take k)<18446744073709551616^(X a+k):=by have h1:=vd c;have e:=vd<|d.take k;have f:18446744073709551616^X (b.take k)<=18446744073709551616^k:=xam rx (by rw[xas];lia);rw[xbg];exact xbS h1 W
def zm1{c:K}(h:nv o+18446744073709551616^(j+X r)*c=nv o0+18446744073709551616^j*nv r)(hn:nv o0+18446744073709551616^j*nv r<18446744073709551616^(j+X r)):
 c=0/\nv o=nv o0+18446744073709551616^j*nv r:=by
 have hc:c=0:=by refine xfq λhp=> ?_;have:18446744073709551616^(j+X r)*1<=18446744073709551616^(j+X r)*c:=xaG _ hp;lia
 simp_all
def SC{p:N K}{c:K}(d:zp a)(f:zp b)(hi:¬i<X a+1)(hd:i<=X a+1)(g:nv o=nv a*nv (b.take k))(hp:nv p+18446744073709551616^(k+i)*c=nv o+18446744073709551616^k*nv ((vy (X a+1)<|nv a*b.getD k 0).take i)):nv p=nv a*nv (b.take<|k+1):=by
 obtain rfl:i=X a+1:=W
 have hl:=yc (X a+1)<|nv a*b.getD k 0;rw[xaW W]at hp;have h:nv (vy (X a+1)<|nv a*b.getD k 0)=nv a*b.getD k 0:=by rw[kS,xap<|Eg d<|f.getD k]
 have e:nv o+18446744073709551616^k*nv (vy (X a+1)<|nv a*b.getD k 0)=nv a*nv (b.take<|k+1):=by rw[h,g,jm,xcp,xfw]
 have hc:nv o+18446744073709551616^k*nv (vy (X a+1)<|nv a*b.getD k 0)<18446744073709551616^(k+X (vy (X a+1)<|nv a*b.getD k 0)):=by rw[e,hl,(W:k+(X a+1)=X a+(k+1))];exact JY d f
 generalize vy (X a+1) (nv a*b.getD k 0)=r at*
 rw[<-hl]at hp;rw[(zm1 hp hc).2,e]
def m32{a b:K}(c:a<4294967296)(d:b<4294967296):a*b<=18446744065119617025:=xcf (W:a<=4294967295) (W:b<=4294967295)
def zkS{x:K}(c:x<18446744073709551616)(d:y<18446744073709551616):(x%4294967296)*(y%4294967296)<=18446744065119617025/\(x/2^32)*(y%4294967296)<=18446744065119617025/\
 (x%4294967296)*(y/2^32)<=18446744065119617025/\(x/2^32)*(y/2^32)<=18446744065119617025:=
 ⟨m32 W W,m32 W W,m32 W W,m32 W W⟩
theorem zjL(x y:K):x*y=18446744073709551616*((x/2^32)*(y/2^32))+4294967296*((x/2^32)*(y%4294967296))+4294967296*((x%4294967296)*(y/2^32))+(x%4294967296)*(y%4294967296):=by
 have h1:x=4294967296*(x/2^32)+x%4294967296:=W
 have c:y=4294967296*(y/2^32)+y%4294967296:=W
 grind
def ZC{x:K}(c:X (yI x)<=k)(d:X (yI y)<=k):X (yI<|x+y)<=k+1:=by
 rw[zL]at*
 lia
theorem zt0{x0 c d f P:K}:x0*d+P*((x0+c)*(d+f)-x0*d-c*f)+P*P*(c*f)=(x0+P*c)*(d+P*f):=by
 have e:(x0+c)*(d+f)-x0*d-c*f=x0*f+c*d:=by grind
 grind
theorem zk5(x0 d c e:K):x0*c<=(x0+d)*(c+e)/\d*e<=(x0+d)*(c+e)-x0*c:=by grind
theorem R1(h:K):l.take (min h (X l))=l.take h:=by rw[Nat.min_def];split;rfl;grind
def Rn(h:K):l.drop (min h (X l))=l.drop h:=by rw[Nat.min_def];split;rfl;rw[xbQ<|Nm _,xbQ W]
def DP(n:K)(l:N K):nv (So n 0++l)=18446744073709551616^n*nv l:=by simp_all [uA,JQ]
def Iu(h:K):nv (l.take h)+18446744073709551616^h*nv (l.drop h)=nv l:=by by_cases c:h<=X l;have e:=uA (l.take h)<|l.drop h;simp_all;rw[xbQ W,xaW W,EN,xdo,xbT]
theorem zlG{A B:N K}(h:K):nv (A.take h)*nv (B.take h)+18446744073709551616^h*((nv (A.take h)+nv (A.drop h))*(nv (B.take h)+nv (B.drop h))-nv (A.take h)*nv (B.take h)-nv (A.drop h)*nv (B.drop h))+
 18446744073709551616^(2*h)*(nv (A.drop h)*nv (B.drop h))=nv A*nv B:=by
 have:= @zt0 (nv<|A.take h) (nv<|A.drop h) (nv<|B.take h) (nv<|B.drop h)<|18446744073709551616^h;rw[Iu,Iu]at this;rw[Nat.two_mul,xbg];exact this
def YY{x:K}(c:X (yI x)<=j)(d:X (yI y)<=k):X (yI<|x*y)<=j+k:=by
 rw[zL]at*
 rw[xbg];exact xbS c d
def Te(q:K){x:K}(c:X (yI x)<=k):X (yI<|18446744073709551616^q*x)<=q+k:=by
 rw[zL]at*
 rw[xbg];exact Nat.mul_lt_mul_of_pos_left c<|xaY rx
def K7{x:K}(h:x<=y):X (yI x)<=X (yI y):=by have:=(zL (X (yI y)) y).1<|Nm _;exact(zL _ x).2 W
theorem zkn(a b h:K){x0 c d e:K}(f:x0=nv ((yI a).take h))(hc:c=nv ((yI a).drop h))(hd:d=nv ((yI b).take h))(g:e=nv ((yI b).drop h)):
 x0*d+18446744073709551616^h*((x0+c)*(d+e)-x0*d-c*e)+18446744073709551616^(2*h)*(c*e)=a*b:=by grind [zlG,zV]
end
section
variable{a b:ww wL}{k fu:wL}
def zB{α β:Type}{f:(β->V α)->β->V α}(i:β->Prop)(m:β->K)(r:α)
 (step:∀s L,i s->(∀c,i c->m c<m s->L c=Z r)->f L s=Z r):∀(n:K) (s:β),i s->m s<n->zg f n s=Z r
 |0,s,_,h=>jp h<|xbb _
 |n+1,s,d,h=>step s _ d λc e g=>zB i m r step n c e pU
def zfT(h:zp a):a.take (X (yI<|nv a))=yI (nv a):=by refine BN (h.take _) (zt _) (by rw[xas];have:=xe h;omega) ?_;rw[Db h,zV];exact xap<|(zL _ _).1<|Nm _
def tJ(c:k+1<=X a)(h0:a.getD k 0=0):nv (a.take k)=nv (a.take<|k+1):=by rw[jm,h0];simp
theorem th(h:zp a)(c:k+1<=X a)(h0:a.getD k 0≠0):yI (nv<|a.take<|k+1)=a.take (k+1):=by grind [RQ,zp.take]
theorem xr(h:zp a)(hl:X a<=17592186044416)(d:X a<fu):xt fu a=Z (yI<|nv a):=by
 unfold xt;rw[Y (v:=yI<|nv a)];refine zB (λl=>zp l/\nv l=nv a/\X l<=17592186044416) (λl=>X l) _ ?_ _ _ ⟨h,O,hl⟩ d;rintro l L ⟨c,hn,g⟩ e;unfold U2;by_cases h0:0<(X l:J);have⟨k,f⟩:∃k,X l=k+1:=⟨X l-1,pU⟩;have e1:(X l:J)-1=(k:J):=pU
 rw[Q h0,e1,zb,yn,F];by_cases h1:l.getD k 0=0
 rw[Q (by rw[h1]),zb,yF,y9,F];refine e _ ⟨c.take _,?_,by rw[xas];omega⟩ (by rw[xas];omega);rw[tJ pU h1,<-f,xbR,hn];rw[zG,<-hn];have:=th c (k:=k) pU h1;grind;rw[S h0,<-hn];have:l=[]:=xbt.1 pU;rw[this];rfl
theorem wc(h:zp a)(hl:X a<=17592186044416)(c:X a<fu):w6 fu a=Z (yI<|nv a):=by have:=xr h hl c;assumption
theorem Vs(h:zp a)(hl:X a<=17592186044416:=by omega)(c:X a<fu:=by omega):YK fu a=Z (yI<|nv a):=by grind [YK,wo,Y,wc,xN,xe]
theorem eT(h:zp a)(hl:X a<=17592186044416)(g:X a<fu):Xo fu a=Z (yI<|nv a):=by
 unfold Xo;have e:=xe h;rw[Y (v:=(X (yI<|nv a):J)),yF,xN e,F,zfT h,xN (by simp;omega),F];rfl;refine zB (λi:J=>0<=i/\i<=X a/\nv (a.take i.toNat)=nv a) (λi=>i.toNat) _ ?_ _ _ ⟨pU,pU,rC⟩ pU;rintro i L ⟨h0,h1,hn⟩ f;obtain⟨k,rfl⟩:=xaE h0;unfold iV;simp only[xba]at*
 by_cases d:0<(k:J);obtain⟨j,rfl⟩:∃j,k=j+1:=⟨k-1,pU⟩;have e1:((j+1:K):J)-1=(j:J):=pU
 rw[Q d,e1,zb,yn,F];by_cases c:a.getD j 0=0
 rw[Q (by rw[c]),zb];refine f _ ⟨pU,pU,?_⟩ pU;rw[xba,tJ pU c,hn];rw[zG,<-hn,th h pU c,xas];grind;rw[S d,<-hn];have:k=0:=pU
 subst this;rfl
def GV(x:K):x &&& 4294967295=x%4294967296:=Nat.and_two_pow_sub_one_eq_mod x 32
def Gm:min (((32:K):J)).toNat 64=32:=rx
def VT{x y:K}(c:x<18446744073709551616)(d:y<18446744073709551616):q6 fu x y=Z (x*y/18446744073709551616,x*y%18446744073709551616):=by
 unfold q6;simp only[nm,GV,Gm];have⟨b1,b2,b3,f⟩:=zkS c d;have e:=zjL x y;generalize g:(x%4294967296)*(y%4294967296)=A at*
 generalize h:(x/2^32)*(y%4294967296)=B at*
 generalize i:(x%4294967296)*(y/2^32)=C at*
 generalize j:(x/2^32)*(y/2^32)=D at*
 have l:x*y<18446744073709551616*18446744073709551616:=xbS c d;generalize x*y=z at*
 congr 2;omega
def jX{n:K}{f:J->K->V (K×K)}{step:K->K->K×K}(hn:n<=17179869184)(c:n<fu)(h:∀k,k<n->f (k:J) (vI step k).2=Z (step k (vI step k).2)):qd fu n f=Z (vI step n):=by
 unfold qd;rw[yF,y9,F,Y (v:=((vI step n).2,(vI step n).1))];refine zB (λs:K×J×N K=>∃k:K,k<=n/\s=((vI step k).2,(k:J),(vI step k).1++So (n-k) 0)) (λs=>n-s.2.1.toNat) _ ?_ _ _ ⟨0,pU,O⟩ (by simpa using c);rintro s L ⟨k,e,rfl⟩ d;unfold fE;simp only[xaN];by_cases h1:(k:J)<(n:J);have hl:(vI step k).1.length=k:=wz step k;rw[Q h1,Y (h k pU),zm (by simp[hl];omega),F,zb];refine d _ ⟨k+1,pU,?_⟩ (by show n-((k:J)+1).toNat<n-((k:J)).toNat;omega);rw[OM hl pU];rfl;rw[S h1];obtain rfl:k=n:=pU
 simp
theorem QK(a:N K)(hl:X a<=9223372036854775807):QC fu a (k:J)=Z (a.getD k 0):=by grind [QC,zm,F]
def ZQ(c:zp a)(d:zp b)(hd:X a<=8589934592:=by omega)(g:X b<=8589934592:=by omega)(h:max (X a) (X b)+1<fu:=by omega):
 ZO fu a b=Z (yI<|nv a+nv b):=by
 unfold ZO;have e:max (X a:J) (X b)=((max (X a) (X b):K):J):=pU
 have hc:∀k,(vI (CL a b) k).2<=1:=by
  intro k
  induction k with
  |zero=>exact xaf _
  |succ k f=>exact zbw c d f
 rw[F,e,Y<|jX (step:=CL a b) pU pU ?_];have hl:=wz (CL a b)<|max (X a) (X b);show ck _ _=_;rw[xN (by simp;omega),F,Y (xr ?_ (by simp;omega)<|by simp;omega),zgA pU pU];exact(Ft a b _).2.append<|zp.cons (by have:=hc<|max (X a) (X b);omega) zp.nil;intro k i;unfold mx;rw[Y (QK a pU),Y (QK b pU),xN<|hc k];rfl
theorem Jy(c:zp a)(d:zp b)(hd:X a<=8589934592)(g:X b<=8589934592)(i:max (X a) (X b)+1<fu):
 Ka fu a b=Z (if nv a<nv b then([],1)else(yI<|nv a-nv b,0)):=by
 unfold Ka;have e:max (X a:J) (X b)=((max (X a) (X b):K):J):=pU
 have hc:∀k,(vI (fL a b) k).2<=1:=by
  intro k
  cases k with
  |zero=>exact xaf _
  |succ k=>exact Gj a b k _
 rw[F,e,Y<|jX (step:=fL a b) pU pU ?_];have hl:=wz (fL a b)<|max (X a) (X b);have f:=IY c d (xew (X a) (X b))<|xea (X a) (X b);simp only;by_cases h:nv a<nv b;simp_all;rw[S (by intro h1;exact h<|f.1 pU),S h,Y (xr (FC c d (xew (X a) (X b))<|xea (X a) (X b)).2.1 pU pU),zfc c d (xew _ _) (xea _ _) h];intro k j;unfold gQ;rw[Y (QK a pU),Y (QK b pU),xN<|hc k];rfl
theorem bg(c:zp a)(d:zp b)(hc:X a<=8589934592)(hd:X b<=8589934592)(e:max (X a) (X b)+1<fu)(h:nv b<=nv a):
 WJ fu a b=Z (yI<|nv a-nv b):=by grind [WJ,Y,Jy]
def zcn{a:N K}{x:K}(c:zp a)(d:x<18446744073709551616):∀k,(vI (gM a x) k).2<18446744073709551616
 |0=>Nat.zero_lt_succ _
 |k+1=>zbx c d<|zcn c d k
theorem zfm{a x c:K}(d:a<18446744073709551616)(e:x<18446744073709551616)(hc:c<18446744073709551616):
 ((a*x%18446744073709551616+c)%18446744073709551616,(a*x/18446744073709551616+(a*x%18446744073709551616+c)/18446744073709551616)%18446744073709551616)=((a*x+c)%18446744073709551616,(a*x+c)/18446744073709551616):=by
 have:=rK d e hc;grind
def dV{x:K}(c:zp a)(d:x<18446744073709551616)(hc:X a<=8589934592:=by omega)(e:X a<fu:=by omega):J8 fu a x=Z (vy (X a+1)<|nv a*x):=by unfold J8;rw[Y<|jX (step:=gM a x) pU e ?_];have hl:=wz (gM a x) (X a);simp only;rw[xN (by simp;omega),F,SV<|zcn c d _];intro k f;unfold lF;rw[zm f,F,Y<|VT (c.getD k) d];exact Z2 Z<|zfm (c.getD k) d<|zcn c d k
theorem Kq{n:K}(hn:n<=1099511627776:=by omega)(hl:X a<=1099511627776:=by omega):Y3 fu a (n:J)=Z (So n 0++a):=by grind [Y3,yF,xN,F]
def Pt{n:K}{t3 t4 t6:N K}{i2:J}(d:zp a)(f:zp b)(v:k<X b)(hn:n=X a+X b+1)(w:n<=17179869184)(g:t6=vy (X a+1) (nv a*b.getD k 0))(m:X a+1<fu):
 zg (Uc fu (k:J) t3 t4 i2 t6) fu (0,0,vy n<|nv a*nv (b.take k),t6)=Z (vy n<|nv a*nv (b.take<|k+1)):=by
 have hl:X t6=X a+1:=by rw[g,yc]
 have q:zp t6:=g▸wq _ _;have t:nv a*nv (b.take k)<18446744073709551616^n:=xag (JY d f) (xam rx pU);have h0:nv (vy n<|nv a*nv (b.take k))=nv a*nv (b.take k):=by rw[kS,xap t]
 refine zB (λs:K×J×N K×N K=>∃(c i:K) (o:N K),s=(c,(i:J),o,t6)/\i<=X t6/\c<=1/\zp o/\X o=n/\nv o+18446744073709551616^(k+i)*c=nv a*nv (b.take k)+18446744073709551616^k*nv (t6.take i))
  (λs=>X a+1-s.2.1.toNat) _ ?_ _ _ ⟨0,0,_,O,pU,pU,wq _ _,yc _ _,by rw[h0];simp[nv]⟩ (by simpa using m)
 rintro s L ⟨c,i,o,rfl,hi,hc,hd,h,l⟩ u;unfold Uc;simp only;by_cases h1:i<X t6;rw[yg,Y O];simp only[Z4];have e:(k:J)+(i:J)=((k+i:K):J):=pU
 rw[zm h1,F,e,zb,zb,yn,F,xN hc,F,F,yn,F,zb];refine u _ ⟨_,i+1,_,O,pU,?_,hd.set _ (xaP _ rx),by rw[xbe,h],?_⟩ (by show X a+1-((i:J)+1).toNat<X a+1-(i:J).toNat;omega);have:=hd.getD<|k+i;have:=q.getD i;omega;have:=zfW (o:=o) (o0:=vy n<|nv a*nv (b.take k)) (r:=t6) (j:=k) (i:=i) (c:=c) pU (by rw[h0];exact l);rw[h0]at this;exact this;rw[zG,Y O];simp only[xaj,Z5];subst g;refine Z2 Z<|BN hd (wq _ _) (by rw[h,yc]) ?_;rw[SC d f (k:=k) (i:=i) (c:=c) (p:=o) (o:=vy n<|nv a*nv (b.take k)) pU pU h0 (by rw[h0];exact l),kS,xap];exact xag (JY d f)<|xam rx pU
theorem Cp(c:zp a)(d:zp b)(hc:X a<=4294967296)(hd:X b<=4294967296)(h:X a+X b+1<fu):
 Jv fu a b=Z (yI<|nv a*nv b):=by
 unfold Jv;have e1:(X a:J)+(X b:J)=((X a+X b:K):J):=pU
 have e:((X a+X b:K):J)+1=((X a+X b+1:K):J):=pU
 have f:nv a*nv b<18446744073709551616^(X a+X b+1):=by have:=JY (k:=X b) c d;grind
 rw[e1,zb,e,zb,yF,y9,F,Y (v:=vy (X a+X b+1)<|nv a*nv b)];rw[Y (xr (wq _ _) (by rw[yc];omega)<|by rw[yc];omega),kS,xap f];refine zB (λs:J×N K=>∃k:K,k<=X b/\s=((k:J),vy (X a+X b+1)<|nv a*nv (b.take k))) (λs=>X b-s.1.toNat) _ ?_ _ _ ⟨0,pU,by simp[nv,My]⟩ (by simp;omega);rintro s L ⟨k,i,rfl⟩ g;unfold iG;simp only;by_cases h1:k<X b;rw[yg,Y O];simp only[Z4];rw[zm h1,F,Y (dV c (d.getD k) pU pU),Y (Pt c d h1 O pU O pU),zb];exact g _ ⟨k+1,pU,O⟩ (by show X b-((k:J)+1).toNat<X b-(k:J).toNat;omega);rw[zG,Y O];simp only[xaj,Z5];obtain rfl:k=X b:=pU
 rw[xbR]
end
def zaS(n:K):xdv (n:J) 2=((n/2:K):J):=O
def lj(x h:K):X (yI<|nv<|(yI x).take h)<=h:=by grind [xe,zp.take,zt]
def gb(x h:K):X (yI<|nv<|(yI x).drop h)<=X (yI x)-h:=by grind [xe,zp.drop,zt]
def XT:∀{fu:wL}{a b:N wL},zp a->zp b->X a<=1073741824->X b<=1073741824->4*(X a+X b)+64<=fu->ZX fu a b=Z (yI<|nv a*nv b)
 |0,a,b,_,_,_,_,V=>by lia
 |fu+1,a,b,C,D,hk,hl,V=>by
  have h1:=xe C;have h2:=xe D;show G _ _=_;rw[Y (wc C W W),Y<|wc D W W];have eA:nv (yI<|nv a)=nv a:=zV _;have eB:nv (yI<|nv b)=nv b:=zV _;generalize hx:nv a=x at*
  generalize hy:nv b=y at*
  generalize hp:X (yI x)=p at*
  generalize s:X (yI y)=q at*
  have e1:min (p:J) (q:J)=((min p q:wL):J):=W
  rw[F,e1];by_cases u:((min p q:wL):J)<8;rw[Q u,Y (Cp (zt x) (zt y) W W W),eA,eB];rw[S u];have E:max (p:J) (q:J)=((max p q:wL):J):=W
  rw[F,E,zaS,zb];have⟨h,H⟩:∃h,h=max p q/2:=⟨_,O⟩;have L:∀l:wL,min (h:J) (l:J)=((min h l:wL):J):=by intro l;lia
  rw[<-H];simp only[B,L,yF];rw[xN rx,y9];have M:(yI x).take (min h p)=(yI x).take h:=by rw[<-hp];exact R1 h
  have P:(yI x).drop (min h p)=(yI x).drop h:=by rw[<-hp];exact Rn h
  have ty:(yI y).take (min h q)=(yI y).take h:=by rw[<-s];exact R1 h
  have dy:(yI y).drop (min h q)=(yI y).drop h:=by rw[<-s];exact Rn h
  rw[M,ty,P,dy];have v:=lj x h;have w:=lj y h;have f:X ((yI x).drop h)=p-h:=by rw[xch,hp]
  have g:X ((yI y).drop h)=q-h:=by rw[xch,s]
  have i:=gb x h;have o:=gb y h;rw[Y (wc ((zt x).take h) (by rw[xas];lia)<|by rw[xas];lia),y9,y9,Y (wc ((zt y).take h) (by rw[xas];lia)<|by rw[xas];lia),y9];have R:=(zt x).drop h;have⟨m,hm⟩:∃m,m=max p q:=⟨_,O⟩;have f1:p<=m:=W
  have f2:q<=m:=W
  have f3:m+8<=p+q:=W
  have f4:2*h<=m:=W
  have f5:m<=2*h+1:=W
  clear H hm u e1 E L M ty P dy;have g1:p-h<=m-h:=W
  have A:q-h<=m-h:=W
  have g3:h<=m-h:=W
  replace i:=xal i<|hp.symm▸g1;replace o:=xal o<|s.symm▸A;have a0:X ((yI x).drop h)<=m-h:=f▸g1;have a1:X ((yI y).drop h)<=m-h:=g▸A;clear f g g1 A;have T:=(zt y).drop h;generalize he:nv ((yI x).take h)=x0 at*
  generalize hg:nv ((yI y).take h)=c at*
  generalize hi:(yI x).drop h=dX at*
  generalize hj:(yI y).drop h=dY at*
  generalize hc:nv dX=d at*
  generalize hd:nv dY=e at*
  have s1:=ZC (x:=x0) (y:=d) (k:=m-h) W W;have s2:=ZC (x:=c) (y:=e) (k:=m-h) W W;have r:=zk5 x0 d c e;rw[Y<|XT (fu:=fu) (zt x0) (zt c) W W W];rw[Y<|XT (fu:=fu) R T W W W];rw[Y<|ZQ (zt x0) R,Y<|ZQ (zt c) T];rw[hc,hd,zV,zV];rw[Y (XT (fu:=fu) (zt<|x0+d) (zt<|c+e) W W W),zV,zV];have l3:=YY s1 s2;have l1:=YY v w;have l2:=YY (x:=d) (y:=e) (j:=m-h) (k:=m-h) W W;have l4:=K7<|xfc ((x0+d)*(c+e))<|x0*c;have l5:=K7<|xfc ((x0+d)*(c+e)-x0*c)<|d*e;rw[Y (bg (zt<|(x0+d)*(c+e)) (zt<|x0*c) W W W<|by rw[zV,zV];exact r.1),zV,zV];rw[Y (bg (zt<|(x0+d)*(c+e)-x0*c) (zt<|d*e) W W W<|by rw[zV,zV];exact r.2),zV,zV];have U:∀n z:wL,zp (So n 0++yI z):=λn z=>(zp.replicate n).append<|zt z;have ml:∀n z:wL,X (So n 0++yI z)=n+X (yI z):=λn z=>by rw[xau,xaN]
  rw[Y<|Kq,Y (ZQ (zt _) (U _ _) W (by rw[ml];lia)<|by rw[ml];lia),zV,DP,zV];have e4:2*(h:J)=((2*h:wL):J):=W
  rw[e4,zb,Y<|Kq];have t:=Te h<|xal l5<|xal l4 l3;have l7:=ZC (x:=x0*c) (y:=18446744073709551616^h*((x0+d)*(c+e)-x0*c-d*e)) (k:=3*(p+q)) (by clear t;lia) (xal t<|by clear t;lia);have K:=zkn x y h he.symm (by rw[hi,hc]) hg.symm (by rw[hj,hd]);generalize 18446744073709551616^h*((x0+d)*(c+e)-x0*c-d*e)=z1 at*
  generalize hz:x0*c+z1=z at*
  clear t;rw[Y (ZQ (zt z) (U (2*h)<|d*e) (by clear K;lia) (by rw[ml];clear K;lia)<|by rw[ml];clear K;lia),zV,DP,zV,K]
section
variable{k fu:wL}{a:ww wL}
def blf:K->K->K
 |0,_=>0
 |f+1,n=>if n=0 then 0 else blf f (n/2)+1
def bl(n:K):K:=blf n n
def zi7:∀f f' n,n<=f->n<=f'->blf f n=blf f' n
 |0,f',n,h,b=>by
  obtain rfl:n=0:=W
  cases f'<;>rfl
 |f+1,0,n,h,b=>by
  obtain rfl:n=0:=W
  rfl
 |f+1,f'+1,n,h,b=>by
  unfold blf;split;rfl;rw[zi7 f f' (n/2) W W]
def lD{n:K}(h:0<n:=by lia):bl n=bl (n/2)+1:=by obtain⟨m,rfl⟩:∃m,n=m+1:=⟨n-1,W⟩;show(if m+1=0 then 0 else blf m ((m+1)/2)+1)=_;rw[zi7 m ((m+1)/2) ((m+1)/2) W<|Nm _];rfl
def lK:∀(k:K) {n:K},2^k<=n->bl n=bl (n/2^k)+k
 |0,n,h=>by simp
 |k+1,n,h=>by
  have b:=xdD k;rw[lD,lK k W,xaF,xbA,xaS 2];lia
theorem bU{n:K}(h:n<2^k):bl n<=k:=by
 induction k generalizing n with
 |zero=>
  obtain rfl:n=0:=W
  exact Nm _
 |succ k b=>
  obtain rfl|h0:=xct n
  grind;rw[lD h0];grind
theorem E5(n:K):n<2^bl n:=by
 induction n using xdz with
 |ind n b=>
  obtain rfl|h0:=xct n
  decide;rw[lD h0];grind
def IJ:∀{n:K},n<256->xfu n=bl n:=by decide+kernel
theorem q9{x:K}(s:x<18446744073709551616):vJ fu x=Z ((bl x:K):J):=by
 unfold vJ;have f:min (16:J).toNat 64=16:=rx
 have o:min (8:J).toNat 64=8:=rx
 have g:min (32:J).toNat 64=32:=rx
 have hl:X zaf=256:=by decide+kernel
 have p:∀d,d%256<X zaf:=λd=>by rw[hl];exact xaP _ rx
 have q:∀d,zaf.getD (d%256) 0=xfu (d%256):=λd=>(by decide+kernel:∀n,n<256->zaf.getD n 0=xfu n) _ (xaP _ rx);simp only[B,show((4294967296:K):J)=4294967296 from O,show((65536:K):J)=65536 from O,show((256:K):J)=256 from O,show((32:K):J)=32 from O,show((16:K):J)=16 from O,show((8:K):J)=8 from O,g,f,o,zm<|p _,q];have c:∀(d:K) (i:J),d<65536->0<=i->i<=48->(if(256:J)<=(d:J)then A (i+8) λj=>A (j+((xfu (d/2^8%256):K):J)) λl=>Z l else A (i+((xfu (d%256):K):J)) λm=>Z m)=Z (i+((bl d:K):J)):=by intro d i hd h0 h1;by_cases h:256<=d;have b:=bU (n:=d/2^8) (k:=8) W;rw[yg,zb,xap W,IJ W,zb,lK 8 (n:=d) W];grind;have b:=bU (n:=d) (k:=8) W;rw[zG,xap W,IJ W,zb]
 have e:∀(d:K) (i:J),d<4294967296->0<=i->i<=32->(G (if(65536:J)<=(d:J)then A (i+16) λr=>Z (d/2^16,r)else Z (d,i)) λ(d2,i2)=>if(256:J)<=(d2:J)then A (i2+8) λj=>A (j+((xfu (d2/2^8%256):K):J)) λl=>Z l else A (i2+((xfu (d2%256):K):J)) λm=>Z m)=Z (i+((bl d:K):J)):=by intro d i hd h0 h1;by_cases h:65536<=d;rw[yg,zb,Y O];simp only;rw[c _ _ W W W,lK 16 (n:=d) W];congr 1;lia;rw[zG,Y O];exact c _ _ W W W
 by_cases h:4294967296<=x;rw[yg,Y O];simp only;rw[e _ _ W W W,lK 32 (n:=x) W];congr 1;lia;rw[zG,Y O];simp only;rw[e _ _ W W W];congr 1;lia
def S7{n:K}(h:0<n):bl n=64*(X (yI n)-1)+bl ((yI n).getD (X (yI n)-1) 0):=by
 have⟨k,b⟩:∃k,X (yI n)=k+1:=⟨X (yI n)-1,by have:=qk h;lia⟩;have h1:=(zL (k+1) n).1 W;have d:¬n<18446744073709551616^k:=λh=>by have:=(zL k n).2 h;lia
 rw[b,Qy,(W:k+1-1=k)];have e:18446744073709551616^k=2^(64*k):=by rw[xcg]
 have c:n/18446744073709551616^k<18446744073709551616:=by rw[xaX<|xaY rx];rw[xbA,xaS]at h1;exact h1
 rw[xap c,e,lK (64*k)<|by skip;lia];lia
def zic(h:zp a)(b:X a<=k):bl (nv a)<=64*k:=by refine bU ?_;rw[xcg];exact xag (vd h)<|xam rx b
def Vj(h:zp a)(hl:X a<=1099511627776)(d:X a<fu):ZD fu a=Z ((bl (nv a):K):J):=by
 unfold ZD;rw[Y<|wc h (xal hl rx) d];have f:=zic h hl;rcases xct (nv a)with h0|h0
 rw[h0];rfl;have h1:=qk h0;have b:=(zt<|nv a).getD<|X (yI<|nv a)-1;have e:=S7 h0;have⟨k,c⟩:∃k,X (yI<|nv a)=k+1:=⟨X (yI<|nv a)-1,W⟩;rw[c]at e b;simp only[Nat.add_sub_cancel]at e b;have e1:((k+1:K):J)-1=k:=W
 rw[c,e1,zb,zb,zb,yn,F,Y<|q9 b,zb,e];rfl
end
section
variable{r a b l d:ww wL}{k fu:wL}
def nw:N K->K
 |[]=>0
 |x::r=>x+4294967296*nw r
def ue:K->K->N K
 |0,_=>[]
 |k+1,n=>n%4294967296::ue k (n/4294967296)
def tj:K->K->N K
 |0,_=>[]
 |f+1,n=>if n=0 then[]else n%4294967296::tj f (n/4294967296)
def Qe(n:K):N K:=tj n n
def LB:N K->N K
 |[]=>[]
 |x::r=>match LB r with
  |[]=>if x=0 then[]else[x]
  |y::s=>x::y::s
def xi(l:N K):Prop:=∀x∈l,x<4294967296
def xi.nil:xi []:=λx c=>jp c H1
def xi.cons{x:K}(h:x<4294967296)(c:xi r):xi (x::r):=λy hy=>by
 obtain rfl|hy:=xai.1 hy
 exact h;exact c y hy
def xi.head{x:K}(h:xi (x::r)):x<4294967296:=h x<|IR
def xi.tail{x:K}(h:xi (x::r)):xi r:=λy c=>h y<|FS _ c
def xi.append(c:xi a)(e:xi b):xi (a++b):=λx f=>by
 obtain h|h:=xab.1 f
 exact c x h;exact e x h
theorem xi.take{a:N K}(h:xi a)(k:K):xi (a.take k):=λx c=>h x<|xes c
def xi.getD{a:N K}(h:xi a)(k:K):a.getD k 0<4294967296:=by rw[UV];by_cases c:k<X a;rw[xaa c];exact h _<|xby c;simp_all
def Nq:nw []=0:=O
def kH(x:K)(r:N K):nw (x::r)=x+4294967296*nw r:=O
theorem nF:∀(a b:N K),nw (a++b)=nw a+4294967296^X a*nw b
 |[],b=>by simp[nw]
 |x::a,b=>by
  rw[xbL,kH,nF a b,kH];grind
def MN:∀k,nw (So k 0)=0
 |0=>rfl
 |k+1=>by rw[xdT,kH,MN k]
def Jh:∀{l:N K},xi l->nw l<4294967296^X l
 |[],_=>by simp[nw]
 |x::r,h=>by
  have h1:=h.head;have c:=Jh h.tail;rw[kH,xaw];omega
theorem Da(l:N K)(x:K):nw (l++[x])=nw l+4294967296^X l*x:=by rw[nF,kH,Nq];simp
theorem yS:∀k n,X (ue k n)=k
 |0,_=>rfl
 |k+1,n=>by rw[ue,xaw,yS]
theorem qZ:∀k n,xi (ue k n)
 |0,_=>xi.nil
 |k+1,n=>xi.cons (xaP _ rx)<|qZ k _
theorem X7:∀k n,nw (ue k n)=n%4294967296^k
 |0,n=>by simp[ue,nw,Nat.mod_one]
 |k+1,n=>by rw[ue,kH,X7 k,xbA,xaS<|4294967296^k,Nat.mod_mul]
def dj:∀{l:N K},xi l->ue (X l) (nw l)=l
 |[],_=>rfl
 |x::r,h=>by
  have h1:=h.head;rw[xaw,ue,kH,xco,xap h1,xcz _ _ rx,xbj h1,xaD,dj h.tail]
def FW(c:xi a)(e:xi b)(hl:X a=X b)(h:nw a=nw b):a=b:=by rw[<-dj c,<-dj e,hl,h]
def AI:∀k,ue k 0=So k 0
 |0=>rfl
 |k+1=>by rw[ue,AI k,xdT]
def By:∀k n,ue (k+1) n=ue k n++[n/4294967296^k%4294967296]
 |0,n=>by simp[ue]
 |k+1,n=>by rw[ue,By k,ue,xbL,xaF,<-xdQ]
def LZ:∀(k n i:K),i<k->(ue k n).getD i 0=n/4294967296^i%4294967296
 |0,_,_,h=>by omega
 |k+1,n,0,_=>by simp[ue]
 |k+1,n,i+1,h=>by rw[ue,xds,LZ k _ i pU,xaF,<-xdQ]
def Ix:∀f n,xi (tj f n)
 |0,_=>xi.nil
 |f+1,n=>by
  rw[tj];split;exact xi.nil;exact xi.cons (xaP _ rx)<|Ix f _
def qH(n:K):xi (Qe n):=Ix n n
def zdY:∀f n,n<=f->nw (tj f n)=n
 |0,n,h=>by rw[tj,Nq];omega
 |f+1,n,h=>by
  rw[tj];split;rename_i h0;rw[Nq,h0];rename_i h0;have c:n/4294967296<=f:=pU
  rw[kH,zdY f _ c,xev]
def qW(n:K):nw (Qe n)=n:=zdY n n<|Nm _
def zd9:∀f f' n,n<=f->n<=f'->tj f n=tj f' n
 |0,f',n,h,c=>by
  have:n=0:=pU
  subst this;cases f'<;>simp[tj]
 |f+1,0,n,h,c=>by
  have:n=0:=pU
  subst this;rfl
 |f+1,f'+1,n,h,c=>by
  rw[tj,tj];split;rfl;rename_i h0;rw[zd9 f f' _ pU pU]
theorem iA:Qe 0=[]:=O
theorem rA{n:K}(h:0<n):Qe n=n%4294967296::Qe (n/4294967296):=by
 have e:Qe n=tj ((n-1)+1) n:=by unfold Qe;congr 1;omega
 rw[e,tj,zG];congr 1;exact zd9 _ _ _ pU pU
theorem zfl{n:K}(h0:0<n)(h:n<4294967296):Qe n=[n]:=by grind [rA,iA]
def zlW{n:K}:Qe n=[]↔n=0:=by constructor;intro h;rw[<-qW n,h];rfl;rintro rfl;rfl
def zam{n:K}(h:0<n):0<X (Qe n):=by rw[rA h,xaw];omega
def vk:∀(k n:K),X (Qe n)<=k↔n<4294967296^k
 |0,n=>by rw[Nat.le_zero,xbt,zlW];simp
 |k+1,n=>by
  by_cases h:n=0
  subst h;simp[iA];exact xaY rx
  rw[rA pU,xaw,Nat.add_le_add_iff_right,vk k,xaX rx,xbA]
def oC:∀(l:N K) (k:K),k+1=X l->l.getD k 0≠0->LB l=l
 |[],_,h,_=>by simp at h
 |[x],0,_,h=>by simp at h;simp[LB,h]
 |[x],k+1,h,_=>by simp at h
 |x::y::r,0,h,_=>by simp at h
 |x::y::r,k+1,h,h0=>by
  have:=oC (y::r) k (by simpa using h) (by simpa using h0);simp only[LB]at this⊢;rw[this]
theorem znA(l:N K)(k:K)(h:k+1=X l)(h0:l.getD k 0=0):l=l.take k++[0]:=by grind [xbG,xbX]
theorem R3:∀{l:N K},xi l->LB l=Qe (nw l)
 |[],_=>rfl
 |x::r,h=>by
  have c:=R3 h.tail;have e:=h.head;rw[LB,c,kH];by_cases f:nw r=0
  rw[f,iA];by_cases h0:x=0
  simp[h0,iA];simp only[h0,Z5,xdo,xbT];rw[zfl pU e];have e1:=rA (n:=nw r) pU;have g:=rA (n:=x+4294967296*nw r) pU;grind
theorem TA(hl:xi l)(h:l=[]\/l.getD (X l-1) 0≠0):Qe (nw l)=l:=by
 rw[<-R3 hl];obtain rfl|h:=h
 rfl
 cases hn:X l with
 |zero=>rw[xbq hn];rfl
 |succ k=>exact oC l k hn.symm<|by rw[hn]at h;exact h
def NG(hl:xi l)(k:K):nw (l.take k)=nw l%4294967296^k:=by by_cases c:k<=X l;have e:=nF (l.take k)<|l.drop k;rw[xbG,xas,xcl c]at e;have:=Jh<|hl.take k;rw[xas,xcl c]at this;rw[e,xco,xap this];rw[xaW pU,xap];exact xag (Jh hl)<|xam rx pU
def zcU(hl:xi l)(k:K):nw (l.drop k)=nw l/4294967296^k:=by by_cases c:k<=X l;have e:=nF (l.take k)<|l.drop k;rw[xbG,xas,xcl c]at e;have:=Jh<|hl.take k;rw[xas,xcl c]at this;rw[e,xcz _ _ (xaY rx),xbj this,xaD];rw[xbQ pU,Nq,xbj];exact xag (Jh hl)<|xam rx pU
def eD:∀{l:N K},xi l->∀k,l.getD k 0=nw l/4294967296^k%4294967296
 |[],_,k=>by simp[nw]
 |x::r,h,0=>by rw[List.getD_cons_zero,kH,xer,xco,xap h.head]
 |x::r,h,k+1=>by rw[xds,eD h.tail k,kH,xdQ,<-xaF,xcz _ _ rx,xbj h.head,xaD]
def zgm(h:xi a):a.take (X (Qe<|nw a))=Qe (nw a):=by have c:=(vk _ _).2<|Jh h;refine FW (h.take _) (qH _) (by rw[xas];omega) ?_;rw[NG h,qW];exact xap<|(vk _ _).1<|Nm _
theorem Eo(k:K):(4294967296:K)^(2*k)=18446744073709551616^k:=by grind [xcg]
def zit(k:K):(4294967296:K)^(2*k+1)=18446744073709551616^k*4294967296:=by rw[xbA,Eo]
theorem kX(l:N K):∀k,nw (l.take<|k+1)=nw (l.take k)+4294967296^k*l.getD k 0:=by
 induction l with
 |nil=>intro k;simp[nw]
 |cons x r c=>
  intro k
  cases k with
  |zero=>simp[nw]
  |succ k=>
   rw[xeC,kH,c k,xeC,kH,xds,xbA,xcp];rw[xaS (4294967296^k) 4294967296,xbn,xcV]
def ME(c:k+1<=X a)(h0:a.getD k 0=0):nw (a.take k)=nw (a.take<|k+1):=by rw[kX,h0];simp
theorem N7(h:xi a)(c:k+1<=X a)(h0:a.getD k 0≠0):Qe (nw<|a.take<|k+1)=a.take (k+1):=by grind [TA,xi.take]
def zfF(h:xi l):X (Qe<|nw l)<=X l:=(vk _ _).2<|Jh h
theorem O7:∀(o:N K) (j v:K),j<X o->nw (o.set j v)+4294967296^j*o.getD j 0=nw o+4294967296^j*v
 |[],j,v,h=>by simp at h
 |x::r,0,v,h=>by simp[nw];omega
 |x::r,j+1,v,h=>by
  have c:=O7 r j v (by simpa using h);rw[xfh,kH,kH,xds,xbA,xaS<|4294967296^j,xbn,xbn];omega
def xi.set{o:N K}(h:xi o)(j:K){v:K}(hv:v<4294967296):xi (o.set j v):=λx c=>by
 obtain h1|h1:=xdx c
 exact h x h1;omega
theorem K3(h:xi a)(hl:X a<=1099511627776)(m:X a<fu):Xg fu a=Z (Qe<|nw a):=by
 unfold Xg;have f:=zfF h;rw[Y (v:=(X (Qe<|nw a):J)),yF,xN f,F,zgm h];refine zB (λi:J=>0<=i/\i<=X a/\nw (a.take i.toNat)=nw a) (λi=>i.toNat) _ ?_ _ _ ⟨pU,pU,rC⟩ pU;rintro i L ⟨h0,h1,hn⟩ g;obtain⟨k,rfl⟩:=xaE h0;unfold oe;simp only[xba]at*
 by_cases e:0<(k:J);obtain⟨j,rfl⟩:∃j,k=j+1:=⟨k-1,pU⟩;have e1:((j+1:K):J)-1=(j:J):=pU
 rw[Q e,e1,zb,yn,F];by_cases c:a.getD j 0=0
 rw[Q (by rw[c]),zb];refine g _ ⟨pU,pU,?_⟩ pU;rw[xba,ME pU c,hn];rw[zG,<-hn,N7 h pU c,xas];grind;rw[S e,<-hn];have:k=0:=pU
 subst this;rfl
def ziA(h:zp a)(c:k<X a):ue (2*k) (nv a)++[a.getD k 0 &&& 4294967295,a.getD k 0/2^32]=ue (2*(k+1)) (nv a):=by rw[(pU:2*(k+1)=(2*k+1)+1),By,By,xar,aj h,GV];congr 1;rw[zit,Eo,<-xaF];congr 1;omega;congr 1;omega
theorem TW(h:zp a)(hl:X a<=4294967296)(e:2*X a<fu):zg (WY fu a) fu ([],0)=Z (ue (2*X a)<|nv a):=by refine zB (λs:N K×J=>∃k:K,k<=X a/\s=(ue (2*k)<|nv a,(k:J))) (λs=>X a-s.2.toNat) _ ?_ _ _ ⟨0,pU,O⟩ (by show X a-0<fu;omega);rintro s L ⟨k,f,rfl⟩ c;unfold WY;simp only;by_cases h1:k<X a;rw[yg,zm h1,F,F,zm h1,F,F,Gm,xN (by simp only[yS,xaw,xbV];omega),F,zb,ziA h h1];exact c _ ⟨k+1,pU,O⟩ (by show X a-((k:J)+1).toNat<X a-(k:J).toNat;omega);grind
theorem x8(h:zp a)(hl:X a<=4294967296:=by omega)(c:2*X a<fu:=by omega):xG fu a=Z (Qe<|nv a):=by grind [xG,Eo,vd,Y,TW,K3,qZ,yS,X7,xap]
def zeG(h:xi d)(k:K):d.getD (2*k) 0+d.getD (2*k+1) 0*2^32=nw d/18446744073709551616^k%18446744073709551616:=by rw[eD h,eD h,zit,<-xaF,Eo];omega
def zbu{n:K}(h:xi d)(hl:X d<=4294967296)(hn:n=(X d+1)/2)(j:X d+1<fu):zg (QW fu d) fu ([],0)=Z (vy n<|nw d):=by
 refine zB (λs:N K×J=>∃k:K,k<=n/\s=(vy k<|nw d,2*(k:J))) (λs=>2*n-s.2.toNat) _ ?_ _ _ ⟨0,pU,O⟩ (by show 2*n-0<fu;omega);rintro s L ⟨k,m,rfl⟩ c;unfold QW;simp only;have f:2*(k:J)=((2*k:K):J):=pU
 have hp:=zeG h k;by_cases h1:2*k<X d;have d0:=h.getD<|2*k;have d1:=h.getD<|2*k+1;rw[f,yg,zm h1,F,zb];have g:((2*k:K):J)+1=((2*k+1:K):J):=pU
 have e:((2*k:K):J)+2=2*((k+1:K):J):=pU
 by_cases i:2*k+1<X d;rw[yg,zb,g,zm i,F,Gm,F,F,xN (by simp only[yc,xaw,xbV];omega),F,zb,e];refine c _ ⟨k+1,pU,?_⟩ (by show 2*n-(2*((k+1:K):J)).toNat<2*n-(((2*k:K):J)).toNat;omega);rw[cV,<-hp,xap pU,xap pU];rw[zG,xN (by simp only[yc,xaw,xbV];omega),F,zb,e];refine c _ ⟨k+1,pU,?_⟩ (by show 2*n-(2*((k+1:K):J)).toNat<2*n-(((2*k:K):J)).toNat;omega);have z:d.getD (2*k+1) 0=0:=by rw[UV,xbh pU];rfl
 rw[z,xcC,xbT]at hp;rw[cV,<-hp];rw[zG];obtain rfl:k=n:=pU
 rfl
def jO(h:xi d)(hl:X d<=4294967296)(c:X d+1<fu):qh fu d=Z (yI<|nw d):=by
 unfold qh;have⟨n,hn⟩:∃n,n=(X d+1)/2:=⟨_,O⟩;have e:nw d<18446744073709551616^n:=by rw[<-Eo];exact xag (Jh h)<|xam rx pU
 rw[Y<|zbu h hl hn c,Y (eT (wq _ _) (by rw[yc];omega)<|by rw[yc];omega),kS,xap e]
end
section
variable{o y a b:ww wL}{i m fu:wL}
theorem zep{T k x c:K}(d:i+k<X o)(h:nw o+4294967296^(i+k)*c=T+4294967296^i*(x*nw (y.take k))):
 nw (o.set (i+k)<|(x*y.getD k 0+o.getD (i+k) 0+c)%4294967296)+4294967296^(i+(k+1))*((x*y.getD k 0+o.getD (i+k) 0+c)/4294967296)=T+4294967296^i*(x*nw (y.take<|k+1)):=by grind [O7,kX,xcp,xfw,xbn,xev]
def zff(c:xi o){j v:K}(d:j<m)(hv:v<4294967296)(h:nw o<4294967296^m):nw (o.set j v)<4294967296^m:=by
 have e:(o.set j v).drop m=o.drop m:=List.drop_set_of_lt d;have h1:=zcU (c.set j hv) m;have f:=zcU c m;rw[e,f,xbj h]at h1;have hp:0<4294967296^m:=xaY rx;rcases xbU (nw<|o.set j v) (4294967296^m)with h3|h3
 exact h3;have:=Nat.div_pos h3 hp;lia
def zcj(c:xi o)(h:nw o<4294967296^m):o.getD m 0=0:=by rw[eD c,xbj h]
def ziu{x y o c:K}(d:x<4294967296)(e:y<4294967296)(f:o<4294967296)(hc:c<4294967296):x*y+o+c<18446744073709551616:=by have:x*y<=4294967295*4294967295:=xcf W W;lia
def NC{n:K}{x o0:N K}(j:xi x)(l:xi y)(hi:i<X x)(hn:n=X x+X y)(w:n<=4294967296)(h0:xi o0)(p:X o0=n)(q:nw o0=nw (x.take i)*nw y)(hl:nw o0<4294967296^(i+X y))(A:X y<fu):
 zg (br fu (i:J)) fu (x,y,0,0,o0)=Z (x,y,nw (x.take<|i+1)*nw y/4294967296^(i+X y),ue n<|nw (x.take<|i+1)*nw y%4294967296^(i+X y)):=by
 refine zB (λs:N K×N K×K×J×N K=>∃(c k:K) (o:N K),s=(x,y,c,(k:J),o)/\k<=X y/\c<4294967296/\xi o/\X o=n/\nw o<4294967296^(i+X y)/\nw o+4294967296^(i+k)*c=nw o0+4294967296^i*(x.getD i 0*nw (y.take k)))
  (λs=>X y-s.2.2.2.1.toNat) _ ?_ _ _ ⟨0,0,o0,O,W,W,h0,p,hl,by simp[nw]⟩ (by show X y-0<fu;lia)
 rintro s L ⟨c,k,o,rfl,B,hc,d,h,hd,f⟩ r;unfold br;simp only;by_cases h1:k<X y;have e:(i:J)+(k:J)=((i+k:K):J):=W
 have bx:=j.getD i;have g:=l.getD k;have t:=d.getD<|i+k;have C:=ziu bx g t hc;rw[yg,zm hi,F,zm h1,F,F,e,zb,yn,F,F,F,zb,F,GV,yn,F,F,Gm,zb];have u:((x.getD i 0*y.getD k 0%18446744073709551616+o.getD (i+k) 0)%18446744073709551616+c)%18446744073709551616=x.getD i 0*y.getD k 0+o.getD (i+k) 0+c:=by
  generalize x.getD i 0*y.getD k 0=z at*
  lia
 rw[u];refine r _ ⟨_,k+1,_,O,W,?_,d.set _ (xaP _ rx),by rw[xbe,h],zff d W (xaP _ rx) hd,zep W f⟩ (by show X y-((k:J)+1).toNat<X y-(k:J).toNat;lia);generalize x.getD i 0*y.getD k 0+o.getD (i+k) 0+c=z at*
 lia;rw[zG];obtain rfl:k=X y:=W
 rw[xbR,q]at f;have v:nw (x.take<|i+1)*nw y=nw (x.take i)*nw y+4294967296^i*(x.getD i 0*nw y):=by rw[kX,xbk,xbn]
 rw[<-v]at f;have hp:0<4294967296^(i+X y):=xaY rx;rw[<-f,xcz _ _ hp,xbj hd,xco,xap hd,xaD];have:=dj d;rw[h]at this;rw[this]
def zb2{x:N K}(c:xi x)(k:K):nw (x.take k)<4294967296^k:=by rw[NG c];exact xaP _<|xaY rx
def Br{x:N K}(c:xi x)(d:xi y)(k:K):nw (x.take k)*nw y<4294967296^(k+X y):=by rw[xbg];exact xbS (zb2 c k)<|Jh d
def Rk{n:K}{x:N K}(c:xi x)(d:xi y)(hn:n=X x+X y)(h:n<=4294967296)(t:n<fu):
 zg (bC fu x y) fu (0,ue n 0)=Z (ue n<|nw x*nw y):=by
 refine zB (λs:J×N K=>∃k:K,k<=X x/\s=((k:J),ue n<|nw (x.take k)*nw y)) (λs=>X x-s.1.toNat) _ ?_ _ _ ⟨0,W,by simp[nw]⟩ (by show X x-0<fu;lia);rintro s L ⟨k,u,rfl⟩ j;unfold bC;simp only;by_cases h1:k<X x;have l:=Br c d k;have hc:=Br c d<|k+1;have hi:4294967296^(k+X y)<=4294967296^n:=xam rx W;have hv:nw (ue n<|nw (x.take k)*nw y)=nw (x.take k)*nw y:=by rw[X7,xap W]
 have e:(k:J)+(X y:J)=((k+X y:K):J):=W
 rw[yg,Y<|NC (n:=n) c d h1 hn h (qZ _ _) (yS _ _) hv (by rw[hv];exact l) W];simp only;rw[e,zb,zm (by rw[yS];lia),F,zb];refine j _ ⟨k+1,W,?_⟩ (by show X x-((k:J)+1).toNat<X x-(k:J).toNat;lia);have p:nw (x.take<|k+1)*nw y/4294967296^(k+X y)<4294967296:=by rw[xaX<|xaY rx];rw[(W:k+1+X y=(k+X y)+1),xbA,xaS<|4294967296^(k+X y)]at hc;exact hc
 have hp:0<4294967296^(k+X y):=xaY rx;generalize nw (x.take<|k+1)*nw y=S at*
 have q:=xaP S hp;have f:nw (ue n<|S%4294967296^(k+X y))=S%4294967296^(k+X y):=by rw[X7,xap W]
 have r:=zcj (qZ n<|S%4294967296^(k+X y)) (m:=k+X y) (by rw[f];exact q);have g:=O7 (ue n<|S%4294967296^(k+X y)) (k+X y) (S/4294967296^(k+X y)) (by rw[yS];lia);rw[r,f,xdo,xbT,xev]at g;have hd:=dj<|(qZ n<|S%4294967296^(k+X y)).set (k+X y) p;rw[g,xbe,yS]at hd;rw[hd];rfl;rw[zG];obtain rfl:k=X x:=W
 rw[xbR]
def QD(h:zp a):X (Qe<|nv a)<=2*X a:=by rw[vk,Eo];exact vd h
def GR(c:zp a)(d:zp b)(hd:X a<=268435456)(j:X b<=268435456)(k:2*(X a+X b)+1<fu):
 U1 fu a b=Z (yI<|nv a*nv b):=by
 unfold U1;have l1:=QD c;have l:=QD d;rw[Y<|x8 c,Y<|x8 d];have e1:nw (Qe<|nv a)=nv a:=qW _;have h:nw (Qe<|nv b)=nv b:=qW _;have f:=qH<|nv a;have g:=qH<|nv b;generalize Qe (nv a)=x at*
 generalize Qe (nv b)=y at*
 have e:X x+X y=((X x+X y:K):J):=W
 have hc:nv a*nv b<4294967296^(X x+X y):=by have:=Br f g (X x);simp_all
 rw[e,zb,yF,y9,F,<-AI,Y (Rk f g O W W),e1,h,Y (jO (qZ _ _) (by rw[yS];lia)<|by rw[yS];lia),X7,xap hc]
theorem QO(e:X a<=1099511627776)(f:X a<fu):XL fu a b=Z (decide<|a=b):=by
 unfold XL;by_cases hl:X a=X b;rw[yg,Y (v:=if a=b then .inl ()else .inr ())];grind;refine zB (λi:J=>∃k:K,i=(k:J)/\k<=X a/\a.take k=b.take k) (λi=>X a-i.toNat) _ ?_ _ _ ⟨0,O,W,O⟩ (by show X a-0<fu;lia);rintro i L ⟨k,rfl,g,ht⟩ c;unfold lV;by_cases h1:k<X a;rw[yg,zm h1,F,yn,F];by_cases d:a.getD k 0=b.getD k 0;rw[yg,zb];refine c _ ⟨k+1,W,W,?_⟩ (by show X a-((k:J)+1).toNat<X a-(k:J).toNat;lia);rw[xeV,xeV,ht,getD_some 0 h1,getD_some 0 (by lia:k<X b),d];grind;rw[zG];obtain rfl:k=X a:=W
 rw[xbR,xaW W]at ht;rw[Q ht];rw[zG,Ww<|λh=>hl<|by rw[h]]
end
section
variable{fu:wL}{a b:Zr}
def zv(z:U):J:=if z.1=wT then-((nv z.2:K):J)else((nv z.2:K):J)
def yC(x:J):U:=(decide<|x<0,yI x.natAbs)
theorem zn(x:J):zv (yC x)=x:=by grind [yC,zv,zV]
def yx(x:J):zp (yC x).2:=zt _
theorem vM(z:U):(zv z).natAbs=nv z.2:=by unfold zv;split<;>omega
theorem zi8(s:ut)(n:K):(if s=wT then if 0<((X (yI n):K):J)then Z (wT,yI n)else Z (I,yI n)else Z (I,yI n))=Z (yC (if s=wT then-(n:J)else(n:J))):=by grind [yC,Nb,qk]
theorem yM{s:ut}{a:N K}(h:zp a)(hl:X a<=17592186044416)(c:X a<fu):xk fu s a=Z (yC (if s=wT then-((nv a:K):J)else((nv a:K):J))):=by unfold xk;rw[Y<|Vs h hl c];exact zi8 s _
theorem QS{z:U}(h:zp z.2)(hl:X z.2<=17592186044416)(c:X z.2<fu):yY fu z=Z (yC<|zv z):=by unfold yY;rw[Y<|eT h hl c];exact zi8 z.1 _
def gm{z:U}(h:zp z.2)(hl:X z.2<=17592186044416)(c:X z.2<fu):qp fu z=Z (yC<|zv z):=by unfold qp;rw[Y<|yM h hl c];rfl
theorem FJ{x:J}(h0:0<=x)(h:x<18446744073709551616):((Ec x:K):J)=x:=by unfold Ec;omega
theorem bT{x:K}(h:x<18446744073709551616):zp [x]:=zp.cons h zp.nil
theorem Bj(x:K):nv [x]=x:=by simp[nv]
theorem dJ{x:J}(h:WQ x)(c:1<fu:=by omega):yo fu x=Z (yC x):=by grind [yo,Ec,F,Y,yM,bT,Bj]
theorem a8{x:J}(h: -9223372036854775807<=x/\x<=9223372036854775807)(c:1<fu:=by omega):W7 fu x=Z (yC x):=by grind [W7,zv,FJ,yj,F,Y,QS,bT,Bj]
theorem zdL(a b:U):(if(!(a.1==b.1))=wT then-((nv a.2*nv b.2:K):J)else((nv a.2*nv b.2:K):J))=zv a*zv b:=by grind [zv]
def oy(c:zp a.2)(d:zp b.2)(hc:X a.2<=1073741824)(hd:X b.2<=1073741824)(e:4*(X a.2+X b.2)+64<=fu):zP fu a b=Z (yC<|zv a*zv b):=by unfold zP;have hl:=YY (xe c)<|xe d;rw[F,Y<|XT c d hc hd e,Y (yM (zt _) pU pU),zV,<-zdL]
def Gn(c:zp a.2)(d:zp b.2)(hc:X a.2<=268435456)(hd:X b.2<=268435456)(e:2*(X a.2+X b.2)+1<fu):wJ fu a b=Z (yC<|zv a*zv b):=by unfold wJ;have hl:=YY (xe c)<|xe d;rw[F,Y<|GR c d hc hd e,Y<|QS (zt _) (by show(yI _).length<=_;omega) (by show(yI _).length<_;omega)];rw[<-zdL];show Z (yC (if _ then-((nv (yI _):K):J)else((nv (yI _):K):J)))=_;rw[zV]
def Cy(hl:X a.2<=1099511627776)(c:X a.2<fu):JO fu a b=Z (decide<|a=b):=by
 have⟨s,a⟩:=a;have⟨t,b⟩:=b;unfold JO;rw[F];cases s<;>cases t
 simp only;rw[Y<|QO hl c];simp;simp;simp;simp only;rw[Y<|QO hl c];simp
theorem zkZ{a:J}{e b:K}(h:bl a.natAbs*e<=b*64):X (yI (a^e).natAbs)<=b+1:=by rw[zL,Int.natAbs_pow];have h1:a.natAbs^e<=(2^bl a.natAbs)^e:=Nat.pow_le_pow_left (xdC<|E5 _) e;rw[<-xcg]at h1;have c:2^(bl a.natAbs*e)<=2^(64*b):=xam rx pU;rw[xcg 2 64 b]at c;grind
theorem zf9(i:K)(h:i<=65536):zb1 (i:J) 1=((i%2:K):J):=by grind [zb1,sgn,Ec]
theorem zos(i:K):xfW (i:J) (2^(min (((1:K):J)).toNat 64))=((i/2:K):J):=by grind
def zeM{n:K}{a:J}(hn:n<=65536)(l:bl a.natAbs*n<=262144)(r:65600<fu):
 zg (cZ fu) fu ((n:J),yC a,yC 1)=Z (yC<|a^n):=by
 have hc:∀e,e<=n->X (yI (a^e).natAbs)<=4097:=λe g=>zkZ (b:=4096)<|xal (xaG _ g) l;refine zB (λs:J×U×U=>∃i d e:K,s=((i:J),yC<|a^d,yC<|a^e)/\e+d*i=n/\(0<i->d<=n)/\0<d) (λs=>s.1.toNat) _ ?_ _ _ ⟨n,1,0,by simp[xbO],pU,pU,pU⟩ (by show((n:J)).toNat<fu;omega);rintro s L ⟨i,d,e,rfl,g,hd,hi⟩ h;unfold cZ;simp only;have c:∀p q,p<=n->q<=n->zP fu (yC<|a^p) (yC<|a^q)=Z (yC<|a^(p+q)):=by intro p q hp m;have h1:=hc p hp;have k:=hc q m;rw[oy (yx _) (yx _) (by show(yI _).length<=_;omega) (by show(yI _).length<=_;omega) (by show 4*(X (yI _)+X (yI _))+64<=fu;omega),zn,zn,Int.pow_add]
 by_cases h0:0<i;have f:=hd h0;have t:i<=n:=by have:=xdX i hi;omega
 have j:d*i=d*(i/2)*2+d*(i%2):=by rw[xbn,<-xcp];congr 1;omega
 rw[yg,F,zf9 i pU];by_cases h1:i%2=1
 rw[yg];rw[h1,xeF]at j;rw[Y<|c e d pU f];by_cases k:1<i;have o:d*1<=d*(i/2):=xaG d pU;rw[yg,Y<|c d d f f,F,zos];refine h _ ⟨i/2,d+d,e+d,O,?_,pU,pU⟩ (by show((i/2:K):J).toNat<(i:J).toNat;omega);rw[xbk];omega;rw[zG,F,zos];refine h _ ⟨i/2,d,e+d,O,?_,pU,pU⟩ (by show((i/2:K):J).toNat<(i:J).toNat;omega);rw[(pU:i/2=0),xdo]at j⊢;omega;rw[zG];rw[(pU:i%2=0),xdo,xbT]at j;by_cases k:1<i;have o:d*1<=d*(i/2):=xaG d pU;rw[yg,Y<|c d d f f,F,zos];refine h _ ⟨i/2,d+d,e,O,?_,pU,pU⟩ (by show((i/2:K):J).toNat<(i:J).toNat;omega);rw[xbk];omega;omega;rw[zG];obtain rfl:i=0:=pU
 rw[xdo,xbT]at g;rw[g]
theorem HZ{n:K}{z:U}(h:zp z.2)(hl:X z.2<=1000000)(hn:n<=65536)(d:1000100<fu):
 da fu z (n:J)=Z (if 262144<bl (nv z.2)*n then((I,[]),6)else(yC<|zv z^n,0)):=by
 unfold da;have c:=zic h hl;have f:=xcf c hn;have e:((bl (nv z.2):K):J)*n=((bl (nv z.2)*n:K):J):=rC
 rw[zG,zG,Y O];simp only[xaj,Z5];rw[Y (Vj h pU pU),zb];by_cases h1:262144<bl (nv z.2)*n;grind;rw[zG,S h1,Y (dJ rx pU),Y (gm h pU pU),Y<|zeM hn (by rw[vM];omega) pU]
end
section
variable{d fu:wL}{p:wF}
def kF(p:K):Prop:=∀d,2<=d->d*d<=p->p%d≠0
open Classical in
noncomputable def qt(p:J):ut:=decide<|2<=p/\p<=65521/\kF p.toNat
open Classical in
def zhV{p:J}(h:2<=p/\p<=65521/\kF p.toNat):qt p=wT:=by unfold qt;exact Ws h
open Classical in
def Iv{p:J}(h:¬(2<=p/\p<=65521/\kF p.toNat)):qt p=I:=by unfold qt;exact Ww h
def zcQ(d:K):(d:J)*(d:J)=((d*d:K):J):=rC
def zm4{p:K}(h:p<=65521)(hd:d<=300:=by lia):d*d<=90000:=xal (xcf hd hd) rx
def znE{p:K}(h:p<=65521)(hd:d*d<=p):d<256:=by
 obtain h1|h1:=xbU d 256
 exact h1;have:=xcf h1 h1;lia
def zbS{p:K}(h:p<=65521)(m:400<fu):(kF p->zg (ZY fu (p:J)) fu (wT,2)=Z wT)/\(¬kF p->zg (ZY fu (p:J)) fu (wT,2)=Z I):=by
 constructor;intro hn;refine zB (λi:ut×J=>∃d:K,i=(wT,(d:J))/\2<=d/\d<=256) (λi=>300-i.2.toNat) _ ?_ _ _ ⟨2,O,W,W⟩ (by show 300-2<fu;lia);rintro i L ⟨d,rfl,j,c⟩ f;unfold ZY;simp only[Z4];have k:=zm4 h (d:=d);rw[zcQ,zb];by_cases a:d*d<=p;have b:=hn d j a;have:=znE h a;have e:xcB (p:J) (d:J)=((p%d:K):J):=O;rw[yg,y9,F,e,zG,zb];exact f _ ⟨d+1,O,W,W⟩ (by show 300-((d:J)+1).toNat<300-(d:J).toNat;lia);rw[zG];intro hn;have⟨d0,g⟩:=Classical.not_forall.1 hn;have⟨hc,g⟩:=Classical.not_imp.1 g;have⟨a,b⟩:=Classical.not_imp.1 g;have b:p%d0=0:=Classical.not_not.1 b;have n:=znE h a;refine zB (λi:ut×J=>∃d:K,i=(wT,(d:J))/\2<=d/\d<=d0) (λi=>300-i.2.toNat) _ ?_ _ _ ⟨2,O,W,W⟩ (by show 300-2<fu;lia);rintro i L ⟨d,rfl,j,c⟩ f;unfold ZY;simp only[Z4];have k:=zm4 h (d:=d);have hd:=xcf c c;rw[zcQ,zb];have e:xcB (p:J) (d:J)=((p%d:K):J):=O;rw[yg,y9,F,e];by_cases l:p%d=0
 rw[yg];rw[zG,zb];refine f _ ⟨d+1,O,W,?_⟩ (by show 300-((d:J)+1).toNat<300-(d:J).toNat;lia);obtain h8|h8:=xbU d d0
 exact h8;exact jp (by rw[(W:d=d0)];exact b) l
theorem Vm(f:400<fu):Zz fu p=Z (qt p):=by
 unfold Zz;have e:zg (ZY fu p) fu (I,2)=Z I:=by obtain⟨k,rfl⟩:∃k,fu=k+1:=⟨fu-1,W⟩;rfl
 by_cases a:2<=p;rw[Q a];by_cases b:p<=65521
 rw[Q b,Y O];obtain⟨q,rfl⟩:=xaE (by lia:0<=p);have⟨l1,g⟩:=zbS (p:=q) W f;by_cases c:kF q;rw[Y<|l1 c,zhV ⟨a,b,c⟩];rw[Y<|g c,Iv (p:=q)<|λh=>c h.2.2];rw[S b,Y O,Y e];rw[Iv<|λh=>b h.2.1];rw[S a,Y O,Y e];rw[Iv<|λh=>a h.1]
noncomputable def Au(p k:J):U×J:=if qt p=wT/\1<=k/\k<=1000 then(yC<|p^k.toNat,0)else((I,[]),1)
def zA(h:qt p=wT):2<=p/\p<=65521:=by refine xak λhn=> ?_;rw[Iv<|λh=>hn ⟨h.1,h.2.1⟩]at h;cases h
def zpC(h:qt p=wT):bl (nv (yC p).2)<=16:=by have:=zA h;refine bU ?_;show nv (yI p.natAbs)<_;rw[zV];lia
def zlB{x:J}(h:x.natAbs<18446744073709551616):(yC x).2.length<=1:=by show(yI _).length<=1;rw[zL];lia
theorem uM{k:J}(c:3000000<fu):qC fu p k=Z (Au p k):=by unfold qC Au;rw[Y<|Vm W];by_cases h1:qt p=wT;have e:=zA h1;rw[S<|by simp[h1]];by_cases a:k<1;grind;rw[S a];by_cases b:1000<k;simp_all;obtain⟨n,rfl⟩:=xaE (by lia:0<=k);have hl:=zlB (x:=p) W;have f:bl (nv (yC p).2)*n<=16*1000:=xcf (zpC h1) W;rw[S b,ce ⟨h1,W,W⟩,Y<|dJ ⟨W,W⟩,Y (HZ (yx p) W W W),zG,zn];rfl;simp_all
end
section
variable{fu k j:wL}{a b:Zr}{y:wF}
theorem iB{a b:J}:uZ fu a b=Z (jE a b):=by grind [uZ,YF,Y,qP,vK,kN]
theorem bO{a b:K}:jb fu a b=Z (jE a b):=by grind [jb,kM,Y,qP,vK,kN]
theorem eo{a b:N K}(d:zp a)(f:zp b)(l:X a<=1000000:=by lia)(n:X b<=1000000:=by lia)(o:2000000<fu:=by lia):Kg fu a b=Z (jE (nv a:K) (nv b:K)):=by
 unfold Kg;have h1:=xe d;have p:=xe f;rw[Y (wc d W W),Y<|wc f W W];generalize nv a=x at*
 generalize nv b=y at*
 by_cases h:X (yI x)=X (yI y);rw[yg,zb];by_cases hc:x=y;subst hc;rw[Y (v:=.inl ())];rw[kN O];refine zB (λi:J=>∃m:K,i=(m:J)-1/\m<=X (yI x)) (λi=>(i+1).toNat) _ ?_ _ _ ⟨_,O,Nm _⟩ W;rintro i L ⟨m,rfl,g⟩ c;unfold lJ;by_cases h0:m=0
 rw[zG];have e:(m:J)-1=((m-1:K):J):=W
 rw[yg,e,yn,F,yn,F,Q O,zb];exact c _ ⟨m-1,O,W⟩ W
 rw[Y (v:=.inr<|jE x y)];refine zB (λi:J=>∃m:K,i=(m:J)-1/\m<=X (yI x)/\x/18446744073709551616^m=y/18446744073709551616^m) (λi=>(i+1).toNat) _ ?_ _ _ ⟨_,O,Nm _,zgi h⟩ W;rintro i L ⟨m,rfl,g,ht⟩ c;unfold lJ;by_cases h0:m=0
 subst h0;rw[xfd,xer,xer]at ht;exact jp ht hc;have e:(m:J)-1=((m-1:K):J):=W
 rw[yg,e,yn,F,yn,F];by_cases hd:(yI x).getD (m-1) 0=(yI y).getD (m-1) 0;rw[Q (by rw[hd]),zb];exact c _ ⟨m-1,O,W,zki W ht hd⟩ W
 rw[zG,yn,F,yn,F,Y bO,zfj W ht hd];rw[zG,Y iB,zmx h]
def fW(z:U):Prop:=zp z.2/\X z.2<=100000
def Bz(k:K)(x:J):Prop:=x.natAbs<18446744073709551616^k
def Bz.ok{x:J}(h:Bz k x)(c:k<=100000):fW (yC x):=⟨yx x,xal ((zL _ _).2 h) c⟩
theorem Bz.of{z:U}(h:zp z.2):Bz (X z.2) (zv z):=by grind [Bz,vM,vd]
def Bz.mono{x:J}(h:Bz j x)(c:j<=k):Bz k x:=xag h<|xam rx c
def fW.bz{z:U}(h:fW z):Bz 100000 (zv z):=(Bz.of h.1).mono h.2
theorem Bz.neg{x:J}(h:Bz k x):Bz k (-x):=by unfold Bz at*;rw[xeL];exact h
theorem Bz.add{x:J}(c:Bz k x)(d:Bz k y):Bz (k+1) (x+y):=by grind [Bz]
theorem Bz.sub{x:J}(c:Bz k x)(d:Bz k y):Bz (k+1) (x-y):=by grind [Bz.add,Bz.neg]
def Bz.mul{x:J}(c:Bz j x)(d:Bz k y):Bz (j+k) (x*y):=by unfold Bz at*;rw[xcw,xbg];exact xbS c d
def Bz.le{x:J}(c:Bz k y)(h:x.natAbs<=y.natAbs):Bz k x:=xaI h c
theorem x9(z:U):(z.1=wT/\zv z= -((nv z.2:K):J))\/(z.1=I/\zv z=((nv z.2:K):J)):=by grind [zv]
theorem uj{z:U}(h:fW z)(c:3000000<=fu):qp fu z=Z (yC<|zv z):=gm h.1 (by have:=h.2;lia) (by have:=h.2;lia)
def Vy{z:U}(h:fW z)(d:3000000<=fu):Zc fu z=Z (yC (-zv z)):=by unfold Zc;have:=h.2;rw[Y<|yM h.1 W W];rcases x9 z with⟨h1,c⟩|⟨h1,c⟩<;>rw[h1,c]<;>simp
theorem qq(e:fW a)(f:fW b)(o:3000000<=fu):vT fu a b=Z (yC<|zv a+zv b):=by
 unfold vT;have l:=e.2;have m:=f.2;have p:X (yI<|nv a.2+nv b.2)<=100001:=ZC (xal (xe e.1) l)<|xal (xe f.1) m;rw[F];by_cases i:a.1=b.1;rw[Q (by simp[i]),Y<|ZQ e.1 f.1,Y (yM (zt _) W W),zV];rcases x9 a with⟨h1,c⟩|⟨h1,c⟩<;>rcases x9 b with⟨g,d⟩|⟨g,d⟩
 grind;simp_all;rw[h1,g]at i;cases i
 rw[h1,c,d,S rx];congr 2;rw[S<|by simp[i]];rw[Y<|eo e.1 f.1];by_cases hc:nv a.2<nv b.2;have hd:X (yI<|nv b.2-nv a.2)<=100000:=xal (K7<|xfc _ _)<|xal (xe f.1) m;rw[qP W,Q rx,Y O];simp only;rw[Y (Jy f.1 e.1 W W W),zG];simp only;rw[Y (yM (zt _) W W),zV];rcases x9 a with⟨h1,c⟩|⟨h1,c⟩<;>rcases x9 b with⟨g,d⟩|⟨g,d⟩<;>rw[g,c,d]<;>simp_all
 congr 1;lia;congr 1;lia;have hd:X (yI<|nv a.2-nv b.2)<=100000:=xal (K7<|xfc _ _)<|xal (xe e.1) l;have n:¬jE ((nv a.2:K):J) ((nv b.2:K):J)<0:=by
  rcases xbU (nv b.2) (nv a.2)with h|h
  rw[vK W];decide;rw[kN W];decide
 rw[S n,Y O];simp only;rw[Y (Jy e.1 f.1 W W W),zG];simp only;rw[Y (yM (zt _) W W),zV];rcases x9 a with⟨h1,c⟩|⟨h1,c⟩<;>rcases x9 b with⟨g,d⟩|⟨g,d⟩<;>rw[h1,c,d]<;>simp_all
 congr 1;lia;congr 1;lia
def qg(e:fW a)(c:fW b)(d:3000000<=fu):qL fu a b=Z (yC<|zv a-zv b):=by unfold qL;have h1:=(Bz.neg c.bz).ok<|Nm _;rw[Y<|Vy c d,Y<|qq e h1 d,zn];congr 2
theorem DA{x:J}:0<(((yC x).2.length:K):J)↔x≠0:=by grind [yC,Nb,qk]
theorem J0(x:J):(yC x).1=wT↔x<0:=by unfold yC;simp
theorem y5{z:U}(h:fW z)(c:3000000<=fu):xF fu z=Z (jE (zv z) 0):=by grind [xF,Y,uj,J0,yj,qP,DA,kN,vK]
theorem zks(x y:J):jE (x-y) 0=jE x y:=by grind [qP,kN,vK]
def Yk(c:fW a)(d:fW b)(e:3000000<=fu)(hl:X a.2<=99999:=by lia)(hc:X b.2<=99999:=by lia):kJ fu a b=Z (jE (zv a)<|zv b):=by unfold kJ;have h1:=((Bz.of c.1).mono hl).sub<|(Bz.of d.1).mono hc;rw[Y<|qg c d e,Y<|y5 (h1.ok<|Nm _) e,zn,zks]
def yi(c:fW a)(d:fW b)(e:3000000<=fu):zP fu a b=Z (yC<|zv a*zv b):=by have:=c.2;have:=d.2;exact oy c.1 d.1 W W W
def yr{x:J}(h:WQ x)(c:3000000<=fu):yo fu x=Z (yC x):=dJ h
end
section
variable{fu k B i:wL}{a y b:ww wL}
theorem xO:qJ fu a (k:J)=Z (a.getD k 0):=by grind [qJ,zm,F]
def zcz{x y:K}(d:0<B)(h:x/B^(k+1)=y/B^(k+1))(hd:x/B^k%B<y/B^k%B):x<y:=by have h1:=KE x B k d;have f:=KE y B k d;rw[h]at h1;refine xdp λe=> ?_;have:=Nat.div_le_div_right (c:=B^k) e;omega
theorem zmt{x y:K}(c:0<B)(h:x/B^(k+1)=y/B^(k+1))(hd:x/B^k%B=y/B^k%B):x/B^k=y/B^k:=by grind [KE]
def Kz(g:xi a)(h:xi b)(l:X a<=1000000)(n:X b<=1000000)(o:2000000<fu):uy fu a b=Z (jE (nw a:K) (nw b:K)):=by
 unfold uy;have e1:max (X a:J) (X b:J)=((max (X a) (X b):K):J):=pU
 rw[F,e1,zb];have t0:nw a/4294967296^(max (X a) (X b))=nw b/4294967296^(max (X a) (X b)):=by have h1:nw a<4294967296^(max (X a) (X b)):=xag (Jh g)<|xam rx<|xew _ _;have d:nw b<4294967296^(max (X a) (X b)):=xag (Jh h)<|xam rx<|xea _ _;rw[xbj h1,xbj d]
 have g1:∀k,a.getD k 0=nw a/4294967296^k%4294967296:=eD g;have c:∀k,b.getD k 0=nw b/4294967296^k%4294967296:=eD h;by_cases hc:nw a=nw b;rw[Y (v:=.inl ())];rw[hc,kN O];refine zB (λi:J=>∃m:K,i=(m:J)-1/\m<=max (X a) (X b)) (λi=>(i+1).toNat) _ ?_ _ _ ⟨_,O,Nm _⟩ pU;rintro i L ⟨m,rfl,j⟩ f;unfold We;by_cases h0:m=0
 rw[zG];have e:(m:J)-1=((m-1:K):J):=pU
 rw[yg,e,Y xO,Y xO,g1,c,hc,zG,Y xO,Y xO,g1,c,hc,zG,zb];exact f _ ⟨m-1,O,pU⟩ pU
 rw[Y (v:=.inr<|jE (nw a:K) (nw b:K))];refine zB (λi:J=>∃m:K,i=(m:J)-1/\m<=max (X a) (X b)/\nw a/4294967296^m=nw b/4294967296^m) (λi=>(i+1).toNat) _ ?_ _ _ ⟨_,O,Nm _,t0⟩ pU;rintro i L ⟨m,rfl,j,ht⟩ f;unfold We;by_cases h0:m=0
 subst h0;rw[xfd,xer,xer]at ht;exact jp ht hc;have e:(m:J)-1=((m-1:K):J):=pU
 have hd:nw a/4294967296^(m-1+1)=nw b/4294967296^(m-1+1):=by rw[(pU:m-1+1=m)];exact ht
 rw[yg,e,Y xO,Y xO];by_cases h1:a.getD (m-1) 0<b.getD (m-1) 0;rw[yg,qP];rw[g1,c]at h1;have:=zcz rx hd h1;omega;rw[zG,Y xO,Y xO];by_cases d:b.getD (m-1) 0<a.getD (m-1) 0;rw[yg,vK];rw[g1,c]at d;have:=zcz rx hd.symm d;omega;rw[zG,zb];refine f _ ⟨m-1,O,pU,zmt rx hd ?_⟩ pU;rw[<-g1,<-c];omega
theorem O2{x t:N K}{c:K}(ht:X t=i)(h:nw t+4294967296^i*c=nw (x.take i)+nw (y.take i)):
 nw (t++[(x.getD i 0+y.getD i 0+c)%4294967296])+4294967296^(i+1)*((x.getD i 0+y.getD i 0+c)/4294967296)=nw (x.take<|i+1)+nw (y.take<|i+1):=by grind [Da,kX,xbu]
def iF(d:zp a)(e:zp b)(q:X a<=200000)(r:X b<=200000)(u:2000000<fu):Qp fu a b=Z (yI<|nv a+nv b):=by
 unfold Qp;rw[Y (x8 d pU pU),Y<|x8 e pU pU];have l1:=QD d;have w:=QD e;have f:=qH<|nv a;have g:=qH<|nv b;have v1:=qW<|nv a;have l:=qW<|nv b;generalize Qe (nv a)=x at*
 generalize Qe (nv b)=y at*
 have⟨n,hn⟩:∃n,n=max (X x) (X y)+1:=⟨_,O⟩;have hd:nw x+nw y<4294967296^n:=by have h1:nw x<4294967296^(max (X x) (X y)):=xag (Jh f)<|xam rx<|xew _ _;have z:nw y<4294967296^(max (X x) (X y)):=xag (Jh g)<|xam rx<|xea _ _;rw[hn,xbA];omega
 rw[Y (v:=ue n<|nw x+nw y)];rw[Y (jO (qZ _ _) (by rw[yS];omega)<|by rw[yS];omega),X7,xap hd,v1,l];refine zB (λs:N K×K×J=>∃(t:N K) (c i:K),s=(t,c,(i:J))/\i<=n/\X t=i/\xi t/\c<=1/\nw t+4294967296^i*c=nw (x.take i)+nw (y.take i)) (λs=>n-s.2.2.toNat) _ ?_ _ _ ⟨[],0,0,O,pU,O,xi.nil,pU,by simp[nw]⟩ (by show n-0<fu;omega);rintro s L ⟨t,c,i,rfl,hi,ht,j,hc,hv⟩ m;unfold nZ;simp only;have e1:max (X x:J) (X y:J)=((max (X x) (X y):K):J):=pU
 rw[F,e1,zb];by_cases h1:i<n;have b1:=f.getD i;have b2:=g.getD i;have o:((x.getD i 0+y.getD i 0)%18446744073709551616+c)%18446744073709551616=x.getD i 0+y.getD i 0+c:=pU
 rw[yg,Y xO,Y xO,F,F,F,GV,o,xN (by simp[ht];omega),F,F,Gm,zb];refine m _ ⟨_,_,i+1,O,pU,by simp[ht],j.append<|xi.cons (xaP _ rx) xi.nil,pU,O2 ht hv⟩ (by show n-((i:J)+1).toNat<n-(i:J).toNat;omega);rw[zG];obtain rfl:i=n:=pU
 rw[xaW pU,xaW pU]at hv;have hp:0<4294967296^i:=xaY rx;have p:c=0:=by
  obtain h|h:=xct c
  exact h;have:4294967296^i*1<=4294967296^i*c:=xaG _ h;omega
 subst p;rw[xdo,xbT]at hv;rw[<-hv,<-ht,dj j]
theorem H6{x t:N K}{b D:K}(ht:X t=i)(c:D+y.getD i 0+b=x.getD i 0+4294967296)(h:nw t+nw (y.take i)=nw (x.take i)+4294967296^i*b)(d:D<8589934592):
 nw (t++[D%4294967296])+nw (y.take<|i+1)=nw (x.take<|i+1)+4294967296^(i+1)*(1-D/4294967296):=by
 rw[Da,ht,kX,kX,xbA];have hd:D/4294967296=0\/D/4294967296=1:=pU
 have e1:4294967296^i*(D%4294967296)+4294967296^i*y.getD i 0+4294967296^i*b+4294967296^i*4294967296*(D/4294967296)=4294967296^i*x.getD i 0+4294967296^i*4294967296:=by rw[xbn,<-xcp,<-xcp,<-xcp,<-xcp];grind
 grind
def eG{x:N K}(e:xi x)(f:xi y)(hl:X x<=1000000)(o:2000000<fu)(h:nw y<=nw x):XF fu x y=Z (Qe<|nw x-nw y):=by
 unfold XF;have p:=Jh e;have g:nw (y.take (X x))=nw y:=by rw[NG f,xap pU]
 have c:∃t,xi t/\X t=X x/\nw t=nw x-nw y/\zg (Kl fu x y) fu ([],0,0)=Z t:=by
  refine⟨ue (X x)<|nw x-nw y,qZ _ _,yS _ _,by rw[X7,xap pU],?_⟩;refine zB (λs:N K×K×J=>∃(t:N K) (b i:K),s=(t,b,(i:J))/\i<=X x/\X t=i/\xi t/\b<=1/\nw t+nw (y.take i)=nw (x.take i)+4294967296^i*b) (λs=>X x-s.2.2.toNat) _ ?_ _ _ ⟨[],0,0,O,pU,O,xi.nil,pU,by simp[nw]⟩ (by show X x-0<fu;omega);rintro s L ⟨t,b,i,rfl,hi,ht,d,q,hv⟩ j;unfold Kl;simp only;by_cases h1:i<X x;have b1:=e.getD i;have b2:=f.getD i;have⟨D,hd⟩:∃D,D=x.getD i 0+4294967296-y.getD i 0-b:=⟨_,O⟩;have l:(((x.getD i 0+4294967296)%18446744073709551616+18446744073709551616-y.getD i 0)%18446744073709551616+18446744073709551616-b)%18446744073709551616=D:=pU
  have m:(1+18446744073709551616-D/2^32)%18446744073709551616=1-D/4294967296:=pU
  rw[yg,Y xO,F,Y xO,F,F,F,GV,l,xN (by simp[ht];omega),F,F,Gm,F,m,zb];exact j _ ⟨_,_,i+1,O,pU,by simp[ht],d.append<|xi.cons (xaP _ rx) xi.nil,pU,H6 ht pU hv pU⟩ (by show X x-((i:J)+1).toNat<X x-(i:J).toNat;omega);rw[zG];obtain rfl:i=X x:=pU
  rw[g,xbR]at hv;have n:=Jh d;rw[ht]at n;have hc:b=0:=by
   obtain h|h:=xct b
   exact h;have:4294967296^X x*1<=4294967296^X x*b:=xaG _ h;omega
  subst hc;rw[xdo,xbT]at hv;rw[(pU:nw x-nw y=nw t),<-ht,dj d]
 have⟨t,k1,k2,k3,k4⟩:=c;rw[Y k4,Y (K3 k1 pU pU),k3]
def KM(c:zp a)(d:zp b)(hd:X a<=200000)(j:X b<=200000)(e:2000000<fu):
 Y6 fu a b=Z (if nv a<nv b then([],1)else(yI<|nv a-nv b,0)):=by
 unfold Y6;rw[Y (x8 c pU pU),Y<|x8 d pU pU];have l1:=QD c;have l:=QD d;have f:=qH<|nv a;have g:=qH<|nv b;rw[Y<|Kz f g pU pU e,qW,qW];by_cases h:nv a<nv b;rw[qP pU,Q rx,Q h];have hc:¬jE ((nv a:K):J) ((nv b:K):J)<0:=by
  rcases xbU (nv b) (nv a)with h|h
  rw[vK pU];decide;rw[kN pU];decide
 have m:X (Qe<|nv a-nv b)<=2*X a:=by rw[vk,Eo];exact xaI (xfc _ _)<|vd c
 rw[S hc,S h,Y (eG f g pU e<|by rw[qW,qW];omega),qW,qW,Y (jO (qH _) pU pU),qW]
def yW{z:U}(h:zp z.2)(hl:X z.2<=200000)(c:3000000<=fu):yY fu z=Z (yC<|zv z):=QS h pU pU
def Fh(s:ut)(n:K):zv (s,yI n)=if s=wT then-(n:J)else(n:J):=by unfold zv;rw[zV]
def Kh{z:U}(h:fW z)(c:3000000<=fu):Y7 fu z=Z (yC (-zv z)):=by
 unfold Y7;have:=h.2;rw[Y<|yW (z:=(!z.1,z.2)) h.1 (by show X z.2<=_;omega) c];rcases x9 z with⟨h1,d⟩|⟨h1,d⟩
 skip;unfold zv;simp[h1];skip;unfold zv;simp[h1]
theorem Ub{a b:U}(g:fW a)(h:fW b)(j:3000000<=fu):Xc fu a b=Z (yC<|zv a+zv b):=by
 unfold Xc;have l:=g.2;have m:=h.2;have n:X (yI<|nv a.2+nv b.2)<=100001:=ZC (xal (xe g.1) l)<|xal (xe h.1) m;rw[F];by_cases d:a.1=b.1;rw[Q (by simp[d]),Y (iF g.1 h.1 pU pU pU),Y<|yW (z:=(a.1,yI<|nv a.2+nv b.2)) (zt _) (by show(yI _).length<=_;omega) j,Fh];rcases x9 a with⟨h1,e⟩|⟨h1,e⟩<;>rcases x9 b with⟨c,f⟩|⟨c,f⟩
 grind;simp_all;simp_all;rw[h1,e,f,S rx];congr 2;rw[S (by simp[d]),Y<|KM g.1 h.1 pU pU pU];by_cases hc:nv a.2<nv b.2;have hd:X (yI<|nv b.2-nv a.2)<=100000:=xal (K7<|xfc _ _)<|xal (xe h.1) m;rw[Q hc];simp only;rw[S rx,Y (KM h.1 g.1 pU pU pU),zG];simp only;rw[Y<|yW (z:=(b.1,yI<|nv b.2-nv a.2)) (zt _) (by show(yI _).length<=_;omega) j,Fh];rcases x9 a with⟨h1,e⟩|⟨h1,e⟩<;>rcases x9 b with⟨c,f⟩|⟨c,f⟩
 rw[h1,c]at d;exact jp O d;rw[c,e,f,S rx];congr 2;omega;rw[c,e,f,Q O];congr 2;omega;rw[h1,c]at d;exact jp O d;have hd:X (yI<|nv a.2-nv b.2)<=100000:=xal (K7<|xfc _ _)<|xal (xe g.1) l;rw[S hc];simp only;rw[Q jP,Y<|yW (z:=(a.1,yI<|nv a.2-nv b.2)) (zt _) (by show(yI _).length<=_;omega) j,Fh];rcases x9 a with⟨h1,e⟩|⟨h1,e⟩<;>rcases x9 b with⟨c,f⟩|⟨c,f⟩
 rw[h1,c]at d;exact jp O d;rw[h1,e,f,Q O];congr 2;omega;rw[h1,e,f,S rx];congr 2;omega;rw[h1,c]at d;exact jp O d
def um{z:U}(h:fW z)(d:3000000<=fu):jr fu z=Z (jE (zv z) 0):=by
 unfold jr;have:=h.2;rw[Y<|yW h.1 pU d];by_cases h1:zv z<0;rw[Q<|(J0 _).2 h1,qP h1];rw[S<|λe=>h1<|(J0 _).1 e];by_cases c:zv z=0
 rw[S<|λe=>DA.1 e c,kN c];rw[Q<|DA.2 c,vK pU]
def wk{a b:U}(c:fW a)(d:fW b)(e:3000000<=fu):wJ fu a b=Z (yC<|zv a*zv b):=by have:=c.2;have:=d.2;exact Gn c.1 d.1 pU pU pU
end
end Go.Proofs.YtoegnnjcmlghhaaGreat
