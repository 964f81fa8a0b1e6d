/- What a proof needs: rules of walking, mirrors of functions and their plain laws. No condition. -/
import Derived.Test.YtoegnnjcmlghhaaGreatZn4
set_option linter.all false
namespace Go.Proofs.YtoegnnjcmlghhaaGreat
open Bool renaming false->I,true->qR
open Go renaming Value->jp,World->jP,TypeId->ut,execOp->uT,undef->XS,Oper->Wd,Tmp->Wn,Code->Wt,resolve->WR,Func->V0,invoke->V3,results->V6,eqGuard->V9,Act->QR,builtin->am,Calls->bi,wpOpsSIn->dL,Exit->lm,callsDIn_of_wpSIn->lM,recoverD->pL
open Go.Proofs.YtoegnnjcmlghhaaGreat renaming bd->G,za->Y,Zr->U,nm->B,ze->F,iq->E,zf->S,ir->P
open List renaming length->X,length->A2
open Nat renaming beq->Q
open Option renaming some->Z,none->wW
open _root_ renaming rfl->O,List->N,Int->J,Nat->K,Option->V,List->wF,Int->wN,Nat->wP,Option->wS,absurd->kW,trivial->ul,Bool->uS,Array->Z5,Unit->Wl,True->Ws,reduceCtorEq->WT
open Ending renaming returned->xeB
open Int renaming fdiv->xfX,tdiv->xdC,tmod->xcG
open Lib renaming bitLen->xfv
open List renaming drop_eq_getElem_cons->xca,getD_cons_succ->xdz,replicate->So,take_add_one->xeZ,take_append_drop->xbK,take_of_length_le->xaY
open Nat renaming add_mul->xbl,add_mul_div_left->xcD,add_mul_mod_self_left->xcs,div_add_mod->xbt,div_div_eq_div_mul->xaD,lt_of_lt_of_le->xac,mod_add_div->xee,mod_eq_of_lt->xap,mul_add->xcm,mul_assoc->xbj,mul_comm->xaO,mul_left_comm->xfx,pow_add->xbd,pow_le_pow_right->xai,pow_mul->xbM,pow_succ->xbe,strongRecOn->xdG
open Sum renaming elim->xfj
open _root_.Array renaming replicate->xdl
def WF:=@decide_eq_false
def Ww:=@decide_eq_true
def eX:=@and_true
def oS:=@true_and
def xaB:=@Nat.mul_le_mul_left
def xaS:=@Nat.pow_pos
def xad:=@Classical.byContradiction
def xbG:=@Nat.mul_lt_mul_of_pos_right
def xbS:=@Int.pow_succ
def xbY:=@Nat.two_pow_pos
def xbm:=@Nat.div_eq_of_lt
def xbx:=@Nat.le_of_not_lt
def xcK:=@Nat.le_antisymm
def xcL:=@Nat.div_mul_le_self
def xcM:=@Nat.succ_mul
def xcb:=@Nat.mul_le_mul
def xcf:=@Nat.mul_lt_mul''
def xci:=@Nat.min_eq_left
def xcl:=@Int.natAbs_mul
def xcy:=@Nat.le_div_iff_mul_le
def xdE:=@List.mem_or_eq_of_mem_set
def xdP:=@Nat.le_max_right
def xdQ:=@Nat.mul_one
def xdV:=@Nat.pow_succ'
def xdv:=@Nat.mul_zero
def xdw:=@Nat.lt_of_not_le
def xef:=@Nat.div_one
def xeg:=@Nat.le_max_left
def xeh:=@Nat.pow_le_pow_left
def xeo:=@Nat.pow_zero
def xep:=@Nat.mul_mod_mul_right
def xey:=@Int.natAbs_neg
def xez:=@Nat.pow_lt_pow_right
def xfF:=@Nat.mul_div_mul_right
def xfM:=@List.mem_of_mem_drop
def xff:=@Nat.sub_le
def xfk:=@Nat.add_sub_cancel
def xfs:=@Nat.eq_zero_of_not_pos
section
set_option maxRecDepth 100000
section
variable(fu:wP)
def J6:oL (N Qr) (N Qr):=λL a=>if 0<(X a:J)then S ((X a:J)-1) λd=>zI d (X a) λe=>B (a.getD e<|((I,[]),[])) λf=>G (Kp fu f) λg=>if g=0 then S ((X a:J)-1) λh=>jT h λb=>ck (b<=X a)<|B (a.take b) λi=>L i else Z a else Z a
def XH(a:N Qr):V (N Qr):=G (zg (J6 fu) fu a) λt3=>Z t3
def JL(d e:Qr):V (Qr×J):=G (wC fu d) λa=>G (wC fu e) λb=>G (Xk fu b) λf=>G (zQ fu a.1 f) λg=>G (Xk fu a) λh=>G (zQ fu b.1 h) λi=>G (W9 fu g i) λ(j,k)=>Z (j,k)
def Y2(a:N Qr)(j:J):oL ((N Qr)×J×(N Qr)×(N Qr)) ((N Qr)×(N Qr)×(N Qr)):=λL (k,b,e,d)=>G (if b<(X a:J)then Z (j,a,(X a:J),qR)else Z (j,a,(X a:J),I):V (J×(N Qr)×J×uS)) λ(f,l,B,m)=>if m then zI b (X l) λo=>nm (l.getD o<|((I,[]),[])) λp=>S (f+b) λq=>S (f+b) λg=>zI g (X d) λr=>nm (d.getD r<|((I,[]),[])) λs=>zI f (X e) λu=>nm (e.getD u<|((I,[]),[])) λv=>G (WJ fu v p) λw=>G (aO fu s w) λy=>zI q (X d) λA=>nm (d.set A y) λh=>S (b+1) λi=>L (k,i,e,h)else Z (k,e,d)
def YZ(a:N Qr):oL (J×(N Qr)×(N Qr)) ((N Qr)×(N Qr)):=λL (b,t3,d)=>if 0<=b then S (b+(X a:J)) λh=>S (h-1) λi=>zI i (X d) λj=>B (d.getD j<|((I,[]),[])) λk=>S ((X a:J)-1) λl=>zI l (X a) λm=>B (a.getD m<|((I,[]),[])) λo=>G (JL fu k o) λ(p,s)=>zI b (X t3) λq=>B (t3.set q p) λt5=>G (zg (Y2 fu a b) fu<|(a,0,t5,d)) λ(r,e,f)=>S (b-1) λg=>L (g,e,f)else Z (t3,d)
def ZX(a g:N Qr):V ((N Qr)×(N Qr)):=S ((X a:J)-(X g:J)) λj=>S (j+1) λk=>B (max k 0) λl=>jT l λh=>ck (56*h<=281474976710656)<|B (So h<|((I,[]),[])) λi=>ck ((X ([]:N Qr)+X a)*56<=140737488355328)<|B (([]:N Qr)++a) λm=>S ((X i:J)-1) λo=>G (zg (YZ fu g) fu (o,i,m)) λ(b,d)=>G (XH fu b) λe=>G (XH fu d) λf=>Z (e,f)
def Yq(a:V d7):oL ((N Qr)×(N Qr)×(N Qr)×(N Qr)) ((N Qr)×(N Qr)):=λL (b,t3,d,t5)=>if 1<(X t3:J)then G (ZX fu b t3) λ(e,f)=>G (a) λg=>G (a) λh=>G (xQ fu h e t5) λi=>G (wO fu g d i (-1:J)) λj=>L (t3,f,t5,j)else Z (t3,t5)
def xZ(a:V d7)(g:N Qr):V ((N Qr)×J):=G (xX fu a) λh=>if h then Z ([],1)else G (a) λi=>G (a) λj=>G (xk fu j g) λf=>if(X f:J)=0 then Z ([],3)else G (jw fu 1) λk=>G (zg (Yq fu a) fu (i.2,f,[],[k])) λ(b,d)=>G (jw fu 1) λl=>zI 0 (X b) λm=>B (b.getD m<|((I,[]),[])) λo=>G (JL fu l o) λ(p,r)=>G (a) λq=>G (xQ fu q d [p]) λe=>Z<|(e,0)
def wc(a:V d7)(b d:N Qr):V ((N Qr)×J):=G (xX fu a) λe=>if e then Z ([],1)else G (a) λf=>G (xQ fu f b d) λg=>Z<|(g,0)
def vU(a:V d7)(b d:N Qr):V ((N Qr)×J):=G (xX fu a) λe=>if e then Z ([],1)else G (a) λf=>G (wO fu f b d (-1:J)) λg=>Z<|(g,0)
def vY(a:V d7)(b:N Qr):V ((N Qr)×J):=G (xX fu a) λd=>if d then Z ([],1)else G (a) λe=>G (xk fu e b) λf=>Z<|(f,0)
def xw(fu:K)(b:N Qr)(a:J):V (PX⊕(N Qr)):=if a=0 then Z (.inr b)else Z (.inl (128,a))
def ZP(e:V d7)(a:N (N Qr)):oL (J×(N<|N Qr)) ((N<|N Qr)⊕(PX×Wl)):=λL (b,d)=>G (if b<(X a:J)then Z (e,a,(X a:J),qR)else Z (e,a,(X a:J),I):V ((V<|d7)×(N<|N Qr)×J×uS)) λ(t5,f,r,g)=>if g then zI b (X f) λh=>B (f.getD h []) λi=>G (vY fu t5 i) λ(j,k)=>G (xw fu j k) λz2=>match z2 with
 |.inl l=>(Z (.inr<|(l,())))
 |.inr m=>zI b (X d) λo=>B (d.set o m) λp=>S (b+1) λq=>L (q,p)else Z (.inl d)
def ZT(fu:K):oL (N<|N Qr) (N<|N Qr):=λL a=>if 0<(X a:J)then S ((X a:J)-1) λf=>zI f (X a) λg=>B (a.getD g []) λb=>if(X b:J)=0 then S ((X a:J)-1) λh=>jT h λe=>ck (e<=X a)<|B (a.take e) λd=>L d else Z a else Z a
def zH(d:V d7)(e:N (N Qr)):V (PX⊕(N<|N Qr)):=G (vY fu d []) λ(g,h)=>G (xw fu g h) λi=>match i with
 |.inl j=>(Z (.inl j))
 |.inr m=>jT (X e:J) λf=>ck (24*f<=281474976710656)<|B (So f []) λt3=>G (zg (ZP fu d e) fu<|(0,t3)) λk=>match k with
 |.inl a=>G (zg (ZT fu) fu a) λb=>Z (.inr b)
 |.inr (l,_)=>Z (.inl l)
def uw(A:J)(h:N (N Qr)):oL ((V<|d7)×(N Qr)×J×(N<|N Qr)×(N<|N Qr)×(N<|N Qr)) (((V<|d7)×(N Qr)×(N<|N Qr)×(N<|N Qr)×(N<|N Qr))⊕(PX×Wl)):=λL (b,f,g,d,a,e)=>bd (if g<(X h:J)then Z (A,(X h:J),qR)else Z (A,(X h:J),I):V (J×J×uS)) λ(i,K,B)=>if B then zI g (X d) λC=>nm (d.getD C []) λj=>S (i+g) λk=>S (i+g) λl=>zI l (X a) λE=>nm (a.getD E []) λm=>zI i (X e) λG=>nm (e.getD G []) λo=>bd (wc fu b o j) λ(p,q)=>bd (xw fu p q) λz5=>match z5 with
 |.inl t=>(Z (.inr<|(t,())))
 |.inr r=>bd (vU fu b m r) λ(s,u)=>bd (xw fu s u) λz6=>match z6 with
 |.inl c=>(Z (.inr<|(c,())))
 |.inr v=>zI k (X a) λn=>nm (a.set n v) λw=>S (g+1) λy=>L (b,f,y,d,w,e)else Z (.inl (b,f,d,a,e))
def uj(o:V d7)(t5:N Qr):oL (J×(N<|N Qr)×(N<|N Qr)×(N<|N Qr)) (((N<|N Qr)×(N<|N Qr))⊕(PX×Wl)):=λL (a,d,b,e)=>if 0<=a then S (a+(X d:J)) λp=>S (p-1) λq=>zI q (X b) λr=>nm (b.getD r []) λf=>G (wc fu o f t5) λ(g,s)=>G (xw fu g s) λz4=>match z4 with
 |.inl u=>(Z (.inr<|(u,())))
 |.inr h=>zI a (X e) λv=>nm (e.set v h) λi=>G (zg (uw fu a d) fu<|(o,t5,0,d,b,i)) λw=>match w with
 |.inl (y,A,j,k,l)=>S (a-1) λm=>L (m,j,k,l)
 |.inr (B,_)=>Z (.inr<|(B,()))else Z (.inl (b,e))
def vK(a:V d7)(l m:N (N Qr)):V (PX⊕((N<|N Qr)×(N<|N Qr))):=bd (zH fu a l) λo=>match o with
 |.inl p=>(Z (.inl p))
 |.inr i=>bd (zH fu a m) λz2=>match z2 with
 |.inl q=>(Z (.inl q))
 |.inr b=>if(X b:J)=0 then Z (.inl<|(128,3))else S ((X b:J)-1) λr=>zI r (X b) λs=>nm (b.getD s []) λt3=>bd (xZ fu a t3) λ(u,v)=>bd (xw fu u v) λz3=>match z3 with
 |.inl w=>(Z (.inl w))
 |.inr t5=>S ((X i:J)-(X b:J)) λy=>S (y+1) λA=>nm (max A 0) λB=>jT B λj=>ck (24*j<=281474976710656)<|nm (So j []) λk=>S ((X k:J)-1) λC=>bd (zg (uj fu a t5) fu (C,b,i,k)) λE=>match E with
 |.inl (d,e)=>(bd (zH fu a e) λz7=>match z7 with
 |.inl G=>(Z (.inl G))
 |.inr f=>bd (zH fu a d) λz8=>match z8 with
 |.inl c=>(Z (.inl c))
 |.inr g=>Z (.inr (f,g)))
 |.inr (h,_)=>Z (.inl h)
def vZ(a:V d7)(b d:N Qr):V ((N Qr)×J):=G (xX fu a) λe=>if e then Z ([],1)else G (a) λf=>G (wO fu f b d 1) λg=>Z<|(g,0)
def uy(e:J)(t3:wF (wF Qr))(l:V d7)(t5:wF (wF Qr))(m:J)(o:wF Qr):oL (J×(wF<|wF Qr)) ((wF<|wF Qr)⊕(PX×Wl)):=λL (a,b)=>bd (if a<(X t3:J)then Z (t3,l,e,o,t5,m,e,t3,(X t3:J),qR)else Z (t3,l,e,o,t5,m,e,t3,(X t3:J),I):V ((wF<|wF Qr)×(V<|d7)×J×(wF Qr)×(wF<|wF Qr)×J×J×(wF<|wF Qr)×J×uS)) λ(M,p,q,r,s,N,x,d,P,u)=>if u then zI a (X d) λv=>nm (d.getD v []) λw=>S (q+a) λy=>S (q+a) λA=>zI A (X b) λB=>nm (b.getD B []) λf=>bd (wc fu p r w) λ(g,C)=>bd (xw fu g C) λE=>match E with
 |.inl G=>(Z (.inr<|(G,())))
 |.inr h=>bd (vZ fu p f h) λ(i,t)=>bd (xw fu i t) λz2=>match z2 with
 |.inl c=>(Z (.inr<|(c,())))
 |.inr j=>zI y (X b) λn=>nm (b.set n j) λk=>S (a+1) λK=>L (K,k)else Z (.inl b)
def ug(e:V d7)(a f:N (N Qr)):oL (J×(N<|N Qr)) ((N<|N Qr)⊕(PX×Wl)):=λL (b,g)=>G (if b<(X a:J)then Z (f,e,a,(X a:J),qR)else Z (f,e,a,(X a:J),I):V ((N<|N Qr)×(V<|d7)×(N<|N Qr)×J×uS)) λ(t3,h,t5,i,j)=>if j then zI b (X t5) λk=>B (t5.getD k []) λl=>G (zg (uy fu b t3 h t5 i l) fu<|(0,g)) λm=>match m with
 |.inl d=>S (b+1) λo=>L (o,d)
 |.inr (p,_)=>Z (.inr<|(p,()))else Z (.inl g)
def jB(d:V d7)(e f:N (N Qr)):V (PX⊕(N<|N Qr)):=S ((X e:J)+(X f:J)) λh=>jT h λg=>ck (24*g<=281474976710656)<|B (So g []) λi=>G (zg (ug fu d e f) fu<|(0,i)) λj=>match j with
 |.inl a=>(G (zH fu d a) λz3=>match z3 with
 |.inl k=>(Z (.inl k))
 |.inr b=>Z (.inr b))
 |.inr (l,_)=>Z (.inl l)
def uh(b:V d7)(d:N (N Qr)):V (PX⊕(N<|N Qr)):=G (zH fu b d) λe=>match e with
 |.inl f=>(Z (.inl f))
 |.inr a=>if(X a:J)=0 then Z (.inr [])else S ((X a:J)-1) λg=>zI g (X a) λh=>B (a.getD h []) λi=>G (xZ fu b i) λ(t3,j)=>G (xw fu t3 j) λz2=>match z2 with
 |.inl k=>(Z (.inl k))
 |.inr l=>G (jB fu b a [l]) λz3=>match z3 with
 |.inl m=>(Z (.inl m))
 |.inr t5=>Z (.inr t5)
def FZ(b:V d7):oL ((N<|N Qr)×(N<|N Qr)) ((N<|N Qr)⊕(PX×Wl)):=λL (t3,a)=>if 0<(X a:J)then G (vK fu b t3 a) λz3=>match z3 with
 |.inl d=>(Z (.inr<|(d,())))
 |.inr (t5,e)=>G (uh fu b e) λz4=>match z4 with
 |.inl f=>(Z (.inr<|(f,())))
 |.inr g=>L (a,g)else Z (.inl t3)
def Ba(a:V d7)(g h:N (N Qr)):V ((N<|N Qr)×J):=G (zH fu a g) λi=>match i with
 |.inl b=>(ck (b.1=128)<|ck (Qp b.2)<|some ([],b.2))
 |.inr j=>G (uh fu a h) λz2=>match z2 with
 |.inl d=>(ck (d.1=128)<|ck (Qp d.2)<|some ([],d.2))
 |.inr k=>G (zg (FZ fu a) fu (j,k)) λl=>match l with
 |.inl m=>(G (uh fu a m) λz5=>match z5 with
 |.inl e=>(ck (e.1=128)<|ck (Qp e.2)<|some ([],e.2))
 |.inr o=>Z<|(o,0))
 |.inr (f,_)=>ck (f.1=128)<|ck (Qp f.2)<|some ([],f.2)
def YJ:V uS:=G (Kx fu [(-2:J),0,1]) λg=>G (Qc fu g) λ(a,h)=>if h=0 then if(a).isNone=qR then Z I else G (jw fu (-2:J)) λi=>G (jw fu 1) λj=>G (jw fu 0) λb=>G (jw fu (-1:J)) λd=>G (jw fu 1) λe=>G (Ba fu a ([[i],[],[j]])<|[[b,d],[e]]) λ(f,k)=>if k=0 then if(X f:J)=2 then G (yD fu f<|[[b,d],[e]]) λl=>Z l else Z I else Z I else Z I
def UM(fu:K)(a:N (N<|N Qr))(g:J):oL (J×J) (J⊕Wl):=λL (b,f)=>zI b (X a) λp=>B (a.getD p []) λl=>zI g (X l) λq=>B (l.getD q []) λr=>if f<(X r:J)then zI b (X a) λs=>B (a.getD s []) λm=>zI g (X m) λu=>B (m.getD u []) λo=>zI f (X o) λv=>B (o.getD v<|((I,[]),[])) λw=>if 1<(X w.1.2:J)then Z (.inr ())else zI b (X a) λh=>B (a.getD h []) λd=>zI g (X d) λi=>B (d.getD i []) λe=>zI f (X e) λj=>B (e.getD j<|((I,[]),[])) λk=>if 1<(X k.2:J)then Z (.inr ())else S (f+1) λy=>L (b,y)else Z (.inl b)
def UB(d:J):oL (J×(N<|N<|N Qr)×J) ((J×(N<|N<|N Qr))⊕Wl):=λL (e,a,b)=>zI d (X a) λg=>B (a.getD g []) λh=>if b<(X h:J)then zI d (X a) λi=>B (a.getD i []) λf=>zI b (X f) λj=>B (f.getD j []) λk=>if 4<(X k:J)then Z (.inr ())else G (zg (UM fu a b) fu<|(d,0)) λl=>match l with
 |.inl o=>S (b+1) λm=>L (e,a,m)
 |.inr _=>Z (.inr ())else Z (.inl (e,a))
def U3(d:J)(a:N (N<|N Qr)):oL J (Wl⊕Wl):=λL b=>if b<(X a:J)then zI b (X a) λe=>B (a.getD e []) λf=>if d<(X f:J)then Z (.inr ())else G (zg (UB fu b) fu<|(d,a,0)) λg=>match g with
 |.inl (i,j)=>S (b+1) λh=>L h
 |.inr _=>Z (.inr ())else Z (.inl ())
def Xq(a:J)(b:N (N<|N Qr)):V uS:=G (zg (U3 fu a b) fu 0) λd=>match d with
 |.inl _=>Z qR
 |.inr _=>Z I
def dZ(fu:K)(b:N K):oL J J:=λL a=>if 0<a then S (a-1) λd=>zI d (X b) λe=>B (b.getD e 0) λf=>if(f:J)=(((0:K):K):J)then S (a-1) λg=>L g else Z a else Z a
def XM(a:N K):V (N K):=G (zg (dZ fu a) fu<|(X a:J)) λe=>jT e λb=>ck (b<=X a)<|B (a.take b) λd=>ck ((X ([]:N K)+X d)*8<=140737488355328)<|B (([]:N K)++d) λf=>Z f
def xh(b:U):V U:=G (XM fu b.2) λa=>if b.1=qR then if 0<(X a:J)then Z (qR,a)else Z (I,a)else Z (I,a)
def VL(a:U):V U:=G (xh fu (I,a.2)) λb=>Z b
def qS(fu:K)(a:N K)(b:J):V K:=if b<(X a:J)then zI b (X a) λd=>B (a.getD d 0) λe=>Z e else Z (0:K)
def lS(fu:K)(b:N K):oL J J:=λL a=>if 0<a then S (a-1) λd=>zI d (X b) λe=>B (b.getD e 0) λf=>if(f:J)=(((0:K):K):J)then S (a-1) λg=>L g else Z a else Z a
def Xl(a:N K):V (N K):=G (zg (lS fu a) fu<|(X a:J)) λd=>jT d λb=>ck (b<=X a)<|B (a.take b) λe=>Z e
def WK(fu:K)(a:N K):oL ((N K)×J) (N K):=λL (d,b)=>if b<(X a:J)then zI b (X a) λg=>B (a.getD g 0) λh=>B (h &&& (4294967295:K)) λe=>zI b (X a) λi=>B (a.getD i 0) λj=>B (j/2^(min ((32:K):J).toNat 64)) λf=>ck ((X d+X ([e,f]))*8<=140737488355328)<|B (d++([e,f])) λk=>S (b+1) λl=>L (k,l)else Z d
def xK(a:N K):V (N K):=G (zg (WK fu a) fu<|([],0)) λt3=>G (Xl fu t3) λb=>Z b
def Qy(fu:K)(a:N K):oL ((N K)×J) (N K):=λL (d,b)=>if b<(X a:J)then zI b (X a) λg=>B (a.getD g 0) λe=>S (b+1) λh=>if h<(X a:J)then S (b+1) λi=>zI i (X a) λj=>B (a.getD j 0) λk=>B (k*2^(min ((32:K):J).toNat 64)%18446744073709551616) λl=>B ((e+l)%18446744073709551616) λf=>ck ((X d+X ([f]))*8<=140737488355328)<|B (d++([f])) λm=>S (b+2) λo=>L (m,o)else ck ((X d+X ([e]))*8<=140737488355328)<|B (d++([e])) λt3=>S (b+2) λp=>L (t3,p)else Z d
def qB(a:N K):V (N K):=G (zg (Qy fu a) fu<|([],0)) λb=>G (XM fu b) λt5=>Z t5
def mi(b d:N K):oL ((N K)×K×J) (N K):=λL (t3,g,a)=>B (max (X b:J)<|(X d:J)) λh=>S (h+1) λi=>if a<i then G (qS fu b a) λj=>G (qS fu d a) λk=>B ((j+k)%18446744073709551616) λl=>B ((l+g)%18446744073709551616) λe=>B (e &&& (4294967295:K)) λf=>ck ((X t3+X ([f]))*8<=140737488355328)<|B (t3++([f])) λm=>B (e/2^(min ((32:K):J).toNat 64)) λo=>S (a+1) λp=>L (m,o,p)else Z t3
def VV(a b:N K):V (N K):=G (xK fu a) λd=>G (xK fu b) λe=>G (zg (mi fu d e) fu<|([],(0:K),0)) λt5=>G (qB fu t5) λf=>Z f
def XI(b d:N K):oL J (Wl⊕J):=λL a=>if 0<=a then G (qS fu b a) λe=>G (qS fu d a) λf=>if(e:J)<(f:J)then Z (.inr (-1:J))else G (qS fu b a) λg=>G (qS fu d a) λh=>if(h:J)<(g:J)then Z (.inr 1)else S (a-1) λi=>L i else Z (.inl ())
def uM(a b:N K):V J:=B (max (X a:J)<|(X b:J)) λd=>S (d-1) λe=>G (zg (XI fu a b) fu e) λf=>match f with
 |.inl _=>Z 0
 |.inr g=>Z g
def Ki(d g:N K):oL ((N K)×K×J) (N K):=λL (b,h,a)=>if a<(X d:J)then G (qS fu d a) λi=>B ((i+(4294967296:K))%18446744073709551616) λj=>G (qS fu g a) λk=>B ((j+18446744073709551616-k)%18446744073709551616) λl=>B ((l+18446744073709551616-h)%18446744073709551616) λe=>B (e &&& (4294967295:K)) λf=>ck ((X b+X ([f]))*8<=140737488355328)<|B (b++([f])) λm=>B (e/2^(min ((32:K):J).toNat 64)) λo=>B (((1:K)+18446744073709551616-o)%18446744073709551616) λp=>S (a+1) λq=>L (m,p,q)else Z b
def XY(a b:N K):V (N K):=G (zg (Ki fu a b) fu<|([],(0:K),0)) λt3=>G (Xl fu t3) λd=>Z d
def UC(fu:K)(a:N K):oL ((N K)×(N K)×(N K)×K×J) ((N K)×(N K)×(N K)×K):=λL (e,f,d,g,b)=>if b<(X a:J)then zI b (X a) λi=>B (a.getD i 0) λj=>B ((j*(2:K))%18446744073709551616) λk=>B ((k+g)%18446744073709551616) λl=>B (l &&& (4294967295:K)) λh=>ck ((X d+X ([h]))*8<=140737488355328)<|B (d++([h])) λm=>zI b (X a) λo=>B (a.getD o 0) λp=>B (p/2^(min ((31:K):J).toNat 64)) λq=>S (b+1) λr=>L (e,f,m,q,r)else Z (e,f,d,g)
def UX(q f:N K):oL ((N K)×J×(N K)) ((N K)×(N K)):=λL (l,a,t5)=>if 0<=a then ck (32≠0)<|S (xdC a 32) λr=>zI r (X f) λs=>nm (f.getD s 0) λu=>ck (32≠0)<|nm (xcG a 32) λm=>ck (0<=m)<|nm (u/2^(min (m:J).toNat 64)) λv=>nm (v &&& (1:K)) λw=>bd (zg (UC fu l) fu<|(q,f,[],w,0)) λ(d,y,e,o)=>ck ((X e+X ([o]))*8<=140737488355328)<|nm (e++([o])) λg=>bd (Xl fu g) λb=>bd (bd (uM fu b d) λA=>if(0:J)<=A then Z qR else Z I:V uS) λB=>if B then bd (XY fu b d) λh=>ck (32≠0)<|S (xdC a 32) λC=>ck (32≠0)<|S (xdC a 32) λE=>zI E (X t5) λG=>nm (t5.getD G 0) λt=>ck (32≠0)<|nm (xcG a 32) λp=>ck (0<=p)<|nm ((1:K)*2^(min (p:J).toNat 64)%18446744073709551616) λm8=>nm (t|||m8) λc=>zI C (X t5) λn=>nm (t5.set n c) λi=>S (a-1) λj=>L (h,j,i)else S (a-1) λk=>L (b,k,t5)else Z (l,t5)
def KU(i j:N K):V ((N K)×(N K)×J):=G (xK fu j) λg=>if(X g:J)=0 then Z ([],[],3)else G (xK fu i) λa=>jT (X a:J) λh=>ck (8*h<=281474976710656)<|B (So h 0) λt3=>S (32*(X a:J)) λk=>S (k-1) λl=>G (zg (UX fu g a) fu ([],l,t3)) λ(b,d)=>G (qB fu d) λe=>G (qB fu b) λf=>Z<|(e,f,0)
def Xc(d e:N K):V ((N K)×J):=G (xK fu d) λa=>G (xK fu e) λb=>G (uM fu a b) λf=>if f<0 then Z ([],1)else G (XY fu a b) λt3=>G (qB fu t3) λg=>Z<|(g,0)
def VD(b d:U):V (U×U×J):=G (KU fu b.2 d.2) λ(e,a,f)=>if f=0 then G (if b.1=qR then if 0<(X a:J)then G (VV fu e [(1:K)]) λt3=>G (Xc fu d.2 a) λ(g,l)=>Z (t3,g)else Z (e,a)else Z (e,a):V ((N K)×(N K))) λ(t5,h)=>B (!(b.1==d.1)) λi=>G (xh fu (i,t5)) λj=>G (xh fu (I,h)) λk=>Z (j,k,0)else Z ((I,[]),(I,[]),f)
def Yb(b:U):V J:=G (xh fu b) λa=>if a.1=qR then Z (-1:J)else if 0<(X a.2:J)then Z 1 else Z 0
def mI:oL (U×U) U:=λL (b,a)=>G (Yb fu a) λd=>if d=0 then Z b else G (VD fu b a) λ(f,e,g)=>L (a,e)
def KY(a b:U):V U:=G (VL fu a) λd=>G (VL fu b) λe=>G (zg (mI fu) fu (d,e)) λt3=>Z t3
def K2(a:U):V U:=G (xh fu<|((!a.1),a.2)) λb=>Z b
def Kl(a:J):V U:=if a<0 then S (0-a) λb=>B (E4 b) λd=>G (xh fu (qR,[d])) λe=>Z e else B (E4 a) λf=>G (xh fu (I,[f])) λg=>Z g
def eT(b:N U):oL J J:=λL a=>if 0<a then S (a-1) λd=>zI d (X b) λe=>B (b.getD e (I,[])) λf=>G (Yb fu f) λg=>if g=0 then S (a-1) λh=>L h else Z a else Z a
def gu(d:N U)(f:J):oL ((N U)×J) (N U):=λL (a,b)=>if b<f then zI b (X d) λg=>B (d.getD g (I,[])) λh=>G (xh fu h) λe=>ck ((X a+X ([e]))*32<=140737488355328)<|B (a++([e])) λi=>S (b+1) λj=>L (i,j)else Z a
def vD(a:N U):V (N U):=G (zg (eT fu a) fu<|(X a:J)) λb=>G (zg (gu fu a b) fu<|([],0)) λt3=>Z t3
def K5(a:N U):oL (J×U) U:=λL (b,d)=>if b<(X a:J)then zI b (X a) λe=>B (a.getD e (I,[])) λf=>G (KY fu d f) λg=>S (b+1) λh=>L (h,g)else Z d
def YO(b:N U):V U:=G (vD fu b) λa=>G (Kl fu 0) λd=>G (zg (K5 fu a) fu<|(0,d)) λt3=>if 0<(X a:J)then S ((X a:J)-1) λe=>zI e (X a) λf=>B ((a.getD f (I,[])).1) λg=>if g then G (K2 fu t3) λh=>Z h else Z t3 else Z t3
def VC(b d:U):V (U×J):=G (VD fu b d) λ(e,f,a)=>if a=0 then G (Yb fu f) λg=>if g=0 then Z (e,0)else Z ((I,[]),4)else Z ((I,[]),a)
def Qj(a b:U):V U:=B (a.1==b.1) λd=>if d then G (VV fu a.2 b.2) λe=>G (xh fu (a.1,e)) λf=>Z f else G (Xc fu a.2 b.2) λ(g,h)=>if h=0 then G (xh fu (a.1,g)) λi=>Z i else G (Xc fu b.2 a.2) λ(t3,k)=>G (xh fu (b.1,t3)) λj=>Z j
def JS(fu:K)(a:N U)(b:J):V U:=if 0<=b then if b<(X a:J)then zI b (X a) λd=>B (a.getD d (I,[])) λe=>Z e else Z (I,[])else Z (I,[])
def lX(d e:N U):oL ((N U)×J) (N U):=λL (b,a)=>B (max (X d:J)<|(X e:J)) λg=>if a<g then G (JS fu d a) λh=>G (JS fu e a) λi=>G (Qj fu h i) λf=>ck ((X b+X ([f]))*32<=140737488355328)<|B (b++([f])) λj=>S (a+1) λk=>L (j,k)else Z b
def VX(a b:N U):V (N U):=G (zg (lX fu a b) fu<|([],0)) λt3=>G (vD fu t3) λd=>Z d
def U9(fu:K)(e:J):oL ((N K)×(N K)×K×J×(N K)) ((N K)×(N K)×K×(N K)):=λL (t5,a,f,b,d)=>if b<(X a:J)then zI e (X t5) λh=>B (t5.getD h 0) λi=>zI b (X a) λj=>B (a.getD j 0) λk=>B ((i*k)%18446744073709551616) λl=>S (e+b) λm=>zI m (X d) λo=>B (d.getD o 0) λp=>B ((l+p)%18446744073709551616) λq=>B ((q+f)%18446744073709551616) λg=>S (e+b) λr=>B (g &&& (4294967295:K)) λs=>zI r (X d) λu=>B (d.set u s) λv=>B (g/2^(min ((32:K):J).toNat 64)) λw=>S (b+1) λy=>L (t5,a,w,y,v)else Z (t5,a,f,d)
def UF(f h:N K):oL (J×(N K)) (N K):=λL (b,g)=>if b<(X f:J)then G (zg (U9 fu b) fu<|(f,h,(0:K),0,g)) λ(m,d,i,a)=>S (b+(X d:J)) λj=>zI j (X a) λk=>B (a.set k i) λe=>S (b+1) λl=>L (l,e)else Z g
def Ua(g h:N K):V (N K):=G (xK fu g) λd=>G (xK fu h) λe=>S ((X d:J)+(X e:J)) λi=>jT i λf=>ck (8*f<=281474976710656)<|B (So f 0) λt3=>G (zg (UF fu d e) fu<|(0,t3)) λa=>G (qB fu a) λb=>Z b
def Xg(a b:U):V U:=B (!(a.1==b.1)) λd=>G (Ua fu a.2 b.2) λe=>G (xh fu (d,e)) λf=>Z f
def nk(d:J):oL ((N U)×(N U)×J×(N U)) ((N U)×(N U)×(N U)):=λL (t3,a,b,t5)=>if b<(X a:J)then S (d+b) λe=>S (d+b) λf=>zI f (X t5) λg=>B (t5.getD g (I,[])) λh=>zI d (X t3) λi=>B (t3.getD i (I,[])) λj=>zI b (X a) λk=>B (a.getD k (I,[])) λl=>G (Xg fu j l) λm=>G (Qj fu h m) λo=>zI e (X t5) λp=>B (t5.set p o) λq=>S (b+1) λr=>L (t3,a,r,q)else Z (t3,a,t5)
def mU(b e:N U):oL (J×(N U)) (N U):=λL (a,d)=>if a<(X b:J)then G (zg (nk fu a) fu<|(b,e,0,d)) λ(h,i,f)=>S (a+1) λg=>L (g,f)else Z d
def Uv(d e:N U):V (N U):=S ((X d:J)+(X e:J)) λg=>jT g λf=>ck (32*f<=281474976710656)<|B (So f (I,[])) λh=>G (zg (mU fu d e) fu<|(0,h)) λa=>G (vD fu a) λb=>Z b
def cX(a:N U)(f:U):oL ((N U)×J) (N U):=λL (b,d)=>if d<(X a:J)then zI d (X a) λg=>B (a.getD g (I,[])) λh=>G (Xg fu h f) λe=>ck ((X b+X ([e]))*32<=140737488355328)<|B (b++([e])) λi=>S (d+1) λj=>L (i,j)else Z b
def Vu(a:N U)(b:U):V (N U):=G (zg (cX fu a b) fu<|([],0)) λt3=>G (vD fu t3) λd=>Z d
def K9(a b:N U):V (N U):=G (Kl fu (-1:J)) λd=>G (Vu fu b d) λe=>G (VX fu a e) λf=>Z f
def lZ:oL ((N U)×(N U)×(N U)) ((N U)⊕Wl):=λL (t3,a,t5)=>if 0<(X a:J)then S ((X a:J)-(X t3:J)) λd=>S ((X a:J)-1) λi=>zI i (X a) λj=>B (a.getD j (I,[])) λk=>S ((X t3:J)-1) λl=>zI l (X t3) λm=>B (t3.getD m (I,[])) λo=>G (VC fu k o) λ(e,p)=>if d<0 then Z (.inr ())else if p=0 then jT d λf=>ck (32*f<=281474976710656)<|B (So f (I,[])) λg=>ck ((X g+X ([e]))*32<=140737488355328)<|B (g++([e])) λh=>G (VX fu t5 h) λq=>G (Uv fu h t3) λr=>G (K9 fu a r) λb=>L (t3,b,q)else Z (.inr ())else Z (.inl t5)
def Ub(d e:N U):V ((N U)×J):=G (vD fu e) λb=>if(X b:J)=0 then Z ([],3)else G (vD fu d) λf=>G (zg (lZ fu) fu (b,f,[])) λg=>match g with
 |.inl a=>Z<|(a,0)
 |.inr _=>Z<|([],4)
def Jg(b:N U):V (N U):=G (vD fu b) λa=>if(X a:J)=0 then Z []else G (YO fu a) λd=>G (Ub fu a [d]) λ(e,f)=>Z e
def J7(fu:K)(a:N U):oL J (Wl⊕(V<|d7)):=λL b=>if b<(X a:J)then zI b (X a) λe=>B (a.getD e (I,[])) λf=>if 1<(X f.2:J)then Z (.inr<|(wW:V d7))else zI b (X a) λg=>B (a.getD g (I,[])) λh=>if(X h.2:J)=1 then zI b (X a) λi=>B (a.getD i (I,[])) λd=>zI 0 (X d.2) λj=>B (d.2.getD j 0) λk=>if(((100:K):K):J)<(k:J)then Z (.inr<|(wW:V d7))else S (b+1) λl=>L l else S (b+1) λm=>L m else Z (.inl ())
def Wb(a:N U):V ((V<|d7)×(N U)):=if 5<(X a:J)then Z ((wW:V d7),[])else G (zg (J7 fu a) fu 0) λb=>match b with
 |.inl _=>G (Qc fu a) λ(d,e)=>if e=0 then G (Jg fu a) λf=>Z (d,f)else Z ((wW:V d7),[])
 |.inr g=>Z (g,[])
def Za(h:V d7)(b:N (N Qr))(i:uS):oL (J×(N<|N Qr)) ((N<|N Qr)⊕(PX×Wl)):=λL (a,t3)=>bd (if a<(X b:J)then Z (i,h,b,(X b:J),qR)else Z (i,h,b,(X b:J),I):V (uS×(V<|d7)×(N<|N Qr)×J×uS)) λ(l,j,t5,c,m)=>if m then zI a (X t5) λo=>nm (t5.getD o []) λk=>if l then zI a (X t3) λp=>nm (t3.getD p []) λq=>bd (vU fu j q k) λ(r,s)=>bd (xw fu r s) λu=>match u with
 |.inl v=>(Z (.inr<|(v,())))
 |.inr w=>zI a (X t3) λy=>nm (t3.set y w) λA=>S (a+1) λB=>L (B,A)else zI a (X t3) λC=>nm (t3.getD C []) λd=>bd (vZ fu j d k) λ(e,E)=>bd (xw fu e E) λz2=>match z2 with
 |.inl G=>(Z (.inr<|(G,())))
 |.inr f=>zI a (X t3) λt=>nm (t3.set t f) λg=>S (a+1) λn=>L (n,g)else Z (.inl t3)
def Yr(d:V d7)(e f:N (N Qr))(h:uS):V (PX⊕(N<|N Qr)):=B (max (X e:J)<|(X f:J)) λi=>jT i λg=>ck (24*g<=281474976710656)<|B (So g []) λj=>B (H3 j e) λk=>G (zg (Za fu d f h) fu<|(0,k)) λl=>match l with
 |.inl a=>(G (zH fu d a) λz3=>match z3 with
 |.inl m=>(Z (.inl m))
 |.inr b=>Z (.inr b))
 |.inr (o,_)=>Z (.inl o)
def ZD(b:V d7)(d e:N (N Qr)):V ((N<|N Qr)×J):=G (Yr fu b d e I) λf=>match f with
 |.inl a=>(ck (a.1=128)<|ck (Qp a.2)<|some ([],a.2))
 |.inr g=>Z<|(g,0)
def Ca(g:V d7)(d:N (N Qr)):oL ((N<|N Qr)×J×J×(V<|d7)×(N<|N Qr)) (((N<|N Qr)×J×(V<|d7))⊕(PX×((N<|N Qr)×J))):=λL (b,a,t3,e,t5)=>G (if a<(X d:J)then Z (g,(X d:J),qR)else Z (g,(X d:J),I):V ((V<|d7)×J×uS)) λ(i,u,j)=>if j then zI a (X t5) λk=>B (t5.getD k []) λl=>if 0<a then G (jw fu a) λm=>G (wc fu i l [m]) λ(o,p)=>G (xw fu o p) λz2=>match z2 with
 |.inl q=>(Z (.inr<|(q,(b,t3))))
 |.inr h=>ck ((X b+X ([h]))*24<=140737488355328)<|B (b++([h])) λf=>S (a+1) λr=>L (f,r,t3,e,t5)else S (a+1) λs=>L (b,s,t3,e,t5)else Z (.inl (b,t3,e))
def UZ(b:V d7)(k:N (N Qr)):V ((N<|N Qr)×J):=G (zH fu b k) λl=>match l with
 |.inl d=>(ck (d.1=128)<|ck (Qp d.2)<|some ([],d.2))
 |.inr j=>G (zg (Ca fu b j) fu<|([],0,0,b,j)) λm=>match m with
 |.inl (a,o,e)=>(G (zH fu e a) λz3=>match z3 with
 |.inl f=>(ck (f.1=128)<|ck (Qp f.2)<|some (a,f.2))
 |.inr g=>Z<|(g,0))
 |.inr (h,(i,p))=>ck (h.1=128)<|ck (Qp h.2)<|some (i,h.2)
def wb(b:V d7)(d e:N (N Qr)):V ((N<|N Qr)×J):=G (jB fu b d e) λf=>match f with
 |.inl a=>(ck (a.1=128)<|ck (Qp a.2)<|some ([],a.2))
 |.inr g=>Z<|(g,0)
def qt(b:V d7)(d:N (N Qr)):V ((N<|N Qr)×J):=G (zH fu b d) λe=>match e with
 |.inl a=>(ck (a.1=128)<|ck (Qp a.2)<|some ([],a.2))
 |.inr f=>Z<|(f,0)
def zcV(a0:wF Zr)(f k l:wF (wF Qr)):wS uS:=bd (YJ fu) λe=>bd (Wb fu a0) λ(a,t1)=>if(a).isNone=qR then Z e else bd (Xq fu 3 [f,k,l]) λP=>if !P then Z e else bd (qt fu a f) λ(p,x1)=>bd (qt fu a k) λ(t3,x2)=>bd (wb fu a f k) λ(d,x3)=>bd (wb fu a k f) λ(t5,x4)=>bd (wb fu a k l) λ(Q,x5)=>bd (wb fu a d l) λ(m,x6)=>bd (wb fu a f Q) λ(o,x7)=>bd (ZD fu a k l) λ(R,x8)=>bd (wb fu a f R) λ(g,x9)=>bd (wb fu a f l) λ(q,S)=>bd (ZD fu a d q) λ(h,U)=>bd (UZ fu a f) λ(r,V)=>bd (UZ fu a k) λ(s,W)=>bd (wb fu a r k) λ(u,X)=>bd (wb fu a f s) λ(v,Y)=>bd (ZD fu a u v) λ(i,c)=>bd (UZ fu a d) λ(j,b)=>if(A2 d:J)=0 then if(A2 p:J)=0 then if e then if b=0 then bd (yD fu d t5) λx=>if x then bd (yD fu m o) λz=>if z then bd (yD fu g h) λD=>if D then bd (yD fu j i) λF=>Z F else Z I else Z I else Z I else Z I else Z I else if(A2 t3:J)=0 then if e then if b=0 then bd (yD fu d t5) λH=>if H then bd (yD fu m o) λL=>if L then bd (yD fu g h) λT=>if T then bd (yD fu j i) λw=>Z w else Z I else Z I else Z I else Z I else Z I else if 0<(A2 d:J)then zf ((A2 p:J)+(A2 t3:J)) λy=>zf (y-1) λA=>if(A2 d:J)=A then if e then if b=0 then bd (yD fu d t5) λB=>if B then bd (yD fu m o) λC=>if C then bd (yD fu g h) λE=>if E then bd (yD fu j i) λG=>Z G else Z I else Z I else Z I else Z I else Z I else if e then if b=0 then Z I else Z I else Z I else if e then if b=0 then Z I else Z I else Z I else if 0<(A2 d:J)then zf ((A2 p:J)+(A2 t3:J)) λi8=>zf (i8-1) λn=>if(A2 d:J)=n then if e then if b=0 then bd (yD fu d t5) λt=>if t then bd (yD fu m o) λK=>if K then bd (yD fu g h) λM=>if M then bd (yD fu j i) λN=>Z N else Z I else Z I else Z I else Z I else Z I else if e then if b=0 then Z I else Z I else Z I else if e then if b=0 then Z I else Z I else Z I
def kR(b:V d7)(d e:N (N Qr)):V ((N<|N Qr)×(N<|N Qr)×J):=G (vK fu b d e) λf=>match f with
 |.inl a=>(ck (a.1=128)<|ck (Qp a.2)<|some ([],[],a.2))
 |.inr (g,h)=>Z<|(g,h,0)
def Zg(i:N U)(d b:N (N Qr)):V uS:=G (YJ fu) λe=>G (Wb fu i) λ(a,u)=>if(a).isNone=qR then Z e else G (Xq fu 4 [d,b]) λj=>if !j then Z e else G (qt fu a d) λ(g,v)=>G (qt fu a b) λ(t3,w)=>G (kR fu a d b) λ(k,t5,h)=>if(X t3:J)=0 then if e then if h=3 then Z qR else Z I else Z I else G (wb fu a k b) λ(l,y)=>G (ZD fu a l t5) λ(m,A)=>G (wb fu a d b) λ(o,B)=>G (kR fu a o b) λ(p,f,q)=>if e then if h=0 then G (yD fu m g) λr=>if r then if(X t5:J)<(X t3:J)then if q=0 then G (yD fu p g) λs=>if s then if(X f:J)=0 then Z qR else Z I else Z I else Z I else Z I else Z I else Z I else Z I
end
end
section
set_option maxRecDepth 100000
def sL:Wt->Wt|.seq a _=>a|c=>c
def sR:Wt->Wt|.seq _ b=>b|c=>c
def sB:Wt->Wt|.block _ c=>c|.loop c=>c|c=>c
def cT:Wt->Wt|.cond _ a _=>a|c=>c
def cF:Wt->Wt|.cond _ _ b=>b|c=>c
def ro:Wt->N Wd|.region _ a _=>a.toList|_=>[]
def rd:Wt->K|.region i _ _=>i|_=>0
noncomputable def tB:Wt:=match Tryz.f57.body with|some c=>c|none=> .skip
noncomputable def t3:Wt:=sL<|sB<|sR tB
noncomputable def tc:Wt:=sR<|sB<|sR tB
noncomputable def t5:Wt:=sL<|cF tc
noncomputable def tc2:Wt:=sR<|cF tc
noncomputable def t67:Wt:=cT tc2
def zmO:Tryz.f57.body=Z (.seq (.region 0 (ro<|sL tB).toArray I) (.block 0 (.seq (.region 3 (ro t3).toArray I) (.cond (.tmp 7) (cT tc) (.seq (.region 5 (ro t5).toArray I) (.cond (.tmp 9) t67<|cF tc2)))))):=ol
def PZ(l:N Wd):N (V Wn×Op×V (K×uS)):=l.map λo=>(o.dst,o.op,o.guard)
def k0:PZ (ro<|sL tB)=[(Z 5,.call ⟨.builtin .recover,#[],#[]⟩,wW)]:=ol
def k3:PZ (ro t3)=[(Z 7,.binOp .eql 20 (.tmp 5) (.const .nilIface) 20,wW)]:=ol
def k5:PZ (ro t5)=[(Z 8,.typeAssert (.tmp 5) 20 128 qR,wW),(Z 9,.extract (.tmp 8) 1,wW),(Z 10,.extract (.tmp 8) 0,wW)]:=ol
def k4:cT tc=.region 4 (ro<|cT tc).toArray I:=ol
def k4':PZ (ro<|cT tc)=[(Z 2,.assign (.tmp 5),wW)]:=ol
def anT:An:=⟨[],[],[],[],[],[],[]⟩
noncomputable def cfT:Cf:=⟨tt,[],anT,9,ex,[],[],[],[]⟩
noncomputable def o6:N Wd:=ro<|sL t67
noncomputable def o7:N Wd:=ro<|sR t67
def k67:t67=.seq (.region 6 o6.toArray I) (.region 7 o7.toArray I):=ol
abbrev cx1:Sg:=⟨0,[(0,0,.vs 0 .i)],[]⟩
def kE(σ:Sg):V (ut×J):=match xH σ.ob 0 with
 |some (.var .i a y)=>Z (a,y)
 |_=>wW
def zpX(x z:J)(E:ut):zf8 cfT cx1 6 o6 I ⟨1,[(10,0,.d (.w1 .i) x)],[(0,.var .i E z)]⟩ (λ_ _=>wW) (λσ=>zf8 cfT cx1 7 o7 I σ (λ_ _=>wW) kE)=Z (E,x):=ol
def n6:(o6.all λo=>ke 15 o.dst)=qR:=ol
def n7:(o7.all λo=>ke 15 o.dst)=qR:=ol
def zsL:∃fs,Tryz.prog.underlying 128=Z (.struct fs):=by have⟨_,_,⟨fs,h,_⟩,_⟩:=(BG 128 ⟨.w1 .i,.st 0,8⟩ ol).2.2.2;exact⟨fs,h⟩
def zbR{l:N Wd}{d:V Wn}{a:Op}{g:V (K×uS)}(h:PZ l=[(d,a,g)]):∃o,l=[o]/\o.dst=d/\o.op=a/\o.guard=g:=by unfold PZ at h;obtain _|⟨o,_|⟨_,_⟩⟩:=l<;>simp only[xbT,xdX,xec,xcR,eX,WT,and_false]at h;exact⟨o,O,h.1,h.2.1,h.2.2⟩
def zpR{l:N Wd}{d d2 d3:V Wn}{e b c:Op}{g f i:V (K×uS)}(h:PZ l=[(d,e,g),(d2,b,f),(d3,c,i)]):∃o o2 a,l=[o,o2,a]/\(o.dst=d/\o.op=e/\o.guard=g)/\(o2.dst=d2/\o2.op=b/\o2.guard=f)/\a.dst=d3/\a.op=c/\a.guard=i:=by unfold PZ at h;obtain _|⟨o,_|⟨o2,_|⟨a,_|⟨_,_⟩⟩⟩⟩:=l<;>simp only[xbT,xdX,xec,xcR,eX,WT,and_false]at h;exact⟨o,o2,a,O,h.1,h.2.1,h.2.2⟩
def zrr:Tryz.prog.underlying 20=Z (.interface<|Tryz.prog.methodsAt 20):=ol
def wu{a:Z5 Wd}{H:xr}{o:Wd}(h:o.guard=wW):xb a H o=qR:=by unfold xb;rw[h]
section
variable{we:jP}{Se:wP->Prop}{F:wF MF}{G:wF FF}{H:xr}
abbrev QT(we:jP)(Se:K->Prop)(F:N MF)(G:N FF):Qs:=λe _ w=>e=.normal/\St we Se F G w
def zfU(d:H 5=.nilIface):T Tryz.prog (Nd.of 15) we Se F G (.block 0 (.seq (.region 3 (ro t3).toArray I) (.cond (.tmp 7) (cT tc) (.seq (.region 5 (ro t5).toArray I) (.cond (.tmp 9) t67<|cF tc2))))) (QT we Se F G) H:=by refine zcX<|Bm ?_;have⟨o,hl,hd,b,c⟩:=zbR k3;rw[hl];refine VI<|oQ (wu c) (by rw[hd];rfl) λw a=>uF.of_value (v:=.bool qR) (w':=w) ?_ ?_;simp[uT,b,ev,d,V9,run_eql_nil_nil (w:=w) 20 zrr];refine NB ?_ w a;rw[hd];refine gU O ?_;rw[k4];have⟨o,hl,hd,b,c⟩:=zbR k4';rw[hl];refine VI<|oQ (wu c) (by rw[hd];rfl) λw a=>uF.of_value (w':=w) (by simp[uT,b];rfl) ?_;exact AO (λw a=>⟨O,a⟩) w a
def zoO{v:jp}{E:ut}{x z:J}(h0:H 0=v)(n:Qp x)(A:H 10=.agg #[.int .i64 x]){w:jP}(q:St we Se (mP (Ty.i).rep.c E v z::F) G w):Wp Tryz.prog (Nd.of 15) t67 (QT we Se (mP (Ty.i).rep.c E v x::F) G) H w:=by
 have r:∀s∈cfT.cs,y8 Tryz.prog s:=λ_ h=>kW h H1;have t:Bp Tryz.prog cfT:=.of GY O;have⟨b,hv,_⟩:=q.openP 0 O;have B:u7 Tryz.prog ⟨we,Se,F,G⟩ cx1 ⟨1,[(10,0,.d (.w1 .i) x)],[(0,.var .i E z)]⟩ H w:=by refine⟨⟨λe j=>(by obtain rfl:=xaf.1 j;exact xdp),λ_ h=>kW h H1,λe j o k=>(by obtain rfl:=xaf.1 j;cases k),λe j o k=>(by obtain rfl:=xaf.1 j;cases k;exact xdp)⟩,λ_=>v,?_⟩;refine q.weak λS w l=>⟨?_,?_,l⟩;show(fV (eW eI) x<|H 10).p S w;rw[A];exact⟨[.int .i64 x],O,O,n.1,n.2⟩;exact⟨h0,b,hv⟩
 rw[k67];intro a h1 C D;refine iI<|WL (Fu (N:=Nd.of 15) (Q:=λe H w=>e=.normal/\Wp Tryz.prog (Nd.of 15) (.region 7 o7.toArray I) (QT we Se (mP (Ty.i).rep.c E v x::F) G) H w) Dw BG Fi r t (λ_ _ h=>by cases h) (λK L u w1 M hi=>⟨O,?_⟩) n6 (zpX x z E) B a h1 C D) ?_;refine Fu (N:=Nd.of 15) Dw BG Fi r t (λ_ _ h=>by cases h) (λg hd f P R hl=>⟨O,?_⟩) n7 L hi;unfold kE at hd;split at hd;rename_i E' y k;cases hd;have⟨hB,vs,T⟩:=hl;have hc:St we Se ([mP (Ty.i).rep.c E (vs 0) x]++(MS vs (yI g.ob 0)++F)) (RS Tryz.prog vs f g.rg++(RS Tryz.prog vs f cx1.rg++G)) P:=ji k T;have⟨S,_,m⟩:=hc.ex;have e1:f 0=vs 0:=(zD.left<|zD.right (Γ:=RS Tryz.prog vs f g.rg) m).1.1;have U:f 0=v:=((R _<|xaf.2 O).trans<|M _<|xaf.2 O).trans h0;rw[<-e1,U]at hc;exact(St.dropM hc).weak λS w l=>zD.right<|zD.right l
 cases hd
 rintro e V w' ⟨q1,q2,rfl,Y⟩;exact Y V q1 q2 O
def zh3{v:jp}{E:ut}{x z:J}(h0:H 0=v)(j:Qp x)(d:H 5=.iface 128 (.agg #[.int .i64 x])):T Tryz.prog (Nd.of 15) we Se (mP (Ty.i).rep.c E v z::F) G (.block 0 (.seq (.region 3 (ro t3).toArray I) (.cond (.tmp 7) (cT tc) (.seq (.region 5 (ro t5).toArray I) (.cond (.tmp 9) t67<|cF tc2))))) (QT we Se (mP (Ty.i).rep.c E v x::F) G) H:=by refine zcX<|Bm ?_;have⟨o,hl,hd,k,l⟩:=zbR k3;rw[hl];refine VI<|oQ (wu l) (by rw[hd];rfl) λw b=>uF.of_value (v:=.bool I) (w':=w) ?_ ?_;simp[uT,k,ev,d,V9,run_eql_held_nil (w:=w) 20 128 _ zrr];refine NB ?_ w b;rw[hd];refine oJ O<|Bm ?_;have⟨o1,o2,A,hl,⟨f,hc,m⟩,⟨g,n,hn⟩,hi,p,q⟩:=zpR k5;have⟨fs,r⟩:=zsL;rw[hl];have s:put H (Z 7) (.bool I) 5=.iface 128 (.agg #[.int .i64 x]):=d;refine VI<|oQ (wu m) (by rw[f];rfl) λw b=>uF.of_value (v:=.tuple #[.agg #[.int .i64 x],.bool qR]) (w':=w) (by simp[uT,hc,ev,s,Instr.typeAssert,Z3 r]) ?_;rw[f];refine oQ (wu hn) (by rw[g];rfl) (λw b=>uF.of_value (v:=.bool qR) (w':=w) (by simp[uT,n,ev,Instr.extract,put,L]) ?_) w b;rw[g];have t:put (put (put H (Z 7) (.bool I)) (Z 8) (.tuple #[.agg #[.int .i64 x],.bool qR])) (Z 9) (.bool qR) 8=.tuple #[.agg #[.int .i64 x],.bool qR]:=O;refine oQ (wu q) (by rw[hi];rfl) (λw b=>uF.of_value (v:=.agg #[.int .i64 x]) (w':=w) (by simp[uT,p,ev,t,Instr.extract]) ?_) w b;rw[hi];refine NB ?_ w b;refine gU O ?_;intro w b a h1 u h;refine WL (zoO (H:=yf a) (by rw[h];exact h0) j (by rw[h];rfl) b a h1 u O) ?_;rintro e B w' ⟨q1,q2,rfl,y⟩;exact⟨q1,q2,O,y⟩
end
def PE{o:Wd}(b:o.op=.call ⟨.builtin .recover,#[],#[]⟩)(a:QR)(w:jP):(uT a.eval o).run Tryz.prog w=.ok .recover w:=by simp[uT,b,WR,V3,am]
def OO{v y:jp}{a:QR}(b:a=(⟨#[v]++xdl (15- #[v].size) XS,[]⟩:QR).put (Z 5) y):a.tmps.size=15/\a.defers=[]/\yf a 5=y/\yf a 0=v:=by subst b;refine⟨by simp[Act.put],O,?_,?_⟩;simp[Act.put,yf];simp[Act.put,yf]
def fE:HOK Tryz.prog 57 128:=by
 have hn:Tryz.f57.ntmps=15:=ol
 have p:Tryz.f57.results= #[]:=ol
 have j:∀(a:QR) (w:jP),(V6 Tryz.f57 a.tmps).run Tryz.prog w=.ok (.tuple #[]) w:=λa w=>by simp[V6]
 have⟨o,hl,hd,hi,k⟩:=zbR k0;refine⟨ol,λv we Se F G w d=> ?_,λv E z x we Se F G w l d=> ?_⟩;refine lM (n:=0) Tryz.func57 zmO ul λb cs c=>wpSIn_seq ?_;rw[hl];refine wpSIn_region ?_;have hc:pL (b::cs)=wW:=by simp[pL,c]
 show dL _ _ _ [o].toArray _ [0] _ _ _;unfold dL;simp only[xfE,xbE];refine⟨λ_ _=>ul,?_⟩;rw[iq (by simp[Region.wanted,k]),PE hi];simp only[hc,hd,hn];unfold dL;generalize f:Act.put _ _ _=a;have⟨h1,g,h,h0⟩:=OO f.symm;refine wpSIn_of_wpIn O ?_;refine WL (zfU (F:=F) (G:=G) (we:=we) (Se:=Se) (H:=yf a) h w d a h1 g O) ?_;rintro e m w' ⟨q1,q2,rfl,i⟩;exact⟨q2,_,by rw[<-c],_,j _ _,⟨_,O⟩,O,i⟩;refine lM (n:=0) Tryz.func57 zmO ul λb cs c=>wpSIn_seq ?_;rw[hl];refine wpSIn_region ?_;have hc:pL (b::cs)=Z (.iface 128 (.agg #[.int .i64 x]),{b with mode:=.panicking [{v:=.iface 128 (.agg #[.int .i64 x]),recovered:=qR}]}::cs):=by simp[pL,c,ru]
 show dL _ _ _ [o].toArray _ [0] _ _ _;unfold dL;simp only[xfE,xbE];refine⟨λ_ _=>ul,?_⟩;rw[iq (by simp[Region.wanted,k]),PE hi];simp only[hc,hd,hn];unfold dL;generalize f:Act.put _ _ _=a;have⟨h1,g,h,h0⟩:=OO f.symm;refine wpSIn_of_wpIn O ?_;refine WL (zh3 (F:=F) (G:=G) (we:=we) (Se:=Se) (H:=yf a) (v:=v) h0 l h w d a h1 g O) ?_;rintro e m w' ⟨q1,q2,rfl,i⟩;exact⟨q2,_,O,_,j _ _,⟨_,O⟩,O,i⟩
end
section
set_option maxRecDepth 100000
section
open Go.Proofs.Tryz
variable(fu:wP)
def pQ:yz ⟨97,[.d zT,.d zT],[.d .b],vv2 (X8 fu),0⟩:=sq fu (f9 [(4,⟨⟨[(5,.d .i)],[]⟩,⟨[],[(.x 0,⟨[],[]⟩),(.r,⟨[],[(4,.kb I)]⟩)]⟩⟩)]) func97<|cN
def Nt:yz ⟨86,[.d zu,.d zu],[.d .b],vv2 (Jq fu),0⟩:=f8 fu wG func86<|ee1 pQ
def Me:yz ⟨50,[.d d8,.d d8],[.d .b],vv2 (Ju fu),0⟩:=f8 fu wG func50<|ee2 pQ Nt
def L5:yz ⟨23,[.d d9,.d d9],[.d .b],vv2 (JF fu),0⟩:=f8 fu (f9 [(4,⟨⟨[(5,.d .i)],[]⟩,⟨[],[(.x 0,⟨[],[]⟩),(.r,⟨[],[(4,.kb I)]⟩)]⟩⟩)]) func23<|ee1 Me
def NW:yz ⟨63,[.d (.l d9),.d (.l d9)],[.d .b],vv2 (Jz fu),0⟩:=f8 fu (f9 [(4,⟨⟨[(5,.d .i)],[]⟩,⟨[],[(.x 0,⟨[],[]⟩),(.r,⟨[],[(4,.kb I)]⟩)]⟩⟩)]) func63<|ee1 L5
def pB:yz ⟨18,[.d (.l d9),.d (.l d9)],[.d .b],vv2 (yD fu),0⟩:=f8 fu wG func18<|ee1 NW
def Fw:yz ⟨184,[.d zT,.d .i],[.d .u],vv2 (Qn fu),0⟩:=sq fu wG func184<|cN
def Pa:yz ⟨183,[.d .i,.d .u,.q zT,.q zT],[.d .u,.d .u],vv4 (gD fu),0⟩:=f8 fu wG func183<|ee1 Fw
def YH:yz ⟨182,[.d .i,.fn [.i,.u] [.u,.u]],[.own .u 73,.d .u],λx=>qJ fu x.1<|λz0 a=>x.2.1 (z0,a,()),0⟩:=sq fu (f9 [(4,q1 [(7,.d .u),(13,.d .i),(6,.own .u 73)] 0 [(7,.d .u),(6,.own .u 73)])]) func182<|cN
def vR:yz ⟨136,[.d zT],[.d zT],vv1 (vd fu),0⟩:=sq fu (f9 [(1,q1 [(0,.d zT)] 0 [(0,.d zT)])]) func136<|cN
def xE:yz ⟨136,[.own .u 73],[.own .u 73],vv1 (xD fu),0⟩:=sq fu (f9 [(1,q1 [(0,.own .u 73)] 0 [(0,.own .u 73)])]) func136<|cN
def tU:yz ⟨139,[.d zT,.d zT],[.own .u 73],vv2 (ZW fu),0⟩:=f8 fu wG func139<|ee4 xE vR YH Pa
def BF:yz ⟨234,[.d .i],[.d .b],vv1 (YQ fu),0⟩:=sq fu wG func234<|cN
def pV:yz ⟨195,[.d .i,.d .i],[.d .i],vv2 (Zl fu),0⟩:=f8 fu wG func195<|ee1 BF
def oi:yz ⟨235,[.d .u],[.d .b],vv1 (uz fu),0⟩:=sq fu wG func235<|cN
def dC:yz ⟨196,[.d .u,.d .u],[.d .i],vv2 (jC fu),0⟩:=f8 fu wG func196<|ee1 oi
def IX:yz ⟨160,[.d zT,.d zT],[.d .i],vv2 (JI fu),0⟩:=f8 fu (f9 [(5,⟨⟨[(5,.d .i)],[]⟩,⟨[],[(.x 0,⟨[],[]⟩),(.r,⟨[(4,.d .i)],[]⟩)]⟩⟩)]) func160<|ee4 xE vR pV dC
set_option maxRecDepth 100000 in
set_option maxHeartbeats 1000000 in
def QM(l:N K)(v0:jp)(c:X l<=17592186044416):Fn Tryz.prog 190 [v0].toArray [fV (eS eU) (l) v0] (λu:jp=>u) (λu=>[fV (eS eU) (l) u]) (λ_=>Ws):=by refine zg1 func190 O O λwe Se rest=> ?_;refine zgF (λS w h=>zpn h.1) λhc=> ?_;refine zgF (λS w h=>zhM h.1) λhd=> ?_;refine Bm ?_;refine VI ?_;refine HH 1 [(0,v0)] O λrest=> ?_;refine AO ?_;refine Bm ?_;refine Bm ?_;refine VI ?_;refine HH 1 [(0,v0),(3,v0)] O λrest=> ?_;refine zjJ O O (zle (e:=eU) (xs:=l) Tryz.underlying42 O O<|λS w h=>h.1) λq1 d=> ?_;refine HH 0 [(0,v0),(4,.bool<|q1)] O λrest=> ?_;refine AO ?_;refine znA (q1) O (λb=> ?_)<|λb=> ?_;refine Bm ?_;refine VI ?_;refine HH 1 [(2,.slice wW 0 0)] O λrest=> ?_;refine AO ?_;refine zlY ?_;exact zqC (.slice wW 0 0:jp) Tryz.results190 O ul<|λS w h=>⟨(cvt (show([])=(l)from by first|rfl|simp_all) zf9),ul⟩;refine znD ?_;refine Bm ?_;refine VI ?_;refine zhW (e:=eU) O O Tryz.underlying42 zrw λv1=> ?_;refine HH 1 [(5,v1),(6,v0)] O λrest=> ?_;refine zdZ (e:=eU) (xs:=[]) (ys:=l) 0 O O Tryz.underlying42 zrw O m6 O O O (λS w h=>h.1) (by first|lia|(simp only[xbR,xau,xaF,xaw,xan,xcn];lia)|(simp;lia)) (by first|lia|(simp only[xbR,xau,xaF,xaw,xan,xcn];lia)|(simp;lia)) λa=> ?_;show TL _ _ _ _ [mO eU 73 a<|[]++l] _ _ _ _ _;refine HH 1 [(2,a)] O λrest=> ?_;refine AO ?_;refine zlY ?_;refine zdR (λw h=>Mc 0 h O) ?_;exact zqC a Tryz.results190 O ul<|λS w h=>⟨(cvt (show([]++l)=(l)from by first|rfl|simp_all) h.1),ul⟩
def Qq(a0:N K)(a:jp)(r0:N K)(b:wz fu a0=Z r0):Fn Tryz.prog 190 [a].toArray [fV (eS eU) (a0) a] (λu:jp=>u) (λu=>[fV (eS eU) (r0) u]) (λ_=>Ws):=by have⟨c,b⟩:=Ya b;obtain rfl:=zs5 b;exact QM a0 a c
def QL:yz ⟨190,[.d zT],[.d zT],λx=>wz fu x.1,0⟩:=znH (s:=zT) (t:=zT) ol λx r v h=>Qq fu x v r h
def n5:yz ⟨157,[.d zT],[.d zT],vv1 (Y3 fu),0⟩:=f8 fu wG func157<|ee3 xE vR QL
def SA:yz ⟨264,[.d .i,.d .u,.q zT,.q .i],[.d .u,.d .u],vv4 (gx fu),0⟩:=sq fu wG func264<|cN
def Bk:yz ⟨140,[.d zT,.d .i],[.own .u 73],vv2 (Xo fu),0⟩:=sq fu wG func140<|cN
def tz:yz ⟨218,[.d zT,.d .i],[.own .u 73,.d .i],vv2 (WX fu),0⟩:=f8 fu ⟨[],[],[],[(4,[23])],[],[],[]⟩ func218<|ee5 SA Bk xE vR YH
def Pq:yz ⟨265,[.d .i,.d .u,.q zT,.q .i],[.d .u,.d .u],vv4 (dG fu),0⟩:=f8 fu wG func265<|ee1 Fw
def Hr:yz ⟨220,[.d zT,.d .i],[.own .u 73],vv2 (ax fu),0⟩:=f8 fu ⟨[2,3],[],[],[],[],[],[]⟩ func220<|ee4 xE vR Pq YH
def XG:yz ⟨263,[.d .u],[.d .i],vv1 (vX fu),0⟩:=sq fu (i7 [(131077,⟨[],[(.n,⟨[(0,.d .u),(2,.d .i)],[]⟩)]⟩),(327688,⟨[],[(.n,⟨[(0,.d .u),(2,.d .i)],[]⟩)]⟩)] []) func263<|cN
def Zt:yz ⟨217,[.d .u],[.d .i],vv1 (xL fu),0⟩:=f8 fu wG func217<|ee1 XG
def Uo:yz ⟨197,[.d .u,.d .u,.d .u],[.d .u,.d .u],vv3 (jE fu),0⟩:=f8 fu (f9 [(17,q1 [(15,.d .u),(16,.d .u)] 0 [(15,.d .u)]),(24,q1 [(16,.d .u),(18,.d .u)] 2 [(18,.d .u)])]) func197<|ee1 Zt
def KT:yz ⟨224,[.d .u,.d .u],[.d .u,.d .u],vv2 (jv fu),0⟩:=sq fu wG func224<|cN
def SN:yz ⟨219,[.d .u,.d .u,.d .u,.d .u,.d .u],[.d .u],vv5 (Uf fu),0⟩:=f8 fu (f9 [(4,⟨⟨[(11,.d .u),(12,.d .u)],[]⟩,⟨[],[(.r,⟨[(10,.d .u)],[]⟩)]⟩⟩)]) func219<|ee2 KT Uo
def S6:yz ⟨225,[.d .i,.d .u,.q zT,.q zT],[.d .u,.d .u],vv4 (gj fu),0⟩:=f8 fu wG func225<|ee1 Fw
def Al:yz ⟨181,[.d zT,.d zT],[.own .u 73,.d .i],vv2 (JO fu),0⟩:=f8 fu wG func181<|ee4 xE vR S6 YH
def Ed:yz ⟨138,[.d zT,.d zT],[.own .u 73],vv2 (Ve fu),0⟩:=f8 fu wG func138<|ee1 Al
def Rj:yz ⟨223,[.d .i,.d .u,.q zT,.q .u],[.d .u,.d .u],vv4 (gQ fu),0⟩:=f8 fu wG func223<|ee1 KT
def Iu:yz ⟨179,[.d zT,.d .u],[.own .u 73],vv2 (JJ fu),0⟩:=f8 fu wG func179<|ee2 YH Rj
def R3:yz ⟨161,[.d zT,.d .u],[.own .u 73,.d .u],vv2 (KE fu),0⟩:=f8 fu (f9 [(3,q1 [(7,.d .u),(8,.d .i),(6,.own .u 73)] 0 [(7,.d .u),(6,.own .u 73)])]) func161<|ee3 xE vR Uo
def HF:yz ⟨173,[.d zT,.d zT],[.own .u 73,.d zT,.d .i],vv2 (az fu),0⟩:=f8 fu ⟨[],[(196612,⟨[],[(.n,⟨[(23,.d .b)],[]⟩)]⟩),(327686,⟨[],[(.n,⟨[(27,.d .b)],[]⟩)]⟩)],[(16,q1 [(10,.d zT),(16,.d .i),(12,.own .u 73),(15,.own .u 73)] 1 [(12,.own .u 73),(15,.own .u 73)]),(20,⟨⟨[(9,.d .i),(14,.d .i),(17,.d .u),(18,.d zT)],[]⟩,⟨[12,15],[(.x 3,⟨[(9,.d .i),(14,.d .i),(17,.d .u),(18,.d zT)],[]⟩)]⟩⟩)],[(23,[149])],[129],[],[]⟩ func173<|e11 IX R3 xE vR Ed Iu Zt tz SN Hr n5
def jq:yz ⟨108,[.d .b,.d zT],[.d zu],vv2 (xt fu),0⟩:=f8 fu wG func108<|ee1 n5
def nX:yz ⟨141,[.d zu,.d zu],[.d zu,.d zu,.d .i],vv2 (Wv fu),0⟩:=f8 fu (i7 [(327688,⟨[4,5],[(.n,⟨[(7,.own .u 73),(8,.d zT)],[]⟩)]⟩)] []) func141<|ee4 tU jq HF Al
def Xf:yz ⟨135,[.d zu],[.d zu],vv1 (qD fu),0⟩:=f8 fu wG func135<|ee1 jq
def qF:yz ⟨98,[.d zu],[.d .i],vv1 (xO fu),0⟩:=f8 fu ⟨[1],[],[],[],[],[],[]⟩ func98<|ee1 Xf
def XU:yz ⟨91,[.d zu,.d zu],[.d zu,.d .i],vv2 (qq fu),0⟩:=f8 fu (i7 [(196612,⟨[4,6,7],[(.n,⟨[(16,.d .b)],[]⟩)]⟩)] []) func91<|ee2 qF nX
def nN:yz ⟨130,[.d zu,.d zu],[.d zu],vv2 (WM fu),0⟩:=f8 fu (f9 [(2,⟨⟨[(5,.d zT),(6,.d zT)],[]⟩,⟨[4],[(.x 0,⟨[(5,.d zT)],[]⟩)]⟩⟩)]) func130<|ee3 jq n5 HF
def b5:yz ⟨131,[.d zu],[.d zu],vv1 (Zq fu),0⟩:=f8 fu wG func131<|ee1 jq
def oh:yz ⟨83,[.d zu,.d zu],[.d d8,.d .i],vv2 (W9 fu),0⟩:=f8 fu wG func83<|ee4 qF XU b5 nN
def MR:yz ⟨137,[.d zT,.d zT],[.own .u 73],vv2 (Q7 fu),0⟩:=f8 fu (i7 [(262149,⟨[5],[(.n,⟨[(0,.d zT),(18,.d zT),(19,.d .i),(21,.d .b)],[]⟩)]⟩),(524297,⟨[5,27],[(.n,⟨[(0,.d zT),(6,.d .i),(18,.d zT),(19,.d .i),(20,.d .i),(28,.d .i),(30,.d .b)],[]⟩)]⟩)] [(3,q1 [(20,.d .i),(5,.own .u 73)] 0 [(5,.own .u 73)]),(7,q1 [(8,.d .u),(29,.d .i),(5,.own .u 73),(27,.own .u 73)] 2 [(5,.own .u 73)])]) func137<|ee3 xE vR Iu
def zeD:Wk:=⟨90,[.d zT,.d zT],[.own .u 73],λx=>Yk fu x.1 x.2.1,0⟩
def ig:∀fu:K,yz (zeD fu)
 |0=>sg0 ol λ_=>O
 |fu+1=>sq fu wG func90<|cC (xE fu)<|cC (vR fu)<|cC (MR fu)<|cC (Ed fu)<|cC (tU fu)<|cC (Bk fu)<|cC (ig fu)<|cN
def xB:yz ⟨92,[.d zu,.d zu],[.d zu],vv2 (zQ fu),0⟩:=f8 fu wG func92<|ee2 ig jq
def Zn:yz ⟨194,[.d zu,.d zu],[.d zu],vv2 (qh fu),0⟩:=f8 fu ⟨[2,3],[(262150,⟨[4],[(.n,⟨[(2,.var zu 44),(3,.var zu 44)],[]⟩)]⟩)],[],[],[],[],[]⟩ func194<|ee4 IX tU jq Al
def WZ:yz ⟨193,[.d zu,.d zu],[.d zu],vv2 (qP fu),0⟩:=f8 fu wG func193<|ee2 Zn b5
def FB:yz ⟨134,[.d .i,.d zu],[.d zu],vv2 (JZ fu),0⟩:=f8 fu wG func134<|ee1 Xf
def xF:yz ⟨127,[.d yT,.fn [.i,zu] [zu]],[.own zu 44],λx=>zL fu x.1<|λz0 a=>x.2.1 (z0,a,()),0⟩:=sq fu (i7 [(262149,⟨[5],[(.n,⟨[(11,.d yT),(12,.d .i),(14,.d .b)],[]⟩)]⟩)] [(3,q1 [(13,.d .i),(5,.own zu 44)] 0 [(5,.own zu 44)])]) func127<|cN
def xA:yz ⟨88,[.d yT],[.own zu 44],vv1 (zX fu),0⟩:=f8 fu (f9 [(1,q1 [(0,.d yT)] 0 [(0,.d yT)])]) func88<|ee3 qF FB xF
def fh:Wk:=⟨216,[.d yT,.d yT],[.own zu 44,.d .i],λx=>wK fu x.1 x.2.1,0⟩
def KG:yz (fh fu):=f8 fu ⟨[],[(327687,⟨[1,6],[(.n,⟨[],[]⟩),(.r,⟨[],[(4,.nil),(5,.ci 4)]⟩)]⟩),(1048593,⟨[1,6,7,9],[(.n,⟨[(8,.d .i),(71,.d .i),(73,.d .b)],[]⟩)]⟩)],[(8,⟨⟨[(8,.d .i),(1,.own zu 44),(6,.own zu 44),(7,.own zu 44)],[]⟩,⟨[],[(.x 0,⟨[(6,.own zu 44),(7,.own zu 44)],[]⟩),(.r,⟨[(5,.d .i)],[(4,.nil)]⟩)]⟩⟩),(15,⟨⟨[(72,.d .i),(1,.own zu 44),(6,.own zu 44),(7,.own zu 44),(9,.var zu 44)],[(70,.al 1)]⟩,⟨[],[(.x 2,⟨[(1,.own zu 44),(6,.own zu 44),(7,.own zu 44)],[]⟩)]⟩⟩)],[(10,[])],[],[],[]⟩ func216<|ee4 xA WZ XU xB
def Ns:yz ⟨172,[.d yT,.d yT],[.d .i],vv2 (XE fu),0⟩:=f8 fu (f9 [(3,q1 [(5,.d .i),(6,.own zu 44),(7,.d .i)] 0 [(5,.d .i)])]) func172<|ee1 KG
def J5:yz ⟨247,[.d .i],[.d .b],vv1 (Zw fu),0⟩:=sq fu (i7 [(131075,⟨[],[(.n,⟨[(3,.d .b)],[]⟩)]⟩)] [(3,q1 [(3,.d .b),(4,.d .i)] 0 [(3,.d .b)])]) func247<|cN
def xI:yz ⟨65,[.d .i],[.d zu],vv1 (yr fu),0⟩:=f8 fu wG func65<|ee1 jq
def bL:yz ⟨241,[.d zT],[.d .i],vv1 (ZO fu),0⟩:=f8 fu wG func241<|ee3 xE vR XG
def zbs:yz ⟨248,[.d zu,.d .i],[.d zu,.d .i],vv2 (bZ fu),0⟩:=f8 fu (i7 [(131075,⟨[4],[(.n,⟨[(8,.d .b)],[]⟩)]⟩)] [(7,⟨⟨[(1,.d .i),(7,.var zu 44),(6,.var zu 44)],[]⟩,⟨[4],[(.x 1,⟨[(6,.var zu 44)],[]⟩)]⟩⟩)]) func248<|ee4 xI bL xB Xf
def Kv:yz ⟨210,[.d .i,.d .i],[.d zu,.d .i],vv2 (ja fu),0⟩:=f8 fu wG func210<|ee3 zbs xI J5
def gP:yz ⟨339,[.d yT,.d zu,.fn [zu,zu] [zu,.i]],[.own zu 44,.d .i],λx=>qZ fu x.1 x.2.1<|λz0 a=>x.2.2.1 (z0,a,()),0⟩:=f8 fu (i7 [(393223,⟨[8],[(.n,⟨[(4,.q zu),(17,.d yT),(18,.d .i),(20,.d .b)],[]⟩)]⟩)] [(5,q1 [(19,.d .i),(8,.own zu 44)] 0 [(8,.own zu 44)])]) func339<|ee2 xA qF
def Jd:yz ⟨315,[.d zu,.d zu],[.d zu,.d .i],vv2 (jD fu),0⟩:=f8 fu wG func315<|ee2 qF nX
def oH:yz ⟨298,[.d yT,.d zu],[.own zu 44,.d .i],vv2 (XQ fu),0⟩:=f8 fu wG func298<|ee2 Jd gP
def JC:yz ⟨256,[.d yT,.d zu],[.own zu 44],vv2 (xv fu),0⟩:=f8 fu wG func256<|ee1 oH
def jM:yz ⟨287,[.d .i],[.d .i],vv1 (vy fu),0⟩:=f8 fu wG func287<|ee1 J5
def gm:yz ⟨319,[.d .i,.d .i],[.d .i],vv2 (ZM fu),0⟩:=sq fu wG func319<|cN
def DM:Wk:=⟨331,[.d .i,.d .i],[.d .i,.d .i],λx=>VF fu x.1 x.2.1,0⟩
def Dy:yz (DM fu):=f8 fu (f9 [(5,⟨⟨[(7,.d .i),(8,.d .i),(9,.d .i),(10,.d .i)],[]⟩,⟨[],[(.x 0,⟨[(10,.d .i)],[]⟩),(.r,⟨[],[(4,.ci 0),(5,.ci 3)]⟩)]⟩⟩)]) func331<|ee2 gm jM
def wj:yz ⟨288,[.d xm,.d .i],[.own .i 3],vv2 (yp fu),0⟩:=f8 fu (f9 [(3,q1 [(13,.d .i),(5,.own .i 3)] 0 [(5,.own .i 3)]),(7,q1 [(5,.own .i 3)] 2 [(5,.own .i 3)])]) func288<|ee1 gm
def QC:yz ⟨289,[.d xm,.d xm,.d .i],[.own .i 3,.own .i 3],vv3 (xR fu),0⟩:=f8 fu (i7 [(851982,⟨[8,12],[(.n,⟨[(9,.d .i),(13,.d .i),(61,.d xm),(62,.d .i),(64,.d .b)],[]⟩)]⟩)] [(7,q1 [(9,.d .i),(8,.own .i 3),(12,.own .i 3)] 0 [(8,.own .i 3),(12,.own .i 3)]),(12,q1 [(1,.d xm),(2,.d .i),(10,.d .i),(63,.d .i),(8,.own .i 3),(12,.own .i 3)] 2 [(1,.d xm),(2,.d .i),(10,.d .i),(8,.own .i 3),(12,.own .i 3)])]) func289<|ee2 wj Dy
def YP:yz ⟨332,[.d xm,.d xm,.d .i],[.own .i 3],vv3 (vc fu),0⟩:=f8 fu (i7 [(262149,⟨[7],[(.n,⟨[(1,.d xm),(2,.d .i),(18,.d xm),(19,.d .i),(21,.d .b)],[]⟩)]⟩),(458760,⟨[7],[(.n,⟨[(1,.d xm),(2,.d .i),(8,.d .i),(9,.d .i),(18,.d xm),(19,.d .i),(20,.d .i),(25,.d xm),(26,.d .i),(28,.d .b)],[]⟩)]⟩)] [(3,q1 [(20,.d .i),(7,.own .i 3)] 0 [(7,.own .i 3)]),(6,q1 [(27,.d .i),(7,.own .i 3)] 2 [(7,.own .i 3)])]) func332<|ee1 wj
def dH:yz ⟨369,[.d xm,.d xm,.d .i,.d .i],[.own .i 3],vv4 (Xa fu),0⟩:=f8 fu (i7 [(327686,⟨[9],[(.n,⟨[(2,.d .i),(3,.d .i),(21,.d xm),(22,.d .i),(24,.d .b)],[]⟩)]⟩)] [(4,q1 [(23,.d .i),(9,.own .i 3)] 0 [(9,.own .i 3)])]) func369<|ee1 wj
def MJ:yz ⟨335,[.d (.a 3 xm),.d (.a 3 xm),.d .i],[.d (.a 3 xm)],vv3 (X5 fu),0⟩:=f8 fu ⟨[3],[(262149,⟨[3,6],[(.n,⟨[(2,.d .i),(4,.q (.a 3 xm)),(20,.d .b)],[]⟩)]⟩)],[(3,⟨⟨[(7,.d xm),(19,.d .i),(3,.var (.a 3 xm) 301),(6,.var (.a 3 xm) 301)],[]⟩,⟨[8],[(.x 0,⟨[(3,.var (.a 3 xm) 301),(6,.var (.a 3 xm) 301)],[]⟩)]⟩⟩)],[],[],[],[]⟩ func335<|ee3 QC YP dH
def gZ:yz ⟨336,[.d xm,.d .i,.d .i],[.own .i 3],vv3 (qV fu),0⟩:=f8 fu wG func336<|ee2 Dy YP
def fX:yz ⟨296,[.d xm,.d xm,.d .i],[.d xm,.d xm,.d xm,.d .i],vv3 (ZN fu),0⟩:=f8 fu (i7 [(589834,⟨[11],[(.n,⟨[(44,.d .b)],[]⟩)]⟩)] [(5,q1 [(11,.var (.a 3 xm) 301),(12,.var (.a 3 xm) 301)] 0 [(11,.var (.a 3 xm) 301)]),(11,q1 [(51,.d .i),(11,.var (.a 3 xm) 301)] 2 [(11,.var (.a 3 xm) 301)])]) func296<|ee4 wj gZ MJ jM
def eC:yz ⟨291,[.d xm,.d xm,.d .i],[.d xm,.d .i],vv3 (kP fu),0⟩:=f8 fu wG func291<|ee1 fX
def Uh:yz ⟨292,[.d xm,.d xm,.d .i],[.own .i 3,.d .i],vv3 (kS fu),0⟩:=f8 fu wG func292<|ee3 wj YP jM
def Bg:yz ⟨333,[.d xm,.d xm,.d .i],[.own .i 3,.d .i],vv3 (VM fu),0⟩:=f8 fu wG func333<|ee3 wj dH jM
def Ev:yz ⟨294,[.d xm,.d xm,.d .i],[.d .b],vv3 (Wi fu),0⟩:=f8 fu wG func294<|ee1 Bg
def Ff:yz ⟨290,[.d xm,.d .i],[.d .b],vv2 (XK fu),0⟩:=sq fu (f9 [(2,⟨⟨[(9,.d .i)],[]⟩,⟨[],[(.x 0,⟨[],[]⟩),(.r,⟨[],[(4,.kb I)]⟩)]⟩⟩)]) func290<|cN
def aw:yz ⟨293,[.d (.l xm),.d .i],[.own .i 3],vv2 (qL fu),0⟩:=f8 fu (f9 [(3,q1 [(5,.own .i 3),(11,.d .i)] 0 [(5,.own .i 3)])]) func293<|ee1 Uh
def Mw:yz ⟨316,[.d zu],[.d .i,.d .b],vv1 (Jn fu),0⟩:=f8 fu ⟨[1],[(196612,⟨[1],[(.n,⟨[(6,.d .b)],[]⟩)]⟩),(327686,⟨[1],[(.n,⟨[(11,.d .b)],[]⟩)]⟩),(458760,⟨[1],[(.n,⟨[(16,.d .b)],[]⟩)]⟩)],[],[],[],[],[]⟩ func316<|ee1 Xf
def Te:yz ⟨274,[.d zu,.d .i],[.d .i,.d .i],vv2 (KF fu),0⟩:=f8 fu ⟨[],[],[],[(1,[])],[],[],[]⟩ func274<|ee3 xI Jd Mw
def Gq:yz ⟨273,[.d .i,.d zu,.q .i],[.d .i],vv3 (Vp fu),0⟩:=f8 fu wG func273<|ee1 Te
def Uz:yz ⟨272,[.d yT,.fn [.i,zu] [.i]],[.own .i 3],λx=>jN fu x.1<|λz0 a=>x.2.1 (z0,a,()),0⟩:=sq fu (i7 [(262149,⟨[5],[(.n,⟨[(11,.d yT),(12,.d .i),(14,.d .b)],[]⟩)]⟩)] [(3,q1 [(13,.d .i),(5,.own .i 3)] 0 [(5,.own .i 3)])]) func272<|cN
def VQ:yz ⟨244,[.d yT,.d .i],[.own .i 3,.d .i],vv2 (Zx fu),0⟩:=f8 fu (f9 [(4,q1 [(6,.own .i 3)] 0 [(6,.own .i 3)])]) func244<|ee2 Uz Gq
def Fx:yz ⟨254,[.d yT,.d (.l xm),.d .i],[.d .b],vv3 (vM fu),0⟩:=f8 fu (i7 [(393223,⟨[7],[(.n,⟨[(0,.d yT),(1,.d (.l xm)),(2,.d .i),(40,.d (.l xm)),(41,.d .i),(43,.d .b)],[]⟩)]⟩)] [(5,⟨⟨[(42,.d .i),(7,.own .i 3)],[]⟩,⟨[],[(.x 0,⟨[(7,.own .i 3)],[]⟩),(.r,⟨[],[(6,.kb I)]⟩)]⟩⟩),(10,⟨⟨[(62,.d .i)],[]⟩,⟨[7],[(.x 2,⟨[],[]⟩),(.r,⟨[],[(6,.kb I)]⟩)]⟩⟩)]) func254<|ee6 Ff eC Uh aw Ev VQ
def Ao:yz ⟨338,[.d yT,.d yT,.d zu],[.d yT,.own zu 44],vv3 (ki fu),0⟩:=f8 fu ⟨[],[(589834,⟨[8,9],[(.n,⟨[(10,.d .i),(47,.d yT),(48,.d .i),(50,.d .b)],[]⟩)]⟩)],[(4,q1 [(10,.d .i),(8,.own zu 44),(9,.own zu 44)] 0 [(8,.own zu 44),(9,.own zu 44)]),(8,q1 [(1,.d yT),(5,.q zu),(49,.d .i),(8,.own zu 44),(9,.own zu 44)] 2 [(1,.d yT),(5,.q zu),(8,.own zu 44),(9,.own zu 44)])],[(6,[])],[],[],[]⟩ func338<|ee4 JC WZ Jd xB
def Gp:yz ⟨312,[.d .i,.d zu,.q yT],[.d zu],vv3 (uR fu),0⟩:=f8 fu wG func312<|ee1 Zn
def A1:yz ⟨267,[.d yT,.d yT],[.own zu 44],vv2 (qG fu),0⟩:=f8 fu ⟨[3],[],[],[],[],[],[]⟩ func267<|ee3 Gp xA xF
def Bl:yz ⟨337,[.d yT,.d yT],[.own zu 44],vv2 (wQ fu),0⟩:=f8 fu (i7 [(262149,⟨[5],[(.n,⟨[(1,.d yT),(16,.d yT),(17,.d .i),(19,.d .b)],[]⟩)]⟩),(458760,⟨[5,7],[(.n,⟨[(1,.d yT),(6,.d .i),(16,.d yT),(17,.d .i),(18,.d .i),(23,.d yT),(24,.d .i),(26,.d .b)],[]⟩)]⟩)] [(3,q1 [(18,.d .i),(5,.own zu 44)] 0 [(5,.own zu 44)]),(6,q1 [(25,.d .i),(5,.own zu 44),(7,.var zu 44)] 2 [(5,.own zu 44)])]) func337<|ee3 xA Zn xB
def EW:yz ⟨149,[.d .i,.d .i],[.d zu],vv2 (XO fu),0⟩:=f8 fu wG func149<|ee1 xI
def UJ:yz ⟨148,[.d xm,.fn [.i,.i] [zu]],[.own zu 44],λx=>jJ fu x.1<|λz0 a=>x.2.1 (z0,a,()),0⟩:=sq fu (f9 [(3,q1 [(13,.d .i),(5,.own zu 44)] 0 [(5,.own zu 44)])]) func148<|cN
def p8:yz ⟨102,[.d xm],[.own zu 44],vv1 (jo fu),0⟩:=f8 fu wG func102<|ee3 xA UJ EW
def DF:yz ⟨56,[.d xm],[.own zu 44],vv1 (Kx fu),0⟩:=f8 fu wG func56<|ee1 p8
def BW:yz ⟨266,[.d .i,.d zu,.q zu],[.d zu],vv3 (Qt fu),0⟩:=f8 fu wG func266<|ee1 xB
def Vr:yz ⟨227,[.d yT,.d zu],[.own zu 44],vv2 (qA fu),0⟩:=f8 fu wG func227<|ee3 xA BW xF
def AZ:yz ⟨228,[.d yT,.d yT],[.own zu 44],vv2 (kT fu),0⟩:=f8 fu wG func228<|ee3 A1 xI Vr
def tn:yz ⟨297,[.d (.a 4 yT),.d yT,.d zu],[.d (.a 4 yT)],vv3 (kI fu),0⟩:=f8 fu wG func297<|ee6 JC AZ A1 Bl Ao DF
def AQ:yz ⟨370,[.d (.p zu (.p zu zu)),.d zu,.d (.p zu (.p zu zu))],[.d (.p zu (.p zu zu))],vv3 (Z8 fu),0⟩:=f8 fu wG func370<|ee2 WZ xB
def Gm:yz ⟨334,[.d zu,.d zu],[.d zu,.d zu,.d zu],vv2 (Vg fu),0⟩:=f8 fu ⟨[],[(393224,⟨[4,5,6],[(.n,⟨[(7,.var (.p zu (.p zu zu)) 335)],[]⟩)]⟩),(524298,⟨[4,5,6],[(.n,⟨[(7,.var (.p zu (.p zu zu)) 335)],[]⟩)]⟩)],[(2,⟨⟨[(7,.var (.p zu (.p zu zu)) 335),(8,.var (.p zu (.p zu zu)) 335)],[]⟩,⟨[4,5,6],[(.x 0,⟨[(7,.var (.p zu (.p zu zu)) 335)],[]⟩)]⟩⟩)],[(1,[]),(9,[])],[],[],[]⟩ func334<|ee6 xI qF b5 jq nX AQ
def Mf:yz ⟨295,[.d yT,.d zu],[.own zu 44],vv2 (JD fu),0⟩:=f8 fu ⟨[],[],[],[(1,[])],[],[],[]⟩ func295<|ee3 JC Vr Gm
def Gv:Wk:=⟨255,[.d yT,.d (.l xm),.d .i,.d .i,.d zu],[.own yT 22],λx=>qE fu x.1 x.2.1 x.2.2.1 x.2.2.2.1 x.2.2.2.2.1,0⟩
def mh:∀fu:K,yz (Gv fu)
 |0=>sg0 ol λ_=>O
 |fu+1=>sq fu ⟨[],[],[(10,q1 [(22,.d .i),(21,.var (.a 4 yT) 273)] 0 [(21,.var (.a 4 yT) 273)])],[(14,[])],[],[],[]⟩ func255<|cC (Uh fu)<|cC (aw fu)<|cC (p8 fu)<|cC (Mf fu)<|cC (fX fu)<|cC (tn fu)<|cC (Kv fu)<|cC (VQ fu)<|cC (mh fu)<|cN
def mF:yz ⟨212,[.d yT,.d (.l xm),.d .i,.d .i],[.own yT 22,.d .i],vv4 (jG fu),0⟩:=f8 fu wG func212<|ee5 JC Kv xA Fx mh
def NA:yz ⟨300,[.d yT,.d yT,.d zu],[.d yT,.d .i],vv3 (JG fu),0⟩:=f8 fu wG func300<|ee2 Bl oH
def JR:yz ⟨246,[.d zu,.d zu],[.d .i],vv2 (kX fu),0⟩:=f8 fu wG func246<|ee2 WZ qF
def ML:yz ⟨340,[.d zu,.d zu],[.d zu,.d .i],vv2 (XD fu),0⟩:=f8 fu wG func340<|ee4 WZ Zn Jd JR
def GL:yz ⟨301,[.d yT,.d zu],[.own zu 44,.d .i],vv2 (VB fu),0⟩:=f8 fu wG func301<|ee2 gP ML
def QI:yz ⟨126,[.d yT],[.d zu],vv1 (qe fu),0⟩:=f8 fu (i7 [(327686,⟨[0,2,3],[(.n,⟨[(10,.d .i),(12,.d .b)],[]⟩)]⟩)] [(4,⟨⟨[(11,.d .i),(0,.own zu 44),(2,.var zu 44),(3,.var zu 44)],[(9,.al 0)]⟩,⟨[],[(.x 0,⟨[(0,.own zu 44),(2,.var zu 44),(3,.var zu 44)],[]⟩)]⟩⟩)]) func126<|ee4 xA xI nN b5
def DC:yz ⟨128,[.d .i,.d zu,.q zu],[.d zu],vv3 (JY fu),0⟩:=f8 fu wG func128<|ee1 XU
def cj:Wk:=⟨81,[.d yT],[.own zu 44],λx=>wq fu x.1,0⟩
def ZV:yz (cj fu):=f8 fu wG func81<|ee4 xA DC QI xF
def Yn:Wk:=⟨258,[.d yT,.d tzQ,.own .i 3,.d zu],[.d yT,.own .i 3],λx=>jX fu x.1 x.2.1 x.2.2.1 x.2.2.2.1,1⟩
def lv:yz (Yn fu):=sgb (fu:=fu) ⟨[],[(262149,⟨[2],[(.n,⟨[(1,.d tzQ),(7,.q zu),(18,.d .i),(20,.d .b)],[]⟩)]⟩)],[(3,⟨⟨[(9,.d yT),(19,.d .i),(2,.own .i 3)],[(17,.al 2)]⟩,⟨[],[(.x 0,⟨[(9,.d yT),(2,.own .i 3)],[]⟩)]⟩⟩)],[],[],[],[]⟩ func258 (cC (ZV fu)<|cC (NA fu)<|cC (GL fu)<|cN) ol λa x=>by kernel_rfl
def W3:Ha:=⟨299,[.q .i,.q .i],.i,3,λx _ _ g x0=>vu fu x.1 x.2.1 g x0⟩
def anC:An:=⟨[],[],[(2,⟨⟨[(4,.own .i 3),(12,.d .i)],[]⟩,⟨[0],[(.x 0,⟨[(4,.own .i 3)],[]⟩)]⟩⟩),(8,⟨⟨[(6,.d .i)],[]⟩,⟨[0,4],[(.x 4,⟨[(6,.d .i)],[]⟩)]⟩⟩),(13,⟨⟨[(7,.d .i),(4,.own .i 3)],[]⟩,⟨[0],[(.x 6,⟨[(4,.own .i 3)],[]⟩)]⟩⟩)],[],[],[],[]⟩
def zmK:Wt->Wt|.seq a _=>a|c=>c
def HD:Wt->Wt|.seq _ b=>b|c=>c
def kIn:Wt->Wt|.block _ c=>c|.loop c=>c|c=>c
def Lj(f:V0):Wt:=match f.body with|some c=>c|none=> .skip
noncomputable def kA:Wt:=zmK<|Lj f299
noncomputable def kB:Wt:=zmK<|HD<|Lj f299
noncomputable def kC:Wt:=kIn<|kIn<|HD<|HD<|Lj f299
section
variable{X Y R:Type}{mX:X->jp->MF}{mY:Y->jp->MF}{g:wF wN->X->wS (wF wN×(X⊕Y))}{n all:wN}
def cfC:Cf:=⟨tt,[],anC,fu,ex,[],[],[],[]⟩
def S0(mX:X->jp->MF)(mY:Y->jp->MF)(g:N J->X->V (N J×(X⊕Y)))(n all:J)(x0:X):Sg:=⟨1,[(0,0,.yd 0),(1,0,.q .i n),(2,0,.q .i all)],[(0,.hid .i 3 X Y mX mY g x0)]⟩
def S1(mX:X->jp->MF)(mY:Y->jp->MF)(g:N J->X->V (N J×(X⊕Y)))(n all:J)(x0:X)(xs:N J):Sg:=⟨2,[(4,0,.ow 1),(9,0,.ow 1),(8,0,.d .i n),(0,0,.yd 0),(1,0,.q .i n),(2,0,.q .i all)],[(1,.own .i 3 xs),(0,.hid .i 3 X Y mX mY g x0)]⟩
def S2(mX:X->jp->MF)(mY:Y->jp->MF)(g:N J->X->V (N J×(X⊕Y)))(n all:J)(x0:X)(xs ys:N J):Sg:=⟨3,[(4,0,.ow 2),(4,0,.ow 2),(11,0,.d .i (A2 xs:J)),(8,0,.d .i n),(0,0,.yd 0),(1,0,.q .i n),(2,0,.q .i all)],[(2,.own .i 3 ys),(0,.hid .i 3 X Y mX mY g x0)]⟩
def Sn(mX:X->jp->MF)(mY:Y->jp->MF)(g:N J->X->V (N J×(X⊕Y)))(n all:J)(x:X)(xs:N J)(b a c y x0:J):Sg:=
 ⟨5,[(4,0,.ow 4),(4,0,.ow 4),(51,0,.d .i b),(50,0,.d .i a),(48,0,.d .i c),(47,0,.d .i y),(45,0,.d .i a),(43,0,.kb I),(42,0,.d .i a),(6,0,.d .i a),(6,0,.d .i a),(25,0,.d .i x0),(24,0,.d .i n),(23,0,.kb I),(22,0,.kb qR),(20,0,.yd 2),(0,0,.yd 2),(1,0,.q .i n),(2,0,.q .i all)],[(4,.own .i 3 xs),(2,.hid .i 3 X Y mX mY g x)]⟩
def Sr(mX:X->jp->MF)(mY:Y->jp->MF)(g:N J->X->V (N J×(X⊕Y)))(n all:J)(x:X)(x0 a:J)(xs:N J):Sg:=
 ⟨4,[(43,0,.kb qR),(42,0,.d .i a),(6,0,.d .i a),(6,0,.d .i a),(25,0,.d .i x0),(24,0,.d .i n),(23,0,.kb I),(22,0,.kb qR),(21,0,.ow 1),(20,0,.yd 2),(4,0,.ow 1),(0,0,.yd 2),(1,0,.q .i n),(2,0,.q .i all)],[(2,.hid .i 3 X Y mX mY g x),(1,.own .i 3 xs)]⟩
def Sy(mY:Y->jp->MF)(n all:J)(y:Y)(xs:N J):Sg:=
 ⟨3,[(23,0,.kb qR),(22,0,.kb I),(21,0,.ow 1),(20,0,.yd 2),(4,0,.ow 1),(0,0,.yd 2),(1,0,.q .i n),(2,0,.q .i all)],[(2,.hiy Y mY y),(1,.own .i 3 xs)]⟩
def zsR(x0:X)(K:Tg->Sg->V R):den (cfC fu) kA ⟨0,[],[]⟩ (S0 mX mY g n all x0) K=jT n λm=>ck (8*m<=281474976710656)<|B (So m 0) λxs=>K .n (S1 mX mY g n all x0 xs):=ol
def zsy(x0:X)(xs:N J)(K:Tg->Sg->V R):den (cfC fu) kB ⟨0,[],[]⟩ (S1 mX mY g n all x0 xs) K=G (zg (λL (z:N J×J)=>
 if z.2<(A2 xs:J)then
  zI z.2 (A2 z.1) λj=>
  B (z.1.set j z.2) λxs=>
  S (z.2+1) λi=>L (xs,i)
 else Z z.1) fu (xs,0)) λys=>K .n (S2 mX mY g n all x0 xs ys):=ol
def zsJ(x:X)(xs:N J)(K:Tg->Sg->V R):den (cfC fu) kC ⟨0,[],[]⟩ (chS 3 mX mY g n all x xs) K=
 qK fu n all g x xs (λx xs a b c d e=>K .n<|Sn mX mY g n all x xs a b c d e) (λx a b xs=>K .r<|Sr mX mY g n all x a b xs) λy xs=>K .r (Sy mY n all y xs):=ol
def zkD(g:wF J->X->V (wF J×(X⊕Y)))(x0:X)(r:X⊕Y)(l:wP)(v1 E u:jp)(we:jP)(Se:wP->Prop)(F:wF MF)(G:wF FF)(w:jP)(hY:Sl Tryz.prog l eI 3 mX mY g)
 (hi:St we Se (mX x0 u::F) (jQ Tryz.prog [.q .i,.q .i] (n,all,()) [v1,E]++G) w) (hM:vu fu n all g x0=Z r):
 bi Tryz.prog 299 #[.func (.yield l) #[] #[],v1,E] w λe w'=>(∃v,e=.returned v)/\∃C,St we Se (xfj (λx=>mX x C) (λy=>mY y C) r::F) G w':=by
 have hX:Bp Tryz.prog (cfC fu):=.of GY O;have hD:∀c,OB 66 c=qR->HG Tryz.prog (cfC fu) 66 c:=λc h=>YG Dw BG Fi cN hX c h;refine ab (args:=[.func (.yield l) #[] #[],v1,E]) (c:=Lj f299) func299 O ol λrest=> ?_;have hj:u7 Tryz.prog (Fr.wd ⟨we,Se,F,G⟩ []) ⟨0,[],[]⟩ (S0 mX mY g n all x0) (L ((([Value.func (.yield l) #[] #[],v1,E]:wF jp).zipIdx 0).map λx=>(x.2,x.1)) rest) w:=by
  refine⟨⟨λe D=> ?_,λ_ D=>kW D H1,λe D q hq=> ?_,λ_ D=>kW D H1⟩,λ_=>aF (.int .i64 (l:J)) [u],?_⟩;obtain rfl:=xaf.1 D;exact xdp;simp only[S0,xal,H1,pM]at D;obtain rfl|rfl|rfl:=D<;>cases hq<;>exact xdp
  have h1:St we Se (Kz (λ_=>aF (.int .i64 (l:J)) [u]) (0,.hid .i 3 X Y mX mY g x0)::F) (jQ Tryz.prog [.q .i,.q .i] (n,all,()) [v1,E]++G) w:=St.grp.2<|St.pr hY hi;exact h1.weak λS w T=>⟨O,T.1,T.2.1,T.2.2⟩
 have⟨f2,hf⟩:∃f2:wF J->V (X⊕Y),f2=λxs=>zg (λL (q:X×wF J)=>qK fu n all g q.1 q.2 (λx xs _ _ _ _ _=>L (x,xs)) (λx _ _ _=>Z (.inl x)) λy _=>Z (.inr y)) fu (x0,xs):=⟨_,O⟩;have⟨f1,hg⟩:∃f1:wF J->V (X⊕Y),f1=λxs=>bd (zg (λL (z:wF J×J)=>
  if z.2<(A2 xs:J)then
   zI z.2 (A2 z.1) λj=>
   B (z.1.set j z.2) λxs=>
   zf (z.2+1) λi=>L (xs,i)
  else Z z.1) fu (xs,0)) f2:=⟨_,O⟩
 have hm:(jT n λm=>ck (8*m<=281474976710656)<|B (So m 0) f1)=Z r:=by rw[hg,hf];exact hM
 refine Cq (x:=kA) (y:=HD<|Lj f299) ?_;have⟨K,k1,k2⟩:=zha (λxs:wF J=>(Tg.n,S1 mX mY g n all x0 xs)) f1 (λi j h=>by
  have f:Od.own .i 3 i=Od.own .i 3 j:=by simpa[S1]using h
  cases f;rfl)
 have k1:∀xs,K .n (S1 mX mY g n all x0 xs)=f1 xs:=k1;refine hD kA ol (N:=Nd.of 66) (K:=K) O (.inl O) (r:=r) ((zsR fu x0 K).trans<|by simp only[k1];exact hm) (λt xS M Ds H w _ s=> ?_) hj;have⟨xs,e1,e2⟩:=k2 _ _ _ M;cases e1;refine Cq (x:=kB) (y:=HD<|HD<|Lj f299) ?_;have⟨K,k1,k2⟩:=zha (λys:wF J=>(Tg.n,S2 mX mY g n all x0 xs ys)) f2 (λi j h=>by
  have f:Od.own .i 3 i=Od.own .i 3 j:=by simpa[S2]using h
  cases f;rfl)
 have k1:∀ys,K .n (S2 mX mY g n all x0 xs ys)=f2 ys:=k1;refine hD kB ol (N:=Nd.of 66) (K:=K) O (.inl O) (r:=r) ((zsy fu x0 xs K).trans<|by simp only[k1];rw[hg]at e2;exact e2) (λt xS M Ds H w _ s=> ?_) s;have⟨ys,e3,e4⟩:=k2 _ _ _ M;cases e3;have hn:u7 Tryz.prog (Fr.wd ⟨we,Se,F,G⟩ Ds) ⟨0,[],[]⟩ (chS 3 mX mY g n all x0 ys) H w:=zmG (o:=0) (p:=2) O O O O O O O s;refine Il (id:=2) (c:=.loop kC) ?_;have⟨body,hc⟩:∃body:((X×wF J)->V (X⊕Y))->(X×wF J)->V (X⊕Y),body=λL q=>qK fu n all g q.1 q.2 (λx xs _ _ _ _ _=>L (x,xs)) (λx _ _ _=>Z (.inl x)) λy _=>Z (.inr y):=⟨_,O⟩;refine Sj (G:=wP×(X×wF J)) (λq Ds H w=>zg body q.1 q.2=Z r/\u7 Tryz.prog (Fr.wd ⟨we,Se,F,G⟩ Ds) ⟨0,[],[]⟩ (chS 3 mX mY g n all q.2.1 q.2.2) H w) (λq=>q.1) (fu,(x0,ys)) ⟨by rw[hc];rw[hf]at e4;exact e4,hn⟩ ?_;rintro⟨k,x,xs⟩ Ds H w ⟨hl,s⟩
 cases k with
 |zero=>exact(zca hl).elim
 |succ k=>
  have hl:=zbV hl
  have⟨K,k1,k2⟩:=zha (ι:=(X×wF J×J×J×J×J×J)⊕((X×J×J×wF J)⊕(Y×wF J)))
   (λq=>match q with
    |.inl (x,xs,a,b,c,d,e)=>(Tg.n,Sn mX mY g n all x xs a b c d e)
    |.inr (.inl (x,a,b,xs))=>(Tg.r,Sr mX mY g n all x a b xs)
    |.inr (.inr (y,xs))=>(Tg.r,Sy mY n all y xs))
   (λq=>match q with
    |.inl (x,xs,_,_,_,_,_)=>zg body k (x,xs)
    |.inr (.inl (x,_,_,_))=>Z (.inl x)
    |.inr (.inr (y,_))=>Z (.inr y)) (λi j h=>by
   rcases i with⟨x,xs,a,b,c,d,e⟩|⟨x,a,b,xs⟩|⟨y,xs⟩<;>rcases j with⟨U,A,a',b',c',d',e'⟩|⟨U,a',b',A⟩|⟨y',A⟩
   have f:=Z4 (λq:Tg×Sg=>q.2.ob) h
   simp only[Sn,xec,xcR,oS,eX]at f
   have⟨P,h4⟩:=f
   cases P;cases h4;rfl
   cases Z4 Prod.fst h
   cases Z4 Prod.fst h
   cases Z4 Prod.fst h
   have f:=Z4 (λq:Tg×Sg=>q.2.ob) h
   simp only[Sr,xec,xcR,oS,eX]at f
   have⟨P,h4⟩:=f
   cases P;rfl
   exact kW (Z4 (λq:Tg×Sg=>q.2.nx) h)<|by simp[Sr,Sy]
   cases Z4 Prod.fst h
   exact kW (Z4 (λq:Tg×Sg=>q.2.nx) h)<|by simp[Sr,Sy]
   have f:=Z4 (λq:Tg×Sg=>q.2.ob) h
   simp only[Sy,xec,xcR,oS,eX]at f
   have⟨P,h4⟩:=f
   cases P;rfl)
  have q1:∀x xs a b c d e,K .n (Sn mX mY g n all x xs a b c d e)=zg body k (x,xs):=λx xs a b c d e=>k1 (.inl (x,xs,a,b,c,d,e));have q2:∀x a b xs,K .r (Sr mX mY g n all x a b xs)=Z (.inl x):=λx a b xs=>k1 (.inr (.inl (x,a,b,xs)));have q3:∀y xs,K .r (Sy mY n all y xs)=Z (.inr y):=λy xs=>k1 (.inr (.inr (y,xs)));refine hD kC ol (N:=Nd.of 66) (K:=K) O (.inl O) (r:=r) ((zsJ fu x xs K).trans<|by simp only[q1,q2,q3];rw[hc]at hl⊢;exact hl) (λt xS M Ds H w _ s=> ?_) s;have⟨i,e5,e6⟩:=k2 _ _ _ M
  have Q:∀(t:Tg) (H:xr) (w:jP),(∃C,St we Se (xfj (λx=>mX x C) (λy=>mY y C) r::F) G<|vb Ds w)->gV Ds w->∀a:QR,yf a=H->
   ∃v,(V6 f299 a.tmps).run Tryz.prog (vb Ds w)=.ok v (vb Ds w)/\(∃v',xeB v=.returned v')/\∃C,St we Se (xfj (λx=>mX x C) (λy=>mY y C) r::F) G (vb Ds w):=λt H w h1 f a T=>⟨_,ZC (rs:=[]) (vs:=[]) O ul,⟨_,O⟩,h1⟩
  rcases i with⟨U,A,a,b,c,d,e⟩|⟨U,a,b,A⟩|⟨y',A⟩
  cases e5;exact⟨(k,(U,A)),⟨e6,zmG (o:=2) (p:=4) O O O O O O O s⟩,xdO k⟩
  cases e5;cases e6;have⟨hd,s⟩:=Yx s;exact⟨.inr O,hd,Q .r _ _ (zoF (o:=2) O s) hd⟩
  cases e5;cases e6;have⟨hd,s⟩:=Yx s;exact⟨.inr O,hd,Q .r _ _ (zmU (o:=2) O s) hd⟩
end
def AA:zgL Tryz.prog (W3 fu):=by
 refine⟨ol,?_⟩;rintro⟨n,a,_⟩ X Y f h g x0 r b l vs c d u we Se F G w hc
 match vs,c with
 |[v1,e],_=>exact zkD fu g x0 r l v1 e u we Se F G w d hc b
def Xw:Sq:=⟨257,[.i,.i],299,λx=>[⟨.i,x.2.1⟩,⟨.i,x.1⟩]⟩
def Dz:za3 Tryz.prog Xw:=zpl (s:=Xw) (cf:=⟨tt,[],wG,0,ex,[],[],[],[]⟩) Dw BG Fi cN (.of GY O) func257 ol λx=>by kernel_rfl
def X0:yz ⟨341,[.d xm,.d .i],[.d .i],vv2 (XP fu),0⟩:=sq fu (f9 [(2,⟨⟨[(8,.d .i)],[]⟩,⟨[],[(.x 0,⟨[],[]⟩),(.r,⟨[(4,.d .i)],[]⟩)]⟩⟩)]) func341<|cN
def KC:yz ⟨341,[.own .i 3,.d .i],[.d .i,.own .i 3],vv2 (jd fu),1⟩:=sgb (fu:=fu) ⟨[],[],[(2,⟨⟨[(8,.d .i)],[]⟩,⟨[0],[(.x 0,⟨[],[]⟩),(.r,⟨[(4,.d .i)],[]⟩)]⟩⟩)],[],[],[],[]⟩ func341 (cN) ol λa x=>by kernel_rfl
def KA:yz ⟨302,[.d xm,.d .i],[.d .b],vv2 (Yl fu),0⟩:=f8 fu wG func302<|ee1 X0
def Qv:yz ⟨302,[.own .i 3,.d .i],[.d .b,.own .i 3],vv2 (wx fu),1⟩:=sgb (fu:=fu) wG func302 (cC (KC fu)<|cC (X0 fu)<|cN) ol λa x=>by kernel_rfl
def jg:Wk:=⟨259,[.d tzQ,.own .i 3],[.d tzQ,.own .i 3],λx=>xV fu x.1 x.2.1,1⟩
def KB:yz (jg fu):=sgb (fu:=fu) ⟨[],[(262149,⟨[1,5],[(.n,⟨[(8,.d tzQ),(9,.d .i),(11,.d .b)],[]⟩)]⟩)],[(3,q1 [(5,.own yT 22),(10,.d .i),(1,.own .i 3)] 0 [(5,.own yT 22),(1,.own .i 3)])],[],[],[],[]⟩ func259 (cC (Qv fu)<|cC (KA fu)<|cN) ol λa x=>by kernel_rfl
def mg:Wk:=⟨213,[.d yT,.d tzQ,.d zu],[.own yT 22],λx=>YD fu x.1 x.2.1 x.2.2.1,0⟩
def Gg:yz (mg fu):=zaG (s:=mg fu) (cf:=⟨tt,[Yn fu,fh fu,jg fu,cj fu],⟨[3,4],[],[(3,q1 [(3,.var yT 22),(4,.var tzQ 105),(7,.bo yT 22 105),(8,.d .i)] 0 [(3,.var yT 22),(4,.var tzQ 105),(7,.bo yT 22 105)]),(6,q1 [(3,.var yT 22),(4,.var tzQ 105),(7,.bo yT 22 105)] 1 [])],[(13,[56,57])],[],[7],[]⟩,fu,ex,[],[Xw],[W3 fu],[]⟩) Dw BG Fi (cC (lv fu)<|cC (KG fu)<|cC (KB fu)<|cC (ZV fu)<|cN) ⟨GY,λs h=>by obtain rfl:=xaf.1 h;exact Dz,λ_ h=>kW h H1,λs h=>by obtain rfl:=xaf.1 h;exact AA fu,O,λ_ h=>kW h H1⟩ func213 ol O λx r h=>(id ol:zan ⟨tt,[Yn fu,fh fu,jg fu,cj fu],⟨[3,4],[],[(3,q1 [(3,.var yT 22),(4,.var tzQ 105),(7,.bo yT 22 105),(8,.d .i)] 0 [(3,.var yT 22),(4,.var tzQ 105),(7,.bo yT 22 105)]),(6,q1 [(3,.var yT 22),(4,.var tzQ 105),(7,.bo yT 22 105)] 1 [])],[(13,[56,57])],[],[7],[]⟩,fu,ex,[],[Xw],[W3 fu],[]⟩ f213 [.d yT,.d tzQ,.d zu] [.own yT 22] x=YD fu x.1 x.2.1 x.2.2.1).trans h
def N2:yz ⟨262,[.d yT,.d yT],[.d .b],vv2 (XT fu),0⟩:=f8 fu (f9 [(5,⟨⟨[(5,.d .i)],[]⟩,⟨[0,1],[(.x 0,⟨[],[]⟩),(.r,⟨[(4,.d .b)],[]⟩)]⟩⟩)]) func262<|ee2 xA JR
def E7:yz ⟨215,[.d yT,.d yT],[.d .i],vv2 (j8 fu),0⟩:=f8 fu wG func215<|ee1 N2
def SC:yz ⟨270,[.d zu,.d .i],[.d zu,.d .i],vv2 (KO fu),0⟩:=f8 fu (f9 [(6,⟨⟨[(4,.var zu 44),(6,.var zu 44),(9,.var zu 44)],[]⟩,⟨[],[(.r,⟨[(4,.var zu 44)],[(5,.ci 0)]⟩)]⟩⟩),(11,⟨⟨[(1,.d .i),(2,.q zu),(52,.d .i),(11,.var zu 44)],[]⟩,⟨[4,6,9,10],[(.x 2,⟨[(1,.d .i),(2,.q zu),(11,.var zu 44)],[]⟩)]⟩⟩)]) func270<|ee9 xI qF Zn jq xB bL JR tz Hr
def pR:yz ⟨203,[.d yT],[.d .i],vv1 (XC fu),0⟩:=f8 fu wG func203<|ee1 xA
def Jl:yz ⟨240,[.d yT],[.d zu,.d .i],vv1 (vE fu),0⟩:=f8 fu (i7 [(524297,⟨[0,2,5],[(.n,⟨[(22,.d .i),(24,.d .b)],[]⟩)]⟩)] [(7,⟨⟨[(23,.d .i),(0,.own zu 44),(2,.var zu 44),(5,.var zu 44)],[(21,.al 0)]⟩,⟨[],[(.x 0,⟨[(0,.own zu 44),(2,.var zu 44),(5,.var zu 44)],[]⟩)]⟩⟩)]) func240<|ee8 xI Zn Xf pR SC xA tz xB
def GF:yz ⟨209,[.d yT,.d .i],[.d .i],vv2 (Vf fu),0⟩:=f8 fu ⟨[],[],[(5,⟨⟨[(9,.d .i),(8,.var zu 44)],[]⟩,⟨[5,7],[(.x 0,⟨[(9,.d .i)],[]⟩)]⟩⟩)],[(2,[])],[],[],[]⟩ func209<|ee4 Jl xI xB JR
def Nw:yz ⟨207,[.d yT],[.d .b],vv1 (Jx fu),0⟩:=f8 fu ⟨[],[],[],[(2,[])],[],[],[]⟩ func207<|ee4 Jl xI xB bL
def DY:yz ⟨279,[.d xm,.d xm],[.d .i],vv2 (vL fu),0⟩:=sq fu (f9 [(4,⟨⟨[(5,.d .i)],[]⟩,⟨[],[(.x 0,⟨[],[]⟩),(.r,⟨[(4,.d .i)],[]⟩)]⟩⟩)]) func279<|cN
def Wy:Wk:=⟨373,[.d xm,.q .i],[.d .b],λx=>kH fu x.1 x.2.1,0⟩
def tZ:yz (Wy fu):=sq fu wG func373<|cN
def bK:Wk:=⟨372,[.d xm,.d .i],[.own .i 3],λx=>XZ fu x.1 x.2.1,0⟩
def L3:yz (bK fu):=f8 fu (f9 [(3,q1 [(13,.d .i),(5,.own .i 3)] 0 [(5,.own .i 3)])]) func372<|ee1 gm
def bO:Wk:=⟨349,[.d (.l xm),.d .i],[.d .i],λx=>Wc fu x.1 x.2.1,0⟩
def oE:yz (bO fu):=f8 fu (i7 [(393223,⟨[],[(.n,⟨[(0,.d (.l xm)),(17,.d (.l xm)),(18,.d .i),(20,.d .b)],[]⟩)]⟩)] [(5,⟨⟨[(19,.d .i)],[]⟩,⟨[],[(.x 0,⟨[],[]⟩),(.r,⟨[],[(4,.ci 1)]⟩)]⟩⟩)]) func349<|ee1 jM
def Vs:C8:=⟨374,.i,125,3,λb ix r a p lo n=>qy fu b ix r a p lo n⟩
def GA(c:jp)(b:N (N J))(ix:N K)(r:K)(a p:J)(lo n:K):znQ ⟨tt,[],(⟨[],[],[(1,q1 [(3,.matv .i 125 3),(13,.view 0),(0,.row 0),(15,.d .i)] 0 [(3,.matv .i 125 3)]),(5,q1 [(3,.matv .i 125 3),(13,.view 0),(0,.row 0),(23,.row 0),(9,.row 0),(25,.d .i)] 2 [(3,.matv .i 125 3),(13,.view 0),(0,.row 0)])],[],[],[],[]⟩:An),fu,ex,[],[],[],[]⟩ f374 .i 125 3 c b ix r a p lo n=qy fu b ix r a p lo n:=ol
def Gl:zbv Tryz.prog (Vs fu):=zpb (s:=Vs fu) (cf:=⟨tt,[],(⟨[],[],[(1,q1 [(3,.matv .i 125 3),(13,.view 0),(0,.row 0),(15,.d .i)] 0 [(3,.matv .i 125 3)]),(5,q1 [(3,.matv .i 125 3),(13,.view 0),(0,.row 0),(23,.row 0),(9,.row 0),(25,.d .i)] 2 [(3,.matv .i 125 3),(13,.view 0),(0,.row 0)])],[],[],[],[]⟩:An),fu,ex,[],[],[],[]⟩) Dw BG Fi cN (.of GY O) func374 ol λb c ix r a p lo n z h=>(GA fu b c ix r a p lo n).trans h
def qX:Wk:=⟨286,[.d (.l xm),.fn [xm] [.b]],[.d .i],λx=>yX fu x.1<|λz0=>x.2.1 (z0,()),0⟩
def ZQ:yz (qX fu):=sq fu (f9 [(2,⟨⟨[(8,.d .i)],[]⟩,⟨[],[(.x 0,⟨[],[]⟩),(.r,⟨[(4,.d .i)],[]⟩)]⟩⟩)]) func286<|cN
def ey:Wk:=⟨350,[.d (.l xm),.d .i],[.d (.l xm),.d .i],λx=>Zo fu x.1 x.2.1,0⟩
def FI:yz (ey fu):=zaG (s:=ey fu) (cf:=⟨tt,[bO fu,bK fu,qX fu,DM fu,Wy fu],⟨[],[],[(6,q1 [(7,.mat .i 125 3),(25,.d .i)] 0 [(7,.mat .i 125 3)]),(12,q1 [(7,.mat .i 125 3),(10,.d .i),(11,.var .i 3)] 2 [(7,.mat .i 125 3),(10,.d .i)]),(19,q1 [(7,.mat .i 125 3),(90,.row 0),(92,.d .i)] 4 [(7,.mat .i 125 3)])],[(16,[]),(23,[]),(24,[])],[52,117,128],[33],[]⟩,fu,ex,[Vs fu],[],[],[]⟩) Dw BG Fi (cC (oE fu)<|cC (L3 fu)<|cC (ZQ fu)<|cC (Dy fu)<|cC (tZ fu)<|cN) ⟨GY,λ_ h=>kW h H1,λs h=>by obtain rfl:=xaf.1 h;exact Gl fu,λ_ h=>kW h H1,O,λ_ h=>kW h H1⟩ func350 ol O λx r h=>(id ol:zan ⟨tt,[bO fu,bK fu,qX fu,DM fu,Wy fu],⟨[],[],[(6,q1 [(7,.mat .i 125 3),(25,.d .i)] 0 [(7,.mat .i 125 3)]),(12,q1 [(7,.mat .i 125 3),(10,.d .i),(11,.var .i 3)] 2 [(7,.mat .i 125 3),(10,.d .i)]),(19,q1 [(7,.mat .i 125 3),(90,.row 0),(92,.d .i)] 4 [(7,.mat .i 125 3)])],[(16,[]),(23,[]),(24,[])],[52,117,128],[33],[]⟩,fu,ex,[Vs fu],[],[],[]⟩ f350 [.d (.l xm),.d .i] [.d (.l xm),.d .i] x=Zo fu x.1 x.2.1).trans h
def GU:yz ⟨376,[.d .i],[.d .b],vv1 (YA fu),0⟩:=sq fu wG func376<|cN
def QH:yz ⟨375,[.d xm,.fn [.i] [.b]],[.d .i],λx=>xC fu x.1<|λz0=>x.2.1 (z0,()),0⟩:=sq fu (f9 [(2,⟨⟨[(8,.d .i)],[]⟩,⟨[],[(.x 0,⟨[],[]⟩),(.r,⟨[(4,.d .i)],[]⟩)]⟩⟩)]) func375<|cN
def A8:yz ⟨353,[.d xm],[.d .i],vv1 (Qm fu),0⟩:=f8 fu wG func353<|ee2 GU QH
def Hg:yz ⟨352,[.d xm,.q .i],[.d .b],vv2 (jL fu),0⟩:=f8 fu wG func352<|ee1 A8
def VE:yz ⟨351,[.d (.l xm),.fn [xm] [.b]],[.d .b],λx=>wa fu x.1<|λz0=>x.2.1 (z0,()),0⟩:=f8 fu wG func351<|ee1 ZQ
def Ti:yz ⟨324,[.d (.l xm),.d .i,.d .i],[.own xm 125,.d .i],vv3 (VU fu),0⟩:=f8 fu (i7 [(131076,⟨[],[(.n,⟨[],[]⟩),(.r,⟨[],[(6,.nil),(7,.ci 1)]⟩)]⟩),(458760,⟨[10],[(.n,⟨[(1,.d .i),(2,.d .i),(8,.d (.l xm)),(46,.d .i),(48,.d .b)],[]⟩)]⟩),(851982,⟨[10,12],[(.n,⟨[(1,.d .i),(2,.d .i),(8,.d (.l xm)),(11,.q .i),(46,.d .i),(47,.d .i),(58,.d (.l xm)),(59,.d .i),(61,.d .b)],[]⟩)]⟩)] [(6,q1 [(10,.own xm 125),(47,.d .i)] 0 [(10,.own xm 125)]),(12,q1 [(60,.d .i),(10,.own xm 125),(12,.own .i 3)] 2 [(10,.own xm 125),(12,.own .i 3)])]) func324<|ee6 Hg A8 gm oE FI VE
def eZ:yz ⟨253,[.d xm,.d xm,.d .i],[.own .i 3,.own .i 3,.d .i],vv3 (kO fu),0⟩:=f8 fu wG func253<|ee3 wj QC jM
def gy:yz ⟨323,[.d xm,.d zu,.d xm,.d .i],[.own .i 3,.d .i],vv4 (ZE fu),0⟩:=f8 fu (f9 [(9,⟨⟨[(11,.own .i 3),(13,.d xm),(14,.d .i)],[]⟩,⟨[10,12],[(.x 0,⟨[(11,.own .i 3)],[]⟩)]⟩⟩)]) func323<|ee6 wj QC qF YP bL jM
def MI:yz ⟨277,[.d xm,.d .i],[.own xm 125],vv2 (Xx fu),0⟩:=f8 fu ⟨[],[],[(4,q1 [(6,.mat .i 125 3),(23,.d .i)] 0 [(6,.mat .i 125 3)]),(11,q1 [(6,.mat .i 125 3),(10,.d xm),(8,.d xm),(43,.d .i)] 2 [(6,.mat .i 125 3)]),(14,q1 [(6,.mat .i 125 3),(48,.d .i)] 4 [(6,.mat .i 125 3)])],[],[],[20],[]⟩ func277<|ee5 xI gy Uh eZ Ti
def zen:yz ⟨322,[.d xm,.d xm,.d .i],[.own .i 3],vv3 (iC fu),0⟩:=f8 fu wG func322<|ee1 eZ
def Tx:yz ⟨320,[.d xm,.d xm,.d .i],[.d xm],vv3 (cz fu),0⟩:=f8 fu wG func320<|ee1 eC
def BK:yz ⟨318,[.d .i,.q xm,.q .i],[.d .i],vv3 (YV fu),0⟩:=f8 fu wG func318<|ee1 gm
def PJ:yz ⟨348,[.d xm,.d xm,.d .i],[.own .i 3,.d .i],vv3 (Uj fu),0⟩:=f8 fu wG func348<|ee3 wj dH jM
def MM:yz ⟨321,[.d xm,.d .i,.d xm,.d .i],[.own .i 3],vv4 (Ja fu),0⟩:=f8 fu wG func321<|ee4 xI gy PJ Bg
def Gh:yz ⟨276,[.d xm,.d (.l xm),.d .i,.d xm],[.own xm 125],vv4 (Vt fu),0⟩:=f8 fu (i7 [(524297,⟨[10],[(.n,⟨[(11,.d .i),(28,.d (.l xm)),(29,.d .i),(31,.d .b)],[]⟩)]⟩),(983056,⟨[10],[(.n,⟨[(1,.d (.l xm)),(6,.q .i),(7,.q xm),(11,.d .i),(13,.d xm),(28,.d (.l xm)),(29,.d .i),(30,.d .i),(73,.d .b)],[]⟩)]⟩)] [(4,q1 [(10,.own xm 125),(11,.d .i)] 0 [(10,.own xm 125)]),(7,⟨⟨[(1,.d (.l xm)),(6,.q .i),(7,.q xm),(10,.own xm 125),(30,.d .i)],[]⟩,⟨[],[(.x 0,⟨[(10,.own xm 125)],[]⟩),(.x 2,⟨[(1,.d (.l xm)),(6,.q .i),(7,.q xm),(10,.own xm 125)],[]⟩)]⟩⟩),(10,⟨⟨[(10,.own xm 125),(14,.d .i)],[]⟩,⟨[],[(.x 0,⟨[(10,.own xm 125)],[]⟩),(.x 4,⟨[(10,.own xm 125)],[]⟩)]⟩⟩)]) func276<|ee4 Tx MM zen BK
def mq:yz ⟨347,[.d xm,.d .i],[.own .i 3,.d .i],vv2 (jH fu),0⟩:=f8 fu wG func347<|ee3 wj gZ jM
def NC:yz ⟨317,[.d xm,.d .i],[.own .i 3,.d .i],vv2 (bE fu),0⟩:=f8 fu wG func317<|ee1 mq
def GW:yz ⟨314,[.d xm,.d .i],[.own .i 3,.d .i],vv2 (Vk fu),0⟩:=f8 fu (i7 [(458760,⟨[7,17],[(.n,⟨[(1,.d .i),(18,.d .i),(20,.d .b)],[]⟩)]⟩)] [(6,q1 [(7,.own .i 3),(19,.d .i),(17,.own .i 3)] 0 [(7,.own .i 3)])]) func314<|ee2 wj jM
def NZ:yz ⟨313,[.d xm,.d .i],[.own .i 3,.d .i],vv2 (JA fu),0⟩:=f8 fu wG func313<|ee1 mq
def HP:yz ⟨271,[.d xm,.d .i],[.d .b,.d .i],vv2 (Xn fu),0⟩:=f8 fu wG func271<|ee3 NZ GW eC
def GZ:yz ⟨275,[.d xm,.d .i],[.d xm,.d .i],vv2 (uW fu),0⟩:=f8 fu wG func275<|ee2 NC HP
def dh:yz ⟨261,[.d .u],[.d .i],vv1 (uK fu),0⟩:=f8 fu wG func261<|ee1 XG
def Yo:yz ⟨354,[.own xm 125,.d .i,.d .i,.fn [xm,xm] [.i]],[.own xm 125],λx=>qk fu x.1 x.2.1 x.2.2.1<|λz0 a=>x.2.2.2.1 (z0,a,()),1⟩:=sgb (fu:=fu) ⟨[],[],[(1,q1 [(8,.d .i),(0,.own xm 125)] 0 [(0,.own xm 125)]),(4,q1 [(1,.d .i),(2,.d .i),(9,.d .i),(0,.own xm 125)] 2 [(1,.d .i),(2,.d .i),(0,.own xm 125)])],[(6,[])],[],[],[]⟩ func354 (cN) ol λb x=>by kernel_rfl
def Wx:Wk:=⟨325,[.own xm 125,.d .i,.d .i,.d .i,.fn [xm,xm] [.i]],[.own xm 125],λx=>j7 fu x.1 x.2.1 x.2.2.1 x.2.2.2.1<|λz0 a=>x.2.2.2.2.1 (z0,a,()),1⟩
def kj:∀fu:K,yz (Wx fu)
 |0=>sg0 ol λ_=>O
 |fu+1=>sgb (fu:=fu) ⟨[],[],[(2,⟨⟨[(1,.d .i),(2,.d .i),(3,.d .i),(0,.own xm 125)],[(10,.kb qR),(11,.kb qR)]⟩,⟨[],[(.r,⟨[(0,.own xm 125)],[]⟩)]⟩⟩)],[],[],[],[]⟩ func325 (cC (Yo fu)<|cC (kj fu)<|cN) ol λa x=>by kernel_rfl
def QF:yz ⟨278,[.own xm 125,.fn [xm,xm] [.i]],[.own xm 125],λx=>wv fu x.1<|λz0 a=>x.2.1 (z0,a,()),1⟩:=sgb (fu:=fu) wG func278 (cC (kj fu)<|cC (dh fu)<|cN) ol λb x=>by kernel_rfl
def Mg:yz ⟨245,[.d xm,.d .i,.d xm],[.own xm 125,.d .i],vv3 (Xz fu),0⟩:=f8 fu wG func245<|ee5 GZ Gh MI QF DY
def LV:yz ⟨242,[.d .i],[.d .i,.d .i],vv1 (w9 fu),0⟩:=f8 fu (f9 [(4,q1 [(0,.d .i)] 0 [(0,.d .i)])]) func242<|ee1 J5
def NM:yz ⟨243,[.d yT,.d .i],[.d .b,.d .i],vv2 (Q8 fu),0⟩:=f8 fu wG func243<|ee5 HP Jl VQ J5 xA
def Mi:yz ⟨208,[.d yT,.d xm],[.d .i,.own xm 125],vv2 (JE fu),0⟩:=f8 fu (f9 [(4,q1 [(6,.d .i),(7,.d .i),(8,.own xm 125),(9,.d .i),(10,.d .i)] 0 [(6,.d .i),(8,.own xm 125)])]) func208<|ee4 LV NM VQ Mg
def ER:yz ⟨281,[.d .i],[.d zu],vv1 (fZ fu),0⟩:=f8 fu ⟨[],[(262149,⟨[2,3],[(.n,⟨[(0,.d .i),(6,.d .i),(8,.d .b)],[]⟩)]⟩)],[(3,q1 [(7,.d .i),(2,.var zu 44),(3,.var zu 44)] 0 [(2,.var zu 44),(3,.var zu 44)])],[(5,[])],[],[],[]⟩ func281<|ee3 xI XU xB
def Gj:yz ⟨280,[.d zu,.d .i],[.d zu],vv2 (Yz fu),0⟩:=f8 fu ⟨[2],[],[(2,⟨⟨[(1,.d .i),(2,.var zu 44),(5,.var zu 44)],[]⟩,⟨[4],[(.x 0,⟨[(5,.var zu 44)],[]⟩)]⟩⟩)],[],[],[],[]⟩ func280<|ee2 xI xB
def Hk:yz ⟨362,[.d yT,.d yT],[.d zu],vv2 (lP fu),0⟩:=f8 fu (i7 [(262149,⟨[4,5],[(.n,⟨[(1,.d yT),(9,.d yT),(10,.d .i),(12,.d .b)],[]⟩)]⟩)] [(3,q1 [(11,.d .i),(4,.var zu 44),(5,.var zu 44)] 0 [(4,.var zu 44),(5,.var zu 44)])]) func362<|ee3 xI Zn xB
def GD:yz ⟨326,[.d yT,.d yT],[.d zu,.d .i],vv2 (lY fu),0⟩:=f8 fu wG func326<|ee1 Hk
def Fb:yz ⟨282,[.d yT],[.d zu],vv1 (dE fu),0⟩:=f8 fu wG func282<|ee1 GD
def LK:yz ⟨249,[.d yT,.d .i,.d .i],[.d .i,.d .i],vv3 (px fu),0⟩:=f8 fu (f9 [(13,⟨⟨[(16,.d .i),(15,.var zu 44)],[]⟩,⟨[8,13,14],[(.x 0,⟨[],[]⟩),(.r,⟨[(6,.d .i)],[(7,.ci 0)]⟩)]⟩⟩)]) func249<|ee9 xI Jl ZV JR J5 Gj ER Fb xB
def B5:yz ⟨252,[.d xm,.q xm,.q .i],[.d .b],vv3 (Cb fu),0⟩:=f8 fu wG func252<|ee1 eZ
def GM:yz ⟨211,[.d yT,.d (.l xm),.d .i],[.own yT 22,.d yT,.d (.l xm)],vv3 (Vq fu),0⟩:=f8 fu (f9 [(2,⟨⟨[(0,.d yT),(1,.d (.l xm))],[(9,.nil)]⟩,⟨[],[(.x 0,⟨[(0,.d yT),(1,.d (.l xm))],[(9,.nil)]⟩)]⟩⟩)]) func211<|ee5 mF VQ KG LK B5
def u9:yz ⟨303,[.own yT 22,.d .i,.d .i,.fn [yT,yT] [.i]],[.own yT 22],λx=>vj fu x.1 x.2.1 x.2.2.1<|λz0 a=>x.2.2.2.1 (z0,a,()),1⟩:=sgb (fu:=fu) ⟨[],[],[(1,q1 [(8,.d .i),(0,.own yT 22)] 0 [(0,.own yT 22)]),(4,q1 [(1,.d .i),(2,.d .i),(9,.d .i),(0,.own yT 22)] 2 [(1,.d .i),(2,.d .i),(0,.own yT 22)])],[(6,[])],[],[],[]⟩ func303 (cN) ol λb x=>by kernel_rfl
def YW:Wk:=⟨260,[.own yT 22,.d .i,.d .i,.d .i,.fn [yT,yT] [.i]],[.own yT 22],λx=>q9 fu x.1 x.2.1 x.2.2.1 x.2.2.2.1<|λz0 a=>x.2.2.2.2.1 (z0,a,()),1⟩
def qW:∀fu:K,yz (YW fu)
 |0=>sg0 ol λ_=>O
 |fu+1=>sgb (fu:=fu) ⟨[],[],[(2,⟨⟨[(1,.d .i),(2,.d .i),(3,.d .i),(0,.own yT 22)],[(10,.kb qR),(11,.kb qR)]⟩,⟨[],[(.r,⟨[(0,.own yT 22)],[]⟩)]⟩⟩)],[],[],[],[]⟩ func260 (cC (qW fu)<|cC (u9 fu)<|cN) ol λa x=>by kernel_rfl
def Yp:yz ⟨214,[.own yT 22,.fn [yT,yT] [.i]],[.own yT 22],λx=>yP fu x.1<|λz0 a=>x.2.1 (z0,a,()),1⟩:=sgb (fu:=fu) wG func214 (cC (qW fu)<|cC (dh fu)<|cN) ol λb x=>by kernel_rfl
def Nj:yz ⟨171,[.d yT,.d xm],[.own yT 22,.d .b],vv2 (Jo fu),0⟩:=f8 fu wG func171<|ee9 Nw Mi GF Kv GM mF Gg Yp E7
def NT:yz ⟨142,[.d zu,.d .i],[.d zu],vv2 (Jv fu),0⟩:=f8 fu (f9 [(3,⟨⟨[(8,.d .i),(5,.var zu 44)],[]⟩,⟨[4],[(.x 0,⟨[(5,.var zu 44)],[]⟩)]⟩⟩)]) func142<|ee2 xI xB
def GP:yz ⟨185,[.d yT,.d yT],[.own zu 44,.own zu 44,.d .i],vv2 (Yy fu),0⟩:=f8 fu ⟨[],[],[(9,⟨⟨[(1,.d yT),(9,.own zu 44),(11,.d .i),(10,.own zu 44)],[]⟩,⟨[8],[(.x 0,⟨[(9,.own zu 44),(10,.own zu 44)],[]⟩)]⟩⟩)],[(12,[]),(13,[1])],[],[],[]⟩ func185<|ee5 Vr AZ NT xA XU
def zag:yz ⟨205,[.d yT,.d yT],[.own zu 44],vv2 (Vd fu),0⟩:=f8 fu (f9 [(3,⟨⟨[(6,.d yT),(7,.own zu 44)],[]⟩,⟨[5],[(.x 0,⟨[(6,.d yT)],[]⟩)]⟩⟩)]) func205<|ee5 nN Vr ZV GP QI
def B8:yz ⟨239,[.d .i,.d zu],[.d zu],vv2 (QE fu),0⟩:=f8 fu wG func239<|ee2 xI xB
def GJ:yz ⟨206,[.d yT],[.own zu 44],vv1 (Vy fu),0⟩:=f8 fu wG func206<|ee3 xA B8 xF
def zew:yz ⟨204,[.d yT,.d yT],[.own zu 44],vv2 (Ar fu),0⟩:=f8 fu wG func204<|ee1 KG
def Eg:yz ⟨170,[.d yT],[.own zu 44,.d .i],vv1 (qT fu),0⟩:=f8 fu wG func170<|ee5 pR zew zag GJ ZV
def FH:yz ⟨129,[.d yT,.d xm],[.d zu,.own (.p yT .i) 61,.d .i],vv2 (vI fu),0⟩:=f8 fu (i7 [(655371,⟨[4,11,32],[(.n,⟨[(0,.d yT),(33,.d .i),(35,.d .b)],[]⟩)]⟩)] [(9,q1 [(11,.own (.p yT .i) 61),(34,.d .i),(4,.var zu 44),(32,.own yT 22)] 0 [(11,.own (.p yT .i) 61),(4,.var zu 44)])]) func129<|ee4 Eg Nj Ns QI
def nM:yz ⟨82,[.d yT],[.d .b,.d .i],vv1 (wB fu),0⟩:=f8 fu wG func82<|ee1 FH
def A7:yz ⟨40,[.d yT],[.d (.po (.w1 (.p yT d9))),.d .i],vv1 (Qc fu),0⟩:=f8 fu ⟨[],[(917519,⟨[6],[(.n,⟨[(0,.d yT),(32,.d yT),(33,.d .i),(35,.d .b)],[]⟩)]⟩)],[(13,q1 [(34,.d .i),(6,.vr (.p yT d9) 101 d8 46 2 1)] 1 [(6,.vr (.p yT d9) 101 d8 46 2 1)])],[(15,[])],[],[],[(6,1,46),(31,1,46)]⟩ func40<|ee3 ZV nM oh
def jt:yz ⟨87,[.d (.po (.w1 (.p yT d9)))],[.d .b],vv1 (xX fu),0⟩:=sq fu wG func87<|cN
def oC:yz ⟨24,[.d .i],[.d d8],vv1 (jw fu),0⟩:=f8 fu wG func24<|ee1 xI
def Av:yz ⟨146,[.d d8],[.d zu],vv1 (Xk fu),0⟩:=f8 fu wG func146<|ee1 Xf
def Kj:yz ⟨96,[.d d8],[.d d8],vv1 (wC fu),0⟩:=f8 fu ⟨[],[],[],[(1,[])],[],[],[]⟩ func96<|ee3 oC Av oh
def ie:yz ⟨49,[.d d8,.d d8],[.d d8],vv2 (WJ fu),0⟩:=f8 fu ⟨[2,3],[],[],[],[],[],[]⟩ func49<|ee3 Kj ig xB
def EH:yz ⟨51,[.d d8],[.d .i],vv1 (Kp fu),0⟩:=f8 fu wG func51<|ee2 Kj qF
def GG:yz ⟨191,[.d d8,.d d8,.fn [zu,zu] [zu]],[.d d8],λx=>Vm fu x.1 x.2.1<|λz0 a=>x.2.2.1 (z0,a,()),0⟩:=f8 fu ⟨[3,4],[],[],[(2,[])],[],[],[]⟩ func191<|ee4 Kj Av xB ig
def EV:yz ⟨192,[.d zu,.d zu,.q .b],[.d zu],vv3 (Wg fu),0⟩:=f8 fu wG func192<|ee2 WZ Zn
def rN:yz ⟨159,[.d d8,.d d8,.d .b],[.d d8],vv3 (XV fu),0⟩:=f8 fu wG func159<|ee2 EV GG
def H5:yz ⟨113,[.d d8,.d d8],[.d d8],vv2 (aO fu),0⟩:=f8 fu wG func113<|ee1 rN
def Yg:yz ⟨89,[.d (.p yT d9),.d d9],[.own d8 46],vv2 (xk fu),0⟩:=f8 fu (i7 [(262149,⟨[5],[(.n,⟨[(2,.q (.p yT d9)),(15,.d d9),(16,.d .i),(18,.d .b)],[]⟩)]⟩),(851982,⟨[5,10],[(.n,⟨[(2,.q (.p yT d9)),(8,.d .i),(45,.d .b)],[]⟩)]⟩),(983056,⟨[5,10],[(.n,⟨[(2,.q (.p yT d9)),(8,.d .i),(9,.d .i),(46,.d .i),(48,.d .b)],[]⟩)]⟩)] [(3,q1 [(17,.d .i),(5,.own d8 46)] 0 [(5,.own d8 46)]),(9,⟨⟨[(5,.own d8 46),(9,.d .i)],[]⟩,⟨[],[(.x 2,⟨[(5,.own d8 46)],[]⟩),(.r,⟨[(4,.own d8 46)],[]⟩)]⟩⟩),(14,q1 [(47,.d .i),(5,.own d8 46),(10,.var d8 46)] 4 [(5,.own d8 46)])]) func89<|ee4 Kj ie EH H5
def IL:yz ⟨145,[.d d8,.d d8],[.d d8],vv2 (aW fu),0⟩:=f8 fu wG func145<|ee1 rN
def VK:yz ⟨95,[.d (.p yT d9),.d d9,.d d9],[.own d8 46],vv3 (xQ fu),0⟩:=f8 fu (i7 [(327686,⟨[2,7],[(.n,⟨[(3,.q (.p yT d9)),(24,.d d9),(25,.d .i),(27,.d .b)],[]⟩)]⟩),(524297,⟨[2,7,9],[(.n,⟨[(3,.q (.p yT d9)),(8,.d .i),(24,.d d9),(25,.d .i),(26,.d .i),(32,.d .i),(34,.d .b)],[]⟩)]⟩)] [(4,q1 [(26,.d .i),(2,.own d8 46),(7,.own d8 46)] 0 [(7,.own d8 46)]),(7,⟨⟨[(33,.d .i),(2,.own d8 46),(7,.own d8 46),(9,.var d8 46)],[(31,.al 2)]⟩,⟨[],[(.x 2,⟨[(2,.own d8 46),(7,.own d8 46)],[]⟩)]⟩⟩)]) func95<|ee3 Yg IL ie
def Vb:yz ⟨99,[.d (.p yT d9),.d d9,.d d9,.d .i],[.own d8 46],vv4 (wO fu),0⟩:=f8 fu (i7 [(327686,⟨[9],[(.n,⟨[(3,.d .i),(4,.q (.p yT d9)),(21,.d d9),(22,.d .i),(24,.d .b)],[]⟩)]⟩)] [(4,q1 [(23,.d .i),(9,.own d8 46)] 0 [(9,.own d8 46)])]) func99<|ee4 oC ie IL Yg
def Ng:yz ⟨147,[.d d9],[.d d9],vv1 (XH fu),0⟩:=f8 fu (f9 [(1,q1 [(0,.d d9)] 0 [(0,.d d9)])]) func147<|ee1 EH
def Ij:yz ⟨101,[.d d8,.d d8],[.d d8,.d .i],vv2 (JL fu),0⟩:=f8 fu ⟨[2,3],[],[],[],[],[],[]⟩ func101<|ee4 Kj Av oh xB
def Ag:yz ⟨100,[.d d9,.d d9],[.d d9,.d d9],vv2 (ZX fu),0⟩:=f8 fu ⟨[],[(589834,⟨[6,7],[(.n,⟨[(8,.d .i),(50,.d d9),(51,.d .i),(53,.d .b)],[]⟩)]⟩)],[(4,q1 [(8,.d .i),(6,.own d8 46),(7,.own d8 46)] 0 [(6,.own d8 46),(7,.own d8 46)]),(8,q1 [(1,.d d9),(52,.d .i),(6,.own d8 46),(7,.own d8 46)] 2 [(1,.d d9),(6,.own d8 46),(7,.own d8 46)])],[(6,[])],[],[],[]⟩ func100<|ee4 ie Ng Ij H5
def KR:yz ⟨54,[.d (.po (.w1 (.p yT d9))),.d d9],[.own d8 46,.d .i],vv2 (xZ fu),0⟩:=f8 fu ⟨[],[],[(8,q1 [(6,.d d9),(7,.d d9),(8,.d d9),(9,.d d9)] 0 [(7,.d d9),(9,.d d9)])],[(11,[])],[],[],[]⟩ func54<|ee7 Vb Ag Ij jt oC Yg VK
def K3:yz ⟨47,[.d (.po (.w1 (.p yT d9))),.d d9,.d d9],[.own d8 46,.d .i],vv3 (wc fu),0⟩:=f8 fu wG func47<|ee2 VK jt
def Uu:yz ⟨53,[.d (.po (.w1 (.p yT d9))),.d d9,.d d9],[.own d8 46,.d .i],vv3 (vU fu),0⟩:=f8 fu wG func53<|ee2 Vb jt
def sn:yz ⟨48,[.d (.po (.w1 (.p yT d9))),.d d9],[.own d8 46,.d .i],vv2 (vY fu),0⟩:=f8 fu wG func48<|ee2 Yg jt
def MH:Je:=⟨⟨67,[.d d9,.d .i],[.d d9],λ_=>wW,0⟩,λx=>xw fu x.1 x.2.1⟩
def X4:Oy Tryz.prog (MH fu):=sgp (fu:=fu) wG func67 (cN) (pN) ol λx=>by kernel_rfl
def oe:Je:=⟨⟨62,[.d (.w1 (.po (.w1 (.p yT d9)))),.d (.l d9)],[.own d9 41],λ_=>wW,0⟩,λx=>zH fu x.1 x.2.1⟩
def vk:Oy Tryz.prog (oe fu):=sgp (fu:=fu) ⟨[],[(327686,⟨[5],[(.n,⟨[(2,.q (.w1 (.po (.w1 (.p yT d9))))),(17,.d (.l d9)),(18,.d .i),(20,.d .b)],[]⟩)]⟩)],[(4,⟨⟨[(19,.d .i),(5,.own d9 41)],[]⟩,⟨[],[(.x 0,⟨[(5,.own d9 41)],[]⟩),(.p (0,0),⟨[],[]⟩)]⟩⟩),(8,q1 [(5,.own d9 41)] 2 [(5,.own d9 41)])],[],[],[],[]⟩ func62 (cC (sn fu)<|cN) (pC (X4 fu)<|pN) ol λx=>by kernel_rfl
def gb:Je:=⟨⟨58,[.d (.w1 (.po (.w1 (.p yT d9)))),.d (.l d9),.d (.l d9)],[.own d9 41,.own d9 41],λ_=>wW,0⟩,λx=>vK fu x.1 x.2.1 x.2.2.1⟩
def VY:Oy Tryz.prog (gb fu):=sgp (fu:=fu) ⟨[],[(786445,⟨[2,8,10],[(.n,⟨[(11,.d .i),(71,.d .i),(73,.d .b)],[]⟩)]⟩)],[(7,⟨⟨[(11,.d .i),(2,.own d9 41),(8,.own d9 41),(10,.own d9 41)],[]⟩,⟨[],[(.x 0,⟨[(8,.own d9 41),(10,.own d9 41)],[]⟩),(.p (0,0),⟨[],[]⟩)]⟩⟩),(11,⟨⟨[(3,.q (.w1 (.po (.w1 (.p yT d9))))),(9,.d d9),(72,.d .i),(2,.own d9 41),(8,.own d9 41),(10,.own d9 41)],[(70,.al 2)]⟩,⟨[],[(.x 2,⟨[(3,.q (.w1 (.po (.w1 (.p yT d9))))),(9,.d d9),(2,.own d9 41),(8,.own d9 41),(10,.own d9 41)],[]⟩),(.p (0,0),⟨[],[]⟩)]⟩⟩)],[(1,[]),(9,[65]),(13,[96,100]),(15,[10])],[],[],[]⟩ func58 (cC (K3 fu)<|cC (Uu fu)<|cC (KR fu)<|cN) (pC (X4 fu)<|pC (vk fu)<|pN) ol λx=>by kernel_rfl
def KI:yz ⟨52,[.d (.po (.w1 (.p yT d9))),.d d9,.d d9],[.own d8 46,.d .i],vv3 (vZ fu),0⟩:=f8 fu wG func52<|ee2 Vb jt
def dQ:Je:=⟨⟨64,[.d (.w1 (.po (.w1 (.p yT d9)))),.d (.l d9),.d (.l d9)],[.own d9 41],λ_=>wW,0⟩,λx=>jB fu x.1 x.2.1 x.2.2.1⟩
def VS:Oy Tryz.prog (dQ fu):=sgp (fu:=fu) ⟨[],[(262149,⟨[7],[(.n,⟨[(2,.d (.l d9)),(3,.q (.w1 (.po (.w1 (.p yT d9))))),(18,.d (.l d9)),(19,.d .i),(21,.d .b)],[]⟩)]⟩),(458760,⟨[7],[(.n,⟨[(2,.d (.l d9)),(3,.q (.w1 (.po (.w1 (.p yT d9))))),(8,.d .i),(9,.d d9),(18,.d (.l d9)),(19,.d .i),(20,.d .i),(25,.d (.l d9)),(26,.d .i),(28,.d .b)],[]⟩)]⟩)],[(3,⟨⟨[(20,.d .i),(7,.own d9 41)],[]⟩,⟨[],[(.x 0,⟨[(7,.own d9 41)],[]⟩),(.p (0,0),⟨[],[]⟩)]⟩⟩),(6,⟨⟨[(27,.d .i),(7,.own d9 41)],[]⟩,⟨[],[(.x 2,⟨[(7,.own d9 41)],[]⟩),(.p (0,0),⟨[],[]⟩)]⟩⟩)],[(8,[48,52])],[],[],[]⟩ func64 (cC (KI fu)<|cC (K3 fu)<|cN) (pC (X4 fu)<|pC (vk fu)<|pN) ol λx=>by kernel_rfl
def n9:Je:=⟨⟨61,[.d (.w1 (.po (.w1 (.p yT d9)))),.d (.l d9)],[.own d9 41],λ_=>wW,0⟩,λx=>uh fu x.1 x.2.1⟩
def nU:Oy Tryz.prog (n9 fu):=sgp (fu:=fu) ⟨[],[],[],[(4,[21])],[],[],[]⟩ func61 (cC (KR fu)<|cN) (pC (VS fu)<|pC (X4 fu)<|pC (vk fu)<|pN) ol λx=>by kernel_rfl
def SU:yz ⟨17,[.d (.po (.w1 (.p yT d9))),.d (.l d9),.d (.l d9)],[.own d9 41,.d .i],vv3 (Ba fu),0⟩:=sgr (fu:=fu) ⟨[],[],[(4,⟨⟨[(9,.d (.l d9)),(10,.own d9 41)],[]⟩,⟨[7,8],[(.x 0,⟨[(9,.d (.l d9))],[]⟩),(.p (0,0),⟨[],[]⟩)]⟩⟩)],[(3,[])],[],[],[]⟩ fE func17 (cN) (pC (VY fu)<|pC (nU fu)<|pC (vk fu)<|pN) ol λx=>by kernel_rfl
def GQ:yz ⟨11,[],[.d .b],λx=>YJ fu,0⟩:=f8 fu wG func11<|ee5 A7 SU pB DF oC
def SL:yz ⟨13,[.d .i,.d (.l (.l d9))],[.d .b],vv2 (Xq fu),0⟩:=sq fu (f9 [(2,⟨⟨[(5,.d .i)],[]⟩,⟨[],[(.x 0,⟨[],[]⟩),(.r,⟨[],[(4,.kb I)]⟩)]⟩⟩),(7,⟨⟨[(0,.d .i),(1,.d (.l (.l d9))),(6,.d .i)],[]⟩,⟨[],[(.x 2,⟨[(0,.d .i),(1,.d (.l (.l d9)))],[]⟩),(.r,⟨[],[(4,.kb I)]⟩)]⟩⟩),(12,⟨⟨[(5,.d .i),(7,.d .i)],[]⟩,⟨[],[(.x 4,⟨[(5,.d .i)],[]⟩),(.r,⟨[],[(4,.kb I)]⟩)]⟩⟩)]) func13<|cN
def sD:yz ⟨165,[.d zT],[.own .u 73],vv1 (XM fu),0⟩:=sq fu (f9 [(2,q1 [(3,.d .i)] 0 [(3,.d .i)])]) func165<|cN
def jA:yz ⟨119,[.d zu],[.d zu],vv1 (xh fu),0⟩:=f8 fu wG func119<|ee1 sD
def SS:yz ⟨169,[.d zu],[.d zu],vv1 (VL fu),0⟩:=f8 fu wG func169<|ee1 jA
def om:yz ⟨230,[.d zT,.d .i],[.d .u],vv2 (qS fu),0⟩:=sq fu wG func230<|cN
def gM:yz ⟨238,[.d zT],[.d zT],vv1 (Xl fu),0⟩:=sq fu (f9 [(2,q1 [(3,.d .i)] 0 [(3,.d .i)])]) func238<|cN
def Wa:yz ⟨229,[.d zT],[.d zT],vv1 (xK fu),0⟩:=f8 fu (f9 [(3,q1 [(3,.own .u 73),(4,.d .i)] 0 [(3,.own .u 73)])]) func229<|ee1 gM
def Vx:yz ⟨231,[.d zT],[.own .u 73],vv1 (qB fu),0⟩:=f8 fu (f9 [(3,q1 [(3,.own .u 73),(4,.d .i)] 0 [(3,.own .u 73)])]) func231<|ee1 sD
def Bf:yz ⟨187,[.d zT,.d zT],[.own .u 73],vv2 (VV fu),0⟩:=f8 fu (f9 [(6,q1 [(7,.own .u 73),(8,.d .u),(9,.d .i)] 0 [(7,.own .u 73)])]) func187<|ee3 Wa om Vx
def da:yz ⟨232,[.d zT,.d zT],[.d .i],vv2 (uM fu),0⟩:=f8 fu (f9 [(2,⟨⟨[(5,.d .i)],[]⟩,⟨[],[(.x 0,⟨[],[]⟩),(.r,⟨[(4,.d .i)],[]⟩)]⟩⟩)]) func232<|ee1 om
def sr:yz ⟨233,[.d zT,.d zT],[.d zT],vv2 (XY fu),0⟩:=f8 fu (f9 [(4,q1 [(5,.own .u 73),(6,.d .u),(7,.d .i)] 0 [(5,.own .u 73)])]) func233<|ee2 om gM
def P6:yz ⟨202,[.d zT,.d zT],[.own .u 73,.own .u 73,.d .i],vv2 (KU fu),0⟩:=f8 fu (i7 [(1245204,⟨[9],[(.n,⟨[(72,.d .b)],[]⟩)]⟩)] [(8,q1 [(10,.d zT),(11,.d .i),(9,.own .u 73)] 0 [(10,.d zT),(9,.own .u 73)]),(13,⟨⟨[(7,.d zT),(8,.d zT),(12,.own .u 73),(13,.d .u),(14,.d .i)],[]⟩,⟨[9],[(.x 2,⟨[(7,.d zT),(8,.d zT),(12,.own .u 73),(13,.d .u)],[]⟩)]⟩⟩)]) func202<|ee5 Wa Vx da sr gM
def A6:yz ⟨188,[.d zT,.d zT],[.own .u 73,.d .i],vv2 (Xc fu),0⟩:=f8 fu wG func188<|ee4 da sr Wa Vx
def Bq:yz ⟨166,[.d zu,.d zu],[.d zu,.d zu,.d .i],vv2 (VD fu),0⟩:=f8 fu (i7 [(327688,⟨[4,5],[(.n,⟨[(7,.own .u 73),(8,.own .u 73)],[]⟩)]⟩)] []) func166<|ee4 P6 Bf A6 jA
def bM:yz ⟨118,[.d zu],[.d .i],vv1 (Yb fu),0⟩:=f8 fu wG func118<|ee1 jA
def Tf:yz ⟨124,[.d zu,.d zu],[.d zu],vv2 (KY fu),0⟩:=f8 fu (f9 [(3,⟨⟨[(5,.var zu 44),(6,.var zu 44)],[]⟩,⟨[4],[(.x 0,⟨[(5,.var zu 44)],[]⟩)]⟩⟩)]) func124<|ee3 SS Bq bM
def SQ:yz ⟨125,[.d zu],[.d zu],vv1 (K2 fu),0⟩:=f8 fu wG func125<|ee1 jA
def Eo:yz ⟨112,[.d .i],[.d zu],vv1 (Kl fu),0⟩:=f8 fu wG func112<|ee1 jA
def Yc:yz ⟨78,[.d yT],[.own zu 44],vv1 (vD fu),0⟩:=f8 fu (f9 [(2,q1 [(3,.d .i)] 0 [(3,.d .i)]),(6,q1 [(4,.own zu 44),(5,.d .i)] 2 [(4,.own zu 44)])]) func78<|ee2 bM jA
def BT:yz ⟨80,[.d yT],[.d zu],vv1 (YO fu),0⟩:=f8 fu (f9 [(4,⟨⟨[(5,.d .i),(4,.var zu 44)],[]⟩,⟨[2,3],[(.x 0,⟨[(4,.var zu 44)],[]⟩)]⟩⟩)]) func80<|ee4 Eo Tf SQ Yc
def Gk:yz ⟨120,[.d zu,.d zu],[.d zu,.d .i],vv2 (VC fu),0⟩:=f8 fu wG func120<|ee2 bM Bq
def Bj:yz ⟨154,[.d zu,.d zu],[.d zu],vv2 (Qj fu),0⟩:=f8 fu wG func154<|ee3 Bf A6 jA
def zaN:yz ⟨167,[.d yT,.d .i],[.d zu],vv2 (JS fu),0⟩:=sq fu wG func167<|cN
def Bn:yz ⟨121,[.d yT,.d yT],[.own zu 44],vv2 (VX fu),0⟩:=f8 fu (f9 [(3,q1 [(5,.own zu 44),(6,.d .i)] 0 [(5,.own zu 44)])]) func121<|ee3 Bj Yc zaN
def RP:yz ⟨189,[.d zT,.d zT],[.own .u 73],vv2 (Ua fu),0⟩:=f8 fu (f9 [(5,q1 [(8,.d .i),(7,.own .u 73)] 0 [(7,.own .u 73)]),(9,q1 [(5,.d zT),(6,.d zT),(9,.d .u),(10,.d .i),(7,.own .u 73)] 2 [(5,.d zT),(6,.d zT),(9,.d .u),(7,.own .u 73)])]) func189<|ee2 Wa Vx
def AX:yz ⟨155,[.d zu,.d zu],[.d zu],vv2 (Xg fu),0⟩:=f8 fu wG func155<|ee2 RP jA
def PV:yz ⟨123,[.d yT,.d yT],[.own zu 44],vv2 (Uv fu),0⟩:=f8 fu (f9 [(3,q1 [(6,.d .i),(5,.own zu 44)] 0 [(5,.own zu 44)]),(6,q1 [(0,.d yT),(1,.d yT),(7,.d .i),(5,.own zu 44)] 2 [(0,.d yT),(1,.d yT),(5,.own zu 44)])]) func123<|ee3 Bj AX Yc
def GV:yz ⟨168,[.d yT,.d zu],[.own zu 44],vv2 (Vu fu),0⟩:=f8 fu (f9 [(3,q1 [(5,.own zu 44),(6,.d .i)] 0 [(5,.own zu 44)])]) func168<|ee2 AX Yc
def Sz:yz ⟨122,[.d yT,.d yT],[.own zu 44],vv2 (K9 fu),0⟩:=f8 fu wG func122<|ee3 Eo Bn GV
def SD:yz ⟨79,[.d yT,.d yT],[.own zu 44,.d .i],vv2 (Ub fu),0⟩:=f8 fu ⟨[],[],[(6,⟨⟨[(6,.d yT),(7,.own zu 44),(8,.own zu 44)],[]⟩,⟨[],[(.x 0,⟨[(8,.own zu 44)],[]⟩),(.r,⟨[],[(4,.nil),(5,.ci 4)]⟩)]⟩⟩)],[(8,[])],[],[],[]⟩ func79<|ee5 Yc Gk Bn Sz PV
def Ou:yz ⟨38,[.d yT],[.own zu 44],vv1 (Jg fu),0⟩:=f8 fu wG func38<|ee3 BT Yc SD
def LY:yz ⟨12,[.d yT],[.d (.po (.w1 (.p yT d9))),.own zu 44],vv1 (Wb fu),0⟩:=f8 fu (f9 [(4,⟨⟨[(4,.d .i)],[]⟩,⟨[],[(.x 0,⟨[],[]⟩),(.r,⟨[(2,.d (.po (.w1 (.p yT d9))))],[(3,.nil)]⟩)]⟩⟩)]) func12<|ee2 A7 Ou
def lJ:Je:=⟨⟨66,[.d (.w1 (.po (.w1 (.p yT d9)))),.d (.l d9),.d (.l d9),.d .b],[.own d9 41],λ_=>wW,0⟩,λx=>Yr fu x.1 x.2.1 x.2.2.1 x.2.2.2.1⟩
def lL:Oy Tryz.prog (lJ fu):=sgp (fu:=fu) ⟨[],[(327686,⟨[9],[(.n,⟨[(3,.d .b),(4,.q (.w1 (.po (.w1 (.p yT d9))))),(21,.d (.l d9)),(22,.d .i),(24,.d .b)],[]⟩)]⟩)],[(4,⟨⟨[(23,.d .i),(9,.own d9 41)],[]⟩,⟨[],[(.x 0,⟨[(9,.own d9 41)],[]⟩),(.p (0,0),⟨[],[]⟩)]⟩⟩)],[(7,[38]),(8,[52])],[],[],[]⟩ func66 (cC (KI fu)<|cC (Uu fu)<|cN) (pC (X4 fu)<|pC (vk fu)<|pN) ol λx=>by kernel_rfl
def R1:yz ⟨25,[.d (.po (.w1 (.p yT d9))),.d (.l d9),.d (.l d9)],[.own d9 41,.d .i],vv3 (ZD fu),0⟩:=sgr (fu:=fu) wG fE func25 (cN) (pC (lL fu)<|pN) ol λx=>by kernel_rfl
def O6:yz ⟨21,[.d (.po (.w1 (.p yT d9))),.d (.l d9),.d (.l d9)],[.own d9 41,.d .i],vv3 (wb fu),0⟩:=sgr (fu:=fu) wG fE func21 (cN) (pC (VS fu)<|pN) ol λx=>by kernel_rfl
def Lz:yz ⟨22,[.d (.po (.w1 (.p yT d9))),.d (.l d9)],[.own d9 41,.d .i],vv2 (qt fu),0⟩:=sgr (fu:=fu) wG fE func22 (cN) (pC (vk fu)<|pN) ol λx=>by kernel_rfl
def OW:yz ⟨14,[.d (.po (.w1 (.p yT d9))),.d (.l d9),.d (.l d9)],[.own d9 41,.own d9 41,.d .i],vv3 (kR fu),0⟩:=sgr (fu:=fu) wG fE func14 (cN) (pC (VY fu)<|pN) ol λx=>by kernel_rfl
def sV:yz ⟨5,[.d yT,.d (.l d9),.d (.l d9)],[.d .b],vv3 (Zg fu),0⟩:=f8 fu wG func5<|ee8 GQ LY SL OW pB O6 Lz R1
end
end
section
variable{r a b l:wF wP}{k:wP}
def nv:N K->K
 |[]=>0
 |x::r=>x+18446744073709551616*nv r
def vB:K->K->N K
 |0,_=>[]
 |k+1,n=>n%18446744073709551616::vB k (n/18446744073709551616)
def oZ:K->K->N K
 |0,_=>[]
 |f+1,n=>if n=0 then[]else n%18446744073709551616::oZ f (n/18446744073709551616)
def yM(n:K):N K:=oZ n n
def Ix:N K->N K
 |[]=>[]
 |x::r=>match Ix r with
  |[]=>if x=0 then[]else[x]
  |y::s=>x::y::s
def zn.nil:zn []:=λx c=>kW c H1
def zn.cons{x:K}(h:x<18446744073709551616)(c:zn r):zn (x::r):=λy hy=>by
 obtain rfl|hy:=xal.1 hy
 exact h;exact c y hy
def zn.head{x:K}(h:zn (x::r)):x<18446744073709551616:=h x<|IR
def zn.tail{x:K}(h:zn (x::r)):zn r:=λy c=>h y<|FS _ c
def zn.append(c:zn a)(d:zn b):zn (a++b):=λx e=>by
 obtain h|h:=xab.1 e
 exact c x h;exact d x h
theorem zn.take{a:N K}(h:zn a)(k:K):zn (a.take k):=λx c=>h x<|xdt c
theorem zn.drop{a:N K}(h:zn a)(k:K):zn (a.drop k):=λx c=>h x<|xfM c
theorem zn.getD{a:N K}(h:zn a)(k:K):a.getD k 0<18446744073709551616:=by rw[UV];by_cases c:k<X a;rw[xaa c];exact h _<|xbI c;simp_all
def zn.replicate(k:K):zn (So k 0):=λx c=>by rw[List.eq_of_mem_replicate c];exact Nat.zero_lt_succ _
def Dj:nv []=0:=O
def uq(x:K)(r:N K):nv (x::r)=x+18446744073709551616*nv r:=O
theorem uU:∀(a b:N K),nv (a++b)=nv a+18446744073709551616^X a*nv b
 |[],b=>by simp[nv]
 |x::a,b=>by
  rw[xbP,uq,uU a b,uq];grind
def Jc:∀k,nv (So k 0)=0
 |0=>rfl
 |k+1=>by rw[xea,uq,Jc k]
theorem vA:∀{l:N K},zn l->nv l<18446744073709551616^X l
 |[],_=>by simp[nv]
 |x::r,h=>by
  have h1:=h.head;have c:=vA h.tail;rw[uq,xaw];lia
theorem ph(l:N K)(x:K):nv (l++[x])=nv l+18446744073709551616^X l*x:=by rw[uU,uq,Dj];simp
def yi:∀k n,X (vB k n)=k
 |0,_=>rfl
 |k+1,n=>by rw[vB,xaw,yi]
def wA:∀k n,zn (vB k n)
 |0,_=>zn.nil
 |k+1,n=>zn.cons (xaQ _ m6)<|wA k _
def ud:∀k n,nv (vB k n)=n%18446744073709551616^k
 |0,n=>by simp[vB,nv,Nat.mod_one]
 |k+1,n=>by rw[vB,uq,ud k,xbe,xaO<|18446744073709551616^k,Nat.mod_mul]
def iL:∀{l:N K},zn l->vB (X l) (nv l)=l
 |[],_=>rfl
 |x::r,h=>by
  have h1:=h.head;rw[xaw,vB,uq,xcs,xap h1,xcD _ _ m6,xbm h1,xaM,iL h.tail]
def AE(c:zn a)(d:zn b)(hl:X a=X b)(h:nv a=nv b):a=b:=by rw[<-iL c,<-iL d,hl,h]
def H7:∀k,vB k 0=So k 0
 |0=>rfl
 |k+1=>by rw[vB,H7 k,xea]
def aG:∀k n,vB (k+1) n=vB k n++[n/18446744073709551616^k%18446744073709551616]
 |0,n=>by simp[vB]
 |k+1,n=>by rw[vB,aG k,vB,xbP,xaD,<-xdV]
def C3:∀f n,zn (oZ f n)
 |0,_=>zn.nil
 |f+1,n=>by
  rw[oZ];split;exact zn.nil;exact zn.cons (xaQ _ m6)<|C3 f _
theorem zw(n:K):zn (yM n):=C3 n n
def zcY:∀f n,n<=f->nv (oZ f n)=n
 |0,n,h=>by rw[oZ,Dj];lia
 |f+1,n,h=>by
  rw[oZ];split;rename_i h0;rw[Dj,h0];rename_i h0;have c:n/18446744073709551616<=f:=W
  rw[uq,zcY f _ c,xee]
theorem zY(n:K):nv (yM n)=n:=zcY n n<|Nm _
def zbB:∀f f' n,n<=f->n<=f'->oZ f n=oZ f' n
 |0,f',n,h,c=>by
  have:n=0:=W
  subst this;cases f'<;>simp[oZ]
 |f+1,0,n,h,c=>by
  have:n=0:=W
  subst this;rfl
 |f+1,f'+1,n,h,c=>by
  rw[oZ,oZ];split;rfl;rename_i h0;rw[zbB f f' _ W W]
theorem eD:yM 0=[]:=O
theorem sK{n:K}(h:0<n):yM n=n%18446744073709551616::yM (n/18446744073709551616):=by
 have e:yM n=oZ ((n-1)+1) n:=by unfold yM;congr 1;lia
 rw[e,oZ,zF];congr 1;exact zbB _ _ _ W W
theorem Iy{n:K}(h0:0<n)(h:n<18446744073709551616):yM n=[n]:=by grind [sK,eD]
theorem N8{n:K}:yM n=[]↔n=0:=by constructor;intro h;rw[<-zY n,h];rfl;rintro rfl;rfl
theorem qI{n:K}(h:0<n):0<X (yM n):=by rw[sK h,xaw];lia
def zN:∀(k n:K),X (yM n)<=k↔n<18446744073709551616^k
 |0,n=>by rw[Nat.le_zero,xbs,N8];simp;
 |k+1,n=>by
  by_cases h:n=0
  subst h;simp[eD];exact xaS m6
  rw[sK W,xaw,Nat.add_le_add_iff_right,zN k,xaZ m6,xbe]
def zgu{n:K}(h:0<n):(yM n).getD (X (yM n)-1) 0≠0:=by
 intro h0;have hp:=qI h;have e:=iL<|zw n;rw[zY]at e;have⟨k,c⟩:∃k,X (yM n)=k+1:=⟨X (yM n)-1,W⟩;have h1:=(zN k n).2;rw[c,aG]at e;rw[<-e]at h0;simp at h0;have d:=(zN (k+1) n).1 W;have f:n/18446744073709551616^k<18446744073709551616:=by rw[xaZ<|xaS m6];rwa[xbe,xaO]at d
 rw[xap f]at h0;have g:n<18446744073709551616^k:=by
  obtain h|h:=Nat.div_eq_zero_iff.1 h0
  lia;exact h
 lia
def lR:∀(l:N K) (k:K),k+1=X l->l.getD k 0≠0->Ix l=l
 |[],_,h,_=>by simp at h
 |[x],0,_,h=>by simp at h;simp[Ix,h]
 |[x],k+1,h,_=>by simp at h
 |x::y::r,0,h,_=>by simp at h
 |x::y::r,k+1,h,h0=>by
  have:=lR (y::r) k (by simpa using h) (by simpa using h0);simp only[Ix]at this⊢;rw[this]
theorem SW:∀{l:N K},zn l->Ix l=yM (nv l)
 |[],_=>rfl
 |x::r,h=>by
  have c:=SW h.tail;have d:=h.head;rw[Ix,c,uq];by_cases e:nv r=0
  rw[e,eD];by_cases h0:x=0
  simp[h0,eD];simp only[h0,Z9,xdv,xbV];rw[Iy W d];have e1:=sK (n:=nv r) W;have f:=sK (n:=x+18446744073709551616*nv r) W;grind
theorem RQ(hl:zn l)(h:l=[]\/l.getD (X l-1) 0≠0):yM (nv l)=l:=by
 rw[<-SW hl];obtain rfl|h:=h
 rfl
 cases hn:X l with
 |zero=>rw[xbq hn];rfl
 |succ k=>exact lR l k hn.symm<|by rw[hn]at h;exact h
def CD(hl:zn l)(k:K):nv (l.take k)=nv l%18446744073709551616^k:=by by_cases c:k<=X l;have e:=uU (l.take k)<|l.drop k;rw[xbK,xan,xci c]at e;have:=vA<|hl.take k;rw[xan,xci c]at this;rw[e,xcs,xap this];rw[xaY W,xap];exact xac (vA hl)<|xai m6 W
def L9(hl:zn l)(k:K):nv (l.drop k)=nv l/18446744073709551616^k:=by by_cases c:k<=X l;have e:=uU (l.take k)<|l.drop k;rw[xbK,xan,xci c]at e;have:=vA<|hl.take k;rw[xan,xci c]at this;rw[e,xcD _ _ (xaS m6),xbm this,xaM];rw[xbU W,Dj,xbm];exact xac (vA hl)<|xai m6 W
def KH:∀{l:N K},zn l->∀k,l.getD k 0=nv l/18446744073709551616^k%18446744073709551616
 |[],_,k=>by simp[nv]
 |x::r,h,0=>by rw[List.getD_cons_zero,uq,xef,xcs,xap h.head]
 |x::r,h,k+1=>by rw[xdz,KH h.tail k,uq,xdV,<-xaD,xcD _ _ m6,xbm h.head,xaM]
theorem Ot{α:Type}{l:N α}{n:K}{z x:α}(hl:X l=k)(c:k<n):(l++So (n-k) z).set k x=(l++[x])++So (n-(k+1)) z:=by have⟨m,d⟩:∃m,n-k=m+1:=⟨n-k-1,W⟩;rw[xfD _ _ W,hl];grind
def vT(step:K->K->K×K):K->N K×K
 |0=>([],0)
 |k+1=>((vT step k).1++[(step k (vT step k).2).1],(step k (vT step k).2).2)
theorem wU(step:K->K->K×K):∀k,(vT step k).1.length=k
 |0=>rfl
 |k+1=>by rw[vT,xau,wU step k];rfl
def BS(a b:N K)(k c:K):K×K:=((a.getD k 0+b.getD k 0+c)%18446744073709551616,(a.getD k 0+b.getD k 0+c)/18446744073709551616)
theorem zbo{c:K}(d:zn a)(e:zn b)(hc:c<=1):(BS a b k c).2<=1:=by grind [BS,zn.getD]
theorem ju(l:N K):∀k,nv (l.take<|k+1)=nv (l.take k)+18446744073709551616^k*l.getD k 0:=by
 induction l with
 |nil=>intro k;simp[nv]
 |cons x r c=>
  intro k
  cases k with
  |zero=>simp[nv]
  |succ k=>
   rw[xeH,uq,c k,xeH,uq,xdz,xbe,xcm];rw[xaO (18446744073709551616^k) 18446744073709551616,xbj,xcQ]
theorem ED(a b:N K):∀k,nv (vT (BS a b) k).1+18446744073709551616^k*(vT (BS a b) k).2=nv (a.take k)+nv (b.take k)/\zn (vT (BS a b) k).1
 |0=>⟨by simp[vT,nv],zn.nil⟩
 |k+1=>by
  have⟨f,d⟩:=ED a b k;rw[vT,ju,ju,ph,wU];refine⟨?_,d.append<|zn.cons (xaQ _ m6) zn.nil⟩;generalize hc:(vT (BS a b) k).2=c at*
  simp only[BS];have e:=xee (a.getD k 0+b.getD k 0+c) 18446744073709551616;grind
theorem zid{n:K}(c:X a<=n)(d:X b<=n):nv ((vT (BS a b) n).1++[(vT (BS a b) n).2])=nv a+nv b:=by grind [ph,wU,ED,xaY]
end
section
variable{y k m j i:wP}{l a b o o0 r:wF wP}
def Dc{x:K}(h:X (yM x)<X (yM y)):x<y:=by
 have h1:=(zN (X (yM x)) x).1<|Nm _;have d:¬y<18446744073709551616^X (yM x):=λc=>by have:=(zN _ y).2 c;lia
 lia
theorem JT(x B k:K)(c:0<B):x/B^k=B*(x/B^(k+1))+x/B^k%B:=by grind [xbt,xaD]
def zfh{x:K}(h:x/18446744073709551616^(k+1)=y/18446744073709551616^(k+1))(hd:x/18446744073709551616^k%18446744073709551616<y/18446744073709551616^k%18446744073709551616):x<y:=by have h1:=JT x 18446744073709551616 k m6;have e:=JT y 18446744073709551616 k m6;refine xdw λd=> ?_;have f:=Nat.div_le_div_right (c:=18446744073709551616^k) d;lia
theorem zoD{x:K}(h:x/18446744073709551616^(k+1)=y/18446744073709551616^(k+1))(hd:x/18446744073709551616^k%18446744073709551616=y/18446744073709551616^k%18446744073709551616):
 x/18446744073709551616^k=y/18446744073709551616^k:=by grind [JT]
theorem VW(n k:K):(yM n).getD k 0=n/18446744073709551616^k%18446744073709551616:=by rw[KH<|zw n,zY]
def zhl{x:K}(h:X (yM x)=X (yM y)):x/18446744073709551616^X (yM x)=y/18446744073709551616^X (yM x):=by rw[xbm<|(zN _ x).1<|Nm _,xbm<|(zN _ y).1 W]
theorem xj(h:zn l):X (yM<|nv l)<=X l:=(zN _ _).2<|vA h
theorem zhI{x:K}(c:0<m)(h:x/18446744073709551616^m=y/18446744073709551616^m)(hd:(yM x).getD (m-1) 0=(yM y).getD (m-1) 0):x/18446744073709551616^(m-1)=y/18446744073709551616^(m-1):=by grind [zoD,VW]
def zkb{x:K}(h:X (yM x)≠X (yM y)):kK (X (yM x):K) (X (yM y):K)=kK x y:=by
 obtain h|h:=Nat.lt_or_gt_of_ne h
 have:=Dc h;rw[jb W,jb W];have:=Dc h;rw[qb W,qb W]
def zd2{x:K}(d:0<m)(h:x/18446744073709551616^m=y/18446744073709551616^m)(hd:(yM x).getD (m-1) 0≠(yM y).getD (m-1) 0):
 kK ((yM x).getD (m-1) 0:K) ((yM y).getD (m-1) 0:K)=kK x y:=by
 rw[(W:m=m-1+1)]at h;obtain hd|hd:=Nat.lt_or_gt_of_ne hd
 have c:=hd;rw[VW,VW]at c;have:=zfh h c;rw[jb W,jb W];have c:=hd;rw[VW,VW]at c;have:=zfh h.symm c;rw[qb W,qb W]
def dp(a b:N K)(k c:K):K×K:=((a.getD k 0+18446744073709551616-b.getD k 0-c)%18446744073709551616,if a.getD k 0<b.getD k 0+c then 1 else 0)
def EA(a b:N K)(k c:K):(dp a b k c).2<=1:=by simp only[dp];split<;>lia
theorem Sm{a b:N K}(d:zn a)(f:zn b):∀k,nv (vT (dp a b) k).1+nv (b.take k)=nv (a.take k)+18446744073709551616^k*(vT (dp a b) k).2/\zn (vT (dp a b) k).1/\(vT (dp a b) k).2<=1
 |0=>⟨by simp[vT,nv],zn.nil,xah _⟩
 |k+1=>by
  have⟨h,g,n⟩:=Sm d f k;rw[vT,ju,ju,ph,wU];refine⟨?_,g.append<|zn.cons (xaQ _ m6) zn.nil,EA a b k _⟩;generalize hc:(vT (dp a b) k).2=c at*
  simp only[dp];have h1:=d.getD k;have p:=f.getD k;generalize a.getD k 0=x at*
  generalize b.getD k 0=y at*
  have e:(x+18446744073709551616-y-c)%18446744073709551616+y+c=x+18446744073709551616*(if x<y+c then 1 else 0):=by grind
  grind
def C2{n:K}(c:zn a)(d:zn b)(hc:X a<=n)(hd:X b<=n):
 nv (vT (dp a b) n).1+nv b=nv a+18446744073709551616^n*(vT (dp a b) n).2/\zn (vT (dp a b) n).1/\(vT (dp a b) n).2<=1:=by
 have:=Sm c d n;rwa[xaY hc,xaY hd]at this
theorem IJ{n:K}(c:zn a)(d:zn b)(hc:X a<=n)(hd:X b<=n):0<(vT (dp a b) n).2↔nv a<nv b:=by have⟨h1,e,g⟩:=C2 c d hc hd;have f:=vA e;rw[wU]at f;constructor;grind;grind
theorem zdy{n:K}(c:zn a)(d:zn b)(hc:X a<=n)(hd:X b<=n)(h:¬nv a<nv b):nv (vT (dp a b) n).1=nv a-nv b:=by have⟨h1,e,f⟩:=C2 c d hc hd;have:¬0<(vT (dp a b) n).2:=λhp=>h<|(IJ c d hc hd).1 hp;grind
def fJ(a:N K)(x k c:K):K×K:=((a.getD k 0*x+c)%18446744073709551616,(a.getD k 0*x+c)/18446744073709551616)
def sN{a x c:K}(d:a<18446744073709551616)(e:x<18446744073709551616)(hc:c<18446744073709551616):(a*x+c)/18446744073709551616<18446744073709551616:=by have:a*x<=18446744073709551615*18446744073709551615:=xcb W W;lia
def TW{x c:K}(d:zn a)(e:x<18446744073709551616)(hc:c<18446744073709551616):(fJ a x k c).2<18446744073709551616:=sN (d.getD k) e hc
theorem P3(a:N K)(x:K):∀k,nv (vT (fJ a x) k).1+18446744073709551616^k*(vT (fJ a x) k).2=nv (a.take k)*x/\zn (vT (fJ a x) k).1
 |0=>⟨by simp[vT,nv],zn.nil⟩
 |k+1=>by
  have⟨f,d⟩:=P3 a x k;rw[vT,ju,ph,wU];refine⟨?_,d.append<|zn.cons (xaQ _ m6) zn.nil⟩;generalize hc:(vT (fJ a x) k).2=c at*
  simp only[fJ];have e:=xee (a.getD k 0*x+c) 18446744073709551616;grind
def SF{x:K}(hc:(vT (fJ a x) (X a)).2<18446744073709551616):(vT (fJ a x) (X a)).1++[(vT (fJ a x) (X a)).2]=vB (X a+1) (nv a*x):=by
 have⟨h1,c⟩:=P3 a x (X a);have hl:=c.append<|zn.cons hc zn.nil;have hn:nv ((vT (fJ a x) (X a)).1++[(vT (fJ a x) (X a)).2])=nv a*x:=by rw[ph,wU,h1,xaY<|Nm _]
 have:=iL hl;rw[xau,wU]at this;simp_all
def DW{x:K}(c:zn a)(d:x<18446744073709551616):nv a*x<18446744073709551616^(X a+1):=by
 have:=vA c
 calc nv a*x<=nv a*18446744073709551616:=xaB _ W
  _<_:=xbG this m6
theorem zit:∀(o:N K) (j v:K),j<X o->nv (o.set j v)+18446744073709551616^j*o.getD j 0=nv o+18446744073709551616^j*v
 |[],j,v,h=>by simp at h
 |x::r,0,v,h=>by simp[nv];lia
 |x::r,j+1,v,h=>by
  have c:=zit r j v (by simpa using h);rw[xfi,uq,uq,xdz,xbe,xaO<|18446744073709551616^j,xbj,xbj];lia
def zn.set{o:N K}(h:zn o)(j:K){v:K}(hv:v<18446744073709551616):zn (o.set j v):=λx c=>by
 obtain h1|h1:=xdE c
 exact h x h1;lia
theorem zgn{c:K}(d:j+i<X o)(h:nv o+18446744073709551616^(j+i)*c=nv o0+18446744073709551616^j*nv (r.take i)):
 nv (o.set (j+i)<|(o.getD (j+i) 0+r.getD i 0+c)%18446744073709551616)+18446744073709551616^(j+(i+1))*((o.getD (j+i) 0+r.getD i 0+c)/18446744073709551616)=nv o0+18446744073709551616^j*nv (r.take<|i+1):=by grind [zit,ju,xcm,xbj,xbd,xee]
def Jr(c:zn a)(d:zn b):nv a*nv (b.take k)<18446744073709551616^(X a+k):=by have h1:=vA c;have e:=vA<|d.take k;have f:18446744073709551616^X (b.take k)<=18446744073709551616^k:=xai m6 (by rw[xan];lia);rw[xbd];exact xcf h1 W
def zlF{c:K}(h:nv o+18446744073709551616^(j+X r)*c=nv o0+18446744073709551616^j*nv r)(hn:nv o0+18446744073709551616^j*nv r<18446744073709551616^(j+X r)):
 c=0/\nv o=nv o0+18446744073709551616^j*nv r:=by
 have hc:c=0:=by refine xfs λhp=> ?_;have:18446744073709551616^(j+X r)*1<=18446744073709551616^(j+X r)*c:=xaB _ hp;lia
 simp_all
def P4{p:N K}{c:K}(d:zn a)(f:zn b)(hi:¬i<X a+1)(hd:i<=X a+1)(g:nv o=nv a*nv (b.take k))(hp:nv p+18446744073709551616^(k+i)*c=nv o+18446744073709551616^k*nv ((vB (X a+1)<|nv a*b.getD k 0).take i)):nv p=nv a*nv (b.take<|k+1):=by
 obtain rfl:i=X a+1:=W
 have hl:=yi (X a+1)<|nv a*b.getD k 0;rw[xaY W]at hp;have h:nv (vB (X a+1)<|nv a*b.getD k 0)=nv a*b.getD k 0:=by rw[ud,xap<|DW d<|f.getD k]
 have e:nv o+18446744073709551616^k*nv (vB (X a+1)<|nv a*b.getD k 0)=nv a*nv (b.take<|k+1):=by rw[h,g,ju,xcm,xfx]
 have hc:nv o+18446744073709551616^k*nv (vB (X a+1)<|nv a*b.getD k 0)<18446744073709551616^(k+X (vB (X a+1)<|nv a*b.getD k 0)):=by rw[e,hl,(W:k+(X a+1)=X a+(k+1))];exact Jr d f
 generalize vB (X a+1) (nv a*b.getD k 0)=r at*
 rw[<-hl]at hp;rw[(zlF hp hc).2,e]
def m32{a b:K}(c:a<4294967296)(d:b<4294967296):a*b<=18446744065119617025:=xcb (W:a<=4294967295) (W:b<=4294967295)
def zlI{x:K}(c:x<18446744073709551616)(d:y<18446744073709551616):(x%4294967296)*(y%4294967296)<=18446744065119617025/\(x/2^32)*(y%4294967296)<=18446744065119617025/\
 (x%4294967296)*(y/2^32)<=18446744065119617025/\(x/2^32)*(y/2^32)<=18446744065119617025:=
 ⟨m32 W W,m32 W W,m32 W W,m32 W W⟩
theorem zja(x y:K):x*y=18446744073709551616*((x/2^32)*(y/2^32))+4294967296*((x/2^32)*(y%4294967296))+4294967296*((x%4294967296)*(y/2^32))+(x%4294967296)*(y%4294967296):=by
 have h1:x=4294967296*(x/2^32)+x%4294967296:=W
 have c:y=4294967296*(y/2^32)+y%4294967296:=W
 grind
def Zm{x:K}(c:X (yM x)<=k)(d:X (yM y)<=k):X (yM<|x+y)<=k+1:=by
 rw[zN]at*
 lia
theorem zsc{x0 c d f P:K}:x0*d+P*((x0+c)*(d+f)-x0*d-c*f)+P*P*(c*f)=(x0+P*c)*(d+P*f):=by
 have e:(x0+c)*(d+f)-x0*d-c*f=x0*f+c*d:=by grind
 grind
theorem zkY(x0 d c e:K):x0*c<=(x0+d)*(c+e)/\d*e<=(x0+d)*(c+e)-x0*c:=by grind
theorem S7(h:K):l.take (min h (X l))=l.take h:=by rw[Nat.min_def];split;rfl;grind
def Sp(h:K):l.drop (min h (X l))=l.drop h:=by rw[Nat.min_def];split;rfl;rw[xbU<|Nm _,xbU W]
def Eb(n:K)(l:N K):nv (So n 0++l)=18446744073709551616^n*nv l:=by simp_all [uU,Jc]
def Hn(h:K):nv (l.take h)+18446744073709551616^h*nv (l.drop h)=nv l:=by by_cases c:h<=X l;have e:=uU (l.take h)<|l.drop h;simp_all;rw[xbU W,xaY W,Dj,xdv,xbV]
theorem zkV{A B:N K}(h:K):nv (A.take h)*nv (B.take h)+18446744073709551616^h*((nv (A.take h)+nv (A.drop h))*(nv (B.take h)+nv (B.drop h))-nv (A.take h)*nv (B.take h)-nv (A.drop h)*nv (B.drop h))+
 18446744073709551616^(2*h)*(nv (A.drop h)*nv (B.drop h))=nv A*nv B:=by
 have:= @zsc (nv<|A.take h) (nv<|A.drop h) (nv<|B.take h) (nv<|B.drop h)<|18446744073709551616^h;rw[Hn,Hn]at this;rw[Nat.two_mul,xbd];exact this
def Xh{x:K}(c:X (yM x)<=j)(d:X (yM y)<=k):X (yM<|x*y)<=j+k:=by
 rw[zN]at*
 rw[xbd];exact xcf c d
def SE(q:K){x:K}(c:X (yM x)<=k):X (yM<|18446744073709551616^q*x)<=q+k:=by
 rw[zN]at*
 rw[xbd];exact Nat.mul_lt_mul_of_pos_left c<|xaS m6
def Ku{x:K}(h:x<=y):X (yM x)<=X (yM y):=by have:=(zN (X (yM y)) y).1<|Nm _;exact(zN _ x).2 W
theorem ziF(a b h:K){x0 c d e:K}(f:x0=nv ((yM a).take h))(hc:c=nv ((yM a).drop h))(hd:d=nv ((yM b).take h))(g:e=nv ((yM b).drop h)):
 x0*d+18446744073709551616^h*((x0+c)*(d+e)-x0*d-c*e)+18446744073709551616^(2*h)*(c*e)=a*b:=by grind [zkV,zY]
end
section
variable{a b:wF wP}{k fu:wP}
def zC{α β:Type}{f:(β->V α)->β->V α}(i:β->Prop)(m:β->K)(r:α)
 (step:∀s L,i s->(∀c,i c->m c<m s->L c=Z r)->f L s=Z r):∀(n:K) (s:β),i s->m s<n->zg f n s=Z r
 |0,s,_,h=>kW h<|xbc _
 |n+1,s,d,h=>step s _ d λc e g=>zC i m r step n c e mT
def zgM(h:zn a):a.take (X (yM<|nv a))=yM (nv a):=by refine AE (h.take _) (zw _) (by rw[xan];have:=xj h;omega) ?_;rw[CD h,zY];exact xap<|(zN _ _).1<|Nm _
def rP(c:k+1<=X a)(h0:a.getD k 0=0):nv (a.take k)=nv (a.take<|k+1):=by rw[ju,h0];simp
theorem ra(h:zn a)(c:k+1<=X a)(h0:a.getD k 0≠0):yM (nv<|a.take<|k+1)=a.take (k+1):=by grind [RQ,zn.take]
theorem xy(h:zn a)(hl:X a<=17592186044416)(d:X a<fu):xD fu a=Z (yM<|nv a):=by
 unfold xD;rw[Y (v:=yM<|nv a)];refine zC (λl=>zn l/\nv l=nv a/\X l<=17592186044416) (λl=>X l) _ ?_ _ _ ⟨h,O,hl⟩ d;rintro l L ⟨c,hn,g⟩ e;unfold KZ;by_cases h0:0<(X l:J);have⟨k,f⟩:∃k,X l=k+1:=⟨X l-1,mT⟩;have e1:(X l:J)-1=(k:J):=mT
 rw[E h0,e1,zb,yn,F];by_cases h1:l.getD k 0=0
 rw[E (by rw[h1]),zb,yH,y9,F];refine e _ ⟨c.take _,?_,by rw[xan];omega⟩ (by rw[xan];omega);rw[rP mT h1,<-f,xbQ,hn];rw[zF,<-hn];have:=ra c (k:=k) mT h1;grind;rw[P h0,<-hn];have:l=[]:=xbs.1 mT;rw[this];rfl
theorem wm(h:zn a)(hl:X a<=17592186044416)(c:X a<fu):vd fu a=Z (yM<|nv a):=by have:=xy h hl c;assumption
theorem VA(h:zn a)(hl:X a<=17592186044416:=by omega)(c:X a<fu:=by omega):Y3 fu a=Z (yM<|nv a):=by grind [Y3,wz,Y,wm,va,xj]
theorem de(h:zn a)(hl:X a<=17592186044416)(g:X a<fu):XM fu a=Z (yM<|nv a):=by
 unfold XM;have e:=xj h;rw[Y (v:=(X (yM<|nv a):J)),yH,va e,F,zgM h,va (by simp;omega),F];rfl;refine zC (λi:J=>0<=i/\i<=X a/\nv (a.take i.toNat)=nv a) (λi=>i.toNat) _ ?_ _ _ ⟨mT,mT,m7⟩ mT;rintro i L ⟨h0,h1,hn⟩ f;obtain⟨k,rfl⟩:=xaE h0;unfold dZ;simp only[xbb]at*
 by_cases d:0<(k:J);obtain⟨j,rfl⟩:∃j,k=j+1:=⟨k-1,mT⟩;have e1:((j+1:K):J)-1=(j:J):=mT
 rw[E d,e1,zb,yn,F];by_cases c:a.getD j 0=0
 rw[E (by rw[c]),zb];refine f _ ⟨mT,mT,?_⟩ mT;rw[xbb,rP mT c,hn];rw[zF,<-hn,ra h mT c,xan];grind;rw[P d,<-hn];have:k=0:=mT
 subst this;rfl
def FQ(x:K):x &&& 4294967295=x%4294967296:=Nat.and_two_pow_sub_one_eq_mod x 32
def FE:min (((32:K):J)).toNat 64=32:=m6
def VZ{x y:K}(c:x<18446744073709551616)(d:y<18446744073709551616):jv fu x y=Z (x*y/18446744073709551616,x*y%18446744073709551616):=by
 unfold jv;simp only[nm,FQ,FE];have⟨b1,b2,b3,f⟩:=zlI c d;have e:=zja x y;generalize g:(x%4294967296)*(y%4294967296)=A at*
 generalize h:(x/2^32)*(y%4294967296)=B at*
 generalize i:(x%4294967296)*(y/2^32)=C at*
 generalize j:(x/2^32)*(y/2^32)=D at*
 have l:x*y<18446744073709551616*18446744073709551616:=xcf c d;generalize x*y=z at*
 congr 2;omega
def ky{n:K}{f:J->K->V (K×K)}{step:K->K->K×K}(hn:n<=17179869184)(c:n<fu)(h:∀k,k<n->f (k:J) (vT step k).2=Z (step k (vT step k).2)):qJ fu n f=Z (vT step n):=by
 unfold qJ;rw[yH,y9,F,Y (v:=((vT step n).2,(vT step n).1))];refine zC (λs:K×J×N K=>∃k:K,k<=n/\s=((vT step k).2,(k:J),(vT step k).1++So (n-k) 0)) (λs=>n-s.2.1.toNat) _ ?_ _ _ ⟨0,mT,O⟩ (by simpa using c);rintro s L ⟨k,e,rfl⟩ d;unfold cZ;simp only[xaF];by_cases h1:(k:J)<(n:J);have hl:(vT step k).1.length=k:=wU step k;rw[E h1,Y (h k mT),zp (by simp[hl];omega),F,zb];refine d _ ⟨k+1,mT,?_⟩ (by show n-((k:J)+1).toNat<n-((k:J)).toNat;omega);rw[Ot hl mT];rfl;rw[P h1];obtain rfl:k=n:=mT
 simp
theorem Qf(a:N K)(hl:X a<=9223372036854775807):Qn fu a (k:J)=Z (a.getD k 0):=by grind [Qn,zp,F]
def Yj(c:zn a)(d:zn b)(hd:X a<=8589934592:=by omega)(g:X b<=8589934592:=by omega)(h:max (X a) (X b)+1<fu:=by omega):
 ZW fu a b=Z (yM<|nv a+nv b):=by
 unfold ZW;have e:max (X a:J) (X b)=((max (X a) (X b):K):J):=mT
 have hc:∀k,(vT (BS a b) k).2<=1:=by
  intro k
  induction k with
  |zero=>exact xah _
  |succ k f=>exact zbo c d f
 rw[F,e,Y<|ky (step:=BS a b) mT mT ?_];have hl:=wU (BS a b)<|max (X a) (X b);show ck _ _=_;rw[va (by simp;omega),F,Y (xy ?_ (by simp;omega)<|by simp;omega),zid mT mT];exact(ED a b _).2.append<|zn.cons (by have:=hc<|max (X a) (X b);omega) zn.nil;intro k i;unfold gD;rw[Y (Qf a mT),Y (Qf b mT),va<|hc k];rfl
theorem Jj(c:zn a)(d:zn b)(hd:X a<=8589934592)(g:X b<=8589934592)(i:max (X a) (X b)+1<fu):
 JO fu a b=Z (if nv a<nv b then([],1)else(yM<|nv a-nv b,0)):=by
 unfold JO;have e:max (X a:J) (X b)=((max (X a) (X b):K):J):=mT
 have hc:∀k,(vT (dp a b) k).2<=1:=by
  intro k
  cases k with
  |zero=>exact xah _
  |succ k=>exact EA a b k _
 rw[F,e,Y<|ky (step:=dp a b) mT mT ?_];have hl:=wU (dp a b)<|max (X a) (X b);have f:=IJ c d (xeg (X a) (X b))<|xdP (X a) (X b);simp only;by_cases h:nv a<nv b;simp_all;rw[P (by intro h1;exact h<|f.1 mT),P h,Y (xy (C2 c d (xeg (X a) (X b))<|xdP (X a) (X b)).2.1 mT mT),zdy c d (xeg _ _) (xdP _ _) h];intro k j;unfold gj;rw[Y (Qf a mT),Y (Qf b mT),va<|hc k];rfl
theorem UY(c:zn a)(d:zn b)(hc:X a<=8589934592)(hd:X b<=8589934592)(e:max (X a) (X b)+1<fu)(h:nv b<=nv a):
 Ve fu a b=Z (yM<|nv a-nv b):=by grind [Ve,Y,Jj]
def TQ{a:N K}{x:K}(c:zn a)(d:x<18446744073709551616):∀k,(vT (fJ a x) k).2<18446744073709551616
 |0=>Nat.zero_lt_succ _
 |k+1=>TW c d<|TQ c d k
theorem zev{a x c:K}(d:a<18446744073709551616)(e:x<18446744073709551616)(hc:c<18446744073709551616):
 ((a*x%18446744073709551616+c)%18446744073709551616,(a*x/18446744073709551616+(a*x%18446744073709551616+c)/18446744073709551616)%18446744073709551616)=((a*x+c)%18446744073709551616,(a*x+c)/18446744073709551616):=by
 have:=sN d e hc;grind
def cB{x:K}(c:zn a)(d:x<18446744073709551616)(hc:X a<=8589934592:=by omega)(e:X a<fu:=by omega):JJ fu a x=Z (vB (X a+1)<|nv a*x):=by unfold JJ;rw[Y<|ky (step:=fJ a x) mT e ?_];have hl:=wU (fJ a x) (X a);simp only;rw[va (by simp;omega),F,SF<|TQ c d _];intro k f;unfold gQ;rw[zp f,F,Y<|VZ (c.getD k) d];exact Z4 Z<|zev (c.getD k) d<|TQ c d k
theorem Km{n:K}(hn:n<=1099511627776:=by omega)(hl:X a<=1099511627776:=by omega):Xo fu a (n:J)=Z (So n 0++a):=by grind [Xo,yH,va,F]
def NS{n:K}{t3 t4 t6:N K}{i2:J}(d:zn a)(f:zn b)(v:k<X b)(hn:n=X a+X b+1)(w:n<=17179869184)(g:t6=vB (X a+1) (nv a*b.getD k 0))(m:X a+1<fu):
 zg (J3 fu (k:J) t3 t4 i2 t6) fu (0,0,vB n<|nv a*nv (b.take k),t6)=Z (vB n<|nv a*nv (b.take<|k+1)):=by
 have hl:X t6=X a+1:=by rw[g,yi]
 have q:zn t6:=g▸wA _ _;have t:nv a*nv (b.take k)<18446744073709551616^n:=xac (Jr d f) (xai m6 mT);have h0:nv (vB n<|nv a*nv (b.take k))=nv a*nv (b.take k):=by rw[ud,xap t]
 refine zC (λs:K×J×N K×N K=>∃(c i:K) (o:N K),s=(c,(i:J),o,t6)/\i<=X t6/\c<=1/\zn o/\X o=n/\nv o+18446744073709551616^(k+i)*c=nv a*nv (b.take k)+18446744073709551616^k*nv (t6.take i))
  (λs=>X a+1-s.2.1.toNat) _ ?_ _ _ ⟨0,0,_,O,mT,mT,wA _ _,yi _ _,by rw[h0];simp[nv]⟩ (by simpa using m)
 rintro s L ⟨c,i,o,rfl,hi,hc,hd,h,l⟩ u;unfold J3;simp only;by_cases h1:i<X t6;rw[yg,Y O];simp only[Xs];have e:(k:J)+(i:J)=((k+i:K):J):=mT
 rw[zp h1,F,e,zb,zb,yn,F,va hc,F,F,yn,F,zb];refine u _ ⟨_,i+1,_,O,mT,?_,hd.set _ (xaQ _ m6),by rw[xaP,h],?_⟩ (by show X a+1-((i:J)+1).toNat<X a+1-(i:J).toNat;omega);have:=hd.getD<|k+i;have:=q.getD i;omega;have:=zgn (o:=o) (o0:=vB n<|nv a*nv (b.take k)) (r:=t6) (j:=k) (i:=i) (c:=c) mT (by rw[h0];exact l);rw[h0]at this;exact this;rw[zF,Y O];simp only[xam,Z9];subst g;refine Z4 Z<|AE hd (wA _ _) (by rw[h,yi]) ?_;rw[P4 d f (k:=k) (i:=i) (c:=c) (p:=o) (o:=vB n<|nv a*nv (b.take k)) mT mT h0 (by rw[h0];exact l),ud,xap];exact xac (Jr d f)<|xai m6 mT
theorem B7(c:zn a)(d:zn b)(hc:X a<=4294967296)(hd:X b<=4294967296)(h:X a+X b+1<fu):
 Q7 fu a b=Z (yM<|nv a*nv b):=by
 unfold Q7;have e1:(X a:J)+(X b:J)=((X a+X b:K):J):=mT
 have e:((X a+X b:K):J)+1=((X a+X b+1:K):J):=mT
 have f:nv a*nv b<18446744073709551616^(X a+X b+1):=by have:=Jr (k:=X b) c d;grind
 rw[e1,zb,e,zb,yH,y9,F,Y (v:=vB (X a+X b+1)<|nv a*nv b)];rw[Y (xy (wA _ _) (by rw[yi];omega)<|by rw[yi];omega),ud,xap f];refine zC (λs:J×N K=>∃k:K,k<=X b/\s=((k:J),vB (X a+X b+1)<|nv a*nv (b.take k))) (λs=>X b-s.1.toNat) _ ?_ _ _ ⟨0,mT,by simp[nv,H7]⟩ (by simp;omega);rintro s L ⟨k,i,rfl⟩ g;unfold eN;simp only;by_cases h1:k<X b;rw[yg,Y O];simp only[Xs];rw[zp h1,F,Y (cB c (d.getD k) mT mT),Y (NS c d h1 O mT O mT),zb];exact g _ ⟨k+1,mT,O⟩ (by show X b-((k:J)+1).toNat<X b-(k:J).toNat;omega);rw[zF,Y O];simp only[xam,Z9];obtain rfl:k=X b:=mT
 rw[xbQ]
end
def zaA(n:K):xdC (n:J) 2=((n/2:K):J):=O
def ef(x h:K):X (yM<|nv<|(yM x).take h)<=h:=by grind [xj,zn.take,zw]
def fM(x h:K):X (yM<|nv<|(yM x).drop h)<=X (yM x)-h:=by grind [xj,zn.drop,zw]
def XW:∀{fu:wP}{a b:N wP},zn a->zn b->X a<=1073741824->X b<=1073741824->4*(X a+X b)+64<=fu->Yk fu a b=Z (yM<|nv a*nv b)
 |0,a,b,_,_,_,_,V=>by lia
 |fu+1,a,b,C,D,hk,hl,V=>by
  have h1:=xj C;have h2:=xj D;show G _ _=_;rw[Y (wm C W W),Y<|wm D W W];have eA:nv (yM<|nv a)=nv a:=zY _;have eB:nv (yM<|nv b)=nv b:=zY _;generalize hx:nv a=x at*
  generalize hy:nv b=y at*
  generalize hp:X (yM x)=p at*
  generalize s:X (yM y)=q at*
  have e1:min (p:J) (q:J)=((min p q:wP):J):=W
  rw[F,e1];by_cases u:((min p q:wP):J)<8;rw[E u,Y (B7 (zw x) (zw y) W W W),eA,eB];rw[P u];have H:max (p:J) (q:J)=((max p q:wP):J):=W
  rw[F,H,zaA,zb];have⟨h,L⟩:∃h,h=max p q/2:=⟨_,O⟩;have M:∀l:wP,min (h:J) (l:J)=((min h l:wP):J):=by intro l;lia
  rw[<-L];simp only[B,M,yH];rw[va m6,y9];have Q:(yM x).take (min h p)=(yM x).take h:=by rw[<-hp];exact S7 h
  have R:(yM x).drop (min h p)=(yM x).drop h:=by rw[<-hp];exact Sp h
  have ty:(yM y).take (min h q)=(yM y).take h:=by rw[<-s];exact S7 h
  have dy:(yM y).drop (min h q)=(yM y).drop h:=by rw[<-s];exact Sp h
  rw[Q,ty,R,dy];have v:=ef x h;have w:=ef y h;have f:X ((yM x).drop h)=p-h:=by rw[xcn,hp]
  have g:X ((yM y).drop h)=q-h:=by rw[xcn,s]
  have i:=fM x h;have o:=fM y h;rw[Y (wm ((zw x).take h) (by rw[xan];lia)<|by rw[xan];lia),y9,y9,Y (wm ((zw y).take h) (by rw[xan];lia)<|by rw[xan];lia),y9];have S:=(zw x).drop h;have⟨m,hm⟩:∃m,m=max p q:=⟨_,O⟩;have f1:p<=m:=W
  have f2:q<=m:=W
  have f3:m+8<=p+q:=W
  have f4:2*h<=m:=W
  have f5:m<=2*h+1:=W
  clear L hm u e1 H M Q ty R dy;have g1:p-h<=m-h:=W
  have A:q-h<=m-h:=W
  have g3:h<=m-h:=W
  replace i:=xao i<|hp.symm▸g1;replace o:=xao o<|s.symm▸A;have a0:X ((yM x).drop h)<=m-h:=f▸g1;have a1:X ((yM y).drop h)<=m-h:=g▸A;clear f g g1 A;have T:=(zw y).drop h;generalize he:nv ((yM x).take h)=x0 at*
  generalize hg:nv ((yM y).take h)=c at*
  generalize hi:(yM x).drop h=dX at*
  generalize hj:(yM y).drop h=dY at*
  generalize hc:nv dX=d at*
  generalize hd:nv dY=e at*
  have s1:=Zm (x:=x0) (y:=d) (k:=m-h) W W;have s2:=Zm (x:=c) (y:=e) (k:=m-h) W W;have r:=zkY x0 d c e;rw[Y<|XW (fu:=fu) (zw x0) (zw c) W W W];rw[Y<|XW (fu:=fu) S T W W W];rw[Y<|Yj (zw x0) S,Y<|Yj (zw c) T];rw[hc,hd,zY,zY];rw[Y (XW (fu:=fu) (zw<|x0+d) (zw<|c+e) W W W),zY,zY];have l3:=Xh s1 s2;have l1:=Xh v w;have l2:=Xh (x:=d) (y:=e) (j:=m-h) (k:=m-h) W W;have l4:=Ku<|xff ((x0+d)*(c+e))<|x0*c;have l5:=Ku<|xff ((x0+d)*(c+e)-x0*c)<|d*e;rw[Y (UY (zw<|(x0+d)*(c+e)) (zw<|x0*c) W W W<|by rw[zY,zY];exact r.1),zY,zY];rw[Y (UY (zw<|(x0+d)*(c+e)-x0*c) (zw<|d*e) W W W<|by rw[zY,zY];exact r.2),zY,zY];have U:∀n z:wP,zn (So n 0++yM z):=λn z=>(zn.replicate n).append<|zw z;have ml:∀n z:wP,X (So n 0++yM z)=n+X (yM z):=λn z=>by rw[xau,xaF]
  rw[Y<|Km,Y (Yj (zw _) (U _ _) W (by rw[ml];lia)<|by rw[ml];lia),zY,Eb,zY];have e4:2*(h:J)=((2*h:wP):J):=W
  rw[e4,zb,Y<|Km];have t:=SE h<|xao l5<|xao l4 l3;have l7:=Zm (x:=x0*c) (y:=18446744073709551616^h*((x0+d)*(c+e)-x0*c-d*e)) (k:=3*(p+q)) (by clear t;lia) (xao t<|by clear t;lia);have K:=ziF x y h he.symm (by rw[hi,hc]) hg.symm (by rw[hj,hd]);generalize 18446744073709551616^h*((x0+d)*(c+e)-x0*c-d*e)=z1 at*
  generalize hz:x0*c+z1=z at*
  clear t;rw[Y (Yj (zw z) (U (2*h)<|d*e) (by clear K;lia) (by rw[ml];clear K;lia)<|by rw[ml];clear K;lia),zY,Eb,zY,K]
section
variable{k fu:wP}{a:wF wP}
def blf:K->K->K
 |0,_=>0
 |f+1,n=>if n=0 then 0 else blf f (n/2)+1
def bl(n:K):K:=blf n n
def zgQ:∀f f' n,n<=f->n<=f'->blf f n=blf f' n
 |0,f',n,h,b=>by
  obtain rfl:n=0:=W
  cases f'<;>rfl
 |f+1,0,n,h,b=>by
  obtain rfl:n=0:=W
  rfl
 |f+1,f'+1,n,h,b=>by
  unfold blf;split;rfl;rw[zgQ f f' (n/2) W W]
def dN{n:K}(h:0<n:=by lia):bl n=bl (n/2)+1:=by obtain⟨m,rfl⟩:∃m,n=m+1:=⟨n-1,W⟩;show(if m+1=0 then 0 else blf m ((m+1)/2)+1)=_;rw[zgQ m ((m+1)/2) ((m+1)/2) W<|Nm _];rfl
def dI:∀(k:K) {n:K},2^k<=n->bl n=bl (n/2^k)+k
 |0,n,h=>by simp
 |k+1,n,h=>by
  have b:=xbY k;rw[dN,dI k W,xaD,xbe,xaO 2];lia
theorem ae{n:K}(h:n<2^k):bl n<=k:=by
 induction k generalizing n with
 |zero=>
  obtain rfl:n=0:=W
  exact Nm _
 |succ k b=>
  obtain rfl|h0:=xcw n
  grind;rw[dN h0];grind
theorem DS(n:K):n<2^bl n:=by
 induction n using xdG with
 |ind n b=>
  obtain rfl|h0:=xcw n
  decide;rw[dN h0];grind
def IA:∀{n:K},n<256->xfv n=bl n:=by decide+kernel
theorem jx{x:K}(s:x<18446744073709551616):vX fu x=Z ((bl x:K):J):=by
 unfold vX;have f:min (16:J).toNat 64=16:=m6
 have o:min (8:J).toNat 64=8:=m6
 have g:min (32:J).toNat 64=32:=m6
 have hl:X OU=256:=by decide+kernel
 have p:∀d,d%256<X OU:=λd=>by rw[hl];exact xaQ _ m6
 have q:∀d,OU.getD (d%256) 0=xfv (d%256):=λd=>(by decide+kernel:∀n,n<256->OU.getD n 0=xfv n) _ (xaQ _ m6);simp only[B,show((4294967296:K):J)=4294967296 from O,show((65536:K):J)=65536 from O,show((256:K):J)=256 from O,show((32:K):J)=32 from O,show((16:K):J)=16 from O,show((8:K):J)=8 from O,g,f,o,zp<|p _,q];have c:∀(d:K) (i:J),d<65536->0<=i->i<=48->(if(256:J)<=(d:J)then S (i+8) λj=>S (j+((xfv (d/2^8%256):K):J)) λl=>Z l else S (i+((xfv (d%256):K):J)) λm=>Z m)=Z (i+((bl d:K):J)):=by intro d i hd h0 h1;by_cases h:256<=d;have b:=ae (n:=d/2^8) (k:=8) W;rw[yg,zb,xap W,IA W,zb,dI 8 (n:=d) W];grind;have b:=ae (n:=d) (k:=8) W;rw[zF,xap W,IA W,zb]
 have e:∀(d:K) (i:J),d<4294967296->0<=i->i<=32->(G (if(65536:J)<=(d:J)then S (i+16) λr=>Z (d/2^16,r)else Z (d,i)) λ(d2,i2)=>if(256:J)<=(d2:J)then S (i2+8) λj=>S (j+((xfv (d2/2^8%256):K):J)) λl=>Z l else S (i2+((xfv (d2%256):K):J)) λm=>Z m)=Z (i+((bl d:K):J)):=by intro d i hd h0 h1;by_cases h:65536<=d;rw[yg,zb,Y O];simp only;rw[c _ _ W W W,dI 16 (n:=d) W];congr 1;lia;rw[zF,Y O];exact c _ _ W W W
 by_cases h:4294967296<=x;rw[yg,Y O];simp only;rw[e _ _ W W W,dI 32 (n:=x) W];congr 1;lia;rw[zF,Y O];simp only;rw[e _ _ W W W];congr 1;lia
def O7{n:K}(h:0<n):bl n=64*(X (yM n)-1)+bl ((yM n).getD (X (yM n)-1) 0):=by
 have⟨k,b⟩:∃k,X (yM n)=k+1:=⟨X (yM n)-1,by have:=qI h;lia⟩;have h1:=(zN (k+1) n).1 W;have d:¬n<18446744073709551616^k:=λh=>by have:=(zN k n).2 h;lia
 rw[b,VW,(W:k+1-1=k)];have e:18446744073709551616^k=2^(64*k):=by rw[xbM]
 have c:n/18446744073709551616^k<18446744073709551616:=by rw[xaZ<|xaS m6];rw[xbe,xaO]at h1;exact h1
 rw[xap c,e,dI (64*k)<|by skip;lia];lia
def ziK(h:zn a)(b:X a<=k):bl (nv a)<=64*k:=by refine ae ?_;rw[xbM];exact xac (vA h)<|xai m6 b
def Vz(h:zn a)(hl:X a<=1099511627776)(d:X a<fu):ZO fu a=Z ((bl (nv a):K):J):=by
 unfold ZO;rw[Y<|wm h (xao hl m6) d];have f:=ziK h hl;rcases xcw (nv a)with h0|h0
 rw[h0];rfl;have h1:=qI h0;have b:=(zw<|nv a).getD<|X (yM<|nv a)-1;have e:=O7 h0;have⟨k,c⟩:∃k,X (yM<|nv a)=k+1:=⟨X (yM<|nv a)-1,W⟩;rw[c]at e b;simp only[xfk]at e b;have e1:((k+1:K):J)-1=k:=W
 rw[c,e1,zb,zb,zb,yn,F,Y<|jx b,zb,e];rfl
end
section
variable{r a b l d:wF wP}{k fu:wP}
def nw:N K->K
 |[]=>0
 |x::r=>x+4294967296*nw r
def uA:K->K->N K
 |0,_=>[]
 |k+1,n=>n%4294967296::uA k (n/4294967296)
def sj:K->K->N K
 |0,_=>[]
 |f+1,n=>if n=0 then[]else n%4294967296::sj f (n/4294967296)
def VN(n:K):N K:=sj n n
def Im:N K->N K
 |[]=>[]
 |x::r=>match Im r with
  |[]=>if x=0 then[]else[x]
  |y::s=>x::y::s
def xq(l:N K):Prop:=∀x∈l,x<4294967296
def xq.nil:xq []:=λx c=>kW c H1
def xq.cons{x:K}(h:x<4294967296)(c:xq r):xq (x::r):=λy hy=>by
 obtain rfl|hy:=xal.1 hy
 exact h;exact c y hy
def xq.head{x:K}(h:xq (x::r)):x<4294967296:=h x<|IR
def xq.tail{x:K}(h:xq (x::r)):xq r:=λy c=>h y<|FS _ c
def xq.append(c:xq a)(e:xq b):xq (a++b):=λx f=>by
 obtain h|h:=xab.1 f
 exact c x h;exact e x h
theorem xq.take{a:N K}(h:xq a)(k:K):xq (a.take k):=λx c=>h x<|xdt c
def xq.getD{a:N K}(h:xq a)(k:K):a.getD k 0<4294967296:=by rw[UV];by_cases c:k<X a;rw[xaa c];exact h _<|xbI c;simp_all
def Oo:nw []=0:=O
def uB(x:K)(r:N K):nw (x::r)=x+4294967296*nw r:=O
theorem iQ:∀(a b:N K),nw (a++b)=nw a+4294967296^X a*nw b
 |[],b=>by simp[nw]
 |x::a,b=>by
  rw[xbP,uB,iQ a b,uB];grind
def LG:∀k,nw (So k 0)=0
 |0=>rfl
 |k+1=>by rw[xea,uB,LG k]
def Q1:∀{l:N K},xq l->nw l<4294967296^X l
 |[],_=>by simp[nw]
 |x::r,h=>by
  have h1:=h.head;have c:=Q1 h.tail;rw[uB,xaw];omega
theorem CF(l:N K)(x:K):nw (l++[x])=nw l+4294967296^X l*x:=by rw[iQ,uB,Oo];simp
theorem yZ:∀k n,X (uA k n)=k
 |0,_=>rfl
 |k+1,n=>by rw[uA,xaw,yZ]
theorem jk:∀k n,xq (uA k n)
 |0,_=>xq.nil
 |k+1,n=>xq.cons (xaQ _ m6)<|jk k _
theorem XB:∀k n,nw (uA k n)=n%4294967296^k
 |0,n=>by simp[uA,nw,Nat.mod_one]
 |k+1,n=>by rw[uA,uB,XB k,xbe,xaO<|4294967296^k,Nat.mod_mul]
def b6:∀{l:N K},xq l->uA (X l) (nw l)=l
 |[],_=>rfl
 |x::r,h=>by
  have h1:=h.head;rw[xaw,uA,uB,xcs,xap h1,xcD _ _ m6,xbm h1,xaM,b6 h.tail]
def CU(c:xq a)(e:xq b)(hl:X a=X b)(h:nw a=nw b):a=b:=by rw[<-b6 c,<-b6 e,hl,h]
def tT:∀k,uA k 0=So k 0
 |0=>rfl
 |k+1=>by rw[uA,tT k,xea]
def AU:∀k n,uA (k+1) n=uA k n++[n/4294967296^k%4294967296]
 |0,n=>by simp[uA]
 |k+1,n=>by rw[uA,AU k,uA,xbP,xaD,<-xdV]
def Lo:∀(k n i:K),i<k->(uA k n).getD i 0=n/4294967296^i%4294967296
 |0,_,_,h=>by omega
 |k+1,n,0,_=>by simp[uA]
 |k+1,n,i+1,h=>by rw[uA,xdz,Lo k _ i mT,xaD,<-xdV]
def H9:∀f n,xq (sj f n)
 |0,_=>xq.nil
 |f+1,n=>by
  rw[sj];split;exact xq.nil;exact xq.cons (xaQ _ m6)<|H9 f _
def qQ(n:K):xq (VN n):=H9 n n
def zb1:∀f n,n<=f->nw (sj f n)=n
 |0,n,h=>by rw[sj,Oo];omega
 |f+1,n,h=>by
  rw[sj];split;rename_i h0;rw[Oo,h0];rename_i h0;have c:n/4294967296<=f:=mT
  rw[uB,zb1 f _ c,xee]
def jh(n:K):nw (VN n)=n:=zb1 n n<|Nm _
def zbZ:∀f f' n,n<=f->n<=f'->sj f n=sj f' n
 |0,f',n,h,c=>by
  have:n=0:=mT
  subst this;cases f'<;>simp[sj]
 |f+1,0,n,h,c=>by
  have:n=0:=mT
  subst this;rfl
 |f+1,f'+1,n,h,c=>by
  rw[sj,sj];split;rfl;rename_i h0;rw[zbZ f f' _ mT mT]
theorem dW:VN 0=[]:=O
theorem rA{n:K}(h:0<n):VN n=n%4294967296::VN (n/4294967296):=by
 have e:VN n=sj ((n-1)+1) n:=by unfold VN;congr 1;omega
 rw[e,sj,zF];congr 1;exact zbZ _ _ _ mT mT
theorem zeB{n:K}(h0:0<n)(h:n<4294967296):VN n=[n]:=by grind [rA,dW]
def zk3{n:K}:VN n=[]↔n=0:=by constructor;intro h;rw[<-jh n,h];rfl;rintro rfl;rfl
def Rq{n:K}(h:0<n):0<X (VN n):=by rw[rA h,xaw];omega
def vn:∀(k n:K),X (VN n)<=k↔n<4294967296^k
 |0,n=>by rw[Nat.le_zero,xbs,zk3];simp
 |k+1,n=>by
  by_cases h:n=0
  subst h;simp[dW];exact xaS m6
  rw[rA mT,xaw,Nat.add_le_add_iff_right,vn k,xaZ m6,xbe]
def mW:∀(l:N K) (k:K),k+1=X l->l.getD k 0≠0->Im l=l
 |[],_,h,_=>by simp at h
 |[x],0,_,h=>by simp at h;simp[Im,h]
 |[x],k+1,h,_=>by simp at h
 |x::y::r,0,h,_=>by simp at h
 |x::y::r,k+1,h,h0=>by
  have:=mW (y::r) k (by simpa using h) (by simpa using h0);simp only[Im]at this⊢;rw[this]
theorem zmw(l:N K)(k:K)(h:k+1=X l)(h0:l.getD k 0=0):l=l.take k++[0]:=by grind [xbK,xca]
theorem PO:∀{l:N K},xq l->Im l=VN (nw l)
 |[],_=>rfl
 |x::r,h=>by
  have c:=PO h.tail;have e:=h.head;rw[Im,c,uB];by_cases f:nw r=0
  rw[f,dW];by_cases h0:x=0
  simp[h0,dW];simp only[h0,Z9,xdv,xbV];rw[zeB mT e];have e1:=rA (n:=nw r) mT;have g:=rA (n:=x+4294967296*nw r) mT;grind
theorem R0(hl:xq l)(h:l=[]\/l.getD (X l-1) 0≠0):VN (nw l)=l:=by
 rw[<-PO hl];obtain rfl|h:=h
 rfl
 cases hn:X l with
 |zero=>rw[xbq hn];rfl
 |succ k=>exact mW l k hn.symm<|by rw[hn]at h;exact h
def N4(hl:xq l)(k:K):nw (l.take k)=nw l%4294967296^k:=by by_cases c:k<=X l;have e:=iQ (l.take k)<|l.drop k;rw[xbK,xan,xci c]at e;have:=Q1<|hl.take k;rw[xan,xci c]at this;rw[e,xcs,xap this];rw[xaY mT,xap];exact xac (Q1 hl)<|xai m6 mT
def zc0(hl:xq l)(k:K):nw (l.drop k)=nw l/4294967296^k:=by by_cases c:k<=X l;have e:=iQ (l.take k)<|l.drop k;rw[xbK,xan,xci c]at e;have:=Q1<|hl.take k;rw[xan,xci c]at this;rw[e,xcD _ _ (xaS m6),xbm this,xaM];rw[xbU mT,Oo,xbm];exact xac (Q1 hl)<|xai m6 mT
def b8:∀{l:N K},xq l->∀k,l.getD k 0=nw l/4294967296^k%4294967296
 |[],_,k=>by simp[nw]
 |x::r,h,0=>by rw[List.getD_cons_zero,uB,xef,xcs,xap h.head]
 |x::r,h,k+1=>by rw[xdz,b8 h.tail k,uB,xdV,<-xaD,xcD _ _ m6,xbm h.head,xaM]
def zgq(h:xq a):a.take (X (VN<|nw a))=VN (nw a):=by have c:=(vn _ _).2<|Q1 h;refine CU (h.take _) (qQ _) (by rw[xan];omega) ?_;rw[N4 h,jh];exact xap<|(vn _ _).1<|Nm _
theorem Fe(k:K):(4294967296:K)^(2*k)=18446744073709551616^k:=by grind [xbM]
def ziM(k:K):(4294967296:K)^(2*k+1)=18446744073709551616^k*4294967296:=by rw[xbe,Fe]
theorem uv(l:N K):∀k,nw (l.take<|k+1)=nw (l.take k)+4294967296^k*l.getD k 0:=by
 induction l with
 |nil=>intro k;simp[nw]
 |cons x r c=>
  intro k
  cases k with
  |zero=>simp[nw]
  |succ k=>
   rw[xeH,uB,c k,xeH,uB,xdz,xbe,xcm];rw[xaO (4294967296^k) 4294967296,xbj,xcQ]
def MZ(c:k+1<=X a)(h0:a.getD k 0=0):nw (a.take k)=nw (a.take<|k+1):=by rw[uv,h0];simp
theorem Mr(h:xq a)(c:k+1<=X a)(h0:a.getD k 0≠0):VN (nw<|a.take<|k+1)=a.take (k+1):=by grind [R0,xq.take]
def zdx(h:xq l):X (VN<|nw l)<=X l:=(vn _ _).2<|Q1 h
theorem NH:∀(o:N K) (j v:K),j<X o->nw (o.set j v)+4294967296^j*o.getD j 0=nw o+4294967296^j*v
 |[],j,v,h=>by simp at h
 |x::r,0,v,h=>by simp[nw];omega
 |x::r,j+1,v,h=>by
  have c:=NH r j v (by simpa using h);rw[xfi,uB,uB,xdz,xbe,xaO<|4294967296^j,xbj,xbj];omega
def xq.set{o:N K}(h:xq o)(j:K){v:K}(hv:v<4294967296):xq (o.set j v):=λx c=>by
 obtain h1|h1:=xdE c
 exact h x h1;omega
theorem Kh(h:xq a)(hl:X a<=1099511627776)(m:X a<fu):Xl fu a=Z (VN<|nw a):=by
 unfold Xl;have f:=zdx h;rw[Y (v:=(X (VN<|nw a):J)),yH,va f,F,zgq h];refine zC (λi:J=>0<=i/\i<=X a/\nw (a.take i.toNat)=nw a) (λi=>i.toNat) _ ?_ _ _ ⟨mT,mT,m7⟩ mT;rintro i L ⟨h0,h1,hn⟩ g;obtain⟨k,rfl⟩:=xaE h0;unfold lS;simp only[xbb]at*
 by_cases e:0<(k:J);obtain⟨j,rfl⟩:∃j,k=j+1:=⟨k-1,mT⟩;have e1:((j+1:K):J)-1=(j:J):=mT
 rw[E e,e1,zb,yn,F];by_cases c:a.getD j 0=0
 rw[E (by rw[c]),zb];refine g _ ⟨mT,mT,?_⟩ mT;rw[xbb,MZ mT c,hn];rw[zF,<-hn,Mr h mT c,xan];grind;rw[P e,<-hn];have:k=0:=mT
 subst this;rfl
def zhB(h:zn a)(c:k<X a):uA (2*k) (nv a)++[a.getD k 0 &&& 4294967295,a.getD k 0/2^32]=uA (2*(k+1)) (nv a):=by rw[(mT:2*(k+1)=(2*k+1)+1),AU,AU,xas,KH h,FQ];congr 1;rw[ziM,Fe,<-xaD];congr 1;omega;congr 1;omega
theorem P7(h:zn a)(hl:X a<=4294967296)(e:2*X a<fu):zg (WK fu a) fu ([],0)=Z (uA (2*X a)<|nv a):=by refine zC (λs:N K×J=>∃k:K,k<=X a/\s=(uA (2*k)<|nv a,(k:J))) (λs=>X a-s.2.toNat) _ ?_ _ _ ⟨0,mT,O⟩ (by show X a-0<fu;omega);rintro s L ⟨k,f,rfl⟩ c;unfold WK;simp only;by_cases h1:k<X a;rw[yg,zp h1,F,F,zp h1,F,F,FE,va (by simp only[yZ,xaw,xbR];omega),F,zb,zhB h h1];exact c _ ⟨k+1,mT,O⟩ (by show X a-((k:J)+1).toNat<X a-(k:J).toNat;omega);grind
theorem xY(h:zn a)(hl:X a<=4294967296:=by omega)(c:2*X a<fu:=by omega):xK fu a=Z (VN<|nv a):=by grind [xK,Fe,vA,Y,P7,Kh,jk,yZ,XB,xap]
def zdI(h:xq d)(k:K):d.getD (2*k) 0+d.getD (2*k+1) 0*2^32=nw d/18446744073709551616^k%18446744073709551616:=by rw[b8 h,b8 h,ziM,<-xaD,Fe];omega
def zaJ{n:K}(h:xq d)(hl:X d<=4294967296)(hn:n=(X d+1)/2)(j:X d+1<fu):zg (Qy fu d) fu ([],0)=Z (vB n<|nw d):=by
 refine zC (λs:N K×J=>∃k:K,k<=n/\s=(vB k<|nw d,2*(k:J))) (λs=>2*n-s.2.toNat) _ ?_ _ _ ⟨0,mT,O⟩ (by show 2*n-0<fu;omega);rintro s L ⟨k,m,rfl⟩ c;unfold Qy;simp only;have f:2*(k:J)=((2*k:K):J):=mT
 have hp:=zdI h k;by_cases h1:2*k<X d;have d0:=h.getD<|2*k;have d1:=h.getD<|2*k+1;rw[f,yg,zp h1,F,zb];have g:((2*k:K):J)+1=((2*k+1:K):J):=mT
 have e:((2*k:K):J)+2=2*((k+1:K):J):=mT
 by_cases i:2*k+1<X d;rw[yg,zb,g,zp i,F,FE,F,F,va (by simp only[yi,xaw,xbR];omega),F,zb,e];refine c _ ⟨k+1,mT,?_⟩ (by show 2*n-(2*((k+1:K):J)).toNat<2*n-(((2*k:K):J)).toNat;omega);rw[aG,<-hp,xap mT,xap mT];rw[zF,va (by simp only[yi,xaw,xbR];omega),F,zb,e];refine c _ ⟨k+1,mT,?_⟩ (by show 2*n-(2*((k+1:K):J)).toNat<2*n-(((2*k:K):J)).toNat;omega);have z:d.getD (2*k+1) 0=0:=by rw[UV,xbA mT];rfl
 rw[z,xct,xbV]at hp;rw[aG,<-hp];rw[zF];obtain rfl:k=n:=mT
 rfl
def kf(h:xq d)(hl:X d<=4294967296)(c:X d+1<fu):qB fu d=Z (yM<|nw d):=by
 unfold qB;have⟨n,hn⟩:∃n,n=(X d+1)/2:=⟨_,O⟩;have e:nw d<18446744073709551616^n:=by rw[<-Fe];exact xac (Q1 h)<|xai m6 mT
 rw[Y<|zaJ h hl hn c,Y (de (wA _ _) (by rw[yi];omega)<|by rw[yi];omega),ud,xap e]
end
section
variable{o y a b:wF wP}{i m fu:wP}
theorem zea{T k x c:K}(d:i+k<X o)(h:nw o+4294967296^(i+k)*c=T+4294967296^i*(x*nw (y.take k))):
 nw (o.set (i+k)<|(x*y.getD k 0+o.getD (i+k) 0+c)%4294967296)+4294967296^(i+(k+1))*((x*y.getD k 0+o.getD (i+k) 0+c)/4294967296)=T+4294967296^i*(x*nw (y.take<|k+1)):=by grind [NH,uv,xcm,xfx,xbj,xee]
def zer(c:xq o){j v:K}(d:j<m)(hv:v<4294967296)(h:nw o<4294967296^m):nw (o.set j v)<4294967296^m:=by
 have e:(o.set j v).drop m=o.drop m:=List.drop_set_of_lt d;have h1:=zc0 (c.set j hv) m;have f:=zc0 c m;rw[e,f,xbm h]at h1;have hp:0<4294967296^m:=xaS m6;rcases xbW (nw<|o.set j v) (4294967296^m)with h3|h3
 exact h3;have:=Nat.div_pos h3 hp;lia
def za6(c:xq o)(h:nw o<4294967296^m):o.getD m 0=0:=by rw[b8 c,xbm h]
def zhp{x y o c:K}(d:x<4294967296)(e:y<4294967296)(f:o<4294967296)(hc:c<4294967296):x*y+o+c<18446744073709551616:=by have:x*y<=4294967295*4294967295:=xcb W W;lia
def LR{n:K}{x o0:N K}(j:xq x)(l:xq y)(hi:i<X x)(hn:n=X x+X y)(w:n<=4294967296)(h0:xq o0)(p:X o0=n)(q:nw o0=nw (x.take i)*nw y)(hl:nw o0<4294967296^(i+X y))(A:X y<fu):
 zg (U9 fu (i:J)) fu (x,y,0,0,o0)=Z (x,y,nw (x.take<|i+1)*nw y/4294967296^(i+X y),uA n<|nw (x.take<|i+1)*nw y%4294967296^(i+X y)):=by
 refine zC (λs:N K×N K×K×J×N K=>∃(c k:K) (o:N K),s=(x,y,c,(k:J),o)/\k<=X y/\c<4294967296/\xq o/\X o=n/\nw o<4294967296^(i+X y)/\nw o+4294967296^(i+k)*c=nw o0+4294967296^i*(x.getD i 0*nw (y.take k)))
  (λs=>X y-s.2.2.2.1.toNat) _ ?_ _ _ ⟨0,0,o0,O,W,W,h0,p,hl,by simp[nw]⟩ (by show X y-0<fu;lia)
 rintro s L ⟨c,k,o,rfl,B,hc,d,h,hd,f⟩ r;unfold U9;simp only;by_cases h1:k<X y;have e:(i:J)+(k:J)=((i+k:K):J):=W
 have bx:=j.getD i;have g:=l.getD k;have t:=d.getD<|i+k;have C:=zhp bx g t hc;rw[yg,zp hi,F,zp h1,F,F,e,zb,yn,F,F,F,zb,F,FQ,yn,F,F,FE,zb];have u:((x.getD i 0*y.getD k 0%18446744073709551616+o.getD (i+k) 0)%18446744073709551616+c)%18446744073709551616=x.getD i 0*y.getD k 0+o.getD (i+k) 0+c:=by
  generalize x.getD i 0*y.getD k 0=z at*
  lia
 rw[u];refine r _ ⟨_,k+1,_,O,W,?_,d.set _ (xaQ _ m6),by rw[xaP,h],zer d W (xaQ _ m6) hd,zea W f⟩ (by show X y-((k:J)+1).toNat<X y-(k:J).toNat;lia);generalize x.getD i 0*y.getD k 0+o.getD (i+k) 0+c=z at*
 lia;rw[zF];obtain rfl:k=X y:=W
 rw[xbQ,q]at f;have v:nw (x.take<|i+1)*nw y=nw (x.take i)*nw y+4294967296^i*(x.getD i 0*nw y):=by rw[uv,xbl,xbj]
 rw[<-v]at f;have hp:0<4294967296^(i+X y):=xaS m6;rw[<-f,xcD _ _ hp,xbm hd,xcs,xap hd,xaM];have:=b6 d;rw[h]at this;rw[this]
def zaw{x:N K}(c:xq x)(k:K):nw (x.take k)<4294967296^k:=by rw[N4 c];exact xaQ _<|xaS m6
def AI{x:N K}(c:xq x)(d:xq y)(k:K):nw (x.take k)*nw y<4294967296^(k+X y):=by rw[xbd];exact xcf (zaw c k)<|Q1 d
def Rk{n:K}{x:N K}(c:xq x)(d:xq y)(hn:n=X x+X y)(h:n<=4294967296)(t:n<fu):
 zg (UF fu x y) fu (0,uA n 0)=Z (uA n<|nw x*nw y):=by
 refine zC (λs:J×N K=>∃k:K,k<=X x/\s=((k:J),uA n<|nw (x.take k)*nw y)) (λs=>X x-s.1.toNat) _ ?_ _ _ ⟨0,W,by simp[nw]⟩ (by show X x-0<fu;lia);rintro s L ⟨k,u,rfl⟩ j;unfold UF;simp only;by_cases h1:k<X x;have l:=AI c d k;have hc:=AI c d<|k+1;have hi:4294967296^(k+X y)<=4294967296^n:=xai m6 W;have hv:nw (uA n<|nw (x.take k)*nw y)=nw (x.take k)*nw y:=by rw[XB,xap W]
 have e:(k:J)+(X y:J)=((k+X y:K):J):=W
 rw[yg,Y<|LR (n:=n) c d h1 hn h (jk _ _) (yZ _ _) hv (by rw[hv];exact l) W];simp only;rw[e,zb,zp (by rw[yZ];lia),F,zb];refine j _ ⟨k+1,W,?_⟩ (by show X x-((k:J)+1).toNat<X x-(k:J).toNat;lia);have p:nw (x.take<|k+1)*nw y/4294967296^(k+X y)<4294967296:=by rw[xaZ<|xaS m6];rw[(W:k+1+X y=(k+X y)+1),xbe,xaO<|4294967296^(k+X y)]at hc;exact hc
 have hp:0<4294967296^(k+X y):=xaS m6;generalize nw (x.take<|k+1)*nw y=S at*
 have q:=xaQ S hp;have f:nw (uA n<|S%4294967296^(k+X y))=S%4294967296^(k+X y):=by rw[XB,xap W]
 have r:=za6 (jk n<|S%4294967296^(k+X y)) (m:=k+X y) (by rw[f];exact q);have g:=NH (uA n<|S%4294967296^(k+X y)) (k+X y) (S/4294967296^(k+X y)) (by rw[yZ];lia);rw[r,f,xdv,xbV,xee]at g;have hd:=b6<|(jk n<|S%4294967296^(k+X y)).set (k+X y) p;rw[g,xaP,yZ]at hd;rw[hd];rfl;rw[zF];obtain rfl:k=X x:=W
 rw[xbQ]
def Qe(h:zn a):X (VN<|nv a)<=2*X a:=by rw[vn,Fe];exact vA h
def DU(c:zn a)(d:zn b)(hd:X a<=268435456)(j:X b<=268435456)(k:2*(X a+X b)+1<fu):
 Ua fu a b=Z (yM<|nv a*nv b):=by
 unfold Ua;have l1:=Qe c;have l:=Qe d;rw[Y<|xY c,Y<|xY d];have e1:nw (VN<|nv a)=nv a:=jh _;have h:nw (VN<|nv b)=nv b:=jh _;have f:=qQ<|nv a;have g:=qQ<|nv b;generalize VN (nv a)=x at*
 generalize VN (nv b)=y at*
 have e:X x+X y=((X x+X y:K):J):=W
 have hc:nv a*nv b<4294967296^(X x+X y):=by have:=AI f g (X x);simp_all
 rw[e,zb,yH,y9,F,<-tT,Y (Rk f g O W W),e1,h,Y (kf (jk _ _) (by rw[yZ];lia)<|by rw[yZ];lia),XB,xap hc]
theorem QK(e:X a<=1099511627776)(f:X a<fu):X8 fu a b=Z (decide<|a=b):=by
 unfold X8;by_cases hl:X a=X b;rw[yg,Y (v:=if a=b then .inl ()else .inr ())];grind;refine zC (λi:J=>∃k:K,i=(k:J)/\k<=X a/\a.take k=b.take k) (λi=>X a-i.toNat) _ ?_ _ _ ⟨0,O,W,O⟩ (by show X a-0<fu;lia);rintro i L ⟨k,rfl,g,ht⟩ c;unfold eK;by_cases h1:k<X a;rw[yg,zp h1,F,yn,F];by_cases d:a.getD k 0=b.getD k 0;rw[yg,zb];refine c _ ⟨k+1,W,W,?_⟩ (by show X a-((k:J)+1).toNat<X a-(k:J).toNat;lia);rw[xeZ,xeZ,ht,getD_some 0 h1,getD_some 0 (by lia:k<X b),d];grind;rw[zF];obtain rfl:k=X a:=W
 rw[xbQ,xaY W]at ht;rw[E ht];rw[zF,WF<|λh=>hl<|by rw[h]]
end
section
variable{fu:wP}{a b:Zr}
def zv(z:U):J:=if z.1=qR then-((nv z.2:K):J)else((nv z.2:K):J)
def yK(x:J):U:=(decide<|x<0,yM x.natAbs)
theorem zt(x:J):zv (yK x)=x:=by grind [yK,zv,zY]
def yJ(x:J):zn (yK x).2:=zw _
theorem vW(z:U):(zv z).natAbs=nv z.2:=by unfold zv;split<;>omega
theorem zhz(s:uS)(n:K):(if s=qR then if 0<((X (yM n):K):J)then Z (qR,yM n)else Z (I,yM n)else Z (I,yM n))=Z (yK (if s=qR then-(n:J)else(n:J))):=by grind [yK,N8,qI]
theorem yQ{s:uS}{a:N K}(h:zn a)(hl:X a<=17592186044416)(c:X a<fu):xt fu s a=Z (yK (if s=qR then-((nv a:K):J)else((nv a:K):J))):=by unfold xt;rw[Y<|VA h hl c];exact zhz s _
theorem QD{z:U}(h:zn z.2)(hl:X z.2<=17592186044416)(c:X z.2<fu):xh fu z=Z (yK<|zv z):=by unfold xh;rw[Y<|de h hl c];exact zhz z.1 _
def fc{z:U}(h:zn z.2)(hl:X z.2<=17592186044416)(c:X z.2<fu):qD fu z=Z (yK<|zv z):=by unfold qD;rw[Y<|yQ h hl c];rfl
theorem C4{x:J}(h0:0<=x)(h:x<18446744073709551616):((E4 x:K):J)=x:=by unfold E4;omega
theorem gH{x:K}(h:x<18446744073709551616):zn [x]:=zn.cons h zn.nil
theorem AF(x:K):nv [x]=x:=by simp[nv]
theorem b9{x:J}(h:Qp x)(c:1<fu:=by omega):yr fu x=Z (yK x):=by grind [yr,E4,F,Y,yQ,gH,AF]
theorem mZ{x:J}(h: -9223372036854775807<=x/\x<=9223372036854775807)(c:1<fu:=by omega):Kl fu x=Z (yK x):=by grind [Kl,zv,C4,vO,F,Y,QD,gH,AF]
theorem zcj(a b:U):(if(!(a.1==b.1))=qR then-((nv a.2*nv b.2:K):J)else((nv a.2*nv b.2:K):J))=zv a*zv b:=by grind [zv]
def mG(c:zn a.2)(d:zn b.2)(hc:X a.2<=1073741824)(hd:X b.2<=1073741824)(e:4*(X a.2+X b.2)+64<=fu):zQ fu a b=Z (yK<|zv a*zv b):=by unfold zQ;have hl:=Xh (xj c)<|xj d;rw[F,Y<|XW c d hc hd e,Y (yQ (zw _) mT mT),zY,<-zcj]
def DQ(c:zn a.2)(d:zn b.2)(hc:X a.2<=268435456)(hd:X b.2<=268435456)(e:2*(X a.2+X b.2)+1<fu):Xg fu a b=Z (yK<|zv a*zv b):=by unfold Xg;have hl:=Xh (xj c)<|xj d;rw[F,Y<|DU c d hc hd e,Y<|QD (zw _) (by show(yM _).length<=_;omega) (by show(yM _).length<_;omega)];rw[<-zcj];show Z (yK (if _ then-((nv (yM _):K):J)else((nv (yM _):K):J)))=_;rw[zY]
def Bu(hl:X a.2<=1099511627776)(c:X a.2<fu):Jq fu a b=Z (decide<|a=b):=by
 have⟨s,a⟩:=a;have⟨t,b⟩:=b;unfold Jq;rw[F];cases s<;>cases t
 simp only;rw[Y<|QK hl c];simp;simp;simp;simp only;rw[Y<|QK hl c];simp
theorem zjK{a:J}{e b:K}(h:bl a.natAbs*e<=b*64):X (yM (a^e).natAbs)<=b+1:=by rw[zN,Int.natAbs_pow];have h1:a.natAbs^e<=(2^bl a.natAbs)^e:=xeh (xcJ<|DS _) e;rw[<-xbM]at h1;have c:2^(bl a.natAbs*e)<=2^(64*b):=xai m6 mT;rw[xbM 2 64 b]at c;grind
theorem zhX(i:K)(h:i<=65536):zaY (i:J) 1=((i%2:K):J):=by grind [zaY,sgn,E4]
theorem zoN(i:K):xfX (i:J) (2^(min (((1:K):J)).toNat 64))=((i/2:K):J):=by grind
def zdh{n:K}{a:J}(hn:n<=65536)(l:bl a.natAbs*n<=262144)(r:65600<fu):
 zg (be fu) fu ((n:J),yK a,yK 1)=Z (yK<|a^n):=by
 have hc:∀e,e<=n->X (yM (a^e).natAbs)<=4097:=λe g=>zjK (b:=4096)<|xao (xaB _ g) l;refine zC (λs:J×U×U=>∃i d e:K,s=((i:J),yK<|a^d,yK<|a^e)/\e+d*i=n/\(0<i->d<=n)/\0<d) (λs=>s.1.toNat) _ ?_ _ _ ⟨n,1,0,by simp[xbS],mT,mT,mT⟩ (by show((n:J)).toNat<fu;omega);rintro s L ⟨i,d,e,rfl,g,hd,hi⟩ h;unfold be;simp only;have c:∀p q,p<=n->q<=n->zQ fu (yK<|a^p) (yK<|a^q)=Z (yK<|a^(p+q)):=by intro p q hp m;have h1:=hc p hp;have k:=hc q m;rw[mG (yJ _) (yJ _) (by show(yM _).length<=_;omega) (by show(yM _).length<=_;omega) (by show 4*(X (yM _)+X (yM _))+64<=fu;omega),zt,zt,Int.pow_add]
 by_cases h0:0<i;have f:=hd h0;have t:i<=n:=by have:=xei i hi;omega
 have j:d*i=d*(i/2)*2+d*(i%2):=by rw[xbj,<-xcm];congr 1;omega
 rw[yg,F,zhX i mT];by_cases h1:i%2=1
 rw[yg];rw[h1,xdQ]at j;rw[Y<|c e d mT f];by_cases k:1<i;have o:d*1<=d*(i/2):=xaB d mT;rw[yg,Y<|c d d f f,F,zoN];refine h _ ⟨i/2,d+d,e+d,O,?_,mT,mT⟩ (by show((i/2:K):J).toNat<(i:J).toNat;omega);rw[xbl];omega;rw[zF,F,zoN];refine h _ ⟨i/2,d,e+d,O,?_,mT,mT⟩ (by show((i/2:K):J).toNat<(i:J).toNat;omega);rw[(mT:i/2=0),xdv]at j⊢;omega;rw[zF];rw[(mT:i%2=0),xdv,xbV]at j;by_cases k:1<i;have o:d*1<=d*(i/2):=xaB d mT;rw[yg,Y<|c d d f f,F,zoN];refine h _ ⟨i/2,d+d,e,O,?_,mT,mT⟩ (by show((i/2:K):J).toNat<(i:J).toNat;omega);rw[xbl];omega;omega;rw[zF];obtain rfl:i=0:=mT
 rw[xdv,xbV]at g;rw[g]
theorem Gb{n:K}{z:U}(h:zn z.2)(hl:X z.2<=1000000)(hn:n<=65536)(d:1000100<fu):
 bZ fu z (n:J)=Z (if 262144<bl (nv z.2)*n then((I,[]),6)else(yK<|zv z^n,0)):=by
 unfold bZ;have c:=ziK h hl;have f:=xcb c hn;have e:((bl (nv z.2):K):J)*n=((bl (nv z.2)*n:K):J):=m7
 rw[zF,zF,Y O];simp only[xam,Z9];rw[Y (Vz h mT mT),zb];by_cases h1:262144<bl (nv z.2)*n;grind;rw[zF,P h1,Y (b9 m6 mT),Y (fc h mT mT),Y<|zdh hn (by rw[vW];omega) mT]
end
section
variable{d fu:wP}{p:wN}
def kU(p:K):Prop:=∀d,2<=d->d*d<=p->p%d≠0
open Classical in
noncomputable def qO(p:J):uS:=decide<|2<=p/\p<=65521/\kU p.toNat
open Classical in
def zfO{p:J}(h:2<=p/\p<=65521/\kU p.toNat):qO p=qR:=by unfold qO;exact Ww h
open Classical in
def Ik{p:J}(h:¬(2<=p/\p<=65521/\kU p.toNat)):qO p=I:=by unfold qO;exact WF h
def zb2(d:K):(d:J)*(d:J)=((d*d:K):J):=m7
def zmy{p:K}(h:p<=65521)(hd:d<=300:=by lia):d*d<=90000:=xao (xcb hd hd) m6
def zlX{p:K}(h:p<=65521)(hd:d*d<=p):d<256:=by
 obtain h1|h1:=xbW d 256
 exact h1;have:=xcb h1 h1;lia
def zao{p:K}(h:p<=65521)(m:400<fu):(kU p->zg (ZY fu (p:J)) fu (qR,2)=Z qR)/\(¬kU p->zg (ZY fu (p:J)) fu (qR,2)=Z I):=by
 constructor;intro hn;refine zC (λi:uS×J=>∃d:K,i=(qR,(d:J))/\2<=d/\d<=256) (λi=>300-i.2.toNat) _ ?_ _ _ ⟨2,O,W,W⟩ (by show 300-2<fu;lia);rintro i L ⟨d,rfl,j,c⟩ f;unfold ZY;simp only[Xs];have k:=zmy h (d:=d);rw[zb2,zb];by_cases a:d*d<=p;have b:=hn d j a;have:=zlX h a;have e:xcG (p:J) (d:J)=((p%d:K):J):=O;rw[yg,y9,F,e,zF,zb];exact f _ ⟨d+1,O,W,W⟩ (by show 300-((d:J)+1).toNat<300-(d:J).toNat;lia);rw[zF];intro hn;have⟨d0,g⟩:=Classical.not_forall.1 hn;have⟨hc,g⟩:=Classical.not_imp.1 g;have⟨a,b⟩:=Classical.not_imp.1 g;have b:p%d0=0:=Classical.not_not.1 b;have n:=zlX h a;refine zC (λi:uS×J=>∃d:K,i=(qR,(d:J))/\2<=d/\d<=d0) (λi=>300-i.2.toNat) _ ?_ _ _ ⟨2,O,W,W⟩ (by show 300-2<fu;lia);rintro i L ⟨d,rfl,j,c⟩ f;unfold ZY;simp only[Xs];have k:=zmy h (d:=d);have hd:=xcb c c;rw[zb2,zb];have e:xcG (p:J) (d:J)=((p%d:K):J):=O;rw[yg,y9,F,e];by_cases l:p%d=0
 rw[yg];rw[zF,zb];refine f _ ⟨d+1,O,W,?_⟩ (by show 300-((d:J)+1).toNat<300-(d:J).toNat;lia);obtain h8|h8:=xbW d d0
 exact h8;exact kW (by rw[(W:d=d0)];exact b) l
theorem Vh(f:400<fu):Zw fu p=Z (qO p):=by
 unfold Zw;have e:zg (ZY fu p) fu (I,2)=Z I:=by obtain⟨k,rfl⟩:∃k,fu=k+1:=⟨fu-1,W⟩;rfl
 by_cases a:2<=p;rw[E a];by_cases b:p<=65521
 rw[E b,Y O];obtain⟨q,rfl⟩:=xaE (by lia:0<=p);have⟨l1,g⟩:=zao (p:=q) W f;by_cases c:kU q;rw[Y<|l1 c,zfO ⟨a,b,c⟩];rw[Y<|g c,Ik (p:=q)<|λh=>c h.2.2];rw[P b,Y O,Y e];rw[Ik<|λh=>b h.2.1];rw[P a,Y O,Y e];rw[Ik<|λh=>a h.1]
noncomputable def sG(p k:J):U×J:=if qO p=qR/\1<=k/\k<=1000 then(yK<|p^k.toNat,0)else((I,[]),1)
def zB(h:qO p=qR):2<=p/\p<=65521:=by refine xad λhn=> ?_;rw[Ik<|λh=>hn ⟨h.1,h.2.1⟩]at h;cases h
def zn7(h:qO p=qR):bl (nv (yK p).2)<=16:=by have:=zB h;refine ae ?_;show nv (yM p.natAbs)<_;rw[zY];lia
def zjx{x:J}(h:x.natAbs<18446744073709551616):(yK x).2.length<=1:=by show(yM _).length<=1;rw[zN];lia
theorem Ze{k:J}(c:3000000<fu):ja fu p k=Z (sG p k):=by unfold ja sG;rw[Y<|Vh W];by_cases h1:qO p=qR;have e:=zB h1;rw[P<|by simp[h1]];by_cases a:k<1;grind;rw[P a];by_cases b:1000<k;simp_all;obtain⟨n,rfl⟩:=xaE (by lia:0<=k);have hl:=zjx (x:=p) W;have f:bl (nv (yK p).2)*n<=16*1000:=xcb (zn7 h1) W;rw[P b,cO ⟨h1,W,W⟩,Y<|b9 ⟨W,W⟩,Y (Gb (yJ p) W W W),zF,zt];rfl;simp_all
end
section
variable{fu k j:wP}{a b:Zr}{y:wN}
theorem gX{a b:J}:Zl fu a b=Z (kK a b):=by grind [Zl,YQ,Y,jb,qb,ur]
theorem aq{a b:K}:jC fu a b=Z (kK a b):=by grind [jC,uz,Y,jb,qb,ur]
theorem cD{a b:N K}(d:zn a)(f:zn b)(l:X a<=1000000:=by lia)(n:X b<=1000000:=by lia)(o:2000000<fu:=by lia):JI fu a b=Z (kK (nv a:K) (nv b:K)):=by
 unfold JI;have h1:=xj d;have p:=xj f;rw[Y (wm d W W),Y<|wm f W W];generalize nv a=x at*
 generalize nv b=y at*
 by_cases h:X (yM x)=X (yM y);rw[yg,zb];by_cases hc:x=y;subst hc;rw[Y (v:=.inl ())];rw[ur O];refine zC (λi:J=>∃m:K,i=(m:J)-1/\m<=X (yM x)) (λi=>(i+1).toNat) _ ?_ _ _ ⟨_,O,Nm _⟩ W;rintro i L ⟨m,rfl,g⟩ c;unfold gh;by_cases h0:m=0
 rw[zF];have e:(m:J)-1=((m-1:K):J):=W
 rw[yg,e,yn,F,yn,F,E O,zb];exact c _ ⟨m-1,O,W⟩ W
 rw[Y (v:=.inr<|kK x y)];refine zC (λi:J=>∃m:K,i=(m:J)-1/\m<=X (yM x)/\x/18446744073709551616^m=y/18446744073709551616^m) (λi=>(i+1).toNat) _ ?_ _ _ ⟨_,O,Nm _,zhl h⟩ W;rintro i L ⟨m,rfl,g,ht⟩ c;unfold gh;by_cases h0:m=0
 subst h0;rw[xeo,xef,xef]at ht;exact kW ht hc;have e:(m:J)-1=((m-1:K):J):=W
 rw[yg,e,yn,F,yn,F];by_cases hd:(yM x).getD (m-1) 0=(yM y).getD (m-1) 0;rw[E (by rw[hd]),zb];exact c _ ⟨m-1,O,W,zhI W ht hd⟩ W
 rw[zF,yn,F,yn,F,Y aq,zd2 W ht hd];rw[zF,Y gX,zkb h]
def lF(z:U):Prop:=zn z.2/\X z.2<=100000
def Bz(k:K)(x:J):Prop:=x.natAbs<18446744073709551616^k
def Bz.ok{x:J}(h:Bz k x)(c:k<=100000):lF (yK x):=⟨yJ x,xao ((zN _ _).2 h) c⟩
theorem Bz.of{z:U}(h:zn z.2):Bz (X z.2) (zv z):=by grind [Bz,vW,vA]
def Bz.mono{x:J}(h:Bz j x)(c:j<=k):Bz k x:=xac h<|xai m6 c
def lF.bz{z:U}(h:lF z):Bz 100000 (zv z):=(Bz.of h.1).mono h.2
theorem Bz.neg{x:J}(h:Bz k x):Bz k (-x):=by unfold Bz at*;rw[xey];exact h
theorem Bz.add{x:J}(c:Bz k x)(d:Bz k y):Bz (k+1) (x+y):=by grind [Bz]
theorem Bz.sub{x:J}(c:Bz k x)(d:Bz k y):Bz (k+1) (x-y):=by grind [Bz.add,Bz.neg]
def Bz.mul{x:J}(c:Bz j x)(d:Bz k y):Bz (j+k) (x*y):=by unfold Bz at*;rw[xcl,xbd];exact xcf c d
def Bz.le{x:J}(c:Bz k y)(h:x.natAbs<=y.natAbs):Bz k x:=xaI h c
theorem wh(z:U):(z.1=qR/\zv z= -((nv z.2:K):J))\/(z.1=I/\zv z=((nv z.2:K):J)):=by grind [zv]
theorem uD{z:U}(h:lF z)(c:3000000<=fu):qD fu z=Z (yK<|zv z):=fc h.1 (by have:=h.2;lia) (by have:=h.2;lia)
def U1{z:U}(h:lF z)(d:3000000<=fu):Zq fu z=Z (yK (-zv z)):=by unfold Zq;have:=h.2;rw[Y<|yQ h.1 W W];rcases wh z with⟨h1,c⟩|⟨h1,c⟩<;>rw[h1,c]<;>simp
theorem qH(e:lF a)(f:lF b)(o:3000000<=fu):qh fu a b=Z (yK<|zv a+zv b):=by
 unfold qh;have l:=e.2;have m:=f.2;have p:X (yM<|nv a.2+nv b.2)<=100001:=Zm (xao (xj e.1) l)<|xao (xj f.1) m;rw[F];by_cases i:a.1=b.1;rw[E (by simp[i]),Y<|Yj e.1 f.1,Y (yQ (zw _) W W),zY];rcases wh a with⟨h1,c⟩|⟨h1,c⟩<;>rcases wh b with⟨g,d⟩|⟨g,d⟩
 grind;simp_all;rw[h1,g]at i;cases i
 rw[h1,c,d,P m6];congr 2;rw[P<|by simp[i]];rw[Y<|cD e.1 f.1];by_cases hc:nv a.2<nv b.2;have hd:X (yM<|nv b.2-nv a.2)<=100000:=xao (Ku<|xff _ _)<|xao (xj f.1) m;rw[jb W,E m6,Y O];simp only;rw[Y (Jj f.1 e.1 W W W),zF];simp only;rw[Y (yQ (zw _) W W),zY];rcases wh a with⟨h1,c⟩|⟨h1,c⟩<;>rcases wh b with⟨g,d⟩|⟨g,d⟩<;>rw[g,c,d]<;>simp_all
 congr 1;lia;congr 1;lia;have hd:X (yM<|nv a.2-nv b.2)<=100000:=xao (Ku<|xff _ _)<|xao (xj e.1) l;have n:¬kK ((nv a.2:K):J) ((nv b.2:K):J)<0:=by
  rcases xbW (nv b.2) (nv a.2)with h|h
  rw[qb W];decide;rw[ur W];decide
 rw[P n,Y O];simp only;rw[Y (Jj e.1 f.1 W W W),zF];simp only;rw[Y (yQ (zw _) W W),zY];rcases wh a with⟨h1,c⟩|⟨h1,c⟩<;>rcases wh b with⟨g,d⟩|⟨g,d⟩<;>rw[h1,c,d]<;>simp_all
 congr 1;lia;congr 1;lia
def qx(e:lF a)(c:lF b)(d:3000000<=fu):qP fu a b=Z (yK<|zv a-zv b):=by unfold qP;have h1:=(Bz.neg c.bz).ok<|Nm _;rw[Y<|U1 c d,Y<|qH e h1 d,zt];congr 2
theorem CM{x:J}:0<(((yK x).2.length:K):J)↔x≠0:=by grind [yK,N8,qI]
theorem Ji(x:J):(yK x).1=qR↔x<0:=by unfold yK;simp
theorem xi{z:U}(h:lF z)(c:3000000<=fu):xO fu z=Z (kK (zv z) 0):=by grind [xO,Y,uD,Ji,vO,jb,CM,ur,qb]
theorem zfi(x y:J):kK (x-y) 0=kK x y:=by grind [jb,ur,qb]
def YE(c:lF a)(d:lF b)(e:3000000<=fu)(hl:X a.2<=99999:=by lia)(hc:X b.2<=99999:=by lia):kX fu a b=Z (kK (zv a)<|zv b):=by unfold kX;have h1:=((Bz.of c.1).mono hl).sub<|(Bz.of d.1).mono hc;rw[Y<|qx c d e,Y<|xi (h1.ok<|Nm _) e,zt,zfi]
def ya(c:lF a)(d:lF b)(e:3000000<=fu):zQ fu a b=Z (yK<|zv a*zv b):=by have:=c.2;have:=d.2;exact mG c.1 d.1 W W W
def yw{x:J}(h:Qp x)(c:3000000<=fu):yr fu x=Z (yK x):=b9 h
end
section
variable{fu k B i:wP}{a y b:wF wP}
theorem xT:qS fu a (k:J)=Z (a.getD k 0):=by grind [qS,zp,F]
def zbS{x y:K}(d:0<B)(h:x/B^(k+1)=y/B^(k+1))(hd:x/B^k%B<y/B^k%B):x<y:=by have h1:=JT x B k d;have f:=JT y B k d;rw[h]at h1;refine xdw λe=> ?_;have:=Nat.div_le_div_right (c:=B^k) e;omega
theorem zll{x y:K}(c:0<B)(h:x/B^(k+1)=y/B^(k+1))(hd:x/B^k%B=y/B^k%B):x/B^k=y/B^k:=by grind [JT]
def J1(g:xq a)(h:xq b)(l:X a<=1000000)(n:X b<=1000000)(o:2000000<fu):uM fu a b=Z (kK (nw a:K) (nw b:K)):=by
 unfold uM;have e1:max (X a:J) (X b:J)=((max (X a) (X b):K):J):=mT
 rw[F,e1,zb];have t0:nw a/4294967296^(max (X a) (X b))=nw b/4294967296^(max (X a) (X b)):=by have h1:nw a<4294967296^(max (X a) (X b)):=xac (Q1 g)<|xai m6<|xeg _ _;have d:nw b<4294967296^(max (X a) (X b)):=xac (Q1 h)<|xai m6<|xdP _ _;rw[xbm h1,xbm d]
 have g1:∀k,a.getD k 0=nw a/4294967296^k%4294967296:=b8 g;have c:∀k,b.getD k 0=nw b/4294967296^k%4294967296:=b8 h;by_cases hc:nw a=nw b;rw[Y (v:=.inl ())];rw[hc,ur O];refine zC (λi:J=>∃m:K,i=(m:J)-1/\m<=max (X a) (X b)) (λi=>(i+1).toNat) _ ?_ _ _ ⟨_,O,Nm _⟩ mT;rintro i L ⟨m,rfl,j⟩ f;unfold XI;by_cases h0:m=0
 rw[zF];have e:(m:J)-1=((m-1:K):J):=mT
 rw[yg,e,Y xT,Y xT,g1,c,hc,zF,Y xT,Y xT,g1,c,hc,zF,zb];exact f _ ⟨m-1,O,mT⟩ mT
 rw[Y (v:=.inr<|kK (nw a:K) (nw b:K))];refine zC (λi:J=>∃m:K,i=(m:J)-1/\m<=max (X a) (X b)/\nw a/4294967296^m=nw b/4294967296^m) (λi=>(i+1).toNat) _ ?_ _ _ ⟨_,O,Nm _,t0⟩ mT;rintro i L ⟨m,rfl,j,ht⟩ f;unfold XI;by_cases h0:m=0
 subst h0;rw[xeo,xef,xef]at ht;exact kW ht hc;have e:(m:J)-1=((m-1:K):J):=mT
 have hd:nw a/4294967296^(m-1+1)=nw b/4294967296^(m-1+1):=by rw[(mT:m-1+1=m)];exact ht
 rw[yg,e,Y xT,Y xT];by_cases h1:a.getD (m-1) 0<b.getD (m-1) 0;rw[yg,jb];rw[g1,c]at h1;have:=zbS m6 hd h1;omega;rw[zF,Y xT,Y xT];by_cases d:b.getD (m-1) 0<a.getD (m-1) 0;rw[yg,qb];rw[g1,c]at d;have:=zbS m6 hd.symm d;omega;rw[zF,zb];refine f _ ⟨m-1,O,mT,zll m6 hd ?_⟩ mT;rw[<-g1,<-c];omega
theorem NQ{x t:N K}{c:K}(ht:X t=i)(h:nw t+4294967296^i*c=nw (x.take i)+nw (y.take i)):
 nw (t++[(x.getD i 0+y.getD i 0+c)%4294967296])+4294967296^(i+1)*((x.getD i 0+y.getD i 0+c)/4294967296)=nw (x.take<|i+1)+nw (y.take<|i+1):=by grind [CF,uv,xbt]
def gG(d:zn a)(e:zn b)(q:X a<=200000)(r:X b<=200000)(u:2000000<fu):VV fu a b=Z (yM<|nv a+nv b):=by
 unfold VV;rw[Y (xY d mT mT),Y<|xY e mT mT];have l1:=Qe d;have w:=Qe e;have f:=qQ<|nv a;have g:=qQ<|nv b;have v1:=jh<|nv a;have l:=jh<|nv b;generalize VN (nv a)=x at*
 generalize VN (nv b)=y at*
 have⟨n,hn⟩:∃n,n=max (X x) (X y)+1:=⟨_,O⟩;have hd:nw x+nw y<4294967296^n:=by have h1:nw x<4294967296^(max (X x) (X y)):=xac (Q1 f)<|xai m6<|xeg _ _;have z:nw y<4294967296^(max (X x) (X y)):=xac (Q1 g)<|xai m6<|xdP _ _;rw[hn,xbe];omega
 rw[Y (v:=uA n<|nw x+nw y)];rw[Y (kf (jk _ _) (by rw[yZ];omega)<|by rw[yZ];omega),XB,xap hd,v1,l];refine zC (λs:N K×K×J=>∃(t:N K) (c i:K),s=(t,c,(i:J))/\i<=n/\X t=i/\xq t/\c<=1/\nw t+4294967296^i*c=nw (x.take i)+nw (y.take i)) (λs=>n-s.2.2.toNat) _ ?_ _ _ ⟨[],0,0,O,mT,O,xq.nil,mT,by simp[nw]⟩ (by show n-0<fu;omega);rintro s L ⟨t,c,i,rfl,hi,ht,j,hc,hv⟩ m;unfold mi;simp only;have e1:max (X x:J) (X y:J)=((max (X x) (X y):K):J):=mT
 rw[F,e1,zb];by_cases h1:i<n;have b1:=f.getD i;have b2:=g.getD i;have o:((x.getD i 0+y.getD i 0)%18446744073709551616+c)%18446744073709551616=x.getD i 0+y.getD i 0+c:=mT
 rw[yg,Y xT,Y xT,F,F,F,FQ,o,va (by simp[ht];omega),F,F,FE,zb];refine m _ ⟨_,_,i+1,O,mT,by simp[ht],j.append<|xq.cons (xaQ _ m6) xq.nil,mT,NQ ht hv⟩ (by show n-((i:J)+1).toNat<n-(i:J).toNat;omega);rw[zF];obtain rfl:i=n:=mT
 rw[xaY mT,xaY mT]at hv;have hp:0<4294967296^i:=xaS m6;have p:c=0:=by
  obtain h|h:=xcw c
  exact h;have:4294967296^i*1<=4294967296^i*c:=xaB _ h;omega
 subst p;rw[xdv,xbV]at hv;rw[<-hv,<-ht,b6 j]
theorem Gz{x t:N K}{b D:K}(ht:X t=i)(c:D+y.getD i 0+b=x.getD i 0+4294967296)(h:nw t+nw (y.take i)=nw (x.take i)+4294967296^i*b)(d:D<8589934592):
 nw (t++[D%4294967296])+nw (y.take<|i+1)=nw (x.take<|i+1)+4294967296^(i+1)*(1-D/4294967296):=by
 rw[CF,ht,uv,uv,xbe];have hd:D/4294967296=0\/D/4294967296=1:=mT
 have e1:4294967296^i*(D%4294967296)+4294967296^i*y.getD i 0+4294967296^i*b+4294967296^i*4294967296*(D/4294967296)=4294967296^i*x.getD i 0+4294967296^i*4294967296:=by rw[xbj,<-xcm,<-xcm,<-xcm,<-xcm];grind
 grind
def cV{x:N K}(e:xq x)(f:xq y)(hl:X x<=1000000)(o:2000000<fu)(h:nw y<=nw x):XY fu x y=Z (VN<|nw x-nw y):=by
 unfold XY;have p:=Q1 e;have g:nw (y.take (X x))=nw y:=by rw[N4 f,xap mT]
 have c:∃t,xq t/\X t=X x/\nw t=nw x-nw y/\zg (Ki fu x y) fu ([],0,0)=Z t:=by
  refine⟨uA (X x)<|nw x-nw y,jk _ _,yZ _ _,by rw[XB,xap mT],?_⟩;refine zC (λs:N K×K×J=>∃(t:N K) (b i:K),s=(t,b,(i:J))/\i<=X x/\X t=i/\xq t/\b<=1/\nw t+nw (y.take i)=nw (x.take i)+4294967296^i*b) (λs=>X x-s.2.2.toNat) _ ?_ _ _ ⟨[],0,0,O,mT,O,xq.nil,mT,by simp[nw]⟩ (by show X x-0<fu;omega);rintro s L ⟨t,b,i,rfl,hi,ht,d,q,hv⟩ j;unfold Ki;simp only;by_cases h1:i<X x;have b1:=e.getD i;have b2:=f.getD i;have⟨D,hd⟩:∃D,D=x.getD i 0+4294967296-y.getD i 0-b:=⟨_,O⟩;have l:(((x.getD i 0+4294967296)%18446744073709551616+18446744073709551616-y.getD i 0)%18446744073709551616+18446744073709551616-b)%18446744073709551616=D:=mT
  have m:(1+18446744073709551616-D/2^32)%18446744073709551616=1-D/4294967296:=mT
  rw[yg,Y xT,F,Y xT,F,F,F,FQ,l,va (by simp[ht];omega),F,F,FE,F,m,zb];exact j _ ⟨_,_,i+1,O,mT,by simp[ht],d.append<|xq.cons (xaQ _ m6) xq.nil,mT,Gz ht mT hv mT⟩ (by show X x-((i:J)+1).toNat<X x-(i:J).toNat;omega);rw[zF];obtain rfl:i=X x:=mT
  rw[g,xbQ]at hv;have n:=Q1 d;rw[ht]at n;have hc:b=0:=by
   obtain h|h:=xcw b
   exact h;have:4294967296^X x*1<=4294967296^X x*b:=xaB _ h;omega
  subst hc;rw[xdv,xbV]at hv;rw[(mT:nw x-nw y=nw t),<-ht,b6 d]
 have⟨t,k1,k2,k3,k4⟩:=c;rw[Y k4,Y (Kh k1 mT mT),k3]
def Kt(c:zn a)(d:zn b)(hd:X a<=200000)(j:X b<=200000)(e:2000000<fu):
 Xc fu a b=Z (if nv a<nv b then([],1)else(yM<|nv a-nv b,0)):=by
 unfold Xc;rw[Y (xY c mT mT),Y<|xY d mT mT];have l1:=Qe c;have l:=Qe d;have f:=qQ<|nv a;have g:=qQ<|nv b;rw[Y<|J1 f g mT mT e,jh,jh];by_cases h:nv a<nv b;rw[jb mT,E m6,E h];have hc:¬kK ((nv a:K):J) ((nv b:K):J)<0:=by
  rcases xbW (nv b) (nv a)with h|h
  rw[qb mT];decide;rw[ur mT];decide
 have m:X (VN<|nv a-nv b)<=2*X a:=by rw[vn,Fe];exact xaI (xff _ _)<|vA c
 rw[P hc,P h,Y (cV f g mT e<|by rw[jh,jh];omega),jh,jh,Y (kf (qQ _) mT mT),jh]
def xl{z:U}(h:zn z.2)(hl:X z.2<=200000)(c:3000000<=fu):xh fu z=Z (yK<|zv z):=QD h mT mT
def EK(s:uS)(n:K):zv (s,yM n)=if s=qR then-(n:J)else(n:J):=by unfold zv;rw[zY]
def Ee{z:U}(h:lF z)(c:3000000<=fu):K2 fu z=Z (yK (-zv z)):=by
 unfold K2;have:=h.2;rw[Y<|xl (z:=(!z.1,z.2)) h.1 (by show X z.2<=_;omega) c];rcases wh z with⟨h1,d⟩|⟨h1,d⟩
 skip;unfold zv;simp[h1];skip;unfold zv;simp[h1]
theorem gi{a b:U}(g:lF a)(h:lF b)(j:3000000<=fu):Qj fu a b=Z (yK<|zv a+zv b):=by
 unfold Qj;have l:=g.2;have m:=h.2;have n:X (yM<|nv a.2+nv b.2)<=100001:=Zm (xao (xj g.1) l)<|xao (xj h.1) m;rw[F];by_cases d:a.1=b.1;rw[E (by simp[d]),Y (gG g.1 h.1 mT mT mT),Y<|xl (z:=(a.1,yM<|nv a.2+nv b.2)) (zw _) (by show(yM _).length<=_;omega) j,EK];rcases wh a with⟨h1,e⟩|⟨h1,e⟩<;>rcases wh b with⟨c,f⟩|⟨c,f⟩
 grind;simp_all;simp_all;rw[h1,e,f,P m6];congr 2;rw[P (by simp[d]),Y<|Kt g.1 h.1 mT mT mT];by_cases hc:nv a.2<nv b.2;have hd:X (yM<|nv b.2-nv a.2)<=100000:=xao (Ku<|xff _ _)<|xao (xj h.1) m;rw[E hc];simp only;rw[P m6,Y (Kt h.1 g.1 mT mT mT),zF];simp only;rw[Y<|xl (z:=(b.1,yM<|nv b.2-nv a.2)) (zw _) (by show(yM _).length<=_;omega) j,EK];rcases wh a with⟨h1,e⟩|⟨h1,e⟩<;>rcases wh b with⟨c,f⟩|⟨c,f⟩
 rw[h1,c]at d;exact kW O d;rw[c,e,f,P m6];congr 2;omega;rw[c,e,f,E O];congr 2;omega;rw[h1,c]at d;exact kW O d;have hd:X (yM<|nv a.2-nv b.2)<=100000:=xao (Ku<|xff _ _)<|xao (xj g.1) l;rw[P hc];simp only;rw[E ul,Y<|xl (z:=(a.1,yM<|nv a.2-nv b.2)) (zw _) (by show(yM _).length<=_;omega) j,EK];rcases wh a with⟨h1,e⟩|⟨h1,e⟩<;>rcases wh b with⟨c,f⟩|⟨c,f⟩
 rw[h1,c]at d;exact kW O d;rw[h1,e,f,E O];congr 2;omega;rw[h1,e,f,P m6];congr 2;omega;rw[h1,c]at d;exact kW O d
def QU{z:U}(h:lF z)(d:3000000<=fu):Yb fu z=Z (kK (zv z) 0):=by
 unfold Yb;have:=h.2;rw[Y<|xl h.1 mT d];by_cases h1:zv z<0;rw[E<|(Ji _).2 h1,jb h1];rw[P<|λe=>h1<|(Ji _).1 e];by_cases c:zv z=0
 rw[P<|λe=>CM.1 e c,ur c];rw[E<|CM.2 c,qb mT]
def db{a b:U}(c:lF a)(d:lF b)(e:3000000<=fu):Xg fu a b=Z (yK<|zv a*zv b):=by have:=c.2;have:=d.2;exact DQ c.1 d.1 mT mT mT
end
section
variable{b v1 v0 u w q r fu y s lo:wP}
theorem zgJ(a:q*v1+r=u)(h:q*v0<=b*r+w):q*(v1*b+v0)<=u*b+w:=by grind [xcm,xbj,xbl,xaO]
theorem zdO(a:q*v1+r=u)(h:b*r+w<q*v0):u*b+w<q*(v1*b+v0):=by grind [xcm,xbj,xbl,xaO]
def tE(hv:0<v1*b+v0)(a:q*v1+r=u)(hc:(u*b+w)/(v1*b+v0)<=q:=by lia)(h:q*v0<=b*r+w:=by lia):q=(u*b+w)/(v1*b+v0):=
 xcK ((xcy hv).2<|zgJ a h) hc
theorem zeN(hv:0<v1*b+v0)(a:q*v1+r=u)(h:b*r+w<q*v0):(u*b+w)/(v1*b+v0)<=q-1/\0<q/\(q-1)*v1+(r+v1)=u:=by
 have h0:0<q:=by
  obtain h0|h0:=xcw q
  simp_all;exact h0
 have h1:=(xaZ hv).2<|zdO a h;obtain⟨p,rfl⟩:∃p,q=p+1:=⟨q-1,W⟩;grind
theorem zaF(a:u<v1*b+v0)(c:v0<b)(hc:q*v1+r=u)(d:b<=r):q<b:=by refine xdw λh=> ?_;have:b*v1<=q*v1:=xag _ h;grind
def za7(a:q<b)(c:v0<b)(d:b<=r):q*v0<=b*r+w:=by have h1:=xcb (xcJ a)<|xcJ c;have e:b*b<=b*r:=xaB _ d;lia
theorem cy(a:u<v1*b+v0)(c:w<b:=by lia):(u*b+w)/(v1*b+v0)<b:=by
 have hv:0<v1*b+v0:=W
 rw[xaZ hv];have:(u+1)*b<=(v1*b+v0)*b:=xag _ a;grind
def Fc{β:Type}(mk:K->K->β)(ms:β->K)(hc:∀q r,ms (mk q r)=2-r/2147483648){f:(β->V K)->β->V K}(h1:2147483648<=v1)(z:v1<4294967296)(h0:v0<4294967296)(g:u<v1*4294967296+v0)(l:w<4294967296)(B:10<fu)(m:∀(q r:K) (L:β->V K),q<18446744073709551616->r<4294967296->q*v0<18446744073709551616\/4294967296<=q->
 f L (mk q r)=if 4294967296<=q then(if 4294967296<=r+v1 then Z (q-1)else L (mk (q-1)<|r+v1))else if 4294967296*r+w<q*v0 then(if 4294967296<=r+v1 then Z (q-1)else L (mk (q-1)<|r+v1))else Z q):
 zg f fu (mk (u/v1)<|u%v1)=Z ((u*4294967296+w)/(v1*4294967296+v0)):=by
 have hv:0<v1*4294967296+v0:=W
 have C:=cy g l;have hi:u/v1<18446744073709551616:=by rw[xaZ W];lia
 refine zC (λs:β=>∃q r,s=mk q r/\q<18446744073709551616/\r<4294967296/\q*v1+r=u/\(u*4294967296+w)/(v1*4294967296+v0)<=q) ms _ ?_ _ _ ⟨_,_,O,hi,?_,?_,?_⟩<|by rw[hc];lia
 rintro s L ⟨q,r,rfl,n,o,i,t⟩ j;have v:q*v0<18446744073709551616\/4294967296<=q:=by
  obtain h|h:=xbW q 4294967296
  left;exact xcf (a:=q) (b:=v0) (c:=4294967296) (d:=4294967296) h h0;exact .inr h
 rw[m q r L n o v];by_cases k:4294967296<=q;rw[E k];have hd:(q-1)*v1+(r+v1)=u:=by obtain⟨p,rfl⟩:∃p,q=p+1:=⟨q-1,W⟩;rw[xbl]at i;simp only[xfk];lia
 by_cases e:4294967296<=r+v1;rw[E e,<-tE hv hd W<|za7 (zaF g h0 hd e) h0 e];rw[P e];exact j _ ⟨_,_,O,W,W,hd,W⟩<|by rw[hc,hc];lia
 rw[P k];by_cases ht:4294967296*r+w<q*v0;have⟨d1,d2,d3⟩:=zeN hv i ht;rw[E ht];by_cases e:4294967296<=r+v1;rw[E e,<-tE hv d3 d1<|za7 (zaF g h0 d3 e) h0 e];rw[P e];exact j _ ⟨_,_,O,W,W,d3,d1⟩<|by rw[hc,hc];lia
 rw[P ht,<-tE hv i t];have:=xaQ u (W:0<v1);lia;rw[xaO];exact xbt u v1;rw[xcy W];have x:(u*4294967296+w)/(v1*4294967296+v0)*(v1*4294967296+v0)<=u*4294967296+w:=xcL _ _;generalize(u*4294967296+w)/(v1*4294967296+v0)=Q at*
 rw[xcm,<-xbj]at x;generalize Q*v1=A at*
 lia
theorem Ma{x:K}(h:y<2^s):x*2^s|||y=x*2^s+y:=by grind [xaO,Nat.two_pow_add_eq_or_of_lt]
def Sv(h0:0<y)(h:y<18446744073709551616):bl y<=64/\9223372036854775808<=y*2^(64-bl y)/\y*2^(64-bl y)<18446744073709551616:=by
 have h1:=ae (k:=64) (by simpa using h);have a:=DS y;refine⟨h1,?_,?_⟩;have hp:1<=bl y:=by rw[dN h0];lia
 have c:2^(bl y-1)<=y:=by refine xbx λhc=> ?_;have:=ae hc;lia
 have e:9223372036854775808=2^(bl y-1)*2^(64-bl y):=by rw[<-xbd,(W:bl y-1+(64-bl y)=63)]
 rw[e];exact xag _ c;have e:18446744073709551616=2^bl y*2^(64-bl y):=by rw[<-xbd,(W:bl y+(64-bl y)=64)]
 rw[e];exact xbG a<|xaS m6
def PK(a:lo<18446744073709551616)(c:s<=64):lo*2^s=lo/2^(64-s)*18446744073709551616+lo*2^s%18446744073709551616/\lo/2^(64-s)<2^s:=by
 have e:18446744073709551616=2^(64-s)*2^s:=by rw[<-xbd,(W:64-s+s=64)]
 have hp:0<2^s:=xaS m6;have d:lo*2^s/18446744073709551616=lo/2^(64-s):=by rw[e,xfF _ _ hp]
 refine⟨W,?_⟩;rw[xaZ (xaS m6),xaO,<-e];exact a
theorem ny{x w1 w0:K}(a:0<y)(c:0<b)(d:w0<b):((x*b+w1)*b+w0)/y=(x*b+w1)/y*b+((x*b+w1)%y*b+w0)/y/\((x*b+w1)*b+w0)%y=((x*b+w1)%y*b+w0)%y:=by
 generalize x*b+w1=X;have h:=xbt X y;have e:X*b+w0=X%y*b+w0+y*(X/y*b):=by grind
 rw[e];constructor;rw[xcD _ _ a];lia;simp_all
def zqo{a:K}(c:a<4294967296)(d:b<4294967296):(a*4294967296%18446744073709551616+b)%18446744073709551616=a*4294967296+b:=W
theorem kV{x:K}(a:x<18446744073709551616):xL fu x=Z ((64-bl x:K):J):=by unfold xL;have h:=ae (k:=64) (by simpa using a);rw[Y<|jx a,zb];grind
def VP{hi:K}(hn:lo<18446744073709551616)(H:y<18446744073709551616)(S:hi<y)(M:10<fu):
 jE fu hi lo y=Z ((hi*18446744073709551616+lo)/y,(hi*18446744073709551616+lo)%y):=by
 unfold jE;rw[zF,zF];by_cases h0:hi=0
 subst h0;rw[E O,y9,F,y9,F,xct,xaM];rw[zF,za<|kV H];have⟨n1,n2,l⟩:=Sv (y:=y) W H;have⟨s,T⟩:∃s,s=64-bl y:=⟨_,O⟩;rw[<-T]at n2 l⊢;have U:s<=64:=W
 have eu:E4 (s:J)=s:=by have:=C4 (x:=(s:J)) W W;lia
 have em:min (s:J).toNat 64=s:=W
 have e8:(64+18446744073709551616-s)%18446744073709551616=64-s:=W
 have n:min (((64-s:K):K):J).toNat 64=64-s:=W
 have⟨Y,c⟩:∃Y,Y=y*2^s:=⟨_,O⟩;rw[<-c]at n2 l;have⟨w1,w2⟩:=PK hn U;have hp:0<2^s:=xaS m6;have hz:hi*2^s+2^s<=Y:=by have:(hi+1)*2^s<=y*2^s:=xag _ S;rw[xbl,xcH]at this;rw[c];exact this
 simp only[nm,eu,em,e8,n,FQ,FE];rw[<-c,xap l,xap (W:hi*2^s<18446744073709551616),Ma w2];have⟨u,o⟩:∃u,u=hi*2^s+lo/2^(64-s):=⟨_,O⟩;have⟨t,ht⟩:∃t,t=lo*2^s%18446744073709551616:=⟨_,O⟩;have hv:t<18446744073709551616:=by rw[ht];exact xaQ _ m6
 rw[<-o,<-ht];have hd:u<Y:=W
 have ho:(hi*18446744073709551616+lo)*2^s=u*18446744073709551616+t:=by rw[xbl,w1,o,<-ht,xbl,Nat.mul_right_comm];lia
 have e:Y=Y/4294967296*4294967296+Y%4294967296:=W
 have N:2147483648<=Y/4294967296:=W
 have Q:Y/4294967296<4294967296:=W
 have a0:Y%4294967296<4294967296:=W
 have step:∀{u w:K},u<Y->w<4294967296->(u*4294967296+w)/(Y/4294967296*4294967296+Y%4294967296)=(u*4294967296+w)/Y:=by intro u w _ _;rw[<-e]
 have ew:Y/2^32=Y/4294967296:=O;have et:t/2^32=t/4294967296:=O;rw[ew,et,y9];have f:∀{u:K},u<Y->(u+18446744073709551616-u/(Y/4294967296)*(Y/4294967296)%18446744073709551616)%18446744073709551616=u%(Y/4294967296):=by
  intro u o;have h1:=xbt u<|Y/4294967296;rw[xaO]at h1;have p:u/(Y/4294967296)*(Y/4294967296)<=u:=W
  rw[xap (W:u/(Y/4294967296)*(Y/4294967296)<18446744073709551616)];lia
 have body:∀{q r w:K},q<18446744073709551616->r<4294967296->w<4294967296->(q*(Y%4294967296)<18446744073709551616\/4294967296<=q)->∀(A B C:V K),(4294967296<=r+Y/4294967296->A=Z (q-1))->(¬4294967296<=r+Y/4294967296->A=B)->C=Z q->
  (if((4294967296:K):J)<=(q:J)then A else if(((4294967296*r%18446744073709551616+w)%18446744073709551616:K):J)<((q*(Y%4294967296)%18446744073709551616:K):J)then A else C)=
  if 4294967296<=q then(if 4294967296<=r+Y/4294967296 then Z (q-1)else B)else if 4294967296*r+w<q*(Y%4294967296)then(if 4294967296<=r+Y/4294967296 then Z (q-1)else B)else Z q:=by
  intro q r w d k hw g A B C h1 p h3;have hA:A=if 4294967296<=r+Y/4294967296 then Z (q-1)else B:=by
   split
   next h=>exact h1 h
   next h=>exact p h
  rw[<-hA,h3];by_cases v:4294967296<=q;rw[yg,E v];have e3:(q*(Y%4294967296))%18446744073709551616=q*(Y%4294967296):=xap<|g.resolve_right v;have e4:(4294967296*r%18446744073709551616+w)%18446744073709551616=4294967296*r+w:=W
  rw[zF,P v,e3,e4];by_cases R:4294967296*r+w<q*(Y%4294967296);rw[yg,E R];rw[zF,P R]
 have L0:zg (jZ fu (Y/4294967296) (Y%4294967296)<|t/4294967296) fu (u/(Y/4294967296),u%(Y/4294967296))=Z ((u*4294967296+t/4294967296)/Y):=by
  rw[<-step hd (by lia:t/4294967296<4294967296)];refine Fc (λq r=>(q,r)) (λs=>2-s.2/2147483648) (λ_ _=>O) (w:=t/4294967296) N Q a0 (by rw[<-e];exact hd) W M ?_;intro q r L d k g;have e1:(r+Y/4294967296)%18446744073709551616=r+Y/4294967296:=W
  by_cases hc:q=0
  subst hc;unfold jZ;simp only[nm,xct,Nat.zero_mod];rw[zF,zF,zF,zF]
  have z:(q+18446744073709551616-1)%18446744073709551616=q-1:=W
  refine Eq.trans ?_<|body d k W g (if 4294967296<=r+Y/4294967296 then Z (q-1)else L (q-1,r+Y/4294967296)) _ _ (λh=>E h) (λh=>P h) O;unfold jZ;simp only[nm,e1,z];have D:∀(X:V K),(if((4294967296:K):J)<=((r+Y/4294967296:K):J)then Z (q-1)else X)=if 4294967296<=r+Y/4294967296 then Z (q-1)else X:=by intro X;by_cases h:4294967296<=r+Y/4294967296;rw[yg,E h];rw[zF,P h]
  rw[D]
 have i:∀{x q:K},x/Y=q->∀{m:K},m=x%18446744073709551616->(m+18446744073709551616-q*Y%18446744073709551616)%18446744073709551616=x%Y:=by intro x q d m hm;have h1:=xbt x Y;rw[d,xaO]at h1;have p:=xaQ x (W:0<Y);lia
 rw[f hd,za L0,i O (x:=u*4294967296+t/4294967296) W];have⟨a,G⟩:∃a,a=(u*4294967296+t/4294967296)%Y:=⟨_,O⟩;have j:a<Y:=by rw[G];exact xaQ _ W
 rw[<-G,y9,f j];have L1:zg (jU fu (Y/4294967296) (Y%4294967296)<|t%4294967296) fu (a%(Y/4294967296),a/(Y/4294967296))=Z ((a*4294967296+t%4294967296)/Y):=by
  rw[<-step j (by lia:t%4294967296<4294967296)];refine Fc (λq r=>(r,q)) (λs=>2-s.1/2147483648) (λ_ _=>O) (w:=t%4294967296) N Q a0 (by rw[<-e];exact j) W M ?_;intro q r L d k g;have e1:(r+Y/4294967296)%18446744073709551616=r+Y/4294967296:=W
  by_cases hc:q=0
  subst hc;unfold jU;simp only[nm,xct,Nat.zero_mod];rw[zF,zF,zF,zF]
  have z:(q+18446744073709551616-1)%18446744073709551616=q-1:=W
  refine Eq.trans ?_<|body d k W g (if 4294967296<=r+Y/4294967296 then Z (q-1)else L (r+Y/4294967296,q-1)) _ _ (λh=>E h) (λh=>P h) O;unfold jU;simp only[nm,e1,z];have D:∀(X:V K),(if((4294967296:K):J)<=((r+Y/4294967296:K):J)then Z (q-1)else X)=if 4294967296<=r+Y/4294967296 then Z (q-1)else X:=by intro X;by_cases h:4294967296<=r+Y/4294967296;rw[yg,E h];rw[zF,P h]
  rw[D]
 rw[za L1,i O (x:=a*4294967296+t%4294967296) W];have hl:=cy (b:=4294967296) (v1:=Y/4294967296) (v0:=Y%4294967296) (u:=u) (w:=t/4294967296) (by rw[<-e];exact hd);rw[step hd W]at hl;have hc:=cy (b:=4294967296) (v1:=Y/4294967296) (v0:=Y%4294967296) (u:=a) (w:=t%4294967296) (by rw[<-e];exact j);rw[step j W]at hc;have⟨k1,k2⟩:=ny (x:=u) (b:=4294967296) (y:=Y) (w1:=t/4294967296) (w0:=t%4294967296) W m6 W;rw[<-G]at k1 k2;have eU:(u*4294967296+t/4294967296)*4294967296+t%4294967296=(hi*18446744073709551616+lo)*2^s:=by rw[ho];lia
 rw[eU,c,xfF _ _ hp,<-c]at k1;rw[eU,c,xep,<-c]at k2;rw[k1,<-k2,Nat.mul_div_cancel _ hp];rw[zqo hl hc]
end
section
variable{fu s:wP}{a:wF wP}
def zc2{m x:K}{l:N K}:(So (m+1) 0++l).set m x=So m 0++(x::l):=by rw[List.replicate_succ'];simp_all
def IH(k n:K):vB (k+1) n=n%18446744073709551616::vB k (n/18446744073709551616):=O
def pF{q r:K}(h:r<18446744073709551616):(q*18446744073709551616+r)%18446744073709551616=r/\(q*18446744073709551616+r)/18446744073709551616=q:=W
theorem tX(A m:K):A/18446744073709551616^m=A/18446744073709551616^(m+1)*18446744073709551616+A/18446744073709551616^m%18446744073709551616:=by grind [JT]
def Fz{x:K}(c:zn a)(i:x<18446744073709551616)(h0:0<x)(hl:X a<=1000000)(o:2000000<fu):KE fu a x=Z (yM<|nv a/x,nv a%x):=by
 unfold KE;rw[yH,y9,F,zb];have f:=vA c;have d:zg (U7 fu a x) fu (0,(X a:J)-1,So (X a) 0)=Z (nv a%x,vB (X a)<|nv a/x):=by
  refine zC (λs:K×J×N K=>∃m:K,m<=X a/\s=(nv a/18446744073709551616^m%x,(m:J)-1,So m 0++vB (X a-m) (nv a/18446744073709551616^m/x))) (λs=>(s.2.1+1).toNat) _ ?_ _ _ ⟨X a,Nm _,?_⟩ (by show((X a:J)-1+1).toNat<fu;lia);rintro s L ⟨m,p,rfl⟩ j;unfold U7;simp only
  cases m with
  |zero=>
   simp_all
  |succ m=>
   have e:((m+1:K):J)-1=(m:J):=W
   have hc:=c.getD m;have hd:nv a/18446744073709551616^(m+1)%x<x:=xaQ _ h0;have k:a.getD m 0=nv a/18446744073709551616^m%18446744073709551616:=KH c m;have g:=tX (nv a) m;rw[<-k]at g;rw[yg,e,yn,F,Y<|VP hc i hd W];have⟨k1,k2⟩:=ny (x:=0) (b:=18446744073709551616) (y:=x) (w1:=nv a/18446744073709551616^(m+1)) (w0:=a.getD m 0) h0 m6 hc;rw[xct,xaM,<-g]at k1 k2;rw[zp (by simp;lia),F,zb,zc2,<-k2];refine j _ ⟨m,W,?_⟩ (by show((m:J)-1+1).toNat<(((m+1:K):J)-1+1).toNat;lia);have h:(nv a/18446744073709551616^(m+1)%x*18446744073709551616+a.getD m 0)/x<18446744073709551616:=by rw[xaZ h0];have:(nv a/18446744073709551616^(m+1)%x+1)*18446744073709551616<=x*18446744073709551616:=xag _ hd;rw[xaO 18446744073709551616 x];lia
   have l:X a-m=(X a-(m+1))+1:=W
   rw[k1,l,IH];congr 3;rw[(pF h).1,(pF h).2]
  rw[xbm f,Nat.zero_div,Nat.zero_mod,xcx];simp[vB]
 rw[Y d];have n:nv a/x<18446744073709551616^X a:=xaI (xcI _ _) f;simp only;rw[Y (xy (wA _ _) (by rw[yi];lia)<|by rw[yi];lia),ud,xap n]
def HC(b:s<=64):(18446744073709551616:K)=2^(64-s)*2^s:=by rw[<-xbd,(W:64-s+s=64)]
theorem SP{y c:K}(f:y<18446744073709551616)(d:s<64)(hc:c<2^s):y*2^s%18446744073709551616|||c=(y*2^s+c)%18446744073709551616/\y/2/2^(63-s)=(y*2^s+c)/18446744073709551616/\(y*2^s+c)/18446744073709551616<2^s:=by
 have⟨w1,h⟩:=PK f<|xcJ d;have hp:0<2^s:=xaS m6;have e:=HC<|xcJ d;have b:y*2^s%18446744073709551616=y%2^(64-s)*2^s:=by rw[e,xep]
 have h1:y%2^(64-s)*2^s+2^s<=18446744073709551616:=by rw[e];have:=xag (2^s)<|xaQ y<|xaS (n:=64-s) (m6:0<2);grind
 have g:y/2/2^(63-s)=y/2^(64-s):=by rw[xaD,(mS:64-s=63-s+1),xbe,xaO 2]
 refine⟨?_,?_,?_⟩;rw[b,Ma hc];rw[b]at w1;generalize y%2^(64-s)*2^s=A at*
 generalize y*2^s=i at*
 generalize y/2^(64-s)=W at*
 lia;rw[g];rw[b]at w1;generalize y%2^(64-s)*2^s=A at*
 generalize y*2^s=i at*
 generalize y/2^(64-s)=W at*
 lia;rw[b]at w1;generalize y%2^(64-s)*2^s=A at*
 generalize y*2^s=i at*
 generalize y/2^(64-s)=W at*
 lia
def nW{a:N K}{s:K}(b:zn a)(c:s<64):∀k,(vT (fJ a<|2^s) k).2<2^s
 |0=>xaS m6
 |k+1=>(SP (b.getD k) c<|nW b c k).2.2
def IZ:(2:K)^64=18446744073709551616:=m6
def Js{n:K}(b:zn a)(hl:X a<=1000000:=by lia)(hn:n<=262144:=by lia)(j:2000000<fu:=by lia):WX fu a (n:J)=Z (yM<|nv a*2^n,0):=by
 unfold WX;have⟨s,l⟩:∃s,s=n%64:=⟨_,O⟩;have hd:s<64:=W
 rw[zF,zF,Y<|ky (step:=fJ a<|2^s) W W ?_];have m:=nW b hd (X a);have d:2^s<18446744073709551616:=by rw[<-IZ];exact xez m6 hd
 have e1:xdC (n:J) 64=((n/64:K):J):=O;simp only;rw[va (by have:=wU (fJ a<|2^s) (X a);simp[this];lia),F,va m6,e1,zb,SF W];rw[Y (Km W<|by rw[yi];lia),Y (xy ((zn.replicate _).append<|wA _ _) (by simp[yi];lia)<|by simp[yi];lia),Eb,ud,xap<|DW b d];congr 3;rw[<-IZ,<-xbM,xaO<|2^_,xbj,<-xbd];congr 2;lia;intro k c;have hc:=nW b hd k;have⟨l1,e,o⟩:=SP (b.getD k) hd hc;unfold gx;have e1:xcG (n:J) 64=((n%64:K):J):=O;have f:min (((1:K):J)).toNat 64=1:=m6
 have g:min ((n%64:K):J).toNat 64=s:=W
 have h:(63:J)-((n%64:K):J)=((63-s:K):J):=W
 have i:min ((63-s:K):J).toNat 64=63-s:=W
 rw[zp c,F,va m6,F,e1,y9,F,g,F,zp c,F,F,f,va m6,F,h,zb,y9,F,i,l1];rw[show(2:K)^1=2 from O,e];rfl
def Ho{step:K->K->K×K}{X:K}(h:∀k,step k 0=(X/18446744073709551616^k%18446744073709551616,0)):∀n,vT step n=(vB n X,0)
 |0=>rfl
 |n+1=>by
  have b:=Ho h n;unfold vT;rw[b,h,aG]
def zgY{A k:K}(f:s<64):A/18446744073709551616^k%18446744073709551616/2^s|||A/18446744073709551616^(k+1)%18446744073709551616*2%18446744073709551616*2^(63-s)%18446744073709551616=A/2^s/18446744073709551616^k%18446744073709551616:=by
 have e:=HC<|xcJ f;have hp:0<2^s:=xaS m6;have j:0<2^(64-s):=xaS m6;have h1:=tX A k;have e0:A/18446744073709551616^(k+1)=A/18446744073709551616^k/18446744073709551616:=by rw[xbe,xaD]
 rw[xaD,xaO<|2^s,<-xaD];rw[e0]at h1⊢;generalize A/18446744073709551616^k=X at*
 have e1:X/18446744073709551616%18446744073709551616*2%18446744073709551616*2^(63-s)%18446744073709551616=X/18446744073709551616%2^s*2^(64-s):=by
  rw[Nat.mod_mul_mod,xbj,<-xdV,(W:(63-s).succ=64-s)];rw[Nat.mod_mul_mod];generalize X/18446744073709551616=V;conv=>lhs;rw[e,xaO (2^(64-s))<|2^s]
  rw[xep]
 have g:X%18446744073709551616/2^s<2^(64-s):=by rw[xaZ hp,<-e];exact xaQ _ m6
 rw[e1,Nat.or_comm,Ma g];have b:X/2^s=X/18446744073709551616*2^(64-s)+X%18446744073709551616/2^s:=by
  have c:=xbt X 18446744073709551616;have h:X=X%18446744073709551616+2^s*(X/18446744073709551616*2^(64-s)):=by
   have:2^s*(X/18446744073709551616*2^(64-s))=18446744073709551616*(X/18446744073709551616):=by rw[e,xaO<|X/_,<-xbj,xaO<|2^s]
   lia
  conv=>lhs;rw[h]
  rw[xcD _ _ hp];lia
 rw[b];have d:X/18446744073709551616*2^(64-s)=X/18446744073709551616%2^s*2^(64-s)+18446744073709551616*(X/18446744073709551616/2^s):=by
  have c:=xbt (X/18446744073709551616)<|2^s;conv=>lhs;rw[<-c]
  rw[xbl,e,xaO (2^(64-s))<|2^s,xbj,xbj,xaO (2^(64-s))<|_/_];lia
 have l:X/18446744073709551616%2^s*2^(64-s)+2^(64-s)<=18446744073709551616:=by generalize X/18446744073709551616=V;rw[e,xaO (2^(64-s))<|2^s];have:=xag (2^(64-s))<|xaQ V hp;rw[xcM]at this;exact this
 have i:X/18446744073709551616%2^s*2^(64-s)+X%18446744073709551616/2^s<18446744073709551616:=by
  clear d b e1 e0 h1;generalize X/18446744073709551616%2^s*2^(64-s)=m at*
  generalize X%18446744073709551616/2^s=V at*
  lia
 rw[d,Nat.add_right_comm,xcs,xap i]
theorem sF{n:K}(b:zn a)(hl:A2 a<=1000000)(hn:n<=1000000000)(q:2000000<fu):ax fu a (n:J)=Z (yM<|nv a/2^n):=by
 unfold ax;have e0:max (n:J) 0=(n:J):=W
 have e1:xdC (n:J) 64=((n/64:K):J):=O;have e:xcG (n:J) 64=((n%64:K):J):=O;have f:=vA b;have hc:2^n=18446744073709551616^(n/64)*2^(n%64):=by rw[<-IZ,<-xbM,<-xbd];grind
 rw[F,e0,va m6,e1,zb];by_cases h:A2 a<=n/64;rw[yg];have:nv a/2^n=0:=by rw[hc,<-xaD,xbm<|xac f<|xai m6 h,Nat.zero_div]
 rw[this];rfl;rw[zF,va m6,zb,yH,y9,F,va m6,F,e];have hd:=b.drop<|n/64;have hv:nv (a.drop<|n/64)=nv a/18446744073709551616^(n/64):=L9 b _;have⟨D,c⟩:∃D,D=a.drop (n/64):=⟨_,O⟩;rw[<-c]at hd hv⊢;have r:A2 D<=1000000:=by rw[c,xcn];lia
 have⟨s,d⟩:∃s,s=n%64:=⟨_,O⟩;have g:s<64:=W
 have jS:=Ho (step:=λk _=>(nv D/2^s/18446744073709551616^k%18446744073709551616,0)) (X:=nv D/2^s)<|λ_=>O;rw[<-d,Y<|ky (step:=λk _=>(nv D/2^s/18446744073709551616^k%18446744073709551616,0)) W W ?_];rw[jS];simp only;rw[Y (xy (wA _ _) (by rw[yi];lia)<|by rw[yi];lia),ud,xap<|xaI (xcI _ _)<|vA hd,hv,hc,<-xaD,d];intro k i;rw[jS];unfold dG;have j:min (((1:K):J)).toNat 64=1:=m6
 have l:min (s:J).toNat 64=s:=W
 have m:(63:J)-(s:J)=((63-s:K):J):=W
 have o:min ((63-s:K):J).toNat 64=63-s:=W
 have p:(k:J)+1=((k+1:K):J):=W
 rw[zp i,F,y9,F,l,p,zb,Y (Qf D W),F,j,m,zb,y9,F,o,F,KH hd,KH hd,show(2:K)^1=2 from O,zgY g]
end
end Go.Proofs.YtoegnnjcmlghhaaGreat
