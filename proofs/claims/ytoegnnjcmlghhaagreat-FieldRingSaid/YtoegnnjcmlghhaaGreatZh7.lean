/- The elements of a field that is made are a field, for every input. No condition. -/
import Derived.Test.YtoegnnjcmlghhaaGreatZh6
set_option linter.all false
namespace Go.Proofs.YtoegnnjcmlghhaaGreat
open Bool renaming false->I,true->wL
open Go renaming Value->wN,TypeId->wT
open Go.Proofs.YtoegnnjcmlghhaaGreat renaming Zr->M,cf->G,bd->Y,za->U,ci->C,nm->B,cC->D,pc->F,zu->Q,nv->A,ze->S
open List renaming length->X
open Nat renaming beq->E
open Option renaming some->Z,none->wF
open _root_ renaming rfl->O,List->N,Int->J,Nat->K,Option->V,List->xS,Int->wl,Nat->wr,Option->ww,trivial->wR,absurd->wS,Bool->qR,funext->jp,Rat->kw,congrArg->ut,if_true->uP,if_false->uS,True->XS,decide_eq_true->Wf,decide_eq_false->Wl,congrFun->Wn,of_decide_eq_true->Ws,False->QR,if_pos->am,mkRat->iI
open And renaming intro->xfK
open Bool renaming and_eq_true->xac,false_eq_true->xao
open Classical renaming byContradiction->xai
open DataW renaming TrodAll->xeT
open Int renaming add_zero->xcd,dvd_mul_right->xce,dvd_refl->xej,dvd_trans->xbw,emod_emod->xaW,emod_eq_of_lt->xaJ,eq_ofNat_of_zero_le->xaE,le_of_lt->xdO,le_refl->xgb,mul_add->xfE,mul_assoc->xdc,mul_comm->xbE,mul_eq_zero->xeS,mul_le_mul_of_nonneg_left->xaZ,mul_le_mul_of_nonneg_right->xbF,mul_ne_zero->xcT,mul_nonneg->xcC,mul_one->xcY,mul_zero->xaA,natAbs_ediv_le_natAbs->xbG,natAbs_mul->xct,natAbs_natCast->xaD,natAbs_neg->xeY,natCast_mul->xeN,one_mul->xdg,pow_nonneg->xfG,pow_succ->xbU,pow_zero->xcj,toNat_natCast->xbe,zero_add->xcS,zero_ediv->xel,zero_emod->xau,zero_mul->xbd
open List renaming append_of_mem->xem,drop_eq_getElem_cons->xcb,drop_eq_nil_of_le->xbW,getD_eq_getElem?_getD->FS,getElem?_drop->xfm,getElem?_eq_getElem->xab,getElem?_map->xbV,getElem?_take->xcn,getElem_mem->xbQ,length->xaG,length_cons->xax,length_drop->xbX,length_eq_one_iff->xcG,length_eq_zero_iff->xbh,length_map->xaj,length_nil->xbP,length_take->xav,map_append->xaY,map_cons->xbS,map_map->xcN,mem_append->So,mem_cons->xaf,mem_cons_of_mem->UV,mem_cons_self->H1,mem_iff_getElem->xcE,mem_map->xas,mem_map_of_mem->xbJ,mem_singleton->xag,nil_append->xbA,not_mem_nil->Nm,pairwise_iff_forall_sublist->xdu,pairwise_iff_getElem->xcZ,pairwise_map->xew,range->xaN,range_succ->xdk,take_add_one->xeu,take_length->xbY
open Nat renaming add_comm->xdW,add_mul->xbf,le_mul_of_pos_left->xed,le_mul_of_pos_right->xco,le_of_lt->xdK,le_of_not_lt->xbz,le_refl->IR,le_trans->xap,lt_of_le_of_lt->xaL,lt_of_lt_of_le->xah,mul_add->xbn,mul_le_mul->xck,mul_le_mul_left->xaC,mul_le_mul_right->xak,mul_left_comm->xdA,mul_lt_mul''->xcm,mul_lt_mul_of_pos_right->xbI,mul_pos->xdy,not_lt_zero->xbq,one_lt_two_pow->xfw,one_mul->xcz,pow_add->xbo,pow_le_pow_left->xff,pow_le_pow_right->xal,pow_mul->xch,pow_pos->xaV,sub_self->xcD,two_pow_pos->xdL,zero_add->xaK,zero_le->xan,zero_mul->xcp
open Option renaming getD_some->xdq
open Option.some renaming injEq->xat
open Prod.mk renaming injEq->xcI
open Rat renaming divInt->xgj,intCast_mul->xbs,intCast_neg->xgc,mkRat_eq_div->xfS,natCast_inj->xec,natCast_mul->xda,pow_zero->xfj
open Value renaming okWide->xey
section
def fac:K->J
 |0=>1
 |n+1=>((n+1:K):J)*fac n
def ZX:∀n,0<fac n
 |0=>by decide
 |n+1=>Int.mul_pos W<|ZX n
def ip(n:K)(f g:Pz):J:=yh (n+1) λs=>fac s*fac (n-s)*(f s*g s)
theorem Q6(n:K)(f g:Pz):ip n f g=ip n g f:=yr λs _=>by rw[xbE<|f s]
theorem Sv(n:K)(f g h:Pz):ip n (f+g) h=ip n f h+ip n g h:=by
 unfold ip;rw[<-YU];exact yr λs _=>by rw[zU,Int.add_mul,xfE]
def Bu(n:K)(f g h:Pz):ip n h (f+g)=ip n h f+ip n h g:=by grind [Q6,Sv]
def Nn(n:K)(c:J)(f h:Pz):ip n (F c*f) h=c*ip n f h:=by
 unfold ip;rw[<-Zb];exact yr λs _=>by rw[zN,xdc c<|f s,Int.mul_left_comm]
def rE(n:K)(c:J)(f h:Pz):ip n h (F c*f)=c*ip n h f:=by rw[Q6,Nn,Q6]
def IB{f:K->J}:∀{n},(∀k,k<n->0<=f k)->0<=yh n f
 |0,_=>xgb 0
 |n+1,h=>Int.add_nonneg (IB λk a=>h k W)<|h n W
def zkK(n:K)(f:Pz):0<=ip n f f:=IB λs _=>xcC (xcC (xdO<|ZX _)<|xdO<|ZX _)<|YE _
def xP:Pz:=mono 1 1
def zoe(f:Pz):(xP*f) 0=0:=by
 unfold xP;rw[VL];rfl
def zob(f:Pz)(k:K):(xP*f) (k+1)=f k:=by simp_all [sh,xP,VL]
def adx(n:K)(f g:Pz):ip (n+1) (xP*f) g=ip n f (dvp g):=by
 unfold ip;rw[Zi,zoe,xbd,xaA,xcS];refine yr λs a=> ?_;rw[zob,(W:n+1-(s+1)=n-s)];show((s+1:K):J)*fac s*fac (n-s)*(f s*g (s+1))=fac s*fac (n-s)*(f s*(((s+1:K):J)*g (s+1)));grind
def dy(n:K)(f:Pz):Pz:=F (n:J)*f-xP*dvp f
def Nt(n:K)(f:Pz)(k:K):dy n f k=((n:J)-k)*f k:=by
 unfold dy;rw[yX,zN]
 cases k with
 |zero=>rw[zoe];grind
 |succ k=>
  rw[zob];show n*f (k+1)-((k+1:K):J)*f (k+1)=_;grind
def ady(n:K)(f g:Pz)(a:f (n+1)=0):ip (n+1) f g=ip n f (dy (n+1) g):=by
 show yh (n+1) _+fac (n+1)*fac (n+1-(n+1))*(f (n+1)*g (n+1))=_;rw[a,xbd,xaA,xcd];refine yr λs b=> ?_;rw[Nt,(W:n+1-s=(n-s)+1)];show fac s*(((n-s+1:K):J)*fac (n-s))*(f s*g s)=_;grind
def eul(n:K)(f:Pz):F (n:J)*f=xP*dvp f+dy n f:=by
 unfold dy;funext k;rw[zU,yX];lia
def zlT(n m:K)(f g:Pz):dy (n+m) (f*g)=dy n f*g+f*dy m g:=by
 have h1:F ((n+m:K):J)*(f*g)=F n*f*g+f*(F m*g):=by
  rw[zD f,zd];funext k;rw[zU,zN,zN,zN];grind
 have a:xP*(dvp f*g+f*dvp g)=xP*dvp f*g+f*(xP*dvp g):=by rw[wC,zd,zD f]
 unfold dy;rw[KM,h1,a,jU,qp];funext k;simp only[zU,yX];lia
def zgq(n:K)(f:Pz):dvp (dy (n+1) f)=dy n (dvp f):=jp λk=>by
 rw[Nt];show((k+1:K):J)*dy (n+1) f (k+1)=(n-k)*(((k+1:K):J)*f (k+1));rw[Nt];grind
def Dg(n:K)(f:Pz):Prop:=∀k,n<k->f k=0
def Dg.dx{n:K}{f:Pz}(h:Dg (n+1) f):Dg n (dvp f):=λk a=>by
 show((k+1:K):J)*f (k+1)=0;rw[h _ W,xaA]
def Dg.dy{n:K}{f:Pz}(h:Dg (n+1) f):Dg n (dy (n+1) f):=λk a=>by
 rw[Nt];by_cases e:k=n+1
 ·simp_all
 ·rw[h k W,xaA]
def Dg.mul{n m:K}{f g:Pz}(a:Dg n f)(b:Dg m g):Dg (n+m) (f*g):=λk d=>ue (n:=n+1) (m:=m+1) (λj c=>a j W)<|λj c=>b j W
def Dg.add{n:K}{f g:Pz}(b:Dg n f)(c:Dg n g):Dg n (f+g):=λk a=>by rw[zU,b k a,c k a];rfl
def Dg.num{f:Pz}(h:Dg 0 f):f=F (f 0):=jp λk=>by
 unfold F;by_cases e:k=0
 ·simp_all
 ·rw[ir e,h k W]
section
variable(a:wr)(u:Pz)
def zk9{m b q0:K}{v p q:Pz}(hp:Dg (m+1) p)(c:Dg a u)(e:b+q0=m+1+a):
 ((m+1:K):J)*ip (m+1+a) (p*u) (v*q)=ip (m+a) (dvp p*u) (dvp v*q)+ip (m+a) (dy (m+1) p*u) (dy b v*q)+(ip (m+a) (dvp p*u) (v*dvp q)+ip (m+a) (dy (m+1) p*u) (v*dy q0 q)):=by
 rw[<-Nn,<-zd,eul,yR,Sv,zd,(W:m+1+a=m+a+1),adx,ady _ _ _ (hp.dy.mul c _ W),KM,Bu,(W:m+a+1=b+q0),zlT,Bu];lia
def Fk:K->K->K->Pz->Pz->Pz->J
 |0,b,_,v,p,q=>ip (b+a) (p*u)<|v*q
 |k+1,b,c,v,p,q=>Fk k (b-1) (c-1) v (dvp p) (dvp q)+Fk k (b-1) (c-1) v (dy b p) (dy c q)
def Ij(c:Dg a u):∀(k:K) {m b q0:K}{v p q:Pz},k<=m->m<=q0->b+(q0+1)=m+1+a->Dg (m+1) p->
 ((m+1:K)-(k:J))*Fk a u k (m+1) (q0+1) v p q=Fk a u k m (q0+1) (dvp v) (dvp p) q+Fk a u k m (q0+1) (dy b v) (dy (m+1) p) q+Fk a u (k+1) (m+1) (q0+1) v p q
 |0,m,b,q0,v,p,q,_,_,e,hp=>by
  have:=zk9 a u (v:=v) (q:=q) hp c e;assumption
 |k+1,0,_,_,_,_,_,h,_,_,_=>by lia
 |k+1,m+1,b,0,_,_,_,_,h,_,_=>by lia
 |k+1,m+1,b,q0+1,v,p,q,h1,d,e,hp=>by
  have i1:=Ij c k (b:=b) (q0:=q0) (v:=v) (q:=dvp q) W W W hp.dx;have i2:=Ij c k (b:=b) (q0:=q0) (v:=v) (q:=dy (q0+1+1) q) W W W hp.dy;rw[zgq]at i2;show((m+1+1:K)-((k+1:K):J))*(Fk a u k (m+1) (q0+1) v (dvp p) (dvp q)+Fk a u k (m+1) (q0+1) v (dy (m+1+1) p) (dy (q0+1+1) q))=Fk a u k m (q0+1) (dvp v) (dvp<|dvp p) (dvp q)+Fk a u k m (q0+1) (dvp v) (dy (m+1)<|dvp p) (dy (q0+1+1) q)+(Fk a u k m (q0+1) (dy b v) (dvp<|dy (m+1+1) p) (dvp q)+Fk a u k m (q0+1) (dy b v) (dy (m+1)<|dy (m+1+1) p) (dy (q0+1+1) q))+(Fk a u (k+1) (m+1) (q0+1) v (dvp p) (dvp q)+Fk a u (k+1) (m+1) (q0+1) v (dy (m+1+1) p) (dy (q0+1+1) q));rw[zgq,(W:((m+1+1:K)-((k+1:K):J))=((m+1:K)-(k:J))),xfE];lia
def pD:K->K->Pz->Pz->Pz
 |0,_,p,q=>p*q
 |k+1,b,p,q=>pD k (b-1) (dvp p) (dvp q)+pD k (b-1) (dy (k+1) p) (dy b q)
def zfw:∀(k:K) {b:K}{v p q:Pz},Dg k p->Fk a u k k b v p q=ip a u (v*pD k b p q)
 |0,b,v,p,q,h=>by
  show ip (0+a) (p*u) (v*q)=ip a u (v*(p*q));rw[h.num,xaK,Nn,zD,rE]
 |k+1,b,v,p,q,h=>by
  show Fk a u k k (b-1) v (dvp p) (dvp q)+Fk a u k k (b-1) v (dy (k+1) p) (dy b q)=ip a u (v*(pD k (b-1) (dvp p) (dvp q)+pD k (b-1) (dy (k+1) p) (dy b q)));rw[zfw k h.dx,zfw k h.dy,wC,Bu]
end
def zeP:∀(k:K) {d:K}{p q:Pz},Dg k p->Dg (k+d) q->Dg d (pD k (k+d) p q)
 |0,d,p,q,hp,a=>by
  have:=hp.mul a;rw[xaK,xaK]at this;exact this
 |k+1,d,p,q,hp,a=>by
  rw[(W:k+1+d=k+d+1)]at a⊢;exact(zeP k hp.dx a.dx).add<|zeP k hp.dy a.dy
def zdI:∀(k:K) {d:K}{p q g:Pz},Dg k p->Dg d g->fac k*ip (k+d) q (p*g)=ip d (pD k (k+d) p q) g
 |0,d,p,q,g,hp,a=>by
  show 1*ip (0+d) q (p*g)=ip d (p*q) g;rw[hp.num,xdg,xaK,rE,Nn]
 |k+1,d,p,q,g,hp,a=>by
  have i1:=zdI k (q:=dvp q) hp.dx a;have i2:=zdI k (q:=dy (k+d+1) q) hp.dy a;rw[(W:k+1+d=k+d+1)];show((k+1:K):J)*fac k*ip (k+d+1) q (p*g)=ip d (pD k (k+d+1-1) (dvp p) (dvp q)+pD k (k+d+1-1) (dy (k+1) p) (dy (k+d+1) q)) g;rw[Nat.add_sub_cancel,Sv,<-i1,<-i2,xbE _<|fac k,xdc,<-rE,<-zd,eul,yR,Bu,zd,Q6 _ q,adx,Q6 _ q,ady _ _ _ (hp.dy.mul a _ W),xfE,Q6 _<|dvp q,Q6 _<|dy _ q]
def PZ{a:K}{u:Pz}(e:Dg a u):∀(b:K) {v:Pz},Dg b v->b<=a->∀(j k:K),k+j=b->0<=Fk a u k b a v v u
 |b,v,hv,f,0,k,h=>by
  obtain rfl:k=b:=W
  obtain⟨d,rfl⟩:∃d,a=k+d:=⟨a-k,W⟩;have h1:=zdI k (d:=d) (q:=u) (g:=pD k (k+d) v u) hv<|zeP k hv e;rw[zfw _ _ k hv];have i:=zkK d<|pD k (k+d) v u;rw[<-h1]at i;exact Int.nonneg_of_mul_nonneg_right i<|ZX k
 |0,v,hv,f,j+1,k,h=>by lia
 |b+1,v,hv,f,j+1,k,h=>by
  obtain⟨c,rfl⟩:∃c,a=c+1:=⟨a-1,W⟩;have h1:=Ij (c+1) u e k (m:=b) (b:=b+1) (q0:=c) (v:=v) (p:=v) (q:=u) W W W hv;have i:=PZ e b hv.dx W j k W;have n:=PZ e b hv.dy W j k W;have o:=PZ e (b+1) hv f j (k+1) W;have l:0<=((b+1:K)-(k:J))*Fk (c+1) u k (b+1) (c+1) v v u:=by rw[h1];lia
  exact Int.nonneg_of_mul_nonneg_right l W
def zpg{u:Pz}(h:Dg 0 u):dvp u=F 0:=jp λk=>by
 rw[zQ];show((k+1:K):J)*u (k+1)=0;rw[h _ W,xaA]
def zp4{u:Pz}(h:Dg 0 u):dy 0 u=F 0:=jp λk=>by
 rw[zQ,Nt];by_cases e:k=0
 ·simp_all
 ·rw[h k W,xaA]
def zoq{a b:K}{u v:Pz}(c:Dg a u)(hv:Dg (b+1) v):0<=ip (b+a) (dvp v*u) (v*dvp u)+ip (b+a) (dy (b+1) v*u) (v*dy a u):=by
 by_cases h:b+1<=a
 ·exact PZ c (b+1) hv h b 1 W
 ·cases a with
  |zero=>
   rw[zpg c,zp4 c,zk v,rE,rE];lia
  |succ a=>
   have:=PZ hv (a+1) c W a 1 W;have this:0<=ip (a+(b+1)) (dvp u*v) (u*dvp v)+ip (a+(b+1)) (dy (a+1) u*v) (u*dy (b+1) v):=this;rw[Q6,Q6 _<|dy (a+1) u*v,zk u,zk<|dvp u,zk u,zk<|dy (a+1) u,(W:a+(b+1)=b+(a+1))]at this;lia
def zpt{a:K}{u:Pz}(c:Dg a u):∀(b:K) {v:Pz},Dg b v->fac b*(v b*v b)*ip a u u<=ip (b+a) (v*u) (v*u)
 |0,v,hv=>by
  rw[hv.num,Nn,rE,xaK];show 1*(F (v 0) 0*F (v 0) 0)*ip a u u<=v 0*(v 0*ip a u u);have e:F (v 0) 0=v 0:=O;rw[e,xdg,xdc];lia
 |b+1,v,hv=>by
  have h1:=zk9 a u (b:=b+1) (q0:=a) (v:=v) (q:=u) hv c O;have f:=zoq c hv;have g:=zkK (b+a)<|dy (b+1) v*u;have d:=zpt c b hv.dx;have e:dvp v b=((b+1:K):J)*v (b+1):=O;rw[e]at d;have h:((b+1:K):J)*(fac (b+1)*(v (b+1)*v (b+1))*ip a u u)=fac b*(((b+1:K):J)*v (b+1)*(((b+1:K):J)*v (b+1)))*ip a u u:=by
   show((b+1:K):J)*(((b+1:K):J)*fac b*(v (b+1)*v (b+1))*ip a u u)=_;grind
  refine Int.le_of_mul_le_mul_left (a:=((b+1:K):J)) ?_ W;lia
def Bm:∀(m n:K),fac (m+n)<=2^(m+n)*(fac m*fac n)
 |0,n=>by
  rw[xaK];show fac n<=2^n*(1*fac n);rw[xdg];have:=xbF (show(1:J)<=2^n from Int.pow_pos i0)<|xdO<|ZX n;lia
 |m+1,0=>by
  show fac (m+1)<=2^(m+1)*(fac (m+1)*1);rw[xcY];have:=xbF (show(1:J)<=2^(m+1)from Int.pow_pos i0)<|xdO<|ZX<|m+1;lia
 |m+1,n+1=>by
  have i1:=xaZ (Bm m<|n+1) (W:(0:J)<=((m+1:K):J));have i2:=xaZ (Bm (m+1) n) (W:(0:J)<=((n+1:K):J));rw[(W:m+(n+1)=m+n+1)]at i1;rw[(W:m+1+n=m+n+1)]at i2;rw[(W:m+1+(n+1)=m+n+1+1)];have e1:fac (m+n+1+1)=((m+1:K):J)*fac (m+n+1)+((n+1:K):J)*fac (m+n+1):=by
   show((m+n+1+1:K):J)*fac (m+n+1)=_;rw[<-Int.add_mul];congr 1;lia
  have a:(2:J)^(m+n+1+1)*(fac (m+1)*fac (n+1))=((m+1:K):J)*(2^(m+n+1)*(fac m*fac (n+1)))+((n+1:K):J)*(2^(m+n+1)*(fac (m+1)*fac n)):=by
   rw[xbU];have f1:fac (m+1)=((m+1:K):J)*fac m:=O;have f2:fac (n+1)=((n+1:K):J)*fac n:=O;rw[f1,f2];generalize((m+1:K):J)=x;generalize((n+1:K):J)=y;generalize(2:J)^(m+n+1)=z;grind
  rw[e1,a];lia
def zgY:∀(m n:K),fac m*fac n<=fac (m+n)
 |0,n=>by
  rw[xaK];show 1*fac n<=fac n;lia
 |m+1,n=>by
  rw[(W:m+1+n=m+n+1)];show((m+1:K):J)*fac m*fac n<=((m+n+1:K):J)*fac (m+n);have h1:=zgY m n;have a:=xaZ h1 (W:0<=((m+1:K):J));have b:=xbF (W:((m+1:K):J)<=((m+n+1:K):J))<|xdO<|ZX<|m+n;grind
def Gz{f g:K->J}:∀{n},(∀k,k<n->f k<=g k)->yh n f<=yh n g
 |0,_=>xgb 0
 |n+1,h=>Int.add_le_add (Gz λk a=>h k W)<|h n W
def Oo{f:K->J}{j:K}:∀{n},(∀k,k<n->0<=f k)->j<n->f j<=yh n f
 |0,_,h=>wS h<|xbq _
 |n+1,h,b=>by
  have h1:=IB λk (a:k<n)=>h k W;have c:=h n W;show f j<=yh n f+f n;by_cases e:j=n
  ·grind
  ·have:=Oo (λk a=>h k W) (W:j<n);lia
def mig{f u v:Pz}{a b:K}(g:Tp u a)(hv:Tp v b)(e:f=u*v)(k:K):(v b*u k)*(v b*u k)<=4^(a+b)*rf f (a+b+1):=by
 have c:=mm f<|a+b+1;by_cases x:k<=a
 ·have h1:=zpt (a:=a) (u:=u) g.2 b (v:=v) hv.2;have j:fac k*fac (a-k)*(u k*u k)<=ip a u u:=Oo (f:=λs=>fac s*fac (a-s)*(u s*u s)) (λs _=>xcC (xcC (xdO<|ZX _)<|xdO<|ZX _)<|YE _) W;have y:ip (b+a) (v*u) (v*u)<=fac (b+a)*rf f (a+b+1):=by
   rw[zk,<-e,xdW b a];unfold ip rf;rw[<-Zb];refine Gz λs z=>xbF ?_<|YE _;have:=zgY s<|a+b-s;rwa[(W:s+(a+b-s)=a+b)]at this
  have l:=Bm b a;have h:=Bm k<|a-k;rw[(W:k+(a-k)=a)]at h;have d:=ZX b;have pw:(0:J)<2^(b+a):=Int.pow_pos i0;have m:=Int.mul_pos (ZX k)<|ZX<|a-k;have o:=YE<|v b;generalize fac k*fac (a-k)=X at*
  have g1:=xaZ j (show 0<=fac b*(v b*v b)from xcC (xdO d) o);have A:=xbF l c;have p:=xaZ h (show 0<=2^(b+a)*fac b from xcC (xdO pw)<|xdO d);have B:=xbF p c;have q:fac b*X*((v b*u k)*(v b*u k))<=fac b*X*(2^(b+a)*2^a*rf f (a+b+1)):=by
   have e1:fac b*X*((v b*u k)*(v b*u k))=fac b*(v b*v b)*(X*(u k*u k)):=by grind
   have r:fac b*X*(2^(b+a)*2^a*rf f (a+b+1))=2^(b+a)*fac b*(2^a*X)*rf f (a+b+1):=by grind
   have C:2^(b+a)*(fac b*fac a)*rf f (a+b+1)=2^(b+a)*fac b*fac a*rf f (a+b+1):=by grind
   rw[e1,r];lia
  have t:=Int.le_of_mul_le_mul_left q<|Int.mul_pos d m;refine Int.le_trans t<|xbF ?_ c;have w:(4:J)^(a+b)=2^(b+a)*2^(a+b):=by rw[(i0:(4:J)=2*2),Int.mul_pow,xdW b a]
  rw[w];refine xaZ ?_<|xdO pw;have:=xal (n:=2) i0 (W:a<=a+b);have i:∀n:K,((2^n:K):J)=(2:J)^n:=λn=>by simp
  rw[<-i,<-i];lia
 ·rw[g.2 k W,xaA,xaA];exact xcC (xfG i0) c
end
section
variable{B:(xS Zr×xS Zr->ww (xS Zr))->xS Zr×xS Zr->ww (xS Zr)}{fu ca cb m:wr}{a b:xS Zr}{d p g R q:Pz}
theorem zfY{f:Pz}{M:J}(h:∀k,f k*f k<=M):∀n:K,rf f n<=n*M
 |0=>by show 0<=0*M;lia
 |n+1=>by
  show yh n (λk=>f k*f k)+f n*f n<=_;have h1:yh n (λk=>f k*f k)<=n*M:=zfY h n;grind
def zmt{x y:K}(h:x*x<y*y):x<y:=by
 refine xai λhn=> ?_;have:=xck (W:y<=x) (W:y<=x);lia
theorem Ik{f u v:Pz}{n B:K}(c:Tp f n)(fu:Fs u)(j:Fs v)(e:f=u*v)(hn:n<=40)(l:∀k,Bb B<|f k)(k:K):Bb (B+n+4) (u k):=by
 have⟨o,A⟩:=VV c.nz e;have⟨a,h⟩:=Tp.ex fu o;have⟨b,hc⟩:=Tp.ex j A;have r:a+b=n:=by
  have:=h.mul hc;rw[<-e]at this;exact this.uniq c
 have h1:=mig h hc e k;have s:∀k,f k*f k<=(2^B:J)*2^B:=λk=>by
  have:=l k;unfold Bb at this;have i:(f k*f k)=(((f k).natAbs*(f k).natAbs:K):J):=by simp_all
  rw[i];have y:=xck (xdK this)<|xdK this;grind
 have i:=zfY s<|a+b+1;have t:(u k).natAbs<=(v b*u k).natAbs:=by
  rw[xct];exact xed _ (by have:=hc.1;lia)
 refine xaL t<|zmt ?_;have w:((v b*u k).natAbs*(v b*u k).natAbs:K)=(v b*u k*(v b*u k)).natAbs:=(xct _ _).symm;rw[w];have x:(v b*u k*(v b*u k)).natAbs<=4^(a+b)*((a+b+1)*(2^B*2^B)):=by
  have z:(4:J)^(a+b)*rf f (a+b+1)<=4^(a+b)*(((a+b+1:K):J)*(2^B*2^B)):=xaZ W (xfG i0);have C:(4:J)^(a+b)*(((a+b+1:K):J)*(2^B*2^B))=((4^(a+b)*((a+b+1)*(2^B*2^B)):K):J):=i7
  have:=YE<|v b*u k;lia
 refine xaL x ?_;have e1:(2:K)^(B+n+4)*2^(B+n+4)=4^n*(256*(2^B*2^B)):=by
  rw[(i0:(4:K)=2^2),<-xch,(i0:(256:K)=2^8),<-xbo,<-xbo,<-xbo,<-xbo];congr 1;lia
 rw[e1];have hd:0<(2:K)^B*2^B:=xdy (xaV i0) (xaV i0);rw[r];exact Nat.mul_lt_mul_of_pos_left (xbI W hd)<|xaV i0
theorem rP{K:wr}(f:y6 K a)(h:K+1<=100000)(hl:X a<=1000)(e:3000000<=fu):WO fu a=Z (wU (X a-1)<|dvp<|G a):=by
 unfold WO;have hc:∀k:wr,k<=1000->Bz 1 (k:J):=λk n=>Bz.nat (by rw[Nat.pow_one];lia);rw[U<|BG (g:=λk=>if k<1000 then G a k*(k:J)else 0) W W λj c=> ?_]
 ·have i:min (X a:J) 1=((min (X a) 1:wr):J):=W
  rw[yn,S,i,yF,yW,S];have hd:(zi (X a) λk=>if k<1000 then G a k*(k:J)else 0).drop (min (X a) 1)=zi (X a-1) (dvp<|G a):=by
   refine zfG (by rw[xbX,yn,yn];lia) λj c=> ?_;rw[xbX,yn]at c;rw[ZY W,FS,xfm,<-FS,ZY W,(W:min (X a) 1+j=j+1),zX];show yz (G a (j+1)*((j+1:wr):J))=yz (((j+1:wr):J)*G a (j+1));grind
  rw[hd,U<|zJ (k:=K+1) (Xf λj=> ?_) h (by rw[yn];lia) e,yn,Cw];unfold dvp;by_cases c:j+1<=1000
  ·rw[xbE];exact(f.bz _).mul<|hc _ c
  ·rw[ye W,xaA];exact Bz.zero _
 ·unfold Qc;have l:=f.get j;rw[U<|yi ⟨W,W⟩ e,U<|zV (gV.of l W) ((hc j W).ok i0) e,zn,Vd,zX]
def U5:K->K
 |0=>1
 |1=>1
 |n+2=>2*U5 (n+1)+U5 n
def zg3:∀n,U5 n<=U5 (n+1)
 |0=>IR _
 |n+1=>by show _<=2*U5 (n+1)+U5 n;lia
def cU{i:K}:∀d,U5 i<=U5 (i+d)
 |0=>IR _
 |d+1=>xap (cU d)<|zg3 _
theorem O8(j:K):∀t,U5 j+(t+1+1)*U5 (j+1)<=U5 (j+1+(t+1))
 |0=>by show _<=2*U5 (j+1)+U5 j;lia
 |t+1=>by
  have c:=O8 j t;have h1:U5 (j+1+(t+1+1))=2*U5 (j+1+(t+1))+U5 (j+1+t):=O;grind
theorem A7(f:Fs d)(pd:Pm d):Zd d (G<|yg a)↔Zd d (G a):=by
 by_cases h:X (yo a)=0
 ·have h1:(G a:Pz)=F 0:=jp λk=>by rw[WI h k,zQ]
  have i:(G (yg a):Pz)=F 0:=jp λk=>by rw[ZQ,WI h k,xel,zQ]
  grind
 ·have e:=gD a;constructor
  ·intro c;rw[<-e];exact c.mul _<|Fs.pc _
  ·intro c;rw[<-e]at c;exact Zd.pm f pd (pA h) c
def zaG{x y r Q:Pz}{c:J}(i:Fs d)(pd:Pm d)(hc:c≠0)(h:Fs Q)(e:F c*x=Q*y+r):(Zd d y/\Zd d r)↔(Zd d x/\Zd d y):=by
 constructor
 ·rintro⟨f,z2⟩;refine⟨Zd.pm i pd hc ?_,f⟩;rw[e];exact(f.mul _ h).add z2
 ·rintro⟨f,z2⟩;refine⟨z2,?_⟩;have:r=F c*x-Q*y:=jp λk=>by
   have:=Wn e k;rw[zU]at this;rw[yX];lia
  rw[this];exact(f.mul _<|Fs.pc c).sub<|z2.mul _ h
def OO{Ps:N M->N M->V (N M×N M×J)}{Pr:N M->V (N M)}(hB:∀R x y,B R (x,y)=if(0:J)<(X y:J)then Y (Ps x y) λt=>Y (Pr t.2.1) λy'=>R (y,y')else Z x)(hk:∀{K:wr}{a:N M},y6 K a->K<=9985->X a<=1000->Pr a=Z (yg a))(hl:∀{bx by_:wr}{x y:N M},yo x=x->yo y=y->X y<=X x->0<X y->X x<=60->(∀j,Bb bx<|G x j)->(∀j,Bb by_<|G y j)->bx+(X x-X y+1)*(by_+1)<=2400000->
 ∃q r c Q,Ps x y=Z (q,r,0)/\yo r=r/\X r<X y/\c≠0/\Fs Q/\(F c*G x:Pz)=Q*G y+G r/\∀j,Bb (bx+(X x-X y+1)*(by_+1))<|G r j) {C L n bx b_:wr} (ha:yo a=a) (o:Pm (G a)) (u:Po (G a)) (hb:yo b=b) (hm:X b<X a) (hL:X a<=L) (hv:L<=60) (hC:C*U5 (L-1)<=639000) (ho:C*U5 L<=2400000) (v:bx+1<=C*U5 (L-X a)) (e:∀j,Bb bx (G a j)) (f:b_+1<=C*U5 (L-X a+1)) (hc:∀j,Bb b_ (G b j)) (hd:X b≠0->Pm (G b)/\Po (G b)) (hn:X b<n):
 ∃x,zg B n (a,b)=Z x/\yo x=x/\Pm (G x)/\Po (G x)/\X x<=L/\y6 37500 x/\∀d,Fs d->Pm d->(Zd d (G x)↔(Zd d (G a)/\Zd d (G b))):=by
 refine yc (λs:N M×N M=>yo s.1=s.1/\Pm (G s.1)/\Po (G s.1)/\yo s.2=s.2/\X s.2<X s.1/\X s.1<=L/\(∃bx,bx+1<=C*U5 (L-X s.1)/\∀i,Bb bx<|G s.1 i)/\(∃b_,b_+1<=C*U5 (L-X s.1+1)/\∀i,Bb b_<|G s.2 i)/\(X s.2≠0->Pm (G s.2)/\Po (G s.2))/\∀d,Fs d->Pm d->((Zd d (G s.1)/\Zd d (G s.2))↔(Zd d (G a)/\Zd d (G b)))) (λs=>X s.2) _ ?_ n (a,b) ⟨ha,o,u,hb,hm,hL,⟨bx,v,e⟩,⟨b_,f,hc⟩,hd,λ_ _ _=>Iff.rfl⟩ hn;rintro⟨x,y⟩ R ⟨h1,H,P,w,h5,S,⟨bx,v,e⟩,⟨b_,f,hc⟩,hd,A⟩ ih;simp only at h1 H P w h5 S v e f hc hd A;rw[hB];have T:∀{i},i<=L->C*U5 i<=2400000:=λ{i} hi=>xap (xaC _ (by
  have:=cU (i:=i)<|L-i;rwa[(W:i+(L-i)=L)]at this)) ho
 by_cases hp:0<X y
 ·have⟨t,ht⟩:∃t,X x-X y=t+1:=⟨X x-X y-1,W⟩;have hg:bx+(X x-X y+1)*(b_+1)+1<=C*U5 (L-X y+1):=by
   have D:=O8 (L-X x) t;rw[(W:L-X x+1+(t+1)=L-X y+1)]at D;have hq:=xaC C D;rw[xbn,xdA]at hq;have hw:=xaC (t+1+1) f;rw[ht];lia
  have⟨q,r,c,Q,e1,E,e3,e4,e5,e6,e7⟩:=hl h1 w W hp W e hc (by have:=T (i:=L-X y+1) W;lia);have oR:y6 9985 r:=by
   by_cases hr:X r=0
   ·rw[xbh.1 hr];intro z hz;cases hz
   ·rw[<-E];refine xh λj=>(e7 j).bz ?_;have D:C*U5 (L-X y+1)<=C*U5 (L-1):=xaC _ (by
     have:=cU (i:=L-X y+1)<|X y-2;rwa[(W:L-X y+1+(X y-2)=L-1)]at this)
    lia
  rw[zX,U e1];simp only;rw[U<|hk oR i0 W];have hu:=Zt r;rw[E]at hu;have⟨y1,y2⟩:=hd W;refine ih _ ⟨w,y1,y2,uc r,by show(yg r).length<X y;lia,by show X y<=L;lia,⟨b_,?_,hc⟩,⟨_,hg,λi=> ?_⟩,λ(hn:X (yg r)≠0)=>Ve (by rw[E];show X r≠0;lia),λd l pd=> ?_⟩ (by show(yg r).length<X y;lia)
  ·refine xap f<|xaC _ ?_;show U5 (L-X x+1)<=U5 (L-X y);have:=cU (i:=L-X x+1)<|X x-X y-1;rwa[(W:L-X x+1+(X x-X y-1)=L-X y)]at this
  ·show Bb _ (G (yg r) i);rw[ZQ];exact(e7 i).le<|xbG _ _
  ·rw[<-A d l pd];show(Zd d (G y)/\Zd d (G<|yg r))↔(Zd d (G x)/\Zd d (G y));rw[A7 l pd];exact zaG l pd e4 e5 e6
 ·rw[zB];refine⟨x,O,h1,H,P,S,?_,λd l pd=> ?_⟩
  ·rw[<-h1];exact xh λj=>(e j).bz (by have:=T (i:=L-X x) W;lia)
  ·rw[<-A d l pd];have:Zd d (G y):=⟨F 0,Fs.pc 0,jp λk=>by rw[ye W,yu,zQ]⟩;exact⟨λh=>⟨h,this⟩,λh=>h.1⟩
def GcZ(ca cb c e:K):Prop:=(∃C,ca+1<=C/\cb+1<=C/\C*U5 (c-1)<=639000/\C*U5 c<=2400000)\/
 (ca<=639000/\(ca+(c-e+1)*(cb+1)+1)*U5 (e-1)<=639000/\(ca+(c-e+1)*(cb+1)+1)*U5 e<=2400000)
def znj{Ps:N M->N M->V (N M×N M×J)}{Pr:N M->V (N M)}(A:∀R x y,B R (x,y)=if(0:J)<(X y:J)then Y (Ps x y) λt=>Y (Pr t.2.1) λy'=>R (y,y')else Z x)(hc:∀{K:wr}{a:N M},y6 K a->K<=9985->X a<=1000->Pr a=Z (yg a))(hd:∀{bx by_:wr}{x y:N M},yo x=x->yo y=y->X y<=X x->0<X y->X x<=60->(∀j,Bb bx<|G x j)->(∀j,Bb by_<|G y j)->bx+(X x-X y+1)*(by_+1)<=2400000->
 ∃q r c Q,Ps x y=Z (q,r,0)/\yo r=r/\X r<X y/\c≠0/\Fs Q/\(F c*G x:Pz)=Q*G y+G r/\∀j,Bb (bx+(X x-X y+1)*(by_+1))<|G r j) {n:wr} (w:yo a=a) (l:Pm (G a)) (o:Po (G a)) (hb:yo b=b) (hi:X b<X a) (he:X a<=60) (D:∀j,Bb ca (G a j)) (bB:∀j,Bb cb (G b j)) (hZ:GcZ ca cb (X a) (X b)) (hn:X b+1<n):
 ∃x,zg B n (a,yg b)=Z x/\yo x=x/\Pm (G x)/\Po (G x)/\X x<=X a/\y6 37500 x/\∀d,Fs d->Pm d->(Zd d (G x)↔(Zd d (G a)/\Zd d (G b))):=by
 have z:X (yg b)=X b:=by rw[Zt,hb]
 have e:∀j,Bb cb (G (yg b) j):=λj=>by rw[ZQ];exact(bB j).le<|xbG _ _
 have pb:X (yg b)≠0->Pm (G<|yg b)/\Po (G<|yg b):=λh=>Ve (by rw[hb];lia);have s:∀{x:N M},(∀d,Fs d->Pm d->(Zd d (G x)↔(Zd d (G a)/\Zd d (G<|yg b))))->∀d,Fs d->Pm d->(Zd d (G x)↔(Zd d (G a)/\Zd d (G b))):=λh d f pd=>by rw[h d f pd,A7 f pd]
 rcases hZ with⟨C,h1,h2,h3,h4⟩|h1
 ·have⟨x,e1,u,e3,E,H,P,v⟩:=OO A hc hd (C:=C) (L:=X a) (n:=n) w l o (uc b) W (IR _) he h3 h4 (by rw[xcD];show ca+1<=C*1;lia) D (by rw[xcD];show cb+1<=C*1;lia) e pb W;exact⟨x,e1,u,e3,E,H,P,s v⟩
 ·have⟨hj,h1,hf⟩:=h1;obtain⟨n,rfl⟩:∃m,n=m+1:=⟨n-1,W⟩;rw[kH,A];by_cases hk:0<X b
  ·have⟨T,S⟩:∃T,T=ca+(X a-X b+1)*(cb+1):=⟨_,O⟩;rw[<-S]at h1 hf;have hl:T+1<=(T+1)*U5 (X b-1):=xco _<|xah (i0:0<U5 0) (by have h:=cU (i:=0)<|X b-1;rwa[xaK]at h);have⟨q,r,c,Q,e1,u,e3,E,H,P,v⟩:=hd w (uc b) W W he D e (by rw[z,<-S];lia);rw[z,<-S]at v;have oR:y6 9985 r:=by rw[<-u];exact xh λj=>(v j).bz W
   rw[zX,U e1];simp only;rw[U<|hc oR i0 W];have hg:=Zt r;rw[u]at hg;have⟨y1,y2⟩:=pb W;have⟨x,g1,g2,g3,g4,g5,g6,g7⟩:=OO A hc hd (C:=T+1) (L:=X b) (n:=n) (uc b) y1 y2 (uc r) W W W h1 hf (bx:=cb) (by
    rw[z,xcD];show cb+1<=(T+1)*1;have:=xak (cb+1) (W:1<=X a-X b+1);lia) e (b_:=T) (by rw[z,xcD];show T+1<=(T+1)*1;lia) (λj=>by rw[ZQ];exact(v j).le (xbG _ _)) (λh=>Ve (by rw[u];lia)) W
   refine⟨x,g1,g2,g3,g4,W,g6,s λd f pd=> ?_⟩;rw[g7 d f pd,A7 (a:=r) f pd];exact zaG f pd E H P
  ·rw[zB];refine⟨a,O,w,l,o,IR _,?_,λd f pd=> ?_⟩
   ·rw[<-w];exact xh λj=>(D j).bz W
   ·have:Zd d (G b):=⟨F 0,Fs.pc 0,jp λk=>by rw[ye W,yu,zQ]⟩;exact⟨λh=>⟨h,this⟩,λh=>h.1⟩
def EV(f:yo a=a)(r:yo b=b)(hc:yv a=1)(y:X b<X a)(z:X a<=60)(s:∀j,Bb ca<|G a j)(t:∀j,Bb cb<|G b j)(A:GcZ ca cb (X a) (X b))(Y:ca<=639000)(hk:cb<=639000)(i:3000000<=fu):
 ∃g,Wm fu a b=Z g/\yo g=g/\Pm (G g)/\Po (G g)/\X g<=X a/\∀d,Fs d->Pm d->(Zd d (G g)↔Zd d (G a)/\Zd d (G b)):=by
 have u:y6 9985 a:=by rw[<-f];exact xh λj=>(s j).bz W
 have o:y6 9985 b:=by rw[<-r];exact xh λj=>(t j).bz W
 have hd:yg a=a:=Br (uc a) f λk=>by rw[ZQ,hc,Int.ediv_one]
 have⟨c,e⟩:=Ve (a:=a) (by rw[f];lia);rw[hd]at c e;have⟨x,C,v,D,E,F,H,L⟩:=znj (B:=og fu) (Ps:=ui fu) (Pr:=xA fu) (n:=fu) (λ_ _ _=>O) (λh h1 w=>vR h) (λh1 w M N P Q S T=>rk h1 w M N P Q S T i) f c e r y z s t A W;have b1:=(Bz.one' (k:=1)<|IR _);have V:=(Dd o);have hi:wU (X x) (λj=>G x j*1)=x:=by rw[show(λj=>G x j*1)=G x from jp λj=>xcY _];exact v
 refine⟨x,?_,v,D,E,F,L⟩;unfold Wm;rw[U<|kM u,U<|kM o,hc,U<|Ug (K:=9985) (yx _) (yx _) (xap b1.len i0) V.len i0 i,zn,zn,show Int.natAbs 1=1 from O,Nat.gcd_one_left,show((1:wr):J)=1 from O,U<|vR u,U<|vR o,hd,U C,U<|jO (l:=1) H ⟨yx _,b1.len⟩ i0 W i,zn];show Z (wU (X x) λj=>G x j*1)=_;rw[hi]
theorem Tf(q:Pz):∀n,dvp (pp q<|n+1)=F ((n+1:K):J)*(pp q n*dvp q)
 |0=>by
  show dvp (F 1*q)=F 1*(F 1*dvp q);rw[zC,zC,zC]
 |n+1=>by
  show dvp (pp q (n+1)*q)=F _*(pp q n*q*dvp q);rw[KM,Tf q n,zd<|F _,zd<|pp q n,zk (dvp q) q];show _+pp q n*q*dvp q=_;rw[zd<|pp q n];funext k;rw[zU,zN,zN];grind
def zjP(hp:Tp p m)(z:Fs g)(A:Fs R)(e:p=R*g)(C:Zd g (dvp p))(c:Ir q)(h:Zd q p):Zd q R:=by
 refine xai λD=> ?_;have⟨n,_,hn⟩:=Mu.ex c m hp;have⟨S,E⟩:=VV hp.nz e;have⟨d,hd⟩:=Tp.ex z E;have⟨i,_,hi⟩:=Mu.ex c d hd;have h1:=(Mu.zero A D).mul c hi;rw[<-e,xaK]at h1;obtain rfl:=h1.uniq c hn;have T:i≠0:=λh0=>by
  subst h0;have⟨u,fu,f,l⟩:=hn;rw[show pp q 0=F 1 from O,yf]at f;simp_all
 obtain⟨j,rfl⟩:∃j,i=j+1:=⟨i-1,W⟩;have⟨u,fu,f,l⟩:=hn;have⟨v,G,H,_⟩:=hi;have o:Zd (pp q<|j+1) (dvp p):=Zd.trans ⟨v,G,H⟩ C;rw[f,KM]at o;have r:Zd (pp q<|j+1) (u*dvp (pp q<|j+1)):=by
  have:u*dvp (pp q<|j+1)=(dvp u*pp q (j+1)+u*dvp (pp q<|j+1))-dvp u*pp q (j+1):=jp λk=>by simp only[zU,yX];lia
  rw[this];exact o.sub ⟨dvp u,fu.dvp,O⟩
 rw[Tf]at r;have⟨w,s,L⟩:=r;have M:w*q=u*(F ((j+1:K):J)*dvp q):=by
  refine DS (s.mul c.fs) (fu.mul<|(Fs.pc _).mul c.fs.dvp) (c.fs.pp j) (c.pm.pp j).nz ?_;have N:w*pp q (j+1)=w*q*pp q j:=by
   show w*(pp q j*q)=_;rw[zd,zk (pp q j) q]
  rw[<-N,<-L,zd u,zd<|F _,zk (dvp q)<|pp q j]
 rcases c.prime fu ((Fs.pc _).mul c.fs.dvp) ⟨w,s,M.symm⟩with h5|h5
 ·exact l h5
 ·have⟨t,ht⟩:=Tp.ex c.fs c.pm.nz;have U:t≠0:=λh0=>c.dg<|(mI.tp ht).2 h0;have⟨P,hc,Q⟩:=LL (n:=0) ht h5 λk V=>by
   rw[zN];show _*(((k+1:K):J)*q (k+1))=0;rw[ht.2 _ W,xaA,xaA]
  have x:=Wn hc<|t-1;rw[wI P,yL λi _=>by rw[Q i W,xbd],zN]at x;have y:((j+1:K):J)*(((t-1+1:K):J)*q (t-1+1))=0:=x;rw[(W:t-1+1=t)]at y;obtain h8|h8:=xeS.1 y
  ·lia
  ·obtain h9|h9:=xeS.1 h8
   ·lia
   ·exact ht.1 h9
def zlq(hp:Tp p m)(o:Fs g)(x:Fs R)(e:p=R*g)(r:∀d,Fs d->Pm d->Zd d p->Zd d (dvp p)->Zd d g)(c:Ir q):¬Zd (q*q) R:=λ⟨z,f,i⟩=>by
 have⟨n,_,u,fu,e1,j⟩:=Mu.ex c m hp
 cases n with
 |zero=>
  refine j ⟨z*q*g,(f.mul c.fs).mul o,?_⟩;have s:u=p:=by rw[e1];exact(yf u).symm
  rw[s,e,i];simp only[zk,zD]
 |succ k=>
  have t:=c.fs.pp k;have h:pp q (k+1)=q*pp q k:=zk _ _;have⟨w,l,v⟩:=r (pp q k) t (c.pm.pp k) ⟨u*q,fu.mul c.fs,by rw[e1,h,zd]⟩ (by
   rw[e1,KM,Tf];refine Zd.add ⟨dvp u*q,fu.dvp.mul c.fs,by rw[h,zd]⟩ ⟨u*(F ((k+1:K):J)*dvp q),fu.mul<|(Fs.pc _).mul c.fs.dvp,?_⟩;simp only[zk,zD])
  refine j ⟨z*w,f.mul l,?_⟩;refine DS fu ((f.mul l).mul c.fs) (c.fs.pp<|k+1) (c.pm.pp<|k+1).nz ?_;rw[<-e1,e,i,v,h];simp only[zk,zD]
end
noncomputable def zhK(fu:K)(a:N M)(fs:N (N J))(p:J):J:=
 if qk p=wL then(if 65<(yo a).length then 6 else if vE fu (yo a) fs p=Z wL then 0 else 1)else 1
def zgA{fu:K}{p k:J}{a:N M}{fs:N (N J)}{us:N (N M)}{e:J}(f:y6 250 a)(hi:X a<=1000)(h1:1<=k)(i:k<=1000)(j:3000200<=fu)(h:jj fu a fs p k=Z (us,e)):e=zhK fu a fs p:=by
 unfold jj at h;unfold zhK;rw[U<|uD W]at h;simp only at h;rw[U (zJ f i0 W W),show wU (X a) (G a)=yo a from O]at h;by_cases hp:qk p=wL
 ·have hc:rb p k=(yz<|p^k.toNat,0):=by
   unfold rb;simp_all
  rw[hc]at h;rw[iq hp];simp only[uP]at h;by_cases g:65<X (yo a)
  ·grind
  ·rw[zB]at h;rw[ir g]
   cases c:vE fu (yo a) fs p with
   |none=>rw[c]at h;cases h
   |some b=>
    rw[c]at h;change(if(!b)=wL then _ else _)=_ at h
    cases b with
    |false=>
     rw[iq i0]at h;rw[ir i7];simp only[xat,xcI]at h;exact h.2.symm
    |true=>
     rw[ir i0]at h;rw[iq O];split at h
     ·simp only[xat,xcI]at h;exact h.2.symm
     ·cases hd:xp fu (yo a) (yz<|p^k.toNat)with
      |none=>rw[hd]at h;cases h
      |some t=>
       rw[hd]at h;change Y (qb fu t fs p k<|yz<|p^k.toNat) _=_ at h
       cases d:qb fu t fs p k (yz<|p^k.toNat)with
       |none=>rw[d]at h;cases h
       |some t3=>
        rw[d]at h;change Z (t3,(0:J))=_ at h;simp only[xat,xcI]at h;exact h.2.symm
 ·have hc:rb p k=((I,[]),1):=by
   unfold rb;rw[ir<|λh=>hp h.1]
  rw[hc]at h;rw[ir hp];simp only[Int.reduceEq,uS,xat,xcI]at h;exact h.2.symm
section
variable{fu:wr}{p:wl}{a:xS Zr}
def zkm(p:J)(n:K)(fs:N (N J)):Prop:=(∀t,t<X fs->X (fs.getD t [])<=n/\RQ p (fs.getD t []))/\∀t j,t<X fs->j<t->jZ p (C<|fs.getD t []) (C<|fs.getD j [])
def LH{i:K}{f:N J}{fs:N (N J)}(hp:qk p=wL)(hd:Fp p f)(g:X f<=290)(hi:i<=X fs)(y:i<=1000000)(k:∀j,j<i->Fp p (fs.getD j [])/\X (fs.getD j [])<=290)(l:3000000<=fu):
 ∃r,zg (jR fu p f<|fs.take i) fu 0=Z r/\((r=.inl ()/\∀j,j<i->jZ p (C f) (C<|fs.getD j []))\/(r=.inr ()/\¬∀j,j<i->jZ p (C f) (C<|fs.getD j []))):=by
 have⟨m,z⟩:=zw hp;have hl:X (fs.take i)=i:=by rw[xav];lia
 have n:∀j,j<i->(fs.take i).getD j []=fs.getD j []:=λj b=>by rw[FS,xcn,iq b,<-FS]
 refine yc (λx:J=>∃j:K,x=(j:J)/\j<=i/\∀t,t<j->jZ p (C f) (C<|fs.getD t [])) (λx=>i-x.toNat) _ ?_ _ _ ⟨0,O,xan _,λt h=>wS h<|xbq _⟩ (by show i-0<fu;lia);rintro x L ⟨j,rfl,b,c⟩ o;unfold jR;by_cases h1:j<i
 ·have⟨k1,k2⟩:=k j h1;have⟨d,s,t,q,u,v⟩:=JD (fu:=fu) hp hd k1 g k2 l;have hc:=zbL m u v;rw[zX,z8,S,n j h1,U q];simp only;by_cases e:X d=1
  ·rw[zX,zb];refine o _ ⟨j+1,O,W,λt ht=> ?_⟩ W;by_cases w:t=j
   ·rw[w];exact hc.1 e
   ·exact c t W
  ·rw[zB];exact⟨_,O,.inr ⟨O,λh=>e<|hc.2<|h j h1⟩⟩
 ·rw[zB];exact⟨_,O,.inl ⟨O,λt ht=>c t W⟩⟩
def zam{fs:N (N J)}(hp:qk p=wL)(e:X a<=66)(h0:X a≠0)(hl:X (qZ p a)=X a)(g1:∀t,t<X fs->X (fs.getD t [])<=X a/\RQ p (fs.getD t [])):
 (∀f∈fs,Fp p f)/\(∀f∈fs,X f<=66)/\(qZ p a).drop (X a-1)=[C (qZ p a)<|X a-1]/\Fp p [C (qZ p a)<|X a-1]:=by
 have⟨g,i⟩:=zw hp;have c:∀{q:N J->Prop},(∀t,t<X fs->q (fs.getD t []))->∀f∈fs,q f:=λ{q} h f d=>by
  obtain⟨j,k,rfl⟩:=xcE.1 d;simp_all
 have b:=QI (p:=p) W a;have hd:C (qZ p a) (X a-1)≠0:=by
  obtain h|h:=b.nl
  ·lia
  ·simp_all
 have l:=b.nn<|X a-1;have hc:=b.lt<|X a-1;refine⟨c λt ht=>(g1 t ht).2.fp W,c λt ht=>by have:=(g1 t ht).1;lia,?_,VR W hc⟩;rw[xcb W,xbW W];unfold C;rw[FS,xab W];rfl
def mr{k:K}{fs:N (N J)}(hp:qk p=wL)(s:y6 k a)(u:k<=40000)(v:X a<=66)(g:3000000<=fu):
 ∃b,vE fu a fs p=Z b/\(b=wL↔dh p a fs):=by
 have⟨D,w⟩:=zw hp;unfold vE;rw[U<|Zh s u W w];simp only;by_cases h0:X a=0
 ·rw[zX];exact⟨_,O,λe=>wS e i0,λe=>wS h0 e.a0⟩
 ·rw[zB];by_cases hl:X (qZ p a)=X a
  ·rw[zX];by_cases E:X a<X fs
   ·rw[zX];exact⟨_,O,λe=>wS e i0,λe=>by have:=e.fl;lia⟩
   ·rw[zB]
    have⟨r,e1,m⟩:=yc (f:=jJ fu a fs p) (λx:J×N J=>∃i:K,x=((i:J),qZ p a)/\i<=X fs/\(∀t,t<i->X (fs.getD t [])<=X a/\RQ p (fs.getD t []))/\∀t j,t<i->j<t->jZ p (C<|fs.getD t []) (C<|fs.getD j [])) (λx=>X fs-x.1.toNat)
     (λr=>(r=.inr ()/\¬zkm p (X a) fs)\/(r=.inl (qZ p a)/\zkm p (X a) fs)) (by
      rintro x L ⟨i,rfl,hi,g1,d⟩ y;unfold jJ;simp only;by_cases h1:i<X fs
      ·rw[zX,U O];simp only[uP];rw[zo h1,S];by_cases F:X a<X (fs.getD i [])
       ·rw[zX];exact⟨_,O,.inl ⟨O,λh=>by have:=(h.1 i h1).1;lia⟩⟩
       ·have⟨b,b1,b2⟩:=KG (fu:=fu) (l:=fs.getD i []) (p:=p) W g;rw[zB,U b1]
        cases b with
        |false=>
         rw[iq i0];exact⟨_,O,.inl ⟨O,λh=>wS (b2.2 (h.1 i h1).2) i0⟩⟩
        |true=>
         have hc:=b2.1 O;rw[ir i0,yF,yW,S];have⟨q,q1,q2⟩:=LH (fu:=fu) (i:=i) (fs:=fs) hp (hc.fp W) W W W (λj c=>⟨(g1 j c).2.fp W,by have:=(g1 j c).1;lia⟩) g;rw[U q1];rcases q2 with⟨rfl,q2⟩|⟨rfl,q2⟩
         ·simp only;rw[zb];refine y _ ⟨i+1,O,W,λt ht=> ?_,λt j ht c=> ?_⟩ (by show X fs-((i:J)+1).toNat<X fs-(i:J).toNat;lia)
          ·by_cases n:t=i
           ·rw[n];exact⟨W,hc⟩
           ·exact g1 t W
          ·by_cases n:t=i
           ·rw[n]at c⊢;exact q2 j c
           ·exact d t j W c
         ·exact⟨_,O,.inl ⟨O,λh=>q2 λj c=>h.2 i j h1 c⟩⟩
      ·rw[zB,U O];simp only[xao,uS];exact⟨_,O,.inr ⟨O,λt ht=>g1 t W,λt j ht c=>d t j W c⟩⟩) fu (0,qZ p a) ⟨0,O,xan _,λt h=>wS h (xbq _),λt j h=>wS h (xbq _)⟩ (by show X fs-0<fu;lia)
    rw[U e1];rcases m with⟨rfl,m⟩|⟨rfl,g1,d⟩
    ·exact⟨_,O,λe=>wS e i0,λe=>wS ⟨e.pl,e.cp⟩ m⟩
    ·simp only;have⟨hn,o,hd,z⟩:=zam hp v h0 hl g1;have G:X fs*66<=66*66:=xak _ W;have hc:=dw (p:=p) o;have A:=QI (p:=p) W a;have B:=jw p (Qu p fs) [C (qZ p a)<|X a-1];simp only[xax,xbP]at B;rw[U (jy hp hn o W i0),hl,(W:(X a:J)-1=((X a-1:K):J)),zb,yF,yW,S,hd,U<|Zf hp (eC W fs) z W i7];simp only;rw[U<|J4 hp (qY W _ _) A W W g];exact⟨_,O,λe=>⟨h0,hl,W,g1,d,Ws e⟩,λe=>Wf e.pr⟩
  ·rw[zB];exact⟨_,O,λe=>wS e i0,λe=>wS e.al hl⟩
end
section
variable{a R:xS Zr}{B B1 fu K:wr}{q p:wl}{ds:xS wl}
theorem By(h:FH a=0):1<=X (yo a)/\X (yo a)<=65:=by grind [FH]
def zbQ:qk 2=wL:=zhv ⟨i0,i0,λd h1 b=>by
 have:=xck h1 h1;lia⟩
theorem zdf(hc:yo a=a)(hp:Pm (G a))(b:Po (G a)):yv a=1:=by
 have⟨n,hn,hd⟩:=b.tp;have c:=λe=>hn.1<|WI e n;have h1:=(Qj c).uniq hn;have f:=hp _<|oh λk d=>ye d;have a3:yv a=if G (yo a) (X (yo a)-1)<0 then-((Wv (G a) (X (yo a)):wr):J)else((Wv (G a) (X (yo a)):wr):J):=O;grind
def Po.left{u v:Pz}(fu:Fs u)(h:Po (u*v))(hv:Po v):Po u:=by
 have⟨m,d,hp⟩:=h.tp;have⟨b,e,f⟩:=hv.tp;have⟨g,_⟩:=VV d.nz O;have⟨a,c⟩:=Tp.ex fu g;obtain rfl:=(c.mul e).uniq d;rw[KR c.2 e.2]at hp;exact⟨a,Int.pos_of_mul_pos_left hp f,c.2⟩
structure Rad(a R:N M):Prop where
 can:yo R=R
 pm:Pm (G R)
 ps:Po (G R)
 dv:∃g:Pz,Fs g/\G (yg a)=G R*g
 al:∀q,Ir q->Zd q (G a)->Zd q (G R)
 ln:R.length<=(yo a).length
 sf:∀q,Ir q->¬Zd (q*q) (G R)
structure znm(a g R:N M):Prop where
 rad:Rad a R
 gc:yo g=g
 gp:Pm (G g)
 go:Po (G g)
 gd:∀d,Fs d->Pm d->(Zd d (G g)↔Zd d (G<|yg a)/\Zd d (dvp<|G<|yg a))
 eq:(G (yg a):Pz)=G R*G g
def zig{Gc:N M->N M->V (N M)}{Dv:N M->N M->V (N M×J)}(hl:X a<=40)(h0:FH a=0)(H:∀j,Bb B<|G a j)(m:∀j,Bb B1<|G a<|j+1)(hB:B<=6000)(L:∀{x y:N M},yo x=x->yo y=y->yv x=1->X y+1=X x->X x=X (yo a)->(∀j,Bb B<|G x j)->(∀j,Bb (B1+6)<|G y j)->∃g,Gc x y=Z g/\yo g=g/\Pm (G g)/\Po (G g)/\X g<=X x/\∀d,Fs d->Pm d->(Zd d (G g)↔Zd d (G x)/\Zd d (G y)))(P:∀{x y:N M},y6 94 x->y6 97 y->X x<=40->X y<=40->X (yo y)≠0->∃q e,Dv x y=Z (q,e)/\(e=0↔Zd (G y) (G x))/\(e=0->(G x:Pz)=G q*G y/\yo q=q/\X q<=X x)):
 ∃g R,Gc (yg a) (wU (X (yg a)-1)<|dvp<|G<|yg a)=Z g/\Dv (yg a) g=Z (R,0)/\znm a g R/\∀j,Bb (B+X (yo a)+4) (G R j):=by
 have hv:=By h0;have hy:=Zs a;have⟨p,hp⟩:∃p,p=yg a:=⟨_,O⟩;have f:yo p=p:=by rw[hp];exact uc a
 have hi:X p=X (yo a):=by rw[hp];exact Zt a
 have⟨n,o⟩:=Ve (a:=a) W;have v:=λq h1 z=>(A7 (a:=a) (d:=q) h1 z).2;rw[<-hp]at n o v⊢;have Q:X (yo p)≠0:=by rw[f];lia
 have tp:=Qj Q;rw[f]at tp;have A:∀{b:wr}{j},Bb b (G a j)->Bb b (G p j):=λh=>by
  rw[hp,ZQ];exact h.le<|xbG _ _
 have l:∀j,Bb B (G p j):=λj=>A<|H j;have oP:y6 94 p:=by rw[<-f];exact xh λj=>(l j).bz W
 have hn:=zdf f n o;have⟨d,hd⟩:∃d,d=wU (X p-1) (dvp<|G p):=⟨_,O⟩;have hc:(G d:Pz)=dvp (G p):=jp λk=>by
  rw[hd];exact jW (λk hk=>by unfold dvp;rw[ye W,xaA]) k
 have S:yo d=d:=by rw[hd];exact(QX _ _).symm
 have T:X d+1=X p:=by
  rw[hd,xC];by_cases h1:X p=1
  ·rw[h1];rfl
  ·have:dg (dvp<|G p) (X p-1)=X p-1:=KD (IR _) (λk h1 z=>by lia) (.inr (by
    show((X p-1-1+1:wr):J)*G p (X p-1-1+1)≠0;rw[(W:X p-1-1+1=X p-1)];exact xcT W tp.1))
   lia
 have U:∀j,Bb (B1+6) (G d j):=λj=>by
  rw[hc];show Bb _ (((j+1:wr):J)*G p (j+1));by_cases r:j+1<64
  ·rw[xbE];exact(A<|m j).mul (show((j+1:wr):J).natAbs<2^6 by rw[xaD];exact r)
  ·rw[ye W,xaA];exact Bb.zero _
 have⟨g,g1,C,s,D,g5,t⟩:=L f S hn T hi l U;have⟨Y,z2⟩:=(t _ (Fs.cf g) s).1<|Zd.refl _;have ht:X (yo g)≠0:=λe=>by
  have⟨j,r⟩:=s.nz;exact r<|WI e j
 have⟨w,E,F⟩:=Y;have bG:∀j,Bb (B+X (yo a)+4) (G g j):=λj=>(Ik tp (Fs.cf g) E (by rw[F,zk]) W l j).mono W;have oG:y6 97 g:=by rw[<-C];exact xh λj=>(bG j).bz W
 have⟨R,e,r1,r2,r3⟩:=P oP oG W W ht;have he:e=0:=r2.2 ⟨w,E,F⟩;subst he;have⟨c,r5,r6⟩:=r3 O;have hu:Pm (G R):=(c▸n:Pm (G R*G g:Pz)).left;refine⟨g,R,by rw[<-hd];exact g1,r1,⟨⟨r5,hu,Po.left (Fs.cf R) (c▸o:Po (G R*G g:Pz)) D,⟨G g,Fs.cf g,by rw[<-hp];exact c⟩,λq i hz=> ?_,W,λq i=>zlq tp (Fs.cf g) (Fs.cf R) c (λd u pd y1 y2=>(t d u pd).2 ⟨y1,by rw[hc];exact y2⟩) i⟩,C,s,D,λd u pd=>by rw[<-hp,t d u pd,hc],by rw[<-hp];exact c⟩,λj=>(Ik tp (Fs.cf R) (Fs.cf g) c W l j).mono W⟩;exact zjP tp (Fs.cf g) (Fs.cf R) c (by rw[<-hc];exact z2) i<|v q i.fs i.pm hz
def zd8(o:y6 K a)(r:K<=100)(hl:X a<=40)(h0:FH a=0)(h:∀j,Bb B<|G a j)(b:∀j,Bb B1<|G a<|j+1)(i:B<=6000)(hc:B1<=6000)(k:GcZ B (B1+6) (X (yo a)) (X (yo a)-1))(e:3000000<=fu):
 ∃g R,Wm fu (yg a) (wU (X (yg a)-1)<|dvp<|G<|yg a)=Z g/\xV fu (yg a) g=Z (R,0)/\znm a g R/\∀j,Bb (B+X (yo a)+4) (G R j):=by
 have hd:=Zs a
 exact zig (Gc:=Wm fu) (Dv:=xV fu) hl h0 h b i (λ{x y} g1 c f l d m n=>EV g1 c f W W m n (by rw[(W:X y=X (yo a)-1),d];exact k) W W e)
  (λ{x y} g1 c f l d=>JJ g1 c (by have:=xak (97+1) (W:X x+1<=41);lia) W W d e)
def lD(b:y6 K a)(e:K<=100)(hl:X a<=40)(h0:FH a=0)(f:∀j,Bb B<|G a j)(c:∀j,Bb B1<|G a<|j+1)(h:B<=6000)(hc:B1<=6000)(i:GcZ B (B1+6) (X (yo a)) (X (yo a)-1))(d:3000000<=fu):
 ∃g R,qE fu a=Z (R,0)/\znm a g R/\∀j,Bb (B+X (yo a)+4) (G R j):=by
 have hd:=Zs a;have n:=Zt a;have⟨g,R,h1,k,l,m⟩:=zd8 b e hl h0 f c h hc i d;refine⟨g,R,?_,l,m⟩;unfold qE;rw[U<|bS b W W d,iq h0,U<|vR b,U<|rP (oU b) W W d,U h1];unfold rL;rw[U (v:=R)<|by rw[U k]]
def pf(d:y6 K a)(e:K<=100)(hl:X a<=40)(h0:FH a=0)(b:∀j,Bb B<|G a j)(c:B<=6000)(f:(B+7)*U5 (X (yo a)-1)<=639000)(hc:(B+7)*U5 (X (yo a))<=2400000)(h:3000000<=fu):
 ∃R,qE fu a=Z (R,0)/\Rad a R/\∀j,Bb (B+X (yo a)+4) (G R j):=by
 have⟨g,R,h1,i,k⟩:=lD (fu:=fu) d e hl h0 b (λj=>b<|j+1) c c (.inl ⟨B+7,W,W,f,hc⟩) h;exact⟨R,h1,i.rad,k⟩
def R8:qk 65521=wL:=zhv ⟨i0,i0,λd h1 e=>by
 have c:d<256:=by
  refine xai λhn=> ?_;have:=xck (W:256<=d) (W:256<=d);lia
 have b:∀d:wr,d<256->2<=d->65521%d≠0:=by decide+kernel
 exact b d c h1⟩
def sx(h:65521<=q):wM fu q=Z (0,5):=by
 unfold wM;simp_all
def bK(h1:1<=q)(h:q<65521)(j:3000000<=fu):∃r,wM fu q=Z (r,0)/\qk r=wL/\q<r/\∀s,q<s->s<r->qk s=I:=by
 unfold wM;have⟨r,c,r1,r2,k⟩:=yc (f:=JU fu) (λi:J=>q<i/\i<=65521/\∀s,q<s->s<i->qk s=I) (λi=>(65521-i).toNat) (λr=>qk r=wL/\q<r/\∀s,q<s->s<r->qk s=I) (by
  rintro i L ⟨i1,i2,b⟩ d;unfold JU;rw[U<|WH W]
  cases hp:qk i with
  |true=>rw[ir i0];exact⟨_,O,hp,i1,b⟩
  |false=>
   have l:i≠65521:=λe=>by rw[e,R8]at hp;cases hp
   rw[iq i0,zb];refine d _ ⟨W,W,λs h1 g=> ?_⟩ W;by_cases e:s=i
   ·simp_all
   ·exact b s h1 W) fu (q+1) ⟨W,W,λs h1 g=>by lia⟩ W
 rw[zB,S,(W:max q 1=q),zb,U c];simp_all
def XN(R:N M)(p:J):Prop:=qk p=wL/\G R (X R-1)%p≠0/\jZ p (G R) (dvp<|G R)
def GU{x:J}{f g:Pz}(h:Cg p g (F x*f))(hc:jZ p g (dvp g)):jZ p f (dvp f):=by
 have h1:Cg p (dvp g) (F x*dvp f):=(zgs h).trans (Cg.of (by
  rw[KM,zll];funext k;rw[zU,yu,zQ,xcS]))
 have⟨s,t,fs,b,e⟩:=hc.congr h h1;refine⟨s*F x,t*F x,fs.mul<|Fs.pc x,b.mul<|Fs.pc x,?_⟩;rw[zd,zd];exact e
def o9(hp:0<p:=by lia)(b:0<X R:=by lia):X (qZ p R)=X R↔G R (X R-1)%p≠0:=by
 have hn:=(QI hp R).nl;constructor
 ·intro h;obtain h1|h1:=hn
  ·lia
  ·rw[h,KJ]at h1;exact h1
 ·intro h;have:=zim p R;by_cases e:X (qZ p R)=X R
  ·exact e
  ·exfalso;rw[<-KJ,yp W]at h;lia
def zkC(hp:qk p=wL)(s:0<X R)(hl:X R<=65)(t:X (qZ p R)=X R)(e:3000000<=fu:=by lia):
 ∃m b,zeA p (qZ p R) m/\vB p m/\YA fu (qZ p R) p=Z (b,0)/\(b=wL↔jZ p (C m) (dvp<|C m))/\ud fu (qZ p R) p=if b=wL then Z (m,0)else Z ([],1):=by
 have⟨g,v⟩:=zw hp;have f:=QI (p:=p) W R;have⟨m,b,h1,c,h,i,j⟩:=rZ (fu:=fu) hp f W W e;refine⟨m,b,h1,c,?_,i,j⟩;have hd:=h1.ln;have⟨x,x0,w,l,e1⟩:=X0 (fu:=fu) hp f W W e;have⟨z,c1,c2,A⟩:=mV (fu:=fu) hp c W e;have d:=PT g f W l;have n:xF p (qZ p R) [x]=m:=by
  have⟨_,y,_,o⟩:=d.cg;have⟨u,_,r,_⟩:=h1.cg;have hc:Cg p (C m) (F (u*y)*C (xF p (qZ p R) [x])):=by
   rw[<-kf,zd];exact r.trans<|Cg.rfl.mul o
  have t1:=hc<|X m-1;have t2:=d.top;have t3:=d.ln;rw[c.top,zN,(W:X m-1=X (xF p (qZ p R) [x])-1),t2,xcY]at t1;refine(c.fm.ext d.fm<|hc.trans ?_).symm;refine(Cg.mul (f':=F 1) (λk=> ?_) Cg.rfl).trans<|Cg.of<|zC _;unfold F;split
  ·exact t1.symm
  ·rfl
 rw[n]at e1;rw[<-h];unfold YA QU;rw[U e1,U c1]
def PV{m:N J}(h:zeA p (qZ p R) m):jZ p (C m) (dvp<|C m)↔jZ p (G R) (dvp<|G R):=by
 have⟨x,y,b,c⟩:=h.cg;exact⟨λhc=>GU (b.trans<|Cg.rfl.mul<|gh p R) hc,λhc=>GU ((gh p R).symm.trans c) hc⟩
def Ah(f:yo R=R)(c:y6 K R)(h:K<=300)(h0:FH R=0)(g:3000000<=fu):∃b,QN fu R p=Z (b,0)/\(b=wL↔XN R p):=by
 have i:=By h0;rw[f]at i;unfold QN;have⟨y,j,_⟩:=bU (fu:=fu) c h W g;rw[U j,h0];simp only[uP];rw[U<|WH W]
 cases hp:qk p with
 |false=>
  rw[iq i0];exact⟨_,O,λe=>wS e i0,λe=>by rw[e.1]at hp;cases hp⟩
 |true=>
  have⟨o,k⟩:=zw hp;rw[ir i0,U<|Zh c W W k];simp only;rw[U<|zJ c W W g,show wU (X R) (G R)=R from f];by_cases d:X (qZ p R)=X R
  ·have⟨m,b,h1,r,l,n,_⟩:=zkC (fu:=fu) hp W W d;rw[zX,U l];refine⟨b,O,?_⟩;rw[n,PV h1];exact⟨λhc=>⟨hp,(o9).1 d,hc⟩,λhc=>hc.2.2⟩
  ·rw[zB];exact⟨_,O,λe=>wS e i0,λe=>wS ((o9).2 e.2.1) d⟩
structure zhS(R:N M)(p:J)(l:N (N J)):Prop where
 el:∀g∈l,Qx p g/\RQ p g/\g.length<=66
 pw:l.Pairwise λa b=>jZ p (C a)<|C b
 cg:Cg p (G R) (F (G R<|R.length-1)*prZ (l.map C))
 ln:l.length<=R.length-1
def NJ{p:J}:∀{l:N (N J)},(∀g∈l,vB p g/\1<X g)->∃d,Mn (prZ<|l.map C) d/\X l<=d
 |[],_=>⟨0,⟨O,λk c=>by show F 1 k=0;unfold F;rw[zB]⟩,IR _⟩
 |g::l,h=>by
  have⟨h1,e⟩:=h g<|H1;have⟨d,hd,hl⟩:=NJ λx b=>h x<|UV _ b;exact⟨_,zkl h1.mn hd,by rw[xax];lia⟩
def zcP(c:XN R p)(M:1<X R)(hl:X R<=13)(hd:Rl ds)(w:X ds<=1000)(z:3000001<=fu):∃l,Y9 fu (qZ p R) p ds=Z (l,0)/\zhS R p l:=by
 have⟨hp,ht,hc⟩:=c;have⟨r,N⟩:=zw hp;obtain⟨P,rfl⟩:=xaE (W:0<=p);have A:=(o9 (p:=(P:J))).2 ht;have⟨m,b,h1,f,Q,D,s⟩:=zkC (fu:=fu) hp W W A;have i:=(PV h1).2 hc;rw[iq<|D.2 i]at s;have⟨l,us,e1,S,e,h⟩:=Ai (fu:=fu) (b:=b) hp (QI W R) W W hd w z h1 f s i;have T:=h1.ln;have hi:∀g∈l,X g<=66:=λg c=>by
  have⟨q,fq,E⟩:=e.dv c;have:=gm r f (e.mn g c).1 fq E;lia
 refine⟨l,e1,λg c=>⟨h g c,⟨λj _=>⟨(e.mn g c).1.fm.nn j,(e.mn g c).1.fm.lt j⟩,(e.mn g c).2,(e.mn g c).1.top⟩,hi g c⟩,?_,?_,?_⟩
 ·refine xdu.2 λ{a b} n=> ?_;have o:a∈l:=n.subset i7;have u:b∈l:=n.subset i7;refine(h a o).cop hp (h b u) (by have:=hi a o;lia) (by have:=hi b u;lia) λhn=> ?_;subst hn;have:=oe (p:=(P:J)) (n.map C) U9;refine jZ.sq r (h a o) i<|Di.cg ?_ e.pr.symm;refine Di.trans ⟨F 1,Fs.pc 1,Cg.of ?_⟩ this;show C a*(C a*F 1)=_;rw[yf,zC]
 ·have⟨x,y,U,G⟩:=h1.cg;have v:=(gh (P:J) R).symm.trans G;have t:=v<|X R-1;rw[zN,(W:X R-1=X m-1),f.top,xcY,(W:X m-1=X R-1)]at t;refine v.trans<|Cg.mul (λk=> ?_) e.pr;unfold F;split
  ·exact t.symm
  ·rfl
 ·have⟨d,hd,V⟩:=NJ e.mn;have H:=f.mn;have L:(1:J)%(P:J)=1:=xaJ i0 W;have t1:=e.pr d;rw[hd.1,L]at t1;by_cases hv:d<=X m-1
  ·lia
  ·rw[H.2 d W,xau]at t1;cases t1
theorem AO(F:yo R=R)(A:y6 K R)(G:K<=300)(h0:FH R=0)(H:1<X R)(hl:X R<=13)(hd:Rl ds)(hp:X ds<=1000)(M:3000001<=fu):
 ∃p l,Q5 fu R ds=Z (p,l)/\((p=0/\∀q,¬XN R q)\/(XN R p/\zhS R p l)):=by
 have hi:∀{q r:J},(∀s,s<=q->¬XN R s)->(∀s,q<s->s<r->qk s=I)->∀s,s<r->¬XN R s:=λ{q r} h1 x s u d=>by
  by_cases h:s<=q
  ·simp_all
  ·have:=x s W u;rw[d.1]at this;grind
 have P:∀{q:J},65521<=q->(∀s,s<=q->¬XN R s)->∀s,¬XN R s:=λ{q} v h s d=>by
  have:=(zw d.1).2;exact h s W d
 obtain⟨s,u,p,l,rfl,Q⟩:=yc (f:=Jk fu R ds) (λs:J×J×N (N J)×J×J=>(s.2.2.2.2=0->qk s.2.2.2.1=wL)/\0<=s.2.1/\((s.1=0/\s.2.1=0/\(s.2.2.2.2=0->∀q,q<s.2.2.2.1->¬XN R q)/\(s.2.2.2.2≠0->∀q,¬XN R q))\/(XN R s.1/\zhS R s.1 s.2.2.1))) (λs=>if s.2.2.2.2=0 then(65522-s.2.2.2.1).toNat else 0)
  (λr=>∃p l,r=(p,l)/\((p=0/\∀q,¬XN R q)\/(XN R p/\zhS R p l))) (by
  rintro⟨b,n,out,q,e⟩ L ⟨i1,i2,k⟩ m
  simp only at i1 i2 k m
  unfold Jk
  simp only
  by_cases g:e=0
  ·have v:=i1 g
   have⟨q1,q2⟩:=zw v
   rw[iq g]
   by_cases hn:n<5
   ·have⟨c,c1,c2⟩:=Ah (fu:=fu) (p:=q) F A G h0 W
    rw[iq hn,U c1]
    have hc:∃r o,wM fu q=Z (r,o)/\(o=0->qk r=wL/\q<r/\∀s,q<s->s<r->qk s=I)/\(o≠0->65521<=q):=by
     by_cases h:65521<=q
     ·exact⟨0,5,sx h,λh=>wS h i0,λ_=>h⟩
     ·have⟨r,h1,x⟩:=bK (fu:=fu) (q:=q) W W W;exact⟨r,0,h1,λ_=>x,λh=>wS O h⟩
    have⟨r,o,n1,n2,S⟩:=hc
    have w:(if o=0 then(65522-r).toNat else 0)<(if e=0 then(65522-q).toNat else 0):=by
     rw[iq g];split
     ·have:=n2 (by assumption);lia
     ·lia
    cases c with
    |false=>
     have T:¬XN R q:=λd=>by have:=c2.2 d;cases this
     rw[iq i0,U n1]
     refine m _ ⟨λh=>(n2 h).1,i2,?_⟩ w
     rcases k with⟨i,y,C,D⟩|j
     ·have E:∀s,s<=q->¬XN R s:=λs u d=>by
       by_cases h:s=q
       ·rw[h]at d;exact T d
       ·exact C g s W d
      exact .inl ⟨i,y,λh=>hi E (n2 h).2.2,λh=>P (S h) E⟩
     ·exact .inr j
    |true=>
     have d:=c2.1 O
     have⟨t,t1,t2⟩:=zcP (fu:=fu) d H hl hd hp M
     rw[ir i0,zb,U<|Zh A W W q2]
     simp only
     rw[U t1]
     simp only
     by_cases z:b=0
     ·rw[iq z,U n1]
      exact m _ ⟨λh=>(n2 h).1,by show 0<=n+1;lia,.inr ⟨d,t2⟩⟩ w
     ·have j:XN R b/\zhS R b out:=by
       rcases k with⟨i,_⟩|j
       ·exact wS i z
       ·exact j
      rw[ir z]
      split
      ·rw[U n1]
       exact m _ ⟨λh=>(n2 h).1,by show 0<=n+1;lia,.inr ⟨d,t2⟩⟩ w
      ·rw[U n1]
       exact m _ ⟨λh=>(n2 h).1,by show 0<=n+1;lia,.inr j⟩ w
   ·rw[ir hn]
    refine⟨_,O,b,out,O,?_⟩
    rcases k with⟨i,y,_⟩|j
    ·lia
    ·exact .inr j
  ·rw[ir g]
   refine⟨_,O,b,out,O,?_⟩
   rcases k with⟨i,y,C,D⟩|j
   ·exact .inl ⟨i,D g⟩
   ·exact .inr j) fu (0,0,[],2,0) ⟨λ_=>zbQ,xgb 0,.inl ⟨O,O,λ_ q v d=>by have:=(zw d.1).1;simp only at v;lia,λh=>wS O h⟩⟩ (by
   show(if(0:J)=0 then((65522:J)-2).toNat else 0)<fu
   rw[iq O]
   lia)
 refine⟨p,l,?_,Q⟩;unfold Q5;have⟨r,r1,r2,Y,V⟩:=bK (fu:=fu) (q:=1) i0 i0 W;have:r=2:=by
  by_cases h:r=2
  ·exact h
  ·have h5:=(zw r2).1;have:=V 2 i0 W;rw[zbQ]at this;cases this
 subst this;rw[U r1];simp only;rw[U u]
end
section
variable{fu K Y:wr}{a b R:xS Zr}
theorem zaT(f g:wr->J):∀n,Ho f g n= -1\/Ho f g n=0\/Ho f g n=1
 |0=> .inr (.inl O)
 |n+1=>by
  unfold Ho;split
  ·exact zaT f g n
  ·lia
theorem N3(a b:N M):QY a b= -1\/QY a b=0\/QY a b=1:=by grind [QY,zaT]
theorem Ak(f:y6 K a)(g:y6 K b)(k:yo a=a)(l:yo b=b)(p:K<=40000)(hd:X a<=1000)(q:X b<=1000)(d:3000000<=fu):Xc fu a b=Z (decide<|QY a b<0):=by
 unfold Xc;rw[U<|zJ f W W d,U<|zJ g W W d,show wU (X a) (G a)=a from k,show wU (X b) (G b)=b from l];have hc:QY a b=if X a=X b then Ho (G a) (G b) (X a) else if X a<X b then-1 else 1:=O;by_cases hl:X a=X b
 ·rw[iq hl]at hc;rw[zX,zb,U (v:=if QY a b=0 then Sum.inl ()else Sum.inr (decide<|QY a b<0))]
  ·obtain h|h|h:=N3 a b<;>rw[h]<;>rfl
  ·rw[hc];refine zA (λs:J=>∃n:wr,s=(n:J)-1/\n<=X a/\Ho (G a) (G b) n=Ho (G a) (G b) (X a)) (λs=>(s+1).toNat) _ ?_ _ _ ⟨X a,O,IR _,O⟩ (by show((X a:J)-1+1).toNat<fu;lia);rintro s L ⟨n,rfl,hn,c⟩ m;unfold dq
   cases n with
   |zero=>
    rw[zB,<-c];rfl
   |succ n=>
    have o:=f.get n;have ob:=g.get n;rw[(W:((n+1:wr):J)-1=(n:J)),zX,z8,S,z8,S,U<|ZW (gV.of o W) (gV.of ob W) d,Vd,Vd];rw[show Ho (G a) (G b) (n+1)=if G a n=G b n then Ho (G a) (G b) n else if G a n<G b n then-1 else 1 from O]at c;by_cases e:G a n=G b n
    ·rw[iq e]at c;rw[iq<|xN.2 e,zb];exact m _ ⟨n,O,W,c⟩ W
    ·rw[ir e]at c;rw[ir λh=>e<|xN.1 h];unfold jH;by_cases i:G a n<G b n
     ·rw[iq i]at c⊢;rw[<-c,iq i0];rfl
     ·rw[ir i]at c⊢;rw[iq (W:G b n<G a n),<-c,ir i0];rfl
 ·rw[ir hl]at hc;rw[zB,hc];by_cases j:X a<X b
  ·rw[iq j,zX];rfl
  ·rw[ir j,zB];rfl
theorem mQ(c:y6 K a)(d:y6 K b)(e:yo a=a)(f:yo b=b)(g:K<=40000)(hc:X a<=1000)(hd:X b<=1000)(h:3000000<=fu):jV fu a b=Z (QY a b):=by grind [jV,U,Ak,X9,N3]
def ziI:Od3 QY Gd:=⟨λx y z _ _ _ h1 d e=>by
 have f:=TR (a:=x) (b:=y) (c:=z) (by have:=X9 x y;lia) (by have:=X9 y z;lia);have:=X9 x z;lia,λx y _ _ h1 d=>by
 have:=X9 x y;lia⟩
def BdY(R:N M)(Y:wr):Prop:=∃r:wr,Y=(r+1)*2^(X R-1)/\(r:J)*r<rf (G R) (X R)/\rf (G R) (X R)<=((r:J)+1)*(r+1)
theorem zgb(c:yo R=R)(e:y6 K R)(f:K<=300)(h0:FH R=0)(g:3000000<=fu):∃Y,vz fu R=Z (yz (Y:wr),0)/\BdY R Y:=by
 have d:=By h0;have hc:=Xp (show R=wU (X R) (G R)from c.symm) (by rw[c]at d;lia);have⟨y,h1,h⟩:=bU e f (by rw[c]at d;lia) g;obtain⟨r,rfl,i,j⟩:=h h0;rw[c]at h1 i j d;have hd:=Ma (n:=X R) ⟨X R-1,W,hc⟩;refine⟨_,by rw[h1,h0],r,O,?_,?_⟩
 ·lia
 ·grind
def zmd{x y:wr}(h:x*x<=y*y):x<=y:=by
 refine xai λhn=> ?_;have:=xcm (W:y<x) (W:y<x);lia
theorem zpu{M:J}(k:0<X R)(ht:Tp (G R) (X R-1))(hp:0<G R (X R-1))(f:BdY R Y)(l:2*((Y:J)*G R (X R-1))<M):Bdz M (G R):=λu v b fu hv e j=>by
 obtain⟨r,rfl,_,g⟩:=f;have⟨h,_⟩:=VV ht.nz e;have⟨a,c⟩:=Tp.ex fu h;have hc:a+b=X R-1:=by
  have:=c.mul hv;rw[<-e]at this;exact this.uniq ht
 have i:(v b*u j).natAbs<=(r+1)*2^(X R-1):=by
  refine zmd ?_;have m:((v b*u j).natAbs*(v b*u j).natAbs:wr)=(v b*u j*(v b*u j)).natAbs:=(xct _ _).symm;have n:(((r+1)*2^(X R-1)*((r+1)*2^(X R-1)):wr):J)=4^(X R-1)*(((r:J)+1)*(r+1)):=by
   have:(4:J)^(X R-1)=2^(X R-1)*2^(X R-1):=by rw[(i0:(4:J)=2*2),Int.mul_pow]
   grind
  have h0:=YE<|v b*u j;have o:v b*u j*(v b*u j)<=4^(X R-1)*(((r:J)+1)*(r+1)):=by
   have d:=mig c hv e j;rw[hc,(W:X R-1+1=X R)]at d;exact Int.le_trans d<|xaZ g<|xfG i0
  lia
 have p:(((r+1)*2^(X R-1):wr):J)*1<=(((r+1)*2^(X R-1):wr):J)*G R (X R-1):=xaZ W W;lia
theorem zhy(k:yo R=R)(e:y6 K R)(l:K<=300)(hl:0<X R)(hc:X R<=65)(i:vz fu R=Z (yz (Y:wr),0))(f:Bz 1000 (Y:J))(d:3000000<=fu):QE fu R=Z (decide<|1000<bl (2*((Y:J)*G R (X R-1))).natAbs):=by
 have b2:Bz 1 2:=by unfold Bz;decide
 have ob:=e.get<|X R-1;have j:=e.bz<|X R-1;have g:=f.mul j;have c:=b2.mul g;unfold QE;rw[U i];simp only;rw[U<|yi i0 d,(W:(X R:J)-1=((X R-1:wr):J)),zb,z8,S,U<|zV (f.ok i0) (gV.of ob W) d,zn,Vd,U<|zV (b2.ok i0) (g.ok W) d,zn,zn,U<|WM (yx _) (by have:=c.len;lia) (by have:=c.len;lia),show A (yz<|2*((Y:J)*G R (X R-1))).2=(2*((Y:J)*G R (X R-1))).natAbs from zT _];by_cases h:1000<bl (2*((Y:J)*G R (X R-1))).natAbs
 ·grind
 ·grind
theorem zh1{n k:wr}(h:bl n<=k):n<2^k:=by grind [CQ,xah,xal]
def zcH{p:J}(hp:qk p=wL)(y:yo R=R)(l:y6 K R)(z:K<=300)(hl:0<X R)(hi:X R<=65)(n:vz fu R=Z (yz (Y:wr),0))(hd:Bz 1000 (Y:J))(i:bl (2*((Y:J)*G R (X R-1))).natAbs<=1000)(c:3000000<=fu):
 ∃k:wr,WC fu R p=Z (k:J)/\1<=k/\k<=1000/\2*((Y:J)*G R (X R-1))<p^k:=by
 have⟨A,B⟩:=zw hp;have⟨E,o⟩:∃E,E=1000:=⟨_,O⟩;have i:=zh1 (k:=E) (by rw[o];exact i);have b2:Bz 1 2:=by unfold Bz;decide
 have ob:=l.get<|X R-1;have q:=l.bz<|X R-1;have m:=hd.mul q;have d:=b2.mul m;have t:Bz 1 p:=by unfold Bz;rw[Nat.pow_one];lia
 have⟨T,g⟩:∃T,T=2*((Y:J)*G R (X R-1)):=⟨_,O⟩;have u:∀k:wr,((2^k:wr):J)<=p^k:=λk=>by
  obtain⟨P,rfl⟩:=xaE (W:0<=p);have:=xff (W:2<=P) k;have e:((P^k:wr):J)=(P:J)^k:=i7
  rw[<-e];lia
 obtain⟨r,v,k,rfl,k1,k2,w⟩:=yc (f:=VQ fu p<|yz T) (λs:J×M=>∃k:wr,s=((k:J),yz<|p^k)/\1<=k/\k<=1000) (λs=>1000-s.1.toNat) (λr=>∃k:wr,r=(k:J)/\1<=k/\k<=1000/\T<p^k) (by
  rintro s L ⟨k,rfl,k1,k2⟩ x;unfold VQ;simp only;have j:=th hp k2;rw[U<|ZW (j.ok i0) ((g▸d).ok W) c (by have:=j.len;lia) (by have:=(g▸d:Bz _ T).len;lia),zn,zn];by_cases h:T<p^k
  ·have hc:jH (p^k) T=1:=by unfold jH;rw[zB,iq h]
   rw[hc,ir i0];exact⟨_,O,k,O,k1,k2,h⟩
  ·have C:k<1000:=by
    refine xai λhn=> ?_;obtain rfl:k=E:=W
    have:=u k;rw[<-g]at i;lia
   have hc:jH (p^k) T<=0:=by
    unfold jH;split
    ·decide
    ·first|decide|(rw[ir h];decide)
   rw[iq hc,U<|yi ⟨W,W⟩ c,U<|zV (j.ok i0) (t.ok i0) c,zn,zn,zb,<-xbU];exact x _ ⟨k+1,O,W,W⟩ (by show 1000-((k:J)+1).toNat<1000-(k:J).toNat;lia)) fu (1,yz p) ⟨1,by rw[xbU,xcj,xdg];rfl,W,W⟩ (by show 1000-(1:J).toNat<fu;lia)
 refine⟨k,?_,k1,k2,by rw[<-g];exact w⟩;unfold WC;rw[U n];simp only;rw[U<|yi i0 c,(W:(X R:J)-1=((X R-1:wr):J)),zb,z8,S,U<|zV (hd.ok i0) (gV.of ob W) c,zn,Vd,U<|zV (b2.ok i0) (m.ok W) c,zn,zn,<-g,U<|yi ⟨W,W⟩ c,U v]
end
section
variable{R a:xS Zr}{fu K B:wr}{ds:xS wl}
def Ri{R:N M->N J->Prop}:∀{us:N (N M)}{fs:N (N J)},CX R us fs->∃xs:N Lx,us=xs.map (·.1)/\fs=xs.map (·.2)/\∀x∈xs,R x.1 x.2
 |[],[],_=>⟨[],O,O,λ_ h=>wS h Nm⟩
 |u::us,f::fs,h=>by
  have⟨xs,e1,b,c⟩:=Ri h.2;refine⟨(u,f)::xs,by rw[e1];rfl,by rw[b];rfl,λx hx=> ?_⟩;obtain rfl|hx:=xaf.1 hx
  ·exact h.1
  ·simp_all
def zfb(R:N M):Prop:=∃Y,BdY R Y/\1000<bl (2*((Y:J)*G R (X R-1))).natAbs
theorem BdY.uniq{Y f:wr}(h:BdY R Y)(g:BdY R f):Y=f:=by
 obtain⟨r,rfl,h1,b⟩:=h;obtain⟨s,rfl,g1,d⟩:=g;have c:∀{r s:wr}{S:J},r*r<S->S<=(s+1)*(s+1)->¬s<r:=λ{r s S} h1 b e=>by
  have:((s:J)+1)*(s+1)<=r*r:=Int.mul_le_mul W W W W;lia
 grind
def Ay(s:yo R=R)(pm:Pm (G R))(ps:Po (G R))(E:y6 K R)(hK:K<=200)(hl:X R<=11)(hd:Rl ds)(hV:X ds<=1000)(L:3000300<=fu):
 ∃l b,Q3 fu R ds=Z (l,b)/\(b=wL↔X R<2\/(¬zfb R/\∃p,XN R p))/\(b=wL->(∀g∈l,Gd g)/\G R=prZ (l.map λg=>(G g:Pz))/\l.Pairwise (λa b=>QY a b<0)/\X l<=12):=by
 have hJ:X (yo R)≠0:=λe=>by
  have⟨j,hj⟩:=pm.nz;exact hj<|WI e j
 have M:=Qj hJ;rw[s]at hJ M;have hB:0<G R (X R-1):=by
  have⟨m,m1,m2⟩:=ps.tp;rw[<-m1.uniq M];exact m2
 unfold Q3;by_cases h2:X R<2
 ·rw[zX];refine⟨[],wL,O,⟨λ_=> .inl h2,λ_=>O⟩,λ_=>⟨λg u=>wS u Nm,?_,List.Pairwise.nil,xan _⟩⟩;have⟨d,hd⟩:=((mI.tp M).2 W).ex;have z:G R (X R-1)=d:=by rw[hd,(W:X R-1=0)];exact iq O
  rw[hd]at pm;obtain e|e:=Ga pm
  ·rw[hd,e];rfl
  ·lia
 ·have h0:FH R=0:=by unfold FH;rw[s,zB,zB]
  have⟨Y,hY,T⟩:=zgb (fu:=fu) s E W h0 W;have hM:Bz 1000 (Y:J):=by
   obtain⟨r,rfl,z,P⟩:=T;have h5:=zg8 (K:=K) (f:=G R) E.bz (X R) W;have V:Bz 401 (r:J):=by
    refine Bz.nat ?_;refine xaL (show r<=r*r from Nat.le_mul_self r) ?_;have h7:((r*r:wr):J)=(r:J)*r:=i7
    have h8:=h5.mono (W:K+K+1<=401);unfold Bz at h8;lia
   have h9:Bz 402 (((r+1:wr):J)):=(V.add<|Bz.one' (k:=401) i0).le W;have hW:Bz 1 (((2^(X R-1):wr):J)):=Bz.nat (by
    rw[Nat.pow_one];exact xaL (xal i0 (W:X R-1<=10)) i0)
   have:=(h9.mul hW).mono (i0:402+1<=1000);rwa[<-xeN]at this
  have hN:zfb R↔1000<bl (2*((Y:J)*G R (X R-1))).natAbs:=⟨λ⟨o,z1,z2⟩=>by rw[T.uniq z1];exact z2,λh=>⟨Y,T,h⟩⟩;rw[zB,U<|zhy s E W W W hY hM W];by_cases u:1000<bl (2*((Y:J)*G R (X R-1))).natAbs
  ·rw[Wf u,iq O];refine⟨[],I,O,⟨λh=>wS h i0,λh=> ?_⟩,λh=>wS h i0⟩;obtain h|h:=h
   ·exact wS h h2
   ·exact wS (hN.2 u) h.1
  ·rw[Wl u,ir i0];have⟨p,l,e1,hQ⟩:=AO (fu:=fu) s E W h0 W W hd hV W;rw[U e1];simp only;rcases hQ with⟨hX,hZ⟩|⟨hE,D⟩
   ·rw[iq hX];refine⟨[],I,O,⟨λh=>wS h i0,λh=> ?_⟩,λh=>wS h i0⟩;obtain h|⟨_,q,hq⟩:=h
    ·exact wS h h2
    ·exact wS hq<|hZ q
   ·have⟨hp,ht,hc⟩:=hE;have⟨p1,p2⟩:=zw hp;have⟨k,e2,k1,k2,k3⟩:=zcH (fu:=fu) hp s E W W W hY hM (xbz u) W;have hO:rb p (k:J)=(yz<|p^k,0):=by
     unfold rb;rw[am ⟨hp,W,W⟩,xbe]
    have h1:=D.ln;rw[zB,U e2,U (uD W),hO];simp only;have h':WV fu R l p=Z ([],R,l):=by
     unfold WV;rw[U (v:=(R,l))];have⟨n,hn⟩:∃n,fu=n+1:=⟨fu-1,W⟩;have:zg (Qe fu p) (n+1) (R,l)=Z (R,l):=by
      rw[kH];unfold Qe;simp only;rw[zB]
     rw[<-hn]at this;exact this
    rw[U h'];simp only;have hz:=(o9 (p:=p)).2 ht;have hP:dh p (yo R) l:=by
     rw[s];refine⟨W,hz,W,λi hi=> ?_,λi j hi hj=> ?_,?_⟩
     ·have Q:=FZ (l:=l) hi;refine⟨?_,(D.el _ Q).2.1⟩;have⟨q,fq,hq⟩:Di p (C<|l.getD i []) (G R):=Di.cg ((br U9<|xbJ Q).mul _<|Fs.pc _) D.cg.symm;have hT:=(D.el _ Q).1.mn;have⟨x,H,b0⟩:=ov hp ht 1|>λ⟨x,H⟩=>(⟨x,H,O⟩:∃x,p^1∣x*G R (X R-1)-1/\XS=XS);by_cases a0:X (l.getD i [])<=X R
      ·exact a0
      ·exfalso;have z:=hT.mn.zero p1 fq λk hk=>by rw[<-hq k,M.2 k (by have:=hT.ln;lia),xau]
       have P:=(hq.trans<|z.mul_zero_r _)<|X R-1;rw[zQ,xau]at P;exact ht P
     ·have z:=xcZ.1 D.pw j i W hi hj;rw[FS,FS,xab hi,xab (W:j<X l)];exact z.symm
     ·refine(qY (p:=p) W _ _).ext (QI W R) ((Zx p _ _).trans<|(Cg.mul (oV p l) Cg.rfl).trans<|Cg.trans ?_ (gh p R).symm);rw[jQ,zk];refine Cg.trans (Cg.mul (λj=> ?_) Cg.rfl) D.cg.symm;rw[KJ];unfold F;split
      ·exact xaW _ _
      ·rfl
    have⟨us,e,e3,e4,e5⟩:=sH (fu:=fu) (p:=p) (k:=(k:J)) (a:=R) (fs:=l) (E.mono W) W W;have he:e=0:=by
     refine xai λhF=> ?_;have hr:=mr (fu:=fu) (fs:=l) hp (E.mono (by lia:K<=250)) i0 (by lia:X R<=66) W;have⟨bb,b1,b2⟩:=hr;rw[b2.2<|by rw[s]at hP;exact hP]at b1;have:=zgA (E.mono (by lia:K<=250)) W W W W e3;unfold zhK at this;rw[iq hp,s,zB,iq b1]at this;exact hF this
    have⟨hG,_⟩:=e4 he;rw[xbe]at hG;have a1:=hG.up;obtain⟨xs,rfl,rfl,H⟩:=Ri a1;have hF:xs.map (·.2)≠[]:=λe=>by
     have z:=D.cg<|X R-1;rw[e,show prZ ([].map C)=F 1 from O,yf]at z;have P:F (G R<|X R-1) (X R-1)=0:=zB;rw[P,xau]at z;exact ht z
    have hU:=hG.cg hF;rw[s,xcN]at hU;rw[xaj]at h1;have hC:Ch p k (G R) R xs [] 1:=by
     have hL:Lc p k (G R) (X R-1) xs:=⟨hp,k1,λx hH=>⟨H x hH,(D.el _<|xbJ hH).1,(D.el _<|xbJ hH).2.2⟩,(xew (R:=λa b=>jZ p (C a)<|C b) (f:=λx:Lx=>x.2)).1 D.pw,M,W,hB,ht,pm,hU⟩;exact⟨hL,k2,s,E.mono W,hl,zpu W M hB T k3,Ls.one hL,by rw[xbP];lia,(zC _).symm,λg u=>wS u Nm⟩
    have⟨out,o1,o2,o3,o4⟩:=NV (fu:=fu) hC W;rw[zX,U e3];simp only;rw[U o1,w8 (by simp only[xbP];lia),ze,xbA];have⟨r,s1,s2,s3⟩:=IC (fu:=fu) (cmp:=λa2 a3=>jV fu a2 a3) (c:=QY) (S:=Gd) (λx y H hy=>mQ H.ok hy.ok H.can hy.can i0 (by have:=H.ln;lia) (by have:=hy.ln;lia) W) (t:=out) o3 W W;have hI:G R=prZ (r.map λg=>(G g:Pz)):=by rw[o4];exact OC<|s2.symm.map _
    have hw:∀g∈r,Gd g:=λg u=>o3 g<|s2.mem_iff.1 u;rw[U s1];refine⟨r,wL,O,⟨λ_=> .inr ⟨λh=>u<|hN.1 h,p,hp,ht,hc⟩,λ_=>O⟩,λ_=>⟨hw,hI,?_,by rw[s2.length_eq];lia⟩⟩;refine(xdu.2 λ{a b} hs=> ?_);have z:¬QY b a<0:=(xdu.1<|s3 ziI) hs;have ha:a∈r:=hs.subset i7;have hb:b∈r:=hs.subset i7;have P:=X9 a b;by_cases h5:QY a b=0
    ·exfalso;have a4:=zdl (hw a ha).can (hw b hb).can h5;subst a4;have⟨m,w,hS,Q⟩:=hC.lc.sf;have hD:=oe (p:=p) (hs.map λg=>(G g:Pz)) λf L=>by
      obtain⟨g,_,rfl⟩:=xas.1 L;exact Fs.cf g
     rw[<-hI]at hD;have a5:Di p ((G a:Pz)*G a) (C m):=by
      refine Di.trans ⟨F 1,Fs.pc 1,Cg.of ?_⟩<|hD.trans ⟨F w,Fs.pc w,Q⟩;show(G a:Pz)*(G a*F 1)=_;rw[yf,zC]
     have a6:=hw a ha;have a7:Zd (G a) (G R):=by
      rw[hI];have⟨A,B,e6⟩:=xem ha;rw[e6,xaY,xbS,vi];refine Zd.mul _ (Fs.prZ λf L=> ?_)<|Zd.left<|Fs.prZ λf L=> ?_
      ·obtain⟨g,_,rfl⟩:=xas.1 L;exact Fs.cf g
      ·obtain⟨g,_,rfl⟩:=xas.1 L;exact Fs.cf g
     have⟨v,fv,hv⟩:=a7;have V:=hC.ls (G a) v (Fs.cf a) fv (by rw[hv,zk]) a6.ir.dg;have⟨x,a8⟩:∃x,x∈own p (G a) xs:=by
      cases a9:own p (G a) xs with
      |nil=>rw[a9]at V;exact wS V i0
      |cons x t=>exact⟨x,H1⟩
     have⟨h7,h8⟩:=aX.1 a8;exact hS.apart (Fs.cf a) (Fs.cf a) a5 (xbJ h7) h8 h8
    ·lia
def A1{q:N M}{m:wr}(x:y6 K a)(S:K<=50)(l:Tp (G a) m)(T:m<=11)(hd:X a<=40)(y:∀j,Bb B<|G a j)(V:B<=3000)(d:Gd q)(z:y6 50 q)(A:3000000<=fu):
 ∃n:wr,YZ fu a q=Z (n:J)/\n<=11/\Mu (G q) (G a) n:=by
 have hc:X (yo q)≠0:=λe=>by
  have⟨j,C⟩:=d.ir.pm.nz;exact C<|WI e j
 have o:=Qj hc;rw[d.can]at o;have hl:=d.ln;have Y:1<=X q-1:=by refine xai λh=>d.ir.dg<|(mI.tp o).2 W
 have fp:=λn=>d.ir.fs.pp n;have one:∀(t:N M) (n:wr),y6 60 t->X t<=40->G a=(G t:Pz)*pp (G q) n->∃b e,xV fu t q=Z (b,e)/\(e=0->y6 60 b/\X b<=40/\G a=(G b:Pz)*pp (G q) (n+1))/\(e≠0->Mu (G q) (G a) n):=λt n o1 l1 e1=>by
  have⟨b,e,d1,d2,d3⟩:=JJ (fu:=fu) o1 z (by have:=xak (50+1) (W:X t+1<=41);lia) W W hc A;refine⟨b,e,d1,λc=> ?_,λc=>⟨G t,Fs.cf t,e1,λD=>c<|d2.2 D⟩⟩;have⟨f1,f2,f3⟩:=d3 c;have v:G a=(G b:Pz)*pp (G q) (n+1):=by
   rw[e1,f1,zd];show _=_*(pp (G q) n*G q);rw[zk<|pp (G q) n]
  refine⟨?_,W,v⟩;rw[<-f2];exact xh λj=>(Ik l (Fs.cf b) (fp _) v W y j).bz W
 have⟨q1,w,c1,c2,E⟩:=one a 0 (x.mono W) hd (yf _).symm;have p:∀{t:N M}{n:wr},G a=(G t:Pz)*pp (G q) n->n<=m:=λ{t n} e=>by
  have⟨H,np⟩:=VV l.nz e;have⟨i,hi⟩:=Tp.ex (Fs.cf t) H;have P:∀n,Tp (pp (G q) n) (n*(X q-1)):=λn=>by
   induction n with
   |zero=>rw[xcp];exact⟨show F 1 0≠0 by decide,λk hk=>by show F 1 k=0;unfold F;rw[zB]⟩
   |succ n g=>rw[xbf,xcz];exact g.mul o
  have h1:=hi.mul<|P n;rw[<-e]at h1;have u:=h1.uniq l;have h3:=xco n (W:0<X q-1);lia
 obtain⟨s,Q,n,rfl,n1,n2⟩:=yc (f:=Jw fu q) (λs:J×N M×J=>∃n:wr,s.1=(n:J)/\(s.2.2=0->y6 60 s.2.1/\X s.2.1<=40/\G a=(G s.2.1:Pz)*pp (G q) (n+1))/\(s.2.2≠0->n<=11/\Mu (G q) (G a) n)) (λs=>if s.2.2=0 then 20-s.1.toNat else 0) (λr=>∃n:wr,r=(n:J)/\n<=11/\Mu (G q) (G a) n) (by
  rintro⟨i,t,e⟩ L ⟨n,hn,h1,u⟩ g;simp only at hn h1 u g;subst hn;unfold Jw;simp only;by_cases c:e=0
  ·have⟨o1,l1,e1⟩:=h1 c;have hp:=p e1;have⟨b,e',d1,d2,d3⟩:=one t (n+1) o1 l1 e1;rw[iq c,zb,U d1];refine g _ ⟨n+1,by show(n:J)+1=((n+1:wr):J);lia,d2,λh=>⟨W,d3 h⟩⟩ ?_;rw[iq c];split
   ·show 20-((n:J)+1).toNat<20-(n:J).toNat;lia
   ·show 0<20-(n:J).toNat;lia
  ·rw[ir c];exact⟨_,O,n,O,u c⟩) fu (0,q1,w) ⟨0,O,c2,λh=>⟨W,E h⟩⟩ (by
  show(if w=0 then 20-(0:J).toNat else 0)<fu;split<;>lia)
 refine⟨n,?_,n1,n2⟩;unfold YZ;rw[U c1];simp only;rw[U Q]
def zi4(R:N M):Prop:=X R<2\/(¬zfb R/\∃p,XN R p)
def zlV(h:Rad a R):Zd (G R) (G a):=by
 have⟨g,b,e⟩:=h.dv;rw[<-gD a,e];exact(Zd.left b).mul _<|Fs.pc _
def oW(w:y6 K a)(T:K<=50)(hl:X a<=40)(h0:FH a=0)(ht:X (yo a)<=11)(y:∀j,Bb B<|G a j)(V:B<=3000)(r1:qE fu a=Z (R,0))(r2:Rad a R)(Y:∀j,Bb (B+X (yo a)+4)<|G R j)(hd:Rl ds)(ho:X ds<=1000)(d:3000300<=fu):
 (zi4 R/\∃l,vD fu a ds=Z (yz<|yv a,l,0)/\FL (G a) l/\X l<=12/\∀x∈l,Gd x.1/\x.2<=11)\/
  (¬zi4 R/\vD fu a ds=Z ((I,[]),[],6)):=by
 have hr:=By h0;have z:=Qj (a:=a) W;have oR:y6 50 R:=by rw[<-r2.can];exact xh λj=>(Y j).bz W
 have⟨l,b,C,E,s3⟩:=Ay (fu:=fu) r2.can r2.pm r2.ps oR i0 (by have:=r2.ln;lia) hd ho d
 cases b with
 |false=>
  refine .inr ⟨λh=>(by have:=E.2 h;cases this),?_⟩;unfold vD;rw[U r1];simp only[uP];rw[U C];rfl
 |true=>
  have⟨g1,H,g3,g4⟩:=s3 O;refine .inl ⟨E.1 O,?_⟩;have P:∀q∈l,Zd (G q) (G a):=λq c=>by
   refine Zd.trans ?_<|zlV r2;rw[H];have⟨A,D,e6⟩:=xem c;rw[e6,xaY,xbS,vi];refine Zd.mul _ (Fs.prZ λf d=> ?_)<|Zd.left<|Fs.prZ λf d=> ?_
   ·obtain⟨g,_,rfl⟩:=xas.1 d;exact Fs.cf g
   ·obtain⟨g,_,rfl⟩:=xas.1 d;exact Fs.cf g
  have hk:∀q∈l,∃n:wr,YZ fu a q=Z (n:J)/\n<=11/\Mu (G q) (G a) n:=λq c=>by
   have k:=g1 q c;refine A1 w T z W hl y V k ?_ W;have⟨u,m,e⟩:=P q c;rw[<-k.can];exact xh λj=>(Ik z (Fs.cf q) m (by rw[e,zk]) W y j).bz W
  obtain⟨s,hs,out,rfl,o1,o2⟩:=yc (f:=XV fu a l) (λs:N (N M×J)×J×M×N (N M)=>∃(i:wr) (out:N (N M×J)),s=(out,(i:J),(I,[]),l)/\i<=X l/\out.map (·.1)=l.take i/\∀x∈out,∃n:wr,x.2=(n:J)/\n<=11/\Mu (G x.1) (G a) n) (λs=>X l-s.2.1.toNat)
   (λr=>∃out:N (N M×J),r=(out,(I,[]))/\out.map (·.1)=l/\∀x∈out,∃n:wr,x.2=(n:J)/\n<=11/\Mu (G x.1) (G a) n) (by
   rintro s L ⟨i,out,rfl,hi,h1,p⟩ ih
   unfold XV
   simp only
   by_cases hc:i<X l
   ·have hm:l.getD i []∈l:=by
     rw[FS,xab hc];exact xbQ hc
    have⟨n,n1,n2,o⟩:=hk _ hm
    have hv:X out=i:=by
     have:=ut xaG h1;rw[xaj,xav]at this;lia
    rw[zX,U O]
    simp only[uP]
    rw[zo hc,S,U n1,w8 (by simp only[xax,xbP];lia),S,zb]
    refine ih _ ⟨i+1,_,O,W,?_,λx hx=> ?_⟩ (by show X l-((i:J)+1).toNat<X l-(i:J).toNat;lia)
    ·rw[xaY,h1,xeu,xab hc,FS,xab hc]
     rfl
    ·obtain hx|hx:=So.1 hx
     ·exact p x hx
     ·obtain rfl:=xag.1 hx
      exact⟨n,O,n2,o⟩
   ·rw[zB,U O]
    simp only[xao,uS]
    obtain rfl:i=X l:=W
    rw[xbY]at h1
    exact⟨_,O,out,O,h1,p⟩) fu ([],0,(I,[]),l) ⟨0,[],O,xan _,by rw[List.take_zero];rfl,λx hx=>wS hx Nm⟩ (by show X l-(0:J).toNat<fu;lia)
  have v:∀x∈out,x.1∈l:=λx hx=>by rw[<-o1];exact xbJ hx
  refine⟨out,?_,⟨λx hx=> ?_,λq c pq hz=> ?_,?_⟩,?_,λx hx=>⟨g1 _<|v x hx,?_⟩⟩
  ·unfold vD;rw[U r1];simp only[uP];rw[U C];simp only;rw[ir i0,U hs];simp only;rw[U<|kM w]
  ·have k:=g1 _<|v x hx;have⟨n,n1,n2,o⟩:=o2 x hx;refine⟨k.can,k.ir,k.ps,?_,by rw[n1,xbe];exact o⟩;by_cases hn:n=0
   ·exfalso;subst hn;have⟨u,m,e,Q⟩:=o;rw[show pp (G x.1) 0=F 1 from O,yf]at e;rw[<-e]at Q;exact Q<|P _<|v x hx
   ·lia
  ·have h1:=r2.al q c hz;rw[H]at h1;have⟨f,hp,p⟩:=c.prz (λf d=>by obtain⟨g,_,rfl⟩:=xas.1 d;exact Fs.cf g) h1;obtain⟨g,t,rfl⟩:=xas.1 hp;have e:=c.eq (g1 g t).ir pq (g1 g t).ps p;rw[<-o1]at t;obtain⟨x,hx,rfl⟩:=xas.1 t;exact⟨x,hx,e.symm⟩
  ·have:=g3;rw[<-o1]at this;exact xew.1 this
  ·have:=ut xaG o1;rw[xaj]at this;lia
  ·have⟨n,n1,n2,o⟩:=o2 x hx;lia
def nj(b:y6 K a)(e:K<=50)(hl:X a<=40)(h0:FH a=0)(hc:X (yo a)<=11)(c:∀j,Bb B<|G a j)(f:B<=3000)(g:(B+7)*U5 (X (yo a)-1)<=639000)(h:(B+7)*U5 (X (yo a))<=2400000)(hd:Rl ds)(i:X ds<=1000)(k:3000300<=fu):
 ∃R,qE fu a=Z (R,0)/\Rad a R/\(∀j,Bb (B+X (yo a)+4)<|G R j)/\
  ((zi4 R/\∃l,vD fu a ds=Z (yz<|yv a,l,0)/\FL (G a) l/\X l<=12/\∀x∈l,Gd x.1/\x.2<=11)\/
   (¬zi4 R/\vD fu a ds=Z ((I,[]),[],6))):=by
 have⟨R,r1,r2,d⟩:=pf (fu:=fu) b W hl h0 c W g h W;exact⟨R,r1,r2,d,oW b e hl h0 hc c f r1 r2 d hd i k⟩
end
def zmU:Rl []:=λk=>by
 rw[yp<|xan k];lia
def zoT(l:N (N M×J)):Pz:=prM<|l.map λx=>((G x.1:Pz),x.2.toNat)
def FL.prod{f:Pz}{l:N (N M×J)}(h:FL f l)(d:Fs f)(g:Nz f):∃c,c≠0/\f=F c*zoT l:=by
 refine zjz d g ?_ (λx b=> ?_) λq i j m=> ?_
 ·refine xew.2<|h.so.imp_of_mem λ{x y} b a h1 e=> ?_;have:=Br (h.el x b).1 (h.el y a).1 λk=>Wn e k;rw[this]at h1;have:=X9 y.1 y.1;lia
 ·obtain⟨y,a,rfl⟩:=xas.1 b;have⟨_,n,o,_,p⟩:=h.el y a;simp_all
 ·have⟨y,a,e⟩:=h.al q i j m;exact⟨_,xbJ a,e⟩
section
variable{fu d b j k h:wr}{r:xS Zr×xS Qr}{β:wr->kw}
def sr{r:N M×N Qr}(h:X r.1≠0):xz fu (Z r)=Z I:=by
 unfold xz;rw[ir i7,U O,zB]
def zcd{a c:N Qr}{q:N Qr}(h:X r.1≠0)(h1:xG fu r a c=Z q):yN fu (Z r) a c=Z (q,0):=by
 unfold yN;rw[U<|sr h,ir i0,U O,U h1]
def zdm{a c:N Qr}{q:N Qr}(h:X r.1≠0)(h1:wG fu r a c 1=Z q):wK fu (Z r) a c=Z (q,0):=by
 unfold wK;rw[U<|sr h,ir i0,U O,U h1]
def zcJ{a c:N Qr}{q:N Qr}(h:X r.1≠0)(h1:wG fu r a c (-1)=Z q):q9 fu (Z r) a c=Z (q,0):=by
 unfold q9;rw[U<|sr h,ir i0,U O,U h1]
def zdp{a:N Qr}{q:N Qr}(h:X r.1≠0)(h1:yT fu r a=Z q):wO fu (Z r) a=Z (q,0):=by
 unfold wO;rw[U<|sr h,ir i0,U O,U h1]
theorem zl0{k:K}{c:kw}(hc:c≠0)(h:Hx k c):Hx k (1/c):=by
 have⟨D,g,a,n,h1,f⟩:=h;have i:((D:K):kw)≠0:=λe=>by have:=xec.1<|e.trans (by rfl:(0:kw)=((0:K):kw));lia
 have hn:n≠0:=λe=>by
  rw[e]at h1;have:c*(D:kw)=0:=h1;grind
 by_cases l:0<n
 ·refine⟨n.natAbs,W,f,D,?_,by rw[xaD];exact a⟩;have e:((n.natAbs:K):kw)=(n:kw):=by
   have:(n.natAbs:J)=n:=W
   rw[<-this];rfl
  rw[e,<-h1];show _=(D:kw);grind
 ·refine⟨n.natAbs,W,f,-(D:J),?_,by rw[xeY,xaD];exact a⟩;have e:((n.natAbs:K):kw)= -(n:kw):=by
   have:(n.natAbs:J)= -n:=W
   rw[<-xgc,<-this];rfl
  rw[e,xgc,<-h1];show _= -(D:kw);grind
theorem zf7{k:K}{c:kw}(h:Hx k c):Ht k [c]:=by
 have⟨D,a,e,n,h1,f⟩:=h;refine⟨D,a,e,λi=> ?_⟩
 cases i with
 |zero=>exact⟨n,h1,f⟩
 |succ i=>exact⟨0,by rw[Yg i7];grind,xdL _⟩
theorem Dr(F:Fld r d b β)(y:d<=4)(z:b<=16)(A:Irq d β)(h1:X r.1≠0)(B:r.2=((xaN<|d+1).map β).map cq){a:N Qr}(D:∀x∈a,VN x)(hl:X a<=32)(E:Ht k (vl a))(n:k+X a*(b+1)<=500)(hm:b<=k)(g:3000000<=fu):
 ∃f,yT fu r a=Z (f.map cq)/\re d f/\ju (xB (d+1) β) (vd f) (vd<|vl a)/\Ht 500 f/\
  ((f=[]/\wV fu (Z r) a=Z ([],3))\/
   (f≠[]/\∃q,wV fu (Z r) a=Z (q.map cq,0)/\re d q/\Ht 220000 q/\ju (xB (d+1) β) (λt=>vd q t*vd (vl a) t) (λ_=>1))):=by
 have⟨f,i,l,o,p⟩:=UU (fu:=fu) F D W E W g;refine⟨f,i,l,o,dE.mono p n,?_⟩;have hn:=F.d1;by_cases m:X f=0
 ·left;refine⟨xbh.1 m,?_⟩;unfold wV;rw[U<|sr h1,ir i0,U O,U O,U i,xaj,zX]
 ·right;refine⟨λe=>m (by rw[e];rfl),?_⟩;obtain⟨_,w1,c,ts,rfl,s,G,u,v,H⟩:=zcX (fu:=fu) (h:=500) F y z A (ur<|vl a) W W l.1 l.2 (dE.mono p n) o m B g;have⟨C,L⟩:∃C,C=135*(b+1):=⟨_,O⟩;have n1:Yh 500 4=80660:=i0
  have n2:Th 500 (135*(b+1)) 4<=132000:=by rw[<-L];simp only[Th,Yh];lia
  have hc:=zl0 s<|dE.hx u 0;have hi:bT c:=(dE.hx u 0).hs W;have o1:Ht (Th 500 (135*(b+1)) 4) (vl<|ts.map cq):=by rw[XP];exact v
  have o2:Ht (Yh 500 4) (vl [cq<|1/c]):=by
   show Ht _ [qv<|cq<|1/c];rw[uy];exact zf7 hc
  have⟨q,q1,q2,w,M⟩:=sO (fu:=fu) F (sa v W) (c:=[cq<|1/c]) (λx Q=>by rw[xag.1 Q];exact(hc.hs W).rs) (by rw[xaj];have:=G.1;lia) i7 o1 o2 W g;refine⟨q,?_,q2,dE.mono M W,?_⟩
  ·unfold wV;have hd:vU fu 1=Z (cq 1):=Kp i0 g;have R:bT 1:=⟨by show Bz _ 1;exact Bz.one' i0,by show Bz _ 1;exact Bz.one' i0⟩;rw[U<|sr h1,ir i0,U O,U O,U i,xaj,zB,U hd,U w1];simp only;rw[U hd,show(0:J)=((0:K):J)from O,zo i7,S];show Y (Jc fu (cq 1)<|cq c) _=_;rw[U<|pk R.rs hi.rs (by rw[uy];exact s) g,uy,uy];simp only;rw[U O,U q1]
  ·have e1:∀t,vd (vl [cq<|1/c]) t=1/c:=λt=>by
    show 0+qv (cq<|1/c)*t^0=_;rw[uy,xfj];grind
   rw[XP]at w;have T:=ju.mul (F':=vd<|vl a) (G':=vd<|vl a) (P:=xB (d+1) β) (ur _) ((ur ts).mul<|ur<|vl [cq<|1/c]) w ju.refl;have V:=(H.smul<|1/c).symm;exact T.trans<|(ju.of λt=>by rw[e1];grind).trans<|V.trans (ju.of λt=>by show 1/c*c=1;grind)
theorem ziD{P:N M}(hc:yo P=P)(hp:Pm (G P))(oP:y6 1 P)(hl:2<=X P)(o:X P<=5)(i:∀j,Bb 10<|G P j)(m:3000300<=fu):∃c e,wu fu P=Z (c,e)/\(c=wL->e=0->Ir (G P)):=by
 have h0:FH P=0:=by unfold FH;rw[hc,zB,zB]
 have p:U5 (X (yo P)-1)<=99:=by
  rw[hc];have:X P=2\/X P=3\/X P=4\/X P=5:=W
  obtain h|h|h|h:=this<;>rw[h]<;>decide
 have q:U5 (X (yo P))<=99:=by
  rw[hc];have:X P=2\/X P=3\/X P=4\/X P=5:=W
  obtain h|h|h|h:=this<;>rw[h]<;>decide
 have⟨R,r1,r2,s,h⟩:=nj (fu:=fu) (ds:=[]) (B:=10) (K:=1) oP i0 W h0 (by rw[hc];lia) i i0 W W zmU (xan _) m;rcases h with⟨_,l,e,hd,_⟩|⟨_,e⟩
 ·by_cases h1:X l=1
  ·obtain⟨x,rfl⟩:=xcG.1 h1;by_cases f:x.2=1
   ·refine⟨wL,0,?_,λ_ _=> ?_⟩
    ·unfold wu;rw[U e];show(if x.2=1 then Z (wL,(0:J))else Z (I,0))=_;rw[iq f]
    ·have⟨g1,g,t,u,v⟩:=hd.el x<|xag.2 O;have⟨c,c0,a⟩:=hd.prod (Fs.cf P) hp.nz;have e1:zoT [x]=G x.1:=by
      show pp (G x.1:Pz) x.2.toNat*F 1=_;rw[f,zk,zC];exact zC _
     rw[e1]at a;have w:=hp c.natAbs λk=>by rw[a,zN];exact xbw (Int.natAbs_dvd.2<|xej c)<|xce ..
     have n:c=1\/c= -1:=W
     obtain rfl|rfl:=n
     ·rw[a,zC];exact g
     ·rw[a];exact g.neg
   ·refine⟨I,0,?_,λh=>nomatch h⟩;unfold wu;rw[U e];show(if x.2=1 then Z (wL,(0:J))else Z (I,0))=_;rw[ir f]
  ·refine⟨I,0,?_,λh=>nomatch h⟩;unfold wu;rw[U e];show(if(X l:J)=1 then _ else Z (I,(0:J)))=_;rw[zB]
 ·refine⟨I,6,?_,λh=>nomatch h⟩;unfold wu;rw[U e];rfl
structure Mad(m:N M)(r:N M×N Qr)(d:K)(β:K->kw):Prop where
 mn:r.1=yg m
 ln:(yg m).length=d+1
 fl:Fld r d 10 β
 d4:d<=4
 by_:r.2=((xaN<|d+1).map β).map cq
 ir:Irq d β
 at_:∀i,β i*(G (yg m) d:kw)=(G (yg m) i:kw)
 ne:r.1.length≠0
theorem BW{m:N M}(u:y6 1 m)(hl:X m<=5)(A:∀j,Bb 10<|G m j)(B:3000300<=fu):
 ∃q e,Vs fu m=Z (q,e)/\(e=0->∃r d β,q=Z r/\Mad m r d β):=by
 unfold Vs;have C:=Zt m;have R:=Zs m;rw[U<|vR u,zB];by_cases D:X (yg m)<2
 ·rw[zX];exact⟨_,_,O,λh=>nomatch h⟩
 ·rw[zB];have⟨P,f⟩:∃P,P=yg m:=⟨_,O⟩;rw[<-f]at C D⊢;have oP:y6 1 P:=f▸oU u;have o:yo P=P:=f▸uc m;have v:=(Ve (a:=m) W).1;have n:∀j,Bb 10 (G P j):=λj=>by rw[f,ZQ];exact xaL (xbG _ _)<|A j
  rw[<-f]at v;have⟨c,e,E,F⟩:=ziD o v oP W W n B;rw[U E];simp only;by_cases p:e=0
  ·rw[iq p]
   cases c with
   |false=>rw[iq i0];exact⟨_,_,O,λh=>nomatch h⟩
   |true=>
    rw[ir i0];have⟨d,hd⟩:∃d,X P=d+1:=⟨X P-1,W⟩;have w:Tp (G P) d:=by have:=Qj (a:=P) (by rw[o];lia);rwa[o,hd]at this
    have x:=w.1;have T:((G P d:J):kw)≠0:=λh=>x<|Rat.intCast_inj.1<|h.trans (by rfl:(0:kw)=((0:J):kw));have⟨β,g⟩:∃β:wr->kw,β=λi=>xgj (G P i) (G P d):=⟨_,O⟩;have l:∀i,β i*(G P d:kw)=(G P i:kw):=λi=>by rw[g];show xgj _ _*_=_;rw[Rat.divInt_eq_div];grind
    have hc:β d=1:=by have:=l d;grind
    have t:zg (K0 fu P) fu (0,((P,[]),([]:N Qr)))=Z ((P,[]),((xaN<|d+1).map β).map cq):=by
     refine zA (λs=>∃i:wr,i<=d+1/\s=((i:J),((P,[]),((xaN i).map β).map cq))) (λs=>d+1-s.1.toNat) _ ?_ fu _ ⟨0,W,O⟩ (by show d+1-(0:J).toNat<fu;lia);rintro _ L ⟨i,hi,rfl⟩ H;unfold K0;simp only;by_cases h:i=d+1
     ·rw[zB,U O];simp only[xao,uS];rw[h]
     ·rw[zX,U O];simp only[uP];have e1:(X P:J)-1=(d:J):=W
      have l1:=λj (Q:j<X P)=>oP _<|zce Q;have y:=l1 i W;have z:=l1 d W;rw[z8,S,e1,zb,z8,S,U (KP (K:=1) y.1 z.1 y.2 z.2 i0),ir (show¬zv (P.getD d (I,[]))=0 from x)];simp only;rw[w8 (by simp;lia),S,zb];refine H _ ⟨i+1,W,?_⟩ (by show d+1-((i:J)+1).toNat<d+1-(i:J).toNat;lia);rw[xdk,xaY,xaY,g];rfl
    rw[U t];refine⟨_,_,O,λ_=>⟨(P,((xaN<|d+1).map β).map cq),d,β,O,⟨f,by rw[<-f];exact hd,⟨i7,λi hi=> ?_,hc,?_,W,W,i0⟩,W,O,znp (F O p) w l,by rw[<-f];exact l,by show X P≠0;lia⟩⟩⟩
    ·show(((xaN<|d+1).map β).map cq).getD i ((I,[]),[])=_;rw[bF (by simp;lia),rN W]
    ·refine⟨(G P d).natAbs,W,n d,λi=> ?_⟩;by_cases V:0<=G P d
     ·refine⟨G P i,?_,n i⟩;rw[<-l i];have:(((G P d).natAbs:wr):kw)=(G P d:kw):=by
       have h:(((G P d).natAbs:wr):J)=G P d:=W
       rw[<-h];rfl
      rw[this]
     ·refine⟨-G P i,?_,by rw[xeY];exact n i⟩;rw[xgc,<-l i];have:(((G P d).natAbs:wr):kw)= -(G P d:kw):=by
       have h:(((G P d).natAbs:wr):J)= -G P d:=W
       rw[<-xgc,<-h];rfl
      rw[this];grind
  ·rw[ir p];exact⟨_,_,O,λh=>nomatch h⟩
end
section
variable{fu:wr}
def zci(z:M):Prop:=X z.2<=1/\(X z.2=1->z.2.getD 0 0<=1000)
def cK{m:N M}(n:3000000<=fu):∃c,Kg fu m=Z c/\(c=wL->X m<=5/\∀j,j<X m->zci (m.getD j (I,[]))):=by
 unfold Kg;by_cases h:5<X m
 ·rw[zX];exact⟨_,O,λh=>nomatch h⟩
 rw[zB];have⟨y,h1,a⟩:=yc (f:=Uf fu m) (λs:J=>∃i:K,s=(i:J)/\i<=X m/\∀j,j<i->zci (m.getD j (I,[]))) (λs=>X m-s.toNat) (λy=>y=.inr ()\/y=.inl ()/\∀j,j<X m->zci (m.getD j (I,[]))) (by
  rintro _ L ⟨i,rfl,hi,g⟩ k;unfold Uf;by_cases b:i<X m
  ·rw[zX,zo b,S];by_cases o:1<(m.getD i (I,[])).2.length
   ·rw[zX];exact⟨_,O,.inl O⟩
   ·rw[zB,zo b,S];have step:zci (m.getD i (I,[]))->∃r,L ((i:J)+1)=Z r/\(r=.inr ()\/r=.inl ()/\∀j,j<X m->zci (m.getD j (I,[]))):=λhl=>k _ ⟨i+1,O,W,λj d=>by
     by_cases e:j=i
     ·rw[e];exact hl
     ·exact g j W⟩ W
    by_cases l:(m.getD i (I,[])).2.length=1
    ·rw[zX,zo b,S,show(0:J)=((0:K):J)from O,z8,S];by_cases a3:1000<(m.getD i (I,[])).2.getD 0 0
     ·rw[zX];exact⟨_,O,.inl O⟩
     ·rw[zB,zb];exact step ⟨W,λ_=>by lia⟩
    ·rw[zB,zb];exact step ⟨W,λh=>wS h l⟩
  ·rw[zB];exact⟨_,O,.inr ⟨O,λj d=>g j W⟩⟩) fu 0 ⟨0,O,xan _,λj d=>wS d (xbq _)⟩ (by show X m-(0:J).toNat<fu;lia)
 rw[U h1];obtain rfl|⟨rfl,a⟩:=a
 ·exact⟨_,O,λh=>nomatch h⟩
 ·exact⟨_,O,λ_=>⟨W,a⟩⟩
def zhk{m:N M}(d:(Ty.l (.p .b (.l .u))).ok m)(h:∀j,j<X m->zci (m.getD j (I,[]))):y6 1 m/\∀j,Bb 10 (G m j):=by
 refine⟨zjt d<|zfI λj c=>(h j c).1,λj=> ?_⟩;by_cases c:j<X m
 ·have⟨h1,a⟩:=h j c;unfold Bb G;rw[vK];have⟨l,hl⟩:∃l,l=(m.getD j (false,[])).2:=⟨_,O⟩;rw[<-hl]at h1 a⊢
  match l,h1,a with
  |[],_,_=>decide
  |[x],_,a=>
   have:=a O;have e:A [x]=x:=lV x;have:x<=1000:=this;rw[e];lia
 ·rw[ye W];unfold Bb;decide
def zdh(n k:K)(l:N Qr):Prop:=X l<=n/\∀j,j<X l->(l.getD j ((I,[]),[])).1.2.length<=k/\(l.getD j ((I,[]),[])).2.length<=k
def Cx{n k:K}{ls:N (N Qr)}(hl:X ls<=10)(hn:n<=100)(w:k<=100)(x:3000000<=fu):∃c,Vh fu (n:J) (k:J) ls=Z c/\(c=wL->∀j,j<X ls->zdh n k (ls.getD j [])):=by
 unfold Vh;have⟨y,h1,m⟩:=yc (f:=KT fu (n:J) (k:J) ls) (λs:J=>∃i:K,s=(i:J)/\i<=X ls/\∀j,j<i->zdh n k (ls.getD j [])) (λs=>X ls-s.toNat) (λy=>y=.inr ()\/y=.inl ()/\∀j,j<X ls->zdh n k (ls.getD j [])) (by
  rintro _ L ⟨i,rfl,hi,g⟩ r;unfold KT;by_cases d:i<X ls
  ·rw[zX,zo d,S];by_cases u:n<X (ls.getD i [])
   ·rw[zX];exact⟨_,O,.inl O⟩
   ·rw[zB];have⟨l,b⟩:∃l,l=ls.getD i []:=⟨_,O⟩;rw[<-b]at u;have⟨z,v,z2⟩:=yc (f:=K8 fu (i:J)) (λs:J×J×N (N Qr)×J=>∃t:K,s=((n:J),(k:J),ls,(t:J))/\t<=X l/\∀j,j<t->(l.getD j ((I,[]),[])).1.2.length<=k/\(l.getD j ((I,[]),[])).2.length<=k) (λs=>X l-s.2.2.2.toNat) (λz=>z=.inr ()\/z=.inl ((n:J),(k:J),ls)/\zdh n k l) (by
     rintro _ A ⟨t,rfl,ht,p⟩ o;unfold K8;simp only;rw[zo d,S,<-b];by_cases q:t<X l
     ·rw[zX,zo d,S,<-b,zo q,S];by_cases B:k<(l.getD t ((I,[]),[])).1.2.length
      ·rw[zX];exact⟨_,O,.inl O⟩
      ·rw[zB,zo d,S,<-b,zo q,S];by_cases C:k<(l.getD t ((I,[]),[])).2.length
       ·rw[zX];exact⟨_,O,.inl O⟩
       ·rw[zB,zb];refine o _ ⟨t+1,O,W,λj a=> ?_⟩ (by show X l-((t:J)+1).toNat<X l-(t:J).toNat;lia);by_cases e:j=t
        ·rw[e];lia
        ·exact p j W
     ·rw[zB];exact⟨_,O,.inr ⟨O,W,λj a=>p j W⟩⟩) fu ((n:J),(k:J),ls,0) ⟨0,O,xan _,λj a=>wS a (xbq _)⟩ (by show X l-(0:J).toNat<fu;lia)
    rw[U v];obtain rfl|⟨rfl,z2⟩:=z2
    ·exact⟨_,O,.inl O⟩
    ·simp only;rw[zb];refine r _ ⟨i+1,O,W,λj a=> ?_⟩ W;by_cases e:j=i
     ·rw[e,<-b];exact z2
     ·exact g j W
  ·rw[zB];exact⟨_,O,.inr ⟨O,λj a=>g j W⟩⟩) fu 0 ⟨0,O,xan _,λj a=>wS a (xbq _)⟩ (by show X ls-(0:J).toNat<fu;lia)
 rw[U h1];obtain rfl|⟨rfl,m⟩:=m
 ·exact⟨_,O,λh=>nomatch h⟩
 ·exact⟨_,O,λ_=>m⟩
theorem ziM{k j:K}{x:kw}{l:N kw}(b:Hx j x)(hl:Ht k l):Ht (j+k) (x::l):=by
 have⟨D,c,a,n,h1,d⟩:=b;have⟨E,e,E1,f⟩:=hl;refine⟨D*E,xdy c e,by rw[xbo];exact xcm a E1,λi=> ?_⟩
 cases i with
 |zero=>exact⟨n*E,by rw[xda,xbs,<-h1];show x*_=x*(D:kw)*(E:kw);grind,xv d<|by rw[xaD];exact E1⟩
 |succ i=>
  have⟨u,g,h⟩:=f i;exact⟨D*u,by rw[xda,xbs,<-g];show yS l i*_=(D:kw)*(yS l i*(E:kw));grind,xv (by rw[xaD];exact a) h⟩
theorem zm0{x:Qr}{k:K}(h:Qz k x)(b:1<=k):Hx (64*k) (qv x):=by
 have e:18446744073709551616^k=2^(64*k):=by rw[xch]
 have h1:A x.1.2<2^(64*k):=by rw[<-e];exact xah (vv h.1)<|xal i0 h.2.1
 have a:A x.2<2^(64*k):=by rw[<-e];exact xah (vv h.2.2.1)<|xal i0 h.2.2.2
 by_cases h0:A x.2=0
 ·refine⟨1,i0,xfw W,0,?_,xdL _⟩;unfold qv;rw[h0,Rat.mkRat_zero];grind
 ·refine⟨A x.2,W,a,zv x.1,?_,by rw[vK];exact h1⟩;unfold qv;rw[xfS];have:((A x.2:K):kw)≠0:=λe=>by have:=xec.1<|e.trans (by rfl:(0:kw)=((0:K):kw));lia
  grind
theorem zal{k:K}(a:1<=k):∀{l:N Qr},(∀x∈l,Qz k x)->Ht (64*k*X l+1) (vl l)
 |[],_=>⟨1,i0,xfw W,λi=>⟨0,by rw[Yg<|by simp[vl]];grind,xdL _⟩⟩
 |x::l,h=>by
  have:=ziM (zm0 (h x<|H1) a)<|zal a λy b=>h y<|UV _ b;show Ht _ (qv x::vl l);rw[xax,Nat.mul_succ];exact dE.mono this W
def zmo{n k:K}{l:N Qr}(f:1<=k)(hl:(Ty.l (.p (.p .b (.l .u)) (.l .u))).ok l)(h:zdh n k l):(∀x∈l,Qz k x)/\Ht (64*k*n+1) (vl l):=by
 have h1:∀x∈l,Qz k x:=λx c=>by
  have⟨i,hi,e⟩:=xcE.1 c;have a:=h.2 i hi;rw[FS,xab hi,xdq,e]at a;have d:=hl.2 x c;exact⟨DH d.1.2,a.1,DH d.2,a.2⟩
 exact⟨h1,dE.mono (zal f h1) (by have:=xaC (64*k) h.1;lia)⟩
def ni{l:N Qr}(hl:X l<=1000)(h:∀x∈l,VN x)(j:3000000<=fu):QD fu l l=Z wL:=by
 unfold QD;rw[iq O,U (v:=.inl ())];refine zA (λs:J=>∃i:K,s=(i:J)/\i<=X l) (λs=>X l-s.toNat) _ ?_ fu 0 ⟨0,O,xan _⟩ (by show X l-(0:J).toNat<fu;lia);rintro _ L ⟨i,rfl,hi⟩ e;unfold eH;by_cases d:i<X l
 ·have c:=BO h i;have e1:=AZ (fu:=fu) (a:=(l.getD i ((I,[]),[])).1) (b:=(l.getD i ((I,[]),[])).1) (by have:=c.2.1;lia) (by have:=c.2.1;lia);have f:=VY (fu:=fu) (a:=(l.getD i ((I,[]),[])).2) (b:=(l.getD i ((I,[]),[])).2) (by have:=c.2.2.2;lia) (by have:=c.2.2.2;lia);have g:QG fu (l.getD i ((I,[]),[])) (l.getD i ((I,[]),[]))=Z wL:=by
   unfold QG;rw[U e1,Wf O,iq O,U f,Wf O]
  rw[zX,zo d,S,zo d,S,U g];rw[ir i0,zb];exact e _ ⟨i+1,O,W⟩ W
 ·rw[zB]
end
section
set_option maxRecDepth 100000
def Pb:W3 4000000=Z wL:=by decide+kernel
end
section
variable{fu d k k':wr}{r:xS Zr×xS Qr}{β:wr->kw}
structure Elm(d:K)(β:K->kw)(k:K)(q:N kw)(f:kw->kw):Prop where
 rd:re d q
 kg:ju (xB (d+1) β) (vd q) f
 ht:Ht k q
def Elm.eq{p q:N kw}{f g:kw->kw}(M:β d=1)(h:Elm d β k p f)(a:Elm d β k' q g)(e:∀t,f t=g t):p=q:=
 re.inj M h.rd a.rd (h.kg.trans<|(ju.of e).trans a.kg.symm)
structure Opd(k:K)(a:N Qr):Prop where
 ok:∀x∈a,VN x
 ln:a.length<=32
 ht:Ht k (vl a)
def Elm.opd{q:N kw}{f:kw->kw}(h:Elm d β k q f)(hd:d<=32)(a:k<=256000):Opd k (q.map cq):=
 ⟨sa h.ht a,by rw[xaj];have:=h.rd.1;lia,by rw[XP];exact h.ht⟩
def bE{m:N Zr}(M:Mad m r d β){a c:N Qr}(b:Opd k a)(hc:Opd k' c)(i:k+k'+1111<=250000)(e:3000000<=fu):∃q,yN fu (Z r) a c=Z (q.map cq,0)/\Elm d β (k+k'+1111) q λt=>vd (vl a) t*vd (vl c) t:=by
 have⟨q,h1,f,g,h⟩:=sO (fu:=fu) M.fl b.ok hc.ok b.ln hc.ln b.ht hc.ht W e;exact⟨q,zcd M.ne h1,f,g,h⟩
theorem SS{m:N Zr}(M:Mad m r d β){a c:N Qr}(b:Opd k a)(hc:Opd k' c)(i:k+k'+374<=250000)(e:3000000<=fu):∃q,wK fu (Z r) a c=Z (q.map cq,0)/\Elm d β (k+k'+374) q λt=>vd (vl a) t+vd (vl c) t:=by
 have⟨q,h1,f,g,h⟩:=BX (fu:=fu) (n:=1) M.fl b.ok hc.ok b.ln hc.ln b.ht hc.ht (.inl O) W e;exact⟨q,zdm M.ne h1,f,g.trans (ju.of λt=>by show _+((1:J):kw)*_=_;grind),h⟩
theorem zmL{m:N Zr}(M:Mad m r d β){a c:N Qr}(b:Opd k a)(hc:Opd k' c)(i:k+k'+374<=250000)(e:3000000<=fu):∃q,q9 fu (Z r) a c=Z (q.map cq,0)/\Elm d β (k+k'+374) q λt=>vd (vl a) t-vd (vl c) t:=by
 have⟨q,h1,f,g,h⟩:=BX (fu:=fu) (n:= -1) M.fl b.ok hc.ok b.ln hc.ln b.ht hc.ht (.inr O) W e;exact⟨q,zcJ M.ne h1,f,g.trans (ju.of λt=>by show _+((-1:J):kw)*_=_;have:((-1:J):kw)= -1:=O;rw[this];grind),h⟩
def zhh{m:N Zr}(M:Mad m r d β){a:N Qr}(b:Opd k a)(h:k+352<=250000)(c:3000000<=fu):∃q,wO fu (Z r) a=Z (q.map cq,0)/\Elm d β (k+352) q (vd<|vl a):=by
 have:=xak (10+1) b.ln;have⟨q,h1,e,f,g⟩:=UU (fu:=fu) M.fl b.ok (by have:=b.ln;lia) b.ht W c;exact⟨q,zdp M.ne h1,e,f,dE.mono g W⟩
def JV{q:N kw}{f:kw->kw}(h:Elm d β k q f)(hd:d<=32)(a:k<=256000)(b:3000000<=fu):xO fu (q.map cq) (q.map cq)=Z wL:=by
 unfold xO;have:=h.opd hd a;rw[U<|ni (by have:=this.ln;lia) this.ok b]
def zdo{m:N M}(g:(Ty.l (.p .b (.l .u))).ok m)(h:3000300<=fu):∃q p,Xo fu m=Z (q,p)/\(q=wF\/∃r d β,q=Z r/\p=yg m/\Mad m r d β):=by
 unfold Xo;have⟨c,h1,i⟩:=cK (fu:=fu) (m:=m) W;rw[U h1]
 cases c with
 |false=>rw[iq i0];exact⟨_,_,O,.inl O⟩
 |true=>
  rw[ir i0];have⟨j,n⟩:=i O;have⟨f,o⟩:=zhk g n;have⟨q,e,s,t⟩:=BW (fu:=fu) f j o h;rw[U s];simp only;by_cases a:e=0
  ·rw[iq a,U<|AA f i0 W W];have⟨r,d,β,g1,v⟩:=t a;exact⟨_,_,O,.inr ⟨r,d,β,g1,O,v⟩⟩
  ·rw[ir a];exact⟨_,_,O,.inl O⟩
theorem zjx{m:N Zr}(M:Mad m r d β)(j:y6 1 (yg m))(l:3000000<=fu):∃w,zg (jx fu<|yg m) fu ([],0)=Z w/\wO fu (Z r) w=Z ([],0):=by
 have hd:=M.d4;have b:zg (jx fu<|yg m) fu ([],0)=Z ((yg m).map λz=>(z,[1])):=by
  refine zA (λs=>∃i:K,i<=X (yg m)/\s=(((yg m).take i).map λz=>(z,[1]),(i:J))) (λs=>X (yg m)-s.2.toNat) _ ?_ fu _ ⟨0,xan _,O⟩ (by show(yg m).length-(0:J).toNat<fu;rw[M.ln];lia);rintro _ L ⟨i,hi,rfl⟩ o;unfold jx;simp only;by_cases h:i<X (yg m)
  ·rw[zX,zo h,S,w8 (by simp;have:=M.ln;lia),S,Df ⟨W,by have:=M.ln;lia⟩];refine o _ ⟨i+1,W,?_⟩ (by show(yg m).length-((i:J)+1).toNat<X (yg m)-(i:J).toNat;lia);rw[xeu,xab h,FS,xab h,xaY];rfl
  ·rw[zB,(W:i=X (yg m)),xbY]
 refine⟨_,b,?_⟩;have ok:∀x∈(yg m).map (λz=>((z,[1]):Qr)),Qz 1 x:=λx a=>by
  obtain⟨z,f,rfl⟩:=xas.1 a;have:=j z f;exact⟨this.1,this.2,by intro x a;rw[xag.1 a];decide,IR 1⟩
 have p:Opd (64*1*X ((yg m).map<|λz=>((z,[1]):Qr))+1) ((yg m).map λz=>((z,[1]):Qr)):=⟨λx a=>(ok x a).mono i0,by rw[xaj,M.ln];lia,zal i0 ok⟩;have⟨q,h1,g⟩:=zhh (fu:=fu) M p (by rw[xaj,M.ln];lia) l;have f:∀i,yS (vl<|(yg m).map λz=>((z,[1]):Qr)) i=(G (yg m) i:kw):=λi=>by
  rw[ek,FS,xbV];unfold G;rw[FS]
  cases(yg m)[i]? with
  |none=>rfl
  |some z=>
   show iI (zv z) (A [1])=_;have:A [1]=1:=lV 1;rw[this,xfS];show(zv z:kw)/((1:K):kw)=_;grind
 have e:q=[]:=re.inj M.fl.one g.rd (re.nil d) (g.kg.trans ⟨_,cn.c (G (yg m) d:kw),λt=>by
  rw[Mv,kG (n:=d+1) (by rw[kL,xaj,M.ln];exact IR _),show xB (d+1) β t*(G (yg m) d:kw)=(G (yg m) d:kw)*xB (d+1) β t from Rat.mul_comm ..,<-Xn];have:xB (d+1) (yS<|vl<|(yg m).map λz=>((z,[1]):Qr)) t=xB (d+1) (λi=>(G (yg m) d:kw)*β i) t:=Kn λi _=>by rw[f,<-M.at_ i];grind
  rw[this];grind⟩)
 rw[h1,e];rfl
def TX{a:N Qr}(c:(Ty.l (.p (.p .b (.l .u)) (.l .u))).ok a)(h:zdh 5 1 a):Opd 321 a:=by
 have⟨h1,e⟩:=zmo i0 c h;exact⟨λx f=>(h1 x f).mono i0,by have:=h.1;lia,e⟩
theorem zjS{k:K}(hd:1<=d):Elm d β (k+1) [1] λ_=>1:=
 ⟨⟨hd,λ_=>by decide⟩,ju.of λt=>by show 0+1*t^0=1;rw[xfj];grind,zf7 ⟨1,i0,xfw W,1,by show(1:kw)*((1:K):kw)=((1:J):kw);grind,by exact xfw W⟩⟩
theorem SR(m:N Zr)(a b c:N Qr)(hm:(Ty.l (.p .b (.l .u))).ok m)(ha:(Ty.l (.p (.p .b (.l .u)) (.l .u))).ok a)(hb:(Ty.l (.p (.p .b (.l .u)) (.l .u))).ok b)(hc:(Ty.l (.p (.p .b (.l .u)) (.l .u))).ok c):uC 4000000 m a b c=Z wL:=by
 have⟨fu,hg⟩:∃fu,fu=4000000:=⟨_,O⟩;have hf:3000300<=fu:=W
 have hj:W3 fu=Z wL:=by rw[hg];exact Pb
 rw[<-hg];unfold uC;have⟨q1,p,h1,h2⟩:=zdo (fu:=fu) hm hf;rw[U hj,U h1];simp only;obtain rfl|⟨r,d,β,rfl,rfl,M⟩:=h2
 ·rfl
 rw[ir i7];have⟨cc,h3,h4⟩:=Cx (fu:=fu) (n:=5) (k:=1) (ls:=[a,b,c]) i7 i0 i0 W;have hk:Vh fu 5 1 [a,b,c]=Z cc:=h3;rw[U hk]
 cases cc with
 |false=>rfl
 |true=>
  rw[ir i0];have C:=h4 O;have f:=TX ha (C 0 i7);have ob:=TX hb (C 1 i7);have D:=TX hc (C 2 i7);have hl:=M.d4;have hd:3000000<=fu:=W
  have j:=M.fl.one;have⟨t2,a1,o⟩:=bE (fu:=fu) M f ob i0 hd;have⟨t3,a2,e3⟩:=bE (fu:=fu) M ob f i0 hd;have⟨t4,a3,e4⟩:=bE (fu:=fu) M ob D i0 hd;have⟨t5,a4,E⟩:=bE (fu:=fu) M (o.opd W i0) D i0 hd;have⟨t6,a5,e6⟩:=bE (fu:=fu) M f (e4.opd W i0) i0 hd;have⟨t7,a6,e7⟩:=SS (fu:=fu) M ob D i0 hd;have⟨t8,a7,F⟩:=bE (fu:=fu) M f (e7.opd W i0) i0 hd;have⟨t9,a8,e9⟩:=bE (fu:=fu) M f D i0 hd;have⟨t10,a9,s⟩:=SS (fu:=fu) M (o.opd W i0) (e9.opd W i0) i0 hd;have⟨t11,G,g⟩:=zhh (fu:=fu) M f i0 hd;have⟨t12,H,v⟩:=SS (fu:=fu) M f ob i0 hd;have⟨t13,K,y⟩:=zmL (fu:=fu) M (v.opd W i0) ob i0 hd;have pa:=ur<|vl a;have pb:=ur<|vl b;have L:=ur<|vl c;have k5:ju (xB (d+1) β) (vd t5) (λt=>vd (vl a) t*vd (vl b) t*vd (vl c) t):=E.kg.trans (by rw[XP];exact ju.mul L (pa.mul pb) o.kg ju.refl);have k6:ju (xB (d+1) β) (vd t6) (λt=>vd (vl a) t*(vd (vl b) t*vd (vl c) t)):=e6.kg.trans (by rw[XP];exact ju.mul (ur _) pa ju.refl e4.kg);have k8:ju (xB (d+1) β) (vd t8) (λt=>vd (vl a) t*(vd (vl b) t+vd (vl c) t)):=F.kg.trans (by rw[XP];exact ju.mul (ur _) pa ju.refl e7.kg);have P:ju (xB (d+1) β) (vd t10) (λt=>vd (vl a) t*vd (vl b) t+vd (vl a) t*vd (vl c) t):=s.kg.trans (by rw[XP,XP];exact o.kg.add e9.kg);have Q:ju (xB (d+1) β) (vd t13) (vd<|vl a):=y.kg.trans (by
   rw[XP];exact(v.kg.sub ju.refl).trans<|ju.of λt=>by grind)
  have q3:t3=t2:=e3.eq j o λt=>by grind
  have q6:t6=t5:=re.inj j e6.rd E.rd<|k6.trans<|(ju.of λt=>by grind).trans k5.symm;have R:t10=t8:=re.inj j s.rd F.rd<|P.trans<|(ju.of λt=>by grind).trans k8.symm;have T:t13=t11:=re.inj j y.rd g.rd<|Q.trans g.kg.symm;have⟨w,v1,v2⟩:=zjx (fu:=fu) M (oU (by
   have⟨c',g1,V⟩:=cK (fu:=fu) (m:=m) hd;unfold Xo at h1;rw[U g1]at h1
   cases c' with
   |false=>rw[iq i0]at h1;simp at h1
   |true=>exact(zhk hm (V O).2).1)) hd
  have⟨y0,g1,V,g3,g4,g5⟩:=Dr (fu:=fu) (k:=321) M.fl hl i0 M.ir M.ne M.by_ f.ok f.ln f.ht (by have:=(C 0 i7).1;have:X a<=5:=this;lia) i0 hd;have z:t11=y0:=re.inj j g.rd V<|g.kg.trans g3.symm;rw[U a1,U a2,U a3];simp only;rw[U a4];simp only;rw[U a5,U a6];simp only;rw[U a7,U a8];simp only;rw[U a9,U G,U H];simp only;rw[U K];simp only;have s2:=JV (fu:=fu) o W i0 hd;have s5:=JV (fu:=fu) E W i0 hd;have s8:=JV (fu:=fu) F W i0 hd;have A:=JV (fu:=fu) g W i0 hd;rw[q3,q6,R,T];rcases g5 with⟨z0,z1⟩|⟨z0,q,z2,z1,z3,z4⟩
  ·have⟨t15,h,_⟩:=bE (fu:=fu) (k':=1) M f (c:=[]) ⟨λx hx=>(Nm hx).elim,i0,⟨1,i0,i0,λi=>⟨0,by show yS [] i*_=_;unfold yS;rw[List.getD_nil];grind,i0⟩⟩⟩ i0 hd;rw[U z1];simp only;rw[U h];simp only;rw[U v1,U v2];simp only[uP];rw[U s2,iq O,U s5,iq O,U s8,iq O,U A,iq O,z,z0];rfl
  ·have⟨t15,h,B⟩:=bE (fu:=fu) (k':=220000) M f ⟨sa z3 i0,by rw[xaj];have:=z1.1;lia,by rw[XP];exact z3⟩ i0 hd;have hn:X (t11.map cq)≠0:=λe=>z0 (by rw[z,xaj]at e;exact xbh.1 e);have o1:=zjS (d:=d) (β:=β) (k:=1) M.fl.d1;have a0:t15=[1]:=re.inj j B.rd o1.rd<|B.kg.trans<|(ju.of λt=>by rw[XP];exact Rat.mul_comm ..).trans<|z4.trans o1.kg.symm;have b0:=JV (fu:=fu) o1 W i0 hd;rw[U z2];simp only;rw[U h];simp only;rw[U v1,U v2];simp only[uP];have hi:¬(X (t11.map cq):J)=0:=W
   rw[U s2,iq O,U s5,iq O,U s8,iq O,U A,iq O,ir i0,ir hi,S,iq i0,ir hi,U<|Kp i0 hd,a0];show Y (xO fu ([1].map cq)<|[1].map cq) _=_;rw[U b0];rfl
end
section
namespace fieldRing
open Go.ChangeShapes Go.WideShapes Go.ChangeAt Go.RowKit
theorem own:ownKnob Tryz.prog.godebug=wF:=i8
def atW:X8 Tryz.prog .u 73:=id (by kernel_rfl:Tryz.prog.underlying 73=Z (.int .u64))
def atB:X8 Tryz.prog .b 4:=id (by kernel_rfl:Tryz.prog.underlying 4=Z .bool)
def atL:X8 Tryz.prog (.l .u) 42:=X8.sl (E:=73) i8 i8 i0 atW
def atZ:X8 Tryz.prog (.p .b (.l .u)) 44:=X8.st (A:=4) (B:=42) i8 i8 i8 i8 atB atL
def atP:X8 Tryz.prog (.l (.p .b (.l .u))) 22:=X8.sl (E:=44) i8 i8 i0 atZ
def atQ:X8 Tryz.prog (.p (.p .b (.l .u)) (.l .u)) 46:=X8.st (A:=44) (B:=42) i8 i8 i8 i8 atZ atL
def atR:X8 Tryz.prog (.l (.p (.p .b (.l .u)) (.l .u))) 41:=X8.sl (E:=46) i8 i8 i0 atQ
def sgO(M:fE [.d (.l (.p .b (.l .u))),.d (.l (.p (.p .b (.l .u)) (.l .u))),.d (.l (.p (.p .b (.l .u)) (.l .u))),.d (.l (.p (.p .b (.l .u)) (.l .u)))]->V qR):VM:=⟨10,[.d (.l (.p .b (.l .u))),.d (.l (.p (.p .b (.l .u)) (.l .u))),.d (.l (.p (.p .b (.l .u)) (.l .u))),.d (.l (.p (.p .b (.l .u)) (.l .u)))],[.d .b],M,0⟩
set_option maxRecDepth 100000 in
def lifted{M:fE [.d (.l (.p .b (.l .u))),.d (.l (.p (.p .b (.l .u)) (.l .u))),.d (.l (.p (.p .b (.l .u)) (.l .u))),.d (.l (.p (.p .b (.l .u)) (.l .u)))]->V qR}(h:xt Tryz.prog (sgO M))(i:∀x,zfn [.d (.l (.p .b (.l .u))),.d (.l (.p (.p .b (.l .u)) (.l .u))),.d (.l (.p (.p .b (.l .u)) (.l .u))),.d (.l (.p (.p .b (.l .u)) (.l .u)))] x->M x=Z wL)(os:Os)(a:os.Started)(H:Type)(enc:wT×wN->H):
 ReturnsInHanded {} Tryz.checked os 10 .any (Rows.fieldRingSpec.pre6 enc Tryz.prog Tryz.f10 Rows.fieldRingRow.domain I) (Rows.fieldRingSpec.post enc Tryz.prog Tryz.f10 I wL I I):=by
 refine returnsInHanded_of_change (C:=Tryz.checked) own a i8 Tryz.func10
  (ChangeSpec.witness6 (enc:=enc) (C:=Tryz.checked) I ⟨#[],#[.slice wF 0 0,.slice wF 0 0,.slice wF 0 0,.slice wF 0 0],[]⟩ 8 i8 i8 i8 i8) ?_
 intro W c args ds F e k f G _;have hc:∀(j:K) t v,Tryz.f10.params[j]? =Z t->args[j]? =Z v->xey Tryz.prog W .any c t v:=k;have hd:=f;have⟨p,q,m,n,_,_,_⟩:=f;have g:xeT enc Tryz.prog W 0 (λ_=>wL) wL Tryz.f10.params.toList args.toList ds p:=m;rw[Tryz.params10]at g;obtain⟨v0,o,d0,r,p0,q0,J,rfl,_,_,r0⟩:=trodAll_cons g;obtain⟨v1,s,d1,w,L,q1,_,rfl,_,_,r1⟩:=trodAll_cons r0;obtain⟨N,vs2,d2,y,P,q2,_,rfl,_,_,r2⟩:=trodAll_cons r1;obtain⟨v3,z,d3,A,Q,R,_,rfl,_,_,D⟩:=trodAll_cons r2;obtain⟨_,rfl,_⟩:=trodAll_nil D;obtain⟨rfl,_⟩:=trodVars_none n
 exact zjs (sg:=sgO M) hd O hc i8 (by rw[Tryz.params10];decide+kernel) (by rw[Tryz.params10];exact⟨atP,atR,atR,atR,wR⟩) O h
  (λx E=>i x E) (B:=4) i8 Tryz.underlying4 O
set_option maxRecDepth 100000 in
def fnm:Tryz.pinned.checked.prog.funcNamed Rows.fieldRingRow.func=Z 10:=i8
set_option maxRecDepth 100000 in
set_option maxHeartbeats 4000000 in
def jf:joinedFacts Tryz.pinned.checked.prog 10 Tryz.f10 Rows.fieldRingSpec Rows.fieldRingRow=wL:=by
 unfold joinedFacts;simp only[xac];repeat' apply xfK
 all_goals (as_aux_lemma=>kernel_rfl)
def over:Rows.fieldRingRow.holds Tryz.pinned (OpenSpec.ofChange Rows.fieldRingSpec):=
 OpenClaim.holds_of_wide 10 Tryz.f10 O O O O O O O ⟨O,O,O,O,O⟩ O O O O O fnm Tryz.func10 jf
  (Ws i8) (by unfold Func.isWrapper;first|(rw[iq<|by decide+kernel];kernel_rfl)|(rw[ir<|by decide+kernel];exact⟨O,O⟩))
  (λos a H enc _=>lifted (M:=λx=>uC 4000000 x.1 x.2.1 x.2.2.1 x.2.2.2.1) (oq 4000000) (λx b=>SR x.1 x.2.1 x.2.2.1 x.2.2.2.1 b.1 b.2.1 b.2.2.1 b.2.2.2.1) os a H enc)
theorem proved:Rows.FieldRingSaid:=
 over
end fieldRing
end
end Go.Proofs.YtoegnnjcmlghhaaGreat
