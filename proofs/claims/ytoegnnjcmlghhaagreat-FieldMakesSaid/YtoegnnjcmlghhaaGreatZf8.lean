/- Whether there is a field is told as the document tells it, for every input. No condition. -/
import Derived.Test.YtoegnnjcmlghhaaGreatZf7
set_option linter.all false
namespace Go.Proofs.YtoegnnjcmlghhaaGreat
open Bool renaming false->I,true->wF
open Go renaming Value->wN,TypeId->wT,Func->QR
open Go.Proofs.YtoegnnjcmlghhaaGreat renaming Zr->M,cf->G,bd->Y,za->U,ci->C,nm->B,cC->D,pc->F,ze->Q,zt->A,Pz->S
open List renaming length->X,length->i0
open Nat renaming beq->E
open Option renaming some->Z,none->wL
open _root_ renaming rfl->O,List->N,Int->J,Nat->K,Option->V,List->xS,Int->wl,Nat->wr,absurd->wR,trivial->wS,Bool->wW,funext->qR,congrArg->kW,if_false->ut,if_true->uL,decide_eq_false->uT,decide_eq_true->Z3,True->XS,congrFun->Wf,of_decide_eq_true->Wl,decide_eq_true_eq->WW,or_false->UL,if_pos->UT
open And renaming intro->xfF
open Bool renaming and_eq_true->xab,false_eq_true->xak,not_false->xeQ,not_true->xcW,or_eq_true->xdQ
open Classical renaming byContradiction->xae
open DataW renaming TrodAll->xeK
open Int renaming add_comm->xfc,add_zero->xbZ,dvd_mul_left->xcx,dvd_mul_right->xcc,dvd_of_emod_eq_zero->xaB,dvd_refl->xed,dvd_trans->xbp,ediv_mul_cancel->xeY,emod_emod->xaT,emod_eq_emod_iff_emod_sub_eq_zero->xaI,emod_eq_of_lt->xaL,emod_eq_zero_of_dvd->xaw,eq_ofNat_of_zero_le->xaA,le_of_lt->xdG,le_refl->xfy,mul_comm->xbw,mul_le_mul_of_nonneg_left->xaV,mul_le_mul_of_nonneg_right->xbx,mul_ne_zero->xcG,mul_one->xcZ,mul_zero->xaz,natAbs_ediv_le_natAbs->xbG,natAbs_mul->xcC,natAbs_natCast->xbh,natAbs_neg->xfC,natCast_dvd_natCast->xcF,natCast_mul->xfS,ofNat_dvd_left->xdn,one_mul->xcY,pow_nonneg->xfA,pow_succ->xbY,pow_zero->xcl,sub_zero->xdc,tdiv->xct,tmod->xca,toNat_natCast->xbc,zero_add->xcE,zero_emod->xas,zero_mul->xba,zero_sub->xfX
open List renaming all_eq_true->xaN,append_assoc->xaf,append_of_mem->xeg,drop_eq_getElem_cons->xbT,getD_eq_getElem?_getD->H1,getElem?_append_left->xaR,getElem?_append_right->xbj,getElem?_eq_getElem->xah,getElem?_eq_none->xbD,getElem?_map->xcg,getElem?_range->xdR,getElem_mem->xbE,getElem_of_mem->xcr,length->xaF,length_append->xap,length_cons->xau,length_drop->xbR,length_eq_one_iff->xcN,length_eq_zero_iff->xbs,length_map->xbd,length_nil->xbH,length_set->xbC,length_singleton->xeJ,length_take->xax,map_append->xaW,map_cons->xcb,map_map->xdb,mem_append->So,mem_append_left->xcM,mem_cons->xaa,mem_cons_of_mem->UV,mem_cons_self->FS,mem_map->xat,mem_map_of_mem->xbI,mem_range->xbe,mem_singleton->xad,nil_append->xby,not_mem_nil->IR,pairwise_cons->xbQ,pairwise_iff_forall_sublist->xdr,pairwise_iff_getElem->xdd,pairwise_map->xeq,pairwise_singleton->xfl,range->xaH,range_succ->xdl,replicate->xac,take_add_one->xeL,take_length->xcw
open List.Pairwise renaming nil->xft
open Nat renaming add_comm->xdA,add_mul->xbb,add_mul_div_left->xcm,add_mul_mod_self_left->xbV,add_sub_cancel->xfi,div_eq_of_lt->xbg,div_le_self->xcp,div_one->xdK,gcd->xdq,gcd_comm->xdF,gcd_dvd_left->xfM,gcd_dvd_right->xdx,le_mul_of_pos_right->xcf,le_of_lt->xda,le_of_not_lt->xbu,le_refl->Nm,le_succ->xbN,le_trans->xal,lt_of_le_of_lt->xaK,lt_of_lt_of_le->xao,lt_of_not_le->xdf,lt_or_ge->xbW,min_eq_left->xce,mod_eq_of_lt->xam,mod_lt->xaS,mul_add->xbk,mul_assoc->xaP,mul_comm->xaO,mul_div_cancel->xfj,mul_le_mul->xbo,mul_le_mul_left->xaD,mul_le_mul_right->xan,mul_lt_mul''->xdL,mul_one->xdU,mul_zero->xcK,not_lt_zero->xbn,one_mul->xcy,pos_of_ne_zero->xco,pow_add->xbz,pow_le_pow_right->xav,pow_lt_pow_right->xeP,pow_pos->xaU,pow_succ->xbf,sub_self->xcQ,zero_add->xaJ,zero_le->xai,zero_mul->xcu
open Value renaming okWide->xer
section
variable{a R:xS Zr}{fu K B B1:wr}{q p:wl}{ds:xS wl}
theorem AR(h:nZ a=0):1<=X (zQ a)/\X (zQ a)<=65:=by grind [nZ]
def zaw:vF 2=wF:=zan ⟨gS,gS,λd h1 b=>by
 have:=xbo h1 h1;lia⟩
theorem Hi(hc:zQ a=a)(hp:Pm (G a))(b:Po (G a)):yn a=1:=by
 have⟨n,hn,hd⟩:=b.tp;have c:=λe=>hn.1<|ZP e n;have h1:=(kR c).uniq hn;have f:=hp _<|nH λk d=>zW d;have a3:yn a=if G (zQ a) (X (zQ a)-1)<0 then-((XD (G a) (X (zQ a)):wr):J)else((XD (G a) (X (zQ a)):wr):J):=O;grind
def Po.left{u v:S}(fu:Fs u)(h:Po (u*v))(hv:Po v):Po u:=by
 have⟨m,d,hp⟩:=h.tp;have⟨b,e,f⟩:=hv.tp;have⟨g,_⟩:=kT d.nz O;have⟨a,c⟩:=Tp.ex fu g;obtain rfl:=(c.mul e).uniq d;rw[Vz c.2 e.2]at hp;exact⟨a,Int.pos_of_mul_pos_left hp f,c.2⟩
structure Rad(a R:N M):Prop where
 can:zQ R=R
 pm:Pm (G R)
 ps:Po (G R)
 dv:∃g:S,Fs g/\G (y7 a)=G R*g
 al:∀q,Ir q->Zd q (G a)->Zd q (G R)
 ln:R.length<=(zQ a).length
 sf:∀q,Ir q->¬Zd (q*q) (G R)
theorem iR(b:yH K a)(c:K<=40000)(hl:X a<=1000000)(h0:nZ a≠0)(d:3000000<=fu):xU fu a=Z ([],nZ a):=by grind [xU,U,VA]
structure zlc(a g R:N M):Prop where
 rad:Rad a R
 gc:zQ g=g
 gp:Pm (G g)
 go:Po (G g)
 gd:∀d,Fs d->Pm d->(Zd d (G g)↔Zd d (G<|y7 a)/\Zd d (dvp<|G<|y7 a))
 eq:(G (y7 a):S)=G R*G g
def ziq{Gc:N M->N M->V (N M)}{Dv:N M->N M->V (N M×J)}(hl:X a<=40)(h0:nZ a=0)(H:∀j,Bb B<|G a j)(m:∀j,Bb B1<|G a<|j+1)(hB:B<=6000)(L:∀{x y:N M},zQ x=x->zQ y=y->yn x=1->X y+1=X x->X x=X (zQ a)->(∀j,Bb B<|G x j)->(∀j,Bb (B1+6)<|G y j)->∃g,Gc x y=Z g/\zQ g=g/\Pm (G g)/\Po (G g)/\X g<=X x/\∀d,Fs d->Pm d->(Zd d (G g)↔Zd d (G x)/\Zd d (G y)))(P:∀{x y:N M},yH 94 x->yH 97 y->X x<=40->X y<=40->X (zQ y)≠0->∃q e,Dv x y=Z (q,e)/\(e=0↔Zd (G y) (G x))/\(e=0->(G x:S)=G q*G y/\zQ q=q/\X q<=X x)):
 ∃g R,Gc (y7 a) (wk (X (y7 a)-1)<|dvp<|G<|y7 a)=Z g/\Dv (y7 a) g=Z (R,0)/\zlc a g R/\∀j,Bb (B+X (zQ a)+4) (G R j):=by
 have hv:=AR h0;have hx:=j7 a;have⟨p,hp⟩:∃p,p=y7 a:=⟨_,O⟩;have f:zQ p=p:=by rw[hp];exact vq a
 have hi:X p=X (zQ a):=by rw[hp];exact kF a
 have⟨n,o⟩:=ZD (a:=a) W;have v:=λq h1 z=>(A8 (a:=a) (d:=q) h1 z).2;rw[<-hp]at n o v⊢;have Q:X (zQ p)≠0:=by rw[f];lia
 have tp:=kR Q;rw[f]at tp;have A:∀{b:wr}{j},Bb b (G a j)->Bb b (G p j):=λh=>by
  rw[hp,uJ];exact h.le<|xbG _ _
 have l:∀j,Bb B (G p j):=λj=>A<|H j;have oP:yH 94 p:=by rw[<-f];exact yN λj=>(l j).bz W
 have hn:=Hi f n o;have⟨d,hd⟩:∃d,d=wk (X p-1) (dvp<|G p):=⟨_,O⟩;have hc:(G d:S)=dvp (G p):=qR λk=>by
  rw[hd];exact jo (λk hk=>by unfold dvp;rw[zW W,xaz]) k
 have T:zQ d=d:=by rw[hd];exact(kZ _ _).symm
 have U:X d+1=X p:=by
  rw[hd,xw];by_cases h1:X p=1
  ·rw[h1];rfl
  ·have:dg (dvp<|G p) (X p-1)=X p-1:=J5 (Nm _) (λk h1 z=>by lia) (.inr (by
    show((X p-1-1+1:wr):J)*G p (X p-1-1+1)≠0;rw[(W:X p-1-1+1=X p-1)];exact xcG W tp.1))
   lia
 have Y:∀j,Bb (B1+6) (G d j):=λj=>by
  rw[hc];show Bb _ (((j+1:wr):J)*G p (j+1));by_cases r:j+1<64
  ·rw[xbw];exact(A<|m j).mul (show((j+1:wr):J).natAbs<2^6 by rw[xbh];exact r)
  ·rw[zW W,xaz];exact Bb.zero _
 have⟨g,g1,C,s,D,g5,t⟩:=L f T hn U hi l Y;have⟨z1,z2⟩:=(t _ (Fs.cf g) s).1<|Zd.refl _;have ht:X (zQ g)≠0:=λe=>by
  have⟨j,r⟩:=s.nz;exact r<|ZP e j
 have⟨w,E,F⟩:=z1;have bG:∀j,Bb (B+X (zQ a)+4) (G g j):=λj=>(sL tp (Fs.cf g) E (by rw[F,zk]) W l j).mono W;have oG:yH 97 g:=by rw[<-C];exact yN λj=>(bG j).bz W
 have⟨R,e,r1,r2,r3⟩:=P oP oG W W ht;have he:e=0:=r2.2 ⟨w,E,F⟩;subst he;have⟨c,r5,r6⟩:=r3 O;have hu:Pm (G R):=(c▸n:Pm (G R*G g:S)).left;refine⟨g,R,by rw[<-hd];exact g1,r1,⟨⟨r5,hu,Po.left (Fs.cf R) (c▸o:Po (G R*G g:S)) D,⟨G g,Fs.cf g,by rw[<-hp];exact c⟩,λq i hz=> ?_,W,λq i=>zlR tp (Fs.cf g) (Fs.cf R) c (λd u pd y1 y2=>(t d u pd).2 ⟨y1,by rw[hc];exact y2⟩) i⟩,C,s,D,λd u pd=>by rw[<-hp,t d u pd,hc],by rw[<-hp];exact c⟩,λj=>(sL tp (Fs.cf R) (Fs.cf g) c W l j).mono W⟩;exact zh3 tp (Fs.cf g) (Fs.cf R) c (by rw[<-hc];exact z2) i<|v q i.fs i.pm hz
def zf6(o:yH K a)(r:K<=100)(hl:X a<=40)(h0:nZ a=0)(h:∀j,Bb B<|G a j)(b:∀j,Bb B1<|G a<|j+1)(i:B<=6000)(hc:B1<=6000)(k:GcZ B (B1+6) (X (zQ a)) (X (zQ a)-1))(e:3000000<=fu):
 ∃g R,XH fu (y7 a) (wk (X (y7 a)-1)<|dvp<|G<|y7 a)=Z g/\xR fu (y7 a) g=Z (R,0)/\zlc a g R/\∀j,Bb (B+X (zQ a)+4) (G R j):=by
 have hd:=j7 a
 exact ziq (Gc:=XH fu) (Dv:=xR fu) hl h0 h b i (λ{x y} g1 c f l d m n=>Fb g1 c f W W m n (by rw[(W:X y=X (zQ a)-1),d];exact k) W W e)
  (λ{x y} g1 c f l d=>QN g1 c (by have:=xan (97+1) (W:X x+1<=41);lia) W W d e)
def lk(b:yH K a)(e:K<=100)(hl:X a<=40)(h0:nZ a=0)(f:∀j,Bb B<|G a j)(c:∀j,Bb B1<|G a<|j+1)(h:B<=6000)(hc:B1<=6000)(i:GcZ B (B1+6) (X (zQ a)) (X (zQ a)-1))(d:3000000<=fu):
 ∃g R,xU fu a=Z (R,0)/\zlc a g R/\∀j,Bb (B+X (zQ a)+4) (G R j):=by
 have hd:=j7 a;have n:=kF a;have⟨g,R,h1,k,l,m⟩:=zf6 b e hl h0 f c h hc i d;refine⟨g,R,?_,l,m⟩;unfold xU;rw[U<|VA b W W d,iq h0,U<|wI b,U<|sD (n8 b) W W d,U h1];unfold rV;rw[U (v:=R)<|by rw[U k]]
def nD(d:yH K a)(e:K<=100)(hl:X a<=40)(h0:nZ a=0)(b:∀j,Bb B<|G a j)(c:B<=6000)(f:(B+7)*KR (X (zQ a)-1)<=639000)(hc:(B+7)*KR (X (zQ a))<=2400000)(h:3000000<=fu):
 ∃R,xU fu a=Z (R,0)/\Rad a R/\∀j,Bb (B+X (zQ a)+4) (G R j):=by
 have⟨g,R,h1,i,k⟩:=lk (fu:=fu) d e hl h0 b (λj=>b<|j+1) c c (.inl ⟨B+7,W,W,f,hc⟩) h;exact⟨R,h1,i.rad,k⟩
def RL:vF 65521=wF:=zan ⟨gS,gS,λd h1 e=>by
 have c:d<256:=by
  refine xae λhn=> ?_;have:=xbo (W:256<=d) (W:256<=d);lia
 have b:∀d:wr,d<256->2<=d->65521%d≠0:=by decide+kernel
 exact b d c h1⟩
def rq(h:65521<=q):wB fu q=Z (0,5):=by
 unfold wB;simp_all
def aY(h1:1<=q)(h:q<65521)(j:3000000<=fu):∃r,wB fu q=Z (r,0)/\vF r=wF/\q<r/\∀s,q<s->s<r->vF s=I:=by
 unfold wB;have⟨r,c,r1,r2,k⟩:=ya (f:=Q4 fu) (λi:J=>q<i/\i<=65521/\∀s,q<s->s<i->vF s=I) (λi=>(65521-i).toNat) (λr=>vF r=wF/\q<r/\∀s,q<s->s<r->vF s=I) (by
  rintro i L ⟨i1,i2,b⟩ d;unfold Q4;rw[U<|Wo W]
  cases hp:vF i with
  |true=>rw[ir gS];exact⟨_,O,hp,i1,b⟩
  |false=>
   have l:i≠65521:=λe=>by rw[e,RL]at hp;cases hp
   rw[iq gS,zb];refine d _ ⟨W,W,λs h1 g=> ?_⟩ W;by_cases e:s=i
   ·simp_all
   ·exact b s h1 W) fu (q+1) ⟨W,W,λs h1 g=>by lia⟩ W
 rw[zB,zf,(W:max q 1=q),zb,U c];simp_all
def Xw(R:N M)(p:J):Prop:=vF p=wF/\G R (X R-1)%p≠0/\jF p (G R) (dvp<|G R)
def GJ{x:J}{f g:S}(h:Cg p g (F x*f))(hc:jF p g (dvp g)):jF p f (dvp f):=by
 have h1:Cg p (dvp g) (F x*dvp f):=(zd2 h).trans (Cg.of (by
  rw[VZ,zlq];funext k;rw[zK,yf,zJ,xcE]))
 have⟨s,t,fs,b,e⟩:=hc.congr h h1;refine⟨s*F x,t*F x,fs.mul<|Fs.pc x,b.mul<|Fs.pc x,?_⟩;rw[zd,zd];exact e
def nj(hp:0<p:=by lia)(b:0<X R:=by lia):X (qx p R)=X R↔G R (X R-1)%p≠0:=by
 have hn:=(Qe hp R).nl;constructor
 ·intro h;obtain h1|h1:=hn
  ·lia
  ·rw[h,JR]at h1;exact h1
 ·intro h;have:=zjC p R;by_cases e:X (qx p R)=X R
  ·exact e
  ·exfalso;rw[<-JR,yh W]at h;lia
def zj9(hp:vF p=wF)(s:0<X R)(hl:X R<=65)(t:X (qx p R)=X R)(e:3000000<=fu:=by lia):
 ∃m b,zgJ p (qx p R) m/\vd p m/\Yw fu (qx p R) p=Z (b,0)/\(b=wF↔jF p (C m) (dvp<|C m))/\kK fu (qx p R) p=if b=wF then Z (m,0)else Z ([],1):=by
 have⟨g,v⟩:=zz hp;have f:=Qe (p:=p) W R;have⟨m,b,h1,c,h,i,j⟩:=pV (fu:=fu) hp f W W e;refine⟨m,b,h1,c,?_,i,j⟩;have hd:=h1.ln;have⟨x,x0,w,l,e1⟩:=XN (fu:=fu) hp f W W e;have⟨z,c1,c2,A⟩:=mH (fu:=fu) hp c W e;have d:=PY g f W l;have n:xD p (qx p R) [x]=m:=by
  have⟨_,y,_,o⟩:=d.cg;have⟨u,_,r,_⟩:=h1.cg;have hc:Cg p (C m) (F (u*y)*C (xD p (qx p R) [x])):=by
   rw[<-qf,zd];exact r.trans<|Cg.rfl.mul o
  have t1:=hc<|X m-1;have t2:=d.top;have t3:=d.ln;rw[c.top,zP,(W:X m-1=X (xD p (qx p R) [x])-1),t2,xcZ]at t1;refine(c.fm.ext d.fm<|hc.trans ?_).symm;refine(Cg.mul (f':=F 1) (λk=> ?_) Cg.rfl).trans<|Cg.of<|zw _;unfold F;split
  ·exact t1.symm
  ·rfl
 rw[n]at e1;rw[<-h];unfold Yw Qx;rw[U e1,U c1]
def PQ{m:N J}(h:zgJ p (qx p R) m):jF p (C m) (dvp<|C m)↔jF p (G R) (dvp<|G R):=by
 have⟨x,y,b,c⟩:=h.cg;exact⟨λhc=>GJ (b.trans<|Cg.rfl.mul<|fh p R) hc,λhc=>GJ ((fh p R).symm.trans c) hc⟩
def Az(f:zQ R=R)(c:yH K R)(h:K<=300)(h0:nZ R=0)(g:3000000<=fu):∃b,Qn fu R p=Z (b,0)/\(b=wF↔Xw R p):=by
 have i:=AR h0;rw[f]at i;unfold Qn;have⟨y,j,_⟩:=aL (fu:=fu) c h W g;rw[U j,h0];simp only[uL];rw[U<|Wo W]
 cases hp:vF p with
 |false=>
  rw[iq gS];exact⟨_,O,λe=>wR e gS,λe=>by rw[e.1]at hp;cases hp⟩
 |true=>
  have⟨o,k⟩:=zz hp;rw[ir gS,U<|uu c W W k];simp only;rw[U<|zI c W W g,show wk (X R) (G R)=R from f];by_cases d:X (qx p R)=X R
  ·have⟨m,b,h1,r,l,n,_⟩:=zj9 (fu:=fu) hp W W d;rw[zT,U l];refine⟨b,O,?_⟩;rw[n,PQ h1];exact⟨λhc=>⟨hp,(nj).1 d,hc⟩,λhc=>hc.2.2⟩
  ·rw[zB];exact⟨_,O,λe=>wR e gS,λe=>wR ((nj).2 e.2.1) d⟩
structure zgG(R:N M)(p:J)(l:N (N J)):Prop where
 el:∀g∈l,VT p g/\RK p g/\g.length<=66
 pw:l.Pairwise λa b=>jF p (C a)<|C b
 cg:Cg p (G R) (F (G R<|R.length-1)*prZ (l.map C))
 ln:l.length<=R.length-1
def Ns{p:J}:∀{l:N (N J)},(∀g∈l,vd p g/\1<X g)->∃d,Mn (prZ<|l.map C) d/\X l<=d
 |[],_=>⟨0,⟨O,λk c=>by show F 1 k=0;unfold F;rw[zB]⟩,Nm _⟩
 |g::l,h=>by
  have⟨h1,e⟩:=h g<|FS;have⟨d,hd,hl⟩:=Ns λx b=>h x<|UV _ b;exact⟨_,zj6 h1.mn hd,by rw[xau];lia⟩
def zcM(c:Xw R p)(N:1<X R)(hl:X R<=13)(hd:Rl ds)(w:X ds<=1000)(z:3000001<=fu):∃l,Xk fu (qx p R) p ds=Z (l,0)/\zgG R p l:=by
 have⟨hp,A,hc⟩:=c;have⟨r,Q⟩:=zz hp;obtain⟨P,rfl⟩:=xaA (W:0<=p);have D:=(nj (p:=(P:J))).2 A;have⟨m,b,h1,f,S,E,s⟩:=zj9 (fu:=fu) hp W W D;have i:=(PQ h1).2 hc;rw[iq<|E.2 i]at s;have⟨l,us,e1,T,e,h⟩:=tS (fu:=fu) (b:=b) hp (Qe W R) W W hd w z h1 f s i;have U:=h1.ln;have hi:∀g∈l,X g<=66:=λg c=>by
  have⟨q,fq,G⟩:=e.dv c;have:=eH r f (e.mn g c).1 fq G;lia
 refine⟨l,e1,λg c=>⟨h g c,⟨λj _=>⟨(e.mn g c).1.fm.nn j,(e.mn g c).1.fm.lt j⟩,(e.mn g c).2,(e.mn g c).1.top⟩,hi g c⟩,?_,?_,?_⟩
 ·refine xdr.2 λ{a b} n=> ?_;have o:a∈l:=n.subset gT;have u:b∈l:=n.subset gT;refine(h a o).cop hp (h b u) (by have:=hi a o;lia) (by have:=hi b u;lia) λhn=> ?_;subst hn;have:=oO (p:=(P:J)) (n.map C) UQ;refine jF.sq r (h a o) i<|Di.cg ?_ e.pr.symm;refine Di.trans ⟨F 1,Fs.pc 1,Cg.of ?_⟩ this;show C a*(C a*F 1)=_;rw[ye,zw]
 ·have⟨x,y,V,H⟩:=h1.cg;have v:=(fh (P:J) R).symm.trans H;have t:=v<|X R-1;rw[zP,(W:X R-1=X m-1),f.top,xcZ,(W:X m-1=X R-1)]at t;refine v.trans<|Cg.mul (λk=> ?_) e.pr;unfold F;split
  ·exact t.symm
  ·rfl
 ·have⟨d,hd,Y⟩:=Ns e.mn;have L:=f.mn;have M:(1:J)%(P:J)=1:=xaL gS W;have t1:=e.pr d;rw[hd.1,M]at t1;by_cases hv:d<=X m-1
  ·lia
  ·rw[L.2 d W,xas]at t1;cases t1
theorem AL(F:zQ R=R)(A:yH K R)(G:K<=300)(h0:nZ R=0)(H:1<X R)(hl:X R<=13)(hd:Rl ds)(hp:X ds<=1000)(M:3000001<=fu):
 ∃p l,V7 fu R ds=Z (p,l)/\((p=0/\∀q,¬Xw R q)\/(Xw R p/\zgG R p l)):=by
 have hi:∀{q r:J},(∀s,s<=q->¬Xw R s)->(∀s,q<s->s<r->vF s=I)->∀s,s<r->¬Xw R s:=λ{q r} h1 x s u d=>by
  by_cases h:s<=q
  ·simp_all
  ·have:=x s W u;rw[d.1]at this;grind
 have P:∀{q:J},65521<=q->(∀s,s<=q->¬Xw R s)->∀s,¬Xw R s:=λ{q} v h s d=>by
  have:=(zz d.1).2;exact h s W d
 obtain⟨s,u,p,l,rfl,Q⟩:=ya (f:=QL fu R ds) (λs:J×J×N (N J)×J×J=>(s.2.2.2.2=0->vF s.2.2.2.1=wF)/\0<=s.2.1/\((s.1=0/\s.2.1=0/\(s.2.2.2.2=0->∀q,q<s.2.2.2.1->¬Xw R q)/\(s.2.2.2.2≠0->∀q,¬Xw R q))\/(Xw R s.1/\zgG R s.1 s.2.2.1))) (λs=>if s.2.2.2.2=0 then(65522-s.2.2.2.1).toNat else 0)
  (λr=>∃p l,r=(p,l)/\((p=0/\∀q,¬Xw R q)\/(Xw R p/\zgG R p l))) (by
  rintro⟨b,n,out,q,e⟩ L ⟨i1,i2,k⟩ m
  simp only at i1 i2 k m
  unfold QL
  simp only
  by_cases g:e=0
  ·have v:=i1 g
   have⟨q1,q2⟩:=zz v
   rw[iq g]
   by_cases hn:n<5
   ·have⟨c,c1,c2⟩:=Az (fu:=fu) (p:=q) F A G h0 W
    rw[iq hn,U c1]
    have hc:∃r o,wB fu q=Z (r,o)/\(o=0->vF r=wF/\q<r/\∀s,q<s->s<r->vF s=I)/\(o≠0->65521<=q):=by
     by_cases h:65521<=q
     ·exact⟨0,5,rq h,λh=>wR h gS,λ_=>h⟩
     ·have⟨r,h1,x⟩:=aY (fu:=fu) (q:=q) W W W;exact⟨r,0,h1,λ_=>x,λh=>wR O h⟩
    have⟨r,o,n1,n2,S⟩:=hc
    have w:(if o=0 then(65522-r).toNat else 0)<(if e=0 then(65522-q).toNat else 0):=by
     rw[iq g];split
     ·have:=n2 (by assumption);lia
     ·lia
    cases c with
    |false=>
     have T:¬Xw R q:=λd=>by have:=c2.2 d;cases this
     rw[iq gS,U n1]
     refine m _ ⟨λh=>(n2 h).1,i2,?_⟩ w
     rcases k with⟨i,y,C,D⟩|j
     ·have E:∀s,s<=q->¬Xw R s:=λs u d=>by
       by_cases h:s=q
       ·rw[h]at d;exact T d
       ·exact C g s W d
      exact .inl ⟨i,y,λh=>hi E (n2 h).2.2,λh=>P (S h) E⟩
     ·exact .inr j
    |true=>
     have d:=c2.1 O
     have⟨t,t1,t2⟩:=zcM (fu:=fu) d H hl hd hp M
     rw[ir gS,zb,U<|uu A W W q2]
     simp only
     rw[U t1]
     simp only
     by_cases z:b=0
     ·rw[iq z,U n1]
      exact m _ ⟨λh=>(n2 h).1,by show 0<=n+1;lia,.inr ⟨d,t2⟩⟩ w
     ·have j:Xw R b/\zgG R b out:=by
       rcases k with⟨i,_⟩|j
       ·exact wR i z
       ·exact j
      rw[ir z]
      split
      ·rw[U n1]
       exact m _ ⟨λh=>(n2 h).1,by show 0<=n+1;lia,.inr ⟨d,t2⟩⟩ w
      ·rw[U n1]
       exact m _ ⟨λh=>(n2 h).1,by show 0<=n+1;lia,.inr j⟩ w
   ·rw[ir hn]
    refine⟨_,O,b,out,O,?_⟩
    rcases k with⟨i,y,_⟩|j
    ·lia
    ·exact .inr j
  ·rw[ir g]
   refine⟨_,O,b,out,O,?_⟩
   rcases k with⟨i,y,C,D⟩|j
   ·exact .inl ⟨i,D g⟩
   ·exact .inr j) fu (0,0,[],2,0) ⟨λ_=>zaw,xfy 0,.inl ⟨O,O,λ_ q v d=>by have:=(zz d.1).1;simp only at v;lia,λh=>wR O h⟩⟩ (by
   show(if(0:J)=0 then((65522:J)-2).toNat else 0)<fu
   rw[iq O]
   lia)
 refine⟨p,l,?_,Q⟩;unfold V7;have⟨r,r1,r2,Y,V⟩:=aY (fu:=fu) (q:=1) gS gS W;have:r=2:=by
  by_cases h:r=2
  ·exact h
  ·have h5:=(zz r2).1;have:=V 2 gS W;rw[zaw]at this;cases this
 subst this;rw[U r1];simp only;rw[U u]
end
section
variable{fu K Y:wr}{a b R:xS Zr}
theorem zaY(f g:wr->J):∀n,tV f g n= -1\/tV f g n=0\/tV f g n=1
 |0=> .inr (.inl O)
 |n+1=>by
  unfold tV;split
  ·exact zaY f g n
  ·lia
theorem BJ(a b:N M):qi a b= -1\/qi a b=0\/qi a b=1:=by grind [qi,zaY]
theorem Ai(f:yH K a)(g:yH K b)(k:zQ a=a)(l:zQ b=b)(p:K<=40000)(hd:X a<=1000)(q:X b<=1000)(d:3000000<=fu):YD fu a b=Z (decide<|qi a b<0):=by
 unfold YD;rw[U<|zI f W W d,U<|zI g W W d,show wk (X a) (G a)=a from k,show wk (X b) (G b)=b from l];have hc:qi a b=if X a=X b then tV (G a) (G b) (X a) else if X a<X b then-1 else 1:=O;by_cases hl:X a=X b
 ·rw[iq hl]at hc;rw[zT,zb,U (v:=if qi a b=0 then Sum.inl ()else Sum.inr (decide<|qi a b<0))]
  ·obtain h|h|h:=BJ a b<;>rw[h]<;>rfl
  ·rw[hc];refine zA (λs:J=>∃n:wr,s=(n:J)-1/\n<=X a/\tV (G a) (G b) n=tV (G a) (G b) (X a)) (λs=>(s+1).toNat) _ ?_ _ _ ⟨X a,O,Nm _,O⟩ (by show((X a:J)-1+1).toNat<fu;lia);rintro s L ⟨n,rfl,hn,c⟩ m;unfold cU
   cases n with
   |zero=>
    rw[zB,<-c];rfl
   |succ n=>
    have o:=f.get n;have ob:=g.get n;rw[(W:((n+1:wr):J)-1=(n:J)),zT,zY,zf,zY,zf,U<|ZC (U7.of o W) (U7.of ob W) d,Z8,Z8];rw[show tV (G a) (G b) (n+1)=if G a n=G b n then tV (G a) (G b) n else if G a n<G b n then-1 else 1 from O]at c;by_cases e:G a n=G b n
    ·rw[iq e]at c;rw[iq<|xi.2 e,zb];exact m _ ⟨n,O,W,c⟩ W
    ·rw[ir e]at c;rw[ir λh=>e<|xi.1 h];unfold jt;by_cases i:G a n<G b n
     ·rw[iq i]at c⊢;rw[<-c,iq gS];rfl
     ·rw[ir i]at c⊢;rw[iq (W:G b n<G a n),<-c,ir gS];rfl
 ·rw[ir hl]at hc;rw[zB,hc];by_cases j:X a<X b
  ·rw[iq j,zT];rfl
  ·rw[ir j,zB];rfl
theorem oq(c:yH K a)(d:yH K b)(e:zQ a=a)(f:zQ b=b)(g:K<=40000)(hc:X a<=1000)(hd:X b<=1000)(h:3000000<=fu):jA fu a b=Z (qi a b):=by grind [jA,U,Ai,kG,BJ]
def zhR:Od3 qi Gd:=⟨λx y z _ _ _ h1 d e=>by
 have f:=Bw (a:=x) (b:=y) (c:=z) (by have:=kG x y;lia) (by have:=kG y z;lia);have:=kG x z;lia,λx y _ _ h1 d=>by
 have:=kG x y;lia⟩
def BdY(R:N M)(Y:wr):Prop:=∃r:wr,Y=(r+1)*2^(X R-1)/\(r:J)*r<pQ (G R) (X R)/\pQ (G R) (X R)<=((r:J)+1)*(r+1)
theorem zeX(c:zQ R=R)(e:yH K R)(f:K<=300)(h0:nZ R=0)(g:3000000<=fu):∃Y,ve fu R=Z (yp (Y:wr),0)/\BdY R Y:=by
 have d:=AR h0;have hc:=YX (show R=wk (X R) (G R)from c.symm) (by rw[c]at d;lia);have⟨y,h1,h⟩:=aL e f (by rw[c]at d;lia) g;obtain⟨r,rfl,i,j⟩:=h h0;rw[c]at h1 i j d;have hd:=LK (n:=X R) ⟨X R-1,W,hc⟩;refine⟨_,by rw[h1,h0],r,O,?_,?_⟩
 ·lia
 ·grind
def zm0{x y:wr}(h:x*x<=y*y):x<=y:=by
 refine xae λhn=> ?_;have:=xdL (W:y<x) (W:y<x);lia
theorem zoT{M:J}(l:0<X R)(c:Tp (G R) (X R-1))(hp:0<G R (X R-1))(g:BdY R Y)(m:2*((Y:J)*G R (X R-1))<M):Bdz M (G R):=λu v b fu hv e j=>by
 obtain⟨r,rfl,_,h⟩:=g;have⟨i,_⟩:=kT c.nz e;have⟨a,d⟩:=Tp.ex fu i;have hc:a+b=X R-1:=by
  have:=d.mul hv;rw[<-e]at this;exact this.uniq c
 have k:(v b*u j).natAbs<=(r+1)*2^(X R-1):=by
  refine zm0 ?_;have n:((v b*u j).natAbs*(v b*u j).natAbs:wr)=(v b*u j*(v b*u j)).natAbs:=(xcC _ _).symm;have o:(((r+1)*2^(X R-1)*((r+1)*2^(X R-1)):wr):J)=4^(X R-1)*(((r:J)+1)*(r+1)):=by
   have:(4:J)^(X R-1)=2^(X R-1)*2^(X R-1):=by rw[(gS:(4:J)=2*2),Int.mul_pow]
   grind
  have h0:=Yi<|v b*u j;have p:v b*u j*(v b*u j)<=4^(X R-1)*(((r:J)+1)*(r+1)):=by
   have f:=mig d hv e j;rw[hc,(W:X R-1+1=X R)]at f;exact Int.le_trans f<|xaV h<|xfA gS
  lia
 have q:(((r+1)*2^(X R-1):wr):J)*1<=(((r+1)*2^(X R-1):wr):J)*G R (X R-1):=xaV W W;lia
theorem ze6(k:zQ R=R)(e:yH K R)(l:K<=300)(hl:0<X R)(hc:X R<=65)(i:ve fu R=Z (yp (Y:wr),0))(f:Bz 1000 (Y:J))(d:3000000<=fu):V8 fu R=Z (decide<|1000<bl (2*((Y:J)*G R (X R-1))).natAbs):=by
 have b2:Bz 1 2:=by unfold Bz;decide
 have ob:=e.get<|X R-1;have j:=e.bz<|X R-1;have g:=f.mul j;have c:=b2.mul g;unfold V8;rw[U i];simp only;rw[U<|ym gS d,(W:(X R:J)-1=((X R-1:wr):J)),zb,zY,zf,U<|yv (f.ok gS) (U7.of ob W) d,zn,Z8,U<|yv (b2.ok gS) (g.ok W) d,zn,zn,U<|WC (yG _) (by have:=c.len;lia) (by have:=c.len;lia),show nv (yp<|2*((Y:J)*G R (X R-1))).2=(2*((Y:J)*G R (X R-1))).natAbs from yg _];by_cases h:1000<bl (2*((Y:J)*G R (X R-1))).natAbs
 ·grind
 ·grind
theorem zhS{n k:wr}(h:bl n<=k):n<2^k:=by grind [B7,xao,xav]
def zcd{p:J}(hp:vF p=wF)(y:zQ R=R)(l:yH K R)(z:K<=300)(hl:0<X R)(hi:X R<=65)(n:ve fu R=Z (yp (Y:wr),0))(hd:Bz 1000 (Y:J))(i:bl (2*((Y:J)*G R (X R-1))).natAbs<=1000)(c:3000000<=fu):
 ∃k:wr,Wa fu R p=Z (k:J)/\1<=k/\k<=1000/\2*((Y:J)*G R (X R-1))<p^k:=by
 have⟨A,B⟩:=zz hp;have⟨E,o⟩:∃E,E=1000:=⟨_,O⟩;have i:=zhS (k:=E) (by rw[o];exact i);have b2:Bz 1 2:=by unfold Bz;decide
 have ob:=l.get<|X R-1;have q:=l.bz<|X R-1;have m:=hd.mul q;have d:=b2.mul m;have t:Bz 1 p:=by unfold Bz;rw[Nat.pow_one];lia
 have⟨T,g⟩:∃T,T=2*((Y:J)*G R (X R-1)):=⟨_,O⟩;have u:∀k:wr,((2^k:wr):J)<=p^k:=λk=>by
  obtain⟨P,rfl⟩:=xaA (W:0<=p);have:=Nat.pow_le_pow_left (W:2<=P) k;have e:((P^k:wr):J)=(P:J)^k:=gT
  rw[<-e];lia
 obtain⟨r,v,k,rfl,k1,k2,w⟩:=ya (f:=VD fu p<|yp T) (λs:J×M=>∃k:wr,s=((k:J),yp<|p^k)/\1<=k/\k<=1000) (λs=>1000-s.1.toNat) (λr=>∃k:wr,r=(k:J)/\1<=k/\k<=1000/\T<p^k) (by
  rintro s L ⟨k,rfl,k1,k2⟩ x;unfold VD;simp only;have j:=sC hp k2;rw[U<|ZC (j.ok gS) ((g▸d).ok W) c (by have:=j.len;lia) (by have:=(g▸d:Bz _ T).len;lia),zn,zn];by_cases h:T<p^k
  ·have hc:jt (p^k) T=1:=by unfold jt;rw[zB,iq h]
   rw[hc,ir gS];exact⟨_,O,k,O,k1,k2,h⟩
  ·have C:k<1000:=by
    refine xae λhn=> ?_;obtain rfl:k=E:=W
    have:=u k;rw[<-g]at i;lia
   have hc:jt (p^k) T<=0:=by
    unfold jt;split
    ·decide
    ·first|decide|(rw[ir h];decide)
   rw[iq hc,U<|ym ⟨W,W⟩ c,U<|yv (j.ok gS) (t.ok gS) c,zn,zn,zb,<-xbY];exact x _ ⟨k+1,O,W,W⟩ (by show 1000-((k:J)+1).toNat<1000-(k:J).toNat;lia)) fu (1,yp p) ⟨1,by rw[xbY,xcl,xcY];rfl,W,W⟩ (by show 1000-(1:J).toNat<fu;lia)
 refine⟨k,?_,k1,k2,by rw[<-g];exact w⟩;unfold Wa;rw[U n];simp only;rw[U<|ym gS c,(W:(X R:J)-1=((X R-1:wr):J)),zb,zY,zf,U<|yv (hd.ok gS) (U7.of ob W) c,zn,Z8,U<|yv (b2.ok gS) (m.ok W) c,zn,zn,<-g,U<|ym ⟨W,W⟩ c,U v]
end
section
variable{R a:xS Zr}{fu K B:wr}{ds:xS wl}
def NP{R:N M->N J->Prop}:∀{us:N (N M)}{fs:N (N J)},DK R us fs->∃xs:N Lx,us=xs.map (·.1)/\fs=xs.map (·.2)/\∀x∈xs,R x.1 x.2
 |[],[],_=>⟨[],O,O,λ_ h=>wR h IR⟩
 |u::us,f::fs,h=>by
  have⟨xs,e1,b,c⟩:=NP h.2;refine⟨(u,f)::xs,by rw[e1];rfl,by rw[b];rfl,λx hx=> ?_⟩;obtain rfl|hx:=xaa.1 hx
  ·exact h.1
  ·simp_all
def zbQ(R:N M):Prop:=∃Y,BdY R Y/\1000<bl (2*((Y:J)*G R (X R-1))).natAbs
theorem BdY.uniq{Y f:wr}(h:BdY R Y)(g:BdY R f):Y=f:=by
 obtain⟨r,rfl,h1,b⟩:=h;obtain⟨s,rfl,g1,d⟩:=g;have c:∀{r s:wr}{S:J},r*r<S->S<=(s+1)*(s+1)->¬s<r:=λ{r s S} h1 b e=>by
  have:((s:J)+1)*(s+1)<=r*r:=Int.mul_le_mul W W W W;lia
 grind
def Ab(s:zQ R=R)(pm:Pm (G R))(ps:Po (G R))(E:yH K R)(hK:K<=200)(hl:X R<=11)(hd:Rl ds)(hV:X ds<=1000)(L:3000300<=fu):
 ∃l b,Qc fu R ds=Z (l,b)/\(b=wF↔X R<2\/(¬zbQ R/\∃p,Xw R p))/\(b=wF->(∀g∈l,Gd g)/\G R=prZ (l.map λg=>(G g:Pz))/\l.Pairwise (λa b=>qi a b<0)/\X l<=12):=by
 have hJ:X (zQ R)≠0:=λe=>by
  have⟨j,hj⟩:=pm.nz;exact hj<|ZP e j
 have M:=kR hJ;rw[s]at hJ M;have hB:0<G R (X R-1):=by
  have⟨m,m1,m2⟩:=ps.tp;rw[<-m1.uniq M];exact m2
 unfold Qc;by_cases h2:X R<2
 ·rw[zT];refine⟨[],wF,O,⟨λ_=> .inl h2,λ_=>O⟩,λ_=>⟨λg u=>wR u IR,?_,xft,xai _⟩⟩;have⟨d,hd⟩:=((KC.tp M).2 W).ex;have z:G R (X R-1)=d:=by rw[hd,(W:X R-1=0)];exact iq O
  rw[hd]at pm;obtain e|e:=DT pm
  ·rw[hd,e];rfl
  ·lia
 ·have h0:nZ R=0:=by unfold nZ;rw[s,zB,zB]
  have⟨Y,hY,T⟩:=zeX (fu:=fu) s E W h0 W;have hM:Bz 1000 (Y:J):=by
   obtain⟨r,rfl,z,N⟩:=T;have h5:=zfK (K:=K) (f:=G R) E.bz (X R) W;have V:Bz 401 (r:J):=by
    refine Bz.nat ?_;refine xaK (show r<=r*r from Nat.le_mul_self r) ?_;have h7:((r*r:wr):J)=(r:J)*r:=gT
    have h8:=h5.mono (W:K+K+1<=401);unfold Bz at h8;lia
   have h9:Bz 402 (((r+1:wr):J)):=(V.add<|Bz.one' (k:=401) gS).le W;have hW:Bz 1 (((2^(X R-1):wr):J)):=Bz.nat (by
    rw[Nat.pow_one];exact xaK (xav gS (W:X R-1<=10)) gS)
   have:=(h9.mul hW).mono (gS:402+1<=1000);rwa[<-xfS]at this
  have hN:zbQ R↔1000<bl (2*((Y:J)*G R (X R-1))).natAbs:=⟨λ⟨o,z1,z2⟩=>by rw[T.uniq z1];exact z2,λh=>⟨Y,T,h⟩⟩;rw[zB,U<|ze6 s E W W W hY hM W];by_cases u:1000<bl (2*((Y:J)*G R (X R-1))).natAbs
  ·rw[Z3 u,iq O];refine⟨[],I,O,⟨λh=>wR h gS,λh=> ?_⟩,λh=>wR h gS⟩;obtain h|h:=h
   ·exact wR h h2
   ·exact wR (hN.2 u) h.1
  ·rw[uT u,ir gS];have⟨p,l,e1,hQ⟩:=AL (fu:=fu) s E W h0 W W hd hV W;rw[U e1];simp only;rcases hQ with⟨hX,hZ⟩|⟨hE,D⟩
   ·rw[iq hX];refine⟨[],I,O,⟨λh=>wR h gS,λh=> ?_⟩,λh=>wR h gS⟩;obtain h|⟨_,q,hq⟩:=h
    ·exact wR h h2
    ·exact wR hq<|hZ q
   ·have⟨hp,P,hc⟩:=hE;have⟨p1,p2⟩:=zz hp;have⟨k,e2,k1,k2,k3⟩:=zcd (fu:=fu) hp s E W W W hY hM (xbu u) W;have hO:oH p (k:J)=(yp<|p^k,0):=by
     unfold oH;rw[UT ⟨hp,W,W⟩,xbc]
    have h1:=D.ln;rw[zB,U e2,U (k9 W),hO];simp only;have h':Wu fu R l p=Z ([],R,l):=by
     unfold Wu;rw[U (v:=(R,l))];have⟨n,hn⟩:∃n,fu=n+1:=⟨fu-1,W⟩;have:zg (Vn fu p) (n+1) (R,l)=Z (R,l):=by
      rw[kf];unfold Vn;simp only;rw[zB]
     rw[<-hn]at this;exact this
    rw[U h'];simp only;have hz:=(nj (p:=p)).2 P;have hP:dj p (zQ R) l:=by
     rw[s];refine⟨W,hz,W,λi hi=> ?_,λi j hi hj=> ?_,?_⟩
     ·have Q:=FZ (l:=l) hi;refine⟨?_,(D.el _ Q).2.1⟩;have⟨q,fq,hq⟩:Di p (C<|l.getD i []) (G R):=Di.cg ((UK UQ<|xbI Q).mul _<|Fs.pc _) D.cg.symm;have hT:=(D.el _ Q).1.mn;have⟨x,H,b5⟩:=o7 hp P 1|>λ⟨x,H⟩=>(⟨x,H,O⟩:∃x,p^1∣x*G R (X R-1)-1/\XS=XS);by_cases a0:X (l.getD i [])<=X R
      ·exact a0
      ·exfalso;have z:=hT.mn.zero p1 fq λk hk=>by rw[<-hq k,M.2 k (by have:=hT.ln;lia),xas]
       have N:=(hq.trans<|z.mul_zero_r _)<|X R-1;rw[zJ,xas]at N;exact P N
     ·have z:=xdd.1 D.pw j i W hi hj;rw[H1,H1,xah hi,xah (W:j<X l)];exact z.symm
     ·refine(qH (p:=p) W _ _).ext (Qe W R) ((Ze p _ _).trans<|(Cg.mul (me p l) Cg.rfl).trans<|Cg.trans ?_ (fh p R).symm);rw[qV,zk];refine Cg.trans (Cg.mul (λj=> ?_) Cg.rfl) D.cg.symm;rw[JR];unfold F;split
      ·exact xaT _ _
      ·rfl
    have⟨us,e,e3,e4,e5⟩:=pY (fu:=fu) (p:=p) (k:=(k:J)) (a:=R) (fs:=l) (E.mono W) W W;have he:e=0:=by
     refine xae λhF=> ?_;have hr:=iJ (fu:=fu) (fs:=l) hp (E.mono (by lia:K<=250)) gS (by lia:X R<=66) W;have⟨bb,b1,b2⟩:=hr;rw[b2.2<|by rw[s]at hP;exact hP]at b1;have:=zdV (E.mono (by lia:K<=250)) W W W W e3;unfold zhs at this;rw[iq hp,s,zB,iq b1]at this;exact hF this
    have⟨hG,_⟩:=e4 he;rw[xbc]at hG;have a1:=hG.up;obtain⟨xs,rfl,rfl,H⟩:=NP a1;have hF:xs.map (·.2)≠[]:=λe=>by
     have z:=D.cg<|X R-1;rw[e,show prZ ([].map C)=F 1 from O,ye]at z;have N:F (G R<|X R-1) (X R-1)=0:=zB;rw[N,xas]at z;exact P z
    have hU:=hG.cg hF;rw[s,xdb]at hU;rw[xbd]at h1;have hC:Ch p k (G R) R xs [] 1:=by
     have hL:Lc p k (G R) (X R-1) xs:=⟨hp,k1,λx hH=>⟨H x hH,(D.el _<|xbI hH).1,(D.el _<|xbI hH).2.2⟩,(xeq (R:=λa b=>jF p (C a)<|C b) (f:=λx:Lx=>x.2)).1 D.pw,M,W,hB,P,pm,hU⟩;exact⟨hL,k2,s,E.mono W,hl,zoT W M hB T k3,Ls.one hL,by rw[xbH];lia,(zw _).symm,λg u=>wR u IR⟩
    have⟨out,o1,o2,o3,o4⟩:=RE (fu:=fu) hC W;rw[zT,U e3];simp only;rw[U o1,xB (by simp only[xbH];lia),zf,xby];have⟨r,s1,s2,s3⟩:=LY (fu:=fu) (cmp:=λa2 a3=>jA fu a2 a3) (c:=qi) (S:=Gd) (λx y H hy=>oq H.ok hy.ok H.can hy.can gS (by have:=H.ln;lia) (by have:=hy.ln;lia) W) (t:=out) o3 W W;have hI:G R=prZ (r.map λg=>(G g:Pz)):=by rw[o4];exact PZ<|s2.symm.map _
    have hw:∀g∈r,Gd g:=λg u=>o3 g<|s2.mem_iff.1 u;rw[U s1];refine⟨r,wF,O,⟨λ_=> .inr ⟨λh=>u<|hN.1 h,p,hp,P,hc⟩,λ_=>O⟩,λ_=>⟨hw,hI,?_,by rw[s2.length_eq];lia⟩⟩;refine(xdr.2 λ{a b} hs=> ?_);have z:¬qi b a<0:=(xdr.1<|s3 zhR) hs;have ha:a∈r:=hs.subset gT;have hb:b∈r:=hs.subset gT;have N:=kG a b;by_cases h5:qi a b=0
    ·exfalso;have a4:=pT (hw a ha).can (hw b hb).can h5;subst a4;have⟨m,w,hS,Q⟩:=hC.lc.sf;have hD:=oO (p:=p) (hs.map λg=>(G g:Pz)) λf L=>by
      obtain⟨g,_,rfl⟩:=xat.1 L;exact Fs.cf g
     rw[<-hI]at hD;have a5:Di p ((G a:Pz)*G a) (C m):=by
      refine Di.trans ⟨F 1,Fs.pc 1,Cg.of ?_⟩<|hD.trans ⟨F w,Fs.pc w,Q⟩;show(G a:Pz)*(G a*F 1)=_;rw[ye,zw]
     have a9:=hw a ha;have b0:Zd (G a) (G R):=by
      rw[hI];have⟨A,B,e6⟩:=xeg ha;rw[e6,xaW,xcb,wi];refine Zd.mul _ (Fs.prZ λf L=> ?_)<|Zd.left<|Fs.prZ λf L=> ?_
      ·obtain⟨g,_,rfl⟩:=xat.1 L;exact Fs.cf g
      ·obtain⟨g,_,rfl⟩:=xat.1 L;exact Fs.cf g
     have⟨v,fv,hv⟩:=b0;have V:=hC.ls (G a) v (Fs.cf a) fv (by rw[hv,zk]) a9.ir.dg;have⟨x,b3⟩:∃x,x∈own p (G a) xs:=by
      cases b4:own p (G a) xs with
      |nil=>rw[b4]at V;exact wR V gS
      |cons x t=>exact⟨x,FS⟩
     have⟨h7,h8⟩:=U6.1 b3;exact hS.apart (Fs.cf a) (Fs.cf a) a5 (xbI h7) h8 h8
    ·lia
def Ah{q:N M}{m:wr}(x:yH K a)(T:K<=50)(l:Tp (G a) m)(V:m<=11)(hd:X a<=40)(y:∀j,Bb B<|G a j)(Y:B<=3000)(d:Gd q)(z:yH 50 q)(A:3000000<=fu):
 ∃n:wr,YE fu a q=Z (n:J)/\n<=11/\Mu (G q) (G a) n:=by
 have hc:X (zQ q)≠0:=λe=>by
  have⟨j,C⟩:=d.ir.pm.nz;exact C<|ZP e j
 have o:=kR hc;rw[d.can]at o;have hl:=d.ln;have ho:1<=X q-1:=by refine xae λh=>d.ir.dg<|(KC.tp o).2 W
 have fp:=λn=>d.ir.fs.pp n;have one:∀(t:N M) (n:wr),yH 60 t->X t<=40->G a=(G t:S)*pp (G q) n->∃b e,xR fu t q=Z (b,e)/\(e=0->yH 60 b/\X b<=40/\G a=(G b:S)*pp (G q) (n+1))/\(e≠0->Mu (G q) (G a) n):=λt n o1 l1 e1=>by
  have⟨b,e,d1,d2,d3⟩:=QN (fu:=fu) o1 z (by have:=xan (50+1) (W:X t+1<=41);lia) W W hc A;refine⟨b,e,d1,λc=> ?_,λc=>⟨G t,Fs.cf t,e1,λD=>c<|d2.2 D⟩⟩;have⟨f1,f2,f3⟩:=d3 c;have v:G a=(G b:S)*pp (G q) (n+1):=by
   rw[e1,f1,zd];show _=_*(pp (G q) n*G q);rw[zk<|pp (G q) n]
  refine⟨?_,W,v⟩;rw[<-f2];exact yN λj=>(sL l (Fs.cf b) (fp _) v W y j).bz W
 have⟨q1,w,c1,c2,E⟩:=one a 0 (x.mono W) hd (ye _).symm;have p:∀{t:N M}{n:wr},G a=(G t:S)*pp (G q) n->n<=m:=λ{t n} e=>by
  have⟨H,np⟩:=kT l.nz e;have⟨i,hi⟩:=Tp.ex (Fs.cf t) H;have P:∀n,Tp (pp (G q) n) (n*(X q-1)):=λn=>by
   induction n with
   |zero=>rw[xcu];exact⟨show F 1 0≠0 by decide,λk hk=>by show F 1 k=0;unfold F;rw[zB]⟩
   |succ n g=>rw[xbb,xcy];exact g.mul o
  have h1:=hi.mul<|P n;rw[<-e]at h1;have u:=h1.uniq l;have h3:=xcf n (W:0<X q-1);lia
 obtain⟨s,Q,n,rfl,n1,n2⟩:=ya (f:=Jk fu q) (λs:J×N M×J=>∃n:wr,s.1=(n:J)/\(s.2.2=0->yH 60 s.2.1/\X s.2.1<=40/\G a=(G s.2.1:S)*pp (G q) (n+1))/\(s.2.2≠0->n<=11/\Mu (G q) (G a) n)) (λs=>if s.2.2=0 then 20-s.1.toNat else 0) (λr=>∃n:wr,r=(n:J)/\n<=11/\Mu (G q) (G a) n) (by
  rintro⟨i,t,e⟩ L ⟨n,hn,h1,u⟩ g;simp only at hn h1 u g;subst hn;unfold Jk;simp only;by_cases c:e=0
  ·have⟨o1,l1,e1⟩:=h1 c;have hp:=p e1;have⟨b,e',d1,d2,d3⟩:=one t (n+1) o1 l1 e1;rw[iq c,zb,U d1];refine g _ ⟨n+1,by show(n:J)+1=((n+1:wr):J);lia,d2,λh=>⟨W,d3 h⟩⟩ ?_;rw[iq c];split
   ·show 20-((n:J)+1).toNat<20-(n:J).toNat;lia
   ·show 0<20-(n:J).toNat;lia
  ·rw[ir c];exact⟨_,O,n,O,u c⟩) fu (0,q1,w) ⟨0,O,c2,λh=>⟨W,E h⟩⟩ (by
  show(if w=0 then 20-(0:J).toNat else 0)<fu;split<;>lia)
 refine⟨n,?_,n1,n2⟩;unfold YE;rw[U c1];simp only;rw[U Q]
def RV(R:N M):Prop:=X R<2\/(¬zbQ R/\∃p,Xw R p)
def zlP(h:Rad a R):Zd (G R) (G a):=by
 have⟨g,b,e⟩:=h.dv;rw[<-K0 a,e];exact(Zd.left b).mul _<|Fs.pc _
theorem lX(b:yH K a)(c:K<=40000)(hl:X a<=1000000)(h0:nZ a≠0)(d:3000000<=fu):xc fu a ds=Z ((I,[]),[],nZ a):=by grind [xc,U,iR]
def pj(w:yH K a)(S:K<=50)(hl:X a<=40)(h0:nZ a=0)(ht:X (zQ a)<=11)(y:∀j,Bb B<|G a j)(T:B<=3000)(r1:xU fu a=Z (R,0))(r2:Rad a R)(V:∀j,Bb (B+X (zQ a)+4)<|G R j)(hd:Rl ds)(Y:X ds<=1000)(d:3000300<=fu):
 (RV R/\∃l,xc fu a ds=Z (yp<|yn a,l,0)/\FL (G a) l/\X l<=12/\∀x∈l,Gd x.1/\x.2<=11)\/
  (¬RV R/\xc fu a ds=Z ((I,[]),[],6)):=by
 have hr:=AR h0;have z:=kR (a:=a) W;have oR:yH 50 R:=by rw[<-r2.can];exact yN λj=>(V j).bz W
 have⟨l,b,C,E,s3⟩:=Ab (fu:=fu) r2.can r2.pm r2.ps oR gS (by have:=r2.ln;lia) hd Y d
 cases b with
 |false=>
  refine .inr ⟨λh=>(by have:=E.2 h;cases this),?_⟩;unfold xc;rw[U r1];simp only[uL];rw[U C];rfl
 |true=>
  have⟨g1,H,g3,g4⟩:=s3 O;refine .inl ⟨E.1 O,?_⟩;have P:∀q∈l,Zd (G q) (G a):=λq c=>by
   refine Zd.trans ?_<|zlP r2;rw[H];have⟨A,D,e6⟩:=xeg c;rw[e6,xaW,xcb,wi];refine Zd.mul _ (Fs.prZ λf d=> ?_)<|Zd.left<|Fs.prZ λf d=> ?_
   ·obtain⟨g,_,rfl⟩:=xat.1 d;exact Fs.cf g
   ·obtain⟨g,_,rfl⟩:=xat.1 d;exact Fs.cf g
  have hk:∀q∈l,∃n:wr,YE fu a q=Z (n:J)/\n<=11/\Mu (G q) (G a) n:=λq c=>by
   have k:=g1 q c;refine Ah w S z W hl y T k ?_ W;have⟨u,m,e⟩:=P q c;rw[<-k.can];exact yN λj=>(sL z (Fs.cf q) m (by rw[e,zk]) W y j).bz W
  obtain⟨s,hs,out,rfl,o1,o2⟩:=ya (f:=X3 fu a l) (λs:N (N M×J)×J×M×N (N M)=>∃(i:wr) (out:N (N M×J)),s=(out,(i:J),(I,[]),l)/\i<=X l/\out.map (·.1)=l.take i/\∀x∈out,∃n:wr,x.2=(n:J)/\n<=11/\Mu (G x.1) (G a) n) (λs=>X l-s.2.1.toNat)
   (λr=>∃out:N (N M×J),r=(out,(I,[]))/\out.map (·.1)=l/\∀x∈out,∃n:wr,x.2=(n:J)/\n<=11/\Mu (G x.1) (G a) n) (by
   rintro s L ⟨i,out,rfl,hi,h1,p⟩ ih
   unfold X3
   simp only
   by_cases hc:i<X l
   ·have hm:l.getD i []∈l:=by
     rw[H1,xah hc];exact xbE hc
    have⟨n,n1,n2,o⟩:=hk _ hm
    have hv:X out=i:=by
     have:=kW xaF h1;rw[xbd,xax]at this;lia
    rw[zT,U O]
    simp only[uL]
    rw[zo hc,zf,U n1,xB (by simp only[xau,xbH];lia),zf,zb]
    refine ih _ ⟨i+1,_,O,W,?_,λx hx=> ?_⟩ (by show X l-((i:J)+1).toNat<X l-(i:J).toNat;lia)
    ·rw[xaW,h1,xeL,xah hc,H1,xah hc]
     rfl
    ·obtain hx|hx:=So.1 hx
     ·exact p x hx
     ·obtain rfl:=xad.1 hx
      exact⟨n,O,n2,o⟩
   ·rw[zB,U O]
    simp only[xak,ut]
    obtain rfl:i=X l:=W
    rw[xcw]at h1
    exact⟨_,O,out,O,h1,p⟩) fu ([],0,(I,[]),l) ⟨0,[],O,xai _,by rw[List.take_zero];rfl,λx hx=>wR hx IR⟩ (by show X l-(0:J).toNat<fu;lia)
  have v:∀x∈out,x.1∈l:=λx hx=>by rw[<-o1];exact xbI hx
  refine⟨out,?_,⟨λx hx=> ?_,λq c pq hz=> ?_,?_⟩,?_,λx hx=>⟨g1 _<|v x hx,?_⟩⟩
  ·unfold xc;rw[U r1];simp only[uL];rw[U C];simp only;rw[ir gS,U hs];simp only;rw[U<|jS w]
  ·have k:=g1 _<|v x hx;have⟨n,n1,n2,o⟩:=o2 x hx;refine⟨k.can,k.ir,k.ps,?_,by rw[n1,xbc];exact o⟩;by_cases hn:n=0
   ·exfalso;subst hn;have⟨u,m,e,Q⟩:=o;rw[show pp (G x.1) 0=F 1 from O,ye]at e;rw[<-e]at Q;exact Q<|P _<|v x hx
   ·lia
  ·have h1:=r2.al q c hz;rw[H]at h1;have⟨f,hp,p⟩:=c.prz (λf d=>by obtain⟨g,_,rfl⟩:=xat.1 d;exact Fs.cf g) h1;obtain⟨g,t,rfl⟩:=xat.1 hp;have e:=c.eq (g1 g t).ir pq (g1 g t).ps p;rw[<-o1]at t;obtain⟨x,hx,rfl⟩:=xat.1 t;exact⟨x,hx,e.symm⟩
  ·have:=g3;rw[<-o1]at this;exact xeq.1 this
  ·have:=kW xaF o1;rw[xbd]at this;lia
  ·have⟨n,n1,n2,o⟩:=o2 x hx;lia
def nX(b:yH K a)(e:K<=50)(hl:X a<=40)(h0:nZ a=0)(hc:X (zQ a)<=11)(c:∀j,Bb B<|G a j)(f:B<=3000)(g:(B+7)*KR (X (zQ a)-1)<=639000)(h:(B+7)*KR (X (zQ a))<=2400000)(hd:Rl ds)(i:X ds<=1000)(k:3000300<=fu):
 ∃R,xU fu a=Z (R,0)/\Rad a R/\(∀j,Bb (B+X (zQ a)+4)<|G R j)/\
  ((RV R/\∃l,xc fu a ds=Z (yp<|yn a,l,0)/\FL (G a) l/\X l<=12/\∀x∈l,Gd x.1/\x.2<=11)\/
   (¬RV R/\xc fu a ds=Z ((I,[]),[],6))):=by
 have⟨R,r1,r2,d⟩:=nD (fu:=fu) b W hl h0 c W g h W;exact⟨R,r1,r2,d,pj b e hl h0 hc c f r1 r2 d hd i k⟩
end
def zeA{R:N M}{b:K}(hl:X R<=11)(p:b<=400)(a:∀j,Bb b<|G R j):¬zbQ R:=λ⟨Y,⟨r,g,h1,_⟩,c⟩=>by
 have⟨E,q⟩:∃E,E=1000:=⟨_,O⟩;have d:∀k,G R k*G R k<=(2^b:J)*2^b:=λk=>by
  have:=a k;unfold Bb at this;have c:(G R k*G R k)=(((G R k).natAbs*(G R k).natAbs:K):J):=by simp_all
  rw[c];have d:=xbo (xda this)<|xda this;grind
 have h:=SG d (X R);have s:r<4*2^b:=by
  refine zez ?_;have e1:((r*r:K):J)=(r:J)*r:=gT
  have i:((2:J)^b*2^b)=((2^b*2^b:K):J):=gT
  have l:4*2^b*(4*2^b)=16*(2^b*2^b):=by grind
  rw[l];rw[i]at h;generalize 2^b*2^b=Q at*
  have f:(X R:J)*(Q:J)<=11*(Q:J):=xbx W W;lia
 have f:(2*((Y:J)*G R (X R-1))).natAbs<2^E:=by
  rw[xcC,xcC,xbh,g];have t:=a<|X R-1;unfold Bb at t;have m:(r+1)*2^(X R-1)<=4*2^b*2^10:=xbo W (xav gS W);have n:=xbo m<|xda t;have o:=xaD 2 n;refine xaK o ?_;have e:2*(4*2^b*2^10*2^b)=2^(b+b+13):=by
   rw[xbz,xbz,(gS:(2:K)^13=2*4*2^10)];generalize(2:K)^b=Q;generalize(2:K)^10=T;grind
  rw[e];exact xeP gS W
 have:=JD f;lia
def FL.one{q:N M}(a:Gd q):FL (G q) [(q,1)]:=⟨λx b=>by
 obtain rfl:=xad.1 b;refine⟨a.can,a.ir,a.ps,xfy 1,?_⟩;have:=Mu.self a.ir 1;have e:pp (G q:S) 1=G q:=zw _;rwa[e]at this,λr c pr d=>⟨(q,1),xad.2 O,(c.eq a.ir pr a.ps d).symm⟩,xfl _ _⟩
def zmo:Rl []:=λk=>by
 rw[yh<|xai k];lia
section
variable{q:xS Zr}{l:xS (xS Zr×wl)}{f:Pz}
def FL.num{c:J}(hc:c≠0):FL (F c) []:=
 ⟨λx b=>wR b IR,λq a e d=>wR (Zd.pm a.fs a.pm hc<|by rw[ye];exact d) a.one,xft⟩
def Kt(q:N M)(n:J):N (N M×J)->N (N M×J)
 |[]=>[(q,n)]
 |x::l=>if qi x.1 q<0 then x::Kt q n l else if x.1=q then(x.1,x.2+n)::l else(q,n)::x::l
theorem mJ{q:N M}{n:J}:∀{l:N (N M×J)}{y},y∈Kt q n l->y∈l\/y.1=q
 |[],y,h=> .inr<|by rw[xad.1 h]
 |x::l,y,h=>by
  unfold Kt at h;split at h
  ·obtain rfl|h:=xaa.1 h
   ·simp_all
   ·obtain h|h:=mJ h
    ·simp_all
    ·grind
  ·grind
theorem Gg{q:N M}{n:J}:∀{l:N (N M×J)}{x},x∈l->x.1≠q->x∈Kt q n l
 |y::l,x,h,a=>by
  unfold Kt;split
  ·obtain rfl|h:=xaa.1 h
   ·simp_all
   ·exact UV _<|Gg h a
  ·grind
theorem Cb{q:N M}{n:J}:∀{l:N (N M×J)},X (Kt q n l)<=X l+1
 |[]=>Nm _
 |x::l=>by
  unfold Kt;split
  ·exact Nat.succ_le_succ Cb
  ·grind
theorem zjB{z:N M}{n:J}(h:∀x∈l,qi z x.1<0)(b:qi z q<0):∀x∈Kt q n l,qi z x.1<0:=λx a=>by
 obtain h1|h1:=mJ a
 ·grind
 ·simp_all
def zbi{q:N M}{n:J}(cq:zQ q=q):∀{l:N (N M×J)},(∀x∈l,zQ x.1=x.1)->l.Pairwise (λx y=>qi x.1 y.1<0)->(Kt q n l).Pairwise λx y=>qi x.1 y.1<0
 |[],_,_=>xfl _ _
 |x::l,hc,h=>by
  rw[xbQ]at h;unfold Kt;split
  ·rename_i a;exact xbQ.2 ⟨zjB h.1 a,zbi cq (λy hy=>hc y<|UV _ hy) h.2⟩
  ·split
   ·exact xbQ.2 h
   ·rename_i h1 c;have d:qi q x.1<0:=by
     have g:=kG x.1 q;have i:qi x.1 q≠0:=λe=>c<|pT (hc x<|FS) cq e;lia
    refine xbQ.2 ⟨λy hy=> ?_,xbQ.2 h⟩;show qi q y.1<0;obtain rfl|hy:=xaa.1 hy
    ·exact d
    ·have g:=h.1 y hy;have i:qi q y.1<=0:=Bw (b:=x.1) W W;have j:qi q y.1≠0:=λe=>by
      have k:=pT cq (hc y<|UV _ hy) e;simp_all
     lia
theorem zat{q:N M}{n:J}(cq:zQ q=q):∀{l:N (N M×J)},(∀x∈l,zQ x.1=x.1)->l.Pairwise (λx y=>qi x.1 y.1<0)->∀y∈Kt q n l,y.1=q->(∃x∈l,x.1=q/\y.2=x.2+n)\/(y.2=n/\∀x∈l,x.1≠q)
 |[],_,_,y,hy,_=>by
  obtain rfl:=xad.1 hy;simp_all
 |x::l,hc,h,y,hy,e=>by
  have h0:=h;rw[xbQ]at h;have b:qi q q=0:=by have:=kG q q;lia
  unfold Kt at hy;split at hy
  ·rename_i hd;have i:x.1≠q:=λe=>by rw[e]at hd;lia
   obtain rfl|hy:=xaa.1 hy
   ·simp_all
   ·rcases zat cq (λy hy=>hc y<|UV _ hy) h.2 y hy e with⟨z,hz,h1,a⟩|⟨h1,a⟩
    ·grind
    ·refine .inr ⟨h1,λz hz=> ?_⟩;obtain rfl|hz:=xaa.1 hz
     ·exact i
     ·exact a z hz
  ·split at hy
   ·rename_i _ c;obtain rfl|hy:=xaa.1 hy
    ·exact .inl ⟨x,FS,c,O⟩
    ·exfalso;have:=h.1 y hy;rw[e,c]at this;lia
   ·rename_i h1 a;have d:∀z∈x::l,z.1≠q:=λz hz g=>by
     obtain rfl|hz:=xaa.1 hz
     ·exact a g
     ·have:=h.1 z hz;rw[g]at this;exact h1 this
    obtain rfl|hy:=xaa.1 hy
    ·exact .inr ⟨O,d⟩
    ·exact wR e<|d y hy
theorem B8{q:N M}{n:J}:∀{l:N (N M×J)},∃y∈Kt q n l,y.1=q
 |[]=>⟨_,FS,O⟩
 |x::l=>by
  unfold Kt;split
  ·have⟨y,a,e⟩:=B8 (q:=q) (n:=n) (l:=l);grind
  ·split
   ·simp_all
   ·simp_all
theorem FL.put{n:K}(h:FL f l)(t:Fs f)(cq:zQ q=q)(a:Ir (G q))(p:Po (G q))(hn:1<=n):FL (f*pp (G q) n) (Kt q (n:J) l):=by
 have hc:=λx b=>(h.el x b).1;refine⟨λy c=> ?_,λr g pr d=> ?_,zbi cq hc h.so⟩
 ·by_cases e:y.1=q
  ·rw[e];rcases zat cq hc h.so y c e with⟨x,b,h1,i⟩|⟨h1,i⟩
   ·have⟨_,_,_,u,j⟩:=h.el x b;rw[h1]at j;have:=j.mul a<|Mu.self a n;grind
   ·have w:¬Zd (G q) f:=λd=>by
     have⟨x,b,m⟩:=h.al _ a p d;exact i x b<|Jy (hc x b) cq λk=>Wf m k
    have:=(Mu.zero t w).mul a<|Mu.self a n;grind
  ·obtain h1|h1:=mJ c
   ·have⟨g1,o,v,u,j⟩:=h.el y h1;refine⟨g1,o,v,u,?_⟩;have i:¬Zd (G y.1) (pp (G q) n):=λd=>e<|Jy g1 cq λk=>Wf (o.eq a v p<|o.pp a.fs n d) k;exact j.mul o<|Mu.zero (a.fs.pp n) i
   ·exact wR h1 e
 ·rcases g.prime t (a.fs.pp n) d with h1|h1
  ·have⟨x,b,e⟩:=h.al r g pr h1;by_cases m:x.1=q
   ·have⟨y,c,s⟩:=B8 (q:=q) (n:=(n:J)) (l:=l);exact⟨y,c,by rw[s,<-m];exact e⟩
   ·exact⟨x,Gg b m,e⟩
  ·have e:=g.eq a pr p<|g.pp a.fs n h1;have⟨y,c,s⟩:=B8 (q:=q) (n:=(n:J)) (l:=l);exact⟨y,c,by rw[s];exact e.symm⟩
def zn8(l:N (N M×J)):S:=prM<|l.map λx=>((G x.1:S),x.2.toNat)
def FL.prod(h:FL f l)(d:Fs f)(g:Nz f):∃c,c≠0/\f=F c*zn8 l:=by
 refine ziJ d g ?_ (λx b=> ?_) λq i j m=> ?_
 ·refine xeq.2<|h.so.imp_of_mem λ{x y} b a h1 e=> ?_;have:=Jy (h.el x b).1 (h.el y a).1 λk=>Wf e k;rw[this]at h1;have:=kG y.1 y.1;lia
 ·obtain⟨y,a,rfl⟩:=xat.1 b;have⟨_,n,o,_,p⟩:=h.el y a;simp_all
 ·have⟨y,a,e⟩:=h.al q i j m;exact⟨_,xbI a,e⟩
end
section
variable{fu:wr}{l:xS (xS Zr×wl)}{q:xS Zr}
def Ad{K:wr}{a b:N M}(f:yH K a)(g:yH K b)(k:zQ a=a)(m:zQ b=b)(r:K<=40000)(hd:X a<=1000)(t:X b<=1000)(d:3000000<=fu):Qk fu a b=Z (decide<|qi a b<0):=by
 unfold Qk;rw[U<|y9 f W W d,U<|y9 g W W d,show wk (X a) (G a)=a from k,show wk (X b) (G b)=b from m];have hc:qi a b=if X a=X b then tV (G a) (G b) (X a) else if X a<X b then-1 else 1:=O;by_cases hl:X a=X b
 ·rw[iq hl]at hc;rw[zT,zb,U (v:=if qi a b=0 then Sum.inl ()else Sum.inr (decide<|qi a b<0))]
  ·obtain h|h|h:=BJ a b<;>rw[h]<;>rfl
  ·rw[hc];refine zA (λs:J=>∃n:wr,s=(n:J)-1/\n<=X a/\tV (G a) (G b) n=tV (G a) (G b) (X a)) (λs=>(s+1).toNat) _ ?_ _ _ ⟨X a,O,Nm _,O⟩ (by show((X a:J)-1+1).toNat<fu;lia);rintro s L ⟨n,rfl,hn,c⟩ o;unfold cy
   cases n with
   |zero=>
    rw[zB,<-c];rfl
   |succ n=>
    have p:=f.get n;have ob:=g.get n;rw[(W:((n+1:wr):J)-1=(n:J)),zT,zY,zf,zY,zf,U (Ee (U7.of p W) (U7.of ob W) d W W),Z8,Z8];rw[show tV (G a) (G b) (n+1)=if G a n=G b n then tV (G a) (G b) n else if G a n<G b n then-1 else 1 from O]at c;by_cases e:G a n=G b n
    ·rw[iq e]at c;rw[iq<|xi.2 e,zb];exact o _ ⟨n,O,W,c⟩ W
    ·rw[ir e]at c;rw[ir λh=>e<|xi.1 h];unfold jt;by_cases i:G a n<G b n
     ·rw[iq i]at c⊢;rw[<-c,iq gS];rfl
     ·rw[ir i]at c⊢;rw[iq (W:G b n<G a n),<-c,ir gS];rfl
 ·rw[ir hl]at hc;rw[zB,hc];by_cases j:X a<X b
  ·rw[iq j,zT];rfl
  ·rw[ir j,zB];rfl
theorem sy{i:K}(h:i<X l):l.getD i ([],0)∈l:=by grind
def Gl(l:N (N M×J)):Prop:=X l<=1000/\∀x∈l,Gd x.1
def Js(q:N M):N (N M×J)->K
 |[]=>0
 |x::l=>if qi x.1 q<0 then Js q l+1 else 0
def za3(q:N M):∀l,Js q l<=X l
 |[]=>Nm _
 |x::l=>by
  unfold Js;split
  ·exact Nat.succ_le_succ<|za3 q l
  ·lia
def za2{q:N M}:∀{l:N (N M×J)}{j:K},j<Js q l->qi (l.getD j ([],0)).1 q<0
 |[],j,h=>wR h<|xbn _
 |x::l,j,h=>by
  unfold Js at h;split at h
  ·rename_i h1
   cases j with
   |zero=>exact h1
   |succ j=>exact za2 (l:=l) W
  ·lia
theorem zax{q:N M}:∀{l:N (N M×J)},Js q l<X l->¬qi (l.getD (Js q l) ([],0)).1 q<0
 |[],h=>wR h<|xbn _
 |x::l,h=>by
  unfold Js at h⊢;split at h
  ·rename_i h1;rw[iq h1];exact zax (l:=l)<|by simpa using h
  ·grind
theorem zaR(q:N M)(n:J):∀l:N (N M×J),Kt q n l=if Js q l<X l/\(l.getD (Js q l) ([],0)).1=q then l.set (Js q l) ((l.getD (Js q l) ([],0)).1,(l.getD (Js q l) ([],0)).2+n)else l.take (Js q l)++[(q,n)]++l.drop (Js q l)
 |[]=>by skip;rfl
 |x::l=>by
  have a:=zaR q n l;unfold Kt Js;by_cases h:qi x.1 q<0
  ·grind
  ·grind
def Dz{n:J}(hl:Gl l)(e:Gd q)(hn:∀x∈l,Jx<|x.2+n)(g:3000000<=fu):JA fu l q n=Z (Kt q n l):=by
 have h1:=hl.1;have hc:=za3 q l;have hi:=e.ln;have f:zg (KM fu l q) fu (0:J)=Z ((Js q l:K):J):=by
  refine zA (λs:J=>∃j:K,s=(j:J)/\j<=Js q l) (λs=>X l-s.toNat) _ ?_ _ _ ⟨0,O,xai _⟩ (by show X l-0<fu;lia);rintro s L ⟨j,rfl,p⟩ i;unfold KM;by_cases a:j<X l
  ·have b:=hl.2 _<|sy a;have hd:=b.ln;rw[zT,zo a,zf,U<|Ad b.ok e.ok b.can e.can gS W W g];by_cases c:j<Js q l
   ·rw[Z3<|za2 c,iq O,zb];exact i _ ⟨j+1,O,W⟩ W
   ·obtain rfl:j=Js q l:=W
    rw[uT<|zax a,ir gS]
  ·rw[zB];obtain rfl:j=Js q l:=W
   rfl
 have d:=zaR q n l;have⟨k,m⟩:∃k,k=Js q l:=⟨_,O⟩;rw[<-m]at f d hc;unfold JA;rw[U f,U (v:=decide<|k<X l/\(l.getD k ([],0)).1=q)]
 ·by_cases a:k<X l/\(l.getD k ([],0)).1=q
  ·rw[iq a]at d;have o:=hn _<|sy a.1;rw[Z3 a,iq O,xby,xB (by rw[xbH];lia),zf,zo a.1,zf,lu o,zo a.1,zf,d]
  ·rw[ir a]at d;rw[uT a,ir gS,yR,xB hc,zf,xby,xB (by rw[xbH,xax];lia),zf,xB (by rw[xax,xeJ];lia),zf,yR,xB hc,zf,xB (by rw[xap,xax,xeJ,xbR];lia),zf,d]
 ·by_cases a:k<X l
  ·have b:=hl.2 _<|sy a;have hd:=b.ln;rw[zT,zo a,zf,U<|aJ b.ok gS];by_cases c:(l.getD k ([],0)).1=q
   ·rw[Z3 c,Z3 (show k<X l/\(l.getD k ([],0)).1=q from⟨a,c⟩)]
   ·rw[uT c,uT λh=>c h.2]
  ·rw[zB,uT λh=>a h.1]
def Gl.put{n:J}(hl:Gl l)(c:X l<=999)(a:Gd q):Gl (Kt q n l):=
 ⟨xal Cb W,λx b=>by
  obtain h|h:=mJ b
  ·exact hl.2 x h
  ·rw[h];exact a⟩
end
section
variable{B:wr}{a t:xS Zr}
def zlr{fu m:K}{ds:N J}(b:yH m a)(c:m<=50)(hl:X a<=40)(hn:X (zQ a)<=11)(d:∀j,Bb B<|G a j)(h:B<=180)(hd:Rl ds)(hc:X ds<=1000)(e:3000300<=fu):
 (nZ a≠0/\xc fu a ds=Z ((I,[]),[],nZ a))\/
 (nZ a=0/\∃R,xU fu a=Z (R,0)/\Rad a R/\(∀j,Bb (B+X (zQ a)+4)<|G R j)/\
  ((RV R/\∃l,xc fu a ds=Z (yp<|yn a,l,0)/\FL (G a) l/\X l<=12/\∀x∈l,Gd x.1/\x.2<=11)\/
   (¬RV R/\xc fu a ds=Z ((I,[]),[],6)))):=by
 by_cases h0:nZ a=0
 ·refine .inr ⟨h0,?_⟩;have f:=Jj (i:=X (zQ a)-1)<|10-(X (zQ a)-1);have g:=Jj (i:=X (zQ a))<|11-X (zQ a);rw[(W:X (zQ a)-1+(10-(X (zQ a)-1))=10)]at f;rw[(W:X (zQ a)+(11-X (zQ a))=11)]at g;have q1:KR 10=3363:=gS
  have q2:KR 11=8119:=gS
  have r1:=xbo (W:B+7<=187) (W:KR (X (zQ a)-1)<=3363);have r2:=xbo (W:B+7<=187) (W:KR (X (zQ a))<=8119);exact nX b c hl h0 hn d W W W hd hc e
 ·exact .inl ⟨h0,lX b W W h0 W⟩
def Rad.tp{R:N M}(h:Rad a R):Tp (G R) (X R-1)/\X R≠0:=by
 have h0:X (zQ R)≠0:=λe=>by
  have⟨j,b⟩:=h.pm.nz;exact b<|ZP e j
 have:=kR h0;rw[h.can]at this h0;simp_all
theorem LQ{d:K}(h:zQ t=t)(b:Tp (G t) d):X t=d+1:=by
 have h0:=λe=>b.1<|ZP e d;have h1:=(kR h0).uniq b;grind
def zow{r:S}{n K:wr}(c:Tp (G a) n)(hn:n<=40)(f:∀j,Bb B<|G a j)(fr:Fs r)(ct:zQ t=t)(e:(G a:S)=G t*r)(g:B+n+4<=64*K):yH K t/\X t<=n+1/\X t≠0:=by
 have⟨h,i⟩:=kT c.nz e;have⟨d,hd⟩:=Tp.ex (Fs.cf t) h;have⟨b,k⟩:=Tp.ex fr i;have h1:=hd.mul k;rw[<-e]at h1;have l:=h1.uniq c;have m:=LQ ct hd;refine⟨?_,W,W⟩;rw[<-ct];exact yN λj=>(sL c (Fs.cf t) fr e hn f j).bz g
end
def ndN(p:K):wW:=decide (2<=p) && (xaH 50).all λd=>decide (d<2)||decide (p<d*d)||decide (p%d≠0)
def TV{p:K}(h:ndN p=wF)(h1:p<2401:=by lia):2<=p/\jx p:=by
 unfold ndN at h;rw[xab,xaN]at h;refine⟨Wl h.1,λd a b=> ?_⟩;have h4:d<50:=by
  obtain h4|h4:=xbW d 50
  ·exact h4
  ·have:=xbo h4 h4;lia
 have:=h.2 d<|xbe.2 h4;simp only[xdQ,WW]at this;lia
def tz:K->K
 |0=>1
 |n+1=>if ndN n then tz n*n else tz n
def Hl{m:K}(a:ndN m=wF)(h1:m<2401):∀n,n<=m->Nat.Coprime m (tz n)
 |0,_=>Nat.coprime_one_right m
 |n+1,h=>by
  unfold tz;have b:=Hl a h1 n W;split
  ·rename_i d;have e:=TV d;have c:=TV a h1;exact Nat.Coprime.mul_right b<|Uf c.1 c.2
  ·exact b
def FH{γ:K}:∀n,n<=2401->(∀p,p<n->ndN p=wF->p∣γ)->tz n∣γ
 |0,_,_=>Nat.one_dvd γ
 |n+1,h0,h=>by
  unfold tz;have a:=FH n W λp hp=>h p W;split
  ·rename_i b;exact Nat.Coprime.mul_dvd_of_dvd_of_dvd (Hl b W n<|Nm n).symm a<|h n W b
  ·exact a
def zcw:∃K,3100<=K/\2^K<=tz 2400:=⟨Nat.log2<|tz 2400,by decide+kernel,Nat.log2_self_le<|by decide+kernel⟩
def zdw{γ:J}{k:wr}(h:Bb k γ)(h0:γ≠0)(c:k<=3100):∃p:J,vF p=wF/\γ%p≠0:=by
 refine xae λhn=> ?_;have⟨K,d,h1⟩:=zcw;have e:=FH (γ:=γ.natAbs) 2400 W λp hp f=>by
  have a:=TV f;refine xae λb=>hn ⟨p,zan ⟨W,W,a.2⟩,λg=>b ?_⟩;exact xdn.1<|xaB g
 have a:=Nat.le_of_dvd W e;unfold Bb at h;have b:=xav (gS:0<2)<|xal c d;lia
def zmb:∀(N k:K) (a b s t:S) (n m:K) (c:J),Tp a n->Tp b m->n+m<=N->(∀j,Bb k<|a j)->(∀j,Bb k<|b j)->c≠0->Fs s->Fs t->F c=s*a+t*b->
 ∃(γ:J) (s t:S),γ≠0/\Fs s/\Fs t/\F γ=s*a+t*b/\Bb ((k+1)*2^N) γ:=by
 intro N
 induction N with
 |zero=>
  intro k a b s t n m c o f C u p hc fs v e;obtain⟨x,rfl⟩:=((KC.tp o).2 W).ex;have h0:n=0:=W
  subst h0;exact⟨x,F 1,F 0,o.1,Fs.pc 1,Fs.pc 0,qR λk=>by rw[zK,zw,yf,zJ,xbZ],(u 0).mono W⟩
 |succ N U=>
  have q:∀(k:K) (a b s t:S) (n m:K) (c:J),Tp a n->Tp b m->n+m<=N+1->m<=n->(∀j,Bb k<|a j)->(∀j,Bb k<|b j)->c≠0->Fs s->Fs t->F c=s*a+t*b->
   ∃(γ:J) (s t:S),γ≠0/\Fs s/\Fs t/\F γ=s*a+t*b/\Bb ((k+1)*2^(N+1)) γ:=by
   intro k a b s t n m c o f C hg u p hc fs v e;have M:k<=(k+1)*2^(N+1):=xal (xbN k) (xcf _<|xaU gS);by_cases h0:m=0
   ·subst h0;obtain⟨x,rfl⟩:=((KC.tp f).2 O).ex;exact⟨x,F 0,F 1,f.1,Fs.pc 0,Fs.pc 1,qR λk=>by rw[zK,zw,yf,zJ,xcE],(p 0).mono M⟩
   ·have⟨r,z⟩:∃r,r=F (b m)*a-mono (n-m) (a n)*b:=⟨_,O⟩;have g:Fs (mono (n-m)<|a n):=⟨n+1,λk M=>zB⟩;have fr:Fs r:=by rw[z];exact((Fs.pc _).mul o.fs).subt<|g.mul f.fs
    have P:∀j,r j=b m*a j-(if n-m<=j then a n*b (j-(n-m))else 0):=λj=>by
     rw[z,yx,jj,zP];unfold sh;split<;>simp_all
    have V:∀j,Bb (2*k+1) (r j):=λj=>by
     rw[P j,(W:2*k+1=k+k+1)];refine Bb.sub ((p m).mul<|u j) ?_;split
     ·exact(u n).mul<|p _
     ·exact Bb.zero _
    have D:F (b m*c)=s*r+(s*mono (n-m) (a n)+t*F (b m))*b:=by
     rw[<-qf,e,z,wm,yF,xH,zC s (F<|b m) a,zd s (mono _ _) b,zd t (F<|b m) b,zC t (F<|b m) b];funext j;simp only[zK,yx];lia
    have Q:b m*c≠0:=xcG f.1 hc;by_cases R:Nz r
    ·have⟨l,hl⟩:=Tp.ex fr R;have hi:l<n:=by
      refine xae λh=>hl.1 ?_;rw[P l,zT];by_cases A:l=n
      ·subst A;rw[(W:l-(l-m)=m),xbw];lia
      ·rw[o.2 l W,f.2 (l-(n-m)) W];simp
     have⟨γ,y,E,g1,B,G,H,L⟩:=U (2*k+1) r b s (s*mono (n-m) (a n)+t*F (b m)) l m (b m*c) hl f W V (λj=>(p j).mono W) Q fs ((fs.mul g).add<|v.mul<|Fs.pc _) D;refine⟨γ,y*F (b m),E-y*mono (n-m) (a n),g1,B.mul<|Fs.pc _,G.subt<|B.mul g,?_,L.mono<|Nat.le_of_eq ?_⟩
     ·rw[H,z,wm,qp,zd y (F _) a,zd y (mono _ _) b];funext j;simp only[zK,yx];lia
     ·rw[xbf,(W:2*k+1+1=(k+1)*2),xaP,xaO 2]
    ·exfalso;have⟨w,T⟩:∃w,w=s*mono (n-m) (a n)+t*F (b m):=⟨_,O⟩;rw[<-T]at D;have Y:Fs w:=by rw[T];exact(fs.mul g).add<|v.mul<|Fs.pc _
     have A:F (b m*c)=w*b:=by
      rw[D];funext j;have:(s*r) j=0:=by
       rw[wM];exact yT λi _=>by rw[Nz.not R,xaz]
      rw[zK,this,xcE]
     have nz:Nz (F<|b m*c):=⟨0,Q⟩;have⟨nw,_⟩:=kT nz A;have⟨d,hd⟩:=Tp.ex Y nw;have h1:=hd.mul f;rw[<-A]at h1;have:=(KC.tp h1).1<|KC.pc _;lia
  intro k a b s t n m c o f C u p hc fs v e;obtain h|h:=Nat.le_total m n
  ·exact q k a b s t n m c o f C h u p hc fs v e
  ·have⟨γ,y,E,g1,B,G,H,L⟩:=q k b a t s m n c f o W h p u hc v fs (by rw[e];exact qR λj=>xfc _ _);exact⟨γ,E,y,g1,G,B,by rw[H];exact qR λj=>xfc _ _,L⟩
def zmr{R:S}{n:K}(f:Tp R n)(G:Pm R)(hn:1<=n)(sf:∀q,Ir q->¬Zd (q*q) R):∃(c:J) (s t:S),c≠0/\Fs s/\Fs t/\F c=s*R+t*dvp R:=by
 have⟨g,s,t,γ,A,j,fs,B,l,e,C,z2⟩:=zkH f.fs f.nz f.fs.dvp;have⟨d,hd⟩:=Tp.ex A j.nz;by_cases h0:d=0
 ·obtain⟨x,rfl⟩:=((KC.tp hd).2 h0).ex;refine⟨γ*x,s,t,xcG l ?_,fs,B,by rw[<-qf];exact e⟩;obtain h|h:=DT j<;>lia
 ·exfalso;have⟨q,q1,q2,o⟩:=Ir.ex d (Nm d) hd j W;have⟨w,p,r⟩:=o.trans C;have u:=o.trans z2;rw[r,VZ]at u;have D:Zd q (w*dvp q):=by
   have:=u.sub<|(Zd.refl q).mul (dvp w) p.dvp;have E:dvp w*q+w*dvp q-dvp w*q=w*dvp q:=qR λk=>by simp only[zK,yx];lia
   rwa[E]at this
  obtain h4|h4:=q1.prime p q1.fs.dvp D
  ·have⟨v,m,ev⟩:=h4;exact sf q q1 ⟨v,m,by rw[r,ev,zd]⟩
  ·have⟨b,a⟩:=Tp.ex q1.fs q1.pm.nz;have hc:1<=b:=xae λh0=>q1.dg ((KC.tp a).2 W);have y:Tp (dvp q) (b-1):=⟨by
    show((b-1+1:K):J)*q (b-1+1)≠0;rw[(W:b-1+1=b)];exact xcG W a.1,λk H=>by
    show((k+1:K):J)*q (k+1)=0;rw[a.2 (k+1) W,xaz]⟩
   have⟨v,m,ev⟩:=h4;have⟨nv,_⟩:=kT y.nz ev;have⟨i,hi⟩:=Tp.ex m nv;have z:=hi.mul a;rw[<-ev]at z;have:=z.uniq y;lia
def TZ{a R:xS M}{B:K}(g:Rad a R)(hl:X R<=5)(C:B<=20)(f:∀j,Bb B<|G R j):RV R:=by
 have⟨N,D,i⟩:∃N,N=7/\2^N<=128:=⟨7,O,gS⟩;have⟨b,E⟩:=g.tp;by_cases l:X R<2
 ·exact .inl l
 refine .inr ⟨zeA W W f,?_⟩;have⟨n,hn⟩:∃n,n=X R-1:=⟨_,O⟩;rw[<-hn]at b;have⟨c,s,t,hc,fs,m,e⟩:=zmr b g.pm W g.sf;have o:Tp (dvp<|G R) (n-1):=⟨by
  show((n-1+1:K):J)*G R (n-1+1)≠0;rw[(W:n-1+1=n)];exact xcG W b.1,λk H=>by
  show((k+1:K):J)*G R (k+1)=0;rw[b.2 (k+1) W,xaz]⟩
 have Y:∀j,Bb (B+3) (dvp (G R) j):=λj=>by
  show Bb (B+3) (((j+1:K):J)*G R (j+1));by_cases L:j+1<=n
  ·rw[xdA B 3];exact Bb.mul (W:((j+1:K):J).natAbs<2^3)<|f _
  ·rw[b.2 (j+1) W,xaz];exact Bb.zero _
 have⟨γ,q,r,g1,u,v,x,y⟩:=zmb N (B+3) (G R) (dvp<|G R) s t n (n-1) c b o W (λj=>(f j).mono W) Y hc fs m e;have z:=Bb.mul y<|f n;have⟨p,hp,hd⟩:=zdw z (xcG g1 b.1) (by have:(B+3+1)*2^N<=24*128:=xbo W i;lia);have⟨Q,S⟩:=zz hp;have d1:γ%p≠0:=λh=>hd<|xaw<|xbp (xaB h)<|xcc _ _;have d2:G R n%p≠0:=λh=>hd<|xaw<|xbp (xaB h)<|xcx _ _;refine⟨p,hp,by rw[<-hn];exact d2,?_⟩;obtain⟨P,rfl⟩:=xaA (W:0<=p);have⟨w,A⟩:=L9 hp (d:=γ) λh=>d1<|xaw h;refine⟨F w*q,F w*r,(Fs.pc w).mul u,(Fs.pc w).mul v,?_⟩;rw[zd,zd,<-xH,<-x,qf];exact λk=>by
  unfold F;split
  ·exact xaI.2<|xaw A
  ·rfl
def ML(v:J):S:=λk=>if k=0 then v else if k=1 then 1 else 0
def RQ(v:J):Tp (ML v) 1:=⟨by show 1≠0;decide,λk a=>by unfold ML;rw[zB,zB]⟩
def ziS(v:J):ML v 1=1:=O
def zmX(v:J):Pm (ML v):=λd hd=>by
 have:=hd 1;exact Nat.dvd_one.1<|xcF.1 this
def zmk(v:J):Po (ML v):=⟨1,by rw[ziS];decide,(RQ v).2⟩
section
variable{f:Pz}{x v w:wl}{j:wr}
def Ev(f:S)(x v:J):Prop:=Zd (ML (-x))<|f-F v
def L6(v:J)(g:S)(k:K):(ML v*g) k=v*g k+(if k=0 then 0 else g (k-1)):=by
 have e:ML v=F v+mono 1 1:=qR λk=>by
  rw[zK];unfold ML F mono;by_cases h0:k=0
  ·subst h0;simp
  ·by_cases h1:k=1
   ·subst h1;simp
   ·simp[h0,h1]
 rw[e,yF,zK,zP,jj,xcY];unfold sh;by_cases h:k=0
 ·subst h;simp
 ·rw[zT,ir h]
def Ev.uniq(h:Ev f x v)(g:Ev f x w):v=w:=by
 refine xae λhn=> ?_;have h1:=Zd.sub h g;have e:f-F v-(f-F w)=F (w-v):=qR λk=>by simp only[yx];unfold F;split<;>lia
 rw[e]at h1;have⟨q,fq,eq⟩:=h1;have nz:Nz (F<|w-v):=⟨0,(W:(w-v:J)≠0)⟩;have⟨b,_⟩:=kT nz eq;have⟨i,hi⟩:=Tp.ex fq b;have a:=hi.mul<|RQ (-x);rw[<-eq]at a;have:=(KC.tp a).1<|KC.pc _;lia
def Ev.mul{f g:S}{x v w:J}(a:Fs f)(h:Ev f x v)(k:Ev g x w):Ev (f*g) x (v*w):=by
 have h1:=(Zd.mul f a k).add<|Zd.mul (F w) (Fs.pc w) h;have e:f*(g-F w)+F w*(f-F v)=f*g-F (v*w):=by
  rw[wm,wm,zk f<|F w,qf,xbw w v];funext k;simp only[zK,yx];lia
 rwa[e]at h1
def Ev.pc(c x:J):Ev (F c) x c:=⟨Go.Proofs.YtoegnnjcmlghhaaGreat.pc 0,Fs.pc 0,by rw[yf];funext k;rw[yx,zJ];lia⟩
def Ev.hor(a:Fs f)(h:Ev (λk=>f<|k+1) x v):Ev f x (f 0+x*v):=by
 have⟨n,hn⟩:=a;have b:Fs (λk=>f<|k+1):=⟨n,λk c=>hn (k+1) W⟩;have h1:=(Zd.left (u:=ML (-x)) b).add<|Zd.mul (Go.Proofs.YtoegnnjcmlghhaaGreat.pc x) (Fs.pc x) h;have e:ML (-x)*(λk=>f<|k+1)+Go.Proofs.YtoegnnjcmlghhaaGreat.pc x*((λk=>f<|k+1)-Go.Proofs.YtoegnnjcmlghhaaGreat.pc v)=f-Go.Proofs.YtoegnnjcmlghhaaGreat.pc (f 0+x*v):=by
  funext k;rw[zK,L6,zP,yx,yx];show-x*f (k+1)+(if k=0 then 0 else f (k-1+1))+x*(f (k+1)-_)=_;unfold Go.Proofs.YtoegnnjcmlghhaaGreat.pc;by_cases h0:k=0
  ·subst h0;simp only[uL];rw[Int.mul_sub,Int.neg_mul];lia
  ·rw[ir h0,ir h0,ir h0,Int.neg_mul,(W:k-1+1=k),xdc];lia
 unfold Ev;rwa[e]at h1
def Ev.ex(x:J):∀(n:K) (f:S),(∀k,n<=k->f k=0)->∃v,Ev f x v
 |0,f,h=>⟨0,by
  have:f=Go.Proofs.YtoegnnjcmlghhaaGreat.pc 0:=qR λk=>by rw[h k<|xai k,zJ]
  rw[this];exact Ev.pc 0 x⟩
 |n+1,f,h=>by
  have⟨v,hv⟩:=Ev.ex x n (λk=>f<|k+1) λk a=>h (k+1) W;exact⟨_,Ev.hor ⟨n+1,h⟩ hv⟩
def Ev.four(h:∀k,4<=k->f k=0)(x:J):Ev f x (f 0+x*(f 1+x*(f 2+x*f 3))):=by
 have a:∀(i:K),Fs (λk=>f<|k+i):=λi=>⟨4,λk d=>h (k+i) W⟩;have b:Ev (λk=>f<|k+3) x (f 3):=by
  have:(λk=>f<|k+3)=Go.Proofs.YtoegnnjcmlghhaaGreat.pc (f 3):=qR λk=>by
   unfold Go.Proofs.YtoegnnjcmlghhaaGreat.pc;by_cases h0:k=0
   ·subst h0;rfl
   ·rw[ir h0,h (k+3) W]
  rw[this];exact Ev.pc _ _
 have c:Ev (λk=>f<|k+2) x (f 2+x*f 3):=Ev.hor (a 2) b;have h1:Ev (λk=>f<|k+1) x (f 1+x*(f 2+x*f 3)):=Ev.hor (a 1) c;exact Ev.hor ⟨4,h⟩ h1
def Ev.dvd{u:S}(fu:Fs u)(a:Zd u f)(h:Ev u x v)(g:Ev f x w):v∣w:=by
 have⟨q,fq,e⟩:=a;have⟨n,hn⟩:=fq;have⟨y,b⟩:=Ev.ex x n q hn;have h1:=Ev.mul ⟨n,hn⟩ b h;rw[<-e]at h1;rw[<-h1.uniq g];exact xcx ..
def Ev.root(h:Ev f x 0):Zd (ML (-x)) f:=by
 have e:f-Go.Proofs.YtoegnnjcmlghhaaGreat.pc 0=f:=qR λk=>by rw[yx,zJ];lia
 unfold Ev at h;rwa[e]at h
def Uy(i:K):J:=if i%2=0 then-(((i+1)/2:K):J)else(((i+1)/2:K):J)
def Bq(u:S):K->K->J
 |0,j=>u 0+Uy j*(u 1+Uy j*(u 2+Uy j*u 3))
 |1,j=>if j=1 then u 1+u 2+u 3 else if j=2 then u 1+u 3 else u 1+u 2+3*u 3
 |2,j=>if j=2 then u 2 else u 2+2*u 3
 |_,_=>u 3
def zeE(u:S){k:K}(a:1<=k)(b:k<=j)(c:j<=3):Bq u (k-1) j-Bq u (k-1) (j-1)=Bq u k j*(Uy j-Uy (j-k)):=by
 have:(k=1/\j=1)\/(k=1/\j=2)\/(k=1/\j=3)\/(k=2/\j=2)\/(k=2/\j=3)\/(k=3/\j=3):=W
 rcases this with⟨rfl,rfl⟩|⟨rfl,rfl⟩|⟨rfl,rfl⟩|⟨rfl,rfl⟩|⟨rfl,rfl⟩|⟨rfl,rfl⟩<;>simp[Bq,Uy]<;>lia
def zk9{i:K}(hi:i<=3)(a:j<i):Uy i-Uy j≠0/\(Uy i-Uy j).natAbs<=3:=by
 have:(i=1/\j=0)\/(i=2/\j=0)\/(i=2/\j=1)\/(i=3/\j=0)\/(i=3/\j=1)\/(i=3/\j=2):=W
 rcases this with⟨rfl,rfl⟩|⟨rfl,rfl⟩|⟨rfl,rfl⟩|⟨rfl,rfl⟩|⟨rfl,rfl⟩|⟨rfl,rfl⟩<;>decide
end
def zjm(d:K)(c:J):(G (xac d (I,[])++[yp c]):S)=mono d c:=qR λj=>by
 rw[zgF];unfold sh mono G;by_cases h:d<=j
 ·rw[iq h];by_cases e:j=d
  ·rw[iq e,e,xcQ];exact zn c
  ·rw[ir e,H1,xbD<|by simp;lia];rfl
 ·rw[ir h,zB]
def HY{K d:wr}{c:J}(h:Bz K c):yH K (xac d (I,[])++[yp c]):=λz hz=>by
 obtain hz|hz:=So.1 hz
 ·rw[(List.mem_replicate.1 hz).2];exact⟨zm.nil,xai _⟩
 ·rw[xad.1 hz];exact⟨yG _,h.len⟩
def zmE{B A R Q:S}(b:Fs Q)(e:A=Q*B+R):Zd B A↔Zd B R:=by
 have a:Zd B (Q*B):=⟨Q,b,O⟩;constructor
 ·intro h;have:R=A-Q*B:=qR λk=>by rw[e,yx,zK];lia
  rw[this];exact h.sub a
 ·intro h;rw[e];exact a.add h
def cT{fu K g:wr}{a b:N M}(ha:yH K a)(hb:yH g b)(hK:K+(X a+1)*(g+1)<=30000)(hL:X a<=1000)(hC:X b<=1000)(h0:X (zQ b)≠0)(m:3000000<=fu):
 ∃q e,jL fu a b=Z (q,e)/\(e=0↔Zd (G b) (G a))/\(e=0->(G a:Pz)=G q*G b/\zQ q=q/\X q<=X a):=by
 have⟨B,o⟩:∃B,B=zQ b:=⟨_,O⟩;have hD:(G B:Pz)=G b:=qR λk=>by rw[o];exact kP b k
 have y:yH g B:=by rw[o];exact Ku hb
 have nB:zQ B=B:=by rw[o];exact Hy b
 have lB:X B<=1000:=by rw[o];exact xal (j7 b) hC
 have hF:X B≠0:=by rw[o];exact h0
 have C:Tp (G B) (X B-1):=by have:=kR (a:=B) (by rw[nB];exact hF);rwa[nB]at this
 have hG:=j7 a;have hJ:∀s,s<=X a->s*(g+1)+(g+1)<=(X a+1)*(g+1):=λs hs=>by
  have:=xan (g+1) (W:s+1<=X a+1);rwa[xbb,xcy]at this
 have⟨t,ht,hQ⟩:=ya (f:=Wb fu) (λs=>∃(r q:N M),s=(B,r,q)/\zQ r=r/\zQ q=q/\(G a:Pz)=G q*G B+G r/\X r<=X a/\X q<=X a/\yH (K+(X a-X r)*(g+1)) r/\yH (K+(X a-X r)*(g+1)) q)
  (λs=>X s.2.1) (λt=>(∃q,t=Sum.inl q/\(G a:Pz)=G q*G B/\zQ q=q/\X q<=X a)\/(t=.inr ()/\¬Zd (G B) (G a))) (by
  rintro s L ⟨r,q,rfl,hr,hq,D,hM,hH,u,E⟩ ih
  unfold Wb
  simp only
  have hy:=zmE (Fs.cf q) D
  by_cases hN:0<X r
  ·have tR:Tp (G r) (X r-1):=by have:=kR (a:=r) (by rw[hr];lia);rwa[hr]at this
   have hs:=hJ (X a-X r) W
   generalize hS:K+(X a-X r)*(g+1)=S at u E hs
   have H:∀j,a8 (r.getD j (I,[])):=u.okS W
   have P:∀j,a8 (B.getD j (I,[])):=y.okS W
   rw[zT,zb,zb,(W:(X r:J)-1=((X r-1:wr):J)),zY,zf,zb,(W:(X B:J)-1=((X B-1:wr):J)),zY,zf,
    U (Um (H _) (P _) m),Z8,Z8]
   simp only
   have Q:Zd (G B) (G r)->∃n,X r-1=n+(X B-1)/\G B (X B-1)∣G r (X r-1):=λh=>by
    have⟨w,fw,e⟩:=h;have⟨n,hn⟩:=Tp.ex fw (xae λhn=>tR.1 (by
     have:w=F 0:=qR λk=>by rw[zJ];exact xae λh=>hn ⟨k,h⟩
     rw[e,this,zP,xba]))
    have h1:=(hn.mul C).uniq<|e▸tR;refine⟨n,h1.symm,w n,?_⟩;rw[<-h1,e,Vz hn.2 C.2,xbw]
   by_cases hO:X r<X B
   ·rw[zT]
    refine⟨_,O,.inr ⟨O,λh=> ?_⟩⟩
    have⟨n,h1,_⟩:=Q<|hy.1 h
    lia
   ·rw[zB]
    have⟨l,hl⟩:∃l,l=G B (X B-1):=⟨_,O⟩
    have⟨w,R⟩:∃w,w=G r (X r-1):=⟨_,O⟩
    have T:l≠0:=by rw[hl];exact C.1
    rw[<-hl,<-R]at Q⊢
    by_cases v:w%l=0
    ·have V:exE w l=0:=by unfold exE;rw[ir T,iq v]
     have hX:SD w l=w/l:=by unfold SD;rw[ir T,iq v]
     have hA:w/l*l=w:=xeY<|xaB v
     have⟨c,hc⟩:∃c,c=w/l:=⟨_,O⟩
     rw[<-hc]at hA
     have bw:Bz S w:=by rw[R];exact u.bz _
     have x:Bz S c:=bw.le<|by rw[hc];exact xbG _ _
     have⟨d,hd⟩:∃d,X r=d+X B:=⟨X r-X B,W⟩
     rw[V,hX,<-hc,iq O,(W:(X r:J)-(X B:J)=(d:J)),yR,yV,zf,xB (by simp;lia),zf,U<|Y6 E (HY x) W W (by simp;lia) m,
      U (QT (HY x) y (by simp;lia) W m)]
     have⟨part,hi⟩:∃part,part=xac d (false,[])++[yp c]:=⟨_,O⟩
     have hp:(G part:Pz)=mono d c:=by rw[hi];exact zjm d c
     have hP:X part=d+1:=by rw[hi];simp
     rw[<-hi]
     have oM:yH (S+g+1) (yS part B):=by
      have hm:zQ (yS part B)=yS part B:=(kZ _ _).symm;rw[<-hm];refine yN λj=> ?_;rw[vZ,hp,jj];refine Bz.mono (j:=S+g) (x.mul ?_) W;unfold sh;split
      ·exact y.bz _
      ·exact Bz.zero _
     rw[U<|dh (u.mono W) oM W W (by have:=qB part B;lia) m]
     have⟨i,A⟩:∃i,i=KH r (yS part B):=⟨_,O⟩
     have Y:∀k,G i k=G r k-c*sh (G B) d k:=λk=>by rw[A,IK,vZ,hp,jj]
     have hv:zQ i=i:=by rw[A];exact(kZ _ _).symm
     have hI:X i<=X r-1:=lF (show i=wk (X i) (G i)from hv.symm) λk hk=>by
      rw[Y];unfold sh;rw[zT];by_cases e:k=X r-1
      ·rw[e,<-R,(W:X r-1-d=X B-1),<-hl,hA];lia
      ·rw[zW W,zW W];lia
     have hR:S+(g+1)<=K+(X a-X i)*(g+1):=by
      have:=xan (g+1) (W:X a-X r+1<=X a-X i);rw[xbb,xcy]at this;lia
     have hT:=IU q part
     refine ih _ ⟨i,Kn q part,by rw[A];rfl,hv,(kZ _ _).symm,?_,W,?_,?_,?_⟩ (by show(KH r<|yS part B).length<X r;rw[<-A];lia)
     ·rw[D]
      funext k
      rw[zK,zK,Y,iw,yF,zK,hp,jj]
      lia
     ·have:=KY q part;lia
     ·have h9:yH (K+(X a-X i)*(g+1)) (zQ i):=yN λj=>by
       rw[Y];refine Bz.mono (j:=S+g+1) (Bz.sub ((u.bz j).mono W)<|x.mul ?_) W;unfold sh;split
       ·exact y.bz _
       ·exact Bz.zero _
      rwa[hv]at h9
     ·exact(eZ E<|by rw[hi];exact HY x).mono W
    ·have V:exE w l=4:=by unfold exE;rw[ir T,ir v]
     rw[V,ir gS]
     refine⟨_,O,.inr ⟨O,λh=> ?_⟩⟩
     have⟨_,_,h2⟩:=Q<|hy.1 h
     exact v<|xaw h2
  ·rw[zB]
   refine⟨_,O,.inl ⟨q,O,?_,hq,hH⟩⟩
   rw[D]
   funext k
   rw[zK,zW (p:=r) W,xbZ]) fu (B,zQ a,[]) ⟨zQ a,[],O,Hy a,O,by
    funext k;rw[zK,kP];have:((G []:Pz)*G B) k=0:=by rw[show(G []:Pz)=F 0 from qR λk=>by rw[zW<|xai _,zJ],zP,xba]
    lia,hG,xai _,(Ku ha).mono W,λz hz=>by cases hz⟩ (by show(zQ a).length<fu;lia)
 unfold jL;rw[U<|y9 hb (by have:=hJ 0 W;lia) W m,show wk (X b) (G b)=zQ b from O,zB,U<|y9 ha W W m,show wk (X a) (G a)=zQ a from O,<-o,U ht];rw[hD]at hQ;rcases hQ with⟨q,rfl,h1,h2,h3⟩|⟨rfl,h1⟩
 ·exact⟨q,0,O,⟨λ_=>⟨G q,Fs.cf q,h1⟩,λ_=>O⟩,λ_=>⟨h1,h2,h3⟩⟩
 ·exact⟨[],4,O,⟨λh=>wR h gS,λh=>wR h h1⟩,λh=>wR h gS⟩
section
variable{fu:wr}{x:wl}
def zaD{l:N J}(a:∀k,-9223372036854775807<=C l k/\C l k<=9223372036854775807)(hl:X l<=1000000)(b:3000000<=fu):uV fu l=Z (jI l):=by
 unfold uV;have c:yH 1 (zi (X l)<|C l):=Yf λk=>by
  have:=a k;unfold Bz;lia
 rw[U (v:=zi (X l)<|C l)]
 ·rw[U<|y9 c gS (by rw[yc];exact hl) b,yc,rY];rfl
 ·refine zA (λs:N M×J=>∃i:K,i<=X l/\s=(zi i<|C l,(i:J))) (λs=>X l-s.2.toNat) _ ?_ _ _ ⟨0,xai _,O⟩ (by show X l-0<fu;lia);rintro s L ⟨i,hi,rfl⟩ d;unfold nk;simp only;by_cases h:i<X l
  ·rw[zT,zo h,zf,Vp,U<|ZB<|a i,xB (by rw[yc];simp;lia),zf,mN,zb];exact d _ ⟨i+1,W,O⟩ (by show X l-((i:J)+1).toNat<X l-(i:J).toNat;lia)
  ·rw[zB];obtain rfl:i=X l:=W
   rfl
def zkx(c:x.natAbs<=1000)(b:3000000<=fu):∃p,uV fu [x,1]=Z p/\(G p:S)=ML x/\zQ p=p/\X p<=2/\yH 1 p:=by
 have a:∀k,-9223372036854775807<=C [x,1] k/\C [x,1] k<=9223372036854775807:=λk=>by
  obtain _|_|k:=k
  ·show _<=x/\x<=_;lia
  ·show _<=(1:J)/\(1:J)<=_;lia
  ·rw[yh gT];lia
 refine⟨_,zaD a gT b,?_,(kZ _ _).symm,mU _,?_⟩
 ·rw[qc];funext k;obtain _|_|k:=k
  ·rfl
  ·rfl
  ·rw[yh gT];unfold ML;rw[zB,zB]
 ·exact yN λk=>by have:=a k;unfold Bz;lia
def zkX(c:x.natAbs<=1000000000)(b:3000000<=fu):∃p,uV fu [x]=Z p/\(G p:S)=F x/\X p<=1/\yH 1 p:=by
 have a:∀k,-9223372036854775807<=C [x] k/\C [x] k<=9223372036854775807:=λk=>by
  obtain _|k:=k
  ·show _<=x/\x<=_;lia
  ·rw[yh gT];lia
 refine⟨_,zaD a gT b,by rw[qc,qV],mU _,?_⟩;exact yN λk=>by have:=a k;unfold Bz;lia
def zo6{b:K}{y:J}(a:Bb b x)(c:Bb b y):Bb (b+1) (x+y):=by
 have:=Bb.sub a (show Bb b (-y)by unfold Bb at*;rw[xfC];exact c);rwa[Int.sub_neg]at this
def AE{K B:wr}{a:N M}(i:yH K a)(t:K<=40000)(hl:X a<=50)(l:x.natAbs<4)(m:∀j,Bb B<|G a j)(u:B<=1000)(c:3000000<=fu):∃v,Qf fu a (yp x)=Z (yp v)/\Ev (G a) x v/\Bb (B+3*X a) v:=by
 unfold Qf;have hc:Bb 2 x:=l;have hd:Bz 1 x:=by unfold Bz;lia
 rw[U<|ZB ⟨gS,gS⟩,zb]
 obtain⟨r,o,v,rfl,h1,b⟩:=ya (f:=Jd fu a<|yp x) (λs:J×M=>∃(n:wr) (v:J),s=((n:J)-1,yp v)/\n<=X a/\Ev (λk=>G a<|k+n) x v/\Bb (B+3*(X a-n)) v) (λs=>(s.1+1).toNat)
  (λr=>∃v,r=yp v/\Ev (G a) x v/\Bb (B+3*X a) v) (by
  rintro s L ⟨n,v,rfl,hn,h1,b⟩ p
  unfold Jd
  simp only
  cases n with
  |zero=>rw[zB];exact⟨_,O,v,O,h1,b⟩
  |succ n=>
   have d:=i.okS W n
   have g:=b.mul hc
   have q:=zo6 g<|(m n).mono (W:B<=B+3*(X a-(n+1))+2)
   have z2:=b.bz (K:=20) W
   have z3:=g.bz (K:=20) W
   rw[zT,U<|VG (z2.ok gS) (hd.ok gS) c,zn,zn,(W:((n+1:wr):J)-1=(n:J)),zY,zf,U<|YU (z3.ok gS) ⟨d.1,by have:=d.2;lia⟩ c,zn,zb]
   refine p _ ⟨n,v*x+G a n,by rw[<-Z8],W,?_,q.mono W⟩ (by show((n:J)-1+1).toNat<(((n+1:wr):J)-1+1).toNat;lia)
   have h:=Ev.hor (f:=λk=>G a<|k+n) (x:=x) (v:=v) ⟨X a,λk w=>zW W⟩ (by
    have e:(λk=>G a<|k+1+n)=λk=>G a (k+(n+1)):=qR λk=>by rw[(W:k+1+n=k+(n+1))]
    rw[e];exact h1)
   rw[xaJ,xbw x v,xfc]at h
   exact h) fu ((X a:J)-1,yp 0) ⟨X a,0,O,Nm _,by
    have e:(λk=>G a<|k+X a)=F 0:=qR λk=>by rw[zW W,zJ]
    rw[e];exact Ev.pc 0 x,Bb.zero _⟩ (by show((X a:J)-1+1).toNat<fu;lia)
 rw[U o];exact⟨v,O,h1,b⟩
def zcB(d:x.natAbs<9223372036854775808)(a:3000000<=fu):kJ fu (yp x)=Z (x,wF):=by
 by_cases h0:0<=x
 ·exact p8 h0 W a
 ·have b:Bz 1 x:=by unfold Bz;lia
  have e:=b.len;have hc:=(eK (x:=x)).2 W;have hn:(yp x).1=wF:=(Wh x).2 W;have c:((yp x).2.getD 0 0:K)=x.natAbs:=by
   show(yB x.natAbs).getD 0 0=_;rw[ZA,xdK,xam W]
  unfold kJ;rw[U<|yM (yG x) W a,zn,zB,zB,show(0:J)=((0:K):J)from O,zY,zf,iq hn,c,zT,zf,sw,zb,(W:((0:K):J)-(x.natAbs:J)=x)]
def ga(G:x.natAbs<9223372036854775808)(h0:x≠0)(H:3000000<=fu):∃l,Zl fu (yp x)=Z l/\X l<=4000/\(l=[]\/((∀y∈l,y.natAbs<=1000000)/\∀y,y∣x->y∈l)):=by
 unfold Zl;rw[U<|zcB G H];simp only[xcW,xak,ut];by_cases h1:(1000000:J)<x
 ·rw[iq h1];exact⟨_,O,xai _,.inl O⟩
 rw[ir h1];by_cases A:x< -1000000
 ·rw[iq A];exact⟨_,O,xai _,.inl O⟩
 rw[ir A];have⟨N,p⟩:∃N,N=x.natAbs:=⟨_,O⟩;have hi:max x (0-x)=(N:J):=W
 have⟨r,M,q1,q2,B⟩:=ya (f:=Z1 fu x) (λs:xS J×J=>∃d:K,s.2=(d:J)/\1<=d/\d<=1001/\X s.1<=4*(d-1)/\(∀y∈s.1,y.natAbs<=1000000)/\∀e:K,e<d->(e:J)∣x->(e:J)∈s.1/\ -(e:J)∈s.1/\((N/e:K):J)∈s.1/\ -((N/e:K):J)∈s.1)
  (λs=>1002-s.2.toNat) (λr=>X r<=4000/\(∀y∈r,y.natAbs<=1000000)/\∀e:K,e*e<=N->(e:J)∣x->(e:J)∈r/\ -(e:J)∈r/\((N/e:K):J)∈r/\ -((N/e:K):J)∈r) (by
  rintro⟨t,i⟩ L ⟨d,hd,d1,d2,hl,g,b⟩ q
  simp only at hd hl g b
  subst hd
  have hw:d*d<=1001*1001:=xbo d2 d2
  have hc:(d:J)*d=((d*d:K):J):=gT
  unfold Z1
  simp only
  rw[hc,zb,zb,zf,hi]
  by_cases v:d*d<=N
  ·have hz:d<=1000:=xbu λh=>by
    have:=xbo h h;lia
   rw[zT,yV,zf]
   by_cases n:xca x d=0
   ·have hn:(d:J)∣x:=Int.dvd_of_tmod_eq_zero n
    have hA:d∣N:=by rw[p];exact xdn.1 hn
    have P:N/d<=N:=xcp _ _
    rw[iq n,zb,xB (by simp;lia),zf]
    have old:∀(u:xS J),(∀y∈t,y∈u)->(d:J)∈u-> -(d:J)∈u->((N/d:K):J)∈u-> -((N/d:K):J)∈u->∀e:K,e<d+1->(e:J)∣x->(e:J)∈u/\ -(e:J)∈u/\((N/e:K):J)∈u/\ -((N/e:K):J)∈u:=λu o R S T V e c a=>by
     by_cases j:e=d
     ·subst j;exact⟨R,S,T,V⟩
     ·have⟨C,D,w,z⟩:=b e W a;exact⟨o _ C,o _ D,o _ w,o _ z⟩
    by_cases j:((d*d:K):J)=N
    ·have Y:N/d=d:=by rw[<-Int.natCast_inj.1 j];exact xfj _ W
     rw[zb,zb,zf,hi,iq j,U O]
     simp only[xak,ut]
     rw[zb]
     refine q _ ⟨d+1,gT,W,W,by simp;lia,λy hy=> ?_,?_⟩ (by show 1002-((d:J)+1).toNat<1002-(d:J).toNat;lia)
     ·obtain hy|hy:=So.1 hy
      ·exact g y hy
      ·simp only[xaa,IR,UL]at hy
       lia
     ·refine old _ (λy hy=>xcM _ hy) ?_ ?_ ?_ ?_<;>simp[Y]
    ·have E:xct (N:J) d=((N/d:K):J):=gT
     have F:xct (0-(N:J)) d= -((N/d:K):J):=by rw[xfX,Int.neg_tdiv];simp
     rw[zb,zb,zf,hi,ir j,U O]
     simp only[uL]
     generalize N/d=Q at E F P old
     rw[zb,zf,hi,yV,E,zb,zb,zf,hi,zb,yV,F,zb,xB (by simp;lia),zf,zb]
     refine q _ ⟨d+1,gT,W,W,by simp;lia,λy hy=> ?_,?_⟩ (by show 1002-((d:J)+1).toNat<1002-(d:J).toNat;lia)
     ·obtain hy|hy:=So.1 hy
      ·obtain hy|hy:=So.1 hy
       ·exact g y hy
       ·simp only[xaa,IR,UL]at hy
        lia
      ·simp only[xaa,IR,UL]at hy
       lia
     ·refine old _ (λy hy=>xcM _<|xcM _ hy) ?_ ?_ ?_ ?_<;>simp
   ·rw[ir n,zb]
    refine q _ ⟨d+1,gT,W,W,by simp at hl⊢;lia,g,λe c a=>b e (Nat.lt_of_le_of_ne W λh=>n<|by subst h;exact Int.tmod_eq_zero_of_dvd a) a⟩ (by show 1002-((d:J)+1).toNat<1002-(d:J).toNat;lia)
  ·rw[zB]
   refine⟨t,O,W,g,λe c a=>b e (xdf λh=>v<|xal (xbo h h) c) a⟩) fu ([],1) ⟨1,O,Nm _,W,xai _,λ_ h=>wR h IR,λe c a=>by
   have:e=0:=W
   subst this
   exact wR (Int.zero_dvd.1 a) h0⟩ (by show 1002-(1:J).toNat<fu;lia)
 rw[U M];refine⟨r,O,q1,.inr ⟨q2,λy hy=> ?_⟩⟩;have⟨e,c⟩:∃e,e=y.natAbs:=⟨_,O⟩;have a:(e:J)∣x:=by rw[c];exact Int.natAbs_dvd.2 hy
 have hp:e∣N:=by rw[p];exact xdn.1 a
 have⟨m,b⟩:=hp;have hB:0<N:=W
 have hC:0<e:=xco λh=>by rw[h,xcu]at b;lia
 have ht:0<m:=xco λh=>by rw[h,xcK]at b;lia
 have k:(y=(e:J))\/(y= -(e:J)):=W
 by_cases v:e<=m
 ·have:=xaD e v;have⟨C,D,_,_⟩:=B e W a;obtain h|h:=k<;>rw[h]<;>assumption
 ·have:=xan m (W:m<=e);have hk:(m:J)∣x:=xdn.2 (by rw[<-p,b];exact Nat.dvd_mul_left _ _);have⟨_,_,w,z⟩:=B m W hk;have hv:N/m=e:=by rw[b];exact xfj _ ht
  rw[hv]at w z;obtain h|h:=k<;>rw[h]<;>assumption
end
def oo(d:K)(v:N J)(u:S):Prop:=(∀k,d<k->u k=0)/\∀j,j<=d->v.getD j 0=Bq u 0 j
def nwP(c:N J)(d:K):K->S
 |0=>F 0
 |m+1=>ML (-Uy (d-m))*nwP c d m+F (c.getD (d-m) 0)
def pK(c:N J)(d:K):∀m k,m<=k->nwP c d m k=0
 |0,k,_=>zJ k
 |m+1,k,h=>by
  show(ML _*nwP c d m+F _) k=0;rw[zK,L6,pK c d m k W,zB,pK c d m (k-1) W];unfold F;rw[zB];simp
def zgB{d:K}{c:N J}{u:S}(h1:1<=d)(q:d<=3)(a:∀k,d<k->u k=0)(hc:∀j,j<=d->c.getD j 0=Bq u j j):nwP c d (d+1)=u:=by
 have⟨G,h⟩:∃G:K->J,∀j,c.getD j 0=G j:=⟨λj=>c.getD j 0,λ_=>O⟩;have hc:∀j,j<=d->G j=Bq u j j:=λj n=>(h j).symm.trans<|hc j n;have c0:=hc 0 W;have c1:=hc 1 W;have b:Uy 0=0:=O;have e:Uy 1=1:=O;have i:Uy 2= -1:=O;have d0:Bq u 0 0=u 0:=by simp[Bq,b]
 have d1:Bq u 1 1=u 1+u 2+u 3:=by simp[Bq]
 have d2:Bq u 2 2=u 2:=by simp[Bq]
 have d3:Bq u 3 3=u 3:=by simp[Bq]
 have f:∀(m k:K),nwP c d (m+1) k= -Uy (d-m)*nwP c d m k+(if k=0 then 0 else nwP c d m (k-1))+(if k=0 then G (d-m)else 0):=λm k=>by
  show(ML _*nwP c d m+F _) k=_;rw[zK,L6,h];rfl
 have h0:∀k,nwP c d 0 k=0:=zJ;rw[d0]at c0;rw[d1]at c1;funext k;by_cases o:d<k
 ·rw[a k o,pK _ _ _ _ W]
 have:d=1\/d=2\/d=3:=W
 obtain rfl|rfl|rfl:=this
 ·have p:=a 2 W;have g:=a 3 W;have:k=0\/k=1:=W
  obtain rfl|rfl:=this<;>simp[f,h0,c0,c1,b,e,p,g]
 ·have c2:=hc 2 W;rw[d2]at c2;have g:=a 3 W;have:k=0\/k=1\/k=2:=W
  obtain rfl|rfl|rfl:=this<;>simp[f,h0,c0,c1,c2,b,e,i,g]<;>lia
 ·have c2:=hc 2 W;have l:=hc 3 W;rw[d2]at c2;rw[d3]at l;have:k=0\/k=1\/k=2\/k=3:=W
  obtain rfl|rfl|rfl|rfl:=this<;>simp[f,h0,c0,c1,c2,l,b,e,i]<;>lia
def IQ{d j:K}(h:j<=d:=by lia):((xaH<|d+1).map Uy).getD j 0=Uy j:=by
 rw[H1,xcg,xdR W];rfl
def mz(d:K):X ((xaH<|d+1).map Uy)=d+1:=gT
def zec{fu d k:K}{c v:N J}(D:d<=3)(w:1<=k)(E:k<=d)(hl:i0 c=d+1)(l:∀j,(c.getD j 0).natAbs<=2^(k-1)*1000000)(hc:∀u,oo d v u->∀j,j<=d->c.getD j 0=Bq u (min (k-1) j) j)(F:3000000<=fu):
 ∃r,zg (Y2 fu (k:J)) fu ((xaH<|d+1).map Uy,(d:J),c)=Z r/\((∃a,r=.inl ((xaH<|d+1).map Uy,a)/\i0 a=d+1/\(∀j,(a.getD j 0).natAbs<=2^k*1000000)/\∀u,oo d v u->∀j,j<=d->a.getD j 0=Bq u (min k j) j)\/(r=.inr ()/\∀u,¬oo d v u)):=by
 have hp:(2:K)^k=2*2^(k-1):=by obtain⟨n,rfl⟩:∃n,k=n+1:=⟨k-1,W⟩;rw[xbf,xfi,xaO]
 have x:(2:K)^(k-1)<=2^2:=xav gS W;have G:(2:K)^2=4:=O;have⟨M,m⟩:∃M,M=2^(k-1)*1000000:=⟨_,O⟩;have H:M<=4000000:=by rw[m];exact xan 1000000 x
 rw[hp,xaP,<-m];rw[<-m]at l
 refine ya (λs:N J×J×N J=>∃(i:K) (a:N J),s=((xaH<|d+1).map Uy,(i:J)-1,a)/\k<=i/\i<=d+1/\i0 a=d+1/\(∀j,(a.getD j 0).natAbs<=2*M)/\(∀j,j<i->(a.getD j 0).natAbs<=M)/\∀u,oo d v u->∀j,j<=d->a.getD j 0=Bq u (if j<i then min (k-1) j else min k j) j) (λs=>(s.2.1+1).toNat) _ ?_ fu _
  ⟨d+1,c,gT,W,Nm _,hl,λj=>by have:=l j;lia,λj _=>l j,λu b j e=>by rw[zT];exact hc u b j e⟩ (by show((d:J)+1).toNat<fu;lia)
 rintro s L ⟨i,a,rfl,P,Q,hn,q,o,g⟩ y;unfold Y2;simp only;by_cases h:k<i
 ·obtain⟨n,rfl⟩:∃n,i=n+1:=⟨i-1,W⟩;have⟨hi,hv⟩:=zk9 (i:=n) (j:=n-k) W W;have b1:=o n W;have b2:=o (n-1) W;have e1:((n+1:K):J)-1=(n:J):=W
  rw[e1,zT,zo (by rw[mz];lia),zf,zb,(W:(n:J)-k=((n-k:K):J)),zo (by rw[mz];lia),zf,IQ,IQ];generalize z:Uy n-Uy (n-k)=X at hi hv;rw[zb,zY,zf,zb,(W:(n:J)-1=((n-1:K):J)),zY,zf,zb,xB hi,zf];have p:∀u,oo d v u->a.getD n 0-a.getD (n-1) 0=Bq u k n*X:=λu b=>by
   have t1:=g u b n W;have t2:=g u b (n-1) W;rw[zT,xce W]at t1;rw[zT,xce W]at t2;rw[t1,t2,zeE u w W W,z]
  generalize A:a.getD n 0-a.getD (n-1) 0=Y at p;by_cases h0:xca Y X=0
  ·have B:(xct Y X).natAbs<=2*M:=by
    rw[Int.natAbs_tdiv];exact xal (xcp _ _) W
   have C:Jx (xct Y X):=⟨W,W⟩;rw[iq h0,zY,zf,zb,zY,zf,A,zb,xB hi,lu C,zY,zf,zb];have hd:∀j,(a.set n<|xct Y X).getD j 0=if j=n then xct Y X else a.getD j 0:=λj=>by
    rw[H1,List.getElem?_set];by_cases e:n=j
    ·subst e;rw[iq O,zT,iq O];rfl
    ·rw[ir e,zB,H1]
   refine y _ ⟨n,_,by rw[(W:((n-1:K):J)=(n:J)-1)],W,W,by rw[xbC];exact hn,λj=> ?_,λj e=> ?_,λu b j e=> ?_⟩ (by show(((n-1:K):J)+1).toNat<(((n+1:K):J)-1+1).toNat;lia)
   ·rw[hd];split
    ·exact B
    ·exact q j
   ·rw[hd,zB];exact o j W
   ·rw[hd];by_cases t:j=n
    ·subst t;rw[iq O,zB,xce W,p u b];exact Int.mul_tdiv_cancel _ hi
    ·rw[ir t,g u b j e];by_cases f:j<n
     ·rw[zT,iq f]
     ·rw[zB,ir f]
  ·rw[ir h0];refine⟨_,O,.inr ⟨O,λu b=>h0 ?_⟩⟩;rw[p u b];exact Int.mul_tmod_left _ _
 ·obtain rfl:i=k:=W
  rw[zB];refine⟨_,O,.inl ⟨a,O,hn,q,λu b j e=> ?_⟩⟩;rw[g u b j e];by_cases f:j<i
  ·rw[iq f,Nat.min_eq_right W,Nat.min_eq_right W]
  ·rw[ir f]
def iu{fu d:K}{v:N J}(h1:1<=d)(B:d<=3)(hl:X v=d+1)(E:∀j,(v.getD j 0).natAbs<=1000000)(e:3000000<=fu):
 ∃p ok,ZI fu ((xaH<|d+1).map Uy) v=Z (p,ok)/\zQ p=p/\X p<=d+1/\yH 60 p/\∀u,oo d v u->ok=wF/\(G p:S)=u:=by
 unfold ZI
 have⟨r,q,w⟩:=ya (f:=YR fu<|(xaH<|d+1).map Uy) (λs:J×N J=>∃(k:K) (c:N J),s=((k:J),c)/\1<=k/\k<=d+1/\X c=d+1/\(∀j,(c.getD j 0).natAbs<=2^(k-1)*1000000)/\∀u,oo d v u->∀j,j<=d->c.getD j 0=Bq u (min (k-1) j) j) (λs=>d+1-s.1.toNat)
  (λr=>(∃c,r=.inl c/\X c=d+1/\(∀j,(c.getD j 0).natAbs<=8000000)/\∀u,oo d v u->∀j,j<=d->c.getD j 0=Bq u j j)\/(r=.inr ()/\∀u,¬oo d v u)) (by
  rintro s L ⟨k,c,rfl,g,T,C,hd,hc⟩ y
  unfold YR
  simp only
  rw[mz]
  by_cases h:k<d+1
  ·have⟨r,q,w⟩:=zec (fu:=fu) B g W C hd hc e
   rw[zT,zb,(W:((d+1:K):J)-1=(d:J)),U q]
   rcases w with⟨H,rfl,q1,q2,A⟩|⟨rfl,q1⟩
   ·simp only
    rw[zb]
    exact y _ ⟨k+1,H,O,W,W,q1,q2,A⟩ (by show d+1-((k:J)+1).toNat<d+1-(k:J).toNat;lia)
   ·exact⟨_,O,.inr ⟨O,q1⟩⟩
  ·obtain rfl:k=d+1:=W
   rw[zB]
   have P:(2:K)^(d+1-1)<=2^3:=xav gS W
   refine⟨_,O,.inl ⟨c,O,C,λj=>xal (hd j)<|xan 1000000 P,λu a j o=> ?_⟩⟩
   rw[hc u a j o,Nat.min_eq_right W]) fu (1,[]++v) ⟨1,v,O,Nm 1,W,hl,λj=>by have:=E j;simpa using this,λu a j o=>by rw[xce W];exact a.2 j o⟩ (by show d+1-(1:J).toNat<fu;lia)
 rw[xB (by simp;lia),zf,U q];rcases w with⟨c,rfl,q1,q2,A⟩|⟨rfl,q1⟩
 ·simp only;rw[mz,zb,(W:((d+1:K):J)-1=(d:J))]
  have⟨p,hp,i,b,l⟩:=ya (f:=Xj fu ((xaH<|d+1).map Uy) c) (λs:N M×J=>∃(m:K) (p:N M),s=(p,(d:J)-m)/\m<=d+1/\zQ p=p/\(G p:S)=nwP c d m/\yH (12*m) p) (λs=>(s.2+1).toNat)
   (λp=>zQ p=p/\(G p:S)=nwP c d (d+1)/\yH 60 p) (by
   rintro s L ⟨m,p,rfl,V,i,b,l⟩ y
   unfold Xj
   simp only
   by_cases h:m<d+1
   ·have hi:X p<=m:=lF (show p=wk (X p) (G p)from i.symm) λk g=>by rw[b];exact pK _ _ _ _ g
    have o:d-m<=3:=W
    have hn:(-Uy (d-m)).natAbs<=1000:=by
     have:d-m=0\/d-m=1\/d-m=2\/d-m=3:=W
     obtain h|h|h|h:=this<;>rw[h]<;>decide
    have⟨t,Q,t1,t2,t3,t4⟩:=zkx (fu:=fu) (x:=0-Uy (d-m)) W e
    have⟨z,n,R,z2,z3⟩:=zkX (fu:=fu) (x:=c.getD (d-m) 0) (by have:=q2<|d-m;lia) e
    have D:=ZO l t4
    have Y:=qB p t
    rw[zT,(W:(d:J)-m=((d-m:K):J)),zo (by rw[mz];lia),zf,IQ,zb,U Q,U<|QT l t4 W W e,zY,zf,U n,U<|Y6 D (z3.mono W) W W W e,zb]
    refine y _ ⟨m+1,_,by rw[(W:((d-m:K):J)-1=(d:J)-((m+1:K):J))],W,(kZ _ _).symm,?_,?_⟩ (by show(((d-m:K):J)-1+1).toNat<((d:J)-m+1).toNat;lia)
    ·have e1:=iw (yS p t) z
     unfold Kn at e1
     rw[e1,vZ,b,t1,R,zk,xfX]
     rfl
    ·exact yN λj=>((D.bz j).add<|(z3.mono (W:1<=12*m+1+X p)).bz j).mono W
   ·obtain rfl:m=d+1:=W
    rw[zB]
    exact⟨_,O,i,b,l.mono W⟩) fu ([],(d:J)) ⟨0,[],gT,xai _,O,qR λk=>by show G [] k=F 0 k;rw[zJ];exact zW (xai k),λz n=>wR n IR⟩ (by show((d:J)+1).toNat<fu;lia)
  rw[U hp];refine⟨p,wF,O,i,?_,l,λu a=>⟨O,?_⟩⟩
  ·exact lF (show p=wk (X p) (G p)from i.symm) λk g=>by rw[b];exact pK _ _ _ _ g
  ·rw[b];exact zgB h1 B a.1<|A u a
 ·exact⟨[],I,O,O,xai _,λz n=>wR n IR,λu a=>wR a<|q1 u⟩
section
variable{fu d B K:wr}{a:xS Zr}
def cQ:N (N J)->wr->N J
 |[],_=>[]
 |l::ls,t=>l.getD (t%X l) 0::cQ ls (t/X l)
def W1:N (N J)->wr
 |[]=>1
 |l::ls=>X l*W1 ls
def sr(l:N J):∀ls,W1 (ls++[l])=W1 ls*X l
 |[]=>by show X l*1=1*X l;lia
 |x::ls=>by show X x*W1 (ls++[l])=X x*W1 ls*X l;rw[sr l ls,xaP]
def Pe:∀(ls:N (N J)) (t:wr),X (cQ ls t)=X ls
 |[],_=>rfl
 |l::ls,t=>by show(cQ ls _).length+1=X ls+1;rw[Pe ls]
def za0{M:wr}:∀{ls:N (N J)} (t j:wr),(∀l∈ls,∀y∈l,y.natAbs<=M)->((cQ ls t).getD j 0).natAbs<=M
 |[],t,j,_=>by show(([]:N J).getD j 0).natAbs<=M;simp
 |l::ls,t,j,h=>by
  cases j with
  |zero=>
   show(l.getD (t%X l) 0).natAbs<=M;by_cases hl:t%X l<X l
   ·rw[H1,xah hl];exact h l (FS) _<|xbE hl
   ·rw[H1,xbD W];exact xai _
  |succ j=>exact za0 (ls:=ls) (t/X l) j λx b=>h x<|UV _ b
def NB:∀{ls:N (N J)}{w:N J},X w=X ls->(∀j,j<X ls->w.getD j 0∈ls.getD j [])->∃t,t<W1 ls/\cQ ls t=w
 |[],w,h,_=>⟨0,Nat.one_pos,(xbs.1 h).symm⟩
 |l::ls,[],h,_=>by simp at h
 |l::ls,y::w,h,c=>by
  have⟨t,f,e⟩:=NB (ls:=ls) (w:=w) (by simpa using h) λj b=>c (j+1) (by simpa using b);have h0:y∈l:=c 0 gT;have⟨j,b,e0⟩:=xcr h0;refine⟨j+X l*t,?_,?_⟩
  ·show _<X l*W1 ls;have:=xaD (X l) (W:t+1<=W1 ls);rw[xbk,xdU]at this;lia
  ·show l.getD ((j+X l*t)%X l) 0::cQ ls ((j+X l*t)/X l)=y::w;rw[xbV,xam b,xcm _ _ W,xbg b,xaJ,e,H1,xah b,<-e0];rfl
def zjp{t:wr}{ls:N (N J)}{n:J}(hl:X ls<=10)(h0:∀l∈ls,l≠[]/\X l<=4000)(e:t<=1000000)(o:3000000<=fu):zg (QY fu ls) fu (a,n,[],0,(t:J))=Z (a,n,cQ ls t):=by
 refine zA (λs:N M×J×N J×J×J=>∃(i k:wr) (v:N J),s=(a,n,v,(i:J),(k:J))/\i<=X ls/\k<=1000000/\X v=i/\v++cQ (ls.drop i) k=cQ ls t) (λs=>X ls-s.2.2.2.1.toNat) _ ?_ fu _ ⟨0,t,[],O,xai _,e,O,O⟩ (by show X ls-(0:J).toNat<fu;lia);rintro s L ⟨i,k,v,rfl,hi,f,hv,b⟩ g;unfold QY;simp only;by_cases h:i<X ls
 ·have c:ls.getD i []=ls[i]:=by rw[H1,xah h];rfl
  have⟨l0,l1⟩:=h0 _<|xbE h;rw[xbT h]at b;rw[zT,zo h,zf,zo h,zf,c];generalize ls[i]=l at l0 l1 b c⊢;have hp:0<X l:=List.length_pos_iff.2 l0;have j:=xaS k hp;have m:Jx ((k/X l:wr):J):=by
   have:=xcp k (X l);generalize k/X l=q at this⊢;exact⟨W,W⟩
  rw[yV,zf,show xca (k:J) (X l:J)=((k%X l:wr):J)from O,zo j,zf,xB (by simp;lia),zf,zo h,zf,c,yV,show xct (k:J) (X l:J)=((k/X l:wr):J)from O,lu m,zb];refine g _ ⟨i+1,k/X l,_,O,W,xal (xcp _ _) f,by rw[xap,hv];rfl,?_⟩ (by show X ls-((i:J)+1).toNat<X ls-(i:J).toNat;lia);rw[xaf];exact b
 ·rw[zB];obtain rfl:i=X ls:=W
  rw[List.drop_length]at b;have:v=cQ ls t:=by rw[<-b];simp[cQ]
  rw[this]
def zmj(i:wr)(a:N M)(d m:J)(hi:i<=1000):(ck ((2:J)≠0)<|nm (xca (i:J) (2:J)) λb=>if b=(0:J)then Q (0-(((i+1)/2:wr):J)) λc=>Z (a,d,m,c)else Z (a,d,m,(((i+1)/2:wr):J)):V (N M×J×J×J))=Z (a,d,m,Uy i):=by
 rw[xB gS,zf,show xca (i:J) (2:J)=((i%2:wr):J)from O];unfold Uy;by_cases h:i%2=0
 ·rw[zT,iq h,zb,xfX]
 ·rw[zB,ir h]
def zcy{i:wr}(h:i<=3):(Uy i).natAbs<4/\(0-Uy i).natAbs<=1000:=by
 have:i=0\/i=1\/i=2\/i=3:=W
 obtain rfl|rfl|rfl|rfl:=this<;>decide
def Plc(a:S)(j:wr)(l:N J):Prop:=∃v,Ev a (Uy j) v/\l≠[]/\X l<=4000/\(∀y∈l,y.natAbs<=1000000)/\∀y,y∣v->y∈l
def zch(t:yH K a)(H:K<=1000)(u:∀j,Bb B<|G a j)(P:B<=40)(hl:X a<=7)(Q:d<=3)(c:3000000<=fu):
 ∃r,zg (Q5 fu a (d:J) 2500) fu ([],[],1,0)=Z r/\((∃ls,r=.inl ((xaH<|d+1).map Uy,ls,((W1 ls:wr):J))/\X ls=d+1/\W1 ls<=2500/\∀j,j<=d->Plc (G a) j (ls.getD j []))\/
  (r=.inr ([],I))\/∃(g:N M) (i:wr),r=.inr (g,wF)/\i<=d/\zQ g=g/\X g<=2/\(G g:S)=ML (-Uy i)/\Zd (G g) (G a)):=by
 refine ya (λs:N J×N (N J)×J×J=>∃(i:wr) (ls:N (N J)),s=((xaH i).map Uy,ls,((W1 ls:wr):J),(i:J))/\i<=d+1/\X ls=i/\W1 ls<=2500/\∀j,j<i->Plc (G a) j (ls.getD j [])) (λs=>d+1-s.2.2.2.toNat) _ ?_ fu _ ⟨0,[],O,xai _,O,gS,λj f=>wR f<|xbn _⟩ (by show d+1-(0:J).toNat<fu;lia);rintro s L ⟨i,ls,rfl,hi,hd,hn,hp⟩ w;unfold Q5;simp only;by_cases h:i<=d
 ·have⟨y,z⟩:=zcy (i:=i) W;have⟨v,e1,n,o⟩:=AE (fu:=fu) t W W y u W c;have o:v.natAbs<2^62:=xao o (xav gS W);have A:Bz 1 v:=by unfold Bz;lia
  rw[zT,zb,xB gS,(W:(i:J)+1=((i+1:wr):J)),show xct ((i+1:wr):J) (2:J)=(((i+1)/2:wr):J)from O,zb,U<|zmj i a (d:J) 2500 W];simp only;rw[U<|ZB ⟨W,W⟩,U e1,U<|kv (A.ok gS) c,zn];by_cases h0:v=0
  ·have⟨g,g1,k,C,D,_⟩:=zkx (fu:=fu) z c;rw[iq<|xi.2 h0,zb,U g1];rw[xfX]at k;refine⟨_,O,.inr (.inr ⟨g,i,O,h,C,D,k,?_⟩)⟩;rw[k];subst h0;exact n.root
  ·have⟨l,l1,p,b⟩:=ga (fu:=fu) (x:=v) W h0 c;rw[ir λh=>h0<|xi.1 h,U l1];by_cases e:l=[]
   ·rw[iq<|by rw[e];rfl];exact⟨_,O,.inr (.inl O)⟩
   ·have R:0<X l:=List.length_pos_iff.2 e;have T:W1 ls*X l<=2500*4000:=xbo hn p;have hc:((W1 ls:wr):J)*(X l:J)=((W1 ls*X l:wr):J):=gT
    rw[zB,hc,zb];by_cases q:(2500:J)<((W1 ls*X l:wr):J)
    ·rw[iq q];exact⟨_,O,.inr (.inl O)⟩
    ·rw[ir q,zb,xB (by simp;lia),zf,xB (by rw[hd];simp;lia),zf,zb];refine w _ ⟨i+1,ls++[l],by rw[sr,xdl,xaW];rfl,W,by rw[xap,hd];rfl,by rw[sr];lia,λj f=> ?_⟩ (by show d+1-((i:J)+1).toNat<d+1-(i:J).toNat;lia);by_cases E:j=i
     ·have m:(ls++[l]).getD j []=l:=by rw[H1,xbj W,(W:j-X ls=0)];rfl
      rw[m,E];obtain b|⟨b,F⟩:=b
      ·exact wR b e
      ·exact⟨v,n,e,p,b,F⟩
     ·have m:(ls++[l]).getD j []=ls.getD j []:=by rw[H1,xaR W,H1]
      rw[m];exact hp j W
 ·obtain rfl:i=d+1:=W
  rw[zB];exact⟨_,O,.inl ⟨ls,O,hd,hn,λj f=>hp j W⟩⟩
def Ak(T:yH K a)(hK:K<=1000)(bA:∀j,Bb B<|G a j)(hB:B<=40)(hl:X a<=7)(h1:1<=d)(V:d<=3)(z:3000000<=fu):
 ∃g ok,Qz fu a (d:J) 2500=Z (g,ok)/\(ok=wF->(g=[]/\∀u m,Tp u m->1<=m->m<=d->¬Zd u (G a))\/(zQ g=g/\Pm (G g)/\Po (G g)/\2<=X g/\X g<=d+1/\Zd (G g) (G a))):=by
 unfold Qz;have⟨r,hr,hQ⟩:=zch (fu:=fu) T hK bA hB hl V z;rw[U hr];rcases hQ with⟨ls,rfl,Y,hn,hp⟩|rfl|⟨g,i,rfl,hi,g1,g2,E,g4⟩
 ·simp only;have H:∀l∈ls,l≠[]/\X l<=4000/\∀y∈l,y.natAbs<=1000000:=λl b=>by
   obtain⟨j,o,rfl⟩:=xcr b;have⟨v,_,q1,q2,P,_⟩:=hp j W;rw[H1,xah o]at q1 q2 P;exact⟨q1,q2,P⟩
  have⟨s,hs,hS⟩:=ya (f:=QK fu a ((W1 ls:wr):J)) (λs:N J×J×N (N J)=>∃t:wr,s=((xaH<|d+1).map Uy,(t:J),ls)/\t<=W1 ls/\∀c,c<t->∀u m,Tp u m->1<=m->m<=d->Zd u (G a)->¬oo d (cQ ls c) u) (λs=>W1 ls-s.2.1.toNat)
   (λr=>(r=.inl ()/\∀c,c<W1 ls->∀u m,Tp u m->1<=m->m<=d->Zd u (G a)->¬oo d (cQ ls c) u)\/∃g:N M,r=.inr g/\zQ g=g/\Pm (G g)/\Po (G g)/\2<=X g/\X g<=d+1/\Zd (G g) (G a)) (by
   rintro s L ⟨t,rfl,A,hc⟩ ih
   unfold QK
   simp only
   by_cases h:t<W1 ls
   ·have⟨p,ok,p1,R,p3,p4,S⟩:=iu (fu:=fu) (d:=d) (v:=cQ ls t) h1 V (by rw[Pe];exact Y) (λj=>za0 t j λl b=>(H l b).2.2) z
    rw[zT,U<|zjp W (λl b=>⟨(H l b).1,(H l b).2.1⟩) W z]
    simp only
    rw[U p1]
    simp only
    have go:(∀u m,Tp u m->1<=m->m<=d->Zd u (G a)->¬oo d (cQ ls t) u)->∃r,(Q ((t:J)+1) λx=>L ((xaH<|d+1).map Uy,x,ls))=Z r/\((r=.inl ()/\∀c,c<W1 ls->∀u m,Tp u m->1<=m->m<=d->Zd u (G a)->¬oo d (cQ ls c) u)\/∃g:N M,r=.inr g/\zQ g=g/\Pm (G g)/\Po (G g)/\2<=X g/\X g<=d+1/\Zd (G g) (G a)):=λhv=>by
     rw[zb];refine ih _ ⟨t+1,O,W,λc ho=> ?_⟩ (by show W1 ls-((t:J)+1).toNat<W1 ls-(t:J).toNat;lia);by_cases h2:c=t
     ·subst h2;exact hv
     ·exact hc c W
    cases ok with
    |false=>
     simp only[xeQ,uL]
     exact go λu m _ _ _ _ n=>nomatch(S u n).1
    |true=>
     simp only[xcW,xak,ut]
     have hq:∀u m,Tp u m->oo d (cQ ls t) u->X p=m+1:=λu m b n=>by
      have⟨_,e⟩:=S u n;rw[<-e]at b;exact LQ R b
     by_cases h2:X p<2
     ·rw[zT]
      exact go λu m b hd _ _ n=>by have:=hq u m b n;lia
     ·rw[zB]
      have hx:X (zQ p)≠0:=by rw[R];lia
      have⟨P1,P2⟩:=ZD hx
      have hy:=kF p
      rw[R]at hy
      have oP:=n8 p4
      have hA:X (zQ<|y7 p)≠0:=by rw[vq];lia
      have hE:(X a+1)*(60+1)<=8*61:=xan 61 W
      have⟨q,e,q1,q2,P⟩:=cT (fu:=fu) T oP W W W hA z
      rw[U (VJ p4 gS),U q1]
      simp only
      by_cases C:e=0
      ·rw[iq C]
       exact⟨_,O,.inr ⟨_,O,vq p,P1,P2,W,W,q2.1 C⟩⟩
      ·rw[ir C]
       refine go λu m b hd _ D n=>C<|q2.2 ?_
       have⟨_,e2⟩:=S u n
       have h6:Zd (G<|y7 p) (G p):=⟨F<|yn p,Fs.pc _,(K0 p).symm⟩
       rw[e2]at h6
       exact h6.trans D
   ·rw[zB]
    obtain rfl:t=W1 ls:=W
    exact⟨_,O,.inl ⟨O,hc⟩⟩) fu ((xaH (d+1)).map Uy,0,ls) ⟨0,O,xai _,λc ho=>wR ho (xbn _)⟩ (by show W1 ls-(0:J).toNat<fu;lia)
  rw[U hs];rcases hS with⟨rfl,hc⟩|⟨g,rfl,g1⟩
  ·refine⟨_,_,O,λ_=> .inl ⟨O,λu m b hd hC D=> ?_⟩⟩;have hD:∀k,4<=k->u k=0:=λk hk=>b.2 k W;have hw:∀j,j<=d->((xaH<|d+1).map<|Bq u 0).getD j 0=Bq u 0 j:=λj o=>by rw[H1,xcg,xdR W];rfl
   have⟨t,A,e⟩:=NB (ls:=ls) (w:=(xaH<|d+1).map<|Bq u 0) (by simp[Y]) λj o=>by
    have⟨v,q1,_,_,_,q5⟩:=hp j W;rw[hw j W];exact q5 _<|Ev.dvd b.fs D (Ev.four hD<|Uy j) q1
   refine hc t A u m b hd hC D ⟨λk hk=>b.2 k W,λj o=> ?_⟩;rw[e,hw j o]
  ·exact⟨_,_,O,λ_=> .inr g1⟩
 ·exact⟨_,_,O,λh=>nomatch h⟩
 ·simp only;have A:Tp (G g) 1:=by rw[E];exact RQ _
  have hF:=LQ g1 A;refine⟨_,_,O,λ_=> .inr ⟨g1,by rw[E];exact zmX _,by rw[E];exact zmk _,W,W,g4⟩⟩
end
section
structure Pt(A:N M)(a:N M):Prop where
 can:zQ a=a
 pm:Pm (G a)
 ps:Po (G a)
 ln:2<=a.length
 dv:Zd (G a) (G A)
section
variable{A:xS Zr}{n B0:wr}(tA:Tp (cf A) n)(hn:n<=6)(bA:∀j,Bb B0<|cf A j)(hB:B0+n+4<=40)
 include tA hn bA hB
def Pt.sz{a:N M}(h:Pt A a):yH 1 a/\X a<=n+1/\∀j,Bb 40 (G a j):=by
 have⟨w,b,e⟩:=h.dv;rw[zk]at e;have⟨o1,o2,_⟩:=zow (K:=1) tA W bA b h.can e W;exact⟨o1,o2,λj=>(sL tA (Fs.cf a) b e W bA j).mono W⟩
def Pt.gd{a:N M}(h:Pt A a)(hi:Ir (G a)):Gd a:=by
 have⟨o,l,_⟩:=Pt.sz tA hn bA hB h;exact⟨h.can,hi,h.ps,o.mono gS,W⟩
def YJ:∀(k:K) (a:N M) (fu:K),X a<=k->Pt A a->3000000+k<=fu->
 ∃l ok,jB fu a 2500=Z (l,ok)/\X l+1<=X a/\(∀q∈l,Gd q)/\(ok=wF->(G a:S)=prZ (l.map G))
 |0,a,fu,h,c,_=>by have:=c.ln;lia
 |k+1,a,fu,h,c,hf=>by
  obtain⟨F,rfl⟩:∃F,fu=F+1:=⟨fu-1,W⟩;have⟨Q,la,ba⟩:=Pt.sz tA hn bA hB c;have hv:=c.ln;have o:Tp (G a) (X a-1):=by have:=kR (a:=a) (by rw[c.can];lia);rwa[c.can]at this
  unfold jB
  have⟨r,hr,hQ⟩:=ya (f:=XG F (jB F) a 2500) (λs:J=>∃d:K,s=(d:J)/\1<=d/\d<=4/\∀u m,Tp u m->1<=m->m<d->¬Zd u (G a)) (λs=>5-s.toNat)
   (λr=>(r=.inl ()/\∀u m,Tp u m->1<=m->2*m<X a->¬Zd u (G a))\/∃l ok,r=.inr (l,ok)/\X l+1<=X a/\(∀q∈l,Gd q)/\(ok=wF->(G a:S)=prZ (l.map G))) (by
   rintro s L ⟨d,rfl,d1,d4,B⟩ ih
   unfold XG
   rw[zb]
   by_cases hd:2*d<X a
   ·have⟨g,ok,g1,g2⟩:=Ak (fu:=F) (d:=d) Q gS ba gS W d1 W W
    rw[zT,U g1]
    simp only
    cases ok with
    |false=>simp only[xeQ,uL];exact⟨_,O,.inr ⟨[],I,O,by simp;lia,λq t=>wR t IR,λh=>nomatch h⟩⟩
    |true=>
     simp only[xcW,xak,ut]
     rcases g2 O with⟨rfl,g3⟩|⟨gc,gp,go,gl,a0,R⟩
     ·rw[ir gT,zb]
      refine ih _ ⟨d+1,O,W,W,λu m C hl hw hz=> ?_⟩ (by show 5-((d:J)+1).toNat<5-(d:J).toNat;lia)
      exact g3 u m C hl W hz
     ·have T:Pt A g:=⟨gc,gp,go,gl,R.trans c.dv⟩
      have⟨og,lg,bg⟩:=Pt.sz tA hn bA hB T
      have hu:(X a+1)*(1+1)<=8*2:=xan 2 W
      have⟨b,e,b1,b2,b3⟩:=cT (fu:=F) Q og W W W (by rw[gc];lia) W
      have he:=b2.2 R
      have⟨p,V,b6⟩:=b3 he
      have tg:Tp (G g) (X g-1):=by have:=kR (a:=g) (by rw[gc];lia);rwa[gc]at this
      have⟨nb,_⟩:=kT o.nz p
      have⟨i,hi⟩:=Tp.ex (Fs.cf b) nb
      have w:=hi.mul tg
      rw[<-p]at w
      have Y:=w.uniq o
      have h5:=LQ V hi
      have pb:Pm (G b):=(show Pm (G b*G g)by rw[<-p];exact c.pm).left
      have sb:Po (G b):=by
       have⟨x,D,E⟩:=c.ps.tp;have⟨y,H,y2⟩:=go.tp;obtain rfl:=D.uniq o;obtain rfl:=H.uniq tg;refine⟨i,?_,hi.2⟩;have h6:=Vz (f:=G b) (g:=G g) hi.2 tg.2;rw[Y,<-p]at h6;rw[h6]at E;exact Int.pos_of_mul_pos_left E y2
      have Pb:Pt A b:=⟨V,pb,sb,W,(Zd.left<|Fs.cf g).trans<|by rw[<-p];exact c.dv⟩
      have⟨x,xo,D,E,x3,x4⟩:=YJ k g F W T W
      have⟨y,yo,H,y2,y3,y4⟩:=YJ k b F W Pb W
      rw[zT,zT,U b1]
      simp only
      rw[U D]
      simp only
      rw[U H]
      simp only
      rw[yV,zf]
      have hg:∀q∈x++y,Gd q:=λq t=>(So.1 t).elim (x3 q)<|y3 q
      have hk:X (x++y)+1<=X a:=by rw[xap];lia
      cases xo with
      |false=>rw[ir gS];exact⟨_,O,.inr ⟨_,_,O,hk,hg,λh=>nomatch h⟩⟩
      |true=>
       rw[iq O]
       refine⟨_,O,.inr ⟨_,_,O,hk,hg,λh=> ?_⟩⟩
       rw[xaW,wi,<-x4 O,<-y4 h,zk]
       exact p
   ·rw[zB]
    exact⟨_,O,.inl ⟨O,λu m C hl hx=>B u m C hl W⟩⟩) F 1 ⟨1,O,Nm 1,gS,λu m _ h1 h2=>by lia⟩ (by show 5-(1:J).toNat<F;lia)
  rw[U hr];rcases hQ with⟨rfl,B⟩|⟨l,ok,rfl,q⟩
  ·have ho:Ir (G a):=⟨Fs.cf a,c.pm,λhc=>by have:=(KC.tp o).1 hc;lia,λu v z fv e=>by
    have⟨nu,nv⟩:=kT o.nz e;have⟨i,hi⟩:=Tp.ex z nu;have⟨j,P⟩:=Tp.ex fv nv;have w:=hi.mul P;rw[<-e]at w;have Y:=w.uniq o;by_cases hp:i=0
    ·exact .inl<|(KC.tp hi).2 hp
    by_cases ht:j=0
    ·exact .inr<|(KC.tp P).2 ht
    exfalso;by_cases h5:i<=j
    ·exact B u i hi W W ⟨v,fv,by rw[e,zk]⟩
    ·exact B v j P W W ⟨u,z,e⟩⟩
   refine⟨[a],wF,O,by simp;lia,λq t=> ?_,λ_=> ?_⟩
   ·rw[xad.1 t];exact Pt.gd tA hn bA hB c ho
   ·show _=(G a:S)*pc 1;rw[zk,zw]
  ·exact⟨l,ok,O,q⟩
end
def MY{q:N Zr}{M:J}(a:0<=M):∀{l:N (N Zr×J)},(∀x∈l,0<=x.2/\x.2<=M)->∀y∈Kt q 1 l,0<=y.2/\y.2<=M+1
 |[],_,y,hy=>by rw[xad.1 hy];constructor<;>lia
 |x::l,h,y,hy=>by
  have c:=h x<|FS;have hl:=λz b=>h z<|UV _ b;unfold Kt at hy;split at hy
  ·obtain rfl|hy:=xaa.1 hy
   ·constructor<;>lia
   ·exact MY a hl y hy
  ·split at hy
   ·obtain rfl|hy:=xaa.1 hy
    ·constructor<;>simp<;>lia
    ·have:=hl y hy;constructor<;>lia
   ·obtain rfl|hy:=xaa.1 hy
    ·constructor<;>simp<;>lia
    ·have:=h y hy;constructor<;>lia
def zii{fu:K}{l:N (N M)}(hl:X l<=10)(k:∀q∈l,Gd q)(d:3000000<=fu):∃out,zg (YY fu l) fu ([],0)=Z out/\FL (prZ<|l.map G) out:=by
 refine ya (λs:N (N M×J)×J=>∃i:K,s.2=(i:J)/\i<=X l/\FL (prZ<|(l.take i).map G) s.1/\Gl s.1/\X s.1<=i/\∀x∈s.1,0<=x.2/\x.2<=(i:J)) (λs=>X l-s.2.toNat) _ ?_ fu _ ⟨0,O,xai _,FL.num (c:=1) gS,⟨xai _,λx a=>wR a IR⟩,Nm _,λx a=>wR a IR⟩ (by show X l-(0:J).toNat<fu;lia);rintro⟨out,c⟩ L ⟨i,hc,hi,h1,g,m,j⟩ o;simp only at hc h1 g m j;subst hc;unfold YY;simp only;by_cases h:i<X l
 ·have b:=k _<|xbE h;have e:l.getD i []=l[i]:=by rw[H1,xah h];rfl
  rw[zT,zo h,zf,e,U<|Dz g b (λx a=>by have:=j x a;exact⟨W,W⟩) d,zb];refine o _ ⟨i+1,O,W,?_,g.put W b,xal Cb W,λx a=>MY W j x a⟩ (by show X l-((i:J)+1).toNat<X l-(i:J).toNat;lia);have p:=h1.put (n:=1) (Fs.prZ λf d=>by obtain⟨x,_,rfl⟩:=xat.1 d;exact Fs.cf x) b.can b.ir b.ps<|Nm 1;rw[xeL,xah h,xaW,wi];have r:pp (G l[i]:S) 1=prZ (List.map G (Z l[i]).toList):=by
   show pp (G l[i]:S) 1=(G l[i]:S)*F 1;rw[zk (G l[i]:S),zw];exact zw _
  rw[<-r];exact p
 ·rw[zB];obtain rfl:i=X l:=W
  rw[xcw]at h1;exact⟨_,O,h1⟩
def lP{fu B:K}{a:N M}(f:yH 1 a)(c:y7 a=a)(hl:2<=X a)(hc:X a<=7)(g:∀j,Bb B<|G a j)(n:B<=30)(o:3000100<=fu):
 ∃l ok,ZX fu a 2500=Z (l,ok)/\(ok=wF->FL (G a) l):=by
 have b:zQ a=a:=by rw[<-c];exact vq a
 have⟨d,e⟩:=ZD (a:=a) (by rw[b];lia);rw[c]at d e;have i:Tp (G a) (X a-1):=by have:=kR (a:=a) (by rw[b];lia);rwa[b]at this
 unfold ZX;rw[U (VJ f gS),c,zB];have⟨l,ok,h1,p,k,m⟩:=YJ i W g W (X a) a fu (Nm _) ⟨b,d,e,hl,Zd.refl _⟩ W;rw[U h1];simp only;have⟨out,q1,q2⟩:=zii (fu:=fu) W k W;rw[U q1];exact⟨out,ok,O,λh=>by rw[m h];exact q2⟩
end
abbrev Qr:=M×N K
def cq(q:Rat):Qr:=(yp q.num,yB q.den)
def MH{a b:J}(f:b≠0):(Rat.divInt a b).num=(if b<0 then-(a/(xdq a.natAbs b.natAbs:K))else a/(xdq a.natAbs b.natAbs:K))/\(Rat.divInt a b).den=(b/(xdq a.natAbs b.natAbs:K)).natAbs:=by
 have c:((xdq a.natAbs b.natAbs:K):J)∣a:=xdn.2<|xfM _ _;have e:((xdq a.natAbs b.natAbs:K):J)∣b:=xdn.2<|xdx _ _;by_cases h:b<0
 ·obtain⟨d,rfl⟩:∃d:K,b= -(d:J):=⟨b.natAbs,W⟩;have hd:d≠0:=W
  rw[xfC,xbh]at c e⊢;rw[iq h,Rat.divInt_neg',Rat.divInt_ofNat,Rat.num_mkRat,Rat.den_mkRat,ir hd,ir hd,xfC,xdF d];refine⟨Int.neg_ediv_of_dvd c,?_⟩;rw[Int.neg_ediv_of_dvd (by exact xcF.2<|xdx _ _),xfC,Int.natAbs_ediv_of_dvd<|xcF.2<|xdx _ _];rfl
 ·obtain⟨d,rfl⟩:∃d:K,b=(d:J):=⟨b.natAbs,W⟩;have hd:d≠0:=W
  rw[ir h,Rat.divInt_ofNat,Rat.num_mkRat,Rat.den_mkRat,ir hd,ir hd,xbh,xdF d];refine⟨O,?_⟩;rw[Int.natAbs_ediv_of_dvd<|xcF.2<|xdx _ _];rfl
def Ew{fu K:wr}{a b:M}(g:zm a.2)(i:zm b.2)(hc:X a.2<=K)(hd:X b.2<=K)(o:K<=10000)(c:3000000<=fu):
 Z6 fu a b=Z (if zv b=0 then(((I,[]),[]),3)else(cq<|Rat.divInt (zv a)<|zv b,0)):=by
 unfold Z6;have p:a8 a:=⟨g,W⟩;have j:a8 b:=⟨i,W⟩;rw[U<|xn j.ok c];by_cases h0:zv b=0
 ·rw[iq<|xi.2 h0,iq h0]
 ·rw[ir<|λe=>h0<|xi.1 e,ir h0,U<|Ks g i hc hd o c];have⟨h1,k⟩:=MH (a:=zv a) h0;generalize d:((xdq (zv a).natAbs (zv b).natAbs:wr):J)=G at*
  have g1:G∣zv a:=by rw[<-d];exact xdn.2<|xfM _ _
  have l:G∣zv b:=by rw[<-d];exact xdn.2<|xdx _ _
  have g0:G≠0:=λe=>h0<|Int.zero_dvd.1<|e▸l;have q:Bz K G:=(Bz.of i).mono hd|>.le (by rw[<-d,xbh];exact Nat.le_of_dvd W<|xdx _ _)
  have m:a8 (yp G):=q.okS W;rw[U<|kz p m c,zn];simp only;rw[U<|kz j m c,zn];have e1:∀{x:J},G∣x->SD x G=x/G:=λh=>by unfold SD;rw[ir g0,iq<|xaw h]
  rw[e1 g1,e1 l];have gp:0<G:=by rw[<-d];rw[<-d]at g0;lia
  have n:zv b/G<0↔zv b<0:=by
   constructor
   ·intro h;exact Int.not_le.1 λe=>wR (Int.ediv_nonneg e<|xdG gp) W
   ·intro h;exact Int.ediv_neg_of_neg_of_pos h gp
  by_cases f:zv b<0
  ·rw[iq<|(Wh _).2<|n.2 f,U<|KI (((Bz.of g).mono hc).le (xbG _ _)|>.ok W) c,zn];unfold cq;rw[h1,k,iq f];rfl
  ·rw[ir<|λe=>f<|n.1<|(Wh _).1 e];unfold cq;rw[h1,k,ir f];rfl
section
set_option maxRecDepth 100000
def Oy:Kx 4000000=Z wF:=by decide+kernel
end
section
def zce(z:M):Prop:=X z.2<=1/\(X z.2=1->z.2.getD 0 0<=1000)
def zen{fu:K}{m:N M}(n:3000000<=fu):∃c,J1 fu m=Z c/\(c=wF->X m<=5/\∀j,j<X m->zce (m.getD j (I,[]))):=by
 unfold J1;by_cases h:5<X m
 ·rw[zT];exact⟨_,O,λh=>nomatch h⟩
 rw[zB];have⟨y,h1,a⟩:=ya (f:=KG fu m) (λs:J=>∃i:K,s=(i:J)/\i<=X m/\∀j,j<i->zce (m.getD j (I,[]))) (λs=>X m-s.toNat) (λy=>y=.inr ()\/y=.inl ()/\∀j,j<X m->zce (m.getD j (I,[]))) (by
  rintro _ L ⟨i,rfl,hi,g⟩ k;unfold KG;by_cases b:i<X m
  ·rw[zT,zo b,zf];by_cases o:1<(m.getD i (I,[])).2.length
   ·rw[zT];exact⟨_,O,.inl O⟩
   ·rw[zB,zo b,zf];have step:zce (m.getD i (I,[]))->∃r,L ((i:J)+1)=Z r/\(r=.inr ()\/r=.inl ()/\∀j,j<X m->zce (m.getD j (I,[]))):=λhl=>k _ ⟨i+1,O,W,λj d=>by
     by_cases e:j=i
     ·rw[e];exact hl
     ·exact g j W⟩ W
    by_cases l:(m.getD i (I,[])).2.length=1
    ·rw[zT,zo b,zf,show(0:J)=((0:K):J)from O,zY,zf];by_cases a3:1000<(m.getD i (I,[])).2.getD 0 0
     ·rw[zT];exact⟨_,O,.inl O⟩
     ·rw[zB,zb];exact step ⟨W,λ_=>by lia⟩
    ·rw[zB,zb];exact step ⟨W,λh=>wR h l⟩
  ·rw[zB];exact⟨_,O,.inr ⟨O,λj d=>g j W⟩⟩) fu 0 ⟨0,O,xai _,λj d=>wR d (xbn _)⟩ (by show X m-(0:J).toNat<fu;lia)
 rw[U h1];obtain rfl|⟨rfl,a⟩:=a
 ·exact⟨_,O,λh=>nomatch h⟩
 ·exact⟨_,O,λ_=>⟨W,a⟩⟩
def zds{m:N M}(d:(Ty.l (.p .b (.l .u))).ok m)(h:∀j,j<X m->zce (m.getD j (I,[]))):yH 1 m/\∀j,Bb 10 (G m j):=by
 refine⟨zbs d<|Nf λj c=>(h j c).1,λj=> ?_⟩;by_cases c:j<X m
 ·have⟨h1,a⟩:=h j c;unfold Bb G;rw[vO];have⟨l,hl⟩:∃l,l=(m.getD j (false,[])).2:=⟨_,O⟩;rw[<-hl]at h1 a⊢
  match l,h1,a with
  |[],_,_=>decide
  |[x],_,a=>
   have:=a O;have e:nv [x]=x:=pW x;have:x<=1000:=this;rw[e];lia
 ·rw[zW W];unfold Bb;decide
def zap{P:N M}{l:N (N M×J)}(e:zQ P=P)(b:Pm (G P))(f:Po (G P))(oP:yH 1 P)(hl:X P<=11)(h:FL (G P) l):(∃x,l=[x]/\x.2=1)↔Ir (G P):=by
 constructor
 ·rintro⟨x,rfl,g⟩;have⟨g1,d,j,m,n⟩:=h.el x<|xad.2 O;have⟨c,c0,a⟩:=h.prod (Fs.cf P) b.nz;have e1:zn8 [x]=G x.1:=by
   show pp (G x.1:S) x.2.toNat*F 1=_;rw[g,zk,zw];exact zw _
  rw[e1]at a;have hc:=b c.natAbs λk=>by rw[a,zP];exact xbp (Int.natAbs_dvd.2<|xed c)<|xcc ..
  have i:c=1\/c= -1:=W
  obtain rfl|rfl:=i
  ·rw[a,zw];exact d
  ·rw[a];exact d.neg
 ·intro hi;exact⟨(P,1),h.uniq<|FL.one ⟨e,hi,f,oP.mono gS,hl⟩,O⟩
section
variable{fu:wr}{P:xS Zr}(cP:zQ P=P)(pP:Pm (cf P))(sP:Po (cf P))(oP:yH 1 P)(hl:2<=P.length)(hl5:P.length<=5)(hb:∀j,Bb 10<|cf P j)(hf:3000300<=fu)
 include cP pP sP oP hl hl5 hb hf
theorem ziG:∃c,vX fu P=Z (c,0)/\(c=wF↔Ir (G P)):=by
 have h0:nZ P=0:=by unfold nZ;rw[cP,zB,zB]
 rcases zlr (fu:=fu) (ds:=[]) oP gS W (by rw[cP];lia) hb gS zmo (xai _) hf with⟨h1,_⟩|⟨_,R,r1,r2,b,⟨_,l,e,h1,_⟩|⟨f,_⟩⟩
 ·exact wR h0 h1
 ·have hi:=zap cP pP sP oP W h1;by_cases d:X l=1
  ·obtain⟨x,rfl⟩:=xcN.1 d;refine⟨decide<|x.2=1,?_,?_⟩
   ·unfold vX;rw[U e];show(if x.2=1 then Z (wF,(0:J))else Z (I,0))=_;by_cases a:x.2=1
    ·rw[iq a,Z3 a]
    ·rw[ir a,uT a]
   ·rw[WW,<-hi];exact⟨λh=>⟨x,O,h⟩,λ⟨y,h,a⟩=>by rw[List.cons.inj h|>.1];exact a⟩
  ·refine⟨I,?_,⟨(λh=>nomatch h),λh=> ?_⟩⟩
   ·unfold vX;rw[U e];show(if(X l:J)=1 then _ else Z (I,(0:J)))=_;rw[zB]
   ·obtain⟨x,rfl,_⟩:=hi.2 h;exact wR O d
 ·have:=r2.ln;rw[cP]at this b;exact wR (TZ (B:=20) r2 W gS λj=>(b j).mono W) f
theorem zjL{m:N M}(e:yH 1 m)(o:X m<=5)(g:P=y7 m):(Ir (G P)/\∃t,jG fu m=Z (Z (P,t),0))\/(¬Ir (G P)/\jG fu m=Z (wL,7)):=by
 have⟨c,h1,a⟩:=ziG cP pP sP oP hl hl5 hb hf;unfold jG;rw[U<|wI e,<-g,zB,zB,U h1];simp only;rw[iq wS]
 cases c with
 |false=>rw[iq gS];exact .inr ⟨λh=>wR (a.2 h) gS,O⟩
 |true=>
  rw[ir gS];obtain⟨y,k,t,rfl⟩:=ya (f:=KB fu P) (λs=>∃(i:wr) (t:N Qr),i<=X P/\X t=i/\s=((i:J),((P,[]),t))) (λs=>X P-s.1.toNat) (λy=>∃t,y=((P,[]),t)) (by
   rintro _ L ⟨i,t,hi,l,rfl⟩ n;unfold KB;simp only;by_cases h:i<X P
   ·have b:=oP _<|Hb (i:=i);have d:=oP _<|Hb (i:=X P-1);rw[zT,U O];simp only[uL];rw[zo h,zf,zb,(W:(X P:J)-1=((X P-1:wr):J)),zY,zf,U<|Ew (K:=1) b.1 d.1 b.2 d.2 gS W];have⟨z,p⟩:∃z:Qr×J,z=(if zv (P.getD (X P-1) (false,[]))=0 then(((false,[]),[]),3)else(cq<|Rat.divInt (zv<|P.getD i (false,[]))<|zv<|P.getD (X P-1) (false,[]),0)):=⟨_,O⟩;rw[xB (by simp;lia),zf,zb];exact n _ ⟨i+1,_,W,by simp[l],O⟩ (by show X P-((i:J)+1).toNat<X P-(i:J).toNat;lia)
   ·rw[zB,U O];simp only[xak,ut];exact⟨_,O,t,O⟩) fu (0,((P,[]),[])) ⟨0,[],xai _,O,O⟩ (by show X P-(0:J).toNat<fu;lia)
  rw[U k];exact .inl ⟨a.1 O,t,O⟩
theorem zjg{t:N Qr}:kV fu (Z (P,t))=Z P:=by
 unfold kV qy;rw[ir gT,U O,ir (by show¬(X P:J)=0;lia),U O,ir gS,U O,U (zI oP gS W W),show wk (X P) (G P)=P from cP]
end
def Nv(m:N M)(F:(Ty.l (.p .b (.l .u))).ok m):jX 4000000 m=Z wF:=by
 have⟨fu,hl⟩:∃fu,fu=4000000:=⟨_,O⟩;have H:=Oy;rw[<-hl]at H⊢;have Q:3000300<=fu:=W
 unfold jX;rw[U H];by_cases hq:200<X m
 ·rw[zT]
 rw[zB];have⟨y,h1,A⟩:=ya (f:=uE fu m wF) (λs:J=>∃i:K,s=(i:J)/\i<=X m/\∀j,j<i->(m.getD j (I,[])).2.length<=10) (λs=>X m-s.toNat) (λy=>y=.inr wF\/y=.inl ()/\∀j,j<X m->(m.getD j (I,[])).2.length<=10) (by
  rintro _ L ⟨i,rfl,hi,g⟩ ih;unfold uE;by_cases hn:i<X m
  ·rw[zT,zo hn,zf];by_cases a1:10<(m.getD i (I,[])).2.length
   ·rw[zT];exact⟨_,O,.inl O⟩
   ·rw[zB,zb];refine ih _ ⟨i+1,O,W,λj C=> ?_⟩ W;by_cases e:j=i
    ·rw[e];lia
    ·exact g j W
  ·rw[zB];exact⟨_,O,.inr ⟨O,λj C=>g j W⟩⟩) fu 0 ⟨0,O,xai _,λj C=>wR C (xbn _)⟩ (by show X m-(0:J).toNat<fu;lia)
 rw[U h1];obtain rfl|⟨rfl,A⟩:=A
 ·rfl
 simp only;have n:yH 10 m:=zbs F<|Nf A;have ho:=kF m;have hr:=j7 m;rw[U<|VJ n gS];have⟨P,d⟩:∃P,P=y7 m:=⟨_,O⟩;rw[<-d]at ho⊢;have⟨c,l1,l2⟩:=zen (fu:=fu) (m:=m) W;rw[l1];by_cases w:c=I/\X P<18
 ·obtain⟨rfl,w⟩:=w;rw[U (v:=.inr wF)];rw[U O,iq gS,zT]
 rw[U (v:=.inl ())]
 ·simp only;have R:xk fu m=Z P:=by rw[d];exact wI n
  by_cases ht:17<X P
  ·rw[U (v:=(wL,6)),zT]
   ·rfl
   ·unfold jG;rw[U R,zT]
  ·have hc:c=wF:=by
    cases c with
    |true=>rfl
    |false=>exact wR ⟨O,W⟩ w
   have⟨m5,m6⟩:=l2 hc;by_cases hu:X P<2
   ·rw[U (v:=(wL,7)),zB,zT]
    ·rfl
    ·unfold jG;rw[U R,zB,zT]
   ·have⟨S,h6⟩:=zds F m6;have oP:yH 1 P:=d▸n8 S;have o:zQ P=P:=d▸vq m;have⟨q,r⟩:=ZD (a:=m) W;have D:∀j,Bb 10 (G P j):=λj=>by rw[d,uJ];exact xaK (xbG _ _)<|h6 j
    rw[<-d]at q r;have hp:y7 P=P:=Jy (vq P) o λk=>by rw[uJ,Hi o q r,Int.ediv_one]
    have⟨l,ok,f1,f2⟩:=lP (fu:=fu) oP hp W W D gS W;have T:=zjL o q r oP W W D Q S m5 d
    cases ok with
    |false=>
     rcases T with⟨_,t,e⟩|⟨_,e⟩<;>(rw[U e];simp only;rw[zB,zB,U f1];rfl)
    |true=>
     have hd:=zap o q r oP W<|f2 O;have Y:∀b:wW,(b=wF↔∃x,l=[x]/\x.2=1)->(if(X l:J)=(1:J)then zD (0:J) (X l) λj2=>B (((l.getD j2 ([],0))).2) λx3=>if x3=(1:J)then Z wF else Z I else Z I:V wW)=Z b:=λb E=>by
      by_cases hk:X l=1
      ·obtain⟨x,rfl⟩:=xcN.1 hk;show(if x.2=1 then Z wF else Z I)=_;by_cases z:x.2=1
       ·rw[iq z,E.2 ⟨x,O,z⟩]
       ·rw[ir z]
        cases b with
        |false=>rfl
        |true=>have⟨y,e,e2⟩:=E.1 O;exact wR ((List.cons.inj e).1▸e2) z
      ·rw[zB]
       cases b with
       |false=>rfl
       |true=>obtain⟨y,rfl,_⟩:=E.1 O;exact wR O hk
     rcases T with⟨hi,t,e⟩|⟨hi,e⟩
     ·rw[U e];simp only;rw[zB,zB,U f1];simp only[xcW,xak,ut];rw[U<|Y wF ⟨λ_=>hd.2 hi,λ_=>O⟩];simp only[xcW,xak,ut,uL,Option.isNone_some];rw[U<|zjg o q r oP W W D Q,U (aJ oP gS),Z3 O]
     ·rw[U e];simp only;rw[zB,zB,U f1];simp only[xcW,xak,ut];rw[U<|Y I ⟨(λh=>nomatch h),λh=>wR (hd.1 h) hi⟩];rfl
 ·rw[U O]
  cases c with
  |true=>rw[ir gS]
  |false=>rw[iq gS,ir (by have:¬X P<18:=λh=>w ⟨O,h⟩;lia)]
end
section
namespace fieldMakes
open Go.ChangeShapes Go.WideShapes Go.ChangeAt Go.RowKit
theorem own:ownKnob Tryz.prog.godebug=wL:=g8
def atW:Q0 Tryz.prog .u 73:=id (by kernel_rfl:Tryz.prog.underlying 73=Z (.int .u64))
def atB:Q0 Tryz.prog .b 4:=id (by kernel_rfl:Tryz.prog.underlying 4=Z .bool)
def atL:Q0 Tryz.prog (.l .u) 42:=Q0.sl (E:=73) g8 g8 gS atW
def atZ:Q0 Tryz.prog (.p .b (.l .u)) 44:=Q0.st (A:=4) (B:=42) g8 g8 g8 g8 atB atL
def atP:Q0 Tryz.prog (.l (.p .b (.l .u))) 22:=Q0.sl (E:=44) g8 g8 gS atZ
def sgO(M:cF [.d (.l (.p .b (.l .u)))]->V wW):WZ:=⟨8,[.d (.l (.p .b (.l .u)))],[.d .b],M,0⟩
set_option maxRecDepth 100000 in
def lifted{M:cF [.d (.l (.p .b (.l .u)))]->V wW}(h:xt Tryz.prog (sgO M))(i:∀x,zdL [.d (.l (.p .b (.l .u)))] x->M x=Z wF)(os:Os)(a:os.Started)(H:Type)(enc:wT×wN->H):
 ReturnsInHanded {} Tryz.checked os 8 .any (Rows.fieldMakesSpec.pre6 enc Tryz.prog Tryz.f8 Rows.fieldMakesRow.domain I) (Rows.fieldMakesSpec.post enc Tryz.prog Tryz.f8 I wF I I):=by
 refine returnsInHanded_of_change (C:=Tryz.checked) own a g8 Tryz.func8
  (ChangeSpec.witness6 (enc:=enc) (C:=Tryz.checked) I ⟨#[],#[.slice wL 0 0],[]⟩ 8 g8 g8 g8 g8) ?_
 intro W c args ds w e k f y _;have hc:∀(j:K) t v,Tryz.f8.params[j]? =Z t->args[j]? =Z v->xer Tryz.prog W .any c t v:=k;have hd:=f;have⟨p,q,m,n,_,_,_⟩:=f;have g:xeK enc Tryz.prog W 0 (λ_=>wF) wF Tryz.f8.params.toList args.toList ds p:=m;rw[Tryz.params8]at g;obtain⟨v0,o,d0,r,p0,q0,z,rfl,_,_,r0⟩:=trodAll_cons g;obtain⟨_,rfl,_⟩:=trodAll_nil r0;obtain⟨rfl,_⟩:=trodVars_none n
 exact zhG (sg:=sgO M) hd O hc g8 (by rw[Tryz.params8];decide+kernel) (by rw[Tryz.params8];exact⟨atP,wS⟩) O h
  (λx s=>i x s) (B:=4) g8 Tryz.underlying4 O
set_option maxRecDepth 100000 in
def fnm:Tryz.pinned.checked.prog.funcNamed Rows.fieldMakesRow.func=Z 8:=g8
set_option maxRecDepth 100000 in
set_option maxHeartbeats 4000000 in
def jf:joinedFacts Tryz.pinned.checked.prog 8 Tryz.f8 Rows.fieldMakesSpec Rows.fieldMakesRow=wF:=by
 unfold joinedFacts;simp only[xab];repeat' apply xfF
 all_goals (as_aux_lemma=>kernel_rfl)
def over:Rows.fieldMakesRow.holds Tryz.pinned (OpenSpec.ofChange Rows.fieldMakesSpec):=
 OpenClaim.holds_of_wide 8 Tryz.f8 O O O O O O O ⟨O,O,O,O,O⟩ O O O O O fnm Tryz.func8 jf
  (Wl g8) (by unfold Func.isWrapper;first|(rw[iq<|by decide+kernel];kernel_rfl)|(rw[ir<|by decide+kernel];exact⟨O,O⟩))
  (λos a H enc _=>lifted (M:=λx=>jX 4000000 x.1) (iX 4000000) (λx b=>Nv x.1 b.1) os a H enc)
theorem proved:Rows.FieldMakesSaid:=
 over
end fieldMakes
end
end Go.Proofs.YtoegnnjcmlghhaaGreat
