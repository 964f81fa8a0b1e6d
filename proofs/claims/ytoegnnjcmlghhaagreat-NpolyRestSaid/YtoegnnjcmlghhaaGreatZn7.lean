/- What a proof needs: rules of walking, mirrors of functions and their plain laws. No condition. -/
import Derived.Test.YtoegnnjcmlghhaaGreatZn6
set_option maxHeartbeats 1000000
set_option linter.all false
namespace Go.Proofs.YtoegnnjcmlghhaaGreat
open Bool renaming false->I,true->qR
open Go renaming Act->QR,Exit->lm
open Go.Proofs.YtoegnnjcmlghhaaGreat renaming cf->M,bd->G,za->Y,Zr->U,ci->C,nm->B,pc->D,ze->F,iq->E,nv->A,zf->S,Pz->R,ir->P
open List renaming length->X
open Nat renaming beq->Q
open Option renaming some->Z
open _root_ renaming rfl->O,List->N,Int->J,Nat->K,Option->V,List->wF,Int->wN,Nat->wP,absurd->kW,trivial->ul,Rat->uP,Bool->uS,funext->Z0,True->Ws,False->UT,propext->tY
open Classical renaming choose->xfK
open Int renaming mul_comm->xbB,tdiv->xdC,tdiv_eq_ediv_of_nonneg->xfa,tmod->xcG,zero_ediv->xet,zero_emod->xar
open List renaming drop->xdT,getElem?_append_left->xbi,length->xaK,length_pos_of_mem->xft,length_range->xeC,map_congr_left->xch,mem_append_left->xdU,mem_append_right->xew,mem_iff_getElem->xbZ,nodup_cons->xfo,pairwise_iff_getElem->xcY,range->xaL,range_succ->xdm,replicate->So,take->xdH,take_add_one->xeZ,take_of_length_le->xaY
open List.Perm renaming refl->xdD
open Nat renaming div_div_eq_div_mul->xaD,eq_of_beq_eq_true->xdF,gcd->xdx,lt_of_lt_of_le->xac,mul_assoc->xbj,mul_comm->xaO,pow_add->xbd,pow_le_pow_right->xai,pow_mul->xbM,pow_succ->xbe,strongRecOn->xdG
def xaW:=@Int.mul_le_mul_of_nonneg_left
def xbH:=@List.mem_map_of_mem
def xdy:=@List.pairwise_iff_forall_sublist
def xeD:=@List.pairwise_map
def xeV:=@Classical.choose_spec
def xeu:=@List.mem_replicate
def xev:=@List.append_of_mem
def xfG:=@List.length_filter_le
def xfW:=@Rat.intCast_inj
def xfY:=@Rat.pow_zero
section
variable{fu d b k:wP}{r:d7}{β:wP->uP}
def zlC(F:Fld r d b β){l:N uP}{e:K}(hl:Ht k l)(t:d<=e)(hc:e<X l)(u:X l<=1000)(v:k+b+1<=256000)(f:3000000<=fu):
 ∃y,zg (Y0 fu (e:J) r (d:J)) fu (0,l.map cq,cq<|y7 l e)=Z y/\∃l',y=l'.map cq/\X l'=X l/\∀i,y7 l' i=if e-d<=i/\i<e then y7 l i-y7 l e*β (i-(e-d))else y7 l i:=by
 have hd:=F.d2;refine zU (λs=>∃(m:K) (l1:N uP),s=((m:J),l1.map cq,cq<|y7 l e)/\m<=d/\X l1=X l/\∀i,y7 l1 i=if e-d<=i/\i<e-d+m then y7 l i-y7 l e*β (i-(e-d))else y7 l i) (λs=>d-s.1.toNat) _ ?_ fu _ ⟨0,l,O,xah _,O,λi=>by rw[zF]⟩ (by show d-(0:J).toNat<fu;lia);rintro _ L ⟨m,l1,rfl,j,h1,a⟩ n;unfold Y0;simp only;by_cases o:m=d;rw[zF,Y O];simp only[xam,Z9];exact⟨_,O,l1,O,h1,λi=>by rw[a];congr 1;rw[o,(W:e-d+d=e)]⟩;rw[yg,Y O];simp only[Xs];have e1:(e:J)-d=((e-d:K):J):=W
 have g:((e-d:K):J)+m=((e-d+m:K):J):=W
 rw[e1,zb,g,zb,zb,g,zb,zp (by rw[xaj];lia),ze,cd,zp (by rw[F.len];lia),ze,F.at_ m j];have p:dn (y7 l e):=hl.hs W;have q:dn (β m):=(F.ht.hx m).hs W;have a3:dn (y7 l e*β m):=((UU.hx hl e).mul<|F.ht.hx m).hs W;have a4:y7 l1 (e-d+m)=y7 l (e-d+m):=by rw[a,zF]
 have a5:dn (y7 l<|e-d+m):=hl.hs W;rw[a4,Y<|Jt p.rs q.rs f,Zb,Zb,Y<|sJ a5.rs a3.rs f,Zb,Zb,zp (by rw[xaj];lia),ze,zb,<-List.map_set];refine n _ ⟨m+1,_,O,W,by rw[xaP,h1],λi=> ?_⟩ (by show d-((m:J)+1).toNat<d-(m:J).toNat;lia);rw[KM];unfold OC;by_cases c:i=e-d+m;rw[E c,yg,c,(W:e-d+m-(e-d)=m)];rw[P c,a];congr 1;exact tY ⟨λh=>by lia,λh=>by lia⟩
theorem zdw(F:Fld r d b β){l l':N uP}{e:K}(q:d<=e)(h:X l=e+1)(hl:Ht k l)(h1:X l'=X l)(a:∀i,y7 l' i=if e-d<=i/\i<e then y7 l i-y7 l e*β (i-(e-d))else y7 l i):
 xz (yc (d+1) β) (yG<|l'.take e) (yG l)/\Ht (k+b+1) (l'.take e):=by
 constructor;refine⟨_,((Zz.self (e-d+1) (λi=>if i=e-d then 1 else 0)).smul (-y7 l e)),λt=> ?_⟩;have g1:yG (l'.take e) t=yc e (y7 l) t+ -1*yc e (λi=>if e-d<=i/\i<e then y7 l e*β (i-(e-d))else 0) t:=by rw[kF (n:=e) (by rw[xan];lia),<-vV,<-YM];refine qm λi hi=> ?_;rw[sa hi,a];grind
 have f:=aA (β:=β) (g:=λi=>if e-d<=i/\i<e then y7 l e*β (i-(e-d))else 0) (c:=y7 l e) (e:=e-d) (λi hi=>by rw[zF]) d (λi hi=>by rw[yg,(W:e-d+i-(e-d)=i)]) t;rw[(W:e-d+d=e)]at f;have j:yG l t=yc e (y7 l) t+y7 l e*t^e:=by unfold yG;rw[h];rfl
 have m:yc (d+1) β t=yc d β t+1*t^d:=by rw[<-F.one];rfl
 have o:yc (e-d+1) (λi=>if i=e-d then 1 else 0) t=t^(e-d):=by show yc (e-d) _ t+(if e-d=e-d then(1:uP)else 0)*t^(e-d)=_;rw[E O,show yc (e-d) (λi=>if i=e-d then 1 else 0) t=0 from uY λi hi=>by show(if i=e-d then(1:uP)else 0)*t^i=0;rw[zF,xeF]];grind
 have p:t^e=t^(e-d)*t^d:=by rw[<-eV,(W:e-d+d=e)]
 rw[g1,f,j,m,o,p];grind
 exact Ht.take (UU.less (e:=e) hl F.ht λi=>by
  rw[a];by_cases c:e-d<=i/\i<e;exact .inr ⟨_,E c⟩;exact .inl<|P c)
def zjX(F:Fld r d b β){k0 n0:K}{l0:N uP}(h0:Ht k0 l0)(hn:X l0=n0)(C:n0<=100)(D:k0+n0*(b+1)<=255000)(o:3000000<=fu):
 ∃y,zg (Y7 fu r (d:J)) fu (l0.map cq,(n0:J)-1)=Z y/\∃q,(y=.inl (q.map cq)\/y=.inr (q.map cq))/\bg d q/\xz (yc (d+1) β) (yG q) (yG l0)/\Ht (k0+n0*(b+1)) q:=by
 have hd:=F.d2;have G:=F.b2;refine zU (λs=>∃(l:N uP) (j:K),s=(l.map cq,(X l:J)-1)/\X l+j=n0/\xz (yc (d+1) β) (yG l) (yG l0)/\Ht (k0+j*(b+1)) l) (λs=>X s.1) _ ?_ fu _ ⟨l0,0,by rw[hn],W,xz.refl,by simpa using h0⟩ (by show(l0.map cq).length<fu;rw[xaj];lia);rintro _ L ⟨l,j,rfl,H,c,a⟩ p;have M:j*(b+1)<=n0*(b+1):=xag _ W;unfold Y7;simp only;by_cases u:X l=0
 rw[zF];refine⟨_,O,l,.inl O,?_,c,a.mono W⟩;rw[xbs.1 u];exact bg.nil d;have⟨e,g⟩:∃e,X l=e+1:=⟨X l-1,W⟩;have e1:(X l:J)-1=(e:J):=W
 rw[e1,yg,zp (by rw[xaj];lia),ze,cd];by_cases hl:d<=e;rw[yg,Y O];simp only[Xs];obtain⟨_,h1,l',rfl,v,w⟩:=zlC F a hl W W W o;have⟨x,z⟩:=zdw F hl g a v w;have m:X (l'.take e)=e:=by rw[xan];lia
 rw[Y h1,yH,va (by rw[xaj];lia),ze,zb,<-xeK];exact p _ ⟨_,j+1,by rw[m],W,x.trans c,z.mono<|by rw[xcM];lia⟩ (by show(((l'.take e).map cq)).length<X (l.map cq);rw[xaj,xaj];lia);rw[zF,Y O];simp only[xam,Z9];have A:dn (y7 l e):=a.hs W;rw[Y<|ni A.rs o,Zb];by_cases hc:y7 l e=0
 rw[E<|iV.2 hc,yH,va (by rw[xaj];lia),ze,zb,<-xeK];have m:X (l.take e)=e:=by rw[xan];lia
 refine p _ ⟨_,j+1,by rw[m],W,xz.trans (xz.of λt=> ?_) c,a.take.mono<|by rw[xcM];lia⟩ (by show((l.take e).map cq).length<X (l.map cq);rw[xaj,xaj];lia);rw[kF (n:=e) W];show _=yc (X l) (y7 l) t;rw[g];show _=yc e (y7 l) t+y7 l e*t^e;rw[hc,xeF,xfg];exact qm λi hi=>by rw[sa hi]
 rw[P<|λh=>hc<|iV.1 h,zb];have B:(e:J)+1=((e+1:K):J):=W
 rw[B,yH,va (by rw[xaj];lia),ze,<-g,<-xaj (f:=cq),xbQ];exact⟨_,O,l,.inr O,⟨W,λ_=>by rw[g];exact hc⟩,c,a.mono W⟩
def zly{a:N Qr}(e:∀x∈a,Qo x)(hn:X a<=100)(f:3000000<=fu):zg (Y6 fu r a) fu (0,So (X a) ((I,[]),[]))=Z ((a.map qv).map cq):=by
 refine zC (λs=>∃m:K,m<=X a/\s=((m:J),((a.take m).map qv).map cq++So (X a-m) ((I,[]),[]))) (λs=>X a-s.1.toNat) _ ?_ fu _ ⟨0,W,m7⟩ (by show X a-(0:J).toNat<fu;lia);rintro _ L ⟨m,j,rfl⟩ g;unfold Y6;simp only;by_cases h:m=X a;rw[zF,Y O];simp[h];rw[yg,Y O];simp only[Xs];have i:Qo (a.getD m ((I,[]),[])):=by
  have c:m<X a:=W
  rw[UV,xaa c];exact e _<|xbI c
 rw[yn,F,Y<|vQ i f,zp (by simp;lia),F,zb,Ot (by simp;lia) W];refine g _ ⟨m+1,W,?_⟩ (by show X a-((m:J)+1).toNat<X a-(m:J).toNat;lia);have c:m<X a:=W
 rw[xeZ,xaa c,UV,xaa c];simp only[Option.toList,xdb,xaU,xbT,xdX];rfl
theorem JV(F:Fld r d b β){a:N Qr}(e:∀x∈a,Qo x)(hn:X a<=100)(f:Ht k (a.map qv))(g:k+X a*(b+1)<=255000)(c:3000000<=fu):
 ∃q,xk fu r a=Z (q.map cq)/\bg d q/\xz (yc (d+1) β) (yG q) (yG<|a.map qv)/\Ht (k+X a*(b+1)) q:=by
 have hd:=F.d2;have⟨y,h1,q,h,i⟩:=zjX F f (xaj _) hn g c;unfold xk;rw[yH,y9,ze,Y<|zly e hn c,F.len,zb,xaj,xaj,zb,(W:((d+1:K):J)-1=d),Y h1];grind
end
section
variable{fu d b j k:wP}{r:d7}{β:wP->uP}
def vl(a:N Qr):N uP:=a.map qv
theorem lQ(a:N Qr)(i:K):y7 (vl a) i=qv (a.getD i ((I,[]),[])):=by unfold y7 vl;rw[UV,UV,xco];cases a[i]? <;>simp[Mh]
theorem tS{a:N Qr}{i:K}{v:uP}:vl (a.set i<|cq v)=(vl a).set i v:=by unfold vl;rw[List.map_set,Zb]
theorem qC(l:N uP):vl (l.map cq)=l:=by unfold vl;rw[xdj];exact(xch λx _=>Zb x).trans<|List.map_id l
theorem u5(a:N Qr):X (vl a)=X a:=xaj _
theorem CV{a:N Qr}(c:∀x∈a,Qo x)(i:K):Qo (a.getD i ((I,[]),[])):=by
 rw[UV]
 cases h:a[i]? with
 |none=>exact Qo.nil
 |some x=>exact c x<|xbu h
theorem L6{a:N Qr}(e:∀x∈a,Qo x){i:K}{v:uP}(hv:dn v):∀x∈a.set i (cq v),Qo x:=λx c=>by
 obtain h|h:=xdE c
 grind;rw[h];exact hv.rs
theorem zb3(n:K):∀x∈So n (((I,[]),[]):Qr),Qo x:=λx a=>by rw[(xeu.1 a).2];exact Qo.nil
theorem zpd{l:N uP}{k:K}(h:Ht k l)(a:k<=256000):∀x∈l.map cq,Qo x:=λx c=>by
 obtain⟨y,f,rfl⟩:=xat.1 c;have⟨i,hi,e⟩:=xbZ.1 f;have:=h.hs (i:=i) a;unfold y7 at this;rw[UV,xaa hi,e]at this;exact this.rs
def zi7{q:N uP}{o:N Qr}{i2:J}{i1:K}{x:uP}{t7:N Qr}(l:∀x∈o,Qo x)(hl:i1+X q<=X o)(h1:X o<=1000)(n:dn x)(p:∀m,dn<|y7 q m)(t:∀m,dn<|x*y7 q m)(u:∀j m,dn<|y7 (vl o) j+x*y7 q m)(g:3000000<=fu):
 ∃y,zg (uk fu (i1:J) (q.map cq) r t7 i2) fu (0,q.map cq,o,cq x)=Z y/\∃a,y=(q.map cq,a)/\(∀x∈a,Qo x)/\X a=X o/\∀j,y7 (vl a) j=y7 (vl o) j+(if i1<=j/\j<i1+X q then x*y7 q (j-i1)else 0):=by
 refine zU (λs=>∃(m:K) (o1:N Qr),s=((m:J),q.map cq,o1,cq x)/\m<=X q/\(∀x∈o1,Qo x)/\X o1=X o/\∀j,y7 (vl o1) j=y7 (vl o) j+(if i1<=j/\j<i1+m then x*y7 q (j-i1)else 0)) (λs=>X q-s.1.toNat) _ ?_ fu _ ⟨0,o,O,xah _,l,O,λj=>by rw[zF,xfg]⟩ (by show X q-(0:J).toNat<fu;lia);rintro _ L ⟨m,o1,rfl,A,e,i,f⟩ v;unfold uk;simp only;rw[xaj];by_cases hc:m=X q;rw[zF,Y O];simp only[xam,Z9];exact⟨_,O,o1,O,e,i,λj=>by rw[f,hc]⟩;rw[yg,Y O];simp only[Xs];have w:(i1:J)+m=((i1+m:K):J):=W
 have z:qv (o1.getD (i1+m) ((I,[]),[]))=y7 (vl o) (i1+m):=by rw[<-lQ,f,zF,xfg]
 rw[yn,F,cd,w,zb,zb,yn,F,Y<|Jt n.rs (p m).rs g,Zb,Zb,Y<|oU (CV e _) (t m).rs g,Zb,z,yn,F,zb];refine v _ ⟨m+1,_,O,W,L6 e<|u _ _,by rw[xaP,i],λj=> ?_⟩ (by show X q-((m:J)+1).toNat<X q-(m:J).toNat;lia);rw[tS,KM<|by rw[u5];lia];unfold OC;by_cases c:j=i1+m;rw[E c,yg,c,(W:i1+m-i1=m)];rw[P c,f];congr 2;exact tY ⟨λh=>by lia,λh=>by lia⟩
theorem HK{D:wP}{x:uP}{n:J}{K:wP}(h0:0<D)(h1:D<2^K)(a:x*D=n)(c:n.natAbs<2^K)(e:K<=256000:=by lia):dn x:=Hx.hs ⟨D,h0,h1,n,a,c⟩ e
theorem ziv{p q:N uP}(hp:Ht j p)(H:Ht k q)(hc:X p<=16)(hd:X q<=16)(hK:j+k+5<=255000)(M:3000000<=fu):
 ∃y,zg (kZ fu r<|p.map cq) fu (0,q.map cq,So (X p+X q) ((I,[]),[]))=Z y/\(∀x∈y,Qo x)/\X y=X p+X q/\Ht (j+k+5) (vl y)/\∀t,yG (vl y) t=yG p t*yG q t:=by
 have⟨D,d0,d1,w⟩:=hp;have⟨E,e0,e1,z⟩:=H;have w1:D*E<2^(j+k):=by rw[xbd];exact xcf d1 e1
 have w2:2^(j+k+5)=2^(j+k)*32:=xbd 2 (j+k) 5;have cx:∀i m,∃n:J,y7 p i*y7 q m*((D*E:wP):uP)=n/\n.natAbs<2^(j+k):=λi m=>by
  have⟨n,a,h⟩:=w i;have⟨u,b1,b2⟩:=z m;exact⟨n*u,by rw[xds,xbh,<-a,<-b1];grind,yN h b2⟩
 refine zU (λs=>∃(m:wP) (o:N Qr),s=((m:J),q.map cq,o)/\m<=X p/\(∀x∈o,Qo x)/\X o=X p+X q/\(∀i,∃n:J,y7 (vl o) i*((D*E:wP):uP)=n/\n.natAbs<=m*2^(j+k))/\∀t,yG (vl o) t=yc m (y7 p) t*yG q t) (λs=>X p-s.1.toNat) _ ?_ fu _ ⟨0,_,O,xah _,zb3 _,xaF,λi=>⟨0,by rw[lQ];simp[UV,xcT];split<;>simp[Mh],m7⟩,λt=> ?_⟩ (by show X p-(0:J).toNat<fu;lia);rintro _ L ⟨m,o,rfl,hm,h1,A,v,B⟩ P;unfold kZ;simp only;rw[xaj];by_cases Q:m=X p;rw[zF,Y O];simp only[xam,Z9];refine⟨_,O,h1,A,⟨D*E,xdn d0 e0,W,λi=> ?_⟩,λt=>by rw[B,Q];rfl⟩;have⟨n,a,h⟩:=v i;have:m*2^(j+k)<=16*2^(j+k):=xag _ W;have:=xbY<|j+k;exact⟨n,a,W⟩;rw[yg,Y O];simp only[Xs];have w3:m*2^(j+k)<=16*2^(j+k):=xag _ W;have w4:=xbY<|j+k;have e5:=xai (m6:0<2) (W:j<=j+k+5);have e6:=xai (m6:0<2) (W:k<=j+k+5);have R:dn (y7 p m):=by have⟨n,a,h⟩:=w m;exact HK (K:=j+k+5) d0 W a W
 have S:∀i,dn (y7 q i):=λi=>by have⟨n,a,h⟩:=z i;exact HK (K:=j+k+5) e0 W a W
 have T:∀i,dn (y7 p m*y7 q i):=λi=>by have⟨n,a,h⟩:=cx m i;exact HK (K:=j+k+5) (xdn d0 e0) W a W
 have C:∀i l,∃n:J,(y7 (vl o) i+y7 p m*y7 q l)*((D*E:wP):uP)=n/\n.natAbs<=(m+1)*2^(j+k):=λi l=>by
  have⟨n,a,h⟩:=cx m l;have⟨u,b1,b2⟩:=v i;refine⟨u+n,by rw[xfn,<-a,<-b1];grind,?_⟩;rw[xcM];lia
 have U:∀i l,dn (y7 (vl o) i+y7 p m*y7 q l):=λi l=>by
  have⟨n,a,h⟩:=C i l;rw[xcM]at h;exact HK (K:=j+k+5) (xdn d0 e0) W a W
 rw[zp (by rw[xaj];lia),F,cd];obtain⟨_,g1,V,rfl,g2,g3,G⟩:=zi7 (fu:=fu) (r:=r) (i2:=(X p:J)) (i1:=m) (x:=y7 p m) (t7:=p.map cq) h1 W W R S T U M;rw[Y g1];simp only;rw[zb];refine P _ ⟨m+1,_,O,W,g2,g3.trans A,λi=> ?_,λt=> ?_⟩ (by show X p-((m:J)+1).toNat<X p-(m:J).toNat;lia);rw[G];split;exact C _ _;have⟨n,a,h⟩:=v i;exact⟨n,by rw[xfg];exact a,by rw[xcM];lia⟩;have c1:yG (vl V) t=yG (vl o) t+yc (X p+X q) (λi=>if m<=i/\i<m+X q then y7 p m*y7 q (i-m)else 0) t:=by rw[kF (n:=X p+X q) (by rw[u5];lia),kF (n:=X p+X q) (by rw[u5];lia),<-YM];exact qm λi _=>by rw[G]
 have c2:=aA (β:=y7 q) (g:=λi=>if m<=i/\i<m+X q then y7 p m*y7 q (i-m)else 0) (c:=y7 p m) (e:=m) (λi hi=>by rw[zF]) (X q) (λi hi=>by rw[yg,(W:m+i-m=i)]) t;have c3:=kD (f:=λi=>if m<=i/\i<m+X q then y7 p m*y7 q (i-m)else 0) (W:m+X q<=X p+X q) (λi hi=>by rw[zF]) t;rw[c1,c3,c2,B];show _=(yc m (y7 p) t+y7 p m*t^m)*yG q t;show _+y7 p m*(t^m*yG q t)=_;grind;have:∀i,y7 (vl<|So (X p+X q) (((I,[]),[]):Qr)) i=0:=λi=>by rw[lQ];simp[UV,xcT];split<;>simp[Mh]
 show yc _ _ t=0*_;rw[xeF];exact uY λi _=>by rw[this,xeF]
theorem wk(l:N uP):Zz (yG l):=Zz.self _ _
def AG(F:Fld r d b β){a c:N Qr}(f:∀x∈a,Qo x)(hc:∀x∈c,Qo x)(g:X a<=32)(h:X c<=32)(i:Ht j (vl a))(l:Ht k (vl c))(C:j+k+101*(b+1)<=250000)(e:3000000<=fu):
 ∃q,xQ fu r a c=Z (q.map cq)/\bg d q/\xz (yc (d+1) β) (yG q) (λt=>yG (vl a) t*yG (vl c) t)/\Ht (j+k+101*(b+1)) q:=by
 have hd:=F.d2;have D:=F.b2;have E:X a*(b+1)<=32*(b+1):=xag _ g;have G:X c*(b+1)<=32*(b+1):=xag _ h;have⟨p,m,n,s,u⟩:=JV (fu:=fu) F f W i W e;have⟨q,q1,q2,v,w⟩:=JV (fu:=fu) F hc W l W e;have hp:=n.1;have H:=q2.1;have⟨o,o1,o2,L,y,A⟩:=ziv (fu:=fu) (r:=r) u w W W W e;have M:X o*(b+1)<=32*(b+1):=xag _ W;have⟨z,B,z2,z3,z4⟩:=JV (fu:=fu) F o2 W y W e;refine⟨z,?_,z2,z3.trans<|(xz.of A).trans<|xz.mul (wk _) (wk _) s v,z4.mono W⟩;unfold xQ;rw[Y m,Y q1,xaj,xaj,zb,(W:(X p:J)+X q=((X p+X q:K):J)),yH,y9,ze,Y o1,Y B]
def zka{a c o:N Qr}{n:J}(q:∀x∈o,Qo x)(hc:∀x∈c,Qo x)(hl:X c<=X o)(h1:X o<=1000)(hn:n=1\/n= -1)(t:∀j,dn<|y7 (vl o) j+y7 (vl c) j*n)(u:∀j,dn<|y7 (vl c) j*n)(f:3000000<=fu):
 ∃y,zg (Y4 fu r c n) fu (0,o)=Z y/\(∀x∈y,Qo x)/\X y=X o/\∀j,y7 (vl y) j=y7 (vl o) j+y7 (vl c) j*n:=by
 have hd:Qp n:=by obtain rfl|rfl:=hn<;>decide
 have v:dn (n:uP):=by
  unfold dn Qh;rw[Rat.num_intCast,Rat.den_intCast];obtain rfl|rfl:=hn
  exact⟨Bz.one' m6,Bz.one' m6⟩;exact⟨Bz.one m6,Bz.one' m6⟩
 refine zU (λs=>∃(m:K) (o1:N Qr),s=((m:J),o1)/\m<=X c/\(∀x∈o1,Qo x)/\X o1=X o/\∀j,y7 (vl o1) j=y7 (vl o) j+(if j<m then y7 (vl c) j*n else 0)) (λs=>X c-s.1.toNat) _ ?_ fu _ ⟨0,o,O,xah _,q,O,λj=>by rw[zF,xfg]⟩ (by show X c-(0:J).toNat<fu;lia);rintro _ L ⟨m,o1,rfl,A,g,p,i⟩ w;unfold Y4;simp only;by_cases B:m=X c;rw[zF,Y O];simp only[xam,Z9];refine⟨_,O,g,p,λj=> ?_⟩;rw[i];by_cases e:j<m;rw[E e];rw[P e,Yd (l:=vl c) (by rw[u5];lia),xeF];rw[yg,Y O];simp only[Xs];have z:qv (o1.getD m ((I,[]),[]))=y7 (vl o) m:=by rw[<-lQ,i,zF,xfg]
 rw[yn,F,yn,F,Y<|gw hd f,Y<|Jt (CV hc m) v.rs f,Zb,Y<|oU (CV g m) (by rw[<-lQ];exact(u m).rs) f,Zb,z,<-lQ,yn,F,zb];refine w _ ⟨m+1,_,O,W,L6 g<|t m,by rw[xaP,p],λj=> ?_⟩ (by show X c-((m:J)+1).toNat<X c-(m:J).toNat;lia);rw[tS,KM<|by rw[u5];lia];unfold OC;by_cases e:j=m;rw[E e,yg,e];rw[P e,i];congr 2;exact tY ⟨λh=>by lia,λh=>by lia⟩
theorem zno{a:N Qr}{n:K}(h:X a<=n):(∀j,y7 (vl<|H3 (So n ((I,[]),[])) a) j=y7 (vl a) j)/\X (H3 (So n (((I,[]),[]):Qr)) a)=n/\((∀x∈a,Qo x)->∀x∈H3 (So n (((I,[]),[]):Qr)) a,Qo x):=by
 have e:H3 (So n (((I,[]),[]):Qr)) a=a++So (n-X a) ((I,[]),[]):=by unfold H3;rw[xaF,xci h,xbQ,List.drop_replicate]
 rw[e];refine⟨λj=> ?_,by simp;lia,λf x c=> ?_⟩;rw[lQ,lQ,UV,UV,List.getElem?_append];split;rfl;grind;obtain h1|h1:=xab.1 c
 grind;rw[(xeu.1 h1).2];exact Qo.nil
theorem Ft(F:Fld r d b β){a c:N Qr}{n:J}(m:∀x∈a,Qo x)(hc:∀x∈c,Qo x)(B:X a<=32)(hi:X c<=32)(p:Ht j (vl a))(e:Ht k (vl c))(hn:n=1\/n= -1)(C:j+k+34*(b+1)<=250000)(f:3000000<=fu):
 ∃q,wO fu r a c n=Z (q.map cq)/\bg d q/\xz (yc (d+1) β) (yG q) (λt=>yG (vl a) t+n*yG (vl c) t)/\Ht (j+k+34*(b+1)) q:=by
 have hd:=F.d2;have D:=F.b2;have⟨c1,c2,u⟩:=zno (a:=a) (n:=max (X a) (X c)) W;have g:UU (j+k+1+1) λi=>y7 (vl a) i+n*y7 (vl c) i:=UU.comb (s:=1) p e ⟨n,O,by obtain rfl|rfl:=hn<;>decide⟩;have v:∀i,Hx (k+1) (y7 (vl c) i*n):=λi=>(UU.hx e i).mul ⟨1,m6,m6,n,by show(n:uP)*((1:K):uP)=n;grind,by obtain rfl|rfl:=hn<;>decide⟩;have⟨o,o1,o2,E,w⟩:=zka (fu:=fu) (r:=r) (a:=a) (c:=c) (n:=n) (u m) hc W W hn (λi=>by rw[c1,Rat.mul_comm];exact(g.hx i).hs W) (λi=>(v i).hs W) f;have h:∀i,y7 (vl o) i=y7 (vl a) i+n*y7 (vl c) i:=λi=>by rw[w,c1,Rat.mul_comm]
 have G:X o*(b+1)<=32*(b+1):=xag _ W;have y:Ht (j+k+1+1) (vl o):=by unfold Ht;rw[show y7 (vl o)=λi=>y7 (vl a) i+n*y7 (vl c) i from Z0 h];exact g
 have⟨z,A,z2,z3,z4⟩:=JV (fu:=fu) F o2 W y W f;refine⟨z,?_,z2,z3.trans<|xz.of λt=> ?_,z4.mono W⟩;unfold wO;rw[ze,(W:max (X a:J) (X c)=((max (X a) (X c):K):J)),yH,y9,ze,ze,Y o1,Y A];rw[show o.map qv=vl o from O,kF (n:=max (X a) (X c)) (by rw[u5];lia),kF (l:=vl a) (n:=max (X a) (X c)) (by rw[u5];lia),kF (l:=vl c) (n:=max (X a) (X c)) (by rw[u5];lia),<-vV,<-YM];exact qm λi _=>by rw[h]
end
section
variable{fu d b j k:wP}{r:d7}{β:wP->uP}
theorem zbj(n j:K):y7 (vl<|So n (((I,[]),[]):Qr)) j=0:=by rw[lQ];simp[xcT];split<;>simp[Mh]
theorem zcw{o:N Qr}(c:∀x∈o,Qo x)(h1:X o<=1000)(g:3000000<=fu):
 ∃n,XH fu o=Z (o.take n)/\n<=X o/\(∀i,y7 (vl<|o.take n) i=y7 (vl o) i)/\(n≠0->y7 (vl o) (n-1)≠0):=by
 unfold XH;obtain⟨y,m,n,rfl,p⟩:=zU (f:=J6 fu) (λs:N Qr=>∃n,s=o.take n/\n<=X o/\∀i,y7 (vl s) i=y7 (vl o) i) (λs=>X s) (λy=>∃n,y=o.take n/\n<=X o/\(∀i,y7 (vl<|o.take n) i=y7 (vl o) i)/\(n≠0->y7 (vl o) (n-1)≠0)) (by
  rintro _ L ⟨n,rfl,g1,a⟩ q;have hl:X (o.take n)=n:=by rw[xan];lia
  unfold J6;rw[hl]
  cases n with
  |zero=>
   simp_all
  |succ e=>
   have e1:((e+1:K):J)-1=(e:J):=W
   have t:(0:J)<((e+1:K):J):=W
   rw[E t,e1,zb,yn,F,Y<|ni (CV (λx u=>c x<|xdt u) e) g,<-lQ,a];by_cases h0:y7 (vl o) e=0
   rw[E<|iV.2 h0,zb,yH,y9,F,List.take_take,xci<|xby e];refine q _ ⟨e,O,W,λi=> ?_⟩ (by rw[xan,hl];lia);by_cases hi:i<e;unfold vl;rw[xeK,sa hi];rw[Yd (l:=vl<|o.take e)<|by rw[u5,xan];lia];by_cases h:i=e;rw[h,h0];rw[<-a,Yd<|by rw[u5,hl];lia];rw[P<|λh=>h0<|iV.1 h];exact⟨_,O,e+1,O,g1,a,λ_=>h0⟩) fu o ⟨X o,by rw[xbQ],Nm _,λ_=>O⟩ W
 exact⟨n,by rw[Y m],p⟩
theorem zlu{y l:N uP}{q:N Qr}{i1:K}{c:uP}(n:∀i,dn<|y7 l i)(hl:i1+X y<=X l)(h1:X l<=1000)(hi:i1<X q)(o:q.getD i1 ((I,[]),[])=cq c)(p:dn c)(t:∀m,dn<|y7 y m)(hc:∀m,dn<|c*y7 y m)(f:3000000<=fu):
 ∃z,zg (Y2 fu (y.map cq) (i1:J)) fu (y.map cq,0,q,l.map cq)=Z z/\∃l',z=(y.map cq,q,l'.map cq)/\X l'=X l/\∀j,y7 l' j=y7 l j+ -1*(if i1<=j/\j<i1+X y then c*y7 y (j-i1)else 0):=by
 refine zU (λs=>∃(m:K) (l1:N uP),s=(y.map cq,(m:J),q,l1.map cq)/\m<=X y/\X l1=X l/\∀j,y7 l1 j=y7 l j+ -1*(if i1<=j/\j<i1+m then c*y7 y (j-i1)else 0)) (λs=>X y-s.2.1.toNat) _ ?_ fu _ ⟨0,l,O,xah _,O,λj=>by rw[zF];grind⟩ (by show X y-(0:J).toNat<fu;lia);rintro _ L ⟨m,l1,rfl,x,g,a⟩ u;unfold Y2;simp only;rw[xaj];by_cases hd:m=X y;rw[zF,Y O];simp only[xam,Z9];exact⟨_,O,l1,O,g,λj=>by rw[a,hd]⟩;rw[yg,Y O];simp only[Xs];have v:(i1:J)+m=((i1+m:K):J):=W
 have w:y7 l1 (i1+m)=y7 l (i1+m):=by rw[a,zF];grind
 rw[zp (by rw[xaj];lia),F,cd,v,zb,zb,zp (by rw[xaj];lia),F,cd,w,yn,F,o,Y<|Jt p.rs (t m).rs f,Zb,Zb,Y<|sJ (n _).rs (hc m).rs f,Zb,Zb,zp (by rw[xaj];lia),F,zb,<-List.map_set];refine u _ ⟨m+1,_,O,W,by rw[xaP,g],λj=> ?_⟩ (by show X y-((m:J)+1).toNat<X y-(m:J).toNat;lia);rw[KM];unfold OC;by_cases e:j=i1+m;rw[E e,yg,e,(W:i1+m-i1=m)];grind;rw[P e,a];congr 3;exact tY ⟨λh=>by lia,λh=>by lia⟩
theorem ziW{f a t m e:K}{D E N:K}{l y:wF uP}{h σ:J}{c:uP}(g:σ*σ=1)(v:(N:J)=σ*h)(C:0<N)(hd:N<2^a)(E1:E<2^a)(o:y7 y m*E=h)(hc:c*y7 y m=y7 l e)
 (x:∀i,∃n:J,y7 y i*E=n/\n.natAbs<2^a) (on:∀j,∃n:J,y7 l j*((D*N^t:K):uP)=n/\n.natAbs<2^(f+t*(a+1))):
 (∃n:J,c*((D*N^(t+1):K):uP)=n/\n.natAbs<2^(f+(t+1)*(a+1)))/\(∀i,∃n:J,c*y7 y i*((D*N^(t+1):K):uP)=n/\n.natAbs<2^(f+t*(a+1)+a))/\(∀j,∃n:J,y7 l j*((D*N^(t+1):K):uP)=n/\n.natAbs<2^(f+t*(a+1)+a)):=by
 have e1:((D*N^(t+1):K):uP)=((D*N^t:K):uP)*(N:uP):=by rw[xbe,<-xbj,xds]
 have p:(N:uP)=(σ:uP)*(h:uP):=by rw[<-xbh,<-v];rfl
 have F:(σ:uP)*(σ:uP)=1:=by rw[<-xbh,g];rfl
 have q:∀z:J,(σ*z).natAbs=z.natAbs:=λz=>by
  have:σ.natAbs=1:=by have:=Z4 Int.natAbs g;rw[xcl]at this;exact Nat.eq_one_of_mul_eq_one_right this
  rw[xcl,this,xcH]
 have⟨s,r1,r2⟩:=on e;have w:f+(t+1)*(a+1)=f+t*(a+1)+a+1:=by rw[xcM];lia
 have G:=xbe 2<|f+t*(a+1)+a;refine⟨⟨σ*(s*E),?_,?_⟩,λi=> ?_,λj=> ?_⟩;rw[xbh,xbh,<-r1,e1,p,<-o,<-hc];show _=(σ:uP)*(c*y7 y m*((D*N^t:K):uP)*(E:uP));grind;rw[q,w];have:=yN r2 (b:=(E:J)) (k:=a) (by rw[xaH];exact E1);lia;have⟨u,A,B⟩:=x i;refine⟨σ*(s*u),?_,by rw[q];exact yN r2 B⟩;rw[xbh,xbh,<-r1,<-A,e1,p,<-o,<-hc];grind;have⟨n,n1,n2⟩:=on j;exact⟨n*N,by rw[xbh,<-n1,e1];show _=y7 l j*((D*N^t:K):uP)*(N:uP);grind,yN n2<|by rw[xaH];exact hd⟩
theorem zdV{x y:wF uP}{A p m:wP}(hX:Ht A x)(hY:Ht p y)(hm:X y=m+1)(h0:y7 y m≠0)(hl:X x<=100)(hr:m<=X x)(hk:A+(X x+2)*(p+1)<=200000)(R:3000000<=fu):
 ∃(q:wF Qr) (z:wF uP),ZX fu (x.map cq) (y.map cq)=Z (q,z.map cq)/\(∀u∈q,Qo u)/\X q<=X x-m/\X z<=m/\(X z≠0->y7 z (X z-1)≠0)/\
  (∀t,yG x t=yG (vl q) t*yG y t+yG z t)/\Ht (A+(X x-m+1)*(p+1)) (vl q)/\Ht (A+(X x-m)*(p+1)) z:=by
 have⟨D,D0,D1,hD⟩:=hX;have⟨E,E0,E1,hE⟩:=hY;have⟨S,hd,hw⟩:=hE m;have hz:((E:wP):uP)≠0:=λe=>by have:=xdr.1<|e.trans (by rfl:(0:uP)=((0:wP):uP));lia
 have a6:S≠0:=λe=>by
  rw[e]at hd;have:y7 y m*(E:uP)=0:=hd;grind
 have⟨N,hA⟩:∃N,N=S.natAbs:=⟨_,O⟩;have N0:0<N:=mS
 have⟨σ,a0,hN⟩:∃σ:J,σ*σ=1/\(N:J)=σ*S:=by by_cases h:0<=S;exact⟨1,O,mS⟩;exact⟨-1,O,mS⟩
 have he:N<2^p:=mS
 have⟨s,hs⟩:∃s,s=X x-m:=⟨_,O⟩;have hB:s<=X x:=mS
 have C:∀t,0<D*N^t:=λt=>xdn D0<|xaS N0;have M:∀t,t<=s->D*N^t<2^(A+t*(p+1))\/t=0/\D*N^t<2^A:=λt ht=>by
  cases t with
  |zero=>right;exact⟨O,by simpa using D1⟩
  |succ t=>
   left;have h1:N^(t+1)<=2^(p*(t+1)):=by rw[xbM];exact xeh mS _
   have h2:2^(A+(t+1)*(p+1))=2^A*2^((t+1)*(p+1)):=xbd ..;have h3:2^(p*(t+1))<=2^((t+1)*(p+1)):=xai m6 (by rw[xaO];exact xaB _ mS);rw[h2];exact xac (xbG D1<|xaS N0)<|xaB _<|xao h1 h3
 have T:∀t,t<=s+1->A+t*(p+1)+p+1<=200000:=λt ht=>by
  have:=xag (p+1) (mS:t+1<=X x+2);rw[xcM]at this;lia
 have G:∀{v:uP}{t a:wP},t<=s->(∃n:J,v*((D*N^t:wP):uP)=n/\n.natAbs<2^a)->a<=200000->dn v:=λ{v t a} ht ⟨n,Q,a2⟩ ha=>by
  have h1:=T t mS;have h3:2^(A+t*(p+1))<=2^(max a<|A+t*(p+1)):=xai m6<|xdP ..;have h4:2^A<=2^(max a<|A+t*(p+1)):=xai m6 mS;have h5:2^a<=2^(max a<|A+t*(p+1)):=xai m6<|xeg ..;exact HK (K:=max a<|A+t*(p+1)) (C t) (by obtain h|⟨_,h⟩:=M t ht<;>lia) Q mS
 have sY:∀i,dn (y7 y i):=λi=>by have⟨n,Q,a2⟩:=hE i;exact HK E0 E1 Q a2 (by have:=T 0 mS;lia)
 have hC:m<=100:=mS
 have a5:∃w,zg (YZ fu<|y.map cq) fu ((s:J)-1,So s ((I,[]),[]),x.map cq)=Z w/\∃(q:wF Qr) (l:wF uP),w=(q,l.map cq)/\(∀u∈q,Qo u)/\X q=s/\X l=X x/\(∀j,m<=j->y7 l j=0)/\(∀t,yG x t=yG (vl q) t*yG y t+yG l t)/\
  (∀j,∃n:J,y7 (vl q) j*((D*N^s:wP):uP)=n/\n.natAbs<2^(A+(s+1)*(p+1)))/\(∀j,∃n:J,y7 l j*((D*N^s:wP):uP)=n/\n.natAbs<2^(A+s*(p+1))):=by
  have hF:s+m=X x:=mS
  refine zU (λst=>∃(i:wP) (q:wF Qr) (l:wF uP),st=((i:J)-1,q,l.map cq)/\i<=s/\(∀u∈q,Qo u)/\X q=s/\X l=X x/\(∀j,i+m<=j->y7 l j=0)/\(∀j,j<i->y7 (vl q) j=0)/\(∀t,yG x t=yG (vl q) t*yG y t+yG l t)/\
   (∀j,∃n:J,y7 (vl q) j*((D*N^(s-i):wP):uP)=n/\n.natAbs<2^(A+(s-i+1)*(p+1)))/\(∀j,∃n:J,y7 l j*((D*N^(s-i):wP):uP)=n/\n.natAbs<2^(A+(s-i)*(p+1)))) (λst=>(st.1+1).toNat) _ ?_ fu _ ?_ ?_
  rintro _ L ⟨i,q,l,rfl,hG,g1,U,g3,g4,g5,g6,g7,V⟩ ih;unfold YZ;simp only
  cases i with
  |zero=>
   rw[zF];exact⟨_,O,q,l,O,g1,U,g3,λj H=>g4 j mS,g6,by simpa using g7,by simpa using V⟩
  |succ i=>
   have⟨t,ht⟩:∃t,t=s-(i+1):=⟨_,O⟩;have hg:s-i=t+1:=mS
   rw[<-ht]at g7 V;have e1:((i+1:wP):J)-1=(i:J):=mS
   have e2:(i:J)+((m+1:wP):J)-1=((i+m:wP):J):=mS
   have e3:((m+1:wP):J)-1=(m:J):=mS
   have hc:y7 l (i+m)/y7 y m*y7 y m=y7 l (i+m):=by grind
   have⟨c,hn⟩:∃c,c=y7 l (i+m)/y7 y m:=⟨_,O⟩;rw[<-hn]at hc;have⟨w1,w2,w3⟩:=ziW (e:=i+m) a0 hN N0 he E1 hd hc hE V;have W:=T (t+1) mS;have W1:A+t*(p+1)+p+1=A+(t+1)*(p+1):=by rw[xcM];lia
   have s1:∀j,dn (y7 l j):=λj=>G (t:=t) mS (V j) mS;have s2:dn c:=G (t:=t+1) mS w1 mS;have s3:∀j,dn (c*y7 y j):=λj=>G (t:=t+1) mS (w2 j) mS;have ho:qv (cq<|y7 y m)≠0:=by rw[Zb];exact h0
   rw[e1,yg,xaj,hm,zb,e2,zb,zp (by rw[xaj];lia),F,cd,e3,zb,yn,F,cd,Y<|rF (s1 _).rs (sY m).rs ho R,Zb,Zb,<-hn];simp only;have hp:(q.set i<|cq c).getD i ((I,[]),[])=cq c:=by rw[UV,xcX mS];rfl
   obtain⟨_,v1,l',rfl,v2,v3⟩:=zlu (fu:=fu) (y:=y) (l:=l) (q:=q.set i<|cq c) (i1:=i) (c:=c) s1 mS mS (by rw[xaP];lia) hp s2 sY s3 R;rw[yn,F,Y v1];simp only;rw[zb];refine ih _ ⟨i,_,l',O,mS,L6 g1 s2,by rw[xaP,U],v2.trans g3,λj H=> ?_,λj H=> ?_,λB=> ?_,λj=> ?_,λj=> ?_⟩ (by show((i:J)-1+1).toNat<(((i+1:wP):J)-1+1).toNat;lia);rw[v3];by_cases h:j=i+m;rw[yg,h,(mS:i+m-i=m),hc];grind;rw[zF,g4 j mS];grind;rw[tS,KM<|by rw[u5];lia];unfold OC;rw[zF,g5 j mS];have c1:yG (vl<|q.set i<|cq c) B=yG (vl q) B+c*B^i:=by rw[tS];have:=za4 (f:=y7<|vl q) (k:=i) (v:=c) (t:=B) (n:=s) mS;rw[<-KM (by rw[u5];lia),g5 i mS]at this;rw[kF (n:=s) (by rw[xaP,u5,U];exact Nm _),kF (l:=vl q) (n:=s) (by rw[u5,U];exact Nm _),this];grind
   have c2:=aA (β:=y7 y) (g:=λj=>if i<=j/\j<i+X y then c*y7 y (j-i)else 0) (c:=c) (e:=i) (λj H=>by rw[zF]) (X y) (λj H=>by rw[yg,(mS:i+j-i=j)]) B;have c3:=kD (f:=λj=>if i<=j/\j<i+X y then c*y7 y (j-i)else 0) (mS:i+X y<=X x) (λj H=>by rw[zF]) B;have c4:yG l' B=yG l B+ -1*yc (X x) (λj=>if i<=j/\j<i+X y then c*y7 y (j-i)else 0) B:=by rw[kF (n:=X x) mS,kF (l:=l) (n:=X x) mS,<-vV,<-YM];exact qm λj _=>by rw[v3]
   rw[g6,c1,c4,c3,c2];show _=_+(yG l B+ -1*(c*(B^i*yG y B)));grind;rw[hg];by_cases h:j=i;have⟨n,n1,n2⟩:=w1;refine⟨n,by rw[tS,KM<|by rw[u5];lia];unfold OC;rw[iq h];exact n1,xac n2<|xai m6<|by rw[xcM<|t+1];lia⟩;have⟨n,n1,n2⟩:=g7 j;refine⟨n*N,?_,xac (yN n2 (b:=(N:J)) (k:=p)<|by rw[xaH];exact he)<|xai m6<|by rw[xcM<|t+1];lia⟩;rw[tS,KM<|by rw[u5];lia];unfold OC;rw[P h,xbh,<-n1,xbe,<-xbj,xds];show _=y7 (vl q) j*((D*N^t:wP):uP)*(N:uP);grind;rw[hg,v3,<-W1];have⟨n,n1,n2⟩:=w3 j;by_cases h:i<=j/\j<i+X y;have⟨u,u1,u2⟩:=w2<|j-i;have:=xbe 2<|A+t*(p+1)+p;exact⟨n-u,by rw[iq h,Rat.intCast_sub,<-n1,<-u1];grind,mS⟩;have:=xbe 2<|A+t*(p+1)+p;exact⟨n,by rw[P h,<-n1];grind,mS⟩
  refine⟨s,_,x,O,Nm _,zb3 _,xaF,O,λj H=>Yd,λj H=>by rw[zbj],λt=> ?_,λj=>⟨0,by rw[zbj];grind,xbY _⟩,λj=> ?_⟩;rw[show yG (vl<|So s (((I,[]),[]):Qr)) t=0 from uY λi _=>by rw[zbj,xeF]];grind;have⟨n,n1,n2⟩:=hD j;exact⟨n,by rw[xcx,xeo,xdQ];exact n1,by rw[xcx,xct];exact n2⟩;show((s:J)-1+1).toNat<fu;lia
 obtain⟨_,r1,q,l,rfl,r2,r3,r4,r5,r6,r7,r8⟩:=a5;have W:=T s mS;have sl:∀j,dn (y7 l j):=λj=>G (t:=s) (Nm _) (r8 j) mS;have⟨n1,Q,a2,a3,a4⟩:=zcw (fu:=fu) r2 mS R;have⟨n2,b1,b2,b3,b4⟩:=zcw (fu:=fu) (o:=l.map cq) (λu hu=>by
  obtain⟨v,hv,rfl⟩:=xat.1 hu;have⟨i,hi,e⟩:=xbZ.1 hv;have:=sl i;unfold y7 at this;rw[UV,xaa hi,xdb,e]at this;exact this.rs) (by rw[xaj];lia) R
 rw[xaj]at b2;rw[qC]at b3 b4;rw[<-xeK]at b1 b3;rw[qC]at b3;have hq:X (l.take n2)=n2:=by rw[xan];lia
 have hH:n2<=m:=xad λh=>b4 mS (r5 (n2-1) mS);have W2:A+(s+1)*(p+1)=A+s*(p+1)+p+1:=by rw[xcM];lia
 have dl:D*N^s<2^(A+s*(p+1)):=by
  rcases M s (Nm _)with h|⟨h,h'⟩
  exact h;rw[h,xct];rw[h]at h';exact h'
 refine⟨q.take n1,l.take n2,?_,λu hu=>r2 u<|xdt hu,by rw[xan];lia,mS,λh=> ?_,λt=> ?_,?_,?_⟩;unfold ZX;rw[xaj,xaj,hm,zb,zb,F,(mS:max ((X x:J)-((m+1:wP):J)+1) 0=(s:J)),yH,y9,F];simp only[xbR,xbO];rw[y9,F,xaF,zb,Y r1];simp only;rw[Y Q,Y b1];rw[hq]at h⊢;rw[b3];exact b4 h;rw[r6,kF (l:=l.take n2) (n:=X x) mS,kF (l:=l) (n:=X x) mS,kF (l:=vl<|q.take n1) (n:=s) (by rw[u5,xan];lia),kF (l:=vl q) (n:=s) (by rw[u5];lia),Z0 a3,Z0 b3];rw[<-hs];unfold Ht;rw[Z0 a3,W2];refine⟨_,C s,xac dl (xai m6 mS),λj=>by rw[<-W2];exact r7 j⟩;rw[<-hs];unfold Ht;rw[Z0 b3];exact⟨_,C s,dl,r8⟩
end
section
variable{fu d b j k h:wP}{r:d7}{β:wP->uP}
def Irq(d:K)(β:K->uP):Prop:=∀(A:uP->uP) (n:K) (f:K->uP),Zz A->f n≠0->(∀t,yc (d+1) β t=A t*yc (n+1) f t)->n=0\/n=d
def Yh(h:K):K->K
 |0=>h
 |1=>h
 |n+2=>Yh h n+5*(Yh h (n+1)+1)
def Th(h C:K):K->K
 |0=>1
 |1=>1
 |n+2=>Th h C n+Th h C (n+1)+Yh h n+6*(Yh h (n+1)+1)+C
theorem th{n i:K}(h:i<n):y7 ((xaL n).map β) i=β i:=by unfold y7;simp[h]
theorem Iw(t:uP):yG ((xaL<|d+1).map β) t=yc (d+1) β t:=by rw[kF (n:=d+1) m7];exact qm λi hi=>by rw[th hi]
theorem UE{l:N uP}{k:K}(h:Ht k l)(a:k<=256000):∀x∈l.map cq,Qo x:=zpd h a
theorem zdC(F:Fld r d b β)(hj:d<=4)(hb:b<=16)(hI:Irq d β){a:uP->uP}(ha:Zz a)(hh:h<=500)(hd:b<=h){e:N uP}(y1:X e<=d)(y2:X e≠0->y7 e (X e-1)≠0)(y3:Ht h e)(y4:xz (yc (d+1) β) (yG e) a)(y5:X e≠0)(he:r.2=((xaL<|d+1).map β).map cq)(R:3000000<=fu):
 ∃w,zg (Yq fu<|some r) fu (r.2,e.map cq,[],[cq 1])=Z w/\∃(c:uP) (ts:N uP),w=([cq c],ts.map cq)/\c≠0/\bg 16 ts/\Ht (Yh h 4) [c]/\Ht (Th h (135*(b+1)) 4) ts/\xz (yc (d+1) β) (λ_=>c) (λt=>yG ts t*a t):=by
 have hk:=F.d1;have⟨C,hC⟩:∃C,C=135*(b+1):=⟨_,O⟩;rw[<-hC];have ym:∀i,i<=4->Yh h i<=Yh h 4:=λi hi=>by
  have:i=0\/i=1\/i=2\/i=3\/i=4:=W
  obtain rfl|rfl|rfl|rfl|rfl:=this<;>simp only[Yh]<;>lia
 have tm:∀i,i<=4->Th h C i<=Th h C 4:=λi hi=>by
  have:i=0\/i=1\/i=2\/i=3\/i=4:=W
  obtain rfl|rfl|rfl|rfl|rfl:=this<;>simp only[Th,Yh]<;>lia
 refine zU (λs=>∃(i:K) (x y g ts:N uP),s=(x.map cq,y.map cq,g.map cq,ts.map cq)/\X y+i<=4/\X y<X x/\X x<=d+1/\(X y≠0->y7 y (X y-1)≠0)/\X y≠0/\Ht (Yh h i) x/\Ht (Yh h<|i+1) y/\bg 16 g/\bg 16 ts/\Ht (Th h C i) g/\Ht (Th h C<|i+1) ts/\
  xz (yc (d+1) β) (yG x) (λt=>yG g t*a t)/\xz (yc (d+1) β) (yG y) (λt=>yG ts t*a t)/\∃A B,Zz A/\Zz B/\∀t,yc (d+1) β t=A t*yG x t+B t*yG y t) (λs=>X s.2.1) _ ?_ fu _ ?_ ?_
 rintro _ L ⟨i,x,y,g,ts,rfl,g1,g2,g3,g4,g5,g6,S,g8,T,E,l,U,o,A,B,v,G,H⟩ ih;unfold Yq;simp only;by_cases hg:X y=1
 rw[xaj,zF];obtain⟨c,rfl⟩:∃c,y=[c]:=xcF.1 hg;refine⟨_,O,c,ts,O,g4 W,T,UU.mono S (ym _ W),UU.mono l (tm _ W),xz.trans (xz.of λt=> ?_) o⟩;show c=0+c*t^0;rw[xfY];grind;rw[xaj,yg];have⟨m,V⟩:∃m,X y=m+1:=⟨X y-1,W⟩;have hi:i=0\/i=1\/i=2:=W
 have b1:Yh h i+7*(Yh h (i+1)+1)<=200000/\Th h C (i+2)=Th h C i+Th h C (i+1)+Yh h i+6*(Yh h (i+1)+1)+C/\Th h C (i+2)<=240000/\Yh h (i+2)=Yh h i+5*(Yh h (i+1)+1):=by obtain rfl|rfl|rfl:=hi<;>simp only[Yh,Th,oS,eX]<;>lia
 have⟨b1,b2,b3,b4⟩:=b1;have q1:=xag (Yh h (i+1)+1) (W:X x+2<=7);have q2:=xag (Yh h (i+1)+1) (W:X x-m+1<=6);have q3:=xag (Yh h (i+1)+1) (W:X x-m<=5);have hc:y7 y m≠0:=by have:=g4 g5;rwa[V]at this
 have⟨q,z,v1,v2,v3,v4,v5,M,v7,v8⟩:=zdV (fu:=fu) g6 S V hc W W W R;have a0:=UU.mono v7 (k:=Yh h i+6*(Yh h (i+1)+1)) W;have t1:Ht (Th h C<|i+1) (vl<|ts.map cq):=by rw[qC];exact l
 have⟨p,p1,p2,p3,p4⟩:=AG (fu:=fu) F v2 (UE l W) W (by rw[xaj];have:=T.1;lia) a0 t1 W R;have s1:Ht (Th h C i) (vl<|g.map cq):=by rw[qC];exact E
 have p5:Ht (Yh h i+6*(Yh h (i+1)+1)+Th h C (i+1)+101*(b+1)) (vl<|p.map cq):=by rw[qC];exact p4
 have⟨u,u1,u2,u3,u4⟩:=Ft (fu:=fu) (n:= -1) F (UE E W) (UE p4 W) (by rw[xaj];have:=g8.1;lia) (by rw[xaj];have:=p2.1;lia) s1 p5 (.inr O) W R;rw[qC]at p3 u3;rw[qC]at u3;rw[Y v1];simp only;rw[Y O,Y O,Y p1,Y u1];have a1:X u<=16:=by have:=u2.1;lia
 have hz:X z≠0:=λhz=>by
  rw[xbs.1 hz]at M;have:=hI (λt=>A t*yG (vl q) t+B t) m (y7 y) ((v.mul<|wk _).add G) hc λt=>by
   rw[H t,M t,iG];have:yG y t=yc (m+1) (y7 y) t:=by unfold yG;rw[V]
   rw[this];grind
  lia
 refine ih _ ⟨i+1,y,z,ts,u,O,W,W,W,v5,hz,S,UU.mono v8 (by show _<=Yh h (i+2);rw[b4];lia),T,⟨a1,u2.2⟩,l,UU.mono u4 (by show _<=Th h C (i+2);lia),o,?_,_,_,(v.mul<|wk<|vl q).add G,v,λt=>by rw[H t,M t];grind⟩ (by show(z.map cq).length<X (y.map cq);rw[xaj,xaj];lia);have w1:xz (yc (d+1) β) (yG z) (λt=>yG x t-yG (vl q) t*yG y t):=xz.of λt=>by rw[M t];grind
 have w2:xz (yc (d+1) β) (λt=>yG x t-yG (vl q) t*yG y t) (λt=>yG g t*a t-yG (vl q) t*(yG ts t*a t)):=U.sub<|xz.mul (wk _) (wk _) xz.refl o;have w3:xz (yc (d+1) β) (yG u) (λt=>yG g t-yG (vl q) t*yG ts t):=u3.trans (by have⟨Q,k1,k2⟩:=p3.smul (-1);exact⟨Q,k1,λt=>by have:=k2 t;rw[show(((-1:J)):uP)= -1 from O];grind⟩)
 have w4:=xz.mul (F':=a) (G':=a) (P:=yc (d+1) β) ha (Zz.sub (wk g)<|(wk<|vl q).mul<|wk ts) w3 xz.refl;exact(w1.trans w2).trans<|(xz.of λt=>by grind).trans w4.symm;refine⟨0,(xaL<|d+1).map β,e,[],[1],by rw[he];rfl,W,by simp;lia,m7,y2,y5,?_,y3,bg.nil _,⟨m6,λ_=>by decide⟩,?_,?_,?_,?_,_,_,Zz.c 1,Zz.c 0,λt=> ?_⟩;refine UU.mono (j:=b) (f:=y7<|(xaL<|d+1).map β) ?_ hd;have⟨D,D0,D1,hD⟩:=F.ht;refine⟨D,D0,D1,λi=> ?_⟩;by_cases hi:i<d+1
 rw[th hi];exact hD i;rw[Yd<|by simp;lia];exact⟨0,by grind,xbY _⟩;show Ht 1 [];exact⟨1,m6,m6,λi=>⟨0,by unfold y7;rw[List.getD_nil];grind,m6⟩⟩
 show Ht 1 [1];exact⟨1,m6,m6,λi=>by
  cases i with
  |zero=>exact⟨1,by show(1:uP)*((1:K):uP)=((1:J):uP);grind,m6⟩
  |succ i=>exact⟨0,by rw[Yd m7];grind,m6⟩⟩
 exact⟨_,Zz.c 1,λt=>by show yG ((xaL<|d+1).map β) t-yG [] t*a t=_;rw[Iw,iG];grind⟩;exact y4.trans (xz.of λt=>by show _=(0+1*t^0)*a t;rw[xfY];grind);rw[Iw];grind;show(e.map cq).length<fu;rw[xaj];lia
end
section
variable{m u d g:wF wN}{P:wP}{f v w:Pz}{y p a:wN}{b:wP->Pz}{l us:wF (wF wN)}
def pp(f:R):K->R
 |0=>D 1
 |n+1=>pp f n*f
def Fh(f:R)(m:K):∀n,pp f (m+n)=pp f m*pp f n
 |0=>(yu _).symm
 |n+1=>by rw[<-xcQ];show pp f (m+n)*f=_;rw[Fh f m n,zd];rfl
def ziu(f g:R):∀n,pp (f*g) n=pp f n*pp g n
 |0=>(yu _).symm
 |n+1=>by
  show pp (f*g) n*(f*g)=pp f n*f*(pp g n*g);rw[ziu f g n,zd,zd,zG<|pp g n]
def zhS(f:R)(m:K):∀n,pp (pp f m) n=pp f (m*n)
 |0=>rfl
 |n+1=>by rw[Nat.mul_succ,Fh f,<-zhS f m n];rfl
def zhF(c:J):∀n,pp (D c) n=D (c^n)
 |0=>by rw[xck];rfl
 |n+1=>by show pp (D c) n*D c=_;rw[zhF c n,jR,xbS]
def Fs.pp{f:R}(h:Fs f):∀n,Fs (pp f n)
 |0=>⟨1,λk c=>zF⟩
 |n+1=>(Fs.pp h n).mul h
def smP:K->(K->R)->R
 |0,_=>D 0
 |n+1,F=>smP n F+F n
def W4{F G:K->R}:∀n,(∀i,i<n->F i=G i)->smP n F=smP n G
 |0,_=>rfl
 |n+1,h=>by show smP n F+F n=smP n G+G n;rw[W4 n λi hi=>h i W,h n W]
def zac{m:J}{F G:K->R}:∀n,(∀i,i<n->Cg m (F i) (G i))->Cg m (smP n F) (smP n G)
 |0,_=>Cg.rfl
 |n+1,h=>(zac n λi hi=>h i W).add<|h n W
theorem Kn(f g:R):f+g=g+f:=by grind [zW,Int.add_comm]
def Qk(f g h:R):f+g+h=f+(g+h):=Z0 λk=>by simp only[zW];lia
def W8(f:R):f+D 0=f:=Z0 λk=>by rw[zW,zV,xcc]
def Fv(f:R):D 0+f=f:=Z0 λk=>by rw[zW,zV,xcO]
def pE(g:R)(F:K->R):∀n,smP n F*g=smP n λi=>F i*g
 |0=>yE g
 |n+1=>by show(smP n F+F n)*g=smP n (λi=>F i*g)+F n*g;rw[yY,pE g F n]
def Oh(F G:K->R):∀n,smP n (λi=>F i+G i)=smP n F+smP n G
 |0=>(W8 _).symm
 |n+1=>by
  show smP n (λi=>F i+G i)+(F n+G n)=smP n F+F n+(smP n G+G n);rw[Oh F G n];funext k;simp only[zW];lia
def Xm(F:K->R):∀n,smP (n+1) F=F 0+smP n λi=>F (i+1)
 |0=>by show D 0+F 0=F 0+D 0;rw[Kn]
 |n+1=>by show smP (n+1) F+F (n+1)=F 0+(smP n (λi=>F<|i+1)+F (n+1));rw[Xm F n,Qk]
def ze5{m:J}{F:K->R}(n:K)(h:∀i,i<n->Cg m (F i) (D 0)):Cg m (smP n F) (D 0):=by
 induction n with
 |zero=>exact Cg.rfl
 |succ n c=>
  have:=(c λi hi=>h i W).add (h n W);rw[W8]at this;exact this
theorem zaE(a b:J):D (a+b)=D a+D b:=by grind [D,zW]
def zhD(f g:R):∀n,pp (f+g) n=smP (n+1) λi=>D (dB n i)*(pp f i*pp g (n-i))
 |0=>by
  show D 1=D 0+D ((dB 0 0:K):J)*(D 1*D 1);rw[Fv,zE,show((dB 0 0:K):J)=1 from O,zE]
 |n+1=>by
  show pp (f+g) n*(f+g)=_;rw[zhD f g n,wM,pE,pE];have e1:(smP (n+1) λi=>D (dB n i)*(pp f i*pp g (n-i))*g)=smP (n+2) λi=>D (dB n i)*(pp f i*pp g (n+1-i)):=by
   have c:D ((dB n (n+1):K):J)*(pp f (n+1)*pp g (n+1-(n+1)))=D 0:=by rw[rQ n (n+1) W];exact yE _
   show _=smP (n+1) _+D ((dB n (n+1):K):J)*(pp f (n+1)*pp g (n+1-(n+1)));rw[c,W8];refine W4 _ λi hi=> ?_;rw[(W:n+1-i=n-i+1),zd,zd];rfl
  have e:(smP (n+1) λi=>D (dB n i)*(pp f i*pp g (n-i))*f)=smP (n+1) λi=>D (dB n i)*(pp f (i+1)*pp g (n+1-(i+1))):=
   W4 _ λi hi=>by rw[(W:n+1-(i+1)=n-i),zd,zm (pp f i*_) f,<-zd f,zm f<|pp f i];rfl
  rw[e1,e,Xm _<|n+1,Xm (λi=>D ((dB (n+1) i:K):J)*(pp f i*pp g (n+1-i)))<|n+1,VG,VG,<-Qk,Kn<|smP _ _,Qk,<-Oh];congr 1;refine W4 _ λi hi=> ?_;rw[J9,xfl,zaE,yY,Kn]
def zqv(hp:2<=P)(hn:kU P)(f g:R):Cg (P:J) (pp (f+g) P) (pp f P+pp g P):=by
 obtain⟨q,rfl⟩:∃q,P=q+1:=⟨P-1,W⟩;rw[zhD];show Cg _ (smP (q+1) _+D ((dB (q+1) (q+1):K):J)*(pp f (q+1)*pp g (q+1-(q+1)))) _;rw[Xm,Dd,VG,xcx,show((1:K):J)=1 from O,zE,zE];have e:=ze5 (m:=((q+1:K):J)) (F:=λi=>D ((dB (q+1) (i+1):K):J)*(pp f (i+1)*pp g (q+1-(i+1)))) q λi hi=>Cg.of_dvd λk=>by
  rw[zS];exact xbv (xdq.2<|zcf hp hn)<|xcd _ _
 have h1:pp f 0*pp g (q+1-0)=pp g (q+1):=zE _;have h:pp f (q+1)*pp g 0=pp f (q+1):=yu _;rw[h1,h];have c:=((Cg.rfl (m:=((q+1:K):J)) (f:=pp g<|q+1)).add e).add<|Cg.rfl (f:=pp f<|q+1);rw[W8,Kn (pp g _)<|pp f _]at c;exact c
def HX{P:K}(hp:2<=P)(hn:kU P)(F:K->R):∀n,Cg (P:J) (pp (smP n F) P) (smP n λi=>pp (F i) P)
 |0=>by
  show Cg _ (pp (D 0) P) (D 0);rw[zhF,Int.zero_pow W];exact Cg.rfl
 |n+1=>(zqv hp hn (smP n F)<|F n).trans<|(HX hp hn F n).add Cg.rfl
def vx:R:=mono 1 1
def zbL(c:J):∀i,(mono i c:R)=D c*pp vx i
 |0=>by
  show _=D c*D 1;rw[yu];funext k;unfold mono D;rfl
 |i+1=>by
  show _=D c*(pp vx i*vx);rw[<-zd,<-zbL c i];funext k;rw[zm];show mono (i+1) c k=((mono 1 1:R)*mono i c) k;rw[VO];unfold sh mono;by_cases h:1<=k;rw[E h];by_cases e:k=i+1
  rw[E e,yg,xdh];rw[ir e,zF,xaz];rw[ir h,zF];rfl
def zhd{n:K}(h:∀k,n<=k->f k=0):f=smP n λi=>mono i (f i):=by
 have e:∀m k,smP m (λi=>(mono i (f i):R)) k=if k<m then f k else 0:=λm=>by
  induction m with
  |zero=>intro k;rw[zF];exact zV k
  |succ m j=>
   intro k;show(smP m (λi=>(mono i (f i):R))+mono m (f m)) k=_;rw[zW,j];unfold mono;by_cases h1:k=m;rw[E h1,zF,yg,h1,xcO];rw[ir h1,xcc];by_cases c:k<m;rw[E c,yg];rw[ir c,zF]
 funext k;rw[e];split;rfl;exact h k W
def EP(hp:2<=P)(hn:kU P)(a:J):a^P%P=a%P:=by
 have h1:a%P=((a%P).toNat:J)%P:=by have:=xcN a (W:(P:J)≠0);rw[xdg this,xaT]
 have c:=zbu hp hn (a%P).toNat;have e:=xcN a (W:(P:J)≠0);rw[xdg e,xaT]at c;rw[<-c,<-xcE (a^P)<|xer _];have:∀n,(a%P)^n%P=a^n%P:=λn=>by
  induction n with
  |zero=>rw[xck,xck]
  |succ n h=>rw[xbS,xbS,xcj,h,xaT,<-xcj]
 rw[this,xaT]
def zrK(hp:2<=P)(hn:kU P){n:K}(h:∀k,n<=k->f k=0):Cg (P:J) (pp f P) (smP n λi=>D (f i)*pp (pp vx P) i):=by
 have h1:pp f P=pp (smP n λi=>mono i<|f i) P:=by rw[<-zhd h]
 rw[h1];refine(HX hp hn _ n).trans<|zac n λi hi=> ?_;rw[zbL,ziu,zhF,zhS,zhS,xaO];refine Cg.mul (λk=> ?_) Cg.rfl;unfold D;split;exact EP hp hn _;rfl
def es(d:K->J):K->J->J
 |0,_=>0
 |n+1,a=>d 0+a*es (λk=>d<|k+1) n a
theorem zgW(a:J):∀(n:K) (d:K->J),∃q:K->J,(∀b,es d (n+1) b=(b-a)*es q n b+es d (n+1) a)/\(∀k,k<n->d (k+1)=q k-a*(if k+1<n then q (k+1)else 0))/\d 0=es d (n+1) a-a*(if 0<n then q 0 else 0)
 |0,d=>⟨λ_=>0,λb=>by show d 0+b*0=(b-a)*0+(d 0+a*0);grind,λk i=>by lia,by show d 0=d 0+a*0-a*(if 0<0 then 0 else 0);rw[zF];grind⟩
 |n+1,d=>by
  have⟨q,h1,j,h⟩:=zgW a n λk=>d<|k+1;have⟨e,c⟩:∃e,e=es (λk=>d<|k+1) (n+1) a:=⟨_,O⟩;rw[<-c]at h1 h
  refine⟨λk=>match k with
   |0=>e
   |k+1=>q k,λb=> ?_,λk i=> ?_,?_⟩
  show d 0+b*es (λk=>d<|k+1) (n+1) b=(b-a)*(e+b*es q n b)+(d 0+a*es (λk=>d<|k+1) (n+1) a);rw[h1 b,<-c];generalize es q n b=x;grind
  cases k with
  |zero=>
   show d (0+1)=e-a*(if 0+1<n+1 then q 0 else 0);have o:d (0+1)=e-a*(if 0<n then q 0 else 0):=h;rw[o];by_cases hn:0<n;rw[E hn,yg];rw[ir hn,zF]
  |succ k=>
   show d (k+1+1)=q k-a*(if k+1+1<n+1 then q (k+1)else 0);rw[j k W];by_cases hn:k+1<n;rw[E hn,yg];rw[ir hn,zF]
  show d 0=d 0+a*es (λk=>d<|k+1) (n+1) a-a*(if 0<n+1 then e else 0);rw[yg,c];grind
theorem LX(hp:2<=P)(hn:kU P){x:J}(h:(P:J)∣x*y):(P:J)∣x\/(P:J)∣y:=by
 by_cases c:(P:J)∣x;exact .inl c;right;have h0:0<(x%P).toNat:=by have h1:=xcN x (W:(P:J)≠0);have i:x%P≠0:=λe=>c<|xaG e;lia
 have h1:(x%P).toNat<P:=by have:=xdN x (W:(0:J)<P);lia
 have i:(P:J)∣(x%P)*y:=by
  have:(x%P)*y=x*y-P*(x/P*y):=by have:=Int.emod_add_mul_ediv x P;grind
  rw[this];exact xdA h<|xcd _ _
 have k:P∣(x%P).toNat*y.natAbs:=by
  have j:=xcq.2 i;rw[xcl]at j;have n:(x%P).natAbs=(x%P).toNat:=W
  rwa[xaH,n]at j
 exact xcq.1<|by rw[xaH];exact zcD hp hn h0 h1 k
def zbA{P:K}(hp:2<=P)(hn:kU P):∀(n:K) (d:K->J),n<=P->(∀a:K,a<n->(P:J)∣es d n a)->∀k,k<n->(P:J)∣d k
 |0,_,_,_,k,i=>by lia
 |n+1,d,t,h,k,i=>by
  have⟨q,h1,j,o⟩:=zgW (n:J) n d;have e:=zbA hp hn n q W λa x=>by
   have e1:=h1 a;have r:(P:J)∣((a:J)-n)*es q n a:=by
    have:((a:J)-n)*es q n a=es d (n+1) a-es d (n+1) n:=W
    rw[this];exact xdA (h a W)<|h n W
   obtain e3|e3:=LX hp hn r
   exfalso;have⟨c,hc⟩:=e3;have z:c<0:=by apply Int.not_le.1;intro hd;have:=xcB (W:(0:J)<=P) hd;lia
   have A:(P:J)*c<=(P:J)*(-1):=xaW W W;lia;exact e3
  have s:=h n W
  cases k with
  |zero=>
   rw[o];refine xdA s ?_;split;exact xbv (e 0 W)<|xcP _ _;rw[xaz];exact xdI _
  |succ k=>
   rw[j k W];refine xdA (e k W) ?_;split;exact xbv (e (k+1) W)<|xcP _ _;rw[xaz];exact xdI _
def sc:K->K->J
 |0,k=>if k=0 then 1 else 0
 |n+1,0=> -(n:J)*sc n 0
 |n+1,k+1=>sc n k-(n:J)*sc n (k+1)
theorem AJ:∀n k,n<k->sc n k=0
 |0,k,h=>zF
 |n+1,0,h=>by lia
 |n+1,k+1,h=>by show sc n k-(n:J)*sc n (k+1)=0;rw[AJ n k W,AJ n (k+1) W];grind
theorem zbc:∀n,sc n n=1
 |0=>rfl
 |n+1=>by show sc n n-(n:J)*sc n (n+1)=1;rw[zbc n,AJ n (n+1) W];grind
def prv(v:R):K->R
 |0=>D 1
 |n+1=>prv v n*(v-D n)
theorem zcU(a:J)(f:R):D (-a)*f= -(D a*f):=by grind [zbw,zS,Int.neg_mul]
theorem zbY(v:R):∀n,prv v n=smP (n+1) λk=>D (sc n k)*pp v k
 |0=>by
  show D 1=D 0+D (sc 0 0)*D 1;rw[Fv,show sc 0 0=1 from O,yu]
 |n+1=>by
  show prv v n*(v-D n)=_;have e:∀F G:R,F*(G-D n)=F*G+ -(D n*F):=λF G=>by rw[qM,zm F<|D n,RA]
  rw[e,zbY v n,pE];have c: -(D (n:J)*smP (n+1) λk=>D (sc n k)*pp v k)=smP (n+2) λk=>D (-(n:J)*sc n k)*pp v k:=by rw[<-zcU,zm,pE];show _=smP (n+1) _+D (-(n:J)*sc n (n+1))*pp v (n+1);rw[AJ n (n+1) W,xaz,yE,W8];exact W4 _ λi _=>by rw[zm,<-zd,jR]
  rw[c,Xm _<|n+1,Xm (λk=>D (sc (n+1) k)*pp v k)<|n+1,<-Qk,Kn<|smP _ _,Qk,<-Oh];congr 1;refine W4 _ λi _=> ?_;show D (sc n i)*pp v i*v+D (-(n:J)*sc n (i+1))*pp v (i+1)=D (sc n i-(n:J)*sc n (i+1))*pp v (i+1);rw[zd];show D (sc n i)*pp v (i+1)+_=_;rw[<-yY,<-zaE];congr 2;grind
theorem gR(d:K->J)(a:J):∀n,es d (n+1) a=es d n a+d n*a^n:=by
 intro n
 induction n generalizing d with
 |zero=>show d 0+a*0=0+d 0*a^0;rw[xck];grind
 |succ n c=>
  show d 0+a*es (λk=>d<|k+1) (n+1) a=d 0+a*es (λk=>d<|k+1) n a+d (n+1)*a^(n+1);rw[c,xbS];grind
theorem zay(c d:K->J)(a:J):∀n,es (λk=>c k+d k) n a=es c n a+es d n a
 |0=>rfl
 |n+1=>by rw[gR,gR,gR,zay c d a n];grind
def prn(a:J):K->J
 |0=>1
 |n+1=>prn a n*(a-n)
theorem zhm(a:J):∀n,prn a n=es (sc n) (n+1) a
 |0=>by show(1:J)=1+a*0;grind
 |n+1=>by
  show prn a n*(a-n)=_;have h1:es (sc<|n+1) (n+2) a= -(n:J)*sc n 0+a*es (λk=>sc n k-(n:J)*sc n (k+1)) (n+1) a:=O;have e:es (λk=>sc n k-(n:J)*sc n (k+1)) (n+1) a=es (sc n) (n+1) a+es (λk=> -(n:J)*sc n (k+1)) (n+1) a:=by rw[<-zay];congr 1;funext k;grind
  have h:∀m (d:K->J) (c:J),es (λk=>c*d k) m a=c*es d m a:=λm=>by
   induction m with
   |zero=>intro d c;show(0:J)=c*0;grind
   |succ m i=>intro d c;rw[gR,gR,i];grind
  have j:es (sc n) (n+2) a=es (sc n) (n+1) a:=by rw[gR,AJ n (n+1) W,xba,xcc]
  have o:es (sc n) (n+2) a=sc n 0+a*es (λk=>sc n<|k+1) (n+1) a:=O;rw[h1,e,h,zhm a n];grind
def zcr{a:K}:∀n,a<n->prn a n=0
 |0,h=>by lia
 |n+1,h=>by
  show prn a n*((a:J)-n)=0;by_cases e:a=n;rw[e,xes,xaz];rw[zcr n W,xba]
theorem znn(hp:2<=P)(hn:kU P)(k:K):sc P k%P=(if k=P then(1:J)else if k=1 then-1 else 0)%P:=by
 by_cases h:k<P
 have e:=zbA hp hn P (λk=>sc P k+(if k=1 then 1 else 0)) (Nm _) (λa i=>by
  rw[zay];have e1:es (λk=>if k=1 then(1:J)else 0) P (a:J)=a:=by
   obtain⟨q,rfl⟩:∃q,P=q+2:=⟨P-2,W⟩;show(0:J)+a*((1:J)+a*es (λk=>if k+1+1=1 then(1:J)else 0) q a)=a;have:∀m,es (λk=>if k+1+1=1 then(1:J)else 0) m (a:J)=0:=λm=>by
    induction m with
    |zero=>rfl
    |succ m j=>rw[gR,j,zF];grind
   rw[this];grind
  have n:=zhm (a:J) P;rw[zcr P i,gR,zbc]at n;have o:=EP hp hn (a:J);rw[e1];have r:es (sc P) P (a:J)+a=a-a^P:=by grind
  rw[r];exact xaG<|xaN.1 o.symm) k h
 rw[zF];have hc:=xax e;by_cases h1:k=1
 rw[E h1]at hc⊢;refine xaN.2 ?_;rw[(W:sc P k- -1=sc P k+1)];exact hc;rw[ir h1]at hc⊢;rw[xcc]at hc;rw[hc,xar];by_cases c:k=P;rw[E c,c,zbc];rw[ir c,zF,AJ P k W]
def zhi:∀n,(smP n λ_=>D 0)=D 0
 |0=>rfl
 |n+1=>by show(smP n λ_=>D 0)+D 0=D 0;rw[zhi n,W8]
def zlT(hp:2<=P)(hn:kU P)(v:R):Cg (P:J) (prv v P) (pp v P-v):=by
 rw[zbY]
 have h1:Cg (P:J) (smP (P+1) λk=>D (sc P k)*pp v k) (smP (P+1) λk=>D (if k=P then(1:J)else if k=1 then-1 else 0)*pp v k):=
  zac _ λk _=>Cg.mul (λj=>by unfold D;split;exact znn hp hn k;rfl) Cg.rfl
 refine h1.trans<|Cg.of ?_;obtain⟨q,rfl⟩:∃q,P=q+2:=⟨P-2,W⟩;show smP (q+2) _+D (if q+2=q+2 then(1:J)else _)*pp v (q+2)=_;rw[E O,zE,Xm _<|q+1,Xm _ q,zF,zF,zF,E O];have c:(smP q λk=>D (if k+1+1=q+2 then(1:J)else if k+1+1=1 then-1 else 0)*pp v (k+1+1))=D 0:=by rw[W4 (G:=λ_=>D 0) q λi hi=>by rw[zF,zF,yE]];exact zhi q
 rw[c];have e:D (-1)*pp v (0+1)= -v:=by rw[zcU,zE];show-(D 1*v)= -v;rw[zE]
 rw[e,yE];funext k;simp only[zW,xd,zbw,zV];lia
def Di(p:J)(u v:R):Prop:=∃q:R,Fs q/\Cg p v (q*u)
def Di.refl(p:J)(u:R):Di p u u:=⟨D 1,Fs.pc 1,Cg.of (zE u).symm⟩
def Di.trans{p:J}{u v w:R}(h:Di p u v)(g:Di p v w):Di p u w:=by have⟨q,f1,h1⟩:=h;have⟨r,f2,c⟩:=g;exact⟨r*q,f2.mul f1,c.trans<|((Cg.rfl (f:=r)).mul h1).trans<|Cg.of (zd r q u).symm⟩
def Di.add{p:J}{u v w:R}(h:Di p u v)(g:Di p u w):Di p u (v+w):=by have⟨q,f1,h1⟩:=h;have⟨r,f2,c⟩:=g;exact⟨q+r,f1.add f2,(h1.add c).trans<|Cg.of (yY q r u).symm⟩
def Di.sub{p:J}{u v w:R}(h:Di p u v)(g:Di p u w):Di p u (v-w):=by have⟨q,f1,h1⟩:=h;have⟨r,f2,c⟩:=g;exact⟨q-r,f1.subt f2,(h1.sub c).trans<|Cg.of (kh q r u).symm⟩
def Di.mul{p:J}{u v:R}(w:R)(c:Fs w)(h:Di p u v):Di p u (w*v):=by have⟨q,f1,h1⟩:=h;exact⟨w*q,c.mul f1,((Cg.rfl (f:=w)).mul h1).trans<|Cg.of (zd w q u).symm⟩
def Di.cg{u:R}(h:Di p u v)(g:Cg p v w):Di p u w:=by have⟨q,f1,h1⟩:=h;exact⟨q,f1,g.symm.trans h1⟩
def Di.zero(p:J)(u:R):Di p u (D 0):=⟨D 0,Fs.pc 0,Cg.of (yE u).symm⟩
def Di.euclid{u:R}(c:Fs w)(h:kM p u v)(g:Di p u (v*w)):Di p u w:=by
 have⟨s,t,fs,e,h1⟩:=h;have i:Cg p (w*s*u+t*(v*w)) w:=by refine Cg.trans (Cg.of ?_)<|(h1.mul<|Cg.rfl (f:=w)).trans<|Cg.of<|zE w;rw[yY,zd t,zm (s*u) w,zd w]
 refine Di.cg (Di.add ?_<|g.mul t e) i;exact⟨w*s,c.mul fs,Cg.rfl⟩
def Di.both{u:R}(j:Fs w)(h:kM p u v)(g1:Di p u w)(c:Di p v w):Di p (u*v) w:=by have⟨q,fq,h1⟩:=c;have e:Di p u q:=Di.euclid fq h<|g1.cg<|h1.trans<|Cg.of<|zm q v;have⟨r,fr,i⟩:=e;refine⟨r,fr,h1.trans<|(i.mul<|Cg.rfl (f:=v)).trans<|Cg.of<|zd r u v⟩
def Di.prz{p:J}{w:R}(e:Fs w):∀{us:N R},(∀u∈us,Fs u)->us.Pairwise (kM p)->(∀u∈us,Di p u w)->Di p (prZ us) w
 |[],_,_,_=>⟨w,e,Cg.of (yu w).symm⟩
 |u::us,i,hp,h=>by
  have⟨h1,j⟩:=xdo.1 hp;refine Di.both e ?_ (h u<|IR)<|Di.prz e (λg c=>i g<|FS _ c) j λg c=>h g<|FS _ c;exact(kM.prZ (i u<|IR) (λg c=>i g<|FS _ c) λg c=>(h1 g c).symm).symm
structure QY(p:J)(u:N J):Prop where
 mn:vF p u
 l1:1<u.length
 ir:∀d,vF p d->Di p (C d) (C u)->d.length=1\/d=u
def NK{a b:N J}(hp:2<=p)(c:vF p a)(i:vF p b)(h:Di p (C a) (C b))(hl:X b<=X a):a=b:=by
 have⟨q,fq,h1⟩:=h;have⟨n,hn⟩:=fq;have hd:=c.ln;have x:=i.ln;have z:=iB hp i c ⟨n,hn⟩ h1;have e:X a=X b:=W
 have j:Cg p ((q-D 1)*C a) (C b-C a):=by rw[kh,zE];exact h1.symm.sub Cg.rfl
 have o:=c.mn.zero hp (Fs.subt ⟨n,hn⟩<|Fs.pc 1) λk A=>by
  rw[j k,xd];by_cases hc:k=X a-1
  have r:=c.top;have s:=i.top;rw[hc,r,e,s,xes,xar];rw[yB W,yB W];exact xar _
 refine c.fm.ext i.fm ?_;have t:=j.symm.trans<|o.mul_zero_r<|C a;exact(Cg.iff_sub.2 t).symm
theorem QY.or(hp:qO p=qR){l:N J}(c:QY p u)(i:X u<=290)(hl:Fp p l)(hc:X l<=290):Di p (ci u) (ci l)\/kM p (ci u) (ci l):=by
 have⟨j,q⟩:=zB hp;have⟨d,s,t,_,e,hd⟩:=Zh (fu:=3000000) hp c.mn.fm hl i hc<|Nm _;have h:=zkf j c.mn e hd;have⟨A,C,k,n,h1,o⟩:=e.dv;rcases c.ir d h ⟨A,k,h1⟩with h3|h3
 exact .inr<|ME e h3 h.top;left;rw[<-h3];exact⟨C,n,o⟩
def QY.ne(hp:2<=p)(e:QY p u):¬Di p (C u) (D 1):=λ⟨q,fq,h⟩=>by
 have hl:=e.l1;have h1:=e.mn.mn.zero hp fq λk i=>by rw[<-h k,show D 1 k=0 from zF,xar]
 have c:=(h.trans<|h1.mul_zero_r _) 0;rw[zV,xar]at c;unfold D at c;rw[E O,xaJ m6 W]at c;cases c
theorem QY.cop(hp:qO p=qR){w:N J}(c:QY p u)(e:QY p w)(i:X u<=290)(hc:X w<=290)(h:u≠w):kM p (C u) (C w):=by grind [QY.or,vF.fm,QY.mn,QY.ir,QY.l1]
def quo(hp:qO p=qR)(e:vF p m)(hd:vF p d)(k:X m<=90000)(h:Di p (C d) (C m)):∃q,vF p q/\Cg p (C m) (C q*C d)/\X m+1=X q+X d:=by have⟨i,x⟩:=zB hp;have⟨A,j,h1⟩:=h;have hc:=iB i e hd j h1;have⟨q,r,_,n,o,s,t,z⟩:=xN (fu:=3000000) hp e.fm hd.fm hd.ln k W<|Nm _;have⟨a,b,c⟩:=IE i e hd j h1 n o s t;exact⟨q,a,b,c⟩
def zqA(hp:qO p=qR):∀(n:K) {m:N J},X m=n->n<=290->vF p m->∃us:N (N J),(∀u∈us,QY p u/\X u<=n)/\Cg p (C m) (prZ<|us.map C):=by
 intro n
 induction n using xdG with
 |ind n j=>
  intro m H hn c;have⟨s,L⟩:=zB hp;have M:=c.ln;by_cases h1:X m=1
  refine⟨[],(λu e=>by cases e),?_⟩;have:=c.one h1;rw[this];refine Cg.of<|funext λk=> ?_;show C [1] k=D 1 k
  cases k with
  |zero=>rfl
  |succ k=>rw[yB m7];exact(zF).symm
  by_cases hi:QY p m;refine⟨[m],λu e=> ?_,?_⟩;rw[xaf.1 e];exact⟨hi,W⟩;exact Cg.of (yu<|C m).symm;have⟨d,i,hc,ht,t⟩:∃d,vF p d/\Di p (C d) (C m)/\X d≠1/\d≠m:=by
   apply xad;intro x;refine hi ⟨c,W,λd z A=> ?_⟩;by_cases o:X d=1
   exact .inl o;right;apply xad;intro B;exact x ⟨d,z,A,o,B⟩
  have⟨q,E,F,hv⟩:=quo hp c i W hc;have Q:=i.ln;have R:X d<X m:=by apply xdw;intro h;exact t<|NK s i c hc h
  have⟨us,hd,hl⟩:=j (X d) W O W i;have⟨vs,r,G⟩:=j (X q) W O W E;refine⟨vs++us,λu e=> ?_,?_⟩;obtain h|h:=xab.1 e
  exact⟨(r u h).1,by have:=(r u h).2;lia⟩;exact⟨(hd u h).1,by have:=(hd u h).2;lia⟩;rw[xaU,vz];exact F.trans<|G.mul hl
def bF{p:J}{u:R}:∀{us:N R},(∀w∈us,Fs w)->u∈us->Di p u (prZ us)
 |[],_,h=>by cases h
 |w::us,c,h=>by
  have i:=Fs.prZ λg e=>c g<|FS _ e;obtain rfl|h:=xal.1 h
  exact⟨prZ us,i,Cg.of<|zm _ _⟩;exact(bF (λg e=>c g<|FS _ e) h).mul w<|c w<|IR
def QY.mem{p:J}(hp:qO p=qR){u:N J}(c:QY p u)(k:X u<=290):∀{us:N (N J)},(∀w∈us,QY p w/\X w<=290)->Di p (C u) (prZ<|us.map C)->u∈us
 |[],_,h=>kW h<|c.ne (zB hp).1
 |w::us,i,h=>by
  by_cases e:u=w;rw[e];exact IR;have h1:=c.cop hp (i w<|IR).1 k (i w<|IR).2 e;refine FS _<|QY.mem hp c k (λg j=>i g<|FS _ j)<|Di.euclid (Fs.prZ λg j=> ?_) h1 h;obtain⟨l,_,rfl⟩:=xat.1 j;exact Fs.ci l
def Fs.to{n:K}(h:∀k,n<=k->f k=0):Fs f:=⟨n,h⟩
def Fs.vx:Fs vx:=⟨2,λk c=>zF⟩
def lst(hp:0<p){n:K}(h:∀k,n<=k->f k=0):∃l:N J,Fp p l/\X l<=n/\Cg p (C l) f:=by refine⟨pm p<|zl n f,Df hp _,xao (zbz _ _) (by rw[yj];exact Nm _),?_⟩;exact(P9 p _).trans<|Cg.of<|funext λk=>X9 h k
def QY.or'(hp:qO p=qR)(e:QY p u)(i:X u<=290){n:K}(h:∀k,n<=k->f k=0)(hn:n<=290):Di p (C u) f\/kM p (C u) f:=by
 have⟨j,o⟩:=zB hp;have⟨l,h1,q,c⟩:=lst (p:=p) W h;obtain h4|h4:=e.or hp i h1 W
 exact .inl<|h4.cg c;exact .inr<|h4.congr Cg.rfl c
def QY.const(hp:2<=p)(e:QY p u){c:J}(h:Di p (C u) (D c)):p∣c:=by
 have⟨q,fq,h⟩:=h;have hl:=e.l1;have h1:=e.mn.mn.zero hp fq λk j=>by rw[<-h k,show D c k=0 from zF,xar]
 have i:=(h.trans<|h1.mul_zero_r _) 0;rw[zV,xar]at i;exact xaG i
def Di.const{c:J}{u:R}(h:p∣c):Di p u (D c):=(Di.zero p u).cg λk=>by
 rw[zV];unfold D;split;rw[xar,xax h];rfl
def Vl(p:J)(u:N J)(v:R)(c:J):Prop:=Di p (C u)<|v-D c
theorem zae(a b:J):D (a-b)=D a-D b:=by grind [D,xd]
def Vl.uniq(hp:2<=p)(c:QY p u){b:J}(h:Vl p u v a)(g:Vl p u v b):p∣a-b:=by refine c.const hp<|(Di.sub g h).cg<|Cg.of ?_;rw[zae];funext k;simp only[xd];lia
def Vl.add{p:J}{u:N J}{v w:R}{a b:J}(h:Vl p u v a)(g:Vl p u w b):Vl p u (v+w) (a+b):=by refine(Di.add h g).cg<|Cg.of ?_;rw[zaE];funext k;simp only[zW,xd];lia
def Vl.sub{p:J}{u:N J}{v w:R}{a b:J}(h:Vl p u v a)(g:Vl p u w b):Vl p u (v-w) (a-b):=by refine(Di.sub h g).cg<|Cg.of ?_;rw[zae];funext k;simp only[xd];lia
def Vl.mul{p:J}{u:N J}{v w:R}{a b:J}(c:Fs v)(h:Vl p u v a)(g:Vl p u w b):Vl p u (v*w) (a*b):=by refine(Di.add (Di.mul v c g)<|Di.mul (D b) (Fs.pc b) h).cg<|Cg.of ?_;rw[qM,qM,zm v<|D b,jR,xbB b a];funext k;simp only[zW,xd];lia
def Vl.pc(p:J)(u:N J)(c:J):Vl p u (D c) c:=(Di.zero p<|C u).cg<|Cg.of<|funext λk=>by rw[xd,zV,xes]
def Vl.pp{p:J}{u:N J}{v:R}{a:J}(c:Fs v)(h:Vl p u v a):∀n,Vl p u (pp v n) (a^n)
 |0=>by rw[xck];exact Vl.pc p u 1
 |n+1=>by rw[xbS];exact Vl.mul (c.pp n) (Vl.pp c h n) h
def Vl.cg{p:J}{u:N J}{v w:R}{a:J}(h:Vl p u v a)(g:Cg p v w):Vl p u w a:=Di.cg h<|g.sub Cg.rfl
def Vl.md{b:J}(h:Vl p u v a)(g:p∣a-b):Vl p u v b:=by refine(Di.add h<|Di.const (u:=C u) g).cg<|Cg.of ?_;rw[zae];funext k;simp only[zW,xd];lia
def Vl.di(hp:2<=p)(c:QY p u)(h:Vl p u v a):Di p (C u) v↔p∣a:=by constructor;intro g;have h0:Vl p u v 0:=g.cg (Cg.of<|funext λk=>by rw[xd,zV,xdk]);have:=h.uniq hp c h0;rwa[xdk]at this;intro g;have h0:Vl p u v 0:=h.md (by rwa[xdk]);exact Di.cg h0<|Cg.of<|funext λk=>by rw[xd,zV,xdk]
def zh8{p:J}(hp:qO p=qR){u:N J}(e:QY p u)(o:X u<=290){v:R}{n:K}(hv:∀k,n<=k->v k=0)(hd:1<=n)(hn:n<=290):∀j,Di p (C u) (prv v j)->∃c:K,c<j/\Vl p u v c
 |0,h=>kW h<|e.ne (zB hp).1
 |j+1,h=>by
  have q:∀k,n<=k->(v-D (j:J)) k=0:=λk r=>by rw[xd,hv k r,show D (j:J) k=0 from zF];rfl
  obtain h1|h1:=e.or' hp o q hn
  exact⟨j,W,h1⟩
  have s:∀i,Fs (prv v i):=λi=>by
   induction i with
   |zero=>exact Fs.pc 1
   |succ i t=>exact t.mul<|(Fs.to hv).subt<|Fs.pc _
  have x:Di p (C u) (prv v j):=Di.euclid (s j) h1<|h.cg<|Cg.of<|zm _ _;have⟨c,hc,z⟩:=zh8 hp e o hv hd hn j x;exact⟨c,W,z⟩
def zlg(hp:qO (P:J)=qR)(h:QY (P:J) u)(hc:X u<=290)(hd:Di (P:J) (C u) (C m)){n:K}(hv:∀k,n<=k->v k=0)(i:1<=n)(hn:n<=290)(j:Di (P:J) (C m) (pp v P-v)):∃c:K,c<P/\Vl (P:J) u v c:=by have⟨o,q⟩:=zB hp;have e:=WA hp;rw[xbb]at e;exact zh8 hp h hc hv i hn P<|(hd.trans j).cg (zlT W e v).symm
def zqz{p:J}{m:N J}(c:vF p m):∀(n:K) (f:R),(∀k,n<=k->f k=0)->∃q r:R,Fs q/\(∀k,X m-1<=k->r k=0)/\f=q*C m+r
 |0,f,h=>⟨D 0,D 0,Fs.pc 0,λk _=>zV k,Z0 λk=>by rw[zW,yE,zV,h k W];rfl⟩
 |n+1,f,h=>by
  have hl:=c.ln;by_cases hn:n+1<=X m-1
  exact⟨D 0,f,Fs.pc 0,λk i=>h k W,Z0 λk=>by rw[zW,yE,zV,xcO]⟩
  have⟨d,hd⟩:∃d,d=X m-1:=⟨_,O⟩;have⟨q,r,fq,j,o⟩:=zqz c n (f-mono (n-d) (f n)*C m) λk i=>by
   rw[xd,VO];unfold sh;rw[yg];by_cases e:k=n;have ht:=c.top;rw[e,(W:n-(n-d)=X m-1),ht];lia;rw[h k W,yB W];lia
  refine⟨q+mono (n-d) (f n),r,fq.add ⟨n+1,λk i=>zF⟩,j,?_⟩;rw[yY];funext k;have:=WS o k;simp only[zW,xd]at this⊢;lia
def zrB(hp:qO (P:J)=qR)(S:vF (P:J) m)(G:∀u∈us,QY (P:J) u/\X u<=290)(J4:us.Pairwise (λa b=>kM (P:J) (C a)<|C b))(hc:Cg (P:J) (C m) (prZ<|us.map C))(hd:u∈us):
 ∃e:R,(∀k,X m-1<=k->e k=0)/\Vl (P:J) u e 1/\(∀w,w∈us->w≠u->Vl (P:J) w e 0)/\Di (P:J) (C m) (pp e P-e):=by
 have⟨H,p2⟩:=zB hp;have T:=WA hp;rw[xbb]at T;have⟨a,b,K⟩:=xev hd;have o:∀{l:N (N J)},∀g∈l.map C,Fs g:=λg x=>by obtain⟨l,_,rfl⟩:=xat.1 x;exact Fs.ci l
 have⟨i,E⟩:∃i,i=prZ ((a++b).map C):=⟨_,O⟩;have U:Fs i:=by rw[E];exact Fs.prZ o
 have hi:kM (P:J) (C u) i:=by
  rw[E];refine(kM.prZ (Fs.ci u) o λg x=> ?_).symm;obtain⟨l,hl,rfl⟩:=xat.1 x;rw[K,xdu,xdo]at J4;obtain h|h:=xab.1 hl
  exact J4.2.2 l h u<|IR;exact(J4.2.1.1 l h).symm
 have⟨s,t,fs,L,h1⟩:=hi;have⟨n,hn⟩:=L.mul U;have⟨q,e,fq,M,V⟩:=zqz S n (t*i) hn;have Y:∀w∈us,Di (P:J) (C w) (C m):=λw j=>Di.cg (bF o<|xbH j) hc.symm;have Q:∀w∈us,∀{c:J},Vl (P:J) w (t*i) c->Vl (P:J) w e c:=λw j c h=>by
  have z:=Di.sub h<|Di.mul q fq<|Y w j;refine z.cg<|Cg.of ?_;rw[V];funext k;simp only[zW,xd];lia
 have v1:Vl (P:J) u e 1:=Q u hd (by have z:Di (P:J) (C u) (D 0-s*C u):=(Di.zero _ _).sub ⟨s,fs,Cg.rfl⟩;refine z.cg<|Cg.trans (Cg.of ?_)<|(Cg.rfl (f:=t*i)).sub h1;funext k;simp only[zW,xd,zV];lia)
 have v0:∀w,w∈us->w≠u->Vl (P:J) w e 0:=λw j ht=>Q w j (by
  have h3:w∈a++b:=by
   rw[K]at j;obtain h|h:=xab.1 j
   exact xdU _ h;obtain h|h:=xal.1 h
   exact kW h ht;exact xew _ h
  have z:Di (P:J) (C w) i:=by rw[E];exact bF o<|xbH h3
  exact(z.mul t L).cg<|Cg.of<|funext λk=>by rw[xd,zV,xdk])
 refine⟨e,M,v1,v0,?_⟩;have B:=Fs.to M;have hk:Di (P:J) (prZ<|us.map C) (pp e P-e):=by refine Di.prz ((B.pp P).subt B) o ?_ λg x=> ?_;exact xeD.2 J4;obtain⟨w,j,rfl⟩:=xat.1 x;by_cases F:w=u;subst F;have A:=Vl.sub (Vl.pp B v1 P) v1;rw[Int.one_pow,xes]at A;exact(A.di H (G w j).1).2<|xdI _;have A:=Vl.sub (Vl.pp B (v0 w j F) P)<|v0 w j F;rw[Int.zero_pow W,xes]at A;exact(A.di H (G w j).1).2<|xdI _
 have⟨r,fr,h5⟩:=hk;exact⟨r,fr,h5.trans<|Cg.rfl.mul hc.symm⟩
def ov{p:J}{u:N J}{a c:K->J}{b:K->R}:∀n,(∀i,i<n->Vl p u (b i) (c i))->Vl p u (smP n λi=>D (a i)*b i) (ye n λi=>a i*c i)
 |0,_=>Vl.pc p u 0
 |n+1,h=>Vl.add (ov n λi hi=>h i W)<|Vl.mul (Fs.pc _) (Vl.pc p u<|a n)<|h n W
def sep(hp:qO (P:J)=qR)(s:vF (P:J) m)(j:∀u∈us,QY (P:J) u/\X u<=290)(J4:us.Pairwise (λa b=>kM (P:J) (C a)<|C b))(hc:Cg (P:J) (C m) (prZ<|us.map C)){n:K}(t:∀e:R,(∀k,X m-1<=k->e k=0)->Di (P:J) (C m) (pp e P-e)->∃a:K->J,Cg (P:J) e<|smP n λi=>D (a i)*b i){w:N J}(hd:u∈us)(o:w∈us){c:K->J}(h1:∀i,i<n->Vl (P:J) u (b i) (c i))(x:∀i,i<n->Vl (P:J) w (b i) (c i)):u=w:=by
 have⟨q,L⟩:=zB hp;apply xad;intro z;have⟨e,e1,A,B,E⟩:=zrB hp s j J4 hc hd;have⟨a,r⟩:=t e e1 E;have f1:=(ov (a:=a) n h1).cg r.symm;have f2:=(ov (a:=a) n x).cg r.symm;have g1:=A.uniq q (j u hd).1 f1;have F:=(B w o λh=>z h.symm).uniq q (j w o).1 f2;have G:=xdA g1 F;have⟨k,M⟩:=G;have H:(P:J)*k=1:=W
 have h6:k=1\/k<=0\/2<=k:=W
 obtain h6|h6|h6:=h6
 rw[h6]at H;lia;have:=xaW h6 (W:(0:J)<=P);lia;have:=xaW h6 (W:(0:J)<=P);lia
theorem zbN{P:J}{a b:J}(h:P∣a-b):∀n:K,P∣a^n-b^n
 |0=>by rw[xck,xck,xes];exact xdI _
 |n+1=>by
  have⟨x,c⟩:=h;have⟨y,e⟩:=zbN ⟨x,c⟩ n;refine⟨y*a+b^n*x,?_⟩;rw[xbS,xbS];grind
def Af(P:K)(y:J):Prop:=if 2<P then(P:J)∣y^((P-1)/2)-1 else(P:J)∣y
def Af.md{z:J}(h:(P:J)∣y-z)(g:Af P y):Af P z:=by
 unfold Af at g⊢;split;rw[cO ‹_›]at g;have:=zbN h<|(P-1)/2;have e:=xdA g this;have c:y^((P-1)/2)-1-(y^((P-1)/2)-z^((P-1)/2))=z^((P-1)/2)-1:=W
 rwa[c]at e;rw[if_neg ‹_›]at g;have e:=xdA g h;have c:y-(y-z)=z:=W
 rwa[c]at e
def Af.iff{z:J}(h:(P:J)∣y-z):Af P y↔Af P z:=by refine⟨Af.md h,Af.md ?_⟩;have⟨k,c⟩:=h;exact⟨-k,by rw[Int.mul_neg];lia⟩
def za2(hp:qO (P:J)=qR){d:J}(hd:¬(P:J)∣d):∃k:K,(P:J)∣(k:J)*d-1:=by
 have⟨n,o⟩:=zB hp;have h0:=xcN d (W:(P:J)≠0);have h1:=xdN d (W:(0:J)<P);have q:d%P≠0:=λe=>hd<|xaG e;have c:=zbn hp (W:0<d%P) h1;have⟨x,h⟩:∃x,x=(d%P)^((P:J)-2).toNat:=⟨_,O⟩;rw[<-h]at c;have i:0<=x:=by rw[h];exact Int.pow_nonneg h0
 refine⟨x.toNat,?_⟩;rw[xdg i];have j:(x*d)%P=1%P:=by rw[xcj,<-xcE d<|xer _,<-xcj,c,xaJ m6 W]
 exact xaG<|xaN.1 j
def zkE(hp:qO (P:J)=qR)(A:P=2\/P%2=1){b:J}(h:∀c:K,c<P->(Af P (a+c)↔Af P (b+c))):(P:J)∣a-b:=by
 have⟨B,C⟩:=zB hp;apply xad;intro hd;have hc:∀y:J,Af P (a+y)↔Af P (b+y):=λy=>by
  have e1:=xcN y (W:(P:J)≠0);have D:=xdN y (W:(0:J)<P);have j:=h (y%P).toNat W;rw[xdg e1]at j;have F:(P:J)∣y-y%P:=⟨y/P,by have:=Int.emod_add_mul_ediv y P;lia⟩;have o:(P:J)∣a+y-(a+y%P):=by rwa[(W:a+y-(a+y%P)=y-y%P)]
  have r:(P:J)∣b+y-(b+y%P):=by rwa[(W:b+y-(b+y%P)=y-y%P)]
  exact(Af.iff o).trans<|j.trans (Af.iff r).symm
 have s:∀y:J,Af P y↔Af P (y+(a-b)):=λy=>by
  have:=hc<|y-b;rw[(W:b+(y-b)=y),(W:a+(y-b)=y+(a-b))]at this;exact this.symm
 have t:∀k:K,Af P 0↔Af P ((k:J)*(a-b)):=λk=>by
  induction k with
  |zero=>rw[show((0:K):J)=0 from O,xba]
  |succ k x=>
   refine x.trans<|(s _).trans ?_;rw[xfl,Int.add_mul,show((1:K):J)=1 from O,xdh]
 have⟨k,h1⟩:=za2 hp hd;have e:=(t k).trans<|Af.iff h1;have n:¬(P:J)∣1:=λ⟨q,z⟩=>by
  have h6:q<=0\/1<=q:=W
  obtain h6|h6:=h6
  have:=xaW h6 (W:(0:J)<=P);lia;have:=xaW h6 (W:(0:J)<=P);lia
 unfold Af at e;by_cases i:2<P;rw[E i,E i,Int.one_pow,xes,Int.zero_pow W]at e;have:=e.2<|xdI _;refine n ?_;have⟨q,z⟩:=this;exact⟨-q,by rw[Int.mul_neg];lia⟩;rw[ir i,ir i]at e;exact n<|e.1<|xdI _
theorem zji(A B D:K->J)(x z:J):∀n,ye n (λi=>A i*(B i-x*D i*z))=ye n (λi=>A i*B i)-x*z*ye n (λi=>A i*D i)
 |0=>by show(0:J)=0-x*z*0;lia
 |n+1=>by
  show ye n _+A n*(B n-x*D n*z)=ye n _+A n*B n-x*z*(ye n _+A n*D n);rw[zji A B D x z n];grind
theorem Eu{P:K}(hp:qO (P:J)=qR):∀(n:K) (c:N K) (A C:K->K->J),c.Nodup->(∀j∈c,∀k∈c,(P:J)∣ye n (λi=>A j i*C i k)-(if j=k then 1 else 0))->X c<=n
 |0,[],_,_,_,_=>Nm _
 |0,j::c,A,C,_,h=>by
  exfalso;have⟨Y,p2⟩:=zB hp;have:=h j (IR) j<|IR;rw[E O]at this;have⟨q,L⟩:=this;have hi:(0:J)-1=P*q:=L;have h6:q<= -1\/0<=q:=W
  obtain h6|h6:=h6
  have:=xaW h6 (W:(0:J)<=P);lia;have:=xcB (W:(0:J)<=P) h6;lia
 |n+1,c,A,C,t,h=>by
  by_cases D:∀j∈c,(P:J)∣C n j;refine Nat.le_succ_of_le<|Eu hp n c A C t λj r k z=> ?_;have h1:=h j r k z;have B:(P:J)∣A j n*C n k:=xbv (D k z)<|xcP _ _;have M:=xdA h1 B;have e:ye (n+1) (λi=>A j i*C i k)-(if j=k then 1 else 0)-A j n*C n k=ye n (λi=>A j i*C i k)-(if j=k then 1 else 0):=by show ye n _+A j n*C n k-_-A j n*C n k=_;lia
  rwa[e]at M;have⟨o,hd,hc⟩:∃o,o∈c/\¬(P:J)∣C n o:=by apply xad;intro Q;refine D λj r=> ?_;apply xad;intro h1;exact Q ⟨j,r,h1⟩
  have⟨x,R⟩:=za2 hp hc;have S:=List.length_erase_of_mem hd;have T:=xft hd;have:=Eu hp n (c.erase o) A (λi k=>C i k-(x:J)*C i o*C n k) (t.erase o) λj r k z=>by
   have⟨n1,G⟩:=t.mem_erase_iff.1 r;have⟨n2,U⟩:=t.mem_erase_iff.1 z;have h1:=h j G k U;have B:=h j G o hd;rw[ir n1,xdk]at B;rw[zji];have⟨k1,e1⟩:=h1;have⟨k2,H⟩:=B;have⟨k3,e3⟩:=R;have s:ye n (λi=>A j i*C i k)+A j n*C n k-(if j=k then 1 else 0)=P*k1:=e1;have F:ye n (λi=>A j i*C i o)+A j n*C n o=P*k2:=H;have V:(if j=k then(1:J)else 0)=if j=k then 1 else 0:=O;generalize(if j=k then(1:J)else 0)=dl at s⊢;generalize ye n (λi=>A j i*C i k)=s1 at s⊢;generalize ye n (λi=>A j i*C i o)=s0 at F⊢;refine⟨k1-((x:J)*C n k*k2-A j n*C n k*k3),?_⟩;clear e1 H V D hc h S T;grind
  lia
structure Sf(p:J)(m:N J)(us:N (N J)):Prop where
 hp:qO p=qR
 mn:vF p m
 ml:m.length<=290
 ir:∀u∈us,QY p u/\u.length<=290
 pw:us.Pairwise (λa b=>kM p (C a)<|C b)
 cg:Cg p (C m) (prZ<|us.map C)
theorem cr:∀g∈l.map C,Fs g:=by grind [C,Fs.ci]
theorem QY.self(hp:2<=p)(c:QY p u):¬kM p (C u) (C u):=λ⟨s,t,fs,e,h⟩=>by
 refine c.ne hp ⟨s+t,fs.add e,h.symm.trans<|Cg.of ?_⟩;rw[yY]
def Sf.dv(h:Sf p m us)(c:u∈us):Di p (C u) (C m):=(bF cr<|xbH c).cg h.cg.symm
def Sf.mem{p:J}{m:N J}{us:N (N J)}(h:Sf p m us){u:N J}(c:QY p u)(e:X u<=290)(hd:Di p (C u) (C m)):u∈us:=c.mem h.hp e h.ir<|hd.cg h.cg
def Sf.sq(h:Sf p m us)(e:u∈us):¬Di p (C u*C u) (C m):=λhd=>by
 have⟨c,A⟩:=zB h.hp;obtain⟨a,b,rfl⟩:=xev e;have⟨hi,j⟩:=h.ir u e;have J4:=h.pw;rw[xdu,xdo]at J4;have⟨q,fq,h1⟩:=hd;have i:=h.cg;rw[xaU,xbT,vz]at i;have n:Cg p (prZ (a.map C)*(C u*prZ (b.map C))) (q*(C u*C u)):=i.symm.trans h1;have o:Fs (prZ<|(a++b).map C):=Fs.prZ cr;have r:Cg p ((prZ ((a++b).map C)-q*C u)*C u) (D 0):=by rw[kh,xaU,vz];refine Cg.trans (Cg.sub (Cg.of ?_)<|Cg.of<|zd q (C u)<|C u)<|Cg.iff_sub.1 n;rw[zd,zm<|prZ<|b.map C]
 have s:=hi.mn.mn.zero c (o.subt<|fq.mul<|Fs.ci u) λk B=>by rw[r k,zV,xar]
 have t:Di p (C u) (prZ<|(a++b).map C):=⟨q,fq,Cg.iff_sub.2 s⟩;have x:=hi.mem h.hp j (us:=a++b) (λw z=>by
  obtain h|h:=xab.1 z
  exact(by assumption:Sf p m (a++u::b)).ir w<|xdU _ h;exact(by assumption:Sf p m (a++u::b)).ir w<|xew _<|FS _ h) t
 obtain h8|h8:=xab.1 x
 exact hi.self c<|J4.2.2 u h8 u<|IR;exact hi.self c<|J4.2.1.1 u h8
def Sf.len(h:Sf p m us)(c:vF p g)(hd:Di p (C g) (C m)):X g<=290:=by have⟨q,fq,h1⟩:=hd;exact xao (iB (zB h.hp).1 h.mn c fq h1) h.ml
def Sf.some{p:J}{m:N J}{us:N (N J)}(h:Sf p m us){g:N J}(e:vF p g)(hd:Di p (C g) (C m))(hl:1<X g):∃u,u∈us/\Di p (C u) (C g):=by
 have j:=h.len e hd;have⟨vs,h1,i⟩:=zqA h.hp (X g) O j e
 cases vs with
 |nil=>
  exfalso;have c:=i<|X g-1;have ht:=e.top;have hp:=(zB h.hp).1;rw[ht,show prZ (List.map C [])=D 1 from O,show D 1 (X g-1)=0 from zF,xar,xaJ m6 W]at c;cases c
 |cons v vs=>
  have c:Di p (C v) (C g):=(bF cr<|xbH<|IR).cg i.symm;have⟨k,n⟩:=h1 v<|IR;exact⟨v,h.mem k W<|c.trans hd,c⟩
def Sf.one{p:J}{m:N J}{us:N (N J)}(h:Sf p m us){g:N J}(c:vF p g)(hd:Di p (C g) (C m))(hl:1<X g)(o:∀u∈us,∀w∈us,Di p (C u) (C g)->Di p (C w) (C g)->u=w):QY p g:=by
 have⟨s,A⟩:=zB h.hp;have B:=h.len c hd;have⟨u,i,h1⟩:=h.some c hd hl;have⟨hi,D⟩:=h.ir u i;have⟨q,j,hc,hn⟩:=quo h.hp c hi.mn W h1;by_cases t:1<X q;exfalso;have k:Di p (C q) (C g):=⟨C u,Fs.ci u,hc.trans<|Cg.of<|zm _ _⟩;have⟨w,x,n⟩:=h.some j (k.trans hd) t;have e:=o w x u i (n.trans k) h1;subst e;have⟨r,fr,z⟩:=n;refine h.sq i<|Di.trans ⟨r,fr,hc.trans<|(z.mul Cg.rfl).trans<|Cg.of<|zd _ _ _⟩ hd;have hp:=j.ln;have E:=j.one W;have:g=u:=by refine(NK s hi.mn c h1 ?_).symm;lia
 rw[this];exact hi
def Sf.apart(h:Sf p m us){a b:R}(k:Fs a)(n:Fs b)(c:Di p (a*b) (C m))(e:u∈us)(h1:Di p (C u) a)(i:Di p (C u) b):UT:=by have⟨q,fq,e1⟩:=h1;have⟨r,fr,j⟩:=i;refine h.sq e<|Di.trans ⟨q*r,fq.mul fr,(e1.mul j).trans<|Cg.of ?_⟩ c;rw[zd,zd,zG (C u) r]
def znF{t e i:N J}{S:K}(c:BzR p g t d e i S)(u:N J):Di p (ci u) (ci d)↔Di p (ci u) (ci g)/\Di p (ci u) (ci t):=by have⟨A,C,j,k,h1,n⟩:=c.dv;refine⟨λh=>⟨h.trans ⟨A,j,h1⟩,h.trans ⟨C,k,n⟩⟩,λ⟨a,b⟩=> ?_⟩;exact(Di.add (a.mul _<|Fs.ci _)<|b.mul _<|Fs.ci _).cg c.cg.symm
def eY{α:Type}[DecidableEq α]:∀{vs us:N α},vs.Nodup->(∀v∈vs,v∈us)->X vs<=X us
 |[],_,_,_=>xah _
 |v::vs,us,hn,h=>by
  have⟨h1,i⟩:=xfo.1 hn;have hv:=h v<|IR;have j:=eY (us:=us.erase v) i λw c=>by
   refine(List.mem_erase_of_ne λe=> ?_).2<|h w<|FS _ c;rw[e]at c;exact h1 c
  have k:=List.length_erase_of_mem hv;have n:=xft hv;simp only[xaw];lia
def Sf.nodup(h:Sf p m us):us.Nodup:=by
 have hp:=(zB h.hp).1;have:∀us:N (N J),(∀u∈us,QY p u/\X u<=290)->us.Pairwise (λa b=>kM p (C a)<|C b)->us.Nodup:=λus=>by
  induction us with
  |nil=>intro _ _;exact List.nodup_nil
  |cons u us c=>
   intro hi e;have⟨w1,i⟩:=xdo.1 e;refine xfo.2 ⟨λj=> ?_,c (λg k=>hi g<|FS _ k) i⟩;exact(hi u<|IR).1.self hp<|w1 u j
 exact this us h.ir h.pw
structure Pl(p:J)(m:N J)(l:N (N J)):Prop where
 mn:∀g∈l,vF p g/\1<g.length
 pr:Cg p (C m) (prZ<|l.map C)
def Pl.dv(h:Pl p m l)(c:g∈l):Di p (C g) (C m):=(bF cr<|xbH c).cg h.pr.symm
theorem zda(a b:N (N J))(g:N J):prZ ((a++g::b).map C)=C g*prZ ((a++b).map C):=by grind [prZ,C,vz,zG]
def Sf.pick{p:J}{m:N J}{us:N (N J)}(h:Sf p m us):∀{l:N (N J)},(∀g∈l,vF p g/\1<X g)->Di p (prZ<|l.map C) (C m)->∃vs:N (N J),X vs=X l/\vs.Nodup/\∀v∈vs,v∈us/\Di p (C v) (prZ<|l.map C)
 |[],_,_=>⟨[],O,List.nodup_nil,λv hv=>by cases hv⟩
 |g::l,c,hd=>by
  have fl:Fs (prZ<|l.map C):=Fs.prZ cr;have d1:Di p (C g) (prZ<|(g::l).map C):=⟨prZ<|l.map C,fl,Cg.of<|zm _ _⟩;have d2:Di p (prZ<|l.map C) (prZ<|(g::l).map C):=⟨C g,Fs.ci g,Cg.rfl⟩;have⟨j,k⟩:=c g<|IR;have⟨u,e,i⟩:=h.some j (d1.trans hd) k;have⟨vs,v1,n,v3⟩:=h.pick (λg o=>c g<|FS _ o)<|d2.trans hd;refine⟨u::vs,by simp[v1],xfo.2 ⟨λhc=> ?_,n⟩,λv hv=> ?_⟩;exact h.apart (Fs.ci g) fl hd e i (v3 u hc).2;obtain rfl|hv:=xal.1 hv
  exact⟨e,i.trans d1⟩;exact⟨(v3 v hv).1,(v3 v hv).2.trans d2⟩
def Sf.more(h:Sf p m us)(hl:Pl p m l){w:N J}(j:g∈l)(c:u∈us)(e:w∈us)(h1:Di p (C u) (C g))(k:Di p (C w) (C g))(n:u≠w):X l<X us:=by
 obtain⟨a,b,rfl⟩:=xev j;have i:=hl.pr;rw[zda]at i;have fl:Fs (prZ<|(a++b).map C):=Fs.prZ cr;have hd:Di p (C g*prZ ((a++b).map C)) (C m):=⟨D 1,Fs.pc 1,i.trans<|Cg.of (zE _).symm⟩;have⟨vs,v1,o,v3⟩:=h.pick (l:=a++b) (λx q=>by
  obtain h|h:=xab.1 q
  exact hl.mn x<|xdU _ h;exact hl.mn x<|xew _<|FS _ h) (Di.trans ⟨C g,Fs.ci g,Cg.rfl⟩ hd)
 have hn:(u::w::vs).Nodup:=by
  refine xfo.2 ⟨λhc=> ?_,xfo.2 ⟨λhc=> ?_,o⟩⟩;obtain hc|hc:=xal.1 hc
  exact n hc;exact h.apart (Fs.ci g) fl hd c h1 (v3 u hc).2;exact h.apart (Fs.ci g) fl hd e k (v3 w hc).2
 have:=eY (us:=us) hn λv hv=>by
  obtain rfl|hv:=xal.1 hv
  exact c;obtain rfl|hv:=xal.1 hv
  exact e;exact(v3 v hv).1
 simp only[xaw,xau]at this v1⊢;lia
def Pl.split{a b:N (N J)}{q:N J}(h:Pl p m (a++g::b))(hd:vF p d)(c:vF p q)(e:1<X d)(i:1<X q)(hc:Cg p (C g) (C q*C d)):Pl p m (a++d::(b++[q])):=by
 refine⟨λx hx=> ?_,?_⟩;obtain hx|hx:=xab.1 hx
 exact h.mn x<|xdU _ hx;obtain rfl|hx:=xal.1 hx
 exact⟨hd,e⟩;obtain hx|hx:=xab.1 hx
 exact h.mn x<|xew _<|FS _ hx;rw[xaf.1 hx];exact⟨c,i⟩;have h1:=h.pr;rw[zda]at h1⊢;rw[<-xas,xaU,vz];refine h1.trans<|(hc.mul Cg.rfl).trans<|Cg.of ?_;show C q*C d*prZ ((a++b).map C)=C d*(prZ ((a++b).map C)*(C q*D 1));rw[yu,zm (prZ _)<|C q,zG<|C d,zd]
structure Bs(P:K)(m:N J)(b:K->R)(n:K):Prop where
 od:P=2\/P%2=1
 ml:1<m.length
 sp:∀e:R,(∀k,m.length-1<=k->e k=0)->Di (P:J) (C m) (pp e P-e)->∃a:K->J,Cg (P:J) e<|smP n λi=>D (a i)*b i
 sm:∀i,i<n->∀k,m.length-1<=k->b i k=0
 fx:∀i,i<n->Di (P:J) (C m) (pp (b i) P-b i)
def Bs.val(h:Sf (P:J) m us){n:K}(e:Bs P m b n)(j:u∈us){i:K}(hi:i<n):∃c:K,c<P/\Vl (P:J) u (b i) c:=by have hl:=h.ml;have k:=e.ml;exact zlg h.hp (h.ir u j).1 (h.ir u j).2 (h.dv j) (n:=X m-1) (e.sm i hi) W W<|e.fx i hi
def Bs.le(h:Sf (P:J) m us){n:K}(F:Bs P m b n):X us<=n:=by
 have⟨G,p2⟩:=zB h.hp;have hl:=h.nodup;have hd:∀j,j<X us->us.getD j []∈us:=λj k=>by rw[UV,xaa k];exact xbI k
 have H:∀i j,∃c:J,i<n->j<X us->Vl (P:J) (us.getD j []) (b i) c:=λi j=>by
  by_cases hi:i<n;by_cases k:j<X us;have⟨c,_,hc⟩:=F.val h (hd j k) hi;exact⟨c,λ_ _=>hc⟩;exact⟨0,λ_ h=>kW h k⟩;exact⟨0,λh=>kW h hi⟩
 have L:∀j,∃a:K->J,j<X us->∃e:R,Cg (P:J) e (smP n λi=>D (a i)*b i)/\Vl (P:J) (us.getD j []) e 1/\∀w,w∈us->w≠us.getD j []->Vl (P:J) w e 0:=λj=>by
  by_cases k:j<X us;have⟨e,e1,t,x,s⟩:=zrB h.hp h.mn h.ir h.pw h.cg<|hd j k;have⟨a,U⟩:=F.sp e e1 s;exact⟨a,λ_=>⟨e,U,t,x⟩⟩;exact⟨λ_=>0,λh=>kW h k⟩
 have z:∃A:K->K->J,∀j,j<X us->∃e:R,Cg (P:J) e (smP n λi=>D (A j i)*b i)/\Vl (P:J) (us.getD j []) e 1/\∀w,w∈us->w≠us.getD j []->Vl (P:J) w e 0:=⟨λj=>xfK<|L j,λj=>xeV<|L j⟩;have B:∃C:K->K->J,∀i j,i<n->j<X us->Vl (P:J) (us.getD j []) (b i) (C i j):=⟨λi j=>xfK<|H i j,λi j=>xeV<|H i j⟩;have⟨A,z⟩:=z;have⟨C,B⟩:=B;have:=Eu h.hp n (xaL (X us)) A C List.nodup_range λj k o V=>by
  have l1:=xbf.1 k;have r:=xbf.1 V;have⟨e,e1,t,x⟩:=z j l1;have s:=(ov (a:=A j) n λi hi=>B i o hi r).cg e1.symm;have M:=(h.ir _<|hd o r).1;by_cases q:j=o;subst q;rw[E O];exact s.uniq G M t;rw[ir q];refine s.uniq G M<|x _ (hd o r) λY=>q ?_;have g1:=UV (l:=us) (i:=j) (a:=[]);have Q:=UV (l:=us) (i:=o) (a:=[]);rw[xaa l1]at g1;rw[xaa r]at Q;have S:us[j]=us[o]:=by have:us.getD j []=us.getD o []:=Y.symm;rw[g1,Q]at this;exact this
  apply xad;intro hh;have T:=xcY.1 hl;obtain hlt|hlt:=Nat.lt_or_gt_of_ne q
  exact T j o l1 r hlt S;exact T o j r l1 hlt S.symm
 rwa[xeC]at this
def Ct(P:K)(us:N (N J))(v:R)(c:J)(g:N J):Prop:=
 (∀u∈us,Di (P:J) (C u) (C g)->∀a,Vl (P:J) u v a->Af P (a+c))\/(∀u∈us,Di (P:J) (C u) (C g)->∀a,Vl (P:J) u v a->¬Af P (a+c))
def Ct.sub{c:J}(h:Ct P us v c g)(hd:Di (P:J) (C d) (C g)):Ct P us v c d:=by
 obtain h|h:=h
 exact .inl λu e i=>h u e<|i.trans hd;exact .inr λu e i=>h u e<|i.trans hd
def Pl.done(h:Sf (P:J) m us){n:K}(e:Bs P m b n)(hl:Pl (P:J) m l)(h0:∃c:J,Cg (P:J) (b 0)<|D c)(B:X l=n\/∀i,1<=i->i<n->∀c:K,c<P->∀g∈l,Ct P us (b i) c g):∀g∈l,QY (P:J) g:=λg o=>by
 have⟨H,L⟩:=zB h.hp;have⟨g1,E⟩:=hl.mn g o;refine h.one g1 (hl.dv o) E λu j w k h1 r=> ?_;apply xad;intro A;have hn:=e.le h;have M:=h.more hl o j k h1 r A;obtain he|he:=B
 lia
 refine A ?_;have hc:∀i,∃c:J,i<n->Vl (P:J) u (b i) c/\Vl (P:J) w (b i) c:=λi=>by
  by_cases hi:i<n;by_cases F:i=0
  have⟨c,hc⟩:=h0;subst F;exact⟨c,λ_=>⟨(Vl.pc _ u c).cg hc.symm,(Vl.pc _ w c).cg hc.symm⟩⟩
  have⟨x,_,s⟩:=e.val h j hi;have⟨y,_,t⟩:=e.val h k hi;have hd:(P:J)∣(x:J)-y:=zkE h.hp e.od λc G=>by
   obtain ht|ht:=he i W hi c G g o
   exact⟨λ_=>ht w k r _ t,λ_=>ht u j h1 _ s⟩;exact⟨λz=>kW z<|ht u j h1 _ s,λz=>kW z<|ht w k r _ t⟩
  exact⟨y,λ_=>⟨s.md hd,t⟩⟩;exact⟨0,λh=>kW h hi⟩
 have q:∃C:K->J,∀i,i<n->Vl (P:J) u (b i) (C i)/\Vl (P:J) w (b i) (C i):=⟨λi=>xfK<|hc i,λi=>xeV<|hc i⟩;have⟨C,q⟩:=q;exact sep h.hp h.mn h.ir h.pw h.cg e.sp j k (λi hi=>(q i hi).1) λi hi=>(q i hi).2
end
section
variable{p:wN}{a g d v ds m:wF wN}{y:Pz}{E fu P k i nb:wP}{us l bs:wF (wF wN)}
def Em(p:J)(a:N J)(x y:R):Prop:=Di p (C a)<|x-y
def Em.rfl{x:R}:Em p a x x:=(Di.zero p<|C a).cg<|Cg.of<|funext λk=>by rw[xd,zV,xes]
def Em.cg{p:J}{a:N J}{x y:R}(h:Cg p x y):Em p a x y:=(Di.zero p<|C a).cg (Cg.iff_sub.1 h).symm
def Em.symm{x:R}(h:Em p a x y):Em p a y x:=(Di.sub (Di.zero p<|C a) h).cg<|Cg.of<|funext λk=>by simp only[xd,zV];lia
def Em.trans{x z:R}(h:Em p a x y)(g:Em p a y z):Em p a x z:=(Di.add h g).cg<|Cg.of<|funext λk=>by simp only[zW,xd];lia
def Em.mul{p:J}{a:N J}{x y z w:R}(fx:Fs x)(b:Fs w)(h:Em p a x y)(g:Em p a z w):Em p a (x*z) (y*w):=by refine(Di.add (Di.mul x fx g)<|Di.mul w b h).cg<|Cg.of ?_;rw[qM,qM,zm w x,zm w y];funext k;simp only[zW,xd];lia
def Em.dv{b:N J}{x:R}(h:Em p a x y)(g:Di p (C b) (C a)):Em p b x y:=g.trans h
def Em.vl{u:N J}{x:R}{c:J}(h:Em p u x y)(g:Vl p u y c):Vl p u x c:=by refine(Di.add h g).cg<|Cg.of ?_;funext k;simp only[zW,xd];lia
def Em.rest{x q r:N J}(h:Cg p (C x) (C q*C a+C r)):Em p a (C x) (C r):=by refine⟨C q,Fs.ci q,(h.sub Cg.rfl).trans<|Cg.of ?_⟩;funext k;simp only[zW,xd];lia
theorem zlA(h0:0<E)(h:E<18446744073709551616):yK (E:J)=(I,[E]):=by grind [yK,Iy]
def zqw(n:K):n<2^bl n:=by
 induction n using xdG with
 |ind n b=>
  obtain rfl|h:=xcw n
  skip;decide;have h1:=b (n/2) W;rw[dN h];lia
structure PwI(p:J)(a w:N J)(E i:K)(t:N J):Prop where
 fp:Fp p t
 ln:t.length<a.length
 em:Em p a (pp (C w)<|E/2^i) (C t)
def KN{w:N J}(hp:qO p=qR)(o:Fp p w)(e:vF p a)(hm:X w<=40000)(hn:X a<=40000)(h0:0<E)(hE:E<1048576)(c:3000000<=fu):
 ∃r,ZE fu w (yK E) a p=Z (r,0)/\Fp p r/\X r<X a/\Em p a (pp (C w) E) (C r):=by
 have⟨p1,h⟩:=zB hp;have hc:=e.ln;have u:=zlA h0 (W:E<18446744073709551616);have z:zn [E]:=λx Q=>by rw[xaf.1 Q];lia
 have R:A [E]=E:=by simp[A]
 have S:lF (yK (E:J)):=by rw[u];exact⟨z,m7⟩
 have⟨q1,r1,d1,d2,d3,d4,d5,d6⟩:=xN (fu:=fu) hp (QN (x:=1)) e.fm hc m7 W c;have⟨q2,r2,f1,f2,f3,f4,f5,f6⟩:=xN (fu:=fu) hp o e.fm hc W W c;have T:bl E<=20:=ae (W:E<2^20);have hl:kK (E:J) 0=1:=by unfold kK;rw[zF,yg]
 unfold ZE;rw[Y<|ZF hp,iq O,Y<|xi S c,zt,hl,ir m6,Y<|zP W h (e.fm.rl h) W c,e.fm.pm,zF,Y d1];simp only;rw[Y<|zP W h (o.rl h) W c,o.pm,Y f1];simp only;rw[u];show∃r,G (ZO fu [E]) _=_/\_;rw[Y (Vz z m7<|by simp;lia),R,zb];have hd:=zU (f:=Va fu (I,[E]) p a) (λs:N J×N J×J=>∃(i:K) (t:N J),s=(t,r2,(i:J)-1)/\i<=20/\PwI p a w E i t) (λs=>(s.2.2+1).toNat) (λr=>PwI p a w E 0 r) (by
  rintro s L ⟨i,t,rfl,hi,b⟩ B;unfold Va;simp only
  cases i with
  |zero=>rw[zF];exact⟨t,O,b⟩
  |succ i=>
   have ho:=b.ln;have ml:=jV p t t;have⟨q3,j,g1,g2,H,U,V,g6⟩:=xN (fu:=fu) hp (jz (p:=p) W t t) e.fm hc W W c;have n:Em p a (pp (C w)<|E/2^(i+1)+E/2^(i+1)) (C j):=by rw[Fh];refine(Em.mul ((Fs.ci w).pp _) (Fs.ci t) b.em b.em).trans<|(Em.cg (Yf p t t).symm).trans<|Em.rest U
   have ei:((i+1:K):J)-1=(i:J):=W
   have e1:xdC (i:J) 64=0:=by rw[xfa W];lia
   have e2:xcG (i:J) 64=(i:J):=by rw[Int.tmod_eq_emod_of_nonneg W];lia
   have e3:E/2^i/2=E/2^(i+1):=by rw[xaD,xbe]
   rw[ei,yg,Y<|vo W h b.fp b.fp W W c,Y g1];simp only;rw[va m6,e1,vO ⟨m6,m6⟩,show(0:J)=((0:K):J)from O,zp m7,F,va m6,e2,F,y9,F,F];have e4:(([E]:N K).getD 0 0/2^(min (i:J).toNat 64)) &&& 1=E/2^i%2:=by rw[Nat.and_one_is_mod,xbb,xci W];rfl
   rw[e4];by_cases hb:E/2^i%2=1
   rw[yg];have a0:=jV p j r2;have⟨q4,M,k1,k2,k3,k4,k5,k6⟩:=xN (fu:=fu) hp (jz (p:=p) W j r2) e.fm hc W W c;rw[Y<|vo W h H f3 W W c,Y k1];simp only;rw[zb];refine B _ ⟨i,M,O,W,⟨k3,k5,?_⟩⟩ (by show((i:J)-1+1).toNat<(((i+1:K):J)-1+1).toNat;lia);have q:E/2^i=E/2^(i+1)+E/2^(i+1)+1:=W
   rw[q];show Em p a (pp (C w) (E/2^(i+1)+E/2^(i+1))*C w) (C M);exact(Em.mul ((Fs.ci w).pp _) (Fs.ci r2) n<|Em.rest f4).trans<|(Em.cg (Yf p j r2).symm).trans<|Em.rest k4;rw[zF,zb];refine B _ ⟨i,j,O,W,⟨H,V,?_⟩⟩ (by show((i:J)-1+1).toNat<(((i+1:K):J)-1+1).toNat;lia);have q:E/2^i=E/2^(i+1)+E/2^(i+1):=W
   rw[q];exact n)
 have⟨r,hr,b⟩:=hd fu (r1,r2,((bl E:K):J)-1) ⟨bl E,r1,O,T,⟨d3,d5,by have hz:E/2^bl E=0:=xbm<|zqw E;rw[hz];show Em p a (D 1) (C r1);have h1:Em p a (C [1]) (C r1):=Em.rest d4;rwa[kv]at h1⟩⟩ (by show(((bl E:K):J)-1+1).toNat<fu;lia)
 refine⟨r,?_,b.fp,b.ln,?_⟩;rw[Y hr];have:=b.em;rwa[xeo,xef]at this
def zis{h s t:N J}{S:K}(hp:2<=p)(c:vF p h)(b:BzR p g h d s t S)(hd:X d=0\/ci d (X d-1)=1):vF p d:=by
 have⟨A,C,f,z2,d1,d2⟩:=b.dv;have hl:0<X d:=by refine xcV λe=> ?_;have h1:=d2<|X h-1;rw[c.top,w7,yU λi hi=>by rw[yB W,xaz],xaJ m6 W]at h1;cases h1
 exact⟨b.df,hl,hd.resolve_left W⟩
def Hj{t:N J}(hp:qO p=qR)(ht:Fp p t)(c:vF p g)(e:X t<=290)(hc:X g<=290)(f:3000000<=fu):
 ∃d,cz fu t g p=Z d/\vF p d/\Di p (ci d) (ci g)/\∀u:N J,Di p (ci u) (ci d)↔Di p (ci u) (ci t)/\Di p (ci u) (ci g):=by
 have⟨h,n⟩:=zB hp;have⟨d,o,q,e1,b,j⟩:=Ks hp ht c.fm e hc f;have⟨A,C,r,z2,d1,d2⟩:=b.dv;refine⟨d,?_,zis h c b j,⟨C,z2,d2⟩,λu=>znF b u⟩;unfold cz;rw[Y e1]
def MA(hp:qO p=qR)(e:vF p g)(hd:vF p d)(x:X g<=290)(h:Di p (C d) (C g))(j:3000000<=fu):
 ∃q,iC fu g d p=Z q/\vF p q/\Cg p (C g) (C q*C d)/\X g+1=X q+X d:=by
 have⟨n,f⟩:=zB hp;have⟨A,o,h1⟩:=h;have hc:=iB n e hd o h1;have⟨q,r,e1,s,t,u,w,z⟩:=xN hp e.fm hd.fm hd.ln W W j;have⟨a,b,c⟩:=IE n e hd o h1 s t u w;refine⟨q,?_,a,b,c⟩;unfold iC kO;rw[Y (v:=(q,r,0))];rw[Y<|ZF hp,iq O,Y<|zP W f (hd.fm.rl f) W j,hd.fm.pm,zF,Y<|zP W f (e.fm.rl f) W j,e.fm.pm,Y e1]
def BZ{c:J}(hp:qO (P:J)=qR)(hv:Rl v)(M:X v<=290)(n:vF (P:J) g)(Q:X g<=290)(hl:0<=c)(R:c<P)(b:3000000<=fu):
 ∃t,Ja fu v c g P=Z t/\Fp (P:J) t/\X t<=290/\∀u:N J,QY (P:J) u->Di (P:J) (C u) (C g)->∀x,Vl (P:J) u (C v) x->(Di (P:J) (C u) (C t)↔Af P (x+c)):=by
 have⟨o,h⟩:=zB hp;have hi:=n.ln;have A:Rl [c]:=λk=>by
  rw[kv];unfold D;split;lia;lia
 have⟨w,f⟩:∃w,w=Wj (P:J) (pm P v) (pm P [c]) 1:=⟨_,O⟩;have l1:=zbz (P:J) v;have q:=zbz (P:J) [c];have B:X w<=290:=by have:=CH (P:J) (pm P v) (pm P [c]) 1;rw[<-f]at this;simp only[xaw,xbR]at q;lia
 have s:Fp (P:J) w:=by rw[f];exact bS W _ _ _
 have F:Cg (P:J) (C w) (C v+D c):=by rw[f];refine(N6 _ _ _ _).trans<|(P9 _ v).add ?_;rw[zE];exact(P9 _ [c]).trans<|Cg.of<|kv c
 have G:Uj fu v [c] P=Z (w,0):=by unfold Uj;rw[Y<|ZF hp,iq O,Y<|zP W h hv W b,Y<|zP W h A m7 b,Y<|J2 W h (Df W v) (Df W [c]) m6 W W (by simp only[xaw,xbR]at q;lia) b,f]
 have vw:∀u:N J,∀x,Vl (P:J) u (C v) x->Vl (P:J) u (C w) (x+c):=λu x e=>(Vl.add e<|Vl.pc _ u c).cg F.symm;unfold Ja;rw[Y G];simp only;by_cases z:2<P;have⟨r,e1,H,S,L⟩:=KN (fu:=fu) (E:=(P-1)/2) hp s n W W W W b;have hd:xdC ((P:J)-1) 2=(((P-1)/2:K):J):=by rw[xfa W];lia
 have⟨t,ht⟩:∃t,t=Wj (P:J) r [1] ((P:J)-1):=⟨_,O⟩;have f1:Fp (P:J) [1]:=QN;have lt:=CH (P:J) r [1]<|(P:J)-1;rw[<-ht]at lt;have ct:Cg (P:J) (C t) (C r-D 1):=by rw[ht];refine(N6 _ _ _ _).trans ?_;rw[kv,jR,xcU];intro k;rw[zW,xd];unfold D;split;rw[(W:C r k+((P:J)-1)=C r k-1+P*1),Int.add_mul_emod_self_left];rw[xcc,xdk]
 rw[yg,zb,va m6,hd,zb,Y<|yw ⟨W,W⟩ b,Y e1];simp only;rw[Y<|dF hp H f1 W m7 b];refine⟨t,by rw[ht],by rw[ht];exact bS W _ _ _,by simp only[xaw,xbR]at lt;lia,λu j hc x e=> ?_⟩
 have v1:Vl (P:J) u (C t) ((x+c)^((P-1)/2)-1):=
  (Vl.sub ((Em.dv L hc).symm.vl<|Vl.pp (Fs.ci w) (vw u x e)<|(P-1)/2)<|Vl.pc _ u 1).cg ct.symm
 refine(v1.di o j).trans ?_;unfold Af;rw[iq z];rw[zF];refine⟨w,O,s,B,λu j hc x e=> ?_⟩;refine((vw u x e).di o j).trans ?_;unfold Af;rw[ir z]
def nxt(P:K)(ds:N J)(k:K):J:=if k<X ds then ds.getD k 0%P else((k-X ds:K):J)
theorem nJ(b:2<=P)(c:P<=65521)(hd:Rl ds)(e:k<P+X ds)(hc:X ds<=1000):YV fu (k:J) ds P=Z (nxt P ds k)/\0<=nxt P ds k/\nxt P ds k<P:=by unfold YV nxt;by_cases h:k<X ds;rw[zp h,F,Y (show ZM fu (ds.getD k 0) P=Z (ds.getD k 0%P)from Xb W W<|hd k)];have:=xo (a:=ds.getD k 0) (p:=P);simp_all;rw[zb];grind
abbrev Ts:=R->J->Prop
structure Pd(P:K)(m:N J)(us:N (N J))(S:Ts)(l:N (N J)):Prop where
 pl:Pl (P:J) m l
 ts:∀v c,S v c->∀g∈l,Ct P us v c g
def zfM{α:Type}{a b:N α}{g q d:α}:((a++g::b)++[q]).set (X a) d=a++d::(b++[q]):=by simp_all
def zhc{α:Type}{l:N α}(h:i<X l)(z:α):∃a b,l=a++l.getD i z::b/\X a=i:=by refine⟨l.take i,l.drop<|i+1,?_,by rw[xan];lia⟩;simp_all
theorem Xp{α:Type}{l:N α}(h:i<X l)(z:α):l.getD i z∈l:=by grind
def Sf.pl_len(h:Sf p m us)(hl:Pl p m l):X l<=X us:=by have⟨vs,v1,b,v3⟩:=h.pick hl.mn ⟨D 1,Fs.pc 1,hl.pr.trans<|Cg.of (zE _).symm⟩;have:=eY b λv hv=>(v3 v hv).1;lia
def zgi{t7:N (N J)}{i2 i4:J}{S:Ts}(h:Sf (P:J) m us)(hJ:X us<=290)(hK:X bs=nb)(hG:nb<=290)(hd:Rl ds)(hA:X ds<=1000)(hv:Rl v)(hB:X v<=290)(hk:k<P+X ds)(G:3000000<=fu)(hl:Pd P m us S l):
 ∃r,zg (Qx fu P ds bs P ds i2 (k:J) t7 i4 v) fu (l,0)=Z r/\
  ((∃l',r=.inl l'/\Pl (P:J) m l'/\X l'=nb)\/∃l',r=.inr l'/\Pd P m us (λw c=>S w c\/w=C v/\c=nxt P ds k) l'):=by
 have⟨H,p2⟩:=zB h.hp;have⟨n1,n2,n3⟩:=nJ (fu:=fu) (P:=P) (k:=k) (ds:=ds) W W hd hk hA;refine zU (λs:N (N J)×J=>∃(i:K) (l:N (N J)),s=(l,(i:J))/\Pd P m us S l/\i<=X l/\∀j,j<i->Ct P us (C v) (nxt P ds k) (l.getD j [])) (λs=>300-s.2.toNat) _ ?_ _ _ ⟨0,l,O,hl,xah _,λj D=>by lia⟩ (by show 300-0<fu;lia);rintro s L ⟨i,l,rfl,hl,hi,ht⟩ T;have hL:=h.pl_len hl.pl;unfold Qx;simp only;by_cases h1:i<X l;rw[yg];by_cases h2:X l=nb;rw[yg];exact⟨_,O,.inl ⟨l,O,hl.pl,h2⟩⟩
 rw[zF,Y n1,zp h1,F];have⟨a,b,hc,hp⟩:=zhc h1 [];have A:=Xp h1 [];have⟨g,f⟩:∃g,g=l.getD i []:=⟨_,O⟩;rw[<-f]at hc A⊢;have⟨g1,g2⟩:=hl.pl.mn g A;have hC:=hl.pl.dv A;have M:=h.len g1 hC;have⟨t,t1,t2,t3,t4⟩:=BZ (fu:=fu) h.hp hv hB g1 M n2 n3 G;have⟨d,d1,d2,d3,d4⟩:=Hj (fu:=fu) h.hp t2 g1 t3 M G;have hM:=d2.ln;have hH:X d<=X g:=by have⟨q,fq,hq⟩:=d3;exact iB H g1 d2 fq hq
 rw[Y t1,zp h1,F,<-f,Y d1];have hn:∀u∈us,Di (P:J) (C u) (C g)->∀x,Vl (P:J) u (C v) x->(Di (P:J) (C u) (C d)↔Af P (x+nxt P ds k)):=λu n o x hx=>
  ⟨λQ=>(t4 u (h.ir u n).1 o x hx).1 ((d4 u).1 Q).1,λQ=>(d4 u).2 ⟨(t4 u (h.ir u n).1 o x hx).2 Q,o⟩⟩
 by_cases h3:1<X d/\X d<X g;have⟨q,q1,q2,U,q4⟩:=MA (fu:=fu) h.hp g1 d2 M d3 G;rw[yg,zp h1,F,<-f,yg,Y O];simp only[Xs];rw[zp h1,F,<-f,Y q1,va (by simp;lia),F,zp (by simp;lia),F,zb];have hr:(l++[q]).set i d=a++d::(b++[q]):=by rw[hc,<-hp,zfM]
 have hD:Di (P:J) (C q) (C g):=⟨C d,Fs.ci d,U.trans<|Cg.of<|zm _ _⟩;have hw:∀x∈a++d::(b++[q]),x=d\/x=q\/x∈l:=λx hx=>by
  obtain hx|hx:=xab.1 hx
  right;right;rw[hc];exact xdU _ hx;obtain hx|hx:=xal.1 hx
  exact .inl hx;obtain hx|hx:=xab.1 hx
  right;right;rw[hc];exact xew _<|FS _ hx;exact .inr (.inl<|xaf.1 hx)
 have hy:Pl (P:J) m (a++d::(b++[q])):=by have:=hl.pl;rw[hc]at this;exact this.split d2 q2 W W U
 refine T _ ⟨i+1,_,O,?_,?_,?_⟩ ?_;rw[hr];refine⟨hy,λw c z x hx=> ?_⟩;obtain rfl|rfl|hx:=hw x hx
 exact(hl.ts w c z g A).sub d3;exact(hl.ts w c z g A).sub hD;exact hl.ts w c z x hx;rw[xaP,xau];lia;intro j D;rw[hr];by_cases R:j=i;left;have e:(a++d::(b++[q])).getD j []=d:=by rw[R,<-hp,UV,xbz<|Nm _,xcx];rfl
 rw[e];intro u n hz x hx;exact(hn u n (hz.trans d3) x hx).1 hz;have e:(a++d::(b++[q])).getD j []=l.getD j []:=by rw[hc,UV,UV,xbi W,xbi W]
 rw[e];exact ht j W
 have:=h.pl_len hy;have hI:X l=X a+1+X b:=by rw[hc];simp;lia
 simp only[xau,xaw]at this;show 300-((i:J)+1).toNat<300-(i:J).toNat;lia;have hE:Ct P us (C v) (nxt P ds k) g:=by
  by_cases h4:1<X d;left;have e:d=g:=NK H d2 g1 d3 W;intro u n o x hx;exact(hn u n o x hx).1<|by rw[e];exact o
  right;intro u n o x hx hT;have h5:=(hn u n o x hx).2 hT;have h6:d=[1]:=d2.one W;rw[h6,kv]at h5;exact(h.ir u n).1.ne H h5
 have hF:(if(1:J)<(X d:J)then
  zI (i:J) (X l) λj5=>
  B (l.getD j5 []) λt13=>
  if(X d:J)<(X t13:J)then
  Z (bs,(P:J),ds,(k:J),v,t7,i4,i2,qR)
  else
  Z (bs,(P:J),ds,(k:J),v,t7,i4,i2,I)
  else
  Z (bs,(P:J),ds,(k:J),v,t7,i4,i2,I):V (N (N J)×J×N J×J×N J×N (N J)×J×J×uS))=Z (bs,(P:J),ds,(k:J),v,t7,i4,i2,I):=by
  by_cases h4:1<X d;rw[yg,zp h1,F,<-f,zF];rw[zF]
 rw[Y hF];simp only[xam,Z9];rw[zb];refine T _ ⟨i+1,l,O,hl,W,λj D=> ?_⟩ (by show 300-((i:J)+1).toNat<300-(i:J).toNat;lia);by_cases R:j=i;rw[R,<-f];exact hE;exact ht j W
 rw[zF];refine⟨_,O,.inr ⟨l,O,hl.pl,λw c z g f=> ?_⟩⟩;obtain z|⟨rfl,rfl⟩:=z
 exact hl.ts w c z g f;have⟨j,D,e⟩:=xdd f;have:=ht j W;rw[UV,xaa D]at this;rw[<-e];exact this
def Pd.mono{S T:Ts}(h:Pd P m us S l)(b:∀v c,T v c->S v c):Pd P m us T l:=⟨h.pl,λv c ht=>h.ts v c<|b v c ht⟩
def zhA{S:Ts}(h:Sf (P:J) m us)(hn:X us<=290)(hc:X bs=nb)(ht:1<=nb)(t:nb<=290)(hd:Rl ds)(u:X ds<=1000)(hv:∀v∈bs,Rl v/\X v<=290)(z:k<P+X ds)(A:3000000<=fu)(hl:Pd P m us S l):
 ∃r,zg (QV fu P ds (k:J)<|bs.drop 1) fu (bs,(P:J),ds,l,0)=Z r/\
  ((∃l',r=.inl l'/\Pl (P:J) m l'/\X l'=nb)\/∃l',r=.inr (bs,(P:J),ds,l')/\Pd P m us (λw c=>S w c\/∃i,1<=i/\i<nb/\w=C (bs.getD i [])/\c=nxt P ds k) l'):=by
 refine zU (λs:N (N J)×J×N J×N (N J)×J=>∃(i:K) (l:N (N J)),s=(bs,(P:J),ds,l,(i:J))/\i+1<=nb/\Pd P m us (λw c=>S w c\/∃j,1<=j/\j<i+1/\w=C (bs.getD j [])/\c=nxt P ds k) l) (λs=>300-s.2.2.2.2.toNat) _ ?_ _ _ ⟨0,l,O,W,hl.mono λw c f=>f.elim id λ⟨j,a,b,_⟩=>by lia⟩ (by show 300-0<fu;lia);rintro s L ⟨i,l,rfl,hi,o⟩ B;unfold QV;simp only;have n:X (bs.drop 1)=nb-1:=by rw[xcn,hc]
 have q:∀{β:Type} (x:β) (k:β->V ((N<|N J)⊕(N (N J)×J×N J×N (N J)))),G (Z x) k=k x:=λ_ _=>O;by_cases h1:i+1<nb;rw[iq (by rw[n];lia),q];simp only[Xs];rw[zp (by rw[n];lia),F];have e:(bs.drop 1).getD i []=bs.getD (i+1) []:=by rw[UV,UV,xfh,xdW]
 have⟨hp,D⟩:=hv _<|Xp (l:=bs) (i:=i+1) W [];rw[e];have⟨r,H,M⟩:=zgi (fu:=fu) (i2:=(i:J)) (i4:=((X (bs.drop 1):K):J)) (t7:=bs.drop 1) (ds:=ds) h hn hc t hd u hp D z A o;rw[Y H];rcases M with⟨l',rfl,g1,Q⟩|⟨l',rfl,g1⟩
 exact⟨_,O,.inl ⟨l',O,g1,Q⟩⟩;simp only;rw[zb];refine B _ ⟨i+1,l',O,W,g1.mono λw c f=> ?_⟩ (by show 300-((i:J)+1).toNat<300-(i:J).toNat;lia);obtain f|⟨j,a,b,c1,c2⟩:=f;exact .inl (.inl f);by_cases R:j=i+1
 subst R;exact .inr ⟨c1,c2⟩;exact .inl (.inr ⟨j,a,W,c1,c2⟩);rw[ir (by rw[n];lia),q];simp only[xam,Z9];refine⟨_,O,.inr ⟨l,O,o.mono λw c f=> ?_⟩⟩;obtain f|⟨j,a,b,c1,c2⟩:=f
 exact .inl f;exact .inr ⟨j,a,W,c1,c2⟩
def tM(h:Sf (P:J) m us)(hn:1<X m)(t:X us<=290)(hp:X bs=nb)(u:1<=nb)(hi:nb<=290)(hd:Rl ds)(ht:X ds<=1000)(hv:∀v∈bs,Rl v/\X v<=290)(x:3000000<=fu):
 ∃l,Vt fu m bs P ds=Z l/\Pl (P:J) m l/\(X l=nb\/∀i,1<=i->i<nb->∀c:K,c<P->∀g∈l,Ct P us (C<|bs.getD i []) c g):=by
 have⟨R,S⟩:=zB h.hp;unfold Vt
 have z:=zU (f:=Qu fu bs P ds) (λs:N (N J)×J=>∃(k:K) (l:N (N J)),s=(l,(k:J))/\k<=P+X ds/\Pd P m us (λw c=>∃j i,j<k/\1<=i/\i<nb/\w=C (bs.getD i [])/\c=nxt P ds j) l) (λs=>P+X ds-s.2.toNat)
  (λl=>Pl (P:J) m l/\(X l=nb\/∀i,1<=i->i<nb->∀c:K,c<P->∀g∈l,Ct P us (C<|bs.getD i []) c g)) (by
  rintro s L ⟨k,l,rfl,T,b⟩ A
  unfold Qu
  simp only
  rw[zb]
  by_cases h1:k<P+X ds;rw[yg,show(1:J)=((1:K):J)from O,yH,y9,F]
  have⟨r,B,D⟩:=zhA (fu:=fu) (ds:=ds) h t hp u hi hd ht hv h1 x b
  rw[Y B]
  rcases D with⟨l',rfl,g1,G⟩|⟨l',rfl,g1⟩
  exact⟨_,O,g1,.inl G⟩;simp only
  rw[zb]
  refine A _ ⟨k+1,l',O,W,g1.mono λw c e=> ?_⟩ (by show P+X ds-((k:J)+1).toNat<P+X ds-(k:J).toNat;lia)
  have⟨j,i,U,o,a3,a4,a5⟩:=e
  by_cases q:j=k;subst q;exact .inr ⟨i,o,a3,a4,a5⟩;exact .inl ⟨j,i,W,o,a3,a4,a5⟩;rw[zF]
  refine⟨_,O,b.pl,.inr λi H M c hc g n=> ?_⟩
  refine b.ts _ _ ⟨X ds+c,i,W,H,M,O,?_⟩ g n
  unfold nxt
  rw[zF,(W:X ds+c-X ds=c)])
 have⟨l,hl,Q⟩:=z fu ([m],0) ⟨0,[m],O,xah _,⟨⟨λg n=>by rw[xaf.1 n];exact⟨h.mn,hn⟩,Cg.of (yu<|C m).symm⟩,λv c e=>by have⟨j,i,q,_⟩:=e;lia⟩⟩ (by show P+X ds-0<fu;lia);exact⟨l,by rw[Y hl],Q⟩
end
section
variable{N w r i fu lo a:wP}{R M A B:wP->Pz}{g f:Pz}{σ:wP->wP}{p q:wN}{m:wF (wF wN)}{l:wF wN}{e:wP->wN}
def Z7(N w:K)(R:K->Pz):wF (wF J):=(xaL N).map λr=>zl w<|R r
def Z1(N w:K)(R:K->Pz):X (Z7 N w R)=N:=by unfold Z7;simp
def q8(h:r<N):(Z7 N w R).getD r []=zl w (R r):=by simp_all [Z7]
theorem Z6{S:K->Pz}(h:∀r,r<N->∀k,k<w->R r k=S r k):Z7 N w R=Z7 N w S:=by grind [Z7,xc,xch]
theorem Mb:(Z7 N w R).set r (zl w g)=Z7 N w λs=>if s=r then g else R s:=by refine xcA λi=> ?_;unfold Z7;by_cases h:r=i;grind;grind
def aX(N:K)(σ:K->K):wF K:=(xaL N).map σ
def Vv(N:K)(σ:K->K):X (aX N σ)=N:=by unfold aX;simp
def ZK(h:i<N:=by lia):(aX N σ).getD i 0=σ i:=by simp_all [aX]
def stk(p:J)(a:K)(own f:Pz):Pz:=λk=>(f k+(p-f a)*own k)%p
def Hf(p:J)(a:K)(own f:Pz)(i:K):Pz:=λk=>if k<i then stk p a own f k else f k
def zjG(hp:0<p)(a:K)(own f:Pz)(k:K):0<=stk p a own f k/\stk p a own f k<p:=xo hp
def zd8{ix:wF K}{n lo2 n2 q:K}{y:J}(h1:2<=p)(U:p<=65521)(h:∀s,s<N->∀k,0<=R s k/\R s k<p)(o:r<N)(t:q<N)(hd:q≠r)(V:w<=64)(C:y=R q a)(b:wF (wF J))(h0:b=Z7 N w R)(Y:3000000<=fu):
 zg (λL (z:((wF (wF J)×wF K)×K×K)×(K×K)×K×K×K×J)=>
 if z.2.2.2.2.2<(X (b.getD r []):J)then
  zI z.2.2.2.2.2 (X (z.1.1.1.getD z.2.2.2.1 [])) λj=>
  nm ((z.1.1.1.getD z.2.2.2.1 []).getD j 0) λv=>
  zI z.2.2.2.2.2 (X (z.1.1.1.getD z.2.2.2.2.1 [])) λj=>
  nm ((z.1.1.1.getD z.2.2.2.2.1 []).getD j 0) λu=>
  zf (p-y) λe=>
  zf (e*v) λe=>
  zf (u+e) λe=>
  ck (p≠0)<|
  nm (xcG e p) λe=>
  zI z.2.2.2.2.2 (X (z.1.1.1.getD z.2.2.2.2.1 [])) λj=>
  nm (z.1.1.1.set z.2.2.2.2.1<|(z.1.1.1.getD z.2.2.2.2.1 []).set j e) λx=>
  zf (z.2.2.2.2.2+1) λi=>
  L (((x,z.1.1.2),z.1.2),z.2.1,z.2.2.1,z.2.2.2.1,z.2.2.2.2.1,i)
 else Z (z.1,z.2.1,z.2.2.1)) fu (((b,ix),lo,n),(lo2,n2),r,r,q,0)=Z (((Z7 N w λs=>if s=q then stk p a (R r) (R q)else R s,ix),lo,n),(lo2,n2),r):=by
 subst h0;refine zC (λz:((wF (wF J)×wF K)×K×K)×(K×K)×K×K×K×J=>∃i:K,i<=w/\z=(((Z7 N w λs=>if s=q then Hf p a (R r) (R q) i else R s,ix),lo,n),(lo2,n2),r,r,q,(i:J))) (λz=>w-z.2.2.2.2.2.toNat) _ ?_ _ _ ⟨0,xah _,by
  rw[Z6 (R:=R) (S:=λs=>if s=q then Hf p a (R r) (R q) 0 else R s) λs _ k _=>by
   by_cases e:s=q;rw[E e,e];unfold Hf;rw[zF];rw[P e]]
  rfl⟩ (by show w-0<fu;lia)
 rintro z L ⟨i,hi,rfl⟩ D;simp only;rw[q8 o,yj];by_cases c:i<w;have G:(Z7 N w λs=>if s=q then Hf p a (R r) (R q) i else R s).getD r []=zl w (R r):=by rw[q8 o,P<|λe=>hd e.symm]
 have H:(Z7 N w λs=>if s=q then Hf p a (R r) (R q) i else R s).getD q []=zl w (Hf p a (R r) (R q) i):=by rw[q8 t,E O]
 have ev:Hf p a (R r) (R q) i i=R q i:=zF;have⟨v1,v2⟩:=h r o i;have⟨u1,u2⟩:=h q t i;have⟨Q,T⟩:=h q t a;rw[<-C]at Q T;have m1:0<=(p-y)*R r i:=xcB W v1;have m2:(p-y)*R r i<=65521*65521:=Int.mul_le_mul W W v1 W;rw[yg,G,yj,zp c,F,uc c,H,yj,zp c,F,uc c,ev,zb,zb,zb,y9,F,lj,zp c,F,Yt,Mb,zb];refine D _ ⟨i+1,W,?_⟩ (by show w-((i:J)+1).toNat<w-(i:J).toNat;lia);rw[Z6 (S:=λs=>if s=q then Hf p a (R r) (R q) (i+1)else R s) λs _ k _=>by
  by_cases e:s=q;rw[E e,E e];unfold XA Hf;by_cases d:k=i;rw[E d,yg,d,C];rfl;rw[P d];by_cases hc:k<i;rw[E hc,yg];rw[P hc,zF];rw[P e,P e,P e]]
 rfl;rw[zF];obtain rfl:i=w:=W
 rw[Z6 (S:=λs=>if s=q then stk p a (R r) (R q)else R s) λs _ k d=>by
  by_cases e:s=q;rw[E e,E e];unfold Hf;rw[E d];rw[P e,P e]]
structure Ps(N:K)(σ:K->K):Prop where
 lt:∀i,i<N->σ i<N
 ij:∀i j,i<N->j<N->σ i=σ j->i=j
def IV{n t:K}(h1:2<=p)(V:p<=65521)(hR:∀s,s<N->∀k,0<=R s k/\R s k<p)(b:Ps N σ)(ht:t<N)(hp:t<lo\/lo+n<=t)(hn:lo+n<=N)(hN:N<=64)(hw:w<=64)(H:a<w)(hf:3000000<=fu):
 ∃S:K->Pz,qy fu (Z7 N w R) (aX N σ) (σ t) (a:J) p lo n=Z (Z7 N w S)/\(∀s,s<N->∀k,0<=S s k/\S s k<p)/\∀j,j<N->S (σ j)=if lo<=j/\j<lo+n then stk p a (R<|σ t) (R<|σ j)else R (σ j):=by
 unfold qy;have hd:=zU (f:=(λL (x:((wF (wF J)×wF K)×K×K)×(K×K)×K×J)=>
 if x.2.2.2<(n:J)then
  zI x.2.2.2 x.2.1.2 λj=>
  nm (x.1.1.2.getD (x.2.1.1+j) 0) λq=>
  zI (a:J) (X (x.1.1.1.getD q [])) λj=>
  nm ((x.1.1.1.getD q []).getD j 0) λy=>
  G (zg (λL (z:((wF (wF J)×wF K)×K×K)×(K×K)×K×K×K×J)=>
   if z.2.2.2.2.2<(X (x.1.1.1.getD x.2.2.1 []):J)then
    zI z.2.2.2.2.2 (X (z.1.1.1.getD z.2.2.2.1 [])) λj=>
    nm ((z.1.1.1.getD z.2.2.2.1 []).getD j 0) λv=>
    zI z.2.2.2.2.2 (X (z.1.1.1.getD z.2.2.2.2.1 [])) λj=>
    nm ((z.1.1.1.getD z.2.2.2.2.1 []).getD j 0) λu=>
    zf (p-y) λe=>
    zf (e*v) λe=>
    zf (u+e) λe=>
    ck (p≠0)<|
    nm (xcG e p) λe=>
    zI z.2.2.2.2.2 (X (z.1.1.1.getD z.2.2.2.2.1 [])) λj=>
    nm (z.1.1.1.set z.2.2.2.2.1<|(z.1.1.1.getD z.2.2.2.2.1 []).set j e) λD=>
    zf (z.2.2.2.2.2+1) λi=>
    L (((D,z.1.1.2),z.1.2),z.2.1,z.2.2.1,z.2.2.2.1,z.2.2.2.2.1,i)
   else Z (z.1,z.2.1,z.2.2.1)) fu (x.1,x.2.1,x.2.2.1,x.2.2.1,q,0)) λz=>
  zf (x.2.2.2+1) λi=>
  L (z.1,z.2.1,z.2.2,i)
 else Z x.1)) (λx=>∃(c:K) (S:K->Pz),x=(((Z7 N w S,aX N σ),lo,n),(lo,n),σ t,(c:J))/\c<=n/\(∀s,s<N->∀k,0<=S s k/\S s k<p)/\∀j,j<N->S (σ j)=if lo<=j/\j<lo+c then stk p a (R (σ t)) (R (σ j))else R (σ j)) (λx=>n-x.2.2.2.toNat)
  (λy=>∃S:K->Pz,y=((Z7 N w S,aX N σ),lo,n)/\(∀s,s<N->∀k,0<=S s k/\S s k<p)/\∀j,j<N->S (σ j)=if lo<=j/\j<lo+n then stk p a (R<|σ t) (R<|σ j)else R (σ j)) (by
  rintro x L ⟨c,S,rfl,hc,C,d⟩ ih
  simp only
  by_cases hi:c<n;have o:lo+c<N:=W
  have hk:=b.lt t ht
  have Q:=b.lt (lo+c) o
  have hl:σ (lo+c)≠σ t:=λe=>by have:=b.ij _ _ o ht e;lia
  have hm:S (σ<|lo+c)=R (σ<|lo+c):=by rw[d _ o,zF]
  have ho:S (σ t)=R (σ t):=by rw[d _ ht,zF]
  rw[yg,zp hi,F,ZK o,q8 Q,yj,zp H,F,uc H,Y<|zd8 (ix:=aX N σ) (lo:=lo) (n:=n) (lo2:=lo) (n2:=n) h1 V C hk Q hl hw O _ O hf]
  simp only
  rw[zb]
  refine ih _ ⟨c+1,λs=>if s=σ (lo+c)then stk p a (S<|σ t) (S<|σ<|lo+c)else S s,O,W,λs hs k=> ?_,λj T=> ?_⟩ (by show n-((c:J)+1).toNat<n-(c:J).toNat;lia);show 0<=(if s=σ (lo+c)then stk p a (S<|σ t) (S<|σ<|lo+c)else S s) k/\(if s=σ (lo+c)then stk p a (S<|σ t) (S<|σ<|lo+c)else S s) k<p
  by_cases e:s=σ (lo+c);rw[E e];exact zjG (W:0<p) _ _ _ _;rw[P e];exact C s hs k;show(if σ j=σ (lo+c)then stk p a (S<|σ t) (S<|σ<|lo+c)else S (σ j))=_
  by_cases e:j=lo+c;rw[e,E O,yg,ho,hm];rw[P<|λh=>e<|b.ij _ _ T o h,d j T]
  by_cases U:lo<=j/\j<lo+c;rw[E U,yg];rw[P U,zF];rw[zF]
  obtain rfl:c=n:=W
  exact⟨_,O,S,O,C,d⟩)
 obtain⟨y,hy,S,rfl,C,d⟩:=hd fu (((Z7 N w R,aX N σ),lo,n),(lo,n),σ t,0) ⟨0,R,O,xah _,hR,λj o=>by rw[zF]⟩ (by show n-0<fu;lia);refine⟨S,?_,C,d⟩;rw[Y hy];simp only;rw[va ⟨ul,ul,ul⟩]
def cK(hp:qO p=qR)(d:X m<=64)(b:∀r∈m,X r=w)(j:w<=64)(n:3000000<=fu):Wc fu m p=Z 0:=by
 unfold Wc;rw[Y<|ZF hp,E O,zF,Y (v:=Sum.inl ())];refine zC (λi:J=>∃k:K,i=(k:J)/\k<=X m) (λi=>X m-i.toNat) _ ?_ _ _ ⟨0,O,xah _⟩ W;rintro i L ⟨k,rfl,o⟩ c;unfold dD;by_cases h:k<X m;have e1:=b _<|Xp h [];have s:=b _<|Xp (W:0<X m) [];rw[yg,Y O];simp only[Xs];rw[zp h,F,zF,show(0:J)=((0:K):J)from O,yn,F,yg,zb];exact c _ ⟨k+1,W,W⟩ W
 rw[zF,Y O];simp_all
def Bt(h1:1<=p)(d:p<=65521)(j:Rl l)(hl:X l<=1000000)(o:3000000<=fu):XZ fu l p=Z (zl (X l)<|λk=>C l k%p):=by
 unfold XZ;rw[yH,y9,F,dR,Y (v:=zl (X l)<|λk=>C l k%p)];refine zC (λs:J×wF J=>∃i:K,i<=X l/\s=((i:J),zl (X l) (λk=>if k<i then C l k%p else 0))) (λs=>X l-s.1.toNat) _ ?_ _ _ ⟨0,xah _,by rw[xc (f:=λ_=>0) (g:=λk=>if k<0 then C l k%p else 0) λk _=>by rw[zF]];rfl⟩ (by show X l-0<fu;lia);rintro s L ⟨i,hi,rfl⟩ n;unfold fi;simp only;by_cases h:i<X l
 rw[yg,zp h,F,Y (show ZM fu (l.getD i 0) p=Z (l.getD i 0%p)from Xb h1 d<|j i),zp (by rw[yj];exact h),F,Yt,zb];refine n _ ⟨i+1,W,?_⟩ (by show X l-((i:J)+1).toNat<X l-(i:J).toNat;lia);rw[xc (g:=λk=>if k<i+1 then C l k%p else 0) λk _=>by
  unfold XA;by_cases b:k=i;rw[E b,yg,b,Jh];rw[P b];show(if k<i then C l k%p else 0)=_;by_cases c:k<i;rw[E c,yg];rw[P c,zF]]
 rfl;rw[zF];rw[xc (g:=λk=>C l k%p) λk b=>by rw[yg]]
theorem SK{l:wF (wF J)}{g:wF J->V uS}{b:wF J->uS}(o:∀z∈l,g z=Z (b z))(hl:X l<=1000000)(v:3000000<=fu):
 (yX fu l g=Z (-1)/\∀z∈l,b z=I)\/∃i:K,i<X l/\yX fu l g=Z (i:J)/\b (l.getD i [])=qR/\∀j,j<i->b (l.getD j [])=I:=by
 unfold yX
 have s:=zU (f:=qc fu l g) (λi:J=>∃k:K,i=(k:J)/\k<=X l/\∀j,j<k->b (l.getD j [])=I) (λi=>X l-i.toNat)
  (λr=>(r=.inl ()/\∀j,j<X l->b (l.getD j [])=I)\/∃i:K,i<X l/\r=.inr (i:J)/\b (l.getD i [])=qR/\∀j,j<i->b (l.getD j [])=I) (by
  rintro i L ⟨k,rfl,x,c⟩ t
  unfold qc
  by_cases h:k<X l;rw[yg,zp h,F,Y<|o _<|Xp h []]
  cases d:b (l.getD k [])with
  |true=>
   grind
  |false=>
   rw[P m6,zb]
   refine t _ ⟨k+1,W,W,λj y=> ?_⟩ W
   by_cases e:j=k;rw[e];exact d;exact c j W
  rw[zF]
  exact⟨_,O,.inl ⟨O,λj C=>c j W⟩⟩)
 have⟨r,n,hc⟩:=s fu 0 ⟨0,O,xah _,λj c=>by lia⟩ (by show X l-0<fu;lia);rcases hc with⟨rfl,hd⟩|⟨i,hi,rfl,d,c⟩
 left;refine⟨by rw[Y n],λz u=> ?_⟩;have⟨j,c,e⟩:=xdd u;have:=hd j c;rw[UV,xaa c]at this;rw[<-e];exact this;right;exact⟨i,hi,by rw[Y n],d,c⟩
theorem zdE{g:J->V uS}{b:J->uS}(o:∀z,g z=Z (b z))(hl:X l<=1000000)(u:3000000<=fu):
 (xC fu l g=Z (-1)/\∀j,j<X l->b (C l j)=I)\/∃i:K,i<X l/\xC fu l g=Z (i:J)/\b (C l i)=qR/\∀j,j<i->b (C l j)=I:=by
 unfold xC
 have s:=zU (f:=vq fu l g) (λi:J=>∃k:K,i=(k:J)/\k<=X l/\∀j,j<k->b (C l j)=I) (λi=>X l-i.toNat)
  (λr=>(r=.inl ()/\∀j,j<X l->b (C l j)=I)\/∃i:K,i<X l/\r=.inr (i:J)/\b (C l i)=qR/\∀j,j<i->b (C l j)=I) (by
  rintro i L ⟨k,rfl,v,c⟩ t
  unfold vq
  by_cases h:k<X l;rw[yg,zp h,F,Y<|o _,Jh]
  cases d:b (C l k)with
  |true=>
   grind
  |false=>
   rw[P m6,zb]
   refine t _ ⟨k+1,W,W,λj x=> ?_⟩ W
   by_cases e:j=k;rw[e];exact d;exact c j W
  rw[zF]
  exact⟨_,O,.inl ⟨O,λj y=>c j W⟩⟩)
 have⟨r,n,hc⟩:=s fu 0 ⟨0,O,xah _,λj c=>by lia⟩ (by show X l-0<fu;lia);rcases hc with⟨rfl,hd⟩|⟨i,hi,rfl,d,c⟩
 exact .inl ⟨by rw[Y n],hd⟩;exact .inr ⟨i,hi,by rw[Y n],d,c⟩
def dt(w:K)(f:Pz)(e:K->J):J:=ye w λk=>f k*e k
def zg6(h:∀k,k<w->f k%p=g k%p):dt w f e%p=dt w g e%p:=ll λk b=>by rw[xcj,h k b,<-xcj]
theorem ze3(c d:J):dt w (λk=>c*f k+d*g k) e=c*dt w f e+d*dt w g e:=by unfold dt;rw[<-uO,<-uO,<-YI];grind
def Kr(p:J)(N w:K)(A:K->Pz)(e:K->J):Prop:=∀i,i<N->p∣dt w (A i) e
structure DP(p:J)(N w:K)(M A:K->Pz)(n c:K)(pv:K->K):Prop where
 hn:n<=N
 hc:c<=w
 rg:∀i,i<N->∀k,0<=A i k/\A i k<p
 lt:∀i,i<n->pv i<c
 on:∀i,i<n->A i (pv i)=1
 no:∀i,i<n->∀j,j<N->j≠i->A j (pv i)=0
 ld:∀i,i<n->∀k,k<pv i->A i k=0
 zr:∀i,n<=i->i<N->∀k,k<c->A i k=0
 kr:∀e,Kr p N w A e↔Kr p N w M e
def DP.skip{n c:K}{pv:K->K}(h:DP p N w M A n c pv)(hc:c<w)(d:∀i,n<=i->i<N->A i c=0):DP p N w M A n (c+1) pv:=
 ⟨h.hn,hc,h.rg,λi hi=>by have:=h.lt i hi;lia,h.on,h.no,h.ld,λi h1 b k j=>by
  by_cases e:k=c;simp_all;exact h.zr i h1 b k W,h.kr⟩
theorem DP.swap{n c:K}{pv:K->K}(h:DP p N w M A n c pv)(y:n<=a)(z:a<N)(C:∀i,i<N->B i=if i=n then A a else if i=a then A n else A i):DP p N w M B n c pv:=by
 have o:∀i,i<n->B i=A i:=λi hi=>by grind
 have hc:∀i,i<N->∃j,j<N/\B i=A j/\(n<=i->n<=j)/\(∀x,x<n->(i≠x->j≠x)):=λi hi=>by
  by_cases e1:i=n
  ·grind
  ·grind
 have hd:∀i,i<N->∃j,j<N/\A i=B j:=λi hi=>by
  by_cases e1:i=n
  ·grind
  ·grind
 refine⟨h.hn,h.hc,λi hi=> ?_,h.lt,λi hi=> ?_,λi hi j b s=> ?_,λi hi k d=> ?_,λi h1 t k d=> ?_,λe=> ?_⟩
 ·have⟨j,b,e,_⟩:=hc i hi;rw[e];exact h.rg j b
 ·rw[o i hi];exact h.on i hi
 ·have⟨x,u,e,_,v⟩:=hc j b;rw[e];exact h.no i hi x u<|v i hi s
 ·rw[o i hi];exact h.ld i hi k d
 ·have⟨j,b,e,hl,_⟩:=hc i t;rw[e];exact h.zr j (hl h1) b k d
 ·refine Iff.trans ⟨λd i hi=> ?_,λd i hi=> ?_⟩<|h.kr e
  ·have⟨j,b,e⟩:=hd i hi;rw[e];exact d j b
  ·have⟨j,b,e,_⟩:=hc i hi;rw[e];exact d j b
theorem DP.step{n c:K}{pv:K->K}(hp:2<=p)(h:DP p N w M A n c pv)(hc:n<N)(ht:c<w)(C:(q*A n c)%p=1)(t:B n=λk=>(A n k*q)%p)(S:∀j,j<N->j≠n->B j=stk p c (B n) (A j)):
 DP p N w M B (n+1) (c+1) (λi=>if i=n then c else pv i):=by
 have hl:∀k,k<c->B n k=0:=λk d=>by rw[t];show A n k*q%p=0;rw[h.zr n (Nm _) hc k d,xba,xar]
 have hn:B n c=1:=by rw[t];show A n c*q%p=1;rw[xbB,C]
 have hd:∀j,j<N->j≠n->∀k,B j k=(A j k+(p-A j c)*B n k)%p:=λj b s k=>by rw[S j b s];rfl
 have u:∀j,j<N->j≠n->∀k,B n k=0->B j k=A j k:=λj b s k d=>by
  rw[hd j b s,d,xaz,xcc];exact xaJ (h.rg j b k).1 (h.rg j b k).2
 have z:∀i,i<n->B n (pv i)=0:=λi hi=>hl _<|h.lt i hi;refine⟨hc,ht,λi hi k=> ?_,λi hi=> ?_,λi hi=> ?_,λi hi j b T=> ?_,λi hi k d=> ?_,λi h1 o k d=> ?_,λe=> ?_⟩;by_cases e:i=n;rw[e,t];exact xo;rw[hd i hi e];exact xo;show(if i=n then c else pv i)<c+1;by_cases e:i=n;rw[E e];lia;rw[P e];have:=h.lt i W;lia;show B i (if i=n then c else pv i)=1;by_cases e:i=n;rw[E e,e,hn];rw[P e,u i W e _<|z i W];exact h.on i W
 show B j (if i=n then c else pv i)=0;by_cases e:i=n;rw[E e,hd j b W,hn,xcU,(W:A j c+(p-A j c)=p),Int.emod_self];rw[P e];by_cases D:j=n;rw[D];exact z i W
 rw[u j b D _<|z i W];exact h.no i W j b T;have v:k<(if i=n then c else pv i):=d;by_cases e:i=n;rw[E e]at v;rw[e];exact hl k v;rw[P e]at v;have F:=h.lt i W;rw[u i W e k<|hl k W];exact h.ld i W k v;by_cases e:k=c;rw[e,hd i o W,hn,xcU,(W:A i c+(p-A i c)=p),Int.emod_self];rw[u i o W k<|hl k W];exact h.zr i W o k W
 refine Iff.trans ?_<|h.kr e;have G:dt w (B n) e%p=(q*dt w (A n) e)%p:=by
  have:=zg6 (p:=p) (w:=w) (f:=B n) (g:=λk=>q*A n k+0*A n k) (e:=e) λk _=>by rw[t];show A n k*q%p%p=_;rw[xaT];congr 1;grind
  rw[this,ze3];congr 1;grind
 have H:∀j,j<N->j≠n->dt w (B j) e%p=(dt w (A j) e+(p-A j c)*dt w (B n) e)%p:=λj b s=>by
  have:=zg6 (p:=p) (w:=w) (f:=B j) (g:=λk=>1*A j k+(p-A j c)*B n k) (e:=e) λk _=>by rw[hd j b s,xaT];congr 1;grind
  rw[this,ze3];congr 1;grind
 have dv:∀{x y:J},x%p=y%p->(p∣x↔p∣y):=λ{x y} L=>⟨λU=>xaG (by rw[<-L];exact xax U),λV=>xaG<|by rw[L];exact xax V⟩;have hv:p∣dt w (B n) e->p∣dt w (A n) e:=λY=>by
  have h1:=(dv G).1 Y;have o:p∣A n c*(q*dt w (A n) e):=xbv h1<|xcP _ _;refine(dv ?_).1 o;rw[<-xdc,xcj,xbB (A n c) q,C,xdh,xaT]
 constructor;intro d j b;by_cases e1:j=n;rw[e1];exact hv<|d n hc;have h1:=(dv<|H j b e1).1<|d j b;have o:p∣(p-A j c)*dt w (B n) e:=xbv (d n hc)<|xcP _ _;have F:=xdA h1 o;rwa[Int.add_sub_cancel]at F;intro d j b;have Q:p∣dt w (B n) e:=(dv G).2<|xbv (d n hc)<|xcP _ _;by_cases e1:j=n;rw[e1];exact Q;exact(dv<|H j b e1).2<|Int.dvd_add (d j b)<|xbv Q<|xcP _ _
theorem Pc(N w:K)(R:K->Pz):Z7 N w R++[zl w<|R N]=Z7 (N+1) w R:=by grind [Z7,xdm]
theorem ziz(N:K)(σ:K->K):aX N σ++[σ N]=aX (N+1) σ:=by grind [aX,xdm]
theorem CG{v:K}:(aX N σ).set i v=aX N λs=>if s=i then v else σ s:=by refine xcA λj=> ?_;unfold aX;by_cases h:i=j;grind;grind
def zi1(b:∀i,i<N->σ i<N):((aX N σ).map λr=>(Z7 N w R).getD r [])=Z7 N w λi=>R (σ i):=by show((xaL N).map σ).map _=(xaL N).map _;rw[xdj];exact xch λi hi=>q8<|b i<|xbf.1 hi
def zh1{n:K}(h:n<=N):(Z7 N w R).take n=Z7 n w R:=by unfold Z7;rw[<-xeK,List.take_range,xci h]
theorem ze8{n:K}(h:n<=N):(Z7 N w R).drop n=Z7 (N-n) w λi=>R (n+i):=by refine xcA λi=> ?_;unfold Z7;by_cases hi:n+i<N;grind;grind
def zfj{n:K}(h1:2<=p)(G:p<=65521)(v:∀s,s<N->∀k,0<=R s k/\R s k<p)(d:r<N)(x:σ n=r)(hn:n<N)(hc:0<=q)(H:q<p)(Q:w<=64)(b:wF (wF J))(h0:b=Z7 N w R)(t:J)(C:t=(n:J))(T:3000000<=fu):
 zg (λL (z:(wF (wF J)×wF K)×K×J)=>
  if z.2.2<(X (b.getD r []):J)then
   zI z.2.2 (X (z.1.1.getD z.2.1 [])) λj=>
   nm ((z.1.1.getD z.2.1 []).getD j 0) λy=>
   zI t (X z.1.2) λj=>
   nm (z.1.2.getD j 0) λr=>
   zf (y*q) λe=>
   ck (p≠0)<|
   nm (xcG e p) λe=>
   zI z.2.2 (X (z.1.1.getD r [])) λj=>
   nm (z.1.1.set r<|(z.1.1.getD r []).set j e) λh=>
   zf (z.2.2+1) λi=>L ((h,z.1.2),z.2.1,i)
  else Z z.1) fu ((b,aX N σ),r,0)=Z (Z7 N w λs=>if s=r then λk=>(R r k*q)%p else R s,aX N σ):=by
 subst h0 C;refine zC (λz:(wF (wF J)×wF K)×K×J=>∃i:K,i<=w/\z=((Z7 N w λs=>if s=r then λk=>if k<i then(R r k*q)%p else R r k else R s,aX N σ),r,(i:J))) (λz=>w-z.2.2.toNat) _ ?_ _ _ ⟨0,xah _,by
  rw[Z6 (R:=R) (S:=λs=>if s=r then λk=>if k<0 then(R r k*q)%p else R r k else R s) λs _ k _=>by
   by_cases e:s=r;simp_all;rw[P e]]
  rfl⟩ (by show w-0<fu;lia)
 rintro z L ⟨i,hi,rfl⟩ D;simp only;rw[q8 d,yj];by_cases o:i<w;have u:(Z7 N w λs=>if s=r then λk=>if k<i then(R r k*q)%p else R r k else R s).getD r []=zl w (λk=>if k<i then(R r k*q)%p else R r k):=by rw[q8 d,E O]
 have⟨v1,U⟩:=v r d i;have V:0<=R r i*q:=xcB v1 hc;have Y:R r i*q<=65521*65521:=Int.mul_le_mul W W hc W;rw[yg,u,yj,zp o,F,uc o,zF,Vv,zp hn,F,ZK hn,x,zb,y9,F,lj,u,yj,zp o,F,Yt,Mb,zb];refine D _ ⟨i+1,W,?_⟩ (by show w-((i:J)+1).toNat<w-(i:J).toNat;lia);rw[Z6 (S:=λs=>if s=r then λk=>if k<i+1 then(R r k*q)%p else R r k else R s) λs _ k _=>by
  by_cases e:s=r;rw[E e,E e];unfold XA;show _=if k<i+1 then(R r k*q)%p else R r k;by_cases c:k=i;rw[E c,yg,c];rw[P c];show(if k<i then(R r k*q)%p else R r k)=_;by_cases hd:k<i;rw[E hd,yg];rw[P hd,zF];rw[P e,P e,P e]]
 rfl;rw[zF];obtain rfl:i=w:=W
 rw[Z6 (S:=λs=>if s=r then λk=>(R r k*q)%p else R s) λs _ k c=>by
  by_cases e:s=r;rw[E e,E e];show(if k<i then _ else _)=_;rw[E c];rw[P e,P e]]
def zp0(hp:0<p):DP p N w M (λi k=>M i k%p) 0 0 (λ_=>0):=
 ⟨xah _,xah _,λi _ k=>xo hp,λi hi=>by lia,λi hi=>by lia,λi hi=>by lia,λi hi=>by lia,λi _ _ k j=>by lia,λe=>by
  have dv:∀{x y:J},x%p=y%p->(p∣x↔p∣y):=λ{x y} b=>⟨λc=>xaG (by rw[<-b];exact xax c),λd=>xaG<|by rw[b];exact xax d⟩;have:∀i,p∣dt w (λk=>M i k%p) e↔p∣dt w (M i) e:=λi=>dv<|zg6 λk _=>xaT _ _;exact⟨λh i hi=>(this i).1<|h i hi,λh i hi=>(this i).2<|h i hi⟩⟩
def zhn(fu:K)(p:J):oL ((wF (wF J)×wF K)×J×J) ((wF (wF J)×wF K)×J):=λL (x:(wF (wF J)×wF K)×J×J)=>if x.2.1<(X x.1.2:J)then zI 0 (X x.1.2) λj=>nm (x.1.2.getD j 0) λr=>if x.2.2<(X (x.1.1.getD r []):J)then jT x.2.1 λj=>ck (j<=X x.1.2)<|G (yX fu (xdH (X x.1.2-j)<|xdT j<|x.1.2.map λr=>x.1.1.getD r []) λz=>kH fu z x.2.2) λi=>if i<0 then S (x.2.2+1) λc=>L (x.1,x.2.1,c)else S (x.2.1+i) λa=>S (x.2.1+i) λb=>zI b (X x.1.2) λj=>nm (x.1.2.getD j 0) λr1=>zI x.2.1 (X x.1.2) λj=>nm (x.1.2.getD j 0) λr2=>zI x.2.1 (X x.1.2) λj=>nm (x.1.2.set j r1) λix=>zI a (X ix) λj=>nm (ix.set j r2) λix=>zI x.2.1 (X ix) λj=>nm (ix.getD j 0) λr=>zI x.2.2 (X (x.1.1.getD r [])) λj=>nm ((x.1.1.getD r []).getD j 0) λy=>G (VF fu y p) λq=>zI x.2.1 (X ix) λj=>nm (ix.getD j 0) λr=>G (zg (λL (z:(wF (wF J)×wF K)×K×J)=>if z.2.2<(X (x.1.1.getD r []):J)then zI z.2.2 (X (z.1.1.getD z.2.1 [])) λj=>nm ((z.1.1.getD z.2.1 []).getD j 0) λy=>zI x.2.1 (X z.1.2) λj=>nm (z.1.2.getD j 0) λr=>S (y*q.1) λe=>ck (p≠0)<|nm (xcG e p) λe=>zI z.2.2 (X (z.1.1.getD r [])) λj=>nm (z.1.1.set r<|(z.1.1.getD r []).set j e) λd=>S (z.2.2+1) λi=>L ((d,z.1.2),z.2.1,i)else Z z.1) fu ((x.1.1,ix),r,0)) λm=>zI x.2.1 (X m.2) λj=>nm (m.2.getD j 0) λr=>jT x.2.1 λj=>ck (j<=X m.2)<|G (qy fu m.1 m.2 r x.2.2 p 0 j) λd=>zI x.2.1 (X m.2) λj=>nm (m.2.getD j 0) λr=>S (x.2.1+1) λe=>jT e λj=>ck (j<=X m.2)<|G (qy fu d m.2 r x.2.2 p j<|X m.2-j) λd=>S (x.2.1+1) λk=>S (x.2.2+1) λc=>L ((d,m.2),k,c)else Z (x.1,x.2.1)else Z (x.1,x.2.1)
def EI(p:J)(N w:K)(M:K->Pz)(x:(wF (wF J)×wF K)×J×J):Prop:=
 ∃(R:K->Pz) (σ:K->K) (n c:K) (pv:K->K),x=((Z7 N w R,aX N σ),(n:J),(c:J))/\(∀s,s<N->∀k,0<=R s k/\R s k<p)/\Ps N σ/\DP p N w M (λi=>R<|σ i) n c pv
def EQ(p:J)(N w:K)(M:K->Pz)(y:(wF (wF J)×wF K)×J):Prop:=
 ∃(R:K->Pz) (σ:K->K) (n c:K) (pv:K->K),y=((Z7 N w R,aX N σ),(n:J))/\Ps N σ/\DP p N w M (λi=>R<|σ i) n c pv/\(n=N\/c=w)
def zmk{α:Type}{n:K}{k:K->V α}(h:0<n):zI (0:J) n k=k 0:=by rw[show 0=((0:K):J)from O,zp h]
def zgl(hp:qO p=qR)(hN:N<=64)(hw:w<=64)(H:3000000<=fu){x:(wF (wF J)×wF K)×J×J}(hx:EI p N w M x):∃y,zg (zhn fu p) fu x=Z y/\EQ p N w M y:=by
 have⟨U,p2⟩:=zB hp;refine zU (EI p N w M) (λx=>w-x.2.2.toNat) _ ?_ _ _ hx (by obtain⟨R,σ,n,c,pv,rfl,_⟩:=hx;show w-(c:J).toNat<fu;lia);rintro x L ⟨R,σ,n,c,pv,rfl,V,d,G⟩ ih;unfold zhn;simp only;have hq:=G.hn;have hr:=G.hc;rw[Vv];by_cases h1:n<N
 ·have hl:=d.lt 0 W;rw[yg,zmk W,F,ZK,q8 hl,yj];by_cases u:c<w
  ·rw[yg,yH,y9,zi1 d.lt,ze8 W,xaY<|by rw[Z1];exact Nm _];have hg:∀z∈Z7 (N-n) w (λi=>R<|σ<|n+i),kH fu z (c:J)=Z (!decide (C z c=0)):=λz hz=>by
    obtain⟨j,o,rfl⟩:=xat.1 hz;unfold kH;rw[zp (by rw[yj];exact u),F,Jh];by_cases e:C (zl w<|R<|σ<|n+j) c=0
    ·rw[E e,Ww e];rfl
    ·rw[P e,WF e];rfl
   rcases SK (fu:=fu) (b:=λz=> !decide (C z c=0)) hg (by rw[Z1];lia) H with⟨g1,g2⟩|⟨i,hi,g1,g2,g3⟩
   ·rw[Y g1,E m6,zb];refine ih _ ⟨R,σ,n,c+1,pv,O,V,d,G.skip u λi h3 h4=> ?_⟩ (by show w-((c:J)+1).toNat<w-(c:J).toNat;lia);have g4:=g2 ((Z7 (N-n) w<|λi=>R<|σ<|n+i).getD (i-n) [])<|Xp (by rw[Z1];lia) [];rw[q8 W,ZJ u,(W:n+(i-n)=i)]at g4;show R (σ i) c=0;simpa using g4
   ·rw[Z1]at hi;rw[q8 hi,ZJ u]at g2;have Q:R (σ<|n+i) c≠0:=by simpa using g2
    have⟨τ,v⟩:∃τ:K->K,τ=λs=>if s=n+i then σ n else if s=n then σ (n+i)else σ s:=⟨_,O⟩;have hm:τ n=σ (n+i):=by
     rw[v];show(if n=n+i then σ n else if n=n then σ (n+i)else σ n)=_;by_cases e:n=n+i
     ·rw[E e];exact Z4 σ e
     ·rw[P e,E O]
    have hc:Ps N τ:=by
     have hd:∀s,τ s=σ (if s=n+i then n else if s=n then n+i else s):=λs=>by
      rw[v];show(if s=n+i then σ n else if s=n then σ (n+i)else σ s)=_;by_cases e1:s=n+i
      ·rw[E e1,E e1]
      ·rw[P e1,P e1];by_cases h:s=n
       ·rw[E h,E h]
       ·rw[P h,P h]
     refine⟨λs hs=> ?_,λs t hs ht e=> ?_⟩
     ·rw[hd];refine d.lt _ ?_;split<;>(try split)<;>lia
     ·rw[hd,hd]at e;have:=d.ij _ _ (by split<;>(try split)<;>lia) (by split<;>(try split)<;>lia) e;split at this<;>(try split at this)<;>(try split at this)<;>(try split at this)<;>lia
    have hn:DP p N w M (λj=>R<|τ j) n c pv:=G.swap (a:=n+i) W W λj o=>by
     rw[v];show R (if j=n+i then σ n else if j=n then σ (n+i)else σ j)=if j=n then R (σ<|n+i)else if j=n+i then R (σ n)else R (σ j);by_cases h:j=n+i
     ·rw[E h];by_cases e1:j=n
      ·rw[E e1];have e3:n+i=n:=W
       rw[e3]
      ·rw[P e1,E h]
     ·rw[P h];by_cases e1:j=n
      ·rw[E e1,E e1]
      ·rw[P e1,P e1,P h]
    have hk:=hc.lt n h1;have⟨y1,y2⟩:=V (τ n) hk c;have⟨q,q1,q2,q3,q4⟩:=Uq (fu:=fu) (a:=R (τ n) c) hp (by rw[hm]at y1 y2⊢;lia) y2 H;have e1:(n:J)+(i:J)=((n+i:K):J):=W
    have ho:(aX N σ).set n (σ<|n+i)=aX N λs=>if s=n then σ (n+i)else σ s:=CG;rw[Y g1,zF,e1,zb,zb,yn,F,ZK,zp h1,F,ZK h1,zp h1,F,CG,Vv,yn,F,CG,Vv];rw[show(λs=>if s=n+i then σ n else if s=n then σ (n+i)else σ s)=τ from v.symm];rw[zp h1,F,ZK h1,q8 hk,yj,zp u,F,uc u,Y q1];simp only;rw[zp h1,F,ZK h1,Y<|zfj (fu:=fu) (n:=n) (r:=τ n) (q:=q) U p2 V hk O h1 q2 q3 hw _ O _ O H];simp only;have⟨S1,he⟩:∃S1:K->Pz,S1=λs=>if s=τ n then λk=>(R (τ n) k*q)%p else R s:=⟨_,O⟩;rw[<-he];have r1:∀s,s<N->∀k,0<=S1 s k/\S1 s k<p:=λs hs k=>by
     rw[he];show 0<=(if s=τ n then λk=>(R (τ n) k*q)%p else R s) k/\(if s=τ n then λk=>(R (τ n) k*q)%p else R s) k<p;by_cases e:s=τ n
     ·rw[E e];exact xo (W:0<p)
     ·rw[P e];exact V s hs k
    have a0:S1 (τ n)=λk=>(R (τ n) k*q)%p:=by rw[he];exact E O
    have S:∀j,j<N->j≠n->S1 (τ j)=R (τ j):=λj o Q=>by rw[he];exact P λe=>Q<|hc.ij _ _ o h1 e
    have⟨S2,t1,r2,t2⟩:=IV (fu:=fu) (a:=c) (lo:=0) (n:=n) (t:=n) U p2 r1 hc h1 (.inr W) W hN hw u H;have⟨S3,t3,r3,t4⟩:=IV (fu:=fu) (a:=c) (lo:=n+1) (n:=N-(n+1)) (t:=n) U p2 r2 hc h1 (.inl W) W hN hw u H;have T:S2 (τ n)=S1 (τ n):=by rw[t2 n h1,zF]
    have D:S3 (τ n)=S1 (τ n):=by rw[t4 n h1,zF,T]
    have h:(n:J)+1=((n+1:K):J):=W
    rw[Vv,zp h1,F,ZK h1,yH,y9,Y t1,zp h1,F,ZK h1,h,zb,yH,y9,Y t3,zb,zb];refine ih _ ⟨S3,τ,n+1,c+1,λi=>if i=n then c else pv i,O,r3,hc,?_⟩ (by show w-((c:J)+1).toNat<w-(c:J).toNat;lia);refine hn.step (q:=q) U h1 u q4 (D.trans a0) λj o Q=> ?_;show S3 (τ j)=stk p c (S3<|τ n) (R<|τ j);by_cases hu:j<n
    ·rw[t4 j o,zF,t2 j o,cO ⟨W,W⟩,D,S j o Q]
    ·rw[t4 j o,cO ⟨W,W⟩,T,t2 j o,zF,D,S j o Q]
  ·rw[zF];exact⟨_,O,R,σ,n,c,pv,O,d,G,.inr W⟩
 ·rw[zF];exact⟨_,O,R,σ,n,c,pv,O,d,G,.inl W⟩
def pA(hp:qO p=qR)(hd:X m=N)(D:N<=64)(o:∀r∈m,X r=w/\Rl r)(t:w<=64)(b:3000000<=fu):
 ∃(A:K->Pz) (n c:K) (pv:K->K),Zo fu m p=Z (Z7 n w A,0)/\DP p N w (λi=>C<|m.getD i []) A n c pv/\(n=N\/c=w):=by
 have⟨p1,H⟩:=zB hp;unfold Zo;rw[Y<|cK hp W (λr P=>(o r P).1) t b,E O];have⟨M,u⟩:∃M:K->Pz,M=λi=>C (m.getD i []):=⟨_,O⟩;rw[<-u];rw[Y (v:=(Z7 N w<|λi k=>M i k%p,aX N λi=>i))];show∃A n c pv,G (zg (zhn fu p) fu ((Z7 N w<|λi k=>M i k%p,aX N λi=>i),0,0)) _=_/\_;obtain⟨y,Q,R,σ,n,c,pv,rfl,d,z,S⟩:=zgl (fu:=fu) (M:=M) hp D t b (x:=((Z7 N w<|λi k=>M i k%p,aX N λi=>i),0,0)) ⟨_,_,0,0,λ_=>0,O,λs _ k=>xo,⟨λi hi=>hi,λi j _ _ h=>h⟩,zp0 W⟩;have hn:=z.hn;refine⟨λi=>R<|σ i,n,c,pv,?_,z,S⟩;rw[Y Q];simp only;rw[yH,zi1 d.lt,Z1,va hn,F,zh1 hn];refine zC (λx:(wF (wF J)×wF K)×J=>∃i:K,i<=N/\x=((Z7 i w<|λi k=>M i k%p,aX i λi=>i),(i:J))) (λx=>N-x.2.toNat) _ ?_ _ _ ⟨0,xah _,O⟩ (by show N-0<fu;lia);rintro x L ⟨i,hi,rfl⟩ T;simp only;by_cases h:i<N;have hc:=Xp (l:=m) (i:=i) W [];have⟨e1,U⟩:=o _ hc;have V:XZ fu (m.getD i []) p=Z (zl w<|λk=>M i k%p):=by rw[Bt W H U W b,e1,u]
 rw[yg,yn,F,Y V,Vv,y9,F,Z1,F,zb];refine T _ ⟨i+1,W,?_⟩ (by show N-((i:J)+1).toNat<N-(i:J).toNat;lia);rw[<-Pc,<-ziz];rfl;rw[zF];obtain rfl:i=N:=W
 rfl
end
section
variable{fu w i N c0:wP}{p:wN}{M A:wP->Pz}
def eo{n c:K}{pv:K->K}(h:DP p N w M A n c pv)(hi:i<n)(q:w<=64)(k:3000000<=fu):Qm fu (zl w<|A i)=Z (pv i:J):=by
 have hc:=h.lt i hi;have hd:=h.hc;unfold Qm;have m:∀z,(λd=>YA fu d) z=Z (!decide (z=0)):=λz=>by
  show YA fu z=_;unfold YA;by_cases e:z=0
  simp_all;simp_all
 have f:=h.on i hi;rcases zdE (fu:=fu) (l:=zl w<|A i) (b:=λz=> !decide (z=0)) m (by rw[yj];lia) k with⟨g1,a⟩|⟨j,g,g1,a,o⟩
 exfalso;have:=a (pv i) (by rw[yj];lia);rw[ZJ W,f]at this;simp_all;rw[yj]at g;rw[ZJ g]at a;have e:j=pv i:=by
  rcases xfz j (pv i)with h1|h1|h1
  rw[h.ld i hi j h1]at a;exact kW a m6
  exact h1;have:=o (pv i) h1;rw[ZJ W,f]at this;simp_all
 rw[Y g1,e]
def sZ(n:K)(pv:K->K)(c:K):uS:=(xaL n).all λi=> !Q (pv i) c
theorem me{n c:K}{pv:K->K}:sZ n pv c=qR↔∀i,i<n->pv i≠c:=by grind [sZ,Nat.beq_refl,xdF]
theorem Rv{n c:K}{pv:K->K}(h:DP p N w M A n c0 pv)(m:N<=64)(f:w<=64)(d:3000000<=fu):wa fu (Z7 n w A) (λz=>jL fu z (c:J))=Z (!sZ n pv c):=by
 have hn:=h.hn;unfold wa;have g:∀i,i<n->jL fu (zl w<|A i) (c:J)=Z (decide<|pv i=c):=λi hi=>by
  unfold jL;rw[Y<|eo h hi f d];by_cases e:pv i=c;simp_all;grind
 have⟨b,j⟩:∃b:wF J->uS,b=λz=>match jL fu z (c:J)with
  |some x=>x
  |none=>I:=⟨_,O⟩
 have hc:∀i,i<n->b (zl w<|A i)=decide (pv i=c):=λi hi=>by rw[j];simp only[g i hi]
 have k:∀z∈Z7 n w A,(λz=>jL fu z (c:J)) z=Z (b z):=λz l=>by
  obtain⟨i,hi,rfl⟩:=xat.1 l;simp_all
 rcases SK (fu:=fu) k (by rw[Z1];lia) d with⟨g1,a⟩|⟨i,hi,g1,a,o⟩
 rw[Y g1,P m6];have:sZ n pv c=qR:=me.2 λi hi e=>by
  have:=a _ (xbH (xbf.2 hi):zl w (A i)∈Z7 n w A);grind
 rw[this];rfl;rw[Z1]at hi;rw[q8 hi,hc i hi]at a;rw[Y g1,yg];have:sZ n pv c=I:=by
  cases hd:sZ n pv c with
  |false=>rfl
  |true=>exact kW (WP a)<|me.1 hd i hi
 rw[this];rfl
def BX(p:J)(A:K->R)(pv:K->K)(c:K):K->R
 |0=>λk=>if k=c then 1 else 0
 |i+1=>XA (BX p A pv c i) (pv i) (-A i c%p)
theorem znw{n c:K}{pv:K->K}{t2:wF (wF J)}{i4:J}(h1:2<=p)(b:p<=65521)(h:DP p N w M A n c0 pv)(g:N<=64)(d:w<=64)(hc:c<w)(e:3000000<=fu):
 zg (UW fu (c:J) (w:J) p (Z7 n w A) i4) fu (0,t2,zl w<|BX p A pv c 0)=Z (t2,zl w<|BX p A pv c n):=by
 have hn:=h.hn;have j:=h.hc;refine zC (λs:J×wF (wF J)×wF J=>∃i:K,i<=n/\s=((i:J),t2,zl w<|BX p A pv c i)) (λs=>n-s.1.toNat) _ ?_ _ _ ⟨0,xah _,O⟩ (by show n-0<fu;lia);rintro s L ⟨i,hi,rfl⟩ f;unfold UW;simp only;have hd:∀{β:Type} (x:β) (k:β->V (wF (wF J)×wF J)),G (Z x) k=k x:=λ_ _=>O;by_cases a:i<n;have l:=h.lt i a;have⟨m,o⟩:=h.rg i W c;rw[E (by rw[Z1];lia),hd];simp only[Xs];rw[zp (by rw[Z1];exact a),F,q8 a,Y<|eo h a d e,zp (by rw[yj];exact hc),F,uc hc,zb,Y<|Xb W b ⟨W,W⟩,zp (by rw[yj];lia),F,Yt,zb];refine f _ ⟨i+1,W,?_⟩ (by show n-((i:J)+1).toNat<n-(i:J).toNat;lia);rw[Int.zero_sub];rfl;rw[P (by rw[Z1];lia),hd];grind
def pz(n:K)(pv:K->K)(w:K):wF K:=(xaL w).filter<|sZ n pv
theorem C9(n:K)(pv:K->K)(w:K):pz n pv (w+1)=if sZ n pv w=qR then pz n pv w++[w]else pz n pv w:=by grind [pz,xdm]
def zif(n:K)(pv:K->K)(w:K):X (pz n pv w)<=w:=by have:=xfG (sZ n pv)<|xaL w;rw[xeC]at this;exact this
def Ej{m:wF (wF J)}(hp:qO p=qR)(l:X m=N)(e:N<=64)(f:∀r∈m,X r=w/\Rl r)(a:w<=64)(b:3000000<=fu):
 ∃(A:K->R) (n c:K) (pv:K->K),VU fu m (w:J) p=Z ((pz n pv w).map λc=>zl w<|BX p A pv c n,0)/\DP p N w (λi=>C<|m.getD i []) A n c pv/\(n=N\/c=w):=by
 have⟨o,q⟩:=zB hp;have⟨A,n,c,pv,e1,d,t⟩:=pA (fu:=fu) hp l e f a b;refine⟨A,n,c,pv,?_,d,t⟩;have hn:=d.hn;unfold VU;rw[Y (v:=Sum.inl ())];simp only;rw[Y e1];simp only;rw[Y (v:=(pz n pv w).map λc=>zl w<|BX p A pv c n)];refine zC (λs:wF (wF J)×J=>∃k:K,k<=w/\s=((pz n pv k).map λc=>zl w<|BX p A pv c n,(k:J))) (λs=>w-s.2.toNat) _ ?_ _ _ ⟨0,xah _,O⟩ (by show w-0<fu;lia);rintro s L ⟨k,z,rfl⟩ g;unfold lO;simp only;have h:∀{β:Type} (x:β) (k:β->V (wF<|wF J)),G (Z x) k=k x:=λ_ _=>O;by_cases hc:k<w;rw[yg,h];simp only[Xs];rw[Y<|Rv (c:=k) d e a b]
 cases hd:sZ n pv k with
 |false=>
  rw[show(!I)=qR from O,E O,zb];refine g _ ⟨k+1,W,?_⟩ (by show w-((k:J)+1).toNat<w-(k:J).toNat;lia);rw[C9,P<|by rw[hd];decide];rfl
 |true=>
  have B:=zif n pv k;have u:zl w (XA (λ_=>0) k 1)=zl w (BX p A pv k 0):=xc λj _=>by unfold XA;rfl
  rw[show(!qR)=I from O,P m6,yH,y9,F,dR,zp (by rw[yj];exact hc),F,Yt,u,Y<|znw (i4:=(w:J)) o q d e a hc b];simp only;rw[va (by rw[xaj];simp;lia),F,zb];refine g _ ⟨k+1,W,?_⟩ (by show w-((k:J)+1).toNat<w-(k:J).toNat;lia);rw[C9,E hd,xaU];rfl
 rw[zF,h];simp only[xam,Z9];obtain rfl:k=w:=W
 rfl;rw[Y<|cK hp W (λr y=>(f r y).1) a b,E O,zF,zF];by_cases h0:0<X m;have D:=(f _<|Xp h0 []).1;rw[yg,zmk h0,F,yg];rw[zF]
def rY{p:J}{A:K->R}{pv:K->K}{c k:K}:∀{n:K},(∀i,i<n->pv i≠k)->BX p A pv c n k=if k=c then 1 else 0
 |0,_=>rfl
 |n+1,h=>by
  show XA (BX p A pv c n) (pv n) _ k=_;unfold XA;rw[P<|λe=>h n W e.symm];exact rY λi hi=>h i W
def CN{p:J}{A:K->R}{pv:K->K}{c i:K}:∀{n:K},i<n->(∀j,j<n->j≠i->pv j≠pv i)->BX p A pv c n (pv i)= -A i c%p
 |0,h,_=>by lia
 |n+1,h,hd=>by
  show XA (BX p A pv c n) (pv n) _ (pv i)=_;unfold XA;by_cases e:i=n;simp_all;rw[P<|λa=>hd n W (λb=>e b.symm) a.symm];exact CN W λj f d=>hd j W d
def DP.pv_ne{n c:K}{pv:K->K}(h:DP p N w M A n c pv){j:K}(hi:i<n)(a:j<n)(b:j≠i):pv j≠pv i:=λe=>by
 have h1:=h.on i hi;have hn:=h.hn;have f:=h.no j a i W λd=>b d.symm;simp_all
def zbC{p:J}(hp:2<=p){A:K->R}{pv:K->K}{c:K}:∀(n k:K),0<=BX p A pv c n k/\BX p A pv c n k<p
 |0,k=>by
  show 0<=(if k=c then 1 else 0)/\(if k=c then 1 else 0)<p;lia
 |n+1,k=>by
  show 0<=XA (BX p A pv c n) (pv n) (-A n c%p) k/\XA (BX p A pv c n) (pv n) (-A n c%p) k<p;unfold XA;split;exact xo;exact zbC hp n k
theorem zcH(n:K)(pv:K->K)(F:K->J):∀w,ye (X (pz n pv w)) (λj=>F<|(pz n pv w).getD j 0)=ye w λc=>if sZ n pv c=qR then F c else 0
 |0=>rfl
 |w+1=>by
  have a:=zcH n pv F w;show _=ye w _+(if sZ n pv w=qR then F w else 0);rw[C9];by_cases h:sZ n pv w=qR;rw[E h,xau,<-a];show ye (X (pz n pv w)) _+F ((pz n pv w++[w]).getD (X (pz n pv w)) 0)=_;congr 1;exact yC λj b=>by grind
  simp_all;simp_all
def zhx{n c:K}{pv:K->K}(h:DP p N w M A n c pv)(hi:i<n)(e:K->J):dt w (A i) e=e (pv i)+ye w λk=>if sZ n pv k=qR then A i k*e k else 0:=by
 have l:=h.lt i hi;have m:=h.hc;have hn:=h.hn;have h1:dt w (A i) e=ye w (λk=>(if k=pv i then e k else 0)+if sZ n pv k=qR then A i k*e k else 0):=by
  refine yC λk f=> ?_;by_cases e1:k=pv i;have a:=λa=>me.1 a i hi e1.symm;rw[E e1,P a,e1,h.on i hi,xdh,xcc];rw[P e1];by_cases a:sZ n pv k=qR;simp_all;rw[P a,xcc];have⟨j,d,b⟩:∃j,j<n/\pv j=k:=by apply xad;intro hc;exact a<|me.2 λj d b=>hc ⟨j,d,b⟩
  have hd:i≠j:=λg=>by rw[<-g]at b;exact e1 b.symm
  rw[<-b,h.no j d i W hd,xba]
 rw[h1,YI,wH<|λk f=>P f,yg,E O]
def zop(hp:2<=p){n:K}{pv:K->K}(h:DP p N w M A n c0 pv)(hd:n=N\/c0=w){c:K}(hc:c<w)(hl:sZ n pv c=qR):Kr p N w M (BX p A pv c n):=(h.kr _).1 λi hi=>by
 by_cases a:i<n;rw[zhx h a,CN a λj f l=>h.pv_ne (i:=i) (j:=j) a f l];have m:ye w (λk=>if sZ n pv k=qR then A i k*BX p A pv c n k else 0)=A i c:=by
  rw[yC (g:=λk=>if k=c then A i k else 0) λk b=>by
   by_cases d:sZ n pv k=qR;rw[E d,rY<|me.1 d];by_cases e:k=c;simp_all;simp_all;rw[P d];by_cases e:k=c;simp_all;rw[P e],wH (i:=c)<|λk b=>P b,E hc,E O]
 rw[m];refine xaG ?_;rw[Int.emod_add_emod,(W:-A i c+A i c=0),xar];obtain he|he:=hd
 lia;have:dt w (A i) (BX p A pv c n)=0:=by unfold dt;rw[yU λk b=>by rw[h.zr i W hi k W,xba]]
 simp_all
theorem zlz(hp:2<=p){n:K}{pv:K->K}(h:DP p N w M A n c0 pv){e:K->J}(f:Kr p N w M e){k:K}(l:k<w):
 e k%p=ye (X (pz n pv w)) (λj=>e ((pz n pv w).getD j 0)*BX p A pv ((pz n pv w).getD j 0) n k)%p:=by
 rw[zcH n pv (λc=>e c*BX p A pv c n k) w];by_cases d:sZ n pv k=qR
 congr 1;rw[yC (g:=λc=>if c=k then e c else 0) λc hc=>by
  rw[rY<|me.1 d];by_cases e1:c=k;simp_all;rw[P e1,P (λh:k=c=>e1 h.symm),xaz,ite_self],wH (i:=k)<|λc hc=>P hc,E l,E O]
 obtain⟨i,hi,rfl⟩:∃i,i<n/\pv i=k:=by apply xad;intro hd;exact d<|me.2 λj b m=>hd ⟨j,b,m⟩
 have hn:=h.hn;have h1:=(h.kr e).2 f i W;rw[zhx h hi]at h1;have o:ye w (λc=>if sZ n pv c=qR then e c*BX p A pv c n (pv i)else 0)%p=(-(ye w λk=>if sZ n pv k=qR then A i k*e k else 0))%p:=by
  have q: -(ye w λk=>if sZ n pv k=qR then A i k*e k else 0)=ye w λk=> -1*(if sZ n pv k=qR then A i k*e k else 0):=by rw[uO];lia
  rw[q];refine ll λc hc=> ?_;by_cases a:sZ n pv c=qR;rw[E a,E a,CN hi λj b hl=>h.pv_ne (i:=i) (j:=j) hi b hl,xcj,xaT,<-xcj];grind;rw[P a,P a,xaz]
 rw[o];refine xaN.2<|xax ?_;rw[Int.sub_neg];exact h1
end
section
variable{N w r fu P:wP}{R:wP->Pz}{m:wF wN}
def Nu(h:r<N):(([]:wF J)::Z7 N w R).getD (r+1) []=zl w (R r):=q8 h
theorem zeR{g:Pz}:(([]:wF J)::Z7 N w R).set (r+1) (zl w g)=[]::Z7 N w λs=>if s=r then g else R s:=by grind [Mb]
theorem zoX{c:K}{h:wF J}(f:w<=64)(hc:c<w)(hl:X h<=w)(b:J)(d:b=(c:J))(g:3000000<=fu):
 zg (λL (y:(wF (wF J)×wF K)×J)=>
 if y.2<(X h:J)then
  zI y.2 (X h) λj=>
  B (h.getD j 0) λv=>
  zI y.2 (X y.1.2) λj=>
  B (y.1.2.getD j 0) λr=>
  zI b (X (y.1.1.getD r [])) λj=>
  B (y.1.1.set r<|(y.1.1.getD r []).set j v) λa=>
  zf (y.2+1) λi=>L ((a,y.1.2),i)
 else Z y.1) fu (([]::Z7 w w R,aX w λi=>i+1),0)=Z ([]::Z7 w w λs=>if s<X h then XA (R s) c (C h s)else R s,aX w λi=>i+1):=by
 subst d;refine zC (λy:(wF (wF J)×wF K)×J=>∃i:K,i<=X h/\y=(([]::Z7 w w λs=>if s<i then XA (R s) c (C h s)else R s,aX w λi=>i+1),(i:J))) (λy=>X h-y.2.toNat) _ ?_ _ _ ⟨0,xah _,by rw[Z6 (R:=R) (S:=λs=>if s<0 then XA (R s) c (C h s)else R s) λs _ k _=>by rw[zF]];rfl⟩ (by show X h-0<fu;lia);rintro y L ⟨i,hi,rfl⟩ e;simp only;by_cases h1:i<X h;rw[yg,zp h1,F,Jh,Vv,yn,F,ZK,Nu W,yj,zp hc,F,Yt,zeR,zF,zb];refine e _ ⟨i+1,W,?_⟩ (by show X h-((i:J)+1).toNat<X h-(i:J).toNat;lia);grind;grind
def J4(a:K->wF J)(c:K):K->Pz:=λi k=>if k<c then C (a k) i-(if i=k then 1 else 0)else 0
def DB{a b:wF J}{p:J}(hp:qO p=qR)(e:Fp p a)(c:vF p b)(hc:X a<=90000)(hd:X b<=90000)(f:3000000<=fu):
 ∃q r,kO fu a b p=Z (q,r,0)/\Fp p r/\Cg p (C a) (C q*C b+C r)/\X r<X b:=by
 have⟨j,d⟩:=zB hp;have⟨q,r,e1,k,g,h,i,l⟩:=xN hp e c.fm c.ln hc hd f;refine⟨q,r,?_,g,h,i⟩;unfold kO;rw[Y<|ZF hp,E O,Y<|zP W d (c.fm.rl d) W f,c.fm.pm,zF,Y<|zP W d (e.rl d) W f,e.pm,Y e1]
def ze0(fu:K)(f:wF J)(p n:J):oL ((wF (wF J)×wF K)×wF J×wF J×J) (wF (wF J)×wF K):=λL (x:(wF (wF J)×wF K)×wF J×wF J×J)=>if x.2.2.2<n then G (zg (λL (y:(wF (wF J)×wF K)×J)=>if y.2<(X x.2.1:J)then zI y.2 (X x.2.1) λj=>B (x.2.1.getD j 0) λv=>zI y.2 (X y.1.2) λj=>B (y.1.2.getD j 0) λr=>zI x.2.2.2 (X (y.1.1.getD r [])) λj=>B (y.1.1.set r<|(y.1.1.getD r []).set j v) λa=>S (y.2+1) λi=>L ((a,y.1.2),i)else Z y.1) fu (x.1,0)) λy=>zI x.2.2.2 (X y.2) λj=>B (y.2.getD j 0) λr=>zI x.2.2.2 (X (y.1.getD r [])) λj=>B ((y.1.getD r []).getD j 0) λv=>S (v-1) λe=>zI x.2.2.2 (X (y.1.getD r [])) λj=>B (y.1.set r<|(y.1.getD r []).set j e) λa=>G (kS fu x.2.1 x.2.2.1 p) λu=>G (kO fu u.1 f p) λw=>S (x.2.2.2+1) λi=>L ((a,y.2),w.2.1,x.2.2.1,i)else Z x.1
def zpt:((aX N λi=>i+1).map λr=>(([]:wF J)::Z7 N w R).getD r [])=Z7 N w R:=by show((xaL N).map λi=>i+1).map _=(xaL N).map _;rw[xdj];exact xch λi hi=>Nu<|xbf.1 hi
def FxI(P:K)(m x:wF J)(w:K)(y:(wF (wF J)×wF K)×wF J×wF J×J):Prop:=
 ∃(a:K->wF J) (c:K),y=(([]::Z7 w w (J4 a c),aX w λi=>i+1),a c,x,(c:J))/\c<=w/\∀k,k<=c->Fp (P:J) (a k)/\X (a k)<=w/\Em (P:J) m (pp (pp vx P) k) (C<|a k)
def ziN{x:wF J}(hp:qO (P:J)=qR)(o:vF (P:J) m)(hi:X m=w+1)(A:1<=w)(q:w<=64)(t:Fp (P:J) x)(hl:X x<=w)(hd:Em (P:J) m (pp vx P) (C x))(h:3000000<=fu){y:(wF (wF J)×wF K)×wF J×wF J×J}(j:FxI P m x w y):
 ∃r,zg (ze0 fu m P (w:J)) fu y=Z r/\∃a:K->wF J,r=([]::Z7 w w (J4 a w),aX w λi=>i+1)/\∀k,k<=w->Fp (P:J) (a k)/\X (a k)<=w/\Em (P:J) m (pp (pp vx P) k) (C<|a k):=by
 have⟨B,D⟩:=zB hp;refine zU (FxI P m x w) (λy=>w-y.2.2.2.toNat) _ ?_ _ _ j (by obtain⟨a,c,rfl,_⟩:=j;show w-(c:J).toNat<fu;lia);rintro y L ⟨a,c,rfl,hc,d⟩ u;unfold ze0;simp only;by_cases h1:c<w
 have⟨k1,k2,k3⟩:=d c<|Nm _;have G:=k1.nn c;have hn:=k1.lt c;have⟨R,f⟩:∃R:K->Pz,R=λs=>if s<X (a c) then XA (J4 a c s) c (C (a c) s)else J4 a c s:=⟨_,O⟩;have l:∀s,R s c=C (a c) s:=λs=>by
  rw[f];show(if s<X (a c) then XA (J4 a c s) c (C (a c) s)else J4 a c s) c=_;by_cases e:s<X (a c);rw[E e];exact E O;rw[ir e,yB W];exact zF
 have v:∀s k,k≠c->R s k=J4 a c s k:=λs k g=>by
  rw[f];show(if s<X (a c) then XA (J4 a c s) c (C (a c) s)else J4 a c s) k=_;by_cases e:s<X (a c);rw[E e];exact ir g;rw[ir e]
 have H:=jV (P:J) (a c) x;have⟨q2,r2,d1,d2,d3,d4⟩:=DB (fu:=fu) hp (jz (p:=(P:J)) W (a c) x) o W W h;rw[yg,Y<|zoX (fu:=fu) (R:=J4 a c) q h1 k2 _ O h,<-f];simp only;rw[Vv,zp h1,F,ZK h1,Nu h1,yj,zp h1,F,uc h1,l,zb,zp h1,F,Yt,zeR,Y<|ZU hp k1 t,Y d1];simp only;rw[zb];refine u _ ⟨λk=>if k=c+1 then r2 else a k,c+1,?_,W,λk g=> ?_⟩ (by show w-((c:J)+1).toNat<w-(c:J).toNat;lia)
 show _=((_,_),(if c+1=c+1 then r2 else a (c+1)),x,_);rw[E O,Z6 (S:=J4 (λk=>if k=c+1 then r2 else a k)<|c+1) λs M k g=>by
  show(if s=c then XA (R c) c (C (a c) c-1)else R s) k=if k<c+1 then C (if k=c+1 then r2 else a k) s-(if s=k then 1 else 0)else 0;by_cases e1:k=c;rw[e1,show(if c<c+1 then C (if c=c+1 then r2 else a c) s-(if s=c then(1:J)else 0)else 0)=C (a c) s-(if s=c then(1:J)else 0)by rw[yg,zF]];by_cases b:s=c;rw[E b,E b,b];exact E O;rw[ir b,ir b,l,xdk];have z:(if s=c then XA (R c) c (C (a c) c-1)else R s) k=R s k:=by by_cases b:s=c;rw[E b,b];exact ir e1;rw[ir b]
  rw[z,v s k e1];unfold J4;by_cases n:k<c;rw[E n,show(if k<c+1 then C (if k=c+1 then r2 else a k) s-(if s=k then(1:J)else 0)else 0)=C (a k) s-(if s=k then(1:J)else 0)by rw[yg,zF]];rw[ir n,ir (W:¬k<c+1)]]
 rfl;show Fp (P:J) (if k=c+1 then r2 else a k)/\X (if k=c+1 then r2 else a k)<=w/\Em (P:J) m (pp (pp vx P) k) (C (if k=c+1 then r2 else a k));by_cases e:k=c+1
 rw[E e,e];refine⟨d2,W,?_⟩;show Em (P:J) m (pp (pp vx P) c*pp vx P) (C r2);exact(Em.mul ((Fs.vx.pp P).pp c) (Fs.ci x) k3 hd).trans<|(Em.cg (Yf (P:J) (a c) x).symm).trans<|Em.rest d3;rw[ir e];exact d k W
 rw[zF];obtain rfl:c=w:=W
 exact⟨_,O,a,O,d⟩
def pZ(hp:qO (P:J)=qR)(d:vF (P:J) m)(j:X m=w+1)(hc:1<=w)(l:w<=64)(c:3000000<=fu):
 ∃b:K->wF J,Xx fu m P=G (VU fu (Z7 w w<|J4 b w) (w:J) P) (λr=>Z r.1)/\∀k,k<=w->Fp (P:J) (b k)/\X (b k)<=w/\Em (P:J) m (pp (pp vx P) k) (C<|b k):=by
 have⟨z,A⟩:=zB hp;have cx:C [0,1]=vx:=by
  funext k
  match k with
  |0=>rfl
  |1=>rfl
  |k+2=>rw[yB m7];exact(show(if k+2=1 then(1:J)else 0)=0 from zF).symm
 have fx:Fp (P:J) [0,1]:=⟨λk=>by rw[cx];show 0<=(if k=1 then(1:J)else 0);split<;>lia,λk=>by rw[cx];show(if k=1 then(1:J)else 0)<P;split<;>lia,.inr m6⟩;have n:Fp (P:J) [1]:=QN;have⟨x,o,p,B,f⟩:=KN (fu:=fu) (w:=[0,1]) (a:=m) (E:=P) hp fx d m6 W W W c;rw[cx]at f;have hd:Z7 w w (J4 (λ_=>[1]) 0)=Z7 w w (λ_ _=>0):=Z6 λs _ k _=>zF;obtain⟨r,g,b,rfl,q⟩:=ziN (fu:=fu) hp d j hc l p W f c (y:=(([]::Z7 w w (J4 (λ_=>[1]) 0),aX w λi=>i+1),[1],x,0)) ⟨λ_=>[1],0,O,xah _,λk H=>⟨n,by simp;lia,by
  obtain rfl:k=0:=W
  show Em (P:J) m (D 1) (C [1]);rw[kv];exact Em.rfl⟩⟩
 rw[hd]at g;refine⟨b,?_,q⟩;unfold Xx;rw[zb,(W:(X m:J)-1=(w:J)),yH,y9,F,Y (v:=([]::Z7 w w (λ_ _=>0),aX w λi=>i+1))];rw[Y<|yw ⟨W,W⟩ c,Y o];show G (zg (ze0 fu m P (w:J)) fu (([]::Z7 w w (λ_ _=>0),aX w λi=>i+1),[1],x,0)) _=_;rw[Y g];simp only;rw[zpt];have t:So w 0=aX w λs=>if s<0 then s+1 else 0:=by unfold aX;rw[show(λs=>if s<0 then s+1 else 0)=λ_=>0 from Z0 λs=>zF,List.map_const',xeC]
 rw[t];refine zC (λx:(wF (wF J)×wF K)×J=>∃i:K,i<=w/\x=(([]::Z7 i w (λ_ _=>0),aX w λs=>if s<i then s+1 else 0),(i:J))) (λx=>w-x.2.toNat) _ ?_ _ _ ⟨0,xah _,O⟩ (by show w-0<fu;lia);rintro x L ⟨i,hi,rfl⟩ u;simp only;rw[Vv];by_cases h1:i<w
 rw[yg,yH,y9,F,dR,Vv,zp h1,F,xbP,Pc i w<|λ_ _=>0,F,CG,xaw,Z1,zb];refine u _ ⟨i+1,W,?_⟩ (by show w-((i:J)+1).toNat<w-(i:J).toNat;lia);have:(λs=>if s=i then i+1 else if s<i then s+1 else 0)=λs=>if s<i+1 then s+1 else 0:=Z0 λs=>by
  by_cases e:s=i;rw[iq e,yg,e];rw[ir e];by_cases h:s<i;rw[iq h,yg];rw[ir h,zF]
 rw[this];rfl;rw[zF];obtain rfl:i=w:=W
 congr 2;unfold aX;exact xch λs b=>iq<|xbf.1 b
end
section
variable{m:wF wN}{P w:wP}
def Di.short{p:J}(hp:2<=p)(a:vF p m){f:R}(b:∀k,X m-1<=k->f k=0)(h:Di p (C m) f):Cg p f (D 0):=by
 have⟨q,fq,hc⟩:=h;have:=a.mn.zero hp fq λk c=>by rw[<-hc k,b k c,xar]
 exact hc.trans<|this.mul_zero_r _
def Nn(F:K->R)(k:K):∀n,smP n F k=ye n λi=>F i k
 |0=>by show D 0 k=0;unfold D;split<;>rfl
 |n+1=>by
  show(smP n F+F n) k=ye n (λi=>F i k)+F n k;rw[zW,Nn F k n]
def Em.smP{p:J}{a:N J}{F G:K->R}:∀n,(∀i,i<n->Em p a (F i) (G i))->Em p a (smP n F) (smP n G)
 |0,_=>Em.rfl
 |n+1,h=>(Di.add (Em.smP n λi hi=>h i W)<|h n W).cg (Cg.of (Z0 λk=>by
  show(Go.Proofs.YtoegnnjcmlghhaaGreat.smP n F k-Go.Proofs.YtoegnnjcmlghhaaGreat.smP n G k)+(F n k-G n k)=(Go.Proofs.YtoegnnjcmlghhaaGreat.smP n F k+F n k)-(Go.Proofs.YtoegnnjcmlghhaaGreat.smP n G k+G n k);lia))
theorem zb7{a:K->N J}(hp:qO (P:J)=qR)(o:vF (P:J) m)(hc:X m=w+1)(d:∀k,k<=w->Fp (P:J) (a k)/\X (a k)<=w/\Em (P:J) m (pp (pp vx P) k) (C<|a k)){e:R}(f:∀k,w<=k->e k=0):
 Di (P:J) (C m) (pp e P-e)↔∀s,s<w->(P:J)∣dt w (J4 a w s) e:=by
 have⟨q,r⟩:=zB hp;have hn:=WA hp;rw[xbb]at hn;let S:R:=smP w λi=>D (e i)*C (a i)
 have h1:Em (P:J) m (pp e P) S:=(Em.cg<|zrK W hn f).trans<|Em.smP w λi hi=>Em.mul (Fs.pc _) (Fs.ci _) Em.rfl (d i W).2.2;have j:∀k,w<=k->(S-e) k=0:=λk b=>by
  show S k-e k=0;rw[f k b,show S k=ye w λi=>(D (e i)*C (a i)) k from Nn _ k w,yU λi hi=>by rw[zS,yB (by have:=(d i W).2.1;lia),xaz]];rfl
 have l:∀s,s<w->dt w (J4 a w s) e=(S-e) s:=λs c=>by
  show ye w (λk=>(if k<w then C (a k) s-(if s=k then 1 else 0)else 0)*e k)=S s-e s;rw[show S s=ye w λi=>(D (e i)*C (a i)) s from Nn _ s w,yC (g:=λk=>(D (e k)*C (a k)) s+(if k=s then-e k else 0)) λk b=>by
   rw[E b,zS];by_cases h:k=s;grind;rw[ir<|λg=>h g.symm,ir h,xdk,xcc,xbB],YI,wH (i:=s)<|λk b=>ir b,E c,E O]
  lia
 have p:Di (P:J) (C m) (pp e P-e)↔Di (P:J) (C m) (S-e):=⟨λh=>(h1.symm.trans (show Em _ _ _ e from h):Em _ _ _ e),λh=>(h1.trans (show Em _ _ _ e from h):Em _ _ _ e)⟩;rw[p];constructor;intro h s c;have:=Di.short W o (λk b=>j k W) h;rw[l s c];have n:=this s;rw[zV,xar]at n;exact xaG n;intro h;refine(Di.zero _ _).cg λs=> ?_;rw[zV,xar];symm;by_cases c:s<w;rw[<-l s c];exact xax<|h s c;rw[j s W,xar]
def zkT(hp:qO (P:J)=qR):P=2\/P%2=1:=by
 have⟨a,b⟩:=zB hp;have hn:=WA hp;by_cases h:P=2
 lia;have:=hn 2 W;by_cases c:4<=P;lia;lia
def BN{fu:K}(hp:qO (P:J)=qR)(x:vF (P:J) m)(hn:X m=w+1)(V:1<=w)(z:w<=64)(G:3000000<=fu):
 ∃bs,Xx fu m P=Z bs/\1<=X bs/\X bs<=w/\(∀v∈bs,Rl v/\X v=w)/\Bs P m (λi=>C<|bs.getD i []) (X bs)/\∃c:J,Cg (P:J) (C<|bs.getD 0 []) (D c):=by
 have⟨p1,p2⟩:=zB hp;have⟨b,h1,t⟩:=pZ (fu:=fu) hp x hn V z G;have hR:∀s k,Qp (J4 b w s k):=λs k=>by
  show Qp (if k<w then C (b k) s-(if s=k then 1 else 0)else 0);by_cases h:k<w;rw[E h];have f:=(t k W).1;have f1:=f.nn s;have f2:=f.lt s;split;exact⟨W,W⟩;exact⟨W,W⟩;rw[ir h];exact⟨W,W⟩
 have⟨A,n,c,pv,e1,o,e3⟩:=Ej (fu:=fu) (N:=w) (w:=w) (m:=Z7 w w<|J4 b w) hp (Z1 _ _ _) z (λr H=>by
  unfold Z7 at H;obtain⟨s,_,rfl⟩:=xat.1 H;refine⟨yj _ _,λk=> ?_⟩;by_cases a:k<w;rw[ZJ a];exact hR s k;rw[yB<|by rw[yj];lia];exact⟨W,W⟩) z G
 have B:∀e:R,Kr (P:J) w w (λi=>C<|(Z7 w w<|J4 b w).getD i []) e↔∀s,s<w->(P:J)∣dt w (J4 b w s) e:=λe=>forall_congr' λs=>imp_congr_right λhc=>by rw[show dt w (C<|(Z7 w w<|J4 b w).getD s []) e=dt w (J4 b w s) e from yC λk a=>by rw[q8 hc,ZJ a]]
 let F:K->wF J:=λc=>zl w<|BX (P:J) A pv c n
 have L:∀i,i<X (pz n pv w)->(pz n pv w).getD i 0<w/\sZ n pv ((pz n pv w).getD i 0)=qR:=λi hi=>by
  rw[UV,xaa hi,xdb];have:=xbI hi;have d:=xbX.1 this;exact⟨xbf.1 d.1,d.2⟩
 have q:∀i,i<X (pz n pv w)->((pz n pv w).map F).getD i []=F ((pz n pv w).getD i 0):=λi hi=>by rw[UV,UV,xco,xaa hi];rfl
 have M:∀i,i<w->(P:J)∣A i 0:=by
  have h0:Kr (P:J) w w A λk=>if k=0 then 1 else 0:=(o.kr _).2 ((B _).2 λs hc=>by
   show(P:J)∣ye w λk=>J4 b w s k*(if k=0 then 1 else 0);rw[wH (i:=0) (λk a=>by rw[ir a,xaz]),yg,E O,xcU];show(P:J)∣(if 0<w then C (b 0) s-(if s=0 then 1 else 0)else 0);rw[yg];have g:=(t 0<|xah _).2.2;have g1:Cg (P:J) (D 1-C (b 0)) (D 0):=Di.short W x (λk a=>by
    rw[xd,yB (by have:=(t 0<|xah _).2.1;lia)];show D 1 k-0=0;unfold D;rw[zF];rfl) g
   have Q:=g1 s;rw[xd,zV,xar]at Q;have S:=xaG Q;have g4:(D 1 s:J)=if s=0 then 1 else 0:=O;rw[g4]at S;have:=Int.dvd_neg.2 S;rw[Int.neg_sub]at this;exact this)
  intro i hi;have:(P:J)∣ye w λk=>A i k*(if k=0 then 1 else 0):=h0 i hi;rw[wH (i:=0) (λk a=>by rw[ir a,xaz]),yg,E O,xcU]at this;exact this
 have ht:sZ n pv 0=qR:=me.2 λi hi h=>by
  have d:=o.on i hi;rw[h]at d;have T:=M i (by have:=o.hn;lia);rw[d]at T;have:=Int.le_of_dvd W T;lia
 have hA:∃l,pz n pv w=0::l:=by obtain⟨u,rfl⟩:∃u,w=u+1:=⟨w-1,W⟩;unfold pz;rw[List.range_succ_eq_map,xfI,E ht];exact⟨_,O⟩
 have⟨l,hl⟩:=hA;refine⟨(pz n pv w).map F,by rw[h1,Y e1],by rw[hl];simp,by rw[xaj];exact zif n pv w,λv hv=> ?_,⟨zkT hp,W,λe he hd=> ?_,λi hi k a=> ?_,λi hi=> ?_⟩,1,?_⟩;obtain⟨c,_,rfl⟩:=xat.1 hv;refine⟨λk=> ?_,yj _ _⟩;by_cases a:k<w;show Qp (C (zl w _) k);rw[ZJ a];have:=zbC (p:=(P:J)) W (A:=A) (pv:=pv) (c:=c) n k;exact⟨W,W⟩;rw[yB (by show(zl w _).length<=k;rw[yj];lia)];exact⟨W,W⟩;have U:∀k,w<=k->e k=0:=λk a=>he k W;refine⟨λi=>e<|(pz n pv w).getD i 0,λk=> ?_⟩;rw[Nn,xaj];by_cases a:k<w;rw[zlz W o ((B e).2<|(zb7 hp x hn t U).1 hd) a];congr 1;refine yC λi hi=> ?_;rw[zS,q i hi];show _=_*C (zl w _) k;rw[ZJ a]
 rw[U k W,yU λi hi=>by
  rw[zS,q i hi];show _*C (zl w _) k=0;rw[yB (by rw[yj];lia),xaz]]
 rw[xaj]at hi;rw[q i hi];exact yB (by show(zl w _).length<=k;rw[yj];lia)
 rw[xaj]at hi;have hz:∀k,w<=k->C (((pz n pv w).map F).getD i []) k=0:=λk a=>by
  rw[q i hi];exact yB (by show(zl w _).length<=k;rw[yj];lia)
 refine(zb7 hp x hn t hz).2<|(B _).1 ?_;have:=zop W o e3 (L i hi).1 (L i hi).2;intro s hc;have d:=this s hc;rw[show dt w _ (C<|((pz n pv w).map F).getD i [])=dt w _ (BX (P:J) A pv ((pz n pv w).getD i 0) n)from yC λk a=>by
  rw[q i hi];show _*C (zl w _) k=_;rw[ZJ a]]
 exact d;intro k;rw[q 0 (by rw[hl];simp),hl];show C (zl w<|BX (P:J) A pv 0 n) k%P=(if k=0 then(1:J)else 0)%P;by_cases a:k<w;rw[ZJ a];by_cases y:sZ n pv k=qR;rw[rY<|me.1 y];have:∃i,i<n/\pv i=k:=xad λh=>y<|me.2 λi hi d=>h ⟨i,hi,d⟩;obtain⟨i,hi,rfl⟩:=this;rw[CN hi λj hj hB=>o.pv_ne (i:=i) (j:=j) hi hj hB];have h0:pv i≠0:=λh=>by rw[h]at y;exact y ht
 rw[ir h0,xar];have h5:=M i (by have:=o.hn;lia);exact xax<|xaG<|by rw[xcE _<|xer _];exact xax<|Int.dvd_neg.2 h5
 rw[yB (by rw[yj];lia),zF]
end
section
section
variable{α:Type}
def iB1(d:α)(cmp:α->α->V J):oL (J×J×J×N α) (J×J×N α):=λL (i2,a,i4,t2)=>
 if i2<i4 then
 zI i4 (X t2) λb=>
 B (t2.getD b d) λt3=>
 S (i4-1) λc=>
 zI c (X t2) λe=>
 B (t2.getD e d) λt4=>
 G (cmp t3 t4) λf=>
 if f<0then
 S (i4-1) λg=>
 S (i4-1) λh=>
 zI h (X t2) λi=>
 B (t2.getD i d) λt5=>
 zI i4 (X t2) λj=>
 B (t2.getD j d) λt6=>
 zI i4 (X t2) λk=>
 B (t2.set k t5) λt7=>
 zI g (X t7) λl=>
 B (t7.set l t6) λt8=>
 S (i4-1) λm=>
 L (i2,a,m,t8)
 else
 Z (i2,a,t2)
 else
 Z (i2,a,t2)
def iB0(fu:K)(d:α)(b a:J)(cmp:α->α->V J):oL (J×N α) (N α):=λL (i1,t1)=>
 if i1<a then
 G (zg (iB1 d cmp) fu (b,a,i1,t1)) λ(e,f,t9)=>
 S (i1+1) λc=>
 L (c,t9)
 else
 Z t1
structure Od3(c:α->α->J)(S:α->Prop):Prop where
 tr:∀x y z,S x->S y->S z->¬c y x<0->¬c z y<0->¬c z x<0
 an:∀x y,S x->S y->c x y<0->¬c y x<0
def zbe(d x:α):∀(a b:N α),(a++x::b).getD (X a) d=x
 |[],_=>rfl
 |_::a,b=>zbe d x a b
def Og(d y x:α):∀(a b:N α),(a++y::x::b).getD (X a+1) d=x
 |[],_=>rfl
 |_::a,b=>Og d y x a b
def zh4(x z:α):∀(a b:N α),(a++x::b).set (X a) z=a++z::b
 |[],_=>rfl
 |h::a,b=>Z4 (h:: ·)<|zh4 x z a b
def zbU(y x z:α):∀(a b:N α),(a++y::x::b).set (X a+1) z=a++y::z::b
 |[],_=>rfl
 |h::a,b=>Z4 (h:: ·)<|zbU y x z a b
def zcu{l:N α}(h:0<X l):∃a y,l=a++[y]:=⟨l.dropLast,l.getLast (λe=>by rw[e]at h;exact kW h<|xfQ _),(List.dropLast_concat_getLast _).symm⟩
def zp6{fu:K}{d:α}{cmp:α->α->V J}{c:α->α->J}{S:α->Prop}(hc:∀x y,S x->S y->cmp x y=Z (c x y)){s rest:wF α}{x:α}(j:∀y∈s,S y)(k:S x)(hn:X (s++x::rest)<=1000)(o:3000000<=fu){N:J}:
 ∃r,zg (iB1 d cmp) fu (0,N,(X s:J),s++x::rest)=Z r/\∃r1 r2,s=r1++r2/\r=(0,N,r1++x::(r2++rest))/\(∀y∈r2,c x y<0)/\∀a y,r1=a++[y]->¬c x y<0:=by
 rw[xau,xaw]at hn;refine zU (λt:J×J×J×wF α=>∃r1 r2,s=r1++r2/\t=(0,N,(X r1:J),r1++x::(r2++rest))/\∀y∈r2,c x y<0) (λt=>t.2.2.1.toNat) _ ?_ fu _ ⟨s,[],(xbo s).symm,O,λy g=>by simp at g⟩ (by show(X s:J).toNat<fu;lia);rintro t L ⟨r1,r2,e,rfl,i⟩ l;unfold iB1;simp only;have hl:X s=X r1+X r2:=by rw[e,xau]
 by_cases h:0<X r1;obtain⟨a,y,rfl⟩:=zcu h;have m:X (a++[y])=X a+1:=m7
 have h1:a++[y]++x::(r2++rest)=a++y::x::(r2++rest):=m7
 have n:X (a++y::x::(r2++rest))=X a+2+X r2+X rest:=by simp;lia
 have g:S y:=j y (by rw[e];simp);rw[h1,m,yg,n,yn,F,Og,zb,(W:((X a+1:K):J)-1=(X a:J)),yn,F,zbe,Y<|hc x y k g];by_cases f:c x y<0;rw[E f,zb,zb,yn,F,zbe,yn,F,Og,yn,F,zbU,xau,zp m7,F,zh4,zb];refine l _ ⟨a,y::r2,by rw[e];simp,O,λz hz=> ?_⟩ (by show(X a:J).toNat<(X (a++[y]):J).toNat;lia);obtain rfl|hz:=xal.1 hz
 exact f;exact i z hz;rw[P f];refine⟨_,O,a++[y],r2,e,by rw[h1],i,λb z hz=> ?_⟩;have:=List.append_inj' hz O;rw[List.singleton_inj.1 this.2]at f;exact f
 rw[zF];obtain rfl:r1=[]:=xbs.1 W;exact⟨_,O,[],r2,e,O,i,λb z hz=>by
  have:=Z4 xaK hz;simp at this⟩
def zfv{fu:K}{d:α}{cmp:α->α->V J}{c:α->α->J}{S:α->Prop}(hc:∀x y,S x->S y->cmp x y=Z (c x y)){t:wF α}(p:∀y∈t,S y)(hn:X t<=1000:=by lia)(q:3000000<=fu:=by lia):
 ∃r,zg (iB0 fu d 0 (X t:J) cmp) fu (1,t)=Z r/\r.Perm t/\(Od3 c S->r.Pairwise λa b=>¬c b a<0):=by
 cases t with
 |nil=>
  refine zU (λx:J×wF α=>x=(1,[])) (λ_=>0) _ ?_ fu _ O W;rintro x L rfl k;exact⟨[],O,xdD _,λ_=>List.Pairwise.nil⟩
 |cons z t=>
  refine zU (λx:J×wF α=>∃s rest,x=((X s:J),s++rest)/\(s++rest).Perm (z::t)/\(Od3 c S->s.Pairwise λa b=>¬c b a<0)) (λx=>X (z::t)-x.1.toNat) _ ?_ fu _ ⟨[z],t,O,xdD _,λ_=>List.pairwise_singleton _ _⟩ (by show(z::t).length-1<fu;lia);rintro x L ⟨s,rest,rfl,f,l⟩ k;unfold iB0;simp only;have hl:=f.length_eq;rw[xau]at hl;have m:∀y∈s++rest,S y:=λy e=>p y<|f.mem_iff.1 e
  cases rest with
  |nil=>
   rw[P<|by simp at hl;simp;lia];rw[xbo]at f;exact⟨s,by rw[xbo],f,l⟩
  |cons x rest=>
   rw[xaw]at hl;rw[yg];have g:∀y∈s,S y:=λy e=>m y<|xdU _ e;have i:S x:=m x m7;obtain⟨r,e1,r1,r2,rfl,rfl,u,v⟩:=zp6 (fu:=fu) (d:=d) (N:=(X (z::t):J)) (rest:=rest) hc g i (by rw[xau,xaw];lia) q;rw[Y e1];simp only;rw[zb];have A:(r1++x::(r2++rest)).Perm (r1++r2++x::rest):=by rw[xas];refine xbp r1 ?_;rw[<-xbP];have:(x::r2++rest).Perm (r2++x::rest):=xce.symm;exact this
   refine k _ ⟨r1++x::r2,rest,?_,?_,λj=> ?_⟩ ?_;rw[show((X (r1++x::r2):K):J)=(X (r1++r2):J)+1 by simp;lia,xas,xbP];rw[xas,xbP];exact A.trans f
   have hp:=xdu.1<|l j;have hd:∀y∈r1,¬c x y<0:=λy e=>by
    obtain⟨a,w,rfl⟩:=zcu<|xft e;have n:=v a w O;obtain h|h:=xab.1 e
    have B:=xdu.1 hp.1;exact j.tr y w x (g y<|by simp[h]) (g w m7) i (B.2.2 y h w m7) n;rw[xaf.1 h];exact n
   refine xdu.2 ⟨hp.1,xdo.2 ⟨λy e=>j.an x y i (g y<|by simp[e])<|u y e,hp.2.1⟩,λa o b hb=> ?_⟩;obtain rfl|hb:=xal.1 hb
   exact hd a o;exact hp.2.2 a o b hb;show(z::t).length-((X (r1++r2):J)+1).toNat<X (z::t)-(X (r1++r2):J).toNat;lia
end
def GR{fu:K}{cmp:N J->N J->V J}{c:N J->N J->J}{S:N J->Prop}(hc:∀x y,S x->S y->cmp x y=Z (c x y)){t:N (N J)}(d:∀y∈t,S y)(hn:X t<=12)(h:3000001<=fu):
 ∃r,wv fu t cmp=Z r/\r.Perm t/\(Od3 c S->r.Pairwise λa b=>¬c b a<0):=by
 obtain⟨g,rfl⟩:∃g,fu=g+2:=⟨fu-2,W⟩;obtain⟨r,h1,e,f⟩:=zfv (fu:=g+1) hc d;refine⟨r,?_,e,f⟩;unfold wv uK;rw[F,Y<|Y<|jx<|by unfold E4;lia];refine Y<|Y ?_;rw[ux];unfold jF;simp only;rw[zb,yg];refine Y ?_;exact Y h1
def NX{fu:K}{cmp:N U->N U->V J}{c:N U->N U->J}{S:N U->Prop}(hc:∀x y,S x->S y->cmp x y=Z (c x y)){t:N (N U)}(d:∀y∈t,S y)(hn:X t<=12)(h:3000001<=fu):
 ∃r,yP fu t cmp=Z r/\r.Perm t/\(Od3 c S->r.Pairwise λa b=>¬c b a<0):=by
 obtain⟨g,rfl⟩:∃g,fu=g+2:=⟨fu-2,W⟩;obtain⟨r,h1,e,f⟩:=zfv (fu:=g+1) hc d;refine⟨r,?_,e,f⟩;unfold yP uK;rw[F,Y<|Y<|jx<|by unfold E4;lia];refine Y<|Y ?_;rw[ux];unfold qj;simp only;rw[zb,yg];refine Y ?_;exact Y h1
end
section
variable{p:wN}{m a:wF wN}{fu:wP}
def oT{p:J}:∀{l1 c:N R},List.Sublist l1 c->(∀w∈c,Fs w)->Di p (prZ l1) (prZ c)
 |_,_,.slnil,_=>Di.refl _ _
 |_,_,.cons a h,b=>Di.mul a (b a<|IR)<|oT h λw d=>b w<|FS _ d
 |_,_,.cons_cons a h,b=>by
  obtain⟨q,fq,hc⟩:=oT h λw d=>b w<|FS _ d;refine⟨q,fq,((Cg.rfl).mul hc).trans<|Cg.of ?_⟩;exact zG _ _ _
def Fs.dvp{f:R}(h:Fs f):Fs (dvp f):=by have⟨n,hn⟩:=h;exact⟨n,λk b=>by show _*f (k+1)=0;rw[hn _ W,xaz]⟩
def kM.sq(hp:2<=p){u:N J}(c:QY p u)(hc:kM p (C m) (dvp<|C m))(h:Di p (C u*C u) (C m)):UT:=by have⟨q,fq,b⟩:=h;have h1:Di p (C u) (C m):=⟨q*C u,fq.mul<|Fs.ci u,b.trans<|Cg.of (zd _ _ _).symm⟩;have d:Di p (C u) (dvp<|C m):=⟨dvp q*C u+(q*dvp (C u)+q*dvp (C u)),(fq.dvp.mul<|Fs.ci u).add<|(fq.mul (Fs.ci u).dvp).add<|fq.mul (Fs.ci u).dvp,(zi0 b).trans<|Cg.of<|by rw[KJ,KJ,yY,yY,zd,zd,wM,zm (C u)<|dvp<|C u]⟩;have⟨s,t,fs,e,f⟩:=hc;exact c.ne hp<|(Di.add (Di.mul s fs h1)<|Di.mul t e d).cg f
def zrb(hp:qO p=qR)(e:vF p m)(hl:X m<=290)(hc:kM p (C m) (dvp<|C m)):∃us,Sf p m us:=by have⟨i,j⟩:=zB hp;have⟨us,h1,f⟩:=zqA hp (X m) O hl e;refine⟨us,hp,e,hl,λu g=>⟨(h1 u g).1,by have:=(h1 u g).2;lia⟩,?_,f⟩;refine xdy.2 λ{a b} c=> ?_;have d:a∈us:=c.subset m7;have h:b∈us:=c.subset m7;refine(h1 a d).1.cop hp (h1 b h).1 (by have:=(h1 a d).2;lia) (by have:=(h1 b h).2;lia) λhd=> ?_;subst hd;have:=oT (p:=p) (c.map C) cr;refine kM.sq i (h1 a d).1 hc<|(Di.cg ?_ f.symm);refine Di.trans ?_ this;refine⟨D 1,Fs.pc 1,Cg.of ?_⟩;show C a*(C a*D 1)=_;rw[yu,zE]
def sU(hp:qO p=qR)(c:vF p m)(hl:X m<=290)(d:3000000<=fu):∃b,jH fu m p=Z (m,0)/\Xn fu m p=Z (b,0)/\(b=qR↔kM p (C m) (dvp<|C m)):=by
 have⟨f,n⟩:=zB hp;have hd:=c.ln;have⟨x,x0,i,e,e1⟩:=W5 (fu:=fu) hp c.fm c.ln W d;rw[c.top,xcU,xaJ W i]at e;subst e;rw[zfR W c.fm]at e1;have⟨g,s,t,g1,j,k⟩:=Ks (fu:=fu) hp c.fm (zgd (p:=p) W m) W (by have:=zoa p m;lia) d;have l:kM p (C m) (dvp<|C m)↔X g=1:=by rw[zcp f j k];exact⟨λh=>h.congr Cg.rfl (zg3 p m).symm,λh=>h.congr Cg.rfl<|zg3 p m⟩
 refine⟨decide<|X g=1,e1,?_,by rw[l];exact decide_eq_true_iff⟩;unfold Xn JA;rw[Y e1];simp only[Xs];rw[zF,Y O];simp only[Xs];rw[Y<|tI hp c.fm W d];simp only;rw[Y g1];simp only;by_cases hc:X g=1
 simp_all;rw[zF,WF hc]
theorem tK(hp:qO p=qR)(e:Fp p a)(h0:0<X a)(hl:X a<=65)(f:3000000<=fu):
 ∃m b,zeT p a m/\vF p m/\Xn fu m p=Z (b,0)/\(b=qR↔kM p (C m) (dvp<|C m))/\uW fu a p=if b=qR then Z (m,0)else Z ([],1):=by
 have⟨g,k⟩:=zB hp;have⟨x,x0,d,h,e1⟩:=W5 hp e h0 W f;have c:=SZ g e h0 h;have⟨m,hc⟩:∃m,m=xM p a [x]:=⟨_,O⟩;rw[<-hc]at c e1;have hd:=c.ln;have i:vF p m:=⟨c.fm,W,c.top⟩;have⟨b,_,b1,b2⟩:=sU hp i W f;unfold uW bE;have j:(G (jH fu a p) λ(t1,d)=>if d=(0:J)then if(X t1:J)=(0:J)then Z (([],(8:J)))else if(65:J)<(X t1:J)then Z (([],6))else Z ((t1,0))else Z ([],d))=Z (m,0):=by rw[Y e1];grind
 rw[Y j];simp only;rw[Y b1];grind
def lN{b:N J}(j:X a<=1000)(l:X b<=1000)(n:3000000<=fu):∃c,vL fu a b=Z c:=by
 unfold vL;by_cases h:X a=X b;rw[yg,zb];have⟨r,e,_⟩:=zU (f:=WV fu a b) (λi:J=> -1<=i/\i<X a) (λi=>(i+1).toNat) (λ_=>Ws) (by
  rintro i L ⟨h1,o⟩ g;unfold WV;by_cases d:0<=i;obtain⟨k,rfl⟩:=xaE d;rw[E d,yn,F,yn,F];split;simp_all;rw[yn,F,yn,F];split;simp_all;rw[zb];exact g _ ⟨W,W⟩ W
  rw[P d];exact⟨_,O,ul⟩) fu ((X a:J)-1) ⟨W,W⟩ W
 rw[Y e]
 cases r with
 |inl _=>exact⟨_,O⟩
 |inr i=>exact⟨i,O⟩
 rw[zF,zb];exact⟨_,O⟩
def Sc{l1 b:N R}(h:l1.Perm b):prZ l1=prZ b:=by
 induction h with
 |nil=>rfl
 |cons x _ c=>show x*prZ _=x*prZ _;rw[c]
 |swap x y l=>show y*(x*prZ l)=x*(y*prZ l);rw[zG]
 |trans _ _ h1 d=>rw[h1,d]
def Rl.take{l:N J}(h:Rl l)(n:K):Rl (l.take n):=λk=>by
 by_cases b:k<n;have:C (l.take n) k=C l k:=by show(l.take n).getD k 0=l.getD k 0;simp_all
 rw[this];exact h k;rw[yB<|by rw[xan];lia];exact⟨W,W⟩
def BD{P:K}{ds:N J}(hp:qO (P:J)=qR)(L:Fp (P:J) a)(h0:1<X a)(hl:X a<=13)(hd:Rl ds)(hn:X ds<=1000)(o:3000001<=fu){b:uS}(q:zeT (P:J) a m)(k:vF (P:J) m)(s:uW fu a P=Z (m,0))(hc:kM (P:J) (C m) (dvp<|C m)):
 ∃l us,Xz fu a P ds=Z (l,0)/\Sf (P:J) m us/\Pl (P:J) m l/\∀g∈l,QY (P:J) g:=by
 have⟨M,Q⟩:=zB hp;have R:=q.ln;have⟨us,e⟩:=zrb hp k W hc;have⟨bs,e1,b1,b2,b3,n,c,u⟩:=BN (fu:=fu) (w:=X m-1) hp k W W W W;have T:=n.le e;have hi:Rl (ds.take<|min (X ds) 64):=hd.take _;have⟨l,z,d,A⟩:=tM (fu:=fu) (bs:=bs) (ds:=ds.take<|min (X ds) 64) e W W O b1 W hi (by rw[xan];lia) (λv hv=>⟨(b3 v hv).1,by have:=(b3 v hv).2;lia⟩) W;have B:=Pl.done e n d ⟨c,u⟩ A;have⟨vs,v1,D,v3⟩:=e.pick d.mn<|(Di.refl _ _).cg d.pr.symm;have ht:=eY D λv hv=>(v3 v hv).1;have G:∀g∈l,X g<=290:=λg f=>e.len (d.mn g f).1<|d.dv f;have⟨r,H,h,_⟩:=GR (fu:=fu) (cmp:=λi j=>vL fu i j) (c:=λx y=>(vL fu x y).getD 0) (S:=λx=>X x<=290) (λx y U V=>by
  have⟨c,hc⟩:=lN (fu:=fu) (a:=x) (b:=y) W W W;show vL fu x y=Z ((vL fu x y).getD 0);rw[hc];rfl) (t:=l) G W o
 refine⟨r,us,?_,e,⟨λg f=>d.mn g<|h.mem_iff.1 f,d.pr.trans ?_⟩,λg f=>B g<|h.mem_iff.1 f⟩;unfold Xz;rw[Y s];simp only;rw[E ul,zF,Y e1,F,(W:min (X ds:J) 64=((min (X ds) 64:K):J)),yH,y9,F,Y z,Y H];exact Cg.of<|Sc<|h.symm.map C
end
section
variable{K fu:wP}{a:wF Zr}
def WG(f:wP->J):wP->wP
 |0=>0
 |n+1=>xdx (WG f n) (f n).natAbs
def Ei(f:wP->J):∀n k,k<n->WG f n∣(f k).natAbs
 |0,k,h=>kW h<|xbc _
 |n+1,k,h=>by
  by_cases e:k=n;rw[e];exact xdZ _ _;exact Nat.dvd_trans (xfJ _ _)<|Ei f n k W
theorem Cy(f:wP->J){K:wP}(h:∀k,Bz K<|f k):∀n,WG f n<18446744073709551616^K
 |0=>xaS m6
 |n+1=>by
  show xdx (WG f n) (f n).natAbs<_;by_cases e:WG f n=0
  rw[e,Nat.gcd_zero_left];exact h n;exact xaI (Nat.gcd_le_left _ W)<|Cy f h n
def yF(a:N U):J:=if M (yx a) (X (yx a)-1)<0 then-((WG (M a) (X (yx a)):wP):J)else((WG (M a) (X (yx a)):wP):J)
def bH(a:N U):yx a=w8 (X (yx a)) (M<|yx a):=Jk _ _
def zkI(a:N U):yx (yx a)=yx a:=(bH a).symm
theorem Fm(h:xf K a):Bz K (yF a):=by grind [yF,Cy,xf.bz,Bz.nat,Bz.neg]
theorem WH(a:N U)(k:wP):yF a∣M a k:=by
 have h:((WG (M a) (X (yx a)):wP):J)∣M a k:=by
  by_cases b:k<X (yx a);exact xcq.1<|by skip;exact Ei (M a) _ k b
  rw[<-Yu,yq W];exact xdI _
 unfold yF;split;simp_all;exact h
def o9(h:X (yx a)≠0):yF a≠0:=by intro e;have h1:=X3 (bH a) h;rw[Yu]at h1;have b:=WH a<|X (yx a)-1;simp_all
def uu(c:xf K a)(g:K<=9999:=by lia)(hl:X a<=1000000:=by lia)(b:3000000<=fu:=by lia):qe fu a=Z (yK<|yF a):=by
 unfold qe;have hn:=gI c;have hd:=ZZ a;have hc:=Cy (M a) c.bz;rw[Y<|zM c W hl b,show w8 (X a) (M a)=yx a from O,Y<|yw m6 b,Y (v:=(yx a,(I,[]),yK ((WG (M a) (X (yx a)):wP):J)))];simp only;by_cases h0:X (yx a)=0
 rw[zF];unfold yF;rw[h0];show Z (yK ((0:wP):J))=Z (yK (if M (yx a) 0<0 then-(((0:wP):J))else((0:wP):J)));simp_all;rw[yg,(W:((X (yx a):wP):J)-1=((X (yx a)-1:wP):J)),zb,yn,F,CY<|bH a];unfold yF;by_cases h1:M (yx a) (X (yx a)-1)<0;rw[E<|(Ji _).2 h1,E h1,Y<|U1 ((Bz.nat<|hc _).ok W) b,zt];rw[P<|λe=>h1<|(Ji _).1 e,P h1];refine zC (λs:J×N U×U×U=>∃i:wP,i<=X (yx a)/\s=((i:J),yx a,(I,[]),yK ((WG (M a) i:wP):J))) (λs=>X (yx a)-s.1.toNat) _ ?_ _ _ ⟨0,xah _,O⟩ (by show(yx a).length-0<fu;lia);rintro s L ⟨i,hi,rfl⟩ f;unfold Uk;simp only;by_cases h:i<X (yx a);have d:=hn.get i;rw[yg,Y O];simp only[Xs];rw[zp h,F,Y<|UQ (yJ _) d.1 (Bz.nat<|hc i).len d.2 W b,zt,xaH,Qi,Yu,zb];exact f _ ⟨i+1,W,O⟩ (by show(yx a).length-((i:J)+1).toNat<X (yx a)-(i:J).toNat;lia);rw[zF,Y O];simp only[xam,Z9];obtain rfl:i=X (yx a):=W
 rfl
def zdD(a:N U):yF (yx a)=yF a:=by unfold yF;rw[zkI,show M (yx a)=M a from Z0 (Yu a)]
def nT(b:xf K a)(g:K<=9999)(hl:X a<=1000000)(c:3000000<=fu):YO fu a=Z (yK<|yF a):=by
 unfold YO;have hn:=gI b;have hd:=ZZ a;have hc:=Cy (M a) b.bz;rw[Y<|qg b W hl c,show w8 (X a) (M a)=yx a from O,Y (mZ m6),Y (v:=yK ((WG (M a) (X (yx a)):wP):J))];by_cases h0:X (yx a)=0
 rw[zF];unfold yF;rw[h0];show Z (yK ((0:wP):J))=Z (yK (if M (yx a) 0<0 then-(((0:wP):J))else((0:wP):J)));simp_all;rw[yg,(W:((X (yx a):wP):J)-1=((X (yx a)-1:wP):J)),zb,yn,F,CY<|bH a];unfold yF;by_cases h1:M (yx a) (X (yx a)-1)<0;rw[E<|(Ji _).2 h1,E h1,Y<|Ee ((Bz.nat<|hc _).ok W) c,zt];rw[P<|λe=>h1<|(Ji _).1 e,P h1];refine zC (λs:J×U=>∃i:wP,i<=X (yx a)/\s=((i:J),yK ((WG (M a) i:wP):J))) (λs=>X (yx a)-s.1.toNat) _ ?_ _ _ ⟨0,xah _,O⟩ (by show(yx a).length-0<fu;lia);rintro s L ⟨i,hi,rfl⟩ f;unfold K5;simp only;by_cases h:i<X (yx a);have d:=hn.get i;rw[yg,zp h,F,Y<|EE (yJ _) d.1 (Bz.nat<|hc i).len d.2 W c,zt,xaH,Qi,Yu,zb];exact f _ ⟨i+1,W,O⟩ (by show(yx a).length-((i:J)+1).toNat<X (yx a)-(i:J).toNat;lia);rw[zF];obtain rfl:i=X (yx a):=W
 rfl
def xa(a:N U):N U:=w8 (X a)<|λk=>M a k/yF a
theorem YC(a:N U)(k:wP):M (xa a) k=M a k/yF a:=km (λk b=>by rw[yq b,xet]) k
def Fg(h:xf K a):xf K (xa a):=xp λk=>(h.bz k).le<|xbD _ _
theorem zof{x c:J}(hd:c∣x)(b:x≠0):x/c≠0:=λe=>by
 have:=Int.ediv_mul_cancel hd;simp_all
theorem Ye(a:N U):X (xa a)=X (yx a):=by grind [yx,xa,xJ,Ux,jc,QB,zof,WH,QS,xet]
theorem zjh(a:N U):xa a=zi (X (yx a)) (λk=>M a k/yF a):=by grind [w8,xa,Ye,xJ]
def qd(b:xf K a)(d:K<=9999:=by lia)(hl:X a<=1000000:=by lia)(c:3000000<=fu:=by lia):wq fu a=Z (xa a):=by unfold wq;have hn:=gI b;have hd:=ZZ a;have hc:=Fm b;rw[Y<|uu b d hl,Y<|zM b W hl c,show w8 (X a) (M a)=yx a from O,Y<|Cn W W λj e=> ?_,zjh];unfold JY;rw[Y<|uI (hn.okS W j) (hc.okS W) c,zt,Qi,Yu];unfold exI;rw[P (o9 W),E<|xax<|WH a j]
def PC(c:xf K a)(S:K<=9985)(hl:X a<=1000)(h0:X (yx a)≠0)(f:3000000<=fu):Ub fu (yx a) [yK<|yF a]=Z (xa a,0):=by
 unfold Ub;have hn:=gI c;have T:=ZZ a;have hc:=Fm c;have i:=o9 h0;have w:=hc.len;have l:xf K [yK<|yF a]:=λz o=>by
  obtain rfl:=xaf.1 o;exact⟨yJ _,w⟩
 have x:w8 [yK<|yF a].length (M [yK<|yF a])=[yK<|yF a]:=by show w8 1 _=_;unfold w8;rw[show dg (M [yK<|yF a]) 1=1 from eF (m:=0) (by show zv (yK<|yF a)≠0;rw[zt];exact i)];show[yK<|zv<|yK<|yF a]=_;rw[zt]
 have r:∀k,M [yK<|yF a] k=if k=0 then yF a else 0:=λk=>by
  by_cases b:k=0
  rw[E b,b];exact zt _;rw[P b];exact yq<|by simp;lia
 rw[Y<|qg l W m7 f,x,P (m7:¬((X ([yK<|yF a]:N U):wP):J)=0),Y<|qg hn W W f,show w8 (X (yx a)) (M<|yx a)=yx a from(bH a).symm];have⟨n,ht⟩:∃n,n=X a:=⟨_,O⟩;rw[Y (v:=.inl<|xa a)];refine zC (λs:N U×N U×N U=>∃m:wP,m<=n/\s=([yK<|yF a],w8 m<|M a,w8 n (λk=>if m<=k then M a k/yF a else 0))) (λs=>X s.2.1) _ ?_ _ _ ⟨n,Nm _,?_⟩ (by show(yx a).length<fu;lia)
 rintro s L ⟨m,V,rfl⟩ y;unfold lZ;simp only;have hJ:=jc (M a) m;have h:X (w8 m<|M a)=dg (M a) m:=xJ _ _;have A:∀k,M (w8 m<|M a) k=if k<m then M a k else 0:=λk=>by
  have e:w8 m (M a)=w8 m (λk=>if k<m then M a k else 0):=WY λk b=>by rw[E b]
  rw[e,km λk b=>zF]
 by_cases h1:0<dg (M a) m;have⟨d,hd⟩:∃d,dg (M a) m=d+1:=⟨dg (M a) m-1,W⟩;have hH:M a d≠0:=by have:=QS (M a) m W;rw[hd]at this;exact this
 have B:(w8 m<|M a).getD d (I,[])=yK (M a d):=by unfold w8;rw[hd];exact YR W
 have hv:exI (M a d) (yF a)=M a d/yF a:=by unfold exI;rw[P i,E<|xax<|WH a d]
 have C:exE (M a d) (yF a)=0:=by unfold exE;rw[P i,E<|xax<|WH a d]
 have D:Bz K (M a d/yF a):=(c.bz d).le<|xbD _ _;have hp:So d (I,[])++[yK<|M a d/yF a]=zi (d+1) (mono d<|M a d/yF a):=by
  rw[aZ,<-CL];congr 1;exact xe λk b=>by unfold mono;rw[zF]
  unfold mono;rw[E O]
 have q:xf K (zi (d+1)<|mono d<|M a d/yF a):=Xy λj=>by
  unfold mono;split;exact D;exact Bz.zero _
 have G:xf K (w8 n (λk=>if m<=k then M a k/yF a else 0)):=xp λj=>by
  split;exact(c.bz j).le<|xbD _ _;exact Bz.zero _
 have hL:X (w8 n (λk=>if m<=k then M a k/yF a else 0))<=n:=by rw[xJ];exact jc _ _
 have H:xf K (w8 m<|M a):=xp c.bz;have t:=XR q l;have u:=uC (zi (d+1)<|mono d<|M a d/yF a) [yK<|yF a];rw[yA]at u t;rw[E (by rw[h];lia),h,hd,show(X ([yK<|yF a]:N U):wP)=1 from O,(W:((d+1:wP):J)-((1:wP):J)=(d:J)),zb,(W:((d+1:wP):J)-1=(d:J)),zb,yn,F,B,show((1:wP):J)-1=((0:wP):J)by rfl,zb,yn,F,show([yK<|yF a]:N U).getD 0 (I,[])=yK (yF a)from O,Y<|AK ((c.bz d).okS W) (hc.okS W) f,zt,zt,hv,C];simp only[Xs];rw[zF,yH,y9,F,va (by simp;lia),F,hp,Y<|gl G q W W (by rw[yA];lia) f,Y<|Fj q l (by rw[yA];lia) m7 f,Y<|Ef (k:=K+K+(d+1)) (H.mono W) t W W (by simp at u;lia) f];have e1:bn (w8 m<|M a) (xg (zi (d+1)<|mono d<|M a d/yF a) [yK<|yF a])=w8 d (M a):=by
  unfold bn;have Q:w8 d (M a)=w8 d (λk=>if k<d then M a k else 0):=WY λk b=>by rw[E b]
  rw[Q];refine XL (λk b=>by rw[yq W,yq W];rfl) (λk b=>zF) λk=> ?_;rw[zdM,A];unfold Su;by_cases b:k<d;rw[yg,E b,zF,xaz,xdk];rw[P b];by_cases hi:k=d;subst hi;rw[yg,E<|Nm _,r,yg,Int.ediv_mul_cancel<|WH a k];lia;have o:(if k<m then M a k else 0)=0:=by
   split;exact QB (M a) m k W W
   rfl
  rw[o,yg,r,zF,xaz];rfl
 have R:w8 (max (X (w8 n (λk=>if m<=k then M a k/yF a else 0))) (X (zi (d+1)<|mono d<|M a d/yF a))) (λj=>M (w8 n (λk=>if m<=k then M a k/yF a else 0)) j+M (zi (d+1)<|mono d<|M a d/yF a) j)=w8 n (λk=>if d<=k then M a k/yF a else 0):=by refine XL (λk b=>by rw[yq W,yq W];rfl) (λk b=>by rw[yq (p:=a) W,xet,ite_self]) λk=> ?_;rw[km (λk b=>by rw[yq (p:=a) W,xet,ite_self]),K0<|λk b=>by unfold mono;rw[zF]];unfold mono;by_cases b:k<d;rw[P (W:¬m<=k),P (W:¬k=d),P (W:¬d<=k)];rfl;by_cases hi:k=d;subst hi;rw[P (W:¬m<=k),E O,E<|Nm _,xcO];rw[P hi,E (W:d<=k),xcc];by_cases g:m<=k;rw[E g];rw[P g,QB (M a) m k W W,xet]
 show L ([yK<|yF a],_,_)=_;rw[e1,R];exact y _ ⟨d,W,O⟩ (by show(w8 d<|M a).length<X (w8 m<|M a);rw[h,xJ];have:=jc (M a) d;lia);rw[P<|by rw[h];lia];congr 2;unfold xa;rw[<-ht];refine WY λk b=> ?_;by_cases g:m<=k;rw[E g];rw[P g,QB (M a) m k W W,xet];rw[ht];congr 2;have e:w8 (X a) (λk=>if X a<=k then M a k/yF a else 0)=w8 (X a) (λ_=>0):=WY λk b=>zF;rw[e];have:dg (λ_=>(0:J)) (X a)=0:=Ux (xah _) (λ_ _ _=>O) (.inl O);unfold w8;rw[this];rfl
def BR(b:xf K a)(d:K<=9985)(hl:X a<=1000)(c:3000000<=fu):Jg fu a=Z (xa a):=by
 unfold Jg;have hc:=ZZ a;rw[Y<|qg b W W c,show w8 (X a) (M a)=yx a from O];by_cases h0:X (yx a)=0
 skip;have:=Ye a;simp_all;rw[zF,Y<|nT (gI b) W W c,zdD,Y<|PC b d hl h0 c]
end
section
variable{a:wF Zr}{fu K:wP}{s:wN}
def zkx{x:wP}:x/2^1=x/2:=by rw[Nat.pow_one]
def zkJ{n:wP}(h:0<n):bl (n/2)<bl n:=by rw[dN h];omega
def zcz{a b:wP}(h:a<=b):bl a<=bl b:=ae<|xaI h<|DS b
def zjw{y:J}(b:Bz K y)(d:K<=10000)(c:3000000<=fu):zg (Vn fu 2<|yK y) fu (2,yK s,0,yK 1)=Z (2,yK s,yK<|y*y):=by
 have⟨n,hn⟩:∃n,fu=n+3:=⟨fu-3,mT⟩;have h:zg (Vn fu 2<|yK y) (n+3) (2,yK s,0,yK 1)=Z (2,yK s,yK<|y*y):=by have b1:=Bz.one'<|Nm _;rw[ux];unfold Vn;simp only;rw[Y<|ya (b1.ok m6) (b.ok mT) c,zt,zt,xdh,vO m6,ux];simp only;rw[Y<|ya (b.ok mT) (b.ok mT) c,zt];rfl
 simp_all
def DH(v:0<=s)(k:Bz K s)(M:K<=1000)(j:3000000<=fu):∃r:wP,KO fu (yK s) 2=Z (yK (r:J),0)/\Bz (K+1) (r:J)/\r*r<=s.toNat/\s.toNat<(r+1)*(r+1):=by
 unfold KO;obtain⟨S,rfl⟩:=xaE v;have N:=k.len;have hv:bl S<=64*K:=zep (by unfold Bz at k;rwa[xaH]at k);have hn:A (yK (S:J)).2=S:=by show A (yM<|(S:J).natAbs)=S;rw[zY,xaH]
 have w:xdC ((bl S:wP):J) 2=((bl S/2:wP):J):=by rw[xfa mT];omega
 have o:bl S/2<=32*K:=mT
 have x:min (((bl S/2:wP):J)+1) (262144:J)=((bl S/2+1:wP):J):=mT
 rw[P m6,P m6,Y<|xi (k.ok mT) j,zt,P (λe=>by
  unfold kK at e;rw[zF]at e;split at e<;>exact kW e m6),Y (yw m6 j),Y (Vz (yJ _) mT mT),hn,va m6,w,zb,zb,F,x,Y (Js (a:=[1]) (zn.cons m6 zn.nil) m6 mT mT)]
 simp only;have⟨g,m⟩:∃g,g=1*2^(bl S/2+1):=⟨_,O⟩;have n:g<18446744073709551616^(K+1):=by rw[m,xcH,(m6:(18446744073709551616:wP)=2^64),<-xbM];exact xez m6 mT
 have Q:1<=g:=by rw[m,xcH];exact xaS m6
 have ht:=zep n;have y:S<g*g:=by refine xac (DS S) ?_;rw[m,xcH,<-xbd];exact xai m6 mT
 rw[show A [1]=1 from O,<-m,Y<|yQ (zw _) (by have:=(zN (K+1) g).2 n;omega) (by have:=(zN (K+1) g).2 n;omega),zY,P m6];obtain⟨r,l1,R,rfl,T,hp,B⟩:=zU (f:=UR fu (yK (S:J)) 2) (λz:U×U×U=>∃lo hi:wP,z=((I,[]),yK (lo:J),yK (hi:J))/\lo<hi/\hi<=g/\lo*lo<=S/\S<hi*hi) (λz=>bl<|(zv z.2.2).natAbs-(zv z.2.1).natAbs-1) (λr=>∃R:wP,r=yK (R:J)/\R<=g/\R*R<=S/\S<(R+1)*(R+1)) (by
  rintro z L ⟨lo,hi,rfl,h1,o,i1,i2⟩ p;unfold UR;simp only;have i:Bz (K+1) (lo:J):=Bz.nat mT;have l:Bz (K+1) (hi:J):=Bz.nat mT;have C:A (yK<|(lo:J)+(hi:J)).2=lo+hi:=by show A (yM<|((lo:J)+(hi:J)).natAbs)=lo+hi;rw[zY];omega
  have q:=(i.add l).len;have c:Bz (K+1) (((lo+hi)/2:wP):J):=Bz.nat mT;have V:X (yM<|(lo+hi)/2)<=K+1:=(zN _ _).2 mT;rw[Y<|qH (i.ok mT) (l.ok mT) j,zt,zt,show(1:J)=((1:wP):J)from O,Y (sF (yJ _) mT m6 mT),C,zkx,Y (yQ (zw _) mT mT),zY,P m6,Y<|YE (c.ok mT) (i.ok mT) j (by have:=c.len;omega) (by have:=i.len;omega),zt,zt];by_cases t:(lo+hi)/2=lo;rw[E<|xU.2 mT];obtain rfl:hi=lo+1:=mT
  exact⟨_,O,lo,O,mT,i1,i2⟩;rw[P<|λe=>t (by have:=xU.1 e;omega),show(((1:wP):J))=1 from O,Y<|yw m6 j,Y<|zjw c mT j];simp only;have D:=(c.mul c).len;rw[Y<|YE ((c.mul c).ok mT) (k.ok mT) j mT mT];have hd:0<hi-lo-1:=mT
  have u:∀d,d<=(hi-lo-1)/2->bl d<bl (hi-lo-1):=λd G=>xaI (zcz G)<|zkJ hd;have⟨b,H⟩:∃b,b=(lo+hi)/2:=⟨_,O⟩;rw[<-H]at t⊢;have hl:kK ((b:J)*(b:wP)) (S:J)<=0↔b*b<=S:=by rw[(m7:(b:J)*(b:wP)=((b*b:wP):J))];unfold kK;split;exact⟨λ_=>by omega,λ_=>by decide⟩;split;exact⟨λh=>kW h m6,λh=>by omega⟩;exact⟨λ_=>by omega,λ_=>by decide⟩
  by_cases hc:b*b<=S;rw[zt,zt,E<|hl.2 hc];exact p _ ⟨_,hi,O,mT,o,hc,i2⟩<|by simp only[zt,xaH];exact u _ mT
  rw[zt,zt,P λh=>hc<|hl.1 h];exact p _ ⟨lo,_,O,mT,mT,i1,mT⟩<|by simp only[zt,xaH];exact u _ mT) fu ((I,[]),yK 0,yK (g:J)) ⟨0,g,O,mT,Nm _,xah _,y⟩ (by
  simp only[zt,xaH];have:=zcz (mT:g-Int.natAbs 0-1<=g);omega)
 rw[Y l1];exact⟨R,O,Bz.nat mT,by rw[xbb];exact hp,by rw[xbb];exact B⟩
def Hh(a:N U):J:=if(yx a).length=0 then 8 else if 65<X (yx a) then 6 else 0
theorem dm(b:xf K a)(c:K<=40000)(hl:X a<=1000000)(d:3000000<=fu):XC fu a=Z (Hh a):=by grind [XC,Hh,yx,Y,zM]
def td(f:wP->J)(n:wP):J:=ye n<|λk=>f k*f k
def Xd(x:J):0<=x*x:=by
 obtain h|h:=Int.le_total 0 x
 exact xcB h h;exact Int.mul_nonneg_of_nonpos_of_nonpos h h
def nK(f:wP->J):∀n,0<=td f n
 |0=>xfV _
 |n+1=>Int.add_nonneg (nK f n)<|Xd _
theorem ziq{f:wP->J}(h:∀k,Bz K<|f k):∀n,n<=18446744073709551615->Bz (K+K+1) (td f n):=by
 have h1:∀n:wP,(td f n).natAbs<=n*18446744073709551616^(K+K):=by
  intro n
  induction n with
  |zero=>exact xah _
  |succ n d=>
   have c:(td f<|n+1).natAbs<=(td f n).natAbs+(f n*f n).natAbs:=Int.natAbs_add_le _ _;have b:=(h n).mul<|h n;unfold Bz at b;grind
 intro n hn;unfold Bz;have c:=h1 n;have hp:0<18446744073709551616^(K+K):=xaS m6;have b:n*18446744073709551616^(K+K)<=18446744073709551615*18446744073709551616^(K+K):=xag _ hn;omega
def My{f:wP->J}:∀{n},(∃k,k<n/\f k≠0)->1<=td f n
 |0,⟨k,h,_⟩=>kW h<|xbc _
 |n+1,⟨k,h,b⟩=>by
  show 1<=td f n+f n*f n;have h1:=nK f n;have d:=Xd<|f n;by_cases e:k=n
  have g:f n*f n≠0:=λc=>by
   obtain h4|h4:=xeU.1 c<;>exact b<|by rw[e];exact h4
  omega;have:=My (n:=n) ⟨k,mT,b⟩;omega
def cR(c:xf K a)(p:K<=300)(hl:X a<=1000000)(b:3000000<=fu):∃y,vE fu a=Z (y,Hh a)/\(Hh a=0->∃r:wP,y=yK (((r+1)*2^(X (yx a)-1):wP):J)/\r*r<=(-1+td (M a) (X (yx a))).toNat/\(-1+td (M a) (X (yx a))).toNat<(r+1)*(r+1)):=by
 unfold vE;rw[Y<|dm c mT hl b];by_cases h0:Hh a=0
 have hc:X (yx a)≠0/\X (yx a)<=65:=by
  unfold Hh at h0;split at h0;cases h0
  omega
 have hn:=gI c;have e:=λn hn=>ziq (K:=K) (f:=M a) c.bz n hn;have q:=My (f:=M a) (n:=X (yx a)) ⟨X (yx a)-1,mT,by have:=X3 (bH a) hc.1;rwa[Yu]at this⟩;have hd:∀n,n<=18446744073709551615->Bz (K+K+1+1) (-1+td (M a) n):=λn hn=>by
  have:=(e n hn).add (Bz.one (k:=K+K+1) mT);rwa[Int.add_comm]at this
 rw[E h0,Y<|zM c mT hl b,show w8 (X a) (M a)=yx a from O,Y<|yw m6 b,Y (v:=(yx a,(I,[]),yK (-1+td (M a) (X (yx a)))))];simp only;have⟨r,r1,r2,g,l⟩:=DH (fu:=fu) (s:= -1+td (M a) (X (yx a))) mT (hd _ mT) mT b;have b1:Bz 1 1:=Bz.one'<|Nm _;have b2:=(r2.add<|b1.mono (by omega:1<=K+K+1+1+1)).len;rw[Y r1];simp only;rw[Y<|yw m6 b,Y<|qH (r2.ok mT) (b1.ok m6) b,zt,zt,(mT:((X (yx a):wP):J)-1=((X (yx a)-1:wP):J)),zb,Y<|Js (yJ _) mT mT mT];simp only;have t:X (yM<|A (yK<|(r:J)+1).2*2^(X (yx a)-1))<=K+K+1+1+1+1+2:=by refine Xh (j:=K+K+1+1+1+1) (k:=2) ?_ ?_;rw[show A (yK<|(r:J)+1).2=((r:J)+1).natAbs from zY _];exact b2;refine(zN _ _).2 ?_;exact xaI (xai m6 (mT:X (yx a)-1<=64)) m6
 rw[Y<|uD ⟨zw _,by show(yM _).length<=100000;omega⟩ b];refine⟨_,by rw[h0],λ_=>⟨r,?_,g,l⟩⟩;congr 1;show(if I=qR then _ else((A (yM _):wP):J))=_;rw[zY,show A (yK<|(r:J)+1).2=((r:J)+1).natAbs from zY _,(mT:((r:J)+1).natAbs=r+1)];rfl;refine zC (λs:J×N U×U×U=>∃i:wP,i<=X (yx a)/\s=((i:J),yx a,(I,[]),yK (-1+td (M a) i))) (λs=>X (yx a)-s.1.toNat) _ ?_ _ _ ⟨0,xah _,O⟩ (by show(yx a).length-0<fu;omega);rintro s L ⟨i,hi,rfl⟩ m;unfold fY;simp only;by_cases h:i<X (yx a);have d:=hn.okZ mT i;have o:=(c.bz i).mul<|c.bz i;rw[yg,Y O];simp only[Xs];rw[zp h,F,Y<|ya d d b,Qi,Yu,Y<|qH ((hd i mT).ok mT) (o.ok mT) b,zt,zt,zb,show-1+td (M a) i+M a i*M a i= -1+td (M a) (i+1)by show _= -1+(td (M a) i+M a i*M a i);omega];exact m _ ⟨i+1,mT,O⟩ (by show(yx a).length-((i:J)+1).toNat<X (yx a)-(i:J).toNat;omega);rw[zF,Y O];simp only[xam,Z9];obtain rfl:i=X (yx a):=mT
 rfl;rw[P h0];exact⟨_,O,λh=>kW h h0⟩
end
section
variable{f g q u v w a b:Pz}{m:wP}
def En{m:J}{f:K->J}:∀{n j:K},j<n->(∀k,k<n->k≠j->m∣f k)->m∣ye n f-f j
 |0,j,h,_=>kW h<|xbc _
 |n+1,j,h,hd=>by
  show m∣ye n f+f n-f j;by_cases e:j=n;subst e;rw[(W:ye j f+f j-f j=ye j f)];exact ed λk c=>hd k W W
  have h1:=En (n:=n) W λk c d=>hd k W d;have i:=hd n W W;rw[(W:ye n f+f n-f j=(ye n f-f j)+f n)];exact Int.dvd_add h1 i
theorem Uy{n:K}(c:∀k,n<k->f k=0)(d:∀k,m<k->g k=0):(f*g) (n+m)=f n*g m:=by
 have h:=Int.zero_dvd.1 (En (f:=λi=>f i*g (n+m-i)) (n:=n+m+1) (j:=n) W λk e l=>by
  by_cases hc:k<n;grind;rw[c k W,xba];exact xer 0)
 rw[(W:n+m-n=m)]at h;rw[w7];lia
def Tp(f:R)(n:K):Prop:=f n≠0/\∀k,n<k->f k=0
def Nz(f:R):Prop:=∃k,f k≠0
def Nz.not(h:¬Nz f)(k:K):f k=0:=xad λe=>h ⟨k,e⟩
def Tp.ex(c:Fs f)(h0:Nz f):∃n,Tp f n:=by
 have⟨N,i⟩:=c;have⟨j,d⟩:=h0;have h1:dg f N≠0:=λe=>by
  by_cases h:j<N;exact d<|QB f N j W h;simp_all
 refine⟨dg f N-1,QS f N h1,λk l=> ?_⟩;by_cases hc:k<N;exact QB f N k W hc;simp_all
def Tp.mul{n:K}(c:Tp f n)(d:Tp g m):Tp (f*g) (n+m):=
 ⟨by rw[Uy c.2 d.2];exact xcz c.1 d.1,λk h=>uX (n:=n+1) (m:=m+1) (λj e=>c.2 j W)<|λj e=>d.2 j W⟩
def Tp.uniq{n:K}(h:Tp f n)(g:Tp f m):n=m:=by by_cases h1:n<m;exact kW (h.2 m h1) g.1;by_cases c:m<n;exact kW (g.2 n c) h.1;lia
def Tp.nz{n:K}(h:Tp f n):Nz f:=⟨n,h.1⟩
def Tp.fs{n:K}(h:Tp f n):Fs f:=⟨n+1,λk c=>h.2 k W⟩
def Nz.mul{f g:R}(c:Fs f)(d:Fs g)(e:Nz f)(h:Nz g):Nz (f*g):=by have⟨n,hn⟩:=Tp.ex c e;have⟨m,i⟩:=Tp.ex d h;exact(hn.mul i).nz
def Dt(d:Fs f)(e:Fs g)(fq:Fs q)(i:Nz q)(h:f*q=g*q):f=g:=by by_cases c:Nz (f-g);have h1:=Nz.mul (d.subt e) fq c i;have⟨k,j⟩:=h1;rw[kh,h,xd]at j;lia;funext k;have:=Nz.not c k;rw[xd]at this;lia
def zez{c:J}(hc:c≠0)(h:D c*f=D c*g):f=g:=Z0 λk=>by
 have:=WS h k;rw[zS,zS]at this;exact Int.eq_of_mul_eq_mul_left hc this
def Zd(u v:R):Prop:=∃q:R,Fs q/\v=q*u
def Zd.refl(u:R):Zd u u:=⟨D 1,Fs.pc 1,(zE u).symm⟩
def Zd.trans(h:Zd u v)(g:Zd v w):Zd u w:=by obtain⟨q,fq,rfl⟩:=h;obtain⟨r,fr,rfl⟩:=g;exact⟨r*q,fr.mul fq,(zd r q u).symm⟩
def Zd.add{u v w:R}(h:Zd u v)(g:Zd u w):Zd u (v+w):=by obtain⟨q,fq,rfl⟩:=h;obtain⟨r,fr,rfl⟩:=g;exact⟨q+r,fq.add fr,(yY q r u).symm⟩
def Zd.sub(h:Zd u v)(g:Zd u w):Zd u (v-w):=by obtain⟨q,fq,rfl⟩:=h;obtain⟨r,fr,rfl⟩:=g;exact⟨q-r,fq.subt fr,(kh q r u).symm⟩
def Zd.mul{u v:R}(w:R)(c:Fs w)(h:Zd u v):Zd u (w*v):=by obtain⟨q,fq,rfl⟩:=h;exact⟨w*q,c.mul fq,(zd w q u).symm⟩
def Zd.left(c:Fs v):Zd u (u*v):=⟨v,c,zm u v⟩
def Pm(f:R):Prop:=∀d:K,(∀k,(d:J)∣f k)->d=1
def Pm.nz(h:Pm f):Nz f:=xad λhn=>kW (h 0 λk=>by rw[Nz.not hn k];exact xdI _) m6
def zqs:∀(n d:K),d<=n->2<=d->∃P,2<=P/\kU P/\P∣d
 |0,d,h,i=>by lia
 |n+1,d,h,i=>by
  by_cases hd:kU d;exact⟨d,i,hd,Nat.dvd_refl d⟩;have:∃e,2<=e/\e*e<=d/\d%e=0:=xad λhn=>hd λe e1 j c=>hn ⟨e,e1,j,c⟩;have⟨e,e1,j,c⟩:=this;have p:e<d:=by have:e*2<=e*e:=xaB e e1;lia
  have⟨P,k,l,o⟩:=zqs n e W e1;exact⟨P,k,l,Nat.dvd_trans o<|Nat.dvd_of_mod_eq_zero c⟩
theorem zml{Q:K->Prop}(h:∃i,Q i):∃i,Q i/\∀k,k<i->¬Q k:=by
 have⟨i,hi⟩:=h
 induction i using xdG with
 |ind i c=>
  by_cases hc:∃k,k<i/\Q k;grind;grind
def If{P:K}(hp:2<=P)(hn:kU P){f g:R}{i:K}(hi:¬(P:J)∣f i)(c:∀k,k<i->(P:J)∣f k)(h:∀k,(P:J)∣(f*g) k):∀n j,j<n->(P:J)∣g j
 |0,j,d=>kW d<|xbc _
 |n+1,j,d=>by
  have p:=If hp hn hi c h n;by_cases hd:j<n;simp_all
  have e:(P:J)∣ye (i+j+1) (λa=>f a*g (i+j-a))-f i*g (i+j-i):=En (m:=(P:J)) (f:=λa=>f a*g (i+j-a)) (n:=i+j+1) (j:=i) W λk r s=>by
   show(P:J)∣f k*g (i+j-k);by_cases hc:k<i;exact xbv (c k hc)<|xcd _ _;exact xbv (p _ W)<|xcP _ _
  have l:=h<|i+j;rw[w7]at l;rw[(W:i+j-i=j)]at e;have o:=xdA l e;rw[show∀x y:J,x-(x-y)=y by intro x y;lia]at o;obtain h5|h5:=LX hp hn o
  lia;exact h5
def zsd{P:K}(hp:2<=P)(hn:kU P)(h:∀k,(P:J)∣(f*g) k):(∀k,(P:J)∣f k)\/∀k,(P:J)∣g k:=by by_cases c:∀k,(P:J)∣f k;simp_all;have⟨i,h1,d⟩:=zml<|Classical.not_forall.1 c;exact .inr λk=>If hp hn h1 (λk e=>Classical.not_not.1<|d k e) h (k+1) k<|xdO k
def Pm.mul(c:Pm f)(i:Pm g):Pm (f*g):=λd hd=>by
 by_cases h1:d=1
 exact h1;have:∃P,2<=P/\kU P/\P∣d:=by
  by_cases h0:d=0
  exact⟨2,m6,λe e1 o=>by have:2*2<=e*e:=xcb e1 e1;lia,by rw[h0];exact⟨0,O⟩⟩;exact zqs d d (Nm d) W
 have⟨P,j,l,n⟩:=this;rcases zsd j l λk=>xbv (xdq.2 n) (hd k)with h|h
 have:=c P h;lia;have:=i P h;lia
def Pm.left(h:Pm (u*v)):Pm u:=λd hd=>h d λk=>by
 exact ed λi _=>xbv (hd i)<|xcd _ _
def Oq{f:K->J}{d:K}:∀n,(∀k,k<n->d∣(f k).natAbs)->d∣WG f n
 |0,_=>⟨0,O⟩
 |n+1,h=>Nat.dvd_gcd (Oq n λk c=>h k W)<|h n W
def Sd{f:K->J}{c g:K}:∀n,(∀k,k<n->c∣g*(f k).natAbs)->c∣g*WG f n
 |0,_=>⟨0,O⟩
 |n+1,h=>by
  show c∣g*xdx (WG f n) (f n).natAbs;rw[<-Nat.gcd_mul_left];exact Nat.dvd_gcd (Sd n λk d=>h k W)<|h n W
def pK{n:K}(h:∀k,n<=k->f k=0)(k:K):((WG f n:K):J)∣f k:=by
 by_cases c:k<n;exact xcq.1<|by skip;exact Ei f n k c
 simp_all
def Pm.ex(p:Fs f)(h0:Nz f):∃(c:K) (g:R),c≠0/\Fs g/\Pm g/\f=D c*g:=by
 have⟨n,hn⟩:=p;have h:=pK hn;have⟨c,hc⟩:∃c,c=WG f n:=⟨_,O⟩;rw[<-hc]at h;have r:c≠0:=λe=>by
  have⟨j,t⟩:=h0;have:=h j;rw[e]at this;lia
 have i:=MQ<|Cg.of_dvd h;refine⟨c,pdv c f,r,L8 ⟨n,hn⟩,λd hd=> ?_,i.symm⟩;have h1:=Oq n λk _=>by
  have l:=WS i k;rw[zS]at l;have o:=xfU (xer c)<|hd k;rw[l]at o;have x:=xcq.2 o;assumption
 rw[<-hc]at h1;have s:c*d∣c*1:=by rw[xdQ];exact h1
 exact Nat.dvd_one.1<|Nat.dvd_of_mul_dvd_mul_left W s
def zrn{c:J}(fq:Fs q)(e:Pm q)(i:Fs w)(h:∀k,c∣(w*q) k)(k:K):c∣w k:=by
 by_cases h0:Nz w
 obtain⟨g,v,g0,j,hv,rfl⟩:=Pm.ex i h0;have⟨n,hn⟩:=j.mul fq;have l:=(hv.mul e) _<|pK hn;have d:=Sd n λk _=>by
  have:=xcq.2<|h k;rw[zd,zS,xcl,xaH]at this;exact this
 rw[l,xdQ]at d;rw[zS];have o:c∣g:=xcq.1 (by skip;exact d);exact xbv o<|xcd _ _;rw[Nz.not h0 k];exact xdI c
def Zd.pm{c:J}(fq:Fs q)(i:Pm q)(hc:c≠0)(h:Zd q (D c*v)):Zd q v:=by
 have⟨w,d,e⟩:=h;have h1:=zrn fq i d λk=>by rw[<-e,zS];exact xcd _ _
 have j:=MQ<|Cg.of_dvd h1;refine⟨pdv c w,L8 d,zez hc ?_⟩;rw[e,<-zd,j]
theorem ze6{b:R}{m:K}(d:Tp b m):∀(n:K) (a:R),(∀k,n<=k->a k=0)->∃(c:J) (q r:R),c≠0/\Fs q/\(∀k,m<=k->r k=0)/\D c*a=q*b+r
 |0,a,h=>⟨1,D 0,D 0,m6,Fs.pc 0,λk _=>zV k,Z0 λk=>by rw[zW,yE,zV,zS,h k W];rfl⟩
 |n+1,a,h=>by
  by_cases hn:n+1<=m;exact⟨1,D 0,a,m6,Fs.pc 0,λk i=>h k W,Z0 λk=>by rw[zW,yE,zV,xcO,zE]⟩
  have⟨c,q,r,hc,fq,l,j⟩:=ze6 d n (D (b m)*a-mono (n-m) (a n)*b) λk i=>by
   rw[xd,VO,zS];unfold sh;rw[yg];by_cases e:k=n;grind;rw[h k W,d.2 (k-(n-m)) W];lia
  refine⟨c*b m,q+D c*mono (n-m) (a n),r,xcz hc d.1,fq.add<|(Fs.pc c).mul ⟨n+1,λk i=>zF⟩,l,?_⟩;rw[yY,<-jR,zd (D c) (D<|b m) a,zd (D c) _ b];rw[qM]at j;funext k;have:=WS j k;simp only[zW,xd]at this⊢;lia
def zmx(c:Nz a)(e:∀k,b k=0):∃(d s t:R) (α β:J),Nz d/\Fs s/\Fs t/\d=s*a+t*b/\α≠0/\β≠0/\Zd d (D α*a)/\Zd d (D β*b):=
 ⟨a,D 1,D 0,1,1,c,Fs.pc 1,Fs.pc 0,Z0 λk=>by rw[zW,zE,yE,zV,xcc],m6,m6,⟨D 1,Fs.pc 1,O⟩,⟨D 0,Fs.pc 0,Z0 λk=>by rw[zS,e k,yE,zV];rfl⟩⟩
def zsP:∀(n:K) (a b:R),Fs a->Nz a->(∀k,n<=k->b k=0)->∃(d s t:R) (α β:J),Nz d/\Fs s/\Fs t/\d=s*a+t*b/\α≠0/\β≠0/\Zd d (D α*a)/\Zd d (D β*b):=by
 intro n
 induction n with
 |zero=>intro a b p l j;exact zmx l λk=>j k<|xah k
 |succ n B=>
  intro a b p l j;by_cases nb:Nz b;have x:Fs b:=⟨n+1,j⟩;have⟨m,y⟩:=Tp.ex x nb;have L:m<=n:=by by_cases h:m<=n;exact h;exact kW (j m W) y.1
  have⟨N,C⟩:=p;have⟨c,q,r,hc,fq,E,z⟩:=ze6 y N a C;have⟨d,s,t,α,β,F,fs,A,hd,i,o,h1,G⟩:=B b r x nb λk M=>E k W;have H:r=D c*a-q*b:=Z0 λk=>by
   have:=WS z k;simp only[zW,xd]at this⊢;lia
  refine⟨d,t*D c,s-t*q,α*β*c,α,F,A.mul<|Fs.pc c,fs.subt<|A.mul fq,?_,xcz (xcz i o) hc,i,?_,h1⟩;rw[hd,H,qM,kh,<-zd,<-zd];funext k;simp only[zW,xd];lia;have e:D (α*β*c)*a=(D β*q)*(D α*b)+D α*(D β*r):=by rw[<-jR (α*β) c,zd (D<|α*β) (D c) a,z,wM,<-jR α β,zd (D β) q,zG q (D α) b,zG (D β)<|D α,zd (D α)<|D β,zd (D α)<|D β]
  rw[e];exact(h1.mul _<|(Fs.pc β).mul fq).add<|G.mul _<|Fs.pc α;exact zmx l<|Nz.not nb
def zlW(k:Fs a)(r:Nz a)(x:Fs b):∃(g s t:R) (γ:J),Fs g/\Pm g/\Fs s/\Fs t/\γ≠0/\D γ*g=s*a+t*b/\Zd g a/\Zd g b:=by
 have⟨n,hn⟩:=x;have⟨d,s,t,α,β,y,fs,l,hd,e,h,h1,z⟩:=zsP n a b k r hn;have A:Fs d:=by rw[hd];exact(fs.mul k).add<|l.mul ⟨n,hn⟩
 have⟨c,g,hc,i,j,o⟩:=Pm.ex A y;have p:Zd g d:=⟨D c,Fs.pc c,o⟩;exact⟨g,s,t,c,i,j,fs,l,W,o.symm.trans hd,Zd.pm i j e<|p.trans h1,Zd.pm i j h<|p.trans z⟩
def ot(u:R):Prop:=∀k,1<=k->u k=0
def ot.ex(h:ot u):∃c,u=D c:=⟨u 0,Z0 λk=>by
 unfold D;by_cases e:k=0
 simp_all;rw[P e];exact h k W⟩
def AY{c:J}(h:Pm (D c)):c=1\/c= -1:=by
 have h1:=h c.natAbs λk=>by
  unfold D;split;exact Int.natAbs_dvd.2<|xer _;simp_all
 lia
structure Ir(q:R):Prop where
 fs:Fs q
 pm:Pm q
 dg:¬ot q
 ir:∀u v,Fs u->Fs v->q=u*v->ot u\/ot v
def Ir.prime(d:Ir q)(fu:Fs u)(k:Fs v)(h:Zd q (u*v)):Zd q u\/Zd q v:=by
 have⟨g,s,t,γ,l,n,fs,o,i,p,⟨w,r,j⟩,x,fx,y⟩:=zlW d.fs d.pm.nz fu;obtain hc|hc:=d.ir w g r l j
 left;obtain⟨c,rfl⟩:=hc.ex;have z:=(j▸d.pm:Pm (D c*g)).left;refine⟨x*D c,fx.mul<|Fs.pc c,?_⟩;have hd:c*c=1:=by obtain e|e:=AY z<;>rw[e]<;>rfl
 rw[j,zd,<-zd (D c) (D c) g,jR,hd,zE,y]
 right;obtain⟨c,rfl⟩:=hc.ex;have A:c≠0:=λe=>by
  have:=AY n;lia
 refine Zd.pm d.fs d.pm (xcz i A) ?_;rw[<-jR,p,yY];refine Zd.add ⟨s*v,fs.mul k,?_⟩ ?_;rw[zd,zd,zm q v];rw[zd];exact h.mul t o
def Po(q:R):Prop:=∃n,0<q n/\∀k,n<k->q k=0
def Po.tp(h:Po q):∃n,Tp q n/\0<q n:=by have⟨n,h1,c⟩:=h;exact⟨n,⟨W,c⟩,h1⟩
def Ir.eq{r:R}(i:Ir q)(j:Ir r)(o:Po q)(pr:Po r)(h:Zd q r):q=r:=by
 have⟨w,p,d⟩:=h;obtain hc|hc:=j.ir w q p i.fs d
 obtain⟨c,rfl⟩:=hc.ex;have s:=(d▸j.pm:Pm (D c*q)).left;obtain e|e:=AY s
 rw[d,e,zE];have⟨n,h1,z⟩:=o.tp;have⟨m,t,x⟩:=pr.tp;have l:Tp (D c*q) n:=⟨by rw[zS,e];lia,λk y=>by rw[zS,h1.2 k y,xaz]⟩;rw[<-d]at l;obtain rfl:=l.uniq t;rw[d,zS,e]at x;lia;exact kW hc i.dg
def ot.tp{n:K}(h:Tp u n):ot u↔n=0:=⟨λhc=>xad λe=>h.1 (hc n W),λe k c=>h.2 k W⟩
def Po.or(fu:Fs u)(h:Nz u):Po u\/Po (D (-1)*u):=by have⟨n,hn⟩:=Tp.ex fu h;have:=hn.1;by_cases hp:0<u n;exact .inl ⟨n,hp,hn.2⟩;exact .inr ⟨n,by rw[zS];lia,λk c=>by rw[zS,hn.2 k c,xaz]⟩
def Pm.neg(h:Pm u):Pm (D (-1)*u):=λd hd=>h d λk=>by
 have:=hd k;rw[zS]at this;simp_all
def Ir.neg{u:R}(h:Ir u):Ir (D (-1)*u):=by
 refine⟨(Fs.pc _).mul h.fs,h.pm.neg,λhc=>h.dg λk c=> ?_,λa b d i e=> ?_⟩;have:=hc k c;rw[zS]at this;lia;have:u=(D (-1)*a)*b:=by rw[zd,<-e,<-zd,jR];exact(zE u).symm
 rcases h.ir _ b ((Fs.pc _).mul d) i this with hc|hc
 left;intro k c;have:=hc k c;rw[zS]at this;lia;simp_all
def Ir.ex:∀(n:K) {f:R}{m:K},m<=n->Tp f m->Pm f->1<=m->∃q,Ir q/\Po q/\Zd q f
 |0,f,m,h,_,_,h1=>by lia
 |n+1,f,m,h,ht,hp,h1=>by
  by_cases hi:Ir f;obtain h2|h2:=Po.or hi.fs hp.nz
  exact⟨f,hi,h2,Zd.refl f⟩;refine⟨_,hi.neg,h2,D (-1),Fs.pc _,?_⟩;rw[<-zd,jR];exact(zE f).symm;have:∃u v,Fs u/\Fs v/\f=u*v/\¬ot u/\¬ot v:=xad λhn=>hi ⟨ht.fs,hp,λhc=>by have:=(ot.tp ht).1 hc;lia,λu v fu c e=>xad λhc=>hn ⟨u,v,fu,c,e,λh=>hc (.inl h),λh=>hc (.inr h)⟩⟩;have⟨u,v,fu,c,e,l,cv⟩:=this;have j:=(e▸hp:Pm (u*v)).left;have hv:Pm v:=by rw[e,zm]at hp;exact hp.left
  have⟨a,d⟩:=Tp.ex fu j.nz;have⟨b,k⟩:=Tp.ex c hv.nz;have i:=(d.mul k);rw[<-e]at i;have i:=i.uniq ht;have hd:b≠0:=λh=>cv<|(ot.tp k).2 h;have p:a≠0:=λh=>l<|(ot.tp d).2 h;have⟨q,q1,q2,o⟩:=Ir.ex n W d j W;exact⟨q,q1,q2,o.trans<|by rw[e];exact Zd.left c⟩
end
section
variable{q f:Pz}{m:wP}{a b:wF Zr}
def Pm.one:Pm (D 1):=λd hd=>by
 have:=hd 0;exact Nat.dvd_one.1<|xdq.1 this
def Pm.pp{q:R}(h:Pm q):∀n,Pm (pp q n)
 |0=>Pm.one
 |n+1=>(Pm.pp h n).mul h
def Po.one:Po (D 1):=⟨0,m6,λk c=>by unfold D;rw[zF]⟩
def Ir.one(h:Ir q):¬Zd q (D 1):=λ⟨w,d,e⟩=>by
 have⟨a,c⟩:=Tp.ex h.fs h.pm.nz;have g:Nz w:=xad λhn=>by
  have:=WS e 0;rw[w7,yU λk _=>by rw[Nz.not hn k,xba]]at this;exact kW this m6
 have⟨b,i⟩:=Tp.ex d g;have h1:=i.mul c;rw[<-e]at h1;have j:=h1.uniq (m:=0) ⟨m6,λk l=>by unfold D;rw[zF]⟩;exact h.dg<|(ot.tp c).2 W
def Mu(q f:R)(n:K):Prop:=∃u,Fs u/\f=u*pp q n/\¬Zd q u
def Mu.ex{q:R}(c:Ir q)(m:K):∀{f:R},Tp f m->∃n,n<=m/\Mu q f n:=by
 induction m using xdG with
 |ind m j=>
  intro f d;by_cases hd:Zd q f
  have⟨u,fu,e⟩:=hd;have l:Nz u:=xad λhn=>by
   refine d.1 ?_;rw[e,w7,yU λk _=>by rw[Nz.not hn k,xba]]
  have⟨a,g⟩:=Tp.ex fu l;have⟨b,i⟩:=Tp.ex c.fs c.pm.nz;have h1:=g.mul i;rw[<-e]at h1;have h1:=h1.uniq d;have hc:b≠0:=λh=>c.dg<|(ot.tp i).2 h;have⟨n,hn,v,o,p,hv⟩:=j a W g;refine⟨n+1,W,v,o,?_,hv⟩;show f=v*(pp q n*q);rw[e,p,zd];exact⟨0,xah m,f,d.fs,(yu f).symm,hd⟩
theorem Mu.mul{q f g:R}{n m:K}(d:Ir q)(e:Mu q f n)(i:Mu q g m):Mu q (f*g) (n+m):=by
 obtain⟨u,fu,rfl,j⟩:=e;obtain⟨v,c,rfl,hv⟩:=i;refine⟨u*v,fu.mul c,?_,λh=> ?_⟩;rw[Fh,zd,zd,zG<|pp q n];obtain h|h:=d.prime fu c h
 grind;grind
def Mu.lt{n:K}(c:Ir q)(h:Mu q f n)(g:Mu q f m):¬n<m:=λk=>by
 have⟨u,fu,e1,i⟩:=h;have⟨v,e,j,hv⟩:=g;obtain⟨d,rfl⟩:∃d,m=d+1+n:=⟨m-1-n,W⟩;refine i ⟨v*pp q d,e.mul<|c.fs.pp d,?_⟩;refine Dt fu ((e.mul<|c.fs.pp d).mul c.fs) (c.fs.pp n) (c.pm.pp n).nz ?_;rw[<-e1,j,Fh,zd<|v*pp q d,zd v];show v*(pp q d*q*pp q n)=_;rw[zd<|pp q d]
def Mu.uniq{n:K}(c:Ir q)(h:Mu q f n)(g:Mu q f m):n=m:=by have:=h.lt c g;have:=g.lt c h;lia
def Mu.zero(c:Fs f)(h:¬Zd q f):Mu q f 0:=⟨f,c,(yu f).symm,h⟩
def Ir.pp{q r:R}(c:Ir q)(d:Fs r):∀n,Zd q (pp r n)->Zd q r
 |0,h=>kW h c.one
 |n+1,h=>by
  rcases c.prime (d.pp n) d h with h|h
  exact Ir.pp c d n h;exact h
theorem Ir.prz{q:R}(d:Ir q):∀{l:N R},(∀r∈l,Fs r)->Zd q (prZ l)->∃r,r∈l/\Zd q r
 |[],_,h=>kW h d.one
 |r::l,hl,h=>by
  rcases d.prime (hl r<|IR) (Fs.prZ λx c=>hl x<|FS _ c) h with h|h
  simp_all;have⟨x,c,h⟩:=Ir.prz d (λx c=>hl x<|FS _ c) h;grind
def prM:N (R×K)->R
 |[]=>D 1
 |x::r=>pp x.1 x.2*prM r
def LL:∀{l:N (R×K)},(∀x∈l,Fs x.1)->Fs (prM l)
 |[],_=>Fs.pc 1
 |x::r,h=>((h x<|IR).pp _).mul<|LL λy c=>h y<|FS _ c
def ziA{q:R}(c:Ir q)(e:Po q):∀{l:N (R×K)},(∀x∈l,Ir x.1/\Po x.1/\q≠x.1)->¬Zd q (prM l)
 |[],_,h=>c.one h
 |x::r,hl,h=>by
  have⟨h1,i,j⟩:=hl x<|IR;have g:=λy d=>hl y<|FS _ d;rcases c.prime (h1.fs.pp _) (LL λy d=>(g y d).1.fs) h with h|h
  exact j<|c.eq h1 e i<|c.pp h1.fs _ h;exact ziA c e g h
def mus{f:R}(d:Fs f)(g:Nz f):∀{l:N (R×K)},l.Pairwise (λx y=>x.1≠y.1)->(∀x∈l,Ir x.1/\Po x.1/\Mu x.1 f x.2)->∃u,Fs u/\f=u*prM l/\∀x∈l,¬Zd x.1 u
 |[],_,_=>⟨f,d,(yu f).symm,λ_ h=>kW h H1⟩
 |x::r,hp,h=>by
  have⟨h1,o,p⟩:=h x<|IR;rw[xdo]at hp;have c:=λy hy=>h y<|FS _ hy;have⟨u,fu,e,s⟩:=mus d g hp.2 c;have t:Nz u:=xad λhn=>by
   have⟨k,v⟩:=g;rw[e,w7,yU λk _=>by rw[Nz.not hn k,xba]]at v;lia
  have⟨m,z⟩:=Tp.ex fu t;have⟨n,_,hn⟩:=Mu.ex h1 m z;have A:=Mu.zero (LL λy hy=>(c y hy).1.fs)<|ziA h1 o λy hy=>⟨(c y hy).1,(c y hy).2.1,hp.1 y hy⟩;have i:=hn.mul h1 A;rw[<-e]at i;obtain rfl:n=x.2:=(i.uniq h1 p);have⟨w,B,j,C⟩:=hn;refine⟨w,B,?_,λy hy=> ?_⟩;show f=w*(pp x.1 x.2*prM r);rw[<-zd,<-j,e];obtain rfl|hy:=xal.1 hy
  exact C;exact λD=>s y hy<|by rw[j,zm];exact D.mul _<|h1.fs.pp _
theorem zlq(o:Fs f)(j:Nz f){l:N (R×K)}(hp:l.Pairwise λx y=>x.1≠y.1)(h:∀x∈l,Ir x.1/\Po x.1/\Mu x.1 f x.2)(p:∀q,Ir q->Po q->Zd q f->∃x∈l,x.1=q):∃c,c≠0/\f=D c*prM l:=by
 have⟨u,fu,e,A⟩:=mus o j hp h;have r:Nz u:=xad λhn=>by
  have⟨k,s⟩:=j;rw[e,w7,yU λk _=>by rw[Nz.not hn k,xba]]at s;lia
 obtain⟨c,g,hc,t,i,rfl⟩:=Pm.ex fu r;have⟨m,n⟩:=Tp.ex t i.nz;by_cases h1:1<=m;have⟨q,q1,q2,v⟩:=Ir.ex m (Nm m) n i h1;have w:Zd q (D c*g):=v.mul _<|Fs.pc _;obtain⟨x,B,rfl⟩:=p q q1 q2 (by rw[e,zm];exact w.mul _<|LL λy z=>(h y z).1.fs);grind;obtain⟨d,rfl⟩:=((ot.tp n).2 W).ex;refine⟨c*d,xcz W ?_,by rw[e,jR]⟩;have:=AY i;lia
def HJ(f g:K->J):K->J
 |0=>0
 |n+1=>if f n=g n then HJ f g n else if f n<g n then-1 else 1
theorem P1(f g:K->J):∀n,HJ g f n= -HJ f g n
 |0=>rfl
 |n+1=>by
  unfold HJ;by_cases h:f n=g n;rw[E h,E h.symm];exact P1 f g n;lia
theorem OV(f g:K->J):∀n,HJ f g n=0->∀k,k<n->f k=g k
 |0,_,k,h=>kW h<|xbc _
 |n+1,h,k,c=>by
  unfold HJ at h;by_cases h1:f n=g n;rw[E h1]at h;by_cases e:k=n;grind;exact OV f g n h k W
  lia
def Ld(f g h:K->J):∀n,HJ f g n<=0->HJ g h n<=0->HJ f h n<=0
 |0,_,_=>xfV 0
 |n+1,h1,c=>by
  unfold HJ at h1 c⊢;by_cases e1:f n=g n;rw[E e1]at h1;by_cases d:g n=h n;rw[E d]at c;rw[E<|e1.trans d];exact Ld f g h n h1 c;lia;lia
def JB(a b:N U):J:=if X a=X b then HJ (M a) (M b) (X a) else if X a<X b then-1 else 1
theorem WQ(a b:N U):JB b a= -JB a b:=by grind [JB,P1]
def TU{c:N U}(h1:JB a b<=0)(d:JB b c<=0):JB a c<=0:=by unfold JB at h1 d⊢;by_cases e1:X a=X b;rw[E e1]at h1;by_cases e:X b=X c;rw[E e,<-e1]at d;rw[E<|e1.trans e];exact Ld _ _ _ _ h1 d;lia;lia
def Cx(d:yx a=a)(e:yx b=b)(h:∀k,M a k=M b k):a=b:=by rw[<-d,<-e];exact XL (λk c=>yq c) (λk c=>yq c) h
def zeq(c:yx a=a)(d:yx b=b)(h:JB a b=0):a=b:=by unfold JB at h;by_cases e:X a=X b;rw[E e]at h;have h1:=OV _ _ _ h;refine Cx c d λk=> ?_;by_cases g:k<X a;simp_all;rw[yq W,yq W];lia
structure FL(f:R)(l:N (N U×J)):Prop where
 el:∀x∈l,yx x.1=x.1/\Ir (M x.1)/\Po (M x.1)/\1<=x.2/\Mu (M x.1) f x.2.toNat
 al:∀q,Ir q->Po q->Zd q f->∃x∈l,M x.1=q
 so:l.Pairwise λx y=>JB x.1 y.1<0
end
def vG{n:K}{f g:K->uP}{t:uP}(h:∀i,i<n->f i=g i):yc n f t=yc n g t:=qm λi hi=>by rw[h i hi]
def DN(t:uP)(v:R)(N:wP)(hv:∀i,N<=i->v i=0):∀(M:wP) (u:R),(∀i,M<=i->u i=0)->∀K,M+N<=K->yc K (λk=>(((u*v) k:J):uP)) t=yc M (λi=>(u i:uP)) t*yc N (λi=>(v i:uP)) t
 |0,u,a,K,_=>by
  show _=0*_;rw[xeF];rw[<-iF K t];refine vG λk _=> ?_;have:(u*v) k=0:=by rw[w7];exact yU λi _=>by rw[a i<|xah _,xba]
  simp_all
 |M+1,u,a,K,q=>by
  have⟨w,b⟩:∃w:R,w=λi=>if i<M then u i else 0:=⟨_,O⟩;have⟨z,d⟩:∃z:R,z=λi=>if i=M then u M else 0:=⟨_,O⟩;have e:u=w+z:=by funext i;rw[zW,b,d];by_cases h:i<M;simp[h,(W:i≠M)];by_cases l:i=M;simp[l];simp[h,l,a i W]
  have j:∀k,(z*v) k=if M<=k then u M*v (k-M)else 0:=λk=>by
   rw[w7,wH (i:=M)<|λi hi=>by rw[d];simp[hi]];by_cases h:M<=k;rw[yg,E h,d];simp;rw[zF,P h]
  have m:=DN t v N hv M w (λi hi=>by rw[b];simp;lia) K W;have e1:yc M (λi=>(w i:uP)) t=yc M (λi=>(u i:uP)) t:=vG λi hi=>by rw[b];simp[hi]
  have n:=aA (β:=λi=>(v i:uP)) (g:=λk=>(((z*v) k:J):uP)) (c:=(u M:uP)) (e:=M) (λi hi=>by rw[j,zF];rfl) N (λi hi=>by rw[j,yg,(W:M+i-M=i),xbh]) t;have o:=kD (f:=λk=>(((z*v) k:J):uP)) (W:M+N<=K) (λi hi=>by
   rw[j];split;rw[hv _ W,xaz];rfl;rfl) t
  have p:yc K (λk=>(((u*v) k:J):uP)) t=yc K (λk=>(((w*v) k:J):uP)) t+yc K (λk=>(((z*v) k:J):uP)) t:=by rw[<-YM];exact vG λk _=>by rw[e,yY,zW,xfn]
  rw[p,m,o,n,e1];show _=(yc M (λi=>(u i:uP)) t+(u M:uP)*t^M)*_;grind
def LZ(g:K->uP):∀N,∃(D:K) (G:R),0<D/\(∀i,i<N->g i*D=G i)/\∀i,N<=i->G i=0
 |0=>⟨1,pc 0,m6,λi hi=>kW hi<|xbc _,λi _=>zV i⟩
 |N+1=>by
  have⟨D,G,h0,h1,a⟩:=LZ g N;refine⟨D*(g N).den,λi=>if i<N then G i*(g N).den else if i=N then(g N).num*D else 0,xdn h0 (g N).den_pos,λi hi=> ?_,λi hi=>by show(if i<N then _ else if i=N then _ else 0)=_;rw[zF,zF]⟩;have hd:((g N).den:uP)≠0:=λe=>by
   have:=xdr.1<|e.trans (by rfl:(0:uP)=((0:K):uP));exact(g N).den_nz this
  have hn:g N*((g N).den:uP)=((g N).num:uP):=by have:=Rat.mkRat_eq_div (g N).num (g N).den;rw[Rat.mkRat_self]at this;grind
  show _=(((if i<N then G i*(g N).den else if i=N then(g N).num*D else 0):J):uP);by_cases h:i<N;rw[E h,xds,xbh,<-h1 i h];show _=g i*(D:uP)*((g N).den:uP);grind;have:i=N:=W
  subst this;rw[P h,E O,xds,xbh,<-hn];show _=g i*((g i).den:uP)*(D:uP);grind
def zoM{P:R}{d:wP}{β:wP->uP}(p:Ir P)(o:Tp P d)(c:∀i,β i*(P d:uP)=(P i:uP)):Irq d β:=by
 rintro A n f ⟨N,g,H⟩ hn L;have⟨D,G,D0,M,hd⟩:=LZ g N;have⟨E,F,Q,x,r⟩:=LZ f<|n+1;have s:∀{k:wP},0<k->(k:uP)≠0:=λ{k} j e=>by have:=xdr.1<|e.trans (by rfl:(0:uP)=((0:wP):uP));lia
 have b:pc ((D:J)*E)*P=pc (P d)*(G*F):=by
  funext k;have⟨K,hK⟩:∃K,K=max (max (d+1)<|N+(n+1)) (k+1):=⟨_,O⟩;have h1:∀t,yc K (λi=>(((pc ((D:J)*E)*P) i:J):uP)) t=yc K (λi=>(((pc (P d)*(G*F)) i:J):uP)) t:=λt=>by
   have S:yc K (λi=>(((pc ((D:J)*E)*P) i:J):uP)) t=(D:uP)*E*((P d:uP)*yc (d+1) β t):=by
    rw[<-vV,<-vV,<-kD (f:=λi=>(D:uP)*E*((P d:uP)*β i)) (W:d+1<=K) (λi hi=>by
     have:=c i;rw[o.2 i W]at this;have h0:β i*(P d:uP)=0:=this;grind)]
    exact vG λi _=>by rw[zS,xbh,xbh,<-c i];show(D:uP)*(E:uP)*(β i*(P d:uP))=_;grind
   have T:yc K (λi=>(((pc (P d)*(G*F)) i:J):uP)) t=(P d:uP)*yc K (λi=>(((G*F) i:J):uP)) t:=by rw[<-vV];exact vG λi _=>by rw[zS,xbh]
   have a3:yc N (λi=>(G i:uP)) t=(D:uP)*A t:=by rw[H,<-vV];exact vG λi hi=>by rw[<-M i hi];grind
   have a4:yc (n+1) (λi=>(F i:uP)) t=(E:uP)*yc (n+1) f t:=by rw[<-vV];exact vG λi hi=>by rw[<-x i hi];grind
   rw[S,T,DN t F (n+1) r N G hd K W,a3,a4,L];grind
  exact xfW.1<|Ly h1 k W
 have hc:=o.1;have U:Zd P (G*F):=Zd.pm p.fs p.pm hc ⟨pc<|(D:J)*E,Fs.pc _,b.symm⟩;have y:Fs G:=⟨N,hd⟩;have V:Fs F:=⟨n+1,r⟩;have v:Tp F n:=⟨λe=>by
  have:=x n W;rw[e]at this;have h0:f n*(E:uP)=0:=this;have:=s Q;grind,λk j=>r k W⟩
 have z:Tp (pc ((D:J)*E)*P) d:=⟨by rw[zS];exact xcz (xcz W W) hc,λk j=>by rw[zS,o.2 k j,xaz]⟩;have Y:Nz G:=xad λh=>by
  have:=z.1;rw[b,zS,w7]at this;exact this<|by rw[yU λi _=>by rw[Nz.not h i,xba],xaz]
 have⟨B,w⟩:=Tp.ex y Y;have tR:Tp (pc (P d)*(G*F)) (B+n):=⟨by rw[zS];exact xcz hc (w.mul v).1,λk j=>by rw[zS,(w.mul v).2 k j,xaz]⟩;have hf:d=B+n:=z.uniq<|b▸tR;have l:∀{u:R}{m:wP},Tp u m->Zd P u->d<=m:=λ{u m} C ⟨q,fq,e⟩=>by
  have s:Nz q:=xad λh=>by
   have:=C.1;rw[e,w7]at this;exact this<|yU λi _=>by rw[Nz.not h i,xba]
  have⟨a,ta⟩:=Tp.ex fq s;have:=C.uniq<|e▸ta.mul o;lia
 obtain h|h:=p.prime y V U
 have:=l w h;left;lia;have:=l v h;right;lia
end Go.Proofs.YtoegnnjcmlghhaaGreat
