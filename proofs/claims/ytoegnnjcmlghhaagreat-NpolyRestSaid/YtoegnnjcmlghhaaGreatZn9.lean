/- Quotient times divisor, and the rest, of polynomials over a field, is what was divided, for every input. No condition. -/
import Derived.Test.YtoegnnjcmlghhaaGreatZn8
import Derived.Below
import Derived.Lib.Join
set_option linter.all false
namespace Go.Proofs.YtoegnnjcmlghhaaGreat
open Bool renaming false->I,true->qR
open Go renaming Value->jp,TypeId->ut,Act->QR,Exit->lm
open Go.Proofs.YtoegnnjcmlghhaaGreat renaming cf->M,bd->G,za->Y,Zr->U,ci->C,nm->B,pc->D,ze->F,iq->E,nv->A,zf->S,Pz->R,ir->P
open List renaming length->X
open Nat renaming beq->Q
open Option renaming some->Z,some->wL,none->wW
open _root_ renaming rfl->O,List->N,Int->J,Nat->K,Option->V,List->wF,Nat->wP,trivial->ul,Rat->uP,Bool->uS,True->Ws
open DataW renaming TrodAll->xeY
open List renaming ext_getElem->xdR,mem_iff_getElem->xbZ,replicate->So
open Value renaming okWide->xeE
section
variable{fu d k k':wP}{r:d7}{β:wP->uP}{m:wF Zr}
def Hd(k:K):K->K
 |0=>k
 |s+1=>2*Hd k s+4303
def zdz{A B:N (N Qr)}{b a:N (N uP)}(c:zH fu (Z r) B=Z (.inr<|mm a))(e:zH fu (Z r) A=Z (.inr<|mm b))(h0:X a=0):kR fu (Z r) A B=Z ([],[],3):=by unfold kR vK;rw[Y e];simp only;rw[Y c];simp only;rw[wY,E W];rfl
section
variable(M:FM m r d β){B:wF (wF Qr)}{lb:wF (wF uP)}(eB:FV d β (256+353) 4 lb (jO B))(hB:zH fu (wL r) B=wL (.inr<|mm lb))(oB:QO (256+1) 4 B)(h4:∀i,(B.getD i []).length<=4)(hf:3000000<=fu)
 include M eB hB oB h4 hf
def zbX{A:N (N Qr)}{c:N (N uP)}{nb its HQ p:K}(C:zH fu (Z r) A=Z (.inr<|mm c))(D:QO (p+1) (X c) (mm c))(u:X lb=nb+1)(hc:its=0/\X c<=nb\/X c=its+nb)(E:X c<=100)
 (g j:K->K) (hl:g 0=p) (G:∀s,g s+j s+1788<=g (s+1)) (v:∀s,s<=its->g s+j s<=240000) (hn:∀s,s<its->j s<=HQ) (ht:HQ<=240000) (b:K->N (N Qr)->N (N Qr)->Prop) (H:b its (So its []) (mm c))
 (L:∀(top:N uP),xz (yc (d+1) β) (λt=>yG top t*yG (lb.getD nb []) t) (λ_=>1)->∀n (Q T:N (N Qr)) (z:N uP),n<its->b (n+1) Q T->bg d z->xz (yc (d+1) β) (yG z) (λt=>yG (vl<|T.getD (n+nb) []) t*yG top t)->Ht (g (its-(n+1))+1+1404+1111) z->Ht (j (its-(n+1))+1) z/\∀w,qi (yc (d+1) β) (jO w) (λx t=>jO T x t-yG z t*x^n*jO (mm lb) x t)->b n (Q.set n<|z.map cq) w):
 ∃l f Q T,kR fu (Z r) A B=Z (mm l,mm f,0)/\FV d β (HQ+353) its l (jO Q)/\FV d β (g its+353) (X c) f (jO T)/\X f<=nb/\qi (yc (d+1) β) (jO<|mm c) (λx t=>jO (mm l) x t*jO (mm lb) x t+jO (mm f) x t)/\b 0 Q T:=by
 have hd:=M.d4;have ob:QO (300+1) 4 (mm lb):=⟨λa R=>by
  obtain⟨q,S,rfl⟩:=xat.1 R;have⟨i,hi,e⟩:=xbZ.1 S;have h1:=eB.tight M oB h4 i;have o:=eB.pl.rd i;rw[UV,xaa hi,xdb,e]at h1 o;exact⟨UE h1 m6,by rw[xaj];have:=o.1;lia,by rw[qC];exact h1⟩,by rw[wY];exact eB.ln⟩
 have hp:lb.getD nb []≠[]:=by have:=eB.pl.tp W;rwa[(W:X lb-1=nb)]at this
 have⟨top,t1,t2,t3⟩:=znq (fu:=fu) M (eB.pl.rd nb) hp (eB.tight M oB h4 nb) hf;obtain⟨_,v1,T,Q,rfl,y,v3,v4,v5,U⟩:=zhG (fu:=fu) (its:=its) (HQ:=HQ) M u ob t2 t3 (by rw[wY];exact hc) (by rw[wY];exact E) g j (by rw[hl,wY];exact D) G v hn b H (L top t3) hf;rw[wY]at y;have hu:=v its<|Nm _;have hv:=eB.ln;have⟨l,q1,q2⟩:=Kd (fu:=fu) M v3 W W hf;have⟨f,r1,r2⟩:=Kd (fu:=fu) M y W W hf;have V:X f<=nb:=by refine xad λh=>r2.pl.tp W ?_;have h1:=r2.co<|X f-1;rw[v4 _ W]at h1;exact bg.inj M.fl.one (r2.pl.rd _) (bg.nil d) h1
 refine⟨l,f,Q,T,?_,q2,r2,V,v5.trans<|(qi.mul (gf _) (gf _) q2.kg qi.refl).symm.add r2.kg.symm,U⟩;unfold kR vK;rw[Y C];simp only;rw[Y hB];simp only;rw[wY,wY,u,P W,vO ⟨W,W⟩,(W:((nb+1:K):J)-1=(nb:J)),zp W,F,K4,Y t1];simp only;rw[Y Jm];simp only;have hj:max ((X c:J)-((nb+1:K):J)+1) 0=(its:J):=by rcases hc with⟨h1,o⟩|h1<;>lia
 rw[vO ⟨W,W⟩,vO ⟨W,W⟩,F,hj,yH,va W,F,xaF,vO ⟨W,W⟩,Y v1];simp only;rw[Y q1];simp only;rw[Y r1];rfl
end
theorem zlk{l:N (N uP)}{n:K}(h:n<X l)(x t:uP):jO (mm<|l.take<|n+1) x t=jO (mm<|l.take n) x t+yG (l.getD n []) t*x^n:=by
 have g:∀k i,i<k->(mm<|l.take k).getD i []=(mm l).getD i []:=λk i hi=>by
  rw[K4,K4];congr 1;simp_all
 rw[X2 (n:=n+1) (by rw[wY,xan];lia),X2 (A:=mm<|l.take n) (n:=n)<|by rw[wY,xan];lia];show yc n _ x+yG (vl<|(mm<|l.take<|n+1).getD n []) t*x^n=_;have e1:yc n (λi=>yG (vl<|(mm<|l.take<|n+1).getD i []) t) x=yc n (λi=>yG (vl<|(mm<|l.take n).getD i []) t) x:=vG λi hi=>by rw[g _ _ W,g _ _ hi]
 rw[e1,g _ _ W,K4,qC]
theorem zjM(M:FM m r d β){B:wF (wF Qr)}{a b p:wF (wF uP)}{A:wF (wF Qr)}{nb S:K}(o:FV d β (256+353) 4 a (jO A))(u:FV d β (256+353) 4 b (jO B))(U:zH fu (Z r) B=Z (.inr<|mm b))(V:QO (256+1) 4 B)(Y:∀i,X (B.getD i [])<=4)(v:X b=nb+1){C:wF (wF Qr)}(h8:zH fu (Z r) C=Z (.inr<|mm p))(y:FV d β (8713+1) S p λx t=>jO A x t*jO B x t)(hf:3000000<=fu):
 kR fu (Z r) C B=Z (mm a,[],0):=by
 have h:=M.fl.one;have hd:=M.d4;have hp:=o.ln;have ho:=u.ln;have⟨g1,g2⟩:=znd M o u y;have hg:X a=0/\X p<=nb\/X p=X a+nb:=by by_cases h0:a=[];left;rw[g1 (.inl h0),h0];exact⟨O,xah _⟩;right;have:=g2 h0 (λe=>by rw[e]at v;simp at v);lia
 have G:qi (yc (d+1) β) (jO<|mm p) λx t=>jO (mm a) x t*jO (mm b) x t:=y.kg.trans (qi.mul (gf _) (gf _) o.kg u.kg).symm
 have⟨lq,lr,Q,T,q1,q2,L,_,_,q4,q5,q6⟩:=zbX (fu:=fu) M u U V Y hf (its:=X a) (HQ:=608) h8 (y.pl.op W m6<|Nm _) v hg W (λs=>8713+s*2396) (λ_=>608) O (λs=>by show 8713+s*2396+608+1788<=8713+(s+1)*2396;lia) (λs hs=>by show 8713+s*2396+608<=240000;lia) (λ_ _=>Nm _) m6
  (λn Q T=>qi (yc (d+1) β) (jO T) (λx t=>jO (mm<|a.take n) x t*jO (mm b) x t)/\(∀j,n<=j->j<X a->Q.getD j []=(a.getD j []).map cq)/\X Q=X a)
  ⟨by rw[xbQ];exact G,λj h1 w=>by lia,m7⟩
  (λtop he n Q T z hn hJ hz hi _=>by
   have⟨R,j2,j3⟩:=hJ;have hc:z=a.getD n []:=by
    have⟨c,D,c1,c2⟩:=zc8 (l:=a.take<|n+1) (l':=b) (n:=n) (n':=nb) (by rw[xan];lia) v;have⟨N,hN⟩:∃N,N=max (X T) (n+nb+1):=⟨_,O⟩;have co:=qi.coef (n:=N) (i:=n+nb) (f:=λi t=>yG (vl<|T.getD i []) t) (g:=λi t=>(if i<n+nb+1 then c i else λ_=>0) t) (P:=yc (d+1) β) (qi.trans (qi.of λx t=>(X2 W x t).symm) (R.trans (qi.of λx t=>by
     rw[c2];have H:=kD (f:=λi=>(if i<n+nb+1 then c i else λ_=>0) t) (W:n+nb+1<=N) (λj q=>by rw[ir W]) x;rw[H];exact vG λj q=>by rw[E q]))) W
    have J:xz (yc (d+1) β) (yG<|vl<|T.getD (n+nb) []) λt=>yG (a.getD n []) t*yG (b.getD nb []) t:=xz.trans co (xz.of λt=>by
     rw[E W,c1,K4,K4,qC,qC];congr 2;rw[UV,xbF,E W,UV])
    refine bg.inj h hz (o.pl.rd n)<|hi.trans ?_;have H:=xz.mul (F':=yG top) (G':=yG top) (wk top) ((wk<|a.getD n []).mul<|wk<|b.getD nb []) J xz.refl;have a2:=xz.mul (F':=λt=>yG top t*yG (b.getD nb []) t) (G':=λ_=>1) ((wk _).mul<|wk _) (wk<|a.getD n []) (xz.refl (F:=yG<|a.getD n [])) he;exact H.trans<|xz.trans (xz.of λt=>by grind)<|a2.trans<|xz.of λt=>by grind
   refine⟨by rw[hc];exact o.pl.ht n,λT' hk=>⟨hk.trans<|(R.sub<|qi.refl (F:=λx t=>yG z t*x^n*jO (mm b) x t)).trans<|qi.of λx t=> ?_,λj h1 w=> ?_,by rw[xaP,j3]⟩⟩;rw[zlk hn,hc];grind;rw[UV,List.getElem?_set];by_cases q:n=j;subst q;rw[E O,E W,hc];rfl;rw[ir q,<-UV];exact j2 j W w)
 have hQ:Q=mm a:=by refine xdR (by rw[wY,q6]) λi h1 w=> ?_;have:=q5 i (xah _) W;rw[<-K4,UV,UV,xaa h1,xaa w]at this;exact this
 have hl:lq=a:=Plm.inj h q2.pl o.pl (q2.kg.trans<|by rw[hQ];exact qi.refl);have hm:lr=[]:=Plm.inj (k':=1) h L.pl (FV.nil (k:=0)).pl<|L.kg.trans<|q4.trans (qi.of λx t=>by show(0:uP)*_=0;grind);rw[q1,hl,hm];rfl
theorem za1(m:N U)(a b:N (N Qr))(J:(Ty.l (.p .b (.l .u))).ok m)(K:(Ty.l (.l (.p (.p .b (.l .u)) (.l .u)))).ok a)(L:(Ty.l (.l (.p (.p .b (.l .u)) (.l .u)))).ok b):Zg 4000000 m a b=Z qR:=by
 have⟨fu,w⟩:∃fu,fu=4000000:=⟨_,O⟩;have R:3000300<=fu:=W
 have S:YJ fu=Z qR:=by rw[w];exact Tn
 rw[<-w];unfold Zg;have⟨q1,p,h1,V⟩:=zdY (fu:=fu) J R;rw[Y S,Y h1];simp only;obtain rfl|⟨r,d,β,rfl,M⟩:=V
 rfl
 rw[P m7];have⟨x,h3,h4⟩:=zhJ (fu:=fu) (n:=4) (ls:=[a,b]) m7 m6 W;have hl:Xq fu 4 [a,b]=Z x:=h3;rw[Y hl]
 cases x with
 |false=>rfl
 |true=>
  rw[P m6];have y:=h4 O;have A:=y 1 m7;have B:QO (256+1) 4 a:=zht K (y 0 m7);have ob:QO (256+1) 4 b:=zht L A;have hq:=M.d4;have hd:d<=32:=W
  have c:3000000<=fu:=W
  have i:=M.fl.one;have C:=zjU A;have⟨e,j,e1⟩:=Kd (fu:=fu) M B m6 m6 c;have⟨f,g,h⟩:=Kd (fu:=fu) M ob m6 m6 c;have n1:qt fu (Z r) a=Z (mm e,0):=by unfold qt;rw[j];rfl
  have n2:qt fu (Z r) b=Z (mm f,0):=by unfold qt;rw[g];rfl
  have hr:=e1.ln;have ht:=h.ln;rw[Y n1];simp only;rw[Y n2];simp only;by_cases h0:X f=0
  rw[Y<|zdz g j h0];simp only;rw[wY,E W];rfl
  have⟨nb,hi⟩:∃nb,X f=nb+1:=⟨X f-1,W⟩;have v4:Hd 608 4=74273:=O;have hc:∀s,s<=4->Hd 608 s<=74273:=λs o=>by
   have:s=0\/s=1\/s=2\/s=3\/s=4:=W
   obtain rfl|rfl|rfl|rfl|rfl:=this<;>decide
  have he:∀s,s<4->Hd 608 s<=34985:=λs o=>by
   have:s=0\/s=1\/s=2\/s=3:=W
   obtain rfl|rfl|rfl|rfl:=this<;>decide
  have⟨its,ho⟩:∃its,its=X e-nb:=⟨_,O⟩
  have⟨lq,lr,_,_,q1,q2,D,q4,q5,_⟩:=zbX (fu:=fu) M h g ob C c (its:=its) (HQ:=37500) j (e1.pl.op hd m6<|Nm _) hi W W (Hd 608) (λs=>Hd 608 s+2515) O (λs=>by show _<=2*Hd 608 s+4303;lia) (λs o=>by have:=hc s W;show Hd 608 s+(Hd 608 s+2515)<=240000;lia) (λs o=>by have:=he s W;show Hd 608 s+2515<=37500;lia) m6 (λ_ _ _=>Ws) ul
   (λtop hp n Q T z hn _ hz hu hh=>⟨hh,λ_ _=>ul⟩)
  have kr:=hc its W;have oq:QO (37852+1) 4 (mm lq):=q2.pl.op hd m6 (by have:=q2.ln;lia);have q:QO (74625+1) 64 (mm lr):=(D.pl.op hd W (by have:=D.ln;lia)).mono W;have⟨t6,a6,t⟩:=zbE (fu:=fu) M oq ob m6 m6 m6 c;have o6:QO (158745+1) 64 (mm t6):=t.pl.op hd m6 (by have:=t.ln;lia);have⟨t7,a7,F⟩:=zkA (fu:=fu) M o6 q m6 m6 c;have⟨t8,a8,G⟩:=zbE (fu:=fu) M B ob m6 m6 m6 c;have o8:QO (8361+1) 8 (mm t8):=G.op hd m6;have⟨l9,a9,v⟩:=Kd (fu:=fu) M o8 m6 m6 c;have d2:=zjM (fu:=fu) M e1 h g ob C hi a9 ⟨v.pl,v.ln,v.kg.trans G.kg⟩ c;have q7:t7=e:=by refine Plm.inj i F.pl e1.pl<|F.kg.trans<|(t.kg.add qi.refl).trans<|qi.trans ?_ q5.symm;exact(qi.mul (gf _) (gf _) qi.refl h.kg.symm).add qi.refl
  have o1:QO 609 4 (mm e):=e1.op hd m6;have H:=Rm (fu:=fu) o1 m6 c;rw[Y q1];simp only;rw[wY,P W,Y a6];simp only;rw[Y a7];simp only;rw[Y a8];simp only;rw[Y d2];simp only;rw[E ul,E ul,q7,Y H,E O,wY,E W,E ul,Y H,E O];rfl
end
section
namespace npolyRest
open Go.ChangeShapes Go.WideShapes Go.ChangeAt Go.RowKit
theorem own:ownKnob Tryz.prog.godebug=wW:=ol
theorem atW:X7 Tryz.prog .u 73:=id (by kernel_rfl:Tryz.prog.underlying 73=Z (.int .u64))
theorem atB:X7 Tryz.prog .b 4:=id (by kernel_rfl:Tryz.prog.underlying 4=Z .bool)
theorem atL:X7 Tryz.prog (.l .u) 42:=X7.sl (E:=73) ol ol m6 atW
theorem atZ:X7 Tryz.prog (.p .b (.l .u)) 44:=X7.st (A:=4) (B:=42) ol ol ol ol atB atL
theorem atP:X7 Tryz.prog (.l (.p .b (.l .u))) 22:=X7.sl (E:=44) ol ol m6 atZ
theorem atQ:X7 Tryz.prog (.p (.p .b (.l .u)) (.l .u)) 46:=X7.st (A:=44) (B:=42) ol ol ol ol atZ atL
theorem atR:X7 Tryz.prog (.l (.p (.p .b (.l .u)) (.l .u))) 41:=X7.sl (E:=46) ol ol m6 atQ
theorem zrv:X7 Tryz.prog (.l (.l (.p (.p .b (.l .u)) (.l .u)))) 23:=X7.sl (E:=41) ol ol m6 atR
def sgO(M:aH [.d (.l (.p .b (.l .u))),.d (.l (.l (.p (.p .b (.l .u)) (.l .u)))),.d (.l (.l (.p (.p .b (.l .u)) (.l .u))))]->V uS):Wk:=⟨5,[.d (.l (.p .b (.l .u))),.d (.l (.l (.p (.p .b (.l .u)) (.l .u)))),.d (.l (.l (.p (.p .b (.l .u)) (.l .u))))],[.d .b],M,0⟩
set_option maxRecDepth 100000 in
def lifted{M:aH [.d (.l (.p .b (.l .u))),.d (.l (.l (.p (.p .b (.l .u)) (.l .u)))),.d (.l (.l (.p (.p .b (.l .u)) (.l .u))))]->V uS}(h:y8 Tryz.prog (sgO M))(i:∀x,zii [.d (.l (.p .b (.l .u))),.d (.l (.l (.p (.p .b (.l .u)) (.l .u)))),.d (.l (.l (.p (.p .b (.l .u)) (.l .u))))] x->M x=Z qR)(os:Os)(a:os.Started)(k:Type)(enc:ut×jp->k):
 ReturnsInHanded {} Tryz.checked os 5 .any (Rows.npolyRestSpec.pre6 enc Tryz.prog Tryz.f5 Rows.npolyRestRow.domain I) (Rows.npolyRestSpec.post enc Tryz.prog Tryz.f5 I qR I I):=by
 refine returnsInHanded_of_change (C:=Tryz.checked) own a ol Tryz.func5
  (ChangeSpec.witness6 (enc:=enc) (C:=Tryz.checked) I ⟨#[],#[.slice wW 0 0,.slice wW 0 0,.slice wW 0 0],[]⟩ 8 ol ol ol ol) ?_
 intro W c args ds D e m f E _;have hc:∀(j:K) t v,Tryz.f5.params[j]? =Z t->args[j]? =Z v->xeE Tryz.prog W .any c t v:=m;have hd:=f;have⟨p,q,n,o,_,_,_⟩:=f;have g:xeY enc Tryz.prog W 0 (λ_=>qR) qR Tryz.f5.params.toList args.toList ds p:=n;rw[Tryz.params5]at g;obtain⟨v0,r,d0,s,p0,q0,F,rfl,_,_,r0⟩:=trodAll_cons g;obtain⟨v1,w,d1,y,G,q1,_,rfl,_,_,r1⟩:=trodAll_cons r0;obtain⟨H,vs2,d2,z,J,q2,_,rfl,_,_,r2⟩:=trodAll_cons r1;obtain⟨_,rfl,_⟩:=trodAll_nil r2;obtain⟨rfl,_⟩:=trodVars_none o
 exact zjW (sg:=sgO M) hd O hc ol (by rw[Tryz.params5];decide+kernel) (by rw[Tryz.params5];exact⟨atP,zrv,zrv,ul⟩) O h
  (λx A=>i x A) (B:=4) ol Tryz.underlying4 O
set_option maxRecDepth 100000 in
def fnm:Tryz.pinned.checked.prog.funcNamed Rows.npolyRestRow.func=Z 5:=ol
set_option maxRecDepth 100000 in
set_option maxHeartbeats 4000000 in
def jf:joinedFacts Tryz.pinned.checked.prog 5 Tryz.f5 Rows.npolyRestSpec Rows.npolyRestRow=qR:=by
 unfold joinedFacts;simp only[xae];repeat' apply And.intro
 all_goals (as_aux_lemma=>kernel_rfl)
def over:Rows.npolyRestRow.holds Tryz.pinned (OpenSpec.ofChange Rows.npolyRestSpec):=
 OpenClaim.holds_of_wide 5 Tryz.f5 O O O O O O O ⟨O,O,O,O,O⟩ O O O O O fnm Tryz.func5 jf
  (WP ol) (by unfold Func.isWrapper;first|(rw[E<|by decide+kernel];kernel_rfl)|(rw[P<|by decide+kernel];exact⟨O,O⟩))
  (λos a c enc _=>lifted (M:=λx=>Zg 4000000 x.1 x.2.1 x.2.2.1) (sV 4000000) (λx b=>za1 x.1 x.2.1 x.2.2.1 b.1 b.2.1 b.2.2.1) os a c enc)
theorem proved:Rows.NpolyRestSaid:=
 over
end npolyRest
end
end Go.Proofs.YtoegnnjcmlghhaaGreat
