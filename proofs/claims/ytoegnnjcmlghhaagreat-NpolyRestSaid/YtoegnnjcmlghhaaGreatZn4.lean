/- What a proof needs: rules of walking, mirrors of functions and their plain laws. No condition. -/
import Derived.Test.YtoegnnjcmlghhaaGreatZn3
import Derived.Shelf.Strings.Builder1
import Derived.Shelf.Strings.Builder2
import Derived.Shelf.Strings.OnBuilder
import Derived.Shelf.Small.Bits
import Derived.Shelf.Strconv.Itoa0
import Derived.Shelf.Bits.Mul64
import Derived.Ground.Names2Prog
import Derived.Shelf.Slices.ReverseS
import Derived.Shelf.Slices.SearchI
import Derived.Shelf.Slices.Cells
import Derived.Ground.SlgnProg
import Derived.Shelf.SlicesE.Clone
import Derived.RecoverIn
set_option linter.all false
namespace Go.Proofs
open Go.Shelf
def pM:=@or_false
def xcx:=@Nat.sub_self
def xfQ:=@Nat.lt_irrefl
def Tryz.lays156_ren:Go.Shelf.Ren:=⟨fun|156=>164|165=>199|166=>200|169=>201|240=>236|241=>237|276=>268|277=>269|n=>n,fun|31=>159|9=>9|3=>3|4=>4|0=>0|20=>20|72=>194|76=>198|70=>192|37=>190|75=>197|127=>221|164=>247|5=>5|80=>200|n=>n,fun|n=>n⟩
theorem Tryz.lays156:Go.Proofs.Lays.n156 Tryz.prog Tryz.lays156_ren:={
  mixed:=by kernel_rfl
  f156:=Tryz.func164.trans (congrArg some (by kernel_rfl))
  f165:=Tryz.func199.trans (congrArg some (by kernel_rfl))
  f166:=Tryz.func200.trans (congrArg some (by kernel_rfl))
  f169:=Tryz.func201.trans (congrArg some (by kernel_rfl))
  f240:=Tryz.func236.trans (congrArg some (by kernel_rfl))
  f241:=Tryz.func237.trans (congrArg some (by kernel_rfl))
  f276:=Tryz.func268.trans (congrArg some (by kernel_rfl))
  f277:=Tryz.func269.trans (congrArg some (by kernel_rfl))
  t0:=Tryz.underlying0
  a0:=Tryz.isAgg0
  z0:=Tryz.sizeOf0
  v0:=Tryz.zeroValue0
  t3:=Tryz.underlying3
  a3:=Tryz.isAgg3
  z3:=Tryz.sizeOf3
  v3:=Tryz.zeroValue3
  t4:=Tryz.underlying4
  a4:=Tryz.isAgg4
  z4:=Tryz.sizeOf4
  v4:=Tryz.zeroValue4
  t9:=Tryz.underlying9
  a9:=Tryz.isAgg9
  z9:=Tryz.sizeOf9
  v9:=Tryz.zeroValue9
  t20:=Tryz.underlying20
  a20:=Tryz.isAgg20
  z20:=Tryz.sizeOf20
  v20:=Tryz.zeroValue20
  t31:=Tryz.underlying159
  a31:=Tryz.isAgg159
  z31:=Tryz.sizeOf159
  v31:=Tryz.zeroValue159
  t37:=Tryz.underlying190
  a37:=Tryz.isAgg190
  z37:=Tryz.sizeOf190
  v37:=Tryz.zeroValue190
  t70:=Tryz.underlying192
  a70:=Tryz.isAgg192
  z70:=Tryz.sizeOf192
  v70:=Tryz.zeroValue192
  t72:=Tryz.underlying194
  a72:=Tryz.isAgg194
  z72:=Tryz.sizeOf194
  v72:=Tryz.zeroValue194
  t75:=Tryz.underlying197
  a75:=Tryz.isAgg197
  z75:=Tryz.sizeOf197
  v75:=Tryz.zeroValue197
  t76:=Tryz.underlying198
  a76:=Tryz.isAgg198
  z76:=Tryz.sizeOf198
  v76:=Tryz.zeroValue198
  t127:=Tryz.underlying221
  a127:=Tryz.isAgg221
  z127:=Tryz.sizeOf221
  v127:=Tryz.zeroValue221
  t164:=Tryz.underlying247
  a164:=Tryz.isAgg247
  z164:=Tryz.sizeOf247
  v164:=Tryz.zeroValue247}
theorem Tryz.Builder_Extra_156:Builder.Extra Tryz.prog Tryz.lays156_ren:={
  sizeBuilder:=by kernel_rfl
  liesBuilder:=by kernel_rfl
  t5:=Tryz.underlying5
  a5:=Tryz.isAgg5
  z5:=Tryz.sizeOf5
  v5:=Tryz.zeroValue5
  infoByte:=by kernel_rfl
  cellsByte:=by kernel_rfl
  sizeByte:=by kernel_rfl
  neB5:=by decide}
open Go.RowKit in
theorem Tryz.strings_Join_none(a:Option Addr)(c:Nat)(sep:ByteArray)(w:World):
    Calls Tryz.prog 164 #[.slice a 0 c,.string sep] w fun e w'=>e=.returned (.string ⟨#[]⟩)∧w'=w:=Any.strings_Join_none Tryz.lays156 Tryz.Builder_Extra_156 a c sep w
open Go.RowKit in
theorem Tryz.strings_Join(bk o c:Nat)(xs:List ByteArray)(sep:ByteArray)(w:World)(hcells:∀(j:Nat) x,xs[j]? =some x→w.cell? ⟨bk,o+j,none⟩=some (.string x))(hbk:bk<w.heap.size)(hN:xs.length≤140737488355328)(hcap:xs.length≤c)(hlen:(Lib.join (xs.map (·.data.toList)) sep.data.toList).length≤140737488355328):
    Calls Tryz.prog 164 #[.slice (some ⟨bk,o,none⟩) xs.length c,.string sep] w fun e w'=>e=.returned (.string ⟨(Lib.join (xs.map (·.data.toList)) sep.data.toList).toArray⟩)∧Below w.heap.size w w':=Any.strings_Join Tryz.lays156 Tryz.Builder_Extra_156 bk o c xs sep w hcells hbk hN hcap hlen
end Go.Proofs
namespace Go.Proofs.YtoegnnjcmlghhaaGreat
open Bool renaming false->I,true->qR
open Go renaming Value->jp,World->jP,TypeId->ut,Operand->uL,execOp->uT,Program->Z2,undef->XS,FuncId->Wf,Tmp->Wn,Code->Wt,resolve->WR,Func->V0,wpListIn->V1,LeavesInM->V2,invoke->V3,ResultVar->V5,results->V6,Act->QR,Calls->bi,callsIn_of_wp_marks->bv,run_takeDeferred->cE,PanicEntry->cS,Ending->gC,run_endRound->iT,Loop->li,Exit->lm,Deferred->rW,Fence->Ac
open Go.Proofs.YtoegnnjcmlghhaaGreat renaming bd->G,za->Y,Zr->U,nm->B,ze->F,iq->E,zf->S,ir->P
open List renaming length->X,length->A2
open Nat renaming beq->Q
open Option renaming some->Z,none->wW
open _root_ renaming rfl->O,List->N,Int->J,Nat->K,Option->V,List->wF,Int->wN,Nat->wP,Option->wS,absurd->kW,trivial->ul,Bool->uS,Array->Z5,Unit->Wl,True->Ws
open Deferred renaming ofValue->xda
open Ending renaming returned->xeB
open Extern renaming find->xfe,findNext->xeS
open Extern.MathBitsCarry renaming m64->xbg,pair->xcr,three->xbN
open Fence renaming wide->xcW
open Int renaming fdiv->xfX,tdiv->xdC,tmod->xcG
open List renaming drop->xdT,range->xaL,replicate->So,take->xdH
open List.Perm renaming cons->xfB,swap->xdY
open Nat renaming beq->xak,ble->xfu,blt->xde,lt_of_lt_of_le->xac
open Sum renaming elim->xfj
open _root_.Array renaming getD_eq_getD_getElem?->xbw,getElem?_eq_some_iff->xbk,length_toList->xfc,replicate->xdl,toArray_toList->xcC
section
def HG(P:Z2)(cf:Cf)(n:wP)(c:Wt):Prop:=∀{R:Type}{r:R}{fr:Fr}{cx σ:Sg}{K:Tg->Sg->V R}{Q:Qd}{N:Nd},N.n=n->(N.rd=wW\/NL c=qR)->den cf c cx σ K=Z r->∀{Ds:wF wP}{H:xr}{w:jP},
 (∀t xS,K t xS=Z r->∀a b w',mM cx H b->u7 P (fr.wd a) cx xS b w'->Q (tgE t) a b w')->u7 P (fr.wd Ds) cx σ H w->Lg P N c Q Ds H w
def zqt:jp->N jp
 |.tuple us=>us.toList
 |_=>[]
def We(u:jp)(k:K):jp:=(zqt u).getD k XS
def R6(vs:K->jp)(m:K):jp:=.tuple ((xaL m).map vs).toArray
def zkF{vs:K->jp}{m k:K}(h:k<m):We (R6 vs m) k=vs k:=by simp[We,R6,zqt,h]
def tgC:Tg->Wt
 |.n=> .skip
 |.x i=> .exit i
 |.r=> .ret
 |.p _=> .skip
section
variable{P:Z2}{cf:Cf}{fr:Fr}{cx wr kp σ:Sg}{vs mK:wP->jp}{H mD:xr}{w:jP}{we:jP}{Se:wP->Prop}{F:wF MF}{G:wF FF}{n D l:wP}{ds:wF (wP×TF)}{x:JQ ds}{u:jp}{rc:li}
def zdf(P:Z2)(H:xr)(wr:Sg)(n:K)(ds:N (K×TF))(D l:K)(rc:li)(x:JQ ds)(u:jp):MF:=
 FP (mPr (Ur ds H λj=>We u<|n+j)::mFF (RS P (We u) H wr.rg)::dw l rc::qN D::(QQ (λj=>We u<|n+j) ds x 0++MS (We u) wr.ob))
def zbK(h:St we Se (zdf P H wr n ds D l rc x u::F) G w):Ur ds H (λj=>We u<|n+j)/\St we Se (dw l rc::qN D::(QQ (λj=>We u<|n+j) ds x 0++(MS (We u) wr.ob++F))) (RS P (We u) H wr.rg++G) w:=by have⟨h1,a⟩:=St.unpr<|St.grp.1 h;have b:=St.ffOut (show St we Se (mFF (RS P (We u) H wr.rg)::(dw l rc::qN D::(QQ (λj=>We u<|n+j) ds x 0++MS (We u) wr.ob)++F)) G w from a);simp_all
def zi2(d:Ur ds H λj=>vs<|n+j)(a:∀e∈wr.ob,e.1<n)(g:∀e∈wr.rg,∀o,vC e.2.2=Z o->o<n)(h:St we Se (dw l rc::qN D::(QQ (λj=>vs<|n+j) ds x 0++(MS vs wr.ob++F))) (RS P vs H wr.rg++G) w):
 St we Se (zdf P H wr n ds D l rc x (R6 vs<|n+X ds)::F) G w:=by
 have e0:∀k,k<n+X ds->We (R6 vs<|n+X ds) k=vs k:=λk i=>zkF i;have e1:RS P (We<|R6 vs<|n+X ds) H wr.rg=RS P vs H wr.rg:=uG (λe b o a=>e0 o (by have:=g e b o a;lia)) λ_ _=>O;have m:MS (We<|R6 vs<|n+X ds) wr.ob=MS vs wr.ob:=wV λe b=>e0 e.1 (by have:=a e b;lia);have p:QQ (λj=>We (R6 vs<|n+X ds)<|n+j) ds x 0=QQ (λj=>vs<|n+j) ds x 0:=iM λj c=>e0 _ W;refine St.grp.2<|St.pr ?_ ?_;intro j t f c;have:=(xaA.1 c).1;show Ay f (H t) (We (R6 vs<|n+X ds)<|n+j);rw[e0 _ W];exact d j t f c;have q:St we Se (mFF (RS P vs H wr.rg)::(dw l rc::qN D::(QQ (λj=>vs<|n+j) ds x 0++MS vs wr.ob)++F)) G w:=St.ffIn (by simpa only[xbP,xas]using h);simp_all
def NV{m:MF}{p:Prop}(h:u7 P fr cx σ H w)(a:m∈fr.F)(hp:∀S,m.p S w->p):p:=by have⟨_,vs,_,_,_,S,_,_,_,b,_⟩:=h;exact hp S<|Yw.1 b m<|xab.2 (.inr<|xab.2 (.inr a))
def zkP{it:Ha}{pt:wP}{τ:Tg}{a c:Wt}{N:wP}{fn:Wf}{tmps:Z5 jp}(hA:HG P cf N a)(hC:HG P cf N c)(hX:NL a=qR)(hY:NL c=qR)(c5:pt<N)(hZ:tmps.size=N)(hP:yf ⟨tmps,[]⟩=H)(hm:du ds=qR)
 (h0:zeL (u6 pt it.t it.E ds).ds=qR) (hJ:Wq wr.rg pt=qR) (ho:∀e∈wr.ob,e.1<n) (hr:∀e∈wr.rg,∀o,vC e.2.2=Z o->o<n):
 Sl P l it.t.rep it.E (λx u=>zdf P H wr n ds D l {state:=.ready,pending:=wW,fn:=fn,tmps:=tmps,params:= #[pt],assign:=a,body:=c,defers:=D} x u)
  (λx u=>zdf P H wr n ds D l {state:=.done,pending:=Z<|tgC τ,fn:=fn,tmps:=tmps,params:= #[pt],assign:=a,body:=c,defers:=D} x u)
  (zqN wr n ds it.t it.E pt τ (λcx σ K=>den cf a cx σ K) λcx σ K=>den cf c cx σ K):=by
 have⟨L,hn⟩:∃L:li,L={state:=.ready,pending:=wW,fn:=fn,tmps:=tmps,params:= #[pt],assign:=a,body:=c,defers:=D}:=⟨_,O⟩;have⟨M,hH⟩:∃M:li,M={L with state:=.busy}:=⟨_,O⟩;rw[<-hn];intro ys x Y q hq v u we Se F G w h9;have⟨h',h1⟩:=zbK h9;have hl:w.heap[l]? =Z (.loop L):=wI h1 (i:=0) O λS hp=>hp;have hy:=run_yield (P:=P) (args:= #[v]) hl (by rw[hn];rfl);refine⟨fn,tmps.setIfInBounds pt v,a,c,by rw[hn]at hy;simpa using hy,roundIn_of_wpIn ul ?_⟩;have⟨sh,hB⟩:∃sh,sh=u6 pt it.t it.E ds:=⟨_,O⟩;have c4:X sh.ds=X ds+1:=by rw[hB];rfl
 have hI:du sh.ds=qR:=by rw[hB];exact hm
 have⟨cp,hc⟩:∃cp,cp=cpR wr n sh:=⟨_,O⟩;have hQ:∀{j t:wP}{f:TF},ds[j]? =Z (t,f)->t≠pt:=λT=>zls (a:=(pt,.own it.t it.E)) h0 T;have⟨b,hu⟩:∃b,b=put H (some pt) v:=⟨_,O⟩;have a4:b pt=v:=by rw[hu];exact DA
 have a3:∀t,t≠pt->b t=H t:=λt ht=>by rw[hu];exact nF<|λe=>ht<|by cases e;rfl
 have a5:∀e∈wr.rg,b e.1=H e.1:=λe he=>a3 e.1 λh=>by
  simp only[Wq,xaV]at hJ;have:=hJ e he;rw[h]at this;simp at this
 have⟨g,hD⟩:∃g:wP->jp,g=λk=>if k<n then We u k else if k=n then v else We u (k-1):=⟨_,O⟩;have a6:∀k,k<n->g k=We u k:=λk hk=>by rw[hD];exact E hk
 have b0:g n=v:=by rw[hD];simp
 have a7:∀j,g (n+(j+1))=We u (n+j):=λj=>by
  rw[hD];simp only;rw[zF,zF,(W:n+(j+1)-1=n+j)]
 have hK:Ur sh.ds b λj=>g (n+j):=by
  rw[hB];intro j t f T
  cases j with
  |zero=>
   simp only[u6,xbE,xav,xcR]at T;obtain⟨rfl,rfl⟩:=T;show b pt=g (n+0);rw[a4,xbV,b0]
  |succ j=>
   have T:ds[j]? =Z (t,f):=by simpa[u6]using T
   show Ay f (b t) (g<|n+(j+1));rw[a7,a3 t<|hQ T];exact h' j t f T
 have hE:Bd cp ⟨n+X sh.ds,[],[]⟩:=by
  rw[hc];refine⟨λ_ he=>kW he H1,λe he=> ?_,λ_ he=>kW he H1,λe he o hf=> ?_⟩;have:=ho e he;show e.1<n+_;lia;show o<n+_;rcases xab.1 (show e∈BM sh.ds n++wr.rg from he)with he|he
  exact OZ e he o hf;have:=hr e he o hf;lia
 have b1:u7 P (Fr.wd ⟨we,Se,dw l L::qN D::F,G⟩ []) cp (JU sh (hB▸Iz (a:=(pt,.own it.t it.E)) ys x) ⟨n,[],[]⟩) b w:=by
  subst hB;refine zhf (vs:=g) (kp:=⟨n,[],[]⟩) hI hK (zl6 hI (λ_ he=>kW he H1) (λe he=>hE.o2 e he) (λ_ he=>kW he H1) λe he o hf=>hE.r2 e he o hf) ?_;have e1:QQ (λj=>g<|n+j) (u6 pt it.t it.E ds).ds (Iz (a:=(pt,.own it.t it.E)) ys x) 0=mO it.t.rep it.E v ys::QQ (λj=>We u<|n+j) ds x 0:=by
   refine(Pt (U:=λj=>g<|n+j) (a:=(pt,.own it.t it.E)) (l:=ds) (y:=ys) (x:=x) (i:=0)).trans ?_;show mO it.t.rep it.E (g<|n+0) ys::QQ _ ds x (0+1)=_;rw[xbV,b0,iM (U:=λj=>g<|n+j) (V:=λj=>We u<|n+j) (i:=0+1) (k:=0) λj _=>by
    show g (n+(0+1+j))=We u (n+(0+j));rw[(W:0+1+j=j+1),a7,xaM]]
  have e2:MS g cp.ob=MS (We u) wr.ob:=by rw[hc];exact wV λe he=>a6 _<|ho e he
  show St we Se (QQ (λj=>g<|n+j) (u6 pt it.t it.E ds).ds (Iz (a:=(pt,.own it.t it.E)) ys x) 0++([]++(MS g cp.ob++([]++(dw l L::qN D::F))))) ([]++(RS P g b cp.rg++G)) w;rw[e1,e2];have h2:St we Se (mO it.t.rep it.E v ys::QQ (λj=>We u<|n+j) ds x 0++([]++(MS (We u) wr.ob++([]++(dw l L::qN D::F))))) (RS P (We u) H wr.rg++G) w:=by
   refine h1.perm ?_;simp only[xbO,xbP];have p1:(dw l L::qN D::(QQ (λj=>We u<|n+j) ds x 0++(MS (We u) wr.ob++mO it.t.rep it.E v ys::F))).Perm (mO it.t.rep it.E v ys::(dw l L::qN D::(QQ (λj=>We u<|n+j) ds x 0++(MS (We u) wr.ob++F)))):=by have:=xce (a:=mO it.t.rep it.E v ys) (l₁:=dw l L::qN D::(QQ (λj=>We u<|n+j) ds x 0++MS (We u) wr.ob)) (l₂:=F);simpa only[xbP,xas]using this
   refine p1.trans<|xfB _ ?_;have p2:([dw l L,qN D]++((QQ (λj=>We u<|n+j) ds x 0++MS (We u) wr.ob)++F)).Perm ((QQ (λj=>We u<|n+j) ds x 0++MS (We u) wr.ob)++([dw l L,qN D]++F)):=xed ..;simpa only[xbP,xas,xbO]using p2
  refine h2.weak (Δ:=RS P g b cp.rg++G) λS w ha=>zD.append ?_<|zD.right ha;rw[hc];show zD S (RS P g b<|BM (u6 pt it.t it.E ds).ds n++wr.rg) w;rw[fK];refine zD.append (zgh (i:=0) hI λj t f T=>by rw[xaM];exact hK j t f T) ?_;rw[uG (vs:=We u) (H:=H) (λe he o hf=>a6 o<|hr e he o hf) a5];exact zD.left ha
 have⟨N1,hg⟩:∃N1:Nd,N1=⟨N,[],some l⟩:=⟨_,O⟩;have hS:(⟨tmps.setIfInBounds pt v,[]⟩:QR).tmps.size=N1.n:=by rw[hg];simpa using hZ
 have hT:yf ⟨tmps.setIfInBounds pt v,[]⟩=b:=by have:=Wz (a:=⟨tmps,[]⟩) (d:=Z pt) (v:=v) (λt ht=>by cases ht;show pt<tmps.size;lia);rw[hu,<-hP];exact this
 subst hB
 have b2:=hA (N:=N1) (fr:=⟨we,Se,dw l L::qN D::F,G⟩) (Ds:=[]) (by rw[hg]) (.inr hX) (show den cf a cp _ _=Z (Y,q)from by rw[hc];exact hq)
  (Q:=λe a0 mD w'=>e=.normal/\∃xS,den cf c cp xS (zo3 cp ds it.t it.E pt τ)=Z (Y,q)/\mM cp b mD/\u7 P (Fr.wd ⟨we,Se,dw l L::qN D::F,G⟩ a0) cp xS mD w')
  (λt xS hk a0 mD w' hs hR=>by
   cases t with
   |n=>exact⟨O,xS,by rw[hc];exact hk,hs,hR⟩
   |x i=>cases hk
   |r=>cases hk
   |p q=>cases hk) b1
 have hU:=b2 ⟨tmps.setIfInBounds pt v,[]⟩ hS (by rw[hg];rfl) hT;rw[hg]at hU;refine WL hU ?_;rintro e a1 w1 ⟨q1,a0,q2,rfl,xS,hk,hs,hR⟩;have b3:w1.heap[l]? =Z (.loop L):=NV hR (m:=dw l L) (xab.2 (.inr<|IR)) λS hp=>hp;refine⟨w1.putObj l (.loop M),by rw[hH];exact run_beginRound b3 (by rw[hn]),?_⟩;have b4:u7 P (Fr.wd ⟨we,Se,dw l M::qN D::F,G⟩ a0) cp xS (yf a1) (w1.putObj l (.loop M)):=MV (A:=a0.map qN) (m:=dw l L) (m':=dw l M) (B:=qN D::F) hR (λk=>Iff.rfl) (λk h=>h) λS w' h=>h
 have c0:=hC (N:=N1) (fr:=⟨we,Se,dw l M::qN D::F,G⟩) (Ds:=a0) (by rw[hg]) (.inr hY) hk
  (Q:=λe C mD w'=>∃t J,e=tgE t/\zo3 cp ds it.t it.E pt τ t J=Z (Y,q)/\mM cp (yf a1) mD/\u7 P (Fr.wd ⟨we,Se,dw l M::qN D::F,G⟩ C) cp J mD w')
  (λt J hk C mD w' hs hR=>⟨t,J,O,hk,hs,hR⟩) b4
 have hV:=c0 a1 (by rw[hg];exact q1) (by rw[hg];exact q2) O;rw[hg]at hV;refine WL hV ?_;rintro e a2 w2 ⟨p1,C,p2,t,J,rfl,hd,c1,hv⟩;have hN:w2.heap[l]? =Z (.loop M):=NV hv (m:=dw l M) (xab.2 (.inr<|IR)) λS hp=>hp;have hO:=hs.trans c1
 have R:∀(z:JQ (u6 pt it.t it.E ds).ds) (rc:li),u7 P (Fr.wd ⟨we,Se,dw l M::qN D::F,G⟩ C) cp (JU (u6 pt it.t it.E ds) z ⟨n+(u6 pt it.t it.E ds).ds.length,[],[]⟩) (yf a2) w2->
  ∃u',St we Se (zdf P H wr n ds D l rc (mV z).2 u'::mO it.t.rep it.E v (mV z).1::F) G (w2.putObj l (.loop rc)):=by
  intro z rc hw;have c2:=MV (A:=C.map qN) (m:=dw l M) (m':=dw l rc) (B:=qN D::F) hw (λk=>Iff.rfl) (λk h=>h) (o:=.loop rc) λS w' h=>h;have⟨vs2,hF,c6,hL⟩:=zcb (ds:=(u6 pt it.t it.E ds).ds) hI c2;have⟨m,c3⟩:∃m,m=n+(u6 pt it.t it.E ds).ds.length:=⟨_,O⟩;rw[<-c3]at hF hL;have z0:vs2 m=v:=by have h2:yf a2 pt=vs2 (m+0):=hF 0 pt (.own it.t it.E) O;have⟨e,he,h3⟩:=EB (ds:=(u6 pt it.t it.E ds).ds) (n:=n) (j:=0) (t:=pt) (f:=.own it.t it.E) O;have h4:=hO e (by rw[hc];exact xab.2 (.inl he));rw[h3,a4]at h4;rw[xbV]at h2;exact h2.symm.trans h4
  have⟨s,hM⟩:∃s:wP->jp,s=λk=>if k<n then vs2 k else vs2 (m+1+(k-n)):=⟨_,O⟩;have a8:∀k,k<n->s k=vs2 k:=λk hk=>by rw[hM];exact E hk
  have a9:∀j,s (n+j)=vs2 (m+(j+1)):=λj=>by
   rw[hM];simp only;rw[zF,(W:m+1+(n+j-n)=m+(j+1))]
  have hW:Ur ds H λj=>s (n+j):=by intro j t f T;have h2:=hF (j+1) t f (by simpa[u6]using T);have⟨e,he,h3⟩:=EB (ds:=(u6 pt it.t it.E ds).ds) (n:=n) (j:=j+1) (t:=t) (f:=f) (by simpa[u6]using T);have h4:=hO e (by rw[hc];exact xab.2 (.inl he));rw[h3,a3 t<|hQ T]at h4;show Ay f (H t) (s<|n+j);rw[a9,<-h4];exact h2
  refine⟨_,zi2 (F:=mO it.t.rep it.E v (mV z).1::F) hW ho hr ?_⟩;have e1:QQ (λj=>vs2<|m+j) (u6 pt it.t it.E ds).ds z 0=mO it.t.rep it.E v (mV z).1::QQ (λj=>s<|n+j) ds (mV z).2 0:=by
   refine(Z4 (λz=>QQ (λj=>vs2<|m+j) (u6 pt it.t it.E ds).ds z 0)<|zij (a:=(pt,.own it.t it.E)) (l:=ds) z).trans ?_;refine(Pt (U:=λj=>vs2<|m+j) (a:=(pt,.own it.t it.E)) (l:=ds) (y:=(mV (a:=(pt,.own it.t it.E)) z).1) (x:=(mV (a:=(pt,.own it.t it.E)) z).2) (i:=0)).trans ?_;show mO it.t.rep it.E (vs2<|m+0) (mV z).1::QQ _ ds (mV z).2 (0+1)=_;rw[xbV,z0,iM (U:=λj=>vs2<|m+j) (V:=λj=>s<|n+j) (i:=0+1) (k:=0) λj _=>by
    show vs2 (m+(0+1+j))=s (n+(0+j));rw[(W:0+1+j=j+1),xaM,a9]]
  have e2:MS vs2 cp.ob=MS s wr.ob:=by rw[hc];exact wV λe he=>(a8 _<|ho e he).symm
  have h5:St we Se (QQ (λj=>vs2<|m+j) (u6 pt it.t it.E ds).ds z 0++(MS vs2 cp.ob++(C.map qN++dw l rc::qN D::F))) (RS P vs2 (yf a2) cp.rg++G) (w2.putObj l (.loop rc)):=hL;rw[e1,e2]at h5;have h6:St we Se ((mO it.t.rep it.E v (mV z).1::QQ (λj=>s<|n+j) ds (mV z).2 0++MS s wr.ob)++(dw l rc::qN D::F)) (RS P vs2 (yf a2) cp.rg++G) (w2.putObj l (.loop rc)):=St.dropM (B:=C.map qN) (by simpa only[xas]using h5);have h7:St we Se (dw l rc::qN D::(QQ (λj=>s<|n+j) ds (mV z).2 0++(MS s wr.ob++(mO it.t.rep it.E v (mV z).1::F)))) (RS P vs2 (yf a2) cp.rg++G) (w2.putObj l (.loop rc)):=by refine h6.perm ?_;have p1:((QQ (λj=>s<|n+j) ds (mV z).2 0++MS s wr.ob)++([dw l rc,qN D]++F)).Perm ([dw l rc,qN D]++((QQ (λj=>s<|n+j) ds (mV z).2 0++MS s wr.ob)++F)):=xed ..;have p2:=xce (a:=mO it.t.rep it.E v (mV z).1) (l₁:=dw l rc::qN D::(QQ (λj=>s<|n+j) ds (mV z).2 0++MS s wr.ob)) (l₂:=F);have p3:=(p1.cons<|mO it.t.rep it.E v (mV z).1).trans (by simpa only[xbP,xas,xbO]using p2.symm);simpa only[xbP,xas,xbO]using p3
  refine h7.weak λS w ha=>zD.append ?_<|zD.right ha;have h8:zD S (RS P vs2 (yf a2)<|BM (u6 pt it.t it.E ds).ds n++wr.rg) w:=by have:=zD.left ha;rw[hc]at this;exact this
  rw[fK]at h8;rw[uG (vs:=vs2) (H:=yf a2) (λe he o hf=>a8 o<|hr e he o hf) λe he=> ?_];exact zD.right h8;have h4:=hO e (by rw[hc];exact xab.2 (.inr he));rw[a5 e he]at h4;exact h4.symm
 cases t with
 |n=>
  have⟨z,hz,hi⟩:=mH (P:=P) (cx:=cp) (kp:=⟨n+(u6 pt it.t it.E ds).ds.length,[],[]⟩) (show bh (jj cp ⟨n+(u6 pt it.t it.E ds).ds.length,[],[]⟩) (u6 pt it.t it.E ds) J (λz=>Z ((mV z).1,Sum.inl (mV z).2))=Z (Y,q)from by rw[hc]at hd⊢;exact hd) hE;cases hz;have hw:=hi (Fr.wd ⟨we,Se,dw l M::qN D::F,G⟩ C) (yf a2) w2 (by rw[hc]at hv⊢;exact hv);refine⟨_,_,iT wW hN,O,?_⟩;have hG:({M with state:=if(wW:wS Wt).isNone then .ready else .done,pending:=wW}:li)=L:=by rw[hH,hn];rfl
  rw[hG];exact R z L hw
 |x i=>
  have⟨ht,hd⟩:=yo hd;have⟨z,hz,hi⟩:=mH (P:=P) (cx:=cp) (kp:=⟨n+(u6 pt it.t it.E ds).ds.length,[],[]⟩) (show bh (jj cp ⟨n+(u6 pt it.t it.E ds).ds.length,[],[]⟩) (u6 pt it.t it.E ds) J (λz=>Z ((mV z).1,Sum.inr (mV z).2))=Z (Y,q)from by rw[hc]at hd⊢;exact hd) hE;cases hz;have hw:=hi (Fr.wd ⟨we,Se,dw l M::qN D::F,G⟩ C) (yf a2) w2 (by rw[hc]at hv⊢;exact hv);refine⟨_,_,iT (Z (.exit i)) hN,O,?_⟩;have hG:({M with state:=if(Z<|Code.exit i).isNone then .ready else .done,pending:=Z (.exit i)}:li)={state:=.done,pending:=Z<|tgC τ,fn:=fn,tmps:=tmps,params:= #[pt],assign:=a,body:=c,defers:=D}:=by rw[hH,hn,zim (λ_ e=>by cases e) ht];rfl
  rw[hG];exact R z _ hw
 |r=>
  have⟨ht,hd⟩:=yo hd;have⟨z,hz,hi⟩:=mH (P:=P) (cx:=cp) (kp:=⟨n+(u6 pt it.t it.E ds).ds.length,[],[]⟩) (show bh (jj cp ⟨n+(u6 pt it.t it.E ds).ds.length,[],[]⟩) (u6 pt it.t it.E ds) J (λz=>Z ((mV z).1,Sum.inr (mV z).2))=Z (Y,q)from by rw[hc]at hd⊢;exact hd) hE;cases hz;have hw:=hi (Fr.wd ⟨we,Se,dw l M::qN D::F,G⟩ C) (yf a2) w2 (by rw[hc]at hv⊢;exact hv);refine⟨_,_,iT (Z .ret) hN,O,?_⟩;have hG:({M with state:=if(Z Code.ret).isNone then .ready else .done,pending:=Z .ret}:li)={state:=.done,pending:=Z<|tgC τ,fn:=fn,tmps:=tmps,params:= #[pt],assign:=a,body:=c,defers:=D}:=by rw[hH,hn,zim (λ_ e=>by cases e) ht];rfl
  rw[hG];exact R z _ hw
 |p q=>cases hd
end
end
section
section
variable{P:Z2}{cf:Cf}{fr:Fr}{cx σ:Sg}{H:xr}{w:jP}{R:Type}{r:R}
def zkp(hX:Bp P cf){g:uL}{a c:Wt}{N:Nd}{K:Tg->Sg->V R}{Q:Qd}{s:Lp}{it:Ha}{y:aH it.dom}{τ:Tg}{pt:wP}{ags:wF wP}{cs:wF PD}{Ds:wF wP}
 (hA:HG P cf N.n a) (hC:HG P cf N.n c) (hS:NL a=qR) (hT:NL c=qR) (hU:N.rd=wW) (hV:pt<N.n) (hg:xG cx σ g=Z (.fn it.f cs)) (hY:it∈cf.is) (hy:cQ it.dom cs=Z y) (hv:s.hd.ns=[])
 (h:zbg cx σ K s it y τ pt ags (λcx σ K=>den cf a cx σ K) (λcx σ K=>den cf c cx σ K)=Z r)
 (hK:∀t xS,K t xS=Z r->∀Ds' mD w',mM cx H mD->u7 P (fr.wd Ds') cx xS mD w'->Q (tgE t) Ds' mD w') (hR:u7 P (fr.wd Ds) cx σ H w):Lg P N (.rangeFunc g #[pt] a c) Q Ds H w:=by
 obtain⟨⟨ds,ns⟩,sg⟩:=s;simp only at hv;subst hv;obtain⟨h',hz⟩:=LJ hy;obtain⟨hB,vs,hD⟩:=hR;obtain⟨S0,_,hΓ⟩:=hD.ex;obtain⟨cvs,hE,h9,hca⟩:=zj hg<|zO hΓ g;have hZ:u7 P ⟨fr.we,fr.Se,Ds.map qN++fr.F,jQ P it.dom y cvs++fr.G⟩ cx σ H w:=⟨hB,vs,hD.weak λS w ha=>zD.append (zD.left ha) (zD.append (zD.left<|zD.right ha) (zD.append (by
  obtain⟨cvs',hF,h0,hG⟩:=zj hg<|zO ha g;rw[hE]at hF;have:cvs=cvs':=by simpa using hF
  subst this;exact hz h0 hG) (zD.right (zD.right ha))))⟩
 unfold zbg at h;simp only at h;obtain⟨hi,h⟩:=yo h;simp only[xae]at hi;obtain⟨hm,⟨hH,h5⟩,hl⟩:=hi;obtain⟨hc,hI⟩:=EY (ag:=ags) (ro:=sg.ro) hZ;obtain⟨kp,h6⟩:∃kp,kp=keep σ ags sg.ro:=⟨_,O⟩;rw[<-h6]at h hc hI hl;obtain⟨x0,h1,h2⟩:=mH (P:=P) (cx:=jj cx kp) (kp:=⟨kp.nx,[],[]⟩) h<|Mz hc;obtain⟨r',h3,h4⟩:=B6 h1;obtain⟨vs0,hJ,hB0,hL⟩:=zcb (ds:=ds) hm<|h2 _ H w hI;obtain⟨hb,hM⟩:=hX.is it hY;have ho:∀e∈(jj cx kp).ob,e.1<kp.nx:=λe he=>by
  rcases xab.1 he with he|he
  ·exact hc.o1 e he
  ·exact hc.o2 e he
 have hr:∀e∈(jj cx kp).rg,∀o,vC e.2.2=Z o->o<kp.nx:=λe he o hf=>by
  rcases xab.1 he with he|he
  ·exact hc.r1 e he o hf
  ·exact hc.r2 e he o hf
 intro a0 g1 g2 g3;refine wpIn_rangeFunc ?_;intro fn hfn;rw[show N.F.round=wW from hU];obtain⟨rR,hj⟩:∃rR:li,rR={state:=.ready,pending:=wW,fn:=fn,tmps:=a0.tmps,params:= #[pt],assign:=a,body:=c,defers:=w.heap.size}:=⟨_,O⟩;obtain⟨rD,hn⟩:∃rD:li,rD={state:=.done,pending:=Z<|tgC τ,fn:=fn,tmps:=a0.tmps,params:= #[pt],assign:=a,body:=c,defers:=w.heap.size}:=⟨_,O⟩;have hN:=run_enterLoop_outer (P:=P) (w:=w) fn a0.tmps #[pt] a c;rw[<-hj]at hN;have hW:St fr.we fr.Se (dw (w.heap.size+1) rR::qN w.heap.size::(QQ (λj=>vs0<|kp.nx+j) ds x0 0++(MS vs0 (jj cx kp).ob++(Ds.map qN++fr.F)))) (RS P vs0 H (jj cx kp).rg++(jQ P it.dom y cvs++fr.G)) ((w.alloc (.deferred<|some [])).alloc (.loop rR)):=by
  have q1:=St.allocObj (o:=.deferred<|some []) (m:=qN w.heap.size) hL (λk hk=>hk)<|λS w' hw=>hw;have hO:(w.alloc (.deferred<|some [])).heap.size=w.heap.size+1:=World.size_alloc ..;refine St.allocObj (o:=.loop rR) (m:=dw (w.heap.size+1) rR) q1 (λk hk=>by rw[hO];exact hk)<|λS w' hw=> ?_;rw[hO]at hw;exact hw
 have h7:=zi2 (x:=x0) hJ ho hr hW;have hP:=zkP (P:=P) (cf:=cf) (wr:=jj cx kp) (H:=H) (n:=kp.nx) (D:=w.heap.size) (l:=w.heap.size+1) (ds:=ds) (it:=it) (pt:=pt) (τ:=τ) (a:=a) (c:=c) (N:=N.n) (fn:=fn) (tmps:=a0.tmps) hA hC hS hT hV g1 g3 hm h5 hl ho hr;rw[<-hj,<-hn]at hP;have hq:=hM y _ _ _ _ _ x0 r' h3 (w.heap.size+1) cvs (by lia) hP _ fr.we fr.Se _ fr.G _ h7
 have close:∀(rc:li) (x:JQ ds) (u':jp) (w3:jP),St fr.we fr.Se (zdf P H (jj cx kp) kp.nx ds w.heap.size (w.heap.size+1) rc x u'::(Ds.map qN++fr.F)) fr.G w3->
  w3.heap[w.heap.size+1]? =Z (.loop rc)/\∀o,u7 P (fr.wd (w.heap.size::Ds)) cx (JU ⟨ds,[]⟩ x kp) H (w3.putObj (w.heap.size+1) (.loop o)):=by
  intro rc x u' w3 hs;obtain⟨h8,q1⟩:=zbK hs;refine⟨wI q1 (i:=0) O λS hp=>hp,λo=> ?_⟩;have q2:=St.putObj (m':=dw (w.heap.size+1) o) (o:=.loop o) q1 (λk=>Iff.rfl) (λk hk=>hk)<|λS w' hw=>hw;have q3:St fr.we fr.Se ([qN w.heap.size]++(QQ (λj=>We u'<|kp.nx+j) ds x 0++(MS (We u') (jj cx kp).ob++(Ds.map qN++fr.F)))) (RS P (We u') H (jj cx kp).rg++fr.G) (w3.putObj (w.heap.size+1) (.loop o)):=St.drop (i:=0) q2;refine zhf (vs:=We u') hm h8 (zl6 hm (λe he=>xac (hc.o1 e he)<|xbL _ _) (λe he=>xac (hc.o2 e he)<|xbL _ _) (λe he o hf=>xac (hc.r1 e he o hf)<|xbL _ _) λe he o hf=>xac (hc.r2 e he o hf)<|xbL _ _) ?_;have e1:MS (We u') (jj cx kp).ob=MS (We u') kp.ob++MS (We u') cx.ob:=xaU;have e2:RS P (We u') H (jj cx kp).rg=RS P (We u') H kp.rg++RS P (We u') H cx.rg:=xaU;rw[e1,e2]at q3;have q4:St fr.we fr.Se ((QQ (λj=>We u'<|kp.nx+j) ds x 0++(MS (We u') kp.ob++MS (We u') cx.ob))++([qN w.heap.size]++(Ds.map qN++fr.F))) ((RS P (We u') H kp.rg++RS P (We u') H cx.rg)++fr.G) (w3.putObj (w.heap.size+1) (.loop o)):=by
   refine q3.perm ?_;rw[<-xas<|QQ _ _ _ _];exact xed ..
  show St fr.we fr.Se (QQ _ ds x 0++(MS (We u') kp.ob++(MS (We u') cx.ob++((qN w.heap.size::Ds.map qN)++fr.F)))) (RS P (We u') H kp.rg++(RS P (We u') H cx.rg++fr.G)) _;simpa only[xas,xbP,xbO]using q4
 refine⟨w.heap.size+1,[Td w.heap.size],((w.alloc (.deferred<|some [])).alloc (.loop rR)),{target:=.fn (.func it.f) cvs.toArray,args:= #[.func (.yield<|w.heap.size+1) #[] #[]]},((w.alloc (.deferred<|some [])).alloc (.loop rR)),it.f,#[.func (.yield<|w.heap.size+1) #[] #[]]++cvs.toArray,((w.alloc (.deferred<|some [])).alloc (.loop rR)),hN,?_,λ_ _=>ul,?_,λe=>by simp[Nd.F,xcW]at e,?_⟩
 ·have:a0.eval g=.func (.func it.f) #[] cvs.toArray:=by rw[KX,g3];exact hE
  simp only[WR,this];simp[go_sem]
 ·simp[V3,go_sem,qw hb]
 ·have ht:(#[.func (.yield<|w.heap.size+1) #[] #[]]++cvs.toArray:Z5 jp)=(Value.func (.yield<|w.heap.size+1) #[] #[]::cvs).toArray:=by simp
  rw[ht];refine CallsIn.mono (callsIn_wide.2 hq) ?_;rintro e w3 ⟨⟨v,rfl⟩,u',hs⟩
  cases hQ:r' with
  |inl x=>
   rw[hQ]at hs h4;obtain⟨hu,hd⟩:=close rR x u' w3 hs;refine⟨wW,_,by have:=run_endLoop (P:=P) hu (by rw[hj];simp);rw[hj]at this;exact this,?_⟩;exact⟨g1,w.heap.size::Ds,by show[Td w.heap.size]++a0.defers=_;rw[g2];rfl,hK .n _ h4 _ _ _ (by rw[<-g3];exact mM.refl)<|by rw[<-g3]at hd;exact hd _⟩
  |inr x=>
   rw[hQ]at hs h4;obtain⟨hu,hd⟩:=close rD x u' w3 hs;refine⟨Z<|tgC τ,_,by have:=run_endLoop (P:=P) hu (by rw[hn];simp);rw[hn]at this;exact this,?_⟩;have fin:∀o,zmd N Q (tgE τ) {a0 with defers:=[Td w.heap.size]++a0.defers} (w3.putObj (w.heap.size+1) (.loop o)):=λo=>⟨g1,w.heap.size::Ds,by show[Td w.heap.size]++a0.defers=_;rw[g2];rfl,hK τ _ h4 _ _ _ (by rw[<-g3];exact mM.refl)<|by rw[<-g3]at hd;exact hd _⟩
   cases τ with
   |n=>exact wpIn_skip<|fin _
   |x i=>exact wpIn_exit<|fin _
   |r=>exact wpIn_ret<|fin _
   |p q=>cases hH
end
end
section
section
variable{P:Z2}{cf:Cf}
def YG(D:P.follows .mixedOrders=qR)(E:y6 P cf.tt)(F:ua P cf.tt)(J:∀s∈cf.cs,y8 P s)(C:Bp P cf){n:wP}:∀(c:Wt),OB n c=qR->HG P cf n c
 |.skip,_,R,r,fr,cx,σ,K,Q,N,z,B,h,Ds,H,w,o,d=>λ_ h1 L T=>wpIn_skip ⟨h1,Ds,L,T▸o .n σ h Ds H w mM.refl d⟩
 |.label _,_,R,r,fr,cx,σ,K,Q,N,z,B,h,Ds,H,w,o,d=>λ_ h1 L T=>wpIn_label ⟨h1,Ds,L,T▸o .n σ h Ds H w mM.refl d⟩
 |.exit id,_,R,r,fr,cx,σ,K,Q,N,z,B,h,Ds,H,w,o,d=>λ_ h1 L T=>wpIn_exit ⟨h1,Ds,L,T▸o (.x id) σ h Ds H w mM.refl d⟩
 |.ret,_,R,r,fr,cx,σ,K,Q,N,z,B,h,Ds,H,w,o,d=>λ_ h1 L T=>wpIn_ret ⟨h1,Ds,L,T▸o .r σ h Ds H w mM.refl d⟩
 |.scope c,v,R,r,fr,cx,σ,K,Q,N,z,B,h,Ds,H,w,o,d=>by
  refine zeu<|YG D E F J C c v (K:=K) z B h (λt xS u i m w' A d=> ?_) d;have:=o t xS u i m w' A d;cases t<;>exact this
 |.region id a5 dr,v,R,r,fr,cx,σ,K,Q,N,z,B,h,Ds,H,w,o,d=>by
  subst z;refine znR ?_;have:=Fu (id:=id) (N:=N.wd Ds) (fr:=fr.wd Ds) D E F J C (Q:=λe H w=>Q e Ds H w) (kp:=λq σ=>K (.p q) σ) (k:=λσ=>K .n σ) (λq xS u m w' A d=>o (.p q) xS u Ds m w' A d) (λxS u m w' A d=>o .n xS u Ds m w' A d) v h d;rwa[xcC]at this
 |.cond c a b,v,R,r,fr,cx,σ,K,Q,N,z,B,h,Ds,H,w,o,d=>by
  have v:=(xae _ _).mp v;have hd:N.rd=wW\/NL a=qR:=B.imp id λh=>((xae _ _).mp h).1;have hf:N.rd=wW\/NL b=qR:=B.imp id λh=>((xae _ _).mp h).2;simp only[den]at h;have⟨hB,vs,ht⟩:=d;have d:u7 P (fr.wd Ds) cx σ H w:=⟨hB,vs,ht⟩;have⟨S,_,a0⟩:=ht.ex;split at h
  next hv=>exact Dn (zj hv<|zO a0 c)<|YG D E F J C a v.1 z hd h o d
  next hv=>exact Dx (zj hv<|zO a0 c)<|YG D E F J C b v.2 z hf h o d
  rename_i x hv;have hx:ev H c=.bool x:=rI<|zj hv<|zO a0 c;rcases SI h with⟨rfl,h⟩|⟨rfl,h⟩
  exact Dn hx<|YG D E F J C a v.1 z hd h o d;exact Dx hx<|YG D E F J C b v.2 z hf h o d;cases h
 |.block id c,v,R,r,fr,cx,σ,K,Q,N,z,B,h,Ds,H,w,o,d=>by
  refine Il (YG D E F J C c v (K:=λt σ=>match t with
   |.x j=>OA (xak j id) (K .n σ)<|K (.x j) σ
   |t=>K t σ) z B h (λt xS u i m w' A d=> ?_) d)
  cases t with
  |n=>exact o .n xS u i m w' A d
  |r=>exact o .r xS u i m w' A d
  |p q=>exact o (.p q) xS u i m w' A d
  |x j=>
   simp only at u;show L7 id Q (.exit j) i m w';simp only[L7];cases hb:xak j id<;>rw[hb]at u
   exact o (.x j) xS u i m w' A d;exact o .n xS u i m w' A d
 |.seq a b,v,R,r,fr,cx,σ,K,Q,N,z,B,h,Ds,H,w,o,d=>by
  have v:=(xae _ _).mp v;have hd:N.rd=wW\/NL a=qR:=B.imp id λh=>((xae _ _).mp h).1;have hf:N.rd=wW\/NL b=qR:=B.imp id λh=>((xae _ _).mp h).2;simp only[den]at h;split at h;refine Cq<|YG D E F J C a v.1 z hd h (λt xS u i m w' A d=> ?_) d
  cases t with
  |n=>exact YG D E F J C b v.2 z hf u (λt a1 hj a2 M w2 hn hp=>o t a1 hj a2 M w2 (A.trans hn) hp) d
  |x j=>exact o (.x j) xS u i m w' A d
  |r=>exact o .r xS u i m w' A d
  |p q=>exact o (.p q) xS u i m w' A d
  rename_i s A;have⟨x,h1,L⟩:=B6 h;have⟨hc,hq⟩:=EY (ag:=FW a) (ro:=s.ro) d
  refine Cq (zgS (YG D E F J C a v.1 (Q:=λe Ds m w=>∃t l,e=tgE t/\(match t with
   |.n=>den cf b cx l K
   |t=>K t l)=Z r/\mM cx H m/\u7 P (fr.wd Ds) cx l m w) z hd h1 (λt xS u i m w' A d=> ?_) hq) ?_)
  have⟨y,l,e1,U,Y⟩:=PS (P:=P) hc u;cases e1
  have e4:=(U λt σ=>match t with
   |.n=>den cf b cx σ K
   |t=>K t σ).symm.trans L
  exact⟨t,l,O,by cases t<;>exact e4,λe he=>A e<|xab.2 (.inr he),Y _ m w' d⟩;rintro e i m w' ⟨t,l,rfl,u,hi,d⟩
  cases t with
  |n=>exact YG D E F J C b v.2 z hf u (λt a1 hj a2 M w2 hn hp=>o t a1 hj a2 M w2 (hi.trans hn) hp) d
  |x j=>exact o (.x j) l u i m w' hi d
  |r=>exact o .r l u i m w' hi d
  |p q=>exact o (.p q) l u i m w' hi d
 |.loop c,v,R,r,fr,cx,σ,K,Q,N,z,B,h,Ds,H,w,o,d=>by
  simp only[den]at h;split at h;cases h
  rename_i s A;have⟨hc,hq⟩:=EY (ag:=FW c) (ro:=s.sg.ro) d;have⟨x,h1,L⟩:=mH (P:=P) (cx:=jj cx<|keep σ (FW c) s.sg.ro) (kp:=⟨(keep σ (FW c) s.sg.ro).nx,[],[]⟩) h<|Mz hc;have⟨s0,T,h4⟩:=B6 h1;refine Sj (G:=wP×JQ s.hd.ds) (λg Ds m w=>zg _ g.1 g.2=Z s0/\mM cx H m/\u7 P (fr.wd Ds) (jj cx<|keep σ (FW c) s.sg.ro) (JU s.hd g.2 ⟨(keep σ (FW c) s.sg.ro).nx,[],[]⟩) m w) (λg=>g.1) (cf.fu,x) ⟨T,mM.refl,L _ H w hq⟩ ?_;rintro⟨n',x⟩ Ds a4 w ⟨hl,hA,d⟩
  cases n' with
  |zero=>exact(zca hl).elim
  |succ n'=>
   refine YG D E F J C c v z B (zbV hl) (λt xS u i m w' A d=> ?_) d;have hu:mM cx H m:=hA.trans λe he=>A e<|xab.2 (.inr he);have a3:(∀(y:SmD s.sg.tg) (l:Sg),Z y=Z s0->(∀{R':Type} (K:Tg->Sg->V R'),OJ (keep σ (FW c) s.sg.ro) K s.sg.tg y=K t l)->u7 P (fr.wd i) cx l m w'->Q (tgE t) i m w'):=λy l e1 U Y=>by
    cases e1;exact o t l (by rw[<-h4];exact(U K).symm) i m w' hu Y
   cases t with
   |n=>
    have⟨x',h5,h6⟩:=mH (P:=P) (cx:=jj cx<|keep σ (FW c) s.sg.ro) (kp:=⟨(keep σ (FW c) s.sg.ro).nx,[],[]⟩) u<|Mz hc;exact⟨(n',x'),⟨h5,hu,h6 _ m w' d⟩,xdO n'⟩
   |x j=>
    have⟨y,l,e1,U,Y⟩:=PS (P:=P) hc u;exact a3 y l e1 U<|Y _ m w' d
   |r=>
    have⟨y,l,e1,U,Y⟩:=PS (P:=P) hc u;exact a3 y l e1 U<|Y _ m w' d
   |p q=>
    have⟨y,l,e1,U,Y⟩:=PS (P:=P) hc u;exact a3 y l e1 U<|Y _ m w' d
 |.rangeFunc g ps a c,v,R,r,fr,cx,σ,K,Q,N,z,B,h,Ds,H,w,o,d=>by
  have v:=(xae _ _).mp v;have hw:=(xae _ _).mp v.2;simp only[den]at h;split at h;rename_i f cs s pt hg A hI;split at h;rename_i it τ sh hD hJ hE;split at h;rename_i y hy;have⟨hr,h⟩:=yo h;rw[xae]at hr;have⟨hF,hG⟩:=zgG hD;subst hG;have hz:ps= #[pt]:=by cases ps;simp_all
  subst hz;have hH:pt<n:=by have:=v.1;simpa using this
  subst z;exact zkp C (YG D E F J C a hw.1) (YG D E F J C c hw.2) hr.1 hr.2 (B.resolve_right<|by simp[NL]) hH hg hF hy hE h o d;cases h
  cases h
  cases h
 |.refuse _,_,R,r,fr,cx,σ,K,Q,N,z,B,h,_,_,_,_,_=>by cases h
 |.goto _,_,R,r,fr,cx,σ,K,Q,N,z,B,h,_,_,_,_,_=>by cases h
end
end
section
def vb:N K->jP->jP
 |[],w=>w
 |D::Ds,w=>vb Ds<|w.putObj D (.deferred wW)
def gV:N K->jP->Prop
 |[],_=>Ws
 |D::Ds,w=>w.heap[D]? =Z (.deferred<|some [])/\gV Ds (w.putObj D (.deferred wW))
def mTk(D:K):MF where
 blk k:=k=D
 p _ w:=w.heap[D]? =Z (.deferred wW)
 keep h _ hb:=(hb D O).trans h
 sub h _:=h
 lt h k a:=by subst a;exact(xbk.1 h).1
section
variable{P:Z2}{cf:Cf}{fr:Fr}{cx σ:Sg}{H:xr}
def Yx:∀{Ds:N K}{w:jP},u7 P (fr.wd Ds) cx σ H w->gV Ds w/\u7 P fr cx σ H (vb Ds w)
 |[],w,h=>⟨ul,h⟩
 |D::Ds,w,h=>by
  have h1:=NV h (IR) λS hp=>hp;have c:=MV (A:=[]) (m':=mTk D) h (λk=>Iff.rfl) (λk h=>h) λS w' h=>h;have d:u7 P (fr.wd Ds) cx σ H (w.putObj D (.deferred wW)):=by
   have⟨e,vs,f⟩:=c;refine⟨e,vs,?_⟩;have a:St fr.we fr.Se ((MS vs σ.ob++MS vs cx.ob)++([mTk D]++(Ds.map qN++fr.F))) (RS P vs H σ.rg++(RS P vs H cx.rg++fr.G)) (w.putObj D (.deferred wW)):=by simp_all
   have b:=St.dropM a;show St fr.we fr.Se (MS vs σ.ob++(MS vs cx.ob++(Ds.map qN++fr.F))) (RS P vs H σ.rg++(RS P vs H cx.rg++fr.G)) _;simp_all
  have⟨a,b⟩:=Yx d;exact⟨⟨h1,a⟩,b⟩
def Xe{F:Ac}{n:K}{fn:V0}{tmps:Z5 jp}{Q:gC->jP->Prop}:∀{Ds:N K}{w:jP},gV Ds w->(∃v,(V6 fn tmps).run P (vb Ds w)=.ok v (vb Ds w)/\Q (.returned v) (vb Ds w))->V2 F n P fn tmps Q (Ds.map Td) .returning w
 |[],w,_,h=>h
 |D::Ds,w,a,h=>⟨m7,.inl ⟨D,_,O,cE a.1,Xe a.2 h⟩⟩
def ab{f:Wf}{fn:V0}{c:Wt}{args:N jp}{w:jP}{Q:gC->jP->Prop}(i:P.funcs[f]? =Z fn)(k:fn.body=Z c)(hn:xfu (X args) fn.ntmps=qR)
 (h:∀rest,Lg P (Nd.of fn.ntmps) c (λe Ds H w=>(e=.normal\/e=.ret)/\gV Ds w/\∀a:QR,yf a=H->∃v,(V6 fn a.tmps).run P (vb Ds w)=.ok v (vb Ds w)/\Q (.returned v) (vb Ds w)) [] (L ((args.zipIdx 0).map λx=>(x.2,x.1)) rest) w):
 bi P f args.toArray w Q:=by
 have hn:=xbJ hn;refine callsIn_wide.1<|bv (n:=0) i k ul ?_;have l:aB (yf ⟨args.toArray++xdl (fn.ntmps-args.toArray.size) XS,[]⟩) ((args.zipIdx 0).map λx=>(x.2,x.1)):=by refine Ky args 0 _ λj=> ?_;rw[cH];simp_all
 refine WL (h _ _ (by simp;lia) O (Ud l).symm) ?_;rintro e b w' ⟨q1,Ds,q2,m,d,hv⟩;have⟨v,h1,g⟩:=hv b O;obtain rfl|rfl:=m
 show V2 _ _ P fn b.tmps Q b.defers .returning w';rw[q2,xbo];exact Xe d ⟨v,h1,g⟩;show V2 _ _ P fn b.tmps Q b.defers .returning w';rw[q2,xbo];exact Xe d ⟨v,h1,g⟩
def sP{F:Ac}{n:K}{fn:V0}{tmps:Z5 jp}{a:N cS}{Q:gC->jP->Prop}:∀{Ds:N K}{w:jP},gV Ds w->Q (.panicked a) (vb Ds w)->V2 F n P fn tmps Q (Ds.map Td) (.panicking a) w
 |[],w,_,h=>h
 |D::Ds,w,b,h=>⟨m7,.inl ⟨D,_,O,cE b.1,sP b.2 h⟩⟩
def zdQ{f:Wf}{fn:V0}{c:Wt}{args:N jp}{w:jP}{Q:gC->jP->Prop}(k:P.funcs[f]? =Z fn)(l:fn.body=Z c)(hn:xfu (X args) fn.ntmps=qR)
 (h:∀rest,Lg P (Nd.of fn.ntmps) c (λe Ds H w=>gV Ds w/\(((e=.normal\/e=.ret)/\∀a:QR,yf a=H->∃v,(V6 fn a.tmps).run P (vb Ds w)=.ok v (vb Ds w)/\Q (.returned v) (vb Ds w))\/∃d,e=.panic d/\Q (.panicked d) (vb Ds w))) [] (L ((args.zipIdx 0).map λx=>(x.2,x.1)) rest) w):
 bi P f args.toArray w Q:=by
 have hn:=xbJ hn;refine callsIn_wide.1<|bv (n:=0) k l ul ?_;have m:aB (yf ⟨args.toArray++xdl (fn.ntmps-args.toArray.size) XS,[]⟩) ((args.zipIdx 0).map λx=>(x.2,x.1)):=by refine Ky args 0 _ λj=> ?_;rw[cH];simp_all
 refine WL (h _ _ (by simp[Nd.of];lia) O (Ud m).symm) ?_;rintro e b w' ⟨q1,Ds,q2,g,⟨o,hv⟩|⟨d,rfl,p⟩⟩;have⟨v,h1,i⟩:=hv b O;obtain rfl|rfl:=o
 show V2 _ _ P fn b.tmps Q b.defers .returning w';rw[q2,xbo];exact Xe g ⟨v,h1,i⟩;show V2 _ _ P fn b.tmps Q b.defers .returning w';rw[q2,xbo];exact Xe g ⟨v,h1,i⟩;show V2 _ _ P fn b.tmps Q b.defers (.panicking d) w';rw[q2,xbo];exact sP g p
end
end
section
section
variable{P:Z2}{cf:Cf}{fr:Fr}{σ:Sg}{vs:wP->jp}{H:xr}{w:jP}{R:Type}{r:R}
theorem C1{rest:xr}:∀{l:N jp}{i j:K}{v:jp},l[j]? =Z v->L ((l.zipIdx i).map λx=>(x.2,x.1)) rest (i+j)=v
 |a::l,i,0,v,h=>by
  simp only[xbE,xav]at h;simp[L,h]
 |a::l,i,j+1,v,h=>by
  simp only[List.zipIdx_cons,xbT,L];rw[zgg (W:i+(j+1)≠i)];have:=C1 (rest:=rest) (i:=i+1) (by simpa using h);grind
theorem Ez:∀{dom:N AM}{x:aH dom}{i:K}{l:N jp},X l=X dom->(∀j v,l[j]? =Z v->vs (i+j)=v)->MS vs (Yv dom x i).2=kG dom x l
 |[],_,_,_,_,_=>rfl
 |a::dom,x,i,[],hl,_=>by cases hl
 |a::dom,x,i,v::l,hl,h=>by
  have b:MS vs (Yv dom x.2<|i+1).2=kG dom x.2 l:=Ez (by simpa using hl) λj v d=>by
   have:=h (j+1) v (by simpa using d);grind
  have h0:=h 0 v O
  cases a with
  |own t E=>
   show mO t.rep E (vs i) x.1::MS vs (Yv dom x.2<|i+1).2=mO t.rep E v x.1::kG dom x.2 l;grind
  |var t E=>
   show mP t.rep.c E (vs i) x.1::MS vs (Yv dom x.2<|i+1).2=mP t.rep.c E v x.1::kG dom x.2 l;grind
  |_=>exact b
def DV{S:K->Prop}:∀{dom:N AM}{x:aH dom}{i:K}{l:N jp},X l=X dom->(∀j v,l[j]? =Z v->vs (i+j)=v/\H (i+j)=v)->zD S (jQ P dom x l) w->zD S (RS P vs H (Yv dom x i).1) w
 |[],_,_,_,_,_,_=>trivial
 |a::dom,x,i,[],hl,_,_=>by cases hl
 |a::dom,x,i,v::l,hl,h,k=>by
  have c:=DV (by simpa using hl) (λj v m=>by
   have:=h (j+1) v (by simpa using m);rw[(W:i+1+j=i+(j+1))];exact this) k.2
  have h0:vs i=v/\H i=v:=h 0 v O;have g:=k.1
  cases a with
  |d t=>exact⟨show(fV t.rep x.1<|H i).p S w by rw[h0.2];exact g,c⟩
  |q t=>exact⟨show(fP t.rep x.1<|H i).p S w by rw[h0.2];exact g,c⟩
  |own t E=>exact⟨show H i=vs i by rw[h0.1,h0.2],c⟩
  |var t E=>
   have⟨b,n⟩:=g;exact⟨⟨show H i=vs i by rw[h0.1,h0.2],b,h0.1.trans n⟩,c⟩
  |fn e f=>exact⟨show(fnF P e f x.1<|H i).p S w by rw[h0.2];exact g,c⟩
theorem Ec:∀{dom:N AM}{x:aH dom}{i:K},∀e∈(Yv dom x i).2,e.1<i+X dom
 |[],_,_,e,he=>kW he H1
 |a::dom,x,i,e,he=>by
  have b:∀e∈(Yv dom x.2<|i+1).2,e.1<i+X (a::dom):=λe he=>by
   have:=Ec e he;grind
  cases a with
  |own t E=>
   rcases xal.1 (show e∈(i,Od.own t E x.1)::(Yv dom x.2<|i+1).2 from he)with rfl|he
   simp_all;grind
  |var t E=>
   rcases xal.1 (show e∈(i,Od.var t E x.1)::(Yv dom x.2<|i+1).2 from he)with rfl|he
   simp_all;grind
  |_=>exact b e he
theorem pJ:∀{dom:N AM}{x:aH dom}{i:K},∀e∈(Yv dom x i).1,∀p,vC e.2.2=Z p->p<i+X dom
 |[],_,_,e,he=>kW he H1
 |a::dom,x,i,e,he=>by
  intro p hp;have b:∀e∈(Yv dom x.2<|i+1).1,∀p,vC e.2.2=Z p->p<i+X (a::dom):=λe he p hp=>by
   have:=pJ e he p hp;grind
  cases a with
  |own t E=>
   rcases xal.1 (show e∈(i,0,Dv.ow i)::(Yv dom x.2<|i+1).1 from he)with rfl|he
   cases hp;simp only[xaw];lia
   grind
  |var t E=>
   rcases xal.1 (show e∈(i,0,Dv.vs i t)::(Yv dom x.2<|i+1).1 from he)with rfl|he
   cases hp;simp only[xaw];lia
   grind
  |d t=>
   rcases xal.1 (show e∈(i,0,Dv.d t x.1)::(Yv dom x.2<|i+1).1 from he)with rfl|he
   cases hp
   exact b e he p hp
  |q t=>
   rcases xal.1 (show e∈(i,0,Dv.q t x.1)::(Yv dom x.2<|i+1).1 from he)with rfl|he
   cases hp
   exact b e he p hp
  |fn d c=>
   rcases xal.1 (show e∈(i,0,Dv.fp d c x.1)::(Yv dom x.2<|i+1).1 from he)with rfl|he
   cases hp
   exact b e he p hp
def Ql:∀(l:N V5) (ms:N RM) {σ:Sg},u7 P fr ⟨0,[],[]⟩ σ H w->u7 P fr ⟨0,[],[]⟩ (Jy σ l ms) H w
 |[],_,_,h=>by unfold Jy;exact h
 |.tmp t::l,[],_,h=>by unfold Jy;exact h
 |.tmp t::l,.d _::ms,_,h=>by unfold Jy;exact Ql l ms<|MC _ h
 |.tmp t::l,.own _ _::ms,_,h=>by unfold Jy;exact Ql l ms h
 |.tmp t::l,.var _ _::ms,_,h=>by unfold Jy;exact Ql l ms h
 |.cell t E::l,[],_,h=>by unfold Jy;exact h
 |.cell t E::l,m::ms,_,h=>by unfold Jy;exact Ql l ms h
def zfd(J:y6 P cf.tt){p:V5}{m:RM}{k:m.D->N K->V R}(h:DD cf σ p m k=Z r):∃x os,k x os=Z r/\
 ∀vs (fr:Fr) H (A:N MF) (Γ:N FF) w (f:N K),(∀S w,zD S Γ w->∀t,Lk P vs H S w ⟨0,[],[]⟩ σ t)->(∀o∈os,cL f o=I)->St fr.we fr.Se (A++OS vs fr ⟨0,[],[]⟩ (vi σ.ob f)) Γ w->
  ∃v,zkN P w H p v/\St fr.we fr.Se (rmM m x v++(A++OS vs fr ⟨0,[],[]⟩ (vi σ.ob<|os++f))) (rmF m x v++Γ) w:=by
 cases p with
 |tmp t=>
  cases m with
  |d s=>
   simp only[DD]at h;have hc:=h;have⟨y,h,L⟩:=zeM h;refine⟨y,[],h,λvs fr H A Γ w f hl _ g=>⟨H t,O,?_⟩⟩;refine g.weak λS w a=>⟨?_,a⟩
   cases l:get ⟨0,[],[]⟩ σ t 0 with
   |none=>rw[l]at hc;cases hc
   |some v=>exact L P vs S w v _ l<|hl S w a t 0 v l
  |own s E=>
   simp only[DD]at h;have⟨x,os,h1,_,n,j⟩:=Nh h;refine⟨x,os,h1,λvs fr H A Γ w f hl hn g=>⟨H t,O,?_⟩⟩;exact j P vs fr H A Γ w f (λS w a=>hl S w a t) hn g
  |var s E=>
   simp only[DD]at h;have⟨x,os,h1,_,n,j⟩:=Nh h;refine⟨x,os,h1,λvs fr H A Γ w f hl hn g=>⟨H t,O,?_⟩⟩;have q:=j P vs fr H A Γ w f (λS w a=>hl S w a t) hn g;exact q.weak λS w a=>⟨(n P vs H S w<|hl S w a).2,a⟩
 |cell t E=>
  cases m with
  |own s B=>simp only[DD]at h;cases h
  |var s B=>simp only[DD]at h;cases h
  |d s=>
   simp only[DD]at h;split at h;rename_i o s0 C l M;split at h;rename_i s' B z Q;have⟨u,h1⟩:=yo h;have u:=yh u;subst u;have⟨e,n⟩:=yv h1;cases e;have⟨e,j⟩:=yv n;cases e;refine⟨_,[o],j,λvs fr H A Γ w f hl hn g=> ?_⟩;have hp:=jY (vs:=vs) (fr:=fr) (cx:=⟨0,[],[]⟩)<|(jI<|hn o<|IR).trans Q;have j:=St.mid<|St.perm g<|xbp _ hp;have⟨S,_,a⟩:=g.ex;have⟨hv,b,F⟩:=hl S w a t 0 _ l;have⟨⟨G,ht,_⟩,_⟩:=J E C M;have q:St fr.we fr.Se (mP C.ty.rep.c E (vs o) z::(A++OS vs fr ⟨0,[],[]⟩ (yI (vi σ.ob f) o))) Γ w:=j;have⟨b',hd,T⟩:=q.openP 0 O;rw[F]at hd;cases hd;refine zi3 0 T O (hv.trans F) ht λv U Y=>⟨v,Y,?_⟩;exact St.drop (i:=0) U
   cases h
   cases h
def FO(e:y6 P cf.tt):∀{a:N V5}{cod:N RM}{k:aI cod->N K->V R},Bw cf σ a cod k=Z r->∃x os,k x os=Z r/\
 ∀vs (fr:Fr) H (Γ:N FF) w,(∀S w,zD S Γ w->∀t,Lk P vs H S w ⟨0,[],[]⟩ σ t)->St fr.we fr.Se (OS vs fr ⟨0,[],[]⟩ σ.ob) Γ w->
  ∃us,X us=X cod/\gW P w H a us/\St fr.we fr.Se (kQ cod x us++OS vs fr ⟨0,[],[]⟩ (vi σ.ob os)) (kN cod x us++Γ) w
 |[],[],k,h=>⟨(),[],h,λvs fr H Γ w _ b=>⟨[],O,ul,b⟩⟩
 |[v],[m],k,h=>by
  have⟨x,os,h1,f⟩:=zfd e (h:DD cf σ v m k=Z r);refine⟨x,os,h1,λvs fr H Γ w hl b=> ?_⟩;have⟨u,c,d⟩:=f vs fr H [] Γ w [] hl (λ_ _=>O) b;rw[xbo]at d;exact⟨[u],O,⟨c,ul⟩,d⟩
 |v::q::a,m::m'::ms,k,h=>by
  have⟨x,o,h1,f⟩:=zfd e (h:DD cf σ v m _=Z r);have⟨y,os,c,d⟩:=FO e h1;have⟨hn,c⟩:=yo c;refine⟨(x,y),o++os,c,λvs fr H Γ w hl b=> ?_⟩;have⟨us,i,j,l⟩:=d vs fr H Γ w hl b;have⟨u,n,p⟩:=f vs fr H (kQ (m'::ms) y us) (kN (m'::ms) y us++Γ) w os (λS w g=>hl S w<|zD.right g) (Nv hn) l;refine⟨u::us,by simpa using i,⟨n,j⟩,?_⟩;show St _ _ ((rmM m x u++kQ (m'::ms) y us)++_) ((rmF m x u++kN (m'::ms) y us)++Γ) w;rw[xas,xas];exact p
 |[],_::_,_,h=>by cases h
 |[_],[],_,h=>by cases h
 |[_],_::_::_,_,h=>by cases h
 |_::_::_,[],_,h=>by cases h
 |_::_::_,[_],_,h=>by cases h
def zaG(D:P.follows .mixedOrders=qR)(C:y6 P cf.tt)(E:ua P cf.tt)(J:∀s∈cf.cs,y8 P s)(K:Bp P cf){s:Wk}{fn:V0}
 (L:P.funcs[s.f]? =Z fn) (Q:Ae P s.f=qR) (g:s.bk=0) (T:∀x r,s.M x=Z r->zan cf fn s.dom s.cod x=Z r):y8 P s:=by
 refine⟨Q,λx r h vs hd=> ?_⟩;rw[g];show FnG P s.f vs.toArray (kG s.dom x vs) (jQ P s.dom x vs) ZI (λus=>kQ s.cod r us) (λus=>kN s.cod r us) (λus=>X us=X s.cod);have h:=T x r h;unfold zan at h;split at h;rename_i c hc;have⟨l,h⟩:=yo h;rw[xae]at l;intro we Se F G w m;refine ab L hc (by rw[hd];exact l.2) λrest=> ?_;refine YG (fr:=⟨we,Se,F,G⟩) (N:=Nd.of fn.ntmps) D C E J K c l.1 O (.inl O) h (λt xS g Ds H w _ z=> ?_) ?_;have⟨hi,z⟩:=Yx z
 have i:Bw cf (Jy xS fn.results.toList s.cod) fn.results.toList s.cod (λy _=>Z y)=Z r->∀a:QR,yf a=H->
  ∃v,(V6 fn a.tmps).run P (vb Ds w)=.ok v (vb Ds w)/\∃u:wF jp,xeB v=.returned (ZI u)/\X u=X s.cod/\St we Se (kQ s.cod r u++F) (kN s.cod r u++G) (vb Ds w):=λh a U=>by
  have hl:=Ql fn.results.toList s.cod z;generalize Jy xS fn.results.toList s.cod=A at h hl;have⟨hB,vs,m⟩:=hl;have⟨y,os,e1,V⟩:=FO C h;cases e1;have⟨us,h1,Y,h3⟩:=V vs ⟨we,Se,F,G⟩ H _ _ (λS w b t=>Xi b t) m;refine⟨_,ZC (rs:=fn.results.toList) (by rw[xcC])<|U▸Y,us,O,h1,?_⟩;exact(St.dropM (B:=MS vs<|vi A.ob os) h3).weak λS w b=>zD.append (zD.left b)<|zD.right<|zD.right b
 cases t with
 |n=>exact⟨.inl O,hi,i g⟩
 |r=>exact⟨.inr O,hi,i g⟩
 |x j=>cases g
 |p q=>cases g
 have e0:∀j v,vs[j]? =Z v->vs.getD (0+j) XS=v:=λj v k=>by rw[xaM,UV,k];rfl
 refine⟨⟨λe d=> ?_,λ_ d=>kW d H1,λe d p hp=> ?_,λ_ d=>kW d H1⟩,λo=>vs.getD o XS,?_⟩;have:=Ec e d;simpa using this;have:=pJ e d p hp;simpa using this;have e1:MS (λo=>vs.getD o XS) (Yv s.dom x 0).2=kG s.dom x vs:=Ez hd e0;show St we Se (MS _ (Yv s.dom x 0).2++([]++F)) _ w;rw[e1];exact m.weak λS w b=>zD.append (DV hd (λj v k=>⟨e0 j v k,C1 k⟩)<|zD.left b)<|zD.right b;cases h
def PQ(we:jP)(Se:K->Prop)(F:N MF)(G:N FF)(cod:N RM)(z:PX⊕aI cod)(e:gC)(w:jP):Prop:=match z with
 |.inl q=>e=.panicked (ru q)/\St we Se F G w
 |.inr r=>∃u:N jp,e=.returned (ZI u)/\X u=X cod/\St we Se (kQ cod r u++F) (kN cod r u++G) w
def OQ(E:P.follows .mixedOrders=qR)(D:y6 P cf.tt)(J:ua P cf.tt)(L:∀s∈cf.cs,y8 P s)(M:Bp P cf){f:Wf}{dom:wF AM}{cod:wF RM}{fn:V0}(Q:P.funcs[f]? =Z fn){x:aH dom}{z:PX⊕aI cod}(h:zlo cf fn dom cod x=Z z)
 {vs:wF jp} (m:X vs=X dom) {we:jP}{Se:K->Prop}{F:wF MF}{G:wF FF}{w:jP} (hd:St we Se (kG dom x vs++F) (jQ P dom x vs++G) w):bi P f vs.toArray w (PQ we Se F G cod z):=by
 unfold zlo at h;split at h;rename_i c hc;have⟨u,h⟩:=yo h;rw[xae]at u;refine zdQ Q hc (by rw[m];exact u.2) λrest=> ?_;refine YG (fr:=⟨we,Se,F,G⟩) (N:=Nd.of fn.ntmps) E D J L M c u.1 O (.inl O) h (λt xS i Ds H w _ k=> ?_) ?_;have⟨hl,k⟩:=Yx k;refine⟨hl,?_⟩
 have g:Bw cf (Jy xS fn.results.toList cod) fn.results.toList cod (λy _=>Z (.inr y))=Z z->∀a:QR,yf a=H->
  ∃v,(V6 fn a.tmps).run P (vb Ds w)=.ok v (vb Ds w)/\PQ we Se F G cod z (.returned v) (vb Ds w):=λh a T=>by
  have hi:=Ql fn.results.toList cod k;generalize Jy xS fn.results.toList cod=C at h hi;have⟨U,vs,hd⟩:=hi;have⟨y,os,e1,V⟩:=FO D h;cases e1;have⟨us,h1,Y,h3⟩:=V vs ⟨we,Se,F,G⟩ H _ _ (λS w b t=>Xi b t) hd;refine⟨_,ZC (rs:=fn.results.toList) (by rw[xcC])<|T▸Y,us,O,h1,?_⟩;exact(St.dropM (B:=MS vs<|vi C.ob os) h3).weak λS w b=>zD.append (zD.left b)<|zD.right<|zD.right b
 cases t with
 |n=>exact .inl ⟨.inl O,g i⟩
 |r=>exact .inl ⟨.inr O,g i⟩
 |x j=>cases i
 |p q=>
  cases i;have⟨U,vs,hd⟩:=k;have hd:St we Se ([]++(MS vs xS.ob++F)) (RS P vs H xS.rg++([]++G)) (vb Ds w):=hd;exact .inr ⟨_,O,O,(St.dropM (A:=[]) hd).weak λS w b=>zD.right<|zD.right b⟩
 have e0:∀j v,vs[j]? =Z v->vs.getD (0+j) XS=v:=λj v l=>by rw[xaM,UV,l];rfl
 refine⟨⟨λe d=> ?_,λ_ d=>kW d H1,λe d p hp=> ?_,λ_ d=>kW d H1⟩,λo=>vs.getD o XS,?_⟩;have:=Ec e d;simpa using this;have:=pJ e d p hp;simpa using this;have e1:MS (λo=>vs.getD o XS) (Yv dom x 0).2=kG dom x vs:=Ez m e0;show St we Se (MS _ (Yv dom x 0).2++([]++F)) _ w;rw[e1];exact hd.weak λS w b=>zD.append (DV m (λj v l=>⟨e0 j v l,C1 l⟩)<|zD.left b)<|zD.right b;cases h
def zo9(a:P.follows .mixedOrders=qR)(b:y6 P cf.tt)(c:ua P cf.tt)(d:∀s∈cf.cs,y8 P s)(e:Bp P cf){p:Je}{fn:V0}
 (g:P.funcs[p.s.f]? =Z fn) (k:Ae P p.s.f=qR) (l:p.s.bk=0) (i:∀x r,p.M x=Z r->zlo cf fn p.s.dom p.s.cod x=Z r):Oy P p:=by
 refine⟨k,λx vs j=>⟨λr h=> ?_,λq h we Se F G w hc=>OQ a b c d e g (i x _ h) j hc⟩⟩;rw[l];exact λwe Se F G w hc=>OQ a b c d e g (i x _ h) j hc
theorem zic{S:K->Prop}{b:K->jp}:∀{dom:N AM}{i:K},(∀j,j<X dom->H (i+j)=b (i+j))->zD S (RS P vs H<|ET b dom i) w
 |[],_,_=>trivial
 |a::dom,i,h=>by
  have c:zD S (RS P vs H<|ET b dom<|i+1) w:=zic λj d=>by
   have:=h (j+1) (by simp only[xaw];lia);grind
  cases a with
  |own t E=>exact⟨h 0 m7,c⟩
  |var t E=>exact⟨h 0 m7,c⟩
  |_=>exact c
def iU{S:K->Prop}{l:N jp}:∀{dom:N AM}{i:K}{us:N jp},zD S (RS P vs H<|ET (λo=>l.getD o XS) dom i) w->gW P w H (GI dom i) us->us=Ke dom (l.drop i)
 |[],_,[],_,_=>rfl
 |[],_,_::_,_,h=>h.elim
 |a::dom,i,us,b,h=>by
  have e0:(l.drop i).headD XS=l.getD i XS:=by simp_all
  have e1:(l.drop i).tail=l.drop (i+1):=by rw[List.tail_drop]
  cases a with
  |own t E=>
   cases us with
   |nil=>exact h.elim
   |cons u us=>
    have h1:H i=u:=h.1;have f:H i=l.getD i XS:=b.1;have e:=iU (dom:=dom) (i:=i+1) b.2 h.2;show u::us=(l.drop i).headD XS::Ke dom (l.drop i).tail;simp_all
  |var t E=>
   cases us with
   |nil=>exact h.elim
   |cons u us=>
    have h1:H i=u:=h.1;have f:H i=l.getD i XS:=b.1;have e:=iU (dom:=dom) (i:=i+1) b.2 h.2;show u::us=(l.drop i).headD XS::Ke dom (l.drop i).tail;simp_all
  |d t=>
   have e:=iU (dom:=dom) (i:=i+1) b h;show us=Ke dom (l.drop i).tail;simp_all
  |q t=>
   have e:=iU (dom:=dom) (i:=i+1) b h;show us=Ke dom (l.drop i).tail;rw[e1];exact e
  |fn d c=>
   have e:=iU (dom:=dom) (i:=i+1) b h;show us=Ke dom (l.drop i).tail;rw[e1];exact e
def FC:∀{a b:N V5}{us:N jp},gW P w H (a++b) us->gW P w H a (us.take (X a))/\gW P w H b (us.drop (X a))
 |[],b,us,h=>⟨ul,h⟩
 |r::a,b,[],h=>h.elim
 |r::a,b,u::us,h=>by
  have⟨h1,c⟩:=FC h.2;exact⟨⟨h.1,h1⟩,c⟩
def iA{b:K->jp}:∀{dom:N AM}{i:K},∀e∈ET b dom i,vC e.2.2=wW
 |[],_,e,he=>kW he H1
 |a::dom,i,e,he=>by
  cases a with
  |own t E=>
   rcases xal.1 (show e∈(i,0,Dv.pin<|b i)::ET b dom (i+1)from he)with rfl|he
   rfl;exact iA e he
  |var t E=>
   rcases xal.1 (show e∈(i,0,Dv.pin<|b i)::ET b dom (i+1)from he)with rfl|he
   rfl;exact iA e he
  |d t=>exact iA (dom:=dom) e he
  |q t=>exact iA (dom:=dom) e he
  |fn d c=>exact iA (dom:=dom) e he
def zm3(hm:P.follows .mixedOrders=qR)(E:y6 P cf.tt)(hL:ua P cf.tt)(hC:∀s∈cf.cs,y8 P s)(hX:Bp P cf){s:Wk}{fn:V0}
 (hf:P.funcs[s.f]? =Z fn) (hb:Ae P s.f=qR) (hM:∀pn x r,s.M x=Z r->zk4 cf fn s.dom s.cod s.bk pn x=Z r):y8 P s:=by
 refine⟨hb,λx r h vs hd=> ?_⟩;have h:=hM (λo=>vs.getD o XS) x r h;unfold zk4 at h;split at h;rename_i c hc;have⟨J,h⟩:=yo h;simp only[xae]at J;have⟨⟨⟨⟨hz,hA⟩,Q⟩,hG⟩,T⟩:=J;have Q:=yh Q;have T:0<s.bk:=Nat.blt_eq.mp T;have⟨b,hD⟩:∃b,s.bk=b+1:=⟨s.bk-1,W⟩;rw[hD];intro we Se F G w hl;refine ab hf hc (by rw[hd];exact hA) λrest=> ?_;have e0:∀j v,vs[j]? =Z v->vs.getD (0+j) XS=v:=λj v m=>by simp_all
 refine YG (fr:=⟨we,Se,F,G⟩) (N:=Nd.of fn.ntmps) hm E hL hC hX c hz O (.inl O) h (λt xS z Ds H w _ C=> ?_) ?_;have⟨ht,C⟩:=Yx C
 have i:Bw cf (Jy xS (fn.results.toList++GI s.dom 0) s.cod) (fn.results.toList++GI s.dom 0) s.cod (λy _=>Z y)=Z r->∀a:QR,yf a=H->
  ∃v,(V6 fn a.tmps).run P (vb Ds w)=.ok v (vb Ds w)/\∃u:wF jp,xeB v=.returned (zo4 (b+1) (X s.cod) u)/\zfe s.dom vs (b+1) (X s.cod) u/\St we Se (kQ s.cod r u++F) (kN s.cod r u++G) (vb Ds w):=λh a A=>by
  have⟨U,k,hi⟩:=C;have⟨S0,_,hE⟩:=hi.ex;have hv:zD S0 (RS P k H<|ET (λo=>vs.getD o XS) s.dom 0) _:=zD.left<|zD.right hE;have hF:u7 P ⟨we,Se,F,G⟩ ⟨0,[],[]⟩ xS H (vb Ds w):=⟨⟨U.o1,λ_ g=>kW g H1,U.r1,λ_ g=>kW g H1⟩,k,hi.weak λS w A=>zD.append (zD.left A)<|zD.right<|zD.right A⟩;have V:=Ql (fn.results.toList++GI s.dom 0) s.cod hF;generalize Jy xS (fn.results.toList++GI s.dom 0) s.cod=D at h V;have⟨hB,l,hl⟩:=V;have⟨y,os,e1,e2⟩:=FO E h;cases e1;have⟨us,h1,h2,h3⟩:=e2 l ⟨we,Se,F,G⟩ H _ _ (λS w d t=>Xi d t) hl;have⟨h4,h5⟩:=FC h2;have hn:X s.cod-(b+1)=X fn.results.toList:=W
  have Y:=iU hv h5;rw[List.drop_zero]at Y;refine⟨_,ZC (rs:=fn.results.toList) (by rw[xcC])<|A▸h4,us,?_,⟨h1,by rw[hn];exact Y⟩,?_⟩;show xeB _=.returned (ZI<|us.take<|X s.cod-(b+1));rw[hn];exact(St.dropM (B:=MS l<|vi D.ob os) h3).weak λS w d=>zD.append (zD.left d)<|zD.right<|zD.right d
 cases t with
 |n=>exact⟨.inl O,ht,i z⟩
 |r=>exact⟨.inr O,ht,i z⟩
 |x j=>cases z
 |p q=>cases z
 refine⟨⟨λe g=> ?_,λ_ g=>kW g H1,λe g p hp=> ?_,λe g p hp=> ?_⟩,λo=>vs.getD o XS,?_⟩;have:=Ec e g;simpa using this;have:=pJ e g p hp;simpa using this;rw[iA e g]at hp;cases hp
 have e1:MS (λo=>vs.getD o XS) (Yv s.dom x 0).2=kG s.dom x vs:=Ez hd e0;show St we Se (MS _ (Yv s.dom x 0).2++([]++F)) _ w;rw[e1];refine hl.weak λS w d=>zD.append (DV hd (λj v m=>⟨e0 j v m,C1 m⟩)<|zD.left d)<|zD.append (zic λj m=> ?_)<|zD.right d;have hy:vs[j]? =Z (vs[j]'W):=xaa W;show L _ _ (0+j)=vs.getD (0+j) XS;rw[e0 j _ hy];exact C1 hy;cases h
end
end
section
section
variable{P:Z2}
def zc:Ty->N jp
 |.i=>[.int .i64 0]
 |.u=>[.int .u64 0]
 |.b=>[.bool I]
 |.ch=>[.int .u8 0]
 |.tx=>[.string ByteArray.empty]
 |.l _=>[.slice wW 0 0]
 |.p s t=>zc s++zc t
 |.a k t=>(So k<|zc t).flatten
 |.po _=>[.pointer wW]
 |.w1 t=>zc t
def zcS{α:Type}{e:zZ α}{S:K->Prop}{w:jP}{x:α}{c:N jp}(h:e.p S x c w):∀k,yW e S (So k x) (So k c).flatten w
 |0=>rfl
 |k+1=>⟨c,_,O,h,zcS h k⟩
def zex(S:K->Prop)(w:jP):∀t:Ty,t.rep.p S t.z (zc t) w
 |.i=>⟨O,(m6:(-9223372036854775808:J)<=0),(m6:(0:J)<=9223372036854775807)⟩
 |.u=>⟨O,(m6:(0:K)<18446744073709551616)⟩
 |.b=>rfl
 |.ch=>⟨O,(m6:(0:K)<256)⟩
 |.tx=>⟨ByteArray.empty,O,O,m6⟩
 |.l _=>⟨_,O,SlP.nil⟩
 |.p s t=>⟨_,_,O,zex S w s,zex S w t⟩
 |.a k t=>⟨xaF,zcS (zex S w t) k⟩
 |.po _=>rfl
 |.w1 t=>zex S w t
def znp(t:Ty):X (zc t)=t.n:=by have:=t.rep.len<|zex (λ_=>Ws) default t;rw[this,t.n_rep]
def zhN:∀{k:K}{t:Ty}{i:K}{f:Fl t.D},xu k t i=Z f->∃d c,zc t=d++zc f.f++c/\X d=f.off
 |0,.w1 t,0,f,h=>by
  simp only[xu,xav]at h;subst h;exact⟨[],[],by simp[zc],O⟩
 |0,.w1 t,_+1,_,h=>by cases h
 |0,.i,_,_,h=>by cases h
 |0,.u,_,_,h=>by cases h
 |0,.b,_,_,h=>by cases h
 |0,.l _,_,_,h=>by cases h
 |0,.p _ _,_,_,h=>by cases h
 |0,.a _ _,_,_,h=>by cases h
 |0,.ch,_,_,h=>by cases h
 |0,.tx,_,_,h=>by cases h
 |0,.po _,_,_,h=>by cases h
 |1,t,i,f,h=>by
  unfold xu at h;cases e:Q i 0<;>rw[e]at h
  cases h
  simp only[WN,xav]at h;subst h;exact⟨[],[],by simp[Fl.self],O⟩
 |k+2,.p s t,0,f,h=>by
  simp only[xu,xav]at h;subst h;exact⟨[],zc t,by simp[zc],O⟩
 |k+2,.p s t,i+1,f,h=>by
  simp only[xu]at h;split at h;rename_i f' g;simp only[xav]at h;subst h;have⟨d,c,h1,j⟩:=zhN g;refine⟨zc s++d,c,?_,by rw[xau,znp,j]⟩;simp only[zc];rw[h1];simp only[xas];cases h
 |k+2,.i,i,f,h=>by simp[xu]at h
 |k+2,.u,i,f,h=>by simp[xu]at h
 |k+2,.b,i,f,h=>by simp[xu]at h
 |k+2,.l _,i,f,h=>by simp[xu]at h
 |k+2,.a _ _,i,f,h=>by simp[xu]at h
def zmz(P:Z2)(t n:K):(N (V K)×N (V<|K×uS×K))×V (N<|V<|K×K):=(((xaL<|n+(1-n)).map λi=>zbp P t i,(xaL<|n+(1-n)).map λi=>zhE P t i),match plB P t with
 |some a=>Z<|a.toList.map Z
 |none=>wW)
def zfZ(ty:Ty)(n:K):(N (V K)×N (V<|K×uS×K))×V (N<|V<|K×K):=(((xaL<|n+(1-n)).map λi=>(xu n ty i).map (·.off),(xaL<|n+(1-n)).map λi=>(xu n ty i).map λf=>(f.off,f.f.rep.agg,f.f.n)),Z<|(xaL<|n+(1-n)).map λi=>(xu n ty i).map λf=>(f.off,f.f.n))
def R7(P:Z2)(t:ut)(a:TI):Prop:=match a.k with
 |.int k=>P.underlying t=Z (.int k)
 |.bool=>P.underlying t=Z .bool
 |.str=>P.underlying t=Z .string
 |.sl E=>P.underlying t=Z (.slice E)/\∃e,a.ty=.l e
 |.st n=>a.ty.rep.agg=qR/\zmz P t n=zfZ a.ty n
 |.ar k E=>a.ty.rep.agg=qR/\P.underlying t=Z (.array k E)
 |.pt E=>P.underlying t=Z (.pointer E)
def zbQ:∀{n:K}{t:Ty}{i:K}{f:Fl t.D},0<n->xu n t i=Z f->i<n
 |0,_,_,_,h0,h=>kW h0<|xfQ 0
 |1,t,i,f,_,h=>by
  simp only[xu]at h;cases c:Q i 0<;>rw[c]at h
  cases h
  rw[yh c];exact xdp
 |n+2,.p s t,0,f,_,h=>Nat.succ_pos _
 |n+2,.p s t,i+1,f,_,h=>by
  simp only[xu]at h;split at h
  next f' d=>exact Nat.succ_lt_succ<|zbQ (Nat.succ_pos _) d
  cases h
 |n+2,.i,_,_,_,h=>by simp[xu]at h
 |n+2,.u,_,_,_,h=>by simp[xu]at h
 |n+2,.b,_,_,_,h=>by simp[xu]at h
 |n+2,.l _,_,_,_,h=>by simp[xu]at h
 |n+2,.a _ _,_,_,_,h=>by simp[xu]at h
 |n+2,.ch,_,_,_,h=>by simp[xu]at h
 |n+2,.tx,_,_,_,h=>by simp[xu]at h
 |n+2,.po _,_,_,_,h=>by simp[xu]at h
 |n+2,.w1 _,_,_,_,h=>by simp[xu]at h
def zbb{n:K}{t:Ty}{i:K}{f:Fl t.D}(h:xu n t i=Z f):i<n+(1-n):=by
 cases n with
 |zero=>
  cases t<;>cases i<;>first
   |exact xdp
   |cases h
 |succ n=>have:=zbQ (Nat.succ_pos n) h;lia
def zfX.of{t:ut}{d:TI}(h:R7 P t d):zfX P t d:=by
 unfold R7 at h;unfold zfX;split at h
 ·next h0=>simp only[h0];exact h
 ·next h0=>simp only[h0];exact h
 ·next h0=>simp only[h0];exact h
 ·next h0=>simp only[h0];exact h
 ·next n h0=>
  simp only[h0];have⟨h1,h⟩:=h;have e:=Z4 (λq=>q.1.1) h;have g:=Z4 (λq=>q.1.2) h;have c:=Z4 Prod.snd h;simp only[zmz,zfZ]at e g c;refine⟨h1,λi f b=> ?_,?_,λi f b=> ?_⟩;rotate_left 2
  ·have:=Z4 (λl:N (V<|K×uS×K)=>l[i]?) g;simp only[xco,List.getElem?_range<|zbb b,Option.map_some,b]at this;simpa using this
  ·have:=Z4 (λl:N (V K)=>l[i]?) e;simp only[xco,List.getElem?_range<|zbb b,Option.map_some,b]at this;simpa using this
  ·cases hp:plB P t with
   |none=>
    rw[hp]at c;cases c
   |some a=>
    rw[hp]at c;simp only[xav]at c;have⟨fs,k,m⟩:=zkn hp;refine⟨fs,k,a,m,λi f b=> ?_⟩;have:=Z4 (λl:N (V<|K×K)=>l[i]?) c;simp only[xco,List.getElem?_range<|zbb b,Option.map_some,b]at this;rw[<-Array.getElem?_toList]
    cases j:a.toList[i]? with
    |none=>rw[j]at this;cases this
    |some q=>rw[j]at this;simpa using this
 ·next h0=>simp only[h0];exact h
 ·next h0=>simp only[h0];exact h
def zg0.of{t:ut}{a:TI}(h1:tyB P t=Z (a.ty.rep.agg,a.ty.n,a.B,Z<|a.ty.rep.val<|zc a.ty))(c:(xde 0 a.B && xde 0 a.ty.n)=qR)(f:R7 P t a):zg0 P t a:=by rw[xae]at c;have b:=λS w=>zex S w a.ty;refine⟨⟨_,(by rw[Ty.n_rep];exact JN.of h1),?_,λS w=> ?_,(λs h=>by rw[h];rfl),λn i off s g st j=> ?_⟩,xbJ c.1,(by rw[Ty.n_rep];exact xbJ c.2),zfX.of f⟩;rw[<-xfc,zZ.val_cells _<|b (λ_=>Ws) default,a.ty.rep.len<|b (λ_=>Ws) default];rw[zZ.val_cells _<|b S w];exact b S w;rw[zZ.val_cells _<|b (λ_=>Ws) default];have⟨k,d,l,e⟩:=zhN j;rw[l,xas,xbz (by simp only at e;lia),e,xcx];rfl
def y6.nil:y6 P []:=λ_ _ h=>by cases h
def y6.cons{t:ut}{c:TI}{tt:N (K×TI)}(h:zg0 P t c)(k:y6 P tt):y6 P ((t,c)::tt):=by
 intro d a b;unfold U2 at b;cases e:Q t d<;>rw[e]at b
 exact k d a b;simp_all
def y6.add{t:ut}{a:TI}{tt:N (K×TI)}(h1:tyB P t=Z (a.ty.rep.agg,a.ty.n,a.B,Z<|a.ty.rep.val<|zc a.ty))(b:(xde 0 a.B && xde 0 a.ty.n)=qR)(c:R7 P t a)(k:y6 P tt):y6 P ((t,a)::tt):=y6.cons (zg0.of h1 b c) k
def elB(tt:N (K×TI)):N (K×TI)->uS
 |[]=>qR
 |(_,⟨.l s,.sl E,_⟩)::r=>(match U2 tt E with
  |some a=>(Ty.same a.ty s).isSome
  |none=>I) && elB tt r
 |_::r=>elB tt r
def ua.of'{tt:N (K×TI)}:∀{l:N (K×TI)},elB tt l=qR->∀t s E B,U2 l t=Z ⟨.l s,.sl E,B⟩->∃a,U2 tt E=Z a/\a.ty=s
 |[],_,_,_,_,_,h=>by cases h
 |(c,d)::r,h,t,s,E,B,b=>by
  have e:elB tt r=qR:=by unfold elB at h;split at h;simp_all;simp_all;simp_all
  unfold U2 at b;cases f:Q c t<;>rw[f]at b
  exact ua.of' e t s E B b;cases b;unfold elB at h;simp only[xae]at h;have h:=h.1;split at h
  rename_i a g;refine⟨a,g,?_⟩
  cases i:Ty.same a.ty s with
  |none=>rw[i]at h;cases h
  |some p=>exact p.down
  cases h
def ua.of{tt:N (K×TI)}(h:elB tt tt=qR):ua P tt:=λt s E B=>ua.of' h t s E B
def nH.nil:nH P []:=λ_ _ h=>by cases h
def nH.add{f:K}{b:uS}{ex:N (K×uS)}{fn:V0}(h0:P.funcs[f]? =Z fn)(h1:(fn.name== "runtime.NumGoroutine")=I)(g:fn.body=wW)(h:(xeS fn).isNone=qR)
 (i:b=qR->xfe fn=Z (λargs=>do
  let(x,y,c)<-xbN "Add64" args
  pure (xcr ((x+y+c)%xbg)<|(x+y+c)/xbg)))
 (j:b=I->xfe fn=Z (λargs=>do
  let(x,y,b)<-xbN "Sub64" args
  pure (xcr ((x+xbg-y-b)%xbg) (if x<y+b then 1 else 0)))) (k:nH P ex):nH P ((f,b)::ex):=by
 intro f' d a;unfold U2 at a;cases e:Q f f'<;>rw[e]at a
 exact k f' d a;simp_all
def cN:∀s∈([]:N Wk),y8 P s:=λ_ h=>kW h H1
theorem cC{s:Wk}{l:N Wk}(h:y8 P s)(k:∀s∈l,y8 P s):∀q∈s::l,y8 P q:=by grind
def sg0{s:Wk}(a:Ae P s.f=qR)(b:∀x,s.M x=wW):y8 P s:=⟨a,λx r h=>by rw[b x]at h;cases h⟩
def Bp.of{tt:N (K×TI)}{ex:N (K×uS)}{cs:N Wk}{an:An}{fu:K}(a:nH P ex)(hp:P=Tryz.prog):Bp P ⟨tt,cs,an,fu,ex,[],[],[],[]⟩:=⟨a,λ_ h=>kW h H1,λ_ h=>kW h H1,λ_ h=>kW h H1,hp,λ_ h=>kW h H1⟩
def sgP(a:P.follows .mixedOrders=qR){tt:N (K×TI)}{ex:N (K×uS)}(b:y6 P tt)(c:ua P tt)(d:nH P ex)(hp:P=Tryz.prog){cs:N Wk}(an:An){fu:K}{s:Wk}{fn:V0}(e:P.funcs[s.f]? =Z fn)(g:∀s∈cs,y8 P s)(i:Ae P s.f=qR)(j:s.bk=0)(k:∀x,zan ⟨tt,cs,an,fu,ex,[],[],[],[]⟩ fn s.dom s.cod x=s.M x):y8 P s:=
 zaG (cf:=⟨tt,cs,an,fu,ex,[],[],[],[]⟩) a b c g (.of d hp) e i j λx r h=>(k x).trans h
def sgG(b:P.follows .mixedOrders=qR){tt:N (K×TI)}{ex:N (K×uS)}(c:y6 P tt)(d:ua P tt)(e:nH P ex)(hp:P=Tryz.prog){cs:N Wk}(an:An){fu:K}{s:Wk}{fn:V0}(g:P.funcs[s.f]? =Z fn)(i:∀s∈cs,y8 P s)(j:Ae P s.f=qR)(k:∀a x,zk4 ⟨tt,cs,an,fu,ex,[],[],[],[]⟩ fn s.dom s.cod s.bk a x=s.M x):y8 P s:=
 zm3 (cf:=⟨tt,cs,an,fu,ex,[],[],[],[]⟩) b c d i (.of e hp) g j λa x r h=>(k a x).trans h
end
end
section
def ziQ:(dom:N Ty)->ou dom->K->N (K×K×Dv)
 |[],_,_=>[]
 |t::r,x,i=>(i,0,.d t x.1)::ziQ r x.2 (i+1)
def zlc(g:Wf)(t:K)(σ:Sg):V (N PD):=match get ⟨0,[],[]⟩ σ t 0 with
 |some (.fn f cs)=>jK (Q f g)<|some cs
 |_=>wW
def zp9(cf:Cf)(fn:V0)(dom:N Ty)(g:Wf)(x:ou dom):V (N PD):=match fn.body,fn.results.toList with
 |some c,[.tmp t]=>jK (OB fn.ntmps c && xfu (X dom) fn.ntmps)<|den cf c ⟨0,[],[]⟩ ⟨0,ziQ dom x 0,[]⟩ λq σ=>match q with
  |.r=>zlc g t σ
  |.n=>zlc g t σ
  |_=>wW
 |_,_=>wW
def zkZ(t:Ty)(E E1:ut)(ix:N K)(lo n:K)(σ:Sg):V (N<|N t.D):=match get ⟨0,[],[]⟩ σ 3 0 with
 |some (.mv o a n')=>(match xH σ.ob o with
  |some (.mat c d F' e b)=>jK (Q E d && Q E1 F')<|Ty.cast (.l (.l c)) (.l (.l t)) e λy=>ck (a=lo/\n'=n/\b=ix)<|some y
  |_=>wW)
 |_=>wW
def znQ(cf:Cf)(fn:V0)(t:Ty)(E E1:ut)(b:jp)(e:N (N t.D))(ix:N K)(r:K)(a p:J)(lo n:K):V (N<|N t.D):=match fn.body,fn.results.toList with
 |some c,[]=>jK (OB fn.ntmps c && xfu 4 fn.ntmps)<|den cf c ⟨0,[(3,0,.pin b)],[]⟩ ⟨1,[(0,0,.rw 0 r),(1,0,.d .i a),(2,0,.d .i p),(3,0,.mv 0 lo n)],[(0,.mat t E E1 e ix)]⟩ λq σ=>match q with
  |.r=>zkZ t E E1 ix lo n σ
  |.n=>zkZ t E E1 ix lo n σ
  |_=>wW
 |_,_=>wW
section
variable{P:Z2}{cf:Cf}{H:xr}{w:jP}
def zcT{S:K->Prop}{vs:K->jp}:∀{dom:N Ty}{x:ou dom}{i:K}{l:N jp},X l=X dom->(∀j v,l[j]? =Z v->H (i+j)=v)->zD S (tsF dom x l) w->zD S (RS P vs H<|ziQ dom x i) w
 |[],_,_,_,_,_,_=>trivial
 |a::dom,x,i,[],hl,_,_=>by cases hl
 |a::dom,x,i,v::l,hl,h,b=>by
  have c:zD S (RS P vs H<|ziQ dom x.2<|i+1) w:=zcT (by simpa using hl) (λj v d=>by
   have:=h (j+1) v (by simpa using d);rw[(W:i+1+j=i+(j+1))];exact this) b.2
  have h0:H i=v:=h 0 v O;have e:=b.1;exact⟨show(fV a.rep x.1<|H i).p S w by rw[h0];exact e,c⟩
def Pf:∀{dom:N Ty}{x:ou dom}{i:K},∀e∈ziQ dom x i,vC e.2.2=wW
 |[],_,_,e,he=>kW he H1
 |a::dom,x,i,e,he=>by
  obtain rfl|he:=xal.1 he
  rfl;exact Pf e he
def zpl(o:P.follows .mixedOrders=qR)(y:y6 P cf.tt)(z:ua P cf.tt)(D:∀s∈cf.cs,y8 P s)(E:Bp P cf){s:Sq}{fn:V0}
 (J:P.funcs[s.f]? =Z fn) (K:Ae P s.f=qR) (L:∀x,zp9 cf fn s.dom s.g x=Z (s.mc x)):za3 P s:=by
 refine⟨K,λx vs hd=>FnG.plain ?_⟩;have h:=L x;unfold zp9 at h;split at h;rename_i c t hc M;have⟨l,h⟩:=yo h;rw[xae]at l;intro we Se F G w ht;refine ab J hc (by rw[hd];exact l.2) λrest=> ?_;refine YG (fr:=⟨we,Se,F,G⟩) (N:=Nd.of fn.ntmps) o y z D E c l.1 O (.inl O) h (λq xS k Ds H w _ m=> ?_) ?_;have⟨hl,m⟩:=Yx m
 have i:zlc s.g t xS=Z (s.mc x)->∀a:QR,yf a=H->
  ∃v,(V6 fn a.tmps).run P (vb Ds w)=.ok v (vb Ds w)/\∃u:jp,xeB v=.returned u/\Ws/\St we Se ([]++F) ([zoz s.g (s.mc x) u]++G) (vb Ds w):=λh a Q=>by
  unfold zlc at h;split at h;rename_i f cs R;have⟨hi,h1⟩:=yo h;have hi:=yh hi;subst hi;cases h1;have⟨Y,mK,hn⟩:=m;have T:St we Se (MS mK xS.ob++F) (RS P mK H xS.rg++([]++G)) (vb Ds w):=hn;refine⟨_,ZC (rs:=[.tmp t]) (vs:=[H t]) (by rw[<-M,xcC])<|Q▸⟨O,ul⟩,H t,O,ul,?_⟩;have U:=St.dropM (A:=[]) (B:=MS mK xS.ob) (C:=F) (by simpa using T);refine U.weak λS w b=>⟨?_,?_⟩
  exact Xi (fr:=⟨we,Se,F,G⟩) (cx:=⟨0,[],[]⟩) (show zD S (GS P mK H ⟨we,Se,F,G⟩ ⟨0,[],[]⟩ xS) w from b) t 0 _ R;exact zD.right b;cases h
 cases q with
 |n=>exact⟨.inl O,hl,i k⟩
 |r=>exact⟨.inr O,hl,i k⟩
 |x j=>cases k
 |p q=>cases k
 refine⟨⟨λ_ d=>kW d H1,λ_ d=>kW d H1,λe d p hp=> ?_,λ_ d=>kW d H1⟩,λ_=>XS,?_⟩;rw[Pf e d]at hp;cases hp
 show St we Se ([]++([]++F)) _ w;exact ht.weak λS w b=>zD.append (zcT hd (λj v V=>C1 V)<|zD.left b)<|zD.right b;cases h
def ziO{α:Type}{e:zZ α}{E E1:ut}{u:jp}{d:N (N α)}{ix:N K}{S:K->Prop}(h:(Bh e E E1 u d ix).p S w):∀a k c,yR u=.slice a k c->a.isSome=qR->k=X ix:=by
 rcases gk (Oe h).2.1 with⟨hv,_⟩|⟨b,cap,hv,_⟩
 simp_all;simp_all
def zkm{cx σ:Sg}{t i:K}{d:Dv}(h:get ⟨0,[],[]⟩ σ t i=Z d):get cx σ t i=Z d:=by unfold get at h⊢;split at h;exact h;cases h
def zpb(V:P.follows .mixedOrders=qR)(Y:y6 P cf.tt)(hL:ua P cf.tt)(hC:∀s∈cf.cs,y8 P s)(hX:Bp P cf){s:C8}{fn:V0}
 (hf:P.funcs[s.f]? =Z fn) (hb:Ae P s.f=qR) (hM:∀pn A ix r a p lo n z,s.M A ix r a p lo n=Z z->znQ cf fn s.t s.E s.E1 pn A ix r a p lo n=Z z):zbv P s:=by
 refine⟨hb,λA ix r a p lo n z hz u hr hv hA hl hD hF we Se F G w hn=> ?_⟩;have h:=hM hv A ix r a p lo n z hz;unfold znQ at h;split at h;rename_i c hc hG;have⟨l,h⟩:=yo h;rw[xae]at l;have hi:∀a k c,yR u=.slice a k c->a.isSome=qR->k=X ix:=wI hn (i:=0) O λS hp=>ziO hp;refine ab (args:=[hr,.int .i64 a,.int .i64 p,hv]) hf hc l.2 λrest=> ?_;refine YG (fr:=⟨we,Se,F,G⟩) (N:=Nd.of fn.ntmps) V Y hL hC hX c l.1 O (.inl O) h (λq xS B Ds H w _ D=> ?_) ?_;have⟨ht,D⟩:=Yx D
 have m:zkZ s.t s.E s.E1 ix lo n xS=Z z->∀a:QR,yf a=H->
  ∃v,(V6 fn a.tmps).run P (vb Ds w)=.ok v (vb Ds w)/\∃v' R,xeB v=.returned v'/\yR R=yR u/\St we Se (Bh s.t.rep s.E s.E1 R z ix::F) G (vb Ds w):=λh a ha=>by
  unfold zkZ at h;split at h;rename_i o J n' hg;split at h;rename_i t' E' F' y d l;have⟨K,h1⟩:=yo h;rw[xae]at K;have hH:=yh K.1;have hI:=yh K.2;subst hH hI;have⟨e,C⟩:=yv h1;cases e;obtain⟨⟨rfl,rfl,rfl⟩,L⟩:=Ya C;cases L;have⟨hB,mK,hd⟩:=D;have⟨S0,_,T⟩:=hd.ex;have hw:H 3=hv:=(zD.left<|zD.right T).1;have U:Ss (yR<|mK o) J n' (H 3):=Xi T 3 0 _<|zkm hg;rw[hw]at U;have C:St we Se (Bh s.t.rep s.E s.E1 (mK o) y d::OS mK ⟨we,Se,F,G⟩ ⟨0,[(3,0,.pin hv)],[]⟩ (yI xS.ob o)) (GS P mK H ⟨we,Se,F,G⟩ ⟨0,[(3,0,.pin hv)],[]⟩ xS) (vb Ds w):=ji l hd;have hj:∀a k c,yR (mK o)=.slice a k c->a.isSome=qR->k=X d:=wI C (i:=0) O λS hp=>ziO hp;refine⟨_,ZC (rs:=[]) (vs:=[]) (by rw[<-hG,xcC]) ul,_,mK o,O,U.same hl hj hi,?_⟩;have L:St we Se ([Bh s.t.rep s.E s.E1 (mK o) y d]++(MS mK (yI xS.ob o)++F)) (GS P mK H ⟨we,Se,F,G⟩ ⟨0,[(3,0,.pin hv)],[]⟩ xS) (vb Ds w):=C;exact(St.dropM L).weak λS w g=>zD.right<|zD.right g
  cases h
  cases h
 cases q with
 |n=>exact⟨.inl O,ht,m B⟩
 |r=>exact⟨.inr O,ht,m B⟩
 |x j=>cases B
 |p q=>cases B
 refine⟨⟨λe b=> ?_,λ_ b=>kW b H1,λe b q Q=> ?_,λe b q Q=> ?_⟩,λ_=>u,?_⟩;obtain rfl:=xaf.1 b;exact xdp;simp only[xal,H1,pM]at b;obtain rfl|rfl|rfl|rfl:=b<;>cases Q<;>exact xdp
 obtain rfl:=xaf.1 b;cases Q
 refine hn.weak λS w g=>⟨hA,ve hD,ve hF,hl,O,g⟩;cases h
end
end
section
def zha{ι:Type _}{R:Type}(S:ι->Tg×Sg)(f:ι->V R)(a:∀i j,S i=S j->f i=f j):∃K:Tg->Sg->V R,(∀i,K (S i).1 (S i).2=f i)/\∀t σ r,K t σ=Z r->∃i,S i=(t,σ)/\f i=Z r:=by
 classical
 refine⟨λt σ=>if h:∃i,S i=(t,σ)then f h.choose else wW,λi=> ?_,λt σ r h=> ?_⟩;have h:∃j,S j=((S i).1,(S i).2):=⟨i,O⟩;grind;by_cases h1:∃i,S i=(t,σ);grind;simp_all
def chS(E:ut){X Y:Type}(b:X->jp->MF)(c:Y->jp->MF)(g:N J->X->V (N J×(X⊕Y)))(n a:J)(x:X)(xs:N J):Sg:=
 ⟨2,[(4,0,.ow 1),(0,0,.yd 0),(1,0,.q .i n),(2,0,.q .i a)],[(1,.own .i E xs),(0,.hid .i E X Y b c g x)]⟩
section
variable{P:Z2}{fr:Fr}{σ:Sg}{H:xr}{w:jP}{E:ut}{X Y:Type}{mX:X->jp->MF}{mY:Y->jp->MF}{g:wF wN->X->wS (wF wN×(X⊕Y))}{n all:wN}{x:X}{y:Y}{xs:wF wN}{o p:wP}
theorem zmG(c:get ⟨0,[],[]⟩ σ 4 0=Z (.ow p))(h0:get ⟨0,[],[]⟩ σ 0 0=Z (.yd o))(h1:get ⟨0,[],[]⟩ σ 1 0=Z (.q .i n))(d:get ⟨0,[],[]⟩ σ 2 0=Z (.q .i all))(f:xH σ.ob o=Z (.hid .i E X Y mX mY g x))(hp:xH σ.ob p=Z (.own .i E xs))
 (hc:Q o p=I) (h:u7 P fr ⟨0,[],[]⟩ σ H w):u7 P fr ⟨0,[],[]⟩ (chS E mX mY g n all x xs) H w:=by
 have⟨s,vs,hd⟩:=h;have j:=ib hc f hp hd;refine⟨⟨λe a=> ?_,λ_ a=>kW a H1,λe a q l=> ?_,λ_ a=>kW a H1⟩,λk=>if k=0 then vs o else vs p,?_⟩;simp only[chS,xal,H1,pM]at a⊢;grind;simp only[chS,xal,H1,pM]at a⊢;obtain rfl|rfl|rfl|rfl:=a<;>cases l<;>simp
 have m:St fr.we fr.Se ([Kz vs (o,.hid .i E X Y mX mY g x),Kz vs (p,.own .i E xs)]++(MS vs (yI (yI σ.ob o) p)++fr.F)) (GS P vs H fr ⟨0,[],[]⟩ σ) w:=j;have r:St fr.we fr.Se ([Kz vs (p,.own .i E xs),Kz vs (o,.hid .i E X Y mX mY g x)]++fr.F) (GS P vs H fr ⟨0,[],[]⟩ σ) w:=(St.dropM m).perm<|xdY ..;refine r.weak λS w b=>⟨?_,?_,?_,?_,?_⟩;exact Xi b 4 0 _ c;exact Xi b 0 0 _ h0;exact Xi b 1 0 _ h1;exact Xi b 2 0 _ d;exact zD.right<|zD.right b
def zoF{t:Ty}{g:N t.D->X->V (N t.D×(X⊕Y))}(a:xH σ.ob o=Z (.hid t E X Y mX mY g x))(h:u7 P fr ⟨0,[],[]⟩ σ H w):∃b,St fr.we fr.Se (mX x b::fr.F) fr.G w:=by have⟨f,vs,hc⟩:=h;have⟨_,c⟩:=St.unpr<|St.grp.1<|ji a hc;have d:=c;exact⟨_,(St.dropM d).weak λS w e=>zD.right<|zD.right e⟩
def zmU(a:xH σ.ob o=Z (.hiy Y mY y))(h:u7 P fr ⟨0,[],[]⟩ σ H w):∃b,St fr.we fr.Se (mY y b::fr.F) fr.G w:=by have⟨f,vs,hc⟩:=h;have c:=ji a hc;have d:St fr.we fr.Se ([mY y<|(wg<|vs o).headD XS]++(MS vs (yI σ.ob o)++fr.F)) (GS P vs H fr ⟨0,[],[]⟩ σ) w:=c;exact⟨_,(St.dropM d).weak λS w e=>zD.right<|zD.right e⟩
end
end
section
section
variable{P:Z2}
def zmX{U:Type}{f:Wf}{args:Z5 jp}{Γ:N FF}{b:U->jp}{c:U->N FF}{ok:U->Prop}(h:Fn P f args Γ b c ok):FnG P f args [] Γ b (λ_=>[]) c ok:=by rintro we Se F G w ⟨h1,l,n,S,o,d,p,g,j⟩;refine(h w S d<|zD.left j).mono ?_;rintro e w' ⟨u,e1,q,a,r⟩;exact⟨u,e1,q,h1.trans a,l,n,S,o,λk s=>d k<|xao a.size s,p,yV.keep a.to (λm t i hi=>a.block i (yV.lt g m t i hi) ul) g,zD.append r<|zD.keep a.to<|zD.right j⟩
def FnG.to{U V:Type}{f:Wf}{args:Z5 jp}{ms:N MF}{Γ:N FF}{i:U->jp}{own:U->N MF}{j:U->N FF}{ok:U->Prop}{b:V->jp}{c:V->N MF}{a:V->N FF}{d:V->Prop}
 (h:FnG P f args ms Γ i own j ok) (g:U->V) (h1:∀u,i u=b (g u)) (m:∀u,own u=c (g u)) (n:∀u,ok u->d (g u)) (o:∀u,ok u->∀S w,zD S (j u) w->zD S (a<|g u) w):FnG P f args ms Γ b c a d:=by
 intro we Se F G w hc;refine(h we Se F G w hc).mono ?_;rintro e w' ⟨u,e1,k,p⟩;exact⟨g u,by rw[e1,h1],n u k,by rw[<-m];exact p.weak λS w l=>zD.append (o u k S w<|zD.left l)<|zD.right l⟩
def znH{f:Wf}{s t:Ty}{M:s.D->V t.D}(a:Ae P f=qR)(h:∀x r v,M x=Z r->Fn P f [v].toArray [fV s.rep x v] (λu:jp=>u) (λu=>[fV t.rep r u]) (λ_=>Ws)):y8 P ⟨f,[.d s],[.d t],λx=>M x.1,0⟩:=by
 refine⟨a,λx r b vs hl=> ?_⟩
 match vs,hl with
 |[v],_=>exact(zmX<|h x.1 r v b).to (λu=>[u]) (λ_=>O) (λ_=>O) (λ_ _=>O) λu _ S w c=>c
end
end
section
def HOK(P:Z2)(f:Wf)(T:ut):Prop:=Ae P f=qR/\
 (∀(v:jp) we Se F G w,St we Se F G w->CallsDIn xcW 0 P f #[v] .returning w λe u w'=>(∃r,e=.returned r)/\u=.returning/\St we Se F G w')/\
 ∀(v:jp) (E:ut) (z x:J) we Se F G w,Qp x->St we Se (mP (Ty.i).rep.c E v z::F) G w->
  CallsDIn xcW 0 P f #[v] (.panicking<|ru (T,x)) w λe u w'=>(∃r,e=.returned r)/\settle u=.returning/\St we Se (mP (Ty.i).rep.c E v x::F) G w'
def zas(cf:Cf)(fn:V0)(cod:N RM)(σ:Sg):V (aI cod):=Bw cf (Jy σ fn.results.toList cod) fn.results.toList cod λy _=>Z y
def zp8(cf:Cf)(fn:V0)(cod:N RM)(t:Wn)(e:J)(σ:Sg):V (aI cod):=match get ⟨0,[],[]⟩ σ t 0 with
 |some (.vs o _)=>(match xH σ.ob o with
  |some (.var .i E _)=>zas cf fn cod ⟨σ.nx,σ.rg,kL σ.ob o (.var .i E e)⟩
  |_=>wW)
 |_=>wW
def zpf(cf:Cf)(fn:V0)(cod:N RM)(c:Wt)(t:Wn)(T:ut)(σ:Sg):V (aI cod):=match get ⟨0,[],[]⟩ σ t 0 with
 |some (.vs o s)=>den cf c ⟨0,[(t,0,.vs o s)],[]⟩ σ λtg σ=>(match tg with
  |.r=>zas cf fn cod σ
  |.n=>zas cf fn cod σ
  |.p q=>ck (q.1=T)<|ck (Qp q.2)<|zp8 cf fn cod t q.2 σ
  |_=>wW)
 |_=>wW
def zoV(cf:Cf)(fn:V0)(dom:N AM)(cod:N RM)(hd:Wf)(T:ut)(x:aH dom):V (aI cod):=match fn.body with
 |some (.seq c1 (.seq (.region _ a I) c2))=>(match a.toList with
  |[⟨wW,.defer ⟨.value (.func f),b,_⟩,_,_,_,wW⟩]=>(match b.toList with
   |[.tmp t]=>jK (Q f hd && (OB fn.ntmps c1 && (OB fn.ntmps c2 && xfu (X dom) fn.ntmps)))<|
    let y:=Yv dom x 0
    den cf c1 ⟨0,[],[]⟩ ⟨X dom,y.1,y.2⟩ λtg σ=>(match tg with
     |.n=>zpf cf fn cod c2 t T σ
     |_=>wW)
   |_=>wW)
  |_=>wW)
 |_=>wW
section
variable{P:Z2}{cf:Cf}{fr:Fr}{cx σ:Sg}{H:xr}{w:jP}
def zoH(d:y6 P cf.tt){fn:V0}{cod:N RM}{r:aI cod}{we:jP}{Se:K->Prop}{F:N MF}{G:N FF}(h:zas cf fn cod σ=Z r)(e:u7 P ⟨we,Se,F,G⟩ ⟨0,[],[]⟩ σ H w)(a:QR)(f:yf a=H):
 ∃v,(V6 fn a.tmps).run P w=.ok v w/\∃u:N jp,xeB v=.returned (ZI u)/\X u=X cod/\St we Se (kQ cod r u++F) (kN cod r u++G) w:=by
 unfold zas at h;have hc:=Ql fn.results.toList cod e;generalize Jy σ fn.results.toList cod=c at h hc;have⟨k,vs,hd⟩:=hc;have⟨y,os,e1,g⟩:=FO d h;cases e1;have⟨us,h1,i,j⟩:=g vs ⟨we,Se,F,G⟩ H _ _ (λS w b t=>Xi b t) hd;refine⟨_,ZC (rs:=fn.results.toList) (by rw[xcC])<|f▸i,us,O,h1,?_⟩;exact(St.dropM (B:=MS vs<|vi c.ob os) j).weak λS w b=>zD.append (zD.left b)<|zD.right<|zD.right b
def Rz{rg:N (K×K×Dv)}(h:u7 P fr ⟨0,rg,[]⟩ σ H w):u7 P fr ⟨0,[],[]⟩ σ H w:=by have⟨a,vs,hc⟩:=h;exact⟨⟨a.o1,λ_ h=>kW h H1,a.r1,λ_ h=>kW h H1⟩,vs,hc.weak λS w b=>zD.append (zD.left b)<|zD.append ul<|zD.right<|zD.right b⟩
def zfu{t:K}{dv:Dv}(d:get ⟨0,[],[]⟩ σ t 0=Z dv)(h:u7 P fr ⟨0,[],[]⟩ σ H w):u7 P fr ⟨0,[(t,0,dv)],[]⟩ σ H w:=by
 have⟨a,vs,hc⟩:=h;have c:(t,0,dv)∈σ.rg:=by
  obtain h|h:=CR d
  exact h;exact kW h H1
 refine⟨⟨a.o1,λ_ h=>kW h H1,a.r1,λe f=>by rw[xaf.1 f];exact a.r1 _ c⟩,vs,hc.weak λS w b=>zD.append (zD.left b)<|zD.append ⟨J8 (zD.left b) c,ul⟩<|zD.right<|zD.right b⟩
def cm{F:Ac}{n:K}{fn:V0}{tmps:Z5 jp}{u:FrameMode}{ds:N rW}{Q:gC->jP->Prop}(a:u≠ .run):∀{Ds:N K}{w:jP},gV Ds w->V2 F n P fn tmps Q ds u (vb Ds w)->V2 F n P fn tmps Q (Ds.map Td++ds) u w
 |[],w,_,h=>h
 |D::Ds,w,b,h=>⟨a,.inl ⟨D,_,O,cE b.1,cm a b.2 h⟩⟩
def Hp{fn:V0}{tmps:Z5 jp}{u:FrameMode}{ds:N rW}{f:Wf}{v:jp}{Q:gC->jP->Prop}(b:Ae P f=qR)(c:u≠ .run)
 (h:CallsDIn xcW 0 P f #[v] u w λe a w'=>(∃r,e=.returned r)/\V2 xcW 0 P fn tmps Q ds (settle a) w'):V2 xcW 0 P fn tmps Q ({target:=.fn (.func f) #[],args:= #[v]}::ds) u w:=by
 refine⟨c,.inr ⟨λe=>by simp[xcW]at e,_,_,f,#[v],O,by simp[V3,qw b],λ_ _=>ul,CallsDIn.mono h ?_⟩⟩;rintro e a w' ⟨⟨r,rfl⟩,h⟩;exact h
def zo2(hm:P.follows .mixedOrders=qR)(U:y6 P cf.tt)(hL:ua P cf.tt)(hC:∀s∈cf.cs,y8 P s)(hX:Bp P cf){s:Wk}{fn:V0}
 (hf:P.funcs[s.f]? =Z fn) (hb:Ae P s.f=qR) (z:s.bk=0) {hd:Wf}{T:ut} (D:HOK P hd T) (hM:∀x r,s.M x=Z r->zoV cf fn s.dom s.cod hd T x=Z r):y8 P s:=by
 refine⟨hb,λx r h vs hE=> ?_⟩;rw[z];show FnG P s.f vs.toArray (kG s.dom x vs) (jQ P s.dom x vs) ZI (λus=>kQ s.cod r us) (λus=>kN s.cod r us) (λus=>X us=X s.cod);have h:=hM x r h;unfold zoV at h;split at h;rename_i c1 id y c2 hc;split at h;rename_i f g ts ty wl wn h0;split at h;rename_i t h3;have⟨ho,hz⟩:=yo h;clear h;simp only[xae]at ho;have⟨hJ,hK,hN,hn⟩:=ho;obtain rfl:=yh hJ;intro we Se F G w hO;refine callsIn_wide.1<|bv (n:=0) hf hc ul ?_;have hn:=xbJ hn;have hP:aB (yf ⟨vs.toArray++xdl (fn.ntmps-vs.toArray.size) XS,[]⟩) ((vs.zipIdx 0).map λx=>(x.2,x.1)):=by refine Ky vs 0 _ λj=> ?_;rw[cH];simp[xbw,UV]
 have e0:∀j v,vs[j]? =Z v->vs.getD (0+j) XS=v:=λj v J=>by rw[xaM,UV,J];rfl
 have hA:=YG (fr:=⟨we,Se,F,G⟩) (N:=Nd.of fn.ntmps) (Ds:=[]) (H:=L ((vs.zipIdx 0).map λx=>(x.2,x.1))<|yf ⟨vs.toArray++xdl (fn.ntmps-vs.toArray.size) XS,[]⟩) (w:=w) hm U hL hC hX c1 hK O (.inl O) hz
  (Q:=λe Ds H w=>e=.normal/\∃σ,zpf cf fn s.cod c2 t T σ=Z r/\u7 P (Fr.wd ⟨we,Se,F,G⟩ Ds) ⟨0,[],[]⟩ σ H w)
  (λt xS z Ds H w _ A=>by
   cases t with
   |n=>exact⟨O,xS,z,A⟩
   |x j=>cases z
   |r=>cases z
   |p q=>cases z) (by
   refine⟨⟨λe c=> ?_,λ_ c=>kW c H1,λe c p hp=> ?_,λ_ c=>kW c H1⟩,λo=>vs.getD o XS,?_⟩;have:=Ec e c;simpa using this;have:=pJ e c p hp;simpa using this;have e1:MS (λo=>vs.getD o XS) (Yv s.dom x 0).2=kG s.dom x vs:=Ez hE e0;show St we Se (MS _ (Yv s.dom x 0).2++([]++F)) _ w;rw[e1];exact hO.weak λS w i=>zD.append (DV hE (λj v J=>⟨e0 j v J,C1 J⟩)<|zD.left i)<|zD.right i)
 refine iI<|WL (hA _ (by simp[Nd.of];lia) O (Ud hP).symm) ?_;rintro e l w1 ⟨q1,d,q2,rfl,a0,K,hQ⟩;show(Code.seq (.region id y I) c2).wpIn xcW 0 P _ l w1;unfold zpf at K;split at K;rename_i o st hg;have hS:(uT (ev<|yf l) ⟨wW,.defer ⟨.value (.func f),g,ts⟩,ty,wl,wn,wW⟩).run P w1=.ok (.defer {target:=.fn (.func f) #[],args:= #[yf l t]}) w1:=by
  obtain rfl:g= #[.tmp t]:=by cases g;simp_all
  simp[uT,WR,xda,ev]
 have hG:y=[⟨wW,.defer ⟨.value (.func f),g,ts⟩,ty,wl,wn,wW⟩].toArray:=by cases y;simp_all
 refine iI ?_;rw[hG];refine eL ?_;unfold V1;rw[E<|by rfl];unfold Oper.wpIn;refine⟨λ_ _=>ul,?_⟩;rw[KX];rw[show xcW.round=wW from O,Oper.semAt_none,hS];rw[Oper.uponIn_defer];refine iP ?_
 have m:=YG (fr:=Fr.wd ⟨we,Se,F,G⟩ d) (N:=⟨fn.ntmps,{target:=.fn (.func f) #[],args:= #[yf l t]}::d.map Td,wW⟩) (Ds:=[]) (H:=yf l) (w:=w1) hm U hL hC hX c2 hN O (.inl O) K
  (Q:=λe Ds H w=>∀a:QR,yf a=H->a.defers=Ds.map Td++{target:=.fn (.func f) #[],args:= #[yf l t]}::d.map Td->bodyPostM xcW 0 P fn (λe w'=>∃u:wF jp,e=.returned (ZI u)/\X u=X s.cod/\St we Se (kQ s.cod r u++F) (kN s.cod r u++G) w') e a w)
  (λtg V hi B b w2 hU R=> ?_) (zfu hg hQ)
 refine WL (m _ q1 (by show _::_=_;rw[q2];simp[Nd.of]) O) ?_;rintro e a' w' ⟨p1,B,p2,p3⟩;exact p3 a' O p2
 have⟨hF,R⟩:=Yx R;have hV:b t=yf l t:=hU _<|xaf.2 O;have C:∀{σ:Sg}{w':jP}{a:QR},zas cf fn s.cod σ=Z r->u7 P (Fr.wd ⟨we,Se,F,G⟩ d) ⟨0,[],[]⟩ σ b w'->yf a=b->V2 xcW 0 P fn a.tmps (λe w'=>∃u:wF jp,e=.returned (ZI u)/\X u=X s.cod/\St we Se (kQ s.cod r u++F) (kN s.cod r u++G) w') (d.map Td) .returning w':=λ{σ w' a} c A k=>by
  have⟨hI,A⟩:=Yx A;exact Xe hI<|zoH U c A a k
 have yx:zas cf fn s.cod V=Z r->∀a:QR,yf a=b->a.defers=B.map Td++{target:=.fn (.func f) #[],args:= #[yf l t]}::d.map Td->V2 xcW 0 P fn a.tmps (λe w'=>∃u:wF jp,e=.returned (ZI u)/\X u=X s.cod/\St we Se (kQ s.cod r u++F) (kN s.cod r u++G) w') a.defers .returning w2:=λc a k hl=>by
  rw[hl];refine cm m7 hF<|Hp D.1 m7 ?_;have⟨m,vs2,ht⟩:=Rz R;refine CallsDIn.mono (D.2.1 _ _ _ _ _ _ ht) ?_;rintro e u w' ⟨Y,rfl,hs⟩;exact⟨Y,C c ⟨m,vs2,hs⟩ k⟩
 cases tg with
 |n=>exact λa k hl=>yx hi a k hl
 |r=>exact λa k hl=>yx hi a k hl
 |x j=>cases hi
 |p q=>
  have⟨hW,hi⟩:=Ya hi;have⟨hY,hi⟩:=Ya hi;unfold zp8 at hi;split at hi;rename_i o2 s2 hZ;split at hi;rename_i E2 z2 hw;intro a k hl;show V2 xcW 0 P fn a.tmps _ a.defers (.panicking<|ru q) w2;rw[hl];refine cm m7 hF<|Hp D.1 m7 ?_;have⟨m,vs2,ht⟩:=Rz R;have⟨S0,_,i⟩:=ht.ex;have hv:b t=vs2 o2:=(Xi i t 0 _ hZ).1;have hq:ru q=ru (T,q.2):=by rw[<-hW]
  rw[hq,<-hV,hv];refine CallsDIn.mono (D.2.2 _ E2 z2 q.2 _ _ _ _ _ hY<|ji hw ht) ?_;rintro e u w' ⟨Y,hu,hs⟩;refine⟨Y,?_⟩;rw[hu];refine C hi ⟨⟨λe c=> ?_,m.o2,m.r1,m.r2⟩,vs2,?_⟩ k;have⟨e',h1,h2⟩:=VR hw e c;rw[<-h2];exact m.o1 e' h1;exact pk hw hs;cases hi
  cases hi
 cases K
 cases h
 cases h
 cases h
end
end
section
set_option maxRecDepth 100000
variable{cs:wF Wk}{fu:wP}{s:Wk}{ps:wF Je}
def tt:N (K×TI):=[(2,⟨.i,.int .i64,8⟩),(3,⟨.i,.int .i64,8⟩),(4,⟨.b,.bool,1⟩),(5,⟨.ch,.int .u8,1⟩),(6,⟨.ch,.int .u8,1⟩),(7,⟨(.p .i (.p .i (.p .b .ch))),.st 4,24⟩),(8,⟨(.p .i (.p .i (.p .b .ch))),.st 4,24⟩),(9,⟨.tx,.str,16⟩),(10,⟨.tx,.str,16⟩),(11,⟨.tx,.str,16⟩),(12,⟨.u,.int .u64,8⟩),(13,⟨(.p .tx .u),.st 2,24⟩),(14,⟨(.p .tx .u),.st 2,24⟩),(22,⟨(.l (.p .b (.l .u))),.sl 44,24⟩),(23,⟨(.l (.l (.p (.p .b (.l .u)) (.l .u)))),.sl 41,24⟩),(25,⟨(.po (.w1 (.p (.l (.p .b (.l .u))) (.l (.p (.p .b (.l .u)) (.l .u)))))),.pt 104,8⟩),(29,⟨.i,.int .i64,8⟩),(41,⟨(.l (.p (.p .b (.l .u)) (.l .u))),.sl 46,24⟩),(42,⟨(.l .u),.sl 73,24⟩),(43,⟨(.p .b (.l .u)),.st 2,32⟩),(44,⟨(.p .b (.l .u)),.st 2,32⟩),(45,⟨(.p (.p .b (.l .u)) (.l .u)),.st 2,56⟩),(46,⟨(.p (.p .b (.l .u)) (.l .u)),.st 2,56⟩),(57,⟨(.l (.p (.l (.p .b (.l .u))) .i)),.sl 61,24⟩),(60,⟨(.p (.l (.p .b (.l .u))) .i),.st 2,32⟩),(61,⟨(.p (.l (.p .b (.l .u))) .i),.st 2,32⟩),(73,⟨.u,.int .u64,8⟩),(76,⟨(.l (.l (.l (.p (.p .b (.l .u)) (.l .u))))),.sl 23,24⟩),(78,⟨(.po .i),.pt 29,8⟩),(80,⟨(.w1 (.po (.w1 (.p (.l (.p .b (.l .u))) (.l (.p (.p .b (.l .u)) (.l .u))))))),.st 0,8⟩),(81,⟨(.w1 (.po (.w1 (.p (.l (.p .b (.l .u))) (.l (.p (.p .b (.l .u)) (.l .u))))))),.st 0,8⟩),(100,⟨(.p (.l (.p .b (.l .u))) (.l (.p (.p .b (.l .u)) (.l .u)))),.st 2,48⟩),(101,⟨(.p (.l (.p .b (.l .u))) (.l (.p (.p .b (.l .u)) (.l .u)))),.st 2,48⟩),(103,⟨(.w1 (.p (.l (.p .b (.l .u))) (.l (.p (.p .b (.l .u)) (.l .u))))),.st 0,48⟩),(104,⟨(.w1 (.p (.l (.p .b (.l .u))) (.l (.p (.p .b (.l .u)) (.l .u))))),.st 0,48⟩),(105,⟨(.l (.l (.p .b (.l .u)))),.sl 22,24⟩),(125,⟨(.l .i),.sl 3,24⟩),(127,⟨(.w1 .i),.st 0,8⟩),(128,⟨(.w1 .i),.st 0,8⟩),(150,⟨(.po (.p (.l (.p .b (.l .u))) (.p (.l (.p .b (.l .u))) (.p (.p .b (.l .u)) (.p (.p .b (.l .u)) .b))))),.pt 152,8⟩),(151,⟨(.p (.l (.p .b (.l .u))) (.p (.l (.p .b (.l .u))) (.p (.p .b (.l .u)) (.p (.p .b (.l .u)) .b)))),.st 5,120⟩),(152,⟨(.p (.l (.p .b (.l .u))) (.p (.l (.p .b (.l .u))) (.p (.p .b (.l .u)) (.p (.p .b (.l .u)) .b)))),.st 5,120⟩),(159,⟨(.l .tx),.sl 9,24⟩),(172,⟨(.l (.l .i)),.sl 125,24⟩),(190,⟨(.l .ch),.sl 5,24⟩),(218,⟨.u,.int .u64,8⟩),(221,⟨(.po .ch),.pt 5,8⟩),(272,⟨(.a 4 (.l (.p .b (.l .u)))),.ar 4 22,96⟩),(273,⟨(.a 4 (.l (.p .b (.l .u)))),.ar 4 22,96⟩),(278,⟨.i,.int .i64,8⟩),(300,⟨(.a 3 (.l .i)),.ar 3 125,72⟩),(301,⟨(.a 3 (.l .i)),.ar 3 125,72⟩),(308,⟨.u,.int .u64,8⟩),(312,⟨(.po .i),.pt 3,8⟩),(324,⟨(.p (.l (.p .b (.l .u))) (.l (.l (.p .b (.l .u))))),.st 2,48⟩),(325,⟨(.p (.l (.p .b (.l .u))) (.l (.l (.p .b (.l .u))))),.st 2,48⟩),(328,⟨(.po (.p (.p (.l (.p .b (.l .u))) (.l (.l (.p .b (.l .u))))) (.l (.l (.p .b (.l .u)))))),.pt 330,8⟩),(329,⟨(.p (.p (.l (.p .b (.l .u))) (.l (.l (.p .b (.l .u))))) (.l (.l (.p .b (.l .u))))),.st 2,72⟩),(330,⟨(.p (.p (.l (.p .b (.l .u))) (.l (.l (.p .b (.l .u))))) (.l (.l (.p .b (.l .u))))),.st 2,72⟩),(334,⟨(.p (.p .b (.l .u)) (.p (.p .b (.l .u)) (.p .b (.l .u)))),.st 3,96⟩),(335,⟨(.p (.p .b (.l .u)) (.p (.p .b (.l .u)) (.p .b (.l .u)))),.st 3,96⟩),(337,⟨(.po .u),.pt 308,8⟩),(347,⟨(.po (.w1 .tx)),.pt 362,8⟩),(354,⟨.ch,.int .u8,1⟩),(355,⟨.ch,.int .u8,1⟩),(361,⟨(.w1 .tx),.st 0,16⟩),(362,⟨(.w1 .tx),.st 0,16⟩)]
def ex:N (K×uS):=[(180,qR),(226,I)]
def tA{t:ut}{a:TI}{tt:N (K×TI)}(b:R7 Tryz.prog t a)(k:y6 Tryz.prog tt)(h1:tyB Tryz.prog t=Z (a.ty.rep.agg,a.ty.n,a.B,Z<|a.ty.rep.val<|zc a.ty):=by kernel_rfl)(c:(xde 0 a.B && xde 0 a.ty.n)=qR:=by kernel_rfl):y6 Tryz.prog ((t,a)::tt):=y6.add h1 c b k
def BG:y6 Tryz.prog tt:=tA (id (by kernel_rfl:Tryz.prog.underlying 2=Z (.int .i64)))<|
 tA (id (by kernel_rfl:Tryz.prog.underlying 3=Z (.int .i64)))<|
 tA (id (by kernel_rfl:Tryz.prog.underlying 4=Z .bool))<|
 tA (id (by kernel_rfl:Tryz.prog.underlying 5=Z (.int .u8)))<|
 tA (id (by kernel_rfl:Tryz.prog.underlying 6=Z (.int .u8)))<|
 tA ⟨O,ol⟩<|
 tA ⟨O,ol⟩<|
 tA (id (by kernel_rfl:Tryz.prog.underlying 9=Z .string))<|
 tA (id (by kernel_rfl:Tryz.prog.underlying 10=Z .string))<|
 tA (id (by kernel_rfl:Tryz.prog.underlying 11=Z .string))<|
 tA (id (by kernel_rfl:Tryz.prog.underlying 12=Z (.int .u64)))<|
 tA ⟨O,ol⟩<|
 tA ⟨O,ol⟩<|
 tA ⟨ol,_,O⟩<|
 tA ⟨ol,_,O⟩<|
 tA (id (by kernel_rfl:Tryz.prog.underlying 25=Z (.pointer 104)))<|
 tA (id (by kernel_rfl:Tryz.prog.underlying 29=Z (.int .i64)))<|
 tA ⟨ol,_,O⟩<|
 tA ⟨ol,_,O⟩<|
 tA ⟨O,ol⟩<|
 tA ⟨O,ol⟩<|
 tA ⟨O,ol⟩<|
 tA ⟨O,ol⟩<|
 tA ⟨ol,_,O⟩<|
 tA ⟨O,ol⟩<|
 tA ⟨O,ol⟩<|
 tA (id (by kernel_rfl:Tryz.prog.underlying 73=Z (.int .u64)))<|
 tA ⟨ol,_,O⟩<|
 tA (id (by kernel_rfl:Tryz.prog.underlying 78=Z (.pointer 29)))<|
 tA ⟨O,ol⟩<|
 tA ⟨O,ol⟩<|
 tA ⟨O,ol⟩<|
 tA ⟨O,ol⟩<|
 tA ⟨O,ol⟩<|
 tA ⟨O,ol⟩<|
 tA ⟨ol,_,O⟩<|
 tA ⟨ol,_,O⟩<|
 tA ⟨O,ol⟩<|
 tA ⟨O,ol⟩<|
 tA (id (by kernel_rfl:Tryz.prog.underlying 150=Z (.pointer 152)))<|
 tA ⟨O,ol⟩<|
 tA ⟨O,ol⟩<|
 tA ⟨ol,_,O⟩<|
 tA ⟨ol,_,O⟩<|
 tA ⟨ol,_,O⟩<|
 tA (id (by kernel_rfl:Tryz.prog.underlying 218=Z (.int .u64)))<|
 tA (id (by kernel_rfl:Tryz.prog.underlying 221=Z (.pointer 5)))<|
 tA ⟨O,ol⟩<|
 tA ⟨O,ol⟩<|
 tA (id (by kernel_rfl:Tryz.prog.underlying 278=Z (.int .i64)))<|
 tA ⟨O,ol⟩<|
 tA ⟨O,ol⟩<|
 tA (id (by kernel_rfl:Tryz.prog.underlying 308=Z (.int .u64)))<|
 tA (id (by kernel_rfl:Tryz.prog.underlying 312=Z (.pointer 3)))<|
 tA ⟨O,ol⟩<|
 tA ⟨O,ol⟩<|
 tA (id (by kernel_rfl:Tryz.prog.underlying 328=Z (.pointer 330)))<|
 tA ⟨O,ol⟩<|
 tA ⟨O,ol⟩<|
 tA ⟨O,ol⟩<|
 tA ⟨O,ol⟩<|
 tA (id (by kernel_rfl:Tryz.prog.underlying 337=Z (.pointer 308)))<|
 tA (id (by kernel_rfl:Tryz.prog.underlying 347=Z (.pointer 362)))<|
 tA (id (by kernel_rfl:Tryz.prog.underlying 354=Z (.int .u8)))<|
 tA (id (by kernel_rfl:Tryz.prog.underlying 355=Z (.int .u8)))<|
 tA ⟨O,ol⟩<|
 tA ⟨O,ol⟩<|
 y6.nil
def Fi:ua Tryz.prog tt:=ua.of ol
def GY:nH Tryz.prog ex:=nH.add Tryz.func180 ol ol ol (λ_=>by kernel_rfl) (λh=>by cases h)<|
 nH.add Tryz.func226 ol ol ol (λh=>by cases h) (λ_=>by kernel_rfl)<|
 nH.nil
def Dw:Tryz.prog.follows .mixedOrders=qR:=ol
def sg(an:An){fn:V0}(a:Tryz.prog.funcs[s.f]? =Z fn)(b:∀s∈cs,y8 Tryz.prog s)(c:Ae Tryz.prog s.f=qR)(d:∀x,zan ⟨tt,cs,an,fu,ex,[],[],[],[]⟩ fn s.dom s.cod x=s.M x)(e:s.bk=0:=by rfl):y8 Tryz.prog s:=
 sgP Dw BG Fi GY O an a b c e d
def sq(fu:K)(an:An){fn:V0}(a:Tryz.prog.funcs[s.f]? =Z fn)(b:∀s∈cs,y8 Tryz.prog s)(c:Ae Tryz.prog s.f=qR:=by kernel_rfl)(d:∀x,zan ⟨tt,cs,an,fu,ex,[],[],[],[]⟩ fn s.dom s.cod x=s.M x:=by intro x;kernel_rfl)(e:s.bk=0:=by rfl):y8 Tryz.prog s:=sg an a b c d e
abbrev q1(S:N (K×TF))(j:K)(T:N (K×TF)):Lp:=⟨⟨S,[]⟩,⟨[],[(.x j,⟨T,[]⟩)]⟩⟩
abbrev yz(s:Wk):Prop:=y8 Tryz.prog s
def f8{zs:N (K->Wk)}{s:Wk}(fu:K)(an:An){fn:V0}(c:Tryz.prog.funcs[s.f]? =Z fn)(d:∀s∈zs,∀fu,yz (s fu))(e:Ae Tryz.prog s.f=qR:=by kernel_rfl)(g:∀x,zan ⟨tt,zs.map λs=>s fu,an,fu,ex,[],[],[],[]⟩ fn s.dom s.cod x=s.M x:=by intro x;kernel_rfl)(i:s.bk=0:=by rfl):yz s:=sq fu an c (λq h=>by obtain⟨a,b,rfl⟩:=List.mem_map.1 h;exact d a b fu) e g i
abbrev f9(x:N (K×Lp)):An:=⟨[],[],x,[],[],[],[]⟩
abbrev i7(y:N (K×Sgm))(x:N (K×Lp)):An:=⟨[],y,x,[],[],[],[]⟩
abbrev vv1{A R:Type}(f:A->R)(x:A×Wl):R:=f x.1
abbrev vv2{A B R:Type}(f:A->B->R)(x:A×B×Wl):R:=f x.1 x.2.1
abbrev vv3{A B C R:Type}(f:A->B->C->R)(x:A×B×C×Wl):R:=f x.1 x.2.1 x.2.2.1
abbrev vv4{A B C D R:Type}(f:A->B->C->D->R)(x:A×B×C×D×Wl):R:=f x.1 x.2.1 x.2.2.1 x.2.2.2.1
abbrev vv5{A B C D G R:Type}(f:A->B->C->D->G->R)(x:A×B×C×D×G×Wl):R:=f x.1 x.2.1 x.2.2.1 x.2.2.2.1 x.2.2.2.2.1
def ee0:∀s∈([]:N (K->Wk)),∀fu,yz (s fu):=λ_ h=>nomatch h
def f7{s:K->Wk}{l:N (K->Wk)}(h:∀fu,yz (s fu))(k:∀s∈l,∀fu,yz (s fu)):∀q∈s::l,∀fu,yz (q fu):=λq a=>by cases a with
 |head=>exact h
 |tail _ b=>exact k q b
section
variable{c1 c2 c3 c4 c5 c6 c7 c8 c9 c10 c11:wP->Wk}(h1:∀fu,yz (c1 fu))(h2:∀fu,yz (c2 fu))(h3:∀fu,yz (c3 fu))(h4:∀fu,yz (c4 fu))(h5:∀fu,yz (c5 fu))(h6:∀fu,yz (c6 fu))(h7:∀fu,yz (c7 fu))(h8:∀fu,yz (c8 fu))(h9:∀fu,yz (c9 fu))(h10:∀fu,yz (c10 fu))(h11:∀fu,yz (c11 fu))
def ee1:=f7 h1<|ee0
def ee2:=f7 h1 (ee1 h2)
def ee3:=f7 h1 (ee2 h2 h3)
def ee4:=f7 h1 (ee3 h2 h3 h4)
def ee5:=f7 h1 (ee4 h2 h3 h4 h5)
def ee6:=f7 h1 (ee5 h2 h3 h4 h5 h6)
def ee7:=f7 h1 (ee6 h2 h3 h4 h5 h6 h7)
def ee8:=f7 h1 (ee7 h2 h3 h4 h5 h6 h7 h8)
def ee9:=f7 h1 (ee8 h2 h3 h4 h5 h6 h7 h8 h9)
def e10:=f7 h1 (ee9 h2 h3 h4 h5 h6 h7 h8 h9 h10)
def e11:=f7 h1 (e10 h2 h3 h4 h5 h6 h7 h8 h9 h10 h11)
end
abbrev wG:An:=⟨[],[],[],[],[],[],[]⟩
abbrev yT:Ty:=.l (.p .b (.l .u))
abbrev zu:Ty:=.p .b (.l .u)
abbrev tzQ:Ty:=.l (.l (.p .b (.l .u)))
abbrev zT:Ty:=.l .u
abbrev d8:Ty:=.p zu zT
abbrev d9:Ty:=.l d8
abbrev xm:Ty:=.l .i
def sgb(an:An){fn:V0}(a:Tryz.prog.funcs[s.f]? =Z fn)(b:∀s∈cs,y8 Tryz.prog s)(c:Ae Tryz.prog s.f=qR)(d:∀e x,zk4 ⟨tt,cs,an,fu,ex,[],[],[],[]⟩ fn s.dom s.cod s.bk e x=s.M x):y8 Tryz.prog s:=
 sgG Dw BG Fi GY O an a b c d
def sgp(an:An){p:Je}{fn:V0}(a:Tryz.prog.funcs[p.s.f]? =Z fn)(b:∀s∈cs,y8 Tryz.prog s)(c:∀q∈ps,Oy Tryz.prog q)(d:Ae Tryz.prog p.s.f=qR)(e:∀x,zlo ⟨tt,cs,an,fu,ex,[],[],[],ps⟩ fn p.s.dom p.s.cod x=p.M x)(g:p.s.bk=0:=by rfl):Oy Tryz.prog p:=
 zo9 (cf:=⟨tt,cs,an,fu,ex,[],[],[],ps⟩) Dw BG Fi b ⟨GY,λ_ h=>kW h H1,λ_ h=>kW h H1,λ_ h=>kW h H1,O,c⟩ a d g λx r h=>(e x).trans h
def sgr(an:An){fn:V0}{hd:Wf}{T:ut}(a:HOK Tryz.prog hd T)(b:Tryz.prog.funcs[s.f]? =Z fn)(c:∀s∈cs,y8 Tryz.prog s)(d:∀q∈ps,Oy Tryz.prog q)(e:Ae Tryz.prog s.f=qR)(g:∀x,zoV ⟨tt,cs,an,fu,ex,[],[],[],ps⟩ fn s.dom s.cod hd T x=s.M x)(i:s.bk=0:=by rfl):y8 Tryz.prog s:=
 zo2 (cf:=⟨tt,cs,an,fu,ex,[],[],[],ps⟩) Dw BG Fi c ⟨GY,λ_ h=>kW h H1,λ_ h=>kW h H1,λ_ h=>kW h H1,O,d⟩ b e i a λx r h=>(g x).trans h
def pN:∀p∈([]:N Je),Oy Tryz.prog p:=λ_ h=>kW h H1
theorem pC{s:Je}{l:N Je}(h:Oy Tryz.prog s)(k:∀s∈l,Oy Tryz.prog s):∀q∈s::l,Oy Tryz.prog q:=by grind
end
section
set_option maxRecDepth 100000
section
variable(fu:wP)
def eK(fu:K)(b d:N K):oL J (Wl⊕Wl):=λL a=>if a<(X b:J)then zI a (X b) λe=>B (b.getD e 0) λf=>zI a (X d) λg=>B (d.getD g 0) λh=>if(f:J)=(h:J)then S (a+1) λi=>L i else Z (.inr ())else Z (.inl ())
def X8(a b:N K):V uS:=if(X a:J)=(X b:J)then G (zg (eK fu a b) fu 0) λd=>match d with
 |.inl _=>Z qR
 |.inr _=>Z I else Z I
def Jq(a b:U):V uS:=B (a.1==b.1) λd=>if d then G (X8 fu a.2 b.2) λe=>Z e else Z I
def Ju(a b:Qr):V uS:=G (Jq fu a.1 b.1) λd=>if d then G (X8 fu a.2 b.2) λe=>Z e else Z I
def fL(b d:N Qr):oL J (Wl⊕Wl):=λL a=>if a<(X b:J)then zI a (X b) λe=>B (b.getD e<|((I,[]),[])) λf=>zI a (X d) λg=>B (d.getD g<|((I,[]),[])) λh=>G (Ju fu f h) λi=>if !i then Z (.inr ())else S (a+1) λj=>L j else Z (.inl ())
def JF(a b:N Qr):V uS:=if(X a:J)=(X b:J)then G (zg (fL fu a b) fu 0) λd=>match d with
 |.inl _=>Z qR
 |.inr _=>Z I else Z I
def eR(b d:N (N Qr)):oL J (Wl⊕Wl):=λL a=>if a<(X b:J)then zI a (X b) λe=>B (b.getD e []) λf=>zI a (X d) λg=>B (d.getD g []) λh=>G (JF fu f h) λi=>if !i then Z (.inr ())else S (a+1) λj=>L j else Z (.inl ())
def Jz(a b:N (N Qr)):V uS:=if(X a:J)=(X b:J)then G (zg (eR fu a b) fu 0) λd=>match d with
 |.inl _=>Z qR
 |.inr _=>Z I else Z I
def yD(a b:N (N Qr)):V uS:=G (Jz fu a b) λd=>Z d
def Qn(fu:K)(a:N K)(b:J):V K:=if b<(X a:J)then zI b (X a) λd=>B (a.getD d 0) λe=>Z e else Z (0:K)
def gD(b:J)(a:K)(f g:N K):V (K×K):=G (Qn fu f b) λd=>G (Qn fu g b) λe=>ck (a<=1)<|B ((d+e+a)%18446744073709551616) λh=>B ((d+e+a)/18446744073709551616) λi=>Z (h,i)
def cZ(fu:K)(e:J->K->V (K×K))(f:N K):oL (K×J×(N K)) (K×(N K)):=λL (d,a,b)=>if a<(X f:J)then G (e a d) λ(g,h)=>zI a (X b) λi=>B (b.set i g) λt3=>S (a+1) λj=>L (h,j,t3)else Z (d,b)
def qJ(d:J)(e:J->K->V (K×K)):V ((N K)×K):=jT d λa=>ck (8*a<=281474976710656)<|B (So a 0) λb=>G (zg (cZ fu e b) fu<|((0:K),0,b)) λ(f,g)=>Z (g,f)
def GH(fu:K):oL (N K) (N K):=λL a=>if 0<(X a:J)then S ((X a:J)-1) λd=>zI d (X a) λe=>B (a.getD e 0) λf=>if(f:J)=(((0:K):K):J)then S ((X a:J)-1) λg=>jT g λb=>ck (b<=X a)<|B (a.take b) λh=>L h else Z a else Z a
def vd(a:N K):V (N K):=G (zg (GH fu) fu a) λt3=>Z t3
def KZ(fu:K):oL (N K) (N K):=λL a=>if 0<(X a:J)then S ((X a:J)-1) λd=>zI d (X a) λe=>B (a.getD e 0) λf=>if(f:J)=(((0:K):K):J)then S ((X a:J)-1) λg=>jT g λb=>ck (b<=X a)<|B (a.take b) λh=>L h else Z a else Z a
def xD(a:N K):V (N K):=G (zg (KZ fu) fu a) λt3=>Z t3
def ZW(a b:N K):V (N K):=B (max (X a:J)<|(X b:J)) λf=>G (qJ fu f<|λc h=>gD fu c h a b) λ(d,e)=>ck ((X d+X ([e]))*8<=140737488355328)<|B (d++([e])) λg=>G (xD fu g) λt3=>Z t3
def YQ(fu:K)(a:J):V uS:=if a=a then Z I else Z qR
def Zl(a b:J):V J:=G (YQ fu a) λe=>G (YQ fu b) λd=>if e then if d then Z 0 else Z (-1:J)else if d then Z 1 else if a<b then Z (-1:J)else if b<a then Z 1 else Z 0
def uz(fu a:K):V uS:=if(a:J)=(a:J)then Z I else Z qR
def jC(a b:K):V J:=G (uz fu a) λe=>G (uz fu b) λd=>if e then if d then Z 0 else Z (-1:J)else if d then Z 1 else if(a:J)<(b:J)then Z (-1:J)else if(b:J)<(a:J)then Z 1 else Z 0
def gh(b d:N K):oL J (Wl⊕J):=λL a=>if 0<=a then zI a (X b) λe=>B (b.getD e 0) λf=>zI a (X d) λg=>B (d.getD g 0) λh=>if(f:J)=(h:J)then S (a-1) λi=>L i else zI a (X b) λj=>B (b.getD j 0) λk=>zI a (X d) λl=>B (d.getD l 0) λm=>G (jC fu k m) λo=>Z (.inr o)else Z (.inl ())
def JI(d e:N K):V J:=G (vd fu d) λa=>G (vd fu e) λb=>if(X a:J)=(X b:J)then S ((X a:J)-1) λf=>G (zg (gh fu a b) fu f) λg=>match g with
 |.inl _=>Z 0
 |.inr h=>Z h else G (Zl fu (X a:J)<|(X b:J)) λi=>Z i
def wz(fu:K)(a:N K):V (N K):=ck (X a<=17592186044416)<|some a
def Y3(a:N K):V (N K):=G (vd fu a) λb=>G (wz fu b) λd=>Z d
def gx(fu:K)(b:J)(a1:K)(a:N K)(d:J):V (K×K):=zI b (X a) λg=>B (a.getD g 0) λh=>ck (64≠0)<|B (xcG d 64) λe=>ck (0<=e)<|B (h*2^(min (e:J).toNat 64)%18446744073709551616) λi=>B (i|||a1) λj=>zI b (X a) λk=>B (a.getD k 0) λl=>B (l/2^(min ((1:K):J).toNat 64)) λm=>ck (64≠0)<|B (xcG d 64) λo=>S (63-o) λf=>ck (0<=f)<|B (m/2^(min (f:J).toNat 64)) λp=>Z (j,p)
def Xo(fu:K)(a:N K)(e:J):V (N K):=jT e λb=>ck (8*b<=281474976710656)<|B (So b 0) λd=>ck ((X d+X a)*8<=140737488355328)<|B (d++a) λf=>Z f
def WX(b:N K)(a:J):V ((N K)×J):=if a<0 then Z ([],1)else if 262144<a then Z ([],1)else G (qJ fu (X b:J)<|λc i=>gx fu c i b a) λ(d,e)=>ck ((X d+X ([e]))*8<=140737488355328)<|B (d++([e])) λf=>ck (64≠0)<|S (xdC a 64) λg=>G (Xo fu f g) λt3=>G (xD fu t3) λh=>Z<|(h,0)
def dG(d:J)(m:K)(a:N K)(b:J):V (K×K):=zI d (X a) λf=>B (a.getD f 0) λg=>ck (0<=b)<|B (g/2^(min (b:J).toNat 64)) λh=>S (d+1) λi=>G (Qn fu a i) λj=>B (j*2^(min ((1:K):J).toNat 64)%18446744073709551616) λk=>S (63-b) λe=>ck (0<=e)<|B (k*2^(min (e:J).toNat 64)%18446744073709551616) λm4=>B (h|||m4) λl=>Z<|(l,(0:K))
def ax(a:N K)(f:J):V (N K):=B (max f 0) λb=>ck (64≠0)<|S (xdC b 64) λg=>if(X a:J)<=g then Z []else ck (64≠0)<|S (xdC b 64) λh=>jT h λd=>ck (d<=X a)<|B (a.drop d) λe=>ck (64≠0)<|B (xcG b 64) λi=>G (qJ fu (X e:J)<|λc l=>dG fu c l e i) λ(j,k)=>G (xD fu j) λt3=>Z t3
def vX(fu a:K):V J:=G (if(((4294967296:K):K):J)<=(a:J)then B (a/2^(min ((32:K):J).toNat 64)) λg=>Z (g,32)else Z (a,0):V (K×J)) λ(b,e)=>G (if(((65536:K):K):J)<=(b:J)then B (b/2^(min ((16:K):J).toNat 64)) λh=>S (e+16) λi=>Z (h,i)else Z (b,e):V (K×J)) λ(d,f)=>if(((256:K):K):J)<=(d:J)then B (d/2^(min ((8:K):J).toNat 64)) λj=>S (f+8) λk=>B (j%256) λl=>zI (l:J) (X OU) λm=>B (OU.getD m 0) λo=>S (k+(o:J)) λp=>Z p else B (d%256) λq=>zI (q:J) (X OU) λr=>B (OU.getD r 0) λs=>S (f+(s:J)) λu=>Z u
def xL(a:K):V J:=G (vX fu a) λb=>S (64-b) λd=>Z d
def jZ(fu l m g:K):((K×K)->V K)->(K×K)->V K:=λL (a,h)=>if(((4294967296:K):K):J)<=(a:J)then B ((a+18446744073709551616-((1:K)))%18446744073709551616) λb=>B ((h+l)%18446744073709551616) λd=>if(((4294967296:K):K):J)<=(d:J)then Z b else L (b,d)else B ((a*m)%18446744073709551616) λi=>B ((((4294967296:K))*h)%18446744073709551616) λj=>B ((j+g)%18446744073709551616) λk=>if(k:J)<(i:J)then B ((a+18446744073709551616-((1:K)))%18446744073709551616) λe=>B ((h+l)%18446744073709551616) λf=>if(((4294967296:K):K):J)<=(f:J)then Z e else L (e,f)else Z a
def jU(fu k l f:K):((K×K)->V K)->(K×K)->V K:=λL (g,a)=>if(((4294967296:K):K):J)<=(a:J)then B ((a+18446744073709551616-((1:K)))%18446744073709551616) λb=>B ((g+k)%18446744073709551616) λm32=>if(((4294967296:K):K):J)<=(m32:J)then Z b else L (m32,b)else B ((a*l)%18446744073709551616) λh=>B ((((4294967296:K))*g)%18446744073709551616) λi=>B ((i+f)%18446744073709551616) λj=>if(j:J)<(h:J)then B ((a+18446744073709551616-((1:K)))%18446744073709551616) λd=>B ((g+k)%18446744073709551616) λe=>if(((4294967296:K):K):J)<=(e:J)then Z d else L (e,d)else Z a
def jE(o l a:wP):V (wP×wP):=if(a:J)=(((0:wP):wP):J)then wW else if(a:J)<=(o:J)then wW else if(o:J)=(((0:wP):wP):J)then ck (a≠0)<|nm (l/a) λM=>ck (a≠0)<|nm (l%a) λN=>Z (M,N)else bd (xL fu a) λt=>nm (E4 t) λf=>nm (a*2^(min (f:J).toNat 64)%18446744073709551616) λm=>nm (m/2^(min (((32:wP)):J).toNat 64)) λb=>nm (m &&& ((4294967295:wP))) λx=>nm (o*2^(min (f:J).toNat 64)%18446744073709551616) λP=>nm ((((64:wP))+18446744073709551616-f)%18446744073709551616) λQ=>nm (l/2^(min (Q:J).toNat 64)) λm9=>nm (P|||m9) λd=>nm (l*2^(min (f:J).toNat 64)%18446744073709551616) λg=>nm (g/2^(min (((32:wP)):J).toNat 64)) λh=>nm (g &&& ((4294967295:wP))) λi=>ck (b≠0)<|nm (d/b) λj=>nm ((j*b)%18446744073709551616) λp=>nm ((d+18446744073709551616-p)%18446744073709551616) λq=>bd (zg (jZ fu b x h) fu (j,q)) λc=>nm ((d*((4294967296:wP)))%18446744073709551616) λr=>nm ((r+h)%18446744073709551616) λs=>nm ((c*m)%18446744073709551616) λu=>nm ((s+18446744073709551616-u)%18446744073709551616) λe=>ck (b≠0)<|nm (e/b) λk=>nm ((k*b)%18446744073709551616) λv=>nm ((e+18446744073709551616-v)%18446744073709551616) λw=>bd (zg (jU fu b x i) fu (w,k)) λK=>nm ((c*((4294967296:wP)))%18446744073709551616) λy=>nm ((y+K)%18446744073709551616) λA=>nm ((e*((4294967296:wP)))%18446744073709551616) λB=>nm ((B+i)%18446744073709551616) λC=>nm ((K*m)%18446744073709551616) λE=>nm ((C+18446744073709551616-E)%18446744073709551616) λG=>nm (G/2^(min (f:J).toNat 64)) λn=>Z (A,n)
def jv(fu a b:K):V (K×K):=B (a &&& (4294967295:K)) λl=>B (a/2^(min ((32:K):J).toNat 64)) λm=>B (b &&& (4294967295:K)) λo=>B (b/2^(min ((32:K):J).toNat 64)) λp=>B ((l*o)%18446744073709551616) λr=>B ((m*o)%18446744073709551616) λs=>B (r/2^(min ((32:K):J).toNat 64)) λu=>B ((s+u)%18446744073709551616) λq=>B (q &&& (4294967295:K)) λv=>B (q/2^(min ((32:K):J).toNat 64)) λd=>B ((l*p)%18446744073709551616) λe=>B ((v+e)%18446744073709551616) λf=>B ((m*p)%18446744073709551616) λg=>B ((g+d)%18446744073709551616) λh=>B (f/2^(min ((32:K):J).toNat 64)) λi=>B ((h+i)%18446744073709551616) λj=>B ((a*b)%18446744073709551616) λk=>Z (j,k)
def UG(i d j:K):((K×K)->V K)->(K×K)->V K:=λL (b,a)=>G (jv fu b j) λ(f,k)=>if(f:J)<(a:J)then Z b else if(f:J)=(a:J)then if(k:J)<=(i:J)then Z b else B ((b+18446744073709551616-((1:K)))%18446744073709551616) λg=>ck ((0:K)<=1)<|B ((a+d+((0:K)))%18446744073709551616) λl=>B ((a+d+((0:K)))/18446744073709551616) λm=>if(((0:K):K):J)<(m:J)then Z g else L (g,l)else B ((b+18446744073709551616-((1:K)))%18446744073709551616) λh=>ck ((0:K)<=1)<|B ((a+d+((0:K)))%18446744073709551616) λo=>B ((a+d+((0:K)))/18446744073709551616) λe=>if(((0:K):K):J)<(e:J)then Z h else L (h,o)
def Uf(b d e a f:K):V K:=if(a:J)<=(b:J)then Z (18446744073709551615:K)else G (jE fu b d a) λ(g,h)=>G (zg (UG fu e a f) fu (g,h)) λi=>Z i
def gj(b:J)(a:K)(f g:N K):V (K×K):=G (Qn fu f b) λd=>G (Qn fu g b) λe=>ck (a<=1)<|B ((d+18446744073709551616-e-a)%18446744073709551616) λh=>B (if d<e+a then 1 else 0) λi=>Z (h,i)
def JO(a b:N K):V ((N K)×J):=B (max (X a:J)<|(X b:J)) λd=>G (qJ fu d<|λc h=>gj fu c h a b) λ(e,f)=>if(((0:K):K):J)<(f:J)then Z ([],1)else G (xD fu e) λg=>Z<|(g,0)
def Ve(a b:N K):V (N K):=G (JO fu a b) λ(d,e)=>Z d
def gQ(e:J)(a:K)(b:N K)(f:K):V (K×K):=zI e (X b) λg=>B (b.getD g 0) λh=>G (jv fu h f) λ(i,d)=>ck ((0:K)<=1)<|B ((d+a+(0:K))%18446744073709551616) λj=>B ((d+a+(0:K))/18446744073709551616) λk=>B ((i+k)%18446744073709551616) λl=>Z (j,l)
def JJ(a:N K)(e:K):V (N K):=G (qJ fu (X a:J)<|λc g=>gQ fu c g a e) λ(b,d)=>ck ((X b+X ([d]))*8<=140737488355328)<|B (b++([d])) λf=>Z f
def U7(d:N K)(f:K):oL (K×J×(N K)) (K×(N K)):=λL (e,a,b)=>if 0<=a then zI a (X d) λg=>B (d.getD g 0) λh=>G (jE fu e h f) λ(i,j)=>zI a (X b) λk=>B (b.set k i) λt3=>S (a-1) λl=>L (j,l,t3)else Z (e,b)
def KE(a:N K)(d:K):V ((N K)×K):=jT (X a:J) λb=>ck (8*b<=281474976710656)<|B (So b 0) λe=>S ((X a:J)-1) λf=>G (zg (U7 fu a d) fu<|((0:K),f,e)) λ(g,h)=>G (xD fu h) λt5=>Z (t5,g)
def dJ(b:N K):oL (J×J×K×(N K)) (J×J×K×(N K)):=λL (g,h,d,a)=>G (JJ fu b d) λe=>G (JI fu e a) λf=>if 0<f then B ((d+18446744073709551616-(1:K))%18446744073709551616) λi=>L (g,h,i,a)else Z (g,h,d,a)
def V7(Q:J)(e:wF wP):oL ((wF wP)×J×(wF wP)×(wF wP)) ((wF wP)×(wF wP)):=λL (b,d,a,f)=>if 0<=d then zf (d+(A2 e:J)) λp=>zI p (A2 a) λR=>nm (a.getD R 0) λS=>zf (d+(A2 e:J)) λq=>zf (q-1) λr=>zI r (A2 a) λU=>nm (a.getD U 0) λV=>zf (d+(A2 e:J)) λs=>zf (s-2) λu=>zI u (A2 a) λW=>nm (a.getD W 0) λX=>zf ((A2 e:J)-1) λv=>zI v (A2 b) λY=>nm (b.getD Y 0) λc=>zf ((A2 e:J)-2) λw=>zI w (A2 b) λt=>nm (b.getD t 0) λx=>bd (Uf fu S V X c x) λz=>zf (d+(A2 e:J)) λy=>zf (y+1) λA=>jT d λg=>jT A λh=>ck (g<=h/\h<=A2 a)<|nm (xdH (h-g)<|xdT g a) λj=>ck ((A2 ([]:wF wP)+A2 j)*8<=140737488355328)<|nm (([]:wF wP)++j) λB=>bd (zg (dJ fu b) fu<|(Q,(A2 e:J),z,B)) λ(i4,F,P,C)=>zI d (A2 f) λE=>nm (f.set E P) λG=>jT d λi=>ck (i<=A2 a)<|bd (JJ fu b P) λD=>bd (Ve fu C D) λk=>zf (F+1) λH=>jT H λl=>ck ((A2 k+l)*8<=140737488355328)<|nm (k++So l 0) λm=>zf (F+1) λn=>jT n λo=>ck (o<=A2 m)<|nm (m.take o) λK=>nm (mz i (A2 a-i) a K) λM=>zf (d-1) λN=>L (b,N,M,G)else Z (a,f)
def az(p q:N wP):V ((N wP)×(N wP)×J):=bd (vd fu p) λb=>bd (vd fu q) λa=>bd (if(X a:J)=0 then Z qR else Z I:V uS) λr=>if r then Z ([],[],3)else bd (bd (JI fu b a) λs=>if s<0 then Z qR else Z I:V uS) λu=>if u then bd (Y3 fu b) λt3=>Z ([],t3,0)else if(X a:J)=1 then zI 0 (X a) λv=>nm (a.getD v 0) λw=>bd (KE fu b w) λ(y,A)=>bd (xD fu [A]) λt5=>Z (y,t5,0)else S ((X a:J)-1) λB=>zI B (X a) λC=>nm (a.getD C 0) λE=>bd (xL fu E) λd=>bd (WX fu a d) λ(e,K)=>bd (WX fu b d) λ(f,M)=>S ((X b:J)+1) λG=>S (G-(X f:J)) λt=>jT t λk=>ck ((X f+k)*8<=140737488355328)<|nm (f++So k 0) λl=>S ((X l:J)-(X e:J)) λc=>jT c λm=>ck (8*m<=281474976710656)<|nm (So m 0) λo=>S ((X o:J)-1) λn=>bd (zg (V7 fu d e) fu (e,n,l,o)) λ(g,h)=>bd (xD fu h) λi=>bd (ax fu g d) λj=>Z<|(i,j,0)
def xt(b:uS)(d:N K):V U:=G (Y3 fu d) λa=>if b then if 0<(X a:J)then Z (qR,a)else Z (I,a)else Z (I,a)
def Wv(b d:U):V (U×U×J):=G (az fu b.2 d.2) λ(e,a,f)=>if f=0 then G (if b.1=qR then if 0<(X a:J)then G (ZW fu e [(1:K)]) λt3=>G (JO fu d.2 a) λ(g,l)=>Z (t3,g)else Z (e,a)else Z (e,a):V ((N K)×(N K))) λ(t5,h)=>B (!(b.1==d.1)) λi=>G (xt fu i t5) λj=>G (xt fu I h) λk=>Z (j,k,0)else Z ((I,[]),(I,[]),f)
def qD(a:U):V U:=G (xt fu a.1 a.2) λb=>Z b
def xO(b:U):V J:=G (qD fu b) λa=>if a.1=qR then S (0-2) λd=>S (d+1) λe=>Z e else if 0<(X a.2:J)then S (0+1) λf=>Z f else Z 0
def qq(b d:U):V (U×J):=G (Wv fu b d) λ(e,f,a)=>G (if a=0 then Z I else Z qR:V uS) λg=>if g then Z ((I,[]),a)else G (xO fu f) λh=>if h=0 then Z (e,0)else Z ((I,[]),4)
def oy:oL ((N K)×(N K)) (N K):=λL (t3,a)=>if 0<(X a:J)then G (az fu t3 a) λ(t5,b,d)=>L (a,b)else Z t3
def WM(a b:U):V U:=G (Y3 fu a.2) λd=>G (Y3 fu b.2) λe=>G (zg (oy fu) fu (d,e)) λf=>G (xt fu I f) λg=>Z g
def Zq(a:U):V U:=G (xt fu (!a.1) a.2) λb=>Z b
def W9(d a:U):V (Qr×J):=G (xO fu a) λg=>if g=0 then Z (((I,[]),[]),3)else G (WM fu d a) λe=>G (qq fu d e) λ(f,i)=>G (qq fu a e) λ(b,j)=>if b.1=qR then G (Zq fu f) λh=>Z ((h,b.2),0)else Z ((f,b.2),0)
def J3(fu:K)(d:J)(t3 h:N K)(i:J)(t5:N K):oL (K×J×(N K)×(N K)) (N K):=λL (e,a,b,f)=>G (if a<(X t5:J)then Z (t3,d,h,i,d,(X t5:J),qR)else Z (t3,d,h,i,d,(X t5:J),I):V ((N K)×J×(N K)×J×J×J×uS)) λ(y,j,A,B,C,E,m)=>if m then zI a (X f) λo=>nm (f.getD o 0) λk=>S (j+a) λp=>S (j+a) λq=>zI q (X b) λr=>nm (b.getD r 0) λl=>ck (e<=1)<|nm ((l+k+e)%18446744073709551616) λs=>nm ((l+k+e)/18446744073709551616) λu=>zI p (X b) λv=>nm (b.set v s) λg=>S (a+1) λw=>L (u,w,g,f)else Z b
def eN(f a:N K):oL (J×(N K)) (N K):=λL (b,g)=>G (if b<(X a:J)then Z (f,a,(X a:J),qR)else Z (f,a,(X a:J),I):V ((N K)×(N K)×J×uS)) λ(t3,d,h,i)=>if i then zI b (X d) λj=>B (d.getD j 0) λk=>G (JJ fu t3 k) λt5=>G (zg (J3 fu b t3 d h t5) fu<|((0:K),0,g,t5)) λe=>S (b+1) λl=>L (l,e)else Z g
def Q7(d e:N K):V (N K):=S ((X d:J)+(X e:J)) λg=>S (g+1) λh=>jT h λf=>ck (8*f<=281474976710656)<|B (So f 0) λi=>G (zg (eN fu d e) fu<|(0,i)) λa=>G (xD fu a) λb=>Z b
def Yk:wP->(wF wP)->(wF wP)->V (wF wP)
 |0,_,_=>wW
 |fu+1,A,B=>bd (vd fu A) λa=>bd (vd fu B) λb=>nm (min ((X a:J))<|(X b:J)) λC=>if C<8 then bd (Q7 fu a b) λt3=>Z t3 else nm (max ((X a:J))<|(X b:J)) λE=>ck ((2:J)≠0)<|S (xdC E (2:J)) λd=>nm (min d<|(X a:J)) λG=>jT G λq=>ck (q<=X a)<|nm (a.take q) λn=>bd (vd fu n) λt5=>nm (min d<|(X a:J)) λt=>jT t λr=>ck (r<=X a)<|nm (a.drop r) λs=>nm (min d<|(X b:J)) λc=>jT c λu=>ck (u<=X b)<|nm (b.take u) λK=>bd (vd fu K) λv=>nm (min d<|(X b:J)) λM=>jT M λw=>ck (w<=X b)<|nm (b.drop w) λy=>bd (Yk fu t5 v) λe=>bd (Yk fu s y) λf=>bd (ZW fu t5 s) λg=>bd (ZW fu v y) λh=>bd (Yk fu g h) λi=>bd (Ve fu i e) λj=>bd (Ve fu j f) λk=>bd (Xo fu k d) λl=>bd (ZW fu e l) λm=>S ((2:J)*d) λN=>bd (Xo fu f N) λo=>bd (ZW fu m o) λp=>Z p
def zQ(a b:U):V U:=B (!(a.1==b.1)) λd=>G (Yk fu a.2 b.2) λe=>G (xt fu d e) λf=>Z f
def qh(a b:U):V U:=B (a.1==b.1) λe=>if e then G (ZW fu a.2 b.2) λf=>G (xt fu a.1 f) λg=>Z g else G (G (JI fu a.2 b.2) λh=>if h<0 then Z (b,a)else Z (a,b):V (U×U)) λ(d,t3)=>G (JO fu d.2 t3.2) λ(i,k)=>G (xt fu d.1 i) λj=>Z j
def qP(a b:U):V U:=G (Zq fu b) λd=>G (qh fu a d) λe=>Z e
def JZ(d:J)(a:U):V U:=G (qD fu a) λb=>Z b
def vv(fu:K)(a:N U)(e:J->U->V U):oL (J×(N U)) (N U):=λL (b,d)=>G (if b<(X a:J)then Z (a,(X a:J),qR)else Z (a,(X a:J),I):V ((N U)×J×uS)) λ(t3,m,f)=>if f then zI b (X t3) λg=>B (t3.getD g (I,[])) λh=>G (e b h) λi=>zI b (X d) λj=>B (d.set j i) λk=>S (b+1) λl=>L (l,k)else Z d
def zL(a:N U)(d:J->U->V U):V (N U):=jT (X a:J) λb=>ck (32*b<=281474976710656)<|B (So b (I,[])) λe=>G (zg (vv fu a d) fu<|(0,e)) λt5=>Z t5
def gB:oL (N U) (N U):=λL a=>if 0<(X a:J)then S ((X a:J)-1) λd=>zI d (X a) λe=>B (a.getD e (I,[])) λf=>G (xO fu f) λg=>if g=0 then S ((X a:J)-1) λh=>jT h λb=>ck (b<=X a)<|B (a.take b) λi=>L i else Z a else Z a
def zX(a:N U):V (N U):=G (zg (gB fu) fu a) λt3=>G (zL fu t3<|λc d=>JZ fu c d) λb=>Z b
def UA(k:J)(g:N U):oL (J×(N U)×(N U)×(N U)×U) ((N U)×(N U)×(N U)):=λL (a,f,b,d,e)=>G (if a<(X g:J)then Z (k,(X g:J),qR)else Z (k,(X g:J),I):V (J×J×uS)) λ(l,y,m)=>if m then zI a (X f) λo=>B (f.getD o (I,[])) λp=>S (l+a) λq=>S (l+a) λh=>zI h (X b) λr=>B (b.getD r (I,[])) λs=>G (zQ fu e p) λu=>G (qP fu s u) λv=>zI q (X b) λw=>B (b.set w v) λi=>S (a+1) λj=>L (j,f,i,d,e)else Z (f,b,d)
def UI:oL (J×(N U)×(N U)×(N U)) (((N U)×(N U))⊕J):=λL (b,a,t5,d)=>if 0<=b then S (b+(X a:J)) λk=>S (k-1) λl=>zI l (X t5) λm=>B (t5.getD m (I,[])) λo=>S ((X a:J)-1) λp=>zI p (X a) λq=>B (a.getD q (I,[])) λr=>G (qq fu o r) λ(i,j)=>if j=0 then zI b (X d) λs=>B (d.set s i) λu=>G (zg (UA fu b a) fu<|(0,a,t5,u,i)) λ(e,f,g)=>S (b-1) λh=>L (h,e,f,g)else Z (.inr j)else Z (.inl (t5,d))
def wK(i j:N U):V ((N U)×J):=G (zX fu i) λa=>G (zX fu j) λb=>if(X b:J)=0 then Z ([],3)else G (if 0<(X a:J)then if(X a:J)<(X b:J)then Z (.inr ())else Z (.inl ())else Z (.inl ()):V (Wl⊕Wl)) λk=>match k with
 |.inl _=>(S ((X a:J)-(X b:J)) λl=>S (l+1) λm=>B (max m 0) λo=>jT o λh=>ck (32*h<=281474976710656)<|B (So h (I,[])) λt3=>S ((X t3:J)-1) λp=>G (zg (UI fu) fu (p,b,a,t3)) λq=>match q with
 |.inl (d,e)=>G (zX fu d) λf=>if 0<(X f:J)then Z ([],4)else G (zX fu e) λg=>Z<|(g,0)
 |.inr r=>Z ([],r))
 |.inr _=>Z<|([],4)
def JW(b:N U):oL (J×(N U)×J) J:=λL (a,d,e)=>if e=0 then S (a+1) λf=>G (wK fu d b) λ(t3,g)=>L (f,t3,g)else Z a
def XE(b a:N U):V J:=G (wK fu b a) λ(d,e)=>G (zg (JW fu a) fu<|(0,d,e)) λf=>Z f
def ZY(fu:K)(d:J):oL (uS×J) uS:=λL (b,a)=>if b then S (a*a) λe=>if e<=d then ck (a≠0)<|B (xcG d a) λf=>if f=0 then Z I else S (a+1) λg=>L (b,g)else Z b else Z b
def Zw(a:J):V uS:=G (if 2<=a then if a<=65521 then Z qR else Z I else Z I:V uS) λb=>G (zg (ZY fu a) fu<|(b,2)) λd=>Z d
def yr(a:J):V U:=if a<0 then B (E4 a) λb=>B ((18446744073709551616-b)%18446744073709551616) λd=>G (xt fu qR [d]) λe=>Z e else B (E4 a) λf=>G (xt fu I [f]) λg=>Z g
def ZO(b:N K):V J:=G (vd fu b) λa=>if(X a:J)=0 then Z 0 else S ((X a:J)-1) λd=>S (64*d) λe=>S ((X a:J)-1) λf=>zI f (X a) λg=>B (a.getD g 0) λh=>G (vX fu h) λi=>S (e+i) λj=>Z j
def be:oL (J×U×U) U:=λL (a,b,d)=>if 0<a then B (zaY a 1) λf=>if f=1 then G (zQ fu d b) λe=>if 1<a then G (zQ fu b b) λg=>B (xfX a<|2^(min ((1:K):J).toNat 64)) λh=>L (h,g,e)else B (xfX a<|2^(min ((1:K):J).toNat 64)) λi=>L (i,b,e)else if 1<a then G (zQ fu b b) λj=>B (xfX a<|2^(min ((1:K):J).toNat 64)) λk=>L (k,j,d)else B (xfX a<|2^(min ((1:K):J).toNat 64)) λl=>L (l,b,d)else Z d
def bZ(b:U)(a:J):V (U×J):=G (if a<0 then Z qR else if 65536<a then Z qR else Z I:V uS) λd=>if d then Z ((I,[]),1)else G (ZO fu b.2) λe=>S (e*a) λf=>if 262144<f then Z ((I,[]),6)else G (yr fu 1) λg=>G (qD fu b) λh=>G (zg (be fu) fu (a,h,g)) λt3=>Z<|(t3,0)
def ja(b a:J):V (U×J):=G (Zw fu b) λd=>if !d then Z ((I,[]),1)else if a<1 then Z ((I,[]),1)else if 1000<a then Z ((I,[]),1)else G (yr fu b) λe=>G (bZ fu e a) λ(f,g)=>Z (f,g)
def ah(fu:K)(a:N U)(e:U)(g:U->U->V (U×J)):oL (J×(N U)) (N U):=λL (b,d)=>G (if b<(X a:J)then Z (e,a,(X a:J),qR)else Z (e,a,(X a:J),I):V (U×(N U)×J×uS)) λ(t3,f,o,h)=>if h then zI b (X f) λi=>B (f.getD i (I,[])) λj=>G (g j t3) λ(k,p)=>zI b (X d) λl=>B (d.set l k) λt5=>S (b+1) λm=>L (m,t5)else Z d
def qZ(a:N U)(b:U)(e:U->U->V (U×J)):V ((N U)×J):=G (xO fu b) λf=>if f<=0 then Z ([],1)else jT (X a:J) λd=>ck (32*d<=281474976710656)<|B (So d (I,[])) λg=>G (zg (ah fu a b e) fu<|(0,g)) λh=>G (zX fu h) λi=>Z<|(i,0)
def jD(b a:U):V (U×J):=G (xO fu a) λd=>if d<=0 then Z ((I,[]),1)else G (Wv fu b a) λ(f,e,g)=>Z<|(e,0)
def XQ(a:N U)(b:U):V ((N U)×J):=G (qZ fu a b<|λc f=>jD fu c f) λ(d,e)=>Z (d,e)
def xv(a:N U)(b:U):V (N U):=G (XQ fu a b) λ(d,e)=>Z d
def vy(a:J):V J:=G (Zw fu a) λb=>if !b then Z 1 else Z 0
def ZM(fu:K)(d a:J):V J:=if a<1 then Z 0 else ck (a≠0)<|B (xcG d a) λb=>if b<0 then S (b+a) λe=>Z e else Z b
def nS(fu:K):oL (J×J×J×J) (J⊕Wl):=λL (d,a,f,b)=>if a=0 then Z (.inr ())else if a=1 then Z (.inl b)else ck (a≠0)<|S (xdC d a) λe=>S (e*a) λg=>S (d-g) λh=>S (e*b) λi=>S (f-i) λj=>L (a,h,b,j)
def VF(d a:J):V (J×J):=G (vy fu a) λb=>if b=0 then G (ZM fu d a) λe=>G (zg (nS fu) fu<|(a,e,0,1)) λf=>match f with
 |.inl g=>G (ZM fu g a) λh=>Z<|(h,0)
 |.inr _=>Z (0,3)else Z (0,b)
def cU(b:N J)(e:J):oL (J×(N J)) (N J):=λL (a,d)=>if a<(X b:J)then zI a (X b) λf=>B (b.getD f 0) λg=>G (ZM fu g e) λh=>zI a (X d) λi=>B (d.set i h) λt3=>S (a+1) λj=>L (j,t3)else Z d
def cW(fu:K):oL (N J) (N J):=λL t5=>if 0<(X t5:J)then S ((X t5:J)-1) λb=>zI b (X t5) λd=>B (t5.getD d 0) λe=>if e=0 then S ((X t5:J)-1) λf=>jT f λa=>ck (a<=X t5)<|B (t5.take a) λg=>L g else Z t5 else Z t5
def yp(a:N J)(d:J):V (N J):=jT (X a:J) λb=>ck (8*b<=281474976710656)<|B (So b 0) λe=>G (zg (cU fu a d) fu<|(0,e)) λf=>G (zg (cW fu) fu f) λg=>Z g
def XF(fu:K)(a:N J)(q b:J):oL ((N J)×J×J×J×(N J)×(N J)) ((N J)×J×J×(N J)×(N J)):=λL (r,d,s,e,f,u)=>bd (if e<(X a:J)then Z (q,b,a,(X a:J),qR)else Z (q,b,a,(X a:J),I):V (J×J×(N J)×J×uS)) λ(v,y,w,c,A)=>if A then zI e (X w) λB=>nm (w.getD B 0) λC=>S (v+e) λg=>S (v+e) λh=>zI h (X f) λE=>nm (f.getD E 0) λi=>S (d-y) λj=>S (j*C) λk=>S (i+k) λl=>ck (d≠0)<|nm (xcG l d) λm=>zI g (X f) λG=>nm (f.set G m) λo=>S (e+1) λp=>L (r,d,s,p,o,u)else Z (r,d,s,f,u)
def X6(d:N J)(e j:J):oL (J×(N J)×(N J)) ((N J)×(N J)):=λL (a,t3,f)=>if 0<=a then S (a+(X d:J)) λk=>S (k-1) λl=>zI l (X t3) λm=>B (t3.getD m 0) λo=>S (o*j) λp=>ck (e≠0)<|B (xcG p e) λb=>zI a (X f) λq=>B (f.set q b) λt5=>G (zg (XF fu d a b) fu<|(d,e,j,0,t3,t5)) λ(r,s,u,g,h)=>S (a-1) λi=>L (i,g,h)else Z (t3,f)
def xR(j a:N J)(b:J):V ((N J)×(N J)):=ck ((X ([]:N J)+X j)*8<=140737488355328)<|B (([]:N J)++j) λd=>S ((X d:J)-(X a:J)) λe=>if e<0 then Z ([],d)else S ((X a:J)-1) λl=>zI l (X a) λm=>B (a.getD m 0) λo=>G (VF fu o b) λ(p,s)=>S (e+1) λq=>jT q λk=>ck (8*k<=281474976710656)<|B (So k 0) λr=>G (zg (X6 fu a b p) fu (e,d,r)) λ(f,g)=>G (yp fu g b) λh=>G (yp fu f b) λi=>Z (h,i)
def KD(fu:K)(b:J)(t3:N J)(d:J)(e:N J)(f g:J):oL (J×(N J)) (N J):=λL (a,t5)=>bd (if a<(X t3:J)then Z (t3,d,b,g,e,f,b,t3,(X t3:J),qR)else Z (t3,d,b,g,e,f,b,t3,(X t3:J),I):V ((N J)×J×J×J×(N J)×J×J×(N J)×J×uS)) λ(E,h,i,k,G,n,c,j,l,m)=>if m then zI a (X j) λo=>nm (j.getD o 0) λp=>S (i+a) λq=>S (i+a) λr=>zI r (X t5) λs=>nm (t5.getD s 0) λu=>S (k*p) λv=>S (u+v) λw=>ck (h≠0)<|nm (xcG w h) λy=>zI q (X t5) λA=>nm (t5.set A y) λB=>S (a+1) λC=>L (C,B)else Z t5
def K1(a f:N J)(g:J):oL (J×(N J)) (N J):=λL (b,h)=>G (if b<(X a:J)then Z (f,g,a,(X a:J),qR)else Z (f,g,a,(X a:J),I):V ((N J)×J×(N J)×J×uS)) λ(t3,i,d,j,k)=>if k then zI b (X d) λl=>B (d.getD l 0) λm=>G (zg (KD fu b t3 i d j m) fu<|(0,h)) λe=>S (b+1) λo=>L (o,e)else Z h
def vc(d e:N J)(f:J):V (N J):=S ((X d:J)+(X e:J)) λh=>jT h λg=>ck (8*g<=281474976710656)<|B (So g 0) λi=>G (zg (K1 fu d e f) fu<|(0,i)) λa=>G (yp fu a f) λb=>Z b
def mJ(fu:K)(a:N J)(d e:J):oL (J×(N J)) (N J):=λL (b,t3)=>G (if b<(X a:J)then Z (d,e,a,(X a:J),qR)else Z (d,e,a,(X a:J),I):V (J×J×(N J)×J×uS)) λ(g,r,f,s,h)=>if h then zI b (X f) λi=>B (f.getD i 0) λj=>zI b (X t3) λk=>B (t3.getD k 0) λl=>S (g*j) λm=>S (l+m) λo=>zI b (X t3) λp=>B (t3.set p o) λt5=>S (b+1) λq=>L (q,t5)else Z t3
def Xa(a b:N J)(f d:J):V (N J):=B (max (X a:J)<|(X b:J)) λg=>jT g λe=>ck (8*e<=281474976710656)<|B (So e 0) λh=>B (H3 h a) λi=>G (zg (mJ fu b f d) fu<|(0,i)) λj=>G (yp fu j d) λk=>Z k
def ZH(e:N (N J))(f:J):oL ((N J)×J×(N<|N J)×(N<|N J)) ((N<|N J)×(N<|N J)):=λL (t3,a,b,t5)=>G (if a<3 then Z (f,e,qR)else Z (f,e,I):V (J×(N<|N J)×uS)) λ(d,g,h)=>if h then zI a (3) λi=>zI a (3) λj=>B (g.getD j []) λk=>G (vc fu t3 k d) λl=>S (d-1) λm=>G (Xa fu (b.getD i []) l m d) λo=>zI a (3) λp=>B (b.set p o) λq=>S (a+1) λr=>L (t3,r,q,t5)else Z (b,t5)
def X5(b d:N (N J))(e:J):V (N<|N J):=zI 0 (3) λf=>zI 0 (3) λg=>B (d.getD g []) λh=>G (xR fu (b.getD f []) h e) λ(i,k)=>G (zg (ZH fu d e) fu<|(i,0,b,(So 3 []))) λ(a,j)=>Z a
def qV(b:N J)(d a:J):V (N J):=G (VF fu d a) λ(e,g)=>G (vc fu b [e] a) λf=>Z f
def Yi(b:J):oL ((N<|N J)×(N<|N J)) (N<|N J):=λL (t3,a)=>zI 0 (3) λd=>if 0<((X (a.getD d []):K):J)then G (X5 fu t3 a b) λt5=>L (a,t5)else Z t3
def vt(d e:J):oL (J×(N<|N J)) (N<|N J):=λL (a,b)=>if a<3 then zI a (3) λf=>G (qV fu (b.getD f []) e d) λg=>zI a (3) λh=>B (b.set h g) λi=>S (a+1) λj=>L (j,i)else Z b
def ZN(k l:N J)(d:J):V ((N J)×(N J)×(N J)×J):=G (vy fu d) λh=>if h=0 then G (yp fu k d) λm=>G (yp fu l d) λo=>G (zg (Yi fu d) fu<|([m,[1],[]],[o,[],[1]])) λa=>zI 0 (3) λi=>G (if 0<((X (a.getD i []):K):J)then Z qR else Z I:V uS) λp=>if p then zI 0 (3) λj=>S (((X (a.getD i []):K):J)-1) λq=>zI q (X (a.getD j [])) λr=>B ((a.getD j []).getD r 0) λs=>G (zg (vt fu d s) fu<|(0,a)) λb=>zI 0 (3) λu=>zI 1 (3) λv=>zI 2 (3) λw=>Z ((b.getD u []),(b.getD v []),(b.getD w []),0)else zI 0 (3) λe=>zI 1 (3) λf=>zI 2 (3) λg=>Z ((a.getD e []),(a.getD f []),(a.getD g []),0)else Z ([],[],[],h)
def kP(a b:N J)(d:J):V ((N J)×J):=G (ZN fu a b d) λ(e,g,t3,f)=>Z (e,f)
def kS(d e:N J)(a:J):V ((N J)×J):=G (vy fu a) λb=>if b=0 then G (yp fu d a) λf=>G (yp fu e a) λg=>G (vc fu f g a) λt3=>Z (t3,0)else Z ([],b)
def VM(d e:N J)(a:J):V ((N J)×J):=G (vy fu a) λb=>if b=0 then G (yp fu d a) λf=>G (yp fu e a) λg=>S (a-1) λh=>G (Xa fu f g h a) λt3=>Z (t3,0)else Z ([],b)
def Wi(a b:N J)(d:J):V uS:=G (VM fu a b d) λ(e,f)=>if(X e:J)=0 then Z qR else Z I
def WI(fu:K)(a:N J)(e:J):oL J (Wl⊕Wl):=λL b=>if b<(X a:J)then zI b (X a) λf=>B (a.getD f 0) λd=>if d<0 then Z (.inr ())else if e<=d then Z (.inr ())else S (b+1) λg=>L g else Z (.inl ())
def XK(a:N J)(b:J):V uS:=G (zg (WI fu a b) fu 0) λd=>match d with
 |.inl _=>if 1<(X a:J)then S ((X a:J)-1) λe=>zI e (X a) λf=>B (a.getD f 0) λg=>if g=1 then Z qR else Z I else Z I
 |.inr _=>Z I
def Kg(a:N (N J))(e:J):oL ((N J)×J) (N J):=λL (d,b)=>if b<(X a:J)then zI b (X a) λf=>B (a.getD f []) λg=>G (kS fu d g e) λ(h,j)=>S (b+1) λi=>L (h,i)else Z d
def qL(a:N (N J))(b:J):V (N J):=G (zg (Kg fu a b) fu<|([1],0)) λt3=>Z t3
def Jn(b:U):V (J×uS):=G (qD fu b) λa=>G (if(X a.2:J)=0 then Z qR else Z I:V uS) λd=>if d then Z (0,qR)else G (if 1<(X a.2:J)then Z qR else Z I:V uS) λe=>if e then Z (0,I)else G (if a.1=qR then zI 0 (X a.2) λf=>B (a.2.getD f 0) λg=>if(g:J)<=(((9223372036854775808:K):K):J)then Z qR else Z I else Z I:V uS) λh=>if h then zI 0 (X a.2) λi=>B (a.2.getD i 0) λj=>B ((18446744073709551616-j)%18446744073709551616) λk=>B (sgn k) λl=>Z (l,qR)else if a.1=qR then Z (0,I)else zI 0 (X a.2) λm=>B (a.2.getD m 0) λo=>if(((9223372036854775807:K):K):J)<(o:J)then Z (0,I)else zI 0 (X a.2) λp=>B (a.2.getD p 0) λq=>B (sgn q) λr=>Z (r,qR)
def KF(b:U)(d:J):V (J×J):=G (yr fu d) λe=>G (jD fu b e) λ(f,a)=>if a=0 then G (Jn fu f) λ(g,h)=>Z (g,0)else Z (0,a)
def Vp(e:J)(a:U)(b:J):V J:=G (KF fu a b) λ(d,f)=>Z d
def ZR(fu:K)(a:N U)(e:J->U->V J):oL (J×(N J)) (N J):=λL (b,d)=>G (if b<(X a:J)then Z (a,(X a:J),qR)else Z (a,(X a:J),I):V ((N U)×J×uS)) λ(t3,m,f)=>if f then zI b (X t3) λg=>B (t3.getD g (I,[])) λh=>G (e b h) λi=>zI b (X d) λj=>B (d.set j i) λk=>S (b+1) λl=>L (l,k)else Z d
def jN(a:N U)(d:J->U->V J):V (N J):=jT (X a:J) λb=>ck (8*b<=281474976710656)<|B (So b 0) λe=>G (zg (ZR fu a d) fu<|(0,e)) λt5=>Z t5
def mr(fu:K):oL (N J) (N J):=λL a=>if 0<(X a:J)then S ((X a:J)-1) λd=>zI d (X a) λe=>B (a.getD e 0) λf=>if f=0 then S ((X a:J)-1) λg=>jT g λb=>ck (b<=X a)<|B (a.take b) λt3=>L t3 else Z a else Z a
def Zx(b:N U)(a:J):V ((N J)×J):=if a<1 then Z ([],1)else G (jN fu b<|λc f=>Vp fu c f a) λd=>G (zg (mr fu) fu d) λe=>Z<|(e,0)
def kJ(d:J)(e:N J)(a:N (N J)):oL J (Wl⊕Wl):=λL b=>if b<(X a:J)then zI b (X a) λf=>B (a.getD f []) λg=>G (kP fu e g d) λ(h,j)=>if(X h:J)=1 then S (b+1) λi=>L i else Z (.inr ())else Z (.inl ())
def ku(e:N U)(a:N (N J))(f:J):oL (J×(N J)) ((N J)⊕Wl):=λL (b,g)=>G (if b<(X a:J)then Z (e,a,f,a,(X a:J),qR)else Z (e,a,f,a,(X a:J),I):V ((N U)×(N<|N J)×J×(N<|N J)×J×uS)) λ(t3,h,i,t5,r,k)=>if k then zI b (X t5) λl=>B (t5.getD l []) λd=>if(X t3:J)<(X d:J)then Z (.inr ())else G (XK fu d i) λm=>if !m then Z (.inr ())else jT b λj=>ck (j<=X h)<|B (h.take j) λo=>G (zg (kJ fu i d o) fu 0) λp=>match p with
 |.inl _=>S (b+1) λq=>L (q,g)
 |.inr _=>Z (.inr ())else Z (.inl g)
def vM(a:N U)(e:N (N J))(b:J):V uS:=G (Zx fu a b) λ(h,o)=>if(X a:J)=0 then Z I else if(X h:J)=(X a:J)then if(X a:J)<(X e:J)then Z I else G (zg (ku fu a e b) fu<|(0,h)) λj=>match j with
 |.inl d=>G (qL fu e b) λk=>S ((X d:J)-1) λl=>jT l λi=>ck (i<=X d)<|B (d.drop i) λf=>G (kS fu k f b) λ(g,p)=>G (Wi fu g d b) λm=>Z m
 |.inr _=>Z I else Z I
def Y8(a:N U)(j:J):oL ((N U)×U×J×(N U)×(N U)) ((N U)×U×(N U)×(N U)):=λL (k,l,b,d,f)=>G (if b<(X a:J)then Z (j,a,(X a:J),qR)else Z (j,a,(X a:J),I):V (J×(N U)×J×uS)) λ(g,e,C,m)=>if m then zI b (X e) λo=>nm (e.getD o (I,[])) λp=>S (g+b) λq=>S (g+b) λr=>zI r (X d) λs=>nm (d.getD s (I,[])) λu=>zI g (X f) λv=>nm (f.getD v (I,[])) λw=>G (zQ fu w p) λy=>G (qP fu u y) λA=>zI q (X d) λB=>nm (d.set B A) λh=>S (b+1) λi=>L (k,l,i,h,f)else Z (k,l,d,f)
def Y5(b:N U)(h:U):oL (J×(N U)×(N U)) ((N U)×(N U)):=λL (a,t3,d)=>if 0<=a then S (a+(X b:J)) λi=>S (i-1) λj=>zI j (X t3) λk=>B (t3.getD k (I,[])) λl=>G (jD fu l h) λ(m,r)=>zI a (X d) λo=>B (d.set o m) λt5=>G (zg (Y8 fu b a) fu<|(b,h,0,t3,t5)) λ(p,q,e,f)=>S (a-1) λg=>L (g,e,f)else Z (t3,d)
def ki(k g:N U)(a:U):V ((N U)×(N U)):=G (xv fu k a) λh=>S ((X h:J)-(X g:J)) λl=>S (l+1) λm=>B (max m 0) λo=>jT o λi=>ck (32*i<=281474976710656)<|B (So i (I,[])) λj=>S ((X j:J)-1) λp=>G (zg (Y5 fu g a) fu (p,h,j)) λ(b,d)=>G (xv fu d a) λe=>G (xv fu b a) λf=>Z (e,f)
def uR(b:J)(d:U)(a:N U):V U:=if b<(X a:J)then zI b (X a) λe=>B (a.getD e (I,[])) λf=>G (qh fu d f) λg=>Z g else Z d
def qG(a b:N U):V (N U):=if(X a:J)<(X b:J)then G (zL fu b<|λc g=>uR fu c g a) λd=>G (zX fu d) λe=>Z e else G (zL fu a<|λc g=>uR fu c g b) λt3=>G (zX fu t3) λf=>Z f
def nj(b:J)(t3 e:N U)(f:J):oL (J×(N U)×U) (N U):=λL (a,t5,g)=>G (if a<(X t3:J)then Z (t3,b,e,f,b,t3,(X t3:J),qR)else Z (t3,b,e,f,b,t3,(X t3:J),I):V ((N U)×J×(N U)×J×J×(N U)×J×uS)) λ(w,h,y,A,B,i,C,j)=>if j then zI a (X i) λk=>nm (i.getD k (I,[])) λl=>S (h+a) λm=>S (h+a) λo=>zI o (X t5) λp=>nm (t5.getD p (I,[])) λq=>G (zQ fu g l) λr=>G (qh fu q r) λs=>zI m (X t5) λu=>nm (t5.set u s) λd=>S (a+1) λv=>L (v,d,g)else Z t5
def my(a f:N U):oL (J×(N U)) (N U):=λL (b,g)=>G (if b<(X a:J)then Z (f,a,(X a:J),qR)else Z (f,a,(X a:J),I):V ((N U)×(N U)×J×uS)) λ(t3,d,h,i)=>if i then zI b (X d) λj=>B (d.getD j (I,[])) λk=>G (zg (nj fu b t3 d h) fu<|(0,g,k)) λe=>S (b+1) λl=>L (l,e)else Z g
def wQ(d e:N U):V (N U):=S ((X d:J)+(X e:J)) λg=>jT g λf=>ck (32*f<=281474976710656)<|B (So f (I,[])) λh=>G (zg (my fu d e) fu<|(0,h)) λa=>G (zX fu a) λb=>Z b
def XO(d a:J):V U:=G (yr fu a) λb=>Z b
def Zp(fu:K)(b:N J)(e:J->J->V U):oL (J×(N U)) (N U):=λL (a,d)=>if a<(X b:J)then zI a (X b) λf=>B (b.getD f 0) λg=>G (e a g) λh=>zI a (X d) λi=>B (d.set i h) λt3=>S (a+1) λj=>L (j,t3)else Z d
def jJ(a:N J)(d:J->J->V U):V (N U):=jT (X a:J) λb=>ck (32*b<=281474976710656)<|B (So b (I,[])) λe=>G (zg (Zp fu a d) fu<|(0,e)) λf=>Z f
def jo(a:N J):V (N U):=G (jJ fu a<|λc e=>XO fu c e) λb=>G (zX fu b) λd=>Z d
def Kx(a:N J):V (N U):=G (jo fu a) λb=>Z b
def Qt(e:J)(a b:U):V U:=G (zQ fu a b) λd=>Z d
def qA(a:N U)(b:U):V (N U):=G (zL fu a<|λc f=>Qt fu c f b) λd=>G (zX fu d) λe=>Z e
def kT(a b:N U):V (N U):=G (yr fu (-1:J)) λd=>G (qA fu b d) λe=>G (qG fu a e) λf=>Z f
def kI(f:wF (wF Zr))(c:wF Zr)(a:Zr):V (wF<|wF Zr):=zI 0 (4) λn=>nm (f.getD n []) λi=>zI 1 (4) λJ=>nm (f.getD J []) λj=>zI 2 (4) λK=>nm (f.getD K []) λg=>zI 3 (4) λM=>nm (f.getD M []) λh=>bd (wQ fu i j) λN=>bd (kT fu c N) λt=>bd (xv fu t a) λt3=>bd (wQ fu g t3) λP=>bd (ki fu P j a) λ(t5,Q)=>bd (wQ fu h t3) λR=>bd (wQ fu t5 i) λS=>bd (qG fu R S) λU=>bd (qG fu i U) λk=>bd (xv fu k a) λb=>bd (qG fu j Q) λl=>bd (xv fu l a) λd=>bd (wQ fu g b) λm=>bd (wQ fu h d) λo=>bd (qG fu m o) λp=>bd (Kx fu [1]) λq=>bd (kT fu p q) λr=>bd (xv fu r a) λe=>bd (wQ fu g e) λs=>bd (ki fu s d a) λ(u,v)=>bd (kT fu g v) λw=>bd (xv fu w a) λy=>bd (wQ fu h e) λA=>bd (wQ fu u b) λB=>bd (qG fu A B) λC=>bd (kT fu h C) λE=>bd (xv fu E a) λG=>Z [b,d,y,G]
def Z8(a:U×(U×U))(b:U)(d:U×(U×U)):V (U×(U×U)):=G (zQ fu b d.1) λe=>G (qP fu a.1 e) λf=>G (zQ fu b d.2.1) λg=>G (qP fu a.2.1 g) λh=>G (zQ fu b d.2.2) λi=>G (qP fu a.2.2 i) λj=>Z (f,h,j)
def QG:oL ((U×(U×U))×(U×(U×U))) (U×(U×U)):=λL (b,a)=>G (xO fu a.1) λd=>if d=0 then Z b else G (Wv fu b.1 a.1) λ(e,g,h)=>G (Z8 fu b e a) λf=>L (a,f)
def Vg(e f:U):V (U×U×U):=G (xt fu I e.2) λg=>G (yr fu 1) λh=>G (yr fu 0) λi=>G (xt fu I f.2) λj=>G (yr fu 0) λk=>G (yr fu 1) λl=>G (zg (QG fu) fu<|((g,h,i),(j,k,l))) λt3=>G (G (xO fu e) λm=>if m<0 then G (Zq fu t3.2.1) λa=>B (t3.1,(a,t3.2.2)) λo=>Z o else Z t3:V (U×(U×U))) λt5=>G (G (xO fu f) λp=>if p<0 then G (Zq fu t5.2.2) λb=>B (t5.1,(t5.2.1,b)) λq=>Z q else Z t5:V (U×(U×U))) λd=>Z (d.1,d.2.1,d.2.2)
def JD(a:N U)(b:U):V (N U):=S ((X a:J)-1) λd=>zI d (X a) λe=>B (a.getD e (I,[])) λf=>G (Vg fu f b) λ(j,g,k)=>G (qA fu a g) λh=>G (xv fu h b) λi=>Z i
def YT(g:N U)(h d:J):oL (J×(N<|N U)) (N<|N U):=λL (e,a)=>if e<d then S (2*e) λi=>B (min i d) λf=>G (ja fu h f) λ(j,k)=>G (kI fu a g j) λb=>L (f,b)else Z a
def qE:wP->(wF U)->(wF<|wF J)->J->J->U->V (wF<|wF U)
 |0,_,_,_,_,_=>wW
 |fu+1,d,a,b,i,j=>if(X a:J)=1 then bd (JD fu d j) λG=>Z [G]else ck ((2:J)≠0)<|S (xdC ((X a:J)) (2:J)) λh=>S (((X d:J))-1) λn=>jT n λv=>ck (v<=X d)<|nm (d.drop v) λt=>bd (Zx fu t b) λ(t3,x)=>jT h λw=>ck (w<=X a)<|nm (a.take w) λc=>bd (qL fu c b) λt5=>bd (kS fu t5 t3 b) λ(y,P)=>jT h λA=>ck (A<=X a)<|nm (a.drop A) λK=>bd (qL fu K b) λB=>bd (ZN fu y B b) λ(Q,k,l,R)=>bd (jo fu y) λm=>bd (jo fu B) λo=>bd (jo fu k) λp=>bd (jo fu l) λq=>bd (zg (YT fu d b i) fu<|((1:J),[m,o,p,q])) λe=>zI 0 (4) λM=>jT h λC=>ck (C<=X a)<|nm (a.take C) λr=>bd (qE fu (e.getD M []) r b i j) λf=>zI 1 (4) λN=>jT h λE=>ck (E<=X a)<|nm (a.drop E) λs=>bd (qE fu (e.getD N []) s b i j) λg=>ck ((X f+X g)*24<=140737488355328)<|nm (f++g) λu=>Z u
def jG(h:N U)(a:N (N J))(b e:J):V ((N<|N U)×J):=G (ja fu b e) λ(f,g)=>G (zX fu h) λd=>if g=0 then if 65<(X d:J)then Z ([],6)else G (vM fu d a b) λi=>if !i then Z ([],1)else if(X a:J)=0 then Z ([],0)else G (xv fu d f) λj=>G (qE fu j a b e f) λt3=>Z (t3,0)else Z ([],g)
def JG(a b:N U)(d:U):V ((N U)×J):=G (wQ fu a b) λe=>G (XQ fu e d) λ(f,g)=>Z (f,g)
def kX(a b:U):V J:=G (qP fu a b) λd=>G (xO fu d) λe=>Z e
def XD(e d:U):V (U×J):=G (jD fu e d) λ(a,b)=>if b=0 then G (qh fu a a) λf=>G (kX fu f d) λg=>if 0<g then G (qP fu a d) λh=>Z (h,b)else Z (a,b)else Z (a,b)
def VB(a:N U)(b:U):V ((N U)×J):=G (qZ fu a b<|λc f=>XD fu c f) λ(d,e)=>Z (d,e)
def Uk(b:N U):oL (J×(N U)×U×U) ((N U)×U×U):=λL (d,a,t3,e)=>G (if d<(X b:J)then Z ((X b:J),qR)else Z ((X b:J),I):V (J×uS)) λ(k,f)=>if f then zI d (X a) λg=>B (a.getD g (I,[])) λh=>G (WM fu e h) λi=>S (d+1) λj=>L (j,a,t3,i)else Z (a,t3,e)
def qe(d:N U):V U:=G (zX fu d) λb=>G (yr fu 0) λe=>G (zg (Uk fu b) fu<|(0,b,(I,[]),e)) λ(t5,j,a)=>if 0<(X t5:J)then S ((X t5:J)-1) λf=>zI f (X t5) λg=>B ((t5.getD g (I,[])).1) λh=>if h then G (Zq fu a) λi=>Z i else Z a else Z a
def JY(e:J)(a b:U):V U:=G (qq fu a b) λ(d,f)=>Z d
def wq(a:N U):V (N U):=G (qe fu a) λb=>G (zX fu a) λd=>G (zL fu d<|λc f=>JY fu c f b) λe=>Z e
def uZ(d:N (N U))(a:N J)(e:U):oL ((N U)×J×(N J)) ((N U)×(N J)):=λL (f,b,t3)=>G (if b<(X a:J)then Z (d,e,(X a:J),qR)else Z (d,e,(X a:J),I):V ((N<|N U)×U×J×uS)) λ(g,t5,p,h)=>if h then zI b (X t3) λi=>B (t3.getD i 0) λj=>zI j (X g) λk=>B (g.getD k []) λl=>G (JG fu f l t5) λ(m,q)=>S (b+1) λo=>L (m,o,t3)else Z (f,t3)
def jX(a:N U)(g:N (N U))(d:N J)(e:U):V ((N U)×(N J)):=S ((X a:J)-1) λh=>jT h λf=>ck (f<=X a)<|B (a.drop f) λi=>G (zg (uZ fu g d e) fu<|(i,0,d)) λ(j,k)=>G (VB fu j e) λ(l,m)=>G (wq fu l) λb=>Z (b,k)
def qK{X Y R:Type}(fu:K)(n c:J)(g:N J->X->V (N J×(X⊕Y)))(x:X)(xs:N J)(L:X->N J->J->J->J->J->J->V R)(E:X->J->J->N J->V R)(f:Y->N J->V R):V R:=G (g xs x) λr=>xfj (λd=>S (n-1) λa=>G (zg (λL i=>if 0<=i then zI i (A2 r.1) λj=>B (r.1.getD j 0) λy=>S (c-n) λe=>S (e+i) λe=>if y=e then S (i-1) λi=>L i else Z i else Z i) fu a) λi=>if i<0 then E d a i r.1 else zI i (A2 r.1) λj=>B (r.1.getD j 0) λy=>S (y+1) λe=>zI i (A2 r.1) λj=>B (r.1.set j e) λxs=>S (i+1) λb=>G (zg (λL (z:J×N J)=>if z.1<n then S (z.1-1) λe=>zI e (A2 z.2) λj=>B (z.2.getD j 0) λy=>S (y+1) λe=>zI z.1 (A2 z.2) λj=>B (z.2.set j e) λxs=>S (z.1+1) λi=>L (i,xs)else Z z.2) fu (b,xs)) λxs=>L d xs b i e y a) (λy=>f y r.1) r.2
def vu{X Y:Type}(fu:K)(n b:J)(g:N J->X->V (N J×(X⊕Y)))(a:X):V (X⊕Y):=jT n λm=>ck (8*m<=281474976710656)<|B (So m 0) λxs=>G (zg (λL (z:N J×J)=>if z.2<(A2 xs:J)then zI z.2 (A2 z.1) λj=>B (z.1.set j z.2) λxs=>S (z.2+1) λi=>L (xs,i)else Z z.1) fu (xs,0)) λxs=>zg (λL (q:X×N J)=>qK fu n b g q.1 q.2 (λx xs _ _ _ _ _=>L (x,xs)) (λx _ _ _=>Z (.inl x)) λy _=>Z (.inr y)) fu (a,xs)
def UH(fu:K)(b:N J)(d:J):oL J (Wl⊕J):=λL a=>if a<(X b:J)then zI a (X b) λe=>B (b.getD e 0) λf=>if d=f then Z (.inr a)else S (a+1) λg=>L g else Z (.inl ())
def XP(a:N J)(b:J):V J:=G (zg (UH fu a b) fu 0) λd=>match d with
 |.inl _=>Z (-1:J)
 |.inr e=>Z e
def qu(fu:K)(b:N J)(d:J):oL J (Wl⊕J):=λL a=>if a<(X b:J)then zI a (X b) λe=>B (b.getD e 0) λf=>if d=f then Z (.inr a)else S (a+1) λg=>L g else Z (.inl ())
def jd(a:N J)(b:J):V (J×(N J)):=G (zg (qu fu a b) fu 0) λd=>match d with
 |.inl _=>Z<|((-1:J),a)
 |.inr e=>Z (e,a)
def Yl(a:N J)(b:J):V uS:=G (XP fu a b) λd=>if 0<=d then Z qR else Z I
def wx(b:N J)(d:J):V (uS×(N J)):=G (jd fu b d) λ(e,a)=>if 0<=e then Z (qR,a)else Z (I,a)
def Hb(a:N (N U))(e:N J):oL ((N<|N U)×J) (N<|N U):=λL (d,b)=>G (if b<(X a:J)then Z (e,a,(X a:J),qR)else Z (e,a,(X a:J),I):V ((N J)×(N<|N U)×J×uS)) λ(g,t3,o,h)=>if h then zI b (X t3) λi=>B (t3.getD i []) λf=>G (Yl fu g b) λj=>if !j then ck ((X d+X ([f]))*24<=140737488355328)<|B (d++([f])) λk=>S (b+1) λl=>L (k,l)else S (b+1) λm=>L (d,m)else Z d
def Zk(a:N (N U)):oL ((N<|N U)×J×(N J)) ((N<|N U)×(N J)):=λL (d,b,e)=>G (if b<(X a:J)then Z (a,(X a:J),qR)else Z (a,(X a:J),I):V ((N<|N U)×J×uS)) λ(t3,m,h)=>if h then zI b (X t3) λi=>B (t3.getD i []) λf=>G (wx fu e b) λ(j,g)=>if !j then ck ((X d+X ([f]))*24<=140737488355328)<|B (d++([f])) λt5=>S (b+1) λk=>L (t5,k,g)else S (b+1) λl=>L (d,l,g)else Z (d,e)
def xV(a:N (N U))(b:N J):V ((N<|N U)×(N J)):=G (zg (Zk fu a) fu<|([],0,b)) λ(d,e)=>Z (d,e)
def jl(b:(uS×N K))(ys:N J)(y:N (uS×N K)×N (N<|uS×N K)×N (N<|uS×N K)):V (N J×((N (uS×N K)×N (N<|uS×N K)×N (N<|uS×N K))⊕(N (uS×N K)×N (N<|uS×N K)×N (N<|uS×N K)))):=G (jX fu y.1 y.2.1 ys b) λc=>G (wK fu y.1 c.1) λq=>if q.2=0 then if 1<(X c.1:J)then ck ((X y.2.2+1)*24<=140737488355328)<|B (y.2.2++[c.1]) λpr=>G (xV fu y.2.1 c.2) λw=>Z (w.2,.inr (q.1,w.1,pr))else Z (c.2,.inl y)else Z (c.2,.inl y)
def YK(b:(uS×N K))(x:N (uS×N K)×N (N<|uS×N K)×N (N<|uS×N K)×J)(L:N (uS×N K)×N (N<|uS×N K)×N (N<|uS×N K)×J->V (N (uS×N K)×N (N<|uS×N K)×N (N<|uS×N K))):V (N (uS×N K)×N (N<|uS×N K)×N (N<|uS×N K)):=S (2*x.2.2.2) λd=>if d<=(X x.2.1:J)then G (vu fu x.2.2.2 (X x.2.1:J) (jl fu b) (x.1,x.2.1,x.2.2.1)) λr=>xfj (λy=>S (x.2.2.2+1) λi=>L (y.1,y.2.1,y.2.2,i)) (λy=>L (y.1,y.2.1,y.2.2,x.2.2.2)) r else Z (x.1,x.2.1,x.2.2.1)
def YD(f:N (uS×N K))(a:N (N<|uS×N K))(b:(uS×N K)):V (N<|N<|uS×N K):=G (zg (λL x=>YK fu b x L) fu (f,a,[],1)) λx=>if 1<(X x.1:J)then G (wq fu x.1) λq=>ck ((X x.2.2+1)*24<=140737488355328)<|B (x.2.2++[q]) λpr=>Z pr else Z x.2.2
def fT(b d:N U):oL J (Wl⊕uS):=λL a=>if 0<=a then zI a (X b) λf=>B (b.getD f (I,[])) λg=>zI a (X d) λh=>B (d.getD h (I,[])) λi=>G (kX fu g i) λe=>if e=0 then S (a-1) λj=>L j else if e<0 then Z (.inr qR)else Z (.inr I)else Z (.inl ())
def XT(d e:N U):V uS:=G (zX fu d) λa=>G (zX fu e) λb=>if(X a:J)=(X b:J)then S ((X a:J)-1) λf=>G (zg (fT fu a b) fu f) λg=>match g with
 |.inl _=>Z I
 |.inr h=>Z h else if(X a:J)<(X b:J)then Z qR else Z I
def j8(a b:N U):V J:=G (XT fu a b) λd=>if d then Z (-1:J)else G (XT fu b a) λe=>if e then Z 1 else Z 0
def Vn(f:J)(g:U):oL (J×U×J×U) (J×U×U):=λL (a,b,d,e)=>if d<f then G (zQ fu e g) λh=>S (d+1) λi=>L (a,b,i,h)else Z (a,b,e)
def UR(f:U)(b:J):oL (U×U×U) U:=λL (d,t3,e)=>G (qh fu t3 e) λg=>G (ax fu g.2 1) λt5=>G (xt fu I t5) λa=>G (kX fu a t3) λh=>if h=0 then Z t3 else G (yr fu 1) λi=>G (zg (Vn fu b a) fu<|(b,f,0,i)) λ(m,j,k)=>G (kX fu k j) λl=>if l<=0 then L (d,a,e)else L (d,t3,a)
def KO(b:U)(a:J):V (U×J):=if a<1 then Z ((I,[]),1)else if 64<a then Z ((I,[]),1)else G (xO fu b) λe=>if e<0 then Z ((I,[]),1)else G (yr fu 0) λf=>G (ZO fu b.2) λg=>ck (a≠0)<|S (xdC g a) λh=>S (h+1) λi=>B (min i 262144) λj=>G (WX fu [(1:K)] j) λ(k,m)=>G (xt fu I k) λl=>G (zg (UR fu b a) fu<|((I,[]),f,l)) λd=>Z<|(d,0)
def XC(b:N U):V J:=G (zX fu b) λa=>if(X a:J)=0 then Z 8 else if 65<(X a:J)then Z 6 else Z 0
def fY(b:N U):oL (J×(N U)×U×U) ((N U)×U×U):=λL (d,a,t3,e)=>G (if d<(X b:J)then Z ((X b:J),qR)else Z ((X b:J),I):V (J×uS)) λ(l,g)=>if g then zI d (X a) λh=>B (a.getD h (I,[])) λf=>G (zQ fu f f) λi=>G (qh fu e i) λj=>S (d+1) λk=>L (k,a,t3,j)else Z (a,t3,e)
def vE(a:N U):V (U×J):=G (XC fu a) λb=>if b=0 then G (zX fu a) λd=>G (yr fu (-1:J)) λe=>G (zg (fY fu d) fu<|(0,d,(I,[]),e)) λ(t5,m,f)=>G (KO fu f 2) λ(g,o)=>G (yr fu 1) λh=>G (qh fu g h) λi=>S ((X t5:J)-1) λj=>G (WX fu i.2 j) λ(k,p)=>G (qD fu (I,k)) λl=>Z (l,0)else Z ((I,[]),b)
def QJ(d:J)(e:U):oL (J×U) J:=λL (a,b)=>G (kX fu b e) λf=>if f<=0 then G (yr fu d) λg=>G (zQ fu b g) λh=>S (a+1) λi=>L (i,h)else Z a
def Vf(a:N U)(b:J):V J:=G (vE fu a) λ(d,m)=>G (yr fu 2) λe=>S ((X a:J)-1) λf=>zI f (X a) λg=>B (a.getD g (I,[])) λh=>G (zQ fu d h) λi=>G (zQ fu e i) λj=>G (yr fu b) λk=>G (zg (QJ fu b j) fu<|(1,k)) λl=>Z l
def Jx(a:N U):V uS:=G (vE fu a) λ(b,k)=>G (yr fu 2) λd=>S ((X a:J)-1) λe=>zI e (X a) λf=>B (a.getD f (I,[])) λg=>G (zQ fu b g) λh=>G (zQ fu d h) λi=>G (ZO fu i.2) λj=>if 1000<j then Z qR else Z I
def WV(fu:K)(b d:N J):oL J (Wl⊕J):=λL a=>if 0<=a then zI a (X b) λe=>B (b.getD e 0) λf=>zI a (X d) λg=>B (d.getD g 0) λh=>if f<h then Z (.inr (-1:J))else zI a (X b) λi=>B (b.getD i 0) λj=>zI a (X d) λk=>B (d.getD k 0) λl=>if l<j then Z (.inr 1)else S (a-1) λm=>L m else Z (.inl ())
def vL(a b:N J):V J:=if(X a:J)=(X b:J)then S ((X a:J)-1) λd=>G (zg (WV fu a b) fu d) λe=>match e with
 |.inl _=>Z 0
 |.inr f=>Z f else S ((X a:J)-(X b:J)) λg=>Z g
def kH(fu:K)(a:N J)(b:J):V uS:=zI b (X a) λd=>B (a.getD d 0) λe=>if e=0 then Z I else Z qR
def fi(b:N J)(e:J):oL (J×(N J)) (N J):=λL (a,d)=>if a<(X b:J)then zI a (X b) λf=>B (b.getD f 0) λg=>G (ZM fu g e) λh=>zI a (X d) λi=>B (d.set i h) λt3=>S (a+1) λj=>L (j,t3)else Z d
def XZ(a:N J)(d:J):V (N J):=jT (X a:J) λb=>ck (8*b<=281474976710656)<|B (So b 0) λe=>G (zg (fi fu a d) fu<|(0,e)) λf=>Z f
def dD(fu:K)(a:N (N J)):oL J (Wl⊕Wl):=λL b=>G (if b<(X a:J)then Z (a,a,(X a:J),qR)else Z (a,a,(X a:J),I):V ((N<|N J)×(N<|N J)×J×uS)) λ(d,e,l,g)=>if g then zI b (X e) λh=>B (e.getD h []) λf=>if 64<(X f:J)then Z (.inr ())else zI 0 (X d) λi=>B (d.getD i []) λj=>if(X f:J)=(X j:J)then S (b+1) λk=>L k else Z (.inr ())else Z (.inl ())
def Wc(a:N (N J))(b:J):V J:=G (vy fu b) λd=>if d=0 then if 64<(X a:J)then Z 1 else G (zg (dD fu a) fu 0) λe=>match e with
 |.inl _=>Z 0
 |.inr _=>Z 1 else Z 1
def qy(c:N (N J))(ix:N K)(r:K)(a p:J)(lo n:K):V (N<|N J):=G (zg (λL (x:((N (N J)×N K)×K×K)×(K×K)×K×J)=>if x.2.2.2<(n:J)then zI x.2.2.2 x.2.1.2 λj=>B (x.1.1.2.getD (x.2.1.1+j) 0) λq=>zI a (X (x.1.1.1.getD q [])) λj=>B ((x.1.1.1.getD q []).getD j 0) λy=>G (zg (λL (z:((N (N J)×N K)×K×K)×(K×K)×K×K×K×J)=>if z.2.2.2.2.2<(X (x.1.1.1.getD x.2.2.1 []):J)then zI z.2.2.2.2.2 (X (z.1.1.1.getD z.2.2.2.1 [])) λj=>B ((z.1.1.1.getD z.2.2.2.1 []).getD j 0) λv=>zI z.2.2.2.2.2 (X (z.1.1.1.getD z.2.2.2.2.1 [])) λj=>B ((z.1.1.1.getD z.2.2.2.2.1 []).getD j 0) λu=>S (p-y) λe=>S (e*v) λe=>S (u+e) λe=>ck (p≠0)<|B (xcG e p) λe=>zI z.2.2.2.2.2 (X (z.1.1.1.getD z.2.2.2.2.1 [])) λj=>B (z.1.1.1.set z.2.2.2.2.1<|(z.1.1.1.getD z.2.2.2.2.1 []).set j e) λb=>S (z.2.2.2.2.2+1) λi=>L (((b,z.1.1.2),z.1.2),z.2.1,z.2.2.1,z.2.2.2.1,z.2.2.2.2.1,i)else Z (z.1,z.2.1,z.2.2.1)) fu (x.1,x.2.1,x.2.2.1,x.2.2.1,q,0)) λz=>S (x.2.2.2+1) λi=>L (z.1,z.2.1,z.2.2,i)else Z x.1) fu (((c,ix),lo,n),(lo,n),r,0)) λx=>ck (x.2.1=lo/\x.2.2=n/\x.1.2=ix)<|some x.1.1
def qc(fu:K)(b:N (N J))(d:(N J)->V uS):oL J (Wl⊕J):=λL a=>if a<(X b:J)then zI a (X b) λe=>B (b.getD e []) λf=>G (d f) λg=>if g then Z (.inr a)else S (a+1) λh=>L h else Z (.inl ())
def yX(a:N (N J))(b:(N J)->V uS):V J:=G (zg (qc fu a b) fu 0) λd=>match d with
 |.inl _=>Z (-1:J)
 |.inr e=>Z e
def Zo(g:N (N J))(p:J):V (N (N J)×J):=G (Wc fu g p) λe=>if e=0 then G (zg (λL (x:(N (N J)×N K)×J)=>if x.2<(X g:J)then zI x.2 (X g) λj=>B (g.getD j []) λy=>G (XZ fu y p) λr=>ck ((X x.1.2+1)*24<=140737488355328)<|B (x.1.1++[r]) λl=>B (x.1.2++[X x.1.1]) λn=>S (x.2+1) λi=>L ((l,n),i)else Z x.1) fu (([],[]),0)) λx=>G (zg (λL (x:(N (N J)×N K)×J×J)=>if x.2.1<(X x.1.2:J)then zI 0 (X x.1.2) λj=>B (x.1.2.getD j 0) λr=>if x.2.2<(X (x.1.1.getD r []):J)then jT x.2.1 λj=>ck (j<=X x.1.2)<|G (yX fu (xdH (X x.1.2-j)<|xdT j<|x.1.2.map λr=>x.1.1.getD r []) λz=>kH fu z x.2.2) λi=>if i<0 then S (x.2.2+1) λc=>L (x.1,x.2.1,c)else S (x.2.1+i) λa=>S (x.2.1+i) λb=>zI b (X x.1.2) λj=>B (x.1.2.getD j 0) λd=>zI x.2.1 (X x.1.2) λj=>B (x.1.2.getD j 0) λf=>zI x.2.1 (X x.1.2) λj=>B (x.1.2.set j d) λix=>zI a (X ix) λj=>B (ix.set j f) λix=>zI x.2.1 (X ix) λj=>B (ix.getD j 0) λr=>zI x.2.2 (X (x.1.1.getD r [])) λj=>B ((x.1.1.getD r []).getD j 0) λy=>G (VF fu y p) λq=>zI x.2.1 (X ix) λj=>B (ix.getD j 0) λr=>G (zg (λL (z:(N (N J)×N K)×K×J)=>if z.2.2<(X (x.1.1.getD r []):J)then zI z.2.2 (X (z.1.1.getD z.2.1 [])) λj=>B ((z.1.1.getD z.2.1 []).getD j 0) λy=>zI x.2.1 (X z.1.2) λj=>B (z.1.2.getD j 0) λr=>S (y*q.1) λe=>ck (p≠0)<|B (xcG e p) λe=>zI z.2.2 (X (z.1.1.getD r [])) λj=>B (z.1.1.set r<|(z.1.1.getD r []).set j e) λh=>S (z.2.2+1) λi=>L ((h,z.1.2),z.2.1,i)else Z z.1) fu ((x.1.1,ix),r,0)) λm=>zI x.2.1 (X m.2) λj=>B (m.2.getD j 0) λr=>jT x.2.1 λj=>ck (j<=X m.2)<|G (qy fu m.1 m.2 r x.2.2 p 0 j) λh=>zI x.2.1 (X m.2) λj=>B (m.2.getD j 0) λr=>S (x.2.1+1) λe=>jT e λj=>ck (j<=X m.2)<|G (qy fu h m.2 r x.2.2 p j<|X m.2-j) λh=>S (x.2.1+1) λk=>S (x.2.2+1) λc=>L ((h,m.2),k,c)else Z (x.1,x.2.1)else Z (x.1,x.2.1)) fu (x,0,0)) λx=>jT x.2 λj=>ck (j<=X (x.1.2.map λr=>x.1.1.getD r []))<|B (xdH j<|x.1.2.map λr=>x.1.1.getD r []) λys=>Z (ys,0)else Z ([],e)
def YA(fu:K)(a:J):V uS:=if a=0 then Z I else Z qR
def vq(fu:K)(b:N J)(d:J->V uS):oL J (Wl⊕J):=λL a=>if a<(X b:J)then zI a (X b) λe=>B (b.getD e 0) λf=>G (d f) λg=>if g then Z (.inr a)else S (a+1) λh=>L h else Z (.inl ())
def xC(a:N J)(b:J->V uS):V J:=G (zg (vq fu a b) fu 0) λd=>match d with
 |.inl _=>Z (-1:J)
 |.inr e=>Z e
def Qm(a:N J):V J:=G (xC fu a<|λc=>YA fu c) λb=>Z b
def jL(a:N J)(b:J):V uS:=G (Qm fu a) λd=>if d=b then Z qR else Z I
def wa(a:N (N J))(b:(N J)->V uS):V uS:=G (yX fu a b) λd=>if 0<=d then Z qR else Z I
def UW(b h i:J)(t3:N (N J))(j:J):oL (J×(N<|N J)×(N J)) ((N<|N J)×(N J)):=λL (d,k,e)=>bd (if d<(X t3:J)then Z (h,i,t3,b,j,b,t3,(X t3:J),qR)else Z (h,i,t3,b,j,b,t3,(X t3:J),I):V (J×J×(N<|N J)×J×J×J×(N<|N J)×J×uS)) λ(B,l,C,m,E,G,a,o,p)=>if p then zI d (X a) λq=>nm (a.getD q []) λf=>bd (Qm fu f) λr=>zI m (X f) λs=>nm (f.getD s 0) λu=>S (0-u) λv=>bd (ZM fu v l) λw=>zI r (X e) λy=>nm (e.set y w) λg=>S (d+1) λA=>L (A,k,g)else Z (k,e)
def lO(b h:J)(i:N (N J)):oL ((N<|N J)×J) (N<|N J):=λL (f,a)=>G (if a<b then Z (b,h,i,b,qR)else Z (b,h,i,b,I):V (J×J×(N<|N J)×J×uS)) λ(j,m,t3,o,p)=>if p then G (wa fu t3<|λc=>jL fu c a) λq=>if q then S (a+1) λr=>L (f,r)else jT j λk=>ck (8*k<=281474976710656)<|B (So k 0) λl=>zI a (X l) λs=>B (l.set s 1) λt5=>G (zg (UW fu a j m t3 o) fu<|(0,f,t5)) λ(d,e)=>ck ((X d+X ([e]))*24<=140737488355328)<|B (d++([e])) λg=>S (a+1) λu=>L (g,u)else Z f
def VU(a:N (N J))(b d:J):V ((N<|N J)×J):=G (G (Wc fu a d) λf=>if f=0 then if b<0 then Z (.inr ())else if 64<b then Z (.inr ())else if 0<(X a:J)then zI 0 (X a) λg=>B (a.getD g []) λh=>if(X h:J)=b then Z (.inl ())else Z (.inr ())else Z (.inl ())else Z (.inr ()):V (Wl⊕Wl)) λi=>match i with
 |.inl _=>G (Zo fu a d) λ(j,k)=>G (zg (lO fu b d j) fu<|([],0)) λe=>Z<|(e,0)
 |.inr _=>Z<|([],1)
def kO(e f:N J)(a:J):V ((N J)×(N J)×J):=G (vy fu a) λb=>if b=0 then G (yp fu f a) λd=>if(X d:J)=0 then Z ([],[],3)else G (yp fu e a) λg=>G (xR fu g d a) λ(t3,h)=>Z (t3,h,0)else Z ([],[],b)
def Va(i:U)(d:J)(j:N J):oL ((N J)×(N J)×J) (N J):=λL (e,f,a)=>if 0<=a then G (vc fu e e d) λl=>G (xR fu l j d) λ(m,b)=>ck (64≠0)<|S (xdC a 64) λo=>zI o (X i.2) λp=>B (i.2.getD p 0) λq=>ck (64≠0)<|B (xcG a 64) λk=>ck (0<=k)<|B (q/2^(min (k:J).toNat 64)) λr=>B (r &&& (1:K)) λs=>if(s:J)=(((1:K):K):J)then G (vc fu b f d) λg=>G (xR fu g j d) λ(u,h)=>S (a-1) λv=>L (h,f,v)else S (a-1) λw=>L (b,f,w)else Z e
def ZE(f:N J)(d:U)(g:N J)(a:J):V ((N J)×J):=G (vy fu a) λh=>if h=0 then G (xO fu d) λi=>if i<0 then Z ([],1)else G (yp fu g a) λb=>if(X b:J)=0 then Z ([],3)else G (xR fu [1] b a) λ(o,t3)=>G (yp fu f a) λj=>G (xR fu j b a) λ(t5,k)=>G (ZO fu d.2) λl=>S (l-1) λm=>G (zg (Va fu d a b) fu (t3,k,m)) λe=>Z (e,0)else Z ([],1)
def Xx(f:N J)(p:J):V (N<|N J):=S ((X f:J)-1) λn=>jT n λm=>ck (24*m<=281474976710656)<|B (So m 0) λix=>G (zg (λL (x:(N (N J)×N K)×J)=>if x.2<(X ix:J)then jT n λm=>ck (8*m<=281474976710656)<|B (So m 0) λys=>zI x.2 (X x.1.2) λj=>B (x.1.1++[ys]) λb=>B (x.1.2.set j (X x.1.1)) λix=>S (x.2+1) λi=>L ((b,ix),i)else Z x.1) fu (([[]],ix),0)) λx=>G (yr fu p) λz=>G (ZE fu [0,1] z f p) λq=>G (zg (λL (x:(N (N J)×N K)×N J×N J×J)=>if x.2.2.2<n then G (zg (λL (y:(N (N J)×N K)×J)=>if y.2<(X x.2.1:J)then zI y.2 (X x.2.1) λj=>B (x.2.1.getD j 0) λv=>zI y.2 (X y.1.2) λj=>B (y.1.2.getD j 0) λr=>zI x.2.2.2 (X (y.1.1.getD r [])) λj=>B (y.1.1.set r<|(y.1.1.getD r []).set j v) λa=>S (y.2+1) λi=>L ((a,y.1.2),i)else Z y.1) fu (x.1,0)) λy=>zI x.2.2.2 (X y.2) λj=>B (y.2.getD j 0) λr=>zI x.2.2.2 (X (y.1.getD r [])) λj=>B ((y.1.getD r []).getD j 0) λv=>S (v-1) λe=>zI x.2.2.2 (X (y.1.getD r [])) λj=>B (y.1.set r<|(y.1.getD r []).set j e) λa=>G (kS fu x.2.1 x.2.2.1 p) λu=>G (kO fu u.1 f p) λw=>S (x.2.2.2+1) λi=>L ((a,y.2),w.2.1,x.2.2.1,i)else Z x.1) fu (x,[1],q.1,0)) λx=>G (VU fu (x.2.map λr=>x.1.getD r []) n p) λr=>Z r.1
def iC(a b:N J)(d:J):V (N J):=G (kO fu a b d) λ(e,f,g)=>Z e
def cz(a b:N J)(d:J):V (N J):=G (kP fu a b d) λ(e,f)=>Z e
def YV(b:J)(a:N J)(d:J):V J:=if b<(X a:J)then zI b (X a) λe=>B (a.getD e 0) λf=>G (ZM fu f d) λg=>Z g else S (b-(X a:J)) λh=>Z h
def Uj(d e:N J)(a:J):V ((N J)×J):=G (vy fu a) λb=>if b=0 then G (yp fu d a) λf=>G (yp fu e a) λg=>G (Xa fu f g 1 a) λt3=>Z (t3,0)else Z ([],b)
def Ja(d:N J)(e:J)(f:N J)(a:J):V (N J):=G (Uj fu d [e] a) λ(b,k)=>if 2<a then S (a-1) λg=>ck (2≠0)<|S (xdC g 2) λh=>G (yr fu h) λi=>G (ZE fu b i f a) λ(j,l)=>G (VM fu j [1] a) λ(t3,m)=>Z t3 else Z b
def Qx(u:J)(v:wF J)(t3:wF (wF J))(e:J)(t5:wF J)(j h:J)(k:wF (wF J))(l:J)(i:wF J):oL ((wF<|wF J)×J) ((wF<|wF J)⊕(wF<|wF J)):=λL (a,d)=>if d<(X a:J)then if(X a:J)=(X t3:J)then Z (.inl a)else bd (YV fu h v u) λw=>zI d (X a) λy=>nm (a.getD y []) λA=>bd (Ja fu i w A e) λm=>zI d (X a) λB=>nm (a.getD B []) λo=>bd (cz fu m o e) λb=>bd (if 1<(X b:J)then zI d (X a) λC=>nm (a.getD C []) λp=>if(X b:J)<(X p:J)then Z (t3,e,t5,h,i,k,l,j,qR)else Z (t3,e,t5,h,i,k,l,j,I)else Z (t3,e,t5,h,i,k,l,j,I):V ((wF<|wF J)×J×(wF J)×J×(wF J)×(wF<|wF J)×J×J×uS)) λ(E,q,G,P,t,c,Q,R,n)=>if n then zI d (X a) λK=>nm (a.getD K []) λr=>bd (iC fu r b q) λf=>ck ((X a+X ([f]))*24<=140737488355328)<|nm (a++([f])) λg=>zI d (X g) λM=>nm (g.set M b) λs=>S (d+1) λN=>L (s,N)else S (d+1) λx=>L (a,x)else Z (.inr a)
def QV(j:J)(k:N J)(h:J)(a:N (N J)):oL ((N<|N J)×J×(N J)×(N<|N J)×J) ((N<|N J)⊕((N<|N J)×J×(N J)×(N<|N J))):=λL (t3,d,t5,i,b)=>G (if b<(X a:J)then Z (h,a,(X a:J),qR)else Z (h,a,(X a:J),I):V (J×(N<|N J)×J×uS)) λ(l,e,m,o)=>if o then zI b (X e) λp=>B (e.getD p []) λq=>G (zg (Qx fu j k t3 d t5 b l e m q) fu<|(i,0)) λr=>match r with
 |.inl f=>Z (.inl f)
 |.inr g=>S (b+1) λs=>L (t3,d,t5,g,s)else Z (.inr (t3,d,t5,i))
def Qu(a:N (N J))(b:J)(d:N J):oL ((N<|N J)×J) (N<|N J):=λL (h,e)=>S (b+(X d:J)) λj=>if e<j then jT 1 λi=>ck (i<=X a)<|B (a.drop i) λk=>G (zg (QV fu b d e k) fu<|(a,b,d,h,0)) λl=>match l with
 |.inl f=>Z f
 |.inr (m,o,p,g)=>S (e+1) λq=>L (g,q)else Z h
def Vt(b:N J)(d:N (N J))(e:J)(f:N J):V (N<|N J):=G (zg (Qu fu d e f) fu<|([b],0)) λa=>Z a
def jH(e:N J)(b:J):V ((N J)×J):=G (vy fu b) λd=>if d=0 then G (yp fu e b) λa=>if(X a:J)=0 then Z ([],0)else S ((X a:J)-1) λf=>zI f (X a) λg=>B (a.getD g 0) λh=>G (qV fu a h b) λi=>Z (i,0)else Z ([],d)
def bE(d:N J)(e:J):V ((N J)×J):=G (jH fu d e) λ(a,b)=>if b=0 then if(X a:J)=0 then Z ([],8)else if 65<(X a:J)then Z ([],6)else Z (a,0)else Z ([],b)
def cM(fu:K)(e:J)(d:N J):oL ((N J)×J×(N J)) (N J):=λL (b,a,t3)=>G (if a<(X d:J)then Z (e,(X d:J),qR)else Z (e,(X d:J),I):V (J×J×uS)) λ(f,p,h)=>if h then zI a (X t3) λi=>B (t3.getD i 0) λj=>if 0<a then ck (f≠0)<|B (xcG a f) λk=>S (k*j) λg=>ck ((X b+X ([g]))*8<=140737488355328)<|B (b++([g])) λl=>S (a+1) λm=>L (l,m,t3)else S (a+1) λo=>L (b,o,t3)else Z b
def Vk(e:N J)(a:J):V ((N J)×J):=G (vy fu a) λb=>if b=0 then G (yp fu e a) λd=>G (zg (cM fu a d) fu<|([],0,d)) λt5=>G (yp fu t5 a) λf=>Z (f,0)else Z ([],b)
def JA(d:N J)(e:J):V ((N J)×J):=G (jH fu d e) λ(a,b)=>if b=0 then if(X a:J)=0 then Z ([],8)else Z (a,b)else Z (a,b)
def Xn(e:N J)(a:J):V (uS×J):=G (JA fu e a) λ(b,d)=>if d=0 then G (Vk fu b a) λ(f,g)=>G (kP fu b f a) λ(t3,h)=>if(X t3:J)=1 then Z (qR,0)else Z (I,0)else Z (I,d)
def uW(e:N J)(a:J):V ((N J)×J):=G (bE fu e a) λ(b,d)=>if d=0 then G (Xn fu b a) λ(f,g)=>if !f then Z ([],1)else Z (b,0)else Z ([],d)
def uK(a:K):V J:=G (vX fu a) λb=>Z b
def ZG(fu:K)(g:(N J)->(N J)->V J):oL (J×J×J×(N<|N J)) (J×J×(N<|N J)):=λL (d,e,b,a)=>if d<b then zI b (X a) λh=>B (a.getD h []) λt3=>S (b-1) λi=>zI i (X a) λj=>B (a.getD j []) λk=>G (g t3 k) λl=>if l<0 then S (b-1) λm=>S (b-1) λo=>zI o (X a) λp=>B (a.getD p []) λt5=>zI b (X a) λq=>B (a.getD q []) λr=>zI b (X a) λs=>B (a.set s t5) λf=>zI m (X f) λu=>B (f.set u r) λv=>S (b-1) λw=>L (d,e,w,v)else Z (d,e,a)else Z (d,e,a)
def Zy(e b:J)(f:(N J)->(N J)->V J):oL (J×(N<|N J)) (N<|N J):=λL (a,d)=>if a<b then G (zg (ZG fu f) fu (e,b,a,d)) λ(i,j,g)=>S (a+1) λh=>L (h,g)else Z d
def qk(d:N (N J))(b e:J)(f:(N J)->(N J)->V J):V (N<|N J):=S (b+1) λg=>G (zg (Zy fu b e f) fu (g,d)) λa=>Z a
def jF(d:(N J)->(N J)->V J):oL (J×J×J×(N<|N J)) (N<|N J):=λL (a,b,e,f)=>S (b-a) λg=>if g<=12 then G (qk fu f a b d) λh=>Z h else if e=0 then wW else wW
def j7:K->(N<|N J)->J->J->J->((N J)->(N J)->V J)->V (N<|N J)
 |0,_,_,_,_,_=>wW
 |fu+1,a,b,d,e,f=>G (zg (jF fu f) fu (b,d,e,a)) λt3=>Z t3
def wv(a:N (N J))(b:(N J)->(N J)->V J):V (N<|N J):=B (E4<|(X a:J)) λd=>G (uK fu d) λe=>G (j7 fu a 0 (X a:J) e b) λf=>Z f
def Xz(g:N J)(a:J)(b:N J):V ((N<|N J)×J):=G (uW fu g a) λ(d,e)=>if e=0 then if(X d:J)=1 then Z ([],e)else G (Xx fu d a) λh=>B (min (X b:J) 64) λi=>jT i λf=>ck (f<=X b)<|B (b.take f) λt3=>G (Vt fu d h a t3) λj=>G (wv fu j<|λc k=>vL fu c k) λt5=>Z (t5,0)else Z ([],e)
def Kc:oL J J:=λL a=>G (Zw fu a) λb=>if !b then S (a+1) λd=>L d else Z a
def w9(a:J):V (J×J):=if 65521<=a then Z (0,5)else B (max a 1) λb=>S (b+1) λd=>G (zg (Kc fu) fu d) λe=>Z<|(e,0)
def Q8(a:N U)(b:J):V (uS×J):=G (vE fu a) λ(i,d)=>if d=0 then G (Zw fu b) λf=>if !f then Z (I,0)else G (Zx fu a b) λ(e,j)=>G (zX fu a) λg=>if(X e:J)=(X g:J)then G (Xn fu e b) λ(h,k)=>Z (h,0)else Z (I,0)else Z (I,d)
def Kb(l:N U)(m:N J):oL (J×J×(N<|N J)×J×J) (J×(N<|N J)):=λL (b,e,d,a,o)=>if o=0 then if e<5 then G (Q8 fu l a) λ(p,v)=>if !p then G (w9 fu a) λ(q,r)=>L (b,e,d,q,r)else S (e+1) λf=>G (Zx fu l a) λ(s,w)=>G (Xz fu s a m) λ(t3,y)=>if b=0 then G (w9 fu a) λ(u,g)=>L (a,f,t3,u,g)else if(X t3:J)<(X d:J)then G (w9 fu a) λ(h,i)=>L (a,f,t3,h,i)else G (w9 fu a) λ(j,k)=>L (b,f,d,j,k)else Z (b,d)else Z (b,d)
def JE(a:N U)(b:N J):V (J×(N<|N J)):=G (w9 fu 1) λ(d,e)=>G (zg (Kb fu a b) fu<|(0,0,[],d,e)) λ(f,g)=>Z (f,g)
def Ah(a:J):oL (J×U×U) (U×U):=λL (b,d,e)=>G (if b<a then Z (a,a,qR)else Z (a,a,I):V (J×J×uS)) λ(f,q,g)=>if g then S (f+b) λh=>S (h+1) λi=>G (yr fu i) λj=>G (zQ fu e j) λk=>S (b+1) λl=>G (yr fu l) λm=>G (qq fu k m) λ(o,r)=>S (b+1) λp=>L (p,d,o)else Z (d,e)
def fZ(a:J):V U:=G (yr fu 1) λb=>G (zg (Ah fu a) fu<|(0,(I,[]),b)) λ(t3,d)=>Z d
def BP:oL (J×U×U) U:=λL (b,a,d)=>if 0<b then B (zaY b 1) λe=>if e=1 then G (zQ fu d a) λf=>G (zQ fu a a) λg=>B (xfX b<|2^(min ((1:K):J).toNat 64)) λh=>L (h,g,f)else G (zQ fu a a) λi=>B (xfX b<|2^(min ((1:K):J).toNat 64)) λj=>L (j,i,d)else Z d
def Yz(a:U)(b:J):V U:=G (yr fu 1) λd=>G (zg (BP fu) fu (b,a,d)) λt3=>Z t3
def BC(a d:N U):oL (J×U×U) (U×U):=λL (b,e,f)=>G (if b<(X a:J)then Z (d,a,(X a:J),qR)else Z (d,a,(X a:J),I):V ((N U)×(N U)×J×uS)) λ(t3,g,q,h)=>if h then zI b (X g) λi=>B (g.getD i (I,[])) λj=>zI b (X t3) λk=>B (t3.getD k (I,[])) λl=>G (zQ fu j l) λm=>G (qh fu f m) λo=>S (b+1) λp=>L (p,e,o)else Z (e,f)
def lP(a b:N U):V U:=G (yr fu 0) λd=>G (zg (BC fu a b) fu<|(0,(I,[]),d)) λ(t5,e)=>Z e
def lY(a b:N U):V (U×J):=if(X a:J)=(X b:J)then G (lP fu a b) λd=>Z (d,0)else Z ((I,[]),1)
def dE(a:N U):V U:=G (lY fu a a) λ(b,d)=>Z b
def Fy(f a:U):oL (J×U) (Wl⊕J):=λL (b,e)=>if b<=1000 then G (kX fu e f) λg=>if 0<g then Z (.inr b)else G (zQ fu e a) λd=>S (b+1) λh=>L (h,d)else Z (.inl ())
def px(g:N U)(h d:J):V (J×J):=G (vE fu g) λ(C,i)=>if i=0 then G (wq fu g) λj=>S ((X j:J)-1) λa=>G (Zw fu h) λk=>if !k then Z (0,1)else if d<1 then Z (0,1)else if a<d then Z (0,1)else S (a-1) λe=>G (yr fu 2) λl=>S (e*a) λm=>G (Yz fu l m) λo=>G (fZ fu e) λp=>G (Yz fu p a) λq=>G (dE fu j) λr=>S (e+a) λs=>G (Yz fu r s) λu=>G (zQ fu q u) λv=>G (zQ fu o v) λw=>G (yr fu h) λf=>S (2*d) λy=>G (Yz fu f y) λb=>G (zg (Fy fu w b) fu<|(1,b)) λA=>match A with
 |.inl _=>Z<|(0,6)
 |.inr B=>Z (B,0)else Z (0,i)
def Cb(a b:N J)(d:J):V uS:=G (kO fu b a d) λ(f,e,g)=>if(X e:J)=0 then Z qR else Z I
def QP(d:J):oL ((N U)×(N<|N J)) ((N U)×(N<|N J)):=λL (b,a)=>if 12<(X a:J)then zI 0 (X a) λe=>B (a.getD e []) λf=>S ((X f:J)-1) λg=>G (px fu b d g) λ(h,i)=>if i=0 then G (jG fu b a d h) λ(t3,k)=>if(X t3:J)=0 then Z (b,a)else zI 0 (X t3) λj=>B (t3.getD j []) λl=>wW else Z (b,a)else Z (b,a)
def Vq(a:N U)(b:N (N J))(d:J):V ((N<|N U)×(N U)×(N<|N J)):=G (zg (QP fu d) fu (a,b)) λ(t5,e)=>Z ([],t5,e)
def ue(fu:K)(g:(N U)->(N U)->V J):oL (J×J×J×(N<|N U)) (J×J×(N<|N U)):=λL (d,e,b,a)=>if d<b then zI b (X a) λh=>B (a.getD h []) λt3=>S (b-1) λi=>zI i (X a) λj=>B (a.getD j []) λk=>G (g t3 k) λl=>if l<0 then S (b-1) λm=>S (b-1) λo=>zI o (X a) λp=>B (a.getD p []) λt5=>zI b (X a) λq=>B (a.getD q []) λr=>zI b (X a) λs=>B (a.set s t5) λf=>zI m (X f) λu=>B (f.set u r) λv=>S (b-1) λw=>L (d,e,w,v)else Z (d,e,a)else Z (d,e,a)
def uf(e b:J)(f:(N U)->(N U)->V J):oL (J×(N<|N U)) (N<|N U):=λL (a,d)=>if a<b then G (zg (ue fu f) fu (e,b,a,d)) λ(i,j,g)=>S (a+1) λh=>L (h,g)else Z d
def vj(d:N (N U))(b e:J)(f:(N U)->(N U)->V J):V (N<|N U):=S (b+1) λg=>G (zg (uf fu b e f) fu (g,d)) λa=>Z a
def qj(d:(N U)->(N U)->V J):oL (J×J×J×(N<|N U)) (N<|N U):=λL (a,b,e,f)=>S (b-a) λg=>if g<=12 then G (vj fu f a b d) λh=>Z h else if e=0 then wW else wW
def q9:K->(N<|N U)->J->J->J->((N U)->(N U)->V J)->V (N<|N U)
 |0,_,_,_,_,_=>wW
 |fu+1,a,b,d,e,f=>G (zg (qj fu f) fu (b,d,e,a)) λt3=>Z t3
def yP(a:N (N U))(b:(N U)->(N U)->V J):V (N<|N U):=B (E4<|(X a:J)) λd=>G (uK fu d) λe=>G (q9 fu a 0 (X a:J) e b) λf=>Z f
def Jo(a:N U)(g:N J):V ((N<|N U)×uS):=if(X a:J)<2 then Z ([],qR)else G (Jx fu a) λh=>if h then Z ([],I)else G (JE fu a g) λ(b,i)=>if b=0 then Z ([],I)else G (Vf fu a b) λe=>G (ja fu b e) λ(j,p)=>G (Vq fu a i b) λ(d,t3,k)=>if 1<(X t3:J)then G (jG fu t3 k b e) λ(t5,q)=>G (YD fu t3 t5 j) λf=>ck ((X d+X f)*24<=140737488355328)<|B (d++f) λl=>G (yP fu l<|λc n=>j8 fu c n) λm=>Z (m,qR)else G (yP fu d<|λc n=>j8 fu c n) λo=>Z (o,qR)
def fH(d:U)(e:J):oL (J×U) U:=λL (a,b)=>if a<e then G (zQ fu b d) λf=>S (a+1) λg=>L (g,f)else Z b
def Jv(a:U)(b:J):V U:=G (yr fu 1) λd=>G (zg (fH fu a b) fu<|(0,d)) λe=>Z e
def QA(l:U):oL ((N U)×(N U)×J×(N U)) ((N U)×(N U)):=λL (t5,b,a,e)=>if 0<=a then S (a+(X t5:J)) λm=>if(X b:J)<m then S (a-1) λo=>L (t5,b,o,e)else S (a+(X t5:J)) λp=>S (p-1) λq=>zI q (X b) λr=>B (b.getD r (I,[])) λs=>G (qq fu s l) λ(u,v)=>zI a (X e) λw=>B (e.set w u) λf=>jT a λj=>ck (32*j<=281474976710656)<|B (So j (I,[])) λk=>zI a (X f) λy=>B (f.getD y (I,[])) λA=>G (qA fu t5 A) λd=>ck ((X k+X d)*32<=140737488355328)<|B (k++d) λg=>G (kT fu b g) λh=>S (a-1) λi=>L (t5,h,i,f)else Z (b,e)
def Yy(j k:N U):V ((N U)×(N U)×J):=G (zX fu j) λg=>G (zX fu k) λa=>if(X a:J)=0 then Z ([],[],3)else S ((X g:J)-(X a:J)) λl=>S (l+1) λm=>B (max m 0) λb=>S ((X a:J)-1) λo=>zI o (X a) λp=>B (a.getD p (I,[])) λh=>G (Jv fu h b) λq=>G (qA fu g q) λt3=>jT b λi=>ck (32*i<=281474976710656)<|B (So i (I,[])) λr=>S (b-1) λs=>G (zg (QA fu h) fu (a,t3,s,r)) λ(d,e)=>G (zX fu e) λf=>Z<|(f,d,0)
def pO:oL ((N U)×(N U)) (N U):=λL (t3,a)=>if 0<(X a:J)then G (Yy fu t3 a) λ(t5,b,e)=>G (wq fu b) λd=>L (a,d)else Z t3
def Vd(a b:N U):V (N U):=G (qe fu a) λd=>G (qe fu b) λe=>G (WM fu d e) λf=>G (wq fu a) λg=>G (wq fu b) λh=>G (zg (pO fu) fu (g,h)) λi=>G (qA fu i f) λj=>Z j
def QE(a:J)(b:U):V U:=G (yr fu a) λd=>G (zQ fu b d) λe=>Z e
def Vy(d:N U):V (N U):=G (zL fu d<|λc g=>QE fu c g) λa=>B (min (X a:J) 1) λe=>jT e λb=>ck (b<=X a)<|B (a.drop b) λf=>G (zX fu f) λt3=>Z t3
def Ar(a b:N U):V (N U):=G (wK fu a b) λ(d,e)=>Z d
def qT(b:N U):V ((N U)×J):=G (XC fu b) λd=>if d=0 then G (wq fu b) λa=>G (Vy fu a) λe=>G (Vd fu a e) λt3=>G (Ar fu a t3) λf=>Z (f,0)else Z ([],d)
def WC(e:N U)(a:N (N U)):oL ((N<|(N U)×J)×J×U×(N<|N U)) ((N<|(N U)×J)×U):=λL (t3,b,f,t5)=>G (if b<(X a:J)then Z (e,(X a:J),qR)else Z (e,(X a:J),I):V ((N U)×J×uS)) λ(h,m,i)=>if i then zI b (X t5) λj=>B (t5.getD j []) λd=>G (XE fu h d) λg=>ck ((X t3+X ([(d,g)]))*32<=140737488355328)<|B (t3++([(d,g)])) λk=>S (b+1) λl=>L (k,l,f,t5)else Z (t3,f)
def vI(a:N U)(e:N J):V (U×(N<|(N U)×J)×J):=G (qT fu a) λ(f,b)=>if b=0 then G (Jo fu f e) λ(d,g)=>if !g then Z ((I,[]),[],6)else G (zg (WC fu a d) fu<|([],0,(I,[]),d)) λ(h,i)=>G (qe fu a) λj=>Z (j,h,0)else Z ((I,[]),[],b)
def wB(d:N U):V (uS×J):=G (vI fu d []) λ(g,b,a)=>if a=0 then if(X b:J)=1 then zI 0 (X b) λe=>B ((b.getD e ([],0)).2) λf=>if f=1 then Z (qR,a)else Z (I,a)else Z (I,a)else Z (I,a)
def U4(a:N U):oL (J×(d7×(N Qr))) (d7×(N Qr)):=λL (d,b)=>G (if d<(X a:J)then Z (a,a,(X a:J),qR)else Z (a,a,(X a:J),I):V ((N U)×(N U)×J×uS)) λ(t3,e,o,g)=>if g then zI d (X e) λh=>B (e.getD h (I,[])) λi=>S ((X t3:J)-1) λj=>zI j (X t3) λk=>B (t3.getD k (I,[])) λl=>G (W9 fu i l) λ(f,p)=>ck ((X b.2+X ([f]))*56<=140737488355328)<|B (b.2++([f])) λt5=>S (d+1) λm=>L (m,(b.1,t5))else Z (b.1,b.2)
def Qc(d:N U):V ((V<|d7)×J):=G (wq fu d) λa=>if 17<(X a:J)then Z ((wW:V d7),6)else if(X a:J)<2 then Z ((wW:V d7),7)else G (wB fu a) λ(e,f)=>if f=0 then if !e then Z ((wW:V d7),7)else G (zg (U4 fu a) fu<|(0,((a,[]),([]:N Qr)))) λb=>Z ((Z (b.1.1,b.2)),0)else Z ((wW:V d7),6)
def xX(fu:K)(a:V d7):V uS:=if(a).isNone=qR then Z qR else G (a) λb=>if(X b.1:J)=0 then Z qR else Z I
def jw(a:J):V Qr:=G (yr fu a) λb=>Z<|(b,[(1:K)])
def Xk(a:Qr):V U:=G (qD fu (I,a.2)) λb=>Z b
def wC(a:Qr):V Qr:=G (Xk fu a) λb=>G (W9 fu a.1 b) λ(d,e)=>if e=0 then Z d else G (jw fu 0) λf=>Z f
def WJ(d e:Qr):V Qr:=G (wC fu d) λa=>G (wC fu e) λb=>G (zQ fu a.1 b.1) λf=>G (Yk fu a.2 b.2) λg=>G (wC fu (f,g)) λh=>Z h
def Kp(a:Qr):V J:=G (wC fu a) λb=>G (xO fu b.1) λd=>Z d
def Vm(d e:Qr)(f:U->U->V U):V Qr:=G (wC fu d) λa=>G (wC fu e) λb=>G (Xk fu b) λg=>G (zQ fu a.1 g) λh=>G (Xk fu a) λi=>G (zQ fu b.1 i) λj=>G (f h j) λk=>G (Yk fu a.2 b.2) λl=>G (wC fu (k,l)) λm=>Z m
def Wg(a b:U)(d:uS):V U:=if d then G (qP fu a b) λe=>Z e else G (qh fu a b) λf=>Z f
def XV(a b:Qr)(d:uS):V Qr:=G (Vm fu a b<|λc f=>Wg fu c f d) λe=>Z e
def aO(a b:Qr):V Qr:=G (XV fu a b qR) λd=>Z d
def Y6(e:d7)(a:N Qr):oL (J×(N Qr)) (N Qr):=λL (b,d)=>G (if b<(X a:J)then Z (e,a,(X a:J),qR)else Z (e,a,(X a:J),I):V (d7×(N Qr)×J×uS)) λ(t3,f,m,g)=>if g then zI b (X f) λh=>B (f.getD h<|((I,[]),[])) λi=>G (wC fu i) λj=>zI b (X d) λk=>B (d.set k j) λt5=>S (b+1) λl=>L (l,t5)else Z d
def Y0(h:J)(i:d7)(a:J):oL (J×(N Qr)×Qr) (N Qr):=λL (b,d,e)=>G (if b<a then Z (i,a,h,a,qR)else Z (i,a,h,a,I):V (d7×J×J×J×uS)) λ(f,j,k,C,l)=>if l then S (k-j) λm=>S (m+b) λo=>S (k-j) λp=>S (p+b) λq=>zI q (X d) λr=>nm (d.getD r<|((I,[]),[])) λs=>zI b (X f.2) λu=>nm (f.2.getD u<|((I,[]),[])) λv=>G (WJ fu e v) λw=>G (aO fu s w) λy=>zI o (X d) λA=>nm (d.set A y) λg=>S (b+1) λB=>L (B,g,e)else Z d
def Y7(m:d7)(f:J):oL ((N Qr)×J) ((N Qr)⊕(N Qr)):=λL (b,a)=>if 0<=a then zI a (X b) λr=>B (b.getD r<|((I,[]),[])) λo=>G (if f<=a then Z (m,f,qR)else Z (m,f,I):V (d7×J×uS)) λ(s,u,v)=>if v then G (zg (Y0 fu a s u) fu<|(0,b,o)) λd=>jT a λp=>ck (p<=X d)<|B (d.take p) λg=>S (a-1) λw=>L (g,w)else G (Kp fu o) λh=>if h=0 then jT a λq=>ck (q<=X b)<|B (b.take q) λi=>S (a-1) λj=>L (i,j)else S (a+1) λk=>jT k λe=>ck (e<=X b)<|B (b.take e) λl=>Z (.inr l)else Z (.inl b)
def xk(a:d7)(e:N Qr):V (N Qr):=jT (X e:J) λf=>ck (56*f<=281474976710656)<|B (So f<|((I,[]),[])) λh=>G (zg (Y6 fu a e) fu<|(0,h)) λg=>S ((X a.2:J)-1) λi=>S ((X g:J)-1) λj=>G (zg (Y7 fu a i) fu (g,j)) λk=>match k with
 |.inl b=>Z b
 |.inr d=>Z d
def aW(a b:Qr):V Qr:=G (XV fu a b I) λd=>Z d
def uk(e:J)(g:N Qr)(i:d7)(j:N Qr)(k:J):oL (J×(N Qr)×(N Qr)×Qr) ((N Qr)×(N Qr)):=λL (a,f,b,d)=>bd (if a<(X g:J)then Z (i,e,j,k,e,(X g:J),qR)else Z (i,e,j,k,e,(X g:J),I):V (d7×J×(N Qr)×J×J×J×uS)) λ(m,l,o,E,G,c,p)=>if p then zI a (X f) λq=>nm (f.getD q<|((I,[]),[])) λr=>S (l+a) λs=>S (l+a) λu=>zI u (X b) λv=>nm (b.getD v<|((I,[]),[])) λw=>bd (WJ fu d r) λy=>bd (aW fu w y) λA=>zI s (X b) λB=>nm (b.set B A) λh=>S (a+1) λC=>L (C,f,h,d)else Z (f,b)
def kZ(g:d7)(a:N Qr):oL (J×(N Qr)×(N Qr)) (N Qr):=λL (b,h,t5)=>G (if b<(X a:J)then Z (g,a,(X a:J),qR)else Z (g,a,(X a:J),I):V (d7×(N Qr)×J×uS)) λ(i,d,j,k)=>if k then zI b (X d) λl=>B (d.getD l<|((I,[]),[])) λm=>G (zg (uk fu b h i d j) fu<|(0,h,t5,m)) λ(e,f)=>S (b+1) λo=>L (o,e,f)else Z t5
def xQ(a:d7)(h i:N Qr):V (N Qr):=G (xk fu a h) λe=>G (xk fu a i) λf=>S ((X e:J)+(X f:J)) λj=>jT j λg=>ck (56*g<=281474976710656)<|B (So g<|((I,[]),[])) λt3=>G (zg (kZ fu a e) fu<|(0,f,t3)) λb=>G (xk fu a b) λd=>Z d
def Y4(d:d7)(a:N Qr)(e:J):oL (J×(N Qr)) (N Qr):=λL (b,t3)=>G (if b<(X a:J)then Z (e,d,a,(X a:J),qR)else Z (e,d,a,(X a:J),I):V (J×d7×(N Qr)×J×uS)) λ(f,s,t5,u,g)=>if g then zI b (X t5) λh=>B (t5.getD h<|((I,[]),[])) λi=>zI b (X t3) λj=>B (t3.getD j<|((I,[]),[])) λk=>G (jw fu f) λl=>G (WJ fu i l) λm=>G (aW fu k m) λo=>zI b (X t3) λp=>B (t3.set p o) λq=>S (b+1) λr=>L (r,q)else Z t3
def wO(a:d7)(b d:N Qr)(f:J):V (N Qr):=B (max (X b:J)<|(X d:J)) λg=>jT g λe=>ck (56*e<=281474976710656)<|B (So e<|((I,[]),[])) λh=>B (H3 h b) λi=>G (zg (Y4 fu a d f) fu<|(0,i)) λj=>G (xk fu a j) λk=>Z k
end
end
end Go.Proofs.YtoegnnjcmlghhaaGreat
