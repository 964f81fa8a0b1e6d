/- What a proof needs: rules of walking, mirrors of functions and their plain laws. No condition. -/
import Derived.Test.YtoegnnjcmlghhaaGreatZq3
import Derived.Shelf.Strings.Builder1
import Derived.Shelf.Strings.Builder2
import Derived.Shelf.Strings.OnBuilder
import Derived.Shelf.Small.Bits
import Derived.Shelf.Strings.BuilderF
import Derived.Shelf.Strings.Builder2Cap
import Derived.Shelf.Strconv.Itoa0
import Derived.Shelf.Bits.Mul64
import Derived.Shelf.Slices.Turned
import Derived.Ground.Names2Prog
import Derived.Shelf.Slices.ReverseS
import Derived.Shelf.Slices.SearchI
import Derived.Shelf.Slices.Cells
import Derived.Ground.SlgnProg
import Derived.Shelf.SlicesE.Clone
import Derived.RecoverIn
set_option linter.all false
namespace Go.Proofs
open Go.Shelf
def mK:=@or_false
def xck:=@Nat.sub_self
def xfQ:=@Nat.lt_irrefl
def Tryz.lays156_ren:Go.Shelf.Ren:=⟨fun|156=>164|165=>199|166=>200|169=>201|240=>236|241=>237|276=>268|277=>269|n=>n,fun|31=>159|9=>9|3=>3|4=>4|0=>0|20=>20|72=>194|76=>198|70=>192|37=>190|75=>197|127=>221|164=>247|5=>5|80=>200|n=>n,fun|n=>n⟩
theorem Tryz.lays156:Go.Proofs.Lays.n156 Tryz.prog Tryz.lays156_ren:={
  mixed:=by kernel_rfl
  f156:=Tryz.func164.trans (congrArg some (by kernel_rfl))
  f165:=Tryz.func199.trans (congrArg some (by kernel_rfl))
  f166:=Tryz.func200.trans (congrArg some (by kernel_rfl))
  f169:=Tryz.func201.trans (congrArg some (by kernel_rfl))
  f240:=Tryz.func236.trans (congrArg some (by kernel_rfl))
  f241:=Tryz.func237.trans (congrArg some (by kernel_rfl))
  f276:=Tryz.func268.trans (congrArg some (by kernel_rfl))
  f277:=Tryz.func269.trans (congrArg some (by kernel_rfl))
  t0:=Tryz.underlying0
  a0:=Tryz.isAgg0
  z0:=Tryz.sizeOf0
  v0:=Tryz.zeroValue0
  t3:=Tryz.underlying3
  a3:=Tryz.isAgg3
  z3:=Tryz.sizeOf3
  v3:=Tryz.zeroValue3
  t4:=Tryz.underlying4
  a4:=Tryz.isAgg4
  z4:=Tryz.sizeOf4
  v4:=Tryz.zeroValue4
  t9:=Tryz.underlying9
  a9:=Tryz.isAgg9
  z9:=Tryz.sizeOf9
  v9:=Tryz.zeroValue9
  t20:=Tryz.underlying20
  a20:=Tryz.isAgg20
  z20:=Tryz.sizeOf20
  v20:=Tryz.zeroValue20
  t31:=Tryz.underlying159
  a31:=Tryz.isAgg159
  z31:=Tryz.sizeOf159
  v31:=Tryz.zeroValue159
  t37:=Tryz.underlying190
  a37:=Tryz.isAgg190
  z37:=Tryz.sizeOf190
  v37:=Tryz.zeroValue190
  t70:=Tryz.underlying192
  a70:=Tryz.isAgg192
  z70:=Tryz.sizeOf192
  v70:=Tryz.zeroValue192
  t72:=Tryz.underlying194
  a72:=Tryz.isAgg194
  z72:=Tryz.sizeOf194
  v72:=Tryz.zeroValue194
  t75:=Tryz.underlying197
  a75:=Tryz.isAgg197
  z75:=Tryz.sizeOf197
  v75:=Tryz.zeroValue197
  t76:=Tryz.underlying198
  a76:=Tryz.isAgg198
  z76:=Tryz.sizeOf198
  v76:=Tryz.zeroValue198
  t127:=Tryz.underlying221
  a127:=Tryz.isAgg221
  z127:=Tryz.sizeOf221
  v127:=Tryz.zeroValue221
  t164:=Tryz.underlying247
  a164:=Tryz.isAgg247
  z164:=Tryz.sizeOf247
  v164:=Tryz.zeroValue247}
theorem Tryz.Builder_Extra_156:Builder.Extra Tryz.prog Tryz.lays156_ren:={
  sizeBuilder:=by kernel_rfl
  liesBuilder:=by kernel_rfl
  t5:=Tryz.underlying5
  a5:=Tryz.isAgg5
  z5:=Tryz.sizeOf5
  v5:=Tryz.zeroValue5
  infoByte:=by kernel_rfl
  cellsByte:=by kernel_rfl
  sizeByte:=by kernel_rfl
  neB5:=by decide}
open Go.RowKit in
theorem Tryz.strings_Join_none(a:Option Addr)(c:Nat)(sep:ByteArray)(w:World):
    Calls Tryz.prog 164 #[.slice a 0 c,.string sep] w fun e w'=>e=.returned (.string ⟨#[]⟩)∧w'=w:=Any.strings_Join_none Tryz.lays156 Tryz.Builder_Extra_156 a c sep w
open Go.RowKit in
theorem Tryz.strings_Join(bk o c:Nat)(xs:List ByteArray)(sep:ByteArray)(w:World)(hcells:∀(j:Nat) x,xs[j]? =some x→w.cell? ⟨bk,o+j,none⟩=some (.string x))(hbk:bk<w.heap.size)(hN:xs.length≤140737488355328)(hcap:xs.length≤c)(hlen:(Lib.join (xs.map (·.data.toList)) sep.data.toList).length≤140737488355328):
    Calls Tryz.prog 164 #[.slice (some ⟨bk,o,none⟩) xs.length c,.string sep] w fun e w'=>e=.returned (.string ⟨(Lib.join (xs.map (·.data.toList)) sep.data.toList).toArray⟩)∧Below w.heap.size w w':=Any.strings_Join Tryz.lays156 Tryz.Builder_Extra_156 bk o c xs sep w hcells hbk hN hcap hlen
end Go.Proofs
namespace Go.Proofs.YtoegnnjcmlghhaaGreat
open Bool renaming false->I,true->wT
open Go renaming Value->wW,World->qR,TypeId->kW,Operand->ul,execOp->uP,Program->uS,undef->Z9,FuncId->XS,Tmp->Wf,Code->Wn,resolve->WN,Func->WT,wpListIn->WW,LeavesInM->V0,invoke->V1,ResultVar->V3,results->V4,Act->V6,maxLen->QR,Calls->aM,callsIn_of_wp_marks->aP,run_takeDeferred->bV,PanicEntry->cE,Ending->fD,run_endRound->iI,Loop->iP,madeCells->lm,Deferred->oK,Fence->oS
open Go.Proofs.YtoegnnjcmlghhaaGreat renaming bd->G,za->Y,Zr->U,nm->B,Qr->D,ze->F,iq->Q,zf->A,ir->S
open List renaming length->X,length->Ap
open Nat renaming beq->R
open Option renaming some->Z,none->wS
open _root_ renaming rfl->O,List->N,Int->J,Nat->K,Option->V,List->ww,Int->wF,Nat->wL,Option->wN,absurd->jp,trivial->jP,Bool->ut,Array->Z3,Unit->Wd,True->Wr
open Deferred renaming ofValue->xcX
open Ending renaming returned->xeu
open Extern renaming find->xfb,findNext->xeP
open Extern.MathBitsCarry renaming m64->xbf,pair->xcn,three->xbJ
open Fence renaming wide->xcR
open Int renaming fdiv->xfW,tdiv->xdv,tmod->xcB
open List renaming drop->xdN,range->xaC,replicate->So,take->xdB
open List.Perm renaming cons->xfA,swap->xdS
open Nat renaming beq->xah,ble->xft,blt->xda,lt_of_lt_of_le->xag
open Sum renaming elim->xfi
open _root_.Array renaming getD_eq_getD_getElem?->xbx,getElem?_eq_some_iff->xbi,length_toList->xeZ,replicate->xdh,toArray_toList->xcy
section
def LP(P:uS)(cf:Cf)(n:wL)(c:Wn):Prop:=∀{R:Type}{r:R}{fr:Fr}{cx σ:Sg}{K:Tg->Sg->V R}{Q:Qd}{N:Nd},N.n=n->(N.rd=wS\/OU c=wT)->den cf c cx σ K=Z r->∀{Ds:ww wL}{H:xj}{w:qR},
 (∀t m6,K t m6=Z r->∀a b w',oH cx H b->uK P (fr.wd a) cx m6 b w'->Q (tgE t) a b w')->uK P (fr.wd Ds) cx σ H w->L4 P N c Q Ds H w
def zsH:wW->N wW
 |.tuple us=>us.toList
 |_=>[]
def XP(u:wW)(k:K):wW:=(zsH u).getD k Z9
def SG(vs:K->wW)(m:K):wW:=.tuple ((xaC m).map vs).toArray
def zmL{vs:K->wW}{m k:K}(h:k<m):XP (SG vs m) k=vs k:=by simp[XP,SG,zsH,h]
def tgC:Tg->Wn
 |.n=> .skip
 |.x i=> .exit i
 |.r=> .ret
 |.p _=> .skip
section
variable{P:uS}{cf:Cf}{fr:Fr}{cx wl kp σ:Sg}{vs i9:wL->wW}{H i8:xj}{w:qR}{we:qR}{Se:wL->Prop}{F:ww MF}{G:ww FF}{n D l:wL}{ds:ww (wL×TF)}{x:J7 ds}{u:wW}{rc:iP}
def zfH(P:uS)(H:xj)(wl:Sg)(n:K)(ds:N (K×TF))(D l:K)(rc:iP)(x:J7 ds)(u:wW):MF:=
 Fo (mPr (U7 ds H λj=>XP u<|n+j)::mFF (RS P (XP u) H wl.rg)::fK l rc::qy D::(QZ (λj=>XP u<|n+j) ds x 0++MS (XP u) wl.ob))
def zcy(h:St we Se (zfH P H wl n ds D l rc x u::F) G w):U7 ds H (λj=>XP u<|n+j)/\St we Se (fK l rc::qy D::(QZ (λj=>XP u<|n+j) ds x 0++(MS (XP u) wl.ob++F))) (RS P (XP u) H wl.rg++G) w:=by have⟨h1,a⟩:=St.unpr<|St.grp.1 h;have b:=St.ffOut (show St we Se (mFF (RS P (XP u) H wl.rg)::(fK l rc::qy D::(QZ (λj=>XP u<|n+j) ds x 0++MS (XP u) wl.ob)++F)) G w from a);simp_all
def zh7(d:U7 ds H λj=>vs<|n+j)(a:∀e∈wl.ob,e.1<n)(g:∀e∈wl.rg,∀o,vv e.2.2=Z o->o<n)(h:St we Se (fK l rc::qy D::(QZ (λj=>vs<|n+j) ds x 0++(MS vs wl.ob++F))) (RS P vs H wl.rg++G) w):
 St we Se (zfH P H wl n ds D l rc x (SG vs<|n+X ds)::F) G w:=by
 have e0:∀k,k<n+X ds->XP (SG vs<|n+X ds) k=vs k:=λk i=>zmL i;have e1:RS P (XP<|SG vs<|n+X ds) H wl.rg=RS P vs H wl.rg:=uv (λe b o a=>e0 o (by have:=g e b o a;lia)) λ_ _=>O;have m:MS (XP<|SG vs<|n+X ds) wl.ob=MS vs wl.ob:=wC λe b=>e0 e.1 (by have:=a e b;lia);have p:QZ (λj=>XP (SG vs<|n+X ds)<|n+j) ds x 0=QZ (λj=>vs<|n+j) ds x 0:=nG λj c=>e0 _ W;refine St.grp.2<|St.pr ?_ ?_;intro j t f c;have:=(xaz.1 c).1;show BR f (H t) (XP (SG vs<|n+X ds)<|n+j);rw[e0 _ W];exact d j t f c;have q:St we Se (mFF (RS P vs H wl.rg)::(fK l rc::qy D::(QZ (λj=>vs<|n+j) ds x 0++MS vs wl.ob)++F)) G w:=St.ffIn (by simpa only[xbL,xar]using h);simp_all
def PC{m:MF}{p:Prop}(h:uK P fr cx σ H w)(a:m∈fr.F)(hp:∀S,m.p S w->p):p:=by have⟨_,vs,_,_,_,S,_,_,_,b,_⟩:=h;exact hp S<|Yv.1 b m<|xab.2 (.inr<|xab.2 (.inr a))
def zkP{it:HK}{pt:wL}{τ:Tg}{a c:Wn}{N:wL}{fn:XS}{tmps:Z3 wW}(hA:LP P cf N a)(hC:LP P cf N c)(hX:OU a=wT)(hY:OU c=wT)(c2:pt<N)(hZ:tmps.size=N)(hP:ya ⟨tmps,[]⟩=H)(hm:fM ds=wT)
 (h0:zgh (uI pt it.t it.E ds).ds=wT) (hJ:Wx wl.rg pt=wT) (ho:∀e∈wl.ob,e.1<n) (hr:∀e∈wl.rg,∀o,vv e.2.2=Z o->o<n):
 P6 P l it.t.rep it.E (λx u=>zfH P H wl n ds D l {state:=.ready,pending:=wS,fn:=fn,tmps:=tmps,params:= #[pt],assign:=a,body:=c,defers:=D} x u)
  (λx u=>zfH P H wl n ds D l {state:=.done,pending:=Z<|tgC τ,fn:=fn,tmps:=tmps,params:= #[pt],assign:=a,body:=c,defers:=D} x u)
  (zsF wl n ds it.t it.E pt τ (λcx σ K=>den cf a cx σ K) λcx σ K=>den cf c cx σ K):=by
 have⟨L,hn⟩:∃L:iP,L={state:=.ready,pending:=wS,fn:=fn,tmps:=tmps,params:= #[pt],assign:=a,body:=c,defers:=D}:=⟨_,O⟩;have⟨M,hH⟩:∃M:iP,M={L with state:=.busy}:=⟨_,O⟩;rw[<-hn];intro ys x Y q hq v u we Se F G w h9;have⟨h',h1⟩:=zcy h9;have hl:w.heap[l]? =Z (.loop L):=wE h1 (i:=0) O λS hp=>hp;have hy:=run_yield (P:=P) (args:= #[v]) hl (by rw[hn];rfl);refine⟨fn,tmps.setIfInBounds pt v,a,c,by rw[hn]at hy;simpa using hy,roundIn_of_wpIn jP ?_⟩;have⟨sh,hB⟩:∃sh,sh=uI pt it.t it.E ds:=⟨_,O⟩;have c1:X sh.ds=X ds+1:=by rw[hB];rfl
 have hI:fM sh.ds=wT:=by rw[hB];exact hm
 have⟨cp,hc⟩:∃cp,cp=cpR wl n sh:=⟨_,O⟩;have hQ:∀{j t:wL}{f:TF},ds[j]? =Z (t,f)->t≠pt:=λT=>zmo (a:=(pt,.own it.t it.E)) h0 T;have⟨b,hu⟩:∃b,b=put H (some pt) v:=⟨_,O⟩;have a4:b pt=v:=by rw[hu];exact ED
 have a3:∀t,t≠pt->b t=H t:=λt ht=>by rw[hu];exact oZ<|λe=>ht<|by cases e;rfl
 have a5:∀e∈wl.rg,b e.1=H e.1:=λe he=>a3 e.1 λh=>by
  simp only[Wx,xaT]at hJ;have:=hJ e he;rw[h]at this;simp at this
 have⟨g,hD⟩:∃g:wL->wW,g=λk=>if k<n then XP u k else if k=n then v else XP u (k-1):=⟨_,O⟩;have a6:∀k,k<n->g k=XP u k:=λk hk=>by rw[hD];exact iq hk
 have b1:g n=v:=by rw[hD];simp
 have a7:∀j,g (n+(j+1))=XP u (n+j):=λj=>by
  rw[hD];simp only;rw[zG,zG,(W:n+(j+1)-1=n+j)]
 have hK:U7 sh.ds b λj=>g (n+j):=by
  rw[hB];intro j t f T
  cases j with
  |zero=>
   simp only[uI,xbD,xav,xcL]at T;obtain⟨rfl,rfl⟩:=T;show b pt=g (n+0);rw[a4,xbT,b1]
  |succ j=>
   have T:ds[j]? =Z (t,f):=by simpa[uI]using T
   show BR f (b t) (g<|n+(j+1));rw[a7,a3 t<|hQ T];exact h' j t f T
 have hE:Bd cp ⟨n+X sh.ds,[],[]⟩:=by
  rw[hc];refine⟨λ_ he=>jp he H1,λe he=> ?_,λ_ he=>jp he H1,λe he o hf=> ?_⟩;have:=ho e he;show e.1<n+_;lia;show o<n+_;rcases xab.1 (show e∈C2 sh.ds n++wl.rg from he)with he|he
  exact TD e he o hf;have:=hr e he o hf;lia
 have b2:uK P (Fr.wd ⟨we,Se,fK l L::qy D::F,G⟩ []) cp (Kp sh (hB▸IU (a:=(pt,.own it.t it.E)) ys x) ⟨n,[],[]⟩) b w:=by
  subst hB;refine zgv (vs:=g) (kp:=⟨n,[],[]⟩) hI hK (znz hI (λ_ he=>jp he H1) (λe he=>hE.o2 e he) (λ_ he=>jp he H1) λe he o hf=>hE.r2 e he o hf) ?_;have e1:QZ (λj=>g<|n+j) (uI pt it.t it.E ds).ds (IU (a:=(pt,.own it.t it.E)) ys x) 0=mO it.t.rep it.E v ys::QZ (λj=>XP u<|n+j) ds x 0:=by
   refine(PS (U:=λj=>g<|n+j) (a:=(pt,.own it.t it.E)) (l:=ds) (y:=ys) (x:=x) (i:=0)).trans ?_;show mO it.t.rep it.E (g<|n+0) ys::QZ _ ds x (0+1)=_;rw[xbT,b1,nG (U:=λj=>g<|n+j) (V:=λj=>XP u<|n+j) (i:=0+1) (k:=0) λj _=>by
    show g (n+(0+1+j))=XP u (n+(0+j));rw[(W:0+1+j=j+1),a7,xaD]]
  have e2:MS g cp.ob=MS (XP u) wl.ob:=by rw[hc];exact wC λe he=>a6 _<|ho e he
  show St we Se (QZ (λj=>g<|n+j) (uI pt it.t it.E ds).ds (IU (a:=(pt,.own it.t it.E)) ys x) 0++([]++(MS g cp.ob++([]++(fK l L::qy D::F))))) ([]++(RS P g b cp.rg++G)) w;rw[e1,e2];have h2:St we Se (mO it.t.rep it.E v ys::QZ (λj=>XP u<|n+j) ds x 0++([]++(MS (XP u) wl.ob++([]++(fK l L::qy D::F))))) (RS P (XP u) H wl.rg++G) w:=by
   refine h1.perm ?_;simp only[xbM,xbL];have p1:(fK l L::qy D::(QZ (λj=>XP u<|n+j) ds x 0++(MS (XP u) wl.ob++mO it.t.rep it.E v ys::F))).Perm (mO it.t.rep it.E v ys::(fK l L::qy D::(QZ (λj=>XP u<|n+j) ds x 0++(MS (XP u) wl.ob++F)))):=by have:=xca (a:=mO it.t.rep it.E v ys) (l₁:=fK l L::qy D::(QZ (λj=>XP u<|n+j) ds x 0++MS (XP u) wl.ob)) (l₂:=F);simpa only[xbL,xar]using this
   refine p1.trans<|xfA _ ?_;have p2:([fK l L,qy D]++((QZ (λj=>XP u<|n+j) ds x 0++MS (XP u) wl.ob)++F)).Perm ((QZ (λj=>XP u<|n+j) ds x 0++MS (XP u) wl.ob)++([fK l L,qy D]++F)):=xdW ..;simpa only[xbL,xar,xbM]using p2
  refine h2.weak (Δ:=RS P g b cp.rg++G) λS w ha=>zC.append ?_<|zC.right ha;rw[hc];show zC S (RS P g b<|C2 (uI pt it.t it.E ds).ds n++wl.rg) w;rw[ll];refine zC.append (zjy (i:=0) hI λj t f T=>by rw[xaD];exact hK j t f T) ?_;rw[uv (vs:=XP u) (H:=H) (λe he o hf=>a6 o<|hr e he o hf) a5];exact zC.left ha
 have⟨N1,hg⟩:∃N1:Nd,N1=⟨N,[],some l⟩:=⟨_,O⟩;have hS:(⟨tmps.setIfInBounds pt v,[]⟩:V6).tmps.size=N1.n:=by rw[hg];simpa using hZ
 have hT:ya ⟨tmps.setIfInBounds pt v,[]⟩=b:=by have:=WH (a:=⟨tmps,[]⟩) (d:=Z pt) (v:=v) (λt ht=>by cases ht;show pt<tmps.size;lia);rw[hu,<-hP];exact this
 subst hB
 have b3:=hA (N:=N1) (fr:=⟨we,Se,fK l L::qy D::F,G⟩) (Ds:=[]) (by rw[hg]) (.inr hX) (show den cf a cp _ _=Z (Y,q)from by rw[hc];exact hq)
  (Q:=λe a0 i8 w'=>e=.normal/\∃m6,den cf c cp m6 (zok cp ds it.t it.E pt τ)=Z (Y,q)/\oH cp b i8/\uK P (Fr.wd ⟨we,Se,fK l L::qy D::F,G⟩ a0) cp m6 i8 w')
  (λt m6 hk a0 i8 w' hs hR=>by
   cases t with
   |n=>exact⟨O,m6,by rw[hc];exact hk,hs,hR⟩
   |x i=>cases hk
   |r=>cases hk
   |p q=>cases hk) b2
 have hU:=b3 ⟨tmps.setIfInBounds pt v,[]⟩ hS (by rw[hg];rfl) hT;rw[hg]at hU;refine WD hU ?_;rintro e a1 w1 ⟨q1,a0,q2,rfl,m6,hk,hs,hR⟩;have b4:w1.heap[l]? =Z (.loop L):=PC hR (m:=fK l L) (xab.2 (.inr<|IR)) λS hp=>hp;refine⟨w1.putObj l (.loop M),by rw[hH];exact run_beginRound b4 (by rw[hn]),?_⟩;have b5:uK P (Fr.wd ⟨we,Se,fK l M::qy D::F,G⟩ a0) cp m6 (ya a1) (w1.putObj l (.loop M)):=MH (A:=a0.map qy) (m:=fK l L) (m':=fK l M) (B:=qy D::F) hR (λk=>Iff.rfl) (λk h=>h) λS w' h=>h
 have b6:=hC (N:=N1) (fr:=⟨we,Se,fK l M::qy D::F,G⟩) (Ds:=a0) (by rw[hg]) (.inr hY) hk
  (Q:=λe C i8 w'=>∃t J,e=tgE t/\zok cp ds it.t it.E pt τ t J=Z (Y,q)/\oH cp (ya a1) i8/\uK P (Fr.wd ⟨we,Se,fK l M::qy D::F,G⟩ C) cp J i8 w')
  (λt J hk C i8 w' hs hR=>⟨t,J,O,hk,hs,hR⟩) b5
 have hV:=b6 a1 (by rw[hg];exact q1) (by rw[hg];exact q2) O;rw[hg]at hV;refine WD hV ?_;rintro e a2 w2 ⟨p1,C,p2,t,J,rfl,hd,b7,hv⟩;have hN:w2.heap[l]? =Z (.loop M):=PC hv (m:=fK l M) (xab.2 (.inr<|IR)) λS hp=>hp;have hO:=hs.trans b7
 have R:∀(z:J7 (uI pt it.t it.E ds).ds) (rc:iP),uK P (Fr.wd ⟨we,Se,fK l M::qy D::F,G⟩ C) cp (Kp (uI pt it.t it.E ds) z ⟨n+(uI pt it.t it.E ds).ds.length,[],[]⟩) (ya a2) w2->
  ∃u',St we Se (zfH P H wl n ds D l rc (om z).2 u'::mO it.t.rep it.E v (om z).1::F) G (w2.putObj l (.loop rc)):=by
  intro z rc hw;have b9:=MH (A:=C.map qy) (m:=fK l M) (m':=fK l rc) (B:=qy D::F) hw (λk=>Iff.rfl) (λk h=>h) (o:=.loop rc) λS w' h=>h;have⟨vs2,hF,c3,hL⟩:=zd2 (ds:=(uI pt it.t it.E ds).ds) hI b9;have⟨m,c0⟩:∃m,m=n+(uI pt it.t it.E ds).ds.length:=⟨_,O⟩;rw[<-c0]at hF hL;have z0:vs2 m=v:=by have h2:ya a2 pt=vs2 (m+0):=hF 0 pt (.own it.t it.E) O;have⟨e,he,h3⟩:=Gk (ds:=(uI pt it.t it.E ds).ds) (n:=n) (j:=0) (t:=pt) (f:=.own it.t it.E) O;have h4:=hO e (by rw[hc];exact xab.2 (.inl he));rw[h3,a4]at h4;rw[xbT]at h2;exact h2.symm.trans h4
  have⟨s,hM⟩:∃s:wL->wW,s=λk=>if k<n then vs2 k else vs2 (m+1+(k-n)):=⟨_,O⟩;have a9:∀k,k<n->s k=vs2 k:=λk hk=>by rw[hM];exact iq hk
  have b0:∀j,s (n+j)=vs2 (m+(j+1)):=λj=>by
   rw[hM];simp only;rw[zG,(W:m+1+(n+j-n)=m+(j+1))]
  have hW:U7 ds H λj=>s (n+j):=by intro j t f T;have h2:=hF (j+1) t f (by simpa[uI]using T);have⟨e,he,h3⟩:=Gk (ds:=(uI pt it.t it.E ds).ds) (n:=n) (j:=j+1) (t:=t) (f:=f) (by simpa[uI]using T);have h4:=hO e (by rw[hc];exact xab.2 (.inl he));rw[h3,a3 t<|hQ T]at h4;show BR f (H t) (s<|n+j);rw[b0,<-h4];exact h2
  refine⟨_,zh7 (F:=mO it.t.rep it.E v (om z).1::F) hW ho hr ?_⟩;have e1:QZ (λj=>vs2<|m+j) (uI pt it.t it.E ds).ds z 0=mO it.t.rep it.E v (om z).1::QZ (λj=>s<|n+j) ds (om z).2 0:=by
   refine(Z2 (λz=>QZ (λj=>vs2<|m+j) (uI pt it.t it.E ds).ds z 0)<|zhR (a:=(pt,.own it.t it.E)) (l:=ds) z).trans ?_;refine(PS (U:=λj=>vs2<|m+j) (a:=(pt,.own it.t it.E)) (l:=ds) (y:=(om (a:=(pt,.own it.t it.E)) z).1) (x:=(om (a:=(pt,.own it.t it.E)) z).2) (i:=0)).trans ?_;show mO it.t.rep it.E (vs2<|m+0) (om z).1::QZ _ ds (om z).2 (0+1)=_;rw[xbT,z0,nG (U:=λj=>vs2<|m+j) (V:=λj=>s<|n+j) (i:=0+1) (k:=0) λj _=>by
    show vs2 (m+(0+1+j))=s (n+(0+j));rw[(W:0+1+j=j+1),xaD,b0]]
  have e2:MS vs2 cp.ob=MS s wl.ob:=by rw[hc];exact wC λe he=>(a9 _<|ho e he).symm
  have h5:St we Se (QZ (λj=>vs2<|m+j) (uI pt it.t it.E ds).ds z 0++(MS vs2 cp.ob++(C.map qy++fK l rc::qy D::F))) (RS P vs2 (ya a2) cp.rg++G) (w2.putObj l (.loop rc)):=hL;rw[e1,e2]at h5;have h6:St we Se ((mO it.t.rep it.E v (om z).1::QZ (λj=>s<|n+j) ds (om z).2 0++MS s wl.ob)++(fK l rc::qy D::F)) (RS P vs2 (ya a2) cp.rg++G) (w2.putObj l (.loop rc)):=St.dropM (B:=C.map qy) (by simpa only[xar]using h5);have h7:St we Se (fK l rc::qy D::(QZ (λj=>s<|n+j) ds (om z).2 0++(MS s wl.ob++(mO it.t.rep it.E v (om z).1::F)))) (RS P vs2 (ya a2) cp.rg++G) (w2.putObj l (.loop rc)):=by refine h6.perm ?_;have p1:((QZ (λj=>s<|n+j) ds (om z).2 0++MS s wl.ob)++([fK l rc,qy D]++F)).Perm ([fK l rc,qy D]++((QZ (λj=>s<|n+j) ds (om z).2 0++MS s wl.ob)++F)):=xdW ..;have p2:=xca (a:=mO it.t.rep it.E v (om z).1) (l₁:=fK l rc::qy D::(QZ (λj=>s<|n+j) ds (om z).2 0++MS s wl.ob)) (l₂:=F);have p3:=(p1.cons<|mO it.t.rep it.E v (om z).1).trans (by simpa only[xbL,xar,xbM]using p2.symm);simpa only[xbL,xar,xbM]using p3
  refine h7.weak λS w ha=>zC.append ?_<|zC.right ha;have h8:zC S (RS P vs2 (ya a2)<|C2 (uI pt it.t it.E ds).ds n++wl.rg) w:=by have:=zC.left ha;rw[hc]at this;exact this
  rw[ll]at h8;rw[uv (vs:=vs2) (H:=ya a2) (λe he o hf=>a9 o<|hr e he o hf) λe he=> ?_];exact zC.right h8;have h4:=hO e (by rw[hc];exact xab.2 (.inr he));rw[a5 e he]at h4;exact h4.symm
 cases t with
 |n=>
  have⟨z,hz,hi⟩:=oU (P:=P) (cx:=cp) (kp:=⟨n+(uI pt it.t it.E ds).ds.length,[],[]⟩) (show dh (qV cp ⟨n+(uI pt it.t it.E ds).ds.length,[],[]⟩) (uI pt it.t it.E ds) J (λz=>Z ((om z).1,Sum.inl (om z).2))=Z (Y,q)from by rw[hc]at hd⊢;exact hd) hE;cases hz;have hw:=hi (Fr.wd ⟨we,Se,fK l M::qy D::F,G⟩ C) (ya a2) w2 (by rw[hc]at hv⊢;exact hv);refine⟨_,_,iI wS hN,O,?_⟩;have hG:({M with state:=if(wS:wN Wn).isNone then .ready else .done,pending:=wS}:iP)=L:=by rw[hH,hn];rfl
  rw[hG];exact R z L hw
 |x i=>
  have⟨ht,hd⟩:=yf hd;have⟨z,hz,hi⟩:=oU (P:=P) (cx:=cp) (kp:=⟨n+(uI pt it.t it.E ds).ds.length,[],[]⟩) (show dh (qV cp ⟨n+(uI pt it.t it.E ds).ds.length,[],[]⟩) (uI pt it.t it.E ds) J (λz=>Z ((om z).1,Sum.inr (om z).2))=Z (Y,q)from by rw[hc]at hd⊢;exact hd) hE;cases hz;have hw:=hi (Fr.wd ⟨we,Se,fK l M::qy D::F,G⟩ C) (ya a2) w2 (by rw[hc]at hv⊢;exact hv);refine⟨_,_,iI (Z (.exit i)) hN,O,?_⟩;have hG:({M with state:=if(Z<|Code.exit i).isNone then .ready else .done,pending:=Z (.exit i)}:iP)={state:=.done,pending:=Z<|tgC τ,fn:=fn,tmps:=tmps,params:= #[pt],assign:=a,body:=c,defers:=D}:=by rw[hH,hn,zjz (λ_ e=>by cases e) ht];rfl
  rw[hG];exact R z _ hw
 |r=>
  have⟨ht,hd⟩:=yf hd;have⟨z,hz,hi⟩:=oU (P:=P) (cx:=cp) (kp:=⟨n+(uI pt it.t it.E ds).ds.length,[],[]⟩) (show dh (qV cp ⟨n+(uI pt it.t it.E ds).ds.length,[],[]⟩) (uI pt it.t it.E ds) J (λz=>Z ((om z).1,Sum.inr (om z).2))=Z (Y,q)from by rw[hc]at hd⊢;exact hd) hE;cases hz;have hw:=hi (Fr.wd ⟨we,Se,fK l M::qy D::F,G⟩ C) (ya a2) w2 (by rw[hc]at hv⊢;exact hv);refine⟨_,_,iI (Z .ret) hN,O,?_⟩;have hG:({M with state:=if(Z Code.ret).isNone then .ready else .done,pending:=Z .ret}:iP)={state:=.done,pending:=Z<|tgC τ,fn:=fn,tmps:=tmps,params:= #[pt],assign:=a,body:=c,defers:=D}:=by rw[hH,hn,zjz (λ_ e=>by cases e) ht];rfl
  rw[hG];exact R z _ hw
 |p q=>cases hd
end
end
section
section
variable{P:uS}{cf:Cf}{fr:Fr}{cx σ:Sg}{H:xj}{w:qR}{R:Type}{r:R}
def zmT(hX:BZ P cf){g:ul}{a c:Wn}{N:Nd}{K:Tg->Sg->V R}{Q:Qd}{s:Lp}{it:HK}{y:cj it.dom}{τ:Tg}{pt:wL}{ags:ww wL}{cs:ww PD}{Ds:ww wL}
 (hA:LP P cf N.n a) (hC:LP P cf N.n c) (hS:OU a=wT) (hT:OU c=wT) (hU:N.rd=wS) (hV:pt<N.n) (hg:xA cx σ g=Z (.fn it.f cs)) (hY:it∈cf.is) (hy:eV it.dom cs=Z y) (hv:s.hd.ns=[])
 (h:zbI cx σ K s it y τ pt ags (λcx σ K=>den cf a cx σ K) (λcx σ K=>den cf c cx σ K)=Z r)
 (hK:∀t m6,K t m6=Z r->∀Ds' i8 w',oH cx H i8->uK P (fr.wd Ds') cx m6 i8 w'->Q (tgE t) Ds' i8 w') (hR:uK P (fr.wd Ds) cx σ H w):L4 P N (.rangeFunc g #[pt] a c) Q Ds H w:=by
 obtain⟨⟨ds,ns⟩,sg⟩:=s;simp only at hv;subst hv;obtain⟨h',hz⟩:=Oh hy;obtain⟨hB,vs,hD⟩:=hR;obtain⟨S0,_,hΓ⟩:=hD.ex;obtain⟨cvs,hE,h9,hca⟩:=zj hg<|zO hΓ g;have hZ:uK P ⟨fr.we,fr.Se,Ds.map qy++fr.F,jC P it.dom y cvs++fr.G⟩ cx σ H w:=⟨hB,vs,hD.weak λS w ha=>zC.append (zC.left ha) (zC.append (zC.left<|zC.right ha) (zC.append (by
  obtain⟨cvs',hF,h0,hG⟩:=zj hg<|zO ha g;rw[hE]at hF;have:cvs=cvs':=by simpa using hF
  subst this;exact hz h0 hG) (zC.right (zC.right ha))))⟩
 unfold zbI at h;simp only at h;obtain⟨hi,h⟩:=yf h;simp only[xae]at hi;obtain⟨hm,⟨hH,h5⟩,hl⟩:=hi;obtain⟨hc,hI⟩:=Fe (ag:=ags) (ro:=sg.ro) hZ;obtain⟨kp,h6⟩:∃kp,kp=keep σ ags sg.ro:=⟨_,O⟩;rw[<-h6]at h hc hI hl;obtain⟨x0,h1,h2⟩:=oU (P:=P) (cx:=qV cx kp) (kp:=⟨kp.nx,[],[]⟩) h<|NN hc;obtain⟨r',h3,h4⟩:=CA h1;obtain⟨vs0,hJ,hB0,hL⟩:=zd2 (ds:=ds) hm<|h2 _ H w hI;obtain⟨hb,hM⟩:=hX.is it hY;have ho:∀e∈(qV cx kp).ob,e.1<kp.nx:=λe he=>by
  rcases xab.1 he with he|he
  ·exact hc.o1 e he
  ·exact hc.o2 e he
 have hr:∀e∈(qV cx kp).rg,∀o,vv e.2.2=Z o->o<kp.nx:=λe he o hf=>by
  rcases xab.1 he with he|he
  ·exact hc.r1 e he o hf
  ·exact hc.r2 e he o hf
 intro a0 g1 g2 g3;refine wpIn_rangeFunc ?_;intro fn hfn;rw[show N.F.round=wS from hU];obtain⟨rR,hj⟩:∃rR:iP,rR={state:=.ready,pending:=wS,fn:=fn,tmps:=a0.tmps,params:= #[pt],assign:=a,body:=c,defers:=w.heap.size}:=⟨_,O⟩;obtain⟨rD,hn⟩:∃rD:iP,rD={state:=.done,pending:=Z<|tgC τ,fn:=fn,tmps:=a0.tmps,params:= #[pt],assign:=a,body:=c,defers:=w.heap.size}:=⟨_,O⟩;have hN:=run_enterLoop_outer (P:=P) (w:=w) fn a0.tmps #[pt] a c;rw[<-hj]at hN;have hW:St fr.we fr.Se (fK (w.heap.size+1) rR::qy w.heap.size::(QZ (λj=>vs0<|kp.nx+j) ds x0 0++(MS vs0 (qV cx kp).ob++(Ds.map qy++fr.F)))) (RS P vs0 H (qV cx kp).rg++(jC P it.dom y cvs++fr.G)) ((w.alloc (.deferred<|some [])).alloc (.loop rR)):=by
  have q1:=St.allocObj (o:=.deferred<|some []) (m:=qy w.heap.size) hL (λk hk=>hk)<|λS w' hw=>hw;have hO:(w.alloc (.deferred<|some [])).heap.size=w.heap.size+1:=World.size_alloc ..;refine St.allocObj (o:=.loop rR) (m:=fK (w.heap.size+1) rR) q1 (λk hk=>by rw[hO];exact hk)<|λS w' hw=> ?_;rw[hO]at hw;exact hw
 have h7:=zh7 (x:=x0) hJ ho hr hW;have hP:=zkP (P:=P) (cf:=cf) (wl:=qV cx kp) (H:=H) (n:=kp.nx) (D:=w.heap.size) (l:=w.heap.size+1) (ds:=ds) (it:=it) (pt:=pt) (τ:=τ) (a:=a) (c:=c) (N:=N.n) (fn:=fn) (tmps:=a0.tmps) hA hC hS hT hV g1 g3 hm h5 hl ho hr;rw[<-hj,<-hn]at hP;have hq:=hM y _ _ _ _ _ x0 r' h3 (w.heap.size+1) cvs (by lia) hP _ fr.we fr.Se _ fr.G _ h7
 have close:∀(rc:iP) (x:J7 ds) (u':wW) (w3:qR),St fr.we fr.Se (zfH P H (qV cx kp) kp.nx ds w.heap.size (w.heap.size+1) rc x u'::(Ds.map qy++fr.F)) fr.G w3->
  w3.heap[w.heap.size+1]? =Z (.loop rc)/\∀o,uK P (fr.wd (w.heap.size::Ds)) cx (Kp ⟨ds,[]⟩ x kp) H (w3.putObj (w.heap.size+1) (.loop o)):=by
  intro rc x u' w3 hs;obtain⟨h8,q1⟩:=zcy hs;refine⟨wE q1 (i:=0) O λS hp=>hp,λo=> ?_⟩;have q2:=St.putObj (m':=fK (w.heap.size+1) o) (o:=.loop o) q1 (λk=>Iff.rfl) (λk hk=>hk)<|λS w' hw=>hw;have q3:St fr.we fr.Se ([qy w.heap.size]++(QZ (λj=>XP u'<|kp.nx+j) ds x 0++(MS (XP u') (qV cx kp).ob++(Ds.map qy++fr.F)))) (RS P (XP u') H (qV cx kp).rg++fr.G) (w3.putObj (w.heap.size+1) (.loop o)):=St.drop (i:=0) q2;refine zgv (vs:=XP u') hm h8 (znz hm (λe he=>xag (hc.o1 e he)<|xbH _ _) (λe he=>xag (hc.o2 e he)<|xbH _ _) (λe he o hf=>xag (hc.r1 e he o hf)<|xbH _ _) λe he o hf=>xag (hc.r2 e he o hf)<|xbH _ _) ?_;have e1:MS (XP u') (qV cx kp).ob=MS (XP u') kp.ob++MS (XP u') cx.ob:=xaO;have e2:RS P (XP u') H (qV cx kp).rg=RS P (XP u') H kp.rg++RS P (XP u') H cx.rg:=xaO;rw[e1,e2]at q3;have q4:St fr.we fr.Se ((QZ (λj=>XP u'<|kp.nx+j) ds x 0++(MS (XP u') kp.ob++MS (XP u') cx.ob))++([qy w.heap.size]++(Ds.map qy++fr.F))) ((RS P (XP u') H kp.rg++RS P (XP u') H cx.rg)++fr.G) (w3.putObj (w.heap.size+1) (.loop o)):=by
   refine q3.perm ?_;rw[<-xar<|QZ _ _ _ _];exact xdW ..
  show St fr.we fr.Se (QZ _ ds x 0++(MS (XP u') kp.ob++(MS (XP u') cx.ob++((qy w.heap.size::Ds.map qy)++fr.F)))) (RS P (XP u') H kp.rg++(RS P (XP u') H cx.rg++fr.G)) _;simpa only[xar,xbL,xbM]using q4
 refine⟨w.heap.size+1,[Ri w.heap.size],((w.alloc (.deferred<|some [])).alloc (.loop rR)),{target:=.fn (.func it.f) cvs.toArray,args:= #[.func (.yield<|w.heap.size+1) #[] #[]]},((w.alloc (.deferred<|some [])).alloc (.loop rR)),it.f,#[.func (.yield<|w.heap.size+1) #[] #[]]++cvs.toArray,((w.alloc (.deferred<|some [])).alloc (.loop rR)),hN,?_,λ_ _=>jP,?_,λe=>by simp[Nd.F,xcR]at e,?_⟩
 ·have:a0.eval g=.func (.func it.f) #[] cvs.toArray:=by rw[Uo,g3];exact hE
  simp only[WN,this];simp[go_sem]
 ·simp[V1,go_sem,qb hb]
 ·have ht:(#[.func (.yield<|w.heap.size+1) #[] #[]]++cvs.toArray:Z3 wW)=(Value.func (.yield<|w.heap.size+1) #[] #[]::cvs).toArray:=by simp
  rw[ht];refine CallsIn.mono (callsIn_wide.2 hq) ?_;rintro e w3 ⟨⟨v,rfl⟩,u',hs⟩
  cases hQ:r' with
  |inl x=>
   rw[hQ]at hs h4;obtain⟨hu,hd⟩:=close rR x u' w3 hs;refine⟨wS,_,by have:=run_endLoop (P:=P) hu (by rw[hj];simp);rw[hj]at this;exact this,?_⟩;exact⟨g1,w.heap.size::Ds,by show[Ri w.heap.size]++a0.defers=_;rw[g2];rfl,hK .n _ h4 _ _ _ (by rw[<-g3];exact oH.refl)<|by rw[<-g3]at hd;exact hd _⟩
  |inr x=>
   rw[hQ]at hs h4;obtain⟨hu,hd⟩:=close rD x u' w3 hs;refine⟨Z<|tgC τ,_,by have:=run_endLoop (P:=P) hu (by rw[hn];simp);rw[hn]at this;exact this,?_⟩;have fin:∀o,znV N Q (tgE τ) {a0 with defers:=[Ri w.heap.size]++a0.defers} (w3.putObj (w.heap.size+1) (.loop o)):=λo=>⟨g1,w.heap.size::Ds,by show[Ri w.heap.size]++a0.defers=_;rw[g2];rfl,hK τ _ h4 _ _ _ (by rw[<-g3];exact oH.refl)<|by rw[<-g3]at hd;exact hd _⟩
   cases τ with
   |n=>exact wpIn_skip<|fin _
   |x i=>exact wpIn_exit<|fin _
   |r=>exact wpIn_ret<|fin _
   |p q=>cases hH
end
end
section
section
variable{P:uS}{cf:Cf}
def Ym(D:P.follows .mixedOrders=wT)(E:yT P cf.tt)(F:uf P cf.tt)(J:∀s∈cf.cs,yU P s)(C:BZ P cf){n:wL}:∀(c:Wn),PK n c=wT->LP P cf n c
 |.skip,_,R,r,fr,cx,σ,K,Q,N,z,B,h,Ds,H,w,o,d=>λ_ h1 L T=>wpIn_skip ⟨h1,Ds,L,T▸o .n σ h Ds H w oH.refl d⟩
 |.label _,_,R,r,fr,cx,σ,K,Q,N,z,B,h,Ds,H,w,o,d=>λ_ h1 L T=>wpIn_label ⟨h1,Ds,L,T▸o .n σ h Ds H w oH.refl d⟩
 |.exit id,_,R,r,fr,cx,σ,K,Q,N,z,B,h,Ds,H,w,o,d=>λ_ h1 L T=>wpIn_exit ⟨h1,Ds,L,T▸o (.x id) σ h Ds H w oH.refl d⟩
 |.ret,_,R,r,fr,cx,σ,K,Q,N,z,B,h,Ds,H,w,o,d=>λ_ h1 L T=>wpIn_ret ⟨h1,Ds,L,T▸o .r σ h Ds H w oH.refl d⟩
 |.scope c,v,R,r,fr,cx,σ,K,Q,N,z,B,h,Ds,H,w,o,d=>by
  refine zeu<|Ym D E F J C c v (K:=K) z B h (λt m6 u i m w' A d=> ?_) d;have:=o t m6 u i m w' A d;cases t<;>exact this
 |.region id a5 dr,v,R,r,fr,cx,σ,K,Q,N,z,B,h,Ds,H,w,o,d=>by
  subst z;refine zoi ?_;have:=E6 (id:=id) (N:=N.wd Ds) (fr:=fr.wd Ds) D E F J C (Q:=λe H w=>Q e Ds H w) (kp:=λq σ=>K (.p q) σ) (k:=λσ=>K .n σ) (λq m6 u m w' A d=>o (.p q) m6 u Ds m w' A d) (λm6 u m w' A d=>o .n m6 u Ds m w' A d) v h d;rwa[xcy]at this
 |.cond c a b,v,R,r,fr,cx,σ,K,Q,N,z,B,h,Ds,H,w,o,d=>by
  have v:=(xae _ _).mp v;have hd:N.rd=wS\/OU a=wT:=B.imp id λh=>((xae _ _).mp h).1;have hf:N.rd=wS\/OU b=wT:=B.imp id λh=>((xae _ _).mp h).2;simp only[den]at h;have⟨hB,vs,ht⟩:=d;have d:uK P (fr.wd Ds) cx σ H w:=⟨hB,vs,ht⟩;have⟨S,_,a0⟩:=ht.ex;split at h
  next hv=>exact EY (zj hv<|zO a0 c)<|Ym D E F J C a v.1 z hd h o d
  next hv=>exact Gb (zj hv<|zO a0 c)<|Ym D E F J C b v.2 z hf h o d
  rename_i x hv;have hx:ev H c=.bool x:=sO<|zj hv<|zO a0 c;rcases Sa h with⟨rfl,h⟩|⟨rfl,h⟩
  exact EY hx<|Ym D E F J C a v.1 z hd h o d;exact Gb hx<|Ym D E F J C b v.2 z hf h o d;cases h
 |.block id c,v,R,r,fr,cx,σ,K,Q,N,z,B,h,Ds,H,w,o,d=>by
  refine Lq (Ym D E F J C c v (K:=λt σ=>match t with
   |.x j=>PG (xah j id) (K .n σ)<|K (.x j) σ
   |t=>K t σ) z B h (λt m6 u i m w' A d=> ?_) d)
  cases t with
  |n=>exact o .n m6 u i m w' A d
  |r=>exact o .r m6 u i m w' A d
  |p q=>exact o (.p q) m6 u i m w' A d
  |x j=>
   simp only at u;show OB id Q (.exit j) i m w';simp only[OB];cases hb:xah j id<;>rw[hb]at u
   exact o (.x j) m6 u i m w' A d;exact o .n m6 u i m w' A d
 |.seq a b,v,R,r,fr,cx,σ,K,Q,N,z,B,h,Ds,H,w,o,d=>by
  have v:=(xae _ _).mp v;have hd:N.rd=wS\/OU a=wT:=B.imp id λh=>((xae _ _).mp h).1;have hf:N.rd=wS\/OU b=wT:=B.imp id λh=>((xae _ _).mp h).2;simp only[den]at h;split at h;refine Dx<|Ym D E F J C a v.1 z hd h (λt m6 u i m w' A d=> ?_) d
  cases t with
  |n=>exact Ym D E F J C b v.2 z hf u (λt a1 hj a2 M w2 hn hp=>o t a1 hj a2 M w2 (A.trans hn) hp) d
  |x j=>exact o (.x j) m6 u i m w' A d
  |r=>exact o .r m6 u i m w' A d
  |p q=>exact o (.p q) m6 u i m w' A d
  rename_i s A;have⟨x,h1,L⟩:=CA h;have⟨hc,hq⟩:=Fe (ag:=Hb a) (ro:=s.ro) d
  refine Dx (zka (Ym D E F J C a v.1 (Q:=λe Ds m w=>∃t l,e=tgE t/\(match t with
   |.n=>den cf b cx l K
   |t=>K t l)=Z r/\oH cx H m/\uK P (fr.wd Ds) cx l m w) z hd h1 (λt m6 u i m w' A d=> ?_) hq) ?_)
  have⟨y,l,e1,U,Y⟩:=SE (P:=P) hc u;cases e1
  have e4:=(U λt σ=>match t with
   |.n=>den cf b cx σ K
   |t=>K t σ).symm.trans L
  exact⟨t,l,O,by cases t<;>exact e4,λe he=>A e<|xab.2 (.inr he),Y _ m w' d⟩;rintro e i m w' ⟨t,l,rfl,u,hi,d⟩
  cases t with
  |n=>exact Ym D E F J C b v.2 z hf u (λt a1 hj a2 M w2 hn hp=>o t a1 hj a2 M w2 (hi.trans hn) hp) d
  |x j=>exact o (.x j) l u i m w' hi d
  |r=>exact o .r l u i m w' hi d
  |p q=>exact o (.p q) l u i m w' hi d
 |.loop c,v,R,r,fr,cx,σ,K,Q,N,z,B,h,Ds,H,w,o,d=>by
  simp only[den]at h;split at h;cases h
  rename_i s A;have⟨hc,hq⟩:=Fe (ag:=Hb c) (ro:=s.sg.ro) d;have⟨x,h1,L⟩:=oU (P:=P) (cx:=qV cx<|keep σ (Hb c) s.sg.ro) (kp:=⟨(keep σ (Hb c) s.sg.ro).nx,[],[]⟩) h<|NN hc;have⟨s0,T,h4⟩:=CA h1;refine TZ (G:=wL×J7 s.hd.ds) (λg Ds m w=>zg _ g.1 g.2=Z s0/\oH cx H m/\uK P (fr.wd Ds) (qV cx<|keep σ (Hb c) s.sg.ro) (Kp s.hd g.2 ⟨(keep σ (Hb c) s.sg.ro).nx,[],[]⟩) m w) (λg=>g.1) (cf.fu,x) ⟨T,oH.refl,L _ H w hq⟩ ?_;rintro⟨n',x⟩ Ds a4 w ⟨hl,hA,d⟩
  cases n' with
  |zero=>exact(zdM hl).elim
  |succ n'=>
   refine Ym D E F J C c v z B (zcV hl) (λt m6 u i m w' A d=> ?_) d;have hu:oH cx H m:=hA.trans λe he=>A e<|xab.2 (.inr he);have a3:(∀(y:SmD s.sg.tg) (l:Sg),Z y=Z s0->(∀{R':Type} (K:Tg->Sg->V R'),RI (keep σ (Hb c) s.sg.ro) K s.sg.tg y=K t l)->uK P (fr.wd i) cx l m w'->Q (tgE t) i m w'):=λy l e1 U Y=>by
    cases e1;exact o t l (by rw[<-h4];exact(U K).symm) i m w' hu Y
   cases t with
   |n=>
    have⟨x',h5,h6⟩:=oU (P:=P) (cx:=qV cx<|keep σ (Hb c) s.sg.ro) (kp:=⟨(keep σ (Hb c) s.sg.ro).nx,[],[]⟩) u<|NN hc;exact⟨(n',x'),⟨h5,hu,h6 _ m w' d⟩,xdL n'⟩
   |x j=>
    have⟨y,l,e1,U,Y⟩:=SE (P:=P) hc u;exact a3 y l e1 U<|Y _ m w' d
   |r=>
    have⟨y,l,e1,U,Y⟩:=SE (P:=P) hc u;exact a3 y l e1 U<|Y _ m w' d
   |p q=>
    have⟨y,l,e1,U,Y⟩:=SE (P:=P) hc u;exact a3 y l e1 U<|Y _ m w' d
 |.rangeFunc g ps a c,v,R,r,fr,cx,σ,K,Q,N,z,B,h,Ds,H,w,o,d=>by
  have v:=(xae _ _).mp v;have hw:=(xae _ _).mp v.2;simp only[den]at h;split at h;rename_i f cs s pt hg A hI;split at h;rename_i it τ sh hD hJ hE;split at h;rename_i y hy;have⟨hr,h⟩:=yf h;rw[xae]at hr;have⟨hF,hG⟩:=zg6 hD;subst hG;have hz:ps= #[pt]:=by cases ps;simp_all
  subst hz;have hH:pt<n:=by have:=v.1;simpa using this
  subst z;exact zmT C (Ym D E F J C a hw.1) (Ym D E F J C c hw.2) hr.1 hr.2 (B.resolve_right<|by simp[OU]) hH hg hF hy hE h o d;cases h
  cases h
  cases h
 |.refuse _,_,R,r,fr,cx,σ,K,Q,N,z,B,h,_,_,_,_,_=>by cases h
 |.goto _,_,R,r,fr,cx,σ,K,Q,N,z,B,h,_,_,_,_,_=>by cases h
end
end
section
def wY:N K->qR->qR
 |[],w=>w
 |D::Ds,w=>wY Ds<|w.putObj D (.deferred wS)
def lS:N K->qR->Prop
 |[],_=>Wr
 |D::Ds,w=>w.heap[D]? =Z (.deferred<|some [])/\lS Ds (w.putObj D (.deferred wS))
def mTk(D:K):MF where
 blk k:=k=D
 p _ w:=w.heap[D]? =Z (.deferred wS)
 keep h _ hb:=(hb D O).trans h
 sub h _:=h
 lt h k a:=by subst a;exact(xbi.1 h).1
section
variable{P:uS}{cf:Cf}{fr:Fr}{cx σ:Sg}{H:xj}
def Yq:∀{Ds:N K}{w:qR},uK P (fr.wd Ds) cx σ H w->lS Ds w/\uK P fr cx σ H (wY Ds w)
 |[],w,h=>⟨jP,h⟩
 |D::Ds,w,h=>by
  have h1:=PC h (IR) λS hp=>hp;have c:=MH (A:=[]) (m':=mTk D) h (λk=>Iff.rfl) (λk h=>h) λS w' h=>h;have d:uK P (fr.wd Ds) cx σ H (w.putObj D (.deferred wS)):=by
   have⟨e,vs,f⟩:=c;refine⟨e,vs,?_⟩;have a:St fr.we fr.Se ((MS vs σ.ob++MS vs cx.ob)++([mTk D]++(Ds.map qy++fr.F))) (RS P vs H σ.rg++(RS P vs H cx.rg++fr.G)) (w.putObj D (.deferred wS)):=by simp_all
   have b:=St.dropM a;show St fr.we fr.Se (MS vs σ.ob++(MS vs cx.ob++(Ds.map qy++fr.F))) (RS P vs H σ.rg++(RS P vs H cx.rg++fr.G)) _;simp_all
  have⟨a,b⟩:=Yq d;exact⟨⟨h1,a⟩,b⟩
def Xf{F:oS}{n:K}{fn:WT}{tmps:Z3 wW}{Q:fD->qR->Prop}:∀{Ds:N K}{w:qR},lS Ds w->(∃v,(V4 fn tmps).run P (wY Ds w)=.ok v (wY Ds w)/\Q (.returned v) (wY Ds w))->V0 F n P fn tmps Q (Ds.map Ri) .returning w
 |[],w,_,h=>h
 |D::Ds,w,a,h=>⟨rC,.inl ⟨D,_,O,bV a.1,Xf a.2 h⟩⟩
def b8{f:XS}{fn:WT}{c:Wn}{args:N wW}{w:qR}{Q:fD->qR->Prop}(i:P.funcs[f]? =Z fn)(k:fn.body=Z c)(hn:xft (X args) fn.ntmps=wT)
 (h:∀rest,L4 P (Nd.of fn.ntmps) c (λe Ds H w=>(e=.normal\/e=.ret)/\lS Ds w/\∀a:V6,ya a=H->∃v,(V4 fn a.tmps).run P (wY Ds w)=.ok v (wY Ds w)/\Q (.returned v) (wY Ds w)) [] (L ((args.zipIdx 0).map λx=>(x.2,x.1)) rest) w):
 aM P f args.toArray w Q:=by
 have hn:=xbF hn;refine callsIn_wide.1<|aP (n:=0) i k jP ?_;have l:cH (ya ⟨args.toArray++xdh (fn.ntmps-args.toArray.size) Z9,[]⟩) ((args.zipIdx 0).map λx=>(x.2,x.1)):=by refine K9 args 0 _ λj=> ?_;rw[cY];simp_all
 refine WD (h _ _ (by simp;lia) O (Ui l).symm) ?_;rintro e b w' ⟨q1,Ds,q2,m,d,hv⟩;have⟨v,h1,g⟩:=hv b O;obtain rfl|rfl:=m
 show V0 _ _ P fn b.tmps Q b.defers .returning w';rw[q2,xbo];exact Xf d ⟨v,h1,g⟩;show V0 _ _ P fn b.tmps Q b.defers .returning w';rw[q2,xbo];exact Xf d ⟨v,h1,g⟩
def sE{F:oS}{n:K}{fn:WT}{tmps:Z3 wW}{a:N cE}{Q:fD->qR->Prop}:∀{Ds:N K}{w:qR},lS Ds w->Q (.panicked a) (wY Ds w)->V0 F n P fn tmps Q (Ds.map Ri) (.panicking a) w
 |[],w,_,h=>h
 |D::Ds,w,b,h=>⟨rC,.inl ⟨D,_,O,bV b.1,sE b.2 h⟩⟩
def zfy{f:XS}{fn:WT}{c:Wn}{args:N wW}{w:qR}{Q:fD->qR->Prop}(k:P.funcs[f]? =Z fn)(l:fn.body=Z c)(hn:xft (X args) fn.ntmps=wT)
 (h:∀rest,L4 P (Nd.of fn.ntmps) c (λe Ds H w=>lS Ds w/\(((e=.normal\/e=.ret)/\∀a:V6,ya a=H->∃v,(V4 fn a.tmps).run P (wY Ds w)=.ok v (wY Ds w)/\Q (.returned v) (wY Ds w))\/∃d,e=.panic d/\Q (.panicked d) (wY Ds w))) [] (L ((args.zipIdx 0).map λx=>(x.2,x.1)) rest) w):
 aM P f args.toArray w Q:=by
 have hn:=xbF hn;refine callsIn_wide.1<|aP (n:=0) k l jP ?_;have m:cH (ya ⟨args.toArray++xdh (fn.ntmps-args.toArray.size) Z9,[]⟩) ((args.zipIdx 0).map λx=>(x.2,x.1)):=by refine K9 args 0 _ λj=> ?_;rw[cY];simp_all
 refine WD (h _ _ (by simp[Nd.of];lia) O (Ui m).symm) ?_;rintro e b w' ⟨q1,Ds,q2,g,⟨o,hv⟩|⟨d,rfl,p⟩⟩;have⟨v,h1,i⟩:=hv b O;obtain rfl|rfl:=o
 show V0 _ _ P fn b.tmps Q b.defers .returning w';rw[q2,xbo];exact Xf g ⟨v,h1,i⟩;show V0 _ _ P fn b.tmps Q b.defers .returning w';rw[q2,xbo];exact Xf g ⟨v,h1,i⟩;show V0 _ _ P fn b.tmps Q b.defers (.panicking d) w';rw[q2,xbo];exact sE g p
end
end
section
section
variable{P:uS}{cf:Cf}{fr:Fr}{σ:Sg}{vs:wL->wW}{H:xj}{w:qR}{R:Type}{r:R}
theorem GH{rest:xj}:∀{l:N wW}{i j:K}{v:wW},l[j]? =Z v->L ((l.zipIdx i).map λx=>(x.2,x.1)) rest (i+j)=v
 |a::l,i,0,v,h=>by
  simp only[xbD,xav]at h;simp[L,h]
 |a::l,i,j+1,v,h=>by
  simp only[List.zipIdx_cons,xbP,L];rw[zhj (W:i+(j+1)≠i)];have:=GH (rest:=rest) (i:=i+1) (by simpa using h);grind
theorem E9:∀{dom:N AM}{x:cj dom}{i:K}{l:N wW},X l=X dom->(∀j v,l[j]? =Z v->vs (i+j)=v)->MS vs (Yf dom x i).2=jW dom x l
 |[],_,_,_,_,_=>rfl
 |a::dom,x,i,[],hl,_=>by cases hl
 |a::dom,x,i,v::l,hl,h=>by
  have b:MS vs (Yf dom x.2<|i+1).2=jW dom x.2 l:=E9 (by simpa using hl) λj v d=>by
   have:=h (j+1) v (by simpa using d);grind
  have h0:=h 0 v O
  cases a with
  |own t E=>
   show mO t.rep E (vs i) x.1::MS vs (Yf dom x.2<|i+1).2=mO t.rep E v x.1::jW dom x.2 l;grind
  |var t E=>
   show mP t.rep.c E (vs i) x.1::MS vs (Yf dom x.2<|i+1).2=mP t.rep.c E v x.1::jW dom x.2 l;grind
  |_=>exact b
def Fw{S:K->Prop}:∀{dom:N AM}{x:cj dom}{i:K}{l:N wW},X l=X dom->(∀j v,l[j]? =Z v->vs (i+j)=v/\H (i+j)=v)->zC S (jC P dom x l) w->zC S (RS P vs H (Yf dom x i).1) w
 |[],_,_,_,_,_,_=>trivial
 |a::dom,x,i,[],hl,_,_=>by cases hl
 |a::dom,x,i,v::l,hl,h,k=>by
  have c:=Fw (by simpa using hl) (λj v m=>by
   have:=h (j+1) v (by simpa using m);rw[(W:i+1+j=i+(j+1))];exact this) k.2
  have h0:vs i=v/\H i=v:=h 0 v O;have g:=k.1
  cases a with
  |d t=>exact⟨show(fV t.rep x.1<|H i).p S w by rw[h0.2];exact g,c⟩
  |q t=>exact⟨show(fP t.rep x.1<|H i).p S w by rw[h0.2];exact g,c⟩
  |own t E=>exact⟨show H i=vs i by rw[h0.1,h0.2],c⟩
  |var t E=>
   have⟨b,n⟩:=g;exact⟨⟨show H i=vs i by rw[h0.1,h0.2],b,h0.1.trans n⟩,c⟩
  |fn e f=>exact⟨show(fnF P e f x.1<|H i).p S w by rw[h0.2];exact g,c⟩
theorem Fg:∀{dom:N AM}{x:cj dom}{i:K},∀e∈(Yf dom x i).2,e.1<i+X dom
 |[],_,_,e,he=>jp he H1
 |a::dom,x,i,e,he=>by
  have b:∀e∈(Yf dom x.2<|i+1).2,e.1<i+X (a::dom):=λe he=>by
   have:=Fg e he;grind
  cases a with
  |own t E=>
   rcases xai.1 (show e∈(i,Od.own t E x.1)::(Yf dom x.2<|i+1).2 from he)with rfl|he
   simp_all;grind
  |var t E=>
   rcases xai.1 (show e∈(i,Od.var t E x.1)::(Yf dom x.2<|i+1).2 from he)with rfl|he
   simp_all;grind
  |_=>exact b e he
theorem sj:∀{dom:N AM}{x:cj dom}{i:K},∀e∈(Yf dom x i).1,∀p,vv e.2.2=Z p->p<i+X dom
 |[],_,_,e,he=>jp he H1
 |a::dom,x,i,e,he=>by
  intro p hp;have b:∀e∈(Yf dom x.2<|i+1).1,∀p,vv e.2.2=Z p->p<i+X (a::dom):=λe he p hp=>by
   have:=sj e he p hp;grind
  cases a with
  |own t E=>
   rcases xai.1 (show e∈(i,0,Dv.ow i)::(Yf dom x.2<|i+1).1 from he)with rfl|he
   cases hp;simp only[xaw];lia
   grind
  |var t E=>
   rcases xai.1 (show e∈(i,0,Dv.vs i t)::(Yf dom x.2<|i+1).1 from he)with rfl|he
   cases hp;simp only[xaw];lia
   grind
  |d t=>
   rcases xai.1 (show e∈(i,0,Dv.d t x.1)::(Yf dom x.2<|i+1).1 from he)with rfl|he
   cases hp
   exact b e he p hp
  |q t=>
   rcases xai.1 (show e∈(i,0,Dv.q t x.1)::(Yf dom x.2<|i+1).1 from he)with rfl|he
   cases hp
   exact b e he p hp
  |fn d c=>
   rcases xai.1 (show e∈(i,0,Dv.fp d c x.1)::(Yf dom x.2<|i+1).1 from he)with rfl|he
   cases hp
   exact b e he p hp
def Qf:∀(l:N V3) (ms:N RM) {σ:Sg},uK P fr ⟨0,[],[]⟩ σ H w->uK P fr ⟨0,[],[]⟩ (JW σ l ms) H w
 |[],_,_,h=>by unfold JW;exact h
 |.tmp t::l,[],_,h=>by unfold JW;exact h
 |.tmp t::l,.d _::ms,_,h=>by unfold JW;exact Qf l ms<|ND _ h
 |.tmp t::l,.own _ _::ms,_,h=>by unfold JW;exact Qf l ms h
 |.tmp t::l,.var _ _::ms,_,h=>by unfold JW;exact Qf l ms h
 |.cell t E::l,[],_,h=>by unfold JW;exact h
 |.cell t E::l,m::ms,_,h=>by unfold JW;exact Qf l ms h
def zjU(J:yT P cf.tt){p:V3}{m:RM}{k:m.D->N K->V R}(h:FX cf σ p m k=Z r):∃x os,k x os=Z r/\
 ∀vs (fr:Fr) H (A:N MF) (Γ:N FF) w (f:N K),(∀S w,zC S Γ w->∀t,Lk P vs H S w ⟨0,[],[]⟩ σ t)->(∀o∈os,fc f o=I)->St fr.we fr.Se (A++OS vs fr ⟨0,[],[]⟩ (vb σ.ob f)) Γ w->
  ∃v,zlX P w H p v/\St fr.we fr.Se (rmM m x v++(A++OS vs fr ⟨0,[],[]⟩ (vb σ.ob<|os++f))) (rmF m x v++Γ) w:=by
 cases p with
 |tmp t=>
  cases m with
  |d s=>
   simp only[FX]at h;have hc:=h;have⟨y,h,L⟩:=zgW h;refine⟨y,[],h,λvs fr H A Γ w f hl _ g=>⟨H t,O,?_⟩⟩;refine g.weak λS w a=>⟨?_,a⟩
   cases l:get ⟨0,[],[]⟩ σ t 0 with
   |none=>rw[l]at hc;cases hc
   |some v=>exact L P vs S w v _ l<|hl S w a t 0 v l
  |own s E=>
   simp only[FX]at h;have⟨x,os,h1,_,n,j⟩:=Np h;refine⟨x,os,h1,λvs fr H A Γ w f hl hn g=>⟨H t,O,?_⟩⟩;exact j P vs fr H A Γ w f (λS w a=>hl S w a t) hn g
  |var s E=>
   simp only[FX]at h;have⟨x,os,h1,_,n,j⟩:=Np h;refine⟨x,os,h1,λvs fr H A Γ w f hl hn g=>⟨H t,O,?_⟩⟩;have q:=j P vs fr H A Γ w f (λS w a=>hl S w a t) hn g;exact q.weak λS w a=>⟨(n P vs H S w<|hl S w a).2,a⟩
 |cell t E=>
  cases m with
  |own s B=>simp only[FX]at h;cases h
  |var s B=>simp only[FX]at h;cases h
  |d s=>
   simp only[FX]at h;split at h;rename_i o s0 C l M;split at h;rename_i s' B z Q;have⟨u,h1⟩:=yf h;have u:=yb u;subst u;have⟨e,n⟩:=yq h1;cases e;have⟨e,j⟩:=yq n;cases e;refine⟨_,[o],j,λvs fr H A Γ w f hl hn g=> ?_⟩;have hp:=jG (vs:=vs) (fr:=fr) (cx:=⟨0,[],[]⟩)<|(jx<|hn o<|IR).trans Q;have j:=St.mid<|St.perm g<|xbp _ hp;have⟨S,_,a⟩:=g.ex;have⟨hv,b,F⟩:=hl S w a t 0 _ l;have⟨⟨G,ht,_⟩,_⟩:=J E C M;have q:St fr.we fr.Se (mP C.ty.rep.c E (vs o) z::(A++OS vs fr ⟨0,[],[]⟩ (yE (vb σ.ob f) o))) Γ w:=j;have⟨b',hd,T⟩:=q.openP 0 O;rw[F]at hd;cases hd;refine zjA 0 T O (hv.trans F) ht λv U Y=>⟨v,Y,?_⟩;exact St.drop (i:=0) U
   cases h
   cases h
def FI(e:yT P cf.tt):∀{a:N V3}{cod:N RM}{k:bZ cod->N K->V R},C8 cf σ a cod k=Z r->∃x os,k x os=Z r/\
 ∀vs (fr:Fr) H (Γ:N FF) w,(∀S w,zC S Γ w->∀t,Lk P vs H S w ⟨0,[],[]⟩ σ t)->St fr.we fr.Se (OS vs fr ⟨0,[],[]⟩ σ.ob) Γ w->
  ∃us,X us=X cod/\iX P w H a us/\St fr.we fr.Se (kz cod x us++OS vs fr ⟨0,[],[]⟩ (vb σ.ob os)) (ks cod x us++Γ) w
 |[],[],k,h=>⟨(),[],h,λvs fr H Γ w _ b=>⟨[],O,jP,b⟩⟩
 |[v],[m],k,h=>by
  have⟨x,os,h1,f⟩:=zjU e (h:FX cf σ v m k=Z r);refine⟨x,os,h1,λvs fr H Γ w hl b=> ?_⟩;have⟨u,c,d⟩:=f vs fr H [] Γ w [] hl (λ_ _=>O) b;rw[xbo]at d;exact⟨[u],O,⟨c,jP⟩,d⟩
 |v::q::a,m::m'::ms,k,h=>by
  have⟨x,o,h1,f⟩:=zjU e (h:FX cf σ v m _=Z r);have⟨y,os,c,d⟩:=FI e h1;have⟨hn,c⟩:=yf c;refine⟨(x,y),o++os,c,λvs fr H Γ w hl b=> ?_⟩;have⟨us,i,j,l⟩:=d vs fr H Γ w hl b;have⟨u,n,p⟩:=f vs fr H (kz (m'::ms) y us) (ks (m'::ms) y us++Γ) w os (λS w g=>hl S w<|zC.right g) (NS hn) l;refine⟨u::us,by simpa using i,⟨n,j⟩,?_⟩;show St _ _ ((rmM m x u++kz (m'::ms) y us)++_) ((rmF m x u++ks (m'::ms) y us)++Γ) w;rw[xar,xar];exact p
 |[],_::_,_,h=>by cases h
 |[_],[],_,h=>by cases h
 |[_],_::_::_,_,h=>by cases h
 |_::_::_,[],_,h=>by cases h
 |_::_::_,[_],_,h=>by cases h
def zcd(D:P.follows .mixedOrders=wT)(C:yT P cf.tt)(E:uf P cf.tt)(J:∀s∈cf.cs,yU P s)(K:BZ P cf){s:Wq}{fn:WT}
 (L:P.funcs[s.f]? =Z fn) (Q:Bq P s.f=wT) (g:s.bk=0) (T:∀x r,s.M x=Z r->zbQ cf fn s.dom s.cod x=Z r):yU P s:=by
 refine⟨Q,λx r h vs hd=> ?_⟩;rw[g];show FnG P s.f vs.toArray (jW s.dom x vs) (jC P s.dom x vs) Zg (λus=>kz s.cod r us) (λus=>ks s.cod r us) (λus=>X us=X s.cod);have h:=T x r h;unfold zbQ at h;split at h;rename_i c hc;have⟨l,h⟩:=yf h;rw[xae]at l;intro we Se F G w m;refine b8 L hc (by rw[hd];exact l.2) λrest=> ?_;refine Ym (fr:=⟨we,Se,F,G⟩) (N:=Nd.of fn.ntmps) D C E J K c l.1 O (.inl O) h (λt m6 g Ds H w _ z=> ?_) ?_;have⟨hi,z⟩:=Yq z
 have i:C8 cf (JW m6 fn.results.toList s.cod) fn.results.toList s.cod (λy _=>Z y)=Z r->∀a:V6,ya a=H->
  ∃v,(V4 fn a.tmps).run P (wY Ds w)=.ok v (wY Ds w)/\∃u:ww wW,xeu v=.returned (Zg u)/\X u=X s.cod/\St we Se (kz s.cod r u++F) (ks s.cod r u++G) (wY Ds w):=λh a U=>by
  have hl:=Qf fn.results.toList s.cod z;generalize JW m6 fn.results.toList s.cod=A at h hl;have⟨hB,vs,m⟩:=hl;have⟨y,os,e1,V⟩:=FI C h;cases e1;have⟨us,h1,Y,h3⟩:=V vs ⟨we,Se,F,G⟩ H _ _ (λS w b t=>Y9 b t) m;refine⟨_,Zh (rs:=fn.results.toList) (by rw[xcy])<|U▸Y,us,O,h1,?_⟩;exact(St.dropM (B:=MS vs<|vb A.ob os) h3).weak λS w b=>zC.append (zC.left b)<|zC.right<|zC.right b
 cases t with
 |n=>exact⟨.inl O,hi,i g⟩
 |r=>exact⟨.inr O,hi,i g⟩
 |x j=>cases g
 |p q=>cases g
 have e0:∀j v,vs[j]? =Z v->vs.getD (0+j) Z9=v:=λj v k=>by rw[xaD,UV,k];rfl
 refine⟨⟨λe d=> ?_,λ_ d=>jp d H1,λe d p hp=> ?_,λ_ d=>jp d H1⟩,λo=>vs.getD o Z9,?_⟩;have:=Fg e d;simpa using this;have:=sj e d p hp;simpa using this;have e1:MS (λo=>vs.getD o Z9) (Yf s.dom x 0).2=jW s.dom x vs:=E9 hd e0;show St we Se (MS _ (Yf s.dom x 0).2++([]++F)) _ w;rw[e1];exact m.weak λS w b=>zC.append (Fw hd (λj v k=>⟨e0 j v k,GH k⟩)<|zC.left b)<|zC.right b;cases h
def PQ(we:qR)(Se:K->Prop)(F:N MF)(G:N FF)(cod:N RM)(z:PX⊕bZ cod)(e:fD)(w:qR):Prop:=match z with
 |.inl q=>e=.panicked (tF q)/\St we Se F G w
 |.inr r=>∃u:N wW,e=.returned (Zg u)/\X u=X cod/\St we Se (kz cod r u++F) (ks cod r u++G) w
def PV(E:P.follows .mixedOrders=wT)(D:yT P cf.tt)(J:uf P cf.tt)(L:∀s∈cf.cs,yU P s)(M:BZ P cf){f:XS}{dom:ww AM}{cod:ww RM}{fn:WT}(Q:P.funcs[f]? =Z fn){x:cj dom}{z:PX⊕bZ cod}(h:zkK cf fn dom cod x=Z z)
 {vs:ww wW} (m:X vs=X dom) {we:qR}{Se:K->Prop}{F:ww MF}{G:ww FF}{w:qR} (hd:St we Se (jW dom x vs++F) (jC P dom x vs++G) w):aM P f vs.toArray w (PQ we Se F G cod z):=by
 unfold zkK at h;split at h;rename_i c hc;have⟨u,h⟩:=yf h;rw[xae]at u;refine zfy Q hc (by rw[m];exact u.2) λrest=> ?_;refine Ym (fr:=⟨we,Se,F,G⟩) (N:=Nd.of fn.ntmps) E D J L M c u.1 O (.inl O) h (λt m6 i Ds H w _ k=> ?_) ?_;have⟨hl,k⟩:=Yq k;refine⟨hl,?_⟩
 have g:C8 cf (JW m6 fn.results.toList cod) fn.results.toList cod (λy _=>Z (.inr y))=Z z->∀a:V6,ya a=H->
  ∃v,(V4 fn a.tmps).run P (wY Ds w)=.ok v (wY Ds w)/\PQ we Se F G cod z (.returned v) (wY Ds w):=λh a T=>by
  have hi:=Qf fn.results.toList cod k;generalize JW m6 fn.results.toList cod=C at h hi;have⟨U,vs,hd⟩:=hi;have⟨y,os,e1,V⟩:=FI D h;cases e1;have⟨us,h1,Y,h3⟩:=V vs ⟨we,Se,F,G⟩ H _ _ (λS w b t=>Y9 b t) hd;refine⟨_,Zh (rs:=fn.results.toList) (by rw[xcy])<|T▸Y,us,O,h1,?_⟩;exact(St.dropM (B:=MS vs<|vb C.ob os) h3).weak λS w b=>zC.append (zC.left b)<|zC.right<|zC.right b
 cases t with
 |n=>exact .inl ⟨.inl O,g i⟩
 |r=>exact .inl ⟨.inr O,g i⟩
 |x j=>cases i
 |p q=>
  cases i;have⟨U,vs,hd⟩:=k;have hd:St we Se ([]++(MS vs m6.ob++F)) (RS P vs H m6.rg++([]++G)) (wY Ds w):=hd;exact .inr ⟨_,O,O,(St.dropM (A:=[]) hd).weak λS w b=>zC.right<|zC.right b⟩
 have e0:∀j v,vs[j]? =Z v->vs.getD (0+j) Z9=v:=λj v l=>by rw[xaD,UV,l];rfl
 refine⟨⟨λe d=> ?_,λ_ d=>jp d H1,λe d p hp=> ?_,λ_ d=>jp d H1⟩,λo=>vs.getD o Z9,?_⟩;have:=Fg e d;simpa using this;have:=sj e d p hp;simpa using this;have e1:MS (λo=>vs.getD o Z9) (Yf dom x 0).2=jW dom x vs:=E9 m e0;show St we Se (MS _ (Yf dom x 0).2++([]++F)) _ w;rw[e1];exact hd.weak λS w b=>zC.append (Fw m (λj v l=>⟨e0 j v l,GH l⟩)<|zC.left b)<|zC.right b;cases h
def zoF(a:P.follows .mixedOrders=wT)(b:yT P cf.tt)(c:uf P cf.tt)(d:∀s∈cf.cs,yU P s)(e:BZ P cf){p:J2}{fn:WT}
 (g:P.funcs[p.s.f]? =Z fn) (k:Bq P p.s.f=wT) (l:p.s.bk=0) (i:∀x r,p.M x=Z r->zkK cf fn p.s.dom p.s.cod x=Z r):PN P p:=by
 refine⟨k,λx vs j=>⟨λr h=> ?_,λq h we Se F G w hc=>PV a b c d e g (i x _ h) j hc⟩⟩;rw[l];exact λwe Se F G w hc=>PV a b c d e g (i x _ h) j hc
theorem zhD{S:K->Prop}{b:K->wW}:∀{dom:N AM}{i:K},(∀j,j<X dom->H (i+j)=b (i+j))->zC S (RS P vs H<|Gz b dom i) w
 |[],_,_=>trivial
 |a::dom,i,h=>by
  have c:zC S (RS P vs H<|Gz b dom<|i+1) w:=zhD λj d=>by
   have:=h (j+1) (by simp only[xaw];lia);grind
  cases a with
  |own t E=>exact⟨h 0 rC,c⟩
  |var t E=>exact⟨h 0 rC,c⟩
  |_=>exact c
def nC{S:K->Prop}{l:N wW}:∀{dom:N AM}{i:K}{us:N wW},zC S (RS P vs H<|Gz (λo=>l.getD o Z9) dom i) w->iX P w H (H0 dom i) us->us=KZ dom (l.drop i)
 |[],_,[],_,_=>rfl
 |[],_,_::_,_,h=>h.elim
 |a::dom,i,us,b,h=>by
  have e0:(l.drop i).headD Z9=l.getD i Z9:=by simp_all
  have e1:(l.drop i).tail=l.drop (i+1):=by rw[List.tail_drop]
  cases a with
  |own t E=>
   cases us with
   |nil=>exact h.elim
   |cons u us=>
    have h1:H i=u:=h.1;have f:H i=l.getD i Z9:=b.1;have e:=nC (dom:=dom) (i:=i+1) b.2 h.2;show u::us=(l.drop i).headD Z9::KZ dom (l.drop i).tail;simp_all
  |var t E=>
   cases us with
   |nil=>exact h.elim
   |cons u us=>
    have h1:H i=u:=h.1;have f:H i=l.getD i Z9:=b.1;have e:=nC (dom:=dom) (i:=i+1) b.2 h.2;show u::us=(l.drop i).headD Z9::KZ dom (l.drop i).tail;simp_all
  |d t=>
   have e:=nC (dom:=dom) (i:=i+1) b h;show us=KZ dom (l.drop i).tail;simp_all
  |q t=>
   have e:=nC (dom:=dom) (i:=i+1) b h;show us=KZ dom (l.drop i).tail;rw[e1];exact e
  |fn d c=>
   have e:=nC (dom:=dom) (i:=i+1) b h;show us=KZ dom (l.drop i).tail;rw[e1];exact e
def Ga:∀{a b:N V3}{us:N wW},iX P w H (a++b) us->iX P w H a (us.take (X a))/\iX P w H b (us.drop (X a))
 |[],b,us,h=>⟨jP,h⟩
 |r::a,b,[],h=>h.elim
 |r::a,b,u::us,h=>by
  have⟨h1,c⟩:=Ga h.2;exact⟨⟨h.1,h1⟩,c⟩
def mN{b:K->wW}:∀{dom:N AM}{i:K},∀e∈Gz b dom i,vv e.2.2=wS
 |[],_,e,he=>jp he H1
 |a::dom,i,e,he=>by
  cases a with
  |own t E=>
   rcases xai.1 (show e∈(i,0,Dv.pin<|b i)::Gz b dom (i+1)from he)with rfl|he
   rfl;exact mN e he
  |var t E=>
   rcases xai.1 (show e∈(i,0,Dv.pin<|b i)::Gz b dom (i+1)from he)with rfl|he
   rfl;exact mN e he
  |d t=>exact mN (dom:=dom) e he
  |q t=>exact mN (dom:=dom) e he
  |fn d c=>exact mN (dom:=dom) e he
def zo2(hm:P.follows .mixedOrders=wT)(E:yT P cf.tt)(hL:uf P cf.tt)(hC:∀s∈cf.cs,yU P s)(hX:BZ P cf){s:Wq}{fn:WT}
 (hf:P.funcs[s.f]? =Z fn) (hb:Bq P s.f=wT) (hM:∀pn x r,s.M x=Z r->zlO cf fn s.dom s.cod s.bk pn x=Z r):yU P s:=by
 refine⟨hb,λx r h vs hd=> ?_⟩;have h:=hM (λo=>vs.getD o Z9) x r h;unfold zlO at h;split at h;rename_i c hc;have⟨J,h⟩:=yf h;simp only[xae]at J;have⟨⟨⟨⟨hz,hA⟩,Q⟩,hG⟩,T⟩:=J;have Q:=yb Q;have T:0<s.bk:=Nat.blt_eq.mp T;have⟨b,hD⟩:∃b,s.bk=b+1:=⟨s.bk-1,W⟩;rw[hD];intro we Se F G w hl;refine b8 hf hc (by rw[hd];exact hA) λrest=> ?_;have e0:∀j v,vs[j]? =Z v->vs.getD (0+j) Z9=v:=λj v m=>by simp_all
 refine Ym (fr:=⟨we,Se,F,G⟩) (N:=Nd.of fn.ntmps) hm E hL hC hX c hz O (.inl O) h (λt m6 z Ds H w _ C=> ?_) ?_;have⟨ht,C⟩:=Yq C
 have i:C8 cf (JW m6 (fn.results.toList++H0 s.dom 0) s.cod) (fn.results.toList++H0 s.dom 0) s.cod (λy _=>Z y)=Z r->∀a:V6,ya a=H->
  ∃v,(V4 fn a.tmps).run P (wY Ds w)=.ok v (wY Ds w)/\∃u:ww wW,xeu v=.returned (zn9 (b+1) (X s.cod) u)/\zj9 s.dom vs (b+1) (X s.cod) u/\St we Se (kz s.cod r u++F) (ks s.cod r u++G) (wY Ds w):=λh a A=>by
  have⟨U,k,hi⟩:=C;have⟨S0,_,hE⟩:=hi.ex;have hv:zC S0 (RS P k H<|Gz (λo=>vs.getD o Z9) s.dom 0) _:=zC.left<|zC.right hE;have hF:uK P ⟨we,Se,F,G⟩ ⟨0,[],[]⟩ m6 H (wY Ds w):=⟨⟨U.o1,λ_ g=>jp g H1,U.r1,λ_ g=>jp g H1⟩,k,hi.weak λS w A=>zC.append (zC.left A)<|zC.right<|zC.right A⟩;have V:=Qf (fn.results.toList++H0 s.dom 0) s.cod hF;generalize JW m6 (fn.results.toList++H0 s.dom 0) s.cod=D at h V;have⟨hB,l,hl⟩:=V;have⟨y,os,e1,e2⟩:=FI E h;cases e1;have⟨us,h1,h2,h3⟩:=e2 l ⟨we,Se,F,G⟩ H _ _ (λS w d t=>Y9 d t) hl;have⟨h4,h5⟩:=Ga h2;have hn:X s.cod-(b+1)=X fn.results.toList:=W
  have Y:=nC hv h5;rw[List.drop_zero]at Y;refine⟨_,Zh (rs:=fn.results.toList) (by rw[xcy])<|A▸h4,us,?_,⟨h1,by rw[hn];exact Y⟩,?_⟩;show xeu _=.returned (Zg<|us.take<|X s.cod-(b+1));rw[hn];exact(St.dropM (B:=MS l<|vb D.ob os) h3).weak λS w d=>zC.append (zC.left d)<|zC.right<|zC.right d
 cases t with
 |n=>exact⟨.inl O,ht,i z⟩
 |r=>exact⟨.inr O,ht,i z⟩
 |x j=>cases z
 |p q=>cases z
 refine⟨⟨λe g=> ?_,λ_ g=>jp g H1,λe g p hp=> ?_,λe g p hp=> ?_⟩,λo=>vs.getD o Z9,?_⟩;have:=Fg e g;simpa using this;have:=sj e g p hp;simpa using this;rw[mN e g]at hp;cases hp
 have e1:MS (λo=>vs.getD o Z9) (Yf s.dom x 0).2=jW s.dom x vs:=E9 hd e0;show St we Se (MS _ (Yf s.dom x 0).2++([]++F)) _ w;rw[e1];refine hl.weak λS w d=>zC.append (Fw hd (λj v m=>⟨e0 j v m,GH m⟩)<|zC.left d)<|zC.append (zhD λj m=> ?_)<|zC.right d;have hy:vs[j]? =Z (vs[j]'W):=xaa W;show L _ _ (0+j)=vs.getD (0+j) Z9;rw[e0 j _ hy];exact GH hy;cases h
end
end
section
section
variable{P:uS}
def zc:Ty->N wW
 |.i=>[.int .i64 0]
 |.u=>[.int .u64 0]
 |.b=>[.bool I]
 |.ch=>[.int .u8 0]
 |.tx=>[.string ByteArray.empty]
 |.l _=>[.slice wS 0 0]
 |.p s t=>zc s++zc t
 |.a k t=>(So k<|zc t).flatten
 |.po _=>[.pointer wS]
 |.w1 t=>zc t
def zdW{α:Type}{e:zT α}{S:K->Prop}{w:qR}{x:α}{c:N wW}(h:e.p S x c w):∀k,yQ e S (So k x) (So k c).flatten w
 |0=>rfl
 |k+1=>⟨c,_,O,h,zdW h k⟩
def zeI(S:K->Prop)(w:qR):∀t:Ty,t.rep.p S t.z (zc t) w
 |.i=>⟨O,(rx:(-9223372036854775808:J)<=0),(rx:(0:J)<=9223372036854775807)⟩
 |.u=>⟨O,(rx:(0:K)<18446744073709551616)⟩
 |.b=>rfl
 |.ch=>⟨O,(rx:(0:K)<256)⟩
 |.tx=>⟨ByteArray.empty,O,O,rx⟩
 |.l _=>⟨_,O,SlP.nil⟩
 |.p s t=>⟨_,_,O,zeI S w s,zeI S w t⟩
 |.a k t=>⟨xaN,zdW (zeI S w t) k⟩
 |.po _=>rfl
 |.w1 t=>zeI S w t
def zpL(t:Ty):X (zc t)=t.n:=by have:=t.rep.len<|zeI (λ_=>Wr) default t;rw[this,t.n_rep]
def zgD:∀{k:K}{t:Ty}{i:K}{f:Fl t.D},xl k t i=Z f->∃d c,zc t=d++zc f.f++c/\X d=f.off
 |0,.w1 t,0,f,h=>by
  simp only[xl,xav]at h;subst h;exact⟨[],[],by simp[zc],O⟩
 |0,.w1 t,_+1,_,h=>by cases h
 |0,.i,_,_,h=>by cases h
 |0,.u,_,_,h=>by cases h
 |0,.b,_,_,h=>by cases h
 |0,.l _,_,_,h=>by cases h
 |0,.p _ _,_,_,h=>by cases h
 |0,.a _ _,_,_,h=>by cases h
 |0,.ch,_,_,h=>by cases h
 |0,.tx,_,_,h=>by cases h
 |0,.po _,_,_,h=>by cases h
 |1,t,i,f,h=>by
  unfold xl at h;cases e:R i 0<;>rw[e]at h
  cases h
  simp only[WF,xav]at h;subst h;exact⟨[],[],by simp[Fl.self],O⟩
 |k+2,.p s t,0,f,h=>by
  simp only[xl,xav]at h;subst h;exact⟨[],zc t,by simp[zc],O⟩
 |k+2,.p s t,i+1,f,h=>by
  simp only[xl]at h;split at h;rename_i f' g;simp only[xav]at h;subst h;have⟨d,c,h1,j⟩:=zgD g;refine⟨zc s++d,c,?_,by rw[xau,zpL,j]⟩;simp only[zc];rw[h1];simp only[xar];cases h
 |k+2,.i,i,f,h=>by simp[xl]at h
 |k+2,.u,i,f,h=>by simp[xl]at h
 |k+2,.b,i,f,h=>by simp[xl]at h
 |k+2,.l _,i,f,h=>by simp[xl]at h
 |k+2,.a _ _,i,f,h=>by simp[xl]at h
def zm7(P:uS)(t n:K):(N (V K)×N (V<|K×ut×K))×V (N<|V<|K×K):=(((xaC<|n+(1-n)).map λi=>za9 P t i,(xaC<|n+(1-n)).map λi=>zjF P t i),match plB P t with
 |some a=>Z<|a.toList.map Z
 |none=>wS)
def zgV(ty:Ty)(n:K):(N (V K)×N (V<|K×ut×K))×V (N<|V<|K×K):=(((xaC<|n+(1-n)).map λi=>(xl n ty i).map (·.off),(xaC<|n+(1-n)).map λi=>(xl n ty i).map λf=>(f.off,f.f.rep.agg,f.f.n)),Z<|(xaC<|n+(1-n)).map λi=>(xl n ty i).map λf=>(f.off,f.f.n))
def Tt(P:uS)(t:kW)(a:TI):Prop:=match a.k with
 |.int k=>P.underlying t=Z (.int k)
 |.bool=>P.underlying t=Z .bool
 |.str=>P.underlying t=Z .string
 |.sl E=>P.underlying t=Z (.slice E)/\∃e,a.ty=.l e
 |.st n=>a.ty.rep.agg=wT/\zm7 P t n=zgV a.ty n
 |.ar k E=>a.ty.rep.agg=wT/\P.underlying t=Z (.array k E)
 |.pt E=>P.underlying t=Z (.pointer E)
def zd6:∀{n:K}{t:Ty}{i:K}{f:Fl t.D},0<n->xl n t i=Z f->i<n
 |0,_,_,_,h0,h=>jp h0<|xfQ 0
 |1,t,i,f,_,h=>by
  simp only[xl]at h;cases c:R i 0<;>rw[c]at h
  cases h
  rw[yb c];exact xdj
 |n+2,.p s t,0,f,_,h=>Nat.succ_pos _
 |n+2,.p s t,i+1,f,_,h=>by
  simp only[xl]at h;split at h
  next f' d=>exact Nat.succ_lt_succ<|zd6 (Nat.succ_pos _) d
  cases h
 |n+2,.i,_,_,_,h=>by simp[xl]at h
 |n+2,.u,_,_,_,h=>by simp[xl]at h
 |n+2,.b,_,_,_,h=>by simp[xl]at h
 |n+2,.l _,_,_,_,h=>by simp[xl]at h
 |n+2,.a _ _,_,_,_,h=>by simp[xl]at h
 |n+2,.ch,_,_,_,h=>by simp[xl]at h
 |n+2,.tx,_,_,_,h=>by simp[xl]at h
 |n+2,.po _,_,_,_,h=>by simp[xl]at h
 |n+2,.w1 _,_,_,_,h=>by simp[xl]at h
def zbL{n:K}{t:Ty}{i:K}{f:Fl t.D}(h:xl n t i=Z f):i<n+(1-n):=by
 cases n with
 |zero=>
  cases t<;>cases i<;>first
   |exact xdj
   |cases h
 |succ n=>have:=zd6 (Nat.succ_pos n) h;lia
def zjW.of{t:kW}{d:TI}(h:Tt P t d):zjW P t d:=by
 unfold Tt at h;unfold zjW;split at h
 ·next h0=>simp only[h0];exact h
 ·next h0=>simp only[h0];exact h
 ·next h0=>simp only[h0];exact h
 ·next h0=>simp only[h0];exact h
 ·next n h0=>
  simp only[h0];have⟨h1,h⟩:=h;have e:=Z2 (λq=>q.1.1) h;have g:=Z2 (λq=>q.1.2) h;have c:=Z2 Prod.snd h;simp only[zm7,zgV]at e g c;refine⟨h1,λi f b=> ?_,?_,λi f b=> ?_⟩;rotate_left 2
  ·have:=Z2 (λl:N (V<|K×ut×K)=>l[i]?) g;simp only[xci,List.getElem?_range<|zbL b,Option.map_some,b]at this;simpa using this
  ·have:=Z2 (λl:N (V K)=>l[i]?) e;simp only[xci,List.getElem?_range<|zbL b,Option.map_some,b]at this;simpa using this
  ·cases hp:plB P t with
   |none=>
    rw[hp]at c;cases c
   |some a=>
    rw[hp]at c;simp only[xav]at c;have⟨fs,k,m⟩:=zme hp;refine⟨fs,k,a,m,λi f b=> ?_⟩;have:=Z2 (λl:N (V<|K×K)=>l[i]?) c;simp only[xci,List.getElem?_range<|zbL b,Option.map_some,b]at this;rw[<-Array.getElem?_toList]
    cases j:a.toList[i]? with
    |none=>rw[j]at this;cases this
    |some q=>rw[j]at this;simpa using this
 ·next h0=>simp only[h0];exact h
 ·next h0=>simp only[h0];exact h
def zhO.of{t:kW}{a:TI}(h1:tyB P t=Z (a.ty.rep.agg,a.ty.n,a.B,Z<|a.ty.rep.val<|zc a.ty))(c:(xda 0 a.B && xda 0 a.ty.n)=wT)(f:Tt P t a):zhO P t a:=by rw[xae]at c;have b:=λS w=>zeI S w a.ty;refine⟨⟨_,(by rw[Ty.n_rep];exact J9.of h1),?_,λS w=> ?_,(λs h=>by rw[h];rfl),λn i off s g st j=> ?_⟩,xbF c.1,(by rw[Ty.n_rep];exact xbF c.2),zjW.of f⟩;rw[<-xeZ,zT.val_cells _<|b (λ_=>Wr) default,a.ty.rep.len<|b (λ_=>Wr) default];rw[zT.val_cells _<|b S w];exact b S w;rw[zT.val_cells _<|b (λ_=>Wr) default];have⟨k,d,l,e⟩:=zgD j;rw[l,xar,xbl (by simp only at e;lia),e,xck];rfl
def yT.nil:yT P []:=λ_ _ h=>by cases h
def yT.cons{t:kW}{c:TI}{tt:N (K×TI)}(h:zhO P t c)(k:yT P tt):yT P ((t,c)::tt):=by
 intro d a b;unfold aR at b;cases e:R t d<;>rw[e]at b
 exact k d a b;simp_all
def yT.add{t:kW}{a:TI}{tt:N (K×TI)}(h1:tyB P t=Z (a.ty.rep.agg,a.ty.n,a.B,Z<|a.ty.rep.val<|zc a.ty))(b:(xda 0 a.B && xda 0 a.ty.n)=wT)(c:Tt P t a)(k:yT P tt):yT P ((t,a)::tt):=yT.cons (zhO.of h1 b c) k
def elB(tt:N (K×TI)):N (K×TI)->ut
 |[]=>wT
 |(_,⟨.l s,.sl E,_⟩)::r=>(match aR tt E with
  |some a=>(Ty.same a.ty s).isSome
  |none=>I) && elB tt r
 |_::r=>elB tt r
def uf.of'{tt:N (K×TI)}:∀{l:N (K×TI)},elB tt l=wT->∀t s E B,aR l t=Z ⟨.l s,.sl E,B⟩->∃a,aR tt E=Z a/\a.ty=s
 |[],_,_,_,_,_,h=>by cases h
 |(c,d)::r,h,t,s,E,B,b=>by
  have e:elB tt r=wT:=by unfold elB at h;split at h;simp_all;simp_all;simp_all
  unfold aR at b;cases f:R c t<;>rw[f]at b
  exact uf.of' e t s E B b;cases b;unfold elB at h;simp only[xae]at h;have h:=h.1;split at h
  rename_i a g;refine⟨a,g,?_⟩
  cases i:Ty.same a.ty s with
  |none=>rw[i]at h;cases h
  |some p=>exact p.down
  cases h
def uf.of{tt:N (K×TI)}(h:elB tt tt=wT):uf P tt:=λt s E B=>uf.of' h t s E B
def ri.nil:ri P []:=λ_ _ h=>by cases h
def ri.add{f:K}{b:ut}{ex:N (K×ut)}{fn:WT}(h0:P.funcs[f]? =Z fn)(h1:(fn.name== "runtime.NumGoroutine")=I)(g:fn.body=wS)(h:(xeP fn).isNone=wT)
 (i:b=wT->xfb fn=Z (λargs=>do
  let(x,y,c)<-xbJ "Add64" args
  pure (xcn ((x+y+c)%xbf)<|(x+y+c)/xbf)))
 (j:b=I->xfb fn=Z (λargs=>do
  let(x,y,b)<-xbJ "Sub64" args
  pure (xcn ((x+xbf-y-b)%xbf) (if x<y+b then 1 else 0)))) (k:ri P ex):ri P ((f,b)::ex):=by
 intro f' d a;unfold aR at a;cases e:R f f'<;>rw[e]at a
 exact k f' d a;simp_all
def cN:∀s∈([]:N Wq),yU P s:=λ_ h=>jp h H1
theorem cC{s:Wq}{l:N Wq}(h:yU P s)(k:∀s∈l,yU P s):∀q∈s::l,yU P q:=by grind
def sg0{s:Wq}(a:Bq P s.f=wT)(b:∀x,s.M x=wS):yU P s:=⟨a,λx r h=>by rw[b x]at h;cases h⟩
def BZ.of{tt:N (K×TI)}{ex:N (K×ut)}{cs:N Wq}{an:An}{fu:K}(a:ri P ex)(hp:P=Tryz.prog):BZ P ⟨tt,cs,an,fu,ex,[],[],[],[]⟩:=⟨a,λ_ h=>jp h H1,λ_ h=>jp h H1,λ_ h=>jp h H1,hp,λ_ h=>jp h H1⟩
def sgP(a:P.follows .mixedOrders=wT){tt:N (K×TI)}{ex:N (K×ut)}(b:yT P tt)(c:uf P tt)(d:ri P ex)(hp:P=Tryz.prog){cs:N Wq}(an:An){fu:K}{s:Wq}{fn:WT}(e:P.funcs[s.f]? =Z fn)(g:∀s∈cs,yU P s)(i:Bq P s.f=wT)(j:s.bk=0)(k:∀x,zbQ ⟨tt,cs,an,fu,ex,[],[],[],[]⟩ fn s.dom s.cod x=s.M x):yU P s:=
 zcd (cf:=⟨tt,cs,an,fu,ex,[],[],[],[]⟩) a b c g (.of d hp) e i j λx r h=>(k x).trans h
def sgG(b:P.follows .mixedOrders=wT){tt:N (K×TI)}{ex:N (K×ut)}(c:yT P tt)(d:uf P tt)(e:ri P ex)(hp:P=Tryz.prog){cs:N Wq}(an:An){fu:K}{s:Wq}{fn:WT}(g:P.funcs[s.f]? =Z fn)(i:∀s∈cs,yU P s)(j:Bq P s.f=wT)(k:∀a x,zlO ⟨tt,cs,an,fu,ex,[],[],[],[]⟩ fn s.dom s.cod s.bk a x=s.M x):yU P s:=
 zo2 (cf:=⟨tt,cs,an,fu,ex,[],[],[],[]⟩) b c d i (.of e hp) g j λa x r h=>(k a x).trans h
end
end
section
def zjT:(dom:N Ty)->rm dom->K->N (K×K×Dv)
 |[],_,_=>[]
 |t::r,x,i=>(i,0,.d t x.1)::zjT r x.2 (i+1)
def zk0(g:XS)(t:K)(σ:Sg):V (N PD):=match get ⟨0,[],[]⟩ σ t 0 with
 |some (.fn f cs)=>ju (R f g)<|some cs
 |_=>wS
def zrT(cf:Cf)(fn:WT)(dom:N Ty)(g:XS)(x:rm dom):V (N PD):=match fn.body,fn.results.toList with
 |some c,[.tmp t]=>ju (PK fn.ntmps c && xft (X dom) fn.ntmps)<|den cf c ⟨0,[],[]⟩ ⟨0,zjT dom x 0,[]⟩ λq σ=>match q with
  |.r=>zk0 g t σ
  |.n=>zk0 g t σ
  |_=>wS
 |_,_=>wS
def zl2(t:Ty)(E E1:kW)(ix:N K)(lo n:K)(σ:Sg):V (N<|N t.D):=match get ⟨0,[],[]⟩ σ 3 0 with
 |some (.mv o a c)=>(match xB σ.ob o with
  |some (.mat d e f g b)=>ju (R E e && R E1 f)<|Ty.cast (.l (.l d)) (.l (.l t)) g λy=>ck (a=lo/\c=n/\b=ix)<|some y
  |_=>wS)
 |_=>wS
def zp0(cf:Cf)(fn:WT)(t:Ty)(E E1:kW)(b:wW)(e:N (N t.D))(ix:N K)(r:K)(a p:J)(lo n:K):V (N<|N t.D):=match fn.body,fn.results.toList with
 |some c,[]=>ju (PK fn.ntmps c && xft 4 fn.ntmps)<|den cf c ⟨0,[(3,0,.pin b)],[]⟩ ⟨1,[(0,0,.rw 0 r),(1,0,.d .i a),(2,0,.d .i p),(3,0,.mv 0 lo n)],[(0,.mat t E E1 e ix)]⟩ λq σ=>match q with
  |.r=>zl2 t E E1 ix lo n σ
  |.n=>zl2 t E E1 ix lo n σ
  |_=>wS
 |_,_=>wS
section
variable{P:uS}{cf:Cf}{H:xj}{w:qR}
def zdu{S:K->Prop}{vs:K->wW}:∀{dom:N Ty}{x:rm dom}{i:K}{l:N wW},X l=X dom->(∀j v,l[j]? =Z v->H (i+j)=v)->zC S (tsF dom x l) w->zC S (RS P vs H<|zjT dom x i) w
 |[],_,_,_,_,_,_=>trivial
 |a::dom,x,i,[],hl,_,_=>by cases hl
 |a::dom,x,i,v::l,hl,h,b=>by
  have c:zC S (RS P vs H<|zjT dom x.2<|i+1) w:=zdu (by simpa using hl) (λj v d=>by
   have:=h (j+1) v (by simpa using d);rw[(W:i+1+j=i+(j+1))];exact this) b.2
  have h0:H i=v:=h 0 v O;have e:=b.1;exact⟨show(fV a.rep x.1<|H i).p S w by rw[h0];exact e,c⟩
def RN:∀{dom:N Ty}{x:rm dom}{i:K},∀e∈zjT dom x i,vv e.2.2=wS
 |[],_,_,e,he=>jp he H1
 |a::dom,x,i,e,he=>by
  obtain rfl|he:=xai.1 he
  rfl;exact RN e he
def zp5(o:P.follows .mixedOrders=wT)(y:yT P cf.tt)(z:uf P cf.tt)(D:∀s∈cf.cs,yU P s)(E:BZ P cf){s:Rh}{fn:WT}
 (J:P.funcs[s.f]? =Z fn) (K:Bq P s.f=wT) (L:∀x,zrT cf fn s.dom s.g x=Z (s.mc x)):zbB P s:=by
 refine⟨K,λx vs hd=>FnG.plain ?_⟩;have h:=L x;unfold zrT at h;split at h;rename_i c t hc M;have⟨l,h⟩:=yf h;rw[xae]at l;intro we Se F G w ht;refine b8 J hc (by rw[hd];exact l.2) λrest=> ?_;refine Ym (fr:=⟨we,Se,F,G⟩) (N:=Nd.of fn.ntmps) o y z D E c l.1 O (.inl O) h (λq m6 k Ds H w _ m=> ?_) ?_;have⟨hl,m⟩:=Yq m
 have i:zk0 s.g t m6=Z (s.mc x)->∀a:V6,ya a=H->
  ∃v,(V4 fn a.tmps).run P (wY Ds w)=.ok v (wY Ds w)/\∃u:wW,xeu v=.returned u/\Wr/\St we Se ([]++F) ([zoc s.g (s.mc x) u]++G) (wY Ds w):=λh a Q=>by
  unfold zk0 at h;split at h;rename_i f cs R;have⟨hi,h1⟩:=yf h;have hi:=yb hi;subst hi;cases h1;have⟨Y,i9,hn⟩:=m;have T:St we Se (MS i9 m6.ob++F) (RS P i9 H m6.rg++([]++G)) (wY Ds w):=hn;refine⟨_,Zh (rs:=[.tmp t]) (vs:=[H t]) (by rw[<-M,xcy])<|Q▸⟨O,jP⟩,H t,O,jP,?_⟩;have U:=St.dropM (A:=[]) (B:=MS i9 m6.ob) (C:=F) (by simpa using T);refine U.weak λS w b=>⟨?_,?_⟩
  exact Y9 (fr:=⟨we,Se,F,G⟩) (cx:=⟨0,[],[]⟩) (show zC S (GS P i9 H ⟨we,Se,F,G⟩ ⟨0,[],[]⟩ m6) w from b) t 0 _ R;exact zC.right b;cases h
 cases q with
 |n=>exact⟨.inl O,hl,i k⟩
 |r=>exact⟨.inr O,hl,i k⟩
 |x j=>cases k
 |p q=>cases k
 refine⟨⟨λ_ d=>jp d H1,λ_ d=>jp d H1,λe d p hp=> ?_,λ_ d=>jp d H1⟩,λ_=>Z9,?_⟩;rw[RN e d]at hp;cases hp
 show St we Se ([]++([]++F)) _ w;exact ht.weak λS w b=>zC.append (zdu hd (λj v V=>GH V)<|zC.left b)<|zC.right b;cases h
def zij{α:Type}{e:zT α}{E E1:kW}{u:wW}{d:N (N α)}{ix:N K}{S:K->Prop}(h:(B5 e E E1 u d ix).p S w):∀a k c,yN u=.slice a k c->a.isSome=wT->k=X ix:=by
 rcases iR (N2 h).2.1 with⟨hv,_⟩|⟨b,cap,hv,_⟩
 simp_all;simp_all
def zk7{cx σ:Sg}{t i:K}{d:Dv}(h:get ⟨0,[],[]⟩ σ t i=Z d):get cx σ t i=Z d:=by unfold get at h⊢;split at h;exact h;cases h
def zoW(V:P.follows .mixedOrders=wT)(Y:yT P cf.tt)(hL:uf P cf.tt)(hC:∀s∈cf.cs,yU P s)(hX:BZ P cf){s:E8}{fn:WT}
 (hf:P.funcs[s.f]? =Z fn) (hb:Bq P s.f=wT) (hM:∀pn A ix r a p lo n z,s.M A ix r a p lo n=Z z->zp0 cf fn s.t s.E s.E1 pn A ix r a p lo n=Z z):zct P s:=by
 refine⟨hb,λA ix r a p lo n z hz u hr hv hA hl hD hF we Se F G w hn=> ?_⟩;have h:=hM hv A ix r a p lo n z hz;unfold zp0 at h;split at h;rename_i c hc hG;have⟨l,h⟩:=yf h;rw[xae]at l;have hi:∀a k c,yN u=.slice a k c->a.isSome=wT->k=X ix:=wE hn (i:=0) O λS hp=>zij hp;refine b8 (args:=[hr,.int .i64 a,.int .i64 p,hv]) hf hc l.2 λrest=> ?_;refine Ym (fr:=⟨we,Se,F,G⟩) (N:=Nd.of fn.ntmps) V Y hL hC hX c l.1 O (.inl O) h (λq m6 B Ds H w _ D=> ?_) ?_;have⟨ht,D⟩:=Yq D
 have m:zl2 s.t s.E s.E1 ix lo n m6=Z z->∀a:V6,ya a=H->
  ∃v,(V4 fn a.tmps).run P (wY Ds w)=.ok v (wY Ds w)/\∃v' R,xeu v=.returned v'/\yN R=yN u/\St we Se (B5 s.t.rep s.E s.E1 R z ix::F) G (wY Ds w):=λh a ha=>by
  unfold zl2 at h;split at h;rename_i o J n' hg;split at h;rename_i t' E' F' y d l;have⟨K,h1⟩:=yf h;rw[xae]at K;have hH:=yb K.1;have hI:=yb K.2;subst hH hI;have⟨e,C⟩:=yq h1;cases e;obtain⟨⟨rfl,rfl,rfl⟩,L⟩:=ZW C;cases L;have⟨hB,i9,hd⟩:=D;have⟨S0,_,T⟩:=hd.ex;have hw:H 3=hv:=(zC.left<|zC.right T).1;have U:RK (yN<|i9 o) J n' (H 3):=Y9 T 3 0 _<|zk7 hg;rw[hw]at U;have C:St we Se (B5 s.t.rep s.E s.E1 (i9 o) y d::OS i9 ⟨we,Se,F,G⟩ ⟨0,[(3,0,.pin hv)],[]⟩ (yE m6.ob o)) (GS P i9 H ⟨we,Se,F,G⟩ ⟨0,[(3,0,.pin hv)],[]⟩ m6) (wY Ds w):=qT l hd;have hj:∀a k c,yN (i9 o)=.slice a k c->a.isSome=wT->k=X d:=wE C (i:=0) O λS hp=>zij hp;refine⟨_,Zh (rs:=[]) (vs:=[]) (by rw[<-hG,xcy]) jP,_,i9 o,O,U.same hl hj hi,?_⟩;have L:St we Se ([B5 s.t.rep s.E s.E1 (i9 o) y d]++(MS i9 (yE m6.ob o)++F)) (GS P i9 H ⟨we,Se,F,G⟩ ⟨0,[(3,0,.pin hv)],[]⟩ m6) (wY Ds w):=C;exact(St.dropM L).weak λS w g=>zC.right<|zC.right g
  cases h
  cases h
 cases q with
 |n=>exact⟨.inl O,ht,m B⟩
 |r=>exact⟨.inr O,ht,m B⟩
 |x j=>cases B
 |p q=>cases B
 refine⟨⟨λe b=> ?_,λ_ b=>jp b H1,λe b q Q=> ?_,λe b q Q=> ?_⟩,λ_=>u,?_⟩;obtain rfl:=xad.1 b;exact xdj;simp only[xai,H1,mK]at b;obtain rfl|rfl|rfl|rfl:=b<;>cases Q<;>exact xdj
 obtain rfl:=xad.1 b;cases Q
 refine hn.weak λS w g=>⟨hA,w9 hD,w9 hF,hl,O,g⟩;cases h
end
end
section
def zhI{ι:Type _}{R:Type}(S:ι->Tg×Sg)(f:ι->V R)(a:∀i j,S i=S j->f i=f j):∃K:Tg->Sg->V R,(∀i,K (S i).1 (S i).2=f i)/\∀t σ r,K t σ=Z r->∃i,S i=(t,σ)/\f i=Z r:=by
 classical
 refine⟨λt σ=>if h:∃i,S i=(t,σ)then f h.choose else wS,λi=> ?_,λt σ r h=> ?_⟩;have h:∃j,S j=((S i).1,(S i).2):=⟨i,O⟩;grind;by_cases h1:∃i,S i=(t,σ);grind;simp_all
def chS(E:kW){X Y:Type}(b:X->wW->MF)(c:Y->wW->MF)(g:N J->X->V (N J×(X⊕Y)))(n a:J)(x:X)(xs:N J):Sg:=
 ⟨2,[(4,0,.ow 1),(0,0,.yd 0),(1,0,.q .i n),(2,0,.q .i a)],[(1,.own .i E xs),(0,.hid .i E X Y b c g x)]⟩
section
variable{P:uS}{fr:Fr}{σ:Sg}{H:xj}{w:qR}{E:kW}{X Y:Type}{mX:X->wW->MF}{mY:Y->wW->MF}{g:ww wF->X->wN (ww wF×(X⊕Y))}{n all:wF}{x:X}{y:Y}{xs:ww wF}{o p:wL}
theorem znJ(c:get ⟨0,[],[]⟩ σ 4 0=Z (.ow p))(h0:get ⟨0,[],[]⟩ σ 0 0=Z (.yd o))(h1:get ⟨0,[],[]⟩ σ 1 0=Z (.q .i n))(d:get ⟨0,[],[]⟩ σ 2 0=Z (.q .i all))(f:xB σ.ob o=Z (.hid .i E X Y mX mY g x))(hp:xB σ.ob p=Z (.own .i E xs))
 (hc:R o p=I) (h:uK P fr ⟨0,[],[]⟩ σ H w):uK P fr ⟨0,[],[]⟩ (chS E mX mY g n all x xs) H w:=by
 have⟨s,vs,hd⟩:=h;have j:=nK hc f hp hd;refine⟨⟨λe a=> ?_,λ_ a=>jp a H1,λe a q l=> ?_,λ_ a=>jp a H1⟩,λk=>if k=0 then vs o else vs p,?_⟩;simp only[chS,xai,H1,mK]at a⊢;grind;simp only[chS,xai,H1,mK]at a⊢;obtain rfl|rfl|rfl|rfl:=a<;>cases l<;>simp
 have m:St fr.we fr.Se ([Ug vs (o,.hid .i E X Y mX mY g x),Ug vs (p,.own .i E xs)]++(MS vs (yE (yE σ.ob o) p)++fr.F)) (GS P vs H fr ⟨0,[],[]⟩ σ) w:=j;have r:St fr.we fr.Se ([Ug vs (p,.own .i E xs),Ug vs (o,.hid .i E X Y mX mY g x)]++fr.F) (GS P vs H fr ⟨0,[],[]⟩ σ) w:=(St.dropM m).perm<|xdS ..;refine r.weak λS w b=>⟨?_,?_,?_,?_,?_⟩;exact Y9 b 4 0 _ c;exact Y9 b 0 0 _ h0;exact Y9 b 1 0 _ h1;exact Y9 b 2 0 _ d;exact zC.right<|zC.right b
def zpt{t:Ty}{g:N t.D->X->V (N t.D×(X⊕Y))}(a:xB σ.ob o=Z (.hid t E X Y mX mY g x))(h:uK P fr ⟨0,[],[]⟩ σ H w):∃b,St fr.we fr.Se (mX x b::fr.F) fr.G w:=by have⟨f,vs,hc⟩:=h;have⟨_,c⟩:=St.unpr<|St.grp.1<|qT a hc;have d:=c;exact⟨_,(St.dropM d).weak λS w e=>zC.right<|zC.right e⟩
def zqr(a:xB σ.ob o=Z (.hiy Y mY y))(h:uK P fr ⟨0,[],[]⟩ σ H w):∃b,St fr.we fr.Se (mY y b::fr.F) fr.G w:=by have⟨f,vs,hc⟩:=h;have c:=qT a hc;have d:St fr.we fr.Se ([mY y<|(xX<|vs o).headD Z9]++(MS vs (yE σ.ob o)++fr.F)) (GS P vs H fr ⟨0,[],[]⟩ σ) w:=c;exact⟨_,(St.dropM d).weak λS w e=>zC.right<|zC.right e⟩
end
end
section
section
variable{P:uS}
def zqg{U:Type}{f:XS}{args:Z3 wW}{Γ:N FF}{wt:U->wW}{b:U->N FF}{ok:U->Prop}(h:Fn P f args Γ wt b ok):FnG P f args [] Γ wt (λ_=>[]) b ok:=by rintro we Se F G w ⟨h1,j,l,S,n,c,o,d,g⟩;refine(h w S c<|zC.left g).mono ?_;rintro e w' ⟨u,e1,p,a,q⟩;exact⟨u,e1,p,h1.trans a,j,l,S,n,λk r=>c k<|xal a.size r,o,yP.keep a.to (λm s i hi=>a.block i (yP.lt d m s i hi) jP) d,zC.append q<|zC.keep a.to<|zC.right g⟩
def FnG.to{U V:Type}{f:XS}{args:Z3 wW}{ms:N MF}{Γ:N FF}{wt:U->wW}{own:U->N MF}{i:U->N FF}{ok:U->Prop}{b:V->wW}{c:V->N MF}{a:V->N FF}{d:V->Prop}
 (h:FnG P f args ms Γ wt own i ok) (g:U->V) (h1:∀u,wt u=b (g u)) (l:∀u,own u=c (g u)) (m:∀u,ok u->d (g u)) (n:∀u,ok u->∀S w,zC S (i u) w->zC S (a<|g u) w):FnG P f args ms Γ b c a d:=by
 intro we Se F G w hc;refine(h we Se F G w hc).mono ?_;rintro e w' ⟨u,e1,j,o⟩;exact⟨g u,by rw[e1,h1],m u j,by rw[<-l];exact o.weak λS w k=>zC.append (n u j S w<|zC.left k)<|zC.right k⟩
def zoA{f:XS}{s t:Ty}{M:s.D->V t.D}(a:Bq P f=wT)(h:∀x r v,M x=Z r->Fn P f [v].toArray [fV s.rep x v] (λu:wW=>u) (λu=>[fV t.rep r u]) (λ_=>Wr)):yU P ⟨f,[.d s],[.d t],λx=>M x.1,0⟩:=by
 refine⟨a,λx r b vs hl=> ?_⟩
 match vs,hl with
 |[v],_=>exact(zqg<|h x.1 r v b).to (λu=>[u]) (λ_=>O) (λ_=>O) (λ_ _=>O) λu _ S w c=>c
end
end
section
def HOK(P:uS)(f:XS)(T:kW):Prop:=Bq P f=wT/\
 (∀(v:wW) we Se F G w,St we Se F G w->CallsDIn xcR 0 P f #[v] .returning w λe u w'=>(∃r,e=.returned r)/\u=.returning/\St we Se F G w')/\
 ∀(v:wW) (E:kW) (z x:J) we Se F G w,WQ x->St we Se (mP (Ty.i).rep.c E v z::F) G w->
  CallsDIn xcR 0 P f #[v] (.panicking<|tF (T,x)) w λe u w'=>(∃r,e=.returned r)/\settle u=.returning/\St we Se (mP (Ty.i).rep.c E v x::F) G w'
def zb4(cf:Cf)(fn:WT)(cod:N RM)(σ:Sg):V (bZ cod):=C8 cf (JW σ fn.results.toList cod) fn.results.toList cod λy _=>Z y
def zsB(cf:Cf)(fn:WT)(cod:N RM)(t:Wf)(e:J)(σ:Sg):V (bZ cod):=match get ⟨0,[],[]⟩ σ t 0 with
 |some (.vs o _)=>(match xB σ.ob o with
  |some (.var .i E _)=>zb4 cf fn cod ⟨σ.nx,σ.rg,kj σ.ob o (.var .i E e)⟩
  |_=>wS)
 |_=>wS
def zpa(cf:Cf)(fn:WT)(cod:N RM)(c:Wn)(t:Wf)(T:kW)(σ:Sg):V (bZ cod):=match get ⟨0,[],[]⟩ σ t 0 with
 |some (.vs o s)=>den cf c ⟨0,[(t,0,.vs o s)],[]⟩ σ λtg σ=>(match tg with
  |.r=>zb4 cf fn cod σ
  |.n=>zb4 cf fn cod σ
  |.p q=>ck (q.1=T)<|ck (WQ q.2)<|zsB cf fn cod t q.2 σ
  |_=>wS)
 |_=>wS
def zqd(cf:Cf)(fn:WT)(dom:N AM)(cod:N RM)(hd:XS)(T:kW)(x:cj dom):V (bZ cod):=match fn.body with
 |some (.seq c1 (.seq (.region _ a I) c2))=>(match a.toList with
  |[⟨wS,.defer ⟨.value (.func f),b,_⟩,_,_,_,wS⟩]=>(match b.toList with
   |[.tmp t]=>ju (R f hd && (PK fn.ntmps c1 && (PK fn.ntmps c2 && xft (X dom) fn.ntmps)))<|
    let y:=Yf dom x 0
    den cf c1 ⟨0,[],[]⟩ ⟨X dom,y.1,y.2⟩ λtg σ=>(match tg with
     |.n=>zpa cf fn cod c2 t T σ
     |_=>wS)
   |_=>wS)
  |_=>wS)
 |_=>wS
section
variable{P:uS}{cf:Cf}{fr:Fr}{cx σ:Sg}{H:xj}{w:qR}
def zoK(d:yT P cf.tt){fn:WT}{cod:N RM}{r:bZ cod}{we:qR}{Se:K->Prop}{F:N MF}{G:N FF}(h:zb4 cf fn cod σ=Z r)(e:uK P ⟨we,Se,F,G⟩ ⟨0,[],[]⟩ σ H w)(a:V6)(f:ya a=H):
 ∃v,(V4 fn a.tmps).run P w=.ok v w/\∃u:N wW,xeu v=.returned (Zg u)/\X u=X cod/\St we Se (kz cod r u++F) (ks cod r u++G) w:=by
 unfold zb4 at h;have hc:=Qf fn.results.toList cod e;generalize JW σ fn.results.toList cod=c at h hc;have⟨k,vs,hd⟩:=hc;have⟨y,os,e1,g⟩:=FI d h;cases e1;have⟨us,h1,i,j⟩:=g vs ⟨we,Se,F,G⟩ H _ _ (λS w b t=>Y9 b t) hd;refine⟨_,Zh (rs:=fn.results.toList) (by rw[xcy])<|f▸i,us,O,h1,?_⟩;exact(St.dropM (B:=MS vs<|vb c.ob os) j).weak λS w b=>zC.append (zC.left b)<|zC.right<|zC.right b
def Th{rg:N (K×K×Dv)}(h:uK P fr ⟨0,rg,[]⟩ σ H w):uK P fr ⟨0,[],[]⟩ σ H w:=by have⟨a,vs,hc⟩:=h;exact⟨⟨a.o1,λ_ h=>jp h H1,a.r1,λ_ h=>jp h H1⟩,vs,hc.weak λS w b=>zC.append (zC.left b)<|zC.append jP<|zC.right<|zC.right b⟩
def ziN{t:K}{dv:Dv}(d:get ⟨0,[],[]⟩ σ t 0=Z dv)(h:uK P fr ⟨0,[],[]⟩ σ H w):uK P fr ⟨0,[(t,0,dv)],[]⟩ σ H w:=by
 have⟨a,vs,hc⟩:=h;have c:(t,0,dv)∈σ.rg:=by
  obtain h|h:=DB d
  exact h;exact jp h H1
 refine⟨⟨a.o1,λ_ h=>jp h H1,a.r1,λe f=>by rw[xad.1 f];exact a.r1 _ c⟩,vs,hc.weak λS w b=>zC.append (zC.left b)<|zC.append ⟨Kv (zC.left b) c,jP⟩<|zC.right<|zC.right b⟩
def dk{F:oS}{n:K}{fn:WT}{tmps:Z3 wW}{u:FrameMode}{ds:N oK}{Q:fD->qR->Prop}(a:u≠ .run):∀{Ds:N K}{w:qR},lS Ds w->V0 F n P fn tmps Q ds u (wY Ds w)->V0 F n P fn tmps Q (Ds.map Ri++ds) u w
 |[],w,_,h=>h
 |D::Ds,w,b,h=>⟨a,.inl ⟨D,_,O,bV b.1,dk a b.2 h⟩⟩
def IX{fn:WT}{tmps:Z3 wW}{u:FrameMode}{ds:N oK}{f:XS}{v:wW}{Q:fD->qR->Prop}(b:Bq P f=wT)(c:u≠ .run)
 (h:CallsDIn xcR 0 P f #[v] u w λe a w'=>(∃r,e=.returned r)/\V0 xcR 0 P fn tmps Q ds (settle a) w'):V0 xcR 0 P fn tmps Q ({target:=.fn (.func f) #[],args:= #[v]}::ds) u w:=by
 refine⟨c,.inr ⟨λe=>by simp[xcR]at e,_,_,f,#[v],O,by simp[V1,qb b],λ_ _=>jP,CallsDIn.mono h ?_⟩⟩;rintro e a w' ⟨⟨r,rfl⟩,h⟩;exact h
def zod(hm:P.follows .mixedOrders=wT)(R:yT P cf.tt)(hL:uf P cf.tt)(hC:∀s∈cf.cs,yU P s)(hX:BZ P cf){s:Wq}{fn:WT}
 (hf:P.funcs[s.f]? =Z fn) (hb:Bq P s.f=wT) (z:s.bk=0) {hd:XS}{T:kW} (D:HOK P hd T) (hM:∀x r,s.M x=Z r->zqd cf fn s.dom s.cod hd T x=Z r):yU P s:=by
 refine⟨hb,λx r h vs hE=> ?_⟩;rw[z];show FnG P s.f vs.toArray (jW s.dom x vs) (jC P s.dom x vs) Zg (λus=>kz s.cod r us) (λus=>ks s.cod r us) (λus=>X us=X s.cod);have h:=hM x r h;unfold zqd at h;split at h;rename_i c1 id y c2 hc;split at h;rename_i f g ts ty m7 xS h0;split at h;rename_i t h3;have⟨ho,hz⟩:=yf h;clear h;simp only[xae]at ho;have⟨hJ,hK,hN,hn⟩:=ho;obtain rfl:=yb hJ;intro we Se F G w hO;refine callsIn_wide.1<|aP (n:=0) hf hc jP ?_;have hn:=xbF hn;have hP:cH (ya ⟨vs.toArray++xdh (fn.ntmps-vs.toArray.size) Z9,[]⟩) ((vs.zipIdx 0).map λx=>(x.2,x.1)):=by refine K9 vs 0 _ λj=> ?_;rw[cY];simp[xbx,UV]
 have e0:∀j v,vs[j]? =Z v->vs.getD (0+j) Z9=v:=λj v E=>by rw[xaD,UV,E];rfl
 have hA:=Ym (fr:=⟨we,Se,F,G⟩) (N:=Nd.of fn.ntmps) (Ds:=[]) (H:=L ((vs.zipIdx 0).map λx=>(x.2,x.1))<|ya ⟨vs.toArray++xdh (fn.ntmps-vs.toArray.size) Z9,[]⟩) (w:=w) hm R hL hC hX c1 hK O (.inl O) hz
  (Q:=λe Ds H w=>e=.normal/\∃σ,zpa cf fn s.cod c2 t T σ=Z r/\uK P (Fr.wd ⟨we,Se,F,G⟩ Ds) ⟨0,[],[]⟩ σ H w)
  (λt m6 z Ds H w _ A=>by
   cases t with
   |n=>exact⟨O,m6,z,A⟩
   |x j=>cases z
   |r=>cases z
   |p q=>cases z) (by
   refine⟨⟨λe c=> ?_,λ_ c=>jp c H1,λe c p hp=> ?_,λ_ c=>jp c H1⟩,λo=>vs.getD o Z9,?_⟩;have:=Fg e c;simpa using this;have:=sj e c p hp;simpa using this;have e1:MS (λo=>vs.getD o Z9) (Yf s.dom x 0).2=jW s.dom x vs:=E9 hE e0;show St we Se (MS _ (Yf s.dom x 0).2++([]++F)) _ w;rw[e1];exact hO.weak λS w i=>zC.append (Fw hE (λj v E=>⟨e0 j v E,GH E⟩)<|zC.left i)<|zC.right i)
 refine gS<|WD (hA _ (by simp[Nd.of];lia) O (Ui hP).symm) ?_;rintro e l w1 ⟨q1,d,q2,rfl,a0,J,hQ⟩;show(Code.seq (.region id y I) c2).wpIn xcR 0 P _ l w1;unfold zpa at J;split at J;rename_i o st hg;have hS:(uP (ev<|ya l) ⟨wS,.defer ⟨.value (.func f),g,ts⟩,ty,m7,xS,wS⟩).run P w1=.ok (.defer {target:=.fn (.func f) #[],args:= #[ya l t]}) w1:=by
  obtain rfl:g= #[.tmp t]:=by cases g;simp_all
  simp[uP,WN,xcX,ev]
 have hG:y=[⟨wS,.defer ⟨.value (.func f),g,ts⟩,ty,m7,xS,wS⟩].toArray:=by cases y;simp_all
 refine gS ?_;rw[hG];refine cS ?_;unfold WW;rw[iq<|by rfl];unfold Oper.wpIn;refine⟨λ_ _=>jP,?_⟩;rw[Uo];rw[show xcR.round=wS from O,Oper.semAt_none,hS];rw[Oper.uponIn_defer];refine ii ?_
 have m:=Ym (fr:=Fr.wd ⟨we,Se,F,G⟩ d) (N:=⟨fn.ntmps,{target:=.fn (.func f) #[],args:= #[ya l t]}::d.map Ri,wS⟩) (Ds:=[]) (H:=ya l) (w:=w1) hm R hL hC hX c2 hN O (.inl O) J
  (Q:=λe Ds H w=>∀a:V6,ya a=H->a.defers=Ds.map Ri++{target:=.fn (.func f) #[],args:= #[ya l t]}::d.map Ri->bodyPostM xcR 0 P fn (λe w'=>∃u:ww wW,e=.returned (Zg u)/\X u=X s.cod/\St we Se (kz s.cod r u++F) (ks s.cod r u++G) w') e a w)
  (λtg U hi B b w2 hU K=> ?_) (ziN hg hQ)
 refine WD (m _ q1 (by show _::_=_;rw[q2];simp[Nd.of]) O) ?_;rintro e a' w' ⟨p1,B,p2,p3⟩;exact p3 a' O p2
 have⟨hF,K⟩:=Yq K;have hV:b t=ya l t:=hU _<|xad.2 O;have C:∀{σ:Sg}{w':qR}{a:V6},zb4 cf fn s.cod σ=Z r->uK P (Fr.wd ⟨we,Se,F,G⟩ d) ⟨0,[],[]⟩ σ b w'->ya a=b->V0 xcR 0 P fn a.tmps (λe w'=>∃u:ww wW,e=.returned (Zg u)/\X u=X s.cod/\St we Se (kz s.cod r u++F) (ks s.cod r u++G) w') (d.map Ri) .returning w':=λ{σ w' a} c A k=>by
  have⟨hI,A⟩:=Yq A;exact Xf hI<|zoK R c A a k
 have yu:zb4 cf fn s.cod U=Z r->∀a:V6,ya a=b->a.defers=B.map Ri++{target:=.fn (.func f) #[],args:= #[ya l t]}::d.map Ri->V0 xcR 0 P fn a.tmps (λe w'=>∃u:ww wW,e=.returned (Zg u)/\X u=X s.cod/\St we Se (kz s.cod r u++F) (ks s.cod r u++G) w') a.defers .returning w2:=λc a k hl=>by
  rw[hl];refine dk rC hF<|IX D.1 rC ?_;have⟨m,vs2,ht⟩:=Th K;refine CallsDIn.mono (D.2.1 _ _ _ _ _ _ ht) ?_;rintro e u w' ⟨V,rfl,Y⟩;exact⟨V,C c ⟨m,vs2,Y⟩ k⟩
 cases tg with
 |n=>exact λa k hl=>yu hi a k hl
 |r=>exact λa k hl=>yu hi a k hl
 |x j=>cases hi
 |p q=>
  have⟨hW,hi⟩:=ZW hi;have⟨hY,hi⟩:=ZW hi;unfold zsB at hi;split at hi;rename_i o2 s2 hZ;split at hi;rename_i E2 z2 hw;intro a k hl;show V0 xcR 0 P fn a.tmps _ a.defers (.panicking<|tF q) w2;rw[hl];refine dk rC hF<|IX D.1 rC ?_;have⟨m,vs2,ht⟩:=Th K;have⟨S0,_,i⟩:=ht.ex;have hv:b t=vs2 o2:=(Y9 i t 0 _ hZ).1;have hq:tF q=tF (T,q.2):=by rw[<-hW]
  rw[hq,<-hV,hv];refine CallsDIn.mono (D.2.2 _ E2 z2 q.2 _ _ _ _ _ hY<|qT hw ht) ?_;rintro e u w' ⟨V,hu,Y⟩;refine⟨V,?_⟩;rw[hu];refine C hi ⟨⟨λe c=> ?_,m.o2,m.r1,m.r2⟩,vs2,?_⟩ k;have⟨e',h1,h2⟩:=Qn hw e c;rw[<-h2];exact m.o1 e' h1;exact sF hw Y;cases hi
  cases hi
 cases J
 cases h
 cases h
 cases h
end
end
section
set_option maxRecDepth 100000
variable{cs:ww Wq}{fu:wL}{s:Wq}{ps:ww J2}
def tt:N (K×TI):=[(2,⟨.i,.int .i64,8⟩),(3,⟨.i,.int .i64,8⟩),(4,⟨.b,.bool,1⟩),(5,⟨.ch,.int .u8,1⟩),(6,⟨.ch,.int .u8,1⟩),(7,⟨(.p .i (.p .i (.p .b .ch))),.st 4,24⟩),(8,⟨(.p .i (.p .i (.p .b .ch))),.st 4,24⟩),(9,⟨.tx,.str,16⟩),(10,⟨.tx,.str,16⟩),(11,⟨.tx,.str,16⟩),(12,⟨.u,.int .u64,8⟩),(13,⟨(.p .tx .u),.st 2,24⟩),(14,⟨(.p .tx .u),.st 2,24⟩),(22,⟨(.l (.p .b (.l .u))),.sl 44,24⟩),(23,⟨(.l (.l (.p (.p .b (.l .u)) (.l .u)))),.sl 41,24⟩),(25,⟨(.po (.w1 (.p (.l (.p .b (.l .u))) (.l (.p (.p .b (.l .u)) (.l .u)))))),.pt 104,8⟩),(29,⟨.i,.int .i64,8⟩),(41,⟨(.l (.p (.p .b (.l .u)) (.l .u))),.sl 46,24⟩),(42,⟨(.l .u),.sl 73,24⟩),(43,⟨(.p .b (.l .u)),.st 2,32⟩),(44,⟨(.p .b (.l .u)),.st 2,32⟩),(45,⟨(.p (.p .b (.l .u)) (.l .u)),.st 2,56⟩),(46,⟨(.p (.p .b (.l .u)) (.l .u)),.st 2,56⟩),(57,⟨(.l (.p (.l (.p .b (.l .u))) .i)),.sl 61,24⟩),(60,⟨(.p (.l (.p .b (.l .u))) .i),.st 2,32⟩),(61,⟨(.p (.l (.p .b (.l .u))) .i),.st 2,32⟩),(73,⟨.u,.int .u64,8⟩),(76,⟨(.l (.l (.l (.p (.p .b (.l .u)) (.l .u))))),.sl 23,24⟩),(78,⟨(.po .i),.pt 29,8⟩),(80,⟨(.w1 (.po (.w1 (.p (.l (.p .b (.l .u))) (.l (.p (.p .b (.l .u)) (.l .u))))))),.st 0,8⟩),(81,⟨(.w1 (.po (.w1 (.p (.l (.p .b (.l .u))) (.l (.p (.p .b (.l .u)) (.l .u))))))),.st 0,8⟩),(100,⟨(.p (.l (.p .b (.l .u))) (.l (.p (.p .b (.l .u)) (.l .u)))),.st 2,48⟩),(101,⟨(.p (.l (.p .b (.l .u))) (.l (.p (.p .b (.l .u)) (.l .u)))),.st 2,48⟩),(103,⟨(.w1 (.p (.l (.p .b (.l .u))) (.l (.p (.p .b (.l .u)) (.l .u))))),.st 0,48⟩),(104,⟨(.w1 (.p (.l (.p .b (.l .u))) (.l (.p (.p .b (.l .u)) (.l .u))))),.st 0,48⟩),(105,⟨(.l (.l (.p .b (.l .u)))),.sl 22,24⟩),(125,⟨(.l .i),.sl 3,24⟩),(127,⟨(.w1 .i),.st 0,8⟩),(128,⟨(.w1 .i),.st 0,8⟩),(150,⟨(.po (.p (.l (.p .b (.l .u))) (.p (.l (.p .b (.l .u))) (.p (.p .b (.l .u)) (.p (.p .b (.l .u)) .b))))),.pt 152,8⟩),(151,⟨(.p (.l (.p .b (.l .u))) (.p (.l (.p .b (.l .u))) (.p (.p .b (.l .u)) (.p (.p .b (.l .u)) .b)))),.st 5,120⟩),(152,⟨(.p (.l (.p .b (.l .u))) (.p (.l (.p .b (.l .u))) (.p (.p .b (.l .u)) (.p (.p .b (.l .u)) .b)))),.st 5,120⟩),(159,⟨(.l .tx),.sl 9,24⟩),(172,⟨(.l (.l .i)),.sl 125,24⟩),(190,⟨(.l .ch),.sl 5,24⟩),(218,⟨.u,.int .u64,8⟩),(221,⟨(.po .ch),.pt 5,8⟩),(272,⟨(.a 4 (.l (.p .b (.l .u)))),.ar 4 22,96⟩),(273,⟨(.a 4 (.l (.p .b (.l .u)))),.ar 4 22,96⟩),(278,⟨.i,.int .i64,8⟩),(300,⟨(.a 3 (.l .i)),.ar 3 125,72⟩),(301,⟨(.a 3 (.l .i)),.ar 3 125,72⟩),(308,⟨.u,.int .u64,8⟩),(312,⟨(.po .i),.pt 3,8⟩),(324,⟨(.p (.l (.p .b (.l .u))) (.l (.l (.p .b (.l .u))))),.st 2,48⟩),(325,⟨(.p (.l (.p .b (.l .u))) (.l (.l (.p .b (.l .u))))),.st 2,48⟩),(328,⟨(.po (.p (.p (.l (.p .b (.l .u))) (.l (.l (.p .b (.l .u))))) (.l (.l (.p .b (.l .u)))))),.pt 330,8⟩),(329,⟨(.p (.p (.l (.p .b (.l .u))) (.l (.l (.p .b (.l .u))))) (.l (.l (.p .b (.l .u))))),.st 2,72⟩),(330,⟨(.p (.p (.l (.p .b (.l .u))) (.l (.l (.p .b (.l .u))))) (.l (.l (.p .b (.l .u))))),.st 2,72⟩),(334,⟨(.p (.p .b (.l .u)) (.p (.p .b (.l .u)) (.p .b (.l .u)))),.st 3,96⟩),(335,⟨(.p (.p .b (.l .u)) (.p (.p .b (.l .u)) (.p .b (.l .u)))),.st 3,96⟩),(337,⟨(.po .u),.pt 308,8⟩),(347,⟨(.po (.w1 .tx)),.pt 362,8⟩),(354,⟨.ch,.int .u8,1⟩),(355,⟨.ch,.int .u8,1⟩),(361,⟨(.w1 .tx),.st 0,16⟩),(362,⟨(.w1 .tx),.st 0,16⟩)]
def ex:N (K×ut):=[(180,wT),(226,I)]
def tA{t:kW}{a:TI}{tt:N (K×TI)}(b:Tt Tryz.prog t a)(k:yT Tryz.prog tt)(h1:tyB Tryz.prog t=Z (a.ty.rep.agg,a.ty.n,a.B,Z<|a.ty.rep.val<|zc a.ty):=by kernel_rfl)(c:(xda 0 a.B && xda 0 a.ty.n)=wT:=by kernel_rfl):yT Tryz.prog ((t,a)::tt):=yT.add h1 c b k
def CW:yT Tryz.prog tt:=tA (id (by kernel_rfl:Tryz.prog.underlying 2=Z (.int .i64)))<|
 tA (id (by kernel_rfl:Tryz.prog.underlying 3=Z (.int .i64)))<|
 tA (id (by kernel_rfl:Tryz.prog.underlying 4=Z .bool))<|
 tA (id (by kernel_rfl:Tryz.prog.underlying 5=Z (.int .u8)))<|
 tA (id (by kernel_rfl:Tryz.prog.underlying 6=Z (.int .u8)))<|
 tA ⟨O,rO⟩<|
 tA ⟨O,rO⟩<|
 tA (id (by kernel_rfl:Tryz.prog.underlying 9=Z .string))<|
 tA (id (by kernel_rfl:Tryz.prog.underlying 10=Z .string))<|
 tA (id (by kernel_rfl:Tryz.prog.underlying 11=Z .string))<|
 tA (id (by kernel_rfl:Tryz.prog.underlying 12=Z (.int .u64)))<|
 tA ⟨O,rO⟩<|
 tA ⟨O,rO⟩<|
 tA ⟨rO,_,O⟩<|
 tA ⟨rO,_,O⟩<|
 tA (id (by kernel_rfl:Tryz.prog.underlying 25=Z (.pointer 104)))<|
 tA (id (by kernel_rfl:Tryz.prog.underlying 29=Z (.int .i64)))<|
 tA ⟨rO,_,O⟩<|
 tA ⟨rO,_,O⟩<|
 tA ⟨O,rO⟩<|
 tA ⟨O,rO⟩<|
 tA ⟨O,rO⟩<|
 tA ⟨O,rO⟩<|
 tA ⟨rO,_,O⟩<|
 tA ⟨O,rO⟩<|
 tA ⟨O,rO⟩<|
 tA (id (by kernel_rfl:Tryz.prog.underlying 73=Z (.int .u64)))<|
 tA ⟨rO,_,O⟩<|
 tA (id (by kernel_rfl:Tryz.prog.underlying 78=Z (.pointer 29)))<|
 tA ⟨O,rO⟩<|
 tA ⟨O,rO⟩<|
 tA ⟨O,rO⟩<|
 tA ⟨O,rO⟩<|
 tA ⟨O,rO⟩<|
 tA ⟨O,rO⟩<|
 tA ⟨rO,_,O⟩<|
 tA ⟨rO,_,O⟩<|
 tA ⟨O,rO⟩<|
 tA ⟨O,rO⟩<|
 tA (id (by kernel_rfl:Tryz.prog.underlying 150=Z (.pointer 152)))<|
 tA ⟨O,rO⟩<|
 tA ⟨O,rO⟩<|
 tA ⟨rO,_,O⟩<|
 tA ⟨rO,_,O⟩<|
 tA ⟨rO,_,O⟩<|
 tA (id (by kernel_rfl:Tryz.prog.underlying 218=Z (.int .u64)))<|
 tA (id (by kernel_rfl:Tryz.prog.underlying 221=Z (.pointer 5)))<|
 tA ⟨O,rO⟩<|
 tA ⟨O,rO⟩<|
 tA (id (by kernel_rfl:Tryz.prog.underlying 278=Z (.int .i64)))<|
 tA ⟨O,rO⟩<|
 tA ⟨O,rO⟩<|
 tA (id (by kernel_rfl:Tryz.prog.underlying 308=Z (.int .u64)))<|
 tA (id (by kernel_rfl:Tryz.prog.underlying 312=Z (.pointer 3)))<|
 tA ⟨O,rO⟩<|
 tA ⟨O,rO⟩<|
 tA (id (by kernel_rfl:Tryz.prog.underlying 328=Z (.pointer 330)))<|
 tA ⟨O,rO⟩<|
 tA ⟨O,rO⟩<|
 tA ⟨O,rO⟩<|
 tA ⟨O,rO⟩<|
 tA (id (by kernel_rfl:Tryz.prog.underlying 337=Z (.pointer 308)))<|
 tA (id (by kernel_rfl:Tryz.prog.underlying 347=Z (.pointer 362)))<|
 tA (id (by kernel_rfl:Tryz.prog.underlying 354=Z (.int .u8)))<|
 tA (id (by kernel_rfl:Tryz.prog.underlying 355=Z (.int .u8)))<|
 tA ⟨O,rO⟩<|
 tA ⟨O,rO⟩<|
 yT.nil
def Gy:uf Tryz.prog tt:=uf.of rO
def Hn:ri Tryz.prog ex:=ri.add Tryz.func180 rO rO rO (λ_=>by kernel_rfl) (λh=>by cases h)<|
 ri.add Tryz.func226 rO rO rO (λh=>by cases h) (λ_=>by kernel_rfl)<|
 ri.nil
def DY:Tryz.prog.follows .mixedOrders=wT:=rO
def sg(an:An){fn:WT}(a:Tryz.prog.funcs[s.f]? =Z fn)(b:∀s∈cs,yU Tryz.prog s)(c:Bq Tryz.prog s.f=wT)(d:∀x,zbQ ⟨tt,cs,an,fu,ex,[],[],[],[]⟩ fn s.dom s.cod x=s.M x)(e:s.bk=0:=by rfl):yU Tryz.prog s:=
 sgP DY CW Gy Hn O an a b c e d
def sq(fu:K)(an:An){fn:WT}(a:Tryz.prog.funcs[s.f]? =Z fn)(b:∀s∈cs,yU Tryz.prog s)(c:Bq Tryz.prog s.f=wT:=by kernel_rfl)(d:∀x,zbQ ⟨tt,cs,an,fu,ex,[],[],[],[]⟩ fn s.dom s.cod x=s.M x:=by intro x;kernel_rfl)(e:s.bk=0:=by rfl):yU Tryz.prog s:=sg an a b c d e
abbrev q1(S:N (K×TF))(j:K)(T:N (K×TF)):Lp:=⟨⟨S,[]⟩,⟨[],[(.x j,⟨T,[]⟩)]⟩⟩
abbrev zW(s:Wq):Prop:=yU Tryz.prog s
def f8{zs:N (K->Wq)}{s:Wq}(fu:K)(an:An){fn:WT}(c:Tryz.prog.funcs[s.f]? =Z fn)(d:∀s∈zs,∀fu,zW (s fu))(e:Bq Tryz.prog s.f=wT:=by kernel_rfl)(g:∀x,zbQ ⟨tt,zs.map λs=>s fu,an,fu,ex,[],[],[],[]⟩ fn s.dom s.cod x=s.M x:=by intro x;kernel_rfl)(i:s.bk=0:=by rfl):zW s:=sq fu an c (λq h=>by obtain⟨a,b,rfl⟩:=List.mem_map.1 h;exact d a b fu) e g i
abbrev f9(x:N (K×Lp)):An:=⟨[],[],x,[],[],[],[]⟩
abbrev g8(y:N (K×Sgm))(x:N (K×Lp)):An:=⟨[],y,x,[],[],[],[]⟩
abbrev vv1{A R:Type}(f:A->R)(x:A×Wd):R:=f x.1
abbrev vv2{A B R:Type}(f:A->B->R)(x:A×B×Wd):R:=f x.1 x.2.1
abbrev vv3{A B C R:Type}(f:A->B->C->R)(x:A×B×C×Wd):R:=f x.1 x.2.1 x.2.2.1
abbrev vv4{A B C D R:Type}(f:A->B->C->D->R)(x:A×B×C×D×Wd):R:=f x.1 x.2.1 x.2.2.1 x.2.2.2.1
abbrev vv5{A B C D G R:Type}(f:A->B->C->D->G->R)(x:A×B×C×D×G×Wd):R:=f x.1 x.2.1 x.2.2.1 x.2.2.2.1 x.2.2.2.2.1
def ee0:∀s∈([]:N (K->Wq)),∀fu,zW (s fu):=λ_ h=>nomatch h
def d9{s:K->Wq}{l:N (K->Wq)}(h:∀fu,zW (s fu))(k:∀s∈l,∀fu,zW (s fu)):∀q∈s::l,∀fu,zW (q fu):=λq a=>by cases a with
 |head=>exact h
 |tail _ b=>exact k q b
section
variable{c1 c2 c3 c4 c5 c6 c7 c8 c9 c10 c11:wL->Wq}(h1:∀fu,zW (c1 fu))(h2:∀fu,zW (c2 fu))(h3:∀fu,zW (c3 fu))(h4:∀fu,zW (c4 fu))(h5:∀fu,zW (c5 fu))(h6:∀fu,zW (c6 fu))(h7:∀fu,zW (c7 fu))(h8:∀fu,zW (c8 fu))(h9:∀fu,zW (c9 fu))(h10:∀fu,zW (c10 fu))(h11:∀fu,zW (c11 fu))
def ee1:=d9 h1<|ee0
def ee2:=d9 h1 (ee1 h2)
def ee3:=d9 h1 (ee2 h2 h3)
def ee4:=d9 h1 (ee3 h2 h3 h4)
def ee5:=d9 h1 (ee4 h2 h3 h4 h5)
def ee6:=d9 h1 (ee5 h2 h3 h4 h5 h6)
def ee7:=d9 h1 (ee6 h2 h3 h4 h5 h6 h7)
def ee8:=d9 h1 (ee7 h2 h3 h4 h5 h6 h7 h8)
def ee9:=d9 h1 (ee8 h2 h3 h4 h5 h6 h7 h8 h9)
def e10:=d9 h1 (ee9 h2 h3 h4 h5 h6 h7 h8 h9 h10)
def e11:=d9 h1 (e10 h2 h3 h4 h5 h6 h7 h8 h9 h10 h11)
end
abbrev xL:An:=⟨[],[],[],[],[],[],[]⟩
abbrev yG:Ty:=.l (.p .b (.l .u))
abbrev zk:Ty:=.p .b (.l .u)
abbrev tzQ:Ty:=.l (.l (.p .b (.l .u)))
abbrev zw:Ty:=.l .u
abbrev d7:Ty:=.p zk zw
abbrev d8:Ty:=.l d7
abbrev xg:Ty:=.l .i
def sgb(an:An){fn:WT}(a:Tryz.prog.funcs[s.f]? =Z fn)(b:∀s∈cs,yU Tryz.prog s)(c:Bq Tryz.prog s.f=wT)(d:∀e x,zlO ⟨tt,cs,an,fu,ex,[],[],[],[]⟩ fn s.dom s.cod s.bk e x=s.M x):yU Tryz.prog s:=
 sgG DY CW Gy Hn O an a b c d
def sgp(an:An){p:J2}{fn:WT}(a:Tryz.prog.funcs[p.s.f]? =Z fn)(b:∀s∈cs,yU Tryz.prog s)(c:∀q∈ps,PN Tryz.prog q)(d:Bq Tryz.prog p.s.f=wT)(e:∀x,zkK ⟨tt,cs,an,fu,ex,[],[],[],ps⟩ fn p.s.dom p.s.cod x=p.M x)(g:p.s.bk=0:=by rfl):PN Tryz.prog p:=
 zoF (cf:=⟨tt,cs,an,fu,ex,[],[],[],ps⟩) DY CW Gy b ⟨Hn,λ_ h=>jp h H1,λ_ h=>jp h H1,λ_ h=>jp h H1,O,c⟩ a d g λx r h=>(e x).trans h
def sgr(an:An){fn:WT}{hd:XS}{T:kW}(a:HOK Tryz.prog hd T)(b:Tryz.prog.funcs[s.f]? =Z fn)(c:∀s∈cs,yU Tryz.prog s)(d:∀q∈ps,PN Tryz.prog q)(e:Bq Tryz.prog s.f=wT)(g:∀x,zqd ⟨tt,cs,an,fu,ex,[],[],[],ps⟩ fn s.dom s.cod hd T x=s.M x)(i:s.bk=0:=by rfl):yU Tryz.prog s:=
 zod (cf:=⟨tt,cs,an,fu,ex,[],[],[],ps⟩) DY CW Gy c ⟨Hn,λ_ h=>jp h H1,λ_ h=>jp h H1,λ_ h=>jp h H1,O,d⟩ b e i a λx r h=>(g x).trans h
def pN:∀p∈([]:N J2),PN Tryz.prog p:=λ_ h=>jp h H1
theorem pC{s:J2}{l:N J2}(h:PN Tryz.prog s)(k:∀s∈l,PN Tryz.prog s):∀q∈s::l,PN Tryz.prog q:=by grind
end
section
set_option maxRecDepth 100000
section
variable(fu:wL)
def lV(fu:K)(b d:N K):rX J (Wd⊕Wd):=λL a=>if a<(X b:J)then zD a (X b) λe=>B (b.getD e 0) λf=>zD a (X d) λg=>B (d.getD g 0) λh=>if(f:J)=(h:J)then A (a+1) λi=>L i else Z (.inr ())else Z (.inl ())
def XL(a b:N K):V ut:=if(X a:J)=(X b:J)then G (zg (lV fu a b) fu 0) λd=>match d with
 |.inl _=>Z wT
 |.inr _=>Z I else Z I
def JO(a b:U):V ut:=B (a.1==b.1) λd=>if d then G (XL fu a.2 b.2) λe=>Z e else Z I
def JD(a b:D):V ut:=G (JO fu a.1 b.1) λd=>if d then G (XL fu a.2 b.2) λe=>Z e else Z I
def ia(b d:N D):rX J (Wd⊕Wd):=λL a=>if a<(X b:J)then zD a (X b) λe=>B (b.getD e<|((I,[]),[])) λf=>zD a (X d) λg=>B (d.getD g<|((I,[]),[])) λh=>G (JD fu f h) λi=>if !i then Z (.inr ())else A (a+1) λj=>L j else Z (.inl ())
def Xm(a b:N D):V ut:=if(X a:J)=(X b:J)then G (zg (ia fu a b) fu 0) λd=>match d with
 |.inl _=>Z wT
 |.inr _=>Z I else Z I
def iY(b d:N (N D)):rX J (Wd⊕Wd):=λL a=>if a<(X b:J)then zD a (X b) λe=>B (b.getD e []) λf=>zD a (X d) λg=>B (d.getD g []) λh=>G (Xm fu f h) λi=>if !i then Z (.inr ())else A (a+1) λj=>L j else Z (.inl ())
def JC(a b:N (N D)):V ut:=if(X a:J)=(X b:J)then G (zg (iY fu a b) fu 0) λd=>match d with
 |.inl _=>Z wT
 |.inr _=>Z I else Z I
def vY(a b:N (N D)):V ut:=G (JC fu a b) λd=>Z d
def QC(fu:K)(a:N K)(b:J):V K:=if b<(X a:J)then zD b (X a) λd=>B (a.getD d 0) λe=>Z e else Z (0:K)
def mx(b:J)(a:K)(f g:N K):V (K×K):=G (QC fu f b) λd=>G (QC fu g b) λe=>ck (a<=1)<|B ((d+e+a)%18446744073709551616) λh=>B ((d+e+a)/18446744073709551616) λi=>Z (h,i)
def fE(fu:K)(e:J->K->V (K×K))(f:N K):rX (K×J×(N K)) (K×(N K)):=λL (d,a,b)=>if a<(X f:J)then G (e a d) λ(g,h)=>zD a (X b) λi=>B (b.set i g) λt3=>A (a+1) λj=>L (h,j,t3)else Z (d,b)
def qd(d:J)(e:J->K->V (K×K)):V ((N K)×K):=jt d λa=>ck (8*a<=281474976710656)<|B (So a 0) λb=>G (zg (fE fu e b) fu<|((0:K),0,b)) λ(f,g)=>Z (g,f)
def HT(fu:K):rX (N K) (N K):=λL a=>if 0<(X a:J)then A ((X a:J)-1) λd=>zD d (X a) λe=>B (a.getD e 0) λf=>if(f:J)=(((0:K):K):J)then A ((X a:J)-1) λg=>jt g λb=>ck (b<=X a)<|B (a.take b) λh=>L h else Z a else Z a
def w6(a:N K):V (N K):=G (zg (HT fu) fu a) λt3=>Z t3
def U2(fu:K):rX (N K) (N K):=λL a=>if 0<(X a:J)then A ((X a:J)-1) λd=>zD d (X a) λe=>B (a.getD e 0) λf=>if(f:J)=(((0:K):K):J)then A ((X a:J)-1) λg=>jt g λb=>ck (b<=X a)<|B (a.take b) λh=>L h else Z a else Z a
def xt(a:N K):V (N K):=G (zg (U2 fu) fu a) λt3=>Z t3
def ZO(a b:N K):V (N K):=B (max (X a:J)<|(X b:J)) λf=>G (qd fu f<|λc h=>mx fu c h a b) λ(d,e)=>ck ((X d+X ([e]))*8<=140737488355328)<|B (d++([e])) λg=>G (xt fu g) λt3=>Z t3
def YF(fu:K)(a:J):V ut:=if a=a then Z I else Z wT
def uZ(a b:J):V J:=G (YF fu a) λe=>G (YF fu b) λd=>if e then if d then Z 0 else Z (-1:J)else if d then Z 1 else if a<b then Z (-1:J)else if b<a then Z 1 else Z 0
def kM(fu a:K):V ut:=if(a:J)=(a:J)then Z I else Z wT
def jb(a b:K):V J:=G (kM fu a) λe=>G (kM fu b) λd=>if e then if d then Z 0 else Z (-1:J)else if d then Z 1 else if(a:J)<(b:J)then Z (-1:J)else if(b:J)<(a:J)then Z 1 else Z 0
def lJ(b d:N K):rX J (Wd⊕J):=λL a=>if 0<=a then zD a (X b) λe=>B (b.getD e 0) λf=>zD a (X d) λg=>B (d.getD g 0) λh=>if(f:J)=(h:J)then A (a-1) λi=>L i else zD a (X b) λj=>B (b.getD j 0) λk=>zD a (X d) λl=>B (d.getD l 0) λm=>G (jb fu k m) λo=>Z (.inr o)else Z (.inl ())
def Kg(d e:N K):V J:=G (w6 fu d) λa=>G (w6 fu e) λb=>if(X a:J)=(X b:J)then A ((X a:J)-1) λf=>G (zg (lJ fu a b) fu f) λg=>match g with
 |.inl _=>Z 0
 |.inr h=>Z h else G (uZ fu (X a:J)<|(X b:J)) λi=>Z i
def wo(fu:K)(a:N K):V (N K):=ck (X a<=17592186044416)<|some a
def YK(a:N K):V (N K):=G (w6 fu a) λb=>G (wo fu b) λd=>Z d
def mq(fu:K)(b:J)(a1:K)(a:N K)(d:J):V (K×K):=zD b (X a) λg=>B (a.getD g 0) λh=>ck (64≠0)<|B (xcB d 64) λe=>ck (0<=e)<|B (h*2^(min (e:J).toNat 64)%18446744073709551616) λi=>B (i|||a1) λj=>zD b (X a) λk=>B (a.getD k 0) λl=>B (l/2^(min ((1:K):J).toNat 64)) λm=>ck (64≠0)<|B (xcB d 64) λo=>A (63-o) λf=>ck (0<=f)<|B (m/2^(min (f:J).toNat 64)) λp=>Z (j,p)
def Y3(fu:K)(a:N K)(e:J):V (N K):=jt e λb=>ck (8*b<=281474976710656)<|B (So b 0) λd=>ck ((X d+X a)*8<=140737488355328)<|B (d++a) λf=>Z f
def W6(b:N K)(a:J):V ((N K)×J):=if a<0 then Z ([],1)else if 262144<a then Z ([],1)else G (qd fu (X b:J)<|λc i=>mq fu c i b a) λ(d,e)=>ck ((X d+X ([e]))*8<=140737488355328)<|B (d++([e])) λf=>ck (64≠0)<|A (xdv a 64) λg=>G (Y3 fu f g) λt3=>G (xt fu t3) λh=>Z<|(h,0)
def fX(d:J)(m:K)(a:N K)(b:J):V (K×K):=zD d (X a) λf=>B (a.getD f 0) λg=>ck (0<=b)<|B (g/2^(min (b:J).toNat 64)) λh=>A (d+1) λi=>G (QC fu a i) λj=>B (j*2^(min ((1:K):J).toNat 64)%18446744073709551616) λk=>A (63-b) λe=>ck (0<=e)<|B (k*2^(min (e:J).toNat 64)%18446744073709551616) λm4=>B (h|||m4) λl=>Z<|(l,(0:K))
def cM(a:N K)(f:J):V (N K):=B (max f 0) λb=>ck (64≠0)<|A (xdv b 64) λg=>if(X a:J)<=g then Z []else ck (64≠0)<|A (xdv b 64) λh=>jt h λd=>ck (d<=X a)<|B (a.drop d) λe=>ck (64≠0)<|B (xcB b 64) λi=>G (qd fu (X e:J)<|λc l=>fX fu c l e i) λ(j,k)=>G (xt fu j) λt3=>Z t3
def vJ(fu a:K):V J:=G (if(((4294967296:K):K):J)<=(a:J)then B (a/2^(min ((32:K):J).toNat 64)) λg=>Z (g,32)else Z (a,0):V (K×J)) λ(b,e)=>G (if(((65536:K):K):J)<=(b:J)then B (b/2^(min ((16:K):J).toNat 64)) λh=>A (e+16) λi=>Z (h,i)else Z (b,e):V (K×J)) λ(d,f)=>if(((256:K):K):J)<=(d:J)then B (d/2^(min ((8:K):J).toNat 64)) λj=>A (f+8) λk=>B (j%256) λl=>zD (l:J) (X (zaf)) λm=>B ((zaf).getD m 0) λo=>A (k+(o:J)) λp=>Z p else B (d%256) λq=>zD (q:J) (X (zaf)) λr=>B ((zaf).getD r 0) λs=>A (f+(s:J)) λu=>Z u
def xK(a:K):V J:=G (vJ fu a) λb=>A (64-b) λd=>Z d
def jI(fu l m g:K):rX (K×K) K:=λL (a,h)=>if(((4294967296:K):K):J)<=(a:J)then B ((a+18446744073709551616-(1:K))%18446744073709551616) λb=>B ((h+l)%18446744073709551616) λd=>if(((4294967296:K):K):J)<=(d:J)then Z b else L (b,d)else B ((a*m)%18446744073709551616) λi=>B (((4294967296:K)*h)%18446744073709551616) λj=>B ((j+g)%18446744073709551616) λk=>if(k:J)<(i:J)then B ((a+18446744073709551616-(1:K))%18446744073709551616) λe=>B ((h+l)%18446744073709551616) λf=>if(((4294967296:K):K):J)<=(f:J)then Z e else L (e,f)else Z a
def jF(fu k l f:K):rX (K×K) K:=λL (g,a)=>if(((4294967296:K):K):J)<=(a:J)then B ((a+18446744073709551616-(1:K))%18446744073709551616) λb=>B ((g+k)%18446744073709551616) λm32=>if(((4294967296:K):K):J)<=(m32:J)then Z b else L (m32,b)else B ((a*l)%18446744073709551616) λh=>B (((4294967296:K)*g)%18446744073709551616) λi=>B ((i+f)%18446744073709551616) λj=>if(j:J)<(h:J)then B ((a+18446744073709551616-(1:K))%18446744073709551616) λd=>B ((g+k)%18446744073709551616) λe=>if(((4294967296:K):K):J)<=(e:J)then Z d else L (e,d)else Z a
def jh(o l a:wL):V (wL×wL):=if(a:J)=(((0:wL):wL):J)then wS else if(a:J)<=(o:J)then wS else if(o:J)=(((0:wL):wL):J)then ck (a≠0)<|nm (l/a) λM=>ck (a≠0)<|nm (l%a) λN=>Z (M,N)else bd (xK fu a) λt=>nm (Ec t) λf=>nm (a*2^(min (f:J).toNat 64)%18446744073709551616) λm=>nm (m/2^(min ((32:wL):J).toNat 64)) λb=>nm (m &&& (4294967295:wL)) λx=>nm (o*2^(min (f:J).toNat 64)%18446744073709551616) λP=>nm (((64:wL)+18446744073709551616-f)%18446744073709551616) λQ=>nm (l/2^(min (Q:J).toNat 64)) λm9=>nm (P|||m9) λd=>nm (l*2^(min (f:J).toNat 64)%18446744073709551616) λg=>nm (g/2^(min ((32:wL):J).toNat 64)) λh=>nm (g &&& (4294967295:wL)) λi=>ck (b≠0)<|nm (d/b) λj=>nm ((j*b)%18446744073709551616) λp=>nm ((d+18446744073709551616-p)%18446744073709551616) λq=>bd (zg (jI fu b x h) fu (j,q)) λc=>nm ((d*(4294967296:wL))%18446744073709551616) λr=>nm ((r+h)%18446744073709551616) λs=>nm ((c*m)%18446744073709551616) λu=>nm ((s+18446744073709551616-u)%18446744073709551616) λe=>ck (b≠0)<|nm (e/b) λk=>nm ((k*b)%18446744073709551616) λv=>nm ((e+18446744073709551616-v)%18446744073709551616) λw=>bd (zg (jF fu b x i) fu (w,k)) λK=>nm ((c*(4294967296:wL))%18446744073709551616) λy=>nm ((y+K)%18446744073709551616) λA=>nm ((e*(4294967296:wL))%18446744073709551616) λB=>nm ((B+i)%18446744073709551616) λC=>nm ((K*m)%18446744073709551616) λE=>nm ((C+18446744073709551616-E)%18446744073709551616) λG=>nm (G/2^(min (f:J).toNat 64)) λn=>Z (A,n)
def q6(fu a b:K):V (K×K):=B (a &&& (4294967295:K)) λl=>B (a/2^(min ((32:K):J).toNat 64)) λm=>B (b &&& (4294967295:K)) λo=>B (b/2^(min ((32:K):J).toNat 64)) λp=>B ((l*o)%18446744073709551616) λr=>B ((m*o)%18446744073709551616) λs=>B (r/2^(min ((32:K):J).toNat 64)) λu=>B ((s+u)%18446744073709551616) λq=>B (q &&& (4294967295:K)) λv=>B (q/2^(min ((32:K):J).toNat 64)) λd=>B ((l*p)%18446744073709551616) λe=>B ((v+e)%18446744073709551616) λf=>B ((m*p)%18446744073709551616) λg=>B ((g+d)%18446744073709551616) λh=>B (f/2^(min ((32:K):J).toNat 64)) λi=>B ((h+i)%18446744073709551616) λj=>B ((a*b)%18446744073709551616) λk=>Z (j,k)
def bu(i d j:K):rX (K×K) K:=λL (b,a)=>G (q6 fu b j) λ(f,k)=>if(f:J)<(a:J)then Z b else if(f:J)=(a:J)then if(k:J)<=(i:J)then Z b else B ((b+18446744073709551616-(1:K))%18446744073709551616) λg=>ck ((0:K)<=1)<|B ((a+d+(0:K))%18446744073709551616) λl=>B ((a+d+(0:K))/18446744073709551616) λm=>if(((0:K):K):J)<(m:J)then Z g else L (g,l)else B ((b+18446744073709551616-(1:K))%18446744073709551616) λh=>ck ((0:K)<=1)<|B ((a+d+(0:K))%18446744073709551616) λo=>B ((a+d+(0:K))/18446744073709551616) λe=>if(((0:K):K):J)<(e:J)then Z h else L (h,o)
def U6(b d e a f:K):V K:=if(a:J)<=(b:J)then Z (18446744073709551615:K)else G (jh fu b d a) λ(g,h)=>G (zg (bu fu e a f) fu (g,h)) λi=>Z i
def gQ(b:J)(a:K)(f g:N K):V (K×K):=G (QC fu f b) λd=>G (QC fu g b) λe=>ck (a<=1)<|B ((d+18446744073709551616-e-a)%18446744073709551616) λh=>B (if d<e+a then 1 else 0) λi=>Z (h,i)
def Ka(a b:N K):V ((N K)×J):=B (max (X a:J)<|(X b:J)) λd=>G (qd fu d<|λc h=>gQ fu c h a b) λ(e,f)=>if(((0:K):K):J)<(f:J)then Z ([],1)else G (xt fu e) λg=>Z<|(g,0)
def WJ(a b:N K):V (N K):=G (Ka fu a b) λ(d,e)=>Z d
def lF(e:J)(a:K)(b:N K)(f:K):V (K×K):=zD e (X b) λg=>B (b.getD g 0) λh=>G (q6 fu h f) λ(i,d)=>ck ((0:K)<=1)<|B ((d+a+(0:K))%18446744073709551616) λj=>B ((d+a+(0:K))/18446744073709551616) λk=>B ((i+k)%18446744073709551616) λl=>Z (j,l)
def J8(a:N K)(e:K):V (N K):=G (qd fu (X a:J)<|λc g=>lF fu c g a e) λ(b,d)=>ck ((X b+X ([d]))*8<=140737488355328)<|B (b++([d])) λf=>Z f
def aQ(d:N K)(f:K):rX (K×J×(N K)) (K×(N K)):=λL (e,a,b)=>if 0<=a then zD a (X d) λg=>B (d.getD g 0) λh=>G (jh fu e h f) λ(i,j)=>zD a (X b) λk=>B (b.set k i) λt3=>A (a-1) λl=>L (j,l,t3)else Z (e,b)
def ah(a:N K)(d:K):V ((N K)×K):=jt (X a:J) λb=>ck (8*b<=281474976710656)<|B (So b 0) λe=>A ((X a:J)-1) λf=>G (zg (aQ fu a d) fu<|((0:K),f,e)) λ(g,h)=>G (xt fu h) λt5=>Z (t5,g)
def lN(b:N K):rX (J×J×K×(N K)) (J×J×K×(N K)):=λL (g,h,d,a)=>G (J8 fu b d) λe=>G (Kg fu e a) λf=>if 0<f then B ((d+18446744073709551616-(1:K))%18446744073709551616) λi=>L (g,h,i,a)else Z (g,h,d,a)
def Qk(Q:J)(e:ww wL):rX ((ww wL)×J×(ww wL)×(ww wL)) ((ww wL)×(ww wL)):=λL (b,d,a,f)=>if 0<=d then zf (d+(Ap e:J)) λp=>zD p (Ap a) λR=>nm (a.getD R 0) λS=>zf (d+(Ap e:J)) λq=>zf (q-1) λr=>zD r (Ap a) λU=>nm (a.getD U 0) λV=>zf (d+(Ap e:J)) λs=>zf (s-2) λu=>zD u (Ap a) λW=>nm (a.getD W 0) λX=>zf ((Ap e:J)-1) λv=>zD v (Ap b) λY=>nm (b.getD Y 0) λc=>zf ((Ap e:J)-2) λw=>zD w (Ap b) λt=>nm (b.getD t 0) λx=>bd (U6 fu S V X c x) λz=>zf (d+(Ap e:J)) λy=>zf (y+1) λA=>jt d λg=>jt A λh=>ck (g<=h/\h<=Ap a)<|nm (xdB (h-g)<|xdN g a) λj=>ck ((Ap ([]:ww wL)+Ap j)*8<=140737488355328)<|nm (([]:ww wL)++j) λB=>bd (zg (lN fu b) fu<|(Q,(Ap e:J),z,B)) λ(i4,F,P,C)=>zD d (Ap f) λE=>nm (f.set E P) λG=>jt d λi=>ck (i<=Ap a)<|bd (J8 fu b P) λD=>bd (WJ fu C D) λk=>zf (F+1) λH=>jt H λl=>ck ((Ap k+l)*8<=140737488355328)<|nm (k++So l 0) λm=>zf (F+1) λn=>jt n λo=>ck (o<=Ap m)<|nm (m.take o) λK=>nm (ou i (Ap a-i) a K) λM=>zf (d-1) λN=>L (b,N,M,G)else Z (a,f)
def cz(p q:N wL):V ((N wL)×(N wL)×J):=bd (w6 fu p) λb=>bd (w6 fu q) λa=>bd (if(X a:J)=0 then Z wT else Z I:V ut) λr=>if r then Z ([],[],3)else bd (bd (Kg fu b a) λs=>if s<0 then Z wT else Z I:V ut) λu=>if u then bd (YK fu b) λt3=>Z ([],t3,0)else if(X a:J)=1 then zD 0 (X a) λv=>nm (a.getD v 0) λw=>bd (ah fu b w) λ(y,A)=>bd (xt fu [A]) λt5=>Z (y,t5,0)else zf ((X a:J)-1) λB=>zD B (X a) λC=>nm (a.getD C 0) λE=>bd (xK fu E) λd=>bd (W6 fu a d) λ(e,K)=>bd (W6 fu b d) λ(f,M)=>zf ((X b:J)+1) λG=>zf (G-(X f:J)) λt=>jt t λk=>ck ((X f+k)*8<=140737488355328)<|nm (f++So k 0) λl=>zf ((X l:J)-(X e:J)) λc=>jt c λm=>ck (8*m<=281474976710656)<|nm (So m 0) λo=>zf ((X o:J)-1) λn=>bd (zg (Qk fu d e) fu (e,n,l,o)) λ(g,h)=>bd (xt fu h) λi=>bd (cM fu g d) λj=>Z<|(i,j,0)
def xk(b:ut)(d:N K):V U:=G (YK fu d) λa=>if b then if 0<(X a:J)then Z (wT,a)else Z (I,a)else Z (I,a)
def Vc(b d:U):V (U×U×J):=G (cz fu b.2 d.2) λ(e,a,f)=>if f=0 then G (if b.1=wT then if 0<(X a:J)then G (ZO fu e [(1:K)]) λt3=>G (Ka fu d.2 a) λ(g,l)=>Z (t3,g)else Z (e,a)else Z (e,a):V ((N K)×(N K))) λ(t5,h)=>B (!(b.1==d.1)) λi=>G (xk fu i t5) λj=>G (xk fu I h) λk=>Z (j,k,0)else Z ((I,[]),(I,[]),f)
def qp(a:U):V U:=G (xk fu a.1 a.2) λb=>Z b
def xF(b:U):V J:=G (qp fu b) λa=>if a.1=wT then A (0-2) λd=>A (d+1) λe=>Z e else if 0<(X a.2:J)then A (0+1) λf=>Z f else Z 0
def v7(b d:U):V (U×J):=G (Vc fu b d) λ(e,f,a)=>G (if a=0 then Z I else Z wT:V ut) λg=>if g then Z ((I,[]),a)else G (xF fu f) λh=>if h=0 then Z (e,0)else Z ((I,[]),4)
def tU:rX ((N K)×(N K)) (N K):=λL (t3,a)=>if 0<(X a:J)then G (cz fu t3 a) λ(t5,b,d)=>L (a,b)else Z t3
def WU(a b:U):V U:=G (YK fu a.2) λd=>G (YK fu b.2) λe=>G (zg (tU fu) fu (d,e)) λf=>G (xk fu I f) λg=>Z g
def Zc(a:U):V U:=G (xk fu (!a.1) a.2) λb=>Z b
def YO(d a:U):V (D×J):=G (xF fu a) λg=>if g=0 then Z (((I,[]),[]),3)else G (WU fu d a) λe=>G (v7 fu d e) λ(f,i)=>G (v7 fu a e) λ(b,j)=>if b.1=wT then G (Zc fu f) λh=>Z ((h,b.2),0)else Z ((f,b.2),0)
def Uc(fu:K)(d:J)(t3 h:N K)(i:J)(t5:N K):rX (K×J×(N K)×(N K)) (N K):=λL (e,a,b,f)=>G (if a<(X t5:J)then Z (t3,d,h,i,d,(X t5:J),wT)else Z (t3,d,h,i,d,(X t5:J),I):V ((N K)×J×(N K)×J×J×J×ut)) λ(y,j,A,B,C,E,m)=>if m then zD a (X f) λo=>nm (f.getD o 0) λk=>zf (j+a) λp=>zf (j+a) λq=>zD q (X b) λr=>nm (b.getD r 0) λl=>ck (e<=1)<|nm ((l+k+e)%18446744073709551616) λs=>nm ((l+k+e)/18446744073709551616) λu=>zD p (X b) λv=>nm (b.set v s) λg=>zf (a+1) λw=>L (u,w,g,f)else Z b
def iG(f a:N K):rX (J×(N K)) (N K):=λL (b,g)=>G (if b<(X a:J)then Z (f,a,(X a:J),wT)else Z (f,a,(X a:J),I):V ((N K)×(N K)×J×ut)) λ(t3,d,h,i)=>if i then zD b (X d) λj=>B (d.getD j 0) λk=>G (J8 fu t3 k) λt5=>G (zg (Uc fu b t3 d h t5) fu<|((0:K),0,g,t5)) λe=>A (b+1) λl=>L (l,e)else Z g
def Jv(d e:N K):V (N K):=A ((X d:J)+(X e:J)) λg=>A (g+1) λh=>jt h λf=>ck (8*f<=281474976710656)<|B (So f 0) λi=>G (zg (iG fu d e) fu<|(0,i)) λa=>G (xt fu a) λb=>Z b
def ZX:wL->(ww wL)->(ww wL)->V (ww wL)
 |0,_,_=>wS
 |fu+1,A,B=>bd (w6 fu A) λa=>bd (w6 fu B) λb=>nm (min ((X a:J))<|(X b:J)) λC=>if C<8 then bd (Jv fu a b) λt3=>Z t3 else nm (max ((X a:J))<|(X b:J)) λE=>ck ((2:J)≠0)<|zf (xdv E (2:J)) λd=>nm (min d<|(X a:J)) λG=>jt G λq=>ck (q<=X a)<|nm (a.take q) λn=>bd (w6 fu n) λt5=>nm (min d<|(X a:J)) λt=>jt t λr=>ck (r<=X a)<|nm (a.drop r) λs=>nm (min d<|(X b:J)) λc=>jt c λu=>ck (u<=X b)<|nm (b.take u) λK=>bd (w6 fu K) λv=>nm (min d<|(X b:J)) λM=>jt M λw=>ck (w<=X b)<|nm (b.drop w) λy=>bd (ZX fu t5 v) λe=>bd (ZX fu s y) λf=>bd (ZO fu t5 s) λg=>bd (ZO fu v y) λh=>bd (ZX fu g h) λi=>bd (WJ fu i e) λj=>bd (WJ fu j f) λk=>bd (Y3 fu k d) λl=>bd (ZO fu e l) λm=>zf ((2:J)*d) λN=>bd (Y3 fu f N) λo=>bd (ZO fu m o) λp=>Z p
def zP(a b:U):V U:=B (!(a.1==b.1)) λd=>G (ZX fu a.2 b.2) λe=>G (xk fu d e) λf=>Z f
def vT(a b:U):V U:=B (a.1==b.1) λe=>if e then G (ZO fu a.2 b.2) λf=>G (xk fu a.1 f) λg=>Z g else G (G (Kg fu a.2 b.2) λh=>if h<0 then Z (b,a)else Z (a,b):V (U×U)) λ(d,t3)=>G (Ka fu d.2 t3.2) λ(i,k)=>G (xk fu d.1 i) λj=>Z j
def qL(a b:U):V U:=G (Zc fu b) λd=>G (vT fu a d) λe=>Z e
def K1(d:J)(a:U):V U:=G (qp fu a) λb=>Z b
def vq(fu:K)(a:N U)(e:J->U->V U):rX (J×(N U)) (N U):=λL (b,d)=>G (if b<(X a:J)then Z (a,(X a:J),wT)else Z (a,(X a:J),I):V ((N U)×J×ut)) λ(t3,m,f)=>if f then zD b (X t3) λg=>B (t3.getD g (I,[])) λh=>G (e b h) λi=>zD b (X d) λj=>B (d.set j i) λk=>A (b+1) λl=>L (l,k)else Z d
def zJ(a:N U)(d:J->U->V U):V (N U):=jt (X a:J) λb=>ck (32*b<=281474976710656)<|B (So b (I,[])) λe=>G (zg (vq fu a d) fu<|(0,e)) λt5=>Z t5
def gw:rX (N U) (N U):=λL a=>if 0<(X a:J)then A ((X a:J)-1) λd=>zD d (X a) λe=>B (a.getD e (I,[])) λf=>G (xF fu f) λg=>if g=0 then A ((X a:J)-1) λh=>jt h λb=>ck (b<=X a)<|B (a.take b) λi=>L i else Z a else Z a
def zQ(a:N U):V (N U):=G (zg (gw fu) fu a) λt3=>G (zJ fu t3<|λc d=>K1 fu c d) λb=>Z b
def bn(k:J)(g:N U):rX (J×(N U)×(N U)×(N U)×U) ((N U)×(N U)×(N U)):=λL (a,f,b,d,e)=>G (if a<(X g:J)then Z (k,(X g:J),wT)else Z (k,(X g:J),I):V (J×J×ut)) λ(l,y,m)=>if m then zD a (X f) λo=>B (f.getD o (I,[])) λp=>A (l+a) λq=>A (l+a) λh=>zD h (X b) λr=>B (b.getD r (I,[])) λs=>G (zP fu e p) λu=>G (qL fu s u) λv=>zD q (X b) λw=>B (b.set w v) λi=>A (a+1) λj=>L (j,f,i,d,e)else Z (f,b,d)
def bj:rX (J×(N U)×(N U)×(N U)) (((N U)×(N U))⊕J):=λL (b,a,t5,d)=>if 0<=b then A (b+(X a:J)) λk=>A (k-1) λl=>zD l (X t5) λm=>B (t5.getD m (I,[])) λo=>A ((X a:J)-1) λp=>zD p (X a) λq=>B (a.getD q (I,[])) λr=>G (v7 fu o r) λ(i,j)=>if j=0 then zD b (X d) λs=>B (d.set s i) λu=>G (zg (bn fu b a) fu<|(0,a,t5,u,i)) λ(e,f,g)=>A (b-1) λh=>L (h,e,f,g)else Z (.inr j)else Z (.inl (t5,d))
def wB(i j:N U):V ((N U)×J):=G (zQ fu i) λa=>G (zQ fu j) λb=>if(X b:J)=0 then Z ([],3)else G (if 0<(X a:J)then if(X a:J)<(X b:J)then Z (.inr ())else Z (.inl ())else Z (.inl ()):V (Wd⊕Wd)) λk=>match k with
 |.inl _=>(A ((X a:J)-(X b:J)) λl=>A (l+1) λm=>B (max m 0) λo=>jt o λh=>ck (32*h<=281474976710656)<|B (So h (I,[])) λt3=>A ((X t3:J)-1) λp=>G (zg (bj fu) fu (p,b,a,t3)) λq=>match q with
 |.inl (d,e)=>G (zQ fu d) λf=>if 0<(X f:J)then Z ([],4)else G (zQ fu e) λg=>Z<|(g,0)
 |.inr r=>Z ([],r))
 |.inr _=>Z<|([],4)
def KX(b:N U):rX (J×(N U)×J) J:=λL (a,d,e)=>if e=0 then A (a+1) λf=>G (wB fu d b) λ(t3,g)=>L (f,t3,g)else Z a
def Wg(b a:N U):V J:=G (wB fu b a) λ(d,e)=>G (zg (KX fu a) fu<|(0,d,e)) λf=>Z f
def ZY(fu:K)(d:J):rX (ut×J) ut:=λL (b,a)=>if b then A (a*a) λe=>if e<=d then ck (a≠0)<|B (xcB d a) λf=>if f=0 then Z I else A (a+1) λg=>L (b,g)else Z b else Z b
def Zz(a:J):V ut:=G (if 2<=a then if a<=65521 then Z wT else Z I else Z I:V ut) λb=>G (zg (ZY fu a) fu<|(b,2)) λd=>Z d
def yo(a:J):V U:=if a<0 then B (Ec a) λb=>B ((18446744073709551616-b)%18446744073709551616) λd=>G (xk fu wT [d]) λe=>Z e else B (Ec a) λf=>G (xk fu I [f]) λg=>Z g
def ZD(b:N K):V J:=G (w6 fu b) λa=>if(X a:J)=0 then Z 0 else A ((X a:J)-1) λd=>A (64*d) λe=>A ((X a:J)-1) λf=>zD f (X a) λg=>B (a.getD g 0) λh=>G (vJ fu h) λi=>A (e+i) λj=>Z j
def cZ:rX (J×U×U) U:=λL (a,b,d)=>if 0<a then B (zb1 a 1) λf=>if f=1 then G (zP fu d b) λe=>if 1<a then G (zP fu b b) λg=>B (xfW a<|2^(min ((1:K):J).toNat 64)) λh=>L (h,g,e)else B (xfW a<|2^(min ((1:K):J).toNat 64)) λi=>L (i,b,e)else if 1<a then G (zP fu b b) λj=>B (xfW a<|2^(min ((1:K):J).toNat 64)) λk=>L (k,j,d)else B (xfW a<|2^(min ((1:K):J).toNat 64)) λl=>L (l,b,d)else Z d
def da(b:U)(a:J):V (U×J):=G (if a<0 then Z wT else if 65536<a then Z wT else Z I:V ut) λd=>if d then Z ((I,[]),1)else G (ZD fu b.2) λe=>A (e*a) λf=>if 262144<f then Z ((I,[]),6)else G (yo fu 1) λg=>G (qp fu b) λh=>G (zg (cZ fu) fu (a,h,g)) λt3=>Z<|(t3,0)
def qC(b a:J):V (U×J):=G (Zz fu b) λd=>if !d then Z ((I,[]),1)else if a<1 then Z ((I,[]),1)else if 1000<a then Z ((I,[]),1)else G (yo fu b) λe=>G (da fu e a) λ(f,g)=>Z (f,g)
def bM(fu:K)(a:N U)(e:U)(g:U->U->V (U×J)):rX (J×(N U)) (N U):=λL (b,d)=>G (if b<(X a:J)then Z (e,a,(X a:J),wT)else Z (e,a,(X a:J),I):V (U×(N U)×J×ut)) λ(t3,f,o,h)=>if h then zD b (X f) λi=>B (f.getD i (I,[])) λj=>G (g j t3) λ(k,p)=>zD b (X d) λl=>B (d.set l k) λt5=>A (b+1) λm=>L (m,t5)else Z d
def qN(a:N U)(b:U)(e:U->U->V (U×J)):V ((N U)×J):=G (xF fu b) λf=>if f<=0 then Z ([],1)else jt (X a:J) λd=>ck (32*d<=281474976710656)<|B (So d (I,[])) λg=>G (zg (bM fu a b e) fu<|(0,g)) λh=>G (zQ fu h) λi=>Z<|(i,0)
def q8(b a:U):V (U×J):=G (xF fu a) λd=>if d<=0 then Z ((I,[]),1)else G (Vc fu b a) λ(f,e,g)=>Z<|(e,0)
def Xx(a:N U)(b:U):V ((N U)×J):=G (qN fu a b<|λc f=>q8 fu c f) λ(d,e)=>Z (d,e)
def xp(a:N U)(b:U):V (N U):=G (Xx fu a b) λ(d,e)=>Z d
def vj(a:J):V J:=G (Zz fu a) λb=>if !b then Z 1 else Z 0
def ZJ(fu:K)(d a:J):V J:=if a<1 then Z 0 else ck (a≠0)<|B (xcB d a) λb=>if b<0 then A (b+a) λe=>Z e else Z b
def pF(fu:K):rX (J×J×J×J) (J⊕Wd):=λL (d,a,f,b)=>if a=0 then Z (.inr ())else if a=1 then Z (.inl b)else ck (a≠0)<|A (xdv d a) λe=>A (e*a) λg=>A (d-g) λh=>A (e*b) λi=>A (f-i) λj=>L (a,h,b,j)
def Qu(d a:J):V (J×J):=G (vj fu a) λb=>if b=0 then G (ZJ fu d a) λe=>G (zg (pF fu) fu<|(a,e,0,1)) λf=>match f with
 |.inl g=>G (ZJ fu g a) λh=>Z<|(h,0)
 |.inr _=>Z (0,3)else Z (0,b)
def eK(b:N J)(e:J):rX (J×(N J)) (N J):=λL (a,d)=>if a<(X b:J)then zD a (X b) λf=>B (b.getD f 0) λg=>G (ZJ fu g e) λh=>zD a (X d) λi=>B (d.set i h) λt3=>A (a+1) λj=>L (j,t3)else Z d
def eZ(fu:K):rX (N J) (N J):=λL t5=>if 0<(X t5:J)then A ((X t5:J)-1) λb=>zD b (X t5) λd=>B (t5.getD d 0) λe=>if e=0 then A ((X t5:J)-1) λf=>jt f λa=>ck (a<=X t5)<|B (t5.take a) λg=>L g else Z t5 else Z t5
def yh(a:N J)(d:J):V (N J):=jt (X a:J) λb=>ck (8*b<=281474976710656)<|B (So b 0) λe=>G (zg (eK fu a d) fu<|(0,e)) λf=>G (zg (eZ fu) fu f) λg=>Z g
def Wh(fu:K)(a:N J)(q b:J):rX ((N J)×J×J×J×(N J)×(N J)) ((N J)×J×J×(N J)×(N J)):=λL (r,d,s,e,f,u)=>bd (if e<(X a:J)then Z (q,b,a,(X a:J),wT)else Z (q,b,a,(X a:J),I):V (J×J×(N J)×J×ut)) λ(v,y,w,c,A)=>if A then zD e (X w) λB=>nm (w.getD B 0) λC=>zf (v+e) λg=>zf (v+e) λh=>zD h (X f) λE=>nm (f.getD E 0) λi=>zf (d-y) λj=>zf (j*C) λk=>zf (i+k) λl=>ck (d≠0)<|nm (xcB l d) λm=>zD g (X f) λG=>nm (f.set G m) λo=>zf (e+1) λp=>L (r,d,s,p,o,u)else Z (r,d,s,f,u)
def XO(d:N J)(e j:J):rX (J×(N J)×(N J)) ((N J)×(N J)):=λL (a,t3,f)=>if 0<=a then A (a+(X d:J)) λk=>A (k-1) λl=>zD l (X t3) λm=>B (t3.getD m 0) λo=>A (o*j) λp=>ck (e≠0)<|B (xcB p e) λb=>zD a (X f) λq=>B (f.set q b) λt5=>G (zg (Wh fu d a b) fu<|(d,e,j,0,t3,t5)) λ(r,s,u,g,h)=>A (a-1) λi=>L (i,g,h)else Z (t3,f)
def xR(j a:N J)(b:J):V ((N J)×(N J)):=ck ((X ([]:N J)+X j)*8<=140737488355328)<|B (([]:N J)++j) λd=>A ((X d:J)-(X a:J)) λe=>if e<0 then Z ([],d)else A ((X a:J)-1) λl=>zD l (X a) λm=>B (a.getD m 0) λo=>G (Qu fu o b) λ(p,s)=>A (e+1) λq=>jt q λk=>ck (8*k<=281474976710656)<|B (So k 0) λr=>G (zg (XO fu a b p) fu (e,d,r)) λ(f,g)=>G (yh fu g b) λh=>G (yh fu f b) λi=>Z (h,i)
def UH(fu:K)(b:J)(t3:N J)(d:J)(e:N J)(f g:J):rX (J×(N J)) (N J):=λL (a,t5)=>bd (if a<(X t3:J)then Z (t3,d,b,g,e,f,b,t3,(X t3:J),wT)else Z (t3,d,b,g,e,f,b,t3,(X t3:J),I):V ((N J)×J×J×J×(N J)×J×J×(N J)×J×ut)) λ(E,h,i,k,G,n,c,j,l,m)=>if m then zD a (X j) λo=>nm (j.getD o 0) λp=>zf (i+a) λq=>zf (i+a) λr=>zD r (X t5) λs=>nm (t5.getD s 0) λu=>zf (k*p) λv=>zf (u+v) λw=>ck (h≠0)<|nm (xcB w h) λy=>zD q (X t5) λA=>nm (t5.set A y) λB=>zf (a+1) λC=>L (C,B)else Z t5
def aa(a f:N J)(g:J):rX (J×(N J)) (N J):=λL (b,h)=>G (if b<(X a:J)then Z (f,g,a,(X a:J),wT)else Z (f,g,a,(X a:J),I):V ((N J)×J×(N J)×J×ut)) λ(t3,i,d,j,k)=>if k then zD b (X d) λl=>B (d.getD l 0) λm=>G (zg (UH fu b t3 i d j m) fu<|(0,h)) λe=>A (b+1) λo=>L (o,e)else Z h
def wZ(d e:N J)(f:J):V (N J):=A ((X d:J)+(X e:J)) λh=>jt h λg=>ck (8*g<=281474976710656)<|B (So g 0) λi=>G (zg (aa fu d e f) fu<|(0,i)) λa=>G (yh fu a f) λb=>Z b
def n9(fu:K)(a:N J)(d e:J):rX (J×(N J)) (N J):=λL (b,t3)=>G (if b<(X a:J)then Z (d,e,a,(X a:J),wT)else Z (d,e,a,(X a:J),I):V (J×J×(N J)×J×ut)) λ(g,r,f,s,h)=>if h then zD b (X f) λi=>B (f.getD i 0) λj=>zD b (X t3) λk=>B (t3.getD k 0) λl=>A (g*j) λm=>A (l+m) λo=>zD b (X t3) λp=>B (t3.set p o) λt5=>A (b+1) λq=>L (q,t5)else Z t3
def Xe(a b:N J)(f d:J):V (N J):=B (max (X a:J)<|(X b:J)) λg=>jt g λe=>ck (8*e<=281474976710656)<|B (So e 0) λh=>B (LH h a) λi=>G (zg (n9 fu b f d) fu<|(0,i)) λj=>G (yh fu j d) λk=>Z k
def ZF(e:N (N J))(f:J):rX ((N J)×J×(N<|N J)×(N<|N J)) ((N<|N J)×(N<|N J)):=λL (t3,a,b,t5)=>G (if a<3 then Z (f,e,wT)else Z (f,e,I):V (J×(N<|N J)×ut)) λ(d,g,h)=>if h then zD a (3) λi=>zD a (3) λj=>B (g.getD j []) λk=>G (wZ fu t3 k d) λl=>A (d-1) λm=>G (Xe fu (b.getD i []) l m d) λo=>zD a (3) λp=>B (b.set p o) λq=>A (a+1) λr=>L (t3,r,q,t5)else Z (b,t5)
def Xk(b d:N (N J))(e:J):V (N<|N J):=zD 0 (3) λf=>zD 0 (3) λg=>B (d.getD g []) λh=>G (xR fu (b.getD f []) h e) λ(i,k)=>G (zg (ZF fu d e) fu<|(i,0,b,(So 3 []))) λ(a,j)=>Z a
def qE(b:N J)(d a:J):V (N J):=G (Qu fu d a) λ(e,g)=>G (wZ fu b [e] a) λf=>Z f
def Z7(b:J):rX ((N<|N J)×(N<|N J)) (N<|N J):=λL (t3,a)=>zD 0 (3) λd=>if 0<((X (a.getD d []):K):J)then G (Xk fu t3 a b) λt5=>L (a,t5)else Z t3
def ve(d e:J):rX (J×(N<|N J)) (N<|N J):=λL (a,b)=>if a<3 then zD a (3) λf=>G (qE fu (b.getD f []) e d) λg=>zD a (3) λh=>B (b.set h g) λi=>A (a+1) λj=>L (j,i)else Z b
def Ze(k l:N J)(d:J):V ((N J)×(N J)×(N J)×J):=G (vj fu d) λh=>if h=0 then G (yh fu k d) λm=>G (yh fu l d) λo=>G (zg (Z7 fu d) fu<|([m,[1],[]],[o,[],[1]])) λa=>zD 0 (3) λi=>G (if 0<((X (a.getD i []):K):J)then Z wT else Z I:V ut) λp=>if p then zD 0 (3) λj=>A (((X (a.getD i []):K):J)-1) λq=>zD q (X (a.getD j [])) λr=>B ((a.getD j []).getD r 0) λs=>G (zg (ve fu d s) fu<|(0,a)) λb=>zD 0 (3) λu=>zD 1 (3) λv=>zD 2 (3) λw=>Z ((b.getD u []),(b.getD v []),(b.getD w []),0)else zD 0 (3) λe=>zD 1 (3) λf=>zD 2 (3) λg=>Z ((a.getD e []),(a.getD f []),(a.getD g []),0)else Z ([],[],[],h)
def kv(a b:N J)(d:J):V ((N J)×J):=G (Ze fu a b d) λ(e,g,t3,f)=>Z (e,f)
def ku(d e:N J)(a:J):V ((N J)×J):=G (vj fu a) λb=>if b=0 then G (yh fu d a) λf=>G (yh fu e a) λg=>G (wZ fu f g a) λt3=>Z (t3,0)else Z ([],b)
def V8(d e:N J)(a:J):V ((N J)×J):=G (vj fu a) λb=>if b=0 then G (yh fu d a) λf=>G (yh fu e a) λg=>A (a-1) λh=>G (Xe fu f g h a) λt3=>Z (t3,0)else Z ([],b)
def XA(a b:N J)(d:J):V ut:=G (V8 fu a b d) λ(e,f)=>if(X e:J)=0 then Z wT else Z I
def W3(fu:K)(a:N J)(e:J):rX J (Wd⊕Wd):=λL b=>if b<(X a:J)then zD b (X a) λf=>B (a.getD f 0) λd=>if d<0 then Z (.inr ())else if e<=d then Z (.inr ())else A (b+1) λg=>L g else Z (.inl ())
def X9(a:N J)(b:J):V ut:=G (zg (W3 fu a b) fu 0) λd=>match d with
 |.inl _=>if 1<(X a:J)then A ((X a:J)-1) λe=>zD e (X a) λf=>B (a.getD f 0) λg=>if g=1 then Z wT else Z I else Z I
 |.inr _=>Z I
def K2(a:N (N J))(e:J):rX ((N J)×J) (N J):=λL (d,b)=>if b<(X a:J)then zD b (X a) λf=>B (a.getD f []) λg=>G (ku fu d g e) λ(h,j)=>A (b+1) λi=>L (h,i)else Z d
def qw(a:N (N J))(b:J):V (N J):=G (zg (K2 fu a b) fu<|([1],0)) λt3=>Z t3
def JV(b:U):V (J×ut):=G (qp fu b) λa=>G (if(X a.2:J)=0 then Z wT else Z I:V ut) λd=>if d then Z (0,wT)else G (if 1<(X a.2:J)then Z wT else Z I:V ut) λe=>if e then Z (0,I)else G (if a.1=wT then zD 0 (X a.2) λf=>B (a.2.getD f 0) λg=>if(g:J)<=(((9223372036854775808:K):K):J)then Z wT else Z I else Z I:V ut) λh=>if h then zD 0 (X a.2) λi=>B (a.2.getD i 0) λj=>B ((18446744073709551616-j)%18446744073709551616) λk=>B (sgn k) λl=>Z (l,wT)else if a.1=wT then Z (0,I)else zD 0 (X a.2) λm=>B (a.2.getD m 0) λo=>if(((9223372036854775807:K):K):J)<(o:J)then Z (0,I)else zD 0 (X a.2) λp=>B (a.2.getD p 0) λq=>B (sgn q) λr=>Z (r,wT)
def Uv(b:U)(d:J):V (J×J):=G (yo fu d) λe=>G (q8 fu b e) λ(f,a)=>if a=0 then G (JV fu f) λ(g,h)=>Z (g,0)else Z (0,a)
def VL(e:J)(a:U)(b:J):V J:=G (Uv fu a b) λ(d,f)=>Z d
def u6(fu:K)(a:N U)(e:J->U->V J):rX (J×(N J)) (N J):=λL (b,d)=>G (if b<(X a:J)then Z (a,(X a:J),wT)else Z (a,(X a:J),I):V ((N U)×J×ut)) λ(t3,m,f)=>if f then zD b (X t3) λg=>B (t3.getD g (I,[])) λh=>G (e b h) λi=>zD b (X d) λj=>B (d.set j i) λk=>A (b+1) λl=>L (l,k)else Z d
def jw(a:N U)(d:J->U->V J):V (N J):=jt (X a:J) λb=>ck (8*b<=281474976710656)<|B (So b 0) λe=>G (zg (u6 fu a d) fu<|(0,e)) λt5=>Z t5
def oo(fu:K):rX (N J) (N J):=λL a=>if 0<(X a:J)then A ((X a:J)-1) λd=>zD d (X a) λe=>B (a.getD e 0) λf=>if f=0 then A ((X a:J)-1) λg=>jt g λb=>ck (b<=X a)<|B (a.take b) λt3=>L t3 else Z a else Z a
def Zw(b:N U)(a:J):V ((N J)×J):=if a<1 then Z ([],1)else G (jw fu b<|λc f=>VL fu c f a) λd=>G (zg (oo fu) fu d) λe=>Z<|(e,0)
def jS(d:J)(e:N J)(a:N (N J)):rX J (Wd⊕Wd):=λL b=>if b<(X a:J)then zD b (X a) λf=>B (a.getD f []) λg=>G (kv fu e g d) λ(h,j)=>if(X h:J)=1 then A (b+1) λi=>L i else Z (.inr ())else Z (.inl ())
def ke(e:N U)(a:N (N J))(f:J):rX (J×(N J)) ((N J)⊕Wd):=λL (b,g)=>G (if b<(X a:J)then Z (e,a,f,a,(X a:J),wT)else Z (e,a,f,a,(X a:J),I):V ((N U)×(N<|N J)×J×(N<|N J)×J×ut)) λ(t3,h,i,t5,r,k)=>if k then zD b (X t5) λl=>B (t5.getD l []) λd=>if(X t3:J)<(X d:J)then Z (.inr ())else G (X9 fu d i) λm=>if !m then Z (.inr ())else jt b λj=>ck (j<=X h)<|B (h.take j) λo=>G (zg (jS fu i d o) fu 0) λp=>match p with
 |.inl _=>A (b+1) λq=>L (q,g)
 |.inr _=>Z (.inr ())else Z (.inl g)
def vE(a:N U)(e:N (N J))(b:J):V ut:=G (Zw fu a b) λ(h,o)=>if(X a:J)=0 then Z I else if(X h:J)=(X a:J)then if(X a:J)<(X e:J)then Z I else G (zg (ke fu a e b) fu<|(0,h)) λj=>match j with
 |.inl d=>G (qw fu e b) λk=>A ((X d:J)-1) λl=>jt l λi=>ck (i<=X d)<|B (d.drop i) λf=>G (ku fu k f b) λ(g,p)=>G (XA fu g d b) λm=>Z m
 |.inr _=>Z I else Z I
def YL(a:N U)(j:J):rX ((N U)×U×J×(N U)×(N U)) ((N U)×U×(N U)×(N U)):=λL (k,l,b,d,f)=>G (if b<(X a:J)then Z (j,a,(X a:J),wT)else Z (j,a,(X a:J),I):V (J×(N U)×J×ut)) λ(g,e,C,m)=>if m then zD b (X e) λo=>nm (e.getD o (I,[])) λp=>zf (g+b) λq=>zf (g+b) λr=>zD r (X d) λs=>nm (d.getD s (I,[])) λu=>zD g (X f) λv=>nm (f.getD v (I,[])) λw=>G (zP fu w p) λy=>G (qL fu u y) λA=>zD q (X d) λB=>nm (d.set B A) λh=>zf (b+1) λi=>L (k,l,i,h,f)else Z (k,l,d,f)
def YP(b:N U)(h:U):rX (J×(N U)×(N U)) ((N U)×(N U)):=λL (a,t3,d)=>if 0<=a then A (a+(X b:J)) λi=>A (i-1) λj=>zD j (X t3) λk=>B (t3.getD k (I,[])) λl=>G (q8 fu l h) λ(m,r)=>zD a (X d) λo=>B (d.set o m) λt5=>G (zg (YL fu b a) fu<|(b,h,0,t3,t5)) λ(p,q,e,f)=>A (a-1) λg=>L (g,e,f)else Z (t3,d)
def jY(k g:N U)(a:U):V ((N U)×(N U)):=G (xp fu k a) λh=>A ((X h:J)-(X g:J)) λl=>A (l+1) λm=>B (max m 0) λo=>jt o λi=>ck (32*i<=281474976710656)<|B (So i (I,[])) λj=>A ((X j:J)-1) λp=>G (zg (YP fu g a) fu (p,h,j)) λ(b,d)=>G (xp fu d a) λe=>G (xp fu b a) λf=>Z (e,f)
def uB(b:J)(d:U)(a:N U):V U:=if b<(X a:J)then zD b (X a) λe=>B (a.getD e (I,[])) λf=>G (vT fu d f) λg=>Z g else Z d
def qf(a b:N U):V (N U):=if(X a:J)<(X b:J)then G (zJ fu b<|λc g=>uB fu c g a) λd=>G (zQ fu d) λe=>Z e else G (zJ fu a<|λc g=>uB fu c g b) λt3=>G (zQ fu t3) λf=>Z f
def n8(b:J)(t3 e:N U)(f:J):rX (J×(N U)×U) (N U):=λL (a,t5,g)=>G (if a<(X t3:J)then Z (t3,b,e,f,b,t3,(X t3:J),wT)else Z (t3,b,e,f,b,t3,(X t3:J),I):V ((N U)×J×(N U)×J×J×(N U)×J×ut)) λ(w,h,y,A,B,i,C,j)=>if j then zD a (X i) λk=>nm (i.getD k (I,[])) λl=>zf (h+a) λm=>zf (h+a) λo=>zD o (X t5) λp=>nm (t5.getD p (I,[])) λq=>G (zP fu g l) λr=>G (vT fu q r) λs=>zD m (X t5) λu=>nm (t5.set u s) λd=>zf (a+1) λv=>L (v,d,g)else Z t5
def oO(a f:N U):rX (J×(N U)) (N U):=λL (b,g)=>G (if b<(X a:J)then Z (f,a,(X a:J),wT)else Z (f,a,(X a:J),I):V ((N U)×(N U)×J×ut)) λ(t3,d,h,i)=>if i then zD b (X d) λj=>B (d.getD j (I,[])) λk=>G (zg (n8 fu b t3 d h) fu<|(0,g,k)) λe=>A (b+1) λl=>L (l,e)else Z g
def wA(d e:N U):V (N U):=A ((X d:J)+(X e:J)) λg=>jt g λf=>ck (32*f<=281474976710656)<|B (So f (I,[])) λh=>G (zg (oO fu d e) fu<|(0,h)) λa=>G (zQ fu a) λb=>Z b
def XZ(d a:J):V U:=G (yo fu a) λb=>Z b
def Zy(fu:K)(b:N J)(e:J->J->V U):rX (J×(N U)) (N U):=λL (a,d)=>if a<(X b:J)then zD a (X b) λf=>B (b.getD f 0) λg=>G (e a g) λh=>zD a (X d) λi=>B (d.set i h) λt3=>A (a+1) λj=>L (j,t3)else Z d
def jA(a:N J)(d:J->J->V U):V (N U):=jt (X a:J) λb=>ck (32*b<=281474976710656)<|B (So b (I,[])) λe=>G (zg (Zy fu a d) fu<|(0,e)) λf=>Z f
def ja(a:N J):V (N U):=G (jA fu a<|λc e=>XZ fu c e) λb=>G (zQ fu b) λd=>Z d
def Ua(a:N J):V (N U):=G (ja fu a) λb=>Z b
def Ja(e:J)(a b:U):V U:=G (zP fu a b) λd=>Z d
def qm(a:N U)(b:U):V (N U):=G (zJ fu a<|λc f=>Ja fu c f b) λd=>G (zQ fu d) λe=>Z e
def kn(a b:N U):V (N U):=G (yo fu (-1:J)) λd=>G (qm fu b d) λe=>G (qf fu a e) λf=>Z f
def jR(f:ww (ww Zr))(c:ww Zr)(a:Zr):V (ww<|ww Zr):=zD 0 (4) λn=>nm (f.getD n []) λi=>zD 1 (4) λJ=>nm (f.getD J []) λj=>zD 2 (4) λK=>nm (f.getD K []) λg=>zD 3 (4) λM=>nm (f.getD M []) λh=>bd (wA fu i j) λN=>bd (kn fu c N) λt=>bd (xp fu t a) λt3=>bd (wA fu g t3) λP=>bd (jY fu P j a) λ(t5,Q)=>bd (wA fu h t3) λR=>bd (wA fu t5 i) λS=>bd (qf fu R S) λU=>bd (qf fu i U) λk=>bd (xp fu k a) λb=>bd (qf fu j Q) λl=>bd (xp fu l a) λd=>bd (wA fu g b) λm=>bd (wA fu h d) λo=>bd (qf fu m o) λp=>bd (Ua fu [1]) λq=>bd (kn fu p q) λr=>bd (xp fu r a) λe=>bd (wA fu g e) λs=>bd (jY fu s d a) λ(u,v)=>bd (kn fu g v) λw=>bd (xp fu w a) λy=>bd (wA fu h e) λA=>bd (wA fu u b) λB=>bd (qf fu A B) λC=>bd (kn fu h C) λE=>bd (xp fu E a) λG=>Z [b,d,y,G]
def ZV(a:U×(U×U))(b:U)(d:U×(U×U)):V (U×(U×U)):=G (zP fu b d.1) λe=>G (qL fu a.1 e) λf=>G (zP fu b d.2.1) λg=>G (qL fu a.2.1 g) λh=>G (zP fu b d.2.2) λi=>G (qL fu a.2.2 i) λj=>Z (f,h,j)
def Q9:rX ((U×(U×U))×(U×(U×U))) (U×(U×U)):=λL (b,a)=>G (xF fu a.1) λd=>if d=0 then Z b else G (Vc fu b.1 a.1) λ(e,g,h)=>G (ZV fu b e a) λf=>L (a,f)
def VH(e f:U):V (U×U×U):=G (xk fu I e.2) λg=>G (yo fu 1) λh=>G (yo fu 0) λi=>G (xk fu I f.2) λj=>G (yo fu 0) λk=>G (yo fu 1) λl=>G (zg (Q9 fu) fu<|((g,h,i),(j,k,l))) λt3=>G (G (xF fu e) λm=>if m<0 then G (Zc fu t3.2.1) λa=>B (t3.1,(a,t3.2.2)) λo=>Z o else Z t3:V (U×(U×U))) λt5=>G (G (xF fu f) λp=>if p<0 then G (Zc fu t5.2.2) λb=>B (t5.1,(t5.2.1,b)) λq=>Z q else Z t5:V (U×(U×U))) λd=>Z (d.1,d.2.1,d.2.2)
def JI(a:N U)(b:U):V (N U):=A ((X a:J)-1) λd=>zD d (X a) λe=>B (a.getD e (I,[])) λf=>G (VH fu f b) λ(j,g,k)=>G (qm fu a g) λh=>G (xp fu h b) λi=>Z i
def YH(g:N U)(h d:J):rX (J×(N<|N U)) (N<|N U):=λL (e,a)=>if e<d then A (2*e) λi=>B (min i d) λf=>G (qC fu h f) λ(j,k)=>G (jR fu a g j) λb=>L (f,b)else Z a
def qi:wL->(ww U)->(ww<|ww J)->J->J->U->V (ww<|ww U)
 |0,_,_,_,_,_=>wS
 |fu+1,d,a,b,i,j=>if(X a:J)=1 then bd (JI fu d j) λG=>Z [G]else ck ((2:J)≠0)<|zf (xdv ((X a:J)) (2:J)) λh=>zf (((X d:J))-1) λn=>jt n λv=>ck (v<=X d)<|nm (d.drop v) λt=>bd (Zw fu t b) λ(t3,x)=>jt h λw=>ck (w<=X a)<|nm (a.take w) λc=>bd (qw fu c b) λt5=>bd (ku fu t5 t3 b) λ(y,P)=>jt h λA=>ck (A<=X a)<|nm (a.drop A) λK=>bd (qw fu K b) λB=>bd (Ze fu y B b) λ(Q,k,l,R)=>bd (ja fu y) λm=>bd (ja fu B) λo=>bd (ja fu k) λp=>bd (ja fu l) λq=>bd (zg (YH fu d b i) fu<|((1:J),[m,o,p,q])) λe=>zD 0 (4) λM=>jt h λC=>ck (C<=X a)<|nm (a.take C) λr=>bd (qi fu (e.getD M []) r b i j) λf=>zD 1 (4) λN=>jt h λE=>ck (E<=X a)<|nm (a.drop E) λs=>bd (qi fu (e.getD N []) s b i j) λg=>ck ((X f+X g)*24<=140737488355328)<|nm (f++g) λu=>Z u
def jB(h:N U)(a:N (N J))(b e:J):V ((N<|N U)×J):=G (qC fu b e) λ(f,g)=>G (zQ fu h) λd=>if g=0 then if 65<(X d:J)then Z ([],6)else G (vE fu d a b) λi=>if !i then Z ([],1)else if(X a:J)=0 then Z ([],0)else G (xp fu d f) λj=>G (qi fu j a b e f) λt3=>Z (t3,0)else Z ([],g)
def Jt(a b:N U)(d:U):V ((N U)×J):=G (wA fu a b) λe=>G (Xx fu e d) λ(f,g)=>Z (f,g)
def kJ(a b:U):V J:=G (qL fu a b) λd=>G (xF fu d) λe=>Z e
def XX(e d:U):V (U×J):=G (q8 fu e d) λ(a,b)=>if b=0 then G (vT fu a a) λf=>G (kJ fu f d) λg=>if 0<g then G (qL fu a d) λh=>Z (h,b)else Z (a,b)else Z (a,b)
def Vw(a:N U)(b:U):V ((N U)×J):=G (qN fu a b<|λc f=>XX fu c f) λ(d,e)=>Z (d,e)
def UB(b:N U):rX (J×(N U)×U×U) ((N U)×U×U):=λL (d,a,t3,e)=>G (if d<(X b:J)then Z ((X b:J),wT)else Z ((X b:J),I):V (J×ut)) λ(k,f)=>if f then zD d (X a) λg=>B (a.getD g (I,[])) λh=>G (WU fu e h) λi=>A (d+1) λj=>L (j,a,t3,i)else Z (a,t3,e)
def vN(d:N U):V U:=G (zQ fu d) λb=>G (yo fu 0) λe=>G (zg (UB fu b) fu<|(0,b,(I,[]),e)) λ(t5,j,a)=>if 0<(X t5:J)then A ((X t5:J)-1) λf=>zD f (X t5) λg=>B ((t5.getD g (I,[])).1) λh=>if h then G (Zc fu a) λi=>Z i else Z a else Z a
def K6(e:J)(a b:U):V U:=G (v7 fu a b) λ(d,f)=>Z d
def wh(a:N U):V (N U):=G (vN fu a) λb=>G (zQ fu a) λd=>G (zJ fu d<|λc f=>K6 fu c f b) λe=>Z e
def uF(d:N (N U))(a:N J)(e:U):rX ((N U)×J×(N J)) ((N U)×(N J)):=λL (f,b,t3)=>G (if b<(X a:J)then Z (d,e,(X a:J),wT)else Z (d,e,(X a:J),I):V ((N<|N U)×U×J×ut)) λ(g,t5,p,h)=>if h then zD b (X t3) λi=>B (t3.getD i 0) λj=>zD j (X g) λk=>B (g.getD k []) λl=>G (Jt fu f l t5) λ(m,q)=>A (b+1) λo=>L (m,o,t3)else Z (f,t3)
def jJ(a:N U)(g:N (N U))(d:N J)(e:U):V ((N U)×(N J)):=A ((X a:J)-1) λh=>jt h λf=>ck (f<=X a)<|B (a.drop f) λi=>G (zg (uF fu g d e) fu<|(i,0,d)) λ(j,k)=>G (Vw fu j e) λ(l,m)=>G (wh fu l) λb=>Z (b,k)
def qA{X Y R:Type}(fu:K)(n c:J)(g:N J->X->V (N J×(X⊕Y)))(x:X)(xs:N J)(L:X->N J->J->J->J->J->J->V R)(E:X->J->J->N J->V R)(f:Y->N J->V R):V R:=G (g xs x) λr=>xfi (λd=>A (n-1) λa=>G (zg (λL i=>if 0<=i then zD i (Ap r.1) λj=>B (r.1.getD j 0) λy=>A (c-n) λe=>A (e+i) λe=>if y=e then A (i-1) λi=>L i else Z i else Z i) fu a) λi=>if i<0 then E d a i r.1 else zD i (Ap r.1) λj=>B (r.1.getD j 0) λy=>A (y+1) λe=>zD i (Ap r.1) λj=>B (r.1.set j e) λxs=>A (i+1) λb=>G (zg (λL (z:J×N J)=>if z.1<n then A (z.1-1) λe=>zD e (Ap z.2) λj=>B (z.2.getD j 0) λy=>A (y+1) λe=>zD z.1 (Ap z.2) λj=>B (z.2.set j e) λxs=>A (z.1+1) λi=>L (i,xs)else Z z.2) fu (b,xs)) λxs=>L d xs b i e y a) (λy=>f y r.1) r.2
def vm{X Y:Type}(fu:K)(n b:J)(g:N J->X->V (N J×(X⊕Y)))(a:X):V (X⊕Y):=jt n λm=>ck (8*m<=281474976710656)<|B (So m 0) λxs=>G (zg (λL (z:N J×J)=>if z.2<(Ap xs:J)then zD z.2 (Ap z.1) λj=>B (z.1.set j z.2) λxs=>A (z.2+1) λi=>L (xs,i)else Z z.1) fu (xs,0)) λxs=>zg (λL (q:X×N J)=>qA fu n b g q.1 q.2 (λx xs _ _ _ _ _=>L (x,xs)) (λx _ _ _=>Z (.inl x)) λy _=>Z (.inr y)) fu (a,xs)
def be(fu:K)(b:N J)(d:J):rX J (Wd⊕J):=λL a=>if a<(X b:J)then zD a (X b) λe=>B (b.getD e 0) λf=>if d=f then Z (.inr a)else A (a+1) λg=>L g else Z (.inl ())
def XK(a:N J)(b:J):V J:=G (zg (be fu a b) fu 0) λd=>match d with
 |.inl _=>Z (-1:J)
 |.inr e=>Z e
def v8(fu:K)(b:N J)(d:J):rX J (Wd⊕J):=λL a=>if a<(X b:J)then zD a (X b) λe=>B (b.getD e 0) λf=>if d=f then Z (.inr a)else A (a+1) λg=>L g else Z (.inl ())
def qU(a:N J)(b:J):V (J×(N J)):=G (zg (v8 fu a b) fu 0) λd=>match d with
 |.inl _=>Z<|((-1:J),a)
 |.inr e=>Z (e,a)
def Z8(a:N J)(b:J):V ut:=G (XK fu a b) λd=>if 0<=d then Z wT else Z I
def wm(b:N J)(d:J):V (ut×(N J)):=G (qU fu b d) λ(e,a)=>if 0<=e then Z (wT,a)else Z (I,a)
def HN(a:N (N U))(e:N J):rX ((N<|N U)×J) (N<|N U):=λL (d,b)=>G (if b<(X a:J)then Z (e,a,(X a:J),wT)else Z (e,a,(X a:J),I):V ((N J)×(N<|N U)×J×ut)) λ(g,t3,o,h)=>if h then zD b (X t3) λi=>B (t3.getD i []) λf=>G (Z8 fu g b) λj=>if !j then ck ((X d+X ([f]))*24<=140737488355328)<|B (d++([f])) λk=>A (b+1) λl=>L (k,l)else A (b+1) λm=>L (d,m)else Z d
def uY(a:N (N U)):rX ((N<|N U)×J×(N J)) ((N<|N U)×(N J)):=λL (d,b,e)=>G (if b<(X a:J)then Z (a,(X a:J),wT)else Z (a,(X a:J),I):V ((N<|N U)×J×ut)) λ(t3,m,h)=>if h then zD b (X t3) λi=>B (t3.getD i []) λf=>G (wm fu e b) λ(j,g)=>if !j then ck ((X d+X ([f]))*24<=140737488355328)<|B (d++([f])) λt5=>A (b+1) λk=>L (t5,k,g)else A (b+1) λl=>L (d,l,g)else Z (d,e)
def xT(a:N (N U))(b:N J):V ((N<|N U)×(N J)):=G (zg (uY fu a) fu<|([],0,b)) λ(d,e)=>Z (d,e)
def qY(b:(ut×N K))(ys:N J)(y:N (ut×N K)×N (N<|ut×N K)×N (N<|ut×N K)):V (N J×((N (ut×N K)×N (N<|ut×N K)×N (N<|ut×N K))⊕(N (ut×N K)×N (N<|ut×N K)×N (N<|ut×N K)))):=G (jJ fu y.1 y.2.1 ys b) λc=>G (wB fu y.1 c.1) λq=>if q.2=0 then if 1<(X c.1:J)then ck ((X y.2.2+1)*24<=140737488355328)<|B (y.2.2++[c.1]) λpr=>G (xT fu y.2.1 c.2) λw=>Z (w.2,.inr (q.1,w.1,pr))else Z (c.2,.inl y)else Z (c.2,.inl y)
def YI(b:(ut×N K))(x:N (ut×N K)×N (N<|ut×N K)×N (N<|ut×N K)×J)(L:N (ut×N K)×N (N<|ut×N K)×N (N<|ut×N K)×J->V (N (ut×N K)×N (N<|ut×N K)×N (N<|ut×N K))):V (N (ut×N K)×N (N<|ut×N K)×N (N<|ut×N K)):=A (2*x.2.2.2) λd=>if d<=(X x.2.1:J)then G (vm fu x.2.2.2 (X x.2.1:J) (qY fu b) (x.1,x.2.1,x.2.2.1)) λr=>xfi (λy=>A (x.2.2.2+1) λi=>L (y.1,y.2.1,y.2.2,i)) (λy=>L (y.1,y.2.1,y.2.2,x.2.2.2)) r else Z (x.1,x.2.1,x.2.2.1)
def Yw(f:N (ut×N K))(a:N (N<|ut×N K))(b:(ut×N K)):V (N<|N<|ut×N K):=G (zg (λL x=>YI fu b x L) fu (f,a,[],1)) λx=>if 1<(X x.1:J)then G (wh fu x.1) λq=>ck ((X x.2.2+1)*24<=140737488355328)<|B (x.2.2++[q]) λpr=>Z pr else Z x.2.2
def gx(b d:N U):rX J (Wd⊕ut):=λL a=>if 0<=a then zD a (X b) λf=>B (b.getD f (I,[])) λg=>zD a (X d) λh=>B (d.getD h (I,[])) λi=>G (kJ fu g i) λe=>if e=0 then A (a-1) λj=>L j else if e<0 then Z (.inr wT)else Z (.inr I)else Z (.inl ())
def XB(d e:N U):V ut:=G (zQ fu d) λa=>G (zQ fu e) λb=>if(X a:J)=(X b:J)then A ((X a:J)-1) λf=>G (zg (gx fu a b) fu f) λg=>match g with
 |.inl _=>Z I
 |.inr h=>Z h else if(X a:J)<(X b:J)then Z wT else Z I
def jU(a b:N U):V J:=G (XB fu a b) λd=>if d then Z (-1:J)else G (XB fu b a) λe=>if e then Z 1 else Z 0
def VA(f:J)(g:U):rX (J×U×J×U) (J×U×U):=λL (a,b,d,e)=>if d<f then G (zP fu e g) λh=>A (d+1) λi=>L (a,b,i,h)else Z (a,b,e)
def aH(f:U)(b:J):rX (U×U×U) U:=λL (d,t3,e)=>G (vT fu t3 e) λg=>G (cM fu g.2 1) λt5=>G (xk fu I t5) λa=>G (kJ fu a t3) λh=>if h=0 then Z t3 else G (yo fu 1) λi=>G (zg (VA fu b a) fu<|(b,f,0,i)) λ(m,j,k)=>G (kJ fu k j) λl=>if l<=0 then L (d,a,e)else L (d,t3,a)
def Uu(b:U)(a:J):V (U×J):=if a<1 then Z ((I,[]),1)else if 64<a then Z ((I,[]),1)else G (xF fu b) λe=>if e<0 then Z ((I,[]),1)else G (yo fu 0) λf=>G (ZD fu b.2) λg=>ck (a≠0)<|A (xdv g a) λh=>A (h+1) λi=>B (min i 262144) λj=>G (W6 fu [(1:K)] j) λ(k,m)=>G (xk fu I k) λl=>G (zg (aH fu b a) fu<|((I,[]),f,l)) λd=>Z<|(d,0)
def X8(b:N U):V J:=G (zQ fu b) λa=>if(X a:J)=0 then Z 8 else if 65<(X a:J)then Z 6 else Z 0
def lU(b:N U):rX (J×(N U)×U×U) ((N U)×U×U):=λL (d,a,t3,e)=>G (if d<(X b:J)then Z ((X b:J),wT)else Z ((X b:J),I):V (J×ut)) λ(l,g)=>if g then zD d (X a) λh=>B (a.getD h (I,[])) λf=>G (zP fu f f) λi=>G (vT fu e i) λj=>A (d+1) λk=>L (k,a,t3,j)else Z (a,t3,e)
def vz(a:N U):V (U×J):=G (X8 fu a) λb=>if b=0 then G (zQ fu a) λd=>G (yo fu (-1:J)) λe=>G (zg (lU fu d) fu<|(0,d,(I,[]),e)) λ(t5,m,f)=>G (Uu fu f 2) λ(g,o)=>G (yo fu 1) λh=>G (vT fu g h) λi=>A ((X t5:J)-1) λj=>G (W6 fu i.2 j) λ(k,p)=>G (qp fu (I,k)) λl=>Z (l,0)else Z ((I,[]),b)
def Jc(d:J)(e:U):rX (J×U) J:=λL (a,b)=>G (kJ fu b e) λf=>if f<=0 then G (yo fu d) λg=>G (zP fu b g) λh=>A (a+1) λi=>L (i,h)else Z a
def Vo(a:N U)(b:J):V J:=G (vz fu a) λ(d,m)=>G (yo fu 2) λe=>A ((X a:J)-1) λf=>zD f (X a) λg=>B (a.getD g (I,[])) λh=>G (zP fu d h) λi=>G (zP fu e i) λj=>G (yo fu b) λk=>G (zg (Jc fu b j) fu<|(1,k)) λl=>Z l
def J6(a:N U):V ut:=G (vz fu a) λ(b,k)=>G (yo fu 2) λd=>A ((X a:J)-1) λe=>zD e (X a) λf=>B (a.getD f (I,[])) λg=>G (zP fu b g) λh=>G (zP fu d h) λi=>G (ZD fu i.2) λj=>if 1000<j then Z wT else Z I
def WC(fu:K)(b d:N J):rX J (Wd⊕J):=λL a=>if 0<=a then zD a (X b) λe=>B (b.getD e 0) λf=>zD a (X d) λg=>B (d.getD g 0) λh=>if f<h then Z (.inr (-1:J))else zD a (X b) λi=>B (b.getD i 0) λj=>zD a (X d) λk=>B (d.getD k 0) λl=>if l<j then Z (.inr 1)else A (a-1) λm=>L m else Z (.inl ())
def vD(a b:N J):V J:=if(X a:J)=(X b:J)then A ((X a:J)-1) λd=>G (zg (WC fu a b) fu d) λe=>match e with
 |.inl _=>Z 0
 |.inr f=>Z f else A ((X a:J)-(X b:J)) λg=>Z g
def jZ(fu:K)(a:N J)(b:J):V ut:=zD b (X a) λd=>B (a.getD d 0) λe=>if e=0 then Z I else Z wT
def lX(b:N J)(e:J):rX (J×(N J)) (N J):=λL (a,d)=>if a<(X b:J)then zD a (X b) λf=>B (b.getD f 0) λg=>G (ZJ fu g e) λh=>zD a (X d) λi=>B (d.set i h) λt3=>A (a+1) λj=>L (j,t3)else Z d
def Wb(a:N J)(d:J):V (N J):=jt (X a:J) λb=>ck (8*b<=281474976710656)<|B (So b 0) λe=>G (zg (lX fu a d) fu<|(0,e)) λf=>Z f
def iZ(fu:K)(a:N (N J)):rX J (Wd⊕Wd):=λL b=>G (if b<(X a:J)then Z (a,a,(X a:J),wT)else Z (a,a,(X a:J),I):V ((N<|N J)×(N<|N J)×J×ut)) λ(d,e,l,g)=>if g then zD b (X e) λh=>B (e.getD h []) λf=>if 64<(X f:J)then Z (.inr ())else zD 0 (X d) λi=>B (d.getD i []) λj=>if(X f:J)=(X j:J)then A (b+1) λk=>L k else Z (.inr ())else Z (.inl ())
def XQ(a:N (N J))(b:J):V J:=G (vj fu b) λd=>if d=0 then if 64<(X a:J)then Z 1 else G (zg (iZ fu a) fu 0) λe=>match e with
 |.inl _=>Z 0
 |.inr _=>Z 1 else Z 1
def qe(c:N (N J))(ix:N K)(r:K)(a p:J)(lo n:K):V (N<|N J):=G (zg (λL (x:((N (N J)×N K)×K×K)×(K×K)×K×J)=>if x.2.2.2<(n:J)then zD x.2.2.2 x.2.1.2 λj=>B (x.1.1.2.getD (x.2.1.1+j) 0) λq=>zD a (X (x.1.1.1.getD q [])) λj=>B ((x.1.1.1.getD q []).getD j 0) λy=>G (zg (λL (z:((N (N J)×N K)×K×K)×(K×K)×K×K×K×J)=>if z.2.2.2.2.2<(X (x.1.1.1.getD x.2.2.1 []):J)then zD z.2.2.2.2.2 (X (z.1.1.1.getD z.2.2.2.1 [])) λj=>B ((z.1.1.1.getD z.2.2.2.1 []).getD j 0) λv=>zD z.2.2.2.2.2 (X (z.1.1.1.getD z.2.2.2.2.1 [])) λj=>B ((z.1.1.1.getD z.2.2.2.2.1 []).getD j 0) λu=>A (p-y) λe=>A (e*v) λe=>A (u+e) λe=>ck (p≠0)<|B (xcB e p) λe=>zD z.2.2.2.2.2 (X (z.1.1.1.getD z.2.2.2.2.1 [])) λj=>B (z.1.1.1.set z.2.2.2.2.1<|(z.1.1.1.getD z.2.2.2.2.1 []).set j e) λb=>A (z.2.2.2.2.2+1) λi=>L (((b,z.1.1.2),z.1.2),z.2.1,z.2.2.1,z.2.2.2.1,z.2.2.2.2.1,i)else Z (z.1,z.2.1,z.2.2.1)) fu (x.1,x.2.1,x.2.2.1,x.2.2.1,q,0)) λz=>A (x.2.2.2+1) λi=>L (z.1,z.2.1,z.2.2,i)else Z x.1) fu (((c,ix),lo,n),(lo,n),r,0)) λx=>ck (x.2.1=lo/\x.2.2=n/\x.1.2=ix)<|some x.1.1
def vS(fu:K)(b:N (N J))(d:(N J)->V ut):rX J (Wd⊕J):=λL a=>if a<(X b:J)then zD a (X b) λe=>B (b.getD e []) λf=>G (d f) λg=>if g then Z (.inr a)else A (a+1) λh=>L h else Z (.inl ())
def yR(a:N (N J))(b:(N J)->V ut):V J:=G (zg (vS fu a b) fu 0) λd=>match d with
 |.inl _=>Z (-1:J)
 |.inr e=>Z e
def Zi(g:N (N J))(p:J):V (N (N J)×J):=G (XQ fu g p) λe=>if e=0 then G (zg (λL (x:(N (N J)×N K)×J)=>if x.2<(X g:J)then zD x.2 (X g) λj=>B (g.getD j []) λy=>G (Wb fu y p) λr=>ck ((X x.1.2+1)*24<=140737488355328)<|B (x.1.1++[r]) λl=>B (x.1.2++[X x.1.1]) λn=>A (x.2+1) λi=>L ((l,n),i)else Z x.1) fu (([],[]),0)) λx=>G (zg (λL (x:(N (N J)×N K)×J×J)=>if x.2.1<(X x.1.2:J)then zD 0 (X x.1.2) λj=>B (x.1.2.getD j 0) λr=>if x.2.2<(X (x.1.1.getD r []):J)then jt x.2.1 λj=>ck (j<=X x.1.2)<|G (yR fu (xdB (X x.1.2-j)<|xdN j<|x.1.2.map λr=>x.1.1.getD r []) λz=>jZ fu z x.2.2) λi=>if i<0 then A (x.2.2+1) λc=>L (x.1,x.2.1,c)else A (x.2.1+i) λa=>A (x.2.1+i) λb=>zD b (X x.1.2) λj=>B (x.1.2.getD j 0) λd=>zD x.2.1 (X x.1.2) λj=>B (x.1.2.getD j 0) λf=>zD x.2.1 (X x.1.2) λj=>B (x.1.2.set j d) λix=>zD a (X ix) λj=>B (ix.set j f) λix=>zD x.2.1 (X ix) λj=>B (ix.getD j 0) λr=>zD x.2.2 (X (x.1.1.getD r [])) λj=>B ((x.1.1.getD r []).getD j 0) λy=>G (Qu fu y p) λq=>zD x.2.1 (X ix) λj=>B (ix.getD j 0) λr=>G (zg (λL (z:(N (N J)×N K)×K×J)=>if z.2.2<(X (x.1.1.getD r []):J)then zD z.2.2 (X (z.1.1.getD z.2.1 [])) λj=>B ((z.1.1.getD z.2.1 []).getD j 0) λy=>zD x.2.1 (X z.1.2) λj=>B (z.1.2.getD j 0) λr=>A (y*q.1) λe=>ck (p≠0)<|B (xcB e p) λe=>zD z.2.2 (X (z.1.1.getD r [])) λj=>B (z.1.1.set r<|(z.1.1.getD r []).set j e) λh=>A (z.2.2+1) λi=>L ((h,z.1.2),z.2.1,i)else Z z.1) fu ((x.1.1,ix),r,0)) λm=>zD x.2.1 (X m.2) λj=>B (m.2.getD j 0) λr=>jt x.2.1 λj=>ck (j<=X m.2)<|G (qe fu m.1 m.2 r x.2.2 p 0 j) λh=>zD x.2.1 (X m.2) λj=>B (m.2.getD j 0) λr=>A (x.2.1+1) λe=>jt e λj=>ck (j<=X m.2)<|G (qe fu h m.2 r x.2.2 p j<|X m.2-j) λh=>A (x.2.1+1) λk=>A (x.2.2+1) λc=>L ((h,m.2),k,c)else Z (x.1,x.2.1)else Z (x.1,x.2.1)) fu (x,0,0)) λx=>jt x.2 λj=>ck (j<=X (x.1.2.map λr=>x.1.1.getD r []))<|B (xdB j<|x.1.2.map λr=>x.1.1.getD r []) λys=>Z (ys,0)else Z ([],e)
def Yl(fu:K)(a:J):V ut:=if a=0 then Z I else Z wT
def vn(fu:K)(b:N J)(d:J->V ut):rX J (Wd⊕J):=λL a=>if a<(X b:J)then zD a (X b) λe=>B (b.getD e 0) λf=>G (d f) λg=>if g then Z (.inr a)else A (a+1) λh=>L h else Z (.inl ())
def xv(a:N J)(b:J->V ut):V J:=G (zg (vn fu a b) fu 0) λd=>match d with
 |.inl _=>Z (-1:J)
 |.inr e=>Z e
def QI(a:N J):V J:=G (xv fu a<|λc=>Yl fu c) λb=>Z b
def jv(a:N J)(b:J):V ut:=G (QI fu a) λd=>if d=b then Z wT else Z I
def xZ(a:N (N J))(b:(N J)->V ut):V ut:=G (yR fu a b) λd=>if 0<=d then Z wT else Z I
def bf(b h i:J)(t3:N (N J))(j:J):rX (J×(N<|N J)×(N J)) ((N<|N J)×(N J)):=λL (d,k,e)=>bd (if d<(X t3:J)then Z (h,i,t3,b,j,b,t3,(X t3:J),wT)else Z (h,i,t3,b,j,b,t3,(X t3:J),I):V (J×J×(N<|N J)×J×J×J×(N<|N J)×J×ut)) λ(B,l,C,m,E,G,a,o,p)=>if p then zD d (X a) λq=>nm (a.getD q []) λf=>bd (QI fu f) λr=>zD m (X f) λs=>nm (f.getD s 0) λu=>zf (0-u) λv=>bd (ZJ fu v l) λw=>zD r (X e) λy=>nm (e.set y w) λg=>zf (d+1) λA=>L (A,k,g)else Z (k,e)
def oQ(b h:J)(i:N (N J)):rX ((N<|N J)×J) (N<|N J):=λL (f,a)=>G (if a<b then Z (b,h,i,b,wT)else Z (b,h,i,b,I):V (J×J×(N<|N J)×J×ut)) λ(j,m,t3,o,p)=>if p then G (xZ fu t3<|λc=>jv fu c a) λq=>if q then A (a+1) λr=>L (f,r)else jt j λk=>ck (8*k<=281474976710656)<|B (So k 0) λl=>zD a (X l) λs=>B (l.set s 1) λt5=>G (zg (bf fu a j m t3 o) fu<|(0,f,t5)) λ(d,e)=>ck ((X d+X ([e]))*24<=140737488355328)<|B (d++([e])) λg=>A (a+1) λu=>L (g,u)else Z f
def VS(a:N (N J))(b d:J):V ((N<|N J)×J):=G (G (XQ fu a d) λf=>if f=0 then if b<0 then Z (.inr ())else if 64<b then Z (.inr ())else if 0<(X a:J)then zD 0 (X a) λg=>B (a.getD g []) λh=>if(X h:J)=b then Z (.inl ())else Z (.inr ())else Z (.inl ())else Z (.inr ()):V (Wd⊕Wd)) λi=>match i with
 |.inl _=>G (Zi fu a d) λ(j,k)=>G (zg (oQ fu b d j) fu<|([],0)) λe=>Z<|(e,0)
 |.inr _=>Z<|([],1)
def kD(e f:N J)(a:J):V ((N J)×(N J)×J):=G (vj fu a) λb=>if b=0 then G (yh fu f a) λd=>if(X d:J)=0 then Z ([],[],3)else G (yh fu e a) λg=>G (xR fu g d a) λ(t3,h)=>Z (t3,h,0)else Z ([],[],b)
def W2(i:U)(d:J)(j:N J):rX ((N J)×(N J)×J) (N J):=λL (e,f,a)=>if 0<=a then G (wZ fu e e d) λl=>G (xR fu l j d) λ(m,b)=>ck (64≠0)<|A (xdv a 64) λo=>zD o (X i.2) λp=>B (i.2.getD p 0) λq=>ck (64≠0)<|B (xcB a 64) λk=>ck (0<=k)<|B (q/2^(min (k:J).toNat 64)) λr=>B (r &&& (1:K)) λs=>if(s:J)=(((1:K):K):J)then G (wZ fu b f d) λg=>G (xR fu g j d) λ(u,h)=>A (a-1) λv=>L (h,f,v)else A (a-1) λw=>L (b,f,w)else Z e
def Zs(f:N J)(d:U)(g:N J)(a:J):V ((N J)×J):=G (vj fu a) λh=>if h=0 then G (xF fu d) λi=>if i<0 then Z ([],1)else G (yh fu g a) λb=>if(X b:J)=0 then Z ([],3)else G (xR fu [1] b a) λ(o,t3)=>G (yh fu f a) λj=>G (xR fu j b a) λ(t5,k)=>G (ZD fu d.2) λl=>A (l-1) λm=>G (zg (W2 fu d a b) fu (t3,k,m)) λe=>Z (e,0)else Z ([],1)
def X3(f:N J)(p:J):V (N<|N J):=A ((X f:J)-1) λn=>jt n λm=>ck (24*m<=281474976710656)<|B (So m 0) λix=>G (zg (λL (x:(N (N J)×N K)×J)=>if x.2<(X ix:J)then jt n λm=>ck (8*m<=281474976710656)<|B (So m 0) λys=>zD x.2 (X x.1.2) λj=>B (x.1.1++[ys]) λb=>B (x.1.2.set j (X x.1.1)) λix=>A (x.2+1) λi=>L ((b,ix),i)else Z x.1) fu (([[]],ix),0)) λx=>G (yo fu p) λz=>G (Zs fu [0,1] z f p) λq=>G (zg (λL (x:(N (N J)×N K)×N J×N J×J)=>if x.2.2.2<n then G (zg (λL (y:(N (N J)×N K)×J)=>if y.2<(X x.2.1:J)then zD y.2 (X x.2.1) λj=>B (x.2.1.getD j 0) λv=>zD y.2 (X y.1.2) λj=>B (y.1.2.getD j 0) λr=>zD x.2.2.2 (X (y.1.1.getD r [])) λj=>B (y.1.1.set r<|(y.1.1.getD r []).set j v) λa=>A (y.2+1) λi=>L ((a,y.1.2),i)else Z y.1) fu (x.1,0)) λy=>zD x.2.2.2 (X y.2) λj=>B (y.2.getD j 0) λr=>zD x.2.2.2 (X (y.1.getD r [])) λj=>B ((y.1.getD r []).getD j 0) λv=>A (v-1) λe=>zD x.2.2.2 (X (y.1.getD r [])) λj=>B (y.1.set r<|(y.1.getD r []).set j e) λa=>G (ku fu x.2.1 x.2.2.1 p) λu=>G (kD fu u.1 f p) λw=>A (x.2.2.2+1) λi=>L ((a,y.2),w.2.1,x.2.2.1,i)else Z x.1) fu (x,[1],q.1,0)) λx=>G (VS fu (x.2.map λr=>x.1.getD r []) n p) λr=>Z r.1
def my(a b:N J)(d:J):V (N J):=G (kD fu a b d) λ(e,f,g)=>Z e
def dE(a b:N J)(d:J):V (N J):=G (kv fu a b d) λ(e,f)=>Z e
def YD(b:J)(a:N J)(d:J):V J:=if b<(X a:J)then zD b (X a) λe=>B (a.getD e 0) λf=>G (ZJ fu f d) λg=>Z g else A (b-(X a:J)) λh=>Z h
def Uq(d e:N J)(a:J):V ((N J)×J):=G (vj fu a) λb=>if b=0 then G (yh fu d a) λf=>G (yh fu e a) λg=>G (Xe fu f g 1 a) λt3=>Z (t3,0)else Z ([],b)
def JN(d:N J)(e:J)(f:N J)(a:J):V (N J):=G (Uq fu d [e] a) λ(b,k)=>if 2<a then A (a-1) λg=>ck (2≠0)<|A (xdv g 2) λh=>G (yo fu h) λi=>G (Zs fu b i f a) λ(j,l)=>G (V8 fu j [1] a) λ(t3,m)=>Z t3 else Z b
def Q8(u:J)(v:ww J)(t3:ww (ww J))(e:J)(t5:ww J)(j h:J)(k:ww (ww J))(l:J)(i:ww J):rX ((ww<|ww J)×J) ((ww<|ww J)⊕(ww<|ww J)):=λL (a,d)=>if d<(X a:J)then if(X a:J)=(X t3:J)then Z (.inl a)else bd (YD fu h v u) λw=>zD d (X a) λy=>nm (a.getD y []) λA=>bd (JN fu i w A e) λm=>zD d (X a) λB=>nm (a.getD B []) λo=>bd (dE fu m o e) λb=>bd (if 1<(X b:J)then zD d (X a) λC=>nm (a.getD C []) λp=>if(X b:J)<(X p:J)then Z (t3,e,t5,h,i,k,l,j,wT)else Z (t3,e,t5,h,i,k,l,j,I)else Z (t3,e,t5,h,i,k,l,j,I):V ((ww<|ww J)×J×(ww J)×J×(ww J)×(ww<|ww J)×J×J×ut)) λ(E,q,G,P,t,c,Q,R,n)=>if n then zD d (X a) λK=>nm (a.getD K []) λr=>bd (my fu r b q) λf=>ck ((X a+X ([f]))*24<=140737488355328)<|nm (a++([f])) λg=>zD d (X g) λM=>nm (g.set M b) λs=>zf (d+1) λN=>L (s,N)else zf (d+1) λx=>L (a,x)else Z (.inr a)
def Je(j:J)(k:N J)(h:J)(a:N (N J)):rX ((N<|N J)×J×(N J)×(N<|N J)×J) ((N<|N J)⊕((N<|N J)×J×(N J)×(N<|N J))):=λL (t3,d,t5,i,b)=>G (if b<(X a:J)then Z (h,a,(X a:J),wT)else Z (h,a,(X a:J),I):V (J×(N<|N J)×J×ut)) λ(l,e,m,o)=>if o then zD b (X e) λp=>B (e.getD p []) λq=>G (zg (Q8 fu j k t3 d t5 b l e m q) fu<|(i,0)) λr=>match r with
 |.inl f=>Z (.inl f)
 |.inr g=>A (b+1) λs=>L (t3,d,t5,g,s)else Z (.inr (t3,d,t5,i))
def QV(a:N (N J))(b:J)(d:N J):rX ((N<|N J)×J) (N<|N J):=λL (h,e)=>A (b+(X d:J)) λj=>if e<j then jt 1 λi=>ck (i<=X a)<|B (a.drop i) λk=>G (zg (Je fu b d e k) fu<|(a,b,d,h,0)) λl=>match l with
 |.inl f=>Z f
 |.inr (m,o,p,g)=>A (e+1) λq=>L (g,q)else Z h
def Vp(b:N J)(d:N (N J))(e:J)(f:N J):V (N<|N J):=G (zg (QV fu d e f) fu<|([b],0)) λa=>Z a
def jy(e:N J)(b:J):V ((N J)×J):=G (vj fu b) λd=>if d=0 then G (yh fu e b) λa=>if(X a:J)=0 then Z ([],0)else A ((X a:J)-1) λf=>zD f (X a) λg=>B (a.getD g 0) λh=>G (qE fu a h b) λi=>Z (i,0)else Z ([],d)
def dM(d:N J)(e:J):V ((N J)×J):=G (jy fu d e) λ(a,b)=>if b=0 then if(X a:J)=0 then Z ([],8)else if 65<(X a:J)then Z ([],6)else Z (a,0)else Z ([],b)
def eJ(fu:K)(e:J)(d:N J):rX ((N J)×J×(N J)) (N J):=λL (b,a,t3)=>G (if a<(X d:J)then Z (e,(X d:J),wT)else Z (e,(X d:J),I):V (J×J×ut)) λ(f,p,h)=>if h then zD a (X t3) λi=>B (t3.getD i 0) λj=>if 0<a then ck (f≠0)<|B (xcB a f) λk=>A (k*j) λg=>ck ((X b+X ([g]))*8<=140737488355328)<|B (b++([g])) λl=>A (a+1) λm=>L (l,m,t3)else A (a+1) λo=>L (b,o,t3)else Z b
def VK(e:N J)(a:J):V ((N J)×J):=G (vj fu a) λb=>if b=0 then G (yh fu e a) λd=>G (zg (eJ fu a d) fu<|([],0,d)) λt5=>G (yh fu t5 a) λf=>Z (f,0)else Z ([],b)
def JT(d:N J)(e:J):V ((N J)×J):=G (jy fu d e) λ(a,b)=>if b=0 then if(X a:J)=0 then Z ([],8)else Z (a,b)else Z (a,b)
def Y8(e:N J)(a:J):V (ut×J):=G (JT fu e a) λ(b,d)=>if d=0 then G (VK fu b a) λ(f,g)=>G (kv fu b f a) λ(t3,h)=>if(X t3:J)=1 then Z (wT,0)else Z (I,0)else Z (I,d)
def uC(e:N J)(a:J):V ((N J)×J):=G (dM fu e a) λ(b,d)=>if d=0 then G (Y8 fu b a) λ(f,g)=>if !f then Z ([],1)else Z (b,0)else Z ([],d)
def uo(a:K):V J:=G (vJ fu a) λb=>Z b
def u9(fu:K)(g:(N J)->(N J)->V J):rX (J×J×J×(N<|N J)) (J×J×(N<|N J)):=λL (d,e,b,a)=>if d<b then zD b (X a) λh=>B (a.getD h []) λt3=>A (b-1) λi=>zD i (X a) λj=>B (a.getD j []) λk=>G (g t3 k) λl=>if l<0 then A (b-1) λm=>A (b-1) λo=>zD o (X a) λp=>B (a.getD p []) λt5=>zD b (X a) λq=>B (a.getD q []) λr=>zD b (X a) λs=>B (a.set s t5) λf=>zD m (X f) λu=>B (f.set u r) λv=>A (b-1) λw=>L (d,e,w,v)else Z (d,e,a)else Z (d,e,a)
def Zx(e b:J)(f:(N J)->(N J)->V J):rX (J×(N<|N J)) (N<|N J):=λL (a,d)=>if a<b then G (zg (u9 fu f) fu (e,b,a,d)) λ(i,j,g)=>A (a+1) λh=>L (h,g)else Z d
def vW(d:N (N J))(b e:J)(f:(N J)->(N J)->V J):V (N<|N J):=A (b+1) λg=>G (zg (Zx fu b e f) fu (g,d)) λa=>Z a
def q7(d:(N J)->(N J)->V J):rX (J×J×J×(N<|N J)) (N<|N J):=λL (a,b,e,f)=>A (b-a) λg=>if g<=12 then G (vW fu f a b d) λh=>Z h else if e=0 then wS else wS
def jV:K->(N<|N J)->J->J->J->((N J)->(N J)->V J)->V (N<|N J)
 |0,_,_,_,_,_=>wS
 |fu+1,a,b,d,e,f=>G (zg (q7 fu f) fu (b,d,e,a)) λt3=>Z t3
def wi(a:N (N J))(b:(N J)->(N J)->V J):V (N<|N J):=B (Ec<|(X a:J)) λd=>G (uo fu d) λe=>G (jV fu a 0 (X a:J) e b) λf=>Z f
def X4(g:N J)(a:J)(b:N J):V ((N<|N J)×J):=G (uC fu g a) λ(d,e)=>if e=0 then if(X d:J)=1 then Z ([],e)else G (X3 fu d a) λh=>B (min (X b:J) 64) λi=>jt i λf=>ck (f<=X b)<|B (b.take f) λt3=>G (Vp fu d h a t3) λj=>G (wi fu j<|λc k=>vD fu c k) λt5=>Z (t5,0)else Z ([],e)
def KB:rX J J:=λL a=>G (Zz fu a) λb=>if !b then A (a+1) λd=>L d else Z a
def wQ(a:J):V (J×J):=if 65521<=a then Z (0,5)else B (max a 1) λb=>A (b+1) λd=>G (zg (KB fu) fu d) λe=>Z<|(e,0)
def JS(a:N U)(b:J):V (ut×J):=G (vz fu a) λ(i,d)=>if d=0 then G (Zz fu b) λf=>if !f then Z (I,0)else G (Zw fu a b) λ(e,j)=>G (zQ fu a) λg=>if(X e:J)=(X g:J)then G (Y8 fu e b) λ(h,k)=>Z (h,0)else Z (I,0)else Z (I,d)
def Ks(l:N U)(m:N J):rX (J×J×(N<|N J)×J×J) (J×(N<|N J)):=λL (b,e,d,a,o)=>if o=0 then if e<5 then G (JS fu l a) λ(p,v)=>if !p then G (wQ fu a) λ(q,r)=>L (b,e,d,q,r)else A (e+1) λf=>G (Zw fu l a) λ(s,w)=>G (X4 fu s a m) λ(t3,y)=>if b=0 then G (wQ fu a) λ(u,g)=>L (a,f,t3,u,g)else if(X t3:J)<(X d:J)then G (wQ fu a) λ(h,i)=>L (a,f,t3,h,i)else G (wQ fu a) λ(j,k)=>L (b,f,d,j,k)else Z (b,d)else Z (b,d)
def JR(a:N U)(b:N J):V (J×(N<|N J)):=G (wQ fu 1) λ(d,e)=>G (zg (Ks fu a b) fu<|(0,0,[],d,e)) λ(f,g)=>Z (f,g)
def A7(a:J):rX (J×U×U) (U×U):=λL (b,d,e)=>G (if b<a then Z (a,a,wT)else Z (a,a,I):V (J×J×ut)) λ(f,q,g)=>if g then A (f+b) λh=>A (h+1) λi=>G (yo fu i) λj=>G (zP fu e j) λk=>A (b+1) λl=>G (yo fu l) λm=>G (v7 fu k m) λ(o,r)=>A (b+1) λp=>L (p,d,o)else Z (d,e)
def iE(a:J):V U:=G (yo fu 1) λb=>G (zg (A7 fu a) fu<|(0,(I,[]),b)) λ(t3,d)=>Z d
def C6:rX (J×U×U) U:=λL (b,a,d)=>if 0<b then B (zb1 b 1) λe=>if e=1 then G (zP fu d a) λf=>G (zP fu a a) λg=>B (xfW b<|2^(min ((1:K):J).toNat 64)) λh=>L (h,g,f)else G (zP fu a a) λi=>B (xfW b<|2^(min ((1:K):J).toNat 64)) λj=>L (j,i,d)else Z d
def Yt(a:U)(b:J):V U:=G (yo fu 1) λd=>G (zg (C6 fu) fu (b,a,d)) λt3=>Z t3
def CX(a d:N U):rX (J×U×U) (U×U):=λL (b,e,f)=>G (if b<(X a:J)then Z (d,a,(X a:J),wT)else Z (d,a,(X a:J),I):V ((N U)×(N U)×J×ut)) λ(t3,g,q,h)=>if h then zD b (X g) λi=>B (g.getD i (I,[])) λj=>zD b (X t3) λk=>B (t3.getD k (I,[])) λl=>G (zP fu j l) λm=>G (vT fu f m) λo=>A (b+1) λp=>L (p,e,o)else Z (e,f)
def nY(a b:N U):V U:=G (yo fu 0) λd=>G (zg (CX fu a b) fu<|(0,(I,[]),d)) λ(t5,e)=>Z e
def oD(a b:N U):V (U×J):=if(X a:J)=(X b:J)then G (nY fu a b) λd=>Z (d,0)else Z ((I,[]),1)
def mh(a:N U):V U:=G (oD fu a a) λ(b,d)=>Z b
def Ev(f a:U):rX (J×U) (Wd⊕J):=λL (b,e)=>if b<=1000 then G (kJ fu e f) λg=>if 0<g then Z (.inr b)else G (zP fu e a) λd=>A (b+1) λh=>L (h,d)else Z (.inl ())
def sA(g:N U)(h d:J):V (J×J):=G (vz fu g) λ(C,i)=>if i=0 then G (wh fu g) λj=>zf ((X j:J)-1) λa=>G (Zz fu h) λk=>if !k then Z (0,1)else if d<1 then Z (0,1)else if a<d then Z (0,1)else zf (a-1) λe=>G (yo fu 2) λl=>zf (e*a) λm=>G (Yt fu l m) λo=>G (iE fu e) λp=>G (Yt fu p a) λq=>G (mh fu j) λr=>zf (e+a) λs=>G (Yt fu r s) λu=>G (zP fu q u) λv=>G (zP fu o v) λw=>G (yo fu h) λf=>zf (2*d) λy=>G (Yt fu f y) λb=>G (zg (Ev fu w b) fu<|(1,b)) λA=>match A with
 |.inl _=>Z<|(0,6)
 |.inr B=>Z (B,0)else Z (0,i)
def CJ(a b:N J)(d:J):V ut:=G (kD fu b a d) λ(f,e,g)=>if(X e:J)=0 then Z wT else Z I
def Q5(d:J):rX ((N U)×(N<|N J)) ((N U)×(N<|N J)):=λL (b,a)=>if 12<(X a:J)then zD 0 (X a) λe=>B (a.getD e []) λf=>A ((X f:J)-1) λg=>G (sA fu b d g) λ(h,i)=>if i=0 then G (jB fu b a d h) λ(t3,k)=>if(X t3:J)=0 then Z (b,a)else zD 0 (X t3) λj=>B (t3.getD j []) λl=>wS else Z (b,a)else Z (b,a)
def VM(a:N U)(b:N (N J))(d:J):V ((N<|N U)×(N U)×(N<|N J)):=G (zg (Q5 fu d) fu (a,b)) λ(t5,e)=>Z ([],t5,e)
def kI(fu:K)(g:(N U)->(N U)->V J):rX (J×J×J×(N<|N U)) (J×J×(N<|N U)):=λL (d,e,b,a)=>if d<b then zD b (X a) λh=>B (a.getD h []) λt3=>A (b-1) λi=>zD i (X a) λj=>B (a.getD j []) λk=>G (g t3 k) λl=>if l<0 then A (b-1) λm=>A (b-1) λo=>zD o (X a) λp=>B (a.getD p []) λt5=>zD b (X a) λq=>B (a.getD q []) λr=>zD b (X a) λs=>B (a.set s t5) λf=>zD m (X f) λu=>B (f.set u r) λv=>A (b-1) λw=>L (d,e,w,v)else Z (d,e,a)else Z (d,e,a)
def ug(e b:J)(f:(N U)->(N U)->V J):rX (J×(N<|N U)) (N<|N U):=λL (a,d)=>if a<b then G (zg (kI fu f) fu (e,b,a,d)) λ(i,j,g)=>A (a+1) λh=>L (h,g)else Z d
def vc(d:N (N U))(b e:J)(f:(N U)->(N U)->V J):V (N<|N U):=A (b+1) λg=>G (zg (ug fu b e f) fu (g,d)) λa=>Z a
def vV(d:(N U)->(N U)->V J):rX (J×J×J×(N<|N U)) (N<|N U):=λL (a,b,e,f)=>A (b-a) λg=>if g<=12 then G (vc fu f a b d) λh=>Z h else if e=0 then wS else wS
def qG:K->(N<|N U)->J->J->J->((N U)->(N U)->V J)->V (N<|N U)
 |0,_,_,_,_,_=>wS
 |fu+1,a,b,d,e,f=>G (zg (vV fu f) fu (b,d,e,a)) λt3=>Z t3
def yL(a:N (N U))(b:(N U)->(N U)->V J):V (N<|N U):=B (Ec<|(X a:J)) λd=>G (uo fu d) λe=>G (qG fu a 0 (X a:J) e b) λf=>Z f
def JX(a:N U)(g:N J):V ((N<|N U)×ut):=if(X a:J)<2 then Z ([],wT)else G (J6 fu a) λh=>if h then Z ([],I)else G (JR fu a g) λ(b,i)=>if b=0 then Z ([],I)else G (Vo fu a b) λe=>G (qC fu b e) λ(j,p)=>G (VM fu a i b) λ(d,t3,k)=>if 1<(X t3:J)then G (jB fu t3 k b e) λ(t5,q)=>G (Yw fu t3 t5 j) λf=>ck ((X d+X f)*24<=140737488355328)<|B (d++f) λl=>G (yL fu l<|λc n=>jU fu c n) λm=>Z (m,wT)else G (yL fu d<|λc n=>jU fu c n) λo=>Z (o,wT)
def gB(d:U)(e:J):rX (J×U) U:=λL (a,b)=>if a<e then G (zP fu b d) λf=>A (a+1) λg=>L (g,f)else Z b
def Js(a:U)(b:J):V U:=G (yo fu 1) λd=>G (zg (gB fu a b) fu<|(0,d)) λe=>Z e
def Q7(l:U):rX ((N U)×(N U)×J×(N U)) ((N U)×(N U)):=λL (t5,b,a,e)=>if 0<=a then zf (a+(X t5:J)) λm=>if(X b:J)<m then zf (a-1) λo=>L (t5,b,o,e)else zf (a+(X t5:J)) λp=>zf (p-1) λq=>zD q (X b) λr=>B (b.getD r (I,[])) λs=>G (v7 fu s l) λ(u,v)=>zD a (X e) λw=>B (e.set w u) λf=>jt a λj=>ck (32*j<=281474976710656)<|B (So j (I,[])) λk=>zD a (X f) λy=>B (f.getD y (I,[])) λA=>G (qm fu t5 A) λd=>ck ((X k+X d)*32<=140737488355328)<|B (k++d) λg=>G (kn fu b g) λh=>zf (a-1) λi=>L (t5,h,i,f)else Z (b,e)
def Ys(j k:N U):V ((N U)×(N U)×J):=G (zQ fu j) λg=>G (zQ fu k) λa=>if(X a:J)=0 then Z ([],[],3)else A ((X g:J)-(X a:J)) λl=>A (l+1) λm=>B (max m 0) λb=>A ((X a:J)-1) λo=>zD o (X a) λp=>B (a.getD p (I,[])) λh=>G (Js fu h b) λq=>G (qm fu g q) λt3=>jt b λi=>ck (32*i<=281474976710656)<|B (So i (I,[])) λr=>A (b-1) λs=>G (zg (Q7 fu h) fu (a,t3,s,r)) λ(d,e)=>G (zQ fu e) λf=>Z<|(f,d,0)
def rJ:rX ((N U)×(N U)) (N U):=λL (t3,a)=>if 0<(X a:J)then G (Ys fu t3 a) λ(t5,b,e)=>G (wh fu b) λd=>L (a,d)else Z t3
def WK(a b:N U):V (N U):=G (vN fu a) λd=>G (vN fu b) λe=>G (WU fu d e) λf=>G (wh fu a) λg=>G (wh fu b) λh=>G (zg (rJ fu) fu (g,h)) λi=>G (qm fu i f) λj=>Z j
def QQ(a:J)(b:U):V U:=G (yo fu a) λd=>G (zP fu b d) λe=>Z e
def Vn(d:N U):V (N U):=G (zJ fu d<|λc g=>QQ fu c g) λa=>B (min (X a:J) 1) λe=>jt e λb=>ck (b<=X a)<|B (a.drop b) λf=>G (zQ fu f) λt3=>Z t3
def AF(a b:N U):V (N U):=G (wB fu a b) λ(d,e)=>Z d
def qD(b:N U):V ((N U)×J):=G (X8 fu b) λd=>if d=0 then G (wh fu b) λa=>G (Vn fu a) λe=>G (WK fu a e) λt3=>G (AF fu a t3) λf=>Z (f,0)else Z ([],d)
def W8(e:N U)(a:N (N U)):rX ((N<|(N U)×J)×J×U×(N<|N U)) ((N<|(N U)×J)×U):=λL (t3,b,f,t5)=>G (if b<(X a:J)then Z (e,(X a:J),wT)else Z (e,(X a:J),I):V ((N U)×J×ut)) λ(h,m,i)=>if i then zD b (X t5) λj=>B (t5.getD j []) λd=>G (Wg fu h d) λg=>ck ((X t3+X ([(d,g)]))*32<=140737488355328)<|B (t3++([(d,g)])) λk=>A (b+1) λl=>L (k,l,f,t5)else Z (t3,f)
def vB(a:N U)(e:N J):V (U×(N<|(N U)×J)×J):=G (qD fu a) λ(f,b)=>if b=0 then G (JX fu f e) λ(d,g)=>if !g then Z ((I,[]),[],6)else G (zg (W8 fu a d) fu<|([],0,(I,[]),d)) λ(h,i)=>G (vN fu a) λj=>Z (j,h,0)else Z ((I,[]),[],b)
def wx(d:N U):V (ut×J):=G (vB fu d []) λ(g,b,a)=>if a=0 then if(X b:J)=1 then zD 0 (X b) λe=>B ((b.getD e ([],0)).2) λf=>if f=1 then Z (wT,a)else Z (I,a)else Z (I,a)else Z (I,a)
def aX(a:N U):rX (J×(v6×(N D))) (v6×(N D)):=λL (d,b)=>G (if d<(X a:J)then Z (a,a,(X a:J),wT)else Z (a,a,(X a:J),I):V ((N U)×(N U)×J×ut)) λ(t3,e,o,g)=>if g then zD d (X e) λh=>B (e.getD h (I,[])) λi=>A ((X t3:J)-1) λj=>zD j (X t3) λk=>B (t3.getD k (I,[])) λl=>G (YO fu i l) λ(f,p)=>ck ((X b.2+X ([f]))*56<=140737488355328)<|B (b.2++([f])) λt5=>A (d+1) λm=>L (m,(b.1,t5))else Z (b.1,b.2)
def Qm(d:N U):V ((V<|v6)×J):=G (wh fu d) λa=>if 17<(X a:J)then Z ((wS:V v6),6)else if(X a:J)<2 then Z ((wS:V v6),7)else G (wx fu a) λ(e,f)=>if f=0 then if !e then Z ((wS:V v6),7)else G (zg (aX fu a) fu<|(0,((a,[]),([]:N D)))) λb=>Z ((Z (b.1.1,b.2)),0)else Z ((wS:V v6),6)
def xW(fu:K)(a:V v6):V ut:=if(a).isNone=wT then Z wT else G (a) λb=>if(X b.1:J)=0 then Z wT else Z I
def ji(a:J):V D:=G (yo fu a) λb=>Z<|(b,[(1:K)])
def YZ(a:D):V U:=G (qp fu (I,a.2)) λb=>Z b
def wy(a:D):V D:=G (YZ fu a) λb=>G (YO fu a.1 b) λ(d,e)=>if e=0 then Z d else G (ji fu 0) λf=>Z f
def Ve(d e:D):V D:=G (wy fu d) λa=>G (wy fu e) λb=>G (zP fu a.1 b.1) λf=>G (ZX fu a.2 b.2) λg=>G (wy fu (f,g)) λh=>Z h
def Vg(a:D):V J:=G (wy fu a) λb=>G (xF fu b.1) λd=>Z d
def Vx(d e:D)(f:U->U->V U):V D:=G (wy fu d) λa=>G (wy fu e) λb=>G (YZ fu b) λg=>G (zP fu a.1 g) λh=>G (YZ fu a) λi=>G (zP fu b.1 i) λj=>G (f h j) λk=>G (ZX fu a.2 b.2) λl=>G (wy fu (k,l)) λm=>Z m
def Wj(a b:U)(d:ut):V U:=if d then G (qL fu a b) λe=>Z e else G (vT fu a b) λf=>Z f
def XE(a b:D)(d:ut):V D:=G (Vx fu a b<|λc f=>Wj fu c f d) λe=>Z e
def Kc(a b:D):V D:=G (XE fu a b wT) λd=>Z d
def YV(e:v6)(a:N D):rX (J×(N D)) (N D):=λL (b,d)=>G (if b<(X a:J)then Z (e,a,(X a:J),wT)else Z (e,a,(X a:J),I):V (v6×(N D)×J×ut)) λ(t3,f,m,g)=>if g then zD b (X f) λh=>B (f.getD h<|((I,[]),[])) λi=>G (wy fu i) λj=>zD b (X d) λk=>B (d.set k j) λt5=>A (b+1) λl=>L (l,t5)else Z d
def YR(h:J)(i:v6)(a:J):rX (J×(N D)×D) (N D):=λL (b,d,e)=>G (if b<a then Z (i,a,h,a,wT)else Z (i,a,h,a,I):V (v6×J×J×J×ut)) λ(f,j,k,C,l)=>if l then zf (k-j) λm=>zf (m+b) λo=>zf (k-j) λp=>zf (p+b) λq=>zD q (X d) λr=>nm (d.getD r<|((I,[]),[])) λs=>zD b (X f.2) λu=>nm (f.2.getD u<|((I,[]),[])) λv=>G (Ve fu e v) λw=>G (Kc fu s w) λy=>zD o (X d) λA=>nm (d.set A y) λg=>zf (b+1) λB=>L (B,g,e)else Z d
def YS(m:v6)(f:J):rX ((N D)×J) ((N D)⊕(N D)):=λL (b,a)=>if 0<=a then zD a (X b) λr=>B (b.getD r<|((I,[]),[])) λo=>G (if f<=a then Z (m,f,wT)else Z (m,f,I):V (v6×J×ut)) λ(s,u,v)=>if v then G (zg (YR fu a s u) fu<|(0,b,o)) λd=>jt a λp=>ck (p<=X d)<|B (d.take p) λg=>A (a-1) λw=>L (g,w)else G (Vg fu o) λh=>if h=0 then jt a λq=>ck (q<=X b)<|B (b.take q) λi=>A (a-1) λj=>L (i,j)else A (a+1) λk=>jt k λe=>ck (e<=X b)<|B (b.take e) λl=>Z (.inr l)else Z (.inl b)
def xy(a:v6)(e:N D):V (N D):=jt (X e:J) λf=>ck (56*f<=281474976710656)<|B (So f<|((I,[]),[])) λh=>G (zg (YV fu a e) fu<|(0,h)) λg=>A ((X a.2:J)-1) λi=>A ((X g:J)-1) λj=>G (zg (YS fu a i) fu (g,j)) λk=>match k with
 |.inl b=>Z b
 |.inr d=>Z d
def cm(a b:D):V D:=G (XE fu a b I) λd=>Z d
def kU(e:J)(g:N D)(i:v6)(j:N D)(k:J):rX (J×(N D)×(N D)×D) ((N D)×(N D)):=λL (a,f,b,d)=>bd (if a<(X g:J)then Z (i,e,j,k,e,(X g:J),wT)else Z (i,e,j,k,e,(X g:J),I):V (v6×J×(N D)×J×J×J×ut)) λ(m,l,o,E,G,c,p)=>if p then zD a (X f) λq=>nm (f.getD q<|((I,[]),[])) λr=>zf (l+a) λs=>zf (l+a) λu=>zD u (X b) λv=>nm (b.getD v<|((I,[]),[])) λw=>bd (Ve fu d r) λy=>bd (cm fu w y) λA=>zD s (X b) λB=>nm (b.set B A) λh=>zf (a+1) λC=>L (C,f,h,d)else Z (f,b)
def ui(g:v6)(a:N D):rX (J×(N D)×(N D)) (N D):=λL (b,h,t5)=>G (if b<(X a:J)then Z (g,a,(X a:J),wT)else Z (g,a,(X a:J),I):V (v6×(N D)×J×ut)) λ(i,d,j,k)=>if k then zD b (X d) λl=>B (d.getD l<|((I,[]),[])) λm=>G (zg (kU fu b h i d j) fu<|(0,h,t5,m)) λ(e,f)=>A (b+1) λo=>L (o,e,f)else Z t5
def xM(a:v6)(h i:N D):V (N D):=G (xy fu a h) λe=>G (xy fu a i) λf=>A ((X e:J)+(X f:J)) λj=>jt j λg=>ck (56*g<=281474976710656)<|B (So g<|((I,[]),[])) λt3=>G (zg (ui fu a e) fu<|(0,f,t3)) λb=>G (xy fu a b) λd=>Z d
def YW(d:v6)(a:N D)(e:J):rX (J×(N D)) (N D):=λL (b,t3)=>G (if b<(X a:J)then Z (e,d,a,(X a:J),wT)else Z (e,d,a,(X a:J),I):V (J×v6×(N D)×J×ut)) λ(f,s,t5,u,g)=>if g then zD b (X t5) λh=>B (t5.getD h<|((I,[]),[])) λi=>zD b (X t3) λj=>B (t3.getD j<|((I,[]),[])) λk=>G (ji fu f) λl=>G (Ve fu i l) λm=>G (cm fu k m) λo=>zD b (X t3) λp=>B (t3.set p o) λq=>A (b+1) λr=>L (r,q)else Z t3
def wG(a:v6)(b d:N D)(f:J):V (N D):=B (max (X b:J)<|(X d:J)) λg=>jt g λe=>ck (56*e<=281474976710656)<|B (So e<|((I,[]),[])) λh=>B (LH h b) λi=>G (zg (YW fu a d f) fu<|(0,i)) λj=>G (xy fu a j) λk=>Z k
end
end
end Go.Proofs.YtoegnnjcmlghhaaGreat
