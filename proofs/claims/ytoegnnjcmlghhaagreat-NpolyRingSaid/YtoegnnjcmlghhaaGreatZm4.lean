/- What a proof needs: rules of walking, mirrors of functions and their plain laws. No condition. -/
import Derived.Test.YtoegnnjcmlghhaaGreatZm3
import Derived.Shelf.Strings.Builder1
import Derived.Shelf.Strings.Builder2
import Derived.Shelf.Strings.OnBuilder
import Derived.Shelf.Small.Bits
import Derived.Shelf.Strconv.Itoa0
import Derived.Shelf.Bits.Mul64
import Derived.Ground.Names2Prog
import Derived.Shelf.Slices.ReverseS
import Derived.Shelf.Slices.SearchI
import Derived.Shelf.Slices.Cells
import Derived.Ground.SlgnProg
import Derived.Shelf.SlicesE.Clone
import Derived.RecoverIn
set_option linter.all false
namespace Go.Proofs
open Go.Shelf
def Tryz.lays156_ren:Go.Shelf.Ren:=⟨fun|156=>164|165=>199|166=>200|169=>201|240=>236|241=>237|276=>268|277=>269|n=>n,fun|31=>159|9=>9|3=>3|4=>4|0=>0|20=>20|72=>194|76=>198|70=>192|37=>190|75=>197|127=>221|164=>247|5=>5|80=>200|n=>n,fun|n=>n⟩
theorem Tryz.lays156:Go.Proofs.Lays.n156 Tryz.prog Tryz.lays156_ren:={
  mixed:=by kernel_rfl
  f156:=Tryz.func164.trans (congrArg some (by kernel_rfl))
  f165:=Tryz.func199.trans (congrArg some (by kernel_rfl))
  f166:=Tryz.func200.trans (congrArg some (by kernel_rfl))
  f169:=Tryz.func201.trans (congrArg some (by kernel_rfl))
  f240:=Tryz.func236.trans (congrArg some (by kernel_rfl))
  f241:=Tryz.func237.trans (congrArg some (by kernel_rfl))
  f276:=Tryz.func268.trans (congrArg some (by kernel_rfl))
  f277:=Tryz.func269.trans (congrArg some (by kernel_rfl))
  t0:=Tryz.underlying0
  a0:=Tryz.isAgg0
  z0:=Tryz.sizeOf0
  v0:=Tryz.zeroValue0
  t3:=Tryz.underlying3
  a3:=Tryz.isAgg3
  z3:=Tryz.sizeOf3
  v3:=Tryz.zeroValue3
  t4:=Tryz.underlying4
  a4:=Tryz.isAgg4
  z4:=Tryz.sizeOf4
  v4:=Tryz.zeroValue4
  t9:=Tryz.underlying9
  a9:=Tryz.isAgg9
  z9:=Tryz.sizeOf9
  v9:=Tryz.zeroValue9
  t20:=Tryz.underlying20
  a20:=Tryz.isAgg20
  z20:=Tryz.sizeOf20
  v20:=Tryz.zeroValue20
  t31:=Tryz.underlying159
  a31:=Tryz.isAgg159
  z31:=Tryz.sizeOf159
  v31:=Tryz.zeroValue159
  t37:=Tryz.underlying190
  a37:=Tryz.isAgg190
  z37:=Tryz.sizeOf190
  v37:=Tryz.zeroValue190
  t70:=Tryz.underlying192
  a70:=Tryz.isAgg192
  z70:=Tryz.sizeOf192
  v70:=Tryz.zeroValue192
  t72:=Tryz.underlying194
  a72:=Tryz.isAgg194
  z72:=Tryz.sizeOf194
  v72:=Tryz.zeroValue194
  t75:=Tryz.underlying197
  a75:=Tryz.isAgg197
  z75:=Tryz.sizeOf197
  v75:=Tryz.zeroValue197
  t76:=Tryz.underlying198
  a76:=Tryz.isAgg198
  z76:=Tryz.sizeOf198
  v76:=Tryz.zeroValue198
  t127:=Tryz.underlying221
  a127:=Tryz.isAgg221
  z127:=Tryz.sizeOf221
  v127:=Tryz.zeroValue221
  t164:=Tryz.underlying247
  a164:=Tryz.isAgg247
  z164:=Tryz.sizeOf247
  v164:=Tryz.zeroValue247}
theorem Tryz.Builder_Extra_156:Builder.Extra Tryz.prog Tryz.lays156_ren:={
  sizeBuilder:=by kernel_rfl
  liesBuilder:=by kernel_rfl
  t5:=Tryz.underlying5
  a5:=Tryz.isAgg5
  z5:=Tryz.sizeOf5
  v5:=Tryz.zeroValue5
  infoByte:=by kernel_rfl
  cellsByte:=by kernel_rfl
  sizeByte:=by kernel_rfl
  neB5:=by decide}
open Go.RowKit in
theorem Tryz.strings_Join_none(a:Option Addr)(c:Nat)(sep:ByteArray)(w:World):
    Calls Tryz.prog 164 #[.slice a 0 c,.string sep] w fun e w'=>e=.returned (.string ⟨#[]⟩)∧w'=w:=Any.strings_Join_none Tryz.lays156 Tryz.Builder_Extra_156 a c sep w
open Go.RowKit in
theorem Tryz.strings_Join(bk o c:Nat)(xs:List ByteArray)(sep:ByteArray)(w:World)(hcells:∀(j:Nat) x,xs[j]? =some x→w.cell? ⟨bk,o+j,none⟩=some (.string x))(hbk:bk<w.heap.size)(hN:xs.length≤140737488355328)(hcap:xs.length≤c)(hlen:(Lib.join (xs.map (·.data.toList)) sep.data.toList).length≤140737488355328):
    Calls Tryz.prog 164 #[.slice (some ⟨bk,o,none⟩) xs.length c,.string sep] w fun e w'=>e=.returned (.string ⟨(Lib.join (xs.map (·.data.toList)) sep.data.toList).toArray⟩)∧Below w.heap.size w w':=Any.strings_Join Tryz.lays156 Tryz.Builder_Extra_156 bk o c xs sep w hcells hbk hN hcap hlen
end Go.Proofs
namespace Go.Proofs.YtoegnnjcmlghhaaGreat
open Bool renaming false->I,true->wL
open Go renaming Value->wN,World->wP,TypeId->wT,Operand->wW,execOp->jp,Program->jP,undef->Z0,FuncId->Z2,Tmp->Z4,Code->Z9,wpIn_mono->Wn,resolve->Ws,Func->WF,wpListIn->WL,LeavesInM->WN,invoke->WP,ResultVar->WS,results->WT,Act->V0,Calls->UT,callsIn_of_wp_marks->U8,run_takeDeferred->aP,PanicEntry->bv,wpIn_region_lit->bV,Ending->dL,wpIn_seq->fN,wpListIn_nil->gC,run_endRound->gS,Loop->gT,Deferred->lm,Fence->lI
open Go.Proofs.YtoegnnjcmlghhaaGreat renaming Zr->M,bd->Y,za->U,nm->B,ze->A,iq->S
open List renaming length->X,length->pM
open Nat renaming beq->E
open Option renaming some->Z,none->wF
open _root_ renaming rfl->O,List->N,Int->J,Nat->K,Option->V,List->xS,Int->wn,Nat->wr,Option->ww,trivial->wR,absurd->wS,Bool->v6,Array->ut,congrArg->uL,Unit->Z3,True->Xs,cond_true->Wf,Decidable->QR,or_false->i7
open Bool renaming and_eq_true->xad
open Deferred renaming ofValue->xcW
open Ending renaming returned->xeu
open Extern renaming find->xfa,findNext->xeP
open Extern.MathBitsCarry renaming m64->xbe,pair->xcm,three->xbK
open Fence renaming wide->xcS
open Int renaming fdiv->xfY,tdiv->xdx,tmod->xcB
open Lib renaming bitLen->xfc
open List renaming all_eq_true->xaT,append_assoc->xaq,append_nil->xbm,cons_append->xbL,drop->xdO,getD_eq_getElem?_getD->UV,getElem?_append_right->xbr,getElem?_cons_zero->xbC,getElem?_eq_getElem->xab,getElem?_eq_some_iff->xaz,getElem?_map->xbX,length_append->xat,length_cons->xaw,length_replicate->xaM,map_append->xaR,map_cons->xbQ,mem_append->xaa,mem_cons->xah,mem_cons_self->IR,mem_singleton->xac,nil_append->xbN,not_mem_nil->H1,perm_append_comm_assoc->xdY,perm_middle->xbZ,range->xaO,replicate->Nm,take->xdB
open List.Perm renaming append_left->xbo,cons->xfA,swap->xdT
open Nat renaming add_zero->xbM,beq->xaf,ble->xfu,blt->xda,le_add_right->xbI,le_of_ble_eq_true->xbH,le_trans->xal,lt_irrefl->xfR,lt_of_lt_of_le->xag,lt_succ_self->xdM,sub_self->xcE,zero_add->xaJ,zero_lt_one->xdm
open Option.some renaming injEq->xau
open Prod.mk renaming injEq->xcL
open Sum renaming elim->xfk
open _root_.Array renaming getD_eq_getD_getElem?->xbv,getElem?_eq_some_iff->xbf,length_toList->xeY,replicate->xdi,toArray_toList->xcy
section
def Ic(P:jP)(cf:Cf)(n:wr)(c:Z9):Prop:=∀{R:Type}{r:R}{fr:Fr}{cx σ:Sg}{K:Tg->Sg->V R}{Q:Qd}{N:Nd},N.n=n->(N.rd=wF\/Ny c=wL)->den cf c cx σ K=Z r->∀{Ds:xS wr}{env:y6}{w:wP},
 (∀t σ',K t σ'=Z r->∀b a w',my cx env a->uD P (fr.wd b) cx σ' a w'->Q (tgE t) b a w')->uD P (fr.wd Ds) cx σ env w->Hz P N c Q Ds env w
def zrd:wN->N wN
 |.tuple us=>us.toList
 |_=>[]
def Y3(u:wN)(k:K):wN:=(zrd u).getD k Z0
def P7(vs:K->wN)(m:K):wN:=.tuple ((xaO m).map vs).toArray
def zjR{vs:K->wN}{m k:K}(h:k<m):Y3 (P7 vs m) k=vs k:=by simp[Y3,P7,zrd,h]
def tgC:Tg->Z9
 |.n=> .skip
 |.x i=> .exit i
 |.r=> .ret
 |.p _=> .skip
section
variable{P:jP}{cf:Cf}{fr:Fr}{cx cx' kp σ:Sg}{vs vs':wr->wN}{env env':y6}{w:wP}{we:wP}{Se:wr->Prop}{F:xS MF}{G:xS FF}{n D l:wr}{ds:xS (wr×TF)}{x:Ju ds}{u:wN}{rc:gT}
def zd9(P:jP)(env:y6)(cx':Sg)(n:K)(ds:N (K×TF))(D l:K)(rc:gT)(x:Ju ds)(u:wN):MF:=
 EJ (mPr (KT ds env λj=>Y3 u<|n+j)::mFF (RS P (Y3 u) env cx'.rg)::cM l rc::qm D::(Qg (λj=>Y3 u<|n+j) ds x 0++MS (Y3 u) cx'.ob))
def zbb(h:St we Se (zd9 P env cx' n ds D l rc x u::F) G w):KT ds env (λj=>Y3 u<|n+j)/\St we Se (cM l rc::qm D::(Qg (λj=>Y3 u<|n+j) ds x 0++(MS (Y3 u) cx'.ob++F))) (RS P (Y3 u) env cx'.rg++G) w:=by have⟨h1,a⟩:=St.unpr<|St.grp.1 h;have b:=St.ffOut (show St we Se (mFF (RS P (Y3 u) env cx'.rg)::(cM l rc::qm D::(Qg (λj=>Y3 u<|n+j) ds x 0++MS (Y3 u) cx'.ob)++F)) G w from a);simp_all
def zhj(d:KT ds env λj=>vs<|n+j)(a:∀e∈cx'.ob,e.1<n)(g:∀e∈cx'.rg,∀o,vt e.2.2=Z o->o<n)(h:St we Se (cM l rc::qm D::(Qg (λj=>vs<|n+j) ds x 0++(MS vs cx'.ob++F))) (RS P vs env cx'.rg++G) w):
 St we Se (zd9 P env cx' n ds D l rc x (P7 vs<|n+X ds)::F) G w:=by
 have e0:∀k,k<n+X ds->Y3 (P7 vs<|n+X ds) k=vs k:=λk i=>zjR i;have e1:RS P (Y3<|P7 vs<|n+X ds) env cx'.rg=RS P vs env cx'.rg:=uo (λe b o a=>e0 o (by have:=g e b o a;lia)) λ_ _=>O;have m:MS (Y3<|P7 vs<|n+X ds) cx'.ob=MS vs cx'.ob:=wC λe b=>e0 e.1 (by have:=a e b;lia);have p:Qg (λj=>Y3 (P7 vs<|n+X ds)<|n+j) ds x 0=Qg (λj=>vs<|n+j) ds x 0:=iJ λj c=>e0 _ W;refine St.grp.2<|St.pr ?_ ?_;intro j t f c;have:=(xaz.1 c).1;show sH f (env t) (Y3 (P7 vs<|n+X ds)<|n+j);rw[e0 _ W];exact d j t f c;have q:St we Se (mFF (RS P vs env cx'.rg)::(cM l rc::qm D::(Qg (λj=>vs<|n+j) ds x 0++MS vs cx'.ob)++F)) G w:=St.ffIn (by simpa only[xbL,xaq]using h);simp_all
def Lh{m:MF}{p:Prop}(h:uD P fr cx σ env w)(a:m∈fr.F)(hp:∀S,m.p S w->p):p:=by have⟨_,vs,_,_,_,S,_,_,_,b,_⟩:=h;exact hp S<|Yf.1 b m<|xaa.2 (.inr<|xaa.2 (.inr a))
def zjP{it:GB}{pt:wr}{τ:Tg}{a c:Z9}{N:wr}{fn:Z2}{tmps:ut wN}(hA:Ic P cf N a)(hC:Ic P cf N c)(hX:Ny a=wL)(hY:Ny c=wL)(c4:pt<N)(hZ:tmps.size=N)(hP:zW ⟨tmps,[]⟩=env)(hm:cR ds=wL)
 (h0:zfy (uC pt it.t it.E ds).ds=wL) (hJ:XY cx'.rg pt=wL) (ho:∀e∈cx'.ob,e.1<n) (hr:∀e∈cx'.rg,∀o,vt e.2.2=Z o->o<n):
 Py P l it.t.rep it.E (λx u=>zd9 P env cx' n ds D l {state:=.ready,pending:=wF,fn:=fn,tmps:=tmps,params:= #[pt],assign:=a,body:=c,defers:=D} x u)
  (λx u=>zd9 P env cx' n ds D l {state:=.done,pending:=Z<|tgC τ,fn:=fn,tmps:=tmps,params:= #[pt],assign:=a,body:=c,defers:=D} x u)
  (zq2 cx' n ds it.t it.E pt τ (λcx σ K=>den cf a cx σ K) λcx σ K=>den cf c cx σ K):=by
 have⟨J,hn⟩:∃J:gT,J={state:=.ready,pending:=wF,fn:=fn,tmps:=tmps,params:= #[pt],assign:=a,body:=c,defers:=D}:=⟨_,O⟩;have⟨L,hH⟩:∃L:gT,L={J with state:=.busy}:=⟨_,O⟩;rw[<-hn];intro ys x T q hq v u we Se F G w h9;have⟨h',h1⟩:=zbb h9;have hl:w.heap[l]? =Z (.loop J):=wE h1 (i:=0) O λS hp=>hp;have hy:=run_yield (P:=P) (args:= #[v]) hl (by rw[hn];rfl);refine⟨fn,tmps.setIfInBounds pt v,a,c,by rw[hn]at hy;simpa using hy,roundIn_of_wpIn wR ?_⟩;have⟨sh,hB⟩:∃sh,sh=uC pt it.t it.E ds:=⟨_,O⟩;have c3:X sh.ds=X ds+1:=by rw[hB];rfl
 have hI:cR sh.ds=wL:=by rw[hB];exact hm
 have⟨cp,hc⟩:∃cp,cp=cpR cx' n sh:=⟨_,O⟩;have hQ:∀{j t:wr}{f:TF},ds[j]? =Z (t,f)->t≠pt:=λR=>zjJ (a:=(pt,.own it.t it.E)) h0 R;have⟨b,hu⟩:∃b,b=put env (some pt) v:=⟨_,O⟩;have a3:b pt=v:=by rw[hu];exact Dp
 have a0:∀t,t≠pt->b t=env t:=λt ht=>by rw[hu];exact mH<|λe=>ht<|by cases e;rfl
 have a4:∀e∈cx'.rg,b e.1=env e.1:=λe he=>a0 e.1 λh=>by
  simp only[XY,xaT]at hJ;have:=hJ e he;rw[h]at this;simp at this
 have⟨g,hD⟩:∃g:wr->wN,g=λk=>if k<n then Y3 u k else if k=n then v else Y3 u (k-1):=⟨_,O⟩;have a5:∀k,k<n->g k=Y3 u k:=λk hk=>by rw[hD];exact iq hk
 have a9:g n=v:=by rw[hD];simp
 have a6:∀j,g (n+(j+1))=Y3 u (n+j):=λj=>by
  rw[hD];simp only;rw[zD,zD,(W:n+(j+1)-1=n+j)]
 have hK:KT sh.ds b λj=>g (n+j):=by
  rw[hB];intro j t f R
  cases j with
  |zero=>
   simp only[uC,xbC,xau,xcL]at R;obtain⟨rfl,rfl⟩:=R;show b pt=g (n+0);rw[a3,xbM,a9]
  |succ j=>
   have R:ds[j]? =Z (t,f):=by simpa[uC]using R
   show sH f (b t) (g<|n+(j+1));rw[a6,a0 t<|hQ R];exact h' j t f R
 have hE:Bd cp ⟨n+X sh.ds,[],[]⟩:=by
  rw[hc];refine⟨λ_ he=>wS he H1,λe he=> ?_,λ_ he=>wS he H1,λe he o hf=> ?_⟩;have:=ho e he;show e.1<n+_;lia;show o<n+_;rcases xaa.1 (show e∈AZ sh.ds n++cx'.rg from he)with he|he
  exact Pq e he o hf;have:=hr e he o hf;lia
 have b0:uD P (Fr.wd ⟨we,Se,cM l J::qm D::F,G⟩ []) cp (J2 sh (hB▸Ih (a:=(pt,.own it.t it.E)) ys x) ⟨n,[],[]⟩) b w:=by
  subst hB;refine ziJ (vs:=g) (kp:=⟨n,[],[]⟩) hI hK (zlw hI (λ_ he=>wS he H1) (λe he=>hE.o2 e he) (λ_ he=>wS he H1) λe he o hf=>hE.r2 e he o hf) ?_;have e1:Qg (λj=>g<|n+j) (uC pt it.t it.E ds).ds (Ih (a:=(pt,.own it.t it.E)) ys x) 0=mO it.t.rep it.E v ys::Qg (λj=>Y3 u<|n+j) ds x 0:=by
   refine(RZ (U:=λj=>g<|n+j) (a:=(pt,.own it.t it.E)) (l:=ds) (y:=ys) (x:=x) (i:=0)).trans ?_;show mO it.t.rep it.E (g<|n+0) ys::Qg _ ds x (0+1)=_;rw[xbM,a9,iJ (U:=λj=>g<|n+j) (V:=λj=>Y3 u<|n+j) (i:=0+1) (k:=0) λj _=>by
    show g (n+(0+1+j))=Y3 u (n+(0+j));rw[(W:0+1+j=j+1),a6,xaJ]]
  have e2:MS g cp.ob=MS (Y3 u) cx'.ob:=by rw[hc];exact wC λe he=>a5 _<|ho e he
  show St we Se (Qg (λj=>g<|n+j) (uC pt it.t it.E ds).ds (Ih (a:=(pt,.own it.t it.E)) ys x) 0++([]++(MS g cp.ob++([]++(cM l J::qm D::F))))) ([]++(RS P g b cp.rg++G)) w;rw[e1,e2];have h2:St we Se (mO it.t.rep it.E v ys::Qg (λj=>Y3 u<|n+j) ds x 0++([]++(MS (Y3 u) cx'.ob++([]++(cM l J::qm D::F))))) (RS P (Y3 u) env cx'.rg++G) w:=by
   refine h1.perm ?_;simp only[xbN,xbL];have p1:(cM l J::qm D::(Qg (λj=>Y3 u<|n+j) ds x 0++(MS (Y3 u) cx'.ob++mO it.t.rep it.E v ys::F))).Perm (mO it.t.rep it.E v ys::(cM l J::qm D::(Qg (λj=>Y3 u<|n+j) ds x 0++(MS (Y3 u) cx'.ob++F)))):=by have:=xbZ (a:=mO it.t.rep it.E v ys) (l₁:=cM l J::qm D::(Qg (λj=>Y3 u<|n+j) ds x 0++MS (Y3 u) cx'.ob)) (l₂:=F);simpa only[xbL,xaq]using this
   refine p1.trans<|xfA _ ?_;have p2:([cM l J,qm D]++((Qg (λj=>Y3 u<|n+j) ds x 0++MS (Y3 u) cx'.ob)++F)).Perm ((Qg (λj=>Y3 u<|n+j) ds x 0++MS (Y3 u) cx'.ob)++([cM l J,qm D]++F)):=xdY ..;simpa only[xbL,xaq,xbN]using p2
  refine h2.weak (Δ:=RS P g b cp.rg++G) λS w ha=>zB.append ?_<|zB.right ha;rw[hc];show zB S (RS P g b<|AZ (uC pt it.t it.E ds).ds n++cx'.rg) w;rw[eF];refine zB.append (zif (i:=0) hI λj t f R=>by rw[xaJ];exact hK j t f R) ?_;rw[uo (vs:=Y3 u) (env:=env) (λe he o hf=>a5 o<|hr e he o hf) a4];exact zB.left ha
 have⟨N1,hg⟩:∃N1:Nd,N1=⟨N,[],some l⟩:=⟨_,O⟩;have hS:(⟨tmps.setIfInBounds pt v,[]⟩:V0).tmps.size=N1.n:=by rw[hg];simpa using hZ
 have hT:zW ⟨tmps.setIfInBounds pt v,[]⟩=b:=by have:=Wa (a:=⟨tmps,[]⟩) (d:=Z pt) (v:=v) (λt ht=>by cases ht;show pt<tmps.size;lia);rw[hu,<-hP];exact this
 subst hB
 have b1:=hA (N:=N1) (fr:=⟨we,Se,cM l J::qm D::F,G⟩) (Ds:=[]) (by rw[hg]) (.inr hX) (show den cf a cp _ _=Z (T,q)from by rw[hc];exact hq)
  (Q:=λe Y env' w'=>e=.normal/\∃σ',den cf c cp σ' (zmD cp ds it.t it.E pt τ)=Z (T,q)/\my cp b env'/\uD P (Fr.wd ⟨we,Se,cM l J::qm D::F,G⟩ Y) cp σ' env' w')
  (λt σ' hk Y env' w' hs hR=>by
   cases t with
   |n=>exact⟨O,σ',by rw[hc];exact hk,hs,hR⟩
   |x i=>cases hk
   |r=>cases hk
   |p q=>cases hk) b0
 have hU:=b1 ⟨tmps.setIfInBounds pt v,[]⟩ hS (by rw[hg];rfl) hT;rw[hg]at hU;refine Wn hU ?_;rintro e a1 w1 ⟨q1,Y,q2,rfl,σ',hk,hs,hR⟩;have b2:w1.heap[l]? =Z (.loop J):=Lh hR (m:=cM l J) (xaa.2 (.inr<|IR)) λS hp=>hp;refine⟨w1.putObj l (.loop L),by rw[hH];exact run_beginRound b2 (by rw[hn]),?_⟩;have b3:uD P (Fr.wd ⟨we,Se,cM l L::qm D::F,G⟩ Y) cp σ' (zW a1) (w1.putObj l (.loop L)):=NI (A:=Y.map qm) (m:=cM l J) (m':=cM l L) (B:=qm D::F) hR (λk=>Iff.rfl) (λk h=>h) λS w' h=>h
 have b4:=hC (N:=N1) (fr:=⟨we,Se,cM l L::qm D::F,G⟩) (Ds:=Y) (by rw[hg]) (.inr hY) hk
  (Q:=λe C env' w'=>∃t H,e=tgE t/\zmD cp ds it.t it.E pt τ t H=Z (T,q)/\my cp (zW a1) env'/\uD P (Fr.wd ⟨we,Se,cM l L::qm D::F,G⟩ C) cp H env' w')
  (λt H hk C env' w' hs hR=>⟨t,H,O,hk,hs,hR⟩) b3
 have hV:=b4 a1 (by rw[hg];exact q1) (by rw[hg];exact q2) O;rw[hg]at hV;refine Wn hV ?_;rintro e a2 w2 ⟨p1,C,p2,t,H,rfl,hd,c0,hv⟩;have hN:w2.heap[l]? =Z (.loop L):=Lh hv (m:=cM l L) (xaa.2 (.inr<|IR)) λS hp=>hp;have hO:=hs.trans c0
 have M:∀(z:Ju (uC pt it.t it.E ds).ds) (rc:gT),uD P (Fr.wd ⟨we,Se,cM l L::qm D::F,G⟩ C) cp (J2 (uC pt it.t it.E ds) z ⟨n+(uC pt it.t it.E ds).ds.length,[],[]⟩) (zW a2) w2->
  ∃u',St we Se (zd9 P env cx' n ds D l rc (lk z).2 u'::mO it.t.rep it.E v (lk z).1::F) G (w2.putObj l (.loop rc)):=by
  intro z rc hw;have c1:=NI (A:=C.map qm) (m:=cM l L) (m':=cM l rc) (B:=qm D::F) hw (λk=>Iff.rfl) (λk h=>h) (o:=.loop rc) λS w' h=>h;have⟨vs2,hF,c5,hL⟩:=zbY (ds:=(uC pt it.t it.E ds).ds) hI c1;have⟨m,c2⟩:∃m,m=n+(uC pt it.t it.E ds).ds.length:=⟨_,O⟩;rw[<-c2]at hF hL;have z0:vs2 m=v:=by have h2:zW a2 pt=vs2 (m+0):=hF 0 pt (.own it.t it.E) O;have⟨e,he,h3⟩:=E4 (ds:=(uC pt it.t it.E ds).ds) (n:=n) (j:=0) (t:=pt) (f:=.own it.t it.E) O;have h4:=hO e (by rw[hc];exact xaa.2 (.inl he));rw[h3,a3]at h4;rw[xbM]at h2;exact h2.symm.trans h4
  have⟨s,hM⟩:∃s:wr->wN,s=λk=>if k<n then vs2 k else vs2 (m+1+(k-n)):=⟨_,O⟩;have a7:∀k,k<n->s k=vs2 k:=λk hk=>by rw[hM];exact iq hk
  have a8:∀j,s (n+j)=vs2 (m+(j+1)):=λj=>by
   rw[hM];simp only;rw[zD,(W:m+1+(n+j-n)=m+(j+1))]
  have hW:KT ds env λj=>s (n+j):=by intro j t f R;have h2:=hF (j+1) t f (by simpa[uC]using R);have⟨e,he,h3⟩:=E4 (ds:=(uC pt it.t it.E ds).ds) (n:=n) (j:=j+1) (t:=t) (f:=f) (by simpa[uC]using R);have h4:=hO e (by rw[hc];exact xaa.2 (.inl he));rw[h3,a0 t<|hQ R]at h4;show sH f (env t) (s<|n+j);rw[a8,<-h4];exact h2
  refine⟨_,zhj (F:=mO it.t.rep it.E v (lk z).1::F) hW ho hr ?_⟩;have e1:Qg (λj=>vs2<|m+j) (uC pt it.t it.E ds).ds z 0=mO it.t.rep it.E v (lk z).1::Qg (λj=>s<|n+j) ds (lk z).2 0:=by
   refine(uL (λz=>Qg (λj=>vs2<|m+j) (uC pt it.t it.E ds).ds z 0)<|ze3 (a:=(pt,.own it.t it.E)) (l:=ds) z).trans ?_;refine(RZ (U:=λj=>vs2<|m+j) (a:=(pt,.own it.t it.E)) (l:=ds) (y:=(lk (a:=(pt,.own it.t it.E)) z).1) (x:=(lk (a:=(pt,.own it.t it.E)) z).2) (i:=0)).trans ?_;show mO it.t.rep it.E (vs2<|m+0) (lk z).1::Qg _ ds (lk z).2 (0+1)=_;rw[xbM,z0,iJ (U:=λj=>vs2<|m+j) (V:=λj=>s<|n+j) (i:=0+1) (k:=0) λj _=>by
    show vs2 (m+(0+1+j))=s (n+(0+j));rw[(W:0+1+j=j+1),xaJ,a8]]
  have e2:MS vs2 cp.ob=MS s cx'.ob:=by rw[hc];exact wC λe he=>(a7 _<|ho e he).symm
  have h5:St we Se (Qg (λj=>vs2<|m+j) (uC pt it.t it.E ds).ds z 0++(MS vs2 cp.ob++(C.map qm++cM l rc::qm D::F))) (RS P vs2 (zW a2) cp.rg++G) (w2.putObj l (.loop rc)):=hL;rw[e1,e2]at h5;have h6:St we Se ((mO it.t.rep it.E v (lk z).1::Qg (λj=>s<|n+j) ds (lk z).2 0++MS s cx'.ob)++(cM l rc::qm D::F)) (RS P vs2 (zW a2) cp.rg++G) (w2.putObj l (.loop rc)):=St.dropM (B:=C.map qm) (by simpa only[xaq]using h5);have h7:St we Se (cM l rc::qm D::(Qg (λj=>s<|n+j) ds (lk z).2 0++(MS s cx'.ob++(mO it.t.rep it.E v (lk z).1::F)))) (RS P vs2 (zW a2) cp.rg++G) (w2.putObj l (.loop rc)):=by refine h6.perm ?_;have p1:((Qg (λj=>s<|n+j) ds (lk z).2 0++MS s cx'.ob)++([cM l rc,qm D]++F)).Perm ([cM l rc,qm D]++((Qg (λj=>s<|n+j) ds (lk z).2 0++MS s cx'.ob)++F)):=xdY ..;have p2:=xbZ (a:=mO it.t.rep it.E v (lk z).1) (l₁:=cM l rc::qm D::(Qg (λj=>s<|n+j) ds (lk z).2 0++MS s cx'.ob)) (l₂:=F);have p3:=(p1.cons<|mO it.t.rep it.E v (lk z).1).trans (by simpa only[xbL,xaq,xbN]using p2.symm);simpa only[xbL,xaq,xbN]using p3
  refine h7.weak λS w ha=>zB.append ?_<|zB.right ha;have h8:zB S (RS P vs2 (zW a2)<|AZ (uC pt it.t it.E ds).ds n++cx'.rg) w:=by have:=zB.left ha;rw[hc]at this;exact this
  rw[eF]at h8;rw[uo (vs:=vs2) (env:=zW a2) (λe he o hf=>a7 o<|hr e he o hf) λe he=> ?_];exact zB.right h8;have h4:=hO e (by rw[hc];exact xaa.2 (.inr he));rw[a4 e he]at h4;exact h4.symm
 cases t with
 |n=>
  have⟨z,hz,hi⟩:=mb (P:=P) (cx:=cp) (kp:=⟨n+(uC pt it.t it.E ds).ds.length,[],[]⟩) (show aE (qL cp ⟨n+(uC pt it.t it.E ds).ds.length,[],[]⟩) (uC pt it.t it.E ds) H (λz=>Z ((lk z).1,Sum.inl (lk z).2))=Z (T,q)from by rw[hc]at hd⊢;exact hd) hE;cases hz;have hw:=hi (Fr.wd ⟨we,Se,cM l L::qm D::F,G⟩ C) (zW a2) w2 (by rw[hc]at hv⊢;exact hv);refine⟨_,_,gS wF hN,O,?_⟩;have hG:({L with state:=if(wF:ww Z9).isNone then .ready else .done,pending:=wF}:gT)=J:=by rw[hH,hn];rfl
  rw[hG];exact M z J hw
 |x i=>
  have⟨ht,hd⟩:=yf hd;have⟨z,hz,hi⟩:=mb (P:=P) (cx:=cp) (kp:=⟨n+(uC pt it.t it.E ds).ds.length,[],[]⟩) (show aE (qL cp ⟨n+(uC pt it.t it.E ds).ds.length,[],[]⟩) (uC pt it.t it.E ds) H (λz=>Z ((lk z).1,Sum.inr (lk z).2))=Z (T,q)from by rw[hc]at hd⊢;exact hd) hE;cases hz;have hw:=hi (Fr.wd ⟨we,Se,cM l L::qm D::F,G⟩ C) (zW a2) w2 (by rw[hc]at hv⊢;exact hv);refine⟨_,_,gS (Z (.exit i)) hN,O,?_⟩;have hG:({L with state:=if(Z<|Code.exit i).isNone then .ready else .done,pending:=Z (.exit i)}:gT)={state:=.done,pending:=Z<|tgC τ,fn:=fn,tmps:=tmps,params:= #[pt],assign:=a,body:=c,defers:=D}:=by rw[hH,hn,zfX (λ_ e=>by cases e) ht];rfl
  rw[hG];exact M z _ hw
 |r=>
  have⟨ht,hd⟩:=yf hd;have⟨z,hz,hi⟩:=mb (P:=P) (cx:=cp) (kp:=⟨n+(uC pt it.t it.E ds).ds.length,[],[]⟩) (show aE (qL cp ⟨n+(uC pt it.t it.E ds).ds.length,[],[]⟩) (uC pt it.t it.E ds) H (λz=>Z ((lk z).1,Sum.inr (lk z).2))=Z (T,q)from by rw[hc]at hd⊢;exact hd) hE;cases hz;have hw:=hi (Fr.wd ⟨we,Se,cM l L::qm D::F,G⟩ C) (zW a2) w2 (by rw[hc]at hv⊢;exact hv);refine⟨_,_,gS (Z .ret) hN,O,?_⟩;have hG:({L with state:=if(Z Code.ret).isNone then .ready else .done,pending:=Z .ret}:gT)={state:=.done,pending:=Z<|tgC τ,fn:=fn,tmps:=tmps,params:= #[pt],assign:=a,body:=c,defers:=D}:=by rw[hH,hn,zfX (λ_ e=>by cases e) ht];rfl
  rw[hG];exact M z _ hw
 |p q=>cases hd
end
end
section
section
variable{P:jP}{cf:Cf}{fr:Fr}{cx σ:Sg}{env:y6}{w:wP}{R:Type}{r:R}
def zjq(hX:AF P cf){g:wW}{a c:Z9}{N:Nd}{K:Tg->Sg->V R}{Q:Qd}{s:Lp}{it:GB}{y:UU it.dom}{τ:Tg}{pt:wr}{ags:xS wr}{cs:xS PD}{Ds:xS wr}
 (hA:Ic P cf N.n a) (hC:Ic P cf N.n c) (hS:Ny a=wL) (hT:Ny c=wL) (hU:N.rd=wF) (hV:pt<N.n) (hg:xz cx σ g=Z (.fn it.f cs)) (hY:it∈cf.is) (hy:cy it.dom cs=Z y) (hv:s.hd.ns=[])
 (h:zaK cx σ K s it y τ pt ags (λcx σ K=>den cf a cx σ K) (λcx σ K=>den cf c cx σ K)=Z r)
 (hK:∀t σ',K t σ'=Z r->∀Ds' env' w',my cx env env'->uD P (fr.wd Ds') cx σ' env' w'->Q (tgE t) Ds' env' w') (hR:uD P (fr.wd Ds) cx σ env w):Hz P N (.rangeFunc g #[pt] a c) Q Ds env w:=by
 obtain⟨⟨ds,ns⟩,sg⟩:=s;simp only at hv;subst hv;obtain⟨h',hz⟩:=Nh hy;obtain⟨hB,vs,hD⟩:=hR;obtain⟨S0,_,hΓ⟩:=hD.ex;obtain⟨cvs,hE,h9,hca⟩:=zj hg<|zL hΓ g;have hZ:uD P ⟨fr.we,fr.Se,Ds.map qm++fr.F,jy P it.dom y cvs++fr.G⟩ cx σ env w:=⟨hB,vs,hD.weak λS w ha=>zB.append (zB.left ha) (zB.append (zB.left<|zB.right ha) (zB.append (by
  obtain⟨cvs',hF,h0,hG⟩:=zj hg<|zL ha g;rw[hE]at hF;have:cvs=cvs':=by simpa using hF
  subst this;exact hz h0 hG) (zB.right (zB.right ha))))⟩
 unfold zaK at h;simp only at h;obtain⟨hi,h⟩:=yf h;simp only[xad]at hi;obtain⟨hm,⟨hH,h5⟩,hl⟩:=hi;obtain⟨hc,hI⟩:=EW (ag:=ags) (ro:=sg.ro) hZ;obtain⟨kp,h6⟩:∃kp,kp=keep σ ags sg.ro:=⟨_,O⟩;rw[<-h6]at h hc hI hl;obtain⟨x0,h1,h2⟩:=mb (P:=P) (cx:=qL cx kp) (kp:=⟨kp.nx,[],[]⟩) h<|L6 hc;obtain⟨r',h3,h4⟩:=rV h1;obtain⟨vs0,hJ,hB0,hL⟩:=zbY (ds:=ds) hm<|h2 _ env w hI;obtain⟨hb,hM⟩:=hX.is it hY;have ho:∀e∈(qL cx kp).ob,e.1<kp.nx:=λe he=>by
  rcases xaa.1 he with he|he
  ·exact hc.o1 e he
  ·exact hc.o2 e he
 have hr:∀e∈(qL cx kp).rg,∀o,vt e.2.2=Z o->o<kp.nx:=λe he o hf=>by
  rcases xaa.1 he with he|he
  ·exact hc.r1 e he o hf
  ·exact hc.r2 e he o hf
 intro a0 g1 g2 g3;refine wpIn_rangeFunc ?_;intro fn hfn;rw[show N.F.round=wF from hU];obtain⟨rR,hj⟩:∃rR:gT,rR={state:=.ready,pending:=wF,fn:=fn,tmps:=a0.tmps,params:= #[pt],assign:=a,body:=c,defers:=w.heap.size}:=⟨_,O⟩;obtain⟨rD,hn⟩:∃rD:gT,rD={state:=.done,pending:=Z<|tgC τ,fn:=fn,tmps:=a0.tmps,params:= #[pt],assign:=a,body:=c,defers:=w.heap.size}:=⟨_,O⟩;have hN:=run_enterLoop_outer (P:=P) (w:=w) fn a0.tmps #[pt] a c;rw[<-hj]at hN;have hW:St fr.we fr.Se (cM (w.heap.size+1) rR::qm w.heap.size::(Qg (λj=>vs0<|kp.nx+j) ds x0 0++(MS vs0 (qL cx kp).ob++(Ds.map qm++fr.F)))) (RS P vs0 env (qL cx kp).rg++(jy P it.dom y cvs++fr.G)) ((w.alloc (.deferred<|some [])).alloc (.loop rR)):=by
  have q1:=St.allocObj (o:=.deferred<|some []) (m:=qm w.heap.size) hL (λk hk=>hk)<|λS w' hw=>hw;have hO:(w.alloc (.deferred<|some [])).heap.size=w.heap.size+1:=World.size_alloc ..;refine St.allocObj (o:=.loop rR) (m:=cM (w.heap.size+1) rR) q1 (λk hk=>by rw[hO];exact hk)<|λS w' hw=> ?_;rw[hO]at hw;exact hw
 have h7:=zhj (x:=x0) hJ ho hr hW;have hP:=zjP (P:=P) (cf:=cf) (cx':=qL cx kp) (env:=env) (n:=kp.nx) (D:=w.heap.size) (l:=w.heap.size+1) (ds:=ds) (it:=it) (pt:=pt) (τ:=τ) (a:=a) (c:=c) (N:=N.n) (fn:=fn) (tmps:=a0.tmps) hA hC hS hT hV g1 g3 hm h5 hl ho hr;rw[<-hj,<-hn]at hP;have hq:=hM y _ _ _ _ _ x0 r' h3 (w.heap.size+1) cvs (by lia) hP _ fr.we fr.Se _ fr.G _ h7
 have close:∀(rc:gT) (x:Ju ds) (u':wN) (w3:wP),St fr.we fr.Se (zd9 P env (qL cx kp) kp.nx ds w.heap.size (w.heap.size+1) rc x u'::(Ds.map qm++fr.F)) fr.G w3->
  w3.heap[w.heap.size+1]? =Z (.loop rc)/\∀o,uD P (fr.wd (w.heap.size::Ds)) cx (J2 ⟨ds,[]⟩ x kp) env (w3.putObj (w.heap.size+1) (.loop o)):=by
  intro rc x u' w3 hs;obtain⟨h8,q1⟩:=zbb hs;refine⟨wE q1 (i:=0) O λS hp=>hp,λo=> ?_⟩;have q2:=St.putObj (m':=cM (w.heap.size+1) o) (o:=.loop o) q1 (λk=>Iff.rfl) (λk hk=>hk)<|λS w' hw=>hw;have q3:St fr.we fr.Se ([qm w.heap.size]++(Qg (λj=>Y3 u'<|kp.nx+j) ds x 0++(MS (Y3 u') (qL cx kp).ob++(Ds.map qm++fr.F)))) (RS P (Y3 u') env (qL cx kp).rg++fr.G) (w3.putObj (w.heap.size+1) (.loop o)):=St.drop (i:=0) q2;refine ziJ (vs:=Y3 u') hm h8 (zlw hm (λe he=>xag (hc.o1 e he)<|xbI _ _) (λe he=>xag (hc.o2 e he)<|xbI _ _) (λe he o hf=>xag (hc.r1 e he o hf)<|xbI _ _) λe he o hf=>xag (hc.r2 e he o hf)<|xbI _ _) ?_;have e1:MS (Y3 u') (qL cx kp).ob=MS (Y3 u') kp.ob++MS (Y3 u') cx.ob:=xaR;have e2:RS P (Y3 u') env (qL cx kp).rg=RS P (Y3 u') env kp.rg++RS P (Y3 u') env cx.rg:=xaR;rw[e1,e2]at q3;have q4:St fr.we fr.Se ((Qg (λj=>Y3 u'<|kp.nx+j) ds x 0++(MS (Y3 u') kp.ob++MS (Y3 u') cx.ob))++([qm w.heap.size]++(Ds.map qm++fr.F))) ((RS P (Y3 u') env kp.rg++RS P (Y3 u') env cx.rg)++fr.G) (w3.putObj (w.heap.size+1) (.loop o)):=by
   refine q3.perm ?_;rw[<-xaq<|Qg _ _ _ _];exact xdY ..
  show St fr.we fr.Se (Qg _ ds x 0++(MS (Y3 u') kp.ob++(MS (Y3 u') cx.ob++((qm w.heap.size::Ds.map qm)++fr.F)))) (RS P (Y3 u') env kp.rg++(RS P (Y3 u') env cx.rg++fr.G)) _;simpa only[xaq,xbL,xbN]using q4
 refine⟨w.heap.size+1,[Ri w.heap.size],((w.alloc (.deferred<|some [])).alloc (.loop rR)),{target:=.fn (.func it.f) cvs.toArray,args:= #[.func (.yield<|w.heap.size+1) #[] #[]]},((w.alloc (.deferred<|some [])).alloc (.loop rR)),it.f,#[.func (.yield<|w.heap.size+1) #[] #[]]++cvs.toArray,((w.alloc (.deferred<|some [])).alloc (.loop rR)),hN,?_,λ_ _=>wR,?_,λe=>by simp[Nd.F,xcS]at e,?_⟩
 ·have:a0.eval g=.func (.func it.f) #[] cvs.toArray:=by rw[Km,g3];exact hE
  simp only[Ws,this];simp[go_sem]
 ·simp[WP,go_sem,vY hb]
 ·have ht:(#[.func (.yield<|w.heap.size+1) #[] #[]]++cvs.toArray:ut wN)=(Value.func (.yield<|w.heap.size+1) #[] #[]::cvs).toArray:=by simp
  rw[ht];refine CallsIn.mono (callsIn_wide.2 hq) ?_;rintro e w3 ⟨⟨v,rfl⟩,u',hs⟩
  cases hQ:r' with
  |inl x=>
   rw[hQ]at hs h4;obtain⟨hu,hd⟩:=close rR x u' w3 hs;refine⟨wF,_,by have:=run_endLoop (P:=P) hu (by rw[hj];simp);rw[hj]at this;exact this,?_⟩;exact⟨g1,w.heap.size::Ds,by show[Ri w.heap.size]++a0.defers=_;rw[g2];rfl,hK .n _ h4 _ _ _ (by rw[<-g3];exact my.refl)<|by rw[<-g3]at hd;exact hd _⟩
  |inr x=>
   rw[hQ]at hs h4;obtain⟨hu,hd⟩:=close rD x u' w3 hs;refine⟨Z<|tgC τ,_,by have:=run_endLoop (P:=P) hu (by rw[hn];simp);rw[hn]at this;exact this,?_⟩;have fin:∀o,zlz N Q (tgE τ) {a0 with defers:=[Ri w.heap.size]++a0.defers} (w3.putObj (w.heap.size+1) (.loop o)):=λo=>⟨g1,w.heap.size::Ds,by show[Ri w.heap.size]++a0.defers=_;rw[g2];rfl,hK τ _ h4 _ _ _ (by rw[<-g3];exact my.refl)<|by rw[<-g3]at hd;exact hd _⟩
   cases τ with
   |n=>exact wpIn_skip<|fin _
   |x i=>exact wpIn_exit<|fin _
   |r=>exact wpIn_ret<|fin _
   |p q=>cases hH
end
end
section
section
variable{P:jP}{cf:Cf}
def Ye(D:P.follows .mixedOrders=wL)(F:yX P cf.tt)(H:kZ P cf.tt)(J:∀s∈cf.cs,yY P s)(C:AF P cf){n:wr}:∀(c:Z9),NU n c=wL->Ic P cf n c
 |.skip,_,R,r,fr,cx,σ,K,Q,N,z,B,h,Ds,env,w,o,i=>λ_ h1 L T=>wpIn_skip ⟨h1,Ds,L,T▸o .n σ h Ds env w my.refl i⟩
 |.label _,_,R,r,fr,cx,σ,K,Q,N,z,B,h,Ds,env,w,o,i=>λ_ h1 L T=>wpIn_label ⟨h1,Ds,L,T▸o .n σ h Ds env w my.refl i⟩
 |.exit id,_,R,r,fr,cx,σ,K,Q,N,z,B,h,Ds,env,w,o,i=>λ_ h1 L T=>wpIn_exit ⟨h1,Ds,L,T▸o (.x id) σ h Ds env w my.refl i⟩
 |.ret,_,R,r,fr,cx,σ,K,Q,N,z,B,h,Ds,env,w,o,i=>λ_ h1 L T=>wpIn_ret ⟨h1,Ds,L,T▸o .r σ h Ds env w my.refl i⟩
 |.scope c,v,R,r,fr,cx,σ,K,Q,N,z,B,h,Ds,env,w,o,i=>by
  refine zcI<|Ye D F H J C c v (K:=K) z B h (λt σ' u l d w' A i=> ?_) i;have:=o t σ' u l d w' A i;cases t<;>exact this
 |.region id a5 dr,v,R,r,fr,cx,σ,K,Q,N,z,B,h,Ds,env,w,o,i=>by
  subst z;refine zmu ?_;have:=DE (id:=id) (N:=N.wd Ds) (fr:=fr.wd Ds) D F H J C (Q:=λe env w=>Q e Ds env w) (kp:=λq σ=>K (.p q) σ) (k:=λσ=>K .n σ) (λq σ' u d w' A i=>o (.p q) σ' u Ds d w' A i) (λσ' u d w' A i=>o .n σ' u Ds d w' A i) v h i;rwa[xcy]at this
 |.cond c a b,v,R,r,fr,cx,σ,K,Q,N,z,B,h,Ds,env,w,o,i=>by
  have v:=(xad _ _).mp v;have hd:N.rd=wF\/Ny a=wL:=B.imp id λh=>((xad _ _).mp h).1;have hf:N.rd=wF\/Ny b=wL:=B.imp id λh=>((xad _ _).mp h).2;simp only[den]at h;have⟨hB,vs,ht⟩:=i;have i:uD P (fr.wd Ds) cx σ env w:=⟨hB,vs,ht⟩;have⟨S,_,a0⟩:=ht.ex;split at h
  next hv=>exact CV (zj hv<|zL a0 c)<|Ye D F H J C a v.1 z hd h o i
  next hv=>exact Ec (zj hv<|zL a0 c)<|Ye D F H J C b v.2 z hf h o i
  rename_i x hv;have hx:ev env c=.bool x:=oE<|zj hv<|zL a0 c;rcases RH h with⟨rfl,h⟩|⟨rfl,h⟩
  exact CV hx<|Ye D F H J C a v.1 z hd h o i;exact Ec hx<|Ye D F H J C b v.2 z hf h o i;cases h
 |.block id c,v,R,r,fr,cx,σ,K,Q,N,z,B,h,Ds,env,w,o,i=>by
  refine GJ (Ye D F H J C c v (K:=λt σ=>match t with
   |.x j=>NT (E j id) (K .n σ)<|K (.x j) σ
   |t=>K t σ) z B h (λt σ' u l d w' A i=> ?_) i)
  cases t with
  |n=>exact o .n σ' u l d w' A i
  |r=>exact o .r σ' u l d w' A i
  |p q=>exact o (.p q) σ' u l d w' A i
  |x j=>
   simp only at u;show L4 id Q (.exit j) l d w';simp only[L4];cases hb:E j id<;>rw[hb]at u
   exact o (.x j) σ' u l d w' A i;exact o .n σ' u l d w' A i
 |.seq a b,v,R,r,fr,cx,σ,K,Q,N,z,B,h,Ds,env,w,o,i=>by
  have v:=(xad _ _).mp v;have hd:N.rd=wF\/Ny a=wL:=B.imp id λh=>((xad _ _).mp h).1;have hf:N.rd=wF\/Ny b=wL:=B.imp id λh=>((xad _ _).mp h).2;simp only[den]at h;split at h;refine BP<|Ye D F H J C a v.1 z hd h (λt σ' u l d w' A i=> ?_) i
  cases t with
  |n=>exact Ye D F H J C b v.2 z hf u (λt a1 hj a2 M w2 hn hp=>o t a1 hj a2 M w2 (A.trans hn) hp) i
  |x j=>exact o (.x j) σ' u l d w' A i
  |r=>exact o .r σ' u l d w' A i
  |p q=>exact o (.p q) σ' u l d w' A i
  rename_i s A;have⟨x,h1,L⟩:=rV h;have⟨hc,hq⟩:=EW (ag:=Fe a) (ro:=s.ro) i
  refine BP (zii (Ye D F H J C a v.1 (Q:=λe Ds d w=>∃t m,e=tgE t/\(match t with
   |.n=>den cf b cx m K
   |t=>K t m)=Z r/\my cx env d/\uD P (fr.wd Ds) cx m d w) z hd h1 (λt σ' u l d w' A i=> ?_) hq) ?_)
  have⟨y,m,e1,U,Y⟩:=Pt (P:=P) hc u;cases e1
  have e4:=(U λt σ=>match t with
   |.n=>den cf b cx σ K
   |t=>K t σ).symm.trans L
  exact⟨t,m,O,by cases t<;>exact e4,λe he=>A e<|xaa.2 (.inr he),Y _ d w' i⟩;rintro e l d w' ⟨t,m,rfl,u,hi,i⟩
  cases t with
  |n=>exact Ye D F H J C b v.2 z hf u (λt a1 hj a2 M w2 hn hp=>o t a1 hj a2 M w2 (hi.trans hn) hp) i
  |x j=>exact o (.x j) m u l d w' hi i
  |r=>exact o .r m u l d w' hi i
  |p q=>exact o (.p q) m u l d w' hi i
 |.loop c,v,R,r,fr,cx,σ,K,Q,N,z,B,h,Ds,env,w,o,i=>by
  simp only[den]at h;split at h;cases h
  rename_i s A;have⟨hc,hq⟩:=EW (ag:=Fe c) (ro:=s.sg.ro) i;have⟨x,h1,L⟩:=mb (P:=P) (cx:=qL cx<|keep σ (Fe c) s.sg.ro) (kp:=⟨(keep σ (Fe c) s.sg.ro).nx,[],[]⟩) h<|L6 hc;have⟨s0,T,h4⟩:=rV h1;refine Ph (G:=wr×Ju s.hd.ds) (λg Ds d w=>zg _ g.1 g.2=Z s0/\my cx env d/\uD P (fr.wd Ds) (qL cx<|keep σ (Fe c) s.sg.ro) (J2 s.hd g.2 ⟨(keep σ (Fe c) s.sg.ro).nx,[],[]⟩) d w) (λg=>g.1) (cf.fu,x) ⟨T,my.refl,L _ env w hq⟩ ?_;rintro⟨n',x⟩ Ds a4 w ⟨hl,hA,i⟩
  cases n' with
  |zero=>exact(zbH hl).elim
  |succ n'=>
   refine Ye D F H J C c v z B (zbB hl) (λt σ' u l d w' A i=> ?_) i;have hu:my cx env d:=hA.trans λe he=>A e<|xaa.2 (.inr he);have a3:(∀(y:SmD s.sg.tg) (m:Sg),Z y=Z s0->(∀{R':Type} (K:Tg->Sg->V R'),RR (keep σ (Fe c) s.sg.ro) K s.sg.tg y=K t m)->uD P (fr.wd l) cx m d w'->Q (tgE t) l d w'):=λy m e1 U Y=>by
    cases e1;exact o t m (by rw[<-h4];exact(U K).symm) l d w' hu Y
   cases t with
   |n=>
    have⟨x',h5,h6⟩:=mb (P:=P) (cx:=qL cx<|keep σ (Fe c) s.sg.ro) (kp:=⟨(keep σ (Fe c) s.sg.ro).nx,[],[]⟩) u<|L6 hc;exact⟨(n',x'),⟨h5,hu,h6 _ d w' i⟩,xdM n'⟩
   |x j=>
    have⟨y,m,e1,U,Y⟩:=Pt (P:=P) hc u;exact a3 y m e1 U<|Y _ d w' i
   |r=>
    have⟨y,m,e1,U,Y⟩:=Pt (P:=P) hc u;exact a3 y m e1 U<|Y _ d w' i
   |p q=>
    have⟨y,m,e1,U,Y⟩:=Pt (P:=P) hc u;exact a3 y m e1 U<|Y _ d w' i
 |.rangeFunc g ps a c,v,R,r,fr,cx,σ,K,Q,N,z,B,h,Ds,env,w,o,i=>by
  have v:=(xad _ _).mp v;have hw:=(xad _ _).mp v.2;simp only[den]at h;split at h;rename_i f cs s pt hg A hI;split at h;rename_i it τ sh hD hJ hE;split at h;rename_i y hy;have⟨hr,h⟩:=yf h;rw[xad]at hr;have⟨hF,hG⟩:=zgs hD;subst hG;have hz:ps= #[pt]:=by cases ps;simp_all
  subst hz;have hH:pt<n:=by have:=v.1;simpa using this
  subst z;exact zjq C (Ye D F H J C a hw.1) (Ye D F H J C c hw.2) hr.1 hr.2 (B.resolve_right<|by simp[Ny]) hH hg hF hy hE h o i;cases h
  cases h
  cases h
 |.refuse _,_,R,r,fr,cx,σ,K,Q,N,z,B,h,_,_,_,_,_=>by cases h
 |.goto _,_,R,r,fr,cx,σ,K,Q,N,z,B,h,_,_,_,_,_=>by cases h
end
end
section
def wY:N K->wP->wP
 |[],w=>w
 |D::Ds,w=>wY Ds<|w.putObj D (.deferred wF)
def dw:N K->wP->Prop
 |[],_=>Xs
 |D::Ds,w=>w.heap[D]? =Z (.deferred<|some [])/\dw Ds (w.putObj D (.deferred wF))
def mTk(D:K):MF where
 blk k:=k=D
 p _ w:=w.heap[D]? =Z (.deferred wF)
 keep h _ hb:=(hb D O).trans h
 sub h _:=h
 lt h k a:=by subst a;exact(xbf.1 h).1
section
variable{P:jP}{cf:Cf}{fr:Fr}{cx σ:Sg}{env:y6}
def Z7:∀{Ds:N K}{w:wP},uD P (fr.wd Ds) cx σ env w->dw Ds w/\uD P fr cx σ env (wY Ds w)
 |[],w,h=>⟨wR,h⟩
 |D::Ds,w,h=>by
  have h1:=Lh h (IR) λS hp=>hp;have c:=NI (A:=[]) (m':=mTk D) h (λk=>Iff.rfl) (λk h=>h) λS w' h=>h;have d:uD P (fr.wd Ds) cx σ env (w.putObj D (.deferred wF)):=by
   have⟨e,vs,f⟩:=c;refine⟨e,vs,?_⟩;have a:St fr.we fr.Se ((MS vs σ.ob++MS vs cx.ob)++([mTk D]++(Ds.map qm++fr.F))) (RS P vs env σ.rg++(RS P vs env cx.rg++fr.G)) (w.putObj D (.deferred wF)):=by simp_all
   have b:=St.dropM a;show St fr.we fr.Se (MS vs σ.ob++(MS vs cx.ob++(Ds.map qm++fr.F))) (RS P vs env σ.rg++(RS P vs env cx.rg++fr.G)) _;simp_all
  have⟨a,b⟩:=Z7 d;exact⟨⟨h1,a⟩,b⟩
def YP{F:lI}{n:K}{fn:WF}{tmps:ut wN}{Q:dL->wP->Prop}:∀{Ds:N K}{w:wP},dw Ds w->(∃v,(WT fn tmps).run P (wY Ds w)=.ok v (wY Ds w)/\Q (.returned v) (wY Ds w))->WN F n P fn tmps Q (Ds.map Ri) .returning w
 |[],w,_,h=>h
 |D::Ds,w,a,h=>⟨mK,.inl ⟨D,_,O,aP a.1,YP a.2 h⟩⟩
def UX{f:Z2}{fn:WF}{c:Z9}{args:N wN}{w:wP}{Q:dL->wP->Prop}(i:P.funcs[f]? =Z fn)(k:fn.body=Z c)(hn:xfu (X args) fn.ntmps=wL)
 (h:∀rest,Hz P (Nd.of fn.ntmps) c (λe Ds env w=>(e=.normal\/e=.ret)/\dw Ds w/\∀a:V0,zW a=env->∃v,(WT fn a.tmps).run P (wY Ds w)=.ok v (wY Ds w)/\Q (.returned v) (wY Ds w)) [] (L ((args.zipIdx 0).map λx=>(x.2,x.1)) rest) w):
 UT P f args.toArray w Q:=by
 have hn:=xbH hn;refine callsIn_wide.1<|U8 (n:=0) i k wR ?_;have l:JV (zW ⟨args.toArray++xdi (fn.ntmps-args.toArray.size) Z0,[]⟩) ((args.zipIdx 0).map λx=>(x.2,x.1)):=by refine JJ args 0 _ λj=> ?_;rw[bO];simp_all
 refine Wn (h _ _ (by simp;lia) O (Q2 l).symm) ?_;rintro e b w' ⟨q1,Ds,q2,m,d,hv⟩;have⟨v,h1,g⟩:=hv b O;obtain rfl|rfl:=m
 show WN _ _ P fn b.tmps Q b.defers .returning w';rw[q2,xbm];exact YP d ⟨v,h1,g⟩;show WN _ _ P fn b.tmps Q b.defers .returning w';rw[q2,xbm];exact YP d ⟨v,h1,g⟩
def px{F:lI}{n:K}{fn:WF}{tmps:ut wN}{a:N bv}{Q:dL->wP->Prop}:∀{Ds:N K}{w:wP},dw Ds w->Q (.panicked a) (wY Ds w)->WN F n P fn tmps Q (Ds.map Ri) (.panicking a) w
 |[],w,_,h=>h
 |D::Ds,w,b,h=>⟨mK,.inl ⟨D,_,O,aP b.1,px b.2 h⟩⟩
def zdn{f:Z2}{fn:WF}{c:Z9}{args:N wN}{w:wP}{Q:dL->wP->Prop}(k:P.funcs[f]? =Z fn)(l:fn.body=Z c)(hn:xfu (X args) fn.ntmps=wL)
 (h:∀rest,Hz P (Nd.of fn.ntmps) c (λe Ds env w=>dw Ds w/\(((e=.normal\/e=.ret)/\∀a:V0,zW a=env->∃v,(WT fn a.tmps).run P (wY Ds w)=.ok v (wY Ds w)/\Q (.returned v) (wY Ds w))\/∃d,e=.panic d/\Q (.panicked d) (wY Ds w))) [] (L ((args.zipIdx 0).map λx=>(x.2,x.1)) rest) w):
 UT P f args.toArray w Q:=by
 have hn:=xbH hn;refine callsIn_wide.1<|U8 (n:=0) k l wR ?_;have m:JV (zW ⟨args.toArray++xdi (fn.ntmps-args.toArray.size) Z0,[]⟩) ((args.zipIdx 0).map λx=>(x.2,x.1)):=by refine JJ args 0 _ λj=> ?_;rw[bO];simp_all
 refine Wn (h _ _ (by simp[Nd.of];lia) O (Q2 m).symm) ?_;rintro e b w' ⟨q1,Ds,q2,g,⟨o,hv⟩|⟨d,rfl,p⟩⟩;have⟨v,h1,i⟩:=hv b O;obtain rfl|rfl:=o
 show WN _ _ P fn b.tmps Q b.defers .returning w';rw[q2,xbm];exact YP g ⟨v,h1,i⟩;show WN _ _ P fn b.tmps Q b.defers .returning w';rw[q2,xbm];exact YP g ⟨v,h1,i⟩;show WN _ _ P fn b.tmps Q b.defers (.panicking d) w';rw[q2,xbm];exact px g p
end
end
section
section
variable{P:jP}{cf:Cf}{fr:Fr}{σ:Sg}{vs:wr->wN}{env:y6}{w:wP}{R:Type}{r:R}
theorem CC{rest:y6}:∀{l:N wN}{i j:K}{v:wN},l[j]? =Z v->L ((l.zipIdx i).map λx=>(x.2,x.1)) rest (i+j)=v
 |a::l,i,0,v,h=>by
  simp only[xbC,xau]at h;simp[L,h]
 |a::l,i,j+1,v,h=>by
  simp only[List.zipIdx_cons,xbQ,L];rw[zeg (W:i+(j+1)≠i)];have:=CC (rest:=rest) (i:=i+1) (by simpa using h);grind
theorem EF:∀{dom:N AM}{x:UU dom}{i:K}{l:N wN},X l=X dom->(∀j v,l[j]? =Z v->vs (i+j)=v)->MS vs (ZS dom x i).2=ki dom x l
 |[],_,_,_,_,_=>rfl
 |a::dom,x,i,[],hl,_=>by cases hl
 |a::dom,x,i,v::l,hl,h=>by
  have b:MS vs (ZS dom x.2<|i+1).2=ki dom x.2 l:=EF (by simpa using hl) λj v d=>by
   have:=h (j+1) v (by simpa using d);grind
  have h0:=h 0 v O
  cases a with
  |own t E=>
   show mO t.rep E (vs i) x.1::MS vs (ZS dom x.2<|i+1).2=mO t.rep E v x.1::ki dom x.2 l;grind
  |var t E=>
   show mP t.rep.c E (vs i) x.1::MS vs (ZS dom x.2<|i+1).2=mP t.rep.c E v x.1::ki dom x.2 l;grind
  |_=>exact b
def Cq{S:K->Prop}:∀{dom:N AM}{x:UU dom}{i:K}{l:N wN},X l=X dom->(∀j v,l[j]? =Z v->vs (i+j)=v/\env (i+j)=v)->zB S (jy P dom x l) w->zB S (RS P vs env (ZS dom x i).1) w
 |[],_,_,_,_,_,_=>trivial
 |a::dom,x,i,[],hl,_,_=>by cases hl
 |a::dom,x,i,v::l,hl,h,k=>by
  have c:=Cq (by simpa using hl) (λj v m=>by
   have:=h (j+1) v (by simpa using m);rw[(W:i+1+j=i+(j+1))];exact this) k.2
  have h0:vs i=v/\env i=v:=h 0 v O;have g:=k.1
  cases a with
  |d t=>exact⟨show(fV t.rep x.1<|env i).p S w by rw[h0.2];exact g,c⟩
  |q t=>exact⟨show(fP t.rep x.1<|env i).p S w by rw[h0.2];exact g,c⟩
  |own t E=>exact⟨show env i=vs i by rw[h0.1,h0.2],c⟩
  |var t E=>
   have⟨b,n⟩:=g;exact⟨⟨show env i=vs i by rw[h0.1,h0.2],b,h0.1.trans n⟩,c⟩
  |fn e f=>exact⟨show(fnF P e f x.1<|env i).p S w by rw[h0.2];exact g,c⟩
theorem Et:∀{dom:N AM}{x:UU dom}{i:K},∀e∈(ZS dom x i).2,e.1<i+X dom
 |[],_,_,e,he=>wS he H1
 |a::dom,x,i,e,he=>by
  have b:∀e∈(ZS dom x.2<|i+1).2,e.1<i+X (a::dom):=λe he=>by
   have:=Et e he;grind
  cases a with
  |own t E=>
   rcases xah.1 (show e∈(i,Od.own t E x.1)::(ZS dom x.2<|i+1).2 from he)with rfl|he
   simp_all;grind
  |var t E=>
   rcases xah.1 (show e∈(i,Od.var t E x.1)::(ZS dom x.2<|i+1).2 from he)with rfl|he
   simp_all;grind
  |_=>exact b e he
theorem oe:∀{dom:N AM}{x:UU dom}{i:K},∀e∈(ZS dom x i).1,∀p,vt e.2.2=Z p->p<i+X dom
 |[],_,_,e,he=>wS he H1
 |a::dom,x,i,e,he=>by
  intro p hp;have b:∀e∈(ZS dom x.2<|i+1).1,∀p,vt e.2.2=Z p->p<i+X (a::dom):=λe he p hp=>by
   have:=oe e he p hp;grind
  cases a with
  |own t E=>
   rcases xah.1 (show e∈(i,0,Dv.ow i)::(ZS dom x.2<|i+1).1 from he)with rfl|he
   cases hp;simp only[xaw];lia
   grind
  |var t E=>
   rcases xah.1 (show e∈(i,0,Dv.vs i t)::(ZS dom x.2<|i+1).1 from he)with rfl|he
   cases hp;simp only[xaw];lia
   grind
  |d t=>
   rcases xah.1 (show e∈(i,0,Dv.d t x.1)::(ZS dom x.2<|i+1).1 from he)with rfl|he
   cases hp
   exact b e he p hp
  |q t=>
   rcases xah.1 (show e∈(i,0,Dv.q t x.1)::(ZS dom x.2<|i+1).1 from he)with rfl|he
   cases hp
   exact b e he p hp
  |fn d c=>
   rcases xah.1 (show e∈(i,0,Dv.fp d c x.1)::(ZS dom x.2<|i+1).1 from he)with rfl|he
   cases hp
   exact b e he p hp
def Vm:∀(l:N WS) (ms:N RM) {σ:Sg},uD P fr ⟨0,[],[]⟩ σ env w->uD P fr ⟨0,[],[]⟩ (Jb σ l ms) env w
 |[],_,_,h=>by unfold Jb;exact h
 |.tmp t::l,[],_,h=>by unfold Jb;exact h
 |.tmp t::l,.d _::ms,_,h=>by unfold Jb;exact Vm l ms<|La _ h
 |.tmp t::l,.own _ _::ms,_,h=>by unfold Jb;exact Vm l ms h
 |.tmp t::l,.var _ _::ms,_,h=>by unfold Jb;exact Vm l ms h
 |.cell t E::l,[],_,h=>by unfold Jb;exact h
 |.cell t E::l,m::ms,_,h=>by unfold Jb;exact Vm l ms h
def zgq(H:yX P cf.tt){p:WS}{m:RM}{k:m.D->N K->V R}(h:DD cf σ p m k=Z r):∃x os,k x os=Z r/\
 ∀vs (fr:Fr) env (A:N MF) (Γ:N FF) w (f:N K),(∀S w,zB S Γ w->∀t,Lk P vs env S w ⟨0,[],[]⟩ σ t)->(∀o∈os,cn f o=I)->St fr.we fr.Se (A++OS vs fr ⟨0,[],[]⟩ (w8 σ.ob f)) Γ w->
  ∃v,zlf P w env p v/\St fr.we fr.Se (rmM m x v++(A++OS vs fr ⟨0,[],[]⟩ (w8 σ.ob<|os++f))) (rmF m x v++Γ) w:=by
 cases p with
 |tmp t=>
  cases m with
  |d s=>
   simp only[DD]at h;have hc:=h;have⟨y,h,J⟩:=zfx h;refine⟨y,[],h,λvs fr env A Γ w f hl _ g=>⟨env t,O,?_⟩⟩;refine g.weak λS w a=>⟨?_,a⟩
   cases l:get ⟨0,[],[]⟩ σ t 0 with
   |none=>rw[l]at hc;cases hc
   |some v=>exact J P vs S w v _ l<|hl S w a t 0 v l
  |own s E=>
   simp only[DD]at h;have⟨x,os,h1,_,n,j⟩:=LA h;refine⟨x,os,h1,λvs fr env A Γ w f hl hn g=>⟨env t,O,?_⟩⟩;exact j P vs fr env A Γ w f (λS w a=>hl S w a t) hn g
  |var s E=>
   simp only[DD]at h;have⟨x,os,h1,_,n,j⟩:=LA h;refine⟨x,os,h1,λvs fr env A Γ w f hl hn g=>⟨env t,O,?_⟩⟩;have q:=j P vs fr env A Γ w f (λS w a=>hl S w a t) hn g;exact q.weak λS w a=>⟨(n P vs env S w<|hl S w a).2,a⟩
 |cell t E=>
  cases m with
  |own s B=>simp only[DD]at h;cases h
  |var s B=>simp only[DD]at h;cases h
  |d s=>
   simp only[DD]at h;split at h;rename_i o Y C l L;split at h;rename_i s' B z M;have⟨u,h1⟩:=yf h;have u:=zY u;subst u;have⟨e,n⟩:=yr h1;cases e;have⟨e,j⟩:=yr n;cases e;refine⟨_,[o],j,λvs fr env A Γ w f hl hn g=> ?_⟩;have hp:=jC (vs:=vs) (fr:=fr) (cx:=⟨0,[],[]⟩)<|(jv<|hn o<|IR).trans M;have j:=St.mid<|St.perm g<|xbo _ hp;have⟨S,_,a⟩:=g.ex;have⟨hv,b,F⟩:=hl S w a t 0 _ l;have⟨⟨G,ht,_⟩,_⟩:=H E C L;have q:St fr.we fr.Se (mP C.ty.rep.c E (vs o) z::(A++OS vs fr ⟨0,[],[]⟩ (yF (w8 σ.ob f) o))) Γ w:=j;have⟨b',hd,Q⟩:=q.openP 0 O;rw[F]at hd;cases hd;refine zfr 0 Q O (hv.trans F) ht λv T U=>⟨v,U,?_⟩;exact St.drop (i:=0) T
   cases h
   cases h
def Da(e:yX P cf.tt):∀{a:N WS}{cod:N RM}{k:UK cod->N K->V R},Bf cf σ a cod k=Z r->∃x os,k x os=Z r/\
 ∀vs (fr:Fr) env (Γ:N FF) w,(∀S w,zB S Γ w->∀t,Lk P vs env S w ⟨0,[],[]⟩ σ t)->St fr.we fr.Se (OS vs fr ⟨0,[],[]⟩ σ.ob) Γ w->
  ∃us,X us=X cod/\dN P w env a us/\St fr.we fr.Se (jR cod x us++OS vs fr ⟨0,[],[]⟩ (w8 σ.ob os)) (jK cod x us++Γ) w
 |[],[],k,h=>⟨(),[],h,λvs fr env Γ w _ b=>⟨[],O,wR,b⟩⟩
 |[v],[m],k,h=>by
  have⟨x,os,h1,f⟩:=zgq e (h:DD cf σ v m k=Z r);refine⟨x,os,h1,λvs fr env Γ w hl b=> ?_⟩;have⟨u,c,d⟩:=f vs fr env [] Γ w [] hl (λ_ _=>O) b;rw[xbm]at d;exact⟨[u],O,⟨c,wR⟩,d⟩
 |v::q::a,m::m'::ms,k,h=>by
  have⟨x,o,h1,f⟩:=zgq e (h:DD cf σ v m _=Z r);have⟨y,os,c,d⟩:=Da e h1;have⟨hn,c⟩:=yf c;refine⟨(x,y),o++os,c,λvs fr env Γ w hl b=> ?_⟩;have⟨us,i,j,l⟩:=d vs fr env Γ w hl b;have⟨u,n,p⟩:=f vs fr env (jR (m'::ms) y us) (jK (m'::ms) y us++Γ) w os (λS w g=>hl S w<|zB.right g) (Nf hn) l;refine⟨u::us,by simpa using i,⟨n,j⟩,?_⟩;show St _ _ ((rmM m x u++jR (m'::ms) y us)++_) ((rmF m x u++jK (m'::ms) y us)++Γ) w;rw[xaq,xaq];exact p
 |[],_::_,_,h=>by cases h
 |[_],[],_,h=>by cases h
 |[_],_::_::_,_,h=>by cases h
 |_::_::_,[],_,h=>by cases h
 |_::_::_,[_],_,h=>by cases h
def TG(D:P.follows .mixedOrders=wL)(C:yX P cf.tt)(E:kZ P cf.tt)(H:∀s∈cf.cs,yY P s)(J:AF P cf){s:XW}{fn:WF}
 (K:P.funcs[s.f]? =Z fn) (L:sG P s.f=wL) (g:s.bk=0) (Q:∀x r,s.M x=Z r->zaX cf fn s.dom s.cod x=Z r):yY P s:=by
 refine⟨L,λx r h vs hd=> ?_⟩;rw[g];show SP P s.f vs.toArray (ki s.dom x vs) (jy P s.dom x vs) uK (λus=>jR s.cod r us) (λus=>jK s.cod r us) (λus=>X us=X s.cod);have h:=Q x r h;unfold zaX at h;split at h;rename_i c hc;have⟨l,h⟩:=yf h;rw[xad]at l;intro we Se F G w m;refine UX K hc (by rw[hd];exact l.2) λrest=> ?_;refine Ye (fr:=⟨we,Se,F,G⟩) (N:=Nd.of fn.ntmps) D C E H J c l.1 O (.inl O) h (λt σ' g Ds env w _ z=> ?_) ?_;have⟨hi,z⟩:=Z7 z
 have i:Bf cf (Jb σ' fn.results.toList s.cod) fn.results.toList s.cod (λy _=>Z y)=Z r->∀a:V0,zW a=env->
  ∃v,(WT fn a.tmps).run P (wY Ds w)=.ok v (wY Ds w)/\∃u:xS wN,xeu v=.returned (uK u)/\X u=X s.cod/\St we Se (jR s.cod r u++F) (jK s.cod r u++G) (wY Ds w):=λh a T=>by
  have hl:=Vm fn.results.toList s.cod z;generalize Jb σ' fn.results.toList s.cod=A at h hl;have⟨hB,vs,m⟩:=hl;have⟨y,os,e1,U⟩:=Da C h;cases e1;have⟨us,h1,V,Y⟩:=U vs ⟨we,Se,F,G⟩ env _ _ (λS w b t=>YW b t) m;refine⟨_,uU (rs:=fn.results.toList) (by rw[xcy])<|T▸V,us,O,h1,?_⟩;exact(St.dropM (B:=MS vs<|w8 A.ob os) Y).weak λS w b=>zB.append (zB.left b)<|zB.right<|zB.right b
 cases t with
 |n=>exact⟨.inl O,hi,i g⟩
 |r=>exact⟨.inr O,hi,i g⟩
 |x j=>cases g
 |p q=>cases g
 have e0:∀j v,vs[j]? =Z v->vs.getD (0+j) Z0=v:=λj v k=>by rw[xaJ,UV,k];rfl
 refine⟨⟨λe d=> ?_,λ_ d=>wS d H1,λe d p hp=> ?_,λ_ d=>wS d H1⟩,λo=>vs.getD o Z0,?_⟩;have:=Et e d;simpa using this;have:=oe e d p hp;simpa using this;have e1:MS (λo=>vs.getD o Z0) (ZS s.dom x 0).2=ki s.dom x vs:=EF hd e0;show St we Se (MS _ (ZS s.dom x 0).2++([]++F)) _ w;rw[e1];exact m.weak λS w b=>zB.append (Cq hd (λj v k=>⟨e0 j v k,CC k⟩)<|zB.left b)<|zB.right b;cases h
def PQ(we:wP)(Se:K->Prop)(F:N MF)(G:N FF)(cod:N RM)(z:PX⊕UK cod)(e:dL)(w:wP):Prop:=match z with
 |.inl q=>e=.panicked (pE q)/\St we Se F G w
 |.inr r=>∃u:N wN,e=.returned (uK u)/\X u=X cod/\St we Se (jR cod r u++F) (jK cod r u++G) w
def OC(E:P.follows .mixedOrders=wL)(D:yX P cf.tt)(H:kZ P cf.tt)(J:∀s∈cf.cs,yY P s)(L:AF P cf){f:Z2}{dom:xS AM}{cod:xS RM}{fn:WF}(M:P.funcs[f]? =Z fn){x:UU dom}{z:PX⊕UK cod}(h:zjh cf fn dom cod x=Z z)
 {vs:xS wN} (m:X vs=X dom) {we:wP}{Se:K->Prop}{F:xS MF}{G:xS FF}{w:wP} (hd:St we Se (ki dom x vs++F) (jy P dom x vs++G) w):UT P f vs.toArray w (PQ we Se F G cod z):=by
 unfold zjh at h;split at h;rename_i c hc;have⟨u,h⟩:=yf h;rw[xad]at u;refine zdn M hc (by rw[m];exact u.2) λrest=> ?_;refine Ye (fr:=⟨we,Se,F,G⟩) (N:=Nd.of fn.ntmps) E D H J L c u.1 O (.inl O) h (λt σ' i Ds env w _ k=> ?_) ?_;have⟨hl,k⟩:=Z7 k;refine⟨hl,?_⟩
 have g:Bf cf (Jb σ' fn.results.toList cod) fn.results.toList cod (λy _=>Z (.inr y))=Z z->∀a:V0,zW a=env->
  ∃v,(WT fn a.tmps).run P (wY Ds w)=.ok v (wY Ds w)/\PQ we Se F G cod z (.returned v) (wY Ds w):=λh a Q=>by
  have hi:=Vm fn.results.toList cod k;generalize Jb σ' fn.results.toList cod=C at h hi;have⟨T,vs,hd⟩:=hi;have⟨y,os,e1,U⟩:=Da D h;cases e1;have⟨us,h1,V,Y⟩:=U vs ⟨we,Se,F,G⟩ env _ _ (λS w b t=>YW b t) hd;refine⟨_,uU (rs:=fn.results.toList) (by rw[xcy])<|Q▸V,us,O,h1,?_⟩;exact(St.dropM (B:=MS vs<|w8 C.ob os) Y).weak λS w b=>zB.append (zB.left b)<|zB.right<|zB.right b
 cases t with
 |n=>exact .inl ⟨.inl O,g i⟩
 |r=>exact .inl ⟨.inr O,g i⟩
 |x j=>cases i
 |p q=>
  cases i;have⟨T,vs,hd⟩:=k;have hd:St we Se ([]++(MS vs σ'.ob++F)) (RS P vs env σ'.rg++([]++G)) (wY Ds w):=hd;exact .inr ⟨_,O,O,(St.dropM (A:=[]) hd).weak λS w b=>zB.right<|zB.right b⟩
 have e0:∀j v,vs[j]? =Z v->vs.getD (0+j) Z0=v:=λj v l=>by rw[xaJ,UV,l];rfl
 refine⟨⟨λe d=> ?_,λ_ d=>wS d H1,λe d p hp=> ?_,λ_ d=>wS d H1⟩,λo=>vs.getD o Z0,?_⟩;have:=Et e d;simpa using this;have:=oe e d p hp;simpa using this;have e1:MS (λo=>vs.getD o Z0) (ZS dom x 0).2=ki dom x vs:=EF m e0;show St we Se (MS _ (ZS dom x 0).2++([]++F)) _ w;rw[e1];exact hd.weak λS w b=>zB.append (Cq m (λj v l=>⟨e0 j v l,CC l⟩)<|zB.left b)<|zB.right b;cases h
def zon(a:P.follows .mixedOrders=wL)(b:yX P cf.tt)(c:kZ P cf.tt)(d:∀s∈cf.cs,yY P s)(e:AF P cf){p:Ji}{fn:WF}
 (g:P.funcs[p.s.f]? =Z fn) (k:sG P p.s.f=wL) (l:p.s.bk=0) (i:∀x r,p.M x=Z r->zjh cf fn p.s.dom p.s.cod x=Z r):NW P p:=by
 refine⟨k,λx vs j=>⟨λr h=> ?_,λq h we Se F G w hc=>OC a b c d e g (i x _ h) j hc⟩⟩;rw[l];exact λwe Se F G w hc=>OC a b c d e g (i x _ h) j hc
theorem zeN{S:K->Prop}{b:K->wN}:∀{dom:N AM}{i:K},(∀j,j<X dom->env (i+j)=b (i+j))->zB S (RS P vs env<|C7 b dom i) w
 |[],_,_=>trivial
 |a::dom,i,h=>by
  have c:zB S (RS P vs env<|C7 b dom<|i+1) w:=zeN λj d=>by
   have:=h (j+1) (by simp only[xaw];lia);grind
  cases a with
  |own t E=>exact⟨h 0 mK,c⟩
  |var t E=>exact⟨h 0 mK,c⟩
  |_=>exact c
def gN{S:K->Prop}{l:N wN}:∀{dom:N AM}{i:K}{us:N wN},zB S (RS P vs env<|C7 (λo=>l.getD o Z0) dom i) w->dN P w env (FQ dom i) us->us=JY dom (l.drop i)
 |[],_,[],_,_=>rfl
 |[],_,_::_,_,h=>h.elim
 |a::dom,i,us,b,h=>by
  have e0:(l.drop i).headD Z0=l.getD i Z0:=by simp_all
  have e1:(l.drop i).tail=l.drop (i+1):=by rw[List.tail_drop]
  cases a with
  |own t E=>
   cases us with
   |nil=>exact h.elim
   |cons u us=>
    have h1:env i=u:=h.1;have f:env i=l.getD i Z0:=b.1;have e:=gN (dom:=dom) (i:=i+1) b.2 h.2;show u::us=(l.drop i).headD Z0::JY dom (l.drop i).tail;simp_all
  |var t E=>
   cases us with
   |nil=>exact h.elim
   |cons u us=>
    have h1:env i=u:=h.1;have f:env i=l.getD i Z0:=b.1;have e:=gN (dom:=dom) (i:=i+1) b.2 h.2;show u::us=(l.drop i).headD Z0::JY dom (l.drop i).tail;simp_all
  |d t=>
   have e:=gN (dom:=dom) (i:=i+1) b h;show us=JY dom (l.drop i).tail;simp_all
  |q t=>
   have e:=gN (dom:=dom) (i:=i+1) b h;show us=JY dom (l.drop i).tail;rw[e1];exact e
  |fn d c=>
   have e:=gN (dom:=dom) (i:=i+1) b h;show us=JY dom (l.drop i).tail;rw[e1];exact e
def Ep:∀{a b:N WS}{us:N wN},dN P w env (a++b) us->dN P w env a (us.take (X a))/\dN P w env b (us.drop (X a))
 |[],b,us,h=>⟨wR,h⟩
 |r::a,b,[],h=>h.elim
 |r::a,b,u::us,h=>by
  have⟨h1,c⟩:=Ep h.2;exact⟨⟨h.1,h1⟩,c⟩
def iC{b:K->wN}:∀{dom:N AM}{i:K},∀e∈C7 b dom i,vt e.2.2=wF
 |[],_,e,he=>wS he H1
 |a::dom,i,e,he=>by
  cases a with
  |own t E=>
   rcases xah.1 (show e∈(i,0,Dv.pin<|b i)::C7 b dom (i+1)from he)with rfl|he
   rfl;exact iC e he
  |var t E=>
   rcases xah.1 (show e∈(i,0,Dv.pin<|b i)::C7 b dom (i+1)from he)with rfl|he
   rfl;exact iC e he
  |d t=>exact iC (dom:=dom) e he
  |q t=>exact iC (dom:=dom) e he
  |fn d c=>exact iC (dom:=dom) e he
def znH(hm:P.follows .mixedOrders=wL)(E:yX P cf.tt)(hL:kZ P cf.tt)(hC:∀s∈cf.cs,yY P s)(hX:AF P cf){s:XW}{fn:WF}
 (hf:P.funcs[s.f]? =Z fn) (hb:sG P s.f=wL) (hM:∀pn x r,s.M x=Z r->zjz cf fn s.dom s.cod s.bk pn x=Z r):yY P s:=by
 refine⟨hb,λx r h vs hd=> ?_⟩;have h:=hM (λo=>vs.getD o Z0) x r h;unfold zjz at h;split at h;rename_i c hc;have⟨H,h⟩:=yf h;simp only[xad]at H;have⟨⟨⟨⟨hz,hA⟩,J⟩,hG⟩,Q⟩:=H;have J:=zY J;have Q:0<s.bk:=Nat.blt_eq.mp Q;have⟨b,hD⟩:∃b,s.bk=b+1:=⟨s.bk-1,W⟩;rw[hD];intro we Se F G w hl;refine UX hf hc (by rw[hd];exact hA) λrest=> ?_;have e0:∀j v,vs[j]? =Z v->vs.getD (0+j) Z0=v:=λj v m=>by simp_all
 refine Ye (fr:=⟨we,Se,F,G⟩) (N:=Nd.of fn.ntmps) hm E hL hC hX c hz O (.inl O) h (λt σ' z Ds env w _ C=> ?_) ?_;have⟨ht,C⟩:=Z7 C
 have i:Bf cf (Jb σ' (fn.results.toList++FQ s.dom 0) s.cod) (fn.results.toList++FQ s.dom 0) s.cod (λy _=>Z y)=Z r->∀a:V0,zW a=env->
  ∃v,(WT fn a.tmps).run P (wY Ds w)=.ok v (wY Ds w)/\∃u:xS wN,xeu v=.returned (znn (b+1) (X s.cod) u)/\ziB s.dom vs (b+1) (X s.cod) u/\St we Se (jR s.cod r u++F) (jK s.cod r u++G) (wY Ds w):=λh a A=>by
  have⟨T,k,hi⟩:=C;have⟨S0,_,hE⟩:=hi.ex;have hv:zB S0 (RS P k env<|C7 (λo=>vs.getD o Z0) s.dom 0) _:=zB.left<|zB.right hE;have hF:uD P ⟨we,Se,F,G⟩ ⟨0,[],[]⟩ σ' env (wY Ds w):=⟨⟨T.o1,λ_ g=>wS g H1,T.r1,λ_ g=>wS g H1⟩,k,hi.weak λS w A=>zB.append (zB.left A)<|zB.right<|zB.right A⟩;have U:=Vm (fn.results.toList++FQ s.dom 0) s.cod hF;generalize Jb σ' (fn.results.toList++FQ s.dom 0) s.cod=D at h U;have⟨hB,l,hl⟩:=U;have⟨y,os,e1,e2⟩:=Da E h;cases e1;have⟨us,h1,h2,h3⟩:=e2 l ⟨we,Se,F,G⟩ env _ _ (λS w d t=>YW d t) hl;have⟨h4,h5⟩:=Ep h2;have hn:X s.cod-(b+1)=X fn.results.toList:=W
  have V:=gN hv h5;rw[List.drop_zero]at V;refine⟨_,uU (rs:=fn.results.toList) (by rw[xcy])<|A▸h4,us,?_,⟨h1,by rw[hn];exact V⟩,?_⟩;show xeu _=.returned (uK<|us.take<|X s.cod-(b+1));rw[hn];exact(St.dropM (B:=MS l<|w8 D.ob os) h3).weak λS w d=>zB.append (zB.left d)<|zB.right<|zB.right d
 cases t with
 |n=>exact⟨.inl O,ht,i z⟩
 |r=>exact⟨.inr O,ht,i z⟩
 |x j=>cases z
 |p q=>cases z
 refine⟨⟨λe g=> ?_,λ_ g=>wS g H1,λe g p hp=> ?_,λe g p hp=> ?_⟩,λo=>vs.getD o Z0,?_⟩;have:=Et e g;simpa using this;have:=oe e g p hp;simpa using this;rw[iC e g]at hp;cases hp
 have e1:MS (λo=>vs.getD o Z0) (ZS s.dom x 0).2=ki s.dom x vs:=EF hd e0;show St we Se (MS _ (ZS s.dom x 0).2++([]++F)) _ w;rw[e1];refine hl.weak λS w d=>zB.append (Cq hd (λj v m=>⟨e0 j v m,CC m⟩)<|zB.left d)<|zB.append (zeN λj m=> ?_)<|zB.right d;have Y:vs[j]? =Z (vs[j]'W):=xab W;show L _ _ (0+j)=vs.getD (0+j) Z0;rw[e0 j _ Y];exact CC Y;cases h
end
end
section
section
variable{P:jP}
def zc:Ty->N wN
 |.i=>[.int .i64 0]
 |.u=>[.int .u64 0]
 |.b=>[.bool I]
 |.ch=>[.int .u8 0]
 |.tx=>[.string ByteArray.empty]
 |.l _=>[.slice wF 0 0]
 |.p s t=>zc s++zc t
 |.a k t=>(Nm k<|zc t).flatten
 |.po _=>[.pointer wF]
 |.w1 t=>zc t
def zcz{α:Type}{e:zT α}{S:K->Prop}{w:wP}{x:α}{c:N wN}(h:e.p S x c w):∀k,yT e S (Nm k x) (Nm k c).flatten w
 |0=>rfl
 |k+1=>⟨c,_,O,h,zcz h k⟩
def zds(S:K->Prop)(w:wP):∀t:Ty,t.rep.p S t.z (zc t) w
 |.i=>⟨O,(mD:(-9223372036854775808:J)<=0),(mD:(0:J)<=9223372036854775807)⟩
 |.u=>⟨O,(mD:(0:K)<18446744073709551616)⟩
 |.b=>rfl
 |.ch=>⟨O,(mD:(0:K)<256)⟩
 |.tx=>⟨ByteArray.empty,O,O,mD⟩
 |.l _=>⟨_,O,SlP.nil⟩
 |.p s t=>⟨_,_,O,zds S w s,zds S w t⟩
 |.a k t=>⟨xaM,zcz (zds S w t) k⟩
 |.po _=>rfl
 |.w1 t=>zds S w t
def znb(t:Ty):X (zc t)=t.n:=by have:=t.rep.len<|zds (λ_=>Xs) default t;rw[this,t.n_rep]
def zhf:∀{k:K}{t:Ty}{i:K}{f:Fl t.D},xk k t i=Z f->∃d c,zc t=d++zc f.f++c/\X d=f.off
 |0,.w1 t,0,f,h=>by
  simp only[xk,xau]at h;subst h;exact⟨[],[],by simp[zc],O⟩
 |0,.w1 t,_+1,_,h=>by cases h
 |0,.i,_,_,h=>by cases h
 |0,.u,_,_,h=>by cases h
 |0,.b,_,_,h=>by cases h
 |0,.l _,_,_,h=>by cases h
 |0,.p _ _,_,_,h=>by cases h
 |0,.a _ _,_,_,h=>by cases h
 |0,.ch,_,_,h=>by cases h
 |0,.tx,_,_,h=>by cases h
 |0,.po _,_,_,h=>by cases h
 |1,t,i,f,h=>by
  unfold xk at h;cases e:E i 0<;>rw[e]at h
  cases h
  simp only[Wf,xau]at h;subst h;exact⟨[],[],by simp[Fl.self],O⟩
 |k+2,.p s t,0,f,h=>by
  simp only[xk,xau]at h;subst h;exact⟨[],zc t,by simp[zc],O⟩
 |k+2,.p s t,i+1,f,h=>by
  simp only[xk]at h;split at h;rename_i f' g;simp only[xau]at h;subst h;have⟨d,c,h1,j⟩:=zhf g;refine⟨zc s++d,c,?_,by rw[xat,znb,j]⟩;simp only[zc];rw[h1];simp only[xaq];cases h
 |k+2,.i,i,f,h=>by simp[xk]at h
 |k+2,.u,i,f,h=>by simp[xk]at h
 |k+2,.b,i,f,h=>by simp[xk]at h
 |k+2,.l _,i,f,h=>by simp[xk]at h
 |k+2,.a _ _,i,f,h=>by simp[xk]at h
def zlZ(P:jP)(t n:K):(N (V K)×N (V<|K×v6×K))×V (N<|V<|K×K):=(((xaO<|n+(1-n)).map λi=>zay P t i,(xaO<|n+(1-n)).map λi=>zhI P t i),match plB P t with
 |some a=>Z<|a.toList.map Z
 |none=>wF)
def zha(ty:Ty)(n:K):(N (V K)×N (V<|K×v6×K))×V (N<|V<|K×K):=(((xaO<|n+(1-n)).map λi=>(xk n ty i).map (·.off),(xaO<|n+(1-n)).map λi=>(xk n ty i).map λf=>(f.off,f.f.rep.agg,f.f.n)),Z<|(xaO<|n+(1-n)).map λi=>(xk n ty i).map λf=>(f.off,f.f.n))
def Rh(P:jP)(t:wT)(a:TI):Prop:=match a.k with
 |.int k=>P.underlying t=Z (.int k)
 |.bool=>P.underlying t=Z .bool
 |.str=>P.underlying t=Z .string
 |.sl E=>P.underlying t=Z (.slice E)/\∃e,a.ty=.l e
 |.st n=>a.ty.rep.agg=wL/\zlZ P t n=zha a.ty n
 |.ar k E=>a.ty.rep.agg=wL/\P.underlying t=Z (.array k E)
 |.pt E=>P.underlying t=Z (.pointer E)
def zbU:∀{n:K}{t:Ty}{i:K}{f:Fl t.D},0<n->xk n t i=Z f->i<n
 |0,_,_,_,h0,h=>wS h0<|xfR 0
 |1,t,i,f,_,h=>by
  simp only[xk]at h;cases c:E i 0<;>rw[c]at h
  cases h
  rw[zY c];exact xdm
 |n+2,.p s t,0,f,_,h=>Nat.succ_pos _
 |n+2,.p s t,i+1,f,_,h=>by
  simp only[xk]at h;split at h
  next f' d=>exact Nat.succ_lt_succ<|zbU (Nat.succ_pos _) d
  cases h
 |n+2,.i,_,_,_,h=>by simp[xk]at h
 |n+2,.u,_,_,_,h=>by simp[xk]at h
 |n+2,.b,_,_,_,h=>by simp[xk]at h
 |n+2,.l _,_,_,_,h=>by simp[xk]at h
 |n+2,.a _ _,_,_,_,h=>by simp[xk]at h
 |n+2,.ch,_,_,_,h=>by simp[xk]at h
 |n+2,.tx,_,_,_,h=>by simp[xk]at h
 |n+2,.po _,_,_,_,h=>by simp[xk]at h
 |n+2,.w1 _,_,_,_,h=>by simp[xk]at h
def zaq{n:K}{t:Ty}{i:K}{f:Fl t.D}(h:xk n t i=Z f):i<n+(1-n):=by
 cases n with
 |zero=>
  cases t<;>cases i<;>first
   |exact xdm
   |cases h
 |succ n=>have:=zbU (Nat.succ_pos n) h;lia
def zf4.of{t:wT}{d:TI}(h:Rh P t d):zf4 P t d:=by
 unfold Rh at h;unfold zf4;split at h
 ·next h0=>simp only[h0];exact h
 ·next h0=>simp only[h0];exact h
 ·next h0=>simp only[h0];exact h
 ·next h0=>simp only[h0];exact h
 ·next n h0=>
  simp only[h0];have⟨h1,h⟩:=h;have e:=uL (λq=>q.1.1) h;have g:=uL (λq=>q.1.2) h;have c:=uL Prod.snd h;simp only[zlZ,zha]at e g c;refine⟨h1,λi f b=> ?_,?_,λi f b=> ?_⟩;rotate_left 2
  ·have:=uL (λl:N (V<|K×v6×K)=>l[i]?) g;simp only[xbX,List.getElem?_range<|zaq b,Option.map_some,b]at this;simpa using this
  ·have:=uL (λl:N (V K)=>l[i]?) e;simp only[xbX,List.getElem?_range<|zaq b,Option.map_some,b]at this;simpa using this
  ·cases hp:plB P t with
   |none=>
    rw[hp]at c;cases c
   |some a=>
    rw[hp]at c;simp only[xau]at c;have⟨fs,k,m⟩:=zk1 hp;refine⟨fs,k,a,m,λi f b=> ?_⟩;have:=uL (λl:N (V<|K×K)=>l[i]?) c;simp only[xbX,List.getElem?_range<|zaq b,Option.map_some,b]at this;rw[<-Array.getElem?_toList]
    cases j:a.toList[i]? with
    |none=>rw[j]at this;cases this
    |some q=>rw[j]at this;simpa using this
 ·next h0=>simp only[h0];exact h
 ·next h0=>simp only[h0];exact h
def zeF.of{t:wT}{a:TI}(h1:tyB P t=Z (a.ty.rep.agg,a.ty.n,a.B,Z<|a.ty.rep.val<|zc a.ty))(c:(xda 0 a.B && xda 0 a.ty.n)=wL)(f:Rh P t a):zeF P t a:=by rw[xad]at c;have b:=λS w=>zds S w a.ty;refine⟨⟨_,(by rw[Ty.n_rep];exact Jo.of h1),?_,λS w=> ?_,(λs h=>by rw[h];rfl),λn i off s g st j=> ?_⟩,xbH c.1,(by rw[Ty.n_rep];exact xbH c.2),zf4.of f⟩;rw[<-xeY,zT.val_cells _<|b (λ_=>Xs) default,a.ty.rep.len<|b (λ_=>Xs) default];rw[zT.val_cells _<|b S w];exact b S w;rw[zT.val_cells _<|b (λ_=>Xs) default];have⟨k,d,l,e⟩:=zhf j;rw[l,xaq,xbr (by simp only at e;lia),e,xcE];rfl
def yX.nil:yX P []:=λ_ _ h=>by cases h
def yX.cons{t:wT}{c:TI}{tt:N (K×TI)}(h:zeF P t c)(k:yX P tt):yX P ((t,c)::tt):=by
 intro d a b;unfold UC at b;cases e:E t d<;>rw[e]at b
 exact k d a b;simp_all
def yX.add{t:wT}{a:TI}{tt:N (K×TI)}(h1:tyB P t=Z (a.ty.rep.agg,a.ty.n,a.B,Z<|a.ty.rep.val<|zc a.ty))(b:(xda 0 a.B && xda 0 a.ty.n)=wL)(c:Rh P t a)(k:yX P tt):yX P ((t,a)::tt):=yX.cons (zeF.of h1 b c) k
def elB(tt:N (K×TI)):N (K×TI)->v6
 |[]=>wL
 |(_,⟨.l s,.sl E,_⟩)::r=>(match UC tt E with
  |some a=>(Ty.same a.ty s).isSome
  |none=>I) && elB tt r
 |_::r=>elB tt r
def kZ.of'{tt:N (K×TI)}:∀{l:N (K×TI)},elB tt l=wL->∀t s E B,UC l t=Z ⟨.l s,.sl E,B⟩->∃a,UC tt E=Z a/\a.ty=s
 |[],_,_,_,_,_,h=>by cases h
 |(c,d)::r,h,t,s,E,B,b=>by
  have e:elB tt r=wL:=by unfold elB at h;split at h;simp_all;simp_all;simp_all
  unfold UC at b;cases f:xaf c t<;>rw[f]at b
  exact kZ.of' e t s E B b;cases b;unfold elB at h;simp only[xad]at h;have h:=h.1;split at h
  rename_i a g;refine⟨a,g,?_⟩
  cases i:Ty.same a.ty s with
  |none=>rw[i]at h;cases h
  |some p=>exact p.down
  cases h
def kZ.of{tt:N (K×TI)}(h:elB tt tt=wL):kZ P tt:=λt s E B=>kZ.of' h t s E B
def nP.nil:nP P []:=λ_ _ h=>by cases h
def nP.add{f:K}{b:v6}{ex:N (K×v6)}{fn:WF}(h0:P.funcs[f]? =Z fn)(h1:(fn.name== "runtime.NumGoroutine")=I)(g:fn.body=wF)(h:(xeP fn).isNone=wL)
 (i:b=wL->xfa fn=Z (λargs=>do
  let(x,y,c)<-xbK "Add64" args
  pure (xcm ((x+y+c)%xbe)<|(x+y+c)/xbe)))
 (j:b=I->xfa fn=Z (λargs=>do
  let(x,y,b)<-xbK "Sub64" args
  pure (xcm ((x+xbe-y-b)%xbe) (if x<y+b then 1 else 0)))) (k:nP P ex):nP P ((f,b)::ex):=by
 intro f' d a;unfold UC at a;cases e:E f f'<;>rw[e]at a
 exact k f' d a;simp_all
def cN:∀s∈([]:N XW),yY P s:=λ_ h=>wS h H1
theorem cC{s:XW}{l:N XW}(h:yY P s)(k:∀s∈l,yY P s):∀q∈s::l,yY P q:=by grind
def sg0{s:XW}(a:sG P s.f=wL)(b:∀x,s.M x=wF):yY P s:=⟨a,λx r h=>by rw[b x]at h;cases h⟩
def AF.of{tt:N (K×TI)}{ex:N (K×v6)}{cs:N XW}{an:An}{fu:K}(a:nP P ex)(hp:P=Tryz.prog):AF P ⟨tt,cs,an,fu,ex,[],[],[],[]⟩:=⟨a,λ_ h=>wS h H1,λ_ h=>wS h H1,λ_ h=>wS h H1,hp,λ_ h=>wS h H1⟩
def sgP(a:P.follows .mixedOrders=wL){tt:N (K×TI)}{ex:N (K×v6)}(b:yX P tt)(c:kZ P tt)(d:nP P ex)(hp:P=Tryz.prog){cs:N XW}(an:An){fu:K}{s:XW}{fn:WF}(e:P.funcs[s.f]? =Z fn)(g:∀s∈cs,yY P s)(i:sG P s.f=wL)(j:s.bk=0)(k:∀x,zaX ⟨tt,cs,an,fu,ex,[],[],[],[]⟩ fn s.dom s.cod x=s.M x):yY P s:=
 TG (cf:=⟨tt,cs,an,fu,ex,[],[],[],[]⟩) a b c g (.of d hp) e i j λx r h=>(k x).trans h
def sgG(b:P.follows .mixedOrders=wL){tt:N (K×TI)}{ex:N (K×v6)}(c:yX P tt)(d:kZ P tt)(e:nP P ex)(hp:P=Tryz.prog){cs:N XW}(an:An){fu:K}{s:XW}{fn:WF}(g:P.funcs[s.f]? =Z fn)(i:∀s∈cs,yY P s)(j:sG P s.f=wL)(k:∀a x,zjz ⟨tt,cs,an,fu,ex,[],[],[],[]⟩ fn s.dom s.cod s.bk a x=s.M x):yY P s:=
 znH (cf:=⟨tt,cs,an,fu,ex,[],[],[],[]⟩) b c d i (.of e hp) g j λa x r h=>(k a x).trans h
end
end
section
def ziG:(dom:N Ty)->nU dom->K->N (K×K×Dv)
 |[],_,_=>[]
 |t::r,x,i=>(i,0,.d t x.1)::ziG r x.2 (i+1)
def zjE(g:Z2)(t:K)(σ:Sg):V (N PD):=match get ⟨0,[],[]⟩ σ t 0 with
 |some (.fn f cs)=>jt (E f g)<|some cs
 |_=>wF
def zq8(cf:Cf)(fn:WF)(dom:N Ty)(g:Z2)(x:nU dom):V (N PD):=match fn.body,fn.results.toList with
 |some c,[.tmp t]=>jt (NU fn.ntmps c && xfu (X dom) fn.ntmps)<|den cf c ⟨0,[],[]⟩ ⟨0,ziG dom x 0,[]⟩ λq σ=>match q with
  |.r=>zjE g t σ
  |.n=>zjE g t σ
  |_=>wF
 |_,_=>wF
def zjw(t:Ty)(E E1:wT)(ix:N K)(lo n:K)(σ:Sg):V (N<|N t.D):=match get ⟨0,[],[]⟩ σ 3 0 with
 |some (.mv o a d)=>(match xA σ.ob o with
  |some (.mat e f g b c)=>jt (xaf E f && xaf E1 g)<|Ty.cast (.l (.l e)) (.l (.l t)) b λy=>ck (a=lo/\d=n/\c=ix)<|some y
  |_=>wF)
 |_=>wF
def zm8(cf:Cf)(fn:WF)(t:Ty)(E E1:wT)(e:wN)(b:N (N t.D))(ix:N K)(r:K)(a p:J)(lo n:K):V (N<|N t.D):=match fn.body,fn.results.toList with
 |some c,[]=>jt (NU fn.ntmps c && xfu 4 fn.ntmps)<|den cf c ⟨0,[(3,0,.pin e)],[]⟩ ⟨1,[(0,0,.rw 0 r),(1,0,.d .i a),(2,0,.d .i p),(3,0,.mv 0 lo n)],[(0,.mat t E E1 b ix)]⟩ λq σ=>match q with
  |.r=>zjw t E E1 ix lo n σ
  |.n=>zjw t E E1 ix lo n σ
  |_=>wF
 |_,_=>wF
section
variable{P:jP}{cf:Cf}{env:y6}{w:wP}
def zbF{S:K->Prop}{vs:K->wN}:∀{dom:N Ty}{x:nU dom}{i:K}{l:N wN},X l=X dom->(∀j v,l[j]? =Z v->env (i+j)=v)->zB S (tsF dom x l) w->zB S (RS P vs env<|ziG dom x i) w
 |[],_,_,_,_,_,_=>trivial
 |a::dom,x,i,[],hl,_,_=>by cases hl
 |a::dom,x,i,v::l,hl,h,b=>by
  have c:zB S (RS P vs env<|ziG dom x.2<|i+1) w:=zbF (by simpa using hl) (λj v d=>by
   have:=h (j+1) v (by simpa using d);rw[(W:i+1+j=i+(j+1))];exact this) b.2
  have h0:env i=v:=h 0 v O;have e:=b.1;exact⟨show(fV a.rep x.1<|env i).p S w by rw[h0];exact e,c⟩
def RB:∀{dom:N Ty}{x:nU dom}{i:K},∀e∈ziG dom x i,vt e.2.2=wF
 |[],_,_,e,he=>wS he H1
 |a::dom,x,i,e,he=>by
  obtain rfl|he:=xah.1 he
  rfl;exact RB e he
def zmQ(o:P.follows .mixedOrders=wL)(y:yX P cf.tt)(z:kZ P cf.tt)(D:∀s∈cf.cs,yY P s)(E:AF P cf){s:OM}{fn:WF}
 (H:P.funcs[s.f]? =Z fn) (J:sG P s.f=wL) (K:∀x,zq8 cf fn s.dom s.g x=Z (s.mc x)):zav P s:=by
 refine⟨J,λx vs hd=>SP.plain ?_⟩;have h:=K x;unfold zq8 at h;split at h;rename_i c t hc L;have⟨l,h⟩:=yf h;rw[xad]at l;intro we Se F G w ht;refine UX H hc (by rw[hd];exact l.2) λrest=> ?_;refine Ye (fr:=⟨we,Se,F,G⟩) (N:=Nd.of fn.ntmps) o y z D E c l.1 O (.inl O) h (λq σ' k Ds env w _ m=> ?_) ?_;have⟨hl,m⟩:=Z7 m
 have i:zjE s.g t σ'=Z (s.mc x)->∀a:V0,zW a=env->
  ∃v,(WT fn a.tmps).run P (wY Ds w)=.ok v (wY Ds w)/\∃u:wN,xeu v=.returned u/\Xs/\St we Se ([]++F) ([zov s.g (s.mc x) u]++G) (wY Ds w):=λh a M=>by
  unfold zjE at h;split at h;rename_i f cs Q;have⟨hi,h1⟩:=yf h;have hi:=zY hi;subst hi;cases h1;have⟨V,vs',hn⟩:=m;have R:St we Se (MS vs' σ'.ob++F) (RS P vs' env σ'.rg++([]++G)) (wY Ds w):=hn;refine⟨_,uU (rs:=[.tmp t]) (vs:=[env t]) (by rw[<-L,xcy])<|M▸⟨O,wR⟩,env t,O,wR,?_⟩;have T:=St.dropM (A:=[]) (B:=MS vs' σ'.ob) (C:=F) (by simpa using R);refine T.weak λS w b=>⟨?_,?_⟩
  exact YW (fr:=⟨we,Se,F,G⟩) (cx:=⟨0,[],[]⟩) (show zB S (GS P vs' env ⟨we,Se,F,G⟩ ⟨0,[],[]⟩ σ') w from b) t 0 _ Q;exact zB.right b;cases h
 cases q with
 |n=>exact⟨.inl O,hl,i k⟩
 |r=>exact⟨.inr O,hl,i k⟩
 |x j=>cases k
 |p q=>cases k
 refine⟨⟨λ_ d=>wS d H1,λ_ d=>wS d H1,λe d p hp=> ?_,λ_ d=>wS d H1⟩,λ_=>Z0,?_⟩;rw[RB e d]at hp;cases hp
 show St we Se ([]++([]++F)) _ w;exact ht.weak λS w b=>zB.append (zbF hd (λj v U=>CC U)<|zB.left b)<|zB.right b;cases h
def zhX{α:Type}{e:zT α}{E E1:wT}{u:wN}{d:N (N α)}{ix:N K}{S:K->Prop}(h:(AE e E E1 u d ix).p S w):∀a k c,yO u=.slice a k c->a.isSome=wL->k=X ix:=by
 rcases dM (Mo h).2.1 with⟨hv,_⟩|⟨b,cap,hv,_⟩
 simp_all;simp_all
def zjs{cx σ:Sg}{t i:K}{d:Dv}(h:get ⟨0,[],[]⟩ σ t i=Z d):get cx σ t i=Z d:=by unfold get at h⊢;split at h;exact h;cases h
def zmT(U:P.follows .mixedOrders=wL)(V:yX P cf.tt)(Y:kZ P cf.tt)(hC:∀s∈cf.cs,yY P s)(hX:AF P cf){s:CY}{fn:WF}
 (hf:P.funcs[s.f]? =Z fn) (hb:sG P s.f=wL) (hM:∀pn b ix r a p lo n z,s.M b ix r a p lo n=Z z->zm8 cf fn s.t s.E s.E1 pn b ix r a p lo n=Z z):Td P s:=by
 refine⟨hb,λb ix r a p lo n z hz u hr hv hA hl hD hF we Se F G w hn=> ?_⟩;have h:=hM hv b ix r a p lo n z hz;unfold zm8 at h;split at h;rename_i c hc hG;have⟨m,h⟩:=yf h;rw[xad]at m;have hi:∀a k c,yO u=.slice a k c->a.isSome=wL->k=X ix:=wE hn (i:=0) O λS hp=>zhX hp;refine UX (args:=[hr,.int .i64 a,.int .i64 p,hv]) hf hc m.2 λrest=> ?_;refine Ye (fr:=⟨we,Se,F,G⟩) (N:=Nd.of fn.ntmps) U V Y hC hX c m.1 O (.inl O) h (λq σ' B Ds env w _ D=> ?_) ?_;have⟨ht,D⟩:=Z7 D
 have y:zjw s.t s.E s.E1 ix lo n σ'=Z z->∀a:V0,zW a=env->
  ∃v,(WT fn a.tmps).run P (wY Ds w)=.ok v (wY Ds w)/\∃v' Q,xeu v=.returned v'/\yO Q=yO u/\St we Se (AE s.t.rep s.E s.E1 Q z ix::F) G (wY Ds w):=λh a ha=>by
  unfold zjw at h;split at h;rename_i o H n' hg;split at h;rename_i t' E' F' A g m;have⟨J,h1⟩:=yf h;rw[xad]at J;have hH:=zY J.1;have hI:=zY J.2;subst hH hI;have⟨e,C⟩:=yr h1;cases e;obtain⟨⟨rfl,rfl,rfl⟩,K⟩:=ZO C;cases K;have⟨hB,vs',hd⟩:=D;have⟨S0,_,R⟩:=hd.ex;have hw:env 3=hv:=(zB.left<|zB.right R).1;have T:O6 (yO<|vs' o) H n' (env 3):=YW R 3 0 _<|zjs hg;rw[hw]at T;have C:St we Se (AE s.t.rep s.E s.E1 (vs' o) A g::OS vs' ⟨we,Se,F,G⟩ ⟨0,[(3,0,.pin hv)],[]⟩ (yF σ'.ob o)) (GS P vs' env ⟨we,Se,F,G⟩ ⟨0,[(3,0,.pin hv)],[]⟩ σ') (wY Ds w):=qM m hd;have hj:∀a k c,yO (vs' o)=.slice a k c->a.isSome=wL->k=X g:=wE C (i:=0) O λS hp=>zhX hp;refine⟨_,uU (rs:=[]) (vs:=[]) (by rw[<-hG,xcy]) wR,_,vs' o,O,T.same hl hj hi,?_⟩;have K:St we Se ([AE s.t.rep s.E s.E1 (vs' o) A g]++(MS vs' (yF σ'.ob o)++F)) (GS P vs' env ⟨we,Se,F,G⟩ ⟨0,[(3,0,.pin hv)],[]⟩ σ') (wY Ds w):=C;exact(St.dropM K).weak λS w l=>zB.right<|zB.right l
  cases h
  cases h
 cases q with
 |n=>exact⟨.inl O,ht,y B⟩
 |r=>exact⟨.inr O,ht,y B⟩
 |x j=>cases B
 |p q=>cases B
 refine⟨⟨λe d=> ?_,λ_ d=>wS d H1,λe d q L=> ?_,λe d q L=> ?_⟩,λ_=>u,?_⟩;obtain rfl:=xac.1 d;exact xdm;simp only[xah,H1,i7]at d;obtain rfl|rfl|rfl|rfl:=d<;>cases L<;>exact xdm
 obtain rfl:=xac.1 d;cases L
 refine hn.weak λS w l=>⟨hA,wQ hD,wQ hF,hl,O,l⟩;cases h
end
end
section
def zfl{ι:Type _}{R:Type}(S:ι->Tg×Sg)(f:ι->V R)(a:∀i j,S i=S j->f i=f j):∃K:Tg->Sg->V R,(∀i,K (S i).1 (S i).2=f i)/\∀t σ r,K t σ=Z r->∃i,S i=(t,σ)/\f i=Z r:=by
 classical
 refine⟨λt σ=>if h:∃i,S i=(t,σ)then f h.choose else wF,λi=> ?_,λt σ r h=> ?_⟩;have h:∃j,S j=((S i).1,(S i).2):=⟨i,O⟩;grind;by_cases h1:∃i,S i=(t,σ);grind;simp_all
def chS(E:wT){X Y:Type}(b:X->wN->MF)(c:Y->wN->MF)(g:N J->X->V (N J×(X⊕Y)))(n a:J)(x:X)(xs:N J):Sg:=
 ⟨2,[(4,0,.ow 1),(0,0,.yd 0),(1,0,.q .i n),(2,0,.q .i a)],[(1,.own .i E xs),(0,.hid .i E X Y b c g x)]⟩
section
variable{P:jP}{fr:Fr}{σ:Sg}{env:y6}{w:wP}{E:wT}{X Y:Type}{mX:X->wN->MF}{mY:Y->wN->MF}{g:xS wn->X->ww (xS wn×(X⊕Y))}{n all:wn}{x:X}{y:Y}{xs:xS wn}{o p:wr}
theorem zlW(c:get ⟨0,[],[]⟩ σ 4 0=Z (.ow p))(h0:get ⟨0,[],[]⟩ σ 0 0=Z (.yd o))(h1:get ⟨0,[],[]⟩ σ 1 0=Z (.q .i n))(d:get ⟨0,[],[]⟩ σ 2 0=Z (.q .i all))(f:xA σ.ob o=Z (.hid .i E X Y mX mY g x))(hp:xA σ.ob p=Z (.own .i E xs))
 (hc:xaf o p=I) (h:uD P fr ⟨0,[],[]⟩ σ env w):uD P fr ⟨0,[],[]⟩ (chS E mX mY g n all x xs) env w:=by
 have⟨s,vs,hd⟩:=h;have j:=im hc f hp hd;refine⟨⟨λe a=> ?_,λ_ a=>wS a H1,λe a q l=> ?_,λ_ a=>wS a H1⟩,λk=>if k=0 then vs o else vs p,?_⟩;simp only[chS,xah,H1,i7]at a⊢;grind;simp only[chS,xah,H1,i7]at a⊢;obtain rfl|rfl|rfl|rfl:=a<;>cases l<;>simp
 have m:St fr.we fr.Se ([Ki vs (o,.hid .i E X Y mX mY g x),Ki vs (p,.own .i E xs)]++(MS vs (yF (yF σ.ob o) p)++fr.F)) (GS P vs env fr ⟨0,[],[]⟩ σ) w:=j;have r:St fr.we fr.Se ([Ki vs (p,.own .i E xs),Ki vs (o,.hid .i E X Y mX mY g x)]++fr.F) (GS P vs env fr ⟨0,[],[]⟩ σ) w:=(St.dropM m).perm<|xdT ..;refine r.weak λS w b=>⟨?_,?_,?_,?_,?_⟩;exact YW b 4 0 _ c;exact YW b 0 0 _ h0;exact YW b 1 0 _ h1;exact YW b 2 0 _ d;exact zB.right<|zB.right b
def zmt{t:Ty}{g:N t.D->X->V (N t.D×(X⊕Y))}(a:xA σ.ob o=Z (.hid t E X Y mX mY g x))(h:uD P fr ⟨0,[],[]⟩ σ env w):∃b,St fr.we fr.Se (mX x b::fr.F) fr.G w:=by have⟨f,vs,hc⟩:=h;have⟨_,c⟩:=St.unpr<|St.grp.1<|qM a hc;have d:=c;exact⟨_,(St.dropM d).weak λS w e=>zB.right<|zB.right e⟩
def zmM(a:xA σ.ob o=Z (.hiy Y mY y))(h:uD P fr ⟨0,[],[]⟩ σ env w):∃b,St fr.we fr.Se (mY y b::fr.F) fr.G w:=by have⟨f,vs,hc⟩:=h;have c:=qM a hc;have d:St fr.we fr.Se ([mY y<|(xT<|vs o).headD Z0]++(MS vs (yF σ.ob o)++fr.F)) (GS P vs env fr ⟨0,[],[]⟩ σ) w:=c;exact⟨_,(St.dropM d).weak λS w e=>zB.right<|zB.right e⟩
end
end
section
section
variable{P:jP}
def zeV{U:Type}{f:Z2}{args:ut wN}{Γ:N FF}{b:U->wN}{a:U->N FF}{ok:U->Prop}(h:Fn P f args Γ b a ok):SP P f args [] Γ b (λ_=>[]) a ok:=by rintro we Se F G w ⟨h1,l,n,S,o,d,p,g,j⟩;refine(h w S d<|zB.left j).mono ?_;rintro e w' ⟨u,e1,q,c,r⟩;exact⟨u,e1,q,h1.trans c,l,n,S,o,λk s=>d k<|xal c.size s,p,yS.keep c.to (λm t i hi=>c.block i (yS.lt g m t i hi) wR) g,zB.append r<|zB.keep c.to<|zB.right j⟩
def SP.to{U V:Type}{f:Z2}{args:ut wN}{ms:N MF}{Γ:N FF}{i:U->wN}{own:U->N MF}{b:U->N FF}{ok:U->Prop}{c:V->wN}{d:V->N MF}{a:V->N FF}{j:V->Prop}
 (h:SP P f args ms Γ i own b ok) (g:U->V) (h1:∀u,i u=c (g u)) (m:∀u,own u=d (g u)) (n:∀u,ok u->j (g u)) (o:∀u,ok u->∀S w,zB S (b u) w->zB S (a<|g u) w):SP P f args ms Γ c d a j:=by
 intro we Se F G w hc;refine(h we Se F G w hc).mono ?_;rintro e w' ⟨u,e1,k,p⟩;exact⟨g u,by rw[e1,h1],n u k,by rw[<-m];exact p.weak λS w l=>zB.append (o u k S w<|zB.left l)<|zB.right l⟩
def zoT{f:Z2}{s t:Ty}{M:s.D->V t.D}(a:sG P f=wL)(h:∀x r v,M x=Z r->Fn P f [v].toArray [fV s.rep x v] (λu:wN=>u) (λu=>[fV t.rep r u]) (λ_=>Xs)):yY P ⟨f,[.d s],[.d t],λx=>M x.1,0⟩:=by
 refine⟨a,λx r b vs hl=> ?_⟩
 match vs,hl with
 |[v],_=>exact(zeV<|h x.1 r v b).to (λu=>[u]) (λ_=>O) (λ_=>O) (λ_ _=>O) λu _ S w c=>c
def zob{f:Z2}{M:K->V J}(c:sG P f=wL)(h:∀x r,x<18446744073709551616->M x=Z r->Fn P f [.int .u64 (x:J)].toArray [] (λ_:Z3=> .int .i64 r) (λ_=>[]) (λ_=>XB r)):yY P ⟨f,[.d .u],[.d .i],λx=>M x.1,0⟩:=by
 refine⟨c,λx r e vs hl=> ?_⟩
 match vs,hl with
 |[v],_=>
  intro we Se F G w hc;have⟨S0,_,a⟩:=hc.ex;have⟨hv,g⟩:=zez (show(fV eU x.1 v).p S0 w from a.1);have:=zeV<|h x.1 r g e;rw[<-hv]at this;have j:SP P f [v].toArray [] [] uK (λus=>jR [RM.d .i] r us) (λus=>jK [RM.d .i] r us) (λus=>X us=1):=this.to (λ_=>[.int .i64 r]) (λ_=>O) (λ_=>O) (λ_ _=>O) λu k S w b=>⟨wQ k,wR⟩;exact j we Se F G w<|hc.weak λS w b=>b.2
end
end
section
def HOK(P:jP)(f:Z2)(T:wT):Prop:=sG P f=wL/\
 (∀(v:wN) we Se F G w,St we Se F G w->CallsDIn xcS 0 P f #[v] .returning w λe u w'=>(∃r,e=.returned r)/\u=.returning/\St we Se F G w')/\
 ∀(v:wN) (E:wT) (z x:J) we Se F G w,XB x->St we Se (mP (Ty.i).rep.c E v z::F) G w->
  CallsDIn xcS 0 P f #[v] (.panicking<|pE (T,x)) w λe u w'=>(∃r,e=.returned r)/\settle u=.returning/\St we Se (mP (Ty.i).rep.c E v x::F) G w'
def Tv(cf:Cf)(fn:WF)(cod:N RM)(σ:Sg):V (UK cod):=Bf cf (Jb σ fn.results.toList cod) fn.results.toList cod λy _=>Z y
def zpJ(cf:Cf)(fn:WF)(cod:N RM)(t:Z4)(e:J)(σ:Sg):V (UK cod):=match get ⟨0,[],[]⟩ σ t 0 with
 |some (.vs o _)=>(match xA σ.ob o with
  |some (.var .i E _)=>Tv cf fn cod ⟨σ.nx,σ.rg,km σ.ob o (.var .i E e)⟩
  |_=>wF)
 |_=>wF
def znt(cf:Cf)(fn:WF)(cod:N RM)(c:Z9)(t:Z4)(T:wT)(σ:Sg):V (UK cod):=match get ⟨0,[],[]⟩ σ t 0 with
 |some (.vs o s)=>den cf c ⟨0,[(t,0,.vs o s)],[]⟩ σ λtg σ=>(match tg with
  |.r=>Tv cf fn cod σ
  |.n=>Tv cf fn cod σ
  |.p q=>ck (q.1=T)<|ck (XB q.2)<|zpJ cf fn cod t q.2 σ
  |_=>wF)
 |_=>wF
def znB(cf:Cf)(fn:WF)(dom:N AM)(cod:N RM)(hd:Z2)(T:wT)(x:UU dom):V (UK cod):=match fn.body with
 |some (.seq c1 (.seq (.region _ a I) c2))=>(match a.toList with
  |[⟨wF,.defer ⟨.value (.func f),b,_⟩,_,_,_,wF⟩]=>(match b.toList with
   |[.tmp t]=>jt (E f hd && (NU fn.ntmps c1 && (NU fn.ntmps c2 && xfu (X dom) fn.ntmps)))<|
    let y:=ZS dom x 0
    den cf c1 ⟨0,[],[]⟩ ⟨X dom,y.1,y.2⟩ λtg σ=>(match tg with
     |.n=>znt cf fn cod c2 t T σ
     |_=>wF)
   |_=>wF)
  |_=>wF)
 |_=>wF
section
variable{P:jP}{cf:Cf}{fr:Fr}{cx σ:Sg}{env:y6}{w:wP}
def znW(d:yX P cf.tt){fn:WF}{cod:N RM}{r:UK cod}{we:wP}{Se:K->Prop}{F:N MF}{G:N FF}(h:Tv cf fn cod σ=Z r)(e:uD P ⟨we,Se,F,G⟩ ⟨0,[],[]⟩ σ env w)(a:V0)(f:zW a=env):
 ∃v,(WT fn a.tmps).run P w=.ok v w/\∃u:N wN,xeu v=.returned (uK u)/\X u=X cod/\St we Se (jR cod r u++F) (jK cod r u++G) w:=by
 unfold Tv at h;have hc:=Vm fn.results.toList cod e;generalize Jb σ fn.results.toList cod=c at h hc;have⟨k,vs,hd⟩:=hc;have⟨y,os,e1,g⟩:=Da d h;cases e1;have⟨us,h1,i,j⟩:=g vs ⟨we,Se,F,G⟩ env _ _ (λS w b t=>YW b t) hd;refine⟨_,uU (rs:=fn.results.toList) (by rw[xcy])<|f▸i,us,O,h1,?_⟩;exact(St.dropM (B:=MS vs<|w8 c.ob os) j).weak λS w b=>zB.append (zB.left b)<|zB.right<|zB.right b
def Pj{rg:N (K×K×Dv)}(h:uD P fr ⟨0,rg,[]⟩ σ env w):uD P fr ⟨0,[],[]⟩ σ env w:=by have⟨a,vs,hc⟩:=h;exact⟨⟨a.o1,λ_ h=>wS h H1,a.r1,λ_ h=>wS h H1⟩,vs,hc.weak λS w b=>zB.append (zB.left b)<|zB.append wR<|zB.right<|zB.right b⟩
def zeX{t:K}{dv:Dv}(d:get ⟨0,[],[]⟩ σ t 0=Z dv)(h:uD P fr ⟨0,[],[]⟩ σ env w):uD P fr ⟨0,[(t,0,dv)],[]⟩ σ env w:=by
 have⟨a,vs,hc⟩:=h;have c:(t,0,dv)∈σ.rg:=by
  obtain h|h:=B3 d
  exact h;exact wS h H1
 refine⟨⟨a.o1,λ_ h=>wS h H1,a.r1,λe f=>by rw[xac.1 f];exact a.r1 _ c⟩,vs,hc.weak λS w b=>zB.append (zB.left b)<|zB.append ⟨J8 (zB.left b) c,wR⟩<|zB.right<|zB.right b⟩
def ax{F:lI}{n:K}{fn:WF}{tmps:ut wN}{u:FrameMode}{ds:N lm}{Q:dL->wP->Prop}(a:u≠ .run):∀{Ds:N K}{w:wP},dw Ds w->WN F n P fn tmps Q ds u (wY Ds w)->WN F n P fn tmps Q (Ds.map Ri++ds) u w
 |[],w,_,h=>h
 |D::Ds,w,b,h=>⟨a,.inl ⟨D,_,O,aP b.1,ax a b.2 h⟩⟩
def GY{fn:WF}{tmps:ut wN}{u:FrameMode}{ds:N lm}{f:Z2}{v:wN}{Q:dL->wP->Prop}(b:sG P f=wL)(c:u≠ .run)
 (h:CallsDIn xcS 0 P f #[v] u w λe a w'=>(∃r,e=.returned r)/\WN xcS 0 P fn tmps Q ds (settle a) w'):WN xcS 0 P fn tmps Q ({target:=.fn (.func f) #[],args:= #[v]}::ds) u w:=by
 refine⟨c,.inr ⟨λe=>by simp[xcS]at e,_,_,f,#[v],O,by simp[WP,vY b],λ_ _=>wR,CallsDIn.mono h ?_⟩⟩;rintro e a w' ⟨⟨r,rfl⟩,h⟩;exact h
def zoy(hm:P.follows .mixedOrders=wL)(K:yX P cf.tt)(hL:kZ P cf.tt)(hC:∀s∈cf.cs,yY P s)(hX:AF P cf){s:XW}{fn:WF}
 (hf:P.funcs[s.f]? =Z fn) (hb:sG P s.f=wL) (z:s.bk=0) {hd:Z2}{T:wT} (D:HOK P hd T) (hM:∀x r,s.M x=Z r->znB cf fn s.dom s.cod hd T x=Z r):yY P s:=by
 refine⟨hb,λx r h vs hE=> ?_⟩;rw[z];show SP P s.f vs.toArray (ki s.dom x vs) (jy P s.dom x vs) uK (λus=>jR s.cod r us) (λus=>jK s.cod r us) (λus=>X us=X s.cod);have h:=hM x r h;unfold znB at h;split at h;rename_i c1 id y c2 hc;split at h;rename_i f g ts ty pos aft h0;split at h;rename_i t h3;have⟨ho,hz⟩:=yf h;clear h;simp only[xad]at ho;have⟨hJ,hK,hN,hn⟩:=ho;obtain rfl:=zY hJ;intro we Se F G w hO;refine callsIn_wide.1<|U8 (n:=0) hf hc wR ?_;have hn:=xbH hn;have hP:JV (zW ⟨vs.toArray++xdi (fn.ntmps-vs.toArray.size) Z0,[]⟩) ((vs.zipIdx 0).map λx=>(x.2,x.1)):=by refine JJ vs 0 _ λj=> ?_;rw[bO];simp[xbv,UV]
 have e0:∀j v,vs[j]? =Z v->vs.getD (0+j) Z0=v:=λj v E=>by rw[xaJ,UV,E];rfl
 have hA:=Ye (fr:=⟨we,Se,F,G⟩) (N:=Nd.of fn.ntmps) (Ds:=[]) (env:=L ((vs.zipIdx 0).map λx=>(x.2,x.1))<|zW ⟨vs.toArray++xdi (fn.ntmps-vs.toArray.size) Z0,[]⟩) (w:=w) hm K hL hC hX c1 hK O (.inl O) hz
  (Q:=λe Ds env w=>e=.normal/\∃σ,znt cf fn s.cod c2 t T σ=Z r/\uD P (Fr.wd ⟨we,Se,F,G⟩ Ds) ⟨0,[],[]⟩ σ env w)
  (λt σ' z Ds env w _ A=>by
   cases t with
   |n=>exact⟨O,σ',z,A⟩
   |x j=>cases z
   |r=>cases z
   |p q=>cases z) (by
   refine⟨⟨λe c=> ?_,λ_ c=>wS c H1,λe c p hp=> ?_,λ_ c=>wS c H1⟩,λo=>vs.getD o Z0,?_⟩;have:=Et e c;simpa using this;have:=oe e c p hp;simpa using this;have e1:MS (λo=>vs.getD o Z0) (ZS s.dom x 0).2=ki s.dom x vs:=EF hE e0;show St we Se (MS _ (ZS s.dom x 0).2++([]++F)) _ w;rw[e1];exact hO.weak λS w i=>zB.append (Cq hE (λj v E=>⟨e0 j v E,CC E⟩)<|zB.left i)<|zB.right i)
 refine fN<|Wn (hA _ (by simp[Nd.of];lia) O (Q2 hP).symm) ?_;rintro e l w1 ⟨q1,d,q2,rfl,a0,H,hQ⟩;show(Code.seq (.region id y I) c2).wpIn xcS 0 P _ l w1;unfold znt at H;split at H;rename_i o st hg;have hS:(jp (ev<|zW l) ⟨wF,.defer ⟨.value (.func f),g,ts⟩,ty,pos,aft,wF⟩).run P w1=.ok (.defer {target:=.fn (.func f) #[],args:= #[zW l t]}) w1:=by
  obtain rfl:g= #[.tmp t]:=by cases g;simp_all
  simp[jp,Ws,xcW,ev]
 have hG:y=[⟨wF,.defer ⟨.value (.func f),g,ts⟩,ty,pos,aft,wF⟩].toArray:=by cases y;simp_all
 refine fN ?_;rw[hG];refine bV ?_;unfold WL;rw[iq<|by rfl];unfold Oper.wpIn;refine⟨λ_ _=>wR,?_⟩;rw[Km];rw[show xcS.round=wF from O,Oper.semAt_none,hS];rw[Oper.uponIn_defer];refine gC ?_
 have m:=Ye (fr:=Fr.wd ⟨we,Se,F,G⟩ d) (N:=⟨fn.ntmps,{target:=.fn (.func f) #[],args:= #[zW l t]}::d.map Ri,wF⟩) (Ds:=[]) (env:=zW l) (w:=w1) hm K hL hC hX c2 hN O (.inl O) H
  (Q:=λe Ds env w=>∀a:V0,zW a=env->a.defers=Ds.map Ri++{target:=.fn (.func f) #[],args:= #[zW l t]}::d.map Ri->bodyPostM xcS 0 P fn (λe w'=>∃u:xS wN,e=.returned (uK u)/\X u=X s.cod/\St we Se (jR s.cod r u++F) (jK s.cod r u++G) w') e a w)
  (λtg R hi B b w2 hU J=> ?_) (zeX hg hQ)
 refine Wn (m _ q1 (by show _::_=_;rw[q2];simp[Nd.of]) O) ?_;rintro e a' w' ⟨p1,B,p2,p3⟩;exact p3 a' O p2
 have⟨hF,J⟩:=Z7 J;have hV:b t=zW l t:=hU _<|xac.2 O;have C:∀{σ:Sg}{w':wP}{a:V0},Tv cf fn s.cod σ=Z r->uD P (Fr.wd ⟨we,Se,F,G⟩ d) ⟨0,[],[]⟩ σ b w'->zW a=b->WN xcS 0 P fn a.tmps (λe w'=>∃u:xS wN,e=.returned (uK u)/\X u=X s.cod/\St we Se (jR s.cod r u++F) (jK s.cod r u++G) w') (d.map Ri) .returning w':=λ{σ w' a} c A k=>by
  have⟨hI,A⟩:=Z7 A;exact YP hI<|znW K c A a k
 have yx:Tv cf fn s.cod R=Z r->∀a:V0,zW a=b->a.defers=B.map Ri++{target:=.fn (.func f) #[],args:= #[zW l t]}::d.map Ri->WN xcS 0 P fn a.tmps (λe w'=>∃u:xS wN,e=.returned (uK u)/\X u=X s.cod/\St we Se (jR s.cod r u++F) (jK s.cod r u++G) w') a.defers .returning w2:=λc a k hl=>by
  rw[hl];refine ax mK hF<|GY D.1 mK ?_;have⟨m,vs2,ht⟩:=Pj J;refine CallsDIn.mono (D.2.1 _ _ _ _ _ _ ht) ?_;rintro e u w' ⟨U,rfl,V⟩;exact⟨U,C c ⟨m,vs2,V⟩ k⟩
 cases tg with
 |n=>exact λa k hl=>yx hi a k hl
 |r=>exact λa k hl=>yx hi a k hl
 |x j=>cases hi
 |p q=>
  have⟨hW,hi⟩:=ZO hi;have⟨hY,hi⟩:=ZO hi;unfold zpJ at hi;split at hi;rename_i o2 s2 hZ;split at hi;rename_i E2 z2 Y;intro a k hl;show WN xcS 0 P fn a.tmps _ a.defers (.panicking<|pE q) w2;rw[hl];refine ax mK hF<|GY D.1 mK ?_;have⟨m,vs2,ht⟩:=Pj J;have⟨S0,_,i⟩:=ht.ex;have hv:b t=vs2 o2:=(YW i t 0 _ hZ).1;have hq:pE q=pE (T,q.2):=by rw[<-hW]
  rw[hq,<-hV,hv];refine CallsDIn.mono (D.2.2 _ E2 z2 q.2 _ _ _ _ _ hY<|qM Y ht) ?_;rintro e u w' ⟨U,hu,V⟩;refine⟨U,?_⟩;rw[hu];refine C hi ⟨⟨λe c=> ?_,m.o2,m.r1,m.r2⟩,vs2,?_⟩ k;have⟨e',h1,h2⟩:=VJ Y e c;rw[<-h2];exact m.o1 e' h1;exact ru Y V;cases hi
  cases hi
 cases H
 cases h
 cases h
 cases h
end
end
section
set_option maxRecDepth 100000
variable{cs:xS XW}{fu:wr}{s:XW}{ps:xS Ji}
def tt:N (K×TI):=[(2,⟨.i,.int .i64,8⟩),(3,⟨.i,.int .i64,8⟩),(4,⟨.b,.bool,1⟩),(5,⟨.ch,.int .u8,1⟩),(6,⟨.ch,.int .u8,1⟩),(7,⟨(.p .i (.p .i (.p .b .ch))),.st 4,24⟩),(8,⟨(.p .i (.p .i (.p .b .ch))),.st 4,24⟩),(9,⟨.tx,.str,16⟩),(10,⟨.tx,.str,16⟩),(11,⟨.tx,.str,16⟩),(12,⟨.u,.int .u64,8⟩),(13,⟨(.p .tx .u),.st 2,24⟩),(14,⟨(.p .tx .u),.st 2,24⟩),(22,⟨(.l (.p .b (.l .u))),.sl 44,24⟩),(23,⟨(.l (.l (.p (.p .b (.l .u)) (.l .u)))),.sl 41,24⟩),(25,⟨(.po (.w1 (.p (.l (.p .b (.l .u))) (.l (.p (.p .b (.l .u)) (.l .u)))))),.pt 104,8⟩),(29,⟨.i,.int .i64,8⟩),(41,⟨(.l (.p (.p .b (.l .u)) (.l .u))),.sl 46,24⟩),(42,⟨(.l .u),.sl 73,24⟩),(43,⟨(.p .b (.l .u)),.st 2,32⟩),(44,⟨(.p .b (.l .u)),.st 2,32⟩),(45,⟨(.p (.p .b (.l .u)) (.l .u)),.st 2,56⟩),(46,⟨(.p (.p .b (.l .u)) (.l .u)),.st 2,56⟩),(57,⟨(.l (.p (.l (.p .b (.l .u))) .i)),.sl 61,24⟩),(60,⟨(.p (.l (.p .b (.l .u))) .i),.st 2,32⟩),(61,⟨(.p (.l (.p .b (.l .u))) .i),.st 2,32⟩),(73,⟨.u,.int .u64,8⟩),(76,⟨(.l (.l (.l (.p (.p .b (.l .u)) (.l .u))))),.sl 23,24⟩),(78,⟨(.po .i),.pt 29,8⟩),(80,⟨(.w1 (.po (.w1 (.p (.l (.p .b (.l .u))) (.l (.p (.p .b (.l .u)) (.l .u))))))),.st 0,8⟩),(81,⟨(.w1 (.po (.w1 (.p (.l (.p .b (.l .u))) (.l (.p (.p .b (.l .u)) (.l .u))))))),.st 0,8⟩),(100,⟨(.p (.l (.p .b (.l .u))) (.l (.p (.p .b (.l .u)) (.l .u)))),.st 2,48⟩),(101,⟨(.p (.l (.p .b (.l .u))) (.l (.p (.p .b (.l .u)) (.l .u)))),.st 2,48⟩),(103,⟨(.w1 (.p (.l (.p .b (.l .u))) (.l (.p (.p .b (.l .u)) (.l .u))))),.st 0,48⟩),(104,⟨(.w1 (.p (.l (.p .b (.l .u))) (.l (.p (.p .b (.l .u)) (.l .u))))),.st 0,48⟩),(105,⟨(.l (.l (.p .b (.l .u)))),.sl 22,24⟩),(125,⟨(.l .i),.sl 3,24⟩),(127,⟨(.w1 .i),.st 0,8⟩),(128,⟨(.w1 .i),.st 0,8⟩),(150,⟨(.po (.p (.l (.p .b (.l .u))) (.p (.l (.p .b (.l .u))) (.p (.p .b (.l .u)) (.p (.p .b (.l .u)) .b))))),.pt 152,8⟩),(151,⟨(.p (.l (.p .b (.l .u))) (.p (.l (.p .b (.l .u))) (.p (.p .b (.l .u)) (.p (.p .b (.l .u)) .b)))),.st 5,120⟩),(152,⟨(.p (.l (.p .b (.l .u))) (.p (.l (.p .b (.l .u))) (.p (.p .b (.l .u)) (.p (.p .b (.l .u)) .b)))),.st 5,120⟩),(159,⟨(.l .tx),.sl 9,24⟩),(172,⟨(.l (.l .i)),.sl 125,24⟩),(190,⟨(.l .ch),.sl 5,24⟩),(218,⟨.u,.int .u64,8⟩),(221,⟨(.po .ch),.pt 5,8⟩),(272,⟨(.a 4 (.l (.p .b (.l .u)))),.ar 4 22,96⟩),(273,⟨(.a 4 (.l (.p .b (.l .u)))),.ar 4 22,96⟩),(278,⟨.i,.int .i64,8⟩),(300,⟨(.a 3 (.l .i)),.ar 3 125,72⟩),(301,⟨(.a 3 (.l .i)),.ar 3 125,72⟩),(308,⟨.u,.int .u64,8⟩),(312,⟨(.po .i),.pt 3,8⟩),(324,⟨(.p (.l (.p .b (.l .u))) (.l (.l (.p .b (.l .u))))),.st 2,48⟩),(325,⟨(.p (.l (.p .b (.l .u))) (.l (.l (.p .b (.l .u))))),.st 2,48⟩),(328,⟨(.po (.p (.p (.l (.p .b (.l .u))) (.l (.l (.p .b (.l .u))))) (.l (.l (.p .b (.l .u)))))),.pt 330,8⟩),(329,⟨(.p (.p (.l (.p .b (.l .u))) (.l (.l (.p .b (.l .u))))) (.l (.l (.p .b (.l .u))))),.st 2,72⟩),(330,⟨(.p (.p (.l (.p .b (.l .u))) (.l (.l (.p .b (.l .u))))) (.l (.l (.p .b (.l .u))))),.st 2,72⟩),(334,⟨(.p (.p .b (.l .u)) (.p (.p .b (.l .u)) (.p .b (.l .u)))),.st 3,96⟩),(335,⟨(.p (.p .b (.l .u)) (.p (.p .b (.l .u)) (.p .b (.l .u)))),.st 3,96⟩),(337,⟨(.po .u),.pt 308,8⟩),(347,⟨(.po (.w1 .tx)),.pt 362,8⟩),(354,⟨.ch,.int .u8,1⟩),(355,⟨.ch,.int .u8,1⟩),(361,⟨(.w1 .tx),.st 0,16⟩),(362,⟨(.w1 .tx),.st 0,16⟩)]
def ex:N (K×v6):=[(180,wL),(226,I)]
def tA{t:wT}{a:TI}{tt:N (K×TI)}(b:Rh Tryz.prog t a)(k:yX Tryz.prog tt)(h1:tyB Tryz.prog t=Z (a.ty.rep.agg,a.ty.n,a.B,Z<|a.ty.rep.val<|zc a.ty):=by kernel_rfl)(c:(xda 0 a.B && xda 0 a.ty.n)=wL:=by kernel_rfl):yX Tryz.prog ((t,a)::tt):=yX.add h1 c b k
def Bo:yX Tryz.prog tt:=tA (id (by kernel_rfl:Tryz.prog.underlying 2=Z (.int .i64)))<|
 tA (id (by kernel_rfl:Tryz.prog.underlying 3=Z (.int .i64)))<|
 tA (id (by kernel_rfl:Tryz.prog.underlying 4=Z .bool))<|
 tA (id (by kernel_rfl:Tryz.prog.underlying 5=Z (.int .u8)))<|
 tA (id (by kernel_rfl:Tryz.prog.underlying 6=Z (.int .u8)))<|
 tA ⟨O,mS⟩<|
 tA ⟨O,mS⟩<|
 tA (id (by kernel_rfl:Tryz.prog.underlying 9=Z .string))<|
 tA (id (by kernel_rfl:Tryz.prog.underlying 10=Z .string))<|
 tA (id (by kernel_rfl:Tryz.prog.underlying 11=Z .string))<|
 tA (id (by kernel_rfl:Tryz.prog.underlying 12=Z (.int .u64)))<|
 tA ⟨O,mS⟩<|
 tA ⟨O,mS⟩<|
 tA ⟨mS,_,O⟩<|
 tA ⟨mS,_,O⟩<|
 tA (id (by kernel_rfl:Tryz.prog.underlying 25=Z (.pointer 104)))<|
 tA (id (by kernel_rfl:Tryz.prog.underlying 29=Z (.int .i64)))<|
 tA ⟨mS,_,O⟩<|
 tA ⟨mS,_,O⟩<|
 tA ⟨O,mS⟩<|
 tA ⟨O,mS⟩<|
 tA ⟨O,mS⟩<|
 tA ⟨O,mS⟩<|
 tA ⟨mS,_,O⟩<|
 tA ⟨O,mS⟩<|
 tA ⟨O,mS⟩<|
 tA (id (by kernel_rfl:Tryz.prog.underlying 73=Z (.int .u64)))<|
 tA ⟨mS,_,O⟩<|
 tA (id (by kernel_rfl:Tryz.prog.underlying 78=Z (.pointer 29)))<|
 tA ⟨O,mS⟩<|
 tA ⟨O,mS⟩<|
 tA ⟨O,mS⟩<|
 tA ⟨O,mS⟩<|
 tA ⟨O,mS⟩<|
 tA ⟨O,mS⟩<|
 tA ⟨mS,_,O⟩<|
 tA ⟨mS,_,O⟩<|
 tA ⟨O,mS⟩<|
 tA ⟨O,mS⟩<|
 tA (id (by kernel_rfl:Tryz.prog.underlying 150=Z (.pointer 152)))<|
 tA ⟨O,mS⟩<|
 tA ⟨O,mS⟩<|
 tA ⟨mS,_,O⟩<|
 tA ⟨mS,_,O⟩<|
 tA ⟨mS,_,O⟩<|
 tA (id (by kernel_rfl:Tryz.prog.underlying 218=Z (.int .u64)))<|
 tA (id (by kernel_rfl:Tryz.prog.underlying 221=Z (.pointer 5)))<|
 tA ⟨O,mS⟩<|
 tA ⟨O,mS⟩<|
 tA (id (by kernel_rfl:Tryz.prog.underlying 278=Z (.int .i64)))<|
 tA ⟨O,mS⟩<|
 tA ⟨O,mS⟩<|
 tA (id (by kernel_rfl:Tryz.prog.underlying 308=Z (.int .u64)))<|
 tA (id (by kernel_rfl:Tryz.prog.underlying 312=Z (.pointer 3)))<|
 tA ⟨O,mS⟩<|
 tA ⟨O,mS⟩<|
 tA (id (by kernel_rfl:Tryz.prog.underlying 328=Z (.pointer 330)))<|
 tA ⟨O,mS⟩<|
 tA ⟨O,mS⟩<|
 tA ⟨O,mS⟩<|
 tA ⟨O,mS⟩<|
 tA (id (by kernel_rfl:Tryz.prog.underlying 337=Z (.pointer 308)))<|
 tA (id (by kernel_rfl:Tryz.prog.underlying 347=Z (.pointer 362)))<|
 tA (id (by kernel_rfl:Tryz.prog.underlying 354=Z (.int .u8)))<|
 tA (id (by kernel_rfl:Tryz.prog.underlying 355=Z (.int .u8)))<|
 tA ⟨O,mS⟩<|
 tA ⟨O,mS⟩<|
 yX.nil
def CR:kZ Tryz.prog tt:=kZ.of mS
def Fj:nP Tryz.prog ex:=nP.add Tryz.func180 mS mS mS (λ_=>by kernel_rfl) (λh=>by cases h)<|
 nP.add Tryz.func226 mS mS mS (λh=>by cases h) (λ_=>by kernel_rfl)<|
 nP.nil
def Cp:Tryz.prog.follows .mixedOrders=wL:=mS
def sg(an:An){fn:WF}(a:Tryz.prog.funcs[s.f]? =Z fn)(b:∀s∈cs,yY Tryz.prog s)(c:sG Tryz.prog s.f=wL)(d:∀x,zaX ⟨tt,cs,an,fu,ex,[],[],[],[]⟩ fn s.dom s.cod x=s.M x)(e:s.bk=0:=by rfl):yY Tryz.prog s:=
 sgP Cp Bo CR Fj O an a b c e d
def sq(fu:K)(an:An){fn:WF}(a:Tryz.prog.funcs[s.f]? =Z fn)(b:∀s∈cs,yY Tryz.prog s)(c:sG Tryz.prog s.f=wL:=by kernel_rfl)(d:∀x,zaX ⟨tt,cs,an,fu,ex,[],[],[],[]⟩ fn s.dom s.cod x=s.M x:=by intro x;kernel_rfl)(e:s.bk=0:=by rfl):yY Tryz.prog s:=sg an a b c d e
abbrev q1(S:N (K×TF))(j:K)(T:N (K×TF)):Lp:=⟨⟨S,[]⟩,⟨[],[(.x j,⟨T,[]⟩)]⟩⟩
abbrev yv(s:XW):Prop:=yY Tryz.prog s
abbrev wx:An:=⟨[],[],[],[],[],[],[]⟩
abbrev yQ:Ty:=.l (.p .b (.l .u))
abbrev zp:Ty:=.p .b (.l .u)
abbrev tzQ:Ty:=.l (.l (.p .b (.l .u)))
abbrev zN:Ty:=.l .u
abbrev xh:Ty:=.l .i
def sgb(an:An){fn:WF}(a:Tryz.prog.funcs[s.f]? =Z fn)(b:∀s∈cs,yY Tryz.prog s)(c:sG Tryz.prog s.f=wL)(d:∀e x,zjz ⟨tt,cs,an,fu,ex,[],[],[],[]⟩ fn s.dom s.cod s.bk e x=s.M x):yY Tryz.prog s:=
 sgG Cp Bo CR Fj O an a b c d
def sgp(an:An){p:Ji}{fn:WF}(a:Tryz.prog.funcs[p.s.f]? =Z fn)(b:∀s∈cs,yY Tryz.prog s)(c:∀q∈ps,NW Tryz.prog q)(d:sG Tryz.prog p.s.f=wL)(e:∀x,zjh ⟨tt,cs,an,fu,ex,[],[],[],ps⟩ fn p.s.dom p.s.cod x=p.M x)(g:p.s.bk=0:=by rfl):NW Tryz.prog p:=
 zon (cf:=⟨tt,cs,an,fu,ex,[],[],[],ps⟩) Cp Bo CR b ⟨Fj,λ_ h=>wS h H1,λ_ h=>wS h H1,λ_ h=>wS h H1,O,c⟩ a d g λx r h=>(e x).trans h
def sgr(an:An){fn:WF}{hd:Z2}{T:wT}(a:HOK Tryz.prog hd T)(b:Tryz.prog.funcs[s.f]? =Z fn)(c:∀s∈cs,yY Tryz.prog s)(d:∀q∈ps,NW Tryz.prog q)(e:sG Tryz.prog s.f=wL)(g:∀x,znB ⟨tt,cs,an,fu,ex,[],[],[],ps⟩ fn s.dom s.cod hd T x=s.M x)(i:s.bk=0:=by rfl):yY Tryz.prog s:=
 zoy (cf:=⟨tt,cs,an,fu,ex,[],[],[],ps⟩) Cp Bo CR c ⟨Fj,λ_ h=>wS h H1,λ_ h=>wS h H1,λ_ h=>wS h H1,O,d⟩ b e i a λx r h=>(g x).trans h
def pN:∀p∈([]:N Ji),NW Tryz.prog p:=λ_ h=>wS h H1
theorem pC{s:Ji}{l:N Ji}(h:NW Tryz.prog s)(k:∀s∈l,NW Tryz.prog s):∀q∈s::l,NW Tryz.prog q:=by grind
end
section
set_option maxRecDepth 100000
section
variable(fu:wr)
def dC(fu:K)(b:N K)(d:N K):ol J (Z3⊕Z3):=λL a=>if a<(X b:J)then zF a (X b) λe=>B (b.getD e 0) λf=>zF a (X d) λg=>B (d.getD g 0) λh=>if(f:J)=(h:J)then zf (a+1) λi=>L i else Z (.inr ())else Z (.inl ())
def Xd(a:N K)(b:N K):V v6:=if(X a:J)=(X b:J)then Y (zg (dC fu a b) fu 0) λd=>match d with
 |.inl _=>Z wL
 |.inr _=>Z I else Z I
def QS(a:M)(b:M):V v6:=B (a.1==b.1) λd=>if d then Y (Xd fu a.2 b.2) λe=>Z e else Z I
def Q6(a:M×(N K))(b:M×(N K)):V v6:=Y (QS fu a.1 b.1) λd=>if d then Y (Xd fu a.2 b.2) λe=>Z e else Z I
def gA(b:N (M×(N K)))(d:N (M×(N K))):ol J (Z3⊕Z3):=λL a=>if a<(X b:J)then zF a (X b) λe=>B (b.getD e<|((I,[]),[])) λf=>zF a (X d) λg=>B (d.getD g<|((I,[]),[])) λh=>Y (Q6 fu f h) λi=>if !i then Z (.inr ())else zf (a+1) λj=>L j else Z (.inl ())
def QO(a:N (M×(N K)))(b:N (M×(N K))):V v6:=if(X a:J)=(X b:J)then Y (zg (gA fu a b) fu 0) λd=>match d with
 |.inl _=>Z wL
 |.inr _=>Z I else Z I
def gG(b:N (N<|M×(N K)))(d:N (N<|M×(N K))):ol J (Z3⊕Z3):=λL a=>if a<(X b:J)then zF a (X b) λe=>B (b.getD e []) λf=>zF a (X d) λg=>B (d.getD g []) λh=>Y (QO fu f h) λi=>if !i then Z (.inr ())else zf (a+1) λj=>L j else Z (.inl ())
def Je(a:N (N<|M×(N K)))(b:N (N<|M×(N K))):V v6:=if(X a:J)=(X b:J)then Y (zg (gG fu a b) fu 0) λd=>match d with
 |.inl _=>Z wL
 |.inr _=>Z I else Z I
def ym(a:N (N<|M×(N K)))(b:N (N<|M×(N K))):V v6:=Y (Je fu a b) λd=>Z d
def Vf(fu:K)(a:N K)(b:J):V K:=if b<(X a:J)then zF b (X a) λd=>B (a.getD d 0) λe=>Z e else Z (0:K)
def ek(b:J)(a:K)(f:N K)(g:N K):V (K×K):=Y (Vf fu f b) λd=>Y (Vf fu g b) λe=>ck (a<=1)<|B ((d+e+a)%18446744073709551616) λh=>B ((d+e+a)/18446744073709551616) λi=>Z (h,i)
def cK(fu:K)(e:J->K->V (K×K))(f:N K):ol (K×J×(N K)) (K×(N K)):=λL (d,a,b)=>if a<(X f:J)then Y (e a d) λ(g,h)=>zF a (X b) λi=>B (b.set i g) λt3=>zf (a+1) λj=>L (h,j,t3)else Z (d,b)
def qb(d:J)(e:J->K->V (K×K)):V ((N K)×K):=jA d λa=>ck (8*a<=281474976710656)<|B (Nm a 0) λb=>Y (zg (cK fu e b) fu<|((0:K),0,b)) λ(f,g)=>Z (g,f)
def FX(fu:K):ol (N K) (N K):=λL a=>if 0<(X a:J)then zf ((X a:J)-1) λd=>zF d (X a) λe=>B (a.getD e 0) λf=>if(f:J)=(((0:K):K):J)then zf ((X a:J)-1) λg=>jA g λb=>ck (b<=X a)<|B (a.take b) λh=>L h else Z a else Z a
def wX(a:N K):V (N K):=Y (zg (FX fu) fu a) λt3=>Z t3
def KG(fu:K):ol (N K) (N K):=λL a=>if 0<(X a:J)then zf ((X a:J)-1) λd=>zF d (X a) λe=>B (a.getD e 0) λf=>if(f:J)=(((0:K):K):J)then zf ((X a:J)-1) λg=>jA g λb=>ck (b<=X a)<|B (a.take b) λh=>L h else Z a else Z a
def xw(a:N K):V (N K):=Y (zg (KG fu) fu a) λt3=>Z t3
def Zw(a:N K)(b:N K):V (N K):=B (max (X a:J)<|(X b:J)) λf=>Y (qb fu f<|λc h=>ek fu c h a b) λ(d,e)=>ck ((X d+X ([e]))*8<=140737488355328)<|B (d++([e])) λg=>Y (xw fu g) λt3=>Z t3
def Yn(fu:K)(a:J):V v6:=if a=a then Z I else Z wL
def uE(a:J)(b:J):V J:=Y (Yn fu a) λe=>Y (Yn fu b) λd=>if e then if d then Z 0 else Z (-1:J)else if d then Z 1 else if a<b then Z (-1:J)else if b<a then Z 1 else Z 0
def kH(fu:K)(a:K):V v6:=if(a:J)=(a:J)then Z I else Z wL
def qU(a:K)(b:K):V J:=Y (kH fu a) λe=>Y (kH fu b) λd=>if e then if d then Z 0 else Z (-1:J)else if d then Z 1 else if(a:J)<(b:J)then Z (-1:J)else if(b:J)<(a:J)then Z 1 else Z 0
def fH(b:N K)(d:N K):ol J (Z3⊕J):=λL a=>if 0<=a then zF a (X b) λe=>B (b.getD e 0) λf=>zF a (X d) λg=>B (d.getD g 0) λh=>if(f:J)=(h:J)then zf (a-1) λi=>L i else zF a (X b) λj=>B (b.getD j 0) λk=>zF a (X d) λl=>B (d.getD l 0) λm=>Y (qU fu k m) λo=>Z (.inr o)else Z (.inl ())
def Jm(d:N K)(e:N K):V J:=Y (wX fu d) λa=>Y (wX fu e) λb=>if(X a:J)=(X b:J)then zf ((X a:J)-1) λf=>Y (zg (fH fu a b) fu f) λg=>match g with
 |.inl _=>Z 0
 |.inr h=>Z h else Y (uE fu (X a:J)<|(X b:J)) λi=>Z i
def wj(fu:K)(a:N K):V (N K):=ck (X a<=17592186044416)<|some a
def YE(a:N K):V (N K):=Y (wX fu a) λb=>Y (wj fu b) λd=>Z d
def gB(fu:K)(b:J)(a1:K)(a:N K)(d:J):V (K×K):=zF b (X a) λg=>B (a.getD g 0) λh=>ck (64≠0)<|B (xcB d 64) λe=>ck (0<=e)<|B (h*2^(min (e:J).toNat 64)%18446744073709551616) λi=>B (i|||a1) λj=>zF b (X a) λk=>B (a.getD k 0) λl=>B (l/2^(min ((1:K):J).toNat 64)) λm=>ck (64≠0)<|B (xcB d 64) λo=>zf (63-o) λf=>ck (0<=f)<|B (m/2^(min (f:J).toNat 64)) λp=>Z (j,p)
def YT(fu:K)(a:N K)(e:J):V (N K):=jA e λb=>ck (8*b<=281474976710656)<|B (Nm b 0) λd=>ck ((X d+X a)*8<=140737488355328)<|B (d++a) λf=>Z f
def X7(b:N K)(a:J):V ((N K)×J):=if a<0 then Z ([],1)else if 262144<a then Z ([],1)else Y (qb fu (X b:J)<|λc i=>gB fu c i b a) λ(d,e)=>ck ((X d+X ([e]))*8<=140737488355328)<|B (d++([e])) λf=>ck (64≠0)<|zf (xdx a 64) λg=>Y (YT fu f g) λt3=>Y (xw fu t3) λh=>Z<|(h,0)
def eY(d:J)(m:K)(a:N K)(b:J):V (K×K):=zF d (X a) λf=>B (a.getD f 0) λg=>ck (0<=b)<|B (g/2^(min (b:J).toNat 64)) λh=>zf (d+1) λi=>Y (Vf fu a i) λj=>B (j*2^(min ((1:K):J).toNat 64)%18446744073709551616) λk=>zf (63-b) λe=>ck (0<=e)<|B (k*2^(min (e:J).toNat 64)%18446744073709551616) λm4=>B (h|||m4) λl=>Z<|(l,(0:K))
def UF(a:N K)(f:J):V (N K):=B (max f 0) λb=>ck (64≠0)<|zf (xdx b 64) λg=>if(X a:J)<=g then Z []else ck (64≠0)<|zf (xdx b 64) λh=>jA h λd=>ck (d<=X a)<|B (a.drop d) λe=>ck (64≠0)<|B (xcB b 64) λi=>Y (qb fu (X e:J)<|λc l=>eY fu c l e i) λ(j,k)=>Y (xw fu j) λt3=>Z t3
def xV(fu:K)(a:K):V J:=Y ((if 4294967296<=(a:J)then B (a/2^(min (32:J).toNat 64)) λg=>Z (g,32)else Z (a,0):V (K×J))) λ(b,e)=>Y ((if 65536<=(b:J)then B (b/2^(min (16:J).toNat 64)) λh=>zf (e+16) λi=>Z (h,i)else Z (b,e):V (K×J))) λ(d,f)=>if 256<=(d:J)then B (d/2^(min (8:J).toNat 64)) λj=>zf (f+8) λk=>B (j%256) λl=>B (xfc l) λm=>zf (k+((m:J))) λo=>Z o else B (d%256) λp=>B (xfc p) λq=>zf (f+((q:J))) λr=>Z r
def xI(a:K):V J:=Y (xV fu a) λb=>zf (64-b) λd=>Z d
def jB(fu:K)(l:K)(m:K)(g:K):ol (K×K) K:=λL (a,h)=>if(((4294967296:K):K):J)<=(a:J)then B ((a+18446744073709551616-(1:K))%18446744073709551616) λb=>B ((h+l)%18446744073709551616) λd=>if(((4294967296:K):K):J)<=(d:J)then Z b else L (b,d)else B ((a*m)%18446744073709551616) λi=>B (((4294967296:K)*h)%18446744073709551616) λj=>B ((j+g)%18446744073709551616) λk=>if(k:J)<(i:J)then B ((a+18446744073709551616-(1:K))%18446744073709551616) λe=>B ((h+l)%18446744073709551616) λf=>if(((4294967296:K):K):J)<=(f:J)then Z e else L (e,f)else Z a
def jG(fu:K)(k:K)(l:K)(f:K):ol (K×K) K:=λL (g,a)=>if(((4294967296:K):K):J)<=(a:J)then B ((a+18446744073709551616-(1:K))%18446744073709551616) λb=>B ((g+k)%18446744073709551616) λm32=>if(((4294967296:K):K):J)<=(m32:J)then Z b else L (m32,b)else B ((a*l)%18446744073709551616) λh=>B (((4294967296:K)*g)%18446744073709551616) λi=>B ((i+f)%18446744073709551616) λj=>if(j:J)<(h:J)then B ((a+18446744073709551616-(1:K))%18446744073709551616) λd=>B ((g+k)%18446744073709551616) λe=>if(((4294967296:K):K):J)<=(e:J)then Z d else L (e,d)else Z a
def qZ(o:wr)(l:wr)(a:wr):V (wr×wr):=if(a:J)=(((0:wr):wr):J)then wF else if(a:J)<=(o:J)then wF else if(o:J)=(((0:wr):wr):J)then ck (a≠0)<|nm (l/a) λM=>ck (a≠0)<|nm (l%a) λN=>Z (M,N)else Y (xI fu a) λn=>nm (ET n) λf=>nm (a*2^(min (f:J).toNat 64)%18446744073709551616) λm=>nm (m/2^(min ((32:wr):J).toNat 64)) λb=>nm (m &&& (4294967295:wr)) λt=>nm (o*2^(min (f:J).toNat 64)%18446744073709551616) λP=>nm (((64:wr)+18446744073709551616-f)%18446744073709551616) λQ=>nm (l/2^(min (Q:J).toNat 64)) λm9=>nm (P|||m9) λd=>nm (l*2^(min (f:J).toNat 64)%18446744073709551616) λg=>nm (g/2^(min ((32:wr):J).toNat 64)) λh=>nm (g &&& (4294967295:wr)) λi=>ck (b≠0)<|nm (d/b) λj=>nm ((j*b)%18446744073709551616) λp=>nm ((d+18446744073709551616-p)%18446744073709551616) λq=>Y (zg (jB fu b t h) fu (j,q)) λc=>nm ((d*(4294967296:wr))%18446744073709551616) λr=>nm ((r+h)%18446744073709551616) λs=>nm ((c*m)%18446744073709551616) λu=>nm ((s+18446744073709551616-u)%18446744073709551616) λe=>ck (b≠0)<|nm (e/b) λk=>nm ((k*b)%18446744073709551616) λv=>nm ((e+18446744073709551616-v)%18446744073709551616) λw=>Y (zg (jG fu b t i) fu (w,k)) λK=>nm ((c*(4294967296:wr))%18446744073709551616) λy=>nm ((y+K)%18446744073709551616) λA=>nm ((e*(4294967296:wr))%18446744073709551616) λB=>nm ((B+i)%18446744073709551616) λC=>nm ((K*m)%18446744073709551616) λE=>nm ((C+18446744073709551616-E)%18446744073709551616) λG=>nm (G/2^(min (f:J).toNat 64)) λH=>Z (A,H)
def qX(fu:K)(a:K)(b:K):V (K×K):=B (a &&& (4294967295:K)) λl=>B (a/2^(min ((32:K):J).toNat 64)) λm=>B (b &&& (4294967295:K)) λo=>B (b/2^(min ((32:K):J).toNat 64)) λp=>B ((l*o)%18446744073709551616) λr=>B ((m*o)%18446744073709551616) λs=>B (r/2^(min ((32:K):J).toNat 64)) λu=>B ((s+u)%18446744073709551616) λq=>B (q &&& (4294967295:K)) λv=>B (q/2^(min ((32:K):J).toNat 64)) λd=>B ((l*p)%18446744073709551616) λe=>B ((v+e)%18446744073709551616) λf=>B ((m*p)%18446744073709551616) λg=>B ((g+d)%18446744073709551616) λh=>B (f/2^(min ((32:K):J).toNat 64)) λi=>B ((h+i)%18446744073709551616) λj=>B ((a*b)%18446744073709551616) λk=>Z (j,k)
def Ur(i:K)(d:K)(j:K):ol (K×K) K:=λL (b,a)=>Y (qX fu b j) λ(f,k)=>if(f:J)<(a:J)then Z b else if(f:J)=(a:J)then if(k:J)<=(i:J)then Z b else B ((b+18446744073709551616-(1:K))%18446744073709551616) λg=>ck ((0:K)<=1)<|B ((a+d+(0:K))%18446744073709551616) λl=>B ((a+d+(0:K))/18446744073709551616) λm=>if(((0:K):K):J)<(m:J)then Z g else L (g,l)else B ((b+18446744073709551616-(1:K))%18446744073709551616) λh=>ck ((0:K)<=1)<|B ((a+d+(0:K))%18446744073709551616) λo=>B ((a+d+(0:K))/18446744073709551616) λe=>if(((0:K):K):J)<(e:J)then Z h else L (h,o)
def Kl(b:K)(d:K)(e:K)(a:K)(f:K):V K:=if(a:J)<=(b:J)then Z (18446744073709551615:K)else Y (qZ fu b d a) λ(g,h)=>Y (zg (Ur fu e a f) fu (g,h)) λi=>Z i
def eE(b:J)(a:K)(f:N K)(g:N K):V (K×K):=Y (Vf fu f b) λd=>Y (Vf fu g b) λe=>ck (a<=1)<|B ((d+18446744073709551616-e-a)%18446744073709551616) λh=>B (if d<e+a then 1 else 0) λi=>Z (h,i)
def Jt(a:N K)(b:N K):V ((N K)×J):=B (max (X a:J)<|(X b:J)) λd=>Y (qb fu d<|λc h=>eE fu c h a b) λ(e,f)=>if(((0:K):K):J)<(f:J)then Z ([],1)else Y (xw fu e) λg=>Z<|(g,0)
def X3(a:N K)(b:N K):V (N K):=Y (Jt fu a b) λ(d,e)=>Z d
def ga(e:J)(a:K)(b:N K)(f:K):V (K×K):=zF e (X b) λg=>B (b.getD g 0) λh=>Y (qX fu h f) λ(i,d)=>ck ((0:K)<=1)<|B ((d+a+(0:K))%18446744073709551616) λj=>B ((d+a+(0:K))/18446744073709551616) λk=>B ((i+k)%18446744073709551616) λl=>Z (j,l)
def Jr(a:N K)(e:K):V (N K):=Y (qb fu (X a:J)<|λc g=>ga fu c g a e) λ(b,d)=>ck ((X b+X ([d]))*8<=140737488355328)<|B (b++([d])) λf=>Z f
def UB(d:N K)(f:K):ol (K×J×(N K)) (K×(N K)):=λL (e,a,b)=>if 0<=a then zF a (X d) λg=>B (d.getD g 0) λh=>Y (qZ fu e h f) λ(i,j)=>zF a (X b) λk=>B (b.set k i) λt3=>zf (a-1) λl=>L (j,l,t3)else Z (e,b)
def KY(a:N K)(d:K):V ((N K)×K):=jA (X a:J) λb=>ck (8*b<=281474976710656)<|B (Nm b 0) λe=>zf ((X a:J)-1) λf=>Y (zg (UB fu a d) fu<|((0:K),f,e)) λ(g,h)=>Y (xw fu h) λt5=>Z (t5,g)
def fU(b:N K):ol (J×J×K×(N K)) (J×J×K×(N K)):=λL (g,h,d,a)=>Y (Jr fu b d) λe=>Y (Jm fu e a) λf=>if 0<f then B ((d+18446744073709551616-(1:K))%18446744073709551616) λi=>L (g,h,i,a)else Z (g,h,d,a)
def Vt(Q:J)(e:xS wr):ol ((xS wr)×J×(xS wr)×(xS wr)) ((xS wr)×(xS wr)):=λL (b,d,a,f)=>if 0<=d then zf (d+(pM e:J)) λp=>zF p (pM a) λR=>nm (a.getD R 0) λS=>zf (d+(pM e:J)) λq=>zf (q-1) λr=>zF r (pM a) λU=>nm (a.getD U 0) λV=>zf (d+(pM e:J)) λs=>zf (s-2) λu=>zF u (pM a) λW=>nm (a.getD W 0) λX=>zf ((pM e:J)-1) λv=>zF v (pM b) λY=>nm (b.getD Y 0) λc=>zf ((pM e:J)-2) λw=>zF w (pM b) λt=>nm (b.getD t 0) λx=>bd (Kl fu S V X c x) λz=>zf (d+(pM e:J)) λy=>zf (y+1) λA=>jA d λg=>jA A λh=>ck (g<=h/\h<=pM a)<|nm (xdB (h-g)<|xdO g a) λj=>ck ((pM ([]:xS wr)+pM j)*8<=140737488355328)<|nm (([]:xS wr)++j) λB=>bd (zg (fU fu b) fu<|(Q,(pM e:J),z,B)) λ(i4,D,P,C)=>zF d (pM f) λE=>nm (f.set E P) λG=>jA d λi=>ck (i<=pM a)<|bd (Jr fu b P) λH=>bd (X3 fu C H) λk=>zf (D+1) λF=>jA F λl=>ck ((pM k+l)*8<=140737488355328)<|nm (k++Nm l 0) λm=>zf (D+1) λn=>jA n λo=>ck (o<=pM m)<|nm (m.take o) λK=>nm (lF i (pM a-i) a K) λM=>zf (d-1) λN=>L (b,N,M,G)else Z (a,f)
def ae(p:N wr)(q:N wr):V ((N wr)×(N wr)×J):=Y (wX fu p) λb=>Y (wX fu q) λa=>Y (if(X a:J)=0 then Z wL else Z I:V v6) λr=>if r then Z ([],[],3)else Y (Y (Jm fu b a) λs=>if s<0 then Z wL else Z I:V v6) λu=>if u then Y (YE fu b) λt3=>Z ([],t3,0)else if(X a:J)=1 then zF 0 (X a) λv=>nm (a.getD v 0) λw=>Y (KY fu b w) λ(y,A)=>Y (xw fu [A]) λt5=>Z (y,t5,0)else zf ((X a:J)-1) λB=>zF B (X a) λC=>nm (a.getD C 0) λE=>Y (xI fu E) λd=>Y (X7 fu a d) λ(e,K)=>Y (X7 fu b d) λ(f,M)=>zf ((X b:J)+1) λG=>zf (G-(X f:J)) λH=>jA H λk=>ck ((X f+k)*8<=140737488355328)<|nm (f++Nm k 0) λl=>zf ((X l:J)-(X e:J)) λc=>jA c λm=>ck (8*m<=281474976710656)<|nm (Nm m 0) λo=>zf ((X o:J)-1) λn=>Y (zg (Vt fu d e) fu (e,n,l,o)) λ(g,h)=>Y (xw fu h) λi=>Y (UF fu g d) λj=>Z<|(i,j,0)
def xl(b:v6)(d:N K):V M:=Y (YE fu d) λa=>if b then if 0<(X a:J)then Z (wL,a)else Z (I,a)else Z (I,a)
def WG(b:M)(d:M):V (M×M×J):=Y (ae fu b.2 d.2) λ(e,a,f)=>if f=0 then Y (if b.1=wL then if 0<(X a:J)then Y (Zw fu e [(1:K)]) λt3=>Y (Jt fu d.2 a) λ(g,l)=>Z (t3,g)else Z (e,a)else Z (e,a):V ((N K)×(N K))) λ(t5,h)=>B (!(b.1==d.1)) λi=>Y (xl fu i t5) λj=>Y (xl fu I h) λk=>Z (j,k,0)else Z ((I,[]),(I,[]),f)
def qe(a:M):V M:=Y (xl fu a.1 a.2) λb=>Z b
def xD(b:M):V J:=Y (qe fu b) λa=>if a.1=wL then zf (0-2) λd=>zf (d+1) λe=>Z e else if 0<(X a.2:J)then zf (0+1) λf=>Z f else Z 0
def vX(b:M)(d:M):V (M×J):=Y (WG fu b d) λ(e,f,a)=>Y (if a=0 then Z I else Z wL:V v6) λg=>if g then Z ((I,[]),a)else Y (xD fu f) λh=>if h=0 then Z (e,0)else Z ((I,[]),4)
def p9:ol ((N K)×(N K)) (N K):=λL (t3,a)=>if 0<(X a:J)then Y (ae fu t3 a) λ(t5,b,d)=>L (a,b)else Z t3
def Wu(a:M)(b:M):V M:=Y (YE fu a.2) λd=>Y (YE fu b.2) λe=>Y (zg (p9 fu) fu (d,e)) λf=>Y (xl fu I f) λg=>Z g
def u4(a:M):V M:=Y (xl fu (!a.1) a.2) λb=>Z b
def We(d:M)(a:M):V ((M×(N K))×J):=Y (xD fu a) λg=>if g=0 then Z (((I,[]),[]),3)else Y (Wu fu d a) λe=>Y (vX fu d e) λ(f,i)=>Y (vX fu a e) λ(b,j)=>if b.1=wL then Y (u4 fu f) λh=>Z ((h,b.2),0)else Z ((f,b.2),0)
def JM(fu:K)(d:J)(t3:N K)(h:N K)(i:J)(t5:N K):ol (K×J×(N K)×(N K)) (N K):=λL (e,a,b,f)=>Y (if a<(X t5:J)then Z (t3,d,h,i,d,(X t5:J),wL)else Z (t3,d,h,i,d,(X t5:J),I):V ((N K)×J×(N K)×J×J×J×v6)) λ(y,j,A,B,C,E,m)=>if m then zF a (X f) λo=>nm (f.getD o 0) λk=>zf (j+a) λp=>zf (j+a) λq=>zF q (X b) λr=>nm (b.getD r 0) λl=>ck (e<=1)<|nm ((l+k+e)%18446744073709551616) λs=>nm ((l+k+e)/18446744073709551616) λu=>zF p (X b) λv=>nm (b.set v s) λg=>zf (a+1) λw=>L (u,w,g,f)else Z b
def eh(f:N K)(a:N K):ol (J×(N K)) (N K):=λL (b,g)=>Y (if b<(X a:J)then Z (f,a,(X a:J),wL)else Z (f,a,(X a:J),I):V ((N K)×(N K)×J×v6)) λ(t3,d,h,i)=>if i then zF b (X d) λj=>B (d.getD j 0) λk=>Y (Jr fu t3 k) λt5=>Y (zg (JM fu b t3 d h t5) fu<|((0:K),0,g,t5)) λe=>zf (b+1) λl=>L (l,e)else Z g
def Q3(d:N K)(e:N K):V (N K):=zf ((X d:J)+(X e:J)) λg=>zf (g+1) λh=>jA h λf=>ck (8*f<=281474976710656)<|B (Nm f 0) λi=>Y (zg (eh fu d e) fu<|(0,i)) λa=>Y (xw fu a) λb=>Z b
def Zx:wr->(xS wr)->(xS wr)->V (xS wr)
 |0,_,_=>wF
 |fu+1,A,B=>Y (wX fu A) λa=>Y (wX fu B) λb=>nm (min ((X a:J))<|(X b:J)) λC=>if C<8 then Y (Q3 fu a b) λt3=>Z t3 else nm (max ((X a:J))<|(X b:J)) λE=>ck ((2:J)≠0)<|zf (xdx E (2:J)) λd=>nm (min d<|(X a:J)) λG=>jA G λq=>ck (q<=X a)<|nm (a.take q) λH=>Y (wX fu H) λt5=>nm (min d<|(X a:J)) λn=>jA n λr=>ck (r<=X a)<|nm (a.drop r) λs=>nm (min d<|(X b:J)) λc=>jA c λu=>ck (u<=X b)<|nm (b.take u) λK=>Y (wX fu K) λv=>nm (min d<|(X b:J)) λM=>jA M λw=>ck (w<=X b)<|nm (b.drop w) λy=>Y (Zx fu t5 v) λe=>Y (Zx fu s y) λf=>Y (Zw fu t5 s) λg=>Y (Zw fu v y) λh=>Y (Zx fu g h) λi=>Y (X3 fu i e) λj=>Y (X3 fu j f) λk=>Y (YT fu k d) λl=>Y (Zw fu e l) λm=>zf ((2:J)*d) λN=>Y (YT fu f N) λo=>Y (Zw fu m o) λp=>Z p
def zM(a:M)(b:M):V M:=B (!(a.1==b.1)) λd=>Y (Zx fu a.2 b.2) λe=>Y (xl fu d e) λf=>Z f
def vQ(a:M)(b:M):V M:=B (a.1==b.1) λe=>if e then Y (Zw fu a.2 b.2) λf=>Y (xl fu a.1 f) λg=>Z g else Y (Y (Jm fu a.2 b.2) λh=>if h<0 then Z (b,a)else Z (a,b):V (M×M)) λ(d,t3)=>Y (Jt fu d.2 t3.2) λ(i,k)=>Y (xl fu d.1 i) λj=>Z j
def qu(a:M)(b:M):V M:=Y (u4 fu b) λd=>Y (vQ fu a d) λe=>Z e
def JF(d:J)(a:M):V M:=Y (qe fu a) λb=>Z b
def w9(fu:K)(a:N M)(e:J->M->V M):ol (J×(N M)) (N M):=λL (b,d)=>Y (if b<(X a:J)then Z (a,(X a:J),wL)else Z (a,(X a:J),I):V ((N M)×J×v6)) λ(t3,m,f)=>if f then zF b (X t3) λg=>B (t3.getD g (I,[])) λh=>Y (e b h) λi=>zF b (X d) λj=>B (d.set j i) λk=>zf (b+1) λl=>L (l,k)else Z d
def zH(a:N M)(d:J->M->V M):V (N M):=jA (X a:J) λb=>ck (32*b<=281474976710656)<|B (Nm b (I,[])) λe=>Y (zg (w9 fu a d) fu<|(0,e)) λt5=>Z t5
def fS:ol (N M) (N M):=λL a=>if 0<(X a:J)then zf ((X a:J)-1) λd=>zF d (X a) λe=>B (a.getD e (I,[])) λf=>Y (xD fu f) λg=>if g=0 then zf ((X a:J)-1) λh=>jA h λb=>ck (b<=X a)<|B (a.take b) λi=>L i else Z a else Z a
def zQ(a:N M):V (N M):=Y (zg (fS fu) fu a) λt3=>Y (zH fu t3<|λc d=>JF fu c d) λb=>Z b
def Uf(k:J)(g:N M):ol (J×(N M)×(N M)×(N M)×M) ((N M)×(N M)×(N M)):=λL (a,f,b,d,e)=>Y (if a<(X g:J)then Z (k,(X g:J),wL)else Z (k,(X g:J),I):V (J×J×v6)) λ(l,y,m)=>if m then zF a (X f) λo=>B (f.getD o (I,[])) λp=>zf (l+a) λq=>zf (l+a) λh=>zF h (X b) λr=>B (b.getD r (I,[])) λs=>Y (zM fu e p) λu=>Y (qu fu s u) λv=>zF q (X b) λw=>B (b.set w v) λi=>zf (a+1) λj=>L (j,f,i,d,e)else Z (f,b,d)
def Ue:ol (J×(N M)×(N M)×(N M)) (((N M)×(N M))⊕J):=λL (b,a,t5,d)=>if 0<=b then zf (b+(X a:J)) λk=>zf (k-1) λl=>zF l (X t5) λm=>B (t5.getD m (I,[])) λo=>zf ((X a:J)-1) λp=>zF p (X a) λq=>B (a.getD q (I,[])) λr=>Y (vX fu o r) λ(i,j)=>if j=0 then zF b (X d) λs=>B (d.set s i) λu=>Y (zg (Uf fu b a) fu<|(0,a,t5,u,i)) λ(e,f,g)=>zf (b-1) λh=>L (h,e,f,g)else Z (.inr j)else Z (.inl (t5,d))
def wA(i:N M)(j:N M):V ((N M)×J):=Y (zQ fu i) λa=>Y (zQ fu j) λb=>if(X b:J)=0 then Z ([],3)else Y (if 0<(X a:J)then if(X a:J)<(X b:J)then Z (.inr ())else Z (.inl ())else Z (.inl ()):V (Z3⊕Z3)) λk=>match k with
 |.inl _=>(zf ((X a:J)-(X b:J)) λl=>zf (l+1) λm=>B (max m 0) λo=>jA o λh=>ck (32*h<=281474976710656)<|B (Nm h (I,[])) λt3=>zf ((X t3:J)-1) λp=>Y (zg (Ue fu) fu (p,b,a,t3)) λq=>match q with
 |.inl (d,e)=>Y (zQ fu d) λf=>if 0<(X f:J)then Z ([],4)else Y (zQ fu e) λg=>Z<|(g,0)
 |.inr r=>Z ([],r))
 |.inr _=>Z<|([],4)
def Jx(b:N M):ol (J×(N M)×J) J:=λL (a,d,e)=>if e=0 then zf (a+1) λf=>Y (wA fu d b) λ(t3,g)=>L (f,t3,g)else Z a
def Y4(b:N M)(a:N M):V J:=Y (wA fu b a) λ(d,e)=>Y (zg (Jx fu a) fu<|(0,d,e)) λf=>Z f
def ZL(fu:K)(d:J):ol (v6×J) v6:=λL (b,a)=>if b then zf (a*a) λe=>if e<=d then ck (a≠0)<|B (xcB d a) λf=>if f=0 then Z I else zf (a+1) λg=>L (b,g)else Z b else Z b
def Zm(a:J):V v6:=Y (if 2<=a then if a<=65521 then Z wL else Z I else Z I:V v6) λb=>Y (zg (ZL fu a) fu<|(b,2)) λd=>Z d
def yq(a:J):V M:=if a<0 then B (ET a) λb=>B ((18446744073709551616-b)%18446744073709551616) λd=>Y (xl fu wL [d]) λe=>Z e else B (ET a) λf=>Y (xl fu I [f]) λg=>Z g
def Zf(b:N K):V J:=Y (wX fu b) λa=>if(X a:J)=0 then Z 0 else zf ((X a:J)-1) λd=>zf (64*d) λe=>zf ((X a:J)-1) λf=>zF f (X a) λg=>B (a.getD g 0) λh=>Y (xV fu h) λi=>zf (e+i) λj=>Z j
def aL:ol (J×M×M) M:=λL (a,b,d)=>if 0<a then B (Tn a 1) λf=>if f=1 then Y (zM fu d b) λe=>if 1<a then Y (zM fu b b) λg=>B (xfY a<|2^(min ((1:K):J).toNat 64)) λh=>L (h,g,e)else B (xfY a<|2^(min ((1:K):J).toNat 64)) λi=>L (i,b,e)else if 1<a then Y (zM fu b b) λj=>B (xfY a<|2^(min ((1:K):J).toNat 64)) λk=>L (k,j,d)else B (xfY a<|2^(min ((1:K):J).toNat 64)) λl=>L (l,b,d)else Z d
def aI(b:M)(a:J):V (M×J):=Y (if a<0 then Z wL else if 65536<a then Z wL else Z I:V v6) λd=>if d then Z ((I,[]),1)else Y (Zf fu b.2) λe=>zf (e*a) λf=>if 262144<f then Z ((I,[]),6)else Y (yq fu 1) λg=>Y (qe fu b) λh=>Y (zg (aL fu) fu (a,h,g)) λt3=>Z<|(t3,0)
def qx(b:J)(a:J):V (M×J):=Y (Zm fu b) λd=>if !d then Z ((I,[]),1)else if a<1 then Z ((I,[]),1)else if 1000<a then Z ((I,[]),1)else Y (yq fu b) λe=>Y (aI fu e a) λ(f,g)=>Z (f,g)
def UM(fu:K)(a:N M)(e:M)(g:M->M->V (M×J)):ol (J×(N M)) (N M):=λL (b,d)=>Y (if b<(X a:J)then Z (e,a,(X a:J),wL)else Z (e,a,(X a:J),I):V (M×(N M)×J×v6)) λ(t3,f,o,h)=>if h then zF b (X f) λi=>B (f.getD i (I,[])) λj=>Y (g j t3) λ(k,p)=>zF b (X d) λl=>B (d.set l k) λt5=>zf (b+1) λm=>L (m,t5)else Z d
def qH(a:N M)(b:M)(e:M->M->V (M×J)):V ((N M)×J):=Y (xD fu b) λf=>if f<=0 then Z ([],1)else jA (X a:J) λd=>ck (32*d<=281474976710656)<|B (Nm d (I,[])) λg=>Y (zg (UM fu a b e) fu<|(0,g)) λh=>Y (zQ fu h) λi=>Z<|(i,0)
def q6(b:M)(a:M):V (M×J):=Y (xD fu a) λd=>if d<=0 then Z ((I,[]),1)else Y (WG fu b a) λ(f,e,g)=>Z<|(e,0)
def Xh(a:N M)(b:M):V ((N M)×J):=Y (qH fu a b<|λc f=>q6 fu c f) λ(d,e)=>Z (d,e)
def xq(a:N M)(b:M):V (N M):=Y (Xh fu a b) λ(d,e)=>Z d
def vg(a:J):V J:=Y (Zm fu a) λb=>if !b then Z 1 else Z 0
def Zn(fu:K)(d:J)(a:J):V J:=if a<1 then Z 0 else ck (a≠0)<|B (xcB d a) λb=>if b<0 then zf (b+a) λe=>Z e else Z b
def nj(fu:K):ol (J×J×J×J) (J⊕Z3):=λL (d,a,f,b)=>if a=0 then Z (.inr ())else if a=1 then Z (.inl b)else ck (a≠0)<|zf (xdx d a) λe=>zf (e*a) λg=>zf (d-g) λh=>zf (e*b) λi=>zf (f-i) λj=>L (a,h,b,j)
def Vy(d:J)(a:J):V (J×J):=Y (vg fu a) λb=>if b=0 then Y (Zn fu d a) λe=>Y (zg (nj fu) fu<|(a,e,0,1)) λf=>match f with
 |.inl g=>Y (Zn fu g a) λh=>Z<|(h,0)
 |.inr _=>Z (0,3)else Z (0,b)
def cz(b:N J)(e:J):ol (J×(N J)) (N J):=λL (a,d)=>if a<(X b:J)then zF a (X b) λf=>B (b.getD f 0) λg=>Y (Zn fu g e) λh=>zF a (X d) λi=>B (d.set i h) λt3=>zf (a+1) λj=>L (j,t3)else Z d
def cm(fu:K):ol (N J) (N J):=λL t5=>if 0<(X t5:J)then zf ((X t5:J)-1) λb=>zF b (X t5) λd=>B (t5.getD d 0) λe=>if e=0 then zf ((X t5:J)-1) λf=>jA f λa=>ck (a<=X t5)<|B (t5.take a) λg=>L g else Z t5 else Z t5
def yi(a:N J)(d:J):V (N J):=jA (X a:J) λb=>ck (8*b<=281474976710656)<|B (Nm b 0) λe=>Y (zg (cz fu a d) fu<|(0,e)) λf=>Y (zg (cm fu) fu f) λg=>Z g
def Xm(fu:K)(a:N J)(q:J)(b:J):ol ((N J)×J×J×J×(N J)×(N J)) ((N J)×J×J×(N J)×(N J)):=λL (r,d,s,e,f,u)=>Y (if e<(X a:J)then Z (q,b,a,(X a:J),wL)else Z (q,b,a,(X a:J),I):V (J×J×(N J)×J×v6)) λ(v,y,w,H,A)=>if A then zF e (X w) λB=>nm (w.getD B 0) λC=>zf (v+e) λg=>zf (v+e) λh=>zF h (X f) λE=>nm (f.getD E 0) λi=>zf (d-y) λj=>zf (j*C) λk=>zf (i+k) λl=>ck (d≠0)<|nm (xcB l d) λm=>zF g (X f) λG=>nm (f.set G m) λo=>zf (e+1) λp=>L (r,d,s,p,o,u)else Z (r,d,s,f,u)
def Xk(d:N J)(e:J)(j:J):ol (J×(N J)×(N J)) ((N J)×(N J)):=λL (a,t3,f)=>if 0<=a then zf (a+(X d:J)) λk=>zf (k-1) λl=>zF l (X t3) λm=>B (t3.getD m 0) λo=>zf (o*j) λp=>ck (e≠0)<|B (xcB p e) λb=>zF a (X f) λq=>B (f.set q b) λt5=>Y (zg (Xm fu d a b) fu<|(d,e,j,0,t3,t5)) λ(r,s,u,g,h)=>zf (a-1) λi=>L (i,g,h)else Z (t3,f)
def xJ(j:N J)(a:N J)(b:J):V ((N J)×(N J)):=ck ((X ([]:N J)+X j)*8<=140737488355328)<|B (([]:N J)++j) λd=>zf ((X d:J)-(X a:J)) λe=>if e<0 then Z ([],d)else zf ((X a:J)-1) λl=>zF l (X a) λm=>B (a.getD m 0) λo=>Y (Vy fu o b) λ(p,s)=>zf (e+1) λq=>jA q λk=>ck (8*k<=281474976710656)<|B (Nm k 0) λr=>Y (zg (Xk fu a b p) fu (e,d,r)) λ(f,g)=>Y (yi fu g b) λh=>Y (yi fu f b) λi=>Z (h,i)
def Kv(fu:K)(b:J)(t3:N J)(d:J)(e:N J)(f:J)(g:J):ol (J×(N J)) (N J):=λL (a,t5)=>Y (if a<(X t3:J)then Z (t3,d,b,g,e,f,b,t3,(X t3:J),wL)else Z (t3,d,b,g,e,f,b,t3,(X t3:J),I):V ((N J)×J×J×J×(N J)×J×J×(N J)×J×v6)) λ(E,h,i,k,G,H,c,j,l,m)=>if m then zF a (X j) λo=>nm (j.getD o 0) λp=>zf (i+a) λq=>zf (i+a) λr=>zF r (X t5) λs=>nm (t5.getD s 0) λu=>zf (k*p) λv=>zf (u+v) λw=>ck (h≠0)<|nm (xcB w h) λy=>zF q (X t5) λA=>nm (t5.set A y) λB=>zf (a+1) λC=>L (C,B)else Z t5
def KE(a:N J)(f:N J)(g:J):ol (J×(N J)) (N J):=λL (b,h)=>Y (if b<(X a:J)then Z (f,g,a,(X a:J),wL)else Z (f,g,a,(X a:J),I):V ((N J)×J×(N J)×J×v6)) λ(t3,i,d,j,k)=>if k then zF b (X d) λl=>B (d.getD l 0) λm=>Y (zg (Kv fu b t3 i d j m) fu<|(0,h)) λe=>zf (b+1) λo=>L (o,e)else Z h
def w5(d:N J)(e:N J)(f:J):V (N J):=zf ((X d:J)+(X e:J)) λh=>jA h λg=>ck (8*g<=281474976710656)<|B (Nm g 0) λi=>Y (zg (KE fu d e f) fu<|(0,i)) λa=>Y (yi fu a f) λb=>Z b
def lN(fu:K)(a:N J)(d:J)(e:J):ol (J×(N J)) (N J):=λL (b,t3)=>Y (if b<(X a:J)then Z (d,e,a,(X a:J),wL)else Z (d,e,a,(X a:J),I):V (J×J×(N J)×J×v6)) λ(g,r,f,s,h)=>if h then zF b (X f) λi=>B (f.getD i 0) λj=>zF b (X t3) λk=>B (t3.getD k 0) λl=>zf (g*j) λm=>zf (l+m) λo=>zF b (X t3) λp=>B (t3.set p o) λt5=>zf (b+1) λq=>L (q,t5)else Z t3
def YL(a:N J)(b:N J)(f:J)(d:J):V (N J):=B (max (X a:J)<|(X b:J)) λg=>jA g λe=>ck (8*e<=281474976710656)<|B (Nm e 0) λh=>B (Hg h a) λi=>Y (zg (lN fu b f d) fu<|(0,i)) λj=>Y (yi fu j d) λk=>Z k
def Zc(e:N (N J))(f:J):ol ((N J)×J×(N<|N J)×(N<|N J)) ((N<|N J)×(N<|N J)):=λL (t3,a,b,t5)=>Y (if a<3 then Z (f,e,wL)else Z (f,e,I):V (J×(N<|N J)×v6)) λ(d,g,h)=>if h then zF a (3) λi=>zF a (3) λj=>B (g.getD j []) λk=>Y (w5 fu t3 k d) λl=>zf (d-1) λm=>Y (YL fu (b.getD i []) l m d) λo=>zF a (3) λp=>B (b.set p o) λq=>zf (a+1) λr=>L (t3,r,q,t5)else Z (b,t5)
def Xj(b:N (N J))(d:N (N J))(e:J):V (N<|N J):=zF 0 (3) λf=>zF 0 (3) λg=>B (d.getD g []) λh=>Y (xJ fu (b.getD f []) h e) λ(i,k)=>Y (zg (Zc fu d e) fu<|(i,0,b,(Nm 3 []))) λ(a,j)=>Z a
def qy(b:N J)(d:J)(a:J):V (N J):=Y (Vy fu d a) λ(e,g)=>Y (w5 fu b [e] a) λf=>Z f
def ZM(b:J):ol ((N<|N J)×(N<|N J)) (N<|N J):=λL (t3,a)=>zF 0 (3) λd=>if 0<((X (a.getD d []):K):J)then Y (Xj fu t3 a b) λt5=>L (a,t5)else Z t3
def vi(d:J)(e:J):ol (J×(N<|N J)) (N<|N J):=λL (a,b)=>if a<3 then zF a (3) λf=>Y (qy fu (b.getD f []) e d) λg=>zF a (3) λh=>B (b.set h g) λi=>zf (a+1) λj=>L (j,i)else Z b
def Za(k:N J)(l:N J)(d:J):V ((N J)×(N J)×(N J)×J):=Y (vg fu d) λh=>if h=0 then Y (yi fu k d) λm=>Y (yi fu l d) λo=>Y (zg (ZM fu d) fu<|([m,[1],[]],[o,[],[1]])) λa=>zF 0 (3) λi=>Y (if 0<((X (a.getD i []):K):J)then Z wL else Z I:V v6) λp=>if p then zF 0 (3) λj=>zf (((X (a.getD i []):K):J)-1) λq=>zF q (X (a.getD j [])) λr=>B ((a.getD j []).getD r 0) λs=>Y (zg (vi fu d s) fu<|(0,a)) λb=>zF 0 (3) λu=>zF 1 (3) λv=>zF 2 (3) λw=>Z ((b.getD u []),(b.getD v []),(b.getD w []),0)else zF 0 (3) λe=>zF 1 (3) λf=>zF 2 (3) λg=>Z ((a.getD e []),(a.getD f []),(a.getD g []),0)else Z ([],[],[],h)
def ks(a:N J)(b:N J)(d:J):V ((N J)×J):=Y (Za fu a b d) λ(e,g,t3,f)=>Z (e,f)
def kq(d:N J)(e:N J)(a:J):V ((N J)×J):=Y (vg fu a) λb=>if b=0 then Y (yi fu d a) λf=>Y (yi fu e a) λg=>Y (w5 fu f g a) λt3=>Z (t3,0)else Z ([],b)
def VM(d:N J)(e:N J)(a:J):V ((N J)×J):=Y (vg fu a) λb=>if b=0 then Y (yi fu d a) λf=>Y (yi fu e a) λg=>zf (a-1) λh=>Y (YL fu f g h a) λt3=>Z (t3,0)else Z ([],b)
def Xv(a:N J)(b:N J)(d:J):V v6:=Y (VM fu a b d) λ(e,f)=>if(X e:J)=0 then Z wL else Z I
def X6(fu:K)(a:N J)(e:J):ol J (Z3⊕Z3):=λL b=>if b<(X a:J)then zF b (X a) λf=>B (a.getD f 0) λd=>if d<0 then Z (.inr ())else if e<=d then Z (.inr ())else zf (b+1) λg=>L g else Z (.inl ())
def XT(a:N J)(b:J):V v6:=Y (zg (X6 fu a b) fu 0) λd=>match d with
 |.inl _=>if 1<(X a:J)then zf ((X a:J)-1) λe=>zF e (X a) λf=>B (a.getD f 0) λg=>if g=1 then Z wL else Z I else Z I
 |.inr _=>Z I
def J3(a:N (N J))(e:J):ol ((N J)×J) (N J):=λL (d,b)=>if b<(X a:J)then zF b (X a) λf=>B (a.getD f []) λg=>Y (kq fu d g e) λ(h,j)=>zf (b+1) λi=>L (h,i)else Z d
def qk(a:N (N J))(b:J):V (N J):=Y (zg (J3 fu a b) fu<|([1],0)) λt3=>Z t3
def Q9(b:M):V (J×v6):=Y (qe fu b) λa=>Y (if(X a.2:J)=0 then Z wL else Z I:V v6) λd=>if d then Z (0,wL)else Y (if 1<(X a.2:J)then Z wL else Z I:V v6) λe=>if e then Z (0,I)else Y (if a.1=wL then zF 0 (X a.2) λf=>B (a.2.getD f 0) λg=>if(g:J)<=(((9223372036854775808:K):K):J)then Z wL else Z I else Z I:V v6) λh=>if h then zF 0 (X a.2) λi=>B (a.2.getD i 0) λj=>B ((18446744073709551616-j)%18446744073709551616) λk=>B (sgn k) λl=>Z (l,wL)else if a.1=wL then Z (0,I)else zF 0 (X a.2) λm=>B (a.2.getD m 0) λo=>if(((9223372036854775807:K):K):J)<(o:J)then Z (0,I)else zF 0 (X a.2) λp=>B (a.2.getD p 0) λq=>B (sgn q) λr=>Z (r,wL)
def Kz(b:M)(d:J):V (J×J):=Y (yq fu d) λe=>Y (q6 fu b e) λ(f,a)=>if a=0 then Y (Q9 fu f) λ(g,h)=>Z (g,0)else Z (0,a)
def WQ(e:J)(a:M)(b:J):V J:=Y (Kz fu a b) λ(d,f)=>Z d
def Zs(fu:K)(a:N M)(e:J->M->V J):ol (J×(N J)) (N J):=λL (b,d)=>Y (if b<(X a:J)then Z (a,(X a:J),wL)else Z (a,(X a:J),I):V ((N M)×J×v6)) λ(t3,m,f)=>if f then zF b (X t3) λg=>B (t3.getD g (I,[])) λh=>Y (e b h) λi=>zF b (X d) λj=>B (d.set j i) λk=>zf (b+1) λl=>L (l,k)else Z d
def jw(a:N M)(d:J->M->V J):V (N J):=jA (X a:J) λb=>ck (8*b<=281474976710656)<|B (Nm b 0) λe=>Y (zg (Zs fu a d) fu<|(0,e)) λt5=>Z t5
def lv(fu:K):ol (N J) (N J):=λL a=>if 0<(X a:J)then zf ((X a:J)-1) λd=>zF d (X a) λe=>B (a.getD e 0) λf=>if f=0 then zf ((X a:J)-1) λg=>jA g λb=>ck (b<=X a)<|B (a.take b) λt3=>L t3 else Z a else Z a
def Zv(b:N M)(a:J):V ((N J)×J):=if a<1 then Z ([],1)else Y (jw fu b<|λc f=>WQ fu c f a) λd=>Y (zg (lv fu) fu d) λe=>Z<|(e,0)
def jV(d:J)(e:N J)(a:N (N J)):ol J (Z3⊕Z3):=λL b=>if b<(X a:J)then zF b (X a) λf=>B (a.getD f []) λg=>Y (ks fu e g d) λ(h,j)=>if(X h:J)=1 then zf (b+1) λi=>L i else Z (.inr ())else Z (.inl ())
def jI(e:N M)(a:N (N J))(f:J):ol (J×(N J)) ((N J)⊕Z3):=λL (b,g)=>Y (if b<(X a:J)then Z (e,a,f,a,(X a:J),wL)else Z (e,a,f,a,(X a:J),I):V ((N M)×(N<|N J)×J×(N<|N J)×J×v6)) λ(t3,h,i,t5,r,k)=>if k then zF b (X t5) λl=>B (t5.getD l []) λd=>if(X t3:J)<(X d:J)then Z (.inr ())else Y (XT fu d i) λm=>if !m then Z (.inr ())else jA b λj=>ck (j<=X h)<|B (h.take j) λo=>Y (zg (jV fu i d o) fu 0) λp=>match p with
 |.inl _=>zf (b+1) λq=>L (q,g)
 |.inr _=>Z (.inr ())else Z (.inl g)
def vB(a:N M)(e:N (N J))(b:J):V v6:=Y (Zv fu a b) λ(h,o)=>if(X a:J)=0 then Z I else if(X h:J)=(X a:J)then if(X a:J)<(X e:J)then Z I else Y (zg (jI fu a e b) fu<|(0,h)) λj=>match j with
 |.inl d=>Y (qk fu e b) λk=>zf ((X d:J)-1) λl=>jA l λi=>ck (i<=X d)<|B (d.drop i) λf=>Y (kq fu k f b) λ(g,p)=>Y (Xv fu g d b) λm=>Z m
 |.inr _=>Z I else Z I
def Yz(a:N M)(j:J):ol ((N M)×M×J×(N M)×(N M)) ((N M)×M×(N M)×(N M)):=λL (k,l,b,d,f)=>Y (if b<(X a:J)then Z (j,a,(X a:J),wL)else Z (j,a,(X a:J),I):V (J×(N M)×J×v6)) λ(g,e,C,m)=>if m then zF b (X e) λo=>nm (e.getD o (I,[])) λp=>zf (g+b) λq=>zf (g+b) λr=>zF r (X d) λs=>nm (d.getD s (I,[])) λu=>zF g (X f) λv=>nm (f.getD v (I,[])) λw=>Y (zM fu w p) λy=>Y (qu fu u y) λA=>zF q (X d) λB=>nm (d.set B A) λh=>zf (b+1) λi=>L (k,l,i,h,f)else Z (k,l,d,f)
def Yx(b:N M)(h:M):ol (J×(N M)×(N M)) ((N M)×(N M)):=λL (a,t3,d)=>if 0<=a then zf (a+(X b:J)) λi=>zf (i-1) λj=>zF j (X t3) λk=>B (t3.getD k (I,[])) λl=>Y (q6 fu l h) λ(m,r)=>zF a (X d) λo=>B (d.set o m) λt5=>Y (zg (Yz fu b a) fu<|(b,h,0,t3,t5)) λ(p,q,e,f)=>zf (a-1) λg=>L (g,e,f)else Z (t3,d)
def jT(k:N M)(g:N M)(a:M):V ((N M)×(N M)):=Y (xq fu k a) λh=>zf ((X h:J)-(X g:J)) λl=>zf (l+1) λm=>B (max m 0) λo=>jA o λi=>ck (32*i<=281474976710656)<|B (Nm i (I,[])) λj=>zf ((X j:J)-1) λp=>Y (zg (Yx fu g a) fu (p,h,j)) λ(b,d)=>Y (xq fu d a) λe=>Y (xq fu b a) λf=>Z (e,f)
def ur(b:J)(d:M)(a:N M):V M:=if b<(X a:J)then zF b (X a) λe=>B (a.getD e (I,[])) λf=>Y (vQ fu d f) λg=>Z g else Z d
def qc(a:N M)(b:N M):V (N M):=if(X a:J)<(X b:J)then Y (zH fu b<|λc g=>ur fu c g a) λd=>Y (zQ fu d) λe=>Z e else Y (zH fu a<|λc g=>ur fu c g b) λt3=>Y (zQ fu t3) λf=>Z f
def lS(b:J)(t3:N M)(e:N M)(f:J):ol (J×(N M)×M) (N M):=λL (a,t5,g)=>Y (if a<(X t3:J)then Z (t3,b,e,f,b,t3,(X t3:J),wL)else Z (t3,b,e,f,b,t3,(X t3:J),I):V ((N M)×J×(N M)×J×J×(N M)×J×v6)) λ(w,h,y,A,B,i,C,j)=>if j then zF a (X i) λk=>nm (i.getD k (I,[])) λl=>zf (h+a) λm=>zf (h+a) λo=>zF o (X t5) λp=>nm (t5.getD p (I,[])) λq=>Y (zM fu g l) λr=>Y (vQ fu q r) λs=>zF m (X t5) λu=>nm (t5.set u s) λd=>zf (a+1) λv=>L (v,d,g)else Z t5
def lZ(a:N M)(f:N M):ol (J×(N M)) (N M):=λL (b,g)=>Y (if b<(X a:J)then Z (f,a,(X a:J),wL)else Z (f,a,(X a:J),I):V ((N M)×(N M)×J×v6)) λ(t3,d,h,i)=>if i then zF b (X d) λj=>B (d.getD j (I,[])) λk=>Y (zg (lS fu b t3 d h) fu<|(0,g,k)) λe=>zf (b+1) λl=>L (l,e)else Z g
def wI(d:N M)(e:N M):V (N M):=zf ((X d:J)+(X e:J)) λg=>jA g λf=>ck (32*f<=281474976710656)<|B (Nm f (I,[])) λh=>Y (zg (lZ fu d e) fu<|(0,h)) λa=>Y (zQ fu a) λb=>Z b
def XD(d:J)(a:J):V M:=Y (yq fu a) λb=>Z b
def Zb(fu:K)(b:N J)(e:J->J->V M):ol (J×(N M)) (N M):=λL (a,d)=>if a<(X b:J)then zF a (X b) λf=>B (b.getD f 0) λg=>Y (e a g) λh=>zF a (X d) λi=>B (d.set i h) λt3=>zf (a+1) λj=>L (j,t3)else Z d
def jq(a:N J)(d:J->J->V M):V (N M):=jA (X a:J) λb=>ck (32*b<=281474976710656)<|B (Nm b (I,[])) λe=>Y (zg (Zb fu a d) fu<|(0,e)) λf=>Z f
def jg(a:N J):V (N M):=Y (jq fu a<|λc e=>XD fu c e) λb=>Y (zQ fu b) λd=>Z d
def J0(a:N J):V (N M):=Y (jg fu a) λb=>Z b
def Qo(e:J)(a:M)(b:M):V M:=Y (zM fu a b) λd=>Z d
def qf(a:N M)(b:M):V (N M):=Y (zH fu a<|λc f=>Qo fu c f b) λd=>Y (zQ fu d) λe=>Z e
def kv(a:N M)(b:N M):V (N M):=Y (yq fu (-1:J)) λd=>Y (qf fu b d) λe=>Y (qc fu a e) λf=>Z f
def kj(f:xS (xS Zr))(H:xS Zr)(a:Zr):V (xS<|xS Zr):=zF 0 (4) λc=>nm (f.getD c []) λi=>zF 1 (4) λJ=>nm (f.getD J []) λj=>zF 2 (4) λK=>nm (f.getD K []) λg=>zF 3 (4) λM=>nm (f.getD M []) λh=>Y (wI fu i j) λN=>Y (kv fu H N) λn=>Y (xq fu n a) λt3=>Y (wI fu g t3) λP=>Y (jT fu P j a) λ(t5,Q)=>Y (wI fu h t3) λR=>Y (wI fu t5 i) λS=>Y (qc fu R S) λU=>Y (qc fu i U) λk=>Y (xq fu k a) λb=>Y (qc fu j Q) λl=>Y (xq fu l a) λd=>Y (wI fu g b) λm=>Y (wI fu h d) λo=>Y (qc fu m o) λp=>Y (J0 fu [1]) λq=>Y (kv fu p q) λr=>Y (xq fu r a) λe=>Y (wI fu g e) λs=>Y (jT fu s d a) λ(u,v)=>Y (kv fu g v) λw=>Y (xq fu w a) λy=>Y (wI fu h e) λA=>Y (wI fu u b) λB=>Y (qc fu A B) λC=>Y (kv fu h C) λE=>Y (xq fu E a) λG=>Z [b,d,y,G]
def ZJ(a:M×(M×M))(b:M)(d:M×(M×M)):V (M×(M×M)):=Y (zM fu b d.1) λe=>Y (qu fu a.1 e) λf=>Y (zM fu b d.2.1) λg=>Y (qu fu a.2.1 g) λh=>Y (zM fu b d.2.2) λi=>Y (qu fu a.2.2 i) λj=>Z (f,h,j)
def Qp:ol ((M×(M×M))×(M×(M×M))) (M×(M×M)):=λL (b,a)=>Y (xD fu a.1) λd=>if d=0 then Z b else Y (WG fu b.1 a.1) λ(e,g,h)=>Y (ZJ fu b e a) λf=>L (a,f)
def W0(e:M)(f:M):V (M×M×M):=Y (xl fu I e.2) λg=>Y (yq fu 1) λh=>Y (yq fu 0) λi=>Y (xl fu I f.2) λj=>Y (yq fu 0) λk=>Y (yq fu 1) λl=>Y (zg (Qp fu) fu<|((g,h,i),(j,k,l))) λt3=>Y (Y (xD fu e) λm=>if m<0 then Y (u4 fu t3.2.1) λa=>B (t3.1,(a,t3.2.2)) λo=>Z o else Z t3:V (M×(M×M))) λt5=>Y (Y (xD fu f) λp=>if p<0 then Y (u4 fu t5.2.2) λb=>B (t5.1,(t5.2.1,b)) λq=>Z q else Z t5:V (M×(M×M))) λd=>Z (d.1,d.2.1,d.2.2)
def Jf(a:N M)(b:M):V (N M):=zf ((X a:J)-1) λd=>zF d (X a) λe=>B (a.getD e (I,[])) λf=>Y (W0 fu f b) λ(j,g,k)=>Y (qf fu a g) λh=>Y (xq fu h b) λi=>Z i
def Ys(g:N M)(h:J)(d:J):ol (J×(N<|N M)) (N<|N M):=λL (e,a)=>if e<d then zf (2*e) λi=>B (min i d) λf=>Y (qx fu h f) λ(j,k)=>Y (kj fu a g j) λb=>L (f,b)else Z a
def qh:wr->(xS Zr)->(xS<|xS J)->J->J->Zr->V (xS<|xS Zr)
 |0,_,_,_,_,_=>wF
 |fu+1,d,a,b,i,j=>if(X a:J)=1 then Y (Jf fu d j) λG=>Z [G]else ck ((2:J)≠0)<|zf (xdx ((X a:J)) (2:J)) λh=>zf (((X d:J))-1) λH=>jA H λv=>ck (v<=X d)<|nm (d.drop v) λn=>Y (Zv fu n b) λ(t3,t)=>jA h λw=>ck (w<=X a)<|nm (a.take w) λc=>Y (qk fu c b) λt5=>Y (kq fu t5 t3 b) λ(y,P)=>jA h λA=>ck (A<=X a)<|nm (a.drop A) λK=>Y (qk fu K b) λB=>Y (Za fu y B b) λ(Q,k,l,R)=>Y (jg fu y) λm=>Y (jg fu B) λo=>Y (jg fu k) λp=>Y (jg fu l) λq=>Y (zg (Ys fu d b i) fu<|((1:J),[m,o,p,q])) λe=>zF 0 (4) λM=>jA h λC=>ck (C<=X a)<|nm (a.take C) λr=>Y (qh fu (e.getD M []) r b i j) λf=>zF 1 (4) λN=>jA h λE=>ck (E<=X a)<|nm (a.drop E) λs=>Y (qh fu (e.getD N []) s b i j) λg=>ck ((X f+X g)*24<=140737488355328)<|nm (f++g) λu=>Z u
def jo(h:N M)(a:N (N J))(b:J)(e:J):V ((N<|N M)×J):=Y (qx fu b e) λ(f,g)=>Y (zQ fu h) λd=>if g=0 then if 65<(X d:J)then Z ([],6)else Y (vB fu d a b) λi=>if !i then Z ([],1)else if(X a:J)=0 then Z ([],0)else Y (xq fu d f) λj=>Y (qh fu j a b e f) λt3=>Z (t3,0)else Z ([],g)
def Jh(a:N M)(b:N M)(d:M):V ((N M)×J):=Y (wI fu a b) λe=>Y (Xh fu e d) λ(f,g)=>Z (f,g)
def uc(a:M)(b:M):V J:=Y (qu fu a b) λd=>Y (xD fu d) λe=>Z e
def Y8(e:M)(d:M):V (M×J):=Y (q6 fu e d) λ(a,b)=>if b=0 then Y (vQ fu a a) λf=>Y (uc fu f d) λg=>if 0<g then Y (qu fu a d) λh=>Z (h,b)else Z (a,b)else Z (a,b)
def WO(a:N M)(b:M):V ((N M)×J):=Y (qH fu a b<|λc f=>Y8 fu c f) λ(d,e)=>Z (d,e)
def Ky(b:N M):ol (J×(N M)×M×M) ((N M)×M×M):=λL (d,a,t3,e)=>Y (if d<(X b:J)then Z ((X b:J),wL)else Z ((X b:J),I):V (J×v6)) λ(k,f)=>if f then zF d (X a) λg=>B (a.getD g (I,[])) λh=>Y (Wu fu e h) λi=>zf (d+1) λj=>L (j,a,t3,i)else Z (a,t3,e)
def vP(d:N M):V M:=Y (zQ fu d) λb=>Y (yq fu 0) λe=>Y (zg (Ky fu b) fu<|(0,b,(I,[]),e)) λ(t5,j,a)=>if 0<(X t5:J)then zf ((X t5:J)-1) λf=>zF f (X t5) λg=>B ((t5.getD g (I,[])).1) λh=>if h then Y (u4 fu a) λi=>Z i else Z a else Z a
def Jz(e:J)(a:M)(b:M):V M:=Y (vX fu a b) λ(d,f)=>Z d
def wc(a:N M):V (N M):=Y (vP fu a) λb=>Y (zQ fu a) λd=>Y (zH fu d<|λc f=>Jz fu c f b) λe=>Z e
def uz(d:N (N M))(a:N J)(e:M):ol ((N M)×J×(N J)) ((N M)×(N J)):=λL (f,b,t3)=>Y (if b<(X a:J)then Z (d,e,(X a:J),wL)else Z (d,e,(X a:J),I):V ((N<|N M)×M×J×v6)) λ(g,t5,p,h)=>if h then zF b (X t3) λi=>B (t3.getD i 0) λj=>zF j (X g) λk=>B (g.getD k []) λl=>Y (Jh fu f l t5) λ(m,q)=>zf (b+1) λo=>L (m,o,t3)else Z (f,t3)
def jE(a:N M)(g:N (N M))(d:N J)(e:M):V ((N M)×(N J)):=zf ((X a:J)-1) λh=>jA h λf=>ck (f<=X a)<|B (a.drop f) λi=>Y (zg (uz fu g d e) fu<|(i,0,d)) λ(j,k)=>Y (WO fu j e) λ(l,m)=>Y (wc fu l) λb=>Z (b,k)
def qj{X Y R:Type}(fu:K)(n c:J)(g:N J->X->V (N J×(X⊕Y)))(x:X)(xs:N J)(L:X->N J->J->J->J->J->J->V R)(E:X->J->J->N J->V R)(f:Y->N J->V R):V R:=bd (g xs x) λr=>xfk (λd=>zf (n-1) λa=>bd (zg (λL i=>if 0<=i then zF i (pM r.1) λj=>B (r.1.getD j 0) λy=>zf (c-n) λe=>zf (e+i) λe=>if y=e then zf (i-1) λi=>L i else Z i else Z i) fu a) λi=>if i<0 then E d a i r.1 else zF i (pM r.1) λj=>B (r.1.getD j 0) λy=>zf (y+1) λe=>zF i (pM r.1) λj=>B (r.1.set j e) λxs=>zf (i+1) λb=>bd (zg (λL (z:J×N J)=>if z.1<n then zf (z.1-1) λe=>zF e (pM z.2) λj=>B (z.2.getD j 0) λy=>zf (y+1) λe=>zF z.1 (pM z.2) λj=>B (z.2.set j e) λxs=>zf (z.1+1) λi=>L (i,xs)else Z z.2) fu (b,xs)) λxs=>L d xs b i e y a) (λy=>f y r.1) r.2
def vj{X Y:Type}(fu:K)(n b:J)(g:N J->X->V (N J×(X⊕Y)))(a:X):V (X⊕Y):=jA n λm=>ck (8*m<=281474976710656)<|B (Nm m 0) λxs=>bd (zg (λL (z:N J×J)=>if z.2<(pM xs:J)then zF z.2 (pM z.1) λj=>B (z.1.set j z.2) λxs=>zf (z.2+1) λi=>L (xs,i)else Z z.1) fu (xs,0)) λxs=>zg (λL (q:X×N J)=>qj fu n b g q.1 q.2 (λx xs _ _ _ _ _=>L (x,xs)) (λx _ _ _=>Z (.inl x)) λy _=>Z (.inr y)) fu (a,xs)
def UA(fu:K)(b:N J)(d:J):ol J (Z3⊕J):=λL a=>if a<(X b:J)then zF a (X b) λe=>B (b.getD e 0) λf=>if d=f then Z (.inr a)else zf (a+1) λg=>L g else Z (.inl ())
def Y6(a:N J)(b:J):V J:=Y (zg (UA fu a b) fu 0) λd=>match d with
 |.inl _=>Z (-1:J)
 |.inr e=>Z e
def vW(fu:K)(b:N J)(d:J):ol J (Z3⊕J):=λL a=>if a<(X b:J)then zF a (X b) λe=>B (b.getD e 0) λf=>if d=f then Z (.inr a)else zf (a+1) λg=>L g else Z (.inl ())
def qP(a:N J)(b:J):V (J×(N J)):=Y (zg (vW fu a b) fu 0) λd=>match d with
 |.inl _=>Z<|((-1:J),a)
 |.inr e=>Z (e,a)
def ZQ(a:N J)(b:J):V v6:=Y (Y6 fu a b) λd=>if 0<=d then Z wL else Z I
def wg(b:N J)(d:J):V (v6×(N J)):=Y (qP fu b d) λ(e,a)=>if 0<=e then Z (wL,a)else Z (I,a)
def Fz(a:N (N M))(e:N J):ol ((N<|N M)×J) (N<|N M):=λL (d,b)=>Y (if b<(X a:J)then Z (e,a,(X a:J),wL)else Z (e,a,(X a:J),I):V ((N J)×(N<|N M)×J×v6)) λ(g,t3,o,h)=>if h then zF b (X t3) λi=>B (t3.getD i []) λf=>Y (ZQ fu g b) λj=>if !j then ck ((X d+X ([f]))*24<=140737488355328)<|B (d++([f])) λk=>zf (b+1) λl=>L (k,l)else zf (b+1) λm=>L (d,m)else Z d
def uJ(a:N (N M)):ol ((N<|N M)×J×(N J)) ((N<|N M)×(N J)):=λL (d,b,e)=>Y (if b<(X a:J)then Z (a,(X a:J),wL)else Z (a,(X a:J),I):V ((N<|N M)×J×v6)) λ(t3,m,h)=>if h then zF b (X t3) λi=>B (t3.getD i []) λf=>Y (wg fu e b) λ(j,g)=>if !j then ck ((X d+X ([f]))*24<=140737488355328)<|B (d++([f])) λt5=>zf (b+1) λk=>L (t5,k,g)else zf (b+1) λl=>L (d,l,g)else Z (d,e)
def xM(a:N (N M))(b:N J):V ((N<|N M)×(N J)):=Y (zg (uJ fu a) fu<|([],0,b)) λ(d,e)=>Z (d,e)
def qT(b:(v6×N K))(ys:N J)(y:N (v6×N K)×N (N<|v6×N K)×N (N<|v6×N K)):V (N J×((N (v6×N K)×N (N<|v6×N K)×N (N<|v6×N K))⊕(N (v6×N K)×N (N<|v6×N K)×N (N<|v6×N K)))):=Y (jE fu y.1 y.2.1 ys b) λc=>Y (wA fu y.1 c.1) λq=>if q.2=0 then if 1<(X c.1:J)then ck ((X y.2.2+1)*24<=140737488355328)<|B (y.2.2++[c.1]) λpr=>Y (xM fu y.2.1 c.2) λw=>Z (w.2,.inr (q.1,w.1,pr))else Z (c.2,.inl y)else Z (c.2,.inl y)
def Yp(b:(v6×N K))(x:N (v6×N K)×N (N<|v6×N K)×N (N<|v6×N K)×J)(L:N (v6×N K)×N (N<|v6×N K)×N (N<|v6×N K)×J->V (N (v6×N K)×N (N<|v6×N K)×N (N<|v6×N K))):V (N (v6×N K)×N (N<|v6×N K)×N (N<|v6×N K)):=zf (2*x.2.2.2) λd=>if d<=(X x.2.1:J)then Y (vj fu x.2.2.2 (X x.2.1:J) (qT fu b) (x.1,x.2.1,x.2.2.1)) λr=>xfk (λy=>zf (x.2.2.2+1) λi=>L (y.1,y.2.1,y.2.2,i)) (λy=>L (y.1,y.2.1,y.2.2,x.2.2.2)) r else Z (x.1,x.2.1,x.2.2.1)
def Yb(f:N (v6×N K))(a:N (N<|v6×N K))(b:(v6×N K)):V (N<|N<|v6×N K):=Y (zg (λL x=>Yp fu b x L) fu (f,a,[],1)) λx=>if 1<(X x.1:J)then Y (wc fu x.1) λq=>ck ((X x.2.2+1)*24<=140737488355328)<|B (x.2.2++[q]) λpr=>Z pr else Z x.2.2
def de(b:N M)(d:N M):ol J (Z3⊕v6):=λL a=>if 0<=a then zF a (X b) λf=>B (b.getD f (I,[])) λg=>zF a (X d) λh=>B (d.getD h (I,[])) λi=>Y (uc fu g i) λe=>if e=0 then zf (a-1) λj=>L j else if e<0 then Z (.inr wL)else Z (.inr I)else Z (.inl ())
def Xy(d:N M)(e:N M):V v6:=Y (zQ fu d) λa=>Y (zQ fu e) λb=>if(X a:J)=(X b:J)then zf ((X a:J)-1) λf=>Y (zg (de fu a b) fu f) λg=>match g with
 |.inl _=>Z I
 |.inr h=>Z h else if(X a:J)<(X b:J)then Z wL else Z I
def j8(a:N M)(b:N M):V J:=Y (Xy fu a b) λd=>if d then Z (-1:J)else Y (Xy fu b a) λe=>if e then Z 1 else Z 0
def W2(f:J)(g:M):ol (J×M×J×M) (J×M×M):=λL (a,b,d,e)=>if d<f then Y (zM fu e g) λh=>zf (d+1) λi=>L (a,b,i,h)else Z (a,b,e)
def K9(f:M)(b:J):ol (M×M×M) M:=λL (d,t3,e)=>Y (vQ fu t3 e) λg=>Y (UF fu g.2 1) λt5=>Y (xl fu I t5) λa=>Y (uc fu a t3) λh=>if h=0 then Z t3 else Y (yq fu 1) λi=>Y (zg (W2 fu b a) fu<|(b,f,0,i)) λ(m,j,k)=>Y (uc fu k j) λl=>if l<=0 then L (d,a,e)else L (d,t3,a)
def KB(b:M)(a:J):V (M×J):=if a<1 then Z ((I,[]),1)else if 64<a then Z ((I,[]),1)else Y (xD fu b) λe=>if e<0 then Z ((I,[]),1)else Y (yq fu 0) λf=>Y (Zf fu b.2) λg=>ck (a≠0)<|zf (xdx g a) λh=>zf (h+1) λi=>B (min i 262144) λj=>Y (X7 fu [(1:K)] j) λ(k,m)=>Y (xl fu I k) λl=>Y (zg (K9 fu b a) fu<|((I,[]),f,l)) λd=>Z<|(d,0)
def XN(b:N M):V J:=Y (zQ fu b) λa=>if(X a:J)=0 then Z 8 else if 65<(X a:J)then Z 6 else Z 0
def fX(b:N M):ol (J×(N M)×M×M) ((N M)×M×M):=λL (d,a,t3,e)=>Y (if d<(X b:J)then Z ((X b:J),wL)else Z ((X b:J),I):V (J×v6)) λ(l,g)=>if g then zF d (X a) λh=>B (a.getD h (I,[])) λf=>Y (zM fu f f) λi=>Y (vQ fu e i) λj=>zf (d+1) λk=>L (k,a,t3,j)else Z (a,t3,e)
def vy(a:N M):V (M×J):=Y (XN fu a) λb=>if b=0 then Y (zQ fu a) λd=>Y (yq fu (-1:J)) λe=>Y (zg (fX fu d) fu<|(0,d,(I,[]),e)) λ(t5,m,f)=>Y (KB fu f 2) λ(g,o)=>Y (yq fu 1) λh=>Y (vQ fu g h) λi=>zf ((X t5:J)-1) λj=>Y (X7 fu i.2 j) λ(k,p)=>Y (qe fu (I,k)) λl=>Z (l,0)else Z ((I,[]),b)
def VR(d:J)(e:M):ol (J×M) J:=λL (a,b)=>Y (uc fu b e) λf=>if f<=0 then Y (yq fu d) λg=>Y (zM fu b g) λh=>zf (a+1) λi=>L (i,h)else Z a
def W4(a:N M)(b:J):V J:=Y (vy fu a) λ(d,m)=>Y (yq fu 2) λe=>zf ((X a:J)-1) λf=>zF f (X a) λg=>B (a.getD g (I,[])) λh=>Y (zM fu d h) λi=>Y (zM fu e i) λj=>Y (yq fu b) λk=>Y (zg (VR fu b j) fu<|(1,k)) λl=>Z l
def QV(a:N M):V v6:=Y (vy fu a) λ(b,k)=>Y (yq fu 2) λd=>zf ((X a:J)-1) λe=>zF e (X a) λf=>B (a.getD f (I,[])) λg=>Y (zM fu b g) λh=>Y (zM fu d h) λi=>Y (Zf fu i.2) λj=>if 1000<j then Z wL else Z I
def WA(fu:K)(b:N J)(d:N J):ol J (Z3⊕J):=λL a=>if 0<=a then zF a (X b) λe=>B (b.getD e 0) λf=>zF a (X d) λg=>B (d.getD g 0) λh=>if f<h then Z (.inr (-1:J))else zF a (X b) λi=>B (b.getD i 0) λj=>zF a (X d) λk=>B (d.getD k 0) λl=>if l<j then Z (.inr 1)else zf (a-1) λm=>L m else Z (.inl ())
def vA(a:N J)(b:N J):V J:=if(X a:J)=(X b:J)then zf ((X a:J)-1) λd=>Y (zg (WA fu a b) fu d) λe=>match e with
 |.inl _=>Z 0
 |.inr f=>Z f else zf ((X a:J)-(X b:J)) λg=>Z g
def jS(fu:K)(a:N J)(b:J):V v6:=zF b (X a) λd=>B (a.getD d 0) λe=>if e=0 then Z I else Z wL
def dS(b:N J)(e:J):ol (J×(N J)) (N J):=λL (a,d)=>if a<(X b:J)then zF a (X b) λf=>B (b.getD f 0) λg=>Y (Zn fu g e) λh=>zF a (X d) λi=>B (d.set i h) λt3=>zf (a+1) λj=>L (j,t3)else Z d
def Xr(a:N J)(d:J):V (N J):=jA (X a:J) λb=>ck (8*b<=281474976710656)<|B (Nm b 0) λe=>Y (zg (dS fu a d) fu<|(0,e)) λf=>Z f
def dK(fu:K)(a:N (N J)):ol J (Z3⊕Z3):=λL b=>Y (if b<(X a:J)then Z (a,a,(X a:J),wL)else Z (a,a,(X a:J),I):V ((N<|N J)×(N<|N J)×J×v6)) λ(d,e,l,g)=>if g then zF b (X e) λh=>B (e.getD h []) λf=>if 64<(X f:J)then Z (.inr ())else zF 0 (X d) λi=>B (d.getD i []) λj=>if(X f:J)=(X j:J)then zf (b+1) λk=>L k else Z (.inr ())else Z (.inl ())
def XL(a:N (N J))(b:J):V J:=Y (vg fu b) λd=>if d=0 then if 64<(X a:J)then Z 1 else Y (zg (dK fu a) fu 0) λe=>match e with
 |.inl _=>Z 0
 |.inr _=>Z 1 else Z 1
def v8(b:N (N J))(ix:N K)(r:K)(a p:J)(lo n:K):V (N<|N J):=Y (zg (λL (x:((N (N J)×N K)×K×K)×(K×K)×K×J)=>if x.2.2.2<(n:J)then zF x.2.2.2 x.2.1.2 λj=>B (x.1.1.2.getD (x.2.1.1+j) 0) λq=>zF a (X (x.1.1.1.getD q [])) λj=>B ((x.1.1.1.getD q []).getD j 0) λy=>Y (zg (λL (z:((N (N J)×N K)×K×K)×(K×K)×K×K×K×J)=>if z.2.2.2.2.2<(X (x.1.1.1.getD x.2.2.1 []):J)then zF z.2.2.2.2.2 (X (z.1.1.1.getD z.2.2.2.1 [])) λj=>B ((z.1.1.1.getD z.2.2.2.1 []).getD j 0) λv=>zF z.2.2.2.2.2 (X (z.1.1.1.getD z.2.2.2.2.1 [])) λj=>B ((z.1.1.1.getD z.2.2.2.2.1 []).getD j 0) λu=>zf (p-y) λe=>zf (e*v) λe=>zf (u+e) λe=>ck (p≠0)<|B (xcB e p) λe=>zF z.2.2.2.2.2 (X (z.1.1.1.getD z.2.2.2.2.1 [])) λj=>B (z.1.1.1.set z.2.2.2.2.1<|(z.1.1.1.getD z.2.2.2.2.1 []).set j e) λc=>zf (z.2.2.2.2.2+1) λi=>L (((c,z.1.1.2),z.1.2),z.2.1,z.2.2.1,z.2.2.2.1,z.2.2.2.2.1,i)else Z (z.1,z.2.1,z.2.2.1)) fu (x.1,x.2.1,x.2.2.1,x.2.2.1,q,0)) λz=>zf (x.2.2.2+1) λi=>L (z.1,z.2.1,z.2.2,i)else Z x.1) fu (((b,ix),lo,n),(lo,n),r,0)) λx=>ck (x.2.1=lo/\x.2.2=n/\x.1.2=ix)<|some x.1.1
def vM(fu:K)(b:N (N J))(d:(N J)->V v6):ol J (Z3⊕J):=λL a=>if a<(X b:J)then zF a (X b) λe=>B (b.getD e []) λf=>Y (d f) λg=>if g then Z (.inr a)else zf (a+1) λh=>L h else Z (.inl ())
def yU(a:N (N J))(b:(N J)->V v6):V J:=Y (zg (vM fu a b) fu 0) λd=>match d with
 |.inl _=>Z (-1:J)
 |.inr e=>Z e
def Zg(g:N (N J))(p:J):V (N (N J)×J):=Y (XL fu g p) λe=>if e=0 then Y (zg (λL (x:(N (N J)×N K)×J)=>if x.2<(X g:J)then zF x.2 (X g) λj=>B (g.getD j []) λy=>Y (Xr fu y p) λr=>ck ((X x.1.2+1)*24<=140737488355328)<|B (x.1.1++[r]) λl=>B (x.1.2++[X x.1.1]) λn=>zf (x.2+1) λi=>L ((l,n),i)else Z x.1) fu (([],[]),0)) λx=>Y (zg (λL (x:(N (N J)×N K)×J×J)=>if x.2.1<(X x.1.2:J)then zF 0 (X x.1.2) λj=>B (x.1.2.getD j 0) λr=>if x.2.2<(X (x.1.1.getD r []):J)then jA x.2.1 λj=>ck (j<=X x.1.2)<|Y (yU fu (xdB (X x.1.2-j)<|xdO j<|x.1.2.map λr=>x.1.1.getD r []) λz=>jS fu z x.2.2) λi=>if i<0 then zf (x.2.2+1) λc=>L (x.1,x.2.1,c)else zf (x.2.1+i) λa=>zf (x.2.1+i) λb=>zF b (X x.1.2) λj=>B (x.1.2.getD j 0) λd=>zF x.2.1 (X x.1.2) λj=>B (x.1.2.getD j 0) λf=>zF x.2.1 (X x.1.2) λj=>B (x.1.2.set j d) λix=>zF a (X ix) λj=>B (ix.set j f) λix=>zF x.2.1 (X ix) λj=>B (ix.getD j 0) λr=>zF x.2.2 (X (x.1.1.getD r [])) λj=>B ((x.1.1.getD r []).getD j 0) λy=>Y (Vy fu y p) λq=>zF x.2.1 (X ix) λj=>B (ix.getD j 0) λr=>Y (zg (λL (z:(N (N J)×N K)×K×J)=>if z.2.2<(X (x.1.1.getD r []):J)then zF z.2.2 (X (z.1.1.getD z.2.1 [])) λj=>B ((z.1.1.getD z.2.1 []).getD j 0) λy=>zF x.2.1 (X z.1.2) λj=>B (z.1.2.getD j 0) λr=>zf (y*q.1) λe=>ck (p≠0)<|B (xcB e p) λe=>zF z.2.2 (X (z.1.1.getD r [])) λj=>B (z.1.1.set r<|(z.1.1.getD r []).set j e) λh=>zf (z.2.2+1) λi=>L ((h,z.1.2),z.2.1,i)else Z z.1) fu ((x.1.1,ix),r,0)) λm=>zF x.2.1 (X m.2) λj=>B (m.2.getD j 0) λr=>jA x.2.1 λj=>ck (j<=X m.2)<|Y (v8 fu m.1 m.2 r x.2.2 p 0 j) λh=>zF x.2.1 (X m.2) λj=>B (m.2.getD j 0) λr=>zf (x.2.1+1) λe=>jA e λj=>ck (j<=X m.2)<|Y (v8 fu h m.2 r x.2.2 p j<|X m.2-j) λh=>zf (x.2.1+1) λk=>zf (x.2.2+1) λc=>L ((h,m.2),k,c)else Z (x.1,x.2.1)else Z (x.1,x.2.1)) fu (x,0,0)) λx=>jA x.2 λj=>ck (j<=X (x.1.2.map λr=>x.1.1.getD r []))<|B (xdB j<|x.1.2.map λr=>x.1.1.getD r []) λys=>Z (ys,0)else Z ([],e)
def Z8(fu:K)(a:J):V v6:=if a=0 then Z I else Z wL
def vc(fu:K)(b:N J)(d:J->V v6):ol J (Z3⊕J):=λL a=>if a<(X b:J)then zF a (X b) λe=>B (b.getD e 0) λf=>Y (d f) λg=>if g then Z (.inr a)else zf (a+1) λh=>L h else Z (.inl ())
def xv(a:N J)(b:J->V v6):V J:=Y (zg (vc fu a b) fu 0) λd=>match d with
 |.inl _=>Z (-1:J)
 |.inr e=>Z e
def Vp(a:N J):V J:=Y (xv fu a<|λc=>Z8 fu c) λb=>Z b
def jk(a:N J)(b:J):V v6:=Y (Vp fu a) λd=>if d=b then Z wL else Z I
def xQ(a:N (N J))(b:(N J)->V v6):V v6:=Y (yU fu a b) λd=>if 0<=d then Z wL else Z I
def Ug(b:J)(h:J)(i:J)(t3:N (N J))(j:J):ol (J×(N<|N J)×(N J)) ((N<|N J)×(N J)):=λL (d,k,e)=>Y (if d<(X t3:J)then Z (h,i,t3,b,j,b,t3,(X t3:J),wL)else Z (h,i,t3,b,j,b,t3,(X t3:J),I):V (J×J×(N<|N J)×J×J×J×(N<|N J)×J×v6)) λ(B,l,C,m,E,G,a,o,p)=>if p then zF d (X a) λq=>nm (a.getD q []) λf=>Y (Vp fu f) λr=>zF m (X f) λs=>nm (f.getD s 0) λu=>zf (0-u) λv=>Y (Zn fu v l) λw=>zF r (X e) λy=>nm (e.set y w) λg=>zf (d+1) λA=>L (A,k,g)else Z (k,e)
def mq(b:J)(h:J)(i:N (N J)):ol ((N<|N J)×J) (N<|N J):=λL (f,a)=>Y (if a<b then Z (b,h,i,b,wL)else Z (b,h,i,b,I):V (J×J×(N<|N J)×J×v6)) λ(j,m,t3,o,p)=>if p then Y (xQ fu t3<|λc=>jk fu c a) λq=>if q then zf (a+1) λr=>L (f,r)else jA j λk=>ck (8*k<=281474976710656)<|B (Nm k 0) λl=>zF a (X l) λs=>B (l.set s 1) λt5=>Y (zg (Ug fu a j m t3 o) fu<|(0,f,t5)) λ(d,e)=>ck ((X d+X ([e]))*24<=140737488355328)<|B (d++([e])) λg=>zf (a+1) λu=>L (g,u)else Z f
def Vz(a:N (N J))(b:J)(d:J):V ((N<|N J)×J):=Y (Y (XL fu a d) λf=>if f=0 then if b<0 then Z (.inr ())else if 64<b then Z (.inr ())else if 0<(X a:J)then zF 0 (X a) λg=>B (a.getD g []) λh=>if(X h:J)=b then Z (.inl ())else Z (.inr ())else Z (.inl ())else Z (.inr ()):V (Z3⊕Z3)) λi=>match i with
 |.inl _=>Y (Zg fu a d) λ(j,k)=>Y (zg (mq fu b d j) fu<|([],0)) λe=>Z<|(e,0)
 |.inr _=>Z<|([],1)
def ku(e:N J)(f:N J)(a:J):V ((N J)×(N J)×J):=Y (vg fu a) λb=>if b=0 then Y (yi fu f a) λd=>if(X d:J)=0 then Z ([],[],3)else Y (yi fu e a) λg=>Y (xJ fu g d a) λ(t3,h)=>Z (t3,h,0)else Z ([],[],b)
def Wk(i:M)(d:J)(j:N J):ol ((N J)×(N J)×J) (N J):=λL (e,f,a)=>if 0<=a then Y (w5 fu e e d) λl=>Y (xJ fu l j d) λ(m,b)=>ck (64≠0)<|zf (xdx a 64) λo=>zF o (X i.2) λp=>B (i.2.getD p 0) λq=>ck (64≠0)<|B (xcB a 64) λk=>ck (0<=k)<|B (q/2^(min (k:J).toNat 64)) λr=>B (r &&& (1:K)) λs=>if(s:J)=(((1:K):K):J)then Y (w5 fu b f d) λg=>Y (xJ fu g j d) λ(u,h)=>zf (a-1) λv=>L (h,f,v)else zf (a-1) λw=>L (b,f,w)else Z e
def uV(f:N J)(d:M)(g:N J)(a:J):V ((N J)×J):=Y (vg fu a) λh=>if h=0 then Y (xD fu d) λi=>if i<0 then Z ([],1)else Y (yi fu g a) λb=>if(X b:J)=0 then Z ([],3)else Y (xJ fu [1] b a) λ(o,t3)=>Y (yi fu f a) λj=>Y (xJ fu j b a) λ(t5,k)=>Y (Zf fu d.2) λl=>zf (l-1) λm=>Y (zg (Wk fu d a b) fu (t3,k,m)) λe=>Z (e,0)else Z ([],1)
def XC(f:N J)(p:J):V (N<|N J):=zf ((X f:J)-1) λn=>jA n λm=>ck (24*m<=281474976710656)<|B (Nm m 0) λix=>Y (zg (λL (x:(N (N J)×N K)×J)=>if x.2<(X ix:J)then jA n λm=>ck (8*m<=281474976710656)<|B (Nm m 0) λys=>zF x.2 (X x.1.2) λj=>B (x.1.1++[ys]) λb=>B (x.1.2.set j (X x.1.1)) λix=>zf (x.2+1) λi=>L ((b,ix),i)else Z x.1) fu (([[]],ix),0)) λx=>Y (yq fu p) λz=>Y (uV fu [0,1] z f p) λq=>Y (zg (λL (x:(N (N J)×N K)×N J×N J×J)=>if x.2.2.2<n then Y (zg (λL (y:(N (N J)×N K)×J)=>if y.2<(X x.2.1:J)then zF y.2 (X x.2.1) λj=>B (x.2.1.getD j 0) λv=>zF y.2 (X y.1.2) λj=>B (y.1.2.getD j 0) λr=>zF x.2.2.2 (X (y.1.1.getD r [])) λj=>B (y.1.1.set r<|(y.1.1.getD r []).set j v) λa=>zf (y.2+1) λi=>L ((a,y.1.2),i)else Z y.1) fu (x.1,0)) λy=>zF x.2.2.2 (X y.2) λj=>B (y.2.getD j 0) λr=>zF x.2.2.2 (X (y.1.getD r [])) λj=>B ((y.1.getD r []).getD j 0) λv=>zf (v-1) λe=>zF x.2.2.2 (X (y.1.getD r [])) λj=>B (y.1.set r<|(y.1.getD r []).set j e) λa=>Y (kq fu x.2.1 x.2.2.1 p) λu=>Y (ku fu u.1 f p) λw=>zf (x.2.2.2+1) λi=>L ((a,y.2),w.2.1,x.2.2.1,i)else Z x.1) fu (x,[1],q.1,0)) λx=>Y (Vz fu (x.2.map λr=>x.1.getD r []) n p) λr=>Z r.1
def gL(a:N J)(b:N J)(d:J):V (N J):=Y (ku fu a b d) λ(e,f,g)=>Z e
def bZ(a:N J)(b:N J)(d:J):V (N J):=Y (ks fu a b d) λ(e,f)=>Z e
def Yo(b:J)(a:N J)(d:J):V J:=if b<(X a:J)then zF b (X a) λe=>B (a.getD e 0) λf=>Y (Zn fu f d) λg=>Z g else zf (b-(X a:J)) λh=>Z h
def KU(d:N J)(e:N J)(a:J):V ((N J)×J):=Y (vg fu a) λb=>if b=0 then Y (yi fu d a) λf=>Y (yi fu e a) λg=>Y (YL fu f g 1 a) λt3=>Z (t3,0)else Z ([],b)
def Jj(d:N J)(e:J)(f:N J)(a:J):V (N J):=Y (KU fu d [e] a) λ(b,k)=>if 2<a then zf (a-1) λg=>ck (2≠0)<|zf (xdx g 2) λh=>Y (yq fu h) λi=>Y (uV fu b i f a) λ(j,l)=>Y (VM fu j [1] a) λ(t3,m)=>Z t3 else Z b
def Qu(u:J)(v:xS J)(t3:xS (xS J))(e:J)(t5:xS J)(j:J)(h:J)(k:xS (xS J))(l:J)(i:xS J):ol ((xS<|xS J)×J) ((xS<|xS J)⊕(xS<|xS J)):=λL (a,d)=>if d<(X a:J)then if(X a:J)=(X t3:J)then Z (.inl a)else Y (Yo fu h v u) λw=>zF d (X a) λy=>nm (a.getD y []) λA=>Y (Jj fu i w A e) λm=>zF d (X a) λB=>nm (a.getD B []) λo=>Y (bZ fu m o e) λb=>Y (if 1<(X b:J)then zF d (X a) λC=>nm (a.getD C []) λp=>if(X b:J)<(X p:J)then Z (t3,e,t5,h,i,k,l,j,wL)else Z (t3,e,t5,h,i,k,l,j,I)else Z (t3,e,t5,h,i,k,l,j,I):V ((xS<|xS J)×J×(xS J)×J×(xS J)×(xS<|xS J)×J×J×v6)) λ(E,q,G,P,H,c,Q,R,n)=>if n then zF d (X a) λK=>nm (a.getD K []) λr=>Y (gL fu r b q) λf=>ck ((X a+X ([f]))*24<=140737488355328)<|nm (a++([f])) λg=>zF d (X g) λM=>nm (g.set M b) λs=>zf (d+1) λN=>L (s,N)else zf (d+1) λt=>L (a,t)else Z (.inr a)
def Qc(j:J)(k:N J)(h:J)(a:N (N J)):ol ((N<|N J)×J×(N J)×(N<|N J)×J) ((N<|N J)⊕((N<|N J)×J×(N J)×(N<|N J))):=λL (t3,d,t5,i,b)=>Y (if b<(X a:J)then Z (h,a,(X a:J),wL)else Z (h,a,(X a:J),I):V (J×(N<|N J)×J×v6)) λ(l,e,m,o)=>if o then zF b (X e) λp=>B (e.getD p []) λq=>Y (zg (Qu fu j k t3 d t5 b l e m q) fu<|(i,0)) λr=>match r with
 |.inl f=>Z (.inl f)
 |.inr g=>zf (b+1) λs=>L (t3,d,t5,g,s)else Z (.inr (t3,d,t5,i))
def Qq(a:N (N J))(b:J)(d:N J):ol ((N<|N J)×J) (N<|N J):=λL (h,e)=>zf (b+(X d:J)) λj=>if e<j then jA 1 λi=>ck (i<=X a)<|B (a.drop i) λk=>Y (zg (Qc fu b d e k) fu<|(a,b,d,h,0)) λl=>match l with
 |.inl f=>Z f
 |.inr (m,o,p,g)=>zf (e+1) λq=>L (g,q)else Z h
def W8(b:N J)(d:N (N J))(e:J)(f:N J):V (N<|N J):=Y (zg (Qq fu d e f) fu<|([b],0)) λa=>Z a
def jm(e:N J)(b:J):V ((N J)×J):=Y (vg fu b) λd=>if d=0 then Y (yi fu e b) λa=>if(X a:J)=0 then Z ([],0)else zf ((X a:J)-1) λf=>zF f (X a) λg=>B (a.getD g 0) λh=>Y (qy fu a h b) λi=>Z (i,0)else Z ([],d)
def bL(d:N J)(e:J):V ((N J)×J):=Y (jm fu d e) λ(a,b)=>if b=0 then if(X a:J)=0 then Z ([],8)else if 65<(X a:J)then Z ([],6)else Z (a,0)else Z ([],b)
def cH(fu:K)(e:J)(d:N J):ol ((N J)×J×(N J)) (N J):=λL (b,a,t3)=>Y (if a<(X d:J)then Z (e,(X d:J),wL)else Z (e,(X d:J),I):V (J×J×v6)) λ(f,p,h)=>if h then zF a (X t3) λi=>B (t3.getD i 0) λj=>if 0<a then ck (f≠0)<|B (xcB a f) λk=>zf (k*j) λg=>ck ((X b+X ([g]))*8<=140737488355328)<|B (b++([g])) λl=>zf (a+1) λm=>L (l,m,t3)else zf (a+1) λo=>L (b,o,t3)else Z b
def WV(e:N J)(a:J):V ((N J)×J):=Y (vg fu a) λb=>if b=0 then Y (yi fu e a) λd=>Y (zg (cH fu a d) fu<|([],0,d)) λt5=>Y (yi fu t5 a) λf=>Z (f,0)else Z ([],b)
def Q0(d:N J)(e:J):V ((N J)×J):=Y (jm fu d e) λ(a,b)=>if b=0 then if(X a:J)=0 then Z ([],8)else Z (a,b)else Z (a,b)
def YX(e:N J)(a:J):V (v6×J):=Y (Q0 fu e a) λ(b,d)=>if d=0 then Y (WV fu b a) λ(f,g)=>Y (ks fu b f a) λ(t3,h)=>if(X t3:J)=1 then Z (wL,0)else Z (I,0)else Z (I,d)
def uw(e:N J)(a:J):V ((N J)×J):=Y (bL fu e a) λ(b,d)=>if d=0 then Y (YX fu b a) λ(f,g)=>if !f then Z ([],1)else Z (b,0)else Z ([],d)
def ue(a:K):V J:=Y (xV fu a) λb=>Z b
def Zk(fu:K)(g:(N J)->(N J)->V J):ol (J×J×J×(N<|N J)) (J×J×(N<|N J)):=λL (d,e,b,a)=>if d<b then zF b (X a) λh=>B (a.getD h []) λt3=>zf (b-1) λi=>zF i (X a) λj=>B (a.getD j []) λk=>Y (g t3 k) λl=>if l<0 then zf (b-1) λm=>zf (b-1) λo=>zF o (X a) λp=>B (a.getD p []) λt5=>zF b (X a) λq=>B (a.getD q []) λr=>zF b (X a) λs=>B (a.set s t5) λf=>zF m (X f) λu=>B (f.set u r) λv=>zf (b-1) λw=>L (d,e,w,v)else Z (d,e,a)else Z (d,e,a)
def Zt(e:J)(b:J)(f:(N J)->(N J)->V J):ol (J×(N<|N J)) (N<|N J):=λL (a,d)=>if a<b then Y (zg (Zk fu f) fu (e,b,a,d)) λ(i,j,g)=>zf (a+1) λh=>L (h,g)else Z d
def vU(d:N (N J))(b:J)(e:J)(f:(N J)->(N J)->V J):V (N<|N J):=zf (b+1) λg=>Y (zg (Zt fu b e f) fu (g,d)) λa=>Z a
def jh(d:(N J)->(N J)->V J):ol (J×J×J×(N<|N J)) (N<|N J):=λL (a,b,e,f)=>zf (b-a) λg=>if g<=12 then Y (vU fu f a b d) λh=>Z h else if e=0 then wF else wF
def j7:K->(N<|N J)->J->J->J->((N J)->(N J)->V J)->V (N<|N J)
 |0,_,_,_,_,_=>wF
 |fu+1,a,b,d,e,f=>Y (zg (jh fu f) fu (b,d,e,a)) λt3=>Z t3
def wh(a:N (N J))(b:(N J)->(N J)->V J):V (N<|N J):=B (ET<|(X a:J)) λd=>Y (ue fu d) λe=>Y (j7 fu a 0 (X a:J) e b) λf=>Z f
def XG(g:N J)(a:J)(b:N J):V ((N<|N J)×J):=Y (uw fu g a) λ(d,e)=>if e=0 then if(X d:J)=1 then Z ([],e)else Y (XC fu d a) λh=>B (min (X b:J) 64) λi=>jA i λf=>ck (f<=X b)<|B (b.take f) λt3=>Y (W8 fu d h a t3) λj=>Y (wh fu j<|λc k=>vA fu c k) λt5=>Z (t5,0)else Z ([],e)
def Ka:ol J J:=λL a=>Y (Zm fu a) λb=>if !b then zf (a+1) λd=>L d else Z a
def wO(a:J):V (J×J):=if 65521<=a then Z (0,5)else B (max a 1) λb=>zf (b+1) λd=>Y (zg (Ka fu) fu d) λe=>Z<|(e,0)
def QM(a:N M)(b:J):V (v6×J):=Y (vy fu a) λ(i,d)=>if d=0 then Y (Zm fu b) λf=>if !f then Z (I,0)else Y (Zv fu a b) λ(e,j)=>Y (zQ fu a) λg=>if(X e:J)=(X g:J)then Y (YX fu e b) λ(h,k)=>Z (h,0)else Z (I,0)else Z (I,d)
def J1(l:N M)(m:N J):ol (J×J×(N<|N J)×J×J) (J×(N<|N J)):=λL (b,e,d,a,o)=>if o=0 then if e<5 then Y (QM fu l a) λ(p,v)=>if !p then Y (wO fu a) λ(q,r)=>L (b,e,d,q,r)else zf (e+1) λf=>Y (Zv fu l a) λ(s,w)=>Y (XG fu s a m) λ(t3,y)=>if b=0 then Y (wO fu a) λ(u,g)=>L (a,f,t3,u,g)else if(X t3:J)<(X d:J)then Y (wO fu a) λ(h,i)=>L (a,f,t3,h,i)else Y (wO fu a) λ(j,k)=>L (b,f,d,j,k)else Z (b,d)else Z (b,d)
def QK(a:N M)(b:N J):V (J×(N<|N J)):=Y (wO fu 1) λ(d,e)=>Y (zg (J1 fu a b) fu<|(0,0,[],d,e)) λ(f,g)=>Z (f,g)
def tW(a:J):ol (J×M×M) (M×M):=λL (b,d,e)=>Y (if b<a then Z (a,a,wL)else Z (a,a,I):V (J×J×v6)) λ(f,q,g)=>if g then zf (f+b) λh=>zf (h+1) λi=>Y (yq fu i) λj=>Y (zM fu e j) λk=>zf (b+1) λl=>Y (yq fu l) λm=>Y (vX fu k m) λ(o,r)=>zf (b+1) λp=>L (p,d,o)else Z (d,e)
def eC(a:J):V M:=Y (yq fu 1) λb=>Y (zg (tW fu a) fu<|(0,(I,[]),b)) λ(t3,d)=>Z d
def Bl:ol (J×M×M) M:=λL (b,a,d)=>if 0<b then B (Tn b 1) λe=>if e=1 then Y (zM fu d a) λf=>Y (zM fu a a) λg=>B (xfY b<|2^(min ((1:K):J).toNat 64)) λh=>L (h,g,f)else Y (zM fu a a) λi=>B (xfY b<|2^(min ((1:K):J).toNat 64)) λj=>L (j,i,d)else Z d
def Ya(a:M)(b:J):V M:=Y (yq fu 1) λd=>Y (zg (Bl fu) fu (b,a,d)) λt3=>Z t3
def A8(a:N M)(d:N M):ol (J×M×M) (M×M):=λL (b,e,f)=>Y (if b<(X a:J)then Z (d,a,(X a:J),wL)else Z (d,a,(X a:J),I):V ((N M)×(N M)×J×v6)) λ(t3,g,q,h)=>if h then zF b (X g) λi=>B (g.getD i (I,[])) λj=>zF b (X t3) λk=>B (t3.getD k (I,[])) λl=>Y (zM fu j l) λm=>Y (vQ fu f m) λo=>zf (b+1) λp=>L (p,e,o)else Z (e,f)
def mo(a:N M)(b:N M):V M:=Y (yq fu 0) λd=>Y (zg (A8 fu a b) fu<|(0,(I,[]),d)) λ(t5,e)=>Z e
def lR(a:N M)(b:N M):V (M×J):=if(X a:J)=(X b:J)then Y (mo fu a b) λd=>Z (d,0)else Z ((I,[]),1)
def eD(a:N M):V M:=Y (lR fu a a) λ(b,d)=>Z b
def CU(f:M)(a:M):ol (J×M) (Z3⊕J):=λL (b,e)=>if b<=1000 then Y (uc fu e f) λg=>if 0<g then Z (.inr b)else Y (zM fu e a) λd=>zf (b+1) λh=>L (h,d)else Z (.inl ())
def ou(g:N M)(h:J)(d:J):V (J×J):=Y (vy fu g) λ(C,i)=>if i=0 then Y (wc fu g) λj=>zf ((X j:J)-1) λa=>Y (Zm fu h) λk=>if !k then Z (0,1)else if d<1 then Z (0,1)else if a<d then Z (0,1)else zf (a-1) λe=>Y (yq fu 2) λl=>zf (e*a) λm=>Y (Ya fu l m) λo=>Y (eC fu e) λp=>Y (Ya fu p a) λq=>Y (eD fu j) λr=>zf (e+a) λs=>Y (Ya fu r s) λu=>Y (zM fu q u) λv=>Y (zM fu o v) λw=>Y (yq fu h) λf=>zf (2*d) λy=>Y (Ya fu f y) λb=>Y (zg (CU fu w b) fu<|(1,b)) λA=>match A with
 |.inl _=>Z<|(0,6)
 |.inr B=>Z (B,0)else Z (0,i)
def By(a:N J)(b:N J)(d:J):V v6:=Y (ku fu b a d) λ(f,e,g)=>if(X e:J)=0 then Z wL else Z I
def Qv(d:J):ol ((N M)×(N<|N J)) ((N M)×(N<|N J)):=λL (b,a)=>if 12<(X a:J)then zF 0 (X a) λe=>B (a.getD e []) λf=>zf ((X f:J)-1) λg=>Y (ou fu b d g) λ(h,i)=>if i=0 then Y (jo fu b a d h) λ(t3,k)=>if(X t3:J)=0 then Z (b,a)else zF 0 (X t3) λj=>B (t3.getD j []) λl=>wF else Z (b,a)else Z (b,a)
def WU(a:N M)(b:N (N J))(d:J):V ((N<|N M)×(N M)×(N<|N J)):=Y (zg (Qv fu d) fu (a,b)) λ(t5,e)=>Z ([],t5,e)
def kR(fu:K)(g:(N M)->(N M)->V J):ol (J×J×J×(N<|N M)) (J×J×(N<|N M)):=λL (d,e,b,a)=>if d<b then zF b (X a) λh=>B (a.getD h []) λt3=>zf (b-1) λi=>zF i (X a) λj=>B (a.getD j []) λk=>Y (g t3 k) λl=>if l<0 then zf (b-1) λm=>zf (b-1) λo=>zF o (X a) λp=>B (a.getD p []) λt5=>zF b (X a) λq=>B (a.getD q []) λr=>zF b (X a) λs=>B (a.set s t5) λf=>zF m (X f) λu=>B (f.set u r) λv=>zf (b-1) λw=>L (d,e,w,v)else Z (d,e,a)else Z (d,e,a)
def kS(e:J)(b:J)(f:(N M)->(N M)->V J):ol (J×(N<|N M)) (N<|N M):=λL (a,d)=>if a<b then Y (zg (kR fu f) fu (e,b,a,d)) λ(i,j,g)=>zf (a+1) λh=>L (h,g)else Z d
def w7(d:N (N M))(b:J)(e:J)(f:(N M)->(N M)->V J):V (N<|N M):=zf (b+1) λg=>Y (zg (kS fu b e f) fu (g,d)) λa=>Z a
def vV(d:(N M)->(N M)->V J):ol (J×J×J×(N<|N M)) (N<|N M):=λL (a,b,e,f)=>zf (b-a) λg=>if g<=12 then Y (w7 fu f a b d) λh=>Z h else if e=0 then wF else wF
def qG:K->(N<|N M)->J->J->J->((N M)->(N M)->V J)->V (N<|N M)
 |0,_,_,_,_,_=>wF
 |fu+1,a,b,d,e,f=>Y (zg (vV fu f) fu (b,d,e,a)) λt3=>Z t3
def yL(a:N (N M))(b:(N M)->(N M)->V J):V (N<|N M):=B (ET<|(X a:J)) λd=>Y (ue fu d) λe=>Y (qG fu a 0 (X a:J) e b) λf=>Z f
def QW(a:N M)(g:N J):V ((N<|N M)×v6):=if(X a:J)<2 then Z ([],wL)else Y (QV fu a) λh=>if h then Z ([],I)else Y (QK fu a g) λ(b,i)=>if b=0 then Z ([],I)else Y (W4 fu a b) λe=>Y (qx fu b e) λ(j,p)=>Y (WU fu a i b) λ(d,t3,k)=>if 1<(X t3:J)then Y (jo fu t3 k b e) λ(t5,q)=>Y (Yb fu t3 t5 j) λf=>ck ((X d+X f)*24<=140737488355328)<|B (d++f) λl=>Y (yL fu l<|λc n=>j8 fu c n) λm=>Z (m,wL)else Y (yL fu d<|λc n=>j8 fu c n) λo=>Z (o,wL)
def dQ(d:M)(e:J):ol (J×M) M:=λL (a,b)=>if a<e then Y (zM fu b d) λf=>zf (a+1) λg=>L (g,f)else Z b
def Q1(a:M)(b:J):V M:=Y (yq fu 1) λd=>Y (zg (dQ fu a b) fu<|(0,d)) λe=>Z e
def V8(l:M):ol ((N M)×(N M)×J×(N M)) ((N M)×(N M)):=λL (t5,b,a,e)=>if 0<=a then zf (a+(X t5:J)) λm=>if(X b:J)<m then zf (a-1) λo=>L (t5,b,o,e)else zf (a+(X t5:J)) λp=>zf (p-1) λq=>zF q (X b) λr=>B (b.getD r (I,[])) λs=>Y (vX fu s l) λ(u,v)=>zF a (X e) λw=>B (e.set w u) λf=>jA a λj=>ck (32*j<=281474976710656)<|B (Nm j (I,[])) λk=>zF a (X f) λy=>B (f.getD y (I,[])) λA=>Y (qf fu t5 A) λd=>ck ((X k+X d)*32<=140737488355328)<|B (k++d) λg=>Y (kv fu b g) λh=>zf (a-1) λi=>L (t5,h,i,f)else Z (b,e)
def Yg(j:N M)(k:N M):V ((N M)×(N M)×J):=Y (zQ fu j) λg=>Y (zQ fu k) λa=>if(X a:J)=0 then Z ([],[],3)else zf ((X g:J)-(X a:J)) λl=>zf (l+1) λm=>B (max m 0) λb=>zf ((X a:J)-1) λo=>zF o (X a) λp=>B (a.getD p (I,[])) λh=>Y (Q1 fu h b) λq=>Y (qf fu g q) λt3=>jA b λi=>ck (32*i<=281474976710656)<|B (Nm i (I,[])) λr=>zf (b-1) λs=>Y (zg (V8 fu h) fu (a,t3,s,r)) λ(d,e)=>Y (zQ fu e) λf=>Z<|(f,d,0)
def oz:ol ((N M)×(N M)) (N M):=λL (t3,a)=>if 0<(X a:J)then Y (Yg fu t3 a) λ(t5,b,e)=>Y (wc fu b) λd=>L (a,d)else Z t3
def Wi(a:N M)(b:N M):V (N M):=Y (vP fu a) λd=>Y (vP fu b) λe=>Y (Wu fu d e) λf=>Y (wc fu a) λg=>Y (wc fu b) λh=>Y (zg (oz fu) fu (g,h)) λi=>Y (qf fu i f) λj=>Z j
def Qf(a:J)(b:M):V M:=Y (yq fu a) λd=>Y (zM fu b d) λe=>Z e
def WX(d:N M):V (N M):=Y (zH fu d<|λc g=>Qf fu c g) λa=>B (min (X a:J) 1) λe=>jA e λb=>ck (b<=X a)<|B (a.drop b) λf=>Y (zQ fu f) λt3=>Z t3
def sY(a:N M)(b:N M):V (N M):=Y (wA fu a b) λ(d,e)=>Z d
def qA(b:N M):V ((N M)×J):=Y (XN fu b) λd=>if d=0 then Y (wc fu b) λa=>Y (WX fu a) λe=>Y (Wi fu a e) λt3=>Y (sY fu a t3) λf=>Z (f,0)else Z ([],d)
def Wh(e:N M)(a:N (N M)):ol ((N<|(N M)×J)×J×M×(N<|N M)) ((N<|(N M)×J)×M):=λL (t3,b,f,t5)=>Y (if b<(X a:J)then Z (e,(X a:J),wL)else Z (e,(X a:J),I):V ((N M)×J×v6)) λ(h,m,i)=>if i then zF b (X t5) λj=>B (t5.getD j []) λd=>Y (Y4 fu h d) λg=>ck ((X t3+X ([(d,g)]))*32<=140737488355328)<|B (t3++([(d,g)])) λk=>zf (b+1) λl=>L (k,l,f,t5)else Z (t3,f)
def vE(a:N M)(e:N J):V (M×(N<|(N M)×J)×J):=Y (qA fu a) λ(f,b)=>if b=0 then Y (QW fu f e) λ(d,g)=>if !g then Z ((I,[]),[],6)else Y (zg (Wh fu a d) fu<|([],0,(I,[]),d)) λ(h,i)=>Y (vP fu a) λj=>Z (j,h,0)else Z ((I,[]),[],b)
def wm(d:N M):V (v6×J):=Y (vE fu d []) λ(g,b,a)=>if a=0 then if(X b:J)=1 then zF 0 (X b) λe=>B ((b.getD e ([],0)).2) λf=>if f=1 then Z (wL,a)else Z (I,a)else Z (I,a)else Z (I,a)
def Ub(a:N M):ol (J×(((N M)×(N<|M×(N K)))×(N<|M×(N K)))) (((N M)×(N<|M×(N K)))×(N<|M×(N K))):=λL (d,b)=>Y (if d<(X a:J)then Z (a,a,(X a:J),wL)else Z (a,a,(X a:J),I):V ((N M)×(N M)×J×v6)) λ(t3,e,o,g)=>if g then zF d (X e) λh=>B (e.getD h (I,[])) λi=>zf ((X t3:J)-1) λj=>zF j (X t3) λk=>B (t3.getD k (I,[])) λl=>Y (We fu i l) λ(f,p)=>ck ((X b.2+X ([f]))*56<=140737488355328)<|B (b.2++([f])) λt5=>zf (d+1) λm=>L (m,(b.1,t5))else Z (b.1,b.2)
def VK(d:N M):V ((V<|(N M)×(N<|M×(N K)))×J):=Y (wc fu d) λa=>if 17<(X a:J)then Z ((wF:V ((N M)×(N<|M×(N K)))),6)else if(X a:J)<2 then Z ((wF:V ((N M)×(N<|M×(N K)))),7)else Y (wm fu a) λ(e,f)=>if f=0 then if !e then Z ((wF:V ((N M)×(N<|M×(N K)))),7)else Y (zg (Ub fu a) fu<|(0,((a,[]),([]:N (M×(N K)))))) λb=>Z ((Z (b.1.1,b.2)),0)else Z ((wF:V ((N M)×(N<|M×(N K)))),6)
def xW(fu:K)(a:V ((N M)×(N<|M×(N K)))):V v6:=if(a).isNone=wL then Z wL else Y (a) λb=>if(X b.1:J)=0 then Z wL else Z I
def jQ(a:J):V (M×(N K)):=Y (yq fu a) λb=>Z<|(b,[(1:K)])
def YU(a:M×(N K)):V M:=Y (qe fu (I,a.2)) λb=>Z b
def wk(a:M×(N K)):V (M×(N K)):=Y (YU fu a) λb=>Y (We fu a.1 b) λ(d,e)=>if e=0 then Z d else Y (jQ fu 0) λf=>Z f
def Wx(d:M×(N K))(e:M×(N K)):V (M×(N K)):=Y (wk fu d) λa=>Y (wk fu e) λb=>Y (zM fu a.1 b.1) λf=>Y (Zx fu a.2 b.2) λg=>Y (wk fu (f,g)) λh=>Z h
def JX(a:M×(N K)):V J:=Y (wk fu a) λb=>Y (xD fu b.1) λd=>Z d
def Vc(d:M×(N K))(e:M×(N K))(f:M->M->V M):V (M×(N K)):=Y (wk fu d) λa=>Y (wk fu e) λb=>Y (YU fu b) λg=>Y (zM fu a.1 g) λh=>Y (YU fu a) λi=>Y (zM fu b.1 i) λj=>Y (f h j) λk=>Y (Zx fu a.2 b.2) λl=>Y (wk fu (k,l)) λm=>Z m
def XE(a:M)(b:M)(d:v6):V M:=if d then Y (qu fu a b) λe=>Z e else Y (vQ fu a b) λf=>Z f
def XF(a:M×(N K))(b:M×(N K))(d:v6):V (M×(N K)):=Y (Vc fu a b<|λc f=>XE fu c f d) λe=>Z e
def ah(a:M×(N K))(b:M×(N K)):V (M×(N K)):=Y (XF fu a b wL) λd=>Z d
def YB(e:(N M)×(N<|M×(N K)))(a:N (M×(N K))):ol (J×(N<|M×(N K))) (N<|M×(N K)):=λL (b,d)=>Y (if b<(X a:J)then Z (e,a,(X a:J),wL)else Z (e,a,(X a:J),I):V (((N M)×(N<|M×(N K)))×(N<|M×(N K))×J×v6)) λ(t3,f,m,g)=>if g then zF b (X f) λh=>B (f.getD h<|((I,[]),[])) λi=>Y (wk fu i) λj=>zF b (X d) λk=>B (d.set k j) λt5=>zf (b+1) λl=>L (l,t5)else Z d
def Yy(h:J)(i:(N M)×(N<|M×(N K)))(a:J):ol (J×(N<|M×(N K))×(M×(N K))) (N<|M×(N K)):=λL (b,d,e)=>Y (if b<a then Z (i,a,h,a,wL)else Z (i,a,h,a,I):V (((N M)×(N<|M×(N K)))×J×J×J×v6)) λ(f,j,k,C,l)=>if l then zf (k-j) λm=>zf (m+b) λo=>zf (k-j) λp=>zf (p+b) λq=>zF q (X d) λr=>nm (d.getD r<|((I,[]),[])) λs=>zF b (X f.2) λu=>nm (f.2.getD u<|((I,[]),[])) λv=>Y (Wx fu e v) λw=>Y (ah fu s w) λy=>zF o (X d) λA=>nm (d.set A y) λg=>zf (b+1) λB=>L (B,g,e)else Z d
def YA(m:(N M)×(N<|M×(N K)))(f:J):ol ((N<|M×(N K))×J) ((N<|M×(N K))⊕(N<|M×(N K))):=λL (b,a)=>if 0<=a then zF a (X b) λr=>B (b.getD r<|((I,[]),[])) λo=>Y (if f<=a then Z (m,f,wL)else Z (m,f,I):V (((N M)×(N<|M×(N K)))×J×v6)) λ(s,u,v)=>if v then Y (zg (Yy fu a s u) fu<|(0,b,o)) λd=>jA a λp=>ck (p<=X d)<|B (d.take p) λg=>zf (a-1) λw=>L (g,w)else Y (JX fu o) λh=>if h=0 then jA a λq=>ck (q<=X b)<|B (b.take q) λi=>zf (a-1) λj=>L (i,j)else zf (a+1) λk=>jA k λe=>ck (e<=X b)<|B (b.take e) λl=>Z (.inr l)else Z (.inl b)
def xy(a:(N M)×(N<|M×(N K)))(e:N (M×(N K))):V (N<|M×(N K)):=jA (X e:J) λf=>ck (56*f<=281474976710656)<|B (Nm f<|((I,[]),[])) λh=>Y (zg (YB fu a e) fu<|(0,h)) λg=>zf ((X a.2:J)-1) λi=>zf ((X g:J)-1) λj=>Y (zg (YA fu a i) fu (g,j)) λk=>match k with
 |.inl b=>Z b
 |.inr d=>Z d
def ab(a:M×(N K))(b:M×(N K)):V (M×(N K)):=Y (XF fu a b I) λd=>Z d
def kL(e:J)(g:N (M×(N K)))(i:(N M)×(N<|M×(N K)))(j:N (M×(N K)))(k:J):ol (J×(N<|M×(N K))×(N<|M×(N K))×(M×(N K))) ((N<|M×(N K))×(N<|M×(N K))):=λL (a,f,b,d)=>Y (if a<(X g:J)then Z (i,e,j,k,e,(X g:J),wL)else Z (i,e,j,k,e,(X g:J),I):V (((N M)×(N<|M×(N K)))×J×(N<|M×(N K))×J×J×J×v6)) λ(m,l,o,E,G,H,p)=>if p then zF a (X f) λq=>nm (f.getD q<|((I,[]),[])) λr=>zf (l+a) λs=>zf (l+a) λu=>zF u (X b) λv=>nm (b.getD v<|((I,[]),[])) λw=>Y (Wx fu d r) λy=>Y (ab fu w y) λA=>zF s (X b) λB=>nm (b.set B A) λh=>zf (a+1) λC=>L (C,f,h,d)else Z (f,b)
def kT(g:(N M)×(N<|M×(N K)))(a:N (M×(N K))):ol (J×(N<|M×(N K))×(N<|M×(N K))) (N<|M×(N K)):=λL (b,h,t5)=>Y (if b<(X a:J)then Z (g,a,(X a:J),wL)else Z (g,a,(X a:J),I):V (((N M)×(N<|M×(N K)))×(N<|M×(N K))×J×v6)) λ(i,d,j,k)=>if k then zF b (X d) λl=>B (d.getD l<|((I,[]),[])) λm=>Y (zg (kL fu b h i d j) fu<|(0,h,t5,m)) λ(e,f)=>zf (b+1) λo=>L (o,e,f)else Z t5
def xF(a:(N M)×(N<|M×(N K)))(h:N (M×(N K)))(i:N (M×(N K))):V (N<|M×(N K)):=Y (xy fu a h) λe=>Y (xy fu a i) λf=>zf ((X e:J)+(X f:J)) λj=>jA j λg=>ck (56*g<=281474976710656)<|B (Nm g<|((I,[]),[])) λt3=>Y (zg (kT fu a e) fu<|(0,f,t3)) λb=>Y (xy fu a b) λd=>Z d
def YC(d:(N M)×(N<|M×(N K)))(a:N (M×(N K)))(e:J):ol (J×(N<|M×(N K))) (N<|M×(N K)):=λL (b,t3)=>Y (if b<(X a:J)then Z (e,d,a,(X a:J),wL)else Z (e,d,a,(X a:J),I):V (J×((N M)×(N<|M×(N K)))×(N<|M×(N K))×J×v6)) λ(f,s,t5,u,g)=>if g then zF b (X t5) λh=>B (t5.getD h<|((I,[]),[])) λi=>zF b (X t3) λj=>B (t3.getD j<|((I,[]),[])) λk=>Y (jQ fu f) λl=>Y (Wx fu i l) λm=>Y (ab fu k m) λo=>zF b (X t3) λp=>B (t3.set p o) λq=>zf (b+1) λr=>L (r,q)else Z t3
def vk(a:(N M)×(N<|M×(N K)))(b:N (M×(N K)))(d:N (M×(N K)))(f:J):V (N<|M×(N K)):=B (max (X b:J)<|(X d:J)) λg=>jA g λe=>ck (56*e<=281474976710656)<|B (Nm e<|((I,[]),[])) λh=>B (Hg h b) λi=>Y (zg (YC fu a d f) fu<|(0,i)) λj=>Y (xy fu a j) λk=>Z k
def EK:ol (N<|M×(N K)) (N<|M×(N K)):=λL a=>if 0<(X a:J)then zf ((X a:J)-1) λd=>zF d (X a) λe=>B (a.getD e<|((I,[]),[])) λf=>Y (JX fu f) λg=>if g=0 then zf ((X a:J)-1) λh=>jA h λb=>ck (b<=X a)<|B (a.take b) λi=>L i else Z a else Z a
def au(a:N (M×(N K))):V (N<|M×(N K)):=Y (zg (EK fu) fu a) λt3=>Z t3
def tK(d:M×(N K))(e:M×(N K)):V ((M×(N K))×J):=Y (wk fu d) λa=>Y (wk fu e) λb=>Y (YU fu b) λf=>Y (zM fu a.1 f) λg=>Y (YU fu a) λh=>Y (zM fu b.1 h) λi=>Y (We fu g i) λ(j,k)=>Z (j,k)
end
end
end Go.Proofs.YtoegnnjcmlghhaaGreat
