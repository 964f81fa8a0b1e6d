/- What a proof needs: rules of walking, mirrors of functions and their plain laws. No condition. -/
import Derived.Test.YtoegnnjcmlghhaaGreatZf3
import Derived.Below
import Derived.Lib.Join
import Derived.Shelf.Strings.Builder1
import Derived.Shelf.Strings.Builder2
import Derived.Shelf.Strings.OnBuilder
import Derived.Shelf.Small.Bits
import Derived.Shelf.Strconv.Itoa0
import Derived.Shelf.Bits.Mul64
import Derived.Ground.Names2Prog
import Derived.Shelf.Slices.ReverseS
import Derived.Shelf.Slices.SearchI
import Derived.Shelf.Slices.Cells
import Derived.Ground.SlgnProg
import Derived.Shelf.SlicesE.Clone
set_option linter.all false
namespace Go.Proofs
open Go.Shelf
def Tryz.lays156_ren:Go.Shelf.Ren:=⟨fun|156=>164|165=>199|166=>200|169=>201|240=>236|241=>237|276=>268|277=>269|n=>n,fun|31=>159|9=>9|3=>3|4=>4|0=>0|20=>20|72=>194|76=>198|70=>192|37=>190|75=>197|127=>221|164=>247|5=>5|80=>200|n=>n,fun|n=>n⟩
theorem Tryz.lays156:Go.Proofs.Lays.n156 Tryz.prog Tryz.lays156_ren:={
  mixed:=by kernel_rfl
  f156:=Tryz.func164.trans (congrArg some (by kernel_rfl))
  f165:=Tryz.func199.trans (congrArg some (by kernel_rfl))
  f166:=Tryz.func200.trans (congrArg some (by kernel_rfl))
  f169:=Tryz.func201.trans (congrArg some (by kernel_rfl))
  f240:=Tryz.func236.trans (congrArg some (by kernel_rfl))
  f241:=Tryz.func237.trans (congrArg some (by kernel_rfl))
  f276:=Tryz.func268.trans (congrArg some (by kernel_rfl))
  f277:=Tryz.func269.trans (congrArg some (by kernel_rfl))
  t0:=Tryz.underlying0
  a0:=Tryz.isAgg0
  z0:=Tryz.sizeOf0
  v0:=Tryz.zeroValue0
  t3:=Tryz.underlying3
  a3:=Tryz.isAgg3
  z3:=Tryz.sizeOf3
  v3:=Tryz.zeroValue3
  t4:=Tryz.underlying4
  a4:=Tryz.isAgg4
  z4:=Tryz.sizeOf4
  v4:=Tryz.zeroValue4
  t9:=Tryz.underlying9
  a9:=Tryz.isAgg9
  z9:=Tryz.sizeOf9
  v9:=Tryz.zeroValue9
  t20:=Tryz.underlying20
  a20:=Tryz.isAgg20
  z20:=Tryz.sizeOf20
  v20:=Tryz.zeroValue20
  t31:=Tryz.underlying159
  a31:=Tryz.isAgg159
  z31:=Tryz.sizeOf159
  v31:=Tryz.zeroValue159
  t37:=Tryz.underlying190
  a37:=Tryz.isAgg190
  z37:=Tryz.sizeOf190
  v37:=Tryz.zeroValue190
  t70:=Tryz.underlying192
  a70:=Tryz.isAgg192
  z70:=Tryz.sizeOf192
  v70:=Tryz.zeroValue192
  t72:=Tryz.underlying194
  a72:=Tryz.isAgg194
  z72:=Tryz.sizeOf194
  v72:=Tryz.zeroValue194
  t75:=Tryz.underlying197
  a75:=Tryz.isAgg197
  z75:=Tryz.sizeOf197
  v75:=Tryz.zeroValue197
  t76:=Tryz.underlying198
  a76:=Tryz.isAgg198
  z76:=Tryz.sizeOf198
  v76:=Tryz.zeroValue198
  t127:=Tryz.underlying221
  a127:=Tryz.isAgg221
  z127:=Tryz.sizeOf221
  v127:=Tryz.zeroValue221
  t164:=Tryz.underlying247
  a164:=Tryz.isAgg247
  z164:=Tryz.sizeOf247
  v164:=Tryz.zeroValue247}
theorem Tryz.Builder_Extra_156:Builder.Extra Tryz.prog Tryz.lays156_ren:={
  sizeBuilder:=by kernel_rfl
  liesBuilder:=by kernel_rfl
  t5:=Tryz.underlying5
  a5:=Tryz.isAgg5
  z5:=Tryz.sizeOf5
  v5:=Tryz.zeroValue5
  infoByte:=by kernel_rfl
  cellsByte:=by kernel_rfl
  sizeByte:=by kernel_rfl
  neB5:=by decide}
open Go.RowKit in
theorem Tryz.strings_Join_none(a:Option Addr)(c:Nat)(sep:ByteArray)(w:World):
    Calls Tryz.prog 164 #[.slice a 0 c,.string sep] w fun e w'=>e=.returned (.string ⟨#[]⟩)∧w'=w:=Any.strings_Join_none Tryz.lays156 Tryz.Builder_Extra_156 a c sep w
open Go.RowKit in
theorem Tryz.strings_Join(bk o c:Nat)(xs:List ByteArray)(sep:ByteArray)(w:World)(hcells:∀(j:Nat) x,xs[j]? =some x→w.cell? ⟨bk,o+j,none⟩=some (.string x))(hbk:bk<w.heap.size)(hN:xs.length≤140737488355328)(hcap:xs.length≤c)(hlen:(Lib.join (xs.map (·.data.toList)) sep.data.toList).length≤140737488355328):
    Calls Tryz.prog 164 #[.slice (some ⟨bk,o,none⟩) xs.length c,.string sep] w fun e w'=>e=.returned (.string ⟨(Lib.join (xs.map (·.data.toList)) sep.data.toList).toArray⟩)∧Below w.heap.size w w':=Any.strings_Join Tryz.lays156 Tryz.Builder_Extra_156 bk o c xs sep w hcells hbk hN hcap hlen
end Go.Proofs
namespace Go.Proofs.YtoegnnjcmlghhaaGreat
open Bool renaming false->I,true->wF
open Go renaming Value->wN,World->wP,TypeId->wT,Operand->v6,Program->jp,undef->uP,FuncId->Z5,Code->Wn,resolve->Wr,ResultVar->WL,wpIn_mono->WT,invoke->V1,results->V9,Func->QR,Act->Jp,Addr->JP,Calls->Us,run_endRound->bV,Loop->ce
open Go.Proofs.YtoegnnjcmlghhaaGreat renaming Zr->M,bd->Y,za->U,nm->B,ze->Q
open List renaming length->X,length->i0
open Nat renaming beq->E
open Option renaming some->Z,none->wL
open _root_ renaming rfl->O,List->N,Int->J,Nat->K,Option->V,List->xS,Int->wl,Nat->wr,Option->ww,absurd->wR,trivial->wS,Bool->wW,congrArg->kW,Array->ul,cond_true->Z0,Unit->Z4,True->XS,ByteArray->Wd,or_false->UL
open Bool renaming and_eq_true->xab
open Ending renaming returned->xeG
open Extern renaming find->xeW,findNext->xeE
open Extern.MathBitsCarry renaming m64->xaY,pair->xbU,three->xbO
open Fence renaming wide->xfZ
open Int renaming fdiv->xfV,tdiv->xct,tmod->xca
open Lib renaming bitLen->xeZ
open List renaming all_eq_true->xaN,append_assoc->xaf,append_nil->xbP,cons_append->xbF,drop->xdM,getD_eq_getElem?_getD->H1,getElem?_append_right->xbj,getElem?_cons_zero->xbB,getElem?_eq_getElem->xah,getElem?_eq_some_iff->xaq,getElem?_map->xcg,getElem?_range->xdR,intercalate->xfL,length->xaF,length_append->xap,length_cons->xau,length_map->xbd,length_replicate->xaZ,map_append->xaW,map_congr_left->xci,map_cons->xcb,map_map->xdb,mem_append->So,mem_cons->xaa,mem_cons_self->FS,mem_singleton->xad,nil_append->xby,not_mem_nil->IR,perm_append_comm_assoc->xdT,perm_middle->xcn,range->xaH,replicate->xac,singleton_append->xfD,take->xdB
open List.Perm renaming append_left->xbL,swap->xdP
open Nat renaming add_zero->xbK,beq->xaj,ble->xfY,blt->xdh,le_add_right->xbM,le_of_ble_eq_true->xbJ,le_trans->xal,lt_of_lt_of_le->xao,lt_succ_self->xbS,sub_self->xcQ,zero_add->xaJ,zero_lt_one->xdS
open Option.some renaming inj->xdC,injEq->xar
open Prod.mk renaming injEq->xcO
open Sum renaming elim->xfB
open UInt8 renaming ofNat->xeX,toNat->xfu
open _root_.Array renaming getD_eq_getD_getElem?->xbl,getElem?_eq_some_iff->xbi,length_toList->xeU,replicate->xeA,toArray_toList->xcX
section
def Gr(P:jp)(cf:Cf)(n:wr)(c:Wn):Prop:=∀{R:Type}{r:R}{fr:Fr}{cx σ:Sg}{K:Tg->Sg->V R}{Q:Qd}{N:Nd},N.n=n->(N.rd=wL\/IE c=wF)->den cf c cx σ K=Z r->∀{Ds:xS wr}{env:y8}{w:wP},
 (∀t σ',K t σ'=Z r->∀b a w',nU cx env a->Yn P (fr.wd b) cx σ' a w'->Q (tgE t) b a w')->Yn P (fr.wd Ds) cx σ env w->H9 P N c Q Ds env w
def zoK:wN->N wN
 |.tuple us=>us.toList
 |_=>[]
def YF(u:wN)(k:K):wN:=(zoK u).getD k uP
def N4(vs:K->wN)(m:K):wN:=.tuple ((xaH m).map vs).toArray
def zjG{vs:K->wN}{m k:K}(h:k<m):YF (N4 vs m) k=vs k:=by
 simp[YF,N4,zoK,H1,h]
def tgC:Tg->Wn
 |.n=> .skip
 |.x i=> .exit i
 |.r=> .ret
section
variable{P:jp}{cf:Cf}{fr:Fr}{cx cx' kp σ:Sg}{vs vs':wr->wN}{env env':y8}{w:wP}{we:wP}{Se:wr->Prop}{F:xS MF}{G:xS FF}{n D l:wr}{ds:xS (wr×TF)}{x:Qp ds}{u:wN}{rc:ce}
def zcE(P:jp)(env:y8)(cx':Sg)(n:K)(ds:N (K×TF))(D l:K)(rc:ce)(x:Qp ds)(u:wN):MF:=
 Dy (mPr (JM ds env λj=>YF u<|n+j)::mFF (RS P (YF u) env cx'.rg)::be l rc::vn D::(VF (λj=>YF u<|n+j) ds x 0++MS (YF u) cx'.ob))
def zby(h:St we Se (zcE P env cx' n ds D l rc x u::F) G w):JM ds env (λj=>YF u<|n+j)/\St we Se (be l rc::vn D::(VF (λj=>YF u<|n+j) ds x 0++(MS (YF u) cx'.ob++F))) (RS P (YF u) env cx'.rg++G) w:=by
 have⟨h1,a⟩:=St.unpr<|St.grp.1 h;refine⟨h1,?_⟩;have b:=St.ffOut (show St we Se (mFF (RS P (YF u) env cx'.rg)::(be l rc::vn D::(VF (λj=>YF u<|n+j) ds x 0++MS (YF u) cx'.ob)++F)) G w from a);simpa only[xbF,xaf]using b
def zgq(d:JM ds env λj=>vs<|n+j)(a:∀e∈cx'.ob,e.1<n)(g:∀e∈cx'.rg,∀o,va e.2.2=Z o->o<n)(h:St we Se (be l rc::vn D::(VF (λj=>vs<|n+j) ds x 0++(MS vs cx'.ob++F))) (RS P vs env cx'.rg++G) w):
 St we Se (zcE P env cx' n ds D l rc x (N4 vs<|n+X ds)::F) G w:=by
 have e0:∀k,k<n+X ds->YF (N4 vs<|n+X ds) k=vs k:=λk i=>zjG i;have e1:RS P (YF<|N4 vs<|n+X ds) env cx'.rg=RS P vs env cx'.rg:=jD (λe b o a=>e0 o (by have:=g e b o a;lia)) λ_ _=>O;have m:MS (YF<|N4 vs<|n+X ds) cx'.ob=MS vs cx'.ob:=wE λe b=>e0 e.1 (by have:=a e b;lia);have p:VF (λj=>YF (N4 vs<|n+X ds)<|n+j) ds x 0=VF (λj=>vs<|n+j) ds x 0:=fI λj c=>e0 _ W;refine St.grp.2<|St.pr ?_ ?_
 ·intro j t f c;have:=(xaq.1 c).1;show sH f (env t) (YF (N4 vs<|n+X ds)<|n+j);rw[e0 _ W];exact d j t f c
 ·have q:St we Se (mFF (RS P vs env cx'.rg)::(be l rc::vn D::(VF (λj=>vs<|n+j) ds x 0++MS vs cx'.ob)++F)) G w:=St.ffIn (by simpa only[xbF,xaf]using h);rw[e1,m,p];exact q
def HO{m:MF}{p:Prop}(h:Yn P fr cx σ env w)(a:m∈fr.F)(hp:∀S,m.p S w->p):p:=by
 have⟨_,vs,_,_,_,S,_,_,_,b,_⟩:=h;exact hp S<|ZE.1 b m<|So.2 (.inr<|So.2 (.inr a))
def zjx{it:E5}{pt:wr}{τ:Tg}{a c:Wn}{N:wr}{fn:Z5}{tmps:ul wN}(hA:Gr P cf N a)(hC:Gr P cf N c)(hW:IE a=wF)(hX:IE c=wF)(c3:pt<N)(hY:tmps.size=N)(hO:yK ⟨tmps,[]⟩=env)(hm:bh ds=wF)
 (hZ:zg1 (kQ pt it.t it.E ds).ds=wF) (hI:Xx cx'.rg pt=wF) (ho:∀e∈cx'.ob,e.1<n) (hr:∀e∈cx'.rg,∀o,va e.2.2=Z o->o<n):
 Oh P l it.t.rep it.E (λx u=>zcE P env cx' n ds D l {state:=.ready,pending:=wL,fn:=fn,tmps:=tmps,params:= #[pt],assign:=a,body:=c,defers:=D} x u)
  (λx u=>zcE P env cx' n ds D l {state:=.done,pending:=Z<|tgC τ,fn:=fn,tmps:=tmps,params:= #[pt],assign:=a,body:=c,defers:=D} x u)
  (zoI cx' n ds it.t it.E pt τ (λcx σ K=>den cf a cx σ K) λcx σ K=>den cf c cx σ K):=by
 have⟨H,hi⟩:∃H:ce,H={state:=.ready,pending:=wL,fn:=fn,tmps:=tmps,params:= #[pt],assign:=a,body:=c,defers:=D}:=⟨_,O⟩;have⟨J,hG⟩:∃J:ce,J={H with state:=.busy}:=⟨_,O⟩;rw[<-hi];intro ys x R q hq v u we Se F G w h0;have⟨h9,h1⟩:=zby h0;have hl:w.heap[l]? =Z (.loop H):=wo h1 (i:=0) O λS hp=>hp;have hy:=run_yield (P:=P) (args:= #[v]) hl (by rw[hi];rfl);refine⟨fn,tmps.setIfInBounds pt v,a,c,by rw[hi]at hy;simpa using hy,roundIn_of_wpIn wS ?_⟩;have⟨sh,hw⟩:∃sh,sh=kQ pt it.t it.E ds:=⟨_,O⟩;have c2:X sh.ds=X ds+1:=by rw[hw];rfl
 have hH:bh sh.ds=wF:=by rw[hw];exact hm
 have⟨cp,hc⟩:∃cp,cp=cpR cx' n sh:=⟨_,O⟩;have hP:∀{j t:wr}{f:TF},ds[j]? =Z (t,f)->t≠pt:=λM=>zi5 (a:=(pt,.own it.t it.E)) hZ M;have⟨b,hn⟩:∃b,b=put env (some pt) v:=⟨_,O⟩;have a0:b pt=v:=by rw[hn];exact Df
 have Y:∀t,t≠pt->b t=env t:=λt ht=>by rw[hn];exact lO<|λe=>ht<|by cases e;rfl
 have a3:∀e∈cx'.rg,b e.1=env e.1:=λe he=>Y e.1 λh=>by
  simp only[Xx,xaN]at hI;have:=hI e he;rw[h]at this;simp at this
 have⟨g,hB⟩:∃g:wr->wN,g=λk=>if k<n then YF u k else if k=n then v else YF u (k-1):=⟨_,O⟩;have a4:∀k,k<n->g k=YF u k:=λk hk=>by rw[hB];exact iq hk
 have b1:g n=v:=by rw[hB];simp
 have a5:∀j,g (n+(j+1))=YF u (n+j):=λj=>by
  rw[hB];simp only;rw[zB,zB,(W:n+(j+1)-1=n+j)]
 have hJ:JM sh.ds b λj=>g (n+j):=by
  rw[hw];intro j t f M
  cases j with
  |zero=>
   simp only[kQ,xbB,xar,xcO]at M;obtain⟨rfl,rfl⟩:=M;show b pt=g (n+0);rw[a0,xbK,b1]
  |succ j=>
   have M:ds[j]? =Z (t,f):=by simpa[kQ]using M
   show sH f (b t) (g<|n+(j+1));rw[a5,Y t<|hP M];exact h9 j t f M
 have hD:Bd cp ⟨n+X sh.ds,[],[]⟩:=by
  rw[hc];refine⟨λ_ he=>wR he IR,λe he=> ?_,λ_ he=>wR he IR,λe he o hf=> ?_⟩
  ·have:=ho e he;show e.1<n+_;lia
  ·show o<n+_;rcases So.1 (show e∈tN sh.ds n++cx'.rg from he)with he|he
   ·exact P5 e he o hf
   ·have:=hr e he o hf;lia
 have h':Yn P (Fr.wd ⟨we,Se,be l H::vn D::F,G⟩ []) cp (Kk sh (hw▸GH (a:=(pt,.own it.t it.E)) ys x) ⟨n,[],[]⟩) b w:=by
  subst hw;refine zeR (vs:=g) (kp:=⟨n,[],[]⟩) hH hJ (zkB hH (λ_ he=>wR he IR) (λe he=>hD.o2 e he) (λ_ he=>wR he IR) λe he o hf=>hD.r2 e he o hf) ?_;have e1:VF (λj=>g<|n+j) (kQ pt it.t it.E ds).ds (GH (a:=(pt,.own it.t it.E)) ys x) 0=mO it.t.rep it.E v ys::VF (λj=>YF u<|n+j) ds x 0:=by
   refine(Ni (U:=λj=>g<|n+j) (a:=(pt,.own it.t it.E)) (l:=ds) (y:=ys) (x:=x) (i:=0)).trans ?_;show mO it.t.rep it.E (g<|n+0) ys::VF _ ds x (0+1)=_;rw[xbK,b1,fI (U:=λj=>g<|n+j) (V:=λj=>YF u<|n+j) (i:=0+1) (k:=0) λj _=>by
    show g (n+(0+1+j))=YF u (n+(0+j));rw[(W:0+1+j=j+1),a5,xaJ]]
  have e2:MS g cp.ob=MS (YF u) cx'.ob:=by rw[hc];exact wE λe he=>a4 _<|ho e he
  show St we Se (VF (λj=>g<|n+j) (kQ pt it.t it.E ds).ds (GH (a:=(pt,.own it.t it.E)) ys x) 0++([]++(MS g cp.ob++([]++(be l H::vn D::F))))) ([]++(RS P g b cp.rg++G)) w;rw[e1,e2];have h2:St we Se (mO it.t.rep it.E v ys::VF (λj=>YF u<|n+j) ds x 0++([]++(MS (YF u) cx'.ob++([]++(be l H::vn D::F))))) (RS P (YF u) env cx'.rg++G) w:=by
   refine h1.perm ?_;simp only[xby,xbF];have p1:(be l H::vn D::(VF (λj=>YF u<|n+j) ds x 0++(MS (YF u) cx'.ob++mO it.t.rep it.E v ys::F))).Perm (mO it.t.rep it.E v ys::(be l H::vn D::(VF (λj=>YF u<|n+j) ds x 0++(MS (YF u) cx'.ob++F)))):=by
    have:=xcn (a:=mO it.t.rep it.E v ys) (l₁:=be l H::vn D::(VF (λj=>YF u<|n+j) ds x 0++MS (YF u) cx'.ob)) (l₂:=F);simpa only[xbF,xaf]using this
   refine p1.trans<|List.Perm.cons _ ?_;have p2:([be l H,vn D]++((VF (λj=>YF u<|n+j) ds x 0++MS (YF u) cx'.ob)++F)).Perm ((VF (λj=>YF u<|n+j) ds x 0++MS (YF u) cx'.ob)++([be l H,vn D]++F)):=xdT ..;simpa only[xbF,xaf,xby]using p2
  refine h2.weak (Δ:=RS P g b cp.rg++G) λS w ha=>zE.append ?_<|zE.right ha;rw[hc];show zE S (RS P g b<|tN (kQ pt it.t it.E ds).ds n++cx'.rg) w;rw[bM];refine zE.append (zee (i:=0) hH λj t f M=>by rw[xaJ];exact hJ j t f M) ?_;rw[jD (vs:=YF u) (env:=env) (λe he o hf=>a4 o<|hr e he o hf) a3];exact zE.left ha
 have⟨N1,hx⟩:∃N1:Nd,N1=⟨N,[],some l⟩:=⟨_,O⟩;have hQ:(⟨tmps.setIfInBounds pt v,[]⟩:Jp).tmps.size=N1.n:=by rw[hx];simpa using hY
 have hS:yK ⟨tmps.setIfInBounds pt v,[]⟩=b:=by
  have:=XF (a:=⟨tmps,[]⟩) (d:=Z pt) (v:=v) (λt ht=>by cases ht;show pt<tmps.size;lia);rw[hn,<-hO];exact this
 subst hw
 have b2:=hA (N:=N1) (fr:=⟨we,Se,be l H::vn D::F,G⟩) (Ds:=[]) (by rw[hx]) (.inr hW) (show den cf a cp _ _=Z (R,q)from by rw[hc];exact hq)
  (Q:=λe T env' w'=>e=.normal/\∃σ',den cf c cp σ' (zlf cp ds it.t it.E pt τ)=Z (R,q)/\nU cp b env'/\Yn P (Fr.wd ⟨we,Se,be l H::vn D::F,G⟩ T) cp σ' env' w')
  (λt σ' hk T env' w' hs hR=>by
   cases t with
   |n=>exact⟨O,σ',by rw[hc];exact hk,hs,hR⟩
   |x i=>cases hk
   |r=>cases hk) h'
 have hT:=b2 ⟨tmps.setIfInBounds pt v,[]⟩ hQ O hS;rw[hx]at hT;refine WT hT ?_;rintro e a1 w1 ⟨q1,T,q2,rfl,σ',hk,hs,hR⟩;have b3:w1.heap[l]? =Z (.loop H):=HO hR (m:=be l H) (So.2 (.inr<|FS)) λS hp=>hp;refine⟨w1.putObj l (.loop J),by rw[hG];exact run_beginRound b3 (by rw[hi]),?_⟩;have b4:Yn P (Fr.wd ⟨we,Se,be l J::vn D::F,G⟩ T) cp σ' (yK a1) (w1.putObj l (.loop J)):=If (A:=T.map vn) (m:=be l H) (m':=be l J) (B:=vn D::F) hR (λk=>Iff.rfl) (λk h=>h) λS w' h=>h
 have b5:=hC (N:=N1) (fr:=⟨we,Se,be l J::vn D::F,G⟩) (Ds:=T) (by rw[hx]) (.inr hX) hk
  (Q:=λe s env' w'=>∃t C,e=tgE t/\zlf cp ds it.t it.E pt τ t C=Z (R,q)/\nU cp (yK a1) env'/\Yn P (Fr.wd ⟨we,Se,be l J::vn D::F,G⟩ s) cp C env' w')
  (λt C hk s env' w' hs hR=>⟨t,C,O,hk,hs,hR⟩) b4
 have hU:=b5 a1 (by rw[hx];exact q1) q2 O;rw[hx]at hU;refine WT hU ?_;rintro e a2 w2 ⟨p1,s,p2,t,C,rfl,hd,b6,hu⟩;have hM:w2.heap[l]? =Z (.loop J):=HO hu (m:=be l J) (So.2 (.inr<|FS)) λS hp=>hp;have hN:=hs.trans b6
 have L:∀(z:Qp (kQ pt it.t it.E ds).ds) (rc:ce),Yn P (Fr.wd ⟨we,Se,be l J::vn D::F,G⟩ s) cp (Kk (kQ pt it.t it.E ds) z ⟨n+(kQ pt it.t it.E ds).ds.length,[],[]⟩) (yK a2) w2->
  ∃u',St we Se (zcE P env cx' n ds D l rc (gD z).2 u'::mO it.t.rep it.E v (gD z).1::F) G (w2.putObj l (.loop rc)):=by
  intro z rc hv;have c0:=If (A:=s.map vn) (m:=be l J) (m':=be l rc) (B:=vn D::F) hv (λk=>Iff.rfl) (λk h=>h) (o:=.loop rc) λS w' h=>h;have⟨vs2,hE,c4,hK⟩:=zaz (ds:=(kQ pt it.t it.E ds).ds) hH c0;have⟨m,c1⟩:∃m,m=n+(kQ pt it.t it.E ds).ds.length:=⟨_,O⟩;rw[<-c1]at hE hK;have z0:vs2 m=v:=by
   have h2:yK a2 pt=vs2 (m+0):=hE 0 pt (.own it.t it.E) O;have⟨e,he,h3⟩:=BP (ds:=(kQ pt it.t it.E ds).ds) (n:=n) (j:=0) (t:=pt) (f:=.own it.t it.E) O;have h4:=hN e (by rw[hc];exact So.2 (.inl he));rw[h3,a0]at h4;rw[xbK]at h2;exact h2.symm.trans h4
  have⟨p,hL⟩:∃p:wr->wN,p=λk=>if k<n then vs2 k else vs2 (m+1+(k-n)):=⟨_,O⟩;have a9:∀k,k<n->p k=vs2 k:=λk hk=>by rw[hL];exact iq hk
  have b0:∀j,p (n+j)=vs2 (m+(j+1)):=λj=>by
   rw[hL];simp only;rw[zB,(W:m+1+(n+j-n)=m+(j+1))]
  have hV:JM ds env λj=>p (n+j):=by
   intro j t f M;have h2:=hE (j+1) t f (by simpa[kQ]using M);have⟨e,he,h3⟩:=BP (ds:=(kQ pt it.t it.E ds).ds) (n:=n) (j:=j+1) (t:=t) (f:=f) (by simpa[kQ]using M);have h4:=hN e (by rw[hc];exact So.2 (.inl he));rw[h3,Y t<|hP M]at h4;show sH f (env t) (p<|n+j);rw[b0,<-h4];exact h2
  refine⟨_,zgq (F:=mO it.t.rep it.E v (gD z).1::F) hV ho hr ?_⟩;have e1:VF (λj=>vs2<|m+j) (kQ pt it.t it.E ds).ds z 0=mO it.t.rep it.E v (gD z).1::VF (λj=>p<|n+j) ds (gD z).2 0:=by
   refine(kW (λz=>VF (λj=>vs2<|m+j) (kQ pt it.t it.E ds).ds z 0)<|zdG (a:=(pt,.own it.t it.E)) (l:=ds) z).trans ?_;refine(Ni (U:=λj=>vs2<|m+j) (a:=(pt,.own it.t it.E)) (l:=ds) (y:=(gD (a:=(pt,.own it.t it.E)) z).1) (x:=(gD (a:=(pt,.own it.t it.E)) z).2) (i:=0)).trans ?_;show mO it.t.rep it.E (vs2<|m+0) (gD z).1::VF _ ds (gD z).2 (0+1)=_;rw[xbK,z0,fI (U:=λj=>vs2<|m+j) (V:=λj=>p<|n+j) (i:=0+1) (k:=0) λj _=>by
    show vs2 (m+(0+1+j))=p (n+(0+j));rw[(W:0+1+j=j+1),xaJ,b0]]
  have e2:MS vs2 cp.ob=MS p cx'.ob:=by rw[hc];exact wE λe he=>(a9 _<|ho e he).symm
  have h5:St we Se (VF (λj=>vs2<|m+j) (kQ pt it.t it.E ds).ds z 0++(MS vs2 cp.ob++(s.map vn++be l rc::vn D::F))) (RS P vs2 (yK a2) cp.rg++G) (w2.putObj l (.loop rc)):=hK;rw[e1,e2]at h5;have h6:St we Se ((mO it.t.rep it.E v (gD z).1::VF (λj=>p<|n+j) ds (gD z).2 0++MS p cx'.ob)++(be l rc::vn D::F)) (RS P vs2 (yK a2) cp.rg++G) (w2.putObj l (.loop rc)):=St.dropM (B:=s.map vn) (by simpa only[xaf]using h5);have h7:St we Se (be l rc::vn D::(VF (λj=>p<|n+j) ds (gD z).2 0++(MS p cx'.ob++(mO it.t.rep it.E v (gD z).1::F)))) (RS P vs2 (yK a2) cp.rg++G) (w2.putObj l (.loop rc)):=by
   refine h6.perm ?_;have p1:((VF (λj=>p<|n+j) ds (gD z).2 0++MS p cx'.ob)++([be l rc,vn D]++F)).Perm ([be l rc,vn D]++((VF (λj=>p<|n+j) ds (gD z).2 0++MS p cx'.ob)++F)):=xdT ..;have p2:=xcn (a:=mO it.t.rep it.E v (gD z).1) (l₁:=be l rc::vn D::(VF (λj=>p<|n+j) ds (gD z).2 0++MS p cx'.ob)) (l₂:=F);have p3:=(p1.cons<|mO it.t.rep it.E v (gD z).1).trans (by simpa only[xbF,xaf,xby]using p2.symm);simpa only[xbF,xaf,xby]using p3
  refine h7.weak λS w ha=>zE.append ?_<|zE.right ha;have h8:zE S (RS P vs2 (yK a2)<|tN (kQ pt it.t it.E ds).ds n++cx'.rg) w:=by
   have:=zE.left ha;rw[hc]at this;exact this
  rw[bM]at h8;rw[jD (vs:=vs2) (env:=yK a2) (λe he o hf=>a9 o<|hr e he o hf) λe he=> ?_]
  ·exact zE.right h8
  ·have h4:=hN e (by rw[hc];exact So.2 (.inr he));rw[a3 e he]at h4;exact h4.symm
 cases t with
 |n=>
  have⟨z,hz,hg⟩:=tn (P:=P) (cx:=cp) (kp:=⟨n+(kQ pt it.t it.E ds).ds.length,[],[]⟩) (show rE (kg cp ⟨n+(kQ pt it.t it.E ds).ds.length,[],[]⟩) (kQ pt it.t it.E ds) C (λz=>Z ((gD z).1,Sum.inl (gD z).2))=Z (R,q)from by rw[hc]at hd⊢;exact hd) hD;cases hz;have hv:=hg (Fr.wd ⟨we,Se,be l J::vn D::F,G⟩ s) (yK a2) w2 (by rw[hc]at hu⊢;exact hu);refine⟨_,_,bV wL hM,O,?_⟩;have hF:({J with state:=if(wL:ww Wn).isNone then .ready else .done,pending:=wL}:ce)=H:=by rw[hG,hi];rfl
  rw[hF];exact L z H hv
 |x i=>
  have⟨ht,hd⟩:=z8 hd;have⟨z,hz,hg⟩:=tn (P:=P) (cx:=cp) (kp:=⟨n+(kQ pt it.t it.E ds).ds.length,[],[]⟩) (show rE (kg cp ⟨n+(kQ pt it.t it.E ds).ds.length,[],[]⟩) (kQ pt it.t it.E ds) C (λz=>Z ((gD z).1,Sum.inr (gD z).2))=Z (R,q)from by rw[hc]at hd⊢;exact hd) hD;cases hz;have hv:=hg (Fr.wd ⟨we,Se,be l J::vn D::F,G⟩ s) (yK a2) w2 (by rw[hc]at hu⊢;exact hu);refine⟨_,_,bV (Z (.exit i)) hM,O,?_⟩;have hF:({J with state:=if(Z<|Code.exit i).isNone then .ready else .done,pending:=Z (.exit i)}:ce)={state:=.done,pending:=Z<|tgC τ,fn:=fn,tmps:=tmps,params:= #[pt],assign:=a,body:=c,defers:=D}:=by rw[hG,hi,zaq ht];rfl
  rw[hF];exact L z _ hv
 |r=>
  have⟨ht,hd⟩:=z8 hd;have⟨z,hz,hg⟩:=tn (P:=P) (cx:=cp) (kp:=⟨n+(kQ pt it.t it.E ds).ds.length,[],[]⟩) (show rE (kg cp ⟨n+(kQ pt it.t it.E ds).ds.length,[],[]⟩) (kQ pt it.t it.E ds) C (λz=>Z ((gD z).1,Sum.inr (gD z).2))=Z (R,q)from by rw[hc]at hd⊢;exact hd) hD;cases hz;have hv:=hg (Fr.wd ⟨we,Se,be l J::vn D::F,G⟩ s) (yK a2) w2 (by rw[hc]at hu⊢;exact hu);refine⟨_,_,bV (Z .ret) hM,O,?_⟩;have hF:({J with state:=if(Z Code.ret).isNone then .ready else .done,pending:=Z .ret}:ce)={state:=.done,pending:=Z<|tgC τ,fn:=fn,tmps:=tmps,params:= #[pt],assign:=a,body:=c,defers:=D}:=by rw[hG,hi,zaq ht];rfl
  rw[hF];exact L z _ hv
end
end
section
section
variable{P:jp}{cf:Cf}{fr:Fr}{cx σ:Sg}{env:y8}{w:wP}{R:Type}{r:R}
def zit(hX:En P cf){g:v6}{a c:Wn}{N:Nd}{K:Tg->Sg->V R}{Q:Qd}{s:Lp}{it:E5}{y:cF it.dom}{τ:Tg}{pt:wr}{ags:xS wr}{cs:xS PD}{Ds:xS wr}
 (hA:Gr P cf N.n a) (hC:Gr P cf N.n c) (hP:IE a=wF) (hQ:IE c=wF) (hS:N.rd=wL) (hT:pt<N.n) (hg:xC cx σ g=Z (.fn it.f cs)) (hU:it∈cf.is) (hy:KZ it.dom cs=Z y) (hv:s.hd.ns=[])
 (h:RU cx σ K s it y τ pt ags (λcx σ K=>den cf a cx σ K) (λcx σ K=>den cf c cx σ K)=Z r)
 (hK:∀t σ',K t σ'=Z r->∀Ds' env' w',nU cx env env'->Yn P (fr.wd Ds') cx σ' env' w'->Q (tgE t) Ds' env' w') (hR:Yn P (fr.wd Ds) cx σ env w):H9 P N (.rangeFunc g #[pt] a c) Q Ds env w:=by
 obtain⟨⟨ds,ns⟩,sg⟩:=s;simp only at hv;subst hv;obtain⟨h8,hx⟩:=Mc hy;obtain⟨hB,vs,hz⟩:=hR;obtain⟨S0,_,hΓ⟩:=hz.ex;obtain⟨cvs,hD,h7,h9⟩:=zj hg<|zU hΓ g;have hV:Yn P ⟨fr.we,fr.Se,Ds.map vn++fr.F,Zo P it.dom y cvs++fr.G⟩ cx σ env w:=⟨hB,vs,hz.weak λS w ha=>zE.append (zE.left ha) (zE.append (zE.left<|zE.right ha) (zE.append (by
  obtain⟨cvs',hE,hY,hF⟩:=zj hg<|zU ha g;rw[hD]at hE;have:cvs=cvs':=by simpa using hE
  subst this;exact hx hY hF) (zE.right (zE.right ha))))⟩
 unfold RU at h;simp only at h;obtain⟨hi,h⟩:=z8 h;simp only[xab]at hi;obtain⟨hm,hZ,hl⟩:=hi;obtain⟨hc,hG⟩:=Du (ag:=ags) (ro:=sg.ro) hV;obtain⟨kp,h0⟩:∃kp,kp=keep σ ags sg.ro:=⟨_,O⟩;rw[<-h0]at h hc hG hl;obtain⟨x0,h1,h2⟩:=tn (P:=P) (cx:=kg cx kp) (kp:=⟨kp.nx,[],[]⟩) h<|Ht hc;obtain⟨r',h3,h4⟩:=r8 h1;obtain⟨vs0,hH,h',hI⟩:=zaz (ds:=ds) hm<|h2 _ env w hG;obtain⟨hb,hJ⟩:=hX.is it hU;have ho:∀e∈(kg cx kp).ob,e.1<kp.nx:=λe he=>by
  rcases So.1 he with he|he
  ·exact hc.o1 e he
  ·exact hc.o2 e he
 have hr:∀e∈(kg cx kp).rg,∀o,va e.2.2=Z o->o<kp.nx:=λe he o hf=>by
  rcases So.1 he with he|he
  ·exact hc.r1 e he o hf
  ·exact hc.r2 e he o hf
 intro a0 g1 g2 g3;refine wpIn_rangeFunc ?_;intro fn hfn;rw[show N.F.round=wL from hS];obtain⟨rR,hj⟩:∃rR:ce,rR={state:=.ready,pending:=wL,fn:=fn,tmps:=a0.tmps,params:= #[pt],assign:=a,body:=c,defers:=w.heap.size}:=⟨_,O⟩;obtain⟨rD,hn⟩:∃rD:ce,rD={state:=.done,pending:=Z<|tgC τ,fn:=fn,tmps:=a0.tmps,params:= #[pt],assign:=a,body:=c,defers:=w.heap.size}:=⟨_,O⟩;have hL:=run_enterLoop_outer (P:=P) (w:=w) fn a0.tmps #[pt] a c;rw[<-hj]at hL;have hW:St fr.we fr.Se (be (w.heap.size+1) rR::vn w.heap.size::(VF (λj=>vs0<|kp.nx+j) ds x0 0++(MS vs0 (kg cx kp).ob++(Ds.map vn++fr.F)))) (RS P vs0 env (kg cx kp).rg++(Zo P it.dom y cvs++fr.G)) ((w.alloc (.deferred<|some [])).alloc (.loop rR)):=by
  have q1:=St.allocObj (o:=.deferred<|some []) (m:=vn w.heap.size) hI (λk hk=>hk)<|λS w' hw=>hw;have hM:(w.alloc (.deferred<|some [])).heap.size=w.heap.size+1:=World.size_alloc ..;refine St.allocObj (o:=.loop rR) (m:=be (w.heap.size+1) rR) q1 (λk hk=>by rw[hM];exact hk)<|λS w' hw=> ?_;rw[hM]at hw;exact hw
 have h5:=zgq (x:=x0) hH ho hr hW;have hN:=zjx (P:=P) (cf:=cf) (cx':=kg cx kp) (env:=env) (n:=kp.nx) (D:=w.heap.size) (l:=w.heap.size+1) (ds:=ds) (it:=it) (pt:=pt) (τ:=τ) (a:=a) (c:=c) (N:=N.n) (fn:=fn) (tmps:=a0.tmps) hA hC hP hQ hT g1 g3 hm hZ hl ho hr;rw[<-hj,<-hn]at hN;have hq:=hJ y _ _ _ _ _ x0 r' h3 (w.heap.size+1) cvs (by lia) hN _ fr.we fr.Se _ fr.G _ h5
 have close:∀(rc:ce) (x:Qp ds) (u':wN) (w3:wP),St fr.we fr.Se (zcE P env (kg cx kp) kp.nx ds w.heap.size (w.heap.size+1) rc x u'::(Ds.map vn++fr.F)) fr.G w3->
  w3.heap[w.heap.size+1]? =Z (.loop rc)/\∀o,Yn P (fr.wd (w.heap.size::Ds)) cx (Kk ⟨ds,[]⟩ x kp) env (w3.putObj (w.heap.size+1) (.loop o)):=by
  intro rc x u' w3 hs;obtain⟨h6,q1⟩:=zby hs;refine⟨wo q1 (i:=0) O λS hp=>hp,λo=> ?_⟩;have q2:=St.putObj (m':=be (w.heap.size+1) o) (o:=.loop o) q1 (λk=>Iff.rfl) (λk hk=>hk)<|λS w' hw=>hw;have q3:St fr.we fr.Se ([vn w.heap.size]++(VF (λj=>YF u'<|kp.nx+j) ds x 0++(MS (YF u') (kg cx kp).ob++(Ds.map vn++fr.F)))) (RS P (YF u') env (kg cx kp).rg++fr.G) (w3.putObj (w.heap.size+1) (.loop o)):=St.drop (i:=0) q2;refine zeR (vs:=YF u') hm h6 (zkB hm (λe he=>xao (hc.o1 e he)<|xbM _ _) (λe he=>xao (hc.o2 e he)<|xbM _ _) (λe he o hf=>xao (hc.r1 e he o hf)<|xbM _ _) λe he o hf=>xao (hc.r2 e he o hf)<|xbM _ _) ?_;have e1:MS (YF u') (kg cx kp).ob=MS (YF u') kp.ob++MS (YF u') cx.ob:=xaW;have e2:RS P (YF u') env (kg cx kp).rg=RS P (YF u') env kp.rg++RS P (YF u') env cx.rg:=xaW;rw[e1,e2]at q3;have q4:St fr.we fr.Se ((VF (λj=>YF u'<|kp.nx+j) ds x 0++(MS (YF u') kp.ob++MS (YF u') cx.ob))++([vn w.heap.size]++(Ds.map vn++fr.F))) ((RS P (YF u') env kp.rg++RS P (YF u') env cx.rg)++fr.G) (w3.putObj (w.heap.size+1) (.loop o)):=by
   refine q3.perm ?_;rw[<-xaf<|VF _ _ _ _];exact xdT ..
  show St fr.we fr.Se (VF _ ds x 0++(MS (YF u') kp.ob++(MS (YF u') cx.ob++((vn w.heap.size::Ds.map vn)++fr.F)))) (RS P (YF u') env kp.rg++(RS P (YF u') env cx.rg++fr.G)) _;simpa only[xaf,xbF,xby]using q4
 refine⟨w.heap.size+1,[mkD w.heap.size],((w.alloc (.deferred<|some [])).alloc (.loop rR)),{target:=.fn (.func it.f) cvs.toArray,args:= #[.func (.yield<|w.heap.size+1) #[] #[]]},((w.alloc (.deferred<|some [])).alloc (.loop rR)),it.f,#[.func (.yield<|w.heap.size+1) #[] #[]]++cvs.toArray,((w.alloc (.deferred<|some [])).alloc (.loop rR)),hL,?_,λ_ _=>wS,?_,λe=>by simp[Nd.F,xfZ]at e,?_⟩
 ·have:a0.eval g=.func (.func it.f) #[] cvs.toArray:=by rw[eN,g3];exact hD
  simp only[Wr,this];simp[go_sem]
 ·simp[V1,go_sem,kn hb]
 ·have ht:(#[.func (.yield<|w.heap.size+1) #[] #[]]++cvs.toArray:ul wN)=(Value.func (.yield<|w.heap.size+1) #[] #[]::cvs).toArray:=by simp
  rw[ht];refine CallsIn.mono (callsIn_wide.2 hq) ?_;rintro e w3 ⟨⟨v,rfl⟩,u',hs⟩
  cases hO:r' with
  |inl x=>
   rw[hO]at hs h4;obtain⟨hu,hd⟩:=close rR x u' w3 hs;refine⟨wL,_,by have:=run_endLoop (P:=P) hu (by rw[hj];simp);rw[hj]at this;exact this,?_⟩;exact⟨g1,w.heap.size::Ds,by show[mkD w.heap.size]++a0.defers=_;rw[g2];rfl,hK .n _ h4 _ _ _ (by rw[<-g3];exact nU.refl)<|by rw[<-g3]at hd;exact hd _⟩
  |inr x=>
   rw[hO]at hs h4;obtain⟨hu,hd⟩:=close rD x u' w3 hs;refine⟨Z<|tgC τ,_,by have:=run_endLoop (P:=P) hu (by rw[hn];simp);rw[hn]at this;exact this,?_⟩;have fin:∀o,zkg N Q (tgE τ) {a0 with defers:=[mkD w.heap.size]++a0.defers} (w3.putObj (w.heap.size+1) (.loop o)):=λo=>⟨g1,w.heap.size::Ds,by show[mkD w.heap.size]++a0.defers=_;rw[g2];rfl,hK τ _ h4 _ _ _ (by rw[<-g3];exact nU.refl)<|by rw[<-g3]at hd;exact hd _⟩
   cases τ with
   |n=>exact wpIn_skip<|fin _
   |x i=>exact wpIn_exit<|fin _
   |r=>exact wpIn_ret<|fin _
end
end
section
section
variable{P:jp}{cf:Cf}
def Xy(B:P.follows .mixedOrders=wF)(C:yZ P cf.tt)(D:ug P cf.tt)(F:∀s∈cf.cs,xt P s)(A:En P cf){n:wr}:∀(c:Wn),okC n c=wF->Gr P cf n c
 |.skip,_,R,r,fr,cx,σ,K,Q,N,q,v,h,Ds,env,w,o,i=>λ_ h1 H L=>wpIn_skip ⟨h1,Ds,H,L▸o .n σ h Ds env w nU.refl i⟩
 |.label _,_,R,r,fr,cx,σ,K,Q,N,q,v,h,Ds,env,w,o,i=>λ_ h1 H L=>wpIn_label ⟨h1,Ds,H,L▸o .n σ h Ds env w nU.refl i⟩
 |.exit id,_,R,r,fr,cx,σ,K,Q,N,q,v,h,Ds,env,w,o,i=>λ_ h1 H L=>wpIn_exit ⟨h1,Ds,H,L▸o (.x id) σ h Ds env w nU.refl i⟩
 |.ret,_,R,r,fr,cx,σ,K,Q,N,q,v,h,Ds,env,w,o,i=>λ_ h1 H L=>wpIn_ret ⟨h1,Ds,H,L▸o .r σ h Ds env w nU.refl i⟩
 |.scope c,p,R,r,fr,cx,σ,K,Q,N,q,v,h,Ds,env,w,o,i=>by
  refine zcZ<|Xy B C D F A c p (K:=K) q v h (λt σ' u l d w' z i=> ?_) i;have:=o t σ' u l d w' z i;cases t<;>exact this
 |.region id a2 dr,p,R,r,fr,cx,σ,K,Q,N,q,v,h,Ds,env,w,o,i=>by
  subst q;refine zlI ?_;have:=zgf (id:=id) (N:=N.wd Ds) (fr:=fr.wd Ds) B C D F A (Q:=λe env w=>Q e Ds env w) (k:=λσ=>K .n σ) (λσ' u d w' z i=>o .n σ' u Ds d w' z i) p h i;rwa[xcX]at this
 |.cond c a b,p,R,r,fr,cx,σ,K,Q,N,q,v,h,Ds,env,w,o,i=>by
  have p:=(xab _ _).mp p;have hd:N.rd=wL\/IE a=wF:=v.imp id λh=>((xab _ _).mp h).1;have hf:N.rd=wL\/IE b=wF:=v.imp id λh=>((xab _ _).mp h).2;simp only[den]at h;have⟨hB,vs,ht⟩:=i;have i:Yn P (fr.wd Ds) cx σ env w:=⟨hB,vs,ht⟩;have⟨S,_,M⟩:=ht.ex;split at h
  ·next hv=>exact DR (zj hv<|zU M c)<|Xy B C D F A a p.1 q hd h o i
  ·next hv=>exact Cd (zj hv<|zU M c)<|Xy B C D F A b p.2 q hf h o i
  ·next x hv=>
   have hx:ev env c=.bool x:=nY<|zj hv<|zU M c;rcases Oa h with⟨rfl,h⟩|⟨rfl,h⟩
   ·exact DR hx<|Xy B C D F A a p.1 q hd h o i
   ·exact Cd hx<|Xy B C D F A b p.2 q hf h o i
  ·cases h
 |.block id c,p,R,r,fr,cx,σ,K,Q,N,q,v,h,Ds,env,w,o,i=>by
  refine GZ (Xy B C D F A c p (K:=λt σ=>match t with
   |.x j=>OU (E j id) (K .n σ)<|K (.x j) σ
   |t=>K t σ) q v h (λt σ' u l d w' z i=> ?_) i)
  cases t with
  |n=>exact o .n σ' u l d w' z i
  |r=>exact o .r σ' u l d w' z i
  |x j=>
   simp only at u;show Ig id Q (.exit j) l d w';simp only[Ig];cases hb:E j id<;>rw[hb]at u
   ·exact o (.x j) σ' u l d w' z i
   ·exact o .n σ' u l d w' z i
 |.seq a b,p,R,r,fr,cx,σ,K,Q,N,q,v,h,Ds,env,w,o,i=>by
  have p:=(xab _ _).mp p;have hd:N.rd=wL\/IE a=wF:=v.imp id λh=>((xab _ _).mp h).1;have hf:N.rd=wL\/IE b=wF:=v.imp id λh=>((xab _ _).mp h).2;simp only[den]at h;split at h
  ·refine Bf<|Xy B C D F A a p.1 q hd h (λt σ' u l d w' z i=> ?_) i
   cases t with
   |n=>exact Xy B C D F A b p.2 q hf u (λt T hi U J w2 hj hn=>o t T hi U J w2 (z.trans hj) hn) i
   |x j=>exact o (.x j) σ' u l d w' z i
   |r=>exact o .r σ' u l d w' z i
  ·next s z=>
   have⟨x,h1,H⟩:=r8 h;have⟨hc,hp⟩:=Du (ag:=Eo a) (ro:=s.ro) i
   refine Bf (zfr (Xy B C D F A a p.1 (Q:=λe Ds d w=>∃t m,e=tgE t/\(match t with
    |.n=>den cf b cx m K
    |t=>K t m)=Z r/\nU cx env d/\Yn P (fr.wd Ds) cx m d w) q hd h1 (λt σ' u l d w' z i=> ?_) hp) ?_)
   ·have⟨y,m,e1,Y,e3⟩:=zbo (P:=P) hc u;cases e1
    have e4:=(Y λt σ=>match t with
     |.n=>den cf b cx σ K
     |t=>K t σ).symm.trans H
    exact⟨t,m,O,by cases t<;>exact e4,λe he=>z e<|So.2 (.inr he),e3 _ d w' i⟩
   ·rintro e l d w' ⟨t,m,rfl,u,hq,i⟩
    cases t with
    |n=>exact Xy B C D F A b p.2 q hf u (λt T hi U J w2 hj hn=>o t T hi U J w2 (hq.trans hj) hn) i
    |x j=>exact o (.x j) m u l d w' hq i
    |r=>exact o .r m u l d w' hq i
 |.loop c,p,R,r,fr,cx,σ,K,Q,N,q,v,h,Ds,env,w,o,i=>by
  simp only[den]at h;split at h
  ·cases h
  ·next s z=>
   have⟨hc,hp⟩:=Du (ag:=Eo c) (ro:=s.sg.ro) i;have⟨x,h1,H⟩:=tn (P:=P) (cx:=kg cx<|keep σ (Eo c) s.sg.ro) (kp:=⟨(keep σ (Eo c) s.sg.ro).nx,[],[]⟩) h<|Ht hc;have⟨s0,L,h4⟩:=r8 h1;refine O6 (G:=wr×Qp s.hd.ds) (λg Ds d w=>zg _ g.1 g.2=Z s0/\nU cx env d/\Yn P (fr.wd Ds) (kg cx<|keep σ (Eo c) s.sg.ro) (Kk s.hd g.2 ⟨(keep σ (Eo c) s.sg.ro).nx,[],[]⟩) d w) (λg=>g.1) (cf.fu,x) ⟨L,nU.refl,H _ env w hp⟩ ?_;rintro⟨n',x⟩ Ds a1 w ⟨hl,hA,i⟩
   cases n' with
   |zero=>exact(zaE hl).elim
   |succ n'=>
    refine Xy B C D F A c p q v (zbC hl) (λt σ' u l d w' z i=> ?_) i;have hu:nU cx env d:=hA.trans λe he=>z e<|So.2 (.inr he);have a0:(∀(y:SmD s.sg.tg) (m:Sg),Z y=Z s0->(∀{R':Type} (K:Tg->Sg->V R'),P0 (keep σ (Eo c) s.sg.ro) K s.sg.tg y=K t m)->Yn P (fr.wd l) cx m d w'->Q (tgE t) l d w'):=λy m e1 Y e3=>by
     cases e1;exact o t m (by rw[<-h4];exact(Y K).symm) l d w' hu e3
    cases t with
    |n=>
     have⟨x',h5,h6⟩:=tn (P:=P) (cx:=kg cx<|keep σ (Eo c) s.sg.ro) (kp:=⟨(keep σ (Eo c) s.sg.ro).nx,[],[]⟩) u<|Ht hc;exact⟨(n',x'),⟨h5,hu,h6 _ d w' i⟩,xbS n'⟩
    |x j=>
     have⟨y,m,e1,Y,e3⟩:=zbo (P:=P) hc u;exact a0 y m e1 Y<|e3 _ d w' i
    |r=>
     have⟨y,m,e1,Y,e3⟩:=zbo (P:=P) hc u;exact a0 y m e1 Y<|e3 _ d w' i
 |.rangeFunc g ps a c,p,R,r,fr,cx,σ,K,Q,N,q,v,h,Ds,env,w,o,i=>by
  have p:=(xab _ _).mp p;have hw:=(xab _ _).mp p.2;simp only[den]at h;split at h
  ·next f cs s pt hg z hI=>
   split at h
   ·next it τ sh hD hJ hE=>
    split at h
    ·next y hy=>
     have⟨hr,h⟩:=z8 h;rw[xab]at hr;have⟨hF,hG⟩:=zd4 hD;subst hG;have hz:ps= #[pt]:=by cases ps;simp_all
     subst hz;have hH:pt<n:=by
      have:=p.1;simpa using this
     subst q;exact zit A (Xy B C D F A a hw.1) (Xy B C D F A c hw.2) hr.1 hr.2 (v.resolve_right<|by simp[IE]) hH hg hF hy hE h o i
    ·cases h
   ·cases h
  ·cases h
 |.refuse _,_,R,r,fr,cx,σ,K,Q,N,q,v,h,_,_,_,_,_=>by cases h
 |.goto _,_,R,r,fr,cx,σ,K,Q,N,q,v,h,_,_,_,_,_=>by cases h
end
end
section
def qZ:N K->wP->wP
 |[],w=>w
 |D::Ds,w=>qZ Ds<|w.putObj D (.deferred wL)
def CF:N K->wP->Prop
 |[],_=>XS
 |D::Ds,w=>w.heap[D]? =Z (.deferred<|some [])/\CF Ds (w.putObj D (.deferred wL))
def mTk(D:K):MF where
 blk k:=k=D
 p _ w:=w.heap[D]? =Z (.deferred wL)
 keep h _ a:=(a D O).trans h
 sub h _:=h
 lt h k b:=by subst b;exact(xbi.1 h).1
section
variable{P:jp}{cf:Cf}{fr:Fr}{cx σ:Sg}{env:y8}
def QM:∀{Ds:N K}{w:wP},Yn P (fr.wd Ds) cx σ env w->CF Ds w/\Yn P fr cx σ env (qZ Ds w)
 |[],w,h=>⟨wS,h⟩
 |D::Ds,w,h=>by
  have h1:w.heap[D]? =Z (.deferred<|some []):=HO h (m:=vn D) (FS) λS hp=>hp;have c:=If (A:=[]) (m:=vn D) (m':=mTk D) (B:=Ds.map vn++fr.F) h (λk=>Iff.rfl) (λk h=>h) (o:=.deferred wL) λS w' h=>h;have d:Yn P (fr.wd Ds) cx σ env (w.putObj D (.deferred wL)):=by
   have⟨e,vs,f⟩:=c;refine⟨e,vs,?_⟩;have a:St fr.we fr.Se ((MS vs σ.ob++MS vs cx.ob)++([mTk D]++(Ds.map vn++fr.F))) (RS P vs env σ.rg++(RS P vs env cx.rg++fr.G)) (w.putObj D (.deferred wL)):=by
    have:St fr.we fr.Se (MS vs σ.ob++(MS vs cx.ob++([]++mTk D::(Ds.map vn++fr.F)))) (RS P vs env σ.rg++(RS P vs env cx.rg++fr.G)) (w.putObj D (.deferred wL)):=f;simpa only[xaf,xby,xfD]using this
   have b:=St.dropM a;show St fr.we fr.Se (MS vs σ.ob++(MS vs cx.ob++(Ds.map vn++fr.F))) (RS P vs env σ.rg++(RS P vs env cx.rg++fr.G)) _;simpa only[xaf]using b
  have⟨a,b⟩:=QM d;exact⟨⟨h1,a⟩,b⟩
def ef{F:Fence}{n:K}{fn:QR}{tmps:ul wN}{Q:Ending->wP->Prop}:∀{Ds:N K}{w:wP},CF Ds w->(∃v,(V9 fn tmps).run P (qZ Ds w)=.ok v (qZ Ds w)/\Q (.returned v) (qZ Ds w))->LeavesInM F n P fn tmps Q (Ds.map mkD) .returning w
 |[],w,_,h=>h
 |D::Ds,w,a,h=>⟨gT,.inl ⟨D,_,O,run_takeDeferred a.1,ef a.2 h⟩⟩
def Ua{f:Z5}{fn:QR}{c:Wn}{args:N wN}{w:wP}{Q:Ending->wP->Prop}(i:P.funcs[f]? =Z fn)(k:fn.body=Z c)(hn:xfY (X args) fn.ntmps=wF)
 (h:∀rest,H9 P (Nd.of fn.ntmps) c (λe Ds env w=>(e=.normal\/e=.ret)/\CF Ds w/\∀a:Jp,yK a=env->∃v,(V9 fn a.tmps).run P (qZ Ds w)=.ok v (qZ Ds w)/\Q (.returned v) (qZ Ds w)) [] (L ((args.zipIdx 0).map λx=>(x.2,x.1)) rest) w):
 Us P f args.toArray w Q:=by
 have hn:=xbJ hn;refine callsIn_wide.1<|callsIn_of_wp_marks (n:=0) i k wS ?_;have l:Kc (yK ⟨args.toArray++xeA (fn.ntmps-args.toArray.size) uP,[]⟩) ((args.zipIdx 0).map λx=>(x.2,x.1)):=by
  refine iL args 0 _ λj=> ?_;rw[B5];simp[xbl,H1]
 refine WT (h _ _ (by simp[Nd.of];lia) O (UZ l).symm) ?_;rintro e b w' ⟨q1,Ds,q2,m,d,hv⟩;have⟨v,h1,g⟩:=hv b O;obtain rfl|rfl:=m
 ·show LeavesInM _ _ P fn b.tmps Q b.defers .returning w';rw[q2];exact ef d ⟨v,h1,g⟩
 ·show LeavesInM _ _ P fn b.tmps Q b.defers .returning w';rw[q2];exact ef d ⟨v,h1,g⟩
end
end
section
section
variable{P:jp}{cf:Cf}{fr:Fr}{σ:Sg}{vs:wr->wN}{env:y8}{w:wP}{R:Type}{r:R}
def PT{rest:y8}:∀{l:N wN}{i j:K}{v:wN},l[j]? =Z v->L ((l.zipIdx i).map λx=>(x.2,x.1)) rest (i+j)=v
 |a::l,i,0,v,h=>by
  simp only[xbB,xar]at h;simp[L,h]
 |a::l,i,j+1,v,h=>by
  simp only[List.zipIdx_cons,xcb,L];rw[zej (W:i+(j+1)≠i)];have:=PT (rest:=rest) (l:=l) (i:=i+1) (j:=j) (v:=v) (by simpa using h);rw[(W:i+1+j=i+(j+1))]at this;exact this
def zaj:∀{dom:N AM}{x:cF dom}{i:K}{l:N wN},X l=X dom->(∀j v,l[j]? =Z v->vs (i+j)=v)->MS vs (Xt dom x i).2=Xo dom x l
 |[],_,_,_,_,_=>rfl
 |a::dom,x,i,[],hl,_=>by cases hl
 |a::dom,x,i,v::l,hl,h=>by
  have b:MS vs (Xt dom x.2<|i+1).2=Xo dom x.2 l:=zaj (by simpa using hl) λj v d=>by
   have:=h (j+1) v (by simpa using d);rw[<-this];congr 1;lia
  have h0:vs i=v:=h 0 v O
  cases a with
  |own t E=>
   show mO t.rep E (vs i) x.1::MS vs (Xt dom x.2<|i+1).2=mO t.rep E v x.1::Xo dom x.2 l;rw[b,h0]
  |var t E=>
   show mP t.rep.c E (vs i) x.1::MS vs (Xt dom x.2<|i+1).2=mP t.rep.c E v x.1::Xo dom x.2 l;rw[b,h0]
  |_=>exact b
def Sc{S:K->Prop}:∀{dom:N AM}{x:cF dom}{i:K}{l:N wN},X l=X dom->(∀j v,l[j]? =Z v->vs (i+j)=v/\env (i+j)=v)->zE S (Zo P dom x l) w->zE S (RS P vs env (Xt dom x i).1) w
 |[],_,_,_,_,_,_=>trivial
 |a::dom,x,i,[],hl,_,_=>by cases hl
 |a::dom,x,i,v::l,hl,h,k=>by
  have c:zE S (RS P vs env (Xt dom x.2<|i+1).1) w:=Sc (l:=l) (by simpa using hl) (λj v m=>by
   have:=h (j+1) v (by simpa using m);rw[(W:i+1+j=i+(j+1))];exact this) k.2
  have h0:vs i=v/\env i=v:=h 0 v O;have g:(amF P a x.1 v).p S w:=k.1
  cases a with
  |d t=>exact⟨show(fV t.rep x.1<|env i).p S w by rw[h0.2];exact g,c⟩
  |q t=>exact⟨show(fP t.rep x.1<|env i).p S w by rw[h0.2];exact g,c⟩
  |own t E=>exact⟨show env i=vs i by rw[h0.1,h0.2],c⟩
  |var t E=>
   have⟨b,n⟩:=g;exact⟨⟨show env i=vs i by rw[h0.1,h0.2],b,h0.1.trans n⟩,c⟩
  |fn e f=>exact⟨show(fnF P e f x.1<|env i).p S w by rw[h0.2];exact g,c⟩
def TU:∀{dom:N AM}{x:cF dom}{i:K},∀e∈(Xt dom x i).2,e.1<i+X dom
 |[],_,_,e,he=>wR he IR
 |a::dom,x,i,e,he=>by
  have b:∀e∈(Xt dom x.2<|i+1).2,e.1<i+X (a::dom):=λe he=>by
   have:=TU e he;simp only[xau];lia
  cases a with
  |own t E=>
   rcases xaa.1 (show e∈(i,Od.own t E x.1)::(Xt dom x.2<|i+1).2 from he)with rfl|he
   ·simp only[xau];lia
   ·exact b e he
  |var t E=>
   rcases xaa.1 (show e∈(i,Od.var t E x.1)::(Xt dom x.2<|i+1).2 from he)with rfl|he
   ·simp only[xau];lia
   ·exact b e he
  |_=>exact b e he
def La:∀{dom:N AM}{x:cF dom}{i:K},∀e∈(Xt dom x i).1,∀p,va e.2.2=Z p->p<i+X dom
 |[],_,_,e,he=>wR he IR
 |a::dom,x,i,e,he=>by
  intro p hp;have b:∀e∈(Xt dom x.2<|i+1).1,∀p,va e.2.2=Z p->p<i+X (a::dom):=λe he p hp=>by
   have:=La e he p hp;simp only[xau];lia
  cases a with
  |own t E=>
   rcases xaa.1 (show e∈(i,0,Dv.ow i)::(Xt dom x.2<|i+1).1 from he)with rfl|he
   ·cases hp;simp only[xau];lia
   ·exact b e he p hp
  |var t E=>
   rcases xaa.1 (show e∈(i,0,Dv.vs i t)::(Xt dom x.2<|i+1).1 from he)with rfl|he
   ·cases hp;simp only[xau];lia
   ·exact b e he p hp
  |d t=>
   rcases xaa.1 (show e∈(i,0,Dv.d t x.1)::(Xt dom x.2<|i+1).1 from he)with rfl|he
   ·cases hp
   ·exact b e he p hp
  |q t=>
   rcases xaa.1 (show e∈(i,0,Dv.q t x.1)::(Xt dom x.2<|i+1).1 from he)with rfl|he
   ·cases hp
   ·exact b e he p hp
  |fn d c=>
   rcases xaa.1 (show e∈(i,0,Dv.fp d c x.1)::(Xt dom x.2<|i+1).1 from he)with rfl|he
   ·cases hp
   ·exact b e he p hp
def Ur:∀(l:N WL) (ms:N RM) {σ:Sg},Yn P fr ⟨0,[],[]⟩ σ env w->Yn P fr ⟨0,[],[]⟩ (bf σ l ms) env w
 |[],_,_,h=>by unfold bf;exact h
 |.tmp t::l,[],_,h=>by unfold bf;exact h
 |.tmp t::l,.d _::ms,_,h=>by unfold bf;exact Ur l ms<|IW _ h
 |.tmp t::l,.own _ _::ms,_,h=>by unfold bf;exact Ur l ms h
 |.tmp t::l,.var _ _::ms,_,h=>by unfold bf;exact Ur l ms h
 |.cell t E::l,[],_,h=>by unfold bf;exact h
 |.cell t E::l,m::ms,_,h=>by unfold bf;exact Ur l ms h
def zhy(H:yZ P cf.tt){p:WL}{m:RM}{k:m.D->N K->V R}(h:B6 cf σ p m k=Z r):∃x os,k x os=Z r/\
 ∀vs (fr:Fr) env (A:N MF) (Γ:N FF) w (f:N K),(∀S w,zE S Γ w->∀t,Lk P vs env S w ⟨0,[],[]⟩ σ t)->(∀o∈os,gH f o=I)->St fr.we fr.Se (A++OS vs fr ⟨0,[],[]⟩ (vM σ.ob f)) Γ w->
  ∃v,zh6 P w env p v/\St fr.we fr.Se (rmM m x v++(A++OS vs fr ⟨0,[],[]⟩ (vM σ.ob<|os++f))) (rmF m x v++Γ) w:=by
 cases p with
 |tmp t=>
  cases m with
  |d s=>
   simp only[B6]at h;have hc:=h;have⟨y,h,J⟩:=zeB h;refine⟨y,[],h,λvs fr env A Γ w f hl _ g=>⟨env t,O,?_⟩⟩;refine g.weak λS w a=>⟨?_,a⟩
   cases l:get ⟨0,[],[]⟩ σ t 0 with
   |none=>rw[l]at hc;cases hc
   |some v=>exact J P vs S w v _ l<|hl S w a t 0 v l
  |own s E=>
   simp only[B6]at h;have⟨x,os,h1,_,n,j⟩:=HT h;refine⟨x,os,h1,λvs fr env A Γ w f hl hn g=>⟨env t,O,?_⟩⟩;exact j P vs fr env A Γ w f (λS w a=>hl S w a t) hn g
  |var s E=>
   simp only[B6]at h;have⟨x,os,h1,_,n,j⟩:=HT h;refine⟨x,os,h1,λvs fr env A Γ w f hl hn g=>⟨env t,O,?_⟩⟩;have q:=j P vs fr env A Γ w f (λS w a=>hl S w a t) hn g;exact q.weak λS w a=>⟨(n P vs env S w<|hl S w a).2,a⟩
 |cell t E=>
  cases m with
  |own s B=>simp only[B6]at h;cases h
  |var s B=>simp only[B6]at h;cases h
  |d s=>
   simp only[B6]at h;split at h
   ·next o s0 C l L=>
    split at h
    ·next s' B z M=>
     have⟨u,h1⟩:=z8 h;have u:=zO u;subst u;have⟨e,n⟩:=yj h1;cases e;have⟨e,j⟩:=yj n;cases e;refine⟨_,[o],j,λvs fr env A Γ w f hl hn g=> ?_⟩;have hp:=jb (vs:=vs) (fr:=fr) (cx:=⟨0,[],[]⟩)<|(qY<|hn o<|FS).trans M;have j:=St.mid<|St.perm g<|xbL _ hp;have⟨S,_,a⟩:=g.ex;have⟨hv,b,F⟩:=hl S w a t 0 _ l;have⟨⟨G,Q,_⟩,_⟩:=H E C L;have q:St fr.we fr.Se (mP C.ty.rep.c E (vs o) z::(A++OS vs fr ⟨0,[],[]⟩ (yu (vM σ.ob f) o))) Γ w:=j;have⟨b',hd,T⟩:=q.openP 0 O;rw[F]at hd;cases hd;refine ze5 0 T O (hv.trans F) Q λv U Y=>⟨v,Y,?_⟩;exact St.drop (i:=0) U
    ·cases h
   ·cases h
def Tr(e:yZ P cf.tt):∀{a:N WL}{cod:N RM}{k:lZ cod->N K->V R},Ra cf σ a cod k=Z r->∃x os,k x os=Z r/\
 ∀vs (fr:Fr) env (Γ:N FF) w,(∀S w,zE S Γ w->∀t,Lk P vs env S w ⟨0,[],[]⟩ σ t)->St fr.we fr.Se (OS vs fr ⟨0,[],[]⟩ σ.ob) Γ w->
  ∃us,X us=X cod/\bK P w env a us/\St fr.we fr.Se (Ys cod x us++OS vs fr ⟨0,[],[]⟩ (vM σ.ob os)) (Yg cod x us++Γ) w
 |[],[],k,h=>⟨(),[],h,λvs fr env Γ w _ b=>⟨[],O,wS,b⟩⟩
 |[v],[m],k,h=>by
  have⟨x,os,h1,f⟩:=zhy e (h:B6 cf σ v m k=Z r);refine⟨x,os,h1,λvs fr env Γ w hl b=> ?_⟩;have⟨u,c,d⟩:=f vs fr env [] Γ w [] hl (λ_ _=>O) b;rw[xbP]at d;exact⟨[u],O,⟨c,wS⟩,d⟩
 |v::q::a,m::m'::ms,k,h=>by
  have⟨x,o,h1,f⟩:=zhy e (h:B6 cf σ v m _=Z r);have⟨y,os,c,d⟩:=Tr e h1;have⟨hn,c⟩:=z8 c;refine⟨(x,y),o++os,c,λvs fr env Γ w hl b=> ?_⟩;have⟨us,i,j,l⟩:=d vs fr env Γ w hl b;have⟨u,n,p⟩:=f vs fr env (Ys (m'::ms) y us) (Yg (m'::ms) y us++Γ) w os (λS w g=>hl S w<|zE.right g) (HZ hn) l;refine⟨u::us,by simpa using i,⟨n,j⟩,?_⟩;show St _ _ ((rmM m x u++Ys (m'::ms) y us)++_) ((rmF m x u++Yg (m'::ms) y us)++Γ) w;rw[xaf,xaf];exact p
 |[],_::_,_,h=>by cases h
 |[_],[],_,h=>by cases h
 |[_],_::_::_,_,h=>by cases h
 |_::_::_,[],_,h=>by cases h
 |_::_::_,[_],_,h=>by cases h
def Tl(C:P.follows .mixedOrders=wF)(A:yZ P cf.tt)(D:ug P cf.tt)(E:∀s∈cf.cs,xt P s)(H:En P cf){s:WZ}{fn:QR}
 (J:P.funcs[s.f]? =Z fn) (K:Ep P s.f=wF) (g:s.bk=0) (L:∀x r,s.M x=Z r->TP cf fn s.dom s.cod x=Z r):xt P s:=by
 refine⟨K,λx r h vs hd=> ?_⟩;rw[g];show FnG P s.f vs.toArray (Xo s.dom x vs) (Zo P s.dom x vs) Xv (λus=>Ys s.cod r us) (λus=>Yg s.cod r us) (λus=>X us=X s.cod);have h:=L x r h;unfold TP at h;split at h
 ·next c hc=>
  have⟨l,h⟩:=z8 h;rw[xab]at l;intro we Se F G w m;refine Ua J hc (by rw[hd];exact l.2) λrest=> ?_;refine Xy (fr:=⟨we,Se,F,G⟩) (N:=Nd.of fn.ntmps) C A D E H c l.1 O (.inl O) h (λt σ' g Ds env w _ q=> ?_) ?_
  ·have⟨hi,q⟩:=QM q
   have i:Ra cf (bf σ' fn.results.toList s.cod) fn.results.toList s.cod (λy _=>Z y)=Z r->∀a:Jp,yK a=env->
    ∃v,(V9 fn a.tmps).run P (qZ Ds w)=.ok v (qZ Ds w)/\∃u:xS wN,xeG v=.returned (Xv u)/\X u=X s.cod/\St we Se (Ys s.cod r u++F) (Yg s.cod r u++G) (qZ Ds w):=λh a Q=>by
    have hl:=Ur fn.results.toList s.cod q;generalize bf σ' fn.results.toList s.cod=z at h hl;have⟨Y,vs,m⟩:=hl;have⟨y,os,e1,T⟩:=Tr A h;cases e1;have⟨us,h1,U,V⟩:=T vs ⟨we,Se,F,G⟩ env _ _ (λS w b t=>Xz b t) m;refine⟨_,WY (rs:=fn.results.toList) (by rw[xcX])<|Q▸U,us,O,h1,?_⟩;exact(St.dropM (B:=MS vs<|vM z.ob os) V).weak λS w b=>zE.append (zE.left b)<|zE.right<|zE.right b
   cases t with
   |n=>exact⟨.inl O,hi,i g⟩
   |r=>exact⟨.inr O,hi,i g⟩
   |x j=>cases g
  ·have e0:∀j v,vs[j]? =Z v->vs.getD (0+j) uP=v:=λj v k=>by rw[xaJ,H1,k];rfl
   refine⟨⟨λe d=> ?_,λ_ d=>wR d IR,λe d p hp=> ?_,λ_ d=>wR d IR⟩,λo=>vs.getD o uP,?_⟩
   ·have:=TU e d;simpa using this
   ·have:=La e d p hp;simpa using this
   ·have e1:MS (λo=>vs.getD o uP) (Xt s.dom x 0).2=Xo s.dom x vs:=zaj hd e0;show St we Se (MS _ (Xt s.dom x 0).2++([]++F)) _ w;rw[e1];exact m.weak λS w b=>zE.append (Sc hd (λj v k=>⟨e0 j v k,PT k⟩)<|zE.left b)<|zE.right b
 ·cases h
def zdz{S:K->Prop}{b:K->wN}:∀{dom:N AM}{i:K},(∀j,j<X dom->env (i+j)=b (i+j))->zE S (RS P vs env<|CD b dom i) w
 |[],_,_=>trivial
 |a::dom,i,h=>by
  have c:zE S (RS P vs env<|CD b dom<|i+1) w:=zdz λj d=>by
   have:=h (j+1) (by simp only[xau];lia);rw[(W:i+1+j=i+(j+1))];exact this
  cases a with
  |own t E=>exact⟨h 0 gT,c⟩
  |var t E=>exact⟨h 0 gT,c⟩
  |_=>exact c
def fK{S:K->Prop}{l:N wN}:∀{dom:N AM}{i:K}{us:N wN},zE S (RS P vs env<|CD (λo=>l.getD o uP) dom i) w->bK P w env (E6 dom i) us->us=JU dom (l.drop i)
 |[],_,[],_,_=>rfl
 |[],_,_::_,_,h=>h.elim
 |a::dom,i,us,e,h=>by
  have e0:(l.drop i).headD uP=l.getD i uP:=by rw[List.headD_eq_head?_getD,List.head?_drop,H1]
  have e1:(l.drop i).tail=l.drop (i+1):=by rw[List.tail_drop]
  cases a with
  |own t E=>
   cases us with
   |nil=>exact h.elim
   |cons u us=>
    have h1:env i=u:=h.1;have f:env i=l.getD i uP:=e.1;have b:=fK (dom:=dom) (i:=i+1) e.2 h.2;show u::us=(l.drop i).headD uP::JU dom (l.drop i).tail;rw[e0,e1,<-b,<-h1,f]
  |var t E=>
   cases us with
   |nil=>exact h.elim
   |cons u us=>
    have h1:env i=u:=h.1;have f:env i=l.getD i uP:=e.1;have b:=fK (dom:=dom) (i:=i+1) e.2 h.2;show u::us=(l.drop i).headD uP::JU dom (l.drop i).tail;rw[e0,e1,<-b,<-h1,f]
  |d t=>
   have b:=fK (dom:=dom) (i:=i+1) e h;show us=JU dom (l.drop i).tail;rw[e1];exact b
  |q t=>
   have b:=fK (dom:=dom) (i:=i+1) e h;show us=JU dom (l.drop i).tail;rw[e1];exact b
  |fn d c=>
   have b:=fK (dom:=dom) (i:=i+1) e h;show us=JU dom (l.drop i).tail;rw[e1];exact b
def BK:∀{a b:N WL}{us:N wN},bK P w env (a++b) us->bK P w env a (us.take (X a))/\bK P w env b (us.drop (X a))
 |[],b,us,h=>⟨wS,h⟩
 |r::a,b,[],h=>h.elim
 |r::a,b,u::us,h=>by
  have⟨h1,c⟩:=BK (a:=a) (b:=b) h.2;exact⟨⟨h.1,h1⟩,c⟩
def e9{b:K->wN}:∀{dom:N AM}{i:K},∀e∈CD b dom i,va e.2.2=wL
 |[],_,e,he=>wR he IR
 |a::dom,i,e,he=>by
  cases a with
  |own t E=>
   rcases xaa.1 (show e∈(i,0,Dv.pin<|b i)::CD b dom (i+1)from he)with rfl|he
   ·rfl
   ·exact e9 e he
  |var t E=>
   rcases xaa.1 (show e∈(i,0,Dv.pin<|b i)::CD b dom (i+1)from he)with rfl|he
   ·rfl
   ·exact e9 e he
  |d t=>exact e9 (dom:=dom) (i:=i+1) e he
  |q t=>exact e9 (dom:=dom) (i:=i+1) e he
  |fn d c=>exact e9 (dom:=dom) (i:=i+1) e he
def zkV(hm:P.follows .mixedOrders=wF)(D:yZ P cf.tt)(hL:ug P cf.tt)(hC:∀s∈cf.cs,xt P s)(hX:En P cf){s:WZ}{fn:QR}
 (hf:P.funcs[s.f]? =Z fn) (hb:Ep P s.f=wF) (hM:∀pn x r,s.M x=Z r->zi9 cf fn s.dom s.cod s.bk pn x=Z r):xt P s:=by
 refine⟨hb,λx r h vs hd=> ?_⟩;have h:=hM (λo=>vs.getD o uP) x r h;unfold zi9 at h;split at h
 ·next c hc=>
  have⟨E,h⟩:=z8 h;simp only[xab]at E;have⟨⟨⟨⟨hy,hz⟩,H⟩,hF⟩,J⟩:=E;have H:=zO H;have J:0<s.bk:=Nat.blt_eq.mp J;have⟨b,hA⟩:∃b,s.bk=b+1:=⟨s.bk-1,W⟩;rw[hA];intro we Se F G w hl;refine Ua hf hc (by rw[hd];exact hz) λrest=> ?_;have e0:∀j v,vs[j]? =Z v->vs.getD (0+j) uP=v:=λj v i=>by rw[xaJ,H1,i];rfl
  refine Xy (fr:=⟨we,Se,F,G⟩) (N:=Nd.of fn.ntmps) hm D hL hC hX c hy O (.inl O) h (λt σ' z Ds env w _ A=> ?_) ?_
  ·have⟨Q,A⟩:=QM A
   have k:Ra cf (bf σ' (fn.results.toList++E6 s.dom 0) s.cod) (fn.results.toList++E6 s.dom 0) s.cod (λy _=>Z y)=Z r->∀a:Jp,yK a=env->
    ∃v,(V9 fn a.tmps).run P (qZ Ds w)=.ok v (qZ Ds w)/\∃u:xS wN,xeG v=.returned (zot (b+1) (X s.cod) u)/\zkr s.dom vs (b+1) (X s.cod) u/\St we Se (Ys s.cod r u++F) (Yg s.cod r u++G) (qZ Ds w):=λh a q=>by
    have⟨T,l,hi⟩:=A;have⟨S0,_,hD⟩:=hi.ex;have hv:zE S0 (RS P l env<|CD (λo=>vs.getD o uP) s.dom 0) _:=zE.left<|zE.right hD;have hE:Yn P ⟨we,Se,F,G⟩ ⟨0,[],[]⟩ σ' env (qZ Ds w):=⟨⟨T.o1,λ_ g=>wR g IR,T.r1,λ_ g=>wR g IR⟩,l,hi.weak λS w q=>zE.append (zE.left q)<|zE.right<|zE.right q⟩;have U:=Ur (fn.results.toList++E6 s.dom 0) s.cod hE;generalize bf σ' (fn.results.toList++E6 s.dom 0) s.cod=C at h U;have⟨hB,m,hl⟩:=U;have⟨y,os,e1,e2⟩:=Tr D h;cases e1;have⟨us,h1,h2,h3⟩:=e2 m ⟨we,Se,F,G⟩ env _ _ (λS w d t=>Xz d t) hl;have⟨h4,h5⟩:=BK h2;have hn:X s.cod-(b+1)=X fn.results.toList:=W
    have V:=fK hv h5;rw[List.drop_zero]at V;refine⟨_,WY (rs:=fn.results.toList) (by rw[xcX])<|q▸h4,us,?_,⟨h1,by rw[hn];exact V⟩,?_⟩
    ·show xeG _=.returned (Xv<|us.take<|X s.cod-(b+1));rw[hn]
    ·exact(St.dropM (B:=MS m<|vM C.ob os) h3).weak λS w d=>zE.append (zE.left d)<|zE.right<|zE.right d
   cases t with
   |n=>exact⟨.inl O,Q,k z⟩
   |r=>exact⟨.inr O,Q,k z⟩
   |x j=>cases z
  ·refine⟨⟨λe g=> ?_,λ_ g=>wR g IR,λe g p hp=> ?_,λe g p hp=> ?_⟩,λo=>vs.getD o uP,?_⟩
   ·have:=TU e g;simpa using this
   ·have:=La e g p hp;simpa using this
   ·rw[e9 e g]at hp;cases hp
   ·have e1:MS (λo=>vs.getD o uP) (Xt s.dom x 0).2=Xo s.dom x vs:=zaj hd e0;show St we Se (MS _ (Xt s.dom x 0).2++([]++F)) _ w;rw[e1];refine hl.weak λS w d=>zE.append (Sc hd (λj v i=>⟨e0 j v i,PT i⟩)<|zE.left d)<|zE.append (zdz λj i=> ?_)<|zE.right d;have Y:vs[j]? =Z (vs[j]'W):=xah W;show L _ _ (0+j)=vs.getD (0+j) uP;rw[e0 j _ Y];exact PT Y
 ·cases h
end
end
section
section
variable{P:jp}
def zc:Ty->N wN
 |.i=>[.int .i64 0]
 |.u=>[.int .u64 0]
 |.b=>[.bool I]
 |.ch=>[.int .u8 0]
 |.tx=>[.string ByteArray.empty]
 |.l _=>[.slice wL 0 0]
 |.p s t=>zc s++zc t
 |.a k t=>(xac k<|zc t).flatten
 |.po _=>[.pointer wL]
 |.w1 t=>zc t
def zar{α:Type}{e:zV α}{S:K->Prop}{w:wP}{x:α}{c:N wN}(h:e.p S x c w):∀k,yJ e S (xac k x) (xac k c).flatten w
 |0=>rfl
 |k+1=>⟨c,_,O,h,zar h k⟩
def zb0(S:K->Prop)(w:wP):∀t:Ty,t.rep.p S t.z (zc t) w
 |.i=>⟨O,(gS:(-9223372036854775808:J)<=0),(gS:(0:J)<=9223372036854775807)⟩
 |.u=>⟨O,(gS:(0:K)<18446744073709551616)⟩
 |.b=>rfl
 |.ch=>⟨O,(gS:(0:K)<256)⟩
 |.tx=>⟨ByteArray.empty,O,O,gS⟩
 |.l _=>⟨_,O,SlP.nil⟩
 |.p s t=>⟨_,_,O,zb0 S w s,zb0 S w t⟩
 |.a k t=>⟨xaZ,zar (zb0 S w t) k⟩
 |.po _=>rfl
 |.w1 t=>zb0 S w t
def zkZ(t:Ty):X (zc t)=t.n:=by
 have:=t.rep.len<|zb0 (λ_=>XS) default t;rw[this,t.n_rep]
def zgs:∀{k:K}{t:Ty}{i:K}{f:Fl t.D},xh k t i=Z f->∃d c,zc t=d++zc f.f++c/\X d=f.off
 |0,.w1 t,0,f,h=>by
  simp only[xh,xar]at h;subst h;exact⟨[],[],by simp[zc],O⟩
 |0,.w1 t,_+1,_,h=>by cases h
 |0,.i,_,_,h=>by cases h
 |0,.u,_,_,h=>by cases h
 |0,.b,_,_,h=>by cases h
 |0,.l _,_,_,h=>by cases h
 |0,.p _ _,_,_,h=>by cases h
 |0,.a _ _,_,_,h=>by cases h
 |0,.ch,_,_,h=>by cases h
 |0,.tx,_,_,h=>by cases h
 |0,.po _,_,_,h=>by cases h
 |1,t,i,f,h=>by
  unfold xh at h;cases e:E i 0<;>rw[e]at h
  ·cases h
  ·simp only[Z0,xar]at h;subst h;exact⟨[],[],by simp[Fl.self],O⟩
 |k+2,.p s t,0,f,h=>by
  simp only[xh,xar]at h;subst h;exact⟨[],zc t,by simp[zc],O⟩
 |k+2,.p s t,i+1,f,h=>by
  simp only[xh]at h;split at h
  ·next f' g=>
   simp only[xar]at h;subst h;have⟨d,c,h1,j⟩:=zgs g;refine⟨zc s++d,c,?_,by rw[xap,zkZ,j]⟩;simp only[zc];rw[h1];simp only[xaf]
  ·cases h
 |k+2,.i,i,f,h=>by simp[xh]at h
 |k+2,.u,i,f,h=>by simp[xh]at h
 |k+2,.b,i,f,h=>by simp[xh]at h
 |k+2,.l _,i,f,h=>by simp[xh]at h
 |k+2,.a _ _,i,f,h=>by simp[xh]at h
def zkk(P:jp)(t n:K):(N (V K)×N (V<|K×wW×K))×V (N<|V<|K×K):=(((xaH<|n+(1-n)).map λi=>SM P t i,(xaH<|n+(1-n)).map λi=>zhz P t i),match plB P t with
 |some a=>Z<|a.toList.map Z
 |none=>wL)
def zeJ(ty:Ty)(n:K):(N (V K)×N (V<|K×wW×K))×V (N<|V<|K×K):=(((xaH<|n+(1-n)).map λi=>(xh n ty i).map (·.off),(xaH<|n+(1-n)).map λi=>(xh n ty i).map λf=>(f.off,f.f.rep.agg,f.f.n)),Z<|(xaH<|n+(1-n)).map λi=>(xh n ty i).map λf=>(f.off,f.f.n))
def NW(P:jp)(t:wT)(a:TI):Prop:=match a.k with
 |.int k=>P.underlying t=Z (.int k)
 |.bool=>P.underlying t=Z .bool
 |.str=>P.underlying t=Z .string
 |.sl E=>P.underlying t=Z (.slice E)/\∃e,a.ty=.l e
 |.st n=>a.ty.rep.agg=wF/\zkk P t n=zeJ a.ty n
 |.ar k E=>a.ty.rep.agg=wF/\P.underlying t=Z (.array k E)
 |.pt E=>P.underlying t=Z (.pointer E)
def zbc:∀{n:K}{t:Ty}{i:K}{f:Fl t.D},0<n->xh n t i=Z f->i<n
 |0,_,_,_,h0,h=>wR h0<|Nat.lt_irrefl 0
 |1,t,i,f,_,h=>by
  simp only[xh]at h;cases c:E i 0<;>rw[c]at h
  ·cases h
  ·rw[zO c];exact xdS
 |n+2,.p s t,0,f,_,h=>Nat.succ_pos _
 |n+2,.p s t,i+1,f,_,h=>by
  simp only[xh]at h;split at h
  ·next f' d=>exact Nat.succ_lt_succ<|zbc (Nat.succ_pos _) d
  ·cases h
 |n+2,.i,_,_,_,h=>by simp[xh]at h
 |n+2,.u,_,_,_,h=>by simp[xh]at h
 |n+2,.b,_,_,_,h=>by simp[xh]at h
 |n+2,.l _,_,_,_,h=>by simp[xh]at h
 |n+2,.a _ _,_,_,_,h=>by simp[xh]at h
 |n+2,.ch,_,_,_,h=>by simp[xh]at h
 |n+2,.tx,_,_,_,h=>by simp[xh]at h
 |n+2,.po _,_,_,_,h=>by simp[xh]at h
 |n+2,.w1 _,_,_,_,h=>by simp[xh]at h
def SO{n:K}{t:Ty}{i:K}{f:Fl t.D}(h:xh n t i=Z f):i<n+(1-n):=by
 cases n with
 |zero=>
  cases t<;>cases i<;>first
   |exact xdS
   |cases h
 |succ n=>have:=zbc (Nat.succ_pos n) h;lia
def zgo.of{t:wT}{d:TI}(h:NW P t d):zgo P t d:=by
 unfold NW at h;unfold zgo;split at h
 ·next h0=>simp only[h0];exact h
 ·next h0=>simp only[h0];exact h
 ·next h0=>simp only[h0];exact h
 ·next h0=>simp only[h0];exact h
 ·next n h0=>
  simp only[h0];have⟨h1,h⟩:=h;have e:=kW (λq=>q.1.1) h;have g:=kW (λq=>q.1.2) h;have c:=kW Prod.snd h;simp only[zkk,zeJ]at e g c;refine⟨h1,λi f b=> ?_,?_,λi f b=> ?_⟩;rotate_left 2
  ·have:=kW (λl:N (V<|K×wW×K)=>l[i]?) g;simp only[xcg,xdR<|SO b,Option.map_some,b]at this;simpa using this
  ·have:=kW (λl:N (V K)=>l[i]?) e;simp only[xcg,xdR<|SO b,Option.map_some,b]at this;simpa using this
  ·cases hp:plB P t with
   |none=>
    rw[hp]at c;cases c
   |some a=>
    rw[hp]at c;simp only[xar]at c;have⟨fs,k,m⟩:=zhI hp;refine⟨fs,k,a,m,λi f b=> ?_⟩;have:=kW (λl:N (V<|K×K)=>l[i]?) c;simp only[xcg,xdR<|SO b,Option.map_some,b]at this;rw[<-Array.getElem?_toList]
    cases j:a.toList[i]? with
    |none=>rw[j]at this;cases this
    |some q=>rw[j]at this;simpa using this
 ·next h0=>simp only[h0];exact h
 ·next h0=>simp only[h0];exact h
def zfb.of{t:wT}{a:TI}(h1:tyB P t=Z (a.ty.rep.agg,a.ty.n,a.B,Z<|a.ty.rep.val<|zc a.ty))(c:(xdh 0 a.B && xdh 0 a.ty.n)=wF)(f:NW P t a):zfb P t a:=by
 rw[xab]at c;have b:=λS w=>zb0 S w a.ty;refine⟨⟨_,(by rw[Ty.n_rep];exact QF.of h1),?_,λS w=> ?_,(λs h=>by rw[h];rfl),λn i off s g st j=> ?_⟩,xbJ c.1,(by rw[Ty.n_rep];exact xbJ c.2),zgo.of f⟩
 ·rw[<-xeU,zV.val_cells _<|b (λ_=>XS) default,a.ty.rep.len<|b (λ_=>XS) default]
 ·rw[zV.val_cells _<|b S w];exact b S w
 ·rw[zV.val_cells _<|b (λ_=>XS) default];have⟨k,d,l,e⟩:=zgs j;rw[l,xaf,xbj (by simp only at e;lia),e,xcQ];rfl
def yZ.nil:yZ P []:=λ_ _ h=>by cases h
def yZ.cons{t:wT}{c:TI}{tt:N (K×TI)}(h:zfb P t c)(k:yZ P tt):yZ P ((t,c)::tt):=by
 intro d b a;unfold K2 at a;cases e:E t d<;>rw[e]at a
 ·exact k d b a
 ·cases a;rw[<-zO e];exact h
def yZ.add{t:wT}{a:TI}{tt:N (K×TI)}(h1:tyB P t=Z (a.ty.rep.agg,a.ty.n,a.B,Z<|a.ty.rep.val<|zc a.ty))(b:(xdh 0 a.B && xdh 0 a.ty.n)=wF)(c:NW P t a)(k:yZ P tt):yZ P ((t,a)::tt):=yZ.cons (zfb.of h1 b c) k
def elB(tt:N (K×TI)):N (K×TI)->wW
 |[]=>wF
 |(_,⟨.l s,.sl E,_⟩)::r=>(match K2 tt E with
  |some a=>(Ty.same a.ty s).isSome
  |none=>I) && elB tt r
 |_::r=>elB tt r
def ug.of'{tt:N (K×TI)}:∀{l:N (K×TI)},elB tt l=wF->∀t s E B,K2 l t=Z ⟨.l s,.sl E,B⟩->∃a,K2 tt E=Z a/\a.ty=s
 |[],_,_,_,_,_,h=>by cases h
 |(d,e)::r,h,t,s,E,B,b=>by
  have f:elB tt r=wF:=by
   unfold elB at h;split at h
   ·cases‹_::_=[]›
   ·next c=>cases c;rw[xab]at h;exact h.2
   ·next c=>cases c;exact h
  unfold K2 at b;cases g:xaj d t<;>rw[g]at b
  ·exact ug.of' f t s E B b
  ·cases b;unfold elB at h;simp only[xab]at h;have h:=h.1;split at h
   ·next a i=>
    refine⟨a,i,?_⟩
    cases j:Ty.same a.ty s with
    |none=>rw[j]at h;cases h
    |some p=>exact p.down
   ·cases h
def ug.of{tt:N (K×TI)}(h:elB tt tt=wF):ug P tt:=λt s E B=>ug.of' h t s E B
def lv.nil:lv P []:=λ_ _ h=>by cases h
def lv.add{f:K}{b:wW}{ex:N (K×wW)}{fn:QR}(h0:P.funcs[f]? =Z fn)(h1:(fn.name== "runtime.NumGoroutine")=I)(e:fn.body=wL)(g:(xeE fn).isNone=wF)
 (h:b=wF->xeW fn=Z (λargs=>do
  let(x,y,c)<-xbO "Add64" args
  pure (xbU ((x+y+c)%xaY)<|(x+y+c)/xaY)))
 (i:b=I->xeW fn=Z (λargs=>do
  let(x,y,b)<-xbO "Sub64" args
  pure (xbU ((x+xaY-y-b)%xaY) (if x<y+b then 1 else 0)))) (k:lv P ex):lv P ((f,b)::ex):=by
 intro f' j a;unfold K2 at a;cases d:E f f'<;>rw[d]at a
 ·exact k f' j a
 ·cases a;rw[<-zO d];exact⟨fn,h0,h1,e,g,h,i⟩
def cN:∀s∈([]:N WZ),xt P s:=λ_ h=>wR h IR
theorem cC{s:WZ}{l:N WZ}(h:xt P s)(k:∀s∈l,xt P s):∀q∈s::l,xt P q:=by grind
def sg0{s:WZ}(a:Ep P s.f=wF)(b:∀x,s.M x=wL):xt P s:=⟨a,λx r h=>by rw[b x]at h;cases h⟩
def En.of{tt:N (K×TI)}{ex:N (K×wW)}{cs:N WZ}{an:An}{fu:K}(a:lv P ex)(hp:P=Tryz.prog):En P ⟨tt,cs,an,fu,ex,[],[],[]⟩:=⟨a,λ_ h=>wR h IR,λ_ h=>wR h IR,λ_ h=>wR h IR,hp⟩
def sgP(a:P.follows .mixedOrders=wF){tt:N (K×TI)}{ex:N (K×wW)}(b:yZ P tt)(c:ug P tt)(d:lv P ex)(hp:P=Tryz.prog){cs:N WZ}(an:An){fu:K}{s:WZ}{fn:QR}(e:P.funcs[s.f]? =Z fn)(g:∀s∈cs,xt P s)(i:Ep P s.f=wF)(j:s.bk=0)(k:∀x,TP ⟨tt,cs,an,fu,ex,[],[],[]⟩ fn s.dom s.cod x=s.M x):xt P s:=
 Tl (cf:=⟨tt,cs,an,fu,ex,[],[],[]⟩) a b c g (.of d hp) e i j λx r h=>(k x).trans h
def sgG(b:P.follows .mixedOrders=wF){tt:N (K×TI)}{ex:N (K×wW)}(c:yZ P tt)(d:ug P tt)(e:lv P ex)(hp:P=Tryz.prog){cs:N WZ}(an:An){fu:K}{s:WZ}{fn:QR}(g:P.funcs[s.f]? =Z fn)(i:∀s∈cs,xt P s)(j:Ep P s.f=wF)(k:∀a x,zi9 ⟨tt,cs,an,fu,ex,[],[],[]⟩ fn s.dom s.cod s.bk a x=s.M x):xt P s:=
 zkV (cf:=⟨tt,cs,an,fu,ex,[],[],[]⟩) b c d i (.of e hp) g j λa x r h=>(k a x).trans h
end
end
section
def zef:(dom:N Ty)->mb dom->K->N (K×K×Dv)
 |[],_,_=>[]
 |t::r,x,i=>(i,0,.d t x.1)::zef r x.2 (i+1)
def ziM(g:Z5)(t:K)(σ:Sg):V (N PD):=match get ⟨0,[],[]⟩ σ t 0 with
 |some (.fn f cs)=>qM (E f g)<|some cs
 |_=>wL
def znS(cf:Cf)(fn:QR)(dom:N Ty)(g:Z5)(x:mb dom):V (N PD):=match fn.body,fn.results.toList with
 |some c,[.tmp t]=>qM (okC fn.ntmps c && xfY (X dom) fn.ntmps)<|den cf c ⟨0,[],[]⟩ ⟨0,zef dom x 0,[]⟩ λq σ=>match q with
  |.r=>ziM g t σ
  |.n=>ziM g t σ
  |_=>wL
 |_,_=>wL
def zjW(t:Ty)(E E1:wT)(ix:N K)(lo n:K)(σ:Sg):V (N<|N t.D):=match get ⟨0,[],[]⟩ σ 3 0 with
 |some (.mv o a c)=>(match xz σ.ob o with
  |some (.mat d e f xss b)=>qM (xaj E e && xaj E1 f)<|Ty.cast (.l (.l d)) (.l (.l t)) xss λy=>ck (a=lo/\c=n/\b=ix)<|some y
  |_=>wL)
 |_=>wL
def zlj(cf:Cf)(fn:QR)(t:Ty)(E E1:wT)(b:wN)(xss:N (N t.D))(ix:N K)(r:K)(a p:J)(lo n:K):V (N<|N t.D):=match fn.body,fn.results.toList with
 |some c,[]=>qM (okC fn.ntmps c && xfY 4 fn.ntmps)<|den cf c ⟨0,[(3,0,.pin b)],[]⟩ ⟨1,[(0,0,.rw 0 r),(1,0,.d .i a),(2,0,.d .i p),(3,0,.mv 0 lo n)],[(0,.mat t E E1 xss ix)]⟩ λq σ=>match q with
  |.r=>zjW t E E1 ix lo n σ
  |.n=>zjW t E E1 ix lo n σ
  |_=>wL
 |_,_=>wL
section
variable{P:jp}{cf:Cf}{env:y8}{w:wP}
def zbD{S:K->Prop}{vs:K->wN}:∀{dom:N Ty}{x:mb dom}{i:K}{l:N wN},X l=X dom->(∀j v,l[j]? =Z v->env (i+j)=v)->zE S (tsF dom x l) w->zE S (RS P vs env<|zef dom x i) w
 |[],_,_,_,_,_,_=>trivial
 |a::dom,x,i,[],hl,_,_=>by cases hl
 |a::dom,x,i,v::l,hl,h,b=>by
  have c:zE S (RS P vs env<|zef dom x.2<|i+1) w:=zbD (l:=l) (by simpa using hl) (λj v d=>by
   have:=h (j+1) v (by simpa using d);rw[(W:i+1+j=i+(j+1))];exact this) b.2
  have h0:env i=v:=h 0 v O;have e:(fV a.rep x.1 v).p S w:=b.1;exact⟨show(fV a.rep x.1<|env i).p S w by rw[h0];exact e,c⟩
def MQ:∀{dom:N Ty}{x:mb dom}{i:K},∀e∈zef dom x i,va e.2.2=wL
 |[],_,_,e,he=>wR he IR
 |a::dom,x,i,e,he=>by
  obtain rfl|he:=xaa.1 he
  ·rfl
  ·exact MQ e he
def zmI(o:P.follows .mixedOrders=wF)(y:yZ P cf.tt)(z:ug P cf.tt)(D:∀s∈cf.cs,xt P s)(E:En P cf){s:PF}{fn:QR}
 (H:P.funcs[s.f]? =Z fn) (J:Ep P s.f=wF) (K:∀x,znS cf fn s.dom s.g x=Z (s.mc x)):Ss P s:=by
 refine⟨J,λx vs hd=>FnG.plain ?_⟩;have h:=K x;unfold znS at h;split at h
 ·next c t hc L=>
  have⟨k,h⟩:=z8 h;rw[xab]at k;intro we Se F G w M;refine Ua H hc (by rw[hd];exact k.2) λrest=> ?_;refine Xy (fr:=⟨we,Se,F,G⟩) (N:=Nd.of fn.ntmps) o y z D E c k.1 O (.inl O) h (λq σ' l Ds env w _ m=> ?_) ?_
  ·have⟨hl,m⟩:=QM m
   have i:ziM s.g t σ'=Z (s.mc x)->∀a:Jp,yK a=env->
    ∃v,(V9 fn a.tmps).run P (qZ Ds w)=.ok v (qZ Ds w)/\∃u:wN,xeG v=.returned u/\XS/\St we Se ([]++F) ([zmU s.g (s.mc x) u]++G) (qZ Ds w):=λh a Q=>by
    unfold ziM at h;split at h
    ·next f cs R=>
     have⟨hi,h1⟩:=z8 h;have hi:=zO hi;subst hi;cases h1;have⟨Y,vs',hn⟩:=m;have T:St we Se (MS vs' σ'.ob++F) (RS P vs' env σ'.rg++([]++G)) (qZ Ds w):=hn;refine⟨_,WY (rs:=[.tmp t]) (vs:=[env t]) (by rw[<-L,xcX])<|Q▸⟨O,wS⟩,env t,O,wS,?_⟩;have U:=St.dropM (A:=[]) (B:=MS vs' σ'.ob) (C:=F) (by simpa using T);refine U.weak λS w b=>⟨?_,?_⟩
     ·exact Xz (fr:=⟨we,Se,F,G⟩) (cx:=⟨0,[],[]⟩) (show zE S (GS P vs' env ⟨we,Se,F,G⟩ ⟨0,[],[]⟩ σ') w from b) t 0 _ R
     ·exact zE.right b
    ·cases h
   cases q with
   |n=>exact⟨.inl O,hl,i l⟩
   |r=>exact⟨.inr O,hl,i l⟩
   |x j=>cases l
  ·refine⟨⟨λ_ d=>wR d IR,λ_ d=>wR d IR,λe d p hp=> ?_,λ_ d=>wR d IR⟩,λ_=>uP,?_⟩
   ·rw[MQ e d]at hp;cases hp
   ·show St we Se ([]++([]++F)) _ w;exact M.weak λS w b=>zE.append (zbD hd (λj v V=>PT V)<|zE.left b)<|zE.right b
 ·cases h
def ze0{α:Type}{e:zV α}{E E1:wT}{u:wN}{xss:N (N α)}{ix:N K}{S:K->Prop}(h:(th e E E1 u xss ix).p S w):∀a k c,yA u=.slice a k c->a.isSome=wF->k=X ix:=by
 intro a k c h1 d;rcases dk (HS h).2.1 with⟨hv,_⟩|⟨b,cap,hv,_⟩
 ·rw[h1]at hv;cases hv;cases d
 ·rw[h1]at hv;cases hv;rfl
def ziU{cx σ:Sg}{t i:K}{d:Dv}(h:get ⟨0,[],[]⟩ σ t i=Z d):get cx σ t i=Z d:=by
 unfold get at h⊢;split at h
 ·exact h
 ·cases h
def zmR(U:P.follows .mixedOrders=wF)(V:yZ P cf.tt)(Y:ug P cf.tt)(hC:∀s∈cf.cs,xt P s)(hX:En P cf){s:Ck}{fn:QR}
 (hf:P.funcs[s.f]? =Z fn) (hb:Ep P s.f=wF) (hM:∀pn xss ix r a p lo n z,s.M xss ix r a p lo n=Z z->zlj cf fn s.t s.E s.E1 pn xss ix r a p lo n=Z z):Sa P s:=by
 refine⟨hb,λxss ix r a p lo n z hz u hr hv hy hl hA hD we Se F G w hn=> ?_⟩;have h:=hM hv xss ix r a p lo n z hz;unfold zlj at h;split at h
 ·next c hc hF=>
  have⟨l,h⟩:=z8 h;rw[xab]at l;have hi:∀a k c,yA u=.slice a k c->a.isSome=wF->k=X ix:=wo hn (i:=0) O λS hp=>ze0 hp;refine Ua (args:=[hr,.int .i64 a,.int .i64 p,hv]) hf hc l.2 λrest=> ?_;refine Xy (fr:=⟨we,Se,F,G⟩) (N:=Nd.of fn.ntmps) U V Y hC hX c l.1 O (.inl O) h (λq σ' B Ds env w _ C=> ?_) ?_
  ·have⟨L,C⟩:=QM C
   have m:zjW s.t s.E s.E1 ix lo n σ'=Z z->∀a:Jp,yK a=env->
    ∃v,(V9 fn a.tmps).run P (qZ Ds w)=.ok v (qZ Ds w)/\∃v' Q,xeG v=.returned v'/\yA Q=yA u/\St we Se (th s.t.rep s.E s.E1 Q z ix::F) G (qZ Ds w):=λh a ha=>by
    unfold zjW at h;split at h
    ·next o D n' hg=>
     split at h
     ·next t' E' F' y d l=>
      have⟨H,h1⟩:=z8 h;rw[xab]at H;have hG:=zO H.1;have hH:=zO H.2;subst hG hH;have⟨e,A⟩:=yj h1;cases e;obtain⟨⟨rfl,rfl,rfl⟩,J⟩:=u9 A;cases J;have⟨hB,vs',hd⟩:=C;have⟨S0,_,R⟩:=hd.ex;have hw:env 3=hv:=(zE.left<|zE.right R).1;have T:MI (yA<|vs' o) D n' (env 3):=Xz R 3 0 _<|ziU hg;rw[hw]at T;have A:St we Se (th s.t.rep s.E s.E1 (vs' o) y d::OS vs' ⟨we,Se,F,G⟩ ⟨0,[(3,0,.pin hv)],[]⟩ (yu σ'.ob o)) (GS P vs' env ⟨we,Se,F,G⟩ ⟨0,[(3,0,.pin hv)],[]⟩ σ') (qZ Ds w):=jq l hd;have hj:∀a k c,yA (vs' o)=.slice a k c->a.isSome=wF->k=X d:=wo A (i:=0) O λS hp=>ze0 hp;refine⟨_,WY (rs:=[]) (vs:=[]) (by rw[<-hF,xcX]) wS,_,vs' o,O,T.same hl hj hi,?_⟩;have J:St we Se ([th s.t.rep s.E s.E1 (vs' o) y d]++(MS vs' (yu σ'.ob o)++F)) (GS P vs' env ⟨we,Se,F,G⟩ ⟨0,[(3,0,.pin hv)],[]⟩ σ') (qZ Ds w):=A;exact(St.dropM J).weak λS w g=>zE.right<|zE.right g
     ·cases h
    ·cases h
   cases q with
   |n=>exact⟨.inl O,L,m B⟩
   |r=>exact⟨.inr O,L,m B⟩
   |x j=>cases B
  ·refine⟨⟨λe b=> ?_,λ_ b=>wR b IR,λe b q K=> ?_,λe b q K=> ?_⟩,λ_=>u,?_⟩
   ·obtain rfl:=xad.1 b;exact xdS
   ·simp only[xaa,IR,UL]at b;obtain rfl|rfl|rfl|rfl:=b<;>cases K<;>exact xdS
   ·obtain rfl:=xad.1 b;cases K
   ·refine hn.weak λS w g=>⟨hy,wz hA,wz hD,hl,O,g⟩
 ·cases h
end
end
section
def zd8{ι:Type _}{R:Type}(S:ι->Tg×Sg)(f:ι->V R)(a:∀i j,S i=S j->f i=f j):∃K:Tg->Sg->V R,(∀i,K (S i).1 (S i).2=f i)/\∀t σ r,K t σ=Z r->∃i,S i=(t,σ)/\f i=Z r:=by
 classical
 refine⟨λt σ=>if h:∃i,S i=(t,σ)then f h.choose else wL,λi=> ?_,λt σ r h=> ?_⟩
 ·have h:∃j,S j=((S i).1,(S i).2):=⟨i,O⟩;simp only[dif_pos h];exact a _ _ h.choose_spec
 ·by_cases h1:∃i,S i=(t,σ)
  ·simp only[dif_pos h1]at h;exact⟨_,h1.choose_spec,h⟩
  ·simp only[dif_neg h1]at h;cases h
def chS(E:wT){X Y:Type}(b:X->wN->MF)(c:Y->wN->MF)(g:N J->X->V (N J×(X⊕Y)))(n a:J)(x:X)(xs:N J):Sg:=
 ⟨2,[(4,0,.ow 1),(0,0,.yd 0),(1,0,.q .i n),(2,0,.q .i a)],[(1,.own .i E xs),(0,.hid .i E X Y b c g x)]⟩
section
variable{P:jp}{fr:Fr}{σ:Sg}{env:y8}{w:wP}{E:wT}{X Y:Type}{mX:X->wN->MF}{mY:Y->wN->MF}{g:xS wl->X->ww (xS wl×(X⊕Y))}{n all:wl}{x:X}{y:Y}{xs:xS wl}{o p:wr}
def zj0(c:get ⟨0,[],[]⟩ σ 4 0=Z (.ow p))(h0:get ⟨0,[],[]⟩ σ 0 0=Z (.yd o))(h1:get ⟨0,[],[]⟩ σ 1 0=Z (.q .i n))(d:get ⟨0,[],[]⟩ σ 2 0=Z (.q .i all))(f:xz σ.ob o=Z (.hid .i E X Y mX mY g x))(hp:xz σ.ob p=Z (.own .i E xs))
 (hc:xaj o p=I) (h:Yn P fr ⟨0,[],[]⟩ σ env w):Yn P fr ⟨0,[],[]⟩ (chS E mX mY g n all x xs) env w:=by
 have⟨s,vs,hd⟩:=h;have j:=fG hc f hp hd;refine⟨⟨λe a=> ?_,λ_ a=>wR a IR,λe a q l=> ?_,λ_ a=>wR a IR⟩,λk=>if k=0 then vs o else vs p,?_⟩
 ·simp only[chS,xaa,IR,UL]at a⊢;obtain rfl|rfl:=a<;>simp
 ·simp only[chS,xaa,IR,UL]at a⊢;obtain rfl|rfl|rfl|rfl:=a<;>cases l<;>simp
 ·have m:St fr.we fr.Se ([Jt vs (o,.hid .i E X Y mX mY g x),Jt vs (p,.own .i E xs)]++(MS vs (yu (yu σ.ob o) p)++fr.F)) (GS P vs env fr ⟨0,[],[]⟩ σ) w:=j;have r:St fr.we fr.Se ([Jt vs (p,.own .i E xs),Jt vs (o,.hid .i E X Y mX mY g x)]++fr.F) (GS P vs env fr ⟨0,[],[]⟩ σ) w:=(St.dropM m).perm<|xdP ..;refine r.weak λS w b=>⟨?_,?_,?_,?_,?_⟩
  ·exact Xz b 4 0 _ c
  ·exact Xz b 0 0 _ h0
  ·exact Xz b 1 0 _ h1
  ·exact Xz b 2 0 _ d
  ·exact zE.right<|zE.right b
def zlK{t:Ty}{g:N t.D->X->V (N t.D×(X⊕Y))}(a:xz σ.ob o=Z (.hid t E X Y mX mY g x))(h:Yn P fr ⟨0,[],[]⟩ σ env w):∃b,St fr.we fr.Se (mX x b::fr.F) fr.G w:=by
 have⟨f,vs,hc⟩:=h;have⟨_,c⟩:=St.unpr<|St.grp.1<|jq a hc;have d:St fr.we fr.Se ([mX x<|(xM<|vs o).headD uP]++(MS vs (yu σ.ob o)++fr.F)) (GS P vs env fr ⟨0,[],[]⟩ σ) w:=c;exact⟨_,(St.dropM d).weak λS w e=>zE.right<|zE.right e⟩
def zlT(a:xz σ.ob o=Z (.hiy Y mY y))(h:Yn P fr ⟨0,[],[]⟩ σ env w):∃b,St fr.we fr.Se (mY y b::fr.F) fr.G w:=by
 have⟨f,vs,hc⟩:=h;have c:=jq a hc;have d:St fr.we fr.Se ([mY y<|(xM<|vs o).headD uP]++(MS vs (yu σ.ob o)++fr.F)) (GS P vs env fr ⟨0,[],[]⟩ σ) w:=c;exact⟨_,(St.dropM d).weak λS w e=>zE.right<|zE.right e⟩
end
end
section
section
variable{P:jp}
def Tc{U:Type}{f:Z5}{args:ul wN}{Γ:N FF}{b:U->wN}{a:U->N FF}{ok:U->Prop}(h:Fn P f args Γ b a ok):FnG P f args [] Γ b (λ_=>[]) a ok:=by
 rintro we Se F G w ⟨h1,l,n,S,o,d,p,g,j⟩;refine(h w S d<|zE.left j).mono ?_;rintro e w' ⟨u,e1,q,c,r⟩;exact⟨u,e1,q,h1.trans c,l,n,S,o,λk s=>d k<|xal c.size s,p,yL.keep c.to (λm t i hi=>c.block i (yL.lt g m t i hi) wS) g,zE.append r<|zE.keep c.to<|zE.right j⟩
def FnG.to{U V:Type}{f:Z5}{args:ul wN}{ms:N MF}{Γ:N FF}{i:U->wN}{own:U->N MF}{b:U->N FF}{ok:U->Prop}{c:V->wN}{d:V->N MF}{a:V->N FF}{j:V->Prop}
 (h:FnG P f args ms Γ i own b ok) (g:U->V) (h1:∀u,i u=c (g u)) (m:∀u,own u=d (g u)) (n:∀u,ok u->j (g u)) (o:∀u,ok u->∀S w,zE S (b u) w->zE S (a<|g u) w):FnG P f args ms Γ c d a j:=by
 intro we Se F G w hc;refine(h we Se F G w hc).mono ?_;rintro e w' ⟨u,e1,k,p⟩;exact⟨g u,by rw[e1,h1],n u k,by rw[<-m];exact p.weak λS w l=>zE.append (o u k S w<|zE.left l)<|zE.right l⟩
def zlH{f:Z5}{s t:Ty}{M:s.D->V t.D}(a:Ep P f=wF)(h:∀x r v,M x=Z r->Fn P f [v].toArray [fV s.rep x v] (λu:wN=>u) (λu=>[fV t.rep r u]) (λ_=>XS)):xt P ⟨f,[.d s],[.d t],λx=>M x.1,0⟩:=by
 refine⟨a,λx r b vs hl=> ?_⟩
 match vs,hl with
 |[v],_=>exact(Tc<|h x.1 r v b).to (λu=>[u]) (λ_=>O) (λ_=>O) (λ_ _=>O) λu _ S w c=>c
def zmc{f:Z5}{M:K->V J}(c:Ep P f=wF)(h:∀x r,x<18446744073709551616->M x=Z r->Fn P f [.int .u64 (x:J)].toArray [] (λ_:Z4=> .int .i64 r) (λ_=>[]) (λ_=>Jx r)):xt P ⟨f,[.d .u],[.d .i],λx=>M x.1,0⟩:=by
 refine⟨c,λx r e vs hl=> ?_⟩
 match vs,hl with
 |[v],_=>
  intro we Se F G w hc;have⟨S0,_,a⟩:=hc.ex;have⟨hv,g⟩:=zdB (show(fV eU x.1 v).p S0 w from a.1);have:=Tc<|h x.1 r g e;rw[<-hv]at this;have j:FnG P f [v].toArray [] [] Xv (λus=>Ys [RM.d .i] r us) (λus=>Yg [RM.d .i] r us) (λus=>X us=1):=this.to (λ_=>[.int .i64 r]) (λ_=>O) (λ_=>O) (λ_ _=>O) λu k S w b=>⟨wz k,wS⟩;exact j we Se F G w<|hc.weak λS w b=>b.2
end
end
section
section
variable{P:jp}
def KD.of_below{w w':wP}(h:RowKit.Below w.heap.size w w'):KD w w':=⟨h.os,h.tape,h.output,h.size,λk a _=>h.block k a⟩
def zgc(xs:N (N K))(sep:N K):V (N K):=ck (X xs<=140737488355328)<|ck (X (sep.intercalate xs)<=140737488355328)<|some (sep.intercalate xs)
def OW{S:K->Prop}{w:wP}:∀{xs:N (N K)}{cs:N wN},yJ eTx S xs cs w->∃bs:N Wd,cs=bs.map Value.string/\bs.map xb=xs
 |[],cs,h=>⟨[],h,O⟩
 |x::xs,cs,⟨c,r,h1,a,d⟩=>by
  have⟨bs,e1,e⟩:=OW d;have⟨b,f,g,_⟩:=a;exact⟨b::bs,by rw[h1,f,e1];rfl,by rw[xcb,g,e]⟩
def Hf{α β:Type}(f:α->β)(s:N α):∀X:N (N α),(s.intercalate X).map f=(s.map f).intercalate (X.map<|List.map f)
 |[]=>by simp[xfL]
 |[x]=>by simp[xfL]
 |x::y::r=>by
  have a:=Hf f s (y::r);simp only[xfL,xcb,List.intersperse_cons_cons,List.flatten_cons,xaW]at a⊢;rw[a]
def Tz(bs:N Wd)(s:Wd):xb ⟨(Lib.join (bs.map (·.data.toList)) s.data.toList).toArray⟩=(xb s).intercalate (bs.map xb):=by
 show((Lib.join (bs.map (·.data.toList)) s.data.toList).toArray.toList).map xfu=_;rw[List.toList_toArray];unfold Lib.join;rw[Hf,xdb];rfl
def zgl{f:Z5}(C:Ep P f=wF)
 (h0:∀(a:V JP) (c:K) (sep:Wd) (w:wP),Us P f #[.slice a 0 c,.string sep] w λe w'=>e=.returned (.string ⟨#[]⟩)/\w'=w)
 (h1:∀(bk o c:K) (xs:N Wd) (sep:Wd) (w:wP),(∀(j:K) x,xs[j]? =Z x->w.cell? ⟨bk,o+j,wL⟩=Z (.string x))->bk<w.heap.size->X xs<=140737488355328->X xs<=c->X (Lib.join (xs.map (·.data.toList)) sep.data.toList)<=140737488355328->
  Us P f #[.slice (Z ⟨bk,o,wL⟩) (X xs) c,.string sep] w λe w'=>e=.returned (.string ⟨(Lib.join (xs.map (·.data.toList)) sep.data.toList).toArray⟩)/\RowKit.Below w.heap.size w w'):
 xt P ⟨f,[.d (.l .tx),.d .tx],[.d .tx],λx=>zgc x.1 x.2.1,0⟩:=by
 refine⟨C,λx r g vs hl=> ?_⟩
 match vs,hl with
 |[v,u],_=>
  have g:zgc x.1 x.2.1=Z r:=g;unfold zgc at g;have⟨k1,g⟩:=u9 g;have⟨k2,g⟩:=u9 g;have k:r=xfL (α:=K) x.2.1 x.1:=(xdC g).symm;have p:Fn P f #[v,u] [fV (eS eTx) x.1 v,fV eTx x.2.1 u] (λ_:Z4=> .string ⟨(r.map xeX).toArray⟩) (λ_=>[fV eTx r (.string ⟨(r.map xeX).toArray⟩)]) (λ_=>XS):=by
   intro w Se T q;have⟨hv,D,_⟩:=q;obtain⟨m,rfl,E,U⟩:=NL D;obtain⟨F,cap,rfl,G,hn,h⟩:=xK.1 hv;have i:∀(t:N UInt8) (w':wP),KD w w'->t.map xfu=r->FnQ Se w (λ_:Z4=> .string ⟨(r.map xeX).toArray⟩) (λ_=>[fV eTx r (.string ⟨(r.map xeX).toArray⟩)]) (λ_=>XS) (.returned (.string ⟨t.toArray⟩)) w':=by
    intro t w' H s;have n:t=r.map xeX:=by
     rw[<-s,xdb];conv=>lhs;rw[<-List.map_id t]
     exact xci λb _=>by simp
    rw[<-n];refine⟨(),O,wS,H,Ri ?_ ?_,wS⟩
    ·unfold xb;simpa using s
    ·have Y:=qQ ⟨t.toArray⟩;have h7:X (xb ⟨t.toArray⟩)=X r:=by unfold xb;rw[<-s]
     have h8:X r<=140737488355328:=by rw[k];exact k2
     lia
   obtain h|⟨b,o,cs,rfl,hs,hd,J⟩:=h
   ·have h:x.1=([]:N (N K)):=h;have hi:r=[]:=by rw[k,h];rfl
    rw[h];refine(h0 F cap m w).mono ?_;rintro e w' ⟨rfl,rfl⟩;exact i [] w' (yw.refl _ _) hi.symm
   ·have⟨bs,L,n⟩:=OW J;have hc:X bs=xaF (α:=N K) x.1:=by rw[<-n,xbd]
    have z:=Tz bs m;rw[E,n]at z;have A:(Lib.join (bs.map (·.data.toList)) m.data.toList).map xfu=r:=by
     rw[k,<-z];unfold xb;simp
    have:=h1 b o cap bs m w (λj y M=>hd.2 j (.string y)<|by rw[L,xcg,M];rfl) hd.1 (by rw[hc];exact k1) (by rw[hc];exact G) (by
     have B:=kW xaF A;rw[xbd]at B;rw[B,k];exact k2)
    rw[hc]at this;refine this.mono ?_;rintro e w' ⟨rfl,Q⟩;exact i _ w' (KD.of_below Q) A
  exact(Tc p).to (λ_=>[.string ⟨(r.map xeX).toArray⟩]) (λ_=>O) (λ_=>O) (λ_ _=>O) λ_ _ S w R=>R
end
end
section
set_option maxRecDepth 100000
variable{cs:xS WZ}{fu:wr}{s:WZ}
def tt:N (K×TI):=[(2,⟨.i,.int .i64,8⟩),(3,⟨.i,.int .i64,8⟩),(4,⟨.b,.bool,1⟩),(5,⟨.ch,.int .u8,1⟩),(6,⟨.ch,.int .u8,1⟩),(7,⟨(.p .i (.p .i (.p .b .ch))),.st 4,24⟩),(8,⟨(.p .i (.p .i (.p .b .ch))),.st 4,24⟩),(9,⟨.tx,.str,16⟩),(10,⟨.tx,.str,16⟩),(11,⟨.tx,.str,16⟩),(12,⟨.u,.int .u64,8⟩),(13,⟨(.p .tx .u),.st 2,24⟩),(14,⟨(.p .tx .u),.st 2,24⟩),(22,⟨(.l (.p .b (.l .u))),.sl 44,24⟩),(23,⟨(.l (.l (.p (.p .b (.l .u)) (.l .u)))),.sl 41,24⟩),(25,⟨(.po (.w1 (.p (.l (.p .b (.l .u))) (.l (.p (.p .b (.l .u)) (.l .u)))))),.pt 104,8⟩),(29,⟨.i,.int .i64,8⟩),(41,⟨(.l (.p (.p .b (.l .u)) (.l .u))),.sl 46,24⟩),(42,⟨(.l .u),.sl 73,24⟩),(43,⟨(.p .b (.l .u)),.st 2,32⟩),(44,⟨(.p .b (.l .u)),.st 2,32⟩),(45,⟨(.p (.p .b (.l .u)) (.l .u)),.st 2,56⟩),(46,⟨(.p (.p .b (.l .u)) (.l .u)),.st 2,56⟩),(57,⟨(.l (.p (.l (.p .b (.l .u))) .i)),.sl 61,24⟩),(60,⟨(.p (.l (.p .b (.l .u))) .i),.st 2,32⟩),(61,⟨(.p (.l (.p .b (.l .u))) .i),.st 2,32⟩),(73,⟨.u,.int .u64,8⟩),(76,⟨(.l (.l (.l (.p (.p .b (.l .u)) (.l .u))))),.sl 23,24⟩),(78,⟨(.po .i),.pt 29,8⟩),(80,⟨(.w1 (.po (.w1 (.p (.l (.p .b (.l .u))) (.l (.p (.p .b (.l .u)) (.l .u))))))),.st 0,8⟩),(81,⟨(.w1 (.po (.w1 (.p (.l (.p .b (.l .u))) (.l (.p (.p .b (.l .u)) (.l .u))))))),.st 0,8⟩),(100,⟨(.p (.l (.p .b (.l .u))) (.l (.p (.p .b (.l .u)) (.l .u)))),.st 2,48⟩),(101,⟨(.p (.l (.p .b (.l .u))) (.l (.p (.p .b (.l .u)) (.l .u)))),.st 2,48⟩),(103,⟨(.w1 (.p (.l (.p .b (.l .u))) (.l (.p (.p .b (.l .u)) (.l .u))))),.st 0,48⟩),(104,⟨(.w1 (.p (.l (.p .b (.l .u))) (.l (.p (.p .b (.l .u)) (.l .u))))),.st 0,48⟩),(105,⟨(.l (.l (.p .b (.l .u)))),.sl 22,24⟩),(125,⟨(.l .i),.sl 3,24⟩),(127,⟨(.w1 .i),.st 0,8⟩),(128,⟨(.w1 .i),.st 0,8⟩),(150,⟨(.po (.p (.l (.p .b (.l .u))) (.p (.l (.p .b (.l .u))) (.p (.p .b (.l .u)) (.p (.p .b (.l .u)) .b))))),.pt 152,8⟩),(151,⟨(.p (.l (.p .b (.l .u))) (.p (.l (.p .b (.l .u))) (.p (.p .b (.l .u)) (.p (.p .b (.l .u)) .b)))),.st 5,120⟩),(152,⟨(.p (.l (.p .b (.l .u))) (.p (.l (.p .b (.l .u))) (.p (.p .b (.l .u)) (.p (.p .b (.l .u)) .b)))),.st 5,120⟩),(159,⟨(.l .tx),.sl 9,24⟩),(172,⟨(.l (.l .i)),.sl 125,24⟩),(190,⟨(.l .ch),.sl 5,24⟩),(218,⟨.u,.int .u64,8⟩),(221,⟨(.po .ch),.pt 5,8⟩),(272,⟨(.a 4 (.l (.p .b (.l .u)))),.ar 4 22,96⟩),(273,⟨(.a 4 (.l (.p .b (.l .u)))),.ar 4 22,96⟩),(278,⟨.i,.int .i64,8⟩),(300,⟨(.a 3 (.l .i)),.ar 3 125,72⟩),(301,⟨(.a 3 (.l .i)),.ar 3 125,72⟩),(308,⟨.u,.int .u64,8⟩),(312,⟨(.po .i),.pt 3,8⟩),(324,⟨(.p (.l (.p .b (.l .u))) (.l (.l (.p .b (.l .u))))),.st 2,48⟩),(325,⟨(.p (.l (.p .b (.l .u))) (.l (.l (.p .b (.l .u))))),.st 2,48⟩),(328,⟨(.po (.p (.p (.l (.p .b (.l .u))) (.l (.l (.p .b (.l .u))))) (.l (.l (.p .b (.l .u)))))),.pt 330,8⟩),(329,⟨(.p (.p (.l (.p .b (.l .u))) (.l (.l (.p .b (.l .u))))) (.l (.l (.p .b (.l .u))))),.st 2,72⟩),(330,⟨(.p (.p (.l (.p .b (.l .u))) (.l (.l (.p .b (.l .u))))) (.l (.l (.p .b (.l .u))))),.st 2,72⟩),(334,⟨(.p (.p .b (.l .u)) (.p (.p .b (.l .u)) (.p .b (.l .u)))),.st 3,96⟩),(335,⟨(.p (.p .b (.l .u)) (.p (.p .b (.l .u)) (.p .b (.l .u)))),.st 3,96⟩),(337,⟨(.po .u),.pt 308,8⟩),(347,⟨(.po (.w1 .tx)),.pt 362,8⟩),(354,⟨.ch,.int .u8,1⟩),(355,⟨.ch,.int .u8,1⟩),(361,⟨(.w1 .tx),.st 0,16⟩),(362,⟨(.w1 .tx),.st 0,16⟩)]
def ex:N (K×wW):=[(180,wF),(226,I)]
def tA{t:wT}{a:TI}{tt:N (K×TI)}(b:NW Tryz.prog t a)(k:yZ Tryz.prog tt)(h1:tyB Tryz.prog t=Z (a.ty.rep.agg,a.ty.n,a.B,Z<|a.ty.rep.val<|zc a.ty):=by kernel_rfl)(c:(xdh 0 a.B && xdh 0 a.ty.n)=wF:=by kernel_rfl):yZ Tryz.prog ((t,a)::tt):=yZ.add h1 c b k
def TM:yZ Tryz.prog tt:=tA (id (by kernel_rfl:Tryz.prog.underlying 2=Z (.int .i64)))<|
 tA (id (by kernel_rfl:Tryz.prog.underlying 3=Z (.int .i64)))<|
 tA (id (by kernel_rfl:Tryz.prog.underlying 4=Z .bool))<|
 tA (id (by kernel_rfl:Tryz.prog.underlying 5=Z (.int .u8)))<|
 tA (id (by kernel_rfl:Tryz.prog.underlying 6=Z (.int .u8)))<|
 tA ⟨O,g8⟩<|
 tA ⟨O,g8⟩<|
 tA (id (by kernel_rfl:Tryz.prog.underlying 9=Z .string))<|
 tA (id (by kernel_rfl:Tryz.prog.underlying 10=Z .string))<|
 tA (id (by kernel_rfl:Tryz.prog.underlying 11=Z .string))<|
 tA (id (by kernel_rfl:Tryz.prog.underlying 12=Z (.int .u64)))<|
 tA ⟨O,g8⟩<|
 tA ⟨O,g8⟩<|
 tA ⟨g8,_,O⟩<|
 tA ⟨g8,_,O⟩<|
 tA (id (by kernel_rfl:Tryz.prog.underlying 25=Z (.pointer 104)))<|
 tA (id (by kernel_rfl:Tryz.prog.underlying 29=Z (.int .i64)))<|
 tA ⟨g8,_,O⟩<|
 tA ⟨g8,_,O⟩<|
 tA ⟨O,g8⟩<|
 tA ⟨O,g8⟩<|
 tA ⟨O,g8⟩<|
 tA ⟨O,g8⟩<|
 tA ⟨g8,_,O⟩<|
 tA ⟨O,g8⟩<|
 tA ⟨O,g8⟩<|
 tA (id (by kernel_rfl:Tryz.prog.underlying 73=Z (.int .u64)))<|
 tA ⟨g8,_,O⟩<|
 tA (id (by kernel_rfl:Tryz.prog.underlying 78=Z (.pointer 29)))<|
 tA ⟨O,g8⟩<|
 tA ⟨O,g8⟩<|
 tA ⟨O,g8⟩<|
 tA ⟨O,g8⟩<|
 tA ⟨O,g8⟩<|
 tA ⟨O,g8⟩<|
 tA ⟨g8,_,O⟩<|
 tA ⟨g8,_,O⟩<|
 tA ⟨O,g8⟩<|
 tA ⟨O,g8⟩<|
 tA (id (by kernel_rfl:Tryz.prog.underlying 150=Z (.pointer 152)))<|
 tA ⟨O,g8⟩<|
 tA ⟨O,g8⟩<|
 tA ⟨g8,_,O⟩<|
 tA ⟨g8,_,O⟩<|
 tA ⟨g8,_,O⟩<|
 tA (id (by kernel_rfl:Tryz.prog.underlying 218=Z (.int .u64)))<|
 tA (id (by kernel_rfl:Tryz.prog.underlying 221=Z (.pointer 5)))<|
 tA ⟨O,g8⟩<|
 tA ⟨O,g8⟩<|
 tA (id (by kernel_rfl:Tryz.prog.underlying 278=Z (.int .i64)))<|
 tA ⟨O,g8⟩<|
 tA ⟨O,g8⟩<|
 tA (id (by kernel_rfl:Tryz.prog.underlying 308=Z (.int .u64)))<|
 tA (id (by kernel_rfl:Tryz.prog.underlying 312=Z (.pointer 3)))<|
 tA ⟨O,g8⟩<|
 tA ⟨O,g8⟩<|
 tA (id (by kernel_rfl:Tryz.prog.underlying 328=Z (.pointer 330)))<|
 tA ⟨O,g8⟩<|
 tA ⟨O,g8⟩<|
 tA ⟨O,g8⟩<|
 tA ⟨O,g8⟩<|
 tA (id (by kernel_rfl:Tryz.prog.underlying 337=Z (.pointer 308)))<|
 tA (id (by kernel_rfl:Tryz.prog.underlying 347=Z (.pointer 362)))<|
 tA (id (by kernel_rfl:Tryz.prog.underlying 354=Z (.int .u8)))<|
 tA (id (by kernel_rfl:Tryz.prog.underlying 355=Z (.int .u8)))<|
 tA ⟨O,g8⟩<|
 tA ⟨O,g8⟩<|
 yZ.nil
def Tu:ug Tryz.prog tt:=ug.of g8
def RP:lv Tryz.prog ex:=lv.add Tryz.func180 g8 g8 g8 (λ_=>by kernel_rfl) (λh=>by cases h)<|
 lv.add Tryz.func226 g8 g8 g8 (λh=>by cases h) (λ_=>by kernel_rfl)<|
 lv.nil
def Sl:Tryz.prog.follows .mixedOrders=wF:=g8
def sg(an:An){fn:QR}(a:Tryz.prog.funcs[s.f]? =Z fn)(b:∀s∈cs,xt Tryz.prog s)(c:Ep Tryz.prog s.f=wF)(d:∀x,TP ⟨tt,cs,an,fu,ex,[],[],[]⟩ fn s.dom s.cod x=s.M x)(e:s.bk=0:=by rfl):xt Tryz.prog s:=
 sgP Sl TM Tu RP O an a b c e d
def sq(fu:K)(an:An){fn:QR}(a:Tryz.prog.funcs[s.f]? =Z fn)(b:∀s∈cs,xt Tryz.prog s)(c:Ep Tryz.prog s.f=wF:=by kernel_rfl)(d:∀x,TP ⟨tt,cs,an,fu,ex,[],[],[]⟩ fn s.dom s.cod x=s.M x:=by intro x;kernel_rfl)(e:s.bk=0:=by rfl):xt Tryz.prog s:=sg an a b c d e
abbrev q1(S:N (K×TF))(j:K)(T:N (K×TF)):Lp:=⟨⟨S,[]⟩,⟨[],[(.x j,⟨T,[]⟩)]⟩⟩
abbrev z7(s:WZ):Prop:=xt Tryz.prog s
abbrev wy:An:=⟨[],[],[],[],[],[],[]⟩
abbrev yr:Ty:=.l (.p .b (.l .u))
abbrev zt:Ty:=.p .b (.l .u)
abbrev tzQ:Ty:=.l (.l (.p .b (.l .u)))
abbrev yz:Ty:=.l .u
abbrev y5:Ty:=.l .i
def sgb(an:An){fn:QR}(a:Tryz.prog.funcs[s.f]? =Z fn)(b:∀s∈cs,xt Tryz.prog s)(c:Ep Tryz.prog s.f=wF)(d:∀e x,zi9 ⟨tt,cs,an,fu,ex,[],[],[]⟩ fn s.dom s.cod s.bk e x=s.M x):xt Tryz.prog s:=
 sgG Sl TM Tu RP O an a b c d
end
section
set_option maxRecDepth 100000
section
variable(fu:wr)
def qy(fu:K)(a:V ((N M)×(N<|M×(N K)))):V wW:=if(a).isNone=wF then Z wF else Y (a) λb=>if(X b.1:J)=0 then Z wF else Z I
def EH(fu:K):((N K)->V (N K))->(N K)->V (N K):=λL a=>if 0<(X a:J)then Q (((X a:J))-1) λd=>zD d (X a) λe=>B (a.getD e 0) λf=>if(f:J)=(((0:K):K):J)then Q (((X a:J))-1) λg=>jh g λb=>ck (b<=X a)<|B (a.take b) λh=>L h else Z a else Z a
def wx(a:N K):V (N K):=Y (zg (EH fu) fu a) λb=>Z b
def JL(fu:K):((N K)->V (N K))->(N K)->V (N K):=λL a=>if 0<(X a:J)then Q (((X a:J))-1) λd=>zD d (X a) λe=>B ((a.getD e 0)) λf=>if(f:J)=(((0:K):K):J)then Q (((X a:J))-1) λg=>jh g λb=>ck (b<=X a)<|B (a.take b) λh=>L h else Z a else Z a
def xq(a:N K):V (N K):=Y (zg (JL fu) fu a) λb=>Z b
def wc(fu:K)(a:N K):V (N K):=ck (X a<=17592186044416)<|some a
def Yc(a:N K):V (N K):=Y (wx fu a) λb=>Y (wc fu b) λd=>Z d
def xg(b:wW)(d:N K):V M:=Y (Yc fu d) λa=>if b then if 0<(X a:J)then Z (wF,a)else Z (I,a)else Z (I,a)
def vE(a:M):V M:=Y (xg fu a.1 a.2) λb=>Z b
def xv(b:M):V J:=Y (vE fu b) λa=>if a.1=wF then Q ((0:J)-2) λd=>Q (d+1) λe=>Z e else if 0<(X a.2:J)then Q ((0:J)+1) λf=>Z f else Z (0:J)
def Je(d:J)(a:M):V M:=Y (vE fu a) λb=>Z b
def w5(fu:K)(a:N M)(f:J->M->V M):((J×(N M))->V (N M))->(J×(N M))->V (N M):=λL (b,d)=>Y ((if b<(X a:J)then Z ((a,(X a:J),wF))else Z ((a,(X a:J),I)):V ((N M)×J×wW))) λ(e,o,g)=>if g then zD b (X e) λh=>B (e.getD h (I,[])) λi=>Y (f b i) λj=>zD b (X d) λk=>B (d.set k j) λl=>Q (b+1) λm=>L (m,l)else Z d
def zH(a:N M)(d:J->M->V M):V (N M):=jh ((X a:J)) λb=>ck (32*b<=281474976710656)<|B (xac b (I,[])) λe=>Y (zg (w5 fu a d) fu<|((0:J),e)) λf=>Z f
def bC:((N M)->V (N M))->(N M)->V (N M):=λL a=>if 0<(X a:J)then Q (((X a:J))-1) λd=>zD d (X a) λe=>B (a.getD e (I,[])) λf=>Y (xv fu f) λg=>if g=0 then Q (((X a:J))-1) λh=>jh h λb=>ck (b<=X a)<|B (a.take b) λi=>L i else Z a else Z a
def zM(a:N M):V (N M):=Y (zg (bC fu) fu a) λb=>Y (zH fu b<|λc e=>Je fu c e) λd=>Z d
def kV(a:V ((N M)×(N<|M×(N K)))):V (N M):=Y (qy fu a) λb=>if b then Z []else Y (a) λd=>Y (zM fu d.1) λe=>Z e
def WG(fu:K)(a:N K)(b:J):V K:=if b<(X a:J)then zD b (X a) λd=>B (a.getD d 0) λe=>Z e else Z (0:K)
def bO(b:J)(a:K)(f:N K)(g:N K):V (K×K):=Y (WG fu f b) λd=>Y (WG fu g b) λe=>ck (a<=1)<|B ((d+e+a)%18446744073709551616) λh=>B ((d+e+a)/18446744073709551616) λi=>Z (h,i)
def aO(fu:K)(e:J->K->V (K×K))(f:N K):((K×J×(N K))->V (K×(N K)))->(K×J×(N K))->V (K×(N K)):=λL (d,a,b)=>if a<(X f:J)then Y (e a d) λ(g,h)=>zD a (X b) λi=>B (b.set i g) λj=>Q (a+1) λk=>L (h,k,j)else Z (d,b)
def vG(d:J)(e:J->K->V (K×K)):V ((N K)×K):=jh d λa=>ck (8*a<=281474976710656)<|B (xac a 0) λb=>Y (zg (aO fu e b) fu<|((0:K),(0:J),b)) λ(f,g)=>Z (g,f)
def Zj(a:N K)(b:N K):V (N K):=B (max ((X a:J))<|(X b:J)) λf=>Y (vG fu f<|λc i=>bO fu c i a b) λ(d,e)=>ck ((X d+X ([e]))*8<=140737488355328)<|B (d++([e])) λg=>Y (xq fu g) λh=>Z h
def dG(b:J)(a:K)(f:N K)(g:N K):V (K×K):=Y (WG fu f b) λd=>Y (WG fu g b) λe=>ck (a<=1)<|B ((d+18446744073709551616-e-a)%18446744073709551616) λh=>B (if d<e+a then 1 else 0) λi=>Z (h,i)
def QE(a:N K)(b:N K):V ((N K)×J):=B (max ((X a:J))<|(X b:J)) λd=>Y (vG fu d<|λc h=>dG fu c h a b) λ(e,f)=>if(((0:K):K):J)<(f:J)then Z (([],(1:J)))else Y (xq fu e) λg=>Z<|(g,(0:J))
def X7(a:N K)(b:N K):V (N K):=Y (QE fu a b) λ(d,e)=>Z d
def Yp(fu:K)(a:N K)(e:J):V (N K):=jh e λb=>ck (8*b<=281474976710656)<|B (xac b 0) λd=>ck ((X d+X a)*8<=140737488355328)<|B (d++a) λf=>Z f
def qC(fu:K)(a:K)(b:K):V (K×K):=B (a &&& ((4294967295:K))) λl=>B (a/2^(min (((32:K)):J).toNat 64)) λm=>B (b &&& ((4294967295:K))) λo=>B (b/2^(min (((32:K)):J).toNat 64)) λp=>B ((l*o)%18446744073709551616) λr=>B ((m*o)%18446744073709551616) λs=>B (r/2^(min (((32:K)):J).toNat 64)) λt=>B ((s+t)%18446744073709551616) λq=>B (q &&& ((4294967295:K))) λu=>B (q/2^(min (((32:K)):J).toNat 64)) λd=>B ((l*p)%18446744073709551616) λe=>B ((u+e)%18446744073709551616) λf=>B ((m*p)%18446744073709551616) λg=>B ((g+d)%18446744073709551616) λh=>B (f/2^(min (((32:K)):J).toNat 64)) λi=>B ((h+i)%18446744073709551616) λj=>B ((a*b)%18446744073709551616) λk=>Z (j,k)
def dJ(e:J)(a:K)(b:N K)(f:K):V (K×K):=zD e (X b) λg=>B (b.getD g 0) λh=>Y (qC fu h f) λ(i,d)=>ck ((0:K)<=1)<|B ((d+a+((0:K)))%18446744073709551616) λj=>B ((d+a+((0:K)))/18446744073709551616) λk=>B ((i+k)%18446744073709551616) λl=>Z (j,l)
def QG(a:N K)(e:K):V (N K):=Y (vG fu ((X a:J))<|λc g=>dJ fu c g a e) λ(b,d)=>ck ((X b+X ([d]))*8<=140737488355328)<|B (b++([d])) λf=>Z f
def Q9(fu:K)(d:J)(i:N K)(j:N K)(k:J)(e:N K):((K×J×(N K)×(N K))->V (N K))->(K×J×(N K)×(N K))->V (N K):=λL (f,a,b,g)=>Y ((if a<(X e:J)then Z ((i,d,j,k,d,(X e:J),wF))else Z ((i,d,j,k,d,(X e:J),I)):V ((N K)×J×(N K)×J×J×J×wW))) λ(y,l,A,B,C,E,p)=>if p then zD a (X g) λq=>nm ((g.getD q 0)) λm=>Q (l+a) λr=>Q (l+a) λs=>zD s (X b) λt=>nm ((b.getD t 0)) λo=>ck (f<=1)<|nm ((o+m+f)%18446744073709551616) λu=>nm ((o+m+f)/18446744073709551616) λv=>zD r (X b) λw=>nm (b.set w u) λh=>Q (a+1) λx=>L (v,x,h,g)else Z b
def bn(f:N K)(a:N K):((J×(N K))->V (N K))->(J×(N K))->V (N K):=λL (b,g)=>Y ((if b<(X a:J)then Z ((f,a,(X a:J),wF))else Z ((f,a,(X a:J),I)):V ((N K)×(N K)×J×wW))) λ(h,d,j,k)=>if k then zD b (X d) λl=>B (d.getD l 0) λm=>Y (QG fu h m) λi=>Y (zg (Q9 fu b h d j i) fu<|((0:K),(0:J),g,i)) λe=>Q (b+1) λo=>L (o,e)else Z g
def Qa(d:N K)(e:N K):V (N K):=Q (((X d:J))+((X e:J))) λg=>Q (g+1) λh=>jh h λf=>ck (8*f<=281474976710656)<|B (xac f 0) λi=>Y (zg (bn fu d e) fu<|((0:J),i)) λa=>Y (xq fu a) λb=>Z b
def Zb:wr->(xS wr)->(xS wr)->V (xS wr)
 |0,_,_=>wL
 |fu+1,y,A=>Y (wx fu y) λa=>Y (wx fu A) λb=>nm (min ((X a:J))<|(X b:J)) λB=>if B<8 then Y (Qa fu a b) λC=>Z C else nm (max ((X a:J))<|(X b:J)) λE=>ck ((2:J)≠0)<|Q (xct E (2:J)) λd=>nm (min d<|(X a:J)) λG=>jh G λq=>ck (q<=X a)<|nm (a.take q) λH=>Y (wx fu H) λr=>nm (min d<|(X a:J)) λn=>jh n λs=>ck (s<=X a)<|nm (a.drop s) λt=>nm (min d<|(X b:J)) λc=>jh c λu=>ck (u<=X b)<|nm (b.take u) λK=>Y (wx fu K) λv=>nm (min d<|(X b:J)) λM=>jh M λw=>ck (w<=X b)<|nm (b.drop w) λx=>Y (Zb fu r v) λe=>Y (Zb fu t x) λf=>Y (Zj fu r t) λg=>Y (Zj fu v x) λh=>Y (Zb fu g h) λi=>Y (X7 fu i e) λj=>Y (X7 fu j f) λk=>Y (Yp fu k d) λl=>Y (Zj fu e l) λm=>Q ((2:J)*d) λN=>Y (Yp fu f N) λo=>Y (Zj fu m o) λp=>Z p
def ZV(fu:K)(a:J):V wW:=if a=a then Z I else Z wF
def ue(a:J)(b:J):V J:=Y (ZV fu a) λe=>Y (ZV fu b) λd=>if e then if d then Z (0:J)else Z (-1:J)else if d then Z (1:J)else if a<b then Z (-1:J)else if b<a then Z (1:J)else Z (0:J)
def jW(fu:K)(a:K):V wW:=if(a:J)=(a:J)then Z I else Z wF
def qD(a:K)(b:K):V J:=Y (jW fu a) λe=>Y (jW fu b) λd=>if e then if d then Z (0:J)else Z (-1:J)else if d then Z (1:J)else if(a:J)<(b:J)then Z (-1:J)else if(b:J)<(a:J)then Z (1:J)else Z (0:J)
def cJ(b:N K)(d:N K):(J->V (Z4⊕J))->J->V (Z4⊕J):=λL a=>if 0<=a then zD a (X b) λe=>B (b.getD e 0) λf=>zD a (X d) λg=>B (d.getD g 0) λh=>if(f:J)=(h:J)then Q (a-1) λi=>L i else zD a (X b) λj=>B (b.getD j 0) λk=>zD a (X d) λl=>B (d.getD l 0) λm=>Y (qD fu k m) λo=>Z (.inr o)else Z (.inl ())
def XU(d:N K)(e:N K):V J:=Y (wx fu d) λa=>Y (wx fu e) λb=>if(X a:J)=(X b:J)then Q (((X a:J))-1) λf=>Y (zg (cJ fu a b) fu f) λg=>match g with
 |.inl _=>Z (0:J)
 |.inr h=>Z h else Y (ue fu ((X a:J))<|(X b:J)) λi=>Z i
def db(fu:K)(b:J)(a1:K)(a:N K)(d:J):V (K×K):=zD b (X a) λg=>B (a.getD g 0) λh=>ck ((64:J)≠0)<|B (xca d (64:J)) λe=>ck (0<=e)<|B (h*2^(min (e:J).toNat 64)%18446744073709551616) λi=>B (i|||a1) λj=>zD b (X a) λk=>B (a.getD k 0) λl=>B (l/2^(min (((1:K)):J).toNat 64)) λm=>ck ((64:J)≠0)<|B (xca d (64:J)) λo=>Q ((63:J)-o) λf=>ck (0<=f)<|B (m/2^(min (f:J).toNat 64)) λp=>Z (j,p)
def X8(b:N K)(a:J):V ((N K)×J):=if a<0 then Z (([],(1:J)))else if 262144<a then Z (([],(1:J)))else Y (vG fu ((X b:J))<|λc j=>db fu c j b a) λ(d,e)=>ck ((X d+X ([e]))*8<=140737488355328)<|B (d++([e])) λf=>ck ((64:J)≠0)<|Q (xct a (64:J)) λg=>Y (Yp fu f g) λh=>Y (xq fu h) λi=>Z<|(i,(0:J))
def dN(d:J)(m:K)(a:N K)(b:J):V (K×K):=zD d (X a) λf=>B (a.getD f 0) λg=>ck (0<=b)<|B (g/2^(min (b:J).toNat 64)) λh=>Q (d+1) λi=>Y (WG fu a i) λj=>B (j*2^(min (((1:K)):J).toNat 64)%18446744073709551616) λk=>Q ((63:J)-b) λe=>ck (0<=e)<|B (k*2^(min (e:J).toNat 64)%18446744073709551616) λm4=>B (h|||m4) λl=>Z<|(l,(0:K))
def KU(a:N K)(f:J):V (N K):=B (max f (0:J)) λb=>ck ((64:J)≠0)<|Q (xct b (64:J)) λg=>if(X a:J)<=g then Z []else ck ((64:J)≠0)<|Q (xct b (64:J)) λh=>jh h λd=>ck (d<=X a)<|B (a.drop d) λe=>ck ((64:J)≠0)<|B (xca b (64:J)) λi=>Y (vG fu ((X e:J))<|λc m=>dN fu c m e i) λ(j,l)=>Y (xq fu j) λk=>Z k
def xO(fu:K)(a:K):V J:=Y ((if 4294967296<=(a:J)then B (a/2^(min (32:J).toNat 64)) λg=>Z (g,32)else Z (a,0):V (K×J))) λ(b,e)=>Y ((if 65536<=(b:J)then B (b/2^(min (16:J).toNat 64)) λh=>Q (e+16) λi=>Z (h,i)else Z (b,e):V (K×J))) λ(d,f)=>if 256<=(d:J)then B (d/2^(min (8:J).toNat 64)) λj=>Q (f+8) λk=>B (j%256) λl=>B (xeZ l) λm=>Q (k+((m:J))) λo=>Z o else B (d%256) λp=>B (xeZ p) λq=>Q (f+((q:J))) λr=>Z r
def xE(a:K):V J:=Y (xO fu a) λb=>Q ((64:J)-b) λd=>Z d
def jg(fu:K)(l:K)(m:K)(g:K):((K×K)->V K)->(K×K)->V K:=λL (a,h)=>if(((4294967296:K):K):J)<=(a:J)then B ((a+18446744073709551616-((1:K)))%18446744073709551616) λb=>B ((h+l)%18446744073709551616) λd=>if(((4294967296:K):K):J)<=(d:J)then Z b else L (b,d)else B ((a*m)%18446744073709551616) λi=>B ((((4294967296:K))*h)%18446744073709551616) λj=>B ((j+g)%18446744073709551616) λk=>if(k:J)<(i:J)then B ((a+18446744073709551616-((1:K)))%18446744073709551616) λe=>B ((h+l)%18446744073709551616) λf=>if(((4294967296:K):K):J)<=(f:J)then Z e else L (e,f)else Z a
def ja(fu:K)(k:K)(l:K)(f:K):((K×K)->V K)->(K×K)->V K:=λL (g,a)=>if(((4294967296:K):K):J)<=(a:J)then B ((a+18446744073709551616-((1:K)))%18446744073709551616) λb=>B ((g+k)%18446744073709551616) λm32=>if(((4294967296:K):K):J)<=(m32:J)then Z b else L (m32,b)else B ((a*l)%18446744073709551616) λh=>B ((((4294967296:K))*g)%18446744073709551616) λi=>B ((i+f)%18446744073709551616) λj=>if(j:J)<(h:J)then B ((a+18446744073709551616-((1:K)))%18446744073709551616) λd=>B ((g+k)%18446744073709551616) λe=>if(((4294967296:K):K):J)<=(e:J)then Z d else L (e,d)else Z a
def qA(o:wr)(l:wr)(a:wr):V (wr×wr):=if(a:J)=(((0:wr):wr):J)then wL else if(a:J)<=(o:J)then wL else if(o:J)=(((0:wr):wr):J)then ck (a≠0)<|nm (l/a) λc=>ck (a≠0)<|nm (l%a) λK=>Z (c,K)else Y (xE fu a) λM=>nm (DE M) λf=>nm (a*2^(min (f:J).toNat 64)%18446744073709551616) λm=>nm (m/2^(min (((32:wr)):J).toNat 64)) λb=>nm (m &&& ((4294967295:wr))) λG=>nm (o*2^(min (f:J).toNat 64)%18446744073709551616) λN=>nm ((((64:wr))+18446744073709551616-f)%18446744073709551616) λn=>nm (l/2^(min (n:J).toNat 64)) λm9=>nm (N|||m9) λd=>nm (l*2^(min (f:J).toNat 64)%18446744073709551616) λg=>nm (g/2^(min (((32:wr)):J).toNat 64)) λh=>nm (g &&& ((4294967295:wr))) λi=>ck (b≠0)<|nm (d/b) λj=>nm ((j*b)%18446744073709551616) λp=>nm ((d+18446744073709551616-p)%18446744073709551616) λq=>Y (zg (jg fu b G h) fu (j,q)) λH=>nm ((d*((4294967296:wr)))%18446744073709551616) λr=>nm ((r+h)%18446744073709551616) λs=>nm ((H*m)%18446744073709551616) λt=>nm ((s+18446744073709551616-t)%18446744073709551616) λe=>ck (b≠0)<|nm (e/b) λk=>nm ((k*b)%18446744073709551616) λu=>nm ((e+18446744073709551616-u)%18446744073709551616) λv=>Y (zg (ja fu b G i) fu (v,k)) λz=>nm ((H*((4294967296:wr)))%18446744073709551616) λw=>nm ((w+z)%18446744073709551616) λx=>nm ((e*((4294967296:wr)))%18446744073709551616) λy=>nm ((y+i)%18446744073709551616) λA=>nm ((z*m)%18446744073709551616) λB=>nm ((A+18446744073709551616-B)%18446744073709551616) λC=>nm (C/2^(min (f:J).toNat 64)) λE=>Z (x,E)
def Ko(i:K)(d:K)(j:K):((K×K)->V K)->(K×K)->V K:=λL (b,a)=>Y (qC fu b j) λ(f,k)=>if(f:J)<(a:J)then Z b else if(f:J)=(a:J)then if(k:J)<=(i:J)then Z b else B ((b+18446744073709551616-((1:K)))%18446744073709551616) λg=>ck ((0:K)<=1)<|B ((a+d+((0:K)))%18446744073709551616) λl=>B ((a+d+((0:K)))/18446744073709551616) λm=>if(((0:K):K):J)<(m:J)then Z g else L (g,l)else B ((b+18446744073709551616-((1:K)))%18446744073709551616) λh=>ck ((0:K)<=1)<|B ((a+d+((0:K)))%18446744073709551616) λo=>B ((a+d+((0:K)))/18446744073709551616) λe=>if(((0:K):K):J)<(e:J)then Z h else L (h,o)
def JJ(b:K)(d:K)(e:K)(a:K)(f:K):V K:=if(a:J)<=(b:J)then Z (18446744073709551615:K)else Y (qA fu b d a) λ(g,h)=>Y (zg (Ko fu e a f) fu (g,h)) λi=>Z i
def Kh(d:N K)(f:K):((K×J×(N K))->V (K×(N K)))->(K×J×(N K))->V (K×(N K)):=λL (e,a,b)=>if 0<=a then zD a (X d) λg=>B (d.getD g 0) λh=>Y (qA fu e h f) λ(i,j)=>zD a (X b) λk=>B (b.set k i) λl=>Q (a-1) λm=>L (j,m,l)else Z (e,b)
def Vc(a:N K)(d:K):V ((N K)×K):=jh ((X a:J)) λb=>ck (8*b<=281474976710656)<|B (xac b 0) λe=>Q (((X a:J))-1) λf=>Y (zg (Kh fu a d) fu<|((0:K),f,e)) λ(g,h)=>Y (xq fu h) λi=>Z (i,g)
def bF(b:N K):((J×J×K×(N K))->V (J×J×K×(N K)))->(J×J×K×(N K))->V (J×J×K×(N K)):=λL (g,h,d,a)=>Y (QG fu b d) λe=>Y (XU fu e a) λf=>if 0<f then B ((d+18446744073709551616-((1:K)))%18446744073709551616) λi=>L (g,h,i,a)else Z (g,h,d,a)
def W4(D:J)(e:xS wr):(((xS wr)×J×(xS wr)×(xS wr))->ww ((xS wr)×(xS wr)))->((xS wr)×J×(xS wr)×(xS wr))->ww ((xS wr)×(xS wr)):=λL (b,d,a,f)=>if 0<=d then ze (d+((i0 e:J))) λp=>zD p (i0 a) λP=>nm ((a.getD P 0)) λQ=>ze (d+((i0 e:J))) λq=>ze (q-1) λr=>zD r (i0 a) λR=>nm ((a.getD R 0)) λS=>ze (d+((i0 e:J))) λs=>ze (s-2) λt=>zD t (i0 a) λU=>nm ((a.getD U 0)) λV=>ze (((i0 e:J))-1) λu=>zD u (i0 b) λW=>nm (b.getD W 0) λX=>ze (((i0 e:J))-2) λv=>zD v (i0 b) λY=>nm (b.getD Y 0) λc=>bd (JJ fu Q S V X c) λz=>ze (d+((i0 e:J))) λw=>ze (w+1) λx=>jh d λg=>jh x λh=>ck (g<=h/\h<=i0 a)<|nm (xdB (h-g)<|xdM g a) λj=>ck ((i0 (([]:xS wr))+i0 j)*8<=140737488355328)<|nm ((([]:xS wr))++j) λy=>bd (zg (bF fu b) fu<|(D,(i0 e:J),z,y)) λ(i4,M,N,A)=>zD d (i0 f) λB=>nm (f.set B N) λC=>jh d λi=>ck (i<=i0 a)<|bd (QG fu b N) λE=>bd (X7 fu A E) λk=>ze (M+1) λG=>jh G λl=>ck ((i0 k+l)*8<=140737488355328)<|nm (k++xac l 0) λm=>ze (M+1) λH=>jh H λo=>ck (o<=i0 m)<|nm (m.take o) λF=>nm (gW i (i0 a-i) a F) λn=>ze (d-1) λK=>L (b,K,n,C)else Z (a,f)
def Ug(p:N wr)(q:N wr):V ((N wr)×(N wr)×J):=Y (wx fu p) λb=>Y (wx fu q) λa=>Y ((if(X a:J)=0 then Z wF else Z I:V wW)) λr=>if r then Z (([],[],(3:J)))else Y ((Y (XU fu b a) λs=>if s<0 then Z wF else Z I:V wW)) λt=>if t then Y (Yc fu b) λu=>Z (([],u,(0:J)))else if(X a:J)=1 then zD 0 (X a) λv=>nm (a.getD v 0) λw=>Y (Vc fu b w) λ(x,y)=>Y (xq fu [y]) λA=>Z ((x,A,(0:J)))else Q (((X a:J))-1) λB=>zD B (X a) λC=>nm (a.getD C 0) λE=>Y (xE fu E) λd=>Y (X8 fu a d) λ(e,K)=>Y (X8 fu b d) λ(f,M)=>Q (((X b:J))+1) λG=>Q (G-((X f:J))) λH=>jh H λk=>ck ((X f+k)*8<=140737488355328)<|nm (f++xac k 0) λl=>Q (((X l:J))-((X e:J))) λc=>jh c λm=>ck (8*m<=281474976710656)<|nm (xac m 0) λo=>Q (((X o:J))-1) λn=>Y (zg (W4 fu d e) fu (e,n,l,o)) λ(g,h)=>Y (xq fu h) λi=>Y (KU fu g d) λj=>Z<|(i,j,(0:J))
def X4(b:M)(d:M):V (M×M×J):=Y (Ug fu b.2 d.2) λ(e,a,f)=>if f=0 then Y ((if b.1=wF then if 0<(X a:J)then Y (Zj fu e [(1:K)]) λg=>Y (QE fu d.2 a) λ(h,o)=>Z (g,h)else Z (e,a)else Z (e,a):V ((N K)×(N K)))) λ(i,j)=>B (!(b.1==d.1)) λk=>Y (xg fu k i) λl=>Y (xg fu I j) λm=>Z ((l,m,(0:J)))else Z (((I,[]),(I,[]),f))
def xY(b:M)(d:M):V (M×J):=Y (X4 fu b d) λ(e,f,a)=>Y ((if a=0 then Z I else Z wF:V wW)) λg=>if g then Z (((I,[]),a))else Y (xv fu f) λh=>if h=0 then Z ((e,(0:J)))else Z (((I,[]),(4:J)))
def oe:(((N K)×(N K))->V (N K))->((N K)×(N K))->V (N K):=λL (b,a)=>if 0<(X a:J)then Y (Ug fu b a) λ(e,d,f)=>L (a,d)else Z b
def XP(a:M)(b:M):V M:=Y (Yc fu a.2) λd=>Y (Yc fu b.2) λe=>Y (zg (oe fu) fu (d,e)) λf=>Y (xg fu I f) λg=>Z g
def jR(a:M):V M:=Y (xg fu (!a.1) a.2) λb=>Z b
def Z6(d:M)(a:M):V ((M×(N K))×J):=Y (xv fu a) λg=>if g=0 then Z ((((I,[]),[]),(3:J)))else Y (XP fu d a) λe=>Y (xY fu d e) λ(f,i)=>Y (xY fu a e) λ(b,j)=>if b.1=wF then Y (jR fu f) λh=>Z (((h,b.2),(0:J)))else Z (((f,b.2),(0:J)))
def zS(a:J):V M:=if a<0 then B (DE a) λb=>B ((18446744073709551616-b)%18446744073709551616) λd=>Y (xg fu wF [d]) λe=>Z e else B (DE a) λf=>Y (xg fu I [f]) λg=>Z g
def Xh(a:J):V (M×(N K)):=Y (zS fu a) λb=>Z<|(b,[(1:K)])
def QD(a:M×(N K)):V M:=Y (vE fu (I,a.2)) λb=>Z b
def wV(a:M×(N K)):V (M×(N K)):=Y (QD fu a) λb=>Y (Z6 fu a.1 b) λ(d,e)=>if e=0 then Z d else Y (Xh fu (0:J)) λf=>Z f
def zF(a:M)(b:M):V M:=B (!(a.1==b.1)) λd=>Y (Zb fu a.2 b.2) λe=>Y (xg fu d e) λf=>Z f
def Uk(d:M×(N K))(e:M×(N K)):V (M×(N K)):=Y (wV fu d) λa=>Y (wV fu e) λb=>Y (zF fu a.1 b.1) λf=>Y (Zb fu a.2 b.2) λg=>Y (wV fu (f,g)) λh=>Z h
def lN(a:M×(N K)):V J:=Y (wV fu a) λb=>Y (xv fu b.1) λd=>Z d
def gu(d:M×(N K))(e:M×(N K))(f:M->M->V M):V (M×(N K)):=Y (wV fu d) λa=>Y (wV fu e) λb=>Y (QD fu b) λg=>Y (zF fu a.1 g) λh=>Y (QD fu a) λi=>Y (zF fu b.1 i) λj=>Y (f h j) λk=>Y (Zb fu a.2 b.2) λl=>Y (wV fu (k,l)) λm=>Z m
def vt(a:M)(b:M):V M:=B (a.1==b.1) λe=>if e then Y (Zj fu a.2 b.2) λf=>Y (xg fu a.1 f) λg=>Z g else Y ((Y (XU fu a.2 b.2) λh=>if h<0 then Z (b,a)else Z (a,b):V (M×M))) λ(d,i)=>Y (QE fu d.2 i.2) λ(j,l)=>Y (xg fu d.1 j) λk=>Z k
def vT(a:M)(b:M):V M:=Y (jR fu b) λd=>Y (vt fu a d) λe=>Z e
def dm(a:M)(b:M)(d:wW):V M:=if d then Y (vT fu a b) λe=>Z e else Y (vt fu a b) λf=>Z f
def aE(a:M×(N K))(b:M×(N K))(d:wW):V (M×(N K)):=Y (gu fu a b<|λc f=>dm fu c f d) λe=>Z e
def sM(a:M×(N K))(b:M×(N K)):V (M×(N K)):=Y (aE fu a b wF) λd=>Z d
def lV(e:(N M)×(N<|M×(N K)))(a:N (M×(N K))):((J×(N<|M×(N K)))->V (N<|M×(N K)))->(J×(N<|M×(N K)))->V (N<|M×(N K)):=λL (b,d)=>Y ((if b<(X a:J)then Z ((e,a,(X a:J),wF))else Z ((e,a,(X a:J),I)):V (((N M)×(N<|M×(N K)))×(N<|M×(N K))×J×wW))) λ(o,f,p,g)=>if g then zD b (X f) λh=>B (f.getD h<|((I,[]),[])) λi=>Y (wV fu i) λj=>zD b (X d) λk=>B (d.set k j) λl=>Q (b+1) λm=>L (m,l)else Z d
def lj(h:J)(i:(N M)×(N<|M×(N K)))(a:J):((J×(N<|M×(N K))×(M×(N K)))->V (N<|M×(N K)))->(J×(N<|M×(N K))×(M×(N K)))->V (N<|M×(N K)):=λL (b,d,e)=>Y ((if b<a then Z (i,a,h,a,wF)else Z (i,a,h,a,I):V (((N M)×(N<|M×(N K)))×J×J×J×wW))) λ(f,j,k,A,l)=>if l then Q (k-j) λm=>Q (m+b) λo=>Q (k-j) λp=>Q (p+b) λq=>zD q (X d) λr=>B ((d.getD r<|((I,[]),[]))) λs=>zD b (X f.2) λt=>B (f.2.getD t<|((I,[]),[])) λu=>Y (Uk fu e u) λv=>Y (sM fu s v) λw=>zD o (X d) λx=>B (d.set x w) λg=>Q (b+1) λy=>L (y,g,e)else Z d
def iW(m:(N M)×(N<|M×(N K)))(f:J):(((N<|M×(N K))×J)->V ((N<|M×(N K))⊕(N<|M×(N K))))->((N<|M×(N K))×J)->V ((N<|M×(N K))⊕(N<|M×(N K))):=λL (b,a)=>if 0<=a then zD a (X b) λr=>B ((b.getD r<|((I,[]),[]))) λo=>Y ((if f<=a then Z (m,f,wF)else Z (m,f,I):V (((N M)×(N<|M×(N K)))×J×wW))) λ(s,t,u)=>if u then Y (zg (lj fu a s t) fu<|((0:J),b,o)) λd=>jh a λp=>ck (p<=X d)<|B (d.take p) λg=>Q (a-1) λv=>L (g,v)else Y (lN fu o) λh=>if h=0 then jh a λq=>ck (q<=X b)<|B (b.take q) λi=>Q (a-1) λj=>L (i,j)else Q (a+1) λk=>jh k λe=>ck (e<=X b)<|B (b.take e) λl=>Z (.inr l)else Z (.inl b)
def w9(a:(N M)×(N<|M×(N K)))(e:N (M×(N K))):V (N<|M×(N K)):=jh ((X e:J)) λf=>ck (56*f<=281474976710656)<|B (xac f<|((I,[]),[])) λh=>Y (zg (lV fu a e) fu<|((0:J),h)) λg=>Q (((X a.2:J))-1) λi=>Q (((X g:J))-1) λj=>Y (zg (iW fu a i) fu (g,j)) λk=>match k with
 |.inl b=>Z b
 |.inr d=>Z d
def rM(a:M×(N K))(b:M×(N K)):V (M×(N K)):=Y (aE fu a b I) λd=>Z d
def aD(e:J)(g:N (M×(N K)))(i:(N M)×(N<|M×(N K)))(j:N (M×(N K)))(k:J):((J×(N<|M×(N K))×(N<|M×(N K))×(M×(N K)))->V ((N<|M×(N K))×(N<|M×(N K))))->(J×(N<|M×(N K))×(N<|M×(N K))×(M×(N K)))->V ((N<|M×(N K))×(N<|M×(N K))):=λL (a,f,b,d)=>Y ((if a<(X g:J)then Z ((i,e,j,k,e,(X g:J),wF))else Z ((i,e,j,k,e,(X g:J),I)):V (((N M)×(N<|M×(N K)))×J×(N<|M×(N K))×J×J×J×wW))) λ(m,l,o,B,C,E,p)=>if p then zD a (X f) λq=>nm ((f.getD q<|((I,[]),[]))) λr=>Q (l+a) λs=>Q (l+a) λt=>zD t (X b) λu=>nm ((b.getD u<|((I,[]),[]))) λv=>Y (Uk fu d r) λw=>Y (rM fu v w) λx=>zD s (X b) λy=>nm (b.set y x) λh=>Q (a+1) λA=>L (A,f,h,d)else Z (f,b)
def UW(g:(N M)×(N<|M×(N K)))(a:N (M×(N K))):((J×(N<|M×(N K))×(N<|M×(N K)))->V (N<|M×(N K)))->(J×(N<|M×(N K))×(N<|M×(N K)))->V (N<|M×(N K)):=λL (b,h,i)=>Y ((if b<(X a:J)then Z ((g,a,(X a:J),wF))else Z ((g,a,(X a:J),I)):V (((N M)×(N<|M×(N K)))×(N<|M×(N K))×J×wW))) λ(j,d,k,l)=>if l then zD b (X d) λm=>B (d.getD m<|((I,[]),[])) λo=>Y (zg (aD fu b h j d k) fu<|((0:J),h,i,o)) λ(e,f)=>Q (b+1) λp=>L (p,e,f)else Z i
def uW(a:(N M)×(N<|M×(N K)))(h:N (M×(N K)))(i:N (M×(N K))):V (N<|M×(N K)):=Y (w9 fu a h) λe=>Y (w9 fu a i) λf=>Q (((X e:J))+((X f:J))) λj=>jh j λg=>ck (56*g<=281474976710656)<|B (xac g<|((I,[]),[])) λk=>Y (zg (UW fu a e) fu<|((0:J),f,k)) λb=>Y (w9 fu a b) λd=>Z d
def lA(e:(N M)×(N<|M×(N K)))(a:N (M×(N K)))(f:J):((J×(N<|M×(N K)))->V (N<|M×(N K)))->(J×(N<|M×(N K)))->V (N<|M×(N K)):=λL (b,d)=>Y ((if b<(X a:J)then Z ((f,e,a,(X a:J),wF))else Z ((f,e,a,(X a:J),I)):V (J×((N M)×(N<|M×(N K)))×(N<|M×(N K))×J×wW))) λ(h,u,g,v,i)=>if i then zD b (X g) λj=>B (g.getD j<|((I,[]),[])) λk=>zD b (X d) λl=>B ((d.getD l<|((I,[]),[]))) λm=>Y (Xh fu h) λo=>Y (Uk fu k o) λp=>Y (rM fu m p) λq=>zD b (X d) λr=>B (d.set r q) λs=>Q (b+1) λt=>L (t,s)else Z d
def K7(a:(N M)×(N<|M×(N K)))(b:N (M×(N K)))(d:N (M×(N K)))(f:J):V (N<|M×(N K)):=B (max ((X b:J))<|(X d:J)) λg=>jh g λe=>ck (56*e<=281474976710656)<|B (xac e<|((I,[]),[])) λh=>B (cpy h b) λi=>Y (zg (lA fu a d f) fu<|((0:J),i)) λj=>Y (w9 fu a j) λk=>Z k
def Cx:((N<|M×(N K))->V (N<|M×(N K)))->(N<|M×(N K))->V (N<|M×(N K)):=λL a=>if 0<(X a:J)then Q (((X a:J))-1) λd=>zD d (X a) λe=>B (a.getD e<|((I,[]),[])) λf=>Y (lN fu f) λg=>if g=0 then Q (((X a:J))-1) λh=>jh h λb=>ck (b<=X a)<|B (a.take b) λi=>L i else Z a else Z a
def UJ(a:N (M×(N K))):V (N<|M×(N K)):=Y (zg (Cx fu) fu a) λb=>Z b
def p9(d:M×(N K))(e:M×(N K)):V ((M×(N K))×J):=Y (wV fu d) λa=>Y (wV fu e) λb=>Y (QD fu b) λf=>Y (zF fu a.1 f) λg=>Y (QD fu a) λh=>Y (zF fu b.1 h) λi=>Y (Z6 fu g i) λ(j,k)=>Z (j,k)
def lK(a:N (M×(N K)))(j:J):(((N<|M×(N K))×J×(N<|M×(N K))×(N<|M×(N K)))->V ((N<|M×(N K))×(N<|M×(N K))×(N<|M×(N K))))->((N<|M×(N K))×J×(N<|M×(N K))×(N<|M×(N K)))->V ((N<|M×(N K))×(N<|M×(N K))×(N<|M×(N K))):=λL (k,b,e,d)=>Y ((if b<(X a:J)then Z ((j,a,(X a:J),wF))else Z ((j,a,(X a:J),I)):V (J×(N<|M×(N K))×J×wW))) λ(f,l,y,m)=>if m then zD b (X l) λo=>B (l.getD o<|((I,[]),[])) λp=>Q (f+b) λq=>Q (f+b) λg=>zD g (X d) λr=>B ((d.getD r<|((I,[]),[]))) λs=>zD f (X e) λt=>B ((e.getD t<|((I,[]),[]))) λu=>Y (Uk fu u p) λv=>Y (sM fu s v) λw=>zD q (X d) λx=>B (d.set x w) λh=>Q (b+1) λi=>L (k,i,e,h)else Z (k,e,d)
def iF(a:N (M×(N K))):((J×(N<|M×(N K))×(N<|M×(N K)))->V ((N<|M×(N K))×(N<|M×(N K))))->(J×(N<|M×(N K))×(N<|M×(N K)))->V ((N<|M×(N K))×(N<|M×(N K))):=λL (b,e,d)=>if 0<=b then Q (b+((X a:J))) λi=>Q (i-1) λj=>zD j (X d) λk=>B ((d.getD k<|((I,[]),[]))) λl=>Q (((X a:J))-1) λm=>zD m (X a) λo=>B (a.getD o<|((I,[]),[])) λp=>Y (p9 fu l p) λ(q,u)=>zD b (X e) λr=>B (e.set r q) λs=>Y (zg (lK fu a b) fu<|(a,(0:J),s,d)) λ(t,f,g)=>Q (b-1) λh=>L (h,f,g)else Z (e,d)
def K1(a:N (M×(N K)))(g:N (M×(N K))):V ((N<|M×(N K))×(N<|M×(N K))):=Q (((X a:J))-((X g:J))) λj=>Q (j+1) λk=>B (max k (0:J)) λl=>jh l λh=>ck (56*h<=281474976710656)<|B (xac h<|((I,[]),[])) λi=>ck ((X (([]:N (M×(N K))))+X a)*56<=140737488355328)<|B ((([]:N (M×(N K))))++a) λm=>Q (((X i:J))-1) λo=>Y (zg (iF fu g) fu (o,i,m)) λ(b,d)=>Y (UJ fu b) λe=>Y (UJ fu d) λf=>Z (e,f)
def gb(d:V ((N M)×(N<|M×(N K)))):(((N<|M×(N K))×(N<|M×(N K))×(N<|M×(N K))×(N<|M×(N K)))->V ((N<|M×(N K))×(N<|M×(N K))))->((N<|M×(N K))×(N<|M×(N K))×(N<|M×(N K))×(N<|M×(N K)))->V ((N<|M×(N K))×(N<|M×(N K))):=λL (e,a,f,b)=>if 1<(X a:J)then Y (K1 fu e a) λ(g,h)=>Y (d) λi=>Y (d) λj=>Y (uW fu j g b) λk=>Y (K7 fu i f k (-1:J)) λl=>L (a,h,b,l)else Z (a,b)
def JB(a:V ((N M)×(N<|M×(N K))))(g:N (M×(N K))):V ((N<|M×(N K))×J):=Y (qy fu a) λh=>if h then Z (([],(1:J)))else Y (a) λi=>Y (a) λj=>Y (w9 fu j g) λf=>if(X f:J)=0 then Z (([],(3:J)))else Y (Xh fu (1:J)) λk=>Y (zg (gb fu a) fu (i.2,f,[],[k])) λ(b,d)=>Y (Xh fu (1:J)) λl=>zD 0 (X b) λm=>B (b.getD m<|((I,[]),[])) λo=>Y (p9 fu l o) λ(p,r)=>Y (a) λq=>Y (uW fu q d [p]) λe=>Z<|(e,(0:J))
def tT(d:M)(e:J):((J×M)->V M)->(J×M)->V M:=λL (a,b)=>if a<e then Y (zF fu b d) λf=>Q (a+1) λg=>L (g,f)else Z b
def Kv(a:M)(b:J):V M:=Y (zS fu (1:J)) λd=>Y (zg (tT fu a b) fu<|((0:J),d)) λe=>Z e
def dS(d:M)(e:J):((J×M)->V M)->(J×M)->V M:=λL (a,b)=>if a<e then Y (zF fu b d) λf=>Q (a+1) λg=>L (g,f)else Z b
def wC(a:M)(b:J):V M:=Y (zS fu (1:J)) λd=>Y (zg (dS fu a b) fu<|((0:J),d)) λe=>Z e
def VE(e:J)(a:M)(b:M):V M:=Y (zF fu a b) λd=>Z d
def vI(a:N M)(b:M):V (N M):=Y (zH fu a<|λc f=>VE fu c f b) λd=>Y (zM fu d) λe=>Z e
def kM(b:J)(d:M)(a:N M):V M:=if b<(X a:J)then zD b (X a) λe=>B (a.getD e (I,[])) λf=>Y (vt fu d f) λg=>Z g else Z d
def vJ(a:N M)(b:N M):V (N M):=if(X a:J)<(X b:J)then Y (zH fu b<|λc h=>kM fu c h a) λd=>Y (zM fu d) λe=>Z e else Y (zH fu a<|λc h=>kM fu c h b) λf=>Y (zM fu f) λg=>Z g
def jK(a:N M)(b:N M):V (N M):=Y (zS fu (-1:J)) λd=>Y (vI fu b d) λe=>Y (vJ fu a e) λf=>Z f
def Vt(m:M):(((N M)×(N M)×J×(N M))->V ((N M)×(N M)))->((N M)×(N M)×J×(N M))->V ((N M)×(N M)):=λL (d,b,a,f)=>if 0<=a then Q (a+((X d:J))) λo=>if(X b:J)<o then Q (a-1) λp=>L (d,b,p,f)else Q (a+((X d:J))) λq=>Q (q-1) λr=>zD r (X b) λs=>B ((b.getD s (I,[]))) λt=>Y (xY fu t m) λ(u,v)=>zD a (X f) λw=>B (f.set w u) λg=>jh a λk=>ck (32*k<=281474976710656)<|B (xac k (I,[])) λl=>zD a (X g) λx=>B ((g.getD x (I,[]))) λy=>Y (vI fu d y) λe=>ck ((X l+X e)*32<=140737488355328)<|B (l++e) λh=>Y (jK fu b h) λi=>Q (a-1) λj=>L (d,i,j,g)else Z (b,f)
def kI(j:N M)(k:N M):V ((N M)×(N M)×J):=Y (zM fu j) λg=>Y (zM fu k) λa=>if(X a:J)=0 then Z (([],[],(3:J)))else Q (((X g:J))-((X a:J))) λl=>Q (l+1) λm=>B (max m (0:J)) λb=>Q (((X a:J))-1) λo=>zD o (X a) λp=>B ((a.getD p (I,[]))) λh=>Y (wC fu h b) λq=>Y (vI fu g q) λr=>jh b λi=>ck (32*i<=281474976710656)<|B (xac i (I,[])) λs=>Q (b-1) λt=>Y (zg (Vt fu h) fu (a,r,t,s)) λ(d,e)=>Y (zM fu e) λf=>Z<|(f,d,(0:J))
def xu(fu:K)(a:N M):V J:=Q (((X a:J))-1) λb=>Z b
def Kp(k:J)(g:N M):((J×(N M)×(N M)×(N M)×M)->V ((N M)×(N M)×(N M)))->(J×(N M)×(N M)×(N M)×M)->V ((N M)×(N M)×(N M)):=λL (a,f,b,d,e)=>Y ((if a<(X g:J)then Z ((k,(X g:J),wF))else Z ((k,(X g:J),I)):V (J×J×wW))) λ(l,w,m)=>if m then zD a (X f) λo=>B ((f.getD o (I,[]))) λp=>Q (l+a) λq=>Q (l+a) λh=>zD h (X b) λr=>B ((b.getD r (I,[]))) λs=>Y (zF fu e p) λt=>Y (vT fu s t) λu=>zD q (X b) λv=>B (b.set v u) λi=>Q (a+1) λj=>L (j,f,i,d,e)else Z (f,b,d)
def Ky:((J×(N M)×(N M)×(N M))->V (((N M)×(N M))⊕J))->(J×(N M)×(N M)×(N M))->V (((N M)×(N M))⊕J):=λL (b,a,d,e)=>if 0<=b then Q (b+((X a:J))) λl=>Q (l-1) λm=>zD m (X d) λo=>B ((d.getD o (I,[]))) λp=>Q (((X a:J))-1) λq=>zD q (X a) λr=>B ((a.getD r (I,[]))) λs=>Y (xY fu p s) λ(j,k)=>if k=0 then zD b (X e) λt=>B (e.set t j) λu=>Y (zg (Kp fu b a) fu<|((0:J),a,d,u,j)) λ(f,g,h)=>Q (b-1) λi=>L (i,f,g,h)else Z (.inr k)else Z (.inl (d,e))
def xR(j:N M)(k:N M):V ((N M)×J):=Y (zM fu j) λa=>Y (zM fu k) λb=>if(X b:J)=0 then Z (([],(3:J)))else Y ((if 0<(X a:J)then if(X a:J)<(X b:J)then Z (.inr ())else Z (.inl ())else Z (.inl ()):V (Z4⊕Z4))) λl=>match l with
 |.inl _=>(Q (((X a:J))-((X b:J))) λm=>Q (m+1) λo=>B (max o (0:J)) λp=>jh p λh=>ck (32*h<=281474976710656)<|B (xac h (I,[])) λi=>Q (((X i:J))-1) λq=>Y (zg (Ky fu) fu (q,b,a,i)) λr=>match r with
 |.inl (d,e)=>Y (zM fu d) λf=>if 0<(X f:J)then Z (([],(4:J)))else Y (zM fu e) λg=>Z<|(g,(0:J))
 |.inr s=>Z ([],s))
 |.inr _=>Z<|([],(4:J))
def o6(a:N M)(b:M):V (N M):=Y (xR fu a [b]) λ(d,e)=>Z d
def Yj(a:(xS Zr)×((xS Zr)×(Zr×(Zr×wW)))):V ((xS Zr)×((xS Zr)×(Zr×(Zr×wW)))):=Y (xu fu a.1) λj=>Y (xu fu a.2.1) λk=>Q (j-k) λf=>Y ((Y (xu fu a.1) λl=>ck ((2:J)≠0)<|nm (xca l (2:J)) λm=>if m=1 then Y (xu fu a.2.1) λo=>ck ((2:J)≠0)<|nm (xca o (2:J)) λp=>if p=1 then nm (!(a.2.2.2.2==wF)) λq=>nm ((a.1,(a.2.1,(a.2.2.1,(a.2.2.2.1,q))))) λr=>Z r else nm (!(a.2.2.2.2==I)) λs=>nm ((a.1,(a.2.1,(a.2.2.1,(a.2.2.2.1,s))))) λt=>Z t else nm (!(a.2.2.2.2==I)) λu=>nm ((a.1,(a.2.1,(a.2.2.1,(a.2.2.2.1,u))))) λv=>Z v:V ((xS Zr)×((xS Zr)×(Zr×(Zr×wW)))))) λd=>Y (kI fu d.1 d.2.1) λ(M,w,N)=>Y (wC fu d.2.2.2.1 f) λx=>Y (zF fu d.2.2.1 x) λy=>Y (o6 fu w y) λA=>nm ((d.2.1,d.2)) λi=>nm ((i.1,(A,i.2.2))) λe=>Y (xu fu e.1) λB=>zD B (X e.1) λC=>nm (e.1.getD C (I,[])) λE=>nm ((e.1,(e.2.1,(E,e.2.2.2)))) λb=>Y ((if 0<f then Z wF else Z I:V wW)) λG=>if G then Y (wC fu b.2.2.1 f) λH=>Q (f-1) λg=>Y (wC fu b.2.2.2.1 g) λc=>Y (xY fu H c) λ(n,K)=>nm ((b.1,(b.2.1,(b.2.2.1,(n,b.2.2.2.2))))) λh=>Z h else Z b
def JV(b:N M):((J×(N M)×M×M)->V ((N M)×M×M))->(J×(N M)×M×M)->V ((N M)×M×M):=λL (d,a,e,f)=>Y ((if d<(X b:J)then Z (((X b:J),wF))else Z (((X b:J),I)):V (J×wW))) λ(l,g)=>if g then zD d (X a) λh=>B ((a.getD h (I,[]))) λi=>Y (XP fu f i) λj=>Q (d+1) λk=>L (k,a,e,j)else Z (a,e,f)
def x9(e:N M):V M:=Y (zM fu e) λd=>Y (zS fu (0:J)) λf=>Y (zg (JV fu d) fu<|((0:J),d,(I,[]),f)) λ(a,k,b)=>if 0<(X a:J)then Q (((X a:J))-1) λg=>zD g (X a) λh=>B (((a.getD h (I,[]))).1) λi=>if i then Y (jR fu b) λj=>Z j else Z b else Z b
def Jf(e:J)(a:M)(b:M):V M:=Y (xY fu a b) λ(d,f)=>Z d
def xk(a:N M):V (N M):=Y (x9 fu a) λb=>Y (zM fu a) λd=>Y (zH fu d<|λc f=>Jf fu c f b) λe=>Z e
def iC:(((N M)×((N M)×(M×(M×wW))))->V ((N M)×((N M)×(M×(M×wW)))))->((N M)×((N M)×(M×(M×wW))))->V ((N M)×((N M)×(M×(M×wW)))):=λL a=>Y (xu fu a.2.1) λd=>if 0<d then Y (Yj fu a) λb=>L b else Z a
def Uu(G:xS Zr)(H:xS Zr):ww (Zr×J):=bd (zM fu G) λd=>bd (zM fu H) λe=>bd ((if 65<(i0 d:J)then Z wF else if 65<(i0 e:J)then Z wF else Z I:ww wW)) λc=>if c then Z (((I,[]),(6:J)))else if(i0 d:J)=0 then bd (zS fu (0:J)) λn=>Z ((n,(0:J)))else if(i0 e:J)=0 then bd (zS fu (0:J)) λK=>Z ((K,(0:J)))else bd (x9 fu d) λM=>bd (xu fu e) λN=>bd (wC fu M N) λL=>bd (x9 fu e) λP=>bd (xu fu d) λQ=>bd (wC fu P Q) λR=>bd (zF fu L R) λj=>bd (xk fu d) λy=>bd (xk fu e) λk=>bd (zS fu (1:J)) λA=>bd (zS fu (1:J)) λB=>bd ((bd ((if(i0 d:J)<(i0 e:J)then Z (d,e,wF)else Z (d,e,I):ww ((xS Zr)×(xS Zr)×wW))) λ(S,U,V)=>if V then nm ((k,(k,(A,(B,I))))) λC=>nm ((C.1,(y,C.2.2))) λb=>bd (xu fu S) λW=>ck ((2:J)≠0)<|nm (xca W (2:J)) λX=>if X=1 then bd (xu fu U) λY=>ck ((2:J)≠0)<|nm (xca Y (2:J)) λz=>if z=1 then nm ((b.1,(b.2.1,(b.2.2.1,(b.2.2.2.1,wF))))) λt9=>Z (((I,[]),j,t9))else nm ((b.1,(b.2.1,(b.2.2.1,(b.2.2.2.1,I))))) λl=>Z (((I,[]),j,l))else nm ((b.1,(b.2.1,(b.2.2.1,(b.2.2.2.1,I))))) λm=>Z (((I,[]),j,m))else Z (((I,[]),j,(y,(k,(A,(B,I)))))):ww (Zr×Zr×((xS Zr)×((xS Zr)×(Zr×(Zr×wW))))))) λ(f,g,o)=>bd (zg (iC fu) fu o) λa=>if(i0 a.2.1:J)=0 then bd (zS fu (0:J)) λp=>Z ((p,(0:J)))else zD 0 (i0 a.2.1) λD=>nm (a.2.1.getD D (I,[])) λq=>bd (xu fu a.1) λF=>bd (wC fu q F) λh=>bd ((bd (xu fu a.1) λE=>bd ((if(1:J)<E then Z wF else Z I:ww wW)) λb3=>if b3 then ze (E-1) λr=>bd (wC fu a.2.2.2.1 r) λs=>bd (xY fu h s) λ(t,a4)=>Z (f,g,a,t)else Z (f,g,a,h):ww (Zr×Zr×((xS Zr)×((xS Zr)×(Zr×(Zr×wW))))×Zr))) λ(a5,u,v,w)=>bd (zF fu w u) λi=>if v.2.2.2.2=wF then bd (jR fu i) λx=>Z ((x,(0:J)))else Z ((i,(0:J)))
def U4(e:V ((N M)×(N<|M×(N K))))(b:N (M×(N K))):(((N K)×J×(N<|M×(N K))×(M×(N K)))->V ((N K)×(N<|M×(N K))×(M×(N K))))->((N K)×J×(N<|M×(N K))×(M×(N K)))->V ((N K)×(N<|M×(N K))×(M×(N K))):=λL (f,d,a,g)=>Y ((if d<(X b:J)then Z ((e,(X b:J),wF))else Z ((e,(X b:J),I)):V ((V<|(N M)×(N<|M×(N K)))×J×wW))) λ(m,o,h)=>if h then zD d (X a) λi=>B ((a.getD i<|((I,[]),[]))) λj=>Y (Zb fu f j.2) λk=>Q (d+1) λl=>L (k,l,a,g)else Z (f,a,g)
def UE(i:V ((N M)×(N<|M×(N K))))(g:N (M×(N K))):(((N K)×J×(N<|M×(N K))×(M×(N K))×(N M))->V ((N K)×(N<|M×(N K))×(M×(N K))×(N M)))->((N K)×J×(N<|M×(N K))×(M×(N K))×(N M))->V ((N K)×(N<|M×(N K))×(M×(N K))×(N M)):=λL (b,f,a,e,d)=>Y ((if f<(X g:J)then Z ((i,(X g:J),wF))else Z ((i,(X g:J),I)):V ((V<|(N M)×(N<|M×(N K)))×J×wW))) λ(k,s,l)=>if l then zD f (X a) λm=>B ((a.getD m<|((I,[]),[]))) λj=>Y (zF fu j.1 (I,b)) λo=>Y (xY fu o (I,j.2)) λ(p,t)=>zD f (X d) λq=>B (d.set q p) λh=>Q (f+1) λr=>L (b,r,a,e,h)else Z (b,a,e,d)
def WO(a:V ((N M)×(N<|M×(N K))))(r:N (M×(N K))):V ((M×(N K))×J):=Y (qy fu a) λs=>if s then Z ((((I,[]),[]),(1:J)))else Y (a) λt=>Y (w9 fu t r) λm=>Y (zg (U4 fu a m) fu<|([(1:K)],(0:J),m,((I,[]),[]))) λ(u,b,v)=>jh ((X b:J)) λo=>ck (32*o<=281474976710656)<|nm (xac o (I,[])) λd=>Y (zg (UE fu a b) fu<|(u,(0:J),b,v,d)) λ(e,f,w,g)=>Y (a) λx=>Y (Uu fu x.1 g) λ(y,G)=>Y (a) λA=>Q (((X A.1:J))-1) λp=>Y (a) λq=>zD p (X q.1) λB=>nm (q.1.getD B (I,[])) λh=>Q (((X f:J))-1) λC=>nm (max C (0:J)) λE=>Y (Kv fu h E) λi=>Y (Kv fu (I,e) p) λj=>Y (zF fu i j) λk=>Y (Z6 fu y k) λ(l,H)=>Z<|(l,(0:J))
def dq(fu:K)(b:N K)(d:N K):(J->V (Z4⊕Z4))->J->V (Z4⊕Z4):=λL a=>if a<(X b:J)then zD a (X b) λe=>B (b.getD e 0) λf=>zD a (X d) λg=>B (d.getD g 0) λh=>if(f:J)=(h:J)then Q (a+1) λi=>L i else Z (.inr ())else Z (.inl ())
def YI(a:N K)(b:N K):V wW:=if(X a:J)=(X b:J)then Y (zg (dq fu a b) fu (0:J)) λd=>match d with
 |.inl _=>Z wF
 |.inr _=>Z I else Z I
def YP(a:M)(b:M):V wW:=B (a.1==b.1) λd=>if d then Y (YI fu a.2 b.2) λe=>Z e else Z I
def oz(a:M×(N K))(b:M×(N K)):V wW:=Y (YP fu a.1 b.1) λd=>if d then Y (YI fu a.2 b.2) λe=>Z e else Z I
def Bt(b:N (M×(N K)))(d:N (M×(N K))):(J->V (Z4⊕Z4))->J->V (Z4⊕Z4):=λL a=>if a<(X b:J)then zD a (X b) λe=>B (b.getD e<|((I,[]),[])) λf=>zD a (X d) λg=>B (d.getD g<|((I,[]),[])) λh=>Y (oz fu f h) λi=>if !i then Z (.inr ())else Q (a+1) λj=>L j else Z (.inl ())
def n6(a:N (M×(N K)))(b:N (M×(N K))):V wW:=if(X a:J)=(X b:J)then Y (zg (Bt fu a b) fu (0:J)) λd=>match d with
 |.inl _=>Z wF
 |.inr _=>Z I else Z I
def nN(a:N (M×(N K)))(b:N (M×(N K))):V wW:=Y (n6 fu a b) λd=>Z d
def Jk(b:N M):((J×(N M)×J)->V J)->(J×(N M)×J)->V J:=λL (a,d,e)=>if e=0 then Q (a+1) λf=>Y (xR fu d b) λ(g,h)=>L (f,g,h)else Z a
def YE(b:N M)(a:N M):V J:=Y (xR fu b a) λ(d,e)=>Y (zg (Jk fu a) fu<|((0:J),d,e)) λf=>Z f
def Zf(fu:K)(d:J):((wW×J)->V wW)->(wW×J)->V wW:=λL (b,a)=>if b then Q (a*a) λe=>if e<=d then ck (a≠0)<|B (xca d a) λf=>if f=0 then Z I else Q (a+1) λg=>L (b,g)else Z b else Z b
def uq(a:J):V wW:=Y ((if 2<=a then if a<=65521 then Z wF else Z I else Z I:V wW)) λb=>Y (zg (Zf fu a) fu<|(b,(2:J))) λd=>Z d
def uR(b:N K):V J:=Y (wx fu b) λa=>if(X a:J)=0 then Z (0:J)else Q (((X a:J))-1) λd=>Q ((64:J)*d) λe=>Q (((X a:J))-1) λf=>zD f (X a) λg=>B (a.getD g 0) λh=>Y (xO fu h) λi=>Q (e+i) λj=>Z j
def aw:((J×M×M)->V M)->(J×M×M)->V M:=λL (a,b,d)=>if 0<a then B (SV a (1:J)) λf=>if f=1 then Y (zF fu d b) λe=>if 1<a then Y (zF fu b b) λg=>B (xfV a<|2^(min (((1:K)):J).toNat 64)) λh=>L (h,g,e)else B (xfV a<|2^(min (((1:K)):J).toNat 64)) λi=>L (i,b,e)else if 1<a then Y (zF fu b b) λj=>B (xfV a<|2^(min (((1:K)):J).toNat 64)) λk=>L (k,j,d)else B (xfV a<|2^(min (((1:K)):J).toNat 64)) λl=>L (l,b,d)else Z d
def UB(b:M)(a:J):V (M×J):=Y ((if a<0 then Z wF else if 65536<a then Z wF else Z I:V wW)) λd=>if d then Z (((I,[]),(1:J)))else Y (uR fu b.2) λe=>Q (e*a) λf=>if 262144<f then Z (((I,[]),(6:J)))else Y (zS fu (1:J)) λg=>Y (vE fu b) λh=>Y (zg (aw fu) fu (a,h,g)) λi=>Z<|(i,(0:J))
def v7(b:J)(a:J):V (M×J):=Y (uq fu b) λd=>if !d then Z (((I,[]),(1:J)))else if a<1 then Z (((I,[]),(1:J)))else if 1000<a then Z (((I,[]),(1:J)))else Y (zS fu b) λe=>Y (UB fu e a) λ(f,g)=>Z (f,g)
def Ud(fu:K)(a:N M)(e:M)(g:M->M->V (M×J)):((J×(N M))->V (N M))->(J×(N M))->V (N M):=λL (b,d)=>Y ((if b<(X a:J)then Z ((e,a,(X a:J),wF))else Z ((e,a,(X a:J),I)):V (M×(N M)×J×wW))) λ(h,f,q,i)=>if i then zD b (X f) λj=>B (f.getD j (I,[])) λk=>Y (g k h) λ(l,r)=>zD b (X d) λm=>B (d.set m l) λo=>Q (b+1) λp=>L (p,o)else Z d
def qd(a:N M)(b:M)(e:M->M->V (M×J)):V ((N M)×J):=Y (xv fu b) λf=>if f<=0 then Z (([],(1:J)))else jh ((X a:J)) λd=>ck (32*d<=281474976710656)<|B (xac d (I,[])) λg=>Y (zg (Ud fu a b e) fu<|((0:J),g)) λh=>Y (zM fu h) λi=>Z<|(i,(0:J))
def qG(b:M)(a:M):V (M×J):=Y (xv fu a) λd=>if d<=0 then Z (((I,[]),(1:J)))else Y (X4 fu b a) λ(f,e,g)=>Z<|(e,(0:J))
def Xn(a:N M)(b:M):V ((N M)×J):=Y (qd fu a b<|λc f=>qG fu c f) λ(d,e)=>Z (d,e)
def xl(a:N M)(b:M):V (N M):=Y (Xn fu a b) λ(d,e)=>Z d
def w7(a:J):V J:=Y (uq fu a) λb=>if !b then Z (1:J)else Z (0:J)
def u6(fu:K)(d:J)(a:J):V J:=if a<1 then Z (0:J)else ck (a≠0)<|B (xca d a) λb=>if b<0 then Q (b+a) λe=>Z e else Z b
def lQ(fu:K):((J×J×J×J)->V (J⊕Z4))->(J×J×J×J)->V (J⊕Z4):=λL (d,a,f,b)=>if a=0 then Z (.inr ())else if a=1 then Z (.inl b)else ck (a≠0)<|Q (xct d a) λe=>Q (e*a) λg=>Q (d-g) λh=>Q (e*b) λi=>Q (f-i) λj=>L (a,h,b,j)
def Vk(d:J)(a:J):V (J×J):=Y (w7 fu a) λb=>if b=0 then Y (u6 fu d a) λe=>Y (zg (lQ fu) fu<|(a,e,(0:J),(1:J))) λf=>match f with
 |.inl g=>Y (u6 fu g a) λh=>Z<|(h,(0:J))
 |.inr _=>Z (((0:J),(3:J)))else Z (((0:J),b))
def aU(b:N J)(e:J):((J×(N J))->V (N J))->(J×(N J))->V (N J):=λL (a,d)=>if a<(X b:J)then zD a (X b) λf=>B (b.getD f 0) λg=>Y (u6 fu g e) λh=>zD a (X d) λi=>B (d.set i h) λj=>Q (a+1) λk=>L (k,j)else Z d
def aI(fu:K):((N J)->V (N J))->(N J)->V (N J):=λL a=>if 0<(X a:J)then Q (((X a:J))-1) λd=>zD d (X a) λe=>B ((a.getD e 0)) λf=>if f=0 then Q (((X a:J))-1) λg=>jh g λb=>ck (b<=X a)<|B (a.take b) λh=>L h else Z a else Z a
def yb(a:N J)(d:J):V (N J):=jh ((X a:J)) λb=>ck (8*b<=281474976710656)<|B (xac b 0) λe=>Y (zg (aU fu a d) fu<|((0:J),e)) λf=>Y (zg (aI fu) fu f) λg=>Z g
def YH(fu:K)(a:N J)(q:J)(b:J):(((N J)×J×J×J×(N J)×(N J))->V ((N J)×J×J×(N J)×(N J)))->((N J)×J×J×J×(N J)×(N J))->V ((N J)×J×J×(N J)×(N J)):=λL (r,d,s,e,f,t)=>Y ((if e<(X a:J)then Z ((q,b,a,(X a:J),wF))else Z ((q,b,a,(X a:J),I)):V (J×J×(N J)×J×wW))) λ(u,w,v,E,x)=>if x then zD e (X v) λy=>nm (v.getD y 0) λA=>Q (u+e) λg=>Q (u+e) λh=>zD h (X f) λB=>nm ((f.getD B 0)) λi=>Q (d-w) λj=>Q (j*A) λk=>Q (i+k) λl=>ck (d≠0)<|nm (xca l d) λm=>zD g (X f) λC=>nm (f.set C m) λo=>Q (e+1) λp=>L (r,d,s,p,o,t)else Z (r,d,s,f,t)
def Y3(e:N J)(f:J)(k:J):((J×(N J)×(N J))->V ((N J)×(N J)))->(J×(N J)×(N J))->V ((N J)×(N J)):=λL (a,d,g)=>if 0<=a then Q (a+((X e:J))) λl=>Q (l-1) λm=>zD m (X d) λo=>B ((d.getD o 0)) λp=>Q (p*k) λq=>ck (f≠0)<|B (xca q f) λb=>zD a (X g) λr=>B (g.set r b) λs=>Y (zg (YH fu e a b) fu<|(e,f,k,(0:J),d,s)) λ(t,u,v,h,i)=>Q (a-1) λj=>L (j,h,i)else Z (d,g)
def xF(j:N J)(a:N J)(b:J):V ((N J)×(N J)):=ck ((X (([]:N J))+X j)*8<=140737488355328)<|B ((([]:N J))++j) λd=>Q (((X d:J))-((X a:J))) λe=>if e<0 then Z ([],d)else Q (((X a:J))-1) λl=>zD l (X a) λm=>B (a.getD m 0) λo=>Y (Vk fu o b) λ(p,s)=>Q (e+1) λq=>jh q λk=>ck (8*k<=281474976710656)<|B (xac k 0) λr=>Y (zg (Y3 fu a b p) fu (e,d,r)) λ(f,g)=>Y (yb fu g b) λh=>Y (yb fu f b) λi=>Z (h,i)
def J4(fu:K)(e:J)(a:N J)(f:J)(g:N J)(h:J)(i:J):((J×(N J))->V (N J))->(J×(N J))->V (N J):=λL (b,d)=>Y ((if b<(X a:J)then Z ((a,f,e,i,g,h,e,a,(X a:J),wF))else Z ((a,f,e,i,g,h,e,a,(X a:J),I)):V ((N J)×J×J×J×(N J)×J×J×(N J)×J×wW))) λ(E,j,k,m,G,H,c,l,o,p)=>if p then zD b (X l) λq=>nm (l.getD q 0) λr=>Q (k+b) λs=>Q (k+b) λt=>zD t (X d) λu=>nm ((d.getD u 0)) λv=>Q (m*r) λw=>Q (v+w) λx=>ck (j≠0)<|nm (xca x j) λy=>zD s (X d) λA=>nm (d.set A y) λB=>Q (b+1) λC=>L (C,B)else Z d
def JF(a:N J)(f:N J)(g:J):((J×(N J))->V (N J))->(J×(N J))->V (N J):=λL (b,h)=>Y ((if b<(X a:J)then Z ((f,g,a,(X a:J),wF))else Z ((f,g,a,(X a:J),I)):V ((N J)×J×(N J)×J×wW))) λ(i,j,d,k,l)=>if l then zD b (X d) λm=>B (d.getD m 0) λo=>Y (zg (J4 fu b i j d k o) fu<|((0:J),h)) λe=>Q (b+1) λp=>L (p,e)else Z h
def wH(d:N J)(e:N J)(f:J):V (N J):=Q (((X d:J))+((X e:J))) λh=>jh h λg=>ck (8*g<=281474976710656)<|B (xac g 0) λi=>Y (zg (JF fu d e f) fu<|((0:J),i)) λa=>Y (yb fu a f) λb=>Z b
def gQ(fu:K)(a:N J)(e:J)(f:J):((J×(N J))->V (N J))->(J×(N J))->V (N J):=λL (b,d)=>Y ((if b<(X a:J)then Z ((e,f,a,(X a:J),wF))else Z ((e,f,a,(X a:J),I)):V (J×J×(N J)×J×wW))) λ(h,t,g,u,i)=>if i then zD b (X g) λj=>B (g.getD j 0) λk=>zD b (X d) λl=>B ((d.getD l 0)) λm=>Q (h*k) λo=>Q (m+o) λp=>zD b (X d) λq=>B (d.set q p) λr=>Q (b+1) λs=>L (s,r)else Z d
def Yo(a:N J)(b:N J)(f:J)(d:J):V (N J):=B (max ((X a:J))<|(X b:J)) λg=>jh g λe=>ck (8*e<=281474976710656)<|B (xac e 0) λh=>B (cpy h a) λi=>Y (zg (gQ fu b f d) fu<|((0:J),i)) λj=>Y (yb fu j d) λk=>Z k
def u5(e:N (N J))(f:J):(((N J)×J×(N<|N J)×(N<|N J))->V ((N<|N J)×(N<|N J)))->((N J)×J×(N<|N J)×(N<|N J))->V ((N<|N J)×(N<|N J)):=λL (g,a,b,h)=>Y ((if a<3 then Z (f,e,wF)else Z (f,e,I):V (J×(N<|N J)×wW))) λ(d,i,j)=>if j then zD a (3) λk=>zD a (3) λl=>B (i.getD l []) λm=>Y (wH fu g m d) λo=>Q (d-1) λp=>Y (Yo fu (b.getD k []) o p d) λq=>zD a (3) λr=>B (b.set r q) λs=>Q (a+1) λt=>L (g,t,s,h)else Z (b,h)
def YK(b:N (N J))(d:N (N J))(e:J):V (N<|N J):=zD 0 (3) λf=>zD 0 (3) λg=>B (d.getD g []) λh=>Y (xF fu (b.getD f []) h e) λ(i,k)=>Y (zg (u5 fu d e) fu<|(i,(0:J),b,(xac 3 []))) λ(a,j)=>Z a
def vU(b:N J)(d:J)(a:J):V (N J):=Y (Vk fu d a) λ(e,g)=>Y (wH fu b [e] a) λf=>Z f
def Zg(d:J):(((N<|N J)×(N<|N J))->V (N<|N J))->((N<|N J)×(N<|N J))->V (N<|N J):=λL (b,a)=>zD 0 (3) λe=>if 0<((X ((a.getD e [])):K):J)then Y (YK fu b a d) λf=>L (a,f)else Z b
def wZ(d:J)(e:J):((J×(N<|N J))->V (N<|N J))->(J×(N<|N J))->V (N<|N J):=λL (a,b)=>if a<3 then zD a (3) λf=>Y (vU fu (b.getD f []) e d) λg=>zD a (3) λh=>B (b.set h g) λi=>Q (a+1) λj=>L (j,i)else Z b
def uH(k:N J)(l:N J)(d:J):V ((N J)×(N J)×(N J)×J):=Y (w7 fu d) λh=>if h=0 then Y (yb fu k d) λm=>Y (yb fu l d) λo=>Y (zg (Zg fu d) fu<|([m,[(1:J)],[]],[o,[],[(1:J)]])) λa=>zD 0 (3) λi=>Y ((if 0<((X ((a.getD i [])):K):J)then Z wF else Z I:V wW)) λp=>if p then zD 0 (3) λj=>Q ((((X ((a.getD i [])):K):J))-1) λq=>zD q (X ((a.getD j []))) λr=>B (((a.getD j [])).getD r 0) λs=>Y (zg (wZ fu d s) fu<|((0:J),a)) λb=>zD 0 (3) λt=>zD 1 (3) λu=>zD 2 (3) λv=>Z (((b.getD t []),(b.getD u []),(b.getD v []),(0:J)))else zD 0 (3) λe=>zD 1 (3) λf=>zD 2 (3) λg=>Z (((a.getD e []),(a.getD f []),(a.getD g []),(0:J)))else Z ([],[],[],h)
def jO(a:N J)(b:N J)(d:J):V ((N J)×J):=Y (uH fu a b d) λ(e,g,h,f)=>Z (e,f)
def jH(d:N J)(e:N J)(a:J):V ((N J)×J):=Y (w7 fu a) λb=>if b=0 then Y (yb fu d a) λf=>Y (yb fu e a) λg=>Y (wH fu f g a) λh=>Z ((h,(0:J)))else Z ([],b)
def Vm(d:N J)(e:N J)(a:J):V ((N J)×J):=Y (w7 fu a) λb=>if b=0 then Y (yb fu d a) λf=>Y (yb fu e a) λg=>Q (a-1) λh=>Y (Yo fu f g h a) λi=>Z ((i,(0:J)))else Z ([],b)
def Y9(a:N J)(b:N J)(d:J):V wW:=Y (Vm fu a b d) λ(e,f)=>if(X e:J)=0 then Z wF else Z I
def XX(fu:K)(a:N J)(e:J):(J->V (Z4⊕Z4))->J->V (Z4⊕Z4):=λL b=>if b<(X a:J)then zD b (X a) λf=>B (a.getD f 0) λd=>if d<0 then Z (.inr ())else if e<=d then Z (.inr ())else Q (b+1) λg=>L g else Z (.inl ())
def YZ(a:N J)(b:J):V wW:=Y (zg (XX fu a b) fu (0:J)) λd=>match d with
 |.inl _=>if 1<(X a:J)then Q (((X a:J))-1) λe=>zD e (X a) λf=>B (a.getD f 0) λg=>if g=1 then Z wF else Z I else Z I
 |.inr _=>Z I
def QJ(a:N (N J))(e:J):(((N J)×J)->V (N J))->((N J)×J)->V (N J):=λL (d,b)=>if b<(X a:J)then zD b (X a) λf=>B (a.getD f []) λg=>Y (jH fu d g e) λ(h,j)=>Q (b+1) λi=>L (h,i)else Z d
def vQ(a:N (N J))(b:J):V (N J):=Y (zg (QJ fu a b) fu<|([(1:J)],(0:J))) λd=>Z d
def Qu(b:M):V (J×wW):=Y (vE fu b) λa=>Y ((if(X a.2:J)=0 then Z wF else Z I:V wW)) λd=>if d then Z (((0:J),wF))else Y ((if 1<(X a.2:J)then Z wF else Z I:V wW)) λe=>if e then Z (((0:J),I))else Y ((if a.1=wF then zD 0 (X a.2) λf=>B (a.2.getD f 0) λg=>if(g:J)<=(((9223372036854775808:K):K):J)then Z wF else Z I else Z I:V wW)) λh=>if h then zD 0 (X a.2) λi=>B (a.2.getD i 0) λj=>B ((18446744073709551616-j)%18446744073709551616) λk=>B (sgn k) λl=>Z (l,wF)else if a.1=wF then Z (((0:J),I))else zD 0 (X a.2) λm=>B (a.2.getD m 0) λo=>if(((9223372036854775807:K):K):J)<(o:J)then Z (((0:J),I))else zD 0 (X a.2) λp=>B (a.2.getD p 0) λq=>B (sgn q) λr=>Z (r,wF)
def JO(b:M)(d:J):V (J×J):=Y (zS fu d) λe=>Y (qG fu b e) λ(f,a)=>if a=0 then Y (Qu fu f) λ(g,h)=>Z ((g,(0:J)))else Z (((0:J),a))
def WA(e:J)(a:M)(b:J):V J:=Y (JO fu a b) λ(d,f)=>Z d
def uC(fu:K)(a:N M)(f:J->M->V J):((J×(N J))->V (N J))->(J×(N J))->V (N J):=λL (b,d)=>Y ((if b<(X a:J)then Z ((a,(X a:J),wF))else Z ((a,(X a:J),I)):V ((N M)×J×wW))) λ(e,o,g)=>if g then zD b (X e) λh=>B (e.getD h (I,[])) λi=>Y (f b i) λj=>zD b (X d) λk=>B (d.set k j) λl=>Q (b+1) λm=>L (m,l)else Z d
def qS(a:N M)(d:J->M->V J):V (N J):=jh ((X a:J)) λb=>ck (8*b<=281474976710656)<|B (xac b 0) λe=>Y (zg (uC fu a d) fu<|((0:J),e)) λf=>Z f
def gM(fu:K):((N J)->V (N J))->(N J)->V (N J):=λL a=>if 0<(X a:J)then Q (((X a:J))-1) λd=>zD d (X a) λe=>B ((a.getD e 0)) λf=>if f=0 then Q (((X a:J))-1) λg=>jh g λb=>ck (b<=X a)<|B (a.take b) λh=>L h else Z a else Z a
def uO(b:N M)(a:J):V ((N J)×J):=if a<1 then Z (([],(1:J)))else Y (qS fu b<|λc f=>WA fu c f a) λd=>Y (zg (gM fu) fu d) λe=>Z<|(e,(0:J))
def jl(d:J)(e:N J)(a:N (N J)):(J->V (Z4⊕Z4))->J->V (Z4⊕Z4):=λL b=>if b<(X a:J)then zD b (X a) λf=>B (a.getD f []) λg=>Y (jO fu e g d) λ(h,j)=>if(X h:J)=1 then Q (b+1) λi=>L i else Z (.inr ())else Z (.inl ())
def jw(e:N M)(a:N (N J))(f:J):((J×(N J))->V ((N J)⊕Z4))->(J×(N J))->V ((N J)⊕Z4):=λL (b,g)=>Y ((if b<(X a:J)then Z ((e,a,f,a,(X a:J),wF))else Z ((e,a,f,a,(X a:J),I)):V ((N M)×(N<|N J)×J×(N<|N J)×J×wW))) λ(l,h,i,j,t,m)=>if m then zD b (X j) λo=>B (j.getD o []) λd=>if(X l:J)<(X d:J)then Z (.inr ())else Y (YZ fu d i) λp=>if !p then Z (.inr ())else jh b λk=>ck (k<=X h)<|B (h.take k) λq=>Y (zg (jl fu i d q) fu (0:J)) λr=>match r with
 |.inl _=>Q (b+1) λs=>L (s,g)
 |.inr _=>Z (.inr ())else Z (.inl g)
def vi(a:N M)(e:N (N J))(b:J):V wW:=Y (uO fu a b) λ(h,o)=>if(X a:J)=0 then Z I else if(X h:J)=(X a:J)then if(X a:J)<(X e:J)then Z I else Y (zg (jw fu a e b) fu<|((0:J),h)) λj=>match j with
 |.inl d=>Y (vQ fu e b) λk=>Q (((X d:J))-1) λl=>jh l λi=>ck (i<=X d)<|B (d.drop i) λf=>Y (jH fu k f b) λ(g,p)=>Y (Y9 fu g d b) λm=>Z m
 |.inr _=>Z I else Z I
def Yd(a:N M)(j:J):(((N M)×M×J×(N M)×(N M))->V ((N M)×M×(N M)×(N M)))->((N M)×M×J×(N M)×(N M))->V ((N M)×M×(N M)×(N M)):=λL (k,l,b,d,f)=>Y ((if b<(X a:J)then Z ((j,a,(X a:J),wF))else Z ((j,a,(X a:J),I)):V (J×(N M)×J×wW))) λ(g,e,A,m)=>if m then zD b (X e) λo=>B (e.getD o (I,[])) λp=>Q (g+b) λq=>Q (g+b) λr=>zD r (X d) λs=>B ((d.getD s (I,[]))) λt=>zD g (X f) λu=>B ((f.getD u (I,[]))) λv=>Y (zF fu v p) λw=>Y (vT fu t w) λx=>zD q (X d) λy=>B (d.set y x) λh=>Q (b+1) λi=>L (k,l,i,h,f)else Z (k,l,d,f)
def Ye(d:N M)(i:M):((J×(N M)×(N M))->V ((N M)×(N M)))->(J×(N M)×(N M))->V ((N M)×(N M)):=λL (a,b,e)=>if 0<=a then Q (a+((X d:J))) λj=>Q (j-1) λk=>zD k (X b) λl=>B ((b.getD l (I,[]))) λm=>Y (qG fu m i) λ(o,t)=>zD a (X e) λp=>B (e.set p o) λq=>Y (zg (Yd fu d a) fu<|(d,i,(0:J),b,q)) λ(r,s,f,g)=>Q (a-1) λh=>L (h,f,g)else Z (b,e)
def ji(k:N M)(g:N M)(a:M):V ((N M)×(N M)):=Y (xl fu k a) λh=>Q (((X h:J))-((X g:J))) λl=>Q (l+1) λm=>B (max m (0:J)) λo=>jh o λi=>ck (32*i<=281474976710656)<|B (xac i (I,[])) λj=>Q (((X j:J))-1) λp=>Y (zg (Ye fu g a) fu (p,h,j)) λ(b,d)=>Y (xl fu d a) λe=>Y (xl fu b a) λf=>Z (e,f)
def gh(e:J)(a:N M)(g:N M)(h:J):((J×(N M)×M)->V (N M))->(J×(N M)×M)->V (N M):=λL (b,d,i)=>Y ((if b<(X a:J)then Z ((a,e,g,h,e,a,(X a:J),wF))else Z ((a,e,g,h,e,a,(X a:J),I)):V ((N M)×J×(N M)×J×J×(N M)×J×wW))) λ(x,j,y,A,B,k,C,l)=>if l then zD b (X k) λm=>nm (k.getD m (I,[])) λo=>Q (j+b) λp=>Q (j+b) λq=>zD q (X d) λr=>nm ((d.getD r (I,[]))) λs=>Y (zF fu i o) λt=>Y (vt fu s t) λu=>zD p (X d) λv=>nm (d.set v u) λf=>Q (b+1) λw=>L (w,f,i)else Z d
def gI(a:N M)(f:N M):((J×(N M))->V (N M))->(J×(N M))->V (N M):=λL (b,g)=>Y ((if b<(X a:J)then Z ((f,a,(X a:J),wF))else Z ((f,a,(X a:J),I)):V ((N M)×(N M)×J×wW))) λ(h,d,i,j)=>if j then zD b (X d) λk=>B (d.getD k (I,[])) λl=>Y (zg (gh fu b h d i) fu<|((0:J),g,l)) λe=>Q (b+1) λm=>L (m,e)else Z g
def wu(d:N M)(e:N M):V (N M):=Q (((X d:J))+((X e:J))) λg=>jh g λf=>ck (32*f<=281474976710656)<|B (xac f (I,[])) λh=>Y (zg (gI fu d e) fu<|((0:J),h)) λa=>Y (zM fu a) λb=>Z b
def Xf(d:J)(a:J):V M:=Y (zS fu a) λb=>Z b
def uo(fu:K)(b:N J)(e:J->J->V M):((J×(N M))->V (N M))->(J×(N M))->V (N M):=λL (a,d)=>if a<(X b:J)then zD a (X b) λf=>B (b.getD f 0) λg=>Y (e a g) λh=>zD a (X d) λi=>B (d.set i h) λj=>Q (a+1) λk=>L (k,j)else Z d
def qX(a:N J)(d:J->J->V M):V (N M):=jh ((X a:J)) λb=>ck (32*b<=281474976710656)<|B (xac b (I,[])) λe=>Y (zg (uo fu a d) fu<|((0:J),e)) λf=>Z f
def qF(a:N J):V (N M):=Y (qX fu a<|λc e=>Xf fu c e) λb=>Y (zM fu b) λd=>Z d
def QI(a:N J):V (N M):=Y (qF fu a) λb=>Z b
def jr(f:xS (xS Zr))(G:xS Zr)(a:Zr):V (xS<|xS Zr):=zD 0 (4) λH=>nm (f.getD H []) λi=>zD 1 (4) λn=>nm (f.getD n []) λj=>zD 2 (4) λc=>nm (f.getD c []) λg=>zD 3 (4) λK=>nm (f.getD K []) λh=>Y (wu fu i j) λM=>Y (jK fu G M) λN=>Y (xl fu N a) λE=>Y (wu fu g E) λz=>Y (ji fu z j a) λ(P,Q)=>Y (wu fu h E) λR=>Y (wu fu P i) λS=>Y (vJ fu R S) λU=>Y (vJ fu i U) λk=>Y (xl fu k a) λb=>Y (vJ fu j Q) λl=>Y (xl fu l a) λd=>Y (wu fu g b) λm=>Y (wu fu h d) λo=>Y (vJ fu m o) λp=>Y (QI fu [(1:J)]) λq=>Y (jK fu p q) λr=>Y (xl fu r a) λe=>Y (wu fu g e) λs=>Y (ji fu s d a) λ(t,u)=>Y (jK fu g u) λv=>Y (xl fu v a) λw=>Y (wu fu h e) λx=>Y (wu fu t b) λy=>Y (vJ fu x y) λA=>Y (jK fu h A) λB=>Y (xl fu B a) λC=>Z [b,d,w,C]
def Zm(a:M×(M×M))(b:M)(d:M×(M×M)):V (M×(M×M)):=Y (zF fu b d.1) λe=>Y (vT fu a.1 e) λf=>Y (zF fu b d.2.1) λg=>Y (vT fu a.2.1 g) λh=>Y (zF fu b d.2.2) λi=>Y (vT fu a.2.2 i) λj=>Z (f,h,j)
def VM:(((M×(M×M))×(M×(M×M)))->V (M×(M×M)))->((M×(M×M))×(M×(M×M)))->V (M×(M×M)):=λL (b,a)=>Y (xv fu a.1) λd=>if d=0 then Z b else Y (X4 fu b.1 a.1) λ(e,g,h)=>Y (Zm fu b e a) λf=>L (a,f)
def Wc(g:M)(h:M):V (M×M×M):=Y (xg fu I g.2) λi=>Y (zS fu (1:J)) λj=>Y (zS fu (0:J)) λk=>Y (xg fu I h.2) λl=>Y (zS fu (0:J)) λm=>Y (zS fu (1:J)) λo=>Y (zg (VM fu) fu<|((i,j,k),(l,m,o))) λa=>Y ((Y (xv fu g) λp=>if p<0 then Y (jR fu a.2.1) λd=>B ((a.1,(d,a.2.2))) λq=>Z q else Z a:V (M×(M×M)))) λb=>Y ((Y (xv fu h) λr=>if r<0 then Y (jR fu b.2.2) λe=>B ((b.1,(b.2.1,e))) λs=>Z s else Z b:V (M×(M×M)))) λf=>Z (f.1,f.2.1,f.2.2)
def Ql(a:N M)(b:M):V (N M):=Q (((X a:J))-1) λd=>zD d (X a) λe=>B (a.getD e (I,[])) λf=>Y (Wc fu f b) λ(j,g,k)=>Y (vI fu a g) λh=>Y (xl fu h b) λi=>Z i
def ZQ(g:N M)(h:J)(d:J):((J×(N<|N M))->V (N<|N M))->(J×(N<|N M))->V (N<|N M):=λL (e,a)=>if e<d then Q ((2:J)*e) λi=>B (min i d) λf=>Y (v7 fu h f) λ(j,k)=>Y (jr fu a g j) λb=>L (f,b)else Z a
def vL:wr->(xS Zr)->(xS<|xS J)->J->J->Zr->V (xS<|xS Zr)
 |0,_,_,_,_,_=>wL
 |fu+1,d,a,b,i,j=>if(X a:J)=1 then Y (Ql fu d j) λC=>Z [C]else ck ((2:J)≠0)<|ze (xct ((X a:J)) (2:J)) λh=>ze (((X d:J))-1) λE=>jh E λu=>ck (u<=X d)<|nm (d.drop u) λG=>Y (uO fu G b) λ(H,n)=>jh h λv=>ck (v<=X a)<|nm (a.take v) λz=>Y (vQ fu z b) λc=>Y (jH fu c H b) λ(w,P)=>jh h λx=>ck (x<=X a)<|nm (a.drop x) λK=>Y (vQ fu K b) λy=>Y (uH fu w y b) λ(Q,k,l,R)=>Y (qF fu w) λm=>Y (qF fu y) λo=>Y (qF fu k) λp=>Y (qF fu l) λq=>Y (zg (ZQ fu d b i) fu<|((1:J),[m,o,p,q])) λe=>zD 0 (4) λM=>jh h λA=>ck (A<=X a)<|nm (a.take A) λr=>Y (vL fu (e.getD M []) r b i j) λf=>zD 1 (4) λN=>jh h λB=>ck (B<=X a)<|nm (a.drop B) λs=>Y (vL fu (e.getD N []) s b i j) λg=>ck ((X f+X g)*24<=140737488355328)<|nm (f++g) λt=>Z t
def qT(h:N M)(a:N (N J))(b:J)(e:J):V ((N<|N M)×J):=Y (v7 fu b e) λ(f,g)=>Y (zM fu h) λd=>if g=0 then if 65<(X d:J)then Z (([],(6:J)))else Y (vi fu d a b) λi=>if !i then Z (([],(1:J)))else if(X a:J)=0 then Z (([],(0:J)))else Y (xl fu d f) λj=>Y (vL fu j a b e f) λk=>Z ((k,(0:J)))else Z ([],g)
def Qo(a:N M)(b:N M)(d:M):V ((N M)×J):=Y (wu fu a b) λe=>Y (Xn fu e d) λ(f,g)=>Z (f,g)
def jQ(a:M)(b:M):V J:=Y (vT fu a b) λd=>Y (xv fu d) λe=>Z e
def YC(e:M)(d:M):V (M×J):=Y (qG fu e d) λ(a,b)=>if b=0 then Y (vt fu a a) λf=>Y (jQ fu f d) λg=>if 0<g then Y (vT fu a d) λh=>Z (h,b)else Z (a,b)else Z (a,b)
def WB(a:N M)(b:M):V ((N M)×J):=Y (qd fu a b<|λc f=>YC fu c f) λ(d,e)=>Z (d,e)
def kS(e:N (N M))(b:N J)(f:M):(((N M)×J×(N J))->V ((N M)×(N J)))->((N M)×J×(N J))->V ((N M)×(N J)):=λL (g,d,a)=>Y ((if d<(X b:J)then Z ((e,f,(X b:J),wF))else Z ((e,f,(X b:J),I)):V ((N<|N M)×M×J×wW))) λ(h,i,r,j)=>if j then zD d (X a) λk=>B ((a.getD k 0)) λl=>zD l (X h) λm=>B (h.getD m []) λo=>Y (Qo fu g o i) λ(p,s)=>Q (d+1) λq=>L (p,q,a)else Z (g,a)
def q9(a:N M)(g:N (N M))(d:N J)(e:M):V ((N M)×(N J)):=Q (((X a:J))-1) λh=>jh h λf=>ck (f<=X a)<|B (a.drop f) λi=>Y (zg (kS fu g d e) fu<|(i,(0:J),d)) λ(j,k)=>Y (WB fu j e) λ(l,m)=>Y (xk fu l) λb=>Z (b,k)
def vP{X Y R:Type}(fu:K)(n c:J)(g:N J->X->V (N J×(X⊕Y)))(x:X)(xs:N J)(L:X->N J->J->J->J->J->J->V R)(E:X->J->J->N J->V R)(f:Y->N J->V R):V R:=bd (g xs x) λr=>xfB (λd=>Q (n-1) λa=>bd (zg (λL i=>if 0<=i then zD i (i0 r.1) λj=>B (r.1.getD j 0) λy=>Q (c-n) λe=>Q (e+i) λe=>if y=e then Q (i-1) λi=>L i else Z i else Z i) fu a) λi=>if i<0 then E d a i r.1 else zD i (i0 r.1) λj=>B (r.1.getD j 0) λy=>Q (y+1) λe=>zD i (i0 r.1) λj=>B (r.1.set j e) λxs=>Q (i+1) λb=>bd (zg (λL (z:J×N J)=>if z.1<n then Q (z.1-1) λe=>zD e (i0 z.2) λj=>B (z.2.getD j 0) λy=>Q (y+1) λe=>zD z.1 (i0 z.2) λj=>B (z.2.set j e) λxs=>Q (z.1+1) λi=>L (i,xs)else Z z.2) fu (b,xs)) λxs=>L d xs b i e y a) (λy=>f y r.1) r.2
def wX{X Y:Type}(fu:K)(n b:J)(g:N J->X->V (N J×(X⊕Y)))(a:X):V (X⊕Y):=jh n λm=>ck (8*m<=281474976710656)<|B (xac m 0) λxs=>bd (zg (λL (z:N J×J)=>if z.2<(i0 xs:J)then zD z.2 (i0 z.1) λj=>B (z.1.set j z.2) λxs=>Q (z.2+1) λi=>L (xs,i)else Z z.1) fu (xs,0)) λxs=>zg (λL (q:X×N J)=>vP fu n b g q.1 q.2 (λx xs _ _ _ _ _=>L (x,xs)) (λx _ _ _=>Z (.inl x)) λy _=>Z (.inr y)) fu (a,xs)
def KN(fu:K)(b:N J)(d:J):(J->V (Z4⊕J))->J->V (Z4⊕J):=λL a=>if a<(X b:J)then zD a (X b) λe=>B (b.getD e 0) λf=>if d=f then Z (.inr a)else Q (a+1) λg=>L g else Z (.inl ())
def Xm(a:N J)(b:J):V J:=Y (zg (KN fu a b) fu (0:J)) λd=>match d with
 |.inl _=>Z (-1:J)
 |.inr e=>Z e
def vB(fu:K)(b:N J)(d:J):(J->V (Z4⊕J))->J->V (Z4⊕J):=λL a=>if a<(X b:J)then zD a (X b) λe=>B ((b.getD e 0)) λf=>if d=f then Z (.inr a)else Q (a+1) λg=>L g else Z (.inl ())
def qo(a:N J)(b:J):V (J×(N J)):=Y (zg (vB fu a b) fu (0:J)) λd=>match d with
 |.inl _=>Z<|((-1:J),a)
 |.inr e=>Z (e,a)
def Jr(a:N J)(b:J):V wW:=Y (Xm fu a b) λd=>if 0<=d then Z wF else Z I
def wb(b:N J)(d:J):V (wW×(N J)):=Y (qo fu b d) λ(e,a)=>if 0<=e then Z (wF,a)else Z (I,a)
def uc(a:N (N M)):(((N<|N M)×J×(N J))->V ((N<|N M)×(N J)))->((N<|N M)×J×(N J))->V ((N<|N M)×(N J)):=λL (d,b,e)=>Y ((if b<(X a:J)then Z ((a,(X a:J),wF))else Z ((a,(X a:J),I)):V ((N<|N M)×J×wW))) λ(f,p,i)=>if i then zD b (X f) λj=>B (f.getD j []) λg=>Y (wb fu e b) λ(k,h)=>if !k then ck ((X d+X ([g]))*24<=140737488355328)<|B (d++([g])) λl=>Q (b+1) λm=>L (l,m,h)else Q (b+1) λo=>L (d,o,h)else Z (d,e)
def xL(a:N (N M))(b:N J):V ((N<|N M)×(N J)):=Y (zg (uc fu a) fu<|([],(0:J),b)) λ(d,e)=>Z (d,e)
def qq(b:(wW×N K))(ys:N J)(y:N (wW×N K)×N (N<|wW×N K)×N (N<|wW×N K)):V (N J×((N (wW×N K)×N (N<|wW×N K)×N (N<|wW×N K))⊕(N (wW×N K)×N (N<|wW×N K)×N (N<|wW×N K)))):=Y (q9 fu y.1 y.2.1 ys b) λc=>Y (xR fu y.1 c.1) λq=>if q.2=0 then if 1<(X c.1:J)then ck ((X y.2.2+1)*24<=140737488355328)<|B (y.2.2++[c.1]) λpr=>Y (xL fu y.2.1 c.2) λw=>Z (w.2,.inr (q.1,w.1,pr))else Z (c.2,.inl y)else Z (c.2,.inl y)
def ZU(b:(wW×N K))(x:N (wW×N K)×N (N<|wW×N K)×N (N<|wW×N K)×J)(L:N (wW×N K)×N (N<|wW×N K)×N (N<|wW×N K)×J->V (N (wW×N K)×N (N<|wW×N K)×N (N<|wW×N K))):V (N (wW×N K)×N (N<|wW×N K)×N (N<|wW×N K)):=Q (2*x.2.2.2) λd=>if d<=(X x.2.1:J)then Y (wX fu x.2.2.2 (X x.2.1:J) (qq fu b) (x.1,x.2.1,x.2.2.1)) λr=>xfB (λy=>Q (x.2.2.2+1) λi=>L (y.1,y.2.1,y.2.2,i)) (λy=>L (y.1,y.2.1,y.2.2,x.2.2.2)) r else Z (x.1,x.2.1,x.2.2.1)
def Zz(f:N (wW×N K))(a:N (N<|wW×N K))(b:(wW×N K)):V (N<|N<|wW×N K):=Y (zg (λL x=>ZU fu b x L) fu (f,a,[],1)) λx=>if 1<(X x.1:J)then Y (xk fu x.1) λq=>ck ((X x.2.2+1)*24<=140737488355328)<|B (x.2.2++[q]) λpr=>Z pr else Z x.2.2
def cU(b:N M)(d:N M):(J->V (Z4⊕wW))->J->V (Z4⊕wW):=λL a=>if 0<=a then zD a (X b) λf=>B ((b.getD f (I,[]))) λg=>zD a (X d) λh=>B ((d.getD h (I,[]))) λi=>Y (jQ fu g i) λe=>if e=0 then Q (a-1) λj=>L j else if e<0 then Z (.inr wF)else Z (.inr I)else Z (.inl ())
def YD(d:N M)(e:N M):V wW:=Y (zM fu d) λa=>Y (zM fu e) λb=>if(X a:J)=(X b:J)then Q (((X a:J))-1) λf=>Y (zg (cU fu a b) fu f) λg=>match g with
 |.inl _=>Z I
 |.inr h=>Z h else if(X a:J)<(X b:J)then Z wF else Z I
def jA(a:N M)(b:N M):V J:=Y (YD fu a b) λd=>if d then Z (-1:J)else Y (YD fu b a) λe=>if e then Z (1:J)else Z (0:J)
def Wm(f:J)(g:M):((J×M×J×M)->V (J×M×M))->(J×M×J×M)->V (J×M×M):=λL (a,b,d,e)=>if d<f then Y (zF fu e g) λh=>Q (d+1) λi=>L (a,b,i,h)else Z (a,b,e)
def Kz(g:M)(d:J):((M×M×M)->V M)->(M×M×M)->V M:=λL (e,a,f)=>Y (vt fu a f) λh=>Y (KU fu h.2 (1:J)) λi=>Y (xg fu I i) λb=>Y (jQ fu b a) λj=>if j=0 then Z a else Y (zS fu (1:J)) λk=>Y (zg (Wm fu d b) fu<|(d,g,(0:J),k)) λ(p,l,m)=>Y (jQ fu m l) λo=>if o<=0 then L (e,b,f)else L (e,a,b)
def J8(b:M)(a:J):V (M×J):=if a<1 then Z (((I,[]),(1:J)))else if 64<a then Z (((I,[]),(1:J)))else Y (xv fu b) λe=>if e<0 then Z (((I,[]),(1:J)))else Y (zS fu (0:J)) λf=>Y (uR fu b.2) λg=>ck (a≠0)<|Q (xct g a) λh=>Q (h+1) λi=>B (min i (262144:J)) λj=>Y (X8 fu [(1:K)] j) λ(k,m)=>Y (xg fu I k) λl=>Y (zg (Kz fu b a) fu<|((I,[]),f,l)) λd=>Z<|(d,(0:J))
def Xi(b:N M):V J:=Y (zM fu b) λa=>if(X a:J)=0 then Z (8:J)else if 65<(X a:J)then Z (6:J)else Z (0:J)
def bJ(b:N M):((J×(N M)×M×M)->V ((N M)×M×M))->(J×(N M)×M×M)->V ((N M)×M×M):=λL (d,a,e,f)=>Y ((if d<(X b:J)then Z (((X b:J),wF))else Z (((X b:J),I)):V (J×wW))) λ(m,h)=>if h then zD d (X a) λi=>B ((a.getD i (I,[]))) λg=>Y (zF fu g g) λj=>Y (vt fu f j) λk=>Q (d+1) λl=>L (l,a,e,k)else Z (a,e,f)
def ve(a:N M):V (M×J):=Y (Xi fu a) λb=>if b=0 then Y (zM fu a) λd=>Y (zS fu (-1:J)) λe=>Y (zg (bJ fu d) fu<|((0:J),d,(I,[]),e)) λ(f,o,g)=>Y (J8 fu g (2:J)) λ(h,p)=>Y (zS fu (1:J)) λi=>Y (vt fu h i) λj=>Q (((X f:J))-1) λk=>Y (X8 fu j.2 k) λ(l,q)=>Y (vE fu (I,l)) λm=>Z ((m,(0:J)))else Z (((I,[]),b))
def VD(d:J)(e:M):((J×M)->V J)->(J×M)->V J:=λL (a,b)=>Y (jQ fu b e) λf=>if f<=0 then Y (zS fu d) λg=>Y (zF fu b g) λh=>Q (a+1) λi=>L (i,h)else Z a
def Wa(a:N M)(b:J):V J:=Y (ve fu a) λ(d,m)=>Y (zS fu (2:J)) λe=>Q (((X a:J))-1) λf=>zD f (X a) λg=>B (a.getD g (I,[])) λh=>Y (zF fu d h) λi=>Y (zF fu e i) λj=>Y (zS fu b) λk=>Y (zg (VD fu b j) fu<|((1:J),k)) λl=>Z l
def V8(a:N M):V wW:=Y (ve fu a) λ(b,k)=>Y (zS fu (2:J)) λd=>Q (((X a:J))-1) λe=>zD e (X a) λf=>B (a.getD f (I,[])) λg=>Y (zF fu b g) λh=>Y (zF fu d h) λi=>Y (uR fu i.2) λj=>if 1000<j then Z wF else Z I
def XO(fu:K)(b:N J)(d:N J):(J->V (Z4⊕J))->J->V (Z4⊕J):=λL a=>if 0<=a then zD a (X b) λe=>B (b.getD e 0) λf=>zD a (X d) λg=>B (d.getD g 0) λh=>if f<h then Z (.inr (-1:J))else zD a (X b) λi=>B (b.getD i 0) λj=>zD a (X d) λk=>B (d.getD k 0) λl=>if l<j then Z (.inr (1:J))else Q (a-1) λm=>L m else Z (.inl ())
def vk(a:N J)(b:N J):V J:=if(X a:J)=(X b:J)then Q (((X a:J))-1) λd=>Y (zg (XO fu a b) fu d) λe=>match e with
 |.inl _=>Z (0:J)
 |.inr f=>Z f else Q (((X a:J))-((X b:J))) λg=>Z g
def jv(fu:K)(a:N J)(b:J):V wW:=zD b (X a) λd=>B (a.getD d 0) λe=>if e=0 then Z I else Z wF
def ek(b:N J)(e:J):((J×(N J))->V (N J))->(J×(N J))->V (N J):=λL (a,d)=>if a<(X b:J)then zD a (X b) λf=>B (b.getD f 0) λg=>Y (u6 fu g e) λh=>zD a (X d) λi=>B (d.set i h) λj=>Q (a+1) λk=>L (k,j)else Z d
def YQ(a:N J)(d:J):V (N J):=jh ((X a:J)) λb=>ck (8*b<=281474976710656)<|B (xac b 0) λe=>Y (zg (ek fu a d) fu<|((0:J),e)) λf=>Z f
def da(fu:K)(a:N (N J)):(J->V (Z4⊕Z4))->J->V (Z4⊕Z4):=λL b=>Y ((if b<(X a:J)then Z ((a,a,(X a:J),wF))else Z ((a,a,(X a:J),I)):V ((N<|N J)×(N<|N J)×J×wW))) λ(d,e,l,g)=>if g then zD b (X e) λh=>B (e.getD h []) λf=>if 64<(X f:J)then Z (.inr ())else zD 0 (X d) λi=>B (d.getD i []) λj=>if(X f:J)=(X j:J)then Q (b+1) λk=>L k else Z (.inr ())else Z (.inl ())
def Xl(a:N (N J))(b:J):V J:=Y (w7 fu b) λd=>if d=0 then if 64<(X a:J)then Z (1:J)else Y (zg (da fu a) fu (0:J)) λe=>match e with
 |.inl _=>Z (0:J)
 |.inr _=>Z (1:J)else Z (1:J)
def vN(xss:N (N J))(ix:N K)(r:K)(a p:J)(lo n:K):V (N<|N J):=Y (zg (λL (x:((N (N J)×N K)×K×K)×(K×K)×K×J)=>if x.2.2.2<(n:J)then zD x.2.2.2 x.2.1.2 λj=>B (x.1.1.2.getD (x.2.1.1+j) 0) λq=>zD a (X (x.1.1.1.getD q [])) λj=>B ((x.1.1.1.getD q []).getD j 0) λy=>Y (zg (λL (z:((N (N J)×N K)×K×K)×(K×K)×K×K×K×J)=>if z.2.2.2.2.2<(X (x.1.1.1.getD x.2.2.1 []):J)then zD z.2.2.2.2.2 (X (z.1.1.1.getD z.2.2.2.1 [])) λj=>B ((z.1.1.1.getD z.2.2.2.1 []).getD j 0) λv=>zD z.2.2.2.2.2 (X (z.1.1.1.getD z.2.2.2.2.1 [])) λj=>B ((z.1.1.1.getD z.2.2.2.2.1 []).getD j 0) λu=>Q (p-y) λe=>Q (e*v) λe=>Q (u+e) λe=>ck (p≠0)<|B (xca e p) λe=>zD z.2.2.2.2.2 (X (z.1.1.1.getD z.2.2.2.2.1 [])) λj=>B (z.1.1.1.set z.2.2.2.2.1<|(z.1.1.1.getD z.2.2.2.2.1 []).set j e) λb=>Q (z.2.2.2.2.2+1) λi=>L (((b,z.1.1.2),z.1.2),z.2.1,z.2.2.1,z.2.2.2.1,z.2.2.2.2.1,i)else Z (z.1,z.2.1,z.2.2.1)) fu (x.1,x.2.1,x.2.2.1,x.2.2.1,q,0)) λz=>Q (x.2.2.2+1) λi=>L (z.1,z.2.1,z.2.2,i)else Z x.1) fu (((xss,ix),lo,n),(lo,n),r,0)) λx=>ck (x.2.1=lo/\x.2.2=n/\x.1.2=ix)<|some x.1.1
def vu(fu:K)(b:N (N J))(d:(N J)->V wW):(J->V (Z4⊕J))->J->V (Z4⊕J):=λL a=>if a<(X b:J)then zD a (X b) λe=>B (b.getD e []) λf=>Y (d f) λg=>if g then Z (.inr a)else Q (a+1) λh=>L h else Z (.inl ())
def yO(a:N (N J))(b:(N J)->V wW):V J:=Y (zg (vu fu a b) fu (0:J)) λd=>match d with
 |.inl _=>Z (-1:J)
 |.inr e=>Z e
def uU(g:N (N J))(p:J):V (N (N J)×J):=Y (Xl fu g p) λe=>if e=0 then Y (zg (λL (x:(N (N J)×N K)×J)=>if x.2<(X g:J)then zD x.2 (X g) λj=>B (g.getD j []) λy=>Y (YQ fu y p) λr=>ck ((X x.1.2+1)*24<=140737488355328)<|B (x.1.1++[r]) λl=>B (x.1.2++[X x.1.1]) λn=>Q (x.2+1) λi=>L ((l,n),i)else Z x.1) fu (([],[]),0)) λx=>Y (zg (λL (x:(N (N J)×N K)×J×J)=>if x.2.1<(X x.1.2:J)then zD 0 (X x.1.2) λj=>B (x.1.2.getD j 0) λr=>if x.2.2<(X (x.1.1.getD r []):J)then jh x.2.1 λj=>ck (j<=X x.1.2)<|Y (yO fu (xdB (X x.1.2-j)<|xdM j<|x.1.2.map λr=>x.1.1.getD r []) λz=>jv fu z x.2.2) λi=>if i<0 then Q (x.2.2+1) λc=>L (x.1,x.2.1,c)else Q (x.2.1+i) λa=>Q (x.2.1+i) λb=>zD b (X x.1.2) λj=>B (x.1.2.getD j 0) λd=>zD x.2.1 (X x.1.2) λj=>B (x.1.2.getD j 0) λf=>zD x.2.1 (X x.1.2) λj=>B (x.1.2.set j d) λix=>zD a (X ix) λj=>B (ix.set j f) λix=>zD x.2.1 (X ix) λj=>B (ix.getD j 0) λr=>zD x.2.2 (X (x.1.1.getD r [])) λj=>B ((x.1.1.getD r []).getD j 0) λy=>Y (Vk fu y p) λq=>zD x.2.1 (X ix) λj=>B (ix.getD j 0) λr=>Y (zg (λL (z:(N (N J)×N K)×K×J)=>if z.2.2<(X (x.1.1.getD r []):J)then zD z.2.2 (X (z.1.1.getD z.2.1 [])) λj=>B ((z.1.1.getD z.2.1 []).getD j 0) λy=>zD x.2.1 (X z.1.2) λj=>B (z.1.2.getD j 0) λr=>Q (y*q.1) λe=>ck (p≠0)<|B (xca e p) λe=>zD z.2.2 (X (z.1.1.getD r [])) λj=>B (z.1.1.set r<|(z.1.1.getD r []).set j e) λh=>Q (z.2.2+1) λi=>L ((h,z.1.2),z.2.1,i)else Z z.1) fu ((x.1.1,ix),r,0)) λm=>zD x.2.1 (X m.2) λj=>B (m.2.getD j 0) λr=>jh x.2.1 λj=>ck (j<=X m.2)<|Y (vN fu m.1 m.2 r x.2.2 p 0 j) λh=>zD x.2.1 (X m.2) λj=>B (m.2.getD j 0) λr=>Q (x.2.1+1) λe=>jh e λj=>ck (j<=X m.2)<|Y (vN fu h m.2 r x.2.2 p j<|X m.2-j) λh=>Q (x.2.1+1) λk=>Q (x.2.2+1) λc=>L ((h,m.2),k,c)else Z (x.1,x.2.1)else Z (x.1,x.2.1)) fu (x,0,0)) λx=>jh x.2 λj=>ck (j<=X (x.1.2.map λr=>x.1.1.getD r []))<|B (xdB j<|x.1.2.map λr=>x.1.1.getD r []) λys=>Z (ys,0)else Z ([],e)
def ZH(fu:K)(a:J):V wW:=if a=0 then Z I else Z wF
def wY(fu:K)(b:N J)(d:J->V wW):(J->V (Z4⊕J))->J->V (Z4⊕J):=λL a=>if a<(X b:J)then zD a (X b) λe=>B (b.getD e 0) λf=>Y (d f) λg=>if g then Z (.inr a)else Q (a+1) λh=>L h else Z (.inl ())
def xr(a:N J)(b:J->V wW):V J:=Y (zg (wY fu a b) fu (0:J)) λd=>match d with
 |.inl _=>Z (-1:J)
 |.inr e=>Z e
def Vg(a:N J):V J:=Y (xr fu a<|λc=>ZH fu c) λb=>Z b
def qN(a:N J)(b:J):V wW:=Y (Vg fu a) λd=>if d=b then Z wF else Z I
def xN(a:N (N J))(b:(N J)->V wW):V wW:=Y (yO fu a b) λd=>if 0<=d then Z wF else Z I
def Km(d:J)(i:J)(j:J)(a:N (N J))(k:J):((J×(N<|N J)×(N J))->V ((N<|N J)×(N J)))->(J×(N<|N J)×(N J))->V ((N<|N J)×(N J)):=λL (e,l,f)=>Y ((if e<(X a:J)then Z ((i,j,a,d,k,d,a,(X a:J),wF))else Z ((i,j,a,d,k,d,a,(X a:J),I)):V (J×J×(N<|N J)×J×J×J×(N<|N J)×J×wW))) λ(A,m,B,o,C,E,b,p,q)=>if q then zD e (X b) λr=>nm (b.getD r []) λg=>Y (Vg fu g) λs=>zD o (X g) λt=>nm (g.getD t 0) λu=>Q (0-u) λv=>Y (u6 fu v m) λw=>zD s (X f) λx=>nm (f.set x w) λh=>Q (e+1) λy=>L (y,l,h)else Z (l,f)
def gF(b:J)(h:J)(i:N (N J)):(((N<|N J)×J)->V (N<|N J))->((N<|N J)×J)->V (N<|N J):=λL (f,a)=>Y ((if a<b then Z (b,h,i,b,wF)else Z (b,h,i,b,I):V (J×J×(N<|N J)×J×wW))) λ(j,o,k,p,q)=>if q then Y (xN fu k<|λc=>qN fu c a) λr=>if r then Q (a+1) λs=>L (f,s)else jh j λl=>ck (8*l<=281474976710656)<|B (xac l 0) λm=>zD a (X m) λt=>B (m.set t (1:J)) λu=>Y (zg (Km fu a j o k p) fu<|((0:J),f,u)) λ(d,e)=>ck ((X d+X ([e]))*24<=140737488355328)<|B (d++([e])) λg=>Q (a+1) λv=>L (g,v)else Z f
def W5(a:N (N J))(b:J)(d:J):V ((N<|N J)×J):=Y ((Y (Xl fu a d) λf=>if f=0 then if b<0 then Z (.inr ())else if 64<b then Z (.inr ())else if 0<(X a:J)then zD 0 (X a) λg=>B (a.getD g []) λh=>if(X h:J)=b then Z (.inl ())else Z (.inr ())else Z (.inl ())else Z (.inr ()):V (Z4⊕Z4))) λi=>match i with
 |.inl _=>Y (uU fu a d) λ(j,k)=>Y (zg (gF fu b d j) fu<|([],(0:J))) λe=>Z<|(e,(0:J))
 |.inr _=>Z<|([],(1:J))
def jN(e:N J)(f:N J)(a:J):V ((N J)×(N J)×J):=Y (w7 fu a) λb=>if b=0 then Y (yb fu f a) λd=>if(X d:J)=0 then Z (([],[],(3:J)))else Y (yb fu e a) λg=>Y (xF fu g d a) λ(h,i)=>Z ((h,i,(0:J)))else Z ([],[],b)
def XZ(i:M)(d:J)(j:N J):(((N J)×(N J)×J)->V (N J))->((N J)×(N J)×J)->V (N J):=λL (e,f,a)=>if 0<=a then Y (wH fu e e d) λl=>Y (xF fu l j d) λ(m,b)=>ck ((64:J)≠0)<|Q (xct a (64:J)) λo=>zD o (X i.2) λp=>B (i.2.getD p 0) λq=>ck ((64:J)≠0)<|B (xca a (64:J)) λk=>ck (0<=k)<|B (q/2^(min (k:J).toNat 64)) λr=>B (r &&& ((1:K))) λs=>if(s:J)=(((1:K):K):J)then Y (wH fu b f d) λg=>Y (xF fu g j d) λ(t,h)=>Q (a-1) λu=>L (h,f,u)else Q (a-1) λv=>L (b,f,v)else Z e
def u7(f:N J)(d:M)(g:N J)(a:J):V ((N J)×J):=Y (w7 fu a) λh=>if h=0 then Y (xv fu d) λi=>if i<0 then Z (([],(1:J)))else Y (yb fu g a) λb=>if(X b:J)=0 then Z (([],(3:J)))else Y (xF fu [(1:J)] b a) λ(p,j)=>Y (yb fu f a) λk=>Y (xF fu k b a) λ(q,l)=>Y (uR fu d.2) λm=>Q (m-1) λo=>Y (zg (XZ fu d a b) fu (j,l,o)) λe=>Z ((e,(0:J)))else Z (([],(1:J)))
def Y4(f:N J)(p:J):V (N<|N J):=Q ((X f:J)-1) λn=>jh n λm=>ck (24*m<=281474976710656)<|B (xac m 0) λix=>Y (zg (λL (x:(N (N J)×N K)×J)=>if x.2<(X ix:J)then jh n λm=>ck (8*m<=281474976710656)<|B (xac m 0) λys=>zD x.2 (X x.1.2) λj=>B (x.1.1++[ys]) λxss=>B (x.1.2.set j (X x.1.1)) λix=>Q (x.2+1) λi=>L ((xss,ix),i)else Z x.1) fu (([[]],ix),0)) λx=>Y (zS fu p) λz=>Y (u7 fu [0,1] z f p) λq=>Y (zg (λL (x:(N (N J)×N K)×N J×N J×J)=>if x.2.2.2<n then Y (zg (λL (y:(N (N J)×N K)×J)=>if y.2<(X x.2.1:J)then zD y.2 (X x.2.1) λj=>B (x.2.1.getD j 0) λv=>zD y.2 (X y.1.2) λj=>B (y.1.2.getD j 0) λr=>zD x.2.2.2 (X (y.1.1.getD r [])) λj=>B (y.1.1.set r<|(y.1.1.getD r []).set j v) λa=>Q (y.2+1) λi=>L ((a,y.1.2),i)else Z y.1) fu (x.1,0)) λy=>zD x.2.2.2 (X y.2) λj=>B (y.2.getD j 0) λr=>zD x.2.2.2 (X (y.1.getD r [])) λj=>B ((y.1.getD r []).getD j 0) λv=>Q (v-1) λe=>zD x.2.2.2 (X (y.1.getD r [])) λj=>B (y.1.set r<|(y.1.getD r []).set j e) λa=>Y (jH fu x.2.1 x.2.2.1 p) λu=>Y (jN fu u.1 f p) λw=>Q (x.2.2.2+1) λi=>L ((a,y.2),w.2.1,x.2.2.1,i)else Z x.1) fu (x,[1],q.1,0)) λx=>Y (W5 fu (x.2.map λr=>x.1.getD r []) n p) λr=>Z r.1
def fi(a:N J)(b:N J)(d:J):V (N J):=Y (jN fu a b d) λ(e,f,g)=>Z e
def ax(a:N J)(b:N J)(d:J):V (N J):=Y (jO fu a b d) λ(e,f)=>Z e
def ZW(b:J)(a:N J)(d:J):V J:=if b<(X a:J)then zD b (X a) λe=>B (a.getD e 0) λf=>Y (u6 fu f d) λg=>Z g else Q (b-((X a:J))) λh=>Z h
def JS(d:N J)(e:N J)(a:J):V ((N J)×J):=Y (w7 fu a) λb=>if b=0 then Y (yb fu d a) λf=>Y (yb fu e a) λg=>Y (Yo fu f g (1:J) a) λh=>Z ((h,(0:J)))else Z ([],b)
def Qb(d:N J)(e:J)(f:N J)(a:J):V (N J):=Y (JS fu d [e] a) λ(b,l)=>if 2<a then Q (a-1) λg=>ck ((2:J)≠0)<|Q (xct g (2:J)) λh=>Y (zS fu h) λi=>Y (u7 fu b i f a) λ(j,m)=>Y (Vm fu j [(1:J)] a) λ(k,o)=>Z k else Z b
def VH(v:J)(w:xS J)(h:xS (xS J))(e:J)(k:xS J)(l:J)(i:J)(m:xS (xS J))(o:J)(j:xS J):(((xS<|xS J)×J)->V ((xS<|xS J)⊕(xS<|xS J)))->((xS<|xS J)×J)->V ((xS<|xS J)⊕(xS<|xS J)):=λL (a,d)=>if d<(X a:J)then if(X a:J)=(X h:J)then Z (.inl a)else Y (ZW fu i w v) λx=>zD d (X a) λy=>nm ((a.getD y [])) λA=>Y (Qb fu j x A e) λp=>zD d (X a) λB=>nm ((a.getD B [])) λq=>Y (ax fu p q e) λb=>Y ((if 1<(X b:J)then zD d (X a) λC=>nm ((a.getD C [])) λr=>if(X b:J)<(X r:J)then Z (h,e,k,i,j,m,o,l,wF)else Z (h,e,k,i,j,m,o,l,I)else Z (h,e,k,i,j,m,o,l,I):V ((xS<|xS J)×J×(xS J)×J×(xS J)×(xS<|xS J)×J×J×wW))) λ(E,s,G,P,H,c,Q,R,n)=>if n then zD d (X a) λK=>nm ((a.getD K [])) λt=>Y (fi fu t b s) λf=>ck ((X a+X ([f]))*24<=140737488355328)<|nm (a++([f])) λg=>zD d (X g) λM=>nm (g.set M b) λu=>ze (d+1) λN=>L (u,N)else ze (d+1) λz=>L (a,z)else Z (.inr a)
def VB(l:J)(m:N J)(j:J)(a:N (N J)):(((N<|N J)×J×(N J)×(N<|N J)×J)->V ((N<|N J)⊕((N<|N J)×J×(N J)×(N<|N J))))->((N<|N J)×J×(N J)×(N<|N J)×J)->V ((N<|N J)⊕((N<|N J)×J×(N J)×(N<|N J))):=λL (d,e,f,k,b)=>Y ((if b<(X a:J)then Z ((j,a,(X a:J),wF))else Z ((j,a,(X a:J),I)):V (J×(N<|N J)×J×wW))) λ(o,g,p,q)=>if q then zD b (X g) λr=>B (g.getD r []) λs=>Y (zg (VH fu l m d e f b o g p s) fu<|(k,(0:J))) λt=>match t with
 |.inl h=>Z (.inl h)
 |.inr i=>Q (b+1) λu=>L (d,e,f,i,u)else Z (.inr (d,e,f,k))
def VK(a:N (N J))(b:J)(d:N J):(((N<|N J)×J)->V (N<|N J))->((N<|N J)×J)->V (N<|N J):=λL (h,e)=>Q (b+((X d:J))) λj=>if e<j then jh (1:J) λi=>ck (i<=X a)<|B (a.drop i) λk=>Y (zg (VB fu b d e k) fu<|(a,b,d,h,(0:J))) λl=>match l with
 |.inl f=>Z f
 |.inr (m,o,p,g)=>Q (e+1) λq=>L (g,q)else Z h
def X9(b:N J)(d:N (N J))(e:J)(f:N J):V (N<|N J):=Y (zg (VK fu d e f) fu<|([b],(0:J))) λa=>Z a
def qW(e:N J)(b:J):V ((N J)×J):=Y (w7 fu b) λd=>if d=0 then Y (yb fu e b) λa=>if(X a:J)=0 then Z (([],(0:J)))else Q (((X a:J))-1) λf=>zD f (X a) λg=>B ((a.getD g 0)) λh=>Y (vU fu a h b) λi=>Z ((i,(0:J)))else Z ([],d)
def ae(d:N J)(e:J):V ((N J)×J):=Y (qW fu d e) λ(a,b)=>if b=0 then if(X a:J)=0 then Z (([],(8:J)))else if 65<(X a:J)then Z (([],(6:J)))else Z ((a,(0:J)))else Z ([],b)
def aK(fu:K)(f:J)(e:N J):(((N J)×J×(N J))->V (N J))->((N J)×J×(N J))->V (N J):=λL (b,a,d)=>Y ((if a<(X e:J)then Z ((f,(X e:J),wF))else Z ((f,(X e:J),I)):V (J×J×wW))) λ(g,q,i)=>if i then zD a (X d) λj=>B ((d.getD j 0)) λk=>if 0<a then ck (g≠0)<|B (xca a g) λl=>Q (l*k) λh=>ck ((X b+X ([h]))*8<=140737488355328)<|B (b++([h])) λm=>Q (a+1) λo=>L (m,o,d)else Q (a+1) λp=>L (b,p,d)else Z b
def Wq(e:N J)(a:J):V ((N J)×J):=Y (w7 fu a) λb=>if b=0 then Y (yb fu e a) λd=>Y (zg (aK fu a d) fu<|([],(0:J),d)) λf=>Y (yb fu f a) λg=>Z ((g,(0:J)))else Z ([],b)
def Qx(d:N J)(e:J):V ((N J)×J):=Y (qW fu d e) λ(a,b)=>if b=0 then if(X a:J)=0 then Z (([],(8:J)))else Z (a,b)else Z (a,b)
def Yw(e:N J)(a:J):V (wW×J):=Y (Qx fu e a) λ(b,d)=>if d=0 then Y (Wq fu b a) λ(f,h)=>Y (jO fu b f a) λ(g,i)=>if(X g:J)=1 then Z ((wF,(0:J)))else Z ((I,(0:J)))else Z (I,d)
def kK(e:N J)(a:J):V ((N J)×J):=Y (ae fu e a) λ(b,d)=>if d=0 then Y (Yw fu b a) λ(f,g)=>if !f then Z (([],(1:J)))else Z ((b,(0:J)))else Z ([],d)
def kt(a:K):V J:=Y (xO fu a) λb=>Z b
def uG(fu:K)(g:(N J)->(N J)->V J):((J×J×J×(N<|N J))->V (J×J×(N<|N J)))->(J×J×J×(N<|N J))->V (J×J×(N<|N J)):=λL (d,e,b,a)=>if d<b then zD b (X a) λh=>B ((a.getD h [])) λi=>Q (b-1) λj=>zD j (X a) λk=>B ((a.getD k [])) λl=>Y (g i l) λm=>if m<0 then Q (b-1) λo=>Q (b-1) λp=>zD p (X a) λq=>B ((a.getD q [])) λr=>zD b (X a) λs=>B ((a.getD s [])) λt=>zD b (X a) λu=>B (a.set u r) λf=>zD o (X f) λv=>B (f.set v t) λw=>Q (b-1) λx=>L (d,e,x,w)else Z (d,e,a)else Z (d,e,a)
def uw(e:J)(b:J)(f:(N J)->(N J)->V J):((J×(N<|N J))->V (N<|N J))->(J×(N<|N J))->V (N<|N J):=λL (a,d)=>if a<b then Y (zg (uG fu f) fu (e,b,a,d)) λ(i,j,g)=>Q (a+1) λh=>L (h,g)else Z d
def vz(d:N (N J))(b:J)(e:J)(f:(N J)->(N J)->V J):V (N<|N J):=Q (b+1) λg=>Y (zg (uw fu b e f) fu (g,d)) λa=>Z a
def qw(d:(N J)->(N J)->V J):((J×J×J×(N<|N J))->V (N<|N J))->(J×J×J×(N<|N J))->V (N<|N J):=λL (a,b,e,f)=>Q (b-a) λg=>if g<=12 then Y (vz fu f a b d) λh=>Z h else if e=0 then wL else wL
def jk:K->(N<|N J)->J->J->J->((N J)->(N J)->V J)->V (N<|N J)
 |0,_,_,_,_,_=>wL
 |fu+1,a,b,d,e,f=>Y (zg (qw fu f) fu (b,d,e,a)) λg=>Z g
def xZ(a:N (N J))(b:(N J)->(N J)->V J):V (N<|N J):=B (DE<|(X a:J)) λd=>Y (kt fu d) λe=>Y (jk fu a (0:J) ((X a:J)) e b) λf=>Z f
def Xk(g:N J)(a:J)(b:N J):V ((N<|N J)×J):=Y (kK fu g a) λ(d,e)=>if e=0 then if(X d:J)=1 then Z ([],e)else Y (Y4 fu d a) λh=>B (min ((X b:J)) (64:J)) λi=>jh i λf=>ck (f<=X b)<|B (b.take f) λj=>Y (X9 fu d h a j) λk=>Y (xZ fu k<|λc m=>vk fu c m) λl=>Z ((l,(0:J)))else Z ([],e)
def Q4:(J->V J)->J->V J:=λL a=>Y (uq fu a) λb=>if !b then Q (a+1) λd=>L d else Z a
def wB(a:J):V (J×J):=if 65521<=a then Z (((0:J),(5:J)))else B (max a (1:J)) λb=>Q (b+1) λd=>Y (zg (Q4 fu) fu d) λe=>Z<|(e,(0:J))
def Qn(a:N M)(b:J):V (wW×J):=Y (ve fu a) λ(i,d)=>if d=0 then Y (uq fu b) λf=>if !f then Z ((I,(0:J)))else Y (uO fu a b) λ(e,j)=>Y (zM fu a) λg=>if(X e:J)=(X g:J)then Y (Yw fu e b) λ(h,k)=>Z ((h,(0:J)))else Z ((I,(0:J)))else Z (I,d)
def QL(m:N M)(o:N J):((J×J×(N<|N J)×J×J)->V (J×(N<|N J)))->(J×J×(N<|N J)×J×J)->V (J×(N<|N J)):=λL (b,e,d,a,p)=>if p=0 then if e<5 then Y (Qn fu m a) λ(q,v)=>if !q then Y (wB fu a) λ(r,s)=>L (b,e,d,r,s)else Q (e+1) λf=>Y (uO fu m a) λ(t,w)=>Y (Xk fu t a o) λ(g,x)=>if b=0 then Y (wB fu a) λ(u,h)=>L (a,f,g,u,h)else if(X g:J)<(X d:J)then Y (wB fu a) λ(i,j)=>L (a,f,g,i,j)else Y (wB fu a) λ(k,l)=>L (b,f,d,k,l)else Z (b,d)else Z (b,d)
def V7(a:N M)(b:N J):V (J×(N<|N J)):=Y (wB fu (1:J)) λ(d,e)=>Y (zg (QL fu a b) fu<|((0:J),(0:J),[],d,e)) λ(f,g)=>Z (f,g)
def sR(a:J):((J×M×M)->V (M×M))->(J×M×M)->V (M×M):=λL (b,d,e)=>Y ((if b<a then Z (a,a,wF)else Z (a,a,I):V (J×J×wW))) λ(f,q,g)=>if g then Q (f+b) λh=>Q (h+1) λi=>Y (zS fu i) λj=>Y (zF fu e j) λk=>Q (b+1) λl=>Y (zS fu l) λm=>Y (xY fu k m) λ(o,r)=>Q (b+1) λp=>L (p,d,o)else Z (d,e)
def cd(a:J):V M:=Y (zS fu (1:J)) λb=>Y (zg (sR fu a) fu<|((0:J),(I,[]),b)) λ(e,d)=>Z d
def tZ:((J×M×M)->V M)->(J×M×M)->V M:=λL (b,a,d)=>if 0<b then B (SV b (1:J)) λe=>if e=1 then Y (zF fu d a) λf=>Y (zF fu a a) λg=>B (xfV b<|2^(min (((1:K)):J).toNat 64)) λh=>L (h,g,f)else Y (zF fu a a) λi=>B (xfV b<|2^(min (((1:K)):J).toNat 64)) λj=>L (j,i,d)else Z d
def ZF(a:M)(b:J):V M:=Y (zS fu (1:J)) λd=>Y (zg (tZ fu) fu (b,a,d)) λe=>Z e
def tX(a:N M)(d:N M):((J×M×M)->V (M×M))->(J×M×M)->V (M×M):=λL (b,e,f)=>Y ((if b<(X a:J)then Z ((d,a,(X a:J),wF))else Z ((d,a,(X a:J),I)):V ((N M)×(N M)×J×wW))) λ(g,h,r,i)=>if i then zD b (X h) λj=>B (h.getD j (I,[])) λk=>zD b (X g) λl=>B (g.getD l (I,[])) λm=>Y (zF fu k m) λo=>Y (vt fu f o) λp=>Q (b+1) λq=>L (q,e,p)else Z (e,f)
def gx(a:N M)(b:N M):V M:=Y (zS fu (0:J)) λd=>Y (zg (tX fu a b) fu<|((0:J),(I,[]),d)) λ(f,e)=>Z e
def gA(a:N M)(b:N M):V (M×J):=if(X a:J)=(X b:J)then Y (gx fu a b) λd=>Z ((d,(0:J)))else Z (((I,[]),(1:J)))
def bH(a:N M):V M:=Y (gA fu a a) λ(b,d)=>Z b
end
end
section
set_option maxRecDepth 100000
section
variable(fu:wr)
def CN(f:M)(a:M):((J×M)->V (Z4⊕J))->(J×M)->V (Z4⊕J):=λL (b,e)=>if b<=1000 then Y (jQ fu e f) λg=>if 0<g then Z (.inr b)else Y (zF fu e a) λd=>Q (b+1) λh=>L (h,d)else Z (.inl ())
def mx(g:N M)(h:J)(d:J):V (J×J):=Y (ve fu g) λ(A,i)=>if i=0 then Y (xk fu g) λj=>Q (((X j:J))-1) λa=>Y (uq fu h) λk=>if !k then Z (((0:J),(1:J)))else if d<1 then Z (((0:J),(1:J)))else if a<d then Z (((0:J),(1:J)))else Q (a-1) λe=>Y (zS fu (2:J)) λl=>Q (e*a) λm=>Y (ZF fu l m) λo=>Y (cd fu e) λp=>Y (ZF fu p a) λq=>Y (bH fu j) λr=>Q (e+a) λs=>Y (ZF fu r s) λt=>Y (zF fu q t) λu=>Y (zF fu o u) λv=>Y (zS fu h) λf=>Q ((2:J)*d) λw=>Y (ZF fu f w) λb=>Y (zg (CN fu v b) fu<|((1:J),b)) λx=>match x with
 |.inl _=>Z<|((0:J),(6:J))
 |.inr y=>Z ((y,(0:J)))else Z (((0:J),i))
def tU(a:N J)(b:N J)(d:J):V wW:=Y (jN fu b a d) λ(f,e,g)=>if(X e:J)=0 then Z wF else Z I
def Vn(e:J):(((N M)×(N<|N J))->V ((N M)×(N<|N J)))->((N M)×(N<|N J))->V ((N M)×(N<|N J)):=λL (b,a)=>if 12<(X a:J)then zD 0 (X a) λf=>B (a.getD f []) λg=>Q (((X g:J))-1) λh=>Y (mx fu b e h) λ(i,j)=>if j=0 then Y (qT fu b a e i) λ(d,l)=>if(X d:J)=0 then Z (b,a)else zD 0 (X d) λk=>B ((d.getD k [])) λm=>wL else Z (b,a)else Z (b,a)
def Wu(a:N M)(b:N (N J))(d:J):V ((N<|N M)×(N M)×(N<|N J)):=Y (zg (Vn fu d) fu (a,b)) λ(e,f)=>Z ([],e,f)
def j8(fu:K)(g:(N M)->(N M)->V J):((J×J×J×(N<|N M))->V (J×J×(N<|N M)))->(J×J×J×(N<|N M))->V (J×J×(N<|N M)):=λL (d,e,b,a)=>if d<b then zD b (X a) λh=>B ((a.getD h [])) λi=>Q (b-1) λj=>zD j (X a) λk=>B ((a.getD k [])) λl=>Y (g i l) λm=>if m<0 then Q (b-1) λo=>Q (b-1) λp=>zD p (X a) λq=>B ((a.getD q [])) λr=>zD b (X a) λs=>B ((a.getD s [])) λt=>zD b (X a) λu=>B (a.set u r) λf=>zD o (X f) λv=>B (f.set v t) λw=>Q (b-1) λx=>L (d,e,x,w)else Z (d,e,a)else Z (d,e,a)
def jT(e:J)(b:J)(f:(N M)->(N M)->V J):((J×(N<|N M))->V (N<|N M))->(J×(N<|N M))->V (N<|N M):=λL (a,d)=>if a<b then Y (zg (j8 fu f) fu (e,b,a,d)) λ(i,j,g)=>Q (a+1) λh=>L (h,g)else Z d
def wQ(d:N (N M))(b:J)(e:J)(f:(N M)->(N M)->V J):V (N<|N M):=Q (b+1) λg=>Y (zg (jT fu b e f) fu (g,d)) λa=>Z a
def vA(d:(N M)->(N M)->V J):((J×J×J×(N<|N M))->V (N<|N M))->(J×J×J×(N<|N M))->V (N<|N M):=λL (a,b,e,f)=>Q (b-a) λg=>if g<=12 then Y (wQ fu f a b d) λh=>Z h else if e=0 then wL else wL
def vV:K->(N<|N M)->J->J->J->((N M)->(N M)->V J)->V (N<|N M)
 |0,_,_,_,_,_=>wL
 |fu+1,a,b,d,e,f=>Y (zg (vA fu f) fu (b,d,e,a)) λg=>Z g
def yC(a:N (N M))(b:(N M)->(N M)->V J):V (N<|N M):=B (DE<|(X a:J)) λd=>Y (kt fu d) λe=>Y (vV fu a (0:J) ((X a:J)) e b) λf=>Z f
def Qc(a:N M)(h:N J):V ((N<|N M)×wW):=if(X a:J)<2 then Z ([],wF)else Y (V8 fu a) λi=>if i then Z ([],I)else Y (V7 fu a h) λ(b,j)=>if b=0 then Z ([],I)else Y (Wa fu a b) λf=>Y (v7 fu b f) λ(k,r)=>Y (Wu fu a j b) λ(d,e,l)=>if 1<(X e:J)then Y (qT fu e l b f) λ(m,s)=>Y (Zz fu e m k) λg=>ck ((X d+X g)*24<=140737488355328)<|B (d++g) λo=>Y (yC fu o<|λc n=>jA fu c n) λp=>Z (p,wF)else Y (yC fu d<|λc n=>jA fu c n) λq=>Z (q,wF)
def oh:(((N M)×(N M))->V (N M))->((N M)×(N M))->V (N M):=λL (b,a)=>if 0<(X a:J)then Y (kI fu b a) λ(f,d,g)=>Y (xk fu d) λe=>L (a,e)else Z b
def XH(a:N M)(b:N M):V (N M):=Y (x9 fu a) λd=>Y (x9 fu b) λe=>Y (XP fu d e) λf=>Y (xk fu a) λg=>Y (xk fu b) λh=>Y (zg (oh fu) fu (g,h)) λi=>Y (vI fu i f) λj=>Z j
def Vo(a:J)(b:M):V M:=Y (zS fu a) λd=>Y (zF fu b d) λe=>Z e
def Wy(d:N M):V (N M):=Y (zH fu d<|λc h=>Vo fu c h) λa=>B (min ((X a:J)) (1:J)) λe=>jh e λb=>ck (b<=X a)<|B (a.drop b) λf=>Y (zM fu f) λg=>Z g
def rV(a:N M)(b:N M):V (N M):=Y (xR fu a b) λ(d,e)=>Z d
def xU(b:N M):V ((N M)×J):=Y (Xi fu b) λd=>if d=0 then Y (xk fu b) λa=>Y (Wy fu a) λe=>Y (XH fu a e) λf=>Y (rV fu a f) λg=>Z ((g,(0:J)))else Z ([],d)
def X3(g:N M)(a:N (N M)):(((N<|(N M)×J)×J×M×(N<|N M))->V ((N<|(N M)×J)×M))->((N<|(N M)×J)×J×M×(N<|N M))->V ((N<|(N M)×J)×M):=λL (b,d,h,e)=>Y ((if d<(X a:J)then Z ((g,(X a:J),wF))else Z ((g,(X a:J),I)):V ((N M)×J×wW))) λ(j,p,k)=>if k then zD d (X e) λl=>B ((e.getD l [])) λf=>Y (YE fu j f) λi=>ck ((X b+X ([(f,i)]))*32<=140737488355328)<|B (b++([(f,i)])) λm=>Q (d+1) λo=>L (m,o,h,e)else Z (b,h)
def xc(a:N M)(e:N J):V (M×(N<|(N M)×J)×J):=Y (xU fu a) λ(f,b)=>if b=0 then Y (Qc fu f e) λ(d,g)=>if !g then Z (((I,[]),[],(6:J)))else Y (zg (X3 fu a d) fu<|([],(0:J),(I,[]),d)) λ(h,i)=>Y (x9 fu a) λj=>Z ((j,h,(0:J)))else Z (((I,[]),[],b))
def vX(d:N M):V (wW×J):=Y (xc fu d []) λ(g,b,a)=>if a=0 then if(X b:J)=1 then zD 0 (X b) λe=>B (((b.getD e ([],0))).2) λf=>if f=1 then Z (wF,a)else Z (I,a)else Z (I,a)else Z (I,a)
def KB(a:N M):((J×(((N M)×(N<|M×(N K)))×(N<|M×(N K))))->V (((N M)×(N<|M×(N K)))×(N<|M×(N K))))->(J×(((N M)×(N<|M×(N K)))×(N<|M×(N K))))->V (((N M)×(N<|M×(N K)))×(N<|M×(N K))):=λL (d,b)=>Y ((if d<(X a:J)then Z ((a,a,(X a:J),wF))else Z ((a,a,(X a:J),I)):V ((N M)×(N M)×J×wW))) λ(e,f,q,h)=>if h then zD d (X f) λi=>B (f.getD i (I,[])) λj=>Q (((X e:J))-1) λk=>zD k (X e) λl=>B (e.getD l (I,[])) λm=>Y (Z6 fu j m) λ(g,r)=>ck ((X b.2+X ([g]))*56<=140737488355328)<|B (b.2++([g])) λo=>Q (d+1) λp=>L ((p,(b.1,o)))else Z (b.1,b.2)
def jG(d:N M):V ((V<|(N M)×(N<|M×(N K)))×J):=Y (xk fu d) λa=>if 17<(X a:J)then Z (((wL:V ((N M)×(N<|M×(N K)))),(6:J)))else if(X a:J)<2 then Z (((wL:V ((N M)×(N<|M×(N K)))),(7:J)))else Y (vX fu a) λ(e,f)=>if f=0 then if !e then Z (((wL:V ((N M)×(N<|M×(N K)))),(7:J)))else Y (zg (KB fu a) fu<|((0:J),((a,[]),([]:N (M×(N K)))))) λb=>Z (((Z (b.1.1,b.2)),(0:J)))else Z (((wL:V ((N M)×(N<|M×(N K)))),(6:J)))
def Xp(fu:K):((J×J×(N K))->V (N K))->(J×J×(N K))->V (N K):=λL (b,d,a)=>if b<d then zD d (X a) λf=>B ((a.getD f 0)) λg=>zD b (X a) λh=>B ((a.getD h 0)) λi=>zD b (X a) λj=>B (a.set j g) λe=>zD d (X e) λk=>B (e.set k i) λl=>Q (b+1) λm=>Q (d-1) λo=>L (m,o,l)else Z a
def jM(a:N K):V (N K):=Q (((X a:J))-1) λb=>Y (zg (Xp fu) fu<|((0:J),b,a)) λd=>Z d
def DQ(fu:K)(f:wW):((K×(N K))->V (N K))->(K×(N K))->V (N K):=λL (b,a)=>if(((0:K):K):J)<(b:J)then ck ((10:K)≠0)<|B (b%((10:K))) λg=>B ((((48:K))+g)%18446744073709551616) λh=>B (h%256) λd=>ck ((X a+X ([d]))*1<=140737488355328)<|B (a++([d])) λi=>ck ((10:K)≠0)<|B (b/((10:K))) λj=>L (j,i)else if f then if(X a:J)<19 then ck ((10:K)≠0)<|B (b%((10:K))) λk=>B ((((48:K))+k)%18446744073709551616) λl=>B (l%256) λe=>ck ((X a+X ([e]))*1<=140737488355328)<|B (a++([e])) λm=>ck ((10:K)≠0)<|B (b/((10:K))) λo=>L (o,m)else Z a else Z a
def U3(a:K)(b:wW):V (N K):=Y (zg (DQ fu b) fu (a,[])) λd=>Y (jM fu d) λe=>Z e
def Zx(fu:K):((J×J×(N<|N K))->V (N<|N K))->(J×J×(N<|N K))->V (N<|N K):=λL (b,d,a)=>if b<d then zD d (X a) λf=>B ((a.getD f [])) λg=>zD b (X a) λh=>B ((a.getD h [])) λi=>zD b (X a) λj=>B (a.set j g) λe=>zD d (X e) λk=>B (e.set k i) λl=>Q (b+1) λm=>Q (d-1) λo=>L (m,o,l)else Z a
def qh(a:N (N K)):V (N<|N K):=Q (((X a:J))-1) λb=>Y (zg (Zx fu) fu<|((0:J),b,a)) λd=>Z d
def du(fu:K)(a:N (N K))(b:N K):V (N K):=ck (X a<=140737488355328)<|ck (X (b.intercalate a)<=140737488355328)<|some (b.intercalate a)
def HA:(((N K)×(N<|N K))->V (N<|N K))->((N K)×(N<|N K))->V (N<|N K):=λL (d,a)=>if 0<(X d:J)then Y (Vc fu d (10000000000000000000:K)) λ(b,e)=>if 0<(X b:J)then Y (U3 fu e wF) λf=>ck ((X a+X ([f]))*16<=140737488355328)<|B (a++([f])) λh=>L (b,h)else Y (U3 fu e I) λg=>ck ((X a+X ([g]))*16<=140737488355328)<|B (a++([g])) λi=>L (b,i)else Z a
def aq(e:N K):V (N K):=Y (wx fu e) λf=>Y (zg (HA fu) fu (f,[])) λd=>if(X d:J)=0 then Z [48]else Y (qh fu d) λa=>Y (du fu a []) λb=>Z b
def tI(b:M×(N K)):V (M×wW):=Y (wV fu b) λa=>Y (XU fu a.2 [(1:K)]) λd=>if d=0 then Z (a.1,wF)else Z (((I,[]),I))
def cL(a:M):V (N K):=Y (xv fu a) λd=>if d<0 then Y (aq fu a.2) λb=>ck (X ([45])+X b<=9223372036854775807)<|B (([45])++b) λe=>Z e else Y (aq fu a.2) λf=>Z f
def Dt(a:M×(N K)):V (N K):=Y (tI fu a) λ(g,h)=>if h then Y (cL fu g) λi=>Z i else Y (wV fu a) λb=>Y (cL fu b.1) λd=>ck (X d+X ([47])<=9223372036854775807)<|B (d++([47])) λe=>Y (aq fu b.2) λf=>ck (X e+X f<=9223372036854775807)<|B (e++f) λj=>Z j
def Kx:V wW:=Y (QI fu [(-2:J),(0:J),(1:J)]) λe=>Y (jG fu e) λ(a,f)=>if f=0 then if(a).isNone=wF then Z I else Y (Xh fu (1:J)) λb=>Y (Xh fu (1:J)) λd=>Y (JB fu a [b,d]) λ(g,h)=>Y (WO fu a [b,d]) λ(i,j)=>if h=0 then Y (Xh fu (-1:J)) λk=>Y (Xh fu (1:J)) λl=>Y (nN fu g [k,l]) λm=>if m then if j=0 then Y (Dt fu i) λo=>if o=[45,49]then Z wF else Z I else Z I else Z I else Z I else Z I
def KG(fu:K)(a:N M):(J->V (Z4⊕Z4))->J->V (Z4⊕Z4):=λL b=>if b<(X a:J)then zD b (X a) λe=>B (a.getD e (I,[])) λf=>if 1<(X f.2:J)then Z (.inr ())else zD b (X a) λg=>B (a.getD g (I,[])) λh=>if(X h.2:J)=1 then zD b (X a) λi=>B (a.getD i (I,[])) λd=>zD 0 (X d.2) λj=>B (d.2.getD j 0) λk=>if(((1000:K):K):J)<(k:J)then Z (.inr ())else Q (b+1) λl=>L l else Q (b+1) λm=>L m else Z (.inl ())
def J1(a:N M):V wW:=if 5<(X a:J)then Z I else Y (zg (KG fu a) fu (0:J)) λb=>match b with
 |.inl _=>Z wF
 |.inr _=>Z I
def dp(fu:K)(b:N K):(J->V J)->J->V J:=λL a=>if 0<a then Q (a-1) λd=>zD d (X b) λe=>B (b.getD e 0) λf=>if(f:J)=(((0:K):K):J)then Q (a-1) λg=>L g else Z a else Z a
def Xb(a:N K):V (N K):=Y (zg (dp fu a) fu<|(X a:J)) λe=>jh e λb=>ck (b<=X a)<|B (a.take b) λd=>ck ((X (([]:N K))+X d)*8<=140737488355328)<|B ((([]:N K))++d) λf=>Z f
def yX(b:M):V M:=Y (Xb fu b.2) λa=>if b.1=wF then if 0<(X a:J)then Z (wF,a)else Z (I,a)else Z (I,a)
def Vf(a:M):V M:=Y (yX fu (I,a.2)) λb=>Z b
def vY(fu:K)(a:N K)(b:J):V K:=if b<(X a:J)then zD b (X a) λd=>B (a.getD d 0) λe=>Z e else Z (0:K)
def gZ(fu:K)(b:N K):(J->V J)->J->V J:=λL a=>if 0<a then Q (a-1) λd=>zD d (X b) λe=>B (b.getD e 0) λf=>if(f:J)=(((0:K):K):J)then Q (a-1) λg=>L g else Z a else Z a
def Ym(a:N K):V (N K):=Y (zg (gZ fu a) fu<|(X a:J)) λd=>jh d λb=>ck (b<=X a)<|B (a.take b) λe=>Z e
def XL(fu:K)(a:N K):(((N K)×J)->V (N K))->((N K)×J)->V (N K):=λL (d,b)=>if b<(X a:J)then zD b (X a) λg=>B (a.getD g 0) λh=>B (h &&& ((4294967295:K))) λe=>zD b (X a) λi=>B (a.getD i 0) λj=>B (j/2^(min (((32:K)):J).toNat 64)) λf=>ck ((X d+X ([e,f]))*8<=140737488355328)<|B (d++([e,f])) λk=>Q (b+1) λl=>L (k,l)else Z d
def xy(a:N K):V (N K):=Y (zg (XL fu a) fu<|([],(0:J))) λb=>Y (Ym fu b) λd=>Z d
def Vx(fu:K)(a:N K):(((N K)×J)->V (N K))->((N K)×J)->V (N K):=λL (d,b)=>if b<(X a:J)then zD b (X a) λg=>B (a.getD g 0) λe=>Q (b+1) λh=>if h<(X a:J)then Q (b+1) λi=>zD i (X a) λj=>B (a.getD j 0) λk=>B (k*2^(min (((32:K)):J).toNat 64)%18446744073709551616) λl=>B ((e+l)%18446744073709551616) λf=>ck ((X d+X ([f]))*8<=140737488355328)<|B (d++([f])) λm=>Q (b+2) λo=>L (m,o)else ck ((X d+X ([e]))*8<=140737488355328)<|B (d++([e])) λp=>Q (b+2) λq=>L (p,q)else Z d
def vK(a:N K):V (N K):=Y (zg (Vx fu a) fu<|([],(0:J))) λb=>Y (Xb fu b) λd=>Z d
def gB(d:N K)(e:N K):(((N K)×K×J)->V (N K))->((N K)×K×J)->V (N K):=λL (b,h,a)=>B (max ((X d:J))<|(X e:J)) λi=>Q (i+1) λj=>if a<j then Y (vY fu d a) λk=>Y (vY fu e a) λl=>B ((k+l)%18446744073709551616) λm=>B ((m+h)%18446744073709551616) λf=>B (f &&& ((4294967295:K))) λg=>ck ((X b+X ([g]))*8<=140737488355328)<|B (b++([g])) λo=>B (f/2^(min (((32:K)):J).toNat 64)) λp=>Q (a+1) λq=>L (o,p,q)else Z b
def WH(a:N K)(b:N K):V (N K):=Y (xy fu a) λd=>Y (xy fu b) λe=>Y (zg (gB fu d e) fu<|([],(0:K),(0:J))) λf=>Y (vK fu f) λg=>Z g
def YL(b:N K)(d:N K):(J->V (Z4⊕J))->J->V (Z4⊕J):=λL a=>if 0<=a then Y (vY fu b a) λe=>Y (vY fu d a) λf=>if(e:J)<(f:J)then Z (.inr (-1:J))else Y (vY fu b a) λg=>Y (vY fu d a) λh=>if(h:J)<(g:J)then Z (.inr (1:J))else Q (a-1) λi=>L i else Z (.inl ())
def ku(a:N K)(b:N K):V J:=B (max ((X a:J))<|(X b:J)) λd=>Q (d-1) λe=>Y (zg (YL fu a b) fu e) λf=>match f with
 |.inl _=>Z (0:J)
 |.inr g=>Z g
def Jm(d:N K)(g:N K):(((N K)×K×J)->V (N K))->((N K)×K×J)->V (N K):=λL (b,h,a)=>if a<(X d:J)then Y (vY fu d a) λi=>B ((i+((4294967296:K)))%18446744073709551616) λj=>Y (vY fu g a) λk=>B ((j+18446744073709551616-k)%18446744073709551616) λl=>B ((l+18446744073709551616-h)%18446744073709551616) λe=>B (e &&& ((4294967295:K))) λf=>ck ((X b+X ([f]))*8<=140737488355328)<|B (b++([f])) λm=>B (e/2^(min (((32:K)):J).toNat 64)) λo=>B ((((1:K))+18446744073709551616-o)%18446744073709551616) λp=>Q (a+1) λq=>L (m,p,q)else Z b
def YO(a:N K)(b:N K):V (N K):=Y (zg (Jm fu a b) fu<|([],(0:K),(0:J))) λd=>Y (Ym fu d) λe=>Z e
def Ki(fu:K)(a:N K):(((N K)×(N K)×(N K)×K×J)->V ((N K)×(N K)×(N K)×K))->((N K)×(N K)×(N K)×K×J)->V ((N K)×(N K)×(N K)×K):=λL (e,f,d,g,b)=>if b<(X a:J)then zD b (X a) λi=>B (a.getD i 0) λj=>B ((j*((2:K)))%18446744073709551616) λk=>B ((k+g)%18446744073709551616) λl=>B (l &&& ((4294967295:K))) λh=>ck ((X d+X ([h]))*8<=140737488355328)<|B (d++([h])) λm=>zD b (X a) λo=>B (a.getD o 0) λp=>B (p/2^(min (((31:K)):J).toNat 64)) λq=>Q (b+1) λr=>L (e,f,m,q,r)else Z (e,f,d,g)
def Kl(r:N K)(g:N K):(((N K)×J×(N K))->V ((N K)×(N K)))->((N K)×J×(N K))->V ((N K)×(N K)):=λL (m,a,d)=>if 0<=a then ck ((32:J)≠0)<|Q (xct a (32:J)) λs=>zD s (X g) λt=>nm (g.getD t 0) λu=>ck ((32:J)≠0)<|nm (xca a (32:J)) λo=>ck (0<=o)<|nm (u/2^(min (o:J).toNat 64)) λv=>nm (v &&& ((1:K))) λw=>Y (zg (Ki fu m) fu<|(r,g,[],w,(0:J))) λ(e,x,f,p)=>ck ((X f+X ([p]))*8<=140737488355328)<|nm (f++([p])) λh=>Y (Ym fu h) λb=>Y ((Y (ku fu b e) λy=>if 0<=y then Z wF else Z I:V wW)) λA=>if A then Y (YO fu b e) λi=>ck ((32:J)≠0)<|Q (xct a (32:J)) λB=>ck ((32:J)≠0)<|Q (xct a (32:J)) λC=>zD C (X d) λE=>nm ((d.getD E 0)) λG=>ck ((32:J)≠0)<|nm (xca a (32:J)) λq=>ck (0<=q)<|nm (((1:K))*2^(min (q:J).toNat 64)%18446744073709551616) λm8=>nm (G|||m8) λH=>zD B (X d) λc=>nm (d.set c H) λj=>Q (a-1) λk=>L (i,k,j)else Q (a-1) λl=>L (b,l,d)else Z (m,d)
def J6(i:N K)(j:N K):V ((N K)×(N K)×J):=Y (xy fu j) λg=>if(X g:J)=0 then Z (([],[],(3:J)))else Y (xy fu i) λa=>jh ((X a:J)) λh=>ck (8*h<=281474976710656)<|B (xac h 0) λk=>Q ((32:J)*((X a:J))) λl=>Q (l-1) λm=>Y (zg (Kl fu g a) fu ([],m,k)) λ(b,d)=>Y (vK fu d) λe=>Y (vK fu b) λf=>Z<|(e,f,(0:J))
def Yu(d:N K)(e:N K):V ((N K)×J):=Y (xy fu d) λa=>Y (xy fu e) λb=>Y (ku fu a b) λf=>if f<0 then Z (([],(1:J)))else Y (YO fu a b) λg=>Y (vK fu g) λh=>Z<|(h,(0:J))
def W9(b:M)(d:M):V (M×M×J):=Y (J6 fu b.2 d.2) λ(e,a,f)=>if f=0 then Y ((if b.1=wF then if 0<(X a:J)then Y (WH fu e [(1:K)]) λg=>Y (Yu fu d.2 a) λ(h,o)=>Z (g,h)else Z (e,a)else Z (e,a):V ((N K)×(N K)))) λ(i,j)=>B (!(b.1==d.1)) λk=>Y (yX fu (k,i)) λl=>Y (yX fu (I,j)) λm=>Z ((l,m,(0:J)))else Z (((I,[]),(I,[]),f))
def qK(b:M):V J:=Y (yX fu b) λa=>if a.1=wF then Z (-1:J)else if 0<(X a.2:J)then Z (1:J)else Z (0:J)
def gR:((M×M)->V M)->(M×M)->V M:=λL (b,a)=>Y (qK fu a) λd=>if d=0 then Z b else Y (W9 fu b a) λ(f,e,g)=>L (a,e)
def JE(a:M)(b:M):V M:=Y (Vf fu a) λd=>Y (Vf fu b) λe=>Y (zg (gR fu) fu (d,e)) λf=>Z f
def W7(a:M):V M:=Y (yX fu<|((!a.1),a.2)) λb=>Z b
def uA(a:J):V M:=if a<0 then Q (0-a) λb=>B (DE b) λd=>Y (yX fu (wF,[d])) λe=>Z e else B (DE a) λf=>Y (yX fu (I,[f])) λg=>Z g
def c9(b:N M):(J->V J)->J->V J:=λL a=>if 0<a then Q (a-1) λd=>zD d (X b) λe=>B (b.getD e (I,[])) λf=>Y (qK fu f) λg=>if g=0 then Q (a-1) λh=>L h else Z a else Z a
def cm(d:N M)(f:J):(((N M)×J)->V (N M))->((N M)×J)->V (N M):=λL (a,b)=>if b<f then zD b (X d) λg=>B (d.getD g (I,[])) λh=>Y (yX fu h) λe=>ck ((X a+X ([e]))*32<=140737488355328)<|B (a++([e])) λi=>Q (b+1) λj=>L (i,j)else Z a
def xI(a:N M):V (N M):=Y (zg (c9 fu a) fu<|(X a:J)) λb=>Y (zg (cm fu a b) fu<|([],(0:J))) λd=>Z d
def JT(a:N M):((J×M)->V M)->(J×M)->V M:=λL (b,d)=>if b<(X a:J)then zD b (X a) λe=>B ((a.getD e (I,[]))) λf=>Y (JE fu d f) λg=>Q (b+1) λh=>L (h,g)else Z d
def ZN(d:N M):V M:=Y (xI fu d) λa=>Y (uA fu (0:J)) λe=>Y (zg (JT fu a) fu<|((0:J),e)) λb=>if 0<(X a:J)then Q (((X a:J))-1) λf=>zD f (X a) λg=>B (((a.getD g (I,[]))).1) λh=>if h then Y (W7 fu b) λi=>Z i else Z b else Z b
def WE(b:M)(d:M):V (M×J):=Y (W9 fu b d) λ(e,f,a)=>if a=0 then Y (qK fu f) λg=>if g=0 then Z ((e,(0:J)))else Z (((I,[]),(4:J)))else Z (((I,[]),a))
def uF(a:M)(b:M):V M:=B (a.1==b.1) λd=>if d then Y (WH fu a.2 b.2) λe=>Y (yX fu (a.1,e)) λf=>Z f else Y (Yu fu a.2 b.2) λ(g,h)=>if h=0 then Y (yX fu (a.1,g)) λi=>Z i else Y (Yu fu b.2 a.2) λ(j,l)=>Y (yX fu (b.1,j)) λk=>Z k
def Q8(fu:K)(a:N M)(b:J):V M:=if 0<=b then if b<(X a:J)then zD b (X a) λd=>B (a.getD d (I,[])) λe=>Z e else Z (I,[])else Z (I,[])
def gj(d:N M)(e:N M):(((N M)×J)->V (N M))->((N M)×J)->V (N M):=λL (b,a)=>B (max ((X d:J))<|(X e:J)) λg=>if a<g then Y (Q8 fu d a) λh=>Y (Q8 fu e a) λi=>Y (uF fu h i) λf=>ck ((X b+X ([f]))*32<=140737488355328)<|B (b++([f])) λj=>Q (a+1) λk=>L (j,k)else Z b
def Yh(a:N M)(b:N M):V (N M):=Y (zg (gj fu a b) fu<|([],(0:J))) λd=>Y (xI fu d) λe=>Z e
def KE(fu:K)(f:J):(((N K)×(N K)×K×J×(N K))->V ((N K)×(N K)×K×(N K)))->((N K)×(N K)×K×J×(N K))->V ((N K)×(N K)×K×(N K)):=λL (e,a,g,b,d)=>if b<(X a:J)then zD f (X e) λi=>B (e.getD i 0) λj=>zD b (X a) λk=>B (a.getD k 0) λl=>B ((j*l)%18446744073709551616) λm=>Q (f+b) λo=>zD o (X d) λp=>B ((d.getD p 0)) λq=>B ((m+q)%18446744073709551616) λr=>B ((r+g)%18446744073709551616) λh=>Q (f+b) λs=>B (h &&& ((4294967295:K))) λt=>zD s (X d) λu=>B (d.set u t) λv=>B (h/2^(min (((32:K)):J).toNat 64)) λw=>Q (b+1) λx=>L (e,a,w,x,v)else Z (e,a,g,d)
def KF(f:N K)(h:N K):((J×(N K))->V (N K))->(J×(N K))->V (N K):=λL (b,g)=>if b<(X f:J)then Y (zg (KE fu b) fu<|(f,h,(0:K),(0:J),g)) λ(m,d,i,a)=>Q (b+((X d:J))) λj=>zD j (X a) λk=>B (a.set k i) λe=>Q (b+1) λl=>L (l,e)else Z g
def JZ(g:N K)(h:N K):V (N K):=Y (xy fu g) λd=>Y (xy fu h) λe=>Q (((X d:J))+((X e:J))) λi=>jh i λf=>ck (8*f<=281474976710656)<|B (xac f 0) λj=>Y (zg (KF fu d e) fu<|((0:J),j)) λa=>Y (vK fu a) λb=>Z b
def ux(a:M)(b:M):V M:=B (!(a.1==b.1)) λd=>Y (JZ fu a.2 b.2) λe=>Y (yX fu (d,e)) λf=>Z f
def gY(f:J):(((N M)×(N M)×J×(N M))->V ((N M)×(N M)×(N M)))->((N M)×(N M)×J×(N M))->V ((N M)×(N M)×(N M)):=λL (e,a,b,d)=>if b<(X a:J)then Q (f+b) λg=>Q (f+b) λh=>zD h (X d) λi=>B ((d.getD i (I,[]))) λj=>zD f (X e) λk=>B (e.getD k (I,[])) λl=>zD b (X a) λm=>B (a.getD m (I,[])) λo=>Y (ux fu l o) λp=>Y (uF fu j p) λq=>zD g (X d) λr=>B (d.set r q) λs=>Q (b+1) λt=>L (e,a,t,s)else Z (e,a,d)
def ia(b:N M)(e:N M):((J×(N M))->V (N M))->(J×(N M))->V (N M):=λL (a,d)=>if a<(X b:J)then Y (zg (gY fu a) fu<|(b,e,(0:J),d)) λ(h,i,f)=>Q (a+1) λg=>L (g,f)else Z d
def W2(d:N M)(e:N M):V (N M):=Q (((X d:J))+((X e:J))) λg=>jh g λf=>ck (32*f<=281474976710656)<|B (xac f (I,[])) λh=>Y (zg (ia fu d e) fu<|((0:J),h)) λa=>Y (xI fu a) λb=>Z b
def aV(a:N M)(f:M):(((N M)×J)->V (N M))->((N M)×J)->V (N M):=λL (b,d)=>if d<(X a:J)then zD d (X a) λg=>B (a.getD g (I,[])) λh=>Y (ux fu h f) λe=>ck ((X b+X ([e]))*32<=140737488355328)<|B (b++([e])) λi=>Q (d+1) λj=>L (i,j)else Z b
def Wx(a:N M)(b:M):V (N M):=Y (zg (aV fu a b) fu<|([],(0:J))) λd=>Y (xI fu d) λe=>Z e
def J2(a:N M)(b:N M):V (N M):=Y (uA fu (-1:J)) λd=>Y (Wx fu b d) λe=>Y (Yh fu a e) λf=>Z f
def Wb:(((N M)×(N M)×(N M))->V ((N M)⊕Z4))->((N M)×(N M)×(N M))->V ((N M)⊕Z4):=λL (a,b,e)=>if 0<(X b:J)then Q (((X b:J))-((X a:J))) λf=>Q (((X b:J))-1) λk=>zD k (X b) λl=>B ((b.getD l (I,[]))) λm=>Q (((X a:J))-1) λo=>zD o (X a) λp=>B (a.getD p (I,[])) λq=>Y (WE fu m q) λ(g,r)=>if f<0 then Z (.inr ())else if r=0 then jh f λh=>ck (32*h<=281474976710656)<|B (xac h (I,[])) λi=>ck ((X i+X ([g]))*32<=140737488355328)<|B (i++([g])) λj=>Y (Yh fu e j) λs=>Y (W2 fu j a) λt=>Y (J2 fu b t) λd=>L (a,d,s)else Z (.inr ())else Z (.inl e)
def jL(d:N M)(e:N M):V ((N M)×J):=Y (xI fu e) λb=>if(X b:J)=0 then Z (([],(3:J)))else Y (xI fu d) λf=>Y (zg (Wb fu) fu (b,f,[])) λg=>match g with
 |.inl a=>Z<|(a,(0:J))
 |.inr _=>Z<|([],(4:J))
def Zc(b:N M):V (N M):=Y (xI fu b) λa=>if(X a:J)=0 then Z []else Y (ZN fu a) λd=>Y (jL fu a [d]) λ(e,f)=>Z e
def dB(b:N M)(d:N M):(J->V (Z4⊕Z4))->J->V (Z4⊕Z4):=λL a=>if a<(X b:J)then zD a (X b) λe=>B (b.getD e (I,[])) λf=>zD a (X d) λg=>B (d.getD g (I,[])) λh=>Y (YP fu f h) λi=>if !i then Z (.inr ())else Q (a+1) λj=>L j else Z (.inl ())
def YG(a:N M)(b:N M):V wW:=if(X a:J)=(X b:J)then Y (zg (dB fu a b) fu (0:J)) λd=>match d with
 |.inl _=>Z wF
 |.inr _=>Z I else Z I
def JN(a:M)(b:M):V M:=Y (W7 fu b) λd=>Y (uF fu a d) λe=>Z e
def Kd(a:M)(b:M):V J:=Y (JN fu a b) λd=>Y (qK fu d) λe=>Z e
def cy(b:N M)(d:N M):(J->V (Z4⊕wW))->J->V (Z4⊕wW):=λL a=>if 0<=a then zD a (X b) λf=>B ((b.getD f (I,[]))) λg=>zD a (X d) λh=>B ((d.getD h (I,[]))) λi=>Y (Kd fu g i) λe=>if e=0 then Q (a-1) λj=>L j else if e<0 then Z (.inr wF)else Z (.inr I)else Z (.inl ())
def Qk(d:N M)(e:N M):V wW:=Y (xI fu d) λa=>Y (xI fu e) λb=>if(X a:J)=(X b:J)then Q (((X a:J))-1) λf=>Y (zg (cy fu a b) fu f) λg=>match g with
 |.inl _=>Z I
 |.inr h=>Z h else if(X a:J)<(X b:J)then Z wF else Z I
def KM(b:N ((N M)×J))(d:N M):(J->V J)->J->V J:=λL a=>if a<(X b:J)then zD a (X b) λe=>B (b.getD e ([],0)) λf=>Y (Qk fu f.1 d) λg=>if g then Q (a+1) λh=>L h else Z a else Z a
def JA(a:N ((N M)×J))(e:N M)(f:J):V (N<|(N M)×J):=Y (zg (KM fu a e) fu (0:J)) λb=>Y ((if b<(X a:J)then zD b (X a) λo=>B (a.getD o ([],0)) λp=>Y (YG fu p.1 e) λq=>Z q else Z I:V wW)) λr=>if r then ck ((X (([]:N ((N M)×J)))+X a)*32<=140737488355328)<|B ((([]:N ((N M)×J)))++a) λd=>zD b (X d) λs=>B (((d.getD s ([],0))).2) λt=>Q (t+f) λu=>zD b (X d) λg=>B (d.set g<|((d.getD g ([],0)).1,u)) λv=>Z v else jh b λh=>ck (h<=X a)<|B (a.take h) λi=>ck ((X (([]:N ((N M)×J)))+X i)*32<=140737488355328)<|B ((([]:N ((N M)×J)))++i) λj=>ck ((X j+X ([(e,f)]))*32<=140737488355328)<|B (j++([(e,f)])) λk=>jh b λl=>ck (l<=X a)<|B (a.drop l) λm=>ck ((X k+X m)*32<=140737488355328)<|B (k++m) λw=>Z w
def Jd(b:N M)(e:M):((J×M)->V M)->(J×M)->V M:=λL (a,d)=>if 0<=a then Y (ux fu d e) λf=>zD a (X b) λg=>B (b.getD g (I,[])) λh=>Y (uF fu f h) λi=>Q (a-1) λj=>L (j,i)else Z d
def Qf(a:N M)(b:M):V M:=Y (uA fu (0:J)) λd=>Q (((X a:J))-1) λe=>Y (zg (Jd fu a b) fu (e,d)) λf=>Z f
def nk(a:N J):(((N M)×J)->V (N M))->((N M)×J)->V (N M):=λL (b,d)=>if d<(X a:J)then zD d (X a) λf=>B (a.getD f 0) λg=>Y (uA fu g) λe=>ck ((X b+X ([e]))*32<=140737488355328)<|B (b++([e])) λh=>Q (d+1) λi=>L (h,i)else Z b
def uV(a:N J):V (N M):=Y (zg (nk fu a) fu<|([],(0:J))) λb=>Y (xI fu b) λd=>Z d
def kJ(d:M):V (J×wW):=Y (yX fu d) λa=>if(X a.2:J)=0 then Z (((0:J),wF))else if 1<(X a.2:J)then Z (((0:J),I))else zD 0 (X a.2) λe=>B (a.2.getD e 0) λb=>if a.1=wF then if(b:J)<=(((9223372036854775808:K):K):J)then B (sgn b) λf=>Q (0-f) λg=>Z (g,wF)else if((!a.1))=wF then if(b:J)<=(((9223372036854775807:K):K):J)then B (sgn b) λh=>Z (h,wF)else Z (((0:J),I))else Z (((0:J),I))else if((!a.1))=wF then if(b:J)<=(((9223372036854775807:K):K):J)then B (sgn b) λi=>Z (i,wF)else Z (((0:J),I))else Z (((0:J),I))
def Z1(fu:K)(b:J):(((N J)×J)->V (N J))->((N J)×J)->V (N J):=λL (f,a)=>Q (a*a) λs=>Q (0-b) λt=>nm (max b t) λu=>if s<=u then ck (a≠0)<|nm (xca b a) λv=>if v=0 then Q (0-a) λr=>ck ((X f+X ([a,r]))*8<=140737488355328)<|nm (f++([a,r])) λh=>Y ((Q (a*a) λw=>Q (0-b) λx=>nm (max b x) λy=>if w=y then Z (b,I)else Z (b,wF):V (J×wW))) λ(g,A)=>if A then Q (0-g) λi=>nm (max g i) λj=>ck (a≠0)<|Q (xct j a) λd=>Q (0-g) λk=>nm (max g k) λl=>Q (0-l) λm=>ck (a≠0)<|Q (xct m a) λe=>ck ((X h+X ([d,e]))*8<=140737488355328)<|nm (h++([d,e])) λB=>Q (a+1) λo=>L (B,o)else Q (a+1) λp=>L (h,p)else Q (a+1) λq=>L (f,q)else Z f
def Zl(b:M):V (N J):=Y (kJ fu b) λ(a,d)=>if !d then Z []else if 1000000<a then Z []else if a< -1000000 then Z []else Y (zg (Z1 fu a) fu<|([],(1:J))) λe=>Z e
def Y2(fu:K)(k:J):(((N J)×J×(N J))->V (((N J)×(N J))⊕Z4))->((N J)×J×(N J))->V (((N J)×(N J))⊕Z4):=λL (d,b,a)=>if k<=b then zD b (X d) λl=>nm (d.getD l 0) λm=>Q (b-k) λo=>zD o (X d) λp=>nm (d.getD p 0) λq=>Q (m-q) λe=>zD b (X a) λr=>nm ((a.getD r 0)) λs=>Q (b-1) λt=>zD t (X a) λu=>nm ((a.getD u 0)) λv=>Q (s-v) λw=>ck (e≠0)<|nm (xca w e) λx=>if x=0 then zD b (X a) λy=>nm ((a.getD y 0)) λA=>Q (b-1) λf=>zD f (X a) λB=>nm ((a.getD B 0)) λg=>Q (A-g) λh=>ck (e≠0)<|Q (xct h e) λi=>zD b (X a) λC=>nm (a.set C i) λE=>Q (b-1) λj=>L (d,j,E)else Z (.inr ())else Z (.inl (d,a))
def YR(a:N J):((J×(N J))->V ((N J)⊕Z4))->(J×(N J))->V ((N J)⊕Z4):=λL (b,e)=>if b<(X a:J)then Q (((X a:J))-1) λf=>Y (zg (Y2 fu b) fu (a,f,e)) λg=>match g with
 |.inl (i,h)=>Q (b+1) λd=>L (d,h)
 |.inr _=>Z (.inr ())else Z (.inl e)
def Xj(j:N J)(k:N J):(((N M)×J)->V (N M))->((N M)×J)->V (N M):=λL (l,a)=>if 0<=a then zD a (X j) λm=>B (j.getD m 0) λo=>Q (0-o) λb=>Y (uV fu [b,(1:J)]) λd=>Y (W2 fu l d) λe=>zD a (X k) λp=>B ((k.getD p 0)) λf=>Y (uV fu [f]) λg=>Y (Yh fu e g) λh=>Q (a-1) λi=>L (h,i)else Z l
def ZI(a:N J)(e:N J):V ((N M)×wW):=ck ((X (([]:N J))+X e)*8<=140737488355328)<|B ((([]:N J))++e) λf=>Y (zg (YR fu a) fu<|((1:J),f)) λg=>match g with
 |.inl h=>Q (((X a:J))-1) λb=>Y (zg (Xj fu a h) fu ([],b)) λd=>Z (d,wF)
 |.inr _=>Z ([],I)
def Q5(i:N M)(e:J)(j:J):(((N J)×(N<|N J)×J×J)->V (((N J)×(N<|N J)×J)⊕((N M)×wW)))->((N J)×(N<|N J)×J×J)->V (((N J)×(N<|N J)×J)⊕((N M)×wW)):=λL (f,g,h,b)=>if b<=e then Q (b+1) λm=>ck ((2:J)≠0)<|Q (xct m (2:J)) λk=>Y ((ck ((2:J)≠0)<|nm (xca b (2:J)) λo=>if o=0 then Q (0-k) λp=>Z (i,e,j,p)else Z (i,e,j,k):V ((N M)×J×J×J))) λ(q,C,r,d)=>Y (uA fu d) λs=>Y (Qf fu q s) λl=>Y (qK fu l) λt=>if t=0 then Q (0-d) λu=>Y (uV fu [u,(1:J)]) λv=>Z (.inr (v,wF))else Y (Zl fu l) λa=>if(X a:J)=0 then Z (.inr ([],I))else Q (h*((X a:J))) λw=>if r<w then Z (.inr ([],I))else Q (h*((X a:J))) λx=>ck ((X f+X ([d]))*8<=140737488355328)<|nm (f++([d])) λy=>ck ((X g+X ([a]))*24<=140737488355328)<|nm (g++([a])) λA=>Q (b+1) λB=>L (y,A,x,B)else Z (.inl (f,g,h))
def QY(fu:K)(a:N (N J)):(((N M)×J×(N J)×J×J)->V ((N M)×J×(N J)))->((N M)×J×(N J)×J×J)->V ((N M)×J×(N J)):=λL (d,o,b,e,f)=>if e<(X a:J)then zD e (X a) λq=>B ((a.getD q [])) λg=>zD e (X a) λr=>B ((a.getD r [])) λh=>ck ((X h:J)≠0)<|B (xca f<|(X h:J)) λj=>zD j (X g) λs=>B (g.getD s 0) λp=>ck ((X b+X ([p]))*8<=140737488355328)<|B (b++([p])) λk=>zD e (X a) λt=>B ((a.getD t [])) λi=>ck ((X i:J)≠0)<|Q (xct f<|(X i:J)) λl=>Q (e+1) λm=>L (d,o,k,m,l)else Z (d,o,b)
def QK(o:N M)(m:J):(((N J)×J×(N<|N J))->V (Z4⊕(N M)))->((N J)×J×(N<|N J))->V (Z4⊕(N M)):=λL (a,d,b)=>if d<m then Y (zg (QY fu b) fu<|(o,m,[],(0:J),d)) λ(g,p,h)=>Y (ZI fu a h) λ(e,q)=>if !q then Q (d+1) λi=>L (a,i,b)else if(X e:J)<2 then Q (d+1) λj=>L (a,j,b)else Y (Zc fu e) λf=>Y (jL fu g f) λ(r,k)=>if k=0 then Z (.inr f)else Q (d+1) λl=>L (a,l,b)else Z (.inl ())
def Qz(d:N M)(e:J)(f:J):V ((N M)×wW):=Y (zg (Q5 fu d e f) fu<|([],[],(1:J),(0:J))) λg=>match g with
 |.inl (h,i,j)=>(Y (zg (QK fu d j) fu<|(h,(0:J),i)) λk=>match k with
 |.inl _=>Z ([],wF)
 |.inr a=>Z (a,wF))
 |.inr (b,l)=>Z (b,l)
def XG(c:(N M)->J->V ((N<|N M)×wW))(a:N M)(e:J):(J->V (Z4⊕((N<|N M)×wW)))->J->V (Z4⊕((N<|N M)×wW)):=λL b=>Q ((2:J)*b) λi=>if i<(X a:J)then Y (Qz fu a b e) λ(d,j)=>if !j then Z (.inr ([],I))else if 0<(X d:J)then if(X d:J)<(X a:J)then Y (jL fu a d) λ(k,q)=>Y (c d e) λ(f,l)=>Y (c k e) λ(g,m)=>ck ((X f+X g)*24<=140737488355328)<|B (f++g) λh=>if l then Z (.inr (h,m))else Z (.inr (h,I))else Q (b+1) λo=>L o else Q (b+1) λp=>L p else Z (.inl ())
def jB:K->(N M)->J->V ((N<|N M)×wW)
 |0,_,_=>wL
 |fu+1,a,b=>Y (zg (XG fu (jB fu) a b) fu (1:J)) λd=>match d with
  |.inl _=>Z ([a],wF)
  |.inr (e,f)=>Z (e,f)
def YY(a:N (N M)):(((N<|(N M)×J)×J)->V (N<|(N M)×J))->((N<|(N M)×J)×J)->V (N<|(N M)×J):=λL (d,b)=>if b<(X a:J)then zD b (X a) λe=>B ((a.getD e [])) λf=>Y (JA fu d f (1:J)) λg=>Q (b+1) λh=>L (g,h)else Z d
def ZX(b:N M)(d:J):V ((N<|(N M)×J)×wW):=Y (Zc fu b) λa=>if(X a:J)<2 then Z ([],wF)else Y (jB fu a d) λ(e,f)=>Y (zg (YY fu e) fu<|([],(0:J))) λg=>Z (g,f)
def uE(fu:K)(a:N M)(d:wW):(J->V (Z4⊕wW))->J->V (Z4⊕wW):=λL b=>if b<(X a:J)then zD b (X a) λe=>B (a.getD e (I,[])) λf=>if 10<(X f.2:J)then Z (.inr d)else Q (b+1) λg=>L g else Z (.inl ())
def jX(d:N M):V wW:=Y (Kx fu) λa=>if 200<(X d:J)then Z a else Y (zg (uE fu d a) fu (0:J)) λh=>match h with
 |.inl _=>(Y (Zc fu d) λe=>Y ((Y (J1 fu d) λi=>if !i then if(X e:J)<18 then Z (.inr a)else Z (.inl ())else Z (.inl ()):V (Z4⊕wW))) λj=>match j with
 |.inl _=>Y (jG fu d) λ(f,b)=>if 17<(X e:J)then if a then if b=6 then if(f).isNone=wF then Z wF else Z I else Z I else Z I else if(X e:J)<2 then if a then if b=7 then if(f).isNone=wF then Z wF else Z I else Z I else Z I else Y (ZX fu e (2500:J)) λ(g,k)=>if !k then if a then if b=0 then Z wF else if b=7 then Z wF else Z I else Z I else Y ((if(X g:J)=1 then zD 0 (X g) λl=>B (((g.getD l ([],0))).2) λm=>if m=1 then Z wF else Z I else Z I:V wW)) λo=>if !o then if a then if b=7 then if(f).isNone=wF then Z wF else Z I else Z I else Z I else if a then if b=0 then if(f).isNone=wF then Z I else Y (kV fu f) λp=>Y (YG fu p e) λq=>Z q else Z I else Z I
 |.inr r=>Z r)
 |.inr s=>Z s
end
end
end Go.Proofs.YtoegnnjcmlghhaaGreat
