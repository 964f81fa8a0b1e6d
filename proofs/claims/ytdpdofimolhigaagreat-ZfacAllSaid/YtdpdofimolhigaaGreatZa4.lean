/- What a proof needs: rules of walking, mirrors of functions and their plain laws. No condition. -/
import Derived.Test.YtdpdofimolhigaaGreatZa3
import Derived.Below
import Derived.Lib.Join
import Derived.Shelf.Strings.Builder1
import Derived.Shelf.Strings.Builder2
import Derived.Shelf.Strings.OnBuilder
import Derived.Shelf.Small.Bits
import Derived.Shelf.Strings.BuilderF
import Derived.Shelf.Strings.Builder2Cap
import Derived.Shelf.Strconv.Itoa0
import Derived.Shelf.Bits.Mul64
import Derived.Shelf.Slices.Turned
import Derived.Ground.Names2Prog
import Derived.Shelf.Slices.ReverseS
import Derived.Shelf.Slices.SearchI
import Derived.Shelf.Slices.Cells
import Derived.Ground.SlgnProg
import Derived.Shelf.SlicesE.Clone
set_option linter.all false
namespace Go.Proofs
open Go.Shelf
def Tryz.lays156_ren:Go.Shelf.Ren:=⟨fun|156=>81|165=>140|166=>141|169=>142|240=>219|241=>220|276=>273|277=>274|n=>n,fun|31=>98|9=>9|3=>3|4=>4|0=>0|20=>20|72=>148|76=>152|70=>146|37=>144|75=>151|127=>200|164=>234|5=>5|80=>154|n=>n,fun|n=>n⟩
theorem Tryz.lays156:Go.Proofs.Lays.n156 Tryz.prog Tryz.lays156_ren:={
  mixed:=by kernel_rfl
  f156:=Tryz.func81.trans (congrArg some (by kernel_rfl))
  f165:=Tryz.func140.trans (congrArg some (by kernel_rfl))
  f166:=Tryz.func141.trans (congrArg some (by kernel_rfl))
  f169:=Tryz.func142.trans (congrArg some (by kernel_rfl))
  f240:=Tryz.func219.trans (congrArg some (by kernel_rfl))
  f241:=Tryz.func220.trans (congrArg some (by kernel_rfl))
  f276:=Tryz.func273.trans (congrArg some (by kernel_rfl))
  f277:=Tryz.func274.trans (congrArg some (by kernel_rfl))
  t0:=Tryz.underlying0
  a0:=Tryz.isAgg0
  z0:=Tryz.sizeOf0
  v0:=Tryz.zeroValue0
  t3:=Tryz.underlying3
  a3:=Tryz.isAgg3
  z3:=Tryz.sizeOf3
  v3:=Tryz.zeroValue3
  t4:=Tryz.underlying4
  a4:=Tryz.isAgg4
  z4:=Tryz.sizeOf4
  v4:=Tryz.zeroValue4
  t9:=Tryz.underlying9
  a9:=Tryz.isAgg9
  z9:=Tryz.sizeOf9
  v9:=Tryz.zeroValue9
  t20:=Tryz.underlying20
  a20:=Tryz.isAgg20
  z20:=Tryz.sizeOf20
  v20:=Tryz.zeroValue20
  t31:=Tryz.underlying98
  a31:=Tryz.isAgg98
  z31:=Tryz.sizeOf98
  v31:=Tryz.zeroValue98
  t37:=Tryz.underlying144
  a37:=Tryz.isAgg144
  z37:=Tryz.sizeOf144
  v37:=Tryz.zeroValue144
  t70:=Tryz.underlying146
  a70:=Tryz.isAgg146
  z70:=Tryz.sizeOf146
  v70:=Tryz.zeroValue146
  t72:=Tryz.underlying148
  a72:=Tryz.isAgg148
  z72:=Tryz.sizeOf148
  v72:=Tryz.zeroValue148
  t75:=Tryz.underlying151
  a75:=Tryz.isAgg151
  z75:=Tryz.sizeOf151
  v75:=Tryz.zeroValue151
  t76:=Tryz.underlying152
  a76:=Tryz.isAgg152
  z76:=Tryz.sizeOf152
  v76:=Tryz.zeroValue152
  t127:=Tryz.underlying200
  a127:=Tryz.isAgg200
  z127:=Tryz.sizeOf200
  v127:=Tryz.zeroValue200
  t164:=Tryz.underlying234
  a164:=Tryz.isAgg234
  z164:=Tryz.sizeOf234
  v164:=Tryz.zeroValue234}
theorem Tryz.Builder_Extra_156:Builder.Extra Tryz.prog Tryz.lays156_ren:={
  sizeBuilder:=by kernel_rfl
  liesBuilder:=by kernel_rfl
  t5:=Tryz.underlying5
  a5:=Tryz.isAgg5
  z5:=Tryz.sizeOf5
  v5:=Tryz.zeroValue5
  infoByte:=by kernel_rfl
  cellsByte:=by kernel_rfl
  sizeByte:=by kernel_rfl
  neB5:=by decide}
open Go.RowKit in
theorem Tryz.strings_Join_none(a:Option Addr)(c:Nat)(sep:ByteArray)(w:World):
    Calls Tryz.prog 81 #[.slice a 0 c,.string sep] w fun e w'=>e=.returned (.string ⟨#[]⟩)∧w'=w:=Any.strings_Join_none Tryz.lays156 Tryz.Builder_Extra_156 a c sep w
open Go.RowKit in
theorem Tryz.strings_Join(bk o c:Nat)(xs:List ByteArray)(sep:ByteArray)(w:World)(hcells:∀(j:Nat) x,xs[j]? =some x→w.cell? ⟨bk,o+j,none⟩=some (.string x))(hbk:bk<w.heap.size)(hN:xs.length≤140737488355328)(hcap:xs.length≤c)(hlen:(Lib.join (xs.map (·.data.toList)) sep.data.toList).length≤140737488355328):
    Calls Tryz.prog 81 #[.slice (some ⟨bk,o,none⟩) xs.length c,.string sep] w fun e w'=>e=.returned (.string ⟨(Lib.join (xs.map (·.data.toList)) sep.data.toList).toArray⟩)∧Below w.heap.size w w':=Any.strings_Join Tryz.lays156 Tryz.Builder_Extra_156 bk o c xs sep w hcells hbk hN hcap hlen
end Go.Proofs
namespace Go.Proofs.YtdpdofimolhigaaGreat
open Bool renaming true->I,false->yL
open Go renaming Value->xn,World->xN,TypeId->wn,Program->ww,undef->wR,FuncId->vi,Code->vP,ResultVar->qc,wpIn_mono->qO,Func->jP,Act->kg,results->kw,Addr->kG,Calls->uL
open Go.Proofs.YtdpdofimolhigaaGreat renaming Zr->G,bd->Y,za->U,nm->B,ze->Q,zf->E,iq->S
open List renaming length->X,length->Wl
open Option renaming some->Z,none->yD
open _root_ renaming rfl->O,List->N,Int->J,Nat->K,Option->V,List->zC,Int->zI,Nat->zV,Option->z7,trivial->xS,absurd->wl,Bool->ws,congrArg->wF,Array->wL,Unit->wW,True->vF,ByteArray->vI,cond_true->vL,or_false->uS
open Bool renaming and_eq_true->Th
open Ending renaming returned->xez
open Extern renaming find->xeJ,findNext->xex
open Extern.MathBitsCarry renaming m64->xba,pair->xcq,three->xbE
open Int renaming fdiv->xfF,tdiv->xbQ,tmod->xbn
open Lib renaming bitLen->xeM
open List renaming append_assoc->xal,append_nil->xbN,drop->xdD,getD_eq_getElem?_getD->Yh,getElem?_append_right->xbv,getElem?_cons_zero->xbU,getElem?_eq_getElem->xaa,getElem?_map->xbZ,getElem?_range->xen,length->xaD,length_append->xak,length_cons->xar,length_map->xaV,length_replicate->xaR,map_congr_left->xce,map_cons->xch,map_map->xcP,mem_cons->PQ,mem_cons_self->Qh,mem_singleton->xab,not_mem_nil->QT,range->xaE,replicate->sR,take->xdo
open List.Perm renaming append_left->xbC,swap->xdK
open Nat renaming beq->xad,ble->xfI,blt->xcU,le_of_ble_eq_true->xbW,le_trans->PX,sub_self->xcX,zero_add->xaF,zero_lt_one->xdN
open Option.some renaming inj->xdc,injEq->xao
open Sum renaming elim->xfj
open UInt8 renaming ofNat->xeK
open _root_.Array renaming getD_eq_getD_getElem?->xbh,getElem?_eq_some_iff->xbd,length_toList->xeH,replicate->xev,toArray_toList->xdf
section
def kO:N K->xN->xN
 |[],w=>w
 |D::Ds,w=>kO Ds<|w.putObj D (.deferred yD)
def OI:N K->xN->Prop
 |[],_=>vF
 |D::Ds,w=>w.heap[D]? =Z (.deferred<|some [])/\OI Ds (w.putObj D (.deferred yD))
def mTk(D:K):MF where
 blk k:=k=D
 p _ w:=w.heap[D]? =Z (.deferred yD)
 keep h _ a:=(a D O).trans h
 sub h _:=h
 lt h k b:=by subst b;exact(xbd.1 h).1
section
variable{P:ww}{cf:Cf}{fr:Fr}{cx σ:Sg}{env:xt}
def aY:∀{Ds:N K}{w:xN},Wq P (fr.wd Ds) cx σ env w->OI Ds w/\Wq P fr cx σ env (kO Ds w)
 |[],w,h=>⟨xS,h⟩
 |D::Ds,w,h=>by
  have h1:=zb3 h (Qh) λS hp=>hp;have c:=zd3 (A:=[]) (m':=mTk D) h (λk=>Iff.rfl) (λk h=>h) λS w' h=>h;have d:Wq P (fr.wd Ds) cx σ env (w.putObj D (.deferred yD)):=by
   have⟨e,vs,f⟩:=c;refine⟨e,vs,?_⟩;have a:St fr.we fr.Se ((MS vs σ.ob++MS vs cx.ob)++([mTk D]++(Ds.map ja++fr.F))) (RS P vs env σ.rg++(RS P vs env cx.rg++fr.G)) (w.putObj D (.deferred yD)):=by simp_all
   have b:=St.dropM a;show St fr.we fr.Se (MS vs σ.ob++(MS vs cx.ob++(Ds.map ja++fr.F))) (RS P vs env σ.rg++(RS P vs env cx.rg++fr.G)) _;simp_all
  have⟨a,b⟩:=aY d;exact⟨⟨h1,a⟩,b⟩
def ot{F:Fence}{n:K}{fn:jP}{tmps:wL xn}{Q:Ending->xN->Prop}:∀{Ds:N K}{w:xN},OI Ds w->(∃v,(kw fn tmps).run P (kO Ds w)=.ok v (kO Ds w)/\Q (.returned v) (kO Ds w))->LeavesInM F n P fn tmps Q (Ds.map mkD) .returning w
 |[],w,_,h=>h
 |D::Ds,w,a,h=>⟨Xn,.inl ⟨D,_,O,run_takeDeferred a.1,ot a.2 h⟩⟩
def ga{f:vi}{fn:jP}{c:vP}{args:N xn}{w:xN}{Q:Ending->xN->Prop}(i:P.funcs[f]? =Z fn)(k:fn.body=Z c)(hn:xfI (X args) fn.ntmps=I)
 (h:∀rest,WpD P (Nd.of fn.ntmps) c (λe Ds env w=>(e=.normal\/e=.ret)/\OI Ds w/\∀a:kg,xf a=env->∃v,(kw fn a.tmps).run P (kO Ds w)=.ok v (kO Ds w)/\Q (.returned v) (kO Ds w)) [] (L ((args.zipIdx 0).map λx=>(x.2,x.1)) rest) w):
 uL P f args.toArray w Q:=by
 have hn:=xbW hn;refine callsIn_wide.1<|callsIn_of_wp_marks (n:=0) i k xS ?_;have l:gb (xf ⟨args.toArray++xev (fn.ntmps-args.toArray.size) wR,[]⟩) ((args.zipIdx 0).map λx=>(x.2,x.1)):=by
  refine Cd args 0 _ λj=> ?_;rw[OV];simp[xbh,Yh]
 refine qO (h _ _ (by simp[Nd.of];lia) O (lF l).symm) ?_;rintro e b w' ⟨q1,Ds,q2,m,d,hv⟩;have⟨v,h1,g⟩:=hv b O;obtain rfl|rfl:=m
 ·show LeavesInM _ _ P fn b.tmps Q b.defers .returning w';rw[q2];exact ot d ⟨v,h1,g⟩
 ·show LeavesInM _ _ P fn b.tmps Q b.defers .returning w';rw[q2];exact ot d ⟨v,h1,g⟩
end
end
section
section
variable{P:ww}{cf:Cf}{fr:Fr}{σ:Sg}{vs:zV->xn}{env:xt}{w:xN}{R:Type}{r:R}
theorem zem{rest:xt}:∀{l:N xn}{i j:K}{v:xn},l[j]? =Z v->L ((l.zipIdx i).map λx=>(x.2,x.1)) rest (i+j)=v
 |a::l,i,0,v,h=>by
  simp only[xbU,xao]at h;simp[L,h]
 |a::l,i,j+1,v,h=>by
  simp only[List.zipIdx_cons,xch,L];rw[znm (W:i+(j+1)≠i)];have:=zem (rest:=rest) (i:=i+1) (by simpa using h);grind
theorem zia:∀{dom:N AM}{x:pK dom}{i:K}{l:N xn},X l=X dom->(∀j v,l[j]? =Z v->vs (i+j)=v)->MS vs (QE dom x i).2=W6 dom x l
 |[],_,_,_,_,_=>rfl
 |a::dom,x,i,[],hl,_=>by cases hl
 |a::dom,x,i,v::l,hl,h=>by
  have b:MS vs (QE dom x.2<|i+1).2=W6 dom x.2 l:=zia (by simpa using hl) λj v d=>by
   have:=h (j+1) v (by simpa using d);grind
  have h0:=h 0 v O
  cases a with
  |own t E=>
   show mO t.rep E (vs i) x.1::MS vs (QE dom x.2<|i+1).2=mO t.rep E v x.1::W6 dom x.2 l;grind
  |var t E=>
   show mP t.rep.c E (vs i) x.1::MS vs (QE dom x.2<|i+1).2=mP t.rep.c E v x.1::W6 dom x.2 l;grind
  |_=>exact b
def zhf{S:K->Prop}:∀{dom:N AM}{x:pK dom}{i:K}{l:N xn},X l=X dom->(∀j v,l[j]? =Z v->vs (i+j)=v/\env (i+j)=v)->zK S (YY P dom x l) w->zK S (RS P vs env (QE dom x i).1) w
 |[],_,_,_,_,_,_=>trivial
 |a::dom,x,i,[],hl,_,_=>by cases hl
 |a::dom,x,i,v::l,hl,h,k=>by
  have c:=zhf (by simpa using hl) (λj v m=>by
   have:=h (j+1) v (by simpa using m);rw[(W:i+1+j=i+(j+1))];exact this) k.2
  have h0:vs i=v/\env i=v:=h 0 v O;have g:=k.1
  cases a with
  |d t=>exact⟨show(fV t.rep x.1<|env i).p S w by rw[h0.2];exact g,c⟩
  |q t=>exact⟨show(fP t.rep x.1<|env i).p S w by rw[h0.2];exact g,c⟩
  |own t E=>exact⟨show env i=vs i by rw[h0.1,h0.2],c⟩
  |var t E=>
   have⟨b,n⟩:=g;exact⟨⟨show env i=vs i by rw[h0.1,h0.2],b,h0.1.trans n⟩,c⟩
  |fn e f=>exact⟨show(fnF P e f x.1<|env i).p S w by rw[h0.2];exact g,c⟩
theorem ziM:∀{dom:N AM}{x:pK dom}{i:K},∀e∈(QE dom x i).2,e.1<i+X dom
 |[],_,_,e,he=>wl he QT
 |a::dom,x,i,e,he=>by
  have b:∀e∈(QE dom x.2<|i+1).2,e.1<i+X (a::dom):=λe he=>by
   have:=ziM e he;grind
  cases a with
  |own t E=>
   rcases PQ.1 (show e∈(i,Od.own t E x.1)::(QE dom x.2<|i+1).2 from he)with rfl|he
   ·simp_all
   ·grind
  |var t E=>
   rcases PQ.1 (show e∈(i,Od.var t E x.1)::(QE dom x.2<|i+1).2 from he)with rfl|he
   ·simp_all
   ·grind
  |_=>exact b e he
theorem zcn:∀{dom:N AM}{x:pK dom}{i:K},∀e∈(QE dom x i).1,∀p,qd e.2.2=Z p->p<i+X dom
 |[],_,_,e,he=>wl he QT
 |a::dom,x,i,e,he=>by
  intro p hp;have b:∀e∈(QE dom x.2<|i+1).1,∀p,qd e.2.2=Z p->p<i+X (a::dom):=λe he p hp=>by
   have:=zcn e he p hp;grind
  cases a with
  |own t E=>
   rcases PQ.1 (show e∈(i,0,Dv.ow i)::(QE dom x.2<|i+1).1 from he)with rfl|he
   ·cases hp;simp only[xar];lia
   ·grind
  |var t E=>
   rcases PQ.1 (show e∈(i,0,Dv.vs i t)::(QE dom x.2<|i+1).1 from he)with rfl|he
   ·cases hp;simp only[xar];lia
   ·grind
  |d t=>
   rcases PQ.1 (show e∈(i,0,Dv.d t x.1)::(QE dom x.2<|i+1).1 from he)with rfl|he
   ·cases hp
   ·exact b e he p hp
  |q t=>
   rcases PQ.1 (show e∈(i,0,Dv.q t x.1)::(QE dom x.2<|i+1).1 from he)with rfl|he
   ·cases hp
   ·exact b e he p hp
  |fn d c=>
   rcases PQ.1 (show e∈(i,0,Dv.fp d c x.1)::(QE dom x.2<|i+1).1 from he)with rfl|he
   ·cases hp
   ·exact b e he p hp
def gy:∀(l:N qc) (ms:N RM) {σ:Sg},Wq P fr ⟨0,[],[]⟩ σ env w->Wq P fr ⟨0,[],[]⟩ (nC σ l ms) env w
 |[],_,_,h=>by unfold nC;exact h
 |.tmp t::l,[],_,h=>by unfold nC;exact h
 |.tmp t::l,.d _::ms,_,h=>by unfold nC;exact gy l ms<|zcW _ h
 |.tmp t::l,.own _ _::ms,_,h=>by unfold nC;exact gy l ms h
 |.tmp t::l,.var _ _::ms,_,h=>by unfold nC;exact gy l ms h
 |.cell t E::l,[],_,h=>by unfold nC;exact h
 |.cell t E::l,m::ms,_,h=>by unfold nC;exact gy l ms h
def zpc(H:xm P cf.tt){p:qc}{m:RM}{k:m.D->N K->V R}(h:PZ cf σ p m k=Z r):∃x os,k x os=Z r/\
 ∀vs (fr:Fr) env (A:N MF) (Γ:N FF) w (f:N K),(∀S w,zK S Γ w->∀t,Lk P vs env S w ⟨0,[],[]⟩ σ t)->(∀o∈os,Bt f o=yL)->St fr.we fr.Se (A++OS vs fr ⟨0,[],[]⟩ (qU σ.ob f)) Γ w->
  ∃v,zr7 P w env p v/\St fr.we fr.Se (rmM m x v++(A++OS vs fr ⟨0,[],[]⟩ (qU σ.ob<|os++f))) (rmF m x v++Γ) w:=by
 cases p with
 |tmp t=>
  cases m with
  |d s=>
   simp only[PZ]at h;have hc:=h;have⟨y,h,J⟩:=zpP h;refine⟨y,[],h,λvs fr env A Γ w f hl _ g=>⟨env t,O,?_⟩⟩;refine g.weak λS w a=>⟨?_,a⟩
   cases l:get ⟨0,[],[]⟩ σ t 0 with
   |none=>rw[l]at hc;cases hc
   |some v=>exact J P vs S w v _ l<|hl S w a t 0 v l
  |own s E=>
   simp only[PZ]at h;have⟨x,os,h1,_,n,j⟩:=zcO h;refine⟨x,os,h1,λvs fr env A Γ w f hl hn g=>⟨env t,O,?_⟩⟩;exact j P vs fr env A Γ w f (λS w a=>hl S w a t) hn g
  |var s E=>
   simp only[PZ]at h;have⟨x,os,h1,_,n,j⟩:=zcO h;refine⟨x,os,h1,λvs fr env A Γ w f hl hn g=>⟨env t,O,?_⟩⟩;have q:=j P vs fr env A Γ w f (λS w a=>hl S w a t) hn g;exact q.weak λS w a=>⟨(n P vs env S w<|hl S w a).2,a⟩
 |cell t E=>
  cases m with
  |own s B=>simp only[PZ]at h;cases h
  |var s B=>simp only[PZ]at h;cases h
  |d s=>
   simp only[PZ]at h;split at h
   ·next o s0 C l L=>
    split at h
    ·next s' B z M=>
     have⟨u,h1⟩:=yv h;have u:=yr u;subst u;have⟨e,n⟩:=yB h1;cases e;have⟨e,j⟩:=yB n;cases e;refine⟨_,[o],j,λvs fr env A Γ w f hl hn g=> ?_⟩;have hp:=kU (vs:=vs) (fr:=fr) (cx:=⟨0,[],[]⟩)<|(kq<|hn o<|Qh).trans M;have j:=St.mid<|St.perm g<|xbC _ hp;have⟨S,_,a⟩:=g.ex;have⟨hv,b,F⟩:=hl S w a t 0 _ l;have⟨⟨G,Q,_⟩,_⟩:=H E C L;have q:St fr.we fr.Se (mP C.ty.rep.c E (vs o) z::(A++OS vs fr ⟨0,[],[]⟩ (yJ (qU σ.ob f) o))) Γ w:=j;have⟨b',hd,T⟩:=q.openP 0 O;rw[F]at hd;cases hd;refine zmv 0 T O (hv.trans F) Q λv U Y=>⟨v,Y,?_⟩;exact St.drop (i:=0) U
    ·cases h
   ·cases h
def zhb(e:xm P cf.tt):∀{a:N qc}{cod:N RM}{k:CZ cod->N K->V R},zeP cf σ a cod k=Z r->∃x os,k x os=Z r/\
 ∀vs (fr:Fr) env (Γ:N FF) w,(∀S w,zK S Γ w->∀t,Lk P vs env S w ⟨0,[],[]⟩ σ t)->St fr.we fr.Se (OS vs fr ⟨0,[],[]⟩ σ.ob) Γ w->
  ∃us,X us=X cod/\oj P w env a us/\St fr.we fr.Se (Wx cod x us++OS vs fr ⟨0,[],[]⟩ (qU σ.ob os)) (X4 cod x us++Γ) w
 |[],[],k,h=>⟨(),[],h,λvs fr env Γ w _ b=>⟨[],O,xS,b⟩⟩
 |[v],[m],k,h=>by
  have⟨x,os,h1,f⟩:=zpc e (h:PZ cf σ v m k=Z r);refine⟨x,os,h1,λvs fr env Γ w hl b=> ?_⟩;have⟨u,c,d⟩:=f vs fr env [] Γ w [] hl (λ_ _=>O) b;rw[xbN]at d;exact⟨[u],O,⟨c,xS⟩,d⟩
 |v::q::a,m::m'::ms,k,h=>by
  have⟨x,o,h1,f⟩:=zpc e (h:PZ cf σ v m _=Z r);have⟨y,os,c,d⟩:=zhb e h1;have⟨hn,c⟩:=yv c;refine⟨(x,y),o++os,c,λvs fr env Γ w hl b=> ?_⟩;have⟨us,i,j,l⟩:=d vs fr env Γ w hl b;have⟨u,n,p⟩:=f vs fr env (Wx (m'::ms) y us) (X4 (m'::ms) y us++Γ) w os (λS w g=>hl S w<|zK.right g) (zc4 hn) l;refine⟨u::us,by simpa using i,⟨n,j⟩,?_⟩;show St _ _ ((rmM m x u++Wx (m'::ms) y us)++_) ((rmF m x u++X4 (m'::ms) y us)++Γ) w;rw[xal,xal];exact p
 |[],_::_,_,h=>by cases h
 |[_],[],_,h=>by cases h
 |[_],_::_::_,_,h=>by cases h
 |_::_::_,[],_,h=>by cases h
 |_::_::_,[_],_,h=>by cases h
def zhv(C:P.follows .mixedOrders=I)(A:xm P cf.tt)(D:ZX P cf.tt)(E:∀s∈cf.cs,xI P s)(H:XOK P cf){s:QY}{fn:jP}
 (J:P.funcs[s.f]? =Z fn) (K:Tj P s.f=I) (g:s.bk=0) (L:∀x r,s.M x=Z r->zis cf fn s.dom s.cod x=Z r):xI P s:=by
 refine⟨K,λx r h vs hd=> ?_⟩;rw[g];show FnG P s.f vs.toArray (W6 s.dom x vs) (YY P s.dom x vs) Qa (λus=>Wx s.cod r us) (λus=>X4 s.cod r us) (λus=>X us=X s.cod);have h:=L x r h;unfold zis at h;split at h
 ·next c hc=>
  have⟨l,h⟩:=yv h;rw[Th]at l;intro we Se F G w m;refine ga J hc (by rw[hd];exact l.2) λrest=> ?_;refine Qb (fr:=⟨we,Se,F,G⟩) (N:=Nd.of fn.ntmps) C A D E H c l.1 O (.inl O) h (λt σ' g Ds env w _ q=> ?_) ?_
  ·have⟨hi,q⟩:=aY q
   have i:zeP cf (nC σ' fn.results.toList s.cod) fn.results.toList s.cod (λy _=>Z y)=Z r->∀a:kg,xf a=env->
    ∃v,(kw fn a.tmps).run P (kO Ds w)=.ok v (kO Ds w)/\∃u:zC xn,xez v=.returned (Qa u)/\X u=X s.cod/\St we Se (Wx s.cod r u++F) (X4 s.cod r u++G) (kO Ds w):=λh a Q=>by
    have hl:=gy fn.results.toList s.cod q;generalize nC σ' fn.results.toList s.cod=z at h hl;have⟨Y,vs,m⟩:=hl;have⟨y,os,e1,T⟩:=zhb A h;cases e1;have⟨us,h1,U,V⟩:=T vs ⟨we,Se,F,G⟩ env _ _ (λS w b t=>JJ b t) m;refine⟨_,JA (rs:=fn.results.toList) (by rw[xdf])<|Q▸U,us,O,h1,?_⟩;exact(St.dropM (B:=MS vs<|qU z.ob os) V).weak λS w b=>zK.append (zK.left b)<|zK.right<|zK.right b
   cases t with
   |n=>exact⟨.inl O,hi,i g⟩
   |r=>exact⟨.inr O,hi,i g⟩
   |x j=>cases g
  ·have e0:∀j v,vs[j]? =Z v->vs.getD (0+j) wR=v:=λj v k=>by rw[xaF,Yh,k];rfl
   refine⟨⟨λe d=> ?_,λ_ d=>wl d QT,λe d p hp=> ?_,λ_ d=>wl d QT⟩,λo=>vs.getD o wR,?_⟩
   ·have:=ziM e d;simpa using this
   ·have:=zcn e d p hp;simpa using this
   ·have e1:MS (λo=>vs.getD o wR) (QE s.dom x 0).2=W6 s.dom x vs:=zia hd e0;show St we Se (MS _ (QE s.dom x 0).2++([]++F)) _ w;rw[e1];exact m.weak λS w b=>zK.append (zhf hd (λj v k=>⟨e0 j v k,zem k⟩)<|zK.left b)<|zK.right b
 ·cases h
theorem znW{S:K->Prop}{b:K->xn}:∀{dom:N AM}{i:K},(∀j,j<X dom->env (i+j)=b (i+j))->zK S (RS P vs env<|RE b dom i) w
 |[],_,_=>trivial
 |a::dom,i,h=>by
  have c:zK S (RS P vs env<|RE b dom<|i+1) w:=znW λj d=>by
   have:=h (j+1) (by simp only[xar];lia);grind
  cases a with
  |own t E=>exact⟨h 0 Xn,c⟩
  |var t E=>exact⟨h 0 Xn,c⟩
  |_=>exact c
def tQ{S:K->Prop}{l:N xn}:∀{dom:N AM}{i:K}{us:N xn},zK S (RS P vs env<|RE (λo=>l.getD o wR) dom i) w->oj P w env (zai dom i) us->us=cR dom (l.drop i)
 |[],_,[],_,_=>rfl
 |[],_,_::_,_,h=>h.elim
 |a::dom,i,us,b,h=>by
  have e0:(l.drop i).headD wR=l.getD i wR:=by simp_all
  have e1:(l.drop i).tail=l.drop (i+1):=by rw[List.tail_drop]
  cases a with
  |own t E=>
   cases us with
   |nil=>exact h.elim
   |cons u us=>
    have h1:env i=u:=h.1;have f:env i=l.getD i wR:=b.1;have e:=tQ (dom:=dom) (i:=i+1) b.2 h.2;show u::us=(l.drop i).headD wR::cR dom (l.drop i).tail;simp_all
  |var t E=>
   cases us with
   |nil=>exact h.elim
   |cons u us=>
    have h1:env i=u:=h.1;have f:env i=l.getD i wR:=b.1;have e:=tQ (dom:=dom) (i:=i+1) b.2 h.2;show u::us=(l.drop i).headD wR::cR dom (l.drop i).tail;simp_all
  |d t=>
   have e:=tQ (dom:=dom) (i:=i+1) b h;show us=cR dom (l.drop i).tail;simp_all
  |q t=>
   have e:=tQ (dom:=dom) (i:=i+1) b h;show us=cR dom (l.drop i).tail;rw[e1];exact e
  |fn d c=>
   have e:=tQ (dom:=dom) (i:=i+1) b h;show us=cR dom (l.drop i).tail;rw[e1];exact e
def OE:∀{a b:N qc}{us:N xn},oj P w env (a++b) us->oj P w env a (us.take (X a))/\oj P w env b (us.drop (X a))
 |[],b,us,h=>⟨xS,h⟩
 |r::a,b,[],h=>h.elim
 |r::a,b,u::us,h=>by
  have⟨h1,c⟩:=OE h.2;exact⟨⟨h.1,h1⟩,c⟩
def Ae{b:K->xn}:∀{dom:N AM}{i:K},∀e∈RE b dom i,qd e.2.2=yD
 |[],_,e,he=>wl he QT
 |a::dom,i,e,he=>by
  cases a with
  |own t E=>
   rcases PQ.1 (show e∈(i,0,Dv.pin<|b i)::RE b dom (i+1)from he)with rfl|he
   ·rfl
   ·exact Ae e he
  |var t E=>
   rcases PQ.1 (show e∈(i,0,Dv.pin<|b i)::RE b dom (i+1)from he)with rfl|he
   ·rfl
   ·exact Ae e he
  |d t=>exact Ae (dom:=dom) e he
  |q t=>exact Ae (dom:=dom) e he
  |fn d c=>exact Ae (dom:=dom) e he
def zup(Y:P.follows .mixedOrders=I)(D:xm P cf.tt)(hL:ZX P cf.tt)(hC:∀s∈cf.cs,xI P s)(hX:XOK P cf){s:QY}{fn:jP}
 (hf:P.funcs[s.f]? =Z fn) (hb:Tj P s.f=I) (hM:∀pn x r,s.M x=Z r->zqT cf fn s.dom s.cod s.bk pn x=Z r):xI P s:=by
 refine⟨hb,λx r h vs hd=> ?_⟩;have h:=hM (λo=>vs.getD o wR) x r h;unfold zqT at h;split at h
 ·next c hc=>
  have⟨E,h⟩:=yv h;simp only[Th]at E;have⟨⟨⟨⟨hx,hy⟩,H⟩,hE⟩,J⟩:=E;have H:=yr H;have J:0<s.bk:=Nat.blt_eq.mp J;have⟨b,hz⟩:∃b,s.bk=b+1:=⟨s.bk-1,W⟩;rw[hz];intro we Se F G w hl;refine ga hf hc (by rw[hd];exact hy) λrest=> ?_;have e0:∀j v,vs[j]? =Z v->vs.getD (0+j) wR=v:=λj v i=>by rw[xaF,Yh,i];rfl
  refine Qb (fr:=⟨we,Se,F,G⟩) (N:=Nd.of fn.ntmps) Y D hL hC hX c hx O (.inl O) h (λt σ' z Ds env w _ A=> ?_) ?_
  ·have⟨Q,A⟩:=aY A
   have k:zeP cf (nC σ' (fn.results.toList++zai s.dom 0) s.cod) (fn.results.toList++zai s.dom 0) s.cod (λy _=>Z y)=Z r->∀a:kg,xf a=env->
    ∃v,(kw fn a.tmps).run P (kO Ds w)=.ok v (kO Ds w)/\∃u:zC xn,xez v=.returned (zwz (b+1) (X s.cod) u)/\zsy s.dom vs (b+1) (X s.cod) u/\St we Se (Wx s.cod r u++F) (X4 s.cod r u++G) (kO Ds w):=λh a q=>by
    have⟨T,l,hi⟩:=A;have⟨S0,_,hA⟩:=hi.ex;have hu:zK S0 (RS P l env<|RE (λo=>vs.getD o wR) s.dom 0) _:=zK.left<|zK.right hA;have hD:Wq P ⟨we,Se,F,G⟩ ⟨0,[],[]⟩ σ' env (kO Ds w):=⟨⟨T.o1,λ_ g=>wl g QT,T.r1,λ_ g=>wl g QT⟩,l,hi.weak λS w q=>zK.append (zK.left q)<|zK.right<|zK.right q⟩;have hv:=gy (fn.results.toList++zai s.dom 0) s.cod hD;generalize nC σ' (fn.results.toList++zai s.dom 0) s.cod=C at h hv;have⟨hB,m,hl⟩:=hv;have⟨y,os,e1,e2⟩:=zhb D h;cases e1;have⟨us,h1,h2,h3⟩:=e2 m ⟨we,Se,F,G⟩ env _ _ (λS w d t=>JJ d t) hl;have⟨h4,h5⟩:=OE h2;have hn:X s.cod-(b+1)=X fn.results.toList:=W
    have U:=tQ hu h5;rw[List.drop_zero]at U;refine⟨_,JA (rs:=fn.results.toList) (by rw[xdf])<|q▸h4,us,?_,⟨h1,by rw[hn];exact U⟩,?_⟩
    ·show xez _=.returned (Qa<|us.take<|X s.cod-(b+1));rw[hn]
    ·exact(St.dropM (B:=MS m<|qU C.ob os) h3).weak λS w d=>zK.append (zK.left d)<|zK.right<|zK.right d
   cases t with
   |n=>exact⟨.inl O,Q,k z⟩
   |r=>exact⟨.inr O,Q,k z⟩
   |x j=>cases z
  ·refine⟨⟨λe g=> ?_,λ_ g=>wl g QT,λe g p hp=> ?_,λe g p hp=> ?_⟩,λo=>vs.getD o wR,?_⟩
   ·have:=ziM e g;simpa using this
   ·have:=zcn e g p hp;simpa using this
   ·rw[Ae e g]at hp;cases hp
   ·have e1:MS (λo=>vs.getD o wR) (QE s.dom x 0).2=W6 s.dom x vs:=zia hd e0;show St we Se (MS _ (QE s.dom x 0).2++([]++F)) _ w;rw[e1];refine hl.weak λS w d=>zK.append (zhf hd (λj v i=>⟨e0 j v i,zem i⟩)<|zK.left d)<|zK.append (znW λj i=> ?_)<|zK.right d;have V:vs[j]? =Z (vs[j]'W):=xaa W;show L _ _ (0+j)=vs.getD (0+j) wR;rw[e0 j _ V];exact zem V
 ·cases h
end
end
section
section
variable{P:ww}
def zc:Ty->N xn
 |.i=>[.int .i64 0]
 |.u=>[.int .u64 0]
 |.b=>[.bool yL]
 |.ch=>[.int .u8 0]
 |.tx=>[.string ByteArray.empty]
 |.l _=>[.slice yD 0 0]
 |.p s t=>zc s++zc t
 |.a k t=>(sR k<|zc t).flatten
 |.po _=>[.pointer yD]
 |.w1 t=>zc t
def zjB{α:Type}{e:ye α}{S:K->Prop}{w:xN}{x:α}{c:N xn}(h:e.p S x c w):∀k,xa e S (sR k x) (sR k c).flatten w
 |0=>rfl
 |k+1=>⟨c,_,O,h,zjB h k⟩
def zlp(S:K->Prop)(w:xN):∀t:Ty,t.rep.p S t.z (zc t) w
 |.i=>⟨O,(YL:(-9223372036854775808:J)<=0),(YL:(0:J)<=9223372036854775807)⟩
 |.u=>⟨O,(YL:(0:K)<18446744073709551616)⟩
 |.b=>rfl
 |.ch=>⟨O,(YL:(0:K)<256)⟩
 |.tx=>⟨ByteArray.empty,O,O,YL⟩
 |.l _=>⟨_,O,SlP.nil⟩
 |.p s t=>⟨_,_,O,zlp S w s,zlp S w t⟩
 |.a k t=>⟨xaR,zjB (zlp S w t) k⟩
 |.po _=>rfl
 |.w1 t=>zlp S w t
def zui(t:Ty):X (zc t)=t.n:=by
 have:=t.rep.len<|zlp (λ_=>vF) default t;rw[this,t.n_rep]
def zpx:∀{k:K}{t:Ty}{i:K}{f:Fl t.D},xy k t i=Z f->∃d c,zc t=d++zc f.f++c/\X d=f.off
 |0,.w1 t,0,f,h=>by
  simp only[xy,xao]at h;subst h;exact⟨[],[],by simp[zc],O⟩
 |0,.w1 t,_+1,_,h=>by cases h
 |0,.i,_,_,h=>by cases h
 |0,.u,_,_,h=>by cases h
 |0,.b,_,_,h=>by cases h
 |0,.l _,_,_,h=>by cases h
 |0,.p _ _,_,_,h=>by cases h
 |0,.a _ _,_,_,h=>by cases h
 |0,.ch,_,_,h=>by cases h
 |0,.tx,_,_,h=>by cases h
 |0,.po _,_,_,h=>by cases h
 |1,t,i,f,h=>by
  unfold xy at h;cases e:xad i 0<;>rw[e]at h
  ·cases h
  ·simp only[vL,xao]at h;subst h;exact⟨[],[],by simp[Fl.self],O⟩
 |k+2,.p s t,0,f,h=>by
  simp only[xy,xao]at h;subst h;exact⟨[],zc t,by simp[zc],O⟩
 |k+2,.p s t,i+1,f,h=>by
  simp only[xy]at h;split at h
  ·next f' g=>
   simp only[xao]at h;subst h;have⟨d,c,h1,j⟩:=zpx g;refine⟨zc s++d,c,?_,by rw[xak,zui,j]⟩;simp only[zc];rw[h1];simp only[xal]
  ·cases h
 |k+2,.i,i,f,h=>by simp[xy]at h
 |k+2,.u,i,f,h=>by simp[xy]at h
 |k+2,.b,i,f,h=>by simp[xy]at h
 |k+2,.l _,i,f,h=>by simp[xy]at h
 |k+2,.a _ _,i,f,h=>by simp[xy]at h
def zs7(P:ww)(t n:K):(N (V K)×N (V<|K×ws×K))×V (N<|V<|K×K):=(((xaE<|n+(1-n)).map λi=>ziD P t i,(xaE<|n+(1-n)).map λi=>zo2 P t i),match plB P t with
 |some a=>Z<|a.toList.map Z
 |none=>yD)
def znv(ty:Ty)(n:K):(N (V K)×N (V<|K×ws×K))×V (N<|V<|K×K):=(((xaE<|n+(1-n)).map λi=>(xy n ty i).map (·.off),(xaE<|n+(1-n)).map λi=>(xy n ty i).map λf=>(f.off,f.f.rep.agg,f.f.n)),Z<|(xaE<|n+(1-n)).map λi=>(xy n ty i).map λf=>(f.off,f.f.n))
def zgw(P:ww)(t:wn)(a:TI):Prop:=match a.k with
 |.int k=>P.underlying t=Z (.int k)
 |.bool=>P.underlying t=Z .bool
 |.str=>P.underlying t=Z .string
 |.sl E=>P.underlying t=Z (.slice E)/\∃e,a.ty=.l e
 |.st n=>a.ty.rep.agg=I/\zs7 P t n=znv a.ty n
 |.ar k E=>a.ty.rep.agg=I/\P.underlying t=Z (.array k E)
 |.pt E=>P.underlying t=Z (.pointer E)
def zjO:∀{n:K}{t:Ty}{i:K}{f:Fl t.D},0<n->xy n t i=Z f->i<n
 |0,_,_,_,h0,h=>wl h0<|Nat.lt_irrefl 0
 |1,t,i,f,_,h=>by
  simp only[xy]at h;cases c:xad i 0<;>rw[c]at h
  ·cases h
  ·rw[yr c];exact xdN
 |n+2,.p s t,0,f,_,h=>Nat.succ_pos _
 |n+2,.p s t,i+1,f,_,h=>by
  simp only[xy]at h;split at h
  ·next f' d=>exact Nat.succ_lt_succ<|zjO (Nat.succ_pos _) d
  ·cases h
 |n+2,.i,_,_,_,h=>by simp[xy]at h
 |n+2,.u,_,_,_,h=>by simp[xy]at h
 |n+2,.b,_,_,_,h=>by simp[xy]at h
 |n+2,.l _,_,_,_,h=>by simp[xy]at h
 |n+2,.a _ _,_,_,_,h=>by simp[xy]at h
 |n+2,.ch,_,_,_,h=>by simp[xy]at h
 |n+2,.tx,_,_,_,h=>by simp[xy]at h
 |n+2,.po _,_,_,_,h=>by simp[xy]at h
 |n+2,.w1 _,_,_,_,h=>by simp[xy]at h
def ziC{n:K}{t:Ty}{i:K}{f:Fl t.D}(h:xy n t i=Z f):i<n+(1-n):=by
 cases n with
 |zero=>
  cases t<;>cases i<;>first
   |exact xdN
   |cases h
 |succ n=>have:=zjO (Nat.succ_pos n) h;lia
def zox.of{t:wn}{d:TI}(h:zgw P t d):zox P t d:=by
 unfold zgw at h;unfold zox;split at h
 ·next h0=>simp only[h0];exact h
 ·next h0=>simp only[h0];exact h
 ·next h0=>simp only[h0];exact h
 ·next h0=>simp only[h0];exact h
 ·next n h0=>
  simp only[h0];have⟨h1,h⟩:=h;have e:=wF (λq=>q.1.1) h;have g:=wF (λq=>q.1.2) h;have c:=wF Prod.snd h;simp only[zs7,znv]at e g c;refine⟨h1,λi f b=> ?_,?_,λi f b=> ?_⟩;rotate_left 2
  ·have:=wF (λl:N (V<|K×ws×K)=>l[i]?) g;simp only[xbZ,xen<|ziC b,Option.map_some,b]at this;simpa using this
  ·have:=wF (λl:N (V K)=>l[i]?) e;simp only[xbZ,xen<|ziC b,Option.map_some,b]at this;simpa using this
  ·cases hp:plB P t with
   |none=>
    rw[hp]at c;cases c
   |some a=>
    rw[hp]at c;simp only[xao]at c;have⟨fs,k,m⟩:=zqh hp;refine⟨fs,k,a,m,λi f b=> ?_⟩;have:=wF (λl:N (V<|K×K)=>l[i]?) c;simp only[xbZ,xen<|ziC b,Option.map_some,b]at this;rw[<-Array.getElem?_toList]
    cases j:a.toList[i]? with
    |none=>rw[j]at this;cases this
    |some q=>rw[j]at this;simpa using this
 ·next h0=>simp only[h0];exact h
 ·next h0=>simp only[h0];exact h
def znj.of{t:wn}{a:TI}(h1:tyB P t=Z (a.ty.rep.agg,a.ty.n,a.B,Z<|a.ty.rep.val<|zc a.ty))(c:(xcU 0 a.B && xcU 0 a.ty.n)=I)(f:zgw P t a):znj P t a:=by
 rw[Th]at c;have b:=λS w=>zlp S w a.ty;refine⟨⟨_,(by rw[Ty.n_rep];exact UI.of h1),?_,λS w=> ?_,(λs h=>by rw[h];rfl),λn i off s g st j=> ?_⟩,xbW c.1,(by rw[Ty.n_rep];exact xbW c.2),zox.of f⟩
 ·rw[<-xeH,ye.val_cells _<|b (λ_=>vF) default,a.ty.rep.len<|b (λ_=>vF) default]
 ·rw[ye.val_cells _<|b S w];exact b S w
 ·rw[ye.val_cells _<|b (λ_=>vF) default];have⟨k,d,l,e⟩:=zpx j;rw[l,xal,xbv (by simp only at e;lia),e,xcX];rfl
def xm.nil:xm P []:=λ_ _ h=>by cases h
def xm.cons{t:wn}{c:TI}{tt:N (K×TI)}(h:znj P t c)(k:xm P tt):xm P ((t,c)::tt):=by
 intro d a b;unfold gI at b;cases e:xad t d<;>rw[e]at b
 ·exact k d a b
 ·simp_all
def xm.add{t:wn}{a:TI}{tt:N (K×TI)}(h1:tyB P t=Z (a.ty.rep.agg,a.ty.n,a.B,Z<|a.ty.rep.val<|zc a.ty))(b:(xcU 0 a.B && xcU 0 a.ty.n)=I)(c:zgw P t a)(k:xm P tt):xm P ((t,a)::tt):=xm.cons (znj.of h1 b c) k
def elB(tt:N (K×TI)):N (K×TI)->ws
 |[]=>I
 |(_,⟨.l s,.sl E,_⟩)::r=>(match gI tt E with
  |some a=>(Ty.same a.ty s).isSome
  |none=>yL) && elB tt r
 |_::r=>elB tt r
def ZX.of'{tt:N (K×TI)}:∀{l:N (K×TI)},elB tt l=I->∀t s E B,gI l t=Z ⟨.l s,.sl E,B⟩->∃a,gI tt E=Z a/\a.ty=s
 |[],_,_,_,_,_,h=>by cases h
 |(c,d)::r,h,t,s,E,B,b=>by
  have e:elB tt r=I:=by
   unfold elB at h;split at h
   ·simp_all
   ·simp_all
   ·simp_all
  unfold gI at b;cases f:xad c t<;>rw[f]at b
  ·exact ZX.of' e t s E B b
  ·cases b;unfold elB at h;simp only[Th]at h;have h:=h.1;split at h
   ·next a g=>
    refine⟨a,g,?_⟩
    cases i:Ty.same a.ty s with
    |none=>rw[i]at h;cases h
    |some p=>exact p.down
   ·cases h
def ZX.of{tt:N (K×TI)}(h:elB tt tt=I):ZX P tt:=λt s E B=>ZX.of' h t s E B
def Cb.nil:Cb P []:=λ_ _ h=>by cases h
def Cb.add{f:K}{b:ws}{ex:N (K×ws)}{fn:jP}(h0:P.funcs[f]? =Z fn)(h1:(fn.name== "runtime.NumGoroutine")=yL)(g:fn.body=yD)(h:(xex fn).isNone=I)
 (i:b=I->xeJ fn=Z (λargs=>do
  let(x,y,c)<-xbE "Add64" args
  pure (xcq ((x+y+c)%xba)<|(x+y+c)/xba)))
 (j:b=yL->xeJ fn=Z (λargs=>do
  let(x,y,b)<-xbE "Sub64" args
  pure (xcq ((x+xba-y-b)%xba) (if x<y+b then 1 else 0)))) (k:Cb P ex):Cb P ((f,b)::ex):=by
 intro f' d a;unfold gI at a;cases e:xad f f'<;>rw[e]at a
 ·exact k f' d a
 ·simp_all
def cN:∀s∈([]:N QY),xI P s:=λ_ h=>wl h QT
theorem cC{s:QY}{l:N QY}(h:xI P s)(k:∀s∈l,xI P s):∀q∈s::l,xI P q:=by grind
def sg0{s:QY}(a:Tj P s.f=I)(b:∀x,s.M x=yD):xI P s:=⟨a,λx r h=>by rw[b x]at h;cases h⟩
def XOK.of{tt:N (K×TI)}{ex:N (K×ws)}{cs:N QY}{an:An}{fu:K}(a:Cb P ex)(hp:P=Tryz.prog):XOK P ⟨tt,cs,an,fu,ex,[],[],[]⟩:=⟨a,λ_ h=>wl h QT,λ_ h=>wl h QT,λ_ h=>wl h QT,hp⟩
def sgP(a:P.follows .mixedOrders=I){tt:N (K×TI)}{ex:N (K×ws)}(b:xm P tt)(c:ZX P tt)(d:Cb P ex)(hp:P=Tryz.prog){cs:N QY}(an:An){fu:K}{s:QY}{fn:jP}(e:P.funcs[s.f]? =Z fn)(g:∀s∈cs,xI P s)(i:Tj P s.f=I)(j:s.bk=0)(k:∀x,zis ⟨tt,cs,an,fu,ex,[],[],[]⟩ fn s.dom s.cod x=s.M x):xI P s:=
 zhv (cf:=⟨tt,cs,an,fu,ex,[],[],[]⟩) a b c g (.of d hp) e i j λx r h=>(k x).trans h
def sgG(b:P.follows .mixedOrders=I){tt:N (K×TI)}{ex:N (K×ws)}(c:xm P tt)(d:ZX P tt)(e:Cb P ex)(hp:P=Tryz.prog){cs:N QY}(an:An){fu:K}{s:QY}{fn:jP}(g:P.funcs[s.f]? =Z fn)(i:∀s∈cs,xI P s)(j:Tj P s.f=I)(k:∀a x,zqT ⟨tt,cs,an,fu,ex,[],[],[]⟩ fn s.dom s.cod s.bk a x=s.M x):xI P s:=
 zup (cf:=⟨tt,cs,an,fu,ex,[],[],[]⟩) b c d i (.of e hp) g j λa x r h=>(k a x).trans h
end
end
section
def zlX:(dom:N Ty)->C4 dom->K->N (K×K×Dv)
 |[],_,_=>[]
 |t::r,x,i=>(i,0,.d t x.1)::zlX r x.2 (i+1)
def zrx(g:vi)(t:K)(σ:Sg):V (N PD):=match get ⟨0,[],[]⟩ σ t 0 with
 |some (.fn f cs)=>kS (xad f g)<|some cs
 |_=>yD
def zxi(cf:Cf)(fn:jP)(dom:N Ty)(g:vi)(x:C4 dom):V (N PD):=match fn.body,fn.results.toList with
 |some c,[.tmp t]=>kS (okC fn.ntmps c && xfI (X dom) fn.ntmps)<|Az cf c ⟨0,[],[]⟩ ⟨0,zlX dom x 0,[]⟩ λq σ=>match q with
  |.r=>zrx g t σ
  |.n=>zrx g t σ
  |_=>yD
 |_,_=>yD
def zqt(t:Ty)(E E1:wn)(ix:N K)(lo n:K)(σ:Sg):V (N<|N t.D):=match get ⟨0,[],[]⟩ σ 3 0 with
 |some (.mv o a d)=>(match xQ σ.ob o with
  |some (.mat e f g b c)=>kS (xad E f && xad E1 g)<|Ty.cast (.l (.l e)) (.l (.l t)) b λy=>ck (a=lo/\d=n/\c=ix)<|some y
  |_=>yD)
 |_=>yD
def zuA(cf:Cf)(fn:jP)(t:Ty)(E E1:wn)(e:xn)(b:N (N t.D))(ix:N K)(r:K)(a p:J)(lo n:K):V (N<|N t.D):=match fn.body,fn.results.toList with
 |some c,[]=>kS (okC fn.ntmps c && xfI 4 fn.ntmps)<|Az cf c ⟨0,[(3,0,.pin e)],[]⟩ ⟨1,[(0,0,.rw 0 r),(1,0,.d .i a),(2,0,.d .i p),(3,0,.mv 0 lo n)],[(0,.mat t E E1 b ix)]⟩ λq σ=>match q with
  |.r=>zqt t E E1 ix lo n σ
  |.n=>zqt t E E1 ix lo n σ
  |_=>yD
 |_,_=>yD
section
variable{P:ww}{cf:Cf}{env:xt}{w:xN}
def zj4{S:K->Prop}{vs:K->xn}:∀{dom:N Ty}{x:C4 dom}{i:K}{l:N xn},X l=X dom->(∀j v,l[j]? =Z v->env (i+j)=v)->zK S (tsF dom x l) w->zK S (RS P vs env<|zlX dom x i) w
 |[],_,_,_,_,_,_=>trivial
 |a::dom,x,i,[],hl,_,_=>by cases hl
 |a::dom,x,i,v::l,hl,h,b=>by
  have c:zK S (RS P vs env<|zlX dom x.2<|i+1) w:=zj4 (by simpa using hl) (λj v d=>by
   have:=h (j+1) v (by simpa using d);rw[(W:i+1+j=i+(j+1))];exact this) b.2
  have h0:env i=v:=h 0 v O;have e:=b.1;exact⟨show(fV a.rep x.1<|env i).p S w by rw[h0];exact e,c⟩
def zfU:∀{dom:N Ty}{x:C4 dom}{i:K},∀e∈zlX dom x i,qd e.2.2=yD
 |[],_,_,e,he=>wl he QT
 |a::dom,x,i,e,he=>by
  obtain rfl|he:=PQ.1 he
  ·rfl
  ·exact zfU e he
def ztP(o:P.follows .mixedOrders=I)(y:xm P cf.tt)(z:ZX P cf.tt)(D:∀s∈cf.cs,xI P s)(E:XOK P cf){s:zgn}{fn:jP}
 (H:P.funcs[s.f]? =Z fn) (J:Tj P s.f=I) (K:∀x,zxi cf fn s.dom s.g x=Z (s.mc x)):zhc P s:=by
 refine⟨J,λx vs hd=>FnG.plain ?_⟩;have h:=K x;unfold zxi at h;split at h
 ·next c t hc L=>
  have⟨k,h⟩:=yv h;rw[Th]at k;intro we Se F G w M;refine ga H hc (by rw[hd];exact k.2) λrest=> ?_;refine Qb (fr:=⟨we,Se,F,G⟩) (N:=Nd.of fn.ntmps) o y z D E c k.1 O (.inl O) h (λq σ' l Ds env w _ m=> ?_) ?_
  ·have⟨hl,m⟩:=aY m
   have i:zrx s.g t σ'=Z (s.mc x)->∀a:kg,xf a=env->
    ∃v,(kw fn a.tmps).run P (kO Ds w)=.ok v (kO Ds w)/\∃u:xn,xez v=.returned u/\vF/\St we Se ([]++F) ([ztH s.g (s.mc x) u]++G) (kO Ds w):=λh a Q=>by
    unfold zrx at h;split at h
    ·next f cs R=>
     have⟨hi,h1⟩:=yv h;have hi:=yr hi;subst hi;cases h1;have⟨Y,vs',hn⟩:=m;have T:St we Se (MS vs' σ'.ob++F) (RS P vs' env σ'.rg++([]++G)) (kO Ds w):=hn;refine⟨_,JA (rs:=[.tmp t]) (vs:=[env t]) (by rw[<-L,xdf])<|Q▸⟨O,xS⟩,env t,O,xS,?_⟩;have U:=St.dropM (A:=[]) (B:=MS vs' σ'.ob) (C:=F) (by simpa using T);refine U.weak λS w b=>⟨?_,?_⟩
     ·exact JJ (fr:=⟨we,Se,F,G⟩) (cx:=⟨0,[],[]⟩) (show zK S (GS P vs' env ⟨we,Se,F,G⟩ ⟨0,[],[]⟩ σ') w from b) t 0 _ R
     ·exact zK.right b
    ·cases h
   cases q with
   |n=>exact⟨.inl O,hl,i l⟩
   |r=>exact⟨.inr O,hl,i l⟩
   |x j=>cases l
  ·refine⟨⟨λ_ d=>wl d QT,λ_ d=>wl d QT,λe d p hp=> ?_,λ_ d=>wl d QT⟩,λ_=>wR,?_⟩
   ·rw[zfU e d]at hp;cases hp
   ·show St we Se ([]++([]++F)) _ w;exact M.weak λS w b=>zK.append (zj4 hd (λj v V=>zem V)<|zK.left b)<|zK.right b
 ·cases h
def zof{α:Type}{e:ye α}{E E1:wn}{u:xn}{d:N (N α)}{ix:N K}{S:K->Prop}(h:(Ih e E E1 u d ix).p S w):∀a k c,yY u=.slice a k c->a.isSome=I->k=X ix:=by
 rcases nT (zcm h).2.1 with⟨hv,_⟩|⟨b,cap,hv,_⟩
 ·simp_all
 ·simp_all
def zqN{cx σ:Sg}{t i:K}{d:Dv}(h:get ⟨0,[],[]⟩ σ t i=Z d):get cx σ t i=Z d:=by
 unfold get at h⊢;split at h
 ·exact h
 ·cases h
def zuk(V:P.follows .mixedOrders=I)(Y:xm P cf.tt)(hL:ZX P cf.tt)(hC:∀s∈cf.cs,xI P s)(hX:XOK P cf){s:N5}{fn:jP}
 (hf:P.funcs[s.f]? =Z fn) (hb:Tj P s.f=I) (hM:∀pn b ix r a p lo n z,s.M b ix r a p lo n=Z z->zuA cf fn s.t s.E s.E1 pn b ix r a p lo n=Z z):zhh P s:=by
 refine⟨hb,λb ix r a p lo n z hz u hr hv hx hl hy hA we Se F G w hn=> ?_⟩;have h:=hM hv b ix r a p lo n z hz;unfold zuA at h;split at h
 ·next c hc hD=>
  have⟨m,h⟩:=yv h;rw[Th]at m;have hi:∀a k c,yY u=.slice a k c->a.isSome=I->k=X ix:=wZ hn (i:=0) O λS hp=>zof hp;refine ga (args:=[hr,.int .i64 a,.int .i64 p,hv]) hf hc m.2 λrest=> ?_;refine Qb (fr:=⟨we,Se,F,G⟩) (N:=Nd.of fn.ntmps) V Y hL hC hX c m.1 O (.inl O) h (λq σ' C Ds env w _ D=> ?_) ?_
  ·have⟨Q,D⟩:=aY D
   have y:zqt s.t s.E s.E1 ix lo n σ'=Z z->∀a:kg,xf a=env->
    ∃v,(kw fn a.tmps).run P (kO Ds w)=.ok v (kO Ds w)/\∃v' R,xez v=.returned v'/\yY R=yY u/\St we Se (Ih s.t.rep s.E s.E1 R z ix::F) G (kO Ds w):=λh a ha=>by
    unfold zqt at h;split at h
    ·next o H n' hg=>
     split at h
     ·next t' E' F' A g m=>
      have⟨J,h1⟩:=yv h;rw[Th]at J;have hF:=yr J.1;have hG:=yr J.2;subst hF hG;have⟨e,B⟩:=yB h1;cases e;obtain⟨⟨rfl,rfl,rfl⟩,K⟩:=YK B;cases K;have⟨hB,vs',hd⟩:=D;have⟨S0,_,T⟩:=hd.ex;have hu:env 3=hv:=(zK.left<|zK.right T).1;have U:MvV (yY<|vs' o) H n' (env 3):=JJ T 3 0 _<|zqN hg;rw[hu]at U;have B:St we Se (Ih s.t.rep s.E s.E1 (vs' o) A g::OS vs' ⟨we,Se,F,G⟩ ⟨0,[(3,0,.pin hv)],[]⟩ (yJ σ'.ob o)) (GS P vs' env ⟨we,Se,F,G⟩ ⟨0,[(3,0,.pin hv)],[]⟩ σ') (kO Ds w):=ud m hd;have hj:∀a k c,yY (vs' o)=.slice a k c->a.isSome=I->k=X g:=wZ B (i:=0) O λS hp=>zof hp;refine⟨_,JA (rs:=[]) (vs:=[]) (by rw[<-hD,xdf]) xS,_,vs' o,O,U.same hl hj hi,?_⟩;have K:St we Se ([Ih s.t.rep s.E s.E1 (vs' o) A g]++(MS vs' (yJ σ'.ob o)++F)) (GS P vs' env ⟨we,Se,F,G⟩ ⟨0,[(3,0,.pin hv)],[]⟩ σ') (kO Ds w):=B;exact(St.dropM K).weak λS w l=>zK.right<|zK.right l
     ·cases h
    ·cases h
   cases q with
   |n=>exact⟨.inl O,Q,y C⟩
   |r=>exact⟨.inr O,Q,y C⟩
   |x j=>cases C
  ·refine⟨⟨λe d=> ?_,λ_ d=>wl d QT,λe d q L=> ?_,λe d q L=> ?_⟩,λ_=>u,?_⟩
   ·obtain rfl:=xab.1 d;exact xdN
   ·simp only[PQ,QT,uS]at d;obtain rfl|rfl|rfl|rfl:=d<;>cases L<;>exact xdN
   ·obtain rfl:=xab.1 d;cases L
   ·refine hn.weak λS w l=>⟨hx,w9 hy,w9 hA,hl,O,l⟩
 ·cases h
end
end
section
def zm2{ι:Type _}{R:Type}(S:ι->Tg×Sg)(f:ι->V R)(a:∀i j,S i=S j->f i=f j):∃K:Tg->Sg->V R,(∀i,K (S i).1 (S i).2=f i)/\∀t σ r,K t σ=Z r->∃i,S i=(t,σ)/\f i=Z r:=by
 classical
 refine⟨λt σ=>if h:∃i,S i=(t,σ)then f h.choose else yD,λi=> ?_,λt σ r h=> ?_⟩
 ·have h:∃j,S j=((S i).1,(S i).2):=⟨i,O⟩;grind
 ·by_cases h1:∃i,S i=(t,σ)
  ·grind
  ·simp_all
def chS(E:wn){X Y:Type}(b:X->xn->MF)(c:Y->xn->MF)(g:N J->X->V (N J×(X⊕Y)))(n a:J)(x:X)(xs:N J):Sg:=
 ⟨2,[(4,0,.ow 1),(0,0,.yd 0),(1,0,.q .i n),(2,0,.q .i a)],[(1,.own .i E xs),(0,.hid .i E X Y b c g x)]⟩
section
variable{P:ww}{fr:Fr}{σ:Sg}{env:xt}{w:xN}{E:wn}{X Y:Type}{mX:X->xn->MF}{mY:Y->xn->MF}{g:zC zI->X->z7 (zC zI×(X⊕Y))}{n all:zI}{x:X}{y:Y}{xs:zC zI}{o p:zV}
theorem zs1(c:get ⟨0,[],[]⟩ σ 4 0=Z (.ow p))(h0:get ⟨0,[],[]⟩ σ 0 0=Z (.yd o))(h1:get ⟨0,[],[]⟩ σ 1 0=Z (.q .i n))(d:get ⟨0,[],[]⟩ σ 2 0=Z (.q .i all))(f:xQ σ.ob o=Z (.hid .i E X Y mX mY g x))(hp:xQ σ.ob p=Z (.own .i E xs))
 (j:xad o p=yL) (h:Wq P fr ⟨0,[],[]⟩ σ env w):Wq P fr ⟨0,[],[]⟩ (chS E mX mY g n all x xs) env w:=by
 have⟨t,vs,hc⟩:=h;have l:=tN j f hp hc;refine⟨⟨λe a=> ?_,λ_ a=>wl a QT,λe a q m=> ?_,λ_ a=>wl a QT⟩,λk=>if k=0 then vs o else vs p,?_⟩
 ·simp only[chS,PQ,QT,uS]at a⊢;grind
 ·simp only[chS,PQ,QT,uS]at a⊢;obtain rfl|rfl|rfl|rfl:=a<;>cases m<;>simp
 ·have r:St fr.we fr.Se ([bH vs (o,.hid .i E X Y mX mY g x),bH vs (p,.own .i E xs)]++(MS vs (yJ (yJ σ.ob o) p)++fr.F)) (GS P vs env fr ⟨0,[],[]⟩ σ) w:=l;have s:St fr.we fr.Se ([bH vs (p,.own .i E xs),bH vs (o,.hid .i E X Y mX mY g x)]++fr.F) (GS P vs env fr ⟨0,[],[]⟩ σ) w:=(St.dropM r).perm<|xdK ..;refine s.weak λS w b=>⟨?_,?_,?_,?_,?_⟩
  ·exact JJ b 4 0 _ c
  ·exact JJ b 0 0 _ h0
  ·exact JJ b 1 0 _ h1
  ·exact JJ b 2 0 _ d
  ·exact zK.right<|zK.right b
def zu7{t:Ty}{g:N t.D->X->V (N t.D×(X⊕Y))}(a:xQ σ.ob o=Z (.hid t E X Y mX mY g x))(h:Wq P fr ⟨0,[],[]⟩ σ env w):∃b,St fr.we fr.Se (mX x b::fr.F) fr.G w:=by
 have⟨i,vs,c⟩:=h;have⟨_,d⟩:=St.unpr<|St.grp.1<|ud a c;have e:=d;exact⟨_,(St.dropM e).weak λS w f=>zK.right<|zK.right f⟩
def zvg(a:xQ σ.ob o=Z (.hiy Y mY y))(h:Wq P fr ⟨0,[],[]⟩ σ env w):∃b,St fr.we fr.Se (mY y b::fr.F) fr.G w:=by
 have⟨i,vs,c⟩:=h;have d:=ud a c;have e:St fr.we fr.Se ([mY y<|(wm<|vs o).headD wR]++(MS vs (yJ σ.ob o)++fr.F)) (GS P vs env fr ⟨0,[],[]⟩ σ) w:=d;exact⟨_,(St.dropM e).weak λS w f=>zK.right<|zK.right f⟩
end
end
section
section
variable{P:ww}
def ziv{U:Type}{f:vi}{args:wL xn}{Γ:N FF}{b:U->xn}{a:U->N FF}{ok:U->Prop}(h:Fn P f args Γ b a ok):FnG P f args [] Γ b (λ_=>[]) a ok:=by
 rintro we Se F G w ⟨h1,l,n,S,o,d,p,g,j⟩;refine(h w S d<|zK.left j).mono ?_;rintro e w' ⟨u,e1,q,c,r⟩;exact⟨u,e1,q,h1.trans c,l,n,S,o,λk s=>d k<|PX c.size s,p,xd.keep c.to (λm t i hi=>c.block i (xd.lt g m t i hi) xS) g,zK.append r<|zK.keep c.to<|zK.right j⟩
def FnG.to{U V:Type}{f:vi}{args:wL xn}{ms:N MF}{Γ:N FF}{i:U->xn}{own:U->N MF}{b:U->N FF}{ok:U->Prop}{c:V->xn}{d:V->N MF}{a:V->N FF}{j:V->Prop}
 (h:FnG P f args ms Γ i own b ok) (g:U->V) (h1:∀u,i u=c (g u)) (m:∀u,own u=d (g u)) (n:∀u,ok u->j (g u)) (o:∀u,ok u->∀S w,zK S (b u) w->zK S (a<|g u) w):FnG P f args ms Γ c d a j:=by
 intro we Se F G w p;refine(h we Se F G w p).mono ?_;rintro e w' ⟨u,e1,k,q⟩;exact⟨g u,by rw[e1,h1],n u k,by rw[<-m];exact q.weak λS w l=>zK.append (o u k S w<|zK.left l)<|zK.right l⟩
def zu0{f:vi}{s t:Ty}{M:s.D->V t.D}(a:Tj P f=I)(h:∀x r v,M x=Z r->Fn P f [v].toArray [fV s.rep x v] (λu:xn=>u) (λu=>[fV t.rep r u]) (λ_=>vF)):xI P ⟨f,[.d s],[.d t],λx=>M x.1,0⟩:=by
 refine⟨a,λx r b vs hl=> ?_⟩
 match vs,hl with
 |[v],_=>exact(ziv<|h x.1 r v b).to (λu=>[u]) (λ_=>O) (λ_=>O) (λ_ _=>O) λu _ S w c=>c
def zt2{f:vi}{M:K->V J}(c:Tj P f=I)(h:∀x r,x<18446744073709551616->M x=Z r->Fn P f [.int .u64 (x:J)].toArray [] (λ_:wW=> .int .i64 r) (λ_=>[]) (λ_=>Um r)):xI P ⟨f,[.d .u],[.d .i],λx=>M x.1,0⟩:=by
 refine⟨c,λx r e vs hl=> ?_⟩
 match vs,hl with
 |[v],_=>
  intro we Se F G w hc;have⟨S0,_,a⟩:=hc.ex;have⟨hv,g⟩:=znr (show(fV eU x.1 v).p S0 w from a.1);have:=ziv<|h x.1 r g e;rw[<-hv]at this;have j:FnG P f [v].toArray [] [] Qa (λus=>Wx [RM.d .i] r us) (λus=>X4 [RM.d .i] r us) (λus=>X us=1):=this.to (λ_=>[.int .i64 r]) (λ_=>O) (λ_=>O) (λ_ _=>O) λu k S w b=>⟨w9 k,xS⟩;exact j we Se F G w<|hc.weak λS w b=>b.2
end
end
section
section
variable{P:ww}
def dN.of_below{w w':xN}(h:RowKit.Below w.heap.size w w'):dN w w':=⟨h.os,h.tape,h.output,h.size,λk a _=>h.block k a⟩
def zom(xs:N (N K))(sep:N K):V (N K):=ck (X xs<=140737488355328)<|ck (X (sep.intercalate xs)<=140737488355328)<|some (sep.intercalate xs)
def zfO{S:K->Prop}{w:xN}:∀{xs:N (N K)}{cs:N xn},xa eTx S xs cs w->∃bs:N vI,cs=bs.map Value.string/\bs.map xr=xs
 |[],cs,h=>⟨[],h,O⟩
 |x::xs,cs,⟨c,r,h1,a,d⟩=>by
  have⟨bs,e1,e⟩:=zfO d;have⟨b,f,g,_⟩:=a;exact⟨b::bs,by rw[h1,f,e1];rfl,by rw[xch,g,e]⟩
def zbv{α β:Type}(f:α->β)(s:N α):∀X:N (N α),(s.intercalate X).map f=(s.map f).intercalate (X.map<|List.map f)
 |[]=>by simp
 |[x]=>by simp
 |x::y::r=>by
  have a:=zbv f s (y::r);simp_all
def zhQ(bs:N vI)(s:vI):xr ⟨(Lib.join (bs.map (·.data.toList)) s.data.toList).toArray⟩=(xr s).intercalate (bs.map xr):=by
 show((Lib.join (bs.map (·.data.toList)) s.data.toList).toArray.toList).map UInt8.toNat=_;unfold Lib.join;rw[zbv,xcP];rfl
def zn9{f:vi}(C:Tj P f=I)
 (h0:∀(a:V kG) (c:K) (sep:vI) (w:xN),uL P f #[.slice a 0 c,.string sep] w λe w'=>e=.returned (.string ⟨#[]⟩)/\w'=w)
 (h1:∀(bk o c:K) (xs:N vI) (sep:vI) (w:xN),(∀(j:K) x,xs[j]? =Z x->w.cell? ⟨bk,o+j,yD⟩=Z (.string x))->bk<w.heap.size->X xs<=140737488355328->X xs<=c->X (Lib.join (xs.map (·.data.toList)) sep.data.toList)<=140737488355328->
  uL P f #[.slice (Z ⟨bk,o,yD⟩) (X xs) c,.string sep] w λe w'=>e=.returned (.string ⟨(Lib.join (xs.map (·.data.toList)) sep.data.toList).toArray⟩)/\RowKit.Below w.heap.size w w'):
 xI P ⟨f,[.d (.l .tx),.d .tx],[.d .tx],λx=>zom x.1 x.2.1,0⟩:=by
 refine⟨C,λx r g vs hl=> ?_⟩
 match vs,hl with
 |[v,u],_=>
  have g:zom x.1 x.2.1=Z r:=g;unfold zom at g;have⟨k1,g⟩:=YK g;have⟨k2,g⟩:=YK g;have k:r=List.intercalate (α:=K) x.2.1 x.1:=(xdc g).symm;have p:Fn P f #[v,u] [fV (eS eTx) x.1 v,fV eTx x.2.1 u] (λ_:wW=> .string ⟨(r.map xeK).toArray⟩) (λ_=>[fV eTx r (.string ⟨(r.map xeK).toArray⟩)]) (λ_=>vF):=by
   intro w Se T q;have⟨hv,D,_⟩:=q;obtain⟨m,rfl,E,U⟩:=zfK D;obtain⟨F,cap,rfl,G,hn,h⟩:=wc.1 hv;have i:∀(t:N UInt8) (w':xN),dN w w'->t.map UInt8.toNat=r->FnQ Se w (λ_:wW=> .string ⟨(r.map xeK).toArray⟩) (λ_=>[fV eTx r (.string ⟨(r.map xeK).toArray⟩)]) (λ_=>vF) (.returned (.string ⟨t.toArray⟩)) w':=by
    intro t w' H s;have n:t=r.map xeK:=by
     rw[<-s,xcP];conv=>lhs;rw[<-List.map_id t]
     exact xce λb _=>by simp
    rw[<-n];refine⟨(),O,xS,H,zgg ?_ ?_,xS⟩
    ·unfold xr;simpa using s
    ·have Y:=ky ⟨t.toArray⟩;have h7:X (xr ⟨t.toArray⟩)=X r:=by unfold xr;rw[<-s]
     have h8:X r<=140737488355328:=by rw[k];exact k2
     lia
   obtain h|⟨b,o,cs,rfl,hs,hd,J⟩:=h
   ·have h:x.1=([]:N (N K)):=h;have hi:r=[]:=by rw[k,h];rfl
    rw[h];refine(h0 F cap m w).mono ?_;rintro e w' ⟨rfl,rfl⟩;exact i [] w' (yO.refl _ _) hi.symm
   ·have⟨bs,L,n⟩:=zfO J;have hc:X bs=xaD (α:=N K) x.1:=by rw[<-n,xaV]
    have z:=zhQ bs m;rw[E,n]at z;have A:(Lib.join (bs.map (·.data.toList)) m.data.toList).map UInt8.toNat=r:=by
     rw[k,<-z];unfold xr;simp
    have:=h1 b o cap bs m w (λj y M=>hd.2 j (.string y)<|by rw[L,xbZ,M];rfl) hd.1 (by rw[hc];exact k1) (by rw[hc];exact G) (by
     have B:=wF xaD A;rw[xaV]at B;rw[B,k];exact k2)
    rw[hc]at this;refine this.mono ?_;rintro e w' ⟨rfl,Q⟩;exact i _ w' (dN.of_below Q) A
  exact(ziv p).to (λ_=>[.string ⟨(r.map xeK).toArray⟩]) (λ_=>O) (λ_=>O) (λ_ _=>O) λ_ _ S w R=>R
end
end
section
set_option maxRecDepth 100000
variable{cs:zC QY}{fu:zV}{s:QY}
def tt:N (K×TI):=[(2,⟨.i,.int .i64,8⟩),(3,⟨.i,.int .i64,8⟩),(4,⟨.b,.bool,1⟩),(5,⟨.ch,.int .u8,1⟩),(6,⟨.ch,.int .u8,1⟩),(7,⟨(.p .i (.p .i (.p .b .ch))),.st 4,24⟩),(8,⟨(.p .i (.p .i (.p .b .ch))),.st 4,24⟩),(9,⟨.tx,.str,16⟩),(10,⟨.tx,.str,16⟩),(11,⟨.tx,.str,16⟩),(12,⟨.u,.int .u64,8⟩),(13,⟨(.p .tx .u),.st 2,24⟩),(14,⟨(.p .tx .u),.st 2,24⟩),(22,⟨(.l (.p .b (.l .u))),.sl 30,24⟩),(23,⟨(.l .i),.sl 3,24⟩),(26,⟨.i,.int .i64,8⟩),(28,⟨(.l .u),.sl 72,24⟩),(29,⟨(.p .b (.l .u)),.st 2,32⟩),(30,⟨(.p .b (.l .u)),.st 2,32⟩),(31,⟨(.l (.p (.l (.p .b (.l .u))) .i)),.sl 42,24⟩),(41,⟨(.p (.l (.p .b (.l .u))) .i),.st 2,32⟩),(42,⟨(.p (.l (.p .b (.l .u))) .i),.st 2,32⟩),(56,⟨(.l (.l (.p .b (.l .u)))),.sl 22,24⟩),(72,⟨.u,.int .u64,8⟩),(80,⟨(.l (.l .i)),.sl 23,24⟩),(98,⟨(.l .tx),.sl 9,24⟩),(107,⟨.u,.int .u64,8⟩),(144,⟨(.l .ch),.sl 5,24⟩),(182,⟨(.a 4 (.l (.p .b (.l .u)))),.ar 4 22,96⟩),(183,⟨(.a 4 (.l (.p .b (.l .u)))),.ar 4 22,96⟩),(188,⟨.i,.int .i64,8⟩),(200,⟨(.po .ch),.pt 5,8⟩),(218,⟨(.a 3 (.l .i)),.ar 3 23,72⟩),(219,⟨(.a 3 (.l .i)),.ar 3 23,72⟩),(226,⟨.u,.int .u64,8⟩),(230,⟨(.po .i),.pt 3,8⟩),(248,⟨(.p (.l (.p .b (.l .u))) (.l (.l (.p .b (.l .u))))),.st 2,48⟩),(249,⟨(.p (.l (.p .b (.l .u))) (.l (.l (.p .b (.l .u))))),.st 2,48⟩),(252,⟨(.po (.p (.p (.l (.p .b (.l .u))) (.l (.l (.p .b (.l .u))))) (.l (.l (.p .b (.l .u)))))),.pt 254,8⟩),(253,⟨(.p (.p (.l (.p .b (.l .u))) (.l (.l (.p .b (.l .u))))) (.l (.l (.p .b (.l .u))))),.st 2,72⟩),(254,⟨(.p (.p (.l (.p .b (.l .u))) (.l (.l (.p .b (.l .u))))) (.l (.l (.p .b (.l .u))))),.st 2,72⟩),(257,⟨(.p (.p .b (.l .u)) (.p (.p .b (.l .u)) (.p .b (.l .u)))),.st 3,96⟩),(258,⟨(.p (.p .b (.l .u)) (.p (.p .b (.l .u)) (.p .b (.l .u)))),.st 3,96⟩),(260,⟨(.po .u),.pt 226,8⟩),(271,⟨(.po (.w1 .tx)),.pt 286,8⟩),(278,⟨.ch,.int .u8,1⟩),(279,⟨.ch,.int .u8,1⟩),(285,⟨(.w1 .tx),.st 0,16⟩),(286,⟨(.w1 .tx),.st 0,16⟩)]
def ex:N (K×ws):=[(269,I),(278,yL)]
def tA{t:wn}{a:TI}{tt:N (K×TI)}(b:zgw Tryz.prog t a)(k:xm Tryz.prog tt)(h1:tyB Tryz.prog t=Z (a.ty.rep.agg,a.ty.n,a.B,Z<|a.ty.rep.val<|zc a.ty):=by kernel_rfl)(c:(xcU 0 a.B && xcU 0 a.ty.n)=I:=by kernel_rfl):xm Tryz.prog ((t,a)::tt):=xm.add h1 c b k
def zij:xm Tryz.prog tt:=tA (id (by kernel_rfl:Tryz.prog.underlying 2=Z (.int .i64)))<|
 tA (id (by kernel_rfl:Tryz.prog.underlying 3=Z (.int .i64)))<|
 tA (id (by kernel_rfl:Tryz.prog.underlying 4=Z .bool))<|
 tA (id (by kernel_rfl:Tryz.prog.underlying 5=Z (.int .u8)))<|
 tA (id (by kernel_rfl:Tryz.prog.underlying 6=Z (.int .u8)))<|
 tA ⟨O,Xs⟩<|
 tA ⟨O,Xs⟩<|
 tA (id (by kernel_rfl:Tryz.prog.underlying 9=Z .string))<|
 tA (id (by kernel_rfl:Tryz.prog.underlying 10=Z .string))<|
 tA (id (by kernel_rfl:Tryz.prog.underlying 11=Z .string))<|
 tA (id (by kernel_rfl:Tryz.prog.underlying 12=Z (.int .u64)))<|
 tA ⟨O,Xs⟩<|
 tA ⟨O,Xs⟩<|
 tA ⟨Xs,_,O⟩<|
 tA ⟨Xs,_,O⟩<|
 tA (id (by kernel_rfl:Tryz.prog.underlying 26=Z (.int .i64)))<|
 tA ⟨Xs,_,O⟩<|
 tA ⟨O,Xs⟩<|
 tA ⟨O,Xs⟩<|
 tA ⟨Xs,_,O⟩<|
 tA ⟨O,Xs⟩<|
 tA ⟨O,Xs⟩<|
 tA ⟨Xs,_,O⟩<|
 tA (id (by kernel_rfl:Tryz.prog.underlying 72=Z (.int .u64)))<|
 tA ⟨Xs,_,O⟩<|
 tA ⟨Xs,_,O⟩<|
 tA (id (by kernel_rfl:Tryz.prog.underlying 107=Z (.int .u64)))<|
 tA ⟨Xs,_,O⟩<|
 tA ⟨O,Xs⟩<|
 tA ⟨O,Xs⟩<|
 tA (id (by kernel_rfl:Tryz.prog.underlying 188=Z (.int .i64)))<|
 tA (id (by kernel_rfl:Tryz.prog.underlying 200=Z (.pointer 5)))<|
 tA ⟨O,Xs⟩<|
 tA ⟨O,Xs⟩<|
 tA (id (by kernel_rfl:Tryz.prog.underlying 226=Z (.int .u64)))<|
 tA (id (by kernel_rfl:Tryz.prog.underlying 230=Z (.pointer 3)))<|
 tA ⟨O,Xs⟩<|
 tA ⟨O,Xs⟩<|
 tA (id (by kernel_rfl:Tryz.prog.underlying 252=Z (.pointer 254)))<|
 tA ⟨O,Xs⟩<|
 tA ⟨O,Xs⟩<|
 tA ⟨O,Xs⟩<|
 tA ⟨O,Xs⟩<|
 tA (id (by kernel_rfl:Tryz.prog.underlying 260=Z (.pointer 226)))<|
 tA (id (by kernel_rfl:Tryz.prog.underlying 271=Z (.pointer 286)))<|
 tA (id (by kernel_rfl:Tryz.prog.underlying 278=Z (.int .u8)))<|
 tA (id (by kernel_rfl:Tryz.prog.underlying 279=Z (.int .u8)))<|
 tA ⟨O,Xs⟩<|
 tA ⟨O,Xs⟩<|
 xm.nil
def zgX:ZX Tryz.prog tt:=ZX.of Xs
def ziE:Cb Tryz.prog ex:=Cb.add Tryz.func269 Xs Xs Xs (λ_=>by kernel_rfl) (λh=>by cases h)<|
 Cb.add Tryz.func278 Xs Xs Xs (λh=>by cases h) (λ_=>by kernel_rfl)<|
 Cb.nil
def zhJ:Tryz.prog.follows .mixedOrders=I:=Xs
def sg(an:An){fn:jP}(a:Tryz.prog.funcs[s.f]? =Z fn)(b:∀s∈cs,xI Tryz.prog s)(c:Tj Tryz.prog s.f=I)(d:∀x,zis ⟨tt,cs,an,fu,ex,[],[],[]⟩ fn s.dom s.cod x=s.M x)(e:s.bk=0:=by rfl):xI Tryz.prog s:=
 sgP zhJ zij zgX ziE O an a b c e d
def sq(fu:K)(an:An){fn:jP}(a:Tryz.prog.funcs[s.f]? =Z fn)(b:∀s∈cs,xI Tryz.prog s)(c:Tj Tryz.prog s.f=I:=by kernel_rfl)(d:∀x,zis ⟨tt,cs,an,fu,ex,[],[],[]⟩ fn s.dom s.cod x=s.M x:=by intro x;kernel_rfl)(e:s.bk=0:=by rfl):xI Tryz.prog s:=sg an a b c d e
abbrev q1(S:N (K×TF))(j:K)(T:N (K×TF)):Lp:=⟨⟨S,[]⟩,⟨[],[(.x j,⟨T,[]⟩)]⟩⟩
abbrev yg(s:QY):Prop:=xI Tryz.prog s
abbrev wJ:An:=⟨[],[],[],[],[],[],[]⟩
abbrev xc:Ty:=.l (.p .b (.l .u))
abbrev zO:Ty:=.p .b (.l .u)
abbrev tzQ:Ty:=.l (.l (.p .b (.l .u)))
abbrev kv:Ty:=.l .u
abbrev yP:Ty:=.l .i
def sgb(an:An){fn:jP}(a:Tryz.prog.funcs[s.f]? =Z fn)(b:∀s∈cs,xI Tryz.prog s)(c:Tj Tryz.prog s.f=I)(d:∀e x,zqT ⟨tt,cs,an,fu,ex,[],[],[]⟩ fn s.dom s.cod s.bk e x=s.M x):xI Tryz.prog s:=
 sgG zhJ zij zgX ziE O an a b c d
end
section
set_option maxRecDepth 100000
section
variable(fu:zV)
def o9(fu:K)(b:N K):(J->V J)->J->V J:=λL a=>if 0<a then E (a-1) λd=>zH d (X b) λe=>B (b.getD e 0) λf=>if(f:J)=(((0:K):K):J)then E (a-1) λg=>L g else Z a else Z a
def YF(a:N K):V (N K):=Y (zg (o9 fu a) fu<|(X a:J)) λe=>uC e λb=>ck (b<=X a)<|B (a.take b) λd=>ck ((X (([]:N K))+X d)*8<=140737488355328)<|B ((([]:N K))++d) λf=>Z f
def xj(b:G):V G:=Y (YF fu b.2) λa=>if b.1=I then if 0<(X a:J)then Z (I,a)else Z (yL,a)else Z (yL,a)
def wg(a:J):V G:=if a<0 then B (ng a) λb=>B (NY b) λd=>Y (xj fu (I,[d])) λe=>Z e else B (NY a) λf=>Y (xj fu (yL,[f])) λg=>Z g
def qe(b:G):V J:=Y (xj fu b) λa=>if a.1=I then Z (-1:J)else if 0<(X a.2:J)then Z (1:J)else Z (0:J)
def nK(b:N G):(J->V J)->J->V J:=λL a=>if 0<a then E (a-1) λd=>zH d (X b) λe=>B (b.getD e (yL,[])) λf=>Y (qe fu f) λg=>if g=0 then E (a-1) λh=>L h else Z a else Z a
def se(d:N G)(f:J):(((N G)×J)->V (N G))->((N G)×J)->V (N G):=λL (a,b)=>if b<f then zH b (X d) λg=>B (d.getD g (yL,[])) λh=>Y (xj fu h) λe=>ck ((X a+X ([e]))*32<=140737488355328)<|B (a++([e])) λi=>E (b+1) λj=>L (i,j)else Z a
def yZ(a:N G):V (N G):=Y (zg (nK fu a) fu<|(X a:J)) λb=>Y (zg (se fu a b) fu<|([],(0:J))) λd=>Z d
def ET(a:N J):(((N G)×J)->V (N G))->((N G)×J)->V (N G):=λL (b,d)=>if d<(X a:J)then zH d (X a) λf=>B (a.getD f 0) λg=>Y (wg fu g) λe=>ck ((X b+X ([e]))*32<=140737488355328)<|B (b++([e])) λh=>E (d+1) λi=>L (h,i)else Z b
def kN(a:N J):V (N G):=Y (zg (ET fu a) fu<|([],(0:J))) λb=>Y (yZ fu b) λd=>Z d
def pB(fu:K)(b:N K)(d:N K):(J->V (wW⊕wW))->J->V (wW⊕wW):=λL a=>if a<(X b:J)then zH a (X b) λe=>B (b.getD e 0) λf=>zH a (X d) λg=>B (d.getD g 0) λh=>if(f:J)=(h:J)then E (a+1) λi=>L i else Z (.inr ())else Z (.inl ())
def K8(a:N K)(b:N K):V ws:=if(X a:J)=(X b:J)then Y (zg (pB fu a b) fu (0:J)) λd=>match d with
 |.inl _=>Z I
 |.inr _=>Z yL else Z yL
def WV(a:G)(b:G):V ws:=B (a.1==b.1) λd=>if d then Y (K8 fu a.2 b.2) λe=>Z e else Z yL
def oi(b:N G)(d:N G):(J->V (wW⊕wW))->J->V (wW⊕wW):=λL a=>if a<(X b:J)then zH a (X b) λe=>B (b.getD e (yL,[])) λf=>zH a (X d) λg=>B (d.getD g (yL,[])) λh=>Y (WV fu f h) λi=>if !i then Z (.inr ())else E (a+1) λj=>L j else Z (.inl ())
def Vd(a:N G)(b:N G):V ws:=if(X a:J)=(X b:J)then Y (zg (oi fu a b) fu (0:J)) λd=>match d with
 |.inl _=>Z I
 |.inr _=>Z yL else Z yL
def nY(b:N ((N G)×J))(d:N ((N G)×J)):(J->V (wW⊕wW))->J->V (wW⊕wW):=λL a=>if a<(X b:J)then zH a (X b) λe=>B (b.getD e ([],0)) λf=>zH a (X d) λg=>B (d.getD g ([],0)) λh=>if f.2=h.2 then zH a (X b) λi=>B (b.getD i ([],0)) λj=>zH a (X d) λk=>B (d.getD k ([],0)) λl=>Y (Vd fu j.1 l.1) λm=>if !m then Z (.inr ())else E (a+1) λo=>L o else Z (.inr ())else Z (.inl ())
def W7(a:N ((N G)×J))(b:N ((N G)×J)):V ws:=if(X a:J)=(X b:J)then Y (zg (nY fu a b) fu (0:J)) λd=>match d with
 |.inl _=>Z I
 |.inr _=>Z yL else Z yL
def JL(fu:K)(a:N K)(b:J):V K:=if b<(X a:J)then zH b (X a) λd=>B (a.getD d 0) λe=>Z e else Z (0:K)
def rQ(b:J)(a:K)(f:N K)(g:N K):V (K×K):=Y (JL fu f b) λd=>Y (JL fu g b) λe=>ck (a<=1)<|B ((d+e+a)%18446744073709551616) λh=>B ((d+e+a)/18446744073709551616) λi=>Z (h,i)
def lV(fu:K)(e:J->K->V (K×K))(f:N K):((K×J×(N K))->V (K×(N K)))->(K×J×(N K))->V (K×(N K)):=λL (d,a,b)=>if a<(X f:J)then Y (e a d) λ(g,h)=>zH a (X b) λi=>B (b.set i g) λj=>E (a+1) λk=>L (h,k,j)else Z (d,b)
def qW(d:J)(e:J->K->V (K×K)):V ((N K)×K):=uC d λa=>ck (8*a<=281474976710656)<|B (sR a 0) λb=>Y (zg (lV fu e b) fu<|((0:K),(0:J),b)) λ(f,g)=>Z (g,f)
def zax(fu:K):((N K)->V (N K))->(N K)->V (N K):=λL a=>if 0<(X a:J)then E (((X a:J))-1) λd=>zH d (X a) λe=>B (a.getD e 0) λf=>if(f:J)=(((0:K):K):J)then E (((X a:J))-1) λg=>uC g λb=>ck (b<=X a)<|B (a.take b) λh=>L h else Z a else Z a
def wY(a:N K):V (N K):=Y (zg (zax fu) fu a) λb=>Z b
def dH(fu:K):((N K)->V (N K))->(N K)->V (N K):=λL a=>if 0<(X a:J)then E (((X a:J))-1) λd=>zH d (X a) λe=>B ((a.getD e 0)) λf=>if(f:J)=(((0:K):K):J)then E (((X a:J))-1) λg=>uC g λb=>ck (b<=X a)<|B (a.take b) λh=>L h else Z a else Z a
def xD(a:N K):V (N K):=Y (zg (dH fu) fu a) λb=>Z b
def YO(a:N K)(b:N K):V (N K):=B (max ((X a:J))<|(X b:J)) λf=>Y (qW fu f<|λc i=>rQ fu c i a b) λ(d,e)=>ck ((X d+X ([e]))*8<=140737488355328)<|B (d++([e])) λg=>Y (xD fu g) λh=>Z h
def XL(fu:K)(a:J):V ws:=if a=a then Z yL else Z I
def ZG(a:J)(b:J):V J:=Y (XL fu a) λe=>Y (XL fu b) λd=>if e then if d then Z (0:J)else Z (-1:J)else if d then Z (1:J)else if a<b then Z (-1:J)else if b<a then Z (1:J)else Z (0:J)
def uR(fu:K)(a:K):V ws:=if(a:J)=(a:J)then Z yL else Z I
def jZ(a:K)(b:K):V J:=Y (uR fu a) λe=>Y (uR fu b) λd=>if e then if d then Z (0:J)else Z (-1:J)else if d then Z (1:J)else if(a:J)<(b:J)then Z (-1:J)else if(b:J)<(a:J)then Z (1:J)else Z (0:J)
def sJ(b:N K)(d:N K):(J->V (wW⊕J))->J->V (wW⊕J):=λL a=>if 0<=a then zH a (X b) λe=>B (b.getD e 0) λf=>zH a (X d) λg=>B (d.getD g 0) λh=>if(f:J)=(h:J)then E (a-1) λi=>L i else zH a (X b) λj=>B (b.getD j 0) λk=>zH a (X d) λl=>B (d.getD l 0) λm=>Y (jZ fu k m) λo=>Z (.inr o)else Z (.inl ())
def UM(d:N K)(e:N K):V J:=Y (wY fu d) λa=>Y (wY fu e) λb=>if(X a:J)=(X b:J)then E (((X a:J))-1) λf=>Y (zg (sJ fu a b) fu f) λg=>match g with
 |.inl _=>Z (0:J)
 |.inr h=>Z h else Y (ZG fu ((X a:J))<|(X b:J)) λi=>Z i
def wC(fu:K)(a:N K):V (N K):=ck (X a<=17592186044416)<|some a
def XT(a:N K):V (N K):=Y (wY fu a) λb=>Y (wC fu b) λd=>Z d
def pQ(fu:K)(b:J)(a1:K)(a:N K)(d:J):V (K×K):=zH b (X a) λg=>B (a.getD g 0) λh=>ck ((64:J)≠0)<|B (xbn d (64:J)) λe=>ck (0<=e)<|B (h*2^(min (e:J).toNat 64)%18446744073709551616) λi=>B (i|||a1) λj=>zH b (X a) λk=>B (a.getD k 0) λl=>B (l/2^(min (((1:K)):J).toNat 64)) λm=>ck ((64:J)≠0)<|B (xbn d (64:J)) λo=>E ((63:J)-o) λf=>ck (0<=f)<|B (m/2^(min (f:J).toNat 64)) λp=>Z (j,p)
def Wb(fu:K)(a:N K)(e:J):V (N K):=uC e λb=>ck (8*b<=281474976710656)<|B (sR b 0) λd=>ck ((X d+X a)*8<=140737488355328)<|B (d++a) λf=>Z f
def Qf(b:N K)(a:J):V ((N K)×J):=if a<0 then Z (([],(1:J)))else if 262144<a then Z (([],(1:J)))else Y (qW fu ((X b:J))<|λc j=>pQ fu c j b a) λ(d,e)=>ck ((X d+X ([e]))*8<=140737488355328)<|B (d++([e])) λf=>ck ((64:J)≠0)<|E (xbQ a (64:J)) λg=>Y (Wb fu f g) λh=>Y (xD fu h) λi=>Z<|(i,(0:J))
def sn(d:J)(m:K)(a:N K)(b:J):V (K×K):=zH d (X a) λf=>B (a.getD f 0) λg=>ck (0<=b)<|B (g/2^(min (b:J).toNat 64)) λh=>E (d+1) λi=>Y (JL fu a i) λj=>B (j*2^(min (((1:K)):J).toNat 64)%18446744073709551616) λk=>E ((63:J)-b) λe=>ck (0<=e)<|B (k*2^(min (e:J).toNat 64)%18446744073709551616) λm4=>B (h|||m4) λl=>Z<|(l,(0:K))
def gw(a:N K)(f:J):V (N K):=B (max f (0:J)) λb=>ck ((64:J)≠0)<|E (xbQ b (64:J)) λg=>if(X a:J)<=g then Z []else ck ((64:J)≠0)<|E (xbQ b (64:J)) λh=>uC h λd=>ck (d<=X a)<|B (a.drop d) λe=>ck ((64:J)≠0)<|B (xbn b (64:J)) λi=>Y (qW fu ((X e:J))<|λc m=>sn fu c m e i) λ(j,l)=>Y (xD fu j) λk=>Z k
def wi(fu:K)(a:K):V J:=Y ((if 4294967296<=(a:J)then B (a/2^(min (32:J).toNat 64)) λg=>Z (g,32)else Z (a,0):V (K×J))) λ(b,e)=>Y ((if 65536<=(b:J)then B (b/2^(min (16:J).toNat 64)) λh=>E (e+16) λi=>Z (h,i)else Z (b,e):V (K×J))) λ(d,f)=>if 256<=(d:J)then B (d/2^(min (8:J).toNat 64)) λj=>E (f+8) λk=>B (j%256) λl=>B (xeM l) λm=>E (k+((m:J))) λo=>Z o else B (d%256) λp=>B (xeM p) λq=>E (f+((q:J))) λr=>Z r
def xL(a:K):V J:=Y (wi fu a) λb=>E ((64:J)-b) λd=>Z d
def kY(fu:K)(l:K)(m:K)(g:K):((K×K)->V K)->(K×K)->V K:=λL (a,h)=>if(((4294967296:K):K):J)<=(a:J)then B ((a+18446744073709551616-((1:K)))%18446744073709551616) λb=>B ((h+l)%18446744073709551616) λd=>if(((4294967296:K):K):J)<=(d:J)then Z b else L (b,d)else B ((a*m)%18446744073709551616) λi=>B ((((4294967296:K))*h)%18446744073709551616) λj=>B ((j+g)%18446744073709551616) λk=>if(k:J)<(i:J)then B ((a+18446744073709551616-((1:K)))%18446744073709551616) λe=>B ((h+l)%18446744073709551616) λf=>if(((4294967296:K):K):J)<=(f:J)then Z e else L (e,f)else Z a
def k9(fu:K)(k:K)(l:K)(f:K):((K×K)->V K)->(K×K)->V K:=λL (g,a)=>if(((4294967296:K):K):J)<=(a:J)then B ((a+18446744073709551616-((1:K)))%18446744073709551616) λb=>B ((g+k)%18446744073709551616) λm32=>if(((4294967296:K):K):J)<=(m32:J)then Z b else L (m32,b)else B ((a*l)%18446744073709551616) λh=>B ((((4294967296:K))*g)%18446744073709551616) λi=>B ((i+f)%18446744073709551616) λj=>if(j:J)<(h:J)then B ((a+18446744073709551616-((1:K)))%18446744073709551616) λd=>B ((g+k)%18446744073709551616) λe=>if(((4294967296:K):K):J)<=(e:J)then Z d else L (e,d)else Z a
def kf(o:zV)(l:zV)(a:zV):V (zV×zV):=if(a:J)=(((0:zV):zV):J)then yD else if(a:J)<=(o:J)then yD else if(o:J)=(((0:zV):zV):J)then ck (a≠0)<|nm (l/a) λc=>ck (a≠0)<|nm (l%a) λK=>Z (c,K)else Y (xL fu a) λM=>nm (NY M) λf=>nm (a*2^(min (f:J).toNat 64)%18446744073709551616) λm=>nm (m/2^(min (((32:zV)):J).toNat 64)) λb=>nm (m &&& ((4294967295:zV))) λG=>nm (o*2^(min (f:J).toNat 64)%18446744073709551616) λN=>nm ((((64:zV))+18446744073709551616-f)%18446744073709551616) λn=>nm (l/2^(min (n:J).toNat 64)) λm9=>nm (N|||m9) λd=>nm (l*2^(min (f:J).toNat 64)%18446744073709551616) λg=>nm (g/2^(min (((32:zV)):J).toNat 64)) λh=>nm (g &&& ((4294967295:zV))) λi=>ck (b≠0)<|nm (d/b) λj=>nm ((j*b)%18446744073709551616) λp=>nm ((d+18446744073709551616-p)%18446744073709551616) λq=>Y (zg (kY fu b G h) fu (j,q)) λH=>nm ((d*((4294967296:zV)))%18446744073709551616) λr=>nm ((r+h)%18446744073709551616) λs=>nm ((H*m)%18446744073709551616) λt=>nm ((s+18446744073709551616-t)%18446744073709551616) λe=>ck (b≠0)<|nm (e/b) λk=>nm ((k*b)%18446744073709551616) λu=>nm ((e+18446744073709551616-u)%18446744073709551616) λv=>Y (zg (k9 fu b G i) fu (v,k)) λz=>nm ((H*((4294967296:zV)))%18446744073709551616) λw=>nm ((w+z)%18446744073709551616) λx=>nm ((e*((4294967296:zV)))%18446744073709551616) λy=>nm ((y+i)%18446744073709551616) λA=>nm ((z*m)%18446744073709551616) λB=>nm ((A+18446744073709551616-B)%18446744073709551616) λC=>nm (C/2^(min (f:J).toNat 64)) λE=>Z (x,E)
def jV(fu:K)(a:K)(b:K):V (K×K):=B (a &&& ((4294967295:K))) λl=>B (a/2^(min (((32:K)):J).toNat 64)) λm=>B (b &&& ((4294967295:K))) λo=>B (b/2^(min (((32:K)):J).toNat 64)) λp=>B ((l*o)%18446744073709551616) λr=>B ((m*o)%18446744073709551616) λs=>B (r/2^(min (((32:K)):J).toNat 64)) λt=>B ((s+t)%18446744073709551616) λq=>B (q &&& ((4294967295:K))) λu=>B (q/2^(min (((32:K)):J).toNat 64)) λd=>B ((l*p)%18446744073709551616) λe=>B ((u+e)%18446744073709551616) λf=>B ((m*p)%18446744073709551616) λg=>B ((g+d)%18446744073709551616) λh=>B (f/2^(min (((32:K)):J).toNat 64)) λi=>B ((h+i)%18446744073709551616) λj=>B ((a*b)%18446744073709551616) λk=>Z (j,k)
def fI(i:K)(d:K)(j:K):((K×K)->V K)->(K×K)->V K:=λL (b,a)=>Y (jV fu b j) λ(f,k)=>if(f:J)<(a:J)then Z b else if(f:J)=(a:J)then if(k:J)<=(i:J)then Z b else B ((b+18446744073709551616-((1:K)))%18446744073709551616) λg=>ck ((0:K)<=1)<|B ((a+d+((0:K)))%18446744073709551616) λl=>B ((a+d+((0:K)))/18446744073709551616) λm=>if(((0:K):K):J)<(m:J)then Z g else L (g,l)else B ((b+18446744073709551616-((1:K)))%18446744073709551616) λh=>ck ((0:K)<=1)<|B ((a+d+((0:K)))%18446744073709551616) λo=>B ((a+d+((0:K)))/18446744073709551616) λe=>if(((0:K):K):J)<(e:J)then Z h else L (h,o)
def cD(b:K)(d:K)(e:K)(a:K)(f:K):V K:=if(a:J)<=(b:J)then Z (18446744073709551615:K)else Y (kf fu b d a) λ(g,h)=>Y (zg (fI fu e a f) fu (g,h)) λi=>Z i
def oh(b:J)(a:K)(f:N K)(g:N K):V (K×K):=Y (JL fu f b) λd=>Y (JL fu g b) λe=>ck (a<=1)<|B ((d+18446744073709551616-e-a)%18446744073709551616) λh=>B (if d<e+a then 1 else 0) λi=>Z (h,i)
def UH(a:N K)(b:N K):V ((N K)×J):=B (max ((X a:J))<|(X b:J)) λd=>Y (qW fu d<|λc h=>oh fu c h a b) λ(e,f)=>if(((0:K):K):J)<(f:J)then Z (([],(1:J)))else Y (xD fu e) λg=>Z<|(g,(0:J))
def Qx(a:N K)(b:N K):V (N K):=Y (UH fu a b) λ(d,e)=>Z d
def rf(e:J)(a:K)(b:N K)(f:K):V (K×K):=zH e (X b) λg=>B (b.getD g 0) λh=>Y (jV fu h f) λ(i,d)=>ck ((0:K)<=1)<|B ((d+a+((0:K)))%18446744073709551616) λj=>B ((d+a+((0:K)))/18446744073709551616) λk=>B ((i+k)%18446744073709551616) λl=>Z (j,l)
def UO(a:N K)(e:K):V (N K):=Y (qW fu ((X a:J))<|λc g=>rf fu c g a e) λ(b,d)=>ck ((X b+X ([d]))*8<=140737488355328)<|B (b++([d])) λf=>Z f
def eN(d:N K)(f:K):((K×J×(N K))->V (K×(N K)))->(K×J×(N K))->V (K×(N K)):=λL (e,a,b)=>if 0<=a then zH a (X d) λg=>B (d.getD g 0) λh=>Y (kf fu e h f) λ(i,j)=>zH a (X b) λk=>B (b.set k i) λl=>E (a-1) λm=>L (j,m,l)else Z (e,b)
def JK(a:N K)(d:K):V ((N K)×K):=uC ((X a:J)) λb=>ck (8*b<=281474976710656)<|B (sR b 0) λe=>E (((X a:J))-1) λf=>Y (zg (eN fu a d) fu<|((0:K),f,e)) λ(g,h)=>Y (xD fu h) λi=>Z (i,g)
def pk(b:N K):((J×J×K×(N K))->V (J×J×K×(N K)))->(J×J×K×(N K))->V (J×J×K×(N K)):=λL (g,h,d,a)=>Y (UO fu b d) λe=>Y (UM fu e a) λf=>if 0<f then B ((d+18446744073709551616-((1:K)))%18446744073709551616) λi=>L (g,h,i,a)else Z (g,h,d,a)
def JM(D:J)(e:zC zV):(((zC zV)×J×(zC zV)×(zC zV))->z7 ((zC zV)×(zC zV)))->((zC zV)×J×(zC zV)×(zC zV))->z7 ((zC zV)×(zC zV)):=λL (b,d,a,f)=>if 0<=d then zf (d+((Wl e:J))) λp=>zH p (Wl a) λP=>nm ((a.getD P 0)) λQ=>zf (d+((Wl e:J))) λq=>zf (q-1) λr=>zH r (Wl a) λR=>nm ((a.getD R 0)) λS=>zf (d+((Wl e:J))) λs=>zf (s-2) λt=>zH t (Wl a) λU=>nm ((a.getD U 0)) λV=>zf (((Wl e:J))-1) λu=>zH u (Wl b) λW=>nm (b.getD W 0) λX=>zf (((Wl e:J))-2) λv=>zH v (Wl b) λY=>nm (b.getD Y 0) λc=>bd (cD fu Q S V X c) λz=>zf (d+((Wl e:J))) λw=>zf (w+1) λx=>uC d λg=>uC x λh=>ck (g<=h/\h<=Wl a)<|nm (xdo (h-g)<|xdD g a) λj=>ck ((Wl (([]:zC zV))+Wl j)*8<=140737488355328)<|nm ((([]:zC zV))++j) λy=>bd (zg (pk fu b) fu<|(D,(Wl e:J),z,y)) λ(i4,M,N,A)=>zH d (Wl f) λB=>nm (f.set B N) λC=>uC d λi=>ck (i<=Wl a)<|bd (UO fu b N) λE=>bd (Qx fu A E) λk=>zf (M+1) λG=>uC G λl=>ck ((Wl k+l)*8<=140737488355328)<|nm (k++sR l 0) λm=>zf (M+1) λH=>uC H λo=>ck (o<=Wl m)<|nm (m.take o) λF=>nm (Bh i (Wl a-i) a F) λn=>zf (d-1) λK=>L (b,K,n,C)else Z (a,f)
def gx(p:N zV)(q:N zV):V ((N zV)×(N zV)×J):=Y (wY fu p) λb=>Y (wY fu q) λa=>Y ((if(X a:J)=0 then Z I else Z yL:V ws)) λr=>if r then Z (([],[],(3:J)))else Y ((Y (UM fu b a) λs=>if s<0 then Z I else Z yL:V ws)) λt=>if t then Y (XT fu b) λu=>Z (([],u,(0:J)))else if(X a:J)=1 then zH 0 (X a) λv=>nm (a.getD v 0) λw=>Y (JK fu b w) λ(x,y)=>Y (xD fu [y]) λA=>Z ((x,A,(0:J)))else zf (((X a:J))-1) λB=>zH B (X a) λC=>nm (a.getD C 0) λE=>Y (xL fu E) λd=>Y (Qf fu a d) λ(e,K)=>Y (Qf fu b d) λ(f,M)=>zf (((X b:J))+1) λG=>zf (G-((X f:J))) λH=>uC H λk=>ck ((X f+k)*8<=140737488355328)<|nm (f++sR k 0) λl=>zf (((X l:J))-((X e:J))) λc=>uC c λm=>ck (8*m<=281474976710656)<|nm (sR m 0) λo=>zf (((X o:J))-1) λn=>Y (zg (JM fu d e) fu (e,n,l,o)) λ(g,h)=>Y (xD fu h) λi=>Y (gw fu g d) λj=>Z<|(i,j,(0:J))
def xw(b:ws)(d:N K):V G:=Y (XT fu d) λa=>if b then if 0<(X a:J)then Z (I,a)else Z (yL,a)else Z (yL,a)
def Qt(b:G)(d:G):V (G×G×J):=Y (gx fu b.2 d.2) λ(e,a,f)=>if f=0 then Y ((if b.1=I then if 0<(X a:J)then Y (YO fu e [(1:K)]) λg=>Y (UH fu d.2 a) λ(h,o)=>Z (g,h)else Z (e,a)else Z (e,a):V ((N K)×(N K)))) λ(i,j)=>B (!(b.1==d.1)) λk=>Y (xw fu k i) λl=>Y (xw fu yL j) λm=>Z ((l,m,(0:J)))else Z (((yL,[]),(yL,[]),f))
def ki(a:G):V G:=Y (xw fu a.1 a.2) λb=>Z b
def wo(b:G):V J:=Y (ki fu b) λa=>if a.1=I then E ((0:J)-2) λd=>E (d+1) λe=>Z e else if 0<(X a.2:J)then E ((0:J)+1) λf=>Z f else Z (0:J)
def uY(b:G)(d:G):V (G×J):=Y (Qt fu b d) λ(e,f,a)=>Y ((if a=0 then Z yL else Z I:V ws)) λg=>if g then Z (((yL,[]),a))else Y (wo fu f) λh=>if h=0 then Z ((e,(0:J)))else Z (((yL,[]),(4:J)))
def ay(fu:K)(d:J)(i:N K)(j:N K)(k:J)(e:N K):((K×J×(N K)×(N K))->V (N K))->(K×J×(N K)×(N K))->V (N K):=λL (f,a,b,g)=>Y ((if a<(X e:J)then Z ((i,d,j,k,d,(X e:J),I))else Z ((i,d,j,k,d,(X e:J),yL)):V ((N K)×J×(N K)×J×J×J×ws))) λ(y,l,A,B,C,E,p)=>if p then zH a (X g) λq=>nm ((g.getD q 0)) λm=>zf (l+a) λr=>zf (l+a) λs=>zH s (X b) λt=>nm ((b.getD t 0)) λo=>ck (f<=1)<|nm ((o+m+f)%18446744073709551616) λu=>nm ((o+m+f)/18446744073709551616) λv=>zH r (X b) λw=>nm (b.set w u) λh=>zf (a+1) λx=>L (v,x,h,g)else Z b
def py(f:N K)(a:N K):((J×(N K))->V (N K))->(J×(N K))->V (N K):=λL (b,g)=>Y ((if b<(X a:J)then Z ((f,a,(X a:J),I))else Z ((f,a,(X a:J),yL)):V ((N K)×(N K)×J×ws))) λ(h,d,j,k)=>if k then zH b (X d) λl=>B (d.getD l 0) λm=>Y (UO fu h m) λi=>Y (zg (ay fu b h d j i) fu<|((0:K),(0:J),g,i)) λe=>E (b+1) λo=>L (o,e)else Z g
def K9(d:N K)(e:N K):V (N K):=E (((X d:J))+((X e:J))) λg=>E (g+1) λh=>uC h λf=>ck (8*f<=281474976710656)<|B (sR f 0) λi=>Y (zg (py fu d e) fu<|((0:J),i)) λa=>Y (xD fu a) λb=>Z b
def UR:zV->(zC zV)->(zC zV)->V (zC zV)
 |0,_,_=>yD
 |fu+1,y,A=>Y (wY fu y) λa=>Y (wY fu A) λb=>nm (min ((X a:J))<|(X b:J)) λB=>if B<8 then Y (K9 fu a b) λC=>Z C else nm (max ((X a:J))<|(X b:J)) λE=>ck ((2:J)≠0)<|zf (xbQ E (2:J)) λd=>nm (min d<|(X a:J)) λG=>uC G λq=>ck (q<=X a)<|nm (a.take q) λH=>Y (wY fu H) λr=>nm (min d<|(X a:J)) λn=>uC n λs=>ck (s<=X a)<|nm (a.drop s) λt=>nm (min d<|(X b:J)) λc=>uC c λu=>ck (u<=X b)<|nm (b.take u) λK=>Y (wY fu K) λv=>nm (min d<|(X b:J)) λM=>uC M λw=>ck (w<=X b)<|nm (b.drop w) λx=>Y (UR fu r v) λe=>Y (UR fu t x) λf=>Y (YO fu r t) λg=>Y (YO fu v x) λh=>Y (UR fu g h) λi=>Y (Qx fu i e) λj=>Y (Qx fu j f) λk=>Y (Wb fu k d) λl=>Y (YO fu e l) λm=>zf ((2:J)*d) λN=>Y (Wb fu f N) λo=>Y (YO fu m o) λp=>Z p
def yi(a:G)(b:G):V G:=B (!(a.1==b.1)) λd=>Y (UR fu a.2 b.2) λe=>Y (xw fu d e) λf=>Z f
def jm(a:G)(b:G):V G:=B (a.1==b.1) λe=>if e then Y (YO fu a.2 b.2) λf=>Y (xw fu a.1 f) λg=>Z g else Y ((Y (UM fu a.2 b.2) λh=>if h<0 then Z (b,a)else Z (a,b):V (G×G))) λ(d,i)=>Y (UH fu d.2 i.2) λ(j,l)=>Y (xw fu d.1 j) λk=>Z k
def XR(a:G):V G:=Y (xw fu (!a.1) a.2) λb=>Z b
def kt(a:G)(b:G):V G:=Y (XR fu b) λd=>Y (jm fu a d) λe=>Z e
def bh(d:J)(a:G):V G:=Y (ki fu a) λb=>Z b
def vJ(fu:K)(a:N G)(f:J->G->V G):((J×(N G))->V (N G))->(J×(N G))->V (N G):=λL (b,d)=>Y ((if b<(X a:J)then Z ((a,(X a:J),I))else Z ((a,(X a:J),yL)):V ((N G)×J×ws))) λ(e,o,g)=>if g then zH b (X e) λh=>B (e.getD h (yL,[])) λi=>Y (f b i) λj=>zH b (X d) λk=>B (d.set k j) λl=>E (b+1) λm=>L (m,l)else Z d
def zM(a:N G)(d:J->G->V G):V (N G):=uC ((X a:J)) λb=>ck (32*b<=281474976710656)<|B (sR b (yL,[])) λe=>Y (zg (vJ fu a d) fu<|((0:J),e)) λf=>Z f
def o5:((N G)->V (N G))->(N G)->V (N G):=λL a=>if 0<(X a:J)then E (((X a:J))-1) λd=>zH d (X a) λe=>B (a.getD e (yL,[])) λf=>Y (wo fu f) λg=>if g=0 then E (((X a:J))-1) λh=>uC h λb=>ck (b<=X a)<|B (a.take b) λi=>L i else Z a else Z a
def ya(a:N G):V (N G):=Y (zg (o5 fu) fu a) λb=>Y (zM fu b<|λc e=>bh fu c e) λd=>Z d
def dQ(k:J)(g:N G):((J×(N G)×(N G)×(N G)×G)->V ((N G)×(N G)×(N G)))->(J×(N G)×(N G)×(N G)×G)->V ((N G)×(N G)×(N G)):=λL (a,f,b,d,e)=>Y ((if a<(X g:J)then Z ((k,(X g:J),I))else Z ((k,(X g:J),yL)):V (J×J×ws))) λ(l,w,m)=>if m then zH a (X f) λo=>B ((f.getD o (yL,[]))) λp=>E (l+a) λq=>E (l+a) λh=>zH h (X b) λr=>B ((b.getD r (yL,[]))) λs=>Y (yi fu e p) λt=>Y (kt fu s t) λu=>zH q (X b) λv=>B (b.set v u) λi=>E (a+1) λj=>L (j,f,i,d,e)else Z (f,b,d)
def fK:((J×(N G)×(N G)×(N G))->V (((N G)×(N G))⊕J))->(J×(N G)×(N G)×(N G))->V (((N G)×(N G))⊕J):=λL (b,a,d,e)=>if 0<=b then E (b+((X a:J))) λl=>E (l-1) λm=>zH m (X d) λo=>B ((d.getD o (yL,[]))) λp=>E (((X a:J))-1) λq=>zH q (X a) λr=>B ((a.getD r (yL,[]))) λs=>Y (uY fu p s) λ(j,k)=>if k=0 then zH b (X e) λt=>B (e.set t j) λu=>Y (zg (dQ fu b a) fu<|((0:J),a,d,u,j)) λ(f,g,h)=>E (b-1) λi=>L (i,f,g,h)else Z (.inr k)else Z (.inl (d,e))
def wV(j:N G)(k:N G):V ((N G)×J):=Y (ya fu j) λa=>Y (ya fu k) λb=>if(X b:J)=0 then Z (([],(3:J)))else Y ((if 0<(X a:J)then if(X a:J)<(X b:J)then Z (.inr ())else Z (.inl ())else Z (.inl ()):V (wW⊕wW))) λl=>match l with
 |.inl _=>(E (((X a:J))-((X b:J))) λm=>E (m+1) λo=>B (max o (0:J)) λp=>uC p λh=>ck (32*h<=281474976710656)<|B (sR h (yL,[])) λi=>E (((X i:J))-1) λq=>Y (zg (fK fu) fu (q,b,a,i)) λr=>match r with
 |.inl (d,e)=>Y (ya fu d) λf=>if 0<(X f:J)then Z (([],(4:J)))else Y (ya fu e) λg=>Z<|(g,(0:J))
 |.inr s=>Z ([],s))
 |.inr _=>Z<|([],(4:J))
def aG(b:N G):((J×(N G)×J)->V J)->(J×(N G)×J)->V J:=λL (a,d,e)=>if e=0 then E (a+1) λf=>Y (wV fu d b) λ(g,h)=>L (f,g,h)else Z a
def Vy(b:N G)(a:N G):V J:=Y (wV fu b a) λ(d,e)=>Y (zg (aG fu a) fu<|((0:J),d,e)) λf=>Z f
def YR(fu:K)(d:J):((ws×J)->V ws)->(ws×J)->V ws:=λL (b,a)=>if b then E (a*a) λe=>if e<=d then ck (a≠0)<|B (xbn d a) λf=>if f=0 then Z yL else E (a+1) λg=>L (b,g)else Z b else Z b
def ZY(a:J):V ws:=Y ((if 2<=a then if a<=65521 then Z I else Z yL else Z yL:V ws)) λb=>Y (zg (YR fu a) fu<|(b,(2:J))) λd=>Z d
def yC(a:J):V G:=if a<0 then B (NY a) λb=>B ((18446744073709551616-b)%18446744073709551616) λd=>Y (xw fu I [d]) λe=>Z e else B (NY a) λf=>Y (xw fu yL [f]) λg=>Z g
def ZW(b:N K):V J:=Y (wY fu b) λa=>if(X a:J)=0 then Z (0:J)else E (((X a:J))-1) λd=>E ((64:J)*d) λe=>E (((X a:J))-1) λf=>zH f (X a) λg=>B (a.getD g 0) λh=>Y (wi fu h) λi=>E (e+i) λj=>Z j
def lu:((J×G×G)->V G)->(J×G×G)->V G:=λL (a,b,d)=>if 0<a then B (ziI a (1:J)) λf=>if f=1 then Y (yi fu d b) λe=>if 1<a then Y (yi fu b b) λg=>B (xfF a<|2^(min (((1:K)):J).toNat 64)) λh=>L (h,g,e)else B (xfF a<|2^(min (((1:K)):J).toNat 64)) λi=>L (i,b,e)else if 1<a then Y (yi fu b b) λj=>B (xfF a<|2^(min (((1:K)):J).toNat 64)) λk=>L (k,j,d)else B (xfF a<|2^(min (((1:K)):J).toNat 64)) λl=>L (l,b,d)else Z d
def ia(b:G)(a:J):V (G×J):=Y ((if a<0 then Z I else if 65536<a then Z I else Z yL:V ws)) λd=>if d then Z (((yL,[]),(1:J)))else Y (ZW fu b.2) λe=>E (e*a) λf=>if 262144<f then Z (((yL,[]),(6:J)))else Y (yC fu (1:J)) λg=>Y (ki fu b) λh=>Y (zg (lu fu) fu (a,h,g)) λi=>Z<|(i,(0:J))
def jy(b:J)(a:J):V (G×J):=Y (ZY fu b) λd=>if !d then Z (((yL,[]),(1:J)))else if a<1 then Z (((yL,[]),(1:J)))else if 1000<a then Z (((yL,[]),(1:J)))else Y (yC fu b) λe=>Y (ia fu e a) λ(f,g)=>Z (f,g)
def fY(fu:K)(a:N G)(e:G)(g:G->G->V (G×J)):((J×(N G))->V (N G))->(J×(N G))->V (N G):=λL (b,d)=>Y ((if b<(X a:J)then Z ((e,a,(X a:J),I))else Z ((e,a,(X a:J),yL)):V (G×(N G)×J×ws))) λ(h,f,q,i)=>if i then zH b (X f) λj=>B (f.getD j (yL,[])) λk=>Y (g k h) λ(l,r)=>zH b (X d) λm=>B (d.set m l) λo=>E (b+1) λp=>L (p,o)else Z d
def jv(a:N G)(b:G)(e:G->G->V (G×J)):V ((N G)×J):=Y (wo fu b) λf=>if f<=0 then Z (([],(1:J)))else uC ((X a:J)) λd=>ck (32*d<=281474976710656)<|B (sR d (yL,[])) λg=>Y (zg (fY fu a b e) fu<|((0:J),g)) λh=>Y (ya fu h) λi=>Z<|(i,(0:J))
def jX(b:G)(a:G):V (G×J):=Y (wo fu a) λd=>if d<=0 then Z (((yL,[]),(1:J)))else Y (Qt fu b a) λ(f,e,g)=>Z<|(e,(0:J))
def VK(a:N G)(b:G):V ((N G)×J):=Y (jv fu a b<|λc f=>jX fu c f) λ(d,e)=>Z (d,e)
def xB(a:N G)(b:G):V (N G):=Y (VK fu a b) λ(d,e)=>Z d
def vC(a:J):V J:=Y (ZY fu a) λb=>if !b then Z (1:J)else Z (0:J)
def Ys(fu:K)(d:J)(a:J):V J:=if a<1 then Z (0:J)else ck (a≠0)<|B (xbn d a) λb=>if b<0 then E (b+a) λe=>Z e else Z b
def CA(fu:K):((J×J×J×J)->V (J⊕wW))->(J×J×J×J)->V (J⊕wW):=λL (d,a,f,b)=>if a=0 then Z (.inr ())else if a=1 then Z (.inl b)else ck (a≠0)<|E (xbQ d a) λe=>E (e*a) λg=>E (d-g) λh=>E (e*b) λi=>E (f-i) λj=>L (a,h,b,j)
def JW(d:J)(a:J):V (J×J):=Y (vC fu a) λb=>if b=0 then Y (Ys fu d a) λe=>Y (zg (CA fu) fu<|(a,e,(0:J),(1:J))) λf=>match f with
 |.inl g=>Y (Ys fu g a) λh=>Z<|(h,(0:J))
 |.inr _=>Z (((0:J),(3:J)))else Z (((0:J),b))
def lZ(b:N J)(e:J):((J×(N J))->V (N J))->(J×(N J))->V (N J):=λL (a,d)=>if a<(X b:J)then zH a (X b) λf=>B (b.getD f 0) λg=>Y (Ys fu g e) λh=>zH a (X d) λi=>B (d.set i h) λj=>E (a+1) λk=>L (k,j)else Z d
def mi(fu:K):((N J)->V (N J))->(N J)->V (N J):=λL a=>if 0<(X a:J)then E (((X a:J))-1) λd=>zH d (X a) λe=>B ((a.getD e 0)) λf=>if f=0 then E (((X a:J))-1) λg=>uC g λb=>ck (b<=X a)<|B (a.take b) λh=>L h else Z a else Z a
def yq(a:N J)(d:J):V (N J):=uC ((X a:J)) λb=>ck (8*b<=281474976710656)<|B (sR b 0) λe=>Y (zg (lZ fu a d) fu<|((0:J),e)) λf=>Y (zg (mi fu) fu f) λg=>Z g
def VO(fu:K)(a:N J)(q:J)(b:J):(((N J)×J×J×J×(N J)×(N J))->V ((N J)×J×J×(N J)×(N J)))->((N J)×J×J×J×(N J)×(N J))->V ((N J)×J×J×(N J)×(N J)):=λL (r,d,s,e,f,t)=>Y ((if e<(X a:J)then Z ((q,b,a,(X a:J),I))else Z ((q,b,a,(X a:J),yL)):V (J×J×(N J)×J×ws))) λ(u,w,v,E,x)=>if x then zH e (X v) λy=>nm (v.getD y 0) λA=>zf (u+e) λg=>zf (u+e) λh=>zH h (X f) λB=>nm ((f.getD B 0)) λi=>zf (d-w) λj=>zf (j*A) λk=>zf (i+k) λl=>ck (d≠0)<|nm (xbn l d) λm=>zH g (X f) λC=>nm (f.set C m) λo=>zf (e+1) λp=>L (r,d,s,p,o,t)else Z (r,d,s,f,t)
def WG(e:N J)(f:J)(k:J):((J×(N J)×(N J))->V ((N J)×(N J)))->(J×(N J)×(N J))->V ((N J)×(N J)):=λL (a,d,g)=>if 0<=a then E (a+((X e:J))) λl=>E (l-1) λm=>zH m (X d) λo=>B ((d.getD o 0)) λp=>E (p*k) λq=>ck (f≠0)<|B (xbn q f) λb=>zH a (X g) λr=>B (g.set r b) λs=>Y (zg (VO fu e a b) fu<|(e,f,k,(0:J),d,s)) λ(t,u,v,h,i)=>E (a-1) λj=>L (j,h,i)else Z (d,g)
def xU(j:N J)(a:N J)(b:J):V ((N J)×(N J)):=ck ((X (([]:N J))+X j)*8<=140737488355328)<|B ((([]:N J))++j) λd=>E (((X d:J))-((X a:J))) λe=>if e<0 then Z ([],d)else E (((X a:J))-1) λl=>zH l (X a) λm=>B (a.getD m 0) λo=>Y (JW fu o b) λ(p,s)=>E (e+1) λq=>uC q λk=>ck (8*k<=281474976710656)<|B (sR k 0) λr=>Y (zg (WG fu a b p) fu (e,d,r)) λ(f,g)=>Y (yq fu g b) λh=>Y (yq fu f b) λi=>Z (h,i)
def cY(fu:K)(e:J)(a:N J)(f:J)(g:N J)(h:J)(i:J):((J×(N J))->V (N J))->(J×(N J))->V (N J):=λL (b,d)=>Y ((if b<(X a:J)then Z ((a,f,e,i,g,h,e,a,(X a:J),I))else Z ((a,f,e,i,g,h,e,a,(X a:J),yL)):V ((N J)×J×J×J×(N J)×J×J×(N J)×J×ws))) λ(E,j,k,m,G,H,c,l,o,p)=>if p then zH b (X l) λq=>nm (l.getD q 0) λr=>zf (k+b) λs=>zf (k+b) λt=>zH t (X d) λu=>nm ((d.getD u 0)) λv=>zf (m*r) λw=>zf (v+w) λx=>ck (j≠0)<|nm (xbn x j) λy=>zH s (X d) λA=>nm (d.set A y) λB=>zf (b+1) λC=>L (C,B)else Z d
def b9(a:N J)(f:N J)(g:J):((J×(N J))->V (N J))->(J×(N J))->V (N J):=λL (b,h)=>Y ((if b<(X a:J)then Z ((f,g,a,(X a:J),I))else Z ((f,g,a,(X a:J),yL)):V ((N J)×J×(N J)×J×ws))) λ(i,j,d,k,l)=>if l then zH b (X d) λm=>B (d.getD m 0) λo=>Y (zg (cY fu b i j d k o) fu<|((0:J),h)) λe=>E (b+1) λp=>L (p,e)else Z h
def vm(d:N J)(e:N J)(f:J):V (N J):=E (((X d:J))+((X e:J))) λh=>uC h λg=>ck (8*g<=281474976710656)<|B (sR g 0) λi=>Y (zg (b9 fu d e f) fu<|((0:J),i)) λa=>Y (yq fu a f) λb=>Z b
def Bu(fu:K)(a:N J)(e:J)(f:J):((J×(N J))->V (N J))->(J×(N J))->V (N J):=λL (b,d)=>Y ((if b<(X a:J)then Z ((e,f,a,(X a:J),I))else Z ((e,f,a,(X a:J),yL)):V (J×J×(N J)×J×ws))) λ(h,t,g,u,i)=>if i then zH b (X g) λj=>B (g.getD j 0) λk=>zH b (X d) λl=>B ((d.getD l 0)) λm=>E (h*k) λo=>E (m+o) λp=>zH b (X d) λq=>B (d.set q p) λr=>E (b+1) λs=>L (s,r)else Z d
def Wo(a:N J)(b:N J)(f:J)(d:J):V (N J):=B (max ((X a:J))<|(X b:J)) λg=>uC g λe=>ck (8*e<=281474976710656)<|B (sR e 0) λh=>B (cpy h a) λi=>Y (zg (Bu fu b f d) fu<|((0:J),i)) λj=>Y (yq fu j d) λk=>Z k
def Yx(e:N (N J))(f:J):(((N J)×J×(N<|N J)×(N<|N J))->V ((N<|N J)×(N<|N J)))->((N J)×J×(N<|N J)×(N<|N J))->V ((N<|N J)×(N<|N J)):=λL (g,a,b,h)=>Y ((if a<3 then Z (f,e,I)else Z (f,e,yL):V (J×(N<|N J)×ws))) λ(d,i,j)=>if j then zH a (3) λk=>zH a (3) λl=>B (i.getD l []) λm=>Y (vm fu g m d) λo=>E (d-1) λp=>Y (Wo fu (b.getD k []) o p d) λq=>zH a (3) λr=>B (b.set r q) λs=>E (a+1) λt=>L (g,t,s,h)else Z (b,h)
def WH(b:N (N J))(d:N (N J))(e:J):V (N<|N J):=zH 0 (3) λf=>zH 0 (3) λg=>B (d.getD g []) λh=>Y (xU fu (b.getD f []) h e) λ(i,k)=>Y (zg (Yx fu d e) fu<|(i,(0:J),b,(sR 3 []))) λ(a,j)=>Z a
def jz(b:N J)(d:J)(a:J):V (N J):=Y (JW fu d a) λ(e,g)=>Y (vm fu b [e] a) λf=>Z f
def YI(d:J):(((N<|N J)×(N<|N J))->V (N<|N J))->((N<|N J)×(N<|N J))->V (N<|N J):=λL (b,a)=>zH 0 (3) λe=>if 0<((X ((a.getD e [])):K):J)then Y (WH fu b a d) λf=>L (a,f)else Z b
def vO(d:J)(e:J):((J×(N<|N J))->V (N<|N J))->(J×(N<|N J))->V (N<|N J):=λL (a,b)=>if a<3 then zH a (3) λf=>Y (jz fu (b.getD f []) e d) λg=>zH a (3) λh=>B (b.set h g) λi=>E (a+1) λj=>L (j,i)else Z b
def ZP(k:N J)(l:N J)(d:J):V ((N J)×(N J)×(N J)×J):=Y (vC fu d) λh=>if h=0 then Y (yq fu k d) λm=>Y (yq fu l d) λo=>Y (zg (YI fu d) fu<|([m,[(1:J)],[]],[o,[],[(1:J)]])) λa=>zH 0 (3) λi=>Y ((if 0<((X ((a.getD i [])):K):J)then Z I else Z yL:V ws)) λp=>if p then zH 0 (3) λj=>E ((((X ((a.getD i [])):K):J))-1) λq=>zH q (X ((a.getD j []))) λr=>B (((a.getD j [])).getD r 0) λs=>Y (zg (vO fu d s) fu<|((0:J),a)) λb=>zH 0 (3) λt=>zH 1 (3) λu=>zH 2 (3) λv=>Z (((b.getD t []),(b.getD u []),(b.getD v []),(0:J)))else zH 0 (3) λe=>zH 1 (3) λf=>zH 2 (3) λg=>Z (((a.getD e []),(a.getD f []),(a.getD g []),(0:J)))else Z ([],[],[],h)
def uE(a:N J)(b:N J)(d:J):V ((N J)×J):=Y (ZP fu a b d) λ(e,g,h,f)=>Z (e,f)
def uG(d:N J)(e:N J)(a:J):V ((N J)×J):=Y (vC fu a) λb=>if b=0 then Y (yq fu d a) λf=>Y (yq fu e a) λg=>Y (vm fu f g a) λh=>Z ((h,(0:J)))else Z ([],b)
def JH(d:N J)(e:N J)(a:J):V ((N J)×J):=Y (vC fu a) λb=>if b=0 then Y (yq fu d a) λf=>Y (yq fu e a) λg=>E (a-1) λh=>Y (Wo fu f g h a) λi=>Z ((i,(0:J)))else Z ([],b)
def WY(a:N J)(b:N J)(d:J):V ws:=Y (JH fu a b d) λ(e,f)=>if(X e:J)=0 then Z I else Z yL
def Qw(fu:K)(a:N J)(e:J):(J->V (wW⊕wW))->J->V (wW⊕wW):=λL b=>if b<(X a:J)then zH b (X a) λf=>B (a.getD f 0) λd=>if d<0 then Z (.inr ())else if e<=d then Z (.inr ())else E (b+1) λg=>L g else Z (.inl ())
def Vm(a:N J)(b:J):V ws:=Y (zg (Qw fu a b) fu (0:J)) λd=>match d with
 |.inl _=>if 1<(X a:J)then E (((X a:J))-1) λe=>zH e (X a) λf=>B (a.getD f 0) λg=>if g=1 then Z I else Z yL else Z yL
 |.inr _=>Z yL
def ab(a:N (N J))(e:J):(((N J)×J)->V (N J))->((N J)×J)->V (N J):=λL (d,b)=>if b<(X a:J)then zH b (X a) λf=>B (a.getD f []) λg=>Y (uG fu d g e) λ(h,j)=>E (b+1) λi=>L (h,i)else Z d
def jc(a:N (N J))(b:J):V (N J):=Y (zg (ab fu a b) fu<|([(1:J)],(0:J))) λd=>Z d
def Uw(b:G):V (J×ws):=Y (ki fu b) λa=>Y ((if(X a.2:J)=0 then Z I else Z yL:V ws)) λd=>if d then Z (((0:J),I))else Y ((if 1<(X a.2:J)then Z I else Z yL:V ws)) λe=>if e then Z (((0:J),yL))else Y ((if a.1=I then zH 0 (X a.2) λf=>B (a.2.getD f 0) λg=>if(g:J)<=(((9223372036854775808:K):K):J)then Z I else Z yL else Z yL:V ws)) λh=>if h then zH 0 (X a.2) λi=>B (a.2.getD i 0) λj=>B ((18446744073709551616-j)%18446744073709551616) λk=>B (sgn k) λl=>Z (l,I)else if a.1=I then Z (((0:J),yL))else zH 0 (X a.2) λm=>B (a.2.getD m 0) λo=>if(((9223372036854775807:K):K):J)<(o:J)then Z (((0:J),yL))else zH 0 (X a.2) λp=>B (a.2.getD p 0) λq=>B (sgn q) λr=>Z (r,I)
def cm(b:G)(d:J):V (J×J):=Y (yC fu d) λe=>Y (jX fu b e) λ(f,a)=>if a=0 then Y (Uw fu f) λ(g,h)=>Z ((g,(0:J)))else Z (((0:J),a))
def Jh(e:J)(a:G)(b:J):V J:=Y (cm fu a b) λ(d,f)=>Z d
def ZQ(fu:K)(a:N G)(f:J->G->V J):((J×(N J))->V (N J))->(J×(N J))->V (N J):=λL (b,d)=>Y ((if b<(X a:J)then Z ((a,(X a:J),I))else Z ((a,(X a:J),yL)):V ((N G)×J×ws))) λ(e,o,g)=>if g then zH b (X e) λh=>B (e.getD h (yL,[])) λi=>Y (f b i) λj=>zH b (X d) λk=>B (d.set k j) λl=>E (b+1) λm=>L (m,l)else Z d
def kL(a:N G)(d:J->G->V J):V (N J):=uC ((X a:J)) λb=>ck (8*b<=281474976710656)<|B (sR b 0) λe=>Y (zg (ZQ fu a d) fu<|((0:J),e)) λf=>Z f
def AI(fu:K):((N J)->V (N J))->(N J)->V (N J):=λL a=>if 0<(X a:J)then E (((X a:J))-1) λd=>zH d (X a) λe=>B ((a.getD e 0)) λf=>if f=0 then E (((X a:J))-1) λg=>uC g λb=>ck (b<=X a)<|B (a.take b) λh=>L h else Z a else Z a
def Yr(b:N G)(a:J):V ((N J)×J):=if a<1 then Z (([],(1:J)))else Y (kL fu b<|λc f=>Jh fu c f a) λd=>Y (zg (AI fu) fu d) λe=>Z<|(e,(0:J))
def uy(d:J)(e:N J)(a:N (N J)):(J->V (wW⊕wW))->J->V (wW⊕wW):=λL b=>if b<(X a:J)then zH b (X a) λf=>B (a.getD f []) λg=>Y (uE fu e g d) λ(h,j)=>if(X h:J)=1 then E (b+1) λi=>L i else Z (.inr ())else Z (.inl ())
def um(e:N G)(a:N (N J))(f:J):((J×(N J))->V ((N J)⊕wW))->(J×(N J))->V ((N J)⊕wW):=λL (b,g)=>Y ((if b<(X a:J)then Z ((e,a,f,a,(X a:J),I))else Z ((e,a,f,a,(X a:J),yL)):V ((N G)×(N<|N J)×J×(N<|N J)×J×ws))) λ(l,h,i,j,t,m)=>if m then zH b (X j) λo=>B (j.getD o []) λd=>if(X l:J)<(X d:J)then Z (.inr ())else Y (Vm fu d i) λp=>if !p then Z (.inr ())else uC b λk=>ck (k<=X h)<|B (h.take k) λq=>Y (zg (uy fu i d q) fu (0:J)) λr=>match r with
 |.inl _=>E (b+1) λs=>L (s,g)
 |.inr _=>Z (.inr ())else Z (.inl g)
def qj(a:N G)(e:N (N J))(b:J):V ws:=Y (Yr fu a b) λ(h,o)=>if(X a:J)=0 then Z yL else if(X h:J)=(X a:J)then if(X a:J)<(X e:J)then Z yL else Y (zg (um fu a e b) fu<|((0:J),h)) λj=>match j with
 |.inl d=>Y (jc fu e b) λk=>E (((X d:J))-1) λl=>uC l λi=>ck (i<=X d)<|B (d.drop i) λf=>Y (uG fu k f b) λ(g,p)=>Y (WY fu g d b) λm=>Z m
 |.inr _=>Z yL else Z yL
def XM(a:N G)(j:J):(((N G)×G×J×(N G)×(N G))->V ((N G)×G×(N G)×(N G)))->((N G)×G×J×(N G)×(N G))->V ((N G)×G×(N G)×(N G)):=λL (k,l,b,d,f)=>Y ((if b<(X a:J)then Z ((j,a,(X a:J),I))else Z ((j,a,(X a:J),yL)):V (J×(N G)×J×ws))) λ(g,e,A,m)=>if m then zH b (X e) λo=>B (e.getD o (yL,[])) λp=>E (g+b) λq=>E (g+b) λr=>zH r (X d) λs=>B ((d.getD s (yL,[]))) λt=>zH g (X f) λu=>B ((f.getD u (yL,[]))) λv=>Y (yi fu v p) λw=>Y (kt fu t w) λx=>zH q (X d) λy=>B (d.set y x) λh=>E (b+1) λi=>L (k,l,i,h,f)else Z (k,l,d,f)
def XU(d:N G)(i:G):((J×(N G)×(N G))->V ((N G)×(N G)))->(J×(N G)×(N G))->V ((N G)×(N G)):=λL (a,b,e)=>if 0<=a then E (a+((X d:J))) λj=>E (j-1) λk=>zH k (X b) λl=>B ((b.getD l (yL,[]))) λm=>Y (jX fu m i) λ(o,t)=>zH a (X e) λp=>B (e.set p o) λq=>Y (zg (XM fu d a) fu<|(d,i,(0:J),b,q)) λ(r,s,f,g)=>E (a-1) λh=>L (h,f,g)else Z (b,e)
def uj(k:N G)(g:N G)(a:G):V ((N G)×(N G)):=Y (xB fu k a) λh=>E (((X h:J))-((X g:J))) λl=>E (l+1) λm=>B (max m (0:J)) λo=>uC o λi=>ck (32*i<=281474976710656)<|B (sR i (yL,[])) λj=>E (((X j:J))-1) λp=>Y (zg (XU fu g a) fu (p,h,j)) λ(b,d)=>Y (xB fu d a) λe=>Y (xB fu b a) λf=>Z (e,f)
def Zo(b:J)(d:G)(a:N G):V G:=if b<(X a:J)then zH b (X a) λe=>B (a.getD e (yL,[])) λf=>Y (jm fu d f) λg=>Z g else Z d
def q6(a:N G)(b:N G):V (N G):=if(X a:J)<(X b:J)then Y (zM fu b<|λc h=>Zo fu c h a) λd=>Y (ya fu d) λe=>Z e else Y (zM fu a<|λc h=>Zo fu c h b) λf=>Y (ya fu f) λg=>Z g
def AD(e:J)(a:N G)(g:N G)(h:J):((J×(N G)×G)->V (N G))->(J×(N G)×G)->V (N G):=λL (b,d,i)=>Y ((if b<(X a:J)then Z ((a,e,g,h,e,a,(X a:J),I))else Z ((a,e,g,h,e,a,(X a:J),yL)):V ((N G)×J×(N G)×J×J×(N G)×J×ws))) λ(x,j,y,A,B,k,C,l)=>if l then zH b (X k) λm=>nm (k.getD m (yL,[])) λo=>E (j+b) λp=>E (j+b) λq=>zH q (X d) λr=>nm ((d.getD r (yL,[]))) λs=>Y (yi fu i o) λt=>Y (jm fu s t) λu=>zH p (X d) λv=>nm (d.set v u) λf=>E (b+1) λw=>L (w,f,i)else Z d
def BE(a:N G)(f:N G):((J×(N G))->V (N G))->(J×(N G))->V (N G):=λL (b,g)=>Y ((if b<(X a:J)then Z ((f,a,(X a:J),I))else Z ((f,a,(X a:J),yL)):V ((N G)×(N G)×J×ws))) λ(h,d,i,j)=>if j then zH b (X d) λk=>B (d.getD k (yL,[])) λl=>Y (zg (AD fu b h d i) fu<|((0:J),g,l)) λe=>E (b+1) λm=>L (m,e)else Z g
def w5(d:N G)(e:N G):V (N G):=E (((X d:J))+((X e:J))) λg=>uC g λf=>ck (32*f<=281474976710656)<|B (sR f (yL,[])) λh=>Y (zg (BE fu d e) fu<|((0:J),h)) λa=>Y (ya fu a) λb=>Z b
def WM(d:J)(a:J):V G:=Y (yC fu a) λb=>Z b
def Yz(fu:K)(b:N J)(e:J->J->V G):((J×(N G))->V (N G))->(J×(N G))->V (N G):=λL (a,d)=>if a<(X b:J)then zH a (X b) λf=>B (b.getD f 0) λg=>Y (e a g) λh=>zH a (X d) λi=>B (d.set i h) λj=>E (a+1) λk=>L (k,j)else Z d
def kD(a:N J)(d:J->J->V G):V (N G):=uC ((X a:J)) λb=>ck (32*b<=281474976710656)<|B (sR b (yL,[])) λe=>Y (zg (Yz fu a d) fu<|((0:J),e)) λf=>Z f
def jW(a:N J):V (N G):=Y (kD fu a<|λc e=>WM fu c e) λb=>Y (ya fu b) λd=>Z d
def QM(a:N J):V (N G):=Y (jW fu a) λb=>Z b
def Ka(e:J)(a:G)(b:G):V G:=Y (yi fu a b) λd=>Z d
def qQ(a:N G)(b:G):V (N G):=Y (zM fu a<|λc f=>Ka fu c f b) λd=>Y (ya fu d) λe=>Z e
def uF(a:N G)(b:N G):V (N G):=Y (yC fu (-1:J)) λd=>Y (qQ fu b d) λe=>Y (q6 fu a e) λf=>Z f
def ur(f:zC (zC Zr))(G:zC Zr)(a:Zr):V (zC<|zC Zr):=zH 0 (4) λH=>nm (f.getD H []) λi=>zH 1 (4) λn=>nm (f.getD n []) λj=>zH 2 (4) λc=>nm (f.getD c []) λg=>zH 3 (4) λK=>nm (f.getD K []) λh=>Y (w5 fu i j) λM=>Y (uF fu G M) λN=>Y (xB fu N a) λE=>Y (w5 fu g E) λz=>Y (uj fu z j a) λ(P,Q)=>Y (w5 fu h E) λR=>Y (w5 fu P i) λS=>Y (q6 fu R S) λU=>Y (q6 fu i U) λk=>Y (xB fu k a) λb=>Y (q6 fu j Q) λl=>Y (xB fu l a) λd=>Y (w5 fu g b) λm=>Y (w5 fu h d) λo=>Y (q6 fu m o) λp=>Y (QM fu [(1:J)]) λq=>Y (uF fu p q) λr=>Y (xB fu r a) λe=>Y (w5 fu g e) λs=>Y (uj fu s d a) λ(t,u)=>Y (uF fu g u) λv=>Y (xB fu v a) λw=>Y (w5 fu h e) λx=>Y (w5 fu t b) λy=>Y (q6 fu x y) λA=>Y (uF fu h A) λB=>Y (xB fu B a) λC=>Z [b,d,w,C]
def YM(a:G×(G×G))(b:G)(d:G×(G×G)):V (G×(G×G)):=Y (yi fu b d.1) λe=>Y (kt fu a.1 e) λf=>Y (yi fu b d.2.1) λg=>Y (kt fu a.2.1 g) λh=>Y (yi fu b d.2.2) λi=>Y (kt fu a.2.2 i) λj=>Z (f,h,j)
def Kl:(((G×(G×G))×(G×(G×G)))->V (G×(G×G)))->((G×(G×G))×(G×(G×G)))->V (G×(G×G)):=λL (b,a)=>Y (wo fu a.1) λd=>if d=0 then Z b else Y (Qt fu b.1 a.1) λ(e,g,h)=>Y (YM fu b e a) λf=>L (a,f)
def Jo(g:G)(h:G):V (G×G×G):=Y (xw fu yL g.2) λi=>Y (yC fu (1:J)) λj=>Y (yC fu (0:J)) λk=>Y (xw fu yL h.2) λl=>Y (yC fu (0:J)) λm=>Y (yC fu (1:J)) λo=>Y (zg (Kl fu) fu<|((i,j,k),(l,m,o))) λa=>Y ((Y (wo fu g) λp=>if p<0 then Y (XR fu a.2.1) λd=>B ((a.1,(d,a.2.2))) λq=>Z q else Z a:V (G×(G×G)))) λb=>Y ((Y (wo fu h) λr=>if r<0 then Y (XR fu b.2.2) λe=>B ((b.1,(b.2.1,e))) λs=>Z s else Z b:V (G×(G×G)))) λf=>Z (f.1,f.2.1,f.2.2)
def UC(a:N G)(b:G):V (N G):=E (((X a:J))-1) λd=>zH d (X a) λe=>B (a.getD e (yL,[])) λf=>Y (Jo fu f b) λ(j,g,k)=>Y (qQ fu a g) λh=>Y (xB fu h b) λi=>Z i
def Xq(g:N G)(h:J)(d:J):((J×(N<|N G))->V (N<|N G))->(J×(N<|N G))->V (N<|N G):=λL (e,a)=>if e<d then E ((2:J)*e) λi=>B (min i d) λf=>Y (jy fu h f) λ(j,k)=>Y (ur fu a g j) λb=>L (f,b)else Z a
def qX:zV->(zC Zr)->(zC<|zC J)->J->J->Zr->V (zC<|zC Zr)
 |0,_,_,_,_,_=>yD
 |fu+1,d,a,b,i,j=>if(X a:J)=1 then Y (UC fu d j) λC=>Z [C]else ck ((2:J)≠0)<|zf (xbQ ((X a:J)) (2:J)) λh=>zf (((X d:J))-1) λE=>uC E λu=>ck (u<=X d)<|nm (d.drop u) λG=>Y (Yr fu G b) λ(H,n)=>uC h λv=>ck (v<=X a)<|nm (a.take v) λz=>Y (jc fu z b) λc=>Y (uG fu c H b) λ(w,P)=>uC h λx=>ck (x<=X a)<|nm (a.drop x) λK=>Y (jc fu K b) λy=>Y (ZP fu w y b) λ(Q,k,l,R)=>Y (jW fu w) λm=>Y (jW fu y) λo=>Y (jW fu k) λp=>Y (jW fu l) λq=>Y (zg (Xq fu d b i) fu<|((1:J),[m,o,p,q])) λe=>zH 0 (4) λM=>uC h λA=>ck (A<=X a)<|nm (a.take A) λr=>Y (qX fu (e.getD M []) r b i j) λf=>zH 1 (4) λN=>uC h λB=>ck (B<=X a)<|nm (a.drop B) λs=>Y (qX fu (e.getD N []) s b i j) λg=>ck ((X f+X g)*24<=140737488355328)<|nm (f++g) λt=>Z t
def kn(h:N G)(a:N (N J))(b:J)(e:J):V ((N<|N G)×J):=Y (jy fu b e) λ(f,g)=>Y (ya fu h) λd=>if g=0 then if 65<(X d:J)then Z (([],(6:J)))else Y (qj fu d a b) λi=>if !i then Z (([],(1:J)))else if(X a:J)=0 then Z (([],(0:J)))else Y (xB fu d f) λj=>Y (qX fu j a b e f) λk=>Z ((k,(0:J)))else Z ([],g)
def Ue(a:N G)(b:N G)(d:G):V ((N G)×J):=Y (w5 fu a b) λe=>Y (VK fu e d) λ(f,g)=>Z (f,g)
def uU(a:G)(b:G):V J:=Y (kt fu a b) λd=>Y (wo fu d) λe=>Z e
def Vz(e:G)(d:G):V (G×J):=Y (jX fu e d) λ(a,b)=>if b=0 then Y (jm fu a a) λf=>Y (uU fu f d) λg=>if 0<g then Y (kt fu a d) λh=>Z (h,b)else Z (a,b)else Z (a,b)
def Q5(a:N G)(b:G):V ((N G)×J):=Y (jv fu a b<|λc f=>Vz fu c f) λ(d,e)=>Z (d,e)
def FA:(((N K)×(N K))->V (N K))->((N K)×(N K))->V (N K):=λL (b,a)=>if 0<(X a:J)then Y (gx fu b a) λ(e,d,f)=>L (a,d)else Z b
def aw(a:G)(b:G):V G:=Y (XT fu a.2) λd=>Y (XT fu b.2) λe=>Y (zg (FA fu) fu (d,e)) λf=>Y (xw fu yL f) λg=>Z g
def dk(b:N G):((J×(N G)×G×G)->V ((N G)×G×G))->(J×(N G)×G×G)->V ((N G)×G×G):=λL (d,a,e,f)=>Y ((if d<(X b:J)then Z (((X b:J),I))else Z (((X b:J),yL)):V (J×ws))) λ(l,g)=>if g then zH d (X a) λh=>B ((a.getD h (yL,[]))) λi=>Y (aw fu f i) λj=>E (d+1) λk=>L (k,a,e,j)else Z (a,e,f)
def qy(e:N G):V G:=Y (ya fu e) λd=>Y (yC fu (0:J)) λf=>Y (zg (dk fu d) fu<|((0:J),d,(yL,[]),f)) λ(a,k,b)=>if 0<(X a:J)then E (((X a:J))-1) λg=>zH g (X a) λh=>B (((a.getD h (yL,[]))).1) λi=>if i then Y (XR fu b) λj=>Z j else Z b else Z b
def aO(e:J)(a:G)(b:G):V G:=Y (uY fu a b) λ(d,f)=>Z d
def vd(a:N G):V (N G):=Y (qy fu a) λb=>Y (ya fu a) λd=>Y (zM fu d<|λc f=>aO fu c f b) λe=>Z e
def Zw(e:N (N G))(b:N J)(f:G):(((N G)×J×(N J))->V ((N G)×(N J)))->((N G)×J×(N J))->V ((N G)×(N J)):=λL (g,d,a)=>Y ((if d<(X b:J)then Z ((e,f,(X b:J),I))else Z ((e,f,(X b:J),yL)):V ((N<|N G)×G×J×ws))) λ(h,i,r,j)=>if j then zH d (X a) λk=>B ((a.getD k 0)) λl=>zH l (X h) λm=>B (h.getD m []) λo=>Y (Ue fu g o i) λ(p,s)=>E (d+1) λq=>L (p,q,a)else Z (g,a)
def kV(a:N G)(g:N (N G))(d:N J)(e:G):V ((N G)×(N J)):=E (((X a:J))-1) λh=>uC h λf=>ck (f<=X a)<|B (a.drop f) λi=>Y (zg (Zw fu g d e) fu<|(i,(0:J),d)) λ(j,k)=>Y (Q5 fu j e) λ(l,m)=>Y (vd fu l) λb=>Z (b,k)
def jd{X Y R:Type}(fu:K)(n c:J)(g:N J->X->V (N J×(X⊕Y)))(x:X)(xs:N J)(L:X->N J->J->J->J->J->J->V R)(E:X->J->J->N J->V R)(f:Y->N J->V R):V R:=bd (g xs x) λr=>xfj (λd=>zf (n-1) λa=>bd (zg (λL i=>if 0<=i then zH i (Wl r.1) λj=>B (r.1.getD j 0) λy=>zf (c-n) λe=>zf (e+i) λe=>if y=e then zf (i-1) λi=>L i else Z i else Z i) fu a) λi=>if i<0 then E d a i r.1 else zH i (Wl r.1) λj=>B (r.1.getD j 0) λy=>zf (y+1) λe=>zH i (Wl r.1) λj=>B (r.1.set j e) λxs=>zf (i+1) λb=>bd (zg (λL (z:J×N J)=>if z.1<n then zf (z.1-1) λe=>zH e (Wl z.2) λj=>B (z.2.getD j 0) λy=>zf (y+1) λe=>zH z.1 (Wl z.2) λj=>B (z.2.set j e) λxs=>zf (z.1+1) λi=>L (i,xs)else Z z.2) fu (b,xs)) λxs=>L d xs b i e y a) (λy=>f y r.1) r.2
def vB{X Y:Type}(fu:K)(n b:J)(g:N J->X->V (N J×(X⊕Y)))(a:X):V (X⊕Y):=uC n λm=>ck (8*m<=281474976710656)<|B (sR m 0) λxs=>bd (zg (λL (z:N J×J)=>if z.2<(Wl xs:J)then zH z.2 (Wl z.1) λj=>B (z.1.set j z.2) λxs=>E (z.2+1) λi=>L (xs,i)else Z z.1) fu (xs,0)) λxs=>zg (λL (q:X×N J)=>jd fu n b g q.1 q.2 (λx xs _ _ _ _ _=>L (x,xs)) (λx _ _ _=>Z (.inl x)) λy _=>Z (.inr y)) fu (a,xs)
def fh(fu:K)(b:N J)(d:J):(J->V (wW⊕J))->J->V (wW⊕J):=λL a=>if a<(X b:J)then zH a (X b) λe=>B (b.getD e 0) λf=>if d=f then Z (.inr a)else E (a+1) λg=>L g else Z (.inl ())
def Vj(a:N J)(b:J):V J:=Y (zg (fh fu a b) fu (0:J)) λd=>match d with
 |.inl _=>Z (-1:J)
 |.inr e=>Z e
def qK(fu:K)(b:N J)(d:J):(J->V (wW⊕J))->J->V (wW⊕J):=λL a=>if a<(X b:J)then zH a (X b) λe=>B ((b.getD e 0)) λf=>if d=f then Z (.inr a)else E (a+1) λg=>L g else Z (.inl ())
def jK(a:N J)(b:J):V (J×(N J)):=Y (zg (qK fu a b) fu (0:J)) λd=>match d with
 |.inl _=>Z<|((-1:J),a)
 |.inr e=>Z (e,a)
def YZ(a:N J)(b:J):V ws:=Y (Vj fu a b) λd=>if 0<=d then Z I else Z yL
def wA(b:N J)(d:J):V (ws×(N J)):=Y (jK fu b d) λ(e,a)=>if 0<=e then Z (I,a)else Z (yL,a)
def zaE(a:N (N G))(e:N J):(((N<|N G)×J)->V (N<|N G))->((N<|N G)×J)->V (N<|N G):=λL (d,b)=>Y ((if b<(X a:J)then Z ((e,a,(X a:J),I))else Z ((e,a,(X a:J),yL)):V ((N J)×(N<|N G)×J×ws))) λ(h,f,p,i)=>if i then zH b (X f) λj=>B (f.getD j []) λg=>Y (YZ fu h b) λk=>if !k then ck ((X d+X ([g]))*24<=140737488355328)<|B (d++([g])) λl=>E (b+1) λm=>L (l,m)else E (b+1) λo=>L (d,o)else Z d
def ZF(a:N (N G)):(((N<|N G)×J×(N J))->V ((N<|N G)×(N J)))->((N<|N G)×J×(N J))->V ((N<|N G)×(N J)):=λL (d,b,e)=>Y ((if b<(X a:J)then Z ((a,(X a:J),I))else Z ((a,(X a:J),yL)):V ((N<|N G)×J×ws))) λ(f,p,i)=>if i then zH b (X f) λj=>B (f.getD j []) λg=>Y (wA fu e b) λ(k,h)=>if !k then ck ((X d+X ([g]))*24<=140737488355328)<|B (d++([g])) λl=>E (b+1) λm=>L (l,m,h)else E (b+1) λo=>L (d,o,h)else Z (d,e)
def wb(a:N (N G))(b:N J):V ((N<|N G)×(N J)):=Y (zg (ZF fu a) fu<|([],(0:J),b)) λ(d,e)=>Z (d,e)
def jQ(b:(ws×N K))(ys:N J)(y:N (ws×N K)×N (N<|ws×N K)×N (N<|ws×N K)):V (N J×((N (ws×N K)×N (N<|ws×N K)×N (N<|ws×N K))⊕(N (ws×N K)×N (N<|ws×N K)×N (N<|ws×N K)))):=Y (kV fu y.1 y.2.1 ys b) λc=>Y (wV fu y.1 c.1) λq=>if q.2=0 then if 1<(X c.1:J)then ck ((X y.2.2+1)*24<=140737488355328)<|B (y.2.2++[c.1]) λpr=>Y (wb fu y.2.1 c.2) λw=>Z (w.2,.inr (q.1,w.1,pr))else Z (c.2,.inl y)else Z (c.2,.inl y)
def Xu(b:(ws×N K))(x:N (ws×N K)×N (N<|ws×N K)×N (N<|ws×N K)×J)(L:N (ws×N K)×N (N<|ws×N K)×N (N<|ws×N K)×J->V (N (ws×N K)×N (N<|ws×N K)×N (N<|ws×N K))):V (N (ws×N K)×N (N<|ws×N K)×N (N<|ws×N K)):=E (2*x.2.2.2) λd=>if d<=(X x.2.1:J)then Y (vB fu x.2.2.2 (X x.2.1:J) (jQ fu b) (x.1,x.2.1,x.2.2.1)) λr=>xfj (λy=>E (x.2.2.2+1) λi=>L (y.1,y.2.1,y.2.2,i)) (λy=>L (y.1,y.2.1,y.2.2,x.2.2.2)) r else Z (x.1,x.2.1,x.2.2.1)
def Y8(f:N (ws×N K))(a:N (N<|ws×N K))(b:(ws×N K)):V (N<|N<|ws×N K):=Y (zg (λL x=>Xu fu b x L) fu (f,a,[],1)) λx=>if 1<(X x.1:J)then Y (vd fu x.1) λq=>ck ((X x.2.2+1)*24<=140737488355328)<|B (x.2.2++[q]) λpr=>Z pr else Z x.2.2
def nU(b:N G)(d:N G):(J->V (wW⊕ws))->J->V (wW⊕ws):=λL a=>if 0<=a then zH a (X b) λf=>B ((b.getD f (yL,[]))) λg=>zH a (X d) λh=>B ((d.getD h (yL,[]))) λi=>Y (uU fu g i) λe=>if e=0 then E (a-1) λj=>L j else if e<0 then Z (.inr I)else Z (.inr yL)else Z (.inl ())
def WK(d:N G)(e:N G):V ws:=Y (ya fu d) λa=>Y (ya fu e) λb=>if(X a:J)=(X b:J)then E (((X a:J))-1) λf=>Y (zg (nU fu a b) fu f) λg=>match g with
 |.inl _=>Z yL
 |.inr h=>Z h else if(X a:J)<(X b:J)then Z I else Z yL
def uz(a:N G)(b:N G):V J:=Y (WK fu a b) λd=>if d then Z (-1:J)else Y (WK fu b a) λe=>if e then Z (1:J)else Z (0:J)
def Jk(f:J)(g:G):((J×G×J×G)->V (J×G×G))->(J×G×J×G)->V (J×G×G):=λL (a,b,d,e)=>if d<f then Y (yi fu e g) λh=>E (d+1) λi=>L (a,b,i,h)else Z (a,b,e)
def eH(g:G)(d:J):((G×G×G)->V G)->(G×G×G)->V G:=λL (e,a,f)=>Y (jm fu a f) λh=>Y (gw fu h.2 (1:J)) λi=>Y (xw fu yL i) λb=>Y (uU fu b a) λj=>if j=0 then Z a else Y (yC fu (1:J)) λk=>Y (zg (Jk fu d b) fu<|(d,g,(0:J),k)) λ(p,l,m)=>Y (uU fu m l) λo=>if o<=0 then L (e,b,f)else L (e,a,b)
def cy(b:G)(a:J):V (G×J):=if a<1 then Z (((yL,[]),(1:J)))else if 64<a then Z (((yL,[]),(1:J)))else Y (wo fu b) λe=>if e<0 then Z (((yL,[]),(1:J)))else Y (yC fu (0:J)) λf=>Y (ZW fu b.2) λg=>ck (a≠0)<|E (xbQ g a) λh=>E (h+1) λi=>B (min i (262144:J)) λj=>Y (Qf fu [(1:K)] j) λ(k,m)=>Y (xw fu yL k) λl=>Y (zg (eH fu b a) fu<|((yL,[]),f,l)) λd=>Z<|(d,(0:J))
def W5(b:N G):V J:=Y (ya fu b) λa=>if(X a:J)=0 then Z (8:J)else if 65<(X a:J)then Z (6:J)else Z (0:J)
def oT(b:N G):((J×(N G)×G×G)->V ((N G)×G×G))->(J×(N G)×G×G)->V ((N G)×G×G):=λL (d,a,e,f)=>Y ((if d<(X b:J)then Z (((X b:J),I))else Z (((X b:J),yL)):V (J×ws))) λ(m,h)=>if h then zH d (X a) λi=>B ((a.getD i (yL,[]))) λg=>Y (yi fu g g) λj=>Y (jm fu f j) λk=>E (d+1) λl=>L (l,a,e,k)else Z (a,e,f)
def vV(a:N G):V (G×J):=Y (W5 fu a) λb=>if b=0 then Y (ya fu a) λd=>Y (yC fu (-1:J)) λe=>Y (zg (oT fu d) fu<|((0:J),d,(yL,[]),e)) λ(f,o,g)=>Y (cy fu g (2:J)) λ(h,p)=>Y (yC fu (1:J)) λi=>Y (jm fu h i) λj=>E (((X f:J))-1) λk=>Y (Qf fu j.2 k) λ(l,q)=>Y (ki fu (yL,l)) λm=>Z ((m,(0:J)))else Z (((yL,[]),b))
def Kn(d:J)(e:G):((J×G)->V J)->(J×G)->V J:=λL (a,b)=>Y (uU fu b e) λf=>if f<=0 then Y (yC fu d) λg=>Y (yi fu b g) λh=>E (a+1) λi=>L (i,h)else Z a
def Q6(a:N G)(b:J):V J:=Y (vV fu a) λ(d,m)=>Y (yC fu (2:J)) λe=>E (((X a:J))-1) λf=>zH f (X a) λg=>B (a.getD g (yL,[])) λh=>Y (yi fu d h) λi=>Y (yi fu e i) λj=>Y (yC fu b) λk=>Y (zg (Kn fu b j) fu<|((1:J),k)) λl=>Z l
def Uu(a:N G):V ws:=Y (vV fu a) λ(b,k)=>Y (yC fu (2:J)) λd=>E (((X a:J))-1) λe=>zH e (X a) λf=>B (a.getD f (yL,[])) λg=>Y (yi fu b g) λh=>Y (yi fu d h) λi=>Y (ZW fu i.2) λj=>if 1000<j then Z I else Z yL
def QF(fu:K)(b:N J)(d:N J):(J->V (wW⊕J))->J->V (wW⊕J):=λL a=>if 0<=a then zH a (X b) λe=>B (b.getD e 0) λf=>zH a (X d) λg=>B (d.getD g 0) λh=>if f<h then Z (.inr (-1:J))else zH a (X b) λi=>B (b.getD i 0) λj=>zH a (X d) λk=>B (d.getD k 0) λl=>if l<j then Z (.inr (1:J))else E (a-1) λm=>L m else Z (.inl ())
def qg(a:N J)(b:N J):V J:=if(X a:J)=(X b:J)then E (((X a:J))-1) λd=>Y (zg (QF fu a b) fu d) λe=>match e with
 |.inl _=>Z (0:J)
 |.inr f=>Z f else E (((X a:J))-((X b:J))) λg=>Z g
def uu(fu:K)(a:N J)(b:J):V ws:=zH b (X a) λd=>B (a.getD d 0) λe=>if e=0 then Z yL else Z I
def pY(b:N J)(e:J):((J×(N J))->V (N J))->(J×(N J))->V (N J):=λL (a,d)=>if a<(X b:J)then zH a (X b) λf=>B (b.getD f 0) λg=>Y (Ys fu g e) λh=>zH a (X d) λi=>B (d.set i h) λj=>E (a+1) λk=>L (k,j)else Z d
def W3(a:N J)(d:J):V (N J):=uC ((X a:J)) λb=>ck (8*b<=281474976710656)<|B (sR b 0) λe=>Y (zg (pY fu a d) fu<|((0:J),e)) λf=>Z f
def ra(fu:K)(a:N (N J)):(J->V (wW⊕wW))->J->V (wW⊕wW):=λL b=>Y ((if b<(X a:J)then Z ((a,a,(X a:J),I))else Z ((a,a,(X a:J),yL)):V ((N<|N J)×(N<|N J)×J×ws))) λ(d,e,l,g)=>if g then zH b (X e) λh=>B (e.getD h []) λf=>if 64<(X f:J)then Z (.inr ())else zH 0 (X d) λi=>B (d.getD i []) λj=>if(X f:J)=(X j:J)then E (b+1) λk=>L k else Z (.inr ())else Z (.inl ())
def Vk(a:N (N J))(b:J):V J:=Y (vC fu b) λd=>if d=0 then if 64<(X a:J)then Z (1:J)else Y (zg (ra fu a) fu (0:J)) λe=>match e with
 |.inl _=>Z (0:J)
 |.inr _=>Z (1:J)else Z (1:J)
def qY(b:N (N J))(ix:N K)(r:K)(a p:J)(lo n:K):V (N<|N J):=Y (zg (λL (x:((N (N J)×N K)×K×K)×(K×K)×K×J)=>if x.2.2.2<(n:J)then zH x.2.2.2 x.2.1.2 λj=>B (x.1.1.2.getD (x.2.1.1+j) 0) λq=>zH a (X (x.1.1.1.getD q [])) λj=>B ((x.1.1.1.getD q []).getD j 0) λy=>Y (zg (λL (z:((N (N J)×N K)×K×K)×(K×K)×K×K×K×J)=>if z.2.2.2.2.2<(X (x.1.1.1.getD x.2.2.1 []):J)then zH z.2.2.2.2.2 (X (z.1.1.1.getD z.2.2.2.1 [])) λj=>B ((z.1.1.1.getD z.2.2.2.1 []).getD j 0) λv=>zH z.2.2.2.2.2 (X (z.1.1.1.getD z.2.2.2.2.1 [])) λj=>B ((z.1.1.1.getD z.2.2.2.2.1 []).getD j 0) λu=>E (p-y) λe=>E (e*v) λe=>E (u+e) λe=>ck (p≠0)<|B (xbn e p) λe=>zH z.2.2.2.2.2 (X (z.1.1.1.getD z.2.2.2.2.1 [])) λj=>B (z.1.1.1.set z.2.2.2.2.1<|(z.1.1.1.getD z.2.2.2.2.1 []).set j e) λc=>E (z.2.2.2.2.2+1) λi=>L (((c,z.1.1.2),z.1.2),z.2.1,z.2.2.1,z.2.2.2.1,z.2.2.2.2.1,i)else Z (z.1,z.2.1,z.2.2.1)) fu (x.1,x.2.1,x.2.2.1,x.2.2.1,q,0)) λz=>E (x.2.2.2+1) λi=>L (z.1,z.2.1,z.2.2,i)else Z x.1) fu (((b,ix),lo,n),(lo,n),r,0)) λx=>ck (x.2.1=lo/\x.2.2=n/\x.1.2=ix)<|some x.1.1
def qD(fu:K)(b:N (N J))(d:(N J)->V ws):(J->V (wW⊕J))->J->V (wW⊕J):=λL a=>if a<(X b:J)then zH a (X b) λe=>B (b.getD e []) λf=>Y (d f) λg=>if g then Z (.inr a)else E (a+1) λh=>L h else Z (.inl ())
def xg(a:N (N J))(b:(N J)->V ws):V J:=Y (zg (qD fu a b) fu (0:J)) λd=>match d with
 |.inl _=>Z (-1:J)
 |.inr e=>Z e
def ZU(g:N (N J))(p:J):V (N (N J)×J):=Y (Vk fu g p) λe=>if e=0 then Y (zg (λL (x:(N (N J)×N K)×J)=>if x.2<(X g:J)then zH x.2 (X g) λj=>B (g.getD j []) λy=>Y (W3 fu y p) λr=>ck ((X x.1.2+1)*24<=140737488355328)<|B (x.1.1++[r]) λl=>B (x.1.2++[X x.1.1]) λn=>E (x.2+1) λi=>L ((l,n),i)else Z x.1) fu (([],[]),0)) λx=>Y (zg (λL (x:(N (N J)×N K)×J×J)=>if x.2.1<(X x.1.2:J)then zH 0 (X x.1.2) λj=>B (x.1.2.getD j 0) λr=>if x.2.2<(X (x.1.1.getD r []):J)then uC x.2.1 λj=>ck (j<=X x.1.2)<|Y (xg fu (xdo (X x.1.2-j)<|xdD j<|x.1.2.map λr=>x.1.1.getD r []) λz=>uu fu z x.2.2) λi=>if i<0 then E (x.2.2+1) λc=>L (x.1,x.2.1,c)else E (x.2.1+i) λa=>E (x.2.1+i) λb=>zH b (X x.1.2) λj=>B (x.1.2.getD j 0) λd=>zH x.2.1 (X x.1.2) λj=>B (x.1.2.getD j 0) λf=>zH x.2.1 (X x.1.2) λj=>B (x.1.2.set j d) λix=>zH a (X ix) λj=>B (ix.set j f) λix=>zH x.2.1 (X ix) λj=>B (ix.getD j 0) λr=>zH x.2.2 (X (x.1.1.getD r [])) λj=>B ((x.1.1.getD r []).getD j 0) λy=>Y (JW fu y p) λq=>zH x.2.1 (X ix) λj=>B (ix.getD j 0) λr=>Y (zg (λL (z:(N (N J)×N K)×K×J)=>if z.2.2<(X (x.1.1.getD r []):J)then zH z.2.2 (X (z.1.1.getD z.2.1 [])) λj=>B ((z.1.1.getD z.2.1 []).getD j 0) λy=>zH x.2.1 (X z.1.2) λj=>B (z.1.2.getD j 0) λr=>E (y*q.1) λe=>ck (p≠0)<|B (xbn e p) λe=>zH z.2.2 (X (z.1.1.getD r [])) λj=>B (z.1.1.set r<|(z.1.1.getD r []).set j e) λh=>E (z.2.2+1) λi=>L ((h,z.1.2),z.2.1,i)else Z z.1) fu ((x.1.1,ix),r,0)) λm=>zH x.2.1 (X m.2) λj=>B (m.2.getD j 0) λr=>uC x.2.1 λj=>ck (j<=X m.2)<|Y (qY fu m.1 m.2 r x.2.2 p 0 j) λh=>zH x.2.1 (X m.2) λj=>B (m.2.getD j 0) λr=>E (x.2.1+1) λe=>uC e λj=>ck (j<=X m.2)<|Y (qY fu h m.2 r x.2.2 p j<|X m.2-j) λh=>E (x.2.1+1) λk=>E (x.2.2+1) λc=>L ((h,m.2),k,c)else Z (x.1,x.2.1)else Z (x.1,x.2.1)) fu (x,0,0)) λx=>uC x.2 λj=>ck (j<=X (x.1.2.map λr=>x.1.1.getD r []))<|B (xdo j<|x.1.2.map λr=>x.1.1.getD r []) λys=>Z (ys,0)else Z ([],e)
def Xd(fu:K)(a:J):V ws:=if a=0 then Z yL else Z I
def vD(fu:K)(b:N J)(d:J->V ws):(J->V (wW⊕J))->J->V (wW⊕J):=λL a=>if a<(X b:J)then zH a (X b) λe=>B (b.getD e 0) λf=>Y (d f) λg=>if g then Z (.inr a)else E (a+1) λh=>L h else Z (.inl ())
def xF(a:N J)(b:J->V ws):V J:=Y (zg (vD fu a b) fu (0:J)) λd=>match d with
 |.inl _=>Z (-1:J)
 |.inr e=>Z e
def J4(a:N J):V J:=Y (xF fu a<|λc=>Xd fu c) λb=>Z b
def kH(a:N J)(b:J):V ws:=Y (J4 fu a) λd=>if d=b then Z I else Z yL
def wq(a:N (N J))(b:(N J)->V ws):V ws:=Y (xg fu a b) λd=>if 0<=d then Z I else Z yL
def dW(d:J)(i:J)(j:J)(a:N (N J))(k:J):((J×(N<|N J)×(N J))->V ((N<|N J)×(N J)))->(J×(N<|N J)×(N J))->V ((N<|N J)×(N J)):=λL (e,l,f)=>Y ((if e<(X a:J)then Z ((i,j,a,d,k,d,a,(X a:J),I))else Z ((i,j,a,d,k,d,a,(X a:J),yL)):V (J×J×(N<|N J)×J×J×J×(N<|N J)×J×ws))) λ(A,m,B,o,C,E,b,p,q)=>if q then zH e (X b) λr=>nm (b.getD r []) λg=>Y (J4 fu g) λs=>zH o (X g) λt=>nm (g.getD t 0) λu=>nm (ng u) λv=>Y (Ys fu v m) λw=>zH s (X f) λx=>nm (f.set x w) λh=>zf (e+1) λy=>L (y,l,h)else Z (l,f)
def Bj(b:J)(h:J)(i:N (N J)):(((N<|N J)×J)->V (N<|N J))->((N<|N J)×J)->V (N<|N J):=λL (f,a)=>Y ((if a<b then Z (b,h,i,b,I)else Z (b,h,i,b,yL):V (J×J×(N<|N J)×J×ws))) λ(j,o,k,p,q)=>if q then Y (wq fu k<|λc=>kH fu c a) λr=>if r then E (a+1) λs=>L (f,s)else uC j λl=>ck (8*l<=281474976710656)<|B (sR l 0) λm=>zH a (X m) λt=>B (m.set t (1:J)) λu=>Y (zg (dW fu a j o k p) fu<|((0:J),f,u)) λ(d,e)=>ck ((X d+X ([e]))*24<=140737488355328)<|B (d++([e])) λg=>E (a+1) λv=>L (g,v)else Z f
def Ju(a:N (N J))(b:J)(d:J):V ((N<|N J)×J):=Y ((Y (Vk fu a d) λf=>if f=0 then if b<0 then Z (.inr ())else if 64<b then Z (.inr ())else if 0<(X a:J)then zH 0 (X a) λg=>B (a.getD g []) λh=>if(X h:J)=b then Z (.inl ())else Z (.inr ())else Z (.inl ())else Z (.inr ()):V (wW⊕wW))) λi=>match i with
 |.inl _=>Y (ZU fu a d) λ(j,k)=>Y (zg (Bj fu b d j) fu<|([],(0:J))) λe=>Z<|(e,(0:J))
 |.inr _=>Z<|([],(1:J))
def uD(e:N J)(f:N J)(a:J):V ((N J)×(N J)×J):=Y (vC fu a) λb=>if b=0 then Y (yq fu f a) λd=>if(X d:J)=0 then Z (([],[],(3:J)))else Y (yq fu e a) λg=>Y (xU fu g d a) λ(h,i)=>Z ((h,i,(0:J)))else Z ([],[],b)
def QA(i:G)(d:J)(j:N J):(((N J)×(N J)×J)->V (N J))->((N J)×(N J)×J)->V (N J):=λL (e,f,a)=>if 0<=a then Y (vm fu e e d) λl=>Y (xU fu l j d) λ(m,b)=>ck ((64:J)≠0)<|E (xbQ a (64:J)) λo=>zH o (X i.2) λp=>B (i.2.getD p 0) λq=>ck ((64:J)≠0)<|B (xbn a (64:J)) λk=>ck (0<=k)<|B (q/2^(min (k:J).toNat 64)) λr=>B (r &&& ((1:K))) λs=>if(s:J)=(((1:K):K):J)then Y (vm fu b f d) λg=>Y (xU fu g j d) λ(t,h)=>E (a-1) λu=>L (h,f,u)else E (a-1) λv=>L (b,f,v)else Z e
def ZT(f:N J)(d:G)(g:N J)(a:J):V ((N J)×J):=Y (vC fu a) λh=>if h=0 then Y (wo fu d) λi=>if i<0 then Z (([],(1:J)))else Y (yq fu g a) λb=>if(X b:J)=0 then Z (([],(3:J)))else Y (xU fu [(1:J)] b a) λ(p,j)=>Y (yq fu f a) λk=>Y (xU fu k b a) λ(q,l)=>Y (ZW fu d.2) λm=>E (m-1) λo=>Y (zg (QA fu d a b) fu (j,l,o)) λe=>Z ((e,(0:J)))else Z (([],(1:J)))
def VV(f:N J)(p:J):V (N<|N J):=E ((X f:J)-1) λn=>uC n λm=>ck (24*m<=281474976710656)<|B (sR m 0) λix=>Y (zg (λL (x:(N (N J)×N K)×J)=>if x.2<(X ix:J)then uC n λm=>ck (8*m<=281474976710656)<|B (sR m 0) λys=>zH x.2 (X x.1.2) λj=>B (x.1.1++[ys]) λb=>B (x.1.2.set j (X x.1.1)) λix=>E (x.2+1) λi=>L ((b,ix),i)else Z x.1) fu (([[]],ix),0)) λx=>Y (yC fu p) λz=>Y (ZT fu [0,1] z f p) λq=>Y (zg (λL (x:(N (N J)×N K)×N J×N J×J)=>if x.2.2.2<n then Y (zg (λL (y:(N (N J)×N K)×J)=>if y.2<(X x.2.1:J)then zH y.2 (X x.2.1) λj=>B (x.2.1.getD j 0) λv=>zH y.2 (X y.1.2) λj=>B (y.1.2.getD j 0) λr=>zH x.2.2.2 (X (y.1.1.getD r [])) λj=>B (y.1.1.set r<|(y.1.1.getD r []).set j v) λa=>E (y.2+1) λi=>L ((a,y.1.2),i)else Z y.1) fu (x.1,0)) λy=>zH x.2.2.2 (X y.2) λj=>B (y.2.getD j 0) λr=>zH x.2.2.2 (X (y.1.getD r [])) λj=>B ((y.1.getD r []).getD j 0) λv=>E (v-1) λe=>zH x.2.2.2 (X (y.1.getD r [])) λj=>B (y.1.set r<|(y.1.getD r []).set j e) λa=>Y (uG fu x.2.1 x.2.2.1 p) λu=>Y (uD fu u.1 f p) λw=>E (x.2.2.2+1) λi=>L ((a,y.2),w.2.1,x.2.2.1,i)else Z x.1) fu (x,[1],q.1,0)) λx=>Y (Ju fu (x.2.map λr=>x.1.getD r []) n p) λr=>Z r.1
def Aa(a:N J)(b:N J)(d:J):V (N J):=Y (uD fu a b d) λ(e,f,g)=>Z e
def iu(a:N J)(b:N J)(d:J):V (N J):=Y (uE fu a b d) λ(e,f)=>Z e
def XJ(b:J)(a:N J)(d:J):V J:=if b<(X a:J)then zH b (X a) λe=>B (a.getD e 0) λf=>Y (Ys fu f d) λg=>Z g else E (b-((X a:J))) λh=>Z h
def dK(d:N J)(e:N J)(a:J):V ((N J)×J):=Y (vC fu a) λb=>if b=0 then Y (yq fu d a) λf=>Y (yq fu e a) λg=>Y (Wo fu f g (1:J) a) λh=>Z ((h,(0:J)))else Z ([],b)
def Uq(d:N J)(e:J)(f:N J)(a:J):V (N J):=Y (dK fu d [e] a) λ(b,l)=>if 2<a then E (a-1) λg=>ck ((2:J)≠0)<|E (xbQ g (2:J)) λh=>Y (yC fu h) λi=>Y (ZT fu b i f a) λ(j,m)=>Y (JH fu j [(1:J)] a) λ(k,o)=>Z k else Z b
def Kt(v:J)(w:zC J)(h:zC (zC J))(e:J)(k:zC J)(l:J)(i:J)(m:zC (zC J))(o:J)(j:zC J):(((zC<|zC J)×J)->V ((zC<|zC J)⊕(zC<|zC J)))->((zC<|zC J)×J)->V ((zC<|zC J)⊕(zC<|zC J)):=λL (a,d)=>if d<(X a:J)then if(X a:J)=(X h:J)then Z (.inl a)else Y (XJ fu i w v) λx=>zH d (X a) λy=>nm ((a.getD y [])) λA=>Y (Uq fu j x A e) λp=>zH d (X a) λB=>nm ((a.getD B [])) λq=>Y (iu fu p q e) λb=>Y ((if 1<(X b:J)then zH d (X a) λC=>nm ((a.getD C [])) λr=>if(X b:J)<(X r:J)then Z (h,e,k,i,j,m,o,l,I)else Z (h,e,k,i,j,m,o,l,yL)else Z (h,e,k,i,j,m,o,l,yL):V ((zC<|zC J)×J×(zC J)×J×(zC J)×(zC<|zC J)×J×J×ws))) λ(E,s,G,P,H,c,Q,R,n)=>if n then zH d (X a) λK=>nm ((a.getD K [])) λt=>Y (Aa fu t b s) λf=>ck ((X a+X ([f]))*24<=140737488355328)<|nm (a++([f])) λg=>zH d (X g) λM=>nm (g.set M b) λu=>zf (d+1) λN=>L (u,N)else zf (d+1) λz=>L (a,z)else Z (.inr a)
def KF(l:J)(m:N J)(j:J)(a:N (N J)):(((N<|N J)×J×(N J)×(N<|N J)×J)->V ((N<|N J)⊕((N<|N J)×J×(N J)×(N<|N J))))->((N<|N J)×J×(N J)×(N<|N J)×J)->V ((N<|N J)⊕((N<|N J)×J×(N J)×(N<|N J))):=λL (d,e,f,k,b)=>Y ((if b<(X a:J)then Z ((j,a,(X a:J),I))else Z ((j,a,(X a:J),yL)):V (J×(N<|N J)×J×ws))) λ(o,g,p,q)=>if q then zH b (X g) λr=>B (g.getD r []) λs=>Y (zg (Kt fu l m d e f b o g p s) fu<|(k,(0:J))) λt=>match t with
 |.inl h=>Z (.inl h)
 |.inr i=>E (b+1) λu=>L (d,e,f,i,u)else Z (.inr (d,e,f,k))
def J8(a:N (N J))(b:J)(d:N J):(((N<|N J)×J)->V (N<|N J))->((N<|N J)×J)->V (N<|N J):=λL (h,e)=>E (b+((X d:J))) λj=>if e<j then uC (1:J) λi=>ck (i<=X a)<|B (a.drop i) λk=>Y (zg (KF fu b d e k) fu<|(a,b,d,h,(0:J))) λl=>match l with
 |.inl f=>Z f
 |.inr (m,o,p,g)=>E (e+1) λq=>L (g,q)else Z h
def Q3(b:N J)(d:N (N J))(e:J)(f:N J):V (N<|N J):=Y (zg (J8 fu d e f) fu<|([b],(0:J))) λa=>Z a
def vQ(e:N J)(b:J):V ((N J)×J):=Y (vC fu b) λd=>if d=0 then Y (yq fu e b) λa=>if(X a:J)=0 then Z (([],(0:J)))else E (((X a:J))-1) λf=>zH f (X a) λg=>B ((a.getD g 0)) λh=>Y (jz fu a h b) λi=>Z ((i,(0:J)))else Z ([],d)
def iU(d:N J)(e:J):V ((N J)×J):=Y (vQ fu d e) λ(a,b)=>if b=0 then if(X a:J)=0 then Z (([],(8:J)))else if 65<(X a:J)then Z (([],(6:J)))else Z ((a,(0:J)))else Z ([],b)
def mq(fu:K)(f:J)(e:N J):(((N J)×J×(N J))->V (N J))->((N J)×J×(N J))->V (N J):=λL (b,a,d)=>Y ((if a<(X e:J)then Z ((f,(X e:J),I))else Z ((f,(X e:J),yL)):V (J×J×ws))) λ(g,q,i)=>if i then zH a (X d) λj=>B ((d.getD j 0)) λk=>if 0<a then ck (g≠0)<|B (xbn a g) λl=>E (l*k) λh=>ck ((X b+X ([h]))*8<=140737488355328)<|B (b++([h])) λm=>E (a+1) λo=>L (m,o,d)else E (a+1) λp=>L (b,p,d)else Z b
def Jr(e:N J)(a:J):V ((N J)×J):=Y (vC fu a) λb=>if b=0 then Y (yq fu e a) λd=>Y (zg (mq fu a d) fu<|([],(0:J),d)) λf=>Y (yq fu f a) λg=>Z ((g,(0:J)))else Z ([],b)
def WO(d:N J)(e:J):V ((N J)×J):=Y (vQ fu d e) λ(a,b)=>if b=0 then if(X a:J)=0 then Z (([],(8:J)))else Z (a,b)else Z (a,b)
def Zq(e:N J)(a:J):V (ws×J):=Y (WO fu e a) λ(b,d)=>if d=0 then Y (Jr fu b a) λ(f,h)=>Y (uE fu b f a) λ(g,i)=>if(X g:J)=1 then Z ((I,(0:J)))else Z ((yL,(0:J)))else Z (yL,d)
def Zp(e:N J)(a:J):V ((N J)×J):=Y (iU fu e a) λ(b,d)=>if d=0 then Y (Zq fu b a) λ(f,g)=>if !f then Z (([],(1:J)))else Z ((b,(0:J)))else Z ([],d)
def Zj(a:K):V J:=Y (wi fu a) λb=>Z b
def Yn(fu:K)(g:(N J)->(N J)->V J):((J×J×J×(N<|N J))->V (J×J×(N<|N J)))->(J×J×J×(N<|N J))->V (J×J×(N<|N J)):=λL (d,e,b,a)=>if d<b then zH b (X a) λh=>B ((a.getD h [])) λi=>E (b-1) λj=>zH j (X a) λk=>B ((a.getD k [])) λl=>Y (g i l) λm=>if m<0 then E (b-1) λo=>E (b-1) λp=>zH p (X a) λq=>B ((a.getD q [])) λr=>zH b (X a) λs=>B ((a.getD s [])) λt=>zH b (X a) λu=>B (a.set u r) λf=>zH o (X f) λv=>B (f.set v t) λw=>E (b-1) λx=>L (d,e,x,w)else Z (d,e,a)else Z (d,e,a)
def Yv(e:J)(b:J)(f:(N J)->(N J)->V J):((J×(N<|N J))->V (N<|N J))->(J×(N<|N J))->V (N<|N J):=λL (a,d)=>if a<b then Y (zg (Yn fu f) fu (e,b,a,d)) λ(i,j,g)=>E (a+1) λh=>L (h,g)else Z d
def qE(d:N (N J))(b:J)(e:J)(f:(N J)->(N J)->V J):V (N<|N J):=E (b+1) λg=>Y (zg (Yv fu b e f) fu (g,d)) λa=>Z a
def j8(d:(N J)->(N J)->V J):((J×J×J×(N<|N J))->V (N<|N J))->(J×J×J×(N<|N J))->V (N<|N J):=λL (a,b,e,f)=>E (b-a) λg=>if g<=12 then Y (qE fu f a b d) λh=>Z h else if e=0 then yD else yD
def uw:K->(N<|N J)->J->J->J->((N J)->(N J)->V J)->V (N<|N J)
 |0,_,_,_,_,_=>yD
 |fu+1,a,b,d,e,f=>Y (zg (j8 fu f) fu (b,d,e,a)) λg=>Z g
def wH(a:N (N J))(b:(N J)->(N J)->V J):V (N<|N J):=B (NY<|(X a:J)) λd=>Y (Zj fu d) λe=>Y (uw fu a (0:J) ((X a:J)) e b) λf=>Z f
def WB(g:N J)(a:J)(b:N J):V ((N<|N J)×J):=Y (Zp fu g a) λ(d,e)=>if e=0 then if(X d:J)=1 then Z ([],e)else Y (VV fu d a) λh=>B (min ((X b:J)) (64:J)) λi=>uC i λf=>ck (f<=X b)<|B (b.take f) λj=>Y (Q3 fu d h a j) λk=>Y (wH fu k<|λc m=>qg fu c m) λl=>Z ((l,(0:J)))else Z ([],e)
def aq:(J->V J)->J->V J:=λL a=>Y (ZY fu a) λb=>if !b then E (a+1) λd=>L d else Z a
def vb(a:J):V (J×J):=if 65521<=a then Z (((0:J),(5:J)))else B (max a (1:J)) λb=>E (b+1) λd=>Y (zg (aq fu) fu d) λe=>Z<|(e,(0:J))
def Ui(a:N G)(b:J):V (ws×J):=Y (vV fu a) λ(i,d)=>if d=0 then Y (ZY fu b) λf=>if !f then Z ((yL,(0:J)))else Y (Yr fu a b) λ(e,j)=>Y (ya fu a) λg=>if(X e:J)=(X g:J)then Y (Zq fu e b) λ(h,k)=>Z ((h,(0:J)))else Z ((yL,(0:J)))else Z (yL,d)
def aK(m:N G)(o:N J):((J×J×(N<|N J)×J×J)->V (J×(N<|N J)))->(J×J×(N<|N J)×J×J)->V (J×(N<|N J)):=λL (b,e,d,a,p)=>if p=0 then if e<5 then Y (Ui fu m a) λ(q,v)=>if !q then Y (vb fu a) λ(r,s)=>L (b,e,d,r,s)else E (e+1) λf=>Y (Yr fu m a) λ(t,w)=>Y (WB fu t a o) λ(g,x)=>if b=0 then Y (vb fu a) λ(u,h)=>L (a,f,g,u,h)else if(X g:J)<(X d:J)then Y (vb fu a) λ(i,j)=>L (a,f,g,i,j)else Y (vb fu a) λ(k,l)=>L (b,f,d,k,l)else Z (b,d)else Z (b,d)
def UE(a:N G)(b:N J):V (J×(N<|N J)):=Y (vb fu (1:J)) λ(d,e)=>Y (zg (aK fu a b) fu<|((0:J),(0:J),[],d,e)) λ(f,g)=>Z (f,g)
def GW(a:J):((J×G×G)->V (G×G))->(J×G×G)->V (G×G):=λL (b,d,e)=>Y ((if b<a then Z (a,a,I)else Z (a,a,yL):V (J×J×ws))) λ(f,q,g)=>if g then E (f+b) λh=>E (h+1) λi=>Y (yC fu i) λj=>Y (yi fu e j) λk=>E (b+1) λl=>Y (yC fu l) λm=>Y (uY fu k m) λ(o,r)=>E (b+1) λp=>L (p,d,o)else Z (d,e)
def sY(a:J):V G:=Y (yC fu (1:J)) λb=>Y (zg (GW fu a) fu<|((0:J),(yL,[]),b)) λ(e,d)=>Z d
def LL:((J×G×G)->V G)->(J×G×G)->V G:=λL (b,a,d)=>if 0<b then B (ziI b (1:J)) λe=>if e=1 then Y (yi fu d a) λf=>Y (yi fu a a) λg=>B (xfF b<|2^(min (((1:K)):J).toNat 64)) λh=>L (h,g,f)else Y (yi fu a a) λi=>B (xfF b<|2^(min (((1:K)):J).toNat 64)) λj=>L (j,i,d)else Z d
def Xf(a:G)(b:J):V G:=Y (yC fu (1:J)) λd=>Y (zg (LL fu) fu (b,a,d)) λe=>Z e
def IY(a:N G)(d:N G):((J×G×G)->V (G×G))->(J×G×G)->V (G×G):=λL (b,e,f)=>Y ((if b<(X a:J)then Z ((d,a,(X a:J),I))else Z ((d,a,(X a:J),yL)):V ((N G)×(N G)×J×ws))) λ(g,h,r,i)=>if i then zH b (X h) λj=>B (h.getD j (yL,[])) λk=>zH b (X g) λl=>B (g.getD l (yL,[])) λm=>Y (yi fu k m) λo=>Y (jm fu f o) λp=>E (b+1) λq=>L (q,e,p)else Z (e,f)
def Bc(a:N G)(b:N G):V G:=Y (yC fu (0:J)) λd=>Y (zg (IY fu a b) fu<|((0:J),(yL,[]),d)) λ(f,e)=>Z e
def A8(a:N G)(b:N G):V (G×J):=if(X a:J)=(X b:J)then Y (Bc fu a b) λd=>Z ((d,(0:J)))else Z (((yL,[]),(1:J)))
def ri(a:N G):V G:=Y (A8 fu a a) λ(b,d)=>Z b
def P8(f:G)(a:G):((J×G)->V (wW⊕J))->(J×G)->V (wW⊕J):=λL (b,e)=>if b<=1000 then Y (uU fu e f) λg=>if 0<g then Z (.inr b)else Y (yi fu e a) λd=>E (b+1) λh=>L (h,d)else Z (.inl ())
def EJ(g:N G)(h:J)(d:J):V (J×J):=Y (vV fu g) λ(A,i)=>if i=0 then Y (vd fu g) λj=>E (((X j:J))-1) λa=>Y (ZY fu h) λk=>if !k then Z (((0:J),(1:J)))else if d<1 then Z (((0:J),(1:J)))else if a<d then Z (((0:J),(1:J)))else E (a-1) λe=>Y (yC fu (2:J)) λl=>E (e*a) λm=>Y (Xf fu l m) λo=>Y (sY fu e) λp=>Y (Xf fu p a) λq=>Y (ri fu j) λr=>E (e+a) λs=>Y (Xf fu r s) λt=>Y (yi fu q t) λu=>Y (yi fu o u) λv=>Y (yC fu h) λf=>E ((2:J)*d) λw=>Y (Xf fu f w) λb=>Y (zg (P8 fu v b) fu<|((1:J),b)) λx=>match x with
 |.inl _=>Z<|((0:J),(6:J))
 |.inr y=>Z ((y,(0:J)))else Z (((0:J),i))
def LZ(a:N J)(b:N J)(d:J):V ws:=Y (uD fu b a d) λ(f,e,g)=>if(X e:J)=0 then Z I else Z yL
def Ki(e:J):(((N G)×(N<|N J))->V ((N G)×(N<|N J)))->((N G)×(N<|N J))->V ((N G)×(N<|N J)):=λL (b,a)=>if 12<(X a:J)then zH 0 (X a) λf=>B (a.getD f []) λg=>E (((X g:J))-1) λh=>Y (EJ fu b e h) λ(i,j)=>if j=0 then Y (kn fu b a e i) λ(d,l)=>if(X d:J)=0 then Z (b,a)else zH 0 (X d) λk=>B ((d.getD k [])) λm=>yD else Z (b,a)else Z (b,a)
def Q9(a:N G)(b:N (N J))(d:J):V ((N<|N G)×(N G)×(N<|N J)):=Y (zg (Ki fu d) fu (a,b)) λ(e,f)=>Z ([],e,f)
def uZ(fu:K)(g:(N G)->(N G)->V J):((J×J×J×(N<|N G))->V (J×J×(N<|N G)))->(J×J×J×(N<|N G))->V (J×J×(N<|N G)):=λL (d,e,b,a)=>if d<b then zH b (X a) λh=>B ((a.getD h [])) λi=>E (b-1) λj=>zH j (X a) λk=>B ((a.getD k [])) λl=>Y (g i l) λm=>if m<0 then E (b-1) λo=>E (b-1) λp=>zH p (X a) λq=>B ((a.getD q [])) λr=>zH b (X a) λs=>B ((a.getD s [])) λt=>zH b (X a) λu=>B (a.set u r) λf=>zH o (X f) λv=>B (f.set v t) λw=>E (b-1) λx=>L (d,e,x,w)else Z (d,e,a)else Z (d,e,a)
def uO(e:J)(b:J)(f:(N G)->(N G)->V J):((J×(N<|N G))->V (N<|N G))->(J×(N<|N G))->V (N<|N G):=λL (a,d)=>if a<b then Y (zg (uZ fu f) fu (e,b,a,d)) λ(i,j,g)=>E (a+1) λh=>L (h,g)else Z d
def vA(d:N (N G))(b:J)(e:J)(f:(N G)->(N G)->V J):V (N<|N G):=E (b+1) λg=>Y (zg (uO fu b e f) fu (g,d)) λa=>Z a
def qJ(d:(N G)->(N G)->V J):((J×J×J×(N<|N G))->V (N<|N G))->(J×J×J×(N<|N G))->V (N<|N G):=λL (a,b,e,f)=>E (b-a) λg=>if g<=12 then Y (vA fu f a b d) λh=>Z h else if e=0 then yD else yD
def jt:K->(N<|N G)->J->J->J->((N G)->(N G)->V J)->V (N<|N G)
 |0,_,_,_,_,_=>yD
 |fu+1,a,b,d,e,f=>Y (zg (qJ fu f) fu (b,d,e,a)) λg=>Z g
def yV(a:N (N G))(b:(N G)->(N G)->V J):V (N<|N G):=B (NY<|(X a:J)) λd=>Y (Zj fu d) λe=>Y (jt fu a (0:J) ((X a:J)) e b) λf=>Z f
def KY(a:N G)(h:N J):V ((N<|N G)×ws):=if(X a:J)<2 then Z ([],I)else Y (Uu fu a) λi=>if i then Z ([],yL)else Y (UE fu a h) λ(b,j)=>if b=0 then Z ([],yL)else Y (Q6 fu a b) λf=>Y (jy fu b f) λ(k,r)=>Y (Q9 fu a j b) λ(d,e,l)=>if 1<(X e:J)then Y (kn fu e l b f) λ(m,s)=>Y (Y8 fu e m k) λg=>ck ((X d+X g)*24<=140737488355328)<|B (d++g) λo=>Y (yV fu o<|λc n=>uz fu c n) λp=>Z (p,I)else Y (yV fu d<|λc n=>uz fu c n) λq=>Z (q,I)
def n4(d:G)(e:J):((J×G)->V G)->(J×G)->V G:=λL (a,b)=>if a<e then Y (yi fu b d) λf=>E (a+1) λg=>L (g,f)else Z b
def Ud(a:G)(b:J):V G:=Y (yC fu (1:J)) λd=>Y (zg (n4 fu a b) fu<|((0:J),d)) λe=>Z e
def KE(m:G):(((N G)×(N G)×J×(N G))->V ((N G)×(N G)))->((N G)×(N G)×J×(N G))->V ((N G)×(N G)):=λL (d,b,a,f)=>if 0<=a then E (a+((X d:J))) λo=>if(X b:J)<o then E (a-1) λp=>L (d,b,p,f)else E (a+((X d:J))) λq=>E (q-1) λr=>zH r (X b) λs=>B ((b.getD s (yL,[]))) λt=>Y (uY fu t m) λ(u,v)=>zH a (X f) λw=>B (f.set w u) λg=>uC a λk=>ck (32*k<=281474976710656)<|B (sR k (yL,[])) λl=>zH a (X g) λx=>B ((g.getD x (yL,[]))) λy=>Y (qQ fu d y) λe=>ck ((X l+X e)*32<=140737488355328)<|B (l++e) λh=>Y (uF fu b h) λi=>E (a-1) λj=>L (d,i,j,g)else Z (b,f)
def Xj(j:N G)(k:N G):V ((N G)×(N G)×J):=Y (ya fu j) λg=>Y (ya fu k) λa=>if(X a:J)=0 then Z (([],[],(3:J)))else E (((X g:J))-((X a:J))) λl=>E (l+1) λm=>B (max m (0:J)) λb=>E (((X a:J))-1) λo=>zH o (X a) λp=>B ((a.getD p (yL,[]))) λh=>Y (Ud fu h b) λq=>Y (qQ fu g q) λr=>uC b λi=>ck (32*i<=281474976710656)<|B (sR i (yL,[])) λs=>E (b-1) λt=>Y (zg (KE fu h) fu (a,r,t,s)) λ(d,e)=>Y (ya fu e) λf=>Z<|(f,d,(0:J))
def Eu:(((N G)×(N G))->V (N G))->((N G)×(N G))->V (N G):=λL (b,a)=>if 0<(X a:J)then Y (Xj fu b a) λ(f,d,g)=>Y (vd fu d) λe=>L (a,e)else Z b
def Qi(a:N G)(b:N G):V (N G):=Y (qy fu a) λd=>Y (qy fu b) λe=>Y (aw fu d e) λf=>Y (vd fu a) λg=>Y (vd fu b) λh=>Y (zg (Eu fu) fu (g,h)) λi=>Y (qQ fu i f) λj=>Z j
def Kv(a:J)(b:G):V G:=Y (yC fu a) λd=>Y (yi fu b d) λe=>Z e
def Ji(d:N G):V (N G):=Y (zM fu d<|λc h=>Kv fu c h) λa=>B (min ((X a:J)) (1:J)) λe=>uC e λb=>ck (b<=X a)<|B (a.drop b) λf=>Y (ya fu f) λg=>Z g
def GL(a:N G)(b:N G):V (N G):=Y (wV fu a b) λ(d,e)=>Z d
def jo(b:N G):V ((N G)×J):=Y (W5 fu b) λd=>if d=0 then Y (vd fu b) λa=>Y (Ji fu a) λe=>Y (Qi fu a e) λf=>Y (GL fu a f) λg=>Z ((g,(0:J)))else Z ([],d)
def QK(g:N G)(a:N (N G)):(((N<|(N G)×J)×J×G×(N<|N G))->V ((N<|(N G)×J)×G))->((N<|(N G)×J)×J×G×(N<|N G))->V ((N<|(N G)×J)×G):=λL (b,d,h,e)=>Y ((if d<(X a:J)then Z ((g,(X a:J),I))else Z ((g,(X a:J),yL)):V ((N G)×J×ws))) λ(j,p,k)=>if k then zH d (X e) λl=>B ((e.getD l [])) λf=>Y (Vy fu j f) λi=>ck ((X b+X ([(f,i)]))*32<=140737488355328)<|B (b++([(f,i)])) λm=>E (d+1) λo=>L (m,o,h,e)else Z (b,h)
def xE(a:N G)(e:N J):V (G×(N<|(N G)×J)×J):=Y (jo fu a) λ(f,b)=>if b=0 then Y (KY fu f e) λ(d,g)=>if !g then Z (((yL,[]),[],(6:J)))else Y (zg (QK fu a d) fu<|([],(0:J),(yL,[]),d)) λ(h,i)=>Y (qy fu a) λj=>Z ((j,h,(0:J)))else Z (((yL,[]),[],b))
def wK(d:N G):V (ws×J):=Y (xE fu d []) λ(g,b,a)=>if a=0 then if(X b:J)=1 then zH 0 (X b) λe=>B (((b.getD e ([],0))).2) λf=>if f=1 then Z (I,a)else Z (yL,a)else Z (yL,a)else Z (yL,a)
def V7(fu:K):((J×J×(N K))->V (N K))->(J×J×(N K))->V (N K):=λL (b,d,a)=>if b<d then zH d (X a) λf=>B ((a.getD f 0)) λg=>zH b (X a) λh=>B ((a.getD h 0)) λi=>zH b (X a) λj=>B (a.set j g) λe=>zH d (X e) λk=>B (e.set k i) λl=>E (b+1) λm=>E (d-1) λo=>L (m,o,l)else Z a
def uA(a:N K):V (N K):=E (((X a:J))-1) λb=>Y (zg (V7 fu) fu<|((0:J),b,a)) λd=>Z d
def O4(fu:K)(f:ws):((K×(N K))->V (N K))->(K×(N K))->V (N K):=λL (b,a)=>if(((0:K):K):J)<(b:J)then ck ((10:K)≠0)<|B (b%((10:K))) λg=>B ((((48:K))+g)%18446744073709551616) λh=>B (h%256) λd=>ck ((X a+X ([d]))*1<=140737488355328)<|B (a++([d])) λi=>ck ((10:K)≠0)<|B (b/((10:K))) λj=>L (j,i)else if f then if(X a:J)<19 then ck ((10:K)≠0)<|B (b%((10:K))) λk=>B ((((48:K))+k)%18446744073709551616) λl=>B (l%256) λe=>ck ((X a+X ([e]))*1<=140737488355328)<|B (a++([e])) λm=>ck ((10:K)≠0)<|B (b/((10:K))) λo=>L (o,m)else Z a else Z a
def im(a:K)(b:ws):V (N K):=Y (zg (O4 fu b) fu (a,[])) λd=>Y (uA fu d) λe=>Z e
def Xh(fu:K):((J×J×(N<|N K))->V (N<|N K))->(J×J×(N<|N K))->V (N<|N K):=λL (b,d,a)=>if b<d then zH d (X a) λf=>B ((a.getD f [])) λg=>zH b (X a) λh=>B ((a.getD h [])) λi=>zH b (X a) λj=>B (a.set j g) λe=>zH d (X e) λk=>B (e.set k i) λl=>E (b+1) λm=>E (d-1) λo=>L (m,o,l)else Z a
def jI(a:N (N K)):V (N<|N K):=E (((X a:J))-1) λb=>Y (zg (Xh fu) fu<|((0:J),b,a)) λd=>Z d
def sr(fu:K)(a:N (N K))(b:N K):V (N K):=ck (X a<=140737488355328)<|ck (X (b.intercalate a)<=140737488355328)<|some (b.intercalate a)
def zdm:(((N K)×(N<|N K))->V (N<|N K))->((N K)×(N<|N K))->V (N<|N K):=λL (d,a)=>if 0<(X d:J)then Y (JK fu d (10000000000000000000:K)) λ(b,e)=>if 0<(X b:J)then Y (im fu e I) λf=>ck ((X a+X ([f]))*16<=140737488355328)<|B (a++([f])) λh=>L (b,h)else Y (im fu e yL) λg=>ck ((X a+X ([g]))*16<=140737488355328)<|B (a++([g])) λi=>L (b,i)else Z a
def B7(e:N K):V (N K):=Y (wY fu e) λf=>Y (zg (zdm fu) fu (f,[])) λd=>if(X d:J)=0 then Z [48]else Y (jI fu d) λa=>Y (sr fu a []) λb=>Z b
def Ix(a:G):V (N K):=Y (wo fu a) λd=>if d<0 then Y (B7 fu a.2) λb=>ck (X ([45])+X b<=9223372036854775807)<|B (([45])++b) λe=>Z e else Y (B7 fu a.2) λf=>Z f
def eE:V ws:=Y (QM fu [(-1:J),(-1:J),(6:J)]) λa=>Y (xE fu a []) λ(b,d,e)=>Y (QM fu [(1:J),(0:J),(0:J),(0:J),(1:J)]) λf=>Y (wK fu f) λ(g,h)=>if e=0 then Y (Ix fu b) λi=>if i=[49]then Y (kN fu [(-1:J),(2:J)]) λj=>Y (kN fu [(1:J),(3:J)]) λk=>Y (W7 fu d [(j,(1:J)),(k,(1:J))]) λl=>if l then if h=0 then Z g else Z yL else Z yL else Z yL else Z yL
def mJ(fu:K)(d:J)(a:N G):(J->V (wW⊕wW))->J->V (wW⊕wW):=λL b=>if b<(X a:J)then zH b (X a) λe=>B (a.getD e (yL,[])) λf=>if d<(X f.2:J)then Z (.inr ())else E (b+1) λg=>L g else Z (.inl ())
def Xc(b:J)(d:J)(a:N G):V ws:=if b<(X a:J)then Z yL else Y (zg (mJ fu d a) fu (0:J)) λe=>match e with
 |.inl _=>Z I
 |.inr _=>Z yL
def JY(a:G):V G:=Y (xj fu (yL,a.2)) λb=>Z b
def ju(fu:K)(a:N K)(b:J):V K:=if b<(X a:J)then zH b (X a) λd=>B (a.getD d 0) λe=>Z e else Z (0:K)
def AA(fu:K)(b:N K):(J->V J)->J->V J:=λL a=>if 0<a then E (a-1) λd=>zH d (X b) λe=>B (b.getD e 0) λf=>if(f:J)=(((0:K):K):J)then E (a-1) λg=>L g else Z a else Z a
def Wj(a:N K):V (N K):=Y (zg (AA fu a) fu<|(X a:J)) λd=>uC d λb=>ck (b<=X a)<|B (a.take b) λe=>Z e
def Qm(fu:K)(a:N K):(((N K)×J)->V (N K))->((N K)×J)->V (N K):=λL (d,b)=>if b<(X a:J)then zH b (X a) λg=>B (a.getD g 0) λh=>B (h &&& ((4294967295:K))) λe=>zH b (X a) λi=>B (a.getD i 0) λj=>B (j/2^(min (((32:K)):J).toNat 64)) λf=>ck ((X d+X ([e,f]))*8<=140737488355328)<|B (d++([e,f])) λk=>E (b+1) λl=>L (k,l)else Z d
def xR(a:N K):V (N K):=Y (zg (Qm fu a) fu<|([],(0:J))) λb=>Y (Wj fu b) λd=>Z d
def Kx(fu:K)(a:N K):(((N K)×J)->V (N K))->((N K)×J)->V (N K):=λL (d,b)=>if b<(X a:J)then zH b (X a) λg=>B (a.getD g 0) λe=>E (b+1) λh=>if h<(X a:J)then E (b+1) λi=>zH i (X a) λj=>B (a.getD j 0) λk=>B (k*2^(min (((32:K)):J).toNat 64)%18446744073709551616) λl=>B ((e+l)%18446744073709551616) λf=>ck ((X d+X ([f]))*8<=140737488355328)<|B (d++([f])) λm=>E (b+2) λo=>L (m,o)else ck ((X d+X ([e]))*8<=140737488355328)<|B (d++([e])) λp=>E (b+2) λq=>L (p,q)else Z d
def qT(a:N K):V (N K):=Y (zg (Kx fu a) fu<|([],(0:J))) λb=>Y (YF fu b) λd=>Z d
def BA(d:N K)(e:N K):(((N K)×K×J)->V (N K))->((N K)×K×J)->V (N K):=λL (b,h,a)=>B (max ((X d:J))<|(X e:J)) λi=>E (i+1) λj=>if a<j then Y (ju fu d a) λk=>Y (ju fu e a) λl=>B ((k+l)%18446744073709551616) λm=>B ((m+h)%18446744073709551616) λf=>B (f &&& ((4294967295:K))) λg=>ck ((X b+X ([g]))*8<=140737488355328)<|B (b++([g])) λo=>B (f/2^(min (((32:K)):J).toNat 64)) λp=>E (a+1) λq=>L (o,p,q)else Z b
def Jt(a:N K)(b:N K):V (N K):=Y (xR fu a) λd=>Y (xR fu b) λe=>Y (zg (BA fu d e) fu<|([],(0:K),(0:J))) λf=>Y (qT fu f) λg=>Z g
def VC(b:N K)(d:N K):(J->V (wW⊕J))->J->V (wW⊕J):=λL a=>if 0<=a then Y (ju fu b a) λe=>Y (ju fu d a) λf=>if(e:J)<(f:J)then Z (.inr (-1:J))else Y (ju fu b a) λg=>Y (ju fu d a) λh=>if(h:J)<(g:J)then Z (.inr (1:J))else E (a-1) λi=>L i else Z (.inl ())
def Zh(a:N K)(b:N K):V J:=B (max ((X a:J))<|(X b:J)) λd=>E (d-1) λe=>Y (zg (VC fu a b) fu e) λf=>match f with
 |.inl _=>Z (0:J)
 |.inr g=>Z g
def bn(d:N K)(g:N K):(((N K)×K×J)->V (N K))->((N K)×K×J)->V (N K):=λL (b,h,a)=>if a<(X d:J)then Y (ju fu d a) λi=>B ((i+((4294967296:K)))%18446744073709551616) λj=>Y (ju fu g a) λk=>B ((j+18446744073709551616-k)%18446744073709551616) λl=>B ((l+18446744073709551616-h)%18446744073709551616) λe=>B (e &&& ((4294967295:K))) λf=>ck ((X b+X ([f]))*8<=140737488355328)<|B (b++([f])) λm=>B (e/2^(min (((32:K)):J).toNat 64)) λo=>B ((((1:K))+18446744073709551616-o)%18446744073709551616) λp=>E (a+1) λq=>L (m,p,q)else Z b
def Va(a:N K)(b:N K):V (N K):=Y (zg (bn fu a b) fu<|([],(0:K),(0:J))) λd=>Y (Wj fu d) λe=>Z e
end
end
section
set_option maxRecDepth 100000
section
variable(fu:zV)
def dU(fu:K)(a:N K):(((N K)×(N K)×(N K)×K×J)->V ((N K)×(N K)×(N K)×K))->((N K)×(N K)×(N K)×K×J)->V ((N K)×(N K)×(N K)×K):=λL (e,f,d,g,b)=>if b<(X a:J)then zH b (X a) λi=>B (a.getD i 0) λj=>B ((j*((2:K)))%18446744073709551616) λk=>B ((k+g)%18446744073709551616) λl=>B (l &&& ((4294967295:K))) λh=>ck ((X d+X ([h]))*8<=140737488355328)<|B (d++([h])) λm=>zH b (X a) λo=>B (a.getD o 0) λp=>B (p/2^(min (((31:K)):J).toNat 64)) λq=>E (b+1) λr=>L (e,f,m,q,r)else Z (e,f,d,g)
def eD(r:N K)(g:N K):(((N K)×J×(N K))->V ((N K)×(N K)))->((N K)×J×(N K))->V ((N K)×(N K)):=λL (m,a,d)=>if 0<=a then ck ((32:J)≠0)<|zf (xbQ a (32:J)) λs=>zH s (X g) λt=>nm (g.getD t 0) λu=>ck ((32:J)≠0)<|nm (xbn a (32:J)) λo=>ck (0<=o)<|nm (u/2^(min (o:J).toNat 64)) λv=>nm (v &&& ((1:K))) λw=>Y (zg (dU fu m) fu<|(r,g,[],w,(0:J))) λ(e,x,f,p)=>ck ((X f+X ([p]))*8<=140737488355328)<|nm (f++([p])) λh=>Y (Wj fu h) λb=>Y ((Y (Zh fu b e) λy=>if 0<=y then Z I else Z yL:V ws)) λA=>if A then Y (Va fu b e) λi=>ck ((32:J)≠0)<|zf (xbQ a (32:J)) λB=>ck ((32:J)≠0)<|zf (xbQ a (32:J)) λC=>zH C (X d) λE=>nm ((d.getD E 0)) λG=>ck ((32:J)≠0)<|nm (xbn a (32:J)) λq=>ck (0<=q)<|nm (((1:K))*2^(min (q:J).toNat 64)%18446744073709551616) λm8=>nm (G|||m8) λH=>zH B (X d) λc=>nm (d.set c H) λj=>zf (a-1) λk=>L (i,k,j)else zf (a-1) λl=>L (b,l,d)else Z (m,d)
def dj(i:N K)(j:N K):V ((N K)×(N K)×J):=Y (xR fu j) λg=>if(X g:J)=0 then Z (([],[],(3:J)))else Y (xR fu i) λa=>uC ((X a:J)) λh=>ck (8*h<=281474976710656)<|B (sR h 0) λk=>E ((32:J)*((X a:J))) λl=>E (l-1) λm=>Y (zg (eD fu g a) fu ([],m,k)) λ(b,d)=>Y (qT fu d) λe=>Y (qT fu b) λf=>Z<|(e,f,(0:J))
def X6(d:N K)(e:N K):V ((N K)×J):=Y (xR fu d) λa=>Y (xR fu e) λb=>Y (Zh fu a b) λf=>if f<0 then Z (([],(1:J)))else Y (Va fu a b) λg=>Y (qT fu g) λh=>Z<|(h,(0:J))
def Wv(b:G)(d:G):V (G×G×J):=Y (dj fu b.2 d.2) λ(e,a,f)=>if f=0 then Y ((if b.1=I then if 0<(X a:J)then Y (Jt fu e [(1:K)]) λg=>Y (X6 fu d.2 a) λ(h,o)=>Z (g,h)else Z (e,a)else Z (e,a):V ((N K)×(N K)))) λ(i,j)=>B (!(b.1==d.1)) λk=>Y (xj fu (k,i)) λl=>Y (xj fu (yL,j)) λm=>Z ((l,m,(0:J)))else Z (((yL,[]),(yL,[]),f))
def Bg:((G×G)->V G)->(G×G)->V G:=λL (b,a)=>Y (qe fu a) λd=>if d=0 then Z b else Y (Wv fu b a) λ(f,e,g)=>L (a,e)
def JS(a:G)(b:G):V G:=Y (JY fu a) λd=>Y (JY fu b) λe=>Y (zg (Bg fu) fu (d,e)) λf=>Z f
def J2(a:G):V G:=Y (xj fu<|((!a.1),a.2)) λb=>Z b
def da(a:N G):((J×G)->V G)->(J×G)->V G:=λL (b,d)=>if b<(X a:J)then zH b (X a) λe=>B ((a.getD e (yL,[]))) λf=>Y (JS fu d f) λg=>E (b+1) λh=>L (h,g)else Z d
def qB(d:N G):V G:=Y (yZ fu d) λa=>Y (wg fu (0:J)) λe=>Y (zg (da fu a) fu<|((0:J),e)) λb=>if 0<(X a:J)then E (((X a:J))-1) λf=>zH f (X a) λg=>B (((a.getD g (yL,[]))).1) λh=>if h then Y (J2 fu b) λi=>Z i else Z b else Z b
def Jb(b:G)(d:G):V (G×J):=Y (Wv fu b d) λ(e,f,a)=>if a=0 then Y (qe fu f) λg=>if g=0 then Z ((e,(0:J)))else Z (((yL,[]),(4:J)))else Z (((yL,[]),a))
def vj(a:G)(b:G):V G:=B (a.1==b.1) λd=>if d then Y (Jt fu a.2 b.2) λe=>Y (xj fu (a.1,e)) λf=>Z f else Y (X6 fu a.2 b.2) λ(g,h)=>if h=0 then Y (xj fu (a.1,g)) λi=>Z i else Y (X6 fu b.2 a.2) λ(j,l)=>Y (xj fu (b.1,j)) λk=>Z k
def U4(fu:K)(a:N G)(b:J):V G:=if 0<=b then if b<(X a:J)then zH b (X a) λd=>B (a.getD d (yL,[])) λe=>Z e else Z (yL,[])else Z (yL,[])
def AX(d:N G)(e:N G):(((N G)×J)->V (N G))->((N G)×J)->V (N G):=λL (b,a)=>B (max ((X d:J))<|(X e:J)) λg=>if a<g then Y (U4 fu d a) λh=>Y (U4 fu e a) λi=>Y (vj fu h i) λf=>ck ((X b+X ([f]))*32<=140737488355328)<|B (b++([f])) λj=>E (a+1) λk=>L (j,k)else Z b
def Yi(a:N G)(b:N G):V (N G):=Y (zg (AX fu a b) fu<|([],(0:J))) λd=>Y (yZ fu d) λe=>Z e
def dR(fu:K)(f:J):(((N K)×(N K)×K×J×(N K))->V ((N K)×(N K)×K×(N K)))->((N K)×(N K)×K×J×(N K))->V ((N K)×(N K)×K×(N K)):=λL (e,a,g,b,d)=>if b<(X a:J)then zH f (X e) λi=>B (e.getD i 0) λj=>zH b (X a) λk=>B (a.getD k 0) λl=>B ((j*l)%18446744073709551616) λm=>E (f+b) λo=>zH o (X d) λp=>B ((d.getD p 0)) λq=>B ((m+q)%18446744073709551616) λr=>B ((r+g)%18446744073709551616) λh=>E (f+b) λs=>B (h &&& ((4294967295:K))) λt=>zH s (X d) λu=>B (d.set u t) λv=>B (h/2^(min (((32:K)):J).toNat 64)) λw=>E (b+1) λx=>L (e,a,w,x,v)else Z (e,a,g,d)
def e9(f:N K)(h:N K):((J×(N K))->V (N K))->(J×(N K))->V (N K):=λL (b,g)=>if b<(X f:J)then Y (zg (dR fu b) fu<|(f,h,(0:K),(0:J),g)) λ(m,d,i,a)=>E (b+((X d:J))) λj=>zH j (X a) λk=>B (a.set k i) λe=>E (b+1) λl=>L (l,e)else Z g
def Wm(g:N K)(h:N K):V (N K):=Y (xR fu g) λd=>Y (xR fu h) λe=>E (((X d:J))+((X e:J))) λi=>uC i λf=>ck (8*f<=281474976710656)<|B (sR f 0) λj=>Y (zg (e9 fu d e) fu<|((0:J),j)) λa=>Y (qT fu a) λb=>Z b
def wk(a:G)(b:G):V G:=B (!(a.1==b.1)) λd=>Y (Wm fu a.2 b.2) λe=>Y (xj fu (d,e)) λf=>Z f
def BF(f:J):(((N G)×(N G)×J×(N G))->V ((N G)×(N G)×(N G)))->((N G)×(N G)×J×(N G))->V ((N G)×(N G)×(N G)):=λL (e,a,b,d)=>if b<(X a:J)then E (f+b) λg=>E (f+b) λh=>zH h (X d) λi=>B ((d.getD i (yL,[]))) λj=>zH f (X e) λk=>B (e.getD k (yL,[])) λl=>zH b (X a) λm=>B (a.getD m (yL,[])) λo=>Y (wk fu l o) λp=>Y (vj fu j p) λq=>zH g (X d) λr=>B (d.set r q) λs=>E (b+1) λt=>L (e,a,t,s)else Z (e,a,d)
def A1(b:N G)(e:N G):((J×(N G))->V (N G))->(J×(N G))->V (N G):=λL (a,d)=>if a<(X b:J)then Y (zg (BF fu a) fu<|(b,e,(0:J),d)) λ(h,i,f)=>E (a+1) λg=>L (g,f)else Z d
def X3(d:N G)(e:N G):V (N G):=E (((X d:J))+((X e:J))) λg=>uC g λf=>ck (32*f<=281474976710656)<|B (sR f (yL,[])) λh=>Y (zg (A1 fu d e) fu<|((0:J),h)) λa=>Y (yZ fu a) λb=>Z b
def mQ(a:N G)(f:G):(((N G)×J)->V (N G))->((N G)×J)->V (N G):=λL (b,d)=>if d<(X a:J)then zH d (X a) λg=>B (a.getD g (yL,[])) λh=>Y (wk fu h f) λe=>ck ((X b+X ([e]))*32<=140737488355328)<|B (b++([e])) λi=>E (d+1) λj=>L (i,j)else Z b
def v8(a:N G)(b:G):V (N G):=Y (zg (mQ fu a b) fu<|([],(0:J))) λd=>Y (yZ fu d) λe=>Z e
def Jv(a:N G)(b:N G):V (N G):=Y (wg fu (-1:J)) λd=>Y (v8 fu b d) λe=>Y (Yi fu a e) λf=>Z f
def Jl:(((N G)×(N G)×(N G))->V ((N G)⊕wW))->((N G)×(N G)×(N G))->V ((N G)⊕wW):=λL (a,b,e)=>if 0<(X b:J)then E (((X b:J))-((X a:J))) λf=>E (((X b:J))-1) λk=>zH k (X b) λl=>B ((b.getD l (yL,[]))) λm=>E (((X a:J))-1) λo=>zH o (X a) λp=>B (a.getD p (yL,[])) λq=>Y (Jb fu m q) λ(g,r)=>if f<0 then Z (.inr ())else if r=0 then uC f λh=>ck (32*h<=281474976710656)<|B (sR h (yL,[])) λi=>ck ((X i+X ([g]))*32<=140737488355328)<|B (i++([g])) λj=>Y (Yi fu e j) λs=>Y (X3 fu j a) λt=>Y (Jv fu b t) λd=>L (a,d,s)else Z (.inr ())else Z (.inl e)
def q7(d:N G)(e:N G):V ((N G)×J):=Y (yZ fu e) λb=>if(X b:J)=0 then Z (([],(3:J)))else Y (yZ fu d) λf=>Y (zg (Jl fu) fu (b,f,[])) λg=>match g with
 |.inl a=>Z<|(a,(0:J))
 |.inr _=>Z<|([],(4:J))
def vY(b:N G):V (N G):=Y (yZ fu b) λa=>if(X a:J)=0 then Z []else Y (qB fu a) λd=>Y (q7 fu a [d]) λ(e,f)=>Z e
def cM(a:G)(b:G):V G:=Y (J2 fu b) λd=>Y (vj fu a d) λe=>Z e
def Yf(a:G)(b:G):V J:=Y (cM fu a b) λd=>Y (qe fu d) λe=>Z e
def pE(b:N G)(d:N G):(J->V (wW⊕ws))->J->V (wW⊕ws):=λL a=>if 0<=a then zH a (X b) λf=>B ((b.getD f (yL,[]))) λg=>zH a (X d) λh=>B ((d.getD h (yL,[]))) λi=>Y (Yf fu g i) λe=>if e=0 then E (a-1) λj=>L j else if e<0 then Z (.inr I)else Z (.inr yL)else Z (.inl ())
def KU(d:N G)(e:N G):V ws:=Y (yZ fu d) λa=>Y (yZ fu e) λb=>if(X a:J)=(X b:J)then E (((X a:J))-1) λf=>Y (zg (pE fu a b) fu f) λg=>match g with
 |.inl _=>Z yL
 |.inr h=>Z h else if(X a:J)<(X b:J)then Z I else Z yL
def fF(b:N ((N G)×J))(d:N G):(J->V J)->J->V J:=λL a=>if a<(X b:J)then zH a (X b) λe=>B (b.getD e ([],0)) λf=>Y (KU fu f.1 d) λg=>if g then E (a+1) λh=>L h else Z a else Z a
def dh(a:N ((N G)×J))(e:N G)(f:J):V (N<|(N G)×J):=Y (zg (fF fu a e) fu (0:J)) λb=>Y ((if b<(X a:J)then zH b (X a) λo=>B (a.getD o ([],0)) λp=>Y (Vd fu p.1 e) λq=>Z q else Z yL:V ws)) λr=>if r then ck ((X (([]:N ((N G)×J)))+X a)*32<=140737488355328)<|B ((([]:N ((N G)×J)))++a) λd=>zH b (X d) λs=>B (((d.getD s ([],0))).2) λt=>E (t+f) λu=>zH b (X d) λg=>B (d.set g<|((d.getD g ([],0)).1,u)) λv=>Z v else uC b λh=>ck (h<=X a)<|B (a.take h) λi=>ck ((X (([]:N ((N G)×J)))+X i)*32<=140737488355328)<|B ((([]:N ((N G)×J)))++i) λj=>ck ((X j+X ([(e,f)]))*32<=140737488355328)<|B (j++([(e,f)])) λk=>uC b λl=>ck (l<=X a)<|B (a.drop l) λm=>ck ((X k+X m)*32<=140737488355328)<|B (k++m) λw=>Z w
def aJ(b:N G)(e:G):((J×G)->V G)->(J×G)->V G:=λL (a,d)=>if 0<=a then Y (wk fu d e) λf=>zH a (X b) λg=>B (b.getD g (yL,[])) λh=>Y (vj fu f h) λi=>E (a-1) λj=>L (j,i)else Z d
def K7(a:N G)(b:G):V G:=Y (wg fu (0:J)) λd=>E (((X a:J))-1) λe=>Y (zg (aJ fu a b) fu (e,d)) λf=>Z f
def q8(d:G):V (J×ws):=Y (xj fu d) λa=>if(X a.2:J)=0 then Z (((0:J),I))else if 1<(X a.2:J)then Z (((0:J),yL))else zH 0 (X a.2) λe=>B (a.2.getD e 0) λb=>if a.1=I then if(b:J)<=(((9223372036854775808:K):K):J)then B (sgn b) λf=>B (ng f) λg=>Z (g,I)else if((!a.1))=I then if(b:J)<=(((9223372036854775807:K):K):J)then B (sgn b) λh=>Z (h,I)else Z (((0:J),yL))else Z (((0:J),yL))else if((!a.1))=I then if(b:J)<=(((9223372036854775807:K):K):J)then B (sgn b) λi=>Z (i,I)else Z (((0:J),yL))else Z (((0:J),yL))
def XW(fu:K)(b:J):(((N J)×J)->V (N J))->((N J)×J)->V (N J):=λL (f,a)=>E (a*a) λs=>nm (ng b) λt=>nm (max b t) λu=>if s<=u then ck (a≠0)<|nm (xbn b a) λv=>if v=0 then nm (ng a) λr=>ck ((X f+X ([a,r]))*8<=140737488355328)<|nm (f++([a,r])) λh=>Y ((E (a*a) λw=>nm (ng b) λx=>nm (max b x) λy=>if w=y then Z (b,yL)else Z (b,I):V (J×ws))) λ(g,A)=>if A then nm (ng g) λi=>nm (max g i) λj=>ck (a≠0)<|E (xbQ j a) λd=>nm (ng g) λk=>nm (max g k) λl=>nm (ng l) λm=>ck (a≠0)<|E (xbQ m a) λe=>ck ((X h+X ([d,e]))*8<=140737488355328)<|nm (h++([d,e])) λB=>E (a+1) λo=>L (B,o)else E (a+1) λp=>L (h,p)else E (a+1) λq=>L (f,q)else Z f
def YN(b:G):V (N J):=Y (q8 fu b) λ(a,d)=>if !d then Z []else if 1000000<a then Z []else if a< -1000000 then Z []else Y (zg (XW fu a) fu<|([],(1:J))) λe=>Z e
def VE(fu:K)(k:J):(((N J)×J×(N J))->V (((N J)×(N J))⊕wW))->((N J)×J×(N J))->V (((N J)×(N J))⊕wW):=λL (d,b,a)=>if k<=b then zH b (X d) λl=>nm (d.getD l 0) λm=>zf (b-k) λo=>zH o (X d) λp=>nm (d.getD p 0) λq=>zf (m-q) λe=>zH b (X a) λr=>nm ((a.getD r 0)) λs=>zf (b-1) λt=>zH t (X a) λu=>nm ((a.getD u 0)) λv=>zf (s-v) λw=>ck (e≠0)<|nm (xbn w e) λx=>if x=0 then zH b (X a) λy=>nm ((a.getD y 0)) λA=>zf (b-1) λf=>zH f (X a) λB=>nm ((a.getD B 0)) λg=>zf (A-g) λh=>ck (e≠0)<|zf (xbQ h e) λi=>zH b (X a) λC=>nm (a.set C i) λE=>zf (b-1) λj=>L (d,j,E)else Z (.inr ())else Z (.inl (d,a))
def W2(a:N J):((J×(N J))->V ((N J)⊕wW))->(J×(N J))->V ((N J)⊕wW):=λL (b,e)=>if b<(X a:J)then E (((X a:J))-1) λf=>Y (zg (VE fu b) fu (a,f,e)) λg=>match g with
 |.inl (i,h)=>E (b+1) λd=>L (d,h)
 |.inr _=>Z (.inr ())else Z (.inl e)
def WX(j:N J)(k:N J):(((N G)×J)->V (N G))->((N G)×J)->V (N G):=λL (l,a)=>if 0<=a then zH a (X j) λm=>B (j.getD m 0) λo=>B (ng o) λb=>Y (kN fu [b,(1:J)]) λd=>Y (X3 fu l d) λe=>zH a (X k) λp=>B ((k.getD p 0)) λf=>Y (kN fu [f]) λg=>Y (Yi fu e g) λh=>E (a-1) λi=>L (h,i)else Z l
def Xv(a:N J)(e:N J):V ((N G)×ws):=ck ((X (([]:N J))+X e)*8<=140737488355328)<|B ((([]:N J))++e) λf=>Y (zg (W2 fu a) fu<|((1:J),f)) λg=>match g with
 |.inl h=>E (((X a:J))-1) λb=>Y (zg (WX fu a h) fu ([],b)) λd=>Z (d,I)
 |.inr _=>Z ([],yL)
def aA(i:N G)(e:J)(j:J):(((N J)×(N<|N J)×J×J)->V (((N J)×(N<|N J)×J)⊕((N G)×ws)))->((N J)×(N<|N J)×J×J)->V (((N J)×(N<|N J)×J)⊕((N G)×ws)):=λL (f,g,h,b)=>if b<=e then E (b+1) λm=>ck ((2:J)≠0)<|E (xbQ m (2:J)) λk=>Y ((ck ((2:J)≠0)<|nm (xbn b (2:J)) λo=>if o=0 then nm (ng k) λp=>Z (i,e,j,p)else Z (i,e,j,k):V ((N G)×J×J×J))) λ(q,C,r,d)=>Y (wg fu d) λs=>Y (K7 fu q s) λl=>Y (qe fu l) λt=>if t=0 then nm (ng d) λu=>Y (kN fu [u,(1:J)]) λv=>Z (.inr (v,I))else Y (YN fu l) λa=>if(X a:J)=0 then Z (.inr ([],yL))else E (h*((X a:J))) λw=>if r<w then Z (.inr ([],yL))else E (h*((X a:J))) λx=>ck ((X f+X ([d]))*8<=140737488355328)<|nm (f++([d])) λy=>ck ((X g+X ([a]))*24<=140737488355328)<|nm (g++([a])) λA=>E (b+1) λB=>L (y,A,x,B)else Z (.inl (f,g,h))
def U7(fu:K)(a:N (N J)):(((N G)×J×(N J)×J×J)->V ((N G)×J×(N J)))->((N G)×J×(N J)×J×J)->V ((N G)×J×(N J)):=λL (d,o,b,e,f)=>if e<(X a:J)then zH e (X a) λq=>B ((a.getD q [])) λg=>zH e (X a) λr=>B ((a.getD r [])) λh=>ck ((X h:J)≠0)<|B (xbn f<|(X h:J)) λj=>zH j (X g) λs=>B (g.getD s 0) λp=>ck ((X b+X ([p]))*8<=140737488355328)<|B (b++([p])) λk=>zH e (X a) λt=>B ((a.getD t [])) λi=>ck ((X i:J)≠0)<|E (xbQ f<|(X i:J)) λl=>E (e+1) λm=>L (d,o,k,m,l)else Z (d,o,b)
def be(o:N G)(m:J):(((N J)×J×(N<|N J))->V (wW⊕(N G)))->((N J)×J×(N<|N J))->V (wW⊕(N G)):=λL (a,d,b)=>if d<m then Y (zg (U7 fu b) fu<|(o,m,[],(0:J),d)) λ(g,p,h)=>Y (Xv fu a h) λ(e,q)=>if !q then E (d+1) λi=>L (a,i,b)else if(X e:J)<2 then E (d+1) λj=>L (a,j,b)else Y (vY fu e) λf=>Y (q7 fu g f) λ(r,k)=>if k=0 then Z (.inr f)else E (d+1) λl=>L (a,l,b)else Z (.inl ())
def Uj(d:N G)(e:J)(f:J):V ((N G)×ws):=Y (zg (aA fu d e f) fu<|([],[],(1:J),(0:J))) λg=>match g with
 |.inl (h,i,j)=>(Y (zg (be fu d j) fu<|(h,(0:J),i)) λk=>match k with
 |.inl _=>Z ([],I)
 |.inr a=>Z (a,I))
 |.inr (b,l)=>Z (b,l)
def QP(c:(N G)->J->V ((N<|N G)×ws))(a:N G)(e:J):(J->V (wW⊕((N<|N G)×ws)))->J->V (wW⊕((N<|N G)×ws)):=λL b=>E ((2:J)*b) λi=>if i<(X a:J)then Y (Uj fu a b e) λ(d,j)=>if !j then Z (.inr ([],yL))else if 0<(X d:J)then if(X d:J)<(X a:J)then Y (q7 fu a d) λ(k,q)=>Y (c d e) λ(f,l)=>Y (c k e) λ(g,m)=>ck ((X f+X g)*24<=140737488355328)<|B (f++g) λh=>if l then Z (.inr (h,m))else Z (.inr (h,yL))else E (b+1) λo=>L o else E (b+1) λp=>L p else Z (.inl ())
def uq:K->(N G)->J->V ((N<|N G)×ws)
 |0,_,_=>yD
 |fu+1,a,b=>Y (zg (QP fu (uq fu) a b) fu (1:J)) λd=>match d with
  |.inl _=>Z ([a],I)
  |.inr (e,f)=>Z (e,f)
def WQ(a:N (N G)):(((N<|(N G)×J)×J)->V (N<|(N G)×J))->((N<|(N G)×J)×J)->V (N<|(N G)×J):=λL (d,b)=>if b<(X a:J)then zH b (X a) λe=>B ((a.getD e [])) λf=>Y (dh fu d f (1:J)) λg=>E (b+1) λh=>L (g,h)else Z d
def Xx(b:N G)(d:J):V ((N<|(N G)×J)×ws):=Y (vY fu b) λa=>if(X a:J)<2 then Z ([],I)else Y (uq fu a d) λ(e,f)=>Y (zg (WQ fu e) fu<|([],(0:J))) λg=>Z (g,f)
def sx(fu:K):((J×K)->V J)->(J×K)->V J:=λL (a,b)=>if(((0:K):K):J)<(b:J)then E (a+1) λd=>ck ((2:K)≠0)<|B (b/((2:K))) λe=>L (d,e)else Z a
def WI(b:N K):V J:=Y (YF fu b) λa=>if(X a:J)=0 then Z (0:J)else E (((X a:J))-1) λd=>E ((64:J)*d) λe=>E (((X a:J))-1) λf=>zH f (X a) λg=>B ((a.getD g 0)) λh=>Y (zg (sx fu) fu (e,h)) λi=>Z i
def Vo(fu:K)(b:J):(J->V (wW⊕wW))->J->V (wW⊕wW):=λL a=>E (a*a) λd=>if d<=b then ck (a≠0)<|B (xbn b a) λe=>if e=0 then Z (.inr ())else E (a+1) λf=>L f else Z (.inl ())
def Qp(a:J):V ws:=if a<2 then Z yL else if 65521<a then Z yL else Y (zg (Vo fu a) fu (2:J)) λb=>match b with
 |.inl _=>Z I
 |.inr _=>Z yL
def bE:(J->V J)->J->V J:=λL b=>E (b+1) λa=>Y (Qp fu a) λd=>if d then Z a else L a
def YX(a:J):V (J×J):=if 65521<=a then Z (((0:J),(5:J)))else B (max a (1:J)) λb=>Y (zg (bE fu) fu b) λd=>Z<|(d,(0:J))
def eK(fu:K)(a:J):V (N K):=ck ((64:J)≠0)<|E (xbQ a (64:J)) λf=>E (f+1) λg=>uC g λb=>ck (8*b<=281474976710656)<|B (sR b 0) λd=>ck ((64:J)≠0)<|E (xbQ a (64:J)) λh=>ck ((64:J)≠0)<|B (xbn a (64:J)) λe=>ck (0<=e)<|B (((1:K))*2^(min (e:J).toNat 64)%18446744073709551616) λi=>zH h (X d) λj=>B (d.set j i) λk=>Z k
def dC(b:N K)(a:J):V ((N K)×J):=if a<0 then Z (([],(1:J)))else if 262144<a then Z (([],(1:J)))else Y (eK fu a) λd=>Y (Wm fu b d) λe=>Z<|(e,(0:J))
def jw(f:G):((J×G×J×G)->V (J×G×G))->(J×G×J×G)->V (J×G×G):=λL (a,b,d,e)=>if d<a then Y (wk fu e f) λg=>E (d+1) λh=>L (a,b,h,g)else Z (a,b,e)
def af(f:G)(g:J):((J×G×G)->V (G×G))->(J×G×G)->V (G×G):=λL (a,b,d)=>if 0<=a then Y (dC fu [(1:K)] a) λ(h,p)=>Y (vj fu d (yL,h)) λe=>Y (wg fu (1:J)) λi=>Y (zg (jw fu e) fu<|(g,f,(0:J),i)) λ(q,j,k)=>Y (Yf fu k j) λl=>if l<=0 then E (a-1) λm=>L (m,b,e)else E (a-1) λo=>L (o,b,d)else Z (b,d)
def Ub(b:G)(a:J):V (G×J):=if a<1 then Z (((yL,[]),(1:J)))else if 64<a then Z (((yL,[]),(1:J)))else Y (qe fu b) λd=>if d<0 then Z (((yL,[]),(1:J)))else Y (wg fu (0:J)) λe=>Y (WI fu b.2) λf=>ck (a≠0)<|E (xbQ f a) λg=>Y (zg (af fu b a) fu<|(g,(yL,[]),e)) λ(i,h)=>Z<|(h,(0:J))
def kM(b:N G):V J:=Y (yZ fu b) λa=>if(X a:J)=0 then Z (8:J)else if 65<(X a:J)then Z (6:J)else Z (0:J)
def KD(a:N G):((J×G)->V G)->(J×G)->V G:=λL (b,d)=>if b<(X a:J)then zH b (X a) λe=>B ((a.getD e (yL,[]))) λf=>zH b (X a) λg=>B ((a.getD g (yL,[]))) λh=>Y (wk fu f h) λi=>Y (vj fu d i) λj=>E (b+1) λk=>L (k,j)else Z d
def Kk(e:N G):((J×G)->V G)->(J×G)->V G:=λL (d,a)=>if d<(X e:J)then Y (vj fu a a) λb=>E (d+1) λf=>L (f,b)else Z a
def Je(b:N G):V (G×J):=Y (kM fu b) λd=>if d=0 then Y (yZ fu b) λe=>Y (wg fu (0:J)) λg=>Y (zg (KD fu e) fu<|((0:J),g)) λf=>Y (Ub fu f (2:J)) λ(a,o)=>Y ((Y (wk fu a a) λh=>Y (Yf fu h f) λi=>if i<0 then Y (wg fu (1:J)) λj=>Y (vj fu a j) λk=>Z k else Z a:V G)) λl=>Y (zg (Kk fu e) fu<|((1:J),l)) λm=>Z ((m,(0:J)))else Z (((yL,[]),d))
def lX(b:N G):(((N G)×J)->V (N G))->((N G)×J)->V (N G):=λL (d,a)=>if a<(X b:J)then zH a (X b) λf=>B (b.getD f (yL,[])) λg=>Y (wg fu a) λh=>Y (wk fu g h) λe=>ck ((X d+X ([e]))*32<=140737488355328)<|B (d++([e])) λi=>E (a+1) λj=>L (i,j)else Z d
def Q7(a:N G):V (N G):=Y (zg (lX fu a) fu<|([],(1:J))) λb=>Y (yZ fu b) λd=>Z d
def Qy(g:G):(((N G)×(N G)×(N G)×J)->V ((N G)×(N G)×J))->((N G)×(N G)×(N G)×J)->V ((N G)×(N G)×J):=λL (b,a,h,i)=>if(X b:J)<=(X a:J)then E (((X a:J))-((X b:J))) λo=>uC o λj=>ck (32*j<=281474976710656)<|B (sR j (yL,[])) λk=>E (((X a:J))-1) λp=>zH p (X a) λq=>B ((a.getD q (yL,[]))) λl=>ck ((X k+X ([l]))*32<=140737488355328)<|B (k++([l])) λm=>Y (v8 fu h g) λr=>Y (Yi fu r m) λs=>Y (v8 fu a g) λd=>Y (X3 fu m b) λe=>Y (Jv fu d e) λf=>E (i-1) λt=>L (b,f,s,t)else Z (a,h,i)
def QQ(f:G):(((N G)×(N G)×J)->V ((N G)×(N G)))->((N G)×(N G)×J)->V ((N G)×(N G)):=λL (a,b,g)=>if 0<g then Y (v8 fu b f) λd=>Y (v8 fu a f) λe=>E (g-1) λh=>L (e,d,h)else Z (a,b)
def Yp(i:N G)(j:N G):V ((N G)×(N G)×J):=Y (yZ fu j) λa=>if(X a:J)=0 then Z (([],[],(3:J)))else Y (yZ fu i) λg=>E (((X a:J))-1) λk=>zH k (X a) λl=>B ((a.getD l (yL,[]))) λh=>E (((X g:J))-((X a:J))) λm=>E (m+1) λo=>Y (zg (Qy fu h) fu (a,g,[],o)) λ(b,d,p)=>Y (zg (QQ fu h) fu (b,d,p)) λ(e,f)=>Z<|(f,e,(0:J))
def Bn:(((N G)×(N G))->V (N G))->((N G)×(N G))->V (N G):=λL (b,a)=>if 0<(X a:J)then Y (Yp fu b a) λ(f,d,g)=>Y (vY fu d) λe=>L (a,e)else Z b
def J1(a:N G)(b:N G):V (N G):=Y (qB fu a) λd=>Y (qB fu b) λe=>Y (JS fu d e) λf=>Y (vY fu a) λg=>Y (vY fu b) λh=>Y (zg (Bn fu) fu (g,h)) λi=>Y (v8 fu i f) λj=>Z j
def XD(b:N G):V (N G):=Y (vY fu b) λa=>Y (Q7 fu a) λd=>Y (J1 fu a d) λe=>Y (q7 fu a e) λ(f,g)=>Z f
def Xy(a:N G):V ((N G)×J):=Y (kM fu a) λb=>if b=0 then Y (XD fu a) λd=>Z ((d,(0:J)))else Z ([],b)
def w7(a:J):V J:=Y (Qp fu a) λb=>if !b then Z (1:J)else Z (0:J)
def JV(fu:K)(d:J)(a:J):V J:=if a<1 then Z (0:J)else ck (a≠0)<|B (xbn d a) λb=>if b<0 then E (b+a) λe=>Z e else Z b
def mg(a:N J)(f:J):(((N J)×J)->V (N J))->((N J)×J)->V (N J):=λL (b,d)=>if d<(X a:J)then zH d (X a) λg=>B (a.getD g 0) λh=>Y (JV fu h f) λe=>ck ((X b+X ([e]))*8<=140737488355328)<|B (b++([e])) λi=>E (d+1) λj=>L (i,j)else Z b
def nk(fu:K)(b:N J):(J->V J)->J->V J:=λL a=>if 0<a then E (a-1) λd=>zH d (X b) λe=>B ((b.getD e 0)) λf=>if f=0 then E (a-1) λg=>L g else Z a else Z a
def yI(d:N J)(e:J):V (N J):=Y (zg (mg fu d e) fu<|([],(0:J))) λa=>Y (zg (nk fu a) fu<|(X a:J)) λf=>uC f λb=>ck (b<=X a)<|B (a.take b) λg=>Z g
def mo(fu:K)(e:J)(h:N J)(f:N J):((J×J×(N J))->V (J×(N J)))->(J×J×(N J))->V (J×(N J)):=λL (d,a,b)=>if a<(X f:J)then E (e+a) λi=>E (e+a) λj=>zH j (X b) λk=>B ((b.getD k 0)) λl=>zH e (X h) λm=>B ((h.getD m 0)) λo=>zH a (X f) λp=>B ((f.getD p 0)) λq=>E (o*q) λr=>E (l+r) λs=>ck (d≠0)<|B (xbn s d) λt=>zH i (X b) λu=>B (b.set u t) λv=>E (a+1) λg=>L (d,g,v)else Z (d,b)
def mG(g:J):((J×(N J)×(N J)×(N J))->V (N J))->(J×(N J)×(N J)×(N J))->V (N J):=λL (a,b,e,f)=>if a<(X b:J)then Y (zg (mo fu a b e) fu<|(g,(0:J),f)) λ(i,h)=>E (a+1) λd=>L (d,b,e,h)else Z f
def xH(h:N J)(i:N J)(a:J):V (N J):=Y (yI fu h a) λe=>Y (yI fu i a) λf=>E (((X e:J))+((X f:J))) λj=>uC j λg=>ck (8*g<=281474976710656)<|B (sR g 0) λk=>Y (zg (mG fu a) fu<|((0:J),e,f,k)) λb=>Y (yI fu b a) λd=>Z d
def AW(fu:K)(a:J):((J×J×J)->V J)->(J×J×J)->V J:=λL (e,b,d)=>if 0<d then ck ((2:J)≠0)<|B (xbn d (2:J)) λi=>if i=1 then E (e*b) λj=>ck (a≠0)<|B (xbn j a) λk=>E (b*b) λl=>ck (a≠0)<|B (xbn l a) λm=>ck ((2:J)≠0)<|E (xbQ d (2:J)) λo=>L (k,m,o)else E (b*b) λf=>ck (a≠0)<|B (xbn f a) λg=>ck ((2:J)≠0)<|E (xbQ d (2:J)) λh=>L (e,g,h)else Z e
def dE(d:J)(b:J)(a:J):V (J×J):=Y (w7 fu a) λe=>if e=0 then if b<0 then Z (((0:J),(1:J)))else ck (a≠0)<|B (xbn (1:J) a) λf=>Y (JV fu d a) λg=>Y (zg (AW fu a) fu (f,g,b)) λh=>Z ((h,(0:J)))else Z (((0:J),(1:J)))
def qA(b:J)(a:J):V J:=E (a-2) λd=>Y (dE fu b d a) λ(e,f)=>if a=2 then Z (1:J)else Z e
def w8(d:N J)(b:J):V ((N J)×J):=Y (w7 fu b) λe=>if e=0 then Y (yI fu d b) λa=>if(X a:J)=0 then Z (([],(0:J)))else E (((X a:J))-1) λf=>zH f (X a) λg=>B ((a.getD g 0)) λh=>Y (qA fu h b) λi=>Y (xH fu a [i] b) λj=>Z ((j,(0:J)))else Z (([],(1:J)))
def sa(fu:K)(b:N J)(d:N J):(J->V (wW⊕wW))->J->V (wW⊕wW):=λL a=>if a<(X b:J)then zH a (X b) λe=>B (b.getD e 0) λf=>zH a (X d) λg=>B (d.getD g 0) λh=>if f=h then E (a+1) λi=>L i else Z (.inr ())else Z (.inl ())
def YA(a:N J)(b:N J):V ws:=if(X a:J)=(X b:J)then Y (zg (sa fu a b) fu (0:J)) λd=>match d with
 |.inl _=>Z I
 |.inr _=>Z yL else Z yL
def XF(fu:K)(a:J)(d:N J):(((N J)×J)->V (N J))->((N J)×J)->V (N J):=λL (e,b)=>if b<(X d:J)then ck (a≠0)<|B (xbn b a) λg=>zH b (X d) λh=>B ((d.getD h 0)) λi=>E (g*i) λj=>ck (a≠0)<|B (xbn j a) λf=>ck ((X e+X ([f]))*8<=140737488355328)<|B (e++([f])) λk=>E (b+1) λl=>L (k,l)else Z e
def Jg(b:N J)(a:J):V ((N J)×J):=Y (w7 fu a) λd=>if d=0 then Y (yI fu b a) λe=>Y (zg (XF fu a e) fu<|([],(1:J))) λf=>Y (yI fu f a) λg=>Z ((g,(0:J)))else Z (([],(1:J)))
def bf(fu:K)(a:N J)(b:J):V J:=if b<(X a:J)then zH b (X a) λd=>B (a.getD d 0) λe=>Z e else Z (0:J)
def A6(g:J):(((N J)×(N J)×(N J)×J)->V (N J))->((N J)×(N J)×(N J)×J)->V (N J):=λL (b,d,e,a)=>B (max ((X b:J))<|(X d:J)) λh=>if a<h then Y (bf fu b a) λi=>Y (bf fu d a) λj=>E (g*j) λk=>E (i+k) λf=>ck ((X e+X ([f]))*8<=140737488355328)<|B (e++([f])) λl=>E (a+1) λm=>L (b,d,l,m)else Z e
def Wh(b:N J)(d:N J)(e:J)(a:J):V (N J):=Y (yI fu b a) λf=>Y (yI fu d a) λg=>Y (zg (A6 fu e) fu<|(f,g,[],(0:J))) λh=>Y (yI fu h a) λi=>Z i
def eF(fu:K)(g:J):((J×J×(N J)×J)->V (J×J×(N J)))->(J×J×(N J)×J)->V (J×J×(N J)):=λL (d,e,a,f)=>if f<g then ck ((X a+X ([(0:J)]))*8<=140737488355328)<|B (a++([(0:J)])) λh=>E (f+1) λb=>L (d,e,h,b)else Z (d,e,a)
def ek(fu:K)(d:N J)(e:J)(k:J):(((N J)×J)->V (N J))->((N J)×J)->V (N J):=λL (a,f)=>if f<(X d:J)then zH f (X d) λl=>B ((d.getD l 0)) λg=>E (g*e) λh=>ck (k≠0)<|B (xbn h k) λb=>ck ((X a+X ([b]))*8<=140737488355328)<|B (a++([b])) λi=>E (f+1) λj=>L (i,j)else Z a
def dM(e:J)(j:J):(((N J)×(N J)×(N J))->V ((N J)×(N J)))->((N J)×(N J)×(N J))->V ((N J)×(N J)):=λL (a,d,f)=>if(X d:J)<=(X a:J)then E (((X a:J))-((X d:J))) λk=>E (((X a:J))-1) λm=>zH m (X a) λo=>B ((a.getD o 0)) λp=>E (p*j) λq=>ck (e≠0)<|B (xbn q e) λb=>zH k (X f) λr=>B (f.set r b) λs=>Y (zg (eF fu k) fu<|(e,j,[],(0:J))) λ(l,t,g)=>Y (zg (ek fu d b l) fu<|(g,(0:J))) λh=>Y (Wh fu a h (-1:J) l) λi=>L (i,d,s)else Z (a,f)
def Yg(i:N J)(j:N J)(a:J):V ((N J)×(N J)×J):=Y (w7 fu a) λk=>if k=0 then Y (yI fu j a) λb=>if(X b:J)=0 then Z (([],[],(3:J)))else Y (yI fu i a) λg=>E (((X g:J))+1) λl=>uC l λh=>ck (8*h<=281474976710656)<|B (sR h 0) λm=>E (((X b:J))-1) λo=>zH o (X b) λp=>B ((b.getD p 0)) λq=>Y (qA fu q a) λr=>Y (zg (dM fu a r) fu (g,b,m)) λ(d,e)=>Y (yI fu e a) λf=>Z ((f,d,(0:J)))else Z (([],[],(1:J)))
def jb(j:N (N J))(k:N (N J))(l:N J):((J×(N<|N J)×J)->V (J×(N<|N J)))->(J×(N<|N J)×J)->V (J×(N<|N J)):=λL (d,a,e)=>if e<3 then zH e (X j) λm=>B ((j.getD m [])) λf=>zH e (X k) λo=>B ((k.getD o [])) λg=>Y (xH fu l g d) λh=>Y (Wh fu f h (-1:J) d) λb=>ck ((X a+X ([b]))*24<=140737488355328)<|B (a++([b])) λi=>E (e+1) λp=>L (d,i,p)else Z (d,a)
def YG(e:J):(((N<|N J)×(N<|N J))->V (N<|N J))->((N<|N J)×(N<|N J))->V (N<|N J):=λL (b,a)=>zH 0 (X a) λf=>B ((a.getD f [])) λg=>if 0<(X g:J)then zH 0 (X b) λh=>B ((b.getD h [])) λi=>zH 0 (X a) λj=>B ((a.getD j [])) λk=>Y (Yg fu i k e) λ(l,m,o)=>Y (zg (jb fu b a l) fu<|(e,[],(0:J))) λ(p,d)=>L (a,d)else Z b
def Vq(r:N J)(s:N J)(b:J):V ((N J)×(N J)×(N J)×J):=Y (w7 fu b) λt=>if t=0 then Y (yI fu r b) λu=>Y (yI fu s b) λv=>Y (zg (YG fu b) fu<|([u,[(1:J)],[]],[v,[],[(1:J)]])) λa=>zH 0 (X a) λw=>nm ((a.getD w [])) λe=>if(X e:J)=0 then Z (([],[(1:J)],[],(0:J)))else zH 0 (X a) λx=>nm ((a.getD x [])) λd=>zH 0 (X a) λy=>nm ((a.getD y [])) λf=>E (((X f:J))-1) λA=>zH A (X d) λB=>nm (d.getD B 0) λC=>Y (qA fu C b) λg=>zH 0 (X a) λh=>nm ((a.getD h [])) λi=>Y (xH fu i [g] b) λj=>zH 1 (X a) λk=>nm ((a.getD k [])) λl=>Y (xH fu l [g] b) λm=>zH 2 (X a) λo=>nm ((a.getD o [])) λp=>Y (xH fu p [g] b) λq=>Z ((j,m,q,(0:J)))else Z (([],[],[],(1:J)))
def X9(a:N J)(b:N J)(d:J):V ((N J)×J):=Y (Vq fu a b d) λ(e,g,h,f)=>Z (e,f)
def aI(a:N J)(b:N J)(d:J):V (N J):=Y (Yg fu a b d) λ(e,f,g)=>Z e
def re(fu:K)(a:N J)(f:J):(((N J)×J)->V (N J))->((N J)×J)->V (N J):=λL (b,d)=>if d<(X a:J)then zH d (X a) λg=>B (a.getD g 0) λe=>ck ((X b+X ([e]))*8<=140737488355328)<|B (b++([e])) λh=>E (d+f) λi=>L (h,i)else Z b
def Uz(a:N J)(b:J):V (N J):=Y (zg (re fu a b) fu<|([],(0:J))) λd=>Z d
def VQ(f:N J)(a:J):(((N J)×(N J))->V (N J))->((N J)×(N J))->V (N J):=λL (b,d)=>if 1<(X d:J)then Y (aI fu b d a) λe=>Y (X9 fu e f a) λ(g,h)=>L (e,g)else Z b
def XE(a:N J)(b:N J)(d:J):V (N J):=Y (X9 fu a b d) λ(e,g)=>Y (zg (VQ fu b d) fu (a,e)) λf=>Z f
def vk:K->(N J)->J->V (N J)
 |0,_,_=>yD
 |fu+1,g,a=>Y (w8 fu g a) λ(b,m)=>if(X b:J)<=1 then Z [(1:J)]else Y (Jg fu b a) λ(d,o)=>if(X d:J)=0 then Y (Uz fu b a) λh=>Y (vk fu h a) λi=>Z i else Y (X9 fu b d a) λ(e,p)=>Y (aI fu b e a) λf=>Y (XE fu e f a) λj=>Y (vk fu j a) λk=>Y (xH fu f k a) λl=>Z l
def dP(b:N J)(a:J):V J:=Y (w7 fu a) λd=>if d=0 then Y (yI fu b a) λe=>if(X e:J)=0 then Z (8:J)else Z (0:J)else Z (1:J)
def lU(a:N J)(b:J):V (ws×J):=Y (dP fu a b) λd=>if d=0 then Y (w8 fu a b) λ(e,h)=>Y (vk fu a b) λf=>Y (YA fu e f) λg=>Z ((g,(0:J)))else Z (yL,d)
def UG(b:G)(a:G):V (G×J):=Y (qe fu a) λd=>if d<=0 then Z (((yL,[]),(1:J)))else Y (Wv fu b a) λ(f,e,g)=>Z<|(e,(0:J))
def cd(b:G)(d:J):V (J×J):=Y (wg fu d) λe=>Y (UG fu b e) λ(f,a)=>if a=0 then Y (q8 fu f) λ(g,h)=>Z ((g,(0:J)))else Z (((0:J),a))
def By(a:N G)(f:J):(((N J)×J)->V (N J))->((N J)×J)->V (N J):=λL (b,d)=>if d<(X a:J)then zH d (X a) λg=>B (a.getD g (yL,[])) λh=>Y (cd fu h f) λ(e,k)=>ck ((X b+X ([e]))*8<=140737488355328)<|B (b++([e])) λi=>E (d+1) λj=>L (i,j)else Z b
def AY(fu:K)(b:N J):(J->V J)->J->V J:=λL a=>if 0<a then E (a-1) λd=>zH d (X b) λe=>B ((b.getD e 0)) λf=>if f=0 then E (a-1) λg=>L g else Z a else Z a
def dJ(e:N G)(b:J):V ((N J)×J):=if b<1 then Z (([],(1:J)))else Y (zg (By fu e b) fu<|([],(0:J))) λa=>Y (zg (AY fu a) fu<|(X a:J)) λf=>uC f λd=>ck (d<=X a)<|B (a.take d) λg=>Z<|(g,(0:J))
def KZ(a:N G)(b:J):V (ws×J):=Y (kM fu a) λd=>if d=0 then Y (Qp fu b) λf=>if !f then Z ((yL,(0:J)))else Y (dJ fu a b) λ(e,i)=>Y (yZ fu a) λg=>if(X e:J)=(X g:J)then Y (lU fu e b) λ(h,j)=>Z ((h,(0:J)))else Z ((yL,(0:J)))else Z (yL,d)
def qw(a:N G):((J×J)->V (wW⊕wW))->(J×J)->V (wW⊕wW):=λL (b,d)=>if d=0 then if 1<(X a:J)then Y (KZ fu a b) λ(e,h)=>if e then Z (.inr ())else Y (YX fu b) λ(f,g)=>L (f,g)else Z (.inl ())else Z (.inl ())
def kJ(b:N G):V J:=Y (kM fu b) λd=>if d=0 then Y (Xy fu b) λ(a,p)=>Y (Je fu a) λ(e,q)=>Y (wg fu (2:J)) λf=>E (((X a:J))-1) λg=>zH g (X a) λh=>B (a.getD h (yL,[])) λi=>Y (wk fu e i) λj=>Y (wk fu f j) λk=>Y ((if 1<(X a:J)then Y (WI fu k.2) λl=>if 1000<l then Z (.inr ())else Z (.inl ())else Z (.inl ()):V (wW⊕wW))) λm=>match m with
 |.inl _=>(Y (zg (qw fu a) fu<|((2:J),(0:J))) λo=>match o with
 |.inl _=>if 1<(X a:J)then Z (6:J)else Z (0:J)
 |.inr _=>Z (0:J))
 |.inr _=>Z (6:J)else Z d
def XI(a:N G)(g:N J):V ws:=Y (eE fu) λb=>Y (Xc fu (7:J) (1:J) a) λj=>if !j then Z b else if 20<(X g:J)then Z b else Y (kJ fu a) λe=>Y (xE fu a g) λ(k,l,h)=>Y (wK fu a) λ(f,i)=>if e=0 then if h=0 then if i=0 then Y (qB fu a) λm=>Y (WV fu k m) λo=>if !o then Z yL else Y (Xx fu a (2500:J)) λ(d,p)=>if b then if !p then Z I else Y (W7 fu l d) λq=>if q then if(X d:J)=1 then zH 0 (X d) λr=>B (d.getD r ([],0)) λs=>if s.2=1 then B (f==I) λt=>Z t else B (f==yL) λu=>Z u else B (f==yL) λv=>Z v else Z yL else Z yL else Z yL else Z yL else if b then if h=e then if i=e then Z I else Z yL else Z yL else Z yL
end
end
end Go.Proofs.YtdpdofimolhigaaGreat
