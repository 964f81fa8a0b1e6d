/- What a proof needs: rules of walking, mirrors of functions and their plain laws. No condition. -/
import Derived.Test.YtoegnnjcmlghhaaGreatZh2
import Derived.RangeFuncLeaves
import Derived.Below
import Derived.Lib.Join
import Derived.Shelf.Strings.Builder1
import Derived.Shelf.Strings.Builder2
import Derived.Shelf.Strings.OnBuilder
import Derived.Shelf.Small.Bits
import Derived.Shelf.Strconv.Itoa0
import Derived.Shelf.Bits.Mul64
import Derived.Ground.Names2Prog
import Derived.Shelf.Slices.ReverseS
import Derived.Shelf.Slices.SearchI
import Derived.Shelf.Slices.Cells
import Derived.Ground.SlgnProg
import Derived.Shelf.SlicesE.Clone
set_option linter.all false
namespace Go.Proofs
open Go.Shelf
def Tryz.lays156_ren:Go.Shelf.Ren:=⟨fun|156=>164|165=>199|166=>200|169=>201|240=>236|241=>237|276=>268|277=>269|n=>n,fun|31=>159|9=>9|3=>3|4=>4|0=>0|20=>20|72=>194|76=>198|70=>192|37=>190|75=>197|127=>221|164=>247|5=>5|80=>200|n=>n,fun|n=>n⟩
theorem Tryz.lays156:Go.Proofs.Lays.n156 Tryz.prog Tryz.lays156_ren:={
  mixed:=by kernel_rfl
  f156:=Tryz.func164.trans (congrArg some (by kernel_rfl))
  f165:=Tryz.func199.trans (congrArg some (by kernel_rfl))
  f166:=Tryz.func200.trans (congrArg some (by kernel_rfl))
  f169:=Tryz.func201.trans (congrArg some (by kernel_rfl))
  f240:=Tryz.func236.trans (congrArg some (by kernel_rfl))
  f241:=Tryz.func237.trans (congrArg some (by kernel_rfl))
  f276:=Tryz.func268.trans (congrArg some (by kernel_rfl))
  f277:=Tryz.func269.trans (congrArg some (by kernel_rfl))
  t0:=Tryz.underlying0
  a0:=Tryz.isAgg0
  z0:=Tryz.sizeOf0
  v0:=Tryz.zeroValue0
  t3:=Tryz.underlying3
  a3:=Tryz.isAgg3
  z3:=Tryz.sizeOf3
  v3:=Tryz.zeroValue3
  t4:=Tryz.underlying4
  a4:=Tryz.isAgg4
  z4:=Tryz.sizeOf4
  v4:=Tryz.zeroValue4
  t9:=Tryz.underlying9
  a9:=Tryz.isAgg9
  z9:=Tryz.sizeOf9
  v9:=Tryz.zeroValue9
  t20:=Tryz.underlying20
  a20:=Tryz.isAgg20
  z20:=Tryz.sizeOf20
  v20:=Tryz.zeroValue20
  t31:=Tryz.underlying159
  a31:=Tryz.isAgg159
  z31:=Tryz.sizeOf159
  v31:=Tryz.zeroValue159
  t37:=Tryz.underlying190
  a37:=Tryz.isAgg190
  z37:=Tryz.sizeOf190
  v37:=Tryz.zeroValue190
  t70:=Tryz.underlying192
  a70:=Tryz.isAgg192
  z70:=Tryz.sizeOf192
  v70:=Tryz.zeroValue192
  t72:=Tryz.underlying194
  a72:=Tryz.isAgg194
  z72:=Tryz.sizeOf194
  v72:=Tryz.zeroValue194
  t75:=Tryz.underlying197
  a75:=Tryz.isAgg197
  z75:=Tryz.sizeOf197
  v75:=Tryz.zeroValue197
  t76:=Tryz.underlying198
  a76:=Tryz.isAgg198
  z76:=Tryz.sizeOf198
  v76:=Tryz.zeroValue198
  t127:=Tryz.underlying221
  a127:=Tryz.isAgg221
  z127:=Tryz.sizeOf221
  v127:=Tryz.zeroValue221
  t164:=Tryz.underlying247
  a164:=Tryz.isAgg247
  z164:=Tryz.sizeOf247
  v164:=Tryz.zeroValue247}
theorem Tryz.Builder_Extra_156:Builder.Extra Tryz.prog Tryz.lays156_ren:={
  sizeBuilder:=by kernel_rfl
  liesBuilder:=by kernel_rfl
  t5:=Tryz.underlying5
  a5:=Tryz.isAgg5
  z5:=Tryz.sizeOf5
  v5:=Tryz.zeroValue5
  infoByte:=by kernel_rfl
  cellsByte:=by kernel_rfl
  sizeByte:=by kernel_rfl
  neB5:=by decide}
open Go.RowKit in
theorem Tryz.strings_Join_none(a:Option Addr)(c:Nat)(sep:ByteArray)(w:World):
    Calls Tryz.prog 164 #[.slice a 0 c,.string sep] w fun e w'=>e=.returned (.string ⟨#[]⟩)∧w'=w:=Any.strings_Join_none Tryz.lays156 Tryz.Builder_Extra_156 a c sep w
open Go.RowKit in
theorem Tryz.strings_Join(bk o c:Nat)(xs:List ByteArray)(sep:ByteArray)(w:World)(hcells:∀(j:Nat) x,xs[j]? =some x→w.cell? ⟨bk,o+j,none⟩=some (.string x))(hbk:bk<w.heap.size)(hN:xs.length≤140737488355328)(hcap:xs.length≤c)(hlen:(Lib.join (xs.map (·.data.toList)) sep.data.toList).length≤140737488355328):
    Calls Tryz.prog 164 #[.slice (some ⟨bk,o,none⟩) xs.length c,.string sep] w fun e w'=>e=.returned (.string ⟨(Lib.join (xs.map (·.data.toList)) sep.data.toList).toArray⟩)∧Below w.heap.size w w':=Any.strings_Join Tryz.lays156 Tryz.Builder_Extra_156 bk o c xs sep w hcells hbk hN hcap hlen
end Go.Proofs
namespace Go.Proofs.YtoegnnjcmlghhaaGreat
open Bool renaming false->I,true->wL
open Go renaming Value->wN,World->wP,TypeId->wT,Operand->wW,Program->jP,execOp->kW,undef->uT,Oper->Z0,FuncId->Z4,Tmp->Z5,Code->Wr,resolve->Wt,wpListIn->WF,ResultVar->WP,wpIn_mono->V0,invoke->V2,results->Jp,Func->JP,Act->Kw,Addr->KW,Calls->UP,Exit->ce,run_endRound->cO,Loop->cS
open Go.Proofs.YtoegnnjcmlghhaaGreat renaming Zr->M,bd->Y,za->U,nm->B,ze->S
open List renaming length->X,length->lM
open Nat renaming beq->E
open Option renaming some->Z,none->wF
open _root_ renaming rfl->O,List->N,Int->J,Nat->K,Option->V,List->xS,Int->wl,Nat->wr,Option->ww,trivial->wR,absurd->wS,Bool->qR,funext->jp,congrArg->ut,Array->uL,if_true->uP,if_false->uS,cond_true->Z2,cond_false->Z3,Unit->Z9,True->XS,ByteArray->Wd,reduceCtorEq->Ww,reduceIte->V9,False->QR,decide_eq_true_eq->Ul,or_false->fD
open Bool renaming and_eq_true->xac,false_eq_true->xao,false_or->xeC,not_eq_true'->xcV,not_true->xeD,or_eq_true->xes
open Deferred renaming ofValue->xdR
open Ending renaming returned->xeR
open Extern renaming find->xfc,findNext->xeP
open Extern.MathBitsCarry renaming m64->xbc,pair->xbT,three->xbN
open Fence renaming wide->xgh
open List renaming all_eq_true->xaR,any_eq_true->xeZ,append_assoc->xad,append_nil->xbO,cons_append->xbC,filterMap_cons->xaP,filterMap_eq_nil_iff->xep,filter_cons->xfP,getD_eq_getElem?_getD->FS,getElem?_append_left->xaX,getElem?_append_right->xbr,getElem?_cons_zero->xby,getElem?_eq_getElem->xab,getElem?_eq_some_iff->xar,getElem?_map->xbV,getElem?_range->xfd,getElem?_take->xcn,intercalate->xfQ,length->xaG,length_append->xaw,length_cons->xax,length_eq_zero_iff->xbh,length_map->xaj,length_replicate->xaM,length_set->xbj,length_take->xav,map_append->xaY,map_congr_left->xbZ,map_cons->xbS,map_map->xcN,map_nil->xex,map_take->xeU,mem_append->So,mem_cons->xaf,mem_cons_of_mem->UV,mem_cons_self->H1,mem_filter->xcg,mem_filterMap->xfp,mem_iff_getElem?->xfJ,mem_map->xas,mem_of_getElem?->xbp,mem_of_mem_drop->xeX,mem_range->xbg,mem_singleton->xag,nil_append->xbA,not_mem_nil->Nm,perm_append_comm_assoc->xdZ,perm_middle->xcl,range->xaN,replicate->xaa,set->xgk,singleton_append->xfI,take_length->xbY,take_of_length_le->xaQ
open List.Perm renaming append_left->xbL,append_right->xfx,refl->xdD,swap->xdX
open Nat renaming add_sub_cancel_left->xfn,add_zero->xbD,beq->xam,ble->xgg,blt->xdd,eq_of_beq_eq_true->xcL,le_add_right->xbM,le_mul_of_pos_right->xco,le_of_ble_eq_true->xbK,le_refl->IR,le_succ->xbH,le_trans->xap,lt_irrefl->xfW,lt_of_lt_of_le->xah,lt_or_ge->xca,lt_succ_of_lt->xfD,lt_succ_self->xbR,sub_self->xcD,zero_add->xaK,zero_le->xan,zero_lt_one->xdY
open Op renaming operands->xaB
open Oper renaming looksAt->xbx
open Option.some renaming inj->xdI,injEq->xat
open Prod.mk renaming injEq->xcI
open Region renaming binds->xcu
open Sum renaming elim->xfH
open UInt8 renaming ofNat->xfe,toNat->xfB
open Value renaming bool->xeJ,cells->xfA
open _root_.Array renaming getD_eq_getD_getElem?->xbl,getElem?_eq_some_iff->xbk,length_toList->xfa,mem_toList_iff->xdn,replicate->xeL,toArray_toList->xcX
section
def St.pr{we:wP}{Se:K->Prop}{ms:N MF}{Γ:N FF}{w:wP}{p:Prop}(hp:p)(h:St we Se ms Γ w):St we Se (mPr p::ms) Γ w:=by
 have⟨h1,b,c,S,d,e,f,g,i⟩:=h;refine⟨h1,b,⟨λk a=>a.elim,c⟩,S,d,e,λm hm k a=> ?_,⟨hp,g⟩,i⟩;obtain rfl|hm:=xaf.1 hm
 ·exact a.elim
 ·exact f m hm k a
def St.unpr{we:wP}{Se:K->Prop}{ms:N MF}{Γ:N FF}{w:wP}{p:Prop}(h:St we Se (mPr p::ms) Γ w):p/\St we Se ms Γ w:=
 ⟨wz h (i:=0) O λS hp=>hp,St.drop (i:=0) h⟩
section
variable{P:jP}{cf:Cf}{fr:Fr}{cx σ:Sg}{vs vs':wr->wN}{env:y7}{w:wP}{R:Type}{r:R}
 {d:ww Z5}{ty t yt:wT}{pos:String}{aft:uL Edge}{g:ww (wr×qR)}{x y:wW}
def Je{d a:Dv}{v:wN}{i:K}{S:K->Prop}(h:(wo P vs d v i).p S w)(b:∀u,(vI P vs d u).p S w->(vI P vs a u).p S w):(wo P vs a v i).p S w:=by
 cases i with
 |zero=>exact b _ h
 |succ i=>have⟨us,u,h1,c,e⟩:=h;exact⟨us,u,h1,c,b _ e⟩
def Jz{v u:wN}{mk:K->Dv}{X:Od}{ob:N (K×Od)}(b:Bd cx σ)(hd:wQ cx d=wL)(c:∀e∈ob,e.1<σ.nx)(hc:∀o,vt (mk o)=Z o)(f:∀S w,(vI P (XF vs σ.nx u) (mk σ.nx) v).p S w)
 (h:St fr.we fr.Se (JZ (XF vs σ.nx u) (σ.nx,X)::OS vs fr cx ob) (GS P vs env fr cx σ) w):lF P fr cx σ.nx vs ⟨σ.nx+1,vQ σ.rg d [(0,mk σ.nx)],(σ.nx,X)::ob⟩ (put env d v) w:=by
 refine Jh (σ':=⟨σ.nx+1,vQ σ.rg d [(0,mk σ.nx)],(σ.nx,X)::ob⟩) (vs:=vs) (vs':=XF vs σ.nx u) (Γl:=[]) b hd O (xbH _) (λo a=>ku a) ?_ ?_ ?_ ?_
 ·intro e he o a;obtain rfl:=xag.1 he;rw[hc]at a;cases a;exact xbR _
 ·intro e he;obtain rfl|he:=xaf.1 he
  ·exact xbR _
  ·exact xfD<|c e he
 ·intro S w _ e he;obtain rfl:=xag.1 he;exact f S w
 ·show St _ _ (JZ (XF vs σ.nx u) (σ.nx,X)::OS (XF vs σ.nx u) fr cx ob) _ _;rw[IF b c];exact h
def Vz:∀{ob:N (K×Od)}{o:K}{X Y:Od},xH ob o=Z X->xH (jY ob o Y) o=Z Y/\yw (jY ob o Y) o=yw ob o
 |(b,e)::r,o,X,Y,h=>by
  unfold xH at h;unfold jY;cases a:E b o<;>rw[a]at h
  ·have⟨h1,c⟩:=Vz (ob:=r) (Y:=Y) h;constructor
   ·simp only[Z3];unfold xH;rw[a];exact h1
   ·simp only[Z3];unfold yw;rw[a];simp only[Z3,c]
  ·constructor
   ·simp only[Z2];unfold xH;rw[a];rfl
   ·simp only[Z2];unfold yw;rw[a];rfl
def jT{o:K}{X:Od}{Γ:N FF}(a:xH σ.ob o=Z X)(h:St fr.we fr.Se (OS vs fr cx σ.ob) Γ w):St fr.we fr.Se (JZ vs (o,X)::OS vs fr cx (yw σ.ob o)) Γ w:=h.perm<|jv a
def Bh{ob:N (K×Od)}{o:K}{X Y:Od}{Γ:N FF}(a:xH ob o=Z X)(h:St fr.we fr.Se (JZ vs (o,Y)::OS vs fr cx (yw ob o)) Γ w):St fr.we fr.Se (OS vs fr cx<|jY ob o Y) Γ w:=by
 have⟨h1,b⟩:=Vz (Y:=Y) a;have:=jv (vs:=vs) (fr:=fr) (cx:=cx) h1;rw[b]at this;exact h.perm this.symm
def gx{o o2:K}{X Y:Od}{Γ:N FF}(a:E o o2=I)(b:xH σ.ob o=Z X)(hc:xH σ.ob o2=Z Y)(h:St fr.we fr.Se (OS vs fr cx σ.ob) Γ w):
 St fr.we fr.Se (JZ vs (o,X)::JZ vs (o2,Y)::OS vs fr cx (yw (yw σ.ob o) o2)) Γ w:=by
 have h1:xH (yw σ.ob o) o2=Z Y:=by rw[Ur<|λe=>by subst e;simp at a];exact hc
 exact(h.perm<|jv b).perm<|(jv (vs:=vs) (fr:=fr) (cx:=cx) h1).cons _
def moU{o:K}{u:wN}{X:Od}:JZ (XF vs o u) (o,X)=JZ (λ_=>u) (0,X):=by
 cases X<;>simp only[JZ,wh]
def znM{S:K->Prop}{w:wP}:(Ya [.slice wF 0 0]).p S 0 (xfA (.slice wF 0 0)).toList w:=⟨_,O,O,O⟩
def ziQ(a:yY P cf.tt){k:Sg->V R}(hd:wQ cx d=wL)(h:SN cf cx σ d t x y k=Z r):mC P cx ⟨d,.makeSlice t x y,ty,pos,aft,g⟩ σ k r:=by
 unfold SN at h;split at h
 ·next s E B ht=>
  have⟨hi,h⟩:=z7 h;split at h
  ·next L E1 M n f hn=>
   have⟨j,C,h⟩:=zbb h;have⟨i,h⟩:=Zo h;have⟨xs,l,h⟩:=xR h;have F:=R6 a f O;refine⟨_,h,xbH _,λfr vs env w G=> ?_⟩;have⟨m,o⟩:=G;have⟨S0,_,c⟩:=o.ex;have q:ev env x=.int .i64 (j:J):=by rw[(w9 hn<|zS c x).1,C]
   have A:=(a _ _ f).2.1;refine(Nv (e:=Ya [.slice wF 0 0]) (z:=0) (xs:=xs) (n:=j) (qw a ht) F q ((zbu hi).symm.trans q) A i (λ_ _=>znM) l w o).mono ?_;rintro v w' ⟨b,rfl,_,H⟩;have hc:X xs=j:=by rw[l];exact xaM
   have h1:=H.closeF 0 O (by rw[hc];exact IR _)<|ze7 A i;rw[hc]at h1;refine Jz (vs:=vs) (mk:=.mw) (u:=UG (.slice (Z ⟨b,0,wF⟩) j j) [.slice wF 0 0]) m hd m.o1 (λ_=>O) (λS w=>by simp only[vI,wh];rfl) ?_;rw[moU];refine St.grp.2<|St.pr (p:=X ([.slice wF 0 0]:N wN)=X ([[]]:N (N s.D))) O ?_;have K:=St.nilO (e:=s.rep) (E:=E1) h1;exact K.perm<|xdX ..
  ·cases h
 ·cases h
def zlm{a:V KW}{n c:K}:(Value.slice a n c).oneCell'=wL/\(Value.slice a n c).cells= #[.slice a n c]:=⟨O,O⟩
def Cn{α:Type}{e:zW α}{E:wT}{v:wN}{xs:N α}{S:K->Prop}(h:(mO e E v xs).p S w):v.oneCell'=wL/\v.cells= #[v]:=by
 rcases fX h with⟨rfl,_⟩|⟨b,cap,rfl,_⟩<;>exact zlm
def zm5(b:yY P cf.tt)(l:uI P cf.tt){n:K}{ps:uL (K×wW)}{k:Sg->V R}(hd:wQ cx d=wL)(h:zgx cf cx σ d t n ps.toList k=Z r):mC P cx ⟨d,.buildSlice t n ps,ty,pos,aft,g⟩ σ k r:=by
 unfold zgx at h;split at h
 ·next s E B x ht o=>
  have⟨hn,h⟩:=z7 h;have hn:=zO hn;subst hn;split at h
  ·next o2 hi=>
   split at h
   ·next J E1 ys c=>
    have⟨q,h⟩:=yj h;cases q;have⟨bytes,f,z⟩:=Kq b l ht;refine⟨_,h,xbH _,λfr vs env w A=> ?_⟩;have⟨j,hc⟩:=A;have⟨S0,_,a⟩:=hc.ex;have hl:ev env x=vs o2:=zj hi<|zS a x;have⟨q1,q2⟩:=wz (jT c hc) (i:=0) (m:=mO s.rep E1 (vs o2) ys) O λS hp=>Cn hp;have C:jo [(0,vs o2)]=[vs o2]:=by rw[zkB,q2]
    refine(zex (e:=Ya [vs o2]) (zs:=[0]) (len:=1) (parts:=ps.toList) (vs:=[(0,vs o2)]) (qw b ht) z (xdY) O (by show 1*1<=_;lia) (by rw[o];simp[hl]) (λS w F=>⟨by rw[q2];rfl,wR⟩) (λS w F=> ?_) w<|jT c hc).mono ?_
    ·rw[C];exact⟨[vs o2],[],O,⟨_,O,q1,O⟩,O⟩
    rintro v w' ⟨L,rfl,_,G⟩;refine Jz (vs:=vs) (mk:=.mw) (u:=UG v [vs o2]) j hd (λe H=>j.o1 e<|uW e H) (λ_=>O) (λS w=>by simp only[vI,wh];rfl) ?_;rw[moU];exact St.grp.2<|St.pr (p:=X ([vs o2]:N wN)=X ([ys]:N (N s.D))) O G
   ·cases h
  ·cases h
 ·cases h
def zeS(C:yY P cf.tt){m:wT}{k:Sg->V R}(hd:wQ cx d=wL)(h:LO cf σ d m k=Z r):mC P cx ⟨d,.alloc m,ty,pos,aft,g⟩ σ k r:=by
 unfold LO at h;split at h
 ·next s E B ht=>
  have hi:=R6 C ht O;refine⟨_,h,xbH _,λfr vs env w o=> ?_⟩;have⟨f,q⟩:=o;refine(sA (e:=(Ya [.slice wF 0 0]).c) (z:=0) hi (λS w=>znM (S:=S) (w:=w)) w q).mono ?_;rintro v w' ⟨b,rfl,_,A⟩;refine Jz (vs:=vs) (mk:=.mw) (u:=UG (.pointer<|some ⟨b,0,wF⟩) [.slice wF 0 0]) f hd f.o1 (λ_=>O) (λS w=>by simp only[vI,wh];rfl) ?_;rw[moU];refine St.grp.2<|St.pr (p:=X ([.slice wF 0 0]:N wN)=1) O ?_;exact(St.nilO (e:=s.rep) (E:=E)<|A.toP 0 O).perm<|xdX ..
 ·next a n B ht=>
  split at h
  ·next i E1 L=>
   split at h
   ·next off s J st j=>
    have⟨F,hc,M,G,_,H⟩:=(C _ _ ht).1;simp only at hc G H;refine⟨_,h,xbH _,λfr vs env w o=> ?_⟩;have⟨f,q⟩:=o;refine(sA (e:=b6 a.rep off (st ([]:N s.D)) [.slice wF 0 0]) (z:=(a.z,0)) hc (λS w=>zk6 j (G S w) (H _ _ _ _ _ _ j) O) w q).mono ?_;rintro v w' ⟨b,rfl,_,A⟩;refine Jz (vs:=vs) (mk:=.mw) (u:=UG (.pointer<|some ⟨b,0,wF⟩) [.slice wF 0 0]) f hd f.o1 (λ_=>O) (λS w=>by simp only[vI,wh];rfl) ?_;rw[moU];refine St.grp.2<|St.pr (p:=X ([.slice wF 0 0]:N wN)=1/\vrP s (xl n a i)) ⟨O,_,_,_,j⟩ ?_;have K:=(St.nilO (e:=s.rep) (E:=E1)<|A.toP 0 O).perm<|xdX ..;show St _ _ (mP (b6 a.rep (Xu<|xl n a i) (uH s (xl n a i) []) [.slice wF 0 0]) m _ (a.z,0)::mO s.rep E1 (.slice wF 0 0) []::_) _ _;rw[j];have hp:uH s (Z ⟨off,.l s,J,st⟩) ([]:N s.D)=st ([]:N s.D):=jp λz=>nF;rw[hp];exact K
   ·cases h
  ·cases h
 ·cases h
def zjU{v:V Dv}{o:K}(h:RK σ v=Z o):∃t n i E b E1 z xs,v=Z (.vf o t n i)/\xH σ.ob o=Z (.vr t E b E1 n i z xs):=by
 unfold RK at h;split at h
 ·next f c n0 i=>
  split at h
  ·next s E b E1 n j z xs e=>
   cases a:xam i j && (xam n0 n && (Ty.same c s).isSome)<;>rw[a]at h
   ·cases h
   ·cases h;rw[xac,xac]at a;obtain rfl:=zO a.1;obtain rfl:=zO a.2.1;obtain rfl:=Js a.2.2;exact⟨_,_,_,_,_,_,_,_,O,e⟩
  ·cases h
 ·cases h
def B6{hv:N wN}(h:X hv=1):hv=[hv.headD uT]:=by
 match hv,h with
 |[a],_=>rfl
def ziL(D:yY P cf.tt){o:K}{k:Sg->V R}(hd:wQ cx d=wL)(F:xD cx σ x=Z (.mw o))(h:SZ cf σ d t o k=Z r):mC P cx ⟨d,.load t x,ty,pos,aft,g⟩ σ k r:=by
 unfold SZ at h;split at h
 ·next q E' B s E a xs ht i=>
  have⟨l,G,_⟩:=YN D ht;refine⟨_,h,xbH _,λfr vs env w H=> ?_⟩;have⟨m,hc⟩:=H;have⟨S0,_,j⟩:=hc.ex;have hi:ev env x=yC (vs o):=zj F<|zS j x;have⟨n,h1⟩:=St.unpr<|St.grp.1<|jT i hc;have⟨b,v,J⟩:=h1.openP 0 O;refine(NK (VB (e:=(Ya<|xU<|vs o).c) (f:=Ya<|xU<|vs o) (z':=0) (up:=id) 0 O (hi.trans v) (Sub.self (Ya<|xU<|vs o) 0) G) w J).mono ?_;rintro u w' ⟨_,rfl,_,z⟩;have⟨S1,_,L⟩:=z.ex;have A:=zgw L.1;have M:=B6 n;have hl:u=(xU<|vs o).headD uT:=by
   rw[M]at A;simpa using A.symm
  have C:=(z.weak (Δ:=GS P vs env fr cx σ) λS w h=>h.2).toP 0 O;rw[<-v]at C;refine Jz (vs:=vs) (mk:=.ow) (u:=u) m hd (λe N=> ?_) (λ_=>O) (λS w=>KB S w) ?_
  ·have⟨Q,g1,T⟩:=Jr i e N;rw[<-T];exact m.o1 Q g1
  ·rw[KQ,hl];have U:St fr.we fr.Se (mO s.rep E ((xU<|vs o).headD uT) xs::(JZ vs (o,.ho a)::OS vs fr cx (yw σ.ob o))) (GS P vs env fr cx σ) w':=by
    have h5:St fr.we fr.Se (mP (Ya<|xU<|vs o).c a (yC<|vs o) 0::mO s.rep E ((xU<|vs o).headD uT) xs::OS vs fr cx (yw σ.ob o)) (GS P vs env fr cx σ) w':=C;have h6:=St.pr (p:=X (xU<|vs o)=1) n h5;have h7:St fr.we fr.Se ([mPr<|X (xU<|vs o)=1,mP (Ya<|xU<|vs o).c a (yC<|vs o) 0]++mO s.rep E ((xU<|vs o).headD uT) xs::OS vs fr cx (yw σ.ob o)) (GS P vs env fr cx σ) w':=h6;exact(St.grp.2 h7).perm<|xdX ..
   have hp:=jv (vs:=vs) (fr:=fr) (cx:=cx) (Vz (Y:=.ho a) i).1;rw[(Vz (Y:=.ho a) i).2]at hp;exact U.perm<|hp.symm.cons _
 ·cases h
def zhe(c:yY P cf.tt){ps:uL (K×wW)}{k:Sg->V R}(hd:wQ cx d=wL)(h:MA cf cx σ d t ps.toList k=Z r):mC P cx ⟨d,.build t ps,ty,pos,aft,g⟩ σ k r:=by
 unfold MA at h;split at h
 ·next e n B i _ ht hv=>
  have⟨f,j,o,l,_,hi⟩:=(c _ _ ht).1;have⟨a,_,⟨fs,v,pl,A,m⟩,_⟩:=(c _ _ ht).2.2.2;simp only at j o l hi a m;have⟨hn,h⟩:=z7 h;split at h
  ·next off s T st b=>
   have⟨z,h,C⟩:=zai h;have D:∀F,ES P ⟨d,.build t ps,ty,pos,aft,g⟩ cx σ F [(0,.dz e z n i)]:=λF=>uA λenv w S vs U hl=>by
    have E:=C P vs env S w λx G=>yG hl (by simpa[xaB]using G);refine⟨_,_,_,_,[hbF n e (ps.toList.map λq:K×wW=>(q.1,ev env q.2)) e.z z],[],HJ (e:=e.rep) (z0:=e.z) (z:=z) (parts:=ps.toList) (a▸j) a l ⟨fs,v,A⟩ O (λout=>out[off]? =Z (.slice wF 0 0))<|λS w h cs H hc=> ?_,wR,⟨E,wR⟩,λu w' J L=>zt ⟨L.1,_,b,J⟩⟩;have⟨out,q1,q2,M⟩:=HB.fill m h.1 hc;refine⟨out,q1,q2,?_⟩;rw[M i _ b (λp hp=> ?_) O,H]
    ·exact hi _ _ _ _ _ _ b
    ·obtain⟨q,N,rfl⟩:=xas.1 hp;have:=xaR.1 hn q N;intro e1;simp only at e1;rw[e1]at this;simp at this
   exact⟨_,h,IR _,λfr vs env w Q=>zkR (D _).mono hd (by rfl) Q⟩
  ·cases h
 ·cases h
def zh4(N:yY P cf.tt){o:K}{k:Sg->V R}(hd:wQ cx d=wL)(hi:RK σ (xD cx σ x)=Z o)(h:SG cf σ d t o k=Z r):mC P cx ⟨d,.load t x,ty,pos,aft,g⟩ σ k r:=by
 have⟨t0,n0,i,m,c,a,z',l,hn,s⟩:=zjU hi;unfold SG at h;split at h
 ·next s0 q B s1 E s2 E1 n j z xs ht v=>
  rw[s]at v;simp only[xat,Od.vr.injEq]at v;obtain⟨rfl,rfl,rfl,rfl,rfl,rfl,Q,T⟩:=v;cases Q;cases T;have⟨hg,h⟩:=z7 h;have⟨C,U,_⟩:=YN N ht;refine⟨_,h,xbH _,λfr vs env w hR=> ?_⟩;have⟨D,F⟩:=hR;have⟨S0,_,A⟩:=F.ex;have⟨b',f,G,hf,hv⟩:=zj hn<|zS A x;have⟨⟨hc,hw⟩,h1⟩:=St.unpr<|St.grp.1<|jT s F;have⟨b,H,h2⟩:=h1.openP 0 O;rw[H]at G;cases G;have hl:Xu (xl n0 t0 i)=f.off:=by rw[hf];rfl
  have hm:ev env x=.pointer (Z ⟨b',Xu<|xl n0 t0 i,wF⟩):=by rw[hl];exact hv.trans<|by rw[xaK]
  refine(NK (VB (e:=b6 t0.rep (Xu<|xl n0 t0 i) (uH c (xl n0 t0 i) [])<|xU<|vs o) (f:=Ya<|xU<|vs o) (z':=0) (up:=λr=>(z',r)) 0 O hm Sub.hole U) w h2).mono ?_;rintro u w' ⟨_,rfl,_,J⟩;have⟨S1,_,hy⟩:=J.ex;have L:=zgw hy.1;have hA:=B6 hc;have hC:u=(xU<|vs o).headD uT:=by
   rw[hA]at L;simpa using L.symm
  have M:=(J.weak (Δ:=GS P vs env fr cx σ) λS w h=>h.2).toP 0 O;rw[<-H]at M;refine Jz (vs:=vs) (mk:=.ow) (u:=u) D hd (λe he=> ?_) (λ_=>O) (λS w=>KB S w) ?_
  ·have⟨e',g1,g2⟩:=Jr s e he;rw[<-g2];exact D.o1 e' g1
  ·rw[KQ,hC];have h4:St fr.we fr.Se (mO c.rep a ((xU<|vs o).headD uT) l::(JZ vs (o,.vh t0 m c a n0 i z')::OS vs fr cx (yw σ.ob o))) (GS P vs env fr cx σ) w':=by
    have h5:St fr.we fr.Se (mP (b6 t0.rep (Xu<|xl n0 t0 i) (uH c (xl n0 t0 i) [])<|xU<|vs o) m (yC<|vs o) (z',0)::mO c.rep a ((xU<|vs o).headD uT) l::OS vs fr cx (yw σ.ob o)) (GS P vs env fr cx σ) w':=M;have h6:=St.pr (p:=X (xU<|vs o)=1/\vrP c (xl n0 t0 i)) ⟨hc,hw⟩ h5;have h7:St fr.we fr.Se ([mPr<|X (xU<|vs o)=1/\vrP c (xl n0 t0 i),mP (b6 t0.rep (Xu<|xl n0 t0 i) (uH c (xl n0 t0 i) [])<|xU<|vs o) m (yC<|vs o) (z',0)]++mO c.rep a ((xU<|vs o).headD uT) l::OS vs fr cx (yw σ.ob o)) (GS P vs env fr cx σ) w':=h6;exact(St.grp.2 h7).perm<|xdX ..
   have hp:=jv (vs:=vs) (fr:=fr) (cx:=cx) (Vz (Y:=.vh t0 m c a n0 i z') s).1;rw[(Vz (Y:=.vh t0 m c a n0 i z') s).2]at hp;exact h4.perm<|hp.symm.cons _
 ·cases h
structure zg5(a b:wN):Prop where
 out:yC b=yC a
 hv:∀(r:K) (v:wN),(xU a)[r]? =Z v->(xU b)[r]? =Z v
def zgE{o n:K}(c:zg5 (vs o) (vs n)){dv:Dv}{v:wN}{S:K->Prop}(h:(vI P vs dv v).p S w):(vI P vs (zid o n dv) v).p S w:=by
 cases dv with
 |mw p=>
  show(vI P vs (bif E p o then .mw n else .mw p) v).p S w;cases a:E p o
  ·exact h
  ·obtain rfl:=zO a;exact(show v=yC (vs p)from h).trans c.out.symm
 |mv p l m=>
  show(vI P vs (bif E p o then .mv n l m else .mv p l m) v).p S w;cases a:E p o
  ·exact h
  ·obtain rfl:=zO a;simp only[vI,Z2]at h⊢;rw[c.out];exact h
 |hp p j=>
  show(vI P vs (bif E p o then .hp n j else .hp p j) v).p S w;cases a:E p o
  ·exact h
  ·obtain rfl:=zO a;simp only[vI,Z2]at h⊢;rw[c.out];exact h
 |rw p r=>
  show(vI P vs (bif E p o then .rw n r else .rw p r) v).p S w;cases a:E p o
  ·exact h
  ·obtain rfl:=zO a;exact c.hv _ _ h
 |rp p t r j f=>
  show(vI P vs (bif E p o then .rp n t r j f else .rp p t r j f) v).p S w;cases a:E p o
  ·exact h
  ·obtain rfl:=zO a;have⟨h1,b,m,cap,e,i,k⟩:=h;exact⟨h1,b,m,cap,c.hv _ _ e,i,k⟩
 |_=>exact h
def zfl{o n p:K}{v:Dv}(h:vt (zid o n v)=Z p):vt v=Z p\/p=n:=by
 cases v with
 |mw q=>
  have h:vt (bif E q o then Dv.mw n else .mw q)=Z p:=h;cases a:E q o<;>rw[a]at h
  ·exact .inl h
  ·cases h;exact .inr O
 |mv q l m=>
  have h:vt (bif E q o then Dv.mv n l m else .mv q l m)=Z p:=h;cases a:E q o<;>rw[a]at h
  ·exact .inl h
  ·cases h;exact .inr O
 |hp q j=>
  have h:vt (bif E q o then Dv.hp n j else .hp q j)=Z p:=h;cases a:E q o<;>rw[a]at h
  ·exact .inl h
  ·cases h;exact .inr O
 |rw q r=>
  have h:vt (bif E q o then Dv.rw n r else .rw q r)=Z p:=h;cases a:E q o<;>rw[a]at h
  ·exact .inl h
  ·cases h;exact .inr O
 |rp q t r j f=>
  have h:vt (bif E q o then Dv.rp n t r j f else .rp q t r j f)=Z p:=h;cases a:E q o<;>rw[a]at h
  ·exact .inl h
  ·cases h;exact .inr O
 |_=>exact .inl h
def P9{o n:K}:∀{rg:N (K×K×Dv)},∀e∈zjC o n rg,∃a∈rg,e=(a.1,a.2.1,zid o n a.2.2)
 |[],e,he=>wS he Nm
 |(t,i,v)::rg,e,he=>by
  obtain rfl|he:=xaf.1 he
  ·exact⟨_,H1,O⟩
  ·have⟨a,h1,b⟩:=P9 e he;exact⟨a,UV _ h1,b⟩
def PO{o n:K}:∀{rg:N (K×K×Dv)},∀e∈Ft o n rg,e∈rg\/∃a∈rg,∃p,a.2.2=.mw p/\e=(a.1,a.2.1,bif E p o then .mw n else .mw p)
 |[],e,he=>wS he Nm
 |(t,i,v)::rg,e,he=>by
  have b:∀e∈Ft o n rg,e∈(t,i,v)::rg\/∃a∈(t,i,v)::rg,∃p,a.2.2=.mw p/\e=(a.1,a.2.1,bif E p o then .mw n else .mw p):=λe he=>by
   obtain h|⟨a,h1,p,c,f⟩:=PO e he
   ·exact .inl<|UV _ h
   ·exact .inr ⟨a,UV _ h1,p,c,f⟩
  cases v with
  |mw p=>
   rcases xaf.1 (show e∈(t,i,bif E p o then Dv.mw n else .mw p)::Ft o n rg from he)with rfl|he
   ·exact .inr ⟨_,H1,p,O,O⟩
   ·exact b e he
  |_=>
   obtain rfl|he:=xaf.1 he
   ·exact .inl<|H1
   ·exact b e he
def mZ{u v:wN}{o:K}{X:Od}{ob:N (K×Od)}{rg:N (K×K×Dv)}(k:Bd cx σ)(hd:wQ cx d=wL)(hc:∀e∈ob,e.1<σ.nx)
 (m:∀e∈rg,∃a∈vQ σ.rg d [],e.1=a.1/\e.2.1=a.2.1/\(∀p,vt e.2.2=Z p->vt a.2.2=Z p\/p=σ.nx)/\∀v S w,(vI P (XF vs σ.nx u) a.2.2 v).p S w->(vI P (XF vs σ.nx u) e.2.2 v).p S w)
 (hi:St fr.we fr.Se (JZ (XF vs σ.nx u) (σ.nx,X)::OS vs fr cx ob) (GS P vs env fr cx σ) w):lF P fr cx σ.nx vs ⟨σ.nx+1,rg,(σ.nx,X)::ob⟩ (put env d v) w:=by
 have⟨b,n⟩:gR P fr cx ⟨σ.nx+1,vQ σ.rg d [],(σ.nx,X)::ob⟩ (XF vs σ.nx u) (put env d v) w:=by
  refine ME (σ':=⟨σ.nx+1,vQ σ.rg d [],(σ.nx,X)::ob⟩) (l:=[]) (vs:=vs) (vs':=XF vs σ.nx u) (Γl:=[]) k hd O (xbH _) (λo c=>ku c) (λ_ he=>wS he Nm) ?_ (λS w _ e he=>wS he Nm) ?_
  ·intro e he;obtain rfl|he:=xaf.1 he
   ·exact xbR _
   ·exact xfD<|hc e he
  ·show St _ _ (JZ (XF vs σ.nx u) (σ.nx,X)::OS (XF vs σ.nx u) fr cx ob) _ _;rw[IF k hc];exact hi
 refine⟨XF vs σ.nx u,λo c=>ku c,⟨b.o1,b.o2,λe he p hp=> ?_,b.r2⟩,n.weak λS w h=>zE.append (uE.2 λf q=> ?_)<|zE.right h⟩
 ·have⟨a,h1,_,_,j,_⟩:=m e he;obtain h|rfl:=j p hp
  ·exact b.r1 a h1 p h
  ·exact xbR _
 ·obtain⟨e,he,rfl⟩:=xas.1 q;have⟨a,h1,j,s,_,z⟩:=m e he;have A:=K2 (zE.left h) (t:=a.1) (i:=a.2.1) (d:=a.2.2) h1;rw[j,s];exact Je A λu B=>z u S w B
def zh5{u:wN}{o:K}(b:zg5 (XF vs σ.nx u o) (XF vs σ.nx u σ.nx)):∀e∈zjC o σ.nx σ.rg,∃a∈vQ σ.rg wF [],e.1=a.1/\e.2.1=a.2.1/\(∀p,vt e.2.2=Z p->vt a.2.2=Z p\/p=σ.nx)/\∀v S w,(vI P (XF vs σ.nx u) a.2.2 v).p S w->(vI P (XF vs σ.nx u) e.2.2 v).p S w:=by
 intro e c;obtain⟨a,h1,rfl⟩:=P9 e c;exact⟨a,h1,O,O,λp hp=>zfl hp,λv S w h=>zgE b h⟩
def nJ{u:wN}{o:K}{rg:N (K×K×Dv)}(i:yC (XF vs σ.nx u σ.nx)=yC (XF vs σ.nx u o)):∀e∈Ft o σ.nx rg,∃a∈rg,e.1=a.1/\e.2.1=a.2.1/\(∀p,vt e.2.2=Z p->vt a.2.2=Z p\/p=σ.nx)/\∀v S w,(vI P (XF vs σ.nx u) a.2.2 v).p S w->(vI P (XF vs σ.nx u) e.2.2 v).p S w:=by
 intro e j;obtain h|⟨a,h1,p,f,rfl⟩:=PO e j
 ·exact⟨e,h,O,O,λp hp=> .inl hp,λv S w h=>h⟩
 ·refine⟨a,h1,O,O,λq b=> ?_,λv S w h=> ?_⟩
  ·rw[f];cases c:E p o
   ·simp only[c,Z3]at b;exact .inl b
   ·simp only[c,Z2]at b;cases b;exact .inr O
  ·rw[f]at h;have h:v=yC (XF vs σ.nx u p):=h;cases c:E p o
   ·exact h
   ·have hp:=zO c;subst hp;exact h.trans i.symm
end
end
section
section
variable{P:jP}{cf:Cf}{fr:Fr}{cx σ:Sg}{vs vs':wr->wN}{env:y7}{w:wP}{R:Type}{r:R}
 {d:ww Z5}{ty t yt:wT}{pos:String}{aft:uL Edge}{g:ww (wr×qR)}{x y:wW}
def TH{α:Type}{xss:N (N α)}{r:K}(h:r<X xss):xss[r]? =Z (uw xss r):=by simp_all [uw]
def dC{o:K}{s:Ty}{E E1:wT}{xss:N (N s.D)}{ix:N K}{ms:N MF}{Γ:N FF}(h:St fr.we fr.Se (JZ vs (o,.mat s E E1 xss ix)::ms) Γ w):
 X (xU<|vs o)=X xss/\St fr.we fr.Se ((mO (Ya<|xU<|vs o) E (yC<|vs o) ix::vu s.rep E1 (xU<|vs o) xss)++ms) Γ w:=St.unpr<|St.grp.1 h
def Oe{u:wN}{s:Ty}{E E1:wT}{xss:N (N s.D)}{ix:N K}{ms:N MF}{Γ:N FF}(hl:X (xU u)=X xss)(h:St fr.we fr.Se ((mO (Ya<|xU u) E (yC u) ix::vu s.rep E1 (xU u) xss)++ms) Γ w):
 St fr.we fr.Se (tn s.rep E E1 u xss ix::ms) Γ w:=St.grp.2<|St.pr hl h
def zpv{k:Sg->V R}{l:TI}(G:yY P cf.tt)(ht:ZO cf t=Z l){o p j:K}{e:Ty}{f:Fl e.D}(n:xD cx σ x=Z (.rp o e p j f))(h:ky σ l.ty (xD cx σ x) (xD cx σ y) k=Z r):
 mC P cx ⟨wF,.store t x y,ty,pos,aft,g⟩ σ k r:=by
 have⟨s,u,_⟩:=YN G ht;rw[n]at h;simp only[ky]at h;split at h
 ·next s' E E1 xss ix hc a _=>
  have⟨H,h1⟩:=yj h;cases H;have⟨q,J,L⟩:=Vi h1;have⟨M,N,h⟩:=xR J;have⟨hc⟩:=hc;refine⟨_,h,IR _,λfr vs env w Q=> ?_⟩;have⟨T,A⟩:=Q;have⟨S0,_,c⟩:=A.ex;have⟨U,b,m,cap,hv,hj,Y⟩:=zj n<|zS c x;have B:=jT a A;have⟨hn,hp⟩:m=X (uw (α:=e.D) xss p)/\p<X xss:=wz B (i:=0) O λS hp=>⟨oC (sP (show(tn e.rep E E1 (vs o) xss ix).p S w from hp) hv).1 O,(sP (show(tn e.rep E E1 (vs o) xss ix).p S w from hp) hv).2⟩;have⟨hl,hg⟩:=dC B;have hi:=zj3 (e:=e.rep) (E:=E) (E1:=E1) (v:=yC<|vs o) (ix:=ix) hv (TH (α:=e.D) hp)<|OS vs fr cx<|yw σ.ob o;have⟨b',C,hA,hC,hD,hs⟩:=hg.openO (p+1) hi W;cases hA;rw[<-hc]at u;have hm:=(Sub.rowT0 e.rep cap (uw (α:=e.D) xss p) j ((uw (α:=e.D) xss p).getD j e.z)<|getD_some e.z W).comp<|U<|(uw (α:=e.D) xss p).getD j e.z;refine(uf (f:=f.f.rep) (y':=q) (p+1) (vy hi) Y O hm u (λS w ha=>L P vs env S w<|zS ha y) w hs).mono ?_;rintro v w' ⟨_,rfl,_,hE⟩;refine gk (vs:=vs) T a<|Bh a ?_;have hd:X (xgk (uw (α:=e.D) xss p) j<|f.set q<|(uw (α:=e.D) xss p).getD j e.z)=X (uw (α:=e.D) xss p):=xbj ..;have F:=hE.closeF (p+1) (vy<|vy hi) (by rw[hd];exact hC) hD;rw[set_set,set_set,hd,Ni hv hp hl]at F;rw[N];exact Oe (by rw[show(zoc (α:=e.D) xss p _).length=X xss from xbj ..];exact hl) F
 ·cases h
def zoA{k:Sg->V R}{n:TI}(G:yY P cf.tt)(H:ZO cf t=Z n){o j a p:K}(s:xD cx σ x=Z (.hp o j))(e:xD cx σ y=Z (.rw a p))(h:ky σ n.ty (xD cx σ x) (xD cx σ y) k=Z r):
 mC P cx ⟨wF,.store t x y,ty,pos,aft,g⟩ σ k r:=by
 have⟨u,hd,_⟩:=YN G H;rw[s,e]at h;simp only[ky]at h;have⟨ht,h⟩:=z7 h;obtain rfl:=zO ht;split at h
 ·next z E E1 xss ix q l J=>
  have⟨iz,L,h⟩:=xR h;refine⟨_,h,IR _,λfr vs env w M=> ?_⟩;have⟨N,A⟩:=M;have⟨S0,_,c⟩:=A.ex;have⟨b,m,cap,hv,hj,Q⟩:=zj s<|zS c x;have T:(xU<|vs a)[p]? =Z (ev env y):=zj e<|zS c y;have B:=jT l A;have⟨hn,hi⟩:m=X ix/\(ev env y).oneCell'=true:=wz B (i:=0) O λS hp=>⟨oC (Lf (show(tn z.rep E E1 (vs a) xss ix).p S w from hp)).2.1 hv,(Cn (sP (show(tn z.rep E E1 (vs a) xss ix).p S w from hp) T).1).1⟩;have⟨hl,U⟩:=dC B;have⟨b',C,D,Y,hD,hs⟩:=U.openO 0 O W;rw[hv]at D;cases D;have hm:=Sub.rowT0 (Ya<|xU<|vs a) cap ix j (ix.getD j 0) (getD_some 0 W);rw[J]at hd;refine(uf (f:=Ya<|xU<|vs a) (y':=p) 0 O Q O hm hd (λS w ha=> ?_) w hs).mono ?_
  ·exact za5 (zj e<|zS ha y) hi
  rintro v w' ⟨_,rfl,_,hE⟩;refine gk (vs:=vs) N l<|Bh l ?_;have hc:X (ix.set j p)=X ix:=xbj ..;have F:=hE.closeF 0 O (by rw[hc];exact Y) hD;rw[hc,<-hv]at F;rw[L];exact Oe hl F
 ·cases h
def ziE{u:wN}{o:K}{hv:N wN}(a:xU u=xU (vs o)++hv)(b:yC u=yC (vs o))(c:o<σ.nx):zg5 (XF vs σ.nx u o) (XF vs σ.nx u σ.nx):=by
 rw[ku c,wh];refine⟨b,λr v h=> ?_⟩;rw[a,xaX (xar.1 h).1];exact h
def sW{o:K}{X:Od}(a:Bd cx σ)(h:xH σ.ob o=Z X):o<σ.nx:=by
 have⟨i,h1,_⟩:=vq h;exact a.o1 _<|xbp h1
def n7(a:Bd cx σ){o p:K}:∀e∈yw (yw σ.ob o) p,e.1<σ.nx:=λe b=>a.o1 e<|uW e<|uW e b
def zoy{k:Sg->V R}{l:TI}(H:yY P cf.tt)(J:ZO cf t=Z l){o j o2:K}(n:xD cx σ x=Z (.hp o j))(s:xD cx σ y=Z (.ow o2))(h:ky σ l.ty (xD cx σ x) (xD cx σ y) k=Z r):
 mC P cx ⟨wF,.store t x y,ty,pos,aft,g⟩ σ k r:=by
 have⟨z,A,_⟩:=YN H J;rw[n,s]at h;simp only[ky]at h;have⟨B,h⟩:=z7 h;rw[xcV]at B;split at h
 ·next c E E1 xss ix s2 E2 ys q C L M=>
  have⟨N,h0⟩:=z7 h;obtain rfl:=zO N;have⟨Q,h1⟩:=yj h0;cases Q;have⟨T,U,Y⟩:=xR h1;have⟨iz,hi,h3⟩:=xR Y;refine⟨_,h3,xbH _,λfr vs env w hR=> ?_⟩;have⟨e,D⟩:=hR;have⟨S0,_,a⟩:=D.ex;have⟨b,m,cap,hv,hj,hD⟩:=zj n<|zS a x;have hF:ev env y=vs o2:=zj s<|zS a y;have hc:=gx B C L D;have hn:m=X ix:=wz hc (i:=0) O λS hp=>oC (Lf (show(tn c.rep E E1 (vs o) xss ix).p S w from hp)).2.1 hv;have⟨hm,_⟩:(vs o2).oneCell'=true/\_:=wz hc (i:=1) (m:=mO c.rep E1 (vs o2) ys) O λS hp=>Cn hp;have hl:=(dC hc).1
  have hg:St fr.we fr.Se ((mO (Ya<|xU (vs o)++[vs o2]) E (yC<|vs o) ix::vu c.rep E1 (xU (vs o)++[vs o2]) (xss++[ys]))++OS vs fr cx (yw (yw σ.ob o) o2)) (GS P vs env fr cx σ) w:=
   St.grp.1 (St.adopt hl<|St.grp.2 (dC hc).2)
  have⟨b',F,G,hG,hH,hs⟩:=hg.openO 0 O W;rw[hv]at G;cases G;have hr:=Sub.rowT0 (Ya<|xU (vs o)++[vs o2]) cap ix j (ix.getD j 0) (getD_some 0 W);rw[M]at A;refine(uf (f:=Ya<|xU (vs o)++[vs o2]) (y':=X xss) 0 O hD hF hr A (λS w ha=>za5 (by rw[<-hl];simp) hm) w hs).mono ?_;rintro v w' ⟨_,rfl,_,hI⟩;have hd:X (ix.set j (X xss))=X ix:=xbj ..;have ht:=hI.closeF 0 O (by rw[hd];exact hG) hH;rw[hd,<-hv]at ht;refine mZ (o:=o) (u:=UG (yC<|vs o)<|xU (vs o)++[vs o2]) e O (n7 e) (zh5<|ziE O O<|sW e C) ?_;rw[moU,hi,U];refine Oe (u:=UG (yC<|vs o)<|xU (vs o)++[vs o2]) (by show(xU (vs o)++[vs o2]).length=X (xss++[ys]);simp[hl]) ht
 ·cases h
def zpz{k:Sg->V R}{C:TI}(Q:yY P cf.tt)(T:ZO cf t=Z C){o o2:K}(D:xD cx σ x=Z (.mw o))(E:xD cx σ y=Z (.ow o2))(h:ky σ C.ty (xD cx σ x) (xD cx σ y) k=Z r):
 mC P cx ⟨wF,.store t x y,ty,pos,aft,g⟩ σ k r:=by
 have⟨F,hc,_⟩:=YN Q T;rw[D,E]at h;simp only[ky]at h;have⟨hd,h⟩:=z7 h;rw[xcV]at hd;split at h
 ·next a n s ys q G U Y=>
  refine⟨_,h,xbH _,λfr vs env w hR=> ?_⟩;have⟨z,H⟩:=hR;have⟨S0,_,j⟩:=H.ex;have hn:ev env x=yC (vs o):=zj D<|zS j x;have hq:ev env y=vs o2:=zj E<|zS j y;have J:=gx hd G U H;have⟨hg,_⟩:(vs o2).oneCell'=true/\_:=wz J (i:=1) (m:=mO n.rep s (vs o2) ys) O λS hp=>Cn hp;have⟨hl,h1⟩:=St.unpr<|St.grp.1 J;have h1:St fr.we fr.Se (mP (Ya<|xU<|vs o).c a (yC<|vs o) 0::mO n.rep s (vs o2) ys::OS vs fr cx (yw (yw σ.ob o) o2)) (GS P vs env fr cx σ) w:=h1;have⟨b,L,h2⟩:=h1.openP 0 O;have hi:=B6 hl;have h3:=h2.conv (i:=0) (m:=mB (Ya<|xU<|vs o).c a b 0) (m':=mB (Ya<|xU (vs o)++[vs o2]).c a b 0) O O λS hp=>by
   have⟨cs,g1,u,l,A,B⟩:=hp;exact⟨cs,g1,u,by rw[xaX (xar.1 l).1];exact l,A,B⟩
  rw[Y]at hc;refine(uf (e:=(Ya<|xU (vs o)++[vs o2]).c) (f:=Ya<|xU (vs o)++[vs o2]) (z':=0) (y':=1) (up:=id) 0 O (hn.trans L) hq (Sub.self (Ya<|xU (vs o)++[vs o2]) 0) hc (λS w ha=>za5 (by rw[hi];rfl) hg) w h3).mono ?_;rintro v w' ⟨_,rfl,_,hr⟩;have h4:St fr.we fr.Se (mB (Ya<|xU (vs o)++[vs o2]).c a b 1::mO n.rep s (vs o2) ys::OS vs fr cx (yw (yw σ.ob o) o2)) (GS P vs env fr cx σ) w':=hr;have h5:=h4.conv (i:=0) (m:=mB (Ya<|xU (vs o)++[vs o2]).c a b 1) (m':=mB (Ya [vs o2]).c a b 0) O O λS hp=>by
   have⟨cs,g1,u,l,A,B⟩:=hp;refine⟨cs,g1,u,?_,A,B⟩;rw[hi]at l;exact l
  have M:=h5.toP 0 O;rw[<-L]at M;have h7:St fr.we fr.Se (mP (Ya [vs o2]).c a (yC<|vs o) 0::mO n.rep s (vs o2) ys::OS vs fr cx (yw (yw σ.ob o) o2)) (GS P vs env fr cx σ) w':=M;refine mZ (o:=o) (u:=UG (yC<|vs o) [vs o2]) z O (n7 z) (nJ<|by rw[wh,ku<|sW z G];rfl) ?_
  ·rw[moU];exact St.grp.2<|St.pr (p:=X ([vs o2]:N wN)=1) O h7
 ·cases h
def znL{k:Sg->V R}{B:TI}(T:yY P cf.tt)(U:ZO cf t=Z B){o o2 a n0 i}(C:xD cx σ x=Z (.vf o a n0 i))(D:xD cx σ y=Z (.ow o2))(h:ky σ B.ty (xD cx σ x) (xD cx σ y) k=Z r):
 mC P cx ⟨wF,.store t x y,ty,pos,aft,g⟩ σ k r:=by
 have⟨F,hc,_⟩:=YN T U;rw[C,D]at h;simp only[ky]at h;have⟨hd,h⟩:=z7 h;rw[xcV]at hd;split at h
 ·next s1 E c E1 n j z s3 E3 ys G ht=>
  have⟨H,h0⟩:=z7 h;rw[xac,xac,xac,xac]at H;have⟨⟨⟨g1,q⟩,Y⟩,g4,g5⟩:=H;obtain rfl:=zO g1;obtain rfl:=zO q;obtain rfl:=zO g4;obtain rfl:=Js g5;have hu:=Js Y;have⟨hv,hw⟩:=yj h0;cases hv;refine⟨_,hw,xbH _,λfr vs env w hR=> ?_⟩;have⟨A,J⟩:=hR;have⟨S0,_,s⟩:=J.ex;have⟨l,f,hi,hf,hz⟩:=zj C<|zS s x;have hA:ev env y=vs o2:=zj D<|zS s y;have K:=gx hd G ht J;have⟨hk,_⟩:(vs o2).oneCell'=true/\_:=wz K (i:=1) (m:=mO c.rep E1 (vs o2) ys) O λS hp=>Cn hp;have⟨⟨hl,hC⟩,h1⟩:=St.unpr<|St.grp.1 K;have h1:St fr.we fr.Se (mP (b6 a.rep (Xu<|xl n0 a i) (uH c (xl n0 a i) [])<|xU<|vs o) E (yC<|vs o) (z,0)::mO c.rep E1 (vs o2) ys::OS vs fr cx (yw (yw σ.ob o) o2)) (GS P vs env fr cx σ) w:=h1;have⟨b,L,h2⟩:=h1.openP 0 O;have M:=B6 hl;obtain rfl:l=b:=by rw[L]at hi;cases hi;rfl
  have hn:Xu (xl n0 a i)=f.off:=by rw[hf];rfl
  have hq:ev env x=.pointer (Z ⟨l,Xu<|xl n0 a i,wF⟩):=by rw[hn];exact hz.trans<|by rw[xaK]
  have h3:=h2.conv (i:=0) (m:=mB (b6 a.rep (Xu<|xl n0 a i) (uH c (xl n0 a i) [])<|xU<|vs o) E l (z,0)) (m':=mB (b6 a.rep (Xu<|xl n0 a i) (uH c (xl n0 a i) [])<|xU (vs o)++[vs o2]) E l (z,0)) O O λS hp=>by
   have⟨cs,g1,q⟩:=hp;exact⟨cs,g1,zkh q⟩
  rw[hu]at hc;refine(uf (e:=b6 a.rep (Xu<|xl n0 a i) (uH c (xl n0 a i) [])<|xU (vs o)++[vs o2]) (f:=Ya<|xU (vs o)++[vs o2]) (z':=0) (y':=1) (up:=λr=>(z,r)) 0 O hq hA Sub.hole hc (λS w ha=>za5 (by rw[M];rfl) hk) w h3).mono ?_;rintro v w' ⟨_,rfl,_,hD⟩;have h4:St fr.we fr.Se (mB (b6 a.rep (Xu<|xl n0 a i) (uH c (xl n0 a i) [])<|xU (vs o)++[vs o2]) E l (z,1)::mO c.rep E1 (vs o2) ys::OS vs fr cx (yw (yw σ.ob o) o2)) (GS P vs env fr cx σ) w':=hD;have h5:=h4.conv (i:=0) (m:=mB (b6 a.rep (Xu<|xl n0 a i) (uH c (xl n0 a i) [])<|xU (vs o)++[vs o2]) E l (z,1)) (m':=mB (b6 a.rep (Xu<|xl n0 a i) (uH c (xl n0 a i) []) [vs o2]) E l (z,0)) O O λS hp=>by
   have⟨cs,g1,q⟩:=hp;exact⟨cs,g1,zoX (by rw[M];rfl) q⟩
  have Q:=h5.toP 0 O;rw[<-L]at Q;have h7:St fr.we fr.Se (mP (b6 a.rep (Xu<|xl n0 a i) (uH c (xl n0 a i) []) [vs o2]) E (yC<|vs o) (z,0)::mO c.rep E1 (vs o2) ys::OS vs fr cx (yw (yw σ.ob o) o2)) (GS P vs env fr cx σ) w':=Q;refine mZ (o:=o) (u:=UG (yC<|vs o) [vs o2]) A O (n7 A) (nJ<|by rw[wh,ku<|sW A G];rfl) ?_
  ·rw[moU];exact St.grp.2<|St.pr (p:=X ([vs o2]:N wN)=1/\vrP c (xl n0 a i)) ⟨O,hC⟩ h7
 ·cases h
def zfC{k:Sg->V R}{u:TI}(M:yY P cf.tt)(Q:ZO cf t=Z u){o n i j E:K}{s a:Ty}{z:s.D}{f:Fl s.D}{X:s.D->Od}{rest:wN->N MF}
 (A:∀vs z,JZ vs (o,X z)=DI (mPr (lM (xU<|vs o)=1/\vrP a (xl n s j))::mP (b6 s.rep (Xu<|xl n s j) (uH a (xl n s j) [])<|xU<|vs o) E (yC<|vs o) (z,0)::rest (vs o)))
 (T:xD cx σ x=Z (.vf o s n i)) (c:xH σ.ob o=Z (X z)) (hn:i≠j) (C:xl n s i=Z f) (h:jh (Ty.same f.f u.ty).isSome (Bo (xD cx σ y) f.f λy=>B (f.set y z) λz=>k ⟨σ.nx,σ.rg,jY σ.ob o<|X z⟩)=Z r):
 mC P cx ⟨wF,.store t x y,ty,pos,aft,g⟩ σ k r:=by
 have⟨F,hc,_⟩:=YN M Q;have⟨U,h⟩:=z7 h;have hp:=Js U;have⟨q,l,Y⟩:=Vi h;have⟨z2,hr,h⟩:=xR l;refine⟨_,h,IR _,λfr vs env w hR=> ?_⟩;have⟨hB,hd⟩:=hR;have⟨S0,_,m⟩:=hd.ex;have h0:=jT c hd;rw[A]at h0;have⟨⟨hl,G⟩,h1⟩:=St.unpr<|St.grp.1 h0;have⟨b,H,l⟩:=h1.openP 0 O;have⟨b',f',hi,J,ht⟩:=zj T<|zS m x;obtain rfl:b'=b:=by rw[H]at hi;cases hi;rfl
 rw[C]at J;cases J;rw[<-hp]at hc;refine(uf (e:=b6 s.rep (Xu<|xl n s j) (uH a (xl n s j) [])<|xU<|vs o) (f:=f.f.rep) (z':=f.get z) (y':=q) (up:=λy=>(f.set y z,0)) 0 O (ht.trans<|by rw[xaK]) O (zaK G C hn) hc (λS w ha=>Y P vs env S w<|zS ha y) w l).mono ?_;rintro v w' ⟨_,rfl,_,hu⟩;refine gk (vs:=vs) hB c<|Bh c ?_;have L:=hu.toP 0 O;rw[<-H]at L;rw[A,hr];exact St.grp.2<|St.pr (p:=lM (xU<|vs o)=1/\vrP a (xl n s j)) ⟨hl,G⟩ L
def zow{k:Sg->V R}{H:TI}(Y:yY P cf.tt)(hm:ZO cf t=Z H){o n2 i2:K}{t2:Ty}{s:t2.D}(J:xD cx σ x=Z (.mw o))(A:xD cx σ y=Z (.dz t2 s n2 i2))(h:ky σ H.ty (xD cx σ x) (xD cx σ y) k=Z r):
 mC P cx ⟨wF,.store t x y,ty,pos,aft,g⟩ σ k r:=by
 have⟨L,hd,_⟩:=YN Y hm;rw[J,A]at h;simp only[ky]at h;split at h
 ·next s1 E a E1 n j z xs M=>
  have⟨B,h0⟩:=z7 h;rw[xac,xac]at B;obtain rfl:=zO B.1;obtain rfl:=zO B.2.1;have hn:=Js B.2.2;have⟨hq,hr⟩:=yj h0;subst hq;refine⟨_,hr,xbH _,λfr vs env w hR=> ?_⟩;have⟨C,hi⟩:=hR;have⟨S0,_,q⟩:=hi.ex;have ht:ev env x=yC (vs o):=zj J<|zS q x;have⟨_,f,Q,hj⟩:=zj A<|zS q y;have⟨⟨hl,hu⟩,h1⟩:=St.unpr<|St.grp.1<|jT M hi;have h1:St fr.we fr.Se (mP (b6 t2.rep (Xu<|xl n2 t2 i2) (uH a (xl n2 t2 i2) [])<|xU<|vs o) E (yC<|vs o) (z,0)::mO a.rep E1 ((xU<|vs o).headD uT) xs::OS vs fr cx (yw σ.ob o)) (GS P vs env fr cx σ) w:=h1;have h1:St fr.we fr.Se (mP (b6 t2.rep (Xu<|xl n2 t2 i2) (uH a (xl n2 t2 i2) [])<|xU<|vs o) E (yC<|vs o) (z,0)::OS vs fr cx (yw σ.ob o)) (GS P vs env fr cx σ) w:=St.drop (i:=1) h1;have⟨b,T,h2⟩:=h1.openP 0 O;have h3:=h2.conv (i:=0) (m:=mB (b6 t2.rep (Xu<|xl n2 t2 i2) (uH a (xl n2 t2 i2) [])<|xU<|vs o) E b (z,0)) (m':=mB (eRw t2.rep.n t2.rep.agg t2.rep.n1).c E b wF) O O λS hp=>by
   have⟨cs,g1,F⟩:=hp;exact⟨cs,g1,zld F⟩
  rw[hn]at hd;refine(uf (e:=(eRw t2.rep.n t2.rep.agg t2.rep.n1).c) (f:=eRw t2.rep.n t2.rep.agg t2.rep.n1) (z':=wF) (y':=Z (ev env y).cells.toList) (up:=id) 0 O (ht.trans T) O (Sub.self _ _) hd (λS w G=>zlz (zj A<|zS G y).1) w h3).mono ?_;rintro v w' ⟨_,rfl,_,hv⟩;have h4:St fr.we fr.Se (mB (eRw t2.rep.n t2.rep.agg t2.rep.n1).c E b (Z (ev env y).cells.toList)::OS vs fr cx (yw σ.ob o)) (GS P vs env fr cx σ) w':=hv;have⟨off,gt,st,hc⟩:=hu;rw[hc]at Q;cases Q;have h5:=h4.grow (i:=0) (m:=mB (eRw t2.rep.n t2.rep.agg t2.rep.n1).c E b<|some (ev env y).cells.toList) (m':=mB (b6 t2.rep off (st ([]:N a.D)) [.slice wF 0 0]) E b (s,0)) O (yA.refl _ _) (λk hk=> .inl hk) λS _ hp G=>by
   have⟨cs,g1,_,_,F⟩:=hp;refine⟨cs,g1,?_⟩;rw[F _ O];exact zk6 hc (Zc (zj A<|zS G y).1) hj O
  have U:=h5.toP 0 O;rw[<-T]at U;have h7:St fr.we fr.Se (mP (b6 t2.rep off (st ([]:N a.D)) [.slice wF 0 0]) E (yC<|vs o) (s,0)::mO a.rep E1 (.slice wF 0 0) []::OS vs fr cx (yw σ.ob o)) (GS P vs env fr cx σ) w':=(St.nilO (e:=a.rep) (E:=E1) U).perm<|xdX ..;refine mZ (o:=o) (u:=UG (yC<|vs o) [.slice wF 0 0]) C O (λe he=>C.o1 e<|uW e he) (nJ<|by rw[wh,ku<|sW C M];rfl) ?_
  ·rw[moU];refine St.grp.2<|St.pr (p:=X ([.slice wF 0 0]:N wN)=1/\vrP a (xl n2 t2 i2)) ⟨O,_,_,_,hc⟩ ?_;show St _ _ (mP (b6 t2.rep (Xu<|xl n2 t2 i2) (uH a (xl n2 t2 i2) []) [.slice wF 0 0]) E (yC<|vs o) (s,0)::mO a.rep E1 (.slice wF 0 0) []::_) _ _;rw[hc,show uH a (Z ⟨off,.l a,gt,st⟩) ([]:N a.D)=st ([]:N a.D)from jp λz=>nF];exact h7
 ·cases h
def zhG(c:yY P cf.tt){k:Sg->V R}{B:TI}(l:ZO cf t=Z B)(h:ky σ B.ty (xD cx σ x) (xD cx σ y) k=Z r):mC P cx ⟨wF,.store t x y,ty,pos,aft,g⟩ σ k r:=by
 have h0:=h;unfold ky at h;split at h
 ·next o e r j f a=>exact zpv c l a h0
 ·next o q n0 i o2 a b=>exact znL c l a b h0
 ·next o q n0 i a _=>
  split at h
  ·next C E p E1 n j z ys s=>
   have⟨m,h1⟩:=z7 h;rw[xac]at m;obtain rfl:=zO m.1;obtain rfl:=Js m.2;have⟨hc,f,v,A⟩:=zbh h1;exact zfC c l (X:=λz=> .vr q E p E1 n0 j z ys) (rest:=λu=>[mO p.rep E1 ((xU u).headD uT) ys]) (λ_ _=>O) a s hc v A
  ·next C E p E1 n j z s=>
   have⟨m,h1⟩:=z7 h;rw[xac]at m;obtain rfl:=zO m.1;obtain rfl:=Js m.2;have⟨hc,f,v,A⟩:=zbh h1;exact zfC c l (X:=λz=> .vh q E p E1 n0 j z) (rest:=λ_=>[]) (λ_ _=>O) a s hc v A
  ·cases h
 ·next o j D r a b=>exact zoA c l a b h0
 ·next o j o2 a b=>exact zoy c l a b h0
 ·next o t2 F n2 i2 a b=>exact zow c l a b h0
 ·next o o2 a b=>exact zpz c l a b h0
 ·cases h
def sS:∀{ob:N (K×Od)}{o p:K},o≠p->yw (yw ob o) p=yw (yw ob p) o
 |[],_,_,_=>rfl
 |(q,X)::r,o,p,h=>by
  have b:=sS (ob:=r) h;cases h1:E q o
  ·cases a:E q p
   ·simp only[yw,h1,a,Z3];rw[b]
   ·simp only[yw,h1,a,Z3,Z2]
  ·cases a:E q p
   ·simp only[yw,h1,a,Z3,Z2]
   ·have:=(zO h1).symm.trans<|zO a;exact wS this h
def GR{S:K->Prop}{w:wP}{hv a:N wN}:∀{ix:N K}{cs:N wN},yK (Ya a) S ix cs w->yK (Ya<|hv++a) S (ix.map (X hv+ ·)) cs w
 |[],_,h=>h
 |r::ix,cs,⟨c,q,h1,⟨u,b,e,f⟩,i⟩=>⟨c,q,h1,⟨u,by show(hv++a)[X hv+r]? =Z u;rw[xbr<|xbM _ _,xfn];exact b,e,f⟩,GR i⟩
def Gu{α:Type}{e:zW α}{E:wT}:∀{hv b:N wN}{xss a:N (N α)},X hv=X xss->vu e E (hv++b) (xss++a)=vu e E hv xss++vu e E b a
 |[],_,[],_,_=>rfl
 |u::hv,b,xs::xss,a,h=>by
  show mO e E u xs::vu e E (hv++b) (xss++a)=mO e E u xs::(vu e E hv xss++vu e E b a);rw[Gu<|by simpa using h]
 |[],_,_::_,_,h=>by cases h
 |_::_,_,[],_,h=>by cases h
def zmj(G:yY P cf.tt){q:uL wW}{ts:uL wT}{k:Sg->V R}(hd:wQ cx d=wL)(h:zgy cf cx σ d q.toList ts.toList k=Z r):
 mC P cx ⟨d,.call ⟨.builtin .append,q,ts⟩,ty,pos,aft,g⟩ σ k r:=by
 unfold zgy at h;split at h
 ·next _ _ x y t t' hS hU=>
  obtain rfl:q= #[x,y]:=by cases q;simp_all
  obtain rfl:ts= #[t,t']:=by cases ts;simp_all
  split at h
  ·next s E B o p ht hx hy=>
   have⟨D,C⟩:=z7 h;rw[xac]at D;have⟨hC,hl⟩:=D;obtain rfl:=zO hC;rw[xcV]at hl;clear h;split at C
   ·next q1 q2 Q z E1 A xss ix s2 a F2 f j hn ho hp=>
    have⟨D,h1⟩:=z7 C;simp only[xac]at D;have⟨H,J,K⟩:=D;have H:=zO H;have J:=zO J;have K:=zO K;subst H;subst J;subst K;have⟨hD,h2⟩:=yj h1;cases hD;have⟨T,h3⟩:=Zo h2;have⟨a0,hz,h4⟩:=xR h3;have⟨iz,hi,h5⟩:=xR h4;have hE:=R6 G hn O;have hc:=(G _ _ hn).2.1;refine⟨_,h5,xbH _,λfr vs env w hR=> ?_⟩;have⟨U,Y⟩:=hR;have⟨S0,_,F⟩:=Y.ex;have hG:ev env x=yC (vs o):=zj hx<|zS F x;have hH:ev env y=yC (vs p):=zj hy<|zS F y;have hI:=gx hl ho hp Y;have⟨L,hJ⟩:=dC hI;have hu:St fr.we fr.Se (JZ vs (p,.mat z a A f j)::((mO (Ya<|xU<|vs o) a (yC<|vs o) ix::vu z.rep A (xU<|vs o) xss)++OS vs fr cx (yw (yw σ.ob o) p))) (GS P vs env fr cx σ) w:=hJ.perm xcl;have⟨hK,hL⟩:=dC hu;have hN:St fr.we fr.Se (mO (Ya<|xU<|vs o) a (yC<|vs o) ix::mO (Ya<|xU<|vs p) a (yC<|vs p) j::(vu z.rep A (xU<|vs o) xss++vu z.rep A (xU<|vs p) f++OS vs fr cx (yw (yw σ.ob o) p))) (GS P vs env fr cx σ) w:=by
     refine hL.perm ?_;simp only[xbC,xad];refine(List.Perm.cons _ xcl).trans<|(xdX ..).trans ?_;refine List.Perm.cons _<|List.Perm.cons _ ?_;exact(xdZ ..)
    have hO:=hN.conv (i:=0) (m:=mO (Ya<|xU<|vs o) a (yC<|vs o) ix) (m':=mO (Ya<|xU (vs o)++xU (vs p)) a (yC<|vs o) ix) O O λS hq=>zbi hq;have O3:∀m,m*Q<=140737488355328->m<=9223372036854775807:=λm hm=>by
     have hc:0<Q:=hc;have:=xco m hc;lia
    have M:X (j.map (xaG xss+ ·))=X j:=xaj _;refine(aK (e:=Ya<|xU (vs o)++xU (vs p)) (ys:=j.map (xaG xss+ ·)) 0 (qw G ht) hE O xdY O hG hH (λS w hM ha=> ?_) (O3 _<|by rw[M];exact T) (by rw[M];exact T) w hO).mono ?_
    ·have hm:(mO (Ya<|xU<|vs p) a (yC<|vs p) j).p S w:=hM.2.1;have hw:(mO (Ya<|xU (vs o)++xU (vs p)) a (yC<|vs p) (j.map (xaG xss+ ·))).p S w:=by
      have⟨cs,a1,a2⟩:=hm;refine⟨cs,by rw[M];exact a1,?_⟩;rw[<-L];exact GR a2
     rcases fX hw with⟨hv,hA⟩|⟨b,cap,hv,hP,hQ⟩
     ·rw[hv,hA];exact⟨wF,0,O,IR _,xan _,.inl O⟩
     ·have C:=Mr hw hv (l:=0) (n:=X (j.map (xaG xss+ ·))) (c:=cap) W hP hQ;rw[List.drop_zero,xbY]at C;rw[hv];simpa using C
    rintro v w' ⟨v',rfl,_,hs⟩;refine Jz (vs:=vs) (mk:=.mw) (u:=UG v<|xU (vs o)++xU (vs p)) U hd (n7 U) (λ_=>O) (λS w=>by simp only[vI,wh];rfl) ?_;rw[moU,hz,hi];have h7:St fr.we fr.Se (mO (Ya<|xU (vs o)++xU (vs p)) a v (ix++j.map (xaG xss+ ·))::mO (Ya<|xU<|vs p) a (yC<|vs p) j::(vu z.rep A (xU<|vs o) xss++vu z.rep A (xU<|vs p) f++OS vs fr cx (yw (yw σ.ob o) p))) (GS P vs env fr cx σ) w':=hs;have h8:=St.drop (i:=1) h7;refine Oe (u:=UG v<|xU (vs o)++xU (vs p)) (by show(xU (vs o)++xU (vs p)).length=X (xss++f);simp[L,hK]) ?_;show St _ _ ((mO (Ya<|xU (vs o)++xU (vs p)) a v _::vu z.rep A (xU (vs o)++xU (vs p)) (xss++f))++_) _ _;rw[Gu L];exact h8
   ·cases C
  ·cases h
 ·cases h
def zdt(G:ED P cf){s:Cc}{f:wW}{c:uL wW}{ts:uL wT}{k:Sg->V R}(hd:wQ cx d=wL)(H:xD cx σ f=Z (.fn s.f []))(J:s∈cf.ms)(h:DJ cx σ d s c.toList k=Z r):
 mC P cx ⟨d,.call ⟨.value f,c,ts⟩,ty,pos,aft,g⟩ σ k r:=by
 have⟨K,L⟩:=G.ms s J;unfold DJ at h;split at h
 ·next _ x a p y hF=>
  obtain rfl:c= #[x,a,p,y]:=by cases c;simp_all
  split at h
  ·next o r0 av pv o' lo n M N hp Q=>
   have⟨S,j⟩:=z7 h;obtain rfl:=zO S;clear h;split at j
   ·next s1 E E1 xss ix z=>
    have⟨l,h1⟩:=z7 j;rw[xac]at l;have A:=zO l.1;have hi:=zO l.2;have⟨ht,T⟩:=yj h1;cases ht;have⟨i,U,Y⟩:=r9 T;refine⟨_,Y,xbH _,λfr vs env w hR=> ?_⟩;have⟨m,B⟩:=hR;have⟨S0,_,b⟩:=B.ex;have hw:(xU<|vs o)[r0]? =Z (ev env x):=zj M<|zS b x;have C:=w9 N<|zS b a;have hl:=w9 hp<|zS b p;have hA:MW (yC<|vs o) lo n (ev env y):=zj Q<|zS b y;have⟨q,hv,hC,hG⟩:=zj H<|zS b f;obtain rfl:q=[]:=xbh.1 hC;have D:=jT z B;rw[A,hi]at D;have hc:=L xss ix r0 av pv lo n i U (vs o) (ev env x) (ev env y) hw hA C.2 hl.2 fr.we fr.Se _ _ w D;have hn:(kW (ev env) ⟨d,.call ⟨.value f,#[x,a,p,y],ts⟩,ty,pos,aft,g⟩).run P w=.ok (.enter s.f #[ev env x,.int .i64 av,.int .i64 pv,ev env y]) w:=by simp[kW,Wt,hv,xdR,V2,kE K,C.1,hl.1]
    unfold Zj;rw[hn];refine hc.mono ?_;rintro e w' ⟨v,F,rfl,hu,hD⟩;refine⟨v,O,mZ (o:=o) (u:=F) m hd (λe he=>m.o1 e<|uW e he) (nJ<|by rw[wh,ku<|sW m z];exact hu) ?_⟩;rw[moU];show St _ _ (tn s.t.rep E E1 F i ix::_) _ _;rw[A,hi];exact hD
   ·cases j
  ·cases h
 ·cases h
def Cd{o n:K}:∀{rg:N (K×K×Dv)},∀e∈N5 o n rg,e∈rg\/∃a∈rg,∃p,a.2.2=.yd p/\e=(a.1,a.2.1,bif E p o then .yd n else .yd p)
 |[],e,he=>wS he Nm
 |(t,i,v)::rg,e,he=>by
  have b:∀e∈N5 o n rg,e∈(t,i,v)::rg\/∃a∈(t,i,v)::rg,∃p,a.2.2=.yd p/\e=(a.1,a.2.1,bif E p o then .yd n else .yd p):=λe he=>by
   obtain h|⟨a,h1,p,c,f⟩:=Cd e he
   ·exact .inl<|UV _ h
   ·exact .inr ⟨a,UV _ h1,p,c,f⟩
  cases v with
  |yd p=>
   rcases xaf.1 (show e∈(t,i,bif E p o then Dv.yd n else .yd p)::N5 o n rg from he)with rfl|he
   ·exact .inr ⟨_,H1,p,O,O⟩
   ·exact b e he
  |_=>
   obtain rfl|he:=xaf.1 he
   ·exact .inl<|H1
   ·exact b e he
def zgC(hX:ED P cf){o:K}{f:wW}{m:uL wW}{ts:uL wT}{k:Sg->V R}(hd:wQ cx d=wL)(hf:xD cx σ f=Z (.yd o))(h:IX cx σ d o m.toList k=Z r):
 mC P cx ⟨d,.call ⟨.value f,m,ts⟩,ty,pos,aft,g⟩ σ k r:=by
 unfold IX at h;split at h
 ·next _ x hC=>
  obtain rfl:m= #[x]:=by cases m;simp_all
  split at h
  ·next p hx=>
   have⟨hi,h⟩:=z7 h;rw[xcV]at hi;split at h
   ·next t E X Y mX mY gg z s a ys D hp=>
    have⟨hE,h1⟩:=z7 h;have hE:=zO hE;subst hE;have⟨hm,G⟩:=yj h1;cases hm;have⟨q,hq,Q⟩:=r9 G
    have n:∀(fr:Fr) (vs:K->wN) (env:y7) (w:wP),gR P fr cx σ vs env w->Zj P ⟨d,.call ⟨.value f,#[x],ts⟩,ty,pos,aft,g⟩ env w λv w'=>v=.bool q.2.isLeft/\Bd cx σ/\RL P (lOf<|yC<|vs o) t.rep a mX mY gg/\
     ∃c,St fr.we fr.Se (xfH (λx=>mX x c) (λy=>mY y c) q.2::mO t.rep a (vs p) q.1::OS vs fr cx (yw (yw σ.ob o) p)) (GS P vs env fr cx σ) w':=by
     intro fr vs env w A;have⟨j,hj⟩:=A;have⟨S0,_,H⟩:=hj.ex;have hn:ev env x=vs p:=zj hx<|zS H x;have ht:ev env f=.func (.yield<|lOf<|yC<|vs o) #[] #[]:=zj hf<|zS H f;have hv:=gx hi D hp hj;have⟨F,h4⟩:=St.unpr<|St.grp.1 hv;rw[<-hX.pp]at F;have h4:St fr.we fr.Se (mX z ((xU<|vs o).headD uT)::mO t.rep a (vs p) ys::OS vs fr cx (yw (yw σ.ob o) p)) (GS P vs env fr cx σ) w:=h4;have⟨fn,tmps,a0,a1,hy,A⟩:=F ys z q.1 q.2 hq (vs p) _ _ _ _ _ w h4;have hk:(kW (ev env) ⟨d,.call ⟨.value f,#[x],ts⟩,ty,pos,aft,g⟩).run P w=.ok (.round (lOf<|yC<|vs o) fn tmps a0 a1) w:=by
      rw[<-hn]at hy;simp[kW,Wt,ht,xdR,V2,hy]
     unfold Zj;rw[hk];exact A.mono λe w' ⟨T,h6⟩=>⟨_,T,O,j,F,h6⟩
    have J:∀(B:Od) (b:qR) (c:wN) (vs:K->wN) (fr:Fr) (env:y7) (w':wP),Bd cx σ->St fr.we fr.Se (JZ (XF vs σ.nx<|UG (yC<|vs o) [c]) (σ.nx,B)::mO t.rep a (vs p) q.1::OS vs fr cx (yw (yw σ.ob o) p)) (GS P vs env fr cx σ) w'->
     lF P fr cx σ.nx vs ⟨σ.nx+1,N5 o σ.nx<|vQ σ.rg d [(0,.kb b)],(σ.nx,B)::yw (jY σ.ob p (.own t a q.1)) o⟩ (put env d (.bool b)) w':=by
     intro B b c vs fr env w' j C;have hc:p≠o:=λe=>by subst e;simp at hi
     have hw:=sW j D;have hD:xH (yw σ.ob o) p=Z (.own t a ys):=by rw[Ur hc];exact hp
     have hz:St fr.we fr.Se (JZ (XF vs σ.nx<|UG (yC<|vs o) [c]) (σ.nx,B)::OS vs fr cx (yw (jY σ.ob p (.own t a q.1)) o)) (GS P vs env fr cx σ) w':=by
      have h7:=jv (vs:=vs) (fr:=fr) (cx:=cx) (ob:=yw (jY σ.ob p (.own t a q.1)) o) (o:=p) (X:=.own t a q.1) (by rw[Ur hc];exact(Vz hp).1);have h8:yw (yw (jY σ.ob p (.own t a q.1)) o) p=yw (yw σ.ob o) p:=by rw[sS<|λe=>hc e.symm,(Vz hp).2,sS<|λe=>hc e]
      rw[h8]at h7;exact C.perm<|h7.symm.cons _
     have⟨L,hA⟩:gR P fr cx ⟨σ.nx+1,vQ σ.rg d [(0,.kb b)],(σ.nx,B)::yw (jY σ.ob p (.own t a q.1)) o⟩ (XF vs σ.nx<|UG (yC<|vs o) [c]) (put env d (.bool b)) w':=by
      have hl:∀e∈yw (jY σ.ob p (.own t a q.1)) o,e.1<σ.nx:=λe he=>by
       have⟨e1,g1,g2⟩:=Jr hp e<|uW e he;rw[<-g2];exact j.o1 e1 g1
      refine ME (σ':=⟨σ.nx+1,vQ σ.rg d [(0,.kb b)],(σ.nx,B)::yw (jY σ.ob p (.own t a q.1)) o⟩) (l:=[(0,.kb b)]) (vs:=vs) (Γl:=[]) j hd O (xbH _) (λo D=>ku D) (λe he p hp=> ?_) (λe he=> ?_) (λS w _ e he=> ?_) ?_
      ·obtain rfl:=xag.1 he;cases hp
      ·obtain rfl|he:=xaf.1 he
       ·exact xbR _
       ·exact xfD<|hl e he
      ·obtain rfl:=xag.1 he;exact O
      ·show St _ _ (JZ (XF vs σ.nx _) (σ.nx,B)::OS (XF vs σ.nx _) fr cx (yw (jY σ.ob p (.own t a q.1)) o)) _ _;rw[IF j hl];exact hz
     refine⟨_,λo D=>ku D,⟨L.o1,L.o2,λe he r U=> ?_,L.r2⟩,hA.weak λS w h=>zE.append (uE.2 λf hf=> ?_)<|zE.right h⟩
     ·obtain h|⟨M,h1,r',G,rfl⟩:=Cd e he
      ·exact L.r1 e h r U
      ·cases hb:xam r' o<;>simp only[hb,Z2,Z3]at U
       ·exact L.r1 M h1 r<|by rw[G];exact U
       ·cases U;exact xbR _
     ·obtain⟨e,he,rfl⟩:=xas.1 hf;obtain h'|⟨M,h1,r',G,rfl⟩:=Cd e he
      ·exact K2 (zE.left h) h'
      ·have T:=K2 (zE.left h) (t:=M.1) (i:=M.2.1) (d:=M.2.2) h1;rw[G]at T;refine Je T λu N=> ?_;cases hb:xam r' o
       ·exact N
       ·have N:u=.func (.yield<|lOf<|yC<|XF vs σ.nx (UG (yC<|vs o) [c]) r') #[] #[]:=N;rw[zO hb,ku hw]at N;show u=.func (.yield<|lOf<|yC<|XF vs σ.nx (UG (yC<|vs o) [c]) σ.nx) #[] #[];rw[wh];exact N
    cases hg:q.2 with
    |inl z'=>
     rw[hg]at Q;refine⟨_,Q,xbH _,λfr vs env w A=>(n fr vs env w A).mono ?_⟩;rintro v w' ⟨rfl,j,F,c,C⟩;rw[hg]at C⊢;refine J _ wL c vs fr env w' j ?_;rw[moU];refine St.grp.2 ?_;rw[<-hX.pp];exact St.pr F C
    |inr y'=>
     rw[hg]at Q;refine⟨_,Q,xbH _,λfr vs env w A=>(n fr vs env w A).mono ?_⟩;rintro v w' ⟨rfl,j,F,c,C⟩;rw[hg]at C⊢;refine J _ I c vs fr env w' j ?_;rw[moU];exact C
   ·cases h
  ·cases h
 ·cases h
end
end
section
section
variable{P:jP}{cf:Cf}{fr:Fr}{cx σ:Sg}{vs vs':wr->wN}{env:y7}{w:wP}{R:Type}{r:R}
 {d:ww Z5}{ty t yt:wT}{pos:String}{aft:uL Edge}{g:ww (wr×qR)}{x y:wW}
def MZ{o:K}{s:Ty}{E:wT}{xs:N s.D}{S:K->Prop}(a:(fV (eS s.rep) xs<|vs o).p S w):∀{rg:N (K×K×Dv)},zE S (RS P vs env rg) w->zE S (RS P vs env<|E7 o (.own s E xs) rg) w
 |[],_=>trivial
 |(t,i,v)::rg,h=>by
  refine⟨?_,MZ a h.2⟩;have h1:(wo P vs v (env t) i).p S w:=h.1;show(wo P vs (sC o (.own s E xs) v) (env t) i).p S w;cases v<;>try exact h1
  rename_i b;unfold sC;cases c:xam b o<;>simp only[c,Z3,Z2]
  ·exact h1
  ·have:=zO c;subst this;refine Je h1 λu e=> ?_;rw[show u=vs b from e];exact a
def OW{o:K}{s:Ty}{E:wT}{z:s.D}{S:K->Prop}(a:(fP s.rep z<|vs o).p S w):∀{rg:N (K×K×Dv)},zE S (RS P vs env rg) w->zE S (RS P vs env<|E7 o (.var s E z) rg) w
 |[],_=>trivial
 |(t,i,v)::rg,h=>by
  refine⟨?_,OW a h.2⟩;have h1:(wo P vs v (env t) i).p S w:=h.1;show(wo P vs (sC o (.var s E z) v) (env t) i).p S w;cases v<;>try exact h1
  rename_i b f;unfold sC;cases c:xam b o<;>simp only[c,Z3,Z2]
  ·exact h1
  ·have:=zO c;subst this;refine Je h1 λu e=> ?_;rw[show u=vs b from e.1];exact a
def PQ{o:K}{s:Ty}{E E1:wT}{xss:N (N s.D)}{ix:N K}{S:K->Prop}(a:(fV (eS<|eS s.rep) (zct xss ix)<|yC<|vs o).p S w):∀{rg:N (K×K×Dv)},zE S (RS P vs env rg) w->zE S (RS P vs env<|E7 o (.mat s E E1 xss ix) rg) w
 |[],_=>trivial
 |(t,i,v)::rg,h=>by
  refine⟨?_,PQ a h.2⟩;have h1:(wo P vs v (env t) i).p S w:=h.1;show(wo P vs (sC o (.mat s E E1 xss ix) v) (env t) i).p S w;cases v<;>try exact h1
  rename_i b;unfold sC;cases c:xam b o<;>simp only[c,Z3,Z2]
  ·exact h1
  ·have:=zO c;subst this;refine Je h1 λu e=> ?_;rw[show u=yC (vs b)from e];exact a
def zbA{o:K}{t s:Ty}{E E1 n i:K}{z:t.D}{xs:N s.D}{S:K->Prop}(a:(fP t.rep (uH s (xl n t i) xs z)<|yC<|vs o).p S w):∀{rg:N (K×K×Dv)},zE S (RS P vs env rg) w->zE S (RS P vs env<|E7 o (.vr t E s E1 n i z xs) rg) w
 |[],_=>trivial
 |(u,j,v)::rg,h=>by
  refine⟨?_,zbA a h.2⟩;have h1:(wo P vs v (env u) j).p S w:=h.1;show(wo P vs (sC o (.vr t E s E1 n i z xs) v) (env u) j).p S w;cases v<;>try exact h1
  rename_i b;unfold sC;cases c:xam b o<;>simp only[c,Z3,Z2]
  ·exact h1
  ·have:=zO c;subst this;refine Je h1 λu e=> ?_;rw[show u=yC (vs b)from e];exact a
def UR{o:K}{X:Od}(a:∀v,sC o X v=v):∀{rg:N (K×K×Dv)},E7 o X rg=rg
 |[]=>rfl
 |(t,i,v)::rg=>by
  show(t,i,sC o X v)::E7 o X rg=_;rw[a,UR a]
def zfq{o p:K}{X:Od}{v:Dv}(h:vt (sC o X v)=Z p):vt v=Z p:=by
 unfold sC at h;split at h
 ·next a s E xs=>
  cases b:xam a o<;>rw[b]at h
  ·exact h
  ·cases h
 ·next a c s E z=>
  cases b:xam a o<;>rw[b]at h
  ·exact h
  ·cases h
 ·next a s E E1 xss ix=>
  cases b:xam a o<;>rw[b]at h
  ·exact h
  ·cases h
 ·next a t E s E1 n i z xs=>
  cases b:xam a o<;>rw[b]at h
  ·exact h
  ·cases h
 ·exact h
def OI{o:K}{X:Od}:∀{rg:N (K×K×Dv)},∀e∈E7 o X rg,∀p,vt e.2.2=Z p->∃a∈rg,vt a.2.2=Z p
 |[],e,he=>wS he Nm
 |(t,i,v)::rg,e,he=>by
  intro p hp;obtain rfl|he:=xaf.1 he
  ·refine⟨(t,i,v),H1,?_⟩;exact zfq hp
  ·have⟨a,h1,b⟩:=OI e he p hp;exact⟨a,UV _ h1,b⟩
theorem Hk{o:K}(h:gR P fr cx σ vs env w):gR P fr cx (PS σ o) vs env w:=by
 unfold PS;split
 ·next X ho=>
  have⟨m,hc⟩:=h;have⟨i,hi,_,hd⟩:=vq ho;have G:Bd cx ⟨σ.nx,E7 o X σ.rg,yw σ.ob o⟩:=⟨λe A=>m.o1 e<|uW e A,m.o2,λe A p hp=>by have⟨H,h1,f⟩:=OI e A p hp;exact m.r1 H h1 p f,m.r2⟩;refine⟨G,?_⟩
  cases X with
  |own s E xs=>
   have q:(OS vs fr cx σ.ob)[i]? =Z (mO s.rep E (vs o) xs):=JI hi;have:=MC i hc q;rw[c8 hi,<-hd]at this;exact this.weak λS w a=>zE.append (MZ a.1<|zE.left a.2)<|zE.right a.2
  |var s E z=>
   have q:(OS vs fr cx σ.ob)[i]? =Z (mP s.rep.c E (vs o) z):=JI hi;have⟨b,hv,u⟩:=hc.openP i q;have:=zlU (e:=s.rep) i u<|vy q;rw[rA,c8 hi,<-hd,<-hv]at this;exact this.weak λS w a=>zE.append (OW a.1<|zE.left a.2)<|zE.right a.2
  |mat s E E1 xss ix=>
   have h1:=jT ho hc;have f:St fr.we fr.Se (zd7 s.rep E E1 (yC<|vs o) (xU<|vs o) xss ix::OS vs fr cx (yw σ.ob o)) (GS P vs env fr cx σ) w:=St.grp.2 (dC h1).2;exact(f.mat_frz (dC h1).1).weak λS w a=>zE.append (PQ a.1<|zE.left a.2)<|zE.right a.2
  |vr t E s E1 n i z xs=>
   have h1:=jT ho hc;have f:=h1.freeze (i:=0) (F:=fP t.rep (uH s (xl n t i) xs z)<|yC<|vs o) O λS U u B hp=>by
    have⟨⟨⟨hl,J⟩,⟨b,hv,cs,g1,j⟩,hn,_⟩,_⟩:=hp;have j:(b6 t.rep (Xu<|xl n t i) (uH s (xl n t i) [])<|xU<|vs o).p S (z,0) cs.toList w:=j;refine⟨b,0,cs.toList,hv,B b ⟨_,UV _<|H1,by show zeZ (yC<|vs o)=Z b;rw[hv];rfl⟩,At.row g1,?_⟩;have⟨off,L,st,C⟩:=J;rw[C]at j⊢;rw[show uH s (Z ⟨off,.l s,L,st⟩) ([]:N s.D)=st ([]:N s.D)from jp λz=>nF]at j;rw[nF];exact zmc C j (by rw[B6 hl];rfl) u<|nC u (λk M=>B k ⟨_,UV _<|UV _<|H1,M⟩) hn
   exact f.weak λS w a=>zE.append (zbA a.1<|zE.left a.2)<|zE.right a.2
  |vh t E s E1 n i z=>
   rw[UR<|λv=>by cases v<;>rfl];exact St.drop (i:=0)<|jT ho hc
  |bo s E Q xs=>
   rw[UR<|λv=>by cases v<;>rfl];exact St.drop (i:=0)<|jT ho hc
  |ho Q=>
   rw[UR<|λv=>by cases v<;>rfl];exact St.drop (i:=0)<|jT ho hc
  |hid t E X Y V T g x=>
   rw[UR<|λv=>by cases v<;>rfl];exact St.drop (i:=0)<|jT ho hc
  |hiy Y T y=>
   rw[UR<|λv=>by cases v<;>rfl];exact St.drop (i:=0)<|jT ho hc
 ·exact h
theorem zgl(x:wW)(h:gR P fr cx σ vs env w):gR P fr cx (frz cx σ x) vs env w:=by grind [frz,Hk]
def Lb(x:wW)(h:Yw P fr cx σ env w):Yw P fr cx (frz cx σ x) env w:=by
 have⟨a,vs,b⟩:=h;have⟨h1,c⟩:=zgl x ⟨a,b⟩;exact⟨h1,vs,c⟩
def Ee:∀(l:N wW) {σ:Sg},Yw P fr cx σ env w->Yw P fr cx (zkb cx σ l) env w
 |[],_,h=>h
 |x::r,_,h=>Ee r<|Lb x h
def RZ{f:Z4}:∀{cs:N VM}{s:VM},zcf f cs=Z s->s∈cs/\s.f=f/\s.bk=1
 |c::cs,s,h=>by
  unfold zcf at h;split at h
  ·next h1 j k i=>
   cases e:E c.f f<;>rw[e]at h
   ·have⟨a,b⟩:=RZ h;exact⟨UV _ a,b⟩
   ·cases h;exact⟨H1,zO e,i⟩
  ·have⟨a,b⟩:=RZ h;exact⟨UV _ a,b⟩
def zqu(B:∀s∈cf.cs,xt P s){f:wW}{f':Z4}{o:K}{C:Ty}{s:VM}{a:uL wW}{ts:uL wT}{k:Sg->V R}(hd:wQ cx d=wL)(D:xD cx σ f=Z (.bm f' o C))(ht:a.toList=[])
 (F:zcf f' cf.cs=Z s) (h:mBm σ d s o k=Z r):mC P cx ⟨d,.call ⟨.value f,a,ts⟩,ty,pos,aft,g⟩ σ k r:=by
 have⟨h1,j,G⟩:=RZ F;have hc:=B s h1;unfold mBm at h;split at h
 ·next f0 t E t2 q M bk H E' y m=>
  have⟨u,J⟩:=z7 h;have⟨hn,L⟩:=yj J;subst hn;have⟨z,N,Q⟩:=r9 L;rw[xac,xac]at u;obtain rfl:=zO u.1;obtain rfl:bk=1:=G;obtain rfl:a= #[]:=by cases a;simp_all
  refine⟨_,Q,IR _,λfr vs env w T=> ?_⟩;have⟨v,hi⟩:=T;have⟨S0,_,n⟩:=hi.ex;have⟨hv,b,U⟩:=zj D<|zS n f;have A:=hc.2 (y,()) z N [vs o] O;have Y:(kW (ev env) ⟨d,.call ⟨.value f,#[],ts⟩,ty,pos,aft,g⟩).run P w=.ok (.enter f' #[vs o]) w:=by simp[kW,Wt,hv,xdR,V2,kE<|j▸hc.1]
  have hl:St fr.we fr.Se (mP H.rep.c E (vs o) y::OS vs fr cx (yw σ.ob o)) (gL (∃b,vs o=.pointer (Z ⟨b,0,wF⟩))::GS P vs env fr cx σ) w:=(jT m hi).weak λS w p=>⟨⟨b,U⟩,p⟩;unfold Zj;rw[Y];rw[show f0=f' from j]at A;refine(A fr.we fr.Se _ _ w hl).mono ?_;rintro e w' ⟨us,i,⟨hu,hp⟩,hq⟩;obtain rfl:us=[vs o]:=hp;refine⟨_,i,?_⟩;refine Jh (σ':=⟨σ.nx,vQ σ.rg d [],jY σ.ob o (.var t2 q z)⟩) (d:=d) (l:=[]) (vs:=vs) (vs':=vs) (Γl:=[]) v hd O (IR _) (λ_ _=>O) (λ_ i=>wS i Nm) (λe i=> ?_) (λS w _ e i=>wS i Nm) ?_
  ·have⟨e',h1,j⟩:=Jr m e i;rw[<-j];exact v.o1 e' h1
  ·refine Bh m ?_;have hr:St fr.we fr.Se (mP t2.rep.c q (vs o) z::OS vs fr cx (yw σ.ob o)) (gL (∃b,vs o=.pointer (Z ⟨b,0,wF⟩))::GS P vs env fr cx σ) w':=hq;exact hr.weak λS w p=>p.2
 ·cases h
def zmf(a:yY P cf.tt)(b:uI P cf.tt)(c:∀s∈cf.cs,xt P s)(e:ED P cf){l:Op}{k:Sg->V R}(hd:wQ cx d=wL)(h:zm7 cf cx σ d l k=Z r):
 mC P cx ⟨d,l,ty,pos,aft,g⟩ σ k r:=by
 unfold zm7 at h;split at h
 ·exact ziF a hd h
 ·next E x=>
  cases m:zmn cf d<;>rw[m]at h
  ·exact m_E a b c e hd h
  ·exact znS hd h
 ·next t x y=>
  have⟨hn,h⟩:=z7 h;have hn:d=wF:=by simpa using hn
  subst hn;split at h
  ·next u hc=>exact zjv a hc h
  ·cases h
 ·exact zmr a hd h
 ·exact zoB a b hd h
 ·next t x hi=>
  split at h
  ·next o n=>exact zjb a b hd n h
  ·exact m_E a b c e hd h
 ·exact zoh a hd h
 ·exact znn a b hd h
 ·next f p ts=>
  split at h
  ·next f' cs i=>
   split at h
   ·next s j=>exact zl5 c hd i j h
   ·exact m_E a b c e hd h
  ·next f' o t i=>
   split at h
   ·next s q j=>exact zqu c hd i q j h
   ·cases h
  ·exact m_E a b c e hd h
 ·exact m_E a b c e hd h
def zkA(b:yY P cf.tt)(l:uI P cf.tt)(m:∀s∈cf.cs,xt P s)(e:ED P cf){i:Op}{k:Sg->V R}(hd:wQ cx d=wL)(h:mOp cf cx σ d i k=Z r):
 mC P cx ⟨d,i,ty,pos,aft,g⟩ σ k r:=by
 unfold mOp at h
 cases hc:coM cf cx σ d i with
 |no=>rw[hc]at h;exact zmf b l m e hd h
 |_=>
  rw[hc]at h;simp only[mCo]at h;unfold coM at hc;split at hc
  ·next t x y=>
   cases a:SH (xD cx σ x)<;>rw[a]at hc<;>cases hc
   all_goals
    have⟨hn,h⟩:=z7 h
    have hn:d=wF:=by simpa using hn
    subst hn
    split at h
    ·next A p=>exact zhG b p h
    ·cases h
  ·next t x y=>
   cases a:zak cf d<;>rw[a]at hc<;>cases hc;all_goals exact ziQ b hd h
  ·next t n ps=>
   cases a:zak cf d<;>rw[a]at hc<;>cases hc;all_goals exact zm5 b l hd h
  ·next E=>
   cases a:zak cf d||(zaf cf d).isSome<;>rw[a]at hc<;>cases hc
   all_goals exact zeS b hd h
  ·next t ps=>
   cases a:(zaf cf d).isSome<;>rw[a]at hc<;>cases hc;all_goals exact zhe b hd h
  ·next t x=>
   split at hc
   ·next o q=>cases hc<;>exact ziL b hd q h
   ·split at hc
    ·next o u=>cases hc<;>exact zh4 b hd u h
    ·cases hc
  ·next c ts=>
   cases a:c.toList.any (λx=>zdT<|xD cx σ x)<;>rw[a]at hc<;>cases hc;all_goals exact zmj b hd h
  ·next f c ts=>
   split at hc
   ·next o j=>cases hc<;>exact zgC e hd j h
   ·next f' j=>
    split at hc
    ·next s v=>
     have⟨h1,z⟩:=zfR v;subst z;cases hc<;>exact zdt e hd j h1 h
    ·cases hc
   ·cases hc
  ·cases hc
theorem zeY{t:Z5}:put env (Z t) (env t)=env:=by grind [CT,lX]
def pT{t:Z5}{b:qR}(hn:XL cx.rg t=wL)(hv:env t=.bool b)(h:Yw P fr cx σ env w):Yw P fr cx (LB σ t b) env w:=by
 have⟨c,vs,f⟩:=h
 have:=lF.rel<|Jh (P:=P) (fr:=fr) (cx:=cx) (σ:=σ) (vs:=vs) (vs':=vs) (env:=env) (w:=w) (d:=Z t) (v:=env t) (σ':=LB σ t b) (l:=[(0,.kb b)]) (Γl:=[]) c hn O (IR _) (λ_ _=>O)
  (λe a o i=>by obtain rfl:=xag.1 a;cases i) c.o1 (λS w _ e a=>by obtain rfl:=xag.1 a;exact hv) f
 rwa[zeY]at this
def nW{t:Z5}{x:qR}{S:K->Prop}(h:get cx σ t 0=Z (.d .b x))(hl:Lk P vs env S w cx σ t):env t=.bool x:=nT<|hl 0 _ h
def NT{b:qR}{a c:V R}(h:ifB b a c=Z r):(b=wL/\a=Z r)\/(b=I/\c=Z r):=by
 cases b
 ·exact .inr ⟨O,h⟩
 ·exact .inl ⟨O,h⟩
def zjL{c:N Z0}{o:Z0}{k:Sg->qR->V R}(h:mg cx c o σ k=Z r)(p:Yw P fr cx σ env w):∃σ' b,k σ' b=Z r/\Yw P fr cx σ' env w/\yV c.toArray env o=b:=by
 have f:=p;have⟨s,vs,hd⟩:=p;have⟨S,_,e⟩:=hd.ex;unfold mg at h;split at h
 ·next n=>exact⟨σ,wL,h,f,by unfold yV;rw[n]⟩
 ·next j a n=>
  split at h
  ·next u q=>
   split at h
   ·next t ht=>
    have hc:∀{v},env t=v->gd c.toArray env j=(match v with|.bool b=>Z b|_=>wF):=by
     rintro v rfl;unfold gd;simp only[List.getElem?_toArray,q,Option.bind_some,ht];rfl
    have m:yV c.toArray env o=(gd c.toArray env j==Z a):=by unfold yV;rw[n]
    split at h
    ·next b i=>
     have hv:env t=.bool b:=XM e t 0 _ i;refine⟨σ,_,h,f,?_⟩;rw[m,hc hv];cases b<;>cases a<;>rfl
    ·next i=>
     have hv:env t=uT:=XM e t 0 _ i;refine⟨σ,_,h,f,?_⟩;rw[m,hc hv];rfl
    ·next x i=>
     have⟨hn,h⟩:=z7 h;have hv:env t=.bool x:=nW i<|XM e t;rcases NT h with⟨l,h⟩|⟨l,h⟩
     ·exact⟨_,_,h,pT hn (hv.trans<|ut xeJ l) f,by rw[m,hc<|hv.trans<|ut xeJ l];cases a<;>rfl⟩
     ·exact⟨_,_,h,pT hn (hv.trans<|ut xeJ l) f,by rw[m,hc<|hv.trans<|ut xeJ l];cases a<;>rfl⟩
    ·cases h
   ·cases h
  ·cases h
def zmi{o:Z0}{k:Sg->V R}(h:DN cx o σ k=Z r)(e:Yw P fr cx σ env w):∃σ',k σ'=Z r/\Yw P fr cx σ' env w:=by
 have a:=e;have⟨i,vs,hc⟩:=e;have⟨S,_,b⟩:=hc.ex;unfold DN at h;split at h
 ·next t _ _ _=>
  split at h
  ·next x f=>
   have⟨hn,h⟩:=z7 h;have hv:env t=.bool x:=nW f<|XM b t;rcases NT h with⟨c,h⟩|⟨c,h⟩
   ·exact⟨_,h,pT hn (hv.trans<|ut xeJ c) a⟩
   ·exact⟨_,h,pT hn (hv.trans<|ut xeJ c) a⟩
  ·exact⟨σ,h,a⟩
 ·exact⟨σ,h,a⟩
def zlu{N:Nd}{b:uL Z0}{o:Z0}{rest:xS Z0}{Q:Qs}(c:yV b env o=wL)(hd:jt N.n o.dst=wL)(h:Zj P o env w (λv w'=>WpL P N b rest Q (put env o.dst v) w')):WpL P N b (o::rest) Q env w:=by
 intro a h1 e f;subst f;unfold WF;rw[iq<|by rw[Jb];exact c];refine h.wp λv w' i=> ?_;exact i _ (by rw[Uq];exact h1) (by rw[XU];exact e)<|X6<|by rw[h1];exact UZ hd
def zjK{N:Nd}{b:uL Z0}{o:Z0}{rest:xS Z0}{Q:Qs}(c:yV b env o=I)(hd:jt N.n o.dst=wL)(h:WpL P N b rest Q (put env o.dst uT) w):WpL P N b (o::rest) Q env w:=by
 intro a h1 e f;subst f;unfold WF;rw[ir<|by rw[Jb,c];exact Bool.false_ne_true];exact⟨λ_ _=>wR,h _ (by rw[Uq];exact h1) (by rw[XU];exact e)<|X6<|by rw[h1];exact UZ hd⟩
def zmA(hd:wQ cx d=wL)(h:Yw P fr cx σ env w):Yw P fr cx (σ.put d [(0,.un)]) (put env d uT) w:=by
 have⟨b,vs,c⟩:=h;exact(Jh (σ':=σ.put d [(0,.un)]) (l:=[(0,.un)]) (v:=uT) (vs:=vs) (vs':=vs) (Γl:=[]) b hd O (IR _) (λ_ _=>O) (λe a o f=>by obtain rfl:=xag.1 a;cases f) b.o1 (λS w _ e a=>by obtain rfl:=xag.1 a;exact O) c).rel
def n8(cx:Sg)(a b:y7):Prop:=∀e∈cx.rg,b e.1=a e.1
def n8.refl{a:y7}:n8 cx a a:=λ_ _=>O
def n8.trans{a b c:y7}(h:n8 cx a b)(k:n8 cx b c):n8 cx a c:=λe f=>(k e f).trans<|h e f
def n8.put{a b:y7}{v:wN}(hd:wQ cx d=wL)(h:n8 cx a b):n8 cx a (put b d v):=λe c=>by
 rw[lX λht=> ?_]
 ·exact h e c
 ·subst ht;simp only[wQ,XL,xaR]at hd;have:=hd e c;simp at this
def CL(j:yY P cf.tt)(m:uI P cf.tt)(p:∀s∈cf.cs,xt P s)(q:ED P cf){N:Nd}{e:xS Z0}{Q:Qs}{k:Sg->V R}{env0:y7}
 (u:∀σ',k σ'=Z r->∀env w,n8 cx env0 env->Yw P fr cx σ' env w->Q .normal env w):∀{l:xS Z0}{σ:Sg}{env:y7}{w:wP},n8 cx env0 env->(l.all λo=>jt N.n o.dst)=wL->Tq cf cx e l σ k=Z r->Yw P fr cx σ env w->WpL P N e.toArray l Q env w
 |[],σ,env,w,i,_,h,c=>λa h1 B C=>wpListIn_nil ⟨h1,B,C▸u σ h env w i c⟩
 |o::l,σ,env,w,i,f,h,c=>by
  simp only[List.all_cons,xac]at f;unfold Tq at h;have⟨hd,h⟩:=z7 h;have⟨D,b,h,c,A⟩:=zjL h c;cases b
  ·exact zjK A f.1<|CL j m p q u (i.put hd) f.2 h<|zmA hd c
  ·have⟨z,h,c⟩:=zmi h c;have c:=Ee (zl2 cf cx z o.dst o.op) c;have⟨σ',E,_,F⟩:=zkA (P:=P) (d:=o.dst) (ty:=o.type) (pos:=o.pos) (aft:=o.after) (g:=o.guard) j m p q hd h;have⟨G,vs,H⟩:=c;exact zlu A f.1<|(F fr vs env w ⟨G,H⟩).mono λv w' hc=>CL j m p q u (i.put hd) f.2 E hc.rel
end
end
section
section
variable{P:jP}{cf:Cf}{fr:Fr}{cx σ σ0:Sg}{vs vs':wr->wN}{env env0:y7}{w:wP}{R:Type}{r:R}
 {d:ww Z5}{ty t yt:wT}{pos:String}{aft:uL Edge}{g:ww (wr×qR)}{x y:wW}
theorem Py:∀{a b:N (K×K×Dv)}{t i:K},(∀e∈a,e.1≠t)->ig (a++b) t i=ig b t i
 |[],_,_,_,_=>rfl
 |(c,f,d)::a,b,t,i,h=>by
  show(bif E c t && E f i then Z d else ig (a++b) t i)=_;rw[Yq<|h (c,f,d)<|H1];simp only[Bool.false_and,Z3];exact Py λe j=>h e<|UV _ j
theorem zge{rg:N (K×K×Dv)}{t a i:K}(h:a≠t):ig (zjN rg t) a i=ig rg a i:=by
 induction rg with
 |nil=>rfl
 |cons e rg b=>
  have⟨s,j,d⟩:=e;unfold zjN at b⊢;rw[xfP];cases c:E s t
  ·simp only[c,Bool.not_false,uP];unfold ig;rw[b]
  ·simp only[c,xeD,xao,uS];rw[b];have:=zO c;subst this;conv=>rhs;unfold ig
   rw[Yq<|λe=>h e.symm];rfl
theorem SF{rg:N (K×K×Dv)}{t a i:K}{l:N (K×Dv)}(h:a≠t):ig (vQ rg (Z t) l) a i=ig rg a i:=by grind [vQ,Py,zge]
def zjR{t a i:K}{l:N (K×Dv)}{n:K}{ob:N (K×Od)}{dv:Dv}(hn:XL cx.rg t=wL)(h:get cx ⟨n,vQ σ.rg (Z t) l,ob⟩ a i=Z dv):(a=t/\(i,dv)∈l)\/(a≠t/\get cx σ a i=Z dv):=by
 by_cases ht:a=t
 ·subst ht;left;refine⟨O,?_⟩;obtain hm|hm:=L6 h
  ·have hm:(a,i,dv)∈l.map (λe=>(a,e.1,e.2))++zjN σ.rg a:=hm;obtain hm|hm:=So.1 hm
   ·have⟨e,b,c⟩:=xas.1 hm;cases c;exact b
   ·have:=(xcg.1 hm).2;simp at this
  ·simp only[XL,xaR]at hn;have:=hn _ hm;simp at this
 ·right;refine⟨ht,?_⟩;unfold get at h⊢;rw[show ig (vQ σ.rg (Z t) l) a i=ig σ.rg a i from SF ht]at h;exact h
def zey{t:K}{l:N (K×Dv)}{n:K}{ob:N (K×Od)}{S:K->Prop}(hn:XL cx.rg t=wL){a:K}(h1:a=t->∀e∈l,(wo P vs e.2 (env t) e.1).p S w)(b:a≠t->Lk P vs env S w cx σ a):Lk P vs env S w cx ⟨n,vQ σ.rg (Z t) l,ob⟩ a:=by
 intro i dv hd;rcases zjR hn hd with⟨rfl,c⟩|⟨f,h⟩
 ·exact h1 O _ c
 ·exact b f i dv h
def rY{l:N (K×Dv)}(a:Bd cx σ)(hl:∀e∈l,∀o,vt e.2=Z o->o<σ.nx):Bd cx (σ.put d l):=by
 refine⟨a.o1,a.o2,λe he o b=> ?_,a.r2⟩;have he:e∈vQ σ.rg d l:=he;unfold vQ at he
 cases d with
 |none=>exact a.r1 e he o b
 |some t=>
  obtain he|he:=So.1 he
  ·obtain⟨c,f,rfl⟩:=xas.1 he;exact hl c f o b
  ·exact a.r1 e (xcg.1 he).1 o b
def BF{t a:K}{x b:qR}{S:K->Prop}(hn:XL cx.rg t=wL)(c:get cx σ t 0=Z (.d .b x))(f:x=b)(h:Lk P vs env S w cx σ a):Lk P vs env S w cx (LB σ t b) a:=by
 refine zey hn (λe j i=> ?_)<|λ_=>h;subst e;obtain rfl:=xag.1 i;exact(nW c h).trans<|ut xeJ f
def Rh{a:N Z0}{o:Z0}{k:Sg->qR->V R}(h:mg cx a o σ k=Z r)(l:Bd cx σ):∃σ' b,k σ' b=Z r/\σ'.ob=σ.ob/\σ'.nx=σ.nx/\Bd cx σ'/\
 (∀(P:jP) vs env S w t,Lk P vs env S w cx σ t->Lk P vs env S w cx σ' t)/\(∀(P:jP) vs env S w,(∀t∈xbx a.toArray o,Lk P vs env S w cx σ t)->yV a.toArray env o=b):=by
 unfold mg at h;split at h
 ·next m=>exact⟨σ,wL,h,O,O,l,λ_ _ _ _ _ _ h=>h,λP vs env S w _=>by unfold yV;rw[m]⟩
 ·next j c m=>
  split at h
  ·next A hd=>
   split at h
   ·next t ht=>
    have n:t∈xbx a.toArray o:=by
     unfold xbx;rw[m];simp[hd,ht]
    have hc:∀{env:y7}{v},env t=v->gd a.toArray env j=(match v with|.bool b=>Z b|_=>wF):=by
     rintro env v rfl;unfold gd;simp only[List.getElem?_toArray,hd,Option.bind_some,ht];rfl
    have p:∀env,yV a.toArray env o=(gd a.toArray env j==Z c):=λenv=>by unfold yV;rw[m]
    split at h
    ·next b f=>
     refine⟨σ,_,h,O,O,l,λ_ _ _ _ _ _ h=>h,λP vs env S w hl=> ?_⟩;have hv:env t=.bool b:=hl t n 0 _ f;rw[p,hc hv];cases b<;>cases c<;>rfl
    ·next f=>
     refine⟨σ,_,h,O,O,l,λ_ _ _ _ _ _ h=>h,λP vs env S w hl=> ?_⟩;have hv:env t=uT:=hl t n 0 _ f;rw[p,hc hv];rfl
    ·next x f=>
     have⟨hn,h⟩:=z7 h;have q:∀b,Bd cx (LB σ t b):=λb=>rY (d:=Z t) l λe s o u=>by obtain rfl:=xag.1 s;cases u
     rcases NT h with⟨i,h⟩|⟨i,h⟩
     ·refine⟨_,_,h,O,O,q _,λP vs env S w z hl=>BF hn f i hl,λP vs env S w hl=> ?_⟩;have hv:=(nW f<|hl t n).trans<|ut xeJ i;rw[p,hc hv];cases c<;>rfl
     ·refine⟨_,_,h,O,O,q _,λP vs env S w z hl=>BF hn f i hl,λP vs env S w hl=> ?_⟩;have hv:=(nW f<|hl t n).trans<|ut xeJ i;rw[p,hc hv];cases c<;>rfl
    ·cases h
   ·cases h
  ·cases h
def zbO{o:Z0}{k:Sg->V R}(h:DN cx o σ k=Z r)(a:Bd cx σ):∃σ',k σ'=Z r/\σ'.ob=σ.ob/\σ'.nx=σ.nx/\Bd cx σ'/\(∀(P:jP) vs env S w t,Lk P vs env S w cx σ t->Lk P vs env S w cx σ' t):=by
 unfold DN at h;split at h
 ·next t _ _ _=>
  split at h
  ·next x f=>
   have⟨hn,h⟩:=z7 h;have i:∀b,Bd cx (LB σ t b):=λb=>rY (d:=Z t) a λe j o l=>by obtain rfl:=xag.1 j;cases l
   rcases NT h with⟨c,h⟩|⟨c,h⟩
   ·exact⟨_,h,O,O,i _,λP vs env S w m hl=>BF hn f c hl⟩
   ·exact⟨_,h,O,O,i _,λP vs env S w m hl=>BF hn f c hl⟩
  ·exact⟨σ,h,O,O,a,λ_ _ _ _ _ _ h=>h⟩
 ·exact⟨σ,h,O,O,a,λ_ _ _ _ _ _ h=>h⟩
def prL(P:jP)(vs:K->wN)(l:N (K×Dv)):Pr where
 p S v w:=∀e∈l,(wo P vs e.2 v e.1).p S w
 keepS h k:=λe a=>(wo P vs e.2 _ e.1).keep (h e a) k
 sub h k:=λe a=>(wo P vs e.2 _ e.1).sub (h e a) k
def TJ(P:jP)(vs:wr->wN)(Γ:N FF)(env0:y7)(cx σ:Sg)(K:N (Z5×Pr)):Prop:=∀(env:y7) (S:wr->Prop) (w:wP),zE S Γ w->∀t,Yz K env0 env S w t->Lk P vs env S w cx σ t
def zh0(cx:Sg)(K:N (Z5×Pr)):Prop:=∀e∈K,XL cx.rg e.1=wL
def Wg{K:N (Z5×Pr)}{S:wr->Prop}:∀{ts:N Z5},Qq K env0 env S w ts->∀t∈ts,Yz K env0 env S w t
 |[],_,_,h=>wS h Nm
 |_::_,h,t,ht=>by
  obtain rfl|ht:=xaf.1 ht
  ·exact h.1
  ·exact Wg h.2 t ht
def C8{Γ:N FF}{K:N (Z5×Pr)}{c:Pr}{l:N (wr×Dv)}{o:Z0}(hd:wQ cx o.dst=wL)(h:TJ P vs Γ env0 cx σ K)(b:∀S v w,c.p S v w->∀e∈l,(wo P vs e.2 v e.1).p S w):TJ P vs Γ env0 cx (σ.put o.dst l) (gQ o.dst c K):=by
 intro env S w a t ht
 cases f:o.dst with
 |none=>
  rw[f]at ht;exact h env S w a t ht
 |some s=>
  rw[f]at ht hd;refine zey hd (λe=> ?_)<|λhc=> ?_
  ·subst e;refine b S _ w ?_;unfold Yz gQ at ht;simpa using ht
  ·refine h env S w a t ?_;unfold Yz gQ at ht;rw[List.find?_cons,Yq<|λe=>hc e.symm]at ht;exact ht
def OZ{K:N (Z5×Pr)}{a:Pr}{d:V Z5}(hd:wQ cx d=wL)(h:zh0 cx K):zh0 cx (gQ d a K):=by
 cases d with
 |none=>exact h
 |some s=>
  intro e he;obtain rfl|he:=xaf.1 he
  ·exact hd
  ·exact h e he
def Sx(n:yY P cf.tt)(q:uI P cf.tt)(u:∀s∈cf.cs,xt P s)(z:ED P cf){f:N Z0}{k:Sg->V R}{Γ:N FF}:∀{os:N Z0}{σ:Sg}{K:N (Z5×Pr)},zhj cf cx f os σ k=Z r->
 TJ P vs Γ env0 cx σ K->zh0 cx K->σ.ob=σ0.ob->Bd cx σ->∃(c:N Pr) (σ':Sg),X c=X os/\Obs P f.toArray (OS vs fr cx σ0.ob) Γ env0 (os.zip c) K/\k σ'=Z r/\TJ P vs Γ env0 cx σ' (Og (os.zip c) K)/\zh0 cx (Og (os.zip c) K)/\σ'.ob=σ0.ob/\Bd cx σ'
 |[],σ,K,h,hi,hn,m,A=>⟨[],σ,O,wR,h,hi,hn,m,A⟩
 |o::os,σ,K,h,hi,hn,m,A=>by
  unfold zhj at h;have⟨hd,h⟩:=z7 h;have⟨B,b,h,Q,hA,T,U,hr⟩:=Rh h A;have Y:∀{env:y7}{S:wr->Prop}{w:wP},zE S Γ w->Qq K env0 env S w (o.looksAt f.toArray)->yV f.toArray env o=b:=λ{env S w} a j=>hr P vs env S w λt ht=>hi env S w a t<|Wg j t ht;cases b
  ·have C:TJ P vs Γ env0 cx (B.put o.dst [(0,.un)]) (gQ o.dst (prV uT) K):=C8 hd (λenv S w a t ht=>U P vs env S w t<|hi env S w a t ht) λS v w hv e D=>by obtain rfl:=xag.1 D;exact hv
   have⟨c,σ',h1,E,G,H,J,L,M⟩:=Sx n q u z (os:=os) h C (OZ hd hn) (Q.trans m) (rY T λe D p hp=>by obtain rfl:=xag.1 D;cases hp);refine⟨prV uT::c,σ',by simp[h1],⟨λS w env hS hM a j=>⟨λhc=> ?_,λ_=>O⟩,E⟩,G,H,J,L,M⟩;rw[Y a j]at hc;cases hc
  ·have⟨i,h,hu,hD,hy,hk⟩:=zbO h T;have⟨l,h,hz⟩:=zgt (P:=P) (d:=o.dst) (ty:=o.type) (pos:=o.pos) (aft:=o.after) (g:=o.guard) (F:=fr.F) n q u z h;have⟨hl,h⟩:=z7 h;have hm:∀env S w t,Lk P vs env S w cx σ t->Lk P vs env S w cx i t:=λenv S w t ht=>hk P vs env S w t<|U P vs env S w t ht;have C:TJ P vs Γ env0 cx (i.put o.dst l) (gQ o.dst (prL P vs l) K):=C8 hd (λenv S w a t ht=>hm env S w t<|hi env S w a t ht) λS v w hv=>hv;have hq:i.ob=σ0.ob:=hu.trans<|Q.trans m;have⟨c,σ',h1,E,G,H,J,L,M⟩:=Sx n q u z (os:=os) h C (OZ hd hn) hq<|rY hy<|Hd hl;refine⟨prL P vs l::c,σ',by simp[h1],⟨λS w env hS hM a j=>⟨λhc=> ?_,λhc=> ?_⟩,E⟩,G,H,J,L,M⟩
   ·refine hz env w S vs hS (by rw[hq];exact hM) λt ht=>hm env S w t<|hi env S w a t<|Wg j t ?_;exact So.2 (.inl ht)
   ·rw[Y a j]at hc;cases hc
end
end
def IH{l:N Z0}{D:K->qR}(hd:∀j,D j=wL->∀e∈(z6 l j).after,xcu .any e=wL->D e.on=wL):∀(f j i:K),D j=wL->qL l f j i=wL->D i=wL
 |0,j,i,c,h=>by
  obtain⟨e,b,a,rfl⟩:=ux h;exact hd j c e b a
 |f+1,j,i,c,h=>by
  unfold qL at h;rw[xes]at h;obtain h|h:=h
  ·obtain⟨e,b,a,rfl⟩:=ux h;exact hd j c e b a
  ·rw[xeZ]at h;have⟨e,b,a⟩:=h;rw[xac]at a;exact IH hd f e.on i (hd j c e (xdn.1 b) a.1) a.2
section
def oZ(al:Rb->qR)(rs:N Rb):N (K×Od):=rs.filterMap λr=>if al r=wL then Z (r.o,r.x)else wF
def Ez(i:K)(rs:N Rb):N (K×Od):=rs.filterMap λr=>if r.c=Z i then Z (r.o,r.x)else wF
def Cy(i:K)(rs:N Rb):N (K×Od):=rs.filterMap λr=>if r.a=Z i then Z (r.o,r.x)else wF
def lS(i:K)(rs:N Rb):N (K×Od):=rs.filterMap λr=>if i∈r.rd then Z (r.o,r.x)else wF
def Ph{al b:Rb->qR}{i:K}:∀{rs:N Rb},(∀r∈rs,(r.c=Z i/\i∉r.rd/\r.a≠Z i/\al r=wL/\b r=I)\/(r.a=Z i/\r.c≠Z i/\i∉r.rd/\al r=I/\b r=wL)\/
 (i∈r.rd/\r.c≠Z i/\r.a≠Z i/\al r=wL/\b r=wL)\/(r.c≠Z i/\r.a≠Z i/\i∉r.rd/\al r=b r))->
 ∃rest,(∀e∈rest,∃r∈rs,e=(r.o,r.x)/\al r=wL/\b r=wL)/\(oZ al rs).Perm (Ez i rs++(lS i rs++rest))/\(oZ b rs).Perm (Cy i rs++(lS i rs++rest))
 |[],_=>⟨[],λe he=>wS he Nm,xdD _,xdD _⟩
 |r::rs,h=>by
  have⟨rest,h1,d,f⟩:=Ph (rs:=rs) λq m=>h q<|UV _ m;have k:∀e∈rest,∃q∈r::rs,e=(q.o,q.x)/\al q=wL/\b q=wL:=λe he=>by
   have⟨q,m,h⟩:=h1 e he;exact⟨q,UV _ m,h⟩
  rcases h r (H1)with⟨g,j,a3,a4,a5⟩|⟨g,j,a3,a4,a5⟩|⟨g,j,a3,a4,a5⟩|⟨g,j,a3,a4⟩
  ·refine⟨rest,k,?_,?_⟩
   ·simp only[oZ,Ez,lS,xaP,g,j,a4,uP,uS,V9]at d⊢;exact d.cons _
   ·simp only[oZ,Cy,lS,xaP,a3,j,a5,uS,V9,xao]at f⊢;exact f
  ·refine⟨rest,k,?_,?_⟩
   ·simp only[oZ,Ez,lS,xaP,j,a3,a4,uS,V9,xao]at d⊢;exact d
   ·simp only[oZ,Cy,lS,xaP,g,a3,a5,uP,uS,V9]at f⊢;exact f.cons _
  ·refine⟨rest,k,?_,?_⟩
   ·simp only[oZ,Ez,lS,xaP,g,j,a4,uP,uS,V9]at d⊢;exact(d.cons _).trans xcl.symm
   ·simp only[oZ,Cy,lS,xaP,g,a3,a5,uP,uS,V9]at f⊢;exact(f.cons _).trans xcl.symm
  ·cases l:al r with
   |false=>
    rw[l]at a4;refine⟨rest,k,?_,?_⟩
    ·simp only[oZ,Ez,lS,xaP,g,a3,l,uS,V9,xao]at d⊢;exact d
    ·simp only[oZ,Cy,lS,xaP,j,a3,<-a4,uS,V9,xao]at f⊢;exact f
   |true=>
    rw[l]at a4;refine⟨(r.o,r.x)::rest,λe he=> ?_,?_,?_⟩
    ·obtain rfl|he:=xaf.1 he
     ·exact⟨r,H1,O,l,a4.symm⟩
     ·exact k e he
    ·simp only[oZ,Ez,lS,xaP,g,a3,l,uP,uS,V9]at d⊢;rw[<-xad]at d⊢;exact(d.cons _).trans xcl.symm
    ·simp only[oZ,Cy,lS,xaP,j,a3,<-a4,uP,uS,V9]at f⊢;rw[<-xad]at f⊢;exact(f.cons _).trans xcl.symm
def KV(P:jP)(vs:K->wN)(KL:N (Z5×N (K×Dv))):N (Z5×Pr):=KL.map λe=>(e.1,prL P vs e.2)
def Iw(d:V Z5)(l:N (K×Dv))(KL:N (Z5×N (K×Dv))):N (Z5×N (K×Dv)):=match d with
 |some t=>(t,l)::KL
 |none=>KL
def AK:N (Z0×N (wr×Dv))->N (Z5×N (wr×Dv))->N (Z5×N (wr×Dv))
 |[],K=>K
 |(o,l)::r,K=>AK r<|Iw o.dst l K
def OL(P:jP)(vs:K->wN)(L:N (Z0×N (K×Dv))):N (Z0×Pr):=L.map λe=>(e.1,prL P vs e.2)
section
variable{P:jP}{vs:wr->wN}
def zhH{d:V Z5}{l:N (K×Dv)}{KL:N (Z5×N (K×Dv))}:KV P vs (Iw d l KL)=gQ d (prL P vs l) (KV P vs KL):=by cases d<;>rfl
def ze4:∀(L:N (Z0×N (K×Dv))) (KL:N (Z5×N (K×Dv))),KV P vs (AK L KL)=Og (OL P vs L) (KV P vs KL)
 |[],KL=>rfl
 |(o,l)::r,KL=>by
  show KV P vs (AK r<|Iw o.dst l KL)=Og (OL P vs r) (gQ o.dst (prL P vs l)<|KV P vs KL);rw[ze4 r,zhH]
end
def ObB(P:jP)(b:uL Z0)(we:wP)(Se:K->Prop)(mE:N MF)(Γ:N FF)(env0:y7)(vs:K->wN)(n0:K)(rs:N Rb)(KL:N (Z5×N (K×Dv)))(i:K)(o:Z0)(L:N (K×Dv))(a:Oi):Prop:=
 n0<=a.lo/\a.lo<=a.hi/\(∀e∈L,∀p,vt e.2=Z p->p<a.hi/\p∈a.refs)/\(∀e∈Cy i rs,e.1<a.hi)/\
 ∀vs',(∀p,p<n0->vs' p=vs p)->∀(env:y7) (F:N MF) (G:N FF) (w:wP),St we Se (MS vs' (Ez i rs++lS i rs)++(mE++F)) (zdE (KV P vs' KL) env0 env (o.looksAt b)::(Γ++G)) w->
  (yV b env o=wL->Zj P o env w (λv w'=>∃vs2,(∀p,p<a.lo->vs2 p=vs' p)/\St we Se (MS vs2 (Cy i rs)++(MS vs' (lS i rs)++(mE++F))) (zjh P vs2 v L++(Γ++G)) w'))/\
  (yV b env o=I->Ez i rs=[]/\Cy i rs=[]/\∀S w,zE S (zjh P vs' uT L) w)
def zit(P:jP)(a:uL Z0)(we:wP)(Se:K->Prop)(mE:N MF)(Γ:N FF)(env0:y7)(vs:K->wN)(n0:K)(rs:N Rb):N ((Z0×N (K×Dv))×Oi)->K->N (Z5×N (K×Dv))->Prop
 |[],_,_=>XS
 |((o,L),b)::r,i,KL=>ObB P a we Se mE Γ env0 vs n0 rs KL i o L b/\zit P a we Se mE Γ env0 vs n0 rs r (i+1) (Iw o.dst L KL)
def B2{P:jP}{b:uL Z0}{we:wP}{Se:K->Prop}{mE:N MF}{Γ:N FF}{env0:y7}{vs:K->wN}{n0:K}{rs:N Rb}:∀(r:N (Z0×N (K×Dv))) (is:N Oi) (n:K) (KL:N (Z5×N (K×Dv))) (i:K) (x:Z0×N (K×Dv)) (d:Oi),
 zit P b we Se mE Γ env0 vs n0 rs (r.zip is) n KL->r[i]? =Z x->is[i]? =Z d->ObB P b we Se mE Γ env0 vs n0 rs (AK (r.take i) KL) (n+i) x.1 x.2 d
 |[],_,_,_,_,_,_,h,a,_=>by simp at a
 |_::_,[],_,_,_,_,_,_,_,h=>by simp at h
 |(o,L)::r,c::is,n,KL,0,x,d,h,a,hc=>by simp at a hc;subst a;subst hc;exact h.1
 |(o,L)::r,c::is,n,KL,i+1,x,d,h,a,hc=>by
  have:=B2 r is (n+1) (Iw o.dst L KL) i x d h.2 (by simpa using a) (by simpa using hc);rw[(W:n+1+i=n+(i+1))]at this;simpa[AK]using this
structure zpY(l:N Z0)(m:K)(rs:N Rb)(is:N Oi):Prop where
 a:∀r∈rs,∀j,r.a=Z j->j<m/\∀i∈r.rd,qL l 16 i j=wL
 c:∀r∈rs,∀k,r.c=Z k->k<m/\(∀j,r.a=Z j->qL l 16 k j=wL)/\∀i∈r.rd,qL l 16 k i=wL
 n:∀i b,is[i]? =Z b->∀r∈rs,b.lo<=r.o->r.o<b.hi->∃j,r.a=Z j/\(j=i\/qL l 16 j i=wL)
 f:∀i b j J,is[i]? =Z b->is[j]? =Z J->∀p∈J.refs,b.lo<=p->p<b.hi->j=i\/qL l 16 j i=wL
 uniq:∀i j t,i<m->j<m->i≠j->(z6 l i).dst=Z t->(z6 l j).dst≠Z t
def zcm{l:N Z0}{m:K}{rs:N Rb}{is:N Oi}(h:zjZ l m rs is=wL):zpY l m rs is:=by
 unfold zjZ at h;rw[xac,xac]at h;have⟨⟨e,hn⟩,f⟩:=h;have hc:∀i q,is[i]? =Z q->ziJ l i q rs is.zipIdx=wL:=λi q hi=>xaR.1 hn (q,i)<|List.mem_zipIdx_iff_getElem?.2 hi;have b:∀(q:Oi) (p:K),q.lo<=p->p<q.hi->inB q p=wL:=λq p h1 c=>by
  unfold inB;rw[Nat.ble_eq_true_of_le h1,Bool.true_and];exact Nat.ble_eq_true_of_le c
 refine⟨λr d j a=> ?_,λr d k g=> ?_,λi q hi r d h1 c=> ?_,λi q j J hi a p hp h1 c=> ?_,λi j t hi a hd n o=> ?_⟩
 ·have:=xaR.1 e r d;rw[xac]at this;have:=this.1;rw[a]at this;simp only[xac,xaR]at this;exact⟨by have:=xbK this.1;lia,this.2⟩
 ·have:=xaR.1 e r d;rw[xac]at this;have:=this.2;rw[g]at this;simp only[xac,xaR]at this;refine⟨by have:=xbK this.1.1;lia,λj a=> ?_,this.2⟩;have:=this.1.2;rw[a]at this;exact this
 ·have:=hc i q hi;unfold ziJ at this;rw[xac]at this;have:=xaR.1 this.1 r d;rw[b q _ h1 c,xeD,xeC]at this;split at this
  ·next j a=>
   rw[xes]at this;exact⟨j,a,this.imp zO id⟩
  ·cases this
 ·have:=hc i q hi;unfold ziJ at this;rw[xac]at this;have:=xaR.1 this.2 (J,j)<|List.mem_zipIdx_iff_getElem?.2 a;have:=xaR.1 this p hp;rw[b q _ h1 c,xeD,xeC,xes]at this;exact this.imp zO id
 ·have:=xaR.1 (xaR.1 f i<|xbg.2 hi) j<|xbg.2 a;rw[Yq hd,xeC,n]at this;simp[o]at this
end
section
section
variable{P:jP}{N:Nd}{we:wP}{Se:wr->Prop}{ms:xS MF}{Γ:xS FF}{Q:Qs}{env0:y7}{l:xS Z0}{m:wr}
def zbo{Lp:xS (Z0×Pr)}(hd:∀i,i<m->∃b,Lp[i]? =Z (z6 l i,b))(f:∀(i:K) (x:Z0×Pr),Lp[i]? =Z x->i<m/\x.1=z6 l i){D:K->qR}{env:y7}{S:K->Prop}{w:wP}{i:K}{t:Z5}
 (g:∀t,(∀i,i<m->D i=wL->(z6 l i).dst≠Z t)->env t=env0 t) (h:(NS Lp D env).p S w) (hl:i<=m) (ht:∀j,j<m->(z6 l j).dst=Z t->(D j=wL↔j<i)):Yz (Og (Lp.take i) []) env0 env S w t:=by
 unfold Yz;rcases pF t (Lp.take i) []with⟨j,y,g1,a,q,k⟩|⟨g1,a⟩
 ·rw[k];rw[xcn]at g1;split at g1
  ·next hc=>
   have⟨hi,n⟩:=f j y g1;exact h j y t ((ht j hi<|n▸a).2 hc) g1 a
  ·cases g1
 ·rw[a];simp only[List.find?_nil];refine g t λj d o e=> ?_;have hc:=(ht j d e).1 o;have⟨b,c⟩:=hd j d;exact g1 j (z6 l j,b) (by rw[xcn,iq hc];exact c) e
def zhR(hc:WG l m=wL){Lp:xS (Z0×Pr)}(n:∀i,i<m->∃o,Lp[i]? =Z (z6 l i,o))(hd:∀(i:K) (x:Z0×Pr),Lp[i]? =Z x->i<m/\x.1=z6 l i){D:K->qR}{env:y7}{S:K->Prop}{w:wP}{i:K}
 (hp:i<m) (hn:D i=I) (q:∀e∈(z6 l i).after,xcu .any e=wL->D e.on=wL) (r:∀j,D j=wL->∀e∈(z6 l j).after,xcu .any e=wL->D e.on=wL)
 (s:∀t,(∀i,i<m->D i=wL->(z6 l i).dst≠Z t)->env t=env0 t) (u:(NS Lp D env).p S w):Qq (Og (Lp.take i) []) env0 env S w (xbx l.toArray<|z6 l i):=by
 have⟨h0,h1,v,A,hv⟩:=Zg hc;have B:i<X l:=W
 have hi:∀t,t∈xbx l.toArray (z6 l i)->∀j,j<m->(z6 l j).dst=Z t->j≠i->(D j=wL↔j<i):=by
  intro t ht j c d y;have k:=v i j t hp c y d (.inl ht);constructor
  ·intro z;obtain h|h:=xca j i
   ·exact h
   ·exfalso;have⟨e,f,g,hl⟩:=ux (k.2 W);have a:=r j z e f g;rw[hl,hn]at a;cases a
  ·intro b;have⟨e,f,g,hl⟩:=ux<|k.1 b;have a:=q e f g;rwa[hl]at a
 exact Um _ λt ht=>zbo n hd s u W λj c d=>by
  by_cases b:j=i
  ·subst b;rw[hn];simp
  ·exact hi t ht j c d b
def nQ(D:K->qR)(r:Rb):qR:=(match r.a with
 |none=>wL
 |some j=>D j) && !(match r.c with
 |none=>I
 |some k=>D k)
def zar{D:K->qR}{i:K}(c:∀e∈(z6 l i).after,xcu .any e=wL->D e.on=wL)(hc:∀j,D j=wL->∀e∈(z6 l j).after,xcu .any e=wL->D e.on=wL):∀(f j:K),qL l f i j=wL->D j=wL
 |0,j,h=>by
  obtain⟨e,b,a,rfl⟩:=ux h;exact c e b a
 |f+1,j,h=>by
  unfold qL at h;rw[xes]at h;obtain h|h:=h
  ·obtain⟨e,b,a,rfl⟩:=ux h;exact c e b a
  ·rw[xeZ]at h;have⟨e,b,a⟩:=h;rw[xac]at a;exact IH hc f e.on j (c e (xdn.1 b) a.1) a.2
def Hs{al a:Rb->qR}:∀{rs:xS Rb},(∀r∈rs,al r=a r)->oZ al rs=oZ a rs
 |[],_=>rfl
 |r::rs,h=>by
  have b:=Hs (rs:=rs) λq c=>h q<|UV _ c;unfold oZ at b⊢;rw[xaP,xaP,h r<|H1,b]
def zmy{id:K}{mE:xS MF}(m:K)(Ls:xS (xS<|K×Dv))(is:xS Oi)(rs:xS Rb)(ts:xS Z5)(vs:K->wN)(n0:K)(hm:P.follows .mixedOrders=wL)(hc:WG l m=wL)(hl:X Ls=m)(h':X is=m)(u:zjZ l m rs is=wL)
 (a9:MS vs (oZ (λr=>r.a.isNone) rs)++mE=ms) (hd:(l.all λo=>jt N.n o.dst)=wL) (hG:zit P l.toArray we Se mE Γ env0 vs n0 rs (((l.take m).zip Ls).zip is) 0 [])
 (a0:∀(env:y7) (w:wP) (vs':K->wN),(∀p,p<n0->vs' p=vs p)->St we Se (MS vs' (oZ (λr=>r.c.isNone) rs)++mE) (zdE (KV P vs'<|AK ((l.take m).zip Ls) []) env0 env ts::Γ) w->WpL P N l.toArray (l.drop m) Q env w):
 T P N we Se ms Γ (.region id l.toArray wL) Q env0:=by
 have⟨h0,h1,h2,h3,c6⟩:=Zg hc;have hp:=zcm u;have⟨L,hL⟩:∃L,L=(l.take m).zip Ls:=⟨_,O⟩;rw[<-hL]at hG a0;have c7:X L=m:=by rw[hL];simp;lia
 have hH:∀i,i<m->∃x,L[i]? =Z (z6 l i,x):=λi hi=>by
  have h':i<X l:=xah hi h0;have a5:i<X Ls:=hl.symm▸hi;refine⟨Ls[i]'(a5),?_⟩;rw[hL,List.getElem?_zip_eq_some];refine⟨?_,i7⟩;rw[xcn,iq hi];simp[z6,h']
 have hK:∀i x,L[i]? =Z x->i<m/\x.1=z6 l i:=λi x u=>by
  have hi:i<m:=by have:=(xar.1 u).1;lia
  have⟨Φ,h⟩:=hH i hi;rw[h]at u;cases u;exact⟨hi,O⟩
 have H:∀vs' i,i<m->∃Φ,(OL P vs' L)[i]? =Z (z6 l i,Φ):=λvs' i hi=>by
  have⟨x,h⟩:=hH i hi;exact⟨_,by rw[OL,xbV,h];rfl⟩
 have A:∀vs' (i:K) (x:Z0×Pr),(OL P vs' L)[i]? =Z x->i<m/\x.1=z6 l i:=λvs' i x u=>by
  rw[OL,xbV]at u
  cases G:L[i]? with
  |none=>rw[G]at u;cases u
  |some y=>rw[G]at u;cases u;exact hK i y G
 refine znT m (λD env w=>(∀t,(∀i,i<m->D i=wL->(z6 l i).dst≠Z t)->env t=env0 t)/\∃vs',(∀p,p<n0->vs' p=vs p)/\St we Se (MS vs' (oZ (nQ D) rs)++mE) (Γ++[NS (OL P vs' L) D env]) w) hm hc hd ?_ ?_ ?_
 ·intro w hw;refine⟨λt _=>O,vs,λ_ _=>O,?_⟩;have:nQ (λ_=>I)=λr=>r.a.isNone:=by
   funext r;unfold nQ;cases r.a<;>cases r.c<;>rfl
  rw[this,a9];exact hw.weak λS w h=>zE.append h ⟨λi x t hi=>(by cases hi),wR⟩
 ·rintro D i env w hS V a6 hM hA ⟨hE,vs',hT,hU⟩;have c5:i<X l:=W
  have⟨x,a7⟩:=hH i hS;have⟨b,hI⟩:∃b,is[i]? =some b:=⟨_,xab W⟩;have⟨o1,o2,o3,o4,hN⟩:=B2 L is 0 [] i _ b hG a7 hI;rw[xaK]at hN o4;have hq:∀j,qL l 16 i j=wL->D j=wL:=λj s=>zar hM hA 16 j s;have hV:∀k,D k=wL->qL l 16 k i≠wL:=λk hk q=>by
   have:=IH hA 16 k i hk q;rw[V]at this;cases this
  have hX:∀r∈rs,(r.c=Z i/\i∉r.rd/\r.a≠Z i/\nQ D r=wL/\nQ (EU D i) r=I)\/(r.a=Z i/\r.c≠Z i/\i∉r.rd/\nQ D r=I/\nQ (EU D i) r=wL)\/
   (i∈r.rd/\r.c≠Z i/\r.a≠Z i/\nQ D r=wL/\nQ (EU D i) r=wL)\/(r.c≠Z i/\r.a≠Z i/\i∉r.rd/\nQ D r=nQ (EU D i) r):=by
   intro r q;have hB:qL l 16 i i≠wL:=λh=>by have:=hq i h;rw[V]at this;cases this
   have hu:∀j,j≠i->EU D i j=D j:=λj s=>zac s;by_cases F:r.c=Z i
   ·have⟨c1,c2,c3⟩:=hp.c r q i F;have hv:i∉r.rd:=λh=>hB<|c3 i h;have B:r.a≠Z i:=λh=>hB<|c2 i h;refine .inl ⟨F,hv,B,?_,?_⟩
    ·unfold nQ;rw[F];simp only[V,Bool.not_false,Bool.and_true]
     cases M:r.a with
     |none=>rfl
     |some j=>exact hq j<|c2 j M
    ·unfold nQ;rw[F];simp only[mM,xeD,Bool.and_false]
   ·by_cases B:r.a=Z i
    ·have⟨a1,Y⟩:=hp.a r q i B;have hv:i∉r.rd:=λh=>hB<|Y i h;refine .inr (.inl ⟨B,F,hv,?_,?_⟩)
     ·unfold nQ;rw[B];simp only[V,Bool.false_and]
     ·unfold nQ;rw[B];simp only[mM,Bool.true_and]
      cases hn:r.c with
      |none=>rfl
      |some k=>
       simp only;rw[hu k<|λe=>F<|by rw[hn,e]]
       cases hZ:D k with
       |false=>rfl
       |true=>exact wS ((hp.c r q k hn).2.1 i B)<|hV k hZ
    ·have h4:∀k,r.c=Z k->i∈r.rd->D k=I:=λk hk hi=>by
      cases hZ:D k with
      |false=>rfl
      |true=>exact wS ((hp.c r q k hk).2.2 i hi)<|hV k hZ
     have hO:nQ (EU D i) r=nQ D r:=by
      unfold nQ
      cases M:r.a with
      |none=>
       cases hn:r.c with
       |none=>rfl
       |some k=>simp only;rw[hu k<|λe=>F<|by rw[hn,e]]
      |some j=>
       cases hn:r.c with
       |none=>simp only;rw[hu j<|λe=>B<|by rw[M,e]]
       |some k=>simp only;rw[hu j (λe=>B<|by rw[M,e]),hu k<|λe=>F<|by rw[hn,e]]
     by_cases hv:i∈r.rd
     ·have:nQ D r=wL:=by
       unfold nQ;have e1:(match r.c with|none=>I|some k=>D k)=I:=by
        cases hn:r.c with
        |none=>rfl
        |some k=>exact h4 k hn hv
       rw[e1];simp only[Bool.not_false,Bool.and_true]
       cases M:r.a with
       |none=>rfl
       |some j=>exact hq j<|(hp.a r q j M).2 i hv
      exact .inr (.inr (.inl ⟨hv,F,B,this,hO.trans this⟩))
     ·exact .inr (.inr (.inr ⟨F,B,hv,hO.symm⟩))
  have⟨rest,h5,p1,p2⟩:=Ph hX;have hW:∀S:K->Prop,∀w:wP,(NS (OL P vs' L) D env).p S w->Qq (KV P vs'<|AK (L.take i) []) env0 env S w (xbx l.toArray<|z6 l i):=λS w h6=>by
   rw[ze4];have:=zhR hc (H vs') (A vs') hS V hM hA hE h6;rw[show OL P vs' (L.take i)=(OL P vs' L).take i by unfold OL;rw[xeU]];exact this
  have hP:St we Se (MS vs' (Ez i rs++lS i rs)++(mE++MS vs' rest)) (zdE (KV P vs'<|AK (L.take i) []) env0 env (xbx l.toArray<|z6 l i)::(Γ++[NS (OL P vs' L) D env])) w:=by
   refine St.weak (hU.perm ?_) λS w h=>⟨hW S w (zE.right (Γ:=Γ) h).1,h⟩;have e1:(MS vs'<|oZ (nQ D) rs).Perm (MS vs' (Ez i rs++lS i rs)++MS vs' rest):=by
    unfold MS;rw[<-xaY,xad];exact p1.map _
   refine(xfx mE e1).trans ?_;rw[xad];exact xbL _ List.perm_append_comm
  have hN:=hN vs' hT env (MS vs' rest) [NS (OL P vs' L) D env] w hP;have hY:∀(v:wN) (t:Z5),(∀i',i'<m->EU D i i'=wL->(z6 l i').dst≠Z t)->put env (z6 l i).dst v t=env0 t:=λv t ht=>by
   rw[lX<|ht i hS<|mM D i];exact hE t λj s b0=>ht j s<|ziR b0
  have C:∀(v:wN) (w':wP) (vs2:K->wN),(∀p,p<b.lo->vs2 p=vs' p)->St we Se (MS vs2 (Cy i rs)++(MS vs' (lS i rs)++(mE++MS vs' rest))) (zjh P vs2 v x++(Γ++[NS (OL P vs' L) D env])) w'->
   ∃g,(∀p,p<n0->g p=vs p)/\St we Se (MS g (oZ (nQ<|EU D i) rs)++mE) (Γ++[NS (OL P g L) (EU D i)<|put env (z6 l i).dst v]) w':=by
   intro v w' vs2 h7 hs;have e3:∃g:K->wN,g=λp=>if b.lo<=p/\p<b.hi then vs2 p else vs' p:=⟨_,O⟩;have⟨g,e3⟩:=e3;have hQ:∀p,p<b.hi->g p=vs2 p:=λp hp=>by
    rw[e3];simp only;split
    ·rfl
    ·next hc=>exact(h7 p W).symm
   have hC:∀p,¬(b.lo<=p/\p<b.hi)->g p=vs' p:=λp hp=>by
    rw[e3];exact ir hp
   refine⟨g,λp hp=>(hC p W).trans<|hT p hp,?_⟩;have R:∀r∈rs,nQ D r=wL->g r.o=vs' r.o:=λr q R=>hC r.o λ⟨g1,g2⟩=>by
    have⟨j,s,hji⟩:=hp.n i b hI r q g1 g2;unfold nQ at R;rw[s,xac]at R;obtain rfl|hji:=hji
    ·have:=R.1;simp only at this;rw[V]at this;cases this
    ·exact hV j R.1 hji
   have m1:MS g (Cy i rs)=MS vs2 (Cy i rs):=wJ λe E=>hQ e.1<|o4 e E;have m2:MS g (lS i rs)=MS vs' (lS i rs):=wJ λe E=>by
    have⟨r,q,h8⟩:=xfp.1 E;split at h8
    ·next hi=>
     cases h8;rcases hX r q with⟨a1,Y,_⟩|⟨a1,Y,a3,_⟩|⟨a1,Y,a3,a4,_⟩|⟨a1,Y,a3,_⟩
     ·exact wS hi Y
     ·exact wS hi a3
     ·exact R r q a4
     ·exact wS hi a3
    ·cases h8
   have m3:MS g rest=MS vs' rest:=wJ λe E=>by
    obtain⟨r,q,rfl,h1,_⟩:=h5 e E;exact R r q h1
   have b1:(MS g (oZ (nQ<|EU D i) rs)++mE).Perm (MS vs2 (Cy i rs)++(MS vs' (lS i rs)++(mE++MS vs' rest))):=by
    rw[<-m1,<-m2,<-m3];have e1:(MS g<|oZ (nQ<|EU D i) rs).Perm (MS g (Cy i rs)++(MS g (lS i rs)++MS g rest)):=by
     unfold MS;rw[<-xaY,<-xaY];exact p2.map _
    refine(xfx mE e1).trans ?_;rw[xad,xad];exact xbL _<|xbL _ List.perm_append_comm
   refine St.weak (hs.perm b1.symm) λS w2 h=> ?_;have a8:=zE.right h;refine zE.append (zE.left a8) ⟨?_,wR⟩;have h6:=(zE.right a8).1;intro j y t s G ht;rw[OL,xbV]at G
   cases U:L[j]? with
   |none=>rw[U]at G;cases G
   |some z=>
    rw[U]at G;cases G;have⟨b2,b3⟩:=hK j z U;by_cases hji:j=i
    ·subst hji;rw[a7]at U;cases U;have b4:(z6 l j).dst=Z t:=ht;show(prL P g x).p S (put env (z6 l j).dst v t) w2;rw[b4,CT];intro e E;have:=uE.1 (zE.left h) _<|xas.2 ⟨e,E,O⟩;have h9:wo P g e.2 v e.1=wo P vs2 e.2 v e.1:=by
      unfold wo;simp only[ga (P:=P) (vs':=g) (vs:=vs2) (d:=e.2) λo ho=>hQ o (o3 e E o ho).1]
     rw[h9];exact this
    ·rw[zac hji]at s;have c0:(z6 l i).dst≠Z t:=hp.uniq j i t b2 hS hji<|b3▸ht;show(prL P g z.2).p S (put env (z6 l i).dst v t) w2;rw[lX c0];intro e E;have:=h6 j (z.1,prL P vs' z.2) t s (by rw[OL,xbV,U];rfl) ht;have:=this e E;have⟨J,hJ⟩:∃J,is[j]? =some J:=⟨_,xab W⟩;have⟨_,_,q3,_,_⟩:=B2 L is 0 [] j _ J hG U hJ;have h9:wo P g e.2 (env t) e.1=wo P vs' e.2 (env t) e.1:=by
      unfold wo;simp only[ga (P:=P) (vs':=g) (vs:=vs') (d:=e.2) λo ho=>hC o λ⟨g1,g2⟩=>by
       rcases hp.f i b j J hI hJ o (q3 e E o ho).2 g1 g2 with h|h
       ·exact hji h
       ·exact hV j s h]
     rw[h9];exact this
  refine⟨λhw=>(hN.1 hw).mono λv w' ⟨vs2,h7,hs⟩=>⟨hY v,C v w' vs2 h7 hs⟩,λhw=>⟨hY uT,?_⟩⟩;have⟨g1,g2,g3⟩:=hN.2 hw;refine C uT w vs' (λ_ _=>O) ?_;rw[g1,xbA]at hP;rw[g2];refine St.weak (show St we Se (MS vs' []++(MS vs' (lS i rs)++(mE++MS vs' rest))) _ w from hP) λS w h=>zE.append (g3 S w) h.2
 ·rintro D env w hR a6 ⟨hE,vs',hT,hU⟩;refine a0 env w vs' hT ?_;have c4:oZ (nQ D) rs=oZ (λr=>r.c.isNone) rs:=by
   refine Hs λr q=> ?_;have:nQ D r=r.c.isNone:=by
    unfold nQ;have e1:(match r.a with|none=>wL|some j=>D j)=wL:=by
     cases M:r.a with
     |none=>rfl
     |some j=>exact hR j (hp.a r q j M).1
    rw[e1]
    cases hn:r.c with
    |none=>rfl
    |some k=>simp only[hR k (hp.c r q k hn).1];rfl
   exact this
  rw[c4]at hU;refine hU.weak λS w h=>⟨?_,zE.left h⟩;refine Um ts λt _=> ?_;have:=zbo (i:=m) (t:=t) (H vs') (A vs') hE (zE.right (Γ:=Γ) h).1 (IR m) λj s _=>⟨λ_=>s,λ_=>hR j s⟩;rw[ze4];rwa[xaQ<|by unfold OL;rw[xaj];lia]at this
end
end
section
section
variable{P:jP}{cf:Cf}{fr:Fr}{cx σ σ0:Sg}{vs vs':wr->wN}{env env0:y7}{w:wP}{R:Type}{r:R}
def eh:∀{rg:N (K×K×Dv)}{e:K×K×Dv},e∈dd rg->e∈rg
 |a::r,e,h=>by
  obtain rfl|h:=xaf.1 h
  ·exact H1
  ·exact UV _<|eh (xcg.1 h).1
def Mj:∀{rg:N (K×K×Dv)}{e:K×K×Dv},e∈dd rg->ig rg e.1 e.2.1=Z e.2.2
 |(t,i,d)::r,e,h=>by
  obtain rfl|h:=xaf.1 h
  ·unfold ig;simp
  ·have⟨h1,a⟩:=xcg.1 h;unfold ig;simp only[xcV]at a;rw[a];exact Mj h1
def C2:∀(ts:N K),Kl env (ts.map λt=>(t,env t))
 |[]=>rfl
 |t::ts=>Ew O<|C2 ts
def HQ{rest:y7}:∀{ts:N K}{t:K},t∈ts->L (ts.map λt=>(t,env t)) rest t=env t
 |s::ts,t,h=>by
  simp only[xbS,L];cases a:E t s
  ·simp only[Z3];obtain rfl|h:=xaf.1 h
   ·simp at a
   ·exact HQ h
  ·rw[zO a];rfl
def O4:∀(l:N Z0) (al:N (K×wW)) {σ:Sg},Yw P fr cx σ env w->Yw P fr cx (zjM cf cx l al σ) env w
 |[],_,_,h=>h
 |o::r,al,σ,h=>O4 r _<|Ee _ h
theorem zbm{N:K}{l:xS Z0}(h:(l.all λo=>jt N o.dst)=wL)(m:K):((l.drop m).all λo=>jt N o.dst)=wL:=by grind [xaR,xeX]
def lZ:∀(l:N K) {σ:Sg},gR P fr cx σ vs env w->gR P fr cx (Cb σ l) vs env w
 |[],_,h=>h
 |o::r,_,h=>lZ r<|Hk h
def OE:∀(l:N K) (σ:Sg),(Cb σ l).nx=σ.nx
 |[],_=>rfl
 |o::r,σ=>by
  show(Cb (PS σ o) r).nx=_;rw[OE r];unfold PS;split<;>rfl
structure RX1(i:K)(r r':Rb):Prop where
 a:r'.a=r.a
 o:r'.o=r.o
 x:r'.x=r.x
 c1:∀k,r.c=Z k->r'.c=Z k
 c2:r.c=wF->∀k,r'.c=Z k->i<=k
 d1:∀j∈r.rd,j∈r'.rd
 d2:∀j∈r'.rd,j∈r.rd\/i<=j
def RX(i:K):N Rb->N Rb->Prop
 |[],b=>∀r∈b,(∃j,r.a=Z j/\i<=j)/\(∀k,r.c=Z k->i<=k)/\∀j∈r.rd,i<=j
 |_::_,[]=>QR
 |r::rs,d::b=>RX1 i r d/\RX i rs b
def Af(i:K)(rs:N Rb):Prop:=∀r∈rs,(∀j,r.a=Z j->j<i)/\(∀k,r.c=Z k->k<i)/\∀j∈r.rd,j<i
def RX.refl(i:K):∀rs:N Rb,RX i rs rs
 |[]=>λr b=>wS b Nm
 |r::rs=>⟨⟨O,O,O,λ_ h=>h,λh k a=>(by rw[h]at a;cases a),λ_ h=>h,λ_ h=> .inl h⟩,RX.refl i rs⟩
def TD{i:K}{a:N Rb}(h:RX (i+1) [] a):RX i [] a/\Ez i a=[]/\Cy i a=[]/\lS i a=[]:=by
 refine⟨λr b=> ?_,?_,?_,?_⟩
 ·have⟨⟨j,h1,c⟩,d,f⟩:=h r b;exact⟨⟨j,h1,W⟩,λk g=>by have:=d k g;lia,λj l=>by have:=f j l;lia⟩
 ·refine xep.2 λr b=>ir λe=> ?_;have:=(h r b).2.1 i e;lia
 ·refine xep.2 λr b=>ir λe=> ?_;have⟨j,h1,c⟩:=(h r b).1;rw[e]at h1;cases h1;lia
 ·refine xep.2 λr b=>ir λe=> ?_;have:=(h r b).2.2 i e;lia
def RX1.step{i:K}{r r1 e:Rb}(h:RX1 (i+1) r1 e)(f:r1.a=r.a)(g:r1.o=r.o)(l:r1.x=r.x)(hc:∀k,r.c=Z k->r1.c=Z k)(m:r.c=wF->∀k,r1.c=Z k->k=i)(hd:∀j∈r.rd,j∈r1.rd)(n:∀j∈r1.rd,j∈r.rd\/j=i):RX1 i r e:={
 a:=h.a.trans f
 o:=h.o.trans g
 x:=h.x.trans l
 c1:=λk b=>h.c1 k<|hc k b
 c2:=λhn k b=>by
  cases h1:r1.c with
  |none=>have:=h.c2 h1 k b;lia
  |some q=>
   have:=h.c1 q h1;rw[b]at this;cases this;have:=m hn k h1;lia
 d1:=λj d=>h.d1 j<|hd j d
 d2:=λj d=>by
  obtain h1|h1:=h.d2 j d
  ·obtain h2|h2:=n j h1
   ·exact .inl h2
   ·exact .inr W
  ·exact .inr<|by lia}
def za1{i:K}:∀{rs b:N Rb},Af i rs->RX (i+1) rs b->RX i rs b/\Ez i b=[]/\Cy i b=[]/\lS i b=[]
 |[],b,_,h=>TD h
 |r::rs,[],_,h=>h.elim
 |r::rs,d::b,f,⟨h1,n⟩=>by
  have⟨g1,g,j,l⟩:=za1 (rs:=rs) (λq o=>f q<|UV _ o) n;have⟨q1,q2,p⟩:=f r<|H1;have e1:d.c≠Z i:=λe=>by
   cases hc:r.c with
   |none=>have:=h1.c2 hc i e;lia
   |some k=>have:=h1.c1 k hc;rw[e]at this;cases this;have:=q2 i hc;lia
  have s:d.a≠Z i:=λe=>by rw[h1.a]at e;have:=q1 i e;lia
  have t:i∉d.rd:=λe=>by
   obtain h|h:=h1.d2 i e
   ·have:=p i h;lia
   ·lia
  refine⟨⟨h1.step O O O (λ_ h=>h) (λhn k m=>(by rw[hn]at m;cases m)) (λ_ h=>h)<|λ_ h=> .inl h,g1⟩,?_,?_,?_⟩
  ·unfold Ez at g⊢;rw[xaP,ir e1];exact g
  ·unfold Cy at j⊢;rw[xaP,ir s];exact j
  ·unfold lS at l⊢;rw[xaP,ir t];exact l
def zdM{i:K}{os:N K}:∀{rs b:N Rb},Af i rs->RX (i+1) (RY i os rs) b->RX i rs b/\Ez i b=[]/\Cy i b=[]/\∀e∈gU os rs,e∈lS i b
 |[],b,_,h=>by
  have⟨g1,d,f,_⟩:=TD h;exact⟨g1,d,f,λe he=>wS he Nm⟩
 |r::rs,[],_,h=>h.elim
 |r::rs,g::b,u,⟨h1,A⟩=>by
  have⟨g1,d,f,l⟩:=zdM (rs:=rs) (λq B=>u q<|UV _ B) A;have⟨q1,q2,F⟩:=u r<|H1;have⟨r1,p⟩:∃r1,r1=(match r.c,lk os r.o with|none,true=>(⟨r.a,wF,i::r.rd,r.o,r.x⟩:Rb)|_,_=>r):=⟨_,O⟩;have h1:RX1 (i+1) r1 g:=by rw[p];exact h1
  have k1:r1.a=r.a/\r1.o=r.o/\r1.x=r.x/\r1.c=r.c/\(∀j∈r.rd,j∈r1.rd)/\(∀j∈r1.rd,j∈r.rd\/j=i):=by
   rw[p];split
   ·next hc _=>exact⟨O,O,O,hc.symm,λj s=>UV _ s,λj s=>(xaf.1 s).symm⟩
   ·exact⟨O,O,O,O,λ_ h=>h,λ_ h=> .inl h⟩
  have⟨v,y,z,m,C,t⟩:=k1;have e1:g.c≠Z i:=λe=>by
   cases hc:r.c with
   |none=>have:=h1.c2 (m.trans hc) i e;lia
   |some k=>have:=h1.c1 k<|m.trans hc;rw[e]at this;cases this;have:=q2 i hc;lia
  have D:g.a≠Z i:=λe=>by rw[h1.a,v]at e;have:=q1 i e;lia
  refine⟨⟨h1.step v y z (λk n=>m.trans n) (λhn k n=>by rw[m,hn]at n;cases n) C t,g1⟩,?_,?_,?_⟩
  ·unfold Ez at d⊢;rw[xaP,ir e1];exact d
  ·unfold Cy at f⊢;rw[xaP,ir D];exact f
  ·intro e he;unfold gU at he;unfold lS at l⊢;rw[xaP];split at he
   ·next hc E=>
    have hi:i∈g.rd:=h1.d1 i (by rw[p,hc,E];exact H1);rw[iq hi];obtain rfl|he:=xaf.1 he
    ·rw[h1.o,h1.x,y,z];exact H1
    ·exact UV _<|l e he
   ·split
    ·exact l e he
    ·exact UV _<|l e he
def zfo{i:K}:∀{ob:N (K×Od)}{b:N Rb},RX (i+1) (zjO i ob) b->RX i [] b/\Ez i b=[]/\Cy i b=ob/\lS i b=[]
 |[],b,h=>TD h
 |e::ob,[],h=>h.elim
 |e::ob,d::b,⟨h1,n⟩=>by
  have⟨g1,f,g,l⟩:=zfo (ob:=ob) n;have e1:d.c≠Z i:=λe=>by have:=h1.c2 O i e;lia
  have m:d.a=Z i:=h1.a;have p:i∉d.rd:=λe=>by
   obtain h|h:=h1.d2 i e
   ·cases h
   ·lia
  refine⟨λr hr=> ?_,?_,?_,?_⟩
  ·obtain rfl|hr:=xaf.1 hr
   ·exact⟨⟨i,m,IR _⟩,λk q=>by have:=h1.c2 O k q;lia,λj s=>by
     obtain h|h:=h1.d2 j s
     ·cases h
     ·lia⟩
   ·exact g1 r hr
  ·unfold Ez at f⊢;rw[xaP,ir e1];exact f
  ·unfold Cy at g⊢;rw[xaP,iq m,g,h1.o,h1.x]
  ·unfold lS at l⊢;rw[xaP,ir p];exact l
def zfT{i:K}{os:N K}{ob:N (K×Od)}:∀{rs b:N Rb},Af i rs->RX (i+1) (Te i os rs++zjO i ob) b->RX i rs b/\Ez i b=gU os rs/\Cy i b=ob/\lS i b=[]
 |[],b,_,h=>zfo h
 |r::rs,[],_,h=>h.elim
 |r::rs,d::b,p,⟨h1,A⟩=>by
  have⟨g1,B,s,t⟩:=zfT (rs:=rs) (λq C=>p q<|UV _ C) A;have⟨q1,q2,D⟩:=p r<|H1;have⟨r1,g⟩:∃r1,r1=(match r.c,lk os r.o with|none,true=>(⟨r.a,Z i,r.rd,r.o,r.x⟩:Rb)|_,_=>r):=⟨_,O⟩;have h1:RX1 (i+1) r1 d:=by rw[g];exact h1
  have k1:r1.a=r.a/\r1.o=r.o/\r1.x=r.x/\r1.rd=r.rd/\(∀k,r.c=Z k->r1.c=Z k)/\(r.c=wF->∀k,r1.c=Z k->k=i):=by
   rw[g];split
   ·next hc _=>exact⟨O,O,O,O,λk f=>(by rw[hc]at f;cases f),λ_ k f=>(by cases f;rfl)⟩
   ·exact⟨O,O,O,O,λ_ h=>h,λhn k f=>(by rw[hn]at f;cases f)⟩
  have⟨u,v,y,m,E,n⟩:=k1;have F:d.a≠Z i:=λe=>by rw[h1.a,u]at e;have:=q1 i e;lia
  have G:i∉d.rd:=λe=>by
   obtain h|h:=h1.d2 i e
   ·rw[m]at h;have:=D i h;lia
   ·lia
  refine⟨⟨h1.step u v y E n (λj l=>by rw[m];exact l) (λj l=>by rw[m]at l;exact .inl l),g1⟩,?_,?_,?_⟩
  ·have no:r1=r->d.c≠Z i:=λhd e=>by
    rw[hd]at h1
    cases hc:r.c with
    |none=>have:=h1.c2 hc i e;lia
    |some k=>have:=h1.c1 k hc;rw[e]at this;cases this;have:=q2 i hc;lia
   have hv:gU os (r::rs)=(match r.c,lk os r.o with|none,wL=>(r.o,r.x)::gU os rs|_,_=>gU os rs):=O;have H:Ez i (d::b)=if d.c=Z i then(d.o,d.x)::Ez i b else Ez i b:=by
    unfold Ez;rw[xaP];split<;>next h=>split at h<;>simp_all
   rw[H,hv,B]
   cases hc:r.c with
   |some k=>
    rw[ir<|no<|by rw[g,hc]]
   |none=>
    cases z:lk os r.o with
    |false=>rw[ir<|no<|by rw[g,hc,z]]
    |true=>
     have:d.c=Z i:=h1.c1 i (by rw[g,hc,z]);rw[iq this,h1.o,h1.x,v,y]
  ·unfold Cy at s⊢;rw[xaP,ir F];exact s
  ·unfold lS at t⊢;rw[xaP,ir G];exact t
def zdS{i:K}:∀{ob:N (K×Od)}{b:N Rb},RX i (zpm ob) b->oZ (λr=>r.a.isNone) b=ob
 |[],b,h=>xep.2 λr d=>by
  have⟨⟨j,h1,_⟩,_⟩:=h r d;simp[h1]
 |e::ob,[],h=>h.elim
 |e::ob,f::b,⟨h1,g⟩=>by
  have c:=zdS (ob:=ob) g;unfold oZ at c⊢;have:f.a=wF:=h1.a;simp only[xaP,this,Option.isNone_none,uP];rw[c,h1.o,h1.x]
def zij{i:K}{os:N K}{rs:N Rb}(h:Af i rs):Af (i+1) (RY i os rs):=by
 induction rs with
 |nil=>exact λr c=>wS c Nm
 |cons r rs d=>
  intro q hq;unfold RY at hq;obtain rfl|hq:=xaf.1 hq
  ·have⟨q1,q2,b⟩:=h r<|H1;split
   ·exact⟨λj hj=>(by have:=q1 j hj;lia),λk a=>(by cases a),λj hj=>by
     obtain rfl|hj:=xaf.1 hj
     ·lia
     ·have:=b j hj;lia⟩
   ·exact⟨λj hj=>by have:=q1 j hj;lia,λk a=>by have:=q2 k a;lia,λj hj=>by have:=b j hj;lia⟩
  ·exact d (λq hq=>h q<|UV _ hq) q hq
def zka{i:K}{os:N K}{rs:N Rb}(h:Af i rs):Af (i+1) (Te i os rs):=by
 induction rs with
 |nil=>exact λr d=>wS d Nm
 |cons r rs e=>
  intro q hq;unfold Te at hq;obtain rfl|hq:=xaf.1 hq
  ·have⟨q1,q2,c⟩:=h r<|H1;split
   ·exact⟨λj a=>by have:=q1 j a;lia,λk b=>by cases b;lia,λj a=>by have:=c j a;lia⟩
   ·exact⟨λj a=>by have:=q1 j a;lia,λk b=>by have:=q2 k b;lia,λj a=>by have:=c j a;lia⟩
  ·exact e (λq hq=>h q<|UV _ hq) q hq
def zi1{i:K}{ob:N (K×Od)}{rs:N Rb}(h:Af (i+1) rs):Af (i+1) (rs++zjO i ob):=λq hq=>by
 obtain hq|hq:=So.1 hq
 ·exact h q hq
 ·obtain⟨e,_,rfl⟩:=xas.1 hq;exact⟨λj a=>by cases a;lia,λk b=>(by cases b),λj a=>wS a Nm⟩
def znb{i:K}{rs:N Rb}(h:Af i rs):Af (i+1) rs:=λr b=>by
 have⟨q1,q2,c⟩:=h r b;exact⟨λj a=>by have:=q1 j a;lia,λk d=>by have:=q2 k d;lia,λj a=>by have:=c j a;lia⟩
def zo5{i n:K}{os:N K}{rs:N Rb}(h:∀r∈rs,r.o<n):∀r∈RY i os rs,r.o<n:=by
 induction rs with
 |nil=>exact λr a=>wS a Nm
 |cons r rs b=>
  intro q hq;unfold RY at hq;obtain rfl|hq:=xaf.1 hq
  ·have:=h r<|H1;split<;>exact this
  ·exact b (λq hq=>h q<|UV _ hq) q hq
def zod{i n:K}{os:N K}{rs:N Rb}(h:∀r∈rs,r.o<n):∀r∈Te i os rs,r.o<n:=by
 induction rs with
 |nil=>exact λr a=>wS a Nm
 |cons r rs b=>
  intro q hq;unfold Te at hq;obtain rfl|hq:=xaf.1 hq
  ·have:=h r<|H1;split<;>exact this
  ·exact b (λq hq=>h q<|UV _ hq) q hq
def zeH{n:K}{os:N K}:∀{rs:N Rb},(∀r∈rs,r.o<n)->∀e∈gU os rs,e.1<n
 |[],_,e,he=>wS he Nm
 |r::rs,h,e,he=>by
  have a:=zeH (os:=os) (rs:=rs) λq b=>h q<|UV _ b;unfold gU at he;split at he
  ·obtain rfl|he:=xaf.1 he
   ·exact h r<|H1
   ·exact a e he
  ·exact a e he
def zbr:∀(rs:N Rb),Rm rs=oZ (λr=>r.c.isNone) rs
 |[]=>rfl
 |r::rs=>by
  have a:=zbr rs;unfold oZ at a⊢;unfold Rm
  cases hc:r.c with
  |none=>simp only[xaP,hc,Option.isNone_none,uP];rw[a]
  |some k=>simp only[xaP,hc,Option.isNone_some,xao,uS];exact a
def aW{ts:N Z5}:∀{rg:N (K×K×Dv)}{e:K×K×Dv},e∈az ts rg->e∈rg/\lk ts e.1=wL
 |(t,i,v)::r,e,h=>by
  unfold az at h;split at h
  ·next b=>
   obtain rfl|h:=xaf.1 h
   ·exact⟨H1,b⟩
   ·have⟨h1,a⟩:=aW h;exact⟨UV _ h1,a⟩
  ·have⟨h1,a⟩:=aW h;exact⟨UV _ h1,a⟩
def mz{ts:N Z5}{t i:K}(ht:lk ts t=wL):∀{rg:N (K×K×Dv)},ig (az ts rg) t i=ig rg t i
 |[]=>rfl
 |(b,c,v)::r=>by
  unfold az;split
  ·unfold ig;rw[mz ht]
  ·next a=>
   rw[mz ht];conv=>rhs;unfold ig
   rw[Yq<|λe=>by rw[e,ht]at a;cases a];rfl
def za7{t i:K}:∀{a b:N (K×K×Dv)},ig (a++b) t i=match ig a t i with|some d=>Z d|none=>ig b t i
 |[],b=>rfl
 |(c,e,v)::a,b=>by
  show(bif E c t && E e i then Z v else ig (a++b) t i)=(match(bif E c t && E e i then Z v else ig a t i)with|some d=>Z d|none=>ig b t i);cases f:E c t && E e i
  ·simp only[Z3];exact za7
  ·simp only[Z2]
theorem zis{l:N K}{t:K}(h:lk l t=wL):t∈l:=by grind [lk,zO,xeZ]
def sK:∀{l:N (K×Dv)}{e:K×Dv}{p:K},e∈l->vt e.2=Z p->p∈o8 l
 |(i,v)::r,e,p,h,hp=>by
  unfold o8;obtain rfl|h:=xaf.1 h
  ·have hp:vt v=Z p:=hp;rw[hp];exact H1
  ·have:=sK h hp;split
   ·exact UV _ this
   ·exact this
def zhx{d:V Z5}{rg:N (K×K×Dv)}{e:K×Dv}(h:e∈AB d rg):∃t,d=Z t/\(t,e.1,e.2)∈rg:=by
 unfold AB at h;split at h
 ·next t=>
  have⟨q,b,a⟩:=xfp.1 h;split at a
  ·next c=>
   cases a;rw[<-zO c];exact⟨_,O,b⟩
  ·cases a
 ·cases h
def zaj(P:jP)(vs:K->wN)(n0:K)(Γ:N FF)(env0:y7)(cx σ:Sg)(KL:N (Z5×N (K×Dv))):Prop:=∀vs',(∀p,p<n0->vs' p=vs p)->TJ P vs' Γ env0 cx σ (KV P vs' KL)
def zaR(cx:Sg)(KL:N (Z5×N (K×Dv))):Prop:=∀e∈KL,XL cx.rg e.1=wL
def rq{KL:N (Z5×N (K×Dv))}{l:N (K×Dv)}{d:V Z5}(hd:wQ cx d=wL)(h:zaR cx KL):zaR cx (Iw d l KL):=by
 cases d with
 |none=>exact h
 |some s=>
  intro e he;obtain rfl|he:=xaf.1 he
  ·exact hd
  ·exact h e he
def Dq{n0:K}{Γ:N FF}{KL:N (Z5×N (K×Dv))}{l:N (K×Dv)}{o:Z0}(hd:wQ cx o.dst=wL)(h:zaj P vs n0 Γ env0 cx σ KL):zaj P vs n0 Γ env0 cx (σ.put o.dst l) (Iw o.dst l KL):=λvs' hv=>by
 rw[zhH];exact C8 hd (h vs' hv) λS v w hv=>hv
def Mb(U:yY P cf.tt)(Y:uI P cf.tt)(hC:∀s∈cf.cs,xt P s)(hX:ED P cf){u:N Z0}{fz:N K}{k:Sg->N Rb->N Oi->V R}{Γ:N FF}{n0:K}(hz:∀e∈cx.ob,e.1<n0):∀{os:N Z0}{i:K}{σ:Sg}{rs:N Rb}{is:N Oi}{KL:N (Z5×N (K×Dv))},
 zcg cf cx u fz os i σ rs is k=Z r->zaj P vs n0 Γ env0 cx σ KL->zaR cx KL->σ.ob=[]->Bd cx σ->(∀r∈rs,r.o<σ.nx)->Af i rs->n0<=σ.nx->
 ∃(Ls:N (N<|K×Dv)) (y:N Oi) (σ':Sg) (x:N Rb),X Ls=X os/\X y=X os/\k σ' x (is++y)=Z r/\RX i rs x/\
  zit P u.toArray fr.we fr.Se (MS vs cx.ob++fr.F) Γ env0 vs n0 x ((os.zip Ls).zip y) i KL/\zaj P vs n0 Γ env0 cx σ' (AK (os.zip Ls) KL)/\zaR cx (AK (os.zip Ls) KL)/\σ'.ob=[]/\Bd cx σ'/\(∀r∈x,r.o<σ'.nx)/\n0<=σ'.nx
 |[],i,σ,rs,is,KL,h,hi,hn,ho,hB,T,E,h0=>⟨[],[],σ,rs,O,O,by rw[xbO];exact h,RX.refl _ _,wR,hi,hn,ho,hB,T,h0⟩
 |o::os,i,σ,rs,is,KL,h,hi,hn,ho,hB,T,E,h0=>by
  unfold zcg at h;have⟨hd,h⟩:=z7 h;have⟨z,b,h,hQ,hF,hR,hJ,hS⟩:=Rh h hB;have hg:∀{vs' env S w},(∀p,p<n0->vs' p=vs p)->zE S Γ w->Qq (KV P vs' KL) env0 env S w (xbx u.toArray o)->∀t∈xbx u.toArray o,Lk P vs' env S w cx σ t:=λ{vs' env S w} hv a A t ht=>hi vs' hv env S w a t<|Wg A t ht;cases b
  ·have a1:zaj P vs n0 Γ env0 cx (z.put o.dst [(0,.un)]) (Iw o.dst [(0,.un)] KL):=Dq hd λvs' hv env S w a t ht=>hJ P vs' env S w t<|hi vs' hv env S w a t ht;have⟨Ls,y,σ',x,h1,h2,h3,h4,h5,h6,h7,h8,h9,hA,hD⟩:=Mb U Y hC hX hz (os:=os) h a1 (rq hd hn) (hQ.trans ho) (rY hR λe he p hp=>by obtain rfl:=xag.1 he;cases hp) (λr H=>by show r.o<z.nx;rw[hF];exact T r H) (znb E) (by show n0<=z.nx;rw[hF];exact h0);have⟨g1,g2,B,g4⟩:=za1 E h4;refine⟨[(0,.un)]::Ls,⟨z.nx,z.nx,[]⟩::y,σ',x,by simp[h1],by simp[h2],by rw[<-h3];simp,g1,⟨⟨(by show n0<=z.nx;rw[hF];exact h0),IR _,λe he p hp=>(by obtain rfl:=xag.1 he;cases hp),λe he=>(by rw[B]at he;cases he),λvs' hv env F G w hc=>⟨λhw=> ?_,λ_=>⟨g2,B,λS w=>⟨O,wR⟩⟩⟩⟩,h5⟩,h6,h7,h8,h9,hA,hD⟩;exfalso;have⟨S,_,a⟩:=hc.ex;have:=hS P vs' env S w λt ht=>hg hv (zE.left a.2) a.1 t ht;rw[hw]at this;cases this
  ·have⟨c,h,a2,a3,C,hU⟩:=zbO h hR;have hK:∀vs' env S w t,Lk P vs' env S w cx σ t->Lk P vs' env S w cx c t:=λvs' env S w t ht=>hU P vs' env S w t<|hJ P vs' env S w t ht;have hV:zaj P vs n0 Γ env0 cx c KL:=λvs' hv env S w a t ht=>hK vs' env S w t<|hi vs' hv env S w a t ht;have D:c.nx=σ.nx:=a3.trans hF;have hN:∀{vs' env S w},(∀p,p<n0->vs' p=vs p)->zE S Γ w->Qq (KV P vs' KL) env0 env S w (xbx u.toArray o)->yV u.toArray env o=wL:=λ{vs' env S w} hv a A=>hS P vs' env S w λt ht=>hg hv a A t ht;generalize hE:xbx u.toArray o=ts at h hg hN;generalize b2:db ts c.rg=J at h;generalize b3:fzB fz o.dst=bz at h;cases hM:zkw cf cx ⟨c.nx,c.rg,gU J rs⟩ bz o.dst o.op<;>rw[hM]at h
   ·simp only[OA]at h;have⟨l,h,a4⟩:=zgt (P:=P) (d:=o.dst) (ty:=o.type) (pos:=o.pos) (aft:=o.after) (g:=o.guard) (F:=[]) U Y hC hX h;have⟨hl,h⟩:=z7 h;have⟨Ls,y,σ',x,h1,h2,h3,h4,h5,h6,h7,h8,h9,hA,hD⟩:=Mb U Y hC hX hz (os:=os) h (Dq hd hV) (rq hd hn) (a2.trans<|hQ.trans ho) (rY C<|Hd hl) (zo5 λr H=>by show r.o<c.nx;rw[D];exact T r H) (zij E) (by show n0<=c.nx;rw[D];exact h0);have⟨g1,g2,B,g4⟩:=zdM E h4;refine⟨l::Ls,⟨c.nx,c.nx,o8 l⟩::y,σ',x,by simp[h1],by simp[h2],by rw[<-h3];simp,g1,⟨⟨(by show n0<=c.nx;rw[D];exact h0),IR _,λe he p hp=>⟨Hd hl e he p hp,sK he hp⟩,λe he=>(by rw[B]at he;cases he),λvs' hv env F G w hc=>⟨λ_=> ?_,λhw=> ?_⟩⟩,h5⟩,h6,h7,h8,h9,hA,hD⟩
    ·rw[g2]at hc;rw[B];have⟨k1,k2,k3,S,k4,k5,k6,k7,k8⟩:=hc;have hG:MS vs' cx.ob=MS vs cx.ob:=wJ λe he=>hv _<|hz e he;refine(a4 env w S vs' k5 (ZT.2 λmf hmf=> ?_) λt ht=> ?_).mono ?_
     ·obtain hmf|hmf:=So.1 hmf
      ·obtain⟨e,he,rfl⟩:=xas.1 hmf;exact ZT.1 k7 _<|So.2 (.inl<|xas.2 ⟨e,g4 e he,O⟩)
      ·rw[xbO]at hmf;have hmf:mf∈MS vs' cx.ob:=hmf;rw[hG]at hmf;exact ZT.1 k7 _<|So.2 (.inr<|So.2 (.inl<|So.2 (.inl hmf)))
     ·have A:Qq (KV P vs' KL) env0 env S w (xbx u.toArray o):=k8.1;exact hK vs' env S w t<|hg hv (zE.left k8.2) (hE▸A) t<|hE▸So.2 (.inl ht)
     ·rintro v w' ⟨hx,hf⟩;refine⟨vs',λ_ _=>O,k1.trans hx,k2,k3,S,k4,λk hk=>k5 k<|xap hx.size hk,k6,yM.keep hx.to (λm hm i hi=>hx.block i (yM.lt k7 m hm i hi) wR) k7,zE.append (uE.2 λf a5=> ?_)<|zE.keep hx.to k8.2⟩;obtain⟨e,he,rfl⟩:=xas.1 a5;exact hf e he
    ·exfalso;have⟨S,_,a⟩:=hc.ex;have A:Qq (KV P vs' KL) env0 env S w (xbx u.toArray o):=a.1;have:=hN hv (zE.left a.2)<|hE▸A;rw[hw]at this;cases this
   ·simp only[OA]at h;have⟨τ,h,a6,hm⟩:=zkA (P:=P) (cx:=⟨0,[],cx.ob⟩) (d:=o.dst) (ty:=o.type) (pos:=o.pos) (aft:=o.after) (g:=o.guard) U Y hC hX (by cases o.dst<;>rfl) h;have⟨j,L⟩:∃j,j=zn7 bz o.dst τ:=⟨_,O⟩;simp only at h;rw[<-L]at h;have hW:j.nx=τ.nx:=by rw[L];cases bz<;>first|rfl|exact OE _ _
    have hP:∀{M:Fr}{vs2:K->wN}{env w},gR P M ⟨0,[],cx.ob⟩ τ vs2 env w->gR P M ⟨0,[],cx.ob⟩ j vs2 env w:=λ{M vs2 env w} hq=>by rw[L];cases bz<;>first|exact hq|exact lZ _ hq
    unfold zkJ at h;have⟨hl,h⟩:=z7 h;rw[xac]at hl;have⟨hl,hH⟩:=hl;have hH:∀e∈j.ob,e.1<j.nx:=λe he=>by
     have:=xaR.1 hH e he;have:=xbK this;lia
    have Q:c.nx<=j.nx:=by rw[hW];exact a6
    have a7:zaj P vs n0 Γ env0 cx ⟨j.nx,vQ c.rg o.dst<|AB o.dst j.rg,[]⟩ (Iw o.dst (AB o.dst j.rg) KL):=λvs' hv=>Dq (l:=AB o.dst j.rg) hd hV vs' hv;have a8:Bd cx ⟨j.nx,vQ c.rg o.dst<|AB o.dst j.rg,[]⟩:=by
     refine⟨λe he=>wS he Nm,λe he=>xah (C.o2 e he) Q,λe he p hp=> ?_,λe he p hp=>xah (C.r2 e he p hp) Q⟩;have he:e∈vQ c.rg o.dst (AB o.dst j.rg):=he;unfold vQ at he;split at he
     ·obtain he|he:=So.1 he
      ·obtain⟨e',a9,rfl⟩:=xas.1 he;exact Hd hl e' a9 p hp
      ·exact xah (C.r1 e (xcg.1 he).1 p hp) Q
     ·exact xah (C.r1 e he p hp) Q
    have⟨Ls,y,σ',x,h1,h2,h3,h4,h5,h6,h7,h8,h9,hA,hD⟩:=Mb U Y hC hX hz (os:=os) h a7 (rq hd hn) O a8 (λq hq=>by
     obtain hq|hq:=So.1 hq
     ·exact xah (zod (n:=c.nx) (λr H=>by rw[D];exact T r H) q hq) Q
     ·obtain⟨e,he,rfl⟩:=xas.1 hq;exact hH e he) (zi1 (zka E)) (xap (by rw[D];exact h0) Q)
    have⟨g1,g2,B,g4⟩:=zfT E h4;refine⟨AB o.dst j.rg::Ls,⟨c.nx,j.nx,o8<|AB o.dst j.rg⟩::y,σ',x,by simp[h1],by simp[h2],by rw[<-h3];simp,g1,⟨⟨(by show n0<=c.nx;rw[D];exact h0),Q,λe he p hp=>⟨Hd hl e he p hp,sK he hp⟩,λe he=>hH e (by rw[B]at he;exact he),λvs' hv env F G w hc=>⟨λ_=> ?_,λhw=> ?_⟩⟩,h5⟩,h6,h7,h8,h9,hA,hD⟩
    ·rw[g2,g4,xbO]at hc;rw[B,g4];have hG:∀{vs2:K->wN},(∀p,p<n0->vs2 p=vs p)->MS vs2 cx.ob=MS vs cx.ob:=λhv=>wJ λe he=>hv _<|hz e he;have hY:gR P ⟨fr.we,fr.Se,fr.F++F,Γ++G⟩ ⟨0,[],cx.ob⟩ ⟨c.nx,dd<|az ts<|c.rg++cx.rg,gU J rs⟩ vs' env w:=by
      refine⟨⟨λe he=>zeH (λr H=>by rw[D];exact T r H) e he,C.o2,λe he p hp=> ?_,λe he=>wS he Nm⟩,?_⟩
      ·have:=(aW<|eh he).1;obtain h|h:=So.1 this
       ·exact C.r1 e h p hp
       ·exact C.r2 e h p hp
      ·show St fr.we fr.Se (MS vs' (gU J rs)++(MS vs' cx.ob++(fr.F++F))) (RS P vs' env (dd<|az ts<|c.rg++cx.rg)++([]++(Γ++G))) w;rw[hG hv,<-xad<|MS vs cx.ob];refine hc.weak λS w a=>zE.append (uE.2 λf hf=> ?_) a.2;obtain⟨e,he,rfl⟩:=xas.1 hf;have A:Qq (KV P vs' KL) env0 env S w (xbx u.toArray o):=a.1;have hZ:=(aW<|eh he).2;have h':=Mj he;rw[mz hZ,za7]at h';exact hK vs' env S w e.1 (hg hv (zE.left a.2) (hE▸A) e.1<|zis hZ) e.2.1 e.2.2 h'
     refine(hm _ vs' env w hY).mono ?_;rintro v w' ⟨vs2,a0,b0⟩;have⟨_,hI⟩:=hP b0;refine⟨vs2,a0,?_⟩;have hI:St fr.we fr.Se (MS vs2 j.ob++(MS vs2 cx.ob++(fr.F++F))) (RS P vs2 (put env o.dst v) j.rg++([]++(Γ++G))) w':=hI;rw[hG (vs2:=vs2)<|λp hp=>(a0 p<|xah hp (by show n0<=c.nx;rw[D];exact h0)).trans<|hv p hp,<-xad<|MS vs cx.ob]at hI;refine St.weak (show St fr.we fr.Se (MS vs2 j.ob++(MS vs' []++(MS vs cx.ob++fr.F++F))) _ w' from hI) λS w a=>zE.append (uE.2 λf hf=> ?_)<|zE.right a;obtain⟨e,he,rfl⟩:=xas.1 hf;have⟨t,ht,b1⟩:=zhx he;have:=K2 (zE.left a) b1;rw[ht,CT]at this;exact this
    ·exfalso;have⟨S,_,a⟩:=hc.ex;have A:Qq (KV P vs' KL) env0 env S w (xbx u.toArray o):=a.1;have:=hN hv (zE.left a.2)<|hE▸A;rw[hw]at this;cases this
def zmb(hm:P.follows .mixedOrders=wL)(J:yY P cf.tt)(L:uI P cf.tt)(M:∀s∈cf.cs,xt P s)(T:ED P cf){N:Nd}{id m:K}{l:xS Z0}{Q:Qs}{k:Sg->V R}
 (hK:∀σ',k σ'=Z r->∀b w,n8 cx env b->Yw P fr cx σ' b w->Q .normal b w) (U:(l.all λo=>jt N.n o.dst)=wL) (hc:WG l m=wL) (h:zlt cf cx id l m σ k=Z r) (hR:Yw P fr cx σ env w):Wp P N (.region id l.toArray wL) Q env w:=by
 unfold zlt at h;simp only at h;have⟨hB,vs,hu⟩:=hR;have⟨u,Y⟩:=lZ (db (zlv cf id) σ.rg) ⟨hB,hu⟩;generalize Cb σ (db (zlv cf id) σ.rg)=σ0 at h u Y;have hO:m<=X l:=(Zg hc).1
 have⟨Ls,is,σ',rs,h1,h2,A,h4,h5,hy,hz,hP,hp,hD,hQ⟩:=Mb (P:=P) (fr:=fr) (vs:=vs) (env0:=env) (Γ:=GS P vs env fr cx σ0) (n0:=σ0.nx) (KL:=[]) J L M T u.o2 h
  (λvs' hv b S w' p t ht i dv hd=>by
   have ht:b t=env t:=ht;rw[ht];have B:get cx σ0 t i=Z dv:=hd;have:=XM p t i dv B;have hE:wo P vs' dv (env t) i=wo P vs dv (env t) i:=by
    unfold wo;simp only[ga (P:=P) (vs':=vs') (vs:=vs) (d:=dv) λo C=>hv o (by
     obtain hm|hm:=L6 B
     ·exact u.r1 _ hm o C
     ·exact u.r2 _ hm o C)]
   rw[hE];exact this) (λ_ a=>wS a Nm) O ⟨λ_ a=>wS a Nm,u.o2,u.r1,u.r2⟩ (λq v=>by
    obtain⟨e,a,rfl⟩:=xas.1 v;exact u.o1 e a) (λq v=>by
    obtain⟨e,a,rfl⟩:=xas.1 v;exact⟨λj y=>(by cases y),λj y=>(by cases y),λj y=>wS y Nm⟩) (IR _)
 simp only[xbA]at A;have⟨hx,A⟩:=z7 A;have hF:=zdS h4;refine zmy (we:=fr.we) (Se:=fr.Se) (ms:=OS vs fr cx σ0.ob) (mE:=MS vs cx.ob++fr.F) m Ls is rs (σ'.rg.map (·.1)++cx.rg.map (·.1)) vs σ0.nx hm hc (by rw[h1,xav];lia) (by rw[h2,xav];lia) hx (by rw[hF]) U h5 ?_ w Y;intro g w1 vs' D hl;have hn:Rm rs=oZ (λr=>r.c.isNone) rs:=zbr rs;have hA:∀e∈Rm rs,e.1<σ'.nx:=λe a=>by
  rw[hn]at a;have⟨q,v,a⟩:=xfp.1 a;split at a
  ·cases a;exact hD q v
  ·cases a
 have⟨S1,_,hG⟩:=hl.ex;have hH:n8 cx env g:=λe0 hi=>by
  have h1:=Wg hG.1 e0.1<|So.2 (.inr<|xas.2 ⟨e0,hi,O⟩);unfold Yz at h1;have z:(KV P vs'<|AK ((l.take m).zip Ls) []).find? (λx=>E x.1 e0.1)=wF:=by
   rw[List.find?_eq_none];intro e a H;obtain⟨e1,hI,rfl⟩:=xas.1 a;have:=hz e1 hI;simp only[XL,xaR]at this;have:=this e0 hi;rw[zO H]at this;simp at this
  rw[z]at h1;exact h1
 refine CL (P:=P) (fr:=fr) J L M T hK hH (zbm U m) A ⟨⟨hA,hp.o2,λe a=>hp.r1 e<|eh a,hp.r2⟩,vs',?_⟩;show St fr.we fr.Se (MS vs' (Rm rs)++(MS vs' cx.ob++fr.F)) (RS P vs' g (dd σ'.rg)++(RS P vs' g cx.rg++fr.G)) w1;rw[hn,wJ (ob:=cx.ob) λe a=>D _<|u.o2 e a];refine hl.weak λS w2 p=> ?_;have hk:=Wg p.1;have hJ:∀t∈cx.rg.map (·.1),g t=env t:=λt ht=>by
  have h1:=hk t<|So.2 (.inr ht);unfold Yz at h1;have z:(KV P vs'<|AK ((l.take m).zip Ls) []).find? (λx=>E x.1 t)=wF:=by
   rw[List.find?_eq_none];intro e a H;obtain⟨e0,hi,rfl⟩:=xas.1 a;have:=hz e0 hi;obtain⟨e',hM,rfl⟩:=xas.1 ht;simp only[XL,xaR]at this;have:=this e' hM;rw[zO H]at this;simp at this
  rw[z]at h1;exact h1
 refine zE.append ?_<|zE.append ?_<|zE.right<|zE.right p.2
 ·refine uE.2 λf z=> ?_;obtain⟨e,a,rfl⟩:=xas.1 z;have B:get cx σ' e.1 e.2.1=Z e.2.2:=by unfold get;rw[Mj a]
  exact hy vs' D g S w2 p.2 e.1 (hk e.1<|So.2 (.inl<|xas.2 ⟨e,eh a,O⟩)) _ _ B
 ·rw[jI (vs:=vs) (env:=env) (λe a o C=>D o<|u.r2 e a o C) λe a=>hJ e.1<|xas.2 ⟨e,a,O⟩];exact zE.left<|zE.right p.2
def zez(F:P.follows .mixedOrders=wL)(q:yY P cf.tt)(u:uI P cf.tt)(v:∀s∈cf.cs,xt P s)(y:ED P cf){N:Nd}{id:wr}{l:xS Z0}{g:qR}{Q:Qs}{k:Sg->V R}
 (B:∀σ',k σ'=Z r->∀c w,n8 cx env c->Yw P fr cx σ' c w->Q .normal c w) (z:(l.all λo=>jt N.n o.dst)=wL) (h:zlM cf cx id l g σ k=Z r) (C:Yw P fr cx σ env w):Wp P N (.region id l.toArray g) Q env w:=by
 unfold zlM at h;cases g
 ·exact λa h1 T U=>wpIn_region_lit<|CL q u v y B n8.refl z h C a h1 T U
 ·simp only[OA]at h;have⟨hc,h⟩:=z7 h;generalize Sq l (X l) (X l)=m at hc h;cases Y:zpw cf id<;>rw[Y]at h
  case true=>exact zmb F q u v y B z hc h C
  simp only at h;have hi:=O4 (cf:=cf) (l.take m) [] C;generalize zjM cf cx (l.take m) [] σ=σ0 at h hi;have⟨hB,vs,hr⟩:=hi;have hA:m<=X l:=(Zg hc).1
  have⟨p,σ',hl,hj,h,hn,hu,hv,A⟩:=Sx (P:=P) (fr:=fr) (vs:=vs) (env0:=env) (σ0:=σ0) (Γ:=GS P vs env fr cx σ0) (K:=[]) q u v y h
   (λc S w' j t ht i dv hd=>by
    have ht:c t=env t:=ht;rw[ht];exact XM j t i dv hd) (λ_ d=>wS d Nm) O hB
  refine TV (we:=fr.we) (Se:=fr.Se) (ms:=OS vs fr cx σ0.ob) (Γ:=GS P vs env fr cx σ0) m p (σ'.rg.map (·.1)++cx.rg.map (·.1)) F hc (by rw[hl,xav];lia) z hj ?_ w hr;intro S w1 b hS j hh;have H:=Wg hh;have J:∀t∈cx.rg.map (·.1),b t=env t:=λt ht=>by
   have h1:=H t<|So.2 (.inr ht);unfold Yz at h1;have D:(Og ((l.take m).zip p) []).find? (λx=>E x.1 t)=wF:=by
    rw[List.find?_eq_none];intro e d hb;have:=hu e d;obtain⟨e',hy,rfl⟩:=xas.1 ht;simp only[XL,xaR]at this;have:=this e' hy;rw[zO hb]at this;simp at this
   rw[D]at h1;exact h1
  have hd:zE S (RS P vs b<|dd σ'.rg) w1:=uE.2 λf D=>by
   obtain⟨e,d,rfl⟩:=xas.1 D;have hg:get cx σ' e.1 e.2.1=Z e.2.2:=by unfold get;rw[Mj d]
   exact hn b S w1 j e.1 (H e.1<|So.2 (.inl<|xas.2 ⟨e,eh d,O⟩)) _ _ hg
  have hz:zE S (RS P vs b cx.rg) w1:=by
   rw[jI (env:=env) (λ_ _ _ _=>O) λe d=>J e.1<|xas.2 ⟨e,d,O⟩];exact zE.left<|zE.right j
  refine⟨GS P vs b fr cx ⟨σ'.nx,dd σ'.rg,σ'.ob⟩,(σ'.rg.map (·.1)++cx.rg.map (·.1)).map λt=>(t,b t),zE.append hd<|zE.append hz<|zE.right<|zE.right j,C2 _,λrest w2 hp=> ?_⟩;refine CL (P:=P) (fr:=fr) q u v y B (λe0 M=>(HQ<|So.2 (.inr<|xas.2 ⟨e0,M,O⟩)).trans<|J e0.1<|xas.2 ⟨e0,M,O⟩) (zbm z m) h ⟨⟨A.o1,A.o2,λe d=>A.r1 e<|eh d,A.r2⟩,vs,?_⟩;have e1:RS P vs (L ((σ'.rg.map (·.1)++cx.rg.map (·.1)).map λt=>(t,b t)) rest) (dd σ'.rg)=RS P vs b (dd σ'.rg):=jI (λ_ _ _ _=>O) λe d=>HQ<|So.2 (.inl<|xas.2 ⟨e,eh d,O⟩);have e2:RS P vs (L ((σ'.rg.map (·.1)++cx.rg.map (·.1)).map λt=>(t,b t)) rest) cx.rg=RS P vs b cx.rg:=jI (λ_ _ _ _=>O) λe d=>HQ<|So.2 (.inr<|xas.2 ⟨e,d,O⟩);show St _ _ (OS vs fr cx σ'.ob) (RS P vs _ (dd σ'.rg)++(RS P vs _ cx.rg++fr.G)) w2;rw[e1,e2,hv];exact hp
end
end
section
section
variable{P:jP}{cf:Cf}{fr:Fr}{cx kp σ:Sg}{vs vs':wr->wN}{env env0:y7}{w:wP}{R:Type}{r:R}
def zi3(u:wN)(r:K):V wN:=(xU u)[r]?
def tfF:(f:TF)->f.D->(K->wN)->wN->wN->FF
 |.d t,x,_,_,v=>fV t.rep x v
 |.q t,x,_,_,v=>fP t.rep x v
 |.own _ _,_,_,u,v=>gL<|v=u
 |.var _ _,_,_,u,v=>gL (v=u/\∃b,v=.pointer (Z ⟨b,0,wF⟩))
 |.mat _ _ _,_,_,u,v=>gL<|v=yC u
 |.matv _ _ _,x,_,u,v=>gL<|MW (yC u) x.2.1 x.2.2 v
 |.row j,r,U,_,v=>gL<|zi3 (U j) r=Z v
 |.view j,r,U,_,v=>gL<|MW (yC<|U j) r.1 r.2 v
 |.bo _ _ _,_,_,u,v=>gL<|v=yC u
 |.vr _ _ _ _ _ _,_,_,u,v=>gL<|v=yC u
def TB:(f:TF)->f.D->wN->N MF
 |.own t E,xs,u=>[mO t.rep E u xs]
 |.var t E,z,u=>[mP t.rep.c E u z]
 |.mat t E E1,x,u=>[tn t.rep E E1 u x.1 x.2]
 |.matv t E E1,x,u=>[tn t.rep E E1 u x.1.1 x.1.2]
 |.bo t E a,xs,u=>[mBo t.rep E a u xs]
 |.vr t E s E1 n i,x,u=>[mVr (vrP s<|xl n t i) t.rep E (Xu<|xl n t i) (uH s (xl n t i) []) s.rep E1 u x.1 x.2]
 |_,_,_=>[]
def dsF(U:K->wN)(env:y7):(l:N (K×TF))->Q2 l->K->N FF
 |[],_,_=>[]
 |[a],x,i=>[tfF a.2 x U (U i)<|env a.1]
 |a::b::r,x,i=>tfF a.2 x.1 U (U i) (env a.1)::dsF U env (b::r) x.2 (i+1)
def Qp(U:K->wN):(l:N (K×TF))->Q2 l->K->N MF
 |[],_,_=>[]
 |[a],x,i=>TB a.2 x<|U i
 |a::b::r,x,i=>TB a.2 x.1 (U i)++Qp U (b::r) x.2 (i+1)
def XI(f:TF)(dv:V Dv)(vs:K->wN)(v:wN):wN:=match f,dv with
 |.mat _ _ _,Z .nil=>UG v []
 |.mat _ _ _,Z (.mw o)=>vs o
 |.matv _ _ _,Z (.mv o _ _)=>vs o
 |.bo _ _ _,Z (.mw o)=>vs o
 |.vr _ _ _ _ _ _,Z (.mw o)=>vs o
 |_,_=>v
def U4(cx σ:Sg)(ds:N (K×TF))(vs:K->wN)(env:y7)(j:K):wN:=match ds[j]? with
 |some (t,f)=>XI f (get cx σ t 0) vs<|env t
 |none=>uT
def St.mid{we:wP}{Se:K->Prop}{A B:N MF}{m:MF}{Γ:N FF}{w:wP}(h:St we Se (A++m::B) Γ w):St we Se (m::(A++B)) Γ w:=St.perm h xcl
def Ig:∀{os l:N K},BK os l=wL->∀o∈l,lk os o=I
 |os,o::r,h,p,hp=>by
  simp only[BK,xac,xcV]at h;obtain rfl|hp:=xaf.1 hp
  ·exact h.1
  ·exact Ig h.2 p hp
def Iq{ds:N (K×TF)}{t:K}{f:TF}{k:f.D->N K->V R}(h:cT cx σ ds t f k=Z r):∃x os,k x os=Z r/\(∀j,B3 f=Z j->j<X ds)/\
 (∀(P:jP) vs env S w,(∀t,Lk P vs env S w cx σ t)->(tfF f x (U4 cx σ ds vs env) (XI f (get cx σ t 0) vs<|env t)<|env t).p S w)/\
 (∀(P:jP) vs (fr:Fr) env (A:N MF) (Γ:N FF) w (g:N K),(∀S w,zE S Γ w->Lk P vs env S w cx σ t)->(∀o∈os,lk g o=I)->St fr.we fr.Se (A++OS vs fr cx (qh σ.ob g)) Γ w->
  St fr.we fr.Se (TB f x (XI f (get cx σ t 0) vs<|env t)++(A++OS vs fr cx (qh σ.ob<|os++g))) Γ w):=by
 have M:∀{f:TF},(∀j,B3 f≠Z j)->∀j,B3 f=Z j->j<X ds:=λh j e=>wS e<|h j
 cases f with
 |d s=>
  have⟨y,h,hy⟩:=zeg h;refine⟨y,[],h,M (λj e=>by cases e),λP vs env S w hl=> ?_,λP vs fr env A Γ w g _ _ h=>h⟩
  cases a:get cx σ t 0 with
  |none=>rename_i h0;simp only[cT]at h0;rw[a]at h0;cases h0
  |some v=>exact hy P vs S w v _ a<|hl t 0 v a
 |q s=>
  simp only[cT]at h;split at h
  ·next Q x a=>
   have⟨e,h⟩:=yj h;subst e;exact⟨_,[],h,M (λj e=>by cases e),λP vs env S w hl=>hl t 0 _ a,λP vs fr env A Γ w g _ _ h=>h⟩
  ·cases h
 |own s E=>
  simp only[cT]at h;split at h
  ·next o a=>
   split at h
   ·next Q Y xs H=>
    have⟨l,h1⟩:=z7 h;have l:=zO l;subst l;have⟨e,C⟩:=yj h1;cases e;refine⟨_,[o],C,M (λj e=>by cases e),λ_ _ _ _ _ _=>by simp only[a,XI];exact O,λP vs fr env A Γ w g hl hn m=> ?_⟩;have hp:=jv (vs:=vs) (fr:=fr) (cx:=cx)<|(ji<|hn o<|H1).trans H;have B:=St.mid<|St.perm m<|xbL _ hp;have⟨S,_,F⟩:=m.ex;have hv:env t=vs o:=hl S w F 0 _ a;simp only[a,XI];show St _ _ (mO s.rep E (env t) _::(A++_)) _ _;rw[hv];exact B
   ·cases h
  ·next a=>
   refine⟨_,[],h,M (λj e=>by cases e),λ_ _ _ _ _ _=>by simp only[a,XI];exact O,λP vs fr env A Γ w g hl hn m=> ?_⟩;have⟨S,_,F⟩:=m.ex;have hv:env t=.slice wF 0 0:=hl S w F 0 _ a;simp only[a,XI];show St _ _ (mO s.rep E (env t) _::(A++_)) _ _;rw[hv];exact m.nilO
  ·cases h
 |var s E=>
  simp only[cT]at h;split at h
  ·next o s0 a=>
   split at h
   ·next Q Y z H=>
    have⟨l,h1⟩:=z7 h;have l:=zO l;subst l;have⟨e,C⟩:=yj h1;subst e;refine⟨_,[o],C,M (λj e=>by cases e),λP vs env S w hl=> ?_,λP vs fr env A Γ w g hl hn m=> ?_⟩
    ·have⟨B,b,h4⟩:=hl t 0 _ a;simp only[a,XI];exact⟨O,b,B.trans h4⟩
    ·have hp:=jv (vs:=vs) (fr:=fr) (cx:=cx)<|(ji<|hn o<|H1).trans H;have B:=St.mid<|St.perm m<|xbL _ hp;have⟨S,_,F⟩:=m.ex;have hv:env t=vs o:=(hl S w F 0 _ a).1;simp only[a,XI];show St _ _ (mP Q.rep.c E (env t) _::(A++_)) _ _;rw[hv];exact B
   ·cases h
  ·cases h
 |mat s E E1=>
  simp only[cT]at h;split at h
  ·next o a=>
   split at h
   ·next Q Y F' xss ix H=>
    have⟨l,h1⟩:=z7 h;rw[xac]at l;have hc:=zO l.1;have hd:=zO l.2;subst hc;subst hd;have⟨e,C⟩:=yj h1;cases e;refine⟨_,[o],C,M (λj e=>by cases e),λP vs env S w hl=> ?_,λP vs fr env A Γ w g hl hn m=> ?_⟩
    ·simp only[a,XI];exact hl t 0 _ a
    ·have hp:=jv (vs:=vs) (fr:=fr) (cx:=cx)<|(ji<|hn o<|H1).trans H;simp only[a,XI];have B:=St.mid<|St.perm m<|xbL _ hp;exact B
   ·cases h
  ·next a=>
   refine⟨_,[],h,M (λj e=>by cases e),λP vs env S w hl=>by simp only[a,XI];exact O,λP vs fr env A Γ w g hl hn m=> ?_⟩;have⟨S,_,F⟩:=m.ex;have hv:env t=.slice wF 0 0:=hl S w F 0 _ a;simp only[a,XI];refine Oe (u:=UG (env t) []) O ?_;show St _ _ (mO (Ya []) E (env t) []::(A++_)) _ _;rw[hv];exact m.nilO
  ·cases h
 |matv s E E1=>
  simp only[cT]at h;split at h
  ·next o lo n a=>
   split at h
   ·next Q Y F' xss ix H=>
    have⟨l,h1⟩:=z7 h;rw[xac]at l;have hc:=zO l.1;have hd:=zO l.2;subst hc;subst hd;have⟨e,C⟩:=yj h1;cases e;refine⟨_,[o],C,M (λj e=>by cases e),λP vs env S w hl=> ?_,λP vs fr env A Γ w g hl hn m=> ?_⟩
    ·simp only[a,XI];exact hl t 0 _ a
    ·have hp:=jv (vs:=vs) (fr:=fr) (cx:=cx)<|(ji<|hn o<|H1).trans H;simp only[a,XI];have B:=St.mid<|St.perm m<|xbL _ hp;exact B
   ·cases h
  ·cases h
 |row j=>
  simp only[cT]at h
  have J:∀(o G p:K),j<X ds->get cx σ t 0=Z (.rw o p)->xam o G=wL->k p []=Z r->(∀vs env,U4 cx σ ds vs env j=vs G)->∃(x:K) (os:N K),k x os=Z r/\(∀i,B3 (TF.row j)=Z i->i<X ds)/\
   (∀(P:jP) vs env S w,(∀t,Lk P vs env S w cx σ t)->(tfF (.row j) x (U4 cx σ ds vs env) (XI (.row j) (get cx σ t 0) vs<|env t)<|env t).p S w)/\
   (∀(P:jP) vs (fr:Fr) env (A:N MF) (Γ:N FF) w (g:N K),(∀S w,zE S Γ w->Lk P vs env S w cx σ t)->(∀o∈os,lk g o=I)->St fr.we fr.Se (A++OS vs fr cx (qh σ.ob g)) Γ w->
    St fr.we fr.Se (TB (.row j) x (XI (.row j) (get cx σ t 0) vs<|env t)++(A++OS vs fr cx (qh σ.ob<|os++g))) Γ w):=by
   intro o G p he a C B h4;refine⟨p,[],B,λi e=>by cases e;exact he,λP vs env S w hl=> ?_,λP vs fr env A Γ w g _ _ h=>h⟩;have h5:(xU<|vs o)[p]? =Z (env t):=hl t 0 _ a;rw[zO C]at h5;show zi3 (U4 cx σ ds vs env j) p=Z (env t);rw[h4];exact h5
  split at h
  ·next o p s _ _ _ a L=>
   split at h
   ·next G T=>
    have⟨U,h⟩:=z7 h;exact J o G p (xar.1 L).1 a U h λvs env=>by unfold U4;rw[L];simp only[T,XI]
   ·cases h
  ·next o p s _ _ _ a L=>
   split at h
   ·next G lo n T=>
    have⟨U,h⟩:=z7 h;exact J o G p (xar.1 L).1 a U h λvs env=>by unfold U4;rw[L];simp only[T,XI]
   ·cases h
  ·cases h
 |view j=>
  simp only[cT]at h
  have J:∀(o G p q:K),j<X ds->get cx σ t 0=Z (.mv o p q)->xam o G=wL->k (p,q) []=Z r->(∀vs env,U4 cx σ ds vs env j=vs G)->∃(x:K×K) (os:N K),k x os=Z r/\(∀i,B3 (TF.view j)=Z i->i<X ds)/\
   (∀(P:jP) vs env S w,(∀t,Lk P vs env S w cx σ t)->(tfF (.view j) x (U4 cx σ ds vs env) (XI (.view j) (get cx σ t 0) vs<|env t)<|env t).p S w)/\
   (∀(P:jP) vs (fr:Fr) env (A:N MF) (Γ:N FF) w (g:N K),(∀S w,zE S Γ w->Lk P vs env S w cx σ t)->(∀o∈os,lk g o=I)->St fr.we fr.Se (A++OS vs fr cx (qh σ.ob g)) Γ w->
    St fr.we fr.Se (TB (.view j) x (XI (.view j) (get cx σ t 0) vs<|env t)++(A++OS vs fr cx (qh σ.ob<|os++g))) Γ w):=by
   intro o G p q he a C B h4;refine⟨(p,q),[],B,λi e=>by cases e;exact he,λP vs env S w hl=> ?_,λP vs fr env A Γ w g _ _ h=>h⟩;have h5:MW (yC<|vs o) p q (env t):=hl t 0 _ a;rw[zO C]at h5;show MW (yC<|U4 cx σ ds vs env j) p q (env t);rw[h4];exact h5
  split at h
  ·next o p q s _ _ _ a L=>
   split at h
   ·next G T=>
    have⟨U,h⟩:=z7 h;exact J o G p q (xar.1 L).1 a U h λvs env=>by unfold U4;rw[L];simp only[T,XI]
   ·cases h
  ·next o p q s _ _ _ a L=>
   split at h
   ·next G lo n T=>
    have⟨U,h⟩:=z7 h;exact J o G p q (xar.1 L).1 a U h λvs env=>by unfold U4;rw[L];simp only[T,XI]
   ·cases h
  ·cases h
 |bo s E E0=>
  simp only[cT]at h;split at h
  ·next o a=>
   split at h
   ·next Q Y F' xs H=>
    have⟨l,h1⟩:=z7 h;rw[xac]at l;have hc:=zO l.1;have hd:=zO l.2;subst hc;subst hd;have⟨e,C⟩:=yj h1;cases e;refine⟨_,[o],C,M (λj e=>by cases e),λP vs env S w hl=> ?_,λP vs fr env A Γ w g hl hn m=> ?_⟩
    ·simp only[a,XI];exact hl t 0 _ a
    ·have hp:=jv (vs:=vs) (fr:=fr) (cx:=cx)<|(ji<|hn o<|H1).trans H;simp only[a,XI];have B:=St.mid<|St.perm m<|xbL _ hp;exact B
   ·cases h
  ·cases h
 |vr s E s2 E1 n i=>
  simp only[cT]at h;split at h
  ·next o a=>
   split at h
   ·next Q Y a0 F' n' i' z xs H=>
    have⟨l,h1⟩:=z7 h;rw[xac,xac,xac]at l;have⟨e1,C⟩:=yj h1;have⟨e2,B⟩:=yj C;have hc:=zO l.1;have hd:=zO l.2.1;have hf:=zO l.2.2.1;have hi:=zO l.2.2.2;subst hc;subst hd;subst hf;subst hi;subst e1;cases e2;refine⟨_,[o],B,M (λj e=>by cases e),λP vs env S w hl=> ?_,λP vs fr env A Γ w g hl hn m=> ?_⟩
    ·simp only[a,XI];exact hl t 0 _ a
    ·have hp:=jv (vs:=vs) (fr:=fr) (cx:=cx)<|(ji<|hn o<|H1).trans H;simp only[a,XI];have B:=St.mid<|St.perm m<|xbL _ hp;exact B
   ·cases h
  ·cases h
def Bn{ds:N (K×TF)}{i:K}{t:K}{f:TF}{env:y7}(h:ds[i]? =Z (t,f)):U4 cx σ ds vs env i=XI f (get cx σ t 0) vs (env t):=by unfold U4;rw[h]
def zkP{ds:N (K×TF)}:∀{l:N (K×TF)}{i:K}{k:Q2 l->N K->V R},(∀j a,l[j]? =Z a->ds[i+j]? =Z a)->gat cx σ ds l k=Z r->∃x os,k x os=Z r/\(∀a∈l,∀j,B3 a.2=Z j->j<X ds)/\
 (∀(P:jP) vs env S w,(∀t,Lk P vs env S w cx σ t)->zE S (dsF (U4 cx σ ds vs env) env l x i) w)/\
 (∀(P:jP) vs (fr:Fr) env (Γ:N FF) w,(∀S w,zE S Γ w->∀t,Lk P vs env S w cx σ t)->St fr.we fr.Se (OS vs fr cx σ.ob) Γ w->St fr.we fr.Se (Qp (U4 cx σ ds vs env) l x i++OS vs fr cx (qh σ.ob os)) Γ w)
 |[],i,k,_,h=>⟨(),[],h,λ_ h=>wS h Nm,λ_ _ _ _ _ _=>wR,λ_ _ _ _ _ _ _ h=>h⟩
 |[a],i,k,hd,h=>by
  have⟨x,os,h1,h0,g,m⟩:=Iq (h:cT cx σ ds a.1 a.2 k=Z r);have f:ds[i]? =Z (a.1,a.2):=hd 0 a O;refine⟨x,os,h1,λb q j e=> ?_,λP vs env S w hl=>⟨?_,wR⟩,λP vs fr env Γ w hl n=> ?_⟩
  ·obtain rfl:=xag.1 q;exact h0 j e
  ·rw[Bn f];exact g P vs env S w hl
  ·have:=m P vs fr env [] Γ w [] (λS w d=>hl S w d a.1) (λ_ _=>O) n;rw[xbO]at this;show St _ _ (TB a.2 x (U4 cx σ ds vs env i)++_) _ _;rw[Bn f];exact this
 |a::b::l,i,k,hd,h=>by
  have⟨x,o,h1,h0,g,m⟩:=Iq (h:cT cx σ ds a.1 a.2 _=Z r);have⟨y,os,p,s,u,v⟩:=zkP (l:=b::l) (i:=i+1) (λj c z=>by
   have:=hd (j+1) c (by simpa using z);rw[(W:i+1+j=i+(j+1))];exact this) h1
  have⟨hn,p⟩:=z7 p;have f:ds[i]? =Z (a.1,a.2):=hd 0 a O;refine⟨(x,y),o++os,p,λc hc j e=> ?_,λP vs env S w hl=>⟨?_,u P vs env S w hl⟩,λP vs fr env Γ w hl n=> ?_⟩
  ·obtain rfl|hc:=xaf.1 hc
   ·exact h0 j e
   ·exact s c hc j e
  ·rw[Bn f];exact g P vs env S w hl
  ·have:=m P vs fr env (Qp (U4 cx σ ds vs env) (b::l) y<|i+1) Γ w os (λS w d=>hl S w d a.1) (Ig hn)<|v P vs fr env Γ w hl n;show St _ _ ((TB a.2 x (U4 cx σ ds vs env i)++Qp (U4 cx σ ds vs env) (b::l) y (i+1))++_) _ _;rw[Bn f,xad];exact this
def nvs(vs:K->wN)(U:K->wN)(n:K):K->wN:=λk=>if k<n then vs k else U (k-n)
def TG{n0:K}:∀{l:N (K×TF)}{x:Q2 l}{o:K},∀e∈(iU n0 l x o).2,o<=e.1/\e.1<o+X l
 |[],_,_,e,a=>wS a Nm
 |[(t,f)],x,o,e,a=>by
  cases f<;>simp only[iU,AF]at a<;>first|exact wS a Nm|(obtain rfl:=xag.1 a;exact⟨IR _,xbR _⟩)
 |(t,f)::b::l,x,o,e,a=>by
  have c:∀e∈(iU n0 (b::l) x.2<|o+1).2,o<=e.1/\e.1<o+X ((t,f)::b::l):=λe a=>by
   have:=TG e a;simp only[xax]at this⊢;lia
  cases f<;>simp only[iU,AF]at a<;>first
   |exact c e a
   |exact(xaf.1 a).elim (λa=>by subst a;exact⟨IR _,by simp only[xax];lia⟩)<|λa=>c e a
def PY{n0 o p n:K}{f:TF}{x:f.D}(hn:∀j,B3 f=Z j->j<n)(h:vt (AF n0 o f x).1=Z p):p=o\/p<n0+n:=by
 cases f<;>simp only[AF,vt,xat,Ww]at h
 ·exact .inl h.symm
 ·exact .inl h.symm
 ·exact .inl h.symm
 ·exact .inl h.symm
 ·next j=>have:=hn j O;exact .inr W
 ·next j=>have:=hn j O;exact .inr W
 ·exact .inl h.symm
 ·exact .inl h.symm
def LG{n0 n:K}:∀{l:N (K×TF)}{x:Q2 l}{o:K},(∀a∈l,∀j,B3 a.2=Z j->j<n)->∀e∈(iU n0 l x o).1,∀p,vt e.2.2=Z p->p<o+X l\/p<n0+n
 |[],_,_,_,e,he=>wS he Nm
 |[(t,f)],x,o,hn,e,he=>by
  intro p hp;obtain rfl:=xag.1 (show e∈[(t,0,(AF n0 o f x).1)]from he);rcases PY (hn _<|H1) hp with rfl|h
  ·exact .inl<|xbR _
  ·exact .inr h
 |(t,f)::b::l,x,o,hn,e,he=>by
  intro p hp;have he:e=(t,0,(AF n0 o f x.1).1)\/e∈(iU n0 (b::l) x.2<|o+1).1:=xaf.1 he;obtain rfl|he:=he
  ·rcases PY (hn _<|H1) hp with rfl|h
   ·exact .inl<|by simp only[xax];lia
   ·exact .inr h
  ·rcases LG (λa c=>hn a<|UV _ c) e he p hp with h|h
   ·simp only[xax]at h⊢;exact .inl W
   ·exact .inr h
def LX{U:K->wN}{n0:K}:∀{l:N (K×TF)}{x:Q2 l}{o i:K},(∀j,j<X l->vs (o+j)=U (i+j))->MS vs (iU n0 l x o).2=Qp U l x i
 |[],_,_,_,_=>rfl
 |[(t,f)],x,o,i,h=>by
  have h0:vs o=U i:=h 0 i7;cases f<;>simp only[iU,AF,MS,xbS,xex,JZ,Qp,TB,h0]<;>rfl
 |(t,f)::b::l,x,o,i,h=>by
  have h0:vs o=U i:=h 0 i7;have a:MS vs (iU n0 (b::l) x.2<|o+1).2=Qp U (b::l) x.2 (i+1):=LX λj c=>by
   have:=h (j+1) (by simpa using c);rw[(W:o+1+j=o+(j+1)),(W:i+1+j=i+(j+1))];exact this
  unfold MS at a;cases f<;>simp only[iU,AF,MS,xbS,JZ,Qp,TB,h0,a,xbA,xfI]<;>rfl
def GD{U:K->wN}{n0 n:K}{f:TF}{x:f.D}{o t:K}{u:wN}{S:K->Prop}(hv:vs o=u)(hn:∀j,B3 f=Z j->j<n)(a:∀j,j<n->vs (n0+j)=U j)(h:(tfF f x U u<|env t).p S w):(wo P vs (AF n0 o f x).1 (env t) 0).p S w:=by
 subst hv;cases f
 ·exact h
 ·exact h
 ·exact h
 ·have⟨h1,b,c⟩:=h;exact⟨h1,b,h1.symm.trans c⟩
 ·exact h
 ·exact h
 ·next j=>
  have h:zi3 (U j) x=Z (env t):=h;show zi3 (vs<|n0+j) x=Z (env t);rw[a j<|hn j O];exact h
 ·next j=>
  have h:MW (yC<|U j) x.1 x.2 (env t):=h;show MW (yC<|vs<|n0+j) x.1 x.2 (env t);rw[a j<|hn j O];exact h
 ·exact h
 ·exact h
def zad{U:K->wN}{n0 n:K}(d:∀j,j<n->vs (n0+j)=U j):∀{l:N (K×TF)}{x:Q2 l}{o i:K}{S:K->Prop},(∀a∈l,∀j,B3 a.2=Z j->j<n)->(∀j,j<X l->vs (o+j)=U (i+j))->zE S (dsF U env l x i) w->zE S (RS P vs env (iU n0 l x o).1) w
 |[],_,_,_,_,_,_,_=>trivial
 |[(t,f)],x,o,i,S,hn,h,c=>⟨GD (h 0 i7) (hn _<|H1) d c.1,wR⟩
 |(t,f)::b::l,x,o,i,S,hn,h,c=>⟨GD (h 0 i7) (hn _<|H1) d c.1,zad d (λa e=>hn a<|UV _ e) (λj g=>by
  have:=h (j+1) (by simpa using g);rw[(W:o+1+j=o+(j+1)),(W:i+1+j=i+(j+1))];exact this) c.2⟩
def zf3:∀{ns:N (K×NF)},ziq cx σ ns=wL->∀t f,(t,f)∈ns->(match f,get cx σ t 0 with
 |.kb b,Z (.kb c)=>b==c
 |.nil,Z .nil=>wL
 |.ci x,Z (.d .i y)=>eqI x y
 |.cu x,Z (.d .u y)=>eqU x y
 |.al s,Z (.ow o)=>(match get cx σ s 0 with
  |some (.ow a)=>E o a
  |_=>I)
 |.al s,Z (.vs o _)=>(match get cx σ s 0 with
  |some (.vs a _)=>E o a
  |_=>I)
 |.al s,Z (.mw o)=>(match get cx σ s 0 with
  |some (.mw a)=>E o a
  |_=>I)
 |.bm s f,Z (.bm f' o _)=>(match get cx σ s 0 with
  |some (.vs a _)=>E o a && E f f'
  |_=>I)
 |_,_=>I)=wL
 |(g,f')::r,h,t,f,hm=>by
  unfold ziq at h;rw[xac]at h;obtain e|hm:=xaf.1 hm
  ·cases e;exact h.1
  ·exact zf3 h.2 t f hm
def zaC{rg:N (K×K×Dv)}{S:K->Prop}(a:zE S (RS P vs env rg) w):∀{ns:N (K×NF)},(∀t f,(t,f)∈ns->match f with
 |.kb b=>env t=.bool b
 |.nil=>env t=.slice wF 0 0
 |.ci x=>(fV eI x<|env t).p S w
 |.cu x=>(fV eU x<|env t).p S w
 |.al s=>env t=env s
 |.bm s f=>env t=.func (.func f) #[env s] #[])->zE S (RS P vs env (IE rg ns)) w
 |[],_=>a
 |(t,f)::r,h=>by
  have c:=zaC a (ns:=r) λt f d=>h t f<|UV _ d;have h0:=h t f<|H1;unfold IE;show zE S (RS P vs env<|_++_) w;rw[show RS P vs env (_++IE rg r)=RS P vs env _++RS P vs env (IE rg r)from xaY];refine zE.append ?_ c;cases f
  ·exact⟨h0,wR⟩
  ·exact⟨h0,wR⟩
  ·exact⟨h0,wR⟩
  ·exact⟨h0,wR⟩
  ·next s=>
   simp only;split
   ·next v hv=>
    have:=K2 a<|gb hv;have h0:env t=env s:=h0;refine⟨?_,wR⟩;show(wo P vs v (env t) 0).p S w;rw[h0];exact this
   ·trivial
  ·next s f=>
   simp only;split
   ·next o q hv=>
    have⟨h1,e⟩:=K2 a<|gb hv;have h0:env t=.func (.func f) #[env s] #[]:=h0;exact⟨⟨by rw[h0,h1],e⟩,wR⟩
   ·trivial
def NG{rg:N (K×K×Dv)}{n:K}(a:∀e∈rg,∀p,vt e.2.2=Z p->p<n):∀{ns:N (K×NF)},∀e∈IE rg ns,∀p,vt e.2.2=Z p->p<n
 |[],e,he=>a e he
 |(t,f)::r,e,he=>by
  intro p hp;unfold IE at he;obtain he|he:=So.1 he
  ·cases f
   ·obtain rfl:=xag.1 he;cases hp
   ·obtain rfl:=xag.1 he;cases hp
   ·obtain rfl:=xag.1 he;cases hp
   ·obtain rfl:=xag.1 he;cases hp
   ·simp only at he;split at he
    ·next v hv=>
     obtain rfl:=xag.1 he;exact a _ (gb hv) p hp
    ·exact wS he Nm
   ·simp only at he;split at he
    ·next o q hv=>
     obtain rfl:=xag.1 he;cases hp;exact a _ (gb hv) _ O
    ·exact wS he Nm
  ·exact NG a e he p hp
def u6:∀(l:N (K×TF)) {σ:Sg},Yw P fr cx σ env w->Yw P fr cx (zdU cx σ l) env w
 |[],_,h=>h
 |(t,.d _)::r,_,h=>u6 r<|Lb _ h
 |(t,.q _)::r,_,h=>u6 r h
 |(t,.own _ _)::r,_,h=>u6 r h
 |(t,.var _ _)::r,_,h=>u6 r h
 |(t,.mat _ _ _)::r,_,h=>u6 r h
 |(t,.matv _ _ _)::r,_,h=>u6 r h
 |(t,.row _)::r,_,h=>u6 r h
 |(t,.view _)::r,_,h=>u6 r h
 |(t,.bo _ _ _)::r,_,h=>u6 r h
 |(t,.vr _ _ _ _ _ _)::r,_,h=>u6 r h
def St.dropM{we:wP}{Se:K->Prop}{Γ:N FF}{w:wP}:∀{A B C:N MF},St we Se (A++(B++C)) Γ w->St we Se (A++C) Γ w
 |A,[],C,h=>h
 |A,b::B,C,h=>St.dropM (B:=B)<|St.drop (i:=0)<|St.mid h
end
end
section
section
variable{P:jP}{cf:Cf}{fr:Fr}{cx kp σ:Sg}{vs vs':wr->wN}{env env0:y7}{w:wP}{R:Type}{r:R}{N:Nd}{Q:Qs}
def fh{a b:xS (K×K×Dv)}:RS P vs env (a++b)=RS P vs env a++RS P vs env b:=xaY
def tS{sh:Sh}{k:Q2 sh.ds->V R}(h:sE (kJ cx kp) sh σ k=Z r)(y:Bd cx kp):∃x,k x=Z r/\∀(fr:Fr) env w,Yw P fr (kJ cx kp) σ env w->Yw P fr cx (Ua sh x kp) env w:=by
 unfold sE at h;simp only at h;have⟨ht,h⟩:=z7 h;have⟨x,os,h1,h0,K,u⟩:=zkP (ds:=sh.ds) (i:=0) (λj a C=>by rw[xaK];exact C) h;refine⟨x,h1,λfr env w L=> ?_⟩;have M:=u6 sh.ds L;generalize zdU (kJ cx kp) σ sh.ds=g at*
 have⟨hB,vs,hv⟩:=M;have hi:=u P vs fr env (GS P vs env fr (kJ cx kp) g) w (λS w q=>XM q) hv;have T:=St.dropM hi;generalize Y:U4 (kJ cx kp) g sh.ds vs env=U at*
 have hd:∀o,o<kp.nx->nvs vs U kp.nx o=vs o:=λo ho=>iq ho;have D:∀j,j<X sh.ds->nvs vs U kp.nx (kp.nx+j)=U (0+j):=λj C=>by
  unfold nvs;rw[zB,(W:kp.nx+j-kp.nx=j),xaK]
 have hz:=λe he=>TG (n0:=kp.nx) (l:=sh.ds) (x:=x) (o:=kp.nx) e he;have E:∀e∈(iU kp.nx sh.ds x kp.nx).1,∀p,vt e.2.2=Z p->p<kp.nx+X sh.ds:=λe he p hp=>by
  rcases LG (n0:=kp.nx) (n:=X sh.ds) (l:=sh.ds) (x:=x) (o:=kp.nx) h0 e he p hp with h|h<;>exact h
 refine⟨⟨λe he=> ?_,λe he=> ?_,λe he p hp=> ?_,λe he p hp=> ?_⟩,nvs vs U kp.nx,?_⟩
 ·obtain he|he:=So.1 he
  ·exact(hz e he).2
  ·exact xah (y.o1 e he)<|xbM _ _
 ·exact xah (y.o2 e he)<|xbM _ _
 ·obtain he|he:=So.1 he
  ·obtain he|he:=So.1 he
   ·exact NG (λe he p hp=>E e he p hp) e he p hp
   ·exact E e he p hp
  ·exact xah (y.r1 e he p hp)<|xbM _ _
 ·exact xah (y.r2 e he p hp)<|xbM _ _
 ·have e1:OS (nvs vs U kp.nx) fr cx ((iU kp.nx sh.ds x kp.nx).2++kp.ob)=Qp U sh.ds x 0++(MS vs (kp.ob++cx.ob)++fr.F):=by
   show MS _ (_++kp.ob)++(MS _ cx.ob++_)=_
   rw[show MS (nvs vs U kp.nx) ((iU kp.nx sh.ds x kp.nx).2++kp.ob)=MS _ _++MS _ _ from xaY,LX D,wJ λe he=>hd _<|y.o1 e he,wJ (ob:=cx.ob) λe he=>hd _<|y.o2 e he,
    show MS vs (kp.ob++cx.ob)=MS _ _++MS _ _ from xaY,xad,xad]
  show St _ _ (OS (nvs vs U kp.nx) fr cx<|(iU kp.nx sh.ds x kp.nx).2++kp.ob) _ _;rw[e1];refine T.weak λS w q=> ?_;have hl:∀t,Lk P vs env S w (kJ cx kp) g t:=XM q;have H:zE S (RS P (nvs vs U kp.nx) env (iU kp.nx sh.ds x kp.nx).1) w:=zad (U:=U) (n:=X sh.ds) (λj C=>by rw[D j C,xaK]) h0 D (by rw[<-Y];exact K P vs env S w hl);have J:zE S (RS P vs env kp.rg++RS P vs env cx.rg) w:=by
   have:=zE.left<|zE.right q;rwa[show RS P vs env (kJ cx kp).rg=RS P vs env kp.rg++RS P vs env cx.rg from xaY]at this
  have hn:=zaC H (ns:=sh.ns) λt f hm=>by
   have d:=zf3 ht t f hm;cases f
   ·split at d<;>simp_all
    next b c u=>exact hl t 0 _ u
   ·split at d<;>simp_all
    next u=>exact hl t 0 _ u
   ·split at d<;>simp_all
    next a b u=>
    have:=hl t 0 _ u;simp only[eqI,Ul]at d;rw[d];exact this
   ·split at d<;>simp_all
    next a b u=>
    have:=hl t 0 _ u;simp only[eqU,Ul]at d;rw[d];exact this
   ·next s=>
    cases hc:get (kJ cx kp) g t 0 with
    |none=>rw[hc]at d;cases d
    |some v=>
     rw[hc]at d;cases v<;>simp only[xao]at d
     ·next o=>
      cases m:get (kJ cx kp) g s 0 with
      |none=>rw[m]at d;cases d
      |some z=>
       rw[m]at d;cases z<;>simp only[xao]at d;have A:env t=vs o:=hl t 0 _ hc;have B:=hl s 0 _ m;have:=zO d;subst this;exact A.trans (show env s=_ from B).symm
     ·next o _=>
      cases m:get (kJ cx kp) g s 0 with
      |none=>rw[m]at d;cases d
      |some z=>
       rw[m]at d;cases z<;>simp only[xao]at d;have A:env t=vs o:=(hl t 0 _ hc).1;have B:=(hl s 0 _ m).1;have:=zO d;subst this;exact A.trans B.symm
     ·next o=>
      cases m:get (kJ cx kp) g s 0 with
      |none=>rw[m]at d;cases d
      |some z=>
       rw[m]at d;cases z<;>simp only[xao]at d;have A:env t=yC (vs o):=hl t 0 _ hc;have B:=hl s 0 _ m;have:=zO d;subst this;exact A.trans (show env s=_ from B).symm
   ·next s f=>
    cases hc:get (kJ cx kp) g t 0 with
    |none=>rw[hc]at d;cases d
    |some v=>
     rw[hc]at d;cases v<;>simp only[xao]at d
     next f' o _=>
     cases m:get (kJ cx kp) g s 0 with
     |none=>rw[m]at d;cases d
     |some z=>
      rw[m]at d;cases z<;>simp only[xao]at d;rw[xac]at d;have A:=(hl t 0 _ hc).1;have B:=(hl s 0 _ m).1;have e1:=zO d.1;have e2:=zO d.2;subst e1;subst e2;show env t=.func (.func f) #[env s] #[];rw[B];exact A
  show zE S (RS P _ env ((IE (iU kp.nx sh.ds x kp.nx).1 sh.ns++(iU kp.nx sh.ds x kp.nx).1)++kp.rg)++(RS P _ env cx.rg++fr.G)) w;refine zE.append ?_<|zE.append ?_<|zE.right<|zE.right q
  ·rw[fh,fh];refine zE.append (zE.append hn H) ?_;rw[jI (λe he p hp=>hd _<|y.r1 e he p hp)<|λ_ _=>O];exact zE.left J
  ·rw[jI (λe he p hp=>hd _<|y.r2 e he p hp)<|λ_ _=>O];exact zE.right J
def zb0{a t:Tg}(h:zc9 a t=wL):a=t:=by
 cases a<;>cases t<;>first|rfl|cases h|skip
 rw[zO (show E _ _=wL from h)]
def zau{t:Tg}(e:Bd cx kp):∀{l:xS (Tg×Sh)}{k:SmD l->V R},zgR (kJ cx kp) σ t l k=Z r->∃(y:SmD l) (c:Sg),k y=Z r/\(∀{f:Type} (K:Tg->Sg->V f),P1 kp K l y=K t c)/\∀(fr:Fr) env w,Yw P fr (kJ cx kp) σ env w->Yw P fr cx c env w
 |[],k,h=>by cases h
 |[a],k,h=>by
  have⟨ht,h⟩:=z7 h;have⟨x,h1,d⟩:=tS (P:=P) h e;have:=zb0 ht;subst this;exact⟨x,_,h1,λK=>O,d⟩
 |a::b::l,k,h=>by
  unfold zgR at h;cases ht:zc9 a.1 t<;>rw[ht]at h
  ·have⟨y,c,h1,d,g⟩:=zau e (l:=b::l) h;exact⟨.inr y,c,h1,λK=>d K,g⟩
  ·have⟨x,h1,d⟩:=tS (P:=P) h e;have:=zb0 ht;subst this;exact⟨.inl x,_,h1,λK=>O,d⟩
abbrev Qd:=ce->xS K->y7->wP->Prop
def vJ(D:K):MF where
 blk k:=k=D
 p _ w:=w.heap[D]? =Z (.deferred<|some [])
 keep h _ hb:=(hb D O).trans h
 sub h _:=h
 lt h k a:=by subst a;exact(xbk.1 h).1
def mkD(D:K):Deferred:={target:=.collected D,args:= #[]}
def Nd.wd(N:Nd)(Ds:xS K):Nd:=⟨N.n,Ds.map mkD,N.rd⟩
def Fr.wd(fr:Fr)(Ds:xS K):Fr:=⟨fr.we,fr.Se,Ds.map vJ++fr.F,fr.G⟩
def zkG(N:Nd)(Q:Qd):ce->Kw->wP->Prop:=λe a w=>a.tmps.size=N.n/\∃Ds:xS K,a.defers=Ds.map mkD/\Q e Ds (yJ a) w
def LV(P:jP)(N:Nd)(c:Wr)(Q:Qd)(Ds:xS K)(env:y7)(w:wP):Prop:=
 ∀a:Kw,a.tmps.size=N.n->a.defers=Ds.map mkD->yJ a=env->c.wpIn N.F 0 P (zkG N Q) a w
section
variable{N:Nd}{Q Q':Qd}{Ds:xS wr}
def zlN{c:Wr}(h:Wp P (N.wd Ds) c (λe env w=>Q e Ds env w) env w):LV P N c Q Ds env w:=λa h1 b d=>V0 (h a h1 b d) λe g w' ⟨q1,q2,f⟩=>⟨q1,Ds,q2,f⟩
def zkr(K:xS wr->y7->wP->Prop)(Q:Qd):Qd
 |.normal,Ds,env,w=>K Ds env w
 |e,Ds,env,w=>Q e Ds env w
def Ia(id:K)(Q:Qd):Qd
 |.exit a,Ds,env,w=>bif E a id then Q .normal Ds env w else Q (.exit a) Ds env w
 |e,Ds,env,w=>Q e Ds env w
def zpx(Q:Qd):Qd
 |.goto _,_,_,_=>QR
 |e,Ds,env,w=>Q e Ds env w
def Be{x y:Wr}(h:LV P N x (zkr (LV P N y Q) Q) Ds env w):LV P N (.seq x y) Q Ds env w:=by
 intro a h1 d f;refine wpIn_seq<|V0 (h a h1 d f) ?_;intro e g w' ⟨q1,b,q2,c⟩;cases e<;>first|exact c g q1 q2 O|exact⟨q1,b,q2,c⟩
def zd0{c:Wr}(h:LV P N c Q Ds env w)(d:∀e Ds env w,Q e Ds env w->Q' e Ds env w):LV P N c Q' Ds env w:=
 λa h1 f g=>V0 (h a h1 f g) λe j w' ⟨q1,b,q2,i⟩=>⟨q1,b,q2,d e _ _ _ i⟩
def Gy{id:K}{c:Wr}(h:LV P N c (Ia id Q) Ds env w):LV P N (.block id c) Q Ds env w:=by
 intro a h1 g j;refine wpIn_block<|V0 (h a h1 g j) ?_;intro e k w' ⟨q1,b,q2,d⟩
 cases e with
 |exit i=>
  simp only[Ia]at d;simp only[Exit.inBlock];cases f:E i id
  ·rw[f]at d;rw[ir<|λe=>by subst e;simp at f];exact⟨q1,b,q2,d⟩
  ·rw[f]at d;rw[iq<|xcL f];exact⟨q1,b,q2,d⟩
 |_=>exact⟨q1,b,q2,d⟩
def zcr{c:Wr}(h:LV P N c (zpx Q) Ds env w):LV P N (.scope c) Q Ds env w:=by
 intro a h1 f g;refine S6<|V0 (h a h1 f g) ?_;intro e i w' ⟨q1,b,q2,d⟩;cases e<;>first|exact⟨q1,b,q2,d⟩|exact d.elim
def OB{c:Wr}{G:Type}(q:G->xS K->y7->wP->Prop)(j:G->K)(d:G)(f:q d Ds env w)(round:∀g Ds env w,q g Ds env w->LV P N c (zkr (λb h w'=>∃i,q i b h w'/\j i<j g) Q) Ds env w):LV P N (.loop c) Q Ds env w:=by
 intro a h1 k m;refine TT (λg a w=>a.tmps.size=N.n/\∃Ds:xS K,a.defers=Ds.map mkD/\q g Ds (yJ a) w) j d ⟨h1,Ds,k,m▸f⟩ ?_;intro g a w ⟨h1,Ds,k,o⟩;refine V0 (round g Ds (yJ a) w o a h1 k O) ?_;intro e p w' ⟨q1,b,q2,l⟩
 cases e with
 |normal=>have⟨i,o1,o2⟩:=l;exact⟨i,⟨q1,b,q2,o1⟩,o2⟩
 |_=>exact⟨q1,b,q2,l⟩
def CG{c:wW}{x y:Wr}(hc:ev env c=.bool wL)(h:LV P N x Q Ds env w):LV P N (.cond c x y) Q Ds env w:=
 λa h1 d b=>wpIn_cond_true (by rw[fZ,b];exact hc)<|h a h1 d b
def DY{c:wW}{x y:Wr}(hc:ev env c=.bool I)(h:LV P N y Q Ds env w):LV P N (.cond c x y) Q Ds env w:=
 λa h1 d b=>wpIn_cond_false (by rw[fZ,b];exact hc)<|h a h1 d b
end
def Hv{α:Type _}(p:α->qR):∀l:xS α,l.Perm ((l.filter λa=> !p a)++l.filter p)
 |[]=>xdD _
 |a::l=>by
  have b:=Hv p l;rw[xfP,xfP];cases hp:p a
  ·simpa using b.cons a
  ·simp only[xeD,xao,uS,uP];exact(b.cons a).trans xcl.symm
def DA{ag ro:xS K}(h:Yw P fr cx σ env w):Bd cx (keep σ ag ro)/\Yw P fr (kJ cx<|keep σ ag ro) (rest σ ag ro) env w:=by
 have⟨a,vs,c⟩:=h;have b:Bd cx (keep σ ag ro):=⟨λe he=>a.o1 e (xcg.1 he).1,a.o2,λe he=>a.r1 e (xcg.1 he).1,a.r2⟩;refine⟨b,⟨λe he=>a.o1 e (xcg.1 he).1,λe he=> ?_,λe he=>a.r1 e (xcg.1 he).1,λe he=> ?_⟩,vs,?_⟩
 ·obtain he|he:=So.1 he
  ·exact b.o1 e he
  ·exact b.o2 e he
 ·obtain he|he:=So.1 he
  ·exact b.r1 e he
  ·exact b.r2 e he
 ·have hp:(OS vs fr cx σ.ob).Perm (OS vs fr (kJ cx<|keep σ ag ro) (rest σ ag ro).ob):=by
   show List.Perm (MS vs σ.ob++(MS vs cx.ob++fr.F)) (MS vs (rest σ ag ro).ob++(MS vs ((keep σ ag ro).ob++cx.ob)++fr.F));have e:MS vs (rest σ ag ro).ob++(MS vs ((keep σ ag ro).ob++cx.ob)++fr.F)=(MS vs (rest σ ag ro).ob++MS vs (keep σ ag ro).ob)++(MS vs cx.ob++fr.F):=by
    rw[show MS vs ((keep σ ag ro).ob++cx.ob)=MS _ _++MS _ _ from xaY];simp only[xad]
   rw[e];refine xfx _ ?_;have:=(Hv (λe:K×Od=>lk (Gf σ ro) e.1) σ.ob).map<|JZ vs;rw[xaY]at this;exact this
  refine(St.perm c hp).sub' ?_;intro f hf;obtain hf|hf:=So.1 hf
  ·obtain⟨e,he,rfl⟩:=xas.1 hf;exact So.2 (.inl<|xas.2 ⟨e,(xcg.1 he).1,O⟩)
  ·obtain hf|hf:=So.1 hf
   ·obtain⟨e,he,rfl⟩:=xas.1 hf;obtain he|he:=So.1 he
    ·exact So.2 (.inl<|xas.2 ⟨e,(xcg.1 he).1,O⟩)
    ·exact So.2 (.inr<|So.2 (.inl<|xas.2 ⟨e,he,O⟩))
   ·exact So.2 (.inr<|So.2 (.inr hf))
end
end
section
def cr(l:K)(r:cS):MF where
 blk k:=k=l
 p _ w:=w.heap[l]? =Z (.loop r)
 keep h _ hb:=(hb l O).trans h
 sub h _:=h
 lt h k a:=by subst a;exact(xbk.1 h).1
def mFF(Γ:N FF):MF where
 blk _:=QR
 p S w:=zE S Γ w
 keep h k _:=zE.keep k h
 sub h k:=zE.sub k h
 lt _ _ a:=a.elim
section
variable{we:wP}{Se:wr->Prop}{ms:xS MF}{Γ Δ:xS FF}{w:wP}
def St.ffIn(h:St we Se ms (Δ++Γ) w):St we Se (mFF Δ::ms) Γ w:=by
 have⟨h1,c,d,S,e,f,g,i,b⟩:=h;refine⟨h1,c,⟨λk a=>a.elim,d⟩,S,e,f,λm hm k a=> ?_,⟨zE.left b,i⟩,zE.right b⟩;obtain rfl|hm:=xaf.1 hm
 ·exact a.elim
 ·exact g m hm k a
def St.ffOut(h:St we Se (mFF Δ::ms) Γ w):St we Se ms (Δ++Γ) w:=by
 have⟨h1,b,c,S,d,e,f,a,g⟩:=h;exact⟨h1,b,c.2,S,d,e,λm i=>f m<|UV _ i,a.2,zE.append a.1 g⟩
def St.putObj{l:K}{m m':MF}{o:Obj}(h:St we Se (m::ms) Γ w)(b:∀k,m.blk k↔k=l)(j:∀k,m'.blk k->k=l)(hp:∀S w',w'.heap[l]? =Z o->m'.p S w'):St we Se (m'::ms) Γ (w.putObj l o):=by
 have⟨h1,q,d,S,r,s,f,n,t⟩:=h;have hl:=f m (H1) l<|(b l).2 O;have u:l<w.heap.size:=yM.lt n m (H1) l<|(b l).2 O;have hd:(w.putObj l o).heap.size=w.heap.size:=World.putObj_size;have g:∀k,k≠l->(w.putObj l o).heap[k]? =w.heap[k]? :=λk a=>World.putObj_heap_other a;have a:yA S w (w.putObj l o):=⟨O,O,O,Nat.le_of_eq hd.symm,λk _ i=>g k λe=>hl.1<|e▸i⟩;have v:K7 we (w.putObj l o):=⟨h1.os,h1.tape,h1.output,xap h1.size<|Nat.le_of_eq hd.symm,λk a i=>(g k λe=>by lia).trans<|h1.block k a i⟩;refine⟨v,q,⟨λk a c hm2=>d.1 k ((b k).2<|j k a) c hm2,d.2⟩,S,r,λk a=>s k (by rw[hd]at a;exact a),λc hm2 k hc=> ?_,⟨hp S _<|World.putObj_heap_same u,yM.keep a (λc hm2 k hc=>g k λe=> ?_) n.2⟩,zE.keep a t⟩
 ·obtain rfl|hm2:=xaf.1 hm2
  ·exact f m (H1) k<|(b k).2<|j k hc
  ·exact f c (UV _ hm2) k hc
 ·subst e;exact d.1 k ((b k).2 O) c hm2 hc
def St.allocObj{o:Obj}{m:MF}(h:St we Se ms Γ w)(e:∀k,m.blk k->k=w.heap.size)(hp:∀S w',w'.heap[w.heap.size]? =Z o->m.p S w'):St we Se (m::ms) Γ (w.alloc o):=by
 have⟨h1,j,l,S,n,q,i,f,r⟩:=h;have s:(w.alloc o).heap.size=w.heap.size+1:=World.size_alloc ..;have vI:∀k,k<w.heap.size->(w.alloc o).heap[k]? =w.heap[k]? :=λk a=>by
  show(w.heap.push o)[k]? =_;rw[Array.getElem?_push];rw[zB]
 have hd:(w.alloc o).heap[w.heap.size]? =Z o:=World.alloc_heap_new w o;let g:K->Prop:=λk=>S k/\k≠w.heap.size
 have a:yA g w (w.alloc o):=⟨O,O,O,W,λk a _=>vI k a⟩;have hc:∀k,k<w.heap.size->S k->g k:=λk a c=>⟨c,W⟩;refine⟨⟨h1.os,h1.tape,h1.output,by have:=h1.size;lia,λk a c=>(vI k<|xah a h1.size).trans<|h1.block k a c⟩,j,⟨λk a d hm2 b=> ?_,l⟩,g,λk a=>n k a.1,λk a=>⟨q k W,W⟩,λd hm2 k b=> ?_,⟨hp _ _ hd,yM.keep a (λd hm2 k b=>vI k<|yM.lt f d hm2 k b)<|yM.sub hc f⟩,zE.keep a<|zE.sub hc r⟩
 ·have:=yM.lt f d hm2 k b;have:=e k a;lia
 ·obtain rfl|hm2:=xaf.1 hm2
  ·exact⟨λc=>c.2<|e k b,by have:=e k b;have:=h1.size;lia⟩
  ·exact⟨λc=>(i d hm2 k b).1 c.1,(i d hm2 k b).2⟩
end
section
variable{P:jP}{cf:Cf}{fr:Fr}{cx kp σ:Sg}{vs vs':wr->wN}{env env':y7}{w:wP}
def HO{cx σ:Sg}(h:Bd cx σ):Bd (kJ cx σ) ⟨σ.nx,[],[]⟩where
 o1:=λ_ he=>wS he Nm
 o2:=λe he=>by
  obtain he|he:=So.1 he
  ·exact h.o1 e he
  ·exact h.o2 e he
 r1:=λ_ he=>wS he Nm
 r2:=λe he=>by
  obtain he|he:=So.1 he
  ·exact h.r1 e he
  ·exact h.r2 e he
def rJ(f:TF)(v u:wN):Prop:=match f with
 |.own _ _=>v=u
 |.var _ _=>v=u/\∃b,v=.pointer (Z ⟨b,0,wF⟩)
 |.mat _ _ _=>v=yC u
 |.bo _ _ _=>v=yC u
 |_=>QR
def Ko(ds:N (K×TF))(env:y7)(U:K->wN):Prop:=∀(j t:K) (f:TF),ds[j]? =Z (t,f)->rJ f (env t) (U j)
def Ll:∀{ds:N (K×TF)},cm ds=wL->∀(j t:K) (f:TF),ds[j]? =Z (t,f)->(∃s E,f=.own s E)\/(∃s E,f=.var s E)\/(∃s E F,f=.mat s E F)\/(∃s E F,f=.bo s E F)
 |[],_,j,t,f,h=>by simp at h
 |(b,f')::ds,a,0,t,f,h=>by
  simp only[xby,xat,xcI]at h;obtain⟨rfl,rfl⟩:=h;cases f'<;>simp only[cm,xao]at a
  ·exact .inl ⟨_,_,O⟩
  ·exact .inr (.inl ⟨_,_,O⟩)
  ·exact .inr (.inr (.inl ⟨_,_,_,O⟩))
  ·exact .inr (.inr (.inr ⟨_,_,_,O⟩))
 |(b,f')::ds,a,j+1,t,f,h=>by
  refine Ll (ds:=ds) ?_ j t f (by simpa using h);cases f'<;>simp only[cm,xao]at a<;>exact a
def Oa{ds:N (K×TF)}(b:cm ds=wL):∀a∈ds,∀j,B3 a.2=Z j->j<X ds:=λa c j e=>by
 have⟨i,hi⟩:=xfJ.1 c;rcases Ll b i a.1 a.2 hi with⟨_,_,h⟩|⟨_,_,h⟩|⟨_,_,_,h⟩|⟨_,_,_,h⟩<;>rw[h]at e<;>cases e
def zaY{U:K->wN}{S:K->Prop}:∀{ds:N (K×TF)}{x:Q2 ds}{i:K},(∀(j t:K) (f:TF),ds[j]? =Z (t,f)->rJ f (env t) (U<|i+j))->zE S (dsF U env ds x i) w
 |[],_,_,_=>trivial
 |[(t,f)],x,i,h=>by
  have h0:=h 0 t f O;refine⟨?_,wR⟩;cases f<;>first|exact h0|exact h0.elim
 |(t,f)::b::l,x,i,h=>by
  have h0:=h 0 t f O;refine⟨?_,zaY λj t f a=>by
   have:=h (j+1) t f (by simpa using a);rw[(W:i+1+j=i+(j+1))];exact this⟩
  cases f<;>first|exact h0|exact h0.elim
def zhN{n0:K}:∀{ds:N (K×TF)}{x:Q2 ds}{o j t:K}{f:TF},ds[j]? =Z (t,f)->∃y:f.D,(t,0,(AF n0 (o+j) f y).1)∈(iU n0 ds x o).1
 |[],_,_,_,_,_,h=>by simp at h
 |[(a,f')],x,o,0,t,f,h=>by
  simp only[xby,xat,xcI]at h;obtain⟨rfl,rfl⟩:=h;exact⟨x,H1⟩
 |[(a,f')],x,o,j+1,t,f,h=>by simp at h
 |(a,f')::b::l,x,o,0,t,f,h=>by
  simp only[xby,xat,xcI]at h;obtain⟨rfl,rfl⟩:=h;exact⟨x.1,H1⟩
 |(a,f')::b::l,x,o,j+1,t,f,h=>by
  have⟨y,c⟩:=zhN (n0:=n0) (ds:=b::l) (x:=x.2) (o:=o+1) (j:=j) (t:=t) (f:=f) (by simpa using h);rw[(W:o+1+j=o+(j+1))]at c;exact⟨y,UV _ c⟩
def zfU{ds:N (K×TF)}{x:Q2 ds}{n:K}{S:K->Prop}(c:cm ds=wL)(h:zE S (RS P vs env (iU n ds x n).1) w):Ko ds env λj=>vs (n+j):=by
 intro j t f a;have⟨y,d⟩:=zhN (n0:=n) (x:=x) (o:=n) a;have:=K2 h d;rcases Ll c j t f a with⟨_,_,rfl⟩|⟨_,_,rfl⟩|⟨_,_,_,rfl⟩|⟨_,_,_,rfl⟩
 ·exact this
 ·have⟨h1,b,e⟩:=this;exact⟨h1,b,h1.trans e⟩
 ·exact this
 ·exact this
def zkt{ds:N (K×TF)}{x:Q2 ds}(b:cm ds=wL)(o1:∀e∈kp.ob,e.1<kp.nx+X ds)(o2:∀e∈cx.ob,e.1<kp.nx+X ds)(r1:∀e∈kp.rg,∀o,vt e.2.2=Z o->o<kp.nx+X ds)(r2:∀e∈cx.rg,∀o,vt e.2.2=Z o->o<kp.nx+X ds):Bd cx (Ua ⟨ds,[]⟩ x kp):=by
 refine⟨λe he=> ?_,o2,λe he p hp=> ?_,r2⟩
 ·obtain he|he:=So.1 he
  ·exact(TG (n0:=kp.nx) (l:=ds) (x:=x) (o:=kp.nx) e he).2
  ·exact o1 e he
 ·have a:∀e∈(iU kp.nx ds x kp.nx).1,∀p,vt e.2.2=Z p->p<kp.nx+X ds:=λe he p hp=>by
   rcases LG (n0:=kp.nx) (n:=X ds) (l:=ds) (x:=x) (o:=kp.nx) (Oa b) e he p hp with h|h<;>exact h
  obtain he|he:=So.1 he
  ·obtain he|he:=So.1 he
   ·exact a e he p hp
   ·exact a e he p hp
  ·exact r1 e he p hp
def zfg{ds:N (K×TF)}{x:Q2 ds}(d:cm ds=wL)(hc:Ko ds env λj=>vs<|kp.nx+j)(e:Bd cx (Ua ⟨ds,[]⟩ x kp))
 (hd:St fr.we fr.Se (Qp (λj=>vs<|kp.nx+j) ds x 0++(MS vs kp.ob++(MS vs cx.ob++fr.F))) (RS P vs env kp.rg++(RS P vs env cx.rg++fr.G)) w):Yw P fr cx (Ua ⟨ds,[]⟩ x kp) env w:=by
 refine⟨e,vs,?_⟩;have b:∀j,j<X ds->vs (kp.nx+j)=(λj=>vs<|kp.nx+j) (0+j):=λj _=>by simp only[xaK]
 have e1:OS vs fr cx (Ua ⟨ds,[]⟩ x kp).ob=Qp (λj=>vs<|kp.nx+j) ds x 0++(MS vs kp.ob++(MS vs cx.ob++fr.F)):=by
  show MS vs ((iU kp.nx ds x kp.nx).2++kp.ob)++(MS vs cx.ob++fr.F)=_;rw[show MS vs ((iU kp.nx ds x kp.nx).2++kp.ob)=MS vs (iU kp.nx ds x kp.nx).2++MS vs kp.ob from xaY,LX (U:=λj=>vs<|kp.nx+j) (i:=0) b,xad]
 show St _ _ (OS vs fr cx (Ua ⟨ds,[]⟩ x kp).ob) _ _;rw[e1];refine hd.weak λS w a=> ?_;have c:zE S (RS P vs env (iU kp.nx ds x kp.nx).1) w:=zad (U:=λj=>vs<|kp.nx+j) (n:=X ds) (i:=0) (λj _=>O) (Oa d) b (zaY λj t f g=>by rw[xaK];exact hc j t f g);show zE S (RS P vs env (((iU kp.nx ds x kp.nx).1++(iU kp.nx ds x kp.nx).1)++kp.rg)++(RS P vs env cx.rg++fr.G)) w;rw[fh,fh];exact zE.append (zE.append (zE.append c c)<|zE.left a)<|zE.right a
def zbj{ds:N (K×TF)}{x:Q2 ds}{n:K}(d:cm ds=wL)(e:Yw P fr cx (Ua ⟨ds,[]⟩ x ⟨n,[],[]⟩) env w):∃vs,Ko ds env (λj=>vs<|n+j)/\Bd cx (Ua ⟨ds,[]⟩ x ⟨n,[],[]⟩)/\St fr.we fr.Se (Qp (λj=>vs<|n+j) ds x 0++(MS vs cx.ob++fr.F)) (RS P vs env cx.rg++fr.G) w:=by
 have⟨f,vs,b⟩:=e;have⟨S,_,a⟩:=b.ex;have h1:zE S (RS P vs env<|((iU n ds x n).1++(iU n ds x n).1)++[]) w:=zE.left a;rw[fh,fh]at h1;refine⟨vs,zfU d<|zE.right<|zE.left h1,f,?_⟩;have e1:OS vs fr cx (Ua ⟨ds,[]⟩ x ⟨n,[],[]⟩).ob=Qp (λj=>vs<|n+j) ds x 0++(MS vs cx.ob++fr.F):=by
  show MS vs ((iU n ds x n).2++[])++(MS vs cx.ob++fr.F)=_;rw[xbO,LX (U:=λj=>vs<|n+j) (i:=0) λj _=>by simp only[xaK]]
 have c:St fr.we fr.Se (OS vs fr cx (Ua ⟨ds,[]⟩ x ⟨n,[],[]⟩).ob) (GS P vs env fr cx<|Ua ⟨ds,[]⟩ x ⟨n,[],[]⟩) w:=b;rw[e1]at c;exact c.weak λS w h=>zE.right h
def Nw{U:K->wN}{a:K×TF}:∀{l:N (K×TF)}{y:a.2.D}{x:Q2 l}{i:K},Qp U (a::l) (Gn y x) i=TB a.2 y (U i)++Qp U l x (i+1)
 |[],y,x,i=>by show TB a.2 y (U i)=_++[];rw[xbO]
 |_::_,y,x,i=>rfl
def gu{U V:K->wN}:∀{l:N (K×TF)}{x:Q2 l}{i k:K},(∀j,j<X l->U (i+j)=V (k+j))->Qp U l x i=Qp V l x k
 |[],_,_,_,_=>rfl
 |[a],x,i,k,h=>by
  have h0:U i=V k:=h 0 i7;show TB a.2 x (U i)=TB a.2 x (V k);rw[h0]
 |a::b::l,x,i,k,h=>by
  have h0:U i=V k:=h 0 i7;show TB a.2 x.1 (U i)++Qp U (b::l) x.2 (i+1)=TB a.2 x.1 (V k)++Qp V (b::l) x.2 (k+1);rw[h0,gu (l:=b::l) (x:=x.2) (i:=i+1) (k:=k+1) λj c=>by
   have:=h (j+1) (by simpa using c);rw[(W:i+1+j=i+(j+1)),(W:k+1+j=k+(j+1))];exact this]
def zfx{a:K×TF}:∀{l:N (K×TF)} (z:Q2 (a::l)),z=Gn (iM z).1 (iM z).2
 |[],_=>rfl
 |_::_,_=>rfl
def IZ{we:wP}{Se:K->Prop}{A B:N MF}{G:N FF}{l:K}{m m':MF}{o:Obj}(h:Yw P ⟨we,Se,A++m::B,G⟩ cx σ env w)(a:∀k,m.blk k↔k=l)(b:∀k,m'.blk k->k=l)(hp:∀S w',w'.heap[l]? =Z o->m'.p S w'):Yw P ⟨we,Se,A++m'::B,G⟩ cx σ env (w.putObj l o):=by
 have⟨c,vs,hc⟩:=h;refine⟨c,vs,?_⟩;have h1:St we Se ((MS vs σ.ob++(MS vs cx.ob++A))++m::B) (GS P vs env ⟨we,Se,A++m::B,G⟩ cx σ) w:=by
  have:St we Se (MS vs σ.ob++(MS vs cx.ob++(A++m::B))) (GS P vs env ⟨we,Se,A++m::B,G⟩ cx σ) w:=hc;simpa only[xad]using this
 have d:=St.putObj (St.mid h1) a b hp;have e:St we Se ((MS vs σ.ob++(MS vs cx.ob++A))++m'::B) (GS P vs env ⟨we,Se,A++m::B,G⟩ cx σ) (w.putObj l o):=d.perm xcl.symm;show St we Se (MS vs σ.ob++(MS vs cx.ob++(A++m'::B))) _ _;simpa only[xad]using e
def zgD{n:K}{S:K->Prop}:∀{ds:N (K×TF)}{i:K},cm ds=wL->(∀(j t:K) (f:TF),ds[j]? =Z (t,f)->rJ f (env t) (vs<|n+(i+j)))->zE S (RS P vs env<|AV ds<|n+i) w
 |[],_,_,_=>trivial
 |(t,f)::r,i,a,h=>by
  have h0:=h 0 t f O;have b:cm r=wL->zE S (RS P vs env<|AV r<|n+i+1) w:=λa=>zgD (i:=i+1) a λj t f c=>by
   have:=h (j+1) t f (by simpa using c);rw[(W:i+1+j=i+(j+1))];exact this
  cases f<;>simp only[cm,xao]at a
  ·exact⟨h0,b a⟩
  ·exact⟨h0.1,b a⟩
  ·exact⟨h0,b a⟩
  ·exact⟨h0,b a⟩
def Oy:∀{ds:N (K×TF)}{n:K},∀e∈AV ds n,∀o,vt e.2.2=Z o->o<n+X ds
 |[],_,e,he=>wS he Nm
 |(t,f)::r,n,e,he=>by
  intro o a;have b:e∈AV r (n+1)->o<n+X ((t,f)::r):=λhe=>by
   have:=Oy e he o a;simp only[xax];lia
  cases f<;>obtain rfl|he:=xaf.1 he<;>first|exact b he|(cases a;simp only[xax];lia)
def Ec:∀{ds:N (K×TF)}{n j t:K}{f:TF},ds[j]? =Z (t,f)->∃e∈AV ds n,e.1=t
 |[],_,_,_,_,h=>by simp at h
 |(a,f')::r,n,0,t,f,h=>by
  simp only[xby,xat,xcI]at h;obtain⟨rfl,rfl⟩:=h;cases f'<;>exact⟨_,H1,O⟩
 |(a,f')::r,n,j+1,t,f,h=>by
  have⟨e,b,h1⟩:=Ec (ds:=r) (n:=n+1) (j:=j) (t:=t) (f:=f) (by simpa using h);cases f'<;>exact⟨e,UV _ b,h1⟩
def zjT{a:K×TF}{ds:N (K×TF)}(h:zfk (a::ds)=wL){j t:K}{f:TF}(b:ds[j]? =Z (t,f)):t≠a.1:=by
 simp only[zfk,zep,xac,xaR]at h;have:=h.1 (t,f)<|xbp b;intro e;subst e;simp at this
end
end
section
def GN(P:jP)(cf:Cf)(n:wr)(c:Wr):Prop:=∀{R:Type}{r:R}{fr:Fr}{cx σ:Sg}{K:Tg->Sg->V R}{Q:Qd}{N:Nd},N.n=n->(N.rd=wF\/H2 c=wL)->den cf c cx σ K=Z r->∀{Ds:xS wr}{env:y7}{w:wP},
 (∀t σ',K t σ'=Z r->∀b a w',n8 cx env a->Yw P (fr.wd b) cx σ' a w'->Q (tgE t) b a w')->Yw P (fr.wd Ds) cx σ env w->LV P N c Q Ds env w
def zoS:wN->N wN
 |.tuple us=>us.toList
 |_=>[]
def Xr(u:wN)(k:K):wN:=(zoS u).getD k uT
def OY(vs:K->wN)(m:K):wN:=.tuple ((xaN m).map vs).toArray
def zjn{vs:K->wN}{m k:K}(h:k<m):Xr (OY vs m) k=vs k:=by
 simp[Xr,OY,zoS,FS,h]
def tgC:Tg->Wr
 |.n=> .skip
 |.x i=> .exit i
 |.r=> .ret
section
variable{P:jP}{cf:Cf}{fr:Fr}{cx cx' kp σ:Sg}{vs vs':wr->wN}{env env':y7}{w:wP}{we:wP}{Se:wr->Prop}{F:xS MF}{G:xS FF}{n D l:wr}{ds:xS (wr×TF)}{x:Q2 ds}{u:wN}{rc:cS}
def zcS(P:jP)(env:y7)(cx':Sg)(n:K)(ds:N (K×TF))(D l:K)(rc:cS)(x:Q2 ds)(u:wN):MF:=
 DI (mPr (Ko ds env λj=>Xr u<|n+j)::mFF (RS P (Xr u) env cx'.rg)::cr l rc::vJ D::(Qp (λj=>Xr u<|n+j) ds x 0++MS (Xr u) cx'.ob))
def zbD(h:St we Se (zcS P env cx' n ds D l rc x u::F) G w):Ko ds env (λj=>Xr u<|n+j)/\St we Se (cr l rc::vJ D::(Qp (λj=>Xr u<|n+j) ds x 0++(MS (Xr u) cx'.ob++F))) (RS P (Xr u) env cx'.rg++G) w:=by
 have⟨h1,a⟩:=St.unpr<|St.grp.1 h;refine⟨h1,?_⟩;have b:=St.ffOut (show St we Se (mFF (RS P (Xr u) env cx'.rg)::(cr l rc::vJ D::(Qp (λj=>Xr u<|n+j) ds x 0++MS (Xr u) cx'.ob)++F)) G w from a);simpa only[xbC,xad]using b
def zg0(d:Ko ds env λj=>vs<|n+j)(a:∀e∈cx'.ob,e.1<n)(g:∀e∈cx'.rg,∀o,vt e.2.2=Z o->o<n)(h:St we Se (cr l rc::vJ D::(Qp (λj=>vs<|n+j) ds x 0++(MS vs cx'.ob++F))) (RS P vs env cx'.rg++G) w):
 St we Se (zcS P env cx' n ds D l rc x (OY vs<|n+X ds)::F) G w:=by
 have e0:∀k,k<n+X ds->Xr (OY vs<|n+X ds) k=vs k:=λk i=>zjn i;have e1:RS P (Xr<|OY vs<|n+X ds) env cx'.rg=RS P vs env cx'.rg:=jI (λe b o a=>e0 o (by have:=g e b o a;lia)) λ_ _=>O;have m:MS (Xr<|OY vs<|n+X ds) cx'.ob=MS vs cx'.ob:=wJ λe b=>e0 e.1 (by have:=a e b;lia);have p:Qp (λj=>Xr (OY vs<|n+X ds)<|n+j) ds x 0=Qp (λj=>vs<|n+j) ds x 0:=gu λj c=>e0 _ W;refine St.grp.2<|St.pr ?_ ?_
 ·intro j t f c;have:=(xar.1 c).1;show rJ f (env t) (Xr (OY vs<|n+X ds)<|n+j);rw[e0 _ W];exact d j t f c
 ·have q:St we Se (mFF (RS P vs env cx'.rg)::(cr l rc::vJ D::(Qp (λj=>vs<|n+j) ds x 0++MS vs cx'.ob)++F)) G w:=St.ffIn (by simpa only[xbC,xad]using h);rw[e1,m,p];exact q
def HT{m:MF}{p:Prop}(h:Yw P fr cx σ env w)(a:m∈fr.F)(hp:∀S,m.p S w->p):p:=by
 have⟨_,vs,_,_,_,S,_,_,_,b,_⟩:=h;exact hp S<|ZT.1 b m<|So.2 (.inr<|So.2 (.inr a))
def ziG{it:E8}{pt:wr}{τ:Tg}{a c:Wr}{N:wr}{fn:Z4}{tmps:uL wN}(hA:GN P cf N a)(hC:GN P cf N c)(hX:H2 a=wL)(hY:H2 c=wL)(c3:pt<N)(hZ:tmps.size=N)(hP:yJ ⟨tmps,[]⟩=env)(hm:cm ds=wL)
 (h0:zfk (uu pt it.t it.E ds).ds=wL) (hJ:XL cx'.rg pt=wL) (ho:∀e∈cx'.ob,e.1<n) (hr:∀e∈cx'.rg,∀o,vt e.2.2=Z o->o<n):
 RL P l it.t.rep it.E (λx u=>zcS P env cx' n ds D l {state:=.ready,pending:=wF,fn:=fn,tmps:=tmps,params:= #[pt],assign:=a,body:=c,defers:=D} x u)
  (λx u=>zcS P env cx' n ds D l {state:=.done,pending:=Z<|tgC τ,fn:=fn,tmps:=tmps,params:= #[pt],assign:=a,body:=c,defers:=D} x u)
  (zpC cx' n ds it.t it.E pt τ (λcx σ K=>den cf a cx σ K) λcx σ K=>den cf c cx σ K):=by
 have⟨H,hi⟩:∃H:cS,H={state:=.ready,pending:=wF,fn:=fn,tmps:=tmps,params:= #[pt],assign:=a,body:=c,defers:=D}:=⟨_,O⟩;have⟨J,hH⟩:∃J:cS,J={H with state:=.busy}:=⟨_,O⟩;rw[<-hi];intro ys x R q hq v u we Se F G w h9;have⟨h',h1⟩:=zbD h9;have hl:w.heap[l]? =Z (.loop H):=wz h1 (i:=0) O λS hp=>hp;have hy:=run_yield (P:=P) (args:= #[v]) hl (by rw[hi];rfl);refine⟨fn,tmps.setIfInBounds pt v,a,c,by rw[hi]at hy;simpa using hy,roundIn_of_wpIn wR ?_⟩;have⟨sh,hw⟩:∃sh,sh=uu pt it.t it.E ds:=⟨_,O⟩;have c2:X sh.ds=X ds+1:=by rw[hw];rfl
 have hI:cm sh.ds=wL:=by rw[hw];exact hm
 have⟨cp,hc⟩:∃cp,cp=cpR cx' n sh:=⟨_,O⟩;have hQ:∀{j t:wr}{f:TF},ds[j]? =Z (t,f)->t≠pt:=λM=>zjT (a:=(pt,.own it.t it.E)) h0 M;have⟨b,hn⟩:∃b,b=put env (some pt) v:=⟨_,O⟩;have a0:b pt=v:=by rw[hn];exact CT
 have Y:∀t,t≠pt->b t=env t:=λt ht=>by rw[hn];exact lX<|λe=>ht<|by cases e;rfl
 have a3:∀e∈cx'.rg,b e.1=env e.1:=λe he=>Y e.1 λh=>by
  simp only[XL,xaR]at hJ;have:=hJ e he;rw[h]at this;simp at this
 have⟨g,hD⟩:∃g:wr->wN,g=λk=>if k<n then Xr u k else if k=n then v else Xr u (k-1):=⟨_,O⟩;have a4:∀k,k<n->g k=Xr u k:=λk hk=>by rw[hD];exact iq hk
 have a8:g n=v:=by rw[hD];simp
 have a5:∀j,g (n+(j+1))=Xr u (n+j):=λj=>by
  rw[hD];simp only;rw[zB,zB,(W:n+(j+1)-1=n+j)]
 have hK:Ko sh.ds b λj=>g (n+j):=by
  rw[hw];intro j t f M
  cases j with
  |zero=>
   simp only[uu,xby,xat,xcI]at M;obtain⟨rfl,rfl⟩:=M;show b pt=g (n+0);rw[a0,xbD,a8]
  |succ j=>
   have M:ds[j]? =Z (t,f):=by simpa[uu]using M
   show rJ f (b t) (g<|n+(j+1));rw[a5,Y t<|hQ M];exact h' j t f M
 have hE:Bd cp ⟨n+X sh.ds,[],[]⟩:=by
  rw[hc];refine⟨λ_ he=>wS he Nm,λe he=> ?_,λ_ he=>wS he Nm,λe he o hf=> ?_⟩
  ·have:=ho e he;show e.1<n+_;lia
  ·show o<n+_;rcases So.1 (show e∈AV sh.ds n++cx'.rg from he)with he|he
   ·exact Oy e he o hf
   ·have:=hr e he o hf;lia
 have a9:Yw P (Fr.wd ⟨we,Se,cr l H::vJ D::F,G⟩ []) cp (Ua sh (hw▸Gn (a:=(pt,.own it.t it.E)) ys x) ⟨n,[],[]⟩) b w:=by
  subst hw;refine zfg (vs:=g) (kp:=⟨n,[],[]⟩) hI hK (zkt hI (λ_ he=>wS he Nm) (λe he=>hE.o2 e he) (λ_ he=>wS he Nm) λe he o hf=>hE.r2 e he o hf) ?_;have e1:Qp (λj=>g<|n+j) (uu pt it.t it.E ds).ds (Gn (a:=(pt,.own it.t it.E)) ys x) 0=mO it.t.rep it.E v ys::Qp (λj=>Xr u<|n+j) ds x 0:=by
   refine(Nw (U:=λj=>g<|n+j) (a:=(pt,.own it.t it.E)) (l:=ds) (y:=ys) (x:=x) (i:=0)).trans ?_;show mO it.t.rep it.E (g<|n+0) ys::Qp _ ds x (0+1)=_;rw[xbD,a8,gu (U:=λj=>g<|n+j) (V:=λj=>Xr u<|n+j) (i:=0+1) (k:=0) λj _=>by
    show g (n+(0+1+j))=Xr u (n+(0+j));rw[(W:0+1+j=j+1),a5,xaK]]
  have e2:MS g cp.ob=MS (Xr u) cx'.ob:=by rw[hc];exact wJ λe he=>a4 _<|ho e he
  show St we Se (Qp (λj=>g<|n+j) (uu pt it.t it.E ds).ds (Gn (a:=(pt,.own it.t it.E)) ys x) 0++([]++(MS g cp.ob++([]++(cr l H::vJ D::F))))) ([]++(RS P g b cp.rg++G)) w;rw[e1,e2];have h2:St we Se (mO it.t.rep it.E v ys::Qp (λj=>Xr u<|n+j) ds x 0++([]++(MS (Xr u) cx'.ob++([]++(cr l H::vJ D::F))))) (RS P (Xr u) env cx'.rg++G) w:=by
   refine h1.perm ?_;simp only[xbA,xbC];have p1:(cr l H::vJ D::(Qp (λj=>Xr u<|n+j) ds x 0++(MS (Xr u) cx'.ob++mO it.t.rep it.E v ys::F))).Perm (mO it.t.rep it.E v ys::(cr l H::vJ D::(Qp (λj=>Xr u<|n+j) ds x 0++(MS (Xr u) cx'.ob++F)))):=by
    have:=xcl (a:=mO it.t.rep it.E v ys) (l₁:=cr l H::vJ D::(Qp (λj=>Xr u<|n+j) ds x 0++MS (Xr u) cx'.ob)) (l₂:=F);simpa only[xbC,xad]using this
   refine p1.trans<|List.Perm.cons _ ?_;have p2:([cr l H,vJ D]++((Qp (λj=>Xr u<|n+j) ds x 0++MS (Xr u) cx'.ob)++F)).Perm ((Qp (λj=>Xr u<|n+j) ds x 0++MS (Xr u) cx'.ob)++([cr l H,vJ D]++F)):=xdZ ..;simpa only[xbC,xad,xbA]using p2
  refine h2.weak (Δ:=RS P g b cp.rg++G) λS w ha=>zE.append ?_<|zE.right ha;rw[hc];show zE S (RS P g b<|AV (uu pt it.t it.E ds).ds n++cx'.rg) w;rw[fh];refine zE.append (zgD (i:=0) hI λj t f M=>by rw[xaK];exact hK j t f M) ?_;rw[jI (vs:=Xr u) (env:=env) (λe he o hf=>a4 o<|hr e he o hf) a3];exact zE.left ha
 have⟨N1,hB⟩:∃N1:Nd,N1=⟨N,[],some l⟩:=⟨_,O⟩;have hS:(⟨tmps.setIfInBounds pt v,[]⟩:Kw).tmps.size=N1.n:=by rw[hB];simpa using hZ
 have hT:yJ ⟨tmps.setIfInBounds pt v,[]⟩=b:=by
  have:=X6 (a:=⟨tmps,[]⟩) (d:=Z pt) (v:=v) (λt ht=>by cases ht;show pt<tmps.size;lia);rw[hn,<-hP];exact this
 subst hw
 have b0:=hA (N:=N1) (fr:=⟨we,Se,cr l H::vJ D::F,G⟩) (Ds:=[]) (by rw[hB]) (.inr hX) (show den cf a cp _ _=Z (R,q)from by rw[hc];exact hq)
  (Q:=λe T env' w'=>e=.normal/\∃σ',den cf c cp σ' (zlC cp ds it.t it.E pt τ)=Z (R,q)/\n8 cp b env'/\Yw P (Fr.wd ⟨we,Se,cr l H::vJ D::F,G⟩ T) cp σ' env' w')
  (λt σ' hk T env' w' hs hR=>by
   cases t with
   |n=>exact⟨O,σ',by rw[hc];exact hk,hs,hR⟩
   |x i=>cases hk
   |r=>cases hk) a9
 have hU:=b0 ⟨tmps.setIfInBounds pt v,[]⟩ hS O hT;rw[hB]at hU;refine V0 hU ?_;rintro e a1 w1 ⟨q1,T,q2,rfl,σ',hk,hs,hR⟩;have b1:w1.heap[l]? =Z (.loop H):=HT hR (m:=cr l H) (So.2 (.inr<|H1)) λS hp=>hp;refine⟨w1.putObj l (.loop J),by rw[hH];exact run_beginRound b1 (by rw[hi]),?_⟩;have b2:Yw P (Fr.wd ⟨we,Se,cr l J::vJ D::F,G⟩ T) cp σ' (yJ a1) (w1.putObj l (.loop J)):=IZ (A:=T.map vJ) (m:=cr l H) (m':=cr l J) (B:=vJ D::F) hR (λk=>Iff.rfl) (λk h=>h) λS w' h=>h
 have b3:=hC (N:=N1) (fr:=⟨we,Se,cr l J::vJ D::F,G⟩) (Ds:=T) (by rw[hB]) (.inr hY) hk
  (Q:=λe s env' w'=>∃t C,e=tgE t/\zlC cp ds it.t it.E pt τ t C=Z (R,q)/\n8 cp (yJ a1) env'/\Yw P (Fr.wd ⟨we,Se,cr l J::vJ D::F,G⟩ s) cp C env' w')
  (λt C hk s env' w' hs hR=>⟨t,C,O,hk,hs,hR⟩) b2
 have hV:=b3 a1 (by rw[hB];exact q1) q2 O;rw[hB]at hV;refine V0 hV ?_;rintro e a2 w2 ⟨p1,s,p2,t,C,rfl,hd,b4,hu⟩;have hN:w2.heap[l]? =Z (.loop J):=HT hu (m:=cr l J) (So.2 (.inr<|H1)) λS hp=>hp;have hO:=hs.trans b4
 have L:∀(z:Q2 (uu pt it.t it.E ds).ds) (rc:cS),Yw P (Fr.wd ⟨we,Se,cr l J::vJ D::F,G⟩ s) cp (Ua (uu pt it.t it.E ds) z ⟨n+(uu pt it.t it.E ds).ds.length,[],[]⟩) (yJ a2) w2->
  ∃u',St we Se (zcS P env cx' n ds D l rc (iM z).2 u'::mO it.t.rep it.E v (iM z).1::F) G (w2.putObj l (.loop rc)):=by
  intro z rc hv;have c0:=IZ (A:=s.map vJ) (m:=cr l J) (m':=cr l rc) (B:=vJ D::F) hv (λk=>Iff.rfl) (λk h=>h) (o:=.loop rc) λS w' h=>h;have⟨vs2,hF,c4,hL⟩:=zbj (ds:=(uu pt it.t it.E ds).ds) hI c0;have⟨m,c1⟩:∃m,m=n+(uu pt it.t it.E ds).ds.length:=⟨_,O⟩;rw[<-c1]at hF hL;have z0:vs2 m=v:=by
   have h2:yJ a2 pt=vs2 (m+0):=hF 0 pt (.own it.t it.E) O;have⟨e,he,h3⟩:=Ec (ds:=(uu pt it.t it.E ds).ds) (n:=n) (j:=0) (t:=pt) (f:=.own it.t it.E) O;have h4:=hO e (by rw[hc];exact So.2 (.inl he));rw[h3,a0]at h4;rw[xbD]at h2;exact h2.symm.trans h4
  have⟨p,hM⟩:∃p:wr->wN,p=λk=>if k<n then vs2 k else vs2 (m+1+(k-n)):=⟨_,O⟩;have a6:∀k,k<n->p k=vs2 k:=λk hk=>by rw[hM];exact iq hk
  have a7:∀j,p (n+j)=vs2 (m+(j+1)):=λj=>by
   rw[hM];simp only;rw[zB,(W:m+1+(n+j-n)=m+(j+1))]
  have hW:Ko ds env λj=>p (n+j):=by
   intro j t f M;have h2:=hF (j+1) t f (by simpa[uu]using M);have⟨e,he,h3⟩:=Ec (ds:=(uu pt it.t it.E ds).ds) (n:=n) (j:=j+1) (t:=t) (f:=f) (by simpa[uu]using M);have h4:=hO e (by rw[hc];exact So.2 (.inl he));rw[h3,Y t<|hQ M]at h4;show rJ f (env t) (p<|n+j);rw[a7,<-h4];exact h2
  refine⟨_,zg0 (F:=mO it.t.rep it.E v (iM z).1::F) hW ho hr ?_⟩;have e1:Qp (λj=>vs2<|m+j) (uu pt it.t it.E ds).ds z 0=mO it.t.rep it.E v (iM z).1::Qp (λj=>p<|n+j) ds (iM z).2 0:=by
   refine(ut (λz=>Qp (λj=>vs2<|m+j) (uu pt it.t it.E ds).ds z 0)<|zfx (a:=(pt,.own it.t it.E)) (l:=ds) z).trans ?_;refine(Nw (U:=λj=>vs2<|m+j) (a:=(pt,.own it.t it.E)) (l:=ds) (y:=(iM (a:=(pt,.own it.t it.E)) z).1) (x:=(iM (a:=(pt,.own it.t it.E)) z).2) (i:=0)).trans ?_;show mO it.t.rep it.E (vs2<|m+0) (iM z).1::Qp _ ds (iM z).2 (0+1)=_;rw[xbD,z0,gu (U:=λj=>vs2<|m+j) (V:=λj=>p<|n+j) (i:=0+1) (k:=0) λj _=>by
    show vs2 (m+(0+1+j))=p (n+(0+j));rw[(W:0+1+j=j+1),xaK,a7]]
  have e2:MS vs2 cp.ob=MS p cx'.ob:=by rw[hc];exact wJ λe he=>(a6 _<|ho e he).symm
  have h5:St we Se (Qp (λj=>vs2<|m+j) (uu pt it.t it.E ds).ds z 0++(MS vs2 cp.ob++(s.map vJ++cr l rc::vJ D::F))) (RS P vs2 (yJ a2) cp.rg++G) (w2.putObj l (.loop rc)):=hL;rw[e1,e2]at h5;have h6:St we Se ((mO it.t.rep it.E v (iM z).1::Qp (λj=>p<|n+j) ds (iM z).2 0++MS p cx'.ob)++(cr l rc::vJ D::F)) (RS P vs2 (yJ a2) cp.rg++G) (w2.putObj l (.loop rc)):=St.dropM (B:=s.map vJ) (by simpa only[xad]using h5);have h7:St we Se (cr l rc::vJ D::(Qp (λj=>p<|n+j) ds (iM z).2 0++(MS p cx'.ob++(mO it.t.rep it.E v (iM z).1::F)))) (RS P vs2 (yJ a2) cp.rg++G) (w2.putObj l (.loop rc)):=by
   refine h6.perm ?_;have p1:((Qp (λj=>p<|n+j) ds (iM z).2 0++MS p cx'.ob)++([cr l rc,vJ D]++F)).Perm ([cr l rc,vJ D]++((Qp (λj=>p<|n+j) ds (iM z).2 0++MS p cx'.ob)++F)):=xdZ ..;have p2:=xcl (a:=mO it.t.rep it.E v (iM z).1) (l₁:=cr l rc::vJ D::(Qp (λj=>p<|n+j) ds (iM z).2 0++MS p cx'.ob)) (l₂:=F);have p3:=(p1.cons<|mO it.t.rep it.E v (iM z).1).trans (by simpa only[xbC,xad,xbA]using p2.symm);simpa only[xbC,xad,xbA]using p3
  refine h7.weak λS w ha=>zE.append ?_<|zE.right ha;have h8:zE S (RS P vs2 (yJ a2)<|AV (uu pt it.t it.E ds).ds n++cx'.rg) w:=by
   have:=zE.left ha;rw[hc]at this;exact this
  rw[fh]at h8;rw[jI (vs:=vs2) (env:=yJ a2) (λe he o hf=>a6 o<|hr e he o hf) λe he=> ?_]
  ·exact zE.right h8
  ·have h4:=hO e (by rw[hc];exact So.2 (.inr he));rw[a3 e he]at h4;exact h4.symm
 cases t with
 |n=>
  have⟨z,hz,hg⟩:=tS (P:=P) (cx:=cp) (kp:=⟨n+(uu pt it.t it.E ds).ds.length,[],[]⟩) (show sE (kJ cp ⟨n+(uu pt it.t it.E ds).ds.length,[],[]⟩) (uu pt it.t it.E ds) C (λz=>Z ((iM z).1,Sum.inl (iM z).2))=Z (R,q)from by rw[hc]at hd⊢;exact hd) hE;cases hz;have hv:=hg (Fr.wd ⟨we,Se,cr l J::vJ D::F,G⟩ s) (yJ a2) w2 (by rw[hc]at hu⊢;exact hu);refine⟨_,_,cO wF hN,O,?_⟩;have hG:({J with state:=if(wF:ww Wr).isNone then .ready else .done,pending:=wF}:cS)=H:=by rw[hH,hi];rfl
  rw[hG];exact L z H hv
 |x i=>
  have⟨ht,hd⟩:=z7 hd;have⟨z,hz,hg⟩:=tS (P:=P) (cx:=cp) (kp:=⟨n+(uu pt it.t it.E ds).ds.length,[],[]⟩) (show sE (kJ cp ⟨n+(uu pt it.t it.E ds).ds.length,[],[]⟩) (uu pt it.t it.E ds) C (λz=>Z ((iM z).1,Sum.inr (iM z).2))=Z (R,q)from by rw[hc]at hd⊢;exact hd) hE;cases hz;have hv:=hg (Fr.wd ⟨we,Se,cr l J::vJ D::F,G⟩ s) (yJ a2) w2 (by rw[hc]at hu⊢;exact hu);refine⟨_,_,cO (Z (.exit i)) hN,O,?_⟩;have hG:({J with state:=if(Z<|Code.exit i).isNone then .ready else .done,pending:=Z (.exit i)}:cS)={state:=.done,pending:=Z<|tgC τ,fn:=fn,tmps:=tmps,params:= #[pt],assign:=a,body:=c,defers:=D}:=by rw[hH,hi,zb0 ht];rfl
  rw[hG];exact L z _ hv
 |r=>
  have⟨ht,hd⟩:=z7 hd;have⟨z,hz,hg⟩:=tS (P:=P) (cx:=cp) (kp:=⟨n+(uu pt it.t it.E ds).ds.length,[],[]⟩) (show sE (kJ cp ⟨n+(uu pt it.t it.E ds).ds.length,[],[]⟩) (uu pt it.t it.E ds) C (λz=>Z ((iM z).1,Sum.inr (iM z).2))=Z (R,q)from by rw[hc]at hd⊢;exact hd) hE;cases hz;have hv:=hg (Fr.wd ⟨we,Se,cr l J::vJ D::F,G⟩ s) (yJ a2) w2 (by rw[hc]at hu⊢;exact hu);refine⟨_,_,cO (Z .ret) hN,O,?_⟩;have hG:({J with state:=if(Z Code.ret).isNone then .ready else .done,pending:=Z .ret}:cS)={state:=.done,pending:=Z<|tgC τ,fn:=fn,tmps:=tmps,params:= #[pt],assign:=a,body:=c,defers:=D}:=by rw[hH,hi,zb0 ht];rfl
  rw[hG];exact L z _ hv
end
end
section
section
variable{P:jP}{cf:Cf}{fr:Fr}{cx σ:Sg}{env:y7}{w:wP}{R:Type}{r:R}
def zh3(hX:ED P cf){g:wW}{a c:Wr}{N:Nd}{K:Tg->Sg->V R}{Q:Qd}{s:Lp}{it:E8}{y:fE it.dom}{τ:Tg}{pt:wr}{ags:xS wr}{cs:xS PD}{Ds:xS wr}
 (hA:GN P cf N.n a) (hC:GN P cf N.n c) (hQ:H2 a=wL) (hS:H2 c=wL) (hT:N.rd=wF) (hU:pt<N.n) (hg:xD cx σ g=Z (.fn it.f cs)) (hV:it∈cf.is) (hy:UE it.dom cs=Z y) (hv:s.hd.ns=[])
 (h:S8 cx σ K s it y τ pt ags (λcx σ K=>den cf a cx σ K) (λcx σ K=>den cf c cx σ K)=Z r)
 (hK:∀t σ',K t σ'=Z r->∀Ds' env' w',n8 cx env env'->Yw P (fr.wd Ds') cx σ' env' w'->Q (tgE t) Ds' env' w') (hR:Yw P (fr.wd Ds) cx σ env w):LV P N (.rangeFunc g #[pt] a c) Q Ds env w:=by
 obtain⟨⟨ds,ns⟩,sg⟩:=s;simp only at hv;subst hv;obtain⟨h9,hz⟩:=H9 hy;obtain⟨hB,vs,hD⟩:=hR;obtain⟨S0,_,hΓ⟩:=hD.ex;obtain⟨cvs,hE,h8,h'⟩:=zj hg<|zS hΓ g;have hY:Yw P ⟨fr.we,fr.Se,Ds.map vJ++fr.F,ZE P it.dom y cvs++fr.G⟩ cx σ env w:=⟨hB,vs,hD.weak λS w ha=>zE.append (zE.left ha) (zE.append (zE.left<|zE.right ha) (zE.append (by
  obtain⟨cvs',hF,hZ,hG⟩:=zj hg<|zS ha g;rw[hE]at hF;have:cvs=cvs':=by simpa using hF
  subst this;exact hz hZ hG) (zE.right (zE.right ha))))⟩
 unfold S8 at h;simp only at h;obtain⟨hi,h⟩:=z7 h;simp only[xac]at hi;obtain⟨hm,h0,hl⟩:=hi;obtain⟨hc,hH⟩:=DA (ag:=ags) (ro:=sg.ro) hY;obtain⟨kp,h5⟩:∃kp,kp=keep σ ags sg.ro:=⟨_,O⟩;rw[<-h5]at h hc hH hl;obtain⟨x0,h1,h2⟩:=tS (P:=P) (cx:=kJ cx kp) (kp:=⟨kp.nx,[],[]⟩) h<|HO hc;obtain⟨r',h3,h4⟩:=r9 h1;obtain⟨vs0,hI,hB0,hJ⟩:=zbj (ds:=ds) hm<|h2 _ env w hH;obtain⟨hb,hL⟩:=hX.is it hV;have ho:∀e∈(kJ cx kp).ob,e.1<kp.nx:=λe he=>by
  rcases So.1 he with he|he
  ·exact hc.o1 e he
  ·exact hc.o2 e he
 have hr:∀e∈(kJ cx kp).rg,∀o,vt e.2.2=Z o->o<kp.nx:=λe he o hf=>by
  rcases So.1 he with he|he
  ·exact hc.r1 e he o hf
  ·exact hc.r2 e he o hf
 intro a0 g1 g2 g3;refine wpIn_rangeFunc ?_;intro fn hfn;rw[show N.F.round=wF from hT];obtain⟨rR,hj⟩:∃rR:cS,rR={state:=.ready,pending:=wF,fn:=fn,tmps:=a0.tmps,params:= #[pt],assign:=a,body:=c,defers:=w.heap.size}:=⟨_,O⟩;obtain⟨rD,hn⟩:∃rD:cS,rD={state:=.done,pending:=Z<|tgC τ,fn:=fn,tmps:=a0.tmps,params:= #[pt],assign:=a,body:=c,defers:=w.heap.size}:=⟨_,O⟩;have hM:=run_enterLoop_outer (P:=P) (w:=w) fn a0.tmps #[pt] a c;rw[<-hj]at hM;have hW:St fr.we fr.Se (cr (w.heap.size+1) rR::vJ w.heap.size::(Qp (λj=>vs0<|kp.nx+j) ds x0 0++(MS vs0 (kJ cx kp).ob++(Ds.map vJ++fr.F)))) (RS P vs0 env (kJ cx kp).rg++(ZE P it.dom y cvs++fr.G)) ((w.alloc (.deferred<|some [])).alloc (.loop rR)):=by
  have q1:=St.allocObj (o:=.deferred<|some []) (m:=vJ w.heap.size) hJ (λk hk=>hk)<|λS w' hw=>hw;have hN:(w.alloc (.deferred<|some [])).heap.size=w.heap.size+1:=World.size_alloc ..;refine St.allocObj (o:=.loop rR) (m:=cr (w.heap.size+1) rR) q1 (λk hk=>by rw[hN];exact hk)<|λS w' hw=> ?_;rw[hN]at hw;exact hw
 have h6:=zg0 (x:=x0) hI ho hr hW;have hO:=ziG (P:=P) (cf:=cf) (cx':=kJ cx kp) (env:=env) (n:=kp.nx) (D:=w.heap.size) (l:=w.heap.size+1) (ds:=ds) (it:=it) (pt:=pt) (τ:=τ) (a:=a) (c:=c) (N:=N.n) (fn:=fn) (tmps:=a0.tmps) hA hC hQ hS hU g1 g3 hm h0 hl ho hr;rw[<-hj,<-hn]at hO;have hq:=hL y _ _ _ _ _ x0 r' h3 (w.heap.size+1) cvs (by lia) hO _ fr.we fr.Se _ fr.G _ h6
 have close:∀(rc:cS) (x:Q2 ds) (u':wN) (w3:wP),St fr.we fr.Se (zcS P env (kJ cx kp) kp.nx ds w.heap.size (w.heap.size+1) rc x u'::(Ds.map vJ++fr.F)) fr.G w3->
  w3.heap[w.heap.size+1]? =Z (.loop rc)/\∀o,Yw P (fr.wd (w.heap.size::Ds)) cx (Ua ⟨ds,[]⟩ x kp) env (w3.putObj (w.heap.size+1) (.loop o)):=by
  intro rc x u' w3 hs;obtain⟨h7,q1⟩:=zbD hs;refine⟨wz q1 (i:=0) O λS hp=>hp,λo=> ?_⟩;have q2:=St.putObj (m':=cr (w.heap.size+1) o) (o:=.loop o) q1 (λk=>Iff.rfl) (λk hk=>hk)<|λS w' hw=>hw;have q3:St fr.we fr.Se ([vJ w.heap.size]++(Qp (λj=>Xr u'<|kp.nx+j) ds x 0++(MS (Xr u') (kJ cx kp).ob++(Ds.map vJ++fr.F)))) (RS P (Xr u') env (kJ cx kp).rg++fr.G) (w3.putObj (w.heap.size+1) (.loop o)):=St.drop (i:=0) q2;refine zfg (vs:=Xr u') hm h7 (zkt hm (λe he=>xah (hc.o1 e he)<|xbM _ _) (λe he=>xah (hc.o2 e he)<|xbM _ _) (λe he o hf=>xah (hc.r1 e he o hf)<|xbM _ _) λe he o hf=>xah (hc.r2 e he o hf)<|xbM _ _) ?_;have e1:MS (Xr u') (kJ cx kp).ob=MS (Xr u') kp.ob++MS (Xr u') cx.ob:=xaY;have e2:RS P (Xr u') env (kJ cx kp).rg=RS P (Xr u') env kp.rg++RS P (Xr u') env cx.rg:=xaY;rw[e1,e2]at q3;have q4:St fr.we fr.Se ((Qp (λj=>Xr u'<|kp.nx+j) ds x 0++(MS (Xr u') kp.ob++MS (Xr u') cx.ob))++([vJ w.heap.size]++(Ds.map vJ++fr.F))) ((RS P (Xr u') env kp.rg++RS P (Xr u') env cx.rg)++fr.G) (w3.putObj (w.heap.size+1) (.loop o)):=by
   refine q3.perm ?_;rw[<-xad<|Qp _ _ _ _];exact xdZ ..
  show St fr.we fr.Se (Qp _ ds x 0++(MS (Xr u') kp.ob++(MS (Xr u') cx.ob++((vJ w.heap.size::Ds.map vJ)++fr.F)))) (RS P (Xr u') env kp.rg++(RS P (Xr u') env cx.rg++fr.G)) _;simpa only[xad,xbC,xbA]using q4
 refine⟨w.heap.size+1,[mkD w.heap.size],((w.alloc (.deferred<|some [])).alloc (.loop rR)),{target:=.fn (.func it.f) cvs.toArray,args:= #[.func (.yield<|w.heap.size+1) #[] #[]]},((w.alloc (.deferred<|some [])).alloc (.loop rR)),it.f,#[.func (.yield<|w.heap.size+1) #[] #[]]++cvs.toArray,((w.alloc (.deferred<|some [])).alloc (.loop rR)),hM,?_,λ_ _=>wR,?_,λe=>by simp[Nd.F,xgh]at e,?_⟩
 ·have:a0.eval g=.func (.func it.f) #[] cvs.toArray:=by rw[fZ,g3];exact hE
  simp only[Wt,this];simp[go_sem]
 ·simp[V2,go_sem,kE hb]
 ·have ht:(#[.func (.yield<|w.heap.size+1) #[] #[]]++cvs.toArray:uL wN)=(Value.func (.yield<|w.heap.size+1) #[] #[]::cvs).toArray:=by simp
  rw[ht];refine CallsIn.mono (callsIn_wide.2 hq) ?_;rintro e w3 ⟨⟨v,rfl⟩,u',hs⟩
  cases hP:r' with
  |inl x=>
   rw[hP]at hs h4;obtain⟨hu,hd⟩:=close rR x u' w3 hs;refine⟨wF,_,by have:=run_endLoop (P:=P) hu (by rw[hj];simp);rw[hj]at this;exact this,?_⟩;exact⟨g1,w.heap.size::Ds,by show[mkD w.heap.size]++a0.defers=_;rw[g2];rfl,hK .n _ h4 _ _ _ (by rw[<-g3];exact n8.refl)<|by rw[<-g3]at hd;exact hd _⟩
  |inr x=>
   rw[hP]at hs h4;obtain⟨hu,hd⟩:=close rD x u' w3 hs;refine⟨Z<|tgC τ,_,by have:=run_endLoop (P:=P) hu (by rw[hn];simp);rw[hn]at this;exact this,?_⟩;have fin:∀o,zkG N Q (tgE τ) {a0 with defers:=[mkD w.heap.size]++a0.defers} (w3.putObj (w.heap.size+1) (.loop o)):=λo=>⟨g1,w.heap.size::Ds,by show[mkD w.heap.size]++a0.defers=_;rw[g2];rfl,hK τ _ h4 _ _ _ (by rw[<-g3];exact n8.refl)<|by rw[<-g3]at hd;exact hd _⟩
   cases τ with
   |n=>exact wpIn_skip<|fin _
   |x i=>exact wpIn_exit<|fin _
   |r=>exact wpIn_ret<|fin _
end
end
section
section
variable{P:jP}{cf:Cf}
def XO(B:P.follows .mixedOrders=wL)(C:yY P cf.tt)(D:uI P cf.tt)(F:∀s∈cf.cs,xt P s)(A:ED P cf){n:wr}:∀(c:Wr),TU n c=wL->GN P cf n c
 |.skip,_,R,r,fr,cx,σ,K,Q,N,q,v,h,Ds,env,w,o,i=>λ_ h1 H L=>wpIn_skip ⟨h1,Ds,H,L▸o .n σ h Ds env w n8.refl i⟩
 |.label _,_,R,r,fr,cx,σ,K,Q,N,q,v,h,Ds,env,w,o,i=>λ_ h1 H L=>wpIn_label ⟨h1,Ds,H,L▸o .n σ h Ds env w n8.refl i⟩
 |.exit id,_,R,r,fr,cx,σ,K,Q,N,q,v,h,Ds,env,w,o,i=>λ_ h1 H L=>wpIn_exit ⟨h1,Ds,H,L▸o (.x id) σ h Ds env w n8.refl i⟩
 |.ret,_,R,r,fr,cx,σ,K,Q,N,q,v,h,Ds,env,w,o,i=>λ_ h1 H L=>wpIn_ret ⟨h1,Ds,H,L▸o .r σ h Ds env w n8.refl i⟩
 |.scope c,p,R,r,fr,cx,σ,K,Q,N,q,v,h,Ds,env,w,o,i=>by
  refine zcr<|XO B C D F A c p (K:=K) q v h (λt σ' u l d w' z i=> ?_) i;have:=o t σ' u l d w' z i;cases t<;>exact this
 |.region id a2 dr,p,R,r,fr,cx,σ,K,Q,N,q,v,h,Ds,env,w,o,i=>by
  subst q;refine zlN ?_;have:=zez (id:=id) (N:=N.wd Ds) (fr:=fr.wd Ds) B C D F A (Q:=λe env w=>Q e Ds env w) (k:=λσ=>K .n σ) (λσ' u d w' z i=>o .n σ' u Ds d w' z i) p h i;rwa[xcX]at this
 |.cond c a b,p,R,r,fr,cx,σ,K,Q,N,q,v,h,Ds,env,w,o,i=>by
  have p:=(xac _ _).mp p;have hd:N.rd=wF\/H2 a=wL:=v.imp id λh=>((xac _ _).mp h).1;have hf:N.rd=wF\/H2 b=wL:=v.imp id λh=>((xac _ _).mp h).2;simp only[den]at h;have⟨hB,vs,ht⟩:=i;have i:Yw P (fr.wd Ds) cx σ env w:=⟨hB,vs,ht⟩;have⟨S,_,M⟩:=ht.ex;split at h
  ·next hv=>exact CG (zj hv<|zS M c)<|XO B C D F A a p.1 q hd h o i
  ·next hv=>exact DY (zj hv<|zS M c)<|XO B C D F A b p.2 q hf h o i
  ·next x hv=>
   have hx:ev env c=.bool x:=nT<|zj hv<|zS M c;rcases NT h with⟨rfl,h⟩|⟨rfl,h⟩
   ·exact CG hx<|XO B C D F A a p.1 q hd h o i
   ·exact DY hx<|XO B C D F A b p.2 q hf h o i
  ·cases h
 |.block id c,p,R,r,fr,cx,σ,K,Q,N,q,v,h,Ds,env,w,o,i=>by
  refine Gy (XO B C D F A c p (K:=λt σ=>match t with
   |.x j=>OA (E j id) (K .n σ)<|K (.x j) σ
   |t=>K t σ) q v h (λt σ' u l d w' z i=> ?_) i)
  cases t with
  |n=>exact o .n σ' u l d w' z i
  |r=>exact o .r σ' u l d w' z i
  |x j=>
   simp only at u;show Ia id Q (.exit j) l d w';simp only[Ia];cases hb:E j id<;>rw[hb]at u
   ·exact o (.x j) σ' u l d w' z i
   ·exact o .n σ' u l d w' z i
 |.seq a b,p,R,r,fr,cx,σ,K,Q,N,q,v,h,Ds,env,w,o,i=>by
  have p:=(xac _ _).mp p;have hd:N.rd=wF\/H2 a=wL:=v.imp id λh=>((xac _ _).mp h).1;have hf:N.rd=wF\/H2 b=wL:=v.imp id λh=>((xac _ _).mp h).2;simp only[den]at h;split at h
  ·refine Be<|XO B C D F A a p.1 q hd h (λt σ' u l d w' z i=> ?_) i
   cases t with
   |n=>exact XO B C D F A b p.2 q hf u (λt T hi U J w2 hj hn=>o t T hi U J w2 (z.trans hj) hn) i
   |x j=>exact o (.x j) σ' u l d w' z i
   |r=>exact o .r σ' u l d w' z i
  ·next s z=>
   have⟨x,h1,H⟩:=r9 h;have⟨hc,hp⟩:=DA (ag:=EC a) (ro:=s.ro) i
   refine Be (zd0 (XO B C D F A a p.1 (Q:=λe Ds d w=>∃t m,e=tgE t/\(match t with
    |.n=>den cf b cx m K
    |t=>K t m)=Z r/\n8 cx env d/\Yw P (fr.wd Ds) cx m d w) q hd h1 (λt σ' u l d w' z i=> ?_) hp) ?_)
   ·have⟨y,m,e1,Y,e3⟩:=zau (P:=P) hc u;cases e1
    have e4:=(Y λt σ=>match t with
     |.n=>den cf b cx σ K
     |t=>K t σ).symm.trans H
    exact⟨t,m,O,by cases t<;>exact e4,λe he=>z e<|So.2 (.inr he),e3 _ d w' i⟩
   ·rintro e l d w' ⟨t,m,rfl,u,hq,i⟩
    cases t with
    |n=>exact XO B C D F A b p.2 q hf u (λt T hi U J w2 hj hn=>o t T hi U J w2 (hq.trans hj) hn) i
    |x j=>exact o (.x j) m u l d w' hq i
    |r=>exact o .r m u l d w' hq i
 |.loop c,p,R,r,fr,cx,σ,K,Q,N,q,v,h,Ds,env,w,o,i=>by
  simp only[den]at h;split at h
  ·cases h
  ·next s z=>
   have⟨hc,hp⟩:=DA (ag:=EC c) (ro:=s.sg.ro) i;have⟨x,h1,H⟩:=tS (P:=P) (cx:=kJ cx<|keep σ (EC c) s.sg.ro) (kp:=⟨(keep σ (EC c) s.sg.ro).nx,[],[]⟩) h<|HO hc;have⟨s0,L,h4⟩:=r9 h1;refine OB (G:=wr×Q2 s.hd.ds) (λg Ds d w=>zg _ g.1 g.2=Z s0/\n8 cx env d/\Yw P (fr.wd Ds) (kJ cx<|keep σ (EC c) s.sg.ro) (Ua s.hd g.2 ⟨(keep σ (EC c) s.sg.ro).nx,[],[]⟩) d w) (λg=>g.1) (cf.fu,x) ⟨L,n8.refl,H _ env w hp⟩ ?_;rintro⟨n',x⟩ Ds a1 w ⟨hl,hA,i⟩
   cases n' with
   |zero=>exact(zby hl).elim
   |succ n'=>
    refine XO B C D F A c p q v (zbN hl) (λt σ' u l d w' z i=> ?_) i;have hu:n8 cx env d:=hA.trans λe he=>z e<|So.2 (.inr he);have a0:(∀(y:SmD s.sg.tg) (m:Sg),Z y=Z s0->(∀{R':Type} (K:Tg->Sg->V R'),P1 (keep σ (EC c) s.sg.ro) K s.sg.tg y=K t m)->Yw P (fr.wd l) cx m d w'->Q (tgE t) l d w'):=λy m e1 Y e3=>by
     cases e1;exact o t m (by rw[<-h4];exact(Y K).symm) l d w' hu e3
    cases t with
    |n=>
     have⟨x',h5,h6⟩:=tS (P:=P) (cx:=kJ cx<|keep σ (EC c) s.sg.ro) (kp:=⟨(keep σ (EC c) s.sg.ro).nx,[],[]⟩) u<|HO hc;exact⟨(n',x'),⟨h5,hu,h6 _ d w' i⟩,xbR n'⟩
    |x j=>
     have⟨y,m,e1,Y,e3⟩:=zau (P:=P) hc u;exact a0 y m e1 Y<|e3 _ d w' i
    |r=>
     have⟨y,m,e1,Y,e3⟩:=zau (P:=P) hc u;exact a0 y m e1 Y<|e3 _ d w' i
 |.rangeFunc g ps a c,p,R,r,fr,cx,σ,K,Q,N,q,v,h,Ds,env,w,o,i=>by
  have p:=(xac _ _).mp p;have hw:=(xac _ _).mp p.2;simp only[den]at h;split at h
  ·next f cs s pt hg z hI=>
   split at h
   ·next it τ sh hD hJ hE=>
    split at h
    ·next y hy=>
     have⟨hr,h⟩:=z7 h;rw[xac]at hr;have⟨hF,hG⟩:=zgH hD;subst hG;have hz:ps= #[pt]:=by cases ps;simp_all
     subst hz;have hH:pt<n:=by
      have:=p.1;simpa using this
     subst q;exact zh3 A (XO B C D F A a hw.1) (XO B C D F A c hw.2) hr.1 hr.2 (v.resolve_right<|by simp[H2]) hH hg hF hy hE h o i
    ·cases h
   ·cases h
  ·cases h
 |.refuse _,_,R,r,fr,cx,σ,K,Q,N,q,v,h,_,_,_,_,_=>by cases h
 |.goto _,_,R,r,fr,cx,σ,K,Q,N,q,v,h,_,_,_,_,_=>by cases h
end
end
section
def jr:N K->wP->wP
 |[],w=>w
 |D::Ds,w=>jr Ds<|w.putObj D (.deferred wF)
def DK:N K->wP->Prop
 |[],_=>XS
 |D::Ds,w=>w.heap[D]? =Z (.deferred<|some [])/\DK Ds (w.putObj D (.deferred wF))
def mTk(D:K):MF where
 blk k:=k=D
 p _ w:=w.heap[D]? =Z (.deferred wF)
 keep h _ hb:=(hb D O).trans h
 sub h _:=h
 lt h k a:=by subst a;exact(xbk.1 h).1
section
variable{P:jP}{cf:Cf}{fr:Fr}{cx σ:Sg}{env:y7}
def JR:∀{Ds:N K}{w:wP},Yw P (fr.wd Ds) cx σ env w->DK Ds w/\Yw P fr cx σ env (jr Ds w)
 |[],w,h=>⟨wR,h⟩
 |D::Ds,w,h=>by
  have h1:w.heap[D]? =Z (.deferred<|some []):=HT h (m:=vJ D) (H1) λS hp=>hp;have c:=IZ (A:=[]) (m:=vJ D) (m':=mTk D) (B:=Ds.map vJ++fr.F) h (λk=>Iff.rfl) (λk h=>h) (o:=.deferred wF) λS w' h=>h;have d:Yw P (fr.wd Ds) cx σ env (w.putObj D (.deferred wF)):=by
   have⟨e,vs,f⟩:=c;refine⟨e,vs,?_⟩;have a:St fr.we fr.Se ((MS vs σ.ob++MS vs cx.ob)++([mTk D]++(Ds.map vJ++fr.F))) (RS P vs env σ.rg++(RS P vs env cx.rg++fr.G)) (w.putObj D (.deferred wF)):=by
    have:St fr.we fr.Se (MS vs σ.ob++(MS vs cx.ob++([]++mTk D::(Ds.map vJ++fr.F)))) (RS P vs env σ.rg++(RS P vs env cx.rg++fr.G)) (w.putObj D (.deferred wF)):=f;simpa only[xad,xbA,xfI]using this
   have b:=St.dropM a;show St fr.we fr.Se (MS vs σ.ob++(MS vs cx.ob++(Ds.map vJ++fr.F))) (RS P vs env σ.rg++(RS P vs env cx.rg++fr.G)) _;simpa only[xad]using b
  have⟨a,b⟩:=JR d;exact⟨⟨h1,a⟩,b⟩
def dR{F:Fence}{n:K}{fn:JP}{tmps:uL wN}{Q:Ending->wP->Prop}:∀{Ds:N K}{w:wP},DK Ds w->(∃v,(Jp fn tmps).run P (jr Ds w)=.ok v (jr Ds w)/\Q (.returned v) (jr Ds w))->LeavesInM F n P fn tmps Q (Ds.map mkD) .returning w
 |[],w,_,h=>h
 |D::Ds,w,a,h=>⟨i7,.inl ⟨D,_,O,run_takeDeferred a.1,dR a.2 h⟩⟩
def UX{f:Z4}{fn:JP}{c:Wr}{args:N wN}{w:wP}{Q:Ending->wP->Prop}(i:P.funcs[f]? =Z fn)(k:fn.body=Z c)(hn:xgg (X args) fn.ntmps=wL)
 (h:∀rest,LV P (Nd.of fn.ntmps) c (λe Ds env w=>(e=.normal\/e=.ret)/\DK Ds w/\∀a:Kw,yJ a=env->∃v,(Jp fn a.tmps).run P (jr Ds w)=.ok v (jr Ds w)/\Q (.returned v) (jr Ds w)) [] (L ((args.zipIdx 0).map λx=>(x.2,x.1)) rest) w):
 UP P f args.toArray w Q:=by
 have hn:=xbK hn;refine callsIn_wide.1<|callsIn_of_wp_marks (n:=0) i k wR ?_;have l:Kl (yJ ⟨args.toArray++xeL (fn.ntmps-args.toArray.size) uT,[]⟩) ((args.zipIdx 0).map λx=>(x.2,x.1)):=by
  refine lU args 0 _ λj=> ?_;rw[CW];simp[xbl,FS]
 refine V0 (h _ _ (by simp[Nd.of];lia) O (be l).symm) ?_;rintro e b w' ⟨q1,Ds,q2,m,d,hv⟩;have⟨v,h1,g⟩:=hv b O;obtain rfl|rfl:=m
 ·show LeavesInM _ _ P fn b.tmps Q b.defers .returning w';rw[q2];exact dR d ⟨v,h1,g⟩
 ·show LeavesInM _ _ P fn b.tmps Q b.defers .returning w';rw[q2];exact dR d ⟨v,h1,g⟩
end
end
section
section
variable{P:jP}{cf:Cf}{fr:Fr}{σ:Sg}{vs:wr->wN}{env:y7}{w:wP}{R:Type}{r:R}
def P5{rest:y7}:∀{l:N wN}{i j:K}{v:wN},l[j]? =Z v->L ((l.zipIdx i).map λx=>(x.2,x.1)) rest (i+j)=v
 |a::l,i,0,v,h=>by
  simp only[xby,xat]at h;simp[L,h]
 |a::l,i,j+1,v,h=>by
  simp only[List.zipIdx_cons,xbS,L];rw[zeE (W:i+(j+1)≠i)];have:=P5 (rest:=rest) (l:=l) (i:=i+1) (j:=j) (v:=v) (by simpa using h);rw[(W:i+1+j=i+(j+1))]at this;exact this
def Sm:∀{dom:N AM}{x:fE dom}{i:K}{l:N wN},X l=X dom->(∀j v,l[j]? =Z v->vs (i+j)=v)->MS vs (XH dom x i).2=YX dom x l
 |[],_,_,_,_,_=>rfl
 |a::dom,x,i,[],hl,_=>by cases hl
 |a::dom,x,i,v::l,hl,h=>by
  have b:MS vs (XH dom x.2<|i+1).2=YX dom x.2 l:=Sm (by simpa using hl) λj v d=>by
   have:=h (j+1) v (by simpa using d);rw[<-this];congr 1;lia
  have h0:vs i=v:=h 0 v O
  cases a with
  |own t E=>
   show mO t.rep E (vs i) x.1::MS vs (XH dom x.2<|i+1).2=mO t.rep E v x.1::YX dom x.2 l;rw[b,h0]
  |var t E=>
   show mP t.rep.c E (vs i) x.1::MS vs (XH dom x.2<|i+1).2=mP t.rep.c E v x.1::YX dom x.2 l;rw[b,h0]
  |_=>exact b
def zap{S:K->Prop}:∀{dom:N AM}{x:fE dom}{i:K}{l:N wN},X l=X dom->(∀j v,l[j]? =Z v->vs (i+j)=v/\env (i+j)=v)->zE S (ZE P dom x l) w->zE S (RS P vs env (XH dom x i).1) w
 |[],_,_,_,_,_,_=>trivial
 |a::dom,x,i,[],hl,_,_=>by cases hl
 |a::dom,x,i,v::l,hl,h,k=>by
  have c:zE S (RS P vs env (XH dom x.2<|i+1).1) w:=zap (l:=l) (by simpa using hl) (λj v m=>by
   have:=h (j+1) v (by simpa using m);rw[(W:i+1+j=i+(j+1))];exact this) k.2
  have h0:vs i=v/\env i=v:=h 0 v O;have g:(amF P a x.1 v).p S w:=k.1
  cases a with
  |d t=>exact⟨show(fV t.rep x.1<|env i).p S w by rw[h0.2];exact g,c⟩
  |q t=>exact⟨show(fP t.rep x.1<|env i).p S w by rw[h0.2];exact g,c⟩
  |own t E=>exact⟨show env i=vs i by rw[h0.1,h0.2],c⟩
  |var t E=>
   have⟨b,n⟩:=g;exact⟨⟨show env i=vs i by rw[h0.1,h0.2],b,h0.1.trans n⟩,c⟩
  |fn e f=>exact⟨show(fnF P e f x.1<|env i).p S w by rw[h0.2];exact g,c⟩
def SO:∀{dom:N AM}{x:fE dom}{i:K},∀e∈(XH dom x i).2,e.1<i+X dom
 |[],_,_,e,he=>wS he Nm
 |a::dom,x,i,e,he=>by
  have b:∀e∈(XH dom x.2<|i+1).2,e.1<i+X (a::dom):=λe he=>by
   have:=SO e he;simp only[xax];lia
  cases a with
  |own t E=>
   rcases xaf.1 (show e∈(i,Od.own t E x.1)::(XH dom x.2<|i+1).2 from he)with rfl|he
   ·simp only[xax];lia
   ·exact b e he
  |var t E=>
   rcases xaf.1 (show e∈(i,Od.var t E x.1)::(XH dom x.2<|i+1).2 from he)with rfl|he
   ·simp only[xax];lia
   ·exact b e he
  |_=>exact b e he
def IW:∀{dom:N AM}{x:fE dom}{i:K},∀e∈(XH dom x i).1,∀p,vt e.2.2=Z p->p<i+X dom
 |[],_,_,e,he=>wS he Nm
 |a::dom,x,i,e,he=>by
  intro p hp;have b:∀e∈(XH dom x.2<|i+1).1,∀p,vt e.2.2=Z p->p<i+X (a::dom):=λe he p hp=>by
   have:=IW e he p hp;simp only[xax];lia
  cases a with
  |own t E=>
   rcases xaf.1 (show e∈(i,0,Dv.ow i)::(XH dom x.2<|i+1).1 from he)with rfl|he
   ·cases hp;simp only[xax];lia
   ·exact b e he p hp
  |var t E=>
   rcases xaf.1 (show e∈(i,0,Dv.vs i t)::(XH dom x.2<|i+1).1 from he)with rfl|he
   ·cases hp;simp only[xax];lia
   ·exact b e he p hp
  |d t=>
   rcases xaf.1 (show e∈(i,0,Dv.d t x.1)::(XH dom x.2<|i+1).1 from he)with rfl|he
   ·cases hp
   ·exact b e he p hp
  |q t=>
   rcases xaf.1 (show e∈(i,0,Dv.q t x.1)::(XH dom x.2<|i+1).1 from he)with rfl|he
   ·cases hp
   ·exact b e he p hp
  |fn d c=>
   rcases xaf.1 (show e∈(i,0,Dv.fp d c x.1)::(XH dom x.2<|i+1).1 from he)with rfl|he
   ·cases hp
   ·exact b e he p hp
def Uk:∀(l:N WP) (ms:N RM) {σ:Sg},Yw P fr ⟨0,[],[]⟩ σ env w->Yw P fr ⟨0,[],[]⟩ (cj σ l ms) env w
 |[],_,_,h=>by unfold cj;exact h
 |.tmp t::l,[],_,h=>by unfold cj;exact h
 |.tmp t::l,.d _::ms,_,h=>by unfold cj;exact Uk l ms<|Lb _ h
 |.tmp t::l,.own _ _::ms,_,h=>by unfold cj;exact Uk l ms h
 |.tmp t::l,.var _ _::ms,_,h=>by unfold cj;exact Uk l ms h
 |.cell t E::l,[],_,h=>by unfold cj;exact h
 |.cell t E::l,m::ms,_,h=>by unfold cj;exact Uk l ms h
def zga(H:yY P cf.tt){p:WP}{m:RM}{k:m.D->N K->V R}(h:DD cf σ p m k=Z r):∃x os,k x os=Z r/\
 ∀vs (fr:Fr) env (A:N MF) (Γ:N FF) w (f:N K),(∀S w,zE S Γ w->∀t,Lk P vs env S w ⟨0,[],[]⟩ σ t)->(∀o∈os,lk f o=I)->St fr.we fr.Se (A++OS vs fr ⟨0,[],[]⟩ (qh σ.ob f)) Γ w->
  ∃v,zje P w env p v/\St fr.we fr.Se (rmM m x v++(A++OS vs fr ⟨0,[],[]⟩ (qh σ.ob<|os++f))) (rmF m x v++Γ) w:=by
 cases p with
 |tmp t=>
  cases m with
  |d s=>
   simp only[DD]at h;have hc:=h;have⟨y,h,J⟩:=zeg h;refine⟨y,[],h,λvs fr env A Γ w f hl _ g=>⟨env t,O,?_⟩⟩;refine g.weak λS w a=>⟨?_,a⟩
   cases l:get ⟨0,[],[]⟩ σ t 0 with
   |none=>rw[l]at hc;cases hc
   |some v=>exact J P vs S w v _ l<|hl S w a t 0 v l
  |own s E=>
   simp only[DD]at h;have⟨x,os,h1,_,n,j⟩:=Iq h;refine⟨x,os,h1,λvs fr env A Γ w f hl hn g=>⟨env t,O,?_⟩⟩;exact j P vs fr env A Γ w f (λS w a=>hl S w a t) hn g
  |var s E=>
   simp only[DD]at h;have⟨x,os,h1,_,n,j⟩:=Iq h;refine⟨x,os,h1,λvs fr env A Γ w f hl hn g=>⟨env t,O,?_⟩⟩;have q:=j P vs fr env A Γ w f (λS w a=>hl S w a t) hn g;exact q.weak λS w a=>⟨(n P vs env S w<|hl S w a).2,a⟩
 |cell t E=>
  cases m with
  |own s B=>simp only[DD]at h;cases h
  |var s B=>simp only[DD]at h;cases h
  |d s=>
   simp only[DD]at h;split at h
   ·next o Y C l L=>
    split at h
    ·next s' B z M=>
     have⟨u,h1⟩:=z7 h;have u:=zO u;subst u;have⟨e,n⟩:=yj h1;cases e;have⟨e,j⟩:=yj n;cases e;refine⟨_,[o],j,λvs fr env A Γ w f hl hn g=> ?_⟩;have hp:=jv (vs:=vs) (fr:=fr) (cx:=⟨0,[],[]⟩)<|(ji<|hn o<|H1).trans M;have j:=St.mid<|St.perm g<|xbL _ hp;have⟨S,_,a⟩:=g.ex;have⟨hv,b,F⟩:=hl S w a t 0 _ l;have⟨⟨G,ht,_⟩,_⟩:=H E C L;have q:St fr.we fr.Se (mP C.ty.rep.c E (vs o) z::(A++OS vs fr ⟨0,[],[]⟩ (yw (qh σ.ob f) o))) Γ w:=j;have⟨b',hd,Q⟩:=q.openP 0 O;rw[F]at hd;cases hd;refine zht 0 Q O (hv.trans F) ht λv T U=>⟨v,U,?_⟩;exact St.drop (i:=0) T
    ·cases h
   ·cases h
def zag(e:yY P cf.tt):∀{a:N WP}{cod:N RM}{k:mH cod->N K->V R},Rp cf σ a cod k=Z r->∃x os,k x os=Z r/\
 ∀vs (fr:Fr) env (Γ:N FF) w,(∀S w,zE S Γ w->∀t,Lk P vs env S w ⟨0,[],[]⟩ σ t)->St fr.we fr.Se (OS vs fr ⟨0,[],[]⟩ σ.ob) Γ w->
  ∃us,X us=X cod/\eN P w env a us/\St fr.we fr.Se (YH cod x us++OS vs fr ⟨0,[],[]⟩ (qh σ.ob os)) (YL cod x us++Γ) w
 |[],[],k,h=>⟨(),[],h,λvs fr env Γ w _ b=>⟨[],O,wR,b⟩⟩
 |[v],[m],k,h=>by
  have⟨x,os,h1,f⟩:=zga e (h:DD cf σ v m k=Z r);refine⟨x,os,h1,λvs fr env Γ w hl b=> ?_⟩;have⟨u,c,d⟩:=f vs fr env [] Γ w [] hl (λ_ _=>O) b;rw[xbO]at d;exact⟨[u],O,⟨c,wR⟩,d⟩
 |v::q::a,m::m'::ms,k,h=>by
  have⟨x,o,h1,f⟩:=zga e (h:DD cf σ v m _=Z r);have⟨y,os,c,d⟩:=zag e h1;have⟨hn,c⟩:=z7 c;refine⟨(x,y),o++os,c,λvs fr env Γ w hl b=> ?_⟩;have⟨us,i,j,l⟩:=d vs fr env Γ w hl b;have⟨u,n,p⟩:=f vs fr env (YH (m'::ms) y us) (YL (m'::ms) y us++Γ) w os (λS w g=>hl S w<|zE.right g) (Ig hn) l;refine⟨u::us,by simpa using i,⟨n,j⟩,?_⟩;show St _ _ ((rmM m x u++YH (m'::ms) y us)++_) ((rmF m x u++YL (m'::ms) y us)++Γ) w;rw[xad,xad];exact p
 |[],_::_,_,h=>by cases h
 |[_],[],_,h=>by cases h
 |[_],_::_::_,_,h=>by cases h
 |_::_::_,[],_,h=>by cases h
 |_::_::_,[_],_,h=>by cases h
def SL(C:P.follows .mixedOrders=wL)(A:yY P cf.tt)(D:uI P cf.tt)(E:∀s∈cf.cs,xt P s)(H:ED P cf){s:VM}{fn:JP}
 (J:P.funcs[s.f]? =Z fn) (K:EB P s.f=wL) (g:s.bk=0) (L:∀x r,s.M x=Z r->SD cf fn s.dom s.cod x=Z r):xt P s:=by
 refine⟨K,λx r h vs hd=> ?_⟩;rw[g];show FnG P s.f vs.toArray (YX s.dom x vs) (ZE P s.dom x vs) XJ (λus=>YH s.cod r us) (λus=>YL s.cod r us) (λus=>X us=X s.cod);have h:=L x r h;unfold SD at h;split at h
 ·next c hc=>
  have⟨l,h⟩:=z7 h;rw[xac]at l;intro we Se F G w m;refine UX J hc (by rw[hd];exact l.2) λrest=> ?_;refine XO (fr:=⟨we,Se,F,G⟩) (N:=Nd.of fn.ntmps) C A D E H c l.1 O (.inl O) h (λt σ' g Ds env w _ q=> ?_) ?_
  ·have⟨hi,q⟩:=JR q
   have i:Rp cf (cj σ' fn.results.toList s.cod) fn.results.toList s.cod (λy _=>Z y)=Z r->∀a:Kw,yJ a=env->
    ∃v,(Jp fn a.tmps).run P (jr Ds w)=.ok v (jr Ds w)/\∃u:xS wN,xeR v=.returned (XJ u)/\X u=X s.cod/\St we Se (YH s.cod r u++F) (YL s.cod r u++G) (jr Ds w):=λh a Q=>by
    have hl:=Uk fn.results.toList s.cod q;generalize cj σ' fn.results.toList s.cod=z at h hl;have⟨Y,vs,m⟩:=hl;have⟨y,os,e1,T⟩:=zag A h;cases e1;have⟨us,h1,U,V⟩:=T vs ⟨we,Se,F,G⟩ env _ _ (λS w b t=>XM b t) m;refine⟨_,VC (rs:=fn.results.toList) (by rw[xcX])<|Q▸U,us,O,h1,?_⟩;exact(St.dropM (B:=MS vs<|qh z.ob os) V).weak λS w b=>zE.append (zE.left b)<|zE.right<|zE.right b
   cases t with
   |n=>exact⟨.inl O,hi,i g⟩
   |r=>exact⟨.inr O,hi,i g⟩
   |x j=>cases g
  ·have e0:∀j v,vs[j]? =Z v->vs.getD (0+j) uT=v:=λj v k=>by rw[xaK,FS,k];rfl
   refine⟨⟨λe d=> ?_,λ_ d=>wS d Nm,λe d p hp=> ?_,λ_ d=>wS d Nm⟩,λo=>vs.getD o uT,?_⟩
   ·have:=SO e d;simpa using this
   ·have:=IW e d p hp;simpa using this
   ·have e1:MS (λo=>vs.getD o uT) (XH s.dom x 0).2=YX s.dom x vs:=Sm hd e0;show St we Se (MS _ (XH s.dom x 0).2++([]++F)) _ w;rw[e1];exact m.weak λS w b=>zE.append (zap hd (λj v k=>⟨e0 j v k,P5 k⟩)<|zE.left b)<|zE.right b
 ·cases h
def zgg{S:K->Prop}{b:K->wN}:∀{dom:N AM}{i:K},(∀j,j<X dom->env (i+j)=b (i+j))->zE S (RS P vs env<|B5 b dom i) w
 |[],_,_=>trivial
 |a::dom,i,h=>by
  have c:zE S (RS P vs env<|B5 b dom<|i+1) w:=zgg λj d=>by
   have:=h (j+1) (by simp only[xax];lia);rw[(W:i+1+j=i+(j+1))];exact this
  cases a with
  |own t E=>exact⟨h 0 i7,c⟩
  |var t E=>exact⟨h 0 i7,c⟩
  |_=>exact c
def gK{S:K->Prop}{l:N wN}:∀{dom:N AM}{i:K}{us:N wN},zE S (RS P vs env<|B5 (λo=>l.getD o uT) dom i) w->eN P w env (FE dom i) us->us=J8 dom (l.drop i)
 |[],_,[],_,_=>rfl
 |[],_,_::_,_,h=>h.elim
 |a::dom,i,us,e,h=>by
  have e0:(l.drop i).headD uT=l.getD i uT:=by rw[List.headD_eq_head?_getD,List.head?_drop,FS]
  have e1:(l.drop i).tail=l.drop (i+1):=by rw[List.tail_drop]
  cases a with
  |own t E=>
   cases us with
   |nil=>exact h.elim
   |cons u us=>
    have h1:env i=u:=h.1;have f:env i=l.getD i uT:=e.1;have b:=gK (dom:=dom) (i:=i+1) e.2 h.2;show u::us=(l.drop i).headD uT::J8 dom (l.drop i).tail;rw[e0,e1,<-b,<-h1,f]
  |var t E=>
   cases us with
   |nil=>exact h.elim
   |cons u us=>
    have h1:env i=u:=h.1;have f:env i=l.getD i uT:=e.1;have b:=gK (dom:=dom) (i:=i+1) e.2 h.2;show u::us=(l.drop i).headD uT::J8 dom (l.drop i).tail;rw[e0,e1,<-b,<-h1,f]
  |d t=>
   have b:=gK (dom:=dom) (i:=i+1) e h;show us=J8 dom (l.drop i).tail;rw[e1];exact b
  |q t=>
   have b:=gK (dom:=dom) (i:=i+1) e h;show us=J8 dom (l.drop i).tail;rw[e1];exact b
  |fn d c=>
   have b:=gK (dom:=dom) (i:=i+1) e h;show us=J8 dom (l.drop i).tail;rw[e1];exact b
def DG:∀{a b:N WP}{us:N wN},eN P w env (a++b) us->eN P w env a (us.take (X a))/\eN P w env b (us.drop (X a))
 |[],b,us,h=>⟨wR,h⟩
 |r::a,b,[],h=>h.elim
 |r::a,b,u::us,h=>by
  have⟨h1,c⟩:=DG (a:=a) (b:=b) h.2;exact⟨⟨h.1,h1⟩,c⟩
def gy{b:K->wN}:∀{dom:N AM}{i:K},∀e∈B5 b dom i,vt e.2.2=wF
 |[],_,e,he=>wS he Nm
 |a::dom,i,e,he=>by
  cases a with
  |own t E=>
   rcases xaf.1 (show e∈(i,0,Dv.pin<|b i)::B5 b dom (i+1)from he)with rfl|he
   ·rfl
   ·exact gy e he
  |var t E=>
   rcases xaf.1 (show e∈(i,0,Dv.pin<|b i)::B5 b dom (i+1)from he)with rfl|he
   ·rfl
   ·exact gy e he
  |d t=>exact gy (dom:=dom) (i:=i+1) e he
  |q t=>exact gy (dom:=dom) (i:=i+1) e he
  |fn d c=>exact gy (dom:=dom) (i:=i+1) e he
def zma(Y:P.follows .mixedOrders=wL)(D:yY P cf.tt)(hL:uI P cf.tt)(hC:∀s∈cf.cs,xt P s)(hX:ED P cf){s:VM}{fn:JP}
 (hf:P.funcs[s.f]? =Z fn) (hb:EB P s.f=wL) (hM:∀pn x r,s.M x=Z r->zji cf fn s.dom s.cod s.bk pn x=Z r):xt P s:=by
 refine⟨hb,λx r h vs hd=> ?_⟩;have h:=hM (λo=>vs.getD o uT) x r h;unfold zji at h;split at h
 ·next c hc=>
  have⟨E,h⟩:=z7 h;simp only[xac]at E;have⟨⟨⟨⟨hz,hA⟩,H⟩,hG⟩,J⟩:=E;have H:=zO H;have J:0<s.bk:=Nat.blt_eq.mp J;have⟨b,hD⟩:∃b,s.bk=b+1:=⟨s.bk-1,W⟩;rw[hD];intro we Se F G w hl;refine UX hf hc (by rw[hd];exact hA) λrest=> ?_;have e0:∀j v,vs[j]? =Z v->vs.getD (0+j) uT=v:=λj v i=>by rw[xaK,FS,i];rfl
  refine XO (fr:=⟨we,Se,F,G⟩) (N:=Nd.of fn.ntmps) Y D hL hC hX c hz O (.inl O) h (λt σ' z Ds env w _ A=> ?_) ?_
  ·have⟨ht,A⟩:=JR A
   have k:Rp cf (cj σ' (fn.results.toList++FE s.dom 0) s.cod) (fn.results.toList++FE s.dom 0) s.cod (λy _=>Z y)=Z r->∀a:Kw,yJ a=env->
    ∃v,(Jp fn a.tmps).run P (jr Ds w)=.ok v (jr Ds w)/\∃u:xS wN,xeR v=.returned (znJ (b+1) (X s.cod) u)/\zkS s.dom vs (b+1) (X s.cod) u/\St we Se (YH s.cod r u++F) (YL s.cod r u++G) (jr Ds w):=λh a q=>by
    have⟨Q,l,hi⟩:=A;have⟨S0,_,hE⟩:=hi.ex;have hv:zE S0 (RS P l env<|B5 (λo=>vs.getD o uT) s.dom 0) _:=zE.left<|zE.right hE;have hF:Yw P ⟨we,Se,F,G⟩ ⟨0,[],[]⟩ σ' env (jr Ds w):=⟨⟨Q.o1,λ_ g=>wS g Nm,Q.r1,λ_ g=>wS g Nm⟩,l,hi.weak λS w q=>zE.append (zE.left q)<|zE.right<|zE.right q⟩;have T:=Uk (fn.results.toList++FE s.dom 0) s.cod hF;generalize cj σ' (fn.results.toList++FE s.dom 0) s.cod=C at h T;have⟨hB,m,hl⟩:=T;have⟨y,os,e1,e2⟩:=zag D h;cases e1;have⟨us,h1,h2,h3⟩:=e2 m ⟨we,Se,F,G⟩ env _ _ (λS w d t=>XM d t) hl;have⟨h4,h5⟩:=DG h2;have hn:X s.cod-(b+1)=X fn.results.toList:=W
    have U:=gK hv h5;rw[List.drop_zero]at U;refine⟨_,VC (rs:=fn.results.toList) (by rw[xcX])<|q▸h4,us,?_,⟨h1,by rw[hn];exact U⟩,?_⟩
    ·show xeR _=.returned (XJ<|us.take<|X s.cod-(b+1));rw[hn]
    ·exact(St.dropM (B:=MS m<|qh C.ob os) h3).weak λS w d=>zE.append (zE.left d)<|zE.right<|zE.right d
   cases t with
   |n=>exact⟨.inl O,ht,k z⟩
   |r=>exact⟨.inr O,ht,k z⟩
   |x j=>cases z
  ·refine⟨⟨λe g=> ?_,λ_ g=>wS g Nm,λe g p hp=> ?_,λe g p hp=> ?_⟩,λo=>vs.getD o uT,?_⟩
   ·have:=SO e g;simpa using this
   ·have:=IW e g p hp;simpa using this
   ·rw[gy e g]at hp;cases hp
   ·have e1:MS (λo=>vs.getD o uT) (XH s.dom x 0).2=YX s.dom x vs:=Sm hd e0;show St we Se (MS _ (XH s.dom x 0).2++([]++F)) _ w;rw[e1];refine hl.weak λS w d=>zE.append (zap hd (λj v i=>⟨e0 j v i,P5 i⟩)<|zE.left d)<|zE.append (zgg λj i=> ?_)<|zE.right d;have V:vs[j]? =Z (vs[j]'W):=xab W;show L _ _ (0+j)=vs.getD (0+j) uT;rw[e0 j _ V];exact P5 V
 ·cases h
end
end
section
section
variable{P:jP}
def zc:Ty->N wN
 |.i=>[.int .i64 0]
 |.u=>[.int .u64 0]
 |.b=>[.bool I]
 |.ch=>[.int .u8 0]
 |.tx=>[.string ByteArray.empty]
 |.l _=>[.slice wF 0 0]
 |.p s t=>zc s++zc t
 |.a k t=>(xaa k<|zc t).flatten
 |.po _=>[.pointer wF]
 |.w1 t=>zc t
def zbl{α:Type}{e:zW α}{S:K->Prop}{w:wP}{x:α}{c:N wN}(h:e.p S x c w):∀k,yK e S (xaa k x) (xaa k c).flatten w
 |0=>rfl
 |k+1=>⟨c,_,O,h,zbl h k⟩
def zc2(S:K->Prop)(w:wP):∀t:Ty,t.rep.p S t.z (zc t) w
 |.i=>⟨O,(i0:(-9223372036854775808:J)<=0),(i0:(0:J)<=9223372036854775807)⟩
 |.u=>⟨O,(i0:(0:K)<18446744073709551616)⟩
 |.b=>rfl
 |.ch=>⟨O,(i0:(0:K)<256)⟩
 |.tx=>⟨ByteArray.empty,O,O,i0⟩
 |.l _=>⟨_,O,SlP.nil⟩
 |.p s t=>⟨_,_,O,zc2 S w s,zc2 S w t⟩
 |.a k t=>⟨xaM,zbl (zc2 S w t) k⟩
 |.po _=>rfl
 |.w1 t=>zc2 S w t
def zle(t:Ty):X (zc t)=t.n:=by
 have:=t.rep.len<|zc2 (λ_=>XS) default t;rw[this,t.n_rep]
def zff:∀{k:K}{t:Ty}{i:K}{f:Fl t.D},xl k t i=Z f->∃d c,zc t=d++zc f.f++c/\X d=f.off
 |0,.w1 t,0,f,h=>by
  simp only[xl,xat]at h;subst h;exact⟨[],[],by simp[zc],O⟩
 |0,.w1 t,_+1,_,h=>by cases h
 |0,.i,_,_,h=>by cases h
 |0,.u,_,_,h=>by cases h
 |0,.b,_,_,h=>by cases h
 |0,.l _,_,_,h=>by cases h
 |0,.p _ _,_,_,h=>by cases h
 |0,.a _ _,_,_,h=>by cases h
 |0,.ch,_,_,h=>by cases h
 |0,.tx,_,_,h=>by cases h
 |0,.po _,_,_,h=>by cases h
 |1,t,i,f,h=>by
  unfold xl at h;cases e:E i 0<;>rw[e]at h
  ·cases h
  ·simp only[Z2,xat]at h;subst h;exact⟨[],[],by simp[Fl.self],O⟩
 |k+2,.p s t,0,f,h=>by
  simp only[xl,xat]at h;subst h;exact⟨[],zc t,by simp[zc],O⟩
 |k+2,.p s t,i+1,f,h=>by
  simp only[xl]at h;split at h
  ·next f' g=>
   simp only[xat]at h;subst h;have⟨d,c,h1,j⟩:=zff g;refine⟨zc s++d,c,?_,by rw[xaw,zle,j]⟩;simp only[zc];rw[h1];simp only[xad]
  ·cases h
 |k+2,.i,i,f,h=>by simp[xl]at h
 |k+2,.u,i,f,h=>by simp[xl]at h
 |k+2,.b,i,f,h=>by simp[xl]at h
 |k+2,.l _,i,f,h=>by simp[xl]at h
 |k+2,.a _ _,i,f,h=>by simp[xl]at h
def zk0(P:jP)(t n:K):(N (V K)×N (V<|K×qR×K))×V (N<|V<|K×K):=(((xaN<|n+(1-n)).map λi=>S9 P t i,(xaN<|n+(1-n)).map λi=>zef P t i),match plB P t with
 |some a=>Z<|a.toList.map Z
 |none=>wF)
def zeO(ty:Ty)(n:K):(N (V K)×N (V<|K×qR×K))×V (N<|V<|K×K):=(((xaN<|n+(1-n)).map λi=>(xl n ty i).map (·.off),(xaN<|n+(1-n)).map λi=>(xl n ty i).map λf=>(f.off,f.f.rep.agg,f.f.n)),Z<|(xaN<|n+(1-n)).map λi=>(xl n ty i).map λf=>(f.off,f.f.n))
def P6(P:jP)(t:wT)(a:TI):Prop:=match a.k with
 |.int k=>P.underlying t=Z (.int k)
 |.bool=>P.underlying t=Z .bool
 |.str=>P.underlying t=Z .string
 |.sl E=>P.underlying t=Z (.slice E)/\∃e,a.ty=.l e
 |.st n=>a.ty.rep.agg=wL/\zk0 P t n=zeO a.ty n
 |.ar k E=>a.ty.rep.agg=wL/\P.underlying t=Z (.array k E)
 |.pt E=>P.underlying t=Z (.pointer E)
def zbF:∀{n:K}{t:Ty}{i:K}{f:Fl t.D},0<n->xl n t i=Z f->i<n
 |0,_,_,_,h0,h=>wS h0<|xfW 0
 |1,t,i,f,_,h=>by
  simp only[xl]at h;cases c:E i 0<;>rw[c]at h
  ·cases h
  ·rw[zO c];exact xdY
 |n+2,.p s t,0,f,_,h=>Nat.succ_pos _
 |n+2,.p s t,i+1,f,_,h=>by
  simp only[xl]at h;split at h
  ·next f' d=>exact Nat.succ_lt_succ<|zbF (Nat.succ_pos _) d
  ·cases h
 |n+2,.i,_,_,_,h=>by simp[xl]at h
 |n+2,.u,_,_,_,h=>by simp[xl]at h
 |n+2,.b,_,_,_,h=>by simp[xl]at h
 |n+2,.l _,_,_,_,h=>by simp[xl]at h
 |n+2,.a _ _,_,_,_,h=>by simp[xl]at h
 |n+2,.ch,_,_,_,h=>by simp[xl]at h
 |n+2,.tx,_,_,_,h=>by simp[xl]at h
 |n+2,.po _,_,_,_,h=>by simp[xl]at h
 |n+2,.w1 _,_,_,_,h=>by simp[xl]at h
def Tn{n:K}{t:Ty}{i:K}{f:Fl t.D}(h:xl n t i=Z f):i<n+(1-n):=by
 cases n with
 |zero=>
  cases t<;>cases i<;>first
   |exact xdY
   |cases h
 |succ n=>have:=zbF (Nat.succ_pos n) h;lia
def zg7.of{t:wT}{d:TI}(h:P6 P t d):zg7 P t d:=by
 unfold P6 at h;unfold zg7;split at h
 ·next h0=>simp only[h0];exact h
 ·next h0=>simp only[h0];exact h
 ·next h0=>simp only[h0];exact h
 ·next h0=>simp only[h0];exact h
 ·next n h0=>
  simp only[h0];have⟨h1,h⟩:=h;have e:=ut (λq=>q.1.1) h;have g:=ut (λq=>q.1.2) h;have c:=ut Prod.snd h;simp only[zk0,zeO]at e g c;refine⟨h1,λi f b=> ?_,?_,λi f b=> ?_⟩;rotate_left 2
  ·have:=ut (λl:N (V<|K×qR×K)=>l[i]?) g;simp only[xbV,xfd<|Tn b,Option.map_some,b]at this;simpa using this
  ·have:=ut (λl:N (V K)=>l[i]?) e;simp only[xbV,xfd<|Tn b,Option.map_some,b]at this;simpa using this
  ·cases hp:plB P t with
   |none=>
    rw[hp]at c;cases c
   |some a=>
    rw[hp]at c;simp only[xat]at c;have⟨fs,k,m⟩:=ziZ hp;refine⟨fs,k,a,m,λi f b=> ?_⟩;have:=ut (λl:N (V<|K×K)=>l[i]?) c;simp only[xbV,xfd<|Tn b,Option.map_some,b]at this;rw[<-Array.getElem?_toList]
    cases j:a.toList[i]? with
    |none=>rw[j]at this;cases this
    |some q=>rw[j]at this;simpa using this
 ·next h0=>simp only[h0];exact h
 ·next h0=>simp only[h0];exact h
def zgN.of{t:wT}{a:TI}(h1:tyB P t=Z (a.ty.rep.agg,a.ty.n,a.B,Z<|a.ty.rep.val<|zc a.ty))(c:(xdd 0 a.B && xdd 0 a.ty.n)=wL)(f:P6 P t a):zgN P t a:=by
 rw[xac]at c;have b:=λS w=>zc2 S w a.ty;refine⟨⟨_,(by rw[Ty.n_rep];exact Jf.of h1),?_,λS w=> ?_,(λs h=>by rw[h];rfl),λn i off s g st j=> ?_⟩,xbK c.1,(by rw[Ty.n_rep];exact xbK c.2),zg7.of f⟩
 ·rw[<-xfa,zW.val_cells _<|b (λ_=>XS) default,a.ty.rep.len<|b (λ_=>XS) default]
 ·rw[zW.val_cells _<|b S w];exact b S w
 ·rw[zW.val_cells _<|b (λ_=>XS) default];have⟨k,d,l,e⟩:=zff j;rw[l,xad,xbr (by simp only at e;lia),e,xcD];rfl
def yY.nil:yY P []:=λ_ _ h=>by cases h
def yY.cons{t:wT}{c:TI}{tt:N (K×TI)}(h:zgN P t c)(k:yY P tt):yY P ((t,c)::tt):=by
 intro d b a;unfold U3 at a;cases e:E t d<;>rw[e]at a
 ·exact k d b a
 ·cases a;rw[<-zO e];exact h
def yY.add{t:wT}{a:TI}{tt:N (K×TI)}(h1:tyB P t=Z (a.ty.rep.agg,a.ty.n,a.B,Z<|a.ty.rep.val<|zc a.ty))(b:(xdd 0 a.B && xdd 0 a.ty.n)=wL)(c:P6 P t a)(k:yY P tt):yY P ((t,a)::tt):=yY.cons (zgN.of h1 b c) k
def elB(tt:N (K×TI)):N (K×TI)->qR
 |[]=>wL
 |(_,⟨.l s,.sl E,_⟩)::r=>(match U3 tt E with
  |some a=>(Ty.same a.ty s).isSome
  |none=>I) && elB tt r
 |_::r=>elB tt r
def uI.of'{tt:N (K×TI)}:∀{l:N (K×TI)},elB tt l=wL->∀t s E B,U3 l t=Z ⟨.l s,.sl E,B⟩->∃a,U3 tt E=Z a/\a.ty=s
 |[],_,_,_,_,_,h=>by cases h
 |(d,e)::r,h,t,s,E,B,b=>by
  have f:elB tt r=wL:=by
   unfold elB at h;split at h
   ·cases‹_::_=[]›
   ·next c=>cases c;rw[xac]at h;exact h.2
   ·next c=>cases c;exact h
  unfold U3 at b;cases g:xam d t<;>rw[g]at b
  ·exact uI.of' f t s E B b
  ·cases b;unfold elB at h;simp only[xac]at h;have h:=h.1;split at h
   ·next a i=>
    refine⟨a,i,?_⟩
    cases j:Ty.same a.ty s with
    |none=>rw[j]at h;cases h
    |some p=>exact p.down
   ·cases h
def uI.of{tt:N (K×TI)}(h:elB tt tt=wL):uI P tt:=λt s E B=>uI.of' h t s E B
def my.nil:my P []:=λ_ _ h=>by cases h
def my.add{f:K}{b:qR}{ex:N (K×qR)}{fn:JP}(h0:P.funcs[f]? =Z fn)(h1:(fn.name== "runtime.NumGoroutine")=I)(e:fn.body=wF)(g:(xeP fn).isNone=wL)
 (h:b=wL->xfc fn=Z (λargs=>do
  let(x,y,c)<-xbN "Add64" args
  pure (xbT ((x+y+c)%xbc)<|(x+y+c)/xbc)))
 (i:b=I->xfc fn=Z (λargs=>do
  let(x,y,b)<-xbN "Sub64" args
  pure (xbT ((x+xbc-y-b)%xbc) (if x<y+b then 1 else 0)))) (k:my P ex):my P ((f,b)::ex):=by
 intro f' j a;unfold U3 at a;cases d:E f f'<;>rw[d]at a
 ·exact k f' j a
 ·cases a;rw[<-zO d];exact⟨fn,h0,h1,e,g,h,i⟩
def cN:∀s∈([]:N VM),xt P s:=λ_ h=>wS h Nm
theorem cC{s:VM}{l:N VM}(h:xt P s)(k:∀s∈l,xt P s):∀q∈s::l,xt P q:=by grind
def sg0{s:VM}(a:EB P s.f=wL)(b:∀x,s.M x=wF):xt P s:=⟨a,λx r h=>by rw[b x]at h;cases h⟩
def ED.of{tt:N (K×TI)}{ex:N (K×qR)}{cs:N VM}{an:An}{fu:K}(a:my P ex)(hp:P=Tryz.prog):ED P ⟨tt,cs,an,fu,ex,[],[],[]⟩:=⟨a,λ_ h=>wS h Nm,λ_ h=>wS h Nm,λ_ h=>wS h Nm,hp⟩
def sgP(a:P.follows .mixedOrders=wL){tt:N (K×TI)}{ex:N (K×qR)}(b:yY P tt)(c:uI P tt)(d:my P ex)(hp:P=Tryz.prog){cs:N VM}(an:An){fu:K}{s:VM}{fn:JP}(e:P.funcs[s.f]? =Z fn)(g:∀s∈cs,xt P s)(i:EB P s.f=wL)(j:s.bk=0)(k:∀x,SD ⟨tt,cs,an,fu,ex,[],[],[]⟩ fn s.dom s.cod x=s.M x):xt P s:=
 SL (cf:=⟨tt,cs,an,fu,ex,[],[],[]⟩) a b c g (.of d hp) e i j λx r h=>(k x).trans h
def sgG(b:P.follows .mixedOrders=wL){tt:N (K×TI)}{ex:N (K×qR)}(c:yY P tt)(d:uI P tt)(e:my P ex)(hp:P=Tryz.prog){cs:N VM}(an:An){fu:K}{s:VM}{fn:JP}(g:P.funcs[s.f]? =Z fn)(i:∀s∈cs,xt P s)(j:EB P s.f=wL)(k:∀a x,zji ⟨tt,cs,an,fu,ex,[],[],[]⟩ fn s.dom s.cod s.bk a x=s.M x):xt P s:=
 zma (cf:=⟨tt,cs,an,fu,ex,[],[],[]⟩) b c d i (.of e hp) g j λa x r h=>(k a x).trans h
end
end
section
def zdH:(dom:N Ty)->mG dom->K->N (K×K×Dv)
 |[],_,_=>[]
 |t::r,x,i=>(i,0,.d t x.1)::zdH r x.2 (i+1)
def zja(g:Z4)(t:K)(σ:Sg):V (N PD):=match get ⟨0,[],[]⟩ σ t 0 with
 |some (.fn f cs)=>jh (E f g)<|some cs
 |_=>wF
def zn6(cf:Cf)(fn:JP)(dom:N Ty)(g:Z4)(x:mG dom):V (N PD):=match fn.body,fn.results.toList with
 |some c,[.tmp t]=>jh (TU fn.ntmps c && xgg (X dom) fn.ntmps)<|den cf c ⟨0,[],[]⟩ ⟨0,zdH dom x 0,[]⟩ λq σ=>match q with
  |.r=>zja g t σ
  |.n=>zja g t σ
  |_=>wF
 |_,_=>wF
def zjD(t:Ty)(E E1:wT)(ix:N K)(lo n:K)(σ:Sg):V (N<|N t.D):=match get ⟨0,[],[]⟩ σ 3 0 with
 |some (.mv o a c)=>(match xH σ.ob o with
  |some (.mat d e F' xss b)=>jh (xam E e && xam E1 F')<|Ty.cast (.l (.l d)) (.l (.l t)) xss λy=>ck (a=lo/\c=n/\b=ix)<|some y
  |_=>wF)
 |_=>wF
def znd(cf:Cf)(fn:JP)(t:Ty)(E E1:wT)(b:wN)(xss:N (N t.D))(ix:N K)(r:K)(a p:J)(lo n:K):V (N<|N t.D):=match fn.body,fn.results.toList with
 |some c,[]=>jh (TU fn.ntmps c && xgg 4 fn.ntmps)<|den cf c ⟨0,[(3,0,.pin b)],[]⟩ ⟨1,[(0,0,.rw 0 r),(1,0,.d .i a),(2,0,.d .i p),(3,0,.mv 0 lo n)],[(0,.mat t E E1 xss ix)]⟩ λq σ=>match q with
  |.r=>zjD t E E1 ix lo n σ
  |.n=>zjD t E E1 ix lo n σ
  |_=>wF
 |_,_=>wF
section
variable{P:jP}{cf:Cf}{env:y7}{w:wP}
def zax{S:K->Prop}{vs:K->wN}:∀{dom:N Ty}{x:mG dom}{i:K}{l:N wN},X l=X dom->(∀j v,l[j]? =Z v->env (i+j)=v)->zE S (tsF dom x l) w->zE S (RS P vs env<|zdH dom x i) w
 |[],_,_,_,_,_,_=>trivial
 |a::dom,x,i,[],hl,_,_=>by cases hl
 |a::dom,x,i,v::l,hl,h,b=>by
  have c:zE S (RS P vs env<|zdH dom x.2<|i+1) w:=zax (l:=l) (by simpa using hl) (λj v d=>by
   have:=h (j+1) v (by simpa using d);rw[(W:i+1+j=i+(j+1))];exact this) b.2
  have h0:env i=v:=h 0 v O;have e:(fV a.rep x.1 v).p S w:=b.1;exact⟨show(fV a.rep x.1<|env i).p S w by rw[h0];exact e,c⟩
def P8:∀{dom:N Ty}{x:mG dom}{i:K},∀e∈zdH dom x i,vt e.2.2=wF
 |[],_,_,e,he=>wS he Nm
 |a::dom,x,i,e,he=>by
  obtain rfl|he:=xaf.1 he
  ·rfl
  ·exact P8 e he
def zmM(o:P.follows .mixedOrders=wL)(y:yY P cf.tt)(z:uI P cf.tt)(D:∀s∈cf.cs,xt P s)(E:ED P cf){s:Ns}{fn:JP}
 (H:P.funcs[s.f]? =Z fn) (J:EB P s.f=wL) (K:∀x,zn6 cf fn s.dom s.g x=Z (s.mc x)):S4 P s:=by
 refine⟨J,λx vs hd=>FnG.plain ?_⟩;have h:=K x;unfold zn6 at h;split at h
 ·next c t hc L=>
  have⟨k,h⟩:=z7 h;rw[xac]at k;intro we Se F G w ht;refine UX H hc (by rw[hd];exact k.2) λrest=> ?_;refine XO (fr:=⟨we,Se,F,G⟩) (N:=Nd.of fn.ntmps) o y z D E c k.1 O (.inl O) h (λq σ' l Ds env w _ m=> ?_) ?_
  ·have⟨hl,m⟩:=JR m
   have i:zja s.g t σ'=Z (s.mc x)->∀a:Kw,yJ a=env->
    ∃v,(Jp fn a.tmps).run P (jr Ds w)=.ok v (jr Ds w)/\∃u:wN,xeR v=.returned u/\XS/\St we Se ([]++F) ([zlg s.g (s.mc x) u]++G) (jr Ds w):=λh a M=>by
    unfold zja at h;split at h
    ·next f cs Q=>
     have⟨hi,h1⟩:=z7 h;have hi:=zO hi;subst hi;cases h1;have⟨V,vs',hn⟩:=m;have R:St we Se (MS vs' σ'.ob++F) (RS P vs' env σ'.rg++([]++G)) (jr Ds w):=hn;refine⟨_,VC (rs:=[.tmp t]) (vs:=[env t]) (by rw[<-L,xcX])<|M▸⟨O,wR⟩,env t,O,wR,?_⟩;have T:=St.dropM (A:=[]) (B:=MS vs' σ'.ob) (C:=F) (by simpa using R);refine T.weak λS w b=>⟨?_,?_⟩
     ·exact XM (fr:=⟨we,Se,F,G⟩) (cx:=⟨0,[],[]⟩) (show zE S (GS P vs' env ⟨we,Se,F,G⟩ ⟨0,[],[]⟩ σ') w from b) t 0 _ Q
     ·exact zE.right b
    ·cases h
   cases q with
   |n=>exact⟨.inl O,hl,i l⟩
   |r=>exact⟨.inr O,hl,i l⟩
   |x j=>cases l
  ·refine⟨⟨λ_ d=>wS d Nm,λ_ d=>wS d Nm,λe d p hp=> ?_,λ_ d=>wS d Nm⟩,λ_=>uT,?_⟩
   ·rw[P8 e d]at hp;cases hp
   ·show St we Se ([]++([]++F)) _ w;exact ht.weak λS w b=>zE.append (zax hd (λj v U=>P5 U)<|zE.left b)<|zE.right b
 ·cases h
def zeX{α:Type}{e:zW α}{E E1:wT}{u:wN}{xss:N (N α)}{ix:N K}{S:K->Prop}(h:(tn e E E1 u xss ix).p S w):∀a k c,yC u=.slice a k c->a.isSome=wL->k=X ix:=by
 intro a k c h1 d;rcases fX (Lf h).2.1 with⟨hv,_⟩|⟨b,cap,hv,_⟩
 ·rw[h1]at hv;cases hv;cases d
 ·rw[h1]at hv;cases hv;rfl
def zjG{cx σ:Sg}{t i:K}{d:Dv}(h:get ⟨0,[],[]⟩ σ t i=Z d):get cx σ t i=Z d:=by
 unfold get at h⊢;split at h
 ·exact h
 ·cases h
def zm3(T:P.follows .mixedOrders=wL)(U:yY P cf.tt)(V:uI P cf.tt)(Y:∀s∈cf.cs,xt P s)(hX:ED P cf){s:Cc}{fn:JP}
 (hf:P.funcs[s.f]? =Z fn) (hb:EB P s.f=wL) (hM:∀pn xss ix r a p lo n z,s.M xss ix r a p lo n=Z z->znd cf fn s.t s.E s.E1 pn xss ix r a p lo n=Z z):SU P s:=by
 refine⟨hb,λxss ix r a p lo n z hz u hr hv hA hl hD hF we Se F G w hn=> ?_⟩;have h:=hM hv xss ix r a p lo n z hz;unfold znd at h;split at h
 ·next c hc hG=>
  have⟨l,h⟩:=z7 h;rw[xac]at l;have hi:∀a k c,yC u=.slice a k c->a.isSome=wL->k=X ix:=wz hn (i:=0) O λS hp=>zeX hp;refine UX (args:=[hr,.int .i64 a,.int .i64 p,hv]) hf hc l.2 λrest=> ?_;refine XO (fr:=⟨we,Se,F,G⟩) (N:=Nd.of fn.ntmps) T U V Y hX c l.1 O (.inl O) h (λq σ' B Ds env w _ C=> ?_) ?_
  ·have⟨ht,C⟩:=JR C
   have m:zjD s.t s.E s.E1 ix lo n σ'=Z z->∀a:Kw,yJ a=env->
    ∃v,(Jp fn a.tmps).run P (jr Ds w)=.ok v (jr Ds w)/\∃v' L,xeR v=.returned v'/\yC L=yC u/\St we Se (tn s.t.rep s.E s.E1 L z ix::F) G (jr Ds w):=λh a ha=>by
    unfold zjD at h;split at h
    ·next o D n' hg=>
     split at h
     ·next t' E' F' y d l=>
      have⟨H,h1⟩:=z7 h;rw[xac]at H;have hH:=zO H.1;have hI:=zO H.2;subst hH hI;have⟨e,A⟩:=yj h1;cases e;obtain⟨⟨rfl,rfl,rfl⟩,J⟩:=Zo A;cases J;have⟨hB,vs',hd⟩:=C;have⟨S0,_,Q⟩:=hd.ex;have hw:env 3=hv:=(zE.left<|zE.right Q).1;have R:MW (yC<|vs' o) D n' (env 3):=XM Q 3 0 _<|zjG hg;rw[hw]at R;have A:St we Se (tn s.t.rep s.E s.E1 (vs' o) y d::OS vs' ⟨we,Se,F,G⟩ ⟨0,[(3,0,.pin hv)],[]⟩ (yw σ'.ob o)) (GS P vs' env ⟨we,Se,F,G⟩ ⟨0,[(3,0,.pin hv)],[]⟩ σ') (jr Ds w):=jT l hd;have hj:∀a k c,yC (vs' o)=.slice a k c->a.isSome=wL->k=X d:=wz A (i:=0) O λS hp=>zeX hp;refine⟨_,VC (rs:=[]) (vs:=[]) (by rw[<-hG,xcX]) wR,_,vs' o,O,R.same hl hj hi,?_⟩;have J:St we Se ([tn s.t.rep s.E s.E1 (vs' o) y d]++(MS vs' (yw σ'.ob o)++F)) (GS P vs' env ⟨we,Se,F,G⟩ ⟨0,[(3,0,.pin hv)],[]⟩ σ') (jr Ds w):=A;exact(St.dropM J).weak λS w g=>zE.right<|zE.right g
     ·cases h
    ·cases h
   cases q with
   |n=>exact⟨.inl O,ht,m B⟩
   |r=>exact⟨.inr O,ht,m B⟩
   |x j=>cases B
  ·refine⟨⟨λe b=> ?_,λ_ b=>wS b Nm,λe b q K=> ?_,λe b q K=> ?_⟩,λ_=>u,?_⟩
   ·obtain rfl:=xag.1 b;exact xdY
   ·simp only[xaf,Nm,fD]at b;obtain rfl|rfl|rfl|rfl:=b<;>cases K<;>exact xdY
   ·obtain rfl:=xag.1 b;cases K
   ·refine hn.weak λS w g=>⟨hA,wX hD,wX hF,hl,O,g⟩
 ·cases h
end
end
section
def zgc{ι:Type _}{R:Type}(S:ι->Tg×Sg)(f:ι->V R)(a:∀i j,S i=S j->f i=f j):∃K:Tg->Sg->V R,(∀i,K (S i).1 (S i).2=f i)/\∀t σ r,K t σ=Z r->∃i,S i=(t,σ)/\f i=Z r:=by
 classical
 refine⟨λt σ=>if h:∃i,S i=(t,σ)then f h.choose else wF,λi=> ?_,λt σ r h=> ?_⟩
 ·have h:∃j,S j=((S i).1,(S i).2):=⟨i,O⟩;simp only[dif_pos h];exact a _ _ h.choose_spec
 ·by_cases h1:∃i,S i=(t,σ)
  ·simp only[dif_pos h1]at h;exact⟨_,h1.choose_spec,h⟩
  ·simp only[dif_neg h1]at h;cases h
def chS(E:wT){X Y:Type}(b:X->wN->MF)(c:Y->wN->MF)(g:N J->X->V (N J×(X⊕Y)))(n a:J)(x:X)(xs:N J):Sg:=
 ⟨2,[(4,0,.ow 1),(0,0,.yd 0),(1,0,.q .i n),(2,0,.q .i a)],[(1,.own .i E xs),(0,.hid .i E X Y b c g x)]⟩
section
variable{P:jP}{fr:Fr}{σ:Sg}{env:y7}{w:wP}{E:wT}{X Y:Type}{mX:X->wN->MF}{mY:Y->wN->MF}{g:xS wl->X->ww (xS wl×(X⊕Y))}{n all:wl}{x:X}{y:Y}{xs:xS wl}{o p:wr}
def zkF(c:get ⟨0,[],[]⟩ σ 4 0=Z (.ow p))(h0:get ⟨0,[],[]⟩ σ 0 0=Z (.yd o))(h1:get ⟨0,[],[]⟩ σ 1 0=Z (.q .i n))(d:get ⟨0,[],[]⟩ σ 2 0=Z (.q .i all))(f:xH σ.ob o=Z (.hid .i E X Y mX mY g x))(hp:xH σ.ob p=Z (.own .i E xs))
 (hc:xam o p=I) (h:Yw P fr ⟨0,[],[]⟩ σ env w):Yw P fr ⟨0,[],[]⟩ (chS E mX mY g n all x xs) env w:=by
 have⟨s,vs,hd⟩:=h;have j:=gx hc f hp hd;refine⟨⟨λe a=> ?_,λ_ a=>wS a Nm,λe a q l=> ?_,λ_ a=>wS a Nm⟩,λk=>if k=0 then vs o else vs p,?_⟩
 ·simp only[chS,xaf,Nm,fD]at a⊢;obtain rfl|rfl:=a<;>simp
 ·simp only[chS,xaf,Nm,fD]at a⊢;obtain rfl|rfl|rfl|rfl:=a<;>cases l<;>simp
 ·have m:St fr.we fr.Se ([JZ vs (o,.hid .i E X Y mX mY g x),JZ vs (p,.own .i E xs)]++(MS vs (yw (yw σ.ob o) p)++fr.F)) (GS P vs env fr ⟨0,[],[]⟩ σ) w:=j;have r:St fr.we fr.Se ([JZ vs (p,.own .i E xs),JZ vs (o,.hid .i E X Y mX mY g x)]++fr.F) (GS P vs env fr ⟨0,[],[]⟩ σ) w:=(St.dropM m).perm<|xdX ..;refine r.weak λS w b=>⟨?_,?_,?_,?_,?_⟩
  ·exact XM b 4 0 _ c
  ·exact XM b 0 0 _ h0
  ·exact XM b 1 0 _ h1
  ·exact XM b 2 0 _ d
  ·exact zE.right<|zE.right b
def zlW{t:Ty}{g:N t.D->X->V (N t.D×(X⊕Y))}(a:xH σ.ob o=Z (.hid t E X Y mX mY g x))(h:Yw P fr ⟨0,[],[]⟩ σ env w):∃b,St fr.we fr.Se (mX x b::fr.F) fr.G w:=by
 have⟨f,vs,hc⟩:=h;have⟨_,c⟩:=St.unpr<|St.grp.1<|jT a hc;have d:St fr.we fr.Se ([mX x<|(xU<|vs o).headD uT]++(MS vs (yw σ.ob o)++fr.F)) (GS P vs env fr ⟨0,[],[]⟩ σ) w:=c;exact⟨_,(St.dropM d).weak λS w e=>zE.right<|zE.right e⟩
def zmR(a:xH σ.ob o=Z (.hiy Y mY y))(h:Yw P fr ⟨0,[],[]⟩ σ env w):∃b,St fr.we fr.Se (mY y b::fr.F) fr.G w:=by
 have⟨f,vs,hc⟩:=h;have c:=jT a hc;have d:St fr.we fr.Se ([mY y<|(xU<|vs o).headD uT]++(MS vs (yw σ.ob o)++fr.F)) (GS P vs env fr ⟨0,[],[]⟩ σ) w:=c;exact⟨_,(St.dropM d).weak λS w e=>zE.right<|zE.right e⟩
end
end
section
section
variable{P:jP}
def Sp{U:Type}{f:Z4}{args:uL wN}{Γ:N FF}{b:U->wN}{a:U->N FF}{ok:U->Prop}(h:Fn P f args Γ b a ok):FnG P f args [] Γ b (λ_=>[]) a ok:=by
 rintro we Se F G w ⟨h1,l,n,S,o,d,p,g,j⟩;refine(h w S d<|zE.left j).mono ?_;rintro e w' ⟨u,e1,q,c,r⟩;exact⟨u,e1,q,h1.trans c,l,n,S,o,λk s=>d k<|xap c.size s,p,yM.keep c.to (λm t i hi=>c.block i (yM.lt g m t i hi) wR) g,zE.append r<|zE.keep c.to<|zE.right j⟩
def FnG.to{U V:Type}{f:Z4}{args:uL wN}{ms:N MF}{Γ:N FF}{i:U->wN}{own:U->N MF}{b:U->N FF}{ok:U->Prop}{c:V->wN}{d:V->N MF}{a:V->N FF}{j:V->Prop}
 (h:FnG P f args ms Γ i own b ok) (g:U->V) (h1:∀u,i u=c (g u)) (m:∀u,own u=d (g u)) (n:∀u,ok u->j (g u)) (o:∀u,ok u->∀S w,zE S (b u) w->zE S (a<|g u) w):FnG P f args ms Γ c d a j:=by
 intro we Se F G w hc;refine(h we Se F G w hc).mono ?_;rintro e w' ⟨u,e1,k,p⟩;exact⟨g u,by rw[e1,h1],n u k,by rw[<-m];exact p.weak λS w l=>zE.append (o u k S w<|zE.left l)<|zE.right l⟩
def znl{f:Z4}{s t:Ty}{M:s.D->V t.D}(a:EB P f=wL)(h:∀x r v,M x=Z r->Fn P f [v].toArray [fV s.rep x v] (λu:wN=>u) (λu=>[fV t.rep r u]) (λ_=>XS)):xt P ⟨f,[.d s],[.d t],λx=>M x.1,0⟩:=by
 refine⟨a,λx r b vs hl=> ?_⟩
 match vs,hl with
 |[v],_=>exact(Sp<|h x.1 r v b).to (λu=>[u]) (λ_=>O) (λ_=>O) (λ_ _=>O) λu _ S w c=>c
def zli{f:Z4}{M:K->V J}(c:EB P f=wL)(h:∀x r,x<18446744073709551616->M x=Z r->Fn P f [.int .u64 (x:J)].toArray [] (λ_:Z9=> .int .i64 r) (λ_=>[]) (λ_=>KH r)):xt P ⟨f,[.d .u],[.d .i],λx=>M x.1,0⟩:=by
 refine⟨c,λx r e vs hl=> ?_⟩
 match vs,hl with
 |[v],_=>
  intro we Se F G w hc;have⟨S0,_,a⟩:=hc.ex;have⟨hv,g⟩:=zdJ (show(fV eU x.1 v).p S0 w from a.1);have:=Sp<|h x.1 r g e;rw[<-hv]at this;have j:FnG P f [v].toArray [] [] XJ (λus=>YH [RM.d .i] r us) (λus=>YL [RM.d .i] r us) (λus=>X us=1):=this.to (λ_=>[.int .i64 r]) (λ_=>O) (λ_=>O) (λ_ _=>O) λu k S w b=>⟨wX k,wR⟩;exact j we Se F G w<|hc.weak λS w b=>b.2
end
end
section
section
variable{P:jP}
def K7.of_below{w w':wP}(h:RowKit.Below w.heap.size w w'):K7 w w':=⟨h.os,h.tape,h.output,h.size,λk a _=>h.block k a⟩
def zgo(xs:N (N K))(sep:N K):V (N K):=ck (X xs<=140737488355328)<|ck (X (sep.intercalate xs)<=140737488355328)<|some (sep.intercalate xs)
def Na{S:K->Prop}{w:wP}:∀{xs:N (N K)}{cs:N wN},yK eTx S xs cs w->∃bs:N Wd,cs=bs.map Value.string/\bs.map xd=xs
 |[],cs,h=>⟨[],h,O⟩
 |x::xs,cs,⟨c,r,h1,a,d⟩=>by
  have⟨bs,e1,e⟩:=Na d;have⟨b,f,g,_⟩:=a;exact⟨b::bs,by rw[h1,f,e1];rfl,by rw[xbS,g,e]⟩
def Hn{α β:Type}(f:α->β)(s:N α):∀X:N (N α),(s.intercalate X).map f=(s.map f).intercalate (X.map<|List.map f)
 |[]=>by simp[xfQ]
 |[x]=>by simp[xfQ]
 |x::y::r=>by
  have a:=Hn f s (y::r);simp only[xfQ,xbS,List.intersperse_cons_cons,List.flatten_cons,xaY]at a⊢;rw[a]
def RU(bs:N Wd)(s:Wd):xd ⟨(Lib.join (bs.map (·.data.toList)) s.data.toList).toArray⟩=(xd s).intercalate (bs.map xd):=by
 show((Lib.join (bs.map (·.data.toList)) s.data.toList).toArray.toList).map xfB=_;rw[List.toList_toArray];unfold Lib.join;rw[Hn,xcN];rfl
def zf8{f:Z4}(B:EB P f=wL)
 (h0:∀(a:V KW) (c:K) (sep:Wd) (w:wP),UP P f #[.slice a 0 c,.string sep] w λe w'=>e=.returned (.string ⟨#[]⟩)/\w'=w)
 (h1:∀(bk o c:K) (xs:N Wd) (sep:Wd) (w:wP),(∀(j:K) x,xs[j]? =Z x->w.cell? ⟨bk,o+j,wF⟩=Z (.string x))->bk<w.heap.size->X xs<=140737488355328->X xs<=c->X (Lib.join (xs.map (·.data.toList)) sep.data.toList)<=140737488355328->
  UP P f #[.slice (Z ⟨bk,o,wF⟩) (X xs) c,.string sep] w λe w'=>e=.returned (.string ⟨(Lib.join (xs.map (·.data.toList)) sep.data.toList).toArray⟩)/\RowKit.Below w.heap.size w w'):
 xt P ⟨f,[.d (.l .tx),.d .tx],[.d .tx],λx=>zgo x.1 x.2.1,0⟩:=by
 refine⟨B,λx r g vs hl=> ?_⟩
 match vs,hl with
 |[v,u],_=>
  have g:zgo x.1 x.2.1=Z r:=g;unfold zgo at g;have⟨k1,g⟩:=Zo g;have⟨k2,g⟩:=Zo g;have k:r=xfQ (α:=K) x.2.1 x.1:=(xdI g).symm;have p:Fn P f #[v,u] [fV (eS eTx) x.1 v,fV eTx x.2.1 u] (λ_:Z9=> .string ⟨(r.map xfe).toArray⟩) (λ_=>[fV eTx r (.string ⟨(r.map xfe).toArray⟩)]) (λ_=>XS):=by
   intro w Se R q;have⟨hv,C,_⟩:=q;obtain⟨m,rfl,D,T⟩:=O1 C;obtain⟨E,cap,rfl,F,hn,h⟩:=xT.1 hv;have i:∀(t:N UInt8) (w':wP),K7 w w'->t.map xfB=r->FnQ Se w (λ_:Z9=> .string ⟨(r.map xfe).toArray⟩) (λ_=>[fV eTx r (.string ⟨(r.map xfe).toArray⟩)]) (λ_=>XS) (.returned (.string ⟨t.toArray⟩)) w':=by
    intro t w' G ht;have n:t=r.map xfe:=by
     rw[<-ht,xcN];conv=>lhs;rw[<-List.map_id t]
     exact xbZ λb _=>by simp
    rw[<-n];refine⟨(),O,wR,G,OD ?_ ?_,wR⟩
    ·unfold xd;simpa using ht
    ·have U:=jk ⟨t.toArray⟩;have Y:X (xd ⟨t.toArray⟩)=X r:=by unfold xd;rw[<-ht]
     have h8:X r<=140737488355328:=by rw[k];exact k2
     lia
   obtain h|⟨b,o,cs,rfl,hs,hd,H⟩:=h
   ·have h:x.1=([]:N (N K)):=h;have hi:r=[]:=by rw[k,h];rfl
    rw[h];refine(h0 E cap m w).mono ?_;rintro e w' ⟨rfl,rfl⟩;exact i [] w' (yA.refl _ _) hi.symm
   ·have⟨bs,J,n⟩:=Na H;have hc:X bs=xaG (α:=N K) x.1:=by rw[<-n,xaj]
    have s:=RU bs m;rw[D,n]at s;have z:(Lib.join (bs.map (·.data.toList)) m.data.toList).map xfB=r:=by
     rw[k,<-s];unfold xd;simp
    have:=h1 b o cap bs m w (λj y L=>hd.2 j (.string y)<|by rw[J,xbV,L];rfl) hd.1 (by rw[hc];exact k1) (by rw[hc];exact F) (by
     have A:=ut xaG z;rw[xaj]at A;rw[A,k];exact k2)
    rw[hc]at this;refine this.mono ?_;rintro e w' ⟨rfl,M⟩;exact i _ w' (K7.of_below M) z
  exact(Sp p).to (λ_=>[.string ⟨(r.map xfe).toArray⟩]) (λ_=>O) (λ_=>O) (λ_ _=>O) λ_ _ S w Q=>Q
end
end
section
set_option maxRecDepth 100000
variable{cs:xS VM}{fu:wr}{s:VM}
def tt:N (K×TI):=[(2,⟨.i,.int .i64,8⟩),(3,⟨.i,.int .i64,8⟩),(4,⟨.b,.bool,1⟩),(5,⟨.ch,.int .u8,1⟩),(6,⟨.ch,.int .u8,1⟩),(7,⟨(.p .i (.p .i (.p .b .ch))),.st 4,24⟩),(8,⟨(.p .i (.p .i (.p .b .ch))),.st 4,24⟩),(9,⟨.tx,.str,16⟩),(10,⟨.tx,.str,16⟩),(11,⟨.tx,.str,16⟩),(12,⟨.u,.int .u64,8⟩),(13,⟨(.p .tx .u),.st 2,24⟩),(14,⟨(.p .tx .u),.st 2,24⟩),(22,⟨(.l (.p .b (.l .u))),.sl 44,24⟩),(23,⟨(.l (.l (.p (.p .b (.l .u)) (.l .u)))),.sl 41,24⟩),(25,⟨(.po (.w1 (.p (.l (.p .b (.l .u))) (.l (.p (.p .b (.l .u)) (.l .u)))))),.pt 104,8⟩),(29,⟨.i,.int .i64,8⟩),(41,⟨(.l (.p (.p .b (.l .u)) (.l .u))),.sl 46,24⟩),(42,⟨(.l .u),.sl 73,24⟩),(43,⟨(.p .b (.l .u)),.st 2,32⟩),(44,⟨(.p .b (.l .u)),.st 2,32⟩),(45,⟨(.p (.p .b (.l .u)) (.l .u)),.st 2,56⟩),(46,⟨(.p (.p .b (.l .u)) (.l .u)),.st 2,56⟩),(57,⟨(.l (.p (.l (.p .b (.l .u))) .i)),.sl 61,24⟩),(60,⟨(.p (.l (.p .b (.l .u))) .i),.st 2,32⟩),(61,⟨(.p (.l (.p .b (.l .u))) .i),.st 2,32⟩),(73,⟨.u,.int .u64,8⟩),(76,⟨(.l (.l (.l (.p (.p .b (.l .u)) (.l .u))))),.sl 23,24⟩),(78,⟨(.po .i),.pt 29,8⟩),(80,⟨(.w1 (.po (.w1 (.p (.l (.p .b (.l .u))) (.l (.p (.p .b (.l .u)) (.l .u))))))),.st 0,8⟩),(81,⟨(.w1 (.po (.w1 (.p (.l (.p .b (.l .u))) (.l (.p (.p .b (.l .u)) (.l .u))))))),.st 0,8⟩),(100,⟨(.p (.l (.p .b (.l .u))) (.l (.p (.p .b (.l .u)) (.l .u)))),.st 2,48⟩),(101,⟨(.p (.l (.p .b (.l .u))) (.l (.p (.p .b (.l .u)) (.l .u)))),.st 2,48⟩),(103,⟨(.w1 (.p (.l (.p .b (.l .u))) (.l (.p (.p .b (.l .u)) (.l .u))))),.st 0,48⟩),(104,⟨(.w1 (.p (.l (.p .b (.l .u))) (.l (.p (.p .b (.l .u)) (.l .u))))),.st 0,48⟩),(105,⟨(.l (.l (.p .b (.l .u)))),.sl 22,24⟩),(125,⟨(.l .i),.sl 3,24⟩),(127,⟨(.w1 .i),.st 0,8⟩),(128,⟨(.w1 .i),.st 0,8⟩),(150,⟨(.po (.p (.l (.p .b (.l .u))) (.p (.l (.p .b (.l .u))) (.p (.p .b (.l .u)) (.p (.p .b (.l .u)) .b))))),.pt 152,8⟩),(151,⟨(.p (.l (.p .b (.l .u))) (.p (.l (.p .b (.l .u))) (.p (.p .b (.l .u)) (.p (.p .b (.l .u)) .b)))),.st 5,120⟩),(152,⟨(.p (.l (.p .b (.l .u))) (.p (.l (.p .b (.l .u))) (.p (.p .b (.l .u)) (.p (.p .b (.l .u)) .b)))),.st 5,120⟩),(159,⟨(.l .tx),.sl 9,24⟩),(172,⟨(.l (.l .i)),.sl 125,24⟩),(190,⟨(.l .ch),.sl 5,24⟩),(218,⟨.u,.int .u64,8⟩),(221,⟨(.po .ch),.pt 5,8⟩),(272,⟨(.a 4 (.l (.p .b (.l .u)))),.ar 4 22,96⟩),(273,⟨(.a 4 (.l (.p .b (.l .u)))),.ar 4 22,96⟩),(278,⟨.i,.int .i64,8⟩),(300,⟨(.a 3 (.l .i)),.ar 3 125,72⟩),(301,⟨(.a 3 (.l .i)),.ar 3 125,72⟩),(308,⟨.u,.int .u64,8⟩),(312,⟨(.po .i),.pt 3,8⟩),(324,⟨(.p (.l (.p .b (.l .u))) (.l (.l (.p .b (.l .u))))),.st 2,48⟩),(325,⟨(.p (.l (.p .b (.l .u))) (.l (.l (.p .b (.l .u))))),.st 2,48⟩),(328,⟨(.po (.p (.p (.l (.p .b (.l .u))) (.l (.l (.p .b (.l .u))))) (.l (.l (.p .b (.l .u)))))),.pt 330,8⟩),(329,⟨(.p (.p (.l (.p .b (.l .u))) (.l (.l (.p .b (.l .u))))) (.l (.l (.p .b (.l .u))))),.st 2,72⟩),(330,⟨(.p (.p (.l (.p .b (.l .u))) (.l (.l (.p .b (.l .u))))) (.l (.l (.p .b (.l .u))))),.st 2,72⟩),(334,⟨(.p (.p .b (.l .u)) (.p (.p .b (.l .u)) (.p .b (.l .u)))),.st 3,96⟩),(335,⟨(.p (.p .b (.l .u)) (.p (.p .b (.l .u)) (.p .b (.l .u)))),.st 3,96⟩),(337,⟨(.po .u),.pt 308,8⟩),(347,⟨(.po (.w1 .tx)),.pt 362,8⟩),(354,⟨.ch,.int .u8,1⟩),(355,⟨.ch,.int .u8,1⟩),(361,⟨(.w1 .tx),.st 0,16⟩),(362,⟨(.w1 .tx),.st 0,16⟩)]
def ex:N (K×qR):=[(180,wL),(226,I)]
def tA{t:wT}{a:TI}{tt:N (K×TI)}(b:P6 Tryz.prog t a)(k:yY Tryz.prog tt)(h1:tyB Tryz.prog t=Z (a.ty.rep.agg,a.ty.n,a.B,Z<|a.ty.rep.val<|zc a.ty):=by kernel_rfl)(c:(xdd 0 a.B && xdd 0 a.ty.n)=wL:=by kernel_rfl):yY Tryz.prog ((t,a)::tt):=yY.add h1 c b k
def zao:yY Tryz.prog tt:=tA (id (by kernel_rfl:Tryz.prog.underlying 2=Z (.int .i64)))<|
 tA (id (by kernel_rfl:Tryz.prog.underlying 3=Z (.int .i64)))<|
 tA (id (by kernel_rfl:Tryz.prog.underlying 4=Z .bool))<|
 tA (id (by kernel_rfl:Tryz.prog.underlying 5=Z (.int .u8)))<|
 tA (id (by kernel_rfl:Tryz.prog.underlying 6=Z (.int .u8)))<|
 tA ⟨O,i8⟩<|
 tA ⟨O,i8⟩<|
 tA (id (by kernel_rfl:Tryz.prog.underlying 9=Z .string))<|
 tA (id (by kernel_rfl:Tryz.prog.underlying 10=Z .string))<|
 tA (id (by kernel_rfl:Tryz.prog.underlying 11=Z .string))<|
 tA (id (by kernel_rfl:Tryz.prog.underlying 12=Z (.int .u64)))<|
 tA ⟨O,i8⟩<|
 tA ⟨O,i8⟩<|
 tA ⟨i8,_,O⟩<|
 tA ⟨i8,_,O⟩<|
 tA (id (by kernel_rfl:Tryz.prog.underlying 25=Z (.pointer 104)))<|
 tA (id (by kernel_rfl:Tryz.prog.underlying 29=Z (.int .i64)))<|
 tA ⟨i8,_,O⟩<|
 tA ⟨i8,_,O⟩<|
 tA ⟨O,i8⟩<|
 tA ⟨O,i8⟩<|
 tA ⟨O,i8⟩<|
 tA ⟨O,i8⟩<|
 tA ⟨i8,_,O⟩<|
 tA ⟨O,i8⟩<|
 tA ⟨O,i8⟩<|
 tA (id (by kernel_rfl:Tryz.prog.underlying 73=Z (.int .u64)))<|
 tA ⟨i8,_,O⟩<|
 tA (id (by kernel_rfl:Tryz.prog.underlying 78=Z (.pointer 29)))<|
 tA ⟨O,i8⟩<|
 tA ⟨O,i8⟩<|
 tA ⟨O,i8⟩<|
 tA ⟨O,i8⟩<|
 tA ⟨O,i8⟩<|
 tA ⟨O,i8⟩<|
 tA ⟨i8,_,O⟩<|
 tA ⟨i8,_,O⟩<|
 tA ⟨O,i8⟩<|
 tA ⟨O,i8⟩<|
 tA (id (by kernel_rfl:Tryz.prog.underlying 150=Z (.pointer 152)))<|
 tA ⟨O,i8⟩<|
 tA ⟨O,i8⟩<|
 tA ⟨i8,_,O⟩<|
 tA ⟨i8,_,O⟩<|
 tA ⟨i8,_,O⟩<|
 tA (id (by kernel_rfl:Tryz.prog.underlying 218=Z (.int .u64)))<|
 tA (id (by kernel_rfl:Tryz.prog.underlying 221=Z (.pointer 5)))<|
 tA ⟨O,i8⟩<|
 tA ⟨O,i8⟩<|
 tA (id (by kernel_rfl:Tryz.prog.underlying 278=Z (.int .i64)))<|
 tA ⟨O,i8⟩<|
 tA ⟨O,i8⟩<|
 tA (id (by kernel_rfl:Tryz.prog.underlying 308=Z (.int .u64)))<|
 tA (id (by kernel_rfl:Tryz.prog.underlying 312=Z (.pointer 3)))<|
 tA ⟨O,i8⟩<|
 tA ⟨O,i8⟩<|
 tA (id (by kernel_rfl:Tryz.prog.underlying 328=Z (.pointer 330)))<|
 tA ⟨O,i8⟩<|
 tA ⟨O,i8⟩<|
 tA ⟨O,i8⟩<|
 tA ⟨O,i8⟩<|
 tA (id (by kernel_rfl:Tryz.prog.underlying 337=Z (.pointer 308)))<|
 tA (id (by kernel_rfl:Tryz.prog.underlying 347=Z (.pointer 362)))<|
 tA (id (by kernel_rfl:Tryz.prog.underlying 354=Z (.int .u8)))<|
 tA (id (by kernel_rfl:Tryz.prog.underlying 355=Z (.int .u8)))<|
 tA ⟨O,i8⟩<|
 tA ⟨O,i8⟩<|
 yY.nil
def R5:uI Tryz.prog tt:=uI.of i8
def R0:my Tryz.prog ex:=my.add Tryz.func180 i8 i8 i8 (λ_=>by kernel_rfl) (λh=>by cases h)<|
 my.add Tryz.func226 i8 i8 i8 (λh=>by cases h) (λ_=>by kernel_rfl)<|
 my.nil
def zab:Tryz.prog.follows .mixedOrders=wL:=i8
def sg(an:An){fn:JP}(a:Tryz.prog.funcs[s.f]? =Z fn)(b:∀s∈cs,xt Tryz.prog s)(c:EB Tryz.prog s.f=wL)(d:∀x,SD ⟨tt,cs,an,fu,ex,[],[],[]⟩ fn s.dom s.cod x=s.M x)(e:s.bk=0:=by rfl):xt Tryz.prog s:=
 sgP zab zao R5 R0 O an a b c e d
def sq(fu:K)(an:An){fn:JP}(a:Tryz.prog.funcs[s.f]? =Z fn)(b:∀s∈cs,xt Tryz.prog s)(c:EB Tryz.prog s.f=wL:=by kernel_rfl)(d:∀x,SD ⟨tt,cs,an,fu,ex,[],[],[]⟩ fn s.dom s.cod x=s.M x:=by intro x;kernel_rfl)(e:s.bk=0:=by rfl):xt Tryz.prog s:=sg an a b c d e
abbrev q1(S:N (K×TF))(j:K)(T:N (K×TF)):Lp:=⟨⟨S,[]⟩,⟨[],[(.x j,⟨T,[]⟩)]⟩⟩
abbrev yb(s:VM):Prop:=xt Tryz.prog s
abbrev wH:An:=⟨[],[],[],[],[],[],[]⟩
abbrev yH:Ty:=.l (.p .b (.l .u))
abbrev zu:Ty:=.p .b (.l .u)
abbrev tzQ:Ty:=.l (.l (.p .b (.l .u)))
abbrev yq:Ty:=.l .u
abbrev xg:Ty:=.l .i
def sgb(an:An){fn:JP}(a:Tryz.prog.funcs[s.f]? =Z fn)(b:∀s∈cs,xt Tryz.prog s)(c:EB Tryz.prog s.f=wL)(d:∀e x,zji ⟨tt,cs,an,fu,ex,[],[],[]⟩ fn s.dom s.cod s.bk e x=s.M x):xt Tryz.prog s:=
 sgG zab zao R5 R0 O an a b c d
end
end Go.Proofs.YtoegnnjcmlghhaaGreat
