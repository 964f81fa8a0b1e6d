/- What a proof needs: rules of walking, mirrors of functions and their plain laws. No condition. -/
import Derived.Test.YtmggkmchbdanfaaGreatZd3
import Derived.Below
import Derived.Lib.Join
import Derived.Shelf.Strings.Builder1
import Derived.Shelf.Strings.Builder2
import Derived.Shelf.Strings.OnBuilder
import Derived.Shelf.Bits.Mul64
set_option linter.unusedVariables false
set_option linter.unusedSimpArgs false
namespace Go.Proofs
open Go.Shelf
def Tryz.lays156_ren:Go.Shelf.Ren:=⟨fun|156=>167|165=>229|166=>230|169=>231|240=>303|241=>304|276=>345|277=>346|n=>n,fun|31=>171|9=>9|3=>3|4=>4|0=>0|20=>20|72=>222|76=>226|70=>220|37=>218|75=>225|127=>270|164=>299|5=>5|80=>228|n=>n,fun|n=>n⟩
theorem Tryz.lays156:Go.Proofs.Lays.n156 Tryz.prog Tryz.lays156_ren:={
  mixed:=by kernel_rfl
  f156:=Tryz.func167.trans (congrArg some (by kernel_rfl))
  f165:=Tryz.func229.trans (congrArg some (by kernel_rfl))
  f166:=Tryz.func230.trans (congrArg some (by kernel_rfl))
  f169:=Tryz.func231.trans (congrArg some (by kernel_rfl))
  f240:=Tryz.func303.trans (congrArg some (by kernel_rfl))
  f241:=Tryz.func304.trans (congrArg some (by kernel_rfl))
  f276:=Tryz.func345.trans (congrArg some (by kernel_rfl))
  f277:=Tryz.func346.trans (congrArg some (by kernel_rfl))
  t0:=Tryz.underlying0
  a0:=Tryz.isAgg0
  z0:=Tryz.sizeOf0
  v0:=Tryz.zeroValue0
  t3:=Tryz.underlying3
  a3:=Tryz.isAgg3
  z3:=Tryz.sizeOf3
  v3:=Tryz.zeroValue3
  t4:=Tryz.underlying4
  a4:=Tryz.isAgg4
  z4:=Tryz.sizeOf4
  v4:=Tryz.zeroValue4
  t9:=Tryz.underlying9
  a9:=Tryz.isAgg9
  z9:=Tryz.sizeOf9
  v9:=Tryz.zeroValue9
  t20:=Tryz.underlying20
  a20:=Tryz.isAgg20
  z20:=Tryz.sizeOf20
  v20:=Tryz.zeroValue20
  t31:=Tryz.underlying171
  a31:=Tryz.isAgg171
  z31:=Tryz.sizeOf171
  v31:=Tryz.zeroValue171
  t37:=Tryz.underlying218
  a37:=Tryz.isAgg218
  z37:=Tryz.sizeOf218
  v37:=Tryz.zeroValue218
  t70:=Tryz.underlying220
  a70:=Tryz.isAgg220
  z70:=Tryz.sizeOf220
  v70:=Tryz.zeroValue220
  t72:=Tryz.underlying222
  a72:=Tryz.isAgg222
  z72:=Tryz.sizeOf222
  v72:=Tryz.zeroValue222
  t75:=Tryz.underlying225
  a75:=Tryz.isAgg225
  z75:=Tryz.sizeOf225
  v75:=Tryz.zeroValue225
  t76:=Tryz.underlying226
  a76:=Tryz.isAgg226
  z76:=Tryz.sizeOf226
  v76:=Tryz.zeroValue226
  t127:=Tryz.underlying270
  a127:=Tryz.isAgg270
  z127:=Tryz.sizeOf270
  v127:=Tryz.zeroValue270
  t164:=Tryz.underlying299
  a164:=Tryz.isAgg299
  z164:=Tryz.sizeOf299
  v164:=Tryz.zeroValue299}
theorem Tryz.Builder_Extra_156:Builder.Extra Tryz.prog Tryz.lays156_ren:={
  sizeBuilder:=by kernel_rfl
  liesBuilder:=by kernel_rfl
  t5:=Tryz.underlying5
  a5:=Tryz.isAgg5
  z5:=Tryz.sizeOf5
  v5:=Tryz.zeroValue5
  infoByte:=by kernel_rfl
  cellsByte:=by kernel_rfl
  sizeByte:=by kernel_rfl
  neB5:=by decide}
open Go.RowKit in
theorem Tryz.strings_Join_none(a:Option Addr)(c:Nat)(sep:ByteArray)(w:World):
    Calls Tryz.prog 167 #[.slice a 0 c,.string sep] w fun e w'=>e= .returned (.string ⟨#[]⟩)∧w'=w:=Any.strings_Join_none Tryz.lays156 Tryz.Builder_Extra_156 a c sep w
open Go.RowKit in
theorem Tryz.strings_Join(bk o c:Nat)(xs:List ByteArray)(sep:ByteArray)(w:World)(hcells: ∀(j:Nat) x,xs[j]? =some x→w.cell? ⟨bk,o+j,none⟩=some (.string x))(hbk:bk<w.heap.size)(hN:xs.length≤140737488355328)(hcap:xs.length≤c)(hlen:(Lib.join (xs.map (·.data.toList)) sep.data.toList).length≤140737488355328):
    Calls Tryz.prog 167 #[.slice (some ⟨bk,o,none⟩) xs.length c,.string sep] w fun e w'=>e= .returned (.string ⟨(Lib.join (xs.map (·.data.toList)) sep.data.toList).toArray⟩)∧Below w.heap.size w w':=Any.strings_Join Tryz.lays156 Tryz.Builder_Extra_156 bk o c xs sep w hcells hbk hN hcap hlen
end Go.Proofs
namespace Go.Proofs.YtmggkmchbdanfaaGreat
open And renaming intro->xfr
open Bool renaming and_eq_true->xam
open Ending renaming returned->xer
open Extern renaming find->xeM,findNext->xdW
open Extern.MathBitsCarry renaming m64->xaZ,pair->xbQ,three->xbJ
open Int renaming fdiv->xfM,natCast_nonneg->xdb,tdiv->xda,tmod->xbX
open Lib renaming bitLen->xeQ
open List renaming append_assoc->xak,cons_append->xbN,drop->xdv,drop_eq_nil_of_le->xcf,eq_nil_of_length_eq_zero->xbA,getD_eq_getElem?_getD->UV,getElem?_eq_getElem->IR,getElem?_eq_none->xaI,getElem?_map->xaA,getElem?_range->xbg,getElem_mem->xbh,intercalate->xfz,length->xaF,length_append->xau,length_cons->xav,length_drop->xbO,length_eq_zero_iff->xbF,length_map->xaM,length_nil->xcq,length_replicate->xaT,length_take->xay,map_append->xaN,map_congr_left->xbL,map_cons->xbP,map_map->xcM,mem_append->xaa,mem_cons->xad,mem_cons_of_mem->H1,mem_cons_self->FS,mem_of_mem_drop->xeD,mem_of_mem_take->xeC,mem_or_eq_of_mem_set->xeE,mem_singleton->xai,not_mem_nil->Nm,range->xbb,replicate->xae,replicate_succ->xeb,set_append_right->xfs,take->xdr,take_append_drop->xbR,take_of_length_le->xaX
open List.Perm renaming swap->xeF
open List.cons renaming injEq->xeq
open Nat renaming add_assoc->xcW,add_mul->xaV,add_mul_div_left->xdw,add_mul_mod_self_left->xcN,add_zero->xcg,beq->xan,ble->xfN,blt->xdl,div_add_mod->xbC,div_div_eq_div_mul->xaY,div_eq_of_lt->xca,div_lt_iff_lt_mul->xbf,div_one->xeO,eq_zero_of_not_pos->xek,le_of_ble_eq_true->xbH,le_refl->xac,le_trans->xao,lt_of_lt_of_le->xap,lt_of_not_le->xdI,lt_succ_self->xbV,min_eq_left->xcX,mod_add_div->xfI,mod_eq_of_lt->xaE,mod_lt->xbp,mul_add->xbm,mul_assoc->xbd,mul_comm->xba,mul_le_mul->xbU,mul_le_mul_left->xaJ,mul_left_comm->xdZ,mul_lt_mul''->xdJ,mul_lt_mul_of_pos_right->xbS,mul_one->xcD,mul_zero->xdi,pos_of_ne_zero->xcE,pow_add->xcd,pow_le_pow_right->xaK,pow_pos->xbo,pow_succ->xbu,pow_succ'->xeY,pow_zero->xeR,sub_self->xcU,zero_add->xaS,zero_le->xaj,zero_lt_one->xdY
open Option.some renaming inj->xcY,injEq->xaw
open Prod.mk renaming injEq->xct
open Sum renaming elim->xfo
open UInt8 renaming ofNat->xeN,toNat->xfg
open _root_.Array renaming length_toList->xeK,toArray_toList->xde
section
section
variable{P:Program}
def zc:Ty->List Value
 | .i=>[.int .i64 0]
 | .u=>[.int .u64 0]
 | .b=>[.bool false]
 | .ch=>[.int .u8 0]
 | .tx=>[.string ByteArray.empty]
 | .l _=>[.slice none 0 0]
 | .p s t=>zc s++zc t
 | .a k t=>(xae k (zc t)).flatten
theorem MX{α:Type}{e:zV α}{S:Nat->Prop}{w:World}{x:α}{c:List Value}(h:e.p S x c w): ∀k,yr e S (xae k x) (xae k c).flatten w
 |0=>rfl
 |k+1=>⟨c,_,rfl,h,MX h k⟩
theorem zbu(S:Nat->Prop)(w:World): ∀t:Ty,t.rep.p S t.z (zc t) w
 | .i=>⟨rfl,show(-9223372036854775808:Int)<=0 by decide,show(0:Int)<=9223372036854775807 by decide⟩
 | .u=>⟨rfl,show(0:Nat)<18446744073709551616 by decide⟩
 | .b=>rfl
 | .ch=>⟨rfl,show(0:Nat)<256 by decide⟩
 | .tx=>⟨ByteArray.empty,rfl,rfl,by decide⟩
 | .l _=>⟨_,rfl,Oy.nil⟩
 | .p s t=>⟨_,_,rfl,zbu S w s,zbu S w t⟩
 | .a k t=>⟨xaT,MX (zbu S w t) k⟩
def zda(P:Program)(t n:Nat):(List (Option Nat)×List (Option (Nat×Bool×Nat)))×Option (List (Option (Nat×Nat))):=(((xbb n).map fun i=>HR P t i,(xbb n).map fun i=>Ry P t i),match plB P t with
 |some a=>some (a.toList.map some)
 |none=>none)
def SO(ty:Ty)(n:Nat):(List (Option Nat)×List (Option (Nat×Bool×Nat)))×Option (List (Option (Nat×Nat))):=(((xbb n).map fun i=>(Qc n ty i).map (·.off),(xbb n).map fun i=>(Qc n ty i).map fun f=>(f.off,f.f.rep.agg,f.f.n)),some ((xbb n).map fun i=>(Qc n ty i).map fun f=>(f.off,f.f.n)))
def Lv(P:Program)(t:TypeId)(ti:TI):Prop:=match ti.k with
 | .int k=>P.underlying t=some (.int k)
 | .bool=>P.underlying t=some .bool
 | .str=>P.underlying t=some .string
 | .sl E=>P.underlying t=some (.slice E)/\ ∃e,ti.ty= .l e
 | .st n=>ti.ty.rep.agg=true/\zda P t n=SO ti.ty n
 | .ar k E=>ti.ty.rep.agg=true/\P.underlying t=some (.array k E)
theorem Cq: ∀{n:Nat} {t:Ty} {i:Nat} {f:Fl t.D},Qc n t i=some f->i<n
 |0,_,_,_,h=>by simp[Qc]at h
 |1,t,i,f,h=>by
  simp only[Qc]at h;cases hb:xan i 0<;>rw[hb]at h
  ·cases h
  ·rw[z8 hb];exact xdY
 |n+2,.p s t,0,f,h=>Nat.succ_pos _
 |n+2,.p s t,i+1,f,h=>by
  simp only[Qc]at h;split at h
  ·next f' hf=>exact Nat.succ_lt_succ (Cq hf)
  ·cases h
 |n+2,.i,_,_,h=>by simp[Qc]at h
 |n+2,.u,_,_,h=>by simp[Qc]at h
 |n+2,.b,_,_,h=>by simp[Qc]at h
 |n+2,.l _,_,_,h=>by simp[Qc]at h
 |n+2,.a _ _,_,_,h=>by simp[Qc]at h
 |n+2,.ch,_,_,h=>by simp[Qc]at h
 |n+2,.tx,_,_,h=>by simp[Qc]at h
theorem Px.of{t:TypeId}{ti:TI}(h:Lv P t ti):Px P t ti:=by
 unfold Lv at h;unfold Px;split at h
 ·next h0=>simp only[h0];exact h
 ·next h0=>simp only[h0];exact h
 ·next h0=>simp only[h0];exact h
 ·next h0=>simp only[h0];exact h
 ·next n h0=>
  simp only[h0];obtain⟨h1,h⟩:=h;have h2:=congrArg (fun q=>q.1.1) h;have ha:=congrArg (fun q=>q.1.2) h;have h3:=congrArg Prod.snd h;simp only[zda,SO]at h2 ha h3;refine⟨h1,fun i f hf=> ?_,?_,fun i f hf=> ?_⟩;rotate_left 2
  ·have:=congrArg (fun l:List (Option (Nat×Bool×Nat))=>l[i]?) ha;simp only[xaA,xbg (Cq hf),Option.map_some,hf]at this;simpa using this
  ·have:=congrArg (fun l:List (Option Nat)=>l[i]?) h2;simp only[xaA,xbg (Cq hf),Option.map_some,hf]at this;simpa using this
  ·cases hp:plB P t with
   |none=>
    rw[hp]at h3;cases h3
   |some a=>
    rw[hp]at h3;simp only[xaw]at h3;obtain⟨fs,h4,h5⟩:=zbI hp;refine⟨fs,h4,a,h5,fun i f hf=> ?_⟩;have:=congrArg (fun l:List (Option (Nat×Nat))=>l[i]?) h3;simp only[xaA,xbg (Cq hf),Option.map_some,hf]at this;rw[<-Array.getElem?_toList]
    cases hx:a.toList[i]? with
    |none=>rw[hx]at this;cases this
    |some q=>rw[hx]at this;simpa using this
 ·next h0=>simp only[h0];exact h
theorem SY.of{t:TypeId}{ti:TI}(h1:tyB P t=some (ti.ty.rep.agg,ti.ty.n,ti.B,some (ti.ty.rep.val (zc ti.ty))))(h2:(xdl 0 ti.B && xdl 0 ti.ty.n)=true)(h3:Lv P t ti):SY P t ti:=by
 rw[xam]at h2;have hz:=fun S w=>zbu S w ti.ty;refine⟨⟨_,(by rw[Ty.n_rep];exact XB.of h1),?_,fun S w=> ?_,fun s hs=>by rw[hs];rfl⟩,xbH h2.1,(by rw[Ty.n_rep];exact xbH h2.2),Px.of h3⟩
 ·rw[<-xeK,zV.val_cells _ (hz (fun _=>True) default),ti.ty.rep.len (hz (fun _=>True) default)]
 ·rw[zV.val_cells _ (hz S w)];exact hz S w
theorem zS.nil:zS P []:=fun _ _ h=>by cases h
theorem zS.cons{t:TypeId}{ti:TI}{tt:List (Nat×TI)}(h:SY P t ti)(k:zS P tt):zS P ((t,ti)::tt):=by
 intro t' ti' hf;unfold Q0 at hf;cases hb:xan t t'<;>rw[hb]at hf
 ·exact k t' ti' hf
 ·cases hf;rw[<-z8 hb];exact h
theorem zS.add{t:TypeId}{ti:TI}{tt:List (Nat×TI)}(h1:tyB P t=some (ti.ty.rep.agg,ti.ty.n,ti.B,some (ti.ty.rep.val (zc ti.ty))))(h2:(xdl 0 ti.B && xdl 0 ti.ty.n)=true)(h3:Lv P t ti)(k:zS P tt):zS P ((t,ti)::tt):=zS.cons (SY.of h1 h2 h3) k
def elB(tt:List (Nat×TI)):List (Nat×TI)->Bool
 |[]=>true
 |(_,⟨.l s,.sl E,_⟩)::r=>(match Q0 tt E with
  |some ti=>(Ty.same ti.ty s).isSome
  |none=>false) && elB tt r
 |_::r=>elB tt r
theorem jy.of'{tt:List (Nat×TI)}: ∀{l:List (Nat×TI)},elB tt l=true-> ∀t s E B,Q0 l t=some ⟨.l s,.sl E,B⟩-> ∃ti,Q0 tt E=some ti/\ti.ty=s
 |[],_,_,_,_,_,h=>by cases h
 |(t',ti')::r,h,t,s,E,B,hf=>by
  have hr:elB tt r=true:=by
   unfold elB at h;split at h
   ·cases‹_::_=[]›
   ·next hh=>cases hh;rw[xam]at h;exact h.2
   ·next hh=>cases hh;exact h
  unfold Q0 at hf;cases hb:xan t' t<;>rw[hb]at hf
  ·exact jy.of' hr t s E B hf
  ·cases hf;unfold elB at h;simp only[xam]at h;have h:=h.1;split at h
   ·next ti he=>
    refine⟨ti,he,?_⟩
    cases hs:Ty.same ti.ty s with
    |none=>rw[hs]at h;cases h
    |some p=>exact p.down
   ·cases h
theorem jy.of{tt:List (Nat×TI)}(h:elB tt tt=true):jy P tt:=fun t s E B=>jy.of' h t s E B
theorem aI.nil:aI P []:=fun _ _ h=>by cases h
theorem aI.add{f:Nat}{b:Bool}{ex:List (Nat×Bool)}{fn:Func}(h0:P.funcs[f]? =some fn)(h1:(fn.name== "runtime.NumGoroutine")=false)(h2:fn.body=none)(h3:(xdW fn).isNone=true)
 (h4:b=true->xeM fn=some (fun args=>do
  let(x,y,c)<-xbJ "Add64" args
  pure (xbQ ((x+y+c) % xaZ) ((x+y+c)/xaZ))))
 (h5:b=false->xeM fn=some (fun args=>do
  let(x,y,b)<-xbJ "Sub64" args
  pure (xbQ ((x+xaZ-y-b) % xaZ) (if x<y+b then 1 else 0)))) (k:aI P ex):aI P ((f,b)::ex):=by
 intro f' b' hf;unfold Q0 at hf;cases hb:xan f f'<;>rw[hb]at hf
 ·exact k f' b' hf
 ·cases hf;rw[<-z8 hb];exact⟨fn,h0,h1,h2,h3,h4,h5⟩
theorem cN: ∀s∈([]:List W1),y5 P s:=fun _ h=>absurd h Nm
theorem cC{s:W1}{l:List W1}(h:y5 P s)(k: ∀s∈l,y5 P s): ∀q∈s::l,y5 P q:=fun x hx=>by
 rcases xad.1 hx with e|hx
 ·subst e;exact h
 ·exact k x hx
theorem sg0{s:W1}(hb:pW P s.f=true)(hM: ∀x,s.M x=none):y5 P s:=⟨hb,fun x r h=>by rw[hM x]at h;cases h⟩
theorem pX.of{tt:List (Nat×TI)}{ex:List (Nat×Bool)}{cs:List W1}{an:An}{fu:Nat}(hX:aI P ex)(hp:P=Tryz.prog):pX P ⟨tt,cs,an,fu,ex,[],[],[]⟩:=⟨hX,fun _ h=>absurd h Nm,fun _ h=>absurd h Nm,fun _ h=>absurd h Nm,hp⟩
theorem sgP(hm:P.follows .mixedOrders=true){tt:List (Nat×TI)}{ex:List (Nat×Bool)}(hT:zS P tt)(hL:jy P tt)(hX:aI P ex)(hp:P=Tryz.prog){cs:List W1}(an:An){fu:Nat}{s:W1}{fn:Func}(hf:P.funcs[s.f]? =some fn)(hC: ∀s∈cs,y5 P s)(hb:pW P s.f=true)(hk:s.bk=0)(hM: ∀x,H8 ⟨tt,cs,an,fu,ex,[],[],[]⟩ fn s.dom s.cod x=s.M x):y5 P s:=
 IM (cf:=⟨tt,cs,an,fu,ex,[],[],[]⟩) hm hT hL hC (.of hX hp) hf hb hk fun x r h=>(hM x).trans h
theorem sgG(hm:P.follows .mixedOrders=true){tt:List (Nat×TI)}{ex:List (Nat×Bool)}(hT:zS P tt)(hL:jy P tt)(hX:aI P ex)(hp:P=Tryz.prog){cs:List W1}(an:An){fu:Nat}{s:W1}{fn:Func}(hf:P.funcs[s.f]? =some fn)(hC: ∀s∈cs,y5 P s)(hb:pW P s.f=true)(hM: ∀pn x,zcd ⟨tt,cs,an,fu,ex,[],[],[]⟩ fn s.dom s.cod s.bk pn x=s.M x):y5 P s:=
 zdZ (cf:=⟨tt,cs,an,fu,ex,[],[],[]⟩) hm hT hL hC (.of hX hp) hf hb fun pn x r h=>(hM pn x).trans h
end
end
section
def TA:(dom:List Ty)->aW dom->Nat->List (Nat×Nat×Dv)
 |[],_,_=>[]
 |t::r,x,i=>(i,0,.d t x.1)::TA r x.2 (i+1)
def zcY(g:FuncId)(t:Nat)(σ:Sg):Option (List PD):=match get ⟨0,[],[]⟩ σ t 0 with
 |some (.fn f cs)=>kt (xan f g) (some cs)
 |_=>none
def zhQ(cf:Cf)(fn:Func)(dom:List Ty)(g:FuncId)(x:aW dom):Option (List PD):=match fn.body,fn.results.toList with
 |some c,[.tmp t]=>kt (GR fn.ntmps c && xfN dom.length fn.ntmps)<|Um cf c ⟨0,[],[]⟩ ⟨0,TA dom x 0,[]⟩ fun q σ=>match q with
  | .r=>zcY g t σ
  | .n=>zcY g t σ
  |_=>none
 |_,_=>none
def zct(t:Ty)(E E1:TypeId)(ix:List Nat)(lo n:Nat)(σ:Sg):Option (List (List t.D)):=match get ⟨0,[],[]⟩ σ 3 0 with
 |some (.mv o lo' n')=>(match xG σ.ob o with
  |some (.mat t' E' F' xss ix')=>kt (xan E E' && xan E1 F')<|Ty.cast (.l (.l t')) (.l (.l t)) xss fun y=>ck (lo'=lo/\n'=n/\ix'=ix) (some y)
  |_=>none)
 |_=>none
def zfG(cf:Cf)(fn:Func)(t:Ty)(E E1:TypeId)(pn:Value)(xss:List (List t.D))(ix:List Nat)(r:Nat)(a p:Int)(lo n:Nat):Option (List (List t.D)):=match fn.body,fn.results.toList with
 |some c,[]=>kt (GR fn.ntmps c && xfN 4 fn.ntmps)<|Um cf c ⟨0,[(3,0,.pin pn)],[]⟩ ⟨1,[(0,0,.rw 0 r),(1,0,.d .i a),(2,0,.d .i p),(3,0,.mv 0 lo n)],[(0,.mat t E E1 xss ix)]⟩ fun q σ=>match q with
  | .r=>zct t E E1 ix lo n σ
  | .n=>zct t E E1 ix lo n σ
  |_=>none
 |_,_=>none
section
variable{P:Program}{cf:Cf}{env:yM}{w:World}
theorem LX{S:Nat->Prop}{vs:Nat->Value}: ∀{dom:List Ty} {x:aW dom} {i:Nat} {l:List Value},l.length=dom.length->(∀j v,l[j]? =some v->env (i+j)=v)->zz S (tsF dom x l) w->zz S (RS P vs env (TA dom x i)) w
 |[],_,_,_,_,_,_=>trivial
 |a::dom,x,i,[],hl,_,_=>by cases hl
 |a::dom,x,i,v::l,hl,h,hA=>by
  have ih:zz S (RS P vs env (TA dom x.2 (i+1))) w:=LX (l:=l) (by simpa using hl) (fun j v hj=>by
   have:=h (j+1) v (by simpa using hj);rw[show i+1+j=i+(j+1)by omega];exact this) hA.2
  have h0:env i=v:=h 0 v rfl;have ha:(fV a.rep x.1 v).p S w:=hA.1;exact⟨show(fV a.rep x.1 (env i)).p S w by rw[h0];exact ha,ih⟩
theorem Dm: ∀{dom:List Ty} {x:aW dom} {i:Nat},∀e∈TA dom x i,xZ e.2.2=none
 |[],_,_,e,he=>absurd he Nm
 |a::dom,x,i,e,he=>by
  rcases xad.1 he with rfl|he
  ·rfl
  ·exact Dm e he
theorem zft(hm:P.follows .mixedOrders=true)(hT:zS P cf.tt)(hL:jy P cf.tt)(hC: ∀s∈cf.cs,y5 P s)(hX:pX P cf){s:EZ}{fn:Func}
 (hf:P.funcs[s.f]? =some fn) (hb:pW P s.f=true) (hM: ∀x,zhQ cf fn s.dom s.g x=some (s.mc x)):Hs P s:=by
 refine⟨hb,fun x vs hd=>MO.plain ?_⟩;have h:=hM x;unfold zhQ at h;split at h
 ·next c t hc hr=>
  obtain⟨ho,h⟩:=yh h;rw[xam]at ho;intro we Se F G w hs;refine Qm hf hc (by rw[hd];exact ho.2) fun rest=> ?_;refine ZD (fr:=⟨we,Se,F,G⟩) (N:=Nd.of fn.ntmps) hm hT hL hC hX c ho.1 rfl (.inl rfl) h (fun q σ' hk Ds env w _ hR=> ?_) ?_
  ·obtain⟨hl,hR⟩:=WH hR
   have fin:zcY s.g t σ'=some (s.mc x)-> ∀a:Act,yu a=env->
    ∃v,(results fn a.tmps).run P (qc Ds w)= .ok v (qc Ds w)/\ ∃u:Value,xer v= .returned u/\True/\St we Se ([]++F) ([zd1 s.g (s.mc x) u]++G) (qc Ds w):=fun h a ha=>by
    unfold zcY at h;split at h
    ·next f cs hg=>
     obtain⟨hi,h1⟩:=yh h;have hi:=z8 hi;subst hi;cases h1;obtain⟨hB,vs',hn⟩:=hR;have hq:St we Se (MS vs' σ'.ob++F) (RS P vs' env σ'.rg++([]++G)) (qc Ds w):=hn;refine⟨_,YP (rs:=[.tmp t]) (vs:=[env t]) (by rw[<-hr,xde]) (ha▸⟨rfl,trivial⟩),env t,rfl,trivial,?_⟩;have h3:=St.dropM (A:=[]) (B:=MS vs' σ'.ob) (C:=F) (by simpa using hq);refine h3.weak fun S w hΓ=>⟨?_,?_⟩
     ·exact ZE (fr:=⟨we,Se,F,G⟩) (cx:=⟨0,[],[]⟩) (show zz S (GS P vs' env ⟨we,Se,F,G⟩ ⟨0,[],[]⟩ σ') w from hΓ) t 0 _ hg
     ·exact zz.right hΓ
    ·cases h
   cases q with
   |n=>exact⟨.inl rfl,hl,fin hk⟩
   |r=>exact⟨.inr rfl,hl,fin hk⟩
   |x j=>cases hk
  ·refine⟨⟨fun _ he=>absurd he Nm,fun _ he=>absurd he Nm,fun e he p hp=> ?_,fun _ he=>absurd he Nm⟩,fun _=>undef,?_⟩
   ·rw[Dm e he]at hp;cases hp
   ·show St we Se ([]++([]++F)) _ w;exact hs.weak fun S w hΓ=>zz.append (LX hd (fun j v hj=>Dn hj) (zz.left hΓ)) (zz.right hΓ)
 ·cases h
theorem Tu{α:Type}{e:zV α}{E E1:TypeId}{u:Value}{xss:List (List α)}{ix:List Nat}{S:Nat->Prop}(h:(fQ e E E1 u xss ix).p S w): ∀a k c,yY u= .slice a k c->a.isSome=true->k=ix.length:=by
 intro a k c h1 h2;rcases JF (Ax h).2.1 with⟨hv,_⟩|⟨b,cap,hv,_⟩
 ·rw[h1]at hv;cases hv;cases h2
 ·rw[h1]at hv;cases hv;rfl
theorem za1{cx σ:Sg}{t i:Nat}{d:Dv}(h:get ⟨0,[],[]⟩ σ t i=some d):get cx σ t i=some d:=by
 unfold get at h⊢;split at h
 ·exact h
 ·cases h
theorem zfL(hm:P.follows .mixedOrders=true)(hT:zS P cf.tt)(hL:jy P cf.tt)(hC: ∀s∈cf.cs,y5 P s)(hX:pX P cf){s:mJ}{fn:Func}
 (hf:P.funcs[s.f]? =some fn) (hb:pW P s.f=true) (hM: ∀pn xss ix r a p lo n z,s.M xss ix r a p lo n=some z->zfG cf fn s.t s.E s.E1 pn xss ix r a p lo n=some z):HC P s:=by
 refine⟨hb,fun xss ix r a p lo n z hz u hr hv hx hl hy hA we Se F G w hn=> ?_⟩;have h:=hM hv xss ix r a p lo n z hz;unfold zfG at h;split at h
 ·next c hc hD=>
  obtain⟨ho,h⟩:=yh h;rw[xam]at ho;have hi: ∀a k c,yY u= .slice a k c->a.isSome=true->k=ix.length:=xN hn (i:=0) rfl fun S hp=>Tu hp;refine Qm (args:=[hr,.int .i64 a,.int .i64 p,hv]) hf hc ho.2 fun rest=> ?_;refine ZD (fr:=⟨we,Se,F,G⟩) (N:=Nd.of fn.ntmps) hm hT hL hC hX c ho.1 rfl (.inl rfl) h (fun q σ' hk Ds env w _ hR=> ?_) ?_
  ·obtain⟨hs,hR⟩:=WH hR
   have fin:zct s.t s.E s.E1 ix lo n σ'=some z-> ∀a:Act,yu a=env->
    ∃v,(results fn a.tmps).run P (qc Ds w)= .ok v (qc Ds w)/\ ∃v' u',xer v= .returned v'/\yY u'=yY u/\St we Se (fQ s.t.rep s.E s.E1 u' z ix::F) G (qc Ds w):=fun h a ha=>by
    unfold zct at h;split at h
    ·next o lo' n' hg=>
     split at h
     ·next t' E' F' zss ix' ho=>
      obtain⟨hE,h1⟩:=yh h;rw[xam]at hE;have hF:=z8 hE.1;have hG:=z8 hE.2;subst hF hG;obtain⟨e,h2⟩:=yi h1;cases e;obtain⟨⟨rfl,rfl,rfl⟩,h3⟩:=kh h2;cases h3;obtain⟨hB,vs',hd⟩:=hR;obtain⟨S0,_,ht⟩:=hd.ex;have hu:env 3=hv:=(zz.left (zz.right ht)).1;have hw:Dc (yY (vs' o)) lo' n' (env 3):=ZE ht 3 0 _ (za1 hg);rw[hu]at hw;have h2:St we Se (fQ s.t.rep s.E s.E1 (vs' o) zss ix'::OS vs' ⟨we,Se,F,G⟩ ⟨0,[(3,0,.pin hv)],[]⟩ (yD σ'.ob o)) (GS P vs' env ⟨we,Se,F,G⟩ ⟨0,[(3,0,.pin hv)],[]⟩ σ') (qc Ds w):=uO ho hd;have hj: ∀a k c,yY (vs' o)= .slice a k c->a.isSome=true->k=ix'.length:=xN h2 (i:=0) rfl fun S hp=>Tu hp;refine⟨_,YP (rs:=[]) (vs:=[]) (by rw[<-hD,xde]) trivial,_,vs' o,rfl,hw.same hl hj hi,?_⟩;have h3:St we Se ([fQ s.t.rep s.E s.E1 (vs' o) zss ix']++(MS vs' (yD σ'.ob o)++F)) (GS P vs' env ⟨we,Se,F,G⟩ ⟨0,[(3,0,.pin hv)],[]⟩ σ') (qc Ds w):=h2;exact(St.dropM h3).weak fun S w hΓ=>zz.right (zz.right hΓ)
     ·cases h
    ·cases h
   cases q with
   |n=>exact⟨.inl rfl,hs,fin hk⟩
   |r=>exact⟨.inr rfl,hs,fin hk⟩
   |x j=>cases hk
  ·refine⟨⟨fun e he=> ?_,fun _ he=>absurd he Nm,fun e he q hq=> ?_,fun e he q hq=> ?_⟩,fun _=>u,?_⟩
   ·obtain rfl:=xai.1 he;exact xdY
   ·simp only[xad,Nm,or_false]at he;rcases he with rfl|rfl|rfl|rfl<;>cases hq<;>exact xdY
   ·obtain rfl:=xai.1 he;cases hq
   ·refine hn.weak fun S w hΓ=>⟨hx,xL hy,xL hA,hl,rfl,hΓ⟩
 ·cases h
end
end
section
theorem Pc{ι:Type _}{R:Type}(S:ι->Tg×Sg)(f:ι->Option R)(inj: ∀i j,S i=S j->f i=f j): ∃K:Tg->Sg->Option R,(∀i,K (S i).1 (S i).2=f i)/\ ∀t σ r,K t σ=some r-> ∃i,S i=(t,σ)/\f i=some r:=by
 classical
 refine⟨fun t σ=>if h: ∃i,S i=(t,σ)then f h.choose else none,fun i=> ?_,fun t σ r h=> ?_⟩
 ·have h: ∃j,S j=((S i).1,(S i).2):=⟨i,rfl⟩;simp only[dif_pos h];exact inj _ _ h.choose_spec
 ·by_cases h1: ∃i,S i=(t,σ)
  ·simp only[dif_pos h1]at h;exact⟨_,h1.choose_spec,h⟩
  ·simp only[dif_neg h1]at h;cases h
def chS(E:TypeId){X Y:Type}(mX:X->Value->MF)(mY:Y->Value->MF)(g:List Int->X->Option (List Int×(X⊕Y)))(n all:Int)(x:X)(xs:List Int):Sg:=
 ⟨2,[(4,0,.ow 1),(0,0,.yd 0),(1,0,.q .i n),(2,0,.q .i all)],[(1,.own .i E xs),(0,.hid .i E X Y mX mY g x)]⟩
section
variable{P:Program}{fr:Fr}{σ:Sg}{env:yM}{w:World}{E:TypeId}{X Y:Type}{mX:X->Value->MF}{mY:Y->Value->MF}{g:List Int->X->Option (List Int×(X⊕Y))}{n all:Int}{x:X}{y:Y}{xs:List Int}{o p:Nat}
theorem zdq(h4:get ⟨0,[],[]⟩ σ 4 0=some (.ow p))(h0:get ⟨0,[],[]⟩ σ 0 0=some (.yd o))(h1:get ⟨0,[],[]⟩ σ 1 0=some (.q .i n))(h2:get ⟨0,[],[]⟩ σ 2 0=some (.q .i all))(ho:xG σ.ob o=some (.hid .i E X Y mX mY g x))(hp:xG σ.ob p=some (.own .i E xs))
 (hb:xan o p=false) (h:uH P fr ⟨0,[],[]⟩ σ env w):uH P fr ⟨0,[],[]⟩ (chS E mX mY g n all x xs) env w:=by
 obtain⟨hB,vs,hc⟩:=h;have h5:=cX hb ho hp hc;refine⟨⟨fun e he=> ?_,fun _ he=>absurd he Nm,fun e he q hq=> ?_,fun _ he=>absurd he Nm⟩,fun k=>if k=0 then vs o else vs p,?_⟩
 ·simp only[chS,xad,Nm,or_false]at he⊢;rcases he with rfl|rfl<;>simp
 ·simp only[chS,xad,Nm,or_false]at he⊢;rcases he with rfl|rfl|rfl|rfl<;>cases hq<;>simp
 ·have h6:St fr.we fr.Se ([VO vs (o,.hid .i E X Y mX mY g x),VO vs (p,.own .i E xs)]++(MS vs (yD (yD σ.ob o) p)++fr.F)) (GS P vs env fr ⟨0,[],[]⟩ σ) w:=h5;have h7:St fr.we fr.Se ([VO vs (p,.own .i E xs),VO vs (o,.hid .i E X Y mX mY g x)]++fr.F) (GS P vs env fr ⟨0,[],[]⟩ σ) w:=(St.dropM h6).perm (xeF ..);refine h7.weak fun S w ha=>⟨?_,?_,?_,?_,?_⟩
  ·exact ZE ha 4 0 _ h4
  ·exact ZE ha 0 0 _ h0
  ·exact ZE ha 1 0 _ h1
  ·exact ZE ha 2 0 _ h2
  ·exact zz.right (zz.right ha)
theorem zeE{t:Ty}{g:List t.D->X->Option (List t.D×(X⊕Y))}(ho:xG σ.ob o=some (.hid t E X Y mX mY g x))(h:uH P fr ⟨0,[],[]⟩ σ env w): ∃u',St fr.we fr.Se (mX x u'::fr.F) fr.G w:=by
 obtain⟨hB,vs,hb⟩:=h;obtain⟨_,h2⟩:=St.unpr (St.grp.1 (uO ho hb));have h3:St fr.we fr.Se ([mX x ((w4 (vs o)).headD undef)]++(MS vs (yD σ.ob o)++fr.F)) (GS P vs env fr ⟨0,[],[]⟩ σ) w:=h2;exact⟨_,(St.dropM h3).weak fun S w ha=>zz.right (zz.right ha)⟩
theorem zeD(ho:xG σ.ob o=some (.hiy Y mY y))(h:uH P fr ⟨0,[],[]⟩ σ env w): ∃u',St fr.we fr.Se (mY y u'::fr.F) fr.G w:=by
 obtain⟨hB,vs,hb⟩:=h;have h2:=uO ho hb;have h3:St fr.we fr.Se ([mY y ((w4 (vs o)).headD undef)]++(MS vs (yD σ.ob o)++fr.F)) (GS P vs env fr ⟨0,[],[]⟩ σ) w:=h2;exact⟨_,(St.dropM h3).weak fun S w ha=>zz.right (zz.right ha)⟩
end
end
section
section
variable{P:Program}
theorem GU{U:Type}{f:FuncId}{args:Array Value}{Γ:List FF}{val:U->Value}{facts:U->List FF}{ok:U->Prop}(h:Fn P f args Γ val facts ok):MO P f args [] Γ val (fun _=>[]) facts ok:=by
 rintro we Se F G w ⟨h1,h2,h3,S,h4,h5,h6,h7,h8⟩;refine(h w S h5 (zz.left h8)).mono ?_;rintro e w' ⟨u,e1,e2,e3,e4⟩;exact⟨u,e1,e2,h1.trans e3,h2,h3,S,h4,fun k hk=>h5 k (xao e3.size hk),h6,yv.keep e3.to (fun m hm i hi=>e3.block i (yv.lt h7 m hm i hi) trivial) h7,zz.append e4 (zz.keep e3.to (zz.right h8))⟩
theorem MO.to{U V:Type}{f:FuncId}{args:Array Value}{ms:List MF}{Γ:List FF}{val:U->Value}{own:U->List MF}{facts:U->List FF}{ok:U->Prop}{val':V->Value}{own':V->List MF}{facts':V->List FF}{ok':V->Prop}
 (h:MO P f args ms Γ val own facts ok) (g:U->V) (h1: ∀u,val u=val' (g u)) (h2: ∀u,own u=own' (g u)) (h3: ∀u,ok u->ok' (g u)) (h4: ∀u,ok u-> ∀S w,zz S (facts u) w->zz S (facts' (g u)) w):MO P f args ms Γ val' own' facts' ok':=by
 intro we Se F G w hb;refine(h we Se F G w hb).mono ?_;rintro e w' ⟨u,e1,e2,e3⟩;exact⟨g u,by rw[e1,h1],h3 u e2,by rw[<-h2];exact e3.weak fun S w ha=>zz.append (h4 u e2 S w (zz.left ha)) (zz.right ha)⟩
theorem zes{f:FuncId}{s t:Ty}{M:s.D->Option t.D}(hb:pW P f=true)(h: ∀x r v,M x=some r->Fn P f [v].toArray [fV s.rep x v] (fun u:Value=>u) (fun u=>[fV t.rep r u]) (fun _=>True)):y5 P ⟨f,[.d s],[.d t],fun x=>M x.1,0⟩:=by
 refine⟨hb,fun x r hM vs hl=> ?_⟩
 match vs,hl with
 |[v],_=>exact(GU (h x.1 r v hM)).to (fun u=>[u]) (fun _=>rfl) (fun _=>rfl) (fun _ _=>rfl) fun u _ S w ha=>ha
theorem zeP{f:FuncId}{M:Nat->Option Int}(hb:pW P f=true)(h: ∀x r,x<18446744073709551616->M x=some r->Fn P f [.int .u64 (x:Int)].toArray [] (fun _:Unit=> .int .i64 r) (fun _=>[]) (fun _=>VM r)):y5 P ⟨f,[.d .u],[.d .i],fun x=>M x.1,0⟩:=by
 refine⟨hb,fun x r hM vs hl=> ?_⟩
 match vs,hl with
 |[v],_=>
  intro we Se F G w hc;obtain⟨S0,_,hΓ⟩:=hc.ex;obtain⟨hv,hx⟩:=SK (show(fV eU x.1 v).p S0 w from hΓ.1);have:=GU (h x.1 r hx hM);rw[<-hv]at this;have h2:MO P f [v].toArray [] [] ZH (fun us=>uA [RM.d .i] r us) (fun us=>uD [RM.d .i] r us) (fun us=>us.length=1):=this.to (fun _=>[.int .i64 r]) (fun _=>rfl) (fun _=>rfl) (fun _ _=>rfl) fun u hu S w ha=>⟨xL hu,trivial⟩;exact h2 we Se F G w (hc.weak fun S w ha=>ha.2)
end
end
section
section
variable{P:Program}
theorem VK.of_below{w w':World}(h:RowKit.Below w.heap.size w w'):VK w w':=⟨h.os,h.tape,h.output,h.size,fun k hk _=>h.block k hk⟩
def Py(xs:List (List Nat))(sep:List Nat):Option (List Nat):=ck (xs.length<=140737488355328)<|ck ((sep.intercalate xs).length<=140737488355328)<|some (sep.intercalate xs)
theorem Gj{S:Nat->Prop}{w:World}: ∀{xs:List (List Nat)} {cs:List Value},yr eTx S xs cs w-> ∃bs:List ByteArray,cs=bs.map Value.string/\bs.map yK=xs
 |[],cs,h=>⟨[],h,rfl⟩
 |x::xs,cs,⟨c,r,h1,h2,h3⟩=>by
  obtain⟨bs,e1,e2⟩:=Gj h3;obtain⟨b,e3,e4,_⟩:=h2;exact⟨b::bs,by rw[h1,e3,e1];rfl,by rw[xbP,e4,e2]⟩
theorem tc{α β:Type}(f:α->β)(s:List α): ∀X:List (List α),(s.intercalate X).map f=(s.map f).intercalate (X.map (List.map f))
 |[]=>by simp[xfz]
 |[x]=>by simp[xfz]
 |x::y::r=>by
  have ih:=tc f s (y::r);simp only[xfz,xbP,List.intersperse_cons_cons,List.flatten_cons,xaN]at ih⊢;rw[ih]
theorem HI(bs:List ByteArray)(s:ByteArray):yK ⟨(Lib.join (bs.map (·.data.toList)) s.data.toList).toArray⟩=(yK s).intercalate (bs.map yK):=by
 show((Lib.join (bs.map (·.data.toList)) s.data.toList).toArray.toList).map xfg=_;rw[List.toList_toArray];unfold Lib.join;rw[tc,xcM];rfl
theorem Pf{f:FuncId}(hb:pW P f=true)
 (h0: ∀(a:Option Addr) (c:Nat) (sep:ByteArray) (w:World),Calls P f #[.slice a 0 c,.string sep] w fun e w'=>e= .returned (.string ⟨#[]⟩)/\w'=w)
 (h1: ∀(bk o c:Nat) (xs:List ByteArray) (sep:ByteArray) (w:World),(∀(j:Nat) x,xs[j]? =some x->w.cell? ⟨bk,o+j,none⟩=some (.string x))->bk<w.heap.size->xs.length<=140737488355328->xs.length<=c->(Lib.join (xs.map (·.data.toList)) sep.data.toList).length<=140737488355328->
  Calls P f #[.slice (some ⟨bk,o,none⟩) xs.length c,.string sep] w fun e w'=>e= .returned (.string ⟨(Lib.join (xs.map (·.data.toList)) sep.data.toList).toArray⟩)/\RowKit.Below w.heap.size w w'):
 y5 P ⟨f,[.d (.l .tx),.d .tx],[.d .tx],fun x=>Py x.1 x.2.1,0⟩:=by
 refine⟨hb,fun x r hM vs hl=> ?_⟩
 match vs,hl with
 |[v,u],_=>
  have hM:Py x.1 x.2.1=some r:=hM;unfold Py at hM;obtain⟨k1,hM⟩:=kh hM;obtain⟨k2,hM⟩:=kh hM;have hr:r=xfz (α:=Nat) x.2.1 x.1:=(xcY hM).symm;have key:Fn P f #[v,u] [fV (eS eTx) x.1 v,fV eTx x.2.1 u] (fun _:Unit=> .string ⟨(r.map xeN).toArray⟩) (fun _=>[fV eTx r (.string ⟨(r.map xeN).toArray⟩)]) (fun _=>True):=by
   intro w Se hm hΓ;obtain⟨hv,hu,_⟩:=hΓ;obtain⟨sb,rfl,e2,e3⟩:=EN hu;obtain⟨ao,cap,rfl,hf,hn,h⟩:=xh.1 hv;have fin: ∀(t:List UInt8) (w':World),VK w w'->t.map xfg=r->FnQ Se w (fun _:Unit=> .string ⟨(r.map xeN).toArray⟩) (fun _=>[fV eTx r (.string ⟨(r.map xeN).toArray⟩)]) (fun _=>True) (.returned (.string ⟨t.toArray⟩)) w':=by
    intro t w' hx ht;have e5:t=r.map xeN:=by
     rw[<-ht,xcM];conv=>lhs;rw[<-List.map_id t]
     exact xbL fun b _=>by simp
    rw[<-e5];refine⟨(),rfl,trivial,hx,Ec ?_ ?_,trivial⟩
    ·unfold yK;simpa using ht
    ·have h6:=vV ⟨t.toArray⟩;have h7:(yK ⟨t.toArray⟩).length=r.length:=by unfold yK;rw[<-ht]
     have h8:r.length<=140737488355328:=by rw[hr];exact k2
     omega
   rcases h with h|⟨b,o,cs,rfl,hs,hd,hg⟩
   ·have h:x.1=([]:List (List Nat)):=h;have hi:r=[]:=by rw[hr,h];rfl
    rw[h];refine(h0 ao cap sb w).mono ?_;rintro e w' ⟨rfl,rfl⟩;exact fin [] w' (yp.refl _ _) hi.symm
   ·obtain⟨bs,e4,e5⟩:=Gj hg;have hc:bs.length=xaF (α:=List Nat) x.1:=by rw[<-e5,xaM]
    have hj:=HI bs sb;rw[e2,e5]at hj;have he:(Lib.join (bs.map (·.data.toList)) sb.data.toList).map xfg=r:=by
     rw[hr,<-hj];unfold yK;simp
    have:=h1 b o cap bs sb w (fun j y hy=>hd.2 j (.string y) (by rw[e4,xaA,hy];rfl)) hd.1 (by rw[hc];exact k1) (by rw[hc];exact hf) (by
     have h9:=congrArg xaF he;rw[xaM]at h9;rw[h9,hr];exact k2)
    rw[hc]at this;refine this.mono ?_;rintro e w' ⟨rfl,hk⟩;exact fin _ w' (VK.of_below hk) he
  exact(GU key).to (fun _=>[.string ⟨(r.map xeN).toArray⟩]) (fun _=>rfl) (fun _=>rfl) (fun _ _=>rfl) fun _ _ S w ha=>ha
end
end
section
set_option maxRecDepth 100000
variable{cs:List W1}{fu:Nat}{s:W1}
def tt:List (Nat×TI):=[(2,⟨.i,.int .i64,8⟩),(3,⟨.i,.int .i64,8⟩),(4,⟨.b,.bool,1⟩),(5,⟨.ch,.int .u8,1⟩),(6,⟨.ch,.int .u8,1⟩),(7,⟨(.p .i (.p .i (.p .b .ch))),.st 4,24⟩),(8,⟨(.p .i (.p .i (.p .b .ch))),.st 4,24⟩),(9,⟨.tx,.str,16⟩),(10,⟨.tx,.str,16⟩),(11,⟨.tx,.str,16⟩),(12,⟨.u,.int .u64,8⟩),(13,⟨(.p .tx .u),.st 2,24⟩),(14,⟨(.p .tx .u),.st 2,24⟩),(22,⟨(.l (.p .b (.l .u))),.sl 30,24⟩),(23,⟨(.l .i),.sl 3,24⟩),(26,⟨.i,.int .i64,8⟩),(28,⟨(.l .u),.sl 54,24⟩),(29,⟨(.p .b (.l .u)),.st 2,32⟩),(30,⟨(.p .b (.l .u)),.st 2,32⟩),(31,⟨(.l (.p (.l (.p .b (.l .u))) .i)),.sl 42,24⟩),(41,⟨(.p (.l (.p .b (.l .u))) .i),.st 2,32⟩),(42,⟨(.p (.l (.p .b (.l .u))) .i),.st 2,32⟩),(53,⟨.u,.int .u64,8⟩),(54,⟨.u,.int .u64,8⟩),(55,⟨(.l (.l (.p .b (.l .u)))),.sl 22,24⟩),(59,⟨(.l (.l (.p (.p .b (.l .u)) (.l .u)))),.sl 60,24⟩),(60,⟨(.l (.p (.p .b (.l .u)) (.l .u))),.sl 78,24⟩),(62,⟨(.p (.l (.p .b (.l .u))) (.l (.p (.p .b (.l .u)) (.l .u)))),.st 2,48⟩),(63,⟨(.p (.l (.p .b (.l .u))) (.l (.p (.p .b (.l .u)) (.l .u)))),.st 2,48⟩),(77,⟨(.p (.p .b (.l .u)) (.l .u)),.st 2,56⟩),(78,⟨(.p (.p .b (.l .u)) (.l .u)),.st 2,56⟩),(138,⟨(.l (.l .i)),.sl 23,24⟩),(169,⟨(.p (.l (.p .b (.l .u))) (.p (.l (.p .b (.l .u))) (.p (.p .b (.l .u)) (.p (.p .b (.l .u)) .b)))),.st 5,120⟩),(170,⟨(.p (.l (.p .b (.l .u))) (.p (.l (.p .b (.l .u))) (.p (.p .b (.l .u)) (.p (.p .b (.l .u)) .b)))),.st 5,120⟩),(171,⟨(.l .tx),.sl 9,24⟩),(218,⟨(.l .ch),.sl 5,24⟩),(251,⟨(.a 4 (.l (.p .b (.l .u)))),.ar 4 22,96⟩),(252,⟨(.a 4 (.l (.p .b (.l .u)))),.ar 4 22,96⟩),(257,⟨.i,.int .i64,8⟩),(285,⟨(.a 3 (.l .i)),.ar 3 23,72⟩),(286,⟨(.a 3 (.l .i)),.ar 3 23,72⟩),(293,⟨.u,.int .u64,8⟩),(313,⟨(.p (.l (.p .b (.l .u))) (.l (.l (.p .b (.l .u))))),.st 2,48⟩),(314,⟨(.p (.l (.p .b (.l .u))) (.l (.l (.p .b (.l .u))))),.st 2,48⟩),(318,⟨(.p (.p (.l (.p .b (.l .u))) (.l (.l (.p .b (.l .u))))) (.l (.l (.p .b (.l .u))))),.st 2,72⟩),(319,⟨(.p (.p (.l (.p .b (.l .u))) (.l (.l (.p .b (.l .u))))) (.l (.l (.p .b (.l .u))))),.st 2,72⟩),(322,⟨(.p (.p .b (.l .u)) (.p (.p .b (.l .u)) (.p .b (.l .u)))),.st 3,96⟩),(323,⟨(.p (.p .b (.l .u)) (.p (.p .b (.l .u)) (.p .b (.l .u)))),.st 3,96⟩),(342,⟨.ch,.int .u8,1⟩),(343,⟨.ch,.int .u8,1⟩)]
def ex:List (Nat×Bool):=[(214,true),(219,false)]
theorem Iy:zS Tryz.prog tt:=zS.add (by kernel_rfl) (by kernel_rfl) (id (by kernel_rfl:Tryz.prog.underlying 2=some (.int .i64)))<|
 zS.add (by kernel_rfl) (by kernel_rfl) (id (by kernel_rfl:Tryz.prog.underlying 3=some (.int .i64)))<|
 zS.add (by kernel_rfl) (by kernel_rfl) (id (by kernel_rfl:Tryz.prog.underlying 4=some .bool))<|
 zS.add (by kernel_rfl) (by kernel_rfl) (id (by kernel_rfl:Tryz.prog.underlying 5=some (.int .u8)))<|
 zS.add (by kernel_rfl) (by kernel_rfl) (id (by kernel_rfl:Tryz.prog.underlying 6=some (.int .u8)))<|
 zS.add (by kernel_rfl) (by kernel_rfl) ⟨rfl,by kernel_rfl⟩<|
 zS.add (by kernel_rfl) (by kernel_rfl) ⟨rfl,by kernel_rfl⟩<|
 zS.add (by kernel_rfl) (by kernel_rfl) (id (by kernel_rfl:Tryz.prog.underlying 9=some .string))<|
 zS.add (by kernel_rfl) (by kernel_rfl) (id (by kernel_rfl:Tryz.prog.underlying 10=some .string))<|
 zS.add (by kernel_rfl) (by kernel_rfl) (id (by kernel_rfl:Tryz.prog.underlying 11=some .string))<|
 zS.add (by kernel_rfl) (by kernel_rfl) (id (by kernel_rfl:Tryz.prog.underlying 12=some (.int .u64)))<|
 zS.add (by kernel_rfl) (by kernel_rfl) ⟨rfl,by kernel_rfl⟩<|
 zS.add (by kernel_rfl) (by kernel_rfl) ⟨rfl,by kernel_rfl⟩<|
 zS.add (by kernel_rfl) (by kernel_rfl) ⟨by kernel_rfl,_,rfl⟩<|
 zS.add (by kernel_rfl) (by kernel_rfl) ⟨by kernel_rfl,_,rfl⟩<|
 zS.add (by kernel_rfl) (by kernel_rfl) (id (by kernel_rfl:Tryz.prog.underlying 26=some (.int .i64)))<|
 zS.add (by kernel_rfl) (by kernel_rfl) ⟨by kernel_rfl,_,rfl⟩<|
 zS.add (by kernel_rfl) (by kernel_rfl) ⟨rfl,by kernel_rfl⟩<|
 zS.add (by kernel_rfl) (by kernel_rfl) ⟨rfl,by kernel_rfl⟩<|
 zS.add (by kernel_rfl) (by kernel_rfl) ⟨by kernel_rfl,_,rfl⟩<|
 zS.add (by kernel_rfl) (by kernel_rfl) ⟨rfl,by kernel_rfl⟩<|
 zS.add (by kernel_rfl) (by kernel_rfl) ⟨rfl,by kernel_rfl⟩<|
 zS.add (by kernel_rfl) (by kernel_rfl) (id (by kernel_rfl:Tryz.prog.underlying 53=some (.int .u64)))<|
 zS.add (by kernel_rfl) (by kernel_rfl) (id (by kernel_rfl:Tryz.prog.underlying 54=some (.int .u64)))<|
 zS.add (by kernel_rfl) (by kernel_rfl) ⟨by kernel_rfl,_,rfl⟩<|
 zS.add (by kernel_rfl) (by kernel_rfl) ⟨by kernel_rfl,_,rfl⟩<|
 zS.add (by kernel_rfl) (by kernel_rfl) ⟨by kernel_rfl,_,rfl⟩<|
 zS.add (by kernel_rfl) (by kernel_rfl) ⟨rfl,by kernel_rfl⟩<|
 zS.add (by kernel_rfl) (by kernel_rfl) ⟨rfl,by kernel_rfl⟩<|
 zS.add (by kernel_rfl) (by kernel_rfl) ⟨rfl,by kernel_rfl⟩<|
 zS.add (by kernel_rfl) (by kernel_rfl) ⟨rfl,by kernel_rfl⟩<|
 zS.add (by kernel_rfl) (by kernel_rfl) ⟨by kernel_rfl,_,rfl⟩<|
 zS.add (by kernel_rfl) (by kernel_rfl) ⟨rfl,by kernel_rfl⟩<|
 zS.add (by kernel_rfl) (by kernel_rfl) ⟨rfl,by kernel_rfl⟩<|
 zS.add (by kernel_rfl) (by kernel_rfl) ⟨by kernel_rfl,_,rfl⟩<|
 zS.add (by kernel_rfl) (by kernel_rfl) ⟨by kernel_rfl,_,rfl⟩<|
 zS.add (by kernel_rfl) (by kernel_rfl) ⟨rfl,by kernel_rfl⟩<|
 zS.add (by kernel_rfl) (by kernel_rfl) ⟨rfl,by kernel_rfl⟩<|
 zS.add (by kernel_rfl) (by kernel_rfl) (id (by kernel_rfl:Tryz.prog.underlying 257=some (.int .i64)))<|
 zS.add (by kernel_rfl) (by kernel_rfl) ⟨rfl,by kernel_rfl⟩<|
 zS.add (by kernel_rfl) (by kernel_rfl) ⟨rfl,by kernel_rfl⟩<|
 zS.add (by kernel_rfl) (by kernel_rfl) (id (by kernel_rfl:Tryz.prog.underlying 293=some (.int .u64)))<|
 zS.add (by kernel_rfl) (by kernel_rfl) ⟨rfl,by kernel_rfl⟩<|
 zS.add (by kernel_rfl) (by kernel_rfl) ⟨rfl,by kernel_rfl⟩<|
 zS.add (by kernel_rfl) (by kernel_rfl) ⟨rfl,by kernel_rfl⟩<|
 zS.add (by kernel_rfl) (by kernel_rfl) ⟨rfl,by kernel_rfl⟩<|
 zS.add (by kernel_rfl) (by kernel_rfl) ⟨rfl,by kernel_rfl⟩<|
 zS.add (by kernel_rfl) (by kernel_rfl) ⟨rfl,by kernel_rfl⟩<|
 zS.add (by kernel_rfl) (by kernel_rfl) (id (by kernel_rfl:Tryz.prog.underlying 342=some (.int .u8)))<|
 zS.add (by kernel_rfl) (by kernel_rfl) (id (by kernel_rfl:Tryz.prog.underlying 343=some (.int .u8)))<|
 zS.nil
theorem IH:jy Tryz.prog tt:=jy.of (by kernel_rfl)
theorem IF:aI Tryz.prog ex:=aI.add Tryz.func214 (by kernel_rfl) (by kernel_rfl) (by kernel_rfl) (fun _=>by kernel_rfl) (fun h=>by cases h)<|
 aI.add Tryz.func219 (by kernel_rfl) (by kernel_rfl) (by kernel_rfl) (fun h=>by cases h) (fun _=>by kernel_rfl)<|
 aI.nil
theorem H3:Tryz.prog.follows .mixedOrders=true:=by kernel_rfl
theorem sg(an:An){fn:Func}(hf:Tryz.prog.funcs[s.f]? =some fn)(hC: ∀s∈cs,y5 Tryz.prog s)(hb:pW Tryz.prog s.f=true)(hM: ∀x,H8 ⟨tt,cs,an,fu,ex,[],[],[]⟩ fn s.dom s.cod x=s.M x)(hk:s.bk=0:=by rfl):y5 Tryz.prog s:=
 sgP H3 Iy IH IF rfl an hf hC hb hk hM
theorem sq(fu:Nat)(an:An){fn:Func}(hf:Tryz.prog.funcs[s.f]? =some fn)(hC: ∀s∈cs,y5 Tryz.prog s)(hb:pW Tryz.prog s.f=true:=by kernel_rfl)(hM: ∀x,H8 ⟨tt,cs,an,fu,ex,[],[],[]⟩ fn s.dom s.cod x=s.M x:=by intro x;kernel_rfl)(hk:s.bk=0:=by rfl):y5 Tryz.prog s:=sg an hf hC hb hM hk
abbrev yw(s:W1):Prop:=y5 Tryz.prog s
abbrev w6:An:=⟨[],[],[],[],[],[]⟩
abbrev y9:Ty:= .l (.p .b (.l .u))
abbrev zZ:Ty:= .p .b (.l .u)
abbrev M8:Ty:= .l (.l (.p .b (.l .u)))
abbrev ZI:Ty:= .l .u
abbrev yO:Ty:= .l .i
theorem OA(an:An){fn:Func}(hf:Tryz.prog.funcs[s.f]? =some fn)(hC: ∀s∈cs,y5 Tryz.prog s)(hb:pW Tryz.prog s.f=true)(hM: ∀pn x,zcd ⟨tt,cs,an,fu,ex,[],[],[]⟩ fn s.dom s.cod s.bk pn x=s.M x):y5 Tryz.prog s:=
 sgG H3 Iy IH IF rfl an hf hC hb hM
end
section
set_option maxRecDepth 100000
section
variable(fu:Nat)
def nM(fu:Nat)(b:List Nat):(Int->Option Int)->Int->Option Int:=fun L a=>if 0<a then ze (a-1) fun d=>zG d (b.length) fun e=>nm (b.getD e 0) fun f=>if(f:Int)=(((0:Nat):Nat):Int)then ze (a-1) fun g=>L g else some a else some a
def dh(a:List Nat):Option (List Nat):=bd (zj (nM fu a) fu ((a.length:Int))) fun e=>j8 e fun b=>ck (b<=a.length)<|nm (a.take b) fun d=>ck (((([]:List Nat)).length+d.length)*8<=140737488355328)<|nm ((([]:List Nat))++d) fun f=>some f
def uX(b:Zr):Option Zr:=bd (dh fu b.2) fun a=>if b.1=true then if 0<(a.length:Int)then some (true,a)else some (false,a)else some (false,a)
def nS(a:Int):Option Zr:=if a<0 then ze (0-a) fun b=>nm (fY b) fun d=>bd (uX fu (true,[d])) fun e=>some e else nm (fY a) fun f=>bd (uX fu (false,[f])) fun g=>some g
def cU(b:Zr):Option Int:=bd (uX fu b) fun a=>if a.1=true then some (-1:Int)else if 0<(a.2.length:Int)then some (1:Int)else some (0:Int)
def mq(b:List Zr):(Int->Option Int)->Int->Option Int:=fun L a=>if 0<a then ze (a-1) fun d=>zG d (b.length) fun e=>nm (b.getD e (false,[])) fun f=>bd (cU fu f) fun g=>if g=0 then ze (a-1) fun h=>L h else some a else some a
def oq(d:List Zr)(f:Int):(((List Zr)×Int)->Option (List Zr))->((List Zr)×Int)->Option (List Zr):=fun L (a,b)=>if b<f then zG b (d.length) fun g=>nm (d.getD g (false,[])) fun h=>bd (uX fu h) fun e=>ck ((a.length+([e]).length)*32<=140737488355328)<|nm (a++([e])) fun i=>ze (b+1) fun j=>L (i,j)else some a
def a8(a:List Zr):Option (List Zr):=bd (zj (mq fu a) fu ((a.length:Int))) fun b=>bd (zj (oq fu a b) fu (([],(0:Int)))) fun d=>some d
def BC(a:List Int):(((List Zr)×Int)->Option (List Zr))->((List Zr)×Int)->Option (List Zr):=fun L (b,d)=>if d<(a.length:Int)then zG d (a.length) fun f=>nm (a.getD f 0) fun g=>bd (nS fu g) fun e=>ck ((b.length+([e]).length)*32<=140737488355328)<|nm (b++([e])) fun h=>ze (d+1) fun i=>L (h,i)else some b
def aa(a:List Int):Option (List Zr):=bd (zj (BC fu a) fu (([],(0:Int)))) fun b=>bd (a8 fu b) fun d=>some d
def Ky(fu:Nat)(b:List Nat)(d:List Nat):(Int->Option (Unit⊕Unit))->Int->Option (Unit⊕Unit):=fun L a=>if a<(b.length:Int)then zG a (b.length) fun e=>nm (b.getD e 0) fun f=>zG a (d.length) fun g=>nm (d.getD g 0) fun h=>if(f:Int)=(h:Int)then ze (a+1) fun i=>L i else some (.inr ())else some (.inl ())
def Wa(a:List Nat)(b:List Nat):Option Bool:=if(a.length:Int)=(b.length:Int)then bd (zj (Ky fu a b) fu (0:Int)) fun d=>match d with
 | .inl _=>some true
 | .inr _=>some false else some false
def XF(a:Zr)(b:Zr):Option Bool:=nm (a.1==b.1) fun d=>if d then bd (Wa fu a.2 b.2) fun e=>some e else some false
def Ks(b:List Zr)(d:List Zr):(Int->Option (Unit⊕Unit))->Int->Option (Unit⊕Unit):=fun L a=>if a<(b.length:Int)then zG a (b.length) fun e=>nm (b.getD e (false,[])) fun f=>zG a (d.length) fun g=>nm (d.getD g (false,[])) fun h=>bd (XF fu f h) fun i=>if !i then some (.inr ())else ze (a+1) fun j=>L j else some (.inl ())
def XN(a:List Zr)(b:List Zr):Option Bool:=if(a.length:Int)=(b.length:Int)then bd (zj (Ks fu a b) fu (0:Int)) fun d=>match d with
 | .inl _=>some true
 | .inr _=>some false else some false
def Ku(b:List ((List Zr)×Int))(d:List ((List Zr)×Int)):(Int->Option (Unit⊕Unit))->Int->Option (Unit⊕Unit):=fun L a=>if a<(b.length:Int)then zG a (b.length) fun e=>nm (b.getD e ([],0)) fun f=>zG a (d.length) fun g=>nm (d.getD g ([],0)) fun h=>if f.2=h.2 then zG a (b.length) fun i=>nm (b.getD i ([],0)) fun j=>zG a (d.length) fun k=>nm (d.getD k ([],0)) fun l=>bd (XN fu j.1 l.1) fun m=>if !m then some (.inr ())else ze (a+1) fun o=>L o else some (.inr ())else some (.inl ())
def Zi(a:List ((List Zr)×Int))(b:List ((List Zr)×Int)):Option Bool:=if(a.length:Int)=(b.length:Int)then bd (zj (Ku fu a b) fu (0:Int)) fun d=>match d with
 | .inl _=>some true
 | .inr _=>some false else some false
def YF(fu:Nat)(a:List Nat)(b:Int):Option Nat:=if b<(a.length:Int)then zG b (a.length) fun d=>nm (a.getD d 0) fun e=>some e else some (0:Nat)
def Km(b:Int)(a:Nat)(f:List Nat)(g:List Nat):Option (Nat×Nat):=bd (YF fu f b) fun d=>bd (YF fu g b) fun e=>ck (a<=1)<|nm ((d+e+a) % 18446744073709551616) fun h=>nm ((d+e+a)/18446744073709551616) fun i=>some (h,i)
def Jy(fu:Nat)(e:Int->Nat->Option (Nat×Nat))(f:List Nat):((Nat×Int×(List Nat))->Option (Nat×(List Nat)))->(Nat×Int×(List Nat))->Option (Nat×(List Nat)):=fun L (d,a,b)=>if a<(f.length:Int)then bd (e a d) fun(g,h)=>zG a (b.length) fun i=>nm (b.set i g) fun j=>ze (a+1) fun k=>L (h,k,j)else some (d,b)
def wV(d:Int)(e:Int->Nat->Option (Nat×Nat)):Option ((List Nat)×Nat):=j8 d fun a=>ck (8*a<=281474976710656)<|nm (xae a 0) fun b=>bd (zj (Jy fu e b) fu (((0:Nat),(0:Int),b))) fun(f,g)=>some (g,f)
def UR(fu:Nat):((List Nat)->Option (List Nat))->(List Nat)->Option (List Nat):=fun L a=>if 0<(a.length:Int)then ze (((a.length:Int))-1) fun d=>zG d (a.length) fun e=>nm (a.getD e 0) fun f=>if(f:Int)=(((0:Nat):Nat):Int)then ze (((a.length:Int))-1) fun g=>j8 g fun b=>ck (b<=a.length)<|nm (a.take b) fun h=>L h else some a else some a
def xn(a:List Nat):Option (List Nat):=bd (zj (UR fu) fu a) fun b=>some b
def Zc(fu:Nat):((List Nat)->Option (List Nat))->(List Nat)->Option (List Nat):=fun L a=>if 0<(a.length:Int)then ze (((a.length:Int))-1) fun d=>zG d (a.length) fun e=>nm ((a.getD e 0)) fun f=>if(f:Int)=(((0:Nat):Nat):Int)then ze (((a.length:Int))-1) fun g=>j8 g fun b=>ck (b<=a.length)<|nm (a.take b) fun h=>L h else some a else some a
def yJ(a:List Nat):Option (List Nat):=bd (zj (Zc fu) fu a) fun b=>some b
def j9(a:List Nat)(b:List Nat):Option (List Nat):=nm (max ((a.length:Int)) ((b.length:Int))) fun f=>bd (wV fu f (fun zx0 zx1=>Km fu zx0 zx1 a b)) fun(d,e)=>ck ((d.length+([e]).length)*8<=140737488355328)<|nm (d++([e])) fun g=>bd (yJ fu g) fun h=>some h
def kU(fu:Nat)(a:Int):Option Bool:=if a=a then some false else some true
def jo(a:Int)(b:Int):Option Int:=bd (kU fu a) fun e=>bd (kU fu b) fun d=>if e then if d then some (0:Int)else some (-1:Int)else if d then some (1:Int)else if a<b then some (-1:Int)else if b<a then some (1:Int)else some (0:Int)
def qL(fu:Nat)(a:Nat):Option Bool:=if(a:Int)=(a:Int)then some false else some true
def vJ(a:Nat)(b:Nat):Option Int:=bd (qL fu a) fun e=>bd (qL fu b) fun d=>if e then if d then some (0:Int)else some (-1:Int)else if d then some (1:Int)else if(a:Int)<(b:Int)then some (-1:Int)else if(b:Int)<(a:Int)then some (1:Int)else some (0:Int)
def KQ(b:List Nat)(d:List Nat):(Int->Option (Unit⊕Int))->Int->Option (Unit⊕Int):=fun L a=>if 0<=a then zG a (b.length) fun e=>nm (b.getD e 0) fun f=>zG a (d.length) fun g=>nm (d.getD g 0) fun h=>if(f:Int)=(h:Int)then ze (a-1) fun i=>L i else zG a (b.length) fun j=>nm (b.getD j 0) fun k=>zG a (d.length) fun l=>nm (d.getD l 0) fun m=>bd (vJ fu k m) fun o=>some (.inr o)else some (.inl ())
def Wj(d:List Nat)(e:List Nat):Option Int:=bd (xn fu d) fun a=>bd (xn fu e) fun b=>if(a.length:Int)=(b.length:Int)then ze (((a.length:Int))-1) fun f=>bd (zj (KQ fu a b) fu f) fun g=>match g with
 | .inl _=>some (0:Int)
 | .inr h=>some h else bd (jo fu ((a.length:Int)) ((b.length:Int))) fun i=>some i
def xA(fu:Nat)(a:List Nat):Option (List Nat):=ck (a.length<=17592186044416)<|some a
def ur(a:List Nat):Option (List Nat):=bd (xn fu a) fun b=>bd (xA fu b) fun d=>some d
def JT(fu:Nat)(b:Int)(a1:Nat)(a:List Nat)(d:Int):Option (Nat×Nat):=zG b (a.length) fun g=>nm (a.getD g 0) fun h=>ck ((64:Int)≠0)<|nm (xbX d (64:Int)) fun e=>ck (0<=e)<|nm (h*2^(min (e:Int).toNat 64) % 18446744073709551616) fun i=>nm (i|||a1) fun j=>zG b (a.length) fun k=>nm (a.getD k 0) fun l=>nm (l/2^(min (((1:Nat)):Int).toNat 64)) fun m=>ck ((64:Int)≠0)<|nm (xbX d (64:Int)) fun o=>ze ((63:Int)-o) fun f=>ck (0<=f)<|nm (m/2^(min (f:Int).toNat 64)) fun p=>some (j,p)
def uE(fu:Nat)(a:List Nat)(e:Int):Option (List Nat):=j8 e fun b=>ck (8*b<=281474976710656)<|nm (xae b 0) fun d=>ck ((d.length+a.length)*8<=140737488355328)<|nm (d++a) fun f=>some f
def ZS(b:List Nat)(a:Int):Option ((List Nat)×Int):=if a<0 then some (([],(1:Int)))else if 262144<a then some (([],(1:Int)))else bd (wV fu ((b.length:Int)) (fun zx0 zx1=>JT fu zx0 zx1 b a)) fun(d,e)=>ck ((d.length+([e]).length)*8<=140737488355328)<|nm (d++([e])) fun f=>ck ((64:Int)≠0)<|ze (xda a (64:Int)) fun g=>bd (uE fu f g) fun h=>bd (yJ fu h) fun i=>some ((i,(0:Int)))
def Kn(d:Int)(m:Nat)(a:List Nat)(b:Int):Option (Nat×Nat):=zG d (a.length) fun f=>nm (a.getD f 0) fun g=>ck (0<=b)<|nm (g/2^(min (b:Int).toNat 64)) fun h=>ze (d+1) fun i=>bd (YF fu a i) fun j=>nm (j*2^(min (((1:Nat)):Int).toNat 64) % 18446744073709551616) fun k=>ze ((63:Int)-b) fun e=>ck (0<=e)<|nm (k*2^(min (e:Int).toNat 64) % 18446744073709551616) fun m4=>nm (h|||m4) fun l=>some ((l,(0:Nat)))
def Qv(a:List Nat)(f:Int):Option (List Nat):=nm (max f (0:Int)) fun b=>ck ((64:Int)≠0)<|ze (xda b (64:Int)) fun g=>if(a.length:Int)<=g then some []else ck ((64:Int)≠0)<|ze (xda b (64:Int)) fun h=>j8 h fun d=>ck (d<=a.length)<|nm (a.drop d) fun e=>ck ((64:Int)≠0)<|nm (xbX b (64:Int)) fun i=>bd (wV fu ((e.length:Int)) (fun zx0 zx1=>Kn fu zx0 zx1 e i)) fun(j,l)=>bd (yJ fu j) fun k=>some k
def xp(fu:Nat)(a:Nat):Option Int:=bd ((if 4294967296<=(a:Int)then nm (a/2^(min (32:Int).toNat 64)) fun g=>some (g,32)else some (a,0):Option (Nat×Int))) fun(b,e)=>bd ((if 65536<=(b:Int)then nm (b/2^(min (16:Int).toNat 64)) fun h=>ze (e+16) fun i=>some (h,i)else some (b,e):Option (Nat×Int))) fun(d,f)=>if 256<=(d:Int)then nm (d/2^(min (8:Int).toNat 64)) fun j=>ze (f+8) fun k=>nm (j % 256) fun l=>nm (xeQ l) fun m=>ze (k+((m:Int))) fun o=>some o else nm (d % 256) fun p=>nm (xeQ p) fun q=>ze (f+((q:Int))) fun r=>some r
def y8(a:Nat):Option Int:=bd (xp fu a) fun b=>ze ((64:Int)-b) fun d=>some d
def qg(fu:Nat)(l:Nat)(m:Nat)(g:Nat):((Nat×Nat)->Option Nat)->(Nat×Nat)->Option Nat:=fun L (a,h)=>if(((4294967296:Nat):Nat):Int)<=(a:Int)then nm ((a+18446744073709551616-((1:Nat))) % 18446744073709551616) fun b=>nm ((h+l) % 18446744073709551616) fun d=>if(((4294967296:Nat):Nat):Int)<=(d:Int)then some b else L (b,d)else nm ((a*m) % 18446744073709551616) fun i=>nm ((((4294967296:Nat))*h) % 18446744073709551616) fun j=>nm ((j+g) % 18446744073709551616) fun k=>if(k:Int)<(i:Int)then nm ((a+18446744073709551616-((1:Nat))) % 18446744073709551616) fun e=>nm ((h+l) % 18446744073709551616) fun f=>if(((4294967296:Nat):Nat):Int)<=(f:Int)then some e else L (e,f)else some a
def qf(fu:Nat)(k:Nat)(l:Nat)(f:Nat):((Nat×Nat)->Option Nat)->(Nat×Nat)->Option Nat:=fun L (g,a)=>if(((4294967296:Nat):Nat):Int)<=(a:Int)then nm ((a+18446744073709551616-((1:Nat))) % 18446744073709551616) fun b=>nm ((g+k) % 18446744073709551616) fun m32=>if(((4294967296:Nat):Nat):Int)<=(m32:Int)then some b else L (m32,b)else nm ((a*l) % 18446744073709551616) fun h=>nm ((((4294967296:Nat))*g) % 18446744073709551616) fun i=>nm ((i+f) % 18446744073709551616) fun j=>if(j:Int)<(h:Int)then nm ((a+18446744073709551616-((1:Nat))) % 18446744073709551616) fun d=>nm ((g+k) % 18446744073709551616) fun e=>if(((4294967296:Nat):Nat):Int)<=(e:Int)then some d else L (e,d)else some a
def vz(o:Nat)(l:Nat)(a:Nat):Option (Nat×Nat):=if(a:Int)=(((0:Nat):Nat):Int)then none else if(a:Int)<=(o:Int)then none else if(o:Int)=(((0:Nat):Nat):Int)then ck (a≠0)<|nm (l/a) fun J=>ck (a≠0)<|nm (l % a) fun K=>some (J,K)else bd (y8 fu a) fun M=>nm (fY M) fun f=>nm (a*2^(min (f:Int).toNat 64) % 18446744073709551616) fun m=>nm (m/2^(min (((32:Nat)):Int).toNat 64)) fun b=>nm (m &&& ((4294967295:Nat))) fun G=>nm (o*2^(min (f:Int).toNat 64) % 18446744073709551616) fun N=>nm ((((64:Nat))+18446744073709551616-f) % 18446744073709551616) fun O=>nm (l/2^(min (O:Int).toNat 64)) fun m9=>nm (N|||m9) fun d=>nm (l*2^(min (f:Int).toNat 64) % 18446744073709551616) fun g=>nm (g/2^(min (((32:Nat)):Int).toNat 64)) fun h=>nm (g &&& ((4294967295:Nat))) fun i=>ck (b≠0)<|nm (d/b) fun j=>nm ((j*b) % 18446744073709551616) fun p=>nm ((d+18446744073709551616-p) % 18446744073709551616) fun q=>bd (zj (qg fu b G h) fu (j,q)) fun H=>nm ((d*((4294967296:Nat))) % 18446744073709551616) fun r=>nm ((r+h) % 18446744073709551616) fun s=>nm ((H*m) % 18446744073709551616) fun t=>nm ((s+18446744073709551616-t) % 18446744073709551616) fun e=>ck (b≠0)<|nm (e/b) fun k=>nm ((k*b) % 18446744073709551616) fun u=>nm ((e+18446744073709551616-u) % 18446744073709551616) fun v=>bd (zj (qf fu b G i) fu (v,k)) fun I=>nm ((H*((4294967296:Nat))) % 18446744073709551616) fun w=>nm ((w+I) % 18446744073709551616) fun x=>nm ((e*((4294967296:Nat))) % 18446744073709551616) fun y=>nm ((y+i) % 18446744073709551616) fun A=>nm ((I*m) % 18446744073709551616) fun B=>nm ((A+18446744073709551616-B) % 18446744073709551616) fun C=>nm (C/2^(min (f:Int).toNat 64)) fun E=>some (x,E)
def vO(fu:Nat)(a:Nat)(b:Nat):Option (Nat×Nat):=nm (a &&& ((4294967295:Nat))) fun l=>nm (a/2^(min (((32:Nat)):Int).toNat 64)) fun m=>nm (b &&& ((4294967295:Nat))) fun o=>nm (b/2^(min (((32:Nat)):Int).toNat 64)) fun p=>nm ((l*o) % 18446744073709551616) fun r=>nm ((m*o) % 18446744073709551616) fun s=>nm (r/2^(min (((32:Nat)):Int).toNat 64)) fun t=>nm ((s+t) % 18446744073709551616) fun q=>nm (q &&& ((4294967295:Nat))) fun u=>nm (q/2^(min (((32:Nat)):Int).toNat 64)) fun d=>nm ((l*p) % 18446744073709551616) fun e=>nm ((u+e) % 18446744073709551616) fun f=>nm ((m*p) % 18446744073709551616) fun g=>nm ((g+d) % 18446744073709551616) fun h=>nm (f/2^(min (((32:Nat)):Int).toNat 64)) fun i=>nm ((h+i) % 18446744073709551616) fun j=>nm ((a*b) % 18446744073709551616) fun k=>some (j,k)
def VT(i:Nat)(d:Nat)(j:Nat):((Nat×Nat)->Option Nat)->(Nat×Nat)->Option Nat:=fun L (b,a)=>bd (vO fu b j) fun(f,k)=>if(f:Int)<(a:Int)then some b else if(f:Int)=(a:Int)then if(k:Int)<=(i:Int)then some b else nm ((b+18446744073709551616-((1:Nat))) % 18446744073709551616) fun g=>ck ((0:Nat)<=1)<|nm ((a+d+((0:Nat))) % 18446744073709551616) fun l=>nm ((a+d+((0:Nat)))/18446744073709551616) fun m=>if(((0:Nat):Nat):Int)<(m:Int)then some g else L (g,l)else nm ((b+18446744073709551616-((1:Nat))) % 18446744073709551616) fun h=>ck ((0:Nat)<=1)<|nm ((a+d+((0:Nat))) % 18446744073709551616) fun o=>nm ((a+d+((0:Nat)))/18446744073709551616) fun e=>if(((0:Nat):Nat):Int)<(e:Int)then some h else L (h,o)
def Ve(b:Nat)(d:Nat)(e:Nat)(a:Nat)(f:Nat):Option Nat:=if(a:Int)<=(b:Int)then some (18446744073709551615:Nat)else bd (vz fu b d a) fun(g,h)=>bd (zj (VT fu e a f) fu (g,h)) fun i=>some i
def KR(b:Int)(a:Nat)(f:List Nat)(g:List Nat):Option (Nat×Nat):=bd (YF fu f b) fun d=>bd (YF fu g b) fun e=>ck (a<=1)<|nm ((d+18446744073709551616-e-a) % 18446744073709551616) fun h=>nm (if d<e+a then 1 else 0) fun i=>some (h,i)
def Wb(a:List Nat)(b:List Nat):Option ((List Nat)×Int):=nm (max ((a.length:Int)) ((b.length:Int))) fun d=>bd (wV fu d (fun zx0 zx1=>KR fu zx0 zx1 a b)) fun(e,f)=>if(((0:Nat):Nat):Int)<(f:Int)then some (([],(1:Int)))else bd (yJ fu e) fun g=>some ((g,(0:Int)))
def Z6(a:List Nat)(b:List Nat):Option (List Nat):=bd (Wb fu a b) fun(d,e)=>some d
def KE(e:Int)(a:Nat)(b:List Nat)(f:Nat):Option (Nat×Nat):=zG e (b.length) fun g=>nm (b.getD g 0) fun h=>bd (vO fu h f) fun(i,d)=>ck ((0:Nat)<=1)<|nm ((d+a+((0:Nat))) % 18446744073709551616) fun j=>nm ((d+a+((0:Nat)))/18446744073709551616) fun k=>nm ((i+k) % 18446744073709551616) fun l=>some (j,l)
def Wi(a:List Nat)(e:Nat):Option (List Nat):=bd (wV fu ((a.length:Int)) (fun zx0 zx1=>KE fu zx0 zx1 a e)) fun(b,d)=>ck ((b.length+([d]).length)*8<=140737488355328)<|nm (b++([d])) fun f=>some f
def Vz(d:List Nat)(f:Nat):((Nat×Int×(List Nat))->Option (Nat×(List Nat)))->(Nat×Int×(List Nat))->Option (Nat×(List Nat)):=fun L (e,a,b)=>if 0<=a then zG a (d.length) fun g=>nm (d.getD g 0) fun h=>bd (vz fu e h f) fun(i,j)=>zG a (b.length) fun k=>nm (b.set k i) fun l=>ze (a-1) fun m=>L (j,m,l)else some (e,b)
def Y2(a:List Nat)(d:Nat):Option ((List Nat)×Nat):=j8 ((a.length:Int)) fun b=>ck (8*b<=281474976710656)<|nm (xae b 0) fun e=>ze (((a.length:Int))-1) fun f=>bd (zj (Vz fu a d) fu (((0:Nat),f,e))) fun(g,h)=>bd (yJ fu h) fun i=>some (i,g)
def JZ(b:List Nat):((Int×Int×Nat×(List Nat))->Option (Int×Int×Nat×(List Nat)))->(Int×Int×Nat×(List Nat))->Option (Int×Int×Nat×(List Nat)):=fun L (g,h,d,a)=>bd (Wi fu b d) fun e=>bd (Wj fu e a) fun f=>if 0<f then nm ((d+18446744073709551616-((1:Nat))) % 18446744073709551616) fun i=>L (g,h,i,a)else some (g,h,d,a)
def YK(O:Int)(e:List Nat):(((List Nat)×Int×(List Nat)×(List Nat))->Option ((List Nat)×(List Nat)))->((List Nat)×Int×(List Nat)×(List Nat))->Option ((List Nat)×(List Nat)):=fun L (b,d,a,f)=>if 0<=d then ze (d+((e.length:Int))) fun p=>zG p (a.length) fun P=>nm ((a.getD P 0)) fun Q=>ze (d+((e.length:Int))) fun q=>ze (q-1) fun r=>zG r (a.length) fun R=>nm ((a.getD R 0)) fun S=>ze (d+((e.length:Int))) fun s=>ze (s-2) fun t=>zG t (a.length) fun U=>nm ((a.getD U 0)) fun V=>ze (((e.length:Int))-1) fun u=>zG u (b.length) fun W=>nm (b.getD W 0) fun X=>ze (((e.length:Int))-2) fun v=>zG v (b.length) fun Y=>nm (b.getD Y 0) fun Z=>bd (Ve fu Q S V X Z) fun m5=>ze (d+((e.length:Int))) fun w=>ze (w+1) fun x=>j8 d fun g=>j8 x fun h=>ck (g<=h/\h<=a.length)<|nm (xdr (h-g) (xdv g a)) fun j=>ck (((([]:List Nat)).length+j.length)*8<=140737488355328)<|nm ((([]:List Nat))++j) fun y=>bd (zj (JZ fu b) fu ((O,(e.length:Int),m5,y))) fun(i4,M,N,A)=>zG d (f.length) fun B=>nm (f.set B N) fun C=>j8 d fun i=>ck (i<=a.length)<|bd (Wi fu b N) fun E=>bd (Z6 fu A E) fun k=>ze (M+1) fun G=>j8 G fun l=>ck ((k.length+l)*8<=140737488355328)<|nm (k++xae l 0) fun m=>ze (M+1) fun H=>j8 H fun o=>ck (o<=m.length)<|nm (m.take o) fun I=>nm (UH i (a.length-i) a I) fun J=>ze (d-1) fun K=>L (b,K,J,C)else some (a,f)
def Qx(p:List Nat)(q:List Nat):Option ((List Nat)×(List Nat)×Int):=bd (xn fu p) fun b=>bd (xn fu q) fun a=>bd ((if(a.length:Int)=0 then some true else some false:Option Bool)) fun r=>if r then some (([],[],(3:Int)))else bd ((bd (Wj fu b a) fun s=>if s<0 then some true else some false:Option Bool)) fun t=>if t then bd (ur fu b) fun u=>some (([],u,(0:Int)))else if(a.length:Int)=1 then zG 0 (a.length) fun v=>nm (a.getD v 0) fun w=>bd (Y2 fu b w) fun(x,y)=>bd (yJ fu [y]) fun A=>some ((x,A,(0:Int)))else ze (((a.length:Int))-1) fun B=>zG B (a.length) fun C=>nm (a.getD C 0) fun E=>bd (y8 fu E) fun d=>bd (ZS fu a d) fun(e,K)=>bd (ZS fu b d) fun(f,M)=>ze (((b.length:Int))+1) fun G=>ze (G-((f.length:Int))) fun H=>j8 H fun k=>ck ((f.length+k)*8<=140737488355328)<|nm (f++xae k 0) fun l=>ze (((l.length:Int))-((e.length:Int))) fun I=>j8 I fun m=>ck (8*m<=281474976710656)<|nm (xae m 0) fun o=>ze (((o.length:Int))-1) fun J=>bd (zj (YK fu d e) fu (e,J,l,o)) fun(g,h)=>bd (yJ fu h) fun i=>bd (Qv fu g d) fun j=>some ((i,j,(0:Int)))
def yR(b:Bool)(d:List Nat):Option Zr:=bd (ur fu d) fun a=>if b then if 0<(a.length:Int)then some (true,a)else some (false,a)else some (false,a)
def Z1(b:Zr)(d:Zr):Option (Zr×Zr×Int):=bd (Qx fu b.2 d.2) fun(e,a,f)=>if f=0 then bd ((if b.1=true then if 0<(a.length:Int)then bd (j9 fu e [(1:Nat)]) fun g=>bd (Wb fu d.2 a) fun(h,o)=>some (g,h)else some (e,a)else some (e,a):Option ((List Nat)×(List Nat)))) fun(i,j)=>nm (!(b.1==d.1)) fun k=>bd (yR fu k i) fun l=>bd (yR fu false j) fun m=>some ((l,m,(0:Int)))else some (((false,[]),(false,[]),f))
def vM(a:Zr):Option Zr:=bd (yR fu a.1 a.2) fun b=>some b
def xq(b:Zr):Option Int:=bd (vM fu b) fun a=>if a.1=true then ze ((0:Int)-2) fun d=>ze (d+1) fun e=>some e else if 0<(a.2.length:Int)then ze ((0:Int)+1) fun f=>some f else some (0:Int)
def qU(b:Zr)(d:Zr):Option (Zr×Int):=bd (Z1 fu b d) fun(e,f,a)=>bd ((if a=0 then some false else some true:Option Bool)) fun g=>if g then some (((false,[]),a))else bd (xq fu f) fun h=>if h=0 then some ((e,(0:Int)))else some (((false,[]),(4:Int)))
def Wy(fu:Nat)(d:Int)(i:List Nat)(j:List Nat)(k:Int)(e:List Nat):((Nat×Int×(List Nat)×(List Nat))->Option (List Nat))->(Nat×Int×(List Nat)×(List Nat))->Option (List Nat):=fun L (f,a,b,g)=>bd ((if a<(e.length:Int)then some ((i,d,j,k,d,(e.length:Int),true))else some ((i,d,j,k,d,(e.length:Int),false)):Option ((List Nat)×Int×(List Nat)×Int×Int×Int×Bool))) fun(y,l,A,B,C,E,p)=>if p then zG a (g.length) fun q=>nm ((g.getD q 0)) fun m=>ze (l+a) fun r=>ze (l+a) fun s=>zG s (b.length) fun t=>nm ((b.getD t 0)) fun o=>ck (f<=1)<|nm ((o+m+f) % 18446744073709551616) fun u=>nm ((o+m+f)/18446744073709551616) fun v=>zG r (b.length) fun w=>nm (b.set w u) fun h=>ze (a+1) fun x=>L (v,x,h,g)else some b
def Kx(f:List Nat)(a:List Nat):((Int×(List Nat))->Option (List Nat))->(Int×(List Nat))->Option (List Nat):=fun L (b,g)=>bd ((if b<(a.length:Int)then some ((f,a,(a.length:Int),true))else some ((f,a,(a.length:Int),false)):Option ((List Nat)×(List Nat)×Int×Bool))) fun(h,d,j,k)=>if k then zG b (d.length) fun l=>nm (d.getD l 0) fun m=>bd (Wi fu h m) fun i=>bd (zj (Wy fu b h d j i) fu (((0:Nat),(0:Int),g,i))) fun e=>ze (b+1) fun o=>L (o,e)else some g
def X7(d:List Nat)(e:List Nat):Option (List Nat):=ze (((d.length:Int))+((e.length:Int))) fun g=>ze (g+1) fun h=>j8 h fun f=>ck (8*f<=281474976710656)<|nm (xae f 0) fun i=>bd (zj (Kx fu d e) fu (((0:Int),i))) fun a=>bd (yJ fu a) fun b=>some b
def Wg:Nat->(List Nat)->(List Nat)->Option (List Nat)
 |0,_,_=>none
 |fu+1,y,A=>bd (xn fu y) fun a=>bd (xn fu A) fun b=>nm (min ((a.length:Int)) ((b.length:Int))) fun B=>if B<8 then bd (X7 fu a b) fun C=>some C else nm (max ((a.length:Int)) ((b.length:Int))) fun E=>ck ((2:Int)≠0)<|ze (xda E (2:Int)) fun d=>nm (min d ((a.length:Int))) fun G=>j8 G fun q=>ck (q<=a.length)<|nm (a.take q) fun H=>bd (xn fu H) fun r=>nm (min d ((a.length:Int))) fun I=>j8 I fun s=>ck (s<=a.length)<|nm (a.drop s) fun t=>nm (min d ((b.length:Int))) fun J=>j8 J fun u=>ck (u<=b.length)<|nm (b.take u) fun K=>bd (xn fu K) fun v=>nm (min d ((b.length:Int))) fun M=>j8 M fun w=>ck (w<=b.length)<|nm (b.drop w) fun x=>bd (Wg fu r v) fun e=>bd (Wg fu t x) fun f=>bd (j9 fu r t) fun g=>bd (j9 fu v x) fun h=>bd (Wg fu g h) fun i=>bd (Z6 fu i e) fun j=>bd (Z6 fu j f) fun k=>bd (uE fu k d) fun l=>bd (j9 fu e l) fun m=>ze ((2:Int)*d) fun N=>bd (uE fu f N) fun o=>bd (j9 fu m o) fun p=>some p
def zL(a:Zr)(b:Zr):Option Zr:=nm (!(a.1==b.1)) fun d=>bd (Wg fu a.2 b.2) fun e=>bd (yR fu d e) fun f=>some f
def vb(a:Zr)(b:Zr):Option Zr:=nm (a.1==b.1) fun e=>if e then bd (j9 fu a.2 b.2) fun f=>bd (yR fu a.1 f) fun g=>some g else bd ((bd (Wj fu a.2 b.2) fun h=>if h<0 then some (b,a)else some (a,b):Option (Zr×Zr))) fun(d,i)=>bd (Wb fu d.2 i.2) fun(j,l)=>bd (yR fu d.1 j) fun k=>some k
def uj(a:Zr):Option Zr:=bd (yR fu (!a.1) a.2) fun b=>some b
def vY(a:Zr)(b:Zr):Option Zr:=bd (uj fu b) fun d=>bd (vb fu a d) fun e=>some e
def WA(d:Int)(a:Zr):Option Zr:=bd (vM fu a) fun b=>some b
def x9(fu:Nat)(a:List Zr)(f:Int->Zr->Option Zr):((Int×(List Zr))->Option (List Zr))->(Int×(List Zr))->Option (List Zr):=fun L (b,d)=>bd ((if b<(a.length:Int)then some ((a,(a.length:Int),true))else some ((a,(a.length:Int),false)):Option ((List Zr)×Int×Bool))) fun(e,o,g)=>if g then zG b (e.length) fun h=>nm (e.getD h (false,[])) fun i=>bd (f b i) fun j=>zG b (d.length) fun k=>nm (d.set k j) fun l=>ze (b+1) fun m=>L (m,l)else some d
def zB(a:List Zr)(d:Int->Zr->Option Zr):Option (List Zr):=j8 ((a.length:Int)) fun b=>ck (32*b<=281474976710656)<|nm (xae b (false,[])) fun e=>bd (zj (x9 fu a d) fu (((0:Int),e))) fun f=>some f
def Kv:((List Zr)->Option (List Zr))->(List Zr)->Option (List Zr):=fun L a=>if 0<(a.length:Int)then ze (((a.length:Int))-1) fun d=>zG d (a.length) fun e=>nm (a.getD e (false,[])) fun f=>bd (xq fu f) fun g=>if g=0 then ze (((a.length:Int))-1) fun h=>j8 h fun b=>ck (b<=a.length)<|nm (a.take b) fun i=>L i else some a else some a
def zJ(a:List Zr):Option (List Zr):=bd (zj (Kv fu) fu a) fun b=>bd (zB fu b (fun zx0 zx1=>WA fu zx0 zx1)) fun d=>some d
def VD(k:Int)(g:List Zr):((Int×(List Zr)×(List Zr)×(List Zr)×Zr)->Option ((List Zr)×(List Zr)×(List Zr)))->(Int×(List Zr)×(List Zr)×(List Zr)×Zr)->Option ((List Zr)×(List Zr)×(List Zr)):=fun L (a,f,b,d,e)=>bd ((if a<(g.length:Int)then some ((k,(g.length:Int),true))else some ((k,(g.length:Int),false)):Option (Int×Int×Bool))) fun(l,w,m)=>if m then zG a (f.length) fun o=>nm ((f.getD o (false,[]))) fun p=>ze (l+a) fun q=>ze (l+a) fun h=>zG h (b.length) fun r=>nm ((b.getD r (false,[]))) fun s=>bd (zL fu e p) fun t=>bd (vY fu s t) fun u=>zG q (b.length) fun v=>nm (b.set v u) fun i=>ze (a+1) fun j=>L (j,f,i,d,e)else some (f,b,d)
def VH:((Int×(List Zr)×(List Zr)×(List Zr))->Option (((List Zr)×(List Zr))⊕Int))->(Int×(List Zr)×(List Zr)×(List Zr))->Option (((List Zr)×(List Zr))⊕Int):=fun L (b,a,d,e)=>if 0<=b then ze (b+((a.length:Int))) fun l=>ze (l-1) fun m=>zG m (d.length) fun o=>nm ((d.getD o (false,[]))) fun p=>ze (((a.length:Int))-1) fun q=>zG q (a.length) fun r=>nm ((a.getD r (false,[]))) fun s=>bd (qU fu p s) fun(j,k)=>if k=0 then zG b (e.length) fun t=>nm (e.set t j) fun u=>bd (zj (VD fu b a) fu (((0:Int),a,d,u,j))) fun(f,g,h)=>ze (b-1) fun i=>L (i,f,g,h)else some (.inr k)else some (.inl (d,e))
def wA(j:List Zr)(k:List Zr):Option ((List Zr)×Int):=bd (zJ fu j) fun a=>bd (zJ fu k) fun b=>if(b.length:Int)=0 then some (([],(3:Int)))else bd ((if 0<(a.length:Int)then if(a.length:Int)<(b.length:Int)then some (.inr ())else some (.inl ())else some (.inl ()):Option (Unit⊕Unit))) fun l=>match l with
 | .inl _=>(ze (((a.length:Int))-((b.length:Int))) fun m=>ze (m+1) fun o=>nm (max o (0:Int)) fun p=>j8 p fun h=>ck (32*h<=281474976710656)<|nm (xae h (false,[])) fun i=>ze (((i.length:Int))-1) fun q=>bd (zj (VH fu) fu (q,b,a,i)) fun r=>match r with
 | .inl (d,e)=>bd (zJ fu d) fun f=>if 0<(f.length:Int)then some (([],(4:Int)))else bd (zJ fu e) fun g=>some ((g,(0:Int)))
 | .inr s=>some ([],s))
 | .inr _=>some (([],(4:Int)))
def W0(b:List Zr):((Int×(List Zr)×Int)->Option Int)->(Int×(List Zr)×Int)->Option Int:=fun L (a,d,e)=>if e=0 then ze (a+1) fun f=>bd (wA fu d b) fun(g,h)=>L (f,g,h)else some a
def u6(b:List Zr)(a:List Zr):Option Int:=bd (wA fu b a) fun(d,e)=>bd (zj (W0 fu a) fu (((0:Int),d,e))) fun f=>some f
def kz(fu:Nat)(d:Int):((Bool×Int)->Option Bool)->(Bool×Int)->Option Bool:=fun L (b,a)=>if b then ze (a*a) fun e=>if e<=d then ck (a≠0)<|nm (xbX d a) fun f=>if f=0 then some false else ze (a+1) fun g=>L (b,g)else some b else some b
def jM(a:Int):Option Bool:=bd ((if 2<=a then if a<=65521 then some true else some false else some false:Option Bool)) fun b=>bd (zj (kz fu a) fu ((b,(2:Int)))) fun d=>some d
def zX(a:Int):Option Zr:=if a<0 then nm (fY a) fun b=>nm ((18446744073709551616-b) % 18446744073709551616) fun d=>bd (yR fu true [d]) fun e=>some e else nm (fY a) fun f=>bd (yR fu false [f]) fun g=>some g
def jS(b:List Nat):Option Int:=bd (xn fu b) fun a=>if(a.length:Int)=0 then some (0:Int)else ze (((a.length:Int))-1) fun d=>ze ((64:Int)*d) fun e=>ze (((a.length:Int))-1) fun f=>zG f (a.length) fun g=>nm (a.getD g 0) fun h=>bd (xp fu h) fun i=>ze (e+i) fun j=>some j
def QV:((Int×Zr×Zr)->Option Zr)->(Int×Zr×Zr)->Option Zr:=fun L (a,b,d)=>if 0<a then nm (Hz a (1:Int)) fun f=>if f=1 then bd (zL fu d b) fun e=>if 1<a then bd (zL fu b b) fun g=>nm (xfM a (2^(min (((1:Nat)):Int).toNat 64))) fun h=>L (h,g,e)else nm (xfM a (2^(min (((1:Nat)):Int).toNat 64))) fun i=>L (i,b,e)else if 1<a then bd (zL fu b b) fun j=>nm (xfM a (2^(min (((1:Nat)):Int).toNat 64))) fun k=>L (k,j,d)else nm (xfM a (2^(min (((1:Nat)):Int).toNat 64))) fun l=>L (l,b,d)else some d
def QN(b:Zr)(a:Int):Option (Zr×Int):=bd ((if a<0 then some true else if 65536<a then some true else some false:Option Bool)) fun d=>if d then some (((false,[]),(1:Int)))else bd (jS fu b.2) fun e=>ze (e*a) fun f=>if 262144<f then some (((false,[]),(6:Int)))else bd (zX fu (1:Int)) fun g=>bd (vM fu b) fun h=>bd (zj (QV fu) fu (a,h,g)) fun i=>some ((i,(0:Int)))
def vf(b:Int)(a:Int):Option (Zr×Int):=bd (jM fu b) fun d=>if !d then some (((false,[]),(1:Int)))else if a<1 then some (((false,[]),(1:Int)))else if 1000<a then some (((false,[]),(1:Int)))else bd (zX fu b) fun e=>bd (QN fu e a) fun(f,g)=>some (f,g)
def V7(fu:Nat)(a:List Zr)(e:Zr)(g:Zr->Zr->Option (Zr×Int)):((Int×(List Zr))->Option (List Zr))->(Int×(List Zr))->Option (List Zr):=fun L (b,d)=>bd ((if b<(a.length:Int)then some ((e,a,(a.length:Int),true))else some ((e,a,(a.length:Int),false)):Option (Zr×(List Zr)×Int×Bool))) fun(h,f,q,i)=>if i then zG b (f.length) fun j=>nm (f.getD j (false,[])) fun k=>bd (g k h) fun(l,r)=>zG b (d.length) fun m=>nm (d.set m l) fun o=>ze (b+1) fun p=>L (p,o)else some d
def ve(a:List Zr)(b:Zr)(e:Zr->Zr->Option (Zr×Int)):Option ((List Zr)×Int):=bd (xq fu b) fun f=>if f<=0 then some (([],(1:Int)))else j8 ((a.length:Int)) fun d=>ck (32*d<=281474976710656)<|nm (xae d (false,[])) fun g=>bd (zj (V7 fu a b e) fu (((0:Int),g))) fun h=>bd (zJ fu h) fun i=>some ((i,(0:Int)))
def vy(b:Zr)(a:Zr):Option (Zr×Int):=bd (xq fu a) fun d=>if d<=0 then some (((false,[]),(1:Int)))else bd (Z1 fu b a) fun(f,e,g)=>some ((e,(0:Int)))
def Zj(a:List Zr)(b:Zr):Option ((List Zr)×Int):=bd (ve fu a b (fun zx0 zx1=>vy fu zx0 zx1)) fun(d,e)=>some (d,e)
def yU(a:List Zr)(b:Zr):Option (List Zr):=bd (Zj fu a b) fun(d,e)=>some d
def wg(a:Int):Option Int:=bd (jM fu a) fun b=>if !b then some (1:Int)else some (0:Int)
def jN(fu:Nat)(d:Int)(a:Int):Option Int:=if a<1 then some (0:Int)else ck (a≠0)<|nm (xbX d a) fun b=>if b<0 then ze (b+a) fun e=>some e else some b
def aH(fu:Nat):((Int×Int×Int×Int)->Option (Int⊕Unit))->(Int×Int×Int×Int)->Option (Int⊕Unit):=fun L (d,a,f,b)=>if a=0 then some (.inr ())else if a=1 then some (.inl b)else ck (a≠0)<|ze (xda d a) fun e=>ze (e*a) fun g=>ze (d-g) fun h=>ze (e*b) fun i=>ze (f-i) fun j=>L (a,h,b,j)
def YQ(d:Int)(a:Int):Option (Int×Int):=bd (wg fu a) fun b=>if b=0 then bd (jN fu d a) fun e=>bd (zj (aH fu) fu ((a,e,(0:Int),(1:Int)))) fun f=>match f with
 | .inl g=>bd (jN fu g a) fun h=>some ((h,(0:Int)))
 | .inr _=>some (((0:Int),(3:Int)))else some (((0:Int),b))
def JC(b:List Int)(e:Int):((Int×(List Int))->Option (List Int))->(Int×(List Int))->Option (List Int):=fun L (a,d)=>if a<(b.length:Int)then zG a (b.length) fun f=>nm (b.getD f 0) fun g=>bd (jN fu g e) fun h=>zG a (d.length) fun i=>nm (d.set i h) fun j=>ze (a+1) fun k=>L (k,j)else some d
def JA(fu:Nat):((List Int)->Option (List Int))->(List Int)->Option (List Int):=fun L a=>if 0<(a.length:Int)then ze (((a.length:Int))-1) fun d=>zG d (a.length) fun e=>nm ((a.getD e 0)) fun f=>if f=0 then ze (((a.length:Int))-1) fun g=>j8 g fun b=>ck (b<=a.length)<|nm (a.take b) fun h=>L h else some a else some a
def zO(a:List Int)(d:Int):Option (List Int):=j8 ((a.length:Int)) fun b=>ck (8*b<=281474976710656)<|nm (xae b 0) fun e=>bd (zj (JC fu a d) fu (((0:Int),e))) fun f=>bd (zj (JA fu) fu f) fun g=>some g
def Zk(fu:Nat)(a:List Int)(q:Int)(b:Int):(((List Int)×Int×Int×Int×(List Int)×(List Int))->Option ((List Int)×Int×Int×(List Int)×(List Int)))->((List Int)×Int×Int×Int×(List Int)×(List Int))->Option ((List Int)×Int×Int×(List Int)×(List Int)):=fun L (r,d,s,e,f,t)=>bd ((if e<(a.length:Int)then some ((q,b,a,(a.length:Int),true))else some ((q,b,a,(a.length:Int),false)):Option (Int×Int×(List Int)×Int×Bool))) fun(u,w,v,E,x)=>if x then zG e (v.length) fun y=>nm (v.getD y 0) fun A=>ze (u+e) fun g=>ze (u+e) fun h=>zG h (f.length) fun B=>nm ((f.getD B 0)) fun i=>ze (d-w) fun j=>ze (j*A) fun k=>ze (i+k) fun l=>ck (d≠0)<|nm (xbX l d) fun m=>zG g (f.length) fun C=>nm (f.set C m) fun o=>ze (e+1) fun p=>L (r,d,s,p,o,t)else some (r,d,s,f,t)
def Zt(e:List Int)(f:Int)(k:Int):((Int×(List Int)×(List Int))->Option ((List Int)×(List Int)))->(Int×(List Int)×(List Int))->Option ((List Int)×(List Int)):=fun L (a,d,g)=>if 0<=a then ze (a+((e.length:Int))) fun l=>ze (l-1) fun m=>zG m (d.length) fun o=>nm ((d.getD o 0)) fun p=>ze (p*k) fun q=>ck (f≠0)<|nm (xbX q f) fun b=>zG a (g.length) fun r=>nm (g.set r b) fun s=>bd (zj (Zk fu e a b) fu ((e,f,k,(0:Int),d,s))) fun(t,u,v,h,i)=>ze (a-1) fun j=>L (j,h,i)else some (d,g)
def xe(j:List Int)(a:List Int)(b:Int):Option ((List Int)×(List Int)):=ck (((([]:List Int)).length+j.length)*8<=140737488355328)<|nm ((([]:List Int))++j) fun d=>ze (((d.length:Int))-((a.length:Int))) fun e=>if e<0 then some ([],d)else ze (((a.length:Int))-1) fun l=>zG l (a.length) fun m=>nm (a.getD m 0) fun o=>bd (YQ fu o b) fun(p,s)=>ze (e+1) fun q=>j8 q fun k=>ck (8*k<=281474976710656)<|nm (xae k 0) fun r=>bd (zj (Zt fu a b p) fu (e,d,r)) fun(f,g)=>bd (zO fu g b) fun h=>bd (zO fu f b) fun i=>some (h,i)
def Vh(fu:Nat)(e:Int)(a:List Int)(f:Int)(g:List Int)(h:Int)(i:Int):((Int×(List Int))->Option (List Int))->(Int×(List Int))->Option (List Int):=fun L (b,d)=>bd ((if b<(a.length:Int)then some ((a,f,e,i,g,h,e,a,(a.length:Int),true))else some ((a,f,e,i,g,h,e,a,(a.length:Int),false)):Option ((List Int)×Int×Int×Int×(List Int)×Int×Int×(List Int)×Int×Bool))) fun(E,j,k,m,G,H,I,l,o,p)=>if p then zG b (l.length) fun q=>nm (l.getD q 0) fun r=>ze (k+b) fun s=>ze (k+b) fun t=>zG t (d.length) fun u=>nm ((d.getD u 0)) fun v=>ze (m*r) fun w=>ze (v+w) fun x=>ck (j≠0)<|nm (xbX x j) fun y=>zG s (d.length) fun A=>nm (d.set A y) fun B=>ze (b+1) fun C=>L (C,B)else some d
def W6(a:List Int)(f:List Int)(g:Int):((Int×(List Int))->Option (List Int))->(Int×(List Int))->Option (List Int):=fun L (b,h)=>bd ((if b<(a.length:Int)then some ((f,g,a,(a.length:Int),true))else some ((f,g,a,(a.length:Int),false)):Option ((List Int)×Int×(List Int)×Int×Bool))) fun(i,j,d,k,l)=>if l then zG b (d.length) fun m=>nm (d.getD m 0) fun o=>bd (zj (Vh fu b i j d k o) fu (((0:Int),h))) fun e=>ze (b+1) fun p=>L (p,e)else some h
def xO(d:List Int)(e:List Int)(f:Int):Option (List Int):=ze (((d.length:Int))+((e.length:Int))) fun h=>j8 h fun g=>ck (8*g<=281474976710656)<|nm (xae g 0) fun i=>bd (zj (W6 fu d e f) fu (((0:Int),i))) fun a=>bd (zO fu a f) fun b=>some b
def Ux(fu:Nat)(a:List Int)(e:Int)(f:Int):((Int×(List Int))->Option (List Int))->(Int×(List Int))->Option (List Int):=fun L (b,d)=>bd ((if b<(a.length:Int)then some ((e,f,a,(a.length:Int),true))else some ((e,f,a,(a.length:Int),false)):Option (Int×Int×(List Int)×Int×Bool))) fun(h,t,g,u,i)=>if i then zG b (g.length) fun j=>nm (g.getD j 0) fun k=>zG b (d.length) fun l=>nm ((d.getD l 0)) fun m=>ze (h*k) fun o=>ze (m+o) fun p=>zG b (d.length) fun q=>nm (d.set q p) fun r=>ze (b+1) fun s=>L (s,r)else some d
def uy(a:List Int)(b:List Int)(f:Int)(d:Int):Option (List Int):=nm (max ((a.length:Int)) ((b.length:Int))) fun g=>j8 g fun e=>ck (8*e<=281474976710656)<|nm (xae e 0) fun h=>nm (S9 h a) fun i=>bd (zj (Ux fu b f d) fu (((0:Int),i))) fun j=>bd (zO fu j d) fun k=>some k
def jK(e:List (List Int))(f:Int):(((List Int)×Int×(List (List Int))×(List (List Int)))->Option ((List (List Int))×(List (List Int))))->((List Int)×Int×(List (List Int))×(List (List Int)))->Option ((List (List Int))×(List (List Int))):=fun L (g,a,b,h)=>bd ((if a<3 then some (f,e,true)else some (f,e,false):Option (Int×(List (List Int))×Bool))) fun(d,i,j)=>if j then zG a (3) fun k=>zG a (3) fun l=>nm (i.getD l []) fun m=>bd (xO fu g m d) fun o=>ze (d-1) fun p=>bd (uy fu (b.getD k []) o p d) fun q=>zG a (3) fun r=>nm (b.set r q) fun s=>ze (a+1) fun t=>L (g,t,s,h)else some (b,h)
def Zs(b:List (List Int))(d:List (List Int))(e:Int):Option (List (List Int)):=zG 0 (3) fun f=>zG 0 (3) fun g=>nm (d.getD g []) fun h=>bd (xe fu (b.getD f []) h e) fun(i,k)=>bd (zj (jK fu d e) fu ((i,(0:Int),b,(xae 3 [])))) fun(a,j)=>some a
def vi(b:List Int)(d:Int)(a:Int):Option (List Int):=bd (YQ fu d a) fun(e,g)=>bd (xO fu b [e] a) fun f=>some f
def kn(d:Int):(((List (List Int))×(List (List Int)))->Option (List (List Int)))->((List (List Int))×(List (List Int)))->Option (List (List Int)):=fun L (b,a)=>zG 0 (3) fun e=>if 0<((((a.getD e [])).length:Nat):Int)then bd (Zs fu b a d) fun f=>L (a,f)else some b
def wb(d:Int)(e:Int):((Int×(List (List Int)))->Option (List (List Int)))->(Int×(List (List Int)))->Option (List (List Int)):=fun L (a,b)=>if a<3 then zG a (3) fun f=>bd (vi fu (b.getD f []) e d) fun g=>zG a (3) fun h=>nm (b.set h g) fun i=>ze (a+1) fun j=>L (j,i)else some b
def jI(k:List Int)(l:List Int)(d:Int):Option ((List Int)×(List Int)×(List Int)×Int):=bd (wg fu d) fun h=>if h=0 then bd (zO fu k d) fun m=>bd (zO fu l d) fun o=>bd (zj (kn fu d) fu (([m,[(1:Int)],[]],[o,[],[(1:Int)]]))) fun a=>zG 0 (3) fun i=>bd ((if 0<((((a.getD i [])).length:Nat):Int)then some true else some false:Option Bool)) fun p=>if p then zG 0 (3) fun j=>ze ((((((a.getD i [])).length:Nat):Int))-1) fun q=>zG q (((a.getD j [])).length) fun r=>nm (((a.getD j [])).getD r 0) fun s=>bd (zj (wb fu d s) fu (((0:Int),a))) fun b=>zG 0 (3) fun t=>zG 1 (3) fun u=>zG 2 (3) fun v=>some (((b.getD t []),(b.getD u []),(b.getD v []),(0:Int)))else zG 0 (3) fun e=>zG 1 (3) fun f=>zG 2 (3) fun g=>some (((a.getD e []),(a.getD f []),(a.getD g []),(0:Int)))else some ([],[],[],h)
def qF(a:List Int)(b:List Int)(d:Int):Option ((List Int)×Int):=bd (jI fu a b d) fun(e,g,h,f)=>some (e,f)
def qI(d:List Int)(e:List Int)(a:Int):Option ((List Int)×Int):=bd (wg fu a) fun b=>if b=0 then bd (zO fu d a) fun f=>bd (zO fu e a) fun g=>bd (xO fu f g a) fun h=>some ((h,(0:Int)))else some ([],b)
def YZ(d:List Int)(e:List Int)(a:Int):Option ((List Int)×Int):=bd (wg fu a) fun b=>if b=0 then bd (zO fu d a) fun f=>bd (zO fu e a) fun g=>ze (a-1) fun h=>bd (uy fu f g h a) fun i=>some ((i,(0:Int)))else some ([],b)
def uY(a:List Int)(b:List Int)(d:Int):Option Bool:=bd (YZ fu a b d) fun(e,f)=>if(e.length:Int)=0 then some true else some false
def Ya(fu:Nat)(a:List Int)(e:Int):(Int->Option (Unit⊕Unit))->Int->Option (Unit⊕Unit):=fun L b=>if b<(a.length:Int)then zG b (a.length) fun f=>nm (a.getD f 0) fun d=>if d<0 then some (.inr ())else if e<=d then some (.inr ())else ze (b+1) fun g=>L g else some (.inl ())
def uZ(a:List Int)(b:Int):Option Bool:=bd (zj (Ya fu a b) fu (0:Int)) fun d=>match d with
 | .inl _=>if 1<(a.length:Int)then ze (((a.length:Int))-1) fun e=>zG e (a.length) fun f=>nm (a.getD f 0) fun g=>if g=1 then some true else some false else some false
 | .inr _=>some false
def Wm(a:List (List Int))(e:Int):(((List Int)×Int)->Option (List Int))->((List Int)×Int)->Option (List Int):=fun L (d,b)=>if b<(a.length:Int)then zG b (a.length) fun f=>nm (a.getD f []) fun g=>bd (qI fu d g e) fun(h,j)=>ze (b+1) fun i=>L (h,i)else some d
def w8(a:List (List Int))(b:Int):Option (List Int):=bd (zj (Wm fu a b) fu (([(1:Int)],(0:Int)))) fun d=>some d
def XC(b:Zr):Option (Int×Bool):=bd (vM fu b) fun a=>bd ((if(a.2.length:Int)=0 then some true else some false:Option Bool)) fun d=>if d then some (((0:Int),true))else bd ((if 1<(a.2.length:Int)then some true else some false:Option Bool)) fun e=>if e then some (((0:Int),false))else bd ((if a.1=true then zG 0 (a.2.length) fun f=>nm (a.2.getD f 0) fun g=>if(g:Int)<=(((9223372036854775808:Nat):Nat):Int)then some true else some false else some false:Option Bool)) fun h=>if h then zG 0 (a.2.length) fun i=>nm (a.2.getD i 0) fun j=>nm ((18446744073709551616-j) % 18446744073709551616) fun k=>nm (Ox k) fun l=>some (l,true)else if a.1=true then some (((0:Int),false))else zG 0 (a.2.length) fun m=>nm (a.2.getD m 0) fun o=>if(((9223372036854775807:Nat):Nat):Int)<(o:Int)then some (((0:Int),false))else zG 0 (a.2.length) fun p=>nm (a.2.getD p 0) fun q=>nm (Ox q) fun r=>some (r,true)
def Vu(b:Zr)(d:Int):Option (Int×Int):=bd (zX fu d) fun e=>bd (vy fu b e) fun(f,a)=>if a=0 then bd (XC fu f) fun(g,h)=>some ((g,(0:Int)))else some (((0:Int),a))
def Yn(e:Int)(a:Zr)(b:Int):Option Int:=bd (Vu fu a b) fun(d,f)=>some d
def jB(fu:Nat)(a:List Zr)(f:Int->Zr->Option Int):((Int×(List Int))->Option (List Int))->(Int×(List Int))->Option (List Int):=fun L (b,d)=>bd ((if b<(a.length:Int)then some ((a,(a.length:Int),true))else some ((a,(a.length:Int),false)):Option ((List Zr)×Int×Bool))) fun(e,o,g)=>if g then zG b (e.length) fun h=>nm (e.getD h (false,[])) fun i=>bd (f b i) fun j=>zG b (d.length) fun k=>nm (d.set k j) fun l=>ze (b+1) fun m=>L (m,l)else some d
def vR(a:List Zr)(d:Int->Zr->Option Int):Option (List Int):=j8 ((a.length:Int)) fun b=>ck (8*b<=281474976710656)<|nm (xae b 0) fun e=>bd (zj (jB fu a d) fu (((0:Int),e))) fun f=>some f
def UA(fu:Nat):((List Int)->Option (List Int))->(List Int)->Option (List Int):=fun L a=>if 0<(a.length:Int)then ze (((a.length:Int))-1) fun d=>zG d (a.length) fun e=>nm ((a.getD e 0)) fun f=>if f=0 then ze (((a.length:Int))-1) fun g=>j8 g fun b=>ck (b<=a.length)<|nm (a.take b) fun h=>L h else some a else some a
def jO(b:List Zr)(a:Int):Option ((List Int)×Int):=if a<1 then some (([],(1:Int)))else bd (vR fu b (fun zx0 zx1=>Yn fu zx0 zx1 a)) fun d=>bd (zj (UA fu) fu d) fun e=>some ((e,(0:Int)))
def qC(d:Int)(e:List Int)(a:List (List Int)):(Int->Option (Unit⊕Unit))->Int->Option (Unit⊕Unit):=fun L b=>if b<(a.length:Int)then zG b (a.length) fun f=>nm (a.getD f []) fun g=>bd (qF fu e g d) fun(h,j)=>if(h.length:Int)=1 then ze (b+1) fun i=>L i else some (.inr ())else some (.inl ())
def qy(e:List Zr)(a:List (List Int))(f:Int):((Int×(List Int))->Option ((List Int)⊕Unit))->(Int×(List Int))->Option ((List Int)⊕Unit):=fun L (b,g)=>bd ((if b<(a.length:Int)then some ((e,a,f,a,(a.length:Int),true))else some ((e,a,f,a,(a.length:Int),false)):Option ((List Zr)×(List (List Int))×Int×(List (List Int))×Int×Bool))) fun(l,h,i,j,t,m)=>if m then zG b (j.length) fun o=>nm (j.getD o []) fun d=>if(l.length:Int)<(d.length:Int)then some (.inr ())else bd (uZ fu d i) fun p=>if !p then some (.inr ())else j8 b fun k=>ck (k<=h.length)<|nm (h.take k) fun q=>bd (zj (qC fu i d q) fu (0:Int)) fun r=>match r with
 | .inl _=>ze (b+1) fun s=>L (s,g)
 | .inr _=>some (.inr ())else some (.inl g)
def wx(a:List Zr)(e:List (List Int))(b:Int):Option Bool:=bd (jO fu a b) fun(h,o)=>if(a.length:Int)=0 then some false else if(h.length:Int)=(a.length:Int)then if(a.length:Int)<(e.length:Int)then some false else bd (zj (qy fu a e b) fu (((0:Int),h))) fun j=>match j with
 | .inl d=>bd (w8 fu e b) fun k=>ze (((d.length:Int))-1) fun l=>j8 l fun i=>ck (i<=d.length)<|nm (d.drop i) fun f=>bd (qI fu k f b) fun(g,p)=>bd (uY fu g d b) fun m=>some m
 | .inr _=>some false else some false
def uo(a:List Zr)(j:Int):(((List Zr)×Zr×Int×(List Zr)×(List Zr))->Option ((List Zr)×Zr×(List Zr)×(List Zr)))->((List Zr)×Zr×Int×(List Zr)×(List Zr))->Option ((List Zr)×Zr×(List Zr)×(List Zr)):=fun L (k,l,b,d,f)=>bd ((if b<(a.length:Int)then some ((j,a,(a.length:Int),true))else some ((j,a,(a.length:Int),false)):Option (Int×(List Zr)×Int×Bool))) fun(g,e,A,m)=>if m then zG b (e.length) fun o=>nm (e.getD o (false,[])) fun p=>ze (g+b) fun q=>ze (g+b) fun r=>zG r (d.length) fun s=>nm ((d.getD s (false,[]))) fun t=>zG g (f.length) fun u=>nm ((f.getD u (false,[]))) fun v=>bd (zL fu v p) fun w=>bd (vY fu t w) fun x=>zG q (d.length) fun y=>nm (d.set y x) fun h=>ze (b+1) fun i=>L (k,l,i,h,f)else some (k,l,d,f)
def uw(d:List Zr)(i:Zr):((Int×(List Zr)×(List Zr))->Option ((List Zr)×(List Zr)))->(Int×(List Zr)×(List Zr))->Option ((List Zr)×(List Zr)):=fun L (a,b,e)=>if 0<=a then ze (a+((d.length:Int))) fun j=>ze (j-1) fun k=>zG k (b.length) fun l=>nm ((b.getD l (false,[]))) fun m=>bd (vy fu m i) fun(o,t)=>zG a (e.length) fun p=>nm (e.set p o) fun q=>bd (zj (uo fu d a) fu ((d,i,(0:Int),b,q))) fun(r,s,f,g)=>ze (a-1) fun h=>L (h,f,g)else some (b,e)
def qq(k:List Zr)(g:List Zr)(a:Zr):Option ((List Zr)×(List Zr)):=bd (yU fu k a) fun h=>ze (((h.length:Int))-((g.length:Int))) fun l=>ze (l+1) fun m=>nm (max m (0:Int)) fun o=>j8 o fun i=>ck (32*i<=281474976710656)<|nm (xae i (false,[])) fun j=>ze (((j.length:Int))-1) fun p=>bd (zj (uw fu g a) fu (p,h,j)) fun(b,d)=>bd (yU fu d a) fun e=>bd (yU fu b a) fun f=>some (e,f)
def ja(b:Int)(d:Zr)(a:List Zr):Option Zr:=if b<(a.length:Int)then zG b (a.length) fun e=>nm (a.getD e (false,[])) fun f=>bd (vb fu d f) fun g=>some g else some d
def wM(a:List Zr)(b:List Zr):Option (List Zr):=if(a.length:Int)<(b.length:Int)then bd (zB fu b (fun zx0 zx1=>ja fu zx0 zx1 a)) fun d=>bd (zJ fu d) fun e=>some e else bd (zB fu a (fun zx0 zx1=>ja fu zx0 zx1 b)) fun f=>bd (zJ fu f) fun g=>some g
def UX(e:Int)(a:List Zr)(g:List Zr)(h:Int):((Int×(List Zr)×Zr)->Option (List Zr))->(Int×(List Zr)×Zr)->Option (List Zr):=fun L (b,d,i)=>bd ((if b<(a.length:Int)then some ((a,e,g,h,e,a,(a.length:Int),true))else some ((a,e,g,h,e,a,(a.length:Int),false)):Option ((List Zr)×Int×(List Zr)×Int×Int×(List Zr)×Int×Bool))) fun(x,j,y,A,B,k,C,l)=>if l then zG b (k.length) fun m=>nm (k.getD m (false,[])) fun o=>ze (j+b) fun p=>ze (j+b) fun q=>zG q (d.length) fun r=>nm ((d.getD r (false,[]))) fun s=>bd (zL fu i o) fun t=>bd (vb fu s t) fun u=>zG p (d.length) fun v=>nm (d.set v u) fun f=>ze (b+1) fun w=>L (w,f,i)else some d
def UD(a:List Zr)(f:List Zr):((Int×(List Zr))->Option (List Zr))->(Int×(List Zr))->Option (List Zr):=fun L (b,g)=>bd ((if b<(a.length:Int)then some ((f,a,(a.length:Int),true))else some ((f,a,(a.length:Int),false)):Option ((List Zr)×(List Zr)×Int×Bool))) fun(h,d,i,j)=>if j then zG b (d.length) fun k=>nm (d.getD k (false,[])) fun l=>bd (zj (UX fu b h d i) fu (((0:Int),g,l))) fun e=>ze (b+1) fun m=>L (m,e)else some g
def xE(d:List Zr)(e:List Zr):Option (List Zr):=ze (((d.length:Int))+((e.length:Int))) fun g=>j8 g fun f=>ck (32*f<=281474976710656)<|nm (xae f (false,[])) fun h=>bd (zj (UD fu d e) fu (((0:Int),h))) fun a=>bd (zJ fu a) fun b=>some b
def uQ(d:Int)(a:Int):Option Zr:=bd (zX fu a) fun b=>some b
def jF(fu:Nat)(b:List Int)(e:Int->Int->Option Zr):((Int×(List Zr))->Option (List Zr))->(Int×(List Zr))->Option (List Zr):=fun L (a,d)=>if a<(b.length:Int)then zG a (b.length) fun f=>nm (b.getD f 0) fun g=>bd (e a g) fun h=>zG a (d.length) fun i=>nm (d.set i h) fun j=>ze (a+1) fun k=>L (k,j)else some d
def vU(a:List Int)(d:Int->Int->Option Zr):Option (List Zr):=j8 ((a.length:Int)) fun b=>ck (32*b<=281474976710656)<|nm (xae b (false,[])) fun e=>bd (zj (jF fu a d) fu (((0:Int),e))) fun f=>some f
def vN(a:List Int):Option (List Zr):=bd (vU fu a (fun zx0 zx1=>uQ fu zx0 zx1)) fun b=>bd (zJ fu b) fun d=>some d
def Z8(a:List Int):Option (List Zr):=bd (vN fu a) fun b=>some b
def Xm(e:Int)(a:Zr)(b:Zr):Option Zr:=bd (zL fu a b) fun d=>some d
def wQ(a:List Zr)(b:Zr):Option (List Zr):=bd (zB fu a (fun zx0 zx1=>Xm fu zx0 zx1 b)) fun d=>bd (zJ fu d) fun e=>some e
def qE(a:List Zr)(b:List Zr):Option (List Zr):=bd (zX fu (-1:Int)) fun d=>bd (wQ fu b d) fun e=>bd (wM fu a e) fun f=>some f
def qw(f:List (List Zr))(G:List Zr)(a:Zr):Option (List (List Zr)):=zG 0 (4) fun H=>nm (f.getD H []) fun i=>zG 1 (4) fun I=>nm (f.getD I []) fun j=>zG 2 (4) fun J=>nm (f.getD J []) fun g=>zG 3 (4) fun K=>nm (f.getD K []) fun h=>bd (xE fu i j) fun M=>bd (qE fu G M) fun N=>bd (yU fu N a) fun E=>bd (xE fu g E) fun O=>bd (qq fu O j a) fun(P,Q)=>bd (xE fu h E) fun R=>bd (xE fu P i) fun S=>bd (wM fu R S) fun U=>bd (wM fu i U) fun k=>bd (yU fu k a) fun b=>bd (wM fu j Q) fun l=>bd (yU fu l a) fun d=>bd (xE fu g b) fun m=>bd (xE fu h d) fun o=>bd (wM fu m o) fun p=>bd (Z8 fu [(1:Int)]) fun q=>bd (qE fu p q) fun r=>bd (yU fu r a) fun e=>bd (xE fu g e) fun s=>bd (qq fu s d a) fun(t,u)=>bd (qE fu g u) fun v=>bd (yU fu v a) fun w=>bd (xE fu h e) fun x=>bd (xE fu t b) fun y=>bd (wM fu x y) fun A=>bd (qE fu h A) fun B=>bd (yU fu B a) fun C=>some [b,d,w,C]
def kq(a:Zr×(Zr×Zr))(b:Zr)(d:Zr×(Zr×Zr)):Option (Zr×(Zr×Zr)):=bd (zL fu b d.1) fun e=>bd (vY fu a.1 e) fun f=>bd (zL fu b d.2.1) fun g=>bd (vY fu a.2.1 g) fun h=>bd (zL fu b d.2.2) fun i=>bd (vY fu a.2.2 i) fun j=>some (f,h,j)
def Xh:(((Zr×(Zr×Zr))×(Zr×(Zr×Zr)))->Option (Zr×(Zr×Zr)))->((Zr×(Zr×Zr))×(Zr×(Zr×Zr)))->Option (Zr×(Zr×Zr)):=fun L (b,a)=>bd (xq fu a.1) fun d=>if d=0 then some b else bd (Z1 fu b.1 a.1) fun(e,g,h)=>bd (kq fu b e a) fun f=>L (a,f)
def Yr(g:Zr)(h:Zr):Option (Zr×Zr×Zr):=bd (yR fu false g.2) fun i=>bd (zX fu (1:Int)) fun j=>bd (zX fu (0:Int)) fun k=>bd (yR fu false h.2) fun l=>bd (zX fu (0:Int)) fun m=>bd (zX fu (1:Int)) fun o=>bd (zj (Xh fu) fu (((i,j,k),(l,m,o)))) fun a=>bd ((bd (xq fu g) fun p=>if p<0 then bd (uj fu a.2.1) fun d=>nm ((a.1,(d,a.2.2))) fun q=>some q else some a:Option (Zr×(Zr×Zr)))) fun b=>bd ((bd (xq fu h) fun r=>if r<0 then bd (uj fu b.2.2) fun e=>nm ((b.1,(b.2.1,e))) fun s=>some s else some b:Option (Zr×(Zr×Zr)))) fun f=>some (f.1,f.2.1,f.2.2)
def XY(a:List Zr)(b:Zr):Option (List Zr):=ze (((a.length:Int))-1) fun d=>zG d (a.length) fun e=>nm (a.getD e (false,[])) fun f=>bd (Yr fu f b) fun(j,g,k)=>bd (wQ fu a g) fun h=>bd (yU fu h b) fun i=>some i
def ui(g:List Zr)(h:Int)(d:Int):((Int×(List (List Zr)))->Option (List (List Zr)))->(Int×(List (List Zr)))->Option (List (List Zr)):=fun L (e,a)=>if e<d then ze ((2:Int)*e) fun i=>nm (min i d) fun f=>bd (vf fu h f) fun(j,k)=>bd (qw fu a g j) fun b=>L (f,b)else some a
def wO:Nat->(List Zr)->(List (List Int))->Int->Int->Zr->Option (List (List Zr))
 |0,_,_,_,_,_=>none
 |fu+1,d,a,b,i,j=>if(a.length:Int)=1 then bd (XY fu d j) fun C=>some [C]else ck ((2:Int)≠0)<|ze (xda ((a.length:Int)) (2:Int)) fun h=>ze (((d.length:Int))-1) fun E=>j8 E fun u=>ck (u<=d.length)<|nm (d.drop u) fun G=>bd (jO fu G b) fun(H,O)=>j8 h fun v=>ck (v<=a.length)<|nm (a.take v) fun I=>bd (w8 fu I b) fun J=>bd (qI fu J H b) fun(w,P)=>j8 h fun x=>ck (x<=a.length)<|nm (a.drop x) fun K=>bd (w8 fu K b) fun y=>bd (jI fu w y b) fun(Q,k,l,R)=>bd (vN fu w) fun m=>bd (vN fu y) fun o=>bd (vN fu k) fun p=>bd (vN fu l) fun q=>bd (zj (ui fu d b i) fu (((1:Int),[m,o,p,q]))) fun e=>zG 0 (4) fun M=>j8 h fun A=>ck (A<=a.length)<|nm (a.take A) fun r=>bd (wO fu (e.getD M []) r b i j) fun f=>zG 1 (4) fun N=>j8 h fun B=>ck (B<=a.length)<|nm (a.drop B) fun s=>bd (wO fu (e.getD N []) s b i j) fun g=>ck ((f.length+g.length)*24<=140737488355328)<|nm (f++g) fun t=>some t
def vS(h:List Zr)(a:List (List Int))(b:Int)(e:Int):Option ((List (List Zr))×Int):=bd (vf fu b e) fun(f,g)=>bd (zJ fu h) fun d=>if g=0 then if 65<(d.length:Int)then some (([],(6:Int)))else bd (wx fu d a b) fun i=>if !i then some (([],(1:Int)))else if(a.length:Int)=0 then some (([],(0:Int)))else bd (yU fu d f) fun j=>bd (wO fu j a b e f) fun k=>some ((k,(0:Int)))else some ([],g)
def XM(a:List Zr)(b:List Zr)(d:Zr):Option ((List Zr)×Int):=bd (xE fu a b) fun e=>bd (Zj fu e d) fun(f,g)=>some (f,g)
def qO(a:Zr)(b:Zr):Option Int:=bd (vY fu a b) fun d=>bd (xq fu d) fun e=>some e
def u4(e:Zr)(d:Zr):Option (Zr×Int):=bd (vy fu e d) fun(a,b)=>if b=0 then bd (vb fu a a) fun f=>bd (qO fu f d) fun g=>if 0<g then bd (vY fu a d) fun h=>some (h,b)else some (a,b)else some (a,b)
def Ym(a:List Zr)(b:Zr):Option ((List Zr)×Int):=bd (ve fu a b (fun zx0 zx1=>u4 fu zx0 zx1)) fun(d,e)=>some (d,e)
def b6:(((List Nat)×(List Nat))->Option (List Nat))->((List Nat)×(List Nat))->Option (List Nat):=fun L (b,a)=>if 0<(a.length:Int)then bd (Qx fu b a) fun(e,d,f)=>L (a,d)else some b
def WE(a:Zr)(b:Zr):Option Zr:=bd (ur fu a.2) fun d=>bd (ur fu b.2) fun e=>bd (zj (b6 fu) fu (d,e)) fun f=>bd (yR fu false f) fun g=>some g
def Vy(b:List Zr):((Int×(List Zr)×Zr×Zr)->Option ((List Zr)×Zr×Zr))->(Int×(List Zr)×Zr×Zr)->Option ((List Zr)×Zr×Zr):=fun L (d,a,e,f)=>bd ((if d<(b.length:Int)then some (((b.length:Int),true))else some (((b.length:Int),false)):Option (Int×Bool))) fun(l,g)=>if g then zG d (a.length) fun h=>nm ((a.getD h (false,[]))) fun i=>bd (WE fu f i) fun j=>ze (d+1) fun k=>L (k,a,e,j)else some (a,e,f)
def wE(e:List Zr):Option Zr:=bd (zJ fu e) fun d=>bd (zX fu (0:Int)) fun f=>bd (zj (Vy fu d) fu (((0:Int),d,(false,[]),f))) fun(a,k,b)=>if 0<(a.length:Int)then ze (((a.length:Int))-1) fun g=>zG g (a.length) fun h=>nm (((a.getD h (false,[]))).1) fun i=>if i then bd (uj fu b) fun j=>some j else some b else some b
def Wx(e:Int)(a:Zr)(b:Zr):Option Zr:=bd (qU fu a b) fun(d,f)=>some d
def wk(a:List Zr):Option (List Zr):=bd (wE fu a) fun b=>bd (zJ fu a) fun d=>bd (zB fu d (fun zx0 zx1=>Wx fu zx0 zx1 b)) fun e=>some e
def jh(e:List (List Zr))(b:List Int)(f:Zr):(((List Zr)×Int×(List Int))->Option ((List Zr)×(List Int)))->((List Zr)×Int×(List Int))->Option ((List Zr)×(List Int)):=fun L (g,d,a)=>bd ((if d<(b.length:Int)then some ((e,f,(b.length:Int),true))else some ((e,f,(b.length:Int),false)):Option ((List (List Zr))×Zr×Int×Bool))) fun(h,i,r,j)=>if j then zG d (a.length) fun k=>nm ((a.getD k 0)) fun l=>zG l (h.length) fun m=>nm (h.getD m []) fun o=>bd (XM fu g o i) fun(p,s)=>ze (d+1) fun q=>L (p,q,a)else some (g,a)
def qe(a:List Zr)(g:List (List Zr))(d:List Int)(e:Zr):Option ((List Zr)×(List Int)):=ze (((a.length:Int))-1) fun h=>j8 h fun f=>ck (f<=a.length)<|nm (a.drop f) fun i=>bd (zj (jh fu g d e) fu ((i,(0:Int),d))) fun(j,k)=>bd (Ym fu j e) fun(l,m)=>bd (wk fu l) fun b=>some (b,k)
def w5{X Y R:Type}(fu:Nat)(n all:Int)(g:List Int->X->Option (List Int×(X⊕Y)))(x:X)(xs:List Int)(L:X->List Int->Int->Int->Int->Int->Int->Option R)(E:X->Int->Int->List Int->Option R)(E2:Y->List Int->Option R):Option R:=bd (g xs x) fun r=>xfo (fun x'=>ze (n-1) fun a=>bd (zj (fun L i=>if 0<=i then zG i r.1.length fun j=>nm (r.1.getD j 0) fun y=>ze (all-n) fun e=>ze (e+i) fun e=>if y=e then ze (i-1) fun i=>L i else some i else some i) fu a) fun i=>if i<0 then E x' a i r.1 else zG i r.1.length fun j=>nm (r.1.getD j 0) fun y=>ze (y+1) fun e=>zG i r.1.length fun j=>nm (r.1.set j e) fun xs=>ze (i+1) fun b=>bd (zj (fun L (z:Int×List Int)=>if z.1<n then ze (z.1-1) fun e=>zG e z.2.length fun j=>nm (z.2.getD j 0) fun y=>ze (y+1) fun e=>zG z.1 z.2.length fun j=>nm (z.2.set j e) fun xs=>ze (z.1+1) fun i=>L (i,xs)else some z.2) fu (b,xs)) fun xs=>L x' xs b i e y a) (fun y=>E2 y r.1) r.2
def wa{X Y:Type}(fu:Nat)(n all:Int)(g:List Int->X->Option (List Int×(X⊕Y)))(a:X):Option (X⊕Y):=j8 n fun m=>ck (8*m<=281474976710656)<|nm (xae m 0) fun xs=>bd (zj (fun L (z:List Int×Int)=>if z.2<(xs.length:Int)then zG z.2 z.1.length fun j=>nm (z.1.set j z.2) fun xs=>ze (z.2+1) fun i=>L (xs,i)else some z.1) fu (xs,0)) fun xs=>zj (fun L (q:X×List Int)=>w5 fu n all g q.1 q.2 (fun x xs _ _ _ _ _=>L (x,xs)) (fun x _ _ _=>some (.inl x)) fun y _=>some (.inr y)) fu (a,xs)
def VR(fu:Nat)(b:List Int)(d:Int):(Int->Option (Unit⊕Int))->Int->Option (Unit⊕Int):=fun L a=>if a<(b.length:Int)then zG a (b.length) fun e=>nm (b.getD e 0) fun f=>if d=f then some (.inr a)else ze (a+1) fun g=>L g else some (.inl ())
def Zy(a:List Int)(b:Int):Option Int:=bd (zj (VR fu a b) fu (0:Int)) fun d=>match d with
 | .inl _=>some (-1:Int)
 | .inr e=>some e
def wJ(fu:Nat)(b:List Int)(d:Int):(Int->Option (Unit⊕Int))->Int->Option (Unit⊕Int):=fun L a=>if a<(b.length:Int)then zG a (b.length) fun e=>nm ((b.getD e 0)) fun f=>if d=f then some (.inr a)else ze (a+1) fun g=>L g else some (.inl ())
def vr(a:List Int)(b:Int):Option (Int×(List Int)):=bd (zj (wJ fu a b) fu (0:Int)) fun d=>match d with
 | .inl _=>some (((-1:Int),a))
 | .inr e=>some (e,a)
def kD(a:List Int)(b:Int):Option Bool:=bd (Zy fu a b) fun d=>if 0<=d then some true else some false
def xy(b:List Int)(d:Int):Option (Bool×(List Int)):=bd (vr fu b d) fun(e,a)=>if 0<=e then some (true,a)else some (false,a)
def rn(a:List (List Zr))(e:List Int):(((List (List Zr))×Int)->Option (List (List Zr)))->((List (List Zr))×Int)->Option (List (List Zr)):=fun L (d,b)=>bd ((if b<(a.length:Int)then some ((e,a,(a.length:Int),true))else some ((e,a,(a.length:Int),false)):Option ((List Int)×(List (List Zr))×Int×Bool))) fun(h,f,p,i)=>if i then zG b (f.length) fun j=>nm (f.getD j []) fun g=>bd (kD fu h b) fun k=>if !k then ck ((d.length+([g]).length)*24<=140737488355328)<|nm (d++([g])) fun l=>ze (b+1) fun m=>L (l,m)else ze (b+1) fun o=>L (d,o)else some d
def jw(a:List (List Zr)):(((List (List Zr))×Int×(List Int))->Option ((List (List Zr))×(List Int)))->((List (List Zr))×Int×(List Int))->Option ((List (List Zr))×(List Int)):=fun L (d,b,e)=>bd ((if b<(a.length:Int)then some ((a,(a.length:Int),true))else some ((a,(a.length:Int),false)):Option ((List (List Zr))×Int×Bool))) fun(f,p,i)=>if i then zG b (f.length) fun j=>nm (f.getD j []) fun g=>bd (xy fu e b) fun(k,h)=>if !k then ck ((d.length+([g]).length)*24<=140737488355328)<|nm (d++([g])) fun l=>ze (b+1) fun m=>L (l,m,h)else ze (b+1) fun o=>L (d,o,h)else some (d,e)
def xi(a:List (List Zr))(b:List Int):Option ((List (List Zr))×(List Int)):=bd (zj (jw fu a) fu (([],(0:Int),b))) fun(d,e)=>some (d,e)
def vu(b:(Bool×List Nat))(ys:List Int)(y:List (Bool×List Nat)×List (List (Bool×List Nat))×List (List (Bool×List Nat))):Option (List Int×((List (Bool×List Nat)×List (List (Bool×List Nat))×List (List (Bool×List Nat)))⊕(List (Bool×List Nat)×List (List (Bool×List Nat))×List (List (Bool×List Nat))))):=bd (qe fu y.1 y.2.1 ys b) fun c=>bd (wA fu y.1 c.1) fun q=>if q.2=0 then if 1<(c.1.length:Int)then ck ((y.2.2.length+1)*24<=140737488355328)<|nm (y.2.2++[c.1]) fun pr=>bd (xi fu y.2.1 c.2) fun w=>some (w.2,.inr (q.1,w.1,pr))else some (c.2,.inl y)else some (c.2,.inl y)
def kV(b:(Bool×List Nat))(x:List (Bool×List Nat)×List (List (Bool×List Nat))×List (List (Bool×List Nat))×Int)(L:List (Bool×List Nat)×List (List (Bool×List Nat))×List (List (Bool×List Nat))×Int->Option (List (Bool×List Nat)×List (List (Bool×List Nat))×List (List (Bool×List Nat)))):Option (List (Bool×List Nat)×List (List (Bool×List Nat))×List (List (Bool×List Nat))):=ze (2*x.2.2.2) fun d=>if d<=(x.2.1.length:Int)then bd (wa fu x.2.2.2 (x.2.1.length:Int) (vu fu b) (x.1,x.2.1,x.2.2.1)) fun r=>xfo (fun y=>ze (x.2.2.2+1) fun i=>L (y.1,y.2.1,y.2.2,i)) (fun y=>L (y.1,y.2.1,y.2.2,x.2.2.2)) r else some (x.1,x.2.1,x.2.2.1)
def kM(f:List (Bool×List Nat))(a:List (List (Bool×List Nat)))(b:(Bool×List Nat)):Option (List (List (Bool×List Nat))):=bd (zj (fun L x=>kV fu b x L) fu (f,a,[],1)) fun x=>if 1<(x.1.length:Int)then bd (wk fu x.1) fun q=>ck ((x.2.2.length+1)*24<=140737488355328)<|nm (x.2.2++[q]) fun pr=>some pr else some x.2.2
def J8(b:List Zr)(d:List Zr):(Int->Option (Unit⊕Bool))->Int->Option (Unit⊕Bool):=fun L a=>if 0<=a then zG a (b.length) fun f=>nm ((b.getD f (false,[]))) fun g=>zG a (d.length) fun h=>nm ((d.getD h (false,[]))) fun i=>bd (qO fu g i) fun e=>if e=0 then ze (a-1) fun j=>L j else if e<0 then some (.inr true)else some (.inr false)else some (.inl ())
def u7(d:List Zr)(e:List Zr):Option Bool:=bd (zJ fu d) fun a=>bd (zJ fu e) fun b=>if(a.length:Int)=(b.length:Int)then ze (((a.length:Int))-1) fun f=>bd (zj (J8 fu a b) fu f) fun g=>match g with
 | .inl _=>some false
 | .inr h=>some h else if(a.length:Int)<(b.length:Int)then some true else some false
def qs(a:List Zr)(b:List Zr):Option Int:=bd (u7 fu a b) fun d=>if d then some (-1:Int)else bd (u7 fu b a) fun e=>if e then some (1:Int)else some (0:Int)
def Yf(f:Int)(g:Zr):((Int×Zr×Int×Zr)->Option (Int×Zr×Zr))->(Int×Zr×Int×Zr)->Option (Int×Zr×Zr):=fun L (a,b,d,e)=>if d<f then bd (zL fu e g) fun h=>ze (d+1) fun i=>L (a,b,i,h)else some (a,b,e)
def VI(g:Zr)(d:Int):((Zr×Zr×Zr)->Option Zr)->(Zr×Zr×Zr)->Option Zr:=fun L (e,a,f)=>bd (vb fu a f) fun h=>bd (Qv fu h.2 (1:Int)) fun i=>bd (yR fu false i) fun b=>bd (qO fu b a) fun j=>if j=0 then some a else bd (zX fu (1:Int)) fun k=>bd (zj (Yf fu d b) fu ((d,g,(0:Int),k))) fun(p,l,m)=>bd (qO fu m l) fun o=>if o<=0 then L (e,b,f)else L (e,a,b)
def Vn(b:Zr)(a:Int):Option (Zr×Int):=if a<1 then some (((false,[]),(1:Int)))else if 64<a then some (((false,[]),(1:Int)))else bd (xq fu b) fun e=>if e<0 then some (((false,[]),(1:Int)))else bd (zX fu (0:Int)) fun f=>bd (jS fu b.2) fun g=>ck (a≠0)<|ze (xda g a) fun h=>ze (h+1) fun i=>nm (min i (262144:Int)) fun j=>bd (ZS fu [(1:Nat)] j) fun(k,m)=>bd (yR fu false k) fun l=>bd (zj (VI fu b a) fu (((false,[]),f,l))) fun d=>some ((d,(0:Int)))
def Zl(b:List Zr):Option Int:=bd (zJ fu b) fun a=>if(a.length:Int)=0 then some (8:Int)else if 65<(a.length:Int)then some (6:Int)else some (0:Int)
def Kp(b:List Zr):((Int×(List Zr)×Zr×Zr)->Option ((List Zr)×Zr×Zr))->(Int×(List Zr)×Zr×Zr)->Option ((List Zr)×Zr×Zr):=fun L (d,a,e,f)=>bd ((if d<(b.length:Int)then some (((b.length:Int),true))else some (((b.length:Int),false)):Option (Int×Bool))) fun(m,h)=>if h then zG d (a.length) fun i=>nm ((a.getD i (false,[]))) fun g=>bd (zL fu g g) fun j=>bd (vb fu f j) fun k=>ze (d+1) fun l=>L (l,a,e,k)else some (a,e,f)
def wo(a:List Zr):Option (Zr×Int):=bd (Zl fu a) fun b=>if b=0 then bd (zJ fu a) fun d=>bd (zX fu (-1:Int)) fun e=>bd (zj (Kp fu d) fu (((0:Int),d,(false,[]),e))) fun(f,o,g)=>bd (Vn fu g (2:Int)) fun(h,p)=>bd (zX fu (1:Int)) fun i=>bd (vb fu h i) fun j=>ze (((f.length:Int))-1) fun k=>bd (ZS fu j.2 k) fun(l,q)=>bd (vM fu (false,l)) fun m=>some ((m,(0:Int)))else some (((false,[]),b))
def Y7(d:Int)(e:Zr):((Int×Zr)->Option Int)->(Int×Zr)->Option Int:=fun L (a,b)=>bd (qO fu b e) fun f=>if f<=0 then bd (zX fu d) fun g=>bd (zL fu b g) fun h=>ze (a+1) fun i=>L (i,h)else some a
def Yh(a:List Zr)(b:Int):Option Int:=bd (wo fu a) fun(d,m)=>bd (zX fu (2:Int)) fun e=>ze (((a.length:Int))-1) fun f=>zG f (a.length) fun g=>nm (a.getD g (false,[])) fun h=>bd (zL fu d h) fun i=>bd (zL fu e i) fun j=>bd (zX fu b) fun k=>bd (zj (Y7 fu b j) fu (((1:Int),k))) fun l=>some l
def XD(a:List Zr):Option Bool:=bd (wo fu a) fun(b,k)=>bd (zX fu (2:Int)) fun d=>ze (((a.length:Int))-1) fun e=>zG e (a.length) fun f=>nm (a.getD f (false,[])) fun g=>bd (zL fu b g) fun h=>bd (zL fu d h) fun i=>bd (jS fu i.2) fun j=>if 1000<j then some true else some false
def Z7(fu:Nat)(b:List Int)(d:List Int):(Int->Option (Unit⊕Int))->Int->Option (Unit⊕Int):=fun L a=>if 0<=a then zG a (b.length) fun e=>nm (b.getD e 0) fun f=>zG a (d.length) fun g=>nm (d.getD g 0) fun h=>if f<h then some (.inr (-1:Int))else zG a (b.length) fun i=>nm (b.getD i 0) fun j=>zG a (d.length) fun k=>nm (d.getD k 0) fun l=>if l<j then some (.inr (1:Int))else ze (a-1) fun m=>L m else some (.inl ())
def wz(a:List Int)(b:List Int):Option Int:=if(a.length:Int)=(b.length:Int)then ze (((a.length:Int))-1) fun d=>bd (zj (Z7 fu a b) fu d) fun e=>match e with
 | .inl _=>some (0:Int)
 | .inr f=>some f else ze (((a.length:Int))-((b.length:Int))) fun g=>some g
def qu(fu:Nat)(a:List Int)(b:Int):Option Bool:=zG b (a.length) fun d=>nm (a.getD d 0) fun e=>if e=0 then some false else some true
def KN(b:List Int)(e:Int):((Int×(List Int))->Option (List Int))->(Int×(List Int))->Option (List Int):=fun L (a,d)=>if a<(b.length:Int)then zG a (b.length) fun f=>nm (b.getD f 0) fun g=>bd (jN fu g e) fun h=>zG a (d.length) fun i=>nm (d.set i h) fun j=>ze (a+1) fun k=>L (k,j)else some d
def uW(a:List Int)(d:Int):Option (List Int):=j8 ((a.length:Int)) fun b=>ck (8*b<=281474976710656)<|nm (xae b 0) fun e=>bd (zj (KN fu a d) fu (((0:Int),e))) fun f=>some f
def Kd(fu:Nat)(a:List (List Int)):(Int->Option (Unit⊕Unit))->Int->Option (Unit⊕Unit):=fun L b=>bd ((if b<(a.length:Int)then some ((a,a,(a.length:Int),true))else some ((a,a,(a.length:Int),false)):Option ((List (List Int))×(List (List Int))×Int×Bool))) fun(d,e,l,g)=>if g then zG b (e.length) fun h=>nm (e.getD h []) fun f=>if 64<(f.length:Int)then some (.inr ())else zG 0 (d.length) fun i=>nm (d.getD i []) fun j=>if(f.length:Int)=(j.length:Int)then ze (b+1) fun k=>L k else some (.inr ())else some (.inl ())
def Zh(a:List (List Int))(b:Int):Option Int:=bd (wg fu b) fun d=>if d=0 then if 64<(a.length:Int)then some (1:Int)else bd (zj (Kd fu a) fu (0:Int)) fun e=>match e with
 | .inl _=>some (0:Int)
 | .inr _=>some (1:Int)else some (1:Int)
def wY(xss:List (List Int))(ix:List Nat)(r:Nat)(a p:Int)(lo n:Nat):Option (List (List Int)):=bd (zj (fun L (x:((List (List Int)×List Nat)×Nat×Nat)×(Nat×Nat)×Nat×Int)=>if x.2.2.2<(n:Int)then zG x.2.2.2 x.2.1.2 fun j=>nm (x.1.1.2.getD (x.2.1.1+j) 0) fun q=>zG a (x.1.1.1.getD q []).length fun j=>nm ((x.1.1.1.getD q []).getD j 0) fun y=>bd (zj (fun L (z:((List (List Int)×List Nat)×Nat×Nat)×(Nat×Nat)×Nat×Nat×Nat×Int)=>if z.2.2.2.2.2<((x.1.1.1.getD x.2.2.1 []).length:Int)then zG z.2.2.2.2.2 (z.1.1.1.getD z.2.2.2.1 []).length fun j=>nm ((z.1.1.1.getD z.2.2.2.1 []).getD j 0) fun v=>zG z.2.2.2.2.2 (z.1.1.1.getD z.2.2.2.2.1 []).length fun j=>nm ((z.1.1.1.getD z.2.2.2.2.1 []).getD j 0) fun u=>ze (p-y) fun e=>ze (e*v) fun e=>ze (u+e) fun e=>ck (p≠0)<|nm (xbX e p) fun e=>zG z.2.2.2.2.2 (z.1.1.1.getD z.2.2.2.2.1 []).length fun j=>nm (z.1.1.1.set z.2.2.2.2.1 ((z.1.1.1.getD z.2.2.2.2.1 []).set j e)) fun yss=>ze (z.2.2.2.2.2+1) fun i=>L (((yss,z.1.1.2),z.1.2),z.2.1,z.2.2.1,z.2.2.2.1,z.2.2.2.2.1,i)else some (z.1,z.2.1,z.2.2.1)) fu (x.1,x.2.1,x.2.2.1,x.2.2.1,q,0)) fun z=>ze (x.2.2.2+1) fun i=>L (z.1,z.2.1,z.2.2,i)else some x.1) fu (((xss,ix),lo,n),(lo,n),r,0)) fun x=>ck (x.2.1=lo/\x.2.2=n/\x.1.2=ix) (some x.1.1)
def wG(fu:Nat)(b:List (List Int))(d:(List Int)->Option Bool):(Int->Option (Unit⊕Int))->Int->Option (Unit⊕Int):=fun L a=>if a<(b.length:Int)then zG a (b.length) fun e=>nm (b.getD e []) fun f=>bd (d f) fun g=>if g then some (.inr a)else ze (a+1) fun h=>L h else some (.inl ())
def yz(a:List (List Int))(b:(List Int)->Option Bool):Option Int:=bd (zj (wG fu a b) fu (0:Int)) fun d=>match d with
 | .inl _=>some (-1:Int)
 | .inr e=>some e
def jJ(rows:List (List Int))(p:Int):Option (List (List Int)×Int):=bd (Zh fu rows p) fun e=>if e=0 then bd (zj (fun L (x:(List (List Int)×List Nat)×Int)=>if x.2<(rows.length:Int)then zG x.2 rows.length fun j=>nm (rows.getD j []) fun y=>bd (uW fu y p) fun r=>ck ((x.1.2.length+1)*24<=140737488355328)<|nm (x.1.1++[r]) fun zss=>nm (x.1.2++[x.1.1.length]) fun iz=>ze (x.2+1) fun i=>L ((zss,iz),i)else some x.1) fu (([],[]),0)) fun x=>bd (zj (fun L (x:(List (List Int)×List Nat)×Int×Int)=>if x.2.1<(x.1.2.length:Int)then zG 0 x.1.2.length fun j=>nm (x.1.2.getD j 0) fun r=>if x.2.2<((x.1.1.getD r []).length:Int)then j8 x.2.1 fun j=>ck (j<=x.1.2.length)<|bd (yz fu (xdr (x.1.2.length-j) (xdv j (x.1.2.map fun r=>x.1.1.getD r []))) fun z=>qu fu z x.2.2) fun i=>if i<0 then ze (x.2.2+1) fun c=>L (x.1,x.2.1,c)else ze (x.2.1+i) fun a=>ze (x.2.1+i) fun b=>zG b x.1.2.length fun j=>nm (x.1.2.getD j 0) fun d=>zG x.2.1 x.1.2.length fun j=>nm (x.1.2.getD j 0) fun f=>zG x.2.1 x.1.2.length fun j=>nm (x.1.2.set j d) fun ix=>zG a ix.length fun j=>nm (ix.set j f) fun ix=>zG x.2.1 ix.length fun j=>nm (ix.getD j 0) fun r=>zG x.2.2 (x.1.1.getD r []).length fun j=>nm ((x.1.1.getD r []).getD j 0) fun y=>bd (YQ fu y p) fun q=>zG x.2.1 ix.length fun j=>nm (ix.getD j 0) fun r=>bd (zj (fun L (z:(List (List Int)×List Nat)×Nat×Int)=>if z.2.2<((x.1.1.getD r []).length:Int)then zG z.2.2 (z.1.1.getD z.2.1 []).length fun j=>nm ((z.1.1.getD z.2.1 []).getD j 0) fun y=>zG x.2.1 z.1.2.length fun j=>nm (z.1.2.getD j 0) fun r=>ze (y*q.1) fun e=>ck (p≠0)<|nm (xbX e p) fun e=>zG z.2.2 (z.1.1.getD r []).length fun j=>nm (z.1.1.set r ((z.1.1.getD r []).set j e)) fun yss=>ze (z.2.2+1) fun i=>L ((yss,z.1.2),z.2.1,i)else some z.1) fu ((x.1.1,ix),r,0)) fun m=>zG x.2.1 m.2.length fun j=>nm (m.2.getD j 0) fun r=>j8 x.2.1 fun j=>ck (j<=m.2.length)<|bd (wY fu m.1 m.2 r x.2.2 p 0 j) fun yss=>zG x.2.1 m.2.length fun j=>nm (m.2.getD j 0) fun r=>ze (x.2.1+1) fun e=>j8 e fun j=>ck (j<=m.2.length)<|bd (wY fu yss m.2 r x.2.2 p j (m.2.length-j)) fun yss=>ze (x.2.1+1) fun k=>ze (x.2.2+1) fun c=>L ((yss,m.2),k,c)else some (x.1,x.2.1)else some (x.1,x.2.1)) fu (x,0,0)) fun x=>j8 x.2 fun j=>ck (j<=(x.1.2.map fun r=>x.1.1.getD r []).length)<|nm (xdr j (x.1.2.map fun r=>x.1.1.getD r [])) fun ys=>some (ys,0)else some ([],e)
def kP(fu:Nat)(a:Int):Option Bool:=if a=0 then some false else some true
def wc(fu:Nat)(b:List Int)(d:Int->Option Bool):(Int->Option (Unit⊕Int))->Int->Option (Unit⊕Int):=fun L a=>if a<(b.length:Int)then zG a (b.length) fun e=>nm (b.getD e 0) fun f=>bd (d f) fun g=>if g then some (.inr a)else ze (a+1) fun h=>L h else some (.inl ())
def yZ(a:List Int)(b:Int->Option Bool):Option Int:=bd (zj (wc fu a b) fu (0:Int)) fun d=>match d with
 | .inl _=>some (-1:Int)
 | .inr e=>some e
def YL(a:List Int):Option Int:=bd (yZ fu a (fun zx0=>kP fu zx0)) fun b=>some b
def wK(a:List Int)(b:Int):Option Bool:=bd (YL fu a) fun d=>if d=b then some true else some false
def xo(a:List (List Int))(b:(List Int)->Option Bool):Option Bool:=bd (yz fu a b) fun d=>if 0<=d then some true else some false
def VL(d:Int)(i:Int)(j:Int)(a:List (List Int))(k:Int):((Int×(List (List Int))×(List Int))->Option ((List (List Int))×(List Int)))->(Int×(List (List Int))×(List Int))->Option ((List (List Int))×(List Int)):=fun L (e,l,f)=>bd ((if e<(a.length:Int)then some ((i,j,a,d,k,d,a,(a.length:Int),true))else some ((i,j,a,d,k,d,a,(a.length:Int),false)):Option (Int×Int×(List (List Int))×Int×Int×Int×(List (List Int))×Int×Bool))) fun(A,m,B,o,C,E,b,p,q)=>if q then zG e (b.length) fun r=>nm (b.getD r []) fun g=>bd (YL fu g) fun s=>zG o (g.length) fun t=>nm (g.getD t 0) fun u=>ze (0-u) fun v=>bd (jN fu v m) fun w=>zG s (f.length) fun x=>nm (f.set x w) fun h=>ze (e+1) fun y=>L (y,l,h)else some (l,f)
def UY(b:Int)(h:Int)(i:List (List Int)):(((List (List Int))×Int)->Option (List (List Int)))->((List (List Int))×Int)->Option (List (List Int)):=fun L (f,a)=>bd ((if a<b then some (b,h,i,b,true)else some (b,h,i,b,false):Option (Int×Int×(List (List Int))×Int×Bool))) fun(j,o,k,p,q)=>if q then bd (xo fu k (fun zx0=>wK fu zx0 a)) fun r=>if r then ze (a+1) fun s=>L (f,s)else j8 j fun l=>ck (8*l<=281474976710656)<|nm (xae l 0) fun m=>zG a (m.length) fun t=>nm (m.set t (1:Int)) fun u=>bd (zj (VL fu a j o k p) fu (((0:Int),f,u))) fun(d,e)=>ck ((d.length+([e]).length)*24<=140737488355328)<|nm (d++([e])) fun g=>ze (a+1) fun v=>L (g,v)else some f
def Y4(a:List (List Int))(b:Int)(d:Int):Option ((List (List Int))×Int):=bd ((bd (Zh fu a d) fun f=>if f=0 then if b<0 then some (.inr ())else if 64<b then some (.inr ())else if 0<(a.length:Int)then zG 0 (a.length) fun g=>nm (a.getD g []) fun h=>if(h.length:Int)=b then some (.inl ())else some (.inr ())else some (.inl ())else some (.inr ()):Option (Unit⊕Unit))) fun i=>match i with
 | .inl _=>bd (jJ fu a d) fun(j,k)=>bd (zj (UY fu b d j) fu (([],(0:Int)))) fun e=>some ((e,(0:Int)))
 | .inr _=>some (([],(1:Int)))
def qH(e:List Int)(f:List Int)(a:Int):Option ((List Int)×(List Int)×Int):=bd (wg fu a) fun b=>if b=0 then bd (zO fu f a) fun d=>if(d.length:Int)=0 then some (([],[],(3:Int)))else bd (zO fu e a) fun g=>bd (xe fu g d a) fun(h,i)=>some ((h,i,(0:Int)))else some ([],[],b)
def ZL(i:Zr)(d:Int)(j:List Int):(((List Int)×(List Int)×Int)->Option (List Int))->((List Int)×(List Int)×Int)->Option (List Int):=fun L (e,f,a)=>if 0<=a then bd (xO fu e e d) fun l=>bd (xe fu l j d) fun(m,b)=>ck ((64:Int)≠0)<|ze (xda a (64:Int)) fun o=>zG o (i.2.length) fun p=>nm (i.2.getD p 0) fun q=>ck ((64:Int)≠0)<|nm (xbX a (64:Int)) fun k=>ck (0<=k)<|nm (q/2^(min (k:Int).toNat 64)) fun r=>nm (r &&& ((1:Nat))) fun s=>if(s:Int)=(((1:Nat):Nat):Int)then bd (xO fu b f d) fun g=>bd (xe fu g j d) fun(t,h)=>ze (a-1) fun u=>L (h,f,u)else ze (a-1) fun v=>L (b,f,v)else some e
def jC(f:List Int)(d:Zr)(g:List Int)(a:Int):Option ((List Int)×Int):=bd (wg fu a) fun h=>if h=0 then bd (xq fu d) fun i=>if i<0 then some (([],(1:Int)))else bd (zO fu g a) fun b=>if(b.length:Int)=0 then some (([],(3:Int)))else bd (xe fu [(1:Int)] b a) fun(p,j)=>bd (zO fu f a) fun k=>bd (xe fu k b a) fun(q,l)=>bd (jS fu d.2) fun m=>ze (m-1) fun o=>bd (zj (ZL fu d a b) fu (j,l,o)) fun e=>some ((e,(0:Int)))else some (([],(1:Int)))
def Zq(f:List Int)(p:Int):Option (List (List Int)):=ze ((f.length:Int)-1) fun n=>j8 n fun m=>ck (24*m<=281474976710656)<|nm (xae m 0) fun ix=>bd (zj (fun L (x:(List (List Int)×List Nat)×Int)=>if x.2<(ix.length:Int)then j8 n fun m=>ck (8*m<=281474976710656)<|nm (xae m 0) fun ys=>zG x.2 x.1.2.length fun j=>nm (x.1.1++[ys]) fun xss=>nm (x.1.2.set j x.1.1.length) fun ix=>ze (x.2+1) fun i=>L ((xss,ix),i)else some x.1) fu (([[]],ix),0)) fun x=>bd (zX fu p) fun z=>bd (jC fu [0,1] z f p) fun q=>bd (zj (fun L (x:(List (List Int)×List Nat)×List Int×List Int×Int)=>if x.2.2.2<n then bd (zj (fun L (y:(List (List Int)×List Nat)×Int)=>if y.2<(x.2.1.length:Int)then zG y.2 x.2.1.length fun j=>nm (x.2.1.getD j 0) fun v=>zG y.2 y.1.2.length fun j=>nm (y.1.2.getD j 0) fun r=>zG x.2.2.2 (y.1.1.getD r []).length fun j=>nm (y.1.1.set r ((y.1.1.getD r []).set j v)) fun yss=>ze (y.2+1) fun i=>L ((yss,y.1.2),i)else some y.1) fu (x.1,0)) fun y=>zG x.2.2.2 y.2.length fun j=>nm (y.2.getD j 0) fun r=>zG x.2.2.2 (y.1.getD r []).length fun j=>nm ((y.1.getD r []).getD j 0) fun v=>ze (v-1) fun e=>zG x.2.2.2 (y.1.getD r []).length fun j=>nm (y.1.set r ((y.1.getD r []).set j e)) fun yss=>bd (qI fu x.2.1 x.2.2.1 p) fun u=>bd (qH fu u.1 f p) fun w=>ze (x.2.2.2+1) fun i=>L ((yss,y.2),w.2.1,x.2.2.1,i)else some x.1) fu (x,[1],q.1,0)) fun x=>bd (Y4 fu (x.2.map fun r=>x.1.getD r []) n p) fun r=>some r.1
def K7(a:List Int)(b:List Int)(d:Int):Option (List Int):=bd (qH fu a b d) fun(e,f,g)=>some e
def QW(a:List Int)(b:List Int)(d:Int):Option (List Int):=bd (qF fu a b d) fun(e,f)=>some e
def ug(b:Int)(a:List Int)(d:Int):Option Int:=if b<(a.length:Int)then zG b (a.length) fun e=>nm (a.getD e 0) fun f=>bd (jN fu f d) fun g=>some g else ze (b-((a.length:Int))) fun h=>some h
def Vf(d:List Int)(e:List Int)(a:Int):Option ((List Int)×Int):=bd (wg fu a) fun b=>if b=0 then bd (zO fu d a) fun f=>bd (zO fu e a) fun g=>bd (uy fu f g (1:Int) a) fun h=>some ((h,(0:Int)))else some ([],b)
def X5(d:List Int)(e:Int)(f:List Int)(a:Int):Option (List Int):=bd (Vf fu d [e] a) fun(b,l)=>if 2<a then ze (a-1) fun g=>ck ((2:Int)≠0)<|ze (xda g (2:Int)) fun h=>bd (zX fu h) fun i=>bd (jC fu b i f a) fun(j,m)=>bd (YZ fu j [(1:Int)] a) fun(k,o)=>some k else some b
def Xg(v:Int)(w:List Int)(h:List (List Int))(e:Int)(k:List Int)(l:Int)(i:Int)(m:List (List Int))(o:Int)(j:List Int):(((List (List Int))×Int)->Option ((List (List Int))⊕(List (List Int))))->((List (List Int))×Int)->Option ((List (List Int))⊕(List (List Int))):=fun L (a,d)=>if d<(a.length:Int)then if(a.length:Int)=(h.length:Int)then some (.inl a)else bd (ug fu i w v) fun x=>zG d (a.length) fun y=>nm ((a.getD y [])) fun A=>bd (X5 fu j x A e) fun p=>zG d (a.length) fun B=>nm ((a.getD B [])) fun q=>bd (QW fu p q e) fun b=>bd ((if 1<(b.length:Int)then zG d (a.length) fun C=>nm ((a.getD C [])) fun r=>if(b.length:Int)<(r.length:Int)then some (h,e,k,i,j,m,o,l,true)else some (h,e,k,i,j,m,o,l,false)else some (h,e,k,i,j,m,o,l,false):Option ((List (List Int))×Int×(List Int)×Int×(List Int)×(List (List Int))×Int×Int×Bool))) fun(E,s,G,P,H,I,Q,R,J)=>if J then zG d (a.length) fun K=>nm ((a.getD K [])) fun t=>bd (K7 fu t b s) fun f=>ck ((a.length+([f]).length)*24<=140737488355328)<|nm (a++([f])) fun g=>zG d (g.length) fun M=>nm (g.set M b) fun u=>ze (d+1) fun N=>L (u,N)else ze (d+1) fun O=>L (a,O)else some (.inr a)
def Xp(l:Int)(m:List Int)(j:Int)(a:List (List Int)):(((List (List Int))×Int×(List Int)×(List (List Int))×Int)->Option ((List (List Int))⊕((List (List Int))×Int×(List Int)×(List (List Int)))))->((List (List Int))×Int×(List Int)×(List (List Int))×Int)->Option ((List (List Int))⊕((List (List Int))×Int×(List Int)×(List (List Int)))):=fun L (d,e,f,k,b)=>bd ((if b<(a.length:Int)then some ((j,a,(a.length:Int),true))else some ((j,a,(a.length:Int),false)):Option (Int×(List (List Int))×Int×Bool))) fun(o,g,p,q)=>if q then zG b (g.length) fun r=>nm (g.getD r []) fun s=>bd (zj (Xg fu l m d e f b o g p s) fu ((k,(0:Int)))) fun t=>match t with
 | .inl h=>some (.inl h)
 | .inr i=>ze (b+1) fun u=>L (d,e,f,i,u)else some (.inr (d,e,f,k))
def Xj(a:List (List Int))(b:Int)(d:List Int):(((List (List Int))×Int)->Option (List (List Int)))->((List (List Int))×Int)->Option (List (List Int)):=fun L (h,e)=>ze (b+((d.length:Int))) fun j=>if e<j then j8 (1:Int) fun i=>ck (i<=a.length)<|nm (a.drop i) fun k=>bd (zj (Xp fu b d e k) fu ((a,b,d,h,(0:Int)))) fun l=>match l with
 | .inl f=>some f
 | .inr (m,o,p,g)=>ze (e+1) fun q=>L (g,q)else some h
def Ys(b:List Int)(d:List (List Int))(e:Int)(f:List Int):Option (List (List Int)):=bd (zj (Xj fu d e f) fu (([b],(0:Int)))) fun a=>some a
def v7(e:List Int)(b:Int):Option ((List Int)×Int):=bd (wg fu b) fun d=>if d=0 then bd (zO fu e b) fun a=>if(a.length:Int)=0 then some (([],(0:Int)))else ze (((a.length:Int))-1) fun f=>zG f (a.length) fun g=>nm ((a.getD g 0)) fun h=>bd (vi fu a h b) fun i=>some ((i,(0:Int)))else some ([],d)
def QM(d:List Int)(e:Int):Option ((List Int)×Int):=bd (v7 fu d e) fun(a,b)=>if b=0 then if(a.length:Int)=0 then some (([],(8:Int)))else if 65<(a.length:Int)then some (([],(6:Int)))else some ((a,(0:Int)))else some ([],b)
def Ju(fu:Nat)(f:Int)(e:List Int):(((List Int)×Int×(List Int))->Option (List Int))->((List Int)×Int×(List Int))->Option (List Int):=fun L (b,a,d)=>bd ((if a<(e.length:Int)then some ((f,(e.length:Int),true))else some ((f,(e.length:Int),false)):Option (Int×Int×Bool))) fun(g,q,i)=>if i then zG a (d.length) fun j=>nm ((d.getD j 0)) fun k=>if 0<a then ck (g≠0)<|nm (xbX a g) fun l=>ze (l*k) fun h=>ck ((b.length+([h]).length)*8<=140737488355328)<|nm (b++([h])) fun m=>ze (a+1) fun o=>L (m,o,d)else ze (a+1) fun p=>L (b,p,d)else some b
def Yp(e:List Int)(a:Int):Option ((List Int)×Int):=bd (wg fu a) fun b=>if b=0 then bd (zO fu e a) fun d=>bd (zj (Ju fu a d) fu (([],(0:Int),d))) fun f=>bd (zO fu f a) fun g=>some ((g,(0:Int)))else some ([],b)
def XG(d:List Int)(e:Int):Option ((List Int)×Int):=bd (v7 fu d e) fun(a,b)=>if b=0 then if(a.length:Int)=0 then some (([],(8:Int)))else some (a,b)else some (a,b)
def uG(e:List Int)(a:Int):Option (Bool×Int):=bd (XG fu e a) fun(b,d)=>if d=0 then bd (Yp fu b a) fun(f,h)=>bd (qF fu b f a) fun(g,i)=>if(g.length:Int)=1 then some ((true,(0:Int)))else some ((false,(0:Int)))else some (false,d)
def jb(e:List Int)(a:Int):Option ((List Int)×Int):=bd (QM fu e a) fun(b,d)=>if d=0 then bd (uG fu b a) fun(f,g)=>if !f then some (([],(1:Int)))else some ((b,(0:Int)))else some ([],d)
def qW(a:Nat):Option Int:=bd (xp fu a) fun b=>some b
def wv(fu:Nat)(g:(List Int)->(List Int)->Option Int):((Int×Int×Int×(List (List Int)))->Option (Int×Int×(List (List Int))))->(Int×Int×Int×(List (List Int)))->Option (Int×Int×(List (List Int))):=fun L (d,e,b,a)=>if d<b then zG b (a.length) fun h=>nm ((a.getD h [])) fun i=>ze (b-1) fun j=>zG j (a.length) fun k=>nm ((a.getD k [])) fun l=>bd (g i l) fun m=>if m<0 then ze (b-1) fun o=>ze (b-1) fun p=>zG p (a.length) fun q=>nm ((a.getD q [])) fun r=>zG b (a.length) fun s=>nm ((a.getD s [])) fun t=>zG b (a.length) fun u=>nm (a.set u r) fun f=>zG o (f.length) fun v=>nm (f.set v t) fun w=>ze (b-1) fun x=>L (d,e,x,w)else some (d,e,a)else some (d,e,a)
def xd(e:Int)(b:Int)(f:(List Int)->(List Int)->Option Int):((Int×(List (List Int)))->Option (List (List Int)))->(Int×(List (List Int)))->Option (List (List Int)):=fun L (a,d)=>if a<b then bd (zj (wv fu f) fu (e,b,a,d)) fun(i,j,g)=>ze (a+1) fun h=>L (h,g)else some d
def xk(d:List (List Int))(b:Int)(e:Int)(f:(List Int)->(List Int)->Option Int):Option (List (List Int)):=ze (b+1) fun g=>bd (zj (xd fu b e f) fu (g,d)) fun a=>some a
def vA(d:(List Int)->(List Int)->Option Int):((Int×Int×Int×(List (List Int)))->Option (List (List Int)))->(Int×Int×Int×(List (List Int)))->Option (List (List Int)):=fun L (a,b,e,f)=>ze (b-a) fun g=>if g<=12 then bd (xk fu f a b d) fun h=>some h else if e=0 then none else none
def qv:Nat->(List (List Int))->Int->Int->Int->((List Int)->(List Int)->Option Int)->Option (List (List Int))
 |0,_,_,_,_,_=>none
 |fu+1,a,b,d,e,f=>bd (zj (vA fu f) fu (b,d,e,a)) fun g=>some g
def xw(a:List (List Int))(b:(List Int)->(List Int)->Option Int):Option (List (List Int)):=nm (fY ((a.length:Int))) fun d=>bd (qW fu d) fun e=>bd (qv fu a (0:Int) ((a.length:Int)) e b) fun f=>some f
def Za(g:List Int)(a:Int)(b:List Int):Option ((List (List Int))×Int):=bd (jb fu g a) fun(d,e)=>if e=0 then if(d.length:Int)=1 then some ([],e)else bd (Zq fu d a) fun h=>nm (min ((b.length:Int)) (64:Int)) fun i=>j8 i fun f=>ck (f<=b.length)<|nm (b.take f) fun j=>bd (Ys fu d h a j) fun k=>bd (xw fu k (fun zx0 zx1=>wz fu zx0 zx1)) fun l=>some ((l,(0:Int)))else some ([],e)
def WQ:(Int->Option Int)->Int->Option Int:=fun L a=>bd (jM fu a) fun b=>if !b then ze (a+1) fun d=>L d else some a
def xJ(a:Int):Option (Int×Int):=if 65521<=a then some (((0:Int),(5:Int)))else nm (max a (1:Int)) fun b=>ze (b+1) fun d=>bd (zj (WQ fu) fu d) fun e=>some ((e,(0:Int)))
def X8(a:List Zr)(b:Int):Option (Bool×Int):=bd (wo fu a) fun(i,d)=>if d=0 then bd (jM fu b) fun f=>if !f then some ((false,(0:Int)))else bd (jO fu a b) fun(e,j)=>bd (zJ fu a) fun g=>if(e.length:Int)=(g.length:Int)then bd (uG fu e b) fun(h,k)=>some ((h,(0:Int)))else some ((false,(0:Int)))else some (false,d)
def WC(m:List Zr)(o:List Int):((Int×Int×(List (List Int))×Int×Int)->Option (Int×(List (List Int))))->(Int×Int×(List (List Int))×Int×Int)->Option (Int×(List (List Int))):=fun L (b,e,d,a,p)=>if p=0 then if e<5 then bd (X8 fu m a) fun(q,v)=>if !q then bd (xJ fu a) fun(r,s)=>L (b,e,d,r,s)else ze (e+1) fun f=>bd (jO fu m a) fun(t,w)=>bd (Za fu t a o) fun(g,x)=>if b=0 then bd (xJ fu a) fun(u,h)=>L (a,f,g,u,h)else if(g.length:Int)<(d.length:Int)then bd (xJ fu a) fun(i,j)=>L (a,f,g,i,j)else bd (xJ fu a) fun(k,l)=>L (b,f,d,k,l)else some (b,d)else some (b,d)
def X6(a:List Zr)(b:List Int):Option (Int×(List (List Int))):=bd (xJ fu (1:Int)) fun(d,e)=>bd (zj (WC fu a b) fu (((0:Int),(0:Int),[],d,e))) fun(f,g)=>some (f,g)
def dP(a:Int):((Int×Zr×Zr)->Option (Zr×Zr))->(Int×Zr×Zr)->Option (Zr×Zr):=fun L (b,d,e)=>bd ((if b<a then some (a,a,true)else some (a,a,false):Option (Int×Int×Bool))) fun(f,q,g)=>if g then ze (f+b) fun h=>ze (h+1) fun i=>bd (zX fu i) fun j=>bd (zL fu e j) fun k=>ze (b+1) fun l=>bd (zX fu l) fun m=>bd (qU fu k m) fun(o,r)=>ze (b+1) fun p=>L (p,d,o)else some (d,e)
def Kb(a:Int):Option Zr:=bd (zX fu (1:Int)) fun b=>bd (zj (dP fu a) fu (((0:Int),(false,[]),b))) fun(e,d)=>some d
def gy:((Int×Zr×Zr)->Option Zr)->(Int×Zr×Zr)->Option Zr:=fun L (b,a,d)=>if 0<b then nm (Hz b (1:Int)) fun e=>if e=1 then bd (zL fu d a) fun f=>bd (zL fu a a) fun g=>nm (xfM b (2^(min (((1:Nat)):Int).toNat 64))) fun h=>L (h,g,f)else bd (zL fu a a) fun i=>nm (xfM b (2^(min (((1:Nat)):Int).toNat 64))) fun j=>L (j,i,d)else some d
def kL(a:Zr)(b:Int):Option Zr:=bd (zX fu (1:Int)) fun d=>bd (zj (gy fu) fu (b,a,d)) fun e=>some e
def gB(a:List Zr)(d:List Zr):((Int×Zr×Zr)->Option (Zr×Zr))->(Int×Zr×Zr)->Option (Zr×Zr):=fun L (b,e,f)=>bd ((if b<(a.length:Int)then some ((d,a,(a.length:Int),true))else some ((d,a,(a.length:Int),false)):Option ((List Zr)×(List Zr)×Int×Bool))) fun(g,h,r,i)=>if i then zG b (h.length) fun j=>nm (h.getD j (false,[])) fun k=>zG b (g.length) fun l=>nm (g.getD l (false,[])) fun m=>bd (zL fu k m) fun o=>bd (vb fu f o) fun p=>ze (b+1) fun q=>L (q,e,p)else some (e,f)
def UJ(a:List Zr)(b:List Zr):Option Zr:=bd (zX fu (0:Int)) fun d=>bd (zj (gB fu a b) fu (((0:Int),(false,[]),d))) fun(f,e)=>some e
def UM(a:List Zr)(b:List Zr):Option (Zr×Int):=if(a.length:Int)=(b.length:Int)then bd (UJ fu a b) fun d=>some ((d,(0:Int)))else some (((false,[]),(1:Int)))
def KD(a:List Zr):Option Zr:=bd (UM fu a a) fun(b,d)=>some b
def oh(f:Zr)(a:Zr):((Int×Zr)->Option (Unit⊕Int))->(Int×Zr)->Option (Unit⊕Int):=fun L (b,e)=>if b<=1000 then bd (qO fu e f) fun g=>if 0<g then some (.inr b)else bd (zL fu e a) fun d=>ze (b+1) fun h=>L (h,d)else some (.inl ())
def cj(g:List Zr)(h:Int)(d:Int):Option (Int×Int):=bd (wo fu g) fun(A,i)=>if i=0 then bd (wk fu g) fun j=>ze (((j.length:Int))-1) fun a=>bd (jM fu h) fun k=>if !k then some (((0:Int),(1:Int)))else if d<1 then some (((0:Int),(1:Int)))else if a<d then some (((0:Int),(1:Int)))else ze (a-1) fun e=>bd (zX fu (2:Int)) fun l=>ze (e*a) fun m=>bd (kL fu l m) fun o=>bd (Kb fu e) fun p=>bd (kL fu p a) fun q=>bd (KD fu j) fun r=>ze (e+a) fun s=>bd (kL fu r s) fun t=>bd (zL fu q t) fun u=>bd (zL fu o u) fun v=>bd (zX fu h) fun f=>ze ((2:Int)*d) fun w=>bd (kL fu f w) fun b=>bd (zj (oh fu v b) fu (((1:Int),b))) fun x=>match x with
 | .inl _=>some (((0:Int),(6:Int)))
 | .inr y=>some ((y,(0:Int)))else some (((0:Int),i))
def ie(a:List Int)(b:List Int)(d:Int):Option Bool:=bd (qH fu b a d) fun(f,e,g)=>if(e.length:Int)=0 then some true else some false
def Xo(e:Int):(((List Zr)×(List (List Int)))->Option ((List Zr)×(List (List Int))))->((List Zr)×(List (List Int)))->Option ((List Zr)×(List (List Int))):=fun L (b,a)=>if 12<(a.length:Int)then zG 0 (a.length) fun f=>nm (a.getD f []) fun g=>ze (((g.length:Int))-1) fun h=>bd (cj fu b e h) fun(i,j)=>if j=0 then bd (vS fu b a e i) fun(d,l)=>if(d.length:Int)=0 then some (b,a)else zG 0 (d.length) fun k=>nm ((d.getD k [])) fun m=>none else some (b,a)else some (b,a)
def Yu(a:List Zr)(b:List (List Int))(d:Int):Option ((List (List Zr))×(List Zr)×(List (List Int))):=bd (zj (Xo fu d) fu (a,b)) fun(e,f)=>some ([],e,f)
def xI(fu:Nat)(g:(List Zr)->(List Zr)->Option Int):((Int×Int×Int×(List (List Zr)))->Option (Int×Int×(List (List Zr))))->(Int×Int×Int×(List (List Zr)))->Option (Int×Int×(List (List Zr))):=fun L (d,e,b,a)=>if d<b then zG b (a.length) fun h=>nm ((a.getD h [])) fun i=>ze (b-1) fun j=>zG j (a.length) fun k=>nm ((a.getD k [])) fun l=>bd (g i l) fun m=>if m<0 then ze (b-1) fun o=>ze (b-1) fun p=>zG p (a.length) fun q=>nm ((a.getD q [])) fun r=>zG b (a.length) fun s=>nm ((a.getD s [])) fun t=>zG b (a.length) fun u=>nm (a.set u r) fun f=>zG o (f.length) fun v=>nm (f.set v t) fun w=>ze (b-1) fun x=>L (d,e,x,w)else some (d,e,a)else some (d,e,a)
def yW(e:Int)(b:Int)(f:(List Zr)->(List Zr)->Option Int):((Int×(List (List Zr)))->Option (List (List Zr)))->(Int×(List (List Zr)))->Option (List (List Zr)):=fun L (a,d)=>if a<b then bd (zj (xI fu f) fu (e,b,a,d)) fun(i,j,g)=>ze (a+1) fun h=>L (h,g)else some d
def y6(d:List (List Zr))(b:Int)(e:Int)(f:(List Zr)->(List Zr)->Option Int):Option (List (List Zr)):=ze (b+1) fun g=>bd (zj (yW fu b e f) fu (g,d)) fun a=>some a
def wI(d:(List Zr)->(List Zr)->Option Int):((Int×Int×Int×(List (List Zr)))->Option (List (List Zr)))->(Int×Int×Int×(List (List Zr)))->Option (List (List Zr)):=fun L (a,b,e,f)=>ze (b-a) fun g=>if g<=12 then bd (y6 fu f a b d) fun h=>some h else if e=0 then none else none
def vj:Nat->(List (List Zr))->Int->Int->Int->((List Zr)->(List Zr)->Option Int)->Option (List (List Zr))
 |0,_,_,_,_,_=>none
 |fu+1,a,b,d,e,f=>bd (zj (wI fu f) fu (b,d,e,a)) fun g=>some g
def yn(a:List (List Zr))(b:(List Zr)->(List Zr)->Option Int):Option (List (List Zr)):=nm (fY ((a.length:Int))) fun d=>bd (qW fu d) fun e=>bd (vj fu a (0:Int) ((a.length:Int)) e b) fun f=>some f
def XW(a:List Zr)(h:List Int):Option ((List (List Zr))×Bool):=if(a.length:Int)<2 then some ([],true)else bd (XD fu a) fun i=>if i then some ([],false)else bd (X6 fu a h) fun(b,j)=>if b=0 then some ([],false)else bd (Yh fu a b) fun f=>bd (vf fu b f) fun(k,r)=>bd (Yu fu a j b) fun(d,e,l)=>if 1<(e.length:Int)then bd (vS fu e l b f) fun(m,s)=>bd (kM fu e m k) fun g=>ck ((d.length+g.length)*24<=140737488355328)<|nm (d++g) fun o=>bd (yn fu o (fun zx0 zx1=>qs fu zx0 zx1)) fun p=>some (p,true)else bd (yn fu d (fun zx0 zx1=>qs fu zx0 zx1)) fun q=>some (q,true)
def KO(d:Zr)(e:Int):((Int×Zr)->Option Zr)->(Int×Zr)->Option Zr:=fun L (a,b)=>if a<e then bd (zL fu b d) fun f=>ze (a+1) fun g=>L (g,f)else some b
def XJ(a:Zr)(b:Int):Option Zr:=bd (zX fu (1:Int)) fun d=>bd (zj (KO fu a b) fu (((0:Int),d))) fun e=>some e
def Y8(m:Zr):(((List Zr)×(List Zr)×Int×(List Zr))->Option ((List Zr)×(List Zr)))->((List Zr)×(List Zr)×Int×(List Zr))->Option ((List Zr)×(List Zr)):=fun L (d,b,a,f)=>if 0<=a then ze (a+((d.length:Int))) fun o=>if(b.length:Int)<o then ze (a-1) fun p=>L (d,b,p,f)else ze (a+((d.length:Int))) fun q=>ze (q-1) fun r=>zG r (b.length) fun s=>nm ((b.getD s (false,[]))) fun t=>bd (qU fu t m) fun(u,v)=>zG a (f.length) fun w=>nm (f.set w u) fun g=>j8 a fun k=>ck (32*k<=281474976710656)<|nm (xae k (false,[])) fun l=>zG a (g.length) fun x=>nm ((g.getD x (false,[]))) fun y=>bd (wQ fu d y) fun e=>ck ((l.length+e.length)*32<=140737488355328)<|nm (l++e) fun h=>bd (qE fu b h) fun i=>ze (a-1) fun j=>L (d,i,j,g)else some (b,f)
def Yo(j:List Zr)(k:List Zr):Option ((List Zr)×(List Zr)×Int):=bd (zJ fu j) fun g=>bd (zJ fu k) fun a=>if(a.length:Int)=0 then some (([],[],(3:Int)))else ze (((g.length:Int))-((a.length:Int))) fun l=>ze (l+1) fun m=>nm (max m (0:Int)) fun b=>ze (((a.length:Int))-1) fun o=>zG o (a.length) fun p=>nm ((a.getD p (false,[]))) fun h=>bd (XJ fu h b) fun q=>bd (wQ fu g q) fun r=>j8 b fun i=>ck (32*i<=281474976710656)<|nm (xae i (false,[])) fun s=>ze (b-1) fun t=>bd (zj (Y8 fu h) fu (a,r,t,s)) fun(d,e)=>bd (zJ fu e) fun f=>some ((f,d,(0:Int)))
def Q3:(((List Zr)×(List Zr))->Option (List Zr))->((List Zr)×(List Zr))->Option (List Zr):=fun L (b,a)=>if 0<(a.length:Int)then bd (Yo fu b a) fun(f,d,g)=>bd (wk fu d) fun e=>L (a,e)else some b
def QK(a:List Zr)(b:List Zr):Option (List Zr):=bd (wE fu a) fun d=>bd (wE fu b) fun e=>bd (WE fu d e) fun f=>bd (wk fu a) fun g=>bd (wk fu b) fun h=>bd (zj (Q3 fu) fu (g,h)) fun i=>bd (wQ fu i f) fun j=>some j
def Xi(a:Int)(b:Zr):Option Zr:=bd (zX fu a) fun d=>bd (zL fu b d) fun e=>some e
def Yj(d:List Zr):Option (List Zr):=bd (zB fu d (fun zx0 zx1=>Xi fu zx0 zx1)) fun a=>nm (min ((a.length:Int)) (1:Int)) fun e=>j8 e fun b=>ck (b<=a.length)<|nm (a.drop b) fun f=>bd (zJ fu f) fun g=>some g
def fi(a:List Zr)(b:List Zr):Option (List Zr):=bd (wA fu a b) fun(d,e)=>some d
def wu(b:List Zr):Option ((List Zr)×Int):=bd (Zl fu b) fun d=>if d=0 then bd (wk fu b) fun a=>bd (Yj fu a) fun e=>bd (QK fu a e) fun f=>bd (fi fu a f) fun g=>some ((g,(0:Int)))else some ([],d)
def Yb(g:List Zr)(a:List (List Zr)):(((List ((List Zr)×Int))×Int×Zr×(List (List Zr)))->Option ((List ((List Zr)×Int))×Zr))->((List ((List Zr)×Int))×Int×Zr×(List (List Zr)))->Option ((List ((List Zr)×Int))×Zr):=fun L (b,d,h,e)=>bd ((if d<(a.length:Int)then some ((g,(a.length:Int),true))else some ((g,(a.length:Int),false)):Option ((List Zr)×Int×Bool))) fun(j,p,k)=>if k then zG d (e.length) fun l=>nm ((e.getD l [])) fun f=>bd (u6 fu j f) fun i=>ck ((b.length+([(f,i)]).length)*32<=140737488355328)<|nm (b++([(f,i)])) fun m=>ze (d+1) fun o=>L (m,o,h,e)else some (b,h)
def yj(a:List Zr)(e:List Int):Option (Zr×(List ((List Zr)×Int))×Int):=bd (wu fu a) fun(f,b)=>if b=0 then bd (XW fu f e) fun(d,g)=>if !g then some (((false,[]),[],(6:Int)))else bd (zj (Yb fu a d) fu (([],(0:Int),(false,[]),d))) fun(h,i)=>bd (wE fu a) fun j=>some ((j,h,(0:Int)))else some (((false,[]),[],b))
def WX(d:List Zr):Option (Bool×Int):=bd (yj fu d []) fun(g,b,a)=>if a=0 then if(b.length:Int)=1 then zG 0 (b.length) fun e=>nm (((b.getD e ([],0))).2) fun f=>if f=1 then some (true,a)else some (false,a)else some (false,a)else some (false,a)
def Zz(fu:Nat):((Int×Int×(List Nat))->Option (List Nat))->(Int×Int×(List Nat))->Option (List Nat):=fun L (b,d,a)=>if b<d then zG d (a.length) fun f=>nm ((a.getD f 0)) fun g=>zG b (a.length) fun h=>nm ((a.getD h 0)) fun i=>zG b (a.length) fun j=>nm (a.set j g) fun e=>zG d (e.length) fun k=>nm (e.set k i) fun l=>ze (b+1) fun m=>ze (d-1) fun o=>L (m,o,l)else some a
def qG(a:List Nat):Option (List Nat):=ze (((a.length:Int))-1) fun b=>bd (zj (Zz fu) fu (((0:Int),b,a))) fun d=>some d
def ov(fu:Nat)(f:Bool):((Nat×(List Nat))->Option (List Nat))->(Nat×(List Nat))->Option (List Nat):=fun L (b,a)=>if(((0:Nat):Nat):Int)<(b:Int)then ck ((10:Nat)≠0)<|nm (b % ((10:Nat))) fun g=>nm ((((48:Nat))+g) % 18446744073709551616) fun h=>nm (h % 256) fun d=>ck ((a.length+([d]).length)*1<=140737488355328)<|nm (a++([d])) fun i=>ck ((10:Nat)≠0)<|nm (b/((10:Nat))) fun j=>L (j,i)else if f then if(a.length:Int)<19 then ck ((10:Nat)≠0)<|nm (b % ((10:Nat))) fun k=>nm ((((48:Nat))+k) % 18446744073709551616) fun l=>nm (l % 256) fun e=>ck ((a.length+([e]).length)*1<=140737488355328)<|nm (a++([e])) fun m=>ck ((10:Nat)≠0)<|nm (b/((10:Nat))) fun o=>L (o,m)else some a else some a
def QD(a:Nat)(b:Bool):Option (List Nat):=bd (zj (ov fu b) fu (a,[])) fun d=>bd (qG fu d) fun e=>some e
def kQ(fu:Nat):((Int×Int×(List (List Nat)))->Option (List (List Nat)))->(Int×Int×(List (List Nat)))->Option (List (List Nat)):=fun L (b,d,a)=>if b<d then zG d (a.length) fun f=>nm ((a.getD f [])) fun g=>zG b (a.length) fun h=>nm ((a.getD h [])) fun i=>zG b (a.length) fun j=>nm (a.set j g) fun e=>zG d (e.length) fun k=>nm (e.set k i) fun l=>ze (b+1) fun m=>ze (d-1) fun o=>L (m,o,l)else some a
def vo(a:List (List Nat)):Option (List (List Nat)):=ze (((a.length:Int))-1) fun b=>bd (zj (kQ fu) fu (((0:Int),b,a))) fun d=>some d
def J1(fu:Nat)(a:List (List Nat))(b:List Nat):Option (List Nat):=ck (a.length<=140737488355328)<|ck ((b.intercalate a).length<=140737488355328)<|some (b.intercalate a)
def CT:(((List Nat)×(List (List Nat)))->Option (List (List Nat)))->((List Nat)×(List (List Nat)))->Option (List (List Nat)):=fun L (d,a)=>if 0<(d.length:Int)then bd (Y2 fu d (10000000000000000000:Nat)) fun(b,e)=>if 0<(b.length:Int)then bd (QD fu e true) fun f=>ck ((a.length+([f]).length)*16<=140737488355328)<|nm (a++([f])) fun h=>L (b,h)else bd (QD fu e false) fun g=>ck ((a.length+([g]).length)*16<=140737488355328)<|nm (a++([g])) fun i=>L (b,i)else some a
def aQ(e:List Nat):Option (List Nat):=bd (xn fu e) fun f=>bd (zj (CT fu) fu (f,[])) fun d=>if(d.length:Int)=0 then some [48]else bd (vo fu d) fun a=>bd (J1 fu a []) fun b=>some b
def fT(a:Zr):Option (List Nat):=bd (xq fu a) fun d=>if d<0 then bd (aQ fu a.2) fun b=>ck (([45]).length+b.length<=9223372036854775807)<|nm (([45])++b) fun e=>some e else bd (aQ fu a.2) fun f=>some f
def VQ:Option Bool:=bd (Z8 fu [(-1:Int),(-1:Int),(6:Int)]) fun a=>bd (yj fu a []) fun(b,d,e)=>bd (Z8 fu [(1:Int),(0:Int),(0:Int),(0:Int),(1:Int)]) fun f=>bd (WX fu f) fun(g,h)=>if e=0 then bd (fT fu b) fun i=>if i=[49]then bd (aa fu [(-1:Int),(2:Int)]) fun j=>bd (aa fu [(1:Int),(3:Int)]) fun k=>bd (Zi fu d [(j,(1:Int)),(k,(1:Int))]) fun l=>if l then if h=0 then some g else some false else some false else some false else some false
def Jo(fu:Nat)(d:Int)(a:List Zr):(Int->Option (Unit⊕Unit))->Int->Option (Unit⊕Unit):=fun L b=>if b<(a.length:Int)then zG b (a.length) fun e=>nm (a.getD e (false,[])) fun f=>if d<(f.2.length:Int)then some (.inr ())else ze (b+1) fun g=>L g else some (.inl ())
def kO(b:Int)(d:Int)(a:List Zr):Option Bool:=if b<(a.length:Int)then some false else bd (zj (Jo fu d a) fu (0:Int)) fun e=>match e with
 | .inl _=>some true
 | .inr _=>some false
def jm(b:List Zr)(d:List Int)(e:List Int):Option Bool:=bd (VQ fu) fun a=>bd (kO fu (9:Int) (1:Int) b) fun f=>if !f then some a else if 20<(d.length:Int)then some a else if 20<(e.length:Int)then some a else bd (yj fu b d) fun(l,g,h)=>bd (yj fu b e) fun(m,i,j)=>if a then if h=j then bd (Zi fu g i) fun k=>some k else some false else some false
end
end
section
set_option maxRecDepth 100000
section
variable(fu:Nat)
def IU(fu:Nat)(b:Int):(((List Int)×Int)->Option (List Int))->((List Int)×Int)->Option (List Int):=fun L (f,a)=>ze (a*a) fun s=>ze (0-b) fun t=>nm (max b t) fun u=>if s<=u then ck (a≠0)<|nm (xbX b a) fun v=>if v=0 then ze (0-a) fun r=>ck ((f.length+([a,r]).length)*8<=140737488355328)<|nm (f++([a,r])) fun h=>bd ((ze (a*a) fun w=>ze (0-b) fun x=>nm (max b x) fun y=>if w=y then some (b,false)else some (b,true):Option (Int×Bool))) fun(g,A)=>if A then ze (0-g) fun i=>nm (max g i) fun j=>ck (a≠0)<|ze (xda j a) fun d=>ze (0-g) fun k=>nm (max g k) fun l=>ze (0-l) fun m=>ck (a≠0)<|ze (xda m a) fun e=>ck ((h.length+([d,e]).length)*8<=140737488355328)<|nm (h++([d,e])) fun B=>ze (a+1) fun o=>L (B,o)else ze (a+1) fun p=>L (h,p)else ze (a+1) fun q=>L (f,q)else some f
def dE(fu:Nat)(k:Int):(((List Int)×Int×(List Int))->Option (((List Int)×(List Int))⊕Unit))->((List Int)×Int×(List Int))->Option (((List Int)×(List Int))⊕Unit):=fun L (d,b,a)=>if k<=b then zG b (d.length) fun l=>nm (d.getD l 0) fun m=>ze (b-k) fun o=>zG o (d.length) fun p=>nm (d.getD p 0) fun q=>ze (m-q) fun e=>zG b (a.length) fun r=>nm ((a.getD r 0)) fun s=>ze (b-1) fun t=>zG t (a.length) fun u=>nm ((a.getD u 0)) fun v=>ze (s-v) fun w=>ck (e≠0)<|nm (xbX w e) fun x=>if x=0 then zG b (a.length) fun y=>nm ((a.getD y 0)) fun A=>ze (b-1) fun f=>zG f (a.length) fun B=>nm ((a.getD B 0)) fun g=>ze (A-g) fun h=>ck (e≠0)<|ze (xda h e) fun i=>zG b (a.length) fun C=>nm (a.set C i) fun E=>ze (b-1) fun j=>L (d,j,E)else some (.inr ())else some (.inl (d,a))
def M0(a:List Int):((Int×(List Int))->Option ((List Int)⊕Unit))->(Int×(List Int))->Option ((List Int)⊕Unit):=fun L (b,e)=>if b<(a.length:Int)then ze (((a.length:Int))-1) fun f=>bd (zj (dE fu b) fu (a,f,e)) fun g=>match g with
 | .inl (i,h)=>ze (b+1) fun d=>L (d,h)
 | .inr _=>some (.inr ())else some (.inl e)
def uM(fu:Nat)(b:Int):(Int->Option (Unit⊕Unit))->Int->Option (Unit⊕Unit):=fun L a=>ze (a*a) fun d=>if d<=b then ck (a≠0)<|nm (xbX b a) fun e=>if e=0 then some (.inr ())else ze (a+1) fun f=>L f else some (.inl ())
def U5(a:Int):Option Bool:=if a<2 then some false else if 65521<a then some false else bd (zj (uM fu a) fu (2:Int)) fun b=>match b with
 | .inl _=>some true
 | .inr _=>some false
def kK(a:Int):Option Int:=bd (U5 fu a) fun b=>if !b then some (1:Int)else some (0:Int)
def Vq(fu:Nat)(d:Int)(a:Int):Option Int:=if a<1 then some (0:Int)else ck (a≠0)<|nm (xbX d a) fun b=>if b<0 then ze (b+a) fun e=>some e else some b
def Jn(a:List Int)(f:Int):(((List Int)×Int)->Option (List Int))->((List Int)×Int)->Option (List Int):=fun L (b,d)=>if d<(a.length:Int)then zG d (a.length) fun g=>nm (a.getD g 0) fun h=>bd (Vq fu h f) fun e=>ck ((b.length+([e]).length)*8<=140737488355328)<|nm (b++([e])) fun i=>ze (d+1) fun j=>L (i,j)else some b
def JB(fu:Nat)(b:List Int):(Int->Option Int)->Int->Option Int:=fun L a=>if 0<a then ze (a-1) fun d=>zG d (b.length) fun e=>nm ((b.getD e 0)) fun f=>if f=0 then ze (a-1) fun g=>L g else some a else some a
def vZ(d:List Int)(e:Int):Option (List Int):=bd (zj (Jn fu d e) fu (([],(0:Int)))) fun a=>bd (zj (JB fu a) fu ((a.length:Int))) fun f=>j8 f fun b=>ck (b<=a.length)<|nm (a.take b) fun g=>some g
def Jk(fu:Nat)(e:Int)(h:List Int)(f:List Int):((Int×Int×(List Int))->Option (Int×(List Int)))->(Int×Int×(List Int))->Option (Int×(List Int)):=fun L (d,a,b)=>if a<(f.length:Int)then ze (e+a) fun i=>ze (e+a) fun j=>zG j (b.length) fun k=>nm ((b.getD k 0)) fun l=>zG e (h.length) fun m=>nm ((h.getD m 0)) fun o=>zG a (f.length) fun p=>nm ((f.getD p 0)) fun q=>ze (o*q) fun r=>ze (l+r) fun s=>ck (d≠0)<|nm (xbX s d) fun t=>zG i (b.length) fun u=>nm (b.set u t) fun v=>ze (a+1) fun g=>L (d,g,v)else some (d,b)
def Jl(g:Int):((Int×(List Int)×(List Int)×(List Int))->Option (List Int))->(Int×(List Int)×(List Int)×(List Int))->Option (List Int):=fun L (a,b,e,f)=>if a<(b.length:Int)then bd (zj (Jk fu a b e) fu ((g,(0:Int),f))) fun(i,h)=>ze (a+1) fun d=>L (d,b,e,h)else some f
def VC(h:List Int)(i:List Int)(a:Int):Option (List Int):=bd (vZ fu h a) fun e=>bd (vZ fu i a) fun f=>ze (((e.length:Int))+((f.length:Int))) fun j=>j8 j fun g=>ck (8*g<=281474976710656)<|nm (xae g 0) fun k=>bd (zj (Jl fu a) fu (((0:Int),e,f,k))) fun b=>bd (vZ fu b a) fun d=>some d
def Uy(fu:Nat)(a:Int):((Int×Int×Int)->Option Int)->(Int×Int×Int)->Option Int:=fun L (e,b,d)=>if 0<d then ck ((2:Int)≠0)<|nm (xbX d (2:Int)) fun i=>if i=1 then ze (e*b) fun j=>ck (a≠0)<|nm (xbX j a) fun k=>ze (b*b) fun l=>ck (a≠0)<|nm (xbX l a) fun m=>ck ((2:Int)≠0)<|ze (xda d (2:Int)) fun o=>L (k,m,o)else ze (b*b) fun f=>ck (a≠0)<|nm (xbX f a) fun g=>ck ((2:Int)≠0)<|ze (xda d (2:Int)) fun h=>L (e,g,h)else some e
def KZ(d:Int)(b:Int)(a:Int):Option (Int×Int):=bd (kK fu a) fun e=>if e=0 then if b<0 then some (((0:Int),(1:Int)))else ck (a≠0)<|nm (xbX (1:Int) a) fun f=>bd (Vq fu d a) fun g=>bd (zj (Uy fu a) fu (f,g,b)) fun h=>some ((h,(0:Int)))else some (((0:Int),(1:Int)))
def Xk(b:Int)(a:Int):Option Int:=ze (a-2) fun d=>bd (KZ fu b d a) fun(e,f)=>if a=2 then some (1:Int)else some e
def UW(d:List Int)(b:Int):Option ((List Int)×Int):=bd (kK fu b) fun e=>if e=0 then bd (vZ fu d b) fun a=>if(a.length:Int)=0 then some (([],(0:Int)))else ze (((a.length:Int))-1) fun f=>zG f (a.length) fun g=>nm ((a.getD g 0)) fun h=>bd (Xk fu h b) fun i=>bd (VC fu a [i] b) fun j=>some ((j,(0:Int)))else some (([],(1:Int)))
end
end
section
set_option maxRecDepth 100000
section
variable(fu:Nat)
theorem CG:yw ⟨112,[.d ZI],[.own .u 54],fun x=>dh fu x.1,0⟩:=sq fu ⟨[],[],[(2,⟨⟨[(3,.d .i)],[]⟩,⟨[],[(.x 0,⟨[(3,.d .i)],[]⟩)]⟩⟩)],[],[],[]⟩ Tryz.func112 (cN)
theorem QG:yw ⟨110,[.d zZ],[.d zZ],fun x=>uX fu x.1,0⟩:=sq fu w6 Tryz.func110 (cC (CG fu)<|cN)
theorem GB:yw ⟨55,[.d .i],[.d zZ],fun x=>nS fu x.1,0⟩:=sq fu w6 Tryz.func55 (cC (QG fu)<|cN)
theorem C4:yw ⟨132,[.d zZ],[.d .i],fun x=>cU fu x.1,0⟩:=sq fu w6 Tryz.func132 (cC (QG fu)<|cN)
theorem BH:yw ⟨64,[.d y9],[.own zZ 30],fun x=>a8 fu x.1,0⟩:=sq fu ⟨[],[],[(2,⟨⟨[(3,.d .i)],[]⟩,⟨[],[(.x 0,⟨[(3,.d .i)],[]⟩)]⟩⟩),(6,⟨⟨[(4,.own zZ 30),(5,.d .i)],[]⟩,⟨[],[(.x 2,⟨[(4,.own zZ 30)],[]⟩)]⟩⟩)],[],[],[]⟩ Tryz.func64 (cC (C4 fu)<|cC (QG fu)<|cN)
theorem Ie:yw ⟨50,[.d yO],[.own zZ 30],fun x=>aa fu x.1,0⟩:=sq fu ⟨[],[],[(3,⟨⟨[(3,.own zZ 30),(4,.d .i)],[]⟩,⟨[],[(.x 0,⟨[(3,.own zZ 30)],[]⟩)]⟩⟩)],[],[],[]⟩ Tryz.func50 (cC (BH fu)<|cC (GB fu)<|cN)
theorem Cc:yw ⟨63,[.d ZI,.d ZI],[.d .b],fun x=>Wa fu x.1 x.2.1,0⟩:=sq fu ⟨[],[],[(4,⟨⟨[(5,.d .i)],[]⟩,⟨[],[(.x 0,⟨[],[]⟩),(.r,⟨[],[(4,.kb false)]⟩)]⟩⟩)],[],[],[]⟩ Tryz.func63 (cN)
theorem Cw:yw ⟨17,[.d zZ,.d zZ],[.d .b],fun x=>XF fu x.1 x.2.1,0⟩:=sq fu w6 Tryz.func17 (cC (Cc fu)<|cN)
theorem A6:yw ⟨69,[.d y9,.d y9],[.d .b],fun x=>XN fu x.1 x.2.1,0⟩:=sq fu ⟨[],[],[(4,⟨⟨[(5,.d .i)],[]⟩,⟨[],[(.x 0,⟨[],[]⟩),(.r,⟨[],[(4,.kb false)]⟩)]⟩⟩)],[],[],[]⟩ Tryz.func69 (cC (Cw fu)<|cN)
theorem dD:yw ⟨20,[.d (.l (.p y9 .i)),.d (.l (.p y9 .i))],[.d .b],fun x=>Zi fu x.1 x.2.1,0⟩:=sq fu ⟨[],[],[(4,⟨⟨[(5,.d .i)],[]⟩,⟨[],[(.x 0,⟨[],[]⟩),(.r,⟨[],[(4,.kb false)]⟩)]⟩⟩)],[],[],[]⟩ Tryz.func20 (cC (A6 fu)<|cN)
theorem nT:yw ⟨215,[.d ZI,.d .i],[.d .u],fun x=>YF fu x.1 x.2.1,0⟩:=sq fu w6 Tryz.func215 (cN)
theorem Fc:yw ⟨213,[.d .i,.d .u,.q ZI,.q ZI],[.d .u,.d .u],fun x=>Km fu x.1 x.2.1 x.2.2.1 x.2.2.2.1,0⟩:=sq fu w6 Tryz.func213 (cC (nT fu)<|cN)
theorem kJ:yw ⟨212,[.d .i,.fn [.i,.u] [.u,.u]],[.own .u 54,.d .u],fun x=>wV fu x.1 (fun z0 z1=>x.2.1 (z0,z1,())),0⟩:=sq fu ⟨[],[],[(4,⟨⟨[(7,.d .u),(13,.d .i),(6,.own .u 54)],[]⟩,⟨[],[(.x 0,⟨[(7,.d .u),(6,.own .u 54)],[]⟩)]⟩⟩)],[],[],[]⟩ Tryz.func212 (cN)
theorem xR:yw ⟨157,[.d ZI],[.d ZI],fun x=>xn fu x.1,0⟩:=sq fu ⟨[],[],[(1,⟨⟨[(0,.d ZI)],[]⟩,⟨[],[(.x 0,⟨[(0,.d ZI)],[]⟩)]⟩⟩)],[],[],[]⟩ Tryz.func157 (cN)
theorem yI:yw ⟨157,[.own .u 54],[.own .u 54],fun x=>yJ fu x.1,0⟩:=sq fu ⟨[],[],[(1,⟨⟨[(0,.own .u 54)],[]⟩,⟨[],[(.x 0,⟨[(0,.own .u 54)],[]⟩)]⟩⟩)],[],[],[]⟩ Tryz.func157 (cN)
theorem eO:yw ⟨139,[.d ZI,.d ZI],[.own .u 54],fun x=>j9 fu x.1 x.2.1,0⟩:=sq fu w6 Tryz.func139 (cC (kJ fu)<|cC (Fc fu)<|cC (yI fu)<|cC (xR fu)<|cN)
theorem iu:yw ⟨297,[.d .i],[.d .b],fun x=>kU fu x.1,0⟩:=sq fu w6 Tryz.func297 (cN)
theorem bf:yw ⟨216,[.d .i,.d .i],[.d .i],fun x=>jo fu x.1 x.2.1,0⟩:=sq fu w6 Tryz.func216 (cC (iu fu)<|cN)
theorem U1:yw ⟨298,[.d .u],[.d .b],fun x=>qL fu x.1,0⟩:=sq fu w6 Tryz.func298 (cN)
theorem KT:yw ⟨217,[.d .u,.d .u],[.d .i],fun x=>vJ fu x.1 x.2.1,0⟩:=sq fu w6 Tryz.func217 (cC (U1 fu)<|cN)
theorem Ab:yw ⟨140,[.d ZI,.d ZI],[.d .i],fun x=>Wj fu x.1 x.2.1,0⟩:=sq fu ⟨[],[],[(5,⟨⟨[(5,.d .i)],[]⟩,⟨[],[(.x 0,⟨[],[]⟩),(.r,⟨[(4,.d .i)],[]⟩)]⟩⟩)],[],[],[]⟩ Tryz.func140 (cC (bf fu)<|cC (KT fu)<|cC (yI fu)<|cC (xR fu)<|cN)
set_option maxRecDepth 100000 in
set_option maxHeartbeats 1000000 in
theorem Y6(l:List Nat)(v0:Value)(hd:l.length<=17592186044416):Fn Tryz.prog 220 [v0].toArray [fV (eS eU) (l) v0] (fun u:Value=>u) (fun u=>[fV (eS eU) (l) u]) (fun _=>True):=by
 refine Dh Tryz.func220 rfl rfl fun we Se rest=> ?_;refine SR (fun S w h=>zey h.1) fun hb=> ?_;refine SR (fun S w h=>zan h.1) fun hc=> ?_;refine YN ?_;refine wH ?_;refine tm 1 [(0,v0)] rfl fun rest=> ?_;refine qP ?_;refine YN ?_;refine YN ?_;refine wH ?_;refine tm 1 [(0,v0),(3,v0)] rfl fun rest=> ?_;refine zb8 rfl rfl (zcZ (e:=eU) (xs:=l) Tryz.underlying28 rfl rfl (fun S w h=>h.1)) fun q1 he=> ?_;refine tm 0 [(0,v0),(4,.bool (q1))] rfl fun rest=> ?_;refine qP ?_;refine zfl (q1) rfl (fun ha=> ?_) (fun ha=> ?_)
 ·refine YN ?_;refine wH ?_;refine tm 1 [(2,.slice none 0 0)] rfl fun rest=> ?_;refine qP ?_;refine My ?_;exact zba (.slice none 0 0:Value) Tryz.results220 rfl trivial (fun S w h=>⟨(cvt (show([])=(l)from by first|rfl|simp_all) R7),trivial⟩)
 ·refine BX ?_;refine YN ?_;refine wH ?_;refine Tf (e:=eU) rfl rfl Tryz.underlying28 zgc fun v1=> ?_;refine tm 1 [(5,v1),(6,v0)] rfl fun rest=> ?_;refine NL (e:=eU) (xs:=[]) (ys:=l) 0 rfl rfl Tryz.underlying28 zgc rfl (by decide) rfl rfl rfl (fun S w h=>h.1) (by first|omega|(simp only[xcq,xau,xaT,xav,xay,xbO];omega)|(simp;omega)) (by first|omega|(simp only[xcq,xau,xaT,xav,xay,xbO];omega)|(simp;omega)) fun v2=> ?_;show TL _ _ _ _ [mO eU 54 v2 ([]++l)] _ _ _ _ _;refine tm 1 [(2,v2)] rfl fun rest=> ?_;refine qP ?_;refine My ?_;refine NU (fun w h=>BD 0 h rfl) ?_;exact zba v2 Tryz.results220 rfl trivial (fun S w h=>⟨(cvt (show([]++l)=(l)from by first|rfl|simp_all) h.1),trivial⟩)
theorem Xq(a0:List Nat)(va0:Value)(r0:List Nat)(H:xA fu a0=some r0):Fn Tryz.prog 220 [va0].toArray [fV (eS eU) (a0) va0] (fun u:Value=>u) (fun u=>[fV (eS eU) (r0) u]) (fun _=>True):=by
 obtain⟨hk,H⟩:=kh H;obtain rfl:=zeN H;exact Y6 a0 va0 hk
theorem Xf:yw ⟨220,[.d ZI],[.d ZI],fun x=>xA fu x.1,0⟩:=zes (s:=ZI) (t:=ZI) (by kernel_rfl) fun x r v h=>Xq fu x v r h
theorem U3:yw ⟨144,[.d ZI],[.d ZI],fun x=>ur fu x.1,0⟩:=sq fu w6 Tryz.func144 (cC (Xf fu)<|cC (yI fu)<|cC (xR fu)<|cN)
theorem DM:yw ⟨310,[.d .i,.d .u,.q ZI,.q .i],[.d .u,.d .u],fun x=>JT fu x.1 x.2.1 x.2.2.1 x.2.2.2.1,0⟩:=sq fu w6 Tryz.func310 (cN)
theorem gb:yw ⟨160,[.d ZI,.d .i],[.own .u 54],fun x=>uE fu x.1 x.2.1,0⟩:=sq fu w6 Tryz.func160 (cN)
theorem eZ:yw ⟨251,[.d ZI,.d .i],[.own .u 54,.d .i],fun x=>ZS fu x.1 x.2.1,0⟩:=sq fu ⟨[],[],[],[(4,[23])],[],[]⟩ Tryz.func251 (cC (gb fu)<|cC (kJ fu)<|cC (yI fu)<|cC (xR fu)<|cC (DM fu)<|cN)
theorem EF:yw ⟨344,[.d .i,.d .u,.q ZI,.q .i],[.d .u,.d .u],fun x=>Kn fu x.1 x.2.1 x.2.2.1 x.2.2.2.1,0⟩:=sq fu w6 Tryz.func344 (cC (nT fu)<|cN)
theorem sS:yw ⟨295,[.d ZI,.d .i],[.own .u 54],fun x=>Qv fu x.1 x.2.1,0⟩:=sq fu ⟨[2,3],[],[],[],[],[]⟩ Tryz.func295 (cC (EF fu)<|cC (kJ fu)<|cC (yI fu)<|cC (xR fu)<|cN)
set_option maxRecDepth 100000 in
set_option maxHeartbeats 1000000 in
theorem bM(fu:Nat)(a0:Nat)(qa0:QP a0)(r0:Int)(H:xp fu a0=some r0):Fn Tryz.prog 252 [uv a0].toArray [] (fun _:Unit=>iv (r0)) (fun _=>[]) (fun _=>VM r0):=by
 unfold xp at H;refine Dh Tryz.func252 rfl rfl fun we Se rest=>YN<|wH<|u5 1 [(2,iv 0)] rfl<|qP<|YN ?_
 obtain⟨s1,hL,Hc⟩:=ny H;refine T_X [(.n,JQ we Se (G:=Nat×Int) (fun(d1,i1)=>(⟨[],[],[(0,uv d1),(2,iv (i1))]⟩:Inv)) (fun(d1,i1)=>(d1,i1)=s1/\QP d1/\VM i1))] ?_ ⟨?_,trivial⟩
 ·replace H:=hL
  refine YN<|wH<|u5 1 [(3,uv a0)] rfl<|Ix rfl rfl rfl rfl (fun h1=> ?_) (fun h1=> ?_)
  ·replace H:=zek h1 H
   refine qP<|Vd rfl<|YN<|wH<|u5 1 [(5,uv a0)] rfl ?_
   obtain⟨m1,hf,H⟩:=xm H
   refine kF rfl rfl (mH (c:=(m1:Int)) rfl rfl (xdb _) (Oo hf (cR (a:=a0))))<|u5 1 [(0,uv m1)] rfl<|qP<|wH<|u5 1 [(2,iv 32)] rfl<|qP ?_
   exact Mi (m1,32) (xfr (xcY H) (xfr (oD qa0 hf) (show VM (32)by decide))) rfl (fun w h=>St.weak h (fun S w h=>trivial))
  replace H:=zec h1 H
  refine qP<|XH rfl<|BX ?_
  exact Mi (a0,0) (xfr (xcY H) (xfr qa0 (show VM (0)by decide))) rfl (fun w h=>St.weak h (fun S w h=>trivial))
 refine zax ?_;rintro⟨d1,i1⟩ ⟨hs,hg,hm⟩ rest;subst hs;replace H:=Hc;clear hL;refine zdl rfl<|YN ?_
 obtain⟨s2,hL,Hc⟩:=ny H;refine T_X [(.n,JQ we Se (G:=Nat×Int) (fun(d2,i2)=>(⟨[],[],[(0,uv d2),(2,iv (i2))]⟩:Inv)) (fun(d2,i2)=>(d2,i2)=s2/\QP d2/\VM i2))] ?_ ⟨?_,trivial⟩
 ·replace H:=hL
  refine YN<|wH<|u5 1 [(7,uv d1)] rfl<|Ix rfl rfl rfl rfl (fun h2=> ?_) (fun h2=> ?_)
  ·replace H:=zek h2 H
   refine qP<|Vd rfl<|YN<|wH<|u5 1 [(9,uv d1)] rfl ?_
   obtain⟨m2,hi,H⟩:=xm H
   refine kF rfl rfl (mH (c:=(m2:Int)) rfl rfl (xdb _) (Oo hi (cR (a:=d1))))<|u5 1 [(0,uv m2)] rfl<|qP<|wH<|u5 1 [(11,iv (i1))] rfl ?_
   obtain⟨x1,hn,ha,H⟩:=Wk H
   refine kF rfl rfl (pz (c:=x1) rfl rfl (w_x hn ha))<|u5 1 [(2,iv (x1))] rfl<|qP ?_
   exact Mi (m2,x1) (xfr (xcY H) (xfr (oD hg hi) ha)) rfl (fun w h=>St.weak h (fun S w h=>trivial))
  replace H:=zec h2 H
  refine qP<|XH rfl<|BX ?_
  exact Mi (d1,i1) (xfr (xcY H) (xfr hg hm)) rfl (fun w h=>St.weak h (fun S w h=>trivial))
 refine zax ?_;rintro⟨d2,i2⟩ ⟨hs,ht,hu⟩ rest;subst hs;replace H:=Hc;clear hL;refine zdl rfl<|YN<|YN<|wH<|u5 1 [(13,uv d2)] rfl<|Ix rfl rfl rfl rfl (fun h3=> ?_) (fun h3=> ?_)
 ·replace H:=zek h3 H
  refine qP<|Vd rfl<|YN<|wH<|u5 1 [(15,uv d2)] rfl ?_
  obtain⟨m3,ho,H⟩:=xm H
  refine kF rfl rfl (mH (c:=(m3:Int)) rfl rfl (xdb _) (Oo ho (cR (a:=d2))))<|u5 1 [(0,uv m3)] rfl<|qP<|wH<|u5 1 [(17,iv (i2))] rfl ?_
  obtain⟨x2,hp,hj,H⟩:=Wk H
  refine kF rfl rfl (pz (c:=x2) rfl rfl (w_x hp hj))<|u5 1 [(2,iv (x2))] rfl<|qP<|YN<|wH<|u5 2 [(20,uv m3),(19,iv (x2))] rfl ?_
  obtain⟨m4,hd,H⟩:=xm H
  refine kF rfl rfl (Xr (c:=(m4:Int)) Tryz.underlying54 Tryz.underlying5 rfl (ab hd (wu8 _))) ?_
  obtain⟨m5,hk,H⟩:=xm H
  refine kF rfl rfl (O8 (z:=m5) Tryz.underlying9 rfl (by kernel_rfl) rfl (Da hd) hk)<|kF rfl rfl (Xr (c:=(m5:Int)) Tryz.underlying5 Tryz.underlying3 rfl (w64 (b_r (td (Da hd) hk)))) ?_
  obtain⟨x3,hq,hb,H⟩:=Wk H
  refine kF rfl rfl (pz (c:=x3) rfl rfl (w_x hq hb))<|u5 1 [(2,iv (x3))] rfl<|qP<|My ?_
  obtain rfl:=zeN H
  exact zba () Tryz.results252 rfl hb (fun S w h=>trivial)
 replace H:=zec h3 H;refine qP<|XH rfl<|BX<|YN<|wH<|u5 2 [(20,uv d2),(19,iv (i2))] rfl ?_
 obtain⟨m6,he,H⟩:=xm H;refine kF rfl rfl (Xr (c:=(m6:Int)) Tryz.underlying54 Tryz.underlying5 rfl (ab he (wu8 _))) ?_;obtain⟨m7,hl,H⟩:=xm H;refine kF rfl rfl (O8 (z:=m7) Tryz.underlying9 rfl (by kernel_rfl) rfl (Da he) hl)<|kF rfl rfl (Xr (c:=(m7:Int)) Tryz.underlying5 Tryz.underlying3 rfl (w64 (b_r (td (Da he) hl)))) ?_
 obtain⟨x4,hr,hc,H⟩:=Wk H;refine kF rfl rfl (pz (c:=x4) rfl rfl (w_x hr hc))<|u5 1 [(2,iv (x4))] rfl<|qP<|My ?_
 obtain rfl:=zeN H;exact zba () Tryz.results252 rfl hc (fun S w h=>trivial)
theorem Zv:yw ⟨252,[.d .u],[.d .i],fun x=>xp fu x.1,0⟩:=zeP (by kernel_rfl) fun x r hx h=>bM fu x hx r h
theorem jR:yw ⟨293,[.d .u],[.d .i],fun x=>y8 fu x.1,0⟩:=sq fu w6 Tryz.func293 (cC (Zv fu)<|cN)
theorem Vt:yw ⟨227,[.d .u,.d .u,.d .u],[.d .u,.d .u],fun x=>vz fu x.1 x.2.1 x.2.2.1,0⟩:=sq fu ⟨[],[],[(17,⟨⟨[(15,.d .u),(16,.d .u)],[]⟩,⟨[],[(.x 0,⟨[(15,.d .u)],[]⟩)]⟩⟩),(24,⟨⟨[(16,.d .u),(18,.d .u)],[]⟩,⟨[],[(.x 2,⟨[(18,.d .u)],[]⟩)]⟩⟩)],[],[],[]⟩ Tryz.func227 (cC (jR fu)<|cN)
theorem Vs:yw ⟨302,[.d .u,.d .u],[.d .u,.d .u],fun x=>vO fu x.1 x.2.1,0⟩:=sq fu w6 Tryz.func302 (cN)
theorem Fa:yw ⟨294,[.d .u,.d .u,.d .u,.d .u,.d .u],[.d .u],fun x=>Ve fu x.1 x.2.1 x.2.2.1 x.2.2.2.1 x.2.2.2.2.1,0⟩:=sq fu ⟨[],[],[(4,⟨⟨[(11,.d .u),(12,.d .u)],[]⟩,⟨[],[(.r,⟨[(10,.d .u)],[]⟩)]⟩⟩)],[],[],[]⟩ Tryz.func294 (cC (Vt fu)<|cC (Vs fu)<|cN)
theorem Gx:yw ⟨218,[.d .i,.d .u,.q ZI,.q ZI],[.d .u,.d .u],fun x=>KR fu x.1 x.2.1 x.2.2.1 x.2.2.2.1,0⟩:=sq fu w6 Tryz.func218 (cC (nT fu)<|cN)
theorem dH:yw ⟨141,[.d ZI,.d ZI],[.own .u 54,.d .i],fun x=>Wb fu x.1 x.2.1,0⟩:=sq fu w6 Tryz.func141 (cC (Gx fu)<|cC (kJ fu)<|cC (yI fu)<|cC (xR fu)<|cN)
theorem nK:yw ⟨159,[.d ZI,.d ZI],[.own .u 54],fun x=>Z6 fu x.1 x.2.1,0⟩:=sq fu w6 Tryz.func159 (cC (dH fu)<|cN)
theorem FO:yw ⟨301,[.d .i,.d .u,.q ZI,.q .u],[.d .u,.d .u],fun x=>KE fu x.1 x.2.1 x.2.2.1 x.2.2.2.1,0⟩:=sq fu w6 Tryz.func301 (cC (Vs fu)<|cN)
theorem sC:yw ⟨225,[.d ZI,.d .u],[.own .u 54],fun x=>Wi fu x.1 x.2.1,0⟩:=sq fu w6 Tryz.func225 (cC (kJ fu)<|cC (FO fu)<|cN)
theorem fL:yw ⟨164,[.d ZI,.d .u],[.own .u 54,.d .u],fun x=>Y2 fu x.1 x.2.1,0⟩:=sq fu ⟨[],[],[(3,⟨⟨[(7,.d .u),(8,.d .i),(6,.own .u 54)],[]⟩,⟨[],[(.x 0,⟨[(7,.d .u),(6,.own .u 54)],[]⟩)]⟩⟩)],[],[],[]⟩ Tryz.func164 (cC (Vt fu)<|cC (yI fu)<|cC (xR fu)<|cN)
theorem tw:yw ⟨203,[.d ZI,.d ZI],[.own .u 54,.d ZI,.d .i],fun x=>Qx fu x.1 x.2.1,0⟩:=sq fu ⟨[],[(196612,⟨[],[(.n,⟨[(23,.d .b)],[]⟩)]⟩),(327686,⟨[],[(.n,⟨[(27,.d .b)],[]⟩)]⟩)],[(16,⟨⟨[(10,.d ZI),(16,.d .i),(12,.own .u 54),(15,.own .u 54)],[]⟩,⟨[],[(.x 1,⟨[(12,.own .u 54),(15,.own .u 54)],[]⟩)]⟩⟩),(20,⟨⟨[(9,.d .i),(14,.d .i),(17,.d .u),(18,.d ZI)],[]⟩,⟨[12,15],[(.x 3,⟨[(9,.d .i),(14,.d .i),(17,.d .u),(18,.d ZI)],[]⟩)]⟩⟩)],[(23,[149])],[129],[]⟩ Tryz.func203 (cC (sC fu)<|cC (fL fu)<|cC (jR fu)<|cC (Fa fu)<|cC (sS fu)<|cC (Ab fu)<|cC (U3 fu)<|cC (eZ fu)<|cC (yI fu)<|cC (xR fu)<|cC (nK fu)<|cN)
theorem vD:yw ⟨81,[.d .b,.d ZI],[.d zZ],fun x=>yR fu x.1 x.2.1,0⟩:=sq fu w6 Tryz.func81 (cC (U3 fu)<|cN)
theorem aj:yw ⟨137,[.d zZ,.d zZ],[.d zZ,.d zZ,.d .i],fun x=>Z1 fu x.1 x.2.1,0⟩:=sq fu ⟨[],[(327688,⟨[4,5],[(.n,⟨[(7,.own .u 54),(8,.d ZI)],[]⟩)]⟩)],[],[],[],[]⟩ Tryz.func137 (cC (vD fu)<|cC (tw fu)<|cC (eO fu)<|cC (dH fu)<|cN)
theorem YW:yw ⟨73,[.d zZ],[.d zZ],fun x=>vM fu x.1,0⟩:=sq fu w6 Tryz.func73 (cC (vD fu)<|cN)
theorem vI:yw ⟨70,[.d zZ],[.d .i],fun x=>xq fu x.1,0⟩:=sq fu ⟨[1],[],[],[],[],[]⟩ Tryz.func70 (cC (YW fu)<|cN)
theorem X2:yw ⟨75,[.d zZ,.d zZ],[.d zZ,.d .i],fun x=>qU fu x.1 x.2.1,0⟩:=sq fu ⟨[],[(196612,⟨[4,6,7],[(.n,⟨[(16,.d .b)],[]⟩)]⟩)],[],[],[],[]⟩ Tryz.func75 (cC (aj fu)<|cC (vI fu)<|cN)
theorem BZ:yw ⟨158,[.d ZI,.d ZI],[.own .u 54],fun x=>X7 fu x.1 x.2.1,0⟩:=sq fu ⟨[],[(262149,⟨[5],[(.n,⟨[(0,.d ZI),(18,.d ZI),(19,.d .i),(21,.d .b)],[]⟩)]⟩),(524297,⟨[5,27],[(.n,⟨[(0,.d ZI),(6,.d .i),(18,.d ZI),(19,.d .i),(20,.d .i),(28,.d .i),(30,.d .b)],[]⟩)]⟩)],[(3,⟨⟨[(20,.d .i),(5,.own .u 54)],[]⟩,⟨[],[(.x 0,⟨[(5,.own .u 54)],[]⟩)]⟩⟩),(7,⟨⟨[(8,.d .u),(29,.d .i),(5,.own .u 54),(27,.own .u 54)],[]⟩,⟨[],[(.x 2,⟨[(5,.own .u 54)],[]⟩)]⟩⟩)],[],[],[]⟩ Tryz.func158 (cC (sC fu)<|cC (yI fu)<|cC (xR fu)<|cN)
def Oc:W1:=⟨102,[.d ZI,.d ZI],[.own .u 54],fun x=>Wg fu x.1 x.2.1,0⟩
theorem sJ: ∀fu:Nat,yw (Oc fu)
 |0=>sg0 (by kernel_rfl) fun _=>rfl
 |fu+1=>sq fu w6 Tryz.func102 (cC (gb fu)<|cC (sJ fu)<|cC (eO fu)<|cC (yI fu)<|cC (xR fu)<|cC (BZ fu)<|cC (nK fu)<|cN)
theorem xl:yw ⟨78,[.d zZ,.d zZ],[.d zZ],fun x=>zL fu x.1 x.2.1,0⟩:=sq fu w6 Tryz.func78 (cC (vD fu)<|cC (sJ fu)<|cN)
theorem um:yw ⟨77,[.d zZ,.d zZ],[.d zZ],fun x=>vb fu x.1 x.2.1,0⟩:=sq fu ⟨[2,3],[(262150,⟨[4],[(.n,⟨[(2,.var zZ 30),(3,.var zZ 30)],[]⟩)]⟩)],[],[],[],[]⟩ Tryz.func77 (cC (vD fu)<|cC (eO fu)<|cC (Ab fu)<|cC (dH fu)<|cN)
theorem ai:yw ⟨131,[.d zZ],[.d zZ],fun x=>uj fu x.1,0⟩:=sq fu w6 Tryz.func131 (cC (vD fu)<|cN)
theorem WV:yw ⟨138,[.d zZ,.d zZ],[.d zZ],fun x=>vY fu x.1 x.2.1,0⟩:=sq fu w6 Tryz.func138 (cC (ai fu)<|cC (um fu)<|cN)
theorem oc:yw ⟨72,[.d .i,.d zZ],[.d zZ],fun x=>WA fu x.1 x.2.1,0⟩:=sq fu w6 Tryz.func72 (cC (YW fu)<|cN)
theorem y3:yw ⟨71,[.d y9,.fn [.i,zZ] [zZ]],[.own zZ 30],fun x=>zB fu x.1 (fun z0 z1=>x.2.1 (z0,z1,())),0⟩:=sq fu ⟨[],[(262149,⟨[5],[(.n,⟨[(11,.d y9),(12,.d .i),(14,.d .b)],[]⟩)]⟩)],[(3,⟨⟨[(13,.d .i),(5,.own zZ 30)],[]⟩,⟨[],[(.x 0,⟨[(5,.own zZ 30)],[]⟩)]⟩⟩)],[],[],[]⟩ Tryz.func71 (cN)
theorem yV:yw ⟨21,[.d y9],[.own zZ 30],fun x=>zJ fu x.1,0⟩:=sq fu ⟨[],[],[(1,⟨⟨[(0,.d y9)],[]⟩,⟨[],[(.x 0,⟨[(0,.d y9)],[]⟩)]⟩⟩)],[],[],[]⟩ Tryz.func21 (cC (oc fu)<|cC (vI fu)<|cC (y3 fu)<|cN)
def KI:W1:=⟨129,[.d y9,.d y9],[.own zZ 30,.d .i],fun x=>wA fu x.1 x.2.1,0⟩
theorem Vi:yw (KI fu):=sq fu ⟨[],[(327687,⟨[1,6],[(.n,⟨[],[]⟩),(.r,⟨[],[(4,.nil),(5,.ci 4)]⟩)]⟩),(1048593,⟨[1,6,7,9],[(.n,⟨[(8,.d .i),(71,.d .i),(73,.d .b)],[]⟩)]⟩)],[(8,⟨⟨[(8,.d .i),(1,.own zZ 30),(6,.own zZ 30),(7,.own zZ 30)],[]⟩,⟨[],[(.x 0,⟨[(6,.own zZ 30),(7,.own zZ 30)],[]⟩),(.r,⟨[(5,.d .i)],[(4,.nil)]⟩)]⟩⟩),(15,⟨⟨[(72,.d .i),(1,.own zZ 30),(6,.own zZ 30),(7,.own zZ 30),(9,.var zZ 30)],[(70,.al 1)]⟩,⟨[],[(.x 2,⟨[(1,.own zZ 30),(6,.own zZ 30),(7,.own zZ 30)],[]⟩)]⟩⟩)],[(10,[])],[],[]⟩ Tryz.func129 (cC (WV fu)<|cC (X2 fu)<|cC (yV fu)<|cC (xl fu)<|cN)
theorem B6:yw ⟨61,[.d y9,.d y9],[.d .i],fun x=>u6 fu x.1 x.2.1,0⟩:=sq fu ⟨[],[],[(3,⟨⟨[(5,.d .i),(6,.own zZ 30),(7,.d .i)],[]⟩,⟨[],[(.x 0,⟨[(5,.d .i)],[]⟩)]⟩⟩)],[],[],[]⟩ Tryz.func61 (cC (Vi fu)<|cN)
theorem Wq:yw ⟨188,[.d .i],[.d .b],fun x=>jM fu x.1,0⟩:=sq fu ⟨[],[(131075,⟨[],[(.n,⟨[(3,.d .b)],[]⟩)]⟩)],[(3,⟨⟨[(3,.d .b),(4,.d .i)],[]⟩,⟨[],[(.x 0,⟨[(3,.d .b)],[]⟩)]⟩⟩)],[],[],[]⟩ Tryz.func188 (cN)
theorem xf:yw ⟨28,[.d .i],[.d zZ],fun x=>zX fu x.1,0⟩:=sq fu w6 Tryz.func28 (cC (vD fu)<|cN)
theorem QB:yw ⟨183,[.d ZI],[.d .i],fun x=>jS fu x.1,0⟩:=sq fu w6 Tryz.func183 (cC (Zv fu)<|cC (yI fu)<|cC (xR fu)<|cN)
theorem HS:yw ⟨189,[.d zZ,.d .i],[.d zZ,.d .i],fun x=>QN fu x.1 x.2.1,0⟩:=sq fu ⟨[],[(131075,⟨[4],[(.n,⟨[(8,.d .b)],[]⟩)]⟩)],[(7,⟨⟨[(1,.d .i),(7,.var zZ 30),(6,.var zZ 30)],[]⟩,⟨[4],[(.x 1,⟨[(6,.var zZ 30)],[]⟩)]⟩⟩)],[],[],[]⟩ Tryz.func189 (cC (YW fu)<|cC (xf fu)<|cC (xl fu)<|cC (QB fu)<|cN)
theorem WI:yw ⟨123,[.d .i,.d .i],[.d zZ,.d .i],fun x=>vf fu x.1 x.2.1,0⟩:=sq fu w6 Tryz.func123 (cC (Wq fu)<|cC (xf fu)<|cC (HS fu)<|cN)
theorem JS:yw ⟨336,[.d y9,.d zZ,.fn [zZ,zZ] [zZ,.i]],[.own zZ 30,.d .i],fun x=>ve fu x.1 x.2.1 (fun z0 z1=>x.2.2.1 (z0,z1,())),0⟩:=sq fu ⟨[],[(393223,⟨[8],[(.n,⟨[(4,.q zZ),(17,.d y9),(18,.d .i),(20,.d .b)],[]⟩)]⟩)],[(5,⟨⟨[(19,.d .i),(8,.own zZ 30)],[]⟩,⟨[],[(.x 0,⟨[(8,.own zZ 30)],[]⟩)]⟩⟩)],[],[],[]⟩ Tryz.func336 (cC (yV fu)<|cC (vI fu)<|cN)
theorem X0:yw ⟨313,[.d zZ,.d zZ],[.d zZ,.d .i],fun x=>vy fu x.1 x.2.1,0⟩:=sq fu w6 Tryz.func313 (cC (aj fu)<|cC (vI fu)<|cN)
theorem cz:yw ⟨279,[.d y9,.d zZ],[.own zZ 30,.d .i],fun x=>Zj fu x.1 x.2.1,0⟩:=sq fu w6 Tryz.func279 (cC (JS fu)<|cC (X0 fu)<|cN)
theorem XL:yw ⟨197,[.d y9,.d zZ],[.own zZ 30],fun x=>yU fu x.1 x.2.1,0⟩:=sq fu w6 Tryz.func197 (cC (cz fu)<|cN)
theorem vT:yw ⟨268,[.d .i],[.d .i],fun x=>wg fu x.1,0⟩:=sq fu w6 Tryz.func268 (cC (Wq fu)<|cN)
theorem Kl:yw ⟨317,[.d .i,.d .i],[.d .i],fun x=>jN fu x.1 x.2.1,0⟩:=sq fu w6 Tryz.func317 (cN)
def oV:W1:=⟨329,[.d .i,.d .i],[.d .i,.d .i],fun x=>YQ fu x.1 x.2.1,0⟩
theorem pB:yw (oV fu):=sq fu ⟨[],[],[(5,⟨⟨[(7,.d .i),(8,.d .i),(9,.d .i),(10,.d .i)],[]⟩,⟨[],[(.x 0,⟨[(10,.d .i)],[]⟩),(.r,⟨[],[(4,.ci 0),(5,.ci 3)]⟩)]⟩⟩)],[],[],[]⟩ Tryz.func329 (cC (vT fu)<|cC (Kl fu)<|cN)
theorem xt:yw ⟨269,[.d yO,.d .i],[.own .i 3],fun x=>zO fu x.1 x.2.1,0⟩:=sq fu ⟨[],[],[(3,⟨⟨[(13,.d .i),(5,.own .i 3)],[]⟩,⟨[],[(.x 0,⟨[(5,.own .i 3)],[]⟩)]⟩⟩),(7,⟨⟨[(5,.own .i 3)],[]⟩,⟨[],[(.x 2,⟨[(5,.own .i 3)],[]⟩)]⟩⟩)],[],[],[]⟩ Tryz.func269 (cC (Kl fu)<|cN)
theorem Xd:yw ⟨270,[.d yO,.d yO,.d .i],[.own .i 3,.own .i 3],fun x=>xe fu x.1 x.2.1 x.2.2.1,0⟩:=sq fu ⟨[],[(851982,⟨[8,12],[(.n,⟨[(9,.d .i),(13,.d .i),(61,.d yO),(62,.d .i),(64,.d .b)],[]⟩)]⟩)],[(7,⟨⟨[(9,.d .i),(8,.own .i 3),(12,.own .i 3)],[]⟩,⟨[],[(.x 0,⟨[(8,.own .i 3),(12,.own .i 3)],[]⟩)]⟩⟩),(12,⟨⟨[(1,.d yO),(2,.d .i),(10,.d .i),(63,.d .i),(8,.own .i 3),(12,.own .i 3)],[]⟩,⟨[],[(.x 2,⟨[(1,.d yO),(2,.d .i),(10,.d .i),(8,.own .i 3),(12,.own .i 3)],[]⟩)]⟩⟩)],[],[],[]⟩ Tryz.func270 (cC (pB fu)<|cC (xt fu)<|cN)
theorem kY:yw ⟨330,[.d yO,.d yO,.d .i],[.own .i 3],fun x=>xO fu x.1 x.2.1 x.2.2.1,0⟩:=sq fu ⟨[],[(262149,⟨[7],[(.n,⟨[(1,.d yO),(2,.d .i),(18,.d yO),(19,.d .i),(21,.d .b)],[]⟩)]⟩),(458760,⟨[7],[(.n,⟨[(1,.d yO),(2,.d .i),(8,.d .i),(9,.d .i),(18,.d yO),(19,.d .i),(20,.d .i),(25,.d yO),(26,.d .i),(28,.d .b)],[]⟩)]⟩)],[(3,⟨⟨[(20,.d .i),(7,.own .i 3)],[]⟩,⟨[],[(.x 0,⟨[(7,.own .i 3)],[]⟩)]⟩⟩),(6,⟨⟨[(27,.d .i),(7,.own .i 3)],[]⟩,⟨[],[(.x 2,⟨[(7,.own .i 3)],[]⟩)]⟩⟩)],[],[],[]⟩ Tryz.func330 (cC (xt fu)<|cN)
theorem KB:yw ⟨371,[.d yO,.d yO,.d .i,.d .i],[.own .i 3],fun x=>uy fu x.1 x.2.1 x.2.2.1 x.2.2.2.1,0⟩:=sq fu ⟨[],[(327686,⟨[9],[(.n,⟨[(2,.d .i),(3,.d .i),(21,.d yO),(22,.d .i),(24,.d .b)],[]⟩)]⟩)],[(4,⟨⟨[(23,.d .i),(9,.own .i 3)],[]⟩,⟨[],[(.x 0,⟨[(9,.own .i 3)],[]⟩)]⟩⟩)],[],[],[]⟩ Tryz.func371 (cC (xt fu)<|cN)
theorem Cx:yw ⟨333,[.d (.a 3 yO),.d (.a 3 yO),.d .i],[.d (.a 3 yO)],fun x=>Zs fu x.1 x.2.1 x.2.2.1,0⟩:=sq fu ⟨[3],[(262149,⟨[3,6],[(.n,⟨[(2,.d .i),(4,.q (.a 3 yO)),(20,.d .b)],[]⟩)]⟩)],[(3,⟨⟨[(7,.d yO),(19,.d .i),(3,.var (.a 3 yO) 286),(6,.var (.a 3 yO) 286)],[]⟩,⟨[8],[(.x 0,⟨[(3,.var (.a 3 yO) 286),(6,.var (.a 3 yO) 286)],[]⟩)]⟩⟩)],[],[],[]⟩ Tryz.func333 (cC (kY fu)<|cC (KB fu)<|cC (Xd fu)<|cN)
theorem Kf:yw ⟨334,[.d yO,.d .i,.d .i],[.own .i 3],fun x=>vi fu x.1 x.2.1 x.2.2.1,0⟩:=sq fu w6 Tryz.func334 (cC (pB fu)<|cC (kY fu)<|cN)
theorem Ke:yw ⟨277,[.d yO,.d yO,.d .i],[.d yO,.d yO,.d yO,.d .i],fun x=>jI fu x.1 x.2.1 x.2.2.1,0⟩:=sq fu ⟨[],[(589834,⟨[11],[(.n,⟨[(44,.d .b)],[]⟩)]⟩)],[(5,⟨⟨[(11,.var (.a 3 yO) 286),(12,.var (.a 3 yO) 286)],[]⟩,⟨[],[(.x 0,⟨[(11,.var (.a 3 yO) 286)],[]⟩)]⟩⟩),(11,⟨⟨[(51,.d .i),(11,.var (.a 3 yO) 286)],[]⟩,⟨[],[(.x 2,⟨[(11,.var (.a 3 yO) 286)],[]⟩)]⟩⟩)],[],[],[]⟩ Tryz.func277 (cC (Cx fu)<|cC (vT fu)<|cC (xt fu)<|cC (Kf fu)<|cN)
theorem Kt:yw ⟨272,[.d yO,.d yO,.d .i],[.d yO,.d .i],fun x=>qF fu x.1 x.2.1 x.2.2.1,0⟩:=sq fu w6 Tryz.func272 (cC (Ke fu)<|cN)
theorem Vm:yw ⟨273,[.d yO,.d yO,.d .i],[.own .i 3,.d .i],fun x=>qI fu x.1 x.2.1 x.2.2.1,0⟩:=sq fu w6 Tryz.func273 (cC (kY fu)<|cC (vT fu)<|cC (xt fu)<|cN)
theorem gk:yw ⟨331,[.d yO,.d yO,.d .i],[.own .i 3,.d .i],fun x=>YZ fu x.1 x.2.1 x.2.2.1,0⟩:=sq fu w6 Tryz.func331 (cC (KB fu)<|cC (vT fu)<|cC (xt fu)<|cN)
theorem mN:yw ⟨275,[.d yO,.d yO,.d .i],[.d .b],fun x=>uY fu x.1 x.2.1 x.2.2.1,0⟩:=sq fu w6 Tryz.func275 (cC (gk fu)<|cN)
theorem pN:yw ⟨271,[.d yO,.d .i],[.d .b],fun x=>uZ fu x.1 x.2.1,0⟩:=sq fu ⟨[],[],[(2,⟨⟨[(9,.d .i)],[]⟩,⟨[],[(.x 0,⟨[],[]⟩),(.r,⟨[],[(4,.kb false)]⟩)]⟩⟩)],[],[],[]⟩ Tryz.func271 (cN)
theorem Qk:yw ⟨274,[.d (.l yO),.d .i],[.own .i 3],fun x=>w8 fu x.1 x.2.1,0⟩:=sq fu ⟨[],[],[(3,⟨⟨[(5,.own .i 3),(11,.d .i)],[]⟩,⟨[],[(.x 0,⟨[(5,.own .i 3)],[]⟩)]⟩⟩)],[],[],[]⟩ Tryz.func274 (cC (Vm fu)<|cN)
theorem BF:yw ⟨314,[.d zZ],[.d .i,.d .b],fun x=>XC fu x.1,0⟩:=sq fu ⟨[1],[(196612,⟨[1],[(.n,⟨[(6,.d .b)],[]⟩)]⟩),(327686,⟨[1],[(.n,⟨[(11,.d .b)],[]⟩)]⟩),(458760,⟨[1],[(.n,⟨[(16,.d .b)],[]⟩)]⟩)],[],[],[],[]⟩ Tryz.func314 (cC (YW fu)<|cN)
theorem Fh:yw ⟨256,[.d zZ,.d .i],[.d .i,.d .i],fun x=>Vu fu x.1 x.2.1,0⟩:=sq fu ⟨[],[],[],[(1,[])],[],[]⟩ Tryz.func256 (cC (X0 fu)<|cC (BF fu)<|cC (xf fu)<|cN)
theorem rI:yw ⟨255,[.d .i,.d zZ,.q .i],[.d .i],fun x=>Yn fu x.1 x.2.1 x.2.2.1,0⟩:=sq fu w6 Tryz.func255 (cC (Fh fu)<|cN)
theorem VJ:yw ⟨254,[.d y9,.fn [.i,zZ] [.i]],[.own .i 3],fun x=>vR fu x.1 (fun z0 z1=>x.2.1 (z0,z1,())),0⟩:=sq fu ⟨[],[(262149,⟨[5],[(.n,⟨[(11,.d y9),(12,.d .i),(14,.d .b)],[]⟩)]⟩)],[(3,⟨⟨[(13,.d .i),(5,.own .i 3)],[]⟩,⟨[],[(.x 0,⟨[(5,.own .i 3)],[]⟩)]⟩⟩)],[],[],[]⟩ Tryz.func254 (cN)
theorem Y0:yw ⟨186,[.d y9,.d .i],[.own .i 3,.d .i],fun x=>jO fu x.1 x.2.1,0⟩:=sq fu ⟨[],[],[(4,⟨⟨[(6,.own .i 3)],[]⟩,⟨[],[(.x 0,⟨[(6,.own .i 3)],[]⟩)]⟩⟩)],[],[],[]⟩ Tryz.func186 (cC (VJ fu)<|cC (rI fu)<|cN)
theorem n7:yw ⟨195,[.d y9,.d (.l yO),.d .i],[.d .b],fun x=>wx fu x.1 x.2.1 x.2.2.1,0⟩:=sq fu ⟨[],[(393223,⟨[7],[(.n,⟨[(0,.d y9),(1,.d (.l yO)),(2,.d .i),(40,.d (.l yO)),(41,.d .i),(43,.d .b)],[]⟩)]⟩)],[(5,⟨⟨[(42,.d .i),(7,.own .i 3)],[]⟩,⟨[],[(.x 0,⟨[(7,.own .i 3)],[]⟩),(.r,⟨[],[(6,.kb false)]⟩)]⟩⟩),(10,⟨⟨[(62,.d .i)],[]⟩,⟨[7],[(.x 2,⟨[],[]⟩),(.r,⟨[],[(6,.kb false)]⟩)]⟩⟩)],[],[],[]⟩ Tryz.func195 (cC (pN fu)<|cC (Kt fu)<|cC (Vm fu)<|cC (Qk fu)<|cC (mN fu)<|cC (Y0 fu)<|cN)
theorem ey:yw ⟨335,[.d y9,.d y9,.d zZ],[.d y9,.own zZ 30],fun x=>qq fu x.1 x.2.1 x.2.2.1,0⟩:=sq fu ⟨[],[(589834,⟨[8,9],[(.n,⟨[(10,.d .i),(47,.d y9),(48,.d .i),(50,.d .b)],[]⟩)]⟩)],[(4,⟨⟨[(10,.d .i),(8,.own zZ 30),(9,.own zZ 30)],[]⟩,⟨[],[(.x 0,⟨[(8,.own zZ 30),(9,.own zZ 30)],[]⟩)]⟩⟩),(8,⟨⟨[(1,.d y9),(5,.q zZ),(49,.d .i),(8,.own zZ 30),(9,.own zZ 30)],[]⟩,⟨[],[(.x 2,⟨[(1,.d y9),(5,.q zZ),(8,.own zZ 30),(9,.own zZ 30)],[]⟩)]⟩⟩)],[(6,[])],[],[]⟩ Tryz.func335 (cC (X0 fu)<|cC (WV fu)<|cC (XL fu)<|cC (xl fu)<|cN)
theorem se:yw ⟨348,[.d .i,.d zZ,.q y9],[.d zZ],fun x=>ja fu x.1 x.2.1 x.2.2.1,0⟩:=sq fu w6 Tryz.func348 (cC (um fu)<|cN)
theorem ga:yw ⟨309,[.d y9,.d y9],[.own zZ 30],fun x=>wM fu x.1 x.2.1,0⟩:=sq fu ⟨[3],[],[],[],[],[]⟩ Tryz.func309 (cC (se fu)<|cC (yV fu)<|cC (y3 fu)<|cN)
theorem fX:yw ⟨25,[.d y9,.d y9],[.own zZ 30],fun x=>xE fu x.1 x.2.1,0⟩:=sq fu ⟨[],[(262149,⟨[5],[(.n,⟨[(1,.d y9),(16,.d y9),(17,.d .i),(19,.d .b)],[]⟩)]⟩),(458760,⟨[5,7],[(.n,⟨[(1,.d y9),(6,.d .i),(16,.d y9),(17,.d .i),(18,.d .i),(23,.d y9),(24,.d .i),(26,.d .b)],[]⟩)]⟩)],[(3,⟨⟨[(18,.d .i),(5,.own zZ 30)],[]⟩,⟨[],[(.x 0,⟨[(5,.own zZ 30)],[]⟩)]⟩⟩),(6,⟨⟨[(25,.d .i),(5,.own zZ 30),(7,.var zZ 30)],[]⟩,⟨[],[(.x 2,⟨[(5,.own zZ 30)],[]⟩)]⟩⟩)],[],[],[]⟩ Tryz.func25 (cC (yV fu)<|cC (um fu)<|cC (xl fu)<|cN)
theorem nZ:yw ⟨143,[.d .i,.d .i],[.d zZ],fun x=>uQ fu x.1 x.2.1,0⟩:=sq fu w6 Tryz.func143 (cC (xf fu)<|cN)
theorem VA:yw ⟨142,[.d yO,.fn [.i,.i] [zZ]],[.own zZ 30],fun x=>vU fu x.1 (fun z0 z1=>x.2.1 (z0,z1,())),0⟩:=sq fu ⟨[],[],[(3,⟨⟨[(13,.d .i),(5,.own zZ 30)],[]⟩,⟨[],[(.x 0,⟨[(5,.own zZ 30)],[]⟩)]⟩⟩)],[],[],[]⟩ Tryz.func142 (cN)
theorem cQ:yw ⟨80,[.d yO],[.own zZ 30],fun x=>vN fu x.1,0⟩:=sq fu w6 Tryz.func80 (cC (yV fu)<|cC (VA fu)<|cC (nZ fu)<|cN)
theorem nF:yw ⟨27,[.d yO],[.own zZ 30],fun x=>Z8 fu x.1,0⟩:=sq fu w6 Tryz.func27 (cC (cQ fu)<|cN)
theorem iA:yw ⟨249,[.d .i,.d zZ,.q zZ],[.d zZ],fun x=>Xm fu x.1 x.2.1 x.2.2.1,0⟩:=sq fu w6 Tryz.func249 (cC (xl fu)<|cN)
theorem Yk:yw ⟨180,[.d y9,.d zZ],[.own zZ 30],fun x=>wQ fu x.1 x.2.1,0⟩:=sq fu w6 Tryz.func180 (cC (iA fu)<|cC (yV fu)<|cC (y3 fu)<|cN)
theorem fZ:yw ⟨248,[.d y9,.d y9],[.own zZ 30],fun x=>qE fu x.1 x.2.1,0⟩:=sq fu w6 Tryz.func248 (cC (Yk fu)<|cC (xf fu)<|cC (ga fu)<|cN)
theorem ed:yw ⟨278,[.d (.a 4 y9),.d y9,.d zZ],[.d (.a 4 y9)],fun x=>qw fu x.1 x.2.1 x.2.2.1,0⟩:=sq fu w6 Tryz.func278 (cC (XL fu)<|cC (ey fu)<|cC (ga fu)<|cC (fZ fu)<|cC (fX fu)<|cC (nF fu)<|cN)
theorem eo:yw ⟨372,[.d (.p zZ (.p zZ zZ)),.d zZ,.d (.p zZ (.p zZ zZ))],[.d (.p zZ (.p zZ zZ))],fun x=>kq fu x.1 x.2.1 x.2.2.1,0⟩:=sq fu w6 Tryz.func372 (cC (WV fu)<|cC (xl fu)<|cN)
theorem rq:yw ⟨332,[.d zZ,.d zZ],[.d zZ,.d zZ,.d zZ],fun x=>Yr fu x.1 x.2.1,0⟩:=sq fu ⟨[],[(393224,⟨[4,5,6],[(.n,⟨[(7,.var (.p zZ (.p zZ zZ)) 323)],[]⟩)]⟩),(524298,⟨[4,5,6],[(.n,⟨[(7,.var (.p zZ (.p zZ zZ)) 323)],[]⟩)]⟩)],[(2,⟨⟨[(7,.var (.p zZ (.p zZ zZ)) 323),(8,.var (.p zZ (.p zZ zZ)) 323)],[]⟩,⟨[4,5,6],[(.x 0,⟨[(7,.var (.p zZ (.p zZ zZ)) 323)],[]⟩)]⟩⟩)],[(1,[]),(9,[])],[],[]⟩ Tryz.func332 (cC (ai fu)<|cC (vI fu)<|cC (aj fu)<|cC (vD fu)<|cC (eo fu)<|cC (xf fu)<|cN)
theorem Bj:yw ⟨276,[.d y9,.d zZ],[.own zZ 30],fun x=>XY fu x.1 x.2.1,0⟩:=sq fu ⟨[],[],[],[(1,[])],[],[]⟩ Tryz.func276 (cC (Yk fu)<|cC (rq fu)<|cC (XL fu)<|cN)
def ru:W1:=⟨196,[.d y9,.d (.l yO),.d .i,.d .i,.d zZ],[.own y9 22],fun x=>wO fu x.1 x.2.1 x.2.2.1 x.2.2.2.1 x.2.2.2.2.1,0⟩
theorem UB: ∀fu:Nat,yw (ru fu)
 |0=>sg0 (by kernel_rfl) fun _=>rfl
 |fu+1=>sq fu ⟨[],[],[(10,⟨⟨[(22,.d .i),(21,.var (.a 4 y9) 252)],[]⟩,⟨[],[(.x 0,⟨[(21,.var (.a 4 y9) 252)],[]⟩)]⟩⟩)],[(14,[])],[],[]⟩ Tryz.func196 (cC (UB fu)<|cC (cQ fu)<|cC (Vm fu)<|cC (Qk fu)<|cC (Bj fu)<|cC (Ke fu)<|cC (ed fu)<|cC (Y0 fu)<|cC (WI fu)<|cN)
theorem UU:yw ⟨125,[.d y9,.d (.l yO),.d .i,.d .i],[.own y9 22,.d .i],fun x=>vS fu x.1 x.2.1 x.2.2.1 x.2.2.2.1,0⟩:=sq fu w6 Tryz.func125 (cC (n7 fu)<|cC (UB fu)<|cC (XL fu)<|cC (yV fu)<|cC (WI fu)<|cN)
theorem C9:yw ⟨281,[.d y9,.d y9,.d zZ],[.d y9,.d .i],fun x=>XM fu x.1 x.2.1 x.2.2.1,0⟩:=sq fu w6 Tryz.func281 (cC (fX fu)<|cC (cz fu)<|cN)
theorem WU:yw ⟨76,[.d zZ,.d zZ],[.d .i],fun x=>qO fu x.1 x.2.1,0⟩:=sq fu w6 Tryz.func76 (cC (WV fu)<|cC (vI fu)<|cN)
theorem Cm:yw ⟨337,[.d zZ,.d zZ],[.d zZ,.d .i],fun x=>u4 fu x.1 x.2.1,0⟩:=sq fu w6 Tryz.func337 (cC (X0 fu)<|cC (WV fu)<|cC (WU fu)<|cC (um fu)<|cN)
theorem si:yw ⟨282,[.d y9,.d zZ],[.own zZ 30,.d .i],fun x=>Ym fu x.1 x.2.1,0⟩:=sq fu w6 Tryz.func282 (cC (JS fu)<|cC (Cm fu)<|cN)
theorem mQ:yw ⟨130,[.d zZ,.d zZ],[.d zZ],fun x=>WE fu x.1 x.2.1,0⟩:=sq fu ⟨[],[],[(2,⟨⟨[(5,.d ZI),(6,.d ZI)],[]⟩,⟨[4],[(.x 0,⟨[(5,.d ZI)],[]⟩)]⟩⟩)],[],[],[]⟩ Tryz.func130 (cC (U3 fu)<|cC (vD fu)<|cC (tw fu)<|cN)
theorem Y9:yw ⟨62,[.d y9],[.d zZ],fun x=>wE fu x.1,0⟩:=sq fu ⟨[],[(327686,⟨[0,2,3],[(.n,⟨[(10,.d .i),(12,.d .b)],[]⟩)]⟩)],[(4,⟨⟨[(11,.d .i),(0,.own zZ 30),(2,.var zZ 30),(3,.var zZ 30)],[(9,.al 0)]⟩,⟨[],[(.x 0,⟨[(0,.own zZ 30),(2,.var zZ 30),(3,.var zZ 30)],[]⟩)]⟩⟩)],[],[],[]⟩ Tryz.func62 (cC (mQ fu)<|cC (ai fu)<|cC (xf fu)<|cC (yV fu)<|cN)
theorem me:yw ⟨74,[.d .i,.d zZ,.q zZ],[.d zZ],fun x=>Wx fu x.1 x.2.1 x.2.2.1,0⟩:=sq fu w6 Tryz.func74 (cC (X2 fu)<|cN)
def QQ:W1:=⟨23,[.d y9],[.own zZ 30],fun x=>wk fu x.1,0⟩
theorem Zf:yw (QQ fu):=sq fu w6 Tryz.func23 (cC (me fu)<|cC (yV fu)<|cC (Y9 fu)<|cC (y3 fu)<|cN)
def kI:W1:=⟨199,[.d y9,.d M8,.own .i 3,.d zZ],[.d y9,.own .i 3],fun x=>qe fu x.1 x.2.1 x.2.2.1 x.2.2.2.1,1⟩
theorem Ur:yw (kI fu):=OA (fu:=fu) ⟨[],[(262149,⟨[2],[(.n,⟨[(1,.d M8),(7,.q zZ),(18,.d .i),(20,.d .b)],[]⟩)]⟩)],[(3,⟨⟨[(9,.d y9),(19,.d .i),(2,.own .i 3)],[(17,.al 2)]⟩,⟨[],[(.x 0,⟨[(9,.d y9),(2,.own .i 3)],[]⟩)]⟩⟩)],[],[],[]⟩ Tryz.func199 (cC (C9 fu)<|cC (si fu)<|cC (Zf fu)<|cN) (by kernel_rfl) fun pn x=>by kernel_rfl
def ZP:ra:=⟨280,[.q .i,.q .i],.i,3,fun x _ _ g x0=>wa fu x.1 x.2.1 g x0⟩
def anC:An:=⟨[],[],[(2,⟨⟨[(4,.own .i 3),(12,.d .i)],[]⟩,⟨[0],[(.x 0,⟨[(4,.own .i 3)],[]⟩)]⟩⟩),(8,⟨⟨[(6,.d .i)],[]⟩,⟨[0,4],[(.x 4,⟨[(6,.d .i)],[]⟩)]⟩⟩),(13,⟨⟨[(7,.d .i),(4,.own .i 3)],[]⟩,⟨[0],[(.x 6,⟨[(4,.own .i 3)],[]⟩)]⟩⟩)],[],[],[]⟩
def zdh:Code->Code| .seq a _=>a|c=>c
def tV:Code->Code| .seq _ b=>b|c=>c
def kIn:Code->Code| .block _ c=>c| .loop c=>c|c=>c
def tj(f:Func):Code:=match f.body with|some c=>c|none=> .skip
noncomputable def kA:Code:=zdh (tj Tryz.f280)
noncomputable def kB:Code:=zdh (tV (tj Tryz.f280))
noncomputable def kC:Code:=kIn (kIn (tV (tV (tj Tryz.f280))))
section
variable{X Y R:Type}{mX:X->Value->MF}{mY:Y->Value->MF}{g:List Int->X->Option (List Int×(X⊕Y))}{n all:Int}
def cfC:Cf:=⟨tt,[],anC,fu,ex,[],[],[]⟩
def S0(mX:X->Value->MF)(mY:Y->Value->MF)(g:List Int->X->Option (List Int×(X⊕Y)))(n all:Int)(x0:X):Sg:=⟨1,[(0,0,.yd 0),(1,0,.q .i n),(2,0,.q .i all)],[(0,.hid .i 3 X Y mX mY g x0)]⟩
def S1(mX:X->Value->MF)(mY:Y->Value->MF)(g:List Int->X->Option (List Int×(X⊕Y)))(n all:Int)(x0:X)(xs:List Int):Sg:=⟨2,[(4,0,.ow 1),(9,0,.ow 1),(8,0,.d .i n),(0,0,.yd 0),(1,0,.q .i n),(2,0,.q .i all)],[(1,.own .i 3 xs),(0,.hid .i 3 X Y mX mY g x0)]⟩
def S2(mX:X->Value->MF)(mY:Y->Value->MF)(g:List Int->X->Option (List Int×(X⊕Y)))(n all:Int)(x0:X)(xs ys:List Int):Sg:=⟨3,[(4,0,.ow 2),(4,0,.ow 2),(11,0,.d .i (xs.length:Int)),(8,0,.d .i n),(0,0,.yd 0),(1,0,.q .i n),(2,0,.q .i all)],[(2,.own .i 3 ys),(0,.hid .i 3 X Y mX mY g x0)]⟩
def Sn(mX:X->Value->MF)(mY:Y->Value->MF)(g:List Int->X->Option (List Int×(X⊕Y)))(n all:Int)(x:X)(xs:List Int)(x3 x1 x2 y x0:Int):Sg:=
 ⟨5,[(4,0,.ow 4),(4,0,.ow 4),(51,0,.d .i x3),(50,0,.d .i x1),(48,0,.d .i x2),(47,0,.d .i y),(45,0,.d .i x1),(43,0,.kb false),(42,0,.d .i x1),(6,0,.d .i x1),(6,0,.d .i x1),(25,0,.d .i x0),(24,0,.d .i n),(23,0,.kb false),(22,0,.kb true),(20,0,.yd 2),(0,0,.yd 2),(1,0,.q .i n),(2,0,.q .i all)],[(4,.own .i 3 xs),(2,.hid .i 3 X Y mX mY g x)]⟩
def Sr(mX:X->Value->MF)(mY:Y->Value->MF)(g:List Int->X->Option (List Int×(X⊕Y)))(n all:Int)(x:X)(x0 x1:Int)(xs:List Int):Sg:=
 ⟨4,[(43,0,.kb true),(42,0,.d .i x1),(6,0,.d .i x1),(6,0,.d .i x1),(25,0,.d .i x0),(24,0,.d .i n),(23,0,.kb false),(22,0,.kb true),(21,0,.ow 1),(20,0,.yd 2),(4,0,.ow 1),(0,0,.yd 2),(1,0,.q .i n),(2,0,.q .i all)],[(2,.hid .i 3 X Y mX mY g x),(1,.own .i 3 xs)]⟩
def Sy(mY:Y->Value->MF)(n all:Int)(y:Y)(xs:List Int):Sg:=
 ⟨3,[(23,0,.kb true),(22,0,.kb false),(21,0,.ow 1),(20,0,.yd 2),(4,0,.ow 1),(0,0,.yd 2),(1,0,.q .i n),(2,0,.q .i all)],[(2,.hiy Y mY y),(1,.own .i 3 xs)]⟩
theorem ziM(x0:X)(K:Tg->Sg->Option R):Um (cfC fu) kA ⟨0,[],[]⟩ (S0 mX mY g n all x0) K=j8 n fun m=>ck (8*m<=281474976710656)<|nm (xae m 0) fun xs=>K .n (S1 mX mY g n all x0 xs):=by kernel_rfl
theorem ziy(x0:X)(xs:List Int)(K:Tg->Sg->Option R):Um (cfC fu) kB ⟨0,[],[]⟩ (S1 mX mY g n all x0 xs) K=bd (zj (fun L (z:List Int×Int)=>
 if z.2<(xs.length:Int)then
  zG z.2 z.1.length fun j=>
  nm (z.1.set j z.2) fun xs=>
  ze (z.2+1) fun i=>L (xs,i)
 else some z.1) fu (xs,0)) fun ys=>K .n (S2 mX mY g n all x0 xs ys):=by kernel_rfl
theorem zit(x:X)(xs:List Int)(K:Tg->Sg->Option R):Um (cfC fu) kC ⟨0,[],[]⟩ (chS 3 mX mY g n all x xs) K=
 w5 fu n all g x xs (fun x xs a b c d e=>K .n (Sn mX mY g n all x xs a b c d e)) (fun x a b xs=>K .r (Sr mX mY g n all x a b xs)) fun y xs=>K .r (Sy mY n all y xs):=by kernel_rfl
theorem zcf(g:List Int->X->Option (List Int×(X⊕Y)))(x0:X)(r:X⊕Y)(l:Nat)(v1 v2 u:Value)(we:World)(Se:Nat->Prop)(F:List MF)(G:List FF)(w:World)(hY:Ek Tryz.prog l eI 3 mX mY g)
 (hg:St we Se (mX x0 u::F) (kE Tryz.prog [.q .i,.q .i] (n,all,()) [v1,v2]++G) w) (hM:wa fu n all g x0=some r):
 Calls Tryz.prog 280 #[.func (.yield l) #[] #[],v1,v2] w fun e w'=>(∃v,e= .returned v)/\ ∃u',St we Se (xfo (fun x=>mX x u') (fun y=>mY y u') r::F) G w':=by
 have hX:pX Tryz.prog (cfC fu):= .of IF rfl;have hD: ∀c,GR 66 c=true->sF Tryz.prog (cfC fu) 66 c:=fun c h=>ZD H3 Iy IH cN hX c h;refine Qm (args:=[.func (.yield l) #[] #[],v1,v2]) (c:=tj Tryz.f280) Tryz.func280 rfl (by kernel_rfl) fun rest=> ?_;have hi:uH Tryz.prog (Fr.wd ⟨we,Se,F,G⟩ []) ⟨0,[],[]⟩ (S0 mX mY g n all x0) (L ((([Value.func (.yield l) #[] #[],v1,v2]:List Value).zipIdx 0).map fun x=>(x.2,x.1)) rest) w:=by
  refine⟨⟨fun e he=> ?_,fun _ he=>absurd he Nm,fun e he q hq=> ?_,fun _ he=>absurd he Nm⟩,fun _=>KS (.int .i64 (l:Int)) [u],?_⟩
  ·obtain rfl:=xai.1 he;exact xdY
  ·simp only[S0,xad,Nm,or_false]at he;rcases he with rfl|rfl|rfl<;>cases hq<;>exact xdY
  ·have h1:St we Se (VO (fun _=>KS (.int .i64 (l:Int)) [u]) (0,.hid .i 3 X Y mX mY g x0)::F) (kE Tryz.prog [.q .i,.q .i] (n,all,()) [v1,v2]++G) w:=St.grp.2 (St.pr hY hg);exact h1.weak fun S w ha=>⟨rfl,ha.1,ha.2.1,ha.2.2⟩
 obtain⟨f2,hd⟩: ∃f2:List Int->Option (X⊕Y),f2=fun xs=>zj (fun L (q:X×List Int)=>w5 fu n all g q.1 q.2 (fun x xs _ _ _ _ _=>L (x,xs)) (fun x _ _ _=>some (.inl x)) fun y _=>some (.inr y)) fu (x0,xs):=⟨_,rfl⟩;obtain⟨f1,hf⟩: ∃f1:List Int->Option (X⊕Y),f1=fun xs=>bd (zj (fun L (z:List Int×Int)=>
  if z.2<(xs.length:Int)then
   zG z.2 z.1.length fun j=>
   nm (z.1.set j z.2) fun xs=>
   ze (z.2+1) fun i=>L (xs,i)
  else some z.1) fu (xs,0)) f2:=⟨_,rfl⟩
 have hj:(j8 n fun m=>ck (8*m<=281474976710656)<|nm (xae m 0) f1)=some r:=by rw[hf,hd];exact hM
 refine iY (x:=kA) (y:=tV (tj Tryz.f280)) ?_;obtain⟨K,k1,k2⟩:=Pc (fun xs:List Int=>(Tg.n,S1 mX mY g n all x0 xs)) f1 (fun i j h=>by
  have h2:Od.own .i 3 i=Od.own .i 3 j:=by simpa[S1]using h
  cases h2;rfl)
 have k1: ∀xs,K .n (S1 mX mY g n all x0 xs)=f1 xs:=k1;refine hD kA (by kernel_rfl) (N:=Nd.of 66) (K:=K) rfl (.inl rfl) (r:=r) ((ziM fu x0 K).trans (by simp only[k1];exact hj)) (fun t σ' hk Ds env w _ hR=> ?_) hi;obtain⟨xs,e1,e2⟩:=k2 _ _ _ hk;cases e1;refine iY (x:=kB) (y:=tV (tV (tj Tryz.f280))) ?_;obtain⟨K,k1,k2⟩:=Pc (fun ys:List Int=>(Tg.n,S2 mX mY g n all x0 xs ys)) f2 (fun i j h=>by
  have h2:Od.own .i 3 i=Od.own .i 3 j:=by simpa[S2]using h
  cases h2;rfl)
 have k1: ∀ys,K .n (S2 mX mY g n all x0 xs ys)=f2 ys:=k1;refine hD kB (by kernel_rfl) (N:=Nd.of 66) (K:=K) rfl (.inl rfl) (r:=r) ((ziy fu x0 xs K).trans (by simp only[k1];rw[hf]at e2;exact e2)) (fun t σ' hk Ds env w _ hR=> ?_) hR;obtain⟨ys,e3,e4⟩:=k2 _ _ _ hk;cases e3;have hm:uH Tryz.prog (Fr.wd ⟨we,Se,F,G⟩ Ds) ⟨0,[],[]⟩ (chS 3 mX mY g n all x0 ys) env w:=zdq (o:=0) (p:=2) rfl rfl rfl rfl rfl rfl rfl hR;refine sN (id:=2) (c:= .loop kC) ?_;obtain⟨body,hb⟩: ∃body:((X×List Int)->Option (X⊕Y))->(X×List Int)->Option (X⊕Y),body=fun L q=>w5 fu n all g q.1 q.2 (fun x xs _ _ _ _ _=>L (x,xs)) (fun x _ _ _=>some (.inl x)) fun y _=>some (.inr y):=⟨_,rfl⟩;refine DK (G:=Nat×(X×List Int)) (fun q Ds env w=>zj body q.1 q.2=some r/\uH Tryz.prog (Fr.wd ⟨we,Se,F,G⟩ Ds) ⟨0,[],[]⟩ (chS 3 mX mY g n all q.2.1 q.2.2) env w) (fun q=>q.1) (fu,(x0,ys)) ⟨by rw[hb];rw[hd]at e4;exact e4,hm⟩ ?_;rintro⟨k,x,xs⟩ Ds env w ⟨hl,hR⟩
 cases k with
 |zero=>exact(LA hl).elim
 |succ k=>
  have hl:=Mb hl
  obtain⟨K,k1,k2⟩:=Pc (ι:=(X×List Int×Int×Int×Int×Int×Int)⊕((X×Int×Int×List Int)⊕(Y×List Int)))
   (fun q=>match q with
    | .inl (x,xs,a,b,c,d,e)=>(Tg.n,Sn mX mY g n all x xs a b c d e)
    | .inr (.inl (x,a,b,xs))=>(Tg.r,Sr mX mY g n all x a b xs)
    | .inr (.inr (y,xs))=>(Tg.r,Sy mY n all y xs))
   (fun q=>match q with
    | .inl (x,xs,_,_,_,_,_)=>zj body k (x,xs)
    | .inr (.inl (x,_,_,_))=>some (.inl x)
    | .inr (.inr (y,_))=>some (.inr y)) (fun i j h=>by
   rcases i with⟨x,xs,a,b,c,d,e⟩|⟨x,a,b,xs⟩|⟨y,xs⟩<;>rcases j with⟨x',xs',a',b',c',d',e'⟩|⟨x',a',b',xs'⟩|⟨y',xs'⟩
   ·have h2:=congrArg (fun q:Tg×Sg=>q.2.ob) h
    simp only[Sn,xeq,xct,true_and,and_true]at h2
    obtain⟨h3,h4⟩:=h2
    cases h3;cases h4;rfl
   ·cases congrArg Prod.fst h
   ·cases congrArg Prod.fst h
   ·cases congrArg Prod.fst h
   ·have h2:=congrArg (fun q:Tg×Sg=>q.2.ob) h
    simp only[Sr,xeq,xct,true_and,and_true]at h2
    obtain⟨h3,h4⟩:=h2
    cases h3;rfl
   ·exact absurd (congrArg (fun q:Tg×Sg=>q.2.nx) h) (by simp[Sr,Sy])
   ·cases congrArg Prod.fst h
   ·exact absurd (congrArg (fun q:Tg×Sg=>q.2.nx) h) (by simp[Sr,Sy])
   ·have h2:=congrArg (fun q:Tg×Sg=>q.2.ob) h
    simp only[Sy,xeq,xct,true_and,and_true]at h2
    obtain⟨h3,h4⟩:=h2
    cases h3;rfl)
  have q1: ∀x xs a b c d e,K .n (Sn mX mY g n all x xs a b c d e)=zj body k (x,xs):=fun x xs a b c d e=>k1 (.inl (x,xs,a,b,c,d,e));have q2: ∀x a b xs,K .r (Sr mX mY g n all x a b xs)=some (.inl x):=fun x a b xs=>k1 (.inr (.inl (x,a,b,xs)));have q3: ∀y xs,K .r (Sy mY n all y xs)=some (.inr y):=fun y xs=>k1 (.inr (.inr (y,xs)));refine hD kC (by kernel_rfl) (N:=Nd.of 66) (K:=K) rfl (.inl rfl) (r:=r) ((zit fu x xs K).trans (by simp only[q1,q2,q3];rw[hb]at hl⊢;exact hl)) (fun t σ' hk Ds env w _ hR=> ?_) hR;obtain⟨i,e5,e6⟩:=k2 _ _ _ hk
  have fin: ∀(t:Tg) (env:yM) (w:World),(∃u',St we Se (xfo (fun x=>mX x u') (fun y=>mY y u') r::F) G (qc Ds w))->mj Ds w-> ∀a:Act,yu a=env->
   ∃v,(results Tryz.f280 a.tmps).run Tryz.prog (qc Ds w)= .ok v (qc Ds w)/\(∃v',xer v= .returned v')/\ ∃u',St we Se (xfo (fun x=>mX x u') (fun y=>mY y u') r::F) G (qc Ds w):=fun t env w h1 h2 a ha=>⟨_,YP (rs:=[]) (vs:=[]) rfl trivial,⟨_,rfl⟩,h1⟩
  rcases i with⟨x',xs',a,b,c,d,e⟩|⟨x',a,b,xs'⟩|⟨y',xs'⟩
  ·cases e5;exact⟨(k,(x',xs')),⟨e6,zdq (o:=2) (p:=4) rfl rfl rfl rfl rfl rfl rfl hR⟩,xbV k⟩
  ·cases e5;cases e6;obtain⟨hc,hR⟩:=WH hR;exact⟨.inr rfl,hc,fin .r _ _ (zeE (o:=2) rfl hR) hc⟩
  ·cases e5;cases e6;obtain⟨hc,hR⟩:=WH hR;exact⟨.inr rfl,hc,fin .r _ _ (zeD (o:=2) rfl hR) hc⟩
end
theorem dZ:R2 Tryz.prog (ZP fu):=by
 refine⟨by kernel_rfl,?_⟩;rintro⟨n,all,_⟩ X Y mX mY g x0 r hM l vs ha hY u we Se F G w hb
 match vs,ha with
 |[v1,v2],_=>exact zcf fu g x0 r l v1 v2 u we Se F G w hY hb hM
def Ze:EZ:=⟨198,[.i,.i],280,fun x=>[⟨.i,x.2.1⟩,⟨.i,x.1⟩]⟩
theorem po:Hs Tryz.prog Ze:=zft (s:=Ze) (cf:=⟨tt,[],w6,0,ex,[],[],[]⟩) H3 Iy IH cN (.of IF rfl) Tryz.func198 (by kernel_rfl) fun x=>by kernel_rfl
theorem Zn:yw ⟨338,[.d yO,.d .i],[.d .i],fun x=>Zy fu x.1 x.2.1,0⟩:=sq fu ⟨[],[],[(2,⟨⟨[(8,.d .i)],[]⟩,⟨[],[(.x 0,⟨[],[]⟩),(.r,⟨[(4,.d .i)],[]⟩)]⟩⟩)],[],[],[]⟩ Tryz.func338 (cN)
theorem W3:yw ⟨338,[.own .i 3,.d .i],[.d .i,.own .i 3],fun x=>vr fu x.1 x.2.1,1⟩:=OA (fu:=fu) ⟨[],[],[(2,⟨⟨[(8,.d .i)],[]⟩,⟨[0],[(.x 0,⟨[],[]⟩),(.r,⟨[(4,.d .i)],[]⟩)]⟩⟩)],[],[],[]⟩ Tryz.func338 (cN) (by kernel_rfl) fun pn x=>by kernel_rfl
theorem W4:yw ⟨283,[.d yO,.d .i],[.d .b],fun x=>kD fu x.1 x.2.1,0⟩:=sq fu w6 Tryz.func283 (cC (Zn fu)<|cN)
theorem Y5:yw ⟨283,[.own .i 3,.d .i],[.d .b,.own .i 3],fun x=>xy fu x.1 x.2.1,1⟩:=OA (fu:=fu) w6 Tryz.func283 (cC (W3 fu)<|cC (Zn fu)<|cN) (by kernel_rfl) fun pn x=>by kernel_rfl
def vq:W1:=⟨200,[.d M8,.own .i 3],[.d M8,.own .i 3],fun x=>xi fu x.1 x.2.1,1⟩
theorem W2:yw (vq fu):=OA (fu:=fu) ⟨[],[(262149,⟨[1,5],[(.n,⟨[(8,.d M8),(9,.d .i),(11,.d .b)],[]⟩)]⟩)],[(3,⟨⟨[(5,.own y9 22),(10,.d .i),(1,.own .i 3)],[]⟩,⟨[],[(.x 0,⟨[(5,.own y9 22),(1,.own .i 3)],[]⟩)]⟩⟩)],[],[],[]⟩ Tryz.func200 (cC (Y5 fu)<|cC (W4 fu)<|cN) (by kernel_rfl) fun pn x=>by kernel_rfl
def Uw:W1:=⟨126,[.d y9,.d M8,.d zZ],[.own y9 22],fun x=>kM fu x.1 x.2.1 x.2.2.1,0⟩
theorem p8:yw (Uw fu):=IM (s:=Uw fu) (cf:=⟨tt,[kI fu,KI fu,vq fu,QQ fu],⟨[3,4],[],[(3,⟨⟨[(3,.var y9 22),(4,.var M8 55),(7,.bo y9 22 55),(8,.d .i)],[]⟩,⟨[],[(.x 0,⟨[(3,.var y9 22),(4,.var M8 55),(7,.bo y9 22 55)],[]⟩)]⟩⟩),(6,⟨⟨[(3,.var y9 22),(4,.var M8 55),(7,.bo y9 22 55)],[]⟩,⟨[],[(.x 1,⟨[],[]⟩)]⟩⟩)],[(13,[56,57])],[],[7]⟩,fu,ex,[],[Ze],[ZP fu]⟩) H3 Iy IH (cC (Ur fu)<|cC (Vi fu)<|cC (W2 fu)<|cC (Zf fu)<|cN) ⟨IF,fun s h=>by obtain rfl:=xai.1 h;exact po,fun _ h=>absurd h Nm,fun s h=>by obtain rfl:=xai.1 h;exact dZ fu,rfl⟩ Tryz.func126 (by kernel_rfl) rfl fun x r h=>(id (by kernel_rfl):H8 ⟨tt,[kI fu,KI fu,vq fu,QQ fu],⟨[3,4],[],[(3,⟨⟨[(3,.var y9 22),(4,.var M8 55),(7,.bo y9 22 55),(8,.d .i)],[]⟩,⟨[],[(.x 0,⟨[(3,.var y9 22),(4,.var M8 55),(7,.bo y9 22 55)],[]⟩)]⟩⟩),(6,⟨⟨[(3,.var y9 22),(4,.var M8 55),(7,.bo y9 22 55)],[]⟩,⟨[],[(.x 1,⟨[],[]⟩)]⟩⟩)],[(13,[56,57])],[],[7]⟩,fu,ex,[],[Ze],[ZP fu]⟩ Tryz.f126 [.d y9,.d M8,.d zZ] [.own y9 22] x=kM fu x.1 x.2.1 x.2.2.1).trans h
theorem Bf:yw ⟨24,[.d y9,.d y9],[.d .b],fun x=>u7 fu x.1 x.2.1,0⟩:=sq fu ⟨[],[],[(5,⟨⟨[(5,.d .i)],[]⟩,⟨[0,1],[(.x 0,⟨[],[]⟩),(.r,⟨[(4,.d .b)],[]⟩)]⟩⟩)],[],[],[]⟩ Tryz.func24 (cC (WU fu)<|cC (yV fu)<|cN)
theorem pF:yw ⟨128,[.d y9,.d y9],[.d .i],fun x=>qs fu x.1 x.2.1,0⟩:=sq fu w6 Tryz.func128 (cC (Bf fu)<|cN)
theorem FW:yw ⟨250,[.d zZ,.d .i],[.d zZ,.d .i],fun x=>Vn fu x.1 x.2.1,0⟩:=sq fu ⟨[],[],[(6,⟨⟨[(4,.var zZ 30),(6,.var zZ 30),(9,.var zZ 30)],[]⟩,⟨[],[(.r,⟨[(4,.var zZ 30)],[(5,.ci 0)]⟩)]⟩⟩),(11,⟨⟨[(1,.d .i),(2,.q zZ),(52,.d .i),(11,.var zZ 30)],[]⟩,⟨[4,6,9,10],[(.x 2,⟨[(1,.d .i),(2,.q zZ),(11,.var zZ 30)],[]⟩)]⟩⟩)],[],[],[]⟩ Tryz.func250 (cC (vI fu)<|cC (sS fu)<|cC (WU fu)<|cC (um fu)<|cC (xl fu)<|cC (vD fu)<|cC (QB fu)<|cC (eZ fu)<|cC (xf fu)<|cN)
theorem dC:yw ⟨116,[.d y9],[.d .i],fun x=>Zl fu x.1,0⟩:=sq fu w6 Tryz.func116 (cC (yV fu)<|cN)
theorem XR:yw ⟨182,[.d y9],[.d zZ,.d .i],fun x=>wo fu x.1,0⟩:=sq fu ⟨[],[(524297,⟨[0,2,5],[(.n,⟨[(22,.d .i),(24,.d .b)],[]⟩)]⟩)],[(7,⟨⟨[(23,.d .i),(0,.own zZ 30),(2,.var zZ 30),(5,.var zZ 30)],[(21,.al 0)]⟩,⟨[],[(.x 0,⟨[(0,.own zZ 30),(2,.var zZ 30),(5,.var zZ 30)],[]⟩)]⟩⟩)],[],[],[]⟩ Tryz.func182 (cC (YW fu)<|cC (um fu)<|cC (xl fu)<|cC (dC fu)<|cC (yV fu)<|cC (FW fu)<|cC (eZ fu)<|cC (xf fu)<|cN)
theorem rL:yw ⟨122,[.d y9,.d .i],[.d .i],fun x=>Yh fu x.1 x.2.1,0⟩:=sq fu ⟨[],[],[(5,⟨⟨[(9,.d .i),(8,.var zZ 30)],[]⟩,⟨[5,7],[(.x 0,⟨[(9,.d .i)],[]⟩)]⟩⟩)],[(2,[])],[],[]⟩ Tryz.func122 (cC (xl fu)<|cC (xf fu)<|cC (XR fu)<|cC (WU fu)<|cN)
theorem CK:yw ⟨120,[.d y9],[.d .b],fun x=>XD fu x.1,0⟩:=sq fu ⟨[],[],[],[(2,[])],[],[]⟩ Tryz.func120 (cC (xl fu)<|cC (xf fu)<|cC (XR fu)<|cC (QB fu)<|cN)
theorem lP:yw ⟨261,[.d yO,.d yO],[.d .i],fun x=>wz fu x.1 x.2.1,0⟩:=sq fu ⟨[],[],[(4,⟨⟨[(5,.d .i)],[]⟩,⟨[],[(.x 0,⟨[],[]⟩),(.r,⟨[(4,.d .i)],[]⟩)]⟩⟩)],[],[],[]⟩ Tryz.func261 (cN)
def ZU:W1:=⟨376,[.d yO,.q .i],[.d .b],fun x=>qu fu x.1 x.2.1,0⟩
theorem dV:yw (ZU fu):=sq fu w6 Tryz.func376 (cN)
def QH:W1:=⟨375,[.d yO,.d .i],[.own .i 3],fun x=>uW fu x.1 x.2.1,0⟩
theorem Bh:yw (QH fu):=sq fu ⟨[],[],[(3,⟨⟨[(13,.d .i),(5,.own .i 3)],[]⟩,⟨[],[(.x 0,⟨[(5,.own .i 3)],[]⟩)]⟩⟩)],[],[],[]⟩ Tryz.func375 (cC (Kl fu)<|cN)
def Jj:W1:=⟨351,[.d (.l yO),.d .i],[.d .i],fun x=>Zh fu x.1 x.2.1,0⟩
theorem cH:yw (Jj fu):=sq fu ⟨[],[(393223,⟨[],[(.n,⟨[(0,.d (.l yO)),(17,.d (.l yO)),(18,.d .i),(20,.d .b)],[]⟩)]⟩)],[(5,⟨⟨[(19,.d .i)],[]⟩,⟨[],[(.x 0,⟨[],[]⟩),(.r,⟨[],[(4,.ci 1)]⟩)]⟩⟩)],[],[],[]⟩ Tryz.func351 (cC (vT fu)<|cN)
def Yg:mJ:=⟨377,.i,23,3,fun xss ix r a p lo n=>wY fu xss ix r a p lo n⟩
theorem rU(pn:Value)(xss:List (List Int))(ix:List Nat)(r:Nat)(a p:Int)(lo n:Nat):zfG ⟨tt,[],(⟨[],[],[(1,⟨⟨[(3,.matv .i 23 3),(13,.view 0),(0,.row 0),(15,.d .i)],[]⟩,⟨[],[(.x 0,⟨[(3,.matv .i 23 3)],[]⟩)]⟩⟩),(5,⟨⟨[(3,.matv .i 23 3),(13,.view 0),(0,.row 0),(23,.row 0),(9,.row 0),(25,.d .i)],[]⟩,⟨[],[(.x 2,⟨[(3,.matv .i 23 3),(13,.view 0),(0,.row 0)],[]⟩)]⟩⟩)],[],[],[]⟩:An),fu,ex,[],[],[]⟩ Tryz.f377 .i 23 3 pn xss ix r a p lo n=wY fu xss ix r a p lo n:=by kernel_rfl
theorem r8:HC Tryz.prog (Yg fu):=zfL (s:=Yg fu) (cf:=⟨tt,[],(⟨[],[],[(1,⟨⟨[(3,.matv .i 23 3),(13,.view 0),(0,.row 0),(15,.d .i)],[]⟩,⟨[],[(.x 0,⟨[(3,.matv .i 23 3)],[]⟩)]⟩⟩),(5,⟨⟨[(3,.matv .i 23 3),(13,.view 0),(0,.row 0),(23,.row 0),(9,.row 0),(25,.d .i)],[]⟩,⟨[],[(.x 2,⟨[(3,.matv .i 23 3),(13,.view 0),(0,.row 0)],[]⟩)]⟩⟩)],[],[],[]⟩:An),fu,ex,[],[],[]⟩) H3 Iy IH cN (.of IF rfl) Tryz.func377 (by kernel_rfl) fun pn xss ix r a p lo n z h=>(rU fu pn xss ix r a p lo n).trans h
def vm:W1:=⟨267,[.d (.l yO),.fn [yO] [.b]],[.d .i],fun x=>yz fu x.1 (fun z0=>x.2.1 (z0,())),0⟩
theorem jY:yw (vm fu):=sq fu ⟨[],[],[(2,⟨⟨[(8,.d .i)],[]⟩,⟨[],[(.x 0,⟨[],[]⟩),(.r,⟨[(4,.d .i)],[]⟩)]⟩⟩)],[],[],[]⟩ Tryz.func267 (cN)
def KH:W1:=⟨352,[.d (.l yO),.d .i],[.d (.l yO),.d .i],fun x=>jJ fu x.1 x.2.1,0⟩
theorem oj:yw (KH fu):=IM (s:=KH fu) (cf:=⟨tt,[Jj fu,QH fu,vm fu,oV fu,ZU fu],⟨[],[],[(6,⟨⟨[(7,.mat .i 23 3),(25,.d .i)],[]⟩,⟨[],[(.x 0,⟨[(7,.mat .i 23 3)],[]⟩)]⟩⟩),(12,⟨⟨[(7,.mat .i 23 3),(10,.d .i),(11,.var .i 3)],[]⟩,⟨[],[(.x 2,⟨[(7,.mat .i 23 3),(10,.d .i)],[]⟩)]⟩⟩),(19,⟨⟨[(7,.mat .i 23 3),(90,.row 0),(92,.d .i)],[]⟩,⟨[],[(.x 4,⟨[(7,.mat .i 23 3)],[]⟩)]⟩⟩)],[(16,[]),(23,[]),(24,[])],[52,117,128],[33]⟩,fu,ex,[Yg fu],[],[]⟩) H3 Iy IH (cC (cH fu)<|cC (Bh fu)<|cC (jY fu)<|cC (pB fu)<|cC (dV fu)<|cN) ⟨IF,fun _ h=>absurd h Nm,fun s h=>by obtain rfl:=xai.1 h;exact r8 fu,fun _ h=>absurd h Nm,rfl⟩ Tryz.func352 (by kernel_rfl) rfl fun x r h=>(id (by kernel_rfl):H8 ⟨tt,[Jj fu,QH fu,vm fu,oV fu,ZU fu],⟨[],[],[(6,⟨⟨[(7,.mat .i 23 3),(25,.d .i)],[]⟩,⟨[],[(.x 0,⟨[(7,.mat .i 23 3)],[]⟩)]⟩⟩),(12,⟨⟨[(7,.mat .i 23 3),(10,.d .i),(11,.var .i 3)],[]⟩,⟨[],[(.x 2,⟨[(7,.mat .i 23 3),(10,.d .i)],[]⟩)]⟩⟩),(19,⟨⟨[(7,.mat .i 23 3),(90,.row 0),(92,.d .i)],[]⟩,⟨[],[(.x 4,⟨[(7,.mat .i 23 3)],[]⟩)]⟩⟩)],[(16,[]),(23,[]),(24,[])],[52,117,128],[33]⟩,fu,ex,[Yg fu],[],[]⟩ Tryz.f352 [.d (.l yO),.d .i] [.d (.l yO),.d .i] x=jJ fu x.1 x.2.1).trans h
theorem rJ:yw ⟨379,[.d .i],[.d .b],fun x=>kP fu x.1,0⟩:=sq fu w6 Tryz.func379 (cN)
theorem Xl:yw ⟨378,[.d yO,.fn [.i] [.b]],[.d .i],fun x=>yZ fu x.1 (fun z0=>x.2.1 (z0,())),0⟩:=sq fu ⟨[],[],[(2,⟨⟨[(8,.d .i)],[]⟩,⟨[],[(.x 0,⟨[],[]⟩),(.r,⟨[(4,.d .i)],[]⟩)]⟩⟩)],[],[],[]⟩ Tryz.func378 (cN)
theorem gn:yw ⟨355,[.d yO],[.d .i],fun x=>YL fu x.1,0⟩:=sq fu w6 Tryz.func355 (cC (Xl fu)<|cC (rJ fu)<|cN)
theorem sw:yw ⟨354,[.d yO,.q .i],[.d .b],fun x=>wK fu x.1 x.2.1,0⟩:=sq fu w6 Tryz.func354 (cC (gn fu)<|cN)
theorem YY:yw ⟨353,[.d (.l yO),.fn [yO] [.b]],[.d .b],fun x=>xo fu x.1 (fun z0=>x.2.1 (z0,())),0⟩:=sq fu w6 Tryz.func353 (cC (jY fu)<|cN)
theorem Eb:yw ⟨322,[.d (.l yO),.d .i,.d .i],[.own yO 23,.d .i],fun x=>Y4 fu x.1 x.2.1 x.2.2.1,0⟩:=sq fu ⟨[],[(131076,⟨[],[(.n,⟨[],[]⟩),(.r,⟨[],[(6,.nil),(7,.ci 1)]⟩)]⟩),(458760,⟨[10],[(.n,⟨[(1,.d .i),(2,.d .i),(8,.d (.l yO)),(46,.d .i),(48,.d .b)],[]⟩)]⟩),(851982,⟨[10,12],[(.n,⟨[(1,.d .i),(2,.d .i),(8,.d (.l yO)),(11,.q .i),(46,.d .i),(47,.d .i),(58,.d (.l yO)),(59,.d .i),(61,.d .b)],[]⟩)]⟩)],[(6,⟨⟨[(10,.own yO 23),(47,.d .i)],[]⟩,⟨[],[(.x 0,⟨[(10,.own yO 23)],[]⟩)]⟩⟩),(12,⟨⟨[(60,.d .i),(10,.own yO 23),(12,.own .i 3)],[]⟩,⟨[],[(.x 2,⟨[(10,.own yO 23),(12,.own .i 3)],[]⟩)]⟩⟩)],[],[],[]⟩ Tryz.func322 (cC (oj fu)<|cC (YY fu)<|cC (sw fu)<|cC (gn fu)<|cC (Kl fu)<|cC (cH fu)<|cN)
theorem KJ:yw ⟨194,[.d yO,.d yO,.d .i],[.own .i 3,.own .i 3,.d .i],fun x=>qH fu x.1 x.2.1 x.2.2.1,0⟩:=sq fu w6 Tryz.func194 (cC (vT fu)<|cC (xt fu)<|cC (Xd fu)<|cN)
theorem Kg:yw ⟨321,[.d yO,.d zZ,.d yO,.d .i],[.own .i 3,.d .i],fun x=>jC fu x.1 x.2.1 x.2.2.1 x.2.2.2.1,0⟩:=sq fu ⟨[],[],[(9,⟨⟨[(11,.own .i 3),(13,.d yO),(14,.d .i)],[]⟩,⟨[10,12],[(.x 0,⟨[(11,.own .i 3)],[]⟩)]⟩⟩)],[],[],[]⟩ Tryz.func321 (cC (vI fu)<|cC (kY fu)<|cC (vT fu)<|cC (xt fu)<|cC (Xd fu)<|cC (QB fu)<|cN)
theorem Bq:yw ⟨259,[.d yO,.d .i],[.own yO 23],fun x=>Zq fu x.1 x.2.1,0⟩:=sq fu ⟨[],[],[(4,⟨⟨[(6,.mat .i 23 3),(23,.d .i)],[]⟩,⟨[],[(.x 0,⟨[(6,.mat .i 23 3)],[]⟩)]⟩⟩),(11,⟨⟨[(6,.mat .i 23 3),(10,.d yO),(8,.d yO),(43,.d .i)],[]⟩,⟨[],[(.x 2,⟨[(6,.mat .i 23 3)],[]⟩)]⟩⟩),(14,⟨⟨[(6,.mat .i 23 3),(48,.d .i)],[]⟩,⟨[],[(.x 4,⟨[(6,.mat .i 23 3)],[]⟩)]⟩⟩)],[],[],[20]⟩ Tryz.func259 (cC (xf fu)<|cC (Kg fu)<|cC (Vm fu)<|cC (KJ fu)<|cC (Eb fu)<|cN)
theorem Np:yw ⟨320,[.d yO,.d yO,.d .i],[.own .i 3],fun x=>K7 fu x.1 x.2.1 x.2.2.1,0⟩:=sq fu w6 Tryz.func320 (cC (KJ fu)<|cN)
theorem Ij:yw ⟨318,[.d yO,.d yO,.d .i],[.d yO],fun x=>QW fu x.1 x.2.1 x.2.2.1,0⟩:=sq fu w6 Tryz.func318 (cC (Kt fu)<|cN)
theorem im:yw ⟨316,[.d .i,.q yO,.q .i],[.d .i],fun x=>ug fu x.1 x.2.1 x.2.2.1,0⟩:=sq fu w6 Tryz.func316 (cC (Kl fu)<|cN)
theorem Ew:yw ⟨350,[.d yO,.d yO,.d .i],[.own .i 3,.d .i],fun x=>Vf fu x.1 x.2.1 x.2.2.1,0⟩:=sq fu w6 Tryz.func350 (cC (KB fu)<|cC (vT fu)<|cC (xt fu)<|cN)
theorem AU:yw ⟨319,[.d yO,.d .i,.d yO,.d .i],[.own .i 3],fun x=>X5 fu x.1 x.2.1 x.2.2.1 x.2.2.2.1,0⟩:=sq fu w6 Tryz.func319 (cC (Kg fu)<|cC (gk fu)<|cC (xf fu)<|cC (Ew fu)<|cN)
theorem rM:yw ⟨258,[.d yO,.d (.l yO),.d .i,.d yO],[.own yO 23],fun x=>Ys fu x.1 x.2.1 x.2.2.1 x.2.2.2.1,0⟩:=sq fu ⟨[],[(524297,⟨[10],[(.n,⟨[(11,.d .i),(28,.d (.l yO)),(29,.d .i),(31,.d .b)],[]⟩)]⟩),(983056,⟨[10],[(.n,⟨[(1,.d (.l yO)),(6,.q .i),(7,.q yO),(11,.d .i),(13,.d yO),(28,.d (.l yO)),(29,.d .i),(30,.d .i),(73,.d .b)],[]⟩)]⟩)],[(4,⟨⟨[(10,.own yO 23),(11,.d .i)],[]⟩,⟨[],[(.x 0,⟨[(10,.own yO 23)],[]⟩)]⟩⟩),(7,⟨⟨[(1,.d (.l yO)),(6,.q .i),(7,.q yO),(10,.own yO 23),(30,.d .i)],[]⟩,⟨[],[(.x 0,⟨[(10,.own yO 23)],[]⟩),(.x 2,⟨[(1,.d (.l yO)),(6,.q .i),(7,.q yO),(10,.own yO 23)],[]⟩)]⟩⟩),(10,⟨⟨[(10,.own yO 23),(14,.d .i)],[]⟩,⟨[],[(.x 0,⟨[(10,.own yO 23)],[]⟩),(.x 4,⟨[(10,.own yO 23)],[]⟩)]⟩⟩)],[],[],[]⟩ Tryz.func258 (cC (Np fu)<|cC (im fu)<|cC (Ij fu)<|cC (AU fu)<|cN)
theorem UG:yw ⟨349,[.d yO,.d .i],[.own .i 3,.d .i],fun x=>v7 fu x.1 x.2.1,0⟩:=sq fu w6 Tryz.func349 (cC (vT fu)<|cC (xt fu)<|cC (Kf fu)<|cN)
theorem BW:yw ⟨315,[.d yO,.d .i],[.own .i 3,.d .i],fun x=>QM fu x.1 x.2.1,0⟩:=sq fu w6 Tryz.func315 (cC (UG fu)<|cN)
theorem r9:yw ⟨312,[.d yO,.d .i],[.own .i 3,.d .i],fun x=>Yp fu x.1 x.2.1,0⟩:=sq fu ⟨[],[(458760,⟨[7,17],[(.n,⟨[(1,.d .i),(18,.d .i),(20,.d .b)],[]⟩)]⟩)],[(6,⟨⟨[(7,.own .i 3),(19,.d .i),(17,.own .i 3)],[]⟩,⟨[],[(.x 0,⟨[(7,.own .i 3)],[]⟩)]⟩⟩)],[],[],[]⟩ Tryz.func312 (cC (vT fu)<|cC (xt fu)<|cN)
theorem AL:yw ⟨311,[.d yO,.d .i],[.own .i 3,.d .i],fun x=>XG fu x.1 x.2.1,0⟩:=sq fu w6 Tryz.func311 (cC (UG fu)<|cN)
theorem sD:yw ⟨253,[.d yO,.d .i],[.d .b,.d .i],fun x=>uG fu x.1 x.2.1,0⟩:=sq fu w6 Tryz.func253 (cC (r9 fu)<|cC (Kt fu)<|cC (AL fu)<|cN)
theorem rP:yw ⟨257,[.d yO,.d .i],[.d yO,.d .i],fun x=>jb fu x.1 x.2.1,0⟩:=sq fu w6 Tryz.func257 (cC (BW fu)<|cC (sD fu)<|cN)
theorem Jw:yw ⟨202,[.d .u],[.d .i],fun x=>qW fu x.1,0⟩:=sq fu w6 Tryz.func202 (cC (Zv fu)<|cN)
theorem kH:yw ⟨356,[.own yO 23,.d .i,.d .i,.fn [yO,yO] [.i]],[.own yO 23],fun x=>xk fu x.1 x.2.1 x.2.2.1 (fun z0 z1=>x.2.2.2.1 (z0,z1,())),1⟩:=OA (fu:=fu) ⟨[],[],[(1,⟨⟨[(8,.d .i),(0,.own yO 23)],[]⟩,⟨[],[(.x 0,⟨[(0,.own yO 23)],[]⟩)]⟩⟩),(4,⟨⟨[(1,.d .i),(2,.d .i),(9,.d .i),(0,.own yO 23)],[]⟩,⟨[],[(.x 2,⟨[(1,.d .i),(2,.d .i),(0,.own yO 23)],[]⟩)]⟩⟩)],[(6,[])],[],[]⟩ Tryz.func356 (cN) (by kernel_rfl) fun pn x=>by kernel_rfl
def ZV:W1:=⟨323,[.own yO 23,.d .i,.d .i,.d .i,.fn [yO,yO] [.i]],[.own yO 23],fun x=>qv fu x.1 x.2.1 x.2.2.1 x.2.2.2.1 (fun z0 z1=>x.2.2.2.2.1 (z0,z1,())),1⟩
theorem qB: ∀fu:Nat,yw (ZV fu)
 |0=>sg0 (by kernel_rfl) fun _=>rfl
 |fu+1=>OA (fu:=fu) ⟨[],[],[(2,⟨⟨[(1,.d .i),(2,.d .i),(3,.d .i),(0,.own yO 23)],[(10,.kb true),(11,.kb true)]⟩,⟨[],[(.r,⟨[(0,.own yO 23)],[]⟩)]⟩⟩)],[],[],[]⟩ Tryz.func323 (cC (qB fu)<|cC (kH fu)<|cN) (by kernel_rfl) fun pn x=>by kernel_rfl
theorem Xn:yw ⟨260,[.own yO 23,.fn [yO,yO] [.i]],[.own yO 23],fun x=>xw fu x.1 (fun z0 z1=>x.2.1 (z0,z1,())),1⟩:=OA (fu:=fu) w6 Tryz.func260 (cC (Jw fu)<|cC (qB fu)<|cN) (by kernel_rfl) fun pn x=>by kernel_rfl
theorem CW:yw ⟨187,[.d yO,.d .i,.d yO],[.own yO 23,.d .i],fun x=>Za fu x.1 x.2.1 x.2.2.1,0⟩:=sq fu w6 Tryz.func187 (cC (rP fu)<|cC (rM fu)<|cC (Bq fu)<|cC (Xn fu)<|cC (lP fu)<|cN)
theorem CL:yw ⟨184,[.d .i],[.d .i,.d .i],fun x=>xJ fu x.1,0⟩:=sq fu ⟨[],[],[(4,⟨⟨[(0,.d .i)],[]⟩,⟨[],[(.x 0,⟨[(0,.d .i)],[]⟩)]⟩⟩)],[],[],[]⟩ Tryz.func184 (cC (Wq fu)<|cN)
theorem B7:yw ⟨185,[.d y9,.d .i],[.d .b,.d .i],fun x=>X8 fu x.1 x.2.1,0⟩:=sq fu w6 Tryz.func185 (cC (yV fu)<|cC (XR fu)<|cC (Y0 fu)<|cC (Wq fu)<|cC (sD fu)<|cN)
theorem Bk:yw ⟨121,[.d y9,.d yO],[.d .i,.own yO 23],fun x=>X6 fu x.1 x.2.1,0⟩:=sq fu ⟨[],[],[(4,⟨⟨[(6,.d .i),(7,.d .i),(8,.own yO 23),(9,.d .i),(10,.d .i)],[]⟩,⟨[],[(.x 0,⟨[(6,.d .i),(8,.own yO 23)],[]⟩)]⟩⟩)],[],[],[]⟩ Tryz.func121 (cC (CL fu)<|cC (B7 fu)<|cC (Y0 fu)<|cC (CW fu)<|cN)
theorem o8:yw ⟨263,[.d .i],[.d zZ],fun x=>Kb fu x.1,0⟩:=sq fu ⟨[],[(262149,⟨[2,3],[(.n,⟨[(0,.d .i),(6,.d .i),(8,.d .b)],[]⟩)]⟩)],[(3,⟨⟨[(7,.d .i),(2,.var zZ 30),(3,.var zZ 30)],[]⟩,⟨[],[(.x 0,⟨[(2,.var zZ 30),(3,.var zZ 30)],[]⟩)]⟩⟩)],[(5,[])],[],[]⟩ Tryz.func263 (cC (X2 fu)<|cC (xf fu)<|cC (xl fu)<|cN)
theorem r7:yw ⟨262,[.d zZ,.d .i],[.d zZ],fun x=>kL fu x.1 x.2.1,0⟩:=sq fu ⟨[2],[],[(2,⟨⟨[(1,.d .i),(2,.var zZ 30),(5,.var zZ 30)],[]⟩,⟨[4],[(.x 0,⟨[(5,.var zZ 30)],[]⟩)]⟩⟩)],[],[],[]⟩ Tryz.func262 (cC (xf fu)<|cC (xl fu)<|cN)
theorem ry:yw ⟨364,[.d y9,.d y9],[.d zZ],fun x=>UJ fu x.1 x.2.1,0⟩:=sq fu ⟨[],[(262149,⟨[4,5],[(.n,⟨[(1,.d y9),(9,.d y9),(10,.d .i),(12,.d .b)],[]⟩)]⟩)],[(3,⟨⟨[(11,.d .i),(4,.var zZ 30),(5,.var zZ 30)],[]⟩,⟨[],[(.x 0,⟨[(4,.var zZ 30),(5,.var zZ 30)],[]⟩)]⟩⟩)],[],[],[]⟩ Tryz.func364 (cC (xf fu)<|cC (um fu)<|cC (xl fu)<|cN)
theorem rQ:yw ⟨324,[.d y9,.d y9],[.d zZ,.d .i],fun x=>UM fu x.1 x.2.1,0⟩:=sq fu w6 Tryz.func324 (cC (ry fu)<|cN)
theorem oH:yw ⟨264,[.d y9],[.d zZ],fun x=>KD fu x.1,0⟩:=sq fu w6 Tryz.func264 (cC (rQ fu)<|cN)
theorem Cj:yw ⟨190,[.d y9,.d .i,.d .i],[.d .i,.d .i],fun x=>cj fu x.1 x.2.1 x.2.2.1,0⟩:=sq fu ⟨[],[],[(13,⟨⟨[(16,.d .i),(15,.var zZ 30)],[]⟩,⟨[8,13,14],[(.x 0,⟨[],[]⟩),(.r,⟨[(6,.d .i)],[(7,.ci 0)]⟩)]⟩⟩)],[],[],[]⟩ Tryz.func190 (cC (r7 fu)<|cC (o8 fu)<|cC (oH fu)<|cC (WU fu)<|cC (xf fu)<|cC (xl fu)<|cC (XR fu)<|cC (Zf fu)<|cC (Wq fu)<|cN)
theorem gx:yw ⟨193,[.d yO,.q yO,.q .i],[.d .b],fun x=>ie fu x.1 x.2.1 x.2.2.1,0⟩:=sq fu w6 Tryz.func193 (cC (KJ fu)<|cN)
theorem re:yw ⟨124,[.d y9,.d (.l yO),.d .i],[.own y9 22,.d y9,.d (.l yO)],fun x=>Yu fu x.1 x.2.1 x.2.2.1,0⟩:=sq fu ⟨[],[],[(2,⟨⟨[(0,.d y9),(1,.d (.l yO))],[(9,.nil)]⟩,⟨[],[(.x 0,⟨[(0,.d y9),(1,.d (.l yO))],[(9,.nil)]⟩)]⟩⟩)],[],[],[]⟩ Tryz.func124 (cC (Vi fu)<|cC (gx fu)<|cC (Y0 fu)<|cC (UU fu)<|cC (Cj fu)<|cN)
theorem ji:yw ⟨284,[.own y9 22,.d .i,.d .i,.fn [y9,y9] [.i]],[.own y9 22],fun x=>y6 fu x.1 x.2.1 x.2.2.1 (fun z0 z1=>x.2.2.2.1 (z0,z1,())),1⟩:=OA (fu:=fu) ⟨[],[],[(1,⟨⟨[(8,.d .i),(0,.own y9 22)],[]⟩,⟨[],[(.x 0,⟨[(0,.own y9 22)],[]⟩)]⟩⟩),(4,⟨⟨[(1,.d .i),(2,.d .i),(9,.d .i),(0,.own y9 22)],[]⟩,⟨[],[(.x 2,⟨[(1,.d .i),(2,.d .i),(0,.own y9 22)],[]⟩)]⟩⟩)],[(6,[])],[],[]⟩ Tryz.func284 (cN) (by kernel_rfl) fun pn x=>by kernel_rfl
def uu:W1:=⟨201,[.own y9 22,.d .i,.d .i,.d .i,.fn [y9,y9] [.i]],[.own y9 22],fun x=>vj fu x.1 x.2.1 x.2.2.1 x.2.2.2.1 (fun z0 z1=>x.2.2.2.2.1 (z0,z1,())),1⟩
theorem vc: ∀fu:Nat,yw (uu fu)
 |0=>sg0 (by kernel_rfl) fun _=>rfl
 |fu+1=>OA (fu:=fu) ⟨[],[],[(2,⟨⟨[(1,.d .i),(2,.d .i),(3,.d .i),(0,.own y9 22)],[(10,.kb true),(11,.kb true)]⟩,⟨[],[(.r,⟨[(0,.own y9 22)],[]⟩)]⟩⟩)],[],[],[]⟩ Tryz.func201 (cC (vc fu)<|cC (ji fu)<|cN) (by kernel_rfl) fun pn x=>by kernel_rfl
theorem kG:yw ⟨127,[.own y9 22,.fn [y9,y9] [.i]],[.own y9 22],fun x=>yn fu x.1 (fun z0 z1=>x.2.1 (z0,z1,())),1⟩:=OA (fu:=fu) w6 Tryz.func127 (cC (vc fu)<|cC (Jw fu)<|cN) (by kernel_rfl) fun pn x=>by kernel_rfl
theorem AG:yw ⟨60,[.d y9,.d yO],[.own y9 22,.d .b],fun x=>XW fu x.1 x.2.1,0⟩:=sq fu w6 Tryz.func60 (cC (pF fu)<|cC (CK fu)<|cC (Bk fu)<|cC (rL fu)<|cC (WI fu)<|cC (re fu)<|cC (UU fu)<|cC (p8 fu)<|cC (kG fu)<|cN)
theorem Cz:yw ⟨161,[.d zZ,.d .i],[.d zZ],fun x=>XJ fu x.1 x.2.1,0⟩:=sq fu ⟨[],[],[(3,⟨⟨[(8,.d .i),(5,.var zZ 30)],[]⟩,⟨[4],[(.x 0,⟨[(5,.var zZ 30)],[]⟩)]⟩⟩)],[],[],[]⟩ Tryz.func161 (cC (xf fu)<|cC (xl fu)<|cN)
theorem sj:yw ⟨179,[.d y9,.d y9],[.own zZ 30,.own zZ 30,.d .i],fun x=>Yo fu x.1 x.2.1,0⟩:=sq fu ⟨[],[],[(9,⟨⟨[(1,.d y9),(9,.own zZ 30),(11,.d .i),(10,.own zZ 30)],[]⟩,⟨[8],[(.x 0,⟨[(9,.own zZ 30),(10,.own zZ 30)],[]⟩)]⟩⟩)],[(12,[]),(13,[1])],[],[]⟩ Tryz.func179 (cC (Cz fu)<|cC (X2 fu)<|cC (Yk fu)<|cC (yV fu)<|cC (fZ fu)<|cN)
theorem GM:yw ⟨118,[.d y9,.d y9],[.own zZ 30],fun x=>QK fu x.1 x.2.1,0⟩:=sq fu ⟨[],[],[(3,⟨⟨[(6,.d y9),(7,.own zZ 30)],[]⟩,⟨[5],[(.x 0,⟨[(6,.d y9)],[]⟩)]⟩⟩)],[],[],[]⟩ Tryz.func118 (cC (mQ fu)<|cC (sj fu)<|cC (Yk fu)<|cC (Zf fu)<|cC (Y9 fu)<|cN)
theorem gJ:yw ⟨181,[.d .i,.d zZ],[.d zZ],fun x=>Xi fu x.1 x.2.1,0⟩:=sq fu w6 Tryz.func181 (cC (xf fu)<|cC (xl fu)<|cN)
theorem rK:yw ⟨119,[.d y9],[.own zZ 30],fun x=>Yj fu x.1,0⟩:=sq fu w6 Tryz.func119 (cC (yV fu)<|cC (gJ fu)<|cC (y3 fu)<|cN)
theorem Oa:yw ⟨117,[.d y9,.d y9],[.own zZ 30],fun x=>fi fu x.1 x.2.1,0⟩:=sq fu w6 Tryz.func117 (cC (Vi fu)<|cN)
theorem my:yw ⟨59,[.d y9],[.own zZ 30,.d .i],fun x=>wu fu x.1,0⟩:=sq fu w6 Tryz.func59 (cC (dC fu)<|cC (Oa fu)<|cC (GM fu)<|cC (rK fu)<|cC (Zf fu)<|cN)
theorem Wo:yw ⟨15,[.d y9,.d yO],[.d zZ,.own (.p y9 .i) 42,.d .i],fun x=>yj fu x.1 x.2.1,0⟩:=sq fu ⟨[],[(655371,⟨[4,11,32],[(.n,⟨[(0,.d y9),(33,.d .i),(35,.d .b)],[]⟩)]⟩)],[(9,⟨⟨[(11,.own (.p y9 .i) 42),(34,.d .i),(4,.var zZ 30),(32,.own y9 22)],[]⟩,⟨[],[(.x 0,⟨[(11,.own (.p y9 .i) 42),(4,.var zZ 30)],[]⟩)]⟩⟩)],[],[],[]⟩ Tryz.func15 (cC (my fu)<|cC (AG fu)<|cC (B6 fu)<|cC (Y9 fu)<|cN)
theorem aD:yw ⟨16,[.d y9],[.d .b,.d .i],fun x=>WX fu x.1,0⟩:=sq fu w6 Tryz.func16 (cC (Wo fu)<|cN)
theorem YJ:yw ⟨228,[.own .ch 5],[.own .ch 5],fun x=>qG fu x.1,1⟩:=OA (fu:=fu) ⟨[],[],[(1,⟨⟨[(2,.d .i),(3,.d .i),(0,.own .ch 5)],[]⟩,⟨[],[(.x 0,⟨[(0,.own .ch 5)],[]⟩)]⟩⟩)],[(3,[])],[],[]⟩ Tryz.func228 (cN) (by kernel_rfl) fun pn x=>by kernel_rfl
theorem AD:yw ⟨165,[.d .u,.d .b],[.d .tx],fun x=>QD fu x.1 x.2.1,0⟩:=sq fu ⟨[],[],[(2,⟨⟨[(0,.d .u),(5,.own .ch 5)],[]⟩,⟨[],[(.x 0,⟨[(5,.own .ch 5)],[]⟩)]⟩⟩)],[],[],[]⟩ Tryz.func165 (cC (YJ fu)<|cN)
theorem uJ:yw ⟨166,[.own .tx 9],[.own .tx 9],fun x=>vo fu x.1,1⟩:=OA (fu:=fu) ⟨[],[],[(1,⟨⟨[(2,.d .i),(3,.d .i),(0,.own .tx 9)],[]⟩,⟨[],[(.x 0,⟨[(0,.own .tx 9)],[]⟩)]⟩⟩)],[(3,[])],[],[]⟩ Tryz.func166 (cN) (by kernel_rfl) fun pn x=>by kernel_rfl
theorem pk:yw ⟨167,[.d (.l .tx),.d .tx],[.d .tx],fun x=>J1 fu x.1 x.2.1,0⟩:=Pf (by kernel_rfl) Tryz.strings_Join_none Tryz.strings_Join
theorem Ig:yw ⟨106,[.d ZI],[.d .tx],fun x=>aQ fu x.1,0⟩:=sq fu ⟨[],[],[(3,⟨⟨[(0,.d ZI),(3,.own .tx 9)],[]⟩,⟨[],[(.x 0,⟨[(3,.own .tx 9)],[]⟩)]⟩⟩)],[],[],[]⟩ Tryz.func106 (cC (fL fu)<|cC (AD fu)<|cC (uJ fu)<|cC (pk fu)<|cC (yI fu)<|cC (xR fu)<|cN)
theorem DZ:yw ⟨49,[.d zZ],[.d .tx],fun x=>fT fu x.1,0⟩:=sq fu w6 Tryz.func49 (cC (Ig fu)<|cC (vI fu)<|cN)
theorem sr:yw ⟨12,[],[.d .b],fun x=>VQ fu,0⟩:=sq fu w6 Tryz.func12 (cC (Wo fu)<|cC (aD fu)<|cC (DZ fu)<|cC (Ie fu)<|cC (dD fu)<|cC (nF fu)<|cN)
theorem rm:yw ⟨13,[.d .i,.d .i,.d y9],[.d .b],fun x=>kO fu x.1 x.2.1 x.2.2.1,0⟩:=sq fu ⟨[],[],[(4,⟨⟨[(7,.d .i)],[]⟩,⟨[],[(.x 0,⟨[],[]⟩),(.r,⟨[],[(6,.kb false)]⟩)]⟩⟩)],[],[],[]⟩ Tryz.func13 (cN)
theorem bS:yw ⟨6,[.d y9,.d yO,.d yO],[.d .b],fun x=>jm fu x.1 x.2.1 x.2.2.1,0⟩:=sq fu w6 Tryz.func6 (cC (dD fu)<|cC (sr fu)<|cC (rm fu)<|cC (Wo fu)<|cN)
end
end
section
variable{x k:Nat}{r a b l:List Nat}
def nv:List Nat->Nat
 |[]=>0
 |x::r=>x+18446744073709551616*nv r
def wm:Nat->Nat->List Nat
 |0,_=>[]
 |k+1,n=>n % 18446744073709551616::wm k (n/18446744073709551616)
def aw:Nat->Nat->List Nat
 |0,_=>[]
 |f+1,n=>if n=0 then[]else n % 18446744073709551616::aw f (n/18446744073709551616)
def yH(n:Nat):List Nat:=aw n n
def sP:List Nat->List Nat
 |[]=>[]
 |x::r=>match sP r with
  |[]=>if x=0 then[]else[x]
  |y::s=>x::y::s
theorem zm.nil:zm []:=fun x hx=>absurd hx Nm
theorem zm.cons(h:x<18446744073709551616)(hr:zm r):zm (x::r):=fun y hy=>by
 rcases xad.1 hy with rfl|hy
 ·exact h
 ·exact hr y hy
theorem zm.head(h:zm (x::r)):x<18446744073709551616:=h x (FS)
theorem zm.tail(h:zm (x::r)):zm r:=fun y hy=>h y (H1 _ hy)
theorem zm.append(ha:zm a)(hb:zm b):zm (a++b):=fun x hx=>by
 rcases xaa.1 hx with h|h
 ·exact ha x h
 ·exact hb x h
theorem zm.take{a:List Nat}(h:zm a)(k:Nat):zm (a.take k):=fun x hx=>h x (xeC hx)
theorem zm.drop{a:List Nat}(h:zm a)(k:Nat):zm (a.drop k):=fun x hx=>h x (xeD hx)
theorem zm.getD{a:List Nat}(h:zm a)(k:Nat):a.getD k 0<18446744073709551616:=by
 rw[UV];by_cases hk:k<a.length
 ·rw[IR hk];exact h _ (xbh hk)
 ·rw[xaI (by omega)];exact Nat.zero_lt_succ _
theorem zm.replicate(k:Nat):zm (xae k 0):=fun x hx=>by rw[List.eq_of_mem_replicate hx];exact Nat.zero_lt_succ _
theorem ot:nv []=0:=rfl
theorem qK(x:Nat)(r:List Nat):nv (x::r)=x+18446744073709551616*nv r:=rfl
theorem q9: ∀(a b:List Nat),nv (a++b)=nv a+18446744073709551616^a.length*nv b
 |[],b=>by simp[nv]
 |x::a,b=>by
  rw[xbN,qK,q9 a b,qK,xav,xbu,xbm];rw[xba (18446744073709551616^a.length) 18446744073709551616,xbd,xcW]
theorem XE: ∀k,nv (xae k 0)=0
 |0=>rfl
 |k+1=>by rw[xeb,qK,XE k]
theorem jt: ∀{l:List Nat},zm l->nv l<18446744073709551616^l.length
 |[],_=>by simp[nv]
 |x::r,h=>by
  have h1:=h.head;have h2:=jt h.tail;rw[qK,xav,xbu];omega
theorem dk(l:List Nat)(x:Nat):nv (l++[x])=nv l+18446744073709551616^l.length*x:=by
 rw[q9,qK,ot];simp
theorem ya: ∀k n,(wm k n).length=k
 |0,_=>rfl
 |k+1,n=>by rw[wm,xav,ya]
theorem xH: ∀k n,zm (wm k n)
 |0,_=>zm.nil
 |k+1,n=>zm.cons (xbp _ (by decide)) (xH k _)
theorem jq: ∀k n,nv (wm k n)=n % 18446744073709551616^k
 |0,n=>by simp[wm,nv,Nat.mod_one]
 |k+1,n=>by rw[wm,qK,jq k,xbu,xba (18446744073709551616^k),Nat.mod_mul]
theorem Ua: ∀{l:List Nat},zm l->wm l.length (nv l)=l
 |[],_=>rfl
 |x::r,h=>by
  have h1:=h.head;rw[xav,wm,qK,xcN,xaE h1,xdw _ _ (by decide),xca h1,xaS,Ua h.tail]
theorem s9(ha:zm a)(hb:zm b)(hl:a.length=b.length)(h:nv a=nv b):a=b:=by
 rw[<-Ua ha,<-Ua hb,hl,h]
theorem tZ: ∀k,wm k 0=xae k 0
 |0=>rfl
 |k+1=>by rw[wm,Nat.zero_mod,Nat.zero_div,tZ k,xeb]
theorem eE: ∀k n,wm (k+1) n=wm k n++[n/18446744073709551616^k % 18446744073709551616]
 |0,n=>by simp[wm]
 |k+1,n=>by rw[wm,eE k,wm,xbN,xaY,<-xeY]
theorem oz: ∀f n,zm (aw f n)
 |0,_=>zm.nil
 |f+1,n=>by
  rw[aw];split
  ·exact zm.nil
  ·exact zm.cons (xbp _ (by decide)) (oz f _)
theorem zu(n:Nat):zm (yH n):=oz n n
theorem Mc: ∀f n,n<=f->nv (aw f n)=n
 |0,n,h=>by rw[aw,ot];omega
 |f+1,n,h=>by
  rw[aw];split
  ·rename_i h0;rw[ot,h0]
  ·rename_i h0;have ha:n/18446744073709551616<=f:=by
    have:=Nat.div_lt_self (n:=n) (k:=18446744073709551616) (by omega) (by decide);omega
   rw[qK,Mc f _ ha,xfI]
theorem z6(n:Nat):nv (yH n)=n:=Mc n n (xac _)
theorem Mq: ∀f f' n,n<=f->n<=f'->aw f n=aw f' n
 |0,f',n,h,h'=>by
  have:n=0:=by omega
  subst this;cases f'<;>simp[aw]
 |f+1,0,n,h,h'=>by
  have:n=0:=by omega
  subst this;simp[aw]
 |f+1,f'+1,n,h,h'=>by
  rw[aw,aw];split
  ·rfl
  ·rename_i h0;have:=Nat.div_lt_self (n:=n) (k:=18446744073709551616) (by omega) (by decide);rw[Mq f f' _ (by omega) (by omega)]
theorem VW:yH 0=[]:=rfl
theorem cT{n:Nat}(h:0<n):yH n=n % 18446744073709551616::yH (n/18446744073709551616):=by
 have e:yH n=aw ((n-1)+1) n:=by unfold yH;congr 1;omega
 have:=Nat.div_lt_self (n:=n) (k:=18446744073709551616) h (by decide);rw[e,aw,zx];congr 1;exact Mq _ _ _ (by omega) (by omega)
theorem Ah{n:Nat}(h0:0<n)(h:n<18446744073709551616):yH n=[n]:=by
 rw[cT h0,xaE h,xca h,VW]
theorem CR{n:Nat}:yH n=[]↔n=0:=by
 constructor
 ·intro h;rw[<-z6 n,h];rfl
 ·rintro rfl;rfl
theorem vK{n:Nat}(h:0<n):0<(yH n).length:=by rw[cT h,xav];omega
theorem zH: ∀(k n:Nat),(yH n).length<=k↔n<18446744073709551616^k
 |0,n=>by rw[Nat.le_zero,xbF,CR];simp;
 |k+1,n=>by
  by_cases h:n=0
  ·subst h;simp[VW];exact xbo (by decide)
  ·rw[cT (by omega),xav,Nat.add_le_add_iff_right,zH k,xbf (by decide),xbu]
theorem TM{n:Nat}(h:0<n):(yH n).getD ((yH n).length-1) 0≠0:=by
 intro h0;have hp:=vK h;have e:=Ua (zu n);rw[z6]at e;obtain⟨k,hk⟩: ∃k,(yH n).length=k+1:=⟨(yH n).length-1,by omega⟩;have h1:=(zH k n).2;rw[hk,eE]at e;rw[<-e]at h0;rw[show(wm k n++[n/18446744073709551616^k % 18446744073709551616]).length-1=(wm k n).length by simp]at h0;simp at h0;have h2:n<18446744073709551616^(k+1):=(zH (k+1) n).1 (by omega);have h3:n/18446744073709551616^k<18446744073709551616:=by rw[xbf (xbo (by decide))];rwa[xbu,xba]at h2
 rw[xaE h3]at h0;have h4:n<18446744073709551616^k:=by
  rcases Nat.div_eq_zero_iff.1 h0 with h|h
  ·have:=xbo (n:=k) (show 0<18446744073709551616 by decide);omega
  ·exact h
 have:=h1 h4;omega
theorem UO: ∀(l:List Nat) (k:Nat),k+1=l.length->l.getD k 0≠0->sP l=l
 |[],_,h,_=>by simp at h
 |[x],0,_,h=>by simp at h;simp[sP,h]
 |[x],k+1,h,_=>by simp at h
 |x::y::r,0,h,_=>by simp at h
 |x::y::r,k+1,h,h0=>by
  have:=UO (y::r) k (by simpa using h) (by simpa using h0);simp only[sP]at this⊢;rw[this]
theorem ED: ∀{l:List Nat},zm l->sP l=yH (nv l)
 |[],_=>rfl
 |x::r,h=>by
  have ih:=ED h.tail;have hx:=h.head;rw[sP,ih,qK];by_cases hr:nv r=0
  ·rw[hr,VW];by_cases h0:x=0
   ·simp[h0,VW]
   ·simp only[h0,if_false,xdi,xcg];rw[Ah (by omega) hx]
  ·have e1:=cT (n:=nv r) (by omega);have e2:=cT (n:=x+18446744073709551616*nv r) (by omega);rw[xcN,xaE hx,xdw _ _ (by decide),xca hx,xaS]at e2;rw[e2,e1]
theorem E4(hl:zm l)(h:l=[]\/l.getD (l.length-1) 0≠0):yH (nv l)=l:=by
 rw[<-ED hl];rcases h with rfl|h
 ·rfl
 ·cases hn:l.length with
  |zero=>rw[xbA hn];rfl
  |succ k=>exact UO l k hn.symm (by rw[hn]at h;exact h)
theorem CY(hl:zm l)(k:Nat):nv (l.take k)=nv l % 18446744073709551616^k:=by
 by_cases hk:k<=l.length
 ·have e:=q9 (l.take k) (l.drop k);rw[xbR,xay,xcX hk]at e;have:=jt (hl.take k);rw[xay,xcX hk]at this;rw[e,xcN,xaE this]
 ·rw[xaX (by omega),xaE];exact xap (jt hl) (xaK (by decide) (by omega))
theorem BL(hl:zm l)(k:Nat):nv (l.drop k)=nv l/18446744073709551616^k:=by
 by_cases hk:k<=l.length
 ·have e:=q9 (l.take k) (l.drop k);rw[xbR,xay,xcX hk]at e;have:=jt (hl.take k);rw[xay,xcX hk]at this;rw[e,xdw _ _ (xbo (by decide)),xca this,xaS]
 ·rw[xcf (by omega),ot,xca];exact xap (jt hl) (xaK (by decide) (by omega))
theorem QY: ∀{l:List Nat},zm l-> ∀k,l.getD k 0=nv l/18446744073709551616^k % 18446744073709551616
 |[],_,k=>by simp[nv]
 |x::r,h,0=>by rw[List.getD_cons_zero,qK,xeR,xeO,xcN,xaE h.head]
 |x::r,h,k+1=>by rw[List.getD_cons_succ,QY h.tail k,qK,xeY,<-xaY,xdw _ _ (by decide),xca h.head,xaS]
theorem zco{α:Type}{l:List α}{n:Nat}{z x:α}(hl:l.length=k)(hk:k<n):(l++xae (n-k) z).set k x=(l++[x])++xae (n-(k+1)) z:=by
 obtain⟨m,hm⟩: ∃m,n-k=m+1:=⟨n-k-1,by omega⟩;rw[hm,xeb,xfs _ _ (by omega),hl,xcU,List.set_cons_zero,xak];congr 2;rw[show n-(k+1)=m by omega];rfl
def xW(step:Nat->Nat->Nat×Nat):Nat->List Nat×Nat
 |0=>([],0)
 |k+1=>((xW step k).1++[(step k (xW step k).2).1],(step k (xW step k).2).2)
theorem xD(step:Nat->Nat->Nat×Nat): ∀k,(xW step k).1.length=k
 |0=>rfl
 |k+1=>by rw[xW,xau,xD step k];rfl
def gZ(a b:List Nat)(k c:Nat):Nat×Nat:=((a.getD k 0+b.getD k 0+c) % 18446744073709551616,(a.getD k 0+b.getD k 0+c)/18446744073709551616)
theorem H5{c:Nat}(ha:zm a)(hb:zm b)(hc:c<=1):(gZ a b k c).2<=1:=by
 have h1:=ha.getD k;have h2:=hb.getD k;simp only[gZ];omega
theorem vL(l:List Nat): ∀k,nv (l.take (k+1))=nv (l.take k)+18446744073709551616^k*l.getD k 0:=by
 induction l with
 |nil=>intro k;simp[nv]
 |cons x r ih=>
  intro k
  cases k with
  |zero=>simp[nv]
  |succ k=>
   rw[List.take_succ_cons,qK,ih k,List.take_succ_cons,qK,List.getD_cons_succ,xbu,xbm];rw[xba (18446744073709551616^k) 18446744073709551616,xbd,xcW]
theorem oi(a b:List Nat): ∀k,nv (xW (gZ a b) k).1+18446744073709551616^k*(xW (gZ a b) k).2=nv (a.take k)+nv (b.take k)/\zm (xW (gZ a b) k).1
 |0=>⟨by simp[xW,nv],zm.nil⟩
 |k+1=>by
  obtain⟨ih,il⟩:=oi a b k;rw[xW,vL,vL,dk,xD];refine⟨?_,il.append (zm.cons (xbp _ (by decide)) zm.nil)⟩;generalize hc:(xW (gZ a b) k).2=c at*
  simp only[gZ];have e:=xfI (a.getD k 0+b.getD k 0+c) 18446744073709551616;generalize(a.getD k 0+b.getD k 0+c) % 18446744073709551616=r at*
  generalize(a.getD k 0+b.getD k 0+c)/18446744073709551616=q at*
  rw[xbu];generalize 18446744073709551616^k=p at*
  have e2:p*r+p*18446744073709551616*q=p*(a.getD k 0)+p*(b.getD k 0)+p*c:=by rw[xbd,<-xbm,e,xbm,xbm]
  omega
theorem zaf{n:Nat}(ha:a.length<=n)(hb:b.length<=n):nv ((xW (gZ a b) n).1++[(xW (gZ a b) n).2])=nv a+nv b:=by
 rw[dk,xD,(oi a b n).1,xaX ha,xaX hb]
end
section
variable{x y k m j i:Nat}{l a b o o0 r:List Nat}
theorem mh(h:(yH x).length<(yH y).length):x<y:=by
 have h1:=(zH (yH x).length x).1 (xac _);have h2: ¬y<18446744073709551616^(yH x).length:=fun h3=>by have:=(zH _ y).2 h3;omega
 omega
theorem JR(x B k:Nat)(hB:0<B):x/B^k=B*(x/B^(k+1))+x/B^k % B:=by
 have:=xbC (x/B^k) B;rw[xaY,<-xbu]at this;exact this.symm
theorem Th(h:x/18446744073709551616^(k+1)=y/18446744073709551616^(k+1))(hd:x/18446744073709551616^k % 18446744073709551616<y/18446744073709551616^k % 18446744073709551616):x<y:=by
 have h1:=JR x 18446744073709551616 k (by decide);have h2:=JR y 18446744073709551616 k (by decide);refine xdI fun h3=> ?_;have h4:=Nat.div_le_div_right (c:=18446744073709551616^k) h3;omega
theorem zev(h:x/18446744073709551616^(k+1)=y/18446744073709551616^(k+1))(hd:x/18446744073709551616^k % 18446744073709551616=y/18446744073709551616^k % 18446744073709551616):
 x/18446744073709551616^k=y/18446744073709551616^k:=by
 have h1:=JR x 18446744073709551616 k (by decide);have h2:=JR y 18446744073709551616 k (by decide);omega
theorem Zo(n k:Nat):(yH n).getD k 0=n/18446744073709551616^k % 18446744073709551616:=by rw[QY (zu n),z6]
theorem SD(h:(yH x).length=(yH y).length):x/18446744073709551616^(yH x).length=y/18446744073709551616^(yH x).length:=by
 rw[xca ((zH _ x).1 (xac _)),xca ((zH _ y).1 (by omega))]
theorem xM(h:zm l):(yH (nv l)).length<=l.length:=(zH _ _).2 (jt h)
theorem zah(hm:0<m)(h:x/18446744073709551616^m=y/18446744073709551616^m)(hd:(yH x).getD (m-1) 0=(yH y).getD (m-1) 0):x/18446744073709551616^(m-1)=y/18446744073709551616^(m-1):=by
 rw[Zo,Zo]at hd;exact zev (by rw[show m-1+1=m by omega];exact h) hd
theorem zbB(h:(yH x).length≠(yH y).length):ky ((yH x).length:Nat) ((yH y).length:Nat)=ky x y:=by
 rcases Nat.lt_or_gt_of_ne h with h|h
 ·have:=mh h;rw[qS (by omega),qS (by omega)]
 ·have:=mh h;rw[vE (by omega),vE (by omega)]
theorem Nb(hm:0<m)(h:x/18446744073709551616^m=y/18446744073709551616^m)(hd:(yH x).getD (m-1) 0≠(yH y).getD (m-1) 0):
 ky ((yH x).getD (m-1) 0:Nat) ((yH y).getD (m-1) 0:Nat)=ky x y:=by
 rw[show m=m-1+1 by omega]at h;rcases Nat.lt_or_gt_of_ne hd with hd|hd
 ·have ha:=hd;rw[Zo,Zo]at ha;have:=Th h ha;rw[qS (by omega),qS (by omega)]
 ·have ha:=hd;rw[Zo,Zo]at ha;have:=Th h.symm ha;rw[vE (by omega),vE (by omega)]
def Qj(a b:List Nat)(k c:Nat):Nat×Nat:=((a.getD k 0+18446744073709551616-b.getD k 0-c) % 18446744073709551616,if a.getD k 0<b.getD k 0+c then 1 else 0)
theorem m8(a b:List Nat)(k c:Nat):(Qj a b k c).2<=1:=by
 simp only[Qj];split<;>omega
theorem DA{a b:List Nat}(ha:zm a)(hb:zm b): ∀k,nv (xW (Qj a b) k).1+nv (b.take k)=nv (a.take k)+18446744073709551616^k*(xW (Qj a b) k).2/\zm (xW (Qj a b) k).1/\(xW (Qj a b) k).2<=1
 |0=>⟨by simp[xW,nv],zm.nil,xaj _⟩
 |k+1=>by
  obtain⟨ih,il,ic⟩:=DA ha hb k;rw[xW,vL,vL,dk,xD];refine⟨?_,il.append (zm.cons (xbp _ (by decide)) zm.nil),m8 a b k _⟩;generalize hc:(xW (Qj a b) k).2=c at*
  simp only[Qj];have h1:=ha.getD k;have h2:=hb.getD k;generalize a.getD k 0=x at*
  generalize b.getD k 0=y at*
  rw[xbu];generalize 18446744073709551616^k=p at*
  have e:(x+18446744073709551616-y-c) % 18446744073709551616+y+c=x+18446744073709551616*(if x<y+c then 1 else 0):=by split<;>omega
  generalize(x+18446744073709551616-y-c) % 18446744073709551616=r at*
  generalize(if x<y+c then 1 else 0:Nat)=q at*
  have e2:p*r+p*y+p*c=p*x+p*18446744073709551616*q:=by rw[xbd,<-xbm,<-xbm,e,xbm]
  omega
theorem nD{n:Nat}(ha:zm a)(hb:zm b)(hc:a.length<=n)(hd:b.length<=n):
 nv (xW (Qj a b) n).1+nv b=nv a+18446744073709551616^n*(xW (Qj a b) n).2/\zm (xW (Qj a b) n).1/\(xW (Qj a b) n).2<=1:=by
 have:=DA ha hb n;rwa[xaX hc,xaX hd]at this
theorem tQ{n:Nat}(ha:zm a)(hb:zm b)(hc:a.length<=n)(hd:b.length<=n):0<(xW (Qj a b) n).2↔nv a<nv b:=by
 obtain⟨h1,h2,h3⟩:=nD ha hb hc hd;have h4:=jt h2;rw[xD]at h4;constructor
 ·intro h;have:(xW (Qj a b) n).2=1:=by omega
  rw[this,xcD]at h1;omega
 ·intro h;refine xcE fun h0=> ?_;rw[h0,xdi]at h1;omega
theorem N3{n:Nat}(ha:zm a)(hb:zm b)(hc:a.length<=n)(hd:b.length<=n)(h: ¬nv a<nv b):nv (xW (Qj a b) n).1=nv a-nv b:=by
 obtain⟨h1,h2,h3⟩:=nD ha hb hc hd;have: ¬0<(xW (Qj a b) n).2:=fun hp=>h ((tQ ha hb hc hd).1 hp);have:(xW (Qj a b) n).2=0:=by omega
 rw[this,xdi]at h1;omega
def Ji(a:List Nat)(x:Nat)(k c:Nat):Nat×Nat:=((a.getD k 0*x+c) % 18446744073709551616,(a.getD k 0*x+c)/18446744073709551616)
theorem bH{a c:Nat}(ha:a<18446744073709551616)(hx:x<18446744073709551616)(hc:c<18446744073709551616):(a*x+c)/18446744073709551616<18446744073709551616:=by
 have:a*x<=18446744073709551615*18446744073709551615:=xbU (by omega) (by omega);omega
theorem HJ{c:Nat}(ha:zm a)(hx:x<18446744073709551616)(hc:c<18446744073709551616):(Ji a x k c).2<18446744073709551616:=bH (ha.getD k) hx hc
theorem DV(a:List Nat)(x:Nat): ∀k,nv (xW (Ji a x) k).1+18446744073709551616^k*(xW (Ji a x) k).2=nv (a.take k)*x/\zm (xW (Ji a x) k).1
 |0=>⟨by simp[xW,nv],zm.nil⟩
 |k+1=>by
  obtain⟨ih,il⟩:=DV a x k;rw[xW,vL,dk,xD];refine⟨?_,il.append (zm.cons (xbp _ (by decide)) zm.nil)⟩;generalize hc:(xW (Ji a x) k).2=c at*
  simp only[Ji];have e:=xfI (a.getD k 0*x+c) 18446744073709551616;generalize(a.getD k 0*x+c) % 18446744073709551616=r at*
  generalize(a.getD k 0*x+c)/18446744073709551616=q at*
  rw[xbu];generalize 18446744073709551616^k=p at*
  have e2:p*r+p*18446744073709551616*q=p*(a.getD k 0*x)+p*c:=by rw[xbd,<-xbm,e,xbm]
  rw[xaV,xbd p (a.getD k 0) x];omega
theorem DP(hc:(xW (Ji a x) a.length).2<18446744073709551616):(xW (Ji a x) a.length).1++[(xW (Ji a x) a.length).2]=wm (a.length+1) (nv a*x):=by
 obtain⟨h1,h2⟩:=DV a x a.length;have hl:zm ((xW (Ji a x) a.length).1++[(xW (Ji a x) a.length).2]):=h2.append (zm.cons hc zm.nil);have hn:nv ((xW (Ji a x) a.length).1++[(xW (Ji a x) a.length).2])=nv a*x:=by rw[dk,xD,h1,xaX (xac _)]
 have:=Ua hl;rw[hn,xau,xD]at this;exact this.symm
theorem nX(ha:zm a)(hx:x<18446744073709551616):nv a*x<18446744073709551616^(a.length+1):=by
 have:=jt ha;rw[xbu]
 calc nv a*x<=nv a*18446744073709551616:=xaJ _ (by omega)
  _<_:=xbS this (by decide)
theorem O9: ∀(o:List Nat) (j v:Nat),j<o.length->nv (o.set j v)+18446744073709551616^j*o.getD j 0=nv o+18446744073709551616^j*v
 |[],j,v,h=>by simp at h
 |x::r,0,v,h=>by simp[nv];omega
 |x::r,j+1,v,h=>by
  have ih:=O9 r j v (by simpa using h);rw[List.set_cons_succ,qK,qK,List.getD_cons_succ,xbu,xba (18446744073709551616^j),xbd,xbd];omega
theorem zm.set{o:List Nat}(h:zm o)(j:Nat){v:Nat}(hv:v<18446744073709551616):zm (o.set j v):=fun x hx=>by
 rcases xeE hx with h1|h1
 ·exact h x h1
 ·rw[h1];exact hv
theorem Tc{c:Nat}(hj:j+i<o.length)(h:nv o+18446744073709551616^(j+i)*c=nv o0+18446744073709551616^j*nv (r.take i)):
 nv (o.set (j+i) ((o.getD (j+i) 0+r.getD i 0+c) % 18446744073709551616))+18446744073709551616^(j+(i+1))*((o.getD (j+i) 0+r.getD i 0+c)/18446744073709551616)=nv o0+18446744073709551616^j*nv (r.take (i+1)):=by
 have h1:=O9 o (j+i) ((o.getD (j+i) 0+r.getD i 0+c) % 18446744073709551616) hj;rw[vL,xbm,<-xbd,<-xcd];have e:=xfI (o.getD (j+i) 0+r.getD i 0+c) 18446744073709551616;rw[show j+(i+1)=(j+i)+1 by omega,xbu];generalize(o.getD (j+i) 0+r.getD i 0+c) % 18446744073709551616=u at*
 generalize(o.getD (j+i) 0+r.getD i 0+c)/18446744073709551616=q at*
 generalize 18446744073709551616^(j+i)=p at*
 have e2:p*u+p*18446744073709551616*q=p*o.getD (j+i) 0+p*r.getD i 0+p*c:=by rw[xbd,<-xbm,e,xbm,xbm]
 omega
theorem XI(ha:zm a)(hb:zm b):nv a*nv (b.take k)<18446744073709551616^(a.length+k):=by
 have h1:=jt ha;have h2:=jt (hb.take k);have h3:18446744073709551616^(b.take k).length<=18446744073709551616^k:=xaK (by decide) (by rw[xay];omega);rw[xcd];exact xdJ h1 (by omega)
theorem zbt{c:Nat}(h:nv o+18446744073709551616^(j+r.length)*c=nv o0+18446744073709551616^j*nv r)(hn:nv o0+18446744073709551616^j*nv r<18446744073709551616^(j+r.length)):
 c=0/\nv o=nv o0+18446744073709551616^j*nv r:=by
 have hc:c=0:=by
  refine xek fun hp=> ?_;have:18446744073709551616^(j+r.length)*1<=18446744073709551616^(j+r.length)*c:=xaJ _ hp;omega
 subst hc;exact⟨rfl,by rw[xdi,xcg]at h;exact h⟩
theorem Er{p:List Nat}{c:Nat}(ha:zm a)(hb:zm b)(hi: ¬i<a.length+1)(hd:i<=a.length+1)(ho:nv o=nv a*nv (b.take k))(hp:nv p+18446744073709551616^(k+i)*c=nv o+18446744073709551616^k*nv ((wm (a.length+1) (nv a*b.getD k 0)).take i)):nv p=nv a*nv (b.take (k+1)):=by
 obtain rfl:i=a.length+1:=by omega
 have hl:=ya (a.length+1) (nv a*b.getD k 0);rw[xaX (by omega)]at hp;have hr:nv (wm (a.length+1) (nv a*b.getD k 0))=nv a*b.getD k 0:=by rw[jq,xaE (nX ha (hb.getD k))]
 have e:nv o+18446744073709551616^k*nv (wm (a.length+1) (nv a*b.getD k 0))=nv a*nv (b.take (k+1)):=by rw[hr,ho,vL,xbm,xdZ]
 have hc:nv o+18446744073709551616^k*nv (wm (a.length+1) (nv a*b.getD k 0))<18446744073709551616^(k+(wm (a.length+1) (nv a*b.getD k 0)).length):=by
  rw[e,hl,show k+(a.length+1)=a.length+(k+1)by omega];exact XI ha hb
 generalize wm (a.length+1) (nv a*b.getD k 0)=r at*
 rw[<-hl]at hp;rw[(zbt hp hc).2,e]
theorem m32{a b:Nat}(ha:a<4294967296)(hb:b<4294967296):a*b<=18446744065119617025:=xbU (show a<=4294967295 by omega) (show b<=4294967295 by omega)
theorem zbF(hx:x<18446744073709551616)(hy:y<18446744073709551616):(x % 4294967296)*(y % 4294967296)<=18446744065119617025/\(x/2^32)*(y % 4294967296)<=18446744065119617025/\
 (x % 4294967296)*(y/2^32)<=18446744065119617025/\(x/2^32)*(y/2^32)<=18446744065119617025:=
 ⟨m32 (by omega) (by omega),m32 (by omega) (by omega),m32 (by omega) (by omega),m32 (by omega) (by omega)⟩
theorem zaK(x y:Nat):x*y=18446744073709551616*((x/2^32)*(y/2^32))+4294967296*((x/2^32)*(y % 4294967296))+4294967296*((x % 4294967296)*(y/2^32))+(x % 4294967296)*(y % 4294967296):=by
 have h1:x=4294967296*(x/2^32)+x % 4294967296:=by omega
 have h2:y=4294967296*(y/2^32)+y % 4294967296:=by omega
 generalize x/2^32=x1 at*
 generalize y/2^32=y1 at*
 generalize x % 4294967296=x0 at*
 generalize y % 4294967296=y0 at*
 subst h1 h2;rw[xaV,xbm,xbm,xbd,xbd,xdZ x1 4294967296 y1,xdZ x0 4294967296 y1];omega
theorem YR(hx:(yH x).length<=k)(hy:(yH y).length<=k):(yH (x+y)).length<=k+1:=by
 rw[zH]at*
 rw[xbu];omega
theorem zig{x0 x1 y0 y1 P:Nat}:x0*y0+P*((x0+x1)*(y0+y1)-x0*y0-x1*y1)+P*P*(x1*y1)=(x0+P*x1)*(y0+P*y1):=by
 have e:(x0+x1)*(y0+y1)-x0*y0-x1*y1=x0*y1+x1*y0:=by rw[xaV,xbm,xbm];omega
 rw[e,xaV,xbm,xbm,xbm];have e1:x0*(P*y1)=P*(x0*y1):=xdZ ..;have e2:P*x1*y0=P*(x1*y0):=xbd ..;have e3:P*x1*(P*y1)=P*P*(x1*y1):=by rw[xbd,xdZ x1,<-xbd]
 rw[e1,e2,e3];omega
theorem zcW(x0 x1 y0 y1:Nat):x0*y0<=(x0+x1)*(y0+y1)/\x1*y1<=(x0+x1)*(y0+y1)-x0*y0:=by
 rw[xaV,xbm,xbm];omega
theorem DC(h:Nat):l.take (min h l.length)=l.take h:=by
 rw[Nat.min_def];split
 ·rfl
 ·rw[xaX (xac _),xaX (by omega)]
theorem E8(h:Nat):l.drop (min h l.length)=l.drop h:=by
 rw[Nat.min_def];split
 ·rfl
 ·rw[xcf (xac _),xcf (by omega)]
theorem lO(n:Nat)(l:List Nat):nv (xae n 0++l)=18446744073709551616^n*nv l:=by
 rw[q9,XE,xaT,xaS]
theorem sE(h:Nat):nv (l.take h)+18446744073709551616^h*nv (l.drop h)=nv l:=by
 by_cases hh:h<=l.length
 ·have e:=q9 (l.take h) (l.drop h);rw[xbR,xay,xcX hh]at e;exact e.symm
 ·rw[xcf (by omega),xaX (by omega),ot,xdi,xcg]
theorem zbe{A B:List Nat}(h:Nat):nv (A.take h)*nv (B.take h)+18446744073709551616^h*((nv (A.take h)+nv (A.drop h))*(nv (B.take h)+nv (B.drop h))-nv (A.take h)*nv (B.take h)-nv (A.drop h)*nv (B.drop h))+
 18446744073709551616^(2*h)*(nv (A.drop h)*nv (B.drop h))=nv A*nv B:=by
 have:= @zig (nv (A.take h)) (nv (A.drop h)) (nv (B.take h)) (nv (B.drop h)) (18446744073709551616^h);rw[sE,sE]at this;rw[Nat.two_mul,xcd];exact this
theorem YA(hx:(yH x).length<=j)(hy:(yH y).length<=k):(yH (x*y)).length<=j+k:=by
 rw[zH]at*
 rw[xcd];exact xdJ hx hy
theorem DD(q:Nat)(hx:(yH x).length<=k):(yH (18446744073709551616^q*x)).length<=q+k:=by
 rw[zH]at*
 rw[xcd];exact Nat.mul_lt_mul_of_pos_left hx (xbo (by decide))
theorem JK(h:x<=y):(yH x).length<=(yH y).length:=by
 have:=(zH (yH y).length y).1 (xac _);exact(zH _ x).2 (by omega)
theorem Ss(a b h:Nat){x0 x1 y0 y1:Nat}(ha:x0=nv ((yH a).take h))(hb:x1=nv ((yH a).drop h))(hc:y0=nv ((yH b).take h))(hd:y1=nv ((yH b).drop h)):
 x0*y0+18446744073709551616^h*((x0+x1)*(y0+y1)-x0*y0-x1*y1)+18446744073709551616^(2*h)*(x1*y1)=a*b:=by
 subst ha hb hc hd;rw[zbe,z6,z6]
end
end Go.Proofs.YtmggkmchbdanfaaGreat
