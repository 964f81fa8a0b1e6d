/- What a proof needs: rules of walking, mirrors of functions and their plain laws. No condition. -/
import Derived.Test.YtmggkmchbdanfaaGreatZp3
import Derived.Below
import Derived.Lib.Join
import Derived.Shelf.Strings.Builder1
import Derived.Shelf.Strings.Builder2
import Derived.Shelf.Strings.OnBuilder
import Derived.Shelf.Bits.Mul64
set_option linter.unusedVariables false
set_option linter.unusedSimpArgs false
namespace Go.Proofs
open Go.Shelf
def Tryz.lays156_ren:Go.Shelf.Ren:=⟨fun|156=>167|165=>229|166=>230|169=>231|240=>303|241=>304|276=>345|277=>346|n=>n,fun|31=>171|9=>9|3=>3|4=>4|0=>0|20=>20|72=>222|76=>226|70=>220|37=>218|75=>225|127=>270|164=>299|5=>5|80=>228|n=>n,fun|n=>n⟩
theorem Tryz.lays156:Go.Proofs.Lays.n156 Tryz.prog Tryz.lays156_ren:={
  mixed:=by kernel_rfl
  f156:=Tryz.func167.trans (congrArg some (by kernel_rfl))
  f165:=Tryz.func229.trans (congrArg some (by kernel_rfl))
  f166:=Tryz.func230.trans (congrArg some (by kernel_rfl))
  f169:=Tryz.func231.trans (congrArg some (by kernel_rfl))
  f240:=Tryz.func303.trans (congrArg some (by kernel_rfl))
  f241:=Tryz.func304.trans (congrArg some (by kernel_rfl))
  f276:=Tryz.func345.trans (congrArg some (by kernel_rfl))
  f277:=Tryz.func346.trans (congrArg some (by kernel_rfl))
  t0:=Tryz.underlying0
  a0:=Tryz.isAgg0
  z0:=Tryz.sizeOf0
  v0:=Tryz.zeroValue0
  t3:=Tryz.underlying3
  a3:=Tryz.isAgg3
  z3:=Tryz.sizeOf3
  v3:=Tryz.zeroValue3
  t4:=Tryz.underlying4
  a4:=Tryz.isAgg4
  z4:=Tryz.sizeOf4
  v4:=Tryz.zeroValue4
  t9:=Tryz.underlying9
  a9:=Tryz.isAgg9
  z9:=Tryz.sizeOf9
  v9:=Tryz.zeroValue9
  t20:=Tryz.underlying20
  a20:=Tryz.isAgg20
  z20:=Tryz.sizeOf20
  v20:=Tryz.zeroValue20
  t31:=Tryz.underlying171
  a31:=Tryz.isAgg171
  z31:=Tryz.sizeOf171
  v31:=Tryz.zeroValue171
  t37:=Tryz.underlying218
  a37:=Tryz.isAgg218
  z37:=Tryz.sizeOf218
  v37:=Tryz.zeroValue218
  t70:=Tryz.underlying220
  a70:=Tryz.isAgg220
  z70:=Tryz.sizeOf220
  v70:=Tryz.zeroValue220
  t72:=Tryz.underlying222
  a72:=Tryz.isAgg222
  z72:=Tryz.sizeOf222
  v72:=Tryz.zeroValue222
  t75:=Tryz.underlying225
  a75:=Tryz.isAgg225
  z75:=Tryz.sizeOf225
  v75:=Tryz.zeroValue225
  t76:=Tryz.underlying226
  a76:=Tryz.isAgg226
  z76:=Tryz.sizeOf226
  v76:=Tryz.zeroValue226
  t127:=Tryz.underlying270
  a127:=Tryz.isAgg270
  z127:=Tryz.sizeOf270
  v127:=Tryz.zeroValue270
  t164:=Tryz.underlying299
  a164:=Tryz.isAgg299
  z164:=Tryz.sizeOf299
  v164:=Tryz.zeroValue299}
theorem Tryz.Builder_Extra_156:Builder.Extra Tryz.prog Tryz.lays156_ren:={
  sizeBuilder:=by kernel_rfl
  liesBuilder:=by kernel_rfl
  t5:=Tryz.underlying5
  a5:=Tryz.isAgg5
  z5:=Tryz.sizeOf5
  v5:=Tryz.zeroValue5
  infoByte:=by kernel_rfl
  cellsByte:=by kernel_rfl
  sizeByte:=by kernel_rfl
  neB5:=by decide}
open Go.RowKit in
theorem Tryz.strings_Join_none(a:Option Addr)(c:Nat)(sep:ByteArray)(w:World):
    Calls Tryz.prog 167 #[.slice a 0 c,.string sep] w fun e w'=>e= .returned (.string ⟨#[]⟩)∧w'=w:=Any.strings_Join_none Tryz.lays156 Tryz.Builder_Extra_156 a c sep w
open Go.RowKit in
theorem Tryz.strings_Join(bk o c:Nat)(xs:List ByteArray)(sep:ByteArray)(w:World)(hcells: ∀(j:Nat) x,xs[j]? =some x→w.cell? ⟨bk,o+j,none⟩=some (.string x))(hbk:bk<w.heap.size)(hN:xs.length≤140737488355328)(hcap:xs.length≤c)(hlen:(Lib.join (xs.map (·.data.toList)) sep.data.toList).length≤140737488355328):
    Calls Tryz.prog 167 #[.slice (some ⟨bk,o,none⟩) xs.length c,.string sep] w fun e w'=>e= .returned (.string ⟨(Lib.join (xs.map (·.data.toList)) sep.data.toList).toArray⟩)∧Below w.heap.size w w':=Any.strings_Join Tryz.lays156 Tryz.Builder_Extra_156 bk o c xs sep w hcells hbk hN hcap hlen
end Go.Proofs
namespace Go.Proofs.YtmggkmchbdanfaaGreat
open And renaming intro->xfs
open Bool renaming and_eq_true->xam
open Ending renaming returned->xet
open Extern renaming find->xeO,findNext->xdX
open Extern.MathBitsCarry renaming m64->xaZ,pair->xbS,three->xbM
open Int renaming fdiv->xfN,natCast_nonneg->xdb,tdiv->xda,tmod->xbZ
open Lib renaming bitLen->xeT
open List renaming append_assoc->xal,cons_append->xbP,drop->xdw,drop_eq_nil_of_le->xcg,eq_nil_of_length_eq_zero->xbB,getD_eq_getElem?_getD->UV,getElem?_eq_getElem->IR,getElem?_eq_none->xaJ,getElem?_map->xaB,getElem?_range->xbg,getElem_mem->xbh,intercalate->xfA,length->xaG,length_append->xau,length_cons->xav,length_drop->xbQ,length_eq_zero_iff->xbG,length_map->xaN,length_nil->xcs,length_replicate->xaU,length_take->xay,map_append->xaO,map_congr_left->xbO,map_cons->xbR,map_map->xcP,mem_append->Nm,mem_cons->xae,mem_cons_of_mem->H1,mem_cons_self->FS,mem_of_mem_drop->xeE,mem_of_mem_take->xeD,mem_or_eq_of_mem_set->xeG,mem_singleton->xah,not_mem_nil->xaa,range->xbc,replicate->xaf,replicate_succ->xed,set_append_right->xft,take->xdr,take_append_drop->xbK,take_of_length_le->xaX
open List.Perm renaming swap->xeH
open List.cons renaming injEq->xes
open Nat renaming add_assoc->xcY,add_mul->xaV,add_mul_div_left->xdx,add_mul_mod_self_left->xcQ,add_zero->xch,beq->xan,ble->xfO,blt->xdl,div_add_mod->xbD,div_div_eq_div_mul->xaY,div_eq_of_lt->xcc,div_lt_iff_lt_mul->xbf,div_one->xeQ,eq_zero_of_not_pos->xem,le_of_ble_eq_true->xbJ,le_refl->xac,le_trans->xao,lt_of_lt_of_le->xap,lt_of_not_le->xdJ,lt_succ_self->xbV,min_eq_left->xcZ,mod_add_div->xfI,mod_eq_of_lt->xaF,mod_lt->xbq,mul_add->xbm,mul_assoc->xbe,mul_comm->xba,mul_le_mul->xbE,mul_le_mul_left->xaA,mul_left_comm->xea,mul_lt_mul''->xdK,mul_lt_mul_of_pos_right->xbT,mul_one->xcD,mul_zero->xdi,pos_of_ne_zero->xcE,pow_add->xbW,pow_le_pow_right->xaK,pow_pos->xbp,pow_succ->xbu,pow_succ'->xfb,pow_zero->xeU,sub_self->xcW,zero_add->xaT,zero_le->xaj,zero_lt_one->xdZ
open Option.some renaming inj->xds,injEq->xaw
open Prod.mk renaming injEq->xcu
open Sum renaming elim->xfp
open UInt8 renaming ofNat->xeP,toNat->xfj
open _root_.Array renaming length_toList->xeM,toArray_toList->xde
section
section
variable{P:Program}
def zc:Ty->List Value
 | .i=>[.int .i64 0]
 | .u=>[.int .u64 0]
 | .b=>[.bool false]
 | .ch=>[.int .u8 0]
 | .tx=>[.string ByteArray.empty]
 | .l _=>[.slice none 0 0]
 | .p s t=>zc s++zc t
 | .a k t=>(xaf k (zc t)).flatten
theorem Na{α:Type}{e:zX α}{S:Nat->Prop}{w:World}{x:α}{c:List Value}(h:e.p S x c w): ∀k,yu e S (xaf k x) (xaf k c).flatten w
 |0=>rfl
 |k+1=>⟨c,_,rfl,h,Na h k⟩
theorem zcC(S:Nat->Prop)(w:World): ∀t:Ty,t.rep.p S t.z (zc t) w
 | .i=>⟨rfl,show(-9223372036854775808:Int)<=0 by decide,show(0:Int)<=9223372036854775807 by decide⟩
 | .u=>⟨rfl,show(0:Nat)<18446744073709551616 by decide⟩
 | .b=>rfl
 | .ch=>⟨rfl,show(0:Nat)<256 by decide⟩
 | .tx=>⟨ByteArray.empty,rfl,rfl,by decide⟩
 | .l _=>⟨_,rfl,OW.nil⟩
 | .p s t=>⟨_,_,rfl,zcC S w s,zcC S w t⟩
 | .a k t=>⟨xaU,Na (zcC S w t) k⟩
def zdG(P:Program)(t n:Nat):(List (Option Nat)×List (Option (Nat×Bool×Nat)))×Option (List (Option (Nat×Nat))):=(((xbc n).map fun i=>Hy P t i,(xbc n).map fun i=>PB P t i),match plB P t with
 |some a=>some (a.toList.map some)
 |none=>none)
def zax(ty:Ty)(n:Nat):(List (Option Nat)×List (Option (Nat×Bool×Nat)))×Option (List (Option (Nat×Nat))):=(((xbc n).map fun i=>(Qw n ty i).map (·.off),(xbc n).map fun i=>(Qw n ty i).map fun f=>(f.off,f.f.rep.agg,f.f.n)),some ((xbc n).map fun i=>(Qw n ty i).map fun f=>(f.off,f.f.n)))
def Mc(P:Program)(t:TypeId)(ti:TI):Prop:=match ti.k with
 | .int k=>P.underlying t=some (.int k)
 | .bool=>P.underlying t=some .bool
 | .str=>P.underlying t=some .string
 | .sl E=>P.underlying t=some (.slice E)/\ ∃e,ti.ty= .l e
 | .st n=>ti.ty.rep.agg=true/\zdG P t n=zax ti.ty n
 | .ar k E=>ti.ty.rep.agg=true/\P.underlying t=some (.array k E)
theorem BZ: ∀{n:Nat} {t:Ty} {i:Nat} {f:Fl t.D},Qw n t i=some f->i<n
 |0,_,_,_,h=>by simp[Qw]at h
 |1,t,i,f,h=>by
  simp only[Qw]at h;cases hb:xan i 0<;>rw[hb]at h
  ·cases h
  ·rw[ya hb];exact xdZ
 |n+2,.p s t,0,f,h=>Nat.succ_pos _
 |n+2,.p s t,i+1,f,h=>by
  simp only[Qw]at h;split at h
  ·next f' hf=>exact Nat.succ_lt_succ (BZ hf)
  ·cases h
 |n+2,.i,_,_,h=>by simp[Qw]at h
 |n+2,.u,_,_,h=>by simp[Qw]at h
 |n+2,.b,_,_,h=>by simp[Qw]at h
 |n+2,.l _,_,_,h=>by simp[Qw]at h
 |n+2,.a _ _,_,_,h=>by simp[Qw]at h
 |n+2,.ch,_,_,h=>by simp[Qw]at h
 |n+2,.tx,_,_,h=>by simp[Qw]at h
theorem Rz.of{t:TypeId}{ti:TI}(h:Mc P t ti):Rz P t ti:=by
 unfold Mc at h;unfold Rz;split at h
 ·next h0=>simp only[h0];exact h
 ·next h0=>simp only[h0];exact h
 ·next h0=>simp only[h0];exact h
 ·next h0=>simp only[h0];exact h
 ·next n h0=>
  simp only[h0];obtain⟨h1,h⟩:=h;have h2:=congrArg (fun q=>q.1.1) h;have ha:=congrArg (fun q=>q.1.2) h;have h3:=congrArg Prod.snd h;simp only[zdG,zax]at h2 ha h3;refine⟨h1,fun i f hf=> ?_,?_,fun i f hf=> ?_⟩;rotate_left 2
  ·have:=congrArg (fun l:List (Option (Nat×Bool×Nat))=>l[i]?) ha;simp only[xaB,xbg (BZ hf),Option.map_some,hf]at this;simpa using this
  ·have:=congrArg (fun l:List (Option Nat)=>l[i]?) h2;simp only[xaB,xbg (BZ hf),Option.map_some,hf]at this;simpa using this
  ·cases hp:plB P t with
   |none=>
    rw[hp]at h3;cases h3
   |some a=>
    rw[hp]at h3;simp only[xaw]at h3;obtain⟨fs,h4,h5⟩:=zdc hp;refine⟨fs,h4,a,h5,fun i f hf=> ?_⟩;have:=congrArg (fun l:List (Option (Nat×Nat))=>l[i]?) h3;simp only[xaB,xbg (BZ hf),Option.map_some,hf]at this;rw[<-Array.getElem?_toList]
    cases hx:a.toList[i]? with
    |none=>rw[hx]at this;cases this
    |some q=>rw[hx]at this;simpa using this
 ·next h0=>simp only[h0];exact h
theorem Rh.of{t:TypeId}{ti:TI}(h1:tyB P t=some (ti.ty.rep.agg,ti.ty.n,ti.B,some (ti.ty.rep.val (zc ti.ty))))(h2:(xdl 0 ti.B && xdl 0 ti.ty.n)=true)(h3:Mc P t ti):Rh P t ti:=by
 rw[xam]at h2;have hz:=fun S w=>zcC S w ti.ty;refine⟨⟨_,(by rw[Ty.n_rep];exact XG.of h1),?_,fun S w=> ?_,fun s hs=>by rw[hs];rfl⟩,xbJ h2.1,(by rw[Ty.n_rep];exact xbJ h2.2),Rz.of h3⟩
 ·rw[<-xeM,zX.val_cells _ (hz (fun _=>True) default),ti.ty.rep.len (hz (fun _=>True) default)]
 ·rw[zX.val_cells _ (hz S w)];exact hz S w
theorem zT.nil:zT P []:=fun _ _ h=>by cases h
theorem zT.cons{t:TypeId}{ti:TI}{tt:List (Nat×TI)}(h:Rh P t ti)(k:zT P tt):zT P ((t,ti)::tt):=by
 intro t' ti' hf;unfold QJ at hf;cases hb:xan t t'<;>rw[hb]at hf
 ·exact k t' ti' hf
 ·cases hf;rw[<-ya hb];exact h
theorem zT.add{t:TypeId}{ti:TI}{tt:List (Nat×TI)}(h1:tyB P t=some (ti.ty.rep.agg,ti.ty.n,ti.B,some (ti.ty.rep.val (zc ti.ty))))(h2:(xdl 0 ti.B && xdl 0 ti.ty.n)=true)(h3:Mc P t ti)(k:zT P tt):zT P ((t,ti)::tt):=zT.cons (Rh.of h1 h2 h3) k
def elB(tt:List (Nat×TI)):List (Nat×TI)->Bool
 |[]=>true
 |(_,⟨.l s,.sl E,_⟩)::r=>(match QJ tt E with
  |some ti=>(Ty.same ti.ty s).isSome
  |none=>false) && elB tt r
 |_::r=>elB tt r
theorem jE.of'{tt:List (Nat×TI)}: ∀{l:List (Nat×TI)},elB tt l=true-> ∀t s E B,QJ l t=some ⟨.l s,.sl E,B⟩-> ∃ti,QJ tt E=some ti/\ti.ty=s
 |[],_,_,_,_,_,h=>by cases h
 |(t',ti')::r,h,t,s,E,B,hf=>by
  have hr:elB tt r=true:=by
   unfold elB at h;split at h
   ·cases‹_::_=[]›
   ·next hh=>cases hh;rw[xam]at h;exact h.2
   ·next hh=>cases hh;exact h
  unfold QJ at hf;cases hb:xan t' t<;>rw[hb]at hf
  ·exact jE.of' hr t s E B hf
  ·cases hf;unfold elB at h;simp only[xam]at h;have h:=h.1;split at h
   ·next ti he=>
    refine⟨ti,he,?_⟩
    cases hs:Ty.same ti.ty s with
    |none=>rw[hs]at h;cases h
    |some p=>exact p.down
   ·cases h
theorem jE.of{tt:List (Nat×TI)}(h:elB tt tt=true):jE P tt:=fun t s E B=>jE.of' h t s E B
theorem aZ.nil:aZ P []:=fun _ _ h=>by cases h
theorem aZ.add{f:Nat}{b:Bool}{ex:List (Nat×Bool)}{fn:Func}(h0:P.funcs[f]? =some fn)(h1:(fn.name== "runtime.NumGoroutine")=false)(h2:fn.body=none)(h3:(xdX fn).isNone=true)
 (h4:b=true->xeO fn=some (fun args=>do
  let(x,y,c)<-xbM "Add64" args
  pure (xbS ((x+y+c) % xaZ) ((x+y+c)/xaZ))))
 (h5:b=false->xeO fn=some (fun args=>do
  let(x,y,b)<-xbM "Sub64" args
  pure (xbS ((x+xaZ-y-b) % xaZ) (if x<y+b then 1 else 0)))) (k:aZ P ex):aZ P ((f,b)::ex):=by
 intro f' b' hf;unfold QJ at hf;cases hb:xan f f'<;>rw[hb]at hf
 ·exact k f' b' hf
 ·cases hf;rw[<-ya hb];exact⟨fn,h0,h1,h2,h3,h4,h5⟩
theorem cN: ∀s∈([]:List Vb),y5 P s:=fun _ h=>absurd h xaa
theorem cC{s:Vb}{l:List Vb}(h:y5 P s)(k: ∀s∈l,y5 P s): ∀q∈s::l,y5 P q:=fun x hx=>by
 rcases xae.1 hx with e|hx
 ·subst e;exact h
 ·exact k x hx
theorem sg0{s:Vb}(hb:rf P s.f=true)(hM: ∀x,s.M x=none):y5 P s:=⟨hb,fun x r h=>by rw[hM x]at h;cases h⟩
theorem rm.of{tt:List (Nat×TI)}{ex:List (Nat×Bool)}{cs:List Vb}{an:An}{fu:Nat}(hX:aZ P ex)(hp:P=Tryz.prog):rm P ⟨tt,cs,an,fu,ex,[],[],[]⟩:=⟨hX,fun _ h=>absurd h xaa,fun _ h=>absurd h xaa,fun _ h=>absurd h xaa,hp⟩
theorem sgP(hm:P.follows .mixedOrders=true){tt:List (Nat×TI)}{ex:List (Nat×Bool)}(hT:zT P tt)(hL:jE P tt)(hX:aZ P ex)(hp:P=Tryz.prog){cs:List Vb}(an:An){fu:Nat}{s:Vb}{fn:Func}(hf:P.funcs[s.f]? =some fn)(hC: ∀s∈cs,y5 P s)(hb:rf P s.f=true)(hk:s.bk=0)(hM: ∀x,Ik ⟨tt,cs,an,fu,ex,[],[],[]⟩ fn s.dom s.cod x=s.M x):y5 P s:=
 Im (cf:=⟨tt,cs,an,fu,ex,[],[],[]⟩) hm hT hL hC (.of hX hp) hf hb hk fun x r h=>(hM x).trans h
theorem sgG(hm:P.follows .mixedOrders=true){tt:List (Nat×TI)}{ex:List (Nat×Bool)}(hT:zT P tt)(hL:jE P tt)(hX:aZ P ex)(hp:P=Tryz.prog){cs:List Vb}(an:An){fu:Nat}{s:Vb}{fn:Func}(hf:P.funcs[s.f]? =some fn)(hC: ∀s∈cs,y5 P s)(hb:rf P s.f=true)(hM: ∀pn x,zbo ⟨tt,cs,an,fu,ex,[],[],[]⟩ fn s.dom s.cod s.bk pn x=s.M x):y5 P s:=
 zeM (cf:=⟨tt,cs,an,fu,ex,[],[],[]⟩) hm hT hL hC (.of hX hp) hf hb fun pn x r h=>(hM pn x).trans h
end
end
section
def Tn:(dom:List Ty)->bn dom->Nat->List (Nat×Nat×Dv)
 |[],_,_=>[]
 |t::r,x,i=>(i,0,.d t x.1)::Tn r x.2 (i+1)
def zcQ(g:FuncId)(t:Nat)(σ:Sg):Option (List PD):=match get ⟨0,[],[]⟩ σ t 0 with
 |some (.fn f cs)=>km (xan f g) (some cs)
 |_=>none
def zhn(cf:Cf)(fn:Func)(dom:List Ty)(g:FuncId)(x:bn dom):Option (List PD):=match fn.body,fn.results.toList with
 |some c,[.tmp t]=>km (HG fn.ntmps c && xfO dom.length fn.ntmps)<|UG cf c ⟨0,[],[]⟩ ⟨0,Tn dom x 0,[]⟩ fun q σ=>match q with
  | .r=>zcQ g t σ
  | .n=>zcQ g t σ
  |_=>none
 |_,_=>none
def zcr(t:Ty)(E E1:TypeId)(ix:List Nat)(lo n:Nat)(σ:Sg):Option (List (List t.D)):=match get ⟨0,[],[]⟩ σ 3 0 with
 |some (.mv o lo' n')=>(match xH σ.ob o with
  |some (.mat t' E' F' xss ix')=>km (xan E E' && xan E1 F')<|Ty.cast (.l (.l t')) (.l (.l t)) xss fun y=>ck (lo'=lo/\n'=n/\ix'=ix) (some y)
  |_=>none)
 |_=>none
def zeB(cf:Cf)(fn:Func)(t:Ty)(E E1:TypeId)(pn:Value)(xss:List (List t.D))(ix:List Nat)(r:Nat)(a p:Int)(lo n:Nat):Option (List (List t.D)):=match fn.body,fn.results.toList with
 |some c,[]=>km (HG fn.ntmps c && xfO 4 fn.ntmps)<|UG cf c ⟨0,[(3,0,.pin pn)],[]⟩ ⟨1,[(0,0,.rw 0 r),(1,0,.d .i a),(2,0,.d .i p),(3,0,.mv 0 lo n)],[(0,.mat t E E1 xss ix)]⟩ fun q σ=>match q with
  | .r=>zcr t E E1 ix lo n σ
  | .n=>zcr t E E1 ix lo n σ
  |_=>none
 |_,_=>none
section
variable{P:Program}{cf:Cf}{env:yP}{w:World}
theorem MB{S:Nat->Prop}{vs:Nat->Value}: ∀{dom:List Ty} {x:bn dom} {i:Nat} {l:List Value},l.length=dom.length->(∀j v,l[j]? =some v->env (i+j)=v)->zA S (tsF dom x l) w->zA S (RS P vs env (Tn dom x i)) w
 |[],_,_,_,_,_,_=>trivial
 |a::dom,x,i,[],hl,_,_=>by cases hl
 |a::dom,x,i,v::l,hl,h,hA=>by
  have ih:zA S (RS P vs env (Tn dom x.2 (i+1))) w:=MB (l:=l) (by simpa using hl) (fun j v hj=>by
   have:=h (j+1) v (by simpa using hj);rw[show i+1+j=i+(j+1)by omega];exact this) hA.2
  have h0:env i=v:=h 0 v rfl;have ha:(fV a.rep x.1 v).p S w:=hA.1;exact⟨show(fV a.rep x.1 (env i)).p S w by rw[h0];exact ha,ih⟩
theorem Fv: ∀{dom:List Ty} {x:bn dom} {i:Nat},∀e∈Tn dom x i,wa e.2.2=none
 |[],_,_,e,he=>absurd he xaa
 |a::dom,x,i,e,he=>by
  rcases xae.1 he with rfl|he
  ·rfl
  ·exact Fv e he
theorem zfq(hm:P.follows .mixedOrders=true)(hT:zT P cf.tt)(hL:jE P cf.tt)(hC: ∀s∈cf.cs,y5 P s)(hX:rm P cf){s:ER}{fn:Func}
 (hf:P.funcs[s.f]? =some fn) (hb:rf P s.f=true) (hM: ∀x,zhn cf fn s.dom s.g x=some (s.mc x)):Lr P s:=by
 refine⟨hb,fun x vs hd=>MA.plain ?_⟩;have h:=hM x;unfold zhn at h;split at h
 ·next c t hc hr=>
  obtain⟨ho,h⟩:=yi h;rw[xam]at ho;intro we Se F G w hs;refine Qx hf hc (by rw[hd];exact ho.2) fun rest=> ?_;refine ZS (fr:=⟨we,Se,F,G⟩) (N:=Nd.of fn.ntmps) hm hT hL hC hX c ho.1 rfl (.inl rfl) h (fun q σ' hk Ds env w _ hR=> ?_) ?_
  ·obtain⟨hl,hR⟩:=Va hR
   have fin:zcQ s.g t σ'=some (s.mc x)-> ∀a:Act,yr a=env->
    ∃v,(results fn a.tmps).run P (qh Ds w)= .ok v (qh Ds w)/\ ∃u:Value,xet v= .returned u/\True/\St we Se ([]++F) ([zen s.g (s.mc x) u]++G) (qh Ds w):=fun h a ha=>by
    unfold zcQ at h;split at h
    ·next f cs hg=>
     obtain⟨hi,h1⟩:=yi h;have hi:=ya hi;subst hi;cases h1;obtain⟨hB,vs',hn⟩:=hR;have hq:St we Se (MS vs' σ'.ob++F) (RS P vs' env σ'.rg++([]++G)) (qh Ds w):=hn;refine⟨_,Y8 (rs:=[.tmp t]) (vs:=[env t]) (by rw[<-hr,xde]) (ha▸⟨rfl,trivial⟩),env t,rfl,trivial,?_⟩;have h3:=St.dropM (A:=[]) (B:=MS vs' σ'.ob) (C:=F) (by simpa using hq);refine h3.weak fun S w hΓ=>⟨?_,?_⟩
     ·exact ZT (fr:=⟨we,Se,F,G⟩) (cx:=⟨0,[],[]⟩) (show zA S (GS P vs' env ⟨we,Se,F,G⟩ ⟨0,[],[]⟩ σ') w from hΓ) t 0 _ hg
     ·exact zA.right hΓ
    ·cases h
   cases q with
   |n=>exact⟨.inl rfl,hl,fin hk⟩
   |r=>exact⟨.inr rfl,hl,fin hk⟩
   |x j=>cases hk
  ·refine⟨⟨fun _ he=>absurd he xaa,fun _ he=>absurd he xaa,fun e he p hp=> ?_,fun _ he=>absurd he xaa⟩,fun _=>undef,?_⟩
   ·rw[Fv e he]at hp;cases hp
   ·show St we Se ([]++([]++F)) _ w;exact hs.weak fun S w hΓ=>zA.append (MB hd (fun j v hj=>Fu hj) (zA.left hΓ)) (zA.right hΓ)
 ·cases h
theorem So{α:Type}{e:zX α}{E E1:TypeId}{u:Value}{xss:List (List α)}{ix:List Nat}{S:Nat->Prop}(h:(gn e E E1 u xss ix).p S w): ∀a k c,yY u= .slice a k c->a.isSome=true->k=ix.length:=by
 intro a k c h1 h2;rcases J6 (AU h).2.1 with⟨hv,_⟩|⟨b,cap,hv,_⟩
 ·rw[h1]at hv;cases hv;cases h2
 ·rw[h1]at hv;cases hv;rfl
theorem zbS{cx σ:Sg}{t i:Nat}{d:Dv}(h:get ⟨0,[],[]⟩ σ t i=some d):get cx σ t i=some d:=by
 unfold get at h⊢;split at h
 ·exact h
 ·cases h
theorem zfX(hm:P.follows .mixedOrders=true)(hT:zT P cf.tt)(hL:jE P cf.tt)(hC: ∀s∈cf.cs,y5 P s)(hX:rm P cf){s:oO}{fn:Func}
 (hf:P.funcs[s.f]? =some fn) (hb:rf P s.f=true) (hM: ∀pn xss ix r a p lo n z,s.M xss ix r a p lo n=some z->zeB cf fn s.t s.E s.E1 pn xss ix r a p lo n=some z):Iy P s:=by
 refine⟨hb,fun xss ix r a p lo n z hz u hr hv hx hl hy hA we Se F G w hn=> ?_⟩;have h:=hM hv xss ix r a p lo n z hz;unfold zeB at h;split at h
 ·next c hc hD=>
  obtain⟨ho,h⟩:=yi h;rw[xam]at ho;have hi: ∀a k c,yY u= .slice a k c->a.isSome=true->k=ix.length:=xO hn (i:=0) rfl fun S hp=>So hp;refine Qx (args:=[hr,.int .i64 a,.int .i64 p,hv]) hf hc ho.2 fun rest=> ?_;refine ZS (fr:=⟨we,Se,F,G⟩) (N:=Nd.of fn.ntmps) hm hT hL hC hX c ho.1 rfl (.inl rfl) h (fun q σ' hk Ds env w _ hR=> ?_) ?_
  ·obtain⟨hs,hR⟩:=Va hR
   have fin:zcr s.t s.E s.E1 ix lo n σ'=some z-> ∀a:Act,yr a=env->
    ∃v,(results fn a.tmps).run P (qh Ds w)= .ok v (qh Ds w)/\ ∃v' u',xet v= .returned v'/\yY u'=yY u/\St we Se (gn s.t.rep s.E s.E1 u' z ix::F) G (qh Ds w):=fun h a ha=>by
    unfold zcr at h;split at h
    ·next o lo' n' hg=>
     split at h
     ·next t' E' F' zss ix' ho=>
      obtain⟨hE,h1⟩:=yi h;rw[xam]at hE;have hF:=ya hE.1;have hG:=ya hE.2;subst hF hG;obtain⟨e,h2⟩:=ym h1;cases e;obtain⟨⟨rfl,rfl,rfl⟩,h3⟩:=kv h2;cases h3;obtain⟨hB,vs',hd⟩:=hR;obtain⟨S0,_,ht⟩:=hd.ex;have hu:env 3=hv:=(zA.left (zA.right ht)).1;have hw:Dw (yY (vs' o)) lo' n' (env 3):=ZT ht 3 0 _ (zbS hg);rw[hu]at hw;have h2:St we Se (gn s.t.rep s.E s.E1 (vs' o) zss ix'::OS vs' ⟨we,Se,F,G⟩ ⟨0,[(3,0,.pin hv)],[]⟩ (yC σ'.ob o)) (GS P vs' env ⟨we,Se,F,G⟩ ⟨0,[(3,0,.pin hv)],[]⟩ σ') (qh Ds w):=Zh ho hd;have hj: ∀a k c,yY (vs' o)= .slice a k c->a.isSome=true->k=ix'.length:=xO h2 (i:=0) rfl fun S hp=>So hp;refine⟨_,Y8 (rs:=[]) (vs:=[]) (by rw[<-hD,xde]) trivial,_,vs' o,rfl,hw.same hl hj hi,?_⟩;have h3:St we Se ([gn s.t.rep s.E s.E1 (vs' o) zss ix']++(MS vs' (yC σ'.ob o)++F)) (GS P vs' env ⟨we,Se,F,G⟩ ⟨0,[(3,0,.pin hv)],[]⟩ σ') (qh Ds w):=h2;exact(St.dropM h3).weak fun S w hΓ=>zA.right (zA.right hΓ)
     ·cases h
    ·cases h
   cases q with
   |n=>exact⟨.inl rfl,hs,fin hk⟩
   |r=>exact⟨.inr rfl,hs,fin hk⟩
   |x j=>cases hk
  ·refine⟨⟨fun e he=> ?_,fun _ he=>absurd he xaa,fun e he q hq=> ?_,fun e he q hq=> ?_⟩,fun _=>u,?_⟩
   ·obtain rfl:=xah.1 he;exact xdZ
   ·simp only[xae,xaa,or_false]at he;rcases he with rfl|rfl|rfl|rfl<;>cases hq<;>exact xdZ
   ·obtain rfl:=xah.1 he;cases hq
   ·refine hn.weak fun S w hΓ=>⟨hx,xJ hy,xJ hA,hl,rfl,hΓ⟩
 ·cases h
end
end
section
theorem SF{ι:Type _}{R:Type}(S:ι->Tg×Sg)(f:ι->Option R)(inj: ∀i j,S i=S j->f i=f j): ∃K:Tg->Sg->Option R,(∀i,K (S i).1 (S i).2=f i)/\ ∀t σ r,K t σ=some r-> ∃i,S i=(t,σ)/\f i=some r:=by
 classical
 refine⟨fun t σ=>if h: ∃i,S i=(t,σ)then f h.choose else none,fun i=> ?_,fun t σ r h=> ?_⟩
 ·have h: ∃j,S j=((S i).1,(S i).2):=⟨i,rfl⟩;simp only[dif_pos h];exact inj _ _ h.choose_spec
 ·by_cases h1: ∃i,S i=(t,σ)
  ·simp only[dif_pos h1]at h;exact⟨_,h1.choose_spec,h⟩
  ·simp only[dif_neg h1]at h;cases h
def chS(E:TypeId){X Y:Type}(mX:X->Value->MF)(mY:Y->Value->MF)(g:List Int->X->Option (List Int×(X⊕Y)))(n all:Int)(x:X)(xs:List Int):Sg:=
 ⟨2,[(4,0,.ow 1),(0,0,.yd 0),(1,0,.q .i n),(2,0,.q .i all)],[(1,.own .i E xs),(0,.hid .i E X Y mX mY g x)]⟩
section
variable{P:Program}{fr:Fr}{σ:Sg}{env:yP}{w:World}{E:TypeId}{X Y:Type}{mX:X->Value->MF}{mY:Y->Value->MF}{g:List Int->X->Option (List Int×(X⊕Y))}{n all:Int}{x:X}{y:Y}{xs:List Int}{o p:Nat}
theorem zdI(h4:get ⟨0,[],[]⟩ σ 4 0=some (.ow p))(h0:get ⟨0,[],[]⟩ σ 0 0=some (.yd o))(h1:get ⟨0,[],[]⟩ σ 1 0=some (.q .i n))(h2:get ⟨0,[],[]⟩ σ 2 0=some (.q .i all))(ho:xH σ.ob o=some (.hid .i E X Y mX mY g x))(hp:xH σ.ob p=some (.own .i E xs))
 (hb:xan o p=false) (h:uU P fr ⟨0,[],[]⟩ σ env w):uU P fr ⟨0,[],[]⟩ (chS E mX mY g n all x xs) env w:=by
 obtain⟨hB,vs,hc⟩:=h;have h5:=bW hb ho hp hc;refine⟨⟨fun e he=> ?_,fun _ he=>absurd he xaa,fun e he q hq=> ?_,fun _ he=>absurd he xaa⟩,fun k=>if k=0 then vs o else vs p,?_⟩
 ·simp only[chS,xae,xaa,or_false]at he⊢;rcases he with rfl|rfl<;>simp
 ·simp only[chS,xae,xaa,or_false]at he⊢;rcases he with rfl|rfl|rfl|rfl<;>cases hq<;>simp
 ·have h6:St fr.we fr.Se ([VQ vs (o,.hid .i E X Y mX mY g x),VQ vs (p,.own .i E xs)]++(MS vs (yC (yC σ.ob o) p)++fr.F)) (GS P vs env fr ⟨0,[],[]⟩ σ) w:=h5;have h7:St fr.we fr.Se ([VQ vs (p,.own .i E xs),VQ vs (o,.hid .i E X Y mX mY g x)]++fr.F) (GS P vs env fr ⟨0,[],[]⟩ σ) w:=(St.dropM h6).perm (xeH ..);refine h7.weak fun S w ha=>⟨?_,?_,?_,?_,?_⟩
  ·exact ZT ha 4 0 _ h4
  ·exact ZT ha 0 0 _ h0
  ·exact ZT ha 1 0 _ h1
  ·exact ZT ha 2 0 _ h2
  ·exact zA.right (zA.right ha)
theorem zez{t:Ty}{g:List t.D->X->Option (List t.D×(X⊕Y))}(ho:xH σ.ob o=some (.hid t E X Y mX mY g x))(h:uU P fr ⟨0,[],[]⟩ σ env w): ∃u',St fr.we fr.Se (mX x u'::fr.F) fr.G w:=by
 obtain⟨hB,vs,hb⟩:=h;obtain⟨_,h2⟩:=St.unpr (St.grp.1 (Zh ho hb));have h3:St fr.we fr.Se ([mX x ((vb (vs o)).headD undef)]++(MS vs (yC σ.ob o)++fr.F)) (GS P vs env fr ⟨0,[],[]⟩ σ) w:=h2;exact⟨_,(St.dropM h3).weak fun S w ha=>zA.right (zA.right ha)⟩
theorem zfB(ho:xH σ.ob o=some (.hiy Y mY y))(h:uU P fr ⟨0,[],[]⟩ σ env w): ∃u',St fr.we fr.Se (mY y u'::fr.F) fr.G w:=by
 obtain⟨hB,vs,hb⟩:=h;have h2:=Zh ho hb;have h3:St fr.we fr.Se ([mY y ((vb (vs o)).headD undef)]++(MS vs (yC σ.ob o)++fr.F)) (GS P vs env fr ⟨0,[],[]⟩ σ) w:=h2;exact⟨_,(St.dropM h3).weak fun S w ha=>zA.right (zA.right ha)⟩
end
end
section
section
variable{P:Program}
theorem Lj{U:Type}{f:FuncId}{args:Array Value}{Γ:List FF}{val:U->Value}{facts:U->List FF}{ok:U->Prop}(h:Fn P f args Γ val facts ok):MA P f args [] Γ val (fun _=>[]) facts ok:=by
 rintro we Se F G w ⟨h1,h2,h3,S,h4,h5,h6,h7,h8⟩;refine(h w S h5 (zA.left h8)).mono ?_;rintro e w' ⟨u,e1,e2,e3,e4⟩;exact⟨u,e1,e2,h1.trans e3,h2,h3,S,h4,fun k hk=>h5 k (xao e3.size hk),h6,yv.keep e3.to (fun m hm i hi=>e3.block i (yv.lt h7 m hm i hi) trivial) h7,zA.append e4 (zA.keep e3.to (zA.right h8))⟩
theorem MA.to{U V:Type}{f:FuncId}{args:Array Value}{ms:List MF}{Γ:List FF}{val:U->Value}{own:U->List MF}{facts:U->List FF}{ok:U->Prop}{val':V->Value}{own':V->List MF}{facts':V->List FF}{ok':V->Prop}
 (h:MA P f args ms Γ val own facts ok) (g:U->V) (h1: ∀u,val u=val' (g u)) (h2: ∀u,own u=own' (g u)) (h3: ∀u,ok u->ok' (g u)) (h4: ∀u,ok u-> ∀S w,zA S (facts u) w->zA S (facts' (g u)) w):MA P f args ms Γ val' own' facts' ok':=by
 intro we Se F G w hb;refine(h we Se F G w hb).mono ?_;rintro e w' ⟨u,e1,e2,e3⟩;exact⟨g u,by rw[e1,h1],h3 u e2,by rw[<-h2];exact e3.weak fun S w ha=>zA.append (h4 u e2 S w (zA.left ha)) (zA.right ha)⟩
theorem zf8{f:FuncId}{s t:Ty}{M:s.D->Option t.D}(hb:rf P f=true)(h: ∀x r v,M x=some r->Fn P f [v].toArray [fV s.rep x v] (fun u:Value=>u) (fun u=>[fV t.rep r u]) (fun _=>True)):y5 P ⟨f,[.d s],[.d t],fun x=>M x.1,0⟩:=by
 refine⟨hb,fun x r hM vs hl=> ?_⟩
 match vs,hl with
 |[v],_=>exact(Lj (h x.1 r v hM)).to (fun u=>[u]) (fun _=>rfl) (fun _=>rfl) (fun _ _=>rfl) fun u _ S w ha=>ha
theorem zeD{f:FuncId}{M:Nat->Option Int}(hb:rf P f=true)(h: ∀x r,x<18446744073709551616->M x=some r->Fn P f [.int .u64 (x:Int)].toArray [] (fun _:Unit=> .int .i64 r) (fun _=>[]) (fun _=>VW r)):y5 P ⟨f,[.d .u],[.d .i],fun x=>M x.1,0⟩:=by
 refine⟨hb,fun x r hM vs hl=> ?_⟩
 match vs,hl with
 |[v],_=>
  intro we Se F G w hc;obtain⟨S0,_,hΓ⟩:=hc.ex;obtain⟨hv,hx⟩:=R8 (show(fV eU x.1 v).p S0 w from hΓ.1);have:=Lj (h x.1 r hx hM);rw[<-hv]at this;have h2:MA P f [v].toArray [] [] ZR (fun us=>uY [RM.d .i] r us) (fun us=>uI [RM.d .i] r us) (fun us=>us.length=1):=this.to (fun _=>[.int .i64 r]) (fun _=>rfl) (fun _=>rfl) (fun _ _=>rfl) fun u hu S w ha=>⟨xJ hu,trivial⟩;exact h2 we Se F G w (hc.weak fun S w ha=>ha.2)
end
end
section
section
variable{P:Program}
theorem VX.of_below{w w':World}(h:RowKit.Below w.heap.size w w'):VX w w':=⟨h.os,h.tape,h.output,h.size,fun k hk _=>h.block k hk⟩
def Th(xs:List (List Nat))(sep:List Nat):Option (List Nat):=ck (xs.length<=140737488355328)<|ck ((sep.intercalate xs).length<=140737488355328)<|some (sep.intercalate xs)
theorem DY{S:Nat->Prop}{w:World}: ∀{xs:List (List Nat)} {cs:List Value},yu eTx S xs cs w-> ∃bs:List ByteArray,cs=bs.map Value.string/\bs.map yM=xs
 |[],cs,h=>⟨[],h,rfl⟩
 |x::xs,cs,⟨c,r,h1,h2,h3⟩=>by
  obtain⟨bs,e1,e2⟩:=DY h3;obtain⟨b,e3,e4,_⟩:=h2;exact⟨b::bs,by rw[h1,e3,e1];rfl,by rw[xbR,e4,e2]⟩
theorem tT{α β:Type}(f:α->β)(s:List α): ∀X:List (List α),(s.intercalate X).map f=(s.map f).intercalate (X.map (List.map f))
 |[]=>by simp[xfA]
 |[x]=>by simp[xfA]
 |x::y::r=>by
  have ih:=tT f s (y::r);simp only[xfA,xbR,List.intersperse_cons_cons,List.flatten_cons,xaO]at ih⊢;rw[ih]
theorem IL(bs:List ByteArray)(s:ByteArray):yM ⟨(Lib.join (bs.map (·.data.toList)) s.data.toList).toArray⟩=(yM s).intercalate (bs.map yM):=by
 show((Lib.join (bs.map (·.data.toList)) s.data.toList).toArray.toList).map xfj=_;rw[List.toList_toArray];unfold Lib.join;rw[tT,xcP];rfl
theorem Ti{f:FuncId}(hb:rf P f=true)
 (h0: ∀(a:Option Addr) (c:Nat) (sep:ByteArray) (w:World),Calls P f #[.slice a 0 c,.string sep] w fun e w'=>e= .returned (.string ⟨#[]⟩)/\w'=w)
 (h1: ∀(bk o c:Nat) (xs:List ByteArray) (sep:ByteArray) (w:World),(∀(j:Nat) x,xs[j]? =some x->w.cell? ⟨bk,o+j,none⟩=some (.string x))->bk<w.heap.size->xs.length<=140737488355328->xs.length<=c->(Lib.join (xs.map (·.data.toList)) sep.data.toList).length<=140737488355328->
  Calls P f #[.slice (some ⟨bk,o,none⟩) xs.length c,.string sep] w fun e w'=>e= .returned (.string ⟨(Lib.join (xs.map (·.data.toList)) sep.data.toList).toArray⟩)/\RowKit.Below w.heap.size w w'):
 y5 P ⟨f,[.d (.l .tx),.d .tx],[.d .tx],fun x=>Th x.1 x.2.1,0⟩:=by
 refine⟨hb,fun x r hM vs hl=> ?_⟩
 match vs,hl with
 |[v,u],_=>
  have hM:Th x.1 x.2.1=some r:=hM;unfold Th at hM;obtain⟨k1,hM⟩:=kv hM;obtain⟨k2,hM⟩:=kv hM;have hr:r=xfA (α:=Nat) x.2.1 x.1:=(xds hM).symm;have key:Fn P f #[v,u] [fV (eS eTx) x.1 v,fV eTx x.2.1 u] (fun _:Unit=> .string ⟨(r.map xeP).toArray⟩) (fun _=>[fV eTx r (.string ⟨(r.map xeP).toArray⟩)]) (fun _=>True):=by
   intro w Se hm hΓ;obtain⟨hv,hu,_⟩:=hΓ;obtain⟨sb,rfl,e2,e3⟩:=Ea hu;obtain⟨ao,cap,rfl,hf,hn,h⟩:=xm.1 hv;have fin: ∀(t:List UInt8) (w':World),VX w w'->t.map xfj=r->FnQ Se w (fun _:Unit=> .string ⟨(r.map xeP).toArray⟩) (fun _=>[fV eTx r (.string ⟨(r.map xeP).toArray⟩)]) (fun _=>True) (.returned (.string ⟨t.toArray⟩)) w':=by
    intro t w' hx ht;have e5:t=r.map xeP:=by
     rw[<-ht,xcP];conv=>lhs;rw[<-List.map_id t]
     exact xbO fun b _=>by simp
    rw[<-e5];refine⟨(),rfl,trivial,hx,EE ?_ ?_,trivial⟩
    ·unfold yM;simpa using ht
    ·have h6:=vX ⟨t.toArray⟩;have h7:(yM ⟨t.toArray⟩).length=r.length:=by unfold yM;rw[<-ht]
     have h8:r.length<=140737488355328:=by rw[hr];exact k2
     omega
   rcases h with h|⟨b,o,cs,rfl,hs,hd,hg⟩
   ·have h:x.1=([]:List (List Nat)):=h;have hi:r=[]:=by rw[hr,h];rfl
    rw[h];refine(h0 ao cap sb w).mono ?_;rintro e w' ⟨rfl,rfl⟩;exact fin [] w' (yp.refl _ _) hi.symm
   ·obtain⟨bs,e4,e5⟩:=DY hg;have hc:bs.length=xaG (α:=List Nat) x.1:=by rw[<-e5,xaN]
    have hj:=IL bs sb;rw[e2,e5]at hj;have he:(Lib.join (bs.map (·.data.toList)) sb.data.toList).map xfj=r:=by
     rw[hr,<-hj];unfold yM;simp
    have:=h1 b o cap bs sb w (fun j y hy=>hd.2 j (.string y) (by rw[e4,xaB,hy];rfl)) hd.1 (by rw[hc];exact k1) (by rw[hc];exact hf) (by
     have h9:=congrArg xaG he;rw[xaN]at h9;rw[h9,hr];exact k2)
    rw[hc]at this;refine this.mono ?_;rintro e w' ⟨rfl,hk⟩;exact fin _ w' (VX.of_below hk) he
  exact(Lj key).to (fun _=>[.string ⟨(r.map xeP).toArray⟩]) (fun _=>rfl) (fun _=>rfl) (fun _ _=>rfl) fun _ _ S w ha=>ha
end
end
section
set_option maxRecDepth 100000
variable{cs:List Vb}{fu:Nat}{s:Vb}
def tt:List (Nat×TI):=[(2,⟨.i,.int .i64,8⟩),(3,⟨.i,.int .i64,8⟩),(4,⟨.b,.bool,1⟩),(5,⟨.ch,.int .u8,1⟩),(6,⟨.ch,.int .u8,1⟩),(7,⟨(.p .i (.p .i (.p .b .ch))),.st 4,24⟩),(8,⟨(.p .i (.p .i (.p .b .ch))),.st 4,24⟩),(9,⟨.tx,.str,16⟩),(10,⟨.tx,.str,16⟩),(11,⟨.tx,.str,16⟩),(12,⟨.u,.int .u64,8⟩),(13,⟨(.p .tx .u),.st 2,24⟩),(14,⟨(.p .tx .u),.st 2,24⟩),(22,⟨(.l (.p .b (.l .u))),.sl 30,24⟩),(23,⟨(.l .i),.sl 3,24⟩),(26,⟨.i,.int .i64,8⟩),(28,⟨(.l .u),.sl 54,24⟩),(29,⟨(.p .b (.l .u)),.st 2,32⟩),(30,⟨(.p .b (.l .u)),.st 2,32⟩),(31,⟨(.l (.p (.l (.p .b (.l .u))) .i)),.sl 42,24⟩),(41,⟨(.p (.l (.p .b (.l .u))) .i),.st 2,32⟩),(42,⟨(.p (.l (.p .b (.l .u))) .i),.st 2,32⟩),(53,⟨.u,.int .u64,8⟩),(54,⟨.u,.int .u64,8⟩),(55,⟨(.l (.l (.p .b (.l .u)))),.sl 22,24⟩),(59,⟨(.l (.l (.p (.p .b (.l .u)) (.l .u)))),.sl 60,24⟩),(60,⟨(.l (.p (.p .b (.l .u)) (.l .u))),.sl 78,24⟩),(62,⟨(.p (.l (.p .b (.l .u))) (.l (.p (.p .b (.l .u)) (.l .u)))),.st 2,48⟩),(63,⟨(.p (.l (.p .b (.l .u))) (.l (.p (.p .b (.l .u)) (.l .u)))),.st 2,48⟩),(77,⟨(.p (.p .b (.l .u)) (.l .u)),.st 2,56⟩),(78,⟨(.p (.p .b (.l .u)) (.l .u)),.st 2,56⟩),(138,⟨(.l (.l .i)),.sl 23,24⟩),(169,⟨(.p (.l (.p .b (.l .u))) (.p (.l (.p .b (.l .u))) (.p (.p .b (.l .u)) (.p (.p .b (.l .u)) .b)))),.st 5,120⟩),(170,⟨(.p (.l (.p .b (.l .u))) (.p (.l (.p .b (.l .u))) (.p (.p .b (.l .u)) (.p (.p .b (.l .u)) .b)))),.st 5,120⟩),(171,⟨(.l .tx),.sl 9,24⟩),(218,⟨(.l .ch),.sl 5,24⟩),(251,⟨(.a 4 (.l (.p .b (.l .u)))),.ar 4 22,96⟩),(252,⟨(.a 4 (.l (.p .b (.l .u)))),.ar 4 22,96⟩),(257,⟨.i,.int .i64,8⟩),(285,⟨(.a 3 (.l .i)),.ar 3 23,72⟩),(286,⟨(.a 3 (.l .i)),.ar 3 23,72⟩),(293,⟨.u,.int .u64,8⟩),(313,⟨(.p (.l (.p .b (.l .u))) (.l (.l (.p .b (.l .u))))),.st 2,48⟩),(314,⟨(.p (.l (.p .b (.l .u))) (.l (.l (.p .b (.l .u))))),.st 2,48⟩),(318,⟨(.p (.p (.l (.p .b (.l .u))) (.l (.l (.p .b (.l .u))))) (.l (.l (.p .b (.l .u))))),.st 2,72⟩),(319,⟨(.p (.p (.l (.p .b (.l .u))) (.l (.l (.p .b (.l .u))))) (.l (.l (.p .b (.l .u))))),.st 2,72⟩),(322,⟨(.p (.p .b (.l .u)) (.p (.p .b (.l .u)) (.p .b (.l .u)))),.st 3,96⟩),(323,⟨(.p (.p .b (.l .u)) (.p (.p .b (.l .u)) (.p .b (.l .u)))),.st 3,96⟩),(342,⟨.ch,.int .u8,1⟩),(343,⟨.ch,.int .u8,1⟩)]
def ex:List (Nat×Bool):=[(214,true),(219,false)]
theorem HN:zT Tryz.prog tt:=zT.add (by kernel_rfl) (by kernel_rfl) (id (by kernel_rfl:Tryz.prog.underlying 2=some (.int .i64)))<|
 zT.add (by kernel_rfl) (by kernel_rfl) (id (by kernel_rfl:Tryz.prog.underlying 3=some (.int .i64)))<|
 zT.add (by kernel_rfl) (by kernel_rfl) (id (by kernel_rfl:Tryz.prog.underlying 4=some .bool))<|
 zT.add (by kernel_rfl) (by kernel_rfl) (id (by kernel_rfl:Tryz.prog.underlying 5=some (.int .u8)))<|
 zT.add (by kernel_rfl) (by kernel_rfl) (id (by kernel_rfl:Tryz.prog.underlying 6=some (.int .u8)))<|
 zT.add (by kernel_rfl) (by kernel_rfl) ⟨rfl,by kernel_rfl⟩<|
 zT.add (by kernel_rfl) (by kernel_rfl) ⟨rfl,by kernel_rfl⟩<|
 zT.add (by kernel_rfl) (by kernel_rfl) (id (by kernel_rfl:Tryz.prog.underlying 9=some .string))<|
 zT.add (by kernel_rfl) (by kernel_rfl) (id (by kernel_rfl:Tryz.prog.underlying 10=some .string))<|
 zT.add (by kernel_rfl) (by kernel_rfl) (id (by kernel_rfl:Tryz.prog.underlying 11=some .string))<|
 zT.add (by kernel_rfl) (by kernel_rfl) (id (by kernel_rfl:Tryz.prog.underlying 12=some (.int .u64)))<|
 zT.add (by kernel_rfl) (by kernel_rfl) ⟨rfl,by kernel_rfl⟩<|
 zT.add (by kernel_rfl) (by kernel_rfl) ⟨rfl,by kernel_rfl⟩<|
 zT.add (by kernel_rfl) (by kernel_rfl) ⟨by kernel_rfl,_,rfl⟩<|
 zT.add (by kernel_rfl) (by kernel_rfl) ⟨by kernel_rfl,_,rfl⟩<|
 zT.add (by kernel_rfl) (by kernel_rfl) (id (by kernel_rfl:Tryz.prog.underlying 26=some (.int .i64)))<|
 zT.add (by kernel_rfl) (by kernel_rfl) ⟨by kernel_rfl,_,rfl⟩<|
 zT.add (by kernel_rfl) (by kernel_rfl) ⟨rfl,by kernel_rfl⟩<|
 zT.add (by kernel_rfl) (by kernel_rfl) ⟨rfl,by kernel_rfl⟩<|
 zT.add (by kernel_rfl) (by kernel_rfl) ⟨by kernel_rfl,_,rfl⟩<|
 zT.add (by kernel_rfl) (by kernel_rfl) ⟨rfl,by kernel_rfl⟩<|
 zT.add (by kernel_rfl) (by kernel_rfl) ⟨rfl,by kernel_rfl⟩<|
 zT.add (by kernel_rfl) (by kernel_rfl) (id (by kernel_rfl:Tryz.prog.underlying 53=some (.int .u64)))<|
 zT.add (by kernel_rfl) (by kernel_rfl) (id (by kernel_rfl:Tryz.prog.underlying 54=some (.int .u64)))<|
 zT.add (by kernel_rfl) (by kernel_rfl) ⟨by kernel_rfl,_,rfl⟩<|
 zT.add (by kernel_rfl) (by kernel_rfl) ⟨by kernel_rfl,_,rfl⟩<|
 zT.add (by kernel_rfl) (by kernel_rfl) ⟨by kernel_rfl,_,rfl⟩<|
 zT.add (by kernel_rfl) (by kernel_rfl) ⟨rfl,by kernel_rfl⟩<|
 zT.add (by kernel_rfl) (by kernel_rfl) ⟨rfl,by kernel_rfl⟩<|
 zT.add (by kernel_rfl) (by kernel_rfl) ⟨rfl,by kernel_rfl⟩<|
 zT.add (by kernel_rfl) (by kernel_rfl) ⟨rfl,by kernel_rfl⟩<|
 zT.add (by kernel_rfl) (by kernel_rfl) ⟨by kernel_rfl,_,rfl⟩<|
 zT.add (by kernel_rfl) (by kernel_rfl) ⟨rfl,by kernel_rfl⟩<|
 zT.add (by kernel_rfl) (by kernel_rfl) ⟨rfl,by kernel_rfl⟩<|
 zT.add (by kernel_rfl) (by kernel_rfl) ⟨by kernel_rfl,_,rfl⟩<|
 zT.add (by kernel_rfl) (by kernel_rfl) ⟨by kernel_rfl,_,rfl⟩<|
 zT.add (by kernel_rfl) (by kernel_rfl) ⟨rfl,by kernel_rfl⟩<|
 zT.add (by kernel_rfl) (by kernel_rfl) ⟨rfl,by kernel_rfl⟩<|
 zT.add (by kernel_rfl) (by kernel_rfl) (id (by kernel_rfl:Tryz.prog.underlying 257=some (.int .i64)))<|
 zT.add (by kernel_rfl) (by kernel_rfl) ⟨rfl,by kernel_rfl⟩<|
 zT.add (by kernel_rfl) (by kernel_rfl) ⟨rfl,by kernel_rfl⟩<|
 zT.add (by kernel_rfl) (by kernel_rfl) (id (by kernel_rfl:Tryz.prog.underlying 293=some (.int .u64)))<|
 zT.add (by kernel_rfl) (by kernel_rfl) ⟨rfl,by kernel_rfl⟩<|
 zT.add (by kernel_rfl) (by kernel_rfl) ⟨rfl,by kernel_rfl⟩<|
 zT.add (by kernel_rfl) (by kernel_rfl) ⟨rfl,by kernel_rfl⟩<|
 zT.add (by kernel_rfl) (by kernel_rfl) ⟨rfl,by kernel_rfl⟩<|
 zT.add (by kernel_rfl) (by kernel_rfl) ⟨rfl,by kernel_rfl⟩<|
 zT.add (by kernel_rfl) (by kernel_rfl) ⟨rfl,by kernel_rfl⟩<|
 zT.add (by kernel_rfl) (by kernel_rfl) (id (by kernel_rfl:Tryz.prog.underlying 342=some (.int .u8)))<|
 zT.add (by kernel_rfl) (by kernel_rfl) (id (by kernel_rfl:Tryz.prog.underlying 343=some (.int .u8)))<|
 zT.nil
theorem Ha:jE Tryz.prog tt:=jE.of (by kernel_rfl)
theorem IU:aZ Tryz.prog ex:=aZ.add Tryz.func214 (by kernel_rfl) (by kernel_rfl) (by kernel_rfl) (fun _=>by kernel_rfl) (fun h=>by cases h)<|
 aZ.add Tryz.func219 (by kernel_rfl) (by kernel_rfl) (by kernel_rfl) (fun h=>by cases h) (fun _=>by kernel_rfl)<|
 aZ.nil
theorem Lz:Tryz.prog.follows .mixedOrders=true:=by kernel_rfl
theorem sg(an:An){fn:Func}(hf:Tryz.prog.funcs[s.f]? =some fn)(hC: ∀s∈cs,y5 Tryz.prog s)(hb:rf Tryz.prog s.f=true)(hM: ∀x,Ik ⟨tt,cs,an,fu,ex,[],[],[]⟩ fn s.dom s.cod x=s.M x)(hk:s.bk=0:=by rfl):y5 Tryz.prog s:=
 sgP Lz HN Ha IU rfl an hf hC hb hk hM
theorem sq(fu:Nat)(an:An){fn:Func}(hf:Tryz.prog.funcs[s.f]? =some fn)(hC: ∀s∈cs,y5 Tryz.prog s)(hb:rf Tryz.prog s.f=true:=by kernel_rfl)(hM: ∀x,Ik ⟨tt,cs,an,fu,ex,[],[],[]⟩ fn s.dom s.cod x=s.M x:=by intro x;kernel_rfl)(hk:s.bk=0:=by rfl):y5 Tryz.prog s:=sg an hf hC hb hM hk
abbrev yw(s:Vb):Prop:=y5 Tryz.prog s
abbrev vc:An:=⟨[],[],[],[],[],[]⟩
abbrev xa:Ty:= .l (.p .b (.l .u))
abbrev zY:Ty:= .p .b (.l .u)
abbrev N7:Ty:= .l (.l (.p .b (.l .u)))
abbrev ZW:Ty:= .l .u
abbrev yR:Ty:= .l .i
theorem OT(an:An){fn:Func}(hf:Tryz.prog.funcs[s.f]? =some fn)(hC: ∀s∈cs,y5 Tryz.prog s)(hb:rf Tryz.prog s.f=true)(hM: ∀pn x,zbo ⟨tt,cs,an,fu,ex,[],[],[]⟩ fn s.dom s.cod s.bk pn x=s.M x):y5 Tryz.prog s:=
 sgG Lz HN Ha IU rfl an hf hC hb hM
end
section
set_option maxRecDepth 100000
section
variable(fu:Nat)
def o5(fu:Nat)(b:List Nat):(Int->Option Int)->Int->Option Int:=fun L a=>if 0<a then ze (a-1) fun d=>zH d (b.length) fun e=>nm (b.getD e 0) fun f=>if(f:Int)=(((0:Nat):Nat):Int)then ze (a-1) fun g=>L g else some a else some a
def cW(a:List Nat):Option (List Nat):=bd (zj (o5 fu a) fu ((a.length:Int))) fun e=>ki e fun b=>ck (b<=a.length)<|nm (a.take b) fun d=>ck (((([]:List Nat)).length+d.length)*8<=140737488355328)<|nm ((([]:List Nat))++d) fun f=>some f
def Zy(b:Zr):Option Zr:=bd (cW fu b.2) fun a=>if b.1=true then if 0<(a.length:Int)then some (true,a)else some (false,a)else some (false,a)
def pQ(a:Int):Option Zr:=if a<0 then ze (0-a) fun b=>nm (gB b) fun d=>bd (Zy fu (true,[d])) fun e=>some e else nm (gB a) fun f=>bd (Zy fu (false,[f])) fun g=>some g
def dk(b:Zr):Option Int:=bd (Zy fu b) fun a=>if a.1=true then some (-1:Int)else if 0<(a.2.length:Int)then some (1:Int)else some (0:Int)
def ov(b:List Zr):(Int->Option Int)->Int->Option Int:=fun L a=>if 0<a then ze (a-1) fun d=>zH d (b.length) fun e=>nm (b.getD e (false,[])) fun f=>bd (dk fu f) fun g=>if g=0 then ze (a-1) fun h=>L h else some a else some a
def mW(d:List Zr)(f:Int):(((List Zr)×Int)->Option (List Zr))->((List Zr)×Int)->Option (List Zr):=fun L (a,b)=>if b<f then zH b (d.length) fun g=>nm (d.getD g (false,[])) fun h=>bd (Zy fu h) fun e=>ck ((a.length+([e]).length)*32<=140737488355328)<|nm (a++([e])) fun i=>ze (b+1) fun j=>L (i,j)else some a
def cZ(a:List Zr):Option (List Zr):=bd (zj (ov fu a) fu ((a.length:Int))) fun b=>bd (zj (mW fu a b) fu (([],(0:Int)))) fun d=>some d
def CF(a:List Int):(((List Zr)×Int)->Option (List Zr))->((List Zr)×Int)->Option (List Zr):=fun L (b,d)=>if d<(a.length:Int)then zH d (a.length) fun f=>nm (a.getD f 0) fun g=>bd (pQ fu g) fun e=>ck ((b.length+([e]).length)*32<=140737488355328)<|nm (b++([e])) fun h=>ze (d+1) fun i=>L (h,i)else some b
def aW(a:List Int):Option (List Zr):=bd (zj (CF fu a) fu (([],(0:Int)))) fun b=>bd (cZ fu b) fun d=>some d
def JX(fu:Nat)(b:List Nat)(d:List Nat):(Int->Option (Unit⊕Unit))->Int->Option (Unit⊕Unit):=fun L a=>if a<(b.length:Int)then zH a (b.length) fun e=>nm (b.getD e 0) fun f=>zH a (d.length) fun g=>nm (d.getD g 0) fun h=>if(f:Int)=(h:Int)then ze (a+1) fun i=>L i else some (.inr ())else some (.inl ())
def Wj(a:List Nat)(b:List Nat):Option Bool:=if(a.length:Int)=(b.length:Int)then bd (zj (JX fu a b) fu (0:Int)) fun d=>match d with
 | .inl _=>some true
 | .inr _=>some false else some false
def Wa(a:Zr)(b:Zr):Option Bool:=nm (a.1==b.1) fun d=>if d then bd (Wj fu a.2 b.2) fun e=>some e else some false
def Ku(b:List Zr)(d:List Zr):(Int->Option (Unit⊕Unit))->Int->Option (Unit⊕Unit):=fun L a=>if a<(b.length:Int)then zH a (b.length) fun e=>nm (b.getD e (false,[])) fun f=>zH a (d.length) fun g=>nm (d.getD g (false,[])) fun h=>bd (Wa fu f h) fun i=>if !i then some (.inr ())else ze (a+1) fun j=>L j else some (.inl ())
def u6(a:List Zr)(b:List Zr):Option Bool:=if(a.length:Int)=(b.length:Int)then bd (zj (Ku fu a b) fu (0:Int)) fun d=>match d with
 | .inl _=>some true
 | .inr _=>some false else some false
def mV(b:List ((List Zr)×Int))(d:List ((List Zr)×Int)):(Int->Option (Unit⊕Unit))->Int->Option (Unit⊕Unit):=fun L a=>if a<(b.length:Int)then zH a (b.length) fun e=>nm (b.getD e ([],0)) fun f=>zH a (d.length) fun g=>nm (d.getD g ([],0)) fun h=>if f.2=h.2 then zH a (b.length) fun i=>nm (b.getD i ([],0)) fun j=>zH a (d.length) fun k=>nm (d.getD k ([],0)) fun l=>bd (u6 fu j.1 l.1) fun m=>if !m then some (.inr ())else ze (a+1) fun o=>L o else some (.inr ())else some (.inl ())
def dG(a:List ((List Zr)×Int))(b:List ((List Zr)×Int)):Option Bool:=if(a.length:Int)=(b.length:Int)then bd (zj (mV fu a b) fu (0:Int)) fun d=>match d with
 | .inl _=>some true
 | .inr _=>some false else some false
def Xa(fu:Nat)(a:List Nat)(b:Int):Option Nat:=if b<(a.length:Int)then zH b (a.length) fun d=>nm (a.getD d 0) fun e=>some e else some (0:Nat)
def KR(b:Int)(a:Nat)(f:List Nat)(g:List Nat):Option (Nat×Nat):=bd (Xa fu f b) fun d=>bd (Xa fu g b) fun e=>ck (a<=1)<|nm ((d+e+a) % 18446744073709551616) fun h=>nm ((d+e+a)/18446744073709551616) fun i=>some (h,i)
def JF(fu:Nat)(e:Int->Nat->Option (Nat×Nat))(f:List Nat):((Nat×Int×(List Nat))->Option (Nat×(List Nat)))->(Nat×Int×(List Nat))->Option (Nat×(List Nat)):=fun L (d,a,b)=>if a<(f.length:Int)then bd (e a d) fun(g,h)=>zH a (b.length) fun i=>nm (b.set i g) fun j=>ze (a+1) fun k=>L (h,k,j)else some (d,b)
def wX(d:Int)(e:Int->Nat->Option (Nat×Nat)):Option ((List Nat)×Nat):=ki d fun a=>ck (8*a<=281474976710656)<|nm (xaf a 0) fun b=>bd (zj (JF fu e b) fu (((0:Nat),(0:Int),b))) fun(f,g)=>some (g,f)
def ab(fu:Nat):((List Nat)->Option (List Nat))->(List Nat)->Option (List Nat):=fun L a=>if 0<(a.length:Int)then ze (((a.length:Int))-1) fun d=>zH d (a.length) fun e=>nm (a.getD e 0) fun f=>if(f:Int)=(((0:Nat):Nat):Int)then ze (((a.length:Int))-1) fun g=>ki g fun b=>ck (b<=a.length)<|nm (a.take b) fun h=>L h else some a else some a
def xt(a:List Nat):Option (List Nat):=bd (zj (ab fu) fu a) fun b=>some b
def Zo(fu:Nat):((List Nat)->Option (List Nat))->(List Nat)->Option (List Nat):=fun L a=>if 0<(a.length:Int)then ze (((a.length:Int))-1) fun d=>zH d (a.length) fun e=>nm ((a.getD e 0)) fun f=>if(f:Int)=(((0:Nat):Nat):Int)then ze (((a.length:Int))-1) fun g=>ki g fun b=>ck (b<=a.length)<|nm (a.take b) fun h=>L h else some a else some a
def yL(a:List Nat):Option (List Nat):=bd (zj (Zo fu) fu a) fun b=>some b
def kH(a:List Nat)(b:List Nat):Option (List Nat):=nm (max ((a.length:Int)) ((b.length:Int))) fun f=>bd (wX fu f (fun zx0 zx1=>KR fu zx0 zx1 a b)) fun(d,e)=>ck ((d.length+([e]).length)*8<=140737488355328)<|nm (d++([e])) fun g=>bd (yL fu g) fun h=>some h
def uw(fu:Nat)(a:Int):Option Bool:=if a=a then some false else some true
def jB(a:Int)(b:Int):Option Int:=bd (uw fu a) fun e=>bd (uw fu b) fun d=>if e then if d then some (0:Int)else some (-1:Int)else if d then some (1:Int)else if a<b then some (-1:Int)else if b<a then some (1:Int)else some (0:Int)
def qZ(fu:Nat)(a:Nat):Option Bool:=if(a:Int)=(a:Int)then some false else some true
def vM(a:Nat)(b:Nat):Option Int:=bd (qZ fu a) fun e=>bd (qZ fu b) fun d=>if e then if d then some (0:Int)else some (-1:Int)else if d then some (1:Int)else if(a:Int)<(b:Int)then some (-1:Int)else if(b:Int)<(a:Int)then some (1:Int)else some (0:Int)
def K0(b:List Nat)(d:List Nat):(Int->Option (Unit⊕Int))->Int->Option (Unit⊕Int):=fun L a=>if 0<=a then zH a (b.length) fun e=>nm (b.getD e 0) fun f=>zH a (d.length) fun g=>nm (d.getD g 0) fun h=>if(f:Int)=(h:Int)then ze (a-1) fun i=>L i else zH a (b.length) fun j=>nm (b.getD j 0) fun k=>zH a (d.length) fun l=>nm (d.getD l 0) fun m=>bd (vM fu k m) fun o=>some (.inr o)else some (.inl ())
def Wy(d:List Nat)(e:List Nat):Option Int:=bd (xt fu d) fun a=>bd (xt fu e) fun b=>if(a.length:Int)=(b.length:Int)then ze (((a.length:Int))-1) fun f=>bd (zj (K0 fu a b) fu f) fun g=>match g with
 | .inl _=>some (0:Int)
 | .inr h=>some h else bd (jB fu ((a.length:Int)) ((b.length:Int))) fun i=>some i
def xC(fu:Nat)(a:List Nat):Option (List Nat):=ck (a.length<=17592186044416)<|some a
def uC(a:List Nat):Option (List Nat):=bd (xt fu a) fun b=>bd (xC fu b) fun d=>some d
def KP(fu:Nat)(b:Int)(a1:Nat)(a:List Nat)(d:Int):Option (Nat×Nat):=zH b (a.length) fun g=>nm (a.getD g 0) fun h=>ck ((64:Int)≠0)<|nm (xbZ d (64:Int)) fun e=>ck (0<=e)<|nm (h*2^(min (e:Int).toNat 64) % 18446744073709551616) fun i=>nm (i|||a1) fun j=>zH b (a.length) fun k=>nm (a.getD k 0) fun l=>nm (l/2^(min (((1:Nat)):Int).toNat 64)) fun m=>ck ((64:Int)≠0)<|nm (xbZ d (64:Int)) fun o=>ze ((63:Int)-o) fun f=>ck (0<=f)<|nm (m/2^(min (f:Int).toNat 64)) fun p=>some (j,p)
def uW(fu:Nat)(a:List Nat)(e:Int):Option (List Nat):=ki e fun b=>ck (8*b<=281474976710656)<|nm (xaf b 0) fun d=>ck ((d.length+a.length)*8<=140737488355328)<|nm (d++a) fun f=>some f
def Yn(b:List Nat)(a:Int):Option ((List Nat)×Int):=if a<0 then some (([],(1:Int)))else if 262144<a then some (([],(1:Int)))else bd (wX fu ((b.length:Int)) (fun zx0 zx1=>KP fu zx0 zx1 b a)) fun(d,e)=>ck ((d.length+([e]).length)*8<=140737488355328)<|nm (d++([e])) fun f=>ck ((64:Int)≠0)<|ze (xda a (64:Int)) fun g=>bd (uW fu f g) fun h=>bd (yL fu h) fun i=>some ((i,(0:Int)))
def Kp(d:Int)(m:Nat)(a:List Nat)(b:Int):Option (Nat×Nat):=zH d (a.length) fun f=>nm (a.getD f 0) fun g=>ck (0<=b)<|nm (g/2^(min (b:Int).toNat 64)) fun h=>ze (d+1) fun i=>bd (Xa fu a i) fun j=>nm (j*2^(min (((1:Nat)):Int).toNat 64) % 18446744073709551616) fun k=>ze ((63:Int)-b) fun e=>ck (0<=e)<|nm (k*2^(min (e:Int).toNat 64) % 18446744073709551616) fun m4=>nm (h|||m4) fun l=>some ((l,(0:Nat)))
def Qz(a:List Nat)(f:Int):Option (List Nat):=nm (max f (0:Int)) fun b=>ck ((64:Int)≠0)<|ze (xda b (64:Int)) fun g=>if(a.length:Int)<=g then some []else ck ((64:Int)≠0)<|ze (xda b (64:Int)) fun h=>ki h fun d=>ck (d<=a.length)<|nm (a.drop d) fun e=>ck ((64:Int)≠0)<|nm (xbZ b (64:Int)) fun i=>bd (wX fu ((e.length:Int)) (fun zx0 zx1=>Kp fu zx0 zx1 e i)) fun(j,l)=>bd (yL fu j) fun k=>some k
def xu(fu:Nat)(a:Nat):Option Int:=bd ((if 4294967296<=(a:Int)then nm (a/2^(min (32:Int).toNat 64)) fun g=>some (g,32)else some (a,0):Option (Nat×Int))) fun(b,e)=>bd ((if 65536<=(b:Int)then nm (b/2^(min (16:Int).toNat 64)) fun h=>ze (e+16) fun i=>some (h,i)else some (b,e):Option (Nat×Int))) fun(d,f)=>if 256<=(d:Int)then nm (d/2^(min (8:Int).toNat 64)) fun j=>ze (f+8) fun k=>nm (j % 256) fun l=>nm (xeT l) fun m=>ze (k+((m:Int))) fun o=>some o else nm (d % 256) fun p=>nm (xeT p) fun q=>ze (f+((q:Int))) fun r=>some r
def xc(a:Nat):Option Int:=bd (xu fu a) fun b=>ze ((64:Int)-b) fun d=>some d
def qi(fu:Nat)(l:Nat)(m:Nat)(g:Nat):((Nat×Nat)->Option Nat)->(Nat×Nat)->Option Nat:=fun L (a,h)=>if(((4294967296:Nat):Nat):Int)<=(a:Int)then nm ((a+18446744073709551616-((1:Nat))) % 18446744073709551616) fun b=>nm ((h+l) % 18446744073709551616) fun d=>if(((4294967296:Nat):Nat):Int)<=(d:Int)then some b else L (b,d)else nm ((a*m) % 18446744073709551616) fun i=>nm ((((4294967296:Nat))*h) % 18446744073709551616) fun j=>nm ((j+g) % 18446744073709551616) fun k=>if(k:Int)<(i:Int)then nm ((a+18446744073709551616-((1:Nat))) % 18446744073709551616) fun e=>nm ((h+l) % 18446744073709551616) fun f=>if(((4294967296:Nat):Nat):Int)<=(f:Int)then some e else L (e,f)else some a
def qp(fu:Nat)(k:Nat)(l:Nat)(f:Nat):((Nat×Nat)->Option Nat)->(Nat×Nat)->Option Nat:=fun L (g,a)=>if(((4294967296:Nat):Nat):Int)<=(a:Int)then nm ((a+18446744073709551616-((1:Nat))) % 18446744073709551616) fun b=>nm ((g+k) % 18446744073709551616) fun m32=>if(((4294967296:Nat):Nat):Int)<=(m32:Int)then some b else L (m32,b)else nm ((a*l) % 18446744073709551616) fun h=>nm ((((4294967296:Nat))*g) % 18446744073709551616) fun i=>nm ((i+f) % 18446744073709551616) fun j=>if(j:Int)<(h:Int)then nm ((a+18446744073709551616-((1:Nat))) % 18446744073709551616) fun d=>nm ((g+k) % 18446744073709551616) fun e=>if(((4294967296:Nat):Nat):Int)<=(e:Int)then some d else L (e,d)else some a
def vQ(o:Nat)(l:Nat)(a:Nat):Option (Nat×Nat):=if(a:Int)=(((0:Nat):Nat):Int)then none else if(a:Int)<=(o:Int)then none else if(o:Int)=(((0:Nat):Nat):Int)then ck (a≠0)<|nm (l/a) fun J=>ck (a≠0)<|nm (l % a) fun K=>some (J,K)else bd (xc fu a) fun M=>nm (gB M) fun f=>nm (a*2^(min (f:Int).toNat 64) % 18446744073709551616) fun m=>nm (m/2^(min (((32:Nat)):Int).toNat 64)) fun b=>nm (m &&& ((4294967295:Nat))) fun G=>nm (o*2^(min (f:Int).toNat 64) % 18446744073709551616) fun N=>nm ((((64:Nat))+18446744073709551616-f) % 18446744073709551616) fun O=>nm (l/2^(min (O:Int).toNat 64)) fun m9=>nm (N|||m9) fun d=>nm (l*2^(min (f:Int).toNat 64) % 18446744073709551616) fun g=>nm (g/2^(min (((32:Nat)):Int).toNat 64)) fun h=>nm (g &&& ((4294967295:Nat))) fun i=>ck (b≠0)<|nm (d/b) fun j=>nm ((j*b) % 18446744073709551616) fun p=>nm ((d+18446744073709551616-p) % 18446744073709551616) fun q=>bd (zj (qi fu b G h) fu (j,q)) fun H=>nm ((d*((4294967296:Nat))) % 18446744073709551616) fun r=>nm ((r+h) % 18446744073709551616) fun s=>nm ((H*m) % 18446744073709551616) fun t=>nm ((s+18446744073709551616-t) % 18446744073709551616) fun e=>ck (b≠0)<|nm (e/b) fun k=>nm ((k*b) % 18446744073709551616) fun u=>nm ((e+18446744073709551616-u) % 18446744073709551616) fun v=>bd (zj (qp fu b G i) fu (v,k)) fun I=>nm ((H*((4294967296:Nat))) % 18446744073709551616) fun w=>nm ((w+I) % 18446744073709551616) fun x=>nm ((e*((4294967296:Nat))) % 18446744073709551616) fun y=>nm ((y+i) % 18446744073709551616) fun A=>nm ((I*m) % 18446744073709551616) fun B=>nm ((A+18446744073709551616-B) % 18446744073709551616) fun C=>nm (C/2^(min (f:Int).toNat 64)) fun E=>some (x,E)
def vN(fu:Nat)(a:Nat)(b:Nat):Option (Nat×Nat):=nm (a &&& ((4294967295:Nat))) fun l=>nm (a/2^(min (((32:Nat)):Int).toNat 64)) fun m=>nm (b &&& ((4294967295:Nat))) fun o=>nm (b/2^(min (((32:Nat)):Int).toNat 64)) fun p=>nm ((l*o) % 18446744073709551616) fun r=>nm ((m*o) % 18446744073709551616) fun s=>nm (r/2^(min (((32:Nat)):Int).toNat 64)) fun t=>nm ((s+t) % 18446744073709551616) fun q=>nm (q &&& ((4294967295:Nat))) fun u=>nm (q/2^(min (((32:Nat)):Int).toNat 64)) fun d=>nm ((l*p) % 18446744073709551616) fun e=>nm ((u+e) % 18446744073709551616) fun f=>nm ((m*p) % 18446744073709551616) fun g=>nm ((g+d) % 18446744073709551616) fun h=>nm (f/2^(min (((32:Nat)):Int).toNat 64)) fun i=>nm ((h+i) % 18446744073709551616) fun j=>nm ((a*b) % 18446744073709551616) fun k=>some (j,k)
def VL(i:Nat)(d:Nat)(j:Nat):((Nat×Nat)->Option Nat)->(Nat×Nat)->Option Nat:=fun L (b,a)=>bd (vN fu b j) fun(f,k)=>if(f:Int)<(a:Int)then some b else if(f:Int)=(a:Int)then if(k:Int)<=(i:Int)then some b else nm ((b+18446744073709551616-((1:Nat))) % 18446744073709551616) fun g=>ck ((0:Nat)<=1)<|nm ((a+d+((0:Nat))) % 18446744073709551616) fun l=>nm ((a+d+((0:Nat)))/18446744073709551616) fun m=>if(((0:Nat):Nat):Int)<(m:Int)then some g else L (g,l)else nm ((b+18446744073709551616-((1:Nat))) % 18446744073709551616) fun h=>ck ((0:Nat)<=1)<|nm ((a+d+((0:Nat))) % 18446744073709551616) fun o=>nm ((a+d+((0:Nat)))/18446744073709551616) fun e=>if(((0:Nat):Nat):Int)<(e:Int)then some h else L (h,o)
def Vz(b:Nat)(d:Nat)(e:Nat)(a:Nat)(f:Nat):Option Nat:=if(a:Int)<=(b:Int)then some (18446744073709551615:Nat)else bd (vQ fu b d a) fun(g,h)=>bd (zj (VL fu e a f) fu (g,h)) fun i=>some i
def JR(b:Int)(a:Nat)(f:List Nat)(g:List Nat):Option (Nat×Nat):=bd (Xa fu f b) fun d=>bd (Xa fu g b) fun e=>ck (a<=1)<|nm ((d+18446744073709551616-e-a) % 18446744073709551616) fun h=>nm (if d<e+a then 1 else 0) fun i=>some (h,i)
def Wz(a:List Nat)(b:List Nat):Option ((List Nat)×Int):=nm (max ((a.length:Int)) ((b.length:Int))) fun d=>bd (wX fu d (fun zx0 zx1=>JR fu zx0 zx1 a b)) fun(e,f)=>if(((0:Nat):Nat):Int)<(f:Int)then some (([],(1:Int)))else bd (yL fu e) fun g=>some ((g,(0:Int)))
def Yb(a:List Nat)(b:List Nat):Option (List Nat):=bd (Wz fu a b) fun(d,e)=>some d
def Kh(e:Int)(a:Nat)(b:List Nat)(f:Nat):Option (Nat×Nat):=zH e (b.length) fun g=>nm (b.getD g 0) fun h=>bd (vN fu h f) fun(i,d)=>ck ((0:Nat)<=1)<|nm ((d+a+((0:Nat))) % 18446744073709551616) fun j=>nm ((d+a+((0:Nat)))/18446744073709551616) fun k=>nm ((i+k) % 18446744073709551616) fun l=>some (j,l)
def WA(a:List Nat)(e:Nat):Option (List Nat):=bd (wX fu ((a.length:Int)) (fun zx0 zx1=>Kh fu zx0 zx1 a e)) fun(b,d)=>ck ((b.length+([d]).length)*8<=140737488355328)<|nm (b++([d])) fun f=>some f
def VZ(d:List Nat)(f:Nat):((Nat×Int×(List Nat))->Option (Nat×(List Nat)))->(Nat×Int×(List Nat))->Option (Nat×(List Nat)):=fun L (e,a,b)=>if 0<=a then zH a (d.length) fun g=>nm (d.getD g 0) fun h=>bd (vQ fu e h f) fun(i,j)=>zH a (b.length) fun k=>nm (b.set k i) fun l=>ze (a-1) fun m=>L (j,m,l)else some (e,b)
def YP(a:List Nat)(d:Nat):Option ((List Nat)×Nat):=ki ((a.length:Int)) fun b=>ck (8*b<=281474976710656)<|nm (xaf b 0) fun e=>ze (((a.length:Int))-1) fun f=>bd (zj (VZ fu a d) fu (((0:Nat),f,e))) fun(g,h)=>bd (yL fu h) fun i=>some (i,g)
def K3(b:List Nat):((Int×Int×Nat×(List Nat))->Option (Int×Int×Nat×(List Nat)))->(Int×Int×Nat×(List Nat))->Option (Int×Int×Nat×(List Nat)):=fun L (g,h,d,a)=>bd (WA fu b d) fun e=>bd (Wy fu e a) fun f=>if 0<f then nm ((d+18446744073709551616-((1:Nat))) % 18446744073709551616) fun i=>L (g,h,i,a)else some (g,h,d,a)
def Y7(O:Int)(e:List Nat):(((List Nat)×Int×(List Nat)×(List Nat))->Option ((List Nat)×(List Nat)))->((List Nat)×Int×(List Nat)×(List Nat))->Option ((List Nat)×(List Nat)):=fun L (b,d,a,f)=>if 0<=d then ze (d+((e.length:Int))) fun p=>zH p (a.length) fun P=>nm ((a.getD P 0)) fun Q=>ze (d+((e.length:Int))) fun q=>ze (q-1) fun r=>zH r (a.length) fun R=>nm ((a.getD R 0)) fun S=>ze (d+((e.length:Int))) fun s=>ze (s-2) fun t=>zH t (a.length) fun U=>nm ((a.getD U 0)) fun V=>ze (((e.length:Int))-1) fun u=>zH u (b.length) fun W=>nm (b.getD W 0) fun X=>ze (((e.length:Int))-2) fun v=>zH v (b.length) fun Y=>nm (b.getD Y 0) fun Z=>bd (Vz fu Q S V X Z) fun m5=>ze (d+((e.length:Int))) fun w=>ze (w+1) fun x=>ki d fun g=>ki x fun h=>ck (g<=h/\h<=a.length)<|nm (xdr (h-g) (xdw g a)) fun j=>ck (((([]:List Nat)).length+j.length)*8<=140737488355328)<|nm ((([]:List Nat))++j) fun y=>bd (zj (K3 fu b) fu ((O,(e.length:Int),m5,y))) fun(i4,M,N,A)=>zH d (f.length) fun B=>nm (f.set B N) fun C=>ki d fun i=>ck (i<=a.length)<|bd (WA fu b N) fun E=>bd (Yb fu A E) fun k=>ze (M+1) fun G=>ki G fun l=>ck ((k.length+l)*8<=140737488355328)<|nm (k++xaf l 0) fun m=>ze (M+1) fun H=>ki H fun o=>ck (o<=m.length)<|nm (m.take o) fun I=>nm (U7 i (a.length-i) a I) fun J=>ze (d-1) fun K=>L (b,K,J,C)else some (a,f)
def Qe(p:List Nat)(q:List Nat):Option ((List Nat)×(List Nat)×Int):=bd (xt fu p) fun b=>bd (xt fu q) fun a=>bd ((if(a.length:Int)=0 then some true else some false:Option Bool)) fun r=>if r then some (([],[],(3:Int)))else bd ((bd (Wy fu b a) fun s=>if s<0 then some true else some false:Option Bool)) fun t=>if t then bd (uC fu b) fun u=>some (([],u,(0:Int)))else if(a.length:Int)=1 then zH 0 (a.length) fun v=>nm (a.getD v 0) fun w=>bd (YP fu b w) fun(x,y)=>bd (yL fu [y]) fun A=>some ((x,A,(0:Int)))else ze (((a.length:Int))-1) fun B=>zH B (a.length) fun C=>nm (a.getD C 0) fun E=>bd (xc fu E) fun d=>bd (Yn fu a d) fun(e,K)=>bd (Yn fu b d) fun(f,M)=>ze (((b.length:Int))+1) fun G=>ze (G-((f.length:Int))) fun H=>ki H fun k=>ck ((f.length+k)*8<=140737488355328)<|nm (f++xaf k 0) fun l=>ze (((l.length:Int))-((e.length:Int))) fun I=>ki I fun m=>ck (8*m<=281474976710656)<|nm (xaf m 0) fun o=>ze (((o.length:Int))-1) fun J=>bd (zj (Y7 fu d e) fu (e,J,l,o)) fun(g,h)=>bd (yL fu h) fun i=>bd (Qz fu g d) fun j=>some ((i,j,(0:Int)))
def yT(b:Bool)(d:List Nat):Option Zr:=bd (uC fu d) fun a=>if b then if 0<(a.length:Int)then some (true,a)else some (false,a)else some (false,a)
def Yh(b:Zr)(d:Zr):Option (Zr×Zr×Int):=bd (Qe fu b.2 d.2) fun(e,a,f)=>if f=0 then bd ((if b.1=true then if 0<(a.length:Int)then bd (kH fu e [(1:Nat)]) fun g=>bd (Wz fu d.2 a) fun(h,o)=>some (g,h)else some (e,a)else some (e,a):Option ((List Nat)×(List Nat)))) fun(i,j)=>nm (!(b.1==d.1)) fun k=>bd (yT fu k i) fun l=>bd (yT fu false j) fun m=>some ((l,m,(0:Int)))else some (((false,[]),(false,[]),f))
def vR(a:Zr):Option Zr:=bd (yT fu a.1 a.2) fun b=>some b
def xr(b:Zr):Option Int:=bd (vR fu b) fun a=>if a.1=true then ze ((0:Int)-2) fun d=>ze (d+1) fun e=>some e else if 0<(a.2.length:Int)then ze ((0:Int)+1) fun f=>some f else some (0:Int)
def qP(b:Zr)(d:Zr):Option (Zr×Int):=bd (Yh fu b d) fun(e,f,a)=>bd ((if a=0 then some false else some true:Option Bool)) fun g=>if g then some (((false,[]),a))else bd (xr fu f) fun h=>if h=0 then some ((e,(0:Int)))else some (((false,[]),(4:Int)))
def W9(fu:Nat)(d:Int)(i:List Nat)(j:List Nat)(k:Int)(e:List Nat):((Nat×Int×(List Nat)×(List Nat))->Option (List Nat))->(Nat×Int×(List Nat)×(List Nat))->Option (List Nat):=fun L (f,a,b,g)=>bd ((if a<(e.length:Int)then some ((i,d,j,k,d,(e.length:Int),true))else some ((i,d,j,k,d,(e.length:Int),false)):Option ((List Nat)×Int×(List Nat)×Int×Int×Int×Bool))) fun(y,l,A,B,C,E,p)=>if p then zH a (g.length) fun q=>nm ((g.getD q 0)) fun m=>ze (l+a) fun r=>ze (l+a) fun s=>zH s (b.length) fun t=>nm ((b.getD t 0)) fun o=>ck (f<=1)<|nm ((o+m+f) % 18446744073709551616) fun u=>nm ((o+m+f)/18446744073709551616) fun v=>zH r (b.length) fun w=>nm (b.set w u) fun h=>ze (a+1) fun x=>L (v,x,h,g)else some b
def KM(f:List Nat)(a:List Nat):((Int×(List Nat))->Option (List Nat))->(Int×(List Nat))->Option (List Nat):=fun L (b,g)=>bd ((if b<(a.length:Int)then some ((f,a,(a.length:Int),true))else some ((f,a,(a.length:Int),false)):Option ((List Nat)×(List Nat)×Int×Bool))) fun(h,d,j,k)=>if k then zH b (d.length) fun l=>nm (d.getD l 0) fun m=>bd (WA fu h m) fun i=>bd (zj (W9 fu b h d j i) fu (((0:Nat),(0:Int),g,i))) fun e=>ze (b+1) fun o=>L (o,e)else some g
def XV(d:List Nat)(e:List Nat):Option (List Nat):=ze (((d.length:Int))+((e.length:Int))) fun g=>ze (g+1) fun h=>ki h fun f=>ck (8*f<=281474976710656)<|nm (xaf f 0) fun i=>bd (zj (KM fu d e) fu (((0:Int),i))) fun a=>bd (yL fu a) fun b=>some b
def Wx:Nat->(List Nat)->(List Nat)->Option (List Nat)
 |0,_,_=>none
 |fu+1,y,A=>bd (xt fu y) fun a=>bd (xt fu A) fun b=>nm (min ((a.length:Int)) ((b.length:Int))) fun B=>if B<8 then bd (XV fu a b) fun C=>some C else nm (max ((a.length:Int)) ((b.length:Int))) fun E=>ck ((2:Int)≠0)<|ze (xda E (2:Int)) fun d=>nm (min d ((a.length:Int))) fun G=>ki G fun q=>ck (q<=a.length)<|nm (a.take q) fun H=>bd (xt fu H) fun r=>nm (min d ((a.length:Int))) fun I=>ki I fun s=>ck (s<=a.length)<|nm (a.drop s) fun t=>nm (min d ((b.length:Int))) fun J=>ki J fun u=>ck (u<=b.length)<|nm (b.take u) fun K=>bd (xt fu K) fun v=>nm (min d ((b.length:Int))) fun M=>ki M fun w=>ck (w<=b.length)<|nm (b.drop w) fun x=>bd (Wx fu r v) fun e=>bd (Wx fu t x) fun f=>bd (kH fu r t) fun g=>bd (kH fu v x) fun h=>bd (Wx fu g h) fun i=>bd (Yb fu i e) fun j=>bd (Yb fu j f) fun k=>bd (uW fu k d) fun l=>bd (kH fu e l) fun m=>ze ((2:Int)*d) fun N=>bd (uW fu f N) fun o=>bd (kH fu m o) fun p=>some p
def zO(a:Zr)(b:Zr):Option Zr:=nm (!(a.1==b.1)) fun d=>bd (Wx fu a.2 b.2) fun e=>bd (yT fu d e) fun f=>some f
def vi(a:Zr)(b:Zr):Option Zr:=nm (a.1==b.1) fun e=>if e then bd (kH fu a.2 b.2) fun f=>bd (yT fu a.1 f) fun g=>some g else bd ((bd (Wy fu a.2 b.2) fun h=>if h<0 then some (b,a)else some (a,b):Option (Zr×Zr))) fun(d,i)=>bd (Wz fu d.2 i.2) fun(j,l)=>bd (yT fu d.1 j) fun k=>some k
def uA(a:Zr):Option Zr:=bd (yT fu (!a.1) a.2) fun b=>some b
def vV(a:Zr)(b:Zr):Option Zr:=bd (uA fu b) fun d=>bd (vi fu a d) fun e=>some e
def WV(d:Int)(a:Zr):Option Zr:=bd (vR fu a) fun b=>some b
def wb(fu:Nat)(a:List Zr)(f:Int->Zr->Option Zr):((Int×(List Zr))->Option (List Zr))->(Int×(List Zr))->Option (List Zr):=fun L (b,d)=>bd ((if b<(a.length:Int)then some ((a,(a.length:Int),true))else some ((a,(a.length:Int),false)):Option ((List Zr)×Int×Bool))) fun(e,o,g)=>if g then zH b (e.length) fun h=>nm (e.getD h (false,[])) fun i=>bd (f b i) fun j=>zH b (d.length) fun k=>nm (d.set k j) fun l=>ze (b+1) fun m=>L (m,l)else some d
def zB(a:List Zr)(d:Int->Zr->Option Zr):Option (List Zr):=ki ((a.length:Int)) fun b=>ck (32*b<=281474976710656)<|nm (xaf b (false,[])) fun e=>bd (zj (wb fu a d) fu (((0:Int),e))) fun f=>some f
def KQ:((List Zr)->Option (List Zr))->(List Zr)->Option (List Zr):=fun L a=>if 0<(a.length:Int)then ze (((a.length:Int))-1) fun d=>zH d (a.length) fun e=>nm (a.getD e (false,[])) fun f=>bd (xr fu f) fun g=>if g=0 then ze (((a.length:Int))-1) fun h=>ki h fun b=>ck (b<=a.length)<|nm (a.take b) fun i=>L i else some a else some a
def zF(a:List Zr):Option (List Zr):=bd (zj (KQ fu) fu a) fun b=>bd (zB fu b (fun zx0 zx1=>WV fu zx0 zx1)) fun d=>some d
def Qc(k:Int)(g:List Zr):((Int×(List Zr)×(List Zr)×(List Zr)×Zr)->Option ((List Zr)×(List Zr)×(List Zr)))->(Int×(List Zr)×(List Zr)×(List Zr)×Zr)->Option ((List Zr)×(List Zr)×(List Zr)):=fun L (a,f,b,d,e)=>bd ((if a<(g.length:Int)then some ((k,(g.length:Int),true))else some ((k,(g.length:Int),false)):Option (Int×Int×Bool))) fun(l,w,m)=>if m then zH a (f.length) fun o=>nm ((f.getD o (false,[]))) fun p=>ze (l+a) fun q=>ze (l+a) fun h=>zH h (b.length) fun r=>nm ((b.getD r (false,[]))) fun s=>bd (zO fu e p) fun t=>bd (vV fu s t) fun u=>zH q (b.length) fun v=>nm (b.set v u) fun i=>ze (a+1) fun j=>L (j,f,i,d,e)else some (f,b,d)
def VS:((Int×(List Zr)×(List Zr)×(List Zr))->Option (((List Zr)×(List Zr))⊕Int))->(Int×(List Zr)×(List Zr)×(List Zr))->Option (((List Zr)×(List Zr))⊕Int):=fun L (b,a,d,e)=>if 0<=b then ze (b+((a.length:Int))) fun l=>ze (l-1) fun m=>zH m (d.length) fun o=>nm ((d.getD o (false,[]))) fun p=>ze (((a.length:Int))-1) fun q=>zH q (a.length) fun r=>nm ((a.getD r (false,[]))) fun s=>bd (qP fu p s) fun(j,k)=>if k=0 then zH b (e.length) fun t=>nm (e.set t j) fun u=>bd (zj (Qc fu b a) fu (((0:Int),a,d,u,j))) fun(f,g,h)=>ze (b-1) fun i=>L (i,f,g,h)else some (.inr k)else some (.inl (d,e))
def wB(j:List Zr)(k:List Zr):Option ((List Zr)×Int):=bd (zF fu j) fun a=>bd (zF fu k) fun b=>if(b.length:Int)=0 then some (([],(3:Int)))else bd ((if 0<(a.length:Int)then if(a.length:Int)<(b.length:Int)then some (.inr ())else some (.inl ())else some (.inl ()):Option (Unit⊕Unit))) fun l=>match l with
 | .inl _=>(ze (((a.length:Int))-((b.length:Int))) fun m=>ze (m+1) fun o=>nm (max o (0:Int)) fun p=>ki p fun h=>ck (32*h<=281474976710656)<|nm (xaf h (false,[])) fun i=>ze (((i.length:Int))-1) fun q=>bd (zj (VS fu) fu (q,b,a,i)) fun r=>match r with
 | .inl (d,e)=>bd (zF fu d) fun f=>if 0<(f.length:Int)then some (([],(4:Int)))else bd (zF fu e) fun g=>some ((g,(0:Int)))
 | .inr s=>some ([],s))
 | .inr _=>some (([],(4:Int)))
def WM(b:List Zr):((Int×(List Zr)×Int)->Option Int)->(Int×(List Zr)×Int)->Option Int:=fun L (a,d,e)=>if e=0 then ze (a+1) fun f=>bd (wB fu d b) fun(g,h)=>L (f,g,h)else some a
def u7(b:List Zr)(a:List Zr):Option Int:=bd (wB fu b a) fun(d,e)=>bd (zj (WM fu a) fu (((0:Int),d,e))) fun f=>some f
def kK(fu:Nat)(d:Int):((Bool×Int)->Option Bool)->(Bool×Int)->Option Bool:=fun L (b,a)=>if b then ze (a*a) fun e=>if e<=d then ck (a≠0)<|nm (xbZ d a) fun f=>if f=0 then some false else ze (a+1) fun g=>L (b,g)else some b else some b
def j9(a:Int):Option Bool:=bd ((if 2<=a then if a<=65521 then some true else some false else some false:Option Bool)) fun b=>bd (zj (kK fu a) fu ((b,(2:Int)))) fun d=>some d
def zZ(a:Int):Option Zr:=if a<0 then nm (gB a) fun b=>nm ((18446744073709551616-b) % 18446744073709551616) fun d=>bd (yT fu true [d]) fun e=>some e else nm (gB a) fun f=>bd (yT fu false [f]) fun g=>some g
def jX(b:List Nat):Option Int:=bd (xt fu b) fun a=>if(a.length:Int)=0 then some (0:Int)else ze (((a.length:Int))-1) fun d=>ze ((64:Int)*d) fun e=>ze (((a.length:Int))-1) fun f=>zH f (a.length) fun g=>nm (a.getD g 0) fun h=>bd (xu fu h) fun i=>ze (e+i) fun j=>some j
def Jr:((Int×Zr×Zr)->Option Zr)->(Int×Zr×Zr)->Option Zr:=fun L (a,b,d)=>if 0<a then nm (H4 a (1:Int)) fun f=>if f=1 then bd (zO fu d b) fun e=>if 1<a then bd (zO fu b b) fun g=>nm (xfN a (2^(min (((1:Nat)):Int).toNat 64))) fun h=>L (h,g,e)else nm (xfN a (2^(min (((1:Nat)):Int).toNat 64))) fun i=>L (i,b,e)else if 1<a then bd (zO fu b b) fun j=>nm (xfN a (2^(min (((1:Nat)):Int).toNat 64))) fun k=>L (k,j,d)else nm (xfN a (2^(min (((1:Nat)):Int).toNat 64))) fun l=>L (l,b,d)else some d
def QL(b:Zr)(a:Int):Option (Zr×Int):=bd ((if a<0 then some true else if 65536<a then some true else some false:Option Bool)) fun d=>if d then some (((false,[]),(1:Int)))else bd (jX fu b.2) fun e=>ze (e*a) fun f=>if 262144<f then some (((false,[]),(6:Int)))else bd (zZ fu (1:Int)) fun g=>bd (vR fu b) fun h=>bd (zj (Jr fu) fu (a,h,g)) fun i=>some ((i,(0:Int)))
def vn(b:Int)(a:Int):Option (Zr×Int):=bd (j9 fu b) fun d=>if !d then some (((false,[]),(1:Int)))else if a<1 then some (((false,[]),(1:Int)))else if 1000<a then some (((false,[]),(1:Int)))else bd (zZ fu b) fun e=>bd (QL fu e a) fun(f,g)=>some (f,g)
def Qk(fu:Nat)(a:List Zr)(e:Zr)(g:Zr->Zr->Option (Zr×Int)):((Int×(List Zr))->Option (List Zr))->(Int×(List Zr))->Option (List Zr):=fun L (b,d)=>bd ((if b<(a.length:Int)then some ((e,a,(a.length:Int),true))else some ((e,a,(a.length:Int),false)):Option (Zr×(List Zr)×Int×Bool))) fun(h,f,q,i)=>if i then zH b (f.length) fun j=>nm (f.getD j (false,[])) fun k=>bd (g k h) fun(l,r)=>zH b (d.length) fun m=>nm (d.set m l) fun o=>ze (b+1) fun p=>L (p,o)else some d
def vm(a:List Zr)(b:Zr)(e:Zr->Zr->Option (Zr×Int)):Option ((List Zr)×Int):=bd (xr fu b) fun f=>if f<=0 then some (([],(1:Int)))else ki ((a.length:Int)) fun d=>ck (32*d<=281474976710656)<|nm (xaf d (false,[])) fun g=>bd (zj (Qk fu a b e) fu (((0:Int),g))) fun h=>bd (zF fu h) fun i=>some ((i,(0:Int)))
def vF(b:Zr)(a:Zr):Option (Zr×Int):=bd (xr fu a) fun d=>if d<=0 then some (((false,[]),(1:Int)))else bd (Yh fu b a) fun(f,e,g)=>some ((e,(0:Int)))
def Za(a:List Zr)(b:Zr):Option ((List Zr)×Int):=bd (vm fu a b (fun zx0 zx1=>vF fu zx0 zx1)) fun(d,e)=>some (d,e)
def yV(a:List Zr)(b:Zr):Option (List Zr):=bd (Za fu a b) fun(d,e)=>some d
def wc(a:Int):Option Int:=bd (j9 fu a) fun b=>if !b then some (1:Int)else some (0:Int)
def jH(fu:Nat)(d:Int)(a:Int):Option Int:=if a<1 then some (0:Int)else ck (a≠0)<|nm (xbZ d a) fun b=>if b<0 then ze (b+a) fun e=>some e else some b
def aF(fu:Nat):((Int×Int×Int×Int)->Option (Int⊕Unit))->(Int×Int×Int×Int)->Option (Int⊕Unit):=fun L (d,a,f,b)=>if a=0 then some (.inr ())else if a=1 then some (.inl b)else ck (a≠0)<|ze (xda d a) fun e=>ze (e*a) fun g=>ze (d-g) fun h=>ze (e*b) fun i=>ze (f-i) fun j=>L (a,h,b,j)
def Y5(d:Int)(a:Int):Option (Int×Int):=bd (wc fu a) fun b=>if b=0 then bd (jH fu d a) fun e=>bd (zj (aF fu) fu ((a,e,(0:Int),(1:Int)))) fun f=>match f with
 | .inl g=>bd (jH fu g a) fun h=>some ((h,(0:Int)))
 | .inr _=>some (((0:Int),(3:Int)))else some (((0:Int),b))
def JC(b:List Int)(e:Int):((Int×(List Int))->Option (List Int))->(Int×(List Int))->Option (List Int):=fun L (a,d)=>if a<(b.length:Int)then zH a (b.length) fun f=>nm (b.getD f 0) fun g=>bd (jH fu g e) fun h=>zH a (d.length) fun i=>nm (d.set i h) fun j=>ze (a+1) fun k=>L (k,j)else some d
def JJ(fu:Nat):((List Int)->Option (List Int))->(List Int)->Option (List Int):=fun L a=>if 0<(a.length:Int)then ze (((a.length:Int))-1) fun d=>zH d (a.length) fun e=>nm ((a.getD e 0)) fun f=>if f=0 then ze (((a.length:Int))-1) fun g=>ki g fun b=>ck (b<=a.length)<|nm (a.take b) fun h=>L h else some a else some a
def zS(a:List Int)(d:Int):Option (List Int):=ki ((a.length:Int)) fun b=>ck (8*b<=281474976710656)<|nm (xaf b 0) fun e=>bd (zj (JC fu a d) fu (((0:Int),e))) fun f=>bd (zj (JJ fu) fu f) fun g=>some g
def Zv(fu:Nat)(a:List Int)(q:Int)(b:Int):(((List Int)×Int×Int×Int×(List Int)×(List Int))->Option ((List Int)×Int×Int×(List Int)×(List Int)))->((List Int)×Int×Int×Int×(List Int)×(List Int))->Option ((List Int)×Int×Int×(List Int)×(List Int)):=fun L (r,d,s,e,f,t)=>bd ((if e<(a.length:Int)then some ((q,b,a,(a.length:Int),true))else some ((q,b,a,(a.length:Int),false)):Option (Int×Int×(List Int)×Int×Bool))) fun(u,w,v,E,x)=>if x then zH e (v.length) fun y=>nm (v.getD y 0) fun A=>ze (u+e) fun g=>ze (u+e) fun h=>zH h (f.length) fun B=>nm ((f.getD B 0)) fun i=>ze (d-w) fun j=>ze (j*A) fun k=>ze (i+k) fun l=>ck (d≠0)<|nm (xbZ l d) fun m=>zH g (f.length) fun C=>nm (f.set C m) fun o=>ze (e+1) fun p=>L (r,d,s,p,o,t)else some (r,d,s,f,t)
def ZC(e:List Int)(f:Int)(k:Int):((Int×(List Int)×(List Int))->Option ((List Int)×(List Int)))->(Int×(List Int)×(List Int))->Option ((List Int)×(List Int)):=fun L (a,d,g)=>if 0<=a then ze (a+((e.length:Int))) fun l=>ze (l-1) fun m=>zH m (d.length) fun o=>nm ((d.getD o 0)) fun p=>ze (p*k) fun q=>ck (f≠0)<|nm (xbZ q f) fun b=>zH a (g.length) fun r=>nm (g.set r b) fun s=>bd (zj (Zv fu e a b) fu ((e,f,k,(0:Int),d,s))) fun(t,u,v,h,i)=>ze (a-1) fun j=>L (j,h,i)else some (d,g)
def xi(j:List Int)(a:List Int)(b:Int):Option ((List Int)×(List Int)):=ck (((([]:List Int)).length+j.length)*8<=140737488355328)<|nm ((([]:List Int))++j) fun d=>ze (((d.length:Int))-((a.length:Int))) fun e=>if e<0 then some ([],d)else ze (((a.length:Int))-1) fun l=>zH l (a.length) fun m=>nm (a.getD m 0) fun o=>bd (Y5 fu o b) fun(p,s)=>ze (e+1) fun q=>ki q fun k=>ck (8*k<=281474976710656)<|nm (xaf k 0) fun r=>bd (zj (ZC fu a b p) fu (e,d,r)) fun(f,g)=>bd (zS fu g b) fun h=>bd (zS fu f b) fun i=>some (h,i)
def VE(fu:Nat)(e:Int)(a:List Int)(f:Int)(g:List Int)(h:Int)(i:Int):((Int×(List Int))->Option (List Int))->(Int×(List Int))->Option (List Int):=fun L (b,d)=>bd ((if b<(a.length:Int)then some ((a,f,e,i,g,h,e,a,(a.length:Int),true))else some ((a,f,e,i,g,h,e,a,(a.length:Int),false)):Option ((List Int)×Int×Int×Int×(List Int)×Int×Int×(List Int)×Int×Bool))) fun(E,j,k,m,G,H,I,l,o,p)=>if p then zH b (l.length) fun q=>nm (l.getD q 0) fun r=>ze (k+b) fun s=>ze (k+b) fun t=>zH t (d.length) fun u=>nm ((d.getD u 0)) fun v=>ze (m*r) fun w=>ze (v+w) fun x=>ck (j≠0)<|nm (xbZ x j) fun y=>zH s (d.length) fun A=>nm (d.set A y) fun B=>ze (b+1) fun C=>L (C,B)else some d
def Vi(a:List Int)(f:List Int)(g:Int):((Int×(List Int))->Option (List Int))->(Int×(List Int))->Option (List Int):=fun L (b,h)=>bd ((if b<(a.length:Int)then some ((f,g,a,(a.length:Int),true))else some ((f,g,a,(a.length:Int),false)):Option ((List Int)×Int×(List Int)×Int×Bool))) fun(i,j,d,k,l)=>if l then zH b (d.length) fun m=>nm (d.getD m 0) fun o=>bd (zj (VE fu b i j d k o) fu (((0:Int),h))) fun e=>ze (b+1) fun p=>L (p,e)else some h
def xR(d:List Int)(e:List Int)(f:Int):Option (List Int):=ze (((d.length:Int))+((e.length:Int))) fun h=>ki h fun g=>ck (8*g<=281474976710656)<|nm (xaf g 0) fun i=>bd (zj (Vi fu d e f) fu (((0:Int),i))) fun a=>bd (zS fu a f) fun b=>some b
def U1(fu:Nat)(a:List Int)(e:Int)(f:Int):((Int×(List Int))->Option (List Int))->(Int×(List Int))->Option (List Int):=fun L (b,d)=>bd ((if b<(a.length:Int)then some ((e,f,a,(a.length:Int),true))else some ((e,f,a,(a.length:Int),false)):Option (Int×Int×(List Int)×Int×Bool))) fun(h,t,g,u,i)=>if i then zH b (g.length) fun j=>nm (g.getD j 0) fun k=>zH b (d.length) fun l=>nm ((d.getD l 0)) fun m=>ze (h*k) fun o=>ze (m+o) fun p=>zH b (d.length) fun q=>nm (d.set q p) fun r=>ze (b+1) fun s=>L (s,r)else some d
def uJ(a:List Int)(b:List Int)(f:Int)(d:Int):Option (List Int):=nm (max ((a.length:Int)) ((b.length:Int))) fun g=>ki g fun e=>ck (8*e<=281474976710656)<|nm (xaf e 0) fun h=>nm (RK h a) fun i=>bd (zj (U1 fu b f d) fu (((0:Int),i))) fun j=>bd (zS fu j d) fun k=>some k
def j7(e:List (List Int))(f:Int):(((List Int)×Int×(List (List Int))×(List (List Int)))->Option ((List (List Int))×(List (List Int))))->((List Int)×Int×(List (List Int))×(List (List Int)))->Option ((List (List Int))×(List (List Int))):=fun L (g,a,b,h)=>bd ((if a<3 then some (f,e,true)else some (f,e,false):Option (Int×(List (List Int))×Bool))) fun(d,i,j)=>if j then zH a (3) fun k=>zH a (3) fun l=>nm (i.getD l []) fun m=>bd (xR fu g m d) fun o=>ze (d-1) fun p=>bd (uJ fu (b.getD k []) o p d) fun q=>zH a (3) fun r=>nm (b.set r q) fun s=>ze (a+1) fun t=>L (g,t,s,h)else some (b,h)
def Zm(b:List (List Int))(d:List (List Int))(e:Int):Option (List (List Int)):=zH 0 (3) fun f=>zH 0 (3) fun g=>nm (d.getD g []) fun h=>bd (xi fu (b.getD f []) h e) fun(i,k)=>bd (zj (j7 fu d e) fu ((i,(0:Int),b,(xaf 3 [])))) fun(a,j)=>some a
def vk(b:List Int)(d:Int)(a:Int):Option (List Int):=bd (Y5 fu d a) fun(e,g)=>bd (xR fu b [e] a) fun f=>some f
def kj(d:Int):(((List (List Int))×(List (List Int)))->Option (List (List Int)))->((List (List Int))×(List (List Int)))->Option (List (List Int)):=fun L (b,a)=>zH 0 (3) fun e=>if 0<((((a.getD e [])).length:Nat):Int)then bd (Zm fu b a d) fun f=>L (a,f)else some b
def wg(d:Int)(e:Int):((Int×(List (List Int)))->Option (List (List Int)))->(Int×(List (List Int)))->Option (List (List Int)):=fun L (a,b)=>if a<3 then zH a (3) fun f=>bd (vk fu (b.getD f []) e d) fun g=>zH a (3) fun h=>nm (b.set h g) fun i=>ze (a+1) fun j=>L (j,i)else some b
def ke(k:List Int)(l:List Int)(d:Int):Option ((List Int)×(List Int)×(List Int)×Int):=bd (wc fu d) fun h=>if h=0 then bd (zS fu k d) fun m=>bd (zS fu l d) fun o=>bd (zj (kj fu d) fu (([m,[(1:Int)],[]],[o,[],[(1:Int)]]))) fun a=>zH 0 (3) fun i=>bd ((if 0<((((a.getD i [])).length:Nat):Int)then some true else some false:Option Bool)) fun p=>if p then zH 0 (3) fun j=>ze ((((((a.getD i [])).length:Nat):Int))-1) fun q=>zH q (((a.getD j [])).length) fun r=>nm (((a.getD j [])).getD r 0) fun s=>bd (zj (wg fu d s) fu (((0:Int),a))) fun b=>zH 0 (3) fun t=>zH 1 (3) fun u=>zH 2 (3) fun v=>some (((b.getD t []),(b.getD u []),(b.getD v []),(0:Int)))else zH 0 (3) fun e=>zH 1 (3) fun f=>zH 2 (3) fun g=>some (((a.getD e []),(a.getD f []),(a.getD g []),(0:Int)))else some ([],[],[],h)
def qI(a:List Int)(b:List Int)(d:Int):Option ((List Int)×Int):=bd (ke fu a b d) fun(e,g,h,f)=>some (e,f)
def qM(d:List Int)(e:List Int)(a:Int):Option ((List Int)×Int):=bd (wc fu a) fun b=>if b=0 then bd (zS fu d a) fun f=>bd (zS fu e a) fun g=>bd (xR fu f g a) fun h=>some ((h,(0:Int)))else some ([],b)
def Xb(d:List Int)(e:List Int)(a:Int):Option ((List Int)×Int):=bd (wc fu a) fun b=>if b=0 then bd (zS fu d a) fun f=>bd (zS fu e a) fun g=>ze (a-1) fun h=>bd (uJ fu f g h a) fun i=>some ((i,(0:Int)))else some ([],b)
def ZF(a:List Int)(b:List Int)(d:Int):Option Bool:=bd (Xb fu a b d) fun(e,f)=>if(e.length:Int)=0 then some true else some false
def Ya(fu:Nat)(a:List Int)(e:Int):(Int->Option (Unit⊕Unit))->Int->Option (Unit⊕Unit):=fun L b=>if b<(a.length:Int)then zH b (a.length) fun f=>nm (a.getD f 0) fun d=>if d<0 then some (.inr ())else if e<=d then some (.inr ())else ze (b+1) fun g=>L g else some (.inl ())
def Zj(a:List Int)(b:Int):Option Bool:=bd (zj (Ya fu a b) fu (0:Int)) fun d=>match d with
 | .inl _=>if 1<(a.length:Int)then ze (((a.length:Int))-1) fun e=>zH e (a.length) fun f=>nm (a.getD f 0) fun g=>if g=1 then some true else some false else some false
 | .inr _=>some false
def W8(a:List (List Int))(e:Int):(((List Int)×Int)->Option (List Int))->((List Int)×Int)->Option (List Int):=fun L (d,b)=>if b<(a.length:Int)then zH b (a.length) fun f=>nm (a.getD f []) fun g=>bd (qM fu d g e) fun(h,j)=>ze (b+1) fun i=>L (h,i)else some d
def vd(a:List (List Int))(b:Int):Option (List Int):=bd (zj (W8 fu a b) fu (([(1:Int)],(0:Int)))) fun d=>some d
def X4(b:Zr):Option (Int×Bool):=bd (vR fu b) fun a=>bd ((if(a.2.length:Int)=0 then some true else some false:Option Bool)) fun d=>if d then some (((0:Int),true))else bd ((if 1<(a.2.length:Int)then some true else some false:Option Bool)) fun e=>if e then some (((0:Int),false))else bd ((if a.1=true then zH 0 (a.2.length) fun f=>nm (a.2.getD f 0) fun g=>if(g:Int)<=(((9223372036854775808:Nat):Nat):Int)then some true else some false else some false:Option Bool)) fun h=>if h then zH 0 (a.2.length) fun i=>nm (a.2.getD i 0) fun j=>nm ((18446744073709551616-j) % 18446744073709551616) fun k=>nm (OX k) fun l=>some (l,true)else if a.1=true then some (((0:Int),false))else zH 0 (a.2.length) fun m=>nm (a.2.getD m 0) fun o=>if(((9223372036854775807:Nat):Nat):Int)<(o:Int)then some (((0:Int),false))else zH 0 (a.2.length) fun p=>nm (a.2.getD p 0) fun q=>nm (OX q) fun r=>some (r,true)
def VD(b:Zr)(d:Int):Option (Int×Int):=bd (zZ fu d) fun e=>bd (vF fu b e) fun(f,a)=>if a=0 then bd (X4 fu f) fun(g,h)=>some ((g,(0:Int)))else some (((0:Int),a))
def YJ(e:Int)(a:Zr)(b:Int):Option Int:=bd (VD fu a b) fun(d,f)=>some d
def jT(fu:Nat)(a:List Zr)(f:Int->Zr->Option Int):((Int×(List Int))->Option (List Int))->(Int×(List Int))->Option (List Int):=fun L (b,d)=>bd ((if b<(a.length:Int)then some ((a,(a.length:Int),true))else some ((a,(a.length:Int),false)):Option ((List Zr)×Int×Bool))) fun(e,o,g)=>if g then zH b (e.length) fun h=>nm (e.getD h (false,[])) fun i=>bd (f b i) fun j=>zH b (d.length) fun k=>nm (d.set k j) fun l=>ze (b+1) fun m=>L (m,l)else some d
def vY(a:List Zr)(d:Int->Zr->Option Int):Option (List Int):=ki ((a.length:Int)) fun b=>ck (8*b<=281474976710656)<|nm (xaf b 0) fun e=>bd (zj (jT fu a d) fu (((0:Int),e))) fun f=>some f
def UY(fu:Nat):((List Int)->Option (List Int))->(List Int)->Option (List Int):=fun L a=>if 0<(a.length:Int)then ze (((a.length:Int))-1) fun d=>zH d (a.length) fun e=>nm ((a.getD e 0)) fun f=>if f=0 then ze (((a.length:Int))-1) fun g=>ki g fun b=>ck (b<=a.length)<|nm (a.take b) fun h=>L h else some a else some a
def jW(b:List Zr)(a:Int):Option ((List Int)×Int):=if a<1 then some (([],(1:Int)))else bd (vY fu b (fun zx0 zx1=>YJ fu zx0 zx1 a)) fun d=>bd (zj (UY fu) fu d) fun e=>some ((e,(0:Int)))
def qs(d:Int)(e:List Int)(a:List (List Int)):(Int->Option (Unit⊕Unit))->Int->Option (Unit⊕Unit):=fun L b=>if b<(a.length:Int)then zH b (a.length) fun f=>nm (a.getD f []) fun g=>bd (qI fu e g d) fun(h,j)=>if(h.length:Int)=1 then ze (b+1) fun i=>L i else some (.inr ())else some (.inl ())
def qx(e:List Zr)(a:List (List Int))(f:Int):((Int×(List Int))->Option ((List Int)⊕Unit))->(Int×(List Int))->Option ((List Int)⊕Unit):=fun L (b,g)=>bd ((if b<(a.length:Int)then some ((e,a,f,a,(a.length:Int),true))else some ((e,a,f,a,(a.length:Int),false)):Option ((List Zr)×(List (List Int))×Int×(List (List Int))×Int×Bool))) fun(l,h,i,j,t,m)=>if m then zH b (j.length) fun o=>nm (j.getD o []) fun d=>if(l.length:Int)<(d.length:Int)then some (.inr ())else bd (Zj fu d i) fun p=>if !p then some (.inr ())else ki b fun k=>ck (k<=h.length)<|nm (h.take k) fun q=>bd (zj (qs fu i d q) fu (0:Int)) fun r=>match r with
 | .inl _=>ze (b+1) fun s=>L (s,g)
 | .inr _=>some (.inr ())else some (.inl g)
def wA(a:List Zr)(e:List (List Int))(b:Int):Option Bool:=bd (jW fu a b) fun(h,o)=>if(a.length:Int)=0 then some false else if(h.length:Int)=(a.length:Int)then if(a.length:Int)<(e.length:Int)then some false else bd (zj (qx fu a e b) fu (((0:Int),h))) fun j=>match j with
 | .inl d=>bd (vd fu e b) fun k=>ze (((d.length:Int))-1) fun l=>ki l fun i=>ck (i<=d.length)<|nm (d.drop i) fun f=>bd (qM fu k f b) fun(g,p)=>bd (ZF fu g d b) fun m=>some m
 | .inr _=>some false else some false
def uG(a:List Zr)(j:Int):(((List Zr)×Zr×Int×(List Zr)×(List Zr))->Option ((List Zr)×Zr×(List Zr)×(List Zr)))->((List Zr)×Zr×Int×(List Zr)×(List Zr))->Option ((List Zr)×Zr×(List Zr)×(List Zr)):=fun L (k,l,b,d,f)=>bd ((if b<(a.length:Int)then some ((j,a,(a.length:Int),true))else some ((j,a,(a.length:Int),false)):Option (Int×(List Zr)×Int×Bool))) fun(g,e,A,m)=>if m then zH b (e.length) fun o=>nm (e.getD o (false,[])) fun p=>ze (g+b) fun q=>ze (g+b) fun r=>zH r (d.length) fun s=>nm ((d.getD s (false,[]))) fun t=>zH g (f.length) fun u=>nm ((f.getD u (false,[]))) fun v=>bd (zO fu v p) fun w=>bd (vV fu t w) fun x=>zH q (d.length) fun y=>nm (d.set y x) fun h=>ze (b+1) fun i=>L (k,l,i,h,f)else some (k,l,d,f)
def uF(d:List Zr)(i:Zr):((Int×(List Zr)×(List Zr))->Option ((List Zr)×(List Zr)))->(Int×(List Zr)×(List Zr))->Option ((List Zr)×(List Zr)):=fun L (a,b,e)=>if 0<=a then ze (a+((d.length:Int))) fun j=>ze (j-1) fun k=>zH k (b.length) fun l=>nm ((b.getD l (false,[]))) fun m=>bd (vF fu m i) fun(o,t)=>zH a (e.length) fun p=>nm (e.set p o) fun q=>bd (zj (uG fu d a) fu ((d,i,(0:Int),b,q))) fun(r,s,f,g)=>ze (a-1) fun h=>L (h,f,g)else some (b,e)
def qt(k:List Zr)(g:List Zr)(a:Zr):Option ((List Zr)×(List Zr)):=bd (yV fu k a) fun h=>ze (((h.length:Int))-((g.length:Int))) fun l=>ze (l+1) fun m=>nm (max m (0:Int)) fun o=>ki o fun i=>ck (32*i<=281474976710656)<|nm (xaf i (false,[])) fun j=>ze (((j.length:Int))-1) fun p=>bd (zj (uF fu g a) fu (p,h,j)) fun(b,d)=>bd (yV fu d a) fun e=>bd (yV fu b a) fun f=>some (e,f)
def ji(b:Int)(d:Zr)(a:List Zr):Option Zr:=if b<(a.length:Int)then zH b (a.length) fun e=>nm (a.getD e (false,[])) fun f=>bd (vi fu d f) fun g=>some g else some d
def wY(a:List Zr)(b:List Zr):Option (List Zr):=if(a.length:Int)<(b.length:Int)then bd (zB fu b (fun zx0 zx1=>ji fu zx0 zx1 a)) fun d=>bd (zF fu d) fun e=>some e else bd (zB fu a (fun zx0 zx1=>ji fu zx0 zx1 b)) fun f=>bd (zF fu f) fun g=>some g
def UJ(e:Int)(a:List Zr)(g:List Zr)(h:Int):((Int×(List Zr)×Zr)->Option (List Zr))->(Int×(List Zr)×Zr)->Option (List Zr):=fun L (b,d,i)=>bd ((if b<(a.length:Int)then some ((a,e,g,h,e,a,(a.length:Int),true))else some ((a,e,g,h,e,a,(a.length:Int),false)):Option ((List Zr)×Int×(List Zr)×Int×Int×(List Zr)×Int×Bool))) fun(x,j,y,A,B,k,C,l)=>if l then zH b (k.length) fun m=>nm (k.getD m (false,[])) fun o=>ze (j+b) fun p=>ze (j+b) fun q=>zH q (d.length) fun r=>nm ((d.getD r (false,[]))) fun s=>bd (zO fu i o) fun t=>bd (vi fu s t) fun u=>zH p (d.length) fun v=>nm (d.set v u) fun f=>ze (b+1) fun w=>L (w,f,i)else some d
def UM(a:List Zr)(f:List Zr):((Int×(List Zr))->Option (List Zr))->(Int×(List Zr))->Option (List Zr):=fun L (b,g)=>bd ((if b<(a.length:Int)then some ((f,a,(a.length:Int),true))else some ((f,a,(a.length:Int),false)):Option ((List Zr)×(List Zr)×Int×Bool))) fun(h,d,i,j)=>if j then zH b (d.length) fun k=>nm (d.getD k (false,[])) fun l=>bd (zj (UJ fu b h d i) fu (((0:Int),g,l))) fun e=>ze (b+1) fun m=>L (m,e)else some g
def xg(d:List Zr)(e:List Zr):Option (List Zr):=ze (((d.length:Int))+((e.length:Int))) fun g=>ki g fun f=>ck (32*f<=281474976710656)<|nm (xaf f (false,[])) fun h=>bd (zj (UM fu d e) fu (((0:Int),h))) fun a=>bd (zF fu a) fun b=>some b
def ZK(d:Int)(a:Int):Option Zr:=bd (zZ fu a) fun b=>some b
def jU(fu:Nat)(b:List Int)(e:Int->Int->Option Zr):((Int×(List Zr))->Option (List Zr))->(Int×(List Zr))->Option (List Zr):=fun L (a,d)=>if a<(b.length:Int)then zH a (b.length) fun f=>nm (b.getD f 0) fun g=>bd (e a g) fun h=>zH a (d.length) fun i=>nm (d.set i h) fun j=>ze (a+1) fun k=>L (k,j)else some d
def vZ(a:List Int)(d:Int->Int->Option Zr):Option (List Zr):=ki ((a.length:Int)) fun b=>ck (32*b<=281474976710656)<|nm (xaf b (false,[])) fun e=>bd (zj (jU fu a d) fu (((0:Int),e))) fun f=>some f
def vK(a:List Int):Option (List Zr):=bd (vZ fu a (fun zx0 zx1=>ZK fu zx0 zx1)) fun b=>bd (zF fu b) fun d=>some d
def Yi(a:List Int):Option (List Zr):=bd (vK fu a) fun b=>some b
def XE(e:Int)(a:Zr)(b:Zr):Option Zr:=bd (zO fu a b) fun d=>some d
def wV(a:List Zr)(b:Zr):Option (List Zr):=bd (zB fu a (fun zx0 zx1=>XE fu zx0 zx1 b)) fun d=>bd (zF fu d) fun e=>some e
def qN(a:List Zr)(b:List Zr):Option (List Zr):=bd (zZ fu (-1:Int)) fun d=>bd (wV fu b d) fun e=>bd (wY fu a e) fun f=>some f
def qD(f:List (List Zr))(G:List Zr)(a:Zr):Option (List (List Zr)):=zH 0 (4) fun H=>nm (f.getD H []) fun i=>zH 1 (4) fun I=>nm (f.getD I []) fun j=>zH 2 (4) fun J=>nm (f.getD J []) fun g=>zH 3 (4) fun K=>nm (f.getD K []) fun h=>bd (xg fu i j) fun M=>bd (qN fu G M) fun N=>bd (yV fu N a) fun E=>bd (xg fu g E) fun O=>bd (qt fu O j a) fun(P,Q)=>bd (xg fu h E) fun R=>bd (xg fu P i) fun S=>bd (wY fu R S) fun U=>bd (wY fu i U) fun k=>bd (yV fu k a) fun b=>bd (wY fu j Q) fun l=>bd (yV fu l a) fun d=>bd (xg fu g b) fun m=>bd (xg fu h d) fun o=>bd (wY fu m o) fun p=>bd (Yi fu [(1:Int)]) fun q=>bd (qN fu p q) fun r=>bd (yV fu r a) fun e=>bd (xg fu g e) fun s=>bd (qt fu s d a) fun(t,u)=>bd (qN fu g u) fun v=>bd (yV fu v a) fun w=>bd (xg fu h e) fun x=>bd (xg fu t b) fun y=>bd (wY fu x y) fun A=>bd (qN fu h A) fun B=>bd (yV fu B a) fun C=>some [b,d,w,C]
def kq(a:Zr×(Zr×Zr))(b:Zr)(d:Zr×(Zr×Zr)):Option (Zr×(Zr×Zr)):=bd (zO fu b d.1) fun e=>bd (vV fu a.1 e) fun f=>bd (zO fu b d.2.1) fun g=>bd (vV fu a.2.1 g) fun h=>bd (zO fu b d.2.2) fun i=>bd (vV fu a.2.2 i) fun j=>some (f,h,j)
def Xf:(((Zr×(Zr×Zr))×(Zr×(Zr×Zr)))->Option (Zr×(Zr×Zr)))->((Zr×(Zr×Zr))×(Zr×(Zr×Zr)))->Option (Zr×(Zr×Zr)):=fun L (b,a)=>bd (xr fu a.1) fun d=>if d=0 then some b else bd (Yh fu b.1 a.1) fun(e,g,h)=>bd (kq fu b e a) fun f=>L (a,f)
def Yt(g:Zr)(h:Zr):Option (Zr×Zr×Zr):=bd (yT fu false g.2) fun i=>bd (zZ fu (1:Int)) fun j=>bd (zZ fu (0:Int)) fun k=>bd (yT fu false h.2) fun l=>bd (zZ fu (0:Int)) fun m=>bd (zZ fu (1:Int)) fun o=>bd (zj (Xf fu) fu (((i,j,k),(l,m,o)))) fun a=>bd ((bd (xr fu g) fun p=>if p<0 then bd (uA fu a.2.1) fun d=>nm ((a.1,(d,a.2.2))) fun q=>some q else some a:Option (Zr×(Zr×Zr)))) fun b=>bd ((bd (xr fu h) fun r=>if r<0 then bd (uA fu b.2.2) fun e=>nm ((b.1,(b.2.1,e))) fun s=>some s else some b:Option (Zr×(Zr×Zr)))) fun f=>some (f.1,f.2.1,f.2.2)
def Wb(a:List Zr)(b:Zr):Option (List Zr):=ze (((a.length:Int))-1) fun d=>zH d (a.length) fun e=>nm (a.getD e (false,[])) fun f=>bd (Yt fu f b) fun(j,g,k)=>bd (wV fu a g) fun h=>bd (yV fu h b) fun i=>some i
def ur(g:List Zr)(h:Int)(d:Int):((Int×(List (List Zr)))->Option (List (List Zr)))->(Int×(List (List Zr)))->Option (List (List Zr)):=fun L (e,a)=>if e<d then ze ((2:Int)*e) fun i=>nm (min i d) fun f=>bd (vn fu h f) fun(j,k)=>bd (qD fu a g j) fun b=>L (f,b)else some a
def wU:Nat->(List Zr)->(List (List Int))->Int->Int->Zr->Option (List (List Zr))
 |0,_,_,_,_,_=>none
 |fu+1,d,a,b,i,j=>if(a.length:Int)=1 then bd (Wb fu d j) fun C=>some [C]else ck ((2:Int)≠0)<|ze (xda ((a.length:Int)) (2:Int)) fun h=>ze (((d.length:Int))-1) fun E=>ki E fun u=>ck (u<=d.length)<|nm (d.drop u) fun G=>bd (jW fu G b) fun(H,O)=>ki h fun v=>ck (v<=a.length)<|nm (a.take v) fun I=>bd (vd fu I b) fun J=>bd (qM fu J H b) fun(w,P)=>ki h fun x=>ck (x<=a.length)<|nm (a.drop x) fun K=>bd (vd fu K b) fun y=>bd (ke fu w y b) fun(Q,k,l,R)=>bd (vK fu w) fun m=>bd (vK fu y) fun o=>bd (vK fu k) fun p=>bd (vK fu l) fun q=>bd (zj (ur fu d b i) fu (((1:Int),[m,o,p,q]))) fun e=>zH 0 (4) fun M=>ki h fun A=>ck (A<=a.length)<|nm (a.take A) fun r=>bd (wU fu (e.getD M []) r b i j) fun f=>zH 1 (4) fun N=>ki h fun B=>ck (B<=a.length)<|nm (a.drop B) fun s=>bd (wU fu (e.getD N []) s b i j) fun g=>ck ((f.length+g.length)*24<=140737488355328)<|nm (f++g) fun t=>some t
def qb(h:List Zr)(a:List (List Int))(b:Int)(e:Int):Option ((List (List Zr))×Int):=bd (vn fu b e) fun(f,g)=>bd (zF fu h) fun d=>if g=0 then if 65<(d.length:Int)then some (([],(6:Int)))else bd (wA fu d a b) fun i=>if !i then some (([],(1:Int)))else if(a.length:Int)=0 then some (([],(0:Int)))else bd (yV fu d f) fun j=>bd (wU fu j a b e f) fun k=>some ((k,(0:Int)))else some ([],g)
def Wq(a:List Zr)(b:List Zr)(d:Zr):Option ((List Zr)×Int):=bd (xg fu a b) fun e=>bd (Za fu e d) fun(f,g)=>some (f,g)
def qY(a:Zr)(b:Zr):Option Int:=bd (vV fu a b) fun d=>bd (xr fu d) fun e=>some e
def Zl(e:Zr)(d:Zr):Option (Zr×Int):=bd (vF fu e d) fun(a,b)=>if b=0 then bd (vi fu a a) fun f=>bd (qY fu f d) fun g=>if 0<g then bd (vV fu a d) fun h=>some (h,b)else some (a,b)else some (a,b)
def YI(a:List Zr)(b:Zr):Option ((List Zr)×Int):=bd (vm fu a b (fun zx0 zx1=>Zl fu zx0 zx1)) fun(d,e)=>some (d,e)
def cm:(((List Nat)×(List Nat))->Option (List Nat))->((List Nat)×(List Nat))->Option (List Nat):=fun L (b,a)=>if 0<(a.length:Int)then bd (Qe fu b a) fun(e,d,f)=>L (a,d)else some b
def W3(a:Zr)(b:Zr):Option Zr:=bd (uC fu a.2) fun d=>bd (uC fu b.2) fun e=>bd (zj (cm fu) fu (d,e)) fun f=>bd (yT fu false f) fun g=>some g
def VC(b:List Zr):((Int×(List Zr)×Zr×Zr)->Option ((List Zr)×Zr×Zr))->(Int×(List Zr)×Zr×Zr)->Option ((List Zr)×Zr×Zr):=fun L (d,a,e,f)=>bd ((if d<(b.length:Int)then some (((b.length:Int),true))else some (((b.length:Int),false)):Option (Int×Bool))) fun(l,g)=>if g then zH d (a.length) fun h=>nm ((a.getD h (false,[]))) fun i=>bd (W3 fu f i) fun j=>ze (d+1) fun k=>L (k,a,e,j)else some (a,e,f)
def wI(e:List Zr):Option Zr:=bd (zF fu e) fun d=>bd (zZ fu (0:Int)) fun f=>bd (zj (VC fu d) fu (((0:Int),d,(false,[]),f))) fun(a,k,b)=>if 0<(a.length:Int)then ze (((a.length:Int))-1) fun g=>zH g (a.length) fun h=>nm (((a.getD h (false,[]))).1) fun i=>if i then bd (uA fu b) fun j=>some j else some b else some b
def WH(e:Int)(a:Zr)(b:Zr):Option Zr:=bd (qP fu a b) fun(d,f)=>some d
def xN(a:List Zr):Option (List Zr):=bd (wI fu a) fun b=>bd (zF fu a) fun d=>bd (zB fu d (fun zx0 zx1=>WH fu zx0 zx1 b)) fun e=>some e
def jo(e:List (List Zr))(b:List Int)(f:Zr):(((List Zr)×Int×(List Int))->Option ((List Zr)×(List Int)))->((List Zr)×Int×(List Int))->Option ((List Zr)×(List Int)):=fun L (g,d,a)=>bd ((if d<(b.length:Int)then some ((e,f,(b.length:Int),true))else some ((e,f,(b.length:Int),false)):Option ((List (List Zr))×Zr×Int×Bool))) fun(h,i,r,j)=>if j then zH d (a.length) fun k=>nm ((a.getD k 0)) fun l=>zH l (h.length) fun m=>nm (h.getD m []) fun o=>bd (Wq fu g o i) fun(p,s)=>ze (d+1) fun q=>L (p,q,a)else some (g,a)
def qj(a:List Zr)(g:List (List Zr))(d:List Int)(e:Zr):Option ((List Zr)×(List Int)):=ze (((a.length:Int))-1) fun h=>ki h fun f=>ck (f<=a.length)<|nm (a.drop f) fun i=>bd (zj (jo fu g d e) fu ((i,(0:Int),d))) fun(j,k)=>bd (YI fu j e) fun(l,m)=>bd (xN fu l) fun b=>some (b,k)
def w9{X Y R:Type}(fu:Nat)(n all:Int)(g:List Int->X->Option (List Int×(X⊕Y)))(x:X)(xs:List Int)(L:X->List Int->Int->Int->Int->Int->Int->Option R)(E:X->Int->Int->List Int->Option R)(E2:Y->List Int->Option R):Option R:=bd (g xs x) fun r=>xfp (fun x'=>ze (n-1) fun a=>bd (zj (fun L i=>if 0<=i then zH i r.1.length fun j=>nm (r.1.getD j 0) fun y=>ze (all-n) fun e=>ze (e+i) fun e=>if y=e then ze (i-1) fun i=>L i else some i else some i) fu a) fun i=>if i<0 then E x' a i r.1 else zH i r.1.length fun j=>nm (r.1.getD j 0) fun y=>ze (y+1) fun e=>zH i r.1.length fun j=>nm (r.1.set j e) fun xs=>ze (i+1) fun b=>bd (zj (fun L (z:Int×List Int)=>if z.1<n then ze (z.1-1) fun e=>zH e z.2.length fun j=>nm (z.2.getD j 0) fun y=>ze (y+1) fun e=>zH z.1 z.2.length fun j=>nm (z.2.set j e) fun xs=>ze (z.1+1) fun i=>L (i,xs)else some z.2) fu (b,xs)) fun xs=>L x' xs b i e y a) (fun y=>E2 y r.1) r.2
def wi{X Y:Type}(fu:Nat)(n all:Int)(g:List Int->X->Option (List Int×(X⊕Y)))(a:X):Option (X⊕Y):=ki n fun m=>ck (8*m<=281474976710656)<|nm (xaf m 0) fun xs=>bd (zj (fun L (z:List Int×Int)=>if z.2<(xs.length:Int)then zH z.2 z.1.length fun j=>nm (z.1.set j z.2) fun xs=>ze (z.2+1) fun i=>L (xs,i)else some z.1) fu (xs,0)) fun xs=>zj (fun L (q:X×List Int)=>w9 fu n all g q.1 q.2 (fun x xs _ _ _ _ _=>L (x,xs)) (fun x _ _ _=>some (.inl x)) fun y _=>some (.inr y)) fu (a,xs)
def VU(fu:Nat)(b:List Int)(d:Int):(Int->Option (Unit⊕Int))->Int->Option (Unit⊕Int):=fun L a=>if a<(b.length:Int)then zH a (b.length) fun e=>nm (b.getD e 0) fun f=>if d=f then some (.inr a)else ze (a+1) fun g=>L g else some (.inl ())
def ZG(a:List Int)(b:Int):Option Int:=bd (zj (VU fu a b) fu (0:Int)) fun d=>match d with
 | .inl _=>some (-1:Int)
 | .inr e=>some e
def wQ(fu:Nat)(b:List Int)(d:Int):(Int->Option (Unit⊕Int))->Int->Option (Unit⊕Int):=fun L a=>if a<(b.length:Int)then zH a (b.length) fun e=>nm ((b.getD e 0)) fun f=>if d=f then some (.inr a)else ze (a+1) fun g=>L g else some (.inl ())
def vu(a:List Int)(b:Int):Option (Int×(List Int)):=bd (zj (wQ fu a b) fu (0:Int)) fun d=>match d with
 | .inl _=>some (((-1:Int),a))
 | .inr e=>some (e,a)
def kM(a:List Int)(b:Int):Option Bool:=bd (ZG fu a b) fun d=>if 0<=d then some true else some false
def xB(b:List Int)(d:Int):Option (Bool×(List Int)):=bd (vu fu b d) fun(e,a)=>if 0<=e then some (true,a)else some (false,a)
def sE(a:List (List Zr))(e:List Int):(((List (List Zr))×Int)->Option (List (List Zr)))->((List (List Zr))×Int)->Option (List (List Zr)):=fun L (d,b)=>bd ((if b<(a.length:Int)then some ((e,a,(a.length:Int),true))else some ((e,a,(a.length:Int),false)):Option ((List Int)×(List (List Zr))×Int×Bool))) fun(h,f,p,i)=>if i then zH b (f.length) fun j=>nm (f.getD j []) fun g=>bd (kM fu h b) fun k=>if !k then ck ((d.length+([g]).length)*24<=140737488355328)<|nm (d++([g])) fun l=>ze (b+1) fun m=>L (l,m)else ze (b+1) fun o=>L (d,o)else some d
def jv(a:List (List Zr)):(((List (List Zr))×Int×(List Int))->Option ((List (List Zr))×(List Int)))->((List (List Zr))×Int×(List Int))->Option ((List (List Zr))×(List Int)):=fun L (d,b,e)=>bd ((if b<(a.length:Int)then some ((a,(a.length:Int),true))else some ((a,(a.length:Int),false)):Option ((List (List Zr))×Int×Bool))) fun(f,p,i)=>if i then zH b (f.length) fun j=>nm (f.getD j []) fun g=>bd (xB fu e b) fun(k,h)=>if !k then ck ((d.length+([g]).length)*24<=140737488355328)<|nm (d++([g])) fun l=>ze (b+1) fun m=>L (l,m,h)else ze (b+1) fun o=>L (d,o,h)else some (d,e)
def xl(a:List (List Zr))(b:List Int):Option ((List (List Zr))×(List Int)):=bd (zj (jv fu a) fu (([],(0:Int),b))) fun(d,e)=>some (d,e)
def vz(b:(Bool×List Nat))(ys:List Int)(y:List (Bool×List Nat)×List (List (Bool×List Nat))×List (List (Bool×List Nat))):Option (List Int×((List (Bool×List Nat)×List (List (Bool×List Nat))×List (List (Bool×List Nat)))⊕(List (Bool×List Nat)×List (List (Bool×List Nat))×List (List (Bool×List Nat))))):=bd (qj fu y.1 y.2.1 ys b) fun c=>bd (wB fu y.1 c.1) fun q=>if q.2=0 then if 1<(c.1.length:Int)then ck ((y.2.2.length+1)*24<=140737488355328)<|nm (y.2.2++[c.1]) fun pr=>bd (xl fu y.2.1 c.2) fun w=>some (w.2,.inr (q.1,w.1,pr))else some (c.2,.inl y)else some (c.2,.inl y)
def uk(b:(Bool×List Nat))(x:List (Bool×List Nat)×List (List (Bool×List Nat))×List (List (Bool×List Nat))×Int)(L:List (Bool×List Nat)×List (List (Bool×List Nat))×List (List (Bool×List Nat))×Int->Option (List (Bool×List Nat)×List (List (Bool×List Nat))×List (List (Bool×List Nat)))):Option (List (Bool×List Nat)×List (List (Bool×List Nat))×List (List (Bool×List Nat))):=ze (2*x.2.2.2) fun d=>if d<=(x.2.1.length:Int)then bd (wi fu x.2.2.2 (x.2.1.length:Int) (vz fu b) (x.1,x.2.1,x.2.2.1)) fun r=>xfp (fun y=>ze (x.2.2.2+1) fun i=>L (y.1,y.2.1,y.2.2,i)) (fun y=>L (y.1,y.2.1,y.2.2,x.2.2.2)) r else some (x.1,x.2.1,x.2.2.1)
def ud(f:List (Bool×List Nat))(a:List (List (Bool×List Nat)))(b:(Bool×List Nat)):Option (List (List (Bool×List Nat))):=bd (zj (fun L x=>uk fu b x L) fu (f,a,[],1)) fun x=>if 1<(x.1.length:Int)then bd (xN fu x.1) fun q=>ck ((x.2.2.length+1)*24<=140737488355328)<|nm (x.2.2++[q]) fun pr=>some pr else some x.2.2
def KG(b:List Zr)(d:List Zr):(Int->Option (Unit⊕Bool))->Int->Option (Unit⊕Bool):=fun L a=>if 0<=a then zH a (b.length) fun f=>nm ((b.getD f (false,[]))) fun g=>zH a (d.length) fun h=>nm ((d.getD h (false,[]))) fun i=>bd (qY fu g i) fun e=>if e=0 then ze (a-1) fun j=>L j else if e<0 then some (.inr true)else some (.inr false)else some (.inl ())
def ks(d:List Zr)(e:List Zr):Option Bool:=bd (zF fu d) fun a=>bd (zF fu e) fun b=>if(a.length:Int)=(b.length:Int)then ze (((a.length:Int))-1) fun f=>bd (zj (KG fu a b) fu f) fun g=>match g with
 | .inl _=>some false
 | .inr h=>some h else if(a.length:Int)<(b.length:Int)then some true else some false
def qw(a:List Zr)(b:List Zr):Option Int:=bd (ks fu a b) fun d=>if d then some (-1:Int)else bd (ks fu b a) fun e=>if e then some (1:Int)else some (0:Int)
def Yv(f:Int)(g:Zr):((Int×Zr×Int×Zr)->Option (Int×Zr×Zr))->(Int×Zr×Int×Zr)->Option (Int×Zr×Zr):=fun L (a,b,d,e)=>if d<f then bd (zO fu e g) fun h=>ze (d+1) fun i=>L (a,b,i,h)else some (a,b,e)
def Qa(g:Zr)(d:Int):((Zr×Zr×Zr)->Option Zr)->(Zr×Zr×Zr)->Option Zr:=fun L (e,a,f)=>bd (vi fu a f) fun h=>bd (Qz fu h.2 (1:Int)) fun i=>bd (yT fu false i) fun b=>bd (qY fu b a) fun j=>if j=0 then some a else bd (zZ fu (1:Int)) fun k=>bd (zj (Yv fu d b) fu ((d,g,(0:Int),k))) fun(p,l,m)=>bd (qY fu m l) fun o=>if o<=0 then L (e,b,f)else L (e,a,b)
def VI(b:Zr)(a:Int):Option (Zr×Int):=if a<1 then some (((false,[]),(1:Int)))else if 64<a then some (((false,[]),(1:Int)))else bd (xr fu b) fun e=>if e<0 then some (((false,[]),(1:Int)))else bd (zZ fu (0:Int)) fun f=>bd (jX fu b.2) fun g=>ck (a≠0)<|ze (xda g a) fun h=>ze (h+1) fun i=>nm (min i (262144:Int)) fun j=>bd (Yn fu [(1:Nat)] j) fun(k,m)=>bd (yT fu false k) fun l=>bd (zj (Qa fu b a) fu (((false,[]),f,l))) fun d=>some ((d,(0:Int)))
def Zx(b:List Zr):Option Int:=bd (zF fu b) fun a=>if(a.length:Int)=0 then some (8:Int)else if 65<(a.length:Int)then some (6:Int)else some (0:Int)
def JU(b:List Zr):((Int×(List Zr)×Zr×Zr)->Option ((List Zr)×Zr×Zr))->(Int×(List Zr)×Zr×Zr)->Option ((List Zr)×Zr×Zr):=fun L (d,a,e,f)=>bd ((if d<(b.length:Int)then some (((b.length:Int),true))else some (((b.length:Int),false)):Option (Int×Bool))) fun(m,h)=>if h then zH d (a.length) fun i=>nm ((a.getD i (false,[]))) fun g=>bd (zO fu g g) fun j=>bd (vi fu f j) fun k=>ze (d+1) fun l=>L (l,a,e,k)else some (a,e,f)
def wu(a:List Zr):Option (Zr×Int):=bd (Zx fu a) fun b=>if b=0 then bd (zF fu a) fun d=>bd (zZ fu (-1:Int)) fun e=>bd (zj (JU fu d) fu (((0:Int),d,(false,[]),e))) fun(f,o,g)=>bd (VI fu g (2:Int)) fun(h,p)=>bd (zZ fu (1:Int)) fun i=>bd (vi fu h i) fun j=>ze (((f.length:Int))-1) fun k=>bd (Yn fu j.2 k) fun(l,q)=>bd (vR fu (false,l)) fun m=>some ((m,(0:Int)))else some (((false,[]),b))
def Xr(d:Int)(e:Zr):((Int×Zr)->Option Int)->(Int×Zr)->Option Int:=fun L (a,b)=>bd (qY fu b e) fun f=>if f<=0 then bd (zZ fu d) fun g=>bd (zO fu b g) fun h=>ze (a+1) fun i=>L (i,h)else some a
def YC(a:List Zr)(b:Int):Option Int:=bd (wu fu a) fun(d,m)=>bd (zZ fu (2:Int)) fun e=>ze (((a.length:Int))-1) fun f=>zH f (a.length) fun g=>nm (a.getD g (false,[])) fun h=>bd (zO fu d h) fun i=>bd (zO fu e i) fun j=>bd (zZ fu b) fun k=>bd (zj (Xr fu b j) fu (((1:Int),k))) fun l=>some l
def X6(a:List Zr):Option Bool:=bd (wu fu a) fun(b,k)=>bd (zZ fu (2:Int)) fun d=>ze (((a.length:Int))-1) fun e=>zH e (a.length) fun f=>nm (a.getD f (false,[])) fun g=>bd (zO fu b g) fun h=>bd (zO fu d h) fun i=>bd (jX fu i.2) fun j=>if 1000<j then some true else some false
def Ym(fu:Nat)(b:List Int)(d:List Int):(Int->Option (Unit⊕Int))->Int->Option (Unit⊕Int):=fun L a=>if 0<=a then zH a (b.length) fun e=>nm (b.getD e 0) fun f=>zH a (d.length) fun g=>nm (d.getD g 0) fun h=>if f<h then some (.inr (-1:Int))else zH a (b.length) fun i=>nm (b.getD i 0) fun j=>zH a (d.length) fun k=>nm (d.getD k 0) fun l=>if l<j then some (.inr (1:Int))else ze (a-1) fun m=>L m else some (.inl ())
def wE(a:List Int)(b:List Int):Option Int:=if(a.length:Int)=(b.length:Int)then ze (((a.length:Int))-1) fun d=>bd (zj (Ym fu a b) fu d) fun e=>match e with
 | .inl _=>some (0:Int)
 | .inr f=>some f else ze (((a.length:Int))-((b.length:Int))) fun g=>some g
def qu(fu:Nat)(a:List Int)(b:Int):Option Bool:=zH b (a.length) fun d=>nm (a.getD d 0) fun e=>if e=0 then some false else some true
def KC(b:List Int)(e:Int):((Int×(List Int))->Option (List Int))->(Int×(List Int))->Option (List Int):=fun L (a,d)=>if a<(b.length:Int)then zH a (b.length) fun f=>nm (b.getD f 0) fun g=>bd (jH fu g e) fun h=>zH a (d.length) fun i=>nm (d.set i h) fun j=>ze (a+1) fun k=>L (k,j)else some d
def ZE(a:List Int)(d:Int):Option (List Int):=ki ((a.length:Int)) fun b=>ck (8*b<=281474976710656)<|nm (xaf b 0) fun e=>bd (zj (KC fu a d) fu (((0:Int),e))) fun f=>some f
def K8(fu:Nat)(a:List (List Int)):(Int->Option (Unit⊕Unit))->Int->Option (Unit⊕Unit):=fun L b=>bd ((if b<(a.length:Int)then some ((a,a,(a.length:Int),true))else some ((a,a,(a.length:Int),false)):Option ((List (List Int))×(List (List Int))×Int×Bool))) fun(d,e,l,g)=>if g then zH b (e.length) fun h=>nm (e.getD h []) fun f=>if 64<(f.length:Int)then some (.inr ())else zH 0 (d.length) fun i=>nm (d.getD i []) fun j=>if(f.length:Int)=(j.length:Int)then ze (b+1) fun k=>L k else some (.inr ())else some (.inl ())
def Zu(a:List (List Int))(b:Int):Option Int:=bd (wc fu b) fun d=>if d=0 then if 64<(a.length:Int)then some (1:Int)else bd (zj (K8 fu a) fu (0:Int)) fun e=>match e with
 | .inl _=>some (0:Int)
 | .inr _=>some (1:Int)else some (1:Int)
def w4(xss:List (List Int))(ix:List Nat)(r:Nat)(a p:Int)(lo n:Nat):Option (List (List Int)):=bd (zj (fun L (x:((List (List Int)×List Nat)×Nat×Nat)×(Nat×Nat)×Nat×Int)=>if x.2.2.2<(n:Int)then zH x.2.2.2 x.2.1.2 fun j=>nm (x.1.1.2.getD (x.2.1.1+j) 0) fun q=>zH a (x.1.1.1.getD q []).length fun j=>nm ((x.1.1.1.getD q []).getD j 0) fun y=>bd (zj (fun L (z:((List (List Int)×List Nat)×Nat×Nat)×(Nat×Nat)×Nat×Nat×Nat×Int)=>if z.2.2.2.2.2<((x.1.1.1.getD x.2.2.1 []).length:Int)then zH z.2.2.2.2.2 (z.1.1.1.getD z.2.2.2.1 []).length fun j=>nm ((z.1.1.1.getD z.2.2.2.1 []).getD j 0) fun v=>zH z.2.2.2.2.2 (z.1.1.1.getD z.2.2.2.2.1 []).length fun j=>nm ((z.1.1.1.getD z.2.2.2.2.1 []).getD j 0) fun u=>ze (p-y) fun e=>ze (e*v) fun e=>ze (u+e) fun e=>ck (p≠0)<|nm (xbZ e p) fun e=>zH z.2.2.2.2.2 (z.1.1.1.getD z.2.2.2.2.1 []).length fun j=>nm (z.1.1.1.set z.2.2.2.2.1 ((z.1.1.1.getD z.2.2.2.2.1 []).set j e)) fun yss=>ze (z.2.2.2.2.2+1) fun i=>L (((yss,z.1.1.2),z.1.2),z.2.1,z.2.2.1,z.2.2.2.1,z.2.2.2.2.1,i)else some (z.1,z.2.1,z.2.2.1)) fu (x.1,x.2.1,x.2.2.1,x.2.2.1,q,0)) fun z=>ze (x.2.2.2+1) fun i=>L (z.1,z.2.1,z.2.2,i)else some x.1) fu (((xss,ix),lo,n),(lo,n),r,0)) fun x=>ck (x.2.1=lo/\x.2.2=n/\x.1.2=ix) (some x.1.1)
def wJ(fu:Nat)(b:List (List Int))(d:(List Int)->Option Bool):(Int->Option (Unit⊕Int))->Int->Option (Unit⊕Int):=fun L a=>if a<(b.length:Int)then zH a (b.length) fun e=>nm (b.getD e []) fun f=>bd (d f) fun g=>if g then some (.inr a)else ze (a+1) fun h=>L h else some (.inl ())
def yz(a:List (List Int))(b:(List Int)->Option Bool):Option Int:=bd (zj (wJ fu a b) fu (0:Int)) fun d=>match d with
 | .inl _=>some (-1:Int)
 | .inr e=>some e
def jK(rows:List (List Int))(p:Int):Option (List (List Int)×Int):=bd (Zu fu rows p) fun e=>if e=0 then bd (zj (fun L (x:(List (List Int)×List Nat)×Int)=>if x.2<(rows.length:Int)then zH x.2 rows.length fun j=>nm (rows.getD j []) fun y=>bd (ZE fu y p) fun r=>ck ((x.1.2.length+1)*24<=140737488355328)<|nm (x.1.1++[r]) fun zss=>nm (x.1.2++[x.1.1.length]) fun iz=>ze (x.2+1) fun i=>L ((zss,iz),i)else some x.1) fu (([],[]),0)) fun x=>bd (zj (fun L (x:(List (List Int)×List Nat)×Int×Int)=>if x.2.1<(x.1.2.length:Int)then zH 0 x.1.2.length fun j=>nm (x.1.2.getD j 0) fun r=>if x.2.2<((x.1.1.getD r []).length:Int)then ki x.2.1 fun j=>ck (j<=x.1.2.length)<|bd (yz fu (xdr (x.1.2.length-j) (xdw j (x.1.2.map fun r=>x.1.1.getD r []))) fun z=>qu fu z x.2.2) fun i=>if i<0 then ze (x.2.2+1) fun c=>L (x.1,x.2.1,c)else ze (x.2.1+i) fun a=>ze (x.2.1+i) fun b=>zH b x.1.2.length fun j=>nm (x.1.2.getD j 0) fun d=>zH x.2.1 x.1.2.length fun j=>nm (x.1.2.getD j 0) fun f=>zH x.2.1 x.1.2.length fun j=>nm (x.1.2.set j d) fun ix=>zH a ix.length fun j=>nm (ix.set j f) fun ix=>zH x.2.1 ix.length fun j=>nm (ix.getD j 0) fun r=>zH x.2.2 (x.1.1.getD r []).length fun j=>nm ((x.1.1.getD r []).getD j 0) fun y=>bd (Y5 fu y p) fun q=>zH x.2.1 ix.length fun j=>nm (ix.getD j 0) fun r=>bd (zj (fun L (z:(List (List Int)×List Nat)×Nat×Int)=>if z.2.2<((x.1.1.getD r []).length:Int)then zH z.2.2 (z.1.1.getD z.2.1 []).length fun j=>nm ((z.1.1.getD z.2.1 []).getD j 0) fun y=>zH x.2.1 z.1.2.length fun j=>nm (z.1.2.getD j 0) fun r=>ze (y*q.1) fun e=>ck (p≠0)<|nm (xbZ e p) fun e=>zH z.2.2 (z.1.1.getD r []).length fun j=>nm (z.1.1.set r ((z.1.1.getD r []).set j e)) fun yss=>ze (z.2.2+1) fun i=>L ((yss,z.1.2),z.2.1,i)else some z.1) fu ((x.1.1,ix),r,0)) fun m=>zH x.2.1 m.2.length fun j=>nm (m.2.getD j 0) fun r=>ki x.2.1 fun j=>ck (j<=m.2.length)<|bd (w4 fu m.1 m.2 r x.2.2 p 0 j) fun yss=>zH x.2.1 m.2.length fun j=>nm (m.2.getD j 0) fun r=>ze (x.2.1+1) fun e=>ki e fun j=>ck (j<=m.2.length)<|bd (w4 fu yss m.2 r x.2.2 p j (m.2.length-j)) fun yss=>ze (x.2.1+1) fun k=>ze (x.2.2+1) fun c=>L ((yss,m.2),k,c)else some (x.1,x.2.1)else some (x.1,x.2.1)) fu (x,0,0)) fun x=>ki x.2 fun j=>ck (j<=(x.1.2.map fun r=>x.1.1.getD r []).length)<|nm (xdr j (x.1.2.map fun r=>x.1.1.getD r [])) fun ys=>some (ys,0)else some ([],e)
def kS(fu:Nat)(a:Int):Option Bool:=if a=0 then some false else some true
def wk(fu:Nat)(b:List Int)(d:Int->Option Bool):(Int->Option (Unit⊕Int))->Int->Option (Unit⊕Int):=fun L a=>if a<(b.length:Int)then zH a (b.length) fun e=>nm (b.getD e 0) fun f=>bd (d f) fun g=>if g then some (.inr a)else ze (a+1) fun h=>L h else some (.inl ())
def yZ(a:List Int)(b:Int->Option Bool):Option Int:=bd (zj (wk fu a b) fu (0:Int)) fun d=>match d with
 | .inl _=>some (-1:Int)
 | .inr e=>some e
def Y2(a:List Int):Option Int:=bd (yZ fu a (fun zx0=>kS fu zx0)) fun b=>some b
def wZ(a:List Int)(b:Int):Option Bool:=bd (Y2 fu a) fun d=>if d=b then some true else some false
def xv(a:List (List Int))(b:(List Int)->Option Bool):Option Bool:=bd (yz fu a b) fun d=>if 0<=d then some true else some false
def VO(d:Int)(i:Int)(j:Int)(a:List (List Int))(k:Int):((Int×(List (List Int))×(List Int))->Option ((List (List Int))×(List Int)))->(Int×(List (List Int))×(List Int))->Option ((List (List Int))×(List Int)):=fun L (e,l,f)=>bd ((if e<(a.length:Int)then some ((i,j,a,d,k,d,a,(a.length:Int),true))else some ((i,j,a,d,k,d,a,(a.length:Int),false)):Option (Int×Int×(List (List Int))×Int×Int×Int×(List (List Int))×Int×Bool))) fun(A,m,B,o,C,E,b,p,q)=>if q then zH e (b.length) fun r=>nm (b.getD r []) fun g=>bd (Y2 fu g) fun s=>zH o (g.length) fun t=>nm (g.getD t 0) fun u=>ze (0-u) fun v=>bd (jH fu v m) fun w=>zH s (f.length) fun x=>nm (f.set x w) fun h=>ze (e+1) fun y=>L (y,l,h)else some (l,f)
def U2(b:Int)(h:Int)(i:List (List Int)):(((List (List Int))×Int)->Option (List (List Int)))->((List (List Int))×Int)->Option (List (List Int)):=fun L (f,a)=>bd ((if a<b then some (b,h,i,b,true)else some (b,h,i,b,false):Option (Int×Int×(List (List Int))×Int×Bool))) fun(j,o,k,p,q)=>if q then bd (xv fu k (fun zx0=>wZ fu zx0 a)) fun r=>if r then ze (a+1) fun s=>L (f,s)else ki j fun l=>ck (8*l<=281474976710656)<|nm (xaf l 0) fun m=>zH a (m.length) fun t=>nm (m.set t (1:Int)) fun u=>bd (zj (VO fu a j o k p) fu (((0:Int),f,u))) fun(d,e)=>ck ((d.length+([e]).length)*24<=140737488355328)<|nm (d++([e])) fun g=>ze (a+1) fun v=>L (g,v)else some f
def YV(a:List (List Int))(b:Int)(d:Int):Option ((List (List Int))×Int):=bd ((bd (Zu fu a d) fun f=>if f=0 then if b<0 then some (.inr ())else if 64<b then some (.inr ())else if 0<(a.length:Int)then zH 0 (a.length) fun g=>nm (a.getD g []) fun h=>if(h.length:Int)=b then some (.inl ())else some (.inr ())else some (.inl ())else some (.inr ()):Option (Unit⊕Unit))) fun i=>match i with
 | .inl _=>bd (jK fu a d) fun(j,k)=>bd (zj (U2 fu b d j) fu (([],(0:Int)))) fun e=>some ((e,(0:Int)))
 | .inr _=>some (([],(1:Int)))
def qO(e:List Int)(f:List Int)(a:Int):Option ((List Int)×(List Int)×Int):=bd (wc fu a) fun b=>if b=0 then bd (zS fu f a) fun d=>if(d.length:Int)=0 then some (([],[],(3:Int)))else bd (zS fu e a) fun g=>bd (xi fu g d a) fun(h,i)=>some ((h,i,(0:Int)))else some ([],[],b)
def ZZ(i:Zr)(d:Int)(j:List Int):(((List Int)×(List Int)×Int)->Option (List Int))->((List Int)×(List Int)×Int)->Option (List Int):=fun L (e,f,a)=>if 0<=a then bd (xR fu e e d) fun l=>bd (xi fu l j d) fun(m,b)=>ck ((64:Int)≠0)<|ze (xda a (64:Int)) fun o=>zH o (i.2.length) fun p=>nm (i.2.getD p 0) fun q=>ck ((64:Int)≠0)<|nm (xbZ a (64:Int)) fun k=>ck (0<=k)<|nm (q/2^(min (k:Int).toNat 64)) fun r=>nm (r &&& ((1:Nat))) fun s=>if(s:Int)=(((1:Nat):Nat):Int)then bd (xR fu b f d) fun g=>bd (xi fu g j d) fun(t,h)=>ze (a-1) fun u=>L (h,f,u)else ze (a-1) fun v=>L (b,f,v)else some e
def j8(f:List Int)(d:Zr)(g:List Int)(a:Int):Option ((List Int)×Int):=bd (wc fu a) fun h=>if h=0 then bd (xr fu d) fun i=>if i<0 then some (([],(1:Int)))else bd (zS fu g a) fun b=>if(b.length:Int)=0 then some (([],(3:Int)))else bd (xi fu [(1:Int)] b a) fun(p,j)=>bd (zS fu f a) fun k=>bd (xi fu k b a) fun(q,l)=>bd (jX fu d.2) fun m=>ze (m-1) fun o=>bd (zj (ZZ fu d a b) fu (j,l,o)) fun e=>some ((e,(0:Int)))else some (([],(1:Int)))
def Zn(f:List Int)(p:Int):Option (List (List Int)):=ze ((f.length:Int)-1) fun n=>ki n fun m=>ck (24*m<=281474976710656)<|nm (xaf m 0) fun ix=>bd (zj (fun L (x:(List (List Int)×List Nat)×Int)=>if x.2<(ix.length:Int)then ki n fun m=>ck (8*m<=281474976710656)<|nm (xaf m 0) fun ys=>zH x.2 x.1.2.length fun j=>nm (x.1.1++[ys]) fun xss=>nm (x.1.2.set j x.1.1.length) fun ix=>ze (x.2+1) fun i=>L ((xss,ix),i)else some x.1) fu (([[]],ix),0)) fun x=>bd (zZ fu p) fun z=>bd (j8 fu [0,1] z f p) fun q=>bd (zj (fun L (x:(List (List Int)×List Nat)×List Int×List Int×Int)=>if x.2.2.2<n then bd (zj (fun L (y:(List (List Int)×List Nat)×Int)=>if y.2<(x.2.1.length:Int)then zH y.2 x.2.1.length fun j=>nm (x.2.1.getD j 0) fun v=>zH y.2 y.1.2.length fun j=>nm (y.1.2.getD j 0) fun r=>zH x.2.2.2 (y.1.1.getD r []).length fun j=>nm (y.1.1.set r ((y.1.1.getD r []).set j v)) fun yss=>ze (y.2+1) fun i=>L ((yss,y.1.2),i)else some y.1) fu (x.1,0)) fun y=>zH x.2.2.2 y.2.length fun j=>nm (y.2.getD j 0) fun r=>zH x.2.2.2 (y.1.getD r []).length fun j=>nm ((y.1.getD r []).getD j 0) fun v=>ze (v-1) fun e=>zH x.2.2.2 (y.1.getD r []).length fun j=>nm (y.1.set r ((y.1.getD r []).set j e)) fun yss=>bd (qM fu x.2.1 x.2.2.1 p) fun u=>bd (qO fu u.1 f p) fun w=>ze (x.2.2.2+1) fun i=>L ((yss,y.2),w.2.1,x.2.2.1,i)else some x.1) fu (x,[1],q.1,0)) fun x=>bd (YV fu (x.2.map fun r=>x.1.getD r []) n p) fun r=>some r.1
def Uk(a:List Int)(b:List Int)(d:Int):Option (List Int):=bd (qO fu a b d) fun(e,f,g)=>some e
def Jl(a:List Int)(b:List Int)(d:Int):Option (List Int):=bd (qI fu a b d) fun(e,f)=>some e
def uu(b:Int)(a:List Int)(d:Int):Option Int:=if b<(a.length:Int)then zH b (a.length) fun e=>nm (a.getD e 0) fun f=>bd (jH fu f d) fun g=>some g else ze (b-((a.length:Int))) fun h=>some h
def VB(d:List Int)(e:List Int)(a:Int):Option ((List Int)×Int):=bd (wc fu a) fun b=>if b=0 then bd (zS fu d a) fun f=>bd (zS fu e a) fun g=>bd (uJ fu f g (1:Int) a) fun h=>some ((h,(0:Int)))else some ([],b)
def Wk(d:List Int)(e:Int)(f:List Int)(a:Int):Option (List Int):=bd (VB fu d [e] a) fun(b,l)=>if 2<a then ze (a-1) fun g=>ck ((2:Int)≠0)<|ze (xda g (2:Int)) fun h=>bd (zZ fu h) fun i=>bd (j8 fu b i f a) fun(j,m)=>bd (Xb fu j [(1:Int)] a) fun(k,o)=>some k else some b
def XA(v:Int)(w:List Int)(h:List (List Int))(e:Int)(k:List Int)(l:Int)(i:Int)(m:List (List Int))(o:Int)(j:List Int):(((List (List Int))×Int)->Option ((List (List Int))⊕(List (List Int))))->((List (List Int))×Int)->Option ((List (List Int))⊕(List (List Int))):=fun L (a,d)=>if d<(a.length:Int)then if(a.length:Int)=(h.length:Int)then some (.inl a)else bd (uu fu i w v) fun x=>zH d (a.length) fun y=>nm ((a.getD y [])) fun A=>bd (Wk fu j x A e) fun p=>zH d (a.length) fun B=>nm ((a.getD B [])) fun q=>bd (Jl fu p q e) fun b=>bd ((if 1<(b.length:Int)then zH d (a.length) fun C=>nm ((a.getD C [])) fun r=>if(b.length:Int)<(r.length:Int)then some (h,e,k,i,j,m,o,l,true)else some (h,e,k,i,j,m,o,l,false)else some (h,e,k,i,j,m,o,l,false):Option ((List (List Int))×Int×(List Int)×Int×(List Int)×(List (List Int))×Int×Int×Bool))) fun(E,s,G,P,H,I,Q,R,J)=>if J then zH d (a.length) fun K=>nm ((a.getD K [])) fun t=>bd (Uk fu t b s) fun f=>ck ((a.length+([f]).length)*24<=140737488355328)<|nm (a++([f])) fun g=>zH d (g.length) fun M=>nm (g.set M b) fun u=>ze (d+1) fun N=>L (u,N)else ze (d+1) fun O=>L (a,O)else some (.inr a)
def Xx(l:Int)(m:List Int)(j:Int)(a:List (List Int)):(((List (List Int))×Int×(List Int)×(List (List Int))×Int)->Option ((List (List Int))⊕((List (List Int))×Int×(List Int)×(List (List Int)))))->((List (List Int))×Int×(List Int)×(List (List Int))×Int)->Option ((List (List Int))⊕((List (List Int))×Int×(List Int)×(List (List Int)))):=fun L (d,e,f,k,b)=>bd ((if b<(a.length:Int)then some ((j,a,(a.length:Int),true))else some ((j,a,(a.length:Int),false)):Option (Int×(List (List Int))×Int×Bool))) fun(o,g,p,q)=>if q then zH b (g.length) fun r=>nm (g.getD r []) fun s=>bd (zj (XA fu l m d e f b o g p s) fu ((k,(0:Int)))) fun t=>match t with
 | .inl h=>some (.inl h)
 | .inr i=>ze (b+1) fun u=>L (d,e,f,i,u)else some (.inr (d,e,f,k))
def Xg(a:List (List Int))(b:Int)(d:List Int):(((List (List Int))×Int)->Option (List (List Int)))->((List (List Int))×Int)->Option (List (List Int)):=fun L (h,e)=>ze (b+((d.length:Int))) fun j=>if e<j then ki (1:Int) fun i=>ck (i<=a.length)<|nm (a.drop i) fun k=>bd (zj (Xx fu b d e k) fu ((a,b,d,h,(0:Int)))) fun l=>match l with
 | .inl f=>some f
 | .inr (m,o,p,g)=>ze (e+1) fun q=>L (g,q)else some h
def YE(b:List Int)(d:List (List Int))(e:Int)(f:List Int):Option (List (List Int)):=bd (zj (Xg fu d e f) fu (([b],(0:Int)))) fun a=>some a
def qd(e:List Int)(b:Int):Option ((List Int)×Int):=bd (wc fu b) fun d=>if d=0 then bd (zS fu e b) fun a=>if(a.length:Int)=0 then some (([],(0:Int)))else ze (((a.length:Int))-1) fun f=>zH f (a.length) fun g=>nm ((a.getD g 0)) fun h=>bd (vk fu a h b) fun i=>some ((i,(0:Int)))else some ([],d)
def Jm(d:List Int)(e:Int):Option ((List Int)×Int):=bd (qd fu d e) fun(a,b)=>if b=0 then if(a.length:Int)=0 then some (([],(8:Int)))else if 65<(a.length:Int)then some (([],(6:Int)))else some ((a,(0:Int)))else some ([],b)
def JI(fu:Nat)(f:Int)(e:List Int):(((List Int)×Int×(List Int))->Option (List Int))->((List Int)×Int×(List Int))->Option (List Int):=fun L (b,a,d)=>bd ((if a<(e.length:Int)then some ((f,(e.length:Int),true))else some ((f,(e.length:Int),false)):Option (Int×Int×Bool))) fun(g,q,i)=>if i then zH a (d.length) fun j=>nm ((d.getD j 0)) fun k=>if 0<a then ck (g≠0)<|nm (xbZ a g) fun l=>ze (l*k) fun h=>ck ((b.length+([h]).length)*8<=140737488355328)<|nm (b++([h])) fun m=>ze (a+1) fun o=>L (m,o,d)else ze (a+1) fun p=>L (b,p,d)else some b
def YB(e:List Int)(a:Int):Option ((List Int)×Int):=bd (wc fu a) fun b=>if b=0 then bd (zS fu e a) fun d=>bd (zj (JI fu a d) fu (([],(0:Int),d))) fun f=>bd (zS fu f a) fun g=>some ((g,(0:Int)))else some ([],b)
def Wh(d:List Int)(e:Int):Option ((List Int)×Int):=bd (qd fu d e) fun(a,b)=>if b=0 then if(a.length:Int)=0 then some (([],(8:Int)))else some (a,b)else some (a,b)
def uM(e:List Int)(a:Int):Option (Bool×Int):=bd (Wh fu e a) fun(b,d)=>if d=0 then bd (YB fu b a) fun(f,h)=>bd (qI fu b f a) fun(g,i)=>if(g.length:Int)=1 then some ((true,(0:Int)))else some ((false,(0:Int)))else some (false,d)
def jj(e:List Int)(a:Int):Option ((List Int)×Int):=bd (Jm fu e a) fun(b,d)=>if d=0 then bd (uM fu b a) fun(f,g)=>if !f then some (([],(1:Int)))else some ((b,(0:Int)))else some ([],d)
def q8(a:Nat):Option Int:=bd (xu fu a) fun b=>some b
def wy(fu:Nat)(g:(List Int)->(List Int)->Option Int):((Int×Int×Int×(List (List Int)))->Option (Int×Int×(List (List Int))))->(Int×Int×Int×(List (List Int)))->Option (Int×Int×(List (List Int))):=fun L (d,e,b,a)=>if d<b then zH b (a.length) fun h=>nm ((a.getD h [])) fun i=>ze (b-1) fun j=>zH j (a.length) fun k=>nm ((a.getD k [])) fun l=>bd (g i l) fun m=>if m<0 then ze (b-1) fun o=>ze (b-1) fun p=>zH p (a.length) fun q=>nm ((a.getD q [])) fun r=>zH b (a.length) fun s=>nm ((a.getD s [])) fun t=>zH b (a.length) fun u=>nm (a.set u r) fun f=>zH o (f.length) fun v=>nm (f.set v t) fun w=>ze (b-1) fun x=>L (d,e,x,w)else some (d,e,a)else some (d,e,a)
def xd(e:Int)(b:Int)(f:(List Int)->(List Int)->Option Int):((Int×(List (List Int)))->Option (List (List Int)))->(Int×(List (List Int)))->Option (List (List Int)):=fun L (a,d)=>if a<b then bd (zj (wy fu f) fu (e,b,a,d)) fun(i,j,g)=>ze (a+1) fun h=>L (h,g)else some d
def xn(d:List (List Int))(b:Int)(e:Int)(f:(List Int)->(List Int)->Option Int):Option (List (List Int)):=ze (b+1) fun g=>bd (zj (xd fu b e f) fu (g,d)) fun a=>some a
def vG(d:(List Int)->(List Int)->Option Int):((Int×Int×Int×(List (List Int)))->Option (List (List Int)))->(Int×Int×Int×(List (List Int)))->Option (List (List Int)):=fun L (a,b,e,f)=>ze (b-a) fun g=>if g<=12 then bd (xn fu f a b d) fun h=>some h else if e=0 then none else none
def qF:Nat->(List (List Int))->Int->Int->Int->((List Int)->(List Int)->Option Int)->Option (List (List Int))
 |0,_,_,_,_,_=>none
 |fu+1,a,b,d,e,f=>bd (zj (vG fu f) fu (b,d,e,a)) fun g=>some g
def xA(a:List (List Int))(b:(List Int)->(List Int)->Option Int):Option (List (List Int)):=nm (gB ((a.length:Int))) fun d=>bd (q8 fu d) fun e=>bd (qF fu a (0:Int) ((a.length:Int)) e b) fun f=>some f
def ZD(g:List Int)(a:Int)(b:List Int):Option ((List (List Int))×Int):=bd (jj fu g a) fun(d,e)=>if e=0 then if(d.length:Int)=1 then some ([],e)else bd (Zn fu d a) fun h=>nm (min ((b.length:Int)) (64:Int)) fun i=>ki i fun f=>ck (f<=b.length)<|nm (b.take f) fun j=>bd (YE fu d h a j) fun k=>bd (xA fu k (fun zx0 zx1=>wE fu zx0 zx1)) fun l=>some ((l,(0:Int)))else some ([],e)
def WO:(Int->Option Int)->Int->Option Int:=fun L a=>bd (j9 fu a) fun b=>if !b then ze (a+1) fun d=>L d else some a
def xK(a:Int):Option (Int×Int):=if 65521<=a then some (((0:Int),(5:Int)))else nm (max a (1:Int)) fun b=>ze (b+1) fun d=>bd (zj (WO fu) fu d) fun e=>some ((e,(0:Int)))
def Wo(a:List Zr)(b:Int):Option (Bool×Int):=bd (wu fu a) fun(i,d)=>if d=0 then bd (j9 fu b) fun f=>if !f then some ((false,(0:Int)))else bd (jW fu a b) fun(e,j)=>bd (zF fu a) fun g=>if(e.length:Int)=(g.length:Int)then bd (uM fu e b) fun(h,k)=>some ((h,(0:Int)))else some ((false,(0:Int)))else some (false,d)
def W6(m:List Zr)(o:List Int):((Int×Int×(List (List Int))×Int×Int)->Option (Int×(List (List Int))))->(Int×Int×(List (List Int))×Int×Int)->Option (Int×(List (List Int))):=fun L (b,e,d,a,p)=>if p=0 then if e<5 then bd (Wo fu m a) fun(q,v)=>if !q then bd (xK fu a) fun(r,s)=>L (b,e,d,r,s)else ze (e+1) fun f=>bd (jW fu m a) fun(t,w)=>bd (ZD fu t a o) fun(g,x)=>if b=0 then bd (xK fu a) fun(u,h)=>L (a,f,g,u,h)else if(g.length:Int)<(d.length:Int)then bd (xK fu a) fun(i,j)=>L (a,f,g,i,j)else bd (xK fu a) fun(k,l)=>L (b,f,d,k,l)else some (b,d)else some (b,d)
def XY(a:List Zr)(b:List Int):Option (Int×(List (List Int))):=bd (xK fu (1:Int)) fun(d,e)=>bd (zj (W6 fu a b) fu (((0:Int),(0:Int),[],d,e))) fun(f,g)=>some (f,g)
def gj(a:Int):((Int×Zr×Zr)->Option (Zr×Zr))->(Int×Zr×Zr)->Option (Zr×Zr):=fun L (b,d,e)=>bd ((if b<a then some (a,a,true)else some (a,a,false):Option (Int×Int×Bool))) fun(f,q,g)=>if g then ze (f+b) fun h=>ze (h+1) fun i=>bd (zZ fu i) fun j=>bd (zO fu e j) fun k=>ze (b+1) fun l=>bd (zZ fu l) fun m=>bd (qP fu k m) fun(o,r)=>ze (b+1) fun p=>L (p,d,o)else some (d,e)
def Ua(a:Int):Option Zr:=bd (zZ fu (1:Int)) fun b=>bd (zj (gj fu a) fu (((0:Int),(false,[]),b))) fun(e,d)=>some d
def gX:((Int×Zr×Zr)->Option Zr)->(Int×Zr×Zr)->Option Zr:=fun L (b,a,d)=>if 0<b then nm (H4 b (1:Int)) fun e=>if e=1 then bd (zO fu d a) fun f=>bd (zO fu a a) fun g=>nm (xfN b (2^(min (((1:Nat)):Int).toNat 64))) fun h=>L (h,g,f)else bd (zO fu a a) fun i=>nm (xfN b (2^(min (((1:Nat)):Int).toNat 64))) fun j=>L (j,i,d)else some d
def ua(a:Zr)(b:Int):Option Zr:=bd (zZ fu (1:Int)) fun d=>bd (zj (gX fu) fu (b,a,d)) fun e=>some e
def iL(a:List Zr)(d:List Zr):((Int×Zr×Zr)->Option (Zr×Zr))->(Int×Zr×Zr)->Option (Zr×Zr):=fun L (b,e,f)=>bd ((if b<(a.length:Int)then some ((d,a,(a.length:Int),true))else some ((d,a,(a.length:Int),false)):Option ((List Zr)×(List Zr)×Int×Bool))) fun(g,h,r,i)=>if i then zH b (h.length) fun j=>nm (h.getD j (false,[])) fun k=>zH b (g.length) fun l=>nm (g.getD l (false,[])) fun m=>bd (zO fu k m) fun o=>bd (vi fu f o) fun p=>ze (b+1) fun q=>L (q,e,p)else some (e,f)
def UQ(a:List Zr)(b:List Zr):Option Zr:=bd (zZ fu (0:Int)) fun d=>bd (zj (iL fu a b) fu (((0:Int),(false,[]),d))) fun(f,e)=>some e
def U3(a:List Zr)(b:List Zr):Option (Zr×Int):=if(a.length:Int)=(b.length:Int)then bd (UQ fu a b) fun d=>some ((d,(0:Int)))else some (((false,[]),(1:Int)))
def J0(a:List Zr):Option Zr:=bd (U3 fu a a) fun(b,d)=>some b
def oc(f:Zr)(a:Zr):((Int×Zr)->Option (Unit⊕Int))->(Int×Zr)->Option (Unit⊕Int):=fun L (b,e)=>if b<=1000 then bd (qY fu e f) fun g=>if 0<g then some (.inr b)else bd (zO fu e a) fun d=>ze (b+1) fun h=>L (h,d)else some (.inl ())
def cD(g:List Zr)(h:Int)(d:Int):Option (Int×Int):=bd (wu fu g) fun(A,i)=>if i=0 then bd (xN fu g) fun j=>ze (((j.length:Int))-1) fun a=>bd (j9 fu h) fun k=>if !k then some (((0:Int),(1:Int)))else if d<1 then some (((0:Int),(1:Int)))else if a<d then some (((0:Int),(1:Int)))else ze (a-1) fun e=>bd (zZ fu (2:Int)) fun l=>ze (e*a) fun m=>bd (ua fu l m) fun o=>bd (Ua fu e) fun p=>bd (ua fu p a) fun q=>bd (J0 fu j) fun r=>ze (e+a) fun s=>bd (ua fu r s) fun t=>bd (zO fu q t) fun u=>bd (zO fu o u) fun v=>bd (zZ fu h) fun f=>ze ((2:Int)*d) fun w=>bd (ua fu f w) fun b=>bd (zj (oc fu v b) fu (((1:Int),b))) fun x=>match x with
 | .inl _=>some (((0:Int),(6:Int)))
 | .inr y=>some ((y,(0:Int)))else some (((0:Int),i))
def iR(a:List Int)(b:List Int)(d:Int):Option Bool:=bd (qO fu b a d) fun(f,e,g)=>if(e.length:Int)=0 then some true else some false
def XB(e:Int):(((List Zr)×(List (List Int)))->Option ((List Zr)×(List (List Int))))->((List Zr)×(List (List Int)))->Option ((List Zr)×(List (List Int))):=fun L (b,a)=>if 12<(a.length:Int)then zH 0 (a.length) fun f=>nm (a.getD f []) fun g=>ze (((g.length:Int))-1) fun h=>bd (cD fu b e h) fun(i,j)=>if j=0 then bd (qb fu b a e i) fun(d,l)=>if(d.length:Int)=0 then some (b,a)else zH 0 (d.length) fun k=>nm ((d.getD k [])) fun m=>none else some (b,a)else some (b,a)
def Yq(a:List Zr)(b:List (List Int))(d:Int):Option ((List (List Zr))×(List Zr)×(List (List Int))):=bd (zj (XB fu d) fu (a,b)) fun(e,f)=>some ([],e,f)
def xL(fu:Nat)(g:(List Zr)->(List Zr)->Option Int):((Int×Int×Int×(List (List Zr)))->Option (Int×Int×(List (List Zr))))->(Int×Int×Int×(List (List Zr)))->Option (Int×Int×(List (List Zr))):=fun L (d,e,b,a)=>if d<b then zH b (a.length) fun h=>nm ((a.getD h [])) fun i=>ze (b-1) fun j=>zH j (a.length) fun k=>nm ((a.getD k [])) fun l=>bd (g i l) fun m=>if m<0 then ze (b-1) fun o=>ze (b-1) fun p=>zH p (a.length) fun q=>nm ((a.getD q [])) fun r=>zH b (a.length) fun s=>nm ((a.getD s [])) fun t=>zH b (a.length) fun u=>nm (a.set u r) fun f=>zH o (f.length) fun v=>nm (f.set v t) fun w=>ze (b-1) fun x=>L (d,e,x,w)else some (d,e,a)else some (d,e,a)
def yW(e:Int)(b:Int)(f:(List Zr)->(List Zr)->Option Int):((Int×(List (List Zr)))->Option (List (List Zr)))->(Int×(List (List Zr)))->Option (List (List Zr)):=fun L (a,d)=>if a<b then bd (zj (xL fu f) fu (e,b,a,d)) fun(i,j,g)=>ze (a+1) fun h=>L (h,g)else some d
def y6(d:List (List Zr))(b:Int)(e:Int)(f:(List Zr)->(List Zr)->Option Int):Option (List (List Zr)):=ze (b+1) fun g=>bd (zj (yW fu b e f) fu (g,d)) fun a=>some a
def wO(d:(List Zr)->(List Zr)->Option Int):((Int×Int×Int×(List (List Zr)))->Option (List (List Zr)))->(Int×Int×Int×(List (List Zr)))->Option (List (List Zr)):=fun L (a,b,e,f)=>ze (b-a) fun g=>if g<=12 then bd (y6 fu f a b d) fun h=>some h else if e=0 then none else none
def vf:Nat->(List (List Zr))->Int->Int->Int->((List Zr)->(List Zr)->Option Int)->Option (List (List Zr))
 |0,_,_,_,_,_=>none
 |fu+1,a,b,d,e,f=>bd (zj (wO fu f) fu (b,d,e,a)) fun g=>some g
def yn(a:List (List Zr))(b:(List Zr)->(List Zr)->Option Int):Option (List (List Zr)):=nm (gB ((a.length:Int))) fun d=>bd (q8 fu d) fun e=>bd (vf fu a (0:Int) ((a.length:Int)) e b) fun f=>some f
def XT(a:List Zr)(h:List Int):Option ((List (List Zr))×Bool):=if(a.length:Int)<2 then some ([],true)else bd (X6 fu a) fun i=>if i then some ([],false)else bd (XY fu a h) fun(b,j)=>if b=0 then some ([],false)else bd (YC fu a b) fun f=>bd (vn fu b f) fun(k,r)=>bd (Yq fu a j b) fun(d,e,l)=>if 1<(e.length:Int)then bd (qb fu e l b f) fun(m,s)=>bd (ud fu e m k) fun g=>ck ((d.length+g.length)*24<=140737488355328)<|nm (d++g) fun o=>bd (yn fu o (fun zx0 zx1=>qw fu zx0 zx1)) fun p=>some (p,true)else bd (yn fu d (fun zx0 zx1=>qw fu zx0 zx1)) fun q=>some (q,true)
def KK(d:Zr)(e:Int):((Int×Zr)->Option Zr)->(Int×Zr)->Option Zr:=fun L (a,b)=>if a<e then bd (zO fu b d) fun f=>ze (a+1) fun g=>L (g,f)else some b
def XP(a:Zr)(b:Int):Option Zr:=bd (zZ fu (1:Int)) fun d=>bd (zj (KK fu a b) fu (((0:Int),d))) fun e=>some e
def Xy(m:Zr):(((List Zr)×(List Zr)×Int×(List Zr))->Option ((List Zr)×(List Zr)))->((List Zr)×(List Zr)×Int×(List Zr))->Option ((List Zr)×(List Zr)):=fun L (d,b,a,f)=>if 0<=a then ze (a+((d.length:Int))) fun o=>if(b.length:Int)<o then ze (a-1) fun p=>L (d,b,p,f)else ze (a+((d.length:Int))) fun q=>ze (q-1) fun r=>zH r (b.length) fun s=>nm ((b.getD s (false,[]))) fun t=>bd (qP fu t m) fun(u,v)=>zH a (f.length) fun w=>nm (f.set w u) fun g=>ki a fun k=>ck (32*k<=281474976710656)<|nm (xaf k (false,[])) fun l=>zH a (g.length) fun x=>nm ((g.getD x (false,[]))) fun y=>bd (wV fu d y) fun e=>ck ((l.length+e.length)*32<=140737488355328)<|nm (l++e) fun h=>bd (qN fu b h) fun i=>ze (a-1) fun j=>L (d,i,j,g)else some (b,f)
def Yr(j:List Zr)(k:List Zr):Option ((List Zr)×(List Zr)×Int):=bd (zF fu j) fun g=>bd (zF fu k) fun a=>if(a.length:Int)=0 then some (([],[],(3:Int)))else ze (((g.length:Int))-((a.length:Int))) fun l=>ze (l+1) fun m=>nm (max m (0:Int)) fun b=>ze (((a.length:Int))-1) fun o=>zH o (a.length) fun p=>nm ((a.getD p (false,[]))) fun h=>bd (XP fu h b) fun q=>bd (wV fu g q) fun r=>ki b fun i=>ck (32*i<=281474976710656)<|nm (xaf i (false,[])) fun s=>ze (b-1) fun t=>bd (zj (Xy fu h) fu (a,r,t,s)) fun(d,e)=>bd (zF fu e) fun f=>some ((f,d,(0:Int)))
def Jf:(((List Zr)×(List Zr))->Option (List Zr))->((List Zr)×(List Zr))->Option (List Zr):=fun L (b,a)=>if 0<(a.length:Int)then bd (Yr fu b a) fun(f,d,g)=>bd (xN fu d) fun e=>L (a,e)else some b
def QI(a:List Zr)(b:List Zr):Option (List Zr):=bd (wI fu a) fun d=>bd (wI fu b) fun e=>bd (W3 fu d e) fun f=>bd (xN fu a) fun g=>bd (xN fu b) fun h=>bd (zj (Jf fu) fu (g,h)) fun i=>bd (wV fu i f) fun j=>some j
def Xq(a:Int)(b:Zr):Option Zr:=bd (zZ fu a) fun d=>bd (zO fu b d) fun e=>some e
def Yx(d:List Zr):Option (List Zr):=bd (zB fu d (fun zx0 zx1=>Xq fu zx0 zx1)) fun a=>nm (min ((a.length:Int)) (1:Int)) fun e=>ki e fun b=>ck (b<=a.length)<|nm (a.drop b) fun f=>bd (zF fu f) fun g=>some g
def fY(a:List Zr)(b:List Zr):Option (List Zr):=bd (wB fu a b) fun(d,e)=>some d
def wz(b:List Zr):Option ((List Zr)×Int):=bd (Zx fu b) fun d=>if d=0 then bd (xN fu b) fun a=>bd (Yx fu a) fun e=>bd (QI fu a e) fun f=>bd (fY fu a f) fun g=>some ((g,(0:Int)))else some ([],d)
def Z8(g:List Zr)(a:List (List Zr)):(((List ((List Zr)×Int))×Int×Zr×(List (List Zr)))->Option ((List ((List Zr)×Int))×Zr))->((List ((List Zr)×Int))×Int×Zr×(List (List Zr)))->Option ((List ((List Zr)×Int))×Zr):=fun L (b,d,h,e)=>bd ((if d<(a.length:Int)then some ((g,(a.length:Int),true))else some ((g,(a.length:Int),false)):Option ((List Zr)×Int×Bool))) fun(j,p,k)=>if k then zH d (e.length) fun l=>nm ((e.getD l [])) fun f=>bd (u7 fu j f) fun i=>ck ((b.length+([(f,i)]).length)*32<=140737488355328)<|nm (b++([(f,i)])) fun m=>ze (d+1) fun o=>L (m,o,h,e)else some (b,h)
def yQ(a:List Zr)(e:List Int):Option (Zr×(List ((List Zr)×Int))×Int):=bd (wz fu a) fun(f,b)=>if b=0 then bd (XT fu f e) fun(d,g)=>if !g then some (((false,[]),[],(6:Int)))else bd (zj (Z8 fu a d) fu (([],(0:Int),(false,[]),d))) fun(h,i)=>bd (wI fu a) fun j=>some ((j,h,(0:Int)))else some (((false,[]),[],b))
def vh(d:List Zr):Option (Bool×Int):=bd (yQ fu d []) fun(g,b,a)=>if a=0 then if(b.length:Int)=1 then zH 0 (b.length) fun e=>nm (((b.getD e ([],0))).2) fun f=>if f=1 then some (true,a)else some (false,a)else some (false,a)else some (false,a)
def ZM(fu:Nat):((Int×Int×(List Nat))->Option (List Nat))->(Int×Int×(List Nat))->Option (List Nat):=fun L (b,d,a)=>if b<d then zH d (a.length) fun f=>nm ((a.getD f 0)) fun g=>zH b (a.length) fun h=>nm ((a.getD h 0)) fun i=>zH b (a.length) fun j=>nm (a.set j g) fun e=>zH d (e.length) fun k=>nm (e.set k i) fun l=>ze (b+1) fun m=>ze (d-1) fun o=>L (m,o,l)else some a
def qJ(a:List Nat):Option (List Nat):=ze (((a.length:Int))-1) fun b=>bd (zj (ZM fu) fu (((0:Int),b,a))) fun d=>some d
def ni(fu:Nat)(f:Bool):((Nat×(List Nat))->Option (List Nat))->(Nat×(List Nat))->Option (List Nat):=fun L (b,a)=>if(((0:Nat):Nat):Int)<(b:Int)then ck ((10:Nat)≠0)<|nm (b % ((10:Nat))) fun g=>nm ((((48:Nat))+g) % 18446744073709551616) fun h=>nm (h % 256) fun d=>ck ((a.length+([d]).length)*1<=140737488355328)<|nm (a++([d])) fun i=>ck ((10:Nat)≠0)<|nm (b/((10:Nat))) fun j=>L (j,i)else if f then if(a.length:Int)<19 then ck ((10:Nat)≠0)<|nm (b % ((10:Nat))) fun k=>nm ((((48:Nat))+k) % 18446744073709551616) fun l=>nm (l % 256) fun e=>ck ((a.length+([e]).length)*1<=140737488355328)<|nm (a++([e])) fun m=>ck ((10:Nat)≠0)<|nm (b/((10:Nat))) fun o=>L (o,m)else some a else some a
def QQ(a:Nat)(b:Bool):Option (List Nat):=bd (zj (ni fu b) fu (a,[])) fun d=>bd (qJ fu d) fun e=>some e
def kY(fu:Nat):((Int×Int×(List (List Nat)))->Option (List (List Nat)))->(Int×Int×(List (List Nat)))->Option (List (List Nat)):=fun L (b,d,a)=>if b<d then zH d (a.length) fun f=>nm ((a.getD f [])) fun g=>zH b (a.length) fun h=>nm ((a.getD h [])) fun i=>zH b (a.length) fun j=>nm (a.set j g) fun e=>zH d (e.length) fun k=>nm (e.set k i) fun l=>ze (b+1) fun m=>ze (d-1) fun o=>L (m,o,l)else some a
def vt(a:List (List Nat)):Option (List (List Nat)):=ze (((a.length:Int))-1) fun b=>bd (zj (kY fu) fu (((0:Int),b,a))) fun d=>some d
def Kk(fu:Nat)(a:List (List Nat))(b:List Nat):Option (List Nat):=ck (a.length<=140737488355328)<|ck ((b.intercalate a).length<=140737488355328)<|some (b.intercalate a)
def C5:(((List Nat)×(List (List Nat)))->Option (List (List Nat)))->((List Nat)×(List (List Nat)))->Option (List (List Nat)):=fun L (d,a)=>if 0<(d.length:Int)then bd (YP fu d (10000000000000000000:Nat)) fun(b,e)=>if 0<(b.length:Int)then bd (QQ fu e true) fun f=>ck ((a.length+([f]).length)*16<=140737488355328)<|nm (a++([f])) fun h=>L (b,h)else bd (QQ fu e false) fun g=>ck ((a.length+([g]).length)*16<=140737488355328)<|nm (a++([g])) fun i=>L (b,i)else some a
def aB(e:List Nat):Option (List Nat):=bd (xt fu e) fun f=>bd (zj (C5 fu) fu (f,[])) fun d=>if(d.length:Int)=0 then some [48]else bd (vt fu d) fun a=>bd (Kk fu a []) fun b=>some b
def gD(a:Zr):Option (List Nat):=bd (xr fu a) fun d=>if d<0 then bd (aB fu a.2) fun b=>ck (([45]).length+b.length<=9223372036854775807)<|nm (([45])++b) fun e=>some e else bd (aB fu a.2) fun f=>some f
def VV:Option Bool:=bd (Yi fu [(-1:Int),(-1:Int),(6:Int)]) fun a=>bd (yQ fu a []) fun(b,d,e)=>bd (Yi fu [(1:Int),(0:Int),(0:Int),(0:Int),(1:Int)]) fun f=>bd (vh fu f) fun(g,h)=>if e=0 then bd (gD fu b) fun i=>if i=[49]then bd (aW fu [(-1:Int),(2:Int)]) fun j=>bd (aW fu [(1:Int),(3:Int)]) fun k=>bd (dG fu d [(j,(1:Int)),(k,(1:Int))]) fun l=>if l then if h=0 then some g else some false else some false else some false else some false
def Jw(fu:Nat)(d:Int)(a:List Zr):(Int->Option (Unit⊕Unit))->Int->Option (Unit⊕Unit):=fun L b=>if b<(a.length:Int)then zH b (a.length) fun e=>nm (a.getD e (false,[])) fun f=>if d<(f.2.length:Int)then some (.inr ())else ze (b+1) fun g=>L g else some (.inl ())
def kT(b:Int)(d:Int)(a:List Zr):Option Bool:=if b<(a.length:Int)then some false else bd (zj (Jw fu d a) fu (0:Int)) fun e=>match e with
 | .inl _=>some true
 | .inr _=>some false
def Zk(a:List Zr)(b:List Zr):Option Bool:=bd (u6 fu a b) fun d=>some d
end
end
section
set_option maxRecDepth 100000
section
variable(fu:Nat)
def xZ(g:Int)(a:List ((List Zr)×Int))(h:List Zr):(((List Zr)×Bool×(List Zr)×Int)->Option ((List Zr)×Bool×(List Zr)))->((List Zr)×Bool×(List Zr)×Int)->Option ((List Zr)×Bool×(List Zr)):=fun L (b,d,e,f)=>zH g (a.length) fun i=>nm (((a.getD i ([],0))).2) fun j=>if f<j then bd (xg fu e h) fun k=>ze (f+1) fun l=>L (b,d,k,l)else some (b,d,e)
def ZQ(i:Int)(f:List ((List Zr)×Int))(j:List Zr):(((List Zr)×Bool×(List Zr)×Int)->Option ((List Zr)×Bool×(List Zr)))->((List Zr)×Bool×(List Zr)×Int)->Option ((List Zr)×Bool×(List Zr)):=fun L (a,g,b,h)=>zH i (f.length) fun k=>nm (((f.getD k ([],0))).2) fun l=>if h<l then bd (xg fu b j) fun d=>ze (h+1) fun e=>L (a,g,d,e)else some (a,g,b)
def jm(i:List Zr)(j:Bool):(((List Zr)×Int×(List ((List Zr)×Int)))->Option ((List Zr)⊕Unit))->((List Zr)×Int×(List ((List Zr)×Int)))->Option ((List Zr)⊕Unit):=fun L (e,b,a)=>if b<(a.length:Int)then zH b (a.length) fun k=>nm (((a.getD k ([],0))).1) fun d=>bd (vh fu d) fun(l,m)=>if m=0 then if !l then some (.inr ())else if(d.length:Int)<2 then some (.inr ())else bd (xN fu d) fun o=>bd (Zk fu o d) fun p=>if !p then some (.inr ())else zH b (a.length) fun q=>nm (((a.getD q ([],0))).2) fun r=>if r<1 then some (.inr ())else zH b (a.length) fun s=>nm (((a.getD s ([],0))).2) fun t=>if 11<t then some (.inr ())else if 0<b then ze (b-1) fun u=>zH u (a.length) fun v=>nm (((a.getD v ([],0))).1) fun w=>bd (ks fu w d) fun x=>if !x then some (.inr ())else bd (zj (xZ fu b a d) fu ((i,j,e,(0:Int)))) fun(y,C,f)=>ze (b+1) fun A=>L (f,A,a)else bd (zj (ZQ fu b a d) fu ((i,j,e,(0:Int)))) fun(B,E,g)=>ze (b+1) fun h=>L (g,h,a)else some (.inr ())else some (.inl e)
def qo(a:List Zr)(h:List Int):Option Bool:=bd (VV fu) fun b=>bd (kT fu (11:Int) (2:Int) a) fun i=>if !i then some b else if 20<(h.length:Int)then some b else bd (yQ fu a h) fun(j,k,d)=>if d=0 then bd (zj (jm fu a b) fu (([j],(0:Int),k))) fun l=>match l with
 | .inl e=>if b then bd (zF fu a) fun f=>bd (Zk fu e f) fun m=>some m else some false
 | .inr _=>some false else if b then if d=6 then some true else if d=8 then bd (zF fu a) fun g=>if(g.length:Int)=0 then some true else some false else some false else some false
def HF(fu:Nat)(b:Int):(((List Int)×Int)->Option (List Int))->((List Int)×Int)->Option (List Int):=fun L (f,a)=>ze (a*a) fun s=>ze (0-b) fun t=>nm (max b t) fun u=>if s<=u then ck (a≠0)<|nm (xbZ b a) fun v=>if v=0 then ze (0-a) fun r=>ck ((f.length+([a,r]).length)*8<=140737488355328)<|nm (f++([a,r])) fun h=>bd ((ze (a*a) fun w=>ze (0-b) fun x=>nm (max b x) fun y=>if w=y then some (b,false)else some (b,true):Option (Int×Bool))) fun(g,A)=>if A then ze (0-g) fun i=>nm (max g i) fun j=>ck (a≠0)<|ze (xda j a) fun d=>ze (0-g) fun k=>nm (max g k) fun l=>ze (0-l) fun m=>ck (a≠0)<|ze (xda m a) fun e=>ck ((h.length+([d,e]).length)*8<=140737488355328)<|nm (h++([d,e])) fun B=>ze (a+1) fun o=>L (B,o)else ze (a+1) fun p=>L (h,p)else ze (a+1) fun q=>L (f,q)else some f
def cK(fu:Nat)(k:Int):(((List Int)×Int×(List Int))->Option (((List Int)×(List Int))⊕Unit))->((List Int)×Int×(List Int))->Option (((List Int)×(List Int))⊕Unit):=fun L (d,b,a)=>if k<=b then zH b (d.length) fun l=>nm (d.getD l 0) fun m=>ze (b-k) fun o=>zH o (d.length) fun p=>nm (d.getD p 0) fun q=>ze (m-q) fun e=>zH b (a.length) fun r=>nm ((a.getD r 0)) fun s=>ze (b-1) fun t=>zH t (a.length) fun u=>nm ((a.getD u 0)) fun v=>ze (s-v) fun w=>ck (e≠0)<|nm (xbZ w e) fun x=>if x=0 then zH b (a.length) fun y=>nm ((a.getD y 0)) fun A=>ze (b-1) fun f=>zH f (a.length) fun B=>nm ((a.getD B 0)) fun g=>ze (A-g) fun h=>ck (e≠0)<|ze (xda h e) fun i=>zH b (a.length) fun C=>nm (a.set C i) fun E=>ze (b-1) fun j=>L (d,j,E)else some (.inr ())else some (.inl (d,a))
def MJ(a:List Int):((Int×(List Int))->Option ((List Int)⊕Unit))->(Int×(List Int))->Option ((List Int)⊕Unit):=fun L (b,e)=>if b<(a.length:Int)then ze (((a.length:Int))-1) fun f=>bd (zj (cK fu b) fu (a,f,e)) fun g=>match g with
 | .inl (i,h)=>ze (b+1) fun d=>L (d,h)
 | .inr _=>some (.inr ())else some (.inl e)
def Zt(fu:Nat)(b:Int):(Int->Option (Unit⊕Unit))->Int->Option (Unit⊕Unit):=fun L a=>ze (a*a) fun d=>if d<=b then ck (a≠0)<|nm (xbZ b a) fun e=>if e=0 then some (.inr ())else ze (a+1) fun f=>L f else some (.inl ())
def a8(a:Int):Option Bool:=if a<2 then some false else if 65521<a then some false else bd (zj (Zt fu a) fu (2:Int)) fun b=>match b with
 | .inl _=>some true
 | .inr _=>some false
def k9(a:Int):Option Int:=bd (a8 fu a) fun b=>if !b then some (1:Int)else some (0:Int)
def Vp(fu:Nat)(d:Int)(a:Int):Option Int:=if a<1 then some (0:Int)else ck (a≠0)<|nm (xbZ d a) fun b=>if b<0 then ze (b+a) fun e=>some e else some b
def JD(a:List Int)(f:Int):(((List Int)×Int)->Option (List Int))->((List Int)×Int)->Option (List Int):=fun L (b,d)=>if d<(a.length:Int)then zH d (a.length) fun g=>nm (a.getD g 0) fun h=>bd (Vp fu h f) fun e=>ck ((b.length+([e]).length)*8<=140737488355328)<|nm (b++([e])) fun i=>ze (d+1) fun j=>L (i,j)else some b
def Jy(fu:Nat)(b:List Int):(Int->Option Int)->Int->Option Int:=fun L a=>if 0<a then ze (a-1) fun d=>zH d (b.length) fun e=>nm ((b.getD e 0)) fun f=>if f=0 then ze (a-1) fun g=>L g else some a else some a
def qc(d:List Int)(e:Int):Option (List Int):=bd (zj (JD fu d e) fu (([],(0:Int)))) fun a=>bd (zj (Jy fu a) fu ((a.length:Int))) fun f=>ki f fun b=>ck (b<=a.length)<|nm (a.take b) fun g=>some g
def JE(fu:Nat)(e:Int)(h:List Int)(f:List Int):((Int×Int×(List Int))->Option (Int×(List Int)))->(Int×Int×(List Int))->Option (Int×(List Int)):=fun L (d,a,b)=>if a<(f.length:Int)then ze (e+a) fun i=>ze (e+a) fun j=>zH j (b.length) fun k=>nm ((b.getD k 0)) fun l=>zH e (h.length) fun m=>nm ((h.getD m 0)) fun o=>zH a (f.length) fun p=>nm ((f.getD p 0)) fun q=>ze (o*q) fun r=>ze (l+r) fun s=>ck (d≠0)<|nm (xbZ s d) fun t=>zH i (b.length) fun u=>nm (b.set u t) fun v=>ze (a+1) fun g=>L (d,g,v)else some (d,b)
def JA(g:Int):((Int×(List Int)×(List Int)×(List Int))->Option (List Int))->(Int×(List Int)×(List Int)×(List Int))->Option (List Int):=fun L (a,b,e,f)=>if a<(b.length:Int)then bd (zj (JE fu a b e) fu ((g,(0:Int),f))) fun(i,h)=>ze (a+1) fun d=>L (d,b,e,h)else some f
def VP(h:List Int)(i:List Int)(a:Int):Option (List Int):=bd (qc fu h a) fun e=>bd (qc fu i a) fun f=>ze (((e.length:Int))+((f.length:Int))) fun j=>ki j fun g=>ck (8*g<=281474976710656)<|nm (xaf g 0) fun k=>bd (zj (JA fu a) fu (((0:Int),e,f,k))) fun b=>bd (qc fu b a) fun d=>some d
def UZ(fu:Nat)(a:Int):((Int×Int×Int)->Option Int)->(Int×Int×Int)->Option Int:=fun L (e,b,d)=>if 0<d then ck ((2:Int)≠0)<|nm (xbZ d (2:Int)) fun i=>if i=1 then ze (e*b) fun j=>ck (a≠0)<|nm (xbZ j a) fun k=>ze (b*b) fun l=>ck (a≠0)<|nm (xbZ l a) fun m=>ck ((2:Int)≠0)<|ze (xda d (2:Int)) fun o=>L (k,m,o)else ze (b*b) fun f=>ck (a≠0)<|nm (xbZ f a) fun g=>ck ((2:Int)≠0)<|ze (xda d (2:Int)) fun h=>L (e,g,h)else some e
def JT(d:Int)(b:Int)(a:Int):Option (Int×Int):=bd (k9 fu a) fun e=>if e=0 then if b<0 then some (((0:Int),(1:Int)))else ck (a≠0)<|nm (xbZ (1:Int) a) fun f=>bd (Vp fu d a) fun g=>bd (zj (UZ fu a) fu (f,g,b)) fun h=>some ((h,(0:Int)))else some (((0:Int),(1:Int)))
def XD(b:Int)(a:Int):Option Int:=ze (a-2) fun d=>bd (JT fu b d a) fun(e,f)=>if a=2 then some (1:Int)else some e
def U9(d:List Int)(b:Int):Option ((List Int)×Int):=bd (k9 fu b) fun e=>if e=0 then bd (qc fu d b) fun a=>if(a.length:Int)=0 then some (([],(0:Int)))else ze (((a.length:Int))-1) fun f=>zH f (a.length) fun g=>nm ((a.getD g 0)) fun h=>bd (XD fu h b) fun i=>bd (VP fu a [i] b) fun j=>some ((j,(0:Int)))else some (([],(1:Int)))
end
end
section
set_option maxRecDepth 100000
section
variable(fu:Nat)
theorem Cm:yw ⟨112,[.d ZW],[.own .u 54],fun x=>cW fu x.1,0⟩:=sq fu ⟨[],[],[(2,⟨⟨[(3,.d .i)],[]⟩,⟨[],[(.x 0,⟨[(3,.d .i)],[]⟩)]⟩⟩)],[],[],[]⟩ Tryz.func112 (cN)
theorem Jc:yw ⟨110,[.d zY],[.d zY],fun x=>Zy fu x.1,0⟩:=sq fu vc Tryz.func110 (cC (Cm fu)<|cN)
theorem IZ:yw ⟨55,[.d .i],[.d zY],fun x=>pQ fu x.1,0⟩:=sq fu vc Tryz.func55 (cC (Jc fu)<|cN)
theorem Bt:yw ⟨132,[.d zY],[.d .i],fun x=>dk fu x.1,0⟩:=sq fu vc Tryz.func132 (cC (Jc fu)<|cN)
theorem Bm:yw ⟨64,[.d xa],[.own zY 30],fun x=>cZ fu x.1,0⟩:=sq fu ⟨[],[],[(2,⟨⟨[(3,.d .i)],[]⟩,⟨[],[(.x 0,⟨[(3,.d .i)],[]⟩)]⟩⟩),(6,⟨⟨[(4,.own zY 30),(5,.d .i)],[]⟩,⟨[],[(.x 2,⟨[(4,.own zY 30)],[]⟩)]⟩⟩)],[],[],[]⟩ Tryz.func64 (cC (Bt fu)<|cC (Jc fu)<|cN)
theorem GZ:yw ⟨50,[.d yR],[.own zY 30],fun x=>aW fu x.1,0⟩:=sq fu ⟨[],[],[(3,⟨⟨[(3,.own zY 30),(4,.d .i)],[]⟩,⟨[],[(.x 0,⟨[(3,.own zY 30)],[]⟩)]⟩⟩)],[],[],[]⟩ Tryz.func50 (cC (Bm fu)<|cC (IZ fu)<|cN)
theorem C1:yw ⟨63,[.d ZW,.d ZW],[.d .b],fun x=>Wj fu x.1 x.2.1,0⟩:=sq fu ⟨[],[],[(4,⟨⟨[(5,.d .i)],[]⟩,⟨[],[(.x 0,⟨[],[]⟩),(.r,⟨[],[(4,.kb false)]⟩)]⟩⟩)],[],[],[]⟩ Tryz.func63 (cN)
theorem BC:yw ⟨17,[.d zY,.d zY],[.d .b],fun x=>Wa fu x.1 x.2.1,0⟩:=sq fu vc Tryz.func17 (cC (C1 fu)<|cN)
theorem br:yw ⟨69,[.d xa,.d xa],[.d .b],fun x=>u6 fu x.1 x.2.1,0⟩:=sq fu ⟨[],[],[(4,⟨⟨[(5,.d .i)],[]⟩,⟨[],[(.x 0,⟨[],[]⟩),(.r,⟨[],[(4,.kb false)]⟩)]⟩⟩)],[],[],[]⟩ Tryz.func69 (cC (BC fu)<|cN)
theorem CG:yw ⟨20,[.d (.l (.p xa .i)),.d (.l (.p xa .i))],[.d .b],fun x=>dG fu x.1 x.2.1,0⟩:=sq fu ⟨[],[],[(4,⟨⟨[(5,.d .i)],[]⟩,⟨[],[(.x 0,⟨[],[]⟩),(.r,⟨[],[(4,.kb false)]⟩)]⟩⟩)],[],[],[]⟩ Tryz.func20 (cC (br fu)<|cN)
theorem oC:yw ⟨215,[.d ZW,.d .i],[.d .u],fun x=>Xa fu x.1 x.2.1,0⟩:=sq fu vc Tryz.func215 (cN)
theorem Ew:yw ⟨213,[.d .i,.d .u,.q ZW,.q ZW],[.d .u,.d .u],fun x=>KR fu x.1 x.2.1 x.2.2.1 x.2.2.2.1,0⟩:=sq fu vc Tryz.func213 (cC (oC fu)<|cN)
theorem uf:yw ⟨212,[.d .i,.fn [.i,.u] [.u,.u]],[.own .u 54,.d .u],fun x=>wX fu x.1 (fun z0 z1=>x.2.1 (z0,z1,())),0⟩:=sq fu ⟨[],[],[(4,⟨⟨[(7,.d .u),(13,.d .i),(6,.own .u 54)],[]⟩,⟨[],[(.x 0,⟨[(7,.d .u),(6,.own .u 54)],[]⟩)]⟩⟩)],[],[],[]⟩ Tryz.func212 (cN)
theorem xT:yw ⟨157,[.d ZW],[.d ZW],fun x=>xt fu x.1,0⟩:=sq fu ⟨[],[],[(1,⟨⟨[(0,.d ZW)],[]⟩,⟨[],[(.x 0,⟨[(0,.d ZW)],[]⟩)]⟩⟩)],[],[],[]⟩ Tryz.func157 (cN)
theorem yK:yw ⟨157,[.own .u 54],[.own .u 54],fun x=>yL fu x.1,0⟩:=sq fu ⟨[],[],[(1,⟨⟨[(0,.own .u 54)],[]⟩,⟨[],[(.x 0,⟨[(0,.own .u 54)],[]⟩)]⟩⟩)],[],[],[]⟩ Tryz.func157 (cN)
theorem eY:yw ⟨139,[.d ZW,.d ZW],[.own .u 54],fun x=>kH fu x.1 x.2.1,0⟩:=sq fu vc Tryz.func139 (cC (uf fu)<|cC (Ew fu)<|cC (yK fu)<|cC (xT fu)<|cN)
theorem iY:yw ⟨297,[.d .i],[.d .b],fun x=>uw fu x.1,0⟩:=sq fu vc Tryz.func297 (cN)
theorem cV:yw ⟨216,[.d .i,.d .i],[.d .i],fun x=>jB fu x.1 x.2.1,0⟩:=sq fu vc Tryz.func216 (cC (iY fu)<|cN)
theorem aU:yw ⟨298,[.d .u],[.d .b],fun x=>qZ fu x.1,0⟩:=sq fu vc Tryz.func298 (cN)
theorem JW:yw ⟨217,[.d .u,.d .u],[.d .i],fun x=>vM fu x.1 x.2.1,0⟩:=sq fu vc Tryz.func217 (cC (aU fu)<|cN)
theorem Ad:yw ⟨140,[.d ZW,.d ZW],[.d .i],fun x=>Wy fu x.1 x.2.1,0⟩:=sq fu ⟨[],[],[(5,⟨⟨[(5,.d .i)],[]⟩,⟨[],[(.x 0,⟨[],[]⟩),(.r,⟨[(4,.d .i)],[]⟩)]⟩⟩)],[],[],[]⟩ Tryz.func140 (cC (cV fu)<|cC (JW fu)<|cC (yK fu)<|cC (xT fu)<|cN)
set_option maxRecDepth 100000 in
set_option maxHeartbeats 1000000 in
theorem Xk(l:List Nat)(v0:Value)(hd:l.length<=17592186044416):Fn Tryz.prog 220 [v0].toArray [fV (eS eU) (l) v0] (fun u:Value=>u) (fun u=>[fV (eS eU) (l) u]) (fun _=>True):=by
 refine DB Tryz.func220 rfl rfl fun we Se rest=> ?_;refine PY (fun S w h=>zfp h.1) fun hb=> ?_;refine PY (fun S w h=>TE h.1) fun hc=> ?_;refine Y9 ?_;refine wM ?_;refine tW 1 [(0,v0)] rfl fun rest=> ?_;refine qS ?_;refine Y9 ?_;refine Y9 ?_;refine wM ?_;refine tW 1 [(0,v0),(3,v0)] rfl fun rest=> ?_;refine zb8 rfl rfl (zbI (e:=eU) (xs:=l) Tryz.underlying28 rfl rfl (fun S w h=>h.1)) fun q1 he=> ?_;refine tW 0 [(0,v0),(4,.bool (q1))] rfl fun rest=> ?_;refine qS ?_;refine zfK (q1) rfl (fun ha=> ?_) (fun ha=> ?_)
 ·refine Y9 ?_;refine wM ?_;refine tW 1 [(2,.slice none 0 0)] rfl fun rest=> ?_;refine qS ?_;refine MC ?_;exact zcY (.slice none 0 0:Value) Tryz.results220 rfl trivial (fun S w h=>⟨(cvt (show([])=(l)from by first|rfl|simp_all) SO),trivial⟩)
 ·refine AL ?_;refine Y9 ?_;refine wM ?_;refine TS (e:=eU) rfl rfl Tryz.underlying28 zg3 fun v1=> ?_;refine tW 1 [(5,v1),(6,v0)] rfl fun rest=> ?_;refine Oo (e:=eU) (xs:=[]) (ys:=l) 0 rfl rfl Tryz.underlying28 zg3 rfl (by decide) rfl rfl rfl (fun S w h=>h.1) (by first|omega|(simp only[xcs,xau,xaU,xav,xay,xbQ];omega)|(simp;omega)) (by first|omega|(simp only[xcs,xau,xaU,xav,xay,xbQ];omega)|(simp;omega)) fun v2=> ?_;show TL _ _ _ _ [mO eU 54 v2 ([]++l)] _ _ _ _ _;refine tW 1 [(2,v2)] rfl fun rest=> ?_;refine qS ?_;refine MC ?_;refine Nv (fun w h=>AZ 0 h rfl) ?_;exact zcY v2 Tryz.results220 rfl trivial (fun S w h=>⟨(cvt (show([]++l)=(l)from by first|rfl|simp_all) h.1),trivial⟩)
theorem Xw(a0:List Nat)(va0:Value)(r0:List Nat)(H:xC fu a0=some r0):Fn Tryz.prog 220 [va0].toArray [fV (eS eU) (a0) va0] (fun u:Value=>u) (fun u=>[fV (eS eU) (r0) u]) (fun _=>True):=by
 obtain⟨hk,H⟩:=kv H;obtain rfl:=zfA H;exact Xk a0 va0 hk
theorem Xm:yw ⟨220,[.d ZW],[.d ZW],fun x=>xC fu x.1,0⟩:=zf8 (s:=ZW) (t:=ZW) (by kernel_rfl) fun x r v h=>Xw fu x v r h
theorem aX:yw ⟨144,[.d ZW],[.d ZW],fun x=>uC fu x.1,0⟩:=sq fu vc Tryz.func144 (cC (Xm fu)<|cC (yK fu)<|cC (xT fu)<|cN)
theorem EU:yw ⟨310,[.d .i,.d .u,.q ZW,.q .i],[.d .u,.d .u],fun x=>KP fu x.1 x.2.1 x.2.2.1 x.2.2.2.1,0⟩:=sq fu vc Tryz.func310 (cN)
theorem gA:yw ⟨160,[.d ZW,.d .i],[.own .u 54],fun x=>uW fu x.1 x.2.1,0⟩:=sq fu vc Tryz.func160 (cN)
theorem eD:yw ⟨251,[.d ZW,.d .i],[.own .u 54,.d .i],fun x=>Yn fu x.1 x.2.1,0⟩:=sq fu ⟨[],[],[],[(4,[23])],[],[]⟩ Tryz.func251 (cC (gA fu)<|cC (uf fu)<|cC (yK fu)<|cC (xT fu)<|cC (EU fu)<|cN)
theorem ET:yw ⟨344,[.d .i,.d .u,.q ZW,.q .i],[.d .u,.d .u],fun x=>Kp fu x.1 x.2.1 x.2.2.1 x.2.2.2.1,0⟩:=sq fu vc Tryz.func344 (cC (oC fu)<|cN)
theorem Av:yw ⟨295,[.d ZW,.d .i],[.own .u 54],fun x=>Qz fu x.1 x.2.1,0⟩:=sq fu ⟨[2,3],[],[],[],[],[]⟩ Tryz.func295 (cC (ET fu)<|cC (uf fu)<|cC (yK fu)<|cC (xT fu)<|cN)
set_option maxRecDepth 100000 in
set_option maxHeartbeats 1000000 in
theorem dS(fu:Nat)(a0:Nat)(qa0:QK a0)(r0:Int)(H:xu fu a0=some r0):Fn Tryz.prog 252 [uv a0].toArray [] (fun _:Unit=>iv (r0)) (fun _=>[]) (fun _=>VW r0):=by
 unfold xu at H;refine DB Tryz.func252 rfl rfl fun we Se rest=>Y9<|wM<|ZA 1 [(2,iv 0)] rfl<|qS<|Y9 ?_
 obtain⟨s1,hL,Hc⟩:=py H;refine T_X [(.n,JQ we Se (G:=Nat×Int) (fun(d1,i1)=>(⟨[],[],[(0,uv d1),(2,iv (i1))]⟩:Inv)) (fun(d1,i1)=>(d1,i1)=s1/\QK d1/\VW i1))] ?_ ⟨?_,trivial⟩
 ·replace H:=hL
  refine Y9<|wM<|ZA 1 [(3,uv a0)] rfl<|Ia rfl rfl rfl rfl (fun h1=> ?_) (fun h1=> ?_)
  ·replace H:=zfl h1 H
   refine qS<|Vk rfl<|Y9<|wM<|ZA 1 [(5,uv a0)] rfl ?_
   obtain⟨m1,hf,H⟩:=xp H
   refine kP rfl rfl (o7 (c:=(m1:Int)) rfl rfl (xdb _) (Nu hf (dh (a:=a0))))<|ZA 1 [(0,uv m1)] rfl<|qS<|wM<|ZA 1 [(2,iv 32)] rfl<|qS ?_
   exact Mx (m1,32) (xfs (xds H) (xfs (nT qa0 hf) (show VW (32)by decide))) rfl (fun w h=>St.weak h (fun S w h=>trivial))
  replace H:=zet h1 H
  refine qS<|XZ rfl<|AL ?_
  exact Mx (a0,0) (xfs (xds H) (xfs qa0 (show VW (0)by decide))) rfl (fun w h=>St.weak h (fun S w h=>trivial))
 refine Tf ?_;rintro⟨d1,i1⟩ ⟨hs,hg,hm⟩ rest;subst hs;replace H:=Hc;clear hL;refine zd9 rfl<|Y9 ?_
 obtain⟨s2,hL,Hc⟩:=py H;refine T_X [(.n,JQ we Se (G:=Nat×Int) (fun(d2,i2)=>(⟨[],[],[(0,uv d2),(2,iv (i2))]⟩:Inv)) (fun(d2,i2)=>(d2,i2)=s2/\QK d2/\VW i2))] ?_ ⟨?_,trivial⟩
 ·replace H:=hL
  refine Y9<|wM<|ZA 1 [(7,uv d1)] rfl<|Ia rfl rfl rfl rfl (fun h2=> ?_) (fun h2=> ?_)
  ·replace H:=zfl h2 H
   refine qS<|Vk rfl<|Y9<|wM<|ZA 1 [(9,uv d1)] rfl ?_
   obtain⟨m2,hi,H⟩:=xp H
   refine kP rfl rfl (o7 (c:=(m2:Int)) rfl rfl (xdb _) (Nu hi (dh (a:=d1))))<|ZA 1 [(0,uv m2)] rfl<|qS<|wM<|ZA 1 [(11,iv (i1))] rfl ?_
   obtain⟨x1,hn,ha,H⟩:=WJ H
   refine kP rfl rfl (nh (c:=x1) rfl rfl (S4 hn ha))<|ZA 1 [(2,iv (x1))] rfl<|qS ?_
   exact Mx (m2,x1) (xfs (xds H) (xfs (nT hg hi) ha)) rfl (fun w h=>St.weak h (fun S w h=>trivial))
  replace H:=zet h2 H
  refine qS<|XZ rfl<|AL ?_
  exact Mx (d1,i1) (xfs (xds H) (xfs hg hm)) rfl (fun w h=>St.weak h (fun S w h=>trivial))
 refine Tf ?_;rintro⟨d2,i2⟩ ⟨hs,ht,hu⟩ rest;subst hs;replace H:=Hc;clear hL;refine zd9 rfl<|Y9<|Y9<|wM<|ZA 1 [(13,uv d2)] rfl<|Ia rfl rfl rfl rfl (fun h3=> ?_) (fun h3=> ?_)
 ·replace H:=zfl h3 H
  refine qS<|Vk rfl<|Y9<|wM<|ZA 1 [(15,uv d2)] rfl ?_
  obtain⟨m3,ho,H⟩:=xp H
  refine kP rfl rfl (o7 (c:=(m3:Int)) rfl rfl (xdb _) (Nu ho (dh (a:=d2))))<|ZA 1 [(0,uv m3)] rfl<|qS<|wM<|ZA 1 [(17,iv (i2))] rfl ?_
  obtain⟨x2,hp,hj,H⟩:=WJ H
  refine kP rfl rfl (nh (c:=x2) rfl rfl (S4 hp hj))<|ZA 1 [(2,iv (x2))] rfl<|qS<|Y9<|wM<|ZA 2 [(20,uv m3),(19,iv (x2))] rfl ?_
  obtain⟨m4,hd,H⟩:=xp H
  refine kP rfl rfl (Xe (c:=(m4:Int)) Tryz.underlying54 Tryz.underlying5 rfl (a7 hd (wu8 _))) ?_
  obtain⟨m5,hk,H⟩:=xp H
  refine kP rfl rfl (PE (z:=m5) Tryz.underlying9 rfl (by kernel_rfl) rfl (BM hd) hk)<|kP rfl rfl (Xe (c:=(m5:Int)) Tryz.underlying5 Tryz.underlying3 rfl (w64 (b_r (tF (BM hd) hk)))) ?_
  obtain⟨x3,hq,hb,H⟩:=WJ H
  refine kP rfl rfl (nh (c:=x3) rfl rfl (S4 hq hb))<|ZA 1 [(2,iv (x3))] rfl<|qS<|MC ?_
  obtain rfl:=zfA H
  exact zcY () Tryz.results252 rfl hb (fun S w h=>trivial)
 replace H:=zet h3 H;refine qS<|XZ rfl<|AL<|Y9<|wM<|ZA 2 [(20,uv d2),(19,iv (i2))] rfl ?_
 obtain⟨m6,he,H⟩:=xp H;refine kP rfl rfl (Xe (c:=(m6:Int)) Tryz.underlying54 Tryz.underlying5 rfl (a7 he (wu8 _))) ?_;obtain⟨m7,hl,H⟩:=xp H;refine kP rfl rfl (PE (z:=m7) Tryz.underlying9 rfl (by kernel_rfl) rfl (BM he) hl)<|kP rfl rfl (Xe (c:=(m7:Int)) Tryz.underlying5 Tryz.underlying3 rfl (w64 (b_r (tF (BM he) hl)))) ?_
 obtain⟨x4,hr,hc,H⟩:=WJ H;refine kP rfl rfl (nh (c:=x4) rfl rfl (S4 hr hc))<|ZA 1 [(2,iv (x4))] rfl<|qS<|MC ?_
 obtain rfl:=zfA H;exact zcY () Tryz.results252 rfl hc (fun S w h=>trivial)
theorem Zz:yw ⟨252,[.d .u],[.d .i],fun x=>xu fu x.1,0⟩:=zeD (by kernel_rfl) fun x r hx h=>dS fu x hx r h
theorem jI:yw ⟨293,[.d .u],[.d .i],fun x=>xc fu x.1,0⟩:=sq fu vc Tryz.func293 (cC (Zz fu)<|cN)
theorem VA:yw ⟨227,[.d .u,.d .u,.d .u],[.d .u,.d .u],fun x=>vQ fu x.1 x.2.1 x.2.2.1,0⟩:=sq fu ⟨[],[],[(17,⟨⟨[(15,.d .u),(16,.d .u)],[]⟩,⟨[],[(.x 0,⟨[(15,.d .u)],[]⟩)]⟩⟩),(24,⟨⟨[(16,.d .u),(18,.d .u)],[]⟩,⟨[],[(.x 2,⟨[(18,.d .u)],[]⟩)]⟩⟩)],[],[],[]⟩ Tryz.func227 (cC (jI fu)<|cN)
theorem VF:yw ⟨302,[.d .u,.d .u],[.d .u,.d .u],fun x=>vN fu x.1 x.2.1,0⟩:=sq fu vc Tryz.func302 (cN)
theorem DE:yw ⟨294,[.d .u,.d .u,.d .u,.d .u,.d .u],[.d .u],fun x=>Vz fu x.1 x.2.1 x.2.2.1 x.2.2.2.1 x.2.2.2.2.1,0⟩:=sq fu ⟨[],[],[(4,⟨⟨[(11,.d .u),(12,.d .u)],[]⟩,⟨[],[(.r,⟨[(10,.d .u)],[]⟩)]⟩⟩)],[],[],[]⟩ Tryz.func294 (cC (VA fu)<|cC (VF fu)<|cN)
theorem Dy:yw ⟨218,[.d .i,.d .u,.q ZW,.q ZW],[.d .u,.d .u],fun x=>JR fu x.1 x.2.1 x.2.2.1 x.2.2.2.1,0⟩:=sq fu vc Tryz.func218 (cC (oC fu)<|cN)
theorem eo:yw ⟨141,[.d ZW,.d ZW],[.own .u 54,.d .i],fun x=>Wz fu x.1 x.2.1,0⟩:=sq fu vc Tryz.func141 (cC (Dy fu)<|cC (uf fu)<|cC (yK fu)<|cC (xT fu)<|cN)
theorem pN:yw ⟨159,[.d ZW,.d ZW],[.own .u 54],fun x=>Yb fu x.1 x.2.1,0⟩:=sq fu vc Tryz.func159 (cC (eo fu)<|cN)
theorem GN:yw ⟨301,[.d .i,.d .u,.q ZW,.q .u],[.d .u,.d .u],fun x=>Kh fu x.1 x.2.1 x.2.2.1 x.2.2.2.1,0⟩:=sq fu vc Tryz.func301 (cC (VF fu)<|cN)
theorem tS:yw ⟨225,[.d ZW,.d .u],[.own .u 54],fun x=>WA fu x.1 x.2.1,0⟩:=sq fu vc Tryz.func225 (cC (uf fu)<|cC (GN fu)<|cN)
theorem gG:yw ⟨164,[.d ZW,.d .u],[.own .u 54,.d .u],fun x=>YP fu x.1 x.2.1,0⟩:=sq fu ⟨[],[],[(3,⟨⟨[(7,.d .u),(8,.d .i),(6,.own .u 54)],[]⟩,⟨[],[(.x 0,⟨[(7,.d .u),(6,.own .u 54)],[]⟩)]⟩⟩)],[],[],[]⟩ Tryz.func164 (cC (VA fu)<|cC (yK fu)<|cC (xT fu)<|cN)
theorem tE:yw ⟨203,[.d ZW,.d ZW],[.own .u 54,.d ZW,.d .i],fun x=>Qe fu x.1 x.2.1,0⟩:=sq fu ⟨[],[(196612,⟨[],[(.n,⟨[(23,.d .b)],[]⟩)]⟩),(327686,⟨[],[(.n,⟨[(27,.d .b)],[]⟩)]⟩)],[(16,⟨⟨[(10,.d ZW),(16,.d .i),(12,.own .u 54),(15,.own .u 54)],[]⟩,⟨[],[(.x 1,⟨[(12,.own .u 54),(15,.own .u 54)],[]⟩)]⟩⟩),(20,⟨⟨[(9,.d .i),(14,.d .i),(17,.d .u),(18,.d ZW)],[]⟩,⟨[12,15],[(.x 3,⟨[(9,.d .i),(14,.d .i),(17,.d .u),(18,.d ZW)],[]⟩)]⟩⟩)],[(23,[149])],[129],[]⟩ Tryz.func203 (cC (tS fu)<|cC (gG fu)<|cC (jI fu)<|cC (DE fu)<|cC (Av fu)<|cC (Ad fu)<|cC (aX fu)<|cC (eD fu)<|cC (yK fu)<|cC (xT fu)<|cC (pN fu)<|cN)
theorem vI:yw ⟨81,[.d .b,.d ZW],[.d zY],fun x=>yT fu x.1 x.2.1,0⟩:=sq fu vc Tryz.func81 (cC (aX fu)<|cN)
theorem az:yw ⟨137,[.d zY,.d zY],[.d zY,.d zY,.d .i],fun x=>Yh fu x.1 x.2.1,0⟩:=sq fu ⟨[],[(327688,⟨[4,5],[(.n,⟨[(7,.own .u 54),(8,.d ZW)],[]⟩)]⟩)],[],[],[],[]⟩ Tryz.func137 (cC (vI fu)<|cC (tE fu)<|cC (eY fu)<|cC (eo fu)<|cN)
theorem YS:yw ⟨73,[.d zY],[.d zY],fun x=>vR fu x.1,0⟩:=sq fu vc Tryz.func73 (cC (vI fu)<|cN)
theorem vC:yw ⟨70,[.d zY],[.d .i],fun x=>xr fu x.1,0⟩:=sq fu ⟨[1],[],[],[],[],[]⟩ Tryz.func70 (cC (YS fu)<|cN)
theorem XW:yw ⟨75,[.d zY,.d zY],[.d zY,.d .i],fun x=>qP fu x.1 x.2.1,0⟩:=sq fu ⟨[],[(196612,⟨[4,6,7],[(.n,⟨[(16,.d .b)],[]⟩)]⟩)],[],[],[],[]⟩ Tryz.func75 (cC (az fu)<|cC (vC fu)<|cN)
theorem B9:yw ⟨158,[.d ZW,.d ZW],[.own .u 54],fun x=>XV fu x.1 x.2.1,0⟩:=sq fu ⟨[],[(262149,⟨[5],[(.n,⟨[(0,.d ZW),(18,.d ZW),(19,.d .i),(21,.d .b)],[]⟩)]⟩),(524297,⟨[5,27],[(.n,⟨[(0,.d ZW),(6,.d .i),(18,.d ZW),(19,.d .i),(20,.d .i),(28,.d .i),(30,.d .b)],[]⟩)]⟩)],[(3,⟨⟨[(20,.d .i),(5,.own .u 54)],[]⟩,⟨[],[(.x 0,⟨[(5,.own .u 54)],[]⟩)]⟩⟩),(7,⟨⟨[(8,.d .u),(29,.d .i),(5,.own .u 54),(27,.own .u 54)],[]⟩,⟨[],[(.x 2,⟨[(5,.own .u 54)],[]⟩)]⟩⟩)],[],[],[]⟩ Tryz.func158 (cC (tS fu)<|cC (yK fu)<|cC (xT fu)<|cN)
def N4:Vb:=⟨102,[.d ZW,.d ZW],[.own .u 54],fun x=>Wx fu x.1 x.2.1,0⟩
theorem sP: ∀fu:Nat,yw (N4 fu)
 |0=>sg0 (by kernel_rfl) fun _=>rfl
 |fu+1=>sq fu vc Tryz.func102 (cC (gA fu)<|cC (sP fu)<|cC (eY fu)<|cC (yK fu)<|cC (xT fu)<|cC (B9 fu)<|cC (pN fu)<|cN)
theorem xo:yw ⟨78,[.d zY,.d zY],[.d zY],fun x=>zO fu x.1 x.2.1,0⟩:=sq fu vc Tryz.func78 (cC (vI fu)<|cC (sP fu)<|cN)
theorem uE:yw ⟨77,[.d zY,.d zY],[.d zY],fun x=>vi fu x.1 x.2.1,0⟩:=sq fu ⟨[2,3],[(262150,⟨[4],[(.n,⟨[(2,.var zY 30),(3,.var zY 30)],[]⟩)]⟩)],[],[],[],[]⟩ Tryz.func77 (cC (vI fu)<|cC (eY fu)<|cC (Ad fu)<|cC (eo fu)<|cN)
theorem ah:yw ⟨131,[.d zY],[.d zY],fun x=>uA fu x.1,0⟩:=sq fu vc Tryz.func131 (cC (vI fu)<|cN)
theorem W0:yw ⟨138,[.d zY,.d zY],[.d zY],fun x=>vV fu x.1 x.2.1,0⟩:=sq fu vc Tryz.func138 (cC (ah fu)<|cC (uE fu)<|cN)
theorem ot:yw ⟨72,[.d .i,.d zY],[.d zY],fun x=>WV fu x.1 x.2.1,0⟩:=sq fu vc Tryz.func72 (cC (YS fu)<|cN)
theorem y3:yw ⟨71,[.d xa,.fn [.i,zY] [zY]],[.own zY 30],fun x=>zB fu x.1 (fun z0 z1=>x.2.1 (z0,z1,())),0⟩:=sq fu ⟨[],[(262149,⟨[5],[(.n,⟨[(11,.d xa),(12,.d .i),(14,.d .b)],[]⟩)]⟩)],[(3,⟨⟨[(13,.d .i),(5,.own zY 30)],[]⟩,⟨[],[(.x 0,⟨[(5,.own zY 30)],[]⟩)]⟩⟩)],[],[],[]⟩ Tryz.func71 (cN)
theorem yJ:yw ⟨21,[.d xa],[.own zY 30],fun x=>zF fu x.1,0⟩:=sq fu ⟨[],[],[(1,⟨⟨[(0,.d xa)],[]⟩,⟨[],[(.x 0,⟨[(0,.d xa)],[]⟩)]⟩⟩)],[],[],[]⟩ Tryz.func21 (cC (ot fu)<|cC (vC fu)<|cC (y3 fu)<|cN)
def JZ:Vb:=⟨129,[.d xa,.d xa],[.own zY 30,.d .i],fun x=>wB fu x.1 x.2.1,0⟩
theorem VK:yw (JZ fu):=sq fu ⟨[],[(327687,⟨[1,6],[(.n,⟨[],[]⟩),(.r,⟨[],[(4,.nil),(5,.ci 4)]⟩)]⟩),(1048593,⟨[1,6,7,9],[(.n,⟨[(8,.d .i),(71,.d .i),(73,.d .b)],[]⟩)]⟩)],[(8,⟨⟨[(8,.d .i),(1,.own zY 30),(6,.own zY 30),(7,.own zY 30)],[]⟩,⟨[],[(.x 0,⟨[(6,.own zY 30),(7,.own zY 30)],[]⟩),(.r,⟨[(5,.d .i)],[(4,.nil)]⟩)]⟩⟩),(15,⟨⟨[(72,.d .i),(1,.own zY 30),(6,.own zY 30),(7,.own zY 30),(9,.var zY 30)],[(70,.al 1)]⟩,⟨[],[(.x 2,⟨[(1,.own zY 30),(6,.own zY 30),(7,.own zY 30)],[]⟩)]⟩⟩)],[(10,[])],[],[]⟩ Tryz.func129 (cC (W0 fu)<|cC (XW fu)<|cC (yJ fu)<|cC (xo fu)<|cN)
theorem CR:yw ⟨61,[.d xa,.d xa],[.d .i],fun x=>u7 fu x.1 x.2.1,0⟩:=sq fu ⟨[],[],[(3,⟨⟨[(5,.d .i),(6,.own zY 30),(7,.d .i)],[]⟩,⟨[],[(.x 0,⟨[(5,.d .i)],[]⟩)]⟩⟩)],[],[],[]⟩ Tryz.func61 (cC (VK fu)<|cN)
theorem WC:yw ⟨188,[.d .i],[.d .b],fun x=>j9 fu x.1,0⟩:=sq fu ⟨[],[(131075,⟨[],[(.n,⟨[(3,.d .b)],[]⟩)]⟩)],[(3,⟨⟨[(3,.d .b),(4,.d .i)],[]⟩,⟨[],[(.x 0,⟨[(3,.d .b)],[]⟩)]⟩⟩)],[],[],[]⟩ Tryz.func188 (cN)
theorem xj:yw ⟨28,[.d .i],[.d zY],fun x=>zZ fu x.1,0⟩:=sq fu vc Tryz.func28 (cC (vI fu)<|cN)
theorem Q7:yw ⟨183,[.d ZW],[.d .i],fun x=>jX fu x.1,0⟩:=sq fu vc Tryz.func183 (cC (Zz fu)<|cC (yK fu)<|cC (xT fu)<|cN)
theorem Hh:yw ⟨189,[.d zY,.d .i],[.d zY,.d .i],fun x=>QL fu x.1 x.2.1,0⟩:=sq fu ⟨[],[(131075,⟨[4],[(.n,⟨[(8,.d .b)],[]⟩)]⟩)],[(7,⟨⟨[(1,.d .i),(7,.var zY 30),(6,.var zY 30)],[]⟩,⟨[4],[(.x 1,⟨[(6,.var zY 30)],[]⟩)]⟩⟩)],[],[],[]⟩ Tryz.func189 (cC (YS fu)<|cC (xj fu)<|cC (xo fu)<|cC (Q7 fu)<|cN)
theorem WQ:yw ⟨123,[.d .i,.d .i],[.d zY,.d .i],fun x=>vn fu x.1 x.2.1,0⟩:=sq fu vc Tryz.func123 (cC (WC fu)<|cC (xj fu)<|cC (Hh fu)<|cN)
theorem J8:yw ⟨336,[.d xa,.d zY,.fn [zY,zY] [zY,.i]],[.own zY 30,.d .i],fun x=>vm fu x.1 x.2.1 (fun z0 z1=>x.2.2.1 (z0,z1,())),0⟩:=sq fu ⟨[],[(393223,⟨[8],[(.n,⟨[(4,.q zY),(17,.d xa),(18,.d .i),(20,.d .b)],[]⟩)]⟩)],[(5,⟨⟨[(19,.d .i),(8,.own zY 30)],[]⟩,⟨[],[(.x 0,⟨[(8,.own zY 30)],[]⟩)]⟩⟩)],[],[],[]⟩ Tryz.func336 (cC (yJ fu)<|cC (vC fu)<|cN)
theorem X2:yw ⟨313,[.d zY,.d zY],[.d zY,.d .i],fun x=>vF fu x.1 x.2.1,0⟩:=sq fu vc Tryz.func313 (cC (az fu)<|cC (vC fu)<|cN)
theorem b8:yw ⟨279,[.d xa,.d zY],[.own zY 30,.d .i],fun x=>Za fu x.1 x.2.1,0⟩:=sq fu vc Tryz.func279 (cC (J8 fu)<|cC (X2 fu)<|cN)
theorem We:yw ⟨197,[.d xa,.d zY],[.own zY 30],fun x=>yV fu x.1 x.2.1,0⟩:=sq fu vc Tryz.func197 (cC (b8 fu)<|cN)
theorem vT:yw ⟨268,[.d .i],[.d .i],fun x=>wc fu x.1,0⟩:=sq fu vc Tryz.func268 (cC (WC fu)<|cN)
theorem Kt:yw ⟨317,[.d .i,.d .i],[.d .i],fun x=>jH fu x.1 x.2.1,0⟩:=sq fu vc Tryz.func317 (cN)
def mU:Vb:=⟨329,[.d .i,.d .i],[.d .i,.d .i],fun x=>Y5 fu x.1 x.2.1,0⟩
theorem nQ:yw (mU fu):=sq fu ⟨[],[],[(5,⟨⟨[(7,.d .i),(8,.d .i),(9,.d .i),(10,.d .i)],[]⟩,⟨[],[(.x 0,⟨[(10,.d .i)],[]⟩),(.r,⟨[],[(4,.ci 0),(5,.ci 3)]⟩)]⟩⟩)],[],[],[]⟩ Tryz.func329 (cC (vT fu)<|cC (Kt fu)<|cN)
theorem xy:yw ⟨269,[.d yR,.d .i],[.own .i 3],fun x=>zS fu x.1 x.2.1,0⟩:=sq fu ⟨[],[],[(3,⟨⟨[(13,.d .i),(5,.own .i 3)],[]⟩,⟨[],[(.x 0,⟨[(5,.own .i 3)],[]⟩)]⟩⟩),(7,⟨⟨[(5,.own .i 3)],[]⟩,⟨[],[(.x 2,⟨[(5,.own .i 3)],[]⟩)]⟩⟩)],[],[],[]⟩ Tryz.func269 (cC (Kt fu)<|cN)
theorem Xo:yw ⟨270,[.d yR,.d yR,.d .i],[.own .i 3,.own .i 3],fun x=>xi fu x.1 x.2.1 x.2.2.1,0⟩:=sq fu ⟨[],[(851982,⟨[8,12],[(.n,⟨[(9,.d .i),(13,.d .i),(61,.d yR),(62,.d .i),(64,.d .b)],[]⟩)]⟩)],[(7,⟨⟨[(9,.d .i),(8,.own .i 3),(12,.own .i 3)],[]⟩,⟨[],[(.x 0,⟨[(8,.own .i 3),(12,.own .i 3)],[]⟩)]⟩⟩),(12,⟨⟨[(1,.d yR),(2,.d .i),(10,.d .i),(63,.d .i),(8,.own .i 3),(12,.own .i 3)],[]⟩,⟨[],[(.x 2,⟨[(1,.d yR),(2,.d .i),(10,.d .i),(8,.own .i 3),(12,.own .i 3)],[]⟩)]⟩⟩)],[],[],[]⟩ Tryz.func270 (cC (nQ fu)<|cC (xy fu)<|cN)
theorem ui:yw ⟨330,[.d yR,.d yR,.d .i],[.own .i 3],fun x=>xR fu x.1 x.2.1 x.2.2.1,0⟩:=sq fu ⟨[],[(262149,⟨[7],[(.n,⟨[(1,.d yR),(2,.d .i),(18,.d yR),(19,.d .i),(21,.d .b)],[]⟩)]⟩),(458760,⟨[7],[(.n,⟨[(1,.d yR),(2,.d .i),(8,.d .i),(9,.d .i),(18,.d yR),(19,.d .i),(20,.d .i),(25,.d yR),(26,.d .i),(28,.d .b)],[]⟩)]⟩)],[(3,⟨⟨[(20,.d .i),(7,.own .i 3)],[]⟩,⟨[],[(.x 0,⟨[(7,.own .i 3)],[]⟩)]⟩⟩),(6,⟨⟨[(27,.d .i),(7,.own .i 3)],[]⟩,⟨[],[(.x 2,⟨[(7,.own .i 3)],[]⟩)]⟩⟩)],[],[],[]⟩ Tryz.func330 (cC (xy fu)<|cN)
theorem Kd:yw ⟨371,[.d yR,.d yR,.d .i,.d .i],[.own .i 3],fun x=>uJ fu x.1 x.2.1 x.2.2.1 x.2.2.2.1,0⟩:=sq fu ⟨[],[(327686,⟨[9],[(.n,⟨[(2,.d .i),(3,.d .i),(21,.d yR),(22,.d .i),(24,.d .b)],[]⟩)]⟩)],[(4,⟨⟨[(23,.d .i),(9,.own .i 3)],[]⟩,⟨[],[(.x 0,⟨[(9,.own .i 3)],[]⟩)]⟩⟩)],[],[],[]⟩ Tryz.func371 (cC (xy fu)<|cN)
theorem Bj:yw ⟨333,[.d (.a 3 yR),.d (.a 3 yR),.d .i],[.d (.a 3 yR)],fun x=>Zm fu x.1 x.2.1 x.2.2.1,0⟩:=sq fu ⟨[3],[(262149,⟨[3,6],[(.n,⟨[(2,.d .i),(4,.q (.a 3 yR)),(20,.d .b)],[]⟩)]⟩)],[(3,⟨⟨[(7,.d yR),(19,.d .i),(3,.var (.a 3 yR) 286),(6,.var (.a 3 yR) 286)],[]⟩,⟨[8],[(.x 0,⟨[(3,.var (.a 3 yR) 286),(6,.var (.a 3 yR) 286)],[]⟩)]⟩⟩)],[],[],[]⟩ Tryz.func333 (cC (ui fu)<|cC (Kd fu)<|cC (Xo fu)<|cN)
theorem KF:yw ⟨334,[.d yR,.d .i,.d .i],[.own .i 3],fun x=>vk fu x.1 x.2.1 x.2.2.1,0⟩:=sq fu vc Tryz.func334 (cC (nQ fu)<|cC (ui fu)<|cN)
theorem J3:yw ⟨277,[.d yR,.d yR,.d .i],[.d yR,.d yR,.d yR,.d .i],fun x=>ke fu x.1 x.2.1 x.2.2.1,0⟩:=sq fu ⟨[],[(589834,⟨[11],[(.n,⟨[(44,.d .b)],[]⟩)]⟩)],[(5,⟨⟨[(11,.var (.a 3 yR) 286),(12,.var (.a 3 yR) 286)],[]⟩,⟨[],[(.x 0,⟨[(11,.var (.a 3 yR) 286)],[]⟩)]⟩⟩),(11,⟨⟨[(51,.d .i),(11,.var (.a 3 yR) 286)],[]⟩,⟨[],[(.x 2,⟨[(11,.var (.a 3 yR) 286)],[]⟩)]⟩⟩)],[],[],[]⟩ Tryz.func277 (cC (Bj fu)<|cC (vT fu)<|cC (xy fu)<|cC (KF fu)<|cN)
theorem Kj:yw ⟨272,[.d yR,.d yR,.d .i],[.d yR,.d .i],fun x=>qI fu x.1 x.2.1 x.2.2.1,0⟩:=sq fu vc Tryz.func272 (cC (J3 fu)<|cN)
theorem VJ:yw ⟨273,[.d yR,.d yR,.d .i],[.own .i 3,.d .i],fun x=>qM fu x.1 x.2.1 x.2.2.1,0⟩:=sq fu vc Tryz.func273 (cC (ui fu)<|cC (vT fu)<|cC (xy fu)<|cN)
theorem gM:yw ⟨331,[.d yR,.d yR,.d .i],[.own .i 3,.d .i],fun x=>Xb fu x.1 x.2.1 x.2.2.1,0⟩:=sq fu vc Tryz.func331 (cC (Kd fu)<|cC (vT fu)<|cC (xy fu)<|cN)
theorem nV:yw ⟨275,[.d yR,.d yR,.d .i],[.d .b],fun x=>ZF fu x.1 x.2.1 x.2.2.1,0⟩:=sq fu vc Tryz.func275 (cC (gM fu)<|cN)
theorem o9:yw ⟨271,[.d yR,.d .i],[.d .b],fun x=>Zj fu x.1 x.2.1,0⟩:=sq fu ⟨[],[],[(2,⟨⟨[(9,.d .i)],[]⟩,⟨[],[(.x 0,⟨[],[]⟩),(.r,⟨[],[(4,.kb false)]⟩)]⟩⟩)],[],[],[]⟩ Tryz.func271 (cN)
theorem Qv:yw ⟨274,[.d (.l yR),.d .i],[.own .i 3],fun x=>vd fu x.1 x.2.1,0⟩:=sq fu ⟨[],[],[(3,⟨⟨[(5,.own .i 3),(11,.d .i)],[]⟩,⟨[],[(.x 0,⟨[(5,.own .i 3)],[]⟩)]⟩⟩)],[],[],[]⟩ Tryz.func274 (cC (VJ fu)<|cN)
theorem Df:yw ⟨314,[.d zY],[.d .i,.d .b],fun x=>X4 fu x.1,0⟩:=sq fu ⟨[1],[(196612,⟨[1],[(.n,⟨[(6,.d .b)],[]⟩)]⟩),(327686,⟨[1],[(.n,⟨[(11,.d .b)],[]⟩)]⟩),(458760,⟨[1],[(.n,⟨[(16,.d .b)],[]⟩)]⟩)],[],[],[],[]⟩ Tryz.func314 (cC (YS fu)<|cN)
theorem EJ:yw ⟨256,[.d zY,.d .i],[.d .i,.d .i],fun x=>VD fu x.1 x.2.1,0⟩:=sq fu ⟨[],[],[],[(1,[])],[],[]⟩ Tryz.func256 (cC (X2 fu)<|cC (Df fu)<|cC (xj fu)<|cN)
theorem sM:yw ⟨255,[.d .i,.d zY,.q .i],[.d .i],fun x=>YJ fu x.1 x.2.1 x.2.2.1,0⟩:=sq fu vc Tryz.func255 (cC (EJ fu)<|cN)
theorem VY:yw ⟨254,[.d xa,.fn [.i,zY] [.i]],[.own .i 3],fun x=>vY fu x.1 (fun z0 z1=>x.2.1 (z0,z1,())),0⟩:=sq fu ⟨[],[(262149,⟨[5],[(.n,⟨[(11,.d xa),(12,.d .i),(14,.d .b)],[]⟩)]⟩)],[(3,⟨⟨[(13,.d .i),(5,.own .i 3)],[]⟩,⟨[],[(.x 0,⟨[(5,.own .i 3)],[]⟩)]⟩⟩)],[],[],[]⟩ Tryz.func254 (cN)
theorem YQ:yw ⟨186,[.d xa,.d .i],[.own .i 3,.d .i],fun x=>jW fu x.1 x.2.1,0⟩:=sq fu ⟨[],[],[(4,⟨⟨[(6,.own .i 3)],[]⟩,⟨[],[(.x 0,⟨[(6,.own .i 3)],[]⟩)]⟩⟩)],[],[],[]⟩ Tryz.func186 (cC (VY fu)<|cC (sM fu)<|cN)
theorem pW:yw ⟨195,[.d xa,.d (.l yR),.d .i],[.d .b],fun x=>wA fu x.1 x.2.1 x.2.2.1,0⟩:=sq fu ⟨[],[(393223,⟨[7],[(.n,⟨[(0,.d xa),(1,.d (.l yR)),(2,.d .i),(40,.d (.l yR)),(41,.d .i),(43,.d .b)],[]⟩)]⟩)],[(5,⟨⟨[(42,.d .i),(7,.own .i 3)],[]⟩,⟨[],[(.x 0,⟨[(7,.own .i 3)],[]⟩),(.r,⟨[],[(6,.kb false)]⟩)]⟩⟩),(10,⟨⟨[(62,.d .i)],[]⟩,⟨[7],[(.x 2,⟨[],[]⟩),(.r,⟨[],[(6,.kb false)]⟩)]⟩⟩)],[],[],[]⟩ Tryz.func195 (cC (o9 fu)<|cC (Kj fu)<|cC (VJ fu)<|cC (Qv fu)<|cC (nV fu)<|cC (YQ fu)<|cN)
theorem fS:yw ⟨335,[.d xa,.d xa,.d zY],[.d xa,.own zY 30],fun x=>qt fu x.1 x.2.1 x.2.2.1,0⟩:=sq fu ⟨[],[(589834,⟨[8,9],[(.n,⟨[(10,.d .i),(47,.d xa),(48,.d .i),(50,.d .b)],[]⟩)]⟩)],[(4,⟨⟨[(10,.d .i),(8,.own zY 30),(9,.own zY 30)],[]⟩,⟨[],[(.x 0,⟨[(8,.own zY 30),(9,.own zY 30)],[]⟩)]⟩⟩),(8,⟨⟨[(1,.d xa),(5,.q zY),(49,.d .i),(8,.own zY 30),(9,.own zY 30)],[]⟩,⟨[],[(.x 2,⟨[(1,.d xa),(5,.q zY),(8,.own zY 30),(9,.own zY 30)],[]⟩)]⟩⟩)],[(6,[])],[],[]⟩ Tryz.func335 (cC (X2 fu)<|cC (W0 fu)<|cC (We fu)<|cC (xo fu)<|cN)
theorem rZ:yw ⟨348,[.d .i,.d zY,.q xa],[.d zY],fun x=>ji fu x.1 x.2.1 x.2.2.1,0⟩:=sq fu vc Tryz.func348 (cC (uE fu)<|cN)
theorem gF:yw ⟨309,[.d xa,.d xa],[.own zY 30],fun x=>wY fu x.1 x.2.1,0⟩:=sq fu ⟨[3],[],[],[],[],[]⟩ Tryz.func309 (cC (rZ fu)<|cC (yJ fu)<|cC (y3 fu)<|cN)
theorem Kl:yw ⟨25,[.d xa,.d xa],[.own zY 30],fun x=>xg fu x.1 x.2.1,0⟩:=sq fu ⟨[],[(262149,⟨[5],[(.n,⟨[(1,.d xa),(16,.d xa),(17,.d .i),(19,.d .b)],[]⟩)]⟩),(458760,⟨[5,7],[(.n,⟨[(1,.d xa),(6,.d .i),(16,.d xa),(17,.d .i),(18,.d .i),(23,.d xa),(24,.d .i),(26,.d .b)],[]⟩)]⟩)],[(3,⟨⟨[(18,.d .i),(5,.own zY 30)],[]⟩,⟨[],[(.x 0,⟨[(5,.own zY 30)],[]⟩)]⟩⟩),(6,⟨⟨[(25,.d .i),(5,.own zY 30),(7,.var zY 30)],[]⟩,⟨[],[(.x 2,⟨[(5,.own zY 30)],[]⟩)]⟩⟩)],[],[],[]⟩ Tryz.func25 (cC (yJ fu)<|cC (uE fu)<|cC (xo fu)<|cN)
theorem oU:yw ⟨143,[.d .i,.d .i],[.d zY],fun x=>ZK fu x.1 x.2.1,0⟩:=sq fu vc Tryz.func143 (cC (xj fu)<|cN)
theorem VN:yw ⟨142,[.d yR,.fn [.i,.i] [zY]],[.own zY 30],fun x=>vZ fu x.1 (fun z0 z1=>x.2.1 (z0,z1,())),0⟩:=sq fu ⟨[],[],[(3,⟨⟨[(13,.d .i),(5,.own zY 30)],[]⟩,⟨[],[(.x 0,⟨[(5,.own zY 30)],[]⟩)]⟩⟩)],[],[],[]⟩ Tryz.func142 (cN)
theorem c9:yw ⟨80,[.d yR],[.own zY 30],fun x=>vK fu x.1,0⟩:=sq fu vc Tryz.func80 (cC (yJ fu)<|cC (VN fu)<|cC (oU fu)<|cN)
theorem ox:yw ⟨27,[.d yR],[.own zY 30],fun x=>Yi fu x.1,0⟩:=sq fu vc Tryz.func27 (cC (c9 fu)<|cN)
theorem iu:yw ⟨249,[.d .i,.d zY,.q zY],[.d zY],fun x=>XE fu x.1 x.2.1 x.2.2.1,0⟩:=sq fu vc Tryz.func249 (cC (xo fu)<|cN)
theorem Yw:yw ⟨180,[.d xa,.d zY],[.own zY 30],fun x=>wV fu x.1 x.2.1,0⟩:=sq fu vc Tryz.func180 (cC (iu fu)<|cC (yJ fu)<|cC (y3 fu)<|cN)
theorem gw:yw ⟨248,[.d xa,.d xa],[.own zY 30],fun x=>qN fu x.1 x.2.1,0⟩:=sq fu vc Tryz.func248 (cC (Yw fu)<|cC (xj fu)<|cC (gF fu)<|cN)
theorem fi:yw ⟨278,[.d (.a 4 xa),.d xa,.d zY],[.d (.a 4 xa)],fun x=>qD fu x.1 x.2.1 x.2.2.1,0⟩:=sq fu vc Tryz.func278 (cC (We fu)<|cC (fS fu)<|cC (gF fu)<|cC (gw fu)<|cC (Kl fu)<|cC (ox fu)<|cN)
theorem fM:yw ⟨372,[.d (.p zY (.p zY zY)),.d zY,.d (.p zY (.p zY zY))],[.d (.p zY (.p zY zY))],fun x=>kq fu x.1 x.2.1 x.2.2.1,0⟩:=sq fu vc Tryz.func372 (cC (W0 fu)<|cC (xo fu)<|cN)
theorem sw:yw ⟨332,[.d zY,.d zY],[.d zY,.d zY,.d zY],fun x=>Yt fu x.1 x.2.1,0⟩:=sq fu ⟨[],[(393224,⟨[4,5,6],[(.n,⟨[(7,.var (.p zY (.p zY zY)) 323)],[]⟩)]⟩),(524298,⟨[4,5,6],[(.n,⟨[(7,.var (.p zY (.p zY zY)) 323)],[]⟩)]⟩)],[(2,⟨⟨[(7,.var (.p zY (.p zY zY)) 323),(8,.var (.p zY (.p zY zY)) 323)],[]⟩,⟨[4,5,6],[(.x 0,⟨[(7,.var (.p zY (.p zY zY)) 323)],[]⟩)]⟩⟩)],[(1,[]),(9,[])],[],[]⟩ Tryz.func332 (cC (ah fu)<|cC (vC fu)<|cC (az fu)<|cC (vI fu)<|cC (fM fu)<|cC (xj fu)<|cN)
theorem BT:yw ⟨276,[.d xa,.d zY],[.own zY 30],fun x=>Wb fu x.1 x.2.1,0⟩:=sq fu ⟨[],[],[],[(1,[])],[],[]⟩ Tryz.func276 (cC (Yw fu)<|cC (sw fu)<|cC (We fu)<|cN)
def sC:Vb:=⟨196,[.d xa,.d (.l yR),.d .i,.d .i,.d zY],[.own xa 22],fun x=>wU fu x.1 x.2.1 x.2.2.1 x.2.2.2.1 x.2.2.2.2.1,0⟩
theorem UX: ∀fu:Nat,yw (sC fu)
 |0=>sg0 (by kernel_rfl) fun _=>rfl
 |fu+1=>sq fu ⟨[],[],[(10,⟨⟨[(22,.d .i),(21,.var (.a 4 xa) 252)],[]⟩,⟨[],[(.x 0,⟨[(21,.var (.a 4 xa) 252)],[]⟩)]⟩⟩)],[(14,[])],[],[]⟩ Tryz.func196 (cC (UX fu)<|cC (c9 fu)<|cC (VJ fu)<|cC (Qv fu)<|cC (BT fu)<|cC (J3 fu)<|cC (fi fu)<|cC (YQ fu)<|cC (WQ fu)<|cN)
theorem UI:yw ⟨125,[.d xa,.d (.l yR),.d .i,.d .i],[.own xa 22,.d .i],fun x=>qb fu x.1 x.2.1 x.2.2.1 x.2.2.2.1,0⟩:=sq fu vc Tryz.func125 (cC (pW fu)<|cC (UX fu)<|cC (We fu)<|cC (yJ fu)<|cC (WQ fu)<|cN)
theorem Bu:yw ⟨281,[.d xa,.d xa,.d zY],[.d xa,.d .i],fun x=>Wq fu x.1 x.2.1 x.2.2.1,0⟩:=sq fu vc Tryz.func281 (cC (Kl fu)<|cC (b8 fu)<|cN)
theorem W7:yw ⟨76,[.d zY,.d zY],[.d .i],fun x=>qY fu x.1 x.2.1,0⟩:=sq fu vc Tryz.func76 (cC (W0 fu)<|cC (vC fu)<|cN)
theorem Cw:yw ⟨337,[.d zY,.d zY],[.d zY,.d .i],fun x=>Zl fu x.1 x.2.1,0⟩:=sq fu vc Tryz.func337 (cC (X2 fu)<|cC (W0 fu)<|cC (W7 fu)<|cC (uE fu)<|cN)
theorem rM:yw ⟨282,[.d xa,.d zY],[.own zY 30,.d .i],fun x=>YI fu x.1 x.2.1,0⟩:=sq fu vc Tryz.func282 (cC (J8 fu)<|cC (Cw fu)<|cN)
theorem mh:yw ⟨130,[.d zY,.d zY],[.d zY],fun x=>W3 fu x.1 x.2.1,0⟩:=sq fu ⟨[],[],[(2,⟨⟨[(5,.d ZW),(6,.d ZW)],[]⟩,⟨[4],[(.x 0,⟨[(5,.d ZW)],[]⟩)]⟩⟩)],[],[],[]⟩ Tryz.func130 (cC (aX fu)<|cC (vI fu)<|cC (tE fu)<|cN)
theorem Xn:yw ⟨62,[.d xa],[.d zY],fun x=>wI fu x.1,0⟩:=sq fu ⟨[],[(327686,⟨[0,2,3],[(.n,⟨[(10,.d .i),(12,.d .b)],[]⟩)]⟩)],[(4,⟨⟨[(11,.d .i),(0,.own zY 30),(2,.var zY 30),(3,.var zY 30)],[(9,.al 0)]⟩,⟨[],[(.x 0,⟨[(0,.own zY 30),(2,.var zY 30),(3,.var zY 30)],[]⟩)]⟩⟩)],[],[],[]⟩ Tryz.func62 (cC (mh fu)<|cC (ah fu)<|cC (xj fu)<|cC (yJ fu)<|cN)
theorem pE:yw ⟨74,[.d .i,.d zY,.q zY],[.d zY],fun x=>WH fu x.1 x.2.1 x.2.2.1,0⟩:=sq fu vc Tryz.func74 (cC (XW fu)<|cN)
def QN:Vb:=⟨23,[.d xa],[.own zY 30],fun x=>xN fu x.1,0⟩
theorem kz:yw (QN fu):=sq fu vc Tryz.func23 (cC (pE fu)<|cC (yJ fu)<|cC (Xn fu)<|cC (y3 fu)<|cN)
def kO:Vb:=⟨199,[.d xa,.d N7,.own .i 3,.d zY],[.d xa,.own .i 3],fun x=>qj fu x.1 x.2.1 x.2.2.1 x.2.2.2.1,1⟩
theorem UD:yw (kO fu):=OT (fu:=fu) ⟨[],[(262149,⟨[2],[(.n,⟨[(1,.d N7),(7,.q zY),(18,.d .i),(20,.d .b)],[]⟩)]⟩)],[(3,⟨⟨[(9,.d xa),(19,.d .i),(2,.own .i 3)],[(17,.al 2)]⟩,⟨[],[(.x 0,⟨[(9,.d xa),(2,.own .i 3)],[]⟩)]⟩⟩)],[],[],[]⟩ Tryz.func199 (cC (Bu fu)<|cC (rM fu)<|cC (kz fu)<|cN) (by kernel_rfl) fun pn x=>by kernel_rfl
def Ye:sj:=⟨280,[.q .i,.q .i],.i,3,fun x _ _ g x0=>wi fu x.1 x.2.1 g x0⟩
def anC:An:=⟨[],[],[(2,⟨⟨[(4,.own .i 3),(12,.d .i)],[]⟩,⟨[0],[(.x 0,⟨[(4,.own .i 3)],[]⟩)]⟩⟩),(8,⟨⟨[(6,.d .i)],[]⟩,⟨[0,4],[(.x 4,⟨[(6,.d .i)],[]⟩)]⟩⟩),(13,⟨⟨[(7,.d .i),(4,.own .i 3)],[]⟩,⟨[0],[(.x 6,⟨[(4,.own .i 3)],[]⟩)]⟩⟩)],[],[],[]⟩
def zdm:Code->Code| .seq a _=>a|c=>c
def tm:Code->Code| .seq _ b=>b|c=>c
def kIn:Code->Code| .block _ c=>c| .loop c=>c|c=>c
def tM(f:Func):Code:=match f.body with|some c=>c|none=> .skip
noncomputable def kA:Code:=zdm (tM Tryz.f280)
noncomputable def kB:Code:=zdm (tm (tM Tryz.f280))
noncomputable def kC:Code:=kIn (kIn (tm (tm (tM Tryz.f280))))
section
variable{X Y R:Type}{mX:X->Value->MF}{mY:Y->Value->MF}{g:List Int->X->Option (List Int×(X⊕Y))}{n all:Int}
def cfC:Cf:=⟨tt,[],anC,fu,ex,[],[],[]⟩
def S0(mX:X->Value->MF)(mY:Y->Value->MF)(g:List Int->X->Option (List Int×(X⊕Y)))(n all:Int)(x0:X):Sg:=⟨1,[(0,0,.yd 0),(1,0,.q .i n),(2,0,.q .i all)],[(0,.hid .i 3 X Y mX mY g x0)]⟩
def S1(mX:X->Value->MF)(mY:Y->Value->MF)(g:List Int->X->Option (List Int×(X⊕Y)))(n all:Int)(x0:X)(xs:List Int):Sg:=⟨2,[(4,0,.ow 1),(9,0,.ow 1),(8,0,.d .i n),(0,0,.yd 0),(1,0,.q .i n),(2,0,.q .i all)],[(1,.own .i 3 xs),(0,.hid .i 3 X Y mX mY g x0)]⟩
def S2(mX:X->Value->MF)(mY:Y->Value->MF)(g:List Int->X->Option (List Int×(X⊕Y)))(n all:Int)(x0:X)(xs ys:List Int):Sg:=⟨3,[(4,0,.ow 2),(4,0,.ow 2),(11,0,.d .i (xs.length:Int)),(8,0,.d .i n),(0,0,.yd 0),(1,0,.q .i n),(2,0,.q .i all)],[(2,.own .i 3 ys),(0,.hid .i 3 X Y mX mY g x0)]⟩
def Sn(mX:X->Value->MF)(mY:Y->Value->MF)(g:List Int->X->Option (List Int×(X⊕Y)))(n all:Int)(x:X)(xs:List Int)(x3 x1 x2 y x0:Int):Sg:=
 ⟨5,[(4,0,.ow 4),(4,0,.ow 4),(51,0,.d .i x3),(50,0,.d .i x1),(48,0,.d .i x2),(47,0,.d .i y),(45,0,.d .i x1),(43,0,.kb false),(42,0,.d .i x1),(6,0,.d .i x1),(6,0,.d .i x1),(25,0,.d .i x0),(24,0,.d .i n),(23,0,.kb false),(22,0,.kb true),(20,0,.yd 2),(0,0,.yd 2),(1,0,.q .i n),(2,0,.q .i all)],[(4,.own .i 3 xs),(2,.hid .i 3 X Y mX mY g x)]⟩
def Sr(mX:X->Value->MF)(mY:Y->Value->MF)(g:List Int->X->Option (List Int×(X⊕Y)))(n all:Int)(x:X)(x0 x1:Int)(xs:List Int):Sg:=
 ⟨4,[(43,0,.kb true),(42,0,.d .i x1),(6,0,.d .i x1),(6,0,.d .i x1),(25,0,.d .i x0),(24,0,.d .i n),(23,0,.kb false),(22,0,.kb true),(21,0,.ow 1),(20,0,.yd 2),(4,0,.ow 1),(0,0,.yd 2),(1,0,.q .i n),(2,0,.q .i all)],[(2,.hid .i 3 X Y mX mY g x),(1,.own .i 3 xs)]⟩
def Sy(mY:Y->Value->MF)(n all:Int)(y:Y)(xs:List Int):Sg:=
 ⟨3,[(23,0,.kb true),(22,0,.kb false),(21,0,.ow 1),(20,0,.yd 2),(4,0,.ow 1),(0,0,.yd 2),(1,0,.q .i n),(2,0,.q .i all)],[(2,.hiy Y mY y),(1,.own .i 3 xs)]⟩
theorem zi9(x0:X)(K:Tg->Sg->Option R):UG (cfC fu) kA ⟨0,[],[]⟩ (S0 mX mY g n all x0) K=ki n fun m=>ck (8*m<=281474976710656)<|nm (xaf m 0) fun xs=>K .n (S1 mX mY g n all x0 xs):=by kernel_rfl
theorem zjb(x0:X)(xs:List Int)(K:Tg->Sg->Option R):UG (cfC fu) kB ⟨0,[],[]⟩ (S1 mX mY g n all x0 xs) K=bd (zj (fun L (z:List Int×Int)=>
 if z.2<(xs.length:Int)then
  zH z.2 z.1.length fun j=>
  nm (z.1.set j z.2) fun xs=>
  ze (z.2+1) fun i=>L (xs,i)
 else some z.1) fu (xs,0)) fun ys=>K .n (S2 mX mY g n all x0 xs ys):=by kernel_rfl
theorem ziG(x:X)(xs:List Int)(K:Tg->Sg->Option R):UG (cfC fu) kC ⟨0,[],[]⟩ (chS 3 mX mY g n all x xs) K=
 w9 fu n all g x xs (fun x xs a b c d e=>K .n (Sn mX mY g n all x xs a b c d e)) (fun x a b xs=>K .r (Sr mX mY g n all x a b xs)) fun y xs=>K .r (Sy mY n all y xs):=by kernel_rfl
theorem zcN(g:List Int->X->Option (List Int×(X⊕Y)))(x0:X)(r:X⊕Y)(l:Nat)(v1 v2 u:Value)(we:World)(Se:Nat->Prop)(F:List MF)(G:List FF)(w:World)(hY:Ek Tryz.prog l eI 3 mX mY g)
 (hg:St we Se (mX x0 u::F) (kL Tryz.prog [.q .i,.q .i] (n,all,()) [v1,v2]++G) w) (hM:wi fu n all g x0=some r):
 Calls Tryz.prog 280 #[.func (.yield l) #[] #[],v1,v2] w fun e w'=>(∃v,e= .returned v)/\ ∃u',St we Se (xfp (fun x=>mX x u') (fun y=>mY y u') r::F) G w':=by
 have hX:rm Tryz.prog (cfC fu):= .of IU rfl;have hD: ∀c,HG 66 c=true->Ax Tryz.prog (cfC fu) 66 c:=fun c h=>ZS Lz HN Ha cN hX c h;refine Qx (args:=[.func (.yield l) #[] #[],v1,v2]) (c:=tM Tryz.f280) Tryz.func280 rfl (by kernel_rfl) fun rest=> ?_;have hi:uU Tryz.prog (Fr.wd ⟨we,Se,F,G⟩ []) ⟨0,[],[]⟩ (S0 mX mY g n all x0) (L ((([Value.func (.yield l) #[] #[],v1,v2]:List Value).zipIdx 0).map fun x=>(x.2,x.1)) rest) w:=by
  refine⟨⟨fun e he=> ?_,fun _ he=>absurd he xaa,fun e he q hq=> ?_,fun _ he=>absurd he xaa⟩,fun _=>KH (.int .i64 (l:Int)) [u],?_⟩
  ·obtain rfl:=xah.1 he;exact xdZ
  ·simp only[S0,xae,xaa,or_false]at he;rcases he with rfl|rfl|rfl<;>cases hq<;>exact xdZ
  ·have h1:St we Se (VQ (fun _=>KH (.int .i64 (l:Int)) [u]) (0,.hid .i 3 X Y mX mY g x0)::F) (kL Tryz.prog [.q .i,.q .i] (n,all,()) [v1,v2]++G) w:=St.grp.2 (St.pr hY hg);exact h1.weak fun S w ha=>⟨rfl,ha.1,ha.2.1,ha.2.2⟩
 obtain⟨f2,hd⟩: ∃f2:List Int->Option (X⊕Y),f2=fun xs=>zj (fun L (q:X×List Int)=>w9 fu n all g q.1 q.2 (fun x xs _ _ _ _ _=>L (x,xs)) (fun x _ _ _=>some (.inl x)) fun y _=>some (.inr y)) fu (x0,xs):=⟨_,rfl⟩;obtain⟨f1,hf⟩: ∃f1:List Int->Option (X⊕Y),f1=fun xs=>bd (zj (fun L (z:List Int×Int)=>
  if z.2<(xs.length:Int)then
   zH z.2 z.1.length fun j=>
   nm (z.1.set j z.2) fun xs=>
   ze (z.2+1) fun i=>L (xs,i)
  else some z.1) fu (xs,0)) f2:=⟨_,rfl⟩
 have hj:(ki n fun m=>ck (8*m<=281474976710656)<|nm (xaf m 0) f1)=some r:=by rw[hf,hd];exact hM
 refine lN (x:=kA) (y:=tm (tM Tryz.f280)) ?_;obtain⟨K,k1,k2⟩:=SF (fun xs:List Int=>(Tg.n,S1 mX mY g n all x0 xs)) f1 (fun i j h=>by
  have h2:Od.own .i 3 i=Od.own .i 3 j:=by simpa[S1]using h
  cases h2;rfl)
 have k1: ∀xs,K .n (S1 mX mY g n all x0 xs)=f1 xs:=k1;refine hD kA (by kernel_rfl) (N:=Nd.of 66) (K:=K) rfl (.inl rfl) (r:=r) ((zi9 fu x0 K).trans (by simp only[k1];exact hj)) (fun t σ' hk Ds env w _ hR=> ?_) hi;obtain⟨xs,e1,e2⟩:=k2 _ _ _ hk;cases e1;refine lN (x:=kB) (y:=tm (tm (tM Tryz.f280))) ?_;obtain⟨K,k1,k2⟩:=SF (fun ys:List Int=>(Tg.n,S2 mX mY g n all x0 xs ys)) f2 (fun i j h=>by
  have h2:Od.own .i 3 i=Od.own .i 3 j:=by simpa[S2]using h
  cases h2;rfl)
 have k1: ∀ys,K .n (S2 mX mY g n all x0 xs ys)=f2 ys:=k1;refine hD kB (by kernel_rfl) (N:=Nd.of 66) (K:=K) rfl (.inl rfl) (r:=r) ((zjb fu x0 xs K).trans (by simp only[k1];rw[hf]at e2;exact e2)) (fun t σ' hk Ds env w _ hR=> ?_) hR;obtain⟨ys,e3,e4⟩:=k2 _ _ _ hk;cases e3;have hm:uU Tryz.prog (Fr.wd ⟨we,Se,F,G⟩ Ds) ⟨0,[],[]⟩ (chS 3 mX mY g n all x0 ys) env w:=zdI (o:=0) (p:=2) rfl rfl rfl rfl rfl rfl rfl hR;refine Aq (id:=2) (c:= .loop kC) ?_;obtain⟨body,hb⟩: ∃body:((X×List Int)->Option (X⊕Y))->(X×List Int)->Option (X⊕Y),body=fun L q=>w9 fu n all g q.1 q.2 (fun x xs _ _ _ _ _=>L (x,xs)) (fun x _ _ _=>some (.inl x)) fun y _=>some (.inr y):=⟨_,rfl⟩;refine DV (G:=Nat×(X×List Int)) (fun q Ds env w=>zj body q.1 q.2=some r/\uU Tryz.prog (Fr.wd ⟨we,Se,F,G⟩ Ds) ⟨0,[],[]⟩ (chS 3 mX mY g n all q.2.1 q.2.2) env w) (fun q=>q.1) (fu,(x0,ys)) ⟨by rw[hb];rw[hd]at e4;exact e4,hm⟩ ?_;rintro⟨k,x,xs⟩ Ds env w ⟨hl,hR⟩
 cases k with
 |zero=>exact(LD hl).elim
 |succ k=>
  have hl:=Mq hl
  obtain⟨K,k1,k2⟩:=SF (ι:=(X×List Int×Int×Int×Int×Int×Int)⊕((X×Int×Int×List Int)⊕(Y×List Int)))
   (fun q=>match q with
    | .inl (x,xs,a,b,c,d,e)=>(Tg.n,Sn mX mY g n all x xs a b c d e)
    | .inr (.inl (x,a,b,xs))=>(Tg.r,Sr mX mY g n all x a b xs)
    | .inr (.inr (y,xs))=>(Tg.r,Sy mY n all y xs))
   (fun q=>match q with
    | .inl (x,xs,_,_,_,_,_)=>zj body k (x,xs)
    | .inr (.inl (x,_,_,_))=>some (.inl x)
    | .inr (.inr (y,_))=>some (.inr y)) (fun i j h=>by
   rcases i with⟨x,xs,a,b,c,d,e⟩|⟨x,a,b,xs⟩|⟨y,xs⟩<;>rcases j with⟨x',xs',a',b',c',d',e'⟩|⟨x',a',b',xs'⟩|⟨y',xs'⟩
   ·have h2:=congrArg (fun q:Tg×Sg=>q.2.ob) h
    simp only[Sn,xes,xcu,true_and,and_true]at h2
    obtain⟨h3,h4⟩:=h2
    cases h3;cases h4;rfl
   ·cases congrArg Prod.fst h
   ·cases congrArg Prod.fst h
   ·cases congrArg Prod.fst h
   ·have h2:=congrArg (fun q:Tg×Sg=>q.2.ob) h
    simp only[Sr,xes,xcu,true_and,and_true]at h2
    obtain⟨h3,h4⟩:=h2
    cases h3;rfl
   ·exact absurd (congrArg (fun q:Tg×Sg=>q.2.nx) h) (by simp[Sr,Sy])
   ·cases congrArg Prod.fst h
   ·exact absurd (congrArg (fun q:Tg×Sg=>q.2.nx) h) (by simp[Sr,Sy])
   ·have h2:=congrArg (fun q:Tg×Sg=>q.2.ob) h
    simp only[Sy,xes,xcu,true_and,and_true]at h2
    obtain⟨h3,h4⟩:=h2
    cases h3;rfl)
  have q1: ∀x xs a b c d e,K .n (Sn mX mY g n all x xs a b c d e)=zj body k (x,xs):=fun x xs a b c d e=>k1 (.inl (x,xs,a,b,c,d,e));have q2: ∀x a b xs,K .r (Sr mX mY g n all x a b xs)=some (.inl x):=fun x a b xs=>k1 (.inr (.inl (x,a,b,xs)));have q3: ∀y xs,K .r (Sy mY n all y xs)=some (.inr y):=fun y xs=>k1 (.inr (.inr (y,xs)));refine hD kC (by kernel_rfl) (N:=Nd.of 66) (K:=K) rfl (.inl rfl) (r:=r) ((ziG fu x xs K).trans (by simp only[q1,q2,q3];rw[hb]at hl⊢;exact hl)) (fun t σ' hk Ds env w _ hR=> ?_) hR;obtain⟨i,e5,e6⟩:=k2 _ _ _ hk
  have fin: ∀(t:Tg) (env:yP) (w:World),(∃u',St we Se (xfp (fun x=>mX x u') (fun y=>mY y u') r::F) G (qh Ds w))->ny Ds w-> ∀a:Act,yr a=env->
   ∃v,(results Tryz.f280 a.tmps).run Tryz.prog (qh Ds w)= .ok v (qh Ds w)/\(∃v',xet v= .returned v')/\ ∃u',St we Se (xfp (fun x=>mX x u') (fun y=>mY y u') r::F) G (qh Ds w):=fun t env w h1 h2 a ha=>⟨_,Y8 (rs:=[]) (vs:=[]) rfl trivial,⟨_,rfl⟩,h1⟩
  rcases i with⟨x',xs',a,b,c,d,e⟩|⟨x',a,b,xs'⟩|⟨y',xs'⟩
  ·cases e5;exact⟨(k,(x',xs')),⟨e6,zdI (o:=2) (p:=4) rfl rfl rfl rfl rfl rfl rfl hR⟩,xbV k⟩
  ·cases e5;cases e6;obtain⟨hc,hR⟩:=Va hR;exact⟨.inr rfl,hc,fin .r _ _ (zez (o:=2) rfl hR) hc⟩
  ·cases e5;cases e6;obtain⟨hc,hR⟩:=Va hR;exact⟨.inr rfl,hc,fin .r _ _ (zfB (o:=2) rfl hR) hc⟩
end
theorem eh:za5 Tryz.prog (Ye fu):=by
 refine⟨by kernel_rfl,?_⟩;rintro⟨n,all,_⟩ X Y mX mY g x0 r hM l vs ha hY u we Se F G w hb
 match vs,ha with
 |[v1,v2],_=>exact zcN fu g x0 r l v1 v2 u we Se F G w hY hb hM
def Zs:ER:=⟨198,[.i,.i],280,fun x=>[⟨.i,x.2.1⟩,⟨.i,x.1⟩]⟩
theorem oT:Lr Tryz.prog Zs:=zfq (s:=Zs) (cf:=⟨tt,[],vc,0,ex,[],[],[]⟩) Lz HN Ha cN (.of IU rfl) Tryz.func198 (by kernel_rfl) fun x=>by kernel_rfl
theorem ZB:yw ⟨338,[.d yR,.d .i],[.d .i],fun x=>ZG fu x.1 x.2.1,0⟩:=sq fu ⟨[],[],[(2,⟨⟨[(8,.d .i)],[]⟩,⟨[],[(.x 0,⟨[],[]⟩),(.r,⟨[(4,.d .i)],[]⟩)]⟩⟩)],[],[],[]⟩ Tryz.func338 (cN)
theorem Vf:yw ⟨338,[.own .i 3,.d .i],[.d .i,.own .i 3],fun x=>vu fu x.1 x.2.1,1⟩:=OT (fu:=fu) ⟨[],[],[(2,⟨⟨[(8,.d .i)],[]⟩,⟨[0],[(.x 0,⟨[],[]⟩),(.r,⟨[(4,.d .i)],[]⟩)]⟩⟩)],[],[],[]⟩ Tryz.func338 (cN) (by kernel_rfl) fun pn x=>by kernel_rfl
theorem Vd:yw ⟨283,[.d yR,.d .i],[.d .b],fun x=>kM fu x.1 x.2.1,0⟩:=sq fu vc Tryz.func283 (cC (ZB fu)<|cN)
theorem Xz:yw ⟨283,[.own .i 3,.d .i],[.d .b,.own .i 3],fun x=>xB fu x.1 x.2.1,1⟩:=OT (fu:=fu) vc Tryz.func283 (cC (Vf fu)<|cC (ZB fu)<|cN) (by kernel_rfl) fun pn x=>by kernel_rfl
def vy:Vb:=⟨200,[.d N7,.own .i 3],[.d N7,.own .i 3],fun x=>xl fu x.1 x.2.1,1⟩
theorem Vg:yw (vy fu):=OT (fu:=fu) ⟨[],[(262149,⟨[1,5],[(.n,⟨[(8,.d N7),(9,.d .i),(11,.d .b)],[]⟩)]⟩)],[(3,⟨⟨[(5,.own xa 22),(10,.d .i),(1,.own .i 3)],[]⟩,⟨[],[(.x 0,⟨[(5,.own xa 22),(1,.own .i 3)],[]⟩)]⟩⟩)],[],[],[]⟩ Tryz.func200 (cC (Xz fu)<|cC (Vd fu)<|cN) (by kernel_rfl) fun pn x=>by kernel_rfl
def U6:Vb:=⟨126,[.d xa,.d N7,.d zY],[.own xa 22],fun x=>ud fu x.1 x.2.1 x.2.2.1,0⟩
theorem rE:yw (U6 fu):=Im (s:=U6 fu) (cf:=⟨tt,[kO fu,JZ fu,vy fu,QN fu],⟨[3,4],[],[(3,⟨⟨[(3,.var xa 22),(4,.var N7 55),(7,.bo xa 22 55),(8,.d .i)],[]⟩,⟨[],[(.x 0,⟨[(3,.var xa 22),(4,.var N7 55),(7,.bo xa 22 55)],[]⟩)]⟩⟩),(6,⟨⟨[(3,.var xa 22),(4,.var N7 55),(7,.bo xa 22 55)],[]⟩,⟨[],[(.x 1,⟨[],[]⟩)]⟩⟩)],[(13,[56,57])],[],[7]⟩,fu,ex,[],[Zs],[Ye fu]⟩) Lz HN Ha (cC (UD fu)<|cC (VK fu)<|cC (Vg fu)<|cC (kz fu)<|cN) ⟨IU,fun s h=>by obtain rfl:=xah.1 h;exact oT,fun _ h=>absurd h xaa,fun s h=>by obtain rfl:=xah.1 h;exact eh fu,rfl⟩ Tryz.func126 (by kernel_rfl) rfl fun x r h=>(id (by kernel_rfl):Ik ⟨tt,[kO fu,JZ fu,vy fu,QN fu],⟨[3,4],[],[(3,⟨⟨[(3,.var xa 22),(4,.var N7 55),(7,.bo xa 22 55),(8,.d .i)],[]⟩,⟨[],[(.x 0,⟨[(3,.var xa 22),(4,.var N7 55),(7,.bo xa 22 55)],[]⟩)]⟩⟩),(6,⟨⟨[(3,.var xa 22),(4,.var N7 55),(7,.bo xa 22 55)],[]⟩,⟨[],[(.x 1,⟨[],[]⟩)]⟩⟩)],[(13,[56,57])],[],[7]⟩,fu,ex,[],[Zs],[Ye fu]⟩ Tryz.f126 [.d xa,.d N7,.d zY] [.own xa 22] x=ud fu x.1 x.2.1 x.2.2.1).trans h
theorem dF:yw ⟨24,[.d xa,.d xa],[.d .b],fun x=>ks fu x.1 x.2.1,0⟩:=sq fu ⟨[],[],[(5,⟨⟨[(5,.d .i)],[]⟩,⟨[0,1],[(.x 0,⟨[],[]⟩),(.r,⟨[(4,.d .b)],[]⟩)]⟩⟩)],[],[],[]⟩ Tryz.func24 (cC (W7 fu)<|cC (yJ fu)<|cN)
theorem oE:yw ⟨128,[.d xa,.d xa],[.d .i],fun x=>qw fu x.1 x.2.1,0⟩:=sq fu vc Tryz.func128 (cC (dF fu)<|cN)
theorem E3:yw ⟨250,[.d zY,.d .i],[.d zY,.d .i],fun x=>VI fu x.1 x.2.1,0⟩:=sq fu ⟨[],[],[(6,⟨⟨[(4,.var zY 30),(6,.var zY 30),(9,.var zY 30)],[]⟩,⟨[],[(.r,⟨[(4,.var zY 30)],[(5,.ci 0)]⟩)]⟩⟩),(11,⟨⟨[(1,.d .i),(2,.q zY),(52,.d .i),(11,.var zY 30)],[]⟩,⟨[4,6,9,10],[(.x 2,⟨[(1,.d .i),(2,.q zY),(11,.var zY 30)],[]⟩)]⟩⟩)],[],[],[]⟩ Tryz.func250 (cC (vC fu)<|cC (Av fu)<|cC (W7 fu)<|cC (uE fu)<|cC (xo fu)<|cC (vI fu)<|cC (Q7 fu)<|cC (eD fu)<|cC (xj fu)<|cN)
theorem cr:yw ⟨116,[.d xa],[.d .i],fun x=>Zx fu x.1,0⟩:=sq fu vc Tryz.func116 (cC (yJ fu)<|cN)
theorem X0:yw ⟨182,[.d xa],[.d zY,.d .i],fun x=>wu fu x.1,0⟩:=sq fu ⟨[],[(524297,⟨[0,2,5],[(.n,⟨[(22,.d .i),(24,.d .b)],[]⟩)]⟩)],[(7,⟨⟨[(23,.d .i),(0,.own zY 30),(2,.var zY 30),(5,.var zY 30)],[(21,.al 0)]⟩,⟨[],[(.x 0,⟨[(0,.own zY 30),(2,.var zY 30),(5,.var zY 30)],[]⟩)]⟩⟩)],[],[],[]⟩ Tryz.func182 (cC (YS fu)<|cC (uE fu)<|cC (xo fu)<|cC (cr fu)<|cC (yJ fu)<|cC (E3 fu)<|cC (eD fu)<|cC (xj fu)<|cN)
theorem sD:yw ⟨122,[.d xa,.d .i],[.d .i],fun x=>YC fu x.1 x.2.1,0⟩:=sq fu ⟨[],[],[(5,⟨⟨[(9,.d .i),(8,.var zY 30)],[]⟩,⟨[5,7],[(.x 0,⟨[(9,.d .i)],[]⟩)]⟩⟩)],[(2,[])],[],[]⟩ Tryz.func122 (cC (xo fu)<|cC (xj fu)<|cC (X0 fu)<|cC (W7 fu)<|cN)
theorem C9:yw ⟨120,[.d xa],[.d .b],fun x=>X6 fu x.1,0⟩:=sq fu ⟨[],[],[],[(2,[])],[],[]⟩ Tryz.func120 (cC (xo fu)<|cC (xj fu)<|cC (X0 fu)<|cC (Q7 fu)<|cN)
theorem mo:yw ⟨261,[.d yR,.d yR],[.d .i],fun x=>wE fu x.1 x.2.1,0⟩:=sq fu ⟨[],[],[(4,⟨⟨[(5,.d .i)],[]⟩,⟨[],[(.x 0,⟨[],[]⟩),(.r,⟨[(4,.d .i)],[]⟩)]⟩⟩)],[],[],[]⟩ Tryz.func261 (cN)
def Z6:Vb:=⟨376,[.d yR,.q .i],[.d .b],fun x=>qu fu x.1 x.2.1,0⟩
theorem eC:yw (Z6 fu):=sq fu vc Tryz.func376 (cN)
def QZ:Vb:=⟨375,[.d yR,.d .i],[.own .i 3],fun x=>ZE fu x.1 x.2.1,0⟩
theorem Cy:yw (QZ fu):=sq fu ⟨[],[],[(3,⟨⟨[(13,.d .i),(5,.own .i 3)],[]⟩,⟨[],[(.x 0,⟨[(5,.own .i 3)],[]⟩)]⟩⟩)],[],[],[]⟩ Tryz.func375 (cC (Kt fu)<|cN)
def Je:Vb:=⟨351,[.d (.l yR),.d .i],[.d .i],fun x=>Zu fu x.1 x.2.1,0⟩
theorem cX:yw (Je fu):=sq fu ⟨[],[(393223,⟨[],[(.n,⟨[(0,.d (.l yR)),(17,.d (.l yR)),(18,.d .i),(20,.d .b)],[]⟩)]⟩)],[(5,⟨⟨[(19,.d .i)],[]⟩,⟨[],[(.x 0,⟨[],[]⟩),(.r,⟨[],[(4,.ci 1)]⟩)]⟩⟩)],[],[],[]⟩ Tryz.func351 (cC (vT fu)<|cN)
def YG:oO:=⟨377,.i,23,3,fun xss ix r a p lo n=>w4 fu xss ix r a p lo n⟩
theorem sB(pn:Value)(xss:List (List Int))(ix:List Nat)(r:Nat)(a p:Int)(lo n:Nat):zeB ⟨tt,[],(⟨[],[],[(1,⟨⟨[(3,.matv .i 23 3),(13,.view 0),(0,.row 0),(15,.d .i)],[]⟩,⟨[],[(.x 0,⟨[(3,.matv .i 23 3)],[]⟩)]⟩⟩),(5,⟨⟨[(3,.matv .i 23 3),(13,.view 0),(0,.row 0),(23,.row 0),(9,.row 0),(25,.d .i)],[]⟩,⟨[],[(.x 2,⟨[(3,.matv .i 23 3),(13,.view 0),(0,.row 0)],[]⟩)]⟩⟩)],[],[],[]⟩:An),fu,ex,[],[],[]⟩ Tryz.f377 .i 23 3 pn xss ix r a p lo n=w4 fu xss ix r a p lo n:=by kernel_rfl
theorem sL:Iy Tryz.prog (YG fu):=zfX (s:=YG fu) (cf:=⟨tt,[],(⟨[],[],[(1,⟨⟨[(3,.matv .i 23 3),(13,.view 0),(0,.row 0),(15,.d .i)],[]⟩,⟨[],[(.x 0,⟨[(3,.matv .i 23 3)],[]⟩)]⟩⟩),(5,⟨⟨[(3,.matv .i 23 3),(13,.view 0),(0,.row 0),(23,.row 0),(9,.row 0),(25,.d .i)],[]⟩,⟨[],[(.x 2,⟨[(3,.matv .i 23 3),(13,.view 0),(0,.row 0)],[]⟩)]⟩⟩)],[],[],[]⟩:An),fu,ex,[],[],[]⟩) Lz HN Ha cN (.of IU rfl) Tryz.func377 (by kernel_rfl) fun pn xss ix r a p lo n z h=>(sB fu pn xss ix r a p lo n).trans h
def vq:Vb:=⟨267,[.d (.l yR),.fn [yR] [.b]],[.d .i],fun x=>yz fu x.1 (fun z0=>x.2.1 (z0,())),0⟩
theorem jZ:yw (vq fu):=sq fu ⟨[],[],[(2,⟨⟨[(8,.d .i)],[]⟩,⟨[],[(.x 0,⟨[],[]⟩),(.r,⟨[(4,.d .i)],[]⟩)]⟩⟩)],[],[],[]⟩ Tryz.func267 (cN)
def Ke:Vb:=⟨352,[.d (.l yR),.d .i],[.d (.l yR),.d .i],fun x=>jK fu x.1 x.2.1,0⟩
theorem po:yw (Ke fu):=Im (s:=Ke fu) (cf:=⟨tt,[Je fu,QZ fu,vq fu,mU fu,Z6 fu],⟨[],[],[(6,⟨⟨[(7,.mat .i 23 3),(25,.d .i)],[]⟩,⟨[],[(.x 0,⟨[(7,.mat .i 23 3)],[]⟩)]⟩⟩),(12,⟨⟨[(7,.mat .i 23 3),(10,.d .i),(11,.var .i 3)],[]⟩,⟨[],[(.x 2,⟨[(7,.mat .i 23 3),(10,.d .i)],[]⟩)]⟩⟩),(19,⟨⟨[(7,.mat .i 23 3),(90,.row 0),(92,.d .i)],[]⟩,⟨[],[(.x 4,⟨[(7,.mat .i 23 3)],[]⟩)]⟩⟩)],[(16,[]),(23,[]),(24,[])],[52,117,128],[33]⟩,fu,ex,[YG fu],[],[]⟩) Lz HN Ha (cC (cX fu)<|cC (Cy fu)<|cC (jZ fu)<|cC (nQ fu)<|cC (eC fu)<|cN) ⟨IU,fun _ h=>absurd h xaa,fun s h=>by obtain rfl:=xah.1 h;exact sL fu,fun _ h=>absurd h xaa,rfl⟩ Tryz.func352 (by kernel_rfl) rfl fun x r h=>(id (by kernel_rfl):Ik ⟨tt,[Je fu,QZ fu,vq fu,mU fu,Z6 fu],⟨[],[],[(6,⟨⟨[(7,.mat .i 23 3),(25,.d .i)],[]⟩,⟨[],[(.x 0,⟨[(7,.mat .i 23 3)],[]⟩)]⟩⟩),(12,⟨⟨[(7,.mat .i 23 3),(10,.d .i),(11,.var .i 3)],[]⟩,⟨[],[(.x 2,⟨[(7,.mat .i 23 3),(10,.d .i)],[]⟩)]⟩⟩),(19,⟨⟨[(7,.mat .i 23 3),(90,.row 0),(92,.d .i)],[]⟩,⟨[],[(.x 4,⟨[(7,.mat .i 23 3)],[]⟩)]⟩⟩)],[(16,[]),(23,[]),(24,[])],[52,117,128],[33]⟩,fu,ex,[YG fu],[],[]⟩ Tryz.f352 [.d (.l yR),.d .i] [.d (.l yR),.d .i] x=jK fu x.1 x.2.1).trans h
theorem ry:yw ⟨379,[.d .i],[.d .b],fun x=>kS fu x.1,0⟩:=sq fu vc Tryz.func379 (cN)
theorem Xt:yw ⟨378,[.d yR,.fn [.i] [.b]],[.d .i],fun x=>yZ fu x.1 (fun z0=>x.2.1 (z0,())),0⟩:=sq fu ⟨[],[],[(2,⟨⟨[(8,.d .i)],[]⟩,⟨[],[(.x 0,⟨[],[]⟩),(.r,⟨[(4,.d .i)],[]⟩)]⟩⟩)],[],[],[]⟩ Tryz.func378 (cN)
theorem gK:yw ⟨355,[.d yR],[.d .i],fun x=>Y2 fu x.1,0⟩:=sq fu vc Tryz.func355 (cC (Xt fu)<|cC (ry fu)<|cN)
theorem rQ:yw ⟨354,[.d yR,.q .i],[.d .b],fun x=>wZ fu x.1 x.2.1,0⟩:=sq fu vc Tryz.func354 (cC (gK fu)<|cN)
theorem Y0:yw ⟨353,[.d (.l yR),.fn [yR] [.b]],[.d .b],fun x=>xv fu x.1 (fun z0=>x.2.1 (z0,())),0⟩:=sq fu vc Tryz.func353 (cC (jZ fu)<|cN)
theorem EO:yw ⟨322,[.d (.l yR),.d .i,.d .i],[.own yR 23,.d .i],fun x=>YV fu x.1 x.2.1 x.2.2.1,0⟩:=sq fu ⟨[],[(131076,⟨[],[(.n,⟨[],[]⟩),(.r,⟨[],[(6,.nil),(7,.ci 1)]⟩)]⟩),(458760,⟨[10],[(.n,⟨[(1,.d .i),(2,.d .i),(8,.d (.l yR)),(46,.d .i),(48,.d .b)],[]⟩)]⟩),(851982,⟨[10,12],[(.n,⟨[(1,.d .i),(2,.d .i),(8,.d (.l yR)),(11,.q .i),(46,.d .i),(47,.d .i),(58,.d (.l yR)),(59,.d .i),(61,.d .b)],[]⟩)]⟩)],[(6,⟨⟨[(10,.own yR 23),(47,.d .i)],[]⟩,⟨[],[(.x 0,⟨[(10,.own yR 23)],[]⟩)]⟩⟩),(12,⟨⟨[(60,.d .i),(10,.own yR 23),(12,.own .i 3)],[]⟩,⟨[],[(.x 2,⟨[(10,.own yR 23),(12,.own .i 3)],[]⟩)]⟩⟩)],[],[],[]⟩ Tryz.func322 (cC (po fu)<|cC (Y0 fu)<|cC (rQ fu)<|cC (gK fu)<|cC (Kt fu)<|cC (cX fu)<|cN)
theorem KZ:yw ⟨194,[.d yR,.d yR,.d .i],[.own .i 3,.own .i 3,.d .i],fun x=>qO fu x.1 x.2.1 x.2.2.1,0⟩:=sq fu vc Tryz.func194 (cC (vT fu)<|cC (xy fu)<|cC (Xo fu)<|cN)
theorem Kz:yw ⟨321,[.d yR,.d zY,.d yR,.d .i],[.own .i 3,.d .i],fun x=>j8 fu x.1 x.2.1 x.2.2.1 x.2.2.2.1,0⟩:=sq fu ⟨[],[],[(9,⟨⟨[(11,.own .i 3),(13,.d yR),(14,.d .i)],[]⟩,⟨[10,12],[(.x 0,⟨[(11,.own .i 3)],[]⟩)]⟩⟩)],[],[],[]⟩ Tryz.func321 (cC (vC fu)<|cC (ui fu)<|cC (vT fu)<|cC (xy fu)<|cC (Xo fu)<|cC (Q7 fu)<|cN)
theorem BQ:yw ⟨259,[.d yR,.d .i],[.own yR 23],fun x=>Zn fu x.1 x.2.1,0⟩:=sq fu ⟨[],[],[(4,⟨⟨[(6,.mat .i 23 3),(23,.d .i)],[]⟩,⟨[],[(.x 0,⟨[(6,.mat .i 23 3)],[]⟩)]⟩⟩),(11,⟨⟨[(6,.mat .i 23 3),(10,.d yR),(8,.d yR),(43,.d .i)],[]⟩,⟨[],[(.x 2,⟨[(6,.mat .i 23 3)],[]⟩)]⟩⟩),(14,⟨⟨[(6,.mat .i 23 3),(48,.d .i)],[]⟩,⟨[],[(.x 4,⟨[(6,.mat .i 23 3)],[]⟩)]⟩⟩)],[],[],[20]⟩ Tryz.func259 (cC (xj fu)<|cC (Kz fu)<|cC (VJ fu)<|cC (KZ fu)<|cC (EO fu)<|cN)
theorem Nx:yw ⟨320,[.d yR,.d yR,.d .i],[.own .i 3],fun x=>Uk fu x.1 x.2.1 x.2.2.1,0⟩:=sq fu vc Tryz.func320 (cC (KZ fu)<|cN)
theorem H6:yw ⟨318,[.d yR,.d yR,.d .i],[.d yR],fun x=>Jl fu x.1 x.2.1 x.2.2.1,0⟩:=sq fu vc Tryz.func318 (cC (Kj fu)<|cN)
theorem iJ:yw ⟨316,[.d .i,.q yR,.q .i],[.d .i],fun x=>uu fu x.1 x.2.1 x.2.2.1,0⟩:=sq fu vc Tryz.func316 (cC (Kt fu)<|cN)
theorem Fz:yw ⟨350,[.d yR,.d yR,.d .i],[.own .i 3,.d .i],fun x=>VB fu x.1 x.2.1 x.2.2.1,0⟩:=sq fu vc Tryz.func350 (cC (Kd fu)<|cC (vT fu)<|cC (xy fu)<|cN)
theorem Dj:yw ⟨319,[.d yR,.d .i,.d yR,.d .i],[.own .i 3],fun x=>Wk fu x.1 x.2.1 x.2.2.1 x.2.2.2.1,0⟩:=sq fu vc Tryz.func319 (cC (Kz fu)<|cC (gM fu)<|cC (xj fu)<|cC (Fz fu)<|cN)
theorem sn:yw ⟨258,[.d yR,.d (.l yR),.d .i,.d yR],[.own yR 23],fun x=>YE fu x.1 x.2.1 x.2.2.1 x.2.2.2.1,0⟩:=sq fu ⟨[],[(524297,⟨[10],[(.n,⟨[(11,.d .i),(28,.d (.l yR)),(29,.d .i),(31,.d .b)],[]⟩)]⟩),(983056,⟨[10],[(.n,⟨[(1,.d (.l yR)),(6,.q .i),(7,.q yR),(11,.d .i),(13,.d yR),(28,.d (.l yR)),(29,.d .i),(30,.d .i),(73,.d .b)],[]⟩)]⟩)],[(4,⟨⟨[(10,.own yR 23),(11,.d .i)],[]⟩,⟨[],[(.x 0,⟨[(10,.own yR 23)],[]⟩)]⟩⟩),(7,⟨⟨[(1,.d (.l yR)),(6,.q .i),(7,.q yR),(10,.own yR 23),(30,.d .i)],[]⟩,⟨[],[(.x 0,⟨[(10,.own yR 23)],[]⟩),(.x 2,⟨[(1,.d (.l yR)),(6,.q .i),(7,.q yR),(10,.own yR 23)],[]⟩)]⟩⟩),(10,⟨⟨[(10,.own yR 23),(14,.d .i)],[]⟩,⟨[],[(.x 0,⟨[(10,.own yR 23)],[]⟩),(.x 4,⟨[(10,.own yR 23)],[]⟩)]⟩⟩)],[],[],[]⟩ Tryz.func258 (cC (Nx fu)<|cC (iJ fu)<|cC (H6 fu)<|cC (Dj fu)<|cN)
theorem af:yw ⟨349,[.d yR,.d .i],[.own .i 3,.d .i],fun x=>qd fu x.1 x.2.1,0⟩:=sq fu vc Tryz.func349 (cC (vT fu)<|cC (xy fu)<|cC (KF fu)<|cN)
theorem Be:yw ⟨315,[.d yR,.d .i],[.own .i 3,.d .i],fun x=>Jm fu x.1 x.2.1,0⟩:=sq fu vc Tryz.func315 (cC (af fu)<|cN)
theorem rN:yw ⟨312,[.d yR,.d .i],[.own .i 3,.d .i],fun x=>YB fu x.1 x.2.1,0⟩:=sq fu ⟨[],[(458760,⟨[7,17],[(.n,⟨[(1,.d .i),(18,.d .i),(20,.d .b)],[]⟩)]⟩)],[(6,⟨⟨[(7,.own .i 3),(19,.d .i),(17,.own .i 3)],[]⟩,⟨[],[(.x 0,⟨[(7,.own .i 3)],[]⟩)]⟩⟩)],[],[],[]⟩ Tryz.func312 (cC (vT fu)<|cC (xy fu)<|cN)
theorem AY:yw ⟨311,[.d yR,.d .i],[.own .i 3,.d .i],fun x=>Wh fu x.1 x.2.1,0⟩:=sq fu vc Tryz.func311 (cC (af fu)<|cN)
theorem sS:yw ⟨253,[.d yR,.d .i],[.d .b,.d .i],fun x=>uM fu x.1 x.2.1,0⟩:=sq fu vc Tryz.func253 (cC (rN fu)<|cC (Kj fu)<|cC (AY fu)<|cN)
theorem ru:yw ⟨257,[.d yR,.d .i],[.d yR,.d .i],fun x=>jj fu x.1 x.2.1,0⟩:=sq fu vc Tryz.func257 (cC (Be fu)<|cC (sS fu)<|cN)
theorem Jv:yw ⟨202,[.d .u],[.d .i],fun x=>q8 fu x.1,0⟩:=sq fu vc Tryz.func202 (cC (Zz fu)<|cN)
theorem kR:yw ⟨356,[.own yR 23,.d .i,.d .i,.fn [yR,yR] [.i]],[.own yR 23],fun x=>xn fu x.1 x.2.1 x.2.2.1 (fun z0 z1=>x.2.2.2.1 (z0,z1,())),1⟩:=OT (fu:=fu) ⟨[],[],[(1,⟨⟨[(8,.d .i),(0,.own yR 23)],[]⟩,⟨[],[(.x 0,⟨[(0,.own yR 23)],[]⟩)]⟩⟩),(4,⟨⟨[(1,.d .i),(2,.d .i),(9,.d .i),(0,.own yR 23)],[]⟩,⟨[],[(.x 2,⟨[(1,.d .i),(2,.d .i),(0,.own yR 23)],[]⟩)]⟩⟩)],[(6,[])],[],[]⟩ Tryz.func356 (cN) (by kernel_rfl) fun pn x=>by kernel_rfl
def Z1:Vb:=⟨323,[.own yR 23,.d .i,.d .i,.d .i,.fn [yR,yR] [.i]],[.own yR 23],fun x=>qF fu x.1 x.2.1 x.2.2.1 x.2.2.2.1 (fun z0 z1=>x.2.2.2.2.1 (z0,z1,())),1⟩
theorem qq: ∀fu:Nat,yw (Z1 fu)
 |0=>sg0 (by kernel_rfl) fun _=>rfl
 |fu+1=>OT (fu:=fu) ⟨[],[],[(2,⟨⟨[(1,.d .i),(2,.d .i),(3,.d .i),(0,.own yR 23)],[(10,.kb true),(11,.kb true)]⟩,⟨[],[(.r,⟨[(0,.own yR 23)],[]⟩)]⟩⟩)],[],[],[]⟩ Tryz.func323 (cC (qq fu)<|cC (kR fu)<|cN) (by kernel_rfl) fun pn x=>by kernel_rfl
theorem XC:yw ⟨260,[.own yR 23,.fn [yR,yR] [.i]],[.own yR 23],fun x=>xA fu x.1 (fun z0 z1=>x.2.1 (z0,z1,())),1⟩:=OT (fu:=fu) vc Tryz.func260 (cC (Jv fu)<|cC (qq fu)<|cN) (by kernel_rfl) fun pn x=>by kernel_rfl
theorem A6:yw ⟨187,[.d yR,.d .i,.d yR],[.own yR 23,.d .i],fun x=>ZD fu x.1 x.2.1 x.2.2.1,0⟩:=sq fu vc Tryz.func187 (cC (ru fu)<|cC (sn fu)<|cC (BQ fu)<|cC (XC fu)<|cC (mo fu)<|cN)
theorem CP:yw ⟨184,[.d .i],[.d .i,.d .i],fun x=>xK fu x.1,0⟩:=sq fu ⟨[],[],[(4,⟨⟨[(0,.d .i)],[]⟩,⟨[],[(.x 0,⟨[(0,.d .i)],[]⟩)]⟩⟩)],[],[],[]⟩ Tryz.func184 (cC (WC fu)<|cN)
theorem BG:yw ⟨185,[.d xa,.d .i],[.d .b,.d .i],fun x=>Wo fu x.1 x.2.1,0⟩:=sq fu vc Tryz.func185 (cC (yJ fu)<|cC (X0 fu)<|cC (YQ fu)<|cC (WC fu)<|cC (sS fu)<|cN)
theorem Bn:yw ⟨121,[.d xa,.d yR],[.d .i,.own yR 23],fun x=>XY fu x.1 x.2.1,0⟩:=sq fu ⟨[],[],[(4,⟨⟨[(6,.d .i),(7,.d .i),(8,.own yR 23),(9,.d .i),(10,.d .i)],[]⟩,⟨[],[(.x 0,⟨[(6,.d .i),(8,.own yR 23)],[]⟩)]⟩⟩)],[],[],[]⟩ Tryz.func121 (cC (CP fu)<|cC (BG fu)<|cC (YQ fu)<|cC (A6 fu)<|cN)
theorem pB:yw ⟨263,[.d .i],[.d zY],fun x=>Ua fu x.1,0⟩:=sq fu ⟨[],[(262149,⟨[2,3],[(.n,⟨[(0,.d .i),(6,.d .i),(8,.d .b)],[]⟩)]⟩)],[(3,⟨⟨[(7,.d .i),(2,.var zY 30),(3,.var zY 30)],[]⟩,⟨[],[(.x 0,⟨[(2,.var zY 30),(3,.var zY 30)],[]⟩)]⟩⟩)],[(5,[])],[],[]⟩ Tryz.func263 (cC (XW fu)<|cC (xj fu)<|cC (xo fu)<|cN)
theorem rP:yw ⟨262,[.d zY,.d .i],[.d zY],fun x=>ua fu x.1 x.2.1,0⟩:=sq fu ⟨[2],[],[(2,⟨⟨[(1,.d .i),(2,.var zY 30),(5,.var zY 30)],[]⟩,⟨[4],[(.x 0,⟨[(5,.var zY 30)],[]⟩)]⟩⟩)],[],[],[]⟩ Tryz.func262 (cC (xj fu)<|cC (xo fu)<|cN)
theorem sy:yw ⟨364,[.d xa,.d xa],[.d zY],fun x=>UQ fu x.1 x.2.1,0⟩:=sq fu ⟨[],[(262149,⟨[4,5],[(.n,⟨[(1,.d xa),(9,.d xa),(10,.d .i),(12,.d .b)],[]⟩)]⟩)],[(3,⟨⟨[(11,.d .i),(4,.var zY 30),(5,.var zY 30)],[]⟩,⟨[],[(.x 0,⟨[(4,.var zY 30),(5,.var zY 30)],[]⟩)]⟩⟩)],[],[],[]⟩ Tryz.func364 (cC (xj fu)<|cC (uE fu)<|cC (xo fu)<|cN)
theorem rU:yw ⟨324,[.d xa,.d xa],[.d zY,.d .i],fun x=>U3 fu x.1 x.2.1,0⟩:=sq fu vc Tryz.func324 (cC (sy fu)<|cN)
theorem nB:yw ⟨264,[.d xa],[.d zY],fun x=>J0 fu x.1,0⟩:=sq fu vc Tryz.func264 (cC (rU fu)<|cN)
theorem Bc:yw ⟨190,[.d xa,.d .i,.d .i],[.d .i,.d .i],fun x=>cD fu x.1 x.2.1 x.2.2.1,0⟩:=sq fu ⟨[],[],[(13,⟨⟨[(16,.d .i),(15,.var zY 30)],[]⟩,⟨[8,13,14],[(.x 0,⟨[],[]⟩),(.r,⟨[(6,.d .i)],[(7,.ci 0)]⟩)]⟩⟩)],[],[],[]⟩ Tryz.func190 (cC (rP fu)<|cC (pB fu)<|cC (nB fu)<|cC (W7 fu)<|cC (xj fu)<|cC (xo fu)<|cC (X0 fu)<|cC (kz fu)<|cC (WC fu)<|cN)
theorem iE:yw ⟨193,[.d yR,.q yR,.q .i],[.d .b],fun x=>iR fu x.1 x.2.1 x.2.2.1,0⟩:=sq fu vc Tryz.func193 (cC (KZ fu)<|cN)
theorem sK:yw ⟨124,[.d xa,.d (.l yR),.d .i],[.own xa 22,.d xa,.d (.l yR)],fun x=>Yq fu x.1 x.2.1 x.2.2.1,0⟩:=sq fu ⟨[],[],[(2,⟨⟨[(0,.d xa),(1,.d (.l yR))],[(9,.nil)]⟩,⟨[],[(.x 0,⟨[(0,.d xa),(1,.d (.l yR))],[(9,.nil)]⟩)]⟩⟩)],[],[],[]⟩ Tryz.func124 (cC (VK fu)<|cC (iE fu)<|cC (YQ fu)<|cC (UI fu)<|cC (Bc fu)<|cN)
theorem ju:yw ⟨284,[.own xa 22,.d .i,.d .i,.fn [xa,xa] [.i]],[.own xa 22],fun x=>y6 fu x.1 x.2.1 x.2.2.1 (fun z0 z1=>x.2.2.2.1 (z0,z1,())),1⟩:=OT (fu:=fu) ⟨[],[],[(1,⟨⟨[(8,.d .i),(0,.own xa 22)],[]⟩,⟨[],[(.x 0,⟨[(0,.own xa 22)],[]⟩)]⟩⟩),(4,⟨⟨[(1,.d .i),(2,.d .i),(9,.d .i),(0,.own xa 22)],[]⟩,⟨[],[(.x 2,⟨[(1,.d .i),(2,.d .i),(0,.own xa 22)],[]⟩)]⟩⟩)],[(6,[])],[],[]⟩ Tryz.func284 (cN) (by kernel_rfl) fun pn x=>by kernel_rfl
def uB:Vb:=⟨201,[.own xa 22,.d .i,.d .i,.d .i,.fn [xa,xa] [.i]],[.own xa 22],fun x=>vf fu x.1 x.2.1 x.2.2.1 x.2.2.2.1 (fun z0 z1=>x.2.2.2.2.1 (z0,z1,())),1⟩
theorem vj: ∀fu:Nat,yw (uB fu)
 |0=>sg0 (by kernel_rfl) fun _=>rfl
 |fu+1=>OT (fu:=fu) ⟨[],[],[(2,⟨⟨[(1,.d .i),(2,.d .i),(3,.d .i),(0,.own xa 22)],[(10,.kb true),(11,.kb true)]⟩,⟨[],[(.r,⟨[(0,.own xa 22)],[]⟩)]⟩⟩)],[],[],[]⟩ Tryz.func201 (cC (vj fu)<|cC (ju fu)<|cN) (by kernel_rfl) fun pn x=>by kernel_rfl
theorem kN:yw ⟨127,[.own xa 22,.fn [xa,xa] [.i]],[.own xa 22],fun x=>yn fu x.1 (fun z0 z1=>x.2.1 (z0,z1,())),1⟩:=OT (fu:=fu) vc Tryz.func127 (cC (vj fu)<|cC (Jv fu)<|cN) (by kernel_rfl) fun pn x=>by kernel_rfl
theorem CU:yw ⟨60,[.d xa,.d yR],[.own xa 22,.d .b],fun x=>XT fu x.1 x.2.1,0⟩:=sq fu vc Tryz.func60 (cC (oE fu)<|cC (C9 fu)<|cC (Bn fu)<|cC (sD fu)<|cC (WQ fu)<|cC (sK fu)<|cC (UI fu)<|cC (rE fu)<|cC (kN fu)<|cN)
theorem BX:yw ⟨161,[.d zY,.d .i],[.d zY],fun x=>XP fu x.1 x.2.1,0⟩:=sq fu ⟨[],[],[(3,⟨⟨[(8,.d .i),(5,.var zY 30)],[]⟩,⟨[4],[(.x 0,⟨[(5,.var zY 30)],[]⟩)]⟩⟩)],[],[],[]⟩ Tryz.func161 (cC (xj fu)<|cC (xo fu)<|cN)
theorem r9:yw ⟨179,[.d xa,.d xa],[.own zY 30,.own zY 30,.d .i],fun x=>Yr fu x.1 x.2.1,0⟩:=sq fu ⟨[],[],[(9,⟨⟨[(1,.d xa),(9,.own zY 30),(11,.d .i),(10,.own zY 30)],[]⟩,⟨[8],[(.x 0,⟨[(9,.own zY 30),(10,.own zY 30)],[]⟩)]⟩⟩)],[(12,[]),(13,[1])],[],[]⟩ Tryz.func179 (cC (BX fu)<|cC (XW fu)<|cC (Yw fu)<|cC (yJ fu)<|cC (gw fu)<|cN)
theorem Hk:yw ⟨118,[.d xa,.d xa],[.own zY 30],fun x=>QI fu x.1 x.2.1,0⟩:=sq fu ⟨[],[],[(3,⟨⟨[(6,.d xa),(7,.own zY 30)],[]⟩,⟨[5],[(.x 0,⟨[(6,.d xa)],[]⟩)]⟩⟩)],[],[],[]⟩ Tryz.func118 (cC (mh fu)<|cC (r9 fu)<|cC (Yw fu)<|cC (kz fu)<|cC (Xn fu)<|cN)
theorem iK:yw ⟨181,[.d .i,.d zY],[.d zY],fun x=>Xq fu x.1 x.2.1,0⟩:=sq fu vc Tryz.func181 (cC (xj fu)<|cC (xo fu)<|cN)
theorem rI:yw ⟨119,[.d xa],[.own zY 30],fun x=>Yx fu x.1,0⟩:=sq fu vc Tryz.func119 (cC (yJ fu)<|cC (iK fu)<|cC (y3 fu)<|cN)
theorem NB:yw ⟨117,[.d xa,.d xa],[.own zY 30],fun x=>fY fu x.1 x.2.1,0⟩:=sq fu vc Tryz.func117 (cC (VK fu)<|cN)
theorem nW:yw ⟨59,[.d xa],[.own zY 30,.d .i],fun x=>wz fu x.1,0⟩:=sq fu vc Tryz.func59 (cC (cr fu)<|cC (NB fu)<|cC (Hk fu)<|cC (rI fu)<|cC (kz fu)<|cN)
theorem WX:yw ⟨15,[.d xa,.d yR],[.d zY,.own (.p xa .i) 42,.d .i],fun x=>yQ fu x.1 x.2.1,0⟩:=sq fu ⟨[],[(655371,⟨[4,11,32],[(.n,⟨[(0,.d xa),(33,.d .i),(35,.d .b)],[]⟩)]⟩)],[(9,⟨⟨[(11,.own (.p xa .i) 42),(34,.d .i),(4,.var zY 30),(32,.own xa 22)],[]⟩,⟨[],[(.x 0,⟨[(11,.own (.p xa .i) 42),(4,.var zY 30)],[]⟩)]⟩⟩)],[],[],[]⟩ Tryz.func15 (cC (nW fu)<|cC (CU fu)<|cC (CR fu)<|cC (Xn fu)<|cN)
theorem W2:yw ⟨16,[.d xa],[.d .b,.d .i],fun x=>vh fu x.1,0⟩:=sq fu vc Tryz.func16 (cC (WX fu)<|cN)
theorem YL:yw ⟨228,[.own .ch 5],[.own .ch 5],fun x=>qJ fu x.1,1⟩:=OT (fu:=fu) ⟨[],[],[(1,⟨⟨[(2,.d .i),(3,.d .i),(0,.own .ch 5)],[]⟩,⟨[],[(.x 0,⟨[(0,.own .ch 5)],[]⟩)]⟩⟩)],[(3,[])],[],[]⟩ Tryz.func228 (cN) (by kernel_rfl) fun pn x=>by kernel_rfl
theorem Bo:yw ⟨165,[.d .u,.d .b],[.d .tx],fun x=>QQ fu x.1 x.2.1,0⟩:=sq fu ⟨[],[],[(2,⟨⟨[(0,.d .u),(5,.own .ch 5)],[]⟩,⟨[],[(.x 0,⟨[(5,.own .ch 5)],[]⟩)]⟩⟩)],[],[],[]⟩ Tryz.func165 (cC (YL fu)<|cN)
theorem uZ:yw ⟨166,[.own .tx 9],[.own .tx 9],fun x=>vt fu x.1,1⟩:=OT (fu:=fu) ⟨[],[],[(1,⟨⟨[(2,.d .i),(3,.d .i),(0,.own .tx 9)],[]⟩,⟨[],[(.x 0,⟨[(0,.own .tx 9)],[]⟩)]⟩⟩)],[(3,[])],[],[]⟩ Tryz.func166 (cN) (by kernel_rfl) fun pn x=>by kernel_rfl
theorem rb:yw ⟨167,[.d (.l .tx),.d .tx],[.d .tx],fun x=>Kk fu x.1 x.2.1,0⟩:=Ti (by kernel_rfl) Tryz.strings_Join_none Tryz.strings_Join
theorem HI:yw ⟨106,[.d ZW],[.d .tx],fun x=>aB fu x.1,0⟩:=sq fu ⟨[],[],[(3,⟨⟨[(0,.d ZW),(3,.own .tx 9)],[]⟩,⟨[],[(.x 0,⟨[(3,.own .tx 9)],[]⟩)]⟩⟩)],[],[],[]⟩ Tryz.func106 (cC (gG fu)<|cC (Bo fu)<|cC (uZ fu)<|cC (rb fu)<|cC (yK fu)<|cC (xT fu)<|cN)
theorem GJ:yw ⟨49,[.d zY],[.d .tx],fun x=>gD fu x.1,0⟩:=sq fu vc Tryz.func49 (cC (HI fu)<|cC (vC fu)<|cN)
theorem rF:yw ⟨12,[],[.d .b],fun x=>VV fu,0⟩:=sq fu vc Tryz.func12 (cC (WX fu)<|cC (W2 fu)<|cC (GJ fu)<|cC (GZ fu)<|cC (CG fu)<|cC (ox fu)<|cN)
theorem sa:yw ⟨13,[.d .i,.d .i,.d xa],[.d .b],fun x=>kT fu x.1 x.2.1 x.2.2.1,0⟩:=sq fu ⟨[],[],[(4,⟨⟨[(7,.d .i)],[]⟩,⟨[],[(.x 0,⟨[],[]⟩),(.r,⟨[],[(6,.kb false)]⟩)]⟩⟩)],[],[],[]⟩ Tryz.func13 (cN)
theorem B4:yw ⟨22,[.d xa,.d xa],[.d .b],fun x=>Zk fu x.1 x.2.1,0⟩:=sq fu vc Tryz.func22 (cC (br fu)<|cN)
theorem UE:yw ⟨4,[.d xa,.d yR],[.d .b],fun x=>qo fu x.1 x.2.1,0⟩:=sq fu ⟨[],[],[(9,⟨⟨[(9,.own zY 30),(10,.d .i),(7,.own (.p xa .i) 42)],[]⟩,⟨[6],[(.x 0,⟨[(9,.own zY 30)],[]⟩),(.r,⟨[],[(4,.kb false)]⟩)]⟩⟩),(16,⟨⟨[(0,.d xa),(5,.d .b),(9,.own zY 30),(14,.d .i)],[]⟩,⟨[7],[(.x 2,⟨[(0,.d xa),(5,.d .b),(9,.own zY 30)],[]⟩)]⟩⟩)],[],[],[]⟩ Tryz.func4 (cC (rF fu)<|cC (sa fu)<|cC (WX fu)<|cC (W2 fu)<|cC (yJ fu)<|cC (B4 fu)<|cC (kz fu)<|cC (dF fu)<|cC (Kl fu)<|cN)
end
end
section
variable{x k:Nat}{r a b l:List Nat}
def nv:List Nat->Nat
 |[]=>0
 |x::r=>x+18446744073709551616*nv r
def wv:Nat->Nat->List Nat
 |0,_=>[]
 |k+1,n=>n % 18446744073709551616::wv k (n/18446744073709551616)
def ai:Nat->Nat->List Nat
 |0,_=>[]
 |f+1,n=>if n=0 then[]else n % 18446744073709551616::ai f (n/18446744073709551616)
def yI(n:Nat):List Nat:=ai n n
def tG:List Nat->List Nat
 |[]=>[]
 |x::r=>match tG r with
  |[]=>if x=0 then[]else[x]
  |y::s=>x::y::s
theorem zm.nil:zm []:=fun x hx=>absurd hx xaa
theorem zm.cons(h:x<18446744073709551616)(hr:zm r):zm (x::r):=fun y hy=>by
 rcases xae.1 hy with rfl|hy
 ·exact h
 ·exact hr y hy
theorem zm.head(h:zm (x::r)):x<18446744073709551616:=h x (FS)
theorem zm.tail(h:zm (x::r)):zm r:=fun y hy=>h y (H1 _ hy)
theorem zm.append(ha:zm a)(hb:zm b):zm (a++b):=fun x hx=>by
 rcases Nm.1 hx with h|h
 ·exact ha x h
 ·exact hb x h
theorem zm.take{a:List Nat}(h:zm a)(k:Nat):zm (a.take k):=fun x hx=>h x (xeD hx)
theorem zm.drop{a:List Nat}(h:zm a)(k:Nat):zm (a.drop k):=fun x hx=>h x (xeE hx)
theorem zm.getD{a:List Nat}(h:zm a)(k:Nat):a.getD k 0<18446744073709551616:=by
 rw[UV];by_cases hk:k<a.length
 ·rw[IR hk];exact h _ (xbh hk)
 ·rw[xaJ (by omega)];exact Nat.zero_lt_succ _
theorem zm.replicate(k:Nat):zm (xaf k 0):=fun x hx=>by rw[List.eq_of_mem_replicate hx];exact Nat.zero_lt_succ _
theorem oV:nv []=0:=rfl
theorem qX(x:Nat)(r:List Nat):nv (x::r)=x+18446744073709551616*nv r:=rfl
theorem jg: ∀(a b:List Nat),nv (a++b)=nv a+18446744073709551616^a.length*nv b
 |[],b=>by simp[nv]
 |x::a,b=>by
  rw[xbP,qX,jg a b,qX,xav,xbu,xbm];rw[xba (18446744073709551616^a.length) 18446744073709551616,xbe,xcY]
theorem XU: ∀k,nv (xaf k 0)=0
 |0=>rfl
 |k+1=>by rw[xed,qX,XU k]
theorem jz: ∀{l:List Nat},zm l->nv l<18446744073709551616^l.length
 |[],_=>by simp[nv]
 |x::r,h=>by
  have h1:=h.head;have h2:=jz h.tail;rw[qX,xav,xbu];omega
theorem bL(l:List Nat)(x:Nat):nv (l++[x])=nv l+18446744073709551616^l.length*x:=by
 rw[jg,qX,oV];simp
theorem yc: ∀k n,(wv k n).length=k
 |0,_=>rfl
 |k+1,n=>by rw[wv,xav,yc]
theorem xI: ∀k n,zm (wv k n)
 |0,_=>zm.nil
 |k+1,n=>zm.cons (xbq _ (by decide)) (xI k _)
theorem jD: ∀k n,nv (wv k n)=n % 18446744073709551616^k
 |0,n=>by simp[wv,nv,Nat.mod_one]
 |k+1,n=>by rw[wv,qX,jD k,xbu,xba (18446744073709551616^k),Nat.mod_mul]
theorem Ue: ∀{l:List Nat},zm l->wv l.length (nv l)=l
 |[],_=>rfl
 |x::r,h=>by
  have h1:=h.head;rw[xav,wv,qX,xcQ,xaF h1,xdx _ _ (by decide),xcc h1,xaT,Ue h.tail]
theorem sV(ha:zm a)(hb:zm b)(hl:a.length=b.length)(h:nv a=nv b):a=b:=by
 rw[<-Ue ha,<-Ue hb,hl,h]
theorem td: ∀k,wv k 0=xaf k 0
 |0=>rfl
 |k+1=>by rw[wv,Nat.zero_mod,Nat.zero_div,td k,xed]
theorem gi: ∀k n,wv (k+1) n=wv k n++[n/18446744073709551616^k % 18446744073709551616]
 |0,n=>by simp[wv]
 |k+1,n=>by rw[wv,gi k,wv,xbP,xaY,<-xfb]
theorem oz: ∀f n,zm (ai f n)
 |0,_=>zm.nil
 |f+1,n=>by
  rw[ai];split
  ·exact zm.nil
  ·exact zm.cons (xbq _ (by decide)) (oz f _)
theorem zw(n:Nat):zm (yI n):=oz n n
theorem LU: ∀f n,n<=f->nv (ai f n)=n
 |0,n,h=>by rw[ai,oV];omega
 |f+1,n,h=>by
  rw[ai];split
  ·rename_i h0;rw[oV,h0]
  ·rename_i h0;have ha:n/18446744073709551616<=f:=by
    have:=Nat.div_lt_self (n:=n) (k:=18446744073709551616) (by omega) (by decide);omega
   rw[qX,LU f _ ha,xfI]
theorem z7(n:Nat):nv (yI n)=n:=LU n n (xac _)
theorem MG: ∀f f' n,n<=f->n<=f'->ai f n=ai f' n
 |0,f',n,h,h'=>by
  have:n=0:=by omega
  subst this;cases f'<;>simp[ai]
 |f+1,0,n,h,h'=>by
  have:n=0:=by omega
  subst this;simp[ai]
 |f+1,f'+1,n,h,h'=>by
  rw[ai,ai];split
  ·rfl
  ·rename_i h0;have:=Nat.div_lt_self (n:=n) (k:=18446744073709551616) (by omega) (by decide);rw[MG f f' _ (by omega) (by omega)]
theorem QC:yI 0=[]:=rfl
theorem bT{n:Nat}(h:0<n):yI n=n % 18446744073709551616::yI (n/18446744073709551616):=by
 have e:yI n=ai ((n-1)+1) n:=by unfold yI;congr 1;omega
 have:=Nat.div_lt_self (n:=n) (k:=18446744073709551616) h (by decide);rw[e,ai,zx];congr 1;exact MG _ _ _ (by omega) (by omega)
theorem s9{n:Nat}(h0:0<n)(h:n<18446744073709551616):yI n=[n]:=by
 rw[bT h0,xaF h,xcc h,QC]
theorem AG{n:Nat}:yI n=[]↔n=0:=by
 constructor
 ·intro h;rw[<-z7 n,h];rfl
 ·rintro rfl;rfl
theorem vD{n:Nat}(h:0<n):0<(yI n).length:=by rw[bT h,xav];omega
theorem zJ: ∀(k n:Nat),(yI n).length<=k↔n<18446744073709551616^k
 |0,n=>by rw[Nat.le_zero,xbG,AG];simp;
 |k+1,n=>by
  by_cases h:n=0
  ·subst h;simp[QC];exact xbp (by decide)
  ·rw[bT (by omega),xav,Nat.add_le_add_iff_right,zJ k,xbf (by decide),xbu]
theorem P2{n:Nat}(h:0<n):(yI n).getD ((yI n).length-1) 0≠0:=by
 intro h0;have hp:=vD h;have e:=Ue (zw n);rw[z7]at e;obtain⟨k,hk⟩: ∃k,(yI n).length=k+1:=⟨(yI n).length-1,by omega⟩;have h1:=(zJ k n).2;rw[hk,gi]at e;rw[<-e]at h0;rw[show(wv k n++[n/18446744073709551616^k % 18446744073709551616]).length-1=(wv k n).length by simp]at h0;simp at h0;have h2:n<18446744073709551616^(k+1):=(zJ (k+1) n).1 (by omega);have h3:n/18446744073709551616^k<18446744073709551616:=by rw[xbf (xbp (by decide))];rwa[xbu,xba]at h2
 rw[xaF h3]at h0;have h4:n<18446744073709551616^k:=by
  rcases Nat.div_eq_zero_iff.1 h0 with h|h
  ·have:=xbp (n:=k) (show 0<18446744073709551616 by decide);omega
  ·exact h
 have:=h1 h4;omega
theorem UK: ∀(l:List Nat) (k:Nat),k+1=l.length->l.getD k 0≠0->tG l=l
 |[],_,h,_=>by simp at h
 |[x],0,_,h=>by simp at h;simp[tG,h]
 |[x],k+1,h,_=>by simp at h
 |x::y::r,0,h,_=>by simp at h
 |x::y::r,k+1,h,h0=>by
  have:=UK (y::r) k (by simpa using h) (by simpa using h0);simp only[tG]at this⊢;rw[this]
theorem GM: ∀{l:List Nat},zm l->tG l=yI (nv l)
 |[],_=>rfl
 |x::r,h=>by
  have ih:=GM h.tail;have hx:=h.head;rw[tG,ih,qX];by_cases hr:nv r=0
  ·rw[hr,QC];by_cases h0:x=0
   ·simp[h0,QC]
   ·simp only[h0,if_false,xdi,xch];rw[s9 (by omega) hx]
  ·have e1:=bT (n:=nv r) (by omega);have e2:=bT (n:=x+18446744073709551616*nv r) (by omega);rw[xcQ,xaF hx,xdx _ _ (by decide),xcc hx,xaT]at e2;rw[e2,e1]
theorem Gl(hl:zm l)(h:l=[]\/l.getD (l.length-1) 0≠0):yI (nv l)=l:=by
 rw[<-GM hl];rcases h with rfl|h
 ·rfl
 ·cases hn:l.length with
  |zero=>rw[xbB hn];rfl
  |succ k=>exact UK l k hn.symm (by rw[hn]at h;exact h)
theorem Bx(hl:zm l)(k:Nat):nv (l.take k)=nv l % 18446744073709551616^k:=by
 by_cases hk:k<=l.length
 ·have e:=jg (l.take k) (l.drop k);rw[xbK,xay,xcZ hk]at e;have:=jz (hl.take k);rw[xay,xcZ hk]at this;rw[e,xcQ,xaF this]
 ·rw[xaX (by omega),xaF];exact xap (jz hl) (xaK (by decide) (by omega))
theorem Bl(hl:zm l)(k:Nat):nv (l.drop k)=nv l/18446744073709551616^k:=by
 by_cases hk:k<=l.length
 ·have e:=jg (l.take k) (l.drop k);rw[xbK,xay,xcZ hk]at e;have:=jz (hl.take k);rw[xay,xcZ hk]at this;rw[e,xdx _ _ (xbp (by decide)),xcc this,xaT]
 ·rw[xcg (by omega),oV,xcc];exact xap (jz hl) (xaK (by decide) (by omega))
theorem QV: ∀{l:List Nat},zm l-> ∀k,l.getD k 0=nv l/18446744073709551616^k % 18446744073709551616
 |[],_,k=>by simp[nv]
 |x::r,h,0=>by rw[List.getD_cons_zero,qX,xeU,xeQ,xcQ,xaF h.head]
 |x::r,h,k+1=>by rw[List.getD_cons_succ,QV h.tail k,qX,xfb,<-xaY,xdx _ _ (by decide),xcc h.head,xaT]
theorem zcV{α:Type}{l:List α}{n:Nat}{z x:α}(hl:l.length=k)(hk:k<n):(l++xaf (n-k) z).set k x=(l++[x])++xaf (n-(k+1)) z:=by
 obtain⟨m,hm⟩: ∃m,n-k=m+1:=⟨n-k-1,by omega⟩;rw[hm,xed,xft _ _ (by omega),hl,xcW,List.set_cons_zero,xal];congr 2;rw[show n-(k+1)=m by omega];rfl
def xY(step:Nat->Nat->Nat×Nat):Nat->List Nat×Nat
 |0=>([],0)
 |k+1=>((xY step k).1++[(step k (xY step k).2).1],(step k (xY step k).2).2)
theorem xF(step:Nat->Nat->Nat×Nat): ∀k,(xY step k).1.length=k
 |0=>rfl
 |k+1=>by rw[xY,xau,xF step k];rfl
def gW(a b:List Nat)(k c:Nat):Nat×Nat:=((a.getD k 0+b.getD k 0+c) % 18446744073709551616,(a.getD k 0+b.getD k 0+c)/18446744073709551616)
theorem Lo{c:Nat}(ha:zm a)(hb:zm b)(hc:c<=1):(gW a b k c).2<=1:=by
 have h1:=ha.getD k;have h2:=hb.getD k;simp only[gW];omega
theorem vL(l:List Nat): ∀k,nv (l.take (k+1))=nv (l.take k)+18446744073709551616^k*l.getD k 0:=by
 induction l with
 |nil=>intro k;simp[nv]
 |cons x r ih=>
  intro k
  cases k with
  |zero=>simp[nv]
  |succ k=>
   rw[List.take_succ_cons,qX,ih k,List.take_succ_cons,qX,List.getD_cons_succ,xbu,xbm];rw[xba (18446744073709551616^k) 18446744073709551616,xbe,xcY]
theorem pO(a b:List Nat): ∀k,nv (xY (gW a b) k).1+18446744073709551616^k*(xY (gW a b) k).2=nv (a.take k)+nv (b.take k)/\zm (xY (gW a b) k).1
 |0=>⟨by simp[xY,nv],zm.nil⟩
 |k+1=>by
  obtain⟨ih,il⟩:=pO a b k;rw[xY,vL,vL,bL,xF];refine⟨?_,il.append (zm.cons (xbq _ (by decide)) zm.nil)⟩;generalize hc:(xY (gW a b) k).2=c at*
  simp only[gW];have e:=xfI (a.getD k 0+b.getD k 0+c) 18446744073709551616;generalize(a.getD k 0+b.getD k 0+c) % 18446744073709551616=r at*
  generalize(a.getD k 0+b.getD k 0+c)/18446744073709551616=q at*
  rw[xbu];generalize 18446744073709551616^k=p at*
  have e2:p*r+p*18446744073709551616*q=p*(a.getD k 0)+p*(b.getD k 0)+p*c:=by rw[xbe,<-xbm,e,xbm,xbm]
  omega
theorem zar{n:Nat}(ha:a.length<=n)(hb:b.length<=n):nv ((xY (gW a b) n).1++[(xY (gW a b) n).2])=nv a+nv b:=by
 rw[bL,xF,(pO a b n).1,xaX ha,xaX hb]
end
section
variable{x y k m j i:Nat}{l a b o o0 r:List Nat}
theorem nK(h:(yI x).length<(yI y).length):x<y:=by
 have h1:=(zJ (yI x).length x).1 (xac _);have h2: ¬y<18446744073709551616^(yI x).length:=fun h3=>by have:=(zJ _ y).2 h3;omega
 omega
theorem J2(x B k:Nat)(hB:0<B):x/B^k=B*(x/B^(k+1))+x/B^k % B:=by
 have:=xbD (x/B^k) B;rw[xaY,<-xbu]at this;exact this.symm
theorem Rf(h:x/18446744073709551616^(k+1)=y/18446744073709551616^(k+1))(hd:x/18446744073709551616^k % 18446744073709551616<y/18446744073709551616^k % 18446744073709551616):x<y:=by
 have h1:=J2 x 18446744073709551616 k (by decide);have h2:=J2 y 18446744073709551616 k (by decide);refine xdJ fun h3=> ?_;have h4:=Nat.div_le_div_right (c:=18446744073709551616^k) h3;omega
theorem zfZ(h:x/18446744073709551616^(k+1)=y/18446744073709551616^(k+1))(hd:x/18446744073709551616^k % 18446744073709551616=y/18446744073709551616^k % 18446744073709551616):
 x/18446744073709551616^k=y/18446744073709551616^k:=by
 have h1:=J2 x 18446744073709551616 k (by decide);have h2:=J2 y 18446744073709551616 k (by decide);omega
theorem u9(n k:Nat):(yI n).getD k 0=n/18446744073709551616^k % 18446744073709551616:=by rw[QV (zw n),z7]
theorem zab(h:(yI x).length=(yI y).length):x/18446744073709551616^(yI x).length=y/18446744073709551616^(yI x).length:=by
 rw[xcc ((zJ _ x).1 (xac _)),xcc ((zJ _ y).1 (by omega))]
theorem xQ(h:zm l):(yI (nv l)).length<=l.length:=(zJ _ _).2 (jz h)
theorem RV(hm:0<m)(h:x/18446744073709551616^m=y/18446744073709551616^m)(hd:(yI x).getD (m-1) 0=(yI y).getD (m-1) 0):x/18446744073709551616^(m-1)=y/18446744073709551616^(m-1):=by
 rw[u9,u9]at hd;exact zfZ (by rw[show m-1+1=m by omega];exact h) hd
theorem zb1(h:(yI x).length≠(yI y).length):kG ((yI x).length:Nat) ((yI y).length:Nat)=kG x y:=by
 rcases Nat.lt_or_gt_of_ne h with h|h
 ·have:=nK h;rw[qU (by omega),qU (by omega)]
 ·have:=nK h;rw[vE (by omega),vE (by omega)]
theorem Oj(hm:0<m)(h:x/18446744073709551616^m=y/18446744073709551616^m)(hd:(yI x).getD (m-1) 0≠(yI y).getD (m-1) 0):
 kG ((yI x).getD (m-1) 0:Nat) ((yI y).getD (m-1) 0:Nat)=kG x y:=by
 rw[show m=m-1+1 by omega]at h;rcases Nat.lt_or_gt_of_ne hd with hd|hd
 ·have ha:=hd;rw[u9,u9]at ha;have:=Rf h ha;rw[qU (by omega),qU (by omega)]
 ·have ha:=hd;rw[u9,u9]at ha;have:=Rf h.symm ha;rw[vE (by omega),vE (by omega)]
def Qo(a b:List Nat)(k c:Nat):Nat×Nat:=((a.getD k 0+18446744073709551616-b.getD k 0-c) % 18446744073709551616,if a.getD k 0<b.getD k 0+c then 1 else 0)
theorem pZ(a b:List Nat)(k c:Nat):(Qo a b k c).2<=1:=by
 simp only[Qo];split<;>omega
theorem DD{a b:List Nat}(ha:zm a)(hb:zm b): ∀k,nv (xY (Qo a b) k).1+nv (b.take k)=nv (a.take k)+18446744073709551616^k*(xY (Qo a b) k).2/\zm (xY (Qo a b) k).1/\(xY (Qo a b) k).2<=1
 |0=>⟨by simp[xY,nv],zm.nil,xaj _⟩
 |k+1=>by
  obtain⟨ih,il,ic⟩:=DD ha hb k;rw[xY,vL,vL,bL,xF];refine⟨?_,il.append (zm.cons (xbq _ (by decide)) zm.nil),pZ a b k _⟩;generalize hc:(xY (Qo a b) k).2=c at*
  simp only[Qo];have h1:=ha.getD k;have h2:=hb.getD k;generalize a.getD k 0=x at*
  generalize b.getD k 0=y at*
  rw[xbu];generalize 18446744073709551616^k=p at*
  have e:(x+18446744073709551616-y-c) % 18446744073709551616+y+c=x+18446744073709551616*(if x<y+c then 1 else 0):=by split<;>omega
  generalize(x+18446744073709551616-y-c) % 18446744073709551616=r at*
  generalize(if x<y+c then 1 else 0:Nat)=q at*
  have e2:p*r+p*y+p*c=p*x+p*18446744073709551616*q:=by rw[xbe,<-xbm,<-xbm,e,xbm]
  omega
theorem oy{n:Nat}(ha:zm a)(hb:zm b)(hc:a.length<=n)(hd:b.length<=n):
 nv (xY (Qo a b) n).1+nv b=nv a+18446744073709551616^n*(xY (Qo a b) n).2/\zm (xY (Qo a b) n).1/\(xY (Qo a b) n).2<=1:=by
 have:=DD ha hb n;rwa[xaX hc,xaX hd]at this
theorem tv{n:Nat}(ha:zm a)(hb:zm b)(hc:a.length<=n)(hd:b.length<=n):0<(xY (Qo a b) n).2↔nv a<nv b:=by
 obtain⟨h1,h2,h3⟩:=oy ha hb hc hd;have h4:=jz h2;rw[xF]at h4;constructor
 ·intro h;have:(xY (Qo a b) n).2=1:=by omega
  rw[this,xcD]at h1;omega
 ·intro h;refine xcE fun h0=> ?_;rw[h0,xdi]at h1;omega
theorem OQ{n:Nat}(ha:zm a)(hb:zm b)(hc:a.length<=n)(hd:b.length<=n)(h: ¬nv a<nv b):nv (xY (Qo a b) n).1=nv a-nv b:=by
 obtain⟨h1,h2,h3⟩:=oy ha hb hc hd;have: ¬0<(xY (Qo a b) n).2:=fun hp=>h ((tv ha hb hc hd).1 hp);have:(xY (Qo a b) n).2=0:=by omega
 rw[this,xdi]at h1;omega
def QS(a:List Nat)(x:Nat)(k c:Nat):Nat×Nat:=((a.getD k 0*x+c) % 18446744073709551616,(a.getD k 0*x+c)/18446744073709551616)
theorem dE{a c:Nat}(ha:a<18446744073709551616)(hx:x<18446744073709551616)(hc:c<18446744073709551616):(a*x+c)/18446744073709551616<18446744073709551616:=by
 have:a*x<=18446744073709551615*18446744073709551615:=xbE (by omega) (by omega);omega
theorem Lu{c:Nat}(ha:zm a)(hx:x<18446744073709551616)(hc:c<18446744073709551616):(QS a x k c).2<18446744073709551616:=dE (ha.getD k) hx hc
theorem FY(a:List Nat)(x:Nat): ∀k,nv (xY (QS a x) k).1+18446744073709551616^k*(xY (QS a x) k).2=nv (a.take k)*x/\zm (xY (QS a x) k).1
 |0=>⟨by simp[xY,nv],zm.nil⟩
 |k+1=>by
  obtain⟨ih,il⟩:=FY a x k;rw[xY,vL,bL,xF];refine⟨?_,il.append (zm.cons (xbq _ (by decide)) zm.nil)⟩;generalize hc:(xY (QS a x) k).2=c at*
  simp only[QS];have e:=xfI (a.getD k 0*x+c) 18446744073709551616;generalize(a.getD k 0*x+c) % 18446744073709551616=r at*
  generalize(a.getD k 0*x+c)/18446744073709551616=q at*
  rw[xbu];generalize 18446744073709551616^k=p at*
  have e2:p*r+p*18446744073709551616*q=p*(a.getD k 0*x)+p*c:=by rw[xbe,<-xbm,e,xbm]
  rw[xaV,xbe p (a.getD k 0) x];omega
theorem Ez(hc:(xY (QS a x) a.length).2<18446744073709551616):(xY (QS a x) a.length).1++[(xY (QS a x) a.length).2]=wv (a.length+1) (nv a*x):=by
 obtain⟨h1,h2⟩:=FY a x a.length;have hl:zm ((xY (QS a x) a.length).1++[(xY (QS a x) a.length).2]):=h2.append (zm.cons hc zm.nil);have hn:nv ((xY (QS a x) a.length).1++[(xY (QS a x) a.length).2])=nv a*x:=by rw[bL,xF,h1,xaX (xac _)]
 have:=Ue hl;rw[hn,xau,xF]at this;exact this.symm
theorem pk(ha:zm a)(hx:x<18446744073709551616):nv a*x<18446744073709551616^(a.length+1):=by
 have:=jz ha;rw[xbu]
 calc nv a*x<=nv a*18446744073709551616:=xaA _ (by omega)
  _<_:=xbT this (by decide)
theorem SR: ∀(o:List Nat) (j v:Nat),j<o.length->nv (o.set j v)+18446744073709551616^j*o.getD j 0=nv o+18446744073709551616^j*v
 |[],j,v,h=>by simp at h
 |x::r,0,v,h=>by simp[nv];omega
 |x::r,j+1,v,h=>by
  have ih:=SR r j v (by simpa using h);rw[List.set_cons_succ,qX,qX,List.getD_cons_succ,xbu,xba (18446744073709551616^j),xbe,xbe];omega
theorem zm.set{o:List Nat}(h:zm o)(j:Nat){v:Nat}(hv:v<18446744073709551616):zm (o.set j v):=fun x hx=>by
 rcases xeG hx with h1|h1
 ·exact h x h1
 ·rw[h1];exact hv
theorem Pb{c:Nat}(hj:j+i<o.length)(h:nv o+18446744073709551616^(j+i)*c=nv o0+18446744073709551616^j*nv (r.take i)):
 nv (o.set (j+i) ((o.getD (j+i) 0+r.getD i 0+c) % 18446744073709551616))+18446744073709551616^(j+(i+1))*((o.getD (j+i) 0+r.getD i 0+c)/18446744073709551616)=nv o0+18446744073709551616^j*nv (r.take (i+1)):=by
 have h1:=SR o (j+i) ((o.getD (j+i) 0+r.getD i 0+c) % 18446744073709551616) hj;rw[vL,xbm,<-xbe,<-xbW];have e:=xfI (o.getD (j+i) 0+r.getD i 0+c) 18446744073709551616;rw[show j+(i+1)=(j+i)+1 by omega,xbu];generalize(o.getD (j+i) 0+r.getD i 0+c) % 18446744073709551616=u at*
 generalize(o.getD (j+i) 0+r.getD i 0+c)/18446744073709551616=q at*
 generalize 18446744073709551616^(j+i)=p at*
 have e2:p*u+p*18446744073709551616*q=p*o.getD (j+i) 0+p*r.getD i 0+p*c:=by rw[xbe,<-xbm,e,xbm,xbm]
 omega
theorem X9(ha:zm a)(hb:zm b):nv a*nv (b.take k)<18446744073709551616^(a.length+k):=by
 have h1:=jz ha;have h2:=jz (hb.take k);have h3:18446744073709551616^(b.take k).length<=18446744073709551616^k:=xaK (by decide) (by rw[xay];omega);rw[xbW];exact xdK h1 (by omega)
theorem zdh{c:Nat}(h:nv o+18446744073709551616^(j+r.length)*c=nv o0+18446744073709551616^j*nv r)(hn:nv o0+18446744073709551616^j*nv r<18446744073709551616^(j+r.length)):
 c=0/\nv o=nv o0+18446744073709551616^j*nv r:=by
 have hc:c=0:=by
  refine xem fun hp=> ?_;have:18446744073709551616^(j+r.length)*1<=18446744073709551616^(j+r.length)*c:=xaA _ hp;omega
 subst hc;exact⟨rfl,by rw[xdi,xch]at h;exact h⟩
theorem Fw{p:List Nat}{c:Nat}(ha:zm a)(hb:zm b)(hi: ¬i<a.length+1)(hd:i<=a.length+1)(ho:nv o=nv a*nv (b.take k))(hp:nv p+18446744073709551616^(k+i)*c=nv o+18446744073709551616^k*nv ((wv (a.length+1) (nv a*b.getD k 0)).take i)):nv p=nv a*nv (b.take (k+1)):=by
 obtain rfl:i=a.length+1:=by omega
 have hl:=yc (a.length+1) (nv a*b.getD k 0);rw[xaX (by omega)]at hp;have hr:nv (wv (a.length+1) (nv a*b.getD k 0))=nv a*b.getD k 0:=by rw[jD,xaF (pk ha (hb.getD k))]
 have e:nv o+18446744073709551616^k*nv (wv (a.length+1) (nv a*b.getD k 0))=nv a*nv (b.take (k+1)):=by rw[hr,ho,vL,xbm,xea]
 have hc:nv o+18446744073709551616^k*nv (wv (a.length+1) (nv a*b.getD k 0))<18446744073709551616^(k+(wv (a.length+1) (nv a*b.getD k 0)).length):=by
  rw[e,hl,show k+(a.length+1)=a.length+(k+1)by omega];exact X9 ha hb
 generalize wv (a.length+1) (nv a*b.getD k 0)=r at*
 rw[<-hl]at hp;rw[(zdh hp hc).2,e]
theorem m32{a b:Nat}(ha:a<4294967296)(hb:b<4294967296):a*b<=18446744065119617025:=xbE (show a<=4294967295 by omega) (show b<=4294967295 by omega)
theorem zci(hx:x<18446744073709551616)(hy:y<18446744073709551616):(x % 4294967296)*(y % 4294967296)<=18446744065119617025/\(x/2^32)*(y % 4294967296)<=18446744065119617025/\
 (x % 4294967296)*(y/2^32)<=18446744065119617025/\(x/2^32)*(y/2^32)<=18446744065119617025:=
 ⟨m32 (by omega) (by omega),m32 (by omega) (by omega),m32 (by omega) (by omega),m32 (by omega) (by omega)⟩
theorem Sq(x y:Nat):x*y=18446744073709551616*((x/2^32)*(y/2^32))+4294967296*((x/2^32)*(y % 4294967296))+4294967296*((x % 4294967296)*(y/2^32))+(x % 4294967296)*(y % 4294967296):=by
 have h1:x=4294967296*(x/2^32)+x % 4294967296:=by omega
 have h2:y=4294967296*(y/2^32)+y % 4294967296:=by omega
 generalize x/2^32=x1 at*
 generalize y/2^32=y1 at*
 generalize x % 4294967296=x0 at*
 generalize y % 4294967296=y0 at*
 subst h1 h2;rw[xaV,xbm,xbm,xbe,xbe,xea x1 4294967296 y1,xea x0 4294967296 y1];omega
theorem Xd(hx:(yI x).length<=k)(hy:(yI y).length<=k):(yI (x+y)).length<=k+1:=by
 rw[zJ]at*
 rw[xbu];omega
theorem zjf{x0 x1 y0 y1 P:Nat}:x0*y0+P*((x0+x1)*(y0+y1)-x0*y0-x1*y1)+P*P*(x1*y1)=(x0+P*x1)*(y0+P*y1):=by
 have e:(x0+x1)*(y0+y1)-x0*y0-x1*y1=x0*y1+x1*y0:=by rw[xaV,xbm,xbm];omega
 rw[e,xaV,xbm,xbm,xbm];have e1:x0*(P*y1)=P*(x0*y1):=xea ..;have e2:P*x1*y0=P*(x1*y0):=xbe ..;have e3:P*x1*(P*y1)=P*P*(x1*y1):=by rw[xbe,xea x1,<-xbe]
 rw[e1,e2,e3];omega
theorem zbJ(x0 x1 y0 y1:Nat):x0*y0<=(x0+x1)*(y0+y1)/\x1*y1<=(x0+x1)*(y0+y1)-x0*y0:=by
 rw[xaV,xbm,xbm];omega
theorem EF(h:Nat):l.take (min h l.length)=l.take h:=by
 rw[Nat.min_def];split
 ·rfl
 ·rw[xaX (xac _),xaX (by omega)]
theorem DK(h:Nat):l.drop (min h l.length)=l.drop h:=by
 rw[Nat.min_def];split
 ·rfl
 ·rw[xcg (xac _),xcg (by omega)]
theorem pC(n:Nat)(l:List Nat):nv (xaf n 0++l)=18446744073709551616^n*nv l:=by
 rw[jg,XU,xaU,xaT]
theorem te(h:Nat):nv (l.take h)+18446744073709551616^h*nv (l.drop h)=nv l:=by
 by_cases hh:h<=l.length
 ·have e:=jg (l.take h) (l.drop h);rw[xbK,xay,xcZ hh]at e;exact e.symm
 ·rw[xcg (by omega),xaX (by omega),oV,xdi,xch]
theorem zbO{A B:List Nat}(h:Nat):nv (A.take h)*nv (B.take h)+18446744073709551616^h*((nv (A.take h)+nv (A.drop h))*(nv (B.take h)+nv (B.drop h))-nv (A.take h)*nv (B.take h)-nv (A.drop h)*nv (B.drop h))+
 18446744073709551616^(2*h)*(nv (A.drop h)*nv (B.drop h))=nv A*nv B:=by
 have:= @zjf (nv (A.take h)) (nv (A.drop h)) (nv (B.take h)) (nv (B.drop h)) (18446744073709551616^h);rw[te,te]at this;rw[Nat.two_mul,xbW];exact this
theorem YR(hx:(yI x).length<=j)(hy:(yI y).length<=k):(yI (x*y)).length<=j+k:=by
 rw[zJ]at*
 rw[xbW];exact xdK hx hy
theorem EP(q:Nat)(hx:(yI x).length<=k):(yI (18446744073709551616^q*x)).length<=q+k:=by
 rw[zJ]at*
 rw[xbW];exact Nat.mul_lt_mul_of_pos_left hx (xbp (by decide))
theorem Ko(h:x<=y):(yI x).length<=(yI y).length:=by
 have:=(zJ (yI y).length y).1 (xac _);exact(zJ _ x).2 (by omega)
theorem TN(a b h:Nat){x0 x1 y0 y1:Nat}(ha:x0=nv ((yI a).take h))(hb:x1=nv ((yI a).drop h))(hc:y0=nv ((yI b).take h))(hd:y1=nv ((yI b).drop h)):
 x0*y0+18446744073709551616^h*((x0+x1)*(y0+y1)-x0*y0-x1*y1)+18446744073709551616^(2*h)*(x1*y1)=a*b:=by
 subst ha hb hc hd;rw[zbO,z7,z7]
end
end Go.Proofs.YtmggkmchbdanfaaGreat
