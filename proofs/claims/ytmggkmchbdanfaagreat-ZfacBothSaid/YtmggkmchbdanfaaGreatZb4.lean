/- What a proof needs: rules of walking, mirrors of functions and their plain laws. No condition. -/
import Derived.Test.YtmggkmchbdanfaaGreatZb3
import Derived.Below
import Derived.Lib.Join
import Derived.Shelf.Strings.Builder1
import Derived.Shelf.Strings.Builder2
import Derived.Shelf.Strings.OnBuilder
import Derived.Shelf.Bits.Mul64
set_option linter.unusedVariables false
set_option linter.unusedSimpArgs false
namespace Go.Proofs
open Go.Shelf
def Tryz.lays156_ren:Go.Shelf.Ren:=⟨fun|156=>167|165=>229|166=>230|169=>231|240=>303|241=>304|276=>345|277=>346|n=>n,fun|31=>171|9=>9|3=>3|4=>4|0=>0|20=>20|72=>222|76=>226|70=>220|37=>218|75=>225|127=>270|164=>299|5=>5|80=>228|n=>n,fun|n=>n⟩
theorem Tryz.lays156:Go.Proofs.Lays.n156 Tryz.prog Tryz.lays156_ren:={
  mixed:=by kernel_rfl
  f156:=Tryz.func167.trans (congrArg some (by kernel_rfl))
  f165:=Tryz.func229.trans (congrArg some (by kernel_rfl))
  f166:=Tryz.func230.trans (congrArg some (by kernel_rfl))
  f169:=Tryz.func231.trans (congrArg some (by kernel_rfl))
  f240:=Tryz.func303.trans (congrArg some (by kernel_rfl))
  f241:=Tryz.func304.trans (congrArg some (by kernel_rfl))
  f276:=Tryz.func345.trans (congrArg some (by kernel_rfl))
  f277:=Tryz.func346.trans (congrArg some (by kernel_rfl))
  t0:=Tryz.underlying0
  a0:=Tryz.isAgg0
  z0:=Tryz.sizeOf0
  v0:=Tryz.zeroValue0
  t3:=Tryz.underlying3
  a3:=Tryz.isAgg3
  z3:=Tryz.sizeOf3
  v3:=Tryz.zeroValue3
  t4:=Tryz.underlying4
  a4:=Tryz.isAgg4
  z4:=Tryz.sizeOf4
  v4:=Tryz.zeroValue4
  t9:=Tryz.underlying9
  a9:=Tryz.isAgg9
  z9:=Tryz.sizeOf9
  v9:=Tryz.zeroValue9
  t20:=Tryz.underlying20
  a20:=Tryz.isAgg20
  z20:=Tryz.sizeOf20
  v20:=Tryz.zeroValue20
  t31:=Tryz.underlying171
  a31:=Tryz.isAgg171
  z31:=Tryz.sizeOf171
  v31:=Tryz.zeroValue171
  t37:=Tryz.underlying218
  a37:=Tryz.isAgg218
  z37:=Tryz.sizeOf218
  v37:=Tryz.zeroValue218
  t70:=Tryz.underlying220
  a70:=Tryz.isAgg220
  z70:=Tryz.sizeOf220
  v70:=Tryz.zeroValue220
  t72:=Tryz.underlying222
  a72:=Tryz.isAgg222
  z72:=Tryz.sizeOf222
  v72:=Tryz.zeroValue222
  t75:=Tryz.underlying225
  a75:=Tryz.isAgg225
  z75:=Tryz.sizeOf225
  v75:=Tryz.zeroValue225
  t76:=Tryz.underlying226
  a76:=Tryz.isAgg226
  z76:=Tryz.sizeOf226
  v76:=Tryz.zeroValue226
  t127:=Tryz.underlying270
  a127:=Tryz.isAgg270
  z127:=Tryz.sizeOf270
  v127:=Tryz.zeroValue270
  t164:=Tryz.underlying299
  a164:=Tryz.isAgg299
  z164:=Tryz.sizeOf299
  v164:=Tryz.zeroValue299}
theorem Tryz.Builder_Extra_156:Builder.Extra Tryz.prog Tryz.lays156_ren:={
  sizeBuilder:=by kernel_rfl
  liesBuilder:=by kernel_rfl
  t5:=Tryz.underlying5
  a5:=Tryz.isAgg5
  z5:=Tryz.sizeOf5
  v5:=Tryz.zeroValue5
  infoByte:=by kernel_rfl
  cellsByte:=by kernel_rfl
  sizeByte:=by kernel_rfl
  neB5:=by decide}
open Go.RowKit in
theorem Tryz.strings_Join_none(a:Option Addr)(c:Nat)(sep:ByteArray)(w:World):
    Calls Tryz.prog 167 #[.slice a 0 c,.string sep] w fun e w'=>e=.returned (.string ⟨#[]⟩)∧w'=w:=Any.strings_Join_none Tryz.lays156 Tryz.Builder_Extra_156 a c sep w
open Go.RowKit in
theorem Tryz.strings_Join(bk o c:Nat)(xs:List ByteArray)(sep:ByteArray)(w:World)(hcells:∀(j:Nat) x,xs[j]? =some x→w.cell? ⟨bk,o+j,none⟩=some (.string x))(hbk:bk<w.heap.size)(hN:xs.length≤140737488355328)(hcap:xs.length≤c)(hlen:(Lib.join (xs.map (·.data.toList)) sep.data.toList).length≤140737488355328):
    Calls Tryz.prog 167 #[.slice (some ⟨bk,o,none⟩) xs.length c,.string sep] w fun e w'=>e=.returned (.string ⟨(Lib.join (xs.map (·.data.toList)) sep.data.toList).toArray⟩)∧Below w.heap.size w w':=Any.strings_Join Tryz.lays156 Tryz.Builder_Extra_156 bk o c xs sep w hcells hbk hN hcap hlen
end Go.Proofs
namespace Go.Proofs.YtmggkmchbdanfaaGreat
open And renaming intro->xfx
open Bool renaming and_eq_true->xam
open Ending renaming returned->xeA
open Int renaming fdiv->xfS,natCast_nonneg->xdf,tdiv->xde,tmod->xcc
open Lib renaming bitLen->xeZ
open List renaming append_assoc->xaj,cons_append->xbI,drop->xdz,drop_eq_nil_of_le->xcm,eq_nil_of_length_eq_zero->xbt,getD_cons_succ->xel,getD_eq_getElem?_getD->H1,getElem?_eq_getElem->xaa,getElem?_eq_none->xaH,getElem?_map->xaT,getElem_mem->xbk,intercalate->xfF,length->xaI,length_append->xax,length_cons->xaq,length_drop->xbN,length_eq_zero_iff->xbF,length_map->xaP,length_nil->xbR,length_replicate->xaZ,length_take->xav,map_append->xbg,map_congr_left->xcj,map_cons->xbZ,map_map->xcT,mem_append->Nm,mem_cons->xad,mem_cons_of_mem->UV,mem_cons_self->FS,mem_of_mem_drop->xeM,mem_of_mem_take->xdU,mem_or_eq_of_mem_set->xeO,mem_singleton->xai,not_mem_nil->IR,replicate->xaf,replicate_succ->xeg,set_append_right->xfy,take->xdt,take_append_drop->xbH,take_of_length_le->xaQ,take_succ_cons->xeh
open List.Perm renaming swap->xeP
open List.cons renaming injEq->xez
open Nat renaming add_assoc->xcR,add_mul->xaR,add_mul_div_left->xcE,add_mul_mod_self_left->xbW,add_zero->xbS,beq->xao,ble->xfT,blt->xdd,div_add_mod->xbB,div_div_eq_div_mul->xaL,div_eq_of_lt->xbv,div_lt_iff_lt_mul->xbc,div_lt_self->xeB,div_one->xdT,eq_zero_of_not_pos->xes,le_refl->xab,le_trans->xan,lt_of_lt_of_le->xal,lt_of_not_le->xdy,lt_succ_self->xca,min_eq_left->xcN,mod_add_div->xff,mod_eq_of_lt->xar,mod_lt->xbi,mul_add->xbh,mul_assoc->xaX,mul_comm->xaU,mul_le_mul->xbJ,mul_le_mul_left->xaD,mul_left_comm->xeb,mul_lt_mul''->xdJ,mul_lt_mul_of_pos_right->xbX,mul_one->xcI,mul_zero->xcO,pos_of_ne_zero->xcJ,pow_add->xbY,pow_le_pow_right->xaz,pow_pos->xbj,pow_succ->xbd,pow_succ'->xek,pow_zero->xef,sub_self->xdb,zero_add->xaN,zero_le->xah,zero_lt_one->xea,zero_lt_succ->xfG
open Option.some renaming inj->xdv
open Prod.mk renaming injEq->xcx
open Sum renaming elim->xfu
open UInt8 renaming ofNat->xeX,toNat->xfm
open _root_.Array renaming toArray_toList->xdh
section
def zaA:(dom:List Ty)->dw dom->Nat->List (Nat×Nat×Dv)
 |[],_,_=>[]
 |t::r,x,i=>(i,0,.d t x.1)::zaA r x.2 (i+1)
def zem(g:FuncId)(t:Nat)(σ:Sg):Option (List PD):=match get ⟨0,[],[]⟩ σ t 0 with
 |some (.fn f cs)=>kQ (xao f g)<|some cs
 |_=>none
def zjK(cf:Cf)(fn:Func)(dom:List Ty)(g:FuncId)(x:dw dom):Option (List PD):=match fn.body,fn.results.toList with
 |some c,[.tmp t]=>kQ (MA fn.ntmps c && xfT dom.length fn.ntmps)<|aR cf c ⟨0,[],[]⟩ ⟨0,zaA dom x 0,[]⟩ fun q σ=>match q with
  |.r=>zem g t σ
  |.n=>zem g t σ
  |_=>none
 |_,_=>none
def zeE(t:Ty)(E E1:TypeId)(ix:List Nat)(lo n:Nat)(σ:Sg):Option (List<|List t.D):=match get ⟨0,[],[]⟩ σ 3 0 with
 |some (.mv o lo' n')=>(match xR σ.ob o with
  |some (.mat t' E' F' xss ix')=>kQ (xao E E' && xao E1 F')<|Ty.cast (.l (.l t')) (.l (.l t)) xss fun y=>ck (lo'=lo/\n'=n/\ix'=ix)<|some y
  |_=>none)
 |_=>none
def zhD(cf:Cf)(fn:Func)(t:Ty)(E E1:TypeId)(pn:Value)(xss:List (List t.D))(ix:List Nat)(r:Nat)(a p:Int)(lo n:Nat):Option (List<|List t.D):=match fn.body,fn.results.toList with
 |some c,[]=>kQ (MA fn.ntmps c && xfT 4 fn.ntmps)<|aR cf c ⟨0,[(3,0,.pin pn)],[]⟩ ⟨1,[(0,0,.rw 0 r),(1,0,.d .i a),(2,0,.d .i p),(3,0,.mv 0 lo n)],[(0,.mat t E E1 xss ix)]⟩ fun q σ=>match q with
  |.r=>zeE t E E1 ix lo n σ
  |.n=>zeE t E E1 ix lo n σ
  |_=>none
 |_,_=>none
section
variable{P:Program}{cf:Cf}{env:yR}{w:World}
theorem OT{S:Nat->Prop}{vs:Nat->Value}:∀{dom:List Ty}{x:dw dom}{i:Nat}{l:List Value},l.length=dom.length->(∀j v,l[j]? =some v->env (i+j)=v)->zD S (tsF dom x l) w->zD S (RS P vs env<|zaA dom x i) w
 |[],_,_,_,_,_,_=>trivial
 |a::dom,x,i,[],hl,_,_=>by cases hl
 |a::dom,x,i,v::l,hl,h,hA=>by
  have ih:zD S (RS P vs env<|zaA dom x.2<|i+1) w:=OT (l:=l) (by simpa using hl) (fun j v hj=>by
   have:=h (j+1) v (by simpa using hj);rw[show i+1+j=i+(j+1)by lia];exact this) hA.2
  have h0:env i=v:=h 0 v rfl;have ha:(fV a.rep x.1 v).p S w:=hA.1;exact⟨show(fV a.rep x.1<|env i).p S w by rw[h0];exact ha,ih⟩
theorem GZ:∀{dom:List Ty}{x:dw dom}{i:Nat},∀e∈zaA dom x i,wu e.2.2=none
 |[],_,_,e,he=>absurd he IR
 |a::dom,x,i,e,he=>by
  rcases xad.1 he with rfl|he
  ·rfl
  ·exact GZ e he
theorem zgZ(hm:P.follows .mixedOrders=true)(hT:y4 P cf.tt)(hL:jT P cf.tt)(hC:∀s∈cf.cs,y9 P s)(hX:Ak P cf){s:La}{fn:Func}
 (hf:P.funcs[s.f]? =some fn) (hb:Af P s.f=true) (hM:∀x,zjK cf fn s.dom s.g x=some (s.mc x)):MB P s:=by
 refine⟨hb,fun x vs hd=>Ot.plain ?_⟩;have h:=hM x;unfold zjK at h;split at h
 ·next c t hc hr=>
  obtain⟨ho,h⟩:=yn h;rw[xam]at ho;intro we Se F G w hs;refine QX hf hc (by rw[hd];exact ho.2) fun rest=> ?_;refine Ye (fr:=⟨we,Se,F,G⟩) (N:=Nd.of fn.ntmps) hm hT hL hC hX c ho.1 rfl (.inl rfl) h (fun q σ' hk Ds env w _ hR=> ?_) ?_
  ·obtain⟨hl,hR⟩:=Vs hR
   have fin:zem s.g t σ'=some (s.mc x)->∀a:Act,yz a=env->
    ∃v,(results fn a.tmps).run P (qw Ds w)=.ok v (qw Ds w)/\∃u:Value,xeA v=.returned u/\True/\St we Se ([]++F) ([zhk s.g (s.mc x) u]++G) (qw Ds w):=fun h a ha=>by
    unfold zem at h;split at h
    ·next f cs hg=>
     obtain⟨hi,h1⟩:=yn h;have hi:=yc hi;subst hi;cases h1;obtain⟨hB,vs',hn⟩:=hR;have hq:St we Se (MS vs' σ'.ob++F) (RS P vs' env σ'.rg++([]++G)) (qw Ds w):=hn;refine⟨_,Y7 (rs:=[.tmp t]) (vs:=[env t]) (by rw[<-hr,xdh])<|ha▸⟨rfl,trivial⟩,env t,rfl,trivial,?_⟩;have h3:=St.dropM (A:=[]) (B:=MS vs' σ'.ob) (C:=F) (by simpa using hq);refine h3.weak fun S w hΓ=>⟨?_,?_⟩
     ·exact Yd (fr:=⟨we,Se,F,G⟩) (cx:=⟨0,[],[]⟩) (show zD S (GS P vs' env ⟨we,Se,F,G⟩ ⟨0,[],[]⟩ σ') w from hΓ) t 0 _ hg
     ·exact zD.right hΓ
    ·cases h
   cases q with
   |n=>exact⟨.inl rfl,hl,fin hk⟩
   |r=>exact⟨.inr rfl,hl,fin hk⟩
   |x j=>cases hk
  ·refine⟨⟨fun _ he=>absurd he IR,fun _ he=>absurd he IR,fun e he p hp=> ?_,fun _ he=>absurd he IR⟩,fun _=>undef,?_⟩
   ·rw[GZ e he]at hp;cases hp
   ·show St we Se ([]++([]++F)) _ w;exact hs.weak fun S w hΓ=>zD.append (OT hd (fun j v hj=>HX hj)<|zD.left hΓ)<|zD.right hΓ
 ·cases h
theorem zcb{α:Type}{e:z7 α}{E E1:TypeId}{u:Value}{xss:List (List α)}{ix:List Nat}{S:Nat->Prop}(h:(mm e E E1 u xss ix).p S w):∀a k c,y5 u=.slice a k c->a.isSome=true->k=ix.length:=by
 intro a k c h1 h2;rcases Ug (CX h).2.1 with⟨hv,_⟩|⟨b,cap,hv,_⟩
 ·rw[h1]at hv;cases hv;cases h2
 ·rw[h1]at hv;cases hv;rfl
theorem ze8{cx σ:Sg}{t i:Nat}{d:Dv}(h:get ⟨0,[],[]⟩ σ t i=some d):get cx σ t i=some d:=by
 unfold get at h⊢;split at h
 ·exact h
 ·cases h
theorem zgz(hm:P.follows .mixedOrders=true)(hT:y4 P cf.tt)(hL:jT P cf.tt)(hC:∀s∈cf.cs,y9 P s)(hX:Ak P cf){s:tH}{fn:Func}
 (hf:P.funcs[s.f]? =some fn) (hb:Af P s.f=true) (hM:∀pn xss ix r a p lo n z,s.M xss ix r a p lo n=some z->zhD cf fn s.t s.E s.E1 pn xss ix r a p lo n=some z):MW P s:=by
 refine⟨hb,fun xss ix r a p lo n z hz u hr hv hx hl hy hA we Se F G w hn=> ?_⟩;have h:=hM hv xss ix r a p lo n z hz;unfold zhD at h;split at h
 ·next c hc hD=>
  obtain⟨ho,h⟩:=yn h;rw[xam]at ho;have hi:∀a k c,y5 u=.slice a k c->a.isSome=true->k=ix.length:=xV hn (i:=0) rfl fun S hp=>zcb hp;refine QX (args:=[hr,.int .i64 a,.int .i64 p,hv]) hf hc ho.2 fun rest=> ?_;refine Ye (fr:=⟨we,Se,F,G⟩) (N:=Nd.of fn.ntmps) hm hT hL hC hX c ho.1 rfl (.inl rfl) h (fun q σ' hk Ds env w _ hR=> ?_) ?_
  ·obtain⟨hs,hR⟩:=Vs hR
   have fin:zeE s.t s.E s.E1 ix lo n σ'=some z->∀a:Act,yz a=env->
    ∃v,(results fn a.tmps).run P (qw Ds w)=.ok v (qw Ds w)/\∃v' u',xeA v=.returned v'/\y5 u'=y5 u/\St we Se (mm s.t.rep s.E s.E1 u' z ix::F) G (qw Ds w):=fun h a ha=>by
    unfold zeE at h;split at h
    ·next o lo' n' hg=>
     split at h
     ·next t' E' F' zss ix' ho=>
      obtain⟨hE,h1⟩:=yn h;rw[xam]at hE;have hF:=yc hE.1;have hG:=yc hE.2;subst hF hG;obtain⟨e,h2⟩:=yo h1;cases e;obtain⟨⟨rfl,rfl,rfl⟩,h3⟩:=kU h2;cases h3;obtain⟨hB,vs',hd⟩:=hR;obtain⟨S0,_,ht⟩:=hd.ex;have hu:env 3=hv:=(zD.left<|zD.right ht).1;have hw:FI (y5<|vs' o) lo' n' (env 3):=Yd ht 3 0 _<|ze8 hg;rw[hu]at hw;have h2:St we Se (mm s.t.rep s.E s.E1 (vs' o) zss ix'::OS vs' ⟨we,Se,F,G⟩ ⟨0,[(3,0,.pin hv)],[]⟩ (yG σ'.ob o)) (GS P vs' env ⟨we,Se,F,G⟩ ⟨0,[(3,0,.pin hv)],[]⟩ σ') (qw Ds w):=ZM ho hd;have hj:∀a k c,y5 (vs' o)=.slice a k c->a.isSome=true->k=ix'.length:=xV h2 (i:=0) rfl fun S hp=>zcb hp;refine⟨_,Y7 (rs:=[]) (vs:=[]) (by rw[<-hD,xdh]) trivial,_,vs' o,rfl,hw.same hl hj hi,?_⟩;have h3:St we Se ([mm s.t.rep s.E s.E1 (vs' o) zss ix']++(MS vs' (yG σ'.ob o)++F)) (GS P vs' env ⟨we,Se,F,G⟩ ⟨0,[(3,0,.pin hv)],[]⟩ σ') (qw Ds w):=h2;exact(St.dropM h3).weak fun S w hΓ=>zD.right<|zD.right hΓ
     ·cases h
    ·cases h
   cases q with
   |n=>exact⟨.inl rfl,hs,fin hk⟩
   |r=>exact⟨.inr rfl,hs,fin hk⟩
   |x j=>cases hk
  ·refine⟨⟨fun e he=> ?_,fun _ he=>absurd he IR,fun e he q hq=> ?_,fun e he q hq=> ?_⟩,fun _=>u,?_⟩
   ·obtain rfl:=xai.1 he;exact xea
   ·simp only[xad,IR,or_false]at he;rcases he with rfl|rfl|rfl|rfl<;>cases hq<;>exact xea
   ·obtain rfl:=xai.1 he;cases hq
   ·refine hn.weak fun S w hΓ=>⟨hx,xO hy,xO hA,hl,rfl,hΓ⟩
 ·cases h
end
end
section
theorem zbM{ι:Type _}{R:Type}(S:ι->Tg×Sg)(f:ι->Option R)(inj:∀i j,S i=S j->f i=f j):∃K:Tg->Sg->Option R,(∀i,K (S i).1 (S i).2=f i)/\∀t σ r,K t σ=some r->∃i,S i=(t,σ)/\f i=some r:=by
 classical
 refine⟨fun t σ=>if h:∃i,S i=(t,σ)then f h.choose else none,fun i=> ?_,fun t σ r h=> ?_⟩
 ·have h:∃j,S j=((S i).1,(S i).2):=⟨i,rfl⟩;simp only[dif_pos h];exact inj _ _ h.choose_spec
 ·by_cases h1:∃i,S i=(t,σ)
  ·simp only[dif_pos h1]at h;exact⟨_,h1.choose_spec,h⟩
  ·simp only[dif_neg h1]at h;cases h
def chS(E:TypeId){X Y:Type}(mX:X->Value->MF)(mY:Y->Value->MF)(g:List Int->X->Option (List Int×(X⊕Y)))(n all:Int)(x:X)(xs:List Int):Sg:=
 ⟨2,[(4,0,.ow 1),(0,0,.yd 0),(1,0,.q .i n),(2,0,.q .i all)],[(1,.own .i E xs),(0,.hid .i E X Y mX mY g x)]⟩
section
variable{P:Program}{fr:Fr}{σ:Sg}{env:yR}{w:World}{E:TypeId}{X Y:Type}{mX:X->Value->MF}{mY:Y->Value->MF}{g:List Int->X->Option (List Int×(X⊕Y))}{n all:Int}{x:X}{y:Y}{xs:List Int}{o p:Nat}
theorem zfN(h4:get ⟨0,[],[]⟩ σ 4 0=some (.ow p))(h0:get ⟨0,[],[]⟩ σ 0 0=some (.yd o))(h1:get ⟨0,[],[]⟩ σ 1 0=some (.q .i n))(h2:get ⟨0,[],[]⟩ σ 2 0=some (.q .i all))(ho:xR σ.ob o=some (.hid .i E X Y mX mY g x))(hp:xR σ.ob p=some (.own .i E xs))
 (hb:xao o p=false) (h:Zc P fr ⟨0,[],[]⟩ σ env w):Zc P fr ⟨0,[],[]⟩ (chS E mX mY g n all x xs) env w:=by
 obtain⟨hB,vs,hc⟩:=h;have h5:=e9 hb ho hp hc;refine⟨⟨fun e he=> ?_,fun _ he=>absurd he IR,fun e he q hq=> ?_,fun _ he=>absurd he IR⟩,fun k=>if k=0 then vs o else vs p,?_⟩
 ·simp only[chS,xad,IR,or_false]at he⊢;rcases he with rfl|rfl<;>simp
 ·simp only[chS,xad,IR,or_false]at he⊢;rcases he with rfl|rfl|rfl|rfl<;>cases hq<;>simp
 ·have h6:St fr.we fr.Se ([Qv vs (o,.hid .i E X Y mX mY g x),Qv vs (p,.own .i E xs)]++(MS vs (yG (yG σ.ob o) p)++fr.F)) (GS P vs env fr ⟨0,[],[]⟩ σ) w:=h5;have h7:St fr.we fr.Se ([Qv vs (p,.own .i E xs),Qv vs (o,.hid .i E X Y mX mY g x)]++fr.F) (GS P vs env fr ⟨0,[],[]⟩ σ) w:=(St.dropM h6).perm<|xeP ..;refine h7.weak fun S w ha=>⟨?_,?_,?_,?_,?_⟩
  ·exact Yd ha 4 0 _ h4
  ·exact Yd ha 0 0 _ h0
  ·exact Yd ha 1 0 _ h1
  ·exact Yd ha 2 0 _ h2
  ·exact zD.right<|zD.right ha
theorem zgy{t:Ty}{g:List t.D->X->Option (List t.D×(X⊕Y))}(ho:xR σ.ob o=some (.hid t E X Y mX mY g x))(h:Zc P fr ⟨0,[],[]⟩ σ env w):∃u',St fr.we fr.Se (mX x u'::fr.F) fr.G w:=by
 obtain⟨hB,vs,hb⟩:=h;obtain⟨_,h2⟩:=St.unpr<|St.grp.1<|ZM ho hb;have h3:St fr.we fr.Se ([mX x<|(vg<|vs o).headD undef]++(MS vs (yG σ.ob o)++fr.F)) (GS P vs env fr ⟨0,[],[]⟩ σ) w:=h2;exact⟨_,(St.dropM h3).weak fun S w ha=>zD.right<|zD.right ha⟩
theorem zhO(ho:xR σ.ob o=some (.hiy Y mY y))(h:Zc P fr ⟨0,[],[]⟩ σ env w):∃u',St fr.we fr.Se (mY y u'::fr.F) fr.G w:=by
 obtain⟨hB,vs,hb⟩:=h;have h2:=ZM ho hb;have h3:St fr.we fr.Se ([mY y<|(vg<|vs o).headD undef]++(MS vs (yG σ.ob o)++fr.F)) (GS P vs env fr ⟨0,[],[]⟩ σ) w:=h2;exact⟨_,(St.dropM h3).weak fun S w ha=>zD.right<|zD.right ha⟩
end
end
section
section
variable{P:Program}
theorem L3{U:Type}{f:FuncId}{args:Array Value}{Γ:List FF}{val:U->Value}{facts:U->List FF}{ok:U->Prop}(h:Fn P f args Γ val facts ok):Ot P f args [] Γ val (fun _=>[]) facts ok:=by
 rintro we Se F G w ⟨h1,h2,h3,S,h4,h5,h6,h7,h8⟩;refine(h w S h5<|zD.left h8).mono ?_;rintro e w' ⟨u,e1,e2,e3,e4⟩;exact⟨u,e1,e2,h1.trans e3,h2,h3,S,h4,fun k hk=>h5 k<|xan e3.size hk,h6,yB.keep e3.to (fun m hm i hi=>e3.block i (yB.lt h7 m hm i hi) trivial) h7,zD.append e4<|zD.keep e3.to<|zD.right h8⟩
theorem Ot.to{U V:Type}{f:FuncId}{args:Array Value}{ms:List MF}{Γ:List FF}{val:U->Value}{own:U->List MF}{facts:U->List FF}{ok:U->Prop}{val':V->Value}{own':V->List MF}{facts':V->List FF}{ok':V->Prop}
 (h:Ot P f args ms Γ val own facts ok) (g:U->V) (h1:∀u,val u=val' (g u)) (h2:∀u,own u=own' (g u)) (h3:∀u,ok u->ok' (g u)) (h4:∀u,ok u->∀S w,zD S (facts u) w->zD S (facts'<|g u) w):Ot P f args ms Γ val' own' facts' ok':=by
 intro we Se F G w hb;refine(h we Se F G w hb).mono ?_;rintro e w' ⟨u,e1,e2,e3⟩;exact⟨g u,by rw[e1,h1],h3 u e2,by rw[<-h2];exact e3.weak fun S w ha=>zD.append (h4 u e2 S w<|zD.left ha)<|zD.right ha⟩
theorem zgw{f:FuncId}{s t:Ty}{M:s.D->Option t.D}(hb:Af P f=true)(h:∀x r v,M x=some r->Fn P f [v].toArray [fV s.rep x v] (fun u:Value=>u) (fun u=>[fV t.rep r u]) (fun _=>True)):y9 P ⟨f,[.d s],[.d t],fun x=>M x.1,0⟩:=by
 refine⟨hb,fun x r hM vs hl=> ?_⟩
 match vs,hl with
 |[v],_=>exact(L3<|h x.1 r v hM).to (fun u=>[u]) (fun _=>rfl) (fun _=>rfl) (fun _ _=>rfl) fun u _ S w ha=>ha
theorem zgS{f:FuncId}{M:Nat->Option Int}(hb:Af P f=true)(h:∀x r,x<18446744073709551616->M x=some r->Fn P f [.int .u64 (x:Int)].toArray [] (fun _:Unit=> .int .i64 r) (fun _=>[]) (fun _=>VH r)):y9 P ⟨f,[.d .u],[.d .i],fun x=>M x.1,0⟩:=by
 refine⟨hb,fun x r hM vs hl=> ?_⟩
 match vs,hl with
 |[v],_=>
  intro we Se F G w hc;obtain⟨S0,_,hΓ⟩:=hc.ex;obtain⟨hv,hx⟩:=Te (show(fV eU x.1 v).p S0 w from hΓ.1);have:=L3<|h x.1 r hx hM;rw[<-hv]at this;have h2:Ot P f [v].toArray [] [] Yg (fun us=>Zf [RM.d .i] r us) (fun us=>Ze [RM.d .i] r us) (fun us=>us.length=1):=this.to (fun _=>[.int .i64 r]) (fun _=>rfl) (fun _=>rfl) (fun _ _=>rfl) fun u hu S w ha=>⟨xO hu,trivial⟩;exact h2 we Se F G w<|hc.weak fun S w ha=>ha.2
end
end
section
section
variable{P:Program}
theorem QF.of_below{w w':World}(h:RowKit.Below w.heap.size w w'):QF w w':=⟨h.os,h.tape,h.output,h.size,fun k hk _=>h.block k hk⟩
def za1(xs:List (List Nat))(sep:List Nat):Option (List Nat):=ck (xs.length<=140737488355328)<|ck ((sep.intercalate xs).length<=140737488355328)<|some (sep.intercalate xs)
theorem Hf{S:Nat->Prop}{w:World}:∀{xs:List (List Nat)}{cs:List Value},yx eTx S xs cs w->∃bs:List ByteArray,cs=bs.map Value.string/\bs.map yQ=xs
 |[],cs,h=>⟨[],h,rfl⟩
 |x::xs,cs,⟨c,r,h1,h2,h3⟩=>by
  obtain⟨bs,e1,e2⟩:=Hf h3;obtain⟨b,e3,e4,_⟩:=h2;exact⟨b::bs,by rw[h1,e3,e1];rfl,by rw[xbZ,e4,e2]⟩
theorem BN{α β:Type}(f:α->β)(s:List α):∀X:List (List α),(s.intercalate X).map f=(s.map f).intercalate (X.map<|List.map f)
 |[]=>by simp[xfF]
 |[x]=>by simp[xfF]
 |x::y::r=>by
  have ih:=BN f s (y::r);simp only[xfF,xbZ,List.intersperse_cons_cons,List.flatten_cons,xbg]at ih⊢;rw[ih]
theorem NH(bs:List ByteArray)(s:ByteArray):yQ ⟨(Lib.join (bs.map (·.data.toList)) s.data.toList).toArray⟩=(yQ s).intercalate (bs.map yQ):=by
 show((Lib.join (bs.map (·.data.toList)) s.data.toList).toArray.toList).map xfm=_;rw[List.toList_toArray];unfold Lib.join;rw[BN,xcT];rfl
theorem zaV{f:FuncId}(hb:Af P f=true)
 (h0:∀(a:Option Addr) (c:Nat) (sep:ByteArray) (w:World),Calls P f #[.slice a 0 c,.string sep] w fun e w'=>e=.returned (.string ⟨#[]⟩)/\w'=w)
 (h1:∀(bk o c:Nat) (xs:List ByteArray) (sep:ByteArray) (w:World),(∀(j:Nat) x,xs[j]? =some x->w.cell? ⟨bk,o+j,none⟩=some (.string x))->bk<w.heap.size->xs.length<=140737488355328->xs.length<=c->(Lib.join (xs.map (·.data.toList)) sep.data.toList).length<=140737488355328->
  Calls P f #[.slice (some ⟨bk,o,none⟩) xs.length c,.string sep] w fun e w'=>e=.returned (.string ⟨(Lib.join (xs.map (·.data.toList)) sep.data.toList).toArray⟩)/\RowKit.Below w.heap.size w w'):
 y9 P ⟨f,[.d (.l .tx),.d .tx],[.d .tx],fun x=>za1 x.1 x.2.1,0⟩:=by
 refine⟨hb,fun x r hM vs hl=> ?_⟩
 match vs,hl with
 |[v,u],_=>
  have hM:za1 x.1 x.2.1=some r:=hM;unfold za1 at hM;obtain⟨k1,hM⟩:=kU hM;obtain⟨k2,hM⟩:=kU hM;have hr:r=xfF (α:=Nat) x.2.1 x.1:=(xdv hM).symm;have key:Fn P f #[v,u] [fV (eS eTx) x.1 v,fV eTx x.2.1 u] (fun _:Unit=> .string ⟨(r.map xeX).toArray⟩) (fun _=>[fV eTx r (.string ⟨(r.map xeX).toArray⟩)]) (fun _=>True):=by
   intro w Se hm hΓ;obtain⟨hv,hu,_⟩:=hΓ;obtain⟨sb,rfl,e2,e3⟩:=Ih hu;obtain⟨ao,cap,rfl,hf,hn,h⟩:=xp.1 hv;have fin:∀(t:List UInt8) (w':World),QF w w'->t.map xfm=r->FnQ Se w (fun _:Unit=> .string ⟨(r.map xeX).toArray⟩) (fun _=>[fV eTx r (.string ⟨(r.map xeX).toArray⟩)]) (fun _=>True) (.returned (.string ⟨t.toArray⟩)) w':=by
    intro t w' hx ht;have e5:t=r.map xeX:=by
     rw[<-ht,xcT];conv=>lhs;rw[<-List.map_id t]
     exact xcj fun b _=>by simp
    rw[<-e5];refine⟨(),rfl,trivial,hx,GV ?_ ?_,trivial⟩
    ·unfold yQ;simpa using ht
    ·have h6:=qv ⟨t.toArray⟩;have h7:(yQ ⟨t.toArray⟩).length=r.length:=by unfold yQ;rw[<-ht]
     have h8:r.length<=140737488355328:=by rw[hr];exact k2
     lia
   rcases h with h|⟨b,o,cs,rfl,hs,hd,hg⟩
   ·have h:x.1=([]:List (List Nat)):=h;have hi:r=[]:=by rw[hr,h];rfl
    rw[h];refine(h0 ao cap sb w).mono ?_;rintro e w' ⟨rfl,rfl⟩;exact fin [] w' (yw.refl _ _) hi.symm
   ·obtain⟨bs,e4,e5⟩:=Hf hg;have hc:bs.length=xaI (α:=List Nat) x.1:=by rw[<-e5,xaP]
    have hj:=NH bs sb;rw[e2,e5]at hj;have he:(Lib.join (bs.map (·.data.toList)) sb.data.toList).map xfm=r:=by
     rw[hr,<-hj];unfold yQ;simp
    have:=h1 b o cap bs sb w (fun j y hy=>hd.2 j (.string y)<|by rw[e4,xaT,hy];rfl) hd.1 (by rw[hc];exact k1) (by rw[hc];exact hf) (by
     have h9:=congrArg xaI he;rw[xaP]at h9;rw[h9,hr];exact k2)
    rw[hc]at this;refine this.mono ?_;rintro e w' ⟨rfl,hk⟩;exact fin _ w' (QF.of_below hk) he
  exact(L3 key).to (fun _=>[.string ⟨(r.map xeX).toArray⟩]) (fun _=>rfl) (fun _=>rfl) (fun _ _=>rfl) fun _ _ S w ha=>ha
end
end
section
set_option maxRecDepth 100000
variable{cs:List VF}{fu:Nat}{s:VF}
def tt:List (Nat×TI):=[(2,⟨.i,.int .i64,8⟩),(3,⟨.i,.int .i64,8⟩),(4,⟨.b,.bool,1⟩),(5,⟨.ch,.int .u8,1⟩),(6,⟨.ch,.int .u8,1⟩),(7,⟨(.p .i (.p .i (.p .b .ch))),.st 4,24⟩),(8,⟨(.p .i (.p .i (.p .b .ch))),.st 4,24⟩),(9,⟨.tx,.str,16⟩),(10,⟨.tx,.str,16⟩),(11,⟨.tx,.str,16⟩),(12,⟨.u,.int .u64,8⟩),(13,⟨(.p .tx .u),.st 2,24⟩),(14,⟨(.p .tx .u),.st 2,24⟩),(22,⟨(.l (.p .b (.l .u))),.sl 30,24⟩),(23,⟨(.l .i),.sl 3,24⟩),(26,⟨.i,.int .i64,8⟩),(28,⟨(.l .u),.sl 54,24⟩),(29,⟨(.p .b (.l .u)),.st 2,32⟩),(30,⟨(.p .b (.l .u)),.st 2,32⟩),(31,⟨(.l (.p (.l (.p .b (.l .u))) .i)),.sl 42,24⟩),(41,⟨(.p (.l (.p .b (.l .u))) .i),.st 2,32⟩),(42,⟨(.p (.l (.p .b (.l .u))) .i),.st 2,32⟩),(53,⟨.u,.int .u64,8⟩),(54,⟨.u,.int .u64,8⟩),(55,⟨(.l (.l (.p .b (.l .u)))),.sl 22,24⟩),(59,⟨(.l (.l (.p (.p .b (.l .u)) (.l .u)))),.sl 60,24⟩),(60,⟨(.l (.p (.p .b (.l .u)) (.l .u))),.sl 78,24⟩),(62,⟨(.p (.l (.p .b (.l .u))) (.l (.p (.p .b (.l .u)) (.l .u)))),.st 2,48⟩),(63,⟨(.p (.l (.p .b (.l .u))) (.l (.p (.p .b (.l .u)) (.l .u)))),.st 2,48⟩),(77,⟨(.p (.p .b (.l .u)) (.l .u)),.st 2,56⟩),(78,⟨(.p (.p .b (.l .u)) (.l .u)),.st 2,56⟩),(138,⟨(.l (.l .i)),.sl 23,24⟩),(169,⟨(.p (.l (.p .b (.l .u))) (.p (.l (.p .b (.l .u))) (.p (.p .b (.l .u)) (.p (.p .b (.l .u)) .b)))),.st 5,120⟩),(170,⟨(.p (.l (.p .b (.l .u))) (.p (.l (.p .b (.l .u))) (.p (.p .b (.l .u)) (.p (.p .b (.l .u)) .b)))),.st 5,120⟩),(171,⟨(.l .tx),.sl 9,24⟩),(218,⟨(.l .ch),.sl 5,24⟩),(251,⟨(.a 4 (.l (.p .b (.l .u)))),.ar 4 22,96⟩),(252,⟨(.a 4 (.l (.p .b (.l .u)))),.ar 4 22,96⟩),(257,⟨.i,.int .i64,8⟩),(285,⟨(.a 3 (.l .i)),.ar 3 23,72⟩),(286,⟨(.a 3 (.l .i)),.ar 3 23,72⟩),(293,⟨.u,.int .u64,8⟩),(313,⟨(.p (.l (.p .b (.l .u))) (.l (.l (.p .b (.l .u))))),.st 2,48⟩),(314,⟨(.p (.l (.p .b (.l .u))) (.l (.l (.p .b (.l .u))))),.st 2,48⟩),(318,⟨(.p (.p (.l (.p .b (.l .u))) (.l (.l (.p .b (.l .u))))) (.l (.l (.p .b (.l .u))))),.st 2,72⟩),(319,⟨(.p (.p (.l (.p .b (.l .u))) (.l (.l (.p .b (.l .u))))) (.l (.l (.p .b (.l .u))))),.st 2,72⟩),(322,⟨(.p (.p .b (.l .u)) (.p (.p .b (.l .u)) (.p .b (.l .u)))),.st 3,96⟩),(323,⟨(.p (.p .b (.l .u)) (.p (.p .b (.l .u)) (.p .b (.l .u)))),.st 3,96⟩),(342,⟨.ch,.int .u8,1⟩),(343,⟨.ch,.int .u8,1⟩)]
def ex:List (Nat×Bool):=[(214,true),(219,false)]
theorem tA{t:TypeId}{ti:TI}{tt:List (Nat×TI)}(h3:GX Tryz.prog t ti)(k:y4 Tryz.prog tt)(h1:tyB Tryz.prog t=some (ti.ty.rep.agg,ti.ty.n,ti.B,some<|ti.ty.rep.val<|zc ti.ty):=by kernel_rfl)(h2:(xdd 0 ti.B && xdd 0 ti.ty.n)=true:=by kernel_rfl):y4 Tryz.prog ((t,ti)::tt):=y4.add h1 h2 h3 k
theorem Mm:y4 Tryz.prog tt:=tA (id (by kernel_rfl:Tryz.prog.underlying 2=some (.int .i64)))<|
 tA (id (by kernel_rfl:Tryz.prog.underlying 3=some (.int .i64)))<|
 tA (id (by kernel_rfl:Tryz.prog.underlying 4=some .bool))<|
 tA (id (by kernel_rfl:Tryz.prog.underlying 5=some (.int .u8)))<|
 tA (id (by kernel_rfl:Tryz.prog.underlying 6=some (.int .u8)))<|
 tA ⟨rfl,by kernel_rfl⟩<|
 tA ⟨rfl,by kernel_rfl⟩<|
 tA (id (by kernel_rfl:Tryz.prog.underlying 9=some .string))<|
 tA (id (by kernel_rfl:Tryz.prog.underlying 10=some .string))<|
 tA (id (by kernel_rfl:Tryz.prog.underlying 11=some .string))<|
 tA (id (by kernel_rfl:Tryz.prog.underlying 12=some (.int .u64)))<|
 tA ⟨rfl,by kernel_rfl⟩<|
 tA ⟨rfl,by kernel_rfl⟩<|
 tA ⟨by kernel_rfl,_,rfl⟩<|
 tA ⟨by kernel_rfl,_,rfl⟩<|
 tA (id (by kernel_rfl:Tryz.prog.underlying 26=some (.int .i64)))<|
 tA ⟨by kernel_rfl,_,rfl⟩<|
 tA ⟨rfl,by kernel_rfl⟩<|
 tA ⟨rfl,by kernel_rfl⟩<|
 tA ⟨by kernel_rfl,_,rfl⟩<|
 tA ⟨rfl,by kernel_rfl⟩<|
 tA ⟨rfl,by kernel_rfl⟩<|
 tA (id (by kernel_rfl:Tryz.prog.underlying 53=some (.int .u64)))<|
 tA (id (by kernel_rfl:Tryz.prog.underlying 54=some (.int .u64)))<|
 tA ⟨by kernel_rfl,_,rfl⟩<|
 tA ⟨by kernel_rfl,_,rfl⟩<|
 tA ⟨by kernel_rfl,_,rfl⟩<|
 tA ⟨rfl,by kernel_rfl⟩<|
 tA ⟨rfl,by kernel_rfl⟩<|
 tA ⟨rfl,by kernel_rfl⟩<|
 tA ⟨rfl,by kernel_rfl⟩<|
 tA ⟨by kernel_rfl,_,rfl⟩<|
 tA ⟨rfl,by kernel_rfl⟩<|
 tA ⟨rfl,by kernel_rfl⟩<|
 tA ⟨by kernel_rfl,_,rfl⟩<|
 tA ⟨by kernel_rfl,_,rfl⟩<|
 tA ⟨rfl,by kernel_rfl⟩<|
 tA ⟨rfl,by kernel_rfl⟩<|
 tA (id (by kernel_rfl:Tryz.prog.underlying 257=some (.int .i64)))<|
 tA ⟨rfl,by kernel_rfl⟩<|
 tA ⟨rfl,by kernel_rfl⟩<|
 tA (id (by kernel_rfl:Tryz.prog.underlying 293=some (.int .u64)))<|
 tA ⟨rfl,by kernel_rfl⟩<|
 tA ⟨rfl,by kernel_rfl⟩<|
 tA ⟨rfl,by kernel_rfl⟩<|
 tA ⟨rfl,by kernel_rfl⟩<|
 tA ⟨rfl,by kernel_rfl⟩<|
 tA ⟨rfl,by kernel_rfl⟩<|
 tA (id (by kernel_rfl:Tryz.prog.underlying 342=some (.int .u8)))<|
 tA (id (by kernel_rfl:Tryz.prog.underlying 343=some (.int .u8)))<|
 y4.nil
theorem NV:jT Tryz.prog tt:=jT.of<|by kernel_rfl
theorem LX:cL Tryz.prog ex:=cL.add Tryz.func214 (by kernel_rfl) (by kernel_rfl) (by kernel_rfl) (fun _=>by kernel_rfl) (fun h=>by cases h)<|
 cL.add Tryz.func219 (by kernel_rfl) (by kernel_rfl) (by kernel_rfl) (fun h=>by cases h) (fun _=>by kernel_rfl)<|
 cL.nil
theorem M4:Tryz.prog.follows .mixedOrders=true:=by kernel_rfl
theorem sg(an:An){fn:Func}(hf:Tryz.prog.funcs[s.f]? =some fn)(hC:∀s∈cs,y9 Tryz.prog s)(hb:Af Tryz.prog s.f=true)(hM:∀x,Mq ⟨tt,cs,an,fu,ex,[],[],[]⟩ fn s.dom s.cod x=s.M x)(hk:s.bk=0:=by rfl):y9 Tryz.prog s:=
 sgP M4 Mm NV LX rfl an hf hC hb hk hM
theorem sq(fu:Nat)(an:An){fn:Func}(hf:Tryz.prog.funcs[s.f]? =some fn)(hC:∀s∈cs,y9 Tryz.prog s)(hb:Af Tryz.prog s.f=true:=by kernel_rfl)(hM:∀x,Mq ⟨tt,cs,an,fu,ex,[],[],[]⟩ fn s.dom s.cod x=s.M x:=by intro x;kernel_rfl)(hk:s.bk=0:=by rfl):y9 Tryz.prog s:=sg an hf hC hb hM hk
abbrev q1(S:List (Nat×TF))(j:Nat)(T:List (Nat×TF)):Lp:=⟨⟨S,[]⟩,⟨[],[(.x j,⟨T,[]⟩)]⟩⟩
abbrev yq(s:VF):Prop:=y9 Tryz.prog s
abbrev wX:An:=⟨[],[],[],[],[],[]⟩
abbrev xb:Ty:=.l (.p .b (.l .u))
abbrev zZ:Ty:=.p .b (.l .u)
abbrev R6:Ty:=.l (.l (.p .b (.l .u)))
abbrev j9:Ty:=.l .u
abbrev yS:Ty:=.l .i
theorem SL(an:An){fn:Func}(hf:Tryz.prog.funcs[s.f]? =some fn)(hC:∀s∈cs,y9 Tryz.prog s)(hb:Af Tryz.prog s.f=true)(hM:∀pn x,zeB ⟨tt,cs,an,fu,ex,[],[],[]⟩ fn s.dom s.cod s.bk pn x=s.M x):y9 Tryz.prog s:=
 sgG M4 Mm NV LX rfl an hf hC hb hM
end
section
set_option maxRecDepth 100000
section
variable(fu:Nat)
def UK(fu:Nat)(b:List Nat):(Int->Option Int)->Int->Option Int:=fun L a=>if 0<a then zg (a-1) fun d=>zH d (b.length) fun e=>nm (b.getD e 0) fun f=>if(f:Int)=(((0:Nat):Nat):Int)then zg (a-1) fun g=>L g else some a else some a
def Zs(a:List Nat):Option (List Nat):=bd (zm (UK fu a) fu<|(a.length:Int)) fun e=>jS e fun b=>ck (b<=a.length)<|nm (a.take b) fun d=>ck (((([]:List Nat)).length+d.length)*8<=140737488355328)<|nm ((([]:List Nat))++d) fun f=>some f
def xH(b:Zr):Option Zr:=bd (Zs fu b.2) fun a=>if b.1=true then if 0<(a.length:Int)then some (true,a)else some (false,a)else some (false,a)
def pB(a:Int):Option Zr:=if a<0 then zg (0-a) fun b=>nm (rY b) fun d=>bd (xH fu (true,[d])) fun e=>some e else nm (rY a) fun f=>bd (xH fu (false,[f])) fun g=>some g
def ZJ(b:Zr):Option Int:=bd (xH fu b) fun a=>if a.1=true then some (-1:Int)else if 0<(a.2.length:Int)then some (1:Int)else some (0:Int)
def UJ(b:List Zr):(Int->Option Int)->Int->Option Int:=fun L a=>if 0<a then zg (a-1) fun d=>zH d (b.length) fun e=>nm (b.getD e (false,[])) fun f=>bd (ZJ fu f) fun g=>if g=0 then zg (a-1) fun h=>L h else some a else some a
def KZ(d:List Zr)(f:Int):(((List Zr)×Int)->Option (List Zr))->((List Zr)×Int)->Option (List Zr):=fun L (a,b)=>if b<f then zH b (d.length) fun g=>nm (d.getD g (false,[])) fun h=>bd (xH fu h) fun e=>ck ((a.length+([e]).length)*32<=140737488355328)<|nm (a++([e])) fun i=>zg (b+1) fun j=>L (i,j)else some a
def kM(a:List Zr):Option (List Zr):=bd (zm (UJ fu a) fu<|(a.length:Int)) fun b=>bd (zm (KZ fu a b) fu<|([],(0:Int))) fun d=>some d
def Fo(a:List Int):(((List Zr)×Int)->Option (List Zr))->((List Zr)×Int)->Option (List Zr):=fun L (b,d)=>if d<(a.length:Int)then zH d (a.length) fun f=>nm (a.getD f 0) fun g=>bd (pB fu g) fun e=>ck ((b.length+([e]).length)*32<=140737488355328)<|nm (b++([e])) fun h=>zg (d+1) fun i=>L (h,i)else some b
def cW(a:List Int):Option (List Zr):=bd (zm (Fo fu a) fu<|([],(0:Int))) fun b=>bd (kM fu b) fun d=>some d
def KH(fu:Nat)(b:List Nat)(d:List Nat):(Int->Option (Unit⊕Unit))->Int->Option (Unit⊕Unit):=fun L a=>if a<(b.length:Int)then zH a (b.length) fun e=>nm (b.getD e 0) fun f=>zH a (d.length) fun g=>nm (d.getD g 0) fun h=>if(f:Int)=(h:Int)then zg (a+1) fun i=>L i else some (.inr ())else some (.inl ())
def WK(a:List Nat)(b:List Nat):Option Bool:=if(a.length:Int)=(b.length:Int)then bd (zm (KH fu a b) fu (0:Int)) fun d=>match d with
 |.inl _=>some true
 |.inr _=>some false else some false
def Wy(a:Zr)(b:Zr):Option Bool:=nm (a.1==b.1) fun d=>if d then bd (WK fu a.2 b.2) fun e=>some e else some false
def K9(b:List Zr)(d:List Zr):(Int->Option (Unit⊕Unit))->Int->Option (Unit⊕Unit):=fun L a=>if a<(b.length:Int)then zH a (b.length) fun e=>nm (b.getD e (false,[])) fun f=>zH a (d.length) fun g=>nm (d.getD g (false,[])) fun h=>bd (Wy fu f h) fun i=>if !i then some (.inr ())else zg (a+1) fun j=>L j else some (.inl ())
def kO(a:List Zr)(b:List Zr):Option Bool:=if(a.length:Int)=(b.length:Int)then bd (zm (K9 fu a b) fu (0:Int)) fun d=>match d with
 |.inl _=>some true
 |.inr _=>some false else some false
def Ui(b:List ((List Zr)×Int))(d:List ((List Zr)×Int)):(Int->Option (Unit⊕Unit))->Int->Option (Unit⊕Unit):=fun L a=>if a<(b.length:Int)then zH a (b.length) fun e=>nm (b.getD e ([],0)) fun f=>zH a (d.length) fun g=>nm (d.getD g ([],0)) fun h=>if f.2=h.2 then zH a (b.length) fun i=>nm (b.getD i ([],0)) fun j=>zH a (d.length) fun k=>nm (d.getD k ([],0)) fun l=>bd (kO fu j.1 l.1) fun m=>if !m then some (.inr ())else zg (a+1) fun o=>L o else some (.inr ())else some (.inl ())
def ZP(a:List ((List Zr)×Int))(b:List ((List Zr)×Int)):Option Bool:=if(a.length:Int)=(b.length:Int)then bd (zm (Ui fu a b) fu (0:Int)) fun d=>match d with
 |.inl _=>some true
 |.inr _=>some false else some false
def Xl(fu:Nat)(a:List Nat)(b:Int):Option Nat:=if b<(a.length:Int)then zH b (a.length) fun d=>nm (a.getD d 0) fun e=>some e else some (0:Nat)
def Um(b:Int)(a:Nat)(f:List Nat)(g:List Nat):Option (Nat×Nat):=bd (Xl fu f b) fun d=>bd (Xl fu g b) fun e=>ck (a<=1)<|nm ((d+e+a)%18446744073709551616) fun h=>nm ((d+e+a)/18446744073709551616) fun i=>some (h,i)
def Km(fu:Nat)(e:Int->Nat->Option (Nat×Nat))(f:List Nat):((Nat×Int×(List Nat))->Option (Nat×(List Nat)))->(Nat×Int×(List Nat))->Option (Nat×(List Nat)):=fun L (d,a,b)=>if a<(f.length:Int)then bd (e a d) fun(g,h)=>zH a (b.length) fun i=>nm (b.set i g) fun j=>zg (a+1) fun k=>L (h,k,j)else some (d,b)
def vb(d:Int)(e:Int->Nat->Option (Nat×Nat)):Option ((List Nat)×Nat):=jS d fun a=>ck (8*a<=281474976710656)<|nm (xaf a 0) fun b=>bd (zm (Km fu e b) fu<|((0:Nat),(0:Int),b)) fun(f,g)=>some (g,f)
def a7(fu:Nat):((List Nat)->Option (List Nat))->(List Nat)->Option (List Nat):=fun L a=>if 0<(a.length:Int)then zg (((a.length:Int))-1) fun d=>zH d (a.length) fun e=>nm (a.getD e 0) fun f=>if(f:Int)=(((0:Nat):Nat):Int)then zg (((a.length:Int))-1) fun g=>jS g fun b=>ck (b<=a.length)<|nm (a.take b) fun h=>L h else some a else some a
def xz(a:List Nat):Option (List Nat):=bd (zm (a7 fu) fu a) fun b=>some b
def ZC(fu:Nat):((List Nat)->Option (List Nat))->(List Nat)->Option (List Nat):=fun L a=>if 0<(a.length:Int)then zg (((a.length:Int))-1) fun d=>zH d (a.length) fun e=>nm ((a.getD e 0)) fun f=>if(f:Int)=(((0:Nat):Nat):Int)then zg (((a.length:Int))-1) fun g=>jS g fun b=>ck (b<=a.length)<|nm (a.take b) fun h=>L h else some a else some a
def yP(a:List Nat):Option (List Nat):=bd (zm (ZC fu) fu a) fun b=>some b
def kX(a:List Nat)(b:List Nat):Option (List Nat):=nm (max ((a.length:Int))<|(b.length:Int)) fun f=>bd (vb fu f<|fun zx0 zx1=>Um fu zx0 zx1 a b) fun(d,e)=>ck ((d.length+([e]).length)*8<=140737488355328)<|nm (d++([e])) fun g=>bd (yP fu g) fun h=>some h
def uE(fu:Nat)(a:Int):Option Bool:=if a=a then some false else some true
def jN(a:Int)(b:Int):Option Int:=bd (uE fu a) fun e=>bd (uE fu b) fun d=>if e then if d then some (0:Int)else some (-1:Int)else if d then some (1:Int)else if a<b then some (-1:Int)else if b<a then some (1:Int)else some (0:Int)
def jg(fu:Nat)(a:Nat):Option Bool:=if(a:Int)=(a:Int)then some false else some true
def vR(a:Nat)(b:Nat):Option Int:=bd (jg fu a) fun e=>bd (jg fu b) fun d=>if e then if d then some (0:Int)else some (-1:Int)else if d then some (1:Int)else if(a:Int)<(b:Int)then some (-1:Int)else if(b:Int)<(a:Int)then some (1:Int)else some (0:Int)
def U5(b:List Nat)(d:List Nat):(Int->Option (Unit⊕Int))->Int->Option (Unit⊕Int):=fun L a=>if 0<=a then zH a (b.length) fun e=>nm (b.getD e 0) fun f=>zH a (d.length) fun g=>nm (d.getD g 0) fun h=>if(f:Int)=(h:Int)then zg (a-1) fun i=>L i else zH a (b.length) fun j=>nm (b.getD j 0) fun k=>zH a (d.length) fun l=>nm (d.getD l 0) fun m=>bd (vR fu k m) fun o=>some (.inr o)else some (.inl ())
def W5(d:List Nat)(e:List Nat):Option Int:=bd (xz fu d) fun a=>bd (xz fu e) fun b=>if(a.length:Int)=(b.length:Int)then zg (((a.length:Int))-1) fun f=>bd (zm (U5 fu a b) fu f) fun g=>match g with
 |.inl _=>some (0:Int)
 |.inr h=>some h else bd (jN fu ((a.length:Int))<|(b.length:Int)) fun i=>some i
def xG(fu:Nat)(a:List Nat):Option (List Nat):=ck (a.length<=17592186044416)<|some a
def uQ(a:List Nat):Option (List Nat):=bd (xz fu a) fun b=>bd (xG fu b) fun d=>some d
def UH(fu:Nat)(b:Int)(a1:Nat)(a:List Nat)(d:Int):Option (Nat×Nat):=zH b (a.length) fun g=>nm (a.getD g 0) fun h=>ck ((64:Int)≠0)<|nm (xcc d (64:Int)) fun e=>ck (0<=e)<|nm (h*2^(min (e:Int).toNat 64)%18446744073709551616) fun i=>nm (i|||a1) fun j=>zH b (a.length) fun k=>nm (a.getD k 0) fun l=>nm (l/2^(min (((1:Nat)):Int).toNat 64)) fun m=>ck ((64:Int)≠0)<|nm (xcc d (64:Int)) fun o=>zg ((63:Int)-o) fun f=>ck (0<=f)<|nm (m/2^(min (f:Int).toNat 64)) fun p=>some (j,p)
def Zk(fu:Nat)(a:List Nat)(e:Int):Option (List Nat):=jS e fun b=>ck (8*b<=281474976710656)<|nm (xaf b 0) fun d=>ck ((d.length+a.length)*8<=140737488355328)<|nm (d++a) fun f=>some f
def Yx(b:List Nat)(a:Int):Option ((List Nat)×Int):=if a<0 then some (([],(1:Int)))else if 262144<a then some (([],(1:Int)))else bd (vb fu ((b.length:Int))<|fun zx0 zx1=>UH fu zx0 zx1 b a) fun(d,e)=>ck ((d.length+([e]).length)*8<=140737488355328)<|nm (d++([e])) fun f=>ck ((64:Int)≠0)<|zg (xde a (64:Int)) fun g=>bd (Zk fu f g) fun h=>bd (yP fu h) fun i=>some<|(i,(0:Int))
def UF(d:Int)(m:Nat)(a:List Nat)(b:Int):Option (Nat×Nat):=zH d (a.length) fun f=>nm (a.getD f 0) fun g=>ck (0<=b)<|nm (g/2^(min (b:Int).toNat 64)) fun h=>zg (d+1) fun i=>bd (Xl fu a i) fun j=>nm (j*2^(min (((1:Nat)):Int).toNat 64)%18446744073709551616) fun k=>zg ((63:Int)-b) fun e=>ck (0<=e)<|nm (k*2^(min (e:Int).toNat 64)%18446744073709551616) fun m4=>nm (h|||m4) fun l=>some<|(l,(0:Nat))
def Q6(a:List Nat)(f:Int):Option (List Nat):=nm (max f (0:Int)) fun b=>ck ((64:Int)≠0)<|zg (xde b (64:Int)) fun g=>if(a.length:Int)<=g then some []else ck ((64:Int)≠0)<|zg (xde b (64:Int)) fun h=>jS h fun d=>ck (d<=a.length)<|nm (a.drop d) fun e=>ck ((64:Int)≠0)<|nm (xcc b (64:Int)) fun i=>bd (vb fu ((e.length:Int))<|fun zx0 zx1=>UF fu zx0 zx1 e i) fun(j,l)=>bd (yP fu j) fun k=>some k
def xw(fu:Nat)(a:Nat):Option Int:=bd ((if 4294967296<=(a:Int)then nm (a/2^(min (32:Int).toNat 64)) fun g=>some (g,32)else some (a,0):Option (Nat×Int))) fun(b,e)=>bd ((if 65536<=(b:Int)then nm (b/2^(min (16:Int).toNat 64)) fun h=>zg (e+16) fun i=>some (h,i)else some (b,e):Option (Nat×Int))) fun(d,f)=>if 256<=(d:Int)then nm (d/2^(min (8:Int).toNat 64)) fun j=>zg (f+8) fun k=>nm (j%256) fun l=>nm (xeZ l) fun m=>zg (k+((m:Int))) fun o=>some o else nm (d%256) fun p=>nm (xeZ p) fun q=>zg (f+((q:Int))) fun r=>some r
def xi(a:Nat):Option Int:=bd (xw fu a) fun b=>zg ((64:Int)-b) fun d=>some d
def qA(fu:Nat)(l:Nat)(m:Nat)(g:Nat):((Nat×Nat)->Option Nat)->(Nat×Nat)->Option Nat:=fun L (a,h)=>if(((4294967296:Nat):Nat):Int)<=(a:Int)then nm ((a+18446744073709551616-((1:Nat)))%18446744073709551616) fun b=>nm ((h+l)%18446744073709551616) fun d=>if(((4294967296:Nat):Nat):Int)<=(d:Int)then some b else L (b,d)else nm ((a*m)%18446744073709551616) fun i=>nm ((((4294967296:Nat))*h)%18446744073709551616) fun j=>nm ((j+g)%18446744073709551616) fun k=>if(k:Int)<(i:Int)then nm ((a+18446744073709551616-((1:Nat)))%18446744073709551616) fun e=>nm ((h+l)%18446744073709551616) fun f=>if(((4294967296:Nat):Nat):Int)<=(f:Int)then some e else L (e,f)else some a
def qD(fu:Nat)(k:Nat)(l:Nat)(f:Nat):((Nat×Nat)->Option Nat)->(Nat×Nat)->Option Nat:=fun L (g,a)=>if(((4294967296:Nat):Nat):Int)<=(a:Int)then nm ((a+18446744073709551616-((1:Nat)))%18446744073709551616) fun b=>nm ((g+k)%18446744073709551616) fun m32=>if(((4294967296:Nat):Nat):Int)<=(m32:Int)then some b else L (m32,b)else nm ((a*l)%18446744073709551616) fun h=>nm ((((4294967296:Nat))*g)%18446744073709551616) fun i=>nm ((i+f)%18446744073709551616) fun j=>if(j:Int)<(h:Int)then nm ((a+18446744073709551616-((1:Nat)))%18446744073709551616) fun d=>nm ((g+k)%18446744073709551616) fun e=>if(((4294967296:Nat):Nat):Int)<=(e:Int)then some d else L (e,d)else some a
def vS(o:Nat)(l:Nat)(a:Nat):Option (Nat×Nat):=if(a:Int)=(((0:Nat):Nat):Int)then none else if(a:Int)<=(o:Int)then none else if(o:Int)=(((0:Nat):Nat):Int)then ck (a≠0)<|nm (l/a) fun J=>ck (a≠0)<|nm (l%a) fun K=>some (J,K)else bd (xi fu a) fun M=>nm (rY M) fun f=>nm (a*2^(min (f:Int).toNat 64)%18446744073709551616) fun m=>nm (m/2^(min (((32:Nat)):Int).toNat 64)) fun b=>nm (m &&& ((4294967295:Nat))) fun G=>nm (o*2^(min (f:Int).toNat 64)%18446744073709551616) fun N=>nm ((((64:Nat))+18446744073709551616-f)%18446744073709551616) fun O=>nm (l/2^(min (O:Int).toNat 64)) fun m9=>nm (N|||m9) fun d=>nm (l*2^(min (f:Int).toNat 64)%18446744073709551616) fun g=>nm (g/2^(min (((32:Nat)):Int).toNat 64)) fun h=>nm (g &&& ((4294967295:Nat))) fun i=>ck (b≠0)<|nm (d/b) fun j=>nm ((j*b)%18446744073709551616) fun p=>nm ((d+18446744073709551616-p)%18446744073709551616) fun q=>bd (zm (qA fu b G h) fu (j,q)) fun H=>nm ((d*((4294967296:Nat)))%18446744073709551616) fun r=>nm ((r+h)%18446744073709551616) fun s=>nm ((H*m)%18446744073709551616) fun t=>nm ((s+18446744073709551616-t)%18446744073709551616) fun e=>ck (b≠0)<|nm (e/b) fun k=>nm ((k*b)%18446744073709551616) fun u=>nm ((e+18446744073709551616-u)%18446744073709551616) fun v=>bd (zm (qD fu b G i) fu (v,k)) fun I=>nm ((H*((4294967296:Nat)))%18446744073709551616) fun w=>nm ((w+I)%18446744073709551616) fun x=>nm ((e*((4294967296:Nat)))%18446744073709551616) fun y=>nm ((y+i)%18446744073709551616) fun A=>nm ((I*m)%18446744073709551616) fun B=>nm ((A+18446744073709551616-B)%18446744073709551616) fun C=>nm (C/2^(min (f:Int).toNat 64)) fun E=>some (x,E)
def vT(fu:Nat)(a:Nat)(b:Nat):Option (Nat×Nat):=nm (a &&& ((4294967295:Nat))) fun l=>nm (a/2^(min (((32:Nat)):Int).toNat 64)) fun m=>nm (b &&& ((4294967295:Nat))) fun o=>nm (b/2^(min (((32:Nat)):Int).toNat 64)) fun p=>nm ((l*o)%18446744073709551616) fun r=>nm ((m*o)%18446744073709551616) fun s=>nm (r/2^(min (((32:Nat)):Int).toNat 64)) fun t=>nm ((s+t)%18446744073709551616) fun q=>nm (q &&& ((4294967295:Nat))) fun u=>nm (q/2^(min (((32:Nat)):Int).toNat 64)) fun d=>nm ((l*p)%18446744073709551616) fun e=>nm ((u+e)%18446744073709551616) fun f=>nm ((m*p)%18446744073709551616) fun g=>nm ((g+d)%18446744073709551616) fun h=>nm (f/2^(min (((32:Nat)):Int).toNat 64)) fun i=>nm ((h+i)%18446744073709551616) fun j=>nm ((a*b)%18446744073709551616) fun k=>some (j,k)
def QB(i:Nat)(d:Nat)(j:Nat):((Nat×Nat)->Option Nat)->(Nat×Nat)->Option Nat:=fun L (b,a)=>bd (vT fu b j) fun(f,k)=>if(f:Int)<(a:Int)then some b else if(f:Int)=(a:Int)then if(k:Int)<=(i:Int)then some b else nm ((b+18446744073709551616-((1:Nat)))%18446744073709551616) fun g=>ck ((0:Nat)<=1)<|nm ((a+d+((0:Nat)))%18446744073709551616) fun l=>nm ((a+d+((0:Nat)))/18446744073709551616) fun m=>if(((0:Nat):Nat):Int)<(m:Int)then some g else L (g,l)else nm ((b+18446744073709551616-((1:Nat)))%18446744073709551616) fun h=>ck ((0:Nat)<=1)<|nm ((a+d+((0:Nat)))%18446744073709551616) fun o=>nm ((a+d+((0:Nat)))/18446744073709551616) fun e=>if(((0:Nat):Nat):Int)<(e:Int)then some h else L (h,o)
def VV(b:Nat)(d:Nat)(e:Nat)(a:Nat)(f:Nat):Option Nat:=if(a:Int)<=(b:Int)then some (18446744073709551615:Nat)else bd (vS fu b d a) fun(g,h)=>bd (zm (QB fu e a f) fu (g,h)) fun i=>some i
def KY(b:Int)(a:Nat)(f:List Nat)(g:List Nat):Option (Nat×Nat):=bd (Xl fu f b) fun d=>bd (Xl fu g b) fun e=>ck (a<=1)<|nm ((d+18446744073709551616-e-a)%18446744073709551616) fun h=>nm (if d<e+a then 1 else 0) fun i=>some (h,i)
def W7(a:List Nat)(b:List Nat):Option ((List Nat)×Int):=nm (max ((a.length:Int))<|(b.length:Int)) fun d=>bd (vb fu d<|fun zx0 zx1=>KY fu zx0 zx1 a b) fun(e,f)=>if(((0:Nat):Nat):Int)<(f:Int)then some (([],(1:Int)))else bd (yP fu e) fun g=>some<|(g,(0:Int))
def YE(a:List Nat)(b:List Nat):Option (List Nat):=bd (W7 fu a b) fun(d,e)=>some d
def K8(e:Int)(a:Nat)(b:List Nat)(f:Nat):Option (Nat×Nat):=zH e (b.length) fun g=>nm (b.getD g 0) fun h=>bd (vT fu h f) fun(i,d)=>ck ((0:Nat)<=1)<|nm ((d+a+((0:Nat)))%18446744073709551616) fun j=>nm ((d+a+((0:Nat)))/18446744073709551616) fun k=>nm ((i+k)%18446744073709551616) fun l=>some (j,l)
def W3(a:List Nat)(e:Nat):Option (List Nat):=bd (vb fu ((a.length:Int))<|fun zx0 zx1=>K8 fu zx0 zx1 a e) fun(b,d)=>ck ((b.length+([d]).length)*8<=140737488355328)<|nm (b++([d])) fun f=>some f
def QI(d:List Nat)(f:Nat):((Nat×Int×(List Nat))->Option (Nat×(List Nat)))->(Nat×Int×(List Nat))->Option (Nat×(List Nat)):=fun L (e,a,b)=>if 0<=a then zH a (d.length) fun g=>nm (d.getD g 0) fun h=>bd (vS fu e h f) fun(i,j)=>zH a (b.length) fun k=>nm (b.set k i) fun l=>zg (a-1) fun m=>L (j,m,l)else some (e,b)
def Xk(a:List Nat)(d:Nat):Option ((List Nat)×Nat):=jS ((a.length:Int)) fun b=>ck (8*b<=281474976710656)<|nm (xaf b 0) fun e=>zg (((a.length:Int))-1) fun f=>bd (zm (QI fu a d) fu<|((0:Nat),f,e)) fun(g,h)=>bd (yP fu h) fun i=>some (i,g)
def UR(b:List Nat):((Int×Int×Nat×(List Nat))->Option (Int×Int×Nat×(List Nat)))->(Int×Int×Nat×(List Nat))->Option (Int×Int×Nat×(List Nat)):=fun L (g,h,d,a)=>bd (W3 fu b d) fun e=>bd (W5 fu e a) fun f=>if 0<f then nm ((d+18446744073709551616-((1:Nat)))%18446744073709551616) fun i=>L (g,h,i,a)else some (g,h,d,a)
def Xu(O:Int)(e:List Nat):(((List Nat)×Int×(List Nat)×(List Nat))->Option ((List Nat)×(List Nat)))->((List Nat)×Int×(List Nat)×(List Nat))->Option ((List Nat)×(List Nat)):=fun L (b,d,a,f)=>if 0<=d then zg (d+((e.length:Int))) fun p=>zH p (a.length) fun P=>nm ((a.getD P 0)) fun Q=>zg (d+((e.length:Int))) fun q=>zg (q-1) fun r=>zH r (a.length) fun R=>nm ((a.getD R 0)) fun S=>zg (d+((e.length:Int))) fun s=>zg (s-2) fun t=>zH t (a.length) fun U=>nm ((a.getD U 0)) fun V=>zg (((e.length:Int))-1) fun u=>zH u (b.length) fun W=>nm (b.getD W 0) fun X=>zg (((e.length:Int))-2) fun v=>zH v (b.length) fun Y=>nm (b.getD Y 0) fun Z=>bd (VV fu Q S V X Z) fun m5=>zg (d+((e.length:Int))) fun w=>zg (w+1) fun x=>jS d fun g=>jS x fun h=>ck (g<=h/\h<=a.length)<|nm (xdt (h-g)<|xdz g a) fun j=>ck (((([]:List Nat)).length+j.length)*8<=140737488355328)<|nm ((([]:List Nat))++j) fun y=>bd (zm (UR fu b) fu<|(O,(e.length:Int),m5,y)) fun(i4,M,N,A)=>zH d (f.length) fun B=>nm (f.set B N) fun C=>jS d fun i=>ck (i<=a.length)<|bd (W3 fu b N) fun E=>bd (YE fu A E) fun k=>zg (M+1) fun G=>jS G fun l=>ck ((k.length+l)*8<=140737488355328)<|nm (k++xaf l 0) fun m=>zg (M+1) fun H=>jS H fun o=>ck (o<=m.length)<|nm (m.take o) fun I=>nm (bZ i (a.length-i) a I) fun J=>zg (d-1) fun K=>L (b,K,J,C)else some (a,f)
def Q7(p:List Nat)(q:List Nat):Option ((List Nat)×(List Nat)×Int):=bd (xz fu p) fun b=>bd (xz fu q) fun a=>bd ((if(a.length:Int)=0 then some true else some false:Option Bool)) fun r=>if r then some (([],[],(3:Int)))else bd ((bd (W5 fu b a) fun s=>if s<0 then some true else some false:Option Bool)) fun t=>if t then bd (uQ fu b) fun u=>some (([],u,(0:Int)))else if(a.length:Int)=1 then zH 0 (a.length) fun v=>nm (a.getD v 0) fun w=>bd (Xk fu b w) fun(x,y)=>bd (yP fu [y]) fun A=>some ((x,A,(0:Int)))else zg (((a.length:Int))-1) fun B=>zH B (a.length) fun C=>nm (a.getD C 0) fun E=>bd (xi fu E) fun d=>bd (Yx fu a d) fun(e,K)=>bd (Yx fu b d) fun(f,M)=>zg (((b.length:Int))+1) fun G=>zg (G-((f.length:Int))) fun H=>jS H fun k=>ck ((f.length+k)*8<=140737488355328)<|nm (f++xaf k 0) fun l=>zg (((l.length:Int))-((e.length:Int))) fun I=>jS I fun m=>ck (8*m<=281474976710656)<|nm (xaf m 0) fun o=>zg (((o.length:Int))-1) fun J=>bd (zm (Xu fu d e) fu (e,J,l,o)) fun(g,h)=>bd (yP fu h) fun i=>bd (Q6 fu g d) fun j=>some<|(i,j,(0:Int))
def yU(b:Bool)(d:List Nat):Option Zr:=bd (uQ fu d) fun a=>if b then if 0<(a.length:Int)then some (true,a)else some (false,a)else some (false,a)
def Yj(b:Zr)(d:Zr):Option (Zr×Zr×Int):=bd (Q7 fu b.2 d.2) fun(e,a,f)=>if f=0 then bd ((if b.1=true then if 0<(a.length:Int)then bd (kX fu e [(1:Nat)]) fun g=>bd (W7 fu d.2 a) fun(h,o)=>some (g,h)else some (e,a)else some (e,a):Option ((List Nat)×(List Nat)))) fun(i,j)=>nm (!(b.1==d.1)) fun k=>bd (yU fu k i) fun l=>bd (yU fu false j) fun m=>some ((l,m,(0:Int)))else some (((false,[]),(false,[]),f))
def vW(a:Zr):Option Zr:=bd (yU fu a.1 a.2) fun b=>some b
def xA(b:Zr):Option Int:=bd (vW fu b) fun a=>if a.1=true then zg ((0:Int)-2) fun d=>zg (d+1) fun e=>some e else if 0<(a.2.length:Int)then zg ((0:Int)+1) fun f=>some f else some (0:Int)
def jk(b:Zr)(d:Zr):Option (Zr×Int):=bd (Yj fu b d) fun(e,f,a)=>bd ((if a=0 then some false else some true:Option Bool)) fun g=>if g then some (((false,[]),a))else bd (xA fu f) fun h=>if h=0 then some ((e,(0:Int)))else some (((false,[]),(4:Int)))
def Vm(fu:Nat)(d:Int)(i:List Nat)(j:List Nat)(k:Int)(e:List Nat):((Nat×Int×(List Nat)×(List Nat))->Option (List Nat))->(Nat×Int×(List Nat)×(List Nat))->Option (List Nat):=fun L (f,a,b,g)=>bd ((if a<(e.length:Int)then some ((i,d,j,k,d,(e.length:Int),true))else some ((i,d,j,k,d,(e.length:Int),false)):Option ((List Nat)×Int×(List Nat)×Int×Int×Int×Bool))) fun(y,l,A,B,C,E,p)=>if p then zH a (g.length) fun q=>nm ((g.getD q 0)) fun m=>zg (l+a) fun r=>zg (l+a) fun s=>zH s (b.length) fun t=>nm ((b.getD t 0)) fun o=>ck (f<=1)<|nm ((o+m+f)%18446744073709551616) fun u=>nm ((o+m+f)/18446744073709551616) fun v=>zH r (b.length) fun w=>nm (b.set w u) fun h=>zg (a+1) fun x=>L (v,x,h,g)else some b
def KS(f:List Nat)(a:List Nat):((Int×(List Nat))->Option (List Nat))->(Int×(List Nat))->Option (List Nat):=fun L (b,g)=>bd ((if b<(a.length:Int)then some ((f,a,(a.length:Int),true))else some ((f,a,(a.length:Int),false)):Option ((List Nat)×(List Nat)×Int×Bool))) fun(h,d,j,k)=>if k then zH b (d.length) fun l=>nm (d.getD l 0) fun m=>bd (W3 fu h m) fun i=>bd (zm (Vm fu b h d j i) fu<|((0:Nat),(0:Int),g,i)) fun e=>zg (b+1) fun o=>L (o,e)else some g
def Wx(d:List Nat)(e:List Nat):Option (List Nat):=zg (((d.length:Int))+((e.length:Int))) fun g=>zg (g+1) fun h=>jS h fun f=>ck (8*f<=281474976710656)<|nm (xaf f 0) fun i=>bd (zm (KS fu d e) fu<|((0:Int),i)) fun a=>bd (yP fu a) fun b=>some b
def W2:Nat->(List Nat)->(List Nat)->Option (List Nat)
 |0,_,_=>none
 |fu+1,y,A=>bd (xz fu y) fun a=>bd (xz fu A) fun b=>nm (min ((a.length:Int))<|(b.length:Int)) fun B=>if B<8 then bd (Wx fu a b) fun C=>some C else nm (max ((a.length:Int))<|(b.length:Int)) fun E=>ck ((2:Int)≠0)<|zg (xde E (2:Int)) fun d=>nm (min d<|(a.length:Int)) fun G=>jS G fun q=>ck (q<=a.length)<|nm (a.take q) fun H=>bd (xz fu H) fun r=>nm (min d<|(a.length:Int)) fun I=>jS I fun s=>ck (s<=a.length)<|nm (a.drop s) fun t=>nm (min d<|(b.length:Int)) fun J=>jS J fun u=>ck (u<=b.length)<|nm (b.take u) fun K=>bd (xz fu K) fun v=>nm (min d<|(b.length:Int)) fun M=>jS M fun w=>ck (w<=b.length)<|nm (b.drop w) fun x=>bd (W2 fu r v) fun e=>bd (W2 fu t x) fun f=>bd (kX fu r t) fun g=>bd (kX fu v x) fun h=>bd (W2 fu g h) fun i=>bd (YE fu i e) fun j=>bd (YE fu j f) fun k=>bd (Zk fu k d) fun l=>bd (kX fu e l) fun m=>zg ((2:Int)*d) fun N=>bd (Zk fu f N) fun o=>bd (kX fu m o) fun p=>some p
def zQ(a:Zr)(b:Zr):Option Zr:=nm (!(a.1==b.1)) fun d=>bd (W2 fu a.2 b.2) fun e=>bd (yU fu d e) fun f=>some f
def vC(a:Zr)(b:Zr):Option Zr:=nm (a.1==b.1) fun e=>if e then bd (kX fu a.2 b.2) fun f=>bd (yU fu a.1 f) fun g=>some g else bd ((bd (W5 fu a.2 b.2) fun h=>if h<0 then some (b,a)else some (a,b):Option (Zr×Zr))) fun(d,i)=>bd (W7 fu d.2 i.2) fun(j,l)=>bd (yU fu d.1 j) fun k=>some k
def uY(a:Zr):Option Zr:=bd (yU fu (!a.1) a.2) fun b=>some b
def qj(a:Zr)(b:Zr):Option Zr:=bd (uY fu b) fun d=>bd (vC fu a d) fun e=>some e
def Vr(d:Int)(a:Zr):Option Zr:=bd (vW fu a) fun b=>some b
def wm(fu:Nat)(a:List Zr)(f:Int->Zr->Option Zr):((Int×(List Zr))->Option (List Zr))->(Int×(List Zr))->Option (List Zr):=fun L (b,d)=>bd ((if b<(a.length:Int)then some ((a,(a.length:Int),true))else some ((a,(a.length:Int),false)):Option ((List Zr)×Int×Bool))) fun(e,o,g)=>if g then zH b (e.length) fun h=>nm (e.getD h (false,[])) fun i=>bd (f b i) fun j=>zH b (d.length) fun k=>nm (d.set k j) fun l=>zg (b+1) fun m=>L (m,l)else some d
def zE(a:List Zr)(d:Int->Zr->Option Zr):Option (List Zr):=jS ((a.length:Int)) fun b=>ck (32*b<=281474976710656)<|nm (xaf b (false,[])) fun e=>bd (zm (wm fu a d) fu<|((0:Int),e)) fun f=>some f
def ah:((List Zr)->Option (List Zr))->(List Zr)->Option (List Zr):=fun L a=>if 0<(a.length:Int)then zg (((a.length:Int))-1) fun d=>zH d (a.length) fun e=>nm (a.getD e (false,[])) fun f=>bd (xA fu f) fun g=>if g=0 then zg (((a.length:Int))-1) fun h=>jS h fun b=>ck (b<=a.length)<|nm (a.take b) fun i=>L i else some a else some a
def zJ(a:List Zr):Option (List Zr):=bd (zm (ah fu) fu a) fun b=>bd (zE fu b<|fun zx0 zx1=>Vr fu zx0 zx1) fun d=>some d
def QG(k:Int)(g:List Zr):((Int×(List Zr)×(List Zr)×(List Zr)×Zr)->Option ((List Zr)×(List Zr)×(List Zr)))->(Int×(List Zr)×(List Zr)×(List Zr)×Zr)->Option ((List Zr)×(List Zr)×(List Zr)):=fun L (a,f,b,d,e)=>bd ((if a<(g.length:Int)then some ((k,(g.length:Int),true))else some ((k,(g.length:Int),false)):Option (Int×Int×Bool))) fun(l,w,m)=>if m then zH a (f.length) fun o=>nm ((f.getD o (false,[]))) fun p=>zg (l+a) fun q=>zg (l+a) fun h=>zH h (b.length) fun r=>nm ((b.getD r (false,[]))) fun s=>bd (zQ fu e p) fun t=>bd (qj fu s t) fun u=>zH q (b.length) fun v=>nm (b.set v u) fun i=>zg (a+1) fun j=>L (j,f,i,d,e)else some (f,b,d)
def QL:((Int×(List Zr)×(List Zr)×(List Zr))->Option (((List Zr)×(List Zr))⊕Int))->(Int×(List Zr)×(List Zr)×(List Zr))->Option (((List Zr)×(List Zr))⊕Int):=fun L (b,a,d,e)=>if 0<=b then zg (b+((a.length:Int))) fun l=>zg (l-1) fun m=>zH m (d.length) fun o=>nm ((d.getD o (false,[]))) fun p=>zg (((a.length:Int))-1) fun q=>zH q (a.length) fun r=>nm ((a.getD r (false,[]))) fun s=>bd (jk fu p s) fun(j,k)=>if k=0 then zH b (e.length) fun t=>nm (e.set t j) fun u=>bd (zm (QG fu b a) fu<|((0:Int),a,d,u,j)) fun(f,g,h)=>zg (b-1) fun i=>L (i,f,g,h)else some (.inr k)else some (.inl (d,e))
def wJ(j:List Zr)(k:List Zr):Option ((List Zr)×Int):=bd (zJ fu j) fun a=>bd (zJ fu k) fun b=>if(b.length:Int)=0 then some (([],(3:Int)))else bd ((if 0<(a.length:Int)then if(a.length:Int)<(b.length:Int)then some (.inr ())else some (.inl ())else some (.inl ()):Option (Unit⊕Unit))) fun l=>match l with
 |.inl _=>(zg (((a.length:Int))-((b.length:Int))) fun m=>zg (m+1) fun o=>nm (max o (0:Int)) fun p=>jS p fun h=>ck (32*h<=281474976710656)<|nm (xaf h (false,[])) fun i=>zg (((i.length:Int))-1) fun q=>bd (zm (QL fu) fu (q,b,a,i)) fun r=>match r with
 |.inl (d,e)=>bd (zJ fu d) fun f=>if 0<(f.length:Int)then some (([],(4:Int)))else bd (zJ fu e) fun g=>some<|(g,(0:Int))
 |.inr s=>some ([],s))
 |.inr _=>some<|([],(4:Int))
def Vq(b:List Zr):((Int×(List Zr)×Int)->Option Int)->(Int×(List Zr)×Int)->Option Int:=fun L (a,d,e)=>if e=0 then zg (a+1) fun f=>bd (wJ fu d b) fun(g,h)=>L (f,g,h)else some a
def ZN(b:List Zr)(a:List Zr):Option Int:=bd (wJ fu b a) fun(d,e)=>bd (zm (Vq fu a) fu<|((0:Int),d,e)) fun f=>some f
def kY(fu:Nat)(d:Int):((Bool×Int)->Option Bool)->(Bool×Int)->Option Bool:=fun L (b,a)=>if b then zg (a*a) fun e=>if e<=d then ck (a≠0)<|nm (xcc d a) fun f=>if f=0 then some false else zg (a+1) fun g=>L (b,g)else some b else some b
def ks(a:Int):Option Bool:=bd ((if 2<=a then if a<=65521 then some true else some false else some false:Option Bool)) fun b=>bd (zm (kY fu a) fu<|(b,(2:Int))) fun d=>some d
def z8(a:Int):Option Zr:=if a<0 then nm (rY a) fun b=>nm ((18446744073709551616-b)%18446744073709551616) fun d=>bd (yU fu true [d]) fun e=>some e else nm (rY a) fun f=>bd (yU fu false [f]) fun g=>some g
def kf(b:List Nat):Option Int:=bd (xz fu b) fun a=>if(a.length:Int)=0 then some (0:Int)else zg (((a.length:Int))-1) fun d=>zg ((64:Int)*d) fun e=>zg (((a.length:Int))-1) fun f=>zH f (a.length) fun g=>nm (a.getD g 0) fun h=>bd (xw fu h) fun i=>zg (e+i) fun j=>some j
def JF:((Int×Zr×Zr)->Option Zr)->(Int×Zr×Zr)->Option Zr:=fun L (a,b,d)=>if 0<a then nm (Mf a (1:Int)) fun f=>if f=1 then bd (zQ fu d b) fun e=>if 1<a then bd (zQ fu b b) fun g=>nm (xfS a<|2^(min (((1:Nat)):Int).toNat 64)) fun h=>L (h,g,e)else nm (xfS a<|2^(min (((1:Nat)):Int).toNat 64)) fun i=>L (i,b,e)else if 1<a then bd (zQ fu b b) fun j=>nm (xfS a<|2^(min (((1:Nat)):Int).toNat 64)) fun k=>L (k,j,d)else nm (xfS a<|2^(min (((1:Nat)):Int).toNat 64)) fun l=>L (l,b,d)else some d
def JO(b:Zr)(a:Int):Option (Zr×Int):=bd ((if a<0 then some true else if 65536<a then some true else some false:Option Bool)) fun d=>if d then some (((false,[]),(1:Int)))else bd (kf fu b.2) fun e=>zg (e*a) fun f=>if 262144<f then some (((false,[]),(6:Int)))else bd (z8 fu (1:Int)) fun g=>bd (vW fu b) fun h=>bd (zm (JF fu) fu (a,h,g)) fun i=>some<|(i,(0:Int))
def vD(b:Int)(a:Int):Option (Zr×Int):=bd (ks fu b) fun d=>if !d then some (((false,[]),(1:Int)))else if a<1 then some (((false,[]),(1:Int)))else if 1000<a then some (((false,[]),(1:Int)))else bd (z8 fu b) fun e=>bd (JO fu e a) fun(f,g)=>some (f,g)
def QW(fu:Nat)(a:List Zr)(e:Zr)(g:Zr->Zr->Option (Zr×Int)):((Int×(List Zr))->Option (List Zr))->(Int×(List Zr))->Option (List Zr):=fun L (b,d)=>bd ((if b<(a.length:Int)then some ((e,a,(a.length:Int),true))else some ((e,a,(a.length:Int),false)):Option (Zr×(List Zr)×Int×Bool))) fun(h,f,q,i)=>if i then zH b (f.length) fun j=>nm (f.getD j (false,[])) fun k=>bd (g k h) fun(l,r)=>zH b (d.length) fun m=>nm (d.set m l) fun o=>zg (b+1) fun p=>L (p,o)else some d
def vA(a:List Zr)(b:Zr)(e:Zr->Zr->Option (Zr×Int)):Option ((List Zr)×Int):=bd (xA fu b) fun f=>if f<=0 then some (([],(1:Int)))else jS ((a.length:Int)) fun d=>ck (32*d<=281474976710656)<|nm (xaf d (false,[])) fun g=>bd (zm (QW fu a b e) fu<|((0:Int),g)) fun h=>bd (zJ fu h) fun i=>some<|(i,(0:Int))
def vY(b:Zr)(a:Zr):Option (Zr×Int):=bd (xA fu a) fun d=>if d<=0 then some (((false,[]),(1:Int)))else bd (Yj fu b a) fun(f,e,g)=>some<|(e,(0:Int))
def ZR(a:List Zr)(b:Zr):Option ((List Zr)×Int):=bd (vA fu a b<|fun zx0 zx1=>vY fu zx0 zx1) fun(d,e)=>some (d,e)
def yY(a:List Zr)(b:Zr):Option (List Zr):=bd (ZR fu a b) fun(d,e)=>some d
def wo(a:Int):Option Int:=bd (ks fu a) fun b=>if !b then some (1:Int)else some (0:Int)
def kj(fu:Nat)(d:Int)(a:Int):Option Int:=if a<1 then some (0:Int)else ck (a≠0)<|nm (xcc d a) fun b=>if b<0 then zg (b+a) fun e=>some e else some b
def cd(fu:Nat):((Int×Int×Int×Int)->Option (Int⊕Unit))->(Int×Int×Int×Int)->Option (Int⊕Unit):=fun L (d,a,f,b)=>if a=0 then some (.inr ())else if a=1 then some (.inl b)else ck (a≠0)<|zg (xde d a) fun e=>zg (e*a) fun g=>zg (d-g) fun h=>zg (e*b) fun i=>zg (f-i) fun j=>L (a,h,b,j)
def Xn(d:Int)(a:Int):Option (Int×Int):=bd (wo fu a) fun b=>if b=0 then bd (kj fu d a) fun e=>bd (zm (cd fu) fu<|(a,e,(0:Int),(1:Int))) fun f=>match f with
 |.inl g=>bd (kj fu g a) fun h=>some<|(h,(0:Int))
 |.inr _=>some (((0:Int),(3:Int)))else some (((0:Int),b))
def Kb(b:List Int)(e:Int):((Int×(List Int))->Option (List Int))->(Int×(List Int))->Option (List Int):=fun L (a,d)=>if a<(b.length:Int)then zH a (b.length) fun f=>nm (b.getD f 0) fun g=>bd (kj fu g e) fun h=>zH a (d.length) fun i=>nm (d.set i h) fun j=>zg (a+1) fun k=>L (k,j)else some d
def Kv(fu:Nat):((List Int)->Option (List Int))->(List Int)->Option (List Int):=fun L a=>if 0<(a.length:Int)then zg (((a.length:Int))-1) fun d=>zH d (a.length) fun e=>nm ((a.getD e 0)) fun f=>if f=0 then zg (((a.length:Int))-1) fun g=>jS g fun b=>ck (b<=a.length)<|nm (a.take b) fun h=>L h else some a else some a
def zX(a:List Int)(d:Int):Option (List Int):=jS ((a.length:Int)) fun b=>ck (8*b<=281474976710656)<|nm (xaf b 0) fun e=>bd (zm (Kb fu a d) fu<|((0:Int),e)) fun f=>bd (zm (Kv fu) fu f) fun g=>some g
def Z7(fu:Nat)(a:List Int)(q:Int)(b:Int):(((List Int)×Int×Int×Int×(List Int)×(List Int))->Option ((List Int)×Int×Int×(List Int)×(List Int)))->((List Int)×Int×Int×Int×(List Int)×(List Int))->Option ((List Int)×Int×Int×(List Int)×(List Int)):=fun L (r,d,s,e,f,t)=>bd ((if e<(a.length:Int)then some ((q,b,a,(a.length:Int),true))else some ((q,b,a,(a.length:Int),false)):Option (Int×Int×(List Int)×Int×Bool))) fun(u,w,v,E,x)=>if x then zH e (v.length) fun y=>nm (v.getD y 0) fun A=>zg (u+e) fun g=>zg (u+e) fun h=>zH h (f.length) fun B=>nm ((f.getD B 0)) fun i=>zg (d-w) fun j=>zg (j*A) fun k=>zg (i+k) fun l=>ck (d≠0)<|nm (xcc l d) fun m=>zH g (f.length) fun C=>nm (f.set C m) fun o=>zg (e+1) fun p=>L (r,d,s,p,o,t)else some (r,d,s,f,t)
def ZT(e:List Int)(f:Int)(k:Int):((Int×(List Int)×(List Int))->Option ((List Int)×(List Int)))->(Int×(List Int)×(List Int))->Option ((List Int)×(List Int)):=fun L (a,d,g)=>if 0<=a then zg (a+((e.length:Int))) fun l=>zg (l-1) fun m=>zH m (d.length) fun o=>nm ((d.getD o 0)) fun p=>zg (p*k) fun q=>ck (f≠0)<|nm (xcc q f) fun b=>zH a (g.length) fun r=>nm (g.set r b) fun s=>bd (zm (Z7 fu e a b) fu<|(e,f,k,(0:Int),d,s)) fun(t,u,v,h,i)=>zg (a-1) fun j=>L (j,h,i)else some (d,g)
def xl(j:List Int)(a:List Int)(b:Int):Option ((List Int)×(List Int)):=ck (((([]:List Int)).length+j.length)*8<=140737488355328)<|nm ((([]:List Int))++j) fun d=>zg (((d.length:Int))-((a.length:Int))) fun e=>if e<0 then some ([],d)else zg (((a.length:Int))-1) fun l=>zH l (a.length) fun m=>nm (a.getD m 0) fun o=>bd (Xn fu o b) fun(p,s)=>zg (e+1) fun q=>jS q fun k=>ck (8*k<=281474976710656)<|nm (xaf k 0) fun r=>bd (zm (ZT fu a b p) fu (e,d,r)) fun(f,g)=>bd (zX fu g b) fun h=>bd (zX fu f b) fun i=>some (h,i)
def VQ(fu:Nat)(e:Int)(a:List Int)(f:Int)(g:List Int)(h:Int)(i:Int):((Int×(List Int))->Option (List Int))->(Int×(List Int))->Option (List Int):=fun L (b,d)=>bd ((if b<(a.length:Int)then some ((a,f,e,i,g,h,e,a,(a.length:Int),true))else some ((a,f,e,i,g,h,e,a,(a.length:Int),false)):Option ((List Int)×Int×Int×Int×(List Int)×Int×Int×(List Int)×Int×Bool))) fun(E,j,k,m,G,H,I,l,o,p)=>if p then zH b (l.length) fun q=>nm (l.getD q 0) fun r=>zg (k+b) fun s=>zg (k+b) fun t=>zH t (d.length) fun u=>nm ((d.getD u 0)) fun v=>zg (m*r) fun w=>zg (v+w) fun x=>ck (j≠0)<|nm (xcc x j) fun y=>zH s (d.length) fun A=>nm (d.set A y) fun B=>zg (b+1) fun C=>L (C,B)else some d
def Qb(a:List Int)(f:List Int)(g:Int):((Int×(List Int))->Option (List Int))->(Int×(List Int))->Option (List Int):=fun L (b,h)=>bd ((if b<(a.length:Int)then some ((f,g,a,(a.length:Int),true))else some ((f,g,a,(a.length:Int),false)):Option ((List Int)×Int×(List Int)×Int×Bool))) fun(i,j,d,k,l)=>if l then zH b (d.length) fun m=>nm (d.getD m 0) fun o=>bd (zm (VQ fu b i j d k o) fu<|((0:Int),h)) fun e=>zg (b+1) fun p=>L (p,e)else some h
def xX(d:List Int)(e:List Int)(f:Int):Option (List Int):=zg (((d.length:Int))+((e.length:Int))) fun h=>jS h fun g=>ck (8*g<=281474976710656)<|nm (xaf g 0) fun i=>bd (zm (Qb fu d e f) fu<|((0:Int),i)) fun a=>bd (zX fu a f) fun b=>some b
def bj(fu:Nat)(a:List Int)(e:Int)(f:Int):((Int×(List Int))->Option (List Int))->(Int×(List Int))->Option (List Int):=fun L (b,d)=>bd ((if b<(a.length:Int)then some ((e,f,a,(a.length:Int),true))else some ((e,f,a,(a.length:Int),false)):Option (Int×Int×(List Int)×Int×Bool))) fun(h,t,g,u,i)=>if i then zH b (g.length) fun j=>nm (g.getD j 0) fun k=>zH b (d.length) fun l=>nm ((d.getD l 0)) fun m=>zg (h*k) fun o=>zg (m+o) fun p=>zH b (d.length) fun q=>nm (d.set q p) fun r=>zg (b+1) fun s=>L (s,r)else some d
def Zb(a:List Int)(b:List Int)(f:Int)(d:Int):Option (List Int):=nm (max ((a.length:Int))<|(b.length:Int)) fun g=>jS g fun e=>ck (8*e<=281474976710656)<|nm (xaf e 0) fun h=>nm (cpy h a) fun i=>bd (zm (bj fu b f d) fu<|((0:Int),i)) fun j=>bd (zX fu j d) fun k=>some k
def kt(e:List (List Int))(f:Int):(((List Int)×Int×(List<|List Int)×(List<|List Int))->Option ((List<|List Int)×(List<|List Int)))->((List Int)×Int×(List<|List Int)×(List<|List Int))->Option ((List<|List Int)×(List<|List Int)):=fun L (g,a,b,h)=>bd ((if a<3 then some (f,e,true)else some (f,e,false):Option (Int×(List<|List Int)×Bool))) fun(d,i,j)=>if j then zH a (3) fun k=>zH a (3) fun l=>nm (i.getD l []) fun m=>bd (xX fu g m d) fun o=>zg (d-1) fun p=>bd (Zb fu (b.getD k []) o p d) fun q=>zH a (3) fun r=>nm (b.set r q) fun s=>zg (a+1) fun t=>L (g,t,s,h)else some (b,h)
def ZQ(b:List (List Int))(d:List (List Int))(e:Int):Option (List<|List Int):=zH 0 (3) fun f=>zH 0 (3) fun g=>nm (d.getD g []) fun h=>bd (xl fu (b.getD f []) h e) fun(i,k)=>bd (zm (kt fu d e) fu<|(i,(0:Int),b,(xaf 3 []))) fun(a,j)=>some a
def vy(b:List Int)(d:Int)(a:Int):Option (List Int):=bd (Xn fu d a) fun(e,g)=>bd (xX fu b [e] a) fun f=>some f
def kT(d:Int):(((List<|List Int)×(List<|List Int))->Option (List<|List Int))->((List<|List Int)×(List<|List Int))->Option (List<|List Int):=fun L (b,a)=>zH 0 (3) fun e=>if 0<((((a.getD e [])).length:Nat):Int)then bd (ZQ fu b a d) fun f=>L (a,f)else some b
def wh(d:Int)(e:Int):((Int×(List<|List Int))->Option (List<|List Int))->(Int×(List<|List Int))->Option (List<|List Int):=fun L (a,b)=>if a<3 then zH a (3) fun f=>bd (vy fu (b.getD f []) e d) fun g=>zH a (3) fun h=>nm (b.set h g) fun i=>zg (a+1) fun j=>L (j,i)else some b
def ky(k:List Int)(l:List Int)(d:Int):Option ((List Int)×(List Int)×(List Int)×Int):=bd (wo fu d) fun h=>if h=0 then bd (zX fu k d) fun m=>bd (zX fu l d) fun o=>bd (zm (kT fu d) fu<|([m,[(1:Int)],[]],[o,[],[(1:Int)]])) fun a=>zH 0 (3) fun i=>bd ((if 0<((((a.getD i [])).length:Nat):Int)then some true else some false:Option Bool)) fun p=>if p then zH 0 (3) fun j=>zg ((((((a.getD i [])).length:Nat):Int))-1) fun q=>zH q (((a.getD j [])).length) fun r=>nm (((a.getD j [])).getD r 0) fun s=>bd (zm (wh fu d s) fu<|((0:Int),a)) fun b=>zH 0 (3) fun t=>zH 1 (3) fun u=>zH 2 (3) fun v=>some (((b.getD t []),(b.getD u []),(b.getD v []),(0:Int)))else zH 0 (3) fun e=>zH 1 (3) fun f=>zH 2 (3) fun g=>some (((a.getD e []),(a.getD f []),(a.getD g []),(0:Int)))else some ([],[],[],h)
def q8(a:List Int)(b:List Int)(d:Int):Option ((List Int)×Int):=bd (ky fu a b d) fun(e,g,h,f)=>some (e,f)
def q9(d:List Int)(e:List Int)(a:Int):Option ((List Int)×Int):=bd (wo fu a) fun b=>if b=0 then bd (zX fu d a) fun f=>bd (zX fu e a) fun g=>bd (xX fu f g a) fun h=>some ((h,(0:Int)))else some ([],b)
def Xi(d:List Int)(e:List Int)(a:Int):Option ((List Int)×Int):=bd (wo fu a) fun b=>if b=0 then bd (zX fu d a) fun f=>bd (zX fu e a) fun g=>zg (a-1) fun h=>bd (Zb fu f g h a) fun i=>some ((i,(0:Int)))else some ([],b)
def ZZ(a:List Int)(b:List Int)(d:Int):Option Bool:=bd (Xi fu a b d) fun(e,f)=>if(e.length:Int)=0 then some true else some false
def Yl(fu:Nat)(a:List Int)(e:Int):(Int->Option (Unit⊕Unit))->Int->Option (Unit⊕Unit):=fun L b=>if b<(a.length:Int)then zH b (a.length) fun f=>nm (a.getD f 0) fun d=>if d<0 then some (.inr ())else if e<=d then some (.inr ())else zg (b+1) fun g=>L g else some (.inl ())
def Z6(a:List Int)(b:Int):Option Bool:=bd (zm (Yl fu a b) fu (0:Int)) fun d=>match d with
 |.inl _=>if 1<(a.length:Int)then zg (((a.length:Int))-1) fun e=>zH e (a.length) fun f=>nm (a.getD f 0) fun g=>if g=1 then some true else some false else some false
 |.inr _=>some false
def Vh(a:List (List Int))(e:Int):(((List Int)×Int)->Option (List Int))->((List Int)×Int)->Option (List Int):=fun L (d,b)=>if b<(a.length:Int)then zH b (a.length) fun f=>nm (a.getD f []) fun g=>bd (q9 fu d g e) fun(h,j)=>zg (b+1) fun i=>L (h,i)else some d
def vn(a:List (List Int))(b:Int):Option (List Int):=bd (zm (Vh fu a b) fu<|([(1:Int)],(0:Int))) fun d=>some d
def WO(b:Zr):Option (Int×Bool):=bd (vW fu b) fun a=>bd ((if(a.2.length:Int)=0 then some true else some false:Option Bool)) fun d=>if d then some (((0:Int),true))else bd ((if 1<(a.2.length:Int)then some true else some false:Option Bool)) fun e=>if e then some (((0:Int),false))else bd ((if a.1=true then zH 0 (a.2.length) fun f=>nm (a.2.getD f 0) fun g=>if(g:Int)<=(((9223372036854775808:Nat):Nat):Int)then some true else some false else some false:Option Bool)) fun h=>if h then zH 0 (a.2.length) fun i=>nm (a.2.getD i 0) fun j=>nm ((18446744073709551616-j)%18446744073709551616) fun k=>nm (SO k) fun l=>some (l,true)else if a.1=true then some (((0:Int),false))else zH 0 (a.2.length) fun m=>nm (a.2.getD m 0) fun o=>if(((9223372036854775807:Nat):Nat):Int)<(o:Int)then some (((0:Int),false))else zH 0 (a.2.length) fun p=>nm (a.2.getD p 0) fun q=>nm (SO q) fun r=>some (r,true)
def VX(b:Zr)(d:Int):Option (Int×Int):=bd (z8 fu d) fun e=>bd (vY fu b e) fun(f,a)=>if a=0 then bd (WO fu f) fun(g,h)=>some ((g,(0:Int)))else some (((0:Int),a))
def YM(e:Int)(a:Zr)(b:Int):Option Int:=bd (VX fu a b) fun(d,f)=>some d
def ku(fu:Nat)(a:List Zr)(f:Int->Zr->Option Int):((Int×(List Int))->Option (List Int))->(Int×(List Int))->Option (List Int):=fun L (b,d)=>bd ((if b<(a.length:Int)then some ((a,(a.length:Int),true))else some ((a,(a.length:Int),false)):Option ((List Zr)×Int×Bool))) fun(e,o,g)=>if g then zH b (e.length) fun h=>nm (e.getD h (false,[])) fun i=>bd (f b i) fun j=>zH b (d.length) fun k=>nm (d.set k j) fun l=>zg (b+1) fun m=>L (m,l)else some d
def qh(a:List Zr)(d:Int->Zr->Option Int):Option (List Int):=jS ((a.length:Int)) fun b=>ck (8*b<=281474976710656)<|nm (xaf b 0) fun e=>bd (zm (ku fu a d) fu<|((0:Int),e)) fun f=>some f
def bL(fu:Nat):((List Int)->Option (List Int))->(List Int)->Option (List Int):=fun L a=>if 0<(a.length:Int)then zg (((a.length:Int))-1) fun d=>zH d (a.length) fun e=>nm ((a.getD e 0)) fun f=>if f=0 then zg (((a.length:Int))-1) fun g=>jS g fun b=>ck (b<=a.length)<|nm (a.take b) fun h=>L h else some a else some a
def jW(b:List Zr)(a:Int):Option ((List Int)×Int):=if a<1 then some (([],(1:Int)))else bd (qh fu b<|fun zx0 zx1=>YM fu zx0 zx1 a) fun d=>bd (zm (bL fu) fu d) fun e=>some<|(e,(0:Int))
def qN(d:Int)(e:List Int)(a:List (List Int)):(Int->Option (Unit⊕Unit))->Int->Option (Unit⊕Unit):=fun L b=>if b<(a.length:Int)then zH b (a.length) fun f=>nm (a.getD f []) fun g=>bd (q8 fu e g d) fun(h,j)=>if(h.length:Int)=1 then zg (b+1) fun i=>L i else some (.inr ())else some (.inl ())
def qL(e:List Zr)(a:List (List Int))(f:Int):((Int×(List Int))->Option ((List Int)⊕Unit))->(Int×(List Int))->Option ((List Int)⊕Unit):=fun L (b,g)=>bd ((if b<(a.length:Int)then some ((e,a,f,a,(a.length:Int),true))else some ((e,a,f,a,(a.length:Int),false)):Option ((List Zr)×(List<|List Int)×Int×(List<|List Int)×Int×Bool))) fun(l,h,i,j,t,m)=>if m then zH b (j.length) fun o=>nm (j.getD o []) fun d=>if(l.length:Int)<(d.length:Int)then some (.inr ())else bd (Z6 fu d i) fun p=>if !p then some (.inr ())else jS b fun k=>ck (k<=h.length)<|nm (h.take k) fun q=>bd (zm (qN fu i d q) fu (0:Int)) fun r=>match r with
 |.inl _=>zg (b+1) fun s=>L (s,g)
 |.inr _=>some (.inr ())else some (.inl g)
def wH(a:List Zr)(e:List (List Int))(b:Int):Option Bool:=bd (jW fu a b) fun(h,o)=>if(a.length:Int)=0 then some false else if(h.length:Int)=(a.length:Int)then if(a.length:Int)<(e.length:Int)then some false else bd (zm (qL fu a e b) fu<|((0:Int),h)) fun j=>match j with
 |.inl d=>bd (vn fu e b) fun k=>zg (((d.length:Int))-1) fun l=>jS l fun i=>ck (i<=d.length)<|nm (d.drop i) fun f=>bd (q9 fu k f b) fun(g,p)=>bd (ZZ fu g d b) fun m=>some m
 |.inr _=>some false else some false
def u6(a:List Zr)(j:Int):(((List Zr)×Zr×Int×(List Zr)×(List Zr))->Option ((List Zr)×Zr×(List Zr)×(List Zr)))->((List Zr)×Zr×Int×(List Zr)×(List Zr))->Option ((List Zr)×Zr×(List Zr)×(List Zr)):=fun L (k,l,b,d,f)=>bd ((if b<(a.length:Int)then some ((j,a,(a.length:Int),true))else some ((j,a,(a.length:Int),false)):Option (Int×(List Zr)×Int×Bool))) fun(g,e,A,m)=>if m then zH b (e.length) fun o=>nm (e.getD o (false,[])) fun p=>zg (g+b) fun q=>zg (g+b) fun r=>zH r (d.length) fun s=>nm ((d.getD s (false,[]))) fun t=>zH g (f.length) fun u=>nm ((f.getD u (false,[]))) fun v=>bd (zQ fu v p) fun w=>bd (qj fu t w) fun x=>zH q (d.length) fun y=>nm (d.set y x) fun h=>zg (b+1) fun i=>L (k,l,i,h,f)else some (k,l,d,f)
def uV(d:List Zr)(i:Zr):((Int×(List Zr)×(List Zr))->Option ((List Zr)×(List Zr)))->(Int×(List Zr)×(List Zr))->Option ((List Zr)×(List Zr)):=fun L (a,b,e)=>if 0<=a then zg (a+((d.length:Int))) fun j=>zg (j-1) fun k=>zH k (b.length) fun l=>nm ((b.getD l (false,[]))) fun m=>bd (vY fu m i) fun(o,t)=>zH a (e.length) fun p=>nm (e.set p o) fun q=>bd (zm (u6 fu d a) fu<|(d,i,(0:Int),b,q)) fun(r,s,f,g)=>zg (a-1) fun h=>L (h,f,g)else some (b,e)
def qJ(k:List Zr)(g:List Zr)(a:Zr):Option ((List Zr)×(List Zr)):=bd (yY fu k a) fun h=>zg (((h.length:Int))-((g.length:Int))) fun l=>zg (l+1) fun m=>nm (max m (0:Int)) fun o=>jS o fun i=>ck (32*i<=281474976710656)<|nm (xaf i (false,[])) fun j=>zg (((j.length:Int))-1) fun p=>bd (zm (uV fu g a) fu (p,h,j)) fun(b,d)=>bd (yY fu d a) fun e=>bd (yY fu b a) fun f=>some (e,f)
def jA(b:Int)(d:Zr)(a:List Zr):Option Zr:=if b<(a.length:Int)then zH b (a.length) fun e=>nm (a.getD e (false,[])) fun f=>bd (vC fu d f) fun g=>some g else some d
def vc(a:List Zr)(b:List Zr):Option (List Zr):=if(a.length:Int)<(b.length:Int)then bd (zE fu b<|fun zx0 zx1=>jA fu zx0 zx1 a) fun d=>bd (zJ fu d) fun e=>some e else bd (zE fu a<|fun zx0 zx1=>jA fu zx0 zx1 b) fun f=>bd (zJ fu f) fun g=>some g
def bh(e:Int)(a:List Zr)(g:List Zr)(h:Int):((Int×(List Zr)×Zr)->Option (List Zr))->(Int×(List Zr)×Zr)->Option (List Zr):=fun L (b,d,i)=>bd ((if b<(a.length:Int)then some ((a,e,g,h,e,a,(a.length:Int),true))else some ((a,e,g,h,e,a,(a.length:Int),false)):Option ((List Zr)×Int×(List Zr)×Int×Int×(List Zr)×Int×Bool))) fun(x,j,y,A,B,k,C,l)=>if l then zH b (k.length) fun m=>nm (k.getD m (false,[])) fun o=>zg (j+b) fun p=>zg (j+b) fun q=>zH q (d.length) fun r=>nm ((d.getD r (false,[]))) fun s=>bd (zQ fu i o) fun t=>bd (vC fu s t) fun u=>zH p (d.length) fun v=>nm (d.set v u) fun f=>zg (b+1) fun w=>L (w,f,i)else some d
def bJ(a:List Zr)(f:List Zr):((Int×(List Zr))->Option (List Zr))->(Int×(List Zr))->Option (List Zr):=fun L (b,g)=>bd ((if b<(a.length:Int)then some ((f,a,(a.length:Int),true))else some ((f,a,(a.length:Int),false)):Option ((List Zr)×(List Zr)×Int×Bool))) fun(h,d,i,j)=>if j then zH b (d.length) fun k=>nm (d.getD k (false,[])) fun l=>bd (zm (bh fu b h d i) fu<|((0:Int),g,l)) fun e=>zg (b+1) fun m=>L (m,e)else some g
def xa(d:List Zr)(e:List Zr):Option (List Zr):=zg (((d.length:Int))+((e.length:Int))) fun g=>jS g fun f=>ck (32*f<=281474976710656)<|nm (xaf f (false,[])) fun h=>bd (zm (bJ fu d e) fu<|((0:Int),h)) fun a=>bd (zJ fu a) fun b=>some b
def Zt(d:Int)(a:Int):Option Zr:=bd (z8 fu a) fun b=>some b
def jX(fu:Nat)(b:List Int)(e:Int->Int->Option Zr):((Int×(List Zr))->Option (List Zr))->(Int×(List Zr))->Option (List Zr):=fun L (a,d)=>if a<(b.length:Int)then zH a (b.length) fun f=>nm (b.getD f 0) fun g=>bd (e a g) fun h=>zH a (d.length) fun i=>nm (d.set i h) fun j=>zg (a+1) fun k=>L (k,j)else some d
def qo(a:List Int)(d:Int->Int->Option Zr):Option (List Zr):=jS ((a.length:Int)) fun b=>ck (32*b<=281474976710656)<|nm (xaf b (false,[])) fun e=>bd (zm (jX fu a d) fu<|((0:Int),e)) fun f=>some f
def vQ(a:List Int):Option (List Zr):=bd (qo fu a<|fun zx0 zx1=>Zt fu zx0 zx1) fun b=>bd (zJ fu b) fun d=>some d
def YA(a:List Int):Option (List Zr):=bd (vQ fu a) fun b=>some b
def XB(e:Int)(a:Zr)(b:Zr):Option Zr:=bd (zQ fu a b) fun d=>some d
def w7(a:List Zr)(b:Zr):Option (List Zr):=bd (zE fu a<|fun zx0 zx1=>XB fu zx0 zx1 b) fun d=>bd (zJ fu d) fun e=>some e
def ja(a:List Zr)(b:List Zr):Option (List Zr):=bd (z8 fu (-1:Int)) fun d=>bd (w7 fu b d) fun e=>bd (vc fu a e) fun f=>some f
def qK(f:List (List Zr))(G:List Zr)(a:Zr):Option (List<|List Zr):=zH 0 (4) fun H=>nm (f.getD H []) fun i=>zH 1 (4) fun I=>nm (f.getD I []) fun j=>zH 2 (4) fun J=>nm (f.getD J []) fun g=>zH 3 (4) fun K=>nm (f.getD K []) fun h=>bd (xa fu i j) fun M=>bd (ja fu G M) fun N=>bd (yY fu N a) fun E=>bd (xa fu g E) fun O=>bd (qJ fu O j a) fun(P,Q)=>bd (xa fu h E) fun R=>bd (xa fu P i) fun S=>bd (vc fu R S) fun U=>bd (vc fu i U) fun k=>bd (yY fu k a) fun b=>bd (vc fu j Q) fun l=>bd (yY fu l a) fun d=>bd (xa fu g b) fun m=>bd (xa fu h d) fun o=>bd (vc fu m o) fun p=>bd (YA fu [(1:Int)]) fun q=>bd (ja fu p q) fun r=>bd (yY fu r a) fun e=>bd (xa fu g e) fun s=>bd (qJ fu s d a) fun(t,u)=>bd (ja fu g u) fun v=>bd (yY fu v a) fun w=>bd (xa fu h e) fun x=>bd (xa fu t b) fun y=>bd (vc fu x y) fun A=>bd (ja fu h A) fun B=>bd (yY fu B a) fun C=>some [b,d,w,C]
def kP(a:Zr×(Zr×Zr))(b:Zr)(d:Zr×(Zr×Zr)):Option (Zr×(Zr×Zr)):=bd (zQ fu b d.1) fun e=>bd (qj fu a.1 e) fun f=>bd (zQ fu b d.2.1) fun g=>bd (qj fu a.2.1 g) fun h=>bd (zQ fu b d.2.2) fun i=>bd (qj fu a.2.2 i) fun j=>some (f,h,j)
def XA:(((Zr×(Zr×Zr))×(Zr×(Zr×Zr)))->Option (Zr×(Zr×Zr)))->((Zr×(Zr×Zr))×(Zr×(Zr×Zr)))->Option (Zr×(Zr×Zr)):=fun L (b,a)=>bd (xA fu a.1) fun d=>if d=0 then some b else bd (Yj fu b.1 a.1) fun(e,g,h)=>bd (kP fu b e a) fun f=>L (a,f)
def YT(g:Zr)(h:Zr):Option (Zr×Zr×Zr):=bd (yU fu false g.2) fun i=>bd (z8 fu (1:Int)) fun j=>bd (z8 fu (0:Int)) fun k=>bd (yU fu false h.2) fun l=>bd (z8 fu (0:Int)) fun m=>bd (z8 fu (1:Int)) fun o=>bd (zm (XA fu) fu<|((i,j,k),(l,m,o))) fun a=>bd ((bd (xA fu g) fun p=>if p<0 then bd (uY fu a.2.1) fun d=>nm ((a.1,(d,a.2.2))) fun q=>some q else some a:Option (Zr×(Zr×Zr)))) fun b=>bd ((bd (xA fu h) fun r=>if r<0 then bd (uY fu b.2.2) fun e=>nm ((b.1,(b.2.1,e))) fun s=>some s else some b:Option (Zr×(Zr×Zr)))) fun f=>some (f.1,f.2.1,f.2.2)
def Wc(a:List Zr)(b:Zr):Option (List Zr):=zg (((a.length:Int))-1) fun d=>zH d (a.length) fun e=>nm (a.getD e (false,[])) fun f=>bd (YT fu f b) fun(j,g,k)=>bd (w7 fu a g) fun h=>bd (yY fu h b) fun i=>some i
def uG(g:List Zr)(h:Int)(d:Int):((Int×(List<|List Zr))->Option (List<|List Zr))->(Int×(List<|List Zr))->Option (List<|List Zr):=fun L (e,a)=>if e<d then zg ((2:Int)*e) fun i=>nm (min i d) fun f=>bd (vD fu h f) fun(j,k)=>bd (qK fu a g j) fun b=>L (f,b)else some a
def w8:Nat->(List Zr)->(List<|List Int)->Int->Int->Zr->Option (List<|List Zr)
 |0,_,_,_,_,_=>none
 |fu+1,d,a,b,i,j=>if(a.length:Int)=1 then bd (Wc fu d j) fun C=>some [C]else ck ((2:Int)≠0)<|zg (xde ((a.length:Int)) (2:Int)) fun h=>zg (((d.length:Int))-1) fun E=>jS E fun u=>ck (u<=d.length)<|nm (d.drop u) fun G=>bd (jW fu G b) fun(H,O)=>jS h fun v=>ck (v<=a.length)<|nm (a.take v) fun I=>bd (vn fu I b) fun J=>bd (q9 fu J H b) fun(w,P)=>jS h fun x=>ck (x<=a.length)<|nm (a.drop x) fun K=>bd (vn fu K b) fun y=>bd (ky fu w y b) fun(Q,k,l,R)=>bd (vQ fu w) fun m=>bd (vQ fu y) fun o=>bd (vQ fu k) fun p=>bd (vQ fu l) fun q=>bd (zm (uG fu d b i) fu<|((1:Int),[m,o,p,q])) fun e=>zH 0 (4) fun M=>jS h fun A=>ck (A<=a.length)<|nm (a.take A) fun r=>bd (w8 fu (e.getD M []) r b i j) fun f=>zH 1 (4) fun N=>jS h fun B=>ck (B<=a.length)<|nm (a.drop B) fun s=>bd (w8 fu (e.getD N []) s b i j) fun g=>ck ((f.length+g.length)*24<=140737488355328)<|nm (f++g) fun t=>some t
def qm(h:List Zr)(a:List (List Int))(b:Int)(e:Int):Option ((List<|List Zr)×Int):=bd (vD fu b e) fun(f,g)=>bd (zJ fu h) fun d=>if g=0 then if 65<(d.length:Int)then some (([],(6:Int)))else bd (wH fu d a b) fun i=>if !i then some (([],(1:Int)))else if(a.length:Int)=0 then some (([],(0:Int)))else bd (yY fu d f) fun j=>bd (w8 fu j a b e f) fun k=>some ((k,(0:Int)))else some ([],g)
def WB(a:List Zr)(b:List Zr)(d:Zr):Option ((List Zr)×Int):=bd (xa fu a b) fun e=>bd (ZR fu e d) fun(f,g)=>some (f,g)
def jm(a:Zr)(b:Zr):Option Int:=bd (qj fu a b) fun d=>bd (xA fu d) fun e=>some e
def ZF(e:Zr)(d:Zr):Option (Zr×Int):=bd (vY fu e d) fun(a,b)=>if b=0 then bd (vC fu a a) fun f=>bd (jm fu f d) fun g=>if 0<g then bd (qj fu a d) fun h=>some (h,b)else some (a,b)else some (a,b)
def YW(a:List Zr)(b:Zr):Option ((List Zr)×Int):=bd (vA fu a b<|fun zx0 zx1=>ZF fu zx0 zx1) fun(d,e)=>some (d,e)
def fG:(((List Nat)×(List Nat))->Option (List Nat))->((List Nat)×(List Nat))->Option (List Nat):=fun L (b,a)=>if 0<(a.length:Int)then bd (Q7 fu b a) fun(e,d,f)=>L (a,d)else some b
def Vz(a:Zr)(b:Zr):Option Zr:=bd (uQ fu a.2) fun d=>bd (uQ fu b.2) fun e=>bd (zm (fG fu) fu (d,e)) fun f=>bd (yU fu false f) fun g=>some g
def Qt(b:List Zr):((Int×(List Zr)×Zr×Zr)->Option ((List Zr)×Zr×Zr))->(Int×(List Zr)×Zr×Zr)->Option ((List Zr)×Zr×Zr):=fun L (d,a,e,f)=>bd ((if d<(b.length:Int)then some (((b.length:Int),true))else some (((b.length:Int),false)):Option (Int×Bool))) fun(l,g)=>if g then zH d (a.length) fun h=>nm ((a.getD h (false,[]))) fun i=>bd (Vz fu f i) fun j=>zg (d+1) fun k=>L (k,a,e,j)else some (a,e,f)
def wU(e:List Zr):Option Zr:=bd (zJ fu e) fun d=>bd (z8 fu (0:Int)) fun f=>bd (zm (Qt fu d) fu<|((0:Int),d,(false,[]),f)) fun(a,k,b)=>if 0<(a.length:Int)then zg (((a.length:Int))-1) fun g=>zH g (a.length) fun h=>nm (((a.getD h (false,[]))).1) fun i=>if i then bd (uY fu b) fun j=>some j else some b else some b
def VC(e:Int)(a:Zr)(b:Zr):Option Zr:=bd (jk fu a b) fun(d,f)=>some d
def xU(a:List Zr):Option (List Zr):=bd (wU fu a) fun b=>bd (zJ fu a) fun d=>bd (zE fu d<|fun zx0 zx1=>VC fu zx0 zx1 b) fun e=>some e
def jB(e:List (List Zr))(b:List Int)(f:Zr):(((List Zr)×Int×(List Int))->Option ((List Zr)×(List Int)))->((List Zr)×Int×(List Int))->Option ((List Zr)×(List Int)):=fun L (g,d,a)=>bd ((if d<(b.length:Int)then some ((e,f,(b.length:Int),true))else some ((e,f,(b.length:Int),false)):Option ((List<|List Zr)×Zr×Int×Bool))) fun(h,i,r,j)=>if j then zH d (a.length) fun k=>nm ((a.getD k 0)) fun l=>zH l (h.length) fun m=>nm (h.getD m []) fun o=>bd (WB fu g o i) fun(p,s)=>zg (d+1) fun q=>L (p,q,a)else some (g,a)
def qB(a:List Zr)(g:List (List Zr))(d:List Int)(e:Zr):Option ((List Zr)×(List Int)):=zg (((a.length:Int))-1) fun h=>jS h fun f=>ck (f<=a.length)<|nm (a.drop f) fun i=>bd (zm (jB fu g d e) fu<|(i,(0:Int),d)) fun(j,k)=>bd (YW fu j e) fun(l,m)=>bd (xU fu l) fun b=>some (b,k)
def vh{X Y R:Type}(fu:Nat)(n all:Int)(g:List Int->X->Option (List Int×(X⊕Y)))(x:X)(xs:List Int)(L:X->List Int->Int->Int->Int->Int->Int->Option R)(E:X->Int->Int->List Int->Option R)(E2:Y->List Int->Option R):Option R:=bd (g xs x) fun r=>xfu (fun x'=>zg (n-1) fun a=>bd (zm (fun L i=>if 0<=i then zH i r.1.length fun j=>nm (r.1.getD j 0) fun y=>zg (all-n) fun e=>zg (e+i) fun e=>if y=e then zg (i-1) fun i=>L i else some i else some i) fu a) fun i=>if i<0 then E x' a i r.1 else zH i r.1.length fun j=>nm (r.1.getD j 0) fun y=>zg (y+1) fun e=>zH i r.1.length fun j=>nm (r.1.set j e) fun xs=>zg (i+1) fun b=>bd (zm (fun L (z:Int×List Int)=>if z.1<n then zg (z.1-1) fun e=>zH e z.2.length fun j=>nm (z.2.getD j 0) fun y=>zg (y+1) fun e=>zH z.1 z.2.length fun j=>nm (z.2.set j e) fun xs=>zg (z.1+1) fun i=>L (i,xs)else some z.2) fu (b,xs)) fun xs=>L x' xs b i e y a) (fun y=>E2 y r.1) r.2
def wq{X Y:Type}(fu:Nat)(n all:Int)(g:List Int->X->Option (List Int×(X⊕Y)))(a:X):Option (X⊕Y):=jS n fun m=>ck (8*m<=281474976710656)<|nm (xaf m 0) fun xs=>bd (zm (fun L (z:List Int×Int)=>if z.2<(xs.length:Int)then zH z.2 z.1.length fun j=>nm (z.1.set j z.2) fun xs=>zg (z.2+1) fun i=>L (xs,i)else some z.1) fu (xs,0)) fun xs=>zm (fun L (q:X×List Int)=>vh fu n all g q.1 q.2 (fun x xs _ _ _ _ _=>L (x,xs)) (fun x _ _ _=>some (.inl x)) fun y _=>some (.inr y)) fu (a,xs)
def QD(fu:Nat)(b:List Int)(d:Int):(Int->Option (Unit⊕Int))->Int->Option (Unit⊕Int):=fun L a=>if a<(b.length:Int)then zH a (b.length) fun e=>nm (b.getD e 0) fun f=>if d=f then some (.inr a)else zg (a+1) fun g=>L g else some (.inl ())
def Z1(a:List Int)(b:Int):Option Int:=bd (zm (QD fu a b) fu (0:Int)) fun d=>match d with
 |.inl _=>some (-1:Int)
 |.inr e=>some e
def w4(fu:Nat)(b:List Int)(d:Int):(Int->Option (Unit⊕Int))->Int->Option (Unit⊕Int):=fun L a=>if a<(b.length:Int)then zH a (b.length) fun e=>nm ((b.getD e 0)) fun f=>if d=f then some (.inr a)else zg (a+1) fun g=>L g else some (.inl ())
def vK(a:List Int)(b:Int):Option (Int×(List Int)):=bd (zm (w4 fu a b) fu (0:Int)) fun d=>match d with
 |.inl _=>some<|((-1:Int),a)
 |.inr e=>some (e,a)
def k9(a:List Int)(b:Int):Option Bool:=bd (Z1 fu a b) fun d=>if 0<=d then some true else some false
def xI(b:List Int)(d:Int):Option (Bool×(List Int)):=bd (vK fu b d) fun(e,a)=>if 0<=e then some (true,a)else some (false,a)
def Aq(a:List (List Zr))(e:List Int):(((List<|List Zr)×Int)->Option (List<|List Zr))->((List<|List Zr)×Int)->Option (List<|List Zr):=fun L (d,b)=>bd ((if b<(a.length:Int)then some ((e,a,(a.length:Int),true))else some ((e,a,(a.length:Int),false)):Option ((List Int)×(List<|List Zr)×Int×Bool))) fun(h,f,p,i)=>if i then zH b (f.length) fun j=>nm (f.getD j []) fun g=>bd (k9 fu h b) fun k=>if !k then ck ((d.length+([g]).length)*24<=140737488355328)<|nm (d++([g])) fun l=>zg (b+1) fun m=>L (l,m)else zg (b+1) fun o=>L (d,o)else some d
def jI(a:List (List Zr)):(((List<|List Zr)×Int×(List Int))->Option ((List<|List Zr)×(List Int)))->((List<|List Zr)×Int×(List Int))->Option ((List<|List Zr)×(List Int)):=fun L (d,b,e)=>bd ((if b<(a.length:Int)then some ((a,(a.length:Int),true))else some ((a,(a.length:Int),false)):Option ((List<|List Zr)×Int×Bool))) fun(f,p,i)=>if i then zH b (f.length) fun j=>nm (f.getD j []) fun g=>bd (xI fu e b) fun(k,h)=>if !k then ck ((d.length+([g]).length)*24<=140737488355328)<|nm (d++([g])) fun l=>zg (b+1) fun m=>L (l,m,h)else zg (b+1) fun o=>L (d,o,h)else some (d,e)
def xo(a:List (List Zr))(b:List Int):Option ((List<|List Zr)×(List Int)):=bd (zm (jI fu a) fu<|([],(0:Int),b)) fun(d,e)=>some (d,e)
def vN(b:(Bool×List Nat))(ys:List Int)(y:List (Bool×List Nat)×List (List<|Bool×List Nat)×List (List<|Bool×List Nat)):Option (List Int×((List (Bool×List Nat)×List (List<|Bool×List Nat)×List (List<|Bool×List Nat))⊕(List (Bool×List Nat)×List (List<|Bool×List Nat)×List (List<|Bool×List Nat)))):=bd (qB fu y.1 y.2.1 ys b) fun c=>bd (wJ fu y.1 c.1) fun q=>if q.2=0 then if 1<(c.1.length:Int)then ck ((y.2.2.length+1)*24<=140737488355328)<|nm (y.2.2++[c.1]) fun pr=>bd (xo fu y.2.1 c.2) fun w=>some (w.2,.inr (q.1,w.1,pr))else some (c.2,.inl y)else some (c.2,.inl y)
def uy(b:(Bool×List Nat))(x:List (Bool×List Nat)×List (List<|Bool×List Nat)×List (List<|Bool×List Nat)×Int)(L:List (Bool×List Nat)×List (List<|Bool×List Nat)×List (List<|Bool×List Nat)×Int->Option (List (Bool×List Nat)×List (List<|Bool×List Nat)×List (List<|Bool×List Nat))):Option (List (Bool×List Nat)×List (List<|Bool×List Nat)×List (List<|Bool×List Nat)):=zg (2*x.2.2.2) fun d=>if d<=(x.2.1.length:Int)then bd (wq fu x.2.2.2 (x.2.1.length:Int) (vN fu b) (x.1,x.2.1,x.2.2.1)) fun r=>xfu (fun y=>zg (x.2.2.2+1) fun i=>L (y.1,y.2.1,y.2.2,i)) (fun y=>L (y.1,y.2.1,y.2.2,x.2.2.2)) r else some (x.1,x.2.1,x.2.2.1)
def uq(f:List (Bool×List Nat))(a:List (List<|Bool×List Nat))(b:(Bool×List Nat)):Option (List<|List<|Bool×List Nat):=bd (zm (fun L x=>uy fu b x L) fu (f,a,[],1)) fun x=>if 1<(x.1.length:Int)then bd (xU fu x.1) fun q=>ck ((x.2.2.length+1)*24<=140737488355328)<|nm (x.2.2++[q]) fun pr=>some pr else some x.2.2
def UO(b:List Zr)(d:List Zr):(Int->Option (Unit⊕Bool))->Int->Option (Unit⊕Bool):=fun L a=>if 0<=a then zH a (b.length) fun f=>nm ((b.getD f (false,[]))) fun g=>zH a (d.length) fun h=>nm ((d.getD h (false,[]))) fun i=>bd (jm fu g i) fun e=>if e=0 then zg (a-1) fun j=>L j else if e<0 then some (.inr true)else some (.inr false)else some (.inl ())
def kL(d:List Zr)(e:List Zr):Option Bool:=bd (zJ fu d) fun a=>bd (zJ fu e) fun b=>if(a.length:Int)=(b.length:Int)then zg (((a.length:Int))-1) fun f=>bd (zm (UO fu a b) fu f) fun g=>match g with
 |.inl _=>some false
 |.inr h=>some h else if(a.length:Int)<(b.length:Int)then some true else some false
def qS(a:List Zr)(b:List Zr):Option Int:=bd (kL fu a b) fun d=>if d then some (-1:Int)else bd (kL fu b a) fun e=>if e then some (1:Int)else some (0:Int)
def YR(f:Int)(g:Zr):((Int×Zr×Int×Zr)->Option (Int×Zr×Zr))->(Int×Zr×Int×Zr)->Option (Int×Zr×Zr):=fun L (a,b,d,e)=>if d<f then bd (zQ fu e g) fun h=>zg (d+1) fun i=>L (a,b,i,h)else some (a,b,e)
def QA(g:Zr)(d:Int):((Zr×Zr×Zr)->Option Zr)->(Zr×Zr×Zr)->Option Zr:=fun L (e,a,f)=>bd (vC fu a f) fun h=>bd (Q6 fu h.2 (1:Int)) fun i=>bd (yU fu false i) fun b=>bd (jm fu b a) fun j=>if j=0 then some a else bd (z8 fu (1:Int)) fun k=>bd (zm (YR fu d b) fu<|(d,g,(0:Int),k)) fun(p,l,m)=>bd (jm fu m l) fun o=>if o<=0 then L (e,b,f)else L (e,a,b)
def Qi(b:Zr)(a:Int):Option (Zr×Int):=if a<1 then some (((false,[]),(1:Int)))else if 64<a then some (((false,[]),(1:Int)))else bd (xA fu b) fun e=>if e<0 then some (((false,[]),(1:Int)))else bd (z8 fu (0:Int)) fun f=>bd (kf fu b.2) fun g=>ck (a≠0)<|zg (xde g a) fun h=>zg (h+1) fun i=>nm (min i (262144:Int)) fun j=>bd (Yx fu [(1:Nat)] j) fun(k,m)=>bd (yU fu false k) fun l=>bd (zm (QA fu b a) fu<|((false,[]),f,l)) fun d=>some<|(d,(0:Int))
def ZI(b:List Zr):Option Int:=bd (zJ fu b) fun a=>if(a.length:Int)=0 then some (8:Int)else if 65<(a.length:Int)then some (6:Int)else some (0:Int)
def U4(b:List Zr):((Int×(List Zr)×Zr×Zr)->Option ((List Zr)×Zr×Zr))->(Int×(List Zr)×Zr×Zr)->Option ((List Zr)×Zr×Zr):=fun L (d,a,e,f)=>bd ((if d<(b.length:Int)then some (((b.length:Int),true))else some (((b.length:Int),false)):Option (Int×Bool))) fun(m,h)=>if h then zH d (a.length) fun i=>nm ((a.getD i (false,[]))) fun g=>bd (zQ fu g g) fun j=>bd (vC fu f j) fun k=>zg (d+1) fun l=>L (l,a,e,k)else some (a,e,f)
def wB(a:List Zr):Option (Zr×Int):=bd (ZI fu a) fun b=>if b=0 then bd (zJ fu a) fun d=>bd (z8 fu (-1:Int)) fun e=>bd (zm (U4 fu d) fu<|((0:Int),d,(false,[]),e)) fun(f,o,g)=>bd (Qi fu g (2:Int)) fun(h,p)=>bd (z8 fu (1:Int)) fun i=>bd (vC fu h i) fun j=>zg (((f.length:Int))-1) fun k=>bd (Yx fu j.2 k) fun(l,q)=>bd (vW fu (false,l)) fun m=>some ((m,(0:Int)))else some (((false,[]),b))
def XC(d:Int)(e:Zr):((Int×Zr)->Option Int)->(Int×Zr)->Option Int:=fun L (a,b)=>bd (jm fu b e) fun f=>if f<=0 then bd (z8 fu d) fun g=>bd (zQ fu b g) fun h=>zg (a+1) fun i=>L (i,h)else some a
def YH(a:List Zr)(b:Int):Option Int:=bd (wB fu a) fun(d,m)=>bd (z8 fu (2:Int)) fun e=>zg (((a.length:Int))-1) fun f=>zH f (a.length) fun g=>nm (a.getD g (false,[])) fun h=>bd (zQ fu d h) fun i=>bd (zQ fu e i) fun j=>bd (z8 fu b) fun k=>bd (zm (XC fu b j) fu<|((1:Int),k)) fun l=>some l
def WM(a:List Zr):Option Bool:=bd (wB fu a) fun(b,k)=>bd (z8 fu (2:Int)) fun d=>zg (((a.length:Int))-1) fun e=>zH e (a.length) fun f=>nm (a.getD f (false,[])) fun g=>bd (zQ fu b g) fun h=>bd (zQ fu d h) fun i=>bd (kf fu i.2) fun j=>if 1000<j then some true else some false
def Yu(fu:Nat)(b:List Int)(d:List Int):(Int->Option (Unit⊕Int))->Int->Option (Unit⊕Int):=fun L a=>if 0<=a then zH a (b.length) fun e=>nm (b.getD e 0) fun f=>zH a (d.length) fun g=>nm (d.getD g 0) fun h=>if f<h then some (.inr (-1:Int))else zH a (b.length) fun i=>nm (b.getD i 0) fun j=>zH a (d.length) fun k=>nm (d.getD k 0) fun l=>if l<j then some (.inr (1:Int))else zg (a-1) fun m=>L m else some (.inl ())
def wG(a:List Int)(b:List Int):Option Int:=if(a.length:Int)=(b.length:Int)then zg (((a.length:Int))-1) fun d=>bd (zm (Yu fu a b) fu d) fun e=>match e with
 |.inl _=>some (0:Int)
 |.inr f=>some f else zg (((a.length:Int))-((b.length:Int))) fun g=>some g
def qH(fu:Nat)(a:List Int)(b:Int):Option Bool:=zH b (a.length) fun d=>nm (a.getD d 0) fun e=>if e=0 then some false else some true
def Ud(b:List Int)(e:Int):((Int×(List Int))->Option (List Int))->(Int×(List Int))->Option (List Int):=fun L (a,d)=>if a<(b.length:Int)then zH a (b.length) fun f=>nm (b.getD f 0) fun g=>bd (kj fu g e) fun h=>zH a (d.length) fun i=>nm (d.set i h) fun j=>zg (a+1) fun k=>L (k,j)else some d
def ZK(a:List Int)(d:Int):Option (List Int):=jS ((a.length:Int)) fun b=>ck (8*b<=281474976710656)<|nm (xaf b 0) fun e=>bd (zm (Ud fu a d) fu<|((0:Int),e)) fun f=>some f
def UU(fu:Nat)(a:List (List Int)):(Int->Option (Unit⊕Unit))->Int->Option (Unit⊕Unit):=fun L b=>bd ((if b<(a.length:Int)then some ((a,a,(a.length:Int),true))else some ((a,a,(a.length:Int),false)):Option ((List<|List Int)×(List<|List Int)×Int×Bool))) fun(d,e,l,g)=>if g then zH b (e.length) fun h=>nm (e.getD h []) fun f=>if 64<(f.length:Int)then some (.inr ())else zH 0 (d.length) fun i=>nm (d.getD i []) fun j=>if(f.length:Int)=(j.length:Int)then zg (b+1) fun k=>L k else some (.inr ())else some (.inl ())
def ZV(a:List (List Int))(b:Int):Option Int:=bd (wo fu b) fun d=>if d=0 then if 64<(a.length:Int)then some (1:Int)else bd (zm (UU fu a) fu (0:Int)) fun e=>match e with
 |.inl _=>some (0:Int)
 |.inr _=>some (1:Int)else some (1:Int)
def vd(xss:List (List Int))(ix:List Nat)(r:Nat)(a p:Int)(lo n:Nat):Option (List<|List Int):=bd (zm (fun L (x:((List (List Int)×List Nat)×Nat×Nat)×(Nat×Nat)×Nat×Int)=>if x.2.2.2<(n:Int)then zH x.2.2.2 x.2.1.2 fun j=>nm (x.1.1.2.getD (x.2.1.1+j) 0) fun q=>zH a (x.1.1.1.getD q []).length fun j=>nm ((x.1.1.1.getD q []).getD j 0) fun y=>bd (zm (fun L (z:((List (List Int)×List Nat)×Nat×Nat)×(Nat×Nat)×Nat×Nat×Nat×Int)=>if z.2.2.2.2.2<((x.1.1.1.getD x.2.2.1 []).length:Int)then zH z.2.2.2.2.2 (z.1.1.1.getD z.2.2.2.1 []).length fun j=>nm ((z.1.1.1.getD z.2.2.2.1 []).getD j 0) fun v=>zH z.2.2.2.2.2 (z.1.1.1.getD z.2.2.2.2.1 []).length fun j=>nm ((z.1.1.1.getD z.2.2.2.2.1 []).getD j 0) fun u=>zg (p-y) fun e=>zg (e*v) fun e=>zg (u+e) fun e=>ck (p≠0)<|nm (xcc e p) fun e=>zH z.2.2.2.2.2 (z.1.1.1.getD z.2.2.2.2.1 []).length fun j=>nm (z.1.1.1.set z.2.2.2.2.1<|(z.1.1.1.getD z.2.2.2.2.1 []).set j e) fun yss=>zg (z.2.2.2.2.2+1) fun i=>L (((yss,z.1.1.2),z.1.2),z.2.1,z.2.2.1,z.2.2.2.1,z.2.2.2.2.1,i)else some (z.1,z.2.1,z.2.2.1)) fu (x.1,x.2.1,x.2.2.1,x.2.2.1,q,0)) fun z=>zg (x.2.2.2+1) fun i=>L (z.1,z.2.1,z.2.2,i)else some x.1) fu (((xss,ix),lo,n),(lo,n),r,0)) fun x=>ck (x.2.1=lo/\x.2.2=n/\x.1.2=ix)<|some x.1.1
def wV(fu:Nat)(b:List (List Int))(d:(List Int)->Option Bool):(Int->Option (Unit⊕Int))->Int->Option (Unit⊕Int):=fun L a=>if a<(b.length:Int)then zH a (b.length) fun e=>nm (b.getD e []) fun f=>bd (d f) fun g=>if g then some (.inr a)else zg (a+1) fun h=>L h else some (.inl ())
def yC(a:List (List Int))(b:(List Int)->Option Bool):Option Int:=bd (zm (wV fu a b) fu (0:Int)) fun d=>match d with
 |.inl _=>some (-1:Int)
 |.inr e=>some e
def kq(rows:List (List Int))(p:Int):Option (List (List Int)×Int):=bd (ZV fu rows p) fun e=>if e=0 then bd (zm (fun L (x:(List (List Int)×List Nat)×Int)=>if x.2<(rows.length:Int)then zH x.2 rows.length fun j=>nm (rows.getD j []) fun y=>bd (ZK fu y p) fun r=>ck ((x.1.2.length+1)*24<=140737488355328)<|nm (x.1.1++[r]) fun zss=>nm (x.1.2++[x.1.1.length]) fun iz=>zg (x.2+1) fun i=>L ((zss,iz),i)else some x.1) fu (([],[]),0)) fun x=>bd (zm (fun L (x:(List (List Int)×List Nat)×Int×Int)=>if x.2.1<(x.1.2.length:Int)then zH 0 x.1.2.length fun j=>nm (x.1.2.getD j 0) fun r=>if x.2.2<((x.1.1.getD r []).length:Int)then jS x.2.1 fun j=>ck (j<=x.1.2.length)<|bd (yC fu (xdt (x.1.2.length-j)<|xdz j<|x.1.2.map fun r=>x.1.1.getD r []) fun z=>qH fu z x.2.2) fun i=>if i<0 then zg (x.2.2+1) fun c=>L (x.1,x.2.1,c)else zg (x.2.1+i) fun a=>zg (x.2.1+i) fun b=>zH b x.1.2.length fun j=>nm (x.1.2.getD j 0) fun d=>zH x.2.1 x.1.2.length fun j=>nm (x.1.2.getD j 0) fun f=>zH x.2.1 x.1.2.length fun j=>nm (x.1.2.set j d) fun ix=>zH a ix.length fun j=>nm (ix.set j f) fun ix=>zH x.2.1 ix.length fun j=>nm (ix.getD j 0) fun r=>zH x.2.2 (x.1.1.getD r []).length fun j=>nm ((x.1.1.getD r []).getD j 0) fun y=>bd (Xn fu y p) fun q=>zH x.2.1 ix.length fun j=>nm (ix.getD j 0) fun r=>bd (zm (fun L (z:(List (List Int)×List Nat)×Nat×Int)=>if z.2.2<((x.1.1.getD r []).length:Int)then zH z.2.2 (z.1.1.getD z.2.1 []).length fun j=>nm ((z.1.1.getD z.2.1 []).getD j 0) fun y=>zH x.2.1 z.1.2.length fun j=>nm (z.1.2.getD j 0) fun r=>zg (y*q.1) fun e=>ck (p≠0)<|nm (xcc e p) fun e=>zH z.2.2 (z.1.1.getD r []).length fun j=>nm (z.1.1.set r<|(z.1.1.getD r []).set j e) fun yss=>zg (z.2.2+1) fun i=>L ((yss,z.1.2),z.2.1,i)else some z.1) fu ((x.1.1,ix),r,0)) fun m=>zH x.2.1 m.2.length fun j=>nm (m.2.getD j 0) fun r=>jS x.2.1 fun j=>ck (j<=m.2.length)<|bd (vd fu m.1 m.2 r x.2.2 p 0 j) fun yss=>zH x.2.1 m.2.length fun j=>nm (m.2.getD j 0) fun r=>zg (x.2.1+1) fun e=>jS e fun j=>ck (j<=m.2.length)<|bd (vd fu yss m.2 r x.2.2 p j<|m.2.length-j) fun yss=>zg (x.2.1+1) fun k=>zg (x.2.2+1) fun c=>L ((yss,m.2),k,c)else some (x.1,x.2.1)else some (x.1,x.2.1)) fu (x,0,0)) fun x=>jS x.2 fun j=>ck (j<=(x.1.2.map fun r=>x.1.1.getD r []).length)<|nm (xdt j<|x.1.2.map fun r=>x.1.1.getD r []) fun ys=>some (ys,0)else some ([],e)
def ux(fu:Nat)(a:Int):Option Bool:=if a=0 then some false else some true
def wj(fu:Nat)(b:List Int)(d:Int->Option Bool):(Int->Option (Unit⊕Int))->Int->Option (Unit⊕Int):=fun L a=>if a<(b.length:Int)then zH a (b.length) fun e=>nm (b.getD e 0) fun f=>bd (d f) fun g=>if g then some (.inr a)else zg (a+1) fun h=>L h else some (.inl ())
def y7(a:List Int)(b:Int->Option Bool):Option Int:=bd (zm (wj fu a b) fu (0:Int)) fun d=>match d with
 |.inl _=>some (-1:Int)
 |.inr e=>some e
def Xa(a:List Int):Option Int:=bd (y7 fu a<|fun zx0=>ux fu zx0) fun b=>some b
def w9(a:List Int)(b:Int):Option Bool:=bd (Xa fu a) fun d=>if d=b then some true else some false
def xy(a:List (List Int))(b:(List Int)->Option Bool):Option Bool:=bd (yC fu a b) fun d=>if 0<=d then some true else some false
def QN(d:Int)(i:Int)(j:Int)(a:List (List Int))(k:Int):((Int×(List<|List Int)×(List Int))->Option ((List<|List Int)×(List Int)))->(Int×(List<|List Int)×(List Int))->Option ((List<|List Int)×(List Int)):=fun L (e,l,f)=>bd ((if e<(a.length:Int)then some ((i,j,a,d,k,d,a,(a.length:Int),true))else some ((i,j,a,d,k,d,a,(a.length:Int),false)):Option (Int×Int×(List<|List Int)×Int×Int×Int×(List<|List Int)×Int×Bool))) fun(A,m,B,o,C,E,b,p,q)=>if q then zH e (b.length) fun r=>nm (b.getD r []) fun g=>bd (Xa fu g) fun s=>zH o (g.length) fun t=>nm (g.getD t 0) fun u=>zg (0-u) fun v=>bd (kj fu v m) fun w=>zH s (f.length) fun x=>nm (f.set x w) fun h=>zg (e+1) fun y=>L (y,l,h)else some (l,f)
def a8(b:Int)(h:Int)(i:List (List Int)):(((List<|List Int)×Int)->Option (List<|List Int))->((List<|List Int)×Int)->Option (List<|List Int):=fun L (f,a)=>bd ((if a<b then some (b,h,i,b,true)else some (b,h,i,b,false):Option (Int×Int×(List<|List Int)×Int×Bool))) fun(j,o,k,p,q)=>if q then bd (xy fu k<|fun zx0=>w9 fu zx0 a) fun r=>if r then zg (a+1) fun s=>L (f,s)else jS j fun l=>ck (8*l<=281474976710656)<|nm (xaf l 0) fun m=>zH a (m.length) fun t=>nm (m.set t (1:Int)) fun u=>bd (zm (QN fu a j o k p) fu<|((0:Int),f,u)) fun(d,e)=>ck ((d.length+([e]).length)*24<=140737488355328)<|nm (d++([e])) fun g=>zg (a+1) fun v=>L (g,v)else some f
def Xb(a:List (List Int))(b:Int)(d:Int):Option ((List<|List Int)×Int):=bd ((bd (ZV fu a d) fun f=>if f=0 then if b<0 then some (.inr ())else if 64<b then some (.inr ())else if 0<(a.length:Int)then zH 0 (a.length) fun g=>nm (a.getD g []) fun h=>if(h.length:Int)=b then some (.inl ())else some (.inr ())else some (.inl ())else some (.inr ()):Option (Unit⊕Unit))) fun i=>match i with
 |.inl _=>bd (kq fu a d) fun(j,k)=>bd (zm (a8 fu b d j) fu<|([],(0:Int))) fun e=>some<|(e,(0:Int))
 |.inr _=>some<|([],(1:Int))
def qZ(e:List Int)(f:List Int)(a:Int):Option ((List Int)×(List Int)×Int):=bd (wo fu a) fun b=>if b=0 then bd (zX fu f a) fun d=>if(d.length:Int)=0 then some (([],[],(3:Int)))else bd (zX fu e a) fun g=>bd (xl fu g d a) fun(h,i)=>some ((h,i,(0:Int)))else some ([],[],b)
def YC(i:Zr)(d:Int)(j:List Int):(((List Int)×(List Int)×Int)->Option (List Int))->((List Int)×(List Int)×Int)->Option (List Int):=fun L (e,f,a)=>if 0<=a then bd (xX fu e e d) fun l=>bd (xl fu l j d) fun(m,b)=>ck ((64:Int)≠0)<|zg (xde a (64:Int)) fun o=>zH o (i.2.length) fun p=>nm (i.2.getD p 0) fun q=>ck ((64:Int)≠0)<|nm (xcc a (64:Int)) fun k=>ck (0<=k)<|nm (q/2^(min (k:Int).toNat 64)) fun r=>nm (r &&& ((1:Nat))) fun s=>if(s:Int)=(((1:Nat):Nat):Int)then bd (xX fu b f d) fun g=>bd (xl fu g j d) fun(t,h)=>zg (a-1) fun u=>L (h,f,u)else zg (a-1) fun v=>L (b,f,v)else some e
def j7(f:List Int)(d:Zr)(g:List Int)(a:Int):Option ((List Int)×Int):=bd (wo fu a) fun h=>if h=0 then bd (xA fu d) fun i=>if i<0 then some (([],(1:Int)))else bd (zX fu g a) fun b=>if(b.length:Int)=0 then some (([],(3:Int)))else bd (xl fu [(1:Int)] b a) fun(p,j)=>bd (zX fu f a) fun k=>bd (xl fu k b a) fun(q,l)=>bd (kf fu d.2) fun m=>zg (m-1) fun o=>bd (zm (YC fu d a b) fu (j,l,o)) fun e=>some ((e,(0:Int)))else some (([],(1:Int)))
def ZS(f:List Int)(p:Int):Option (List<|List Int):=zg ((f.length:Int)-1) fun n=>jS n fun m=>ck (24*m<=281474976710656)<|nm (xaf m 0) fun ix=>bd (zm (fun L (x:(List (List Int)×List Nat)×Int)=>if x.2<(ix.length:Int)then jS n fun m=>ck (8*m<=281474976710656)<|nm (xaf m 0) fun ys=>zH x.2 x.1.2.length fun j=>nm (x.1.1++[ys]) fun xss=>nm (x.1.2.set j x.1.1.length) fun ix=>zg (x.2+1) fun i=>L ((xss,ix),i)else some x.1) fu (([[]],ix),0)) fun x=>bd (z8 fu p) fun z=>bd (j7 fu [0,1] z f p) fun q=>bd (zm (fun L (x:(List (List Int)×List Nat)×List Int×List Int×Int)=>if x.2.2.2<n then bd (zm (fun L (y:(List (List Int)×List Nat)×Int)=>if y.2<(x.2.1.length:Int)then zH y.2 x.2.1.length fun j=>nm (x.2.1.getD j 0) fun v=>zH y.2 y.1.2.length fun j=>nm (y.1.2.getD j 0) fun r=>zH x.2.2.2 (y.1.1.getD r []).length fun j=>nm (y.1.1.set r<|(y.1.1.getD r []).set j v) fun yss=>zg (y.2+1) fun i=>L ((yss,y.1.2),i)else some y.1) fu (x.1,0)) fun y=>zH x.2.2.2 y.2.length fun j=>nm (y.2.getD j 0) fun r=>zH x.2.2.2 (y.1.getD r []).length fun j=>nm ((y.1.getD r []).getD j 0) fun v=>zg (v-1) fun e=>zH x.2.2.2 (y.1.getD r []).length fun j=>nm (y.1.set r<|(y.1.getD r []).set j e) fun yss=>bd (q9 fu x.2.1 x.2.2.1 p) fun u=>bd (qZ fu u.1 f p) fun w=>zg (x.2.2.2+1) fun i=>L ((yss,y.2),w.2.1,x.2.2.1,i)else some x.1) fu (x,[1],q.1,0)) fun x=>bd (Xb fu (x.2.map fun r=>x.1.getD r []) n p) fun r=>some r.1
def aK(a:List Int)(b:List Int)(d:Int):Option (List Int):=bd (qZ fu a b d) fun(e,f,g)=>some e
def Jx(a:List Int)(b:List Int)(d:Int):Option (List Int):=bd (q8 fu a b d) fun(e,f)=>some e
def uz(b:Int)(a:List Int)(d:Int):Option Int:=if b<(a.length:Int)then zH b (a.length) fun e=>nm (a.getD e 0) fun f=>bd (kj fu f d) fun g=>some g else zg (b-((a.length:Int))) fun h=>some h
def VY(d:List Int)(e:List Int)(a:Int):Option ((List Int)×Int):=bd (wo fu a) fun b=>if b=0 then bd (zX fu d a) fun f=>bd (zX fu e a) fun g=>bd (Zb fu f g (1:Int) a) fun h=>some ((h,(0:Int)))else some ([],b)
def WE(d:List Int)(e:Int)(f:List Int)(a:Int):Option (List Int):=bd (VY fu d [e] a) fun(b,l)=>if 2<a then zg (a-1) fun g=>ck ((2:Int)≠0)<|zg (xde g (2:Int)) fun h=>bd (z8 fu h) fun i=>bd (j7 fu b i f a) fun(j,m)=>bd (Xi fu j [(1:Int)] a) fun(k,o)=>some k else some b
def XY(v:Int)(w:List Int)(h:List (List Int))(e:Int)(k:List Int)(l:Int)(i:Int)(m:List (List Int))(o:Int)(j:List Int):(((List<|List Int)×Int)->Option ((List<|List Int)⊕(List<|List Int)))->((List<|List Int)×Int)->Option ((List<|List Int)⊕(List<|List Int)):=fun L (a,d)=>if d<(a.length:Int)then if(a.length:Int)=(h.length:Int)then some (.inl a)else bd (uz fu i w v) fun x=>zH d (a.length) fun y=>nm ((a.getD y [])) fun A=>bd (WE fu j x A e) fun p=>zH d (a.length) fun B=>nm ((a.getD B [])) fun q=>bd (Jx fu p q e) fun b=>bd ((if 1<(b.length:Int)then zH d (a.length) fun C=>nm ((a.getD C [])) fun r=>if(b.length:Int)<(r.length:Int)then some (h,e,k,i,j,m,o,l,true)else some (h,e,k,i,j,m,o,l,false)else some (h,e,k,i,j,m,o,l,false):Option ((List<|List Int)×Int×(List Int)×Int×(List Int)×(List<|List Int)×Int×Int×Bool))) fun(E,s,G,P,H,I,Q,R,J)=>if J then zH d (a.length) fun K=>nm ((a.getD K [])) fun t=>bd (aK fu t b s) fun f=>ck ((a.length+([f]).length)*24<=140737488355328)<|nm (a++([f])) fun g=>zH d (g.length) fun M=>nm (g.set M b) fun u=>zg (d+1) fun N=>L (u,N)else zg (d+1) fun O=>L (a,O)else some (.inr a)
def XX(l:Int)(m:List Int)(j:Int)(a:List (List Int)):(((List<|List Int)×Int×(List Int)×(List<|List Int)×Int)->Option ((List<|List Int)⊕((List<|List Int)×Int×(List Int)×(List<|List Int))))->((List<|List Int)×Int×(List Int)×(List<|List Int)×Int)->Option ((List<|List Int)⊕((List<|List Int)×Int×(List Int)×(List<|List Int))):=fun L (d,e,f,k,b)=>bd ((if b<(a.length:Int)then some ((j,a,(a.length:Int),true))else some ((j,a,(a.length:Int),false)):Option (Int×(List<|List Int)×Int×Bool))) fun(o,g,p,q)=>if q then zH b (g.length) fun r=>nm (g.getD r []) fun s=>bd (zm (XY fu l m d e f b o g p s) fu<|(k,(0:Int))) fun t=>match t with
 |.inl h=>some (.inl h)
 |.inr i=>zg (b+1) fun u=>L (d,e,f,i,u)else some (.inr (d,e,f,k))
def XO(a:List (List Int))(b:Int)(d:List Int):(((List<|List Int)×Int)->Option (List<|List Int))->((List<|List Int)×Int)->Option (List<|List Int):=fun L (h,e)=>zg (b+((d.length:Int))) fun j=>if e<j then jS (1:Int) fun i=>ck (i<=a.length)<|nm (a.drop i) fun k=>bd (zm (XX fu b d e k) fu<|(a,b,d,h,(0:Int))) fun l=>match l with
 |.inl f=>some f
 |.inr (m,o,p,g)=>zg (e+1) fun q=>L (g,q)else some h
def YI(b:List Int)(d:List (List Int))(e:Int)(f:List Int):Option (List<|List Int):=bd (zm (XO fu d e f) fu<|([b],(0:Int))) fun a=>some a
def qk(e:List Int)(b:Int):Option ((List Int)×Int):=bd (wo fu b) fun d=>if d=0 then bd (zX fu e b) fun a=>if(a.length:Int)=0 then some (([],(0:Int)))else zg (((a.length:Int))-1) fun f=>zH f (a.length) fun g=>nm ((a.getD g 0)) fun h=>bd (vy fu a h b) fun i=>some ((i,(0:Int)))else some ([],d)
def JV(d:List Int)(e:Int):Option ((List Int)×Int):=bd (qk fu d e) fun(a,b)=>if b=0 then if(a.length:Int)=0 then some (([],(8:Int)))else if 65<(a.length:Int)then some (([],(6:Int)))else some ((a,(0:Int)))else some ([],b)
def Kt(fu:Nat)(f:Int)(e:List Int):(((List Int)×Int×(List Int))->Option (List Int))->((List Int)×Int×(List Int))->Option (List Int):=fun L (b,a,d)=>bd ((if a<(e.length:Int)then some ((f,(e.length:Int),true))else some ((f,(e.length:Int),false)):Option (Int×Int×Bool))) fun(g,q,i)=>if i then zH a (d.length) fun j=>nm ((d.getD j 0)) fun k=>if 0<a then ck (g≠0)<|nm (xcc a g) fun l=>zg (l*k) fun h=>ck ((b.length+([h]).length)*8<=140737488355328)<|nm (b++([h])) fun m=>zg (a+1) fun o=>L (m,o,d)else zg (a+1) fun p=>L (b,p,d)else some b
def YJ(e:List Int)(a:Int):Option ((List Int)×Int):=bd (wo fu a) fun b=>if b=0 then bd (zX fu e a) fun d=>bd (zm (Kt fu a d) fu<|([],(0:Int),d)) fun f=>bd (zX fu f a) fun g=>some ((g,(0:Int)))else some ([],b)
def Wz(d:List Int)(e:Int):Option ((List Int)×Int):=bd (qk fu d e) fun(a,b)=>if b=0 then if(a.length:Int)=0 then some (([],(8:Int)))else some (a,b)else some (a,b)
def Zi(e:List Int)(a:Int):Option (Bool×Int):=bd (Wz fu e a) fun(b,d)=>if d=0 then bd (YJ fu b a) fun(f,h)=>bd (q8 fu b f a) fun(g,i)=>if(g.length:Int)=1 then some ((true,(0:Int)))else some ((false,(0:Int)))else some (false,d)
def jz(e:List Int)(a:Int):Option ((List Int)×Int):=bd (JV fu e a) fun(b,d)=>if d=0 then bd (Zi fu b a) fun(f,g)=>if !f then some (([],(1:Int)))else some ((b,(0:Int)))else some ([],d)
def ju(a:Nat):Option Int:=bd (xw fu a) fun b=>some b
def wC(fu:Nat)(g:(List Int)->(List Int)->Option Int):((Int×Int×Int×(List<|List Int))->Option (Int×Int×(List<|List Int)))->(Int×Int×Int×(List<|List Int))->Option (Int×Int×(List<|List Int)):=fun L (d,e,b,a)=>if d<b then zH b (a.length) fun h=>nm ((a.getD h [])) fun i=>zg (b-1) fun j=>zH j (a.length) fun k=>nm ((a.getD k [])) fun l=>bd (g i l) fun m=>if m<0 then zg (b-1) fun o=>zg (b-1) fun p=>zH p (a.length) fun q=>nm ((a.getD q [])) fun r=>zH b (a.length) fun s=>nm ((a.getD s [])) fun t=>zH b (a.length) fun u=>nm (a.set u r) fun f=>zH o (f.length) fun v=>nm (f.set v t) fun w=>zg (b-1) fun x=>L (d,e,x,w)else some (d,e,a)else some (d,e,a)
def xj(e:Int)(b:Int)(f:(List Int)->(List Int)->Option Int):((Int×(List<|List Int))->Option (List<|List Int))->(Int×(List<|List Int))->Option (List<|List Int):=fun L (a,d)=>if a<b then bd (zm (wC fu f) fu (e,b,a,d)) fun(i,j,g)=>zg (a+1) fun h=>L (h,g)else some d
def xr(d:List (List Int))(b:Int)(e:Int)(f:(List Int)->(List Int)->Option Int):Option (List<|List Int):=zg (b+1) fun g=>bd (zm (xj fu b e f) fu (g,d)) fun a=>some a
def qc(d:(List Int)->(List Int)->Option Int):((Int×Int×Int×(List<|List Int))->Option (List<|List Int))->(Int×Int×Int×(List<|List Int))->Option (List<|List Int):=fun L (a,b,e,f)=>zg (b-a) fun g=>if g<=12 then bd (xr fu f a b d) fun h=>some h else if e=0 then none else none
def qE:Nat->(List<|List Int)->Int->Int->Int->((List Int)->(List Int)->Option Int)->Option (List<|List Int)
 |0,_,_,_,_,_=>none
 |fu+1,a,b,d,e,f=>bd (zm (qc fu f) fu (b,d,e,a)) fun g=>some g
def xF(a:List (List Int))(b:(List Int)->(List Int)->Option Int):Option (List<|List Int):=nm (rY<|(a.length:Int)) fun d=>bd (ju fu d) fun e=>bd (qE fu a (0:Int) ((a.length:Int)) e b) fun f=>some f
def Zw(g:List Int)(a:Int)(b:List Int):Option ((List<|List Int)×Int):=bd (jz fu g a) fun(d,e)=>if e=0 then if(d.length:Int)=1 then some ([],e)else bd (ZS fu d a) fun h=>nm (min ((b.length:Int)) (64:Int)) fun i=>jS i fun f=>ck (f<=b.length)<|nm (b.take f) fun j=>bd (YI fu d h a j) fun k=>bd (xF fu k<|fun zx0 zx1=>wG fu zx0 zx1) fun l=>some ((l,(0:Int)))else some ([],e)
def Vn:(Int->Option Int)->Int->Option Int:=fun L a=>bd (ks fu a) fun b=>if !b then zg (a+1) fun d=>L d else some a
def xT(a:Int):Option (Int×Int):=if 65521<=a then some (((0:Int),(5:Int)))else nm (max a (1:Int)) fun b=>zg (b+1) fun d=>bd (zm (Vn fu) fu d) fun e=>some<|(e,(0:Int))
def Wi(a:List Zr)(b:Int):Option (Bool×Int):=bd (wB fu a) fun(i,d)=>if d=0 then bd (ks fu b) fun f=>if !f then some ((false,(0:Int)))else bd (jW fu a b) fun(e,j)=>bd (zJ fu a) fun g=>if(e.length:Int)=(g.length:Int)then bd (Zi fu e b) fun(h,k)=>some ((h,(0:Int)))else some ((false,(0:Int)))else some (false,d)
def Vp(m:List Zr)(o:List Int):((Int×Int×(List<|List Int)×Int×Int)->Option (Int×(List<|List Int)))->(Int×Int×(List<|List Int)×Int×Int)->Option (Int×(List<|List Int)):=fun L (b,e,d,a,p)=>if p=0 then if e<5 then bd (Wi fu m a) fun(q,v)=>if !q then bd (xT fu a) fun(r,s)=>L (b,e,d,r,s)else zg (e+1) fun f=>bd (jW fu m a) fun(t,w)=>bd (Zw fu t a o) fun(g,x)=>if b=0 then bd (xT fu a) fun(u,h)=>L (a,f,g,u,h)else if(g.length:Int)<(d.length:Int)then bd (xT fu a) fun(i,j)=>L (a,f,g,i,j)else bd (xT fu a) fun(k,l)=>L (b,f,d,k,l)else some (b,d)else some (b,d)
def Wm(a:List Zr)(b:List Int):Option (Int×(List<|List Int)):=bd (xT fu (1:Int)) fun(d,e)=>bd (zm (Vp fu a b) fu<|((0:Int),(0:Int),[],d,e)) fun(f,g)=>some (f,g)
def lL(a:Int):((Int×Zr×Zr)->Option (Zr×Zr))->(Int×Zr×Zr)->Option (Zr×Zr):=fun L (b,d,e)=>bd ((if b<a then some (a,a,true)else some (a,a,false):Option (Int×Int×Bool))) fun(f,q,g)=>if g then zg (f+b) fun h=>zg (h+1) fun i=>bd (z8 fu i) fun j=>bd (zQ fu e j) fun k=>zg (b+1) fun l=>bd (z8 fu l) fun m=>bd (jk fu k m) fun(o,r)=>zg (b+1) fun p=>L (p,d,o)else some (d,e)
def aj(a:Int):Option Zr:=bd (z8 fu (1:Int)) fun b=>bd (zm (lL fu a) fu<|((0:Int),(false,[]),b)) fun(e,d)=>some d
def nA:((Int×Zr×Zr)->Option Zr)->(Int×Zr×Zr)->Option Zr:=fun L (b,a,d)=>if 0<b then nm (Mf b (1:Int)) fun e=>if e=1 then bd (zQ fu d a) fun f=>bd (zQ fu a a) fun g=>nm (xfS b<|2^(min (((1:Nat)):Int).toNat 64)) fun h=>L (h,g,f)else bd (zQ fu a a) fun i=>nm (xfS b<|2^(min (((1:Nat)):Int).toNat 64)) fun j=>L (j,i,d)else some d
def ug(a:Zr)(b:Int):Option Zr:=bd (z8 fu (1:Int)) fun d=>bd (zm (nA fu) fu (b,a,d)) fun e=>some e
def mr(a:List Zr)(d:List Zr):((Int×Zr×Zr)->Option (Zr×Zr))->(Int×Zr×Zr)->Option (Zr×Zr):=fun L (b,e,f)=>bd ((if b<(a.length:Int)then some ((d,a,(a.length:Int),true))else some ((d,a,(a.length:Int),false)):Option ((List Zr)×(List Zr)×Int×Bool))) fun(g,h,r,i)=>if i then zH b (h.length) fun j=>nm (h.getD j (false,[])) fun k=>zH b (g.length) fun l=>nm (g.getD l (false,[])) fun m=>bd (zQ fu k m) fun o=>bd (vC fu f o) fun p=>zg (b+1) fun q=>L (q,e,p)else some (e,f)
def bu(a:List Zr)(b:List Zr):Option Zr:=bd (z8 fu (0:Int)) fun d=>bd (zm (mr fu a b) fu<|((0:Int),(false,[]),d)) fun(f,e)=>some e
def bC(a:List Zr)(b:List Zr):Option (Zr×Int):=if(a.length:Int)=(b.length:Int)then bd (bu fu a b) fun d=>some ((d,(0:Int)))else some (((false,[]),(1:Int)))
def UE(a:List Zr):Option Zr:=bd (bC fu a a) fun(b,d)=>some b
def tK(f:Zr)(a:Zr):((Int×Zr)->Option (Unit⊕Int))->(Int×Zr)->Option (Unit⊕Int):=fun L (b,e)=>if b<=1000 then bd (jm fu e f) fun g=>if 0<g then some (.inr b)else bd (zQ fu e a) fun d=>zg (b+1) fun h=>L (h,d)else some (.inl ())
def dI(g:List Zr)(h:Int)(d:Int):Option (Int×Int):=bd (wB fu g) fun(A,i)=>if i=0 then bd (xU fu g) fun j=>zg (((j.length:Int))-1) fun a=>bd (ks fu h) fun k=>if !k then some (((0:Int),(1:Int)))else if d<1 then some (((0:Int),(1:Int)))else if a<d then some (((0:Int),(1:Int)))else zg (a-1) fun e=>bd (z8 fu (2:Int)) fun l=>zg (e*a) fun m=>bd (ug fu l m) fun o=>bd (aj fu e) fun p=>bd (ug fu p a) fun q=>bd (UE fu j) fun r=>zg (e+a) fun s=>bd (ug fu r s) fun t=>bd (zQ fu q t) fun u=>bd (zQ fu o u) fun v=>bd (z8 fu h) fun f=>zg ((2:Int)*d) fun w=>bd (ug fu f w) fun b=>bd (zm (tK fu v b) fu<|((1:Int),b)) fun x=>match x with
 |.inl _=>some<|((0:Int),(6:Int))
 |.inr y=>some ((y,(0:Int)))else some (((0:Int),i))
def mC(a:List Int)(b:List Int)(d:Int):Option Bool:=bd (qZ fu b a d) fun(f,e,g)=>if(e.length:Int)=0 then some true else some false
def XE(e:Int):(((List Zr)×(List<|List Int))->Option ((List Zr)×(List<|List Int)))->((List Zr)×(List<|List Int))->Option ((List Zr)×(List<|List Int)):=fun L (b,a)=>if 12<(a.length:Int)then zH 0 (a.length) fun f=>nm (a.getD f []) fun g=>zg (((g.length:Int))-1) fun h=>bd (dI fu b e h) fun(i,j)=>if j=0 then bd (qm fu b a e i) fun(d,l)=>if(d.length:Int)=0 then some (b,a)else zH 0 (d.length) fun k=>nm ((d.getD k [])) fun m=>none else some (b,a)else some (b,a)
def Y2(a:List Zr)(b:List (List Int))(d:Int):Option ((List<|List Zr)×(List Zr)×(List<|List Int)):=bd (zm (XE fu d) fu (a,b)) fun(e,f)=>some ([],e,f)
def xQ(fu:Nat)(g:(List Zr)->(List Zr)->Option Int):((Int×Int×Int×(List<|List Zr))->Option (Int×Int×(List<|List Zr)))->(Int×Int×Int×(List<|List Zr))->Option (Int×Int×(List<|List Zr)):=fun L (d,e,b,a)=>if d<b then zH b (a.length) fun h=>nm ((a.getD h [])) fun i=>zg (b-1) fun j=>zH j (a.length) fun k=>nm ((a.getD k [])) fun l=>bd (g i l) fun m=>if m<0 then zg (b-1) fun o=>zg (b-1) fun p=>zH p (a.length) fun q=>nm ((a.getD q [])) fun r=>zH b (a.length) fun s=>nm ((a.getD s [])) fun t=>zH b (a.length) fun u=>nm (a.set u r) fun f=>zH o (f.length) fun v=>nm (f.set v t) fun w=>zg (b-1) fun x=>L (d,e,x,w)else some (d,e,a)else some (d,e,a)
def y3(e:Int)(b:Int)(f:(List Zr)->(List Zr)->Option Int):((Int×(List<|List Zr))->Option (List<|List Zr))->(Int×(List<|List Zr))->Option (List<|List Zr):=fun L (a,d)=>if a<b then bd (zm (xQ fu f) fu (e,b,a,d)) fun(i,j,g)=>zg (a+1) fun h=>L (h,g)else some d
def xd(d:List (List Zr))(b:Int)(e:Int)(f:(List Zr)->(List Zr)->Option Int):Option (List<|List Zr):=zg (b+1) fun g=>bd (zm (y3 fu b e f) fu (g,d)) fun a=>some a
def wZ(d:(List Zr)->(List Zr)->Option Int):((Int×Int×Int×(List<|List Zr))->Option (List<|List Zr))->(Int×Int×Int×(List<|List Zr))->Option (List<|List Zr):=fun L (a,b,e,f)=>zg (b-a) fun g=>if g<=12 then bd (xd fu f a b d) fun h=>some h else if e=0 then none else none
def vE:Nat->(List<|List Zr)->Int->Int->Int->((List Zr)->(List Zr)->Option Int)->Option (List<|List Zr)
 |0,_,_,_,_,_=>none
 |fu+1,a,b,d,e,f=>bd (zm (wZ fu f) fu (b,d,e,a)) fun g=>some g
def yv(a:List (List Zr))(b:(List Zr)->(List Zr)->Option Int):Option (List<|List Zr):=nm (rY<|(a.length:Int)) fun d=>bd (ju fu d) fun e=>bd (vE fu a (0:Int) ((a.length:Int)) e b) fun f=>some f
def WI(a:List Zr)(h:List Int):Option ((List<|List Zr)×Bool):=if(a.length:Int)<2 then some ([],true)else bd (WM fu a) fun i=>if i then some ([],false)else bd (Wm fu a h) fun(b,j)=>if b=0 then some ([],false)else bd (YH fu a b) fun f=>bd (vD fu b f) fun(k,r)=>bd (Y2 fu a j b) fun(d,e,l)=>if 1<(e.length:Int)then bd (qm fu e l b f) fun(m,s)=>bd (uq fu e m k) fun g=>ck ((d.length+g.length)*24<=140737488355328)<|nm (d++g) fun o=>bd (yv fu o<|fun zx0 zx1=>qS fu zx0 zx1) fun p=>some (p,true)else bd (yv fu d<|fun zx0 zx1=>qS fu zx0 zx1) fun q=>some (q,true)
def Ux(d:Zr)(e:Int):((Int×Zr)->Option Zr)->(Int×Zr)->Option Zr:=fun L (a,b)=>if a<e then bd (zQ fu b d) fun f=>zg (a+1) fun g=>L (g,f)else some b
def WQ(a:Zr)(b:Int):Option Zr:=bd (z8 fu (1:Int)) fun d=>bd (zm (Ux fu a b) fu<|((0:Int),d)) fun e=>some e
def XI(m:Zr):(((List Zr)×(List Zr)×Int×(List Zr))->Option ((List Zr)×(List Zr)))->((List Zr)×(List Zr)×Int×(List Zr))->Option ((List Zr)×(List Zr)):=fun L (d,b,a,f)=>if 0<=a then zg (a+((d.length:Int))) fun o=>if(b.length:Int)<o then zg (a-1) fun p=>L (d,b,p,f)else zg (a+((d.length:Int))) fun q=>zg (q-1) fun r=>zH r (b.length) fun s=>nm ((b.getD s (false,[]))) fun t=>bd (jk fu t m) fun(u,v)=>zH a (f.length) fun w=>nm (f.set w u) fun g=>jS a fun k=>ck (32*k<=281474976710656)<|nm (xaf k (false,[])) fun l=>zH a (g.length) fun x=>nm ((g.getD x (false,[]))) fun y=>bd (w7 fu d y) fun e=>ck ((l.length+e.length)*32<=140737488355328)<|nm (l++e) fun h=>bd (ja fu b h) fun i=>zg (a-1) fun j=>L (d,i,j,g)else some (b,f)
def YU(j:List Zr)(k:List Zr):Option ((List Zr)×(List Zr)×Int):=bd (zJ fu j) fun g=>bd (zJ fu k) fun a=>if(a.length:Int)=0 then some (([],[],(3:Int)))else zg (((g.length:Int))-((a.length:Int))) fun l=>zg (l+1) fun m=>nm (max m (0:Int)) fun b=>zg (((a.length:Int))-1) fun o=>zH o (a.length) fun p=>nm ((a.getD p (false,[]))) fun h=>bd (WQ fu h b) fun q=>bd (w7 fu g q) fun r=>jS b fun i=>ck (32*i<=281474976710656)<|nm (xaf i (false,[])) fun s=>zg (b-1) fun t=>bd (zm (XI fu h) fu (a,r,t,s)) fun(d,e)=>bd (zJ fu e) fun f=>some<|(f,d,(0:Int))
def JB:(((List Zr)×(List Zr))->Option (List Zr))->((List Zr)×(List Zr))->Option (List Zr):=fun L (b,a)=>if 0<(a.length:Int)then bd (YU fu b a) fun(f,d,g)=>bd (xU fu d) fun e=>L (a,e)else some b
def JI(a:List Zr)(b:List Zr):Option (List Zr):=bd (wU fu a) fun d=>bd (wU fu b) fun e=>bd (Vz fu d e) fun f=>bd (xU fu a) fun g=>bd (xU fu b) fun h=>bd (zm (JB fu) fu (g,h)) fun i=>bd (w7 fu i f) fun j=>some j
def Xz(a:Int)(b:Zr):Option Zr:=bd (z8 fu a) fun d=>bd (zQ fu b d) fun e=>some e
def YQ(d:List Zr):Option (List Zr):=bd (zE fu d<|fun zx0 zx1=>Xz fu zx0 zx1) fun a=>nm (min ((a.length:Int)) (1:Int)) fun e=>jS e fun b=>ck (b<=a.length)<|nm (a.drop b) fun f=>bd (zJ fu f) fun g=>some g
def iA(a:List Zr)(b:List Zr):Option (List Zr):=bd (wJ fu a b) fun(d,e)=>some d
def wI(b:List Zr):Option ((List Zr)×Int):=bd (ZI fu b) fun d=>if d=0 then bd (xU fu b) fun a=>bd (YQ fu a) fun e=>bd (JI fu a e) fun f=>bd (iA fu a f) fun g=>some ((g,(0:Int)))else some ([],d)
def YB(g:List Zr)(a:List (List Zr)):(((List<|(List Zr)×Int)×Int×Zr×(List<|List Zr))->Option ((List<|(List Zr)×Int)×Zr))->((List<|(List Zr)×Int)×Int×Zr×(List<|List Zr))->Option ((List<|(List Zr)×Int)×Zr):=fun L (b,d,h,e)=>bd ((if d<(a.length:Int)then some ((g,(a.length:Int),true))else some ((g,(a.length:Int),false)):Option ((List Zr)×Int×Bool))) fun(j,p,k)=>if k then zH d (e.length) fun l=>nm ((e.getD l [])) fun f=>bd (ZN fu j f) fun i=>ck ((b.length+([(f,i)]).length)*32<=140737488355328)<|nm (b++([(f,i)])) fun m=>zg (d+1) fun o=>L (m,o,h,e)else some (b,h)
def yg(a:List Zr)(e:List Int):Option (Zr×(List<|(List Zr)×Int)×Int):=bd (wI fu a) fun(f,b)=>if b=0 then bd (WI fu f e) fun(d,g)=>if !g then some (((false,[]),[],(6:Int)))else bd (zm (YB fu a d) fu<|([],(0:Int),(false,[]),d)) fun(h,i)=>bd (wU fu a) fun j=>some ((j,h,(0:Int)))else some (((false,[]),[],b))
def uX(d:List Zr):Option (Bool×Int):=bd (yg fu d []) fun(g,b,a)=>if a=0 then if(b.length:Int)=1 then zH 0 (b.length) fun e=>nm (((b.getD e ([],0))).2) fun f=>if f=1 then some (true,a)else some (false,a)else some (false,a)else some (false,a)
def Yb(fu:Nat):((Int×Int×(List Nat))->Option (List Nat))->(Int×Int×(List Nat))->Option (List Nat):=fun L (b,d,a)=>if b<d then zH d (a.length) fun f=>nm ((a.getD f 0)) fun g=>zH b (a.length) fun h=>nm ((a.getD h 0)) fun i=>zH b (a.length) fun j=>nm (a.set j g) fun e=>zH d (e.length) fun k=>nm (e.set k i) fun l=>zg (b+1) fun m=>zg (d-1) fun o=>L (m,o,l)else some a
def jb(a:List Nat):Option (List Nat):=zg (((a.length:Int))-1) fun b=>bd (zm (Yb fu) fu<|((0:Int),b,a)) fun d=>some d
def tG(fu:Nat)(f:Bool):((Nat×(List Nat))->Option (List Nat))->(Nat×(List Nat))->Option (List Nat):=fun L (b,a)=>if(((0:Nat):Nat):Int)<(b:Int)then ck ((10:Nat)≠0)<|nm (b%((10:Nat))) fun g=>nm ((((48:Nat))+g)%18446744073709551616) fun h=>nm (h%256) fun d=>ck ((a.length+([d]).length)*1<=140737488355328)<|nm (a++([d])) fun i=>ck ((10:Nat)≠0)<|nm (b/((10:Nat))) fun j=>L (j,i)else if f then if(a.length:Int)<19 then ck ((10:Nat)≠0)<|nm (b%((10:Nat))) fun k=>nm ((((48:Nat))+k)%18446744073709551616) fun l=>nm (l%256) fun e=>ck ((a.length+([e]).length)*1<=140737488355328)<|nm (a++([e])) fun m=>ck ((10:Nat)≠0)<|nm (b/((10:Nat))) fun o=>L (o,m)else some a else some a
def JY(a:Nat)(b:Bool):Option (List Nat):=bd (zm (tG fu b) fu (a,[])) fun d=>bd (jb fu d) fun e=>some e
def uk(fu:Nat):((Int×Int×(List<|List Nat))->Option (List<|List Nat))->(Int×Int×(List<|List Nat))->Option (List<|List Nat):=fun L (b,d,a)=>if b<d then zH d (a.length) fun f=>nm ((a.getD f [])) fun g=>zH b (a.length) fun h=>nm ((a.getD h [])) fun i=>zH b (a.length) fun j=>nm (a.set j g) fun e=>zH d (e.length) fun k=>nm (e.set k i) fun l=>zg (b+1) fun m=>zg (d-1) fun o=>L (m,o,l)else some a
def vG(a:List (List Nat)):Option (List<|List Nat):=zg (((a.length:Int))-1) fun b=>bd (zm (uk fu) fu<|((0:Int),b,a)) fun d=>some d
def U9(fu:Nat)(a:List (List Nat))(b:List Nat):Option (List Nat):=ck (a.length<=140737488355328)<|ck ((b.intercalate a).length<=140737488355328)<|some (b.intercalate a)
def CQ:(((List Nat)×(List<|List Nat))->Option (List<|List Nat))->((List Nat)×(List<|List Nat))->Option (List<|List Nat):=fun L (d,a)=>if 0<(d.length:Int)then bd (Xk fu d (10000000000000000000:Nat)) fun(b,e)=>if 0<(b.length:Int)then bd (JY fu e true) fun f=>ck ((a.length+([f]).length)*16<=140737488355328)<|nm (a++([f])) fun h=>L (b,h)else bd (JY fu e false) fun g=>ck ((a.length+([g]).length)*16<=140737488355328)<|nm (a++([g])) fun i=>L (b,i)else some a
def cH(e:List Nat):Option (List Nat):=bd (xz fu e) fun f=>bd (zm (CQ fu) fu (f,[])) fun d=>if(d.length:Int)=0 then some [48]else bd (vG fu d) fun a=>bd (U9 fu a []) fun b=>some b
def mb(a:Zr):Option (List Nat):=bd (xA fu a) fun d=>if d<0 then bd (cH fu a.2) fun b=>ck (([45]).length+b.length<=9223372036854775807)<|nm (([45])++b) fun e=>some e else bd (cH fu a.2) fun f=>some f
def YY:Option Bool:=bd (YA fu [(-1:Int),(-1:Int),(6:Int)]) fun a=>bd (yg fu a []) fun(b,d,e)=>bd (YA fu [(1:Int),(0:Int),(0:Int),(0:Int),(1:Int)]) fun f=>bd (uX fu f) fun(g,h)=>if e=0 then bd (mb fu b) fun i=>if i=[49]then bd (cW fu [(-1:Int),(2:Int)]) fun j=>bd (cW fu [(1:Int),(3:Int)]) fun k=>bd (ZP fu d [(j,(1:Int)),(k,(1:Int))]) fun l=>if l then if h=0 then some g else some false else some false else some false else some false
def Kq(fu:Nat)(d:Int)(a:List Zr):(Int->Option (Unit⊕Unit))->Int->Option (Unit⊕Unit):=fun L b=>if b<(a.length:Int)then zH b (a.length) fun e=>nm (a.getD e (false,[])) fun f=>if d<(f.2.length:Int)then some (.inr ())else zg (b+1) fun g=>L g else some (.inl ())
def ve(b:Int)(d:Int)(a:List Zr):Option Bool:=if b<(a.length:Int)then some false else bd (zm (Kq fu d a) fu (0:Int)) fun e=>match e with
 |.inl _=>some true
 |.inr _=>some false
def fh(a:List Zr)(b:List Zr):Option Bool:=bd (kO fu a b) fun d=>some d
end
end
section
set_option maxRecDepth 100000
section
variable(fu:Nat)
def KC(g:Int)(a:List ((List Zr)×Int))(h:List Zr):(((List Zr)×Bool×(List Zr)×Int)->Option ((List Zr)×Bool×(List Zr)))->((List Zr)×Bool×(List Zr)×Int)->Option ((List Zr)×Bool×(List Zr)):=fun L (b,d,e,f)=>zH g (a.length) fun i=>nm (((a.getD i ([],0))).2) fun j=>if f<j then bd (xa fu e h) fun k=>zg (f+1) fun l=>L (b,d,k,l)else some (b,d,e)
def KD(i:Int)(f:List ((List Zr)×Int))(j:List Zr):(((List Zr)×Bool×(List Zr)×Int)->Option ((List Zr)×Bool×(List Zr)))->((List Zr)×Bool×(List Zr)×Int)->Option ((List Zr)×Bool×(List Zr)):=fun L (a,g,b,h)=>zH i (f.length) fun k=>nm (((f.getD k ([],0))).2) fun l=>if h<l then bd (xa fu b j) fun d=>zg (h+1) fun e=>L (a,g,d,e)else some (a,g,b)
def Kz(i:List Zr)(j:Bool):(((List Zr)×Int×(List<|(List Zr)×Int))->Option ((List Zr)⊕Unit))->((List Zr)×Int×(List<|(List Zr)×Int))->Option ((List Zr)⊕Unit):=fun L (e,b,a)=>if b<(a.length:Int)then zH b (a.length) fun k=>nm (((a.getD k ([],0))).1) fun d=>bd (uX fu d) fun(l,m)=>if m=0 then if !l then some (.inr ())else if(d.length:Int)<2 then some (.inr ())else bd (xU fu d) fun o=>bd (fh fu o d) fun p=>if !p then some (.inr ())else zH b (a.length) fun q=>nm (((a.getD q ([],0))).2) fun r=>if r<1 then some (.inr ())else zH b (a.length) fun s=>nm (((a.getD s ([],0))).2) fun t=>if 11<t then some (.inr ())else if 0<b then zg (b-1) fun u=>zH u (a.length) fun v=>nm (((a.getD v ([],0))).1) fun w=>bd (kL fu w d) fun x=>if !x then some (.inr ())else bd (zm (KC fu b a d) fu<|(i,j,e,(0:Int))) fun(y,C,f)=>zg (b+1) fun A=>L (f,A,a)else bd (zm (KD fu b a d) fu<|(i,j,e,(0:Int))) fun(B,E,g)=>zg (b+1) fun h=>L (g,h,a)else some (.inr ())else some (.inl e)
def Lz(a:List Zr)(h:List Int):Option Bool:=bd (YY fu) fun b=>bd (ve fu (11:Int) (2:Int) a) fun i=>if !i then some b else if 20<(h.length:Int)then some b else bd (yg fu a h) fun(j,k,d)=>if d=0 then bd (zm (Kz fu a b) fu<|([j],(0:Int),k)) fun l=>match l with
 |.inl e=>if b then bd (zJ fu a) fun f=>bd (fh fu e f) fun m=>some m else some false
 |.inr _=>some false else if b then if d=6 then some true else if d=8 then bd (zJ fu a) fun g=>if(g.length:Int)=0 then some true else some false else some false else some false
def vB(fu:Nat)(a:List Nat)(b:Int):Option Nat:=if b<(a.length:Int)then zH b (a.length) fun d=>nm (a.getD d 0) fun e=>some e else some (0:Nat)
def bK(fu:Nat)(b:List Nat):(Int->Option Int)->Int->Option Int:=fun L a=>if 0<a then zg (a-1) fun d=>zH d (b.length) fun e=>nm (b.getD e 0) fun f=>if(f:Int)=(((0:Nat):Nat):Int)then zg (a-1) fun g=>L g else some a else some a
def Xx(a:List Nat):Option (List Nat):=bd (zm (bK fu a) fu<|(a.length:Int)) fun d=>jS d fun b=>ck (b<=a.length)<|nm (a.take b) fun e=>some e
def Yw(fu:Nat)(a:List Nat):(((List Nat)×Int)->Option (List Nat))->((List Nat)×Int)->Option (List Nat):=fun L (d,b)=>if b<(a.length:Int)then zH b (a.length) fun g=>nm (a.getD g 0) fun h=>nm (h &&& ((4294967295:Nat))) fun e=>zH b (a.length) fun i=>nm (a.getD i 0) fun j=>nm (j/2^(min (((32:Nat)):Int).toNat 64)) fun f=>ck ((d.length+([e,f]).length)*8<=140737488355328)<|nm (d++([e,f])) fun k=>zg (b+1) fun l=>L (k,l)else some d
def vz(a:List Nat):Option (List Nat):=bd (zm (Yw fu a) fu<|([],(0:Int))) fun b=>bd (Xx fu b) fun d=>some d
def XZ(fu:Nat)(a:List Nat):(((List Nat)×Int)->Option (List Nat))->((List Nat)×Int)->Option (List Nat):=fun L (d,b)=>if b<(a.length:Int)then zH b (a.length) fun g=>nm (a.getD g 0) fun e=>zg (b+1) fun h=>if h<(a.length:Int)then zg (b+1) fun i=>zH i (a.length) fun j=>nm (a.getD j 0) fun k=>nm (k*2^(min (((32:Nat)):Int).toNat 64)%18446744073709551616) fun l=>nm ((e+l)%18446744073709551616) fun f=>ck ((d.length+([f]).length)*8<=140737488355328)<|nm (d++([f])) fun m=>zg (b+2) fun o=>L (m,o)else ck ((d.length+([e]).length)*8<=140737488355328)<|nm (d++([e])) fun p=>zg (b+2) fun q=>L (p,q)else some d
def uh(a:List Nat):Option (List Nat):=bd (zm (XZ fu a) fu<|([],(0:Int))) fun b=>bd (Zs fu b) fun d=>some d
def bF(d:List Nat)(e:List Nat):(((List Nat)×Nat×Int)->Option (List Nat))->((List Nat)×Nat×Int)->Option (List Nat):=fun L (b,h,a)=>nm (max ((d.length:Int))<|(e.length:Int)) fun i=>zg (i+1) fun j=>if a<j then bd (vB fu d a) fun k=>bd (vB fu e a) fun l=>nm ((k+l)%18446744073709551616) fun m=>nm ((m+h)%18446744073709551616) fun f=>nm (f &&& ((4294967295:Nat))) fun g=>ck ((b.length+([g]).length)*8<=140737488355328)<|nm (b++([g])) fun o=>nm (f/2^(min (((32:Nat)):Int).toNat 64)) fun p=>zg (a+1) fun q=>L (o,p,q)else some b
def Ql(a:List Nat)(b:List Nat):Option (List Nat):=bd (vz fu a) fun d=>bd (vz fu b) fun e=>bd (zm (bF fu d e) fu<|([],(0:Nat),(0:Int))) fun f=>bd (uh fu f) fun g=>some g
def Zu(b:List Nat)(d:List Nat):(Int->Option (Unit⊕Int))->Int->Option (Unit⊕Int):=fun L a=>if 0<=a then bd (vB fu b a) fun e=>bd (vB fu d a) fun f=>if(e:Int)<(f:Int)then some (.inr (-1:Int))else bd (vB fu b a) fun g=>bd (vB fu d a) fun h=>if(h:Int)<(g:Int)then some (.inr (1:Int))else zg (a-1) fun i=>L i else some (.inl ())
def uI(a:List Nat)(b:List Nat):Option Int:=nm (max ((a.length:Int))<|(b.length:Int)) fun d=>zg (d-1) fun e=>bd (zm (Zu fu a b) fu e) fun f=>match f with
 |.inl _=>some (0:Int)
 |.inr g=>some g
def Vi(d:List Nat)(g:List Nat):(((List Nat)×Nat×Int)->Option (List Nat))->((List Nat)×Nat×Int)->Option (List Nat):=fun L (b,h,a)=>if a<(d.length:Int)then bd (vB fu d a) fun i=>nm ((i+((4294967296:Nat)))%18446744073709551616) fun j=>bd (vB fu g a) fun k=>nm ((j+18446744073709551616-k)%18446744073709551616) fun l=>nm ((l+18446744073709551616-h)%18446744073709551616) fun e=>nm (e &&& ((4294967295:Nat))) fun f=>ck ((b.length+([f]).length)*8<=140737488355328)<|nm (b++([f])) fun m=>nm (e/2^(min (((32:Nat)):Int).toNat 64)) fun o=>nm ((((1:Nat))+18446744073709551616-o)%18446744073709551616) fun p=>zg (a+1) fun q=>L (m,p,q)else some b
def WH(a:List Nat)(b:List Nat):Option (List Nat):=bd (zm (Vi fu a b) fu<|([],(0:Nat),(0:Int))) fun d=>bd (Xx fu d) fun e=>some e
def Y3(d:List Nat)(e:List Nat):Option ((List Nat)×Int):=bd (vz fu d) fun a=>bd (vz fu e) fun b=>bd (uI fu a b) fun f=>if f<0 then some (([],(1:Int)))else bd (WH fu a b) fun g=>bd (uh fu g) fun h=>some<|(h,(0:Int))
def Qk(a:Zr)(b:Zr):Option Zr:=nm (a.1==b.1) fun d=>if d then bd (Ql fu a.2 b.2) fun e=>bd (xH fu (a.1,e)) fun f=>some f else bd (Y3 fu a.2 b.2) fun(g,h)=>if h=0 then bd (xH fu (a.1,g)) fun i=>some i else bd (Y3 fu b.2 a.2) fun(j,l)=>bd (xH fu (b.1,j)) fun k=>some k
def VO(a:Zr):Option Zr:=bd (xH fu<|((!a.1),a.2)) fun b=>some b
def Qa(a:Zr)(b:Zr):Option Zr:=bd (VO fu b) fun d=>bd (Qk fu a d) fun e=>some e
def VP(a:Zr)(b:Zr):Option Int:=bd (Qa fu a b) fun d=>bd (ZJ fu d) fun e=>some e
def UZ(b:List Zr)(d:List Zr):(Int->Option (Unit⊕Bool))->Int->Option (Unit⊕Bool):=fun L a=>if 0<=a then zH a (b.length) fun f=>nm ((b.getD f (false,[]))) fun g=>zH a (d.length) fun h=>nm ((d.getD h (false,[]))) fun i=>bd (VP fu g i) fun e=>if e=0 then zg (a-1) fun j=>L j else if e<0 then some (.inr true)else some (.inr false)else some (.inl ())
def W0(d:List Zr)(e:List Zr):Option Bool:=bd (kM fu d) fun a=>bd (kM fu e) fun b=>if(a.length:Int)=(b.length:Int)then zg (((a.length:Int))-1) fun f=>bd (zm (UZ fu a b) fu f) fun g=>match g with
 |.inl _=>some false
 |.inr h=>some h else if(a.length:Int)<(b.length:Int)then some true else some false
def Qx(b:List ((List Zr)×Int))(d:List Zr):(Int->Option Int)->Int->Option Int:=fun L a=>if a<(b.length:Int)then zH a (b.length) fun e=>nm (b.getD e ([],0)) fun f=>bd (W0 fu f.1 d) fun g=>if g then zg (a+1) fun h=>L h else some a else some a
def Qn(a:List ((List Zr)×Int))(e:List Zr)(f:Int):Option (List<|(List Zr)×Int):=bd (zm (Qx fu a e) fu (0:Int)) fun b=>bd ((if b<(a.length:Int)then zH b (a.length) fun o=>nm (a.getD o ([],0)) fun p=>bd (kO fu p.1 e) fun q=>some q else some false:Option Bool)) fun r=>if r then ck (((([]:List ((List Zr)×Int))).length+a.length)*32<=140737488355328)<|nm ((([]:List ((List Zr)×Int)))++a) fun d=>zH b (d.length) fun s=>nm (((d.getD s ([],0))).2) fun t=>zg (t+f) fun u=>zH b (d.length) fun g=>nm (d.set g<|(((d.getD g ([],0))).1,u)) fun v=>some v else jS b fun h=>ck (h<=a.length)<|nm (a.take h) fun i=>ck (((([]:List ((List Zr)×Int))).length+i.length)*32<=140737488355328)<|nm ((([]:List ((List Zr)×Int)))++i) fun j=>ck ((j.length+([(e,f)]).length)*32<=140737488355328)<|nm (j++([(e,f)])) fun k=>jS b fun l=>ck (l<=a.length)<|nm (a.drop l) fun m=>ck ((k.length+m.length)*32<=140737488355328)<|nm (k++m) fun w=>some w
def jl(a:List ((List Zr)×Int)):(((List<|(List Zr)×Int)×Int)->Option ((List<|(List Zr)×Int)⊕Unit))->((List<|(List Zr)×Int)×Int)->Option ((List<|(List Zr)×Int)⊕Unit):=fun L (d,b)=>if b<(a.length:Int)then zH b (a.length) fun e=>nm (((a.getD e ([],0))).2) fun f=>if f<1 then some (.inr ())else zH b (a.length) fun g=>nm (((a.getD g ([],0))).2) fun h=>if 6<h then some (.inr ())else if 20<(d.length:Int)then some (.inr ())else zH b (a.length) fun i=>nm (((a.getD i ([],0))).1) fun j=>zH b (a.length) fun k=>nm (((a.getD k ([],0))).2) fun l=>bd (Qn fu d j l) fun m=>zg (b+1) fun o=>L (m,o)else some (.inl d)
def kZ(d:List Zr)(e:List Zr):Option Bool:=bd (YY fu) fun a=>bd (ve fu (6:Int) (1:Int) d) fun f=>if !f then some a else bd (ve fu (6:Int) (1:Int) e) fun g=>if !g then some a else bd (yg fu d []) fun(r,h,i)=>bd (yg fu e []) fun(s,j,k)=>bd (xa fu d e) fun l=>bd (yg fu l []) fun(t,m,b)=>if i=0 then if k=0 then if b=0 then bd (zm (jl fu j) fu<|(h,(0:Int))) fun o=>match o with
 |.inl p=>if a then bd (ZP fu m p) fun q=>some q else some false
 |.inr _=>some false else if a then if b=6 then some true else some false else some false else if a then if b=0 then some false else some true else some false else if a then if b=0 then some false else some true else some false
def M5(fu:Nat)(b:Int):(((List Int)×Int)->Option (List Int))->((List Int)×Int)->Option (List Int):=fun L (f,a)=>zg (a*a) fun s=>zg (0-b) fun t=>nm (max b t) fun u=>if s<=u then ck (a≠0)<|nm (xcc b a) fun v=>if v=0 then zg (0-a) fun r=>ck ((f.length+([a,r]).length)*8<=140737488355328)<|nm (f++([a,r])) fun h=>bd ((zg (a*a) fun w=>zg (0-b) fun x=>nm (max b x) fun y=>if w=y then some (b,false)else some (b,true):Option (Int×Bool))) fun(g,A)=>if A then zg (0-g) fun i=>nm (max g i) fun j=>ck (a≠0)<|zg (xde j a) fun d=>zg (0-g) fun k=>nm (max g k) fun l=>zg (0-l) fun m=>ck (a≠0)<|zg (xde m a) fun e=>ck ((h.length+([d,e]).length)*8<=140737488355328)<|nm (h++([d,e])) fun B=>zg (a+1) fun o=>L (B,o)else zg (a+1) fun p=>L (h,p)else zg (a+1) fun q=>L (f,q)else some f
def gB(fu:Nat)(k:Int):(((List Int)×Int×(List Int))->Option (((List Int)×(List Int))⊕Unit))->((List Int)×Int×(List Int))->Option (((List Int)×(List Int))⊕Unit):=fun L (d,b,a)=>if k<=b then zH b (d.length) fun l=>nm (d.getD l 0) fun m=>zg (b-k) fun o=>zH o (d.length) fun p=>nm (d.getD p 0) fun q=>zg (m-q) fun e=>zH b (a.length) fun r=>nm ((a.getD r 0)) fun s=>zg (b-1) fun t=>zH t (a.length) fun u=>nm ((a.getD u 0)) fun v=>zg (s-v) fun w=>ck (e≠0)<|nm (xcc w e) fun x=>if x=0 then zH b (a.length) fun y=>nm ((a.getD y 0)) fun A=>zg (b-1) fun f=>zH f (a.length) fun B=>nm ((a.getD B 0)) fun g=>zg (A-g) fun h=>ck (e≠0)<|zg (xde h e) fun i=>zH b (a.length) fun C=>nm (a.set C i) fun E=>zg (b-1) fun j=>L (d,j,E)else some (.inr ())else some (.inl (d,a))
def Oj(a:List Int):((Int×(List Int))->Option ((List Int)⊕Unit))->(Int×(List Int))->Option ((List Int)⊕Unit):=fun L (b,e)=>if b<(a.length:Int)then zg (((a.length:Int))-1) fun f=>bd (zm (gB fu b) fu (a,f,e)) fun g=>match g with
 |.inl (i,h)=>zg (b+1) fun d=>L (d,h)
 |.inr _=>some (.inr ())else some (.inl e)
def Zv(fu:Nat)(b:Int):(Int->Option (Unit⊕Unit))->Int->Option (Unit⊕Unit):=fun L a=>zg (a*a) fun d=>if d<=b then ck (a≠0)<|nm (xcc b a) fun e=>if e=0 then some (.inr ())else zg (a+1) fun f=>L f else some (.inl ())
def cJ(a:Int):Option Bool:=if a<2 then some false else if 65521<a then some false else bd (zm (Zv fu a) fu (2:Int)) fun b=>match b with
 |.inl _=>some true
 |.inr _=>some false
def um(a:Int):Option Int:=bd (cJ fu a) fun b=>if !b then some (1:Int)else some (0:Int)
def V7(fu:Nat)(d:Int)(a:Int):Option Int:=if a<1 then some (0:Int)else ck (a≠0)<|nm (xcc d a) fun b=>if b<0 then zg (b+a) fun e=>some e else some b
def Kd(a:List Int)(f:Int):(((List Int)×Int)->Option (List Int))->((List Int)×Int)->Option (List Int):=fun L (b,d)=>if d<(a.length:Int)then zH d (a.length) fun g=>nm (a.getD g 0) fun h=>bd (V7 fu h f) fun e=>ck ((b.length+([e]).length)*8<=140737488355328)<|nm (b++([e])) fun i=>zg (d+1) fun j=>L (i,j)else some b
def Kl(fu:Nat)(b:List Int):(Int->Option Int)->Int->Option Int:=fun L a=>if 0<a then zg (a-1) fun d=>zH d (b.length) fun e=>nm ((b.getD e 0)) fun f=>if f=0 then zg (a-1) fun g=>L g else some a else some a
def qt(d:List Int)(e:Int):Option (List Int):=bd (zm (Kd fu d e) fu<|([],(0:Int))) fun a=>bd (zm (Kl fu a) fu<|(a.length:Int)) fun f=>jS f fun b=>ck (b<=a.length)<|nm (a.take b) fun g=>some g
def Ke(fu:Nat)(e:Int)(h:List Int)(f:List Int):((Int×Int×(List Int))->Option (Int×(List Int)))->(Int×Int×(List Int))->Option (Int×(List Int)):=fun L (d,a,b)=>if a<(f.length:Int)then zg (e+a) fun i=>zg (e+a) fun j=>zH j (b.length) fun k=>nm ((b.getD k 0)) fun l=>zH e (h.length) fun m=>nm ((h.getD m 0)) fun o=>zH a (f.length) fun p=>nm ((f.getD p 0)) fun q=>zg (o*q) fun r=>zg (l+r) fun s=>ck (d≠0)<|nm (xcc s d) fun t=>zH i (b.length) fun u=>nm (b.set u t) fun v=>zg (a+1) fun g=>L (d,g,v)else some (d,b)
def Kf(g:Int):((Int×(List Int)×(List Int)×(List Int))->Option (List Int))->(Int×(List Int)×(List Int)×(List Int))->Option (List Int):=fun L (a,b,e,f)=>if a<(b.length:Int)then bd (zm (Ke fu a b e) fu<|(g,(0:Int),f)) fun(i,h)=>zg (a+1) fun d=>L (d,b,e,h)else some f
def Qw(h:List Int)(i:List Int)(a:Int):Option (List Int):=bd (qt fu h a) fun e=>bd (qt fu i a) fun f=>zg (((e.length:Int))+((f.length:Int))) fun j=>jS j fun g=>ck (8*g<=281474976710656)<|nm (xaf g 0) fun k=>bd (zm (Kf fu a) fu<|((0:Int),e,f,k)) fun b=>bd (qt fu b a) fun d=>some d
def b6(fu:Nat)(a:Int):((Int×Int×Int)->Option Int)->(Int×Int×Int)->Option Int:=fun L (e,b,d)=>if 0<d then ck ((2:Int)≠0)<|nm (xcc d (2:Int)) fun i=>if i=1 then zg (e*b) fun j=>ck (a≠0)<|nm (xcc j a) fun k=>zg (b*b) fun l=>ck (a≠0)<|nm (xcc l a) fun m=>ck ((2:Int)≠0)<|zg (xde d (2:Int)) fun o=>L (k,m,o)else zg (b*b) fun f=>ck (a≠0)<|nm (xcc f a) fun g=>ck ((2:Int)≠0)<|zg (xde d (2:Int)) fun h=>L (e,g,h)else some e
def U6(d:Int)(b:Int)(a:Int):Option (Int×Int):=bd (um fu a) fun e=>if e=0 then if b<0 then some (((0:Int),(1:Int)))else ck (a≠0)<|nm (xcc (1:Int) a) fun f=>bd (V7 fu d a) fun g=>bd (zm (b6 fu a) fu (f,g,b)) fun h=>some ((h,(0:Int)))else some (((0:Int),(1:Int)))
def XP(b:Int)(a:Int):Option Int:=zg (a-2) fun d=>bd (U6 fu b d a) fun(e,f)=>if a=2 then some (1:Int)else some e
def bf(d:List Int)(b:Int):Option ((List Int)×Int):=bd (um fu b) fun e=>if e=0 then bd (qt fu d b) fun a=>if(a.length:Int)=0 then some (([],(0:Int)))else zg (((a.length:Int))-1) fun f=>zH f (a.length) fun g=>nm ((a.getD g 0)) fun h=>bd (XP fu h b) fun i=>bd (Qw fu a [i] b) fun j=>some ((j,(0:Int)))else some (([],(1:Int)))
end
end
section
set_option maxRecDepth 100000
section
open Go.Proofs.Tryz
variable(fu:Nat)
theorem eJ:yq ⟨112,[.d j9],[.own .u 54],fun x=>Zs fu x.1,0⟩:=sq fu ⟨[],[],[(2,q1 [(3,.d .i)] 0 [(3,.d .i)])],[],[],[]⟩ func112<|cN
theorem ZW:yq ⟨110,[.d zZ],[.d zZ],fun x=>xH fu x.1,0⟩:=sq fu wX func110<|cC (eJ fu)<|cN
theorem M6:yq ⟨55,[.d .i],[.d zZ],fun x=>pB fu x.1,0⟩:=sq fu wX func55<|cC (ZW fu)<|cN
theorem dC:yq ⟨132,[.d zZ],[.d .i],fun x=>ZJ fu x.1,0⟩:=sq fu wX func132<|cC (ZW fu)<|cN
theorem fM:yq ⟨64,[.d xb],[.own zZ 30],fun x=>kM fu x.1,0⟩:=sq fu ⟨[],[],[(2,q1 [(3,.d .i)] 0 [(3,.d .i)]),(6,q1 [(4,.own zZ 30),(5,.d .i)] 2 [(4,.own zZ 30)])],[],[],[]⟩ func64<|cC (dC fu)<|cC (ZW fu)<|cN
theorem Mw:yq ⟨50,[.d yS],[.own zZ 30],fun x=>cW fu x.1,0⟩:=sq fu ⟨[],[],[(3,q1 [(3,.own zZ 30),(4,.d .i)] 0 [(3,.own zZ 30)])],[],[],[]⟩ func50<|cC (fM fu)<|cC (M6 fu)<|cN
theorem Dn:yq ⟨63,[.d j9,.d j9],[.d .b],fun x=>WK fu x.1 x.2.1,0⟩:=sq fu ⟨[],[],[(4,⟨⟨[(5,.d .i)],[]⟩,⟨[],[(.x 0,⟨[],[]⟩),(.r,⟨[],[(4,.kb false)]⟩)]⟩⟩)],[],[],[]⟩ func63<|cN
theorem Fu:yq ⟨17,[.d zZ,.d zZ],[.d .b],fun x=>Wy fu x.1 x.2.1,0⟩:=sq fu wX func17<|cC (Dn fu)<|cN
theorem eC:yq ⟨69,[.d xb,.d xb],[.d .b],fun x=>kO fu x.1 x.2.1,0⟩:=sq fu ⟨[],[],[(4,⟨⟨[(5,.d .i)],[]⟩,⟨[],[(.x 0,⟨[],[]⟩),(.r,⟨[],[(4,.kb false)]⟩)]⟩⟩)],[],[],[]⟩ func69<|cC (Fu fu)<|cN
theorem dT:yq ⟨20,[.d (.l (.p xb .i)),.d (.l (.p xb .i))],[.d .b],fun x=>ZP fu x.1 x.2.1,0⟩:=sq fu ⟨[],[],[(4,⟨⟨[(5,.d .i)],[]⟩,⟨[],[(.x 0,⟨[],[]⟩),(.r,⟨[],[(4,.kb false)]⟩)]⟩⟩)],[],[],[]⟩ func20<|cC (eC fu)<|cN
theorem pC:yq ⟨215,[.d j9,.d .i],[.d .u],fun x=>Xl fu x.1 x.2.1,0⟩:=sq fu wX func215<|cN
theorem HY:yq ⟨213,[.d .i,.d .u,.q j9,.q j9],[.d .u,.d .u],fun x=>Um fu x.1 x.2.1 x.2.2.1 x.2.2.2.1,0⟩:=sq fu wX func213<|cC (pC fu)<|cN
theorem uj:yq ⟨212,[.d .i,.fn [.i,.u] [.u,.u]],[.own .u 54,.d .u],fun x=>vb fu x.1<|fun z0 z1=>x.2.1 (z0,z1,()),0⟩:=sq fu ⟨[],[],[(4,q1 [(7,.d .u),(13,.d .i),(6,.own .u 54)] 0 [(7,.d .u),(6,.own .u 54)])],[],[],[]⟩ func212<|cN
theorem xY:yq ⟨157,[.d j9],[.d j9],fun x=>xz fu x.1,0⟩:=sq fu ⟨[],[],[(1,q1 [(0,.d j9)] 0 [(0,.d j9)])],[],[],[]⟩ func157<|cN
theorem yO:yq ⟨157,[.own .u 54],[.own .u 54],fun x=>yP fu x.1,0⟩:=sq fu ⟨[],[],[(1,q1 [(0,.own .u 54)] 0 [(0,.own .u 54)])],[],[],[]⟩ func157<|cN
theorem gV:yq ⟨139,[.d j9,.d j9],[.own .u 54],fun x=>kX fu x.1 x.2.1,0⟩:=sq fu wX func139<|cC (uj fu)<|cC (HY fu)<|cC (yO fu)<|cC (xY fu)<|cN
theorem nF:yq ⟨297,[.d .i],[.d .b],fun x=>uE fu x.1,0⟩:=sq fu wX func297<|cN
theorem eT:yq ⟨216,[.d .i,.d .i],[.d .i],fun x=>jN fu x.1 x.2.1,0⟩:=sq fu wX func216<|cC (nF fu)<|cN
theorem cZ:yq ⟨298,[.d .u],[.d .b],fun x=>jg fu x.1,0⟩:=sq fu wX func298<|cN
theorem KP:yq ⟨217,[.d .u,.d .u],[.d .i],fun x=>vR fu x.1 x.2.1,0⟩:=sq fu wX func217<|cC (cZ fu)<|cN
theorem Bp:yq ⟨140,[.d j9,.d j9],[.d .i],fun x=>W5 fu x.1 x.2.1,0⟩:=sq fu ⟨[],[],[(5,⟨⟨[(5,.d .i)],[]⟩,⟨[],[(.x 0,⟨[],[]⟩),(.r,⟨[(4,.d .i)],[]⟩)]⟩⟩)],[],[],[]⟩ func140<|cC (eT fu)<|cC (KP fu)<|cC (yO fu)<|cC (xY fu)<|cN
set_option maxRecDepth 100000 in
set_option maxHeartbeats 1000000 in
theorem XU(l:List Nat)(v0:Value)(hd:l.length<=17592186044416):Fn Tryz.prog 220 [v0].toArray [fV (eS eU) (l) v0] (fun u:Value=>u) (fun u=>[fV (eS eU) (l) u]) (fun _=>True):=by
 refine Iw func220 rfl rfl fun we Se rest=> ?_;refine zbP (fun S w h=>zhg h.1) fun hb=> ?_;refine zbP (fun S w h=>zcX h.1) fun hc=> ?_;refine Xv ?_;refine wY ?_;refine BU 1 [(0,v0)] rfl fun rest=> ?_;refine jh ?_;refine Xv ?_;refine Xv ?_;refine wY ?_;refine BU 1 [(0,v0),(3,v0)] rfl fun rest=> ?_;refine zfe rfl rfl (zfD (e:=eU) (xs:=l) Tryz.underlying28 rfl rfl<|fun S w h=>h.1) fun q1 he=> ?_;refine BU 0 [(0,v0),(4,.bool<|q1)] rfl fun rest=> ?_;refine jh ?_;refine zhf (q1) rfl (fun ha=> ?_)<|fun ha=> ?_
 ·refine Xv ?_;refine wY ?_;refine BU 1 [(2,.slice none 0 0)] rfl fun rest=> ?_;refine jh ?_;refine OU ?_;exact zdS (.slice none 0 0:Value) Tryz.results220 rfl trivial<|fun S w h=>⟨(cvt (show([])=(l)from by first|rfl|simp_all) zcs),trivial⟩
 ·refine DA ?_;refine Xv ?_;refine wY ?_;refine zbt (e:=eU) rfl rfl Tryz.underlying28 zkh fun v1=> ?_;refine BU 1 [(5,v1),(6,v0)] rfl fun rest=> ?_;refine Si (e:=eU) (xs:=[]) (ys:=l) 0 rfl rfl Tryz.underlying28 zkh rfl (by decide) rfl rfl rfl (fun S w h=>h.1) (by first|lia|(simp only[xbR,xax,xaZ,xaq,xav,xbN];lia)|(simp;lia)) (by first|lia|(simp only[xbR,xax,xaZ,xaq,xav,xbN];lia)|(simp;lia)) fun v2=> ?_;show TL _ _ _ _ [mO eU 54 v2<|[]++l] _ _ _ _ _;refine BU 1 [(2,v2)] rfl fun rest=> ?_;refine jh ?_;refine OU ?_;refine SF (fun w h=>ER 0 h rfl) ?_;exact zdS v2 Tryz.results220 rfl trivial<|fun S w h=>⟨(cvt (show([]++l)=(l)from by first|rfl|simp_all) h.1),trivial⟩
theorem XR(a0:List Nat)(va0:Value)(r0:List Nat)(H:xG fu a0=some r0):Fn Tryz.prog 220 [va0].toArray [fV (eS eU) (a0) va0] (fun u:Value=>u) (fun u=>[fV (eS eU) (r0) u]) (fun _=>True):=by
 obtain⟨hk,H⟩:=kU H;obtain rfl:=zhW H;exact XU a0 va0 hk
theorem XF:yq ⟨220,[.d j9],[.d j9],fun x=>xG fu x.1,0⟩:=zgw (s:=j9) (t:=j9) (by kernel_rfl) fun x r v h=>XR fu x v r h
theorem db:yq ⟨144,[.d j9],[.d j9],fun x=>uQ fu x.1,0⟩:=sq fu wX func144<|cC (XF fu)<|cC (yO fu)<|cC (xY fu)<|cN
theorem HI:yq ⟨310,[.d .i,.d .u,.q j9,.q .i],[.d .u,.d .u],fun x=>UH fu x.1 x.2.1 x.2.2.1 x.2.2.2.1,0⟩:=sq fu wX func310<|cN
theorem lV:yq ⟨160,[.d j9,.d .i],[.own .u 54],fun x=>Zk fu x.1 x.2.1,0⟩:=sq fu wX func160<|cN
theorem lB:yq ⟨251,[.d j9,.d .i],[.own .u 54,.d .i],fun x=>Yx fu x.1 x.2.1,0⟩:=sq fu ⟨[],[],[],[(4,[23])],[],[]⟩ func251<|cC (lV fu)<|cC (uj fu)<|cC (yO fu)<|cC (xY fu)<|cC (HI fu)<|cN
theorem HJ:yq ⟨344,[.d .i,.d .u,.q j9,.q .i],[.d .u,.d .u],fun x=>UF fu x.1 x.2.1 x.2.2.1 x.2.2.2.1,0⟩:=sq fu wX func344<|cC (pC fu)<|cN
theorem B7:yq ⟨295,[.d j9,.d .i],[.own .u 54],fun x=>Q6 fu x.1 x.2.1,0⟩:=sq fu ⟨[2,3],[],[],[],[],[]⟩ func295<|cC (HJ fu)<|cC (uj fu)<|cC (yO fu)<|cC (xY fu)<|cN
set_option maxRecDepth 100000 in
set_option maxHeartbeats 1000000 in
theorem fZ(fu:Nat)(a0:Nat)(qa0:JM a0)(r0:Int)(H:xw fu a0=some r0):Fn Tryz.prog 252 [uv a0].toArray [] (fun _:Unit=>iv<|r0) (fun _=>[]) (fun _=>VH r0):=by
 unfold xw at H;refine Iw func252 rfl rfl fun we Se rest=>Xv<|wY<|ZU 1 [(2,iv 0)] rfl<|jh<|Xv ?_
 obtain⟨s1,hL,Hc⟩:=rk H;refine T_X [(.n,JQ we Se (G:=Nat×Int) (fun(d1,i1)=>(⟨[],[],[(0,uv d1),(2,iv<|i1)]⟩:Inv))<|fun(d1,i1)=>(d1,i1)=s1/\JM d1/\VH i1)] ?_ ⟨?_,trivial⟩
 ·replace H:=hL
  refine Xv<|wY<|ZU 1 [(3,uv a0)] rfl<|Nn rfl rfl rfl rfl (fun h1=> ?_) (fun h1=> ?_)
  ·replace H:=zgY h1 H
   refine jh<|VS rfl<|Xv<|wY<|ZU 1 [(5,uv a0)] rfl ?_
   obtain⟨m1,hf,H⟩:=xt H
   refine uf rfl rfl (rQ (c:=(m1:Int)) rfl rfl (xdf _)<|Rz hf<|eO (a:=a0))<|ZU 1 [(0,uv m1)] rfl<|jh<|wY<|ZU 1 [(2,iv 32)] rfl<|jh ?_
   exact N8 (m1,32) (xfx (xdv H)<|xfx (tc qa0 hf) (show VH (32)by decide)) rfl<|fun w h=>St.weak h<|fun S w h=>trivial
  replace H:=zgK h1 H
  refine jh<|WG rfl<|DA ?_
  exact N8 (a0,0) (xfx (xdv H)<|xfx qa0 (show VH (0)by decide)) rfl<|fun w h=>St.weak h<|fun S w h=>trivial
 refine zbT ?_;rintro⟨d1,i1⟩ ⟨hs,hg,hm⟩ rest;subst hs;replace H:=Hc;clear hL;refine zfZ rfl<|Xv ?_
 obtain⟨s2,hL,Hc⟩:=rk H;refine T_X [(.n,JQ we Se (G:=Nat×Int) (fun(d2,i2)=>(⟨[],[],[(0,uv d2),(2,iv<|i2)]⟩:Inv))<|fun(d2,i2)=>(d2,i2)=s2/\JM d2/\VH i2)] ?_ ⟨?_,trivial⟩
 ·replace H:=hL
  refine Xv<|wY<|ZU 1 [(7,uv d1)] rfl<|Nn rfl rfl rfl rfl (fun h2=> ?_) (fun h2=> ?_)
  ·replace H:=zgY h2 H
   refine jh<|VS rfl<|Xv<|wY<|ZU 1 [(9,uv d1)] rfl ?_
   obtain⟨m2,hi,H⟩:=xt H
   refine uf rfl rfl (rQ (c:=(m2:Int)) rfl rfl (xdf _)<|Rz hi<|eO (a:=d1))<|ZU 1 [(0,uv m2)] rfl<|jh<|wY<|ZU 1 [(11,iv<|i1)] rfl ?_
   obtain⟨x1,hn,ha,H⟩:=Ve H
   refine uf rfl rfl (pQ (c:=x1) rfl rfl<|w_x hn ha)<|ZU 1 [(2,iv<|x1)] rfl<|jh ?_
   exact N8 (m2,x1) (xfx (xdv H)<|xfx (tc hg hi) ha) rfl<|fun w h=>St.weak h<|fun S w h=>trivial
  replace H:=zgK h2 H
  refine jh<|WG rfl<|DA ?_
  exact N8 (d1,i1) (xfx (xdv H)<|xfx hg hm) rfl<|fun w h=>St.weak h<|fun S w h=>trivial
 refine zbT ?_;rintro⟨d2,i2⟩ ⟨hs,ht,hu⟩ rest;subst hs;replace H:=Hc;clear hL;refine zfZ rfl<|Xv<|Xv<|wY<|ZU 1 [(13,uv d2)] rfl<|Nn rfl rfl rfl rfl (fun h3=> ?_) (fun h3=> ?_)
 ·replace H:=zgY h3 H
  refine jh<|VS rfl<|Xv<|wY<|ZU 1 [(15,uv d2)] rfl ?_
  obtain⟨m3,ho,H⟩:=xt H
  refine uf rfl rfl (rQ (c:=(m3:Int)) rfl rfl (xdf _)<|Rz ho<|eO (a:=d2))<|ZU 1 [(0,uv m3)] rfl<|jh<|wY<|ZU 1 [(17,iv<|i2)] rfl ?_
  obtain⟨x2,hp,hj,H⟩:=Ve H
  refine uf rfl rfl (pQ (c:=x2) rfl rfl<|w_x hp hj)<|ZU 1 [(2,iv<|x2)] rfl<|jh<|Xv<|wY<|ZU 2 [(20,uv m3),(19,iv<|x2)] rfl ?_
  obtain⟨m4,hd,H⟩:=xt H
  refine uf rfl rfl (XL (c:=(m4:Int)) Tryz.underlying54 Tryz.underlying5 rfl<|cj hd<|wu8 _) ?_
  obtain⟨m5,hk,H⟩:=xt H
  refine uf rfl rfl (zcD (z:=m5) Tryz.underlying9 rfl (by kernel_rfl) rfl (DI hd) hk)<|uf rfl rfl (XL (c:=(m5:Int)) Tryz.underlying5 Tryz.underlying3 rfl<|w64<|b_r<|CA (DI hd) hk) ?_
  obtain⟨x3,hq,hb,H⟩:=Ve H
  refine uf rfl rfl (pQ (c:=x3) rfl rfl<|w_x hq hb)<|ZU 1 [(2,iv<|x3)] rfl<|jh<|OU ?_
  obtain rfl:=zhW H
  exact zdS () Tryz.results252 rfl hb<|fun S w h=>trivial
 replace H:=zgK h3 H;refine jh<|WG rfl<|DA<|Xv<|wY<|ZU 2 [(20,uv d2),(19,iv<|i2)] rfl ?_
 obtain⟨m6,he,H⟩:=xt H;refine uf rfl rfl (XL (c:=(m6:Int)) Tryz.underlying54 Tryz.underlying5 rfl<|cj he<|wu8 _) ?_;obtain⟨m7,hl,H⟩:=xt H;refine uf rfl rfl (zcD (z:=m7) Tryz.underlying9 rfl (by kernel_rfl) rfl (DI he) hl)<|uf rfl rfl (XL (c:=(m7:Int)) Tryz.underlying5 Tryz.underlying3 rfl<|w64<|b_r<|CA (DI he) hl) ?_
 obtain⟨x4,hr,hc,H⟩:=Ve H;refine uf rfl rfl (pQ (c:=x4) rfl rfl<|w_x hr hc)<|ZU 1 [(2,iv<|x4)] rfl<|jh<|OU ?_
 obtain rfl:=zhW H;exact zdS () Tryz.results252 rfl hc<|fun S w h=>trivial
theorem Zz:yq ⟨252,[.d .u],[.d .i],fun x=>xw fu x.1,0⟩:=zgS (by kernel_rfl) fun x r hx h=>fZ fu x hx r h
theorem kD:yq ⟨293,[.d .u],[.d .i],fun x=>xi fu x.1,0⟩:=sq fu wX func293<|cC (Zz fu)<|cN
theorem V8:yq ⟨227,[.d .u,.d .u,.d .u],[.d .u,.d .u],fun x=>vS fu x.1 x.2.1 x.2.2.1,0⟩:=sq fu ⟨[],[],[(17,q1 [(15,.d .u),(16,.d .u)] 0 [(15,.d .u)]),(24,q1 [(16,.d .u),(18,.d .u)] 2 [(18,.d .u)])],[],[],[]⟩ func227<|cC (kD fu)<|cN
theorem VW:yq ⟨302,[.d .u,.d .u],[.d .u,.d .u],fun x=>vT fu x.1 x.2.1,0⟩:=sq fu wX func302<|cN
theorem GW:yq ⟨294,[.d .u,.d .u,.d .u,.d .u,.d .u],[.d .u],fun x=>VV fu x.1 x.2.1 x.2.2.1 x.2.2.2.1 x.2.2.2.2.1,0⟩:=sq fu ⟨[],[],[(4,⟨⟨[(11,.d .u),(12,.d .u)],[]⟩,⟨[],[(.r,⟨[(10,.d .u)],[]⟩)]⟩⟩)],[],[],[]⟩ func294<|cC (V8 fu)<|cC (VW fu)<|cN
theorem Hx:yq ⟨218,[.d .i,.d .u,.q j9,.q j9],[.d .u,.d .u],fun x=>KY fu x.1 x.2.1 x.2.2.1 x.2.2.2.1,0⟩:=sq fu wX func218<|cC (pC fu)<|cN
theorem iE:yq ⟨141,[.d j9,.d j9],[.own .u 54,.d .i],fun x=>W7 fu x.1 x.2.1,0⟩:=sq fu wX func141<|cC (Hx fu)<|cC (uj fu)<|cC (yO fu)<|cC (xY fu)<|cN
theorem tU:yq ⟨159,[.d j9,.d j9],[.own .u 54],fun x=>YE fu x.1 x.2.1,0⟩:=sq fu wX func159<|cC (iE fu)<|cN
theorem HN:yq ⟨301,[.d .i,.d .u,.q j9,.q .u],[.d .u,.d .u],fun x=>K8 fu x.1 x.2.1 x.2.2.1 x.2.2.2.1,0⟩:=sq fu wX func301<|cC (VW fu)<|cN
theorem B5:yq ⟨225,[.d j9,.d .u],[.own .u 54],fun x=>W3 fu x.1 x.2.1,0⟩:=sq fu wX func225<|cC (uj fu)<|cC (HN fu)<|cN
theorem mg:yq ⟨164,[.d j9,.d .u],[.own .u 54,.d .u],fun x=>Xk fu x.1 x.2.1,0⟩:=sq fu ⟨[],[],[(3,q1 [(7,.d .u),(8,.d .i),(6,.own .u 54)] 0 [(7,.d .u),(6,.own .u 54)])],[],[],[]⟩ func164<|cC (V8 fu)<|cC (yO fu)<|cC (xY fu)<|cN
theorem CK:yq ⟨203,[.d j9,.d j9],[.own .u 54,.d j9,.d .i],fun x=>Q7 fu x.1 x.2.1,0⟩:=sq fu ⟨[],[(196612,⟨[],[(.n,⟨[(23,.d .b)],[]⟩)]⟩),(327686,⟨[],[(.n,⟨[(27,.d .b)],[]⟩)]⟩)],[(16,q1 [(10,.d j9),(16,.d .i),(12,.own .u 54),(15,.own .u 54)] 1 [(12,.own .u 54),(15,.own .u 54)]),(20,⟨⟨[(9,.d .i),(14,.d .i),(17,.d .u),(18,.d j9)],[]⟩,⟨[12,15],[(.x 3,⟨[(9,.d .i),(14,.d .i),(17,.d .u),(18,.d j9)],[]⟩)]⟩⟩)],[(23,[149])],[129],[]⟩ func203<|cC (B5 fu)<|cC (mg fu)<|cC (kD fu)<|cC (GW fu)<|cC (B7 fu)<|cC (Bp fu)<|cC (db fu)<|cC (lB fu)<|cC (yO fu)<|cC (xY fu)<|cC (tU fu)<|cN
theorem v8:yq ⟨81,[.d .b,.d j9],[.d zZ],fun x=>yU fu x.1 x.2.1,0⟩:=sq fu wX func81<|cC (db fu)<|cN
theorem cF:yq ⟨137,[.d zZ,.d zZ],[.d zZ,.d zZ,.d .i],fun x=>Yj fu x.1 x.2.1,0⟩:=sq fu ⟨[],[(327688,⟨[4,5],[(.n,⟨[(7,.own .u 54),(8,.d j9)],[]⟩)]⟩)],[],[],[],[]⟩ func137<|cC (v8 fu)<|cC (CK fu)<|cC (gV fu)<|cC (iE fu)<|cN
theorem Xd:yq ⟨73,[.d zZ],[.d zZ],fun x=>vW fu x.1,0⟩:=sq fu wX func73<|cC (v8 fu)<|cN
theorem vV:yq ⟨70,[.d zZ],[.d .i],fun x=>xA fu x.1,0⟩:=sq fu ⟨[1],[],[],[],[],[]⟩ func70<|cC (Xd fu)<|cN
theorem Wk:yq ⟨75,[.d zZ,.d zZ],[.d zZ,.d .i],fun x=>jk fu x.1 x.2.1,0⟩:=sq fu ⟨[],[(196612,⟨[4,6,7],[(.n,⟨[(16,.d .b)],[]⟩)]⟩)],[],[],[],[]⟩ func75<|cC (cF fu)<|cC (vV fu)<|cN
theorem Ev:yq ⟨158,[.d j9,.d j9],[.own .u 54],fun x=>Wx fu x.1 x.2.1,0⟩:=sq fu ⟨[],[(262149,⟨[5],[(.n,⟨[(0,.d j9),(18,.d j9),(19,.d .i),(21,.d .b)],[]⟩)]⟩),(524297,⟨[5,27],[(.n,⟨[(0,.d j9),(6,.d .i),(18,.d j9),(19,.d .i),(20,.d .i),(28,.d .i),(30,.d .b)],[]⟩)]⟩)],[(3,q1 [(20,.d .i),(5,.own .u 54)] 0 [(5,.own .u 54)]),(7,q1 [(8,.d .u),(29,.d .i),(5,.own .u 54),(27,.own .u 54)] 2 [(5,.own .u 54)])],[],[],[]⟩ func158<|cC (B5 fu)<|cC (yO fu)<|cC (xY fu)<|cN
def RK:VF:=⟨102,[.d j9,.d j9],[.own .u 54],fun x=>W2 fu x.1 x.2.1,0⟩
theorem B8:∀fu:Nat,yq (RK fu)
 |0=>sg0 (by kernel_rfl) fun _=>rfl
 |fu+1=>sq fu wX func102<|cC (lV fu)<|cC (B8 fu)<|cC (gV fu)<|cC (yO fu)<|cC (xY fu)<|cC (Ev fu)<|cC (tU fu)<|cN
theorem xv:yq ⟨78,[.d zZ,.d zZ],[.d zZ],fun x=>zQ fu x.1 x.2.1,0⟩:=sq fu wX func78<|cC (v8 fu)<|cC (B8 fu)<|cN
theorem uW:yq ⟨77,[.d zZ,.d zZ],[.d zZ],fun x=>vC fu x.1 x.2.1,0⟩:=sq fu ⟨[2,3],[(262150,⟨[4],[(.n,⟨[(2,.var zZ 30),(3,.var zZ 30)],[]⟩)]⟩)],[],[],[],[]⟩ func77<|cC (v8 fu)<|cC (gV fu)<|cC (Bp fu)<|cC (iE fu)<|cN
theorem cz:yq ⟨131,[.d zZ],[.d zZ],fun x=>uY fu x.1,0⟩:=sq fu wX func131<|cC (v8 fu)<|cN
theorem Vb:yq ⟨138,[.d zZ,.d zZ],[.d zZ],fun x=>qj fu x.1 x.2.1,0⟩:=sq fu wX func138<|cC (cz fu)<|cC (uW fu)<|cN
theorem tE:yq ⟨72,[.d .i,.d zZ],[.d zZ],fun x=>Vr fu x.1 x.2.1,0⟩:=sq fu wX func72<|cC (Xd fu)<|cN
theorem y8:yq ⟨71,[.d xb,.fn [.i,zZ] [zZ]],[.own zZ 30],fun x=>zE fu x.1<|fun z0 z1=>x.2.1 (z0,z1,()),0⟩:=sq fu ⟨[],[(262149,⟨[5],[(.n,⟨[(11,.d xb),(12,.d .i),(14,.d .b)],[]⟩)]⟩)],[(3,q1 [(13,.d .i),(5,.own zZ 30)] 0 [(5,.own zZ 30)])],[],[],[]⟩ func71<|cN
theorem yX:yq ⟨21,[.d xb],[.own zZ 30],fun x=>zJ fu x.1,0⟩:=sq fu ⟨[],[],[(1,q1 [(0,.d xb)] 0 [(0,.d xb)])],[],[],[]⟩ func21<|cC (tE fu)<|cC (vV fu)<|cC (y8 fu)<|cN
def ae:VF:=⟨129,[.d xb,.d xb],[.own zZ 30,.d .i],fun x=>wJ fu x.1 x.2.1,0⟩
theorem Qo:yq (ae fu):=sq fu ⟨[],[(327687,⟨[1,6],[(.n,⟨[],[]⟩),(.r,⟨[],[(4,.nil),(5,.ci 4)]⟩)]⟩),(1048593,⟨[1,6,7,9],[(.n,⟨[(8,.d .i),(71,.d .i),(73,.d .b)],[]⟩)]⟩)],[(8,⟨⟨[(8,.d .i),(1,.own zZ 30),(6,.own zZ 30),(7,.own zZ 30)],[]⟩,⟨[],[(.x 0,⟨[(6,.own zZ 30),(7,.own zZ 30)],[]⟩),(.r,⟨[(5,.d .i)],[(4,.nil)]⟩)]⟩⟩),(15,⟨⟨[(72,.d .i),(1,.own zZ 30),(6,.own zZ 30),(7,.own zZ 30),(9,.var zZ 30)],[(70,.al 1)]⟩,⟨[],[(.x 2,⟨[(1,.own zZ 30),(6,.own zZ 30),(7,.own zZ 30)],[]⟩)]⟩⟩)],[(10,[])],[],[]⟩ func129<|cC (Vb fu)<|cC (Wk fu)<|cC (yX fu)<|cC (xv fu)<|cN
theorem EN:yq ⟨61,[.d xb,.d xb],[.d .i],fun x=>ZN fu x.1 x.2.1,0⟩:=sq fu ⟨[],[],[(3,q1 [(5,.d .i),(6,.own zZ 30),(7,.d .i)] 0 [(5,.d .i)])],[],[],[]⟩ func61<|cC (Qo fu)<|cN
theorem Vv:yq ⟨188,[.d .i],[.d .b],fun x=>ks fu x.1,0⟩:=sq fu ⟨[],[(131075,⟨[],[(.n,⟨[(3,.d .b)],[]⟩)]⟩)],[(3,q1 [(3,.d .b),(4,.d .i)] 0 [(3,.d .b)])],[],[],[]⟩ func188<|cN
theorem xm:yq ⟨28,[.d .i],[.d zZ],fun x=>z8 fu x.1,0⟩:=sq fu wX func28<|cC (v8 fu)<|cN
theorem JE:yq ⟨183,[.d j9],[.d .i],fun x=>kf fu x.1,0⟩:=sq fu wX func183<|cC (Zz fu)<|cC (yO fu)<|cC (xY fu)<|cN
theorem LZ:yq ⟨189,[.d zZ,.d .i],[.d zZ,.d .i],fun x=>JO fu x.1 x.2.1,0⟩:=sq fu ⟨[],[(131075,⟨[4],[(.n,⟨[(8,.d .b)],[]⟩)]⟩)],[(7,⟨⟨[(1,.d .i),(7,.var zZ 30),(6,.var zZ 30)],[]⟩,⟨[4],[(.x 1,⟨[(6,.var zZ 30)],[]⟩)]⟩⟩)],[],[],[]⟩ func189<|cC (Xd fu)<|cC (xm fu)<|cC (xv fu)<|cC (JE fu)<|cN
theorem Vo:yq ⟨123,[.d .i,.d .i],[.d zZ,.d .i],fun x=>vD fu x.1 x.2.1,0⟩:=sq fu wX func123<|cC (Vv fu)<|cC (xm fu)<|cC (LZ fu)<|cN
theorem KK:yq ⟨336,[.d xb,.d zZ,.fn [zZ,zZ] [zZ,.i]],[.own zZ 30,.d .i],fun x=>vA fu x.1 x.2.1<|fun z0 z1=>x.2.2.1 (z0,z1,()),0⟩:=sq fu ⟨[],[(393223,⟨[8],[(.n,⟨[(4,.q zZ),(17,.d xb),(18,.d .i),(20,.d .b)],[]⟩)]⟩)],[(5,q1 [(19,.d .i),(8,.own zZ 30)] 0 [(8,.own zZ 30)])],[],[],[]⟩ func336<|cC (yX fu)<|cC (vV fu)<|cN
theorem Wo:yq ⟨313,[.d zZ,.d zZ],[.d zZ,.d .i],fun x=>vY fu x.1 x.2.1,0⟩:=sq fu wX func313<|cC (cF fu)<|cC (vV fu)<|cN
theorem gf:yq ⟨279,[.d xb,.d zZ],[.own zZ 30,.d .i],fun x=>ZR fu x.1 x.2.1,0⟩:=sq fu wX func279<|cC (KK fu)<|cC (Wo fu)<|cN
theorem Wj:yq ⟨197,[.d xb,.d zZ],[.own zZ 30],fun x=>yY fu x.1 x.2.1,0⟩:=sq fu wX func197<|cC (gf fu)<|cN
theorem qp:yq ⟨268,[.d .i],[.d .i],fun x=>wo fu x.1,0⟩:=sq fu wX func268<|cC (Vv fu)<|cN
theorem K1:yq ⟨317,[.d .i,.d .i],[.d .i],fun x=>kj fu x.1 x.2.1,0⟩:=sq fu wX func317<|cN
def sX:VF:=⟨329,[.d .i,.d .i],[.d .i,.d .i],fun x=>Xn fu x.1 x.2.1,0⟩
theorem pf:yq (sX fu):=sq fu ⟨[],[],[(5,⟨⟨[(7,.d .i),(8,.d .i),(9,.d .i),(10,.d .i)],[]⟩,⟨[],[(.x 0,⟨[(10,.d .i)],[]⟩),(.r,⟨[],[(4,.ci 0),(5,.ci 3)]⟩)]⟩⟩)],[],[],[]⟩ func329<|cC (qp fu)<|cC (K1 fu)<|cN
theorem xE:yq ⟨269,[.d yS,.d .i],[.own .i 3],fun x=>zX fu x.1 x.2.1,0⟩:=sq fu ⟨[],[],[(3,q1 [(13,.d .i),(5,.own .i 3)] 0 [(5,.own .i 3)]),(7,q1 [(5,.own .i 3)] 2 [(5,.own .i 3)])],[],[],[]⟩ func269<|cC (K1 fu)<|cN
theorem XJ:yq ⟨270,[.d yS,.d yS,.d .i],[.own .i 3,.own .i 3],fun x=>xl fu x.1 x.2.1 x.2.2.1,0⟩:=sq fu ⟨[],[(851982,⟨[8,12],[(.n,⟨[(9,.d .i),(13,.d .i),(61,.d yS),(62,.d .i),(64,.d .b)],[]⟩)]⟩)],[(7,q1 [(9,.d .i),(8,.own .i 3),(12,.own .i 3)] 0 [(8,.own .i 3),(12,.own .i 3)]),(12,q1 [(1,.d yS),(2,.d .i),(10,.d .i),(63,.d .i),(8,.own .i 3),(12,.own .i 3)] 2 [(1,.d yS),(2,.d .i),(10,.d .i),(8,.own .i 3),(12,.own .i 3)])],[],[],[]⟩ func270<|cC (pf fu)<|cC (xE fu)<|cN
theorem uB:yq ⟨330,[.d yS,.d yS,.d .i],[.own .i 3],fun x=>xX fu x.1 x.2.1 x.2.2.1,0⟩:=sq fu ⟨[],[(262149,⟨[7],[(.n,⟨[(1,.d yS),(2,.d .i),(18,.d yS),(19,.d .i),(21,.d .b)],[]⟩)]⟩),(458760,⟨[7],[(.n,⟨[(1,.d yS),(2,.d .i),(8,.d .i),(9,.d .i),(18,.d yS),(19,.d .i),(20,.d .i),(25,.d yS),(26,.d .i),(28,.d .b)],[]⟩)]⟩)],[(3,q1 [(20,.d .i),(7,.own .i 3)] 0 [(7,.own .i 3)]),(6,q1 [(27,.d .i),(7,.own .i 3)] 2 [(7,.own .i 3)])],[],[],[]⟩ func330<|cC (xE fu)<|cN
theorem U3:yq ⟨371,[.d yS,.d yS,.d .i,.d .i],[.own .i 3],fun x=>Zb fu x.1 x.2.1 x.2.2.1 x.2.2.2.1,0⟩:=sq fu ⟨[],[(327686,⟨[9],[(.n,⟨[(2,.d .i),(3,.d .i),(21,.d yS),(22,.d .i),(24,.d .b)],[]⟩)]⟩)],[(4,q1 [(23,.d .i),(9,.own .i 3)] 0 [(9,.own .i 3)])],[],[],[]⟩ func371<|cC (xE fu)<|cN
theorem C7:yq ⟨333,[.d (.a 3 yS),.d (.a 3 yS),.d .i],[.d (.a 3 yS)],fun x=>ZQ fu x.1 x.2.1 x.2.2.1,0⟩:=sq fu ⟨[3],[(262149,⟨[3,6],[(.n,⟨[(2,.d .i),(4,.q (.a 3 yS)),(20,.d .b)],[]⟩)]⟩)],[(3,⟨⟨[(7,.d yS),(19,.d .i),(3,.var (.a 3 yS) 286),(6,.var (.a 3 yS) 286)],[]⟩,⟨[8],[(.x 0,⟨[(3,.var (.a 3 yS) 286),(6,.var (.a 3 yS) 286)],[]⟩)]⟩⟩)],[],[],[]⟩ func333<|cC (uB fu)<|cC (U3 fu)<|cC (XJ fu)<|cN
theorem KG:yq ⟨334,[.d yS,.d .i,.d .i],[.own .i 3],fun x=>vy fu x.1 x.2.1 x.2.2.1,0⟩:=sq fu wX func334<|cC (pf fu)<|cC (uB fu)<|cN
theorem Uj:yq ⟨277,[.d yS,.d yS,.d .i],[.d yS,.d yS,.d yS,.d .i],fun x=>ky fu x.1 x.2.1 x.2.2.1,0⟩:=sq fu ⟨[],[(589834,⟨[11],[(.n,⟨[(44,.d .b)],[]⟩)]⟩)],[(5,q1 [(11,.var (.a 3 yS) 286),(12,.var (.a 3 yS) 286)] 0 [(11,.var (.a 3 yS) 286)]),(11,q1 [(51,.d .i),(11,.var (.a 3 yS) 286)] 2 [(11,.var (.a 3 yS) 286)])],[],[],[]⟩ func277<|cC (C7 fu)<|cC (qp fu)<|cC (xE fu)<|cC (KG fu)<|cN
theorem KM:yq ⟨272,[.d yS,.d yS,.d .i],[.d yS,.d .i],fun x=>q8 fu x.1 x.2.1 x.2.2.1,0⟩:=sq fu wX func272<|cC (Uj fu)<|cN
theorem VN:yq ⟨273,[.d yS,.d yS,.d .i],[.own .i 3,.d .i],fun x=>q9 fu x.1 x.2.1 x.2.2.1,0⟩:=sq fu wX func273<|cC (uB fu)<|cC (qp fu)<|cC (xE fu)<|cN
theorem lX:yq ⟨331,[.d yS,.d yS,.d .i],[.own .i 3,.d .i],fun x=>Xi fu x.1 x.2.1 x.2.2.1,0⟩:=sq fu wX func331<|cC (U3 fu)<|cC (qp fu)<|cC (xE fu)<|cN
theorem sG:yq ⟨275,[.d yS,.d yS,.d .i],[.d .b],fun x=>ZZ fu x.1 x.2.1 x.2.2.1,0⟩:=sq fu wX func275<|cC (lX fu)<|cN
theorem tX:yq ⟨271,[.d yS,.d .i],[.d .b],fun x=>Z6 fu x.1 x.2.1,0⟩:=sq fu ⟨[],[],[(2,⟨⟨[(9,.d .i)],[]⟩,⟨[],[(.x 0,⟨[],[]⟩),(.r,⟨[],[(4,.kb false)]⟩)]⟩⟩)],[],[],[]⟩ func271<|cN
theorem Jb:yq ⟨274,[.d (.l yS),.d .i],[.own .i 3],fun x=>vn fu x.1 x.2.1,0⟩:=sq fu ⟨[],[],[(3,q1 [(5,.own .i 3),(11,.d .i)] 0 [(5,.own .i 3)])],[],[],[]⟩ func274<|cC (VN fu)<|cN
theorem Fg:yq ⟨314,[.d zZ],[.d .i,.d .b],fun x=>WO fu x.1,0⟩:=sq fu ⟨[1],[(196612,⟨[1],[(.n,⟨[(6,.d .b)],[]⟩)]⟩),(327686,⟨[1],[(.n,⟨[(11,.d .b)],[]⟩)]⟩),(458760,⟨[1],[(.n,⟨[(16,.d .b)],[]⟩)]⟩)],[],[],[],[]⟩ func314<|cC (Xd fu)<|cN
theorem IY:yq ⟨256,[.d zZ,.d .i],[.d .i,.d .i],fun x=>VX fu x.1 x.2.1,0⟩:=sq fu ⟨[],[],[],[(1,[])],[],[]⟩ func256<|cC (Wo fu)<|cC (Fg fu)<|cC (xm fu)<|cN
theorem AV:yq ⟨255,[.d .i,.d zZ,.q .i],[.d .i],fun x=>YM fu x.1 x.2.1 x.2.2.1,0⟩:=sq fu wX func255<|cC (IY fu)<|cN
theorem QE:yq ⟨254,[.d xb,.fn [.i,zZ] [.i]],[.own .i 3],fun x=>qh fu x.1<|fun z0 z1=>x.2.1 (z0,z1,()),0⟩:=sq fu ⟨[],[(262149,⟨[5],[(.n,⟨[(11,.d xb),(12,.d .i),(14,.d .b)],[]⟩)]⟩)],[(3,q1 [(13,.d .i),(5,.own .i 3)] 0 [(5,.own .i 3)])],[],[],[]⟩ func254<|cN
theorem Xq:yq ⟨186,[.d xb,.d .i],[.own .i 3,.d .i],fun x=>jW fu x.1 x.2.1,0⟩:=sq fu ⟨[],[],[(4,q1 [(6,.own .i 3)] 0 [(6,.own .i 3)])],[],[],[]⟩ func186<|cC (QE fu)<|cC (AV fu)<|cN
theorem rb:yq ⟨195,[.d xb,.d (.l yS),.d .i],[.d .b],fun x=>wH fu x.1 x.2.1 x.2.2.1,0⟩:=sq fu ⟨[],[(393223,⟨[7],[(.n,⟨[(0,.d xb),(1,.d (.l yS)),(2,.d .i),(40,.d (.l yS)),(41,.d .i),(43,.d .b)],[]⟩)]⟩)],[(5,⟨⟨[(42,.d .i),(7,.own .i 3)],[]⟩,⟨[],[(.x 0,⟨[(7,.own .i 3)],[]⟩),(.r,⟨[],[(6,.kb false)]⟩)]⟩⟩),(10,⟨⟨[(62,.d .i)],[]⟩,⟨[7],[(.x 2,⟨[],[]⟩),(.r,⟨[],[(6,.kb false)]⟩)]⟩⟩)],[],[],[]⟩ func195<|cC (tX fu)<|cC (KM fu)<|cC (VN fu)<|cC (Jb fu)<|cC (sG fu)<|cC (Xq fu)<|cN
theorem gM:yq ⟨335,[.d xb,.d xb,.d zZ],[.d xb,.own zZ 30],fun x=>qJ fu x.1 x.2.1 x.2.2.1,0⟩:=sq fu ⟨[],[(589834,⟨[8,9],[(.n,⟨[(10,.d .i),(47,.d xb),(48,.d .i),(50,.d .b)],[]⟩)]⟩)],[(4,q1 [(10,.d .i),(8,.own zZ 30),(9,.own zZ 30)] 0 [(8,.own zZ 30),(9,.own zZ 30)]),(8,q1 [(1,.d xb),(5,.q zZ),(49,.d .i),(8,.own zZ 30),(9,.own zZ 30)] 2 [(1,.d xb),(5,.q zZ),(8,.own zZ 30),(9,.own zZ 30)])],[(6,[])],[],[]⟩ func335<|cC (Wo fu)<|cC (Vb fu)<|cC (Wj fu)<|cC (xv fu)<|cN
theorem Ar:yq ⟨348,[.d .i,.d zZ,.q xb],[.d zZ],fun x=>jA fu x.1 x.2.1 x.2.2.1,0⟩:=sq fu wX func348<|cC (uW fu)<|cN
theorem mo:yq ⟨309,[.d xb,.d xb],[.own zZ 30],fun x=>vc fu x.1 x.2.1,0⟩:=sq fu ⟨[3],[],[],[],[],[]⟩ func309<|cC (Ar fu)<|cC (yX fu)<|cC (y8 fu)<|cN
theorem UD:yq ⟨25,[.d xb,.d xb],[.own zZ 30],fun x=>xa fu x.1 x.2.1,0⟩:=sq fu ⟨[],[(262149,⟨[5],[(.n,⟨[(1,.d xb),(16,.d xb),(17,.d .i),(19,.d .b)],[]⟩)]⟩),(458760,⟨[5,7],[(.n,⟨[(1,.d xb),(6,.d .i),(16,.d xb),(17,.d .i),(18,.d .i),(23,.d xb),(24,.d .i),(26,.d .b)],[]⟩)]⟩)],[(3,q1 [(18,.d .i),(5,.own zZ 30)] 0 [(5,.own zZ 30)]),(6,q1 [(25,.d .i),(5,.own zZ 30),(7,.var zZ 30)] 2 [(5,.own zZ 30)])],[],[],[]⟩ func25<|cC (yX fu)<|cC (uW fu)<|cC (xv fu)<|cN
theorem oW:yq ⟨143,[.d .i,.d .i],[.d zZ],fun x=>Zt fu x.1 x.2.1,0⟩:=sq fu wX func143<|cC (xm fu)<|cN
theorem QH:yq ⟨142,[.d yS,.fn [.i,.i] [zZ]],[.own zZ 30],fun x=>qo fu x.1<|fun z0 z1=>x.2.1 (z0,z1,()),0⟩:=sq fu ⟨[],[],[(3,q1 [(13,.d .i),(5,.own zZ 30)] 0 [(5,.own zZ 30)])],[],[],[]⟩ func142<|cN
theorem fi:yq ⟨80,[.d yS],[.own zZ 30],fun x=>vQ fu x.1,0⟩:=sq fu wX func80<|cC (yX fu)<|cC (QH fu)<|cC (oW fu)<|cN
theorem o5:yq ⟨27,[.d yS],[.own zZ 30],fun x=>YA fu x.1,0⟩:=sq fu wX func27<|cC (fi fu)<|cN
theorem nD:yq ⟨249,[.d .i,.d zZ,.q zZ],[.d zZ],fun x=>XB fu x.1 x.2.1 x.2.2.1,0⟩:=sq fu wX func249<|cC (xv fu)<|cN
theorem YP:yq ⟨180,[.d xb,.d zZ],[.own zZ 30],fun x=>w7 fu x.1 x.2.1,0⟩:=sq fu wX func180<|cC (nD fu)<|cC (yX fu)<|cC (y8 fu)<|cN
theorem lY:yq ⟨248,[.d xb,.d xb],[.own zZ 30],fun x=>ja fu x.1 x.2.1,0⟩:=sq fu wX func248<|cC (YP fu)<|cC (xm fu)<|cC (mo fu)<|cN
theorem iV:yq ⟨278,[.d (.a 4 xb),.d xb,.d zZ],[.d (.a 4 xb)],fun x=>qK fu x.1 x.2.1 x.2.2.1,0⟩:=sq fu wX func278<|cC (Wj fu)<|cC (gM fu)<|cC (mo fu)<|cC (lY fu)<|cC (UD fu)<|cC (o5 fu)<|cN
theorem iZ:yq ⟨372,[.d (.p zZ (.p zZ zZ)),.d zZ,.d (.p zZ (.p zZ zZ))],[.d (.p zZ (.p zZ zZ))],fun x=>kP fu x.1 x.2.1 x.2.2.1,0⟩:=sq fu wX func372<|cC (Vb fu)<|cC (xv fu)<|cN
theorem Au:yq ⟨332,[.d zZ,.d zZ],[.d zZ,.d zZ,.d zZ],fun x=>YT fu x.1 x.2.1,0⟩:=sq fu ⟨[],[(393224,⟨[4,5,6],[(.n,⟨[(7,.var (.p zZ (.p zZ zZ)) 323)],[]⟩)]⟩),(524298,⟨[4,5,6],[(.n,⟨[(7,.var (.p zZ (.p zZ zZ)) 323)],[]⟩)]⟩)],[(2,⟨⟨[(7,.var (.p zZ (.p zZ zZ)) 323),(8,.var (.p zZ (.p zZ zZ)) 323)],[]⟩,⟨[4,5,6],[(.x 0,⟨[(7,.var (.p zZ (.p zZ zZ)) 323)],[]⟩)]⟩⟩)],[(1,[]),(9,[])],[],[]⟩ func332<|cC (cz fu)<|cC (vV fu)<|cC (cF fu)<|cC (v8 fu)<|cC (iZ fu)<|cC (xm fu)<|cN
theorem E3:yq ⟨276,[.d xb,.d zZ],[.own zZ 30],fun x=>Wc fu x.1 x.2.1,0⟩:=sq fu ⟨[],[],[],[(1,[])],[],[]⟩ func276<|cC (YP fu)<|cC (Au fu)<|cC (Wj fu)<|cN
def A6:VF:=⟨196,[.d xb,.d (.l yS),.d .i,.d .i,.d zZ],[.own xb 22],fun x=>w8 fu x.1 x.2.1 x.2.2.1 x.2.2.2.1 x.2.2.2.2.1,0⟩
theorem a6:∀fu:Nat,yq (A6 fu)
 |0=>sg0 (by kernel_rfl) fun _=>rfl
 |fu+1=>sq fu ⟨[],[],[(10,q1 [(22,.d .i),(21,.var (.a 4 xb) 252)] 0 [(21,.var (.a 4 xb) 252)])],[(14,[])],[],[]⟩ func196<|cC (a6 fu)<|cC (fi fu)<|cC (VN fu)<|cC (Jb fu)<|cC (E3 fu)<|cC (Uj fu)<|cC (iV fu)<|cC (Xq fu)<|cC (Vo fu)<|cN
theorem bU:yq ⟨125,[.d xb,.d (.l yS),.d .i,.d .i],[.own xb 22,.d .i],fun x=>qm fu x.1 x.2.1 x.2.2.1 x.2.2.2.1,0⟩:=sq fu wX func125<|cC (rb fu)<|cC (a6 fu)<|cC (Wj fu)<|cC (yX fu)<|cC (Vo fu)<|cN
theorem EP:yq ⟨281,[.d xb,.d xb,.d zZ],[.d xb,.d .i],fun x=>WB fu x.1 x.2.1 x.2.2.1,0⟩:=sq fu wX func281<|cC (UD fu)<|cC (gf fu)<|cN
theorem Vf:yq ⟨76,[.d zZ,.d zZ],[.d .i],fun x=>jm fu x.1 x.2.1,0⟩:=sq fu wX func76<|cC (Vb fu)<|cC (vV fu)<|cN
theorem CW:yq ⟨337,[.d zZ,.d zZ],[.d zZ,.d .i],fun x=>ZF fu x.1 x.2.1,0⟩:=sq fu wX func337<|cC (Wo fu)<|cC (Vb fu)<|cC (Vf fu)<|cC (uW fu)<|cN
theorem AJ:yq ⟨282,[.d xb,.d zZ],[.own zZ 30,.d .i],fun x=>YW fu x.1 x.2.1,0⟩:=sq fu wX func282<|cC (KK fu)<|cC (CW fu)<|cN
theorem pZ:yq ⟨130,[.d zZ,.d zZ],[.d zZ],fun x=>Vz fu x.1 x.2.1,0⟩:=sq fu ⟨[],[],[(2,⟨⟨[(5,.d j9),(6,.d j9)],[]⟩,⟨[4],[(.x 0,⟨[(5,.d j9)],[]⟩)]⟩⟩)],[],[],[]⟩ func130<|cC (db fu)<|cC (v8 fu)<|cC (CK fu)<|cN
theorem XM:yq ⟨62,[.d xb],[.d zZ],fun x=>wU fu x.1,0⟩:=sq fu ⟨[],[(327686,⟨[0,2,3],[(.n,⟨[(10,.d .i),(12,.d .b)],[]⟩)]⟩)],[(4,⟨⟨[(11,.d .i),(0,.own zZ 30),(2,.var zZ 30),(3,.var zZ 30)],[(9,.al 0)]⟩,⟨[],[(.x 0,⟨[(0,.own zZ 30),(2,.var zZ 30),(3,.var zZ 30)],[]⟩)]⟩⟩)],[],[],[]⟩ func62<|cC (pZ fu)<|cC (cz fu)<|cC (xm fu)<|cC (yX fu)<|cN
theorem tZ:yq ⟨74,[.d .i,.d zZ,.q zZ],[.d zZ],fun x=>VC fu x.1 x.2.1 x.2.2.1,0⟩:=sq fu wX func74<|cC (Wk fu)<|cN
def J1:VF:=⟨23,[.d xb],[.own zZ 30],fun x=>xU fu x.1,0⟩
theorem ZD:yq (J1 fu):=sq fu wX func23<|cC (tZ fu)<|cC (yX fu)<|cC (XM fu)<|cC (y8 fu)<|cN
def ue:VF:=⟨199,[.d xb,.d R6,.own .i 3,.d zZ],[.d xb,.own .i 3],fun x=>qB fu x.1 x.2.1 x.2.2.1 x.2.2.2.1,1⟩
theorem aV:yq (ue fu):=SL (fu:=fu) ⟨[],[(262149,⟨[2],[(.n,⟨[(1,.d R6),(7,.q zZ),(18,.d .i),(20,.d .b)],[]⟩)]⟩)],[(3,⟨⟨[(9,.d xb),(19,.d .i),(2,.own .i 3)],[(17,.al 2)]⟩,⟨[],[(.x 0,⟨[(9,.d xb),(2,.own .i 3)],[]⟩)]⟩⟩)],[],[],[]⟩ func199 (cC (EP fu)<|cC (AJ fu)<|cC (ZD fu)<|cN) (by kernel_rfl) fun pn x=>by kernel_rfl
def Yv:Ba:=⟨280,[.q .i,.q .i],.i,3,fun x _ _ g x0=>wq fu x.1 x.2.1 g x0⟩
def anC:An:=⟨[],[],[(2,⟨⟨[(4,.own .i 3),(12,.d .i)],[]⟩,⟨[0],[(.x 0,⟨[(4,.own .i 3)],[]⟩)]⟩⟩),(8,⟨⟨[(6,.d .i)],[]⟩,⟨[0,4],[(.x 4,⟨[(6,.d .i)],[]⟩)]⟩⟩),(13,⟨⟨[(7,.d .i),(4,.own .i 3)],[]⟩,⟨[0],[(.x 6,⟨[(4,.own .i 3)],[]⟩)]⟩⟩)],[],[],[]⟩
def zfQ:Code->Code|.seq a _=>a|c=>c
def Br:Code->Code|.seq _ b=>b|c=>c
def kIn:Code->Code|.block _ c=>c|.loop c=>c|c=>c
def CJ(f:Func):Code:=match f.body with|some c=>c|none=> .skip
noncomputable def kA:Code:=zfQ<|CJ f280
noncomputable def kB:Code:=zfQ<|Br<|CJ f280
noncomputable def kC:Code:=kIn<|kIn<|Br<|Br<|CJ f280
section
variable{X Y R:Type}{mX:X->Value->MF}{mY:Y->Value->MF}{g:List Int->X->Option (List Int×(X⊕Y))}{n all:Int}
def cfC:Cf:=⟨tt,[],anC,fu,ex,[],[],[]⟩
def S0(mX:X->Value->MF)(mY:Y->Value->MF)(g:List Int->X->Option (List Int×(X⊕Y)))(n all:Int)(x0:X):Sg:=⟨1,[(0,0,.yd 0),(1,0,.q .i n),(2,0,.q .i all)],[(0,.hid .i 3 X Y mX mY g x0)]⟩
def S1(mX:X->Value->MF)(mY:Y->Value->MF)(g:List Int->X->Option (List Int×(X⊕Y)))(n all:Int)(x0:X)(xs:List Int):Sg:=⟨2,[(4,0,.ow 1),(9,0,.ow 1),(8,0,.d .i n),(0,0,.yd 0),(1,0,.q .i n),(2,0,.q .i all)],[(1,.own .i 3 xs),(0,.hid .i 3 X Y mX mY g x0)]⟩
def S2(mX:X->Value->MF)(mY:Y->Value->MF)(g:List Int->X->Option (List Int×(X⊕Y)))(n all:Int)(x0:X)(xs ys:List Int):Sg:=⟨3,[(4,0,.ow 2),(4,0,.ow 2),(11,0,.d .i (xs.length:Int)),(8,0,.d .i n),(0,0,.yd 0),(1,0,.q .i n),(2,0,.q .i all)],[(2,.own .i 3 ys),(0,.hid .i 3 X Y mX mY g x0)]⟩
def Sn(mX:X->Value->MF)(mY:Y->Value->MF)(g:List Int->X->Option (List Int×(X⊕Y)))(n all:Int)(x:X)(xs:List Int)(x3 x1 x2 y x0:Int):Sg:=
 ⟨5,[(4,0,.ow 4),(4,0,.ow 4),(51,0,.d .i x3),(50,0,.d .i x1),(48,0,.d .i x2),(47,0,.d .i y),(45,0,.d .i x1),(43,0,.kb false),(42,0,.d .i x1),(6,0,.d .i x1),(6,0,.d .i x1),(25,0,.d .i x0),(24,0,.d .i n),(23,0,.kb false),(22,0,.kb true),(20,0,.yd 2),(0,0,.yd 2),(1,0,.q .i n),(2,0,.q .i all)],[(4,.own .i 3 xs),(2,.hid .i 3 X Y mX mY g x)]⟩
def Sr(mX:X->Value->MF)(mY:Y->Value->MF)(g:List Int->X->Option (List Int×(X⊕Y)))(n all:Int)(x:X)(x0 x1:Int)(xs:List Int):Sg:=
 ⟨4,[(43,0,.kb true),(42,0,.d .i x1),(6,0,.d .i x1),(6,0,.d .i x1),(25,0,.d .i x0),(24,0,.d .i n),(23,0,.kb false),(22,0,.kb true),(21,0,.ow 1),(20,0,.yd 2),(4,0,.ow 1),(0,0,.yd 2),(1,0,.q .i n),(2,0,.q .i all)],[(2,.hid .i 3 X Y mX mY g x),(1,.own .i 3 xs)]⟩
def Sy(mY:Y->Value->MF)(n all:Int)(y:Y)(xs:List Int):Sg:=
 ⟨3,[(23,0,.kb true),(22,0,.kb false),(21,0,.ow 1),(20,0,.yd 2),(4,0,.ow 1),(0,0,.yd 2),(1,0,.q .i n),(2,0,.q .i all)],[(2,.hiy Y mY y),(1,.own .i 3 xs)]⟩
theorem zk8(x0:X)(K:Tg->Sg->Option R):aR (cfC fu) kA ⟨0,[],[]⟩ (S0 mX mY g n all x0) K=jS n fun m=>ck (8*m<=281474976710656)<|nm (xaf m 0) fun xs=>K .n (S1 mX mY g n all x0 xs):=by kernel_rfl
theorem zlb(x0:X)(xs:List Int)(K:Tg->Sg->Option R):aR (cfC fu) kB ⟨0,[],[]⟩ (S1 mX mY g n all x0 xs) K=bd (zm (fun L (z:List Int×Int)=>
 if z.2<(xs.length:Int)then
  zH z.2 z.1.length fun j=>
  nm (z.1.set j z.2) fun xs=>
  zg (z.2+1) fun i=>L (xs,i)
 else some z.1) fu (xs,0)) fun ys=>K .n (S2 mX mY g n all x0 xs ys):=by kernel_rfl
theorem zk0(x:X)(xs:List Int)(K:Tg->Sg->Option R):aR (cfC fu) kC ⟨0,[],[]⟩ (chS 3 mX mY g n all x xs) K=
 vh fu n all g x xs (fun x xs a b c d e=>K .n<|Sn mX mY g n all x xs a b c d e) (fun x a b xs=>K .r<|Sr mX mY g n all x a b xs) fun y xs=>K .r (Sy mY n all y xs):=by kernel_rfl
theorem zfq(g:List Int->X->Option (List Int×(X⊕Y)))(x0:X)(r:X⊕Y)(l:Nat)(v1 v2 u:Value)(we:World)(Se:Nat->Prop)(F:List MF)(G:List FF)(w:World)(hY:HV Tryz.prog l eI 3 mX mY g)
 (hg:St we Se (mX x0 u::F) (ua Tryz.prog [.q .i,.q .i] (n,all,()) [v1,v2]++G) w) (hM:wq fu n all g x0=some r):
 Calls Tryz.prog 280 #[.func (.yield l) #[] #[],v1,v2] w fun e w'=>(∃v,e=.returned v)/\∃u',St we Se (xfu (fun x=>mX x u') (fun y=>mY y u') r::F) G w':=by
 have hX:Ak Tryz.prog (cfC fu):=.of LX rfl;have hD:∀c,MA 66 c=true->CG Tryz.prog (cfC fu) 66 c:=fun c h=>Ye M4 Mm NV cN hX c h;refine QX (args:=[.func (.yield l) #[] #[],v1,v2]) (c:=CJ f280) func280 rfl (by kernel_rfl) fun rest=> ?_;have hi:Zc Tryz.prog (Fr.wd ⟨we,Se,F,G⟩ []) ⟨0,[],[]⟩ (S0 mX mY g n all x0) (L ((([Value.func (.yield l) #[] #[],v1,v2]:List Value).zipIdx 0).map fun x=>(x.2,x.1)) rest) w:=by
  refine⟨⟨fun e he=> ?_,fun _ he=>absurd he IR,fun e he q hq=> ?_,fun _ he=>absurd he IR⟩,fun _=>UC (.int .i64 (l:Int)) [u],?_⟩
  ·obtain rfl:=xai.1 he;exact xea
  ·simp only[S0,xad,IR,or_false]at he;rcases he with rfl|rfl|rfl<;>cases hq<;>exact xea
  ·have h1:St we Se (Qv (fun _=>UC (.int .i64 (l:Int)) [u]) (0,.hid .i 3 X Y mX mY g x0)::F) (ua Tryz.prog [.q .i,.q .i] (n,all,()) [v1,v2]++G) w:=St.grp.2<|St.pr hY hg;exact h1.weak fun S w ha=>⟨rfl,ha.1,ha.2.1,ha.2.2⟩
 obtain⟨f2,hd⟩:∃f2:List Int->Option (X⊕Y),f2=fun xs=>zm (fun L (q:X×List Int)=>vh fu n all g q.1 q.2 (fun x xs _ _ _ _ _=>L (x,xs)) (fun x _ _ _=>some (.inl x)) fun y _=>some (.inr y)) fu (x0,xs):=⟨_,rfl⟩;obtain⟨f1,hf⟩:∃f1:List Int->Option (X⊕Y),f1=fun xs=>bd (zm (fun L (z:List Int×Int)=>
  if z.2<(xs.length:Int)then
   zH z.2 z.1.length fun j=>
   nm (z.1.set j z.2) fun xs=>
   zg (z.2+1) fun i=>L (xs,i)
  else some z.1) fu (xs,0)) f2:=⟨_,rfl⟩
 have hj:(jS n fun m=>ck (8*m<=281474976710656)<|nm (xaf m 0) f1)=some r:=by rw[hf,hd];exact hM
 refine oj (x:=kA) (y:=Br<|CJ f280) ?_;obtain⟨K,k1,k2⟩:=zbM (fun xs:List Int=>(Tg.n,S1 mX mY g n all x0 xs)) f1 (fun i j h=>by
  have h2:Od.own .i 3 i=Od.own .i 3 j:=by simpa[S1]using h
  cases h2;rfl)
 have k1:∀xs,K .n (S1 mX mY g n all x0 xs)=f1 xs:=k1;refine hD kA (by kernel_rfl) (N:=Nd.of 66) (K:=K) rfl (.inl rfl) (r:=r) ((zk8 fu x0 K).trans<|by simp only[k1];exact hj) (fun t σ' hk Ds env w _ hR=> ?_) hi;obtain⟨xs,e1,e2⟩:=k2 _ _ _ hk;cases e1;refine oj (x:=kB) (y:=Br<|Br<|CJ f280) ?_;obtain⟨K,k1,k2⟩:=zbM (fun ys:List Int=>(Tg.n,S2 mX mY g n all x0 xs ys)) f2 (fun i j h=>by
  have h2:Od.own .i 3 i=Od.own .i 3 j:=by simpa[S2]using h
  cases h2;rfl)
 have k1:∀ys,K .n (S2 mX mY g n all x0 xs ys)=f2 ys:=k1;refine hD kB (by kernel_rfl) (N:=Nd.of 66) (K:=K) rfl (.inl rfl) (r:=r) ((zlb fu x0 xs K).trans<|by simp only[k1];rw[hf]at e2;exact e2) (fun t σ' hk Ds env w _ hR=> ?_) hR;obtain⟨ys,e3,e4⟩:=k2 _ _ _ hk;cases e3;have hm:Zc Tryz.prog (Fr.wd ⟨we,Se,F,G⟩ Ds) ⟨0,[],[]⟩ (chS 3 mX mY g n all x0 ys) env w:=zfN (o:=0) (p:=2) rfl rfl rfl rfl rfl rfl rfl hR;refine Cz (id:=2) (c:=.loop kC) ?_;obtain⟨body,hb⟩:∃body:((X×List Int)->Option (X⊕Y))->(X×List Int)->Option (X⊕Y),body=fun L q=>vh fu n all g q.1 q.2 (fun x xs _ _ _ _ _=>L (x,xs)) (fun x _ _ _=>some (.inl x)) fun y _=>some (.inr y):=⟨_,rfl⟩;refine HR (G:=Nat×(X×List Int)) (fun q Ds env w=>zm body q.1 q.2=some r/\Zc Tryz.prog (Fr.wd ⟨we,Se,F,G⟩ Ds) ⟨0,[],[]⟩ (chS 3 mX mY g n all q.2.1 q.2.2) env w) (fun q=>q.1) (fu,(x0,ys)) ⟨by rw[hb];rw[hd]at e4;exact e4,hm⟩ ?_;rintro⟨k,x,xs⟩ Ds env w ⟨hl,hR⟩
 cases k with
 |zero=>exact(PX hl).elim
 |succ k=>
  have hl:=OI hl
  obtain⟨K,k1,k2⟩:=zbM (ι:=(X×List Int×Int×Int×Int×Int×Int)⊕((X×Int×Int×List Int)⊕(Y×List Int)))
   (fun q=>match q with
    |.inl (x,xs,a,b,c,d,e)=>(Tg.n,Sn mX mY g n all x xs a b c d e)
    |.inr (.inl (x,a,b,xs))=>(Tg.r,Sr mX mY g n all x a b xs)
    |.inr (.inr (y,xs))=>(Tg.r,Sy mY n all y xs))
   (fun q=>match q with
    |.inl (x,xs,_,_,_,_,_)=>zm body k (x,xs)
    |.inr (.inl (x,_,_,_))=>some (.inl x)
    |.inr (.inr (y,_))=>some (.inr y)) (fun i j h=>by
   rcases i with⟨x,xs,a,b,c,d,e⟩|⟨x,a,b,xs⟩|⟨y,xs⟩<;>rcases j with⟨x',xs',a',b',c',d',e'⟩|⟨x',a',b',xs'⟩|⟨y',xs'⟩
   ·have h2:=congrArg (fun q:Tg×Sg=>q.2.ob) h
    simp only[Sn,xez,xcx,true_and,and_true]at h2
    obtain⟨h3,h4⟩:=h2
    cases h3;cases h4;rfl
   ·cases congrArg Prod.fst h
   ·cases congrArg Prod.fst h
   ·cases congrArg Prod.fst h
   ·have h2:=congrArg (fun q:Tg×Sg=>q.2.ob) h
    simp only[Sr,xez,xcx,true_and,and_true]at h2
    obtain⟨h3,h4⟩:=h2
    cases h3;rfl
   ·exact absurd (congrArg (fun q:Tg×Sg=>q.2.nx) h)<|by simp[Sr,Sy]
   ·cases congrArg Prod.fst h
   ·exact absurd (congrArg (fun q:Tg×Sg=>q.2.nx) h)<|by simp[Sr,Sy]
   ·have h2:=congrArg (fun q:Tg×Sg=>q.2.ob) h
    simp only[Sy,xez,xcx,true_and,and_true]at h2
    obtain⟨h3,h4⟩:=h2
    cases h3;rfl)
  have q1:∀x xs a b c d e,K .n (Sn mX mY g n all x xs a b c d e)=zm body k (x,xs):=fun x xs a b c d e=>k1 (.inl (x,xs,a,b,c,d,e));have q2:∀x a b xs,K .r (Sr mX mY g n all x a b xs)=some (.inl x):=fun x a b xs=>k1 (.inr (.inl (x,a,b,xs)));have q3:∀y xs,K .r (Sy mY n all y xs)=some (.inr y):=fun y xs=>k1 (.inr (.inr (y,xs)));refine hD kC (by kernel_rfl) (N:=Nd.of 66) (K:=K) rfl (.inl rfl) (r:=r) ((zk0 fu x xs K).trans<|by simp only[q1,q2,q3];rw[hb]at hl⊢;exact hl) (fun t σ' hk Ds env w _ hR=> ?_) hR;obtain⟨i,e5,e6⟩:=k2 _ _ _ hk
  have fin:∀(t:Tg) (env:yR) (w:World),(∃u',St we Se (xfu (fun x=>mX x u') (fun y=>mY y u') r::F) G<|qw Ds w)->pW Ds w->∀a:Act,yz a=env->
   ∃v,(results f280 a.tmps).run Tryz.prog (qw Ds w)=.ok v (qw Ds w)/\(∃v',xeA v=.returned v')/\∃u',St we Se (xfu (fun x=>mX x u') (fun y=>mY y u') r::F) G (qw Ds w):=fun t env w h1 h2 a ha=>⟨_,Y7 (rs:=[]) (vs:=[]) rfl trivial,⟨_,rfl⟩,h1⟩
  rcases i with⟨x',xs',a,b,c,d,e⟩|⟨x',a,b,xs'⟩|⟨y',xs'⟩
  ·cases e5;exact⟨(k,(x',xs')),⟨e6,zfN (o:=2) (p:=4) rfl rfl rfl rfl rfl rfl rfl hR⟩,xca k⟩
  ·cases e5;cases e6;obtain⟨hc,hR⟩:=Vs hR;exact⟨.inr rfl,hc,fin .r _ _ (zgy (o:=2) rfl hR) hc⟩
  ·cases e5;cases e6;obtain⟨hc,hR⟩:=Vs hR;exact⟨.inr rfl,hc,fin .r _ _ (zhO (o:=2) rfl hR) hc⟩
end
theorem iJ:zde Tryz.prog (Yv fu):=by
 refine⟨by kernel_rfl,?_⟩;rintro⟨n,all,_⟩ X Y mX mY g x0 r hM l vs ha hY u we Se F G w hb
 match vs,ha with
 |[v1,v2],_=>exact zfq fu g x0 r l v1 v2 u we Se F G w hY hb hM
def ZO:La:=⟨198,[.i,.i],280,fun x=>[⟨.i,x.2.1⟩,⟨.i,x.1⟩]⟩
theorem rf:MB Tryz.prog ZO:=zgZ (s:=ZO) (cf:=⟨tt,[],wX,0,ex,[],[],[]⟩) M4 Mm NV cN (.of LX rfl) func198 (by kernel_rfl) fun x=>by kernel_rfl
theorem ZH:yq ⟨338,[.d yS,.d .i],[.d .i],fun x=>Z1 fu x.1 x.2.1,0⟩:=sq fu ⟨[],[],[(2,⟨⟨[(8,.d .i)],[]⟩,⟨[],[(.x 0,⟨[],[]⟩),(.r,⟨[(4,.d .i)],[]⟩)]⟩⟩)],[],[],[]⟩ func338<|cN
theorem VJ:yq ⟨338,[.own .i 3,.d .i],[.d .i,.own .i 3],fun x=>vK fu x.1 x.2.1,1⟩:=SL (fu:=fu) ⟨[],[],[(2,⟨⟨[(8,.d .i)],[]⟩,⟨[0],[(.x 0,⟨[],[]⟩),(.r,⟨[(4,.d .i)],[]⟩)]⟩⟩)],[],[],[]⟩ func338 (cN) (by kernel_rfl) fun pn x=>by kernel_rfl
theorem VL:yq ⟨283,[.d yS,.d .i],[.d .b],fun x=>k9 fu x.1 x.2.1,0⟩:=sq fu wX func283<|cC (ZH fu)<|cN
theorem XN:yq ⟨283,[.own .i 3,.d .i],[.d .b,.own .i 3],fun x=>xI fu x.1 x.2.1,1⟩:=SL (fu:=fu) wX func283 (cC (VJ fu)<|cC (ZH fu)<|cN) (by kernel_rfl) fun pn x=>by kernel_rfl
def vJ:VF:=⟨200,[.d R6,.own .i 3],[.d R6,.own .i 3],fun x=>xo fu x.1 x.2.1,1⟩
theorem VI:yq (vJ fu):=SL (fu:=fu) ⟨[],[(262149,⟨[1,5],[(.n,⟨[(8,.d R6),(9,.d .i),(11,.d .b)],[]⟩)]⟩)],[(3,q1 [(5,.own xb 22),(10,.d .i),(1,.own .i 3)] 0 [(5,.own xb 22),(1,.own .i 3)])],[],[],[]⟩ func200 (cC (XN fu)<|cC (VL fu)<|cN) (by kernel_rfl) fun pn x=>by kernel_rfl
def bN:VF:=⟨126,[.d xb,.d R6,.d zZ],[.own xb 22],fun x=>uq fu x.1 x.2.1 x.2.2.1,0⟩
theorem AX:yq (bN fu):=L5 (s:=bN fu) (cf:=⟨tt,[ue fu,ae fu,vJ fu,J1 fu],⟨[3,4],[],[(3,q1 [(3,.var xb 22),(4,.var R6 55),(7,.bo xb 22 55),(8,.d .i)] 0 [(3,.var xb 22),(4,.var R6 55),(7,.bo xb 22 55)]),(6,q1 [(3,.var xb 22),(4,.var R6 55),(7,.bo xb 22 55)] 1 [])],[(13,[56,57])],[],[7]⟩,fu,ex,[],[ZO],[Yv fu]⟩) M4 Mm NV (cC (aV fu)<|cC (Qo fu)<|cC (VI fu)<|cC (ZD fu)<|cN) ⟨LX,fun s h=>by obtain rfl:=xai.1 h;exact rf,fun _ h=>absurd h IR,fun s h=>by obtain rfl:=xai.1 h;exact iJ fu,rfl⟩ func126 (by kernel_rfl) rfl fun x r h=>(id (by kernel_rfl):Mq ⟨tt,[ue fu,ae fu,vJ fu,J1 fu],⟨[3,4],[],[(3,q1 [(3,.var xb 22),(4,.var R6 55),(7,.bo xb 22 55),(8,.d .i)] 0 [(3,.var xb 22),(4,.var R6 55),(7,.bo xb 22 55)]),(6,q1 [(3,.var xb 22),(4,.var R6 55),(7,.bo xb 22 55)] 1 [])],[(13,[56,57])],[],[7]⟩,fu,ex,[],[ZO],[Yv fu]⟩ f126 [.d xb,.d R6,.d zZ] [.own xb 22] x=uq fu x.1 x.2.1 x.2.2.1).trans h
theorem Dw:yq ⟨24,[.d xb,.d xb],[.d .b],fun x=>kL fu x.1 x.2.1,0⟩:=sq fu ⟨[],[],[(5,⟨⟨[(5,.d .i)],[]⟩,⟨[0,1],[(.x 0,⟨[],[]⟩),(.r,⟨[(4,.d .b)],[]⟩)]⟩⟩)],[],[],[]⟩ func24<|cC (Vf fu)<|cC (yX fu)<|cN
theorem tN:yq ⟨128,[.d xb,.d xb],[.d .i],fun x=>qS fu x.1 x.2.1,0⟩:=sq fu wX func128<|cC (Dw fu)<|cN
theorem GQ:yq ⟨250,[.d zZ,.d .i],[.d zZ,.d .i],fun x=>Qi fu x.1 x.2.1,0⟩:=sq fu ⟨[],[],[(6,⟨⟨[(4,.var zZ 30),(6,.var zZ 30),(9,.var zZ 30)],[]⟩,⟨[],[(.r,⟨[(4,.var zZ 30)],[(5,.ci 0)]⟩)]⟩⟩),(11,⟨⟨[(1,.d .i),(2,.q zZ),(52,.d .i),(11,.var zZ 30)],[]⟩,⟨[4,6,9,10],[(.x 2,⟨[(1,.d .i),(2,.q zZ),(11,.var zZ 30)],[]⟩)]⟩⟩)],[],[],[]⟩ func250<|cC (vV fu)<|cC (B7 fu)<|cC (Vf fu)<|cC (uW fu)<|cC (xv fu)<|cC (v8 fu)<|cC (JE fu)<|cC (lB fu)<|cC (xm fu)<|cN
theorem ef:yq ⟨116,[.d xb],[.d .i],fun x=>ZI fu x.1,0⟩:=sq fu wX func116<|cC (yX fu)<|cN
theorem Wg:yq ⟨182,[.d xb],[.d zZ,.d .i],fun x=>wB fu x.1,0⟩:=sq fu ⟨[],[(524297,⟨[0,2,5],[(.n,⟨[(22,.d .i),(24,.d .b)],[]⟩)]⟩)],[(7,⟨⟨[(23,.d .i),(0,.own zZ 30),(2,.var zZ 30),(5,.var zZ 30)],[(21,.al 0)]⟩,⟨[],[(.x 0,⟨[(0,.own zZ 30),(2,.var zZ 30),(5,.var zZ 30)],[]⟩)]⟩⟩)],[],[],[]⟩ func182<|cC (Xd fu)<|cC (uW fu)<|cC (xv fu)<|cC (ef fu)<|cC (yX fu)<|cC (GQ fu)<|cC (lB fu)<|cC (xm fu)<|cN
theorem A8:yq ⟨122,[.d xb,.d .i],[.d .i],fun x=>YH fu x.1 x.2.1,0⟩:=sq fu ⟨[],[],[(5,⟨⟨[(9,.d .i),(8,.var zZ 30)],[]⟩,⟨[5,7],[(.x 0,⟨[(9,.d .i)],[]⟩)]⟩⟩)],[(2,[])],[],[]⟩ func122<|cC (xv fu)<|cC (xm fu)<|cC (Wg fu)<|cC (Vf fu)<|cN
theorem DW:yq ⟨120,[.d xb],[.d .b],fun x=>WM fu x.1,0⟩:=sq fu ⟨[],[],[],[(2,[])],[],[]⟩ func120<|cC (xv fu)<|cC (xm fu)<|cC (Wg fu)<|cC (JE fu)<|cN
theorem sJ:yq ⟨261,[.d yS,.d yS],[.d .i],fun x=>wG fu x.1 x.2.1,0⟩:=sq fu ⟨[],[],[(4,⟨⟨[(5,.d .i)],[]⟩,⟨[],[(.x 0,⟨[],[]⟩),(.r,⟨[(4,.d .i)],[]⟩)]⟩⟩)],[],[],[]⟩ func261<|cN
def Yo:VF:=⟨376,[.d yS,.q .i],[.d .b],fun x=>qH fu x.1 x.2.1,0⟩
theorem iU:yq (Yo fu):=sq fu wX func376<|cN
def J8:VF:=⟨375,[.d yS,.d .i],[.own .i 3],fun x=>ZK fu x.1 x.2.1,0⟩
theorem Ef:yq (J8 fu):=sq fu ⟨[],[],[(3,q1 [(13,.d .i),(5,.own .i 3)] 0 [(5,.own .i 3)])],[],[],[]⟩ func375<|cC (K1 fu)<|cN
def JK:VF:=⟨351,[.d (.l yS),.d .i],[.d .i],fun x=>ZV fu x.1 x.2.1,0⟩
theorem dV:yq (JK fu):=sq fu ⟨[],[(393223,⟨[],[(.n,⟨[(0,.d (.l yS)),(17,.d (.l yS)),(18,.d .i),(20,.d .b)],[]⟩)]⟩)],[(5,⟨⟨[(19,.d .i)],[]⟩,⟨[],[(.x 0,⟨[],[]⟩),(.r,⟨[],[(4,.ci 1)]⟩)]⟩⟩)],[],[],[]⟩ func351<|cC (qp fu)<|cN
def YS:tH:=⟨377,.i,23,3,fun xss ix r a p lo n=>vd fu xss ix r a p lo n⟩
theorem AH(pn:Value)(xss:List (List Int))(ix:List Nat)(r:Nat)(a p:Int)(lo n:Nat):zhD ⟨tt,[],(⟨[],[],[(1,q1 [(3,.matv .i 23 3),(13,.view 0),(0,.row 0),(15,.d .i)] 0 [(3,.matv .i 23 3)]),(5,q1 [(3,.matv .i 23 3),(13,.view 0),(0,.row 0),(23,.row 0),(9,.row 0),(25,.d .i)] 2 [(3,.matv .i 23 3),(13,.view 0),(0,.row 0)])],[],[],[]⟩:An),fu,ex,[],[],[]⟩ f377 .i 23 3 pn xss ix r a p lo n=vd fu xss ix r a p lo n:=by kernel_rfl
theorem AW:MW Tryz.prog (YS fu):=zgz (s:=YS fu) (cf:=⟨tt,[],(⟨[],[],[(1,q1 [(3,.matv .i 23 3),(13,.view 0),(0,.row 0),(15,.d .i)] 0 [(3,.matv .i 23 3)]),(5,q1 [(3,.matv .i 23 3),(13,.view 0),(0,.row 0),(23,.row 0),(9,.row 0),(25,.d .i)] 2 [(3,.matv .i 23 3),(13,.view 0),(0,.row 0)])],[],[],[]⟩:An),fu,ex,[],[],[]⟩) M4 Mm NV cN (.of LX rfl) func377 (by kernel_rfl) fun pn xss ix r a p lo n z h=>(AH fu pn xss ix r a p lo n).trans h
def vv:VF:=⟨267,[.d (.l yS),.fn [yS] [.b]],[.d .i],fun x=>yC fu x.1<|fun z0=>x.2.1 (z0,()),0⟩
theorem jV:yq (vv fu):=sq fu ⟨[],[],[(2,⟨⟨[(8,.d .i)],[]⟩,⟨[],[(.x 0,⟨[],[]⟩),(.r,⟨[(4,.d .i)],[]⟩)]⟩⟩)],[],[],[]⟩ func267<|cN
def UB:VF:=⟨352,[.d (.l yS),.d .i],[.d (.l yS),.d .i],fun x=>kq fu x.1 x.2.1,0⟩
theorem oV:yq (UB fu):=L5 (s:=UB fu) (cf:=⟨tt,[JK fu,J8 fu,vv fu,sX fu,Yo fu],⟨[],[],[(6,q1 [(7,.mat .i 23 3),(25,.d .i)] 0 [(7,.mat .i 23 3)]),(12,q1 [(7,.mat .i 23 3),(10,.d .i),(11,.var .i 3)] 2 [(7,.mat .i 23 3),(10,.d .i)]),(19,q1 [(7,.mat .i 23 3),(90,.row 0),(92,.d .i)] 4 [(7,.mat .i 23 3)])],[(16,[]),(23,[]),(24,[])],[52,117,128],[33]⟩,fu,ex,[YS fu],[],[]⟩) M4 Mm NV (cC (dV fu)<|cC (Ef fu)<|cC (jV fu)<|cC (pf fu)<|cC (iU fu)<|cN) ⟨LX,fun _ h=>absurd h IR,fun s h=>by obtain rfl:=xai.1 h;exact AW fu,fun _ h=>absurd h IR,rfl⟩ func352 (by kernel_rfl) rfl fun x r h=>(id (by kernel_rfl):Mq ⟨tt,[JK fu,J8 fu,vv fu,sX fu,Yo fu],⟨[],[],[(6,q1 [(7,.mat .i 23 3),(25,.d .i)] 0 [(7,.mat .i 23 3)]),(12,q1 [(7,.mat .i 23 3),(10,.d .i),(11,.var .i 3)] 2 [(7,.mat .i 23 3),(10,.d .i)]),(19,q1 [(7,.mat .i 23 3),(90,.row 0),(92,.d .i)] 4 [(7,.mat .i 23 3)])],[(16,[]),(23,[]),(24,[])],[52,117,128],[33]⟩,fu,ex,[YS fu],[],[]⟩ f352 [.d (.l yS),.d .i] [.d (.l yS),.d .i] x=kq fu x.1 x.2.1).trans h
theorem AG:yq ⟨379,[.d .i],[.d .b],fun x=>ux fu x.1,0⟩:=sq fu wX func379<|cN
theorem XG:yq ⟨378,[.d yS,.fn [.i] [.b]],[.d .i],fun x=>y7 fu x.1<|fun z0=>x.2.1 (z0,()),0⟩:=sq fu ⟨[],[],[(2,⟨⟨[(8,.d .i)],[]⟩,⟨[],[(.x 0,⟨[],[]⟩),(.r,⟨[(4,.d .i)],[]⟩)]⟩⟩)],[],[],[]⟩ func378<|cN
theorem lZ:yq ⟨355,[.d yS],[.d .i],fun x=>Xa fu x.1,0⟩:=sq fu wX func355<|cC (XG fu)<|cC (AG fu)<|cN
theorem AB:yq ⟨354,[.d yS,.q .i],[.d .b],fun x=>w9 fu x.1 x.2.1,0⟩:=sq fu wX func354<|cC (lZ fu)<|cN
theorem Xw:yq ⟨353,[.d (.l yS),.fn [yS] [.b]],[.d .b],fun x=>xy fu x.1<|fun z0=>x.2.1 (z0,()),0⟩:=sq fu wX func353<|cC (jV fu)<|cN
theorem Hb:yq ⟨322,[.d (.l yS),.d .i,.d .i],[.own yS 23,.d .i],fun x=>Xb fu x.1 x.2.1 x.2.2.1,0⟩:=sq fu ⟨[],[(131076,⟨[],[(.n,⟨[],[]⟩),(.r,⟨[],[(6,.nil),(7,.ci 1)]⟩)]⟩),(458760,⟨[10],[(.n,⟨[(1,.d .i),(2,.d .i),(8,.d (.l yS)),(46,.d .i),(48,.d .b)],[]⟩)]⟩),(851982,⟨[10,12],[(.n,⟨[(1,.d .i),(2,.d .i),(8,.d (.l yS)),(11,.q .i),(46,.d .i),(47,.d .i),(58,.d (.l yS)),(59,.d .i),(61,.d .b)],[]⟩)]⟩)],[(6,q1 [(10,.own yS 23),(47,.d .i)] 0 [(10,.own yS 23)]),(12,q1 [(60,.d .i),(10,.own yS 23),(12,.own .i 3)] 2 [(10,.own yS 23),(12,.own .i 3)])],[],[],[]⟩ func322<|cC (oV fu)<|cC (Xw fu)<|cC (AB fu)<|cC (lZ fu)<|cC (K1 fu)<|cC (dV fu)<|cN
theorem Ub:yq ⟨194,[.d yS,.d yS,.d .i],[.own .i 3,.own .i 3,.d .i],fun x=>qZ fu x.1 x.2.1 x.2.2.1,0⟩:=sq fu wX func194<|cC (qp fu)<|cC (xE fu)<|cC (XJ fu)<|cN
theorem Uc:yq ⟨321,[.d yS,.d zZ,.d yS,.d .i],[.own .i 3,.d .i],fun x=>j7 fu x.1 x.2.1 x.2.2.1 x.2.2.2.1,0⟩:=sq fu ⟨[],[],[(9,⟨⟨[(11,.own .i 3),(13,.d yS),(14,.d .i)],[]⟩,⟨[10,12],[(.x 0,⟨[(11,.own .i 3)],[]⟩)]⟩⟩)],[],[],[]⟩ func321<|cC (vV fu)<|cC (uB fu)<|cC (qp fu)<|cC (xE fu)<|cC (XJ fu)<|cC (JE fu)<|cN
theorem FB:yq ⟨259,[.d yS,.d .i],[.own yS 23],fun x=>ZS fu x.1 x.2.1,0⟩:=sq fu ⟨[],[],[(4,q1 [(6,.mat .i 23 3),(23,.d .i)] 0 [(6,.mat .i 23 3)]),(11,q1 [(6,.mat .i 23 3),(10,.d yS),(8,.d yS),(43,.d .i)] 2 [(6,.mat .i 23 3)]),(14,q1 [(6,.mat .i 23 3),(48,.d .i)] 4 [(6,.mat .i 23 3)])],[],[],[20]⟩ func259<|cC (xm fu)<|cC (Uc fu)<|cC (VN fu)<|cC (Ub fu)<|cC (Hb fu)<|cN
theorem RJ:yq ⟨320,[.d yS,.d yS,.d .i],[.own .i 3],fun x=>aK fu x.1 x.2.1 x.2.2.1,0⟩:=sq fu wX func320<|cC (Ub fu)<|cN
theorem M8:yq ⟨318,[.d yS,.d yS,.d .i],[.d yS],fun x=>Jx fu x.1 x.2.1 x.2.2.1,0⟩:=sq fu wX func318<|cC (KM fu)<|cN
theorem mZ:yq ⟨316,[.d .i,.q yS,.q .i],[.d .i],fun x=>uz fu x.1 x.2.1 x.2.2.1,0⟩:=sq fu wX func316<|cC (K1 fu)<|cN
theorem Ia:yq ⟨350,[.d yS,.d yS,.d .i],[.own .i 3,.d .i],fun x=>VY fu x.1 x.2.1 x.2.2.1,0⟩:=sq fu wX func350<|cC (U3 fu)<|cC (qp fu)<|cC (xE fu)<|cN
theorem Du:yq ⟨319,[.d yS,.d .i,.d yS,.d .i],[.own .i 3],fun x=>WE fu x.1 x.2.1 x.2.2.1 x.2.2.2.1,0⟩:=sq fu wX func319<|cC (Uc fu)<|cC (lX fu)<|cC (xm fu)<|cC (Ia fu)<|cN
theorem AY:yq ⟨258,[.d yS,.d (.l yS),.d .i,.d yS],[.own yS 23],fun x=>YI fu x.1 x.2.1 x.2.2.1 x.2.2.2.1,0⟩:=sq fu ⟨[],[(524297,⟨[10],[(.n,⟨[(11,.d .i),(28,.d (.l yS)),(29,.d .i),(31,.d .b)],[]⟩)]⟩),(983056,⟨[10],[(.n,⟨[(1,.d (.l yS)),(6,.q .i),(7,.q yS),(11,.d .i),(13,.d yS),(28,.d (.l yS)),(29,.d .i),(30,.d .i),(73,.d .b)],[]⟩)]⟩)],[(4,q1 [(10,.own yS 23),(11,.d .i)] 0 [(10,.own yS 23)]),(7,⟨⟨[(1,.d (.l yS)),(6,.q .i),(7,.q yS),(10,.own yS 23),(30,.d .i)],[]⟩,⟨[],[(.x 0,⟨[(10,.own yS 23)],[]⟩),(.x 2,⟨[(1,.d (.l yS)),(6,.q .i),(7,.q yS),(10,.own yS 23)],[]⟩)]⟩⟩),(10,⟨⟨[(10,.own yS 23),(14,.d .i)],[]⟩,⟨[],[(.x 0,⟨[(10,.own yS 23)],[]⟩),(.x 4,⟨[(10,.own yS 23)],[]⟩)]⟩⟩)],[],[],[]⟩ func258<|cC (RJ fu)<|cC (mZ fu)<|cC (M8 fu)<|cC (Du fu)<|cN
theorem bO:yq ⟨349,[.d yS,.d .i],[.own .i 3,.d .i],fun x=>qk fu x.1 x.2.1,0⟩:=sq fu wX func349<|cC (qp fu)<|cC (xE fu)<|cC (KG fu)<|cN
theorem Eh:yq ⟨315,[.d yS,.d .i],[.own .i 3,.d .i],fun x=>JV fu x.1 x.2.1,0⟩:=sq fu wX func315<|cC (bO fu)<|cN
theorem Bj:yq ⟨312,[.d yS,.d .i],[.own .i 3,.d .i],fun x=>YJ fu x.1 x.2.1,0⟩:=sq fu ⟨[],[(458760,⟨[7,17],[(.n,⟨[(1,.d .i),(18,.d .i),(20,.d .b)],[]⟩)]⟩)],[(6,q1 [(7,.own .i 3),(19,.d .i),(17,.own .i 3)] 0 [(7,.own .i 3)])],[],[],[]⟩ func312<|cC (qp fu)<|cC (xE fu)<|cN
theorem Ew:yq ⟨311,[.d yS,.d .i],[.own .i 3,.d .i],fun x=>Wz fu x.1 x.2.1,0⟩:=sq fu wX func311<|cC (bO fu)<|cN
theorem BF:yq ⟨253,[.d yS,.d .i],[.d .b,.d .i],fun x=>Zi fu x.1 x.2.1,0⟩:=sq fu wX func253<|cC (Bj fu)<|cC (KM fu)<|cC (Ew fu)<|cN
theorem Bl:yq ⟨257,[.d yS,.d .i],[.d yS,.d .i],fun x=>jz fu x.1 x.2.1,0⟩:=sq fu wX func257<|cC (Eh fu)<|cC (BF fu)<|cN
theorem Ky:yq ⟨202,[.d .u],[.d .i],fun x=>ju fu x.1,0⟩:=sq fu wX func202<|cC (Zz fu)<|cN
theorem ud:yq ⟨356,[.own yS 23,.d .i,.d .i,.fn [yS,yS] [.i]],[.own yS 23],fun x=>xr fu x.1 x.2.1 x.2.2.1<|fun z0 z1=>x.2.2.2.1 (z0,z1,()),1⟩:=SL (fu:=fu) ⟨[],[],[(1,q1 [(8,.d .i),(0,.own yS 23)] 0 [(0,.own yS 23)]),(4,q1 [(1,.d .i),(2,.d .i),(9,.d .i),(0,.own yS 23)] 2 [(1,.d .i),(2,.d .i),(0,.own yS 23)])],[(6,[])],[],[]⟩ func356 (cN) (by kernel_rfl) fun pn x=>by kernel_rfl
def Yk:VF:=⟨323,[.own yS 23,.d .i,.d .i,.d .i,.fn [yS,yS] [.i]],[.own yS 23],fun x=>qE fu x.1 x.2.1 x.2.2.1 x.2.2.2.1<|fun z0 z1=>x.2.2.2.2.1 (z0,z1,()),1⟩
theorem qT:∀fu:Nat,yq (Yk fu)
 |0=>sg0 (by kernel_rfl) fun _=>rfl
 |fu+1=>SL (fu:=fu) ⟨[],[],[(2,⟨⟨[(1,.d .i),(2,.d .i),(3,.d .i),(0,.own yS 23)],[(10,.kb true),(11,.kb true)]⟩,⟨[],[(.r,⟨[(0,.own yS 23)],[]⟩)]⟩⟩)],[],[],[]⟩ func323 (cC (qT fu)<|cC (ud fu)<|cN) (by kernel_rfl) fun pn x=>by kernel_rfl
theorem XT:yq ⟨260,[.own yS 23,.fn [yS,yS] [.i]],[.own yS 23],fun x=>xF fu x.1<|fun z0 z1=>x.2.1 (z0,z1,()),1⟩:=SL (fu:=fu) wX func260 (cC (Ky fu)<|cC (qT fu)<|cN) (by kernel_rfl) fun pn x=>by kernel_rfl
theorem C4:yq ⟨187,[.d yS,.d .i,.d yS],[.own yS 23,.d .i],fun x=>Zw fu x.1 x.2.1 x.2.2.1,0⟩:=sq fu wX func187<|cC (Bl fu)<|cC (AY fu)<|cC (FB fu)<|cC (XT fu)<|cC (sJ fu)<|cN
theorem Dh:yq ⟨184,[.d .i],[.d .i,.d .i],fun x=>xT fu x.1,0⟩:=sq fu ⟨[],[],[(4,q1 [(0,.d .i)] 0 [(0,.d .i)])],[],[],[]⟩ func184<|cC (Vv fu)<|cN
theorem DG:yq ⟨185,[.d xb,.d .i],[.d .b,.d .i],fun x=>Wi fu x.1 x.2.1,0⟩:=sq fu wX func185<|cC (yX fu)<|cC (Wg fu)<|cC (Xq fu)<|cC (Vv fu)<|cC (BF fu)<|cN
theorem Eo:yq ⟨121,[.d xb,.d yS],[.d .i,.own yS 23],fun x=>Wm fu x.1 x.2.1,0⟩:=sq fu ⟨[],[],[(4,q1 [(6,.d .i),(7,.d .i),(8,.own yS 23),(9,.d .i),(10,.d .i)] 0 [(6,.d .i),(8,.own yS 23)])],[],[],[]⟩ func121<|cC (Dh fu)<|cC (DG fu)<|cC (Xq fu)<|cC (C4 fu)<|cN
theorem oT:yq ⟨263,[.d .i],[.d zZ],fun x=>aj fu x.1,0⟩:=sq fu ⟨[],[(262149,⟨[2,3],[(.n,⟨[(0,.d .i),(6,.d .i),(8,.d .b)],[]⟩)]⟩)],[(3,q1 [(7,.d .i),(2,.var zZ 30),(3,.var zZ 30)] 0 [(2,.var zZ 30),(3,.var zZ 30)])],[(5,[])],[],[]⟩ func263<|cC (Wk fu)<|cC (xm fu)<|cC (xv fu)<|cN
theorem AI:yq ⟨262,[.d zZ,.d .i],[.d zZ],fun x=>ug fu x.1 x.2.1,0⟩:=sq fu ⟨[2],[],[(2,⟨⟨[(1,.d .i),(2,.var zZ 30),(5,.var zZ 30)],[]⟩,⟨[4],[(.x 0,⟨[(5,.var zZ 30)],[]⟩)]⟩⟩)],[],[],[]⟩ func262<|cC (xm fu)<|cC (xv fu)<|cN
theorem AK:yq ⟨364,[.d xb,.d xb],[.d zZ],fun x=>bu fu x.1 x.2.1,0⟩:=sq fu ⟨[],[(262149,⟨[4,5],[(.n,⟨[(1,.d xb),(9,.d xb),(10,.d .i),(12,.d .b)],[]⟩)]⟩)],[(3,q1 [(11,.d .i),(4,.var zZ 30),(5,.var zZ 30)] 0 [(4,.var zZ 30),(5,.var zZ 30)])],[],[],[]⟩ func364<|cC (xm fu)<|cC (uW fu)<|cC (xv fu)<|cN
theorem AD:yq ⟨324,[.d xb,.d xb],[.d zZ,.d .i],fun x=>bC fu x.1 x.2.1,0⟩:=sq fu wX func324<|cC (AK fu)<|cN
theorem o6:yq ⟨264,[.d xb],[.d zZ],fun x=>UE fu x.1,0⟩:=sq fu wX func264<|cC (AD fu)<|cN
theorem DU:yq ⟨190,[.d xb,.d .i,.d .i],[.d .i,.d .i],fun x=>dI fu x.1 x.2.1 x.2.2.1,0⟩:=sq fu ⟨[],[],[(13,⟨⟨[(16,.d .i),(15,.var zZ 30)],[]⟩,⟨[8,13,14],[(.x 0,⟨[],[]⟩),(.r,⟨[(6,.d .i)],[(7,.ci 0)]⟩)]⟩⟩)],[],[],[]⟩ func190<|cC (AI fu)<|cC (oT fu)<|cC (o6 fu)<|cC (Vf fu)<|cC (xm fu)<|cC (xv fu)<|cC (Wg fu)<|cC (ZD fu)<|cC (Vv fu)<|cN
theorem nB:yq ⟨193,[.d yS,.q yS,.q .i],[.d .b],fun x=>mC fu x.1 x.2.1 x.2.2.1,0⟩:=sq fu wX func193<|cC (Ub fu)<|cN
theorem AL:yq ⟨124,[.d xb,.d (.l yS),.d .i],[.own xb 22,.d xb,.d (.l yS)],fun x=>Y2 fu x.1 x.2.1 x.2.2.1,0⟩:=sq fu ⟨[],[],[(2,⟨⟨[(0,.d xb),(1,.d (.l yS))],[(9,.nil)]⟩,⟨[],[(.x 0,⟨[(0,.d xb),(1,.d (.l yS))],[(9,.nil)]⟩)]⟩⟩)],[],[],[]⟩ func124<|cC (Qo fu)<|cC (nB fu)<|cC (Xq fu)<|cC (bU fu)<|cC (DU fu)<|cN
theorem jF:yq ⟨284,[.own xb 22,.d .i,.d .i,.fn [xb,xb] [.i]],[.own xb 22],fun x=>xd fu x.1 x.2.1 x.2.2.1<|fun z0 z1=>x.2.2.2.1 (z0,z1,()),1⟩:=SL (fu:=fu) ⟨[],[],[(1,q1 [(8,.d .i),(0,.own xb 22)] 0 [(0,.own xb 22)]),(4,q1 [(1,.d .i),(2,.d .i),(9,.d .i),(0,.own xb 22)] 2 [(1,.d .i),(2,.d .i),(0,.own xb 22)])],[(6,[])],[],[]⟩ func284 (cN) (by kernel_rfl) fun pn x=>by kernel_rfl
def uZ:VF:=⟨201,[.own xb 22,.d .i,.d .i,.d .i,.fn [xb,xb] [.i]],[.own xb 22],fun x=>vE fu x.1 x.2.1 x.2.2.1 x.2.2.2.1<|fun z0 z1=>x.2.2.2.2.1 (z0,z1,()),1⟩
theorem vr:∀fu:Nat,yq (uZ fu)
 |0=>sg0 (by kernel_rfl) fun _=>rfl
 |fu+1=>SL (fu:=fu) ⟨[],[],[(2,⟨⟨[(1,.d .i),(2,.d .i),(3,.d .i),(0,.own xb 22)],[(10,.kb true),(11,.kb true)]⟩,⟨[],[(.r,⟨[(0,.own xb 22)],[]⟩)]⟩⟩)],[],[],[]⟩ func201 (cC (vr fu)<|cC (jF fu)<|cN) (by kernel_rfl) fun pn x=>by kernel_rfl
theorem uc:yq ⟨127,[.own xb 22,.fn [xb,xb] [.i]],[.own xb 22],fun x=>yv fu x.1<|fun z0 z1=>x.2.1 (z0,z1,()),1⟩:=SL (fu:=fu) wX func127 (cC (vr fu)<|cC (Ky fu)<|cN) (by kernel_rfl) fun pn x=>by kernel_rfl
theorem EC:yq ⟨60,[.d xb,.d yS],[.own xb 22,.d .b],fun x=>WI fu x.1 x.2.1,0⟩:=sq fu wX func60<|cC (tN fu)<|cC (DW fu)<|cC (Eo fu)<|cC (A8 fu)<|cC (Vo fu)<|cC (AL fu)<|cC (bU fu)<|cC (AX fu)<|cC (uc fu)<|cN
theorem Ej:yq ⟨161,[.d zZ,.d .i],[.d zZ],fun x=>WQ fu x.1 x.2.1,0⟩:=sq fu ⟨[],[],[(3,⟨⟨[(8,.d .i),(5,.var zZ 30)],[]⟩,⟨[4],[(.x 0,⟨[(5,.var zZ 30)],[]⟩)]⟩⟩)],[],[],[]⟩ func161<|cC (xm fu)<|cC (xv fu)<|cN
theorem AO:yq ⟨179,[.d xb,.d xb],[.own zZ 30,.own zZ 30,.d .i],fun x=>YU fu x.1 x.2.1,0⟩:=sq fu ⟨[],[],[(9,⟨⟨[(1,.d xb),(9,.own zZ 30),(11,.d .i),(10,.own zZ 30)],[]⟩,⟨[8],[(.x 0,⟨[(9,.own zZ 30),(10,.own zZ 30)],[]⟩)]⟩⟩)],[(12,[]),(13,[1])],[],[]⟩ func179<|cC (Ej fu)<|cC (Wk fu)<|cC (YP fu)<|cC (yX fu)<|cC (lY fu)<|cN
theorem NL:yq ⟨118,[.d xb,.d xb],[.own zZ 30],fun x=>JI fu x.1 x.2.1,0⟩:=sq fu ⟨[],[],[(3,⟨⟨[(6,.d xb),(7,.own zZ 30)],[]⟩,⟨[5],[(.x 0,⟨[(6,.d xb)],[]⟩)]⟩⟩)],[],[],[]⟩ func118<|cC (pZ fu)<|cC (AO fu)<|cC (YP fu)<|cC (ZD fu)<|cC (XM fu)<|cN
theorem ni:yq ⟨181,[.d .i,.d zZ],[.d zZ],fun x=>Xz fu x.1 x.2.1,0⟩:=sq fu wX func181<|cC (xm fu)<|cC (xv fu)<|cN
theorem Be:yq ⟨119,[.d xb],[.own zZ 30],fun x=>YQ fu x.1,0⟩:=sq fu wX func119<|cC (yX fu)<|cC (ni fu)<|cC (y8 fu)<|cN
theorem R0:yq ⟨117,[.d xb,.d xb],[.own zZ 30],fun x=>iA fu x.1 x.2.1,0⟩:=sq fu wX func117<|cC (Qo fu)<|cN
theorem tP:yq ⟨59,[.d xb],[.own zZ 30,.d .i],fun x=>wI fu x.1,0⟩:=sq fu wX func59<|cC (ef fu)<|cC (R0 fu)<|cC (NL fu)<|cC (Be fu)<|cC (ZD fu)<|cN
theorem Vc:yq ⟨15,[.d xb,.d yS],[.d zZ,.own (.p xb .i) 42,.d .i],fun x=>yg fu x.1 x.2.1,0⟩:=sq fu ⟨[],[(655371,⟨[4,11,32],[(.n,⟨[(0,.d xb),(33,.d .i),(35,.d .b)],[]⟩)]⟩)],[(9,q1 [(11,.own (.p xb .i) 42),(34,.d .i),(4,.var zZ 30),(32,.own xb 22)] 0 [(11,.own (.p xb .i) 42),(4,.var zZ 30)])],[],[],[]⟩ func15<|cC (tP fu)<|cC (EC fu)<|cC (EN fu)<|cC (XM fu)<|cN
theorem cV:yq ⟨16,[.d xb],[.d .b,.d .i],fun x=>uX fu x.1,0⟩:=sq fu wX func16<|cC (Vc fu)<|cN
theorem Y4:yq ⟨228,[.own .ch 5],[.own .ch 5],fun x=>jb fu x.1,1⟩:=SL (fu:=fu) ⟨[],[],[(1,q1 [(2,.d .i),(3,.d .i),(0,.own .ch 5)] 0 [(0,.own .ch 5)])],[(3,[])],[],[]⟩ func228 (cN) (by kernel_rfl) fun pn x=>by kernel_rfl
theorem Ee:yq ⟨165,[.d .u,.d .b],[.d .tx],fun x=>JY fu x.1 x.2.1,0⟩:=sq fu ⟨[],[],[(2,q1 [(0,.d .u),(5,.own .ch 5)] 0 [(5,.own .ch 5)])],[],[],[]⟩ func165<|cC (Y4 fu)<|cN
theorem Zn:yq ⟨166,[.own .tx 9],[.own .tx 9],fun x=>vG fu x.1,1⟩:=SL (fu:=fu) ⟨[],[],[(1,q1 [(2,.d .i),(3,.d .i),(0,.own .tx 9)] 0 [(0,.own .tx 9)])],[(3,[])],[],[]⟩ func166 (cN) (by kernel_rfl) fun pn x=>by kernel_rfl
theorem rn:yq ⟨167,[.d (.l .tx),.d .tx],[.d .tx],fun x=>U9 fu x.1 x.2.1,0⟩:=zaV (by kernel_rfl) Tryz.strings_Join_none Tryz.strings_Join
theorem MX:yq ⟨106,[.d j9],[.d .tx],fun x=>cH fu x.1,0⟩:=sq fu ⟨[],[],[(3,q1 [(0,.d j9),(3,.own .tx 9)] 0 [(3,.own .tx 9)])],[],[],[]⟩ func106<|cC (mg fu)<|cC (Ee fu)<|cC (Zn fu)<|cC (rn fu)<|cC (yO fu)<|cC (xY fu)<|cN
theorem FP:yq ⟨49,[.d zZ],[.d .tx],fun x=>mb fu x.1,0⟩:=sq fu wX func49<|cC (MX fu)<|cC (vV fu)<|cN
theorem AZ:yq ⟨12,[],[.d .b],fun x=>YY fu,0⟩:=sq fu wX func12<|cC (Vc fu)<|cC (cV fu)<|cC (FP fu)<|cC (Mw fu)<|cC (dT fu)<|cC (o5 fu)<|cN
theorem Bc:yq ⟨13,[.d .i,.d .i,.d xb],[.d .b],fun x=>ve fu x.1 x.2.1 x.2.2.1,0⟩:=sq fu ⟨[],[],[(4,⟨⟨[(7,.d .i)],[]⟩,⟨[],[(.x 0,⟨[],[]⟩),(.r,⟨[],[(6,.kb false)]⟩)]⟩⟩)],[],[],[]⟩ func13<|cN
theorem b9:yq ⟨232,[.d j9,.d .i],[.d .u],fun x=>vB fu x.1 x.2.1,0⟩:=sq fu wX func232<|cN
theorem lP:yq ⟨236,[.d j9],[.d j9],fun x=>Xx fu x.1,0⟩:=sq fu ⟨[],[],[(2,q1 [(3,.d .i)] 0 [(3,.d .i)])],[],[],[]⟩ func236<|cN
theorem Uq:yq ⟨172,[.d j9],[.d j9],fun x=>vz fu x.1,0⟩:=sq fu ⟨[],[],[(3,q1 [(3,.own .u 54),(4,.d .i)] 0 [(3,.own .u 54)])],[],[],[]⟩ func172<|cC (lP fu)<|cN
theorem bn:yq ⟨173,[.d j9],[.own .u 54],fun x=>uh fu x.1,0⟩:=sq fu ⟨[],[],[(3,q1 [(3,.own .u 54),(4,.d .i)] 0 [(3,.own .u 54)])],[],[],[]⟩ func173<|cC (eJ fu)<|cN
theorem Ly:yq ⟨168,[.d j9,.d j9],[.own .u 54],fun x=>Ql fu x.1 x.2.1,0⟩:=sq fu ⟨[],[],[(6,q1 [(7,.own .u 54),(8,.d .u),(9,.d .i)] 0 [(7,.own .u 54)])],[],[],[]⟩ func168<|cC (b9 fu)<|cC (Uq fu)<|cC (bn fu)<|cN
theorem nT:yq ⟨233,[.d j9,.d j9],[.d .i],fun x=>uI fu x.1 x.2.1,0⟩:=sq fu ⟨[],[],[(2,⟨⟨[(5,.d .i)],[]⟩,⟨[],[(.x 0,⟨[],[]⟩),(.r,⟨[(4,.d .i)],[]⟩)]⟩⟩)],[],[],[]⟩ func233<|cC (b9 fu)<|cN
theorem E9:yq ⟨234,[.d j9,.d j9],[.d j9],fun x=>WH fu x.1 x.2.1,0⟩:=sq fu ⟨[],[],[(4,q1 [(5,.own .u 54),(6,.d .u),(7,.d .i)] 0 [(5,.own .u 54)])],[],[],[]⟩ func234<|cC (b9 fu)<|cC (lP fu)<|cN
theorem IQ:yq ⟨169,[.d j9,.d j9],[.own .u 54,.d .i],fun x=>Y3 fu x.1 x.2.1,0⟩:=sq fu wX func169<|cC (nT fu)<|cC (E9 fu)<|cC (Uq fu)<|cC (bn fu)<|cN
theorem Gh:yq ⟨107,[.d zZ,.d zZ],[.d zZ],fun x=>Qk fu x.1 x.2.1,0⟩:=sq fu wX func107<|cC (Ly fu)<|cC (IQ fu)<|cC (ZW fu)<|cN
theorem HD:yq ⟨66,[.d zZ],[.d zZ],fun x=>VO fu x.1,0⟩:=sq fu wX func66<|cC (ZW fu)<|cN
theorem H0:yq ⟨171,[.d zZ,.d zZ],[.d zZ],fun x=>Qa fu x.1 x.2.1,0⟩:=sq fu wX func171<|cC (HD fu)<|cC (Gh fu)<|cN
theorem HC:yq ⟨109,[.d zZ,.d zZ],[.d .i],fun x=>VP fu x.1 x.2.1,0⟩:=sq fu wX func109<|cC (H0 fu)<|cC (dC fu)<|cN
theorem EG:yq ⟨79,[.d xb,.d xb],[.d .b],fun x=>W0 fu x.1 x.2.1,0⟩:=sq fu ⟨[],[],[(6,⟨⟨[(7,.d .i)],[]⟩,⟨[5,6],[(.x 0,⟨[],[]⟩),(.r,⟨[(4,.d .b)],[]⟩)]⟩⟩)],[],[],[]⟩ func79<|cC (fM fu)<|cC (HC fu)<|cN
theorem FX:yq ⟨26,[.d (.l (.p xb .i)),.d xb,.d .i],[.own (.p xb .i) 42],fun x=>Qn fu x.1 x.2.1 x.2.2.1,0⟩:=sq fu ⟨[],[(327686,⟨[],[(.n,⟨[(36,.d .b)],[]⟩)]⟩)],[(2,q1 [(7,.d .i)] 0 [(7,.d .i)])],[(8,[60])],[],[]⟩ func26<|cC (eC fu)<|cC (EG fu)<|cN
theorem lF:yq ⟨5,[.d xb,.d xb],[.d .b],fun x=>kZ fu x.1 x.2.1,0⟩:=sq fu ⟨[],[],[(13,⟨⟨[(15,.own (.p xb .i) 42),(16,.d .i)],[]⟩,⟨[6,9,10,12,13],[(.x 0,⟨[(15,.own (.p xb .i) 42)],[]⟩),(.r,⟨[],[(4,.kb false)]⟩)]⟩⟩)],[],[],[]⟩ func5<|cC (AZ fu)<|cC (Bc fu)<|cC (Vc fu)<|cC (dT fu)<|cC (UD fu)<|cC (FX fu)<|cN
end
end
section
variable{x k:Nat}{r a b l:List Nat}
def nv:List Nat->Nat
 |[]=>0
 |x::r=>x+18446744073709551616*nv r
def wb:Nat->Nat->List Nat
 |0,_=>[]
 |k+1,n=>n%18446744073709551616::wb k (n/18446744073709551616)
def dj:Nat->Nat->List Nat
 |0,_=>[]
 |f+1,n=>if n=0 then[]else n%18446744073709551616::dj f (n/18446744073709551616)
def yF(n:Nat):List Nat:=dj n n
def BW:List Nat->List Nat
 |[]=>[]
 |x::r=>match BW r with
  |[]=>if x=0 then[]else[x]
  |y::s=>x::y::s
theorem zo.nil:zo []:=fun x hx=>absurd hx IR
theorem zo.cons(h:x<18446744073709551616)(hr:zo r):zo (x::r):=fun y hy=>by
 rcases xad.1 hy with rfl|hy
 ·exact h
 ·exact hr y hy
theorem zo.head(h:zo (x::r)):x<18446744073709551616:=h x<|FS
theorem zo.tail(h:zo (x::r)):zo r:=fun y hy=>h y<|UV _ hy
theorem zo.append(ha:zo a)(hb:zo b):zo (a++b):=fun x hx=>by
 rcases Nm.1 hx with h|h
 ·exact ha x h
 ·exact hb x h
theorem zo.take{a:List Nat}(h:zo a)(k:Nat):zo (a.take k):=fun x hx=>h x<|xdU hx
theorem zo.drop{a:List Nat}(h:zo a)(k:Nat):zo (a.drop k):=fun x hx=>h x<|xeM hx
theorem zo.getD{a:List Nat}(h:zo a)(k:Nat):a.getD k 0<18446744073709551616:=by
 rw[H1];by_cases hk:k<a.length
 ·rw[xaa hk];exact h _<|xbk hk
 ·rw[xaH<|by lia];exact xfG _
theorem zo.replicate(k:Nat):zo (xaf k 0):=fun x hx=>by rw[List.eq_of_mem_replicate hx];exact xfG _
theorem rU:nv []=0:=rfl
theorem ji(x:Nat)(r:List Nat):nv (x::r)=x+18446744073709551616*nv r:=rfl
theorem jx:∀(a b:List Nat),nv (a++b)=nv a+18446744073709551616^a.length*nv b
 |[],b=>by simp[nv]
 |x::a,b=>by
  rw[xbI,ji,jx a b,ji,xaq,xbd,xbh];rw[xaU (18446744073709551616^a.length) 18446744073709551616,xaX,xcR]
theorem WU:∀k,nv (xaf k 0)=0
 |0=>rfl
 |k+1=>by rw[xeg,ji,WU k]
theorem qF:∀{l:List Nat},zo l->nv l<18446744073709551616^l.length
 |[],_=>by simp[nv]
 |x::r,h=>by
  have h1:=h.head;have h2:=qF h.tail;rw[ji,xaq,xbd];lia
theorem dS(l:List Nat)(x:Nat):nv (l++[x])=nv l+18446744073709551616^l.length*x:=by
 rw[jx,ji,rU];simp
theorem zS:∀k n,(wb k n).length=k
 |0,_=>rfl
 |k+1,n=>by rw[wb,xaq,zS]
theorem xJ:∀k n,zo (wb k n)
 |0,_=>zo.nil
 |k+1,n=>zo.cons (xbi _<|by decide)<|xJ k _
theorem jc:∀k n,nv (wb k n)=n%18446744073709551616^k
 |0,n=>by simp[wb,nv,Nat.mod_one]
 |k+1,n=>by rw[wb,ji,jc k,xbd,xaU<|18446744073709551616^k,Nat.mod_mul]
theorem ax:∀{l:List Nat},zo l->wb l.length (nv l)=l
 |[],_=>rfl
 |x::r,h=>by
  have h1:=h.head;rw[xaq,wb,ji,xbW,xar h1,xcE _ _ (by decide),xbv h1,xaN,ax h.tail]
theorem gX(ha:zo a)(hb:zo b)(hl:a.length=b.length)(h:nv a=nv b):a=b:=by
 rw[<-ax ha,<-ax hb,hl,h]
theorem BK:∀k,wb k 0=xaf k 0
 |0=>rfl
 |k+1=>by rw[wb,Nat.zero_mod,Nat.zero_div,BK k,xeg]
theorem QQ:∀k n,wb (k+1) n=wb k n++[n/18446744073709551616^k%18446744073709551616]
 |0,n=>by simp[wb]
 |k+1,n=>by rw[wb,QQ k,wb,xbI,xaL,<-xek]
theorem sW:∀f n,zo (dj f n)
 |0,_=>zo.nil
 |f+1,n=>by
  rw[dj];split
  ·exact zo.nil
  ·exact zo.cons (xbi _<|by decide)<|sW f _
theorem zx(n:Nat):zo (yF n):=sW n n
theorem P2:∀f n,n<=f->nv (dj f n)=n
 |0,n,h=>by rw[dj,rU];lia
 |f+1,n,h=>by
  rw[dj];split
  ·rename_i h0;rw[rU,h0]
  ·rename_i h0;have ha:n/18446744073709551616<=f:=by
    have:=xeB (n:=n) (k:=18446744073709551616) (by lia) (by decide);lia
   rw[ji,P2 f _ ha,xff]
theorem ya(n:Nat):nv (yF n)=n:=P2 n n<|xab _
theorem Ov:∀f f' n,n<=f->n<=f'->dj f n=dj f' n
 |0,f',n,h,h'=>by
  have:n=0:=by lia
  subst this;cases f'<;>simp[dj]
 |f+1,0,n,h,h'=>by
  have:n=0:=by lia
  subst this;simp[dj]
 |f+1,f'+1,n,h,h'=>by
  rw[dj,dj];split
  ·rfl
  ·rename_i h0;have:=xeB (n:=n) (k:=18446744073709551616) (by lia) (by decide);rw[Ov f f' _ (by lia)<|by lia]
theorem Jg:yF 0=[]:=rfl
theorem fK{n:Nat}(h:0<n):yF n=n%18446744073709551616::yF (n/18446744073709551616):=by
 have e:yF n=dj ((n-1)+1) n:=by unfold yF;congr 1;lia
 have:=xeB (n:=n) (k:=18446744073709551616) h (by decide);rw[e,dj,zC];congr 1;exact Ov _ _ _ (by lia)<|by lia
theorem Cl{n:Nat}(h0:0<n)(h:n<18446744073709551616):yF n=[n]:=by grind [fK,Jg,xar,xbv]
theorem Fw{n:Nat}:yF n=[]↔n=0:=by
 constructor
 ·intro h;rw[<-ya n,h];rfl
 ·rintro rfl;rfl
theorem qb{n:Nat}(h:0<n):0<(yF n).length:=by rw[fK h,xaq];lia
theorem zK:∀(k n:Nat),(yF n).length<=k↔n<18446744073709551616^k
 |0,n=>by rw[Nat.le_zero,xbF,Fw];simp;
 |k+1,n=>by
  by_cases h:n=0
  ·subst h;simp[Jg];exact xbj<|by decide
  ·rw[fK (by lia),xaq,Nat.add_le_add_iff_right,zK k,xbc (by decide),xbd]
theorem za9{n:Nat}(h:0<n):(yF n).getD ((yF n).length-1) 0≠0:=by
 intro h0;have hp:=qb h;have e:=ax<|zx n;rw[ya]at e;obtain⟨k,hk⟩:∃k,(yF n).length=k+1:=⟨(yF n).length-1,by lia⟩;have h1:=(zK k n).2;rw[hk,QQ]at e;rw[<-e]at h0;rw[show(wb k n++[n/18446744073709551616^k%18446744073709551616]).length-1=(wb k n).length by simp]at h0;simp at h0;have h2:n<18446744073709551616^(k+1):=(zK (k+1) n).1 (by lia);have h3:n/18446744073709551616^k<18446744073709551616:=by rw[xbc<|xbj<|by decide];rwa[xbd,xaU]at h2
 rw[xar h3]at h0;have h4:n<18446744073709551616^k:=by
  rcases Nat.div_eq_zero_iff.1 h0 with h|h
  ·have:=xbj (n:=k) (show 0<18446744073709551616 by decide);lia
  ·exact h
 have:=h1 h4;lia
theorem br:∀(l:List Nat) (k:Nat),k+1=l.length->l.getD k 0≠0->BW l=l
 |[],_,h,_=>by simp at h
 |[x],0,_,h=>by simp at h;simp[BW,h]
 |[x],k+1,h,_=>by simp at h
 |x::y::r,0,h,_=>by simp at h
 |x::y::r,k+1,h,h0=>by
  have:=br (y::r) k (by simpa using h) (by simpa using h0);simp only[BW]at this⊢;rw[this]
theorem Hp:∀{l:List Nat},zo l->BW l=yF (nv l)
 |[],_=>rfl
 |x::r,h=>by
  have ih:=Hp h.tail;have hx:=h.head;rw[BW,ih,ji];by_cases hr:nv r=0
  ·rw[hr,Jg];by_cases h0:x=0
   ·simp[h0,Jg]
   ·simp only[h0,if_false,xcO,xbS];rw[Cl (by lia) hx]
  ·have e1:=fK (n:=nv r) (by lia);have e2:=fK (n:=x+18446744073709551616*nv r) (by lia);rw[xbW,xar hx,xcE _ _ (by decide),xbv hx,xaN]at e2;rw[e2,e1]
theorem Hl(hl:zo l)(h:l=[]\/l.getD (l.length-1) 0≠0):yF (nv l)=l:=by
 rw[<-Hp hl];rcases h with rfl|h
 ·rfl
 ·cases hn:l.length with
  |zero=>rw[xbt hn];rfl
  |succ k=>exact br l k hn.symm<|by rw[hn]at h;exact h
theorem om(hl:zo l)(k:Nat):nv (l.take k)=nv l%18446744073709551616^k:=by
 by_cases hk:k<=l.length
 ·have e:=jx (l.take k)<|l.drop k;rw[xbH,xav,xcN hk]at e;have:=qF<|hl.take k;rw[xav,xcN hk]at this;rw[e,xbW,xar this]
 ·rw[xaQ (by lia),xar];exact xal (qF hl)<|xaz (by decide)<|by lia
theorem Dz(hl:zo l)(k:Nat):nv (l.drop k)=nv l/18446744073709551616^k:=by
 by_cases hk:k<=l.length
 ·have e:=jx (l.take k)<|l.drop k;rw[xbH,xav,xcN hk]at e;have:=qF<|hl.take k;rw[xav,xcN hk]at this;rw[e,xcE _ _ (xbj<|by decide),xbv this,xaN]
 ·rw[xcm (by lia),rU,xbv];exact xal (qF hl)<|xaz (by decide)<|by lia
theorem VM:∀{l:List Nat},zo l->∀k,l.getD k 0=nv l/18446744073709551616^k%18446744073709551616
 |[],_,k=>by simp[nv]
 |x::r,h,0=>by rw[List.getD_cons_zero,ji,xef,xdT,xbW,xar h.head]
 |x::r,h,k+1=>by rw[xel,VM h.tail k,ji,xek,<-xaL,xcE _ _ (by decide),xbv h.head,xaN]
theorem zfi{α:Type}{l:List α}{n:Nat}{z x:α}(hl:l.length=k)(hk:k<n):(l++xaf (n-k) z).set k x=(l++[x])++xaf (n-(k+1)) z:=by
 obtain⟨m,hm⟩:∃m,n-k=m+1:=⟨n-k-1,by lia⟩;rw[hm,xeg,xfy _ _ (by lia),hl,xdb,List.set_cons_zero,xaj];congr 2;rw[show n-(k+1)=m by lia];rfl
def wg(step:Nat->Nat->Nat×Nat):Nat->List Nat×Nat
 |0=>([],0)
 |k+1=>((wg step k).1++[(step k (wg step k).2).1],(step k (wg step k).2).2)
theorem xL(step:Nat->Nat->Nat×Nat):∀k,(wg step k).1.length=k
 |0=>rfl
 |k+1=>by rw[wg,xax,xL step k];rfl
def mG(a b:List Nat)(k c:Nat):Nat×Nat:=((a.getD k 0+b.getD k 0+c)%18446744073709551616,(a.getD k 0+b.getD k 0+c)/18446744073709551616)
theorem LP{c:Nat}(ha:zo a)(hb:zo b)(hc:c<=1):(mG a b k c).2<=1:=by grind [mG,zo.getD]
theorem qg(l:List Nat):∀k,nv (l.take<|k+1)=nv (l.take k)+18446744073709551616^k*l.getD k 0:=by
 induction l with
 |nil=>intro k;simp[nv]
 |cons x r ih=>
  intro k
  cases k with
  |zero=>simp[nv]
  |succ k=>
   rw[xeh,ji,ih k,xeh,ji,xel,xbd,xbh];rw[xaU (18446744073709551616^k) 18446744073709551616,xaX,xcR]
theorem pA(a b:List Nat):∀k,nv (wg (mG a b) k).1+18446744073709551616^k*(wg (mG a b) k).2=nv (a.take k)+nv (b.take k)/\zo (wg (mG a b) k).1
 |0=>⟨by simp[wg,nv],zo.nil⟩
 |k+1=>by
  obtain⟨ih,il⟩:=pA a b k;rw[wg,qg,qg,dS,xL];refine⟨?_,il.append<|zo.cons (xbi _<|by decide) zo.nil⟩;generalize hc:(wg (mG a b) k).2=c at*
  simp only[mG];have e:=xff (a.getD k 0+b.getD k 0+c) 18446744073709551616;generalize(a.getD k 0+b.getD k 0+c)%18446744073709551616=r at*
  generalize(a.getD k 0+b.getD k 0+c)/18446744073709551616=q at*
  rw[xbd];generalize 18446744073709551616^k=p at*
  have e2:p*r+p*18446744073709551616*q=p*(a.getD k 0)+p*(b.getD k 0)+p*c:=by rw[xaX,<-xbh,e,xbh,xbh]
  lia
theorem Tb{n:Nat}(ha:a.length<=n)(hb:b.length<=n):nv ((wg (mG a b) n).1++[(wg (mG a b) n).2])=nv a+nv b:=by grind [dS,xL,pA,xaQ]
end
section
variable{x y k m j i:Nat}{l a b o o0 r:List Nat}
theorem sH(h:(yF x).length<(yF y).length):x<y:=by
 have h1:=(zK (yF x).length x).1<|xab _;have h2:¬y<18446744073709551616^(yF x).length:=fun h3=>by have:=(zK _ y).2 h3;lia
 lia
theorem Vx(x B k:Nat)(hB:0<B):x/B^k=B*(x/B^(k+1))+x/B^k%B:=by grind [xbB,xaL,xbd]
theorem zcC(h:x/18446744073709551616^(k+1)=y/18446744073709551616^(k+1))(hd:x/18446744073709551616^k%18446744073709551616<y/18446744073709551616^k%18446744073709551616):x<y:=by
 have h1:=Vx x 18446744073709551616 k (by decide);have h2:=Vx y 18446744073709551616 k (by decide);refine xdy fun h3=> ?_;have h4:=Nat.div_le_div_right (c:=18446744073709551616^k) h3;lia
theorem zhd(h:x/18446744073709551616^(k+1)=y/18446744073709551616^(k+1))(hd:x/18446744073709551616^k%18446744073709551616=y/18446744073709551616^k%18446744073709551616):
 x/18446744073709551616^k=y/18446744073709551616^k:=by grind [Vx]
theorem Xj(n k:Nat):(yF n).getD k 0=n/18446744073709551616^k%18446744073709551616:=by rw[VM<|zx n,ya]
theorem zcE(h:(yF x).length=(yF y).length):x/18446744073709551616^(yF x).length=y/18446744073709551616^(yF x).length:=by
 rw[xbv<|(zK _ x).1<|xab _,xbv<|(zK _ y).1<|by lia]
theorem yV(h:zo l):(yF<|nv l).length<=l.length:=(zK _ _).2<|qF h
theorem zaZ(hm:0<m)(h:x/18446744073709551616^m=y/18446744073709551616^m)(hd:(yF x).getD (m-1) 0=(yF y).getD (m-1) 0):x/18446744073709551616^(m-1)=y/18446744073709551616^(m-1):=by grind [zhd,Xj]
theorem zdz(h:(yF x).length≠(yF y).length):qX ((yF x).length:Nat) ((yF y).length:Nat)=qX x y:=by
 rcases Nat.lt_or_gt_of_ne h with h|h
 ·have:=sH h;rw[qd (by lia),qd<|by lia]
 ·have:=sH h;rw[w5 (by lia),w5<|by lia]
theorem RN(hm:0<m)(h:x/18446744073709551616^m=y/18446744073709551616^m)(hd:(yF x).getD (m-1) 0≠(yF y).getD (m-1) 0):
 qX ((yF x).getD (m-1) 0:Nat) ((yF y).getD (m-1) 0:Nat)=qX x y:=by
 rw[show m=m-1+1 by lia]at h;rcases Nat.lt_or_gt_of_ne hd with hd|hd
 ·have ha:=hd;rw[Xj,Xj]at ha;have:=zcC h ha;rw[qd (by lia),qd<|by lia]
 ·have ha:=hd;rw[Xj,Xj]at ha;have:=zcC h.symm ha;rw[w5 (by lia),w5<|by lia]
def QY(a b:List Nat)(k c:Nat):Nat×Nat:=((a.getD k 0+18446744073709551616-b.getD k 0-c)%18446744073709551616,if a.getD k 0<b.getD k 0+c then 1 else 0)
theorem sE(a b:List Nat)(k c:Nat):(QY a b k c).2<=1:=by
 simp only[QY];split<;>lia
theorem Hg{a b:List Nat}(ha:zo a)(hb:zo b):∀k,nv (wg (QY a b) k).1+nv (b.take k)=nv (a.take k)+18446744073709551616^k*(wg (QY a b) k).2/\zo (wg (QY a b) k).1/\(wg (QY a b) k).2<=1
 |0=>⟨by simp[wg,nv],zo.nil,xah _⟩
 |k+1=>by
  obtain⟨ih,il,ic⟩:=Hg ha hb k;rw[wg,qg,qg,dS,xL];refine⟨?_,il.append<|zo.cons (xbi _<|by decide) zo.nil,sE a b k _⟩;generalize hc:(wg (QY a b) k).2=c at*
  simp only[QY];have h1:=ha.getD k;have h2:=hb.getD k;generalize a.getD k 0=x at*
  generalize b.getD k 0=y at*
  rw[xbd];generalize 18446744073709551616^k=p at*
  have e:(x+18446744073709551616-y-c)%18446744073709551616+y+c=x+18446744073709551616*(if x<y+c then 1 else 0):=by split<;>lia
  generalize(x+18446744073709551616-y-c)%18446744073709551616=r at*
  generalize(if x<y+c then 1 else 0:Nat)=q at*
  have e2:p*r+p*y+p*c=p*x+p*18446744073709551616*q:=by rw[xaX,<-xbh,<-xbh,e,xbh]
  lia
theorem pS{n:Nat}(ha:zo a)(hb:zo b)(hc:a.length<=n)(hd:b.length<=n):
 nv (wg (QY a b) n).1+nv b=nv a+18446744073709551616^n*(wg (QY a b) n).2/\zo (wg (QY a b) n).1/\(wg (QY a b) n).2<=1:=by
 have:=Hg ha hb n;rwa[xaQ hc,xaQ hd]at this
theorem BJ{n:Nat}(ha:zo a)(hb:zo b)(hc:a.length<=n)(hd:b.length<=n):0<(wg (QY a b) n).2↔nv a<nv b:=by
 obtain⟨h1,h2,h3⟩:=pS ha hb hc hd;have h4:=qF h2;rw[xL]at h4;constructor
 ·intro h;have:(wg (QY a b) n).2=1:=by lia
  rw[this,xcI]at h1;lia
 ·intro h;refine xcJ fun h0=> ?_;rw[h0,xcO]at h1;lia
theorem Sb{n:Nat}(ha:zo a)(hb:zo b)(hc:a.length<=n)(hd:b.length<=n)(h:¬nv a<nv b):nv (wg (QY a b) n).1=nv a-nv b:=by
 obtain⟨h1,h2,h3⟩:=pS ha hb hc hd;have:¬0<(wg (QY a b) n).2:=fun hp=>h<|(BJ ha hb hc hd).1 hp;have:(wg (QY a b) n).2=0:=by lia
 rw[this,xcO]at h1;lia
def Jt(a:List Nat)(x:Nat)(k c:Nat):Nat×Nat:=((a.getD k 0*x+c)%18446744073709551616,(a.getD k 0*x+c)/18446744073709551616)
theorem gx{a c:Nat}(ha:a<18446744073709551616)(hx:x<18446744073709551616)(hc:c<18446744073709551616):(a*x+c)/18446744073709551616<18446744073709551616:=by
 have:a*x<=18446744073709551615*18446744073709551615:=xbJ (by lia) (by lia);lia
theorem LK{c:Nat}(ha:zo a)(hx:x<18446744073709551616)(hc:c<18446744073709551616):(Jt a x k c).2<18446744073709551616:=gx (ha.getD k) hx hc
theorem Ll(a:List Nat)(x:Nat):∀k,nv (wg (Jt a x) k).1+18446744073709551616^k*(wg (Jt a x) k).2=nv (a.take k)*x/\zo (wg (Jt a x) k).1
 |0=>⟨by simp[wg,nv],zo.nil⟩
 |k+1=>by
  obtain⟨ih,il⟩:=Ll a x k;rw[wg,qg,dS,xL];refine⟨?_,il.append<|zo.cons (xbi _<|by decide) zo.nil⟩;generalize hc:(wg (Jt a x) k).2=c at*
  simp only[Jt];have e:=xff (a.getD k 0*x+c) 18446744073709551616;generalize(a.getD k 0*x+c)%18446744073709551616=r at*
  generalize(a.getD k 0*x+c)/18446744073709551616=q at*
  rw[xbd];generalize 18446744073709551616^k=p at*
  have e2:p*r+p*18446744073709551616*q=p*(a.getD k 0*x)+p*c:=by rw[xaX,<-xbh,e,xbh]
  rw[xaR,xaX p (a.getD k 0) x];lia
theorem Iv(hc:(wg (Jt a x) a.length).2<18446744073709551616):(wg (Jt a x) a.length).1++[(wg (Jt a x) a.length).2]=wb (a.length+1) (nv a*x):=by
 obtain⟨h1,h2⟩:=Ll a x a.length;have hl:zo ((wg (Jt a x) a.length).1++[(wg (Jt a x) a.length).2]):=h2.append<|zo.cons hc zo.nil;have hn:nv ((wg (Jt a x) a.length).1++[(wg (Jt a x) a.length).2])=nv a*x:=by rw[dS,xL,h1,xaQ<|xab _]
 have:=ax hl;rw[hn,xax,xL]at this;exact this.symm
theorem tW(ha:zo a)(hx:x<18446744073709551616):nv a*x<18446744073709551616^(a.length+1):=by
 have:=qF ha;rw[xbd]
 calc nv a*x<=nv a*18446744073709551616:=xaD _ (by lia)
  _<_:=xbX this<|by decide
theorem zdo:∀(o:List Nat) (j v:Nat),j<o.length->nv (o.set j v)+18446744073709551616^j*o.getD j 0=nv o+18446744073709551616^j*v
 |[],j,v,h=>by simp at h
 |x::r,0,v,h=>by simp[nv];lia
 |x::r,j+1,v,h=>by
  have ih:=zdo r j v (by simpa using h);rw[List.set_cons_succ,ji,ji,xel,xbd,xaU<|18446744073709551616^j,xaX,xaX];lia
theorem zo.set{o:List Nat}(h:zo o)(j:Nat){v:Nat}(hv:v<18446744073709551616):zo (o.set j v):=fun x hx=>by
 rcases xeO hx with h1|h1
 ·exact h x h1
 ·rw[h1];exact hv
theorem S7{c:Nat}(hj:j+i<o.length)(h:nv o+18446744073709551616^(j+i)*c=nv o0+18446744073709551616^j*nv (r.take i)):
 nv (o.set (j+i)<|(o.getD (j+i) 0+r.getD i 0+c)%18446744073709551616)+18446744073709551616^(j+(i+1))*((o.getD (j+i) 0+r.getD i 0+c)/18446744073709551616)=nv o0+18446744073709551616^j*nv (r.take<|i+1):=by grind [zdo,qg,xbh,xaX,xbY,xff,xbd]
theorem We(ha:zo a)(hb:zo b):nv a*nv (b.take k)<18446744073709551616^(a.length+k):=by
 have h1:=qF ha;have h2:=qF<|hb.take k;have h3:18446744073709551616^(b.take k).length<=18446744073709551616^k:=xaz (by decide) (by rw[xav];lia);rw[xbY];exact xdJ h1<|by lia
theorem zeq{c:Nat}(h:nv o+18446744073709551616^(j+r.length)*c=nv o0+18446744073709551616^j*nv r)(hn:nv o0+18446744073709551616^j*nv r<18446744073709551616^(j+r.length)):
 c=0/\nv o=nv o0+18446744073709551616^j*nv r:=by
 have hc:c=0:=by
  refine xes fun hp=> ?_;have:18446744073709551616^(j+r.length)*1<=18446744073709551616^(j+r.length)*c:=xaD _ hp;lia
 subst hc;exact⟨rfl,by rw[xcO,xbS]at h;exact h⟩
theorem GD{p:List Nat}{c:Nat}(ha:zo a)(hb:zo b)(hi:¬i<a.length+1)(hd:i<=a.length+1)(ho:nv o=nv a*nv (b.take k))(hp:nv p+18446744073709551616^(k+i)*c=nv o+18446744073709551616^k*nv ((wb (a.length+1)<|nv a*b.getD k 0).take i)):nv p=nv a*nv (b.take<|k+1):=by
 obtain rfl:i=a.length+1:=by lia
 have hl:=zS (a.length+1)<|nv a*b.getD k 0;rw[xaQ<|by lia]at hp;have hr:nv (wb (a.length+1)<|nv a*b.getD k 0)=nv a*b.getD k 0:=by rw[jc,xar<|tW ha<|hb.getD k]
 have e:nv o+18446744073709551616^k*nv (wb (a.length+1)<|nv a*b.getD k 0)=nv a*nv (b.take<|k+1):=by rw[hr,ho,qg,xbh,xeb]
 have hc:nv o+18446744073709551616^k*nv (wb (a.length+1)<|nv a*b.getD k 0)<18446744073709551616^(k+(wb (a.length+1)<|nv a*b.getD k 0).length):=by
  rw[e,hl,show k+(a.length+1)=a.length+(k+1)by lia];exact We ha hb
 generalize wb (a.length+1) (nv a*b.getD k 0)=r at*
 rw[<-hl]at hp;rw[(zeq hp hc).2,e]
theorem m32{a b:Nat}(ha:a<4294967296)(hb:b<4294967296):a*b<=18446744065119617025:=xbJ (show a<=4294967295 by lia) (show b<=4294967295 by lia)
theorem zeI(hx:x<18446744073709551616)(hy:y<18446744073709551616):(x%4294967296)*(y%4294967296)<=18446744065119617025/\(x/2^32)*(y%4294967296)<=18446744065119617025/\
 (x%4294967296)*(y/2^32)<=18446744065119617025/\(x/2^32)*(y/2^32)<=18446744065119617025:=
 ⟨m32 (by lia) (by lia),m32 (by lia) (by lia),m32 (by lia) (by lia),m32 (by lia)<|by lia⟩
theorem TW(x y:Nat):x*y=18446744073709551616*((x/2^32)*(y/2^32))+4294967296*((x/2^32)*(y%4294967296))+4294967296*((x%4294967296)*(y/2^32))+(x%4294967296)*(y%4294967296):=by
 have h1:x=4294967296*(x/2^32)+x%4294967296:=by lia
 have h2:y=4294967296*(y/2^32)+y%4294967296:=by lia
 generalize x/2^32=x1 at*
 generalize y/2^32=y1 at*
 generalize x%4294967296=x0 at*
 generalize y%4294967296=y0 at*
 subst h1 h2;rw[xaR,xbh,xbh,xaX,xaX,xeb x1 4294967296 y1,xeb x0 4294967296 y1];lia
theorem Zg(hx:(yF x).length<=k)(hy:(yF y).length<=k):(yF<|x+y).length<=k+1:=by
 rw[zK]at*
 rw[xbd];lia
theorem zlr{x0 x1 y0 y1 P:Nat}:x0*y0+P*((x0+x1)*(y0+y1)-x0*y0-x1*y1)+P*P*(x1*y1)=(x0+P*x1)*(y0+P*y1):=by
 have e:(x0+x1)*(y0+y1)-x0*y0-x1*y1=x0*y1+x1*y0:=by rw[xaR,xbh,xbh];lia
 rw[e,xaR,xbh,xbh,xbh];have e1:x0*(P*y1)=P*(x0*y1):=xeb ..;have e2:P*x1*y0=P*(x1*y0):=xaX ..;have e3:P*x1*(P*y1)=P*P*(x1*y1):=by rw[xaX,xeb x1,<-xaX]
 rw[e1,e2,e3];lia
theorem zd3(x0 x1 y0 y1:Nat):x0*y0<=(x0+x1)*(y0+y1)/\x1*y1<=(x0+x1)*(y0+y1)-x0*y0:=by grind [xaR,xbh]
theorem IA(h:Nat):l.take (min h l.length)=l.take h:=by
 rw[Nat.min_def];split
 ·rfl
 ·rw[xaQ<|xab _,xaQ<|by lia]
theorem GA(h:Nat):l.drop (min h l.length)=l.drop h:=by
 rw[Nat.min_def];split
 ·rfl
 ·rw[xcm<|xab _,xcm<|by lia]
theorem sQ(n:Nat)(l:List Nat):nv (xaf n 0++l)=18446744073709551616^n*nv l:=by simp_all [jx,WU]
theorem BZ(h:Nat):nv (l.take h)+18446744073709551616^h*nv (l.drop h)=nv l:=by
 by_cases hh:h<=l.length
 ·have e:=jx (l.take h)<|l.drop h;rw[xbH,xav,xcN hh]at e;exact e.symm
 ·rw[xcm (by lia),xaQ (by lia),rU,xcO,xbS]
theorem zfA{A B:List Nat}(h:Nat):nv (A.take h)*nv (B.take h)+18446744073709551616^h*((nv (A.take h)+nv (A.drop h))*(nv (B.take h)+nv (B.drop h))-nv (A.take h)*nv (B.take h)-nv (A.drop h)*nv (B.drop h))+
 18446744073709551616^(2*h)*(nv (A.drop h)*nv (B.drop h))=nv A*nv B:=by
 have:= @zlr (nv<|A.take h) (nv<|A.drop h) (nv<|B.take h) (nv<|B.drop h)<|18446744073709551616^h;rw[BZ,BZ]at this;rw[Nat.two_mul,xbY];exact this
theorem Y8(hx:(yF x).length<=j)(hy:(yF y).length<=k):(yF<|x*y).length<=j+k:=by
 rw[zK]at*
 rw[xbY];exact xdJ hx hy
theorem FM(q:Nat)(hx:(yF x).length<=k):(yF<|18446744073709551616^q*x).length<=q+k:=by
 rw[zK]at*
 rw[xbY];exact Nat.mul_lt_mul_of_pos_left hx<|xbj<|by decide
theorem VD(h:x<=y):(yF x).length<=(yF y).length:=by
 have:=(zK (yF y).length y).1<|xab _;exact(zK _ x).2<|by lia
theorem zcA(a b h:Nat){x0 x1 y0 y1:Nat}(ha:x0=nv ((yF a).take h))(hb:x1=nv ((yF a).drop h))(hc:y0=nv ((yF b).take h))(hd:y1=nv ((yF b).drop h)):
 x0*y0+18446744073709551616^h*((x0+x1)*(y0+y1)-x0*y0-x1*y1)+18446744073709551616^(2*h)*(x1*y1)=a*b:=by grind [zfA,ya]
end
end Go.Proofs.YtmggkmchbdanfaaGreat
