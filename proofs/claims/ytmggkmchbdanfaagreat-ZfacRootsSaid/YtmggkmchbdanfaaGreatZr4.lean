/- What a proof needs: rules of walking, mirrors of functions and their plain laws. No condition. -/
import Derived.Test.YtmggkmchbdanfaaGreatZr3
import Derived.Below
import Derived.Lib.Join
import Derived.Shelf.Strings.Builder1
import Derived.Shelf.Strings.Builder2
import Derived.Shelf.Strings.OnBuilder
import Derived.Shelf.Bits.Mul64
set_option linter.unusedVariables false
set_option linter.unusedSimpArgs false
namespace Go.Proofs
open Go.Shelf
def Tryz.lays156_ren:Go.Shelf.Ren:=⟨fun|156=>167|165=>229|166=>230|169=>231|240=>303|241=>304|276=>345|277=>346|n=>n,fun|31=>171|9=>9|3=>3|4=>4|0=>0|20=>20|72=>222|76=>226|70=>220|37=>218|75=>225|127=>270|164=>299|5=>5|80=>228|n=>n,fun|n=>n⟩
theorem Tryz.lays156:Go.Proofs.Lays.n156 Tryz.prog Tryz.lays156_ren:={
  mixed:=by kernel_rfl
  f156:=Tryz.func167.trans (congrArg some (by kernel_rfl))
  f165:=Tryz.func229.trans (congrArg some (by kernel_rfl))
  f166:=Tryz.func230.trans (congrArg some (by kernel_rfl))
  f169:=Tryz.func231.trans (congrArg some (by kernel_rfl))
  f240:=Tryz.func303.trans (congrArg some (by kernel_rfl))
  f241:=Tryz.func304.trans (congrArg some (by kernel_rfl))
  f276:=Tryz.func345.trans (congrArg some (by kernel_rfl))
  f277:=Tryz.func346.trans (congrArg some (by kernel_rfl))
  t0:=Tryz.underlying0
  a0:=Tryz.isAgg0
  z0:=Tryz.sizeOf0
  v0:=Tryz.zeroValue0
  t3:=Tryz.underlying3
  a3:=Tryz.isAgg3
  z3:=Tryz.sizeOf3
  v3:=Tryz.zeroValue3
  t4:=Tryz.underlying4
  a4:=Tryz.isAgg4
  z4:=Tryz.sizeOf4
  v4:=Tryz.zeroValue4
  t9:=Tryz.underlying9
  a9:=Tryz.isAgg9
  z9:=Tryz.sizeOf9
  v9:=Tryz.zeroValue9
  t20:=Tryz.underlying20
  a20:=Tryz.isAgg20
  z20:=Tryz.sizeOf20
  v20:=Tryz.zeroValue20
  t31:=Tryz.underlying171
  a31:=Tryz.isAgg171
  z31:=Tryz.sizeOf171
  v31:=Tryz.zeroValue171
  t37:=Tryz.underlying218
  a37:=Tryz.isAgg218
  z37:=Tryz.sizeOf218
  v37:=Tryz.zeroValue218
  t70:=Tryz.underlying220
  a70:=Tryz.isAgg220
  z70:=Tryz.sizeOf220
  v70:=Tryz.zeroValue220
  t72:=Tryz.underlying222
  a72:=Tryz.isAgg222
  z72:=Tryz.sizeOf222
  v72:=Tryz.zeroValue222
  t75:=Tryz.underlying225
  a75:=Tryz.isAgg225
  z75:=Tryz.sizeOf225
  v75:=Tryz.zeroValue225
  t76:=Tryz.underlying226
  a76:=Tryz.isAgg226
  z76:=Tryz.sizeOf226
  v76:=Tryz.zeroValue226
  t127:=Tryz.underlying270
  a127:=Tryz.isAgg270
  z127:=Tryz.sizeOf270
  v127:=Tryz.zeroValue270
  t164:=Tryz.underlying299
  a164:=Tryz.isAgg299
  z164:=Tryz.sizeOf299
  v164:=Tryz.zeroValue299}
theorem Tryz.Builder_Extra_156:Builder.Extra Tryz.prog Tryz.lays156_ren:={
  sizeBuilder:=by kernel_rfl
  liesBuilder:=by kernel_rfl
  t5:=Tryz.underlying5
  a5:=Tryz.isAgg5
  z5:=Tryz.sizeOf5
  v5:=Tryz.zeroValue5
  infoByte:=by kernel_rfl
  cellsByte:=by kernel_rfl
  sizeByte:=by kernel_rfl
  neB5:=by decide}
open Go.RowKit in
theorem Tryz.strings_Join_none(a:Option Addr)(c:Nat)(sep:ByteArray)(w:World):
    Calls Tryz.prog 167 #[.slice a 0 c,.string sep] w fun e w'=>e=.returned (.string ⟨#[]⟩)∧w'=w:=Any.strings_Join_none Tryz.lays156 Tryz.Builder_Extra_156 a c sep w
open Go.RowKit in
theorem Tryz.strings_Join(bk o c:Nat)(xs:List ByteArray)(sep:ByteArray)(w:World)(hcells:∀(j:Nat) x,xs[j]? =some x→w.cell? ⟨bk,o+j,none⟩=some (.string x))(hbk:bk<w.heap.size)(hN:xs.length≤140737488355328)(hcap:xs.length≤c)(hlen:(Lib.join (xs.map (·.data.toList)) sep.data.toList).length≤140737488355328):
    Calls Tryz.prog 167 #[.slice (some ⟨bk,o,none⟩) xs.length c,.string sep] w fun e w'=>e=.returned (.string ⟨(Lib.join (xs.map (·.data.toList)) sep.data.toList).toArray⟩)∧Below w.heap.size w w':=Any.strings_Join Tryz.lays156 Tryz.Builder_Extra_156 bk o c xs sep w hcells hbk hN hcap hlen
end Go.Proofs
namespace Go.Proofs.YtmggkmchbdanfaaGreat
open And renaming intro->xfz
open Bool renaming and_eq_true->xao
open Ending renaming returned->xeA
open Int renaming fdiv->xfT,natCast_nonneg->xde,tdiv->xdd,tmod->xcc
open Lib renaming bitLen->xeZ
open List renaming append_assoc->xaj,cons_append->xbI,drop->xdA,drop_eq_nil_of_le->xcl,eq_nil_of_length_eq_zero->xbt,getD_cons_succ->xem,getD_eq_getElem?_getD->H1,getElem?_eq_getElem->xaa,getElem?_eq_none->xaH,getElem?_map->xaT,getElem_mem->xbn,intercalate->xfG,length->xaI,length_append->xax,length_cons->xaq,length_drop->xbO,length_eq_zero_iff->xbF,length_map->xaP,length_nil->xbS,length_replicate->xaZ,length_take->xav,map_append->xbg,map_congr_left->xci,map_cons->xbX,map_map->xcT,mem_append->Nm,mem_cons->xac,mem_cons_of_mem->UV,mem_cons_self->FS,mem_of_mem_drop->xeL,mem_of_mem_take->xdV,mem_or_eq_of_mem_set->xeN,mem_singleton->xai,not_mem_nil->IR,replicate->xaf,replicate_succ->xeh,set_append_right->xfA,take->xdt,take_append_drop->xbN,take_of_length_le->xaQ,take_succ_cons->xei
open List.Perm renaming swap->xeO
open List.cons renaming injEq->xez
open Nat renaming add_assoc->xcR,add_mul->xaV,add_mul_div_left->xcC,add_mul_mod_self_left->xbV,add_zero->xbT,beq->xap,ble->xfU,blt->xdc,div_add_mod->xbB,div_div_eq_div_mul->xaL,div_eq_of_lt->xbv,div_lt_iff_lt_mul->xbd,div_lt_self->xeB,div_one->xdU,eq_zero_of_not_pos->xes,le_refl->xab,le_trans->xam,lt_of_lt_of_le->xan,lt_of_not_le->xdz,lt_succ_self->xbY,min_eq_left->xcM,mod_add_div->xfg,mod_eq_of_lt->xar,mod_lt->xbi,mul_add->xbh,mul_assoc->xaX,mul_comm->xaU,mul_le_mul->xbH,mul_le_mul_left->xaD,mul_left_comm->xed,mul_lt_mul''->xdK,mul_lt_mul_of_pos_right->xbW,mul_one->xcG,mul_zero->xcN,pos_of_ne_zero->xcI,pow_add->xbZ,pow_le_pow_right->xay,pow_pos->xbk,pow_succ->xbb,pow_succ'->xel,pow_zero->xeg,sub_self->xda,zero_add->xaN,zero_le->xah,zero_lt_one->xec,zero_lt_succ->xfH
open Option.some renaming inj->xdv
open Prod.mk renaming injEq->xcH
open Sum renaming elim->xfw
open UInt8 renaming ofNat->xeW,toNat->xfo
open _root_.Array renaming toArray_toList->xdh
section
def zdd:(dom:List Ty)->dn dom->Nat->List (Nat×Nat×Dv)
 |[],_,_=>[]
 |t::r,x,i=>(i,0,.d t x.1)::zdd r x.2 (i+1)
def zfv(g:FuncId)(t:Nat)(σ:Sg):Option (List PD):=match get ⟨0,[],[]⟩ σ t 0 with
 |some (.fn f cs)=>kF (xap f g)<|some cs
 |_=>none
def zj7(cf:Cf)(fn:Func)(dom:List Ty)(g:FuncId)(x:dn dom):Option (List PD):=match fn.body,fn.results.toList with
 |some c,[.tmp t]=>kF (Nr fn.ntmps c && xfU dom.length fn.ntmps)<|aQ cf c ⟨0,[],[]⟩ ⟨0,zdd dom x 0,[]⟩ fun q σ=>match q with
  |.r=>zfv g t σ
  |.n=>zfv g t σ
  |_=>none
 |_,_=>none
def zeE(t:Ty)(E E1:TypeId)(ix:List Nat)(lo n:Nat)(σ:Sg):Option (List<|List t.D):=match get ⟨0,[],[]⟩ σ 3 0 with
 |some (.mv o lo' n')=>(match xO σ.ob o with
  |some (.mat t' E' F' xss ix')=>kF (xap E E' && xap E1 F')<|Ty.cast (.l (.l t')) (.l (.l t)) xss fun y=>ck (lo'=lo/\n'=n/\ix'=ix)<|some y
  |_=>none)
 |_=>none
def zhJ(cf:Cf)(fn:Func)(t:Ty)(E E1:TypeId)(pn:Value)(xss:List (List t.D))(ix:List Nat)(r:Nat)(a p:Int)(lo n:Nat):Option (List<|List t.D):=match fn.body,fn.results.toList with
 |some c,[]=>kF (Nr fn.ntmps c && xfU 4 fn.ntmps)<|aQ cf c ⟨0,[(3,0,.pin pn)],[]⟩ ⟨1,[(0,0,.rw 0 r),(1,0,.d .i a),(2,0,.d .i p),(3,0,.mv 0 lo n)],[(0,.mat t E E1 xss ix)]⟩ fun q σ=>match q with
  |.r=>zeE t E E1 ix lo n σ
  |.n=>zeE t E E1 ix lo n σ
  |_=>none
 |_,_=>none
section
variable{P:Program}{cf:Cf}{env:yN}{w:World}
theorem N0{S:Nat->Prop}{vs:Nat->Value}:∀{dom:List Ty}{x:dn dom}{i:Nat}{l:List Value},l.length=dom.length->(∀j v,l[j]? =some v->env (i+j)=v)->zA S (tsF dom x l) w->zA S (RS P vs env<|zdd dom x i) w
 |[],_,_,_,_,_,_=>trivial
 |a::dom,x,i,[],hl,_,_=>by cases hl
 |a::dom,x,i,v::l,hl,h,hA=>by
  have ih:zA S (RS P vs env<|zdd dom x.2<|i+1) w:=N0 (l:=l) (by simpa using hl) (fun j v hj=>by
   have:=h (j+1) v (by simpa using hj);rw[show i+1+j=i+(j+1)by lia];exact this) hA.2
  have h0:env i=v:=h 0 v rfl;have ha:(fV a.rep x.1 v).p S w:=hA.1;exact⟨show(fV a.rep x.1<|env i).p S w by rw[h0];exact ha,ih⟩
theorem If:∀{dom:List Ty}{x:dn dom}{i:Nat},∀e∈zdd dom x i,wj e.2.2=none
 |[],_,_,e,he=>absurd he IR
 |a::dom,x,i,e,he=>by
  rcases xac.1 he with rfl|he
  ·rfl
  ·exact If e he
theorem zgn(hm:P.follows .mixedOrders=true)(hT:yZ P cf.tt)(hL:jN P cf.tt)(hC:∀s∈cf.cs,y6 P s)(hX:Aa P cf){s:Fx}{fn:Func}
 (hf:P.funcs[s.f]? =some fn) (hb:Ab P s.f=true) (hM:∀x,zj7 cf fn s.dom s.g x=some (s.mc x)):MV P s:=by
 refine⟨hb,fun x vs hd=>Om.plain ?_⟩;have h:=hM x;unfold zj7 at h;split at h
 ·next c t hc hr=>
  obtain⟨ho,h⟩:=yh h;rw[xao]at ho;intro we Se F G w hs;refine Jf hf hc (by rw[hd];exact ho.2) fun rest=> ?_;refine Yc (fr:=⟨we,Se,F,G⟩) (N:=Nd.of fn.ntmps) hm hT hL hC hX c ho.1 rfl (.inl rfl) h (fun q σ' hk Ds env w _ hR=> ?_) ?_
  ·obtain⟨hl,hR⟩:=Vk hR
   have fin:zfv s.g t σ'=some (s.mc x)->∀a:Act,yr a=env->
    ∃v,(results fn a.tmps).run P (qx Ds w)=.ok v (qx Ds w)/\∃u:Value,xeA v=.returned u/\True/\St we Se ([]++F) ([zhc s.g (s.mc x) u]++G) (qx Ds w):=fun h a ha=>by
    unfold zfv at h;split at h
    ·next f cs hg=>
     obtain⟨hi,h1⟩:=yh h;have hi:=z8 hi;subst hi;cases h1;obtain⟨hB,vs',hn⟩:=hR;have hq:St we Se (MS vs' σ'.ob++F) (RS P vs' env σ'.rg++([]++G)) (qx Ds w):=hn;refine⟨_,Xb (rs:=[.tmp t]) (vs:=[env t]) (by rw[<-hr,xdh])<|ha▸⟨rfl,trivial⟩,env t,rfl,trivial,?_⟩;have h3:=St.dropM (A:=[]) (B:=MS vs' σ'.ob) (C:=F) (by simpa using hq);refine h3.weak fun S w hΓ=>⟨?_,?_⟩
     ·exact Yh (fr:=⟨we,Se,F,G⟩) (cx:=⟨0,[],[]⟩) (show zA S (GS P vs' env ⟨we,Se,F,G⟩ ⟨0,[],[]⟩ σ') w from hΓ) t 0 _ hg
     ·exact zA.right hΓ
    ·cases h
   cases q with
   |n=>exact⟨.inl rfl,hl,fin hk⟩
   |r=>exact⟨.inr rfl,hl,fin hk⟩
   |x j=>cases hk
  ·refine⟨⟨fun _ he=>absurd he IR,fun _ he=>absurd he IR,fun e he p hp=> ?_,fun _ he=>absurd he IR⟩,fun _=>undef,?_⟩
   ·rw[If e he]at hp;cases hp
   ·show St we Se ([]++([]++F)) _ w;exact hs.weak fun S w hΓ=>zA.append (N0 hd (fun j v hj=>Iw hj)<|zA.left hΓ)<|zA.right hΓ
 ·cases h
theorem zbF{α:Type}{e:zZ α}{E E1:TypeId}{u:Value}{xss:List (List α)}{ix:List Nat}{S:Nat->Prop}(h:(lZ e E E1 u xss ix).p S w):∀a k c,yY u=.slice a k c->a.isSome=true->k=ix.length:=by
 intro a k c h1 h2;rcases KG (Da h).2.1 with⟨hv,_⟩|⟨b,cap,hv,_⟩
 ·rw[h1]at hv;cases hv;cases h2
 ·rw[h1]at hv;cases hv;rfl
theorem zfn{cx σ:Sg}{t i:Nat}{d:Dv}(h:get ⟨0,[],[]⟩ σ t i=some d):get cx σ t i=some d:=by
 unfold get at h⊢;split at h
 ·exact h
 ·cases h
theorem zg2(hm:P.follows .mixedOrders=true)(hT:yZ P cf.tt)(hL:jN P cf.tt)(hC:∀s∈cf.cs,y6 P s)(hX:Aa P cf){s:th}{fn:Func}
 (hf:P.funcs[s.f]? =some fn) (hb:Ab P s.f=true) (hM:∀pn xss ix r a p lo n z,s.M xss ix r a p lo n=some z->zhJ cf fn s.t s.E s.E1 pn xss ix r a p lo n=some z):Nf P s:=by
 refine⟨hb,fun xss ix r a p lo n z hz u hr hv hx hl hy hA we Se F G w hn=> ?_⟩;have h:=hM hv xss ix r a p lo n z hz;unfold zhJ at h;split at h
 ·next c hc hD=>
  obtain⟨ho,h⟩:=yh h;rw[xao]at ho;have hi:∀a k c,yY u=.slice a k c->a.isSome=true->k=ix.length:=xR hn (i:=0) rfl fun S hp=>zbF hp;refine Jf (args:=[hr,.int .i64 a,.int .i64 p,hv]) hf hc ho.2 fun rest=> ?_;refine Yc (fr:=⟨we,Se,F,G⟩) (N:=Nd.of fn.ntmps) hm hT hL hC hX c ho.1 rfl (.inl rfl) h (fun q σ' hk Ds env w _ hR=> ?_) ?_
  ·obtain⟨hs,hR⟩:=Vk hR
   have fin:zeE s.t s.E s.E1 ix lo n σ'=some z->∀a:Act,yr a=env->
    ∃v,(results fn a.tmps).run P (qx Ds w)=.ok v (qx Ds w)/\∃v' u',xeA v=.returned v'/\yY u'=yY u/\St we Se (lZ s.t.rep s.E s.E1 u' z ix::F) G (qx Ds w):=fun h a ha=>by
    unfold zeE at h;split at h
    ·next o lo' n' hg=>
     split at h
     ·next t' E' F' zss ix' ho=>
      obtain⟨hE,h1⟩:=yh h;rw[xao]at hE;have hF:=z8 hE.1;have hG:=z8 hE.2;subst hF hG;obtain⟨e,h2⟩:=yi h1;cases e;obtain⟨⟨rfl,rfl,rfl⟩,h3⟩:=kG h2;cases h3;obtain⟨hB,vs',hd⟩:=hR;obtain⟨S0,_,ht⟩:=hd.ex;have hu:env 3=hv:=(zA.left<|zA.right ht).1;have hw:Fw (yY<|vs' o) lo' n' (env 3):=Yh ht 3 0 _<|zfn hg;rw[hu]at hw;have h2:St we Se (lZ s.t.rep s.E s.E1 (vs' o) zss ix'::OS vs' ⟨we,Se,F,G⟩ ⟨0,[(3,0,.pin hv)],[]⟩ (yD σ'.ob o)) (GS P vs' env ⟨we,Se,F,G⟩ ⟨0,[(3,0,.pin hv)],[]⟩ σ') (qx Ds w):=ZS ho hd;have hj:∀a k c,yY (vs' o)=.slice a k c->a.isSome=true->k=ix'.length:=xR h2 (i:=0) rfl fun S hp=>zbF hp;refine⟨_,Xb (rs:=[]) (vs:=[]) (by rw[<-hD,xdh]) trivial,_,vs' o,rfl,hw.same hl hj hi,?_⟩;have h3:St we Se ([lZ s.t.rep s.E s.E1 (vs' o) zss ix']++(MS vs' (yD σ'.ob o)++F)) (GS P vs' env ⟨we,Se,F,G⟩ ⟨0,[(3,0,.pin hv)],[]⟩ σ') (qx Ds w):=h2;exact(St.dropM h3).weak fun S w hΓ=>zA.right<|zA.right hΓ
     ·cases h
    ·cases h
   cases q with
   |n=>exact⟨.inl rfl,hs,fin hk⟩
   |r=>exact⟨.inr rfl,hs,fin hk⟩
   |x j=>cases hk
  ·refine⟨⟨fun e he=> ?_,fun _ he=>absurd he IR,fun e he q hq=> ?_,fun e he q hq=> ?_⟩,fun _=>u,?_⟩
   ·obtain rfl:=xai.1 he;exact xec
   ·simp only[xac,IR,or_false]at he;rcases he with rfl|rfl|rfl|rfl<;>cases hq<;>exact xec
   ·obtain rfl:=xai.1 he;cases hq
   ·refine hn.weak fun S w hΓ=>⟨hx,xM hy,xM hA,hl,rfl,hΓ⟩
 ·cases h
end
end
section
theorem zap{ι:Type _}{R:Type}(S:ι->Tg×Sg)(f:ι->Option R)(inj:∀i j,S i=S j->f i=f j):∃K:Tg->Sg->Option R,(∀i,K (S i).1 (S i).2=f i)/\∀t σ r,K t σ=some r->∃i,S i=(t,σ)/\f i=some r:=by
 classical
 refine⟨fun t σ=>if h:∃i,S i=(t,σ)then f h.choose else none,fun i=> ?_,fun t σ r h=> ?_⟩
 ·have h:∃j,S j=((S i).1,(S i).2):=⟨i,rfl⟩;simp only[dif_pos h];exact inj _ _ h.choose_spec
 ·by_cases h1:∃i,S i=(t,σ)
  ·simp only[dif_pos h1]at h;exact⟨_,h1.choose_spec,h⟩
  ·simp only[dif_neg h1]at h;cases h
def chS(E:TypeId){X Y:Type}(mX:X->Value->MF)(mY:Y->Value->MF)(g:List Int->X->Option (List Int×(X⊕Y)))(n all:Int)(x:X)(xs:List Int):Sg:=
 ⟨2,[(4,0,.ow 1),(0,0,.yd 0),(1,0,.q .i n),(2,0,.q .i all)],[(1,.own .i E xs),(0,.hid .i E X Y mX mY g x)]⟩
section
variable{P:Program}{fr:Fr}{σ:Sg}{env:yN}{w:World}{E:TypeId}{X Y:Type}{mX:X->Value->MF}{mY:Y->Value->MF}{g:List Int->X->Option (List Int×(X⊕Y))}{n all:Int}{x:X}{y:Y}{xs:List Int}{o p:Nat}
theorem zfA(h4:get ⟨0,[],[]⟩ σ 4 0=some (.ow p))(h0:get ⟨0,[],[]⟩ σ 0 0=some (.yd o))(h1:get ⟨0,[],[]⟩ σ 1 0=some (.q .i n))(h2:get ⟨0,[],[]⟩ σ 2 0=some (.q .i all))(ho:xO σ.ob o=some (.hid .i E X Y mX mY g x))(hp:xO σ.ob p=some (.own .i E xs))
 (hb:xap o p=false) (h:Zi P fr ⟨0,[],[]⟩ σ env w):Zi P fr ⟨0,[],[]⟩ (chS E mX mY g n all x xs) env w:=by
 obtain⟨hB,vs,hc⟩:=h;have h5:=eK hb ho hp hc;refine⟨⟨fun e he=> ?_,fun _ he=>absurd he IR,fun e he q hq=> ?_,fun _ he=>absurd he IR⟩,fun k=>if k=0 then vs o else vs p,?_⟩
 ·simp only[chS,xac,IR,or_false]at he⊢;rcases he with rfl|rfl<;>simp
 ·simp only[chS,xac,IR,or_false]at he⊢;rcases he with rfl|rfl|rfl|rfl<;>cases hq<;>simp
 ·have h6:St fr.we fr.Se ([Qz vs (o,.hid .i E X Y mX mY g x),Qz vs (p,.own .i E xs)]++(MS vs (yD (yD σ.ob o) p)++fr.F)) (GS P vs env fr ⟨0,[],[]⟩ σ) w:=h5;have h7:St fr.we fr.Se ([Qz vs (p,.own .i E xs),Qz vs (o,.hid .i E X Y mX mY g x)]++fr.F) (GS P vs env fr ⟨0,[],[]⟩ σ) w:=(St.dropM h6).perm<|xeO ..;refine h7.weak fun S w ha=>⟨?_,?_,?_,?_,?_⟩
  ·exact Yh ha 4 0 _ h4
  ·exact Yh ha 0 0 _ h0
  ·exact Yh ha 1 0 _ h1
  ·exact Yh ha 2 0 _ h2
  ·exact zA.right<|zA.right ha
theorem zgq{t:Ty}{g:List t.D->X->Option (List t.D×(X⊕Y))}(ho:xO σ.ob o=some (.hid t E X Y mX mY g x))(h:Zi P fr ⟨0,[],[]⟩ σ env w):∃u',St fr.we fr.Se (mX x u'::fr.F) fr.G w:=by
 obtain⟨hB,vs,hb⟩:=h;obtain⟨_,h2⟩:=St.unpr<|St.grp.1<|ZS ho hb;have h3:St fr.we fr.Se ([mX x<|(ve<|vs o).headD undef]++(MS vs (yD σ.ob o)++fr.F)) (GS P vs env fr ⟨0,[],[]⟩ σ) w:=h2;exact⟨_,(St.dropM h3).weak fun S w ha=>zA.right<|zA.right ha⟩
theorem zh1(ho:xO σ.ob o=some (.hiy Y mY y))(h:Zi P fr ⟨0,[],[]⟩ σ env w):∃u',St fr.we fr.Se (mY y u'::fr.F) fr.G w:=by
 obtain⟨hB,vs,hb⟩:=h;have h2:=ZS ho hb;have h3:St fr.we fr.Se ([mY y<|(ve<|vs o).headD undef]++(MS vs (yD σ.ob o)++fr.F)) (GS P vs env fr ⟨0,[],[]⟩ σ) w:=h2;exact⟨_,(St.dropM h3).weak fun S w ha=>zA.right<|zA.right ha⟩
end
end
section
section
variable{P:Program}
theorem LV{U:Type}{f:FuncId}{args:Array Value}{Γ:List FF}{val:U->Value}{facts:U->List FF}{ok:U->Prop}(h:Fn P f args Γ val facts ok):Om P f args [] Γ val (fun _=>[]) facts ok:=by
 rintro we Se F G w ⟨h1,h2,h3,S,h4,h5,h6,h7,h8⟩;refine(h w S h5<|zA.left h8).mono ?_;rintro e w' ⟨u,e1,e2,e3,e4⟩;exact⟨u,e1,e2,h1.trans e3,h2,h3,S,h4,fun k hk=>h5 k<|xam e3.size hk,h6,yw.keep e3.to (fun m hm i hi=>e3.block i (yw.lt h7 m hm i hi) trivial) h7,zA.append e4<|zA.keep e3.to<|zA.right h8⟩
theorem Om.to{U V:Type}{f:FuncId}{args:Array Value}{ms:List MF}{Γ:List FF}{val:U->Value}{own:U->List MF}{facts:U->List FF}{ok:U->Prop}{val':V->Value}{own':V->List MF}{facts':V->List FF}{ok':V->Prop}
 (h:Om P f args ms Γ val own facts ok) (g:U->V) (h1:∀u,val u=val' (g u)) (h2:∀u,own u=own' (g u)) (h3:∀u,ok u->ok' (g u)) (h4:∀u,ok u->∀S w,zA S (facts u) w->zA S (facts'<|g u) w):Om P f args ms Γ val' own' facts' ok':=by
 intro we Se F G w hb;refine(h we Se F G w hb).mono ?_;rintro e w' ⟨u,e1,e2,e3⟩;exact⟨g u,by rw[e1,h1],h3 u e2,by rw[<-h2];exact e3.weak fun S w ha=>zA.append (h4 u e2 S w<|zA.left ha)<|zA.right ha⟩
theorem zif{f:FuncId}{s t:Ty}{M:s.D->Option t.D}(hb:Ab P f=true)(h:∀x r v,M x=some r->Fn P f [v].toArray [fV s.rep x v] (fun u:Value=>u) (fun u=>[fV t.rep r u]) (fun _=>True)):y6 P ⟨f,[.d s],[.d t],fun x=>M x.1,0⟩:=by
 refine⟨hb,fun x r hM vs hl=> ?_⟩
 match vs,hl with
 |[v],_=>exact(LV<|h x.1 r v hM).to (fun u=>[u]) (fun _=>rfl) (fun _=>rfl) (fun _ _=>rfl) fun u _ S w ha=>ha
theorem zh7{f:FuncId}{M:Nat->Option Int}(hb:Ab P f=true)(h:∀x r,x<18446744073709551616->M x=some r->Fn P f [.int .u64 (x:Int)].toArray [] (fun _:Unit=> .int .i64 r) (fun _=>[]) (fun _=>VE r)):y6 P ⟨f,[.d .u],[.d .i],fun x=>M x.1,0⟩:=by
 refine⟨hb,fun x r hM vs hl=> ?_⟩
 match vs,hl with
 |[v],_=>
  intro we Se F G w hc;obtain⟨S0,_,hΓ⟩:=hc.ex;obtain⟨hv,hx⟩:=zcE (show(fV eU x.1 v).p S0 w from hΓ.1);have:=LV<|h x.1 r hx hM;rw[<-hv]at this;have h2:Om P f [v].toArray [] [] Yg (fun us=>Zc [RM.d .i] r us) (fun us=>Zb [RM.d .i] r us) (fun us=>us.length=1):=this.to (fun _=>[.int .i64 r]) (fun _=>rfl) (fun _=>rfl) (fun _ _=>rfl) fun u hu S w ha=>⟨xM hu,trivial⟩;exact h2 we Se F G w<|hc.weak fun S w ha=>ha.2
end
end
section
section
variable{P:Program}
theorem QA.of_below{w w':World}(h:RowKit.Below w.heap.size w w'):QA w w':=⟨h.os,h.tape,h.output,h.size,fun k hk _=>h.block k hk⟩
def Tb(xs:List (List Nat))(sep:List Nat):Option (List Nat):=ck (xs.length<=140737488355328)<|ck ((sep.intercalate xs).length<=140737488355328)<|some (sep.intercalate xs)
theorem Hk{S:Nat->Prop}{w:World}:∀{xs:List (List Nat)}{cs:List Value},yu eTx S xs cs w->∃bs:List ByteArray,cs=bs.map Value.string/\bs.map yO=xs
 |[],cs,h=>⟨[],h,rfl⟩
 |x::xs,cs,⟨c,r,h1,h2,h3⟩=>by
  obtain⟨bs,e1,e2⟩:=Hk h3;obtain⟨b,e3,e4,_⟩:=h2;exact⟨b::bs,by rw[h1,e3,e1];rfl,by rw[xbX,e4,e2]⟩
theorem Br{α β:Type}(f:α->β)(s:List α):∀X:List (List α),(s.intercalate X).map f=(s.map f).intercalate (X.map<|List.map f)
 |[]=>by simp[xfG]
 |[x]=>by simp[xfG]
 |x::y::r=>by
  have ih:=Br f s (y::r);simp only[xfG,xbX,List.intersperse_cons_cons,List.flatten_cons,xbg]at ih⊢;rw[ih]
theorem MM(bs:List ByteArray)(s:ByteArray):yO ⟨(Lib.join (bs.map (·.data.toList)) s.data.toList).toArray⟩=(yO s).intercalate (bs.map yO):=by
 show((Lib.join (bs.map (·.data.toList)) s.data.toList).toArray.toList).map xfo=_;rw[List.toList_toArray];unfold Lib.join;rw[Br,xcT];rfl
theorem zbm{f:FuncId}(hb:Ab P f=true)
 (h0:∀(a:Option Addr) (c:Nat) (sep:ByteArray) (w:World),Calls P f #[.slice a 0 c,.string sep] w fun e w'=>e=.returned (.string ⟨#[]⟩)/\w'=w)
 (h1:∀(bk o c:Nat) (xs:List ByteArray) (sep:ByteArray) (w:World),(∀(j:Nat) x,xs[j]? =some x->w.cell? ⟨bk,o+j,none⟩=some (.string x))->bk<w.heap.size->xs.length<=140737488355328->xs.length<=c->(Lib.join (xs.map (·.data.toList)) sep.data.toList).length<=140737488355328->
  Calls P f #[.slice (some ⟨bk,o,none⟩) xs.length c,.string sep] w fun e w'=>e=.returned (.string ⟨(Lib.join (xs.map (·.data.toList)) sep.data.toList).toArray⟩)/\RowKit.Below w.heap.size w w'):
 y6 P ⟨f,[.d (.l .tx),.d .tx],[.d .tx],fun x=>Tb x.1 x.2.1,0⟩:=by
 refine⟨hb,fun x r hM vs hl=> ?_⟩
 match vs,hl with
 |[v,u],_=>
  have hM:Tb x.1 x.2.1=some r:=hM;unfold Tb at hM;obtain⟨k1,hM⟩:=kG hM;obtain⟨k2,hM⟩:=kG hM;have hr:r=xfG (α:=Nat) x.2.1 x.1:=(xdv hM).symm;have key:Fn P f #[v,u] [fV (eS eTx) x.1 v,fV eTx x.2.1 u] (fun _:Unit=> .string ⟨(r.map xeW).toArray⟩) (fun _=>[fV eTx r (.string ⟨(r.map xeW).toArray⟩)]) (fun _=>True):=by
   intro w Se hm hΓ;obtain⟨hv,hu,_⟩:=hΓ;obtain⟨sb,rfl,e2,e3⟩:=GH hu;obtain⟨ao,cap,rfl,hf,hn,h⟩:=xm.1 hv;have fin:∀(t:List UInt8) (w':World),QA w w'->t.map xfo=r->FnQ Se w (fun _:Unit=> .string ⟨(r.map xeW).toArray⟩) (fun _=>[fV eTx r (.string ⟨(r.map xeW).toArray⟩)]) (fun _=>True) (.returned (.string ⟨t.toArray⟩)) w':=by
    intro t w' hx ht;have e5:t=r.map xeW:=by
     rw[<-ht,xcT];conv=>lhs;rw[<-List.map_id t]
     exact xci fun b _=>by simp
    rw[<-e5];refine⟨(),rfl,trivial,hx,Hx ?_ ?_,trivial⟩
    ·unfold yO;simpa using ht
    ·have h6:=qs ⟨t.toArray⟩;have h7:(yO ⟨t.toArray⟩).length=r.length:=by unfold yO;rw[<-ht]
     have h8:r.length<=140737488355328:=by rw[hr];exact k2
     lia
   rcases h with h|⟨b,o,cs,rfl,hs,hd,hg⟩
   ·have h:x.1=([]:List (List Nat)):=h;have hi:r=[]:=by rw[hr,h];rfl
    rw[h];refine(h0 ao cap sb w).mono ?_;rintro e w' ⟨rfl,rfl⟩;exact fin [] w' (yq.refl _ _) hi.symm
   ·obtain⟨bs,e4,e5⟩:=Hk hg;have hc:bs.length=xaI (α:=List Nat) x.1:=by rw[<-e5,xaP]
    have hj:=MM bs sb;rw[e2,e5]at hj;have he:(Lib.join (bs.map (·.data.toList)) sb.data.toList).map xfo=r:=by
     rw[hr,<-hj];unfold yO;simp
    have:=h1 b o cap bs sb w (fun j y hy=>hd.2 j (.string y)<|by rw[e4,xaT,hy];rfl) hd.1 (by rw[hc];exact k1) (by rw[hc];exact hf) (by
     have h9:=congrArg xaI he;rw[xaP]at h9;rw[h9,hr];exact k2)
    rw[hc]at this;refine this.mono ?_;rintro e w' ⟨rfl,hk⟩;exact fin _ w' (QA.of_below hk) he
  exact(LV key).to (fun _=>[.string ⟨(r.map xeW).toArray⟩]) (fun _=>rfl) (fun _=>rfl) (fun _ _=>rfl) fun _ _ S w ha=>ha
end
end
section
set_option maxRecDepth 100000
variable{cs:List VB}{fu:Nat}{s:VB}
def tt:List (Nat×TI):=[(2,⟨.i,.int .i64,8⟩),(3,⟨.i,.int .i64,8⟩),(4,⟨.b,.bool,1⟩),(5,⟨.ch,.int .u8,1⟩),(6,⟨.ch,.int .u8,1⟩),(7,⟨(.p .i (.p .i (.p .b .ch))),.st 4,24⟩),(8,⟨(.p .i (.p .i (.p .b .ch))),.st 4,24⟩),(9,⟨.tx,.str,16⟩),(10,⟨.tx,.str,16⟩),(11,⟨.tx,.str,16⟩),(12,⟨.u,.int .u64,8⟩),(13,⟨(.p .tx .u),.st 2,24⟩),(14,⟨(.p .tx .u),.st 2,24⟩),(22,⟨(.l (.p .b (.l .u))),.sl 30,24⟩),(23,⟨(.l .i),.sl 3,24⟩),(26,⟨.i,.int .i64,8⟩),(28,⟨(.l .u),.sl 54,24⟩),(29,⟨(.p .b (.l .u)),.st 2,32⟩),(30,⟨(.p .b (.l .u)),.st 2,32⟩),(31,⟨(.l (.p (.l (.p .b (.l .u))) .i)),.sl 42,24⟩),(41,⟨(.p (.l (.p .b (.l .u))) .i),.st 2,32⟩),(42,⟨(.p (.l (.p .b (.l .u))) .i),.st 2,32⟩),(53,⟨.u,.int .u64,8⟩),(54,⟨.u,.int .u64,8⟩),(55,⟨(.l (.l (.p .b (.l .u)))),.sl 22,24⟩),(59,⟨(.l (.l (.p (.p .b (.l .u)) (.l .u)))),.sl 60,24⟩),(60,⟨(.l (.p (.p .b (.l .u)) (.l .u))),.sl 78,24⟩),(62,⟨(.p (.l (.p .b (.l .u))) (.l (.p (.p .b (.l .u)) (.l .u)))),.st 2,48⟩),(63,⟨(.p (.l (.p .b (.l .u))) (.l (.p (.p .b (.l .u)) (.l .u)))),.st 2,48⟩),(77,⟨(.p (.p .b (.l .u)) (.l .u)),.st 2,56⟩),(78,⟨(.p (.p .b (.l .u)) (.l .u)),.st 2,56⟩),(138,⟨(.l (.l .i)),.sl 23,24⟩),(169,⟨(.p (.l (.p .b (.l .u))) (.p (.l (.p .b (.l .u))) (.p (.p .b (.l .u)) (.p (.p .b (.l .u)) .b)))),.st 5,120⟩),(170,⟨(.p (.l (.p .b (.l .u))) (.p (.l (.p .b (.l .u))) (.p (.p .b (.l .u)) (.p (.p .b (.l .u)) .b)))),.st 5,120⟩),(171,⟨(.l .tx),.sl 9,24⟩),(218,⟨(.l .ch),.sl 5,24⟩),(251,⟨(.a 4 (.l (.p .b (.l .u)))),.ar 4 22,96⟩),(252,⟨(.a 4 (.l (.p .b (.l .u)))),.ar 4 22,96⟩),(257,⟨.i,.int .i64,8⟩),(285,⟨(.a 3 (.l .i)),.ar 3 23,72⟩),(286,⟨(.a 3 (.l .i)),.ar 3 23,72⟩),(293,⟨.u,.int .u64,8⟩),(313,⟨(.p (.l (.p .b (.l .u))) (.l (.l (.p .b (.l .u))))),.st 2,48⟩),(314,⟨(.p (.l (.p .b (.l .u))) (.l (.l (.p .b (.l .u))))),.st 2,48⟩),(318,⟨(.p (.p (.l (.p .b (.l .u))) (.l (.l (.p .b (.l .u))))) (.l (.l (.p .b (.l .u))))),.st 2,72⟩),(319,⟨(.p (.p (.l (.p .b (.l .u))) (.l (.l (.p .b (.l .u))))) (.l (.l (.p .b (.l .u))))),.st 2,72⟩),(322,⟨(.p (.p .b (.l .u)) (.p (.p .b (.l .u)) (.p .b (.l .u)))),.st 3,96⟩),(323,⟨(.p (.p .b (.l .u)) (.p (.p .b (.l .u)) (.p .b (.l .u)))),.st 3,96⟩),(342,⟨.ch,.int .u8,1⟩),(343,⟨.ch,.int .u8,1⟩)]
def ex:List (Nat×Bool):=[(214,true),(219,false)]
theorem tA{t:TypeId}{ti:TI}{tt:List (Nat×TI)}(h3:Gr Tryz.prog t ti)(k:yZ Tryz.prog tt)(h1:tyB Tryz.prog t=some (ti.ty.rep.agg,ti.ty.n,ti.B,some<|ti.ty.rep.val<|zc ti.ty):=by kernel_rfl)(h2:(xdc 0 ti.B && xdc 0 ti.ty.n)=true:=by kernel_rfl):yZ Tryz.prog ((t,ti)::tt):=yZ.add h1 h2 h3 k
theorem Mm:yZ Tryz.prog tt:=tA (id (by kernel_rfl:Tryz.prog.underlying 2=some (.int .i64)))<|
 tA (id (by kernel_rfl:Tryz.prog.underlying 3=some (.int .i64)))<|
 tA (id (by kernel_rfl:Tryz.prog.underlying 4=some .bool))<|
 tA (id (by kernel_rfl:Tryz.prog.underlying 5=some (.int .u8)))<|
 tA (id (by kernel_rfl:Tryz.prog.underlying 6=some (.int .u8)))<|
 tA ⟨rfl,by kernel_rfl⟩<|
 tA ⟨rfl,by kernel_rfl⟩<|
 tA (id (by kernel_rfl:Tryz.prog.underlying 9=some .string))<|
 tA (id (by kernel_rfl:Tryz.prog.underlying 10=some .string))<|
 tA (id (by kernel_rfl:Tryz.prog.underlying 11=some .string))<|
 tA (id (by kernel_rfl:Tryz.prog.underlying 12=some (.int .u64)))<|
 tA ⟨rfl,by kernel_rfl⟩<|
 tA ⟨rfl,by kernel_rfl⟩<|
 tA ⟨by kernel_rfl,_,rfl⟩<|
 tA ⟨by kernel_rfl,_,rfl⟩<|
 tA (id (by kernel_rfl:Tryz.prog.underlying 26=some (.int .i64)))<|
 tA ⟨by kernel_rfl,_,rfl⟩<|
 tA ⟨rfl,by kernel_rfl⟩<|
 tA ⟨rfl,by kernel_rfl⟩<|
 tA ⟨by kernel_rfl,_,rfl⟩<|
 tA ⟨rfl,by kernel_rfl⟩<|
 tA ⟨rfl,by kernel_rfl⟩<|
 tA (id (by kernel_rfl:Tryz.prog.underlying 53=some (.int .u64)))<|
 tA (id (by kernel_rfl:Tryz.prog.underlying 54=some (.int .u64)))<|
 tA ⟨by kernel_rfl,_,rfl⟩<|
 tA ⟨by kernel_rfl,_,rfl⟩<|
 tA ⟨by kernel_rfl,_,rfl⟩<|
 tA ⟨rfl,by kernel_rfl⟩<|
 tA ⟨rfl,by kernel_rfl⟩<|
 tA ⟨rfl,by kernel_rfl⟩<|
 tA ⟨rfl,by kernel_rfl⟩<|
 tA ⟨by kernel_rfl,_,rfl⟩<|
 tA ⟨rfl,by kernel_rfl⟩<|
 tA ⟨rfl,by kernel_rfl⟩<|
 tA ⟨by kernel_rfl,_,rfl⟩<|
 tA ⟨by kernel_rfl,_,rfl⟩<|
 tA ⟨rfl,by kernel_rfl⟩<|
 tA ⟨rfl,by kernel_rfl⟩<|
 tA (id (by kernel_rfl:Tryz.prog.underlying 257=some (.int .i64)))<|
 tA ⟨rfl,by kernel_rfl⟩<|
 tA ⟨rfl,by kernel_rfl⟩<|
 tA (id (by kernel_rfl:Tryz.prog.underlying 293=some (.int .u64)))<|
 tA ⟨rfl,by kernel_rfl⟩<|
 tA ⟨rfl,by kernel_rfl⟩<|
 tA ⟨rfl,by kernel_rfl⟩<|
 tA ⟨rfl,by kernel_rfl⟩<|
 tA ⟨rfl,by kernel_rfl⟩<|
 tA ⟨rfl,by kernel_rfl⟩<|
 tA (id (by kernel_rfl:Tryz.prog.underlying 342=some (.int .u8)))<|
 tA (id (by kernel_rfl:Tryz.prog.underlying 343=some (.int .u8)))<|
 yZ.nil
theorem Mg:jN Tryz.prog tt:=jN.of<|by kernel_rfl
theorem M6:cc Tryz.prog ex:=cc.add Tryz.func214 (by kernel_rfl) (by kernel_rfl) (by kernel_rfl) (fun _=>by kernel_rfl) (fun h=>by cases h)<|
 cc.add Tryz.func219 (by kernel_rfl) (by kernel_rfl) (by kernel_rfl) (fun h=>by cases h) (fun _=>by kernel_rfl)<|
 cc.nil
theorem Mh:Tryz.prog.follows .mixedOrders=true:=by kernel_rfl
theorem sg(an:An){fn:Func}(hf:Tryz.prog.funcs[s.f]? =some fn)(hC:∀s∈cs,y6 Tryz.prog s)(hb:Ab Tryz.prog s.f=true)(hM:∀x,MZ ⟨tt,cs,an,fu,ex,[],[],[]⟩ fn s.dom s.cod x=s.M x)(hk:s.bk=0:=by rfl):y6 Tryz.prog s:=
 sgP Mh Mm Mg M6 rfl an hf hC hb hk hM
theorem sq(fu:Nat)(an:An){fn:Func}(hf:Tryz.prog.funcs[s.f]? =some fn)(hC:∀s∈cs,y6 Tryz.prog s)(hb:Ab Tryz.prog s.f=true:=by kernel_rfl)(hM:∀x,MZ ⟨tt,cs,an,fu,ex,[],[],[]⟩ fn s.dom s.cod x=s.M x:=by intro x;kernel_rfl)(hk:s.bk=0:=by rfl):y6 Tryz.prog s:=sg an hf hC hb hM hk
abbrev q1(S:List (Nat×TF))(j:Nat)(T:List (Nat×TF)):Lp:=⟨⟨S,[]⟩,⟨[],[(.x j,⟨T,[]⟩)]⟩⟩
abbrev ym(s:VB):Prop:=y6 Tryz.prog s
abbrev wX:An:=⟨[],[],[],[],[],[]⟩
abbrev xc:Ty:=.l (.p .b (.l .u))
abbrev zU:Ty:=.p .b (.l .u)
abbrev Sd:Ty:=.l (.l (.p .b (.l .u)))
abbrev jU:Ty:=.l .u
abbrev yP:Ty:=.l .i
theorem Sv(an:An){fn:Func}(hf:Tryz.prog.funcs[s.f]? =some fn)(hC:∀s∈cs,y6 Tryz.prog s)(hb:Ab Tryz.prog s.f=true)(hM:∀pn x,zeh ⟨tt,cs,an,fu,ex,[],[],[]⟩ fn s.dom s.cod s.bk pn x=s.M x):y6 Tryz.prog s:=
 sgG Mh Mm Mg M6 rfl an hf hC hb hM
end
section
set_option maxRecDepth 100000
section
variable(fu:Nat)
def Uq(fu:Nat)(b:List Nat):(Int->Option Int)->Int->Option Int:=fun L a=>if 0<a then ze (a-1) fun d=>zG d (b.length) fun e=>nm (b.getD e 0) fun f=>if(f:Int)=(((0:Nat):Nat):Int)then ze (a-1) fun g=>L g else some a else some a
def ZC(a:List Nat):Option (List Nat):=bd (zg (Uq fu a) fu<|(a.length:Int)) fun e=>jM e fun b=>ck (b<=a.length)<|nm (a.take b) fun d=>ck (((([]:List Nat)).length+d.length)*8<=140737488355328)<|nm ((([]:List Nat))++d) fun f=>some f
def xF(b:Zr):Option Zr:=bd (ZC fu b.2) fun a=>if b.1=true then if 0<(a.length:Int)then some (true,a)else some (false,a)else some (false,a)
def px(a:Int):Option Zr:=if a<0 then ze (0-a) fun b=>nm (gI b) fun d=>bd (xF fu (true,[d])) fun e=>some e else nm (gI a) fun f=>bd (xF fu (false,[f])) fun g=>some g
def ZX(b:Zr):Option Int:=bd (xF fu b) fun a=>if a.1=true then some (-1:Int)else if 0<(a.2.length:Int)then some (1:Int)else some (0:Int)
def U9(b:List Zr):(Int->Option Int)->Int->Option Int:=fun L a=>if 0<a then ze (a-1) fun d=>zG d (b.length) fun e=>nm (b.getD e (false,[])) fun f=>bd (ZX fu f) fun g=>if g=0 then ze (a-1) fun h=>L h else some a else some a
def KK(d:List Zr)(f:Int):(((List Zr)×Int)->Option (List Zr))->((List Zr)×Int)->Option (List Zr):=fun L (a,b)=>if b<f then zG b (d.length) fun g=>nm (d.getD g (false,[])) fun h=>bd (xF fu h) fun e=>ck ((a.length+([e]).length)*32<=140737488355328)<|nm (a++([e])) fun i=>ze (b+1) fun j=>L (i,j)else some a
def kN(a:List Zr):Option (List Zr):=bd (zg (U9 fu a) fu<|(a.length:Int)) fun b=>bd (zg (KK fu a b) fu<|([],(0:Int))) fun d=>some d
def EH(a:List Int):(((List Zr)×Int)->Option (List Zr))->((List Zr)×Int)->Option (List Zr):=fun L (b,d)=>if d<(a.length:Int)then zG d (a.length) fun f=>nm (a.getD f 0) fun g=>bd (px fu g) fun e=>ck ((b.length+([e]).length)*32<=140737488355328)<|nm (b++([e])) fun h=>ze (d+1) fun i=>L (h,i)else some b
def cJ(a:List Int):Option (List Zr):=bd (zg (EH fu a) fu<|([],(0:Int))) fun b=>bd (kN fu b) fun d=>some d
def Um(fu:Nat)(b:List Nat)(d:List Nat):(Int->Option (Unit⊕Unit))->Int->Option (Unit⊕Unit):=fun L a=>if a<(b.length:Int)then zG a (b.length) fun e=>nm (b.getD e 0) fun f=>zG a (d.length) fun g=>nm (d.getD g 0) fun h=>if(f:Int)=(h:Int)then ze (a+1) fun i=>L i else some (.inr ())else some (.inl ())
def Wy(a:List Nat)(b:List Nat):Option Bool:=if(a.length:Int)=(b.length:Int)then bd (zg (Um fu a b) fu (0:Int)) fun d=>match d with
 |.inl _=>some true
 |.inr _=>some false else some false
def ZH(a:Zr)(b:Zr):Option Bool:=nm (a.1==b.1) fun d=>if d then bd (Wy fu a.2 b.2) fun e=>some e else some false
def U7(b:List Zr)(d:List Zr):(Int->Option (Unit⊕Unit))->Int->Option (Unit⊕Unit):=fun L a=>if a<(b.length:Int)then zG a (b.length) fun e=>nm (b.getD e (false,[])) fun f=>zG a (d.length) fun g=>nm (d.getD g (false,[])) fun h=>bd (ZH fu f h) fun i=>if !i then some (.inr ())else ze (a+1) fun j=>L j else some (.inl ())
def kM(a:List Zr)(b:List Zr):Option Bool:=if(a.length:Int)=(b.length:Int)then bd (zg (U7 fu a b) fu (0:Int)) fun d=>match d with
 |.inl _=>some true
 |.inr _=>some false else some false
def KS(b:List ((List Zr)×Int))(d:List ((List Zr)×Int)):(Int->Option (Unit⊕Unit))->Int->Option (Unit⊕Unit):=fun L a=>if a<(b.length:Int)then zG a (b.length) fun e=>nm (b.getD e ([],0)) fun f=>zG a (d.length) fun g=>nm (d.getD g ([],0)) fun h=>if f.2=h.2 then zG a (b.length) fun i=>nm (b.getD i ([],0)) fun j=>zG a (d.length) fun k=>nm (d.getD k ([],0)) fun l=>bd (kM fu j.1 l.1) fun m=>if !m then some (.inr ())else ze (a+1) fun o=>L o else some (.inr ())else some (.inl ())
def ZP(a:List ((List Zr)×Int))(b:List ((List Zr)×Int)):Option Bool:=if(a.length:Int)=(b.length:Int)then bd (zg (KS fu a b) fu (0:Int)) fun d=>match d with
 |.inl _=>some true
 |.inr _=>some false else some false
def Xt(fu:Nat)(a:List Nat)(b:Int):Option Nat:=if b<(a.length:Int)then zG b (a.length) fun d=>nm (a.getD d 0) fun e=>some e else some (0:Nat)
def U2(b:Int)(a:Nat)(f:List Nat)(g:List Nat):Option (Nat×Nat):=bd (Xt fu f b) fun d=>bd (Xt fu g b) fun e=>ck (a<=1)<|nm ((d+e+a)%18446744073709551616) fun h=>nm ((d+e+a)/18446744073709551616) fun i=>some (h,i)
def Kq(fu:Nat)(e:Int->Nat->Option (Nat×Nat))(f:List Nat):((Nat×Int×(List Nat))->Option (Nat×(List Nat)))->(Nat×Int×(List Nat))->Option (Nat×(List Nat)):=fun L (d,a,b)=>if a<(f.length:Int)then bd (e a d) fun(g,h)=>zG a (b.length) fun i=>nm (b.set i g) fun j=>ze (a+1) fun k=>L (h,k,j)else some (d,b)
def va(d:Int)(e:Int->Nat->Option (Nat×Nat)):Option ((List Nat)×Nat):=jM d fun a=>ck (8*a<=281474976710656)<|nm (xaf a 0) fun b=>bd (zg (Kq fu e b) fu<|((0:Nat),(0:Int),b)) fun(f,g)=>some (g,f)
def bC(fu:Nat):((List Nat)->Option (List Nat))->(List Nat)->Option (List Nat):=fun L a=>if 0<(a.length:Int)then ze (((a.length:Int))-1) fun d=>zG d (a.length) fun e=>nm (a.getD e 0) fun f=>if(f:Int)=(((0:Nat):Nat):Int)then ze (((a.length:Int))-1) fun g=>jM g fun b=>ck (b<=a.length)<|nm (a.take b) fun h=>L h else some a else some a
def xv(a:List Nat):Option (List Nat):=bd (zg (bC fu) fu a) fun b=>some b
def ZI(fu:Nat):((List Nat)->Option (List Nat))->(List Nat)->Option (List Nat):=fun L a=>if 0<(a.length:Int)then ze (((a.length:Int))-1) fun d=>zG d (a.length) fun e=>nm ((a.getD e 0)) fun f=>if(f:Int)=(((0:Nat):Nat):Int)then ze (((a.length:Int))-1) fun g=>jM g fun b=>ck (b<=a.length)<|nm (a.take b) fun h=>L h else some a else some a
def yL(a:List Nat):Option (List Nat):=bd (zg (ZI fu) fu a) fun b=>some b
def kJ(a:List Nat)(b:List Nat):Option (List Nat):=nm (max ((a.length:Int))<|(b.length:Int)) fun f=>bd (va fu f<|fun zx0 zx1=>U2 fu zx0 zx1 a b) fun(d,e)=>ck ((d.length+([e]).length)*8<=140737488355328)<|nm (d++([e])) fun g=>bd (yL fu g) fun h=>some h
def uD(fu:Nat)(a:Int):Option Bool:=if a=a then some false else some true
def jJ(a:Int)(b:Int):Option Int:=bd (uD fu a) fun e=>bd (uD fu b) fun d=>if e then if d then some (0:Int)else some (-1:Int)else if d then some (1:Int)else if a<b then some (-1:Int)else if b<a then some (1:Int)else some (0:Int)
def jg(fu:Nat)(a:Nat):Option Bool:=if(a:Int)=(a:Int)then some false else some true
def vS(a:Nat)(b:Nat):Option Int:=bd (jg fu a) fun e=>bd (jg fu b) fun d=>if e then if d then some (0:Int)else some (-1:Int)else if d then some (1:Int)else if(a:Int)<(b:Int)then some (-1:Int)else if(b:Int)<(a:Int)then some (1:Int)else some (0:Int)
def Ub(b:List Nat)(d:List Nat):(Int->Option (Unit⊕Int))->Int->Option (Unit⊕Int):=fun L a=>if 0<=a then zG a (b.length) fun e=>nm (b.getD e 0) fun f=>zG a (d.length) fun g=>nm (d.getD g 0) fun h=>if(f:Int)=(h:Int)then ze (a-1) fun i=>L i else zG a (b.length) fun j=>nm (b.getD j 0) fun k=>zG a (d.length) fun l=>nm (d.getD l 0) fun m=>bd (vS fu k m) fun o=>some (.inr o)else some (.inl ())
def WY(d:List Nat)(e:List Nat):Option Int:=bd (xv fu d) fun a=>bd (xv fu e) fun b=>if(a.length:Int)=(b.length:Int)then ze (((a.length:Int))-1) fun f=>bd (zg (Ub fu a b) fu f) fun g=>match g with
 |.inl _=>some (0:Int)
 |.inr h=>some h else bd (jJ fu ((a.length:Int))<|(b.length:Int)) fun i=>some i
def xD(fu:Nat)(a:List Nat):Option (List Nat):=ck (a.length<=17592186044416)<|some a
def uU(a:List Nat):Option (List Nat):=bd (xv fu a) fun b=>bd (xD fu b) fun d=>some d
def KE(fu:Nat)(b:Int)(a1:Nat)(a:List Nat)(d:Int):Option (Nat×Nat):=zG b (a.length) fun g=>nm (a.getD g 0) fun h=>ck ((64:Int)≠0)<|nm (xcc d (64:Int)) fun e=>ck (0<=e)<|nm (h*2^(min (e:Int).toNat 64)%18446744073709551616) fun i=>nm (i|||a1) fun j=>zG b (a.length) fun k=>nm (a.getD k 0) fun l=>nm (l/2^(min (((1:Nat)):Int).toNat 64)) fun m=>ck ((64:Int)≠0)<|nm (xcc d (64:Int)) fun o=>ze ((63:Int)-o) fun f=>ck (0<=f)<|nm (m/2^(min (f:Int).toNat 64)) fun p=>some (j,p)
def uZ(fu:Nat)(a:List Nat)(e:Int):Option (List Nat):=jM e fun b=>ck (8*b<=281474976710656)<|nm (xaf b 0) fun d=>ck ((d.length+a.length)*8<=140737488355328)<|nm (d++a) fun f=>some f
def Yx(b:List Nat)(a:Int):Option ((List Nat)×Int):=if a<0 then some (([],(1:Int)))else if 262144<a then some (([],(1:Int)))else bd (va fu ((b.length:Int))<|fun zx0 zx1=>KE fu zx0 zx1 b a) fun(d,e)=>ck ((d.length+([e]).length)*8<=140737488355328)<|nm (d++([e])) fun f=>ck ((64:Int)≠0)<|ze (xdd a (64:Int)) fun g=>bd (uZ fu f g) fun h=>bd (yL fu h) fun i=>some<|(i,(0:Int))
def Uf(d:Int)(m:Nat)(a:List Nat)(b:Int):Option (Nat×Nat):=zG d (a.length) fun f=>nm (a.getD f 0) fun g=>ck (0<=b)<|nm (g/2^(min (b:Int).toNat 64)) fun h=>ze (d+1) fun i=>bd (Xt fu a i) fun j=>nm (j*2^(min (((1:Nat)):Int).toNat 64)%18446744073709551616) fun k=>ze ((63:Int)-b) fun e=>ck (0<=e)<|nm (k*2^(min (e:Int).toNat 64)%18446744073709551616) fun m4=>nm (h|||m4) fun l=>some<|(l,(0:Nat))
def QY(a:List Nat)(f:Int):Option (List Nat):=nm (max f (0:Int)) fun b=>ck ((64:Int)≠0)<|ze (xdd b (64:Int)) fun g=>if(a.length:Int)<=g then some []else ck ((64:Int)≠0)<|ze (xdd b (64:Int)) fun h=>jM h fun d=>ck (d<=a.length)<|nm (a.drop d) fun e=>ck ((64:Int)≠0)<|nm (xcc b (64:Int)) fun i=>bd (va fu ((e.length:Int))<|fun zx0 zx1=>Uf fu zx0 zx1 e i) fun(j,l)=>bd (yL fu j) fun k=>some k
def xw(fu:Nat)(a:Nat):Option Int:=bd ((if 4294967296<=(a:Int)then nm (a/2^(min (32:Int).toNat 64)) fun g=>some (g,32)else some (a,0):Option (Nat×Int))) fun(b,e)=>bd ((if 65536<=(b:Int)then nm (b/2^(min (16:Int).toNat 64)) fun h=>ze (e+16) fun i=>some (h,i)else some (b,e):Option (Nat×Int))) fun(d,f)=>if 256<=(d:Int)then nm (d/2^(min (8:Int).toNat 64)) fun j=>ze (f+8) fun k=>nm (j%256) fun l=>nm (xeZ l) fun m=>ze (k+((m:Int))) fun o=>some o else nm (d%256) fun p=>nm (xeZ p) fun q=>ze (f+((q:Int))) fun r=>some r
def xh(a:Nat):Option Int:=bd (xw fu a) fun b=>ze ((64:Int)-b) fun d=>some d
def qE(fu:Nat)(l:Nat)(m:Nat)(g:Nat):((Nat×Nat)->Option Nat)->(Nat×Nat)->Option Nat:=fun L (a,h)=>if(((4294967296:Nat):Nat):Int)<=(a:Int)then nm ((a+18446744073709551616-((1:Nat)))%18446744073709551616) fun b=>nm ((h+l)%18446744073709551616) fun d=>if(((4294967296:Nat):Nat):Int)<=(d:Int)then some b else L (b,d)else nm ((a*m)%18446744073709551616) fun i=>nm ((((4294967296:Nat))*h)%18446744073709551616) fun j=>nm ((j+g)%18446744073709551616) fun k=>if(k:Int)<(i:Int)then nm ((a+18446744073709551616-((1:Nat)))%18446744073709551616) fun e=>nm ((h+l)%18446744073709551616) fun f=>if(((4294967296:Nat):Nat):Int)<=(f:Int)then some e else L (e,f)else some a
def qA(fu:Nat)(k:Nat)(l:Nat)(f:Nat):((Nat×Nat)->Option Nat)->(Nat×Nat)->Option Nat:=fun L (g,a)=>if(((4294967296:Nat):Nat):Int)<=(a:Int)then nm ((a+18446744073709551616-((1:Nat)))%18446744073709551616) fun b=>nm ((g+k)%18446744073709551616) fun m32=>if(((4294967296:Nat):Nat):Int)<=(m32:Int)then some b else L (m32,b)else nm ((a*l)%18446744073709551616) fun h=>nm ((((4294967296:Nat))*g)%18446744073709551616) fun i=>nm ((i+f)%18446744073709551616) fun j=>if(j:Int)<(h:Int)then nm ((a+18446744073709551616-((1:Nat)))%18446744073709551616) fun d=>nm ((g+k)%18446744073709551616) fun e=>if(((4294967296:Nat):Nat):Int)<=(e:Int)then some d else L (e,d)else some a
def qg(o:Nat)(l:Nat)(a:Nat):Option (Nat×Nat):=if(a:Int)=(((0:Nat):Nat):Int)then none else if(a:Int)<=(o:Int)then none else if(o:Int)=(((0:Nat):Nat):Int)then ck (a≠0)<|nm (l/a) fun J=>ck (a≠0)<|nm (l%a) fun K=>some (J,K)else bd (xh fu a) fun M=>nm (gI M) fun f=>nm (a*2^(min (f:Int).toNat 64)%18446744073709551616) fun m=>nm (m/2^(min (((32:Nat)):Int).toNat 64)) fun b=>nm (m &&& ((4294967295:Nat))) fun G=>nm (o*2^(min (f:Int).toNat 64)%18446744073709551616) fun N=>nm ((((64:Nat))+18446744073709551616-f)%18446744073709551616) fun O=>nm (l/2^(min (O:Int).toNat 64)) fun m9=>nm (N|||m9) fun d=>nm (l*2^(min (f:Int).toNat 64)%18446744073709551616) fun g=>nm (g/2^(min (((32:Nat)):Int).toNat 64)) fun h=>nm (g &&& ((4294967295:Nat))) fun i=>ck (b≠0)<|nm (d/b) fun j=>nm ((j*b)%18446744073709551616) fun p=>nm ((d+18446744073709551616-p)%18446744073709551616) fun q=>bd (zg (qE fu b G h) fu (j,q)) fun H=>nm ((d*((4294967296:Nat)))%18446744073709551616) fun r=>nm ((r+h)%18446744073709551616) fun s=>nm ((H*m)%18446744073709551616) fun t=>nm ((s+18446744073709551616-t)%18446744073709551616) fun e=>ck (b≠0)<|nm (e/b) fun k=>nm ((k*b)%18446744073709551616) fun u=>nm ((e+18446744073709551616-u)%18446744073709551616) fun v=>bd (zg (qA fu b G i) fu (v,k)) fun I=>nm ((H*((4294967296:Nat)))%18446744073709551616) fun w=>nm ((w+I)%18446744073709551616) fun x=>nm ((e*((4294967296:Nat)))%18446744073709551616) fun y=>nm ((y+i)%18446744073709551616) fun A=>nm ((I*m)%18446744073709551616) fun B=>nm ((A+18446744073709551616-B)%18446744073709551616) fun C=>nm (C/2^(min (f:Int).toNat 64)) fun E=>some (x,E)
def vN(fu:Nat)(a:Nat)(b:Nat):Option (Nat×Nat):=nm (a &&& ((4294967295:Nat))) fun l=>nm (a/2^(min (((32:Nat)):Int).toNat 64)) fun m=>nm (b &&& ((4294967295:Nat))) fun o=>nm (b/2^(min (((32:Nat)):Int).toNat 64)) fun p=>nm ((l*o)%18446744073709551616) fun r=>nm ((m*o)%18446744073709551616) fun s=>nm (r/2^(min (((32:Nat)):Int).toNat 64)) fun t=>nm ((s+t)%18446744073709551616) fun q=>nm (q &&& ((4294967295:Nat))) fun u=>nm (q/2^(min (((32:Nat)):Int).toNat 64)) fun d=>nm ((l*p)%18446744073709551616) fun e=>nm ((u+e)%18446744073709551616) fun f=>nm ((m*p)%18446744073709551616) fun g=>nm ((g+d)%18446744073709551616) fun h=>nm (f/2^(min (((32:Nat)):Int).toNat 64)) fun i=>nm ((h+i)%18446744073709551616) fun j=>nm ((a*b)%18446744073709551616) fun k=>some (j,k)
def QF(i:Nat)(d:Nat)(j:Nat):((Nat×Nat)->Option Nat)->(Nat×Nat)->Option Nat:=fun L (b,a)=>bd (vN fu b j) fun(f,k)=>if(f:Int)<(a:Int)then some b else if(f:Int)=(a:Int)then if(k:Int)<=(i:Int)then some b else nm ((b+18446744073709551616-((1:Nat)))%18446744073709551616) fun g=>ck ((0:Nat)<=1)<|nm ((a+d+((0:Nat)))%18446744073709551616) fun l=>nm ((a+d+((0:Nat)))/18446744073709551616) fun m=>if(((0:Nat):Nat):Int)<(m:Int)then some g else L (g,l)else nm ((b+18446744073709551616-((1:Nat)))%18446744073709551616) fun h=>ck ((0:Nat)<=1)<|nm ((a+d+((0:Nat)))%18446744073709551616) fun o=>nm ((a+d+((0:Nat)))/18446744073709551616) fun e=>if(((0:Nat):Nat):Int)<(e:Int)then some h else L (h,o)
def VR(b:Nat)(d:Nat)(e:Nat)(a:Nat)(f:Nat):Option Nat:=if(a:Int)<=(b:Int)then some (18446744073709551615:Nat)else bd (qg fu b d a) fun(g,h)=>bd (zg (QF fu e a f) fu (g,h)) fun i=>some i
def ae(b:Int)(a:Nat)(f:List Nat)(g:List Nat):Option (Nat×Nat):=bd (Xt fu f b) fun d=>bd (Xt fu g b) fun e=>ck (a<=1)<|nm ((d+18446744073709551616-e-a)%18446744073709551616) fun h=>nm (if d<e+a then 1 else 0) fun i=>some (h,i)
def W1(a:List Nat)(b:List Nat):Option ((List Nat)×Int):=nm (max ((a.length:Int))<|(b.length:Int)) fun d=>bd (va fu d<|fun zx0 zx1=>ae fu zx0 zx1 a b) fun(e,f)=>if(((0:Nat):Nat):Int)<(f:Int)then some (([],(1:Int)))else bd (yL fu e) fun g=>some<|(g,(0:Int))
def YA(a:List Nat)(b:List Nat):Option (List Nat):=bd (W1 fu a b) fun(d,e)=>some d
def UQ(e:Int)(a:Nat)(b:List Nat)(f:Nat):Option (Nat×Nat):=zG e (b.length) fun g=>nm (b.getD g 0) fun h=>bd (vN fu h f) fun(i,d)=>ck ((0:Nat)<=1)<|nm ((d+a+((0:Nat)))%18446744073709551616) fun j=>nm ((d+a+((0:Nat)))/18446744073709551616) fun k=>nm ((i+k)%18446744073709551616) fun l=>some (j,l)
def W3(a:List Nat)(e:Nat):Option (List Nat):=bd (va fu ((a.length:Int))<|fun zx0 zx1=>UQ fu zx0 zx1 a e) fun(b,d)=>ck ((b.length+([d]).length)*8<=140737488355328)<|nm (b++([d])) fun f=>some f
def QJ(d:List Nat)(f:Nat):((Nat×Int×(List Nat))->Option (Nat×(List Nat)))->(Nat×Int×(List Nat))->Option (Nat×(List Nat)):=fun L (e,a,b)=>if 0<=a then zG a (d.length) fun g=>nm (d.getD g 0) fun h=>bd (qg fu e h f) fun(i,j)=>zG a (b.length) fun k=>nm (b.set k i) fun l=>ze (a-1) fun m=>L (j,m,l)else some (e,b)
def Xp(a:List Nat)(d:Nat):Option ((List Nat)×Nat):=jM ((a.length:Int)) fun b=>ck (8*b<=281474976710656)<|nm (xaf b 0) fun e=>ze (((a.length:Int))-1) fun f=>bd (zg (QJ fu a d) fu<|((0:Nat),f,e)) fun(g,h)=>bd (yL fu h) fun i=>some (i,g)
def U5(b:List Nat):((Int×Int×Nat×(List Nat))->Option (Int×Int×Nat×(List Nat)))->(Int×Int×Nat×(List Nat))->Option (Int×Int×Nat×(List Nat)):=fun L (g,h,d,a)=>bd (W3 fu b d) fun e=>bd (WY fu e a) fun f=>if 0<f then nm ((d+18446744073709551616-((1:Nat)))%18446744073709551616) fun i=>L (g,h,i,a)else some (g,h,d,a)
def Y3(O:Int)(e:List Nat):(((List Nat)×Int×(List Nat)×(List Nat))->Option ((List Nat)×(List Nat)))->((List Nat)×Int×(List Nat)×(List Nat))->Option ((List Nat)×(List Nat)):=fun L (b,d,a,f)=>if 0<=d then ze (d+((e.length:Int))) fun p=>zG p (a.length) fun P=>nm ((a.getD P 0)) fun Q=>ze (d+((e.length:Int))) fun q=>ze (q-1) fun r=>zG r (a.length) fun R=>nm ((a.getD R 0)) fun S=>ze (d+((e.length:Int))) fun s=>ze (s-2) fun t=>zG t (a.length) fun U=>nm ((a.getD U 0)) fun V=>ze (((e.length:Int))-1) fun u=>zG u (b.length) fun W=>nm (b.getD W 0) fun X=>ze (((e.length:Int))-2) fun v=>zG v (b.length) fun Y=>nm (b.getD Y 0) fun Z=>bd (VR fu Q S V X Z) fun m5=>ze (d+((e.length:Int))) fun w=>ze (w+1) fun x=>jM d fun g=>jM x fun h=>ck (g<=h/\h<=a.length)<|nm (xdt (h-g)<|xdA g a) fun j=>ck (((([]:List Nat)).length+j.length)*8<=140737488355328)<|nm ((([]:List Nat))++j) fun y=>bd (zg (U5 fu b) fu<|(O,(e.length:Int),m5,y)) fun(i4,M,N,A)=>zG d (f.length) fun B=>nm (f.set B N) fun C=>jM d fun i=>ck (i<=a.length)<|bd (W3 fu b N) fun E=>bd (YA fu A E) fun k=>ze (M+1) fun G=>jM G fun l=>ck ((k.length+l)*8<=140737488355328)<|nm (k++xaf l 0) fun m=>ze (M+1) fun H=>jM H fun o=>ck (o<=m.length)<|nm (m.take o) fun I=>nm (bu i (a.length-i) a I) fun J=>ze (d-1) fun K=>L (b,K,J,C)else some (a,f)
def Q0(p:List Nat)(q:List Nat):Option ((List Nat)×(List Nat)×Int):=bd (xv fu p) fun b=>bd (xv fu q) fun a=>bd ((if(a.length:Int)=0 then some true else some false:Option Bool)) fun r=>if r then some (([],[],(3:Int)))else bd ((bd (WY fu b a) fun s=>if s<0 then some true else some false:Option Bool)) fun t=>if t then bd (uU fu b) fun u=>some (([],u,(0:Int)))else if(a.length:Int)=1 then zG 0 (a.length) fun v=>nm (a.getD v 0) fun w=>bd (Xp fu b w) fun(x,y)=>bd (yL fu [y]) fun A=>some ((x,A,(0:Int)))else ze (((a.length:Int))-1) fun B=>zG B (a.length) fun C=>nm (a.getD C 0) fun E=>bd (xh fu E) fun d=>bd (Yx fu a d) fun(e,K)=>bd (Yx fu b d) fun(f,M)=>ze (((b.length:Int))+1) fun G=>ze (G-((f.length:Int))) fun H=>jM H fun k=>ck ((f.length+k)*8<=140737488355328)<|nm (f++xaf k 0) fun l=>ze (((l.length:Int))-((e.length:Int))) fun I=>jM I fun m=>ck (8*m<=281474976710656)<|nm (xaf m 0) fun o=>ze (((o.length:Int))-1) fun J=>bd (zg (Y3 fu d e) fu (e,J,l,o)) fun(g,h)=>bd (yL fu h) fun i=>bd (QY fu g d) fun j=>some<|(i,j,(0:Int))
def yR(b:Bool)(d:List Nat):Option Zr:=bd (uU fu d) fun a=>if b then if 0<(a.length:Int)then some (true,a)else some (false,a)else some (false,a)
def Yo(b:Zr)(d:Zr):Option (Zr×Zr×Int):=bd (Q0 fu b.2 d.2) fun(e,a,f)=>if f=0 then bd ((if b.1=true then if 0<(a.length:Int)then bd (kJ fu e [(1:Nat)]) fun g=>bd (W1 fu d.2 a) fun(h,o)=>some (g,h)else some (e,a)else some (e,a):Option ((List Nat)×(List Nat)))) fun(i,j)=>nm (!(b.1==d.1)) fun k=>bd (yR fu k i) fun l=>bd (yR fu false j) fun m=>some ((l,m,(0:Int)))else some (((false,[]),(false,[]),f))
def qb(a:Zr):Option Zr:=bd (yR fu a.1 a.2) fun b=>some b
def xu(b:Zr):Option Int:=bd (qb fu b) fun a=>if a.1=true then ze ((0:Int)-2) fun d=>ze (d+1) fun e=>some e else if 0<(a.2.length:Int)then ze ((0:Int)+1) fun f=>some f else some (0:Int)
def jh(b:Zr)(d:Zr):Option (Zr×Int):=bd (Yo fu b d) fun(e,f,a)=>bd ((if a=0 then some false else some true:Option Bool)) fun g=>if g then some (((false,[]),a))else bd (xu fu f) fun h=>if h=0 then some ((e,(0:Int)))else some (((false,[]),(4:Int)))
def W7(fu:Nat)(d:Int)(i:List Nat)(j:List Nat)(k:Int)(e:List Nat):((Nat×Int×(List Nat)×(List Nat))->Option (List Nat))->(Nat×Int×(List Nat)×(List Nat))->Option (List Nat):=fun L (f,a,b,g)=>bd ((if a<(e.length:Int)then some ((i,d,j,k,d,(e.length:Int),true))else some ((i,d,j,k,d,(e.length:Int),false)):Option ((List Nat)×Int×(List Nat)×Int×Int×Int×Bool))) fun(y,l,A,B,C,E,p)=>if p then zG a (g.length) fun q=>nm ((g.getD q 0)) fun m=>ze (l+a) fun r=>ze (l+a) fun s=>zG s (b.length) fun t=>nm ((b.getD t 0)) fun o=>ck (f<=1)<|nm ((o+m+f)%18446744073709551616) fun u=>nm ((o+m+f)/18446744073709551616) fun v=>zG r (b.length) fun w=>nm (b.set w u) fun h=>ze (a+1) fun x=>L (v,x,h,g)else some b
def K5(f:List Nat)(a:List Nat):((Int×(List Nat))->Option (List Nat))->(Int×(List Nat))->Option (List Nat):=fun L (b,g)=>bd ((if b<(a.length:Int)then some ((f,a,(a.length:Int),true))else some ((f,a,(a.length:Int),false)):Option ((List Nat)×(List Nat)×Int×Bool))) fun(h,d,j,k)=>if k then zG b (d.length) fun l=>nm (d.getD l 0) fun m=>bd (W3 fu h m) fun i=>bd (zg (W7 fu b h d j i) fu<|((0:Nat),(0:Int),g,i)) fun e=>ze (b+1) fun o=>L (o,e)else some g
def WH(d:List Nat)(e:List Nat):Option (List Nat):=ze (((d.length:Int))+((e.length:Int))) fun g=>ze (g+1) fun h=>jM h fun f=>ck (8*f<=281474976710656)<|nm (xaf f 0) fun i=>bd (zg (K5 fu d e) fu<|((0:Int),i)) fun a=>bd (yL fu a) fun b=>some b
def W4:Nat->(List Nat)->(List Nat)->Option (List Nat)
 |0,_,_=>none
 |fu+1,y,A=>bd (xv fu y) fun a=>bd (xv fu A) fun b=>nm (min ((a.length:Int))<|(b.length:Int)) fun B=>if B<8 then bd (WH fu a b) fun C=>some C else nm (max ((a.length:Int))<|(b.length:Int)) fun E=>ck ((2:Int)≠0)<|ze (xdd E (2:Int)) fun d=>nm (min d<|(a.length:Int)) fun G=>jM G fun q=>ck (q<=a.length)<|nm (a.take q) fun H=>bd (xv fu H) fun r=>nm (min d<|(a.length:Int)) fun I=>jM I fun s=>ck (s<=a.length)<|nm (a.drop s) fun t=>nm (min d<|(b.length:Int)) fun J=>jM J fun u=>ck (u<=b.length)<|nm (b.take u) fun K=>bd (xv fu K) fun v=>nm (min d<|(b.length:Int)) fun M=>jM M fun w=>ck (w<=b.length)<|nm (b.drop w) fun x=>bd (W4 fu r v) fun e=>bd (W4 fu t x) fun f=>bd (kJ fu r t) fun g=>bd (kJ fu v x) fun h=>bd (W4 fu g h) fun i=>bd (YA fu i e) fun j=>bd (YA fu j f) fun k=>bd (uZ fu k d) fun l=>bd (kJ fu e l) fun m=>ze ((2:Int)*d) fun N=>bd (uZ fu f N) fun o=>bd (kJ fu m o) fun p=>some p
def zP(a:Zr)(b:Zr):Option Zr:=nm (!(a.1==b.1)) fun d=>bd (W4 fu a.2 b.2) fun e=>bd (yR fu d e) fun f=>some f
def vu(a:Zr)(b:Zr):Option Zr:=nm (a.1==b.1) fun e=>if e then bd (kJ fu a.2 b.2) fun f=>bd (yR fu a.1 f) fun g=>some g else bd ((bd (WY fu a.2 b.2) fun h=>if h<0 then some (b,a)else some (a,b):Option (Zr×Zr))) fun(d,i)=>bd (W1 fu d.2 i.2) fun(j,l)=>bd (yR fu d.1 j) fun k=>some k
def uK(a:Zr):Option Zr:=bd (yR fu (!a.1) a.2) fun b=>some b
def qo(a:Zr)(b:Zr):Option Zr:=bd (uK fu b) fun d=>bd (vu fu a d) fun e=>some e
def Vr(d:Int)(a:Zr):Option Zr:=bd (qb fu a) fun b=>some b
def wc(fu:Nat)(a:List Zr)(f:Int->Zr->Option Zr):((Int×(List Zr))->Option (List Zr))->(Int×(List Zr))->Option (List Zr):=fun L (b,d)=>bd ((if b<(a.length:Int)then some ((a,(a.length:Int),true))else some ((a,(a.length:Int),false)):Option ((List Zr)×Int×Bool))) fun(e,o,g)=>if g then zG b (e.length) fun h=>nm (e.getD h (false,[])) fun i=>bd (f b i) fun j=>zG b (d.length) fun k=>nm (d.set k j) fun l=>ze (b+1) fun m=>L (m,l)else some d
def zB(a:List Zr)(d:Int->Zr->Option Zr):Option (List Zr):=jM ((a.length:Int)) fun b=>ck (32*b<=281474976710656)<|nm (xaf b (false,[])) fun e=>bd (zg (wc fu a d) fu<|((0:Int),e)) fun f=>some f
def KM:((List Zr)->Option (List Zr))->(List Zr)->Option (List Zr):=fun L a=>if 0<(a.length:Int)then ze (((a.length:Int))-1) fun d=>zG d (a.length) fun e=>nm (a.getD e (false,[])) fun f=>bd (xu fu f) fun g=>if g=0 then ze (((a.length:Int))-1) fun h=>jM h fun b=>ck (b<=a.length)<|nm (a.take b) fun i=>L i else some a else some a
def zH(a:List Zr):Option (List Zr):=bd (zg (KM fu) fu a) fun b=>bd (zB fu b<|fun zx0 zx1=>Vr fu zx0 zx1) fun d=>some d
def QB(k:Int)(g:List Zr):((Int×(List Zr)×(List Zr)×(List Zr)×Zr)->Option ((List Zr)×(List Zr)×(List Zr)))->(Int×(List Zr)×(List Zr)×(List Zr)×Zr)->Option ((List Zr)×(List Zr)×(List Zr)):=fun L (a,f,b,d,e)=>bd ((if a<(g.length:Int)then some ((k,(g.length:Int),true))else some ((k,(g.length:Int),false)):Option (Int×Int×Bool))) fun(l,w,m)=>if m then zG a (f.length) fun o=>nm ((f.getD o (false,[]))) fun p=>ze (l+a) fun q=>ze (l+a) fun h=>zG h (b.length) fun r=>nm ((b.getD r (false,[]))) fun s=>bd (zP fu e p) fun t=>bd (qo fu s t) fun u=>zG q (b.length) fun v=>nm (b.set v u) fun i=>ze (a+1) fun j=>L (j,f,i,d,e)else some (f,b,d)
def QI:((Int×(List Zr)×(List Zr)×(List Zr))->Option (((List Zr)×(List Zr))⊕Int))->(Int×(List Zr)×(List Zr)×(List Zr))->Option (((List Zr)×(List Zr))⊕Int):=fun L (b,a,d,e)=>if 0<=b then ze (b+((a.length:Int))) fun l=>ze (l-1) fun m=>zG m (d.length) fun o=>nm ((d.getD o (false,[]))) fun p=>ze (((a.length:Int))-1) fun q=>zG q (a.length) fun r=>nm ((a.getD r (false,[]))) fun s=>bd (jh fu p s) fun(j,k)=>if k=0 then zG b (e.length) fun t=>nm (e.set t j) fun u=>bd (zg (QB fu b a) fu<|((0:Int),a,d,u,j)) fun(f,g,h)=>ze (b-1) fun i=>L (i,f,g,h)else some (.inr k)else some (.inl (d,e))
def wG(j:List Zr)(k:List Zr):Option ((List Zr)×Int):=bd (zH fu j) fun a=>bd (zH fu k) fun b=>if(b.length:Int)=0 then some (([],(3:Int)))else bd ((if 0<(a.length:Int)then if(a.length:Int)<(b.length:Int)then some (.inr ())else some (.inl ())else some (.inl ()):Option (Unit⊕Unit))) fun l=>match l with
 |.inl _=>(ze (((a.length:Int))-((b.length:Int))) fun m=>ze (m+1) fun o=>nm (max o (0:Int)) fun p=>jM p fun h=>ck (32*h<=281474976710656)<|nm (xaf h (false,[])) fun i=>ze (((i.length:Int))-1) fun q=>bd (zg (QI fu) fu (q,b,a,i)) fun r=>match r with
 |.inl (d,e)=>bd (zH fu d) fun f=>if 0<(f.length:Int)then some (([],(4:Int)))else bd (zH fu e) fun g=>some<|(g,(0:Int))
 |.inr s=>some ([],s))
 |.inr _=>some<|([],(4:Int))
def Vq(b:List Zr):((Int×(List Zr)×Int)->Option Int)->(Int×(List Zr)×Int)->Option Int:=fun L (a,d,e)=>if e=0 then ze (a+1) fun f=>bd (wG fu d b) fun(g,h)=>L (f,g,h)else some a
def Zq(b:List Zr)(a:List Zr):Option Int:=bd (wG fu b a) fun(d,e)=>bd (zg (Vq fu a) fu<|((0:Int),d,e)) fun f=>some f
def kQ(fu:Nat)(d:Int):((Bool×Int)->Option Bool)->(Bool×Int)->Option Bool:=fun L (b,a)=>if b then ze (a*a) fun e=>if e<=d then ck (a≠0)<|nm (xcc d a) fun f=>if f=0 then some false else ze (a+1) fun g=>L (b,g)else some b else some b
def jO(a:Int):Option Bool:=bd ((if 2<=a then if a<=65521 then some true else some false else some false:Option Bool)) fun b=>bd (zg (kQ fu a) fu<|(b,(2:Int))) fun d=>some d
def zW(a:Int):Option Zr:=if a<0 then nm (gI a) fun b=>nm ((18446744073709551616-b)%18446744073709551616) fun d=>bd (yR fu true [d]) fun e=>some e else nm (gI a) fun f=>bd (yR fu false [f]) fun g=>some g
def jZ(b:List Nat):Option Int:=bd (xv fu b) fun a=>if(a.length:Int)=0 then some (0:Int)else ze (((a.length:Int))-1) fun d=>ze ((64:Int)*d) fun e=>ze (((a.length:Int))-1) fun f=>zG f (a.length) fun g=>nm (a.getD g 0) fun h=>bd (xw fu h) fun i=>ze (e+i) fun j=>some j
def JZ:((Int×Zr×Zr)->Option Zr)->(Int×Zr×Zr)->Option Zr:=fun L (a,b,d)=>if 0<a then nm (eH a (1:Int)) fun f=>if f=1 then bd (zP fu d b) fun e=>if 1<a then bd (zP fu b b) fun g=>nm (xfT a<|2^(min (((1:Nat)):Int).toNat 64)) fun h=>L (h,g,e)else nm (xfT a<|2^(min (((1:Nat)):Int).toNat 64)) fun i=>L (i,b,e)else if 1<a then bd (zP fu b b) fun j=>nm (xfT a<|2^(min (((1:Nat)):Int).toNat 64)) fun k=>L (k,j,d)else nm (xfT a<|2^(min (((1:Nat)):Int).toNat 64)) fun l=>L (l,b,d)else some d
def J1(b:Zr)(a:Int):Option (Zr×Int):=bd ((if a<0 then some true else if 65536<a then some true else some false:Option Bool)) fun d=>if d then some (((false,[]),(1:Int)))else bd (jZ fu b.2) fun e=>ze (e*a) fun f=>if 262144<f then some (((false,[]),(6:Int)))else bd (zW fu (1:Int)) fun g=>bd (qb fu b) fun h=>bd (zg (JZ fu) fu (a,h,g)) fun i=>some<|(i,(0:Int))
def vz(b:Int)(a:Int):Option (Zr×Int):=bd (jO fu b) fun d=>if !d then some (((false,[]),(1:Int)))else if a<1 then some (((false,[]),(1:Int)))else if 1000<a then some (((false,[]),(1:Int)))else bd (zW fu b) fun e=>bd (J1 fu e a) fun(f,g)=>some (f,g)
def Q8(fu:Nat)(a:List Zr)(e:Zr)(g:Zr->Zr->Option (Zr×Int)):((Int×(List Zr))->Option (List Zr))->(Int×(List Zr))->Option (List Zr):=fun L (b,d)=>bd ((if b<(a.length:Int)then some ((e,a,(a.length:Int),true))else some ((e,a,(a.length:Int),false)):Option (Zr×(List Zr)×Int×Bool))) fun(h,f,q,i)=>if i then zG b (f.length) fun j=>nm (f.getD j (false,[])) fun k=>bd (g k h) fun(l,r)=>zG b (d.length) fun m=>nm (d.set m l) fun o=>ze (b+1) fun p=>L (p,o)else some d
def vB(a:List Zr)(b:Zr)(e:Zr->Zr->Option (Zr×Int)):Option ((List Zr)×Int):=bd (xu fu b) fun f=>if f<=0 then some (([],(1:Int)))else jM ((a.length:Int)) fun d=>ck (32*d<=281474976710656)<|nm (xaf d (false,[])) fun g=>bd (zg (Q8 fu a b e) fu<|((0:Int),g)) fun h=>bd (zH fu h) fun i=>some<|(i,(0:Int))
def vO(b:Zr)(a:Zr):Option (Zr×Int):=bd (xu fu a) fun d=>if d<=0 then some (((false,[]),(1:Int)))else bd (Yo fu b a) fun(f,e,g)=>some<|(e,(0:Int))
def Z1(a:List Zr)(b:Zr):Option ((List Zr)×Int):=bd (vB fu a b<|fun zx0 zx1=>vO fu zx0 zx1) fun(d,e)=>some (d,e)
def yX(a:List Zr)(b:Zr):Option (List Zr):=bd (Z1 fu a b) fun(d,e)=>some d
def wi(a:Int):Option Int:=bd (jO fu a) fun b=>if !b then some (1:Int)else some (0:Int)
def kg(fu:Nat)(d:Int)(a:Int):Option Int:=if a<1 then some (0:Int)else ck (a≠0)<|nm (xcc d a) fun b=>if b<0 then ze (b+a) fun e=>some e else some b
def cG(fu:Nat):((Int×Int×Int×Int)->Option (Int⊕Unit))->(Int×Int×Int×Int)->Option (Int⊕Unit):=fun L (d,a,f,b)=>if a=0 then some (.inr ())else if a=1 then some (.inl b)else ck (a≠0)<|ze (xdd d a) fun e=>ze (e*a) fun g=>ze (d-g) fun h=>ze (e*b) fun i=>ze (f-i) fun j=>L (a,h,b,j)
def Xl(d:Int)(a:Int):Option (Int×Int):=bd (wi fu a) fun b=>if b=0 then bd (kg fu d a) fun e=>bd (zg (cG fu) fu<|(a,e,(0:Int),(1:Int))) fun f=>match f with
 |.inl g=>bd (kg fu g a) fun h=>some<|(h,(0:Int))
 |.inr _=>some (((0:Int),(3:Int)))else some (((0:Int),b))
def Ko(b:List Int)(e:Int):((Int×(List Int))->Option (List Int))->(Int×(List Int))->Option (List Int):=fun L (a,d)=>if a<(b.length:Int)then zG a (b.length) fun f=>nm (b.getD f 0) fun g=>bd (kg fu g e) fun h=>zG a (d.length) fun i=>nm (d.set i h) fun j=>ze (a+1) fun k=>L (k,j)else some d
def Kl(fu:Nat):((List Int)->Option (List Int))->(List Int)->Option (List Int):=fun L a=>if 0<(a.length:Int)then ze (((a.length:Int))-1) fun d=>zG d (a.length) fun e=>nm ((a.getD e 0)) fun f=>if f=0 then ze (((a.length:Int))-1) fun g=>jM g fun b=>ck (b<=a.length)<|nm (a.take b) fun h=>L h else some a else some a
def zT(a:List Int)(d:Int):Option (List Int):=jM ((a.length:Int)) fun b=>ck (8*b<=281474976710656)<|nm (xaf b 0) fun e=>bd (zg (Ko fu a d) fu<|((0:Int),e)) fun f=>bd (zg (Kl fu) fu f) fun g=>some g
def ZJ(fu:Nat)(a:List Int)(q:Int)(b:Int):(((List Int)×Int×Int×Int×(List Int)×(List Int))->Option ((List Int)×Int×Int×(List Int)×(List Int)))->((List Int)×Int×Int×Int×(List Int)×(List Int))->Option ((List Int)×Int×Int×(List Int)×(List Int)):=fun L (r,d,s,e,f,t)=>bd ((if e<(a.length:Int)then some ((q,b,a,(a.length:Int),true))else some ((q,b,a,(a.length:Int),false)):Option (Int×Int×(List Int)×Int×Bool))) fun(u,w,v,E,x)=>if x then zG e (v.length) fun y=>nm (v.getD y 0) fun A=>ze (u+e) fun g=>ze (u+e) fun h=>zG h (f.length) fun B=>nm ((f.getD B 0)) fun i=>ze (d-w) fun j=>ze (j*A) fun k=>ze (i+k) fun l=>ck (d≠0)<|nm (xcc l d) fun m=>zG g (f.length) fun C=>nm (f.set C m) fun o=>ze (e+1) fun p=>L (r,d,s,p,o,t)else some (r,d,s,f,t)
def Zw(e:List Int)(f:Int)(k:Int):((Int×(List Int)×(List Int))->Option ((List Int)×(List Int)))->(Int×(List Int)×(List Int))->Option ((List Int)×(List Int)):=fun L (a,d,g)=>if 0<=a then ze (a+((e.length:Int))) fun l=>ze (l-1) fun m=>zG m (d.length) fun o=>nm ((d.getD o 0)) fun p=>ze (p*k) fun q=>ck (f≠0)<|nm (xcc q f) fun b=>zG a (g.length) fun r=>nm (g.set r b) fun s=>bd (zg (ZJ fu e a b) fu<|(e,f,k,(0:Int),d,s)) fun(t,u,v,h,i)=>ze (a-1) fun j=>L (j,h,i)else some (d,g)
def xk(j:List Int)(a:List Int)(b:Int):Option ((List Int)×(List Int)):=ck (((([]:List Int)).length+j.length)*8<=140737488355328)<|nm ((([]:List Int))++j) fun d=>ze (((d.length:Int))-((a.length:Int))) fun e=>if e<0 then some ([],d)else ze (((a.length:Int))-1) fun l=>zG l (a.length) fun m=>nm (a.getD m 0) fun o=>bd (Xl fu o b) fun(p,s)=>ze (e+1) fun q=>jM q fun k=>ck (8*k<=281474976710656)<|nm (xaf k 0) fun r=>bd (zg (Zw fu a b p) fu (e,d,r)) fun(f,g)=>bd (zT fu g b) fun h=>bd (zT fu f b) fun i=>some (h,i)
def Qh(fu:Nat)(e:Int)(a:List Int)(f:Int)(g:List Int)(h:Int)(i:Int):((Int×(List Int))->Option (List Int))->(Int×(List Int))->Option (List Int):=fun L (b,d)=>bd ((if b<(a.length:Int)then some ((a,f,e,i,g,h,e,a,(a.length:Int),true))else some ((a,f,e,i,g,h,e,a,(a.length:Int),false)):Option ((List Int)×Int×Int×Int×(List Int)×Int×Int×(List Int)×Int×Bool))) fun(E,j,k,m,G,H,I,l,o,p)=>if p then zG b (l.length) fun q=>nm (l.getD q 0) fun r=>ze (k+b) fun s=>ze (k+b) fun t=>zG t (d.length) fun u=>nm ((d.getD u 0)) fun v=>ze (m*r) fun w=>ze (v+w) fun x=>ck (j≠0)<|nm (xcc x j) fun y=>zG s (d.length) fun A=>nm (d.set A y) fun B=>ze (b+1) fun C=>L (C,B)else some d
def VO(a:List Int)(f:List Int)(g:Int):((Int×(List Int))->Option (List Int))->(Int×(List Int))->Option (List Int):=fun L (b,h)=>bd ((if b<(a.length:Int)then some ((f,g,a,(a.length:Int),true))else some ((f,g,a,(a.length:Int),false)):Option ((List Int)×Int×(List Int)×Int×Bool))) fun(i,j,d,k,l)=>if l then zG b (d.length) fun m=>nm (d.getD m 0) fun o=>bd (zg (Qh fu b i j d k o) fu<|((0:Int),h)) fun e=>ze (b+1) fun p=>L (p,e)else some h
def xT(d:List Int)(e:List Int)(f:Int):Option (List Int):=ze (((d.length:Int))+((e.length:Int))) fun h=>jM h fun g=>ck (8*g<=281474976710656)<|nm (xaf g 0) fun i=>bd (zg (VO fu d e f) fu<|((0:Int),i)) fun a=>bd (zT fu a f) fun b=>some b
def bS(fu:Nat)(a:List Int)(e:Int)(f:Int):((Int×(List Int))->Option (List Int))->(Int×(List Int))->Option (List Int):=fun L (b,d)=>bd ((if b<(a.length:Int)then some ((e,f,a,(a.length:Int),true))else some ((e,f,a,(a.length:Int),false)):Option (Int×Int×(List Int)×Int×Bool))) fun(h,t,g,u,i)=>if i then zG b (g.length) fun j=>nm (g.getD j 0) fun k=>zG b (d.length) fun l=>nm ((d.getD l 0)) fun m=>ze (h*k) fun o=>ze (m+o) fun p=>zG b (d.length) fun q=>nm (d.set q p) fun r=>ze (b+1) fun s=>L (s,r)else some d
def Zh(a:List Int)(b:List Int)(f:Int)(d:Int):Option (List Int):=nm (max ((a.length:Int))<|(b.length:Int)) fun g=>jM g fun e=>ck (8*e<=281474976710656)<|nm (xaf e 0) fun h=>nm (cpy h a) fun i=>bd (zg (bS fu b f d) fu<|((0:Int),i)) fun j=>bd (zT fu j d) fun k=>some k
def ki(e:List (List Int))(f:Int):(((List Int)×Int×(List<|List Int)×(List<|List Int))->Option ((List<|List Int)×(List<|List Int)))->((List Int)×Int×(List<|List Int)×(List<|List Int))->Option ((List<|List Int)×(List<|List Int)):=fun L (g,a,b,h)=>bd ((if a<3 then some (f,e,true)else some (f,e,false):Option (Int×(List<|List Int)×Bool))) fun(d,i,j)=>if j then zG a (3) fun k=>zG a (3) fun l=>nm (i.getD l []) fun m=>bd (xT fu g m d) fun o=>ze (d-1) fun p=>bd (Zh fu (b.getD k []) o p d) fun q=>zG a (3) fun r=>nm (b.set r q) fun s=>ze (a+1) fun t=>L (g,t,s,h)else some (b,h)
def ZL(b:List (List Int))(d:List (List Int))(e:Int):Option (List<|List Int):=zG 0 (3) fun f=>zG 0 (3) fun g=>nm (d.getD g []) fun h=>bd (xk fu (b.getD f []) h e) fun(i,k)=>bd (zg (ki fu d e) fu<|(i,(0:Int),b,(xaf 3 []))) fun(a,j)=>some a
def vr(b:List Int)(d:Int)(a:Int):Option (List Int):=bd (Xl fu d a) fun(e,g)=>bd (xT fu b [e] a) fun f=>some f
def kO(d:Int):(((List<|List Int)×(List<|List Int))->Option (List<|List Int))->((List<|List Int)×(List<|List Int))->Option (List<|List Int):=fun L (b,a)=>zG 0 (3) fun e=>if 0<((((a.getD e [])).length:Nat):Int)then bd (ZL fu b a d) fun f=>L (a,f)else some b
def wg(d:Int)(e:Int):((Int×(List<|List Int))->Option (List<|List Int))->(Int×(List<|List Int))->Option (List<|List Int):=fun L (a,b)=>if a<3 then zG a (3) fun f=>bd (vr fu (b.getD f []) e d) fun g=>zG a (3) fun h=>nm (b.set h g) fun i=>ze (a+1) fun j=>L (j,i)else some b
def j9(k:List Int)(l:List Int)(d:Int):Option ((List Int)×(List Int)×(List Int)×Int):=bd (wi fu d) fun h=>if h=0 then bd (zT fu k d) fun m=>bd (zT fu l d) fun o=>bd (zg (kO fu d) fu<|([m,[(1:Int)],[]],[o,[],[(1:Int)]])) fun a=>zG 0 (3) fun i=>bd ((if 0<((((a.getD i [])).length:Nat):Int)then some true else some false:Option Bool)) fun p=>if p then zG 0 (3) fun j=>ze ((((((a.getD i [])).length:Nat):Int))-1) fun q=>zG q (((a.getD j [])).length) fun r=>nm (((a.getD j [])).getD r 0) fun s=>bd (zg (wg fu d s) fu<|((0:Int),a)) fun b=>zG 0 (3) fun t=>zG 1 (3) fun u=>zG 2 (3) fun v=>some (((b.getD t []),(b.getD u []),(b.getD v []),(0:Int)))else zG 0 (3) fun e=>zG 1 (3) fun f=>zG 2 (3) fun g=>some (((a.getD e []),(a.getD f []),(a.getD g []),(0:Int)))else some ([],[],[],h)
def qX(a:List Int)(b:List Int)(d:Int):Option ((List Int)×Int):=bd (j9 fu a b d) fun(e,g,h,f)=>some (e,f)
def q9(d:List Int)(e:List Int)(a:Int):Option ((List Int)×Int):=bd (wi fu a) fun b=>if b=0 then bd (zT fu d a) fun f=>bd (zT fu e a) fun g=>bd (xT fu f g a) fun h=>some ((h,(0:Int)))else some ([],b)
def Y9(d:List Int)(e:List Int)(a:Int):Option ((List Int)×Int):=bd (wi fu a) fun b=>if b=0 then bd (zT fu d a) fun f=>bd (zT fu e a) fun g=>ze (a-1) fun h=>bd (Zh fu f g h a) fun i=>some ((i,(0:Int)))else some ([],b)
def ZQ(a:List Int)(b:List Int)(d:Int):Option Bool:=bd (Y9 fu a b d) fun(e,f)=>if(e.length:Int)=0 then some true else some false
def YE(fu:Nat)(a:List Int)(e:Int):(Int->Option (Unit⊕Unit))->Int->Option (Unit⊕Unit):=fun L b=>if b<(a.length:Int)then zG b (a.length) fun f=>nm (a.getD f 0) fun d=>if d<0 then some (.inr ())else if e<=d then some (.inr ())else ze (b+1) fun g=>L g else some (.inl ())
def Zx(a:List Int)(b:Int):Option Bool:=bd (zg (YE fu a b) fu (0:Int)) fun d=>match d with
 |.inl _=>if 1<(a.length:Int)then ze (((a.length:Int))-1) fun e=>zG e (a.length) fun f=>nm (a.getD f 0) fun g=>if g=1 then some true else some false else some false
 |.inr _=>some false
def Vh(a:List (List Int))(e:Int):(((List Int)×Int)->Option (List Int))->((List Int)×Int)->Option (List Int):=fun L (d,b)=>if b<(a.length:Int)then zG b (a.length) fun f=>nm (a.getD f []) fun g=>bd (q9 fu d g e) fun(h,j)=>ze (b+1) fun i=>L (h,i)else some d
def vg(a:List (List Int))(b:Int):Option (List Int):=bd (zg (Vh fu a b) fu<|([(1:Int)],(0:Int))) fun d=>some d
def WC(b:Zr):Option (Int×Bool):=bd (qb fu b) fun a=>bd ((if(a.2.length:Int)=0 then some true else some false:Option Bool)) fun d=>if d then some (((0:Int),true))else bd ((if 1<(a.2.length:Int)then some true else some false:Option Bool)) fun e=>if e then some (((0:Int),false))else bd ((if a.1=true then zG 0 (a.2.length) fun f=>nm (a.2.getD f 0) fun g=>if(g:Int)<=(((9223372036854775808:Nat):Nat):Int)then some true else some false else some false:Option Bool)) fun h=>if h then zG 0 (a.2.length) fun i=>nm (a.2.getD i 0) fun j=>nm ((18446744073709551616-j)%18446744073709551616) fun k=>nm (Ru k) fun l=>some (l,true)else if a.1=true then some (((0:Int),false))else zG 0 (a.2.length) fun m=>nm (a.2.getD m 0) fun o=>if(((9223372036854775807:Nat):Nat):Int)<(o:Int)then some (((0:Int),false))else zG 0 (a.2.length) fun p=>nm (a.2.getD p 0) fun q=>nm (Ru q) fun r=>some (r,true)
def VM(b:Zr)(d:Int):Option (Int×Int):=bd (zW fu d) fun e=>bd (vO fu b e) fun(f,a)=>if a=0 then bd (WC fu f) fun(g,h)=>some ((g,(0:Int)))else some (((0:Int),a))
def YQ(e:Int)(a:Zr)(b:Int):Option Int:=bd (VM fu a b) fun(d,f)=>some d
def kn(fu:Nat)(a:List Zr)(f:Int->Zr->Option Int):((Int×(List Int))->Option (List Int))->(Int×(List Int))->Option (List Int):=fun L (b,d)=>bd ((if b<(a.length:Int)then some ((a,(a.length:Int),true))else some ((a,(a.length:Int),false)):Option ((List Zr)×Int×Bool))) fun(e,o,g)=>if g then zG b (e.length) fun h=>nm (e.getD h (false,[])) fun i=>bd (f b i) fun j=>zG b (d.length) fun k=>nm (d.set k j) fun l=>ze (b+1) fun m=>L (m,l)else some d
def qi(a:List Zr)(d:Int->Zr->Option Int):Option (List Int):=jM ((a.length:Int)) fun b=>ck (8*b<=281474976710656)<|nm (xaf b 0) fun e=>bd (zg (kn fu a d) fu<|((0:Int),e)) fun f=>some f
def aX(fu:Nat):((List Int)->Option (List Int))->(List Int)->Option (List Int):=fun L a=>if 0<(a.length:Int)then ze (((a.length:Int))-1) fun d=>zG d (a.length) fun e=>nm ((a.getD e 0)) fun f=>if f=0 then ze (((a.length:Int))-1) fun g=>jM g fun b=>ck (b<=a.length)<|nm (a.take b) fun h=>L h else some a else some a
def ke(b:List Zr)(a:Int):Option ((List Int)×Int):=if a<1 then some (([],(1:Int)))else bd (qi fu b<|fun zx0 zx1=>YQ fu zx0 zx1 a) fun d=>bd (zg (aX fu) fu d) fun e=>some<|(e,(0:Int))
def qF(d:Int)(e:List Int)(a:List (List Int)):(Int->Option (Unit⊕Unit))->Int->Option (Unit⊕Unit):=fun L b=>if b<(a.length:Int)then zG b (a.length) fun f=>nm (a.getD f []) fun g=>bd (qX fu e g d) fun(h,j)=>if(h.length:Int)=1 then ze (b+1) fun i=>L i else some (.inr ())else some (.inl ())
def qM(e:List Zr)(a:List (List Int))(f:Int):((Int×(List Int))->Option ((List Int)⊕Unit))->(Int×(List Int))->Option ((List Int)⊕Unit):=fun L (b,g)=>bd ((if b<(a.length:Int)then some ((e,a,f,a,(a.length:Int),true))else some ((e,a,f,a,(a.length:Int),false)):Option ((List Zr)×(List<|List Int)×Int×(List<|List Int)×Int×Bool))) fun(l,h,i,j,t,m)=>if m then zG b (j.length) fun o=>nm (j.getD o []) fun d=>if(l.length:Int)<(d.length:Int)then some (.inr ())else bd (Zx fu d i) fun p=>if !p then some (.inr ())else jM b fun k=>ck (k<=h.length)<|nm (h.take k) fun q=>bd (zg (qF fu i d q) fu (0:Int)) fun r=>match r with
 |.inl _=>ze (b+1) fun s=>L (s,g)
 |.inr _=>some (.inr ())else some (.inl g)
def wE(a:List Zr)(e:List (List Int))(b:Int):Option Bool:=bd (ke fu a b) fun(h,o)=>if(a.length:Int)=0 then some false else if(h.length:Int)=(a.length:Int)then if(a.length:Int)<(e.length:Int)then some false else bd (zg (qM fu a e b) fu<|((0:Int),h)) fun j=>match j with
 |.inl d=>bd (vg fu e b) fun k=>ze (((d.length:Int))-1) fun l=>jM l fun i=>ck (i<=d.length)<|nm (d.drop i) fun f=>bd (q9 fu k f b) fun(g,p)=>bd (ZQ fu g d b) fun m=>some m
 |.inr _=>some false else some false
def uV(a:List Zr)(j:Int):(((List Zr)×Zr×Int×(List Zr)×(List Zr))->Option ((List Zr)×Zr×(List Zr)×(List Zr)))->((List Zr)×Zr×Int×(List Zr)×(List Zr))->Option ((List Zr)×Zr×(List Zr)×(List Zr)):=fun L (k,l,b,d,f)=>bd ((if b<(a.length:Int)then some ((j,a,(a.length:Int),true))else some ((j,a,(a.length:Int),false)):Option (Int×(List Zr)×Int×Bool))) fun(g,e,A,m)=>if m then zG b (e.length) fun o=>nm (e.getD o (false,[])) fun p=>ze (g+b) fun q=>ze (g+b) fun r=>zG r (d.length) fun s=>nm ((d.getD s (false,[]))) fun t=>zG g (f.length) fun u=>nm ((f.getD u (false,[]))) fun v=>bd (zP fu v p) fun w=>bd (qo fu t w) fun x=>zG q (d.length) fun y=>nm (d.set y x) fun h=>ze (b+1) fun i=>L (k,l,i,h,f)else some (k,l,d,f)
def uQ(d:List Zr)(i:Zr):((Int×(List Zr)×(List Zr))->Option ((List Zr)×(List Zr)))->(Int×(List Zr)×(List Zr))->Option ((List Zr)×(List Zr)):=fun L (a,b,e)=>if 0<=a then ze (a+((d.length:Int))) fun j=>ze (j-1) fun k=>zG k (b.length) fun l=>nm ((b.getD l (false,[]))) fun m=>bd (vO fu m i) fun(o,t)=>zG a (e.length) fun p=>nm (e.set p o) fun q=>bd (zg (uV fu d a) fu<|(d,i,(0:Int),b,q)) fun(r,s,f,g)=>ze (a-1) fun h=>L (h,f,g)else some (b,e)
def qP(k:List Zr)(g:List Zr)(a:Zr):Option ((List Zr)×(List Zr)):=bd (yX fu k a) fun h=>ze (((h.length:Int))-((g.length:Int))) fun l=>ze (l+1) fun m=>nm (max m (0:Int)) fun o=>jM o fun i=>ck (32*i<=281474976710656)<|nm (xaf i (false,[])) fun j=>ze (((j.length:Int))-1) fun p=>bd (zg (uQ fu g a) fu (p,h,j)) fun(b,d)=>bd (yX fu d a) fun e=>bd (yX fu b a) fun f=>some (e,f)
def jv(b:Int)(d:Zr)(a:List Zr):Option Zr:=if b<(a.length:Int)then zG b (a.length) fun e=>nm (a.getD e (false,[])) fun f=>bd (vu fu d f) fun g=>some g else some d
def w6(a:List Zr)(b:List Zr):Option (List Zr):=if(a.length:Int)<(b.length:Int)then bd (zB fu b<|fun zx0 zx1=>jv fu zx0 zx1 a) fun d=>bd (zH fu d) fun e=>some e else bd (zB fu a<|fun zx0 zx1=>jv fu zx0 zx1 b) fun f=>bd (zH fu f) fun g=>some g
def bN(e:Int)(a:List Zr)(g:List Zr)(h:Int):((Int×(List Zr)×Zr)->Option (List Zr))->(Int×(List Zr)×Zr)->Option (List Zr):=fun L (b,d,i)=>bd ((if b<(a.length:Int)then some ((a,e,g,h,e,a,(a.length:Int),true))else some ((a,e,g,h,e,a,(a.length:Int),false)):Option ((List Zr)×Int×(List Zr)×Int×Int×(List Zr)×Int×Bool))) fun(x,j,y,A,B,k,C,l)=>if l then zG b (k.length) fun m=>nm (k.getD m (false,[])) fun o=>ze (j+b) fun p=>ze (j+b) fun q=>zG q (d.length) fun r=>nm ((d.getD r (false,[]))) fun s=>bd (zP fu i o) fun t=>bd (vu fu s t) fun u=>zG p (d.length) fun v=>nm (d.set v u) fun f=>ze (b+1) fun w=>L (w,f,i)else some d
def bH(a:List Zr)(f:List Zr):((Int×(List Zr))->Option (List Zr))->(Int×(List Zr))->Option (List Zr):=fun L (b,g)=>bd ((if b<(a.length:Int)then some ((f,a,(a.length:Int),true))else some ((f,a,(a.length:Int),false)):Option ((List Zr)×(List Zr)×Int×Bool))) fun(h,d,i,j)=>if j then zG b (d.length) fun k=>nm (d.getD k (false,[])) fun l=>bd (zg (bN fu b h d i) fu<|((0:Int),g,l)) fun e=>ze (b+1) fun m=>L (m,e)else some g
def y7(d:List Zr)(e:List Zr):Option (List Zr):=ze (((d.length:Int))+((e.length:Int))) fun g=>jM g fun f=>ck (32*f<=281474976710656)<|nm (xaf f (false,[])) fun h=>bd (zg (bH fu d e) fu<|((0:Int),h)) fun a=>bd (zH fu a) fun b=>some b
def Zu(d:Int)(a:Int):Option Zr:=bd (zW fu a) fun b=>some b
def j8(fu:Nat)(b:List Int)(e:Int->Int->Option Zr):((Int×(List Zr))->Option (List Zr))->(Int×(List Zr))->Option (List Zr):=fun L (a,d)=>if a<(b.length:Int)then zG a (b.length) fun f=>nm (b.getD f 0) fun g=>bd (e a g) fun h=>zG a (d.length) fun i=>nm (d.set i h) fun j=>ze (a+1) fun k=>L (k,j)else some d
def qq(a:List Int)(d:Int->Int->Option Zr):Option (List Zr):=jM ((a.length:Int)) fun b=>ck (32*b<=281474976710656)<|nm (xaf b (false,[])) fun e=>bd (zg (j8 fu a d) fu<|((0:Int),e)) fun f=>some f
def vU(a:List Int):Option (List Zr):=bd (qq fu a<|fun zx0 zx1=>Zu fu zx0 zx1) fun b=>bd (zH fu b) fun d=>some d
def kt(a:List Int):Option (List Zr):=bd (vU fu a) fun b=>some b
def XP(e:Int)(a:Zr)(b:Zr):Option Zr:=bd (zP fu a b) fun d=>some d
def vc(a:List Zr)(b:Zr):Option (List Zr):=bd (zB fu a<|fun zx0 zx1=>XP fu zx0 zx1 b) fun d=>bd (zH fu d) fun e=>some e
def q8(a:List Zr)(b:List Zr):Option (List Zr):=bd (zW fu (-1:Int)) fun d=>bd (vc fu b d) fun e=>bd (w6 fu a e) fun f=>some f
def qJ(f:List (List Zr))(G:List Zr)(a:Zr):Option (List<|List Zr):=zG 0 (4) fun H=>nm (f.getD H []) fun i=>zG 1 (4) fun I=>nm (f.getD I []) fun j=>zG 2 (4) fun J=>nm (f.getD J []) fun g=>zG 3 (4) fun K=>nm (f.getD K []) fun h=>bd (y7 fu i j) fun M=>bd (q8 fu G M) fun N=>bd (yX fu N a) fun E=>bd (y7 fu g E) fun O=>bd (qP fu O j a) fun(P,Q)=>bd (y7 fu h E) fun R=>bd (y7 fu P i) fun S=>bd (w6 fu R S) fun U=>bd (w6 fu i U) fun k=>bd (yX fu k a) fun b=>bd (w6 fu j Q) fun l=>bd (yX fu l a) fun d=>bd (y7 fu g b) fun m=>bd (y7 fu h d) fun o=>bd (w6 fu m o) fun p=>bd (kt fu [(1:Int)]) fun q=>bd (q8 fu p q) fun r=>bd (yX fu r a) fun e=>bd (y7 fu g e) fun s=>bd (qP fu s d a) fun(t,u)=>bd (q8 fu g u) fun v=>bd (yX fu v a) fun w=>bd (y7 fu h e) fun x=>bd (y7 fu t b) fun y=>bd (w6 fu x y) fun A=>bd (q8 fu h A) fun B=>bd (yX fu B a) fun C=>some [b,d,w,C]
def kH(a:Zr×(Zr×Zr))(b:Zr)(d:Zr×(Zr×Zr)):Option (Zr×(Zr×Zr)):=bd (zP fu b d.1) fun e=>bd (qo fu a.1 e) fun f=>bd (zP fu b d.2.1) fun g=>bd (qo fu a.2.1 g) fun h=>bd (zP fu b d.2.2) fun i=>bd (qo fu a.2.2 i) fun j=>some (f,h,j)
def XG:(((Zr×(Zr×Zr))×(Zr×(Zr×Zr)))->Option (Zr×(Zr×Zr)))->((Zr×(Zr×Zr))×(Zr×(Zr×Zr)))->Option (Zr×(Zr×Zr)):=fun L (b,a)=>bd (xu fu a.1) fun d=>if d=0 then some b else bd (Yo fu b.1 a.1) fun(e,g,h)=>bd (kH fu b e a) fun f=>L (a,f)
def YF(g:Zr)(h:Zr):Option (Zr×Zr×Zr):=bd (yR fu false g.2) fun i=>bd (zW fu (1:Int)) fun j=>bd (zW fu (0:Int)) fun k=>bd (yR fu false h.2) fun l=>bd (zW fu (0:Int)) fun m=>bd (zW fu (1:Int)) fun o=>bd (zg (XG fu) fu<|((i,j,k),(l,m,o))) fun a=>bd ((bd (xu fu g) fun p=>if p<0 then bd (uK fu a.2.1) fun d=>nm ((a.1,(d,a.2.2))) fun q=>some q else some a:Option (Zr×(Zr×Zr)))) fun b=>bd ((bd (xu fu h) fun r=>if r<0 then bd (uK fu b.2.2) fun e=>nm ((b.1,(b.2.1,e))) fun s=>some s else some b:Option (Zr×(Zr×Zr)))) fun f=>some (f.1,f.2.1,f.2.2)
def Wb(a:List Zr)(b:Zr):Option (List Zr):=ze (((a.length:Int))-1) fun d=>zG d (a.length) fun e=>nm (a.getD e (false,[])) fun f=>bd (YF fu f b) fun(j,g,k)=>bd (vc fu a g) fun h=>bd (yX fu h b) fun i=>some i
def uE(g:List Zr)(h:Int)(d:Int):((Int×(List<|List Zr))->Option (List<|List Zr))->(Int×(List<|List Zr))->Option (List<|List Zr):=fun L (e,a)=>if e<d then ze ((2:Int)*e) fun i=>nm (min i d) fun f=>bd (vz fu h f) fun(j,k)=>bd (qJ fu a g j) fun b=>L (f,b)else some a
def vb:Nat->(List Zr)->(List<|List Int)->Int->Int->Zr->Option (List<|List Zr)
 |0,_,_,_,_,_=>none
 |fu+1,d,a,b,i,j=>if(a.length:Int)=1 then bd (Wb fu d j) fun C=>some [C]else ck ((2:Int)≠0)<|ze (xdd ((a.length:Int)) (2:Int)) fun h=>ze (((d.length:Int))-1) fun E=>jM E fun u=>ck (u<=d.length)<|nm (d.drop u) fun G=>bd (ke fu G b) fun(H,O)=>jM h fun v=>ck (v<=a.length)<|nm (a.take v) fun I=>bd (vg fu I b) fun J=>bd (q9 fu J H b) fun(w,P)=>jM h fun x=>ck (x<=a.length)<|nm (a.drop x) fun K=>bd (vg fu K b) fun y=>bd (j9 fu w y b) fun(Q,k,l,R)=>bd (vU fu w) fun m=>bd (vU fu y) fun o=>bd (vU fu k) fun p=>bd (vU fu l) fun q=>bd (zg (uE fu d b i) fu<|((1:Int),[m,o,p,q])) fun e=>zG 0 (4) fun M=>jM h fun A=>ck (A<=a.length)<|nm (a.take A) fun r=>bd (vb fu (e.getD M []) r b i j) fun f=>zG 1 (4) fun N=>jM h fun B=>ck (B<=a.length)<|nm (a.drop B) fun s=>bd (vb fu (e.getD N []) s b i j) fun g=>ck ((f.length+g.length)*24<=140737488355328)<|nm (f++g) fun t=>some t
def qh(h:List Zr)(a:List (List Int))(b:Int)(e:Int):Option ((List<|List Zr)×Int):=bd (vz fu b e) fun(f,g)=>bd (zH fu h) fun d=>if g=0 then if 65<(d.length:Int)then some (([],(6:Int)))else bd (wE fu d a b) fun i=>if !i then some (([],(1:Int)))else if(a.length:Int)=0 then some (([],(0:Int)))else bd (yX fu d f) fun j=>bd (vb fu j a b e f) fun k=>some ((k,(0:Int)))else some ([],g)
def WE(a:List Zr)(b:List Zr)(d:Zr):Option ((List Zr)×Int):=bd (y7 fu a b) fun e=>bd (Z1 fu e d) fun(f,g)=>some (f,g)
def jk(a:Zr)(b:Zr):Option Int:=bd (qo fu a b) fun d=>bd (xu fu d) fun e=>some e
def ZF(e:Zr)(d:Zr):Option (Zr×Int):=bd (vO fu e d) fun(a,b)=>if b=0 then bd (vu fu a a) fun f=>bd (jk fu f d) fun g=>if 0<g then bd (qo fu a d) fun h=>some (h,b)else some (a,b)else some (a,b)
def YR(a:List Zr)(b:Zr):Option ((List Zr)×Int):=bd (vB fu a b<|fun zx0 zx1=>ZF fu zx0 zx1) fun(d,e)=>some (d,e)
def ef:(((List Nat)×(List Nat))->Option (List Nat))->((List Nat)×(List Nat))->Option (List Nat):=fun L (b,a)=>if 0<(a.length:Int)then bd (Q0 fu b a) fun(e,d,f)=>L (a,d)else some b
def Vc(a:Zr)(b:Zr):Option Zr:=bd (uU fu a.2) fun d=>bd (uU fu b.2) fun e=>bd (zg (ef fu) fu (d,e)) fun f=>bd (yR fu false f) fun g=>some g
def V7(b:List Zr):((Int×(List Zr)×Zr×Zr)->Option ((List Zr)×Zr×Zr))->(Int×(List Zr)×Zr×Zr)->Option ((List Zr)×Zr×Zr):=fun L (d,a,e,f)=>bd ((if d<(b.length:Int)then some (((b.length:Int),true))else some (((b.length:Int),false)):Option (Int×Bool))) fun(l,g)=>if g then zG d (a.length) fun h=>nm ((a.getD h (false,[]))) fun i=>bd (Vc fu f i) fun j=>ze (d+1) fun k=>L (k,a,e,j)else some (a,e,f)
def wU(e:List Zr):Option Zr:=bd (zH fu e) fun d=>bd (zW fu (0:Int)) fun f=>bd (zg (V7 fu d) fu<|((0:Int),d,(false,[]),f)) fun(a,k,b)=>if 0<(a.length:Int)then ze (((a.length:Int))-1) fun g=>zG g (a.length) fun h=>nm (((a.getD h (false,[]))).1) fun i=>if i then bd (uK fu b) fun j=>some j else some b else some b
def Vn(e:Int)(a:Zr)(b:Zr):Option Zr:=bd (jh fu a b) fun(d,f)=>some d
def xN(a:List Zr):Option (List Zr):=bd (wU fu a) fun b=>bd (zH fu a) fun d=>bd (zB fu d<|fun zx0 zx1=>Vn fu zx0 zx1 b) fun e=>some e
def jA(e:List (List Zr))(b:List Int)(f:Zr):(((List Zr)×Int×(List Int))->Option ((List Zr)×(List Int)))->((List Zr)×Int×(List Int))->Option ((List Zr)×(List Int)):=fun L (g,d,a)=>bd ((if d<(b.length:Int)then some ((e,f,(b.length:Int),true))else some ((e,f,(b.length:Int),false)):Option ((List<|List Zr)×Zr×Int×Bool))) fun(h,i,r,j)=>if j then zG d (a.length) fun k=>nm ((a.getD k 0)) fun l=>zG l (h.length) fun m=>nm (h.getD m []) fun o=>bd (WE fu g o i) fun(p,s)=>ze (d+1) fun q=>L (p,q,a)else some (g,a)
def qD(a:List Zr)(g:List (List Zr))(d:List Int)(e:Zr):Option ((List Zr)×(List Int)):=ze (((a.length:Int))-1) fun h=>jM h fun f=>ck (f<=a.length)<|nm (a.drop f) fun i=>bd (zg (jA fu g d e) fu<|(i,(0:Int),d)) fun(j,k)=>bd (YR fu j e) fun(l,m)=>bd (xN fu l) fun b=>some (b,k)
def vh{X Y R:Type}(fu:Nat)(n all:Int)(g:List Int->X->Option (List Int×(X⊕Y)))(x:X)(xs:List Int)(L:X->List Int->Int->Int->Int->Int->Int->Option R)(E:X->Int->Int->List Int->Option R)(E2:Y->List Int->Option R):Option R:=bd (g xs x) fun r=>xfw (fun x'=>ze (n-1) fun a=>bd (zg (fun L i=>if 0<=i then zG i r.1.length fun j=>nm (r.1.getD j 0) fun y=>ze (all-n) fun e=>ze (e+i) fun e=>if y=e then ze (i-1) fun i=>L i else some i else some i) fu a) fun i=>if i<0 then E x' a i r.1 else zG i r.1.length fun j=>nm (r.1.getD j 0) fun y=>ze (y+1) fun e=>zG i r.1.length fun j=>nm (r.1.set j e) fun xs=>ze (i+1) fun b=>bd (zg (fun L (z:Int×List Int)=>if z.1<n then ze (z.1-1) fun e=>zG e z.2.length fun j=>nm (z.2.getD j 0) fun y=>ze (y+1) fun e=>zG z.1 z.2.length fun j=>nm (z.2.set j e) fun xs=>ze (z.1+1) fun i=>L (i,xs)else some z.2) fu (b,xs)) fun xs=>L x' xs b i e y a) (fun y=>E2 y r.1) r.2
def wk{X Y:Type}(fu:Nat)(n all:Int)(g:List Int->X->Option (List Int×(X⊕Y)))(a:X):Option (X⊕Y):=jM n fun m=>ck (8*m<=281474976710656)<|nm (xaf m 0) fun xs=>bd (zg (fun L (z:List Int×Int)=>if z.2<(xs.length:Int)then zG z.2 z.1.length fun j=>nm (z.1.set j z.2) fun xs=>ze (z.2+1) fun i=>L (xs,i)else some z.1) fu (xs,0)) fun xs=>zg (fun L (q:X×List Int)=>vh fu n all g q.1 q.2 (fun x xs _ _ _ _ _=>L (x,xs)) (fun x _ _ _=>some (.inl x)) fun y _=>some (.inr y)) fu (a,xs)
def QG(fu:Nat)(b:List Int)(d:Int):(Int->Option (Unit⊕Int))->Int->Option (Unit⊕Int):=fun L a=>if a<(b.length:Int)then zG a (b.length) fun e=>nm (b.getD e 0) fun f=>if d=f then some (.inr a)else ze (a+1) fun g=>L g else some (.inl ())
def ZT(a:List Int)(b:Int):Option Int:=bd (zg (QG fu a b) fu (0:Int)) fun d=>match d with
 |.inl _=>some (-1:Int)
 |.inr e=>some e
def w5(fu:Nat)(b:List Int)(d:Int):(Int->Option (Unit⊕Int))->Int->Option (Unit⊕Int):=fun L a=>if a<(b.length:Int)then zG a (b.length) fun e=>nm ((b.getD e 0)) fun f=>if d=f then some (.inr a)else ze (a+1) fun g=>L g else some (.inl ())
def vH(a:List Int)(b:Int):Option (Int×(List Int)):=bd (zg (w5 fu a b) fu (0:Int)) fun d=>match d with
 |.inl _=>some<|((-1:Int),a)
 |.inr e=>some (e,a)
def kV(a:List Int)(b:Int):Option Bool:=bd (ZT fu a b) fun d=>if 0<=d then some true else some false
def xE(b:List Int)(d:Int):Option (Bool×(List Int)):=bd (vH fu b d) fun(e,a)=>if 0<=e then some (true,a)else some (false,a)
def AV(a:List (List Zr))(e:List Int):(((List<|List Zr)×Int)->Option (List<|List Zr))->((List<|List Zr)×Int)->Option (List<|List Zr):=fun L (d,b)=>bd ((if b<(a.length:Int)then some ((e,a,(a.length:Int),true))else some ((e,a,(a.length:Int),false)):Option ((List Int)×(List<|List Zr)×Int×Bool))) fun(h,f,p,i)=>if i then zG b (f.length) fun j=>nm (f.getD j []) fun g=>bd (kV fu h b) fun k=>if !k then ck ((d.length+([g]).length)*24<=140737488355328)<|nm (d++([g])) fun l=>ze (b+1) fun m=>L (l,m)else ze (b+1) fun o=>L (d,o)else some d
def jL(a:List (List Zr)):(((List<|List Zr)×Int×(List Int))->Option ((List<|List Zr)×(List Int)))->((List<|List Zr)×Int×(List Int))->Option ((List<|List Zr)×(List Int)):=fun L (d,b,e)=>bd ((if b<(a.length:Int)then some ((a,(a.length:Int),true))else some ((a,(a.length:Int),false)):Option ((List<|List Zr)×Int×Bool))) fun(f,p,i)=>if i then zG b (f.length) fun j=>nm (f.getD j []) fun g=>bd (xE fu e b) fun(k,h)=>if !k then ck ((d.length+([g]).length)*24<=140737488355328)<|nm (d++([g])) fun l=>ze (b+1) fun m=>L (l,m,h)else ze (b+1) fun o=>L (d,o,h)else some (d,e)
def xl(a:List (List Zr))(b:List Int):Option ((List<|List Zr)×(List Int)):=bd (zg (jL fu a) fu<|([],(0:Int),b)) fun(d,e)=>some (d,e)
def vJ(b:(Bool×List Nat))(ys:List Int)(y:List (Bool×List Nat)×List (List<|Bool×List Nat)×List (List<|Bool×List Nat)):Option (List Int×((List (Bool×List Nat)×List (List<|Bool×List Nat)×List (List<|Bool×List Nat))⊕(List (Bool×List Nat)×List (List<|Bool×List Nat)×List (List<|Bool×List Nat)))):=bd (qD fu y.1 y.2.1 ys b) fun c=>bd (wG fu y.1 c.1) fun q=>if q.2=0 then if 1<(c.1.length:Int)then ck ((y.2.2.length+1)*24<=140737488355328)<|nm (y.2.2++[c.1]) fun pr=>bd (xl fu y.2.1 c.2) fun w=>some (w.2,.inr (q.1,w.1,pr))else some (c.2,.inl y)else some (c.2,.inl y)
def uq(b:(Bool×List Nat))(x:List (Bool×List Nat)×List (List<|Bool×List Nat)×List (List<|Bool×List Nat)×Int)(L:List (Bool×List Nat)×List (List<|Bool×List Nat)×List (List<|Bool×List Nat)×Int->Option (List (Bool×List Nat)×List (List<|Bool×List Nat)×List (List<|Bool×List Nat))):Option (List (Bool×List Nat)×List (List<|Bool×List Nat)×List (List<|Bool×List Nat)):=ze (2*x.2.2.2) fun d=>if d<=(x.2.1.length:Int)then bd (wk fu x.2.2.2 (x.2.1.length:Int) (vJ fu b) (x.1,x.2.1,x.2.2.1)) fun r=>xfw (fun y=>ze (x.2.2.2+1) fun i=>L (y.1,y.2.1,y.2.2,i)) (fun y=>L (y.1,y.2.1,y.2.2,x.2.2.2)) r else some (x.1,x.2.1,x.2.2.1)
def ud(f:List (Bool×List Nat))(a:List (List<|Bool×List Nat))(b:(Bool×List Nat)):Option (List<|List<|Bool×List Nat):=bd (zg (fun L x=>uq fu b x L) fu (f,a,[],1)) fun x=>if 1<(x.1.length:Int)then bd (xN fu x.1) fun q=>ck ((x.2.2.length+1)*24<=140737488355328)<|nm (x.2.2++[q]) fun pr=>some pr else some x.2.2
def Uu(b:List Zr)(d:List Zr):(Int->Option (Unit⊕Bool))->Int->Option (Unit⊕Bool):=fun L a=>if 0<=a then zG a (b.length) fun f=>nm ((b.getD f (false,[]))) fun g=>zG a (d.length) fun h=>nm ((d.getD h (false,[]))) fun i=>bd (jk fu g i) fun e=>if e=0 then ze (a-1) fun j=>L j else if e<0 then some (.inr true)else some (.inr false)else some (.inl ())
def kR(d:List Zr)(e:List Zr):Option Bool:=bd (zH fu d) fun a=>bd (zH fu e) fun b=>if(a.length:Int)=(b.length:Int)then ze (((a.length:Int))-1) fun f=>bd (zg (Uu fu a b) fu f) fun g=>match g with
 |.inl _=>some false
 |.inr h=>some h else if(a.length:Int)<(b.length:Int)then some true else some false
def qH(a:List Zr)(b:List Zr):Option Int:=bd (kR fu a b) fun d=>if d then some (-1:Int)else bd (kR fu b a) fun e=>if e then some (1:Int)else some (0:Int)
def YS(f:Int)(g:Zr):((Int×Zr×Int×Zr)->Option (Int×Zr×Zr))->(Int×Zr×Int×Zr)->Option (Int×Zr×Zr):=fun L (a,b,d,e)=>if d<f then bd (zP fu e g) fun h=>ze (d+1) fun i=>L (a,b,i,h)else some (a,b,e)
def Qp(g:Zr)(d:Int):((Zr×Zr×Zr)->Option Zr)->(Zr×Zr×Zr)->Option Zr:=fun L (e,a,f)=>bd (vu fu a f) fun h=>bd (QY fu h.2 (1:Int)) fun i=>bd (yR fu false i) fun b=>bd (jk fu b a) fun j=>if j=0 then some a else bd (zW fu (1:Int)) fun k=>bd (zg (YS fu d b) fu<|(d,g,(0:Int),k)) fun(p,l,m)=>bd (jk fu m l) fun o=>if o<=0 then L (e,b,f)else L (e,a,b)
def Ql(b:Zr)(a:Int):Option (Zr×Int):=if a<1 then some (((false,[]),(1:Int)))else if 64<a then some (((false,[]),(1:Int)))else bd (xu fu b) fun e=>if e<0 then some (((false,[]),(1:Int)))else bd (zW fu (0:Int)) fun f=>bd (jZ fu b.2) fun g=>ck (a≠0)<|ze (xdd g a) fun h=>ze (h+1) fun i=>nm (min i (262144:Int)) fun j=>bd (Yx fu [(1:Nat)] j) fun(k,m)=>bd (yR fu false k) fun l=>bd (zg (Qp fu b a) fu<|((false,[]),f,l)) fun d=>some<|(d,(0:Int))
def ZE(b:List Zr):Option Int:=bd (zH fu b) fun a=>if(a.length:Int)=0 then some (8:Int)else if 65<(a.length:Int)then some (6:Int)else some (0:Int)
def UK(b:List Zr):((Int×(List Zr)×Zr×Zr)->Option ((List Zr)×Zr×Zr))->(Int×(List Zr)×Zr×Zr)->Option ((List Zr)×Zr×Zr):=fun L (d,a,e,f)=>bd ((if d<(b.length:Int)then some (((b.length:Int),true))else some (((b.length:Int),false)):Option (Int×Bool))) fun(m,h)=>if h then zG d (a.length) fun i=>nm ((a.getD i (false,[]))) fun g=>bd (zP fu g g) fun j=>bd (vu fu f j) fun k=>ze (d+1) fun l=>L (l,a,e,k)else some (a,e,f)
def wv(a:List Zr):Option (Zr×Int):=bd (ZE fu a) fun b=>if b=0 then bd (zH fu a) fun d=>bd (zW fu (-1:Int)) fun e=>bd (zg (UK fu d) fu<|((0:Int),d,(false,[]),e)) fun(f,o,g)=>bd (Ql fu g (2:Int)) fun(h,p)=>bd (zW fu (1:Int)) fun i=>bd (vu fu h i) fun j=>ze (((f.length:Int))-1) fun k=>bd (Yx fu j.2 k) fun(l,q)=>bd (qb fu (false,l)) fun m=>some ((m,(0:Int)))else some (((false,[]),b))
def Xx(d:Int)(e:Zr):((Int×Zr)->Option Int)->(Int×Zr)->Option Int:=fun L (a,b)=>bd (jk fu b e) fun f=>if f<=0 then bd (zW fu d) fun g=>bd (zP fu b g) fun h=>ze (a+1) fun i=>L (i,h)else some a
def YM(a:List Zr)(b:Int):Option Int:=bd (wv fu a) fun(d,m)=>bd (zW fu (2:Int)) fun e=>ze (((a.length:Int))-1) fun f=>zG f (a.length) fun g=>nm (a.getD g (false,[])) fun h=>bd (zP fu d h) fun i=>bd (zP fu e i) fun j=>bd (zW fu b) fun k=>bd (zg (Xx fu b j) fu<|((1:Int),k)) fun l=>some l
def Wg(a:List Zr):Option Bool:=bd (wv fu a) fun(b,k)=>bd (zW fu (2:Int)) fun d=>ze (((a.length:Int))-1) fun e=>zG e (a.length) fun f=>nm (a.getD f (false,[])) fun g=>bd (zP fu b g) fun h=>bd (zP fu d h) fun i=>bd (jZ fu i.2) fun j=>if 1000<j then some true else some false
def Yk(fu:Nat)(b:List Int)(d:List Int):(Int->Option (Unit⊕Int))->Int->Option (Unit⊕Int):=fun L a=>if 0<=a then zG a (b.length) fun e=>nm (b.getD e 0) fun f=>zG a (d.length) fun g=>nm (d.getD g 0) fun h=>if f<h then some (.inr (-1:Int))else zG a (b.length) fun i=>nm (b.getD i 0) fun j=>zG a (d.length) fun k=>nm (d.getD k 0) fun l=>if l<j then some (.inr (1:Int))else ze (a-1) fun m=>L m else some (.inl ())
def wI(a:List Int)(b:List Int):Option Int:=if(a.length:Int)=(b.length:Int)then ze (((a.length:Int))-1) fun d=>bd (zg (Yk fu a b) fu d) fun e=>match e with
 |.inl _=>some (0:Int)
 |.inr f=>some f else ze (((a.length:Int))-((b.length:Int))) fun g=>some g
def qS(fu:Nat)(a:List Int)(b:Int):Option Bool:=zG b (a.length) fun d=>nm (a.getD d 0) fun e=>if e=0 then some false else some true
def K0(b:List Int)(e:Int):((Int×(List Int))->Option (List Int))->(Int×(List Int))->Option (List Int):=fun L (a,d)=>if a<(b.length:Int)then zG a (b.length) fun f=>nm (b.getD f 0) fun g=>bd (kg fu g e) fun h=>zG a (d.length) fun i=>nm (d.set i h) fun j=>ze (a+1) fun k=>L (k,j)else some d
def ZM(a:List Int)(d:Int):Option (List Int):=jM ((a.length:Int)) fun b=>ck (8*b<=281474976710656)<|nm (xaf b 0) fun e=>bd (zg (K0 fu a d) fu<|((0:Int),e)) fun f=>some f
def Ue(fu:Nat)(a:List (List Int)):(Int->Option (Unit⊕Unit))->Int->Option (Unit⊕Unit):=fun L b=>bd ((if b<(a.length:Int)then some ((a,a,(a.length:Int),true))else some ((a,a,(a.length:Int),false)):Option ((List<|List Int)×(List<|List Int)×Int×Bool))) fun(d,e,l,g)=>if g then zG b (e.length) fun h=>nm (e.getD h []) fun f=>if 64<(f.length:Int)then some (.inr ())else zG 0 (d.length) fun i=>nm (d.getD i []) fun j=>if(f.length:Int)=(j.length:Int)then ze (b+1) fun k=>L k else some (.inr ())else some (.inl ())
def Zp(a:List (List Int))(b:Int):Option Int:=bd (wi fu b) fun d=>if d=0 then if 64<(a.length:Int)then some (1:Int)else bd (zg (Ue fu a) fu (0:Int)) fun e=>match e with
 |.inl _=>some (0:Int)
 |.inr _=>some (1:Int)else some (1:Int)
def w9(xss:List (List Int))(ix:List Nat)(r:Nat)(a p:Int)(lo n:Nat):Option (List<|List Int):=bd (zg (fun L (x:((List (List Int)×List Nat)×Nat×Nat)×(Nat×Nat)×Nat×Int)=>if x.2.2.2<(n:Int)then zG x.2.2.2 x.2.1.2 fun j=>nm (x.1.1.2.getD (x.2.1.1+j) 0) fun q=>zG a (x.1.1.1.getD q []).length fun j=>nm ((x.1.1.1.getD q []).getD j 0) fun y=>bd (zg (fun L (z:((List (List Int)×List Nat)×Nat×Nat)×(Nat×Nat)×Nat×Nat×Nat×Int)=>if z.2.2.2.2.2<((x.1.1.1.getD x.2.2.1 []).length:Int)then zG z.2.2.2.2.2 (z.1.1.1.getD z.2.2.2.1 []).length fun j=>nm ((z.1.1.1.getD z.2.2.2.1 []).getD j 0) fun v=>zG z.2.2.2.2.2 (z.1.1.1.getD z.2.2.2.2.1 []).length fun j=>nm ((z.1.1.1.getD z.2.2.2.2.1 []).getD j 0) fun u=>ze (p-y) fun e=>ze (e*v) fun e=>ze (u+e) fun e=>ck (p≠0)<|nm (xcc e p) fun e=>zG z.2.2.2.2.2 (z.1.1.1.getD z.2.2.2.2.1 []).length fun j=>nm (z.1.1.1.set z.2.2.2.2.1<|(z.1.1.1.getD z.2.2.2.2.1 []).set j e) fun yss=>ze (z.2.2.2.2.2+1) fun i=>L (((yss,z.1.1.2),z.1.2),z.2.1,z.2.2.1,z.2.2.2.1,z.2.2.2.2.1,i)else some (z.1,z.2.1,z.2.2.1)) fu (x.1,x.2.1,x.2.2.1,x.2.2.1,q,0)) fun z=>ze (x.2.2.2+1) fun i=>L (z.1,z.2.1,z.2.2,i)else some x.1) fu (((xss,ix),lo,n),(lo,n),r,0)) fun x=>ck (x.2.1=lo/\x.2.2=n/\x.1.2=ix)<|some x.1.1
def wV(fu:Nat)(b:List (List Int))(d:(List Int)->Option Bool):(Int->Option (Unit⊕Int))->Int->Option (Unit⊕Int):=fun L a=>if a<(b.length:Int)then zG a (b.length) fun e=>nm (b.getD e []) fun f=>bd (d f) fun g=>if g then some (.inr a)else ze (a+1) fun h=>L h else some (.inl ())
def yx(a:List (List Int))(b:(List Int)->Option Bool):Option Int:=bd (zg (wV fu a b) fu (0:Int)) fun d=>match d with
 |.inl _=>some (-1:Int)
 |.inr e=>some e
def kf(rows:List (List Int))(p:Int):Option (List (List Int)×Int):=bd (Zp fu rows p) fun e=>if e=0 then bd (zg (fun L (x:(List (List Int)×List Nat)×Int)=>if x.2<(rows.length:Int)then zG x.2 rows.length fun j=>nm (rows.getD j []) fun y=>bd (ZM fu y p) fun r=>ck ((x.1.2.length+1)*24<=140737488355328)<|nm (x.1.1++[r]) fun zss=>nm (x.1.2++[x.1.1.length]) fun iz=>ze (x.2+1) fun i=>L ((zss,iz),i)else some x.1) fu (([],[]),0)) fun x=>bd (zg (fun L (x:(List (List Int)×List Nat)×Int×Int)=>if x.2.1<(x.1.2.length:Int)then zG 0 x.1.2.length fun j=>nm (x.1.2.getD j 0) fun r=>if x.2.2<((x.1.1.getD r []).length:Int)then jM x.2.1 fun j=>ck (j<=x.1.2.length)<|bd (yx fu (xdt (x.1.2.length-j)<|xdA j<|x.1.2.map fun r=>x.1.1.getD r []) fun z=>qS fu z x.2.2) fun i=>if i<0 then ze (x.2.2+1) fun c=>L (x.1,x.2.1,c)else ze (x.2.1+i) fun a=>ze (x.2.1+i) fun b=>zG b x.1.2.length fun j=>nm (x.1.2.getD j 0) fun d=>zG x.2.1 x.1.2.length fun j=>nm (x.1.2.getD j 0) fun f=>zG x.2.1 x.1.2.length fun j=>nm (x.1.2.set j d) fun ix=>zG a ix.length fun j=>nm (ix.set j f) fun ix=>zG x.2.1 ix.length fun j=>nm (ix.getD j 0) fun r=>zG x.2.2 (x.1.1.getD r []).length fun j=>nm ((x.1.1.getD r []).getD j 0) fun y=>bd (Xl fu y p) fun q=>zG x.2.1 ix.length fun j=>nm (ix.getD j 0) fun r=>bd (zg (fun L (z:(List (List Int)×List Nat)×Nat×Int)=>if z.2.2<((x.1.1.getD r []).length:Int)then zG z.2.2 (z.1.1.getD z.2.1 []).length fun j=>nm ((z.1.1.getD z.2.1 []).getD j 0) fun y=>zG x.2.1 z.1.2.length fun j=>nm (z.1.2.getD j 0) fun r=>ze (y*q.1) fun e=>ck (p≠0)<|nm (xcc e p) fun e=>zG z.2.2 (z.1.1.getD r []).length fun j=>nm (z.1.1.set r<|(z.1.1.getD r []).set j e) fun yss=>ze (z.2.2+1) fun i=>L ((yss,z.1.2),z.2.1,i)else some z.1) fu ((x.1.1,ix),r,0)) fun m=>zG x.2.1 m.2.length fun j=>nm (m.2.getD j 0) fun r=>jM x.2.1 fun j=>ck (j<=m.2.length)<|bd (w9 fu m.1 m.2 r x.2.2 p 0 j) fun yss=>zG x.2.1 m.2.length fun j=>nm (m.2.getD j 0) fun r=>ze (x.2.1+1) fun e=>jM e fun j=>ck (j<=m.2.length)<|bd (w9 fu yss m.2 r x.2.2 p j<|m.2.length-j) fun yss=>ze (x.2.1+1) fun k=>ze (x.2.2+1) fun c=>L ((yss,m.2),k,c)else some (x.1,x.2.1)else some (x.1,x.2.1)) fu (x,0,0)) fun x=>jM x.2 fun j=>ck (j<=(x.1.2.map fun r=>x.1.1.getD r []).length)<|nm (xdt j<|x.1.2.map fun r=>x.1.1.getD r []) fun ys=>some (ys,0)else some ([],e)
def ug(fu:Nat)(a:Int):Option Bool:=if a=0 then some false else some true
def wb(fu:Nat)(b:List Int)(d:Int->Option Bool):(Int->Option (Unit⊕Int))->Int->Option (Unit⊕Int):=fun L a=>if a<(b.length:Int)then zG a (b.length) fun e=>nm (b.getD e 0) fun f=>bd (d f) fun g=>if g then some (.inr a)else ze (a+1) fun h=>L h else some (.inl ())
def y5(a:List Int)(b:Int->Option Bool):Option Int:=bd (zg (wb fu a b) fu (0:Int)) fun d=>match d with
 |.inl _=>some (-1:Int)
 |.inr e=>some e
def Y2(a:List Int):Option Int:=bd (y5 fu a<|fun zx0=>ug fu zx0) fun b=>some b
def vd(a:List Int)(b:Int):Option Bool:=bd (Y2 fu a) fun d=>if d=b then some true else some false
def xr(a:List (List Int))(b:(List Int)->Option Bool):Option Bool:=bd (yx fu a b) fun d=>if 0<=d then some true else some false
def QC(d:Int)(i:Int)(j:Int)(a:List (List Int))(k:Int):((Int×(List<|List Int)×(List Int))->Option ((List<|List Int)×(List Int)))->(Int×(List<|List Int)×(List Int))->Option ((List<|List Int)×(List Int)):=fun L (e,l,f)=>bd ((if e<(a.length:Int)then some ((i,j,a,d,k,d,a,(a.length:Int),true))else some ((i,j,a,d,k,d,a,(a.length:Int),false)):Option (Int×Int×(List<|List Int)×Int×Int×Int×(List<|List Int)×Int×Bool))) fun(A,m,B,o,C,E,b,p,q)=>if q then zG e (b.length) fun r=>nm (b.getD r []) fun g=>bd (Y2 fu g) fun s=>zG o (g.length) fun t=>nm (g.getD t 0) fun u=>ze (0-u) fun v=>bd (kg fu v m) fun w=>zG s (f.length) fun x=>nm (f.set x w) fun h=>ze (e+1) fun y=>L (y,l,h)else some (l,f)
def bE(b:Int)(h:Int)(i:List (List Int)):(((List<|List Int)×Int)->Option (List<|List Int))->((List<|List Int)×Int)->Option (List<|List Int):=fun L (f,a)=>bd ((if a<b then some (b,h,i,b,true)else some (b,h,i,b,false):Option (Int×Int×(List<|List Int)×Int×Bool))) fun(j,o,k,p,q)=>if q then bd (xr fu k<|fun zx0=>vd fu zx0 a) fun r=>if r then ze (a+1) fun s=>L (f,s)else jM j fun l=>ck (8*l<=281474976710656)<|nm (xaf l 0) fun m=>zG a (m.length) fun t=>nm (m.set t (1:Int)) fun u=>bd (zg (QC fu a j o k p) fu<|((0:Int),f,u)) fun(d,e)=>ck ((d.length+([e]).length)*24<=140737488355328)<|nm (d++([e])) fun g=>ze (a+1) fun v=>L (g,v)else some f
def Xk(a:List (List Int))(b:Int)(d:Int):Option ((List<|List Int)×Int):=bd ((bd (Zp fu a d) fun f=>if f=0 then if b<0 then some (.inr ())else if 64<b then some (.inr ())else if 0<(a.length:Int)then zG 0 (a.length) fun g=>nm (a.getD g []) fun h=>if(h.length:Int)=b then some (.inl ())else some (.inr ())else some (.inl ())else some (.inr ()):Option (Unit⊕Unit))) fun i=>match i with
 |.inl _=>bd (kf fu a d) fun(j,k)=>bd (zg (bE fu b d j) fu<|([],(0:Int))) fun e=>some<|(e,(0:Int))
 |.inr _=>some<|([],(1:Int))
def qV(e:List Int)(f:List Int)(a:Int):Option ((List Int)×(List Int)×Int):=bd (wi fu a) fun b=>if b=0 then bd (zT fu f a) fun d=>if(d.length:Int)=0 then some (([],[],(3:Int)))else bd (zT fu e a) fun g=>bd (xk fu g d a) fun(h,i)=>some ((h,i,(0:Int)))else some ([],[],b)
def YD(i:Zr)(d:Int)(j:List Int):(((List Int)×(List Int)×Int)->Option (List Int))->((List Int)×(List Int)×Int)->Option (List Int):=fun L (e,f,a)=>if 0<=a then bd (xT fu e e d) fun l=>bd (xk fu l j d) fun(m,b)=>ck ((64:Int)≠0)<|ze (xdd a (64:Int)) fun o=>zG o (i.2.length) fun p=>nm (i.2.getD p 0) fun q=>ck ((64:Int)≠0)<|nm (xcc a (64:Int)) fun k=>ck (0<=k)<|nm (q/2^(min (k:Int).toNat 64)) fun r=>nm (r &&& ((1:Nat))) fun s=>if(s:Int)=(((1:Nat):Nat):Int)then bd (xT fu b f d) fun g=>bd (xk fu g j d) fun(t,h)=>ze (a-1) fun u=>L (h,f,u)else ze (a-1) fun v=>L (b,f,v)else some e
def kj(f:List Int)(d:Zr)(g:List Int)(a:Int):Option ((List Int)×Int):=bd (wi fu a) fun h=>if h=0 then bd (xu fu d) fun i=>if i<0 then some (([],(1:Int)))else bd (zT fu g a) fun b=>if(b.length:Int)=0 then some (([],(3:Int)))else bd (xk fu [(1:Int)] b a) fun(p,j)=>bd (zT fu f a) fun k=>bd (xk fu k b a) fun(q,l)=>bd (jZ fu d.2) fun m=>ze (m-1) fun o=>bd (zg (YD fu d a b) fu (j,l,o)) fun e=>some ((e,(0:Int)))else some (([],(1:Int)))
def Zs(f:List Int)(p:Int):Option (List<|List Int):=ze ((f.length:Int)-1) fun n=>jM n fun m=>ck (24*m<=281474976710656)<|nm (xaf m 0) fun ix=>bd (zg (fun L (x:(List (List Int)×List Nat)×Int)=>if x.2<(ix.length:Int)then jM n fun m=>ck (8*m<=281474976710656)<|nm (xaf m 0) fun ys=>zG x.2 x.1.2.length fun j=>nm (x.1.1++[ys]) fun xss=>nm (x.1.2.set j x.1.1.length) fun ix=>ze (x.2+1) fun i=>L ((xss,ix),i)else some x.1) fu (([[]],ix),0)) fun x=>bd (zW fu p) fun z=>bd (kj fu [0,1] z f p) fun q=>bd (zg (fun L (x:(List (List Int)×List Nat)×List Int×List Int×Int)=>if x.2.2.2<n then bd (zg (fun L (y:(List (List Int)×List Nat)×Int)=>if y.2<(x.2.1.length:Int)then zG y.2 x.2.1.length fun j=>nm (x.2.1.getD j 0) fun v=>zG y.2 y.1.2.length fun j=>nm (y.1.2.getD j 0) fun r=>zG x.2.2.2 (y.1.1.getD r []).length fun j=>nm (y.1.1.set r<|(y.1.1.getD r []).set j v) fun yss=>ze (y.2+1) fun i=>L ((yss,y.1.2),i)else some y.1) fu (x.1,0)) fun y=>zG x.2.2.2 y.2.length fun j=>nm (y.2.getD j 0) fun r=>zG x.2.2.2 (y.1.getD r []).length fun j=>nm ((y.1.getD r []).getD j 0) fun v=>ze (v-1) fun e=>zG x.2.2.2 (y.1.getD r []).length fun j=>nm (y.1.set r<|(y.1.getD r []).set j e) fun yss=>bd (q9 fu x.2.1 x.2.2.1 p) fun u=>bd (qV fu u.1 f p) fun w=>ze (x.2.2.2+1) fun i=>L ((yss,y.2),w.2.1,x.2.2.1,i)else some x.1) fu (x,[1],q.1,0)) fun x=>bd (Xk fu (x.2.map fun r=>x.1.getD r []) n p) fun r=>some r.1
def aj(a:List Int)(b:List Int)(d:Int):Option (List Int):=bd (qV fu a b d) fun(e,f,g)=>some e
def Jn(a:List Int)(b:List Int)(d:Int):Option (List Int):=bd (qX fu a b d) fun(e,f)=>some e
def uI(b:Int)(a:List Int)(d:Int):Option Int:=if b<(a.length:Int)then zG b (a.length) fun e=>nm (a.getD e 0) fun f=>bd (kg fu f d) fun g=>some g else ze (b-((a.length:Int))) fun h=>some h
def VU(d:List Int)(e:List Int)(a:Int):Option ((List Int)×Int):=bd (wi fu a) fun b=>if b=0 then bd (zT fu d a) fun f=>bd (zT fu e a) fun g=>bd (Zh fu f g (1:Int) a) fun h=>some ((h,(0:Int)))else some ([],b)
def WB(d:List Int)(e:Int)(f:List Int)(a:Int):Option (List Int):=bd (VU fu d [e] a) fun(b,l)=>if 2<a then ze (a-1) fun g=>ck ((2:Int)≠0)<|ze (xdd g (2:Int)) fun h=>bd (zW fu h) fun i=>bd (kj fu b i f a) fun(j,m)=>bd (Y9 fu j [(1:Int)] a) fun(k,o)=>some k else some b
def XW(v:Int)(w:List Int)(h:List (List Int))(e:Int)(k:List Int)(l:Int)(i:Int)(m:List (List Int))(o:Int)(j:List Int):(((List<|List Int)×Int)->Option ((List<|List Int)⊕(List<|List Int)))->((List<|List Int)×Int)->Option ((List<|List Int)⊕(List<|List Int)):=fun L (a,d)=>if d<(a.length:Int)then if(a.length:Int)=(h.length:Int)then some (.inl a)else bd (uI fu i w v) fun x=>zG d (a.length) fun y=>nm ((a.getD y [])) fun A=>bd (WB fu j x A e) fun p=>zG d (a.length) fun B=>nm ((a.getD B [])) fun q=>bd (Jn fu p q e) fun b=>bd ((if 1<(b.length:Int)then zG d (a.length) fun C=>nm ((a.getD C [])) fun r=>if(b.length:Int)<(r.length:Int)then some (h,e,k,i,j,m,o,l,true)else some (h,e,k,i,j,m,o,l,false)else some (h,e,k,i,j,m,o,l,false):Option ((List<|List Int)×Int×(List Int)×Int×(List Int)×(List<|List Int)×Int×Int×Bool))) fun(E,s,G,P,H,I,Q,R,J)=>if J then zG d (a.length) fun K=>nm ((a.getD K [])) fun t=>bd (aj fu t b s) fun f=>ck ((a.length+([f]).length)*24<=140737488355328)<|nm (a++([f])) fun g=>zG d (g.length) fun M=>nm (g.set M b) fun u=>ze (d+1) fun N=>L (u,N)else ze (d+1) fun O=>L (a,O)else some (.inr a)
def XA(l:Int)(m:List Int)(j:Int)(a:List (List Int)):(((List<|List Int)×Int×(List Int)×(List<|List Int)×Int)->Option ((List<|List Int)⊕((List<|List Int)×Int×(List Int)×(List<|List Int))))->((List<|List Int)×Int×(List Int)×(List<|List Int)×Int)->Option ((List<|List Int)⊕((List<|List Int)×Int×(List Int)×(List<|List Int))):=fun L (d,e,f,k,b)=>bd ((if b<(a.length:Int)then some ((j,a,(a.length:Int),true))else some ((j,a,(a.length:Int),false)):Option (Int×(List<|List Int)×Int×Bool))) fun(o,g,p,q)=>if q then zG b (g.length) fun r=>nm (g.getD r []) fun s=>bd (zg (XW fu l m d e f b o g p s) fu<|(k,(0:Int))) fun t=>match t with
 |.inl h=>some (.inl h)
 |.inr i=>ze (b+1) fun u=>L (d,e,f,i,u)else some (.inr (d,e,f,k))
def XD(a:List (List Int))(b:Int)(d:List Int):(((List<|List Int)×Int)->Option (List<|List Int))->((List<|List Int)×Int)->Option (List<|List Int):=fun L (h,e)=>ze (b+((d.length:Int))) fun j=>if e<j then jM (1:Int) fun i=>ck (i<=a.length)<|nm (a.drop i) fun k=>bd (zg (XA fu b d e k) fu<|(a,b,d,h,(0:Int))) fun l=>match l with
 |.inl f=>some f
 |.inr (m,o,p,g)=>ze (e+1) fun q=>L (g,q)else some h
def YY(b:List Int)(d:List (List Int))(e:Int)(f:List Int):Option (List<|List Int):=bd (zg (XD fu d e f) fu<|([b],(0:Int))) fun a=>some a
def qm(e:List Int)(b:Int):Option ((List Int)×Int):=bd (wi fu b) fun d=>if d=0 then bd (zT fu e b) fun a=>if(a.length:Int)=0 then some (([],(0:Int)))else ze (((a.length:Int))-1) fun f=>zG f (a.length) fun g=>nm ((a.getD g 0)) fun h=>bd (vr fu a h b) fun i=>some ((i,(0:Int)))else some ([],d)
def Jz(d:List Int)(e:Int):Option ((List Int)×Int):=bd (qm fu d e) fun(a,b)=>if b=0 then if(a.length:Int)=0 then some (([],(8:Int)))else if 65<(a.length:Int)then some (([],(6:Int)))else some ((a,(0:Int)))else some ([],b)
def J5(fu:Nat)(f:Int)(e:List Int):(((List Int)×Int×(List Int))->Option (List Int))->((List Int)×Int×(List Int))->Option (List Int):=fun L (b,a,d)=>bd ((if a<(e.length:Int)then some ((f,(e.length:Int),true))else some ((f,(e.length:Int),false)):Option (Int×Int×Bool))) fun(g,q,i)=>if i then zG a (d.length) fun j=>nm ((d.getD j 0)) fun k=>if 0<a then ck (g≠0)<|nm (xcc a g) fun l=>ze (l*k) fun h=>ck ((b.length+([h]).length)*8<=140737488355328)<|nm (b++([h])) fun m=>ze (a+1) fun o=>L (m,o,d)else ze (a+1) fun p=>L (b,p,d)else some b
def YU(e:List Int)(a:Int):Option ((List Int)×Int):=bd (wi fu a) fun b=>if b=0 then bd (zT fu e a) fun d=>bd (zg (J5 fu a d) fu<|([],(0:Int),d)) fun f=>bd (zT fu f a) fun g=>some ((g,(0:Int)))else some ([],b)
def X9(d:List Int)(e:Int):Option ((List Int)×Int):=bd (qm fu d e) fun(a,b)=>if b=0 then if(a.length:Int)=0 then some (([],(8:Int)))else some (a,b)else some (a,b)
def Za(e:List Int)(a:Int):Option (Bool×Int):=bd (X9 fu e a) fun(b,d)=>if d=0 then bd (YU fu b a) fun(f,h)=>bd (qX fu b f a) fun(g,i)=>if(g.length:Int)=1 then some ((true,(0:Int)))else some ((false,(0:Int)))else some (false,d)
def ju(e:List Int)(a:Int):Option ((List Int)×Int):=bd (Jz fu e a) fun(b,d)=>if d=0 then bd (Za fu b a) fun(f,g)=>if !f then some (([],(1:Int)))else some ((b,(0:Int)))else some ([],d)
def jm(a:Nat):Option Int:=bd (xw fu a) fun b=>some b
def wJ(fu:Nat)(g:(List Int)->(List Int)->Option Int):((Int×Int×Int×(List<|List Int))->Option (Int×Int×(List<|List Int)))->(Int×Int×Int×(List<|List Int))->Option (Int×Int×(List<|List Int)):=fun L (d,e,b,a)=>if d<b then zG b (a.length) fun h=>nm ((a.getD h [])) fun i=>ze (b-1) fun j=>zG j (a.length) fun k=>nm ((a.getD k [])) fun l=>bd (g i l) fun m=>if m<0 then ze (b-1) fun o=>ze (b-1) fun p=>zG p (a.length) fun q=>nm ((a.getD q [])) fun r=>zG b (a.length) fun s=>nm ((a.getD s [])) fun t=>zG b (a.length) fun u=>nm (a.set u r) fun f=>zG o (f.length) fun v=>nm (f.set v t) fun w=>ze (b-1) fun x=>L (d,e,x,w)else some (d,e,a)else some (d,e,a)
def xf(e:Int)(b:Int)(f:(List Int)->(List Int)->Option Int):((Int×(List<|List Int))->Option (List<|List Int))->(Int×(List<|List Int))->Option (List<|List Int):=fun L (a,d)=>if a<b then bd (zg (wJ fu f) fu (e,b,a,d)) fun(i,j,g)=>ze (a+1) fun h=>L (h,g)else some d
def xo(d:List (List Int))(b:Int)(e:Int)(f:(List Int)->(List Int)->Option Int):Option (List<|List Int):=ze (b+1) fun g=>bd (zg (xf fu b e f) fu (g,d)) fun a=>some a
def vW(d:(List Int)->(List Int)->Option Int):((Int×Int×Int×(List<|List Int))->Option (List<|List Int))->(Int×Int×Int×(List<|List Int))->Option (List<|List Int):=fun L (a,b,e,f)=>ze (b-a) fun g=>if g<=12 then bd (xo fu f a b d) fun h=>some h else if e=0 then none else none
def qQ:Nat->(List<|List Int)->Int->Int->Int->((List Int)->(List Int)->Option Int)->Option (List<|List Int)
 |0,_,_,_,_,_=>none
 |fu+1,a,b,d,e,f=>bd (zg (vW fu f) fu (b,d,e,a)) fun g=>some g
def xC(a:List (List Int))(b:(List Int)->(List Int)->Option Int):Option (List<|List Int):=nm (gI<|(a.length:Int)) fun d=>bd (jm fu d) fun e=>bd (qQ fu a (0:Int) ((a.length:Int)) e b) fun f=>some f
def ZN(g:List Int)(a:Int)(b:List Int):Option ((List<|List Int)×Int):=bd (ju fu g a) fun(d,e)=>if e=0 then if(d.length:Int)=1 then some ([],e)else bd (Zs fu d a) fun h=>nm (min ((b.length:Int)) (64:Int)) fun i=>jM i fun f=>ck (f<=b.length)<|nm (b.take f) fun j=>bd (YY fu d h a j) fun k=>bd (xC fu k<|fun zx0 zx1=>wI fu zx0 zx1) fun l=>some ((l,(0:Int)))else some ([],e)
def Vt:(Int->Option Int)->Int->Option Int:=fun L a=>bd (jO fu a) fun b=>if !b then ze (a+1) fun d=>L d else some a
def xQ(a:Int):Option (Int×Int):=if 65521<=a then some (((0:Int),(5:Int)))else nm (max a (1:Int)) fun b=>ze (b+1) fun d=>bd (zg (Vt fu) fu d) fun e=>some<|(e,(0:Int))
def Wj(a:List Zr)(b:Int):Option (Bool×Int):=bd (wv fu a) fun(i,d)=>if d=0 then bd (jO fu b) fun f=>if !f then some ((false,(0:Int)))else bd (ke fu a b) fun(e,j)=>bd (zH fu a) fun g=>if(e.length:Int)=(g.length:Int)then bd (Za fu e b) fun(h,k)=>some ((h,(0:Int)))else some ((false,(0:Int)))else some (false,d)
def W5(m:List Zr)(o:List Int):((Int×Int×(List<|List Int)×Int×Int)->Option (Int×(List<|List Int)))->(Int×Int×(List<|List Int)×Int×Int)->Option (Int×(List<|List Int)):=fun L (b,e,d,a,p)=>if p=0 then if e<5 then bd (Wj fu m a) fun(q,v)=>if !q then bd (xQ fu a) fun(r,s)=>L (b,e,d,r,s)else ze (e+1) fun f=>bd (ke fu m a) fun(t,w)=>bd (ZN fu t a o) fun(g,x)=>if b=0 then bd (xQ fu a) fun(u,h)=>L (a,f,g,u,h)else if(g.length:Int)<(d.length:Int)then bd (xQ fu a) fun(i,j)=>L (a,f,g,i,j)else bd (xQ fu a) fun(k,l)=>L (b,f,d,k,l)else some (b,d)else some (b,d)
def Wx(a:List Zr)(b:List Int):Option (Int×(List<|List Int)):=bd (xQ fu (1:Int)) fun(d,e)=>bd (zg (W5 fu a b) fu<|((0:Int),(0:Int),[],d,e)) fun(f,g)=>some (f,g)
def lA(a:Int):((Int×Zr×Zr)->Option (Zr×Zr))->(Int×Zr×Zr)->Option (Zr×Zr):=fun L (b,d,e)=>bd ((if b<a then some (a,a,true)else some (a,a,false):Option (Int×Int×Bool))) fun(f,q,g)=>if g then ze (f+b) fun h=>ze (h+1) fun i=>bd (zW fu i) fun j=>bd (zP fu e j) fun k=>ze (b+1) fun l=>bd (zW fu l) fun m=>bd (jh fu k m) fun(o,r)=>ze (b+1) fun p=>L (p,d,o)else some (d,e)
def KJ(a:Int):Option Zr:=bd (zW fu (1:Int)) fun b=>bd (zg (lA fu a) fu<|((0:Int),(false,[]),b)) fun(e,d)=>some d
def mJ:((Int×Zr×Zr)->Option Zr)->(Int×Zr×Zr)->Option Zr:=fun L (b,a,d)=>if 0<b then nm (eH b (1:Int)) fun e=>if e=1 then bd (zP fu d a) fun f=>bd (zP fu a a) fun g=>nm (xfT b<|2^(min (((1:Nat)):Int).toNat 64)) fun h=>L (h,g,f)else bd (zP fu a a) fun i=>nm (xfT b<|2^(min (((1:Nat)):Int).toNat 64)) fun j=>L (j,i,d)else some d
def uo(a:Zr)(b:Int):Option Zr:=bd (zW fu (1:Int)) fun d=>bd (zg (mJ fu) fu (b,a,d)) fun e=>some e
def nj(a:List Zr)(d:List Zr):((Int×Zr×Zr)->Option (Zr×Zr))->(Int×Zr×Zr)->Option (Zr×Zr):=fun L (b,e,f)=>bd ((if b<(a.length:Int)then some ((d,a,(a.length:Int),true))else some ((d,a,(a.length:Int),false)):Option ((List Zr)×(List Zr)×Int×Bool))) fun(g,h,r,i)=>if i then zG b (h.length) fun j=>nm (h.getD j (false,[])) fun k=>zG b (g.length) fun l=>nm (g.getD l (false,[])) fun m=>bd (zP fu k m) fun o=>bd (vu fu f o) fun p=>ze (b+1) fun q=>L (q,e,p)else some (e,f)
def bh(a:List Zr)(b:List Zr):Option Zr:=bd (zW fu (0:Int)) fun d=>bd (zg (nj fu a b) fu<|((0:Int),(false,[]),d)) fun(f,e)=>some e
def bU(a:List Zr)(b:List Zr):Option (Zr×Int):=if(a.length:Int)=(b.length:Int)then bd (bh fu a b) fun d=>some ((d,(0:Int)))else some (((false,[]),(1:Int)))
def KF(a:List Zr):Option Zr:=bd (bU fu a a) fun(b,d)=>some b
def si(f:Zr)(a:Zr):((Int×Zr)->Option (Unit⊕Int))->(Int×Zr)->Option (Unit⊕Int):=fun L (b,e)=>if b<=1000 then bd (jk fu e f) fun g=>if 0<g then some (.inr b)else bd (zP fu e a) fun d=>ze (b+1) fun h=>L (h,d)else some (.inl ())
def gk(g:List Zr)(h:Int)(d:Int):Option (Int×Int):=bd (wv fu g) fun(A,i)=>if i=0 then bd (xN fu g) fun j=>ze (((j.length:Int))-1) fun a=>bd (jO fu h) fun k=>if !k then some (((0:Int),(1:Int)))else if d<1 then some (((0:Int),(1:Int)))else if a<d then some (((0:Int),(1:Int)))else ze (a-1) fun e=>bd (zW fu (2:Int)) fun l=>ze (e*a) fun m=>bd (uo fu l m) fun o=>bd (KJ fu e) fun p=>bd (uo fu p a) fun q=>bd (KF fu j) fun r=>ze (e+a) fun s=>bd (uo fu r s) fun t=>bd (zP fu q t) fun u=>bd (zP fu o u) fun v=>bd (zW fu h) fun f=>ze ((2:Int)*d) fun w=>bd (uo fu f w) fun b=>bd (zg (si fu v b) fu<|((1:Int),b)) fun x=>match x with
 |.inl _=>some<|((0:Int),(6:Int))
 |.inr y=>some ((y,(0:Int)))else some (((0:Int),i))
def ny(a:List Int)(b:List Int)(d:Int):Option Bool:=bd (qV fu b a d) fun(f,e,g)=>if(e.length:Int)=0 then some true else some false
def XO(e:Int):(((List Zr)×(List<|List Int))->Option ((List Zr)×(List<|List Int)))->((List Zr)×(List<|List Int))->Option ((List Zr)×(List<|List Int)):=fun L (b,a)=>if 12<(a.length:Int)then zG 0 (a.length) fun f=>nm (a.getD f []) fun g=>ze (((g.length:Int))-1) fun h=>bd (gk fu b e h) fun(i,j)=>if j=0 then bd (qh fu b a e i) fun(d,l)=>if(d.length:Int)=0 then some (b,a)else zG 0 (d.length) fun k=>nm ((d.getD k [])) fun m=>none else some (b,a)else some (b,a)
def YX(a:List Zr)(b:List (List Int))(d:Int):Option ((List<|List Zr)×(List Zr)×(List<|List Int)):=bd (zg (XO fu d) fu (a,b)) fun(e,f)=>some ([],e,f)
def xL(fu:Nat)(g:(List Zr)->(List Zr)->Option Int):((Int×Int×Int×(List<|List Zr))->Option (Int×Int×(List<|List Zr)))->(Int×Int×Int×(List<|List Zr))->Option (Int×Int×(List<|List Zr)):=fun L (d,e,b,a)=>if d<b then zG b (a.length) fun h=>nm ((a.getD h [])) fun i=>ze (b-1) fun j=>zG j (a.length) fun k=>nm ((a.getD k [])) fun l=>bd (g i l) fun m=>if m<0 then ze (b-1) fun o=>ze (b-1) fun p=>zG p (a.length) fun q=>nm ((a.getD q [])) fun r=>zG b (a.length) fun s=>nm ((a.getD s [])) fun t=>zG b (a.length) fun u=>nm (a.set u r) fun f=>zG o (f.length) fun v=>nm (f.set v t) fun w=>ze (b-1) fun x=>L (d,e,x,w)else some (d,e,a)else some (d,e,a)
def yU(e:Int)(b:Int)(f:(List Zr)->(List Zr)->Option Int):((Int×(List<|List Zr))->Option (List<|List Zr))->(Int×(List<|List Zr))->Option (List<|List Zr):=fun L (a,d)=>if a<b then bd (zg (xL fu f) fu (e,b,a,d)) fun(i,j,g)=>ze (a+1) fun h=>L (h,g)else some d
def y8(d:List (List Zr))(b:Int)(e:Int)(f:(List Zr)->(List Zr)->Option Int):Option (List<|List Zr):=ze (b+1) fun g=>bd (zg (yU fu b e f) fu (g,d)) fun a=>some a
def wZ(d:(List Zr)->(List Zr)->Option Int):((Int×Int×Int×(List<|List Zr))->Option (List<|List Zr))->(Int×Int×Int×(List<|List Zr))->Option (List<|List Zr):=fun L (a,b,e,f)=>ze (b-a) fun g=>if g<=12 then bd (y8 fu f a b d) fun h=>some h else if e=0 then none else none
def vm:Nat->(List<|List Zr)->Int->Int->Int->((List Zr)->(List Zr)->Option Int)->Option (List<|List Zr)
 |0,_,_,_,_,_=>none
 |fu+1,a,b,d,e,f=>bd (zg (wZ fu f) fu (b,d,e,a)) fun g=>some g
def yn(a:List (List Zr))(b:(List Zr)->(List Zr)->Option Int):Option (List<|List Zr):=nm (gI<|(a.length:Int)) fun d=>bd (jm fu d) fun e=>bd (vm fu a (0:Int) ((a.length:Int)) e b) fun f=>some f
def WG(a:List Zr)(h:List Int):Option ((List<|List Zr)×Bool):=if(a.length:Int)<2 then some ([],true)else bd (Wg fu a) fun i=>if i then some ([],false)else bd (Wx fu a h) fun(b,j)=>if b=0 then some ([],false)else bd (YM fu a b) fun f=>bd (vz fu b f) fun(k,r)=>bd (YX fu a j b) fun(d,e,l)=>if 1<(e.length:Int)then bd (qh fu e l b f) fun(m,s)=>bd (ud fu e m k) fun g=>ck ((d.length+g.length)*24<=140737488355328)<|nm (d++g) fun o=>bd (yn fu o<|fun zx0 zx1=>qH fu zx0 zx1) fun p=>some (p,true)else bd (yn fu d<|fun zx0 zx1=>qH fu zx0 zx1) fun q=>some (q,true)
def UZ(d:Zr)(e:Int):((Int×Zr)->Option Zr)->(Int×Zr)->Option Zr:=fun L (a,b)=>if a<e then bd (zP fu b d) fun f=>ze (a+1) fun g=>L (g,f)else some b
def WQ(a:Zr)(b:Int):Option Zr:=bd (zW fu (1:Int)) fun d=>bd (zg (UZ fu a b) fu<|((0:Int),d)) fun e=>some e
def XR(m:Zr):(((List Zr)×(List Zr)×Int×(List Zr))->Option ((List Zr)×(List Zr)))->((List Zr)×(List Zr)×Int×(List Zr))->Option ((List Zr)×(List Zr)):=fun L (d,b,a,f)=>if 0<=a then ze (a+((d.length:Int))) fun o=>if(b.length:Int)<o then ze (a-1) fun p=>L (d,b,p,f)else ze (a+((d.length:Int))) fun q=>ze (q-1) fun r=>zG r (b.length) fun s=>nm ((b.getD s (false,[]))) fun t=>bd (jh fu t m) fun(u,v)=>zG a (f.length) fun w=>nm (f.set w u) fun g=>jM a fun k=>ck (32*k<=281474976710656)<|nm (xaf k (false,[])) fun l=>zG a (g.length) fun x=>nm ((g.getD x (false,[]))) fun y=>bd (vc fu d y) fun e=>ck ((l.length+e.length)*32<=140737488355328)<|nm (l++e) fun h=>bd (q8 fu b h) fun i=>ze (a-1) fun j=>L (d,i,j,g)else some (b,f)
def YP(j:List Zr)(k:List Zr):Option ((List Zr)×(List Zr)×Int):=bd (zH fu j) fun g=>bd (zH fu k) fun a=>if(a.length:Int)=0 then some (([],[],(3:Int)))else ze (((g.length:Int))-((a.length:Int))) fun l=>ze (l+1) fun m=>nm (max m (0:Int)) fun b=>ze (((a.length:Int))-1) fun o=>zG o (a.length) fun p=>nm ((a.getD p (false,[]))) fun h=>bd (WQ fu h b) fun q=>bd (vc fu g q) fun r=>jM b fun i=>ck (32*i<=281474976710656)<|nm (xaf i (false,[])) fun s=>ze (b-1) fun t=>bd (zg (XR fu h) fu (a,r,t,s)) fun(d,e)=>bd (zH fu e) fun f=>some<|(f,d,(0:Int))
def JD:(((List Zr)×(List Zr))->Option (List Zr))->((List Zr)×(List Zr))->Option (List Zr):=fun L (b,a)=>if 0<(a.length:Int)then bd (YP fu b a) fun(f,d,g)=>bd (xN fu d) fun e=>L (a,e)else some b
def Jk(a:List Zr)(b:List Zr):Option (List Zr):=bd (wU fu a) fun d=>bd (wU fu b) fun e=>bd (Vc fu d e) fun f=>bd (xN fu a) fun g=>bd (xN fu b) fun h=>bd (zg (JD fu) fu (g,h)) fun i=>bd (vc fu i f) fun j=>some j
def Xw(a:Int)(b:Zr):Option Zr:=bd (zW fu a) fun d=>bd (zP fu b d) fun e=>some e
def YJ(d:List Zr):Option (List Zr):=bd (zB fu d<|fun zx0 zx1=>Xw fu zx0 zx1) fun a=>nm (min ((a.length:Int)) (1:Int)) fun e=>jM e fun b=>ck (b<=a.length)<|nm (a.drop b) fun f=>bd (zH fu f) fun g=>some g
def lB(a:List Zr)(b:List Zr):Option (List Zr):=bd (wG fu a b) fun(d,e)=>some d
def wH(b:List Zr):Option ((List Zr)×Int):=bd (ZE fu b) fun d=>if d=0 then bd (xN fu b) fun a=>bd (YJ fu a) fun e=>bd (Jk fu a e) fun f=>bd (lB fu a f) fun g=>some ((g,(0:Int)))else some ([],d)
def Yl(g:List Zr)(a:List (List Zr)):(((List<|(List Zr)×Int)×Int×Zr×(List<|List Zr))->Option ((List<|(List Zr)×Int)×Zr))->((List<|(List Zr)×Int)×Int×Zr×(List<|List Zr))->Option ((List<|(List Zr)×Int)×Zr):=fun L (b,d,h,e)=>bd ((if d<(a.length:Int)then some ((g,(a.length:Int),true))else some ((g,(a.length:Int),false)):Option ((List Zr)×Int×Bool))) fun(j,p,k)=>if k then zG d (e.length) fun l=>nm ((e.getD l [])) fun f=>bd (Zq fu j f) fun i=>ck ((b.length+([(f,i)]).length)*32<=140737488355328)<|nm (b++([(f,i)])) fun m=>ze (d+1) fun o=>L (m,o,h,e)else some (b,h)
def yB(a:List Zr)(e:List Int):Option (Zr×(List<|(List Zr)×Int)×Int):=bd (wH fu a) fun(f,b)=>if b=0 then bd (WG fu f e) fun(d,g)=>if !g then some (((false,[]),[],(6:Int)))else bd (zg (Yl fu a d) fu<|([],(0:Int),(false,[]),d)) fun(h,i)=>bd (wU fu a) fun j=>some ((j,h,(0:Int)))else some (((false,[]),[],b))
def uM(d:List Zr):Option (Bool×Int):=bd (yB fu d []) fun(g,b,a)=>if a=0 then if(b.length:Int)=1 then zG 0 (b.length) fun e=>nm (((b.getD e ([],0))).2) fun f=>if f=1 then some (true,a)else some (false,a)else some (false,a)else some (false,a)
def Z7(fu:Nat):((Int×Int×(List Nat))->Option (List Nat))->(Int×Int×(List Nat))->Option (List Nat):=fun L (b,d,a)=>if b<d then zG d (a.length) fun f=>nm ((a.getD f 0)) fun g=>zG b (a.length) fun h=>nm ((a.getD h 0)) fun i=>zG b (a.length) fun j=>nm (a.set j g) fun e=>zG d (e.length) fun k=>nm (e.set k i) fun l=>ze (b+1) fun m=>ze (d-1) fun o=>L (m,o,l)else some a
def qY(a:List Nat):Option (List Nat):=ze (((a.length:Int))-1) fun b=>bd (zg (Z7 fu) fu<|((0:Int),b,a)) fun d=>some d
def pZ(fu:Nat)(f:Bool):((Nat×(List Nat))->Option (List Nat))->(Nat×(List Nat))->Option (List Nat):=fun L (b,a)=>if(((0:Nat):Nat):Int)<(b:Int)then ck ((10:Nat)≠0)<|nm (b%((10:Nat))) fun g=>nm ((((48:Nat))+g)%18446744073709551616) fun h=>nm (h%256) fun d=>ck ((a.length+([d]).length)*1<=140737488355328)<|nm (a++([d])) fun i=>ck ((10:Nat)≠0)<|nm (b/((10:Nat))) fun j=>L (j,i)else if f then if(a.length:Int)<19 then ck ((10:Nat)≠0)<|nm (b%((10:Nat))) fun k=>nm ((((48:Nat))+k)%18446744073709551616) fun l=>nm (l%256) fun e=>ck ((a.length+([e]).length)*1<=140737488355328)<|nm (a++([e])) fun m=>ck ((10:Nat)≠0)<|nm (b/((10:Nat))) fun o=>L (o,m)else some a else some a
def Jw(a:Nat)(b:Bool):Option (List Nat):=bd (zg (pZ fu b) fu (a,[])) fun d=>bd (qY fu d) fun e=>some e
def ui(fu:Nat):((Int×Int×(List<|List Nat))->Option (List<|List Nat))->(Int×Int×(List<|List Nat))->Option (List<|List Nat):=fun L (b,d,a)=>if b<d then zG d (a.length) fun f=>nm ((a.getD f [])) fun g=>zG b (a.length) fun h=>nm ((a.getD h [])) fun i=>zG b (a.length) fun j=>nm (a.set j g) fun e=>zG d (e.length) fun k=>nm (e.set k i) fun l=>ze (b+1) fun m=>ze (d-1) fun o=>L (m,o,l)else some a
def vE(a:List (List Nat)):Option (List<|List Nat):=ze (((a.length:Int))-1) fun b=>bd (zg (ui fu) fu<|((0:Int),b,a)) fun d=>some d
def KD(fu:Nat)(a:List (List Nat))(b:List Nat):Option (List Nat):=ck (a.length<=140737488355328)<|ck ((b.intercalate a).length<=140737488355328)<|some (b.intercalate a)
def Eo:(((List Nat)×(List<|List Nat))->Option (List<|List Nat))->((List Nat)×(List<|List Nat))->Option (List<|List Nat):=fun L (d,a)=>if 0<(d.length:Int)then bd (Xp fu d (10000000000000000000:Nat)) fun(b,e)=>if 0<(b.length:Int)then bd (Jw fu e true) fun f=>ck ((a.length+([f]).length)*16<=140737488355328)<|nm (a++([f])) fun h=>L (b,h)else bd (Jw fu e false) fun g=>ck ((a.length+([g]).length)*16<=140737488355328)<|nm (a++([g])) fun i=>L (b,i)else some a
def de(e:List Nat):Option (List Nat):=bd (xv fu e) fun f=>bd (zg (Eo fu) fu (f,[])) fun d=>if(d.length:Int)=0 then some [48]else bd (vE fu d) fun a=>bd (KD fu a []) fun b=>some b
def lO(a:Zr):Option (List Nat):=bd (xu fu a) fun d=>if d<0 then bd (de fu a.2) fun b=>ck (([45]).length+b.length<=9223372036854775807)<|nm (([45])++b) fun e=>some e else bd (de fu a.2) fun f=>some f
def YV:Option Bool:=bd (kt fu [(-1:Int),(-1:Int),(6:Int)]) fun a=>bd (yB fu a []) fun(b,d,e)=>bd (kt fu [(1:Int),(0:Int),(0:Int),(0:Int),(1:Int)]) fun f=>bd (uM fu f) fun(g,h)=>if e=0 then bd (lO fu b) fun i=>if i=[49]then bd (cJ fu [(-1:Int),(2:Int)]) fun j=>bd (cJ fu [(1:Int),(3:Int)]) fun k=>bd (ZP fu d [(j,(1:Int)),(k,(1:Int))]) fun l=>if l then if h=0 then some g else some false else some false else some false else some false
def mr(fu:Nat)(d:Int)(a:List Zr):(Int->Option (Unit⊕Unit))->Int->Option (Unit⊕Unit):=fun L b=>if b<(a.length:Int)then zG b (a.length) fun e=>nm (a.getD e (false,[])) fun f=>if d<(f.2.length:Int)then some (.inr ())else ze (b+1) fun g=>L g else some (.inl ())
def Ah(b:Int)(d:Int)(a:List Zr):Option Bool:=if b<(a.length:Int)then some false else bd (zg (mr fu d a) fu (0:Int)) fun e=>match e with
 |.inl _=>some true
 |.inr _=>some false
def fW(a:List Zr)(b:List Zr):Option Bool:=bd (kM fu a b) fun d=>some d
end
end
section
set_option maxRecDepth 100000
section
variable(fu:Nat)
def Ky(g:Int)(a:List ((List Zr)×Int))(h:List Zr):(((List Zr)×Bool×(List Zr)×Int)->Option ((List Zr)×Bool×(List Zr)))->((List Zr)×Bool×(List Zr)×Int)->Option ((List Zr)×Bool×(List Zr)):=fun L (b,d,e,f)=>zG g (a.length) fun i=>nm (((a.getD i ([],0))).2) fun j=>if f<j then bd (y7 fu e h) fun k=>ze (f+1) fun l=>L (b,d,k,l)else some (b,d,e)
def Ks(i:Int)(f:List ((List Zr)×Int))(j:List Zr):(((List Zr)×Bool×(List Zr)×Int)->Option ((List Zr)×Bool×(List Zr)))->((List Zr)×Bool×(List Zr)×Int)->Option ((List Zr)×Bool×(List Zr)):=fun L (a,g,b,h)=>zG i (f.length) fun k=>nm (((f.getD k ([],0))).2) fun l=>if h<l then bd (y7 fu b j) fun d=>ze (h+1) fun e=>L (a,g,d,e)else some (a,g,b)
def Ku(i:List Zr)(j:Bool):(((List Zr)×Int×(List<|(List Zr)×Int))->Option ((List Zr)⊕Unit))->((List Zr)×Int×(List<|(List Zr)×Int))->Option ((List Zr)⊕Unit):=fun L (e,b,a)=>if b<(a.length:Int)then zG b (a.length) fun k=>nm (((a.getD k ([],0))).1) fun d=>bd (uM fu d) fun(l,m)=>if m=0 then if !l then some (.inr ())else if(d.length:Int)<2 then some (.inr ())else bd (xN fu d) fun o=>bd (fW fu o d) fun p=>if !p then some (.inr ())else zG b (a.length) fun q=>nm (((a.getD q ([],0))).2) fun r=>if r<1 then some (.inr ())else zG b (a.length) fun s=>nm (((a.getD s ([],0))).2) fun t=>if 11<t then some (.inr ())else if 0<b then ze (b-1) fun u=>zG u (a.length) fun v=>nm (((a.getD v ([],0))).1) fun w=>bd (kR fu w d) fun x=>if !x then some (.inr ())else bd (zg (Ky fu b a d) fu<|(i,j,e,(0:Int))) fun(y,C,f)=>ze (b+1) fun A=>L (f,A,a)else bd (zg (Ks fu b a d) fu<|(i,j,e,(0:Int))) fun(B,E,g)=>ze (b+1) fun h=>L (g,h,a)else some (.inr ())else some (.inl e)
def Ln(a:List Zr)(h:List Int):Option Bool:=bd (YV fu) fun b=>bd (Ah fu (11:Int) (2:Int) a) fun i=>if !i then some b else if 20<(h.length:Int)then some b else bd (yB fu a h) fun(j,k,d)=>if d=0 then bd (zg (Ku fu a b) fu<|([j],(0:Int),k)) fun l=>match l with
 |.inl e=>if b then bd (zH fu a) fun f=>bd (fW fu e f) fun m=>some m else some false
 |.inr _=>some false else if b then if d=6 then some true else if d=8 then bd (zH fu a) fun g=>if(g.length:Int)=0 then some true else some false else some false else some false
def vA(fu:Nat)(a:List Nat)(b:Int):Option Nat:=if b<(a.length:Int)then zG b (a.length) fun d=>nm (a.getD d 0) fun e=>some e else some (0:Nat)
def br(fu:Nat)(b:List Nat):(Int->Option Int)->Int->Option Int:=fun L a=>if 0<a then ze (a-1) fun d=>zG d (b.length) fun e=>nm (b.getD e 0) fun f=>if(f:Int)=(((0:Nat):Nat):Int)then ze (a-1) fun g=>L g else some a else some a
def Xh(a:List Nat):Option (List Nat):=bd (zg (br fu a) fu<|(a.length:Int)) fun d=>jM d fun b=>ck (b<=a.length)<|nm (a.take b) fun e=>some e
def Yp(fu:Nat)(a:List Nat):(((List Nat)×Int)->Option (List Nat))->((List Nat)×Int)->Option (List Nat):=fun L (d,b)=>if b<(a.length:Int)then zG b (a.length) fun g=>nm (a.getD g 0) fun h=>nm (h &&& ((4294967295:Nat))) fun e=>zG b (a.length) fun i=>nm (a.getD i 0) fun j=>nm (j/2^(min (((32:Nat)):Int).toNat 64)) fun f=>ck ((d.length+([e,f]).length)*8<=140737488355328)<|nm (d++([e,f])) fun k=>ze (b+1) fun l=>L (k,l)else some d
def vk(a:List Nat):Option (List Nat):=bd (zg (Yp fu a) fu<|([],(0:Int))) fun b=>bd (Xh fu b) fun d=>some d
def XM(fu:Nat)(a:List Nat):(((List Nat)×Int)->Option (List Nat))->((List Nat)×Int)->Option (List Nat):=fun L (d,b)=>if b<(a.length:Int)then zG b (a.length) fun g=>nm (a.getD g 0) fun e=>ze (b+1) fun h=>if h<(a.length:Int)then ze (b+1) fun i=>zG i (a.length) fun j=>nm (a.getD j 0) fun k=>nm (k*2^(min (((32:Nat)):Int).toNat 64)%18446744073709551616) fun l=>nm ((e+l)%18446744073709551616) fun f=>ck ((d.length+([f]).length)*8<=140737488355328)<|nm (d++([f])) fun m=>ze (b+2) fun o=>L (m,o)else ck ((d.length+([e]).length)*8<=140737488355328)<|nm (d++([e])) fun p=>ze (b+2) fun q=>L (p,q)else some d
def um(a:List Nat):Option (List Nat):=bd (zg (XM fu a) fu<|([],(0:Int))) fun b=>bd (ZC fu b) fun d=>some d
def bF(d:List Nat)(e:List Nat):(((List Nat)×Nat×Int)->Option (List Nat))->((List Nat)×Nat×Int)->Option (List Nat):=fun L (b,h,a)=>nm (max ((d.length:Int))<|(e.length:Int)) fun i=>ze (i+1) fun j=>if a<j then bd (vA fu d a) fun k=>bd (vA fu e a) fun l=>nm ((k+l)%18446744073709551616) fun m=>nm ((m+h)%18446744073709551616) fun f=>nm (f &&& ((4294967295:Nat))) fun g=>ck ((b.length+([g]).length)*8<=140737488355328)<|nm (b++([g])) fun o=>nm (f/2^(min (((32:Nat)):Int).toNat 64)) fun p=>ze (a+1) fun q=>L (o,p,q)else some b
def VX(a:List Nat)(b:List Nat):Option (List Nat):=bd (vk fu a) fun d=>bd (vk fu b) fun e=>bd (zg (bF fu d e) fu<|([],(0:Nat),(0:Int))) fun f=>bd (um fu f) fun g=>some g
def Zm(b:List Nat)(d:List Nat):(Int->Option (Unit⊕Int))->Int->Option (Unit⊕Int):=fun L a=>if 0<=a then bd (vA fu b a) fun e=>bd (vA fu d a) fun f=>if(e:Int)<(f:Int)then some (.inr (-1:Int))else bd (vA fu b a) fun g=>bd (vA fu d a) fun h=>if(h:Int)<(g:Int)then some (.inr (1:Int))else ze (a-1) fun i=>L i else some (.inl ())
def uH(a:List Nat)(b:List Nat):Option Int:=nm (max ((a.length:Int))<|(b.length:Int)) fun d=>ze (d-1) fun e=>bd (zg (Zm fu a b) fu e) fun f=>match f with
 |.inl _=>some (0:Int)
 |.inr g=>some g
def Vz(d:List Nat)(g:List Nat):(((List Nat)×Nat×Int)->Option (List Nat))->((List Nat)×Nat×Int)->Option (List Nat):=fun L (b,h,a)=>if a<(d.length:Int)then bd (vA fu d a) fun i=>nm ((i+((4294967296:Nat)))%18446744073709551616) fun j=>bd (vA fu g a) fun k=>nm ((j+18446744073709551616-k)%18446744073709551616) fun l=>nm ((l+18446744073709551616-h)%18446744073709551616) fun e=>nm (e &&& ((4294967295:Nat))) fun f=>ck ((b.length+([f]).length)*8<=140737488355328)<|nm (b++([f])) fun m=>nm (e/2^(min (((32:Nat)):Int).toNat 64)) fun o=>nm ((((1:Nat))+18446744073709551616-o)%18446744073709551616) fun p=>ze (a+1) fun q=>L (m,p,q)else some b
def Wk(a:List Nat)(b:List Nat):Option (List Nat):=bd (zg (Vz fu a b) fu<|([],(0:Nat),(0:Int))) fun d=>bd (Xh fu d) fun e=>some e
def Xe(d:List Nat)(e:List Nat):Option ((List Nat)×Int):=bd (vk fu d) fun a=>bd (vk fu e) fun b=>bd (uH fu a b) fun f=>if f<0 then some (([],(1:Int)))else bd (Wk fu a b) fun g=>bd (um fu g) fun h=>some<|(h,(0:Int))
def Qg(a:Zr)(b:Zr):Option Zr:=nm (a.1==b.1) fun d=>if d then bd (VX fu a.2 b.2) fun e=>bd (xF fu (a.1,e)) fun f=>some f else bd (Xe fu a.2 b.2) fun(g,h)=>if h=0 then bd (xF fu (a.1,g)) fun i=>some i else bd (Xe fu b.2 a.2) fun(j,l)=>bd (xF fu (b.1,j)) fun k=>some k
def Qb(a:Zr):Option Zr:=bd (xF fu<|((!a.1),a.2)) fun b=>some b
def Qc(a:Zr)(b:Zr):Option Zr:=bd (Qb fu b) fun d=>bd (Qg fu a d) fun e=>some e
def Qo(a:Zr)(b:Zr):Option Int:=bd (Qc fu a b) fun d=>bd (ZX fu d) fun e=>some e
def KT(b:List Zr)(d:List Zr):(Int->Option (Unit⊕Bool))->Int->Option (Unit⊕Bool):=fun L a=>if 0<=a then zG a (b.length) fun f=>nm ((b.getD f (false,[]))) fun g=>zG a (d.length) fun h=>nm ((d.getD h (false,[]))) fun i=>bd (Qo fu g i) fun e=>if e=0 then ze (a-1) fun j=>L j else if e<0 then some (.inr true)else some (.inr false)else some (.inl ())
def Wa(d:List Zr)(e:List Zr):Option Bool:=bd (kN fu d) fun a=>bd (kN fu e) fun b=>if(a.length:Int)=(b.length:Int)then ze (((a.length:Int))-1) fun f=>bd (zg (KT fu a b) fu f) fun g=>match g with
 |.inl _=>some false
 |.inr h=>some h else if(a.length:Int)<(b.length:Int)then some true else some false
def Qx(b:List ((List Zr)×Int))(d:List Zr):(Int->Option Int)->Int->Option Int:=fun L a=>if a<(b.length:Int)then zG a (b.length) fun e=>nm (b.getD e ([],0)) fun f=>bd (Wa fu f.1 d) fun g=>if g then ze (a+1) fun h=>L h else some a else some a
def VP(a:List ((List Zr)×Int))(e:List Zr)(f:Int):Option (List<|(List Zr)×Int):=bd (zg (Qx fu a e) fu (0:Int)) fun b=>bd ((if b<(a.length:Int)then zG b (a.length) fun o=>nm (a.getD o ([],0)) fun p=>bd (kM fu p.1 e) fun q=>some q else some false:Option Bool)) fun r=>if r then ck (((([]:List ((List Zr)×Int))).length+a.length)*32<=140737488355328)<|nm ((([]:List ((List Zr)×Int)))++a) fun d=>zG b (d.length) fun s=>nm (((d.getD s ([],0))).2) fun t=>ze (t+f) fun u=>zG b (d.length) fun g=>nm (d.set g<|(((d.getD g ([],0))).1,u)) fun v=>some v else jM b fun h=>ck (h<=a.length)<|nm (a.take h) fun i=>ck (((([]:List ((List Zr)×Int))).length+i.length)*32<=140737488355328)<|nm ((([]:List ((List Zr)×Int)))++i) fun j=>ck ((j.length+([(e,f)]).length)*32<=140737488355328)<|nm (j++([(e,f)])) fun k=>jM b fun l=>ck (l<=a.length)<|nm (a.drop l) fun m=>ck ((k.length+m.length)*32<=140737488355328)<|nm (k++m) fun w=>some w
def qy(a:List Int):(((List Zr)×(List<|(List Zr)×Int)×Int)->Option ((List Zr)×(List<|(List Zr)×Int)))->((List Zr)×(List<|(List Zr)×Int)×Int)->Option ((List Zr)×(List<|(List Zr)×Int)):=fun L (d,e,b)=>if b<(a.length:Int)then zG b (a.length) fun g=>nm (a.getD g 0) fun h=>nm (eH h (63:Int)) fun i=>ze (i-32) fun j=>bd (kt fu [j,(1:Int)]) fun f=>bd (y7 fu d f) fun k=>bd (VP fu e f (1:Int)) fun l=>ze (b+1) fun m=>L (k,l,m)else some (d,e)
def jC(a:List Int)(d:Int):Option Bool:=bd (YV fu) fun b=>if 8<(a.length:Int)then some b else if(a.length:Int)=0 then some b else nm (eH d (7:Int)) fun e=>ze ((1:Int)+e) fun f=>bd (kt fu [f]) fun g=>bd (zg (qy fu a) fu<|(g,[],(0:Int))) fun(h,i)=>bd (yB fu h []) fun(j,k,l)=>if b then if l=0 then nm (eH d (7:Int)) fun m=>ze ((1:Int)+m) fun o=>bd (zW fu o) fun p=>bd (ZH fu j p) fun q=>if q then bd (ZP fu k i) fun r=>some r else some false else some false else some false
def LY(fu:Nat)(b:Int):(((List Int)×Int)->Option (List Int))->((List Int)×Int)->Option (List Int):=fun L (f,a)=>ze (a*a) fun s=>ze (0-b) fun t=>nm (max b t) fun u=>if s<=u then ck (a≠0)<|nm (xcc b a) fun v=>if v=0 then ze (0-a) fun r=>ck ((f.length+([a,r]).length)*8<=140737488355328)<|nm (f++([a,r])) fun h=>bd ((ze (a*a) fun w=>ze (0-b) fun x=>nm (max b x) fun y=>if w=y then some (b,false)else some (b,true):Option (Int×Bool))) fun(g,A)=>if A then ze (0-g) fun i=>nm (max g i) fun j=>ck (a≠0)<|ze (xdd j a) fun d=>ze (0-g) fun k=>nm (max g k) fun l=>ze (0-l) fun m=>ck (a≠0)<|ze (xdd m a) fun e=>ck ((h.length+([d,e]).length)*8<=140737488355328)<|nm (h++([d,e])) fun B=>ze (a+1) fun o=>L (B,o)else ze (a+1) fun p=>L (h,p)else ze (a+1) fun q=>L (f,q)else some f
def dD(fu:Nat)(k:Int):(((List Int)×Int×(List Int))->Option (((List Int)×(List Int))⊕Unit))->((List Int)×Int×(List Int))->Option (((List Int)×(List Int))⊕Unit):=fun L (d,b,a)=>if k<=b then zG b (d.length) fun l=>nm (d.getD l 0) fun m=>ze (b-k) fun o=>zG o (d.length) fun p=>nm (d.getD p 0) fun q=>ze (m-q) fun e=>zG b (a.length) fun r=>nm ((a.getD r 0)) fun s=>ze (b-1) fun t=>zG t (a.length) fun u=>nm ((a.getD u 0)) fun v=>ze (s-v) fun w=>ck (e≠0)<|nm (xcc w e) fun x=>if x=0 then zG b (a.length) fun y=>nm ((a.getD y 0)) fun A=>ze (b-1) fun f=>zG f (a.length) fun B=>nm ((a.getD B 0)) fun g=>ze (A-g) fun h=>ck (e≠0)<|ze (xdd h e) fun i=>zG b (a.length) fun C=>nm (a.set C i) fun E=>ze (b-1) fun j=>L (d,j,E)else some (.inr ())else some (.inl (d,a))
def Oo(a:List Int):((Int×(List Int))->Option ((List Int)⊕Unit))->(Int×(List Int))->Option ((List Int)⊕Unit):=fun L (b,e)=>if b<(a.length:Int)then ze (((a.length:Int))-1) fun f=>bd (zg (dD fu b) fu (a,f,e)) fun g=>match g with
 |.inl (i,h)=>ze (b+1) fun d=>L (d,h)
 |.inr _=>some (.inr ())else some (.inl e)
def ZW(fu:Nat)(b:Int):(Int->Option (Unit⊕Unit))->Int->Option (Unit⊕Unit):=fun L a=>ze (a*a) fun d=>if d<=b then ck (a≠0)<|nm (xcc b a) fun e=>if e=0 then some (.inr ())else ze (a+1) fun f=>L f else some (.inl ())
def cR(a:Int):Option Bool:=if a<2 then some false else if 65521<a then some false else bd (zg (ZW fu a) fu (2:Int)) fun b=>match b with
 |.inl _=>some true
 |.inr _=>some false
def uk(a:Int):Option Int:=bd (cR fu a) fun b=>if !b then some (1:Int)else some (0:Int)
def VV(fu:Nat)(d:Int)(a:Int):Option Int:=if a<1 then some (0:Int)else ck (a≠0)<|nm (xcc d a) fun b=>if b<0 then ze (b+a) fun e=>some e else some b
def Ki(a:List Int)(f:Int):(((List Int)×Int)->Option (List Int))->((List Int)×Int)->Option (List Int):=fun L (b,d)=>if d<(a.length:Int)then zG d (a.length) fun g=>nm (a.getD g 0) fun h=>bd (VV fu h f) fun e=>ck ((b.length+([e]).length)*8<=140737488355328)<|nm (b++([e])) fun i=>ze (d+1) fun j=>L (i,j)else some b
def Kd(fu:Nat)(b:List Int):(Int->Option Int)->Int->Option Int:=fun L a=>if 0<a then ze (a-1) fun d=>zG d (b.length) fun e=>nm ((b.getD e 0)) fun f=>if f=0 then ze (a-1) fun g=>L g else some a else some a
def qu(d:List Int)(e:Int):Option (List Int):=bd (zg (Ki fu d e) fu<|([],(0:Int))) fun a=>bd (zg (Kd fu a) fu<|(a.length:Int)) fun f=>jM f fun b=>ck (b<=a.length)<|nm (a.take b) fun g=>some g
def Kn(fu:Nat)(e:Int)(h:List Int)(f:List Int):((Int×Int×(List Int))->Option (Int×(List Int)))->(Int×Int×(List Int))->Option (Int×(List Int)):=fun L (d,a,b)=>if a<(f.length:Int)then ze (e+a) fun i=>ze (e+a) fun j=>zG j (b.length) fun k=>nm ((b.getD k 0)) fun l=>zG e (h.length) fun m=>nm ((h.getD m 0)) fun o=>zG a (f.length) fun p=>nm ((f.getD p 0)) fun q=>ze (o*q) fun r=>ze (l+r) fun s=>ck (d≠0)<|nm (xcc s d) fun t=>zG i (b.length) fun u=>nm (b.set u t) fun v=>ze (a+1) fun g=>L (d,g,v)else some (d,b)
def Kp(g:Int):((Int×(List Int)×(List Int)×(List Int))->Option (List Int))->(Int×(List Int)×(List Int)×(List Int))->Option (List Int):=fun L (a,b,e,f)=>if a<(b.length:Int)then bd (zg (Kn fu a b e) fu<|(g,(0:Int),f)) fun(i,h)=>ze (a+1) fun d=>L (d,b,e,h)else some f
def Qu(h:List Int)(i:List Int)(a:Int):Option (List Int):=bd (qu fu h a) fun e=>bd (qu fu i a) fun f=>ze (((e.length:Int))+((f.length:Int))) fun j=>jM j fun g=>ck (8*g<=281474976710656)<|nm (xaf g 0) fun k=>bd (zg (Kp fu a) fu<|((0:Int),e,f,k)) fun b=>bd (qu fu b a) fun d=>some d
def aY(fu:Nat)(a:Int):((Int×Int×Int)->Option Int)->(Int×Int×Int)->Option Int:=fun L (e,b,d)=>if 0<d then ck ((2:Int)≠0)<|nm (xcc d (2:Int)) fun i=>if i=1 then ze (e*b) fun j=>ck (a≠0)<|nm (xcc j a) fun k=>ze (b*b) fun l=>ck (a≠0)<|nm (xcc l a) fun m=>ck ((2:Int)≠0)<|ze (xdd d (2:Int)) fun o=>L (k,m,o)else ze (b*b) fun f=>ck (a≠0)<|nm (xcc f a) fun g=>ck ((2:Int)≠0)<|ze (xdd d (2:Int)) fun h=>L (e,g,h)else some e
def K6(d:Int)(b:Int)(a:Int):Option (Int×Int):=bd (uk fu a) fun e=>if e=0 then if b<0 then some (((0:Int),(1:Int)))else ck (a≠0)<|nm (xcc (1:Int) a) fun f=>bd (VV fu d a) fun g=>bd (zg (aY fu a) fu (f,g,b)) fun h=>some ((h,(0:Int)))else some (((0:Int),(1:Int)))
def XI(b:Int)(a:Int):Option Int:=ze (a-2) fun d=>bd (K6 fu b d a) fun(e,f)=>if a=2 then some (1:Int)else some e
def bT(d:List Int)(b:Int):Option ((List Int)×Int):=bd (uk fu b) fun e=>if e=0 then bd (qu fu d b) fun a=>if(a.length:Int)=0 then some (([],(0:Int)))else ze (((a.length:Int))-1) fun f=>zG f (a.length) fun g=>nm ((a.getD g 0)) fun h=>bd (XI fu h b) fun i=>bd (Qu fu a [i] b) fun j=>some ((j,(0:Int)))else some (([],(1:Int)))
end
end
section
set_option maxRecDepth 100000
section
open Go.Proofs.Tryz
variable(fu:Nat)
theorem gj:ym ⟨112,[.d jU],[.own .u 54],fun x=>ZC fu x.1,0⟩:=sq fu ⟨[],[],[(2,q1 [(3,.d .i)] 0 [(3,.d .i)])],[],[],[]⟩ func112<|cN
theorem ZD:ym ⟨110,[.d zU],[.d zU],fun x=>xF fu x.1,0⟩:=sq fu wX func110<|cC (gj fu)<|cN
theorem LP:ym ⟨55,[.d .i],[.d zU],fun x=>px fu x.1,0⟩:=sq fu wX func55<|cC (ZD fu)<|cN
theorem fK:ym ⟨132,[.d zU],[.d .i],fun x=>ZX fu x.1,0⟩:=sq fu wX func132<|cC (ZD fu)<|cN
theorem eE:ym ⟨64,[.d xc],[.own zU 30],fun x=>kN fu x.1,0⟩:=sq fu ⟨[],[],[(2,q1 [(3,.d .i)] 0 [(3,.d .i)]),(6,q1 [(4,.own zU 30),(5,.d .i)] 2 [(4,.own zU 30)])],[],[],[]⟩ func64<|cC (fK fu)<|cC (ZD fu)<|cN
theorem L4:ym ⟨50,[.d yP],[.own zU 30],fun x=>cJ fu x.1,0⟩:=sq fu ⟨[],[],[(3,q1 [(3,.own zU 30),(4,.d .i)] 0 [(3,.own zU 30)])],[],[],[]⟩ func50<|cC (eE fu)<|cC (LP fu)<|cN
theorem Ff:ym ⟨63,[.d jU,.d jU],[.d .b],fun x=>Wy fu x.1 x.2.1,0⟩:=sq fu ⟨[],[],[(4,⟨⟨[(5,.d .i)],[]⟩,⟨[],[(.x 0,⟨[],[]⟩),(.r,⟨[],[(4,.kb false)]⟩)]⟩⟩)],[],[],[]⟩ func63<|cN
theorem dV:ym ⟨17,[.d zU,.d zU],[.d .b],fun x=>ZH fu x.1 x.2.1,0⟩:=sq fu wX func17<|cC (Ff fu)<|cN
theorem ey:ym ⟨69,[.d xc,.d xc],[.d .b],fun x=>kM fu x.1 x.2.1,0⟩:=sq fu ⟨[],[],[(4,⟨⟨[(5,.d .i)],[]⟩,⟨[],[(.x 0,⟨[],[]⟩),(.r,⟨[],[(4,.kb false)]⟩)]⟩⟩)],[],[],[]⟩ func69<|cC (dV fu)<|cN
theorem fF:ym ⟨20,[.d (.l (.p xc .i)),.d (.l (.p xc .i))],[.d .b],fun x=>ZP fu x.1 x.2.1,0⟩:=sq fu ⟨[],[],[(4,⟨⟨[(5,.d .i)],[]⟩,⟨[],[(.x 0,⟨[],[]⟩),(.r,⟨[],[(4,.kb false)]⟩)]⟩⟩)],[],[],[]⟩ func20<|cC (ey fu)<|cN
theorem oO:ym ⟨215,[.d jU,.d .i],[.d .u],fun x=>Xt fu x.1 x.2.1,0⟩:=sq fu wX func215<|cN
theorem Il:ym ⟨213,[.d .i,.d .u,.q jU,.q jU],[.d .u,.d .u],fun x=>U2 fu x.1 x.2.1 x.2.2.1 x.2.2.2.1,0⟩:=sq fu wX func213<|cC (oO fu)<|cN
theorem uf:ym ⟨212,[.d .i,.fn [.i,.u] [.u,.u]],[.own .u 54,.d .u],fun x=>va fu x.1<|fun z0 z1=>x.2.1 (z0,z1,()),0⟩:=sq fu ⟨[],[],[(4,q1 [(7,.d .u),(13,.d .i),(6,.own .u 54)] 0 [(7,.d .u),(6,.own .u 54)])],[],[],[]⟩ func212<|cN
theorem xV:ym ⟨157,[.d jU],[.d jU],fun x=>xv fu x.1,0⟩:=sq fu ⟨[],[],[(1,q1 [(0,.d jU)] 0 [(0,.d jU)])],[],[],[]⟩ func157<|cN
theorem yM:ym ⟨157,[.own .u 54],[.own .u 54],fun x=>yL fu x.1,0⟩:=sq fu ⟨[],[],[(1,q1 [(0,.own .u 54)] 0 [(0,.own .u 54)])],[],[],[]⟩ func157<|cN
theorem iw:ym ⟨139,[.d jU,.d jU],[.own .u 54],fun x=>kJ fu x.1 x.2.1,0⟩:=sq fu wX func139<|cC (uf fu)<|cC (Il fu)<|cC (yM fu)<|cC (xV fu)<|cN
theorem mH:ym ⟨297,[.d .i],[.d .b],fun x=>uD fu x.1,0⟩:=sq fu wX func297<|cN
theorem er:ym ⟨216,[.d .i,.d .i],[.d .i],fun x=>jJ fu x.1 x.2.1,0⟩:=sq fu wX func216<|cC (mH fu)<|cN
theorem cM:ym ⟨298,[.d .u],[.d .b],fun x=>jg fu x.1,0⟩:=sq fu wX func298<|cN
theorem UX:ym ⟨217,[.d .u,.d .u],[.d .i],fun x=>vS fu x.1 x.2.1,0⟩:=sq fu wX func217<|cC (cM fu)<|cN
theorem Cw:ym ⟨140,[.d jU,.d jU],[.d .i],fun x=>WY fu x.1 x.2.1,0⟩:=sq fu ⟨[],[],[(5,⟨⟨[(5,.d .i)],[]⟩,⟨[],[(.x 0,⟨[],[]⟩),(.r,⟨[(4,.d .i)],[]⟩)]⟩⟩)],[],[],[]⟩ func140<|cC (er fu)<|cC (UX fu)<|cC (yM fu)<|cC (xV fu)<|cN
set_option maxRecDepth 100000 in
set_option maxHeartbeats 1000000 in
theorem XU(l:List Nat)(v0:Value)(hd:l.length<=17592186044416):Fn Tryz.prog 220 [v0].toArray [fV (eS eU) (l) v0] (fun u:Value=>u) (fun u=>[fV (eS eU) (l) u]) (fun _=>True):=by
 refine FE func220 rfl rfl fun we Se rest=> ?_;refine zbK (fun S w h=>zh8 h.1) fun hb=> ?_;refine zbK (fun S w h=>TX h.1) fun hc=> ?_;refine Xu ?_;refine wY ?_;refine Bl 1 [(0,v0)] rfl fun rest=> ?_;refine ja ?_;refine Xu ?_;refine Xu ?_;refine wY ?_;refine Bl 1 [(0,v0),(3,v0)] rfl fun rest=> ?_;refine zdp rfl rfl (zeN (e:=eU) (xs:=l) Tryz.underlying28 rfl rfl<|fun S w h=>h.1) fun q1 he=> ?_;refine Bl 0 [(0,v0),(4,.bool<|q1)] rfl fun rest=> ?_;refine ja ?_;refine zgK (q1) rfl (fun ha=> ?_)<|fun ha=> ?_
 ·refine Xu ?_;refine wY ?_;refine Bl 1 [(2,.slice none 0 0)] rfl fun rest=> ?_;refine ja ?_;refine N9 ?_;exact ze0 (.slice none 0 0:Value) Tryz.results220 rfl trivial<|fun S w h=>⟨(cvt (show([])=(l)from by first|rfl|simp_all) zc9),trivial⟩
 ·refine CY ?_;refine Xu ?_;refine wY ?_;refine zaD (e:=eU) rfl rfl Tryz.underlying28 ziN fun v1=> ?_;refine Bl 1 [(5,v1),(6,v0)] rfl fun rest=> ?_;refine R6 (e:=eU) (xs:=[]) (ys:=l) 0 rfl rfl Tryz.underlying28 ziN rfl (by decide) rfl rfl rfl (fun S w h=>h.1) (by first|lia|(simp only[xbS,xax,xaZ,xaq,xav,xbO];lia)|(simp;lia)) (by first|lia|(simp only[xbS,xax,xaZ,xaq,xav,xbO];lia)|(simp;lia)) fun v2=> ?_;show TL _ _ _ _ [mO eU 54 v2<|[]++l] _ _ _ _ _;refine Bl 1 [(2,v2)] rfl fun rest=> ?_;refine ja ?_;refine N9 ?_;refine RK (fun w h=>Dy 0 h rfl) ?_;exact ze0 v2 Tryz.results220 rfl trivial<|fun S w h=>⟨(cvt (show([]++l)=(l)from by first|rfl|simp_all) h.1),trivial⟩
theorem XB(a0:List Nat)(va0:Value)(r0:List Nat)(H:xD fu a0=some r0):Fn Tryz.prog 220 [va0].toArray [fV (eS eU) (a0) va0] (fun u:Value=>u) (fun u=>[fV (eS eU) (r0) u]) (fun _=>True):=by
 obtain⟨hk,H⟩:=kG H;obtain rfl:=zhM H;exact XU a0 va0 hk
theorem XJ:ym ⟨220,[.d jU],[.d jU],fun x=>xD fu x.1,0⟩:=zif (s:=jU) (t:=jU) (by kernel_rfl) fun x r v h=>XB fu x v r h
theorem cY:ym ⟨144,[.d jU],[.d jU],fun x=>uU fu x.1,0⟩:=sq fu wX func144<|cC (XJ fu)<|cC (yM fu)<|cC (xV fu)<|cN
theorem GD:ym ⟨310,[.d .i,.d .u,.q jU,.q .i],[.d .u,.d .u],fun x=>KE fu x.1 x.2.1 x.2.2.1 x.2.2.2.1,0⟩:=sq fu wX func310<|cN
theorem mh:ym ⟨160,[.d jU,.d .i],[.own .u 54],fun x=>uZ fu x.1 x.2.1,0⟩:=sq fu wX func160<|cN
theorem ie:ym ⟨251,[.d jU,.d .i],[.own .u 54,.d .i],fun x=>Yx fu x.1 x.2.1,0⟩:=sq fu ⟨[],[],[],[(4,[23])],[],[]⟩ func251<|cC (mh fu)<|cC (uf fu)<|cC (yM fu)<|cC (xV fu)<|cC (GD fu)<|cN
theorem Gz:ym ⟨344,[.d .i,.d .u,.q jU,.q .i],[.d .u,.d .u],fun x=>Uf fu x.1 x.2.1 x.2.2.1 x.2.2.2.1,0⟩:=sq fu wX func344<|cC (oO fu)<|cN
theorem Cr:ym ⟨295,[.d jU,.d .i],[.own .u 54],fun x=>QY fu x.1 x.2.1,0⟩:=sq fu ⟨[2,3],[],[],[],[],[]⟩ func295<|cC (Gz fu)<|cC (uf fu)<|cC (yM fu)<|cC (xV fu)<|cN
set_option maxRecDepth 100000 in
set_option maxHeartbeats 1000000 in
theorem ek(fu:Nat)(a0:Nat)(qa0:JE a0)(r0:Int)(H:xw fu a0=some r0):Fn Tryz.prog 252 [uv a0].toArray [] (fun _:Unit=>iv<|r0) (fun _=>[]) (fun _=>VE r0):=by
 unfold xw at H;refine FE func252 rfl rfl fun we Se rest=>Xu<|wY<|Zv 1 [(2,iv 0)] rfl<|ja<|Xu ?_
 obtain⟨s1,hL,Hc⟩:=rM H;refine T_X [(.n,JQ we Se (G:=Nat×Int) (fun(d1,i1)=>(⟨[],[],[(0,uv d1),(2,iv<|i1)]⟩:Inv))<|fun(d1,i1)=>(d1,i1)=s1/\JE d1/\VE i1)] ?_ ⟨?_,trivial⟩
 ·replace H:=hL
  refine Xu<|wY<|Zv 1 [(3,uv a0)] rfl<|Ny rfl rfl rfl rfl (fun h1=> ?_) (fun h1=> ?_)
  ·replace H:=zgJ h1 H
   refine ja<|VI rfl<|Xu<|wY<|Zv 1 [(5,uv a0)] rfl ?_
   obtain⟨m1,hf,H⟩:=xq H
   refine kZ rfl rfl (sB (c:=(m1:Int)) rfl rfl (xde _)<|Rf hf<|eY (a:=a0))<|Zv 1 [(0,uv m1)] rfl<|ja<|wY<|Zv 1 [(2,iv 32)] rfl<|ja ?_
   exact OW (m1,32) (xfz (xdv H)<|xfz (oU qa0 hf) (show VE (32)by decide)) rfl<|fun w h=>St.weak h<|fun S w h=>trivial
  replace H:=zhs h1 H
  refine ja<|WK rfl<|CY ?_
  exact OW (a0,0) (xfz (xdv H)<|xfz qa0 (show VE (0)by decide)) rfl<|fun w h=>St.weak h<|fun S w h=>trivial
 refine zbg ?_;rintro⟨d1,i1⟩ ⟨hs,hg,hm⟩ rest;subst hs;replace H:=Hc;clear hL;refine zf6 rfl<|Xu ?_
 obtain⟨s2,hL,Hc⟩:=rM H;refine T_X [(.n,JQ we Se (G:=Nat×Int) (fun(d2,i2)=>(⟨[],[],[(0,uv d2),(2,iv<|i2)]⟩:Inv))<|fun(d2,i2)=>(d2,i2)=s2/\JE d2/\VE i2)] ?_ ⟨?_,trivial⟩
 ·replace H:=hL
  refine Xu<|wY<|Zv 1 [(7,uv d1)] rfl<|Ny rfl rfl rfl rfl (fun h2=> ?_) (fun h2=> ?_)
  ·replace H:=zgJ h2 H
   refine ja<|VI rfl<|Xu<|wY<|Zv 1 [(9,uv d1)] rfl ?_
   obtain⟨m2,hi,H⟩:=xq H
   refine kZ rfl rfl (sB (c:=(m2:Int)) rfl rfl (xde _)<|Rf hi<|eY (a:=d1))<|Zv 1 [(0,uv m2)] rfl<|ja<|wY<|Zv 1 [(11,iv<|i1)] rfl ?_
   obtain⟨x1,hn,ha,H⟩:=Vg H
   refine kZ rfl rfl (sI (c:=x1) rfl rfl<|Ta hn ha)<|Zv 1 [(2,iv<|x1)] rfl<|ja ?_
   exact OW (m2,x1) (xfz (xdv H)<|xfz (oU hg hi) ha) rfl<|fun w h=>St.weak h<|fun S w h=>trivial
  replace H:=zhs h2 H
  refine ja<|WK rfl<|CY ?_
  exact OW (d1,i1) (xfz (xdv H)<|xfz hg hm) rfl<|fun w h=>St.weak h<|fun S w h=>trivial
 refine zbg ?_;rintro⟨d2,i2⟩ ⟨hs,ht,hu⟩ rest;subst hs;replace H:=Hc;clear hL;refine zf6 rfl<|Xu<|Xu<|wY<|Zv 1 [(13,uv d2)] rfl<|Ny rfl rfl rfl rfl (fun h3=> ?_) (fun h3=> ?_)
 ·replace H:=zgJ h3 H
  refine ja<|VI rfl<|Xu<|wY<|Zv 1 [(15,uv d2)] rfl ?_
  obtain⟨m3,ho,H⟩:=xq H
  refine kZ rfl rfl (sB (c:=(m3:Int)) rfl rfl (xde _)<|Rf ho<|eY (a:=d2))<|Zv 1 [(0,uv m3)] rfl<|ja<|wY<|Zv 1 [(17,iv<|i2)] rfl ?_
  obtain⟨x2,hp,hj,H⟩:=Vg H
  refine kZ rfl rfl (sI (c:=x2) rfl rfl<|Ta hp hj)<|Zv 1 [(2,iv<|x2)] rfl<|ja<|Xu<|wY<|Zv 2 [(20,uv m3),(19,iv<|x2)] rfl ?_
  obtain⟨m4,hd,H⟩:=xq H
  refine kZ rfl rfl (Xy (c:=(m4:Int)) Tryz.underlying54 Tryz.underlying5 rfl<|db hd<|wu8 _) ?_
  obtain⟨m5,hk,H⟩:=xq H
  refine kZ rfl rfl (zce (z:=m5) Tryz.underlying9 rfl (by kernel_rfl) rfl (Ec hd) hk)<|kZ rfl rfl (Xy (c:=(m5:Int)) Tryz.underlying5 Tryz.underlying3 rfl<|w64<|b_r<|Cn (Ec hd) hk) ?_
  obtain⟨x3,hq,hb,H⟩:=Vg H
  refine kZ rfl rfl (sI (c:=x3) rfl rfl<|Ta hq hb)<|Zv 1 [(2,iv<|x3)] rfl<|ja<|N9 ?_
  obtain rfl:=zhM H
  exact ze0 () Tryz.results252 rfl hb<|fun S w h=>trivial
 replace H:=zhs h3 H;refine ja<|WK rfl<|CY<|Xu<|wY<|Zv 2 [(20,uv d2),(19,iv<|i2)] rfl ?_
 obtain⟨m6,he,H⟩:=xq H;refine kZ rfl rfl (Xy (c:=(m6:Int)) Tryz.underlying54 Tryz.underlying5 rfl<|db he<|wu8 _) ?_;obtain⟨m7,hl,H⟩:=xq H;refine kZ rfl rfl (zce (z:=m7) Tryz.underlying9 rfl (by kernel_rfl) rfl (Ec he) hl)<|kZ rfl rfl (Xy (c:=(m7:Int)) Tryz.underlying5 Tryz.underlying3 rfl<|w64<|b_r<|Cn (Ec he) hl) ?_
 obtain⟨x4,hr,hc,H⟩:=Vg H;refine kZ rfl rfl (sI (c:=x4) rfl rfl<|Ta hr hc)<|Zv 1 [(2,iv<|x4)] rfl<|ja<|N9 ?_
 obtain rfl:=zhM H;exact ze0 () Tryz.results252 rfl hc<|fun S w h=>trivial
theorem ZA:ym ⟨252,[.d .u],[.d .i],fun x=>xw fu x.1,0⟩:=zh7 (by kernel_rfl) fun x r hx h=>ek fu x hx r h
theorem km:ym ⟨293,[.d .u],[.d .i],fun x=>xh fu x.1,0⟩:=sq fu wX func293<|cC (ZA fu)<|cN
theorem VS:ym ⟨227,[.d .u,.d .u,.d .u],[.d .u,.d .u],fun x=>qg fu x.1 x.2.1 x.2.2.1,0⟩:=sq fu ⟨[],[],[(17,q1 [(15,.d .u),(16,.d .u)] 0 [(15,.d .u)]),(24,q1 [(16,.d .u),(18,.d .u)] 2 [(18,.d .u)])],[],[],[]⟩ func227<|cC (km fu)<|cN
theorem VT:ym ⟨302,[.d .u,.d .u],[.d .u,.d .u],fun x=>vN fu x.1 x.2.1,0⟩:=sq fu wX func302<|cN
theorem Lh:ym ⟨294,[.d .u,.d .u,.d .u,.d .u,.d .u],[.d .u],fun x=>VR fu x.1 x.2.1 x.2.2.1 x.2.2.2.1 x.2.2.2.2.1,0⟩:=sq fu ⟨[],[],[(4,⟨⟨[(11,.d .u),(12,.d .u)],[]⟩,⟨[],[(.r,⟨[(10,.d .u)],[]⟩)]⟩⟩)],[],[],[]⟩ func294<|cC (VS fu)<|cC (VT fu)<|cN
theorem Gp:ym ⟨218,[.d .i,.d .u,.q jU,.q jU],[.d .u,.d .u],fun x=>ae fu x.1 x.2.1 x.2.2.1 x.2.2.2.1,0⟩:=sq fu wX func218<|cC (oO fu)<|cN
theorem gN:ym ⟨141,[.d jU,.d jU],[.own .u 54,.d .i],fun x=>W1 fu x.1 x.2.1,0⟩:=sq fu wX func141<|cC (Gp fu)<|cC (uf fu)<|cC (yM fu)<|cC (xV fu)<|cN
theorem sD:ym ⟨159,[.d jU,.d jU],[.own .u 54],fun x=>YA fu x.1 x.2.1,0⟩:=sq fu wX func159<|cC (gN fu)<|cN
theorem HC:ym ⟨301,[.d .i,.d .u,.q jU,.q .u],[.d .u,.d .u],fun x=>UQ fu x.1 x.2.1 x.2.2.1 x.2.2.2.1,0⟩:=sq fu wX func301<|cC (VT fu)<|cN
theorem Cd:ym ⟨225,[.d jU,.d .u],[.own .u 54],fun x=>W3 fu x.1 x.2.1,0⟩:=sq fu wX func225<|cC (uf fu)<|cC (HC fu)<|cN
theorem lU:ym ⟨164,[.d jU,.d .u],[.own .u 54,.d .u],fun x=>Xp fu x.1 x.2.1,0⟩:=sq fu ⟨[],[],[(3,q1 [(7,.d .u),(8,.d .i),(6,.own .u 54)] 0 [(7,.d .u),(6,.own .u 54)])],[],[],[]⟩ func164<|cC (VS fu)<|cC (yM fu)<|cC (xV fu)<|cN
theorem BG:ym ⟨203,[.d jU,.d jU],[.own .u 54,.d jU,.d .i],fun x=>Q0 fu x.1 x.2.1,0⟩:=sq fu ⟨[],[(196612,⟨[],[(.n,⟨[(23,.d .b)],[]⟩)]⟩),(327686,⟨[],[(.n,⟨[(27,.d .b)],[]⟩)]⟩)],[(16,q1 [(10,.d jU),(16,.d .i),(12,.own .u 54),(15,.own .u 54)] 1 [(12,.own .u 54),(15,.own .u 54)]),(20,⟨⟨[(9,.d .i),(14,.d .i),(17,.d .u),(18,.d jU)],[]⟩,⟨[12,15],[(.x 3,⟨[(9,.d .i),(14,.d .i),(17,.d .u),(18,.d jU)],[]⟩)]⟩⟩)],[(23,[149])],[129],[]⟩ func203<|cC (Cd fu)<|cC (lU fu)<|cC (km fu)<|cC (Lh fu)<|cC (Cr fu)<|cC (Cw fu)<|cC (cY fu)<|cC (ie fu)<|cC (yM fu)<|cC (xV fu)<|cC (sD fu)<|cN
theorem qe:ym ⟨81,[.d .b,.d jU],[.d zU],fun x=>yR fu x.1 x.2.1,0⟩:=sq fu wX func81<|cC (cY fu)<|cN
theorem cV:ym ⟨137,[.d zU,.d zU],[.d zU,.d zU,.d .i],fun x=>Yo fu x.1 x.2.1,0⟩:=sq fu ⟨[],[(327688,⟨[4,5],[(.n,⟨[(7,.own .u 54),(8,.d jU)],[]⟩)]⟩)],[],[],[],[]⟩ func137<|cC (qe fu)<|cC (BG fu)<|cC (iw fu)<|cC (gN fu)<|cN
theorem Y6:ym ⟨73,[.d zU],[.d zU],fun x=>qb fu x.1,0⟩:=sq fu wX func73<|cC (qe fu)<|cN
theorem vV:ym ⟨70,[.d zU],[.d .i],fun x=>xu fu x.1,0⟩:=sq fu ⟨[1],[],[],[],[],[]⟩ func70<|cC (Y6 fu)<|cN
theorem Wi:ym ⟨75,[.d zU,.d zU],[.d zU,.d .i],fun x=>jh fu x.1 x.2.1,0⟩:=sq fu ⟨[],[(196612,⟨[4,6,7],[(.n,⟨[(16,.d .b)],[]⟩)]⟩)],[],[],[],[]⟩ func75<|cC (cV fu)<|cC (vV fu)<|cN
theorem Dw:ym ⟨158,[.d jU,.d jU],[.own .u 54],fun x=>WH fu x.1 x.2.1,0⟩:=sq fu ⟨[],[(262149,⟨[5],[(.n,⟨[(0,.d jU),(18,.d jU),(19,.d .i),(21,.d .b)],[]⟩)]⟩),(524297,⟨[5,27],[(.n,⟨[(0,.d jU),(6,.d .i),(18,.d jU),(19,.d .i),(20,.d .i),(28,.d .i),(30,.d .b)],[]⟩)]⟩)],[(3,q1 [(20,.d .i),(5,.own .u 54)] 0 [(5,.own .u 54)]),(7,q1 [(8,.d .u),(29,.d .i),(5,.own .u 54),(27,.own .u 54)] 2 [(5,.own .u 54)])],[],[],[]⟩ func158<|cC (Cd fu)<|cC (yM fu)<|cC (xV fu)<|cN
def R0:VB:=⟨102,[.d jU,.d jU],[.own .u 54],fun x=>W4 fu x.1 x.2.1,0⟩
theorem CB:∀fu:Nat,ym (R0 fu)
 |0=>sg0 (by kernel_rfl) fun _=>rfl
 |fu+1=>sq fu wX func102<|cC (mh fu)<|cC (CB fu)<|cC (iw fu)<|cC (yM fu)<|cC (xV fu)<|cC (Dw fu)<|cC (sD fu)<|cN
theorem xn:ym ⟨78,[.d zU,.d zU],[.d zU],fun x=>zP fu x.1 x.2.1,0⟩:=sq fu wX func78<|cC (qe fu)<|cC (CB fu)<|cN
theorem uR:ym ⟨77,[.d zU,.d zU],[.d zU],fun x=>vu fu x.1 x.2.1,0⟩:=sq fu ⟨[2,3],[(262150,⟨[4],[(.n,⟨[(2,.var zU 30),(3,.var zU 30)],[]⟩)]⟩)],[],[],[],[]⟩ func77<|cC (qe fu)<|cC (iw fu)<|cC (Cw fu)<|cC (gN fu)<|cN
theorem c9:ym ⟨131,[.d zU],[.d zU],fun x=>uK fu x.1,0⟩:=sq fu wX func131<|cC (qe fu)<|cN
theorem Vj:ym ⟨138,[.d zU,.d zU],[.d zU],fun x=>qo fu x.1 x.2.1,0⟩:=sq fu wX func138<|cC (c9 fu)<|cC (uR fu)<|cN
theorem tj:ym ⟨72,[.d .i,.d zU],[.d zU],fun x=>Vr fu x.1 x.2.1,0⟩:=sq fu wX func72<|cC (Y6 fu)<|cN
theorem y4:ym ⟨71,[.d xc,.fn [.i,zU] [zU]],[.own zU 30],fun x=>zB fu x.1<|fun z0 z1=>x.2.1 (z0,z1,()),0⟩:=sq fu ⟨[],[(262149,⟨[5],[(.n,⟨[(11,.d xc),(12,.d .i),(14,.d .b)],[]⟩)]⟩)],[(3,q1 [(13,.d .i),(5,.own zU 30)] 0 [(5,.own zU 30)])],[],[],[]⟩ func71<|cN
theorem yW:ym ⟨21,[.d xc],[.own zU 30],fun x=>zH fu x.1,0⟩:=sq fu ⟨[],[],[(1,q1 [(0,.d xc)] 0 [(0,.d xc)])],[],[],[]⟩ func21<|cC (tj fu)<|cC (vV fu)<|cC (y4 fu)<|cN
def U6:VB:=⟨129,[.d xc,.d xc],[.own zU 30,.d .i],fun x=>wG fu x.1 x.2.1,0⟩
theorem Qf:ym (U6 fu):=sq fu ⟨[],[(327687,⟨[1,6],[(.n,⟨[],[]⟩),(.r,⟨[],[(4,.nil),(5,.ci 4)]⟩)]⟩),(1048593,⟨[1,6,7,9],[(.n,⟨[(8,.d .i),(71,.d .i),(73,.d .b)],[]⟩)]⟩)],[(8,⟨⟨[(8,.d .i),(1,.own zU 30),(6,.own zU 30),(7,.own zU 30)],[]⟩,⟨[],[(.x 0,⟨[(6,.own zU 30),(7,.own zU 30)],[]⟩),(.r,⟨[(5,.d .i)],[(4,.nil)]⟩)]⟩⟩),(15,⟨⟨[(72,.d .i),(1,.own zU 30),(6,.own zU 30),(7,.own zU 30),(9,.var zU 30)],[(70,.al 1)]⟩,⟨[],[(.x 2,⟨[(1,.own zU 30),(6,.own zU 30),(7,.own zU 30)],[]⟩)]⟩⟩)],[(10,[])],[],[]⟩ func129<|cC (Vj fu)<|cC (Wi fu)<|cC (yW fu)<|cC (xn fu)<|cN
theorem CG:ym ⟨61,[.d xc,.d xc],[.d .i],fun x=>Zq fu x.1 x.2.1,0⟩:=sq fu ⟨[],[],[(3,q1 [(5,.d .i),(6,.own zU 30),(7,.d .i)] 0 [(5,.d .i)])],[],[],[]⟩ func61<|cC (Qf fu)<|cN
theorem Vw:ym ⟨188,[.d .i],[.d .b],fun x=>jO fu x.1,0⟩:=sq fu ⟨[],[(131075,⟨[],[(.n,⟨[(3,.d .b)],[]⟩)]⟩)],[(3,q1 [(3,.d .b),(4,.d .i)] 0 [(3,.d .b)])],[],[],[]⟩ func188<|cN
theorem xd:ym ⟨28,[.d .i],[.d zU],fun x=>zW fu x.1,0⟩:=sq fu wX func28<|cC (qe fu)<|cN
theorem JC:ym ⟨183,[.d jU],[.d .i],fun x=>jZ fu x.1,0⟩:=sq fu wX func183<|cC (ZA fu)<|cC (yM fu)<|cC (xV fu)<|cN
theorem Lv:ym ⟨189,[.d zU,.d .i],[.d zU,.d .i],fun x=>J1 fu x.1 x.2.1,0⟩:=sq fu ⟨[],[(131075,⟨[4],[(.n,⟨[(8,.d .b)],[]⟩)]⟩)],[(7,⟨⟨[(1,.d .i),(7,.var zU 30),(6,.var zU 30)],[]⟩,⟨[4],[(.x 1,⟨[(6,.var zU 30)],[]⟩)]⟩⟩)],[],[],[]⟩ func189<|cC (Y6 fu)<|cC (xd fu)<|cC (xn fu)<|cC (JC fu)<|cN
theorem Vy:ym ⟨123,[.d .i,.d .i],[.d zU,.d .i],fun x=>vz fu x.1 x.2.1,0⟩:=sq fu wX func123<|cC (Vw fu)<|cC (xd fu)<|cC (Lv fu)<|cN
theorem UW:ym ⟨336,[.d xc,.d zU,.fn [zU,zU] [zU,.i]],[.own zU 30,.d .i],fun x=>vB fu x.1 x.2.1<|fun z0 z1=>x.2.2.1 (z0,z1,()),0⟩:=sq fu ⟨[],[(393223,⟨[8],[(.n,⟨[(4,.q zU),(17,.d xc),(18,.d .i),(20,.d .b)],[]⟩)]⟩)],[(5,q1 [(19,.d .i),(8,.own zU 30)] 0 [(8,.own zU 30)])],[],[],[]⟩ func336<|cC (yW fu)<|cC (vV fu)<|cN
theorem Wc:ym ⟨313,[.d zU,.d zU],[.d zU,.d .i],fun x=>vO fu x.1 x.2.1,0⟩:=sq fu wX func313<|cC (cV fu)<|cC (vV fu)<|cN
theorem dw:ym ⟨279,[.d xc,.d zU],[.own zU 30,.d .i],fun x=>Z1 fu x.1 x.2.1,0⟩:=sq fu wX func279<|cC (UW fu)<|cC (Wc fu)<|cN
theorem WU:ym ⟨197,[.d xc,.d zU],[.own zU 30],fun x=>yX fu x.1 x.2.1,0⟩:=sq fu wX func197<|cC (dw fu)<|cN
theorem qp:ym ⟨268,[.d .i],[.d .i],fun x=>wi fu x.1,0⟩:=sq fu wX func268<|cC (Vw fu)<|cN
theorem UO:ym ⟨317,[.d .i,.d .i],[.d .i],fun x=>kg fu x.1 x.2.1,0⟩:=sq fu wX func317<|cN
def sW:VB:=⟨329,[.d .i,.d .i],[.d .i,.d .i],fun x=>Xl fu x.1 x.2.1,0⟩
theorem ru:ym (sW fu):=sq fu ⟨[],[],[(5,⟨⟨[(7,.d .i),(8,.d .i),(9,.d .i),(10,.d .i)],[]⟩,⟨[],[(.x 0,⟨[(10,.d .i)],[]⟩),(.r,⟨[],[(4,.ci 0),(5,.ci 3)]⟩)]⟩⟩)],[],[],[]⟩ func329<|cC (qp fu)<|cC (UO fu)<|cN
theorem xB:ym ⟨269,[.d yP,.d .i],[.own .i 3],fun x=>zT fu x.1 x.2.1,0⟩:=sq fu ⟨[],[],[(3,q1 [(13,.d .i),(5,.own .i 3)] 0 [(5,.own .i 3)]),(7,q1 [(5,.own .i 3)] 2 [(5,.own .i 3)])],[],[],[]⟩ func269<|cC (UO fu)<|cN
theorem XH:ym ⟨270,[.d yP,.d yP,.d .i],[.own .i 3,.own .i 3],fun x=>xk fu x.1 x.2.1 x.2.2.1,0⟩:=sq fu ⟨[],[(851982,⟨[8,12],[(.n,⟨[(9,.d .i),(13,.d .i),(61,.d yP),(62,.d .i),(64,.d .b)],[]⟩)]⟩)],[(7,q1 [(9,.d .i),(8,.own .i 3),(12,.own .i 3)] 0 [(8,.own .i 3),(12,.own .i 3)]),(12,q1 [(1,.d yP),(2,.d .i),(10,.d .i),(63,.d .i),(8,.own .i 3),(12,.own .i 3)] 2 [(1,.d yP),(2,.d .i),(10,.d .i),(8,.own .i 3),(12,.own .i 3)])],[],[],[]⟩ func270<|cC (ru fu)<|cC (xB fu)<|cN
theorem uG:ym ⟨330,[.d yP,.d yP,.d .i],[.own .i 3],fun x=>xT fu x.1 x.2.1 x.2.2.1,0⟩:=sq fu ⟨[],[(262149,⟨[7],[(.n,⟨[(1,.d yP),(2,.d .i),(18,.d yP),(19,.d .i),(21,.d .b)],[]⟩)]⟩),(458760,⟨[7],[(.n,⟨[(1,.d yP),(2,.d .i),(8,.d .i),(9,.d .i),(18,.d yP),(19,.d .i),(20,.d .i),(25,.d yP),(26,.d .i),(28,.d .b)],[]⟩)]⟩)],[(3,q1 [(20,.d .i),(7,.own .i 3)] 0 [(7,.own .i 3)]),(6,q1 [(27,.d .i),(7,.own .i 3)] 2 [(7,.own .i 3)])],[],[],[]⟩ func330<|cC (xB fu)<|cN
theorem KU:ym ⟨371,[.d yP,.d yP,.d .i,.d .i],[.own .i 3],fun x=>Zh fu x.1 x.2.1 x.2.2.1 x.2.2.2.1,0⟩:=sq fu ⟨[],[(327686,⟨[9],[(.n,⟨[(2,.d .i),(3,.d .i),(21,.d yP),(22,.d .i),(24,.d .b)],[]⟩)]⟩)],[(4,q1 [(23,.d .i),(9,.own .i 3)] 0 [(9,.own .i 3)])],[],[],[]⟩ func371<|cC (xB fu)<|cN
theorem CZ:ym ⟨333,[.d (.a 3 yP),.d (.a 3 yP),.d .i],[.d (.a 3 yP)],fun x=>ZL fu x.1 x.2.1 x.2.2.1,0⟩:=sq fu ⟨[3],[(262149,⟨[3,6],[(.n,⟨[(2,.d .i),(4,.q (.a 3 yP)),(20,.d .b)],[]⟩)]⟩)],[(3,⟨⟨[(7,.d yP),(19,.d .i),(3,.var (.a 3 yP) 286),(6,.var (.a 3 yP) 286)],[]⟩,⟨[8],[(.x 0,⟨[(3,.var (.a 3 yP) 286),(6,.var (.a 3 yP) 286)],[]⟩)]⟩⟩)],[],[],[]⟩ func333<|cC (uG fu)<|cC (KU fu)<|cC (XH fu)<|cN
theorem Ur:ym ⟨334,[.d yP,.d .i,.d .i],[.own .i 3],fun x=>vr fu x.1 x.2.1 x.2.2.1,0⟩:=sq fu wX func334<|cC (ru fu)<|cC (uG fu)<|cN
theorem Uk:ym ⟨277,[.d yP,.d yP,.d .i],[.d yP,.d yP,.d yP,.d .i],fun x=>j9 fu x.1 x.2.1 x.2.2.1,0⟩:=sq fu ⟨[],[(589834,⟨[11],[(.n,⟨[(44,.d .b)],[]⟩)]⟩)],[(5,q1 [(11,.var (.a 3 yP) 286),(12,.var (.a 3 yP) 286)] 0 [(11,.var (.a 3 yP) 286)]),(11,q1 [(51,.d .i),(11,.var (.a 3 yP) 286)] 2 [(11,.var (.a 3 yP) 286)])],[],[],[]⟩ func277<|cC (CZ fu)<|cC (qp fu)<|cC (xB fu)<|cC (Ur fu)<|cN
theorem Ug:ym ⟨272,[.d yP,.d yP,.d .i],[.d yP,.d .i],fun x=>qX fu x.1 x.2.1 x.2.2.1,0⟩:=sq fu wX func272<|cC (Uk fu)<|cN
theorem Qj:ym ⟨273,[.d yP,.d yP,.d .i],[.own .i 3,.d .i],fun x=>q9 fu x.1 x.2.1 x.2.2.1,0⟩:=sq fu wX func273<|cC (uG fu)<|cC (qp fu)<|cC (xB fu)<|cN
theorem mb:ym ⟨331,[.d yP,.d yP,.d .i],[.own .i 3,.d .i],fun x=>Y9 fu x.1 x.2.1 x.2.2.1,0⟩:=sq fu wX func331<|cC (KU fu)<|cC (qp fu)<|cC (xB fu)<|cN
theorem pY:ym ⟨275,[.d yP,.d yP,.d .i],[.d .b],fun x=>ZQ fu x.1 x.2.1 x.2.2.1,0⟩:=sq fu wX func275<|cC (mb fu)<|cN
theorem rP:ym ⟨271,[.d yP,.d .i],[.d .b],fun x=>Zx fu x.1 x.2.1,0⟩:=sq fu ⟨[],[],[(2,⟨⟨[(9,.d .i)],[]⟩,⟨[],[(.x 0,⟨[],[]⟩),(.r,⟨[],[(4,.kb false)]⟩)]⟩⟩)],[],[],[]⟩ func271<|cN
theorem Jb:ym ⟨274,[.d (.l yP),.d .i],[.own .i 3],fun x=>vg fu x.1 x.2.1,0⟩:=sq fu ⟨[],[],[(3,q1 [(5,.own .i 3),(11,.d .i)] 0 [(5,.own .i 3)])],[],[],[]⟩ func274<|cC (Qj fu)<|cN
theorem EC:ym ⟨314,[.d zU],[.d .i,.d .b],fun x=>WC fu x.1,0⟩:=sq fu ⟨[1],[(196612,⟨[1],[(.n,⟨[(6,.d .b)],[]⟩)]⟩),(327686,⟨[1],[(.n,⟨[(11,.d .b)],[]⟩)]⟩),(458760,⟨[1],[(.n,⟨[(16,.d .b)],[]⟩)]⟩)],[],[],[],[]⟩ func314<|cC (Y6 fu)<|cN
theorem Iz:ym ⟨256,[.d zU,.d .i],[.d .i,.d .i],fun x=>VM fu x.1 x.2.1,0⟩:=sq fu ⟨[],[],[],[(1,[])],[],[]⟩ func256<|cC (Wc fu)<|cC (EC fu)<|cC (xd fu)<|cN
theorem AY:ym ⟨255,[.d .i,.d zU,.q .i],[.d .i],fun x=>YQ fu x.1 x.2.1 x.2.2.1,0⟩:=sq fu wX func255<|cC (Iz fu)<|cN
theorem Qw:ym ⟨254,[.d xc,.fn [.i,zU] [.i]],[.own .i 3],fun x=>qi fu x.1<|fun z0 z1=>x.2.1 (z0,z1,()),0⟩:=sq fu ⟨[],[(262149,⟨[5],[(.n,⟨[(11,.d xc),(12,.d .i),(14,.d .b)],[]⟩)]⟩)],[(3,q1 [(13,.d .i),(5,.own .i 3)] 0 [(5,.own .i 3)])],[],[],[]⟩ func254<|cN
theorem Xv:ym ⟨186,[.d xc,.d .i],[.own .i 3,.d .i],fun x=>ke fu x.1 x.2.1,0⟩:=sq fu ⟨[],[],[(4,q1 [(6,.own .i 3)] 0 [(6,.own .i 3)])],[],[],[]⟩ func186<|cC (Qw fu)<|cC (AY fu)<|cN
theorem pf:ym ⟨195,[.d xc,.d (.l yP),.d .i],[.d .b],fun x=>wE fu x.1 x.2.1 x.2.2.1,0⟩:=sq fu ⟨[],[(393223,⟨[7],[(.n,⟨[(0,.d xc),(1,.d (.l yP)),(2,.d .i),(40,.d (.l yP)),(41,.d .i),(43,.d .b)],[]⟩)]⟩)],[(5,⟨⟨[(42,.d .i),(7,.own .i 3)],[]⟩,⟨[],[(.x 0,⟨[(7,.own .i 3)],[]⟩),(.r,⟨[],[(6,.kb false)]⟩)]⟩⟩),(10,⟨⟨[(62,.d .i)],[]⟩,⟨[7],[(.x 2,⟨[],[]⟩),(.r,⟨[],[(6,.kb false)]⟩)]⟩⟩)],[],[],[]⟩ func195<|cC (rP fu)<|cC (Ug fu)<|cC (Qj fu)<|cC (Jb fu)<|cC (pY fu)<|cC (Xv fu)<|cN
theorem ll:ym ⟨335,[.d xc,.d xc,.d zU],[.d xc,.own zU 30],fun x=>qP fu x.1 x.2.1 x.2.2.1,0⟩:=sq fu ⟨[],[(589834,⟨[8,9],[(.n,⟨[(10,.d .i),(47,.d xc),(48,.d .i),(50,.d .b)],[]⟩)]⟩)],[(4,q1 [(10,.d .i),(8,.own zU 30),(9,.own zU 30)] 0 [(8,.own zU 30),(9,.own zU 30)]),(8,q1 [(1,.d xc),(5,.q zU),(49,.d .i),(8,.own zU 30),(9,.own zU 30)] 2 [(1,.d xc),(5,.q zU),(8,.own zU 30),(9,.own zU 30)])],[(6,[])],[],[]⟩ func335<|cC (Wc fu)<|cC (Vj fu)<|cC (WU fu)<|cC (xn fu)<|cN
theorem Ak:ym ⟨348,[.d .i,.d zU,.q xc],[.d zU],fun x=>jv fu x.1 x.2.1 x.2.2.1,0⟩:=sq fu wX func348<|cC (uR fu)<|cN
theorem lL:ym ⟨309,[.d xc,.d xc],[.own zU 30],fun x=>w6 fu x.1 x.2.1,0⟩:=sq fu ⟨[3],[],[],[],[],[]⟩ func309<|cC (Ak fu)<|cC (yW fu)<|cC (y4 fu)<|cN
theorem KZ:ym ⟨25,[.d xc,.d xc],[.own zU 30],fun x=>y7 fu x.1 x.2.1,0⟩:=sq fu ⟨[],[(262149,⟨[5],[(.n,⟨[(1,.d xc),(16,.d xc),(17,.d .i),(19,.d .b)],[]⟩)]⟩),(458760,⟨[5,7],[(.n,⟨[(1,.d xc),(6,.d .i),(16,.d xc),(17,.d .i),(18,.d .i),(23,.d xc),(24,.d .i),(26,.d .b)],[]⟩)]⟩)],[(3,q1 [(18,.d .i),(5,.own zU 30)] 0 [(5,.own zU 30)]),(6,q1 [(25,.d .i),(5,.own zU 30),(7,.var zU 30)] 2 [(5,.own zU 30)])],[],[],[]⟩ func25<|cC (yW fu)<|cC (uR fu)<|cC (xn fu)<|cN
theorem rY:ym ⟨143,[.d .i,.d .i],[.d zU],fun x=>Zu fu x.1 x.2.1,0⟩:=sq fu wX func143<|cC (xd fu)<|cN
theorem QL:ym ⟨142,[.d yP,.fn [.i,.i] [zU]],[.own zU 30],fun x=>qq fu x.1<|fun z0 z1=>x.2.1 (z0,z1,()),0⟩:=sq fu ⟨[],[],[(3,q1 [(13,.d .i),(5,.own zU 30)] 0 [(5,.own zU 30)])],[],[],[]⟩ func142<|cN
theorem dp:ym ⟨80,[.d yP],[.own zU 30],fun x=>vU fu x.1,0⟩:=sq fu wX func80<|cC (yW fu)<|cC (QL fu)<|cC (rY fu)<|cN
theorem dj:ym ⟨27,[.d yP],[.own zU 30],fun x=>kt fu x.1,0⟩:=sq fu wX func27<|cC (dp fu)<|cN
theorem mV:ym ⟨249,[.d .i,.d zU,.q zU],[.d zU],fun x=>XP fu x.1 x.2.1 x.2.2.1,0⟩:=sq fu wX func249<|cC (xn fu)<|cN
theorem YT:ym ⟨180,[.d xc,.d zU],[.own zU 30],fun x=>vc fu x.1 x.2.1,0⟩:=sq fu wX func180<|cC (mV fu)<|cC (yW fu)<|cC (y4 fu)<|cN
theorem lN:ym ⟨248,[.d xc,.d xc],[.own zU 30],fun x=>q8 fu x.1 x.2.1,0⟩:=sq fu wX func248<|cC (YT fu)<|cC (xd fu)<|cC (lL fu)<|cN
theorem lH:ym ⟨278,[.d (.a 4 xc),.d xc,.d zU],[.d (.a 4 xc)],fun x=>qJ fu x.1 x.2.1 x.2.2.1,0⟩:=sq fu wX func278<|cC (WU fu)<|cC (ll fu)<|cC (lL fu)<|cC (lN fu)<|cC (KZ fu)<|cC (dj fu)<|cN
theorem lJ:ym ⟨372,[.d (.p zU (.p zU zU)),.d zU,.d (.p zU (.p zU zU))],[.d (.p zU (.p zU zU))],fun x=>kH fu x.1 x.2.1 x.2.2.1,0⟩:=sq fu wX func372<|cC (Vj fu)<|cC (xn fu)<|cN
theorem Aj:ym ⟨332,[.d zU,.d zU],[.d zU,.d zU,.d zU],fun x=>YF fu x.1 x.2.1,0⟩:=sq fu ⟨[],[(393224,⟨[4,5,6],[(.n,⟨[(7,.var (.p zU (.p zU zU)) 323)],[]⟩)]⟩),(524298,⟨[4,5,6],[(.n,⟨[(7,.var (.p zU (.p zU zU)) 323)],[]⟩)]⟩)],[(2,⟨⟨[(7,.var (.p zU (.p zU zU)) 323),(8,.var (.p zU (.p zU zU)) 323)],[]⟩,⟨[4,5,6],[(.x 0,⟨[(7,.var (.p zU (.p zU zU)) 323)],[]⟩)]⟩⟩)],[(1,[]),(9,[])],[],[]⟩ func332<|cC (c9 fu)<|cC (vV fu)<|cC (cV fu)<|cC (qe fu)<|cC (lJ fu)<|cC (xd fu)<|cN
theorem CT:ym ⟨276,[.d xc,.d zU],[.own zU 30],fun x=>Wb fu x.1 x.2.1,0⟩:=sq fu ⟨[],[],[],[(1,[])],[],[]⟩ func276<|cC (YT fu)<|cC (Aj fu)<|cC (WU fu)<|cN
def Av:VB:=⟨196,[.d xc,.d (.l yP),.d .i,.d .i,.d zU],[.own xc 22],fun x=>vb fu x.1 x.2.1 x.2.2.1 x.2.2.2.1 x.2.2.2.2.1,0⟩
theorem bO:∀fu:Nat,ym (Av fu)
 |0=>sg0 (by kernel_rfl) fun _=>rfl
 |fu+1=>sq fu ⟨[],[],[(10,q1 [(22,.d .i),(21,.var (.a 4 xc) 252)] 0 [(21,.var (.a 4 xc) 252)])],[(14,[])],[],[]⟩ func196<|cC (bO fu)<|cC (dp fu)<|cC (Qj fu)<|cC (Jb fu)<|cC (CT fu)<|cC (Uk fu)<|cC (lH fu)<|cC (Xv fu)<|cC (Vy fu)<|cN
theorem bf:ym ⟨125,[.d xc,.d (.l yP),.d .i,.d .i],[.own xc 22,.d .i],fun x=>qh fu x.1 x.2.1 x.2.2.1 x.2.2.2.1,0⟩:=sq fu wX func125<|cC (pf fu)<|cC (bO fu)<|cC (WU fu)<|cC (yW fu)<|cC (Vy fu)<|cN
theorem CJ:ym ⟨281,[.d xc,.d xc,.d zU],[.d xc,.d .i],fun x=>WE fu x.1 x.2.1 x.2.2.1,0⟩:=sq fu wX func281<|cC (KZ fu)<|cC (dw fu)<|cN
theorem Vs:ym ⟨76,[.d zU,.d zU],[.d .i],fun x=>jk fu x.1 x.2.1,0⟩:=sq fu wX func76<|cC (Vj fu)<|cC (vV fu)<|cN
theorem Fu:ym ⟨337,[.d zU,.d zU],[.d zU,.d .i],fun x=>ZF fu x.1 x.2.1,0⟩:=sq fu wX func337<|cC (Wc fu)<|cC (Vj fu)<|cC (Vs fu)<|cC (uR fu)<|cN
theorem A8:ym ⟨282,[.d xc,.d zU],[.own zU 30,.d .i],fun x=>YR fu x.1 x.2.1,0⟩:=sq fu wX func282<|cC (UW fu)<|cC (Fu fu)<|cN
theorem pR:ym ⟨130,[.d zU,.d zU],[.d zU],fun x=>Vc fu x.1 x.2.1,0⟩:=sq fu ⟨[],[],[(2,⟨⟨[(5,.d jU),(6,.d jU)],[]⟩,⟨[4],[(.x 0,⟨[(5,.d jU)],[]⟩)]⟩⟩)],[],[],[]⟩ func130<|cC (cY fu)<|cC (qe fu)<|cC (BG fu)<|cN
theorem XC:ym ⟨62,[.d xc],[.d zU],fun x=>wU fu x.1,0⟩:=sq fu ⟨[],[(327686,⟨[0,2,3],[(.n,⟨[(10,.d .i),(12,.d .b)],[]⟩)]⟩)],[(4,⟨⟨[(11,.d .i),(0,.own zU 30),(2,.var zU 30),(3,.var zU 30)],[(9,.al 0)]⟩,⟨[],[(.x 0,⟨[(0,.own zU 30),(2,.var zU 30),(3,.var zU 30)],[]⟩)]⟩⟩)],[],[],[]⟩ func62<|cC (pR fu)<|cC (c9 fu)<|cC (xd fu)<|cC (yW fu)<|cN
theorem oW:ym ⟨74,[.d .i,.d zU,.q zU],[.d zU],fun x=>Vn fu x.1 x.2.1 x.2.2.1,0⟩:=sq fu wX func74<|cC (Wi fu)<|cN
def JO:VB:=⟨23,[.d xc],[.own zU 30],fun x=>xN fu x.1,0⟩
theorem ZG:ym (JO fu):=sq fu wX func23<|cC (oW fu)<|cC (yW fu)<|cC (XC fu)<|cC (y4 fu)<|cN
def ua:VB:=⟨199,[.d xc,.d Sd,.own .i 3,.d zU],[.d xc,.own .i 3],fun x=>qD fu x.1 x.2.1 x.2.2.1 x.2.2.2.1,1⟩
theorem aL:ym (ua fu):=Sv (fu:=fu) ⟨[],[(262149,⟨[2],[(.n,⟨[(1,.d Sd),(7,.q zU),(18,.d .i),(20,.d .b)],[]⟩)]⟩)],[(3,⟨⟨[(9,.d xc),(19,.d .i),(2,.own .i 3)],[(17,.al 2)]⟩,⟨[],[(.x 0,⟨[(9,.d xc),(2,.own .i 3)],[]⟩)]⟩⟩)],[],[],[]⟩ func199 (cC (CJ fu)<|cC (A8 fu)<|cC (ZG fu)<|cN) (by kernel_rfl) fun pn x=>by kernel_rfl
def Yt:Aq:=⟨280,[.q .i,.q .i],.i,3,fun x _ _ g x0=>wk fu x.1 x.2.1 g x0⟩
def anC:An:=⟨[],[],[(2,⟨⟨[(4,.own .i 3),(12,.d .i)],[]⟩,⟨[0],[(.x 0,⟨[(4,.own .i 3)],[]⟩)]⟩⟩),(8,⟨⟨[(6,.d .i)],[]⟩,⟨[0,4],[(.x 4,⟨[(6,.d .i)],[]⟩)]⟩⟩),(13,⟨⟨[(7,.d .i),(4,.own .i 3)],[]⟩,⟨[0],[(.x 6,⟨[(4,.own .i 3)],[]⟩)]⟩⟩)],[],[],[]⟩
def zgl:Code->Code|.seq a _=>a|c=>c
def BP:Code->Code|.seq _ b=>b|c=>c
def kIn:Code->Code|.block _ c=>c|.loop c=>c|c=>c
def Bk(f:Func):Code:=match f.body with|some c=>c|none=> .skip
noncomputable def kA:Code:=zgl<|Bk f280
noncomputable def kB:Code:=zgl<|BP<|Bk f280
noncomputable def kC:Code:=kIn<|kIn<|BP<|BP<|Bk f280
section
variable{X Y R:Type}{mX:X->Value->MF}{mY:Y->Value->MF}{g:List Int->X->Option (List Int×(X⊕Y))}{n all:Int}
def cfC:Cf:=⟨tt,[],anC,fu,ex,[],[],[]⟩
def S0(mX:X->Value->MF)(mY:Y->Value->MF)(g:List Int->X->Option (List Int×(X⊕Y)))(n all:Int)(x0:X):Sg:=⟨1,[(0,0,.yd 0),(1,0,.q .i n),(2,0,.q .i all)],[(0,.hid .i 3 X Y mX mY g x0)]⟩
def S1(mX:X->Value->MF)(mY:Y->Value->MF)(g:List Int->X->Option (List Int×(X⊕Y)))(n all:Int)(x0:X)(xs:List Int):Sg:=⟨2,[(4,0,.ow 1),(9,0,.ow 1),(8,0,.d .i n),(0,0,.yd 0),(1,0,.q .i n),(2,0,.q .i all)],[(1,.own .i 3 xs),(0,.hid .i 3 X Y mX mY g x0)]⟩
def S2(mX:X->Value->MF)(mY:Y->Value->MF)(g:List Int->X->Option (List Int×(X⊕Y)))(n all:Int)(x0:X)(xs ys:List Int):Sg:=⟨3,[(4,0,.ow 2),(4,0,.ow 2),(11,0,.d .i (xs.length:Int)),(8,0,.d .i n),(0,0,.yd 0),(1,0,.q .i n),(2,0,.q .i all)],[(2,.own .i 3 ys),(0,.hid .i 3 X Y mX mY g x0)]⟩
def Sn(mX:X->Value->MF)(mY:Y->Value->MF)(g:List Int->X->Option (List Int×(X⊕Y)))(n all:Int)(x:X)(xs:List Int)(x3 x1 x2 y x0:Int):Sg:=
 ⟨5,[(4,0,.ow 4),(4,0,.ow 4),(51,0,.d .i x3),(50,0,.d .i x1),(48,0,.d .i x2),(47,0,.d .i y),(45,0,.d .i x1),(43,0,.kb false),(42,0,.d .i x1),(6,0,.d .i x1),(6,0,.d .i x1),(25,0,.d .i x0),(24,0,.d .i n),(23,0,.kb false),(22,0,.kb true),(20,0,.yd 2),(0,0,.yd 2),(1,0,.q .i n),(2,0,.q .i all)],[(4,.own .i 3 xs),(2,.hid .i 3 X Y mX mY g x)]⟩
def Sr(mX:X->Value->MF)(mY:Y->Value->MF)(g:List Int->X->Option (List Int×(X⊕Y)))(n all:Int)(x:X)(x0 x1:Int)(xs:List Int):Sg:=
 ⟨4,[(43,0,.kb true),(42,0,.d .i x1),(6,0,.d .i x1),(6,0,.d .i x1),(25,0,.d .i x0),(24,0,.d .i n),(23,0,.kb false),(22,0,.kb true),(21,0,.ow 1),(20,0,.yd 2),(4,0,.ow 1),(0,0,.yd 2),(1,0,.q .i n),(2,0,.q .i all)],[(2,.hid .i 3 X Y mX mY g x),(1,.own .i 3 xs)]⟩
def Sy(mY:Y->Value->MF)(n all:Int)(y:Y)(xs:List Int):Sg:=
 ⟨3,[(23,0,.kb true),(22,0,.kb false),(21,0,.ow 1),(20,0,.yd 2),(4,0,.ow 1),(0,0,.yd 2),(1,0,.q .i n),(2,0,.q .i all)],[(2,.hiy Y mY y),(1,.own .i 3 xs)]⟩
theorem zlq(x0:X)(K:Tg->Sg->Option R):aQ (cfC fu) kA ⟨0,[],[]⟩ (S0 mX mY g n all x0) K=jM n fun m=>ck (8*m<=281474976710656)<|nm (xaf m 0) fun xs=>K .n (S1 mX mY g n all x0 xs):=by kernel_rfl
theorem zk0(x0:X)(xs:List Int)(K:Tg->Sg->Option R):aQ (cfC fu) kB ⟨0,[],[]⟩ (S1 mX mY g n all x0 xs) K=bd (zg (fun L (z:List Int×Int)=>
 if z.2<(xs.length:Int)then
  zG z.2 z.1.length fun j=>
  nm (z.1.set j z.2) fun xs=>
  ze (z.2+1) fun i=>L (xs,i)
 else some z.1) fu (xs,0)) fun ys=>K .n (S2 mX mY g n all x0 xs ys):=by kernel_rfl
theorem zkZ(x:X)(xs:List Int)(K:Tg->Sg->Option R):aQ (cfC fu) kC ⟨0,[],[]⟩ (chS 3 mX mY g n all x xs) K=
 vh fu n all g x xs (fun x xs a b c d e=>K .n<|Sn mX mY g n all x xs a b c d e) (fun x a b xs=>K .r<|Sr mX mY g n all x a b xs) fun y xs=>K .r (Sy mY n all y xs):=by kernel_rfl
theorem zfq(g:List Int->X->Option (List Int×(X⊕Y)))(x0:X)(r:X⊕Y)(l:Nat)(v1 v2 u:Value)(we:World)(Se:Nat->Prop)(F:List MF)(G:List FF)(w:World)(hY:GA Tryz.prog l eI 3 mX mY g)
 (hg:St we Se (mX x0 u::F) (kU Tryz.prog [.q .i,.q .i] (n,all,()) [v1,v2]++G) w) (hM:wk fu n all g x0=some r):
 Calls Tryz.prog 280 #[.func (.yield l) #[] #[],v1,v2] w fun e w'=>(∃v,e=.returned v)/\∃u',St we Se (xfw (fun x=>mX x u') (fun y=>mY y u') r::F) G w':=by
 have hX:Aa Tryz.prog (cfC fu):=.of M6 rfl;have hD:∀c,Nr 66 c=true->Ba Tryz.prog (cfC fu) 66 c:=fun c h=>Yc Mh Mm Mg cN hX c h;refine Jf (args:=[.func (.yield l) #[] #[],v1,v2]) (c:=Bk f280) func280 rfl (by kernel_rfl) fun rest=> ?_;have hi:Zi Tryz.prog (Fr.wd ⟨we,Se,F,G⟩ []) ⟨0,[],[]⟩ (S0 mX mY g n all x0) (L ((([Value.func (.yield l) #[] #[],v1,v2]:List Value).zipIdx 0).map fun x=>(x.2,x.1)) rest) w:=by
  refine⟨⟨fun e he=> ?_,fun _ he=>absurd he IR,fun e he q hq=> ?_,fun _ he=>absurd he IR⟩,fun _=>KP (.int .i64 (l:Int)) [u],?_⟩
  ·obtain rfl:=xai.1 he;exact xec
  ·simp only[S0,xac,IR,or_false]at he;rcases he with rfl|rfl|rfl<;>cases hq<;>exact xec
  ·have h1:St we Se (Qz (fun _=>KP (.int .i64 (l:Int)) [u]) (0,.hid .i 3 X Y mX mY g x0)::F) (kU Tryz.prog [.q .i,.q .i] (n,all,()) [v1,v2]++G) w:=St.grp.2<|St.pr hY hg;exact h1.weak fun S w ha=>⟨rfl,ha.1,ha.2.1,ha.2.2⟩
 obtain⟨f2,hd⟩:∃f2:List Int->Option (X⊕Y),f2=fun xs=>zg (fun L (q:X×List Int)=>vh fu n all g q.1 q.2 (fun x xs _ _ _ _ _=>L (x,xs)) (fun x _ _ _=>some (.inl x)) fun y _=>some (.inr y)) fu (x0,xs):=⟨_,rfl⟩;obtain⟨f1,hf⟩:∃f1:List Int->Option (X⊕Y),f1=fun xs=>bd (zg (fun L (z:List Int×Int)=>
  if z.2<(xs.length:Int)then
   zG z.2 z.1.length fun j=>
   nm (z.1.set j z.2) fun xs=>
   ze (z.2+1) fun i=>L (xs,i)
  else some z.1) fu (xs,0)) f2:=⟨_,rfl⟩
 have hj:(jM n fun m=>ck (8*m<=281474976710656)<|nm (xaf m 0) f1)=some r:=by rw[hf,hd];exact hM
 refine oc (x:=kA) (y:=BP<|Bk f280) ?_;obtain⟨K,k1,k2⟩:=zap (fun xs:List Int=>(Tg.n,S1 mX mY g n all x0 xs)) f1 (fun i j h=>by
  have h2:Od.own .i 3 i=Od.own .i 3 j:=by simpa[S1]using h
  cases h2;rfl)
 have k1:∀xs,K .n (S1 mX mY g n all x0 xs)=f1 xs:=k1;refine hD kA (by kernel_rfl) (N:=Nd.of 66) (K:=K) rfl (.inl rfl) (r:=r) ((zlq fu x0 K).trans<|by simp only[k1];exact hj) (fun t σ' hk Ds env w _ hR=> ?_) hi;obtain⟨xs,e1,e2⟩:=k2 _ _ _ hk;cases e1;refine oc (x:=kB) (y:=BP<|BP<|Bk f280) ?_;obtain⟨K,k1,k2⟩:=zap (fun ys:List Int=>(Tg.n,S2 mX mY g n all x0 xs ys)) f2 (fun i j h=>by
  have h2:Od.own .i 3 i=Od.own .i 3 j:=by simpa[S2]using h
  cases h2;rfl)
 have k1:∀ys,K .n (S2 mX mY g n all x0 xs ys)=f2 ys:=k1;refine hD kB (by kernel_rfl) (N:=Nd.of 66) (K:=K) rfl (.inl rfl) (r:=r) ((zk0 fu x0 xs K).trans<|by simp only[k1];rw[hf]at e2;exact e2) (fun t σ' hk Ds env w _ hR=> ?_) hR;obtain⟨ys,e3,e4⟩:=k2 _ _ _ hk;cases e3;have hm:Zi Tryz.prog (Fr.wd ⟨we,Se,F,G⟩ Ds) ⟨0,[],[]⟩ (chS 3 mX mY g n all x0 ys) env w:=zfA (o:=0) (p:=2) rfl rfl rfl rfl rfl rfl rfl hR;refine Bu (id:=2) (c:=.loop kC) ?_;obtain⟨body,hb⟩:∃body:((X×List Int)->Option (X⊕Y))->(X×List Int)->Option (X⊕Y),body=fun L q=>vh fu n all g q.1 q.2 (fun x xs _ _ _ _ _=>L (x,xs)) (fun x _ _ _=>some (.inl x)) fun y _=>some (.inr y):=⟨_,rfl⟩;refine HX (G:=Nat×(X×List Int)) (fun q Ds env w=>zg body q.1 q.2=some r/\Zi Tryz.prog (Fr.wd ⟨we,Se,F,G⟩ Ds) ⟨0,[],[]⟩ (chS 3 mX mY g n all q.2.1 q.2.2) env w) (fun q=>q.1) (fu,(x0,ys)) ⟨by rw[hb];rw[hd]at e4;exact e4,hm⟩ ?_;rintro⟨k,x,xs⟩ Ds env w ⟨hl,hR⟩
 cases k with
 |zero=>exact(Pa hl).elim
 |succ k=>
  have hl:=Pc hl
  obtain⟨K,k1,k2⟩:=zap (ι:=(X×List Int×Int×Int×Int×Int×Int)⊕((X×Int×Int×List Int)⊕(Y×List Int)))
   (fun q=>match q with
    |.inl (x,xs,a,b,c,d,e)=>(Tg.n,Sn mX mY g n all x xs a b c d e)
    |.inr (.inl (x,a,b,xs))=>(Tg.r,Sr mX mY g n all x a b xs)
    |.inr (.inr (y,xs))=>(Tg.r,Sy mY n all y xs))
   (fun q=>match q with
    |.inl (x,xs,_,_,_,_,_)=>zg body k (x,xs)
    |.inr (.inl (x,_,_,_))=>some (.inl x)
    |.inr (.inr (y,_))=>some (.inr y)) (fun i j h=>by
   rcases i with⟨x,xs,a,b,c,d,e⟩|⟨x,a,b,xs⟩|⟨y,xs⟩<;>rcases j with⟨x',xs',a',b',c',d',e'⟩|⟨x',a',b',xs'⟩|⟨y',xs'⟩
   ·have h2:=congrArg (fun q:Tg×Sg=>q.2.ob) h
    simp only[Sn,xez,xcH,true_and,and_true]at h2
    obtain⟨h3,h4⟩:=h2
    cases h3;cases h4;rfl
   ·cases congrArg Prod.fst h
   ·cases congrArg Prod.fst h
   ·cases congrArg Prod.fst h
   ·have h2:=congrArg (fun q:Tg×Sg=>q.2.ob) h
    simp only[Sr,xez,xcH,true_and,and_true]at h2
    obtain⟨h3,h4⟩:=h2
    cases h3;rfl
   ·exact absurd (congrArg (fun q:Tg×Sg=>q.2.nx) h)<|by simp[Sr,Sy]
   ·cases congrArg Prod.fst h
   ·exact absurd (congrArg (fun q:Tg×Sg=>q.2.nx) h)<|by simp[Sr,Sy]
   ·have h2:=congrArg (fun q:Tg×Sg=>q.2.ob) h
    simp only[Sy,xez,xcH,true_and,and_true]at h2
    obtain⟨h3,h4⟩:=h2
    cases h3;rfl)
  have q1:∀x xs a b c d e,K .n (Sn mX mY g n all x xs a b c d e)=zg body k (x,xs):=fun x xs a b c d e=>k1 (.inl (x,xs,a,b,c,d,e));have q2:∀x a b xs,K .r (Sr mX mY g n all x a b xs)=some (.inl x):=fun x a b xs=>k1 (.inr (.inl (x,a,b,xs)));have q3:∀y xs,K .r (Sy mY n all y xs)=some (.inr y):=fun y xs=>k1 (.inr (.inr (y,xs)));refine hD kC (by kernel_rfl) (N:=Nd.of 66) (K:=K) rfl (.inl rfl) (r:=r) ((zkZ fu x xs K).trans<|by simp only[q1,q2,q3];rw[hb]at hl⊢;exact hl) (fun t σ' hk Ds env w _ hR=> ?_) hR;obtain⟨i,e5,e6⟩:=k2 _ _ _ hk
  have fin:∀(t:Tg) (env:yN) (w:World),(∃u',St we Se (xfw (fun x=>mX x u') (fun y=>mY y u') r::F) G<|qx Ds w)->pO Ds w->∀a:Act,yr a=env->
   ∃v,(results f280 a.tmps).run Tryz.prog (qx Ds w)=.ok v (qx Ds w)/\(∃v',xeA v=.returned v')/\∃u',St we Se (xfw (fun x=>mX x u') (fun y=>mY y u') r::F) G (qx Ds w):=fun t env w h1 h2 a ha=>⟨_,Xb (rs:=[]) (vs:=[]) rfl trivial,⟨_,rfl⟩,h1⟩
  rcases i with⟨x',xs',a,b,c,d,e⟩|⟨x',a,b,xs'⟩|⟨y',xs'⟩
  ·cases e5;exact⟨(k,(x',xs')),⟨e6,zfA (o:=2) (p:=4) rfl rfl rfl rfl rfl rfl rfl hR⟩,xbY k⟩
  ·cases e5;cases e6;obtain⟨hc,hR⟩:=Vk hR;exact⟨.inr rfl,hc,fin .r _ _ (zgq (o:=2) rfl hR) hc⟩
  ·cases e5;cases e6;obtain⟨hc,hR⟩:=Vk hR;exact⟨.inr rfl,hc,fin .r _ _ (zh1 (o:=2) rfl hR) hc⟩
end
theorem gY:zb9 Tryz.prog (Yt fu):=by
 refine⟨by kernel_rfl,?_⟩;rintro⟨n,all,_⟩ X Y mX mY g x0 r hM l vs ha hY u we Se F G w hb
 match vs,ha with
 |[v1,v2],_=>exact zfq fu g x0 r l v1 v2 u we Se F G w hY hb hM
def ZK:Fx:=⟨198,[.i,.i],280,fun x=>[⟨.i,x.2.1⟩,⟨.i,x.1⟩]⟩
theorem sH:MV Tryz.prog ZK:=zgn (s:=ZK) (cf:=⟨tt,[],wX,0,ex,[],[],[]⟩) Mh Mm Mg cN (.of M6 rfl) func198 (by kernel_rfl) fun x=>by kernel_rfl
theorem ZR:ym ⟨338,[.d yP,.d .i],[.d .i],fun x=>ZT fu x.1 x.2.1,0⟩:=sq fu ⟨[],[],[(2,⟨⟨[(8,.d .i)],[]⟩,⟨[],[(.x 0,⟨[],[]⟩),(.r,⟨[(4,.d .i)],[]⟩)]⟩⟩)],[],[],[]⟩ func338<|cN
theorem VD:ym ⟨338,[.own .i 3,.d .i],[.d .i,.own .i 3],fun x=>vH fu x.1 x.2.1,1⟩:=Sv (fu:=fu) ⟨[],[],[(2,⟨⟨[(8,.d .i)],[]⟩,⟨[0],[(.x 0,⟨[],[]⟩),(.r,⟨[(4,.d .i)],[]⟩)]⟩⟩)],[],[],[]⟩ func338 (cN) (by kernel_rfl) fun pn x=>by kernel_rfl
theorem VH:ym ⟨283,[.d yP,.d .i],[.d .b],fun x=>kV fu x.1 x.2.1,0⟩:=sq fu wX func283<|cC (ZR fu)<|cN
theorem XT:ym ⟨283,[.own .i 3,.d .i],[.d .b,.own .i 3],fun x=>xE fu x.1 x.2.1,1⟩:=Sv (fu:=fu) wX func283 (cC (VD fu)<|cC (ZR fu)<|cN) (by kernel_rfl) fun pn x=>by kernel_rfl
def vI:VB:=⟨200,[.d Sd,.own .i 3],[.d Sd,.own .i 3],fun x=>xl fu x.1 x.2.1,1⟩
theorem VC:ym (vI fu):=Sv (fu:=fu) ⟨[],[(262149,⟨[1,5],[(.n,⟨[(8,.d Sd),(9,.d .i),(11,.d .b)],[]⟩)]⟩)],[(3,q1 [(5,.own xc 22),(10,.d .i),(1,.own .i 3)] 0 [(5,.own xc 22),(1,.own .i 3)])],[],[],[]⟩ func200 (cC (XT fu)<|cC (VH fu)<|cN) (by kernel_rfl) fun pn x=>by kernel_rfl
def aW:VB:=⟨126,[.d xc,.d Sd,.d zU],[.own xc 22],fun x=>ud fu x.1 x.2.1 x.2.2.1,0⟩
theorem Al:ym (aW fu):=M5 (s:=aW fu) (cf:=⟨tt,[ua fu,U6 fu,vI fu,JO fu],⟨[3,4],[],[(3,q1 [(3,.var xc 22),(4,.var Sd 55),(7,.bo xc 22 55),(8,.d .i)] 0 [(3,.var xc 22),(4,.var Sd 55),(7,.bo xc 22 55)]),(6,q1 [(3,.var xc 22),(4,.var Sd 55),(7,.bo xc 22 55)] 1 [])],[(13,[56,57])],[],[7]⟩,fu,ex,[],[ZK],[Yt fu]⟩) Mh Mm Mg (cC (aL fu)<|cC (Qf fu)<|cC (VC fu)<|cC (ZG fu)<|cN) ⟨M6,fun s h=>by obtain rfl:=xai.1 h;exact sH,fun _ h=>absurd h IR,fun s h=>by obtain rfl:=xai.1 h;exact gY fu,rfl⟩ func126 (by kernel_rfl) rfl fun x r h=>(id (by kernel_rfl):MZ ⟨tt,[ua fu,U6 fu,vI fu,JO fu],⟨[3,4],[],[(3,q1 [(3,.var xc 22),(4,.var Sd 55),(7,.bo xc 22 55),(8,.d .i)] 0 [(3,.var xc 22),(4,.var Sd 55),(7,.bo xc 22 55)]),(6,q1 [(3,.var xc 22),(4,.var Sd 55),(7,.bo xc 22 55)] 1 [])],[(13,[56,57])],[],[7]⟩,fu,ex,[],[ZK],[Yt fu]⟩ f126 [.d xc,.d Sd,.d zU] [.own xc 22] x=ud fu x.1 x.2.1 x.2.2.1).trans h
theorem CK:ym ⟨24,[.d xc,.d xc],[.d .b],fun x=>kR fu x.1 x.2.1,0⟩:=sq fu ⟨[],[],[(5,⟨⟨[(5,.d .i)],[]⟩,⟨[0,1],[(.x 0,⟨[],[]⟩),(.r,⟨[(4,.d .b)],[]⟩)]⟩⟩)],[],[],[]⟩ func24<|cC (Vs fu)<|cC (yW fu)<|cN
theorem pT:ym ⟨128,[.d xc,.d xc],[.d .i],fun x=>qH fu x.1 x.2.1,0⟩:=sq fu wX func128<|cC (CK fu)<|cN
theorem FM:ym ⟨250,[.d zU,.d .i],[.d zU,.d .i],fun x=>Ql fu x.1 x.2.1,0⟩:=sq fu ⟨[],[],[(6,⟨⟨[(4,.var zU 30),(6,.var zU 30),(9,.var zU 30)],[]⟩,⟨[],[(.r,⟨[(4,.var zU 30)],[(5,.ci 0)]⟩)]⟩⟩),(11,⟨⟨[(1,.d .i),(2,.q zU),(52,.d .i),(11,.var zU 30)],[]⟩,⟨[4,6,9,10],[(.x 2,⟨[(1,.d .i),(2,.q zU),(11,.var zU 30)],[]⟩)]⟩⟩)],[],[],[]⟩ func250<|cC (vV fu)<|cC (Cr fu)<|cC (Vs fu)<|cC (uR fu)<|cC (xn fu)<|cC (qe fu)<|cC (JC fu)<|cC (ie fu)<|cC (xd fu)<|cN
theorem eJ:ym ⟨116,[.d xc],[.d .i],fun x=>ZE fu x.1,0⟩:=sq fu wX func116<|cC (yW fu)<|cN
theorem WM:ym ⟨182,[.d xc],[.d zU,.d .i],fun x=>wv fu x.1,0⟩:=sq fu ⟨[],[(524297,⟨[0,2,5],[(.n,⟨[(22,.d .i),(24,.d .b)],[]⟩)]⟩)],[(7,⟨⟨[(23,.d .i),(0,.own zU 30),(2,.var zU 30),(5,.var zU 30)],[(21,.al 0)]⟩,⟨[],[(.x 0,⟨[(0,.own zU 30),(2,.var zU 30),(5,.var zU 30)],[]⟩)]⟩⟩)],[],[],[]⟩ func182<|cC (Y6 fu)<|cC (uR fu)<|cC (xn fu)<|cC (eJ fu)<|cC (yW fu)<|cC (FM fu)<|cC (ie fu)<|cC (xd fu)<|cN
theorem A1:ym ⟨122,[.d xc,.d .i],[.d .i],fun x=>YM fu x.1 x.2.1,0⟩:=sq fu ⟨[],[],[(5,⟨⟨[(9,.d .i),(8,.var zU 30)],[]⟩,⟨[5,7],[(.x 0,⟨[(9,.d .i)],[]⟩)]⟩⟩)],[(2,[])],[],[]⟩ func122<|cC (xn fu)<|cC (xd fu)<|cC (WM fu)<|cC (Vs fu)<|cN
theorem EF:ym ⟨120,[.d xc],[.d .b],fun x=>Wg fu x.1,0⟩:=sq fu ⟨[],[],[],[(2,[])],[],[]⟩ func120<|cC (xn fu)<|cC (xd fu)<|cC (WM fu)<|cC (JC fu)<|cN
theorem pS:ym ⟨261,[.d yP,.d yP],[.d .i],fun x=>wI fu x.1 x.2.1,0⟩:=sq fu ⟨[],[],[(4,⟨⟨[(5,.d .i)],[]⟩,⟨[],[(.x 0,⟨[],[]⟩),(.r,⟨[(4,.d .i)],[]⟩)]⟩⟩)],[],[],[]⟩ func261<|cN
def Yw:VB:=⟨376,[.d yP,.q .i],[.d .b],fun x=>qS fu x.1 x.2.1,0⟩
theorem iM:ym (Yw fu):=sq fu wX func376<|cN
def Jm:VB:=⟨375,[.d yP,.d .i],[.own .i 3],fun x=>ZM fu x.1 x.2.1,0⟩
theorem CD:ym (Jm fu):=sq fu ⟨[],[],[(3,q1 [(13,.d .i),(5,.own .i 3)] 0 [(5,.own .i 3)])],[],[],[]⟩ func375<|cC (UO fu)<|cN
def Jl:VB:=⟨351,[.d (.l yP),.d .i],[.d .i],fun x=>Zp fu x.1 x.2.1,0⟩
theorem dB:ym (Jl fu):=sq fu ⟨[],[(393223,⟨[],[(.n,⟨[(0,.d (.l yP)),(17,.d (.l yP)),(18,.d .i),(20,.d .b)],[]⟩)]⟩)],[(5,⟨⟨[(19,.d .i)],[]⟩,⟨[],[(.x 0,⟨[],[]⟩),(.r,⟨[],[(4,.ci 1)]⟩)]⟩⟩)],[],[],[]⟩ func351<|cC (qp fu)<|cN
def YG:th:=⟨377,.i,23,3,fun xss ix r a p lo n=>w9 fu xss ix r a p lo n⟩
theorem AG(pn:Value)(xss:List (List Int))(ix:List Nat)(r:Nat)(a p:Int)(lo n:Nat):zhJ ⟨tt,[],(⟨[],[],[(1,q1 [(3,.matv .i 23 3),(13,.view 0),(0,.row 0),(15,.d .i)] 0 [(3,.matv .i 23 3)]),(5,q1 [(3,.matv .i 23 3),(13,.view 0),(0,.row 0),(23,.row 0),(9,.row 0),(25,.d .i)] 2 [(3,.matv .i 23 3),(13,.view 0),(0,.row 0)])],[],[],[]⟩:An),fu,ex,[],[],[]⟩ f377 .i 23 3 pn xss ix r a p lo n=w9 fu xss ix r a p lo n:=by kernel_rfl
theorem AB:Nf Tryz.prog (YG fu):=zg2 (s:=YG fu) (cf:=⟨tt,[],(⟨[],[],[(1,q1 [(3,.matv .i 23 3),(13,.view 0),(0,.row 0),(15,.d .i)] 0 [(3,.matv .i 23 3)]),(5,q1 [(3,.matv .i 23 3),(13,.view 0),(0,.row 0),(23,.row 0),(9,.row 0),(25,.d .i)] 2 [(3,.matv .i 23 3),(13,.view 0),(0,.row 0)])],[],[],[]⟩:An),fu,ex,[],[],[]⟩) Mh Mm Mg cN (.of M6 rfl) func377 (by kernel_rfl) fun pn xss ix r a p lo n z h=>(AG fu pn xss ix r a p lo n).trans h
def vo:VB:=⟨267,[.d (.l yP),.fn [yP] [.b]],[.d .i],fun x=>yx fu x.1<|fun z0=>x.2.1 (z0,()),0⟩
theorem jY:ym (vo fu):=sq fu ⟨[],[],[(2,⟨⟨[(8,.d .i)],[]⟩,⟨[],[(.x 0,⟨[],[]⟩),(.r,⟨[(4,.d .i)],[]⟩)]⟩⟩)],[],[],[]⟩ func267<|cN
def UE:VB:=⟨352,[.d (.l yP),.d .i],[.d (.l yP),.d .i],fun x=>kf fu x.1 x.2.1,0⟩
theorem tJ:ym (UE fu):=M5 (s:=UE fu) (cf:=⟨tt,[Jl fu,Jm fu,vo fu,sW fu,Yw fu],⟨[],[],[(6,q1 [(7,.mat .i 23 3),(25,.d .i)] 0 [(7,.mat .i 23 3)]),(12,q1 [(7,.mat .i 23 3),(10,.d .i),(11,.var .i 3)] 2 [(7,.mat .i 23 3),(10,.d .i)]),(19,q1 [(7,.mat .i 23 3),(90,.row 0),(92,.d .i)] 4 [(7,.mat .i 23 3)])],[(16,[]),(23,[]),(24,[])],[52,117,128],[33]⟩,fu,ex,[YG fu],[],[]⟩) Mh Mm Mg (cC (dB fu)<|cC (CD fu)<|cC (jY fu)<|cC (ru fu)<|cC (iM fu)<|cN) ⟨M6,fun _ h=>absurd h IR,fun s h=>by obtain rfl:=xai.1 h;exact AB fu,fun _ h=>absurd h IR,rfl⟩ func352 (by kernel_rfl) rfl fun x r h=>(id (by kernel_rfl):MZ ⟨tt,[Jl fu,Jm fu,vo fu,sW fu,Yw fu],⟨[],[],[(6,q1 [(7,.mat .i 23 3),(25,.d .i)] 0 [(7,.mat .i 23 3)]),(12,q1 [(7,.mat .i 23 3),(10,.d .i),(11,.var .i 3)] 2 [(7,.mat .i 23 3),(10,.d .i)]),(19,q1 [(7,.mat .i 23 3),(90,.row 0),(92,.d .i)] 4 [(7,.mat .i 23 3)])],[(16,[]),(23,[]),(24,[])],[52,117,128],[33]⟩,fu,ex,[YG fu],[],[]⟩ f352 [.d (.l yP),.d .i] [.d (.l yP),.d .i] x=kf fu x.1 x.2.1).trans h
theorem Ay:ym ⟨379,[.d .i],[.d .b],fun x=>ug fu x.1,0⟩:=sq fu wX func379<|cN
theorem XL:ym ⟨378,[.d yP,.fn [.i] [.b]],[.d .i],fun x=>y5 fu x.1<|fun z0=>x.2.1 (z0,()),0⟩:=sq fu ⟨[],[],[(2,⟨⟨[(8,.d .i)],[]⟩,⟨[],[(.x 0,⟨[],[]⟩),(.r,⟨[(4,.d .i)],[]⟩)]⟩⟩)],[],[],[]⟩ func378<|cN
theorem lY:ym ⟨355,[.d yP],[.d .i],fun x=>Y2 fu x.1,0⟩:=sq fu wX func355<|cC (XL fu)<|cC (Ay fu)<|cN
theorem AU:ym ⟨354,[.d yP,.q .i],[.d .b],fun x=>vd fu x.1 x.2.1,0⟩:=sq fu wX func354<|cC (lY fu)<|cN
theorem Xg:ym ⟨353,[.d (.l yP),.fn [yP] [.b]],[.d .b],fun x=>xr fu x.1<|fun z0=>x.2.1 (z0,()),0⟩:=sq fu wX func353<|cC (jY fu)<|cN
theorem FZ:ym ⟨322,[.d (.l yP),.d .i,.d .i],[.own yP 23,.d .i],fun x=>Xk fu x.1 x.2.1 x.2.2.1,0⟩:=sq fu ⟨[],[(131076,⟨[],[(.n,⟨[],[]⟩),(.r,⟨[],[(6,.nil),(7,.ci 1)]⟩)]⟩),(458760,⟨[10],[(.n,⟨[(1,.d .i),(2,.d .i),(8,.d (.l yP)),(46,.d .i),(48,.d .b)],[]⟩)]⟩),(851982,⟨[10,12],[(.n,⟨[(1,.d .i),(2,.d .i),(8,.d (.l yP)),(11,.q .i),(46,.d .i),(47,.d .i),(58,.d (.l yP)),(59,.d .i),(61,.d .b)],[]⟩)]⟩)],[(6,q1 [(10,.own yP 23),(47,.d .i)] 0 [(10,.own yP 23)]),(12,q1 [(60,.d .i),(10,.own yP 23),(12,.own .i 3)] 2 [(10,.own yP 23),(12,.own .i 3)])],[],[],[]⟩ func322<|cC (tJ fu)<|cC (Xg fu)<|cC (AU fu)<|cC (lY fu)<|cC (UO fu)<|cC (dB fu)<|cN
theorem K1:ym ⟨194,[.d yP,.d yP,.d .i],[.own .i 3,.own .i 3,.d .i],fun x=>qV fu x.1 x.2.1 x.2.2.1,0⟩:=sq fu wX func194<|cC (qp fu)<|cC (xB fu)<|cC (XH fu)<|cN
theorem KX:ym ⟨321,[.d yP,.d zU,.d yP,.d .i],[.own .i 3,.d .i],fun x=>kj fu x.1 x.2.1 x.2.2.1 x.2.2.2.1,0⟩:=sq fu ⟨[],[],[(9,⟨⟨[(11,.own .i 3),(13,.d yP),(14,.d .i)],[]⟩,⟨[10,12],[(.x 0,⟨[(11,.own .i 3)],[]⟩)]⟩⟩)],[],[],[]⟩ func321<|cC (vV fu)<|cC (uG fu)<|cC (qp fu)<|cC (xB fu)<|cC (XH fu)<|cC (JC fu)<|cN
theorem EV:ym ⟨259,[.d yP,.d .i],[.own yP 23],fun x=>Zs fu x.1 x.2.1,0⟩:=sq fu ⟨[],[],[(4,q1 [(6,.mat .i 23 3),(23,.d .i)] 0 [(6,.mat .i 23 3)]),(11,q1 [(6,.mat .i 23 3),(10,.d yP),(8,.d yP),(43,.d .i)] 2 [(6,.mat .i 23 3)]),(14,q1 [(6,.mat .i 23 3),(48,.d .i)] 4 [(6,.mat .i 23 3)])],[],[],[20]⟩ func259<|cC (xd fu)<|cC (KX fu)<|cC (Qj fu)<|cC (K1 fu)<|cC (FZ fu)<|cN
theorem Rh:ym ⟨320,[.d yP,.d yP,.d .i],[.own .i 3],fun x=>aj fu x.1 x.2.1 x.2.2.1,0⟩:=sq fu wX func320<|cC (K1 fu)<|cN
theorem NK:ym ⟨318,[.d yP,.d yP,.d .i],[.d yP],fun x=>Jn fu x.1 x.2.1 x.2.2.1,0⟩:=sq fu wX func318<|cC (Ug fu)<|cN
theorem nT:ym ⟨316,[.d .i,.q yP,.q .i],[.d .i],fun x=>uI fu x.1 x.2.1 x.2.2.1,0⟩:=sq fu wX func316<|cC (UO fu)<|cN
theorem HH:ym ⟨350,[.d yP,.d yP,.d .i],[.own .i 3,.d .i],fun x=>VU fu x.1 x.2.1 x.2.2.1,0⟩:=sq fu wX func350<|cC (KU fu)<|cC (qp fu)<|cC (xB fu)<|cN
theorem CH:ym ⟨319,[.d yP,.d .i,.d yP,.d .i],[.own .i 3],fun x=>WB fu x.1 x.2.1 x.2.2.1 x.2.2.2.1,0⟩:=sq fu wX func319<|cC (KX fu)<|cC (mb fu)<|cC (xd fu)<|cC (HH fu)<|cN
theorem AJ:ym ⟨258,[.d yP,.d (.l yP),.d .i,.d yP],[.own yP 23],fun x=>YY fu x.1 x.2.1 x.2.2.1 x.2.2.2.1,0⟩:=sq fu ⟨[],[(524297,⟨[10],[(.n,⟨[(11,.d .i),(28,.d (.l yP)),(29,.d .i),(31,.d .b)],[]⟩)]⟩),(983056,⟨[10],[(.n,⟨[(1,.d (.l yP)),(6,.q .i),(7,.q yP),(11,.d .i),(13,.d yP),(28,.d (.l yP)),(29,.d .i),(30,.d .i),(73,.d .b)],[]⟩)]⟩)],[(4,q1 [(10,.own yP 23),(11,.d .i)] 0 [(10,.own yP 23)]),(7,⟨⟨[(1,.d (.l yP)),(6,.q .i),(7,.q yP),(10,.own yP 23),(30,.d .i)],[]⟩,⟨[],[(.x 0,⟨[(10,.own yP 23)],[]⟩),(.x 2,⟨[(1,.d (.l yP)),(6,.q .i),(7,.q yP),(10,.own yP 23)],[]⟩)]⟩⟩),(10,⟨⟨[(10,.own yP 23),(14,.d .i)],[]⟩,⟨[],[(.x 0,⟨[(10,.own yP 23)],[]⟩),(.x 4,⟨[(10,.own yP 23)],[]⟩)]⟩⟩)],[],[],[]⟩ func258<|cC (Rh fu)<|cC (nT fu)<|cC (NK fu)<|cC (CH fu)<|cN
theorem bn:ym ⟨349,[.d yP,.d .i],[.own .i 3,.d .i],fun x=>qm fu x.1 x.2.1,0⟩:=sq fu wX func349<|cC (qp fu)<|cC (xB fu)<|cC (Ur fu)<|cN
theorem CF:ym ⟨315,[.d yP,.d .i],[.own .i 3,.d .i],fun x=>Jz fu x.1 x.2.1,0⟩:=sq fu wX func315<|cC (bn fu)<|cN
theorem AR:ym ⟨312,[.d yP,.d .i],[.own .i 3,.d .i],fun x=>YU fu x.1 x.2.1,0⟩:=sq fu ⟨[],[(458760,⟨[7,17],[(.n,⟨[(1,.d .i),(18,.d .i),(20,.d .b)],[]⟩)]⟩)],[(6,q1 [(7,.own .i 3),(19,.d .i),(17,.own .i 3)] 0 [(7,.own .i 3)])],[],[],[]⟩ func312<|cC (qp fu)<|cC (xB fu)<|cN
theorem Dz:ym ⟨311,[.d yP,.d .i],[.own .i 3,.d .i],fun x=>X9 fu x.1 x.2.1,0⟩:=sq fu wX func311<|cC (bn fu)<|cN
theorem BO:ym ⟨253,[.d yP,.d .i],[.d .b,.d .i],fun x=>Za fu x.1 x.2.1,0⟩:=sq fu wX func253<|cC (AR fu)<|cC (Ug fu)<|cC (Dz fu)<|cN
theorem AW:ym ⟨257,[.d yP,.d .i],[.d yP,.d .i],fun x=>ju fu x.1 x.2.1,0⟩:=sq fu wX func257<|cC (CF fu)<|cC (BO fu)<|cN
theorem Kc:ym ⟨202,[.d .u],[.d .i],fun x=>jm fu x.1,0⟩:=sq fu wX func202<|cC (ZA fu)<|cN
theorem kY:ym ⟨356,[.own yP 23,.d .i,.d .i,.fn [yP,yP] [.i]],[.own yP 23],fun x=>xo fu x.1 x.2.1 x.2.2.1<|fun z0 z1=>x.2.2.2.1 (z0,z1,()),1⟩:=Sv (fu:=fu) ⟨[],[],[(1,q1 [(8,.d .i),(0,.own yP 23)] 0 [(0,.own yP 23)]),(4,q1 [(1,.d .i),(2,.d .i),(9,.d .i),(0,.own yP 23)] 2 [(1,.d .i),(2,.d .i),(0,.own yP 23)])],[(6,[])],[],[]⟩ func356 (cN) (by kernel_rfl) fun pn x=>by kernel_rfl
def Ym:VB:=⟨323,[.own yP 23,.d .i,.d .i,.d .i,.fn [yP,yP] [.i]],[.own yP 23],fun x=>qQ fu x.1 x.2.1 x.2.2.1 x.2.2.2.1<|fun z0 z1=>x.2.2.2.2.1 (z0,z1,()),1⟩
theorem qO:∀fu:Nat,ym (Ym fu)
 |0=>sg0 (by kernel_rfl) fun _=>rfl
 |fu+1=>Sv (fu:=fu) ⟨[],[],[(2,⟨⟨[(1,.d .i),(2,.d .i),(3,.d .i),(0,.own yP 23)],[(10,.kb true),(11,.kb true)]⟩,⟨[],[(.r,⟨[(0,.own yP 23)],[]⟩)]⟩⟩)],[],[],[]⟩ func323 (cC (qO fu)<|cC (kY fu)<|cN) (by kernel_rfl) fun pn x=>by kernel_rfl
theorem XV:ym ⟨260,[.own yP 23,.fn [yP,yP] [.i]],[.own yP 23],fun x=>xC fu x.1<|fun z0 z1=>x.2.1 (z0,z1,()),1⟩:=Sv (fu:=fu) wX func260 (cC (Kc fu)<|cC (qO fu)<|cN) (by kernel_rfl) fun pn x=>by kernel_rfl
theorem EZ:ym ⟨187,[.d yP,.d .i,.d yP],[.own yP 23,.d .i],fun x=>ZN fu x.1 x.2.1 x.2.2.1,0⟩:=sq fu wX func187<|cC (AW fu)<|cC (AJ fu)<|cC (EV fu)<|cC (XV fu)<|cC (pS fu)<|cN
theorem Dh:ym ⟨184,[.d .i],[.d .i,.d .i],fun x=>xQ fu x.1,0⟩:=sq fu ⟨[],[],[(4,q1 [(0,.d .i)] 0 [(0,.d .i)])],[],[],[]⟩ func184<|cC (Vw fu)<|cN
theorem EY:ym ⟨185,[.d xc,.d .i],[.d .b,.d .i],fun x=>Wj fu x.1 x.2.1,0⟩:=sq fu wX func185<|cC (yW fu)<|cC (WM fu)<|cC (Xv fu)<|cC (Vw fu)<|cC (BO fu)<|cN
theorem DZ:ym ⟨121,[.d xc,.d yP],[.d .i,.own yP 23],fun x=>Wx fu x.1 x.2.1,0⟩:=sq fu ⟨[],[],[(4,q1 [(6,.d .i),(7,.d .i),(8,.own yP 23),(9,.d .i),(10,.d .i)] 0 [(6,.d .i),(8,.own yP 23)])],[],[],[]⟩ func121<|cC (Dh fu)<|cC (EY fu)<|cC (Xv fu)<|cC (EZ fu)<|cN
theorem tT:ym ⟨263,[.d .i],[.d zU],fun x=>KJ fu x.1,0⟩:=sq fu ⟨[],[(262149,⟨[2,3],[(.n,⟨[(0,.d .i),(6,.d .i),(8,.d .b)],[]⟩)]⟩)],[(3,q1 [(7,.d .i),(2,.var zU 30),(3,.var zU 30)] 0 [(2,.var zU 30),(3,.var zU 30)])],[(5,[])],[],[]⟩ func263<|cC (Wi fu)<|cC (xd fu)<|cC (xn fu)<|cN
theorem AI:ym ⟨262,[.d zU,.d .i],[.d zU],fun x=>uo fu x.1 x.2.1,0⟩:=sq fu ⟨[2],[],[(2,⟨⟨[(1,.d .i),(2,.var zU 30),(5,.var zU 30)],[]⟩,⟨[4],[(.x 0,⟨[(5,.var zU 30)],[]⟩)]⟩⟩)],[],[],[]⟩ func262<|cC (xd fu)<|cC (xn fu)<|cN
theorem AN:ym ⟨364,[.d xc,.d xc],[.d zU],fun x=>bh fu x.1 x.2.1,0⟩:=sq fu ⟨[],[(262149,⟨[4,5],[(.n,⟨[(1,.d xc),(9,.d xc),(10,.d .i),(12,.d .b)],[]⟩)]⟩)],[(3,q1 [(11,.d .i),(4,.var zU 30),(5,.var zU 30)] 0 [(4,.var zU 30),(5,.var zU 30)])],[],[],[]⟩ func364<|cC (xd fu)<|cC (uR fu)<|cC (xn fu)<|cN
theorem AK:ym ⟨324,[.d xc,.d xc],[.d zU,.d .i],fun x=>bU fu x.1 x.2.1,0⟩:=sq fu wX func324<|cC (AN fu)<|cN
theorem pA:ym ⟨264,[.d xc],[.d zU],fun x=>KF fu x.1,0⟩:=sq fu wX func264<|cC (AK fu)<|cN
theorem CQ:ym ⟨190,[.d xc,.d .i,.d .i],[.d .i,.d .i],fun x=>gk fu x.1 x.2.1 x.2.2.1,0⟩:=sq fu ⟨[],[],[(13,⟨⟨[(16,.d .i),(15,.var zU 30)],[]⟩,⟨[8,13,14],[(.x 0,⟨[],[]⟩),(.r,⟨[(6,.d .i)],[(7,.ci 0)]⟩)]⟩⟩)],[],[],[]⟩ func190<|cC (AI fu)<|cC (tT fu)<|cC (pA fu)<|cC (Vs fu)<|cC (xd fu)<|cC (xn fu)<|cC (WM fu)<|cC (ZG fu)<|cC (Vw fu)<|cN
theorem nk:ym ⟨193,[.d yP,.q yP,.q .i],[.d .b],fun x=>ny fu x.1 x.2.1 x.2.2.1,0⟩:=sq fu wX func193<|cC (K1 fu)<|cN
theorem AZ:ym ⟨124,[.d xc,.d (.l yP),.d .i],[.own xc 22,.d xc,.d (.l yP)],fun x=>YX fu x.1 x.2.1 x.2.2.1,0⟩:=sq fu ⟨[],[],[(2,⟨⟨[(0,.d xc),(1,.d (.l yP))],[(9,.nil)]⟩,⟨[],[(.x 0,⟨[(0,.d xc),(1,.d (.l yP))],[(9,.nil)]⟩)]⟩⟩)],[],[],[]⟩ func124<|cC (Qf fu)<|cC (nk fu)<|cC (Xv fu)<|cC (bf fu)<|cC (CQ fu)<|cN
theorem jx:ym ⟨284,[.own xc 22,.d .i,.d .i,.fn [xc,xc] [.i]],[.own xc 22],fun x=>y8 fu x.1 x.2.1 x.2.2.1<|fun z0 z1=>x.2.2.2.1 (z0,z1,()),1⟩:=Sv (fu:=fu) ⟨[],[],[(1,q1 [(8,.d .i),(0,.own xc 22)] 0 [(0,.own xc 22)]),(4,q1 [(1,.d .i),(2,.d .i),(9,.d .i),(0,.own xc 22)] 2 [(1,.d .i),(2,.d .i),(0,.own xc 22)])],[(6,[])],[],[]⟩ func284 (cN) (by kernel_rfl) fun pn x=>by kernel_rfl
def uJ:VB:=⟨201,[.own xc 22,.d .i,.d .i,.d .i,.fn [xc,xc] [.i]],[.own xc 22],fun x=>vm fu x.1 x.2.1 x.2.2.1 x.2.2.2.1<|fun z0 z1=>x.2.2.2.2.1 (z0,z1,()),1⟩
theorem vy:∀fu:Nat,ym (uJ fu)
 |0=>sg0 (by kernel_rfl) fun _=>rfl
 |fu+1=>Sv (fu:=fu) ⟨[],[],[(2,⟨⟨[(1,.d .i),(2,.d .i),(3,.d .i),(0,.own xc 22)],[(10,.kb true),(11,.kb true)]⟩,⟨[],[(.r,⟨[(0,.own xc 22)],[]⟩)]⟩⟩)],[],[],[]⟩ func201 (cC (vy fu)<|cC (jx fu)<|cN) (by kernel_rfl) fun pn x=>by kernel_rfl
theorem kX:ym ⟨127,[.own xc 22,.fn [xc,xc] [.i]],[.own xc 22],fun x=>yn fu x.1<|fun z0 z1=>x.2.1 (z0,z1,()),1⟩:=Sv (fu:=fu) wX func127 (cC (vy fu)<|cC (Kc fu)<|cN) (by kernel_rfl) fun pn x=>by kernel_rfl
theorem C3:ym ⟨60,[.d xc,.d yP],[.own xc 22,.d .b],fun x=>WG fu x.1 x.2.1,0⟩:=sq fu wX func60<|cC (pT fu)<|cC (EF fu)<|cC (DZ fu)<|cC (A1 fu)<|cC (Vy fu)<|cC (AZ fu)<|cC (bf fu)<|cC (Al fu)<|cC (kX fu)<|cN
theorem Eb:ym ⟨161,[.d zU,.d .i],[.d zU],fun x=>WQ fu x.1 x.2.1,0⟩:=sq fu ⟨[],[],[(3,⟨⟨[(8,.d .i),(5,.var zU 30)],[]⟩,⟨[4],[(.x 0,⟨[(5,.var zU 30)],[]⟩)]⟩⟩)],[],[],[]⟩ func161<|cC (xd fu)<|cC (xn fu)<|cN
theorem AO:ym ⟨179,[.d xc,.d xc],[.own zU 30,.own zU 30,.d .i],fun x=>YP fu x.1 x.2.1,0⟩:=sq fu ⟨[],[],[(9,⟨⟨[(1,.d xc),(9,.own zU 30),(11,.d .i),(10,.own zU 30)],[]⟩,⟨[8],[(.x 0,⟨[(9,.own zU 30),(10,.own zU 30)],[]⟩)]⟩⟩)],[(12,[]),(13,[1])],[],[]⟩ func179<|cC (Eb fu)<|cC (Wi fu)<|cC (YT fu)<|cC (yW fu)<|cC (lN fu)<|cN
theorem M3:ym ⟨118,[.d xc,.d xc],[.own zU 30],fun x=>Jk fu x.1 x.2.1,0⟩:=sq fu ⟨[],[],[(3,⟨⟨[(6,.d xc),(7,.own zU 30)],[]⟩,⟨[5],[(.x 0,⟨[(6,.d xc)],[]⟩)]⟩⟩)],[],[],[]⟩ func118<|cC (pR fu)<|cC (AO fu)<|cC (YT fu)<|cC (ZG fu)<|cC (XC fu)<|cN
theorem mG:ym ⟨181,[.d .i,.d zU],[.d zU],fun x=>Xw fu x.1 x.2.1,0⟩:=sq fu wX func181<|cC (xd fu)<|cC (xn fu)<|cN
theorem Ao:ym ⟨119,[.d xc],[.own zU 30],fun x=>YJ fu x.1,0⟩:=sq fu wX func119<|cC (yW fu)<|cC (mG fu)<|cC (y4 fu)<|cN
theorem PY:ym ⟨117,[.d xc,.d xc],[.own zU 30],fun x=>lB fu x.1 x.2.1,0⟩:=sq fu wX func117<|cC (Qf fu)<|cN
theorem tU:ym ⟨59,[.d xc],[.own zU 30,.d .i],fun x=>wH fu x.1,0⟩:=sq fu wX func59<|cC (eJ fu)<|cC (PY fu)<|cC (M3 fu)<|cC (Ao fu)<|cC (ZG fu)<|cN
theorem W6:ym ⟨15,[.d xc,.d yP],[.d zU,.own (.p xc .i) 42,.d .i],fun x=>yB fu x.1 x.2.1,0⟩:=sq fu ⟨[],[(655371,⟨[4,11,32],[(.n,⟨[(0,.d xc),(33,.d .i),(35,.d .b)],[]⟩)]⟩)],[(9,q1 [(11,.own (.p xc .i) 42),(34,.d .i),(4,.var zU 30),(32,.own xc 22)] 0 [(11,.own (.p xc .i) 42),(4,.var zU 30)])],[],[],[]⟩ func15<|cC (tU fu)<|cC (C3 fu)<|cC (CG fu)<|cC (XC fu)<|cN
theorem cX:ym ⟨16,[.d xc],[.d .b,.d .i],fun x=>uM fu x.1,0⟩:=sq fu wX func16<|cC (W6 fu)<|cN
theorem Xi:ym ⟨228,[.own .ch 5],[.own .ch 5],fun x=>qY fu x.1,1⟩:=Sv (fu:=fu) ⟨[],[],[(1,q1 [(2,.d .i),(3,.d .i),(0,.own .ch 5)] 0 [(0,.own .ch 5)])],[(3,[])],[],[]⟩ func228 (cN) (by kernel_rfl) fun pn x=>by kernel_rfl
theorem Df:ym ⟨165,[.d .u,.d .b],[.d .tx],fun x=>Jw fu x.1 x.2.1,0⟩:=sq fu ⟨[],[],[(2,q1 [(0,.d .u),(5,.own .ch 5)] 0 [(5,.own .ch 5)])],[],[],[]⟩ func165<|cC (Xi fu)<|cN
theorem Zj:ym ⟨166,[.own .tx 9],[.own .tx 9],fun x=>vE fu x.1,1⟩:=Sv (fu:=fu) ⟨[],[],[(1,q1 [(2,.d .i),(3,.d .i),(0,.own .tx 9)] 0 [(0,.own .tx 9)])],[(3,[])],[],[]⟩ func166 (cN) (by kernel_rfl) fun pn x=>by kernel_rfl
theorem oQ:ym ⟨167,[.d (.l .tx),.d .tx],[.d .tx],fun x=>KD fu x.1 x.2.1,0⟩:=zbm (by kernel_rfl) Tryz.strings_Join_none Tryz.strings_Join
theorem Ni:ym ⟨106,[.d jU],[.d .tx],fun x=>de fu x.1,0⟩:=sq fu ⟨[],[],[(3,q1 [(0,.d jU),(3,.own .tx 9)] 0 [(3,.own .tx 9)])],[],[],[]⟩ func106<|cC (lU fu)<|cC (Df fu)<|cC (Zj fu)<|cC (oQ fu)<|cC (yM fu)<|cC (xV fu)<|cN
theorem FI:ym ⟨49,[.d zU],[.d .tx],fun x=>lO fu x.1,0⟩:=sq fu wX func49<|cC (Ni fu)<|cC (vV fu)<|cN
theorem Au:ym ⟨12,[],[.d .b],fun x=>YV fu,0⟩:=sq fu wX func12<|cC (W6 fu)<|cC (cX fu)<|cC (FI fu)<|cC (L4 fu)<|cC (fF fu)<|cC (dj fu)<|cN
theorem b6:ym ⟨232,[.d jU,.d .i],[.d .u],fun x=>vA fu x.1 x.2.1,0⟩:=sq fu wX func232<|cN
theorem lP:ym ⟨236,[.d jU],[.d jU],fun x=>Xh fu x.1,0⟩:=sq fu ⟨[],[],[(2,q1 [(3,.d .i)] 0 [(3,.d .i)])],[],[],[]⟩ func236<|cN
theorem KN:ym ⟨172,[.d jU],[.d jU],fun x=>vk fu x.1,0⟩:=sq fu ⟨[],[],[(3,q1 [(3,.own .u 54),(4,.d .i)] 0 [(3,.own .u 54)])],[],[],[]⟩ func172<|cC (lP fu)<|cN
theorem bM:ym ⟨173,[.d jU],[.own .u 54],fun x=>um fu x.1,0⟩:=sq fu ⟨[],[],[(3,q1 [(3,.own .u 54),(4,.d .i)] 0 [(3,.own .u 54)])],[],[],[]⟩ func173<|cC (gj fu)<|cN
theorem IF:ym ⟨168,[.d jU,.d jU],[.own .u 54],fun x=>VX fu x.1 x.2.1,0⟩:=sq fu ⟨[],[],[(6,q1 [(7,.own .u 54),(8,.d .u),(9,.d .i)] 0 [(7,.own .u 54)])],[],[],[]⟩ func168<|cC (b6 fu)<|cC (KN fu)<|cC (bM fu)<|cN
theorem mN:ym ⟨233,[.d jU,.d jU],[.d .i],fun x=>uH fu x.1 x.2.1,0⟩:=sq fu ⟨[],[],[(2,⟨⟨[(5,.d .i)],[]⟩,⟨[],[(.x 0,⟨[],[]⟩),(.r,⟨[(4,.d .i)],[]⟩)]⟩⟩)],[],[],[]⟩ func233<|cC (b6 fu)<|cN
theorem EE:ym ⟨234,[.d jU,.d jU],[.d jU],fun x=>Wk fu x.1 x.2.1,0⟩:=sq fu ⟨[],[],[(4,q1 [(5,.own .u 54),(6,.d .u),(7,.d .i)] 0 [(5,.own .u 54)])],[],[],[]⟩ func234<|cC (b6 fu)<|cC (lP fu)<|cN
theorem H7:ym ⟨169,[.d jU,.d jU],[.own .u 54,.d .i],fun x=>Xe fu x.1 x.2.1,0⟩:=sq fu wX func169<|cC (mN fu)<|cC (EE fu)<|cC (KN fu)<|cC (bM fu)<|cN
theorem Gi:ym ⟨107,[.d zU,.d zU],[.d zU],fun x=>Qg fu x.1 x.2.1,0⟩:=sq fu wX func107<|cC (IF fu)<|cC (H7 fu)<|cC (ZD fu)<|cN
theorem HI:ym ⟨66,[.d zU],[.d zU],fun x=>Qb fu x.1,0⟩:=sq fu wX func66<|cC (ZD fu)<|cN
theorem Ig:ym ⟨171,[.d zU,.d zU],[.d zU],fun x=>Qc fu x.1 x.2.1,0⟩:=sq fu wX func171<|cC (HI fu)<|cC (Gi fu)<|cN
theorem H0:ym ⟨109,[.d zU,.d zU],[.d .i],fun x=>Qo fu x.1 x.2.1,0⟩:=sq fu wX func109<|cC (Ig fu)<|cC (fK fu)<|cN
theorem DB:ym ⟨79,[.d xc,.d xc],[.d .b],fun x=>Wa fu x.1 x.2.1,0⟩:=sq fu ⟨[],[],[(6,⟨⟨[(7,.d .i)],[]⟩,⟨[5,6],[(.x 0,⟨[],[]⟩),(.r,⟨[(4,.d .b)],[]⟩)]⟩⟩)],[],[],[]⟩ func79<|cC (eE fu)<|cC (H0 fu)<|cN
theorem Ho:ym ⟨26,[.d (.l (.p xc .i)),.d xc,.d .i],[.own (.p xc .i) 42],fun x=>VP fu x.1 x.2.1 x.2.2.1,0⟩:=sq fu ⟨[],[(327686,⟨[],[(.n,⟨[(36,.d .b)],[]⟩)]⟩)],[(2,q1 [(7,.d .i)] 0 [(7,.d .i)])],[(8,[60])],[],[]⟩ func26<|cC (ey fu)<|cC (DB fu)<|cN
theorem dJ:ym ⟨7,[.d yP,.d .i],[.d .b],fun x=>jC fu x.1 x.2.1,0⟩:=sq fu ⟨[],[],[(7,q1 [(6,.own zU 30),(7,.own (.p xc .i) 42),(8,.d .i)] 0 [(6,.own zU 30),(7,.own (.p xc .i) 42)])],[],[],[]⟩ func7<|cC (Au fu)<|cC (W6 fu)<|cC (dV fu)<|cC (fF fu)<|cC (KZ fu)<|cC (Ho fu)<|cC (dj fu)<|cC (xd fu)<|cN
end
end
section
variable{x k:Nat}{r a b l:List Nat}
def nv:List Nat->Nat
 |[]=>0
 |x::r=>x+18446744073709551616*nv r
def xY:Nat->Nat->List Nat
 |0,_=>[]
 |k+1,n=>n%18446744073709551616::xY k (n/18446744073709551616)
def cT:Nat->Nat->List Nat
 |0,_=>[]
 |f+1,n=>if n=0 then[]else n%18446744073709551616::cT f (n/18446744073709551616)
def yC(n:Nat):List Nat:=cT n n
def BY:List Nat->List Nat
 |[]=>[]
 |x::r=>match BY r with
  |[]=>if x=0 then[]else[x]
  |y::s=>x::y::s
theorem zm.nil:zm []:=fun x hx=>absurd hx IR
theorem zm.cons(h:x<18446744073709551616)(hr:zm r):zm (x::r):=fun y hy=>by
 rcases xac.1 hy with rfl|hy
 ·exact h
 ·exact hr y hy
theorem zm.head(h:zm (x::r)):x<18446744073709551616:=h x<|FS
theorem zm.tail(h:zm (x::r)):zm r:=fun y hy=>h y<|UV _ hy
theorem zm.append(ha:zm a)(hb:zm b):zm (a++b):=fun x hx=>by
 rcases Nm.1 hx with h|h
 ·exact ha x h
 ·exact hb x h
theorem zm.take{a:List Nat}(h:zm a)(k:Nat):zm (a.take k):=fun x hx=>h x<|xdV hx
theorem zm.drop{a:List Nat}(h:zm a)(k:Nat):zm (a.drop k):=fun x hx=>h x<|xeL hx
theorem zm.getD{a:List Nat}(h:zm a)(k:Nat):a.getD k 0<18446744073709551616:=by
 rw[H1];by_cases hk:k<a.length
 ·rw[xaa hk];exact h _<|xbn hk
 ·rw[xaH<|by lia];exact xfH _
theorem zm.replicate(k:Nat):zm (xaf k 0):=fun x hx=>by rw[List.eq_of_mem_replicate hx];exact xfH _
theorem tV:nv []=0:=rfl
theorem jj(x:Nat)(r:List Nat):nv (x::r)=x+18446744073709551616*nv r:=rfl
theorem jt:∀(a b:List Nat),nv (a++b)=nv a+18446744073709551616^a.length*nv b
 |[],b=>by simp[nv]
 |x::a,b=>by
  rw[xbI,jj,jt a b,jj,xaq,xbb,xbh];rw[xaU (18446744073709551616^a.length) 18446744073709551616,xaX,xcR]
theorem Wz:∀k,nv (xaf k 0)=0
 |0=>rfl
 |k+1=>by rw[xeh,jj,Wz k]
theorem qT:∀{l:List Nat},zm l->nv l<18446744073709551616^l.length
 |[],_=>by simp[nv]
 |x::r,h=>by
  have h1:=h.head;have h2:=qT h.tail;rw[jj,xaq,xbb];lia
theorem dG(l:List Nat)(x:Nat):nv (l++[x])=nv l+18446744073709551616^l.length*x:=by
 rw[jt,jj,tV];simp
theorem zQ:∀k n,(xY k n).length=k
 |0,_=>rfl
 |k+1,n=>by rw[xY,xaq,zQ]
theorem xG:∀k n,zm (xY k n)
 |0,_=>zm.nil
 |k+1,n=>zm.cons (xbi _<|by decide)<|xG k _
theorem ji:∀k n,nv (xY k n)=n%18446744073709551616^k
 |0,n=>by simp[xY,nv,Nat.mod_one]
 |k+1,n=>by rw[xY,jj,ji k,xbb,xaU<|18446744073709551616^k,Nat.mod_mul]
theorem aF:∀{l:List Nat},zm l->xY l.length (nv l)=l
 |[],_=>rfl
 |x::r,h=>by
  have h1:=h.head;rw[xaq,xY,jj,xbV,xar h1,xcC _ _ (by decide),xbv h1,xaN,aF h.tail]
theorem iW(ha:zm a)(hb:zm b)(hl:a.length=b.length)(h:nv a=nv b):a=b:=by
 rw[<-aF ha,<-aF hb,hl,h]
theorem B6:∀k,xY k 0=xaf k 0
 |0=>rfl
 |k+1=>by rw[xY,Nat.zero_mod,Nat.zero_div,B6 k,xeh]
theorem Ja:∀k n,xY (k+1) n=xY k n++[n/18446744073709551616^k%18446744073709551616]
 |0,n=>by simp[xY]
 |k+1,n=>by rw[xY,Ja k,xY,xbI,xaL,<-xel]
theorem sS:∀f n,zm (cT f n)
 |0,_=>zm.nil
 |f+1,n=>by
  rw[cT];split
  ·exact zm.nil
  ·exact zm.cons (xbi _<|by decide)<|sS f _
theorem zu(n:Nat):zm (yC n):=sS n n
theorem Oq:∀f n,n<=f->nv (cT f n)=n
 |0,n,h=>by rw[cT,tV];lia
 |f+1,n,h=>by
  rw[cT];split
  ·rename_i h0;rw[tV,h0]
  ·rename_i h0;have ha:n/18446744073709551616<=f:=by
    have:=xeB (n:=n) (k:=18446744073709551616) (by lia) (by decide);lia
   rw[jj,Oq f _ ha,xfg]
theorem z7(n:Nat):nv (yC n)=n:=Oq n n<|xab _
theorem OB:∀f f' n,n<=f->n<=f'->cT f n=cT f' n
 |0,f',n,h,h'=>by
  have:n=0:=by lia
  subst this;cases f'<;>simp[cT]
 |f+1,0,n,h,h'=>by
  have:n=0:=by lia
  subst this;simp[cT]
 |f+1,f'+1,n,h,h'=>by
  rw[cT,cT];split
  ·rfl
  ·rename_i h0;have:=xeB (n:=n) (k:=18446744073709551616) (by lia) (by decide);rw[OB f f' _ (by lia)<|by lia]
theorem QZ:yC 0=[]:=rfl
theorem fX{n:Nat}(h:0<n):yC n=n%18446744073709551616::yC (n/18446744073709551616):=by
 have e:yC n=cT ((n-1)+1) n:=by unfold yC;congr 1;lia
 have:=xeB (n:=n) (k:=18446744073709551616) h (by decide);rw[e,cT,zy];congr 1;exact OB _ _ _ (by lia)<|by lia
theorem BT{n:Nat}(h0:0<n)(h:n<18446744073709551616):yC n=[n]:=by grind [fX,QZ,xar,xbv]
theorem C9{n:Nat}:yC n=[]↔n=0:=by
 constructor
 ·intro h;rw[<-z7 n,h];rfl
 ·rintro rfl;rfl
theorem qf{n:Nat}(h:0<n):0<(yC n).length:=by rw[fX h,xaq];lia
theorem zJ:∀(k n:Nat),(yC n).length<=k↔n<18446744073709551616^k
 |0,n=>by rw[Nat.le_zero,xbF,C9];simp;
 |k+1,n=>by
  by_cases h:n=0
  ·subst h;simp[QZ];exact xbk<|by decide
  ·rw[fX (by lia),xaq,Nat.add_le_add_iff_right,zJ k,xbd (by decide),xbb]
theorem Tr{n:Nat}(h:0<n):(yC n).getD ((yC n).length-1) 0≠0:=by
 intro h0;have hp:=qf h;have e:=aF<|zu n;rw[z7]at e;obtain⟨k,hk⟩:∃k,(yC n).length=k+1:=⟨(yC n).length-1,by lia⟩;have h1:=(zJ k n).2;rw[hk,Ja]at e;rw[<-e]at h0;rw[show(xY k n++[n/18446744073709551616^k%18446744073709551616]).length-1=(xY k n).length by simp]at h0;simp at h0;have h2:n<18446744073709551616^(k+1):=(zJ (k+1) n).1 (by lia);have h3:n/18446744073709551616^k<18446744073709551616:=by rw[xbd<|xbk<|by decide];rwa[xbb,xaU]at h2
 rw[xar h3]at h0;have h4:n<18446744073709551616^k:=by
  rcases Nat.div_eq_zero_iff.1 h0 with h|h
  ·have:=xbk (n:=k) (show 0<18446744073709551616 by decide);lia
  ·exact h
 have:=h1 h4;lia
theorem a7:∀(l:List Nat) (k:Nat),k+1=l.length->l.getD k 0≠0->BY l=l
 |[],_,h,_=>by simp at h
 |[x],0,_,h=>by simp at h;simp[BY,h]
 |[x],k+1,h,_=>by simp at h
 |x::y::r,0,h,_=>by simp at h
 |x::y::r,k+1,h,h0=>by
  have:=a7 (y::r) k (by simpa using h) (by simpa using h0);simp only[BY]at this⊢;rw[this]
theorem Iq:∀{l:List Nat},zm l->BY l=yC (nv l)
 |[],_=>rfl
 |x::r,h=>by
  have ih:=Iq h.tail;have hx:=h.head;rw[BY,ih,jj];by_cases hr:nv r=0
  ·rw[hr,QZ];by_cases h0:x=0
   ·simp[h0,QZ]
   ·simp only[h0,if_false,xcN,xbT];rw[BT (by lia) hx]
  ·have e1:=fX (n:=nv r) (by lia);have e2:=fX (n:=x+18446744073709551616*nv r) (by lia);rw[xbV,xar hx,xcC _ _ (by decide),xbv hx,xaN]at e2;rw[e2,e1]
theorem H2(hl:zm l)(h:l=[]\/l.getD (l.length-1) 0≠0):yC (nv l)=l:=by
 rw[<-Iq hl];rcases h with rfl|h
 ·rfl
 ·cases hn:l.length with
  |zero=>rw[xbt hn];rfl
  |succ k=>exact a7 l k hn.symm<|by rw[hn]at h;exact h
theorem oD(hl:zm l)(k:Nat):nv (l.take k)=nv l%18446744073709551616^k:=by
 by_cases hk:k<=l.length
 ·have e:=jt (l.take k)<|l.drop k;rw[xbN,xav,xcM hk]at e;have:=qT<|hl.take k;rw[xav,xcM hk]at this;rw[e,xbV,xar this]
 ·rw[xaQ (by lia),xar];exact xan (qT hl)<|xay (by decide)<|by lia
theorem C2(hl:zm l)(k:Nat):nv (l.drop k)=nv l/18446744073709551616^k:=by
 by_cases hk:k<=l.length
 ·have e:=jt (l.take k)<|l.drop k;rw[xbN,xav,xcM hk]at e;have:=qT<|hl.take k;rw[xav,xcM hk]at this;rw[e,xcC _ _ (xbk<|by decide),xbv this,xaN]
 ·rw[xcl (by lia),tV,xbv];exact xan (qT hl)<|xay (by decide)<|by lia
theorem VK:∀{l:List Nat},zm l->∀k,l.getD k 0=nv l/18446744073709551616^k%18446744073709551616
 |[],_,k=>by simp[nv]
 |x::r,h,0=>by rw[List.getD_cons_zero,jj,xeg,xdU,xbV,xar h.head]
 |x::r,h,k+1=>by rw[xem,VK h.tail k,jj,xel,<-xaL,xcC _ _ (by decide),xbv h.head,xaN]
theorem zfs{α:Type}{l:List α}{n:Nat}{z x:α}(hl:l.length=k)(hk:k<n):(l++xaf (n-k) z).set k x=(l++[x])++xaf (n-(k+1)) z:=by
 obtain⟨m,hm⟩:∃m,n-k=m+1:=⟨n-k-1,by lia⟩;rw[hm,xeh,xfA _ _ (by lia),hl,xda,List.set_cons_zero,xaj];congr 2;rw[show n-(k+1)=m by lia];rfl
def xZ(step:Nat->Nat->Nat×Nat):Nat->List Nat×Nat
 |0=>([],0)
 |k+1=>((xZ step k).1++[(step k (xZ step k).2).1],(step k (xZ step k).2).2)
theorem xI(step:Nat->Nat->Nat×Nat):∀k,(xZ step k).1.length=k
 |0=>rfl
 |k+1=>by rw[xZ,xax,xI step k];rfl
def mF(a b:List Nat)(k c:Nat):Nat×Nat:=((a.getD k 0+b.getD k 0+c)%18446744073709551616,(a.getD k 0+b.getD k 0+c)/18446744073709551616)
theorem Mv{c:Nat}(ha:zm a)(hb:zm b)(hc:c<=1):(mF a b k c).2<=1:=by grind [mF,zm.getD]
theorem qd(l:List Nat):∀k,nv (l.take<|k+1)=nv (l.take k)+18446744073709551616^k*l.getD k 0:=by
 induction l with
 |nil=>intro k;simp[nv]
 |cons x r ih=>
  intro k
  cases k with
  |zero=>simp[nv]
  |succ k=>
   rw[xei,jj,ih k,xei,jj,xem,xbb,xbh];rw[xaU (18446744073709551616^k) 18446744073709551616,xaX,xcR]
theorem pk(a b:List Nat):∀k,nv (xZ (mF a b) k).1+18446744073709551616^k*(xZ (mF a b) k).2=nv (a.take k)+nv (b.take k)/\zm (xZ (mF a b) k).1
 |0=>⟨by simp[xZ,nv],zm.nil⟩
 |k+1=>by
  obtain⟨ih,il⟩:=pk a b k;rw[xZ,qd,qd,dG,xI];refine⟨?_,il.append<|zm.cons (xbi _<|by decide) zm.nil⟩;generalize hc:(xZ (mF a b) k).2=c at*
  simp only[mF];have e:=xfg (a.getD k 0+b.getD k 0+c) 18446744073709551616;generalize(a.getD k 0+b.getD k 0+c)%18446744073709551616=r at*
  generalize(a.getD k 0+b.getD k 0+c)/18446744073709551616=q at*
  rw[xbb];generalize 18446744073709551616^k=p at*
  have e2:p*r+p*18446744073709551616*q=p*(a.getD k 0)+p*(b.getD k 0)+p*c:=by rw[xaX,<-xbh,e,xbh,xbh]
  lia
theorem SM{n:Nat}(ha:a.length<=n)(hb:b.length<=n):nv ((xZ (mF a b) n).1++[(xZ (mF a b) n).2])=nv a+nv b:=by grind [dG,xI,pk,xaQ]
end
section
variable{x y k m j i:Nat}{l a b o o0 r:List Nat}
theorem pz(h:(yC x).length<(yC y).length):x<y:=by
 have h1:=(zJ (yC x).length x).1<|xab _;have h2:¬y<18446744073709551616^(yC x).length:=fun h3=>by have:=(zJ _ y).2 h3;lia
 lia
theorem W8(x B k:Nat)(hB:0<B):x/B^k=B*(x/B^(k+1))+x/B^k%B:=by grind [xbB,xaL,xbb]
theorem zbs(h:x/18446744073709551616^(k+1)=y/18446744073709551616^(k+1))(hd:x/18446744073709551616^k%18446744073709551616<y/18446744073709551616^k%18446744073709551616):x<y:=by
 have h1:=W8 x 18446744073709551616 k (by decide);have h2:=W8 y 18446744073709551616 k (by decide);refine xdz fun h3=> ?_;have h4:=Nat.div_le_div_right (c:=18446744073709551616^k) h3;lia
theorem zhC(h:x/18446744073709551616^(k+1)=y/18446744073709551616^(k+1))(hd:x/18446744073709551616^k%18446744073709551616=y/18446744073709551616^k%18446744073709551616):
 x/18446744073709551616^k=y/18446744073709551616^k:=by grind [W8]
theorem Y0(n k:Nat):(yC n).getD k 0=n/18446744073709551616^k%18446744073709551616:=by rw[VK<|zu n,z7]
theorem zaw(h:(yC x).length=(yC y).length):x/18446744073709551616^(yC x).length=y/18446744073709551616^(yC x).length:=by
 rw[xbv<|(zJ _ x).1<|xab _,xbv<|(zJ _ y).1<|by lia]
theorem yS(h:zm l):(yC<|nv l).length<=l.length:=(zJ _ _).2<|qT h
theorem zbi(hm:0<m)(h:x/18446744073709551616^m=y/18446744073709551616^m)(hd:(yC x).getD (m-1) 0=(yC y).getD (m-1) 0):x/18446744073709551616^(m-1)=y/18446744073709551616^(m-1):=by grind [zhC,Y0]
theorem zfl(h:(yC x).length≠(yC y).length):qU ((yC x).length:Nat) ((yC y).length:Nat)=qU x y:=by
 rcases Nat.lt_or_gt_of_ne h with h|h
 ·have:=pz h;rw[vQ (by lia),vQ<|by lia]
 ·have:=pz h;rw[w4 (by lia),w4<|by lia]
theorem Rk(hm:0<m)(h:x/18446744073709551616^m=y/18446744073709551616^m)(hd:(yC x).getD (m-1) 0≠(yC y).getD (m-1) 0):
 qU ((yC x).getD (m-1) 0:Nat) ((yC y).getD (m-1) 0:Nat)=qU x y:=by
 rw[show m=m-1+1 by lia]at h;rcases Nat.lt_or_gt_of_ne hd with hd|hd
 ·have ha:=hd;rw[Y0,Y0]at ha;have:=zbs h ha;rw[vQ (by lia),vQ<|by lia]
 ·have ha:=hd;rw[Y0,Y0]at ha;have:=zbs h.symm ha;rw[w4 (by lia),w4<|by lia]
def Q3(a b:List Nat)(k c:Nat):Nat×Nat:=((a.getD k 0+18446744073709551616-b.getD k 0-c)%18446744073709551616,if a.getD k 0<b.getD k 0+c then 1 else 0)
theorem rN(a b:List Nat)(k c:Nat):(Q3 a b k c).2<=1:=by
 simp only[Q3];split<;>lia
theorem HL{a b:List Nat}(ha:zm a)(hb:zm b):∀k,nv (xZ (Q3 a b) k).1+nv (b.take k)=nv (a.take k)+18446744073709551616^k*(xZ (Q3 a b) k).2/\zm (xZ (Q3 a b) k).1/\(xZ (Q3 a b) k).2<=1
 |0=>⟨by simp[xZ,nv],zm.nil,xah _⟩
 |k+1=>by
  obtain⟨ih,il,ic⟩:=HL ha hb k;rw[xZ,qd,qd,dG,xI];refine⟨?_,il.append<|zm.cons (xbi _<|by decide) zm.nil,rN a b k _⟩;generalize hc:(xZ (Q3 a b) k).2=c at*
  simp only[Q3];have h1:=ha.getD k;have h2:=hb.getD k;generalize a.getD k 0=x at*
  generalize b.getD k 0=y at*
  rw[xbb];generalize 18446744073709551616^k=p at*
  have e:(x+18446744073709551616-y-c)%18446744073709551616+y+c=x+18446744073709551616*(if x<y+c then 1 else 0):=by split<;>lia
  generalize(x+18446744073709551616-y-c)%18446744073709551616=r at*
  generalize(if x<y+c then 1 else 0:Nat)=q at*
  have e2:p*r+p*y+p*c=p*x+p*18446744073709551616*q:=by rw[xaX,<-xbh,<-xbh,e,xbh]
  lia
theorem tv{n:Nat}(ha:zm a)(hb:zm b)(hc:a.length<=n)(hd:b.length<=n):
 nv (xZ (Q3 a b) n).1+nv b=nv a+18446744073709551616^n*(xZ (Q3 a b) n).2/\zm (xZ (Q3 a b) n).1/\(xZ (Q3 a b) n).2<=1:=by
 have:=HL ha hb n;rwa[xaQ hc,xaQ hd]at this
theorem Cm{n:Nat}(ha:zm a)(hb:zm b)(hc:a.length<=n)(hd:b.length<=n):0<(xZ (Q3 a b) n).2↔nv a<nv b:=by
 obtain⟨h1,h2,h3⟩:=tv ha hb hc hd;have h4:=qT h2;rw[xI]at h4;constructor
 ·intro h;have:(xZ (Q3 a b) n).2=1:=by lia
  rw[this,xcG]at h1;lia
 ·intro h;refine xcI fun h0=> ?_;rw[h0,xcN]at h1;lia
theorem RH{n:Nat}(ha:zm a)(hb:zm b)(hc:a.length<=n)(hd:b.length<=n)(h:¬nv a<nv b):nv (xZ (Q3 a b) n).1=nv a-nv b:=by
 obtain⟨h1,h2,h3⟩:=tv ha hb hc hd;have:¬0<(xZ (Q3 a b) n).2:=fun hp=>h<|(Cm ha hb hc hd).1 hp;have:(xZ (Q3 a b) n).2=0:=by lia
 rw[this,xcN]at h1;lia
def JN(a:List Nat)(x:Nat)(k c:Nat):Nat×Nat:=((a.getD k 0*x+c)%18446744073709551616,(a.getD k 0*x+c)/18446744073709551616)
theorem eD{a c:Nat}(ha:a<18446744073709551616)(hx:x<18446744073709551616)(hc:c<18446744073709551616):(a*x+c)/18446744073709551616<18446744073709551616:=by
 have:a*x<=18446744073709551615*18446744073709551615:=xbH (by lia) (by lia);lia
theorem LK{c:Nat}(ha:zm a)(hx:x<18446744073709551616)(hc:c<18446744073709551616):(JN a x k c).2<18446744073709551616:=eD (ha.getD k) hx hc
theorem IJ(a:List Nat)(x:Nat):∀k,nv (xZ (JN a x) k).1+18446744073709551616^k*(xZ (JN a x) k).2=nv (a.take k)*x/\zm (xZ (JN a x) k).1
 |0=>⟨by simp[xZ,nv],zm.nil⟩
 |k+1=>by
  obtain⟨ih,il⟩:=IJ a x k;rw[xZ,qd,dG,xI];refine⟨?_,il.append<|zm.cons (xbi _<|by decide) zm.nil⟩;generalize hc:(xZ (JN a x) k).2=c at*
  simp only[JN];have e:=xfg (a.getD k 0*x+c) 18446744073709551616;generalize(a.getD k 0*x+c)%18446744073709551616=r at*
  generalize(a.getD k 0*x+c)/18446744073709551616=q at*
  rw[xbb];generalize 18446744073709551616^k=p at*
  have e2:p*r+p*18446744073709551616*q=p*(a.getD k 0*x)+p*c:=by rw[xaX,<-xbh,e,xbh]
  rw[xaV,xaX p (a.getD k 0) x];lia
theorem GJ(hc:(xZ (JN a x) a.length).2<18446744073709551616):(xZ (JN a x) a.length).1++[(xZ (JN a x) a.length).2]=xY (a.length+1) (nv a*x):=by
 obtain⟨h1,h2⟩:=IJ a x a.length;have hl:zm ((xZ (JN a x) a.length).1++[(xZ (JN a x) a.length).2]):=h2.append<|zm.cons hc zm.nil;have hn:nv ((xZ (JN a x) a.length).1++[(xZ (JN a x) a.length).2])=nv a*x:=by rw[dG,xI,h1,xaQ<|xab _]
 have:=aF hl;rw[hn,xax,xI]at this;exact this.symm
theorem tI(ha:zm a)(hx:x<18446744073709551616):nv a*x<18446744073709551616^(a.length+1):=by
 have:=qT ha;rw[xbb]
 calc nv a*x<=nv a*18446744073709551616:=xaD _ (by lia)
  _<_:=xbW this<|by decide
theorem zay:∀(o:List Nat) (j v:Nat),j<o.length->nv (o.set j v)+18446744073709551616^j*o.getD j 0=nv o+18446744073709551616^j*v
 |[],j,v,h=>by simp at h
 |x::r,0,v,h=>by simp[nv];lia
 |x::r,j+1,v,h=>by
  have ih:=zay r j v (by simpa using h);rw[List.set_cons_succ,jj,jj,xem,xbb,xaU<|18446744073709551616^j,xaX,xaX];lia
theorem zm.set{o:List Nat}(h:zm o)(j:Nat){v:Nat}(hv:v<18446744073709551616):zm (o.set j v):=fun x hx=>by
 rcases xeN hx with h1|h1
 ·exact h x h1
 ·rw[h1];exact hv
theorem zdf{c:Nat}(hj:j+i<o.length)(h:nv o+18446744073709551616^(j+i)*c=nv o0+18446744073709551616^j*nv (r.take i)):
 nv (o.set (j+i)<|(o.getD (j+i) 0+r.getD i 0+c)%18446744073709551616)+18446744073709551616^(j+(i+1))*((o.getD (j+i) 0+r.getD i 0+c)/18446744073709551616)=nv o0+18446744073709551616^j*nv (r.take<|i+1):=by grind [zay,qd,xbh,xaX,xbZ,xfg,xbb]
theorem Wq(ha:zm a)(hb:zm b):nv a*nv (b.take k)<18446744073709551616^(a.length+k):=by
 have h1:=qT ha;have h2:=qT<|hb.take k;have h3:18446744073709551616^(b.take k).length<=18446744073709551616^k:=xay (by decide) (by rw[xav];lia);rw[xbZ];exact xdK h1<|by lia
theorem zdq{c:Nat}(h:nv o+18446744073709551616^(j+r.length)*c=nv o0+18446744073709551616^j*nv r)(hn:nv o0+18446744073709551616^j*nv r<18446744073709551616^(j+r.length)):
 c=0/\nv o=nv o0+18446744073709551616^j*nv r:=by
 have hc:c=0:=by
  refine xes fun hp=> ?_;have:18446744073709551616^(j+r.length)*1<=18446744073709551616^(j+r.length)*c:=xaD _ hp;lia
 subst hc;exact⟨rfl,by rw[xcN,xbT]at h;exact h⟩
theorem Fy{p:List Nat}{c:Nat}(ha:zm a)(hb:zm b)(hi:¬i<a.length+1)(hd:i<=a.length+1)(ho:nv o=nv a*nv (b.take k))(hp:nv p+18446744073709551616^(k+i)*c=nv o+18446744073709551616^k*nv ((xY (a.length+1)<|nv a*b.getD k 0).take i)):nv p=nv a*nv (b.take<|k+1):=by
 obtain rfl:i=a.length+1:=by lia
 have hl:=zQ (a.length+1)<|nv a*b.getD k 0;rw[xaQ<|by lia]at hp;have hr:nv (xY (a.length+1)<|nv a*b.getD k 0)=nv a*b.getD k 0:=by rw[ji,xar<|tI ha<|hb.getD k]
 have e:nv o+18446744073709551616^k*nv (xY (a.length+1)<|nv a*b.getD k 0)=nv a*nv (b.take<|k+1):=by rw[hr,ho,qd,xbh,xed]
 have hc:nv o+18446744073709551616^k*nv (xY (a.length+1)<|nv a*b.getD k 0)<18446744073709551616^(k+(xY (a.length+1)<|nv a*b.getD k 0).length):=by
  rw[e,hl,show k+(a.length+1)=a.length+(k+1)by lia];exact Wq ha hb
 generalize xY (a.length+1) (nv a*b.getD k 0)=r at*
 rw[<-hl]at hp;rw[(zdq hp hc).2,e]
theorem m32{a b:Nat}(ha:a<4294967296)(hb:b<4294967296):a*b<=18446744065119617025:=xbH (show a<=4294967295 by lia) (show b<=4294967295 by lia)
theorem zff(hx:x<18446744073709551616)(hy:y<18446744073709551616):(x%4294967296)*(y%4294967296)<=18446744065119617025/\(x/2^32)*(y%4294967296)<=18446744065119617025/\
 (x%4294967296)*(y/2^32)<=18446744065119617025/\(x/2^32)*(y/2^32)<=18446744065119617025:=
 ⟨m32 (by lia) (by lia),m32 (by lia) (by lia),m32 (by lia) (by lia),m32 (by lia)<|by lia⟩
theorem zab(x y:Nat):x*y=18446744073709551616*((x/2^32)*(y/2^32))+4294967296*((x/2^32)*(y%4294967296))+4294967296*((x%4294967296)*(y/2^32))+(x%4294967296)*(y%4294967296):=by
 have h1:x=4294967296*(x/2^32)+x%4294967296:=by lia
 have h2:y=4294967296*(y/2^32)+y%4294967296:=by lia
 generalize x/2^32=x1 at*
 generalize y/2^32=y1 at*
 generalize x%4294967296=x0 at*
 generalize y%4294967296=y0 at*
 subst h1 h2;rw[xaV,xbh,xbh,xaX,xaX,xed x1 4294967296 y1,xed x0 4294967296 y1];lia
theorem u9(hx:(yC x).length<=k)(hy:(yC y).length<=k):(yC<|x+y).length<=k+1:=by
 rw[zJ]at*
 rw[xbb];lia
theorem zlf{x0 x1 y0 y1 P:Nat}:x0*y0+P*((x0+x1)*(y0+y1)-x0*y0-x1*y1)+P*P*(x1*y1)=(x0+P*x1)*(y0+P*y1):=by
 have e:(x0+x1)*(y0+y1)-x0*y0-x1*y1=x0*y1+x1*y0:=by rw[xaV,xbh,xbh];lia
 rw[e,xaV,xbh,xbh,xbh];have e1:x0*(P*y1)=P*(x0*y1):=xed ..;have e2:P*x1*y0=P*(x1*y0):=xaX ..;have e3:P*x1*(P*y1)=P*P*(x1*y1):=by rw[xaX,xed x1,<-xaX]
 rw[e1,e2,e3];lia
theorem zd9(x0 x1 y0 y1:Nat):x0*y0<=(x0+x1)*(y0+y1)/\x1*y1<=(x0+x1)*(y0+y1)-x0*y0:=by grind [xaV,xbh]
theorem Hg(h:Nat):l.take (min h l.length)=l.take h:=by
 rw[Nat.min_def];split
 ·rfl
 ·rw[xaQ<|xab _,xaQ<|by lia]
theorem IW(h:Nat):l.drop (min h l.length)=l.drop h:=by
 rw[Nat.min_def];split
 ·rfl
 ·rw[xcl<|xab _,xcl<|by lia]
theorem rJ(n:Nat)(l:List Nat):nv (xaf n 0++l)=18446744073709551616^n*nv l:=by simp_all [jt,Wz]
theorem Cv(h:Nat):nv (l.take h)+18446744073709551616^h*nv (l.drop h)=nv l:=by
 by_cases hh:h<=l.length
 ·have e:=jt (l.take h)<|l.drop h;rw[xbN,xav,xcM hh]at e;exact e.symm
 ·rw[xcl (by lia),xaQ (by lia),tV,xcN,xbT]
theorem zeW{A B:List Nat}(h:Nat):nv (A.take h)*nv (B.take h)+18446744073709551616^h*((nv (A.take h)+nv (A.drop h))*(nv (B.take h)+nv (B.drop h))-nv (A.take h)*nv (B.take h)-nv (A.drop h)*nv (B.drop h))+
 18446744073709551616^(2*h)*(nv (A.drop h)*nv (B.drop h))=nv A*nv B:=by
 have:= @zlf (nv<|A.take h) (nv<|A.drop h) (nv<|B.take h) (nv<|B.drop h)<|18446744073709551616^h;rw[Cv,Cv]at this;rw[Nat.two_mul,xbZ];exact this
theorem Xf(hx:(yC x).length<=j)(hy:(yC y).length<=k):(yC<|x*y).length<=j+k:=by
 rw[zJ]at*
 rw[xbZ];exact xdK hx hy
theorem IL(q:Nat)(hx:(yC x).length<=k):(yC<|18446744073709551616^q*x).length<=q+k:=by
 rw[zJ]at*
 rw[xbZ];exact Nat.mul_lt_mul_of_pos_left hx<|xbk<|by decide
theorem Vi(h:x<=y):(yC x).length<=(yC y).length:=by
 have:=(zJ (yC y).length y).1<|xab _;exact(zJ _ x).2<|by lia
theorem zdb(a b h:Nat){x0 x1 y0 y1:Nat}(ha:x0=nv ((yC a).take h))(hb:x1=nv ((yC a).drop h))(hc:y0=nv ((yC b).take h))(hd:y1=nv ((yC b).drop h)):
 x0*y0+18446744073709551616^h*((x0+x1)*(y0+y1)-x0*y0-x1*y1)+18446744073709551616^(2*h)*(x1*y1)=a*b:=by grind [zeW,z7]
end
end Go.Proofs.YtmggkmchbdanfaaGreat
