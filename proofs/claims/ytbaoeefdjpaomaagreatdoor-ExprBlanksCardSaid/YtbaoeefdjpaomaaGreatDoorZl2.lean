/- What a proof needs: rules of walking, mirrors of functions and their plain laws. No condition. -/
import Derived.Test.YtbaoeefdjpaomaaGreatDoorZl1
import Derived.WideKeyArgs
import Derived.SizedLaws
import Derived.Lib.ConvBytes
import Derived.Laws.IdiomStrings
set_option linter.unusedVariables false
set_option linter.unusedSimpArgs false
namespace Go.Proofs.YtbaoeefdjpaomaaGreatDoor
open Bool renaming and_eq_true->IR,false_eq_true->Pd
open Call renaming operands->SD
open DataW renaming TrodAll->SV,weightsAll->TP,weightsEach->SX
open Extern renaming find->Tb,findNext->SP
open Extern.MathBitsCarry renaming m64->Pj,pair->Ra,three->PN
open Instr renaming fill->Sf,slice->TW,sliceAt->RH,sliceBound->SE,sliceBounds->Sw
open Int renaming natCast_nonneg->R5,tdiv->SW,toNat_natCast->Ry
open IntKind renaming i64->RJ,u8->xac
open List renaming all_eq_true->Pe,append_assoc->O2,append_nil->Ps,drop->TX,drop_zero->Tz,getD->SF,getD_eq_getElem?_getD->PY,getElem?_append_left->Py,getElem?_append_right->PW,getElem?_eq_getElem->Pb,getElem?_eq_some_iff->O4,getElem?_map->Rz,getElem_mem->Rm,length->O9,length_append->O1,length_cons->FS,length_eq_one_iff->P2,length_map->Rp,length_take->PG,map_congr_left->RZ,map_cons->PA,map_map->Sz,mem_append->OX,mem_append_left->SZ,mem_cons->OY,mem_cons_of_mem->H1,mem_cons_self->Nm,mem_filterMap->Sq,mem_map->O8,mem_singleton->OZ,not_mem_nil->UV,range->P4,range'->RK,range'_succ->TQ,replicate->Pv,set->xad,set_getElem_self->RP,take->TB,take_append_drop->RL,take_of_length_le->P3
open List.cons renaming injEq->Tp
open Nat renaming add_assoc->R9,beq->OW,ble->Tv,blt->RA,eq_of_beq_eq_true->P7,eq_zero_or_pos->PB,le_of_ble_eq_true->PC,le_of_lt->xab,le_refl->O3,le_trans->Pz,lt_of_le_of_lt->R4,lt_or_ge->Re,lt_succ_self->Ru,mod_lt->RN,mul_le_mul_right->PQ,not_lt_zero->TZ,zero_add->Pk,zero_le->PF,zero_mul->Sb
open Op renaming operands->O7
open Oper renaming looksAt->Pt
open Option.some renaming inj->P9,injEq->O6
open Prod.mk renaming injEq->Tj
open Result renaming andThen_ok->O0
open Sem renaming run_bind->O5,run_pure->Pg
open UInt8 renaming ofNat->P5,toNat->R7
open Value renaming okWide->SQ
open _root_.Array renaming getElem?_eq_some_iff->Ph,toList_append->Tc
section
structure jo where
 f:FuncId
 dom:List AM
 cod:List RM
 M:uC dom->Option (uE cod)
 bk:Nat
structure qN where
 s:jo
 M:uC s.dom->Option (PX⊕uE s.cod)
structure KX where
 f:FuncId
 t:Ty
 E:TypeId
 E1:TypeId
 M:List (List t.D)->List Nat->Nat->Int->Int->Nat->Nat->Option (List<|List t.D)
structure my where
 f:FuncId
 dom:List Ty
 g:FuncId
 mc:Xi dom->List PD
structure UQ where
 f:FuncId
 dom:List AM
 t:Ty
 E:TypeId
 M:uC dom->{X Y:Type}->(List t.D->X->Option (List t.D×(X⊕Y)))->X->Option (X⊕Y)
structure kg where
 f:FuncId
 t:Ty
 E:TypeId
 s:Ty
 E1:TypeId
 n:Nat
 i:Nat
 dom:List Ty
 M:t.D->List s.D->Xi dom->Option (t.D×List s.D)
structure Cf where
 tt:List (Nat×TI)
 cs:List jo
 an:An
 fu:Nat
 ex:List (Nat×Bool)
 ms:List KX:=[]
 cl:List my:=[]
 is:List UQ:=[]
 ps:List qN:=[]
 vg:List kg:=[]
def sO:List kg->FuncId->Option kg
 |[],_=>none
 |s::r,f=>bif OW s.f f then some s else sO r f
def rQ:List KX->FuncId->Option KX
 |[],_=>none
 |s::r,f=>bif OW s.f f then some s else rQ r f
def ou:List my->FuncId->Option my
 |[],_=>none
 |s::r,f=>bif OW s.f f then some s else ou r f
def BO:List UQ->FuncId->Option UQ
 |[],_=>none
 |s::r,f=>bif OW s.f f then some s else BO r f
abbrev xV{R:Type}(b:Bool)(x:Option R):Option R:=match b with
 |true=>x
 |false=>none
abbrev Jw{R:Type}(b:Bool)(x y:Option R):Option R:=match b with
 |true=>x
 |false=>y
def QJ:List AM->Bool
 |[]=>true
 |.own _ _::_=>false
 |.var _ _::_=>false
 |_::r=>QJ r
def Eh:List RM->Bool
 |[]=>true
 |.var _ _::_=>false
 |_::r=>Eh r
def JT:List jo->FuncId->Option jo
 |[],_=>none
 |s::r,f=>bif OW s.f f && (QJ s.dom && (OW s.bk 0 && Eh s.cod))then some s else JT r f
section
variable{R:Type}(cf:Cf)(cx:Sg)
def CA:Dv->Option PD
 |.d t x=>some ⟨t,x⟩
 |.kb b=>some ⟨.b,b⟩
 |_=>none
def Vz(v:Option Dv)(t:Ty)(k:t.D->Option R):Option R:=match v with
 |some .nil=>(match t,k with
  |.l s,k=>k ([]:List s.D)
  |_,_=>none)
 |some .np=>(match t,k with
  |.po s,k=>k (none:Option s.D)
  |.tr,k=>k Tr.nil
  |_,_=>none)
 |some .ni=>(match t,k with
  |.er,k=>k false
  |_,_=>none)
 |some (.q s y)=>(match t,k with
  |.po s',k=>Ty.cast s s' y fun y=>k (some y:Option s'.D)
  |.tr,k=>Ty.cast s DZ y fun y=>k<|Tr.un y
  |_,_=>none)
 |some v=>(match CA v with
  |some p=>Ty.cast p.t t p.x k
  |none=>none)
 |none=>none
def Mr(bo:BinOp)(a c:Int)(k:Dv->Option R):Option R:=match bo with
 |.add=>zb (a+c) fun x=>k (.d .i x)
 |.sub=>zb (a-c) fun x=>k (.d .i x)
 |.mul=>zb (a*c) fun x=>k (.d .i x)
 |.quo=>ck (c≠0)<|zb (SW a c) fun x=>k (.d .i x)
 |.rem=>ck (c≠0)<|nm (Int.tmod a c) fun x=>k (.d .i x)
 |.and=>nm (E9 a c) fun x=>k (.d .i x)
 |.or=>nm (Nn a c) fun x=>k (.d .i x)
 |.shr=>ck (0<=c)<|nm (Int.fdiv a<|2^(min c.toNat 64)) fun x=>k (.d .i x)
 |.shl=>ck (0<=c)<|zb (a*2^(min c.toNat 64)) fun x=>k (.d .i x)
 |.lss=>if a<c then k (.kb true)else k (.kb false)
 |.leq=>if a<=c then k (.kb true)else k (.kb false)
 |.gtr=>if c<a then k (.kb true)else k (.kb false)
 |.geq=>if c<=a then k (.kb true)else k (.kb false)
 |.eql=>if a=c then k (.kb true)else k (.kb false)
 |.neq=>if a=c then k (.kb false)else k (.kb true)
 |_=>none
def Nx(bo:BinOp)(a c:Nat)(k:Dv->Option R):Option R:=match bo with
 |.add=>nm ((a+c)%18446744073709551616) fun x=>k (.d .u x)
 |.sub=>nm ((a+18446744073709551616-c)%18446744073709551616) fun x=>k (.d .u x)
 |.mul=>nm ((a*c)%18446744073709551616) fun x=>k (.d .u x)
 |.quo=>ck (c≠0)<|nm (a/c) fun x=>k (.d .u x)
 |.rem=>ck (c≠0)<|nm (a%c) fun x=>k (.d .u x)
 |.and=>nm (a &&& c) fun x=>k (.d .u x)
 |.or=>nm (a|||c) fun x=>k (.d .u x)
 |.xor=>nm (a^^^c) fun x=>k (.d .u x)
 |.lss=>if(a:Int)<(c:Int)then k (.kb true)else k (.kb false)
 |.leq=>if(a:Int)<=(c:Int)then k (.kb true)else k (.kb false)
 |.gtr=>if(c:Int)<(a:Int)then k (.kb true)else k (.kb false)
 |.geq=>if(c:Int)<=(a:Int)then k (.kb true)else k (.kb false)
 |.eql=>if(a:Int)=(c:Int)then k (.kb true)else k (.kb false)
 |.neq=>if(a:Int)=(c:Int)then k (.kb false)else k (.kb true)
 |_=>none
def Na(bo:BinOp)(a c:Nat)(k:Dv->Option R):Option R:=match bo with
 |.add=>nm ((a+c)%256) fun x=>k (.d .ch x)
 |.sub=>nm ((a+256-c)%256) fun x=>k (.d .ch x)
 |.lss=>if(a:Int)<(c:Int)then k (.kb true)else k (.kb false)
 |.leq=>if(a:Int)<=(c:Int)then k (.kb true)else k (.kb false)
 |.gtr=>if(c:Int)<(a:Int)then k (.kb true)else k (.kb false)
 |.geq=>if(c:Int)<=(a:Int)then k (.kb true)else k (.kb false)
 |.eql=>if(a:Int)=(c:Int)then k (.kb true)else k (.kb false)
 |.neq=>if(a:Int)=(c:Int)then k (.kb false)else k (.kb true)
 |_=>none
def MI(bo:BinOp)(a c:List Nat)(k:Dv->Option R):Option R:=match bo with
 |.add=>ck (a.length+c.length<=9223372036854775807)<|nm (a++c) fun x=>k (.d .tx x)
 |.eql=>if a=c then k (.kb true)else k (.kb false)
 |.neq=>if a=c then k (.kb false)else k (.kb true)
 |_=>none
def Mv(bo:BinOp)(a:Nat)(c:Int)(k:Dv->Option R):Option R:=match bo with
 |.shr=>ck (0<=c)<|nm (a/2^(min c.toNat 64)) fun x=>k (.d .u x)
 |.shl=>ck (0<=c)<|nm (a*2^(min c.toNat 64)%18446744073709551616) fun x=>k (.d .u x)
 |_=>none
def ml(bo:BinOp)(a c:Nat)(k:Dv->Option R):Option R:=match bo with
 |.shr=>nm (a/2^(min (c:Int).toNat 64)) fun x=>k (.d .u x)
 |.shl=>nm (a*2^(min (c:Int).toNat 64)%18446744073709551616) fun x=>k (.d .u x)
 |_=>none
def Mo(bo:BinOp)(a:Int)(c:Nat)(k:Dv->Option R):Option R:=match bo with
 |.shr=>nm (Int.fdiv a<|2^(min (c:Int).toNat 64)) fun x=>k (.d .i x)
 |.shl=>zb (a*2^(min (c:Int).toNat 64)) fun x=>k (.d .i x)
 |_=>none
def MJ(bo:BinOp)(a c:Bool)(k:Dv->Option R):Option R:=match bo with
 |.eql=>nm (a==c) fun x=>k (.d .b x)
 |.neq=>nm (!(a==c)) fun x=>k (.d .b x)
 |_=>none
def QU(bo:BinOp)(b:Bool)(k:Dv->Option R):Option R:=match bo with
 |.eql=>if b=true then k (.kb true)else k (.kb false)
 |.neq=>if b=true then k (.kb false)else k (.kb true)
 |_=>none
def L7(bo:BinOp)(x:Option Dv)(k:Dv->Option R):Option R:=match x with
 |some .np=>QU bo true k
 |some (.q _ _)=>QU bo false k
 |some (.vs _ _)=>QU bo false k
 |some (.d (.po s) y)=>QU bo (Option.isNone (α:=s.D) y) k
 |some (.d .tr y)=>QU bo (Tr.isNil y) k
 |_=>none
def L2(bo:BinOp)(x:Option Dv)(k:Dv->Option R):Option R:=match x with
 |some .ni=>QU bo true k
 |some (.d .er y)=>QU bo (!y) k
 |_=>none
def Cm:Operand->Bool
 |.const .nilIface=>true
 |_=>false
def BB:Option Dv->Bool
 |some .np=>true
 |_=>false
def Fi(tb:Bool)(bo:BinOp)(x y:Option PD)(k:Dv->Option R):Option R:=match x,y with
 |some ⟨.i,a⟩,some ⟨.i,c⟩=>Mr bo a c k
 |some ⟨.u,a⟩,some ⟨.u,c⟩=>(match bo with
  |.shr=>ml .shr a c k
  |.shl=>ml .shl a c k
  |bo=>Nx bo a c k)
 |some ⟨.u,a⟩,some ⟨.i,c⟩=>Mv bo a c k
 |some ⟨.i,a⟩,some ⟨.u,c⟩=>Mo bo a c k
 |some ⟨.b,a⟩,some ⟨.b,c⟩=>xV tb<|MJ bo a c k
 |some ⟨.ch,a⟩,some ⟨.ch,c⟩=>Na bo a c k
 |some ⟨.tx,a⟩,some ⟨.tx,c⟩=>MI bo a c k
 |_,_=>none
def OJ(a:Nat):Dv:=.d .i (a:Int)
def NS(a:Nat)(k:Dv->Option R):Option R:=nm (a%256) fun x=>k (.d .ch x)
def LJ(kk:TK)(x:Option PD)(k:Dv->Option R):Option R:=match kk,x with
 |.int .i64,some ⟨.i,a⟩=>k (.d .i a)
 |.int .u64,some ⟨.u,a⟩=>k (.d .u a)
 |.int .u64,some ⟨.i,a⟩=>nm (Jx a) fun x=>k (.d .u x)
 |.int .i64,some ⟨.u,a⟩=>nm (Ak a) fun x=>k (.d .i x)
 |.int .i64,some ⟨.ch,a⟩=>k<|OJ a
 |.int .u64,some ⟨.ch,a⟩=>k (.d .u a)
 |.int .u8,some ⟨.ch,a⟩=>k (.d .ch a)
 |.int .u8,some ⟨.u,a⟩=>NS a k
 |_,_=>none
def pd(σ:Sg)(x:Operand):Option PD:=match yx cx σ x with
 |some v=>CA v
 |none=>none
def vV(t:TypeId):Option TI:=uu cf.tt t
def Nq(t:TypeId):Bool:=match vV cf t with
 |some ⟨_,.bool,_⟩=>true
 |_=>false
def Bc(t:TypeId):Bool:=match vV cf t with
 |some ⟨_,.pt _,_⟩=>true
 |_=>false
def GK(t:TypeId):Bool:=match vV cf t with
 |some ⟨_,.ie,_⟩=>true
 |_=>false
def Eu(σ:Sg)(x:Operand)(k:List (Nat×Dv)->Option R):Option R:=match yx cx σ x with
 |some (.q t y)=>k [(0,.q t y)]
 |some (.vs o t)=>k [(0,.vs o t)]
 |some (.d (.po t) y)=>bd (β:=t.D) y fun y=>k [(0,.q t y)]
 |some (.d .tr y)=>bd (Tr.opt y) fun y=>k [(0,.q DZ y)]
 |_=>none
def Mi(x:Bool)(a c:Option R):Option R:=if x=true then a else c
def HF(x y:Int):Bool:=decide<|x=y
def MY(x y:Nat):Bool:=decide<|x=y
def OI(a:Int)(k:Dv->Option R):Option R:=zb (0-a) fun x=>k (.d .i x)
def N8(a:Nat)(k:Dv->Option R):Option R:=nm ((18446744073709551616-a)%18446744073709551616) fun x=>k (.d .u x)
def EW{α:Type}(xs ys:List α)(B:Nat)(k:List α->Option R):Option R:=ck ((xs.length+ys.length)*B<=140737488355328)<|nm (xs++ys) k
def Mn{α:Type}(xs:List α)(n:Nat)(z:α)(B:Nat)(k:List α->Option R):Option R:=ck ((xs.length+n)*B<=140737488355328)<|nm (xs++Pv n z) k
def Ow(j:Nat)(n:Nat)(k:Nat->Option R):Option R:=zy (j:Int) n k
def iU:Operand->Operand->Bool
 |.tmp s,.tmp t=>OW s t
 |.const (.int .i64 x),.const (.int .i64 y)=>HF x y
 |_,_=>false
def Nc(b:Bool)(x y z:Nat)(k:List (Nat×Dv)->Option R):Option R:=
 ck (z<=1)<|Jw b (nm ((x+y+z)%18446744073709551616) fun p=>nm ((x+y+z)/18446744073709551616) fun q=>k [(1,.d .u p),(2,.d .u q)])
  (nm ((x+18446744073709551616-y-z)%18446744073709551616) fun p=>nm (if x<y+z then(1:Nat)else 0) fun q=>k [(1,.d .u p),(2,.d .u q)])
def NQ(b:Bool)(x y z:Option PD)(k:List (Nat×Dv)->Option R):Option R:=match x,y,z with
 |some ⟨.u,x⟩,some ⟨.u,y⟩,some ⟨.u,z⟩=>Nc b x y z k
 |_,_,_=>none
def parts(σ:Sg):(ts:List Ty)->List (Nat×Operand)->Nat->(Xi ts->Option R)->Option R
 |[],[],_,k=>k ()
 |t::ts,(i,x)::r,j,k=>xV (OW i j)<|Vz (yx cx σ x) t fun y=>parts σ ts r (j+1) fun ys=>k (y,ys)
 |_,_,_,_=>none
def mI:(k:Nat)->Ty->List Ty
 |0,_=>[]
 |1,t=>[t]
 |k+2,.p s t=>s::mI (k+1) t
 |_,_=>[]
def ZW:(k:Nat)->(t:Ty)->Xi (mI k t)->Option t.D
 |0,_,_=>none
 |1,t,x=>some x.1
 |k+2,.p s t,x=>match ZW (k+1) t x.2 with
  |some y=>some (x.1,y)
  |none=>none
 |_+2,.i,_=>none
 |_+2,.u,_=>none
 |_+2,.b,_=>none
 |_+2,.l _,_=>none
 |_+2,.a _ _,_=>none
 |_+2,.ch,_=>none
 |_+2,.tx,_=>none
 |_+2,.po _,_=>none
 |_+2,.tr,_=>none
 |_+2,.er,_=>none
 |_+2,.w1 _,_=>none
def JJ:Nat->Ty->List Ty
 |0,_=>[]
 |n+1,t=>t::JJ n t
def Qx:(n:Nat)->(t:Ty)->Xi (JJ n t)->List t.D
 |0,_,_=>[]
 |n+1,t,x=>x.1::Qx n t x.2
def Zt(σ:Sg):List Operand->Option (List PD)
 |[]=>some []
 |x::r=>match yx cx σ x,Zt σ r with
  |some (.q t y),some l=>some (⟨t,y⟩::l)
  |_,_=>none
def ZI:(full:List AM)->List PD->Option (uC full)
 |[],[]=>some ()
 |.q t::r,c::cs=>Ty.cast c.t t c.x fun y=>match ZI r cs with
  |some z=>some (y,z)
  |none=>none
 |_,_=>none
def UH:(full:List AM)->(dom:List Ty)->Xi dom->List PD->Option (uC full)
 |full,[],_,cs=>ZI full cs
 |.d t::r,s::dom,x,cs=>Ty.cast s t x.1 fun y=>match UH r dom x.2 cs with
  |some z=>some (y,z)
  |none=>none
 |_,_::_,_,_=>none
def UZ:(s t:List Ty)->Option (PLift<|s=t)
 |[],[]=>some ⟨rfl⟩
 |s::ss,t::ts=>match Ty.same s t,UZ ss ts with
  |some ⟨h⟩,some ⟨h'⟩=>some ⟨h▸h'▸rfl⟩
  |_,_=>none
 |_,_=>none
theorem RM.D_ty:∀r:RM,r.D=r.ty.D
 |.d _=>rfl
 |.own _ _=>rfl
 |.var _ _=>rfl
theorem ji:∀rs:List RM,uE rs=Km (rs.map RM.ty)
 |[]=>rfl
 |[m]=>RM.D_ty m
 |m::n::r=>by show(m.D×uE (n::r))=(m.ty.D×Km ((n::r).map RM.ty));rw[RM.D_ty m,ji (n::r)]
def Dk(σ:Sg)(v:Option Dv)(dom cod:List Ty)(k:(Xi dom->Option (Km cod))->Option R):Option R:=match v with
 |some (.fn f c)=>(match JT cf.cs f with
  |some s=>(match UZ (s.cod.map RM.ty) cod with
   |some ⟨h⟩=>k fun x=>match UH s.dom dom x c with
    |some y=>((ji s.cod).trans<|congrArg Km h)▸s.M y
    |none=>none
   |none=>none)
  |none=>none)
 |some (.fp d c g)=>(match UZ d dom,UZ c cod with
  |some ⟨h⟩,some ⟨h'⟩=>k<|h▸h'▸g
  |_,_=>none)
 |_=>none
def jT(σ:Sg):(dom:List AM)->List Operand->List PD->(uC dom->Option R)->Option R
 |[],[],[],k=>k ()
 |.q t::r,[],c::cs,k=>Ty.cast c.t t c.x fun y=>jT σ r [] cs fun z=>k (y,z)
 |.d t::r,x::xs,cs,k=>Vz (yx cx σ x) t fun y=>jT σ r xs cs fun z=>k (y,z)
 |.q t::r,x::xs,cs,k=>(match yx cx σ x with
  |some (.q s y)=>Ty.cast s t y fun y=>jT σ r xs cs fun z=>k (y,z)
  |_=>none)
 |.fn dom cod::r,x::xs,cs,k=>Dk cf σ (yx cx σ x) dom cod fun g=>jT σ r xs cs fun z=>k (g,z)
 |_,_,_,_=>none
def dR:(rs:List RM)->uE rs->Nat->List (Nat×Dv)
 |[],_,_=>[]
 |[.d t],x,i=>[(i,.d t x)]
 |[.own t _],x,i=>[(i,.d (.l t) x)]
 |[.var t _],x,i=>[(i,.d t x)]
 |.d t::r::rs,x,i=>(i,.d t x.1)::dR (r::rs) x.2 (i+1)
 |.own t _::r::rs,x,i=>(i,.d (.l t) x.1)::dR (r::rs) x.2 (i+1)
 |.var t _::r::rs,x,i=>(i,.d t x.1)::dR (r::rs) x.2 (i+1)
def Zj:List RM->Bool
 |[_]=>true
 |_=>false
def AK(rs:List RM)(x:uE rs):List (Nat×Dv):=dR rs x<|bif Zj rs then 0 else 1
def Jl(σ:Sg):(dom:List Ty)->List Operand->(Xi dom->Option R)->Option R
 |[],[],k=>k ()
 |t::r,x::xs,k=>Vz (yx cx σ x) t fun y=>Jl σ r xs fun z=>k (y,z)
 |_,_,_=>none
def pG:(cod:List Ty)->Km cod->Nat->List (Nat×Dv)
 |[],_,_=>[]
 |[t],x,i=>[(i,.d t x)]
 |t::s::r,x,i=>(i,.d t x.1)::pG (s::r) x.2 (i+1)
def Ck:List Ty->Bool
 |[_]=>true
 |_=>false
def Dm(σ:Sg)(v:Option Dv)(k:PD->Option R):Option R:=match v with
 |some (.q t x)=>k ⟨t,x⟩
 |some (.vs o _)=>(match qS cx σ o with
  |some (.var t _ z)=>k ⟨t,z⟩
  |_=>none)
 |some (.vp o t f)=>(match qS cx σ o with
  |some (.var t' _ z)=>Ty.cast t' t z fun z=>k ⟨f.f,f.get z⟩
  |_=>none)
 |some (.ep o t j f)=>(match qS cx σ o with
  |some (.own t' _ xs)=>Ty.cast (.l t') (.l t) xs fun xs=>nm (f.get<|SF xs j t.z) fun y=>k ⟨f.f,y⟩
  |_=>none)
 |_=>none
def nc(σ:Sg)(x:Operand)(n:Nat)(k:Nat->Option R):Option R:=match pd cx σ x with
 |some ⟨.i,j⟩=>zy j n k
 |some ⟨.u,j⟩=>Ow j n k
 |_=>none
def aw(σ:Sg)(x:Option Operand)(k:Option Nat->Option R):Option R:=match x with
 |none=>k none
 |some x=>match pd cx σ x with
  |some ⟨.i,j⟩=>lK j fun j=>k<|some j
  |_=>none
def E6{α:Type}(xs:List α)(lo hi:Option Nat)(k:List α->Option R):Option R:=match lo,hi with
 |none,some h=>ck (h<=xs.length)<|nm (xs.take h) k
 |some l,none=>ck (l<=xs.length)<|nm (xs.drop l) k
 |some l,some h=>ck (l<=h/\h<=xs.length)<|nm ((xs.drop l).take<|h-l) k
 |none,none=>k xs
def Ar(m:Nat)(lo hi:Option Nat)(k:Nat->Nat->Option R):Option R:=match lo,hi with
 |none,some h=>ck (h<=m)<|k 0 h
 |some l,none=>ck (l<=m)<|k l (m-l)
 |some l,some h=>ck (l<=h/\h<=m)<|k l (h-l)
 |none,none=>k 0 m
def Cv(σ:Sg)(t:Nat):Nat->Nat->List (Nat×Dv)
 |0,_=>[]
 |f+1,i=>match get cx σ t i with
  |some d=>(i,d)::Cv σ t f (i+1)
  |none=>[]
def IA(σ:Sg)(x:Operand)(k:List (Nat×Dv)->Option R):Option R:=match x with
 |.tmp t=>(match Cv cx σ t 12 1 with
  |[]=>none
  |l=>k l)
 |_=>none
def fZ(σ:Sg)(x:Operand)(k:List (Nat×Dv)->Option R):Option R:=match yx cx σ x with
 |some v=>k [(0,v)]
 |none=>IA cx σ x k
def Fw(σ:Sg)(x:Operand)(i:Nat)(k:List (Nat×Dv)->Option R):Option R:=match x with
 |.tmp t=>(match get cx σ t (i+1)with
  |some v=>k [(0,v)]
  |none=>none)
 |_=>none
def Bw(σ:Sg)(x:Operand)(k:List (Nat×Dv)->Option R):Option R:=match yx cx σ x with
 |some v=>k [(0,v)]
 |none=>none
def rY(σ:Sg)(c x y:Operand)(k:List (Nat×Dv)->Option R):Option R:=match yx cx σ c with
 |some (.kb true)=>Bw cx σ x k
 |some (.kb false)=>Bw cx σ y k
 |_=>none
def MA(b:Bool):Dv:=.d .b<|not b
def Fc(σ:Sg)(x:Operand)(k:List (Nat×Dv)->Option R):Option R:=match yx cx σ x with
 |some (.kb b)=>k [(0,.kb !b)]
 |some (.d .b b)=>k [(0,MA b)]
 |_=>none
def ET(σ:Sg)(x:Operand)(k:List (Nat×Dv)->Option R):Option R:=match pd cx σ x with
 |some ⟨.i,a⟩=>OI a fun v=>k [(0,v)]
 |some ⟨.u,a⟩=>N8 a fun v=>k [(0,v)]
 |_=>none
def N5(xs:List Nat):Dv:=.d .tx xs
def FY(σ:Sg)(s t:TypeId)(x:Operand)(k:List (Nat×Dv)->Option R):Option R:=match vV cf s,vV cf t with
 |some ⟨_,.int _,_⟩,some ti=>LJ ti.k (pd cx σ x) fun v=>k [(0,v)]
 |some ⟨.l .ch,.sl E,_⟩,some ⟨_,.str,_⟩=>(match vV cf E with
  |some ⟨_,.int .u8,_⟩=>Vz (yx cx σ x) (.l .ch) fun xs=>k [(0,N5 xs)]
  |_=>none)
 |some ⟨.tx,.str,_⟩,some ⟨.l .ch,.sl E,_⟩=>(match vV cf E,pd cx σ x with
  |some ⟨_,.int .u8,_⟩,some ⟨.tx,xs⟩=>k [(0,.d (.l .ch) xs)]
  |_,_=>none)
 |_,_=>none
def IK(E:TypeId)(e:Ty):Bool:=match vV cf E with
 |some ti=>(Ty.same ti.ty e).isSome
 |none=>false
def HT(n:Nat)(e:Ty)(j:Nat):Fl (Ty.a n e).D:=⟨j*e.n,e,fun z=>SF z j e.z,fun y z=>xad z j y⟩
def dP(σ:Sg)(t:TypeId)(x i:Operand)(k:List (Nat×Dv)->Option R):Option R:=match vV cf t,yx cx σ x with
 |some ⟨.l e,.sl _,_⟩,some (.d (.l s) xs)=>Ty.cast (.l s) (.l e) xs fun xs=>nc cx σ i (O9 xs) fun j=>nm (SF xs j e.z) fun y=>k [(0,.q e y)]
 |some ⟨.l e,.sl _,_⟩,some (.ow o)=>(match qS cx σ o with
  |some (.own s _ xs)=>Ty.cast (.l s) (.l e) xs fun xs=>nc cx σ i (O9 xs) fun j=>k [(0,.ep o e j<|Fl.self e)]
  |_=>none)
 |some ⟨_,.ar n' E,_⟩,some (.q (.a n e) x)=>xV (OW n' n && IK cf E e)<|nc cx σ i n fun j=>nm (SF x j e.z) fun y=>k [(0,.q e y)]
 |some ⟨_,.ar n' E,_⟩,some (.vs o (.a n e))=>xV (OW n' n && IK cf E e)<|nc cx σ i n fun j=>k [(0,.vp o (.a n e)<|HT n e j)]
 |_,_=>none
def eg(σ:Sg)(t:TypeId)(x:Operand)(i:Nat)(k:List (Nat×Dv)->Option R):Option R:=match vV cf t,yx cx σ x with
 |some ⟨e,.st n,_⟩,some (.q s y)=>Ty.cast s e y fun y=>(match yq n e i with
  |some f=>k [(0,.q f.f<|f.get y)]
  |none=>none)
 |some ⟨e,.st n,_⟩,some (.vs o s)=>(match Ty.same s e,yq n s i with
  |some _,some f=>k [(0,.vp o s f)]
  |_,_=>none)
 |some ⟨e,.st n,_⟩,some (.vp o s g)=>(match Ty.same g.f e,yq n g.f i with
  |some _,some f=>k [(0,.vp o s<|g.comp f)]
  |_,_=>none)
 |some ⟨e,.st n,_⟩,some (.ep o s j g)=>(match Ty.same g.f e,yq n g.f i with
  |some _,some f=>k [(0,.ep o s j<|g.comp f)]
  |_,_=>none)
 |_,_=>none
def UK(σ:Sg)(t:TypeId)(x:Operand)(i:Nat)(k:List (Nat×Dv)->Option R):Option R:=match vV cf t,yx cx σ x with
 |some ⟨e,.st n,_⟩,some (.d s y)=>Ty.cast s e y fun y=>(match yq n e i with
  |some f=>k [(0,.d f.f<|f.get y)]
  |none=>none)
 |_,_=>none
def oe(σ:Sg)(t:TypeId)(x:Operand)(k:List (Nat×Dv)->Option R):Option R:=match vV cf t with
 |some ti=>Dm cx σ (yx cx σ x) fun p=>Ty.cast p.t ti.ty p.x fun y=>k [(0,.d ti.ty y)]
 |none=>none
def fT(σ:Sg)(t:TypeId)(x:Operand)(lo hi:Option Operand)(k:List (Nat×Dv)->Option R):Option R:=match vV cf t,yx cx σ x with
 |some ⟨.l e,.sl _,_⟩,some (.d (.l s) xs)=>Ty.cast (.l s) (.l e) xs fun xs=>aw cx σ lo fun lo=>aw cx σ hi fun hi=>E6 (α:=e.D) xs lo hi fun ys=>k [(0,.d (.l e) ys)]
 |some ⟨.l e,.sl _,_⟩,some (.ow o)=>(match qS cx σ o with
  |some (.own s _ xs)=>Ty.cast (.l s) (.l e) xs fun xs=>aw cx σ lo fun lo=>aw cx σ hi fun hi=>Ar (O9 xs) lo hi fun l n=>k [(0,.sv o e l n)]
  |_=>none)
 |some ⟨_,.str,_⟩,some (.d .tx xs)=>aw cx σ lo fun lo=>aw cx σ hi fun hi=>E6 (α:=Nat) xs lo hi fun ys=>k [(0,.d .tx ys)]
 |_,_=>none
def GR(σ:Sg)(t:TypeId)(x i:Operand)(k:List (Nat×Dv)->Option R):Option R:=match vV cf t,yx cx σ x with
 |some ⟨_,.str,_⟩,some (.d .tx xs)=>nc cx σ i (O9 (α:=Nat) xs) fun j=>nm (SF (α:=Nat) xs j 0) fun y=>k [(0,.d .ch y)]
 |_,_=>none
def Et(σ:Sg)(E:TypeId)(x:Operand)(k:List (Nat×Dv)->Option R):Option R:=match vV cf E with
 |some ti=>Vz (yx cx σ x) ti.ty fun y=>k [(0,.q ti.ty y)]
 |none=>none
def sf(σ:Sg)(n:Nat)(ty:Ty):List (Nat×Operand)->ty.D->(ty.D->Option R)->Option R
 |[],z,k=>k z
 |(i,x)::r,z,k=>match yq n ty i with
  |some f=>Vz (yx cx σ x) f.f fun y=>sf σ n ty r (f.set y z) k
  |none=>none
def fE(σ:Sg)(t:TypeId)(ps:List (Nat×Operand))(k:List (Nat×Dv)->Option R):Option R:=match vV cf t with
 |some ⟨ty,.st n,_⟩=>Jw (RA ps.length n||OW n 0) (sf cx σ n ty ps ty.z fun y=>k [(0,.d ty y)]) (parts cx σ (mI n ty) ps 0 fun ys=>match ZW n ty ys with
  |some y=>k [(0,.d ty y)]
  |none=>none)
 |some ⟨.a n e,.ar n' E,_⟩=>xV (OW n' n && IK cf E e)<|parts cx σ (JJ n e) ps 0 fun ys=>k [(0,.d (.a n e)<|Qx n e ys)]
 |_=>none
def Ef(σ:Sg)(t:TypeId)(n:Nat)(ps:List (Nat×Operand))(k:List (Nat×Dv)->Option R):Option R:=match vV cf t with
 |some ⟨.l s,.sl _,_⟩=>xV (Tv (n*s.n) 16777216)<|parts cx σ (JJ n s) ps 0 fun ys=>k [(0,.d (.l s)<|Qx n s ys)]
 |_=>none
def Ft(σ:Sg)(f:Go.Fn)(first cs:List Operand)(k:List (Nat×Dv)->Option R):Option R:=match f,first,Zt cx σ cs with
 |.func f,[],some l=>k [(0,.fn f l)]
 |.func f,[x],some []=>(match yx cx σ x with
  |some (.vs o t)=>k [(0,.bm f o t)]
  |_=>none)
 |_,_,_=>none
def dA(n:Nat):Dv:=.d .i (n:Int)
def FU(σ:Sg)(x:List Operand)(ts:List TypeId)(k:List (Nat×Dv)->Option R):Option R:=match x,ts with
 |[x],[t]=>(match vV cf t with
  |some ⟨.l _,.sl _,_⟩=>(match yx cx σ x with
   |some .nil=>k [(0,dA 0)]
   |some (.d (.l _) xs)=>k [(0,dA<|O9 xs)]
   |some (.ow o)=>(match qS cx σ o with
    |some (.own _ _ xs)=>k [(0,dA<|O9 xs)]
    |_=>none)
   |_=>none)
  |some ⟨_,.str,_⟩=>(match yx cx σ x with
   |some (.d .tx xs)=>k [(0,dA<|O9 (α:=Nat) xs)]
   |_=>none)
  |_=>none)
 |_,_=>none
def FX(x:Int):Dv:=.d .i x
def Oh(b:Bool)(a c:Int)(k:Int->Option R):Option R:=match b with
 |true=>nm (max a c) k
 |false=>nm (min a c) k
def Ma(b:Bool)(σ:Sg)(x:List Operand)(k:List (Nat×Dv)->Option R):Option R:=match x with
 |[x,y]=>(match pd cx σ x,pd cx σ y with
  |some ⟨.i,a⟩,some ⟨.i,c⟩=>Oh b a c fun z=>k [(0,FX z)]
  |_,_=>none)
 |_=>none
def Iq:Operand->Bool
 |.func _=>true
 |_=>false
def rJ(σ:Sg)(fo:Operand)(ags:List Operand)(k:List (Nat×Dv)->Option R):Option R:=match yx cx σ fo with
 |some (.fn f cs)=>(match JT cf.cs f with
  |some s=>jT cf cx σ s.dom ags cs fun y=>bd (s.M y) fun r=>k<|AK s.cod r
  |none=>(match uu cf.ex f,ags,cs with
   |some b,[x,y,z],[]=>xV (Iq fo)<|NQ b (pd cx σ x) (pd cx σ y) (pd cx σ z) k
   |_,_,_=>none))
 |some (.fp dom cod g)=>Jl cx σ dom ags fun y=>bd (g y) fun r=>k<|pG cod r<|bif Ck cod then 0 else 1
 |_=>none
def ay:Option Dv->Bool
 |some (.mw _)=>true
 |some (.mv _ _ _)=>true
 |some (.hp _ _)=>true
 |some (.rw _ _)=>true
 |some (.rp _ _ _ _ _)=>true
 |some (.vf _ _ _ _)=>true
 |_=>false
def GM:Option Dv->Bool
 |some (.mv _ _ _)=>true
 |_=>false
def OA(σ:Sg)(f:Operand):Bool:=match yx cx σ f with
 |some (.fn f _)=>(ou cf.cl f).isSome
 |_=>false
def HY(σ:Sg):Op->Bool
 |.nilCheck x=>ay<|yx cx σ x
 |.load _ x=>ay<|yx cx σ x
 |.indexAddr _ x _=>ay<|yx cx σ x
 |.fieldAddr _ x _=>ay<|yx cx σ x
 |.slice _ x _ _ none=>ay<|yx cx σ x
 |.call ⟨.builtin .len,ags,_⟩=>ags.toList.any fun x=>ay<|yx cx σ x
 |.call ⟨.value f,ags,_⟩=>OA cf cx σ f||ags.toList.any fun x=>GM<|yx cx σ x
 |_=>false
def vz{α:Type}(xss:List (List α))(r:Nat):List α:=xss.getD r []
def mQ{α:Type}(xss:List (List α))(ix:List Nat):List (List α):=ix.map<|vz xss
def U1(σ:Sg)(t:TypeId)(x i:Operand)(k:List (Nat×Dv)->Option R):Option R:=match vV cf t,yx cx σ x with
 |some ⟨.l (.l e),.sl _,_⟩,some (.mw o)=>(match qS cx σ o with
  |some (.mat s _ _ xss ix)=>nc cx σ i (O9 ix) fun j=>k [(0,.hp o j)]
  |_=>none)
 |some ⟨.l (.l e),.sl _,_⟩,some (.mv o lo n)=>(match qS cx σ o with
  |some (.mat s _ _ xss ix)=>nc cx σ i n fun j=>k [(0,.hp o<|lo+j)]
  |_=>none)
 |some ⟨.l e,.sl _,_⟩,some (.rw o r)=>(match qS cx σ o with
  |some (.mat s _ _ xss ix)=>Ty.cast (.l (.l s)) (.l (.l e)) xss fun xss=>nc cx σ i (O9<|vz (α:=e.D) xss r) fun j=>k [(0,.rp o e r j<|Fl.self e)]
  |_=>none)
 |_,_=>none
def pW(n:Nat)(s:Ty)(i j:Nat)(k:Fl s.D->Option R):Option R:=xV (!OW i j) (match yq n s i with
 |some f=>k f
 |none=>none)
def GQ(ti:TI)(o:Nat)(k:List (Nat×Dv)->Option R):Option R:=match ti with
 |⟨.l _,.sl _,_⟩=>k [(0,.rw o 0)]
 |_=>none
def ey(σ:Sg)(t:TypeId)(x:Operand)(k:List (Nat×Dv)->Option R):Option R:=match vV cf t,yx cx σ x with
 |some ⟨.l e,.sl _,_⟩,some (.hp o j)=>(match qS cx σ o with
  |some (.mat s _ _ xss ix)=>nm (SF ix j 0) fun r=>k [(0,.rw o r)]
  |_=>none)
 |some ti,some (.rp o e r j f)=>(match qS cx σ o with
  |some (.mat s _ _ xss ix)=>Ty.cast (.l (.l s)) (.l (.l e)) xss fun xss=>nm (f.get<|SF (vz (α:=e.D) xss r) j e.z) fun y=>Ty.cast f.f ti.ty y fun y=>k [(0,.d ti.ty y)]
  |_=>none)
 |some ti,some (.vf o s0 n0 i)=>(match qS cx σ o with
  |some (.vr s _ _ _ n j z _)=>xV (OW n0 n && (Ty.same s0 s).isSome)<|Jw (OW i j) (GQ ti o k) (pW n s i j fun f=>Ty.cast f.f ti.ty (f.get z) fun y=>k [(0,.d ti.ty y)])
  |some (.vh s _ _ _ n j z)=>xV (OW n0 n && (Ty.same s0 s).isSome)<|pW n s i j fun f=>Ty.cast f.f ti.ty (f.get z) fun y=>k [(0,.d ti.ty y)]
  |_=>none)
 |_,_=>none
def af(σ:Sg)(t:TypeId)(x:Operand)(i:Nat)(k:List (Nat×Dv)->Option R):Option R:=match vV cf t,yx cx σ x with
 |some ⟨e,.st n,_⟩,some (.mw o)=>(match qS cx σ o with
  |some (.vr s _ _ _ n' _ _ _)=>xV (OW n' n && (Ty.same s e).isSome && (yq n e i).isSome)<|k [(0,.vf o e n i)]
  |some (.vh s _ _ _ n' _ _)=>xV (OW n' n && (Ty.same s e).isSome && (yq n e i).isSome)<|k [(0,.vf o e n i)]
  |_=>none)
 |_,_=>none
def re(σ:Sg)(x:Operand)(k:List (Nat×Dv)->Option R):Option R:=match yx cx σ x with
 |some (.mw o)=>(match qS cx σ o with
  |some (.vr _ _ _ _ _ _ _ _)=>k [(0,.mw o)]
  |some (.vh _ _ _ _ _ _ _)=>k [(0,.mw o)]
  |_=>none)
 |_=>none
def Ua(σ:Sg)(t:TypeId)(x:Operand)(lo hi:Option Operand)(k:List (Nat×Dv)->Option R):Option R:=match vV cf t,yx cx σ x with
 |some ⟨.l (.l e),.sl _,_⟩,some (.mw o)=>(match qS cx σ o with
  |some (.mat s _ _ xss ix)=>aw cx σ lo fun lo=>aw cx σ hi fun hi=>Ar (O9 ix) lo hi fun l n=>k [(0,.mv o l n)]
  |_=>none)
 |_,_=>none
def oB(σ:Sg)(x:List Operand)(ts:List TypeId)(k:List (Nat×Dv)->Option R):Option R:=match x,ts with
 |[x],[t]=>(match vV cf t,yx cx σ x with
  |some ⟨.l _,.sl _,_⟩,some (.mw o)=>(match qS cx σ o with
   |some (.mat _ _ _ _ ix)=>k [(0,dA<|O9 ix)]
   |_=>none)
  |some ⟨.l _,.sl _,_⟩,some (.mv o _ n)=>(match qS cx σ o with
   |some (.mat _ _ _ _ _)=>k [(0,dA n)]
   |_=>none)
  |some ⟨.l _,.sl _,_⟩,some (.rw o r)=>(match qS cx σ o with
   |some (.mat _ _ _ xss _)=>k [(0,dA<|O9<|vz xss r)]
   |some (.vr _ _ _ _ _ _ _ xs)=>k [(0,dA<|O9 xs)]
   |_=>none)
  |_,_=>none)
 |_,_=>none
def jX(σ:Sg):(dom:List AM)->List Operand->List PD->(uC dom->Option R)->Option R
 |[],[],[],k=>k ()
 |.q t::r,[],c::cs,k=>Ty.cast c.t t c.x fun y=>jX σ r [] cs fun z=>k (y,z)
 |.d t::r,x::xs,cs,k=>(match yx cx σ x with
  |some (.mv o lo n)=>(match qS cx σ o with
   |some (.mat s _ _ xss ix)=>Ty.cast (.l (.l s)) t (TB n<|TX lo<|mQ xss ix) fun y=>jX σ r xs cs fun z=>k (y,z)
   |_=>none)
  |v=>Vz v t fun y=>jX σ r xs cs fun z=>k (y,z))
 |.fn dom cod::r,x::xs,cs,k=>Dk cf σ (yx cx σ x) dom cod fun g=>jX σ r xs cs fun z=>k (g,z)
 |_,_,_,_=>none
def bX:List RM->Bool
 |[]=>true
 |.d .i::r=>bX r
 |.d .b::r=>bX r
 |.d .u::r=>bX r
 |_=>false
def ee(σ:Sg)(fo:Operand)(ags:List Operand)(k:List (Nat×Dv)->Option R):Option R:=match yx cx σ fo with
 |some (.fn f cs)=>(match ou cf.cl f,cs with
  |some s,[]=>Jl cx σ s.dom ags fun ys=>k [(0,.fn s.g<|s.mc ys)]
  |_,cs=>(match JT cf.cs f with
   |some s=>xV (bX s.cod)<|jX cf cx σ s.dom ags cs fun y=>bd (s.M y) fun r=>k<|AK s.cod r
   |none=>none))
 |_=>none
def EJ(σ:Sg)(T:TypeId)(x:Operand)(k:List (Nat×Dv)->Option R):Option R:=match uu cf.tt T,yx cx σ x with
 |some ⟨.w1 .i,.st 0,_⟩,some (.d t y)=>Ty.cast t (.w1 .i) y fun z=>k [(0,.ifc (T,z))]
 |_,_=>none
def Nb(σ:Sg)(op:Op)(k:List (Nat×Dv)->Option R):Option R:=match op with
 |.load t x=>ey cf cx σ t x k
 |.indexAddr t x i=>U1 cf cx σ t x i k
 |.fieldAddr t x i=>af cf cx σ t x i k
 |.slice t x lo hi none=>Ua cf cx σ t x lo hi k
 |.call ⟨.builtin .len,ags,ts⟩=>oB cf cx σ ags.toList ts.toList k
 |.call ⟨.value f,ags,_⟩=>ee cf cx σ f ags.toList k
 |.nilCheck x=>re cx σ x k
 |_=>none
def Fz(σ:Sg)(op:Op)(k:List (Nat×Dv)->Option R):Option R:=match op with
 |.move x=>fZ cx σ x k
 |.assign x=>fZ cx σ x k
 |.extract x i=>Fw cx σ x i k
 |.pick c x y=>rY cx σ c x y k
 |.unOp .not _ x=>Fc cx σ x k
 |.unOp .neg _ x=>ET cx σ x k
 |.binOp bo t x y _=>Jw (Cm y) (xV (GK cf t)<|L2 bo (yx cx σ x) fun v=>k [(0,v)])<|Jw (BB<|yx cx σ y) (xV (Bc cf t)<|L7 bo (yx cx σ x) fun v=>k [(0,v)]) (Fi (Nq cf t) bo (pd cx σ x) (pd cx σ y) fun v=>k [(0,v)])
 |.nilCheck x=>Eu cx σ x k
 |.convert s t x=>FY cf cx σ s t x k
 |.load t x=>oe cf cx σ t x k
 |.indexAddr t x i=>dP cf cx σ t x i k
 |.fieldAddr t x i=>eg cf cx σ t x i k
 |.field t x i=>UK cf cx σ t x i k
 |.slice t x lo hi none=>fT cf cx σ t x lo hi k
 |.index t x i=>GR cf cx σ t x i k
 |.box E x=>Et cf cx σ E x k
 |.build t ps=>fE cf cx σ t ps.toList k
 |.makeInterface t x=>EJ cf cx σ t x k
 |.buildSlice t n ps=>Ef cf cx σ t n ps.toList k
 |.makeFunc f first cs=>Ft cx σ f first.toList cs.toList k
 |.call ⟨.builtin .len,ags,ts⟩=>FU cf cx σ ags.toList ts.toList k
 |.call ⟨.builtin .max,ags,_⟩=>Ma cx true σ ags.toList k
 |.call ⟨.builtin .min,ags,_⟩=>Ma cx false σ ags.toList k
 |.call ⟨.value f,ags,_⟩=>rJ cf cx σ f ags.toList k
 |_=>none
def HJ(σ:Sg)(op:Op)(k:List (Nat×Dv)->Option R):Option R:=Jw (HY cf cx σ op) (Nb cf cx σ op k)<|Fz cf cx σ op k
def xz:Dv->Option Nat
 |.ow o=>some o
 |.vs o _=>some o
 |.ep o _ _ _=>some o
 |.sv o _ _ _=>some o
 |.vp o _ _=>some o
 |.mw o=>some o
 |.mv o _ _=>some o
 |.hp o _=>some o
 |.rw o _=>some o
 |.rp o _ _ _ _=>some o
 |.yd o=>some o
 |.vf o _ _ _=>some o
 |.bm _ o _=>some o
 |_=>none
def Gq(n:Nat)(l:List (Nat×Dv)):Bool:=l.all fun e=>match xz e.2 with
 |some o=>RA o n
 |none=>true
def Ur(o:Nat)(x:Od)(v:Dv):Dv:=match v,x with
 |.ow o',.own s _ xs=>bif OW o' o then .d (.l s) xs else v
 |.vs o' _,.var s _ z=>bif OW o' o then .q s z else v
 |.mw o',.mat s _ _ xss ix=>bif OW o' o then .d (.l (.l s)) (mQ xss ix)else v
 |.mw o',.vr t _ s _ n i z xs=>bif OW o' o then .q t (vn s (yq n t i) xs z)else v
 |_,_=>v
def JI(o:Nat)(x:Od):List (Nat×Nat×Dv)->List (Nat×Nat×Dv)
 |[]=>[]
 |(t,i,v)::r=>(t,i,Ur o x v)::JI o x r
def aR(σ:Sg)(o:Nat):Sg:=match yE σ.ob o with
 |some x=>⟨σ.nx,JI o x σ.rg,zD σ.ob o⟩
 |none=>σ
def Hf(σ:Sg)(x:Operand):Sg:=match yx cx σ x with
 |some (.ow o)=>aR σ o
 |some (.vs o _)=>aR σ o
 |some (.mw o)=>aR σ o
 |_=>σ
def BY(σ:Sg):List Operand->Sg
 |[]=>σ
 |x::r=>BY (Hf cx σ x) r
def dS(σ:Sg):List AM->List Operand->Bool
 |[],_=>true
 |.own _ _::r,x::xs=>(match yx cx σ x with
  |some (.ow o)=>σ.ob.any fun e=>OW e.1 o
  |_=>false) && dS σ r xs
 |.var _ _::r,x::xs=>(match yx cx σ x with
  |some (.vs o _)=>σ.ob.any fun e=>OW e.1 o
  |_=>false) && dS σ r xs
 |.d _::r,x::xs=> !GM (yx cx σ x) && dS σ r xs
 |_::r,_::xs=>dS σ r xs
 |_::r,[]=>dS σ r []
def fi(σ:Sg)(f:FuncId)(ags:List Operand):List jo->Option jo
 |[]=>none
 |s::r=>match OW s.f f && dS cx σ s.dom ags with
  |true=>some s
  |false=>fi σ f ags r
def oW(σ:Sg)(f:FuncId)(ags:List Operand):List qN->Option qN
 |[]=>none
 |p::r=>match OW p.s.f f && dS cx σ p.s.dom ags with
  |true=>some p
  |false=>oW σ f ags r
def Bs(d:Option Tmp):Bool:=match d with
 |some t=>ZG cf.an.vw t
 |none=>false
def ed(d:Option Tmp):Bool:=match d with
 |some t=>ZG cf.an.mt t
 |none=>false
def Nl:Option Dv->Bool
 |some (.hp _ _)=>true
 |some (.mw _)=>true
 |_=>false
def Lj(σ:Sg):Option Dv->Bool
 |some (.vf o _ _ i)=>(match yE σ.ob o with
  |some (.vh _ _ _ _ _ j _)=>OW i j
  |_=>false)
 |_=>false
def nL:Option Dv->Bool
 |some (.mw _)=>true
 |_=>false
def DJ(σ:Sg)(dom:List AM)(ags:List Operand):List Operand:=(dom.zip ags).filterMap fun e=>match e.1 with
 |.d _=>(match GM (yx cx σ e.2)with
  |true=>none
  |false=>some e.2)
 |.q _=>some e.2
 |_=>none
def En(σ:Sg)(d:Option Tmp):Op->List Operand
 |.build _ ps=>ps.toList.map (·.2)
 |.buildSlice _ _ ps=>(match ed cf d with
  |true=>[]
  |false=>ps.toList.map (·.2))
 |.store _ a v=>(match Nl (yx cx σ a)||Lj σ (yx cx σ a),yx cx σ v with
  |false,some (.ow _)=>[v]
  |_,_=>[])
 |.slice _ x none (some _) none=>(match nL (yx cx σ x),Bs cf d with
  |true,false=>[x]
  |_,_=>[])
 |.box _ v=>[v]
 |.load _ x=>(match yx cx σ x with
  |some (.mw o)=>(match qS cx σ o with
   |some (.vr _ _ _ _ _ _ _ _)=>[x]
   |_=>[])
  |_=>[])
 |.convert _ _ v=>[v]
 |.makeFunc _ _ cs=>cs.toList
 |.slice _ x (some _) _ _=>(match Bs cf d with
  |true=>[]
  |false=>[x])
 |.call ⟨.builtin .append,ags,_⟩=>(match ags.toList.any fun x=>nL (yx cx σ x)with
  |true=>[]
  |false=>ags.toList.drop 1)
 |.call ⟨.builtin .copy,ags,_⟩=>ags.toList.drop 1
 |.call ⟨.value f,ags,_⟩=>(match yx cx σ f with
  |some (.fn f _)=>(match fi cx σ f ags.toList cf.cs with
   |some s=>DJ cx σ s.dom ags.toList
   |none=>(match oW cx σ f ags.toList cf.ps with
    |some p=>DJ cx σ p.s.dom ags.toList
    |none=>[]))
  |some (.fp _ _ _)=>ags.toList
  |_=>[])
 |_=>[]
def cA(σ:Sg)(d:Option Tmp)(mk:Nat->Dv)(x:Od):Sg:=⟨σ.nx+1,xK σ.rg d [(0,mk σ.nx)],(σ.nx,x)::σ.ob⟩
def qe(σ:Sg):(dom:List AM)->List Operand->List PD->(uC dom->List Nat->Option R)->Option R
 |[],[],[],k=>k () []
 |.q t::r,[],c::cs,k=>Ty.cast c.t t c.x fun y=>qe σ r [] cs fun z os=>k (y,z) os
 |.d t::r,x::xs,cs,k=>Vz (yx cx σ x) t fun y=>qe σ r xs cs fun z os=>k (y,z) os
 |.q t::r,x::xs,cs,k=>(match yx cx σ x with
  |some (.q s y)=>Ty.cast s t y fun y=>qe σ r xs cs fun z os=>k (y,z) os
  |_=>none)
 |.own t E::r,x::xs,cs,k=>(match yx cx σ x with
  |some (.ow o)=>(match yE σ.ob o with
   |some (.own s E' ys)=>xV (OW E E')<|Ty.cast (.l s) (.l t) ys fun y=>qe σ r xs cs fun z os=>xV (!ZG os o)<|k (y,z) (o::os)
   |_=>none)
  |_=>none)
 |.var t E::r,x::xs,cs,k=>(match yx cx σ x with
  |some (.vs o _)=>(match yE σ.ob o with
   |some (.var s E' y)=>xV (OW E E')<|Ty.cast s t y fun y=>qe σ r xs cs fun z os=>xV (!ZG os o)<|k (y,z) (o::os)
   |_=>none)
  |_=>none)
 |.fn dom cod::r,x::xs,cs,k=>Dk cf σ (yx cx σ x) dom cod fun g=>qe σ r xs cs fun z os=>k (g,z) os
 |_,_,_,_=>none
def vI:(rs:List RM)->uE rs->Nat->Nat->List (Nat×Dv)×List (Nat×Od)
 |[],_,_,_=>([],[])
 |[.d t],x,i,o=>([(i,.d t x)],[])
 |[.own t E],x,i,o=>([(i,.ow o)],[(o,.own t E x)])
 |[.var t E],x,i,o=>([(i,.vs o t)],[(o,.var t E x)])
 |.d t::r::rs,x,i,o=>let y:=vI (r::rs) x.2 (i+1) o
  ((i,.d t x.1)::y.1,y.2)
 |.own t E::r::rs,x,i,o=>let y:=vI (r::rs) x.2 (i+1) (o+1)
  ((i,.ow o)::y.1,(o,.own t E x.1)::y.2)
 |.var t E::r::rs,x,i,o=>let y:=vI (r::rs) x.2 (i+1) (o+1)
  ((i,.vs o t)::y.1,(o,.var t E x.1)::y.2)
def xu(ob:List (Nat×Od)):List Nat->List (Nat×Od)
 |[]=>ob
 |o::r=>zD (xu ob r) o
def dY(σ:Sg)(s:Ty)(p v:Option Dv)(k:Sg->Option R):Option R:=match p with
 |some (.vs o _)=>(match yE σ.ob o with
  |some (.var s' E z)=>Ty.cast s' s z fun z=>Vz v s fun y=>k ⟨σ.nx,σ.rg,ve σ.ob o (.var s E y)⟩
  |_=>none)
 |some (.vp o s1 f)=>(match yE σ.ob o,Ty.same f.f s with
  |some (.var s' E z),some _=>Ty.cast s' s1 z fun z=>Vz v f.f fun y=>nm (f.set y z) fun z=>k ⟨σ.nx,σ.rg,ve σ.ob o (.var s1 E z)⟩
  |_,_=>none)
 |some (.ep o s1 j f)=>(match yE σ.ob o,Ty.same f.f s with
  |some (.own s' E xs),some _=>Ty.cast (.l s') (.l s1) xs fun xs=>Vz v f.f fun y=>nm (xad xs j<|f.set y<|SF xs j s1.z) fun xs=>k ⟨σ.nx,σ.rg,ve σ.ob o (.own s1 E xs)⟩
  |_,_=>none)
 |_=>none
def dW(σ:Sg)(d:Option Tmp)(E:TypeId)(k:Sg->Option R):Option R:=match vV cf E with
 |some ti=>k<|cA σ d (fun o=> .vs o ti.ty) (.var ti.ty E ti.ty.z)
 |none=>none
def Fv(σ:Sg)(d:Option Tmp)(E:TypeId)(x:Operand)(k:Sg->Option R):Option R:=match vV cf E with
 |some ti=>Vz (yx cx σ x) ti.ty fun y=>k<|cA σ d (fun o=> .vs o ti.ty) (.var ti.ty E y)
 |none=>none
def sU(σ:Sg)(d:Option Tmp)(t:TypeId)(x y:Operand)(k:Sg->Option R):Option R:=match vV cf t with
 |some ⟨.l s,.sl E,_⟩=>xV (iU x y) (match vV cf E,pd cx σ x with
  |some ti,some ⟨.i,n⟩=>Ty.cast ti.ty s ti.ty.z fun z=>lK n fun n=>ck (ti.B*n<=281474976710656)<|nm (Pv n z) fun xs=>k<|cA σ d .ow (.own s E xs)
  |_,_=>none)
 |_=>none
def Ea(σ:Sg)(d:Option Tmp)(t:TypeId)(n:Nat)(ps:List (Nat×Operand))(k:Sg->Option R):Option R:=match vV cf t with
 |some ⟨.l s,.sl E,_⟩=>xV (Tv (n*s.n) 16777216)<|parts cx σ (JJ n s) ps 0 fun ys=>k<|cA σ d .ow (.own s E<|Qx n s ys)
 |_=>none
def fy(σ:Sg)(d:Option Tmp)(t:TypeId)(o:Nat)(hi:Operand)(k:Sg->Option R):Option R:=match vV cf t,yE σ.ob o with
 |some ⟨.l s1,.sl _,_⟩,some (.own s E xs)=>Ty.cast (.l s) (.l s1) xs fun xs=>aw cx σ (some hi) fun h=>E6 (α:=s1.D) xs none h fun ys=>k ⟨σ.nx+1,xK σ.rg d [(0,.ow σ.nx)],(σ.nx,.own s1 E ys)::zD σ.ob o⟩
 |_,_=>none
def gW(σ:Sg)(d:Option Tmp)(t':TypeId)(same:Bool)(s:Ty)(E:TypeId)(B:Nat)(z:s.D)(y:Operand)(ob:List (Nat×Od))(xs:List s.D)(k:Sg->Option R):Option R:=match pd cx σ y with
 |some ⟨.i,n⟩=>(match vV cf t' with
  |some ⟨_,.int _,_⟩=>lK n fun n=>Mn xs n z B fun zs=>k ⟨σ.nx+1,xK σ.rg d [(0,.ow σ.nx)],(σ.nx,.own s E zs)::ob⟩
  |_=>none)
 |some ⟨.tx,ys⟩=>(match vV cf t' with
  |some ⟨_,.str,_⟩=>Ty.cast (.l .ch) (.l s) ys fun ys=>EW (α:=s.D) xs ys B fun zs=>k ⟨σ.nx+1,xK σ.rg d [(0,.ow σ.nx)],(σ.nx,.own s E zs)::ob⟩
  |_=>none)
 |_=>(match yx cx σ y with
  |some (.sv o2 t2 lo n)=>(match qS cx ⟨σ.nx,σ.rg,ob⟩ o2 with
   |some (.own s2 _ zs)=>xV same<|Ty.cast (.l s2) (.l t2) zs fun zs=>Ty.cast (.l t2) (.l s) (TB n<|TX lo zs) fun ys=>nm ys fun ys=>EW (α:=s.D) xs ys B fun zs=>k ⟨σ.nx+1,xK σ.rg d [(0,.ow σ.nx)],(σ.nx,.own s E zs)::ob⟩
   |_=>none)
  |_=>xV same<|Vz (yx cx σ y) (.l s) fun ys=>EW (α:=s.D) xs ys B fun zs=>k ⟨σ.nx+1,xK σ.rg d [(0,.ow σ.nx)],(σ.nx,.own s E zs)::ob⟩)
def EH(σ:Sg)(d:Option Tmp)(ags:List Operand)(ts:List TypeId)(k:Sg->Option R):Option R:=match ags,ts with
 |[x,y],[t,t']=>(match vV cf t with
  |some ⟨.l s,.sl E,_⟩=>(match vV cf E with
   |some ti=>Ty.cast ti.ty s ti.ty.z fun z=>(match yx cx σ x with
    |some .nil=>gW cf cx σ d t' (OW t t') s E ti.B z y σ.ob [] k
    |some (.ow o)=>(match yE σ.ob o with
     |some (.own s' E' xs)=>xV (OW E' E)<|Ty.cast (.l s') (.l s) xs fun xs=>gW cf cx σ d t' (OW t t') s E ti.B z y (zD σ.ob o) xs k
     |_=>none)
    |_=>none)
   |none=>none)
  |_=>none)
 |_,_=>none
def oy(σ:Sg)(d:Option Tmp)(ags:List Operand)(ts:List TypeId)(k:Sg->Option R):Option R:=match ags,ts with
 |[x,y],[t,_]=>(match vV cf t,yx cx σ x with
  |some ⟨.l s,.sl _,_⟩,some (.ow o)=>(match yE σ.ob o with
   |some (.own s' E' xs)=>Ty.cast (.l s') (.l s) xs fun xs=>Vz (yx cx σ y) (.l s) fun ys=>nm (CY (α:=s.D) xs ys) fun zs=>k ⟨σ.nx,xK σ.rg d [],ve σ.ob o (.own s E' zs)⟩
   |_=>none)
  |some ⟨.l s,.sl _,_⟩,some (.sv o t2 lo n)=>(match yE σ.ob o,Ty.same t2 s with
   |some (.own s' E' xs),some _=>Ty.cast (.l s') (.l s) xs fun xs=>Vz (yx cx σ y) (.l s) fun ys=>nm (Q2 (α:=s.D) lo n xs ys) fun zs=>k ⟨σ.nx,xK σ.rg d [],ve σ.ob o (.own s E' zs)⟩
   |_,_=>none)
  |_,_=>none)
 |_,_=>none
def QB:List Nat->List (Nat×Od)->List (Nat×Od)
 |o::os,e::r=>(o,e.2)::QB os r
 |_,_=>[]
def X3:Nat->List RM->Bool
 |0,[]=>true
 |0,.own _ _::r=>X3 0 r
 |0,.var _ _::r=>X3 0 r
 |n+1,.d _::r=>X3 n r
 |_,_=>false
def Vr(m:Nat):Nat:=bif OW m 1 then 0 else 1
def CC(σ:Sg)(d:Option Tmp)(s:jo)(os:List Nat)(r:uE s.cod)(k:Sg->Option R):Option R:=
 match s.bk with
 |0=>(let g:=vI s.cod r (bif Zj s.cod then 0 else 1) σ.nx
  k ⟨σ.nx+g.2.length,xK σ.rg d g.1,g.2++xu σ.ob os⟩)
 |b+1=>(let m:=s.cod.length-(b+1)
  let g:=vI s.cod r (Vr m) σ.nx
  xV (X3 m s.cod)<|k ⟨σ.nx+g.2.length,xK σ.rg d<|g.1.filter fun e=>RA e.1<|Vr m+m,QB os g.2++xu σ.ob os⟩)
def DW(σ:Sg)(d:Option Tmp)(s:jo)(ags:List Operand)(cs:List PD)(k:Sg->Option R):Option R:=
 qe cf cx σ s.dom ags cs fun y os=>bd (s.M y) fun r=>CC σ d s os r k
def Gd(σ:Sg)(d:Option Tmp)(p:qN)(ags:List Operand)(cs:List PD)(kp:PX->Sg->Option R)(k:Sg->Option R):Option R:=
 qe cf cx σ p.s.dom ags cs fun y os=>bd (p.M y) fun z=>Sum.elim (fun q=>kp q ⟨σ.nx,σ.rg,xu σ.ob os⟩) (fun r=>CC σ d p.s os r k) z
def BW(σ:Sg):Op->Option (qN×List Operand×List PD)
 |.call ⟨.value f,ags,_⟩=>(match yx cx σ f with
  |some (.fn f' cs)=>(match oW cx σ f' ags.toList cf.ps with
   |some p=>some (p,ags.toList,cs)
   |none=>none)
  |_=>none)
 |_=>none
def mE(σ:Sg)(d:Option Tmp)(op:Op)(k:Sg->Option R):Option R:=HJ cf cx σ op fun l=>xV (Gq σ.nx l)<|k (σ.put d l)
def Fe(d:Option Tmp):Bool:=match d with
 |some t=>ZG cf.an.bx t
 |none=>false
def CF(o n:Nat)(v:Dv):Dv:=match v with
 |.mw p=>bif OW p o then .mw n else v
 |.mv p l m=>bif OW p o then .mv n l m else v
 |.hp p j=>bif OW p o then .hp n j else v
 |.rw p r=>bif OW p o then .rw n r else v
 |.rp p t r j f=>bif OW p o then .rp n t r j f else v
 |v=>v
def Cb(o n:Nat):List (Nat×Nat×Dv)->List (Nat×Nat×Dv)
 |[]=>[]
 |(t,i,v)::r=>(t,i,CF o n v)::Cb o n r
def Qw(o n:Nat):List (Nat×Nat×Dv)->List (Nat×Nat×Dv)
 |[]=>[]
 |(t,i,.mw p)::r=>(t,i,bif OW p o then .mw n else .mw p)::Qw o n r
 |(t,i,v)::r=>(t,i,v)::Qw o n r
def bD(o n:Nat):List (Nat×Nat×Dv)->List (Nat×Nat×Dv)
 |[]=>[]
 |(t,i,.yd p)::r=>(t,i,bif OW p o then .yd n else .yd p)::bD o n r
 |(t,i,v)::r=>(t,i,v)::bD o n r
def HH{α:Type}(a b:List α):List α:=a++b
def Iv{α:Type}(xss:List (List α))(r:Nat)(xs:List α):List (List α):=xad xss r xs
def wV(σ:Sg)(s:Ty)(p v:Option Dv)(k:Sg->Option R):Option R:=match p,v with
 |some (.rp o e r j f),v=>(match yE σ.ob o,Ty.same f.f s with
  |some (.mat s' E E1 xss ix),some _=>Ty.cast (.l (.l s')) (.l (.l e)) xss fun xss=>Vz v f.f fun y=>nm (Iv (α:=e.D) xss r<|xad (vz (α:=e.D) xss r) j<|f.set y<|SF (vz (α:=e.D) xss r) j e.z) fun xss=>k ⟨σ.nx,σ.rg,ve σ.ob o (.mat e E E1 xss ix)⟩
  |_,_=>none)
 |some (.vf o s0 n0 i),some (.ow o2)=>xV (!OW o o2)<|(match yE σ.ob o,yE σ.ob o2 with
  |some (.vh s1 E s2 E1 n j z),some (.own s3 E3 ys)=>xV (OW i j && OW E1 E3 && (Ty.same s (.l s2)).isSome && (OW n0 n && (Ty.same s0 s1).isSome))<|Ty.cast (.l s3) (.l s2) ys fun ys=>k ⟨σ.nx+1,Qw o σ.nx σ.rg,(σ.nx,.vr s1 E s2 E1 n j z ys)::zD (zD σ.ob o) o2⟩
  |_,_=>none)
 |some (.vf o s0 n0 i),v=>(match yE σ.ob o with
  |some (.vr s1 E s2 E1 n j z ys)=>xV (OW n0 n && (Ty.same s0 s1).isSome)<|pW n s1 i j fun f=>xV (Ty.same f.f s).isSome<|Vz v f.f fun y=>nm (f.set y z) fun z=>k ⟨σ.nx,σ.rg,ve σ.ob o (.vr s1 E s2 E1 n j z ys)⟩
  |some (.vh s1 E s2 E1 n j z)=>xV (OW n0 n && (Ty.same s0 s1).isSome)<|pW n s1 i j fun f=>xV (Ty.same f.f s).isSome<|Vz v f.f fun y=>nm (f.set y z) fun z=>k ⟨σ.nx,σ.rg,ve σ.ob o (.vh s1 E s2 E1 n j z)⟩
  |_=>none)
 |some (.hp o j),some (.rw o' r)=>xV (OW o' o)<|(match yE σ.ob o,s with
  |some (.mat s' E E1 xss ix),.l _=>nm (xad ix j r) fun ix=>k ⟨σ.nx,σ.rg,ve σ.ob o (.mat s' E E1 xss ix)⟩
  |_,_=>none)
 |some (.hp o j),some (.ow o2)=>xV (!OW o o2)<|(match yE σ.ob o,yE σ.ob o2,s with
  |some (.mat s' E E1 xss ix),some (.own s2 E2 ys),.l _=>xV (OW E1 E2)<|Ty.cast (.l s2) (.l s') ys fun ys=>nm (HH (α:=List s'.D) xss [ys]) fun xs2=>nm (xad ix j<|O9 xss) fun ix=>k ⟨σ.nx+1,Cb o σ.nx σ.rg,(σ.nx,.mat s' E E1 xs2 ix)::zD (zD σ.ob o) o2⟩
  |_,_,_=>none)
 |some (.mw o),some (.dz t2 y n2 i2)=>(match yE σ.ob o with
  |some (.vr s1 E s2 E1 n j z xs)=>xV (OW n2 n && (OW i2 j && (Ty.same s s1).isSome))<|Ty.cast t2 s1 y fun y=>k ⟨σ.nx+1,Qw o σ.nx σ.rg,(σ.nx,.vr s1 E s2 E1 n j y [])::zD σ.ob o⟩
  |_=>none)
 |some (.mw o),some (.ow o2)=>xV (!OW o o2)<|(match yE σ.ob o,yE σ.ob o2,s with
  |some (.ho E0),some (.own s2 E2 ys),.l _=>k ⟨σ.nx+1,Qw o σ.nx σ.rg,(σ.nx,.bo s2 E2 E0 ys)::zD (zD σ.ob o) o2⟩
  |_,_,_=>none)
 |_,_=>none
def fh(σ:Sg)(d:Option Tmp)(t:TypeId)(x y:Operand)(k:Sg->Option R):Option R:=match vV cf t with
 |some ⟨.l (.l s),.sl E,_⟩=>xV (iU x y) (match vV cf E,pd cx σ x with
  |some ⟨.l _,.sl E1,B⟩,some ⟨.i,n⟩=>lK n fun n=>ck (B*n<=281474976710656)<|nm (Pv n 0) fun ix=>k<|cA σ d .mw (.mat s E E1 [[]] ix)
  |_,_=>none)
 |_=>none
def pY(σ:Sg)(d:Option Tmp)(t:TypeId)(n:Nat)(ps:List (Nat×Operand))(k:Sg->Option R):Option R:=match vV cf t,ps with
 |some ⟨.l (.l s),.sl E,_⟩,[(0,x)]=>xV (OW n 1) (match yx cx σ x with
  |some (.ow o2)=>(match yE σ.ob o2 with
   |some (.own s2 E1 ys)=>Ty.cast (.l s2) (.l s) ys fun ys=>k ⟨σ.nx+1,xK σ.rg d [(0,.mw σ.nx)],(σ.nx,.mat s E E1 [ys] [0])::zD σ.ob o2⟩
   |_=>none)
  |_=>none)
 |_,_=>none
def Qh(d:Option Tmp):Option (Nat×Nat):=match d with
 |some t=>uu cf.an.vr t
 |none=>none
def UF(σ:Sg)(d:Option Tmp)(E0:TypeId)(k:Sg->Option R):Option R:=match vV cf E0 with
 |some ⟨.l s,.sl E,_⟩=>k<|cA σ d .mw (.bo s E E0 [])
 |some ⟨ty,.st n,_⟩=>(match Qh cf d with
  |some (i,E1)=>(match yq n ty i with
   |some ⟨_,.l s,_,_⟩=>k<|cA σ d .mw (.vr ty E0 s E1 n i ty.z [])
   |_=>none)
  |none=>none)
 |_=>none
def rH(σ:Sg)(d:Option Tmp)(E0:TypeId)(x:Operand)(k:Sg->Option R):Option R:=match vV cf E0,Qh cf d,yx cx σ x with
 |some ⟨ty,.st n,_⟩,some (i,E1),some (.dz t2 y n2 i2)=>(match yq n ty i with
  |some ⟨_,.l s,_,_⟩=>xV (OW n2 n && (OW i2 i && (Ty.same ty t2).isSome))<|Ty.cast t2 ty y fun y=>k<|cA σ d .mw (.vr ty E0 s E1 n i y [])
  |_=>none)
 |_,_,_=>none
def K5(σ:Sg)(d:Option Tmp)(t:TypeId)(ps:List (Nat×Operand))(k:Sg->Option R):Option R:=match vV cf t,Qh cf d with
 |some ⟨ty,.st n,_⟩,some (i,_)=>xV (ps.all fun p=> !OW p.1 i) (match yq n ty i with
  |some ⟨_,.l _,_,_⟩=>sf cx σ n ty ps ty.z fun y=>k<|σ.put d [(0,.dz ty y n i)]
  |_=>none)
 |_,_=>none
def ef(σ:Sg)(d:Option Tmp)(t:TypeId)(o:Nat)(k:Sg->Option R):Option R:=match vV cf t,yE σ.ob o with
 |some ⟨.l s',.sl _,_⟩,some (.vr s1 E s2 E1 n j z xs)=>xV (Ty.same s' s2).isSome<|k ⟨σ.nx+1,xK σ.rg d [(0,.ow σ.nx)],(σ.nx,.own s2 E1 xs)::ve σ.ob o (.vh s1 E s2 E1 n j z)⟩
 |_,_=>none
def dy(σ:Sg):Option Dv->Option Nat
 |some (.vf o s0 n0 i)=>(match yE σ.ob o with
  |some (.vr s _ _ _ n j _ _)=>bif OW i j && (OW n0 n && (Ty.same s0 s).isSome)then some o else none
  |_=>none)
 |_=>none
def eR(σ:Sg)(d:Option Tmp)(t:TypeId)(o:Nat)(k:Sg->Option R):Option R:=match vV cf t,yE σ.ob o with
 |some ⟨.l _,.sl _,_⟩,some (.bo s E E0 xs)=>k ⟨σ.nx+1,xK σ.rg d [(0,.ow σ.nx)],(σ.nx,.own s E xs)::ve σ.ob o (.ho E0)⟩
 |_,_=>none
def sJ(σ:Sg)(d:Option Tmp)(ags:List Operand)(ts:List TypeId)(k:Sg->Option R):Option R:=match ags,ts with
 |[x,y],[t,t']=>(match vV cf t,yx cx σ x,yx cx σ y with
  |some ⟨.l (.l s),.sl E,_⟩,some (.mw o),some (.mw p)=>xV (OW t t' && !OW o p) (match vV cf E,yE σ.ob o,yE σ.ob p with
   |some ⟨.l _,.sl _,B⟩,some (.mat s1 E1 F1 xss ix),some (.mat s2 E2 F2 yss iy)=>xV (OW E1 E && (OW E2 E && OW F1 F2))<|Ty.cast (.l (.l s2)) (.l (.l s1)) yss fun yss=>
    ck ((O9 ix+O9 iy)*B<=140737488355328)<|nm (HH (α:=List s1.D) xss yss) fun zss=>nm (ix++iy.map (O9 xss+ ·)) fun iz=>k ⟨σ.nx+1,xK σ.rg d [(0,.mw σ.nx)],(σ.nx,.mat s1 E1 F1 zss iz)::zD (zD σ.ob o) p⟩
   |_,_,_=>none)
  |_,_,_=>none)
 |_,_=>none
def Qz(σ:Sg)(d:Option Tmp)(s:KX)(ags:List Operand)(k:Sg->Option R):Option R:=match ags with
 |[x,a,p,y]=>(match yx cx σ x,pd cx σ a,pd cx σ p,yx cx σ y with
  |some (.rw o r),some ⟨.i,a⟩,some ⟨.i,p⟩,some (.mv o' lo n)=>xV (OW o o') (match yE σ.ob o with
   |some (.mat s1 E E1 xss ix)=>xV (OW E s.E && OW E1 s.E1)<|Ty.cast (.l (.l s1)) (.l (.l s.t)) xss fun xss=>
    bd (s.M xss ix r a p lo n) fun xss=>k ⟨σ.nx+1,Qw o σ.nx<|xK σ.rg d [],(σ.nx,.mat s.t E E1 xss ix)::zD σ.ob o⟩
   |_=>none)
  |_,_,_,_=>none)
 |_=>none
def eT(σ:Sg)(d:Option Tmp)(s:kg)(ags:List Operand)(k:Sg->Option R):Option R:=match ags with
 |x::xs=>(match yx cx σ x with
  |some (.mw o)=>(match yE σ.ob o with
   |some (.vr t' E' s' E1' n' i' z ys)=>xV (OW E' s.E && (OW E1' s.E1 && (OW n' s.n && OW i' s.i)))<|Ty.cast t' s.t z fun z=>Ty.cast (.l s') (.l s.s) ys fun ys=>
    Jl cx σ s.dom xs fun y=>bd (s.M z ys y) fun q=>k ⟨σ.nx+1,Qw o σ.nx<|xK σ.rg d [],(σ.nx,.vr s.t s.E s.s s.E1 s.n s.i q.1 q.2)::zD σ.ob o⟩
   |_=>none)
  |_=>none)
 |[]=>none
def ai(σ:Sg)(d:Option Tmp)(o:Nat)(ags:List Operand)(k:Sg->Option R):Option R:=match ags with
 |[x]=>(match yx cx σ x with
  |some (.ow p)=>xV (!OW o p) (match yE σ.ob o,yE σ.ob p with
   |some (.hid t E X Y mX mY g z),some (.own s E2 ys)=>xV (OW E2 E)<|Ty.cast (.l s) (.l t) ys fun ys=>
    bd (g ys z) fun r=>Sum.elim (fun x'=>k ⟨σ.nx+1,bD o σ.nx<|xK σ.rg d [(0,.kb true)],(σ.nx,.hid t E X Y mX mY g x')::zD (ve σ.ob p (.own t E2 r.1)) o⟩)
     (fun y'=>k ⟨σ.nx+1,bD o σ.nx<|xK σ.rg d [(0,.kb false)],(σ.nx,.hiy Y mY y')::zD (ve σ.ob p (.own t E2 r.1)) o⟩) r.2
   |_,_=>none)
  |_=>none)
 |_=>none
inductive NU
 |no
 |st (t:TypeId) (x y:Operand)
 |ma (t:TypeId) (x y:Operand)
 |lit (t:TypeId) (n:Nat) (ps:Array (Nat×Operand))
 |al (E:TypeId)
 |tk (t:TypeId) (o:Nat)
 |tv (t:TypeId) (o:Nat)
 |bz (t:TypeId) (ps:Array (Nat×Operand))
 |bx (E:TypeId) (x:Operand)
 |ap (ags:Array Operand) (ts:Array TypeId)
 |sk (s:KX) (ags:Array Operand)
 |vc (s:kg) (ags:Array Operand)
 |yl (o:Nat) (ags:Array Operand)
def MZ(σ:Sg)(d:Option Tmp):Op->NU
 |.store t x y=>bif ay (yx cx σ x)then .st t x y else .no
 |.makeSlice t x y=>bif ed cf d then .ma t x y else .no
 |.buildSlice t n ps=>bif ed cf d then .lit t n ps else .no
 |.alloc E=>bif ed cf d||(Qh cf d).isSome then .al E else .no
 |.build t ps=>bif (Qh cf d).isSome then .bz t ps else .no
 |.box E x=>bif (Qh cf d).isSome then .bx E x else .no
 |.load t x=>(match yx cx σ x with
  |some (.mw o)=> .tk t o
  |v=>(match Bs cf d,dy σ v with
   |false,some o=> .tv t o
   |_,_=> .no))
 |.call ⟨.builtin .append,ags,ts⟩=>bif ags.toList.any (fun x=>nL<|yx cx σ x)then .ap ags ts else .no
 |.call ⟨.value f,ags,_⟩=>(match yx cx σ f with
  |some (.yd o)=> .yl o ags
  |some (.fn f [])=>(match rQ cf.ms f with
   |some s=> .sk s ags
   |none=>(match sO cf.vg f with
    |some s=> .vc s ags
    |none=> .no))
  |_=> .no)
 |_=> .no
def NH(σ:Sg)(d:Option Tmp)(c:NU)(k:Sg->Option R)(k0:Option R):Option R:=match c with
 |.no=>k0
 |.st t x y=>xV d.isNone (match vV cf t with
  |some ti=>wV σ ti.ty (yx cx σ x) (yx cx σ y) k
  |none=>none)
 |.ma t x y=>fh cf cx σ d t x y k
 |.lit t n ps=>pY cf cx σ d t n ps.toList k
 |.al E=>UF cf σ d E k
 |.tk t o=>eR cf σ d t o k
 |.tv t o=>ef cf σ d t o k
 |.bz t ps=>K5 cf cx σ d t ps.toList k
 |.bx E x=>rH cf cx σ d E x k
 |.ap ags ts=>sJ cf cx σ d ags.toList ts.toList k
 |.sk s ags=>Qz cx σ d s ags.toList k
 |.vc s ags=>eT cx σ d s ags.toList k
 |.yl o ags=>ai cx σ d o ags.toList k
def mu(f:FuncId):List jo->Option jo
 |[]=>none
 |s::r=>match s.f,s.dom,s.cod,s.bk with
  |f',[.var _ _],[.var _ _],1=>bif OW f' f then some s else mu f r
  |_,_,_,_=>mu f r
def MG(σ:Sg)(d:Option Tmp)(s:jo)(o:Nat)(k:Sg->Option R):Option R:=match s,yE σ.ob o with
 |⟨_,[.var t E],[.var t2 E2],M,_⟩,some (.var s' E' y)=>xV (OW E E' && (OW E2 E && (Ty.same t t2).isSome))<|Ty.cast s' t y fun y=>bd (M (y,())) fun z=>k ⟨σ.nx,xK σ.rg d [],ve σ.ob o (.var t2 E2 z)⟩
 |_,_=>none
def Gw(σ:Sg)(d:Option Tmp)(op:Op)(k:Sg->Option R):Option R:=
 match op with
 |.alloc E=>dW cf σ d E k
 |.box E x=>Jw (Fe cf d) (Fv cf cx σ d E x k)<|mE cf cx σ d (.box E x) k
 |.store t x y=>xV d.isNone (match vV cf t with
  |some ti=>dY σ ti.ty (yx cx σ x) (yx cx σ y) k
  |none=>none)
 |.makeSlice t x y=>sU cf cx σ d t x y k
 |.buildSlice t n ps=>Ea cf cx σ d t n ps.toList k
 |.slice t x none (some hi) none=>(match yx cx σ x with
  |some (.ow o)=>fy cf cx σ d t o hi k
  |_=>mE cf cx σ d (.slice t x none (some hi) none) k)
 |.call ⟨.builtin .append,ags,ts⟩=>EH cf cx σ d ags.toList ts.toList k
 |.call ⟨.builtin .copy,ags,ts⟩=>oy cf cx σ d ags.toList ts.toList k
 |.call ⟨.value f,ags,ts⟩=>(match yx cx σ f with
  |some (.fn f' cs)=>(match fi cx σ f' ags.toList cf.cs with
   |some s=>DW cf cx σ d s ags.toList cs k
   |none=>mE cf cx σ d (.call ⟨.value f,ags,ts⟩) k)
  |some (.bm f' o t)=>(match ags.toList,mu f' cf.cs with
   |[],some s=>MG σ d s o k
   |_,_=>none)
  |_=>mE cf cx σ d (.call ⟨.value f,ags,ts⟩) k)
 |op=>mE cf cx σ d op k
def Nr(σ:Sg)(d:Option Tmp)(op:Op)(k:Sg->Option R):Option R:=NH cf cx σ d (MZ cf cx σ d op) k<|Gw cf cx σ d op k
def IC(σ:Sg):Op->Option Operand
 |.panic x=>some x
 |_=>none
def CJ(σ:Sg)(d:Option Tmp)(op:Op)(kp:PX->Sg->Option R)(k:Sg->Option R):Option R:=match BW cf cx σ op with
 |some (p,ags,cs)=>Gd cf cx σ d p ags cs kp k
 |none=>(match IC σ op with
  |some x=>(match yx cx σ x with
   |some (.ifc q)=>kp q σ
   |_=>none)
  |none=>Nr cf cx σ d op k)
def Um(σ:Sg)(t:Tmp)(b:Bool):Sg:=⟨σ.nx,xK σ.rg (some t) [(0,.kb b)],σ.ob⟩
def Xo(all:List Oper)(o:Oper)(σ:Sg)(k:Sg->Bool->Option R):Option R:=match o.guard with
 |none=>k σ true
 |some (j,want)=>match all[j]? with
  |some o'=>(match o'.dst with
   |some t=>(match get cx σ t 0 with
    |some (.kb b)=>k σ<|b==want
    |some .un=>k σ false
    |some (.d .b x)=>xV (qk cx.rg t)<|Mi x (k (Um σ t true)<|true==want) (k (Um σ t false)<|false==want)
    |_=>none)
   |none=>none)
  |none=>none
def V8(o:Oper)(σ:Sg)(k:Sg->Option R):Option R:=match o.op with
 |.pick (.tmp t) _ _=>(match get cx σ t 0 with
  |some (.d .b x)=>xV (qk cx.rg t)<|Mi x (k<|Um σ t true) (k<|Um σ t false)
  |_=>k σ)
 |_=>k σ
def lG(all:List Oper)(kp:PX->Sg->Option R):List Oper->Sg->(Sg->Option R)->Option R
 |[],σ,k=>k σ
 |o::r,σ,k=>xV (yJ cx o.dst)<|Xo cx all o σ fun σ w=>Jw w
  (V8 cx o σ fun σ=>(let σ:=BY cx σ<|En cf cx σ o.dst o.op;CJ cf cx σ o.dst o.op kp fun σ=>lG all kp r σ k))
  (lG all kp r (σ.put o.dst [(0,.un)]) k)
def pA(all:List Oper):List Oper->Sg->(Sg->Option R)->Option R
 |[],σ,k=>k σ
 |o::r,σ,k=>xV (yJ cx o.dst)<|Xo cx all o σ fun σ w=>Jw w
  (V8 cx o σ fun σ=>HJ cf cx σ o.op fun l=>xV (Gq σ.nx l)<|pA all r (σ.put o.dst l) k)
  (pA all r (σ.put o.dst [(0,.un)]) k)
def dd:List (Nat×Nat×Dv)->List (Nat×Nat×Dv)
 |[]=>[]
 |e::r=>e::(dd r).filter fun f=> !(OW e.1 f.1 && OW e.2.1 f.2.1)
structure Rb where
 a:Option Nat
 c:Option Nat
 rd:List Nat
 o:Nat
 x:Od
structure Oi where
 lo:Nat
 hi:Nat
 refs:List Nat
def ZJ(ts:List Tmp):List (Nat×Nat×Dv)->List Nat
 |[]=>[]
 |(t,_,v)::r=>(match ZG ts t,xz v with
  |true,some o=>o::ZJ ts r
  |_,_=>ZJ ts r)
def Wx:List (Nat×Dv)->List Nat
 |[]=>[]
 |(_,v)::r=>(match xz v with
  |some o=>o::Wx r
  |none=>Wx r)
def ZA(ts:List Tmp):List (Nat×Nat×Dv)->List (Nat×Nat×Dv)
 |[]=>[]
 |(t,i,v)::r=>(match ZG ts t with
  |true=>(t,i,v)::ZA ts r
  |false=>ZA ts r)
def Vs(d:Option Tmp)(rg:List (Nat×Nat×Dv)):List (Nat×Dv):=match d with
 |some t=>rg.filterMap fun e=>match OW e.1 t with
  |true=>some (e.2.1,e.2.2)
  |false=>none
 |none=>[]
def Yg(os:List Nat):List Rb->List (Nat×Od)
 |[]=>[]
 |r::rs=>match r.c,ZG os r.o with
  |none,true=>(r.o,r.x)::Yg os rs
  |_,_=>Yg os rs
def eh(i:Nat)(os:List Nat):List Rb->List Rb
 |[]=>[]
 |r::rs=>(match r.c,ZG os r.o with
  |none,true=>⟨r.a,some i,r.rd,r.o,r.x⟩
  |_,_=>r)::eh i os rs
def tN(i:Nat)(os:List Nat):List Rb->List Rb
 |[]=>[]
 |r::rs=>(match r.c,ZG os r.o with
  |none,true=>⟨r.a,none,i::r.rd,r.o,r.x⟩
  |_,_=>r)::tN i os rs
def mb(i:Nat)(ob:List (Nat×Od)):List Rb:=ob.map fun e=>⟨some i,none,[],e.1,e.2⟩
def H4(ob:List (Nat×Od)):List Rb:=ob.map fun e=>⟨none,none,[],e.1,e.2⟩
def dB:List Rb->List (Nat×Od)
 |[]=>[]
 |r::rs=>match r.c with
  |none=>(r.o,r.x)::dB rs
  |some _=>dB rs
def Oo(n:Nat)(ob:List (Nat×Od)):Bool:=ob.all fun e=>RA e.1 n
def Qg(σ:Sg):List Nat->Sg
 |[]=>σ
 |o::r=>Qg (aR σ o) r
def nS:List RM->Bool
 |[]=>true
 |.own _ _::_=>false
 |.var _ _::_=>false
 |_::r=>nS r
def De(σ:Sg)(b:Bool)(d:Option Tmp):Op->Bool
 |.alloc _=>true
 |.store _ _ _=>true
 |.makeSlice _ _ _=>true
 |.buildSlice _ _ _=> !b
 |.box _ _=>Fe cf d||(Qh cf d).isSome
 |.build _ _=>(Qh cf d).isSome
 |.load _ x=>nL (yx cx σ x)||(!Bs cf d && (dy σ<|yx cx σ x).isSome)
 |.slice _ x none (some _) none=>(match yx cx σ x with
  |some (.ow _)=>true
  |_=>false)
 |.call ⟨.builtin .append,_,_⟩=>true
 |.call ⟨.builtin .copy,_,_⟩=>true
 |.call ⟨.value f,ags,_⟩=>(match yx cx σ f with
  |some (.fn f' _)=>(match fi cx σ f' ags.toList cf.cs with
   |some s=> !(QJ s.dom)||(!b && !(nS s.cod))
   |none=>(rQ cf.ms f').isSome||(sO cf.vg f').isSome)
  |some (.yd _)=>true
  |some (.bm _ _ _)=>true
  |_=>false)
 |_=>false
def Ny(fz:List Nat):Option Tmp->Bool
 |some t=>ZG fz t
 |none=>false
def If(b:Bool)(d:Option Tmp)(τ:Sg):Sg:=match b with
 |true=>Qg τ<|Wx<|Vs d τ.rg
 |false=>τ
def Db(τ:Sg)(d:Option Tmp)(k:List (Nat×Dv)->Nat->List (Nat×Od)->Option R):Option R:=xV (Gq τ.nx (Vs d τ.rg) && Oo τ.nx τ.ob)<|k (Vs d τ.rg) τ.nx τ.ob
def DD(os:List Nat):Op->List Nat
 |.move _=>[]
 |.assign _=>[]
 |_=>os
def Dr(all:List Oper)(pn:Option (Nat×PX))(i:Nat):Bool:=match pn with
 |some (i0,_)=>xD all 16 i i0
 |none=>false
def bO(all:List Oper)(fz:List Nat):Option (Nat×PX)->List Oper->Nat->Sg->List Rb->List Oi->(Option (Nat×PX)->Sg->List Rb->List Oi->Option R)->Option R
 |pn,[],_,σ,rs,is,k=>k pn σ rs is
 |pn,o::r,i,σ,rs,is,k=>xV (yJ cx o.dst)<|Jw (Dr all pn i) (bO all fz pn r (i+1) (σ.put o.dst []) rs (is++[⟨σ.nx,σ.nx,[]⟩]) k)<|Xo cx all o σ fun σ w=>Jw w
  (V8 cx o σ fun σ=>Jw (De cf cx ⟨σ.nx,σ.rg,Yg (ZJ (Pt all.toArray o) σ.rg) rs⟩ (Ny fz o.dst) o.dst o.op||(BW cf cx σ o.op).isSome)
   (CJ cf ⟨0,[],cx.ob⟩ ⟨σ.nx,dd<|ZA (Pt all.toArray o)<|σ.rg++cx.rg,Yg (ZJ (Pt all.toArray o) σ.rg) rs⟩ o.dst o.op (fun q _=>match pn with
    |some _=>none
    |none=>bO all fz (some (i,q)) r (i+1) (σ.put o.dst []) (eh i (ZJ (Pt all.toArray o) σ.rg) rs) (is++[⟨σ.nx,σ.nx,[]⟩]) k) fun τ=>
    Db (If (Ny fz o.dst) o.dst τ) o.dst fun l n ob=>bO all fz pn r (i+1) ⟨n,xK σ.rg o.dst l,[]⟩ (eh i (ZJ (Pt all.toArray o) σ.rg) rs++mb i ob) (is++[⟨σ.nx,n,Wx l⟩]) k)
   (HJ cf cx ⟨σ.nx,σ.rg,Yg (DD (ZJ (Pt all.toArray o) σ.rg) o.op) rs⟩ o.op fun l=>xV (Gq σ.nx l)<|bO all fz pn r (i+1) (σ.put o.dst l) (tN i (DD (ZJ (Pt all.toArray o) σ.rg) o.op) rs) (is++[⟨σ.nx,σ.nx,Wx l⟩]) k))
  (bO all fz pn r (i+1) (σ.put o.dst [(0,.un)]) rs (is++[⟨σ.nx,σ.nx,[]⟩]) k)
def Mh(I:Oi)(o:Nat):Bool:=Tv I.lo o && RA o I.hi
def BA(l:List Oper)(i:Nat)(I:Oi)(rs:List Rb)(js:List (Oi×Nat)):Bool:=
 (rs.all fun r=> !Mh I r.o||(match r.a with
  |some j=>OW j i||xD l 16 j i
  |none=>false)) && js.all fun J=>J.1.refs.all fun p=> !Mh I p||OW J.2 i||xD l 16 J.2 i
def Av(l:List Oper)(m:Nat)(rs:List Rb)(is:List Oi):Bool:=
 (rs.all fun r=>(match r.a with
  |some j=>RA j m && r.rd.all fun i=>xD l 16 i j
  |none=>true) && (match r.c with
  |some k=>RA k m && (match r.a with
   |some j=>xD l 16 k j
   |none=>true) && r.rd.all fun i=>xD l 16 k i
  |none=>true)) &&
 (is.zipIdx.all fun J=>BA l J.2 J.1 rs is.zipIdx) &&
 (P4 m).all fun i=>(P4 m).all fun j=>OW i j||(match(zt l i).dst with
  |some t=> !((zt l j).dst==some t)
  |none=>true)
def eZ(l:List Oper):Nat->Nat->Nat
 |0,m=>m
 |f+1,m=>bif RA 1 m && jq l (m-1)then eZ l f (m-1)else m
def Eo(al:List (Nat×Operand)):Operand->Operand
 |.tmp t=>(match uu al t with
  |some x=>x
  |none=> .tmp t)
 |x=>x
def IJ(al:List (Nat×Operand))(o:Oper):List (Nat×Operand):=match o.op,o.dst with
 |.move x,some d=>(d,Eo al x)::al
 |.assign x,some d=>(d,Eo al x)::al
 |_,_=>al
def CK:List Oper->List (Nat×Operand)->Sg->Sg
 |[],_,σ=>σ
 |o::r,al,σ=>CK r (IJ al o)<|BY cx σ<|(En cf cx σ o.dst o.op).map<|Eo al
def GA(id:Nat):List Nat:=match uu cf.an.dz id with
 |some l=>l
 |none=>[]
def A8(l:List Oper):List Nat:=l.filterMap (·.dst)
def JL:List Rb->List (Nat×Od)
 |[]=>[]
 |r::rs=>(match r.a,r.c with
  |none,none=>(r.o,r.x)::JL rs
  |_,_=>JL rs)
def Ec(id:Nat)(l:List Oper)(m:Nat)(σ:Sg)(kp:PX->Sg->Option R)(k:Sg->Option R):Option R:=
 let fz:=GA cf id
 let σ0:=Qg σ<|ZJ fz σ.rg
 bO cf cx l fz none (l.take m) 0 ⟨σ0.nx,σ0.rg,[]⟩ (H4 σ0.ob) [] fun pn σ rs is=>xV (Av l m rs is)<|match pn with
  |none=>lG cf cx l kp (l.drop m) ⟨σ.nx,dd σ.rg,dB rs⟩ k
  |some (_,q)=>kp q ⟨σ.nx,σ0.rg.filter<|fun e=> !ZG (A8<|l.take m) e.1,JL rs⟩
def IV(id:Nat):Bool:=match uu cf.an.dz id with
 |some _=>true
 |none=>false
def oQ(id:Nat)(l:List Oper)(draw:Bool)(σ:Sg)(kp:PX->Sg->Option R)(k:Sg->Option R):Option R:=
 Jw draw
  (let m:=eZ l l.length l.length
  xV (jq l m)<|Jw (IV cf id) (Ec cf cx id l m σ kp k) (pA cf cx l (l.take m) (CK cf cx (l.take m) [] σ) fun σ=>lG cf cx l kp (l.drop m) ⟨σ.nx,dd σ.rg,σ.ob⟩ k))
  (lG cf cx l kp l σ k)
def kq:List (Nat×TF)->Type
 |[]=>Unit
 |[a]=>a.2.D
 |a::b::r=>a.2.D×kq (b::r)
def Yf(σ:Sg)(ds:List (Nat×TF))(t:Nat)(f:TF)(k:f.D->List Nat->Option R):Option R:=match f,k with
 |.d s,k=>Vz (get cx σ t 0) s fun y=>k y []
 |.q s,k=>(match get cx σ t 0 with
  |some (.q s' x)=>Ty.cast s' s x fun y=>k y []
  |_=>none)
 |.own s E,k=>(match get cx σ t 0 with
  |some (.ow o)=>(match yE σ.ob o with
   |some (.own s' E' xs)=>xV (OW E E')<|Ty.cast (.l s') (.l s) xs fun y=>k y [o]
   |_=>none)
  |some .nil=>k ([]:List s.D) []
  |_=>none)
 |.var s E,k=>(match get cx σ t 0 with
  |some (.vs o _)=>(match yE σ.ob o with
   |some (.var s' E' z)=>xV (OW E E')<|Ty.cast s' s z fun y=>k y [o]
   |_=>none)
  |_=>none)
 |.mat s E E1,k=>(match get cx σ t 0 with
  |some (.mw o)=>(match yE σ.ob o with
   |some (.mat s' E' F' xss ix)=>xV (OW E E' && OW E1 F')<|Ty.cast (.l (.l s')) (.l (.l s)) xss fun y=>k (y,ix) [o]
   |_=>none)
  |some .nil=>k (([],[]):List (List s.D)×List Nat) []
  |_=>none)
 |.matv s E E1,k=>(match get cx σ t 0 with
  |some (.mv o lo n)=>(match yE σ.ob o with
   |some (.mat s' E' F' xss ix)=>xV (OW E E' && OW E1 F')<|Ty.cast (.l (.l s')) (.l (.l s)) xss fun y=>k ((y,ix),(lo,n)) [o]
   |_=>none)
  |_=>none)
 |.row j,k=>(match get cx σ t 0,ds[j]? with
  |some (.rw o r),some (s,.mat _ _ _)=>(match get cx σ s 0 with
   |some (.mw o')=>xV (OW o o')<|k r []
   |_=>none)
  |some (.rw o r),some (s,.matv _ _ _)=>(match get cx σ s 0 with
   |some (.mv o' _ _)=>xV (OW o o')<|k r []
   |_=>none)
  |_,_=>none)
 |.view j,k=>(match get cx σ t 0,ds[j]? with
  |some (.mv o lo n),some (s,.mat _ _ _)=>(match get cx σ s 0 with
   |some (.mw o')=>xV (OW o o')<|k (lo,n) []
   |_=>none)
  |some (.mv o lo n),some (s,.matv _ _ _)=>(match get cx σ s 0 with
   |some (.mv o' _ _)=>xV (OW o o')<|k (lo,n) []
   |_=>none)
  |_,_=>none)
 |.vr s E s2 E1 n i,k=>(match get cx σ t 0 with
  |some (.mw o)=>(match yE σ.ob o with
   |some (.vr s' E' s2' F' n' i' z xs)=>xV (OW E E' && (OW E1 F' && (OW n n' && OW i i')))<|Ty.cast s' s z fun z=>Ty.cast (.l s2') (.l s2) xs fun xs=>k (z,xs) [o]
   |_=>none)
  |_=>none)
 |.bo s E E0,k=>(match get cx σ t 0 with
  |some (.mw o)=>(match yE σ.ob o with
   |some (.bo s' E' F' xs)=>xV (OW E E' && OW E0 F')<|Ty.cast (.l s') (.l s) xs fun y=>k y [o]
   |_=>none)
  |_=>none)
def Qc(os:List Nat):List Nat->Bool
 |[]=>true
 |o::r=> !ZG os o && Qc os r
def MQ(σ:Sg)(ds:List (Nat×TF)):(l:List (Nat×TF))->(kq l->List Nat->Option R)->Option R
 |[],k=>k () []
 |[a],k=>Yf cx σ ds a.1 a.2 k
 |a::b::r,k=>Yf cx σ ds a.1 a.2 fun x o=>MQ σ ds (b::r) fun y os=>xV (Qc os o)<|k (x,y) (o++os)
def B8(σ:Sg):List (Nat×NF)->Bool
 |[]=>true
 |(t,f)::r=>(match f,get cx σ t 0 with
  |.kb b,some (.kb c)=>b==c
  |.nil,some .nil=>true
  |.ci x,some (.d .i y)=>HF x y
  |.cu x,some (.d .u y)=>MY x y
  |.al s,some (.ow o)=>(match get cx σ s 0 with
   |some (.ow o')=>OW o o'
   |_=>false)
  |.al s,some (.vs o _)=>(match get cx σ s 0 with
   |some (.vs o' _)=>OW o o'
   |_=>false)
  |.al s,some (.mw o)=>(match get cx σ s 0 with
   |some (.mw o')=>OW o o'
   |_=>false)
  |.bm s f,some (.bm f' o _)=>(match get cx σ s 0 with
   |some (.vs o' _)=>OW o o' && OW f f'
   |_=>false)
  |_,_=>false) && B8 σ r
def Jy(n0 o:Nat)(f:TF)(x:f.D):Dv×Option Od:=match f,x with
 |.d t,x=>(.d t x,none)
 |.q t,x=>(.q t x,none)
 |.own t E,x=>(.ow o,some (.own t E x))
 |.var t E,x=>(.vs o t,some (.var t E x))
 |.mat t E E1,x=>(.mw o,some (.mat t E E1 x.1 x.2))
 |.matv t E E1,x=>(.mv o x.2.1 x.2.2,some (.mat t E E1 x.1.1 x.1.2))
 |.row j,r=>(.rw (n0+j) r,none)
 |.view j,r=>(.mv (n0+j) r.1 r.2,none)
 |.bo t E E0,x=>(.mw o,some (.bo t E E0 x))
 |.vr t E s E1 n i,x=>(.mw o,some (.vr t E s E1 n i x.1 x.2))
def Y5(n0:Nat):(l:List (Nat×TF))->kq l->Nat->List (Nat×Nat×Dv)×List (Nat×Od)
 |[],_,_=>([],[])
 |[a],x,o=>let v:=Jy n0 o a.2 x
  ([(a.1,0,v.1)],match v.2 with
   |some y=>[(o,y)]
   |none=>[])
 |a::b::r,x,o=>let v:=Jy n0 o a.2 x.1
  let y:=Y5 n0 (b::r) x.2<|o+1
  ((a.1,0,v.1)::y.1,match v.2 with
   |some q=>(o,q)::y.2
   |none=>y.2)
def UB(rg:List (Nat×Nat×Dv)):List (Nat×NF)->List (Nat×Nat×Dv)
 |[]=>rg
 |(t,f)::r=>(match f with
  |.kb b=>[(t,0,.kb b)]
  |.nil=>[(t,0,.nil)]
  |.ci x=>[(t,0,.d .i x)]
  |.cu x=>[(t,0,.d .u x)]
  |.al s=>(match Y3 rg s 0 with
   |some v=>[(t,0,v)]
   |none=>[])
  |.bm s f=>(match Y3 rg s 0 with
   |some (.vs o q)=>[(t,0,.bm f o q)]
   |_=>[]))++UB rg r
def kP(sh:Sh)(x:kq sh.ds)(kp:Sg):Sg:=
 let y:=Y5 kp.nx sh.ds x kp.nx
 ⟨kp.nx+sh.ds.length,UB y.1 sh.ns++y.1++kp.rg,y.2++kp.ob⟩
def Ah(σ:Sg):List (Nat×TF)->Sg
 |[]=>σ
 |(t,.d _)::r=>Ah (Hf cx σ (.tmp t)) r
 |_::r=>Ah σ r
def ZD(sh:Sh)(σ:Sg)(k:kq sh.ds->Option R):Option R:=let σ:=Ah cx σ sh.ds
 xV (B8 cx σ sh.ns)<|MQ cx σ sh.ds sh.ds fun x _=>k x
def eD(a:Tg×Sh):Type:=match a.1 with
 |.p _=>PX×kq a.2.ds
 |_=>kq a.2.ds
def Ee:List (Tg×Sh)->Type
 |[]=>Empty
 |[a]=>eD a
 |a::b::r=>eD a⊕Ee (b::r)
def dZ:Tg->Tg->Bool
 |.n,.n=>true
 |.x i,.x j=>OW i j
 |.r,.r=>true
 |.p _,.p _=>true
 |_,_=>false
def ED(σ:Sg)(t:Tg):(a:Tg×Sh)->(eD a->Option R)->Option R
 |(.p _,sh),k=>(match t with
  |.p q=>ZD cx sh σ fun x=>k (q,x)
  |_=>none)
 |(.n,sh),k=>ZD cx sh σ k
 |(.x _,sh),k=>ZD cx sh σ k
 |(.r,sh),k=>ZD cx sh σ k
def nN(kp:Sg)(K:Tg->Sg->Option R):(a:Tg×Sh)->eD a->Option R
 |(.p _,sh)=>fun x=>K (.p x.1)<|kP sh x.2 kp
 |(.n,sh)=>fun x=>K .n<|kP sh x kp
 |(.x i,sh)=>fun x=>K (.x i)<|kP sh x kp
 |(.r,sh)=>fun x=>K .r<|kP sh x kp
def rm(σ:Sg)(t:Tg):(l:List (Tg×Sh))->(Ee l->Option R)->Option R
 |[],_=>none
 |[a],k=>xV (dZ a.1 t)<|ED cx σ t a k
 |a::b::r,k=>Jw (dZ a.1 t) (ED cx σ t a fun x=>k (.inl x))<|rm σ t (b::r) fun y=>k (.inr y)
def dm(kp:Sg)(K:Tg->Sg->Option R):(l:List (Tg×Sh))->Ee l->Option R
 |[]=>fun _=>none
 |[a]=>fun x=>nN kp K a x
 |a::b::r=>fun x=>Sum.elim (α:=eD a) (β:=Ee (b::r)) (fun x=>nN kp K a x) (dm kp K (b::r)) x
def Ju:Code->List Nat
 |.region _ ops _=>ops.toList.filterMap (·.dst)
 |.seq a b=>Ju a++Ju b
 |.cond _ a b=>Ju a++Ju b
 |.block _ c=>Ju c
 |.loop c=>Ju c
 |.scope c=>Ju c
 |.rangeFunc _ ps a c=>ps.toList++(Ju a++Ju c)
 |_=>[]
def mG:Code->Option Nat
 |.region i _ _=>some i
 |.seq a b=>(match mG a with
  |some i=>some i
  |none=>mG b)
 |.cond _ a b=>(match mG a with
  |some i=>some i
  |none=>mG b)
 |.block _ c=>mG c
 |.loop c=>mG c
 |.scope c=>mG c
 |.rangeFunc _ _ a c=>(match mG a with
  |some i=>some i
  |none=>mG c)
 |_=>none
def DS:Option Nat->Nat
 |some i=>i+1
 |none=>0
def AQ:Code->Bool
 |.loop _=>true
 |.seq a _=>AQ a
 |.block _ c=>AQ c
 |.scope c=>AQ c
 |_=>false
def Oj(c:Code):Option Nat:=match mG c with
 |some i=>some<|bif AQ c then i+40000 else i
 |none=>none
def MX(a b:Code):Nat:=DS (mG a)*65536+DS (mG b)
def Ko(σ:Sg):List Nat->List Nat
 |[]=>[]
 |t::r=>match Y3 σ.rg t 0 with
  |some v=>(match xz v with
   |some o=>o::Ko σ r
   |none=>Ko σ r)
  |none=>Ko σ r
def tS(ags ko:List Nat)(e:Nat×Nat×Dv):Bool:= !ZG ags e.1 && (match xz e.2.2 with
 |some o=>ZG ko o
 |none=>true)
def keep(σ:Sg)(ags ro:List Nat):Sg:=let ko:=Ko σ ro
 ⟨σ.nx,σ.rg.filter<|tS ags ko,σ.ob.filter fun e=>ZG ko e.1⟩
def rest(σ:Sg)(ags ro:List Nat):Sg:=let ko:=Ko σ ro
 ⟨σ.nx,σ.rg.filter<|fun e=> !tS ags ko e,σ.ob.filter fun e=> !ZG ko e.1⟩
def xW(cx kp:Sg):Sg:=⟨kp.nx,kp.rg++cx.rg,kp.ob++cx.ob⟩
def ZU:List (Nat×TF)->Bool
 |[]=>true
 |(_,.own _ _)::r=>ZU r
 |(_,.var _ _)::r=>ZU r
 |(_,.mat _ _ _)::r=>ZU r
 |(_,.bo _ _ _)::r=>ZU r
 |_=>false
def Vv:List (Nat×TF)->Nat->List (Nat×Nat×Dv)
 |[],_=>[]
 |(t,.mat _ _ _)::r,n=>(t,0,.mw n)::Vv r (n+1)
 |(t,.bo _ _ _)::r,n=>(t,0,.mw n)::Vv r (n+1)
 |(t,_)::r,n=>(t,0,.ow n)::Vv r (n+1)
def J7{a:Nat×TF}:{l:List (Nat×TF)}->a.2.D->kq l->kq (a::l)
 |[],y,_=>y
 |_::_,y,x=>(y,x)
def Y6{a:Nat×TF}:{l:List (Nat×TF)}->kq (a::l)->a.2.D×kq l
 |[],z=>(z,())
 |_::_,z=>z
def vv(pt:Nat)(t:Ty)(E:TypeId)(ds:List (Nat×TF)):Sh:=⟨(pt,.own t E)::ds,[]⟩
def oh(ds:List (Nat×TF))(t:Nat):Bool:=ds.all fun e=> !OW e.1 t
def sS:List (Nat×TF)->Bool
 |[]=>true
 |e::r=>oh r e.1 && sS r
def L8(cx':Sg)(n:Nat)(sh:Sh):Sg:=⟨n+sh.ds.length,Vv sh.ds n++cx'.rg,cx'.ob⟩
def Gi(cp:Sg)(ds:List (Nat×TF))(t:Ty)(E:TypeId)(pt:Nat)(τ:Tg)(q:Tg)(σ:Sg):Option (List t.D×(kq ds⊕kq ds)):=match q with
 |.n=>ZD cp (vv pt t E ds) σ fun z=>some ((Y6 z).1,.inl (Y6 z).2)
 |.x i=>xV (dZ τ (.x i))<|ZD cp (vv pt t E ds) σ fun z=>some ((Y6 z).1,.inr (Y6 z).2)
 |.r=>xV (dZ τ .r)<|ZD cp (vv pt t E ds) σ fun z=>some ((Y6 z).1,.inr (Y6 z).2)
 |.p _=>none
def LL(cx':Sg)(n:Nat)(ds:List (Nat×TF))(t:Ty)(E:TypeId)(pt:Nat)(τ:Tg)
 (ea ec:Sg->Sg->(Tg->Sg->Option (List t.D×(kq ds⊕kq ds)))->Option (List t.D×(kq ds⊕kq ds))) (ys:List t.D) (x:kq ds):Option (List t.D×(kq ds⊕kq ds)):=
 ea (L8 cx' n<|vv pt t E ds) (kP (vv pt t E ds) (J7 (a:=(pt,.own t E)) ys x) ⟨n,[],[]⟩) fun q σ=>match q with
  |.n=>ec (L8 cx' n<|vv pt t E ds) σ<|Gi (L8 cx' n<|vv pt t E ds) ds t E pt τ
  |_=>none
def MO:Tg->Bool
 |.p _=>true
 |_=>false
def fg{R:Type}(cx σ:Sg)(K:Tg->Sg->Option R)(s:Lp)(it:UQ)(y:uC it.dom)(τ:Tg)(pt:Nat)(ags:List Nat)
 (ea ec:Sg->Sg->(Tg->Sg->Option (List it.t.D×(kq s.hd.ds⊕kq s.hd.ds)))->Option (List it.t.D×(kq s.hd.ds⊕kq s.hd.ds))):Option R:=
 let kp:=keep σ ags s.sg.ro
 let cx':=xW cx kp
 xV (ZU s.hd.ds && (!MO τ && sS (vv pt it.t it.E s.hd.ds).ds && qk cx'.rg pt))<|ZD cx' s.hd (rest σ ags s.sg.ro) fun x=>
  bd (it.M (X:=kq s.hd.ds) (Y:=kq s.hd.ds) y (LL cx' kp.nx s.hd.ds it.t it.E pt τ ea ec) x) fun r=>Sum.elim (fun x=>K .n<|kP s.hd x kp) (fun x=>K τ<|kP s.hd x kp) r
def KZ:Code->Bool
 |.seq a b=>KZ a && KZ b
 |.cond _ a b=>KZ a && KZ b
 |.block _ c=>KZ c
 |.loop c=>KZ c
 |.scope c=>KZ c
 |.rangeFunc _ _ _ _=>false
 |_=>true
end
def YM(cf:Cf):Code->{R:Type}->Sg->Sg->(Tg->Sg->Option R)->Option R
 |.skip,_,cx,σ,K=>K .n σ
 |.label _,_,cx,σ,K=>K .n σ
 |.exit id,_,cx,σ,K=>K (.x id) σ
 |.ret,_,cx,σ,K=>K .r σ
 |.scope c,_,cx,σ,K=>YM cf c cx σ K
 |.region i ops dr,_,cx,σ,K=>oQ cf cx i ops.toList dr σ (fun q σ=>K (.p q) σ) fun σ=>K .n σ
 |.cond c a b,_,cx,σ,K=>(match yx cx σ c with
  |some (.kb true)=>YM cf a cx σ K
  |some (.kb false)=>YM cf b cx σ K
  |some (.d .b x)=>Mi x (YM cf a cx σ K)<|YM cf b cx σ K
  |_=>none)
 |.block id c,_,cx,σ,K=>YM cf c cx σ fun t σ=>match t with
  |.x j=>Jw (OW j id) (K .n σ)<|K (.x j) σ
  |t=>K t σ
 |.seq a b,_,cx,σ,K=>
  (match uu cf.an.jn (MX a b)with
  |none=>YM cf a cx σ fun t σ=>(match t with
   |.n=>YM cf b cx σ K
   |t=>K t σ)
  |some s=>
   let ags:=Ju a
   let kp:=keep σ ags s.ro
   bd (YM cf a (xW cx kp) (rest σ ags s.ro) fun t σ=>rm (xW cx kp) σ t s.tg some) fun x=>
    dm kp (fun t σ=>match t with
     |.n=>YM cf b cx σ K
     |t=>K t σ) s.tg x)
 |.loop c,_,cx,σ,K=>
  (match(match Oj c with
   |some i=>uu cf.an.lp i
   |none=>none)with
  |none=>none
  |some s=>
   let ags:=Ju c
   let kp:=keep σ ags s.sg.ro
   let cx':=xW cx kp
   ZD cx' s.hd (rest σ ags s.sg.ro) fun x=>
    bd (zn (fun L x=>YM cf c cx' (kP s.hd x ⟨kp.nx,[],[]⟩) fun t σ=>match t with
     |.n=>ZD cx' s.hd σ L
     |t=>rm cx' σ t s.sg.tg some) cf.fu x) fun x=>dm kp K s.sg.tg x)
 |.rangeFunc g ps a c,_,cx,σ,K=>
  (match yx cx σ g,(match mG c with
   |some i=>uu cf.an.lp i
   |none=>none),ps.toList with
  |some (.fn f cs),some s,[pt]=>(match BO cf.is f,s.sg.tg,s.hd.ns with
   |some it,[(τ,_)],[]=>(match ZI it.dom cs with
    |some y=>xV (KZ a && KZ c)<|fg cx σ K s it y τ pt (pt::(Ju a++Ju c)) (fun cx σ K=>YM cf a cx σ K) (fun cx σ K=>YM cf c cx σ K)
    |none=>none)
   |_,_,_=>none)
  |_,_,_=>none)
 |_,_,_,_,_=>none
def qg:(dom:List AM)->uC dom->Nat->List (Nat×Nat×Dv)×List (Nat×Od)
 |[],_,_=>([],[])
 |.d t::r,x,i=>let y:=qg r x.2 (i+1)
  ((i,0,.d t x.1)::y.1,y.2)
 |.q t::r,x,i=>let y:=qg r x.2 (i+1)
  ((i,0,.q t x.1)::y.1,y.2)
 |.own t E::r,x,i=>let y:=qg r x.2 (i+1)
  ((i,0,.ow i)::y.1,(i,.own t E x.1)::y.2)
 |.var t E::r,x,i=>let y:=qg r x.2 (i+1)
  ((i,0,.vs i t)::y.1,(i,.var t E x.1)::y.2)
 |.fn dom cod::r,x,i=>let y:=qg r x.2 (i+1)
  ((i,0,.fp dom cod x.1)::y.1,y.2)
def VP{R:Type}(cf:Cf)(σ:Sg)(r:ResultVar)(m:RM)(k:m.D->List Nat->Option R):Option R:=match r,m,k with
 |.tmp t,.d s,k=>Vz (get ⟨0,[],[]⟩ σ t 0) s fun y=>k y []
 |.tmp t,.own s E,k=>Yf ⟨0,[],[]⟩ σ [] t (.own s E) k
 |.tmp t,.var s E,k=>Yf ⟨0,[],[]⟩ σ [] t (.var s E) k
 |.cell t E,.d s,k=>(match get ⟨0,[],[]⟩ σ t 0,vV cf E with
  |some (.vs o _),some ti=>(match yE σ.ob o with
   |some (.var s' E' z)=>xV (OW E E')<|Ty.cast s' ti.ty z fun z=>Ty.cast ti.ty s z fun y=>k y [o]
   |_=>none)
  |_,_=>none)
 |_,_,_=>none
def Vq{R:Type}(cf:Cf)(σ:Sg):List ResultVar->(cod:List RM)->(uE cod->List Nat->Option R)->Option R
 |[],[],k=>k () []
 |[v],[m],k=>VP cf σ v m k
 |v::v'::vs,m::m'::ms,k=>VP cf σ v m fun x o=>Vq cf σ (v'::vs) (m'::ms) fun y os=>xV (Qc os o)<|k (x,y) (o++os)
 |_,_,_=>none
def aD(N:Nat):Code->Bool
 |.region _ ops _=>ops.toList.all fun o=>xr N o.dst
 |.seq a b=>aD N a && aD N b
 |.cond _ a b=>aD N a && aD N b
 |.block _ c=>aD N c
 |.loop c=>aD N c
 |.scope c=>aD N c
 |.rangeFunc _ ps a c=>(ps.toList.all fun p=>RA p N) && (aD N a && aD N c)
 |_=>true
def ki(σ:Sg):List ResultVar->List RM->Sg
 |.tmp t::vs,.d _::ms=>ki (Hf ⟨0,[],[]⟩ σ (.tmp t)) vs ms
 |_::vs,_::ms=>ki σ vs ms
 |_,_=>σ
def mU(cf:Cf)(fn:Func)(dom:List AM)(cod:List RM)(x:uC dom):Option (uE cod):=match fn.body with
 |some c=>xV (aD fn.ntmps c && Tv dom.length fn.ntmps)<|
  let y:=qg dom x 0
  YM cf c ⟨0,[],[]⟩ ⟨dom.length,y.1,y.2⟩ fun t σ=>(match t with
   |.r=>Vq cf (ki σ fn.results.toList cod) fn.results.toList cod fun y _=>some y
   |.n=>Vq cf (ki σ fn.results.toList cod) fn.results.toList cod fun y _=>some y
   |_=>none)
 |none=>none
def YX:List AM->Nat->List ResultVar
 |[],_=>[]
 |.own _ _::r,i=> .tmp i::YX r (i+1)
 |.var _ _::r,i=> .tmp i::YX r (i+1)
 |_::r,i=>YX r<|i+1
def WY(pn:Nat->Value):List AM->Nat->List (Nat×Nat×Dv)
 |[],_=>[]
 |.own _ _::r,i=>(i,0,.pin<|pn i)::WY pn r (i+1)
 |.var _ _::r,i=>(i,0,.pin<|pn i)::WY pn r (i+1)
 |_::r,i=>WY pn r<|i+1
def BE(cf:Cf)(fn:Func)(dom:List AM)(cod:List RM)(bk:Nat)(pn:Nat->Value)(x:uC dom):Option (uE cod):=match fn.body with
 |some c=>xV (aD fn.ntmps c && Tv dom.length fn.ntmps && OW (fn.results.toList.length+bk) cod.length && OW (YX dom 0).length bk && RA 0 bk)<|
  let y:=qg dom x 0
  let rv:=fn.results.toList++YX dom 0
  YM cf c ⟨0,WY pn dom 0,[]⟩ ⟨dom.length,y.1,y.2⟩ fun t σ=>(match t with
   |.r=>Vq cf (ki σ rv cod) rv cod fun y _=>some y
   |.n=>Vq cf (ki σ rv cod) rv cod fun y _=>some y
   |_=>none)
 |none=>none
end
section
def Zn(p:Prop):FF where
 p _ _:=p
 keep h _:=h
 sub h _:=h
def JH:List PD->List Value->List FF
 |c::cs,v::vs=>fP c.t.rep c.x v::JH cs vs
 |_,_=>[]
def Ai:(ts:List Ty)->Xi ts->List Value->List FF
 |[],_,_=>[]
 |t::ts,x,vs=>fV t.rep x.1 (vs.headD undef)::Ai ts x.2 vs.tail
def DM:(ts:List Ty)->Km ts->List Value->List FF
 |[],_,_=>[]
 |[t],x,vs=>[fV t.rep x<|vs.headD undef]
 |t::s::r,x,vs=>fV t.rep x.1 (vs.headD undef)::DM (s::r) x.2 vs.tail
def EI(P:Program)(fid:FuncId)(Zt:List Value)(FG:List FF)(dom cod:List Ty)(g:Xi dom->Option (Km cod)):Prop:=
 Y1 P fid=true/\∀(x:Xi dom) (r:Km cod),g x=some r->∀vs:List Value,vs.length=dom.length->
  Fn P fid (vs++Zt).toArray (Ai dom x vs++FG) wQ (fun us=>DM cod r us) (fun us=>us.length=cod.length)
def LZ(P:Program)(dom cod:List Ty)(g:Xi dom->Option (Km cod))(v:Value):FF where
 p S w:=∃fid Zt FG,v=.func (.func fid) #[] Zt.toArray/\EI P fid Zt FG dom cod g/\ze S FG w
 keep:=by rintro S w w' ⟨fid,Zt,FG,h1,h2,h3⟩ k;exact⟨fid,Zt,FG,h1,h2,ze.keep k h3⟩
 sub:=by rintro S S' w ⟨fid,Zt,FG,h1,h2,h3⟩ k;exact⟨fid,Zt,FG,h1,h2,ze.sub k h3⟩
def OB(P:Program):(a:AM)->a.D->Value->FF
 |.d t,x,v=>fV t.rep x v
 |.q t,x,v=>fP t.rep x v
 |.own _ _,_,_=>Zn True
 |.var _ _,_,v=>Zn (∃b,v=.pointer (some ⟨b,0,none⟩))
 |.fn dom cod,g,v=>LZ P dom cod g v
def Oe:(a:AM)->a.D->Value->List MF
 |.own t E,xs,v=>[mO t.rep E v xs]
 |.var t E,z,v=>[mP t.rep.c E v z]
 |_,_,_=>[]
def wO(P:Program):(dom:List AM)->uC dom->List Value->List FF
 |[],_,_=>[]
 |a::r,x,vs=>OB P a x.1 (vs.headD undef)::wO P r x.2 vs.tail
def wH:(dom:List AM)->uC dom->List Value->List MF
 |[],_,_=>[]
 |a::r,x,vs=>Oe a x.1 (vs.headD undef)++wH r x.2 vs.tail
def LN:(m:RM)->m.D->Value->List FF
 |.d t,x,v=>[fV t.rep x v]
 |.own _ _,_,_=>[]
 |.var _ _,_,v=>[Zn (∃b,v=.pointer (some ⟨b,0,none⟩))]
def Lr:(m:RM)->m.D->Value->List MF
 |.own t E,xs,v=>[mO t.rep E v xs]
 |.var t E,z,v=>[mP t.rep.c E v z]
 |.d _,_,_=>[]
def wC:(rs:List RM)->uE rs->List Value->List FF
 |[],_,_=>[]
 |[m],x,vs=>LN m x<|vs.headD undef
 |m::n::r,x,vs=>LN m x.1 (vs.headD undef)++wC (n::r) x.2 vs.tail
def wI:(rs:List RM)->uE rs->List Value->List MF
 |[],_,_=>[]
 |[m],x,vs=>Lr m x<|vs.headD undef
 |m::n::r,x,vs=>Lr m x.1 (vs.headD undef)++wI (n::r) x.2 vs.tail
def kN:List AM->List Value->List Value
 |[],_=>[]
 |.own _ _::r,vs=>vs.headD undef::kN r vs.tail
 |.var _ _::r,vs=>vs.headD undef::kN r vs.tail
 |_::r,vs=>kN r vs.tail
def sn(bk n:Nat)(us:List Value):Value:=match bk with
 |0=>wQ us
 |b+1=>wQ<|us.take<|n-(b+1)
def aK(dom:List AM)(vs:List Value)(bk n:Nat)(us:List Value):Prop:=match bk with
 |0=>us.length=n
 |b+1=>us.length=n/\us.drop (n-(b+1))=kN dom vs
def zQ(P:Program)(s:jo):Prop:=
 Y1 P s.f=true/\∀(x:uC s.dom) (r:uE s.cod),s.M x=some r->∀vs:List Value,vs.length=s.dom.length->
  Ud P s.f vs.toArray (wH s.dom x vs) (wO P s.dom x vs) (sn s.bk s.cod.length) (fun us=>wI s.cod r us) (fun us=>wC s.cod r us) (aK s.dom vs s.bk s.cod.length)
theorem zQ.plain{P:Program}{s:jo}(h:zQ P s)(hb:s.bk=0){x:uC s.dom}{r:uE s.cod}(hM:s.M x=some r){vs:List Value}(hl:vs.length=s.dom.length):
 Ud P s.f vs.toArray (wH s.dom x vs) (wO P s.dom x vs) wQ (fun us=>wI s.cod r us) (fun us=>wC s.cod r us) (fun us=>us.length=s.cod.length):=by
 have h1:=h.2 x r hM vs hl;rw[hb]at h1;exact h1
def tf(P:Program)(t:TypeId)(i:Nat):Option (Nat×Bool×Nat):=match P.underlying t with
 |some (.struct fs)=>match fs[i]? with
  |some f=>match Hl P f.type with
   |some (agg,n,_,some _)=>some (f.offset,agg,n)
   |_=>none
  |none=>none
 |_=>none
def nA(P:Program)(t:TypeId)(ti:TI):Prop:=match ti.k with
 |.int k=>P.underlying t=some (.int k)
 |.bool=>P.underlying t=some .bool
 |.str=>P.underlying t=some .string
 |.sl E=>P.underlying t=some (.slice E)/\∃e,ti.ty=.l e
 |.st n=>ti.ty.rep.agg=true/\(∀i f,yq n ti.ty i=some f->Ja P t i=some f.off)/\
  (∃fs,P.underlying t=some (.struct fs)/\∃pl:Array (Nat×Nat),(∀w,(fs.mapM (fun f=>do pure (f.offset,<-sizeOf f.type)):Sem (Array<|Nat×Nat)).run P w=.ok pl w)/\
   ∀i f,yq n ti.ty i=some f->pl[i]? =some (f.off,f.f.n))/\
  ∀i f,yq n ti.ty i=some f->tf P t i=some (f.off,f.f.rep.agg,f.f.n)
 |.ar k E=>ti.ty.rep.agg=true/\P.underlying t=some (.array k E)
 |.pt E=>P.underlying t=some (.pointer E)
 |.ie=>P.underlying t=some (.interface<|P.methodsAt t)
def pH(P:Program)(t:TypeId)(ti:TI):Prop:=
 (∃zero,jJ P t ti.ty.rep.agg ti.ty.rep.n ti.B zero/\zero.cells.size=ti.ty.rep.n/\(∀S w,ti.ty.rep.p S ti.ty.z zero.cells.toList w)/\(∀s,ti.ty=.l s->zero=.slice none 0 0)/\∀n i off s g st,yq n ti.ty i=some ⟨off,.l s,g,st⟩->zero.cells.toList[off]? =some (.slice none 0 0))/\0<ti.B/\0<ti.ty.rep.n/\nA P t ti
def ya(P:Program)(tt:List (Nat×TI)):Prop:=∀t ti,uu tt t=some ti->pH P t ti
def vd(P:Program)(tt:List (Nat×TI)):Prop:=∀t s E B,uu tt t=some ⟨.l s,.sl E,B⟩->∃ti,uu tt E=some ti/\ti.ty=s
def Fl.ok(t:Ty)(f:Fl t.D):Prop:=∀z:t.D,vj t.rep.c z f.off f.f.rep (f.get z)<|fun y=>f.set y z
def LH(f:FuncId)(c:List PD)(v:Value):FF where
 p S w:=∃cs:List Value,v=.func (.func f) #[] cs.toArray/\cs.length=c.length/\ze S (JH c cs) w
 keep:=by rintro S w w' ⟨cs,h1,h2,h3⟩ k;exact⟨cs,h1,h2,ze.keep k h3⟩
 sub:=by rintro S S' w ⟨cs,h1,h2,h3⟩ k;exact⟨cs,h1,h2,ze.sub k h3⟩
def lH(v0:Value)(lo n:Nat)(v:Value):Prop:=(∃b m cap,v0=.slice (some ⟨b,0,none⟩) m cap/\lo+n<=m/\m<=cap/\cap<=9223372036854775807/\v=.slice (if cap=lo then some ⟨b,0,none⟩else some ⟨b,0+lo*1,none⟩) n (cap-lo))\/(v0=.slice none 0 0/\lo=0/\n=0/\v=.slice none 0 0)
theorem lH.old{v0 v:Value}{lo n:Nat}(h:lH v0 lo n v):(∃b m cap c,v0=.slice (some ⟨b,0,none⟩) m cap/\lo+n<=m/\n<=c/\c<=9223372036854775807/\v=.slice (some ⟨b,0+lo*1,none⟩) n c)\/(n=0/\∃ao c,c<=9223372036854775807/\v=.slice ao 0 c):=by
 rcases h with⟨b,m,cap,h1,h2,h3,h4,h5⟩|⟨h1,h2,h3,h4⟩
 ·by_cases hc:cap=lo
  ·rw[iq hc]at h5;obtain rfl:n=0:=by lia
   simp_all
  ·rw[ir hc]at h5;exact .inl ⟨b,m,cap,cap-lo,h1,h2,by lia,by lia,h5⟩
 ·simp_all
def Mx(F:FF)(p:Prop):FF where
 p S w:=F.p S w/\p
 keep h k:=⟨F.keep h.1 k,h.2⟩
 sub h k:=⟨F.sub h.1 k,h.2⟩
def yW(P:Program)(vs:Nat->Value):Dv->Value->FF
 |.d t x,v=>fV t.rep x v
 |.q t x,v=>fP t.rep x v
 |.kb b,v=>Zn<|v=.bool b
 |.un,v=>Zn<|v=undef
 |.nil,v=>Zn<|v=.slice none 0 0
 |.ow o,v=>Zn<|v=vs o
 |.ep o t j f,v=>Zn (Fl.ok t f/\∃b n cap,vs o=.slice (some ⟨b,0,none⟩) n cap/\j<n/\v=.pointer (some ⟨b,0+j*t.rep.n+f.off,none⟩))
 |.sv o t lo n,v=>Zn<|(∃b m cap c,vs o=.slice (some ⟨b,0,none⟩) m cap/\lo+n<=m/\n<=c/\c<=9223372036854775807/\v=.slice (some ⟨b,0+lo*t.rep.n,none⟩) n c)\/(n=0/\∃ao c,c<=9223372036854775807/\v=.slice ao 0 c)
 |.vs o t,v=>Zn (v=vs o/\∃b,vs o=.pointer (some ⟨b,0,none⟩))
 |.vp o t f,v=>Zn (Fl.ok t f/\∃b,vs o=.pointer (some ⟨b,0,none⟩)/\v=.pointer (some ⟨b,0+f.off,none⟩))
 |.fn f c,v=>LH f c v
 |.fp dom cod g,v=>LZ P dom cod g v
 |.pin u,v=>Zn<|v=u
 |.mw o,v=>Zn<|v=zN (vs o)
 |.mv o lo n,v=>Zn<|lH (zN<|vs o) lo n v
 |.hp o j,v=>Zn (∃b n cap,zN (vs o)=.slice (some ⟨b,0,none⟩) n cap/\j<n/\v=.pointer (some ⟨b,0+j*1,none⟩))
 |.rw o r,v=>Zn<|(yL<|vs o)[r]? =some v
 |.rp o t r j f,v=>Zn (Fl.ok t f/\∃b n cap,(yL<|vs o)[r]? =some (.slice (some ⟨b,0,none⟩) n cap)/\j<n/\v=.pointer (some ⟨b,0+j*t.rep.n+f.off,none⟩))
 |.yd o,v=>Zn<|v=.func (.yield<|Gm<|zN<|vs o) #[] #[]
 |.np,v=>Zn<|v=.pointer none
 |.ni,v=>Zn<|v=.nilIface
 |.vf o t n i,v=>Zn (∃b f,zN (vs o)=.pointer (some ⟨b,0,none⟩)/\yq n t i=some f/\v=.pointer (some ⟨b,0+f.off,none⟩))
 |.dz t x n i,v=>Mx (fV t.rep x v) (∃f,yq n t i=some f/\v.cells.toList[f.off]? =some (.slice none 0 0))
 |.ifc q,v=>Zn<|v=.iface q.1 (.agg #[.int .i64 q.2])
 |.bm f o t,v=>Zn (v=.func (.func f) #[vs o] #[]/\∃b,vs o=.pointer (some ⟨b,0,none⟩))
def xG(P:Program)(vs:Nat->Value)(d:Dv)(v:Value)(i:Nat):FF where
 p S w:=match i with
  |0=>(yW P vs d v).p S w
  |i+1=>∃us u,v=.tuple us/\us[i]? =some u/\(yW P vs d u).p S w
 keep:=by
  intro S w w' h k
  cases i with
  |zero=>exact(yW P vs d v).keep h k
  |succ i=>obtain⟨us,u,h1,h2,h3⟩:=h;exact⟨us,u,h1,h2,(yW P vs d u).keep h3 k⟩
 sub:=by
  intro S S' w h k
  cases i with
  |zero=>exact(yW P vs d v).sub h k
  |succ i=>obtain⟨us,u,h1,h2,h3⟩:=h;exact⟨us,u,h1,h2,(yW P vs d u).sub h3 k⟩
def mx{α:Type}(s:Ty)(f:Option (Fl α)):Prop:=∃(off:Nat) (g:α->(Ty.l s).D) (st:(Ty.l s).D->α->α),f=some ⟨off,.l s,g,st⟩
def uk(vs:Nat->Value)(e:Nat×Od):MF:=match e.2 with
 |.own t E xs=>mO t.rep E (vs e.1) xs
 |.var t E z=>mP t.rep.c E (vs e.1) z
 |.mat t E E1 xss ix=>Js t.rep E E1 (vs e.1) xss ix
 |.bo t E E0 xs=>NZ t.rep E E0 (vs e.1) xs
 |.ho E0=>OC E0<|vs e.1
 |.vr t E s E1 n i z xs=>MN (mx s<|yq n t i) t.rep E (qv<|yq n t i) (vn s (yq n t i) []) s.rep E1 (vs e.1) z xs
 |.vh t E s E1 n i z=>NW (mx s<|yq n t i) t.rep E (qv<|yq n t i) (vn s (yq n t i) []) (vs e.1) z
 |.hid t E X Y mX mY g x=>Qu [nb<|lk Tryz.prog (Gm<|zN<|vs e.1) t.rep E mX mY g,mX x<|(yL<|vs e.1).headD undef]
 |.hiy Y mY y=>mY y<|(yL<|vs e.1).headD undef
def MS(vs:Nat->Value)(ob:List (Nat×Od)):List MF:=ob.map<|uk vs
def RS(P:Program)(vs:Nat->Value)(env:yb)(rg:List (Nat×Nat×Dv)):List FF:=rg.map fun e=>xG P vs e.2.2 (env e.1) e.2.1
structure Fr where
 we:World
 Se:Nat->Prop
 F:List MF
 G:List FF
structure Bd(cx σ:Sg):Prop where
 o1:∀e∈σ.ob,e.1<σ.nx
 o2:∀e∈cx.ob,e.1<σ.nx
 r1:∀e∈σ.rg,∀o,xz e.2.2=some o->o<σ.nx
 r2:∀e∈cx.rg,∀o,xz e.2.2=some o->o<σ.nx
def vD(P:Program)(fr:Fr)(cx σ:Sg)(env:yb)(w:World):Prop:=
 Bd cx σ/\∃vs:Nat->Value,St fr.we fr.Se (MS vs σ.ob++(MS vs cx.ob++fr.F)) (RS P vs env σ.rg++(RS P vs env cx.rg++fr.G)) w
section
variable{P:Program}{vs vs':Nat->Value}{env env':yb}
theorem YC{d:Dv}(h:∀o,xz d=some o->vs' o=vs o)(v:Value):yW P vs' d v=yW P vs d v:=by
 cases d<;>simp only[yW]<;>simp only[xz,O6,forall_eq']at h<;>rw[h]
theorem yY:∀{ob:List (Nat×Od)},(∀e∈ob,vs' e.1=vs e.1)->MS vs' ob=MS vs ob
 |[],_=>rfl
 |(o,x)::r,h=>by
  have h1:=h (o,x)<|Nm;have h2:=yY fun e he=>h e<|H1 _ he;show uk vs' (o,x)::MS vs' r=uk vs (o,x)::MS vs r;rw[h2];cases x<;>simp only[uk]<;>rw[h1]
theorem xO:∀{rg:List (Nat×Nat×Dv)},(∀e∈rg,∀o,xz e.2.2=some o->vs' o=vs o)->(∀e∈rg,env' e.1=env e.1)->RS P vs' env' rg=RS P vs env rg
 |[],_,_=>rfl
 |(t,i,d)::r,h,h'=>by
  show xG P vs' d (env' t) i::RS P vs' env' r=xG P vs d (env t) i::RS P vs env r;rw[xO (fun e he=>h e<|H1 _ he)<|fun e he=>h' e<|H1 _ he,h' (t,i,d)<|Nm];unfold xG;simp only[YC<|h (t,i,d)<|Nm]
theorem wg{S:Nat->Prop}{w:World}:∀{Γ:List FF},ze S Γ w↔∀f∈Γ,f.p S w
 |[]=>⟨fun _ f h=>absurd h UV,fun _=>trivial⟩
 |f::r=>by
  have ih:=wg (S:=S) (w:=w) (Γ:=r);constructor
  ·intro h x hx;rcases OY.1 hx with rfl|hx
   ·exact h.1
   ·exact ih.1 h.2 x hx
  ·intro h;exact⟨h f<|Nm,ih.2 fun x hx=>h x<|H1 _ hx⟩
theorem zr{a b:Nat}(h:OW a b=true):a=b:=P7 h
theorem YK:∀{rg:List (Nat×Nat×Dv)}{t i:Nat}{d:Dv},Y3 rg t i=some d->(t,i,d)∈rg
 |(t',i',d')::r,t,i,d,h=>by
  unfold Y3 at h;cases hb:OW t' t && OW i' i
  ·rw[hb]at h;exact H1 _<|YK h
  ·simp_all
theorem kD{S:Nat->Prop}{w:World}{rg:List (Nat×Nat×Dv)}(h:ze S (RS P vs env rg) w){t i:Nat}{d:Dv}(hd:(t,i,d)∈rg):(xG P vs d (env t) i).p S w:=
 wg.1 h _ (O8.2 ⟨(t,i,d),hd,rfl⟩)
theorem xm:∀{ob:List (Nat×Od)}{o:Nat}{x:Od},yE ob o=some x->∃i,ob[i]? =some (o,x)/\(∀y,ve ob o y=ob.set i (o,y))/\zD ob o=ob.eraseIdx i
 |(o',x')::r,o,x,h=>by
  unfold yE at h;cases hb:OW o' o
  ·rw[hb]at h;obtain⟨i,h1,h2,h3⟩:=xm h;exact⟨i+1,by simpa using h1,fun y=>by unfold ve;rw[hb];simp only[cond_false,List.set_cons_succ,h2 y],by unfold zD;rw[hb];simp only[cond_false,List.eraseIdx_cons_succ,h3]⟩
  ·rw[hb]at h;simp only[cond_true,O6]at h;have:=zr hb;subst h;subst this;exact⟨0,rfl,fun y=>by unfold ve;rw[hb];rfl,by unfold zD;rw[hb];rfl⟩
theorem ky{ob:List (Nat×Od)}{i:Nat}{e:Nat×Od}{R:List MF}(h:ob[i]? =some e):(MS vs ob++R)[i]? =some (uk vs e):=by grind [MS]
theorem Jo{ob:List (Nat×Od)}{i:Nat}{e e':Nat×Od}{R:List MF}(h:ob[i]? =some e):(MS vs ob++R).set i (uk vs e')=MS vs (ob.set i e')++R:=by grind [MS,List.map_set]
theorem tq{α:Type _}{β:Type _}(f:α->β):∀(l:List α) (i:Nat),(l.eraseIdx i).map f=(l.map f).eraseIdx i
 |[],i=>by simp
 |_::_,0=>rfl
 |a::l,i+1=>by simp only[List.eraseIdx_cons_succ,PA,tq f l i]
theorem ZY{ob:List (Nat×Od)}{i:Nat}{e:Nat×Od}{R:List MF}(h:ob[i]? =some e):(MS vs ob++R).eraseIdx i=MS vs (ob.eraseIdx i)++R:=by grind [MS,tq]
theorem pc{cx σ:Sg}{o:Nat}{x:Od}(h:qS cx σ o=some x):(o,x)∈σ.ob\/(o,x)∈cx.ob:=by grind [qS,xm]
theorem VI{cx σ:Sg}{t i:Nat}{d:Dv}(h:get cx σ t i=some d):(t,i,d)∈σ.rg\/(t,i,d)∈cx.rg:=by grind [get,YK]
theorem vM{S:Nat->Prop}{w:World}{cx σ:Sg}{o:Nat}{x:Od}{F:List MF}(hM:z7 S (MS vs σ.ob++(MS vs cx.ob++F)) w)(h:qS cx σ o=some x):(uk vs (o,x)).p S w:=by
 refine qo.1 hM _ ?_;rcases pc h with h|h
 ·exact OX.2 (.inl<|O8.2 ⟨_,h,rfl⟩)
 ·exact OX.2 (.inr<|OX.2 (.inl<|O8.2 ⟨_,h,rfl⟩))
end
theorem zx{R:Type}{s t:Ty}{x:s.D}{k:t.D->Option R}{r:R}(h:Ty.cast s t x k=some r):∃e:s=t,k (e▸x)=some r:=by grind [Ty.cast]
theorem zw{R:Type}{b:Bool}{x:Option R}{r:R}(h:xV b x=some r):b=true/\x=some r:=by grind
end
section
open Go.ChangeShapes Go.WideShapes Go.ChangeAt Go.RowKit
def U0(P:Program):Ty->TypeId->Prop
 |.i,T=>P.underlying T=some (.int .i64)
 |.u,T=>P.underlying T=some (.int .u64)
 |.b,T=>P.underlying T=some .bool
 |.l t,T=>∃E,P.underlying T=some (.slice E)/\P.cellsOf E=t.n/\0<t.n/\U0 P t E
 |.p s t,T=>∃f0 f1:Field,P.underlying T=some (.struct #[f0,f1])/\P.cellsOf T=s.n+t.n/\f0.offset=0/\f1.offset=s.n/\P.cellsOf f0.type=s.n/\P.cellsOf f1.type=t.n/\U0 P s f0.type/\U0 P t f1.type
 |.ch,T=>P.underlying T=some (.int .u8)
 |.tx,T=>P.underlying T=some .string
 |.a _ _,_=>False
 |.po _,_=>False
 |.tr,_=>False
 |.er,_=>False
 |.w1 _,_=>False
theorem YB{w:World}{base n:Nat}{a:Addr}{c:List Value}(h:w.cells? base a n=some c):c.length=n/\∀i v,c[i]? =some v->w.cell? (a.add i)=some v:=by
 unfold World.cells? at h;split at h
 ·have:∀(l:List Nat) (c:List Value),l.mapM (fun i=>w.cell?<|a.add i)=some c->c.length=l.length/\∀(i j:Nat) (v:Value),c[i]? =some v->l[i]? =some j->w.cell? (a.add j)=some v:=by
   intro l
   induction l with
   |nil=>intro c hc;simp at hc;subst hc;exact⟨rfl,fun i j v hv=>by simp at hv⟩
   |cons x l ih=>
    intro c hc;rw[List.mapM_cons]at hc
    cases hx:w.cell? (a.add x)with
    |none=>rw[hx]at hc;simp at hc
    |some y=>
     rw[hx]at hc
     cases hl:l.mapM (fun i=>w.cell?<|a.add i)with
     |none=>rw[hl]at hc;simp at hc
     |some r=>
      rw[hl]at hc;have hc:y::r=c:=by simpa using hc
      subst hc;obtain⟨h1,h2⟩:=ih r hl;refine⟨by simp[h1],fun i j v hv hj=> ?_⟩
      cases i with
      |zero=>simp at hv hj;subst hv;subst hj;exact hx
      |succ i=>exact h2 i j v (by simpa using hv)<|by simpa using hj
  obtain⟨h1,h2⟩:=this _ _ h;refine⟨by simpa using h1,fun i v hv=>h2 i i v hv ?_⟩;grind
 ·cases h
theorem Kr{w:World}{a:Addr}{v:Value}(h:w.cell? a=some v):a=⟨a.block,a.off,none⟩/\a.block<w.heap.size:=by
 unfold World.cell? at h;split at h
 ·next c _ _ hb=>
  split at h
  ·cases h
  ·next hs=>
   refine⟨?_,(Ph.1 hb).1⟩;obtain⟨b,o,s⟩:=a
   cases s with
   |none=>rfl
   |some x=>simp at hs
 ·cases h
theorem gB(a:Addr):a.add 0=a:=by grind [Addr.add]
section
variable{H:Type}{enc:TypeId×Value->H}{P:Program}{W:World}{sp:Nat->Bool}{held:Bool}
theorem aF{t:Ty}{b o:Nat}(hb:b<W.heap.size):∀(len:Nat),(∀i,i<len->∃(c:List Value) (z:t.D),W.cells? 0 (⟨b,o+i*t.n,none⟩:Addr) t.n=some c/\t.rep.p (fun _=>True) z c W)->
 ∃(xs:List t.D) (cs:List Value),xs.length=len/\At W b o cs/\zX t.rep (fun _=>True) xs cs W
 |0,_=>⟨[],[],rfl,⟨hb,fun j v hv=>by simp at hv⟩,rfl⟩
 |len+1,h=>by
  obtain⟨xs,cs,h1,h2,h3⟩:=aF hb len fun i hi=>h i (by lia);obtain⟨c,z,h4,h5⟩:=h len (by lia);obtain⟨h6,h7⟩:=YB h4;have hl:=h3.len;rw[Ty.n_rep]at hl;refine⟨xs++[z],cs++c,by simp[h1],⟨hb,fun j v hv=> ?_⟩,h3.append ⟨c,[],by simp,h5,rfl⟩⟩;rcases Re j cs.length with hj|hj
  ·rw[Py hj]at hv;exact h2.2 j v hv
  ·rw[PW hj]at hv;have:=h7 _ v hv;rw[xH]at this;grind
theorem jI:∀(t:Ty) {T:TypeId}{n:Nat}{cs:List Value}{x:DataW H×List MemPlace},U0 P t T->DataW.trod enc P W 0 sp held n T cs=some x->∃z:t.D,t.rep.p (fun _=>True) z cs W
 |.i,T,n,cs,x,ht,h=>by
  obtain⟨v,rfl,_,hw⟩:=DataW.trod_int ht h;have: -9223372036854775808<=v/\v<=9223372036854775807:=by simpa[Lit.wf,IntKind.min,IntKind.max,IntKind.signed,IntKind.bits]using hw
  exact⟨v,rfl,this.1,this.2⟩
 |.u,T,n,cs,x,ht,h=>by
  obtain⟨v,rfl,_,hw⟩:=DataW.trod_int ht h;have:0<=v/\v<=18446744073709551615:=by simpa[Lit.wf,IntKind.min,IntKind.max,IntKind.signed,IntKind.bits]using hw
  obtain⟨k,rfl⟩:=Int.eq_ofNat_of_zero_le this.1;exact⟨k,rfl,by lia⟩
 |.ch,T,n,cs,x,ht,h=>by
  obtain⟨v,rfl,_,hw⟩:=DataW.trod_int ht h;have:0<=v/\v<=255:=by simpa[Lit.wf,IntKind.min,IntKind.max,IntKind.signed,IntKind.bits]using hw
  obtain⟨k,rfl⟩:=Int.eq_ofNat_of_zero_le this.1;exact⟨k,rfl,by lia⟩
 |.tx,T,n,cs,x,ht,h=>by
  obtain⟨s,rfl,_,hs⟩:=DataW.trod_string ht h;exact⟨zL s,s,rfl,rfl,hs⟩
 |.b,T,n,cs,x,ht,h=>by
  obtain⟨v,rfl,_⟩:=DataW.trod_bool ht h;exact⟨v,rfl⟩
 |.l t,T,n,cs,x,ht,h=>by
  obtain⟨E,hu,hc,hf,hE⟩:=ht;rcases DataW.trod_slice hu h with⟨rfl,_⟩|⟨a,len,cap,elems,rest,m,_,rfl,_,_,hj,hd,hg,he,_,_⟩
  ·exact⟨[],_,rfl,gq.nil⟩
  ·rw[hc]at he;have key:∀i,i<len->∃(c:List Value) (z:t.D),W.cells? 0 (a.add<|i*t.n) t.n=some c/\t.rep.p (fun _=>True) z c W:=by
    intro i hi;have h1:=he i hi;rw[Pb<|by lia]at h1;obtain⟨c,h2,h3⟩:=Option.bind_eq_some_iff.1 h1;obtain⟨z,hz⟩:=jI t hE h3;exact⟨c,z,h2,hz⟩
   rcases PB len with h0|h0
   ·subst h0;exact⟨[],_,rfl,some a,cap,rfl,PF _,hd,.inl rfl⟩
   ·obtain⟨c,z,h1,h2⟩:=key 0 h0;obtain⟨h3,h4⟩:=YB h1;have h5:=h4 0 (c[0]'(by lia)) (Pb<|by lia);rw[Sb,gB,gB]at h5;obtain⟨ha,hb⟩:=Kr h5;rw[ha]at key;obtain⟨xs,cs,g1,g2,g3⟩:=aF (t:=t) (b:=a.block) (o:=a.off) hb len fun i hi=>by
     have:=key i hi;rw[xH]at this;exact this
    refine⟨xs,_,rfl,some a,cap,by rw[g1],by lia,hd,.inr ⟨a.block,a.off,cs,by rw[<-ha],trivial,g2,g3⟩⟩
 |.p s t,T,n,cs,x,ht,h=>by
  obtain⟨f0,f1,hu,hc,o0,o1,c0,c1,h0,h1⟩:=ht;obtain⟨y0,y1,m,_,hl,g0,g1⟩:=trod_struct2 hu h;rw[o0,c0,Tz]at g0;rw[o1,c1]at g1;obtain⟨z0,k0⟩:=jI s h0 g0;obtain⟨z1,k1⟩:=jI t h1 g1;refine⟨(z0,z1),cs.take s.n,(cs.drop s.n).take t.n,?_,k0,k1⟩;rw[hc]at hl;have e:(cs.drop s.n).take t.n=cs.drop s.n:=P3 (by simp;lia);rw[e,RL]
 |.a _ _,_,_,_,_,ht,_=>ht.elim
 |.po _,_,_,_,_,ht,_=>ht.elim
 |.tr,_,_,_,_,ht,_=>ht.elim
 |.er,_,_,_,_,ht,_=>ht.elim
 |.w1 _,_,_,_,_,ht,_=>ht.elim
end
theorem sD{P:Program}{s:jo}(h:zQ P s)(hk:s.bk=0)(hc:s.cod=[.d .b])(x:uC s.dom)(hM:s.M x=some (hc▸true:uE s.cod)){vs:List Value}(hl:vs.length=s.dom.length)(ha:wH s.dom x vs=[]){W:World}(hΓ:ze (fun _=>True) (wO P s.dom x vs) W)(hg:Gv W:=by exact trivial):
 Calls P s.f vs.toArray W fun e W'=>e=.returned (.bool true)/\jA W W':=by
 obtain⟨f,dom,cod,M,bk⟩:=s;simp only at hc hk;subst hc;subst hk;have h1:=h.2 x true hM vs hl W (fun _=>True) [] [] W;simp only[ha,Ps]at h1;refine(h1 ⟨zH.refl _ _,⟨fun _ _=>trivial,hg⟩,trivial,fun _=>True,fun _ _=>trivial,fun _ _=>trivial,fun m hm=>absurd hm UV,trivial,hΓ⟩).mono ?_;rintro e w' ⟨us,he,hb,hs⟩;obtain⟨hx,_,_,S,_,_,_,_,hf⟩:=hs;refine⟨?_,hx⟩
 match us,hb with
 |[u],_=>
  have:u=.bool true:=Wi (show(fV bQ true u).p S w' from hf.1);rw[he,this];rfl
end
section
open Go.ChangeShapes Go.WideShapes Go.ChangeAt Go.RowKit
section
variable{H:Type}{enc:TypeId×Value->H}{P:Program}{W:World}{sp:Nat->Bool}{held:Bool}
theorem Gx{r:Reach}{b0:Nat}:∀(t:Ty) {T:TypeId}{v:Value},U0 P t T->SQ P W r b0 T v->v=t.rep.val v.cells.toList
 |.i,T,v,ht,h=>by obtain⟨n,rfl⟩:=okWide_int ht h;rfl
 |.u,T,v,ht,h=>by obtain⟨n,rfl⟩:=okWide_int ht h;rfl
 |.ch,T,v,ht,h=>by obtain⟨n,rfl⟩:=okWide_int ht h;rfl
 |.tx,T,v,ht,h=>by
  have ht:P.underlying T=some .string:=ht;simp only[SQ,ht,Cell.okWide]at h;unfold Cell.ok at h;rw[ht]at h;cases v<;>simp at h;rfl
 |.b,T,v,ht,h=>by
  have ht:P.underlying T=some .bool:=ht;simp only[SQ,ht,Cell.okWide]at h;unfold Cell.ok at h;rw[ht]at h;cases v<;>simp at h;rfl
 |.l t,T,v,ht,h=>by
  obtain⟨E,ht,_⟩:=ht;simp only[SQ,ht,Cell.okWide]at h;unfold Cell.ok at h;rw[ht]at h;cases v<;>simp at h;rfl
 |.p s t,T,v,ht,h=>by
  obtain⟨f0,f1,ht,_⟩:=ht;simp only[SQ,ht]at h;obtain⟨cs,rfl,_⟩:=h;show Value.agg cs=Value.agg cs.toList.toArray;simp
 |.a _ _,T,v,ht,_=>ht.elim
 |.po _,T,v,ht,_=>ht.elim
 |.tr,T,v,ht,_=>ht.elim
 |.er,T,v,ht,_=>ht.elim
 |.w1 _,T,v,ht,_=>ht.elim
def Ty.ok:(t:Ty)->t.D->Prop
 |.i,(x:Int)=> -9223372036854775808<=x/\x<=9223372036854775807
 |.u,(x:Nat)=>x<18446744073709551616
 |.b,_=>True
 |.ch,(x:Nat)=>x<256
 |.tx,xs=>O9 xs<=9223372036854775807/\∀x,List.Mem x xs->x<256
 |.l t,xs=>O9 xs<=9223372036854775807/\∀x,List.Mem x xs->t.ok x
 |.p s t,x=>s.ok x.1/\t.ok x.2
 |.a _ t,xs=>∀x,List.Mem x xs->t.ok x
 |.po _,_=>True
 |.tr,_=>True
 |.er,_=>True
 |.w1 t,x=>t.ok x
theorem Jm{α:Type}{e:zv α}{S:Nat->Prop}{w:World}{q:α->Prop}(hq:∀x cs,e.p S x cs w->q x):∀{xs:List α}{cs:List Value},zX e S xs cs w->∀x,List.Mem x xs->q x
 |[],_,_,x,hx=>nomatch hx
 |y::ys,_,⟨c,r,_,hc,hr⟩,x,hx=>by
  cases hx with
  |head=>exact hq _ _ hc
  |tail _ hx=>exact Jm hq hr x hx
theorem WJ:∀(t:Ty) {S:Nat->Prop}{z:t.D}{cs:List Value}{w:World},t.rep.p S z cs w->t.ok z
 |.i,_,_,_,_,h=>h.2
 |.u,_,_,_,_,h=>h.2
 |.b,_,_,_,_,_=>trivial
 |.ch,_,_,_,_,h=>h.2
 |.tx,_,xs,_,_,h=>by
  obtain⟨s,_,h1,h2⟩:=h;have h3:=yN s;refine⟨by show O9 xs<=_;rw[<-h1,h3];exact h2,fun x hx=> ?_⟩;have hx:x∈zL s:=by rw[h1];exact hx
  obtain⟨b,_,rfl⟩:=O8.1 hx;exact UInt8.toNat_lt _
 |.l t,S,xs,_,w,h=>by
  obtain⟨v,_,ao,cap,_,h1,h2,h3⟩:=h;refine⟨Pz h1 h2,?_⟩;rcases h3 with h3|⟨b,o,cs,_,_,_,h4⟩
  ·have h3:=h3;subst h3;exact fun x hx=>nomatch hx
  ·exact Jm (fun x cs hx=>WJ t hx) h4
 |.p s t,S,z,_,w,h=>by
  obtain⟨c,d,_,h1,h2⟩:=h;exact⟨WJ s h1,WJ t h2⟩
 |.a k t,S,xs,_,w,h=>by
  obtain⟨_,h⟩:=h;exact Jm (fun x cs hx=>WJ t hx) h
 |.po _,_,_,_,_,_=>trivial
 |.tr,_,_,_,_,_=>trivial
 |.er,_,_,_,_,_=>trivial
 |.w1 t,S,z,cs,w,h=>WJ t h
def Ax:(dom:List AM)->uC dom->Prop
 |[],_=>True
 |.d t::r,x=>t.ok x.1/\Ax r x.2
 |_::r,x=>Ax r x.2
def cm(P:Program):List AM->List TypeId->Prop
 |[],[]=>True
 |.d t::r,T::Ts=>U0 P t T/\cm P r Ts
 |_,_=>False
theorem gr:∀{dom:List AM}{Ts:List TypeId},cm P dom Ts->dom.length=Ts.length
 |[],[],_=>rfl
 |.d t::r,T::Ts,h=>by simp[gr h.2]
 |.d _::_,[],h=>h.elim
 |[],_::_,h=>h.elim
 |.q _::_,_,h=>h.elim
 |.own _ _::_,_,h=>h.elim
 |.var _ _::_,_,h=>h.elim
 |.fn _ _::_,_,h=>h.elim
theorem sH:∀{dom:List AM}{Ts:List TypeId},cm P dom Ts->∀(x:uC dom) (vs:List Value),wH dom x vs=[]
 |[],_,_,_,_=>rfl
 |.d t::r,T::Ts,h,x,vs=>by show[]++wH r x.2 vs.tail=[];rw[sH h.2];rfl
 |.d _::_,[],h,_,_=>h.elim
 |.q _::_,_,h,_,_=>h.elim
 |.own _ _::_,_,h,_,_=>h.elim
 |.var _ _::_,_,h,_,_=>h.elim
 |.fn _ _::_,_,h,_,_=>h.elim
theorem rF{W':World}(hx:jA W W'){p:MemPlace}(hp:p.block<W.heap.size):W.sameAt W' p:=by
 cases p with
 |cell b off=>exact World.cell?_of_block<|hx.block b hp trivial
 |map b=>exact hx.block b hp trivial
theorem Xb{W':World}{sp':Nat->Bool}(hl:laidOutB P=true):∀{Ts:List TypeId}{vs:List Value}{ds:List (DataW H)}{ps:List MemPlace},(∀t∈Ts,P.readableRec t=true/\t<P.types.size)->SV enc P W 0 (fun _=>true) true Ts vs ds ps->
 (∀p∈ps,W.sameAt W' p)->(∀p∈ps,sp' p.block=true)->SV enc P W' 0 sp' true Ts vs ds ps
 |[],[],[],_,_,h,_,_=>h
 |T::Ts,v::vs,d::ds,ps,hr,h,h1,h2=>by
  obtain⟨p,q,g1,g2,rfl⟩:=h;have hT:=hr T<|Nm
  exact⟨p,q,Go.WideElems.Trod_stays hl hT.1 hT.2 g1 (fun x hx=>h1 x<|OX.2 (.inl hx))<|fun x hx=>h2 x<|OX.2 (.inl hx),
   Xb hl (fun t ht=>hr t<|H1 _ ht) g2 (fun x hx=>h1 x<|OX.2 (.inr hx)) (fun x hx=>h2 x<|OX.2 (.inr hx)),rfl⟩
 |[],[],_::_,_,_,h,_,_=>h.elim
 |[],_::_,_,_,_,h,_,_=>h.elim
 |_::_,[],_,_,_,h,_,_=>h.elim
 |_::_,_::_,[],_,_,h,_,_=>h.elim
end
end
section
open Go.ChangeShapes Go.WideShapes Go.ChangeAt Go.RowKit
def Ty.wd(P:Program):(t:Ty)->TypeId->t.D->Prop
 |.i,_,_=>True
 |.u,_,_=>True
 |.b,_,_=>True
 |.ch,_,_=>True
 |.tx,_,_=>True
 |.l t,T,xs=>∀E,P.underlying T=some (.slice E)->O9 xs*P.bytesOf E<=reachBytes/\∀x,List.Mem x xs->t.wd P E x
 |.p s t,T,x=>∀f0 f1:Field,P.underlying T=some (.struct #[f0,f1])->s.wd P f0.type x.1/\t.wd P f1.type x.2
 |.a _ _,_,_=>True
 |.po _,_,_=>True
 |.tr,_,_=>True
 |.er,_,_=>True
 |.w1 _,_,_=>True
section
variable{H:Type}{enc:TypeId×Value->H}{P:Program}{W:World}{sp:Nat->Bool}{held:Bool}
theorem JR{t:Ty}{b o:Nat}{q:t.D->Prop}(hb:b<W.heap.size):∀(len:Nat),(∀i,i<len->∃(c:List Value) (z:t.D),W.cells? 0 (⟨b,o+i*t.n,none⟩:Addr) t.n=some c/\t.rep.p (fun _=>True) z c W/\q z)->
 ∃(xs:List t.D) (cs:List Value),xs.length=len/\At W b o cs/\zX t.rep (fun _=>True) xs cs W/\∀x,x∈xs->q x
 |0,_=>⟨[],[],rfl,⟨hb,fun j v hv=>by simp at hv⟩,rfl,fun x hx=>absurd hx UV⟩
 |len+1,h=>by
  obtain⟨xs,cs,h1,h2,h3,hq⟩:=JR hb len fun i hi=>h i (by lia);obtain⟨c,z,h4,h5,h8⟩:=h len (by lia);obtain⟨h6,h7⟩:=YB h4;have hl:=h3.len;rw[h1,Ty.n_rep]at hl;refine⟨xs++[z],cs++c,by simp[h1],⟨hb,fun j v hv=> ?_⟩,h3.append ⟨c,[],by simp,h5,rfl⟩,fun x hx=> ?_⟩
  ·rcases Re j cs.length with hj|hj
   ·rw[Py hj]at hv;exact h2.2 j v hv
   ·rw[PW hj]at hv;have:=h7 _ v hv;rw[xH]at this;grind
  ·grind
theorem Vj{E:TypeId}{n:Nat}:∀{l:List (DataW H)}{d:DataW H},d∈l->n∈d.weights P E->n∈TP P E l
 |[],_,h,_=>absurd h UV
 |e::l,d,h,hn=>by
  unfold TP;rcases OY.1 h with rfl|h
  ·simp_all
  ·exact List.mem_append_right _<|Vj h hn
theorem YE:∀(t:Ty) {T:TypeId}{n:Nat}{cs:List Value}{x:DataW H×List MemPlace},U0 P t T->DataW.trod enc P W 0 sp held n T cs=some x->(∀m∈x.1.weights P T,m<=reachBytes)->∃z:t.D,t.rep.p (fun _=>True) z cs W/\t.wd P T z
 |.i,T,n,cs,x,ht,h,_=>by
  obtain⟨z,hz⟩:=jI .i ht h;exact⟨z,hz,trivial⟩
 |.u,T,n,cs,x,ht,h,_=>by
  obtain⟨z,hz⟩:=jI .u ht h;exact⟨z,hz,trivial⟩
 |.ch,T,n,cs,x,ht,h,_=>by
  obtain⟨z,hz⟩:=jI .ch ht h;exact⟨z,hz,trivial⟩
 |.tx,T,n,cs,x,ht,h,_=>by
  obtain⟨z,hz⟩:=jI .tx ht h;exact⟨z,hz,trivial⟩
 |.b,T,n,cs,x,ht,h,_=>by
  obtain⟨z,hz⟩:=jI .b ht h;exact⟨z,hz,trivial⟩
 |.l t,T,n,cs,x,ht,h,hw=>by
  obtain⟨E,hu,hc,hn,hE⟩:=ht;have wnil:(Ty.l t).wd P T ([]:List t.D):=fun E' hf=>⟨by show 0*_<=_;rw[Sb];exact PF _,fun x hx=>nomatch hx⟩;rcases DataW.trod_slice hu h with⟨rfl,_⟩|⟨a,len,cap,elems,rest,m,_,rfl,rfl,_,hp,hg,ho,hj,_,_⟩
  ·exact⟨[],⟨_,rfl,gq.nil⟩,wnil⟩
  ·have hd:∀y∈(elems.length+rest.length)*P.bytesOf E::(TP P E (elems.map (·.1))++TP P E (rest.map (·.1))),y<=reachBytes:=fun y hy=>hw y (by
    show y∈DataW.weights P T (DataW.slice (elems.map (·.1)) (rest.map (·.1)));unfold DataW.weights;rw[hu];simpa using hy)
   have hk:len*P.bytesOf E<=reachBytes:=Pz (PQ _<|by lia)<|hd _<|Nm;rw[hc]at hj;have key:∀i,i<len->∃(c:List Value) (z:t.D),W.cells? 0 (a.add<|i*t.n) t.n=some c/\t.rep.p (fun _=>True) z c W/\t.wd P E z:=by
    intro i hi;have h1:=hj i hi;rw[Pb<|by lia]at h1;obtain⟨c,h2,h3⟩:=Option.bind_eq_some_iff.1 h1;obtain⟨z,hz,hm⟩:=YE t hE h3 fun y hy=>hd y<|H1 _<|SZ _<|Vj (List.mem_map_of_mem<|Rm<|by lia) hy;exact⟨c,z,h2,hz,hm⟩
   rcases PB len with h0|h0
   ·subst h0;exact⟨[],⟨_,rfl,some a,cap,rfl,PF _,hg,.inl rfl⟩,wnil⟩
   ·obtain⟨c,z,h1,h2,_⟩:=key 0 h0;obtain⟨h3,h4⟩:=YB h1;have h5:=h4 0 (c[0]'(by lia)) (Pb<|by lia);rw[Sb,gB,gB]at h5;obtain⟨ha,hb⟩:=Kr h5;rw[ha]at key;obtain⟨xs,cs,g1,g2,g3,g4⟩:=JR (t:=t) (q:=fun z=>t.wd P E z) (b:=a.block) (o:=a.off) hb len fun i hi=>by
     have:=key i hi;rw[xH]at this;exact this
    refine⟨xs,⟨_,rfl,some a,cap,by rw[g1],by lia,hg,.inr ⟨a.block,a.off,cs,by rw[<-ha],trivial,g2,g3⟩⟩,fun E' hf=> ?_⟩;obtain rfl:E=E':=by rw[hu]at hf;simpa using hf
    exact⟨by show xs.length*_<=_;rw[g1];exact hk,fun x hx=>g4 x hx⟩
 |.p s t,T,n,cs,x,ht,h,hw=>by
  obtain⟨f0,f1,hu,hc,o0,o1,c0,c1,h0,h1⟩:=ht;obtain⟨y0,y1,m,rfl,hl,g0,g1⟩:=trod_struct2 hu h;rw[o0,c0,Tz]at g0;rw[o1,c1]at g1;have hd:∀y∈SX P [f0.type,f1.type] [y0.1,y1.1],y<=reachBytes:=fun y hy=>hw y (by
   show y∈DataW.weights P T (DataW.agg [y0.1,y1.1]);unfold DataW.weights;rw[hu];exact hy)
  obtain⟨z0,k0,w0⟩:=YE s h0 g0 fun y hy=>hd y (by unfold SX;exact SZ _ hy);obtain⟨z1,k1,w1⟩:=YE t h1 g1 fun y hy=>hd y (by unfold SX SX;exact List.mem_append_right _<|SZ _ hy);refine⟨(z0,z1),⟨cs.take s.n,(cs.drop s.n).take t.n,?_,k0,k1⟩,fun e0 e1 he=> ?_⟩
  ·rw[hc]at hl;have e:(cs.drop s.n).take t.n=cs.drop s.n:=P3 (by simp;lia);rw[e,RL]
  ·rw[hu]at he;obtain⟨rfl,rfl⟩:f0=e0/\f1=e1:=by simpa using he
   exact⟨w0,w1⟩
 |.a _ _,_,_,_,_,ht,_,_=>ht.elim
 |.po _,_,_,_,_,ht,_,_=>ht.elim
 |.tr,_,_,_,_,ht,_,_=>ht.elim
 |.er,_,_,_,_,ht,_,_=>ht.elim
 |.w1 _,_,_,_,_,ht,_,_=>ht.elim
def Gj(P:Program):(dom:List AM)->List TypeId->uC dom->Prop
 |.d t::r,T::Ts,x=>t.wd P T x.1/\Gj P r Ts x.2
 |_,_,_=>True
theorem QS{r:Reach}{b0:Nat}:∀{dom:List AM}{Ts:List TypeId}{vs:List Value}{ds:List (DataW H)}{ps:List MemPlace},cm P dom Ts->(∀(j:Nat) t v,Ts[j]? =some t->vs[j]? =some v->SQ P W r b0 t v)->SV enc P W 0 sp held Ts vs ds ps->
 (∀(j:Nat) t d,Ts[j]? =some t->ds[j]? =some d->∀n∈d.weights P t,n<=reachBytes)->
 vs.length=Ts.length/\∃x:uC dom,Ax dom x/\Gj P dom Ts x/\ze (fun _=>True) (wO P dom x vs) W
 |[],[],[],[],_,_,_,_,_=>⟨rfl,(),trivial,trivial,trivial⟩
 |.d t::dom,T::Ts,v::vs,d::ds,ps,h,hv,ha,hw=>by
  obtain⟨p,q,h1,h2,_⟩:=ha;obtain⟨hl,x,hc,he,hx⟩:=QS h.2 (fun j t' v' ht hf=>hv (j+1) t' v' (by simpa using ht)<|by simpa using hf) h2 (fun j t' d' ht hd=>hw (j+1) t' d' (by simpa using ht)<|by simpa using hd);have hg:=Gx t h.1<|hv 0 T v rfl rfl;obtain⟨m,h3⟩:=h1;obtain⟨z,hb,hi⟩:=YE t h.1 h3<|hw 0 T d rfl rfl;exact⟨by simp[hl],(z,x),⟨WJ t hb,hc⟩,⟨hi,he⟩,⟨_,hg,hb⟩,hx⟩
 |[],[],_::_,_,_,_,_,h,_=>h.elim
 |[],[],[],_::_,_,_,_,h,_=>h.elim
 |.d _::_,_::_,[],_,_,_,_,h,_=>h.elim
 |.d _::_,_::_,_::_,[],_,_,_,h,_=>h.elim
 |.d _::_,[],_,_,_,h,_,_,_=>h.elim
 |[],_::_,_,_,_,h,_,_,_=>h.elim
 |.q _::_,_,_,_,_,h,_,_,_=>h.elim
 |.own _ _::_,_,_,_,_,h,_,_,_=>h.elim
 |.var _ _::_,_,_,_,_,h,_,_,_=>h.elim
 |.fn _ _::_,_,_,_,_,h,_,_,_=>h.elim
end
theorem tm{H:Type}{enc:TypeId×Value->H}{P:Program}{f:Func}{s:ChangeSpec}{apart fresh ha:Bool}{W:World}{base:Nat}{args:Array Value}{ds gs:List (DataW H)}{before:List MemPlace}{sg:jo}{Xs:List TypeId}
 (hW:DataW.Whole enc P f.params.toList s.vars apart W args.toList ds gs before) (hb:s.vars=[]) (hj:∀(j:Nat) t v,f.params[j]? =some t->args[j]? =some v->SQ P W .any base t v)
 (ho:(SX P (f.params.toList++Xs)<|ds++gs).all (· <=reachBytes)=true)
 (hl:laidOutB P=true) (hr:∀t∈f.params.toList,P.readableRec t=true/\t<P.types.size) (he:cm P sg.dom f.params.toList) (hc:sg.cod=[.d .b]) (hS:zQ P sg) (hM:∀x,Ax sg.dom x->Gj P sg.dom f.params.toList x->sg.M x=some (hc▸true:uE sg.cod)) {B:TypeId} (hB:f.resultTypes= #[B]) (hs:P.underlying B=some .bool)
 (hi:s.fn H (ds++gs)={results:=[.lit (.bool true)],args:=ds}) (hk:sg.bk=0:=by rfl) (hg:Gv W:=by exact trivial):
 Calls P sg.f args W fun e W'=>∃v,e=.returned v/\s.post enc P f apart fresh ha false W args v W':=by
 obtain⟨p,q,hA,hV,hu,hD,hE⟩:=id hW;rw[hb]at hV
 cases gs with
 |cons g gs=>exact hV.elim
 |nil=>
  have hq:q=[]:=hV;subst hq;obtain⟨hm,x,hw,hy,hx⟩:=QS (vs:=args.toList) he (fun j t v ht hv=>hj j t v (by simpa using ht)<|by simpa using hv) hA (fun j t d ht hd n hn=>by
   have h1:(f.params.toList++Xs)[j]? =some t:=by grind
   have h2:(ds++[])[j]? =some d:=by rw[Ps];exact hd
   simpa using Pe.1 ho n (DataW.weights_mem_each h1 h2 n hn))
  refine(sD hS hk hc x (hM x hw hy) (vs:=args.toList) (by rw[hm,gr he]) (sH he x _) hx hg).mono ?_;rintro e W' ⟨rfl,hf⟩;refine⟨_,rfl,Af (pa:=before) (pv:=[]) hW (fun b sp hd=> ?_) (fun sp hz=> ?_) (fun sp _=> ?_) (by simp) hf⟩
  ·rw[hB,hi];exact⟨[],[],shut_bool hs _,rfl,rfl⟩
  ·rw[hi];have hC:SV enc P W 0 (fun _=>true) true f.params.toList args.toList ds before:=by rw[hu,Ps];exact hA
   exact Xb hl hr hC (fun p hp=>rF hf<|hW.lt p hp) hz
  ·rw[hb,hi];rfl
end
section
def H7:Operand->Option Tmp
 |.tmp t=>some t
 |_=>none
def zV(op:Op):List Tmp:=op.operands.toList.filterMap H7
def Lk(P:Program)(vs:Nat->Value)(env:yb)(S:Nat->Prop)(w:World)(cx σ:Sg)(t:Tmp):Prop:=
 ∀i d,get cx σ t i=some d->(xG P vs d (env t) i).p S w
def qK(P:Program)(vs:Nat->Value)(env:yb)(S:Nat->Prop)(w:World)(cx σ:Sg)(x:Operand):Prop:=∀t,H7 x=some t->Lk P vs env S w cx σ t
def ES(P:Program)(o:Oper)(cx σ:Sg)(F:List MF)(l:List (Nat×Dv)):Prop:=
 ∀(env:yb) (w:World) (S:Nat->Prop) (vs:Nat->Value),Tl w S->z7 S (MS vs σ.ob++(MS vs cx.ob++F)) w->(∀t∈zV o.op,Lk P vs env S w cx σ t)->
  xX P o env w (fun v w'=>jA w w'/\∀e∈l,(xG P vs e.2 v e.1).p S w')
section
variable{P:Program}{cf:Cf}{cx σ:Sg}{F:List MF}{vs:Nat->Value}{env:yb}{S:Nat->Prop}{w:World}{R:Type}{r:R}
 {d:Option Tmp}{ty t yt:TypeId}{pos:String}{aft:Array Edge}{g:Option (Nat×Bool)}{x y:Operand}
theorem zO{op:Op}(h:∀t∈zV op,Lk P vs env S w cx σ t)(hx:x∈op.operands.toList):qK P vs env S w cx σ x:=
 fun t ht=>h t<|Sq.2 ⟨x,hx,ht⟩
theorem za{v:Dv}(h:yx cx σ x=some v)(hl:qK P vs env S w cx σ x):(yW P vs v<|ev env x).p S w:=by
 cases x with
 |tmp t=>exact hl t rfl 0 v h
 |const c=>
  simp only[yx]at h;unfold cv at h;split at h
  ·split at h
   ·next hx=>cases h;exact yV hx
   ·cases h
  ·split at h
   ·next x hx=>
    cases h;have:(x.toNat:Int)=x:=Int.toNat_of_nonneg hx.1;have h2:x.toNat<18446744073709551616:=by lia
    have:=wh (S:=S) (w:=w) h2;rwa[‹(x.toNat:Int)=x›]at this
   ·cases h
  ·cases h;exact rfl
  ·split at h
   ·next x hx=>
    cases h;have:(x.toNat:Int)=x:=Int.toNat_of_nonneg hx.1;have h2:x.toNat<256:=by lia
    have:=JN (S:=S) (w:=w) h2;rwa[‹(x.toNat:Int)=x›]at this
   ·cases h
  ·split at h
   ·next hx=>cases h;exact J3 rfl hx
   ·cases h
  ·cases h;exact rfl
  ·cases h;exact rfl
  ·cases h;exact rfl
  ·cases h;exact rfl
  ·cases h
 |global g=>cases h
 |func f=>cases h;exact⟨[],rfl,rfl,trivial⟩
theorem KB{v:Dv}{u:Value}{p:PD}(h:CA v=some p)(hv:(yW P vs v u).p S w):(fV p.t.rep p.x u).p S w:=by
 cases v<;>simp only[CA,O6,reduceCtorEq]at h
 ·subst h;exact hv
 ·subst h;rw[show u=_ from hv];exact Wu
theorem Zs{p:PD}(h:pd cx σ x=some p)(hl:qK P vs env S w cx σ x):(fV p.t.rep p.x<|ev env x).p S w:=by
 unfold pd at h
 cases hv:yx cx σ x with
 |none=>rw[hv]at h;cases h
 |some v=>rw[hv]at h;exact KB h<|za hv hl
theorem xn{a:Int}(h:pd cx σ x=some ⟨.i,a⟩)(hl:qK P vs env S w cx σ x):ev env x=.int .i64 a/\kV a:=pf<|Zs h hl
theorem yM{a:Nat}(h:pd cx σ x=some ⟨.u,a⟩)(hl:qK P vs env S w cx σ x):ev env x=.int .u64 (a:Int)/\Zg a:=sQ<|Zs h hl
theorem jv{a:Nat}(h:pd cx σ x=some ⟨.ch,a⟩)(hl:qK P vs env S w cx σ x):ev env x=.int .u8 (a:Int)/\a<256:=nV<|Zs h hl
theorem lU{a:List Nat}(h:pd cx σ x=some ⟨.tx,a⟩)(hl:qK P vs env S w cx σ x):∃s:ByteArray,ev env x=.string s/\zL s=a/\s.size<=9223372036854775807:=YA<|Zs h hl
theorem AO{a:Bool}(h:pd cx σ x=some ⟨.b,a⟩)(hl:qK P vs env S w cx σ x):ev env x=.bool a:=Wi<|Zs h hl
theorem rS{v:Option Dv}{t:Ty}{k:t.D->Option R}(h:Vz v t k=some r):∃y:t.D,k y=some r/\∀(P:Program) vs S w (d:Dv) u,v=some d->(yW P vs d u).p S w->(fV t.rep y u).p S w:=by
 unfold Vz at h;split at h
 ·next=>
  cases t<;>simp only[reduceCtorEq]at h;exact⟨_,h,fun P vs S w d u hd hh=>by cases hd;rw[show u=_ from hh];exact tz⟩
 ·next=>
  cases t<;>simp only[reduceCtorEq]at h
  ·exact⟨_,h,fun P vs S w d u hd hh=>by cases hd;rw[show u=_ from hh];exact Ld⟩
  ·exact⟨_,h,fun P vs S w d u hd hh=>by cases hd;rw[show u=_ from hh];exact H6⟩
 ·next=>
  cases t<;>simp only[reduceCtorEq]at h;exact⟨_,h,fun P vs S w d u hd hh=>by cases hd;rw[show u=_ from hh];exact DI⟩
 ·next s y=>
  cases t<;>simp only[reduceCtorEq]at h
  ·obtain⟨e,h⟩:=zx h;subst e;exact⟨_,h,fun P vs S w d u hd hh=>by cases hd;exact LK hh⟩
  ·obtain⟨e,h⟩:=zx h;subst e;exact⟨_,h,fun P vs S w d u hd hh=>by cases hd;exact Ll hh⟩
 ·next v' hv _ _=>
  split at h
  ·next p hp=>
   obtain⟨e,h⟩:=zx h;subst e;exact⟨_,h,fun P vs S w d u hd hh=>by cases hd;exact KB hp hh⟩
  ·cases h
 ·cases h
theorem jw{t:Ty}{k:t.D->Option R}(h:Vz (yx cx σ x) t k=some r):∃y:t.D,k y=some r/\∀(P:Program) vs env S w,qK P vs env S w cx σ x->(fV t.rep y<|ev env x).p S w:=by
 obtain⟨y,h1,h2⟩:=rS h;refine⟨y,h1,fun P vs env S w hl=> ?_⟩
 cases hv:yx cx σ x with
 |none=>rw[hv]at h;cases h
 |some v=>exact h2 P vs S w v _ hv<|za hv hl
theorem zf{o:Oper}{l:List (Nat×Dv)}(h:∀env w S vs,(∀t∈zV o.op,Lk P vs env S w cx σ t)->∃v,(execOp (ev env) o).run P w=.ok (.value v) w/\∀e∈l,(xG P vs e.2 v e.1).p S w):ES P o cx σ F l:=by
 intro env w S vs hS hM hl;obtain⟨v,h1,h2⟩:=h env w S vs hl;exact xX.of_value h1 ⟨zH.refl _ _,h2⟩
theorem zd{v:Value}{dv:Dv}(h:(yW P vs dv v).p S w):∀e∈[(0,dv)],(xG P vs e.2 v e.1).p S w:=by
 intro e he;rw[OZ]at he;subst he;exact h
theorem wG{o:Oper}{l:List (Nat×Dv)}(h:∀env w S vs,z7 S (MS vs σ.ob++(MS vs cx.ob++F)) w->(∀t∈zV o.op,Lk P vs env S w cx σ t)->∃(U:Type) (val:U->Value) (facts:U->List FF) (ok:U->Prop) (Γ:List FF) (ms:List MF),
 ah P o env ms Γ val facts ok/\z7 S ms w/\ze S Γ w/\∀u w',ok u->ze S (facts u) w'->∀e∈l,(xG P vs e.2 (val u) e.1).p S w'):ES P o cx σ F l:=by
 intro env w S vs hS hM hl;obtain⟨U,val,facts,ok,Γ,ms,h1,ha,h2,h3⟩:=h env w S vs hM hl;refine(h1 w S hS ha h2).mono ?_;simp_all
theorem cq:∀(f i:Nat) (t:Nat) (e:Nat×Dv),e∈Cv cx σ t f i->get cx σ t e.1=some e.2
 |0,_,_,_,h=>absurd h UV
 |f+1,i,t,e,h=>by
  unfold Cv at h;split at h
  ·next d hd=>
   rcases OY.1 h with rfl|h
   ·exact hd
   ·exact cq f (i+1) t e h
  ·simp_all
theorem oZ{op:Op}(ha:op=.move x\/op=.assign x){k:List (Nat×Dv)->Option R}(h:fZ cx σ x k=some r):∃l,k l=some r/\ES P ⟨d,op,ty,pos,aft,g⟩ cx σ F l:=by
 have hr:∀env w,(execOp (ev env) ⟨d,op,ty,pos,aft,g⟩).run P w=.ok (.value<|ev env x) w:=fun env w=>by rcases ha with rfl|rfl<;>exact Yq rfl w
 have hm:x∈op.operands.toList:=by rcases ha with rfl|rfl<;>simp[O7]
 unfold fZ at h;split at h
 ·next v hv=>exact⟨_,h,zf fun env w S vs hl=>⟨_,hr env w,zd<|za hv<|zO hl hm⟩⟩
 ·unfold IA at h;split at h
  ·next t hx=>
   split at h
   ·cases h
   ·next l0 l hb=>
    exact⟨_,h,zf fun env w S vs hl=>⟨_,hr env w,fun e he=>zO hl hm t rfl _ _<|cq _ _ _ _ he⟩⟩
  ·cases h
theorem Ir{i:Nat}{k:List (Nat×Dv)->Option R}(h:Fw cx σ x i k=some r):∃l,k l=some r/\ES P ⟨d,.extract x i,ty,pos,aft,g⟩ cx σ F l:=by
 unfold Fw at h;split at h
 ·next t=>
  split at h
  ·next v hv=>
   refine⟨_,h,?_⟩;intro env w S vs hS hM hl;obtain⟨us,u,h1,h2,h3⟩:=zO hl (x:=.tmp t) (by simp[O7]) t rfl (i+1) v hv;exact xX.of_value (Yq (by simp only[pv,ev,h1];exact h2) w) ⟨zH.refl _ _,zd h3⟩
  ·cases h
 ·cases h
theorem NJ{k:List (Nat×Dv)->Option R}(h:Bw cx σ x k=some r):∃v,yx cx σ x=some v/\k [(0,v)]=some r:=by grind [Bw]
theorem Fa{c:Operand}{k:List (Nat×Dv)->Option R}(h:rY cx σ c x y k=some r):∃l,k l=some r/\ES P ⟨d,.pick c x y,ty,pos,aft,g⟩ cx σ F l:=by
 unfold rY at h;split at h
 ·next hc=>
  obtain⟨v,hv,h⟩:=NJ h;exact⟨_,h,zf fun env w S vs hl=>⟨_,AH (za hc<|zO hl<|by simp[O7]) rfl w,zd<|za hv<|zO hl<|by simp[O7]⟩⟩
 ·next hc=>
  obtain⟨v,hv,h⟩:=NJ h;exact⟨_,h,zf fun env w S vs hl=>⟨_,Az (za hc<|zO hl<|by simp[O7]) rfl w,zd<|za hv<|zO hl<|by simp[O7]⟩⟩
 ·cases h
theorem IU{k:List (Nat×Dv)->Option R}(h:Fc cx σ x k=some r):∃l,k l=some r/\ES P ⟨d,.unOp .not t x,ty,pos,aft,g⟩ cx σ F l:=by
 unfold Fc at h;split at h
 ·next b hb=>exact⟨_,h,zf fun env w S vs hl=>⟨_,DV (za hb<|zO hl<|by simp[O7]) w,zd<|by exact rfl⟩⟩
 ·next b hb=>exact⟨_,h,zf fun env w S vs hl=>⟨_,DV (Wi<|za hb<|zO hl<|by simp[O7]) w,zd<|by exact Wu⟩⟩
 ·cases h
theorem Ia{k:List (Nat×Dv)->Option R}(h:ET cx σ x k=some r):∃l,k l=some r/\ES P ⟨d,.unOp .neg t x,ty,pos,aft,g⟩ cx σ F l:=by
 unfold ET at h;split at h
 ·next a ha=>
  obtain⟨z,hz,hr,h⟩:=kO h;exact⟨_,h,zf fun env w S vs hl=>⟨_,DU (xn ha<|zO hl<|by simp[O7]).1 (oj hz hr) w,zd<|yV hr⟩⟩
 ·next a ha=>
  obtain⟨z,hz,h⟩:=yI h;exact⟨_,h,zf fun env w S vs hl=>by
   obtain⟨h1,h2⟩:=yM ha (zO hl<|by simp[O7]);exact⟨_,DU h1 (YZ hz<|FT h2) w,zd<|wh<|jy hz⟩⟩
 ·cases h
theorem ak{p:Prop}[Decidable p]{k:List (Nat×Dv)->Option R}(h:(if p then k [(0,.kb true)]else k [(0,.kb false)])=some r):k [(0,.kb<|decide p)]=some r:=by grind
theorem Hi{p:Prop}[Decidable p]{k:List (Nat×Dv)->Option R}(h:(if p then k [(0,.kb false)]else k [(0,.kb true)])=some r):k [(0,.kb (!decide p))]=some r:=by grind
theorem MM{bo:BinOp}{a c:Int}{k:List (Nat×Dv)->Option R}(h:Mr bo a c (fun v=>k [(0,v)])=some r)(ha:pd cx σ x=some ⟨.i,a⟩)(hc:pd cx σ y=some ⟨.i,c⟩):
 ∃l,k l=some r/\ES P ⟨d,.binOp bo t x y yt,ty,pos,aft,g⟩ cx σ F l:=by
 have hx:∀{vs env S w},(∀t'∈zV (.binOp bo t x y yt),Lk P vs env S w cx σ t')->qK P vs env S w cx σ x:=fun hl=>zO hl (by simp[O7]);have hy:∀{vs env S w},(∀t'∈zV (.binOp bo t x y yt),Lk P vs env S w cx σ t')->qK P vs env S w cx σ y:=fun hl=>zO hl (by simp[O7]);cases bo<;>simp only[Mr,reduceCtorEq]at h
 case add=>obtain⟨z,hz,hr,h⟩:=kO h;exact⟨_,h,zf fun env w S vs hl=>⟨_,Vp (xn ha<|hx hl).1 (xn hc<|hy hl).1 (oj hz hr) w,zd<|yV hr⟩⟩
 case sub=>obtain⟨z,hz,hr,h⟩:=kO h;exact⟨_,h,zf fun env w S vs hl=>⟨_,rP (xn ha<|hx hl).1 (xn hc<|hy hl).1 (oj hz hr) w,zd<|yV hr⟩⟩
 case mul=>obtain⟨z,hz,hr,h⟩:=kO h;exact⟨_,h,zf fun env w S vs hl=>⟨_,DK (xn ha<|hx hl).1 (xn hc<|hy hl).1 (oj hz hr) w,zd<|yV hr⟩⟩
 case quo=>obtain⟨h0,h⟩:=wK h;obtain⟨z,hz,hr,h⟩:=kO h;exact⟨_,h,zf fun env w S vs hl=>⟨_,DC (xn ha<|hx hl).1 (xn hc<|hy hl).1 h0 (oj hz hr) w,zd<|yV hr⟩⟩
 case rem=>obtain⟨h0,h⟩:=wK h;obtain⟨z,hz,h⟩:=yI h;exact⟨_,h,zf fun env w S vs hl=>⟨_,DE (xn ha<|hx hl).1 (xn hc<|hy hl).1 h0 hz.symm w,zd<|yV<|DX (xn ha<|hx hl).2 hz⟩⟩
 case and=>obtain⟨z,hz,h⟩:=yI h;exact⟨_,h,zf fun env w S vs hl=>⟨_,Da (xn ha<|hx hl).1 (xn hc<|hy hl).1 (AF.trans hz.symm) w,zd<|yV<|pw hz<|Gf _ _⟩⟩
 case or=>obtain⟨z,hz,h⟩:=yI h;exact⟨_,h,zf fun env w S vs hl=>⟨_,Lf (xn ha<|hx hl).1 (xn hc<|hy hl).1 (EU.trans hz.symm) w,zd<|yV<|pw hz<|Lg _ _⟩⟩
 case shr=>obtain⟨h0,h⟩:=wK h;obtain⟨z,hz,h⟩:=yI h;exact⟨_,h,zf fun env w S vs hl=>⟨_,QL (xn ha<|hx hl).1 (xn hc<|hy hl).1 h0 hz.symm w,zd<|yV<|pO (xn ha<|hx hl).2 hz⟩⟩
 case shl=>obtain⟨h0,h⟩:=wK h;obtain⟨z,hz,hr,h⟩:=kO h;exact⟨_,h,zf fun env w S vs hl=>⟨_,ib (xn ha<|hx hl).1 (xn hc<|hy hl).1 h0 (oj hz hr) w,zd<|yV hr⟩⟩
 case lss=>exact⟨[(0,.kb<|decide<|a<c)],ak h,zf fun env w S vs hl=>⟨_,rU (xn ha<|hx hl).1 (xn hc<|hy hl).1 w,zd<|by exact rfl⟩⟩
 case leq=>exact⟨[(0,.kb<|decide<|a<=c)],ak h,zf fun env w S vs hl=>⟨_,sE (xn ha<|hx hl).1 (xn hc<|hy hl).1 w,zd<|by exact rfl⟩⟩
 case gtr=>exact⟨[(0,.kb<|decide<|c<a)],ak h,zf fun env w S vs hl=>⟨_,pj (xn ha<|hx hl).1 (xn hc<|hy hl).1 w,zd<|by exact rfl⟩⟩
 case geq=>exact⟨[(0,.kb<|decide<|c<=a)],ak h,zf fun env w S vs hl=>⟨_,ph (xn ha<|hx hl).1 (xn hc<|hy hl).1 w,zd<|by exact rfl⟩⟩
 case eql=>exact⟨[(0,.kb<|decide<|a=c)],ak h,zf fun env w S vs hl=>⟨_,sF (xn ha<|hx hl).1 (xn hc<|hy hl).1 w,zd<|by exact rfl⟩⟩
 case neq=>exact⟨[(0,.kb (!decide (a=c)))],Hi h,zf fun env w S vs hl=>⟨_,oH (xn ha<|hx hl).1 (xn hc<|hy hl).1 w,zd<|by exact rfl⟩⟩
theorem MC{bo:BinOp}{a c:Nat}{k:List (Nat×Dv)->Option R}(h:(match bo with
 |.shr=>ml .shr a c<|fun v=>k [(0,v)]
 |.shl=>ml .shl a c<|fun v=>k [(0,v)]
 |bo=>Nx bo a c<|fun v=>k [(0,v)])=some r) (ha:pd cx σ x=some ⟨.u,a⟩) (hc:pd cx σ y=some ⟨.u,c⟩):
 ∃l,k l=some r/\ES P ⟨d,.binOp bo t x y yt,ty,pos,aft,g⟩ cx σ F l:=by
 have hx:∀{vs env S w},(∀t'∈zV (.binOp bo t x y yt),Lk P vs env S w cx σ t')->qK P vs env S w cx σ x:=fun hl=>zO hl (by simp[O7]);have hy:∀{vs env S w},(∀t'∈zV (.binOp bo t x y yt),Lk P vs env S w cx σ t')->qK P vs env S w cx σ y:=fun hl=>zO hl (by simp[O7]);split at h
 ·simp only[ml]at h;obtain⟨z,hz,h⟩:=yI h;exact⟨_,h,zf fun env w S vs hl=>⟨_,QL (yM ha<|hx hl).1 (yM hc<|hy hl).1 (R5 _) (lP hz XT) w,zd<|wh<|VQ (yM ha<|hx hl).2 hz⟩⟩
 ·simp only[ml]at h;obtain⟨z,hz,h⟩:=yI h;exact⟨_,h,zf fun env w S vs hl=>⟨_,ib (yM ha<|hx hl).1 (yM hc<|hy hl).1 (R5 _) (YZ hz gw) w,zd<|wh<|jy hz⟩⟩
 ·next hb hd=>
  cases bo<;>simp only[Nx,reduceCtorEq]at h
  case add=>obtain⟨z,hz,h⟩:=yI h;exact⟨_,h,zf fun env w S vs hl=>⟨_,Vp (yM ha<|hx hl).1 (yM hc<|hy hl).1 (YZ hz AJ) w,zd<|wh<|jy hz⟩⟩
  case sub=>obtain⟨z,hz,h⟩:=yI h;exact⟨_,h,zf fun env w S vs hl=>⟨_,rP (yM ha<|hx hl).1 (yM hc<|hy hl).1 (YZ hz<|Bx<|xab (yM hc<|hy hl).2) w,zd<|wh<|jy hz⟩⟩
  case mul=>obtain⟨z,hz,h⟩:=yI h;exact⟨_,h,zf fun env w S vs hl=>⟨_,DK (yM ha<|hx hl).1 (yM hc<|hy hl).1 (YZ hz A6) w,zd<|wh<|jy hz⟩⟩
  case quo=>obtain⟨h0,h⟩:=wK h;obtain⟨z,hz,h⟩:=yI h;exact⟨_,h,zf fun env w S vs hl=>⟨_,DC (yM ha<|hx hl).1 (yM hc<|hy hl).1 (Hn h0) (YZ hz<|mH (yM ha<|hx hl).2) w,zd<|wh<|VQ (yM ha<|hx hl).2 hz⟩⟩
  case rem=>obtain⟨h0,h⟩:=wK h;obtain⟨z,hz,h⟩:=yI h;exact⟨_,h,zf fun env w S vs hl=>⟨_,DE (yM ha<|hx hl).1 (yM hc<|hy hl).1 (Hn h0) (lP hz Hs) w,zd<|wh<|Gy (yM ha<|hx hl).2 hz⟩⟩
  case and=>obtain⟨z,hz,h⟩:=yI h;exact⟨_,h,zf fun env w S vs hl=>⟨_,Da (yM ha<|hx hl).1 (yM hc<|hy hl).1 (YZ hz<|B9 (yM ha<|hx hl).2 (yM hc<|hy hl).2) w,zd<|wh<|B7 hz<|X9 (yM ha<|hx hl).2⟩⟩
  case or=>obtain⟨z,hz,h⟩:=yI h;exact⟨_,h,zf fun env w S vs hl=>⟨_,Lf (yM ha<|hx hl).1 (yM hc<|hy hl).1 (YZ hz<|GP (yM ha<|hx hl).2 (yM hc<|hy hl).2) w,zd<|wh<|B7 hz<|VO (yM ha<|hx hl).2 (yM hc<|hy hl).2⟩⟩
  case xor=>obtain⟨z,hz,h⟩:=yI h;exact⟨_,h,zf fun env w S vs hl=>⟨_,Iz (yM ha<|hx hl).1 (yM hc<|hy hl).1 (YZ hz<|Ch (yM ha<|hx hl).2 (yM hc<|hy hl).2) w,zd<|wh<|B7 hz<|dt (yM ha<|hx hl).2 (yM hc<|hy hl).2⟩⟩
  case lss=>exact⟨[(0,.kb<|decide<|(a:Int)<(c:Int))],ak h,zf fun env w S vs hl=>⟨_,rU (yM ha<|hx hl).1 (yM hc<|hy hl).1 w,zd<|by exact rfl⟩⟩
  case leq=>exact⟨[(0,.kb<|decide<|(a:Int)<=(c:Int))],ak h,zf fun env w S vs hl=>⟨_,sE (yM ha<|hx hl).1 (yM hc<|hy hl).1 w,zd<|by exact rfl⟩⟩
  case gtr=>exact⟨[(0,.kb<|decide<|(c:Int)<(a:Int))],ak h,zf fun env w S vs hl=>⟨_,pj (yM ha<|hx hl).1 (yM hc<|hy hl).1 w,zd<|by exact rfl⟩⟩
  case geq=>exact⟨[(0,.kb<|decide<|(c:Int)<=(a:Int))],ak h,zf fun env w S vs hl=>⟨_,ph (yM ha<|hx hl).1 (yM hc<|hy hl).1 w,zd<|by exact rfl⟩⟩
  case eql=>exact⟨[(0,.kb<|decide<|(a:Int)=(c:Int))],ak h,zf fun env w S vs hl=>⟨_,sF (yM ha<|hx hl).1 (yM hc<|hy hl).1 w,zd<|by exact rfl⟩⟩
  case neq=>exact⟨[(0,.kb (!decide ((a:Int)=(c:Int))))],Hi h,zf fun env w S vs hl=>⟨_,oH (yM ha<|hx hl).1 (yM hc<|hy hl).1 w,zd<|by exact rfl⟩⟩
theorem NB{bo:BinOp}{a:Nat}{c:Int}{k:List (Nat×Dv)->Option R}(h:Mv bo a c (fun v=>k [(0,v)])=some r)(ha:pd cx σ x=some ⟨.u,a⟩)(hc:pd cx σ y=some ⟨.i,c⟩):
 ∃l,k l=some r/\ES P ⟨d,.binOp bo t x y yt,ty,pos,aft,g⟩ cx σ F l:=by
 have hx:∀{vs env S w},(∀t'∈zV (.binOp bo t x y yt),Lk P vs env S w cx σ t')->qK P vs env S w cx σ x:=fun hl=>zO hl (by simp[O7]);have hy:∀{vs env S w},(∀t'∈zV (.binOp bo t x y yt),Lk P vs env S w cx σ t')->qK P vs env S w cx σ y:=fun hl=>zO hl (by simp[O7]);unfold Mv at h;split at h
 ·obtain⟨h0,h⟩:=wK h;obtain⟨z,hz,h⟩:=yI h;exact⟨_,h,zf fun env w S vs hl=>⟨_,QL (yM ha<|hx hl).1 (xn hc<|hy hl).1 h0 (lP hz XT) w,zd<|wh<|VQ (yM ha<|hx hl).2 hz⟩⟩
 ·obtain⟨h0,h⟩:=wK h;obtain⟨z,hz,h⟩:=yI h;exact⟨_,h,zf fun env w S vs hl=>⟨_,ib (yM ha<|hx hl).1 (xn hc<|hy hl).1 h0 (YZ hz gw) w,zd<|wh<|jy hz⟩⟩
 ·cases h
theorem Nf{bo:BinOp}{a:Int}{c:Nat}{k:List (Nat×Dv)->Option R}(h:Mo bo a c (fun v=>k [(0,v)])=some r)(ha:pd cx σ x=some ⟨.i,a⟩)(hc:pd cx σ y=some ⟨.u,c⟩):
 ∃l,k l=some r/\ES P ⟨d,.binOp bo t x y yt,ty,pos,aft,g⟩ cx σ F l:=by
 have hx:∀{vs env S w},(∀t'∈zV (.binOp bo t x y yt),Lk P vs env S w cx σ t')->qK P vs env S w cx σ x:=fun hl=>zO hl (by simp[O7]);have hy:∀{vs env S w},(∀t'∈zV (.binOp bo t x y yt),Lk P vs env S w cx σ t')->qK P vs env S w cx σ y:=fun hl=>zO hl (by simp[O7]);unfold Mo at h;split at h
 ·obtain⟨z,hz,h⟩:=yI h;exact⟨_,h,zf fun env w S vs hl=>⟨_,QL (xn ha<|hx hl).1 (yM hc<|hy hl).1 (R5 _) hz.symm w,zd<|yV<|pO (xn ha<|hx hl).2 hz⟩⟩
 ·obtain⟨z,hz,hr,h⟩:=kO h;exact⟨_,h,zf fun env w S vs hl=>⟨_,ib (xn ha<|hx hl).1 (yM hc<|hy hl).1 (R5 _) (oj hz hr) w,zd<|yV hr⟩⟩
 ·cases h
theorem Nk{bo:BinOp}{a c:Bool}{tb:Bool}{k:List (Nat×Dv)->Option R}(h:xV tb (MJ bo a c<|fun v=>k [(0,v)])=some r)(ha:pd cx σ x=some ⟨.b,a⟩)(hc:pd cx σ y=some ⟨.b,c⟩)(hb:tb=true->P.underlying t=some .bool):
 ∃l,k l=some r/\ES P ⟨d,.binOp bo t x y yt,ty,pos,aft,g⟩ cx σ F l:=by
 have hx:∀{vs env S w},(∀t'∈zV (.binOp bo t x y yt),Lk P vs env S w cx σ t')->qK P vs env S w cx σ x:=fun hl=>zO hl (by simp[O7]);have hy:∀{vs env S w},(∀t'∈zV (.binOp bo t x y yt),Lk P vs env S w cx σ t')->qK P vs env S w cx σ y:=fun hl=>zO hl (by simp[O7]);obtain⟨hd,h⟩:=zw h;unfold MJ at h;split at h
 ·obtain⟨z,hz,h⟩:=yI h;exact⟨_,h,zf fun env w S vs hl=>⟨_,nU (HL (hb hd) (AO ha<|hx hl)<|AO hc<|hy hl) hz w,zd Wu⟩⟩
 ·obtain⟨z,hz,h⟩:=yI h;exact⟨_,h,zf fun env w S vs hl=>⟨_,nU (IZ (hb hd) (AO ha<|hx hl)<|AO hc<|hy hl) hz w,zd Wu⟩⟩
 ·cases h
theorem Ue(x:Int):xac.wrap x=x%256:=by
 rfl
theorem ER{a b:Nat}:xac.wrap ((a:Int)+(b:Int))=(((a+b)%256:Nat):Int):=by rw[Ue];lia
theorem EA{a b:Nat}(h:b<=256):xac.wrap ((a:Int)-(b:Int))=(((a+256-b)%256:Nat):Int):=by rw[Ue];lia
theorem sZ{n z:Nat}(h:z=n%256):z<256:=by rw[h];exact RN _<|by decide
theorem Np{bo:BinOp}{a c:Nat}{k:List (Nat×Dv)->Option R}(h:Na bo a c (fun v=>k [(0,v)])=some r)(ha:pd cx σ x=some ⟨.ch,a⟩)(hc:pd cx σ y=some ⟨.ch,c⟩):
 ∃l,k l=some r/\ES P ⟨d,.binOp bo t x y yt,ty,pos,aft,g⟩ cx σ F l:=by
 have hx:∀{vs env S w},(∀t'∈zV (.binOp bo t x y yt),Lk P vs env S w cx σ t')->qK P vs env S w cx σ x:=fun hl=>zO hl (by simp[O7]);have hy:∀{vs env S w},(∀t'∈zV (.binOp bo t x y yt),Lk P vs env S w cx σ t')->qK P vs env S w cx σ y:=fun hl=>zO hl (by simp[O7]);cases bo<;>simp only[Na,reduceCtorEq]at h
 case add=>obtain⟨z,hz,h⟩:=yI h;exact⟨_,h,zf fun env w S vs hl=>⟨_,Vp (jv ha<|hx hl).1 (jv hc<|hy hl).1 (YZ hz ER) w,zd<|JN<|sZ hz⟩⟩
 case sub=>obtain⟨z,hz,h⟩:=yI h;exact⟨_,h,zf fun env w S vs hl=>⟨_,rP (jv ha<|hx hl).1 (jv hc<|hy hl).1 (YZ hz<|EA<|xab (jv hc<|hy hl).2) w,zd<|JN<|sZ hz⟩⟩
 case lss=>exact⟨[(0,.kb<|decide<|(a:Int)<(c:Int))],ak h,zf fun env w S vs hl=>⟨_,rU (jv ha<|hx hl).1 (jv hc<|hy hl).1 w,zd<|by exact rfl⟩⟩
 case leq=>exact⟨[(0,.kb<|decide<|(a:Int)<=(c:Int))],ak h,zf fun env w S vs hl=>⟨_,sE (jv ha<|hx hl).1 (jv hc<|hy hl).1 w,zd<|by exact rfl⟩⟩
 case gtr=>exact⟨[(0,.kb<|decide<|(c:Int)<(a:Int))],ak h,zf fun env w S vs hl=>⟨_,pj (jv ha<|hx hl).1 (jv hc<|hy hl).1 w,zd<|by exact rfl⟩⟩
 case geq=>exact⟨[(0,.kb<|decide<|(c:Int)<=(a:Int))],ak h,zf fun env w S vs hl=>⟨_,ph (jv ha<|hx hl).1 (jv hc<|hy hl).1 w,zd<|by exact rfl⟩⟩
 case eql=>exact⟨[(0,.kb<|decide<|(a:Int)=(c:Int))],ak h,zf fun env w S vs hl=>⟨_,sF (jv ha<|hx hl).1 (jv hc<|hy hl).1 w,zd<|by exact rfl⟩⟩
 case neq=>exact⟨[(0,.kb (!decide ((a:Int)=(c:Int))))],Hi h,zf fun env w S vs hl=>⟨_,oH (jv ha<|hx hl).1 (jv hc<|hy hl).1 w,zd<|by exact rfl⟩⟩
theorem Va{s u:ByteArray}:(s.toList==u.toList)=decide (zL s=zL u):=by
 rw[ByteArray.toList_eq,ByteArray.toList_eq];unfold zL;by_cases h:s.data.toList=u.data.toList
 ·grind
 ·have h2:=fun e=>h (List.map_inj_right (fun x y=>UInt8.toNat_inj.1)|>.1 e);simp_all
theorem Q5(s u:ByteArray):zL (s++u)=zL s++zL u:=by
 unfold zL;simp
theorem nX{s u:ByteArray}(h:(zL s).length+(zL u).length<=9223372036854775807)(w:World):(Op.stringOp .add s u).run P w=.ok (.string<|s++u) w:=by
 rw[yN,yN]at h;have h5:¬(((s.size+u.size:Nat):Int)>RJ.max):=by
  have:RJ.max=9223372036854775807:=rfl;lia
 unfold Op.stringOp;simp_all
theorem H0{bo:BinOp}{a c:List Nat}{k:List (Nat×Dv)->Option R}(h:MI bo a c (fun v=>k [(0,v)])=some r)(ha:pd cx σ x=some ⟨.tx,a⟩)(hc:pd cx σ y=some ⟨.tx,c⟩):
 ∃l,k l=some r/\ES P ⟨d,.binOp bo t x y yt,ty,pos,aft,g⟩ cx σ F l:=by
 have hx:∀{vs env S w},(∀t'∈zV (.binOp bo t x y yt),Lk P vs env S w cx σ t')->qK P vs env S w cx σ x:=fun hl=>zO hl (by simp[O7]);have hy:∀{vs env S w},(∀t'∈zV (.binOp bo t x y yt),Lk P vs env S w cx σ t')->qK P vs env S w cx σ y:=fun hl=>zO hl (by simp[O7]);cases bo<;>simp only[MI,reduceCtorEq]at h
 case add=>
  obtain⟨h0,h⟩:=wK h;obtain⟨z,hz,h⟩:=yI h;refine⟨_,h,zf fun env w S vs hl=> ?_⟩;obtain⟨s,e1,e2,_⟩:=lU ha<|hx hl;obtain⟨u,e3,e4,_⟩:=lU hc<|hy hl;have h6:(zL s).length+(zL u).length<=9223372036854775807:=by rw[e2,e4];exact h0
  refine⟨.string<|s++u,?_,zd<|J3 (by rw[Q5,e2,e4];exact hz.symm)<|by rw[<-yN,Q5,O1];exact h6⟩;simp[execOp,e1,e3,eqGuard,binOp_string_add,nX (P:=P) h6 w]
 case eql=>
  refine⟨[(0,.kb<|decide<|a=c)],ak h,zf fun env w S vs hl=> ?_⟩;obtain⟨s,e1,e2,_⟩:=lU ha<|hx hl;obtain⟨u,e3,e4,_⟩:=lU hc<|hy hl;refine⟨.bool<|decide<|a=c,?_,zd<|by exact rfl⟩;rw[<-e2,<-e4,<-Va];simp[execOp,e1,e3,eqGuard,binOp_string_eql]
 case neq=>
  refine⟨[(0,.kb (!decide (a=c)))],Hi h,zf fun env w S vs hl=> ?_⟩;obtain⟨s,e1,e2,_⟩:=lU ha<|hx hl;obtain⟨u,e3,e4,_⟩:=lU hc<|hy hl;refine⟨.bool (!decide (a=c)),?_,zd<|by exact rfl⟩;rw[<-e2,<-e4,<-Va];simp[execOp,e1,e3,eqGuard,binOp_string_neq]
theorem N9{tb:Bool}{bo:BinOp}{k:List (Nat×Dv)->Option R}(h:Fi tb bo (pd cx σ x) (pd cx σ y) (fun v=>k [(0,v)])=some r)(hb:tb=true->P.underlying t=some .bool):
 ∃l,k l=some r/\ES P ⟨d,.binOp bo t x y yt,ty,pos,aft,g⟩ cx σ F l:=by
 unfold Fi at h;split at h
 ·next a c ha hc=>exact MM h ha hc
 ·next a c ha hc=>exact MC h ha hc
 ·next a c ha hc=>exact NB h ha hc
 ·next a c ha hc=>exact Nf h ha hc
 ·next a c ha hc=>exact Nk h ha hc hb
 ·next a c ha hc=>exact Np h ha hc
 ·next a c ha hc=>exact H0 h ha hc
 ·cases h
end
end
section
theorem da{S:Nat->Prop}{w:World}:∀l:List UInt8,zX ZN S (l.map R7) (l.map fun b=>Value.int .u8 b.toNat) w
 |[]=>rfl
 |b::l=>⟨[_],_,rfl,⟨rfl,b.toNat_lt⟩,da l⟩
section
variable{P:Program}{ms:List MF}{Γ:List FF}{env:yb}{d:Option Tmp}{ty s t:TypeId}{pos:String}{aft:Array Edge}{g:Option (Nat×Bool)}{x:Operand}
theorem pX{E:TypeId}{b:ByteArray}(hs:P.underlying s=some .string)(ht:P.underlying t=some (.slice E))(hE:P.underlying E=some (.int .u8))(hx:ev env x=.string b)(hb:b.size<=9223372036854775807):
 ah P ⟨d,.convert s t x,ty,pos,aft,g⟩ env ms Γ (fun v:Value=>v) (fun v=>[fV (eS ZN) (zL b) v]) (fun _=>True):=by
 intro w S hS _ hΓ;have xx:jA w (Lib.bytesWorld w E b):=⟨rfl,rfl,rfl,by rw[Lib.bytesWorld_size];lia,fun k hk _=>Lib.bytesWorld_at_old w E b k hk⟩;refine xX.of_value (v:=.slice (some ⟨w.heap.size,0,none⟩) b.size<|grownCap w b.size 0 E) (by simp[execOp,hx,Lib.run_convert_string_bytes w s t E b hs ht hE]) ⟨_,rfl,trivial,xx,⟨yX.2 ⟨some ⟨w.heap.size,0,none⟩,grownCap w b.size 0 E,by rw[yN],by rw[yN];exact grownCap_ge w b.size 0 E,grownCap_le_maxLen w b.size 0 E (by unfold maxLen;exact hb),.inr ⟨_,_,_,rfl,hS.up _<|O3 _,?_,da b.data.toList⟩⟩,trivial⟩⟩;refine⟨by rw[Lib.bytesWorld_size];exact Ru _,fun j v hv=> ?_⟩;obtain⟨hj,hv⟩:=O4.1 hv;have ha:j<b.size:=by simpa using hj
 have h:=Lib.bytesWorld_cell w E b j ha;simp_all
end
end
section
section
variable{P:Program}{cf:Cf}{cx σ:Sg}{F:List MF}{vs:Nat->Value}{env:yb}{S:Nat->Prop}{w:World}{R:Type}{r:R}
 {d:Option Tmp}{ty t yt:TypeId}{pos:String}{aft:Array Edge}{g:Option (Nat×Bool)}{x y:Operand}
theorem jK{s:TypeId}{q:Ty}{k:IntKind}{B:Nat}(hT:ya P cf.tt)(h:vV cf s=some ⟨q,.int k,B⟩):P.underlying s=some (.int k):=(hT _ _ h).2.2.2
theorem xF{s E:TypeId}{q:Ty}{B:Nat}(hT:ya P cf.tt)(h:vV cf s=some ⟨q,.sl E,B⟩):P.underlying s=some (.slice E):=(hT _ _ h).2.2.2.1
theorem W2{s:TypeId}{q:Ty}{B:Nat}(hT:ya P cf.tt)(h:vV cf s=some ⟨q,.str,B⟩):P.underlying s=some .string:=(hT _ _ h).2.2.2
theorem B6(hT:ya P cf.tt):Nq cf t=true->P.underlying t=some .bool:=by
 intro h;unfold Nq at h;split at h
 ·next q B hu=>exact(hT _ _ hu).2.2.2
 ·cases h
theorem ui{s E:TypeId}{e:Ty}{B:Nat}(hT:ya P cf.tt)(hL:vd P cf.tt)(h:vV cf s=some ⟨.l e,.sl E,B⟩):∃bytes zero,jJ P E e.rep.agg e.rep.n bytes zero:=by
 obtain⟨ti,h1,rfl⟩:=hL _ _ _ _ h;obtain⟨⟨zero,h2,_⟩,_⟩:=hT _ _ h1;grind
theorem qn{ti:TI}(hT:ya P cf.tt)(h:vV cf t=some ti):∃zero,jJ P t ti.ty.rep.agg ti.ty.rep.n ti.B zero/\zero.cells.size=ti.ty.rep.n/\∀S w,ti.ty.rep.p S ti.ty.z zero.cells.toList w:=by
 obtain⟨zero,h1,h2,h3,_⟩:=(hT _ _ h).1;grind
theorem dU{ti:TI}{s:Ty}(hT:ya P cf.tt)(h:vV cf t=some ti)(hs:ti.ty=.l s):jJ P t false 1 ti.B (.slice none 0 0):=by
 obtain⟨zero,h1,_,_,h4⟩:=(hT _ _ h).1;rw[h4.1 s hs,hs]at h1;exact h1
theorem Ig{a:Nat}(h:a<256):kV (a:Int):=by unfold kV;lia
theorem Lb{a:Nat}(h:a<256):a<18446744073709551616:=by lia
theorem MB{a:Nat}(h:a<256):xac.wrap (a:Int)=(a:Int):=by rw[Ue];lia
theorem OM{a:Nat}:xac.wrap (a:Int)=((a%256:Nat):Int):=by rw[Ue];lia
theorem cR{S:Nat->Prop}{w:World}:∀{xs:List Nat}{cs:List Value},zX ZN S xs cs w->cs=xs.map (fun x:Nat=>Value.int .u8 (x:Int))/\∀x∈xs,x<256
 |[],cs,h=>⟨h,fun x hx=>absurd hx UV⟩
 |x::xs,cs,⟨c,r,h1,h2,h3⟩=>by
  obtain⟨e1,e2⟩:=cR h3;obtain⟨e3,e4⟩:=h2;refine⟨by rw[h1,e3,e1];rfl,fun y hy=> ?_⟩;rcases OY.1 hy with rfl|hy
  ·exact e4
  ·simp_all
theorem FJ{s t E:TypeId}{xs:List Nat}{v:Value}{S:Nat->Prop}{w:World}(hs:P.underlying s=some (.slice E))(hE:P.underlying E=some (.int .u8))(ht:P.underlying t=some .string)(hv:(fV (eS ZN) xs v).p S w):
 ∃u:ByteArray,(convert s t v).run P w=.ok (.string u) w/\zL u=xs/\u.size<=9223372036854775807:=by
 obtain⟨ao,cap,rfl,hg,hb,h⟩:=yX.1 hv;have key:∀a,ao=some a->(∀x∈xs,x<256)->(∀j (hj:j<xs.length),w.cell? (a.add j)=some (.int .u8 ((xs[j]:Nat):Int)))->∃u:ByteArray,(convert s t (.slice ao xs.length cap)).run P w=.ok (.string u) w/\zL u=xs/\u.size<=9223372036854775807:=by
  rintro a rfl hx hj;have hm:(xs.map P5).map R7=xs:=by
   rw[Sz];conv=>rhs;rw[<-List.map_id xs]
   exact RZ fun x hc=>UInt8.toNat_ofNat_of_lt'<|hx x hc
  have hr:=run_convert_bytes_back (P:=P) w s t E a cap (xs.map P5) hs hE ht (fun j hd=>by
   have ha:j<xs.length:=by simpa using hd
   rw[hj j ha,List.getElem_map,UInt8.toNat_ofNat_of_lt'<|hx _<|Rm ha])
  rw[Rp]at hr;refine⟨_,hr,by unfold zL;simpa using hm,?_⟩;rw[<-yN];unfold zL;rw[Rp];simp;unfold maxLen at hb;lia
 rcases h with rfl|⟨b,o,cs,rfl,_,he,hf⟩
 ·cases ao with
  |some a=>exact key a rfl (fun x hx=>absurd hx UV)<|fun j hj=>absurd hj<|TZ _
  |none=>
   refine⟨ByteArray.empty,?_,rfl,by decide⟩;rw[run_convert_bytes_string w s t E none _ cap hs hE ht];rfl
 ·obtain⟨e1,e2⟩:=cR hf;refine key _ rfl e2 fun j hj=> ?_;have:=he.2 j (.int .u8 ((xs[j]:Nat):Int)) (by rw[e1,Rz,Pb hj];rfl);rw[xH];exact this
theorem LV(hT:ya P cf.tt){s t:TypeId}{k:List (Nat×Dv)->Option R}(h:FY cf cx σ s t x k=some r):∃l,k l=some r/\ES P ⟨d,.convert s t x,ty,pos,aft,g⟩ cx σ F l:=by
 have hx:∀{vs env S w},(∀t'∈zV (.convert s t x),Lk P vs env S w cx σ t')->qK P vs env S w cx σ x:=fun hl=>zO hl (by simp[O7]);unfold FY at h;split at h
 ·next q k1 B ti hs ht=>
  have hb:=jK hT hs;obtain⟨tty,tk,tB⟩:=ti;unfold LJ at h;split at h
  ·next a hk ha=>
   simp only at hk;subst hk;exact⟨_,h,zf fun env w S vs hl=>⟨_,jN hb (jK hT ht) (xn ha<|hx hl).1 (Df (xn ha<|hx hl).2) w,zd<|yV (xn ha<|hx hl).2⟩⟩
  ·next a hk ha=>
   simp only at hk;subst hk;exact⟨_,h,zf fun env w S vs hl=>⟨_,jN hb (jK hT ht) (yM ha<|hx hl).1 (YF (yM ha<|hx hl).2) w,zd<|wh (yM ha<|hx hl).2⟩⟩
  ·next a hk ha=>
   simp only at hk;subst hk;obtain⟨z,hz,h⟩:=yI h;exact⟨_,h,zf fun env w S vs hl=>⟨_,jN hb (jK hT ht) (xn ha<|hx hl).1 (YZ hz<|tj _) w,zd<|wh<|B7 hz<|QO _⟩⟩
  ·next a hk ha=>
   simp only at hk;subst hk;obtain⟨z,hz,h⟩:=yI h;exact⟨_,h,zf fun env w S vs hl=>⟨_,jN hb (jK hT ht) (yM ha<|hx hl).1 ((QC (yM ha<|hx hl).2).trans hz.symm) w,zd<|yV<|pw hz<|nZ (yM ha<|hx hl).2⟩⟩
  ·next a hk ha=>
   simp only at hk;subst hk;exact⟨_,h,zf fun env w S vs hl=>⟨_,jN hb (jK hT ht) (jv ha<|hx hl).1 (Df<|Ig (jv ha<|hx hl).2) w,zd<|yV<|Ig (jv ha<|hx hl).2⟩⟩
  ·next a hk ha=>
   simp only at hk;subst hk;exact⟨_,h,zf fun env w S vs hl=>⟨_,jN hb (jK hT ht) (jv ha<|hx hl).1 (YF<|Lb (jv ha<|hx hl).2) w,zd<|wh<|Lb (jv ha<|hx hl).2⟩⟩
  ·next a hk ha=>
   simp only at hk;subst hk;exact⟨_,h,zf fun env w S vs hl=>⟨_,jN hb (jK hT ht) (jv ha<|hx hl).1 (MB (jv ha<|hx hl).2) w,zd<|JN (jv ha<|hx hl).2⟩⟩
  ·next a hk ha=>
   simp only at hk;subst hk;unfold NS at h;obtain⟨z,hz,h⟩:=yI h;exact⟨_,h,zf fun env w S vs hl=>⟨_,jN hb (jK hT ht) (yM ha<|hx hl).1 (YZ hz OM) w,zd<|JN<|sZ hz⟩⟩
  ·cases h
 ·next E B q B' hs ht=>
  split at h
  ·next q' B'' hE=>
   obtain⟨xs,h,hd⟩:=jw h;refine⟨_,h,zf fun env w S vs hl=> ?_⟩;obtain⟨u,h1,h2,h3⟩:=FJ (xF hT hs) (jK hT hE) (W2 hT ht)<|hd P vs env S w<|hx hl;exact⟨.string u,by simp[execOp,h1],zd<|J3 h2 h3⟩
  ·cases h
 ·next B E B' hs ht=>
  split at h
  ·next q' B'' xs hE he=>
   refine⟨_,h,wG fun env w S vs hM hl=> ?_⟩;obtain⟨b,hv,hc,hg⟩:=YA<|Zs he<|hx hl;have hc:zL b=xs:=hc;subst hc;exact⟨_,_,_,_,[],[],pX (W2 hT hs) (xF hT ht) (jK hT hE) hv hg,trivial,trivial,fun u w' _ hf=>zd hf.1⟩
  ·cases h
 ·cases h
theorem db{n:Nat}{k:Nat->Option R}(h:nc cx σ x n k=some r):∃j,j<n/\k j=some r/\∀(P:Program) vs env S w,qK P vs env S w cx σ x->∃ik,ev env x=.int ik (j:Int):=by
 unfold nc at h;split at h
 ·next j hj=>
  obtain⟨i,h1,h2,h⟩:=Dx h;exact⟨i,h2,h,fun P vs env S w hl=>⟨.i64,by rw[(xn hj hl).1,h1]⟩⟩
 ·next j hj=>
  obtain⟨i,h1,h2,h⟩:=Dx h;exact⟨i,h2,h,fun P vs env S w hl=>⟨.u64,by rw[(yM hj hl).1,h1]⟩⟩
 ·cases h
theorem uG{x:Option Operand}{k:Option Nat->Option R}(h:aw cx σ x k=some r):
 (x=none/\k none=some r)\/∃y j,x=some y/\k (some j)=some r/\∀(P:Program) vs env S w,qK P vs env S w cx σ y->ev env y=.int .i64 (j:Int):=by
 unfold aw at h;split at h
 ·simp_all
 ·next y=>
  split at h
  ·next j hj=>
   obtain⟨i,h1,h⟩:=gN h;exact .inr ⟨y,i,rfl,h,fun P vs env S w hl=>by rw[(xn hj hl).1,h1]⟩
  ·cases h
theorem uO{α:Type}{e:zv α}{E:TypeId}{xs:List α}{v:Value}(h:(mO e E v xs).p S w)(h0:0<xs.length):
 ∃b cap,v=.slice (some ⟨b,0,none⟩) xs.length cap/\(mB (rowT e cap) E b xs).p S w:=by
 obtain⟨cs,h1,h2⟩:=h;rcases h1.2 with⟨rfl,h3⟩|⟨g,cap,cur,rfl,hc,hg,hd,he,ha,hb⟩
 ·lia
 ·exact⟨g,cap,rfl,cur,hg,cs,cur.toList.drop<|xs.length*e.n,by rw[<-hb,RL],h2,by simpa using ha⟩
theorem Ab{s E:TypeId}{q:Ty}{n B:Nat}(hT:ya P cf.tt)(h:vV cf s=some ⟨q,.ar n E,B⟩):P.underlying s=some (.array n E):=(hT _ _ h).2.2.2.2
theorem sG{E:TypeId}{e:Ty}(hT:ya P cf.tt)(h:IK cf E e=true):∃bytes zero,jJ P E e.rep.agg e.rep.n bytes zero:=by
 unfold IK at h;split at h
 ·next ti ht=>
  cases hs:Ty.same ti.ty e with
  |none=>rw[hs]at h;cases h
  |some p=>
   obtain⟨zero,h2,_⟩:=qn hT ht;rw[p.down]at h2;grind
 ·cases h
theorem Ed{n j:Nat}{e:Ty}(hj:j<n):Fl.ok (.a n e) (HT n e j):=by
 intro z S w cs hp;have ha:=hp;have:=vj.nth n e.rep z j (SF z j e.z) (getD_some e.z<|ha.1▸hj) S w cs hp;rw[e.n_rep]at this;exact this
theorem B5(hT:ya P cf.tt)(hL:vd P cf.tt){k:List (Nat×Dv)->Option R}(h:dP cf cx σ t x y k=some r):∃l,k l=some r/\ES P ⟨d,.indexAddr t x y,ty,pos,aft,g⟩ cx σ F l:=by
 have hx:∀{vs env S w},(∀t'∈zV (.indexAddr t x y),Lk P vs env S w cx σ t')->qK P vs env S w cx σ x:=fun hl=>zO hl (by simp[O7]);have hy:∀{vs env S w},(∀t'∈zV (.indexAddr t x y),Lk P vs env S w cx σ t')->qK P vs env S w cx σ y:=fun hl=>zO hl (by simp[O7]);unfold dP at h;split at h
 ·next e E B s xs ht ha=>
  obtain⟨he,h⟩:=zx h;cases he;obtain⟨bytes,zero,hb⟩:=ui hT hL ht;obtain⟨j,hj,h,hc⟩:=db h;obtain⟨z,hz,h⟩:=yI h;refine⟨_,h,wG fun env w S vs hM hl=> ?_⟩;obtain⟨ik,hd⟩:=hc P vs env S w<|hy hl;exact⟨_,_,_,_,[fV (eS e.rep) xs<|ev env x],[],ny (e:=e.rep) (xs:=xs) (k:=j) (y:=z) rfl hd (xF hT ht) hb (Iu hj hz)<|fun S w h=>h.1,trivial,⟨za ha<|hx hl,trivial⟩,fun u w' _ hf=>zd hf.1⟩
 ·next e E B o ht ha=>
  split at h
  ·next s E' xs ho=>
   obtain⟨he,h⟩:=zx h;cases he;obtain⟨bytes,zero,hb⟩:=ui hT hL ht;obtain⟨j,hj,h,hc⟩:=db h;refine⟨_,h,?_⟩;intro env w S vs hS hM hl;obtain⟨ik,hd⟩:=hc P vs env S w<|hy hl;have hm:(mO e.rep E' (vs o) xs).p S w:=vM hM ho;obtain⟨b,cap,hv,_⟩:=uO hm<|R4 (PF _) hj;have hk:ev env x=vs o:=za ha<|hx hl;refine xX.of_value (VG (xF hT ht) hb (hk.trans hv) hd hj w) ⟨zH.refl _ _,zd ?_⟩;exact⟨fun z=>vj.self e.rep z,b,_,_,hv,hj,by simp[Fl.self]⟩
  ·cases h
 ·next q n' E B n e xs ht ha=>
  obtain⟨hg,h⟩:=zw h;rw[IR]at hg;have hn:=zr hg.1;subst hn;obtain⟨bytes,zero,hb⟩:=sG hT hg.2;obtain⟨j,hj,h,hc⟩:=db h;obtain⟨z,hz,h⟩:=yI h;refine⟨_,h,wG fun env w S vs hM hl=> ?_⟩;obtain⟨ik,hd⟩:=hc P vs env S w<|hy hl;have hp:(fP (Ty.a n' e).rep xs<|ev env x).p S w:=za ha<|hx hl;obtain⟨_,_,_,_,_,_,hi,_⟩:=id hp;exact⟨_,_,_,_,[fP (Ty.a n' e).rep xs<|ev env x],[],lO (e:=(Ty.a n' e).rep) (f:=e.rep) (z:=xs) (z':=z) (Ab hT ht) hb rfl hd hj (vj.nth n' e.rep xs j z<|Iu (hi▸hj) hz)<|fun S w h=>h.1,trivial,⟨hp,trivial⟩,fun u w' _ hf=>zd hf.1⟩
 ·next q n' E B o n e ht ha=>
  obtain⟨hg,h⟩:=zw h;rw[IR]at hg;have hn:=zr hg.1;subst hn;obtain⟨bytes,zero,hb⟩:=sG hT hg.2;obtain⟨j,hj,h,hc⟩:=db h;refine⟨_,h,zf fun env w S vs hl=> ?_⟩;obtain⟨ik,hd⟩:=hc P vs env S w<|hy hl;obtain⟨h1,b,h2⟩:=za ha<|hx hl;exact⟨_,cc (Ab hT ht) hb (h1.trans h2) hd hj w,zd ⟨Ed hj,b,h2,by rw[e.n_rep];rfl⟩⟩
 ·cases h
theorem ux:∀{k:Nat}{t:Ty}{i:Nat}{f:Fl t.D},yq k t i=some f->Fl.ok t f
 |0,.w1 t,0,f,h=>by
  simp only[yq,O6]at h;subst h;exact fun z=>vj.wrap t.rep z
 |0,.w1 t,_+1,_,h=>by cases h
 |0,.i,_,_,h=>by cases h
 |0,.u,_,_,h=>by cases h
 |0,.b,_,_,h=>by cases h
 |0,.l _,_,_,h=>by cases h
 |0,.p _ _,_,_,h=>by cases h
 |0,.a _ _,_,_,h=>by cases h
 |0,.ch,_,_,h=>by cases h
 |0,.tx,_,_,h=>by cases h
 |0,.po _,_,_,h=>by cases h
 |0,.tr,_,_,h=>by cases h
 |0,.er,_,_,h=>by cases h
 |1,t,i,f,h=>by
  unfold yq at h;cases hb:OW i 0<;>rw[hb]at h
  ·cases h
  ·simp only[cond_true,O6]at h;subst h;exact fun z=>vj.self t.rep z
 |k+2,.p s t,0,f,h=>by
  simp only[yq,O6]at h;subst h;exact fun z=>vj.fst s.rep t.rep z
 |k+2,.p s t,i+1,f,h=>by
  simp only[yq]at h;split at h
  ·next f' hf=>
   simp only[O6]at h;subst h;intro z;have:=(vj.snd s.rep t.rep z).comp<|ux hf z.2;rw[s.n_rep]at this;exact this
  ·cases h
 |k+2,.i,i,f,h=>by simp[yq]at h
 |k+2,.u,i,f,h=>by simp[yq]at h
 |k+2,.b,i,f,h=>by simp[yq]at h
 |k+2,.l _,i,f,h=>by simp[yq]at h
 |k+2,.a _ _,i,f,h=>by simp[yq]at h
theorem Qk:∀{k:Nat}{t:Ty}{i j:Nat}{f g:Fl t.D},yq k t i=some f->yq k t j=some g->i≠j->
 (∀z x,g.get (f.set x z)=g.get z)/\(∀z x y,g.set y (f.set x z)=f.set x (g.set y z))/\(g.off+g.f.n<=f.off\/f.off+f.f.n<=g.off)
 |0,.w1 _,0,0,_,_,_,_,h=>absurd rfl h
 |0,.w1 _,_+1,_,_,_,h,_,_=>by cases h
 |0,.w1 _,0,_+1,_,_,_,h,_=>by cases h
 |0,.i,_,_,_,_,h,_,_=>by cases h
 |0,.u,_,_,_,_,h,_,_=>by cases h
 |0,.b,_,_,_,_,h,_,_=>by cases h
 |0,.l _,_,_,_,_,h,_,_=>by cases h
 |0,.p _ _,_,_,_,_,h,_,_=>by cases h
 |0,.a _ _,_,_,_,_,h,_,_=>by cases h
 |0,.ch,_,_,_,_,h,_,_=>by cases h
 |0,.tx,_,_,_,_,h,_,_=>by cases h
 |0,.po _,_,_,_,_,h,_,_=>by cases h
 |0,.tr,_,_,_,_,h,_,_=>by cases h
 |0,.er,_,_,_,_,h,_,_=>by cases h
 |1,t,i,j,f,g,hf,hg,hn=>by
  unfold yq at hf hg;cases hb:OW i 0<;>rw[hb]at hf
  ·cases hf
  cases hc:OW j 0<;>rw[hc]at hg
  ·cases hg
  simp_all
 |k+2,.p s t,0,0,_,_,_,_,h=>absurd rfl h
 |k+2,.p s t,0,j+1,f,g,hf,hg,_=>by
  simp only[yq,O6]at hf hg;subst hf;split at hg
  ·next g' ha=>
   simp only[O6]at hg;subst hg;exact⟨fun _ _=>rfl,fun _ _ _=>rfl,.inr<|by simp only;lia⟩
  ·cases hg
 |k+2,.p s t,i+1,0,f,g,hf,hg,_=>by
  simp only[yq,O6]at hf hg;subst hg;split at hf
  ·next f' hd=>
   simp only[O6]at hf;subst hf;exact⟨fun _ _=>rfl,fun _ _ _=>rfl,.inl<|by simp only;lia⟩
  ·cases hf
 |k+2,.p s t,i+1,j+1,f,g,hf,hg,hn=>by
  simp only[yq]at hf hg;split at hf
  ·next f' hd=>
   split at hg
   ·next g' ha=>
    simp only[O6]at hf hg;subst hf;subst hg;obtain⟨h1,h2,h3⟩:=Qk hd ha (fun e=>hn<|by rw[e]);exact⟨fun z x=>h1 z.2 x,fun z x y=>by simp only;rw[h2 z.2 x y],by rcases h3 with h3|h3;exact .inl (by simp only;lia);exact .inr<|by simp only;lia⟩
   ·cases hg
  ·cases hf
 |k+2,.i,i,_,f,_,h,_,_=>by simp[yq]at h
 |k+2,.u,i,_,f,_,h,_,_=>by simp[yq]at h
 |k+2,.b,i,_,f,_,h,_,_=>by simp[yq]at h
 |k+2,.l _,i,_,f,_,h,_,_=>by simp[yq]at h
 |k+2,.a _ _,i,_,f,_,h,_,_=>by simp[yq]at h
theorem jc:∀t:Ty,∃h,Ty.same t t=some ⟨h⟩
 |.i=>⟨rfl,rfl⟩
 |.u=>⟨rfl,rfl⟩
 |.b=>⟨rfl,rfl⟩
 |.ch=>⟨rfl,rfl⟩
 |.tx=>⟨rfl,rfl⟩
 |.tr=>⟨rfl,rfl⟩
 |.er=>⟨rfl,rfl⟩
 |.l t=>by obtain⟨h,e⟩:=jc t;exact⟨rfl,by simp only[Ty.same,e]⟩
 |.po t=>by obtain⟨h,e⟩:=jc t;exact⟨rfl,by simp only[Ty.same,e]⟩
 |.w1 t=>by obtain⟨h,e⟩:=jc t;exact⟨rfl,by simp only[Ty.same,e]⟩
 |.a k t=>by obtain⟨h,e⟩:=jc t;exact⟨rfl,by simp only[Ty.same,e,dite_true]⟩
 |.p s t=>by obtain⟨h,e⟩:=jc s;obtain⟨h',e'⟩:=jc t;exact⟨rfl,by simp only[Ty.same,e,e']⟩
theorem jQ{s t:Ty}(h:(Ty.same s t).isSome=true):s=t:=by
 cases hs:Ty.same s t with
 |none=>rw[hs]at h;cases h
 |some p=>exact p.down
theorem YN{α:Type}{s:Ty}{off:Nat}{g:α->(Ty.l s).D}{st:(Ty.l s).D->α->α}{xs:List s.D}{z:α}:vn s (some ⟨off,.l s,g,st⟩) xs z=st xs z:=by
 obtain⟨h,e⟩:=jc s;simp only[vn,e]
theorem gZ{n i j:Nat}{t s:Ty}{f:Fl t.D}{hv:List Value}{z:t.D}{r:Nat}(ha:mx s (yq n t j))(hf:yq n t i=some f)(hn:i≠j):
 vj (uJ t.rep (qv<|yq n t j) (vn s (yq n t j) []) hv) (z,r) f.off f.f.rep (f.get z) (fun y=>(f.set y z,r)):=by
 obtain⟨off,g,st,hj⟩:=ha;obtain⟨h1,h2,h3⟩:=Qk hj hf<|Ne.symm hn;rw[hj];have hp:∀z,vn s (some ⟨off,.l s,g,st⟩) [] z=st ([]:List s.D) z:=fun z=>YN;refine vj.other ?_ (by rw[f.f.n_rep];exact h3);have h4:=ux hf<|vn s (some ⟨off,.l s,g,st⟩) [] z;grind
theorem bc:∀{k:Nat}{t:Ty}{i:Nat}{f:Fl t.D},yq k t i=some f->∀x y z,f.set x (f.set y z)=f.set x z
 |0,.w1 t,0,f,h=>by
  simp only[yq,O6]at h;subst h;exact fun _ _ _=>rfl
 |0,.w1 t,_+1,_,h=>by cases h
 |0,.i,_,_,h=>by cases h
 |0,.u,_,_,h=>by cases h
 |0,.b,_,_,h=>by cases h
 |0,.l _,_,_,h=>by cases h
 |0,.p _ _,_,_,h=>by cases h
 |0,.a _ _,_,_,h=>by cases h
 |0,.ch,_,_,h=>by cases h
 |0,.tx,_,_,h=>by cases h
 |0,.po _,_,_,h=>by cases h
 |0,.tr,_,_,h=>by cases h
 |0,.er,_,_,h=>by cases h
 |1,t,i,f,h=>by
  unfold yq at h;cases hb:OW i 0<;>rw[hb]at h
  ·cases h
  ·simp only[cond_true,O6]at h;subst h;exact fun _ _ _=>rfl
 |k+2,.p s t,0,f,h=>by
  simp only[yq,O6]at h;subst h;exact fun _ _ _=>rfl
 |k+2,.p s t,i+1,f,h=>by
  simp only[yq]at h;split at h
  ·next f' hf=>
   simp only[O6]at h;subst h;intro x y z;simp only;rw[bc hf]
  ·cases h
 |k+2,.i,i,f,h=>by simp[yq]at h
 |k+2,.u,i,f,h=>by simp[yq]at h
 |k+2,.b,i,f,h=>by simp[yq]at h
 |k+2,.l _,i,f,h=>by simp[yq]at h
 |k+2,.a _ _,i,f,h=>by simp[yq]at h
theorem nF{S:Nat->Prop}{w:World}{n i off:Nat}{t s:Ty}{g:t.D->(Ty.l s).D}{st:(Ty.l s).D->t.D->t.D}{z:t.D}{cs:List Value}{v:Value}(hf:yq n t i=some ⟨off,.l s,g,st⟩)(h:t.rep.p S z cs w)(hv:cs[off]? =some v)(h1:v.oneCell'=true):
 (uJ t.rep off (st ([]:List s.D)) [v]).p S (z,0) cs w:=by
 obtain⟨pre,c,post,e1,e2,e3,e4⟩:=ux hf z S w cs h;refine⟨v,rfl,h1,hv,?_⟩;have h5:=e4 w ([]:List s.D) [.slice none 0 0] (zH.refl _ _) ⟨_,rfl,gq.nil⟩;have hc:c.length=1:=(Ty.l s).rep.len e3;obtain⟨c0,rfl⟩:=P2.1 hc;have:cs.set off (.slice none 0 0)=pre++[.slice none 0 0]++post:=by simp_all
 rw[this];exact h5
theorem FC{S S':Nat->Prop}{w:World}{n i off r:Nat}{t s:Ty}{g:t.D->(Ty.l s).D}{st:(Ty.l s).D->t.D->t.D}{z:t.D}{cs:List Value}{v:Value}{hv:List Value}{xs:List s.D}(hf:yq n t i=some ⟨off,.l s,g,st⟩)(h:(uJ t.rep off (st ([]:List s.D)) hv).p S (z,r) cs w)
 (hr:hv[r]? =some v) (hs:∀k,S k->S' k) (hx:(fV (eS s.rep) xs v).p S' w):t.rep.p S' (st xs z) cs w:=by
 obtain⟨u,h1,h2,h3,h4⟩:=h;rw[hr]at h1;cases h1;have h4:=t.rep.sub h4 fun k _=>hs k;obtain⟨pre,c,post,e1,e2,e3,e4⟩:=ux hf (st ([]:List s.D) z) S' w _ h4;obtain⟨cs',hb,ha⟩:=hx;have h5:=e4 w xs cs' (zH.refl _ _) ha;simp only at h5 e2;rw[show st xs (st ([]:List s.D) z)=st xs z from bc hf xs ([]:List s.D) z]at h5;have hc:c.length=1:=(Ty.l s).rep.len e3;have hd:cs'.length=1:=(eS s.rep).len ha;obtain⟨c0,rfl⟩:=P2.1 hc;obtain⟨c1,rfl⟩:=P2.1 hd;obtain rfl:v=c1:=hb;obtain⟨he,h9⟩:=O4.1 h3;have:cs=pre++[v]++post:=by
  have e5:(cs.set off (.slice none 0 0)).set off v=cs:=by rw[List.set_set,<-h9,RP]
  simp_all
 rw[this];exact h5
theorem iW{t:Ty}{a:Fl t.D}{c:Fl a.f.D}(ha:Fl.ok t a)(hc:Fl.ok a.f c):Fl.ok t (a.comp c):=fun z=>(ha z).comp<|hc<|a.get z
theorem bU{s:TypeId}{q:Ty}{n B i:Nat}{f:Fl q.D}(hT:ya P cf.tt)(h:vV cf s=some ⟨q,.st n,B⟩)(hf:yq n q i=some f):Ja P s i=some f.off:=(hT _ _ h).2.2.2.2.1 i f hf
theorem IH{bo:BinOp}{v:Option Dv}{k:Dv->Option R}(h:L7 bo v k=some r):∃dv b,v=some dv/\QU bo b k=some r/\∀(P:Program) vs S w u,(yW P vs dv u).p S w->∃p:Option Addr,u=.pointer p/\p.isNone=b:=by
 unfold L7 at h;split at h
 ·exact⟨_,_,rfl,h,fun P vs S w u hh=>⟨none,hh,rfl⟩⟩
 ·exact⟨_,_,rfl,h,fun P vs S w u ⟨b,o,cs,h1,_⟩=>⟨_,h1,rfl⟩⟩
 ·exact⟨_,_,rfl,h,fun P vs S w u ⟨h1,b,h2⟩=>⟨_,h1.trans h2,rfl⟩⟩
 ·exact⟨_,_,rfl,h,fun P vs S w u hh=>Gr hh⟩
 ·exact⟨_,_,rfl,h,fun P vs S w u hh=>HZ hh⟩
 ·cases h
theorem Lu(hT:ya P cf.tt)(h:Bc cf t=true):P.underlying t=some (.pointer<|P.pointee t):=by
 unfold Bc at h;split at h
 ·next q E B hu=>
  have:=(hT _ _ hu).2.2.2;have this:P.underlying t=some (.pointer E):=this;rw[show P.pointee t=E by simp[Program.pointee,this]];exact this
 ·cases h
theorem NA(hT:ya P cf.tt){bo:BinOp}{k:List (Nat×Dv)->Option R}(hp:Bc cf t=true)(hy:BB (yx cx σ y)=true)(h:L7 bo (yx cx σ x) (fun v=>k [(0,v)])=some r):
 ∃l,k l=some r/\ES P ⟨d,.binOp bo t x y yt,ty,pos,aft,g⟩ cx σ F l:=by
 obtain⟨dv,b,hx,h,hv⟩:=IH h;have hy:yx cx σ y=some .np:=by
  unfold BB at hy;split at hy
  ·lia
  ·cases hy
 have ht:=Lu hT hp;have go:∀{env:yb}{w:World}{S:Nat->Prop}{vs:Nat->Value},(∀t'∈zV (.binOp bo t x y yt),Lk P vs env S w cx σ t')->∃p:Option Addr,ev env x=.pointer p/\p.isNone=b/\ev env y=.pointer none:=fun hl=>by
  obtain⟨p,h1,h2⟩:=hv P _ _ _ _ (za hx<|zO hl<|by simp[O7]);exact⟨p,h1,h2,za hy<|zO hl<|by simp[O7]⟩
 cases bo<;>simp only[QU,reduceCtorEq]at h
 case eql=>
  refine⟨[(0,.kb<|decide<|b=true)],ak h,zf fun env w S vs hl=>⟨.bool b,?_,zd<|by simp[yW,Zn]⟩⟩;obtain⟨p,h1,h2,h3⟩:=go hl;simp[execOp,h1,h3,eqGuard,run_eql_pointer_nil w t p ht,h2]
 case neq=>
  refine⟨[(0,.kb (!decide (b=true)))],Hi h,zf fun env w S vs hl=>⟨.bool !b,?_,zd<|by simp[yW,Zn]⟩⟩;obtain⟨p,h1,h2,h3⟩:=go hl;simp[execOp,h1,h3,eqGuard,run_neq_pointer_nil w t p ht,h2]
theorem IX{bo:BinOp}{v:Option Dv}{k:Dv->Option R}(h:L2 bo v k=some r):∃dv b,v=some dv/\QU bo b k=some r/\∀(P:Program) vs S w u,(yW P vs dv u).p S w->(b=true/\u=.nilIface)\/(b=false/\∃T q,u=.iface T q):=by
 unfold L2 at h;split at h
 ·exact⟨_,_,rfl,h,fun P vs S w u hh=> .inl ⟨rfl,hh⟩⟩
 ·refine⟨_,_,rfl,h,fun P vs S w u hh=> ?_⟩;rcases HI (show(fV Ib _ u).p S w from hh)with⟨rfl,h2⟩|⟨rfl,h2⟩
  ·simp_all
  ·simp_all
 ·cases h
theorem Ns(hT:ya P cf.tt){bo:BinOp}{k:List (Nat×Dv)->Option R}(hp:GK cf t=true)(hy:Cm y=true)(h:L2 bo (yx cx σ x) (fun v=>k [(0,v)])=some r):
 ∃l,k l=some r/\ES P ⟨d,.binOp bo t x y yt,ty,pos,aft,g⟩ cx σ F l:=by
 obtain⟨dv,b,hx,h,hv⟩:=IX h;have hy:y=.const .nilIface:=by
  unfold Cm at hy;split at hy
  ·rfl
  ·cases hy
 subst hy;have ht:P.underlying t=some (.interface<|P.methodsAt t):=by
  unfold GK at hp;split at hp
  ·next q B hu=>exact(hT _ _ hu).2.2.2
  ·cases hp
 have go:∀{env:yb}{w:World}{S:Nat->Prop}{vs:Nat->Value},(∀t'∈zV (.binOp bo t x (.const .nilIface) yt),Lk P vs env S w cx σ t')->((b=true/\ev env x=.nilIface)\/(b=false/\∃T q,ev env x=.iface T q)):=fun hl=>
  hv P _ _ _ _ (za hx<|zO hl<|by simp[O7])
 have h3:∀env:yb,ev env (.const .nilIface)=.nilIface:=fun _=>rfl;cases bo<;>simp only[QU,reduceCtorEq]at h
 case eql=>
  refine⟨[(0,.kb<|decide<|b=true)],ak h,zf fun env w S vs hl=>⟨.bool b,?_,zd<|by simp[yW,Zn]⟩⟩;obtain⟨rfl,h1⟩|⟨rfl,T,q,h1⟩:=go hl
  ·simp[execOp,h1,h3,eqGuard,run_eql_nil_nil (w:=w) t ht]
  ·simp[execOp,h1,h3,eqGuard,run_eql_held_nil (w:=w) t T q ht]
 case neq=>
  refine⟨[(0,.kb (!decide (b=true)))],Hi h,zf fun env w S vs hl=>⟨.bool !b,?_,zd<|by simp[yW,Zn]⟩⟩;obtain⟨rfl,h1⟩|⟨rfl,T,q,h1⟩:=go hl
  ·simp[execOp,h1,h3,eqGuard,run_neq_nil_nil (w:=w) t ht]
  ·simp[execOp,h1,h3,eqGuard,run_neq_held_nil (w:=w) t T q ht]
theorem Ih{k:List (Nat×Dv)->Option R}(h:Eu cx σ x k=some r):∃l,k l=some r/\ES P ⟨d,.nilCheck x,ty,pos,aft,g⟩ cx σ F l:=by
 have hr:∀{env:yb}{a:Addr} (w:World),ev env x=.pointer (some a)->(execOp (ev env) ⟨d,.nilCheck x,ty,pos,aft,g⟩).run P w=.ok (.value<|ev env x) w:=fun w h=>by simp[execOp,h]
 unfold Eu at h;split at h
 ·next s y hx=>
  refine⟨_,h,zf fun env w S vs hl=> ?_⟩;have h1:=za hx (zO hl<|by simp[O7]);obtain⟨b,o,cs,h2,_⟩:=h1;exact⟨_,hr w h2,zd<|za hx<|zO hl<|by simp[O7]⟩
 ·next o s hx=>
  refine⟨_,h,zf fun env w S vs hl=> ?_⟩;obtain⟨h1,b,h2⟩:=za hx (zO hl<|by simp[O7]);exact⟨_,hr w<|h1.trans h2,zd<|za hx<|zO hl<|by simp[O7]⟩
 ·next s y hx=>
  obtain⟨y',hy,h⟩:=ZP h;refine⟨_,h,zf fun env w S vs hl=> ?_⟩;have h1:(fV (eO s.rep) y<|ev env x).p S w:=za hx (zO hl<|by simp[O7]);rw[hy]at h1;have h2:=su h1;obtain⟨b,o,cs,h3,_⟩:=h2;exact⟨_,hr w h3,zd<|su h1⟩
 ·next y hx=>
  obtain⟨y',hy,h⟩:=ZP h;refine⟨_,h,zf fun env w S vs hl=> ?_⟩;have h1:(fV Jt y<|ev env x).p S w:=za hx (zO hl<|by simp[O7]);have h2:=ri hy h1;obtain⟨b,o,cs,h3,_⟩:=h2;exact⟨_,hr w h3,zd<|ri hy h1⟩
 ·cases h
theorem AE(hT:ya P cf.tt){i:Nat}{k:List (Nat×Dv)->Option R}(h:eg cf cx σ t x i k=some r):∃l,k l=some r/\ES P ⟨d,.fieldAddr t x i,ty,pos,aft,g⟩ cx σ F l:=by
 have hx:∀{vs env S w},(∀t'∈zV (.fieldAddr t x i),Lk P vs env S w cx σ t')->qK P vs env S w cx σ x:=fun hl=>zO hl (by simp[O7]);unfold eg at h;split at h
 ·next e n B s y ht hb=>
  obtain⟨ha,h⟩:=zx h;subst ha;split at h
  ·next f hf=>
   exact⟨_,h,wG fun env w S vs hM hl=>⟨_,_,_,_,[fP s.rep y<|ev env x],[],Z7 (e:=s.rep) (z:=y) (bU hT ht hf) rfl (ux hf y)<|fun S w h=>h.1,trivial,⟨za hb<|hx hl,trivial⟩,fun u w' _ hf=>zd hf.1⟩⟩
  ·cases h
 ·next e n B o s ht hb=>
  split at h
  ·next ha f _ hf=>
   obtain⟨ha⟩:=ha;subst ha;refine⟨_,h,zf fun env w S vs hl=> ?_⟩;obtain⟨h1,b,h2⟩:=za hb<|hx hl;exact⟨_,XJ (bU hT ht hf) (h1.trans h2) w,zd ⟨ux hf,b,h2,rfl⟩⟩
  ·cases h
 ·next e n B o s g ht hb=>
  split at h
  ·next ha f _ hf=>
   obtain⟨ha⟩:=ha;subst ha;refine⟨_,h,zf fun env w S vs hl=> ?_⟩;obtain⟨h0,b,h1,h2⟩:=za hb<|hx hl;exact⟨_,XJ (bU hT ht hf) h2 w,zd ⟨iW h0<|ux hf,b,h1,by simp only[Fl.comp,R9]⟩⟩
  ·cases h
 ·next e n B o s j g ht hb=>
  split at h
  ·next ha f _ hf=>
   obtain⟨ha⟩:=ha;subst ha;refine⟨_,h,zf fun env w S vs hl=> ?_⟩;obtain⟨h0,b,m,cap,h1,h2,h3⟩:=za hb<|hx hl;exact⟨_,XJ (bU hT ht hf) h3 w,zd ⟨iW h0<|ux hf,b,m,cap,h1,h2,by simp only[Fl.comp,R9]⟩⟩
  ·cases h
 ·cases h
theorem EY(hT:ya P cf.tt){k:List (Nat×Dv)->Option R}(h:oe cf cx σ t x k=some r):∃l,k l=some r/\ES P ⟨d,.load t x,ty,pos,aft,g⟩ cx σ F l:=by
 have hx:∀{vs env S w},(∀t'∈zV (.load t x),Lk P vs env S w cx σ t')->qK P vs env S w cx σ x:=fun hl=>zO hl (by simp[O7]);unfold oe at h;split at h
 ·next ti hj=>
  obtain⟨zero,hd,_⟩:=qn hT hj;unfold Dm at h;split at h
  ·next s y hc=>
   obtain⟨ha,h⟩:=zx h;simp only at ha;subst ha;exact⟨_,h,wG fun env w S vs hM hl=>⟨_,_,_,_,[fP ti.ty.rep y<|ev env x],[],XN (e:=ti.ty.rep) (y:=y) rfl hd<|fun S w h=>h.1,trivial,⟨za hc<|hx hl,trivial⟩,fun u w' _ hf=>zd hf.1⟩⟩
  ·next o s hc=>
   split at h
   ·next s' E z ho=>
    obtain⟨ha,h⟩:=zx h;simp only at ha;subst ha;refine⟨_,h,wG fun env w S vs hM hl=> ?_⟩;obtain⟨h1,b,h2⟩:=za hc<|hx hl;obtain⟨b',h3,h4⟩:(mP ti.ty.rep.c E (vs o) z).p S w:=vM hM ho;exact⟨_,_,_,_,[],[mB ti.ty.rep.c E b' z],qQ (z':=z) 0 rfl (h1.trans h3) (vj.self ti.ty.rep z) hd,⟨h4,trivial⟩,trivial,fun u w' _ hf=>zd hf.1⟩
   ·cases h
  ·next o s f hc=>
   split at h
   ·next s' E z ho=>
    obtain⟨he,h⟩:=zx h;subst he;obtain⟨ha,h⟩:=zx h;simp only at ha;obtain⟨off,ff,get,set⟩:=f;simp only at ha;subst ha;refine⟨_,h,wG fun env w S vs hM hl=> ?_⟩;obtain⟨h0,b,h1,h2⟩:=za hc<|hx hl;obtain⟨b',h3,h4⟩:(mP s'.rep.c E (vs o) z).p S w:=vM hM ho;rw[h1]at h3;cases h3;exact⟨_,_,_,_,[],[mB s'.rep.c E b z],qQ (z':=get z) 0 rfl h2 (by rw[Pk];exact h0 z) hd,⟨h4,trivial⟩,trivial,fun u w' _ hf=>zd hf.1⟩
   ·cases h
  ·next o s j f hc=>
   split at h
   ·next s' E xs ho=>
    obtain⟨he,h⟩:=zx h;cases he;obtain⟨y,hy,h⟩:=yI h;obtain⟨ha,h⟩:=zx h;simp only at ha;obtain⟨off,ff,get,set⟩:=f;simp only at ha;subst ha;refine⟨_,h,wG fun env w S vs hM hl=> ?_⟩;obtain⟨h0,b,m,cap,h1,h2,h3⟩:=za hc<|hx hl;have hm:(mO s.rep E (vs o) xs).p S w:=vM hM ho;have hg:0<xs.length:=by
     obtain⟨cs,h5,h6⟩:=hm;rcases h5.2 with⟨hv,h7⟩|⟨g',cap',cur,hv,_⟩
     ·rw[h1]at hv;cases hv
     ·rw[h1]at hv;cases hv;lia
    obtain⟨b',cap',hv,hb⟩:=uO hm hg;rw[h1]at hv;cases hv;have hi:=(vj.rowT0 s.rep cap xs j (xs.getD j s.z)<|getD_some s.z h2).comp<|h0<|xs.getD j s.z;subst hy;exact⟨_,_,_,_,[],[mB (rowT s.rep cap) E b xs],qQ 0 rfl h3 hi hd,⟨hb,trivial⟩,trivial,fun u w' _ hf=>zd hf.1⟩
   ·cases h
  ·cases h
 ·cases h
theorem Di{α:Type}(xs:List α):xs=(xs.drop 0).take (xs.length-0):=by simp
theorem Dh{α:Type}(xs:List α)(l:Nat):xs.drop l=(xs.drop l).take (xs.length-l):=(P3<|by simp).symm
theorem oa{i off n:Nat}{agg:Bool}{cs:Array Value}{v:Value}(h:tf P t i=some (off,agg,n))(hx:ev env x=.agg cs)(hv:(if agg=true then Value.agg (cs.extract off<|off+n)else cs.getD off undef)=v)(hc:agg=false->off<cs.size)(w:World):
 (execOp (ev env) ⟨d,.field t x i,ty,pos,aft,g⟩).run P w=.ok (.value v) w:=by
 unfold tf at h;split at h
 ·next fs hu=>
  split at h
  ·next f hf=>
   split at h
   ·next ag n' by' z hb=>
    simp only[O6,Tj]at h;obtain⟨h1,h2,h3⟩:=h;subst h1;subst h2;subst h3;have ha:=jJ.of hb;have hp:(part f.type cs f.offset).run P w=.ok v w:=by
     unfold part;simp only[O5,JK ha,O0]
     cases ag with
     |true=>
      simp only[if_true,O5,xh ha,O0,Pg];simp_all
     |false=>
      simp_all
    simp only[execOp,hx,Instr.field,asAgg,O5,run_underlying hu,O0,hf,Pg,hp]
   ·cases h
  ·cases h
 ·cases h
theorem EV{s:TypeId}{q:Ty}{n B i:Nat}{f:Fl q.D}(hT:ya P cf.tt)(h:vV cf s=some ⟨q,.st n,B⟩)(hf:yq n q i=some f):tf P s i=some (f.off,f.f.rep.agg,f.f.n):=(hT _ _ h).2.2.2.2.2.2 i f hf
theorem rj(hT:ya P cf.tt){i:Nat}{k:List (Nat×Dv)->Option R}(h:UK cf cx σ t x i k=some r):∃l,k l=some r/\ES P ⟨d,.field t x i,ty,pos,aft,g⟩ cx σ F l:=by
 have hx:∀{vs env S w},(∀t'∈zV (.field t x i),Lk P vs env S w cx σ t')->qK P vs env S w cx σ x:=fun hl=>zO hl (by simp[O7]);unfold UK at h;split at h
 ·next e n B s y ht hg=>
  obtain⟨hi,h⟩:=zx h;subst hi;split at h
  ·next f hf=>
   refine⟨_,h,zf fun env w S vs hl=> ?_⟩;obtain⟨cs,hv,hp⟩:=za hg<|hx hl;have hd:s.rep.agg=true:=(hT _ _ ht).2.2.2.1;obtain⟨pre,c,post,he,h1,h2,_⟩:=ux hf y S w cs hp;have hb:=f.f.rep.len h2;rw[Ty.n_rep]at hb;have hv:ev env x=.agg cs.toArray:=by rw[hv];unfold zv.val;rw[hd];rfl
   refine⟨f.f.rep.val c,oa (EV hT ht hf) hv ?_ ?_ w,zd ⟨c,rfl,h2⟩⟩
   ·unfold zv.val
    cases hc:f.f.rep.agg with
    |true=>
     simp_all
    |false=>
     simp only[Pd,if_false];have ha:=f.f.rep.n1 hc;rw[Ty.n_rep]at ha;obtain⟨a,rfl⟩:∃a,c=[a]:=by
      match c,hb.trans ha with
      |[a],_=>exact⟨a,rfl⟩
     rw[he,<-h1];simp[Array.getD]
   ·intro hc;have ha:=f.f.rep.n1 hc;rw[Ty.n_rep]at ha;rw[he];simp;lia
  ·cases h
 ·cases h
theorem XR{α:Type}{e:zv α}{E:TypeId}{v:Value}{xs:List α}{S:Nat->Prop}{w:World}(h:(mO e E v xs).p S w):(v=.slice none 0 0/\xs=[])\/∃b cap,v=.slice (some ⟨b,0,none⟩) xs.length cap/\xs.length<=cap/\cap<=9223372036854775807:=by
 obtain⟨cs,h1,h2⟩:=h;rcases h1.2 with⟨rfl,h0⟩|⟨g,cap,cur,rfl,hc,hg,ha,hb,hd,he⟩
 ·simp_all
 ·exact .inr ⟨g,cap,rfl,ha,hb⟩
theorem Uh{α:Type}{e:zv α}{E:TypeId}{v:Value}{xs:List α}{S:Nat->Prop}{w:World}(h:(mO e E v xs).p S w){b m cap l n c:Nat}(hv:v=.slice (some ⟨b,0,none⟩) m cap)(hl:l+n<=m)(hf:n<=c)(hc:c<=9223372036854775807):
 EK e S ((xs.drop l).take n) (.slice (some ⟨b,0+l*e.n,none⟩) n c) w:=by
 obtain⟨cs,h1,h2⟩:=h;rcases h1.2 with⟨h0,_⟩|⟨g,cap',cur,h0,hi,hg,he,hj,hk,hd⟩
 ·simp_all
 ·rw[hv]at h0;cases h0;have hb:((xs.drop l).take n).length=n:=by simp;lia
  refine⟨some ⟨b,0+l*e.n,none⟩,c,by rw[hb],by lia,by unfold maxLen;lia,.inr ⟨b,0+l*e.n,(cs.drop<|l*e.n).take<|n*e.n,rfl,?_,(h2.drop l).take n⟩⟩;have ha:=At.row hg;have:=ha.take<|xs.length*e.n;rw[hd]at this;exact(this.drop<|l*e.n).take<|n*e.n
theorem Jd{t:TypeId}{et:TypeId}{ag:Bool}{sz bytes:Nat}{zero:Value}{b o n cap l h:Nat}{lo hi:Option Value}{w:World}(ht:P.underlying t=some (.slice et))(ha:jJ P et ag sz bytes zero)
 (hl:lo=some (.int .i64 (l:Int))\/(lo=none/\l=0)) (hh:hi=some (.int .i64 (h:Int))\/(hi=none/\h=n)) (hb:l<=h) (hc:h<=cap):
 (RH t (.slice (some ⟨b,o,none⟩) n cap) lo hi none).run P w=.ok (.slice (if cap=l then some ⟨b,o,none⟩else(some (⟨b,o,none⟩:Addr)).map (·.add (l*sz))) (h-l)<|cap-l) w:=by
 have b1:(0:Int)<=(l:Int)/\(l:Int)<=(h:Int):=by lia
 have b2:(0:Int)<=(h:Int)/\(h:Int)<=(cap:Int):=by lia
 unfold RH;unfold TW;simp only[O5,run_underlying ht,O0];unfold Sw
 rcases hl with rfl|⟨rfl,rfl⟩<;>rcases hh with rfl|⟨rfl,rfl⟩<;>
  simp only[SE,asIntOf,O5,Pg,O0,iq b1,iq b2,xh ha,Ry]
theorem UY{t:TypeId}{et:TypeId}{ag:Bool}{sz bytes:Nat}{zero:Value}{lo hi:Option Value}{w:World}(ht:P.underlying t=some (.slice et))(ha:jJ P et ag sz bytes zero)
 (hl:lo=some (.int .i64 ((0:Nat):Int))\/lo=none) (hh:hi=some (.int .i64 ((0:Nat):Int))\/hi=none):
 (RH t (.slice none 0 0) lo hi none).run P w=.ok (.slice none 0 0) w:=by
 unfold RH;unfold TW;simp only[O5,run_underlying ht,O0];unfold Sw
 rcases hl with rfl|rfl<;>rcases hh with rfl|rfl<;>
  simp[SE,asIntOf,xh ha]
theorem aa{m:Nat}{lo hi:Option Nat}{k:Nat->Nat->Option R}(h:Ar m lo hi k=some r):∃l h',l<=h'/\h'<=m/\k l (h'-l)=some r/\(lo=some l\/(lo=none/\l=0))/\(hi=some h'\/(hi=none/\h'=m)):=by
 unfold Ar at h;split at h
 ·next h'=>obtain⟨h1,h2⟩:=wK h;exact⟨0,h',PF _,h1,h2,.inr ⟨rfl,rfl⟩,.inl rfl⟩
 ·next l=>obtain⟨h1,h2⟩:=wK h;exact⟨l,m,h1,O3 _,h2,.inl rfl,.inr ⟨rfl,rfl⟩⟩
 ·next l h'=>obtain⟨h1,h2⟩:=wK h;exact⟨l,h',h1.1,h1.2,h2,.inl rfl,.inl rfl⟩
 ·exact⟨0,m,PF _,O3 _,h,.inr ⟨rfl,rfl⟩,.inr ⟨rfl,rfl⟩⟩
theorem fl{t:TypeId}{s:ByteArray}{l h:Nat}{lo hi:Option Value}{w:World}(ht:P.underlying t=some .string)
 (hl:lo=some (.int .i64 (l:Int))\/(lo=none/\l=0)) (hh:hi=some (.int .i64 (h:Int))\/(hi=none/\h=s.size)) (ha:l<=h) (hb:h<=s.size):
 (RH t (.string s) lo hi none).run P w=.ok (.string<|s.extract l h) w:=by
 have b1:(0:Int)<=(l:Int)/\(l:Int)<=(h:Int):=by lia
 have b2:(0:Int)<=(h:Int)/\(h:Int)<=(s.size:Int):=by lia
 unfold RH;unfold TW;simp only[O5,run_underlying ht,O0];unfold Sw
 rcases hl with rfl|⟨rfl,rfl⟩<;>rcases hh with rfl|⟨rfl,rfl⟩<;>
  simp[SE,asIntOf,ha,hb]
theorem QE(s:ByteArray)(l h:Nat):zL (s.extract l h)=((zL s).drop l).take (h-l):=by simp_all [zL]
theorem CR(hT:ya P cf.tt)(hL:vd P cf.tt){lo hi:Option Operand}{k:List (Nat×Dv)->Option R}(h:fT cf cx σ t x lo hi k=some r):∃l,k l=some r/\ES P ⟨d,.slice t x lo hi none,ty,pos,aft,g⟩ cx σ F l:=by
 have hx:∀{vs env S w},(∀t'∈zV (.slice t x lo hi none),Lk P vs env S w cx σ t')->qK P vs env S w cx σ x:=fun hl=>zO hl (by simp[O7]);have hc:∀{vs env S w z},lo=some z->(∀t'∈zV (.slice t x lo hi none),Lk P vs env S w cx σ t')->qK P vs env S w cx σ z:=fun e hl=>zO hl (by simp[O7,e]);have hd:∀{vs env S w z},hi=some z->(∀t'∈zV (.slice t x lo hi none),Lk P vs env S w cx σ t')->qK P vs env S w cx σ z:=fun e hl=>zO hl (by simp[O7,e]);unfold fT at h;split at h
 ·next e E B s xs ht he=>
  obtain⟨hm,h⟩:=zx h;cases hm;obtain⟨bytes,zero,hk⟩:=ui hT hL ht
  have fin:∀{l m:Nat}{zs:List e.D},l<=m->m<=O9 xs->zs=(TX l xs).take (m-l)->(∀vs env S w,(∀t'∈zV (.slice t x lo hi none),Lk P vs env S w cx σ t')->((lo.map<|ev env)=some (.int .i64 (l:Int))\/(lo=none/\l=0))/\((hi.map<|ev env)=some (.int .i64 (m:Int))\/(hi=none/\m=O9 xs)))->
   k [(0,.d (.l e) zs)]=some r->∃l,k l=some r/\ES P ⟨d,.slice t x lo hi none,ty,pos,aft,g⟩ cx σ F l:=by
   intro l m zs h1 h2 h3 h4 h5;subst h3;refine⟨_,h5,wG fun env w S vs hM hl=> ?_⟩;obtain⟨h6,h7⟩:=h4 vs env S w hl;exact⟨_,_,_,_,[fV (eS e.rep) xs<|ev env x],[],bY (e:=e.rep) (xs:=xs) (l:=l) (h:=m) rfl (xF hT ht) hk h6 h7 h1 h2<|fun S w h=>h.1,trivial,⟨za he<|hx hl,trivial⟩,fun u w' _ hf=>zd hf.1⟩
  rcases uG h with⟨e1,h1⟩|⟨zl,l,e1,h1,hb⟩
  ·rcases uG h1 with⟨e2,h2⟩|⟨zh,m,e2,h2,ha⟩
   ·exact fin (l:=0) (m:=O9 xs) (PF _) (O3 _) (Di (α:=e.D) xs) (fun vs env S w hl=>⟨.inr ⟨e1,rfl⟩,.inr ⟨e2,rfl⟩⟩) h2
   ·obtain⟨h3,h4⟩:=wK h2;obtain⟨zs,hz,h5⟩:=yI h4;exact fin (l:=0) (m:=m) (PF _) h3 hz (fun vs env S w hl=>⟨.inr ⟨e1,rfl⟩,.inl<|by rw[e2];exact congrArg some<|ha P vs env S w<|hd e2 hl⟩) h5
  ·rcases uG h1 with⟨e2,h2⟩|⟨zh,m,e2,h2,ha⟩
   ·obtain⟨h3,h4⟩:=wK h2;obtain⟨zs,hz,h5⟩:=yI h4;exact fin (l:=l) (m:=O9 xs) h3 (O3 _) (hz.trans<|Dh (α:=e.D) xs l) (fun vs env S w hl=>⟨.inl (by rw[e1];exact congrArg some<|hb P vs env S w<|hc e1 hl),.inr ⟨e2,rfl⟩⟩) h5
   ·obtain⟨h3,h4⟩:=wK h2;obtain⟨zs,hz,h5⟩:=yI h4;exact fin (l:=l) (m:=m) h3.1 h3.2 hz (fun vs env S w hl=>⟨.inl (by rw[e1];exact congrArg some<|hb P vs env S w<|hc e1 hl),.inl<|by rw[e2];exact congrArg some<|ha P vs env S w<|hd e2 hl⟩) h5
 ·next e E B o ht he=>
  split at h
  ·next s E' xs ho=>
   obtain⟨hm,h⟩:=zx h;cases hm;obtain⟨bytes,zero,hk⟩:=ui hT hL ht
   have key:∀(l m:Nat),l<=m->m<=O9 xs->k [(0,.sv o e l<|m-l)]=some r->(∀vs env S w,(∀t'∈zV (.slice t x lo hi none),Lk P vs env S w cx σ t')->((lo.map<|ev env)=some (.int .i64 (l:Int))\/(lo=none/\l=0))/\((hi.map<|ev env)=some (.int .i64 (m:Int))\/(hi=none/\m=O9 xs)))->
    ∃l,k l=some r/\ES P ⟨d,.slice t x lo hi none,ty,pos,aft,g⟩ cx σ F l:=by
    intro l m h1 h2 h5 h4;refine⟨_,h5,fun env w S vs hS hM hl=> ?_⟩;obtain⟨h6,h7⟩:=h4 vs env S w hl;have hn:ev env x=vs o:=za he<|hx hl;rcases XR (show(mO e.rep E' (vs o) xs).p S w from vM hM ho)with⟨hv,hg⟩|⟨b,cap,hv,hq,hu⟩
    ·refine(bY (e:=e.rep) (xs:=([]:List e.D)) (l:=l) (h:=m) rfl (xF hT ht) hk h6 (by rw[hg]at h7;exact h7) h1 (by rw[hg]at h2;exact h2) (Γ:=[fV (eS e.rep) ([]:List e.D)<|ev env x]) (fun S w h=>h.1) (ms:=[]) w S hS trivial ⟨?_,trivial⟩).mono ?_
     ·rw[hn,hv];exact yX.2 ⟨none,0,rfl,O3 _,PF _,.inl rfl⟩
     ·rintro v w' ⟨u,rfl,_,hs,hf⟩;refine⟨hs,zd (.inr ?_)⟩;have hw:m=0:=by rw[hg]at h2;exact Nat.le_zero.1 h2
      obtain⟨ao,c,q1,q2,q3,_⟩:=yX.1 hf.1;refine⟨by lia,ao,c,by unfold maxLen at q3;lia,?_⟩;rw[q1];simp
    ·have hr:=Jd (P:=P) (b:=b) (o:=0) (n:=O9 xs) (cap:=cap) (w:=w) (l:=l) (h:=m) (xF hT ht) hk (h6.imp id fun q=>⟨by rw[q.1];rfl,q.2⟩) (h7.imp id fun q=>⟨by rw[q.1];rfl,q.2⟩) h1<|Pz h2 hq;rw[<-hv,<-hn]at hr;refine xX.of_value (v:=.slice (if cap=l then some ⟨b,0,none⟩else some ((⟨b,0,none⟩:Addr).add<|l*e.rep.n)) (m-l)<|cap-l) (w':=w) (by simp[execOp,hr]) ⟨zH.refl _ _,zd ?_⟩;by_cases hp:cap=l
     ·rw[iq hp];refine .inr ⟨by lia,some ⟨b,0,none⟩,cap-l,by lia,?_⟩;rw[show m-l=0 by lia]
     ·rw[ir hp];exact .inl ⟨b,O9 xs,cap,cap-l,hv,by lia,by lia,by lia,by rw[xH]⟩
   rcases uG h with⟨e1,h1⟩|⟨zl,l,e1,h1,hb⟩
   ·rcases uG h1 with⟨e2,h2⟩|⟨zh,m,e2,h2,ha⟩
    ·exact key 0 (O9 xs) (PF _) (O3 _) h2<|fun vs env S w hl=>⟨.inr ⟨e1,rfl⟩,.inr ⟨e2,rfl⟩⟩
    ·obtain⟨h3,h4⟩:=wK h2;exact key 0 m (PF _) h3 h4<|fun vs env S w hl=>⟨.inr ⟨e1,rfl⟩,.inl<|by rw[e2];exact congrArg some<|ha P vs env S w<|hd e2 hl⟩
   ·rcases uG h1 with⟨e2,h2⟩|⟨zh,m,e2,h2,ha⟩
    ·obtain⟨h3,h4⟩:=wK h2;exact key l (O9 xs) h3 (O3 _) h4<|fun vs env S w hl=>⟨.inl (by rw[e1];exact congrArg some<|hb P vs env S w<|hc e1 hl),.inr ⟨e2,rfl⟩⟩
    ·obtain⟨h3,h4⟩:=wK h2;exact key l m h3.1 h3.2 h4<|fun vs env S w hl=>⟨.inl (by rw[e1];exact congrArg some<|hb P vs env S w<|hc e1 hl),.inl<|by rw[e2];exact congrArg some<|ha P vs env S w<|hd e2 hl⟩
  ·cases h
 ·next q B xs ht he=>
  have fin:∀{l m:Nat}{zs:List Nat},l<=m->m<=O9 xs->zs=(TX l xs).take (m-l)->(∀vs env S w,(∀t'∈zV (.slice t x lo hi none),Lk P vs env S w cx σ t')->((lo.map<|ev env)=some (.int .i64 (l:Int))\/(lo=none/\l=0))/\((hi.map<|ev env)=some (.int .i64 (m:Int))\/(hi=none/\m=O9 xs)))->
   k [(0,.d .tx zs)]=some r->∃l,k l=some r/\ES P ⟨d,.slice t x lo hi none,ty,pos,aft,g⟩ cx σ F l:=by
   intro l m zs h1 h2 h3 h4 h5;refine⟨_,h5,zf fun env w S vs hl=> ?_⟩;obtain⟨h6,h7⟩:=h4 vs env S w hl;obtain⟨s,e1,e2,e3⟩:=YA<|za he<|hx hl;have hj:(zL s).length=s.size:=yN s;rw[e2]at hj;have hr:=fl (P:=P) (s:=s) (l:=l) (h:=m) (w:=w) (W2 hT ht) (h6.imp id fun q=>⟨by rw[q.1];rfl,q.2⟩) (h7.imp id fun q=>⟨by rw[q.1];rfl,by rw[q.2];exact hj⟩) h1 (by rw[<-hj];exact h2);rw[<-e1]at hr;refine⟨.string<|s.extract l m,by simp[execOp,hr],zd<|J3 (by rw[QE,e2,h3]) ?_⟩;rw[<-yN,QE,e2];have h2:m<=O9 (α:=Nat) xs:=h2;rw[PG];lia
  rcases uG h with⟨e1,h1⟩|⟨zl,l,e1,h1,hb⟩
  ·rcases uG h1 with⟨e2,h2⟩|⟨zh,m,e2,h2,ha⟩
   ·exact fin (l:=0) (m:=O9 (α:=Nat) xs) (PF _) (O3 _) (Di (α:=Nat) xs) (fun vs env S w hl=>⟨.inr ⟨e1,rfl⟩,.inr ⟨e2,rfl⟩⟩) h2
   ·obtain⟨h3,h4⟩:=wK h2;obtain⟨zs,hz,h5⟩:=yI h4;exact fin (l:=0) (m:=m) (PF _) h3 hz (fun vs env S w hl=>⟨.inr ⟨e1,rfl⟩,.inl<|by rw[e2];exact congrArg some<|ha P vs env S w<|hd e2 hl⟩) h5
  ·rcases uG h1 with⟨e2,h2⟩|⟨zh,m,e2,h2,ha⟩
   ·obtain⟨h3,h4⟩:=wK h2;obtain⟨zs,hz,h5⟩:=yI h4;exact fin (l:=l) (m:=O9 (α:=Nat) xs) h3 (O3 _) (hz.trans<|Dh (α:=Nat) xs l) (fun vs env S w hl=>⟨.inl (by rw[e1];exact congrArg some<|hb P vs env S w<|hc e1 hl),.inr ⟨e2,rfl⟩⟩) h5
   ·obtain⟨h3,h4⟩:=wK h2;obtain⟨zs,hz,h5⟩:=yI h4;exact fin (l:=l) (m:=m) h3.1 h3.2 hz (fun vs env S w hl=>⟨.inl (by rw[e1];exact congrArg some<|hb P vs env S w<|hc e1 hl),.inl<|by rw[e2];exact congrArg some<|ha P vs env S w<|hd e2 hl⟩) h5
 ·cases h
theorem Hx(hT:ya P cf.tt){k:List (Nat×Dv)->Option R}(h:GR cf cx σ t x y k=some r):∃l,k l=some r/\ES P ⟨d,.index t x y,ty,pos,aft,g⟩ cx σ F l:=by
 have hx:∀{vs env S w},(∀t'∈zV (.index t x y),Lk P vs env S w cx σ t')->qK P vs env S w cx σ x:=fun hl=>zO hl (by simp[O7]);have hy:∀{vs env S w},(∀t'∈zV (.index t x y),Lk P vs env S w cx σ t')->qK P vs env S w cx σ y:=fun hl=>zO hl (by simp[O7]);unfold GR at h;split at h
 ·next q B xs ht hd=>
  obtain⟨j,hj,h,hi⟩:=db h;obtain⟨z,hz,h⟩:=yI h;refine⟨_,h,zf fun env w S vs hl=> ?_⟩;obtain⟨s,e1,e2,_⟩:=YA<|za hd<|hx hl;obtain⟨ik,e3⟩:=hi P vs env S w<|hy hl;have ha:(zL s).length=s.size:=yN s;have hb:j<s.size:=by rw[<-ha,e2];exact hj
  have hc:z=(s[j]'hb).toNat:=by
   rw[hz,<-e2];unfold zL;rw[PY,Rz,Pb<|by rw[<-ha]at hb;simpa[zL]using hb];rfl
  have hr:=run_index_string (P:=P) w t s ik (j:Int)<|W2 hT ht;rw[dif_pos ⟨by lia,by lia⟩]at hr;refine⟨.int .u8 (z:Int),?_,zd<|JN<|by rw[hc];exact UInt8.toNat_lt _⟩;simp only[Ry]at hr;rw[hc];simp[execOp,e1,e3,hr]
 ·cases h
theorem IY{E:TypeId}{k:List (Nat×Dv)->Option R}(h:Et cf cx σ E x k=some r):∃l,k l=some r/\ES P ⟨d,.box E x,ty,pos,aft,g⟩ cx σ F l:=by
 unfold Et at h;split at h
 ·next ti ha=>
  obtain⟨y,h,hy⟩:=jw h;exact⟨_,h,wG fun env w S vs hM hl=>⟨_,_,_,_,[fV ti.ty.rep y<|ev env x],[],Gn rfl<|fun S w h=>h.1,trivial,⟨hy P vs env S w (zO hl<|by simp[O7]),trivial⟩,fun u w' _ hf=>zd hf.1⟩⟩
 ·cases h
theorem Hr(hT:ya P cf.tt){ags:Array Operand}{ts:Array TypeId}{k:List (Nat×Dv)->Option R}(h:FU cf cx σ ags.toList ts.toList k=some r):
 ∃l,k l=some r/\ES P ⟨d,.call ⟨.builtin .len,ags,ts⟩,ty,pos,aft,g⟩ cx σ F l:=by
 unfold FU at h;split at h
 ·next _ _ x t hc hd=>
  obtain rfl:ags= #[x]:=by cases ags;simp_all
  obtain rfl:ts= #[t]:=by cases ts;simp_all
  have hx:∀{vs env S w},(∀t'∈zV (.call ⟨.builtin .len,#[x],#[t]⟩),Lk P vs env S w cx σ t')->qK P vs env S w cx σ x:=fun hl=>zO hl (by simp[O7,SD]);split at h
  ·next e E B ht=>
   have hu:=xF hT ht;split at h
   ·next ha=>exact⟨_,h,zf fun env w S vs hl=>⟨_,aV hu (za ha<|hx hl) w,zd<|yV<|by decide⟩⟩
   ·next s xs ha=>
    exact⟨_,h,wG fun env w S vs hM hl=>⟨_,_,_,_,[fV (eS s.rep) xs<|ev env x],[],GG (e:=s.rep) (xs:=xs) hu rfl<|fun S w h=>h.1,trivial,⟨za ha<|hx hl,trivial⟩,fun u w' hk hf=>zd<|yV<|JY hk⟩⟩
   ·next o ha=>
    split at h
    ·next s E' xs ho=>
     exact⟨_,h,wG fun env w S vs hM hl=>⟨_,_,_,_,[],[mO s.rep E' (vs o) xs],VJ 0 rfl hu<|za ha<|hx hl,⟨vM hM ho,trivial⟩,trivial,fun u w' hk hf=>zd<|yV<|JY hk⟩⟩
    ·cases h
   ·cases h
  ·next q B ht=>
   have hu:=W2 hT ht;split at h
   ·next xs ha=>
    refine⟨_,h,zf fun env w S vs hl=> ?_⟩;obtain⟨s,e1,e2,e3⟩:=YA<|za ha<|hx hl;have hb:(zL s).length=s.size:=yN s;rw[e2]at hb;have hb:O9 (α:=Nat) xs=s.size:=hb;refine⟨.int .i64 ((O9 (α:=Nat) xs:Nat):Int),?_,zd<|yV<|by lia⟩;rw[hb];simp[execOp,resolve,invoke,builtin,e1,Builtin.len_,goInt,run_underlying hu]
   ·cases h
  ·cases h
 ·cases h
theorem Il{b:Bool}{ags:Array Operand}{ts:Array TypeId}{k:List (Nat×Dv)->Option R}(h:Ma cx b σ ags.toList k=some r):
 ∃l,k l=some r/\ES P ⟨d,.call ⟨.builtin (if b=true then .max else .min),ags,ts⟩,ty,pos,aft,g⟩ cx σ F l:=by
 unfold Ma at h;split at h
 ·next _ x y hb=>
  obtain rfl:ags= #[x,y]:=by cases ags;simp_all
  have hx:∀{bl vs env S w},(∀t'∈zV (.call ⟨.builtin bl,#[x,y],ts⟩),Lk P vs env S w cx σ t')->qK P vs env S w cx σ x:=fun hl=>zO hl (by simp[O7,SD]);have hy:∀{bl vs env S w},(∀t'∈zV (.call ⟨.builtin bl,#[x,y],ts⟩),Lk P vs env S w cx σ t')->qK P vs env S w cx σ y:=fun hl=>zO hl (by simp[O7,SD]);split at h
  ·next a c ha hc=>
   cases b
   ·have h:nm (min (α:=Int) a c) (fun z=>k [(0,FX z)])=some r:=h;obtain⟨z,hz,h⟩:=yI h;exact⟨_,h,zf fun env w S vs hl=>⟨_,NG (H3 (xn ha<|hx hl).1 (xn hc<|hy hl).1) hz w,zd<|yV<|pw hz<|LO (xn ha<|hx hl).2 (xn hc<|hy hl).2⟩⟩
   ·have h:nm (max (α:=Int) a c) (fun z=>k [(0,FX z)])=some r:=h;obtain⟨z,hz,h⟩:=yI h;exact⟨_,h,zf fun env w S vs hl=>⟨_,NG (HD (xn ha<|hx hl).1 (xn hc<|hy hl).1) hz w,zd<|yV<|pw hz<|Ly (xn ha<|hx hl).2 (xn hc<|hy hl).2⟩⟩
  ·cases h
 ·cases h
end
end
section
def PH(S:Nat->Prop)(w:World):(ts:List Ty)->Xi ts->List (Nat×Value)->Prop
 |[],_,[]=>True
 |t::ts,y,(_,v)::r=>(fV t.rep y.1 v).p S w/\PH S w ts y.2 r
 |_,_,_=>False
theorem PH.keep{S:Nat->Prop}{w w':World}(k:zH S w w'):∀{ts:List Ty}{ys:Xi ts}{ps:List (Nat×Value)},PH S w ts ys ps->PH S w' ts ys ps
 |[],_,[],h=>trivial
 |t::_,y,(_,v)::_,h=>⟨(fV t.rep y.1 v).keep h.1 k,PH.keep k h.2⟩
 |[],_,_::_,h=>h.elim
 |_::_,_,[],h=>h.elim
theorem PH.sub{S S':Nat->Prop}{w:World}(k:∀k,k<w.heap.size->S k->S' k):∀{ts:List Ty}{ys:Xi ts}{ps:List (Nat×Value)},PH S w ts ys ps->PH S' w ts ys ps
 |[],_,[],h=>trivial
 |t::_,y,(_,v)::_,h=>⟨(fV t.rep y.1 v).sub h.1 k,PH.sub k h.2⟩
 |[],_,_::_,h=>h.elim
 |_::_,_,[],h=>h.elim
def MR(ts:List Ty)(ys:Xi ts)(ps:List (Nat×Value)):FF:=⟨fun S w=>PH S w ts ys ps,fun h k=>PH.keep k h,fun h k=>PH.sub k h⟩
section
variable{P:Program}{cf:Cf}{cx σ:Sg}{F:List MF}{vs:Nat->Value}{env:yb}{S:Nat->Prop}{w:World}{R:Type}{r:R}
 {d:Option Tmp}{ty t yt:TypeId}{pos:String}{aft:Array Edge}{g:Option (Nat×Bool)}{x y:Operand}
theorem X8:∀{ts:List Ty}{ps:List (Nat×Operand)}{j:Nat}{k:Xi ts->Option R},parts cx σ ts ps j k=some r->
 ∃ys,k ys=some r/\ps.map (·.1)=RK j ps.length/\∀(P:Program) vs env S w,(∀x∈ps.map (·.2),qK P vs env S w cx σ x)->PH S w ts ys (ps.map fun q:Nat×Operand=>(q.1,ev env q.2))
 |[],[],j,k,h=>⟨(),h,rfl,fun _ _ _ _ _ _=>trivial⟩
 |t::ts,(i,x)::ps,j,k,h=>by
  obtain⟨ha,h⟩:=zw h;obtain⟨y,h,hy⟩:=jw h;obtain⟨ys,h1,h2,h3⟩:=X8 h;refine⟨(y,ys),h1,?_,fun P vs env S w hl=>⟨hy P vs env S w<|hl x<|Nm,h3 P vs env S w fun z hz=>hl z<|H1 _ hz⟩⟩;simp only[PA,FS,TQ,h2,zr ha]
 |[],_::_,j,k,h=>by simp[parts]at h
 |_::_,[],j,k,h=>by simp[parts]at h
theorem CV{i:Nat}{v:Value}:wM [(i,v)]=v.cells.toList:=by simp[wM]
theorem MV{k:Nat}{s t:Ty}:yq (k+2) (.p s t) 0=some ⟨0,s,fun z=>z.1,fun y z=>(y,z.2)⟩:=rfl
theorem Nw{k:Nat}{s t:Ty}{i:Nat}{f:Fl t.D}(h:yq (k+1) t i=some f):yq (k+2) (.p s t) (i+1)=some ⟨s.n+f.off,f.f,fun z=>f.get z.2,fun y z=>(z.1,f.set y z.2)⟩:=by
 simp only[yq,h]
theorem ox{pl:Array (Nat×Nat)}:∀{k:Nat}{t:Ty}{o j:Nat}{ys:Xi (mI k t)}{ps:List (Nat×Value)}{z:t.D},(∀i f,yq k t i=some f->pl[j+i]? =some (o+f.off,f.f.n))->
 ps.map (·.1)=RK j ps.length->PH S w (mI k t) ys ps->ZW k t ys=some z->uB (pl[·]?) ps o/\t.rep.p S z (wM ps) w
 |0,_,_,_,_,_,_,_,_,_,h=>by simp[ZW]at h
 |1,t,o,j,ys,[],z,hp,hi,h,hj=>h.elim
 |1,t,o,j,ys,[(i,v)],z,hp,hi,h,hj=>by
  simp only[ZW,O6]at hj;subst hj;have ha:i=j:=by simpa using hi
  subst ha;have h0:=hp 0 (Fl.self t) rfl;have hs:=gR h.1;rw[t.n_rep]at hs;refine⟨⟨?_,trivial⟩,by rw[CV];exact vU h.1⟩;show pl[i]? =_;rw[hs];simpa[Fl.self]using h0
 |1,t,o,j,ys,_::_::_,z,hp,hi,h,hj=>h.2.elim
 |k+2,.p s t,o,j,ys,[],z,hp,hi,h,hj=>h.elim
 |k+2,.p s t,o,j,ys,(i,v)::ps,z,hp,hi,h,hj=>by
  unfold ZW at hj;split at hj
  ·next y hy=>
   obtain rfl:=P9 hj;simp only[PA,FS,TQ,Tp]at hi;obtain⟨rfl,hi⟩:=hi;have h0:=hp 0 _ MV;have hs:=gR h.1;rw[s.n_rep]at hs;obtain⟨h1,h2⟩:=ox (o:=o+s.n) (j:=i+1) (pl:=pl) (fun i' f hf=>by
    have:=hp (i'+1) _<|Nw hf;rw[show i+1+i'=i+(i'+1)by lia,this];simp only[R9]) hi h.2 hy
   refine⟨⟨?_,by rw[hs];exact h1⟩,?_⟩
   ·show pl[i]? =_;rw[hs];simpa using h0
   ·rw[mC];exact⟨_,_,rfl,vU h.1,h2⟩
  ·cases hj
 |k+2,.i,_,_,_,_,_,_,_,_,h=>by simp[ZW]at h
 |k+2,.u,_,_,_,_,_,_,_,_,h=>by simp[ZW]at h
 |k+2,.b,_,_,_,_,_,_,_,_,h=>by simp[ZW]at h
 |k+2,.l _,_,_,_,_,_,_,_,_,h=>by simp[ZW]at h
 |k+2,.a _ _,_,_,_,_,_,_,_,_,h=>by simp[ZW]at h
def HB(S:Nat->Prop)(w:World)(n:Nat)(t:Ty):List (Nat×Value)->t.D->t.D->Prop
 |[],z,z'=>z=z'
 |(i,v)::r,z,z'=>∃(f:Fl t.D) (y:f.f.D),yq n t i=some f/\(fV f.f.rep y v).p S w/\HB S w n t r (f.set y z) z'
theorem HB.keep{S:Nat->Prop}{w w':World}(k:zH S w w'){n:Nat}{t:Ty}:∀{vs:List (Nat×Value)}{z z':t.D},HB S w n t vs z z'->HB S w' n t vs z z'
 |[],_,_,h=>h
 |_::_,_,_,⟨f,y,h1,h2,h3⟩=>⟨f,y,h1,(fV f.f.rep y _).keep h2 k,HB.keep k h3⟩
theorem HB.sub{S S':Nat->Prop}{w:World}(k:∀k,k<w.heap.size->S k->S' k){n:Nat}{t:Ty}:∀{vs:List (Nat×Value)}{z z':t.D},HB S w n t vs z z'->HB S' w n t vs z z'
 |[],_,_,h=>h
 |_::_,_,_,⟨f,y,h1,h2,h3⟩=>⟨f,y,h1,(fV f.f.rep y _).sub h2 k,HB.sub k h3⟩
def NY(n:Nat)(t:Ty)(vs:List (Nat×Value))(z z':t.D):FF:=⟨fun S w=>HB S w n t vs z z',fun h k=>HB.keep k h,fun h k=>HB.sub k h⟩
theorem HB.fill{S:Nat->Prop}{w:World}{n:Nat}{t:Ty}{pl:Array (Nat×Nat)}(hp:∀i f,yq n t i=some f->pl[i]? =some (f.off,f.f.n)):∀{vs:List (Nat×Value)}{z z':t.D}{cs:List Value},HB S w n t vs z z'->t.rep.p S z cs w->
 ∃out,Sf (pl[·]?) cs.toArray vs=some out.toArray/\t.rep.p S z' out w/\∀j g,yq n t j=some g->(∀p∈vs,p.1≠j)->g.f.n=1->out[g.off]? =cs[g.off]?
 |[],z,z',cs,h,hc=>⟨cs,rfl,h▸hc,fun _ _ _ _ _=>rfl⟩
 |(i,v)::r,z,z',cs,⟨f,y,h1,h2,h3⟩,hc=>by
  obtain⟨pre,c,post,e1,e2,e3,e4⟩:=ux h1 z S w cs hc;have hv:=vU h2;have ha:=gR h2;obtain⟨out,h5,h6,h7⟩:=HB.fill hp h3<|e4 w y v.cells.toList (zH.refl _ _) hv;refine⟨out,?_,h6,fun j g hg hj hb=> ?_⟩
  ·rw[e1,mi (by rw[hp i f h1,ha,f.f.n_rep]) e2<|by rw[f.f.rep.len e3,ha]];exact h5
  ·rw[h7 j g hg (fun p hp=>hj p<|H1 _ hp) hb,e1];obtain⟨_,_,hd⟩:=Qk h1 hg<|hj (i,v)<|Nm;have l1:c.length=f.f.n:=by rw[f.f.rep.len e3,f.f.n_rep]
   have l2:v.cells.toList.length=f.f.n:=by rw[f.f.rep.len hv,f.f.n_rep]
   rcases hd with hd|hd
   ·rw[O2,O2,Py (by lia),Py<|by lia]
   ·rw[PW (by rw[O1];lia),PW (by rw[O1];lia),O1,O1,l1,l2]
theorem eH{n:Nat}{t:Ty}:∀{ps:List (Nat×Operand)}{z:t.D}{k:t.D->Option R},sf cx σ n t ps z k=some r->
 ∃z',k z'=some r/\∀(P:Program) vs env S w,(∀x∈ps.map (·.2),qK P vs env S w cx σ x)->HB S w n t (ps.map fun q:Nat×Operand=>(q.1,ev env q.2)) z z'
 |[],z,k,h=>⟨z,h,fun _ _ _ _ _ _=>rfl⟩
 |(i,x)::ps,z,k,h=>by
  unfold sf at h;split at h
  ·next f hf=>
   obtain⟨y,h,hy⟩:=jw h;obtain⟨z',h1,h2⟩:=eH h;exact⟨z',h1,fun P vs env S w hl=>⟨f,y,hf,hy P vs env S w<|hl x<|Nm,h2 P vs env S w fun z hz=>hl z<|H1 _ hz⟩⟩
  ·cases h
theorem YO:∀(n:Nat) (t:Ty) (ys:Xi (JJ n t)),(Qx n t ys).length=n
 |0,_,_=>rfl
 |n+1,t,ys=>congrArg (· +1)<|YO n t ys.2
theorem UX{t:Ty}:∀{n j:Nat}{ys:Xi (JJ n t)}{ps:List (Nat×Value)},ps.map (·.1)=RK j ps.length->PH S w (JJ n t) ys ps->
 uB (fun i=>some (i*t.rep.n,t.rep.n)) ps (j*t.rep.n)/\zX t.rep S (Qx n t ys) (wM ps) w
 |0,_,_,[],_,_=>⟨trivial,rfl⟩
 |0,_,_,_::_,_,h=>h.elim
 |n+1,_,_,[],_,h=>h.elim
 |n+1,j,ys,(i,v)::ps,hi,h=>by
  simp only[PA,FS,TQ,Tp]at hi;obtain⟨rfl,hi⟩:=hi;have hs:=gR h.1;obtain⟨h1,h2⟩:=UX hi h.2;refine⟨⟨by rw[hs],?_⟩,?_⟩
  ·grind
  ·skip;exact⟨_,_,rfl,vU h.1,h2⟩
theorem BQ(hT:ya P cf.tt){ps:Array (Nat×Operand)}{k:List (Nat×Dv)->Option R}(h:fE cf cx σ t ps.toList k=some r):∃l,k l=some r/\ES P ⟨d,.build t ps,ty,pos,aft,g⟩ cx σ F l:=by
 unfold fE at h;split at h
 ·next e n B ht=>
  obtain⟨zero,hd,hk,hm⟩:=qn hT ht;obtain⟨he,_,⟨fs,hr,pl,hs,ho⟩,_⟩:=(hT _ _ ht).2.2.2;simp only at hd hk hm he ho;cases hc:RA ps.toList.length n||OW n 0<;>rw[hc]at h
  ·obtain⟨ys,h,hi,hp⟩:=X8 h;split at h
   ·next z hz=>
    refine⟨_,h,wG fun env w S vs hM hl=> ?_⟩;have hq:=hp P vs env S w fun x hx=>zO hl (by simpa[O7]using hx);have ha:(ps.toList.map fun q:Nat×Operand=>(q.1,ev env q.2)).map (·.1)=RK 0 (ps.toList.map fun q:Nat×Operand=>(q.1,ev env q.2)).length:=by rw[Sz,Rp];exact hi
    have hj:=fun(S:Nat->Prop) (w:World) (h:PH S w (mI n e) ys (ps.toList.map fun q:Nat×Operand=>(q.1,ev env q.2)))=>ox (pl:=pl) (o:=0) (j:=0) (fun i f hf=>by rw[Pk,Pk];exact ho i f hf) ha h hz;exact⟨_,_,_,_,[MR _ ys (ps.toList.map fun q:Nat×Operand=>(q.1,ev env q.2))],[],aW (e:=e.rep) (z:=z) (parts:=ps.toList) (he▸hd) he hk rfl (.inl ⟨fs,hr,pl,hs,fun S w h=>(hj S w h.1).1⟩)<|fun S w h=>(hj S w h.1).2,trivial,⟨hq,trivial⟩,fun u w' _ hf=>zd hf.1⟩
   ·cases h
  ·obtain⟨z,h,hH⟩:=eH h;refine⟨_,h,wG fun env w S vs hM hl=> ?_⟩;have hb:=hH P vs env S w fun x hx=>zO hl (by simpa[O7]using hx);exact⟨_,_,_,_,[NY n e (ps.toList.map fun q:Nat×Operand=>(q.1,ev env q.2)) e.z z],[],J1 (e:=e.rep) (z0:=e.z) (z:=z) (parts:=ps.toList) (he▸hd) he hm ⟨fs,hr,hs⟩ rfl (fun _=>True) (fun S w h cs _ hc=>by obtain⟨out,q1,q2,_⟩:=HB.fill ho h.1 hc;exact⟨out,q1,q2,trivial⟩),trivial,⟨hb,trivial⟩,fun u w' _ hf=>zd hf.1⟩
 ·next n e n' E B ht=>
  obtain⟨hg,h⟩:=zw h;rw[IR]at hg;have hn:=zr hg.1;subst hn;obtain⟨b2,z2,hu⟩:=sG hT hg.2;obtain⟨ys,h,hi,hp⟩:=X8 h;obtain⟨zero,hd,hk,hm⟩:=qn hT ht;refine⟨_,h,wG fun env w S vs hM hl=> ?_⟩;have hq:=hp P vs env S w fun x hx=>zO hl (by simpa[O7]using hx);have ha:(ps.toList.map fun q:Nat×Operand=>(q.1,ev env q.2)).map (·.1)=RK 0 (ps.toList.map fun q:Nat×Operand=>(q.1,ev env q.2)).length:=by rw[Sz,Rp];exact hi
  have hj:=fun(S:Nat->Prop) (w:World) (h:PH S w (JJ n' e) ys (ps.toList.map fun q:Nat×Operand=>(q.1,ev env q.2)))=>UX ha h;exact⟨_,_,_,_,[MR _ ys (ps.toList.map fun q:Nat×Operand=>(q.1,ev env q.2))],[],aW (e:=(Ty.a n' e).rep) (z:=Qx n' e ys) (parts:=ps.toList) hd rfl hk rfl (.inr ⟨_,_,_,_,_,_,Ab hT ht,hu,fun S w h=>by have:=(hj S w h.1).1;rwa[Sb]at this⟩)<|fun S w h=>⟨YO n' e ys,(hj S w h.1).2⟩,trivial,⟨hq,trivial⟩,fun u w' _ hf=>zd hf.1⟩
 ·cases h
theorem Ag{s E:TypeId}{e:Ty}{B:Nat}(hT:ya P cf.tt)(hL:vd P cf.tt)(h:vV cf s=some ⟨.l e,.sl E,B⟩):0<e.rep.n:=by
 obtain⟨ti,h1,rfl⟩:=hL _ _ _ _ h;exact(hT _ _ h1).2.2.1
theorem Im(hT:ya P cf.tt)(hL:vd P cf.tt){n:Nat}{ps:Array (Nat×Operand)}{k:List (Nat×Dv)->Option R}(h:Ef cf cx σ t n ps.toList k=some r):∃l,k l=some r/\ES P ⟨d,.buildSlice t n ps,ty,pos,aft,g⟩ cx σ F l:=by
 unfold Ef at h;split at h
 ·next e E B ht=>
  obtain⟨ha,h⟩:=zw h;have ha:=PC ha;rw[<-e.n_rep]at ha;obtain⟨ys,h,hc,hd⟩:=X8 h;obtain⟨bytes,zero,he⟩:=ui hT hL ht;refine⟨_,h,wG fun env w S vs hM hl=> ?_⟩;have hg:=hd P vs env S w fun x hx=>zO hl (by simpa[O7]using hx);have hb:(ps.toList.map fun q:Nat×Operand=>(q.1,ev env q.2)).map (·.1)=RK 0 (ps.toList.map fun q:Nat×Operand=>(q.1,ev env q.2)).length:=by rw[Sz,Rp];exact hc
  have hj:=fun(S:Nat->Prop) (w:World) (h:PH S w (JJ n e) ys (ps.toList.map fun q:Nat×Operand=>(q.1,ev env q.2)))=>UX hb h;exact⟨_,_,_,_,[MR _ ys (ps.toList.map fun q:Nat×Operand=>(q.1,ev env q.2))],[],Y7 (xF hT ht) he (Ag hT hL ht) (YO n e ys) ha rfl (fun S w h=>by have:=(hj S w h.1).1;rwa[Sb]at this)<|fun S w h=>(hj S w h.1).2,trivial,⟨hg,trivial⟩,fun u w' _ hf=>zd hf.1⟩
 ·cases h
theorem fj:∀{xs:List Operand}{l:List PD},Zt cx σ xs=some l->l.length=xs.length/\∀(P:Program) vs env S w,(∀x∈xs,qK P vs env S w cx σ x)->ze S (JH l<|xs.map<|ev env) w
 |[],l,h=>by simp only[Zt,O6]at h;subst h;exact⟨rfl,fun _ _ _ _ _ _=>trivial⟩
 |x::xs,l,h=>by
  unfold Zt at h;split at h
  ·next t y l' hx hr=>
   simp only[O6]at h;subst h;obtain⟨h1,h2⟩:=fj hr;exact⟨by simp[h1],fun P vs env S w hl=>⟨za hx<|hl x<|Nm,h2 P vs env S w fun z hz=>hl z<|H1 _ hz⟩⟩
  ·cases h
theorem Ik{f:Go.Fn}{first cs:Array Operand}{k:List (Nat×Dv)->Option R}(h:Ft cx σ f first.toList cs.toList k=some r):∃l,k l=some r/\ES P ⟨d,.makeFunc f first cs,ty,pos,aft,g⟩ cx σ F l:=by
 unfold Ft at h;split at h
 ·next _ _ _ f' l hf hc=>
  obtain rfl:first= #[]:=by cases first;simp_all
  obtain⟨h1,h2⟩:=fj hc;refine⟨_,h,zf fun env w S vs hl=>⟨_,Nv (xs:=cs.toList) rfl w,zd ?_⟩⟩;exact⟨_,rfl,by simp[h1],h2 P vs env S w fun x hx=>zO hl<|by simpa[O7]using hx⟩
 ·next _ _ _ f' x hf hc=>
  split at h
  ·next o t hx=>
   obtain rfl:first= #[x]:=by cases first;simp_all
   have h1:=(fj hc).1;obtain rfl:cs= #[]:=by grind
   refine⟨_,h,zf fun env w S vs hl=>⟨.func (.func f') #[ev env x] #[],Yq (by simp[pv]) w,zd ?_⟩⟩;obtain⟨h3,h4⟩:=za hx (zO hl<|by simp[O7]);exact⟨by rw[h3],h4⟩
  ·cases h
 ·cases h
end
end
section
section
variable{P:Program}{cf:Cf}{cx σ:Sg}{F:List MF}{vs:Nat->Value}{env:yb}{S:Nat->Prop}{w:World}{R:Type}{r:R}
 {d:Option Tmp}{ty t yt:TypeId}{pos:String}{aft:Array Edge}{g:Option (Nat×Bool)}{x y:Operand}
theorem Kf{A B C:Type}(h:B=C)(p:(A×B)=(A×C))(x:A×B):(p▸x:A×C)=(x.1,h▸x.2):=by subst h;rfl
theorem St.sub'{we:World}{Se:Nat->Prop}{ms:List MF}{Γ Δ:List FF}{w:World}(h:St we Se ms Γ w)(hs:∀f∈Δ,f∈Γ):St we Se ms Δ w:=by grind [St.weak,wg]
theorem LG{t:Ty}{n:RM}{r:List RM}(x:uE (.d t::n::r)):(ji (.d t::n::r)▸x:Km ((RM.d t::n::r).map RM.ty))=((x.1,ji (n::r)▸x.2):t.D×Km ((n::r).map RM.ty)):=
 Kf (ji (n::r)) (ji (.d t::n::r)) x
theorem LA{t:Ty}{E:TypeId}{n:RM}{r:List RM}(x:uE (.own t E::n::r)):(ji (.own t E::n::r)▸x:Km ((RM.own t E::n::r).map RM.ty))=((x.1,ji (n::r)▸x.2):(Ty.l t).D×Km ((n::r).map RM.ty)):=
 Kf (ji (n::r)) (ji (.own t E::n::r)) x
theorem nP{we:World}{Se:Nat->Prop}:∀{rs:List RM}{x:uE rs}{us:List Value}{F:List MF}{G:List FF}{w:World},Eh rs=true->
 St we Se (wI rs x us++F) (wC rs x us++G) w->St we Se F (DM (rs.map RM.ty) (ji rs▸x) us++G) w
 |[],_,_,_,_,_,_,h=>h
 |[.d t],x,us,F,G,w,_,h=>h
 |.var _ _::_,_,_,_,_,_,hv,_=>by cases hv
 |[.own t E],x,us,F,G,w,_,h=>by
  have h:St we Se (mO t.rep E (us.headD undef) x::F) G w:=h;exact KN 0 h rfl
 |.d t::n::r,x,us,F,G,w,hv,h=>by
  rw[LG];have h:St we Se (wI (n::r) x.2 us.tail++F) (wC (n::r) x.2 us.tail++(fV t.rep x.1 (us.headD undef)::G)) w:=St.sub' (by simpa[wI,wC,Lr,LN]using h) (by simp;rintro f (h|h|h)<;>simp[h]);have:=nP (rs:=n::r) hv h;exact St.sub' this (by
   intro f hf;rcases OX.1 hf with hf|hf
   ·rcases OY.1 hf with rfl|hf
    ·exact OX.2 (.inr<|Nm)
    ·grind
   ·exact OX.2 (.inr<|H1 _ hf))
 |.own t E::n::r,x,us,F,G,w,hv,h=>by
  rw[LA];have h:St we Se (mO t.rep E (us.headD undef) x.1::(wI (n::r) x.2 us.tail++F)) (wC (n::r) x.2 us.tail++G) w:=h;have h:=KN 0 h rfl;have h:St we Se (wI (n::r) x.2 us.tail++F) (wC (n::r) x.2 us.tail++(fV (eS t.rep) x.1 (us.headD undef)::G)) w:=St.sub' h (by simp;rintro f (h|h|h)<;>simp[h]);have:=nP (rs:=n::r) hv h;exact St.sub' this (by
   intro f hf;rcases OX.1 hf with hf|hf
   ·rcases OY.1 hf with rfl|hf
    ·exact OX.2 (.inr<|Nm)
    ·exact OX.2 (.inl hf)
   ·exact OX.2 (.inr<|H1 _ hf))
theorem Uc:∀{rs:List RM}{x:uE rs}{i:Nat},Eh rs=true->dR rs x i=pG (rs.map RM.ty) (ji rs▸x) i
 |[],_,_,_=>rfl
 |[.d _],_,_,_=>rfl
 |[.own _ _],_,_,_=>rfl
 |.var _ _::_,_,_,h=>by cases h
 |.d t::n::r,x,i,h=>by rw[LG];show(i,Dv.d t x.1)::dR (n::r) x.2 (i+1)=_;rw[Uc (rs:=n::r) h];rfl
 |.own t E::n::r,x,i,h=>by rw[LA];show(i,Dv.d (.l t) x.1)::dR (n::r) x.2 (i+1)=_;rw[Uc (rs:=n::r) h];rfl
theorem bf:∀rs:List RM,Zj rs=Ck (rs.map RM.ty)
 |[]=>rfl
 |[_]=>rfl
 |_::_::_=>rfl
theorem rK:∀{ts:List Ty}{x:Km ts}{i:Nat}{us:List Value},ze S (DM ts x us) w->us.length=ts.length->∀e∈pG ts x i,∃j u,e.1=i+j/\us[j]? =some u/\(yW P vs e.2 u).p S w
 |[],_,_,_,_,_,e,he=>absurd he UV
 |[t],x,i,[],h,hl,e,he=>by cases hl
 |[t],x,i,u::us,h,hl,e,he=>by
  obtain rfl:=OZ.1 he;exact⟨0,u,rfl,rfl,h.1⟩
 |t::s::r,x,i,[],h,hl,e,he=>by cases hl
 |t::s::r,x,i,u::us,h,hl,e,he=>by
  rcases OY.1 he with rfl|he
  ·exact⟨0,u,rfl,rfl,h.1⟩
  ·obtain⟨j,v,h1,h2,h3⟩:=rK h.2 (by simpa using hl) e he;grind
theorem QA:∀{ts:List Ty}{x:Km ts}{us:List Value},ze S (DM ts x us) w->us.length=ts.length->∀e∈pG ts x (bif Ck ts then 0 else 1),(xG P vs e.2 (wQ us) e.1).p S w
 |[],_,_,_,_,e,he=>absurd he UV
 |[t],x,[],_,hl,_,_=>by cases hl
 |[t],x,[v],h,hl,e,he=>by
  obtain rfl:=OZ.1 he;exact h.1
 |[t],x,_::_::_,_,hl,_,_=>by simp at hl
 |t::s::q,x,[],_,hl,_,_=>by cases hl
 |t::s::q,x,[_],_,hl,_,_=>by simp at hl
 |t::s::q,x,v::v'::us,h,hl,e,he=>by
  obtain⟨j,u,h1,h2,h3⟩:=rK h hl e he;obtain⟨i,dv⟩:=e;simp only[Ck,cond_false]at h1;obtain rfl:i=j+1:=by lia
  exact⟨(v::v'::us).toArray,u,rfl,by simpa using h2,h3⟩
theorem VA:∀{cs:List jo}{f:FuncId}{s:jo},JT cs f=some s->s∈cs/\s.f=f/\QJ s.dom=true/\s.bk=0/\Eh s.cod=true
 |c::cs,f,s,h=>by
  unfold JT at h;cases hb:OW c.f f && (QJ c.dom && (OW c.bk 0 && Eh c.cod))<;>rw[hb]at h
  ·obtain⟨h1,h2⟩:=VA h;exact⟨H1 _ h1,h2⟩
  ·simp_all
theorem X7:∀{dom:List AM}{x:uC dom}{us:List Value},QJ dom=true->wH dom x us=[]
 |[],_,_,_=>rfl
 |.d _::r,x,us,h=>X7 (dom:=r) h
 |.q _::r,x,us,h=>X7 (dom:=r) h
 |.fn _ _::r,x,us,h=>X7 (dom:=r) h
 |.own _ _::_,_,_,h=>by cases h
 |.var _ _::_,_,_,h=>by cases h
theorem KR:∀{full:List AM}{cs:List PD}{z:uC full},ZI full cs=some z->cs.length=full.length/\∀{S:Nat->Prop}{w:World}{cvs:List Value},cvs.length=cs.length->ze S (JH cs cvs) w->ze S (wO P full z cvs) w
 |[],[],_,_=>⟨rfl,fun _ _=>trivial⟩
 |.q t::r,c::cs,z,h=>by
  obtain⟨e,h⟩:=zx h;subst e;split at h
  ·next z' hz=>
   obtain rfl:=P9 h;obtain⟨h1,h2⟩:=KR hz;refine⟨by simp[h1],fun{S w cvs} hl ha=> ?_⟩
   cases cvs with
   |nil=>cases hl
   |cons v cvs=>exact⟨ha.1,h2 (by simpa using hl) ha.2⟩
  ·cases h
 |[],_::_,_,h=>by simp[ZI]at h
 |.q _::_,[],_,h=>by simp[ZI]at h
 |.d _::_,_,_,h=>by simp[ZI]at h
 |.own _ _::_,_,_,h=>by simp[ZI]at h
 |.var _ _::_,_,_,h=>by simp[ZI]at h
 |.fn _ _::_,_,_,h=>by simp[ZI]at h
theorem rl:∀{full:List AM}{dom:List Ty}{x:Xi dom}{cs:List PD}{z:uC full},UH full dom x cs=some z->dom.length+cs.length=full.length/\
 ∀{S:Nat->Prop}{w:World}{us cvs:List Value},us.length=dom.length->cvs.length=cs.length->ze S (Ai dom x us) w->ze S (JH cs cvs) w->ze S (wO P full z<|us++cvs) w
 |full,[],x,cs,z,h=>by
  have h:ZI full cs=some z:=by cases full<;>(try cases‹AM›)<;>simpa[UH]using h
  obtain⟨h1,h2⟩:=KR (P:=P) h;simp_all
 |.d t::r,s::dom,x,cs,z,h=>by
  obtain⟨e,h⟩:=zx h;subst e;split at h
  ·next z' hz=>
   obtain rfl:=P9 h;obtain⟨h1,h2⟩:=rl hz;refine⟨by simp;lia,fun{S w us cvs} hl hb ht ha=> ?_⟩
   cases us with
   |nil=>cases hl
   |cons v us=>exact⟨ht.1,h2 (by simpa using hl) hb ht.2 ha⟩
  ·cases h
 |[],_::_,_,_,_,h=>by simp[UH]at h
 |.q _::_,_::_,_,_,_,h=>by simp[UH]at h
 |.own _ _::_,_::_,_,_,_,h=>by simp[UH]at h
 |.var _ _::_,_::_,_,_,_,h=>by simp[UH]at h
 |.fn _ _::_,_::_,_,_,_,h=>by simp[UH]at h
theorem rb{A B:Type}(h:A=B){o:Option A}{r:B}(ho:(h▸o:Option B)=some r):∃r':A,o=some r'/\(h▸r':B)=r:=by
 grind
theorem Xm{s:jo}(hs:zQ P s)(hn:QJ s.dom=true)(hk:s.bk=0)(hv:Eh s.cod=true){z:uC s.dom}{q:uE s.cod}(hz:s.M z=some q){us:List Value}(hl:us.length=s.dom.length):
 Fn P s.f us.toArray (wO P s.dom z us) wQ (fun us=>DM (s.cod.map RM.ty) (ji s.cod▸q) us) (fun us=>us.length=s.cod.length):=by
 have h:=hs.plain hk hz hl;rw[X7 hn]at h;refine Ud.frozen h fun u w' we Se ha=> ?_;have:=nP (F:=[]) (G:=[]) hv (by simpa using ha);simp_all
theorem Fn.weakΓ{U:Type}{f:FuncId}{args:Array Value}{Γ Γ':List FF}{val:U->Value}{facts:U->List FF}{ok:U->Prop}(h:Fn P f args Γ val facts ok)(hs:∀S w,ze S Γ' w->ze S Γ w):Fn P f args Γ' val facts ok:=
 fun w Se h1 h2=>h w Se h1<|hs Se w h2
theorem tG(hC:∀s∈cf.cs,zQ P s){v:Option Dv}{dom cod:List Ty}{k:(Xi dom->Option (Km cod))->Option R}(h:Dk cf σ v dom cod k=some r):
 ∃g,k g=some r/\∀vs S w (dv:Dv) u,v=some dv->(yW P vs dv u).p S w->(LZ P dom cod g u).p S w:=by
 unfold Dk at h;split at h
 ·next f c=>
  split at h
  ·next s hs=>
   obtain⟨h1,h2,h3,h4,h5⟩:=VA hs;have hf:=hC s h1;split at h
   ·next he _=>
    subst he;refine⟨_,h,fun vs S w dv u hd hh=> ?_⟩;cases hd;obtain⟨cs,hu,hi,hj⟩:=hh;refine⟨f,cs,JH c cs,hu,⟨h2▸hf.1,fun x q hx us hl=> ?_⟩,hj⟩;simp only at hx;split at hx
    ·next z hz=>
     obtain⟨q',hk,hm⟩:=rb _ hx;obtain⟨hp,hb⟩:=rl (P:=P) hz;have hg:=Xm hf h3 h4 h5 hk (us:=us++cs) (by simp;lia);rw[h2]at hg;subst hm;refine(hg.weakΓ fun S w ha=>hb hl hi (ze.left ha)<|ze.right ha).ok_mono fun us hn=>by simpa using hn
    ·cases hx
   ·cases h
  ·cases h
 ·next d' c' g'=>
  split at h
  ·next hd hc _ _=>
   subst hd;subst hc;exact⟨_,h,fun vs S w dv u ho hh=>by cases ho;exact hh⟩
  ·cases h
 ·cases h
end
end
section
def X0(P:Program)(ex:List (Nat×Bool)):Prop:=∀f b,uu ex f=some b->∃fn,P.funcs[f]? =some fn/\(fn.name== "runtime.NumGoroutine")=false/\fn.body=none/\(SP fn).isNone=true/\
 (b=true->Tb fn=some (fun args=>do
  let(x,y,c)<-PN "Add64" args
  pure (Ra ((x+y+c)%Pj)<|(x+y+c)/Pj)))/\
 (b=false->Tb fn=some (fun args=>do
  let(x,y,b)<-PN "Sub64" args
  pure (Ra ((x+Pj-y-b)%Pj) (if x<y+b then 1 else 0))))
section
variable{P:Program}{cf:Cf}{cx σ:Sg}{F:List MF}{vs:Nat->Value}{env:yb}{S:Nat->Prop}{w:World}{R:Type}{r:R}
 {d:Option Tmp}{ty t yt:TypeId}{pos:String}{aft:Array Edge}{g:Option (Nat×Bool)}{x y:Operand}
theorem HV{x y z:Nat}{k:List (Nat×Dv)->Option R}(h:Nc true x y z k=some r):z<=1/\∃p q:Nat,p=(x+y+z)%18446744073709551616/\q=(x+y+z)/18446744073709551616/\k [(1,.d .u p),(2,.d .u q)]=some r:=by
 obtain⟨h1,h⟩:=wK h;obtain⟨p,hp,h⟩:=yI h;obtain⟨q,hq,h⟩:=yI h;simp_all
theorem Lv{x y z:Nat}{k:List (Nat×Dv)->Option R}(h:Nc false x y z k=some r):z<=1/\∃p q:Nat,p=(x+18446744073709551616-y-z)%18446744073709551616/\q=(if x<y+z then 1 else 0)/\k [(1,.d .u p),(2,.d .u q)]=some r:=by
 obtain⟨h1,h⟩:=wK h;obtain⟨p,hp,h⟩:=yI h;obtain⟨q,hq,h⟩:=yI h;simp_all
theorem XW(hC:∀s∈cf.cs,zQ P s):∀{dom:List AM}{xs:List Operand}{cs:List PD}{k:uC dom->Option R},jT cf cx σ dom xs cs k=some r->
 ∃z,k z=some r/\xs.length+cs.length=dom.length/\∀vs env S w,(∀x∈xs,qK P vs env S w cx σ x)->∀cvs:List Value,cvs.length=cs.length->ze S (JH cs cvs) w->ze S (wO P dom z<|xs.map (ev env)++cvs) w
 |[],[],[],k,h=>⟨(),h,rfl,fun _ _ _ _ _ _ _ _=>trivial⟩
 |.q t::dom,[],c::cs,k,h=>by
  simp only[jT]at h;obtain⟨e,h⟩:=zx h;subst e;obtain⟨z,h1,h2,h3⟩:=XW hC h;refine⟨_,h1,by simp at h2⊢;lia,fun vs env S w hl cvs ha hb=> ?_⟩
  cases cvs with
  |nil=>cases ha
  |cons v cvs=>exact⟨hb.1,h3 vs env S w hl cvs (by simpa using ha) hb.2⟩
 |.d t::dom,x::xs,cs,k,h=>by
  simp only[jT]at h;obtain⟨y,h,hy⟩:=jw h;obtain⟨z,h1,h2,h3⟩:=XW hC h;exact⟨_,h1,by simp at h2⊢;lia,fun vs env S w hl cvs ha hb=>⟨hy P vs env S w<|hl x<|Nm,h3 vs env S w (fun z hz=>hl z<|H1 _ hz) cvs ha hb⟩⟩
 |.q t::dom,x::xs,cs,k,h=>by
  simp only[jT]at h;split at h
  ·next s y hx=>
   obtain⟨e,h⟩:=zx h;subst e;obtain⟨z,h1,h2,h3⟩:=XW hC h;exact⟨_,h1,by simp at h2⊢;lia,fun vs env S w hl cvs ha hb=>⟨za hx<|hl x<|Nm,h3 vs env S w (fun z hz=>hl z<|H1 _ hz) cvs ha hb⟩⟩
  ·cases h
 |.fn dom' cod::dom,x::xs,cs,k,h=>by
  simp only[jT]at h;obtain⟨f,h,hf⟩:=tG hC h;obtain⟨z,h1,h2,h3⟩:=XW hC h;refine⟨_,h1,by simp at h2⊢;lia,fun vs env S w hl cvs ha hb=>⟨?_,h3 vs env S w (fun z hz=>hl z<|H1 _ hz) cvs ha hb⟩⟩
  cases hv:yx cx σ x with
  |none=>rename_i h0;rw[hv]at h0;simp[Dk]at h0
  |some v=>exact hf vs S w v _ hv<|za hv<|hl x<|Nm
 |[],_::_,_,_,h=>by simp[jT]at h
 |[],[],_::_,_,h=>by simp[jT]at h
 |.d _::_,[],_,_,h=>by simp[jT]at h
 |.own _ _::_,_,_,_,h=>by simp[jT]at h
 |.fn _ _::_,[],_,_,h=>by simp[jT]at h
 |.q _::_,[],[],_,h=>by simp[jT]at h
theorem VE:∀{dom:List Ty}{xs:List Operand}{k:Xi dom->Option R},Jl cx σ dom xs k=some r->
 ∃z,k z=some r/\xs.length=dom.length/\∀(P:Program) vs env S w,(∀x∈xs,qK P vs env S w cx σ x)->ze S (Ai dom z<|xs.map<|ev env) w
 |[],[],k,h=>⟨(),h,rfl,fun _ _ _ _ _ _=>trivial⟩
 |t::dom,x::xs,k,h=>by
  obtain⟨y,h,hy⟩:=jw h;obtain⟨z,h1,h2,h3⟩:=VE h;exact⟨_,h1,by simp[h2],fun P vs env S w hl=>⟨hy P vs env S w<|hl x<|Nm,h3 P vs env S w<|fun z hz=>hl z<|H1 _ hz⟩⟩
 |[],_::_,_,h=>by simp[Jl]at h
 |_::_,[],_,h=>by simp[Jl]at h
theorem Ej(hC:∀s∈cf.cs,zQ P s)(hX:X0 P cf.ex){f:Operand}{ags:Array Operand}{ts:Array TypeId}{k:List (Nat×Dv)->Option R}(h:rJ cf cx σ f ags.toList k=some r):
 ∃l,k l=some r/\ES P ⟨d,.call ⟨.value f,ags,ts⟩,ty,pos,aft,g⟩ cx σ F l:=by
 have hf:∀{vs env S w},(∀t'∈zV (.call ⟨.value f,ags,ts⟩),Lk P vs env S w cx σ t')->qK P vs env S w cx σ f:=fun hl=>zO hl (by simp[O7,SD]);have ha:∀{vs env S w},(∀t'∈zV (.call ⟨.value f,ags,ts⟩),Lk P vs env S w cx σ t')->∀x∈ags.toList,qK P vs env S w cx σ x:=fun hl x hx=>zO hl (by simp only[O7,SD,Tc,OX];exact .inr hx);unfold rJ at h;split at h
 ·next f0 cs hc=>
  split at h
  ·next s hs=>
   obtain⟨h1,h2,h3,h4,h5⟩:=VA hs;have hr:=hC s h1;obtain⟨z,h,hd,hz⟩:=XW hC h;obtain⟨q,hq,h⟩:=ZP h;refine⟨_,h,wG fun env w S vs hM hl=> ?_⟩;obtain⟨cvs,hv,ht,hu⟩:=za hc<|hf hl;have hk:=Xm hr h3 h4 h5 hq (us:=ags.toList.map (ev env)++cvs) (by simp at hd⊢;lia);rw[h2]at hk;refine⟨_,_,_,_,wO P s.dom z<|ags.toList.map (ev env)++cvs,[],XG (aas:=ags.toList) (h2▸hr.1) hv hk rfl<|fun S w h=>h,trivial,hz vs env S w (ha hl) cvs ht hu,fun us w' hm hn=> ?_⟩;unfold AK;rw[Uc h5,bf];exact QA hn<|by simpa using hm
  ·split at h
   ·next _ _ _ b x y z hb hD=>
    obtain rfl:ags= #[x,y,z]:=by cases ags;simp_all
    obtain⟨hw,h⟩:=zw h
    cases f with
    |func f1=>
     simp only[yx,O6,Dv.fn.injEq]at hc;obtain⟨rfl,_⟩:=hc;obtain⟨fn,e1,e2,e3,e4,e5,e6⟩:=hX _ _ hb;unfold NQ at h;split at h
     ·next x' y' z' hx hy hz=>
      cases b
      ·obtain⟨hg,p,q,hp,hq,h⟩:=Lv h;refine⟨_,h,zf fun env w S vs hl=> ?_⟩;have hi:=yM hx (ha hl x<|by simp);have hj:=yM hy (ha hl y<|by simp);have ho:=yM hz (ha hl z<|by simp);refine⟨_,NI (Ct e1 e2 e3 e4 (e6 rfl) hi.1 hj.1 ho.1 hg) hp hq w,fun e he=> ?_⟩;rcases OY.1 he with rfl|he
       ·exact⟨_,_,rfl,rfl,wh<|jy hp⟩
       ·obtain rfl:=OZ.1 he;exact⟨_,_,rfl,rfl,wh<|Cd hi.2 hj.2 hg hq⟩
      ·obtain⟨hg,p,q,hp,hq,h⟩:=HV h;refine⟨_,h,zf fun env w S vs hl=> ?_⟩;have hi:=yM hx (ha hl x<|by simp);have hj:=yM hy (ha hl y<|by simp);have ho:=yM hz (ha hl z<|by simp);refine⟨_,NI (BL e1 e2 e3 e4 (e5 rfl) hi.1 hj.1 ho.1 hg) hp hq w,fun e he=> ?_⟩;rcases OY.1 he with rfl|he
       ·exact⟨_,_,rfl,rfl,wh<|jy hp⟩
       ·obtain rfl:=OZ.1 he;exact⟨_,_,rfl,rfl,wh<|Cu hi.2 hj.2 hg hq⟩
     ·cases h
    |_=>simp[Iq]at hw
   ·cases h
 ·next dom cod g' hc=>
  obtain⟨z,h,hd,hz⟩:=VE h;obtain⟨q,hq,h⟩:=ZP h;refine⟨_,h,wG fun env w S vs hM hl=> ?_⟩;obtain⟨fid,Zt,FG,hv,⟨hb,hA⟩,hB⟩:=za hc<|hf hl;have hk:=hA z q hq (ags.toList.map<|ev env) (by simpa using hd);exact⟨_,_,_,_,Ai dom z (ags.toList.map<|ev env)++FG,[],XG (aas:=ags.toList) hb hv hk rfl<|fun S w h=>h,trivial,ze.append (hz P vs env S w<|ha hl) hB,fun us w' hm hn=>QA hn hm⟩
 ·cases h
theorem Lz{fs:Array Field}{v:Value}(hu:P.underlying t=some (.struct fs))(hv:ev env x=v)(w:World):(execOp (ev env) ⟨d,.makeInterface t x,ty,pos,aft,g⟩).run P w=.ok (.value (.iface t v)) w:=by
 simp[execOp,Instr.makeInterface,run_underlying hu,hv]
theorem HS(hT:ya P cf.tt){k:List (Nat×Dv)->Option R}(h:EJ cf cx σ t x k=some r):∃l,k l=some r/\ES P ⟨d,.makeInterface t x,ty,pos,aft,g⟩ cx σ F l:=by
 unfold EJ at h;split at h
 ·next B s y ht hx=>
  obtain⟨ha,h⟩:=zx h;subst ha;refine⟨_,h,zf fun env w S vs hl=> ?_⟩;obtain⟨cs,hv,hp⟩:=za hx (zO hl<|by simp[O7]);obtain⟨_,_,⟨fs,hb,_⟩,_⟩:=(hT _ _ ht).2.2.2;obtain rfl:cs=[.int .i64 y]:=hp.1;exact⟨_,Lz hb hv w,zd<|by exact rfl⟩
 ·cases h
theorem Ew(hT:ya P cf.tt)(hL:vd P cf.tt)(hC:∀s∈cf.cs,zQ P s)(hX:X0 P cf.ex){op:Op}{k:List (Nat×Dv)->Option R}(h:Fz cf cx σ op k=some r):∃l,k l=some r/\ES P ⟨d,op,ty,pos,aft,g⟩ cx σ F l:=by
 unfold Fz at h;split at h
 ·exact oZ (.inl rfl) h
 ·exact oZ (.inr rfl) h
 ·exact Ir h
 ·exact Fa h
 ·exact IU h
 ·exact Ia h
 ·next bo t x y yt=>
  cases hi:Cm y<;>rw[hi]at h
  ·cases hn:BB (yx cx σ y)<;>rw[hn]at h
   ·exact N9 h<|B6 hT
   ·obtain⟨hp,h⟩:=zw h;exact NA hT hp hn h
  ·obtain⟨hp,h⟩:=zw h;exact Ns hT hp hi h
 ·exact Ih h
 ·exact LV hT h
 ·exact EY hT h
 ·exact B5 hT hL h
 ·exact AE hT h
 ·exact rj hT h
 ·exact CR hT hL h
 ·exact Hx hT h
 ·exact IY h
 ·exact BQ hT h
 ·exact HS hT h
 ·exact Im hT hL h
 ·exact Ik h
 ·exact Hr hT h
 ·exact Il (b:=true) h
 ·exact Il (b:=false) h
 ·exact Ej hC hX h
 ·cases h
end
end
end Go.Proofs.YtbaoeefdjpaomaaGreatDoor
