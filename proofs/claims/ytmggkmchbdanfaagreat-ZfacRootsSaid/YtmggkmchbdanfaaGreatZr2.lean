/- What a proof needs: rules of walking, mirrors of functions and their plain laws. No condition. -/
import Derived.Test.YtmggkmchbdanfaaGreatZr1
import Derived.WideKeyArgs
import Derived.Laws.IdiomStrings
set_option linter.unusedVariables false
set_option linter.unusedSimpArgs false
namespace Go.Proofs.YtmggkmchbdanfaaGreat
open Bool renaming and_eq_true->xao,false_eq_true->xak
open Call renaming operands->xek
open DataW renaming TrodAll->xeH
open Extern renaming find->xeV,findNext->xey
open Extern.MathBitsCarry renaming m64->xaY,pair->xbU,three->xbQ
open Instr renaming slice->xfL,sliceAt->xcX,sliceBound->xeo,sliceBounds->xdX
open Int renaming eq_ofNat_of_zero_le->xaA,fdiv->xfT,natCast_nonneg->xde,tdiv->xdd,tmod->xcc,toNat_natCast->xaK,toNat_of_nonneg->xcZ
open IntKind renaming bits->xew,i64->xcY,signed->xdS,u8->xfW,wrap->xfS
open List renaming all_eq_true->xaR,append_nil->xbR,drop->xdA,ext_getElem?->xcy,getD->xeq,getD_eq_getElem?_getD->H1,getElem?_append_left->xbq,getElem?_append_right->xcn,getElem?_eq_getElem->xaa,getElem?_eq_some_iff->xat,getElem?_map->xaT,getElem?_range->xby,getElem?_set->xeb,getElem_map->xfF,getElem_mem->xbn,length->xaI,length_append->xax,length_cons->xaq,length_drop->xbO,length_eq_zero_iff->xbF,length_map->xaP,length_replicate->xaZ,length_set->xcK,length_take->xav,map_congr_left->xci,map_cons->xbX,map_map->xcT,map_nil->xex,map_toArray->xdI,mem_append->Nm,mem_cons->xac,mem_cons_of_mem->UV,mem_cons_self->FS,mem_filter->xcj,mem_filterMap->xff,mem_map->xal,mem_of_getElem?->xbx,mem_or_eq_of_mem_set->xeN,mem_singleton->xai,nil_append->xbA,not_mem_nil->IR,range->xbc,range'->xfp,replicate->xaf,set->xfX,set_getElem_self->xfx,take->xdt,take_append_drop->xbN,take_of_length_le->xaQ
open List.cons renaming injEq->xez
open Nat renaming add_assoc->xcR,add_mul->xaV,beq->xap,ble->xfU,blt->xdc,eq_of_beq_eq_true->xcL,eq_zero_or_pos->xcu,le_mul_of_pos_right->xcb,le_of_ble_eq_true->xbM,le_of_lt->xcS,le_refl->xab,le_succ->xcd,le_trans->xam,lt_of_le_of_lt->xba,lt_of_lt_of_le->xan,lt_or_ge->xce,lt_succ_of_lt->xfq,lt_succ_self->xbY,mod_lt->xbi,not_lt_zero->xbp,one_mul->xcm,zero_add->xaN,zero_le->xah,zero_mul->xcv
open Op renaming operands->xaM
open Oper renaming looksAt->xbC
open Option.some renaming inj->xdv,injEq->xaz
open Prod.mk renaming injEq->xcH
open Result renaming andThen_ok->xad
open Sem renaming run_bind->xas,run_pure->xaG
open Sum renaming elim->xfw
open UInt8 renaming ofNat->xeW,toNat->xfo
open Value renaming okWide->xef
open _root_.Array renaming getElem?_eq_getElem->xcz,getElem?_eq_some_iff->xbj
section
structure VB where
 f:FuncId
 dom:List AM
 cod:List RM
 M:aa dom->Option (dm cod)
 bk:Nat
structure th where
 f:FuncId
 t:Ty
 E:TypeId
 E1:TypeId
 M:List (List t.D)->List Nat->Nat->Int->Int->Nat->Nat->Option (List<|List t.D)
structure Fx where
 f:FuncId
 dom:List Ty
 g:FuncId
 mc:dn dom->List PD
structure Aq where
 f:FuncId
 dom:List AM
 t:Ty
 E:TypeId
 M:aa dom->{X Y:Type}->(List t.D->X->Option (List t.D×(X⊕Y)))->X->Option (X⊕Y)
structure Cf where
 tt:List (Nat×TI)
 cs:List VB
 an:An
 fu:Nat
 ex:List (Nat×Bool)
 ms:List th:=[]
 cl:List Fx:=[]
 is:List Aq:=[]
def zcw:List th->FuncId->Option th
 |[],_=>none
 |s::r,f=>bif xap s.f f then some s else zcw r f
def zbC:List Fx->FuncId->Option Fx
 |[],_=>none
 |s::r,f=>bif xap s.f f then some s else zbC r f
def zdS:List Aq->FuncId->Option Aq
 |[],_=>none
 |s::r,f=>bif xap s.f f then some s else zdS r f
abbrev kF{R:Type}(b:Bool)(x:Option R):Option R:=match b with
 |true=>x
 |false=>none
abbrev Na{R:Type}(b:Bool)(x y:Option R):Option R:=match b with
 |true=>x
 |false=>y
def o9:List AM->Bool
 |[]=>true
 |.own _ _::_=>false
 |_::r=>o9 r
def BH:List VB->FuncId->Option VB
 |[],_=>none
 |s::r,f=>bif xap s.f f && (o9 s.dom && xap s.bk 0)then some s else BH r f
section
variable{R:Type}(cf:Cf)(cx:Sg)
def zdv:Dv->Option PD
 |.d t x=>some ⟨t,x⟩
 |.kb b=>some ⟨.b,b⟩
 |_=>none
def AH(v:Option Dv)(t:Ty)(k:t.D->Option R):Option R:=match v with
 |some .nil=>(match t,k with
  |.l s,k=>k ([]:List s.D)
  |_,_=>none)
 |some v=>(match zdv v with
  |some p=>Ty.cast p.t t p.x k
  |none=>none)
 |none=>none
def arI(bo:BinOp)(a c:Int)(k:Dv->Option R):Option R:=match bo with
 |.add=>ze (a+c) fun x=>k (.d .i x)
 |.sub=>ze (a-c) fun x=>k (.d .i x)
 |.mul=>ze (a*c) fun x=>k (.d .i x)
 |.quo=>ck (c≠0)<|ze (xdd a c) fun x=>k (.d .i x)
 |.rem=>ck (c≠0)<|nm (xcc a c) fun x=>k (.d .i x)
 |.and=>nm (eH a c) fun x=>k (.d .i x)
 |.or=>nm (orI a c) fun x=>k (.d .i x)
 |.shr=>ck (0<=c)<|nm (xfT a<|2^(min c.toNat 64)) fun x=>k (.d .i x)
 |.shl=>ck (0<=c)<|ze (a*2^(min c.toNat 64)) fun x=>k (.d .i x)
 |.lss=>if a<c then k (.kb true)else k (.kb false)
 |.leq=>if a<=c then k (.kb true)else k (.kb false)
 |.gtr=>if c<a then k (.kb true)else k (.kb false)
 |.geq=>if c<=a then k (.kb true)else k (.kb false)
 |.eql=>if a=c then k (.kb true)else k (.kb false)
 |.neq=>if a=c then k (.kb false)else k (.kb true)
 |_=>none
def arU(bo:BinOp)(a c:Nat)(k:Dv->Option R):Option R:=match bo with
 |.add=>nm ((a+c)%18446744073709551616) fun x=>k (.d .u x)
 |.sub=>nm ((a+18446744073709551616-c)%18446744073709551616) fun x=>k (.d .u x)
 |.mul=>nm ((a*c)%18446744073709551616) fun x=>k (.d .u x)
 |.quo=>ck (c≠0)<|nm (a/c) fun x=>k (.d .u x)
 |.rem=>ck (c≠0)<|nm (a%c) fun x=>k (.d .u x)
 |.and=>nm (a &&& c) fun x=>k (.d .u x)
 |.or=>nm (a|||c) fun x=>k (.d .u x)
 |.lss=>if(a:Int)<(c:Int)then k (.kb true)else k (.kb false)
 |.leq=>if(a:Int)<=(c:Int)then k (.kb true)else k (.kb false)
 |.gtr=>if(c:Int)<(a:Int)then k (.kb true)else k (.kb false)
 |.geq=>if(c:Int)<=(a:Int)then k (.kb true)else k (.kb false)
 |.eql=>if(a:Int)=(c:Int)then k (.kb true)else k (.kb false)
 |.neq=>if(a:Int)=(c:Int)then k (.kb false)else k (.kb true)
 |_=>none
def arC(bo:BinOp)(a c:Nat)(k:Dv->Option R):Option R:=match bo with
 |.add=>nm ((a+c)%256) fun x=>k (.d .ch x)
 |.sub=>nm ((a+256-c)%256) fun x=>k (.d .ch x)
 |.lss=>if(a:Int)<(c:Int)then k (.kb true)else k (.kb false)
 |.leq=>if(a:Int)<=(c:Int)then k (.kb true)else k (.kb false)
 |.gtr=>if(c:Int)<(a:Int)then k (.kb true)else k (.kb false)
 |.geq=>if(c:Int)<=(a:Int)then k (.kb true)else k (.kb false)
 |.eql=>if(a:Int)=(c:Int)then k (.kb true)else k (.kb false)
 |.neq=>if(a:Int)=(c:Int)then k (.kb false)else k (.kb true)
 |_=>none
def eqT(bo:BinOp)(a c:List Nat)(k:Dv->Option R):Option R:=match bo with
 |.add=>ck (a.length+c.length<=9223372036854775807)<|nm (a++c) fun x=>k (.d .tx x)
 |.eql=>if a=c then k (.kb true)else k (.kb false)
 |.neq=>if a=c then k (.kb false)else k (.kb true)
 |_=>none
def shU(bo:BinOp)(a:Nat)(c:Int)(k:Dv->Option R):Option R:=match bo with
 |.shr=>ck (0<=c)<|nm (a/2^(min c.toNat 64)) fun x=>k (.d .u x)
 |.shl=>ck (0<=c)<|nm (a*2^(min c.toNat 64)%18446744073709551616) fun x=>k (.d .u x)
 |_=>none
def Sk(bo:BinOp)(a c:Nat)(k:Dv->Option R):Option R:=match bo with
 |.shr=>nm (a/2^(min (c:Int).toNat 64)) fun x=>k (.d .u x)
 |.shl=>nm (a*2^(min (c:Int).toNat 64)%18446744073709551616) fun x=>k (.d .u x)
 |_=>none
def shI(bo:BinOp)(a:Int)(c:Nat)(k:Dv->Option R):Option R:=match bo with
 |.shr=>nm (xfT a<|2^(min (c:Int).toNat 64)) fun x=>k (.d .i x)
 |.shl=>ze (a*2^(min (c:Int).toNat 64)) fun x=>k (.d .i x)
 |_=>none
def eqB(bo:BinOp)(a c:Bool)(k:Dv->Option R):Option R:=match bo with
 |.eql=>nm (a==c) fun x=>k (.d .b x)
 |.neq=>nm (!(a==c)) fun x=>k (.d .b x)
 |_=>none
def zhO(tb:Bool)(bo:BinOp)(x y:Option PD)(k:Dv->Option R):Option R:=match x,y with
 |some ⟨.i,a⟩,some ⟨.i,c⟩=>arI bo a c k
 |some ⟨.u,a⟩,some ⟨.u,c⟩=>(match bo with
  |.shr=>Sk .shr a c k
  |.shl=>Sk .shl a c k
  |bo=>arU bo a c k)
 |some ⟨.u,a⟩,some ⟨.i,c⟩=>shU bo a c k
 |some ⟨.i,a⟩,some ⟨.u,c⟩=>shI bo a c k
 |some ⟨.b,a⟩,some ⟨.b,c⟩=>kF tb<|eqB bo a c k
 |some ⟨.ch,a⟩,some ⟨.ch,c⟩=>arC bo a c k
 |some ⟨.tx,a⟩,some ⟨.tx,c⟩=>eqT bo a c k
 |_,_=>none
def chI(a:Nat):Dv:=.d .i (a:Int)
def chU(a:Nat)(k:Dv->Option R):Option R:=nm (a%256) fun x=>k (.d .ch x)
def zjW(kk:TK)(x:Option PD)(k:Dv->Option R):Option R:=match kk,x with
 |.int .i64,some ⟨.i,a⟩=>k (.d .i a)
 |.int .u64,some ⟨.u,a⟩=>k (.d .u a)
 |.int .u64,some ⟨.i,a⟩=>nm (gI a) fun x=>k (.d .u x)
 |.int .i64,some ⟨.u,a⟩=>nm (Ru a) fun x=>k (.d .i x)
 |.int .i64,some ⟨.ch,a⟩=>k<|chI a
 |.int .u64,some ⟨.ch,a⟩=>k (.d .u a)
 |.int .u8,some ⟨.ch,a⟩=>k (.d .ch a)
 |.int .u8,some ⟨.u,a⟩=>chU a k
 |_,_=>none
def pd(σ:Sg)(x:Operand):Option PD:=match xX cx σ x with
 |some v=>zdv v
 |none=>none
def Ye(t:TypeId):Option TI:=J3 cf.tt t
def isB(t:TypeId):Bool:=match Ye cf t with
 |some ⟨_,.bool,_⟩=>true
 |_=>false
def ifB(x:Bool)(a c:Option R):Option R:=if x=true then a else c
def eqI(x y:Int):Bool:=decide<|x=y
def eqU(x y:Nat):Bool:=decide<|x=y
def ngI(a:Int)(k:Dv->Option R):Option R:=ze (0-a) fun x=>k (.d .i x)
def ngU(a:Nat)(k:Dv->Option R):Option R:=nm ((18446744073709551616-a)%18446744073709551616) fun x=>k (.d .u x)
def ziL{α:Type}(xs ys:List α)(B:Nat)(k:List α->Option R):Option R:=ck ((xs.length+ys.length)*B<=140737488355328)<|nm (xs++ys) k
def zlp{α:Type}(xs:List α)(n:Nat)(z:α)(B:Nat)(k:List α->Option R):Option R:=ck ((xs.length+n)*B<=140737488355328)<|nm (xs++xaf n z) k
def ixU(j:Nat)(n:Nat)(k:Nat->Option R):Option R:=zG (j:Int) n k
def OO:Operand->Operand->Bool
 |.tmp s,.tmp t=>xap s t
 |.const (.int .i64 x),.const (.int .i64 y)=>eqI x y
 |_,_=>false
def exU(b:Bool)(x y z:Nat)(k:List (Nat×Dv)->Option R):Option R:=
 ck (z<=1)<|Na b (nm ((x+y+z)%18446744073709551616) fun p=>nm ((x+y+z)/18446744073709551616) fun q=>k [(1,.d .u p),(2,.d .u q)])
  (nm ((x+18446744073709551616-y-z)%18446744073709551616) fun p=>nm (if x<y+z then(1:Nat)else 0) fun q=>k [(1,.d .u p),(2,.d .u q)])
def exD(b:Bool)(x y z:Option PD)(k:List (Nat×Dv)->Option R):Option R:=match x,y,z with
 |some ⟨.u,x⟩,some ⟨.u,y⟩,some ⟨.u,z⟩=>exU b x y z k
 |_,_,_=>none
def x8(σ:Sg):(ts:List Ty)->List (Nat×Operand)->Nat->(dn ts->Option R)->Option R
 |[],[],_,k=>k ()
 |t::ts,(i,x)::r,j,k=>kF (xap i j)<|AH (xX cx σ x) t fun y=>x8 σ ts r (j+1) fun ys=>k (y,ys)
 |_,_,_,_=>none
def Su:(k:Nat)->Ty->List Ty
 |0,_=>[]
 |1,t=>[t]
 |k+2,.p s t=>s::Su (k+1) t
 |_,_=>[]
def K7:(k:Nat)->(t:Ty)->dn (Su k t)->Option t.D
 |0,_,_=>none
 |1,t,x=>some x.1
 |k+2,.p s t,x=>match K7 (k+1) t x.2 with
  |some y=>some (x.1,y)
  |none=>none
 |_+2,.i,_=>none
 |_+2,.u,_=>none
 |_+2,.b,_=>none
 |_+2,.l _,_=>none
 |_+2,.a _ _,_=>none
 |_+2,.ch,_=>none
 |_+2,.tx,_=>none
def AA:Nat->Ty->List Ty
 |0,_=>[]
 |n+1,t=>t::AA n t
def fS:(n:Nat)->(t:Ty)->dn (AA n t)->List t.D
 |0,_,_=>[]
 |n+1,t,x=>x.1::fS n t x.2
def Jh(σ:Sg):List Operand->Option (List PD)
 |[]=>some []
 |x::r=>match xX cx σ x,Jh σ r with
  |some (.q t y),some l=>some (⟨t,y⟩::l)
  |_,_=>none
def Kf:(full:List AM)->List PD->Option (aa full)
 |[],[]=>some ()
 |.q t::r,c::cs=>Ty.cast c.t t c.x fun y=>match Kf r cs with
  |some z=>some (y,z)
  |none=>none
 |_,_=>none
def CX:(full:List AM)->(dom:List Ty)->dn dom->List PD->Option (aa full)
 |full,[],_,cs=>Kf full cs
 |.d t::r,s::dom,x,cs=>Ty.cast s t x.1 fun y=>match CX r dom x.2 cs with
  |some z=>some (y,z)
  |none=>none
 |_,_::_,_,_=>none
def Du:(s t:List Ty)->Option (PLift<|s=t)
 |[],[]=>some ⟨rfl⟩
 |s::ss,t::ts=>match Ty.same s t,Du ss ts with
  |some ⟨h⟩,some ⟨h'⟩=>some ⟨h▸h'▸rfl⟩
  |_,_=>none
 |_,_=>none
theorem RM.D_ty:∀r:RM,r.D=r.ty.D
 |.d _=>rfl
 |.own _ _=>rfl
theorem Yz:∀rs:List RM,dm rs=CA (rs.map RM.ty)
 |[]=>rfl
 |[m]=>RM.D_ty m
 |m::n::r=>by show(m.D×dm (n::r))=(m.ty.D×CA ((n::r).map RM.ty));rw[RM.D_ty m,Yz (n::r)]
def asF(σ:Sg)(v:Option Dv)(dom cod:List Ty)(k:(dn dom->Option (CA cod))->Option R):Option R:=match v with
 |some (.fn f c)=>(match BH cf.cs f with
  |some s=>(match Du (s.cod.map RM.ty) cod with
   |some ⟨h⟩=>k fun x=>match CX s.dom dom x c with
    |some y=>((Yz s.cod).trans<|congrArg CA h)▸s.M y
    |none=>none
   |none=>none)
  |none=>none)
 |some (.fp d c g)=>(match Du d dom,Du c cod with
  |some ⟨h⟩,some ⟨h'⟩=>k<|h▸h'▸g
  |_,_=>none)
 |_=>none
def X5(σ:Sg):(dom:List AM)->List Operand->List PD->(aa dom->Option R)->Option R
 |[],[],[],k=>k ()
 |.q t::r,[],c::cs,k=>Ty.cast c.t t c.x fun y=>X5 σ r [] cs fun z=>k (y,z)
 |.d t::r,x::xs,cs,k=>AH (xX cx σ x) t fun y=>X5 σ r xs cs fun z=>k (y,z)
 |.q t::r,x::xs,cs,k=>(match xX cx σ x with
  |some (.q s y)=>Ty.cast s t y fun y=>X5 σ r xs cs fun z=>k (y,z)
  |_=>none)
 |.fn dom cod::r,x::xs,cs,k=>asF cf σ (xX cx σ x) dom cod fun g=>X5 σ r xs cs fun z=>k (g,z)
 |_,_,_,_=>none
def Re:(rs:List RM)->dm rs->Nat->List (Nat×Dv)
 |[],_,_=>[]
 |[.d t],x,i=>[(i,.d t x)]
 |[.own t _],x,i=>[(i,.d (.l t) x)]
 |.d t::r::rs,x,i=>(i,.d t x.1)::Re (r::rs) x.2 (i+1)
 |.own t _::r::rs,x,i=>(i,.d (.l t) x.1)::Re (r::rs) x.2 (i+1)
def Ju:List RM->Bool
 |[_]=>true
 |_=>false
def ze6(rs:List RM)(x:dm rs):List (Nat×Dv):=Re rs x<|bif Ju rs then 0 else 1
def rm(σ:Sg):(dom:List Ty)->List Operand->(dn dom->Option R)->Option R
 |[],[],k=>k ()
 |t::r,x::xs,k=>AH (xX cx σ x) t fun y=>rm σ r xs fun z=>k (y,z)
 |_,_,_=>none
def zbc:(cod:List Ty)->CA cod->Nat->List (Nat×Dv)
 |[],_,_=>[]
 |[t],x,i=>[(i,.d t x)]
 |t::s::r,x,i=>(i,.d t x.1)::zbc (s::r) x.2 (i+1)
def zeC:List Ty->Bool
 |[_]=>true
 |_=>false
def zfC(σ:Sg)(v:Option Dv)(k:PD->Option R):Option R:=match v with
 |some (.q t x)=>k ⟨t,x⟩
 |some (.vs o _)=>(match Jd cx σ o with
  |some (.var t _ z)=>k ⟨t,z⟩
  |_=>none)
 |some (.vp o t f)=>(match Jd cx σ o with
  |some (.var t' _ z)=>Ty.cast t' t z fun z=>k ⟨f.f,f.get z⟩
  |_=>none)
 |some (.ep o t j f)=>(match Jd cx σ o with
  |some (.own t' _ xs)=>Ty.cast (.l t') (.l t) xs fun xs=>nm (f.get<|xeq xs j t.z) fun y=>k ⟨f.f,y⟩
  |_=>none)
 |_=>none
def Rz(σ:Sg)(x:Operand)(n:Nat)(k:Nat->Option R):Option R:=match pd cx σ x with
 |some ⟨.i,j⟩=>zG j n k
 |some ⟨.u,j⟩=>ixU j n k
 |_=>none
def HY(σ:Sg)(x:Option Operand)(k:Option Nat->Option R):Option R:=match x with
 |none=>k none
 |some x=>match pd cx σ x with
  |some ⟨.i,j⟩=>jM j fun j=>k<|some j
  |_=>none
def zhK{α:Type}(xs:List α)(lo hi:Option Nat)(k:List α->Option R):Option R:=match lo,hi with
 |none,some h=>ck (h<=xs.length)<|nm (xs.take h) k
 |some l,none=>ck (l<=xs.length)<|nm (xs.drop l) k
 |some l,some h=>ck (l<=h/\h<=xs.length)<|nm ((xs.drop l).take<|h-l) k
 |none,none=>k xs
def zfu(m:Nat)(lo hi:Option Nat)(k:Nat->Nat->Option R):Option R:=match lo,hi with
 |none,some h=>ck (h<=m)<|k 0 h
 |some l,none=>ck (l<=m)<|k l (m-l)
 |some l,some h=>ck (l<=h/\h<=m)<|k l (h-l)
 |none,none=>k 0 m
def zfi(σ:Sg)(t:Nat):Nat->Nat->List (Nat×Dv)
 |0,_=>[]
 |f+1,i=>match get cx σ t i with
  |some d=>(i,d)::zfi σ t f (i+1)
  |none=>[]
def zj4(σ:Sg)(x:Operand)(k:List (Nat×Dv)->Option R):Option R:=match x with
 |.tmp t=>(match zfi cx σ t 12 1 with
  |[]=>none
  |l=>k l)
 |_=>none
def O9(σ:Sg)(x:Operand)(k:List (Nat×Dv)->Option R):Option R:=match xX cx σ x with
 |some v=>k [(0,v)]
 |none=>zj4 cx σ x k
def zhE(σ:Sg)(x:Operand)(i:Nat)(k:List (Nat×Dv)->Option R):Option R:=match x with
 |.tmp t=>(match get cx σ t (i+1)with
  |some v=>k [(0,v)]
  |none=>none)
 |_=>none
def zfx(σ:Sg)(x:Operand)(k:List (Nat×Dv)->Option R):Option R:=match xX cx σ x with
 |some v=>k [(0,v)]
 |none=>none
def SG(σ:Sg)(c x y:Operand)(k:List (Nat×Dv)->Option R):Option R:=match xX cx σ c with
 |some (.kb true)=>zfx cx σ x k
 |some (.kb false)=>zfx cx σ y k
 |_=>none
def zkV(b:Bool):Dv:=.d .b<|not b
def zhr(σ:Sg)(x:Operand)(k:List (Nat×Dv)->Option R):Option R:=match xX cx σ x with
 |some (.kb b)=>k [(0,.kb !b)]
 |some (.d .b b)=>k [(0,zkV b)]
 |_=>none
def zgZ(σ:Sg)(x:Operand)(k:List (Nat×Dv)->Option R):Option R:=match pd cx σ x with
 |some ⟨.i,a⟩=>ngI a fun v=>k [(0,v)]
 |some ⟨.u,a⟩=>ngU a fun v=>k [(0,v)]
 |_=>none
def txD(xs:List Nat):Dv:=.d .tx xs
def zhA(σ:Sg)(s t:TypeId)(x:Operand)(k:List (Nat×Dv)->Option R):Option R:=match Ye cf s,Ye cf t with
 |some ⟨_,.int _,_⟩,some ti=>zjW ti.k (pd cx σ x) fun v=>k [(0,v)]
 |some ⟨.l .ch,.sl E,_⟩,some ⟨_,.str,_⟩=>(match Ye cf E with
  |some ⟨_,.int .u8,_⟩=>AH (xX cx σ x) (.l .ch) fun xs=>k [(0,txD xs)]
  |_=>none)
 |_,_=>none
def elA(E:TypeId)(e:Ty):Bool:=match Ye cf E with
 |some ti=>(Ty.same ti.ty e).isSome
 |none=>false
def zjh(n:Nat)(e:Ty)(j:Nat):Fl (Ty.a n e).D:=⟨j*e.n,e,fun z=>xeq z j e.z,fun y z=>xfX z j y⟩
def Nw(σ:Sg)(t:TypeId)(x i:Operand)(k:List (Nat×Dv)->Option R):Option R:=match Ye cf t,xX cx σ x with
 |some ⟨.l e,.sl _,_⟩,some (.d (.l s) xs)=>Ty.cast (.l s) (.l e) xs fun xs=>Rz cx σ i (xaI xs) fun j=>nm (xeq xs j e.z) fun y=>k [(0,.q e y)]
 |some ⟨.l e,.sl _,_⟩,some (.ow o)=>(match Jd cx σ o with
  |some (.own s _ xs)=>Ty.cast (.l s) (.l e) xs fun xs=>Rz cx σ i (xaI xs) fun j=>k [(0,.ep o e j<|Fl.self e)]
  |_=>none)
 |some ⟨_,.ar n' E,_⟩,some (.q (.a n e) x)=>kF (xap n' n && elA cf E e)<|Rz cx σ i n fun j=>nm (xeq x j e.z) fun y=>k [(0,.q e y)]
 |some ⟨_,.ar n' E,_⟩,some (.vs o (.a n e))=>kF (xap n' n && elA cf E e)<|Rz cx σ i n fun j=>k [(0,.vp o (.a n e)<|zjh n e j)]
 |_,_=>none
def Mq(σ:Sg)(t:TypeId)(x:Operand)(i:Nat)(k:List (Nat×Dv)->Option R):Option R:=match Ye cf t,xX cx σ x with
 |some ⟨e,.st n,_⟩,some (.q s y)=>Ty.cast s e y fun y=>(match Q6 n e i with
  |some f=>k [(0,.q f.f<|f.get y)]
  |none=>none)
 |some ⟨e,.st n,_⟩,some (.vs o s)=>(match Ty.same s e,Q6 n s i with
  |some _,some f=>k [(0,.vp o s f)]
  |_,_=>none)
 |some ⟨e,.st n,_⟩,some (.vp o s g)=>(match Ty.same g.f e,Q6 n g.f i with
  |some _,some f=>k [(0,.vp o s<|g.comp f)]
  |_,_=>none)
 |some ⟨e,.st n,_⟩,some (.ep o s j g)=>(match Ty.same g.f e,Q6 n g.f i with
  |some _,some f=>k [(0,.ep o s j<|g.comp f)]
  |_,_=>none)
 |_,_=>none
def Dj(σ:Sg)(t:TypeId)(x:Operand)(i:Nat)(k:List (Nat×Dv)->Option R):Option R:=match Ye cf t,xX cx σ x with
 |some ⟨e,.st n,_⟩,some (.d s y)=>Ty.cast s e y fun y=>(match Q6 n e i with
  |some f=>k [(0,.d f.f<|f.get y)]
  |none=>none)
 |_,_=>none
def S6(σ:Sg)(t:TypeId)(x:Operand)(k:List (Nat×Dv)->Option R):Option R:=match Ye cf t with
 |some ti=>zfC cx σ (xX cx σ x) fun p=>Ty.cast p.t ti.ty p.x fun y=>k [(0,.d ti.ty y)]
 |none=>none
def Ma(σ:Sg)(t:TypeId)(x:Operand)(lo hi:Option Operand)(k:List (Nat×Dv)->Option R):Option R:=match Ye cf t,xX cx σ x with
 |some ⟨.l e,.sl _,_⟩,some (.d (.l s) xs)=>Ty.cast (.l s) (.l e) xs fun xs=>HY cx σ lo fun lo=>HY cx σ hi fun hi=>zhK (α:=e.D) xs lo hi fun ys=>k [(0,.d (.l e) ys)]
 |some ⟨.l e,.sl _,_⟩,some (.ow o)=>(match Jd cx σ o with
  |some (.own s _ xs)=>Ty.cast (.l s) (.l e) xs fun xs=>HY cx σ lo fun lo=>HY cx σ hi fun hi=>zfu (xaI xs) lo hi fun l n=>k [(0,.sv o e l n)]
  |_=>none)
 |some ⟨_,.str,_⟩,some (.d .tx xs)=>HY cx σ lo fun lo=>HY cx σ hi fun hi=>zhK (α:=Nat) xs lo hi fun ys=>k [(0,.d .tx ys)]
 |_,_=>none
def zgy(σ:Sg)(t:TypeId)(x i:Operand)(k:List (Nat×Dv)->Option R):Option R:=match Ye cf t,xX cx σ x with
 |some ⟨_,.str,_⟩,some (.d .tx xs)=>Rz cx σ i (xaI (α:=Nat) xs) fun j=>nm (xeq (α:=Nat) xs j 0) fun y=>k [(0,.d .ch y)]
 |_,_=>none
def zic(σ:Sg)(E:TypeId)(x:Operand)(k:List (Nat×Dv)->Option R):Option R:=match Ye cf E with
 |some ti=>AH (xX cx σ x) ti.ty fun y=>k [(0,.q ti.ty y)]
 |none=>none
def Mo(σ:Sg)(t:TypeId)(ps:List (Nat×Operand))(k:List (Nat×Dv)->Option R):Option R:=match Ye cf t with
 |some ⟨ty,.st n,_⟩=>(match ps with
  |[]=>k [(0,.d ty ty.z)]
  |[(i,x)]=>(match Q6 n ty i with
   |some f=>AH (xX cx σ x) f.f fun y=>k [(0,.d ty<|f.set y ty.z)]
   |none=>none)
  |ps=>x8 cx σ (Su n ty) ps 0 fun ys=>match K7 n ty ys with
   |some y=>k [(0,.d ty y)]
   |none=>none)
 |some ⟨.a n e,.ar n' E,_⟩=>kF (xap n' n && elA cf E e)<|x8 cx σ (AA n e) ps 0 fun ys=>k [(0,.d (.a n e)<|fS n e ys)]
 |_=>none
def zgS(σ:Sg)(t:TypeId)(n:Nat)(ps:List (Nat×Operand))(k:List (Nat×Dv)->Option R):Option R:=match Ye cf t with
 |some ⟨.l s,.sl _,_⟩=>kF (xfU (n*s.n) 16777216)<|x8 cx σ (AA n s) ps 0 fun ys=>k [(0,.d (.l s)<|fS n s ys)]
 |_=>none
def zha(σ:Sg)(f:Go.Fn)(first cs:List Operand)(k:List (Nat×Dv)->Option R):Option R:=match f,first,Jh cx σ cs with
 |.func f,[],some l=>k [(0,.fn f l)]
 |_,_,_=>none
def LB(n:Nat):Dv:=.d .i (n:Int)
def zgA(σ:Sg)(x:List Operand)(ts:List TypeId)(k:List (Nat×Dv)->Option R):Option R:=match x,ts with
 |[x],[t]=>(match Ye cf t with
  |some ⟨.l _,.sl _,_⟩=>(match xX cx σ x with
   |some .nil=>k [(0,LB 0)]
   |some (.d (.l _) xs)=>k [(0,LB<|xaI xs)]
   |some (.ow o)=>(match Jd cx σ o with
    |some (.own _ _ xs)=>k [(0,LB<|xaI xs)]
    |_=>none)
   |_=>none)
  |some ⟨_,.str,_⟩=>(match xX cx σ x with
   |some (.d .tx xs)=>k [(0,LB<|xaI (α:=Nat) xs)]
   |_=>none)
  |_=>none)
 |_,_=>none
def zhy(x:Int):Dv:=.d .i x
def mxI(b:Bool)(a c:Int)(k:Int->Option R):Option R:=match b with
 |true=>nm (max a c) k
 |false=>nm (min a c) k
def eMM(b:Bool)(σ:Sg)(x:List Operand)(k:List (Nat×Dv)->Option R):Option R:=match x with
 |[x,y]=>(match pd cx σ x,pd cx σ y with
  |some ⟨.i,a⟩,some ⟨.i,c⟩=>mxI b a c fun z=>k [(0,zhy z)]
  |_,_=>none)
 |_=>none
def zjd:Operand->Bool
 |.func _=>true
 |_=>false
def zc5(σ:Sg)(fo:Operand)(ags:List Operand)(k:List (Nat×Dv)->Option R):Option R:=match xX cx σ fo with
 |some (.fn f cs)=>(match BH cf.cs f with
  |some s=>X5 cf cx σ s.dom ags cs fun y=>bd (s.M y) fun r=>k<|ze6 s.cod r
  |none=>(match J3 cf.ex f,ags,cs with
   |some b,[x,y,z],[]=>kF (zjd fo)<|exD b (pd cx σ x) (pd cx σ y) (pd cx σ z) k
   |_,_,_=>none))
 |some (.fp dom cod g)=>rm cx σ dom ags fun y=>bd (g y) fun r=>k<|zbc cod r<|bif zeC cod then 0 else 1
 |_=>none
def P5:Option Dv->Bool
 |some (.mw _)=>true
 |some (.mv _ _ _)=>true
 |some (.hp _ _)=>true
 |some (.rw _ _)=>true
 |some (.rp _ _ _ _ _)=>true
 |_=>false
def zgx:Option Dv->Bool
 |some (.mv _ _ _)=>true
 |_=>false
def mkF(σ:Sg)(f:Operand):Bool:=match xX cx σ f with
 |some (.fn f _)=>(zbC cf.cl f).isSome
 |_=>false
def zjm(σ:Sg):Op->Bool
 |.load _ x=>P5<|xX cx σ x
 |.indexAddr _ x _=>P5<|xX cx σ x
 |.slice _ x _ _ none=>P5<|xX cx σ x
 |.call ⟨.builtin .len,ags,_⟩=>ags.toList.any fun x=>P5<|xX cx σ x
 |.call ⟨.value f,ags,_⟩=>mkF cf cx σ f||ags.toList.any fun x=>zgx<|xX cx σ x
 |_=>false
def jG{α:Type}(xss:List (List α))(r:Nat):List α:=xss.getD r []
def Sa{α:Type}(xss:List (List α))(ix:List Nat):List (List α):=ix.map<|jG xss
def DP(σ:Sg)(t:TypeId)(x i:Operand)(k:List (Nat×Dv)->Option R):Option R:=match Ye cf t,xX cx σ x with
 |some ⟨.l (.l e),.sl _,_⟩,some (.mw o)=>(match Jd cx σ o with
  |some (.mat s _ _ xss ix)=>Rz cx σ i (xaI ix) fun j=>k [(0,.hp o j)]
  |_=>none)
 |some ⟨.l (.l e),.sl _,_⟩,some (.mv o lo n)=>(match Jd cx σ o with
  |some (.mat s _ _ xss ix)=>Rz cx σ i n fun j=>k [(0,.hp o<|lo+j)]
  |_=>none)
 |some ⟨.l e,.sl _,_⟩,some (.rw o r)=>(match Jd cx σ o with
  |some (.mat s _ _ xss ix)=>Ty.cast (.l (.l s)) (.l (.l e)) xss fun xss=>Rz cx σ i (xaI<|jG (α:=e.D) xss r) fun j=>k [(0,.rp o e r j<|Fl.self e)]
  |_=>none)
 |_,_=>none
def Nj(σ:Sg)(t:TypeId)(x:Operand)(k:List (Nat×Dv)->Option R):Option R:=match Ye cf t,xX cx σ x with
 |some ⟨.l e,.sl _,_⟩,some (.hp o j)=>(match Jd cx σ o with
  |some (.mat s _ _ xss ix)=>nm (xeq ix j 0) fun r=>k [(0,.rw o r)]
  |_=>none)
 |some ti,some (.rp o e r j f)=>(match Jd cx σ o with
  |some (.mat s _ _ xss ix)=>Ty.cast (.l (.l s)) (.l (.l e)) xss fun xss=>nm (f.get<|xeq (jG (α:=e.D) xss r) j e.z) fun y=>Ty.cast f.f ti.ty y fun y=>k [(0,.d ti.ty y)]
  |_=>none)
 |_,_=>none
def Dc(σ:Sg)(t:TypeId)(x:Operand)(lo hi:Option Operand)(k:List (Nat×Dv)->Option R):Option R:=match Ye cf t,xX cx σ x with
 |some ⟨.l (.l e),.sl _,_⟩,some (.mw o)=>(match Jd cx σ o with
  |some (.mat s _ _ xss ix)=>HY cx σ lo fun lo=>HY cx σ hi fun hi=>zfu (xaI ix) lo hi fun l n=>k [(0,.mv o l n)]
  |_=>none)
 |_,_=>none
def zaX(σ:Sg)(x:List Operand)(ts:List TypeId)(k:List (Nat×Dv)->Option R):Option R:=match x,ts with
 |[x],[t]=>(match Ye cf t,xX cx σ x with
  |some ⟨.l _,.sl _,_⟩,some (.mw o)=>(match Jd cx σ o with
   |some (.mat _ _ _ _ ix)=>k [(0,LB<|xaI ix)]
   |_=>none)
  |some ⟨.l _,.sl _,_⟩,some (.mv o _ n)=>(match Jd cx σ o with
   |some (.mat _ _ _ _ _)=>k [(0,LB n)]
   |_=>none)
  |some ⟨.l _,.sl _,_⟩,some (.rw o r)=>(match Jd cx σ o with
   |some (.mat _ _ _ xss _)=>k [(0,LB<|xaI<|jG xss r)]
   |_=>none)
  |_,_=>none)
 |_,_=>none
def X7(σ:Sg):(dom:List AM)->List Operand->List PD->(aa dom->Option R)->Option R
 |[],[],[],k=>k ()
 |.q t::r,[],c::cs,k=>Ty.cast c.t t c.x fun y=>X7 σ r [] cs fun z=>k (y,z)
 |.d t::r,x::xs,cs,k=>(match xX cx σ x with
  |some (.mv o lo n)=>(match Jd cx σ o with
   |some (.mat s _ _ xss ix)=>Ty.cast (.l (.l s)) t (xdt n<|xdA lo<|Sa xss ix) fun y=>X7 σ r xs cs fun z=>k (y,z)
   |_=>none)
  |v=>AH v t fun y=>X7 σ r xs cs fun z=>k (y,z))
 |.fn dom cod::r,x::xs,cs,k=>asF cf σ (xX cx σ x) dom cod fun g=>X7 σ r xs cs fun z=>k (g,z)
 |_,_,_,_=>none
def Gy:List RM->Bool
 |[]=>true
 |.d .i::r=>Gy r
 |.d .b::r=>Gy r
 |.d .u::r=>Gy r
 |_=>false
def LZ(σ:Sg)(fo:Operand)(ags:List Operand)(k:List (Nat×Dv)->Option R):Option R:=match xX cx σ fo with
 |some (.fn f cs)=>(match zbC cf.cl f,cs with
  |some s,[]=>rm cx σ s.dom ags fun ys=>k [(0,.fn s.g<|s.mc ys)]
  |_,cs=>(match BH cf.cs f with
   |some s=>kF (Gy s.cod)<|X7 cf cx σ s.dom ags cs fun y=>bd (s.M y) fun r=>k<|ze6 s.cod r
   |none=>none))
 |_=>none
def eCo(σ:Sg)(op:Op)(k:List (Nat×Dv)->Option R):Option R:=match op with
 |.load t x=>Nj cf cx σ t x k
 |.indexAddr t x i=>DP cf cx σ t x i k
 |.slice t x lo hi none=>Dc cf cx σ t x lo hi k
 |.call ⟨.builtin .len,ags,ts⟩=>zaX cf cx σ ags.toList ts.toList k
 |.call ⟨.value f,ags,_⟩=>LZ cf cx σ f ags.toList k
 |_=>none
def zh3(σ:Sg)(op:Op)(k:List (Nat×Dv)->Option R):Option R:=match op with
 |.move x=>O9 cx σ x k
 |.assign x=>O9 cx σ x k
 |.extract x i=>zhE cx σ x i k
 |.pick c x y=>SG cx σ c x y k
 |.unOp .not _ x=>zhr cx σ x k
 |.unOp .neg _ x=>zgZ cx σ x k
 |.binOp bo t x y _=>zhO (isB cf t) bo (pd cx σ x) (pd cx σ y) fun v=>k [(0,v)]
 |.convert s t x=>zhA cf cx σ s t x k
 |.load t x=>S6 cf cx σ t x k
 |.indexAddr t x i=>Nw cf cx σ t x i k
 |.fieldAddr t x i=>Mq cf cx σ t x i k
 |.field t x i=>Dj cf cx σ t x i k
 |.slice t x lo hi none=>Ma cf cx σ t x lo hi k
 |.index t x i=>zgy cf cx σ t x i k
 |.box E x=>zic cf cx σ E x k
 |.build t ps=>Mo cf cx σ t ps.toList k
 |.buildSlice t n ps=>zgS cf cx σ t n ps.toList k
 |.makeFunc f first cs=>zha cx σ f first.toList cs.toList k
 |.call ⟨.builtin .len,ags,ts⟩=>zgA cf cx σ ags.toList ts.toList k
 |.call ⟨.builtin .max,ags,_⟩=>eMM cx true σ ags.toList k
 |.call ⟨.builtin .min,ags,_⟩=>eMM cx false σ ags.toList k
 |.call ⟨.value f,ags,_⟩=>zc5 cf cx σ f ags.toList k
 |_=>none
def eOp(σ:Sg)(op:Op)(k:List (Nat×Dv)->Option R):Option R:=Na (zjm cf cx σ op) (eCo cf cx σ op k)<|zh3 cf cx σ op k
def wj:Dv->Option Nat
 |.ow o=>some o
 |.vs o _=>some o
 |.ep o _ _ _=>some o
 |.sv o _ _ _=>some o
 |.vp o _ _=>some o
 |.mw o=>some o
 |.mv o _ _=>some o
 |.hp o _=>some o
 |.rw o _=>some o
 |.rp o _ _ _ _=>some o
 |.yd o=>some o
 |_=>none
def okL(n:Nat)(l:List (Nat×Dv)):Bool:=l.all fun e=>match wj e.2 with
 |some o=>xdc o n
 |none=>true
def rF(o:Nat)(x:Od)(v:Dv):Dv:=match v,x with
 |.ow o',.own s _ xs=>bif xap o' o then .d (.l s) xs else v
 |.vs o' _,.var s _ z=>bif xap o' o then .q s z else v
 |.mw o',.mat s _ _ xss ix=>bif xap o' o then .d (.l (.l s)) (Sa xss ix)else v
 |_,_=>v
def C5(o:Nat)(x:Od):List (Nat×Nat×Dv)->List (Nat×Nat×Dv)
 |[]=>[]
 |(t,i,v)::r=>(t,i,rF o x v)::C5 o x r
def H6(σ:Sg)(o:Nat):Sg:=match xO σ.ob o with
 |some x=>⟨σ.nx,C5 o x σ.rg,yD σ.ob o⟩
 |none=>σ
def frz(σ:Sg)(x:Operand):Sg:=match xX cx σ x with
 |some (.ow o)=>H6 σ o
 |some (.vs o _)=>H6 σ o
 |some (.mw o)=>H6 σ o
 |_=>σ
def ze2(σ:Sg):List Operand->Sg
 |[]=>σ
 |x::r=>ze2 (frz cx σ x) r
def zbO(σ:Sg):List AM->List Operand->Bool
 |[],_=>true
 |.own _ _::r,x::xs=>(match xX cx σ x with
  |some (.ow o)=>σ.ob.any fun e=>xap e.1 o
  |_=>false) && zbO σ r xs
 |.d _::r,x::xs=> !zgx (xX cx σ x) && zbO σ r xs
 |_::r,_::xs=>zbO σ r xs
 |_::r,[]=>zbO σ r []
def Mc(σ:Sg)(f:FuncId)(ags:List Operand):List VB->Option VB
 |[]=>none
 |s::r=>match xap s.f f && zbO cx σ s.dom ags with
  |true=>some s
  |false=>Mc σ f ags r
def zjw(d:Option Tmp):Bool:=match d with
 |some t=>b5 cf.an.vw t
 |none=>false
def MW(d:Option Tmp):Bool:=match d with
 |some t=>b5 cf.an.mt t
 |none=>false
def zlg:Option Dv->Bool
 |some (.hp _ _)=>true
 |some (.mw _)=>true
 |_=>false
def SE:Option Dv->Bool
 |some (.mw _)=>true
 |_=>false
def zgG(σ:Sg)(d:Option Tmp):Op->List Operand
 |.build _ ps=>ps.toList.map (·.2)
 |.buildSlice _ _ ps=>(match MW cf d with
  |true=>[]
  |false=>ps.toList.map (·.2))
 |.store _ a v=>(match zlg (xX cx σ a),xX cx σ v with
  |false,some (.ow _)=>[v]
  |_,_=>[])
 |.slice _ x none (some _) none=>(match SE (xX cx σ x),zjw cf d with
  |true,false=>[x]
  |_,_=>[])
 |.box _ v=>[v]
 |.convert _ _ v=>[v]
 |.makeFunc _ _ cs=>cs.toList
 |.slice _ x (some _) _ _=>(match zjw cf d with
  |true=>[]
  |false=>[x])
 |.call ⟨.builtin .append,ags,_⟩=>(match ags.toList.any fun x=>SE (xX cx σ x)with
  |true=>[]
  |false=>ags.toList.drop 1)
 |.call ⟨.builtin .copy,ags,_⟩=>ags.toList.drop 1
 |.call ⟨.value f,ags,_⟩=>(match xX cx σ f with
  |some (.fn f _)=>(match Mc cx σ f ags.toList cf.cs with
   |some s=>(s.dom.zip ags.toList).filterMap fun e=>match e.1 with
    |.d _=>(match zgx (xX cx σ e.2)with
     |true=>none
     |false=>some e.2)
    |.q _=>some e.2
    |_=>none
   |none=>[])
  |some (.fp _ _ _)=>ags.toList
  |_=>[])
 |_=>[]
def Sb(σ:Sg)(d:Option Tmp)(mk:Nat->Dv)(x:Od):Sg:=⟨σ.nx+1,vi σ.rg d [(0,mk σ.nx)],(σ.nx,x)::σ.ob⟩
def Yb(σ:Sg):(dom:List AM)->List Operand->List PD->(aa dom->List Nat->Option R)->Option R
 |[],[],[],k=>k () []
 |.q t::r,[],c::cs,k=>Ty.cast c.t t c.x fun y=>Yb σ r [] cs fun z os=>k (y,z) os
 |.d t::r,x::xs,cs,k=>AH (xX cx σ x) t fun y=>Yb σ r xs cs fun z os=>k (y,z) os
 |.q t::r,x::xs,cs,k=>(match xX cx σ x with
  |some (.q s y)=>Ty.cast s t y fun y=>Yb σ r xs cs fun z os=>k (y,z) os
  |_=>none)
 |.own t E::r,x::xs,cs,k=>(match xX cx σ x with
  |some (.ow o)=>(match xO σ.ob o with
   |some (.own s E' ys)=>kF (xap E E')<|Ty.cast (.l s) (.l t) ys fun y=>Yb σ r xs cs fun z os=>kF (!b5 os o)<|k (y,z) (o::os)
   |_=>none)
  |_=>none)
 |.fn dom cod::r,x::xs,cs,k=>asF cf σ (xX cx σ x) dom cod fun g=>Yb σ r xs cs fun z os=>k (g,z) os
 |_,_,_,_=>none
def ZY:(rs:List RM)->dm rs->Nat->Nat->List (Nat×Dv)×List (Nat×Od)
 |[],_,_,_=>([],[])
 |[.d t],x,i,o=>([(i,.d t x)],[])
 |[.own t E],x,i,o=>([(i,.ow o)],[(o,.own t E x)])
 |.d t::r::rs,x,i,o=>let y:=ZY (r::rs) x.2 (i+1) o
  ((i,.d t x.1)::y.1,y.2)
 |.own t E::r::rs,x,i,o=>let y:=ZY (r::rs) x.2 (i+1) (o+1)
  ((i,.ow o)::y.1,(o,.own t E x.1)::y.2)
def w8(ob:List (Nat×Od)):List Nat->List (Nat×Od)
 |[]=>ob
 |o::r=>yD (w8 ob r) o
def Nh(σ:Sg)(s:Ty)(p v:Option Dv)(k:Sg->Option R):Option R:=match p with
 |some (.vs o _)=>(match xO σ.ob o with
  |some (.var s' E z)=>Ty.cast s' s z fun z=>AH v s fun y=>k ⟨σ.nx,σ.rg,kL σ.ob o (.var s E y)⟩
  |_=>none)
 |some (.vp o s1 f)=>(match xO σ.ob o,Ty.same f.f s with
  |some (.var s' E z),some _=>Ty.cast s' s1 z fun z=>AH v f.f fun y=>nm (f.set y z) fun z=>k ⟨σ.nx,σ.rg,kL σ.ob o (.var s1 E z)⟩
  |_,_=>none)
 |some (.ep o s1 j f)=>(match xO σ.ob o,Ty.same f.f s with
  |some (.own s' E xs),some _=>Ty.cast (.l s') (.l s1) xs fun xs=>AH v f.f fun y=>nm (xfX xs j<|f.set y<|xeq xs j s1.z) fun xs=>k ⟨σ.nx,σ.rg,kL σ.ob o (.own s1 E xs)⟩
  |_,_=>none)
 |_=>none
def L9(σ:Sg)(d:Option Tmp)(E:TypeId)(k:Sg->Option R):Option R:=match Ye cf E with
 |some ti=>k<|Sb σ d (fun o=> .vs o ti.ty) (.var ti.ty E ti.ty.z)
 |none=>none
def zhh(σ:Sg)(d:Option Tmp)(E:TypeId)(x:Operand)(k:Sg->Option R):Option R:=match Ye cf E with
 |some ti=>AH (xX cx σ x) ti.ty fun y=>k<|Sb σ d (fun o=> .vs o ti.ty) (.var ti.ty E y)
 |none=>none
def zaG(σ:Sg)(d:Option Tmp)(t:TypeId)(x y:Operand)(k:Sg->Option R):Option R:=match Ye cf t with
 |some ⟨.l s,.sl E,_⟩=>kF (OO x y) (match Ye cf E,pd cx σ x with
  |some ti,some ⟨.i,n⟩=>Ty.cast ti.ty s ti.ty.z fun z=>jM n fun n=>ck (ti.B*n<=281474976710656)<|nm (xaf n z) fun xs=>k<|Sb σ d .ow (.own s E xs)
  |_,_=>none)
 |_=>none
def zhn(σ:Sg)(d:Option Tmp)(t:TypeId)(n:Nat)(ps:List (Nat×Operand))(k:Sg->Option R):Option R:=match Ye cf t with
 |some ⟨.l s,.sl E,_⟩=>kF (xfU (n*s.n) 16777216)<|x8 cx σ (AA n s) ps 0 fun ys=>k<|Sb σ d .ow (.own s E<|fS n s ys)
 |_=>none
def MH(σ:Sg)(d:Option Tmp)(t:TypeId)(o:Nat)(hi:Operand)(k:Sg->Option R):Option R:=match Ye cf t,xO σ.ob o with
 |some ⟨.l s1,.sl _,_⟩,some (.own s E xs)=>Ty.cast (.l s) (.l s1) xs fun xs=>HY cx σ (some hi) fun h=>zhK (α:=s1.D) xs none h fun ys=>k ⟨σ.nx+1,vi σ.rg d [(0,.ow σ.nx)],(σ.nx,.own s1 E ys)::yD σ.ob o⟩
 |_,_=>none
def Oc(σ:Sg)(d:Option Tmp)(t':TypeId)(same:Bool)(s:Ty)(E:TypeId)(B:Nat)(z:s.D)(y:Operand)(ob:List (Nat×Od))(xs:List s.D)(k:Sg->Option R):Option R:=match pd cx σ y with
 |some ⟨.i,n⟩=>(match Ye cf t' with
  |some ⟨_,.int _,_⟩=>jM n fun n=>zlp xs n z B fun zs=>k ⟨σ.nx+1,vi σ.rg d [(0,.ow σ.nx)],(σ.nx,.own s E zs)::ob⟩
  |_=>none)
 |_=>(match xX cx σ y with
  |some (.sv o2 t2 lo n)=>(match Jd cx ⟨σ.nx,σ.rg,ob⟩ o2 with
   |some (.own s2 _ zs)=>kF same<|Ty.cast (.l s2) (.l t2) zs fun zs=>Ty.cast (.l t2) (.l s) (xdt n<|xdA lo zs) fun ys=>nm ys fun ys=>ziL (α:=s.D) xs ys B fun zs=>k ⟨σ.nx+1,vi σ.rg d [(0,.ow σ.nx)],(σ.nx,.own s E zs)::ob⟩
   |_=>none)
  |_=>kF same<|AH (xX cx σ y) (.l s) fun ys=>ziL (α:=s.D) xs ys B fun zs=>k ⟨σ.nx+1,vi σ.rg d [(0,.ow σ.nx)],(σ.nx,.own s E zs)::ob⟩)
def zg6(σ:Sg)(d:Option Tmp)(ags:List Operand)(ts:List TypeId)(k:Sg->Option R):Option R:=match ags,ts with
 |[x,y],[t,t']=>(match Ye cf t with
  |some ⟨.l s,.sl E,_⟩=>(match Ye cf E with
   |some ti=>Ty.cast ti.ty s ti.ty.z fun z=>(match xX cx σ x with
    |some .nil=>Oc cf cx σ d t' (xap t t') s E ti.B z y σ.ob [] k
    |some (.ow o)=>(match xO σ.ob o with
     |some (.own s' E' xs)=>kF (xap E' E)<|Ty.cast (.l s') (.l s) xs fun xs=>Oc cf cx σ d t' (xap t t') s E ti.B z y (yD σ.ob o) xs k
     |_=>none)
    |_=>none)
   |none=>none)
  |_=>none)
 |_,_=>none
def zcX(σ:Sg)(d:Option Tmp)(ags:List Operand)(ts:List TypeId)(k:Sg->Option R):Option R:=match ags,ts with
 |[x,y],[t,_]=>(match Ye cf t,xX cx σ x with
  |some ⟨.l s,.sl _,_⟩,some (.ow o)=>(match xO σ.ob o with
   |some (.own s' E' xs)=>kF (xap s.n 1)<|Ty.cast (.l s') (.l s) xs fun xs=>AH (xX cx σ y) (.l s) fun ys=>nm (cpy (α:=s.D) xs ys) fun zs=>k ⟨σ.nx,vi σ.rg d [],kL σ.ob o (.own s E' zs)⟩
   |_=>none)
  |some ⟨.l s,.sl _,_⟩,some (.sv o t2 lo n)=>(match xO σ.ob o,Ty.same t2 s with
   |some (.own s' E' xs),some _=>kF (xap s.n 1)<|Ty.cast (.l s') (.l s) xs fun xs=>AH (xX cx σ y) (.l s) fun ys=>nm (bu (α:=s.D) lo n xs ys) fun zs=>k ⟨σ.nx,vi σ.rg d [],kL σ.ob o (.own s E' zs)⟩
   |_,_=>none)
  |_,_=>none)
 |_,_=>none
def r8:List Nat->List (Nat×Od)->List (Nat×Od)
 |o::os,e::r=>(o,e.2)::r8 os r
 |_,_=>[]
def oh:Nat->List RM->Bool
 |0,[]=>true
 |0,.own _ _::r=>oh 0 r
 |n+1,.d _::r=>oh n r
 |_,_=>false
def mW(m:Nat):Nat:=bif xap m 1 then 0 else 1
def zar(σ:Sg)(d:Option Tmp)(s:VB)(ags:List Operand)(cs:List PD)(k:Sg->Option R):Option R:=
 Yb cf cx σ s.dom ags cs fun y os=>bd (s.M y) fun r=>
  match s.bk with
  |0=>(let g:=ZY s.cod r (bif Ju s.cod then 0 else 1) σ.nx
   k ⟨σ.nx+g.2.length,vi σ.rg d g.1,g.2++w8 σ.ob os⟩)
  |b+1=>(let m:=s.cod.length-(b+1)
   let g:=ZY s.cod r (mW m) σ.nx
   kF (oh m s.cod)<|k ⟨σ.nx+g.2.length,vi σ.rg d<|g.1.filter fun e=>xdc e.1<|mW m+m,r8 os g.2++w8 σ.ob os⟩)
def mE(σ:Sg)(d:Option Tmp)(op:Op)(k:Sg->Option R):Option R:=eOp cf cx σ op fun l=>kF (okL σ.nx l)<|k (σ.put d l)
def zii(d:Option Tmp):Bool:=match d with
 |some t=>b5 cf.an.bx t
 |none=>false
def zdH(o n:Nat)(v:Dv):Dv:=match v with
 |.mw p=>bif xap p o then .mw n else v
 |.mv p l m=>bif xap p o then .mv n l m else v
 |.hp p j=>bif xap p o then .hp n j else v
 |.rw p r=>bif xap p o then .rw n r else v
 |.rp p t r j f=>bif xap p o then .rp n t r j f else v
 |v=>v
def zdN(o n:Nat):List (Nat×Nat×Dv)->List (Nat×Nat×Dv)
 |[]=>[]
 |(t,i,v)::r=>(t,i,zdH o n v)::zdN o n r
def FU(o n:Nat):List (Nat×Nat×Dv)->List (Nat×Nat×Dv)
 |[]=>[]
 |(t,i,.mw p)::r=>(t,i,bif xap p o then .mw n else .mw p)::FU o n r
 |(t,i,v)::r=>(t,i,v)::FU o n r
def Ic(o n:Nat):List (Nat×Nat×Dv)->List (Nat×Nat×Dv)
 |[]=>[]
 |(t,i,.yd p)::r=>(t,i,bif xap p o then .yd n else .yd p)::Ic o n r
 |(t,i,v)::r=>(t,i,v)::Ic o n r
def zj8{α:Type}(a b:List α):List α:=a++b
def zjr{α:Type}(xss:List (List α))(r:Nat)(xs:List α):List (List α):=xfX xss r xs
def ZU(σ:Sg)(s:Ty)(p v:Option Dv)(k:Sg->Option R):Option R:=match p,v with
 |some (.rp o e r j f),v=>(match xO σ.ob o,Ty.same f.f s with
  |some (.mat s' E E1 xss ix),some _=>Ty.cast (.l (.l s')) (.l (.l e)) xss fun xss=>AH v f.f fun y=>nm (zjr (α:=e.D) xss r<|xfX (jG (α:=e.D) xss r) j<|f.set y<|xeq (jG (α:=e.D) xss r) j e.z) fun xss=>k ⟨σ.nx,σ.rg,kL σ.ob o (.mat e E E1 xss ix)⟩
  |_,_=>none)
 |some (.hp o j),some (.rw o' r)=>kF (xap o' o)<|(match xO σ.ob o,s with
  |some (.mat s' E E1 xss ix),.l _=>nm (xfX ix j r) fun ix=>k ⟨σ.nx,σ.rg,kL σ.ob o (.mat s' E E1 xss ix)⟩
  |_,_=>none)
 |some (.hp o j),some (.ow o2)=>kF (!xap o o2)<|(match xO σ.ob o,xO σ.ob o2,s with
  |some (.mat s' E E1 xss ix),some (.own s2 E2 ys),.l _=>kF (xap E1 E2)<|Ty.cast (.l s2) (.l s') ys fun ys=>nm (zj8 (α:=List s'.D) xss [ys]) fun xs2=>nm (xfX ix j<|xaI xss) fun ix=>k ⟨σ.nx+1,zdN o σ.nx σ.rg,(σ.nx,.mat s' E E1 xs2 ix)::yD (yD σ.ob o) o2⟩
  |_,_,_=>none)
 |some (.mw o),some (.ow o2)=>kF (!xap o o2)<|(match xO σ.ob o,xO σ.ob o2,s with
  |some (.ho E0),some (.own s2 E2 ys),.l _=>k ⟨σ.nx+1,FU o σ.nx σ.rg,(σ.nx,.bo s2 E2 E0 ys)::yD (yD σ.ob o) o2⟩
  |_,_,_=>none)
 |_,_=>none
def My(σ:Sg)(d:Option Tmp)(t:TypeId)(x y:Operand)(k:Sg->Option R):Option R:=match Ye cf t with
 |some ⟨.l (.l s),.sl E,_⟩=>kF (OO x y) (match Ye cf E,pd cx σ x with
  |some ⟨.l _,.sl E1,B⟩,some ⟨.i,n⟩=>jM n fun n=>ck (B*n<=281474976710656)<|nm (xaf n 0) fun ix=>k<|Sb σ d .mw (.mat s E E1 [[]] ix)
  |_,_=>none)
 |_=>none
def za2(σ:Sg)(d:Option Tmp)(t:TypeId)(n:Nat)(ps:List (Nat×Operand))(k:Sg->Option R):Option R:=match Ye cf t,ps with
 |some ⟨.l (.l s),.sl E,_⟩,[(0,x)]=>kF (xap n 1) (match xX cx σ x with
  |some (.ow o2)=>(match xO σ.ob o2 with
   |some (.own s2 E1 ys)=>Ty.cast (.l s2) (.l s) ys fun ys=>k ⟨σ.nx+1,vi σ.rg d [(0,.mw σ.nx)],(σ.nx,.mat s E E1 [ys] [0])::yD σ.ob o2⟩
   |_=>none)
  |_=>none)
 |_,_=>none
def DN(σ:Sg)(d:Option Tmp)(E0:TypeId)(k:Sg->Option R):Option R:=match Ye cf E0 with
 |some ⟨.l s,.sl E,_⟩=>k<|Sb σ d .mw (.bo s E E0 [])
 |_=>none
def NG(σ:Sg)(d:Option Tmp)(t:TypeId)(o:Nat)(k:Sg->Option R):Option R:=match Ye cf t,xO σ.ob o with
 |some ⟨.l _,.sl _,_⟩,some (.bo s E E0 xs)=>k ⟨σ.nx+1,vi σ.rg d [(0,.ow σ.nx)],(σ.nx,.own s E xs)::kL σ.ob o (.ho E0)⟩
 |_,_=>none
def za8(σ:Sg)(d:Option Tmp)(ags:List Operand)(ts:List TypeId)(k:Sg->Option R):Option R:=match ags,ts with
 |[x,y],[t,t']=>(match Ye cf t,xX cx σ x,xX cx σ y with
  |some ⟨.l (.l s),.sl E,_⟩,some (.mw o),some (.mw p)=>kF (xap t t' && !xap o p) (match Ye cf E,xO σ.ob o,xO σ.ob p with
   |some ⟨.l _,.sl _,B⟩,some (.mat s1 E1 F1 xss ix),some (.mat s2 E2 F2 yss iy)=>kF (xap E1 E && (xap E2 E && xap F1 F2))<|Ty.cast (.l (.l s2)) (.l (.l s1)) yss fun yss=>
    ck ((xaI ix+xaI iy)*B<=140737488355328)<|nm (zj8 (α:=List s1.D) xss yss) fun zss=>nm (ix++iy.map (xaI xss+ ·)) fun iz=>k ⟨σ.nx+1,vi σ.rg d [(0,.mw σ.nx)],(σ.nx,.mat s1 E1 F1 zss iz)::yD (yD σ.ob o) p⟩
   |_,_,_=>none)
  |_,_,_=>none)
 |_,_=>none
def sK(σ:Sg)(d:Option Tmp)(s:th)(ags:List Operand)(k:Sg->Option R):Option R:=match ags with
 |[x,a,p,y]=>(match xX cx σ x,pd cx σ a,pd cx σ p,xX cx σ y with
  |some (.rw o r),some ⟨.i,a⟩,some ⟨.i,p⟩,some (.mv o' lo n)=>kF (xap o o') (match xO σ.ob o with
   |some (.mat s1 E E1 xss ix)=>kF (xap E s.E && xap E1 s.E1)<|Ty.cast (.l (.l s1)) (.l (.l s.t)) xss fun xss=>
    bd (s.M xss ix r a p lo n) fun xss=>k ⟨σ.nx+1,FU o σ.nx<|vi σ.rg d [],(σ.nx,.mat s.t E E1 xss ix)::yD σ.ob o⟩
   |_=>none)
  |_,_,_,_=>none)
 |_=>none
def CC(σ:Sg)(d:Option Tmp)(o:Nat)(ags:List Operand)(k:Sg->Option R):Option R:=match ags with
 |[x]=>(match xX cx σ x with
  |some (.ow p)=>kF (!xap o p) (match xO σ.ob o,xO σ.ob p with
   |some (.hid t E X Y mX mY g z),some (.own s E2 ys)=>kF (xap E2 E)<|Ty.cast (.l s) (.l t) ys fun ys=>
    bd (g ys z) fun r=>xfw (fun x'=>k ⟨σ.nx+1,Ic o σ.nx<|vi σ.rg d [(0,.kb true)],(σ.nx,.hid t E X Y mX mY g x')::yD (kL σ.ob p (.own t E2 r.1)) o⟩)
     (fun y'=>k ⟨σ.nx+1,Ic o σ.nx<|vi σ.rg d [(0,.kb false)],(σ.nx,.hiy Y mY y')::yD (kL σ.ob p (.own t E2 r.1)) o⟩) r.2
   |_,_=>none)
  |_=>none)
 |_=>none
inductive CoM
 |no
 |st (t:TypeId) (x y:Operand)
 |ma (t:TypeId) (x y:Operand)
 |lit (t:TypeId) (n:Nat) (ps:Array (Nat×Operand))
 |al (E:TypeId)
 |tk (t:TypeId) (o:Nat)
 |ap (ags:Array Operand) (ts:Array TypeId)
 |sk (s:th) (ags:Array Operand)
 |yl (o:Nat) (ags:Array Operand)
def coM(σ:Sg)(d:Option Tmp):Op->CoM
 |.store t x y=>bif P5 (xX cx σ x)then .st t x y else .no
 |.makeSlice t x y=>bif MW cf d then .ma t x y else .no
 |.buildSlice t n ps=>bif MW cf d then .lit t n ps else .no
 |.alloc E=>bif MW cf d then .al E else .no
 |.load t x=>(match xX cx σ x with
  |some (.mw o)=> .tk t o
  |_=> .no)
 |.call ⟨.builtin .append,ags,ts⟩=>bif ags.toList.any (fun x=>SE<|xX cx σ x)then .ap ags ts else .no
 |.call ⟨.value f,ags,_⟩=>(match xX cx σ f with
  |some (.yd o)=> .yl o ags
  |some (.fn f [])=>(match zcw cf.ms f with
   |some s=> .sk s ags
   |none=> .no)
  |_=> .no)
 |_=> .no
def mCo(σ:Sg)(d:Option Tmp)(c:CoM)(k:Sg->Option R)(k0:Option R):Option R:=match c with
 |.no=>k0
 |.st t x y=>kF d.isNone (match Ye cf t with
  |some ti=>ZU σ ti.ty (xX cx σ x) (xX cx σ y) k
  |none=>none)
 |.ma t x y=>My cf cx σ d t x y k
 |.lit t n ps=>za2 cf cx σ d t n ps.toList k
 |.al E=>DN cf σ d E k
 |.tk t o=>NG cf σ d t o k
 |.ap ags ts=>za8 cf cx σ d ags.toList ts.toList k
 |.sk s ags=>sK cx σ d s ags.toList k
 |.yl o ags=>CC cx σ d o ags.toList k
def zgE(σ:Sg)(d:Option Tmp)(op:Op)(k:Sg->Option R):Option R:=
 match op with
 |.alloc E=>L9 cf σ d E k
 |.box E x=>Na (zii cf d) (zhh cf cx σ d E x k)<|mE cf cx σ d (.box E x) k
 |.store t x y=>kF d.isNone (match Ye cf t with
  |some ti=>Nh σ ti.ty (xX cx σ x) (xX cx σ y) k
  |none=>none)
 |.makeSlice t x y=>zaG cf cx σ d t x y k
 |.buildSlice t n ps=>zhn cf cx σ d t n ps.toList k
 |.slice t x none (some hi) none=>(match xX cx σ x with
  |some (.ow o)=>MH cf cx σ d t o hi k
  |_=>mE cf cx σ d (.slice t x none (some hi) none) k)
 |.call ⟨.builtin .append,ags,ts⟩=>zg6 cf cx σ d ags.toList ts.toList k
 |.call ⟨.builtin .copy,ags,ts⟩=>zcX cf cx σ d ags.toList ts.toList k
 |.call ⟨.value f,ags,ts⟩=>(match xX cx σ f with
  |some (.fn f' cs)=>(match Mc cx σ f' ags.toList cf.cs with
   |some s=>zar cf cx σ d s ags.toList cs k
   |none=>mE cf cx σ d (.call ⟨.value f,ags,ts⟩) k)
  |_=>mE cf cx σ d (.call ⟨.value f,ags,ts⟩) k)
 |op=>mE cf cx σ d op k
def mOp(σ:Sg)(d:Option Tmp)(op:Op)(k:Sg->Option R):Option R:=mCo cf cx σ d (coM cf cx σ d op) k<|zgE cf cx σ d op k
def Dk(σ:Sg)(t:Tmp)(b:Bool):Sg:=⟨σ.nx,vi σ.rg (some t) [(0,.kb b)],σ.ob⟩
def cr(all:List Oper)(o:Oper)(σ:Sg)(k:Sg->Bool->Option R):Option R:=match o.guard with
 |none=>k σ true
 |some (j,want)=>match all[j]? with
  |some o'=>(match o'.dst with
   |some t=>(match get cx σ t 0 with
    |some (.kb b)=>k σ<|b==want
    |some .un=>k σ false
    |some (.d .b x)=>kF (Yd cx.rg t)<|ifB x (k (Dk σ t true)<|true==want) (k (Dk σ t false)<|false==want)
    |_=>none)
   |none=>none)
  |none=>none
def sV(o:Oper)(σ:Sg)(k:Sg->Option R):Option R:=match o.op with
 |.pick (.tmp t) _ _=>(match get cx σ t 0 with
  |some (.d .b x)=>kF (Yd cx.rg t)<|ifB x (k<|Dk σ t true) (k<|Dk σ t false)
  |_=>k σ)
 |_=>k σ
def M2(all:List Oper):List Oper->Sg->(Sg->Option R)->Option R
 |[],σ,k=>k σ
 |o::r,σ,k=>kF (wu cx o.dst)<|cr cx all o σ fun σ w=>Na w
  (sV cx o σ fun σ=>(let σ:=ze2 cx σ<|zgG cf cx σ o.dst o.op;mOp cf cx σ o.dst o.op fun σ=>M2 all r σ k))
  (M2 all r (σ.put o.dst [(0,.un)]) k)
def zbd(all:List Oper):List Oper->Sg->(Sg->Option R)->Option R
 |[],σ,k=>k σ
 |o::r,σ,k=>kF (wu cx o.dst)<|cr cx all o σ fun σ w=>Na w
  (sV cx o σ fun σ=>eOp cf cx σ o.op fun l=>kF (okL σ.nx l)<|zbd all r (σ.put o.dst l) k)
  (zbd all r (σ.put o.dst [(0,.un)]) k)
def dd:List (Nat×Nat×Dv)->List (Nat×Nat×Dv)
 |[]=>[]
 |e::r=>e::(dd r).filter fun f=> !(xap e.1 f.1 && xap e.2.1 f.2.1)
structure Rb where
 a:Option Nat
 c:Option Nat
 rd:List Nat
 o:Nat
 x:Od
structure Oi where
 lo:Nat
 hi:Nat
 refs:List Nat
def K8(ts:List Tmp):List (Nat×Nat×Dv)->List Nat
 |[]=>[]
 |(t,_,v)::r=>(match b5 ts t,wj v with
  |true,some o=>o::K8 ts r
  |_,_=>K8 ts r)
def gm:List (Nat×Dv)->List Nat
 |[]=>[]
 |(_,v)::r=>(match wj v with
  |some o=>o::gm r
  |none=>gm r)
def JM(ts:List Tmp):List (Nat×Nat×Dv)->List (Nat×Nat×Dv)
 |[]=>[]
 |(t,i,v)::r=>(match b5 ts t with
  |true=>(t,i,v)::JM ts r
  |false=>JM ts r)
def nJ(d:Option Tmp)(rg:List (Nat×Nat×Dv)):List (Nat×Dv):=match d with
 |some t=>rg.filterMap fun e=>match xap e.1 t with
  |true=>some (e.2.1,e.2.2)
  |false=>none
 |none=>[]
def aN(os:List Nat):List Rb->List (Nat×Od)
 |[]=>[]
 |r::rs=>match r.c,b5 os r.o with
  |none,true=>(r.o,r.x)::aN os rs
  |_,_=>aN os rs
def MY(i:Nat)(os:List Nat):List Rb->List Rb
 |[]=>[]
 |r::rs=>(match r.c,b5 os r.o with
  |none,true=>⟨r.a,some i,r.rd,r.o,r.x⟩
  |_,_=>r)::MY i os rs
def MB(i:Nat)(os:List Nat):List Rb->List Rb
 |[]=>[]
 |r::rs=>(match r.c,b5 os r.o with
  |none,true=>⟨r.a,none,i::r.rd,r.o,r.x⟩
  |_,_=>r)::MB i os rs
def zej(i:Nat)(ob:List (Nat×Od)):List Rb:=ob.map fun e=>⟨some i,none,[],e.1,e.2⟩
def zjc(ob:List (Nat×Od)):List Rb:=ob.map fun e=>⟨none,none,[],e.1,e.2⟩
def HN:List Rb->List (Nat×Od)
 |[]=>[]
 |r::rs=>match r.c with
  |none=>(r.o,r.x)::HN rs
  |some _=>HN rs
def okO(n:Nat)(ob:List (Nat×Od)):Bool:=ob.all fun e=>xdc e.1 n
def rf(σ:Sg):List Nat->Sg
 |[]=>σ
 |o::r=>rf (H6 σ o) r
def zai:List RM->Bool
 |[]=>true
 |.own _ _::_=>false
 |_::r=>zai r
def zfF(σ:Sg)(b:Bool)(d:Option Tmp):Op->Bool
 |.alloc _=>true
 |.store _ _ _=>true
 |.makeSlice _ _ _=>true
 |.buildSlice _ _ _=> !b
 |.box _ _=>zii cf d
 |.load _ x=>SE<|xX cx σ x
 |.slice _ x none (some _) none=>(match xX cx σ x with
  |some (.ow _)=>true
  |_=>false)
 |.call ⟨.builtin .append,_,_⟩=>true
 |.call ⟨.builtin .copy,_,_⟩=>true
 |.call ⟨.value f,ags,_⟩=>(match xX cx σ f with
  |some (.fn f' _)=>(match Mc cx σ f' ags.toList cf.cs with
   |some s=> !(o9 s.dom)||(!b && !(zai s.cod))
   |none=>(zcw cf.ms f').isSome)
  |some (.yd _)=>true
  |_=>false)
 |_=>false
def fzB(fz:List Nat):Option Tmp->Bool
 |some t=>b5 fz t
 |none=>false
def ziF(b:Bool)(d:Option Tmp)(τ:Sg):Sg:=match b with
 |true=>rf τ<|gm<|nJ d τ.rg
 |false=>τ
def zgh(τ:Sg)(d:Option Tmp)(k:List (Nat×Dv)->Nat->List (Nat×Od)->Option R):Option R:=kF (okL τ.nx (nJ d τ.rg) && okO τ.nx τ.ob)<|k (nJ d τ.rg) τ.nx τ.ob
def zfI(os:List Nat):Op->List Nat
 |.move _=>[]
 |.assign _=>[]
 |_=>os
def PX(all:List Oper)(fz:List Nat):List Oper->Nat->Sg->List Rb->List Oi->(Sg->List Rb->List Oi->Option R)->Option R
 |[],_,σ,rs,is,k=>k σ rs is
 |o::r,i,σ,rs,is,k=>kF (wu cx o.dst)<|cr cx all o σ fun σ w=>Na w
  (sV cx o σ fun σ=>Na (zfF cf cx ⟨σ.nx,σ.rg,aN (K8 (xbC all.toArray o) σ.rg) rs⟩ (fzB fz o.dst) o.dst o.op)
   (mOp cf ⟨0,[],cx.ob⟩ ⟨σ.nx,dd<|JM (xbC all.toArray o)<|σ.rg++cx.rg,aN (K8 (xbC all.toArray o) σ.rg) rs⟩ o.dst o.op fun τ=>
    zgh (ziF (fzB fz o.dst) o.dst τ) o.dst fun l n ob=>PX all fz r (i+1) ⟨n,vi σ.rg o.dst l,[]⟩ (MY i (K8 (xbC all.toArray o) σ.rg) rs++zej i ob) (is++[⟨σ.nx,n,gm l⟩]) k)
   (eOp cf cx ⟨σ.nx,σ.rg,aN (zfI (K8 (xbC all.toArray o) σ.rg) o.op) rs⟩ o.op fun l=>kF (okL σ.nx l)<|PX all fz r (i+1) (σ.put o.dst l) (MB i (zfI (K8 (xbC all.toArray o) σ.rg) o.op) rs) (is++[⟨σ.nx,σ.nx,gm l⟩]) k))
  (PX all fz r (i+1) (σ.put o.dst [(0,.un)]) rs (is++[⟨σ.nx,σ.nx,[]⟩]) k)
def inB(I:Oi)(o:Nat):Bool:=xfU I.lo o && xdc o I.hi
def zfd(l:List Oper)(i:Nat)(I:Oi)(rs:List Rb)(js:List (Oi×Nat)):Bool:=
 (rs.all fun r=> !inB I r.o||(match r.a with
  |some j=>xap j i||vG l 16 j i
  |none=>false)) && js.all fun J=>J.1.refs.all fun p=> !inB I p||xap J.2 i||vG l 16 J.2 i
def zeu(l:List Oper)(m:Nat)(rs:List Rb)(is:List Oi):Bool:=
 (rs.all fun r=>(match r.a with
  |some j=>xdc j m && r.rd.all fun i=>vG l 16 i j
  |none=>true) && (match r.c with
  |some k=>xdc k m && (match r.a with
   |some j=>vG l 16 k j
   |none=>true) && r.rd.all fun i=>vG l 16 k i
  |none=>true)) &&
 (is.zipIdx.all fun J=>zfd l J.2 J.1 rs is.zipIdx) &&
 (xbc m).all fun i=>(xbc m).all fun j=>xap i j||(match(zS l i).dst with
  |some t=> !((zS l j).dst==some t)
  |none=>true)
def LH(l:List Oper):Nat->Nat->Nat
 |0,m=>m
 |f+1,m=>bif xdc 1 m && YH l (m-1)then LH l f (m-1)else m
def zh2(al:List (Nat×Operand)):Operand->Operand
 |.tmp t=>(match J3 al t with
  |some x=>x
  |none=> .tmp t)
 |x=>x
def zjV(al:List (Nat×Operand))(o:Oper):List (Nat×Operand):=match o.op,o.dst with
 |.move x,some d=>(d,zh2 al x)::al
 |.assign x,some d=>(d,zh2 al x)::al
 |_,_=>al
def zdF:List Oper->List (Nat×Operand)->Sg->Sg
 |[],_,σ=>σ
 |o::r,al,σ=>zdF r (zjV al o)<|ze2 cx σ<|(zgG cf cx σ o.dst o.op).map<|zh2 al
def zgt(id:Nat):List Nat:=match J3 cf.an.dz id with
 |some l=>l
 |none=>[]
def zih(id:Nat)(l:List Oper)(m:Nat)(σ:Sg)(k:Sg->Option R):Option R:=
 let fz:=zgt cf id
 let σ:=rf σ<|K8 fz σ.rg
 PX cf cx l fz (l.take m) 0 ⟨σ.nx,σ.rg,[]⟩ (zjc σ.ob) [] fun σ rs is=>kF (zeu l m rs is)<|M2 cf cx l (l.drop m) ⟨σ.nx,dd σ.rg,HN rs⟩ k
def ziM(id:Nat):Bool:=match J3 cf.an.dz id with
 |some _=>true
 |none=>false
def zhD(id:Nat)(l:List Oper)(draw:Bool)(σ:Sg)(k:Sg->Option R):Option R:=
 Na draw
  (let m:=LH l l.length l.length
  kF (YH l m)<|Na (ziM cf id) (zih cf cx id l m σ k) (zbd cf cx l (l.take m) (zdF cf cx (l.take m) [] σ) fun σ=>M2 cf cx l (l.drop m) ⟨σ.nx,dd σ.rg,σ.ob⟩ k))
  (M2 cf cx l l σ k)
def WV:List (Nat×TF)->Type
 |[]=>Unit
 |[a]=>a.2.D
 |a::b::r=>a.2.D×WV (b::r)
def bZ(σ:Sg)(ds:List (Nat×TF))(t:Nat)(f:TF)(k:f.D->List Nat->Option R):Option R:=match f,k with
 |.d s,k=>AH (get cx σ t 0) s fun y=>k y []
 |.q s,k=>(match get cx σ t 0 with
  |some (.q s' x)=>Ty.cast s' s x fun y=>k y []
  |_=>none)
 |.own s E,k=>(match get cx σ t 0 with
  |some (.ow o)=>(match xO σ.ob o with
   |some (.own s' E' xs)=>kF (xap E E')<|Ty.cast (.l s') (.l s) xs fun y=>k y [o]
   |_=>none)
  |some .nil=>k ([]:List s.D) []
  |_=>none)
 |.var s E,k=>(match get cx σ t 0 with
  |some (.vs o _)=>(match xO σ.ob o with
   |some (.var s' E' z)=>kF (xap E E')<|Ty.cast s' s z fun y=>k y [o]
   |_=>none)
  |_=>none)
 |.mat s E E1,k=>(match get cx σ t 0 with
  |some (.mw o)=>(match xO σ.ob o with
   |some (.mat s' E' F' xss ix)=>kF (xap E E' && xap E1 F')<|Ty.cast (.l (.l s')) (.l (.l s)) xss fun y=>k (y,ix) [o]
   |_=>none)
  |some .nil=>k (([],[]):List (List s.D)×List Nat) []
  |_=>none)
 |.matv s E E1,k=>(match get cx σ t 0 with
  |some (.mv o lo n)=>(match xO σ.ob o with
   |some (.mat s' E' F' xss ix)=>kF (xap E E' && xap E1 F')<|Ty.cast (.l (.l s')) (.l (.l s)) xss fun y=>k ((y,ix),(lo,n)) [o]
   |_=>none)
  |_=>none)
 |.row j,k=>(match get cx σ t 0,ds[j]? with
  |some (.rw o r),some (s,.mat _ _ _)=>(match get cx σ s 0 with
   |some (.mw o')=>kF (xap o o')<|k r []
   |_=>none)
  |some (.rw o r),some (s,.matv _ _ _)=>(match get cx σ s 0 with
   |some (.mv o' _ _)=>kF (xap o o')<|k r []
   |_=>none)
  |_,_=>none)
 |.view j,k=>(match get cx σ t 0,ds[j]? with
  |some (.mv o lo n),some (s,.mat _ _ _)=>(match get cx σ s 0 with
   |some (.mw o')=>kF (xap o o')<|k (lo,n) []
   |_=>none)
  |some (.mv o lo n),some (s,.matv _ _ _)=>(match get cx σ s 0 with
   |some (.mv o' _ _)=>kF (xap o o')<|k (lo,n) []
   |_=>none)
  |_,_=>none)
 |.bo s E E0,k=>(match get cx σ t 0 with
  |some (.mw o)=>(match xO σ.ob o with
   |some (.bo s' E' F' xs)=>kF (xap E E' && xap E0 F')<|Ty.cast (.l s') (.l s) xs fun y=>k y [o]
   |_=>none)
  |_=>none)
def oV(os:List Nat):List Nat->Bool
 |[]=>true
 |o::r=> !b5 os o && oV os r
def gat(σ:Sg)(ds:List (Nat×TF)):(l:List (Nat×TF))->(WV l->List Nat->Option R)->Option R
 |[],k=>k () []
 |[a],k=>bZ cx σ ds a.1 a.2 k
 |a::b::r,k=>bZ cx σ ds a.1 a.2 fun x o=>gat σ ds (b::r) fun y os=>kF (oV os o)<|k (x,y) (o++os)
def zeQ(σ:Sg):List (Nat×NF)->Bool
 |[]=>true
 |(t,f)::r=>(match f,get cx σ t 0 with
  |.kb b,some (.kb c)=>b==c
  |.nil,some .nil=>true
  |.ci x,some (.d .i y)=>eqI x y
  |.cu x,some (.d .u y)=>eqU x y
  |.al s,some (.ow o)=>(match get cx σ s 0 with
   |some (.ow o')=>xap o o'
   |_=>false)
  |.al s,some (.vs o _)=>(match get cx σ s 0 with
   |some (.vs o' _)=>xap o o'
   |_=>false)
  |.al s,some (.mw o)=>(match get cx σ s 0 with
   |some (.mw o')=>xap o o'
   |_=>false)
  |_,_=>false) && zeQ σ r
def mx(n0 o:Nat)(f:TF)(x:f.D):Dv×Option Od:=match f,x with
 |.d t,x=>(.d t x,none)
 |.q t,x=>(.q t x,none)
 |.own t E,x=>(.ow o,some (.own t E x))
 |.var t E,x=>(.vs o t,some (.var t E x))
 |.mat t E E1,x=>(.mw o,some (.mat t E E1 x.1 x.2))
 |.matv t E E1,x=>(.mv o x.2.1 x.2.2,some (.mat t E E1 x.1.1 x.1.2))
 |.row j,r=>(.rw (n0+j) r,none)
 |.view j,r=>(.mv (n0+j) r.1 r.2,none)
 |.bo t E E0,x=>(.mw o,some (.bo t E E0 x))
def bg(n0:Nat):(l:List (Nat×TF))->WV l->Nat->List (Nat×Nat×Dv)×List (Nat×Od)
 |[],_,_=>([],[])
 |[a],x,o=>let v:=mx n0 o a.2 x
  ([(a.1,0,v.1)],match v.2 with
   |some y=>[(o,y)]
   |none=>[])
 |a::b::r,x,o=>let v:=mx n0 o a.2 x.1
  let y:=bg n0 (b::r) x.2<|o+1
  ((a.1,0,v.1)::y.1,match v.2 with
   |some q=>(o,q)::y.2
   |none=>y.2)
def C8(rg:List (Nat×Nat×Dv)):List (Nat×NF)->List (Nat×Nat×Dv)
 |[]=>rg
 |(t,f)::r=>(match f with
  |.kb b=>[(t,0,.kb b)]
  |.nil=>[(t,0,.nil)]
  |.ci x=>[(t,0,.d .i x)]
  |.cu x=>[(t,0,.d .u x)]
  |.al s=>(match cZ rg s 0 with
   |some v=>[(t,0,v)]
   |none=>[]))++C8 rg r
def Qv(sh:Sh)(x:WV sh.ds)(kp:Sg):Sg:=
 let y:=bg kp.nx sh.ds x kp.nx
 ⟨kp.nx+sh.ds.length,C8 y.1 sh.ns++y.1++kp.rg,y.2++kp.ob⟩
def zby(σ:Sg):List (Nat×TF)->Sg
 |[]=>σ
 |(t,.d _)::r=>zby (frz cx σ (.tmp t)) r
 |_::r=>zby σ r
def iV(sh:Sh)(σ:Sg)(k:WV sh.ds->Option R):Option R:=let σ:=zby cx σ sh.ds
 kF (zeQ cx σ sh.ns)<|gat cx σ sh.ds sh.ds fun x _=>k x
def SmD:List (Tg×Sh)->Type
 |[]=>Empty
 |[a]=>WV a.2.ds
 |a::b::r=>WV a.2.ds⊕SmD (b::r)
def RF:Tg->Tg->Bool
 |.n,.n=>true
 |.x i,.x j=>xap i j
 |.r,.r=>true
 |_,_=>false
def zc2(σ:Sg)(t:Tg):(l:List (Tg×Sh))->(SmD l->Option R)->Option R
 |[],_=>none
 |[a],k=>kF (RF a.1 t)<|iV cx a.2 σ k
 |a::b::r,k=>Na (RF a.1 t) (iV cx a.2 σ fun x=>k (.inl x))<|zc2 σ t (b::r) fun y=>k (.inr y)
def FC(kp:Sg)(K:Tg->Sg->Option R):(l:List (Tg×Sh))->SmD l->Option R
 |[]=>fun _=>none
 |[a]=>fun x=>K a.1<|Qv a.2 x kp
 |a::b::r=>fun x=>xfw (α:=WV a.2.ds) (β:=SmD (b::r)) (fun x=>K a.1<|Qv a.2 x kp) (FC kp K (b::r)) x
def tZ:Code->List Nat
 |.region _ ops _=>ops.toList.filterMap (·.dst)
 |.seq a b=>tZ a++tZ b
 |.cond _ a b=>tZ a++tZ b
 |.block _ c=>tZ c
 |.loop c=>tZ c
 |.scope c=>tZ c
 |.rangeFunc _ ps a c=>ps.toList++(tZ a++tZ c)
 |_=>[]
def RZ:Code->Option Nat
 |.region i _ _=>some i
 |.seq a b=>(match RZ a with
  |some i=>some i
  |none=>RZ b)
 |.cond _ a b=>(match RZ a with
  |some i=>some i
  |none=>RZ b)
 |.block _ c=>RZ c
 |.loop c=>RZ c
 |.scope c=>RZ c
 |.rangeFunc _ _ a c=>(match RZ a with
  |some i=>some i
  |none=>RZ c)
 |_=>none
def zfP:Option Nat->Nat
 |some i=>i+1
 |none=>0
def zkY(a b:Code):Nat:=zfP (RZ a)*65536+zfP (RZ b)
def Bj(σ:Sg):List Nat->List Nat
 |[]=>[]
 |t::r=>match cZ σ.rg t 0 with
  |some v=>(match wj v with
   |some o=>o::Bj σ r
   |none=>Bj σ r)
  |none=>Bj σ r
def TM(ags ko:List Nat)(e:Nat×Nat×Dv):Bool:= !b5 ags e.1 && (match wj e.2.2 with
 |some o=>b5 ko o
 |none=>true)
def keep(σ:Sg)(ags ro:List Nat):Sg:=let ko:=Bj σ ro
 ⟨σ.nx,σ.rg.filter<|TM ags ko,σ.ob.filter fun e=>b5 ko e.1⟩
def rest(σ:Sg)(ags ro:List Nat):Sg:=let ko:=Bj σ ro
 ⟨σ.nx,σ.rg.filter<|fun e=> !TM ags ko e,σ.ob.filter fun e=> !b5 ko e.1⟩
def jz(cx kp:Sg):Sg:=⟨kp.nx,kp.rg++cx.rg,kp.ob++cx.ob⟩
def Kx:List (Nat×TF)->Bool
 |[]=>true
 |(_,.own _ _)::r=>Kx r
 |(_,.var _ _)::r=>Kx r
 |(_,.mat _ _ _)::r=>Kx r
 |(_,.bo _ _ _)::r=>Kx r
 |_=>false
def nL:List (Nat×TF)->Nat->List (Nat×Nat×Dv)
 |[],_=>[]
 |(t,.mat _ _ _)::r,n=>(t,0,.mw n)::nL r (n+1)
 |(t,.bo _ _ _)::r,n=>(t,0,.mw n)::nL r (n+1)
 |(t,_)::r,n=>(t,0,.ow n)::nL r (n+1)
def Cj{a:Nat×TF}:{l:List (Nat×TF)}->a.2.D->WV l->WV (a::l)
 |[],y,_=>y
 |_::_,y,x=>(y,x)
def be{a:Nat×TF}:{l:List (Nat×TF)}->WV (a::l)->a.2.D×WV l
 |[],z=>(z,())
 |_::_,z=>z
def jw(pt:Nat)(t:Ty)(E:TypeId)(ds:List (Nat×TF)):Sh:=⟨(pt,.own t E)::ds,[]⟩
def TP(ds:List (Nat×TF))(t:Nat):Bool:=ds.all fun e=> !xap e.1 t
def zc7:List (Nat×TF)->Bool
 |[]=>true
 |e::r=>TP r e.1 && zc7 r
def cpR(cx':Sg)(n:Nat)(sh:Sh):Sg:=⟨n+sh.ds.length,nL sh.ds n++cx'.rg,cx'.ob⟩
def zgB(cp:Sg)(ds:List (Nat×TF))(t:Ty)(E:TypeId)(pt:Nat)(τ:Tg)(q:Tg)(σ:Sg):Option (List t.D×(WV ds⊕WV ds)):=match q with
 |.n=>iV cp (jw pt t E ds) σ fun z=>some ((be z).1,.inl (be z).2)
 |.x i=>kF (RF τ (.x i))<|iV cp (jw pt t E ds) σ fun z=>some ((be z).1,.inr (be z).2)
 |.r=>kF (RF τ .r)<|iV cp (jw pt t E ds) σ fun z=>some ((be z).1,.inr (be z).2)
def zki(cx':Sg)(n:Nat)(ds:List (Nat×TF))(t:Ty)(E:TypeId)(pt:Nat)(τ:Tg)
 (ea ec:Sg->Sg->(Tg->Sg->Option (List t.D×(WV ds⊕WV ds)))->Option (List t.D×(WV ds⊕WV ds))) (ys:List t.D) (x:WV ds):Option (List t.D×(WV ds⊕WV ds)):=
 ea (cpR cx' n<|jw pt t E ds) (Qv (jw pt t E ds) (Cj (a:=(pt,.own t E)) ys x) ⟨n,[],[]⟩) fun q σ=>match q with
  |.n=>ec (cpR cx' n<|jw pt t E ds) σ<|zgB (cpR cx' n<|jw pt t E ds) ds t E pt τ
  |_=>none
def LQ{R:Type}(cx σ:Sg)(K:Tg->Sg->Option R)(s:Lp)(it:Aq)(y:aa it.dom)(τ:Tg)(pt:Nat)(ags:List Nat)
 (ea ec:Sg->Sg->(Tg->Sg->Option (List it.t.D×(WV s.hd.ds⊕WV s.hd.ds)))->Option (List it.t.D×(WV s.hd.ds⊕WV s.hd.ds))):Option R:=
 let kp:=keep σ ags s.sg.ro
 let cx':=jz cx kp
 kF (Kx s.hd.ds && (zc7 (jw pt it.t it.E s.hd.ds).ds && Yd cx'.rg pt))<|iV cx' s.hd (rest σ ags s.sg.ro) fun x=>
  bd (it.M (X:=WV s.hd.ds) (Y:=WV s.hd.ds) y (zki cx' kp.nx s.hd.ds it.t it.E pt τ ea ec) x) fun r=>xfw (fun x=>K .n<|Qv s.hd x kp) (fun x=>K τ<|Qv s.hd x kp) r
def C0:Code->Bool
 |.seq a b=>C0 a && C0 b
 |.cond _ a b=>C0 a && C0 b
 |.block _ c=>C0 c
 |.loop c=>C0 c
 |.scope c=>C0 c
 |.rangeFunc _ _ _ _=>false
 |_=>true
end
def aQ(cf:Cf):Code->{R:Type}->Sg->Sg->(Tg->Sg->Option R)->Option R
 |.skip,_,cx,σ,K=>K .n σ
 |.label _,_,cx,σ,K=>K .n σ
 |.exit id,_,cx,σ,K=>K (.x id) σ
 |.ret,_,cx,σ,K=>K .r σ
 |.scope c,_,cx,σ,K=>aQ cf c cx σ K
 |.region i ops dr,_,cx,σ,K=>zhD cf cx i ops.toList dr σ fun σ=>K .n σ
 |.cond c a b,_,cx,σ,K=>(match xX cx σ c with
  |some (.kb true)=>aQ cf a cx σ K
  |some (.kb false)=>aQ cf b cx σ K
  |some (.d .b x)=>ifB x (aQ cf a cx σ K)<|aQ cf b cx σ K
  |_=>none)
 |.block id c,_,cx,σ,K=>aQ cf c cx σ fun t σ=>match t with
  |.x j=>Na (xap j id) (K .n σ)<|K (.x j) σ
  |t=>K t σ
 |.seq a b,_,cx,σ,K=>
  (match J3 cf.an.jn (zkY a b)with
  |none=>aQ cf a cx σ fun t σ=>(match t with
   |.n=>aQ cf b cx σ K
   |t=>K t σ)
  |some s=>
   let ags:=tZ a
   let kp:=keep σ ags s.ro
   bd (aQ cf a (jz cx kp) (rest σ ags s.ro) fun t σ=>zc2 (jz cx kp) σ t s.tg some) fun x=>
    FC kp (fun t σ=>match t with
     |.n=>aQ cf b cx σ K
     |t=>K t σ) s.tg x)
 |.loop c,_,cx,σ,K=>
  (match(match RZ c with
   |some i=>J3 cf.an.lp i
   |none=>none)with
  |none=>none
  |some s=>
   let ags:=tZ c
   let kp:=keep σ ags s.sg.ro
   let cx':=jz cx kp
   iV cx' s.hd (rest σ ags s.sg.ro) fun x=>
    bd (zg (fun L x=>aQ cf c cx' (Qv s.hd x ⟨kp.nx,[],[]⟩) fun t σ=>match t with
     |.n=>iV cx' s.hd σ L
     |t=>zc2 cx' σ t s.sg.tg some) cf.fu x) fun x=>FC kp K s.sg.tg x)
 |.rangeFunc g ps a c,_,cx,σ,K=>
  (match xX cx σ g,(match RZ c with
   |some i=>J3 cf.an.lp i
   |none=>none),ps.toList with
  |some (.fn f cs),some s,[pt]=>(match zdS cf.is f,s.sg.tg,s.hd.ns with
   |some it,[(τ,_)],[]=>(match Kf it.dom cs with
    |some y=>kF (C0 a && C0 c)<|LQ cx σ K s it y τ pt (pt::(tZ a++tZ c)) (fun cx σ K=>aQ cf a cx σ K) (fun cx σ K=>aQ cf c cx σ K)
    |none=>none)
   |_,_,_=>none)
  |_,_,_=>none)
 |_,_,_,_,_=>none
def We:(dom:List AM)->aa dom->Nat->List (Nat×Nat×Dv)×List (Nat×Od)
 |[],_,_=>([],[])
 |.d t::r,x,i=>let y:=We r x.2 (i+1)
  ((i,0,.d t x.1)::y.1,y.2)
 |.q t::r,x,i=>let y:=We r x.2 (i+1)
  ((i,0,.q t x.1)::y.1,y.2)
 |.own t E::r,x,i=>let y:=We r x.2 (i+1)
  ((i,0,.ow i)::y.1,(i,.own t E x.1)::y.2)
 |.fn dom cod::r,x,i=>let y:=We r x.2 (i+1)
  ((i,0,.fp dom cod x.1)::y.1,y.2)
def Ft{R:Type}(cf:Cf)(σ:Sg)(r:ResultVar)(m:RM)(k:m.D->List Nat->Option R):Option R:=match r,m,k with
 |.tmp t,.d s,k=>AH (get ⟨0,[],[]⟩ σ t 0) s fun y=>k y []
 |.tmp t,.own s E,k=>bZ ⟨0,[],[]⟩ σ [] t (.own s E) k
 |.cell t E,.d s,k=>(match get ⟨0,[],[]⟩ σ t 0,Ye cf E with
  |some (.vs o _),some ti=>(match xO σ.ob o with
   |some (.var s' E' z)=>kF (xap E E')<|Ty.cast s' ti.ty z fun z=>Ty.cast ti.ty s z fun y=>k y [o]
   |_=>none)
  |_,_=>none)
 |_,_,_=>none
def Hz{R:Type}(cf:Cf)(σ:Sg):List ResultVar->(cod:List RM)->(dm cod->List Nat->Option R)->Option R
 |[],[],k=>k () []
 |[v],[m],k=>Ft cf σ v m k
 |v::v'::vs,m::m'::ms,k=>Ft cf σ v m fun x o=>Hz cf σ (v'::vs) (m'::ms) fun y os=>kF (oV os o)<|k (x,y) (o++os)
 |_,_,_=>none
def Nr(N:Nat):Code->Bool
 |.region _ ops _=>ops.toList.all fun o=>qw N o.dst
 |.seq a b=>Nr N a && Nr N b
 |.cond _ a b=>Nr N a && Nr N b
 |.block _ c=>Nr N c
 |.loop c=>Nr N c
 |.scope c=>Nr N c
 |.rangeFunc _ ps a c=>(ps.toList.all fun p=>xdc p N) && (Nr N a && Nr N c)
 |_=>true
def U3(σ:Sg):List ResultVar->List RM->Sg
 |.tmp t::vs,.d _::ms=>U3 (frz ⟨0,[],[]⟩ σ (.tmp t)) vs ms
 |_::vs,_::ms=>U3 σ vs ms
 |_,_=>σ
def MZ(cf:Cf)(fn:Func)(dom:List AM)(cod:List RM)(x:aa dom):Option (dm cod):=match fn.body with
 |some c=>kF (Nr fn.ntmps c && xfU dom.length fn.ntmps)<|
  let y:=We dom x 0
  aQ cf c ⟨0,[],[]⟩ ⟨dom.length,y.1,y.2⟩ fun t σ=>(match t with
   |.r=>Hz cf (U3 σ fn.results.toList cod) fn.results.toList cod fun y _=>some y
   |.n=>Hz cf (U3 σ fn.results.toList cod) fn.results.toList cod fun y _=>some y
   |_=>none)
 |none=>none
def Dm:List AM->Nat->List ResultVar
 |[],_=>[]
 |.own _ _::r,i=> .tmp i::Dm r (i+1)
 |_::r,i=>Dm r<|i+1
def DD(pn:Nat->Value):List AM->Nat->List (Nat×Nat×Dv)
 |[],_=>[]
 |.own _ _::r,i=>(i,0,.pin<|pn i)::DD pn r (i+1)
 |_::r,i=>DD pn r<|i+1
def zeh(cf:Cf)(fn:Func)(dom:List AM)(cod:List RM)(bk:Nat)(pn:Nat->Value)(x:aa dom):Option (dm cod):=match fn.body with
 |some c=>kF (Nr fn.ntmps c && xfU dom.length fn.ntmps && xap (fn.results.toList.length+bk) cod.length && xap (Dm dom 0).length bk && xdc 0 bk)<|
  let y:=We dom x 0
  let rv:=fn.results.toList++Dm dom 0
  aQ cf c ⟨0,DD pn dom 0,[]⟩ ⟨dom.length,y.1,y.2⟩ fun t σ=>(match t with
   |.r=>Hz cf (U3 σ rv cod) rv cod fun y _=>some y
   |.n=>Hz cf (U3 σ rv cod) rv cod fun y _=>some y
   |_=>none)
 |none=>none
end
section
def rK(p:Prop):FF where
 p _ _:=p
 keep h _:=h
 sub h _:=h
def Ea:List PD->List Value->List FF
 |c::cs,v::vs=>fP c.t.rep c.x v::Ea cs vs
 |_,_=>[]
def tsF:(ts:List Ty)->dn ts->List Value->List FF
 |[],_,_=>[]
 |t::ts,x,vs=>fV t.rep x.1 (vs.headD undef)::tsF ts x.2 vs.tail
def csF:(ts:List Ty)->CA ts->List Value->List FF
 |[],_,_=>[]
 |[t],x,vs=>[fV t.rep x<|vs.headD undef]
 |t::s::r,x,vs=>fV t.rep x.1 (vs.headD undef)::csF (s::r) x.2 vs.tail
def zik(P:Program)(fid:FuncId)(Jh:List Value)(FG:List FF)(dom cod:List Ty)(g:dn dom->Option (CA cod)):Prop:=
 Ab P fid=true/\∀(x:dn dom) (r:CA cod),g x=some r->∀vs:List Value,vs.length=dom.length->
  Fn P fid (vs++Jh).toArray (tsF dom x vs++FG) Yg (fun us=>csF cod r us) (fun us=>us.length=cod.length)
def fnF(P:Program)(dom cod:List Ty)(g:dn dom->Option (CA cod))(v:Value):FF where
 p S w:=∃fid Jh FG,v=.func (.func fid) #[] Jh.toArray/\zik P fid Jh FG dom cod g/\zA S FG w
 keep:=by rintro S w w' ⟨fid,Jh,FG,h1,h2,h3⟩ k;exact⟨fid,Jh,FG,h1,h2,zA.keep k h3⟩
 sub:=by rintro S S' w ⟨fid,Jh,FG,h1,h2,h3⟩ k;exact⟨fid,Jh,FG,h1,h2,zA.sub k h3⟩
def amF(P:Program):(a:AM)->a.D->Value->FF
 |.d t,x,v=>fV t.rep x v
 |.q t,x,v=>fP t.rep x v
 |.own _ _,_,_=>rK True
 |.fn dom cod,g,v=>fnF P dom cod g v
def amM:(a:AM)->a.D->Value->List MF
 |.own t E,xs,v=>[mO t.rep E v xs]
 |_,_,_=>[]
def kU(P:Program):(dom:List AM)->aa dom->List Value->List FF
 |[],_,_=>[]
 |a::r,x,vs=>amF P a x.1 (vs.headD undef)::kU P r x.2 vs.tail
def Y5:(dom:List AM)->aa dom->List Value->List MF
 |[],_,_=>[]
 |a::r,x,vs=>amM a x.1 (vs.headD undef)++Y5 r x.2 vs.tail
def rmF:(m:RM)->m.D->Value->List FF
 |.d t,x,v=>[fV t.rep x v]
 |.own _ _,_,_=>[]
def rmM:(m:RM)->m.D->Value->List MF
 |.own t E,xs,v=>[mO t.rep E v xs]
 |.d _,_,_=>[]
def Zb:(rs:List RM)->dm rs->List Value->List FF
 |[],_,_=>[]
 |[m],x,vs=>rmF m x<|vs.headD undef
 |m::n::r,x,vs=>rmF m x.1 (vs.headD undef)++Zb (n::r) x.2 vs.tail
def Zc:(rs:List RM)->dm rs->List Value->List MF
 |[],_,_=>[]
 |[m],x,vs=>rmM m x<|vs.headD undef
 |m::n::r,x,vs=>rmM m x.1 (vs.headD undef)++Zc (n::r) x.2 vs.tail
def UY:List AM->List Value->List Value
 |[],_=>[]
 |.own _ _::r,vs=>vs.headD undef::UY r vs.tail
 |_::r,vs=>UY r vs.tail
def zjx(bk n:Nat)(us:List Value):Value:=match bk with
 |0=>Yg us
 |b+1=>Yg<|us.take<|n-(b+1)
def zfG(dom:List AM)(vs:List Value)(bk n:Nat)(us:List Value):Prop:=match bk with
 |0=>us.length=n
 |b+1=>us.length=n/\us.drop (n-(b+1))=UY dom vs
def y6(P:Program)(s:VB):Prop:=
 Ab P s.f=true/\∀(x:aa s.dom) (r:dm s.cod),s.M x=some r->∀vs:List Value,vs.length=s.dom.length->
  Om P s.f vs.toArray (Y5 s.dom x vs) (kU P s.dom x vs) (zjx s.bk s.cod.length) (fun us=>Zc s.cod r us) (fun us=>Zb s.cod r us) (zfG s.dom vs s.bk s.cod.length)
theorem y6.plain{P:Program}{s:VB}(h:y6 P s)(hb:s.bk=0){x:aa s.dom}{r:dm s.cod}(hM:s.M x=some r){vs:List Value}(hl:vs.length=s.dom.length):
 Om P s.f vs.toArray (Y5 s.dom x vs) (kU P s.dom x vs) Yg (fun us=>Zc s.cod r us) (fun us=>Zb s.cod r us) (fun us=>us.length=s.cod.length):=by
 have h1:=h.2 x r hM vs hl;rw[hb]at h1;exact h1
def zb0(P:Program)(t:TypeId)(i:Nat):Option (Nat×Bool×Nat):=match P.underlying t with
 |some (.struct fs)=>match fs[i]? with
  |some f=>match tyB P f.type with
   |some (agg,n,_,some _)=>some (f.offset,agg,n)
   |_=>none
  |none=>none
 |_=>none
def TG(P:Program)(t:TypeId)(ti:TI):Prop:=match ti.k with
 |.int k=>P.underlying t=some (.int k)
 |.bool=>P.underlying t=some .bool
 |.str=>P.underlying t=some .string
 |.sl E=>P.underlying t=some (.slice E)/\∃e,ti.ty=.l e
 |.st n=>ti.ty.rep.agg=true/\(∀i f,Q6 n ti.ty i=some f->Nc P t i=some f.off)/\
  (∃fs,P.underlying t=some (.struct fs)/\∃pl:Array (Nat×Nat),(∀w,(fs.mapM (fun f=>do pure (f.offset,<-sizeOf f.type)):Sem (Array<|Nat×Nat)).run P w=.ok pl w)/\
   ∀i f,Q6 n ti.ty i=some f->pl[i]? =some (f.off,f.f.n))/\
  ∀i f,Q6 n ti.ty i=some f->zb0 P t i=some (f.off,f.f.rep.agg,f.f.n)
 |.ar k E=>ti.ty.rep.agg=true/\P.underlying t=some (.array k E)
def zae(P:Program)(t:TypeId)(ti:TI):Prop:=
 (∃zero,X3 P t ti.ty.rep.agg ti.ty.rep.n ti.B zero/\zero.cells.size=ti.ty.rep.n/\(∀S w,ti.ty.rep.p S ti.ty.z zero.cells.toList w)/\∀s,ti.ty=.l s->zero=.slice none 0 0)/\0<ti.B/\0<ti.ty.rep.n/\TG P t ti
def yZ(P:Program)(tt:List (Nat×TI)):Prop:=∀t ti,J3 tt t=some ti->zae P t ti
def jN(P:Program)(tt:List (Nat×TI)):Prop:=∀t s E B,J3 tt t=some ⟨.l s,.sl E,B⟩->∃ti,J3 tt E=some ti/\ti.ty=s
def Fl.ok(t:Ty)(f:Fl t.D):Prop:=∀z:t.D,Sub t.rep.c z f.off f.f.rep (f.get z)<|fun y=>f.set y z
def zhc(f:FuncId)(c:List PD)(v:Value):FF where
 p S w:=∃cs:List Value,v=.func (.func f) #[] cs.toArray/\cs.length=c.length/\zA S (Ea c cs) w
 keep:=by rintro S w w' ⟨cs,h1,h2,h3⟩ k;exact⟨cs,h1,h2,zA.keep k h3⟩
 sub:=by rintro S S' w ⟨cs,h1,h2,h3⟩ k;exact⟨cs,h1,h2,zA.sub k h3⟩
def Fw(v0:Value)(lo n:Nat)(v:Value):Prop:=(∃b m cap,v0=.slice (some ⟨b,0,none⟩) m cap/\lo+n<=m/\m<=cap/\cap<=9223372036854775807/\v=.slice (if cap=lo then some ⟨b,0,none⟩else some ⟨b,0+lo*1,none⟩) n (cap-lo))\/(v0=.slice none 0 0/\lo=0/\n=0/\v=.slice none 0 0)
theorem Fw.old{v0 v:Value}{lo n:Nat}(h:Fw v0 lo n v):(∃b m cap c,v0=.slice (some ⟨b,0,none⟩) m cap/\lo+n<=m/\n<=c/\c<=9223372036854775807/\v=.slice (some ⟨b,0+lo*1,none⟩) n c)\/(n=0/\∃ao c,c<=9223372036854775807/\v=.slice ao 0 c):=by
 rcases h with⟨b,m,cap,h1,h2,h3,h4,h5⟩|⟨h1,h2,h3,h4⟩
 ·by_cases hc:cap=lo
  ·rw[iq hc]at h5;obtain rfl:n=0:=by lia
   exact .inr ⟨rfl,_,cap-lo,by lia,h5⟩
  ·rw[ir hc]at h5;exact .inl ⟨b,m,cap,cap-lo,h1,h2,by lia,by lia,h5⟩
 ·exact .inr ⟨h3,none,0,by lia,by rw[h4]⟩
theorem Fw.same{v0 v0' v:Value}{lo n m:Nat}(h:Fw v0 lo n v)(h':Fw v0' lo n v)(hl:∀a k c,v0=.slice a k c->a.isSome=true->k=m)(ha:∀a k c,v0'=.slice a k c->a.isSome=true->k=m):v0=v0':=by
 rcases h with⟨b,k,cap,h1,h2,h3,h4,h5⟩|⟨h1,h2,h3,h4⟩<;>rcases h' with⟨b',k',cap',q1,q2,q3,q4,q5⟩|⟨q1,q2,q3,q4⟩
 ·have e1:=hl _ _ _ h1 rfl;have e2:=ha _ _ _ q1 rfl;subst e1 e2;rw[h5]at q5;simp only[Value.slice.injEq,true_and]at q5;obtain⟨q6,q7⟩:=q5;obtain rfl:cap=cap':=by lia
  have hb:b=b':=by
   by_cases hc:cap=lo
   ·rw[iq hc,iq hc]at q6;simpa using q6
   ·rw[ir hc,ir hc]at q6;simpa using q6
  rw[h1,q1,hb]
 ·rw[h5]at q4;exfalso;simp only[Value.slice.injEq]at q4;by_cases hc:cap=lo
  ·rw[iq hc]at q4;cases q4.1
  ·rw[ir hc]at q4;cases q4.1
 ·rw[h4]at q5;exfalso;simp only[Value.slice.injEq]at q5;by_cases hc:cap'=lo
  ·rw[iq hc]at q5;cases q5.1
  ·rw[ir hc]at q5;cases q5.1
 ·rw[h1,q1]
def vv(P:Program)(vs:Nat->Value):Dv->Value->FF
 |.d t x,v=>fV t.rep x v
 |.q t x,v=>fP t.rep x v
 |.kb b,v=>rK<|v=.bool b
 |.un,v=>rK<|v=undef
 |.nil,v=>rK<|v=.slice none 0 0
 |.ow o,v=>rK<|v=vs o
 |.ep o t j f,v=>rK (Fl.ok t f/\∃b n cap,vs o=.slice (some ⟨b,0,none⟩) n cap/\j<n/\v=.pointer (some ⟨b,0+j*t.rep.n+f.off,none⟩))
 |.sv o t lo n,v=>rK<|(∃b m cap c,vs o=.slice (some ⟨b,0,none⟩) m cap/\lo+n<=m/\n<=c/\c<=9223372036854775807/\v=.slice (some ⟨b,0+lo*t.rep.n,none⟩) n c)\/(n=0/\∃ao c,c<=9223372036854775807/\v=.slice ao 0 c)
 |.vs o t,v=>rK (v=vs o/\∃b,vs o=.pointer (some ⟨b,0,none⟩))
 |.vp o t f,v=>rK (Fl.ok t f/\∃b,vs o=.pointer (some ⟨b,0,none⟩)/\v=.pointer (some ⟨b,0+f.off,none⟩))
 |.fn f c,v=>zhc f c v
 |.fp dom cod g,v=>fnF P dom cod g v
 |.pin u,v=>rK<|v=u
 |.mw o,v=>rK<|v=yY (vs o)
 |.mv o lo n,v=>rK<|Fw (yY<|vs o) lo n v
 |.hp o j,v=>rK (∃b n cap,yY (vs o)=.slice (some ⟨b,0,none⟩) n cap/\j<n/\v=.pointer (some ⟨b,0+j*1,none⟩))
 |.rw o r,v=>rK<|(ve<|vs o)[r]? =some v
 |.rp o t r j f,v=>rK (Fl.ok t f/\∃b n cap,(ve<|vs o)[r]? =some (.slice (some ⟨b,0,none⟩) n cap)/\j<n/\v=.pointer (some ⟨b,0+j*t.rep.n+f.off,none⟩))
 |.yd o,v=>rK<|v=.func (.yield<|lOf<|yY<|vs o) #[] #[]
def xK(P:Program)(vs:Nat->Value)(d:Dv)(v:Value)(i:Nat):FF where
 p S w:=match i with
  |0=>(vv P vs d v).p S w
  |i+1=>∃us u,v=.tuple us/\us[i]? =some u/\(vv P vs d u).p S w
 keep:=by
  intro S w w' h k
  cases i with
  |zero=>exact(vv P vs d v).keep h k
  |succ i=>obtain⟨us,u,h1,h2,h3⟩:=h;exact⟨us,u,h1,h2,(vv P vs d u).keep h3 k⟩
 sub:=by
  intro S S' w h k
  cases i with
  |zero=>exact(vv P vs d v).sub h k
  |succ i=>obtain⟨us,u,h1,h2,h3⟩:=h;exact⟨us,u,h1,h2,(vv P vs d u).sub h3 k⟩
def Qz(vs:Nat->Value)(e:Nat×Od):MF:=match e.2 with
 |.own t E xs=>mO t.rep E (vs e.1) xs
 |.var t E z=>mP t.rep.c E (vs e.1) z
 |.mat t E E1 xss ix=>lZ t.rep E E1 (vs e.1) xss ix
 |.bo t E E0 xs=>mBo t.rep E E0 (vs e.1) xs
 |.ho E0=>mHo E0<|vs e.1
 |.hid t E X Y mX mY g x=>Hl [mPr<|GA Tryz.prog (lOf<|yY<|vs e.1) t.rep E mX mY g,mX x<|(ve<|vs e.1).headD undef]
 |.hiy Y mY y=>mY y<|(ve<|vs e.1).headD undef
def MS(vs:Nat->Value)(ob:List (Nat×Od)):List MF:=ob.map<|Qz vs
def RS(P:Program)(vs:Nat->Value)(env:yN)(rg:List (Nat×Nat×Dv)):List FF:=rg.map fun e=>xK P vs e.2.2 (env e.1) e.2.1
structure Fr where
 we:World
 Se:Nat->Prop
 F:List MF
 G:List FF
structure Bd(cx σ:Sg):Prop where
 o1:∀e∈σ.ob,e.1<σ.nx
 o2:∀e∈cx.ob,e.1<σ.nx
 r1:∀e∈σ.rg,∀o,wj e.2.2=some o->o<σ.nx
 r2:∀e∈cx.rg,∀o,wj e.2.2=some o->o<σ.nx
def Zi(P:Program)(fr:Fr)(cx σ:Sg)(env:yN)(w:World):Prop:=
 Bd cx σ/\∃vs:Nat->Value,St fr.we fr.Se (MS vs σ.ob++(MS vs cx.ob++fr.F)) (RS P vs env σ.rg++(RS P vs env cx.rg++fr.G)) w
section
variable{P:Program}{vs vs':Nat->Value}{env env':yN}
theorem dN{d:Dv}(h:∀o,wj d=some o->vs' o=vs o)(v:Value):vv P vs' d v=vv P vs d v:=by
 cases d<;>simp only[vv]<;>simp only[wj,xaz,forall_eq']at h<;>rw[h]
theorem wa:∀{ob:List (Nat×Od)},(∀e∈ob,vs' e.1=vs e.1)->MS vs' ob=MS vs ob
 |[],_=>rfl
 |(o,x)::r,h=>by
  have h1:=h (o,x)<|FS;have h2:=wa (ob:=r) fun e he=>h e<|UV _ he;show Qz vs' (o,x)::MS vs' r=Qz vs (o,x)::MS vs r;rw[h2];cases x<;>simp only[Qz]<;>rw[h1]
theorem qI:∀{rg:List (Nat×Nat×Dv)},(∀e∈rg,∀o,wj e.2.2=some o->vs' o=vs o)->(∀e∈rg,env' e.1=env e.1)->RS P vs' env' rg=RS P vs env rg
 |[],_,_=>rfl
 |(t,i,d)::r,h,h'=>by
  show xK P vs' d (env' t) i::RS P vs' env' r=xK P vs d (env t) i::RS P vs env r;rw[qI (rg:=r) (fun e he=>h e<|UV _ he)<|fun e he=>h' e<|UV _ he,h' (t,i,d)<|FS];congr 1;unfold xK;simp only[dN (P:=P)<|h (t,i,d)<|FS]
theorem jK{S:Nat->Prop}{w:World}:∀{Γ:List FF},zA S Γ w↔∀f∈Γ,f.p S w
 |[]=>⟨fun _ f h=>absurd h IR,fun _=>trivial⟩
 |f::r=>by
  have ih:=jK (S:=S) (w:=w) (Γ:=r);constructor
  ·intro h x hx;rcases xac.1 hx with rfl|hx
   ·exact h.1
   ·exact ih.1 h.2 x hx
  ·intro h;exact⟨h f<|FS,ih.2 fun x hx=>h x<|UV _ hx⟩
theorem z8{a b:Nat}(h:xap a b=true):a=b:=xcL h
theorem n8:∀{rg:List (Nat×Nat×Dv)}{t i:Nat}{d:Dv},cZ rg t i=some d->(t,i,d)∈rg
 |(t',i',d')::r,t,i,d,h=>by
  unfold cZ at h;cases hb:xap t' t && xap i' i
  ·rw[hb]at h;exact UV _<|n8 h
  ·rw[hb]at h;simp only[cond_true,xaz]at h;rw[xao]at hb;rw[<-h,z8 hb.1,z8 hb.2];exact FS
theorem JK{S:Nat->Prop}{w:World}{rg:List (Nat×Nat×Dv)}(h:zA S (RS P vs env rg) w){t i:Nat}{d:Dv}(hd:(t,i,d)∈rg):(xK P vs d (env t) i).p S w:=
 jK.1 h _ (xal.2 ⟨(t,i,d),hd,rfl⟩)
theorem wQ:∀{ob:List (Nat×Od)}{o:Nat}{x:Od},xO ob o=some x->∃i,ob[i]? =some (o,x)/\(∀y,kL ob o y=ob.set i (o,y))/\yD ob o=ob.eraseIdx i
 |(o',x')::r,o,x,h=>by
  unfold xO at h;cases hb:xap o' o
  ·rw[hb]at h;obtain⟨i,h1,h2,h3⟩:=wQ (ob:=r) h;exact⟨i+1,by simpa using h1,fun y=>by unfold kL;rw[hb];simp only[cond_false,List.set_cons_succ,h2 y],by unfold yD;rw[hb];simp only[cond_false,List.eraseIdx_cons_succ,h3]⟩
  ·rw[hb]at h;simp only[cond_true,xaz]at h;have:=z8 hb;subst h;subst this;exact⟨0,rfl,fun y=>by unfold kL;rw[hb];rfl,by unfold yD;rw[hb];rfl⟩
theorem Vd{ob:List (Nat×Od)}{i:Nat}{e:Nat×Od}{R:List MF}(h:ob[i]? =some e):(MS vs ob++R)[i]? =some (Qz vs e):=by grind [MS,xat,xbq]
theorem r9{ob:List (Nat×Od)}{i:Nat}{e e':Nat×Od}{R:List MF}(h:ob[i]? =some e):(MS vs ob++R).set i (Qz vs e')=MS vs (ob.set i e')++R:=by grind [MS,xat,List.set_append_left,List.map_set]
theorem zbP{α:Type _}{β:Type _}(f:α->β):∀(l:List α) (i:Nat),(l.eraseIdx i).map f=(l.map f).eraseIdx i
 |[],i=>by simp
 |_::_,0=>rfl
 |a::l,i+1=>by simp only[List.eraseIdx_cons_succ,xbX,zbP f l i]
theorem UC{ob:List (Nat×Od)}{i:Nat}{e:Nat×Od}{R:List MF}(h:ob[i]? =some e):(MS vs ob++R).eraseIdx i=MS vs (ob.eraseIdx i)++R:=by grind [MS,zbP,xat,List.eraseIdx_append_of_lt_length]
theorem zcG{cx σ:Sg}{o:Nat}{x:Od}(h:Jd cx σ o=some x):(o,x)∈σ.ob\/(o,x)∈cx.ob:=by grind [Jd,wQ,xbx]
theorem ET{cx σ:Sg}{t i:Nat}{d:Dv}(h:get cx σ t i=some d):(t,i,d)∈σ.rg\/(t,i,d)∈cx.rg:=by grind [get,n8]
theorem uY{S:Nat->Prop}{w:World}{cx σ:Sg}{o:Nat}{x:Od}{F:List MF}(hM:yw S (MS vs σ.ob++(MS vs cx.ob++F)) w)(h:Jd cx σ o=some x):(Qz vs (o,x)).p S w:=by
 refine uc.1 hM _ ?_;rcases zcG h with h|h
 ·exact Nm.2 (.inl<|xal.2 ⟨_,h,rfl⟩)
 ·exact Nm.2 (.inr<|Nm.2 (.inl<|xal.2 ⟨_,h,rfl⟩))
end
theorem yi{R:Type}{s t:Ty}{x:s.D}{k:t.D->Option R}{r:R}(h:Ty.cast s t x k=some r):∃e:s=t,k (e▸x)=some r:=by grind [Ty.cast]
theorem yh{R:Type}{b:Bool}{x:Option R}{r:R}(h:kF b x=some r):b=true/\x=some r:=by grind
end
section
open Go.ChangeShapes Go.WideShapes Go.ChangeAt Go.RowKit
def eV(P:Program):Ty->TypeId->Prop
 |.i,T=>P.underlying T=some (.int .i64)
 |.u,T=>P.underlying T=some (.int .u64)
 |.b,T=>P.underlying T=some .bool
 |.l t,T=>∃E,P.underlying T=some (.slice E)/\P.cellsOf E=t.n/\0<t.n/\eV P t E
 |.p s t,T=>∃f0 f1:Field,P.underlying T=some (.struct #[f0,f1])/\P.cellsOf T=s.n+t.n/\f0.offset=0/\f1.offset=s.n/\P.cellsOf f0.type=s.n/\P.cellsOf f1.type=t.n/\eV P s f0.type/\eV P t f1.type
 |.ch,T=>P.underlying T=some (.int .u8)
 |.tx,T=>P.underlying T=some .string
 |.a _ _,_=>False
theorem eV.sl{P:Program}{t:Ty}{T E:TypeId}(h:P.underlying T=some (.slice E))(hc:P.cellsOf E=t.n)(hp:0<t.n)(h1:eV P t E):eV P (.l t) T:=⟨E,h,hc,hp,h1⟩
theorem Bt{w:World}{base n:Nat}{a:Addr}{c:List Value}(h:w.cells? base a n=some c):c.length=n/\∀i v,c[i]? =some v->w.cell? (a.add i)=some v:=by
 unfold World.cells? at h;split at h
 ·have:∀(l:List Nat) (c:List Value),l.mapM (fun i=>w.cell?<|a.add i)=some c->c.length=l.length/\∀(i j:Nat) (v:Value),c[i]? =some v->l[i]? =some j->w.cell? (a.add j)=some v:=by
   intro l
   induction l with
   |nil=>intro c hc;simp at hc;subst hc;exact⟨rfl,fun i j v hv=>by simp at hv⟩
   |cons x l ih=>
    intro c hc;rw[List.mapM_cons]at hc
    cases hx:w.cell? (a.add x)with
    |none=>rw[hx]at hc;simp at hc
    |some y=>
     rw[hx]at hc
     cases hl:l.mapM (fun i=>w.cell?<|a.add i)with
     |none=>rw[hl]at hc;simp at hc
     |some r=>
      rw[hl]at hc;have hc:y::r=c:=by simpa using hc
      subst hc;obtain⟨h1,h2⟩:=ih r hl;refine⟨by simp[h1],fun i j v hv hj=> ?_⟩
      cases i with
      |zero=>simp at hv hj;subst hv;subst hj;exact hx
      |succ i=>exact h2 i j v (by simpa using hv)<|by simpa using hj
  obtain⟨h1,h2⟩:=this _ _ h;refine⟨by simpa using h1,fun i v hv=>h2 i i v hv ?_⟩;have:=(xat.1 hv).1;rw[xby<|by rw[h1]at this;simpa using this]
 ·cases h
theorem RY{w:World}{a:Addr}{v:Value}(h:w.cell? a=some v):a=⟨a.block,a.off,none⟩/\a.block<w.heap.size:=by
 unfold World.cell? at h;split at h
 ·next c _ _ hb=>
  split at h
  ·cases h
  ·next hs=>
   refine⟨?_,(xbj.1 hb).1⟩;obtain⟨b,o,s⟩:=a
   cases s with
   |none=>rfl
   |some x=>simp at hs
 ·cases h
theorem zfV(a:Addr):a.add 0=a:=by grind [Addr.add]
section
variable{H:Type}{enc:TypeId×Value->H}{P:Program}{W:World}{sp:Nat->Bool}{held:Bool}
theorem Iy{t:Ty}{b o:Nat}(hb:b<W.heap.size):∀(len:Nat),(∀i,i<len->∃(c:List Value) (z:t.D),W.cells? 0 (⟨b,o+i*t.n,none⟩:Addr) t.n=some c/\t.rep.p (fun _=>True) z c W)->
 ∃(xs:List t.D) (cs:List Value),xs.length=len/\At W b o cs/\yu t.rep (fun _=>True) xs cs W
 |0,_=>⟨[],[],rfl,⟨hb,fun j v hv=>by simp at hv⟩,rfl⟩
 |len+1,h=>by
  obtain⟨xs,cs,h1,h2,h3⟩:=Iy hb len fun i hi=>h i (by lia);obtain⟨c,z,h4,h5⟩:=h len (by lia);obtain⟨h6,h7⟩:=Bt h4;have hl:=h3.len;rw[h1,Ty.n_rep]at hl;refine⟨xs++[z],cs++c,by simp[h1],⟨hb,fun j v hv=> ?_⟩,h3.append ⟨c,[],by simp,h5,rfl⟩⟩;rcases xce j cs.length with hj|hj
  ·rw[xbq hj]at hv;exact h2.2 j v hv
  ·rw[xcn hj]at hv;have:=h7 _ v hv;rw[qc]at this;rw[<-this];congr 2;lia
theorem fG:∀(t:Ty) {T:TypeId}{n:Nat}{cs:List Value}{x:DataW H×List MemPlace},eV P t T->DataW.trod enc P W 0 sp held n T cs=some x->∃z:t.D,t.rep.p (fun _=>True) z cs W
 |.i,T,n,cs,x,ht,h=>by
  obtain⟨v,rfl,_,hw⟩:=DataW.trod_int ht h;have: -9223372036854775808<=v/\v<=9223372036854775807:=by simpa[Lit.wf,IntKind.min,IntKind.max,xdS,xew]using hw
  exact⟨v,rfl,this.1,this.2⟩
 |.u,T,n,cs,x,ht,h=>by
  obtain⟨v,rfl,_,hw⟩:=DataW.trod_int ht h;have:0<=v/\v<=18446744073709551615:=by simpa[Lit.wf,IntKind.min,IntKind.max,xdS,xew]using hw
  obtain⟨k,rfl⟩:=xaA this.1;exact⟨k,rfl,by lia⟩
 |.ch,T,n,cs,x,ht,h=>by
  obtain⟨v,rfl,_,hw⟩:=DataW.trod_int ht h;have:0<=v/\v<=255:=by simpa[Lit.wf,IntKind.min,IntKind.max,xdS,xew]using hw
  obtain⟨k,rfl⟩:=xaA this.1;exact⟨k,rfl,by lia⟩
 |.tx,T,n,cs,x,ht,h=>by
  obtain⟨s,rfl,_,hs⟩:=DataW.trod_string ht h;exact⟨yO s,s,rfl,rfl,hs⟩
 |.b,T,n,cs,x,ht,h=>by
  obtain⟨v,rfl,_⟩:=DataW.trod_bool ht h;exact⟨v,rfl⟩
 |.l t,T,n,cs,x,ht,h=>by
  obtain⟨E,hu,hc,hf,hE⟩:=ht;rcases DataW.trod_slice hu h with⟨rfl,_⟩|⟨a,len,cap,elems,rest,m,_,rfl,_,_,hj,hd,hg,he,_,_⟩
  ·exact⟨[],_,rfl,Sw.nil⟩
  ·rw[hc]at he;have key:∀i,i<len->∃(c:List Value) (z:t.D),W.cells? 0 (a.add<|i*t.n) t.n=some c/\t.rep.p (fun _=>True) z c W:=by
    intro i hi;have h1:=he i hi;rw[xaa<|by lia]at h1;obtain⟨c,h2,h3⟩:=Option.bind_eq_some_iff.1 h1;obtain⟨z,hz⟩:=fG t hE h3;exact⟨c,z,h2,hz⟩
   rcases xcu len with h0|h0
   ·subst h0;exact⟨[],_,rfl,some a,cap,rfl,xah _,hd,.inl rfl⟩
   ·obtain⟨c,z,h1,h2⟩:=key 0 h0;obtain⟨h3,h4⟩:=Bt h1;have h5:=h4 0 (c[0]'(by lia)) (xaa<|by lia);rw[xcv,zfV,zfV]at h5;obtain⟨ha,hb⟩:=RY h5;rw[ha]at key;obtain⟨xs,cs,g1,g2,g3⟩:=Iy (t:=t) (b:=a.block) (o:=a.off) hb len fun i hi=>by
     have:=key i hi;rw[qc]at this;exact this
    refine⟨xs,_,rfl,some a,cap,by rw[g1],by lia,hd,.inr ⟨a.block,a.off,cs,by rw[<-ha],trivial,g2,g3⟩⟩
 |.p s t,T,n,cs,x,ht,h=>by
  obtain⟨f0,f1,hu,hc,o0,o1,c0,c1,h0,h1⟩:=ht;obtain⟨y0,y1,m,_,hl,g0,g1⟩:=trod_struct2 hu h;rw[o0,c0,List.drop_zero]at g0;rw[o1,c1]at g1;obtain⟨z0,k0⟩:=fG s h0 g0;obtain⟨z1,k1⟩:=fG t h1 g1;refine⟨(z0,z1),cs.take s.n,(cs.drop s.n).take t.n,?_,k0,k1⟩;rw[hc]at hl;have e:(cs.drop s.n).take t.n=cs.drop s.n:=xaQ (by simp;lia);rw[e,xbN]
 |.a _ _,_,_,_,_,ht,_=>ht.elim
theorem SA{t:Ty}{T:TypeId}{v:Value}{d:DataW H}{ps:List MemPlace}(ht:eV P t T)(hv:v=t.rep.val v.cells.toList)(h:DataW.Trod enc P W 0 sp held T v d ps):∃z:t.D,(fV t.rep z v).p (fun _=>True) W:=by
 obtain⟨n,h⟩:=h;obtain⟨z,hz⟩:=fG t ht h;exact⟨z,_,hv,hz⟩
end
theorem TZ{P:Program}{s:VB}(h:y6 P s)(hk:s.bk=0)(hc:s.cod=[.d .b])(x:aa s.dom)(hM:s.M x=some (hc▸true:dm s.cod)){vs:List Value}(hl:vs.length=s.dom.length)(ha:Y5 s.dom x vs=[]){W:World}(hΓ:zA (fun _=>True) (kU P s.dom x vs) W):
 Calls P s.f vs.toArray W fun e W'=>e=.returned (.bool true)/\QA W W':=by
 obtain⟨f,dom,cod,M,bk⟩:=s;simp only at hc hk;subst hc;subst hk;have h1:=h.2 x true hM vs hl W (fun _=>True) [] [] W;simp only[ha,xbA,xbR]at h1;refine(h1 ⟨yq.refl _ _,fun _ _=>trivial,trivial,fun _=>True,fun _ _=>trivial,fun _ _=>trivial,fun m hm=>absurd hm IR,trivial,hΓ⟩).mono ?_;rintro e w' ⟨us,he,hb,hs⟩;obtain⟨hx,_,_,S,_,_,_,_,hf⟩:=hs;refine⟨?_,hx⟩
 match us,hb with
 |[u],_=>
  have:u=.bool true:=eR (show(fV IA true u).p S w' from hf.1);rw[he,this];rfl
end
section
open Go.ChangeShapes Go.WideShapes Go.ChangeAt Go.RowKit
section
variable{H:Type}{enc:TypeId×Value->H}{P:Program}{W:World}{sp:Nat->Bool}{held:Bool}
theorem zhw{r:Reach}{b0:Nat}:∀(t:Ty) {T:TypeId}{v:Value},eV P t T->xef P W r b0 T v->v=t.rep.val v.cells.toList
 |.i,T,v,ht,h=>by obtain⟨n,rfl⟩:=okWide_int ht h;rfl
 |.u,T,v,ht,h=>by obtain⟨n,rfl⟩:=okWide_int ht h;rfl
 |.ch,T,v,ht,h=>by obtain⟨n,rfl⟩:=okWide_int ht h;rfl
 |.tx,T,v,ht,h=>by
  have ht:P.underlying T=some .string:=ht;simp only[xef,ht,Cell.okWide]at h;unfold Cell.ok at h;rw[ht]at h;cases v<;>simp at h;rfl
 |.b,T,v,ht,h=>by
  have ht:P.underlying T=some .bool:=ht;simp only[xef,ht,Cell.okWide]at h;unfold Cell.ok at h;rw[ht]at h;cases v<;>simp at h;rfl
 |.l t,T,v,ht,h=>by
  obtain⟨E,ht,_⟩:=ht;simp only[xef,ht,Cell.okWide]at h;unfold Cell.ok at h;rw[ht]at h;cases v<;>simp at h;rfl
 |.p s t,T,v,ht,h=>by
  obtain⟨f0,f1,ht,_⟩:=ht;simp only[xef,ht]at h;obtain⟨cs,rfl,_⟩:=h;show Value.agg cs=Value.agg cs.toList.toArray;simp
 |.a _ _,T,v,ht,_=>ht.elim
theorem Tm{r:Reach}{b0:Nat}{t:Ty}{T:TypeId}{v:Value}{d:DataW H}{ps:List MemPlace}(ht:eV P t T)(hv:xef P W r b0 T v)(h:DataW.Trod enc P W 0 sp held T v d ps):∃z:t.D,(fV t.rep z v).p (fun _=>True) W:=
 SA ht (zhw t ht hv) h
def Ty.ok:(t:Ty)->t.D->Prop
 |.i,(x:Int)=> -9223372036854775808<=x/\x<=9223372036854775807
 |.u,(x:Nat)=>x<18446744073709551616
 |.b,_=>True
 |.ch,(x:Nat)=>x<256
 |.tx,xs=>xaI xs<=9223372036854775807/\∀x,List.Mem x xs->x<256
 |.l t,xs=>xaI xs<=9223372036854775807/\∀x,List.Mem x xs->t.ok x
 |.p s t,x=>s.ok x.1/\t.ok x.2
 |.a _ t,xs=>∀x,List.Mem x xs->t.ok x
theorem tP{α:Type}{e:zZ α}{S:Nat->Prop}{w:World}{q:α->Prop}(hq:∀x cs,e.p S x cs w->q x):∀{xs:List α}{cs:List Value},yu e S xs cs w->∀x,List.Mem x xs->q x
 |[],_,_,x,hx=>nomatch hx
 |y::ys,_,⟨c,r,_,hc,hr⟩,x,hx=>by
  cases hx with
  |head=>exact hq _ _ hc
  |tail _ hx=>exact tP hq hr x hx
theorem sN:∀(t:Ty) {S:Nat->Prop}{z:t.D}{cs:List Value}{w:World},t.rep.p S z cs w->t.ok z
 |.i,_,_,_,_,h=>h.2
 |.u,_,_,_,_,h=>h.2
 |.b,_,_,_,_,_=>trivial
 |.ch,_,_,_,_,h=>h.2
 |.tx,_,xs,_,_,h=>by
  obtain⟨s,_,h1,h2⟩:=h;have h3:=qs s;have h1:yO s=xs:=h1;refine⟨by show xaI (α:=Nat) xs<=_;rw[<-h1,h3];exact h2,fun x hx=> ?_⟩;have hx:x∈yO s:=by rw[h1];exact hx
  obtain⟨b,_,rfl⟩:=xal.1 hx;exact UInt8.toNat_lt _
 |.l t,S,xs,_,w,h=>by
  obtain⟨v,_,ao,cap,_,h1,h2,h3⟩:=h;refine⟨xam h1 h2,?_⟩;rcases h3 with h3|⟨b,o,cs,_,_,_,h4⟩
  ·have h3:xs=([]:List t.D):=h3;subst h3;exact fun x hx=>nomatch hx
  ·exact tP (fun x cs hx=>sN t hx) h4
 |.p s t,S,z,_,w,h=>by
  obtain⟨c,d,_,h1,h2⟩:=h;exact⟨sN s h1,sN t h2⟩
 |.a k t,S,xs,_,w,h=>by
  obtain⟨_,h⟩:=h;exact tP (fun x cs hx=>sN t hx) h
def zcM:(dom:List AM)->aa dom->Prop
 |[],_=>True
 |.d t::r,x=>t.ok x.1/\zcM r x.2
 |_::r,x=>zcM r x.2
def GR(P:Program):List AM->List TypeId->Prop
 |[],[]=>True
 |.d t::r,T::Ts=>eV P t T/\GR P r Ts
 |_,_=>False
theorem OX:∀{dom:List AM}{Ts:List TypeId},GR P dom Ts->dom.length=Ts.length
 |[],[],_=>rfl
 |.d t::r,T::Ts,h=>by simp[OX h.2]
 |.d _::_,[],h=>h.elim
 |[],_::_,h=>h.elim
 |.q _::_,_,h=>h.elim
 |.own _ _::_,_,h=>h.elim
 |.fn _ _::_,_,h=>h.elim
theorem zaa:∀{dom:List AM}{Ts:List TypeId},GR P dom Ts->∀(x:aa dom) (vs:List Value),Y5 dom x vs=[]
 |[],_,_,_,_=>rfl
 |.d t::r,T::Ts,h,x,vs=>by show[]++Y5 r x.2 vs.tail=[];rw[zaa h.2];rfl
 |.d _::_,[],h,_,_=>h.elim
 |.q _::_,_,h,_,_=>h.elim
 |.own _ _::_,_,h,_,_=>h.elim
 |.fn _ _::_,_,h,_,_=>h.elim
theorem Bm{r:Reach}{b0:Nat}:∀{dom:List AM}{Ts:List TypeId}{vs:List Value}{ds:List (DataW H)}{ps:List MemPlace},GR P dom Ts->(∀(j:Nat) t v,Ts[j]? =some t->vs[j]? =some v->xef P W r b0 t v)->xeH enc P W 0 sp held Ts vs ds ps->
 vs.length=Ts.length/\∃x:aa dom,zcM dom x/\zA (fun _=>True) (kU P dom x vs) W
 |[],[],[],[],_,_,_,_=>⟨rfl,(),trivial,trivial⟩
 |.d t::dom,T::Ts,v::vs,d::ds,ps,h,hv,ha=>by
  obtain⟨p,q,h1,h2,_⟩:=ha;obtain⟨hl,x,hc,hx⟩:=Bm (vs:=vs) (ds:=ds) h.2 (fun j t' v' ht hd=>hv (j+1) t' v' (by simpa using ht)<|by simpa using hd) h2;obtain⟨z,hz⟩:=Tm h.1 (hv 0 T v rfl rfl) h1;obtain⟨cs,he,hb⟩:=hz;exact⟨by simp[hl],(z,x),⟨sN t hb,hc⟩,⟨cs,he,hb⟩,hx⟩
 |[],[],_::_,_,_,_,_,h=>h.elim
 |[],[],[],_::_,_,_,_,h=>h.elim
 |.d _::_,_::_,[],_,_,_,_,h=>h.elim
 |.d _::_,_::_,_::_,[],_,_,_,h=>h.elim
 |.d _::_,[],_,_,_,h,_,_=>h.elim
 |[],_::_,_,_,_,h,_,_=>h.elim
 |.q _::_,_,_,_,_,h,_,_=>h.elim
 |.own _ _::_,_,_,_,_,h,_,_=>h.elim
 |.fn _ _::_,_,_,_,_,h,_,_=>h.elim
theorem SN{W':World}(hx:QA W W'){p:MemPlace}(hp:p.block<W.heap.size):W.sameAt W' p:=by
 cases p with
 |cell b off=>exact World.cell?_of_block (a:=⟨b,off,none⟩)<|hx.block b hp trivial
 |map b=>exact hx.block b hp trivial
theorem bL{W':World}{sp':Nat->Bool}(hl:laidOutB P=true):∀{Ts:List TypeId}{vs:List Value}{ds:List (DataW H)}{ps:List MemPlace},(∀t∈Ts,P.readableRec t=true/\t<P.types.size)->xeH enc P W 0 (fun _=>true) true Ts vs ds ps->
 (∀p∈ps,W.sameAt W' p)->(∀p∈ps,sp' p.block=true)->xeH enc P W' 0 sp' true Ts vs ds ps
 |[],[],[],_,_,h,_,_=>h
 |T::Ts,v::vs,d::ds,ps,hr,h,h1,h2=>by
  obtain⟨p,q,g1,g2,rfl⟩:=h;have hT:=hr T<|FS
  exact⟨p,q,Go.WideElems.Trod_stays hl hT.1 hT.2 g1 (fun x hx=>h1 x<|Nm.2 (.inl hx))<|fun x hx=>h2 x<|Nm.2 (.inl hx),
   bL hl (fun t ht=>hr t<|UV _ ht) g2 (fun x hx=>h1 x<|Nm.2 (.inr hx)) (fun x hx=>h2 x<|Nm.2 (.inr hx)),rfl⟩
 |[],[],_::_,_,_,h,_,_=>h.elim
 |[],_::_,_,_,_,h,_,_=>h.elim
 |_::_,[],_,_,_,h,_,_=>h.elim
 |_::_,_::_,[],_,_,h,_,_=>h.elim
end
theorem zeT{H:Type}{enc:TypeId×Value->H}{P:Program}{f:Func}{s:ChangeSpec}{apart fresh ha:Bool}{W:World}{base:Nat}{args:Array Value}{ds gs:List (DataW H)}{before:List MemPlace}{sg:VB}
 (hW:DataW.Whole enc P f.params.toList s.vars apart W args.toList ds gs before) (hb:s.vars=[]) (hi:∀(j:Nat) t v,f.params[j]? =some t->args[j]? =some v->xef P W .any base t v)
 (hl:laidOutB P=true) (hr:∀t∈f.params.toList,P.readableRec t=true/\t<P.types.size) (he:GR P sg.dom f.params.toList) (hc:sg.cod=[.d .b]) (hS:y6 P sg) (hM:∀x,zcM sg.dom x->sg.M x=some (hc▸true:dm sg.cod)) {B:TypeId} (hB:f.resultTypes= #[B]) (hm:P.underlying B=some .bool)
 (hg:s.fn H (ds++gs)={results:=[.lit (.bool true)],args:=ds}) (hk:sg.bk=0:=by rfl):
 Calls P sg.f args W fun e W'=>∃v,e=.returned v/\s.post enc P f apart fresh ha false W args v W':=by
 obtain⟨p,q,hA,hV,hn,hw,hy⟩:=id hW;rw[hb]at hV
 cases gs with
 |cons g gs=>exact hV.elim
 |nil=>
  have hq:q=[]:=hV;subst hq;obtain⟨hj,x,ho,hx⟩:=Bm (vs:=args.toList) he (fun j t v ht hv=>hi j t v (by simpa using ht)<|by simpa using hv) hA;refine(TZ hS hk hc x (hM x ho) (vs:=args.toList) (by rw[hj,OX he]) (zaa he x _) hx).mono ?_;rintro e W' ⟨rfl,hf⟩;refine⟨_,rfl,TS (pa:=before) (pv:=[]) hW (fun b sp hd=> ?_) (fun sp hs=> ?_) (fun sp _=> ?_) (by simp) hf⟩
  ·rw[hB,hg];exact⟨[],[],shut_bool hm _,rfl,rfl⟩
  ·rw[hg];have hu:xeH enc P W 0 (fun _=>true) true f.params.toList args.toList ds before:=by rw[hn,xbR];exact hA
   exact bL hl hr hu (fun p hp=>SN hf<|hW.lt p hp) hs
  ·rw[hb,hg];rfl
end
section
def zjP:Operand->Option Tmp
 |.tmp t=>some t
 |_=>none
def yA(op:Op):List Tmp:=op.operands.toList.filterMap zjP
def Lk(P:Program)(vs:Nat->Value)(env:yN)(S:Nat->Prop)(w:World)(cx σ:Sg)(t:Tmp):Prop:=
 ∀i d,get cx σ t i=some d->(xK P vs d (env t) i).p S w
def Z8(P:Program)(vs:Nat->Value)(env:yN)(S:Nat->Prop)(w:World)(cx σ:Sg)(x:Operand):Prop:=∀t,zjP x=some t->Lk P vs env S w cx σ t
def ES(P:Program)(o:Oper)(cx σ:Sg)(F:List MF)(l:List (Nat×Dv)):Prop:=
 ∀(env:yN) (w:World) (S:Nat->Prop) (vs:Nat->Value),(∀k,w.heap.size<=k->S k)->yw S (MS vs σ.ob++(MS vs cx.ob++F)) w->(∀t∈yA o.op,Lk P vs env S w cx σ t)->
  kv P o env w (fun v w'=>QA w w'/\∀e∈l,(xK P vs e.2 v e.1).p S w')
section
variable{P:Program}{cf:Cf}{cx σ:Sg}{F:List MF}{vs:Nat->Value}{env:yN}{S:Nat->Prop}{w:World}{R:Type}{r:R}
 {d:Option Tmp}{ty t yt:TypeId}{pos:String}{aft:Array Edge}{g:Option (Nat×Bool)}{x y:Operand}
theorem yK{op:Op}(h:∀t∈yA op,Lk P vs env S w cx σ t)(hx:x∈op.operands.toList):Z8 P vs env S w cx σ x:=
 fun t ht=>h t<|xff.2 ⟨x,hx,ht⟩
theorem zk{v:Dv}(h:xX cx σ x=some v)(hl:Z8 P vs env S w cx σ x):(vv P vs v<|ev env x).p S w:=by
 cases x with
 |tmp t=>exact hl t rfl 0 v h
 |const c=>
  simp only[xX]at h;unfold cv at h;split at h
  ·split at h
   ·next hx=>cases h;exact xM hx
   ·cases h
  ·split at h
   ·next x hx=>
    cases h;have:(x.toNat:Int)=x:=xcZ hx.1;have h2:x.toNat<18446744073709551616:=by lia
    have:=qN (S:=S) (w:=w) h2;rwa[‹(x.toNat:Int)=x›]at this
   ·cases h
  ·cases h;exact rfl
  ·split at h
   ·next x hx=>
    cases h;have:(x.toNat:Int)=x:=xcZ hx.1;have h2:x.toNat<256:=by lia
    have:=B8 (S:=S) (w:=w) h2;rwa[‹(x.toNat:Int)=x›]at this
   ·cases h
  ·split at h
   ·next hx=>cases h;exact Hx rfl hx
   ·cases h
  ·cases h;exact rfl
  ·cases h;exact rfl
  ·cases h
 |global g=>cases h
 |func f=>cases h;exact⟨[],rfl,rfl,trivial⟩
theorem Bq{v:Dv}{u:Value}{p:PD}(h:zdv v=some p)(hv:(vv P vs v u).p S w):(fV p.t.rep p.x u).p S w:=by
 cases v<;>simp only[zdv,xaz,reduceCtorEq]at h
 ·subst h;exact hv
 ·subst h;rw[show u=_ from hv];exact n4
theorem gi{p:PD}(h:pd cx σ x=some p)(hl:Z8 P vs env S w cx σ x):(fV p.t.rep p.x<|ev env x).p S w:=by
 unfold pd at h
 cases hv:xX cx σ x with
 |none=>rw[hv]at h;cases h
 |some v=>rw[hv]at h;exact Bq h<|zk hv hl
theorem xW{a:Int}(h:pd cx σ x=some ⟨.i,a⟩)(hl:Z8 P vs env S w cx σ x):ev env x=.int .i64 a/\VE a:=zhx<|gi h hl
theorem xH{a:Nat}(h:pd cx σ x=some ⟨.u,a⟩)(hl:Z8 P vs env S w cx σ x):ev env x=.int .u64 (a:Int)/\JE a:=zcE<|gi h hl
theorem Xj{a:Nat}(h:pd cx σ x=some ⟨.ch,a⟩)(hl:Z8 P vs env S w cx σ x):ev env x=.int .u8 (a:Int)/\a<256:=zjv<|gi h hl
theorem P9{a:List Nat}(h:pd cx σ x=some ⟨.tx,a⟩)(hl:Z8 P vs env S w cx σ x):∃s:ByteArray,ev env x=.string s/\yO s=a/\s.size<=9223372036854775807:=GH<|gi h hl
theorem zeG{a:Bool}(h:pd cx σ x=some ⟨.b,a⟩)(hl:Z8 P vs env S w cx σ x):ev env x=.bool a:=eR<|gi h hl
theorem zaM{v:Option Dv}{t:Ty}{k:t.D->Option R}(h:AH v t k=some r):∃y:t.D,k y=some r/\∀(P:Program) vs S w (d:Dv) u,v=some d->(vv P vs d u).p S w->(fV t.rep y u).p S w:=by
 unfold AH at h;split at h
 ·next=>
  cases t<;>simp only[reduceCtorEq]at h;exact⟨_,h,fun P vs S w d u hd hh=>by cases hd;rw[show u=_ from hh];exact zc9⟩
 ·next v' hv=>
  split at h
  ·next p hp=>
   obtain⟨e,h⟩:=yi h;subst e;exact⟨_,h,fun P vs S w d u hd hh=>by cases hd;exact Bq hp hh⟩
  ·cases h
 ·cases h
theorem XZ{t:Ty}{k:t.D->Option R}(h:AH (xX cx σ x) t k=some r):∃y:t.D,k y=some r/\∀(P:Program) vs env S w,Z8 P vs env S w cx σ x->(fV t.rep y<|ev env x).p S w:=by
 obtain⟨y,h1,h2⟩:=zaM h;refine⟨y,h1,fun P vs env S w hl=> ?_⟩
 cases hv:xX cx σ x with
 |none=>rw[hv]at h;cases h
 |some v=>exact h2 P vs S w v _ hv<|zk hv hl
theorem zD{o:Oper}{l:List (Nat×Dv)}(h:∀env w S vs,(∀t∈yA o.op,Lk P vs env S w cx σ t)->∃v,(execOp (ev env) o).run P w=.ok (.value v) w/\∀e∈l,(xK P vs e.2 v e.1).p S w):ES P o cx σ F l:=by
 intro env w S vs hS hM hl;obtain⟨v,h1,h2⟩:=h env w S vs hl;exact kv.of_value h1 ⟨yq.refl _ _,h2⟩
theorem zo{v:Value}{dv:Dv}(h:(vv P vs dv v).p S w):∀e∈[(0,dv)],(xK P vs e.2 v e.1).p S w:=by
 intro e he;rw[xai]at he;subst he;exact h
theorem jR{o:Oper}{l:List (Nat×Dv)}(h:∀env w S vs,yw S (MS vs σ.ob++(MS vs cx.ob++F)) w->(∀t∈yA o.op,Lk P vs env S w cx σ t)->∃(U:Type) (val:U->Value) (facts:U->List FF) (ok:U->Prop) (Γ:List FF) (ms:List MF),
 Eu P o env ms Γ val facts ok/\yw S ms w/\zA S Γ w/\∀u w',ok u->zA S (facts u) w'->∀e∈l,(xK P vs e.2 (val u) e.1).p S w'):ES P o cx σ F l:=by
 intro env w S vs hS hM hl;obtain⟨U,val,facts,ok,Γ,ms,h1,ha,h2,h3⟩:=h env w S vs hM hl;refine(h1 w S hS ha h2).mono ?_;rintro v w' ⟨u,rfl,hu,hx,hf⟩;exact⟨hx,h3 u w' hu hf⟩
theorem Gu:∀(f i:Nat) (t:Nat) (e:Nat×Dv),e∈zfi cx σ t f i->get cx σ t e.1=some e.2
 |0,_,_,_,h=>absurd h IR
 |f+1,i,t,e,h=>by
  unfold zfi at h;split at h
  ·next d hd=>
   rcases xac.1 h with rfl|h
   ·exact hd
   ·exact Gu f (i+1) t e h
  ·exact absurd h IR
theorem zb5{op:Op}(ha:op=.move x\/op=.assign x){k:List (Nat×Dv)->Option R}(h:O9 cx σ x k=some r):∃l,k l=some r/\ES P ⟨d,op,ty,pos,aft,g⟩ cx σ F l:=by
 have hr:∀env w,(execOp (ev env) ⟨d,op,ty,pos,aft,g⟩).run P w=.ok (.value<|ev env x) w:=fun env w=>by rcases ha with rfl|rfl<;>exact b8 rfl w
 have hm:x∈op.operands.toList:=by rcases ha with rfl|rfl<;>simp[xaM]
 unfold O9 at h;split at h
 ·next v hv=>exact⟨_,h,zD fun env w S vs hl=>⟨_,hr env w,zo<|zk hv<|yK hl hm⟩⟩
 ·unfold zj4 at h;split at h
  ·next t hx=>
   split at h
   ·cases h
   ·next l0 l hb=>
    exact⟨_,h,zD fun env w S vs hl=>⟨_,hr env w,fun e he=>yK hl hm t rfl _ _<|Gu _ _ _ _ he⟩⟩
  ·cases h
theorem zjo{i:Nat}{k:List (Nat×Dv)->Option R}(h:zhE cx σ x i k=some r):∃l,k l=some r/\ES P ⟨d,.extract x i,ty,pos,aft,g⟩ cx σ F l:=by
 unfold zhE at h;split at h
 ·next t=>
  split at h
  ·next v hv=>
   refine⟨_,h,?_⟩;intro env w S vs hS hM hl;obtain⟨us,u,h1,h2,h3⟩:=yK hl (x:=.tmp t) (by simp[xaM]) t rfl (i+1) v hv;exact kv.of_value (v:=u) (b8 (by simp only[pv,ev,h1];exact h2) w) ⟨yq.refl _ _,zo h3⟩
  ·cases h
 ·cases h
theorem mv1{k:List (Nat×Dv)->Option R}(h:zfx cx σ x k=some r):∃v,xX cx σ x=some v/\k [(0,v)]=some r:=by grind [zfx]
theorem zgo{c:Operand}{k:List (Nat×Dv)->Option R}(h:SG cx σ c x y k=some r):∃l,k l=some r/\ES P ⟨d,.pick c x y,ty,pos,aft,g⟩ cx σ F l:=by
 unfold SG at h;split at h
 ·next hc=>
  obtain⟨v,hv,h⟩:=mv1 h;exact⟨_,h,zD fun env w S vs hl=>⟨_,zdx (zk hc<|yK hl<|by simp[xaM]) rfl w,zo<|zk hv<|yK hl<|by simp[xaM]⟩⟩
 ·next hc=>
  obtain⟨v,hv,h⟩:=mv1 h;exact⟨_,h,zD fun env w S vs hl=>⟨_,zdm (zk hc<|yK hl<|by simp[xaM]) rfl w,zo<|zk hv<|yK hl<|by simp[xaM]⟩⟩
 ·cases h
theorem zjA{k:List (Nat×Dv)->Option R}(h:zhr cx σ x k=some r):∃l,k l=some r/\ES P ⟨d,.unOp .not t x,ty,pos,aft,g⟩ cx σ F l:=by
 unfold zhr at h;split at h
 ·next b hb=>exact⟨_,h,zD fun env w S vs hl=>⟨_,zfR (zk hb<|yK hl<|by simp[xaM]) w,zo<|by exact rfl⟩⟩
 ·next b hb=>exact⟨_,h,zD fun env w S vs hl=>⟨_,zfR (eR<|zk hb<|yK hl<|by simp[xaM]) w,zo<|by exact n4⟩⟩
 ·cases h
theorem zku{k:List (Nat×Dv)->Option R}(h:zgZ cx σ x k=some r):∃l,k l=some r/\ES P ⟨d,.unOp .neg t x,ty,pos,aft,g⟩ cx σ F l:=by
 unfold zgZ at h;split at h
 ·next a ha=>
  obtain⟨z,hz,hr,h⟩:=Vg h;exact⟨_,h,zD fun env w S vs hl=>⟨_,zfB (xW ha<|yK hl<|by simp[xaM]).1 (Ta hz hr) w,zo<|xM hr⟩⟩
 ·next a ha=>
  obtain⟨z,hz,h⟩:=xq h;exact⟨_,h,zD fun env w S vs hl=>by
   obtain⟨h1,h2⟩:=xH ha (yK hl<|by simp[xaM]);exact⟨_,zfB h1 (db hz<|zg0 h2) w,zo<|qN<|Xd hz⟩⟩
 ·cases h
theorem Lj{p:Prop}[Decidable p]{k:List (Nat×Dv)->Option R}(h:(if p then k [(0,.kb true)]else k [(0,.kb false)])=some r):k [(0,.kb<|decide p)]=some r:=by grind
theorem kbN{p:Prop}[Decidable p]{k:List (Nat×Dv)->Option R}(h:(if p then k [(0,.kb false)]else k [(0,.kb true)])=some r):k [(0,.kb (!decide p))]=some r:=by grind
theorem zk6{bo:BinOp}{a c:Int}{k:List (Nat×Dv)->Option R}(h:arI bo a c (fun v=>k [(0,v)])=some r)(ha:pd cx σ x=some ⟨.i,a⟩)(hc:pd cx σ y=some ⟨.i,c⟩):
 ∃l,k l=some r/\ES P ⟨d,.binOp bo t x y yt,ty,pos,aft,g⟩ cx σ F l:=by
 have hx:∀{vs env S w},(∀t'∈yA (.binOp bo t x y yt),Lk P vs env S w cx σ t')->Z8 P vs env S w cx σ x:=fun hl=>yK hl (by simp[xaM]);have hy:∀{vs env S w},(∀t'∈yA (.binOp bo t x y yt),Lk P vs env S w cx σ t')->Z8 P vs env S w cx σ y:=fun hl=>yK hl (by simp[xaM]);cases bo<;>simp only[arI,reduceCtorEq]at h
 case add=>obtain⟨z,hz,hr,h⟩:=Vg h;exact⟨_,h,zD fun env w S vs hl=>⟨_,sI (xW ha<|hx hl).1 (xW hc<|hy hl).1 (Ta hz hr) w,zo<|xM hr⟩⟩
 case sub=>obtain⟨z,hz,hr,h⟩:=Vg h;exact⟨_,h,zD fun env w S vs hl=>⟨_,zcf (xW ha<|hx hl).1 (xW hc<|hy hl).1 (Ta hz hr) w,zo<|xM hr⟩⟩
 case mul=>obtain⟨z,hz,hr,h⟩:=Vg h;exact⟨_,h,zD fun env w S vs hl=>⟨_,zfD (xW ha<|hx hl).1 (xW hc<|hy hl).1 (Ta hz hr) w,zo<|xM hr⟩⟩
 case quo=>obtain⟨h0,h⟩:=kG h;obtain⟨z,hz,hr,h⟩:=Vg h;exact⟨_,h,zD fun env w S vs hl=>⟨_,zfT (xW ha<|hx hl).1 (xW hc<|hy hl).1 h0 (Ta hz hr) w,zo<|xM hr⟩⟩
 case rem=>obtain⟨h0,h⟩:=kG h;obtain⟨z,hz,h⟩:=xq h;exact⟨_,h,zD fun env w S vs hl=>⟨_,zf4 (xW ha<|hx hl).1 (xW hc<|hy hl).1 h0 hz.symm w,zo<|xM<|zh4 (xW ha<|hx hl).2 hz⟩⟩
 case and=>obtain⟨z,hz,h⟩:=xq h;exact⟨_,h,zD fun env w S vs hl=>⟨_,zfN (xW ha<|hx hl).1 (xW hc<|hy hl).1 (zew.trans hz.symm) w,zo<|xM<|zcv hz<|zgu _ _⟩⟩
 case or=>obtain⟨z,hz,h⟩:=xq h;exact⟨_,h,zD fun env w S vs hl=>⟨_,zji (xW ha<|hx hl).1 (xW hc<|hy hl).1 (zhY.trans hz.symm) w,zo<|xM<|zcv hz<|zjL _ _⟩⟩
 case shr=>obtain⟨h0,h⟩:=kG h;obtain⟨z,hz,h⟩:=xq h;exact⟨_,h,zD fun env w S vs hl=>⟨_,sB (xW ha<|hx hl).1 (xW hc<|hy hl).1 h0 hz.symm w,zo<|xM<|zbw (xW ha<|hx hl).2 hz⟩⟩
 case shl=>obtain⟨h0,h⟩:=kG h;obtain⟨z,hz,hr,h⟩:=Vg h;exact⟨_,h,zD fun env w S vs hl=>⟨_,Ow (xW ha<|hx hl).1 (xW hc<|hy hl).1 h0 (Ta hz hr) w,zo<|xM hr⟩⟩
 case lss=>exact⟨[(0,.kb<|decide<|a<c)],Lj h,zD fun env w S vs hl=>⟨_,SL (xW ha<|hx hl).1 (xW hc<|hy hl).1 w,zo<|by exact rfl⟩⟩
 case leq=>exact⟨[(0,.kb<|decide<|a<=c)],Lj h,zD fun env w S vs hl=>⟨_,TR (xW ha<|hx hl).1 (xW hc<|hy hl).1 w,zo<|by exact rfl⟩⟩
 case gtr=>exact⟨[(0,.kb<|decide<|c<a)],Lj h,zD fun env w S vs hl=>⟨_,zcP (xW ha<|hx hl).1 (xW hc<|hy hl).1 w,zo<|by exact rfl⟩⟩
 case geq=>exact⟨[(0,.kb<|decide<|c<=a)],Lj h,zD fun env w S vs hl=>⟨_,zc1 (xW ha<|hx hl).1 (xW hc<|hy hl).1 w,zo<|by exact rfl⟩⟩
 case eql=>exact⟨[(0,.kb<|decide<|a=c)],Lj h,zD fun env w S vs hl=>⟨_,SX (xW ha<|hx hl).1 (xW hc<|hy hl).1 w,zo<|by exact rfl⟩⟩
 case neq=>exact⟨[(0,.kb (!decide (a=c)))],kbN h,zD fun env w S vs hl=>⟨_,zaE (xW ha<|hx hl).1 (xW hc<|hy hl).1 w,zo<|by exact rfl⟩⟩
theorem zkM{bo:BinOp}{a c:Nat}{k:List (Nat×Dv)->Option R}(h:(match bo with
 |.shr=>Sk .shr a c<|fun v=>k [(0,v)]
 |.shl=>Sk .shl a c<|fun v=>k [(0,v)]
 |bo=>arU bo a c<|fun v=>k [(0,v)])=some r) (ha:pd cx σ x=some ⟨.u,a⟩) (hc:pd cx σ y=some ⟨.u,c⟩):
 ∃l,k l=some r/\ES P ⟨d,.binOp bo t x y yt,ty,pos,aft,g⟩ cx σ F l:=by
 have hx:∀{vs env S w},(∀t'∈yA (.binOp bo t x y yt),Lk P vs env S w cx σ t')->Z8 P vs env S w cx σ x:=fun hl=>yK hl (by simp[xaM]);have hy:∀{vs env S w},(∀t'∈yA (.binOp bo t x y yt),Lk P vs env S w cx σ t')->Z8 P vs env S w cx σ y:=fun hl=>yK hl (by simp[xaM]);split at h
 ·simp only[Sk]at h;obtain⟨z,hz,h⟩:=xq h;exact⟨_,h,zD fun env w S vs hl=>⟨_,sB (xH ha<|hx hl).1 (xH hc<|hy hl).1 (xde _) (Rf hz eY) w,zo<|qN<|oU (xH ha<|hx hl).2 hz⟩⟩
 ·simp only[Sk]at h;obtain⟨z,hz,h⟩:=xq h;exact⟨_,h,zD fun env w S vs hl=>⟨_,Ow (xH ha<|hx hl).1 (xH hc<|hy hl).1 (xde _) (db hz Oy) w,zo<|qN<|Xd hz⟩⟩
 ·next hb hd=>
  cases bo<;>simp only[arU,reduceCtorEq]at h
  case add=>obtain⟨z,hz,h⟩:=xq h;exact⟨_,h,zD fun env w S vs hl=>⟨_,sI (xH ha<|hx hl).1 (xH hc<|hy hl).1 (db hz zfc) w,zo<|qN<|Xd hz⟩⟩
  case sub=>obtain⟨z,hz,h⟩:=xq h;exact⟨_,h,zD fun env w S vs hl=>⟨_,zcf (xH ha<|hx hl).1 (xH hc<|hy hl).1 (db hz<|zeb<|xcS (xH hc<|hy hl).2) w,zo<|qN<|Xd hz⟩⟩
  case mul=>obtain⟨z,hz,h⟩:=xq h;exact⟨_,h,zD fun env w S vs hl=>⟨_,zfD (xH ha<|hx hl).1 (xH hc<|hy hl).1 (db hz zfm) w,zo<|qN<|Xd hz⟩⟩
  case quo=>obtain⟨h0,h⟩:=kG h;obtain⟨z,hz,h⟩:=xq h;exact⟨_,h,zD fun env w S vs hl=>⟨_,zfT (xH ha<|hx hl).1 (xH hc<|hy hl).1 (zi6 h0) (db hz<|P2 (xH ha<|hx hl).2) w,zo<|qN<|oU (xH ha<|hx hl).2 hz⟩⟩
  case rem=>obtain⟨h0,h⟩:=kG h;obtain⟨z,hz,h⟩:=xq h;exact⟨_,h,zD fun env w S vs hl=>⟨_,zf4 (xH ha<|hx hl).1 (xH hc<|hy hl).1 (zi6 h0) (Rf hz zjQ) w,zo<|qN<|zgV (xH ha<|hx hl).2 hz⟩⟩
  case and=>obtain⟨z,hz,h⟩:=xq h;exact⟨_,h,zD fun env w S vs hl=>⟨_,zfN (xH ha<|hx hl).1 (xH hc<|hy hl).1 (db hz<|zeD (xH ha<|hx hl).2 (xH hc<|hy hl).2) w,zo<|qN<|zgI hz<|ed (xH ha<|hx hl).2⟩⟩
  case or=>obtain⟨z,hz,h⟩:=xq h;exact⟨_,h,zD fun env w S vs hl=>⟨_,zji (xH ha<|hx hl).1 (xH hc<|hy hl).1 (db hz<|zhL (xH ha<|hx hl).2 (xH hc<|hy hl).2) w,zo<|qN<|zgI hz<|og (xH ha<|hx hl).2 (xH hc<|hy hl).2⟩⟩
  case lss=>exact⟨[(0,.kb<|decide<|(a:Int)<(c:Int))],Lj h,zD fun env w S vs hl=>⟨_,SL (xH ha<|hx hl).1 (xH hc<|hy hl).1 w,zo<|by exact rfl⟩⟩
  case leq=>exact⟨[(0,.kb<|decide<|(a:Int)<=(c:Int))],Lj h,zD fun env w S vs hl=>⟨_,TR (xH ha<|hx hl).1 (xH hc<|hy hl).1 w,zo<|by exact rfl⟩⟩
  case gtr=>exact⟨[(0,.kb<|decide<|(c:Int)<(a:Int))],Lj h,zD fun env w S vs hl=>⟨_,zcP (xH ha<|hx hl).1 (xH hc<|hy hl).1 w,zo<|by exact rfl⟩⟩
  case geq=>exact⟨[(0,.kb<|decide<|(c:Int)<=(a:Int))],Lj h,zD fun env w S vs hl=>⟨_,zc1 (xH ha<|hx hl).1 (xH hc<|hy hl).1 w,zo<|by exact rfl⟩⟩
  case eql=>exact⟨[(0,.kb<|decide<|(a:Int)=(c:Int))],Lj h,zD fun env w S vs hl=>⟨_,SX (xH ha<|hx hl).1 (xH hc<|hy hl).1 w,zo<|by exact rfl⟩⟩
  case neq=>exact⟨[(0,.kb (!decide ((a:Int)=(c:Int))))],kbN h,zD fun env w S vs hl=>⟨_,zaE (xH ha<|hx hl).1 (xH hc<|hy hl).1 w,zo<|by exact rfl⟩⟩
theorem zlm{bo:BinOp}{a:Nat}{c:Int}{k:List (Nat×Dv)->Option R}(h:shU bo a c (fun v=>k [(0,v)])=some r)(ha:pd cx σ x=some ⟨.u,a⟩)(hc:pd cx σ y=some ⟨.i,c⟩):
 ∃l,k l=some r/\ES P ⟨d,.binOp bo t x y yt,ty,pos,aft,g⟩ cx σ F l:=by
 have hx:∀{vs env S w},(∀t'∈yA (.binOp bo t x y yt),Lk P vs env S w cx σ t')->Z8 P vs env S w cx σ x:=fun hl=>yK hl (by simp[xaM]);have hy:∀{vs env S w},(∀t'∈yA (.binOp bo t x y yt),Lk P vs env S w cx σ t')->Z8 P vs env S w cx σ y:=fun hl=>yK hl (by simp[xaM]);unfold shU at h;split at h
 ·obtain⟨h0,h⟩:=kG h;obtain⟨z,hz,h⟩:=xq h;exact⟨_,h,zD fun env w S vs hl=>⟨_,sB (xH ha<|hx hl).1 (xW hc<|hy hl).1 h0 (Rf hz eY) w,zo<|qN<|oU (xH ha<|hx hl).2 hz⟩⟩
 ·obtain⟨h0,h⟩:=kG h;obtain⟨z,hz,h⟩:=xq h;exact⟨_,h,zD fun env w S vs hl=>⟨_,Ow (xH ha<|hx hl).1 (xW hc<|hy hl).1 h0 (db hz Oy) w,zo<|qN<|Xd hz⟩⟩
 ·cases h
theorem zkS{bo:BinOp}{a:Int}{c:Nat}{k:List (Nat×Dv)->Option R}(h:shI bo a c (fun v=>k [(0,v)])=some r)(ha:pd cx σ x=some ⟨.i,a⟩)(hc:pd cx σ y=some ⟨.u,c⟩):
 ∃l,k l=some r/\ES P ⟨d,.binOp bo t x y yt,ty,pos,aft,g⟩ cx σ F l:=by
 have hx:∀{vs env S w},(∀t'∈yA (.binOp bo t x y yt),Lk P vs env S w cx σ t')->Z8 P vs env S w cx σ x:=fun hl=>yK hl (by simp[xaM]);have hy:∀{vs env S w},(∀t'∈yA (.binOp bo t x y yt),Lk P vs env S w cx σ t')->Z8 P vs env S w cx σ y:=fun hl=>yK hl (by simp[xaM]);unfold shI at h;split at h
 ·obtain⟨z,hz,h⟩:=xq h;exact⟨_,h,zD fun env w S vs hl=>⟨_,sB (xW ha<|hx hl).1 (xH hc<|hy hl).1 (xde _) hz.symm w,zo<|xM<|zbw (xW ha<|hx hl).2 hz⟩⟩
 ·obtain⟨z,hz,hr,h⟩:=Vg h;exact⟨_,h,zD fun env w S vs hl=>⟨_,Ow (xW ha<|hx hl).1 (xH hc<|hy hl).1 (xde _) (Ta hz hr) w,zo<|xM hr⟩⟩
 ·cases h
theorem zk2{bo:BinOp}{a c:Bool}{tb:Bool}{k:List (Nat×Dv)->Option R}(h:kF tb (eqB bo a c<|fun v=>k [(0,v)])=some r)(ha:pd cx σ x=some ⟨.b,a⟩)(hc:pd cx σ y=some ⟨.b,c⟩)(hb:tb=true->P.underlying t=some .bool):
 ∃l,k l=some r/\ES P ⟨d,.binOp bo t x y yt,ty,pos,aft,g⟩ cx σ F l:=by
 have hx:∀{vs env S w},(∀t'∈yA (.binOp bo t x y yt),Lk P vs env S w cx σ t')->Z8 P vs env S w cx σ x:=fun hl=>yK hl (by simp[xaM]);have hy:∀{vs env S w},(∀t'∈yA (.binOp bo t x y yt),Lk P vs env S w cx σ t')->Z8 P vs env S w cx σ y:=fun hl=>yK hl (by simp[xaM]);obtain⟨hd,h⟩:=yh h;unfold eqB at h;split at h
 ·obtain⟨z,hz,h⟩:=xq h;exact⟨_,h,zD fun env w S vs hl=>⟨_,SD (zj6 (hb hd) (zeG ha<|hx hl)<|zeG hc<|hy hl) hz w,zo n4⟩⟩
 ·obtain⟨z,hz,h⟩:=xq h;exact⟨_,h,zD fun env w S vs hl=>⟨_,SD (zjM (hb hd) (zeG ha<|hx hl)<|zeG hc<|hy hl) hz w,zo n4⟩⟩
 ·cases h
theorem CL(x:Int):xfW.wrap x=x%256:=by
 simp[xfS,xew,xdS]
theorem zg4{a b:Nat}:xfW.wrap ((a:Int)+(b:Int))=(((a+b)%256:Nat):Int):=by rw[CL];lia
theorem zid{a b:Nat}(h:b<=256):xfW.wrap ((a:Int)-(b:Int))=(((a+256-b)%256:Nat):Int):=by rw[CL];lia
theorem zbW{n z:Nat}(h:z=n%256):z<256:=by rw[h];exact xbi _<|by decide
theorem zli{bo:BinOp}{a c:Nat}{k:List (Nat×Dv)->Option R}(h:arC bo a c (fun v=>k [(0,v)])=some r)(ha:pd cx σ x=some ⟨.ch,a⟩)(hc:pd cx σ y=some ⟨.ch,c⟩):
 ∃l,k l=some r/\ES P ⟨d,.binOp bo t x y yt,ty,pos,aft,g⟩ cx σ F l:=by
 have hx:∀{vs env S w},(∀t'∈yA (.binOp bo t x y yt),Lk P vs env S w cx σ t')->Z8 P vs env S w cx σ x:=fun hl=>yK hl (by simp[xaM]);have hy:∀{vs env S w},(∀t'∈yA (.binOp bo t x y yt),Lk P vs env S w cx σ t')->Z8 P vs env S w cx σ y:=fun hl=>yK hl (by simp[xaM]);cases bo<;>simp only[arC,reduceCtorEq]at h
 case add=>obtain⟨z,hz,h⟩:=xq h;exact⟨_,h,zD fun env w S vs hl=>⟨_,sI (Xj ha<|hx hl).1 (Xj hc<|hy hl).1 (db hz zg4) w,zo<|B8<|zbW hz⟩⟩
 case sub=>obtain⟨z,hz,h⟩:=xq h;exact⟨_,h,zD fun env w S vs hl=>⟨_,zcf (Xj ha<|hx hl).1 (Xj hc<|hy hl).1 (db hz<|zid<|xcS (Xj hc<|hy hl).2) w,zo<|B8<|zbW hz⟩⟩
 case lss=>exact⟨[(0,.kb<|decide<|(a:Int)<(c:Int))],Lj h,zD fun env w S vs hl=>⟨_,SL (Xj ha<|hx hl).1 (Xj hc<|hy hl).1 w,zo<|by exact rfl⟩⟩
 case leq=>exact⟨[(0,.kb<|decide<|(a:Int)<=(c:Int))],Lj h,zD fun env w S vs hl=>⟨_,TR (Xj ha<|hx hl).1 (Xj hc<|hy hl).1 w,zo<|by exact rfl⟩⟩
 case gtr=>exact⟨[(0,.kb<|decide<|(c:Int)<(a:Int))],Lj h,zD fun env w S vs hl=>⟨_,zcP (Xj ha<|hx hl).1 (Xj hc<|hy hl).1 w,zo<|by exact rfl⟩⟩
 case geq=>exact⟨[(0,.kb<|decide<|(c:Int)<=(a:Int))],Lj h,zD fun env w S vs hl=>⟨_,zc1 (Xj ha<|hx hl).1 (Xj hc<|hy hl).1 w,zo<|by exact rfl⟩⟩
 case eql=>exact⟨[(0,.kb<|decide<|(a:Int)=(c:Int))],Lj h,zD fun env w S vs hl=>⟨_,SX (Xj ha<|hx hl).1 (Xj hc<|hy hl).1 w,zo<|by exact rfl⟩⟩
 case neq=>exact⟨[(0,.kb (!decide ((a:Int)=(c:Int))))],kbN h,zD fun env w S vs hl=>⟨_,zaE (Xj ha<|hx hl).1 (Xj hc<|hy hl).1 w,zo<|by exact rfl⟩⟩
theorem Bw{s u:ByteArray}:(s.toList==u.toList)=decide (yO s=yO u):=by
 rw[ByteArray.toList_eq,ByteArray.toList_eq];unfold yO;by_cases h:s.data.toList=u.data.toList
 ·rw[h];simp
 ·have h2:¬s.data.toList.map xfo=u.data.toList.map xfo:=fun e=>h (List.map_inj_right (fun x y=>UInt8.toNat_inj.1)|>.1 e);rw[decide_eq_false h2];simpa using h
theorem pX(s u:ByteArray):yO (s++u)=yO s++yO u:=by
 unfold yO;simp
theorem TV{s u:ByteArray}(h:(yO s).length+(yO u).length<=9223372036854775807)(w:World):(Op.stringOp .add s u).run P w=.ok (.string<|s++u) w:=by
 rw[qs,qs]at h;have h5:¬(((s.size+u.size:Nat):Int)>xcY.max):=by
  have:xcY.max=9223372036854775807:=rfl;lia
 unfold Op.stringOp;simp only;rw[ir h5,xaG]
theorem zjZ{bo:BinOp}{a c:List Nat}{k:List (Nat×Dv)->Option R}(h:eqT bo a c (fun v=>k [(0,v)])=some r)(ha:pd cx σ x=some ⟨.tx,a⟩)(hc:pd cx σ y=some ⟨.tx,c⟩):
 ∃l,k l=some r/\ES P ⟨d,.binOp bo t x y yt,ty,pos,aft,g⟩ cx σ F l:=by
 have hx:∀{vs env S w},(∀t'∈yA (.binOp bo t x y yt),Lk P vs env S w cx σ t')->Z8 P vs env S w cx σ x:=fun hl=>yK hl (by simp[xaM]);have hy:∀{vs env S w},(∀t'∈yA (.binOp bo t x y yt),Lk P vs env S w cx σ t')->Z8 P vs env S w cx σ y:=fun hl=>yK hl (by simp[xaM]);cases bo<;>simp only[eqT,reduceCtorEq]at h
 case add=>
  obtain⟨h0,h⟩:=kG h;obtain⟨z,hz,h⟩:=xq h;refine⟨_,h,zD fun env w S vs hl=> ?_⟩;obtain⟨s,e1,e2,_⟩:=P9 ha<|hx hl;obtain⟨u,e3,e4,_⟩:=P9 hc<|hy hl;have h6:(yO s).length+(yO u).length<=9223372036854775807:=by rw[e2,e4];exact h0
  refine⟨.string<|s++u,?_,zo<|Hx (by rw[pX,e2,e4];exact hz.symm)<|by rw[<-qs,pX,xax];exact h6⟩;simp[execOp,e1,e3,eqGuard,binOp_string_add,TV (P:=P) h6 w]
 case eql=>
  refine⟨[(0,.kb<|decide<|a=c)],Lj h,zD fun env w S vs hl=> ?_⟩;obtain⟨s,e1,e2,_⟩:=P9 ha<|hx hl;obtain⟨u,e3,e4,_⟩:=P9 hc<|hy hl;refine⟨.bool<|decide<|a=c,?_,zo<|by exact rfl⟩;rw[<-e2,<-e4,<-Bw];simp[execOp,e1,e3,eqGuard,binOp_string_eql]
 case neq=>
  refine⟨[(0,.kb (!decide (a=c)))],kbN h,zD fun env w S vs hl=> ?_⟩;obtain⟨s,e1,e2,_⟩:=P9 ha<|hx hl;obtain⟨u,e3,e4,_⟩:=P9 hc<|hy hl;refine⟨.bool (!decide (a=c)),?_,zo<|by exact rfl⟩;rw[<-e2,<-e4,<-Bw];simp[execOp,e1,e3,eqGuard,binOp_string_neq]
theorem bop{tb:Bool}{bo:BinOp}{k:List (Nat×Dv)->Option R}(h:zhO tb bo (pd cx σ x) (pd cx σ y) (fun v=>k [(0,v)])=some r)(hb:tb=true->P.underlying t=some .bool):
 ∃l,k l=some r/\ES P ⟨d,.binOp bo t x y yt,ty,pos,aft,g⟩ cx σ F l:=by
 unfold zhO at h;split at h
 ·next a c ha hc=>exact zk6 h ha hc
 ·next a c ha hc=>exact zkM h ha hc
 ·next a c ha hc=>exact zlm h ha hc
 ·next a c ha hc=>exact zkS h ha hc
 ·next a c ha hc=>exact zk2 h ha hc hb
 ·next a c ha hc=>exact zli h ha hc
 ·next a c ha hc=>exact zjZ h ha hc
 ·cases h
end
end
section
section
variable{P:Program}{cf:Cf}{cx σ:Sg}{F:List MF}{vs:Nat->Value}{env:yN}{S:Nat->Prop}{w:World}{R:Type}{r:R}
 {d:Option Tmp}{ty t yt:TypeId}{pos:String}{aft:Array Edge}{g:Option (Nat×Bool)}{x y:Operand}
theorem Vb{s:TypeId}{q:Ty}{k:IntKind}{B:Nat}(hT:yZ P cf.tt)(h:Ye cf s=some ⟨q,.int k,B⟩):P.underlying s=some (.int k):=(hT _ _ h).2.2.2
theorem vn{s E:TypeId}{q:Ty}{B:Nat}(hT:yZ P cf.tt)(h:Ye cf s=some ⟨q,.sl E,B⟩):P.underlying s=some (.slice E):=(hT _ _ h).2.2.2.1
theorem De{s:TypeId}{q:Ty}{B:Nat}(hT:yZ P cf.tt)(h:Ye cf s=some ⟨q,.str,B⟩):P.underlying s=some .string:=(hT _ _ h).2.2.2
theorem zem(hT:yZ P cf.tt):isB cf t=true->P.underlying t=some .bool:=by
 intro h;unfold isB at h;split at h
 ·next q B hu=>exact(hT _ _ hu).2.2.2
 ·cases h
theorem VQ{s E:TypeId}{e:Ty}{B:Nat}(hT:yZ P cf.tt)(hL:jN P cf.tt)(h:Ye cf s=some ⟨.l e,.sl E,B⟩):∃bytes zero,X3 P E e.rep.agg e.rep.n bytes zero:=by
 obtain⟨ti,h1,rfl⟩:=hL _ _ _ _ h;obtain⟨⟨zero,h2,_⟩,_⟩:=hT _ _ h1;exact⟨_,_,h2⟩
theorem Vv{ti:TI}(hT:yZ P cf.tt)(h:Ye cf t=some ti):∃zero,X3 P t ti.ty.rep.agg ti.ty.rep.n ti.B zero/\zero.cells.size=ti.ty.rep.n/\∀S w,ti.ty.rep.p S ti.ty.z zero.cells.toList w:=by
 obtain⟨zero,h1,h2,h3,_⟩:=(hT _ _ h).1;exact⟨zero,h1,h2,h3⟩
theorem Ng{ti:TI}{s:Ty}(hT:yZ P cf.tt)(h:Ye cf t=some ti)(hs:ti.ty=.l s):X3 P t false 1 ti.B (.slice none 0 0):=by
 obtain⟨zero,h1,_,_,h4⟩:=(hT _ _ h).1;rw[h4 s hs,hs]at h1;exact h1
theorem zkg{a:Nat}(h:a<256):VE (a:Int):=by unfold VE;lia
theorem zjS{a:Nat}(h:a<256):a<18446744073709551616:=by lia
theorem zle{a:Nat}(h:a<256):xfW.wrap (a:Int)=(a:Int):=by rw[CL];lia
theorem u_c{a:Nat}:xfW.wrap (a:Int)=((a%256:Nat):Int):=by rw[CL];lia
theorem FQ{S:Nat->Prop}{w:World}:∀{xs:List Nat}{cs:List Value},yu eCh S xs cs w->cs=xs.map (fun x:Nat=>Value.int .u8 (x:Int))/\∀x∈xs,x<256
 |[],cs,h=>⟨h,fun x hx=>absurd hx IR⟩
 |x::xs,cs,⟨c,r,h1,h2,h3⟩=>by
  obtain⟨e1,e2⟩:=FQ h3;obtain⟨e3,e4⟩:=h2;refine⟨by rw[h1,e3,e1];rfl,fun y hy=> ?_⟩;rcases xac.1 hy with rfl|hy
  ·exact e4
  ·exact e2 y hy
theorem zhi{s t E:TypeId}{xs:List Nat}{v:Value}{S:Nat->Prop}{w:World}(hs:P.underlying s=some (.slice E))(hE:P.underlying E=some (.int .u8))(ht:P.underlying t=some .string)(hv:(fV (eS eCh) xs v).p S w):
 ∃u:ByteArray,(convert s t v).run P w=.ok (.string u) w/\yO u=xs/\u.size<=9223372036854775807:=by
 obtain⟨ao,cap,rfl,hg,hb,h⟩:=xm.1 hv;have key:∀a,ao=some a->(∀x∈xs,x<256)->(∀j (hj:j<xs.length),w.cell? (a.add j)=some (.int .u8 ((xs[j]:Nat):Int)))->∃u:ByteArray,(convert s t (.slice ao xs.length cap)).run P w=.ok (.string u) w/\yO u=xs/\u.size<=9223372036854775807:=by
  rintro a rfl hx hj;have hm:(xs.map xeW).map xfo=xs:=by
   rw[xcT];conv=>rhs;rw[<-List.map_id xs]
   exact xci fun x hc=>UInt8.toNat_ofNat_of_lt'<|hx x hc
  have hr:=run_convert_bytes_back (P:=P) w s t E a cap (xs.map xeW) hs hE ht (fun j hd=>by
   have ha:j<xs.length:=by simpa using hd
   rw[hj j ha,xfF,UInt8.toNat_ofNat_of_lt'<|hx _<|xbn ha])
  rw[xaP]at hr;refine⟨_,hr,by unfold yO;simpa using hm,?_⟩;rw[<-qs];unfold yO;rw[xaP];simp;unfold maxLen at hb;lia
 rcases h with rfl|⟨b,o,cs,rfl,_,he,hf⟩
 ·cases ao with
  |some a=>exact key a rfl (fun x hx=>absurd hx IR)<|fun j hj=>absurd hj<|xbp _
  |none=>
   refine⟨ByteArray.empty,?_,rfl,by decide⟩;rw[run_convert_bytes_string w s t E none _ cap hs hE ht];rfl
 ·obtain⟨e1,e2⟩:=FQ hf;refine key _ rfl e2 fun j hj=> ?_;have:=he.2 j (.int .u8 ((xs[j]:Nat):Int)) (by rw[e1,xaT,xaa hj];rfl);rw[qc];exact this
theorem zi0(hT:yZ P cf.tt){s t:TypeId}{k:List (Nat×Dv)->Option R}(h:zhA cf cx σ s t x k=some r):∃l,k l=some r/\ES P ⟨d,.convert s t x,ty,pos,aft,g⟩ cx σ F l:=by
 have hx:∀{vs env S w},(∀t'∈yA (.convert s t x),Lk P vs env S w cx σ t')->Z8 P vs env S w cx σ x:=fun hl=>yK hl (by simp[xaM]);unfold zhA at h;split at h
 ·next q k1 B ti hs ht=>
  have hb:=Vb hT hs;obtain⟨tty,tk,tB⟩:=ti;unfold zjW at h;split at h
  ·next a hk ha=>
   simp only at hk;subst hk;exact⟨_,h,zD fun env w S vs hl=>⟨_,Xy hb (Vb hT ht) (xW ha<|hx hl).1 (w64 (xW ha<|hx hl).2) w,zo<|xM (xW ha<|hx hl).2⟩⟩
  ·next a hk ha=>
   simp only at hk;subst hk;exact⟨_,h,zD fun env w S vs hl=>⟨_,Xy hb (Vb hT ht) (xH ha<|hx hl).1 (dT (xH ha<|hx hl).2) w,zo<|qN (xH ha<|hx hl).2⟩⟩
  ·next a hk ha=>
   simp only at hk;subst hk;obtain⟨z,hz,h⟩:=xq h;exact⟨_,h,zD fun env w S vs hl=>⟨_,Xy hb (Vb hT ht) (xW ha<|hx hl).1 (db hz<|zbT _) w,zo<|qN<|zgI hz<|mg _⟩⟩
  ·next a hk ha=>
   simp only at hk;subst hk;obtain⟨z,hz,h⟩:=xq h;exact⟨_,h,zD fun env w S vs hl=>⟨_,Xy hb (Vb hT ht) (xH ha<|hx hl).1 ((sP (xH ha<|hx hl).2).trans hz.symm) w,zo<|xM<|zcv hz<|zbE (xH ha<|hx hl).2⟩⟩
  ·next a hk ha=>
   simp only at hk;subst hk;exact⟨_,h,zD fun env w S vs hl=>⟨_,Xy hb (Vb hT ht) (Xj ha<|hx hl).1 (w64<|zkg (Xj ha<|hx hl).2) w,zo<|xM<|zkg (Xj ha<|hx hl).2⟩⟩
  ·next a hk ha=>
   simp only at hk;subst hk;exact⟨_,h,zD fun env w S vs hl=>⟨_,Xy hb (Vb hT ht) (Xj ha<|hx hl).1 (dT<|zjS (Xj ha<|hx hl).2) w,zo<|qN<|zjS (Xj ha<|hx hl).2⟩⟩
  ·next a hk ha=>
   simp only at hk;subst hk;exact⟨_,h,zD fun env w S vs hl=>⟨_,Xy hb (Vb hT ht) (Xj ha<|hx hl).1 (zle (Xj ha<|hx hl).2) w,zo<|B8 (Xj ha<|hx hl).2⟩⟩
  ·next a hk ha=>
   simp only at hk;subst hk;unfold chU at h;obtain⟨z,hz,h⟩:=xq h;exact⟨_,h,zD fun env w S vs hl=>⟨_,Xy hb (Vb hT ht) (xH ha<|hx hl).1 (db hz u_c) w,zo<|B8<|zbW hz⟩⟩
  ·cases h
 ·next E B q B' hs ht=>
  split at h
  ·next q' B'' hE=>
   obtain⟨xs,h,hc⟩:=XZ h;refine⟨_,h,zD fun env w S vs hl=> ?_⟩;obtain⟨u,h1,h2,h3⟩:=zhi (vn hT hs) (Vb hT hE) (De hT ht)<|hc P vs env S w<|hx hl;exact⟨.string u,by simp[execOp,h1],zo<|Hx h2 h3⟩
  ·cases h
 ·cases h
theorem FR{n:Nat}{k:Nat->Option R}(h:Rz cx σ x n k=some r):∃j,j<n/\k j=some r/\∀(P:Program) vs env S w,Z8 P vs env S w cx σ x->∃ik,ev env x=.int ik (j:Int):=by
 unfold Rz at h;split at h
 ·next j hj=>
  obtain⟨i,h1,h2,h⟩:=zfK h;exact⟨i,h2,h,fun P vs env S w hl=>⟨.i64,by rw[(xW hj hl).1,h1]⟩⟩
 ·next j hj=>
  obtain⟨i,h1,h2,h⟩:=zfK h;exact⟨i,h2,h,fun P vs env S w hl=>⟨.u64,by rw[(xH hj hl).1,h1]⟩⟩
 ·cases h
theorem Q9{x:Option Operand}{k:Option Nat->Option R}(h:HY cx σ x k=some r):
 (x=none/\k none=some r)\/∃y j,x=some y/\k (some j)=some r/\∀(P:Program) vs env S w,Z8 P vs env S w cx σ y->ev env y=.int .i64 (j:Int):=by
 unfold HY at h;split at h
 ·exact .inl ⟨rfl,h⟩
 ·next y=>
  split at h
  ·next j hj=>
   obtain⟨i,h1,h⟩:=Pf h;exact .inr ⟨y,i,rfl,h,fun P vs env S w hl=>by rw[(xW hj hl).1,h1]⟩
  ·cases h
theorem Q7{α:Type}{e:zZ α}{E:TypeId}{xs:List α}{v:Value}(h:(mO e E v xs).p S w)(h0:0<xs.length):
 ∃b cap,v=.slice (some ⟨b,0,none⟩) xs.length cap/\(mB (rowT e cap) E b xs).p S w:=by
 obtain⟨cs,h1,h2⟩:=h;rcases h1.2 with⟨rfl,h3⟩|⟨g,cap,cur,rfl,hc,hg,hd,he,ha,hb⟩
 ·lia
 ·exact⟨g,cap,rfl,cur,hg,cs,cur.toList.drop<|xs.length*e.n,by rw[<-hb,xbN],h2,by simpa using ha⟩
theorem zaK{s E:TypeId}{q:Ty}{n B:Nat}(hT:yZ P cf.tt)(h:Ye cf s=some ⟨q,.ar n E,B⟩):P.underlying s=some (.array n E):=(hT _ _ h).2.2.2.2
theorem zat{E:TypeId}{e:Ty}(hT:yZ P cf.tt)(h:elA cf E e=true):∃bytes zero,X3 P E e.rep.agg e.rep.n bytes zero:=by
 unfold elA at h;split at h
 ·next ti ht=>
  cases hs:Ty.same ti.ty e with
  |none=>rw[hs]at h;cases h
  |some p=>
   obtain⟨zero,h2,_⟩:=Vv hT ht;rw[p.down]at h2;exact⟨_,_,h2⟩
 ·cases h
theorem zg7{n j:Nat}{e:Ty}(hj:j<n):Fl.ok (.a n e) (zjh n e j):=by
 intro z S w cs hp;have ha:xaI z=n/\yu e.rep S z cs w:=hp;have:=Sub.nth n e.rep z j (xeq z j e.z) (getD_some e.z<|ha.1▸hj) S w cs hp;rw[e.n_rep]at this;exact this
theorem zdz(hT:yZ P cf.tt)(hL:jN P cf.tt){k:List (Nat×Dv)->Option R}(h:Nw cf cx σ t x y k=some r):∃l,k l=some r/\ES P ⟨d,.indexAddr t x y,ty,pos,aft,g⟩ cx σ F l:=by
 have hx:∀{vs env S w},(∀t'∈yA (.indexAddr t x y),Lk P vs env S w cx σ t')->Z8 P vs env S w cx σ x:=fun hl=>yK hl (by simp[xaM]);have hy:∀{vs env S w},(∀t'∈yA (.indexAddr t x y),Lk P vs env S w cx σ t')->Z8 P vs env S w cx σ y:=fun hl=>yK hl (by simp[xaM]);unfold Nw at h;split at h
 ·next e E B s xs ht ha=>
  obtain⟨he,h⟩:=yi h;cases he;obtain⟨bytes,zero,hb⟩:=VQ hT hL ht;obtain⟨j,hj,h,hc⟩:=FR h;obtain⟨z,hz,h⟩:=xq h;refine⟨_,h,jR fun env w S vs hM hl=> ?_⟩;obtain⟨ik,hd⟩:=hc P vs env S w<|hy hl;exact⟨_,_,_,_,[fV (eS e.rep) xs<|ev env x],[],zb3 (e:=e.rep) (xs:=xs) (k:=j) (y:=z) rfl hd (vn hT ht) hb (zi9 hj hz)<|fun S w h=>h.1,trivial,⟨zk ha<|hx hl,trivial⟩,fun u w' _ hf=>zo hf.1⟩
 ·next e E B o ht ha=>
  split at h
  ·next s E' xs ho=>
   obtain⟨he,h⟩:=yi h;cases he;obtain⟨bytes,zero,hb⟩:=VQ hT hL ht;obtain⟨j,hj,h,hc⟩:=FR h;refine⟨_,h,?_⟩;intro env w S vs hS hM hl;obtain⟨ik,hd⟩:=hc P vs env S w<|hy hl;have hm:(mO e.rep E' (vs o) xs).p S w:=uY hM ho;obtain⟨b,cap,hv,_⟩:=Q7 hm<|xba (xah _) hj;have hk:ev env x=vs o:=zk ha<|hx hl;refine kv.of_value (n7 (vn hT ht) hb (hk.trans hv) hd hj w) ⟨yq.refl _ _,zo ?_⟩;exact⟨fun z=>Sub.self e.rep z,b,_,_,hv,hj,by simp[Fl.self]⟩
  ·cases h
 ·next q n' E B n e xs ht ha=>
  obtain⟨hg,h⟩:=yh h;rw[xao]at hg;have hn:=z8 hg.1;subst hn;obtain⟨bytes,zero,hb⟩:=zat hT hg.2;obtain⟨j,hj,h,hc⟩:=FR h;obtain⟨z,hz,h⟩:=xq h;refine⟨_,h,jR fun env w S vs hM hl=> ?_⟩;obtain⟨ik,hd⟩:=hc P vs env S w<|hy hl;have hp:(fP (Ty.a n' e).rep xs<|ev env x).p S w:=zk ha<|hx hl;obtain⟨_,_,_,_,_,_,hi,_⟩:=id hp;exact⟨_,_,_,_,[fP (Ty.a n' e).rep xs<|ev env x],[],RL (e:=(Ty.a n' e).rep) (f:=e.rep) (z:=xs) (z':=z) (zaK hT ht) hb rfl hd hj (Sub.nth n' e.rep xs j z<|zi9 (hi▸hj) hz)<|fun S w h=>h.1,trivial,⟨hp,trivial⟩,fun u w' _ hf=>zo hf.1⟩
 ·next q n' E B o n e ht ha=>
  obtain⟨hg,h⟩:=yh h;rw[xao]at hg;have hn:=z8 hg.1;subst hn;obtain⟨bytes,zero,hb⟩:=zat hT hg.2;obtain⟨j,hj,h,hc⟩:=FR h;refine⟨_,h,zD fun env w S vs hl=> ?_⟩;obtain⟨ik,hd⟩:=hc P vs env S w<|hy hl;obtain⟨h1,b,h2⟩:=zk ha<|hx hl;exact⟨_,IY (zaK hT ht) hb (h1.trans h2) hd hj w,zo ⟨zg7 hj,b,h2,by rw[e.n_rep];rfl⟩⟩
 ·cases h
theorem cQ:∀{k:Nat}{t:Ty}{i:Nat}{f:Fl t.D},Q6 k t i=some f->Fl.ok t f
 |0,_,_,_,h=>by simp[Q6]at h
 |1,t,i,f,h=>by
  unfold Q6 at h;cases hb:xap i 0<;>rw[hb]at h
  ·cases h
  ·simp only[cond_true,xaz]at h;subst h;exact fun z=>Sub.self t.rep z
 |k+2,.p s t,0,f,h=>by
  simp only[Q6,xaz]at h;subst h;exact fun z=>Sub.fst s.rep t.rep z
 |k+2,.p s t,i+1,f,h=>by
  simp only[Q6]at h;split at h
  ·next f' hf=>
   simp only[xaz]at h;subst h;intro z;have:=(Sub.snd s.rep t.rep z).comp<|cQ hf z.2;rw[s.n_rep]at this;exact this
  ·cases h
 |k+2,.i,i,f,h=>by simp[Q6]at h
 |k+2,.u,i,f,h=>by simp[Q6]at h
 |k+2,.b,i,f,h=>by simp[Q6]at h
 |k+2,.l _,i,f,h=>by simp[Q6]at h
 |k+2,.a _ _,i,f,h=>by simp[Q6]at h
theorem NN{t:Ty}{a:Fl t.D}{c:Fl a.f.D}(ha:Fl.ok t a)(hc:Fl.ok a.f c):Fl.ok t (a.comp c):=fun z=>(ha z).comp<|hc<|a.get z
theorem O6{s:TypeId}{q:Ty}{n B i:Nat}{f:Fl q.D}(hT:yZ P cf.tt)(h:Ye cf s=some ⟨q,.st n,B⟩)(hf:Q6 n q i=some f):Nc P s i=some f.off:=(hT _ _ h).2.2.2.2.1 i f hf
theorem zdl(hT:yZ P cf.tt){i:Nat}{k:List (Nat×Dv)->Option R}(h:Mq cf cx σ t x i k=some r):∃l,k l=some r/\ES P ⟨d,.fieldAddr t x i,ty,pos,aft,g⟩ cx σ F l:=by
 have hx:∀{vs env S w},(∀t'∈yA (.fieldAddr t x i),Lk P vs env S w cx σ t')->Z8 P vs env S w cx σ x:=fun hl=>yK hl (by simp[xaM]);unfold Mq at h;split at h
 ·next e n B s y ht hb=>
  obtain⟨ha,h⟩:=yi h;subst ha;split at h
  ·next f hf=>
   exact⟨_,h,jR fun env w S vs hM hl=>⟨_,_,_,_,[fP s.rep y<|ev env x],[],zbB (e:=s.rep) (z:=y) (O6 hT ht hf) rfl (cQ hf y)<|fun S w h=>h.1,trivial,⟨zk hb<|hx hl,trivial⟩,fun u w' _ hf=>zo hf.1⟩⟩
  ·cases h
 ·next e n B o s ht hb=>
  split at h
  ·next ha f _ hf=>
   obtain⟨ha⟩:=ha;subst ha;refine⟨_,h,zD fun env w S vs hl=> ?_⟩;obtain⟨h1,b,h2⟩:=zk hb<|hx hl;exact⟨_,oy (O6 hT ht hf) (h1.trans h2) w,zo ⟨cQ hf,b,h2,rfl⟩⟩
  ·cases h
 ·next e n B o s g ht hb=>
  split at h
  ·next ha f _ hf=>
   obtain⟨ha⟩:=ha;subst ha;refine⟨_,h,zD fun env w S vs hl=> ?_⟩;obtain⟨h0,b,h1,h2⟩:=zk hb<|hx hl;exact⟨_,oy (O6 hT ht hf) h2 w,zo ⟨NN h0<|cQ hf,b,h1,by simp only[Fl.comp,xcR]⟩⟩
  ·cases h
 ·next e n B o s j g ht hb=>
  split at h
  ·next ha f _ hf=>
   obtain⟨ha⟩:=ha;subst ha;refine⟨_,h,zD fun env w S vs hl=> ?_⟩;obtain⟨h0,b,m,cap,h1,h2,h3⟩:=zk hb<|hx hl;exact⟨_,oy (O6 hT ht hf) h3 w,zo ⟨NN h0<|cQ hf,b,m,cap,h1,h2,by simp only[Fl.comp,xcR]⟩⟩
  ·cases h
 ·cases h
theorem zgD(hT:yZ P cf.tt){k:List (Nat×Dv)->Option R}(h:S6 cf cx σ t x k=some r):∃l,k l=some r/\ES P ⟨d,.load t x,ty,pos,aft,g⟩ cx σ F l:=by
 have hx:∀{vs env S w},(∀t'∈yA (.load t x),Lk P vs env S w cx σ t')->Z8 P vs env S w cx σ x:=fun hl=>yK hl (by simp[xaM]);unfold S6 at h;split at h
 ·next ti hj=>
  obtain⟨zero,hd,_⟩:=Vv hT hj;unfold zfC at h;split at h
  ·next s y hc=>
   obtain⟨ha,h⟩:=yi h;simp only at ha;subst ha;exact⟨_,h,jR fun env w S vs hM hl=>⟨_,_,_,_,[fP ti.ty.rep y<|ev env x],[],zfj (e:=ti.ty.rep) (y:=y) rfl hd<|fun S w h=>h.1,trivial,⟨zk hc<|hx hl,trivial⟩,fun u w' _ hf=>zo hf.1⟩⟩
  ·next o s hc=>
   split at h
   ·next s' E z ho=>
    obtain⟨ha,h⟩:=yi h;simp only at ha;subst ha;refine⟨_,h,jR fun env w S vs hM hl=> ?_⟩;obtain⟨h1,b,h2⟩:=zk hc<|hx hl;obtain⟨b',h3,h4⟩:(mP ti.ty.rep.c E (vs o) z).p S w:=uY hM ho;exact⟨_,_,_,_,[],[mB ti.ty.rep.c E b' z],QU (z':=z) 0 rfl (h1.trans h3) (Sub.self ti.ty.rep z) hd,⟨h4,trivial⟩,trivial,fun u w' _ hf=>zo hf.1⟩
   ·cases h
  ·next o s f hc=>
   split at h
   ·next s' E z ho=>
    obtain⟨he,h⟩:=yi h;subst he;obtain⟨ha,h⟩:=yi h;simp only at ha;obtain⟨off,ff,get,set⟩:=f;simp only at ha;subst ha;refine⟨_,h,jR fun env w S vs hM hl=> ?_⟩;obtain⟨h0,b,h1,h2⟩:=zk hc<|hx hl;obtain⟨b',h3,h4⟩:(mP s'.rep.c E (vs o) z).p S w:=uY hM ho;rw[h1]at h3;cases h3;exact⟨_,_,_,_,[],[mB s'.rep.c E b z],QU (z':=get z) 0 rfl h2 (by rw[xaN];exact h0 z) hd,⟨h4,trivial⟩,trivial,fun u w' _ hf=>zo hf.1⟩
   ·cases h
  ·next o s j f hc=>
   split at h
   ·next s' E xs ho=>
    obtain⟨he,h⟩:=yi h;cases he;obtain⟨y,hy,h⟩:=xq h;obtain⟨ha,h⟩:=yi h;simp only at ha;obtain⟨off,ff,get,set⟩:=f;simp only at ha;subst ha;refine⟨_,h,jR fun env w S vs hM hl=> ?_⟩;obtain⟨h0,b,m,cap,h1,h2,h3⟩:=zk hc<|hx hl;have hm:(mO s.rep E (vs o) xs).p S w:=uY hM ho;have hg:0<xs.length:=by
     obtain⟨cs,h5,h6⟩:=hm;rcases h5.2 with⟨hv,h7⟩|⟨g',cap',cur,hv,_⟩
     ·rw[h1]at hv;cases hv
     ·rw[h1]at hv;cases hv;lia
    obtain⟨b',cap',hv,hb⟩:=Q7 hm hg;rw[h1]at hv;cases hv;have hi:=(Sub.rowT0 s.rep cap xs j (xs.getD j s.z)<|getD_some s.z h2).comp<|h0<|xs.getD j s.z;subst hy;exact⟨_,_,_,_,[],[mB (rowT s.rep cap) E b xs],QU 0 rfl h3 hi hd,⟨hb,trivial⟩,trivial,fun u w' _ hf=>zo hf.1⟩
   ·cases h
  ·cases h
 ·cases h
theorem zfy{α:Type}(xs:List α):xs=(xs.drop 0).take (xs.length-0):=by simp
theorem zfY{α:Type}(xs:List α)(l:Nat):xs.drop l=(xs.drop l).take (xs.length-l):=(xaQ<|by simp).symm
theorem SY{i off n:Nat}{agg:Bool}{cs:Array Value}{v:Value}(h:zb0 P t i=some (off,agg,n))(hx:ev env x=.agg cs)(hv:(if agg=true then Value.agg (cs.extract off<|off+n)else cs.getD off undef)=v)(ha:agg=false->off<cs.size)(w:World):
 (execOp (ev env) ⟨d,.field t x i,ty,pos,aft,g⟩).run P w=.ok (.value v) w:=by
 unfold zb0 at h;split at h
 ·next fs hu=>
  split at h
  ·next f hf=>
   split at h
   ·next ag n' by' z hc=>
    simp only[xaz,xcH]at h;obtain⟨h1,h2,h3⟩:=h;subst h1;subst h2;subst h3;have hb:=X3.of hc;have hp:(part f.type cs f.offset).run P w=.ok v w:=by
     unfold part;simp only[xas,B9 hb,xad]
     cases ag with
     |true=>
      simp only[if_true,xas,xp hb,xad,xaG];rw[<-hv];rfl
     |false=>
      simp only[xak,if_false];have ha:=ha rfl;rw[xcz ha];simp only[xaG];rw[<-hv];simp[Array.getD,ha]
    simp only[execOp,hx,Instr.field,asAgg,xas,run_underlying hu,xad,hf,xaG,hp]
   ·cases h
  ·cases h
 ·cases h
theorem zgX{s:TypeId}{q:Ty}{n B i:Nat}{f:Fl q.D}(hT:yZ P cf.tt)(h:Ye cf s=some ⟨q,.st n,B⟩)(hf:Q6 n q i=some f):zb0 P s i=some (f.off,f.f.rep.agg,f.f.n):=(hT _ _ h).2.2.2.2.2.2 i f hf
theorem zag(hT:yZ P cf.tt){i:Nat}{k:List (Nat×Dv)->Option R}(h:Dj cf cx σ t x i k=some r):∃l,k l=some r/\ES P ⟨d,.field t x i,ty,pos,aft,g⟩ cx σ F l:=by
 have hx:∀{vs env S w},(∀t'∈yA (.field t x i),Lk P vs env S w cx σ t')->Z8 P vs env S w cx σ x:=fun hl=>yK hl (by simp[xaM]);unfold Dj at h;split at h
 ·next e n B s y ht hg=>
  obtain⟨hi,h⟩:=yi h;subst hi;split at h
  ·next f hf=>
   refine⟨_,h,zD fun env w S vs hl=> ?_⟩;obtain⟨cs,hv,hp⟩:=zk hg<|hx hl;have he:s.rep.agg=true:=(hT _ _ ht).2.2.2.1;obtain⟨pre,c,post,hc,h1,h2,_⟩:=cQ hf y S w cs hp;have ha:=f.f.rep.len h2;rw[Ty.n_rep]at ha;have hv:ev env x=.agg cs.toArray:=by rw[hv];unfold zZ.val;rw[he];rfl
   refine⟨f.f.rep.val c,SY (zgX hT ht hf) hv ?_ ?_ w,zo ⟨c,rfl,h2⟩⟩
   ·unfold zZ.val
    cases hd:f.f.rep.agg with
    |true=>
     simp only[if_true];congr 1;apply Array.ext';rw[Array.toList_extract,hc,<-h1,<-ha];simp
    |false=>
     simp only[xak,if_false];have hb:=f.f.rep.n1 hd;rw[Ty.n_rep]at hb;obtain⟨a,rfl⟩:∃a,c=[a]:=by
      match c,ha.trans hb with
      |[a],_=>exact⟨a,rfl⟩
     rw[hc,<-h1];simp[Array.getD]
   ·intro hd;have hb:=f.f.rep.n1 hd;rw[Ty.n_rep]at hb;rw[hc];simp;lia
  ·cases h
 ·cases h
theorem KG{α:Type}{e:zZ α}{E:TypeId}{v:Value}{xs:List α}{S:Nat->Prop}{w:World}(h:(mO e E v xs).p S w):(v=.slice none 0 0/\xs=[])\/∃b cap,v=.slice (some ⟨b,0,none⟩) xs.length cap/\xs.length<=cap/\cap<=9223372036854775807:=by
 obtain⟨cs,h1,h2⟩:=h;rcases h1.2 with⟨rfl,h0⟩|⟨g,cap,cur,rfl,hc,hg,ha,hb,hd,he⟩
 ·exact .inl ⟨rfl,xbF.1 h0⟩
 ·exact .inr ⟨g,cap,rfl,ha,hb⟩
theorem E6{α:Type}{e:zZ α}{E:TypeId}{v:Value}{xs:List α}{S:Nat->Prop}{w:World}(h:(mO e E v xs).p S w){b m cap l n c:Nat}(hv:v=.slice (some ⟨b,0,none⟩) m cap)(hl:l+n<=m)(hf:n<=c)(hc:c<=9223372036854775807):
 SlQ e S ((xs.drop l).take n) (.slice (some ⟨b,0+l*e.n,none⟩) n c) w:=by
 obtain⟨cs,h1,h2⟩:=h;rcases h1.2 with⟨h0,_⟩|⟨g,cap',cur,h0,hi,hg,he,hj,hk,hd⟩
 ·rw[hv]at h0;cases h0
 ·rw[hv]at h0;cases h0;have hb:((xs.drop l).take n).length=n:=by simp;lia
  refine⟨some ⟨b,0+l*e.n,none⟩,c,by rw[hb],by lia,by unfold maxLen;lia,.inr ⟨b,0+l*e.n,(cs.drop<|l*e.n).take<|n*e.n,rfl,?_,(h2.drop l).take n⟩⟩;have ha:=At.row hg;have:=ha.take<|xs.length*e.n;rw[hd]at this;exact(this.drop<|l*e.n).take<|n*e.n
theorem oJ{t:TypeId}{et:TypeId}{ag:Bool}{sz bytes:Nat}{zero:Value}{b o n cap l h:Nat}{lo hi:Option Value}{w:World}(ht:P.underlying t=some (.slice et))(ha:X3 P et ag sz bytes zero)
 (hl:lo=some (.int .i64 (l:Int))\/(lo=none/\l=0)) (hh:hi=some (.int .i64 (h:Int))\/(hi=none/\h=n)) (hb:l<=h) (hc:h<=cap):
 (xcX t (.slice (some ⟨b,o,none⟩) n cap) lo hi none).run P w=.ok (.slice (if cap=l then some ⟨b,o,none⟩else(some (⟨b,o,none⟩:Addr)).map (·.add (l*sz))) (h-l)<|cap-l) w:=by
 have b1:(0:Int)<=(l:Int)/\(l:Int)<=(h:Int):=by lia
 have b2:(0:Int)<=(h:Int)/\(h:Int)<=(cap:Int):=by lia
 unfold xcX;simp only[xas,run_underlying ht,xad];unfold xfL;simp only[xas,run_underlying ht,xad];unfold xdX
 rcases hl with rfl|⟨rfl,rfl⟩<;>rcases hh with rfl|⟨rfl,rfl⟩<;>
  simp only[xeo,asIntOf,xas,xaG,xad,iq b1,iq b2,xp ha,xaK]
theorem Fg{t:TypeId}{et:TypeId}{ag:Bool}{sz bytes:Nat}{zero:Value}{lo hi:Option Value}{w:World}(ht:P.underlying t=some (.slice et))(ha:X3 P et ag sz bytes zero)
 (hl:lo=some (.int .i64 ((0:Nat):Int))\/lo=none) (hh:hi=some (.int .i64 ((0:Nat):Int))\/hi=none):
 (xcX t (.slice none 0 0) lo hi none).run P w=.ok (.slice none 0 0) w:=by
 unfold xcX;simp only[xas,run_underlying ht,xad];unfold xfL;simp only[xas,run_underlying ht,xad];unfold xdX
 rcases hl with rfl|rfl<;>rcases hh with rfl|rfl<;>
  simp[xeo,asIntOf,xas,xaG,xad,xp ha]
theorem Fi{m:Nat}{lo hi:Option Nat}{k:Nat->Nat->Option R}(h:zfu m lo hi k=some r):∃l h',l<=h'/\h'<=m/\k l (h'-l)=some r/\(lo=some l\/(lo=none/\l=0))/\(hi=some h'\/(hi=none/\h'=m)):=by
 unfold zfu at h;split at h
 ·next h'=>obtain⟨h1,h2⟩:=kG h;exact⟨0,h',xah _,h1,h2,.inr ⟨rfl,rfl⟩,.inl rfl⟩
 ·next l=>obtain⟨h1,h2⟩:=kG h;exact⟨l,m,h1,xab _,h2,.inl rfl,.inr ⟨rfl,rfl⟩⟩
 ·next l h'=>obtain⟨h1,h2⟩:=kG h;exact⟨l,h',h1.1,h1.2,h2,.inl rfl,.inl rfl⟩
 ·exact⟨0,m,xah _,xab _,h,.inr ⟨rfl,rfl⟩,.inr ⟨rfl,rfl⟩⟩
theorem M4{t:TypeId}{s:ByteArray}{l h:Nat}{lo hi:Option Value}{w:World}(ht:P.underlying t=some .string)
 (hl:lo=some (.int .i64 (l:Int))\/(lo=none/\l=0)) (hh:hi=some (.int .i64 (h:Int))\/(hi=none/\h=s.size)) (ha:l<=h) (hb:h<=s.size):
 (xcX t (.string s) lo hi none).run P w=.ok (.string<|s.extract l h) w:=by
 have b1:(0:Int)<=(l:Int)/\(l:Int)<=(h:Int):=by lia
 have b2:(0:Int)<=(h:Int)/\(h:Int)<=(s.size:Int):=by lia
 unfold xcX;simp only[xas,run_underlying ht,xad];unfold xfL;simp only[xas,run_underlying ht,xad];unfold xdX
 rcases hl with rfl|⟨rfl,rfl⟩<;>rcases hh with rfl|⟨rfl,rfl⟩<;>
  simp[xeo,asIntOf,iq b1,iq b2,ha,hb]
theorem rq(s:ByteArray)(l h:Nat):yO (s.extract l h)=((yO s).drop l).take (h-l):=by simp_all [yO]
theorem zd6(hT:yZ P cf.tt)(hL:jN P cf.tt){lo hi:Option Operand}{k:List (Nat×Dv)->Option R}(h:Ma cf cx σ t x lo hi k=some r):∃l,k l=some r/\ES P ⟨d,.slice t x lo hi none,ty,pos,aft,g⟩ cx σ F l:=by
 have hx:∀{vs env S w},(∀t'∈yA (.slice t x lo hi none),Lk P vs env S w cx σ t')->Z8 P vs env S w cx σ x:=fun hl=>yK hl (by simp[xaM]);have hc:∀{vs env S w z},lo=some z->(∀t'∈yA (.slice t x lo hi none),Lk P vs env S w cx σ t')->Z8 P vs env S w cx σ z:=fun e hl=>yK hl (by simp[xaM,e]);have hd:∀{vs env S w z},hi=some z->(∀t'∈yA (.slice t x lo hi none),Lk P vs env S w cx σ t')->Z8 P vs env S w cx σ z:=fun e hl=>yK hl (by simp[xaM,e]);unfold Ma at h;split at h
 ·next e E B s xs ht he=>
  obtain⟨hm,h⟩:=yi h;cases hm;obtain⟨bytes,zero,hk⟩:=VQ hT hL ht
  have fin:∀{l m:Nat}{zs:List e.D},l<=m->m<=xaI xs->zs=(xdA l xs).take (m-l)->(∀vs env S w,(∀t'∈yA (.slice t x lo hi none),Lk P vs env S w cx σ t')->((lo.map<|ev env)=some (.int .i64 (l:Int))\/(lo=none/\l=0))/\((hi.map<|ev env)=some (.int .i64 (m:Int))\/(hi=none/\m=xaI xs)))->
   k [(0,.d (.l e) zs)]=some r->∃l,k l=some r/\ES P ⟨d,.slice t x lo hi none,ty,pos,aft,g⟩ cx σ F l:=by
   intro l m zs h1 h2 h3 h4 h5;subst h3;refine⟨_,h5,jR fun env w S vs hM hl=> ?_⟩;obtain⟨h6,h7⟩:=h4 vs env S w hl;exact⟨_,_,_,_,[fV (eS e.rep) xs<|ev env x],[],Ia (e:=e.rep) (xs:=xs) (l:=l) (h:=m) rfl (vn hT ht) hk h6 h7 h1 h2<|fun S w h=>h.1,trivial,⟨zk he<|hx hl,trivial⟩,fun u w' _ hf=>zo hf.1⟩
  rcases Q9 h with⟨e1,h1⟩|⟨zl,l,e1,h1,hb⟩
  ·rcases Q9 h1 with⟨e2,h2⟩|⟨zh,m,e2,h2,ha⟩
   ·exact fin (l:=0) (m:=xaI xs) (xah _) (xab _) (zfy (α:=e.D) xs) (fun vs env S w hl=>⟨.inr ⟨e1,rfl⟩,.inr ⟨e2,rfl⟩⟩) h2
   ·obtain⟨h3,h4⟩:=kG h2;obtain⟨zs,hz,h5⟩:=xq h4;exact fin (l:=0) (m:=m) (xah _) h3 hz (fun vs env S w hl=>⟨.inr ⟨e1,rfl⟩,.inl<|by rw[e2];exact congrArg some<|ha P vs env S w<|hd e2 hl⟩) h5
  ·rcases Q9 h1 with⟨e2,h2⟩|⟨zh,m,e2,h2,ha⟩
   ·obtain⟨h3,h4⟩:=kG h2;obtain⟨zs,hz,h5⟩:=xq h4;exact fin (l:=l) (m:=xaI xs) h3 (xab _) (hz.trans<|zfY (α:=e.D) xs l) (fun vs env S w hl=>⟨.inl (by rw[e1];exact congrArg some<|hb P vs env S w<|hc e1 hl),.inr ⟨e2,rfl⟩⟩) h5
   ·obtain⟨h3,h4⟩:=kG h2;obtain⟨zs,hz,h5⟩:=xq h4;exact fin (l:=l) (m:=m) h3.1 h3.2 hz (fun vs env S w hl=>⟨.inl (by rw[e1];exact congrArg some<|hb P vs env S w<|hc e1 hl),.inl<|by rw[e2];exact congrArg some<|ha P vs env S w<|hd e2 hl⟩) h5
 ·next e E B o ht he=>
  split at h
  ·next s E' xs ho=>
   obtain⟨hm,h⟩:=yi h;cases hm;obtain⟨bytes,zero,hk⟩:=VQ hT hL ht
   have key:∀(l m:Nat),l<=m->m<=xaI xs->k [(0,.sv o e l<|m-l)]=some r->(∀vs env S w,(∀t'∈yA (.slice t x lo hi none),Lk P vs env S w cx σ t')->((lo.map<|ev env)=some (.int .i64 (l:Int))\/(lo=none/\l=0))/\((hi.map<|ev env)=some (.int .i64 (m:Int))\/(hi=none/\m=xaI xs)))->
    ∃l,k l=some r/\ES P ⟨d,.slice t x lo hi none,ty,pos,aft,g⟩ cx σ F l:=by
    intro l m h1 h2 h5 h4;refine⟨_,h5,fun env w S vs hS hM hl=> ?_⟩;obtain⟨h6,h7⟩:=h4 vs env S w hl;have hn:ev env x=vs o:=zk he<|hx hl;rcases KG (show(mO e.rep E' (vs o) xs).p S w from uY hM ho)with⟨hv,hg⟩|⟨b,cap,hv,hq,hu⟩
    ·refine(Ia (e:=e.rep) (xs:=([]:List e.D)) (l:=l) (h:=m) rfl (vn hT ht) hk h6 (by rw[hg]at h7;exact h7) h1 (by rw[hg]at h2;exact h2) (Γ:=[fV (eS e.rep) ([]:List e.D)<|ev env x]) (fun S w h=>h.1) (ms:=[]) w S hS trivial ⟨?_,trivial⟩).mono ?_
     ·rw[hn,hv];exact xm.2 ⟨none,0,rfl,xab _,xah _,.inl rfl⟩
     ·rintro v w' ⟨u,rfl,_,hs,hf⟩;refine⟨hs,zo (.inr ?_)⟩;have hw:m=0:=by rw[hg]at h2;exact Nat.le_zero.1 h2
      obtain⟨ao,c,q1,q2,q3,_⟩:=xm.1 hf.1;refine⟨by lia,ao,c,by unfold maxLen at q3;lia,?_⟩;rw[q1];simp
    ·have hr:=oJ (P:=P) (b:=b) (o:=0) (n:=xaI xs) (cap:=cap) (w:=w) (l:=l) (h:=m) (vn hT ht) hk (h6.imp id fun q=>⟨by rw[q.1];rfl,q.2⟩) (h7.imp id fun q=>⟨by rw[q.1];rfl,q.2⟩) h1<|xam h2 hq;rw[<-hv,<-hn]at hr;refine kv.of_value (v:=.slice (if cap=l then some ⟨b,0,none⟩else some ((⟨b,0,none⟩:Addr).add<|l*e.rep.n)) (m-l)<|cap-l) (w':=w) (by simp[execOp,hr]) ⟨yq.refl _ _,zo ?_⟩;by_cases hp:cap=l
     ·rw[iq hp];refine .inr ⟨by lia,some ⟨b,0,none⟩,cap-l,by lia,?_⟩;rw[show m-l=0 by lia]
     ·rw[ir hp];exact .inl ⟨b,xaI xs,cap,cap-l,hv,by lia,by lia,by lia,by rw[qc]⟩
   rcases Q9 h with⟨e1,h1⟩|⟨zl,l,e1,h1,hb⟩
   ·rcases Q9 h1 with⟨e2,h2⟩|⟨zh,m,e2,h2,ha⟩
    ·exact key 0 (xaI xs) (xah _) (xab _) h2<|fun vs env S w hl=>⟨.inr ⟨e1,rfl⟩,.inr ⟨e2,rfl⟩⟩
    ·obtain⟨h3,h4⟩:=kG h2;exact key 0 m (xah _) h3 h4<|fun vs env S w hl=>⟨.inr ⟨e1,rfl⟩,.inl<|by rw[e2];exact congrArg some<|ha P vs env S w<|hd e2 hl⟩
   ·rcases Q9 h1 with⟨e2,h2⟩|⟨zh,m,e2,h2,ha⟩
    ·obtain⟨h3,h4⟩:=kG h2;exact key l (xaI xs) h3 (xab _) h4<|fun vs env S w hl=>⟨.inl (by rw[e1];exact congrArg some<|hb P vs env S w<|hc e1 hl),.inr ⟨e2,rfl⟩⟩
    ·obtain⟨h3,h4⟩:=kG h2;exact key l m h3.1 h3.2 h4<|fun vs env S w hl=>⟨.inl (by rw[e1];exact congrArg some<|hb P vs env S w<|hc e1 hl),.inl<|by rw[e2];exact congrArg some<|ha P vs env S w<|hd e2 hl⟩
  ·cases h
 ·next q B xs ht he=>
  have fin:∀{l m:Nat}{zs:List Nat},l<=m->m<=xaI xs->zs=(xdA l xs).take (m-l)->(∀vs env S w,(∀t'∈yA (.slice t x lo hi none),Lk P vs env S w cx σ t')->((lo.map<|ev env)=some (.int .i64 (l:Int))\/(lo=none/\l=0))/\((hi.map<|ev env)=some (.int .i64 (m:Int))\/(hi=none/\m=xaI xs)))->
   k [(0,.d .tx zs)]=some r->∃l,k l=some r/\ES P ⟨d,.slice t x lo hi none,ty,pos,aft,g⟩ cx σ F l:=by
   intro l m zs h1 h2 h3 h4 h5;refine⟨_,h5,zD fun env w S vs hl=> ?_⟩;obtain⟨h6,h7⟩:=h4 vs env S w hl;obtain⟨s,e1,e2,e3⟩:=GH<|zk he<|hx hl;have hj:(yO s).length=s.size:=qs s;rw[e2]at hj;have hr:=M4 (P:=P) (s:=s) (l:=l) (h:=m) (w:=w) (De hT ht) (h6.imp id fun q=>⟨by rw[q.1];rfl,q.2⟩) (h7.imp id fun q=>⟨by rw[q.1];rfl,by rw[q.2];exact hj⟩) h1 (by rw[<-hj];exact h2);rw[<-e1]at hr;refine⟨.string<|s.extract l m,by simp[execOp,hr],zo<|Hx (by rw[rq,e2,h3]) ?_⟩;rw[<-qs,rq,e2];have h2:m<=xaI (α:=Nat) xs:=h2;rw[xav];lia
  rcases Q9 h with⟨e1,h1⟩|⟨zl,l,e1,h1,hb⟩
  ·rcases Q9 h1 with⟨e2,h2⟩|⟨zh,m,e2,h2,ha⟩
   ·exact fin (l:=0) (m:=xaI (α:=Nat) xs) (xah _) (xab _) (zfy (α:=Nat) xs) (fun vs env S w hl=>⟨.inr ⟨e1,rfl⟩,.inr ⟨e2,rfl⟩⟩) h2
   ·obtain⟨h3,h4⟩:=kG h2;obtain⟨zs,hz,h5⟩:=xq h4;exact fin (l:=0) (m:=m) (xah _) h3 hz (fun vs env S w hl=>⟨.inr ⟨e1,rfl⟩,.inl<|by rw[e2];exact congrArg some<|ha P vs env S w<|hd e2 hl⟩) h5
  ·rcases Q9 h1 with⟨e2,h2⟩|⟨zh,m,e2,h2,ha⟩
   ·obtain⟨h3,h4⟩:=kG h2;obtain⟨zs,hz,h5⟩:=xq h4;exact fin (l:=l) (m:=xaI (α:=Nat) xs) h3 (xab _) (hz.trans<|zfY (α:=Nat) xs l) (fun vs env S w hl=>⟨.inl (by rw[e1];exact congrArg some<|hb P vs env S w<|hc e1 hl),.inr ⟨e2,rfl⟩⟩) h5
   ·obtain⟨h3,h4⟩:=kG h2;obtain⟨zs,hz,h5⟩:=xq h4;exact fin (l:=l) (m:=m) h3.1 h3.2 hz (fun vs env S w hl=>⟨.inl (by rw[e1];exact congrArg some<|hb P vs env S w<|hc e1 hl),.inl<|by rw[e2];exact congrArg some<|ha P vs env S w<|hd e2 hl⟩) h5
 ·cases h
theorem zjC(hT:yZ P cf.tt){k:List (Nat×Dv)->Option R}(h:zgy cf cx σ t x y k=some r):∃l,k l=some r/\ES P ⟨d,.index t x y,ty,pos,aft,g⟩ cx σ F l:=by
 have hx:∀{vs env S w},(∀t'∈yA (.index t x y),Lk P vs env S w cx σ t')->Z8 P vs env S w cx σ x:=fun hl=>yK hl (by simp[xaM]);have hy:∀{vs env S w},(∀t'∈yA (.index t x y),Lk P vs env S w cx σ t')->Z8 P vs env S w cx σ y:=fun hl=>yK hl (by simp[xaM]);unfold zgy at h;split at h
 ·next q B xs ht hd=>
  obtain⟨j,hj,h,hi⟩:=FR h;obtain⟨z,hz,h⟩:=xq h;refine⟨_,h,zD fun env w S vs hl=> ?_⟩;obtain⟨s,e1,e2,_⟩:=GH<|zk hd<|hx hl;obtain⟨ik,e3⟩:=hi P vs env S w<|hy hl;have ha:(yO s).length=s.size:=qs s;have hb:j<s.size:=by rw[<-ha,e2];exact hj
  have hc:z=(s[j]'hb).toNat:=by
   rw[hz,<-e2];unfold yO;rw[H1,xaT,xaa<|by rw[<-ha]at hb;simpa[yO]using hb];rfl
  have hr:=run_index_string (P:=P) w t s ik (j:Int)<|De hT ht;rw[dif_pos ⟨by lia,by lia⟩]at hr;refine⟨.int .u8 (z:Int),?_,zo<|B8<|by rw[hc];exact UInt8.toNat_lt _⟩;simp only[xaK]at hr;rw[hc];simp[execOp,e1,e3,hr]
 ·cases h
theorem zjD{E:TypeId}{k:List (Nat×Dv)->Option R}(h:zic cf cx σ E x k=some r):∃l,k l=some r/\ES P ⟨d,.box E x,ty,pos,aft,g⟩ cx σ F l:=by
 unfold zic at h;split at h
 ·next ti ha=>
  obtain⟨y,h,hy⟩:=XZ h;exact⟨_,h,jR fun env w S vs hM hl=>⟨_,_,_,_,[fV ti.ty.rep y<|ev env x],[],zg1 (e:=ti.ty.rep) (z:=y) rfl<|fun S w h=>h.1,trivial,⟨hy P vs env S w (yK hl<|by simp[xaM]),trivial⟩,fun u w' _ hf=>zo hf.1⟩⟩
 ·cases h
theorem zjF(hT:yZ P cf.tt){ags:Array Operand}{ts:Array TypeId}{k:List (Nat×Dv)->Option R}(h:zgA cf cx σ ags.toList ts.toList k=some r):
 ∃l,k l=some r/\ES P ⟨d,.call ⟨.builtin .len,ags,ts⟩,ty,pos,aft,g⟩ cx σ F l:=by
 unfold zgA at h;split at h
 ·next _ _ x t hc hd=>
  obtain rfl:ags= #[x]:=by cases ags;simp_all
  obtain rfl:ts= #[t]:=by cases ts;simp_all
  have hx:∀{vs env S w},(∀t'∈yA (.call ⟨.builtin .len,#[x],#[t]⟩),Lk P vs env S w cx σ t')->Z8 P vs env S w cx σ x:=fun hl=>yK hl (by simp[xaM,xek]);split at h
  ·next e E B ht=>
   have hu:=vn hT ht;split at h
   ·next ha=>exact⟨_,h,zD fun env w S vs hl=>⟨_,Hi hu (zk ha<|hx hl) w,zo<|xM<|by decide⟩⟩
   ·next s xs ha=>
    exact⟨_,h,jR fun env w S vs hM hl=>⟨_,_,_,_,[fV (eS s.rep) xs<|ev env x],[],zh9 (e:=s.rep) (xs:=xs) hu rfl<|fun S w h=>h.1,trivial,⟨zk ha<|hx hl,trivial⟩,fun u w' hk hf=>zo<|xM<|Gb hk⟩⟩
   ·next o ha=>
    split at h
    ·next s E' xs ho=>
     exact⟨_,h,jR fun env w S vs hM hl=>⟨_,_,_,_,[],[mO s.rep E' (vs o) xs],DH 0 rfl hu<|zk ha<|hx hl,⟨uY hM ho,trivial⟩,trivial,fun u w' hk hf=>zo<|xM<|Gb hk⟩⟩
    ·cases h
   ·cases h
  ·next q B ht=>
   have hu:=De hT ht;split at h
   ·next xs ha=>
    refine⟨_,h,zD fun env w S vs hl=> ?_⟩;obtain⟨s,e1,e2,e3⟩:=GH<|zk ha<|hx hl;have hb:(yO s).length=s.size:=qs s;rw[e2]at hb;have hb:xaI (α:=Nat) xs=s.size:=hb;refine⟨.int .i64 ((xaI (α:=Nat) xs:Nat):Int),?_,zo<|xM<|by lia⟩;rw[hb];simp[execOp,resolve,invoke,builtin,e1,Builtin.len_,goInt,run_underlying hu]
   ·cases h
  ·cases h
 ·cases h
theorem zjn{b:Bool}{ags:Array Operand}{ts:Array TypeId}{k:List (Nat×Dv)->Option R}(h:eMM cx b σ ags.toList k=some r):
 ∃l,k l=some r/\ES P ⟨d,.call ⟨.builtin (if b=true then .max else .min),ags,ts⟩,ty,pos,aft,g⟩ cx σ F l:=by
 unfold eMM at h;split at h
 ·next _ x y hb=>
  obtain rfl:ags= #[x,y]:=by cases ags;simp_all
  have hx:∀{bl vs env S w},(∀t'∈yA (.call ⟨.builtin bl,#[x,y],ts⟩),Lk P vs env S w cx σ t')->Z8 P vs env S w cx σ x:=fun hl=>yK hl (by simp[xaM,xek]);have hy:∀{bl vs env S w},(∀t'∈yA (.call ⟨.builtin bl,#[x,y],ts⟩),Lk P vs env S w cx σ t')->Z8 P vs env S w cx σ y:=fun hl=>yK hl (by simp[xaM,xek]);split at h
  ·next a c ha hc=>
   cases b
   ·have h:nm (min (α:=Int) a c) (fun z=>k [(0,zhy z)])=some r:=h;obtain⟨z,hz,h⟩:=xq h;exact⟨_,h,zD fun env w S vs hl=>⟨_,v_i (zi2 (xW ha<|hx hl).1 (xW hc<|hy hl).1) hz w,zo<|xM<|zcv hz<|zj0 (xW ha<|hx hl).2 (xW hc<|hy hl).2⟩⟩
   ·have h:nm (max (α:=Int) a c) (fun z=>k [(0,zhy z)])=some r:=h;obtain⟨z,hz,h⟩:=xq h;exact⟨_,h,zD fun env w S vs hl=>⟨_,v_i (ziZ (xW ha<|hx hl).1 (xW hc<|hy hl).1) hz w,zo<|xM<|zcv hz<|zjN (xW ha<|hx hl).2 (xW hc<|hy hl).2⟩⟩
  ·cases h
 ·cases h
end
end
section
def PH(S:Nat->Prop)(w:World):(ts:List Ty)->dn ts->List (Nat×Value)->Prop
 |[],_,[]=>True
 |t::ts,y,(_,v)::r=>(fV t.rep y.1 v).p S w/\PH S w ts y.2 r
 |_,_,_=>False
theorem PH.keep{S:Nat->Prop}{w w':World}(k:yq S w w'):∀{ts:List Ty}{ys:dn ts}{ps:List (Nat×Value)},PH S w ts ys ps->PH S w' ts ys ps
 |[],_,[],h=>trivial
 |t::_,y,(_,v)::_,h=>⟨(fV t.rep y.1 v).keep h.1 k,PH.keep k h.2⟩
 |[],_,_::_,h=>h.elim
 |_::_,_,[],h=>h.elim
theorem PH.sub{S S':Nat->Prop}{w:World}(k:∀k,k<w.heap.size->S k->S' k):∀{ts:List Ty}{ys:dn ts}{ps:List (Nat×Value)},PH S w ts ys ps->PH S' w ts ys ps
 |[],_,[],h=>trivial
 |t::_,y,(_,v)::_,h=>⟨(fV t.rep y.1 v).sub h.1 k,PH.sub k h.2⟩
 |[],_,_::_,h=>h.elim
 |_::_,_,[],h=>h.elim
def phF(ts:List Ty)(ys:dn ts)(ps:List (Nat×Value)):FF:=⟨fun S w=>PH S w ts ys ps,fun h k=>PH.keep k h,fun h k=>PH.sub k h⟩
section
variable{P:Program}{cf:Cf}{cx σ:Sg}{F:List MF}{vs:Nat->Value}{env:yN}{S:Nat->Prop}{w:World}{R:Type}{r:R}
 {d:Option Tmp}{ty t yt:TypeId}{pos:String}{aft:Array Edge}{g:Option (Nat×Bool)}{x y:Operand}
theorem fJ:∀{ts:List Ty}{ps:List (Nat×Operand)}{j:Nat}{k:dn ts->Option R},x8 cx σ ts ps j k=some r->
 ∃ys,k ys=some r/\ps.map (·.1)=xfp j ps.length/\∀(P:Program) vs env S w,(∀x∈ps.map (·.2),Z8 P vs env S w cx σ x)->PH S w ts ys (ps.map fun q:Nat×Operand=>(q.1,ev env q.2))
 |[],[],j,k,h=>⟨(),h,rfl,fun _ _ _ _ _ _=>trivial⟩
 |t::ts,(i,x)::ps,j,k,h=>by
  unfold x8 at h;obtain⟨ha,h⟩:=yh h;obtain⟨y,h,hy⟩:=XZ h;obtain⟨ys,h1,h2,h3⟩:=fJ h;refine⟨(y,ys),h1,?_,fun P vs env S w hl=>⟨hy P vs env S w<|hl x<|FS,h3 P vs env S w fun z hz=>hl z<|UV _ hz⟩⟩;simp only[xbX,xaq,List.range'_succ,h2,z8 ha]
 |[],_::_,j,k,h=>by simp[x8]at h
 |_::_,[],j,k,h=>by simp[x8]at h
theorem zfS{i:Nat}{v:Value}:qj [(i,v)]=v.cells.toList:=by simp[qj]
theorem zkR{k:Nat}{s t:Ty}:Q6 (k+2) (.p s t) 0=some ⟨0,s,fun z=>z.1,fun y z=>(y,z.2)⟩:=rfl
theorem zkX{k:Nat}{s t:Ty}{i:Nat}{f:Fl t.D}(h:Q6 (k+1) t i=some f):Q6 (k+2) (.p s t) (i+1)=some ⟨s.n+f.off,f.f,fun z=>f.get z.2,fun y z=>(z.1,f.set y z.2)⟩:=by
 simp only[Q6,h]
theorem zcZ{pl:Array (Nat×Nat)}:∀{k:Nat}{t:Ty}{o j:Nat}{ys:dn (Su k t)}{ps:List (Nat×Value)}{z:t.D},(∀i f,Q6 k t i=some f->pl[j+i]? =some (o+f.off,f.f.n))->
 ps.map (·.1)=xfp j ps.length->PH S w (Su k t) ys ps->K7 k t ys=some z->JW (pl[·]?) ps o/\t.rep.p S z (qj ps) w
 |0,_,_,_,_,_,_,_,_,_,h=>by simp[K7]at h
 |1,t,o,j,ys,[],z,hp,hi,h,hj=>h.elim
 |1,t,o,j,ys,[(i,v)],z,hp,hi,h,hj=>by
  simp only[K7,xaz]at hj;subst hj;have ha:i=j:=by simpa using hi
  subst ha;have h0:=hp 0 (Fl.self t) rfl;have hs:=zcS h.1;rw[t.n_rep]at hs;refine⟨⟨?_,trivial⟩,by rw[zfS];exact ZZ h.1⟩;show pl[i]? =_;rw[hs];simpa[Fl.self]using h0
 |1,t,o,j,ys,_::_::_,z,hp,hi,h,hj=>h.2.elim
 |k+2,.p s t,o,j,ys,[],z,hp,hi,h,hj=>h.elim
 |k+2,.p s t,o,j,ys,(i,v)::ps,z,hp,hi,h,hj=>by
  unfold K7 at hj;split at hj
  ·next y hy=>
   obtain rfl:=xdv hj;simp only[xbX,xaq,List.range'_succ,xez]at hi;obtain⟨rfl,hi⟩:=hi;have h0:=hp 0 _ zkR;have hs:=zcS h.1;rw[s.n_rep]at hs;obtain⟨h1,h2⟩:=zcZ (o:=o+s.n) (j:=i+1) (pl:=pl) (fun i' f hf=>by
    have:=hp (i'+1) _<|zkX hf;rw[show i+1+i'=i+(i'+1)by lia,this];simp only[xcR]) hi h.2 hy
   refine⟨⟨?_,by rw[hs];exact h1⟩,?_⟩
   ·show pl[i]? =_;rw[hs];simpa using h0
   ·rw[B5];exact⟨_,_,rfl,ZZ h.1,h2⟩
  ·cases hj
 |k+2,.i,_,_,_,_,_,_,_,_,h=>by simp[K7]at h
 |k+2,.u,_,_,_,_,_,_,_,_,h=>by simp[K7]at h
 |k+2,.b,_,_,_,_,_,_,_,_,h=>by simp[K7]at h
 |k+2,.l _,_,_,_,_,_,_,_,_,h=>by simp[K7]at h
 |k+2,.a _ _,_,_,_,_,_,_,_,_,h=>by simp[K7]at h
theorem ai:∀(n:Nat) (t:Ty) (ys:dn (AA n t)),(fS n t ys).length=n
 |0,_,_=>rfl
 |n+1,t,ys=>congrArg (· +1)<|ai n t ys.2
theorem Ef{t:Ty}:∀{n j:Nat}{ys:dn (AA n t)}{ps:List (Nat×Value)},ps.map (·.1)=xfp j ps.length->PH S w (AA n t) ys ps->
 JW (fun i=>some (i*t.rep.n,t.rep.n)) ps (j*t.rep.n)/\yu t.rep S (fS n t ys) (qj ps) w
 |0,_,_,[],_,_=>⟨trivial,rfl⟩
 |0,_,_,_::_,_,h=>h.elim
 |n+1,_,_,[],_,h=>h.elim
 |n+1,j,ys,(i,v)::ps,hi,h=>by
  simp only[xbX,xaq,List.range'_succ,xez]at hi;obtain⟨rfl,hi⟩:=hi;have hs:=zcS h.1;obtain⟨h1,h2⟩:=Ef hi h.2;refine⟨⟨by rw[hs],?_⟩,?_⟩
  ·rw[hs,show i*t.rep.n+t.rep.n=(i+1)*t.rep.n by rw[xaV,xcm]];exact h1
  ·rw[B5];exact⟨_,_,rfl,ZZ h.1,h2⟩
theorem zdD(hT:yZ P cf.tt){ps:Array (Nat×Operand)}{k:List (Nat×Dv)->Option R}(h:Mo cf cx σ t ps.toList k=some r):∃l,k l=some r/\ES P ⟨d,.build t ps,ty,pos,aft,g⟩ cx σ F l:=by
 unfold Mo at h;split at h
 ·next e n B ht=>
  obtain⟨zero,hc,hd,hi⟩:=Vv hT ht;obtain⟨ha,_,⟨fs,hk,pl,hm,ho⟩,_⟩:=(hT _ _ ht).2.2.2;simp only at hc hd hi ha ho;split at h
  ·next hr=>
   obtain rfl:ps= #[]:=by cases ps;simp_all
   exact⟨_,h,jR fun env w S vs hM hl=>⟨_,_,_,_,[],[],zel (e:=e.rep) (z:=e.z) (ha▸hc) ha hd (.inl ⟨fs,hk,pl,hm⟩) hi,trivial,trivial,fun u w' _ hf=>zo hf.1⟩⟩
  ·next i x hr=>
   obtain rfl:ps= #[(i,x)]:=by cases ps;simp_all
   split at h
   ·next f hf=>
    obtain⟨y,h,hy⟩:=XZ h;refine⟨_,h,jR fun env w S vs hM hl=>⟨_,_,_,_,[fV f.f.rep y<|ev env x],[],Rs (e:=e.rep) (f:=f.f.rep) (z0:=e.z) (y:=y) (ha▸hc) ha hi (cQ hf e.z) ⟨fs,hk,hm⟩ (by rw[f.f.n_rep];exact ho i f hf) rfl (fun S w h=>h.1) rfl,trivial,⟨hy P vs env S w (yK hl<|by simp[xaM]),trivial⟩,fun u w' _ hf=>zo hf.1⟩⟩
   ·cases h
  ·next ps' hu hv=>
   obtain⟨ys,h,he,hp⟩:=fJ h;split at h
   ·next z hz=>
    refine⟨_,h,jR fun env w S vs hM hl=> ?_⟩;have hq:=hp P vs env S w fun x hx=>yK hl (by simpa[xaM]using hx);have hb:(ps.toList.map fun q:Nat×Operand=>(q.1,ev env q.2)).map (·.1)=xfp 0 (ps.toList.map fun q:Nat×Operand=>(q.1,ev env q.2)).length:=by rw[xcT,xaP];exact he
    have hj:=fun(S:Nat->Prop) (w:World) (h:PH S w (Su n e) ys (ps.toList.map fun q:Nat×Operand=>(q.1,ev env q.2)))=>zcZ (pl:=pl) (o:=0) (j:=0) (fun i f hf=>by rw[xaN,xaN];exact ho i f hf) hb h hz;exact⟨_,_,_,_,[phF _ ys (ps.toList.map fun q:Nat×Operand=>(q.1,ev env q.2))],[],HD (e:=e.rep) (z:=z) (x8:=ps.toList) (ha▸hc) ha hd rfl (.inl ⟨fs,hk,pl,hm,fun S w h=>(hj S w h.1).1⟩)<|fun S w h=>(hj S w h.1).2,trivial,⟨hq,trivial⟩,fun u w' _ hf=>zo hf.1⟩
   ·cases h
 ·next n e n' E B ht=>
  obtain⟨hg,h⟩:=yh h;rw[xao]at hg;have hn:=z8 hg.1;subst hn;obtain⟨b2,z2,hs⟩:=zat hT hg.2;obtain⟨ys,h,he,hp⟩:=fJ h;obtain⟨zero,hc,hd,hi⟩:=Vv hT ht;refine⟨_,h,jR fun env w S vs hM hl=> ?_⟩;have hq:=hp P vs env S w fun x hx=>yK hl (by simpa[xaM]using hx);have hb:(ps.toList.map fun q:Nat×Operand=>(q.1,ev env q.2)).map (·.1)=xfp 0 (ps.toList.map fun q:Nat×Operand=>(q.1,ev env q.2)).length:=by rw[xcT,xaP];exact he
  have hj:=fun(S:Nat->Prop) (w:World) (h:PH S w (AA n' e) ys (ps.toList.map fun q:Nat×Operand=>(q.1,ev env q.2)))=>Ef hb h;exact⟨_,_,_,_,[phF _ ys (ps.toList.map fun q:Nat×Operand=>(q.1,ev env q.2))],[],HD (e:=(Ty.a n' e).rep) (z:=fS n' e ys) (x8:=ps.toList) hc rfl hd rfl (.inr ⟨_,_,_,_,_,_,zaK hT ht,hs,fun S w h=>by have:=(hj S w h.1).1;rwa[xcv]at this⟩)<|fun S w h=>⟨ai n' e ys,(hj S w h.1).2⟩,trivial,⟨hq,trivial⟩,fun u w' _ hf=>zo hf.1⟩
 ·cases h
theorem zaC{s E:TypeId}{e:Ty}{B:Nat}(hT:yZ P cf.tt)(hL:jN P cf.tt)(h:Ye cf s=some ⟨.l e,.sl E,B⟩):0<e.rep.n:=by
 obtain⟨ti,h1,rfl⟩:=hL _ _ _ _ h;exact(hT _ _ h1).2.2.1
theorem zkr(hT:yZ P cf.tt)(hL:jN P cf.tt){n:Nat}{ps:Array (Nat×Operand)}{k:List (Nat×Dv)->Option R}(h:zgS cf cx σ t n ps.toList k=some r):∃l,k l=some r/\ES P ⟨d,.buildSlice t n ps,ty,pos,aft,g⟩ cx σ F l:=by
 unfold zgS at h;split at h
 ·next e E B ht=>
  obtain⟨ha,h⟩:=yh h;have ha:=xbM ha;rw[<-e.n_rep]at ha;obtain⟨ys,h,hc,hd⟩:=fJ h;obtain⟨bytes,zero,he⟩:=VQ hT hL ht;refine⟨_,h,jR fun env w S vs hM hl=> ?_⟩;have hg:=hd P vs env S w fun x hx=>yK hl (by simpa[xaM]using hx);have hb:(ps.toList.map fun q:Nat×Operand=>(q.1,ev env q.2)).map (·.1)=xfp 0 (ps.toList.map fun q:Nat×Operand=>(q.1,ev env q.2)).length:=by rw[xcT,xaP];exact hc
  have hj:=fun(S:Nat->Prop) (w:World) (h:PH S w (AA n e) ys (ps.toList.map fun q:Nat×Operand=>(q.1,ev env q.2)))=>Ef hb h;exact⟨_,_,_,_,[phF _ ys (ps.toList.map fun q:Nat×Operand=>(q.1,ev env q.2))],[],AE (e:=e.rep) (zs:=fS n e ys) (x8:=ps.toList) (vn hT ht) he (zaC hT hL ht) (ai n e ys) ha rfl (fun S w h=>by have:=(hj S w h.1).1;rwa[xcv]at this)<|fun S w h=>(hj S w h.1).2,trivial,⟨hg,trivial⟩,fun u w' _ hf=>zo hf.1⟩
 ·cases h
theorem Tc:∀{xs:List Operand}{l:List PD},Jh cx σ xs=some l->l.length=xs.length/\∀(P:Program) vs env S w,(∀x∈xs,Z8 P vs env S w cx σ x)->zA S (Ea l<|xs.map<|ev env) w
 |[],l,h=>by simp only[Jh,xaz]at h;subst h;exact⟨rfl,fun _ _ _ _ _ _=>trivial⟩
 |x::xs,l,h=>by
  unfold Jh at h;split at h
  ·next t y l' hx hr=>
   simp only[xaz]at h;subst h;obtain⟨h1,h2⟩:=Tc hr;exact⟨by simp[h1],fun P vs env S w hl=>⟨zk hx<|hl x<|FS,h2 P vs env S w fun z hz=>hl z<|UV _ hz⟩⟩
  ·cases h
theorem zj1{f:Go.Fn}{first cs:Array Operand}{k:List (Nat×Dv)->Option R}(h:zha cx σ f first.toList cs.toList k=some r):∃l,k l=some r/\ES P ⟨d,.makeFunc f first cs,ty,pos,aft,g⟩ cx σ F l:=by
 unfold zha at h;split at h
 ·next _ _ _ f' l hf hc=>
  obtain rfl:first= #[]:=by cases first;simp_all
  obtain⟨h1,h2⟩:=Tc hc;refine⟨_,h,zD fun env w S vs hl=>⟨_,zlh (xs:=cs.toList) rfl w,zo ?_⟩⟩;exact⟨_,rfl,by simp[h1],h2 P vs env S w fun x hx=>yK hl<|by simpa[xaM]using hx⟩
 ·cases h
end
end
section
section
variable{P:Program}{cf:Cf}{cx σ:Sg}{F:List MF}{vs:Nat->Value}{env:yN}{S:Nat->Prop}{w:World}{R:Type}{r:R}
 {d:Option Tmp}{ty t yt:TypeId}{pos:String}{aft:Array Edge}{g:Option (Nat×Bool)}{x y:Operand}
theorem BM{A B C:Type}(h:B=C)(p:(A×B)=(A×C))(x:A×B):(p▸x:A×C)=(x.1,h▸x.2):=by subst h;rfl
theorem St.sub'{we:World}{Se:Nat->Prop}{ms:List MF}{Γ Δ:List FF}{w:World}(h:St we Se ms Γ w)(hs:∀f∈Δ,f∈Γ):St we Se ms Δ w:=by grind [St.weak,jK]
theorem zjJ{t:Ty}{n:RM}{r:List RM}(x:dm (.d t::n::r)):(Yz (.d t::n::r)▸x:CA ((RM.d t::n::r).map RM.ty))=((x.1,Yz (n::r)▸x.2):t.D×CA ((n::r).map RM.ty)):=
 BM (A:=t.D) (Yz (n::r)) (Yz (.d t::n::r)) x
theorem ziJ{t:Ty}{E:TypeId}{n:RM}{r:List RM}(x:dm (.own t E::n::r)):(Yz (.own t E::n::r)▸x:CA ((RM.own t E::n::r).map RM.ty))=((x.1,Yz (n::r)▸x.2):(Ty.l t).D×CA ((n::r).map RM.ty)):=
 BM (A:=List t.D) (Yz (n::r)) (Yz (.own t E::n::r)) x
theorem zaH{we:World}{Se:Nat->Prop}:∀{rs:List RM}{x:dm rs}{us:List Value}{F:List MF}{G:List FF}{w:World},
 St we Se (Zc rs x us++F) (Zb rs x us++G) w->St we Se F (csF (rs.map RM.ty) (Yz rs▸x) us++G) w
 |[],_,_,_,_,_,h=>h
 |[.d t],x,us,F,G,w,h=>h
 |[.own t E],x,us,F,G,w,h=>by
  have h:St we Se (mO t.rep E (us.headD undef) x::F) G w:=h;exact Dy 0 h rfl
 |.d t::n::r,x,us,F,G,w,h=>by
  rw[zjJ];have h:St we Se (Zc (n::r) x.2 us.tail++F) (Zb (n::r) x.2 us.tail++(fV t.rep x.1 (us.headD undef)::G)) w:=St.sub' (by simpa[Zc,Zb,rmM,rmF]using h) (by simp;rintro f (h|h|h)<;>simp[h]);have:=zaH h;exact St.sub' this (by
   intro f hf;rcases Nm.1 hf with hf|hf
   ·rcases xac.1 hf with rfl|hf
    ·exact Nm.2 (.inr<|FS)
    ·exact Nm.2 (.inl hf)
   ·exact Nm.2 (.inr<|UV _ hf))
 |.own t E::n::r,x,us,F,G,w,h=>by
  rw[ziJ];have h:St we Se (mO t.rep E (us.headD undef) x.1::(Zc (n::r) x.2 us.tail++F)) (Zb (n::r) x.2 us.tail++G) w:=h;have h:=Dy 0 h rfl;have h:St we Se (Zc (n::r) x.2 us.tail++F) (Zb (n::r) x.2 us.tail++(fV (eS t.rep) x.1 (us.headD undef)::G)) w:=St.sub' h (by simp;rintro f (h|h|h)<;>simp[h]);have:=zaH h;exact St.sub' this (by
   intro f hf;rcases Nm.1 hf with hf|hf
   ·rcases xac.1 hf with rfl|hf
    ·exact Nm.2 (.inr<|FS)
    ·exact Nm.2 (.inl hf)
   ·exact Nm.2 (.inr<|UV _ hf))
theorem DQ:∀{rs:List RM}{x:dm rs}{i:Nat},Re rs x i=zbc (rs.map RM.ty) (Yz rs▸x) i
 |[],_,_=>rfl
 |[.d _],_,_=>rfl
 |[.own _ _],_,_=>rfl
 |.d t::n::r,x,i=>by rw[zjJ];show(i,Dv.d t x.1)::Re (n::r) x.2 (i+1)=_;rw[DQ];rfl
 |.own t E::n::r,x,i=>by rw[ziJ];show(i,Dv.d (.l t) x.1)::Re (n::r) x.2 (i+1)=_;rw[DQ];rfl
theorem Hd:∀rs:List RM,Ju rs=zeC (rs.map RM.ty)
 |[]=>rfl
 |[_]=>rfl
 |_::_::_=>rfl
theorem Td:∀{ts:List Ty}{x:CA ts}{i:Nat}{us:List Value},zA S (csF ts x us) w->us.length=ts.length->∀e∈zbc ts x i,∃j u,e.1=i+j/\us[j]? =some u/\(vv P vs e.2 u).p S w
 |[],_,_,_,_,_,e,he=>absurd he IR
 |[t],x,i,[],h,hl,e,he=>by cases hl
 |[t],x,i,u::us,h,hl,e,he=>by
  obtain rfl:=xai.1 he;exact⟨0,u,rfl,rfl,h.1⟩
 |t::s::r,x,i,[],h,hl,e,he=>by cases hl
 |t::s::r,x,i,u::us,h,hl,e,he=>by
  rcases xac.1 he with rfl|he
  ·exact⟨0,u,rfl,rfl,h.1⟩
  ·obtain⟨j,v,h1,h2,h3⟩:=Td (i:=i+1) h.2 (by simpa using hl) e he;exact⟨j+1,v,by lia,by simpa using h2,h3⟩
theorem sr:∀{ts:List Ty}{x:CA ts}{us:List Value},zA S (csF ts x us) w->us.length=ts.length->∀e∈zbc ts x (bif zeC ts then 0 else 1),(xK P vs e.2 (Yg us) e.1).p S w
 |[],_,_,_,_,e,he=>absurd he IR
 |[t],x,[],_,hl,_,_=>by cases hl
 |[t],x,[v],h,hl,e,he=>by
  obtain rfl:=xai.1 he;exact h.1
 |[t],x,_::_::_,_,hl,_,_=>by simp at hl
 |t::s::q,x,[],_,hl,_,_=>by cases hl
 |t::s::q,x,[_],_,hl,_,_=>by simp at hl
 |t::s::q,x,v::v'::us,h,hl,e,he=>by
  obtain⟨j,u,h1,h2,h3⟩:=Td (P:=P) (vs:=vs) h hl e he;obtain⟨i,dv⟩:=e;simp only[zeC,cond_false]at h1;obtain rfl:i=j+1:=by lia
  exact⟨(v::v'::us).toArray,u,rfl,by simpa using h2,h3⟩
theorem oi:∀{cs:List VB}{f:FuncId}{s:VB},BH cs f=some s->s∈cs/\s.f=f/\o9 s.dom=true/\s.bk=0
 |c::cs,f,s,h=>by
  unfold BH at h;cases hb:xap c.f f && (o9 c.dom && xap c.bk 0)<;>rw[hb]at h
  ·obtain⟨h1,h2⟩:=oi h;exact⟨UV _ h1,h2⟩
  ·simp only[cond_true,xaz]at h;subst h;rw[xao,xao]at hb;exact⟨FS,z8 hb.1,hb.2.1,z8 hb.2.2⟩
theorem eC:∀{dom:List AM}{x:aa dom}{us:List Value},o9 dom=true->Y5 dom x us=[]
 |[],_,_,_=>rfl
 |.d _::r,x,us,h=>eC (dom:=r) (x:=x.2) (us:=us.tail) h
 |.q _::r,x,us,h=>eC (dom:=r) (x:=x.2) (us:=us.tail) h
 |.fn _ _::r,x,us,h=>eC (dom:=r) (x:=x.2) (us:=us.tail) h
 |.own _ _::_,_,_,h=>by cases h
theorem DX:∀{full:List AM}{cs:List PD}{z:aa full},Kf full cs=some z->cs.length=full.length/\∀{S:Nat->Prop}{w:World}{cvs:List Value},cvs.length=cs.length->zA S (Ea cs cvs) w->zA S (kU P full z cvs) w
 |[],[],_,_=>⟨rfl,fun _ _=>trivial⟩
 |.q t::r,c::cs,z,h=>by
  simp only[Kf]at h;obtain⟨e,h⟩:=yi h;subst e;split at h
  ·next z' hz=>
   obtain rfl:=xdv h;obtain⟨h1,h2⟩:=DX hz;refine⟨by simp[h1],fun{S w cvs} hl ha=> ?_⟩
   cases cvs with
   |nil=>cases hl
   |cons v cvs=>exact⟨ha.1,h2 (by simpa using hl) ha.2⟩
  ·cases h
 |[],_::_,_,h=>by simp[Kf]at h
 |.q _::_,[],_,h=>by simp[Kf]at h
 |.d _::_,_,_,h=>by simp[Kf]at h
 |.own _ _::_,_,_,h=>by simp[Kf]at h
 |.fn _ _::_,_,_,h=>by simp[Kf]at h
theorem zah:∀{full:List AM}{dom:List Ty}{x:dn dom}{cs:List PD}{z:aa full},CX full dom x cs=some z->dom.length+cs.length=full.length/\
 ∀{S:Nat->Prop}{w:World}{us cvs:List Value},us.length=dom.length->cvs.length=cs.length->zA S (tsF dom x us) w->zA S (Ea cs cvs) w->zA S (kU P full z<|us++cvs) w
 |full,[],x,cs,z,h=>by
  have h:Kf full cs=some z:=by cases full<;>(try cases‹AM›)<;>simpa[CX]using h
  obtain⟨h1,h2⟩:=DX (P:=P) h;refine⟨by simp[h1],fun{S w us cvs} hl hb _ ha=> ?_⟩;obtain rfl:=xbF.1 hl;exact h2 hb ha
 |.d t::r,s::dom,x,cs,z,h=>by
  simp only[CX]at h;obtain⟨e,h⟩:=yi h;subst e;split at h
  ·next z' hz=>
   obtain rfl:=xdv h;obtain⟨h1,h2⟩:=zah hz;refine⟨by simp;lia,fun{S w us cvs} hl hb ht ha=> ?_⟩
   cases us with
   |nil=>cases hl
   |cons v us=>exact⟨ht.1,h2 (by simpa using hl) hb ht.2 ha⟩
  ·cases h
 |[],_::_,_,_,_,h=>by simp[CX]at h
 |.q _::_,_::_,_,_,_,h=>by simp[CX]at h
 |.own _ _::_,_::_,_,_,_,h=>by simp[CX]at h
 |.fn _ _::_,_::_,_,_,_,h=>by simp[CX]at h
theorem S8{A B:Type}(h:A=B){o:Option A}{r:B}(ho:(h▸o:Option B)=some r):∃r':A,o=some r'/\(h▸r':B)=r:=by
 subst h;exact⟨r,ho,rfl⟩
theorem cd{s:VB}(hs:y6 P s)(hn:o9 s.dom=true)(hk:s.bk=0){z:aa s.dom}{q:dm s.cod}(hz:s.M z=some q){us:List Value}(hl:us.length=s.dom.length):
 Fn P s.f us.toArray (kU P s.dom z us) Yg (fun us=>csF (s.cod.map RM.ty) (Yz s.cod▸q) us) (fun us=>us.length=s.cod.length):=by
 have h:=hs.plain hk hz hl;rw[eC hn]at h;refine Om.frozen h fun u w' we Se ha=> ?_;have:=zaH (rs:=s.cod) (x:=q) (us:=u) (F:=[]) (G:=[]) (by simpa using ha);simpa using this
theorem Fn.weakΓ{U:Type}{f:FuncId}{args:Array Value}{Γ Γ':List FF}{val:U->Value}{facts:U->List FF}{ok:U->Prop}(h:Fn P f args Γ val facts ok)(hs:∀S w,zA S Γ' w->zA S Γ w):Fn P f args Γ' val facts ok:=
 fun w Se h1 h2=>h w Se h1<|hs Se w h2
theorem SR(hC:∀s∈cf.cs,y6 P s){v:Option Dv}{dom cod:List Ty}{k:(dn dom->Option (CA cod))->Option R}(h:asF cf σ v dom cod k=some r):
 ∃g,k g=some r/\∀vs S w (dv:Dv) u,v=some dv->(vv P vs dv u).p S w->(fnF P dom cod g u).p S w:=by
 unfold asF at h;split at h
 ·next f c=>
  split at h
  ·next s hs=>
   obtain⟨h1,h2,h3,h4⟩:=oi hs;have hf:=hC s h1;split at h
   ·next he _=>
    subst he;refine⟨_,h,fun vs S w dv u hd hh=> ?_⟩;cases hd;obtain⟨cs,hu,hi,hj⟩:=hh;refine⟨f,cs,Ea c cs,hu,⟨h2▸hf.1,fun x q hx us hl=> ?_⟩,hj⟩;simp only at hx;split at hx
    ·next z hz=>
     obtain⟨q',hk,hm⟩:=S8 _ hx;obtain⟨hp,hb⟩:=zah (P:=P) hz;have hg:=cd hf h3 h4 hk (us:=us++cs) (by simp;lia);rw[h2]at hg;subst hm;refine(hg.weakΓ fun S w ha=>hb hl hi (zA.left ha)<|zA.right ha).ok_mono fun us hn=>by simpa using hn
    ·cases hx
   ·cases h
  ·cases h
 ·next d' c' g'=>
  split at h
  ·next hd hc _ _=>
   subst hd;subst hc;exact⟨_,h,fun vs S w dv u ho hh=>by cases ho;exact hh⟩
  ·cases h
 ·cases h
end
end
section
def cc(P:Program)(ex:List (Nat×Bool)):Prop:=∀f b,J3 ex f=some b->∃fn,P.funcs[f]? =some fn/\(fn.name== "runtime.NumGoroutine")=false/\fn.body=none/\(xey fn).isNone=true/\
 (b=true->xeV fn=some (fun args=>do
  let(x,y,c)<-xbQ "Add64" args
  pure (xbU ((x+y+c)%xaY)<|(x+y+c)/xaY)))/\
 (b=false->xeV fn=some (fun args=>do
  let(x,y,b)<-xbQ "Sub64" args
  pure (xbU ((x+xaY-y-b)%xaY) (if x<y+b then 1 else 0))))
section
variable{P:Program}{cf:Cf}{cx σ:Sg}{F:List MF}{vs:Nat->Value}{env:yN}{S:Nat->Prop}{w:World}{R:Type}{r:R}
 {d:Option Tmp}{ty t yt:TypeId}{pos:String}{aft:Array Edge}{g:Option (Nat×Bool)}{x y:Operand}
theorem ziR{x y z:Nat}{k:List (Nat×Dv)->Option R}(h:exU true x y z k=some r):z<=1/\∃p q:Nat,p=(x+y+z)%18446744073709551616/\q=(x+y+z)/18446744073709551616/\k [(1,.d .u p),(2,.d .u q)]=some r:=by
 obtain⟨h1,h⟩:=kG h;obtain⟨p,hp,h⟩:=xq h;obtain⟨q,hq,h⟩:=xq h;exact⟨h1,p,q,hp,hq,h⟩
theorem zjT{x y z:Nat}{k:List (Nat×Dv)->Option R}(h:exU false x y z k=some r):z<=1/\∃p q:Nat,p=(x+18446744073709551616-y-z)%18446744073709551616/\q=(if x<y+z then 1 else 0)/\k [(1,.d .u p),(2,.d .u q)]=some r:=by
 obtain⟨h1,h⟩:=kG h;obtain⟨p,hp,h⟩:=xq h;obtain⟨q,hq,h⟩:=xq h;exact⟨h1,p,q,hp,hq,h⟩
theorem eh(hC:∀s∈cf.cs,y6 P s):∀{dom:List AM}{xs:List Operand}{cs:List PD}{k:aa dom->Option R},X5 cf cx σ dom xs cs k=some r->
 ∃z,k z=some r/\xs.length+cs.length=dom.length/\∀vs env S w,(∀x∈xs,Z8 P vs env S w cx σ x)->∀cvs:List Value,cvs.length=cs.length->zA S (Ea cs cvs) w->zA S (kU P dom z<|xs.map (ev env)++cvs) w
 |[],[],[],k,h=>⟨(),h,rfl,fun _ _ _ _ _ _ _ _=>trivial⟩
 |.q t::dom,[],c::cs,k,h=>by
  simp only[X5]at h;obtain⟨e,h⟩:=yi h;subst e;obtain⟨z,h1,h2,h3⟩:=eh hC h;refine⟨_,h1,by simp at h2⊢;lia,fun vs env S w hl cvs ha hb=> ?_⟩
  cases cvs with
  |nil=>cases ha
  |cons v cvs=>exact⟨hb.1,h3 vs env S w hl cvs (by simpa using ha) hb.2⟩
 |.d t::dom,x::xs,cs,k,h=>by
  simp only[X5]at h;obtain⟨y,h,hy⟩:=XZ h;obtain⟨z,h1,h2,h3⟩:=eh hC h;exact⟨_,h1,by simp at h2⊢;lia,fun vs env S w hl cvs ha hb=>⟨hy P vs env S w<|hl x<|FS,h3 vs env S w (fun z hz=>hl z<|UV _ hz) cvs ha hb⟩⟩
 |.q t::dom,x::xs,cs,k,h=>by
  simp only[X5]at h;split at h
  ·next s y hx=>
   obtain⟨e,h⟩:=yi h;subst e;obtain⟨z,h1,h2,h3⟩:=eh hC h;exact⟨_,h1,by simp at h2⊢;lia,fun vs env S w hl cvs ha hb=>⟨zk hx<|hl x<|FS,h3 vs env S w (fun z hz=>hl z<|UV _ hz) cvs ha hb⟩⟩
  ·cases h
 |.fn dom' cod::dom,x::xs,cs,k,h=>by
  simp only[X5]at h;obtain⟨f,h,hf⟩:=SR hC h;obtain⟨z,h1,h2,h3⟩:=eh hC h;refine⟨_,h1,by simp at h2⊢;lia,fun vs env S w hl cvs ha hb=>⟨?_,h3 vs env S w (fun z hz=>hl z<|UV _ hz) cvs ha hb⟩⟩
  cases hv:xX cx σ x with
  |none=>rename_i h0;rw[hv]at h0;simp[asF]at h0
  |some v=>exact hf vs S w v _ hv<|zk hv<|hl x<|FS
 |[],_::_,_,_,h=>by simp[X5]at h
 |[],[],_::_,_,h=>by simp[X5]at h
 |.d _::_,[],_,_,h=>by simp[X5]at h
 |.own _ _::_,_,_,_,h=>by simp[X5]at h
 |.fn _ _::_,[],_,_,h=>by simp[X5]at h
 |.q _::_,[],[],_,h=>by simp[X5]at h
theorem Dr:∀{dom:List Ty}{xs:List Operand}{k:dn dom->Option R},rm cx σ dom xs k=some r->
 ∃z,k z=some r/\xs.length=dom.length/\∀(P:Program) vs env S w,(∀x∈xs,Z8 P vs env S w cx σ x)->zA S (tsF dom z<|xs.map<|ev env) w
 |[],[],k,h=>⟨(),h,rfl,fun _ _ _ _ _ _=>trivial⟩
 |t::dom,x::xs,k,h=>by
  simp only[rm]at h;obtain⟨y,h,hy⟩:=XZ h;obtain⟨z,h1,h2,h3⟩:=Dr h;exact⟨_,h1,by simp[h2],fun P vs env S w hl=>⟨hy P vs env S w<|hl x<|FS,h3 P vs env S w<|fun z hz=>hl z<|UV _ hz⟩⟩
 |[],_::_,_,h=>by simp[rm]at h
 |_::_,[],_,h=>by simp[rm]at h
theorem zgO(hC:∀s∈cf.cs,y6 P s)(hX:cc P cf.ex){f:Operand}{ags:Array Operand}{ts:Array TypeId}{k:List (Nat×Dv)->Option R}(h:zc5 cf cx σ f ags.toList k=some r):
 ∃l,k l=some r/\ES P ⟨d,.call ⟨.value f,ags,ts⟩,ty,pos,aft,g⟩ cx σ F l:=by
 have hf:∀{vs env S w},(∀t'∈yA (.call ⟨.value f,ags,ts⟩),Lk P vs env S w cx σ t')->Z8 P vs env S w cx σ f:=fun hl=>yK hl (by simp[xaM,xek]);have ha:∀{vs env S w},(∀t'∈yA (.call ⟨.value f,ags,ts⟩),Lk P vs env S w cx σ t')->∀x∈ags.toList,Z8 P vs env S w cx σ x:=fun hl x hx=>yK hl (by simp only[xaM,xek,Array.toList_append,Nm];exact .inr hx);unfold zc5 at h;split at h
 ·next f0 cs hc=>
  split at h
  ·next s hs=>
   obtain⟨h1,h2,h3,h4⟩:=oi hs;have hr:=hC s h1;obtain⟨z,h,hd,hz⟩:=eh hC h;obtain⟨q,hq,h⟩:=rM h;refine⟨_,h,jR fun env w S vs hM hl=> ?_⟩;obtain⟨cvs,hv,ht,hu⟩:=zk hc<|hf hl;have hk:=cd hr h3 h4 hq (us:=ags.toList.map (ev env)++cvs) (by simp at hd⊢;lia);rw[h2]at hk;refine⟨_,_,_,_,kU P s.dom z<|ags.toList.map (ev env)++cvs,[],dP (asv:=ags.toList) (h2▸hr.1) hv hk rfl<|fun S w h=>h,trivial,hz vs env S w (ha hl) cvs ht hu,fun us w' hm hn=> ?_⟩;unfold ze6;rw[DQ,Hd];exact sr hn<|by simpa using hm
  ·split at h
   ·next _ _ _ b x y z hb hD=>
    obtain rfl:ags= #[x,y,z]:=by cases ags;simp_all
    obtain⟨hw,h⟩:=yh h
    cases f with
    |func f1=>
     simp only[xX,xaz,Dv.fn.injEq]at hc;obtain⟨rfl,_⟩:=hc;obtain⟨fn,e1,e2,e3,e4,e5,e6⟩:=hX _ _ hb;unfold exD at h;split at h
     ·next x' y' z' hx hy hz=>
      cases b
      ·obtain⟨hg,p,q,hp,hq,h⟩:=zjT h;refine⟨_,h,zD fun env w S vs hl=> ?_⟩;have hi:=xH hx (ha hl x<|by simp);have hj:=xH hy (ha hl y<|by simp);have ho:=xH hz (ha hl z<|by simp);refine⟨_,v_2 (zep e1 e2 e3 e4 (e6 rfl) hi.1 hj.1 ho.1 hg) hp hq w,fun e he=> ?_⟩;rcases xac.1 he with rfl|he
       ·exact⟨_,_,rfl,rfl,qN<|Xd hp⟩
       ·obtain rfl:=xai.1 he;exact⟨_,_,rfl,rfl,qN<|zfg hi.2 hj.2 hg hq⟩
      ·obtain⟨hg,p,q,hp,hq,h⟩:=ziR h;refine⟨_,h,zD fun env w S vs hl=> ?_⟩;have hi:=xH hx (ha hl x<|by simp);have hj:=xH hy (ha hl y<|by simp);have ho:=xH hz (ha hl z<|by simp);refine⟨_,v_2 (zdo e1 e2 e3 e4 (e5 rfl) hi.1 hj.1 ho.1 hg) hp hq w,fun e he=> ?_⟩;rcases xac.1 he with rfl|he
       ·exact⟨_,_,rfl,rfl,qN<|Xd hp⟩
       ·obtain rfl:=xai.1 he;exact⟨_,_,rfl,rfl,qN<|zdP hi.2 hj.2 hg hq⟩
     ·cases h
    |_=>simp[zjd]at hw
   ·cases h
 ·next dom cod g' hc=>
  obtain⟨z,h,hd,hz⟩:=Dr h;obtain⟨q,hq,h⟩:=rM h;refine⟨_,h,jR fun env w S vs hM hl=> ?_⟩;obtain⟨fid,Jh,FG,hv,⟨hb,hA⟩,hB⟩:=zk hc<|hf hl;have hk:=hA z q hq (ags.toList.map<|ev env) (by simpa using hd);exact⟨_,_,_,_,tsF dom z (ags.toList.map<|ev env)++FG,[],dP (asv:=ags.toList) hb hv hk rfl<|fun S w h=>h,trivial,zA.append (hz P vs env S w<|ha hl) hB,fun us w' hm hn=>sr hn hm⟩
 ·cases h
theorem zhd(hT:yZ P cf.tt)(hL:jN P cf.tt)(hC:∀s∈cf.cs,y6 P s)(hX:cc P cf.ex){op:Op}{k:List (Nat×Dv)->Option R}(h:zh3 cf cx σ op k=some r):∃l,k l=some r/\ES P ⟨d,op,ty,pos,aft,g⟩ cx σ F l:=by
 unfold zh3 at h;split at h
 ·exact zb5 (.inl rfl) h
 ·exact zb5 (.inr rfl) h
 ·exact zjo h
 ·exact zgo h
 ·exact zjA h
 ·exact zku h
 ·exact bop h<|zem hT
 ·exact zi0 hT h
 ·exact zgD hT h
 ·exact zdz hT hL h
 ·exact zdl hT h
 ·exact zag hT h
 ·exact zd6 hT hL h
 ·exact zjC hT h
 ·exact zjD h
 ·exact zdD hT h
 ·exact zkr hT hL h
 ·exact zj1 h
 ·exact zjF hT h
 ·exact zjn (b:=true) h
 ·exact zjn (b:=false) h
 ·exact zgO hC hX h
 ·cases h
end
end
section
def MV(P:Program)(s:Fx):Prop:=
 Ab P s.f=true/\∀(x:dn s.dom) (vs:List Value),vs.length=s.dom.length->Fn P s.f vs.toArray (tsF s.dom x vs) (fun v:Value=>v) (fun v=>[zhc s.g (s.mc x) v]) (fun _=>True)
def Nf(P:Program)(s:th):Prop:=
 Ab P s.f=true/\∀xss ix r a p lo n xss',s.M xss ix r a p lo n=some xss'->∀(u hr hv:Value),(ve u)[r]? =some hr->Fw (yY u) lo n hv->VE a->VE p->
  ∀we Se F G w,St we Se (lZ s.t.rep s.E s.E1 u xss ix::F) G w->Calls P s.f #[hr,.int .i64 a,.int .i64 p,hv] w fun e w'=>∃v u',e=.returned v/\yY u'=yY u/\St we Se (lZ s.t.rep s.E s.E1 u' xss' ix::F) G w'
def zb9(P:Program)(s:Aq):Prop:=
 Ab P s.f=true/\∀(x:aa s.dom) (X Y:Type) (mX:X->Value->MF) (mY:Y->Value->MF) (g:List s.t.D->X->Option (List s.t.D×(X⊕Y))) (x0:X) (r:X⊕Y),s.M x g x0=some r->∀(l:Nat) (vs:List Value),vs.length=s.dom.length->GA P l s.t.rep s.E mX mY g->
  ∀u we Se F G w,St we Se (mX x0 u::F) (kU P s.dom x vs++G) w->Calls P s.f (.func (.yield l) #[] #[]::vs).toArray w fun e w'=>(∃v,e=.returned v)/\∃u',St we Se (xfw (fun x=>mX x u') (fun y=>mY y u') r::F) G w'
structure Aa(P:Program)(cf:Cf):Prop where
 ex:cc P cf.ex
 cl:∀s∈cf.cl,MV P s
 ms:∀s∈cf.ms,Nf P s
 is:∀s∈cf.is,zb9 P s
 pp:P=Tryz.prog
section
variable{P:Program}{cf:Cf}{cx σ:Sg}{F:List MF}{vs:Nat->Value}{env:yN}{S:Nat->Prop}{w:World}{R:Type}{r:R}
 {d:Option Tmp}{ty t yt:TypeId}{pos:String}{aft:Array Edge}{g:Option (Nat×Bool)}{x y:Operand}
theorem SQ{f:FuncId}:∀{l:List th}{s:th},zcw l f=some s->s∈l/\s.f=f
 |c::l,s,h=>by
  unfold zcw at h;cases hb:xap c.f f<;>rw[hb]at h
  ·obtain⟨h1,h2⟩:=SQ h;exact⟨UV _ h1,h2⟩
  ·simp only[cond_true,xaz]at h;subst h;exact⟨FS,z8 hb⟩
theorem zaq{f:FuncId}:∀{l:List Fx}{s:Fx},zbC l f=some s->s∈l/\s.f=f
 |c::l,s,h=>by
  unfold zbC at h;cases hb:xap c.f f<;>rw[hb]at h
  ·obtain⟨h1,h2⟩:=zaq h;exact⟨UV _ h1,h2⟩
  ·simp only[cond_true,xaz]at h;subst h;exact⟨FS,z8 hb⟩
theorem zav{f:FuncId}:∀{l:List Aq}{s:Aq},zdS l f=some s->s∈l/\s.f=f
 |c::l,s,h=>by
  unfold zdS at h;cases hb:xap c.f f<;>rw[hb]at h
  ·obtain⟨h1,h2⟩:=zav h;exact⟨UV _ h1,h2⟩
  ·simp only[cond_true,xaz]at h;subst h;exact⟨FS,z8 hb⟩
theorem Da{α:Type}{e:zZ α}{E E1:TypeId}{u:Value}{xss:List (List α)}{ix:List Nat}(h:(lZ e E E1 u xss ix).p S w):(ve u).length=xss.length/\(mO (Zk<|ve u) E (yY u) ix).p S w/\yw S (wo e E1 (ve u) xss) w:=⟨h.1.1,h.1.2.1,h.1.2.2⟩
theorem lv{α:Type}{e:zZ α}{E E1:TypeId}{u v:Value}{xss:List (List α)}{ix:List Nat}{r:Nat}(h:(lZ e E E1 u xss ix).p S w)(hr:(ve u)[r]? =some v):(mO e E1 v<|jG xss r).p S w/\r<xss.length:=by
 obtain⟨h1,_,h3⟩:=Da h;have hl:=(xat.1 hr).1;have h4:xss[r]? =some (jG xss r):=by
  unfold jG;rw[H1,xaa<|by lia];rfl
 exact⟨yw.get h3<|WZ hr h4,by lia⟩
theorem za7(hT:yZ P cf.tt)(hL:jN P cf.tt){k:List (Nat×Dv)->Option R}(h:DP cf cx σ t x y k=some r):∃l,k l=some r/\ES P ⟨d,.indexAddr t x y,ty,pos,aft,g⟩ cx σ F l:=by
 have hx:∀{vs env S w},(∀t'∈yA (.indexAddr t x y),Lk P vs env S w cx σ t')->Z8 P vs env S w cx σ x:=fun hl=>yK hl (by simp[xaM]);have hy:∀{vs env S w},(∀t'∈yA (.indexAddr t x y),Lk P vs env S w cx σ t')->Z8 P vs env S w cx σ y:=fun hl=>yK hl (by simp[xaM]);unfold DP at h;split at h
 ·next e E B o ht ha=>
  split at h
  ·next s E' E1 xss ix ho=>
   obtain⟨bytes,zero,hb⟩:=VQ hT hL ht;obtain⟨j,hj,h,hc⟩:=FR h;refine⟨_,h,?_⟩;intro env w S vs hS hM hl;obtain⟨ik,hd⟩:=hc P vs env S w<|hy hl;have hm:(lZ s.rep E' E1 (vs o) xss ix).p S w:=uY hM ho;obtain⟨b,cap,hv,_⟩:=Q7 (Da hm).2.1<|xba (xah _) hj;have he:ev env x=yY (vs o):=zk ha<|hx hl;exact kv.of_value (n7 (vn hT ht) hb (he.trans hv) hd hj w) ⟨yq.refl _ _,zo ⟨b,_,_,hv,hj,rfl⟩⟩
  ·cases h
 ·next e E B o lo n ht ha=>
  split at h
  ·next s E' E1 xss ix ho=>
   obtain⟨bytes,zero,hb⟩:=VQ hT hL ht;obtain⟨j,hj,h,hc⟩:=FR h;refine⟨_,h,?_⟩;intro env w S vs hS hM hl;obtain⟨ik,hd⟩:=hc P vs env S w<|hy hl;rcases(zk ha (hx hl):Fw _ _ _ _).old with⟨b,m,cap,c,q1,q2,q3,q4,q5⟩|⟨q1,_⟩
   ·refine kv.of_value (n7 (vn hT ht) hb q5 hd hj w) ⟨yq.refl _ _,zo ⟨b,_,_,q1,by lia,?_⟩⟩;show Value.pointer (some ⟨b,0+lo*1+j*1,none⟩)=Value.pointer (some ⟨b,0+(lo+j)*1,none⟩);rw[xaV,xcR]
   ·lia
  ·cases h
 ·next e E B o p ht ha=>
  split at h
  ·next s E' E1 xss ix ho=>
   obtain⟨hf,h1⟩:=yi h;cases hf;obtain⟨bytes,zero,hb⟩:=VQ hT hL ht;obtain⟨j,hj,h,hc⟩:=FR h1;refine⟨_,h,?_⟩;intro env w S vs hS hM hl;obtain⟨ik,hd⟩:=hc P vs env S w<|hy hl;have hm:(lZ e.rep E' E1 (vs o) xss ix).p S w:=uY hM ho;have he:(ve<|vs o)[p]? =some (ev env x):=zk ha<|hx hl;obtain⟨b,cap,hv,_⟩:=Q7 (lv hm he).1<|xba (xah _) hj;refine kv.of_value (n7 (vn hT ht) hb hv hd hj w) ⟨yq.refl _ _,zo ⟨fun z=>Sub.self e.rep z,b,_,_,by rw[<-hv];exact he,hj,by simp[Fl.self]⟩⟩
  ·cases h
 ·cases h
theorem zd5(hT:yZ P cf.tt){k:List (Nat×Dv)->Option R}(h:Nj cf cx σ t x k=some r):∃l,k l=some r/\ES P ⟨d,.load t x,ty,pos,aft,g⟩ cx σ F l:=by
 have hx:∀{vs env S w},(∀t'∈yA (.load t x),Lk P vs env S w cx σ t')->Z8 P vs env S w cx σ x:=fun hl=>yK hl (by simp[xaM]);unfold Nj at h;split at h
 ·next e E B o j ht hd=>
  split at h
  ·next s E' E1 xss ix ho=>
   obtain⟨zero,he,_⟩:=Vv hT ht;obtain⟨q,hq,h⟩:=xq h;refine⟨_,h,jR fun env w S vs hM hl=> ?_⟩;have hm:(lZ s.rep E' E1 (vs o) xss ix).p S w:=uY hM ho;obtain⟨b,m,cap0,h1,h2,h3⟩:=zk hd<|hx hl;obtain⟨a1,a2,a3⟩:=Da hm;have hn:m=ix.length:=by
    obtain⟨cs,h5,h6⟩:=a2;rcases h5.2 with⟨hv,h7⟩|⟨g',cap',cur,hv,_⟩
    ·rw[h1]at hv;cases hv
    ·rw[h1]at hv;cases hv;rfl
   obtain⟨b',cap',hv,hb⟩:=Q7 a2 (by lia);rw[h1]at hv;cases hv;have ha:=Sub.rowT0 (Zk<|ve<|vs o) cap0 ix j (ix.getD j 0)<|getD_some 0 h2;exact⟨_,_,_,_,[],[mB (rowT (Zk<|ve<|vs o) cap0) E' b ix],QU 0 rfl h3 ha he,⟨hb,trivial⟩,trivial,fun u w' _ hf=>zo (by
    have:=zfJ hf.1;rw[<-hq]at this;exact this)⟩
  ·cases h
 ·next ti o e p j f hg hd=>
  split at h
  ·next s E' E1 xss ix ho=>
   obtain⟨hc,h1⟩:=yi h;cases hc;obtain⟨q,hq,h2⟩:=xq h1;obtain⟨hc,h⟩:=yi h2;obtain⟨zero,he,_⟩:=Vv hT hg;obtain⟨off,ff,gt,st⟩:=f;simp only at hc;subst hc;refine⟨_,h,jR fun env w S vs hM hl=> ?_⟩;have hm:(lZ e.rep E' E1 (vs o) xss ix).p S w:=uY hM ho;obtain⟨h0,b,m,cap,h1,h2,h3⟩:=zk hd<|hx hl;have hr:=(lv hm h1).1;have hn:m=(jG (α:=e.D) xss p).length:=by
    obtain⟨cs,h5,h6⟩:=hr;rcases h5.2 with⟨hv,h7⟩|⟨g',cap',cur,hv,_⟩
    ·cases hv
    ·cases hv;rfl
   obtain⟨b',cap',hv,hb⟩:=Q7 hr (by lia);cases hv;have ha:=(Sub.rowT0 e.rep cap (jG (α:=e.D) xss p) j ((jG (α:=e.D) xss p).getD j e.z)<|getD_some e.z<|by lia).comp<|h0<|(jG (α:=e.D) xss p).getD j e.z;subst hq;exact⟨_,_,_,_,[],[mB (rowT e.rep cap) E1 b<|jG (α:=e.D) xss p],QU 0 rfl h3 ha he,⟨hb,trivial⟩,trivial,fun u w' _ hf=>zo hf.1⟩
  ·cases h
 ·cases h
theorem S4(hT:yZ P cf.tt)(hL:jN P cf.tt){lo hi:Option Operand}{k:List (Nat×Dv)->Option R}(h:Dc cf cx σ t x lo hi k=some r):∃l,k l=some r/\ES P ⟨d,.slice t x lo hi none,ty,pos,aft,g⟩ cx σ F l:=by
 have hx:∀{vs env S w},(∀t'∈yA (.slice t x lo hi none),Lk P vs env S w cx σ t')->Z8 P vs env S w cx σ x:=fun hl=>yK hl (by simp[xaM]);have hb:∀{vs env S w z},lo=some z->(∀t'∈yA (.slice t x lo hi none),Lk P vs env S w cx σ t')->Z8 P vs env S w cx σ z:=fun e hl=>yK hl (by simp[xaM,e]);have hc:∀{vs env S w z},hi=some z->(∀t'∈yA (.slice t x lo hi none),Lk P vs env S w cx σ t')->Z8 P vs env S w cx σ z:=fun e hl=>yK hl (by simp[xaM,e]);unfold Dc at h;split at h
 ·next e E B o ht hk=>
  split at h
  ·next s E' E1 xss ix ho=>
   obtain⟨bytes,zero,hd⟩:=VQ hT hL ht
   have key:∀(l m:Nat),l<=m->m<=ix.length->k [(0,.mv o l<|m-l)]=some r->(∀vs env S w,(∀t'∈yA (.slice t x lo hi none),Lk P vs env S w cx σ t')->((lo.map<|ev env)=some (.int .i64 (l:Int))\/(lo=none/\l=0))/\((hi.map<|ev env)=some (.int .i64 (m:Int))\/(hi=none/\m=ix.length)))->
    ∃l,k l=some r/\ES P ⟨d,.slice t x lo hi none,ty,pos,aft,g⟩ cx σ F l:=by
    intro l m h1 h2 h5 h4;refine⟨_,h5,fun env w S vs hS hM hl=> ?_⟩;obtain⟨h6,h7⟩:=h4 vs env S w hl;have he:ev env x=yY (vs o):=zk hk<|hx hl;have hm:(lZ s.rep E' E1 (vs o) xss ix).p S w:=uY hM ho;rcases KG (Da hm).2.1 with⟨hv,hf⟩|⟨b,cap,hv,hg,hn⟩
    ·rw[hf]at h2 h7;obtain rfl:m=0:=Nat.le_zero.1 h2;obtain rfl:l=0:=Nat.le_zero.1 h1;have hr:=Fg (P:=P) (w:=w) (vn hT ht) hd (h6.imp id fun q=>by rw[q.1];rfl) (h7.imp id fun q=>by rw[q.1];rfl);refine kv.of_value (v:=.slice none 0 0) (w':=w) (by simp[execOp,he.trans hv,hr]) ⟨yq.refl _ _,zo (.inr ⟨hv,rfl,rfl,rfl⟩)⟩
    ·have hr:=oJ (P:=P) (b:=b) (o:=0) (n:=ix.length) (cap:=cap) (w:=w) (l:=l) (h:=m) (vn hT ht) hd (h6.imp id fun q=>⟨by rw[q.1];rfl,q.2⟩) (h7.imp id fun q=>⟨by rw[q.1];rfl,q.2⟩) h1<|xam h2 hg;rw[<-hv,<-he]at hr;refine kv.of_value (v:=.slice (if cap=l then some ⟨b,0,none⟩else some ((⟨b,0,none⟩:Addr).add<|l*1)) (m-l)<|cap-l) (w':=w) (by simp[execOp,hr,Ty.rep,eS]) ⟨yq.refl _ _,zo ?_⟩;exact .inl ⟨b,ix.length,cap,hv,by lia,hg,by lia,by rw[qc]⟩
   rcases Q9 h with⟨e1,h1⟩|⟨zl,l,e1,h1,hj⟩
   ·rcases Q9 h1 with⟨e2,h2⟩|⟨zh,m,e2,h2,ha⟩
    ·obtain⟨a,c,q1,q2,q3,q4,q5⟩:=Fi h2;exact key a c q1 q2 q3 fun vs env S w hl=>⟨.inr ⟨e1,(q4.resolve_left<|by simp).2⟩,.inr ⟨e2,(q5.resolve_left<|by simp).2⟩⟩
    ·obtain⟨a,c,q1,q2,q3,q4,q5⟩:=Fi h2;rcases q5 with q5|⟨q5,_⟩
     ·cases q5;exact key a m q1 q2 q3 fun vs env S w hl=>⟨.inr ⟨e1,(q4.resolve_left<|by simp).2⟩,.inl<|by rw[e2];exact congrArg some<|ha P vs env S w<|hc e2 hl⟩
     ·cases q5
   ·rcases Q9 h1 with⟨e2,h2⟩|⟨zh,m,e2,h2,ha⟩
    ·obtain⟨a,c,q1,q2,q3,q4,q5⟩:=Fi h2;rcases q4 with q4|⟨q4,_⟩
     ·cases q4;exact key l c q1 q2 q3 fun vs env S w hl=>⟨.inl (by rw[e1];exact congrArg some<|hj P vs env S w<|hb e1 hl),.inr ⟨e2,(q5.resolve_left<|by simp).2⟩⟩
     ·cases q4
    ·obtain⟨a,c,q1,q2,q3,q4,q5⟩:=Fi h2;rcases q4 with q4|⟨q4,_⟩
     ·rcases q5 with q5|⟨q5,_⟩
      ·cases q4;cases q5;exact key l m q1 q2 q3 fun vs env S w hl=>⟨.inl (by rw[e1];exact congrArg some<|hj P vs env S w<|hb e1 hl),.inl<|by rw[e2];exact congrArg some<|ha P vs env S w<|hc e2 hl⟩
      ·cases q5
     ·cases q4
  ·cases h
 ·cases h
theorem zig(hT:yZ P cf.tt){ags:Array Operand}{ts:Array TypeId}{k:List (Nat×Dv)->Option R}(h:zaX cf cx σ ags.toList ts.toList k=some r):
 ∃l,k l=some r/\ES P ⟨d,.call ⟨.builtin .len,ags,ts⟩,ty,pos,aft,g⟩ cx σ F l:=by
 unfold zaX at h;split at h
 ·next _ _ x t hc hd=>
  obtain rfl:ags= #[x]:=by cases ags;simp_all
  obtain rfl:ts= #[t]:=by cases ts;simp_all
  have hx:∀{vs env S w},(∀t'∈yA (.call ⟨.builtin .len,#[x],#[t]⟩),Lk P vs env S w cx σ t')->Z8 P vs env S w cx σ x:=fun hl=>yK hl (by simp[xaM,xek]);split at h
  ·next e E B o ht ha=>
   split at h
   ·next s E' E1 xss ix ho=>
    refine⟨_,h,jR fun env w S vs hM hl=> ?_⟩;have hm:(lZ s.rep E' E1 (vs o) xss ix).p S w:=uY hM ho;exact⟨_,_,_,_,[],[mO (Zk<|ve<|vs o) E' (yY<|vs o) ix],DH 0 rfl (vn hT ht)<|zk ha<|hx hl,⟨(Da hm).2.1,trivial⟩,trivial,fun u w' hk hf=>zo<|xM<|Gb hk⟩
   ·cases h
  ·next e E B o lo n ht ha=>
   split at h
   ·next s E' E1 xss ix ho=>
    refine⟨_,h,zD fun env w S vs hl=> ?_⟩;rcases(zk ha (hx hl):Fw _ _ _ _).old with⟨b,m,cap,c,q1,q2,q3,q4,q5⟩|⟨q1,ao,c,q2,q3⟩
    ·exact⟨_,Hi (vn hT ht) q5 w,zo<|xM<|Gb<|by lia⟩
    ·subst q1;exact⟨_,Hi (vn hT ht) q3 w,zo<|xM<|by decide⟩
   ·cases h
  ·next e E B o p ht ha=>
   split at h
   ·next s E' E1 xss ix ho=>
    refine⟨_,h,jR fun env w S vs hM hl=> ?_⟩;have hm:(lZ s.rep E' E1 (vs o) xss ix).p S w:=uY hM ho;have hb:(ve<|vs o)[p]? =some (ev env x):=zk ha<|hx hl;exact⟨_,_,_,_,[],[mO s.rep E1 (ev env x)<|jG xss p],DH 0 rfl (vn hT ht) rfl,⟨(lv hm hb).1,trivial⟩,trivial,fun u w' hk hf=>zo<|xM<|Gb hk⟩
   ·cases h
  ·cases h
 ·cases h
def Tru:Nat->Prop:=fun _=>True
theorem Nu(f:FF)(h:f.p S w):f.p Tru w:=f.sub h fun _ _ _=>trivial
theorem ga(hC:∀s∈cf.cs,y6 P s):∀{dom:List AM}{xs:List Operand}{cs:List PD}{k:aa dom->Option R},X7 cf cx σ dom xs cs k=some r->
 ∃z,k z=some r/\xs.length+cs.length=dom.length/\∀vs env S w,yw S (MS vs σ.ob++(MS vs cx.ob++F)) w->(∀x∈xs,Z8 P vs env S w cx σ x)->∀cvs:List Value,cvs.length=cs.length->zA S (Ea cs cvs) w->zA Tru (kU P dom z<|xs.map (ev env)++cvs) w
 |[],[],[],k,h=>⟨(),h,rfl,fun _ _ _ _ _ _ _ _ _=>trivial⟩
 |.q t::dom,[],c::cs,k,h=>by
  simp only[X7]at h;obtain⟨e,h⟩:=yi h;subst e;obtain⟨z,h1,h2,h3⟩:=ga hC h;refine⟨_,h1,by simp at h2⊢;lia,fun vs env S w hM hl cvs ha hb=> ?_⟩
  cases cvs with
  |nil=>cases ha
  |cons v cvs=>exact⟨Nu _ hb.1,h3 vs env S w hM hl cvs (by simpa using ha) hb.2⟩
 |.d t::dom,x::xs,cs,k,h=>by
  simp only[X7]at h;split at h
  ·next o lo n hc=>
   split at h
   ·next s E E1 xss ix ho=>
    obtain⟨e,h⟩:=yi h;subst e;obtain⟨z,h1,h2,h3⟩:=ga hC h;refine⟨_,h1,by simp at h2⊢;lia,fun vs env S w hM hl cvs ha hb=>⟨?_,h3 vs env S w hM (fun z hz=>hl z<|UV _ hz) cvs ha hb⟩⟩;have hm:(lZ s.rep E E1 (vs o) xss ix).p S w:=uY hM ho;obtain⟨a1,a2,a3⟩:=Da hm;have h4:(mO (eS s.rep) E (yY<|vs o)<|Sa xss ix).p Tru w:=by
     obtain⟨cs',q1,q2⟩:=a2;refine⟨cs',by unfold Sa;rw[xaP];exact q1,?_⟩;exact iE a1 (fun _ _=>trivial) (fun _ _ _ _=>trivial) a3 q2
    show(fV (eS<|eS s.rep) (xdt n<|xdA lo<|Sa xss ix)<|ev env x).p Tru w;rcases(zk hc (hl x<|FS):Fw _ _ _ _).old with⟨b,m,cap,c,q1,q2,q3,q4,q5⟩|⟨q1,ao,c,q2,q3⟩
    ·have:=E6 h4 q1 q2 q3 q4;rw[q5];obtain⟨ao,c',p1,p2,p3,p4⟩:=this;refine xm.2 ⟨ao,c',p1,p2,p3,p4.imp id ?_⟩;rintro⟨b',o',cs',r1,r2,r3⟩;exact⟨b',o',cs',r1,trivial,r2,r3⟩
    ·subst q1;rw[q3];exact xm.2 ⟨ao,c,by simp,by simp,by unfold maxLen;lia,.inl<|by simp⟩
   ·cases h
  ·obtain⟨y,h,hy⟩:=XZ h;obtain⟨z,h1,h2,h3⟩:=ga hC h;exact⟨_,h1,by simp at h2⊢;lia,fun vs env S w hM hl cvs ha hb=>⟨Nu _<|hy P vs env S w<|hl x<|FS,h3 vs env S w hM (fun z hz=>hl z<|UV _ hz) cvs ha hb⟩⟩
 |.fn dom' cod::dom,x::xs,cs,k,h=>by
  simp only[X7]at h;obtain⟨f,h,hf⟩:=SR hC h;obtain⟨z,h1,h2,h3⟩:=ga hC h;refine⟨_,h1,by simp at h2⊢;lia,fun vs env S w hM hl cvs ha hb=>⟨?_,h3 vs env S w hM (fun z hz=>hl z<|UV _ hz) cvs ha hb⟩⟩
  cases hv:xX cx σ x with
  |none=>rename_i h0;rw[hv]at h0;simp[asF]at h0
  |some v=>exact Nu _<|hf vs S w v _ hv<|zk hv<|hl x<|FS
 |[],_::_,_,_,h=>by simp[X7]at h
 |[],[],_::_,_,h=>by simp[X7]at h
 |.d _::_,[],_,_,h=>by simp[X7]at h
 |.own _ _::_,_,_,_,h=>by simp[X7]at h
 |.q _::_,_::_,_,_,h=>by simp[X7]at h
 |.fn _ _::_,[],_,_,h=>by simp[X7]at h
 |.q _::_,[],[],_,h=>by simp[X7]at h
theorem Dp:∀{rs:List RM}{x:CA (rs.map RM.ty)}{us:List Value},Gy rs=true->zA Tru (csF (rs.map RM.ty) x us) w->zA S (csF (rs.map RM.ty) x us) w
 |[],_,_,_,_=>trivial
 |[.d .i],x,us,_,h=>⟨h.1,trivial⟩
 |[.d .u],x,us,_,h=>⟨h.1,trivial⟩
 |[.d .b],x,us,_,h=>⟨h.1,trivial⟩
 |.d .i::n::r,x,us,hf,h=>⟨h.1,Dp (rs:=n::r) (x:=x.2) hf h.2⟩
 |.d .u::n::r,x,us,hf,h=>⟨h.1,Dp (rs:=n::r) (x:=x.2) hf h.2⟩
 |.d .b::n::r,x,us,hf,h=>⟨h.1,Dp (rs:=n::r) (x:=x.2) hf h.2⟩
theorem zex(hC:∀s∈cf.cs,y6 P s)(hX:Aa P cf){f:Operand}{ags:Array Operand}{ts:Array TypeId}{k:List (Nat×Dv)->Option R}(h:LZ cf cx σ f ags.toList k=some r):
 ∃l,k l=some r/\ES P ⟨d,.call ⟨.value f,ags,ts⟩,ty,pos,aft,g⟩ cx σ F l:=by
 have hf:∀{vs env S w},(∀t'∈yA (.call ⟨.value f,ags,ts⟩),Lk P vs env S w cx σ t')->Z8 P vs env S w cx σ f:=fun hl=>yK hl (by simp[xaM,xek]);have ha:∀{vs env S w},(∀t'∈yA (.call ⟨.value f,ags,ts⟩),Lk P vs env S w cx σ t')->∀x∈ags.toList,Z8 P vs env S w cx σ x:=fun hl x hx=>yK hl (by simp only[xaM,xek,Array.toList_append,Nm];exact .inr hx);unfold LZ at h;split at h
 ·next f0 cs hj=>
  split at h
  ·next s hs=>
   obtain⟨h1,h2⟩:=zaq hs;obtain⟨hb,he⟩:=hX.cl s h1;obtain⟨z,h,hd,hz⟩:=Dr h;refine⟨_,h,jR fun env w S vs hM hl=> ?_⟩;obtain⟨cvs,hv,hg,hk⟩:=zk hj<|hf hl;obtain rfl:cvs=[]:=xbF.1 hg;have hc:=he z (ags.toList.map<|ev env) (by simpa using hd);rw[h2]at hc hb;rw[<-xbR<|ags.toList.map<|ev env]at hc;exact⟨_,_,_,_,tsF s.dom z<|ags.toList.map (ev env)++[],[],dP (asv:=ags.toList) hb hv hc rfl<|fun S w h=>h,trivial,by rw[xbR];exact hz P vs env S w<|ha hl,fun v w' _ hi=>zo hi.1⟩
  ·split at h
   ·next s hs=>
    obtain⟨h1,h2,h3,h4⟩:=oi hs;have he:=hC s h1;obtain⟨hn,h⟩:=yh h;obtain⟨z,h,hd,hz⟩:=ga (F:=F) hC h;obtain⟨q,hq,h⟩:=rM h;refine⟨_,h,fun env w S vs hS hM hl=> ?_⟩;obtain⟨cvs,hv,hg,hk⟩:=zk hj<|hf hl;have hc:=cd he h3 h4 hq (us:=ags.toList.map (ev env)++cvs) (by simp at hd⊢;lia);rw[h2]at hc;have hm:=hz vs env S w hM (ha hl) cvs hg hk;refine(dP (asv:=ags.toList) (ms:=[]) (Γ:=kU P s.dom z<|ags.toList.map (ev env)++cvs) (h2▸he.1) hv hc rfl (fun S w h=>h) w Tru (fun _ _=>trivial) trivial hm).mono ?_;rintro v w' ⟨us,rfl,ho,hx,hi⟩;refine⟨hx,?_⟩;unfold ze6;rw[DQ,Hd];exact sr (Dp hn hi)<|by simpa using ho
   ·cases h
 ·cases h
theorem zk4(hT:yZ P cf.tt)(hL:jN P cf.tt)(hC:∀s∈cf.cs,y6 P s)(hX:Aa P cf){op:Op}{k:List (Nat×Dv)->Option R}(h:eCo cf cx σ op k=some r):∃l,k l=some r/\ES P ⟨d,op,ty,pos,aft,g⟩ cx σ F l:=by
 unfold eCo at h;split at h
 ·exact zd5 hT h
 ·exact za7 hT hL h
 ·exact S4 hT hL h
 ·exact zig hT h
 ·exact zex hC hX h
 ·cases h
theorem zcL(hT:yZ P cf.tt)(hL:jN P cf.tt)(hC:∀s∈cf.cs,y6 P s)(hX:Aa P cf){op:Op}{k:List (Nat×Dv)->Option R}(h:eOp cf cx σ op k=some r):∃l,k l=some r/\ES P ⟨d,op,ty,pos,aft,g⟩ cx σ F l:=by
 unfold eOp at h;cases hc:zjm cf cx σ op<;>rw[hc]at h
 ·exact zhd hT hL hC hX.ex h
 ·exact zk4 hT hL hC hX h
end
end
section
section
variable{P:Program}{cf:Cf}{fr:Fr}{cx σ:Sg}{vs vs':Nat->Value}{env:yN}{w:World}{R:Type}{r:R}
 {d:Option Tmp}{ty t yt:TypeId}{pos:String}{aft:Array Edge}{g:Option (Nat×Bool)}{x y:Operand}
abbrev GS(P:Program)(vs:Nat->Value)(env:yN)(fr:Fr)(cx σ:Sg):List FF:=RS P vs env σ.rg++(RS P vs env cx.rg++fr.G)
abbrev OS(vs:Nat->Value)(fr:Fr)(cx:Sg)(ob:List (Nat×Od)):List MF:=MS vs ob++(MS vs cx.ob++fr.F)
theorem Yh{S:Nat->Prop}(h:zA S (GS P vs env fr cx σ) w)(t:Tmp):Lk P vs env S w cx σ t:=by
 intro i dv hd;rcases ET hd with hm|hm
 ·exact JK (zA.left h) hm
 ·exact JK (zA.left<|zA.right h) hm
theorem zY{S:Nat->Prop}(h:zA S (GS P vs env fr cx σ) w)(x:Operand):Z8 P vs env S w cx σ x:=fun t _=>Yh h t
def aR(P:Program)(fr:Fr)(cx σ:Sg)(vs:Nat->Value)(env:yN)(w:World):Prop:=Bd cx σ/\St fr.we fr.Se (OS vs fr cx σ.ob) (GS P vs env fr cx σ) w
def cm(P:Program)(fr:Fr)(cx:Sg)(n:Nat)(vs:Nat->Value)(σ:Sg)(env:yN)(w:World):Prop:=∃vs',(∀o,o<n->vs' o=vs o)/\aR P fr cx σ vs' env w
theorem cm.rel{n:Nat}(h:cm P fr cx n vs σ env w):Zi P fr cx σ env w:=by
 obtain⟨vs',_,h1,h2⟩:=h;exact⟨h1,vs',h2⟩
theorem CV{v:Value}{σ':Sg}{l:List (Nat×Dv)}{Γl:List FF}(hB:Bd cx σ)(hd:wu cx d=true)(ha:σ'.rg=vi σ.rg d l)(hn:σ.nx<=σ'.nx)(hg:∀o,o<σ.nx->vs' o=vs o)
 (hl:∀e∈l,∀o,wj e.2=some o->o<σ'.nx) (hj:∀e∈σ'.ob,e.1<σ'.nx) (hf:∀S w,zA S Γl w->∀e∈l,(xK P vs' e.2 v e.1).p S w)
 (hk:St fr.we fr.Se (OS vs' fr cx σ'.ob) (Γl++GS P vs env fr cx σ) w):aR P fr cx σ' vs' (put env d v) w:=by
 refine⟨⟨hj,fun e he=>xan (hB.o2 e he) hn,?_,fun e he o ho=>xan (hB.r2 e he o ho) hn⟩,hk.weak fun S w h=> ?_⟩
 ·intro e he o ho;rw[ha]at he;unfold vi at he
  cases d with
  |none=>exact xan (hB.r1 e he o ho) hn
  |some t=>
   rcases Nm.1 he with he|he
   ·obtain⟨e',hb,rfl⟩:=xal.1 he;exact hl e' hb o ho
   ·exact xan (hB.r1 e (xcj.1 he).1 o ho) hn
 ·have hΓ:=zA.right h;have h1:zA S (RS P vs' env σ.rg) w:=by rw[qI (fun e he o ho=>hg o<|hB.r1 e he o ho)<|fun _ _=>rfl];exact zA.left hΓ
  have h2:zA S (RS P vs' env cx.rg) w:=by rw[qI (fun e he o ho=>hg o<|hB.r2 e he o ho)<|fun _ _=>rfl];exact zA.left<|zA.right hΓ
  have h3:=zA.right<|zA.right hΓ
  cases d with
  |none=>
   unfold GS;rw[show σ'.rg=σ.rg from ha];exact zA.append h1<|zA.append h2 h3
  |some t=>
   have hm:RS P vs' (put env (some t) v) cx.rg=RS P vs' env cx.rg:=qI (fun _ _ _ _=>rfl) fun e he=>cW fun ht=>by
    simp only[wu,Yd,xaR]at hd;have:=hd e he;simp only[xaz]at ht;rw[ht]at this;simp at this
   unfold GS;rw[ha,hm];refine zA.append (jK.2 fun f hp=> ?_)<|zA.append h2 h3;obtain⟨e,he,rfl⟩:=xal.1 hp;rcases Nm.1 he with he|he
   ·obtain⟨e',hb,rfl⟩:=xal.1 he;simp only[sn];exact hf S w (zA.left h) e' hb
   ·obtain⟨hq,hi⟩:=xcj.1 he;have hr:some t≠some e.1:=fun hc=>by
     simp only[xaz]at hc;rw[hc]at hi;simp at hi
    rw[cW hr];exact JK h1 hq
theorem Qq{v:Value}{σ':Sg}{l:List (Nat×Dv)}{Γl:List FF}(hB:Bd cx σ)(hd:wu cx d=true)(hb:σ'.rg=vi σ.rg d l)(hn:σ.nx<=σ'.nx)(ha:∀o,o<σ.nx->vs' o=vs o)
 (hl:∀e∈l,∀o,wj e.2=some o->o<σ'.nx) (hc:∀e∈σ'.ob,e.1<σ'.nx) (hf:∀S w,zA S Γl w->∀e∈l,(xK P vs' e.2 v e.1).p S w)
 (he:St fr.we fr.Se (OS vs' fr cx σ'.ob) (Γl++GS P vs env fr cx σ) w):cm P fr cx σ.nx vs σ' (put env d v) w:=⟨vs',ha,CV hB hd hb hn ha hl hc hf he⟩
def zdG(P:Program)(vs:Nat->Value)(v:Value)(l:List (Nat×Dv)):List FF:=l.map fun e=>xK P vs e.2 v e.1
theorem BW{n:Nat}{l:List (Nat×Dv)}(h:okL n l=true):∀e∈l,∀o,wj e.2=some o->o<n:=by
 intro e he o ho;unfold okL at h;rw[xaR]at h;have:=h e he;rw[ho]at this;have:=xbM this;lia
theorem ES.mono{o:Oper}{l:List (Nat×Dv)}{F:List MF}(h:ES P o cx σ [] l):ES P o cx σ F l:=by
 intro env w S vs h1 h2 h3;refine h env w S vs h1 (uc.2 fun m hm=>uc.1 h2 m ?_) h3;rcases Nm.1 hm with hm|hm
 ·exact Nm.2 (.inl hm)
 ·rw[xbR]at hm;exact Nm.2 (.inr<|Nm.2 (.inl hm))
theorem zja{o:Oper}{l:List (Nat×Dv)}(h:ES P o cx σ fr.F l)(hd:wu cx o.dst=true)(hl:okL σ.nx l=true)(hR:aR P fr cx σ vs env w):kv P o env w (fun v w'=>cm P fr cx σ.nx vs (σ.put o.dst l) (put env o.dst v) w'):=by
 obtain⟨hB,h1,h2,h3,S,h4,h5,h6,h7,h8⟩:=hR;refine(h env w S vs h5 h7 fun t _=>Yh h8 t).mono ?_;rintro v w' ⟨hx,hf⟩;refine Qq (σ':=σ.put o.dst l) (Γl:=zdG P vs v l) hB hd rfl (xab _) (fun _ _=>rfl) (BW hl) hB.o1 (fun S w ha e he=>jK.1 ha _<|xal.2 ⟨e,he,rfl⟩) ?_;refine⟨h1.trans hx,h2,h3,S,h4,fun k hk=>h5 k<|xam hx.size hk,h6,yw.keep hx.to (fun m hm i hi=>hx.block i (yw.lt h7 m hm i hi) trivial) h7,zA.append (jK.2 fun f hb=> ?_)<|zA.keep hx.to h8⟩;obtain⟨e,he,rfl⟩:=xal.1 hb;exact hf e he
def ou(P:Program)(cx:Sg)(o:Oper)(σ:Sg)(k:Sg->Option R)(r:R):Prop:=∃σ',k σ'=some r/\σ.nx<=σ'.nx/\∀(fr:Fr) (vs:Nat->Value) (env:yN) (w:World),aR P fr cx σ vs env w->kv P o env w (fun v w'=>cm P fr cx σ.nx vs σ' (put env o.dst v) w')
theorem m_E(hT:yZ P cf.tt)(hL:jN P cf.tt)(hC:∀s∈cf.cs,y6 P s)(hX:Aa P cf){op:Op}{k:Sg->Option R}(hd:wu cx d=true)(h:mE cf cx σ d op k=some r):ou P cx ⟨d,op,ty,pos,aft,g⟩ σ k r:=by
 unfold mE at h;obtain⟨l,h,ha⟩:=zcL (P:=P) (d:=d) (ty:=ty) (pos:=pos) (aft:=aft) (g:=g) (F:=[]) hT hL hC hX h;obtain⟨hl,h⟩:=yh h;exact⟨_,h,xab _,fun fr vs env w hR=>zja ha.mono hd hl hR⟩
def Y8(vs:Nat->Value)(n:Nat)(v:Value):Nat->Value:=fun o=>bif xap o n then v else vs o
theorem vC{n:Nat}{v:Value}:Y8 vs n v n=v:=by simp[Y8]
theorem uB{n o:Nat}{v:Value}(h:o<n):Y8 vs n v o=vs o:=by unfold Y8;rw[uX<|by lia];rfl
theorem zaN{n:Nat}{v:Value}{ob:List (Nat×Od)}(h:∀e∈ob,e.1<n):MS (Y8 vs n v) ob=MS vs ob:=wa fun e he=>uB<|h e he
theorem Ei{v:Value}{ob:List (Nat×Od)}(hB:Bd cx σ)(h:∀e∈ob,e.1<σ.nx):OS (Y8 vs σ.nx v) fr cx ob=OS vs fr cx ob:=by
 show MS _ ob++(MS _ cx.ob++_)=_;rw[zaN h,zaN hB.o2]
theorem VY{v:Value}{mk:Nat->Dv}{X:Od}{ob:List (Nat×Od)}(hB:Bd cx σ)(hd:wu cx d=true)(ha:∀e∈ob,e.1<σ.nx)(hb:∀o,wj (mk o)=some o)(hc:∀S w,(vv P (Y8 vs σ.nx v) (mk σ.nx) v).p S w)
 (hf:St fr.we fr.Se (Qz (Y8 vs σ.nx v) (σ.nx,X)::OS vs fr cx ob) (GS P vs env fr cx σ) w):cm P fr cx σ.nx vs ⟨σ.nx+1,vi σ.rg d [(0,mk σ.nx)],(σ.nx,X)::ob⟩ (put env d v) w:=by
 refine Qq (σ':=⟨σ.nx+1,vi σ.rg d [(0,mk σ.nx)],(σ.nx,X)::ob⟩) (vs:=vs) (vs':=Y8 vs σ.nx v) (Γl:=[]) hB hd rfl (xcd _) (fun o ho=>uB ho) ?_ ?_ ?_ ?_
 ·intro e he o ho;obtain rfl:=xai.1 he;rw[hb]at ho;cases ho;exact xbY _
 ·intro e he;rcases xac.1 he with rfl|he
  ·exact xbY _
  ·exact xfq<|ha e he
 ·intro S w _ e he;obtain rfl:=xai.1 he;exact hc S w
 ·show St _ _ (Qz (Y8 vs σ.nx v) (σ.nx,X)::OS (Y8 vs σ.nx v) fr cx ob) _ _;rw[Ei hB ha];exact hf
theorem Jr{v:Value}(S:Nat->Prop)(w:World):(vv P (Y8 vs σ.nx v) (.ow σ.nx) v).p S w:=(vC (vs:=vs)).symm
theorem FV{t:Ty}{b:Nat}(S:Nat->Prop)(w:World):(vv P (Y8 vs σ.nx (.pointer<|some ⟨b,0,none⟩)) (.vs σ.nx t) (.pointer<|some ⟨b,0,none⟩)).p S w:=⟨vC.symm,b,vC⟩
theorem Jq{t:Ty}{E:TypeId}{xs:List t.D}{n:Nat}{v:Value}:Qz (Y8 vs n v) (n,.own t E xs)=mO t.rep E v xs:=by simp only[Qz,vC]
theorem zad{t:Ty}{E:TypeId}{z:t.D}{n:Nat}{v:Value}:Qz (Y8 vs n v) (n,.var t E z)=mP t.rep.c E v z:=by simp only[Qz,vC]
theorem zeH(hT:yZ P cf.tt){E:TypeId}{k:Sg->Option R}(hd:wu cx d=true)(h:L9 cf σ d E k=some r):ou P cx ⟨d,.alloc E,ty,pos,aft,g⟩ σ k r:=by
 unfold L9 at h;split at h
 ·next ti ha=>
  obtain⟨zero,hb,hf,hc⟩:=Vv hT ha;refine⟨_,h,xcd _,fun fr vs env w hR=> ?_⟩;obtain⟨hB,he⟩:=hR;refine(B0 (e:=ti.ty.rep.c) (z:=ti.ty.z) hb hc w he).mono ?_;rintro v w' ⟨b,rfl,_,hs⟩;refine VY (vs:=vs) (mk:=fun o=> .vs o ti.ty) hB hd hB.o1 (fun _=>rfl) (fun S w=>FV S w) ?_;rw[zad];exact hs.toP 0 rfl
 ·cases h
theorem zkt{E:TypeId}{k:Sg->Option R}(hd:wu cx d=true)(h:zhh cf cx σ d E x k=some r):ou P cx ⟨d,.box E x,ty,pos,aft,g⟩ σ k r:=by
 unfold zhh at h;split at h
 ·next ti hc=>
  obtain⟨y,h,hy⟩:=XZ h;refine⟨_,h,xcd _,fun fr vs env w hR=> ?_⟩;obtain⟨hB,hb⟩:=hR;refine(zdT (e:=ti.ty.rep) (z:=y) rfl (fun S w ha=>hy P vs env S w<|zY ha x) w hb).mono ?_;rintro v w' ⟨b,rfl,_,hs⟩;refine VY (vs:=vs) (mk:=fun o=> .vs o ti.ty) hB hd hB.o1 (fun _=>rfl) (fun S w=>FV S w) ?_;rw[zad];exact hs.toP 0 rfl
 ·cases h
theorem O2(h:OO x y=true):ev env x=ev env y:=by
 unfold OO at h;split at h
 ·rw[z8 h]
 ·simp only[eqI,decide_eq_true_eq]at h;rw[h]
 ·cases h
theorem zgp(hT:yZ P cf.tt){k:Sg->Option R}(hd:wu cx d=true)(h:zaG cf cx σ d t x y k=some r):ou P cx ⟨d,.makeSlice t x y,ty,pos,aft,g⟩ σ k r:=by
 unfold zaG at h;split at h
 ·next s E B ht=>
  obtain⟨hi,h⟩:=yh h;split at h
  ·next ti n he hn=>
   obtain⟨hk,h⟩:=yi h;subst hk;obtain⟨zero,hl,ho,hm⟩:=Vv hT he;obtain⟨j,hj,h⟩:=Pf h;obtain⟨hb,h⟩:=kG h;obtain⟨xs,hf,h⟩:=xq h;refine⟨_,h,xcd _,fun fr vs env w hR=> ?_⟩;obtain⟨hB,hg⟩:=hR;obtain⟨S0,_,hΓ⟩:=hg.ex;have hx:ev env x=.int .i64 (j:Int):=by rw[(xW hn<|zY hΓ x).1,hj]
   have ha:=(hT _ _ he).2.1;refine(GQ (e:=ti.ty.rep) (z:=ti.ty.z) (xs:=xs) (n:=j) (vn hT ht) hl hx ((O2 hi).symm.trans hx) ha hb hm hf w hg).mono ?_;rintro v w' ⟨b,rfl,_,hs⟩;refine VY (vs:=vs) (mk:=.ow) hB hd hB.o1 (fun _=>rfl) (fun S w=>Jr S w) ?_;rw[Jq];have hc:xs.length=j:=by rw[hf];exact xaZ
   have:=hs.closeF 0 rfl (by rw[hc];exact xab _)<|zaT ha hb;rw[hc]at this;exact this
  ·cases h
 ·cases h
theorem zjp(hT:yZ P cf.tt)(hL:jN P cf.tt){n:Nat}{ps:Array (Nat×Operand)}{k:Sg->Option R}(hd:wu cx d=true)(h:zhn cf cx σ d t n ps.toList k=some r):ou P cx ⟨d,.buildSlice t n ps,ty,pos,aft,g⟩ σ k r:=by
 unfold zhn at h;split at h
 ·next e E B ht=>
  obtain⟨hb,h⟩:=yh h;have hb:=xbM hb;rw[<-e.n_rep]at hb;obtain⟨ys,h,he,hf⟩:=fJ h;obtain⟨bytes,zero,hg⟩:=VQ hT hL ht;refine⟨_,h,xcd _,fun fr vs env w hR=> ?_⟩;obtain⟨hB,hi⟩:=hR;have hc:(ps.toList.map fun q:Nat×Operand=>(q.1,ev env q.2)).map (·.1)=xfp 0 (ps.toList.map fun q:Nat×Operand=>(q.1,ev env q.2)).length:=by rw[xcT,xaP];exact he
  have hj:=fun(S:Nat->Prop) (w:World) (ha:zA S (GS P vs env fr cx σ) w)=>Ef hc<|hf P vs env S w fun x _=>zY ha x;refine(zbk (e:=e.rep) (zs:=fS n e ys) (x8:=ps.toList) (vn hT ht) hg (zaC hT hL ht) (ai n e ys) hb rfl (fun S w ha=>by have:=(hj S w ha).1;rwa[xcv]at this) (fun S w ha=>(hj S w ha).2) w hi).mono ?_;rintro v w' ⟨b,rfl,_,hs⟩;refine VY (vs:=vs) (mk:=.ow) hB hd hB.o1 (fun _=>rfl) (fun S w=>Jr S w) ?_;rw[Jq];exact hs
 ·cases h
end
end
section
section
variable{P:Program}{cf:Cf}{fr:Fr}{cx σ:Sg}{vs vs':Nat->Value}{env:yN}{w:World}{R:Type}{r:R}
 {d:Option Tmp}{ty t yt:TypeId}{pos:String}{aft:Array Edge}{g:Option (Nat×Bool)}{x y:Operand}
theorem KQ{ob:List (Nat×Od)}{o:Nat}{X Y:Od}(h:xO ob o=some X):∀e∈kL ob o Y,∃e'∈ob,e'.1=e.1:=by grind [wQ,xeN,xbx]
theorem ue:∀{ob:List (Nat×Od)}{o:Nat},∀e∈yD ob o,e∈ob
 |(o',X)::r,o,e,he=>by
  unfold yD at he;cases hb:xap o' o<;>rw[hb]at he
  ·rcases xac.1 he with rfl|he
   ·exact FS
   ·exact UV _<|ue e he
  ·exact UV _ he
theorem gx{o:Nat}{X Y:Od}{v:Value}(hB:Bd cx σ)(ho:xO σ.ob o=some X)(ha:St fr.we fr.Se (OS vs fr cx<|kL σ.ob o Y) (GS P vs env fr cx σ) w):cm P fr cx σ.nx vs ⟨σ.nx,σ.rg,kL σ.ob o Y⟩ (put env none v) w:=by
 refine Qq (σ':=⟨σ.nx,σ.rg,kL σ.ob o Y⟩) (d:=none) (l:=[]) (vs:=vs) (vs':=vs) (Γl:=[]) hB rfl rfl (xab _) (fun _ _=>rfl) (fun _ he=>absurd he IR) (fun e he=> ?_) (fun S w _ e he=>absurd he IR) ha;obtain⟨e',h1,h2⟩:=KQ ho e he;rw[<-h2];exact hB.o1 e' h1
theorem kS{α:Type _}(l:List α)(i:Nat)(a b:α):(l.set i a).set i b=l.set i b:=by simp
theorem wy{α:Type _}{l:List α}{i:Nat}{a b:α}(h:l[i]? =some a):(l.set i b)[i]? =some b:=by grind [xat]
theorem iR{α:Type _}:∀(l:List α) (i:Nat) (a:α),(l.set i a).eraseIdx i=l.eraseIdx i
 |[],_,_=>by simp
 |_::_,0,_=>rfl
 |b::l,i+1,a=>by simp[iR l i a]
theorem gu{α:Type}{e:zZ α}{E:TypeId}{xs:List α}{v:Value}{S:Nat->Prop}{b n cap:Nat}(h:(mO e E v xs).p S w)(hv:v=.slice (some ⟨b,0,none⟩) n cap):n=xs.length:=by
 obtain⟨cs,h5,h6⟩:=h;rcases h5.2 with⟨h,h7⟩|⟨g',cap',cur,h,_⟩
 ·rw[hv]at h;cases h
 ·rw[hv]at h;cases h;rfl
theorem zeX(hT:yZ P cf.tt){k:Sg->Option R}{ti:TI}(hA:Ye cf t=some ti)(h:Nh σ ti.ty (xX cx σ x) (xX cx σ y) k=some r):ou P cx ⟨none,.store t x y,ty,pos,aft,g⟩ σ k r:=by
 obtain⟨zero,hf,_⟩:=Vv hT hA;unfold Nh at h;split at h
 ·next o _ hx=>
  split at h
  ·next s' E z ho=>
   obtain⟨hC,h1⟩:=yi h;subst hC;obtain⟨q,h,hq⟩:=XZ h1;refine⟨_,h,xab _,fun fr vs env w hR=> ?_⟩;obtain⟨hB,hc⟩:=hR;obtain⟨S0,_,hΓ⟩:=hc.ex;obtain⟨i,hi,hd,hr⟩:=wQ ho;have hm:(OS vs fr cx σ.ob)[i]? =some (mP ti.ty.rep.c E (vs o) z):=Vd hi;obtain⟨b,hv,hs⟩:=hc.openP i hm;obtain⟨hg,_⟩:=zk hx<|zY hΓ x;refine(Yj (f:=ti.ty.rep) (z':=z) (y':=q) (up:=id) i (wy hm) (hg.trans hv) rfl (Sub.self ti.ty.rep z) hf (fun S w ha=>hq P vs env S w<|zY ha y) w hs).mono ?_;rintro v w' ⟨_,rfl,_,hk⟩;refine gx (vs:=vs) hB ho ?_;have he:=hk.toP i<|wy<|wy hm;rw[kS,kS,<-hv]at he;rw[hd];show St _ _ (MS vs (σ.ob.set i (o,.var ti.ty E q))++_) _ _;rw[<-r9 hi];exact he
  ·cases h
 ·next o s1 f hx=>
  split at h
  ·next s' E z hb ho _=>
   obtain⟨hu,h1⟩:=yi h;subst hu;obtain⟨q,h2,hq⟩:=XZ h1;obtain⟨z2,hw,h⟩:=xq h2;obtain⟨hb⟩:=hb;refine⟨_,h,xab _,fun fr vs env w hR=> ?_⟩;obtain⟨hB,hc⟩:=hR;obtain⟨S0,_,hΓ⟩:=hc.ex;obtain⟨i,hi,hd,hr⟩:=wQ ho;have hm:(OS vs fr cx σ.ob)[i]? =some (mP s'.rep.c E (vs o) z):=Vd hi;obtain⟨b,hv,hs⟩:=hc.openP i hm;obtain⟨hy,b',hl,hg⟩:=zk hx<|zY hΓ x;rw[hv]at hl;cases hl;rw[<-hb]at hf;refine(Yj (f:=f.f.rep) (z':=f.get z) (y':=q) (up:=fun y=>f.set y z) i (wy hm) hg rfl (by rw[xaN];exact hy z) hf (fun S w ha=>hq P vs env S w<|zY ha y) w hs).mono ?_;rintro v w' ⟨_,rfl,_,hk⟩;refine gx (vs:=vs) hB ho ?_;have he:=hk.toP i<|wy<|wy hm;rw[kS,kS,<-hv,<-hw]at he;rw[hd];show St _ _ (MS vs (σ.ob.set i (o,.var s' E z2))++_) _ _;rw[<-r9 hi];exact he
  ·cases h
 ·next o s1 j f hx=>
  split at h
  ·next s' E xs hb ho _=>
   obtain⟨hu,h1⟩:=yi h;cases hu;obtain⟨q,h2,hq⟩:=XZ h1;obtain⟨z2,hw,h⟩:=xq h2;obtain⟨hb⟩:=hb;refine⟨_,h,xab _,fun fr vs env w hR=> ?_⟩;obtain⟨hB,hc⟩:=hR;obtain⟨S0,_,hΓ⟩:=hc.ex;obtain⟨i,hi,hd,hr⟩:=wQ ho;have hm:(OS vs fr cx σ.ob)[i]? =some (mO s1.rep E (vs o) xs):=Vd hi;obtain⟨hy,b,n,cap,hv,hj,hg⟩:=zk hx<|zY hΓ x;have hn:n=xaI xs:=xR hc hm fun S hp=>gu hp hv;subst hn;obtain⟨b',cap',hl,hD,hE,hs⟩:=hc.openO i hm<|xba (xah _) hj;rw[hv]at hl;cases hl;rw[<-hb]at hf;have hz:=(Sub.rowT0 s1.rep cap xs j (xeq xs j s1.z)<|getD_some s1.z hj).comp<|hy<|xeq xs j s1.z;refine(Yj (f:=f.f.rep) (y':=q) i (wy hm) hg rfl hz hf (fun S w ha=>hq P vs env S w<|zY ha y) w hs).mono ?_;rintro v w' ⟨_,rfl,_,hk⟩;refine gx (vs:=vs) hB ho ?_;have ht:(xfX xs j<|f.set q<|xeq xs j s1.z).length=xaI xs:=xcK ..;have he:=hk.closeF i (wy<|wy hm) (by rw[ht];exact hD) hE;rw[kS,kS,ht,<-hv,<-hw]at he;rw[hd];show St _ _ (MS vs (σ.ob.set i (o,.own s1 E z2))++_) _ _;rw[<-r9 hi];exact he
  ·cases h
 ·cases h
end
end
section
section
variable{P:Program}{cf:Cf}{fr:Fr}{cx σ:Sg}{vs vs':Nat->Value}{env:yN}{w:World}{R:Type}{r:R}
 {d:Option Tmp}{ty t yt:TypeId}{pos:String}{aft:Array Edge}{g:Option (Nat×Bool)}{x y:Operand}
theorem zca{et:TypeId}{ag:Bool}{sz bytes:Nat}{zero:Value}{hi:Operand}(hx:ev env x=.slice none 0 0)(ht:P.underlying t=some (.slice et))(hb:X3 P et ag sz bytes zero)
 (hh:ev env hi=.int .i64 ((0:Nat):Int)) (w:World):(execOp (ev env) ⟨d,.slice t x none (some hi) none,ty,pos,aft,g⟩).run P w=.ok (.value (.slice none 0 0)) w:=by
 have b1:(0:Int)<=((0:Nat):Int)/\((0:Nat):Int)<=((0:Nat):Int):=by lia
 have ha:(xcX t (.slice none 0 0) none (some (.int .i64 ((0:Nat):Int))) none).run P w=.ok (.slice none 0 0) w:=by
  unfold xcX;simp only[xas,run_underlying ht,xad];unfold xfL;simp only[xas,run_underlying ht,xad];unfold xdX;simp[xeo,asIntOf,xas,xaG,xad,xp hb]
 simp[execOp,hx,hh]at ha⊢;simp[ha]
theorem zhH{i o:Nat}{X:Od}{Y:MF}(hi:σ.ob[i]? =some (o,X))(ha:yD σ.ob o=σ.ob.eraseIdx i){Γ:List FF}(h:St fr.we fr.Se ((OS vs fr cx σ.ob).set i Y) Γ w):St fr.we fr.Se (Y::OS vs fr cx (yD σ.ob o)) Γ w:=by
 have:=St.front i h<|wy<|Vd hi;rw[iR,UC hi,<-ha]at this;exact this
theorem zdY(hT:yZ P cf.tt)(hL:jN P cf.tt){o:Nat}{hi:Operand}{k:Sg->Option R}(hd:wu cx d=true)(hx:xX cx σ x=some (.ow o))(h:MH cf cx σ d t o hi k=some r):
 ou P cx ⟨d,.slice t x none (some hi) none,ty,pos,aft,g⟩ σ k r:=by
 unfold MH at h;split at h
 ·next s1 E1 B s E xs ht ho=>
  obtain⟨hu,h1⟩:=yi h;cases hu;rcases Q9 h1 with⟨e,_⟩|⟨z,m,e,h2,hz⟩
  ·cases e
  ·cases e;obtain⟨hm,h3⟩:=kG h2;obtain⟨ys,hj,h4⟩:=xq h3;obtain⟨bytes,zero,hc⟩:=VQ hT hL ht;refine⟨_,h4,xcd _,fun fr vs env w hR=> ?_⟩;obtain⟨hB,ha⟩:=hR;obtain⟨S0,_,hΓ⟩:=ha.ex;have hf:ev env x=vs o:=zk hx<|zY hΓ x;have hg:=hz P vs env S0 w<|zY hΓ hi;obtain⟨i,hk,hE,hl⟩:=wQ ho;have hb:(OS vs fr cx σ.ob)[i]? =some (mO s1.rep E (vs o) xs):=Vd hk
   have fin:∀v,(execOp (ev env) ⟨d,.slice t x none (some hi) none,ty,pos,aft,g⟩).run P w=.ok (.value v) w->St fr.we fr.Se ((OS vs fr cx σ.ob).set i<|mO s1.rep E v ys) (GS P vs env fr cx σ) w->
    kv P ⟨d,.slice t x none (some hi) none,ty,pos,aft,g⟩ env w (fun v w'=>cm P fr cx σ.nx vs ⟨σ.nx+1,vi σ.rg d [(0,.ow σ.nx)],(σ.nx,.own s1 E ys)::yD σ.ob o⟩ (put env d v) w'):=by
    intro v hn hs;refine kv.of_value hn<|VY (vs:=vs) (mk:=.ow) hB hd (fun e he=>hB.o1 e<|ue e he) (fun _=>rfl) (fun S w=>Jr S w) ?_;rw[Jq];exact zhH hk hl hs
   rcases xcu (xaI xs)with h0|h0
   ·have hw:m=0:=by have:m<=xaI xs:=hm;lia
    subst hw;have hy:ys=xs:=by rw[hj];exact(xbF.1 h0).symm▸rfl
    subst hy;have hp:(OS vs fr cx σ.ob).set i (mO s1.rep E (vs o) ys)=OS vs fr cx σ.ob:=by
     apply xcy;intro j;rw[xeb];split
     ·next hA=>
      subst hA;split
      ·exact hb.symm
      ·next hC=>exact absurd (xat.1 hb).1 hC
     ·rfl
    have hv:vs o=.slice none 0 0\/∃b cap,vs o=.slice (some ⟨b,0,none⟩) 0 cap:=xR ha hb fun S ⟨cs,h5,_⟩=>by
     rcases h5.2 with⟨h,_⟩|⟨b,cap,cur,h,_⟩
     ·exact .inl h
     ·rw[h0]at h;exact .inr ⟨b,cap,h⟩
    rcases hv with hv|⟨b,cap,hv⟩
    ·exact fin _ (zca (hf.trans hv) (vn hT ht) hc hg w)<|by rw[<-hv,hp];exact ha
    ·exact fin _ (GB (hf.trans hv) (vn hT ht) hc hg (xah _) w)<|by rw[<-hv,hp];exact ha
   ·obtain⟨b,cap,hv,hq,hD,hs⟩:=ha.openO i hb h0;have hr:=hs.closeO i m (wy hb) hm (xam hm hq) hD;rw[kS]at hr;exact fin _ (GB (hf.trans hv) (vn hT ht) hc hg (xam hm hq) w)<|by rw[hj];exact hr
 ·cases h
theorem zbD(hT:yZ P cf.tt){t':TypeId}{same:Bool}{ti:TI}{E:TypeId}{ob:List (Nat×Od)}{xs:List ti.ty.D}{k:Sg->Option R}(ht:P.underlying t=some (.slice E))(hk:Ye cf E=some ti)(hd:wu cx d=true)
 (he:same=true->t=t') (h:Oc cf cx σ d t' same ti.ty E ti.B ti.ty.z y ob xs k=some r):
 ∃σ',k σ'=some r/\σ.nx<=σ'.nx/\∀(fr:Fr) (vs:Nat->Value) (env:yN) (w:World) (u:Value),Bd cx σ->(∀e∈ob,e.1<σ.nx)->ev env x=u->St fr.we fr.Se (mO ti.ty.rep E u xs::OS vs fr cx ob) (GS P vs env fr cx σ) w->
  kv P ⟨d,.call ⟨.builtin .append,#[x,y],#[t,t']⟩,ty,pos,aft,g⟩ env w (fun v w'=>cm P fr cx σ.nx vs σ' (put env d v) w'):=by
 obtain⟨zero,hl,ho,hu⟩:=Vv hT hk;have hr:=(hT _ _ hk).2.1;have hn:=(hT _ _ hk).2.2.1;have HY:∀m,m*ti.B<=140737488355328->m<=9223372036854775807:=fun m hm=>by
  have:=xcb m hr;lia
 unfold Oc at h;split at h
 ·next n hw=>
  split at h
  ·next q ik B' hz=>
   obtain⟨j,hj,h⟩:=Pf h;obtain⟨hb,h⟩:=kG h;obtain⟨zs,hf,h⟩:=xq h;refine⟨_,h,xcd _,fun fr vs env w u hB hg hx hc=> ?_⟩;obtain⟨S0,_,hΓ⟩:=hc.ex;refine(MQ (e:=ti.ty.rep) (z:=ti.ty.z) (n:=j) 0 ht (Vb hT hz) hl ho hn rfl hx (by rw[(xW hw<|zY hΓ y).1,hj]) hu (HY _ hb) hb w hc).mono ?_;rintro v w' ⟨v',rfl,_,hs⟩;refine VY (vs:=vs) (mk:=.ow) hB hd hg (fun _=>rfl) (fun S w=>Jr S w) ?_;rw[Jq,hf];exact hs
  ·cases h
 ·split at h
  ·next o2 t2 lo n hy=>
   split at h
   ·next s2 E2 zs0 hA=>
    obtain⟨hp,h⟩:=yh h;obtain rfl:=he hp;obtain⟨hq,h⟩:=yi h;cases hq;obtain⟨hq,h⟩:=yi h;cases hq;obtain⟨ys,hi,h⟩:=xq h;obtain⟨hb,h⟩:=kG h;obtain⟨zs,hf,h⟩:=xq h;refine⟨_,h,xcd _,fun fr vs env w u hB hg hx hc=> ?_⟩;obtain⟨S0,_,hΓ⟩:=hc.ex;have hv:=zk hy<|zY hΓ y;refine(J2 (e:=ti.ty.rep) (ys:=ys) 0 ht hl ho hn rfl hx rfl (fun S w hM ha=> ?_) (HY _ hb) hb w hc).mono ?_
    ·have hm:(mO ti.ty.rep E2 (vs o2) zs0).p S w:=uY (σ:=⟨σ.nx,σ.rg,ob⟩) (F:=fr.F) hM.2 hA;rcases hv with⟨b,m,cap,c,q1,q2,q3,q4,q5⟩|⟨q1,ao,c,q2,q3⟩
     ·rw[q5,hi];exact E6 hm q1 q2 q3 q4
     ·subst q1;rw[q3,hi];exact⟨ao,c,by simp,by simp,by unfold maxLen;lia,.inl<|by simp⟩
    rintro v w' ⟨v',rfl,_,hs⟩;refine VY (vs:=vs) (mk:=.ow) hB hd hg (fun _=>rfl) (fun S w=>Jr S w) ?_;rw[Jq,hf];exact hs
   ·cases h
  obtain⟨hp,h⟩:=yh h;obtain rfl:=he hp;obtain⟨ys,h,hi⟩:=XZ h;obtain⟨hb,h⟩:=kG h;obtain⟨zs,hf,h⟩:=xq h;refine⟨_,h,xcd _,fun fr vs env w u hB hg hx hc=> ?_⟩;refine(Rr (e:=ti.ty.rep) (ys:=ys) 0 ht hl ho hn rfl hx rfl (fun S w ha=>hi P vs env S w<|zY ha y) (HY _ hb) hb w hc).mono ?_;rintro v w' ⟨v',rfl,_,hs⟩;refine VY (vs:=vs) (mk:=.ow) hB hd hg (fun _=>rfl) (fun S w=>Jr S w) ?_;rw[Jq,hf];exact hs
theorem ziS(hT:yZ P cf.tt){ags:Array Operand}{ts:Array TypeId}{k:Sg->Option R}(hd:wu cx d=true)(h:zg6 cf cx σ d ags.toList ts.toList k=some r):
 ou P cx ⟨d,.call ⟨.builtin .append,ags,ts⟩,ty,pos,aft,g⟩ σ k r:=by
 unfold zg6 at h;split at h
 ·next _ _ x y t t' hl hn=>
  obtain rfl:ags= #[x,y]:=by cases ags;simp_all
  obtain rfl:ts= #[t,t']:=by cases ts;simp_all
  split at h
  ·next s E B ht=>
   split at h
   ·next ti hc=>
    obtain⟨hi,h1⟩:=yi h;subst hi;split at h1
    ·next hx=>
     obtain⟨σ',h5,h6,h7⟩:=zbD (ty:=ty) (pos:=pos) (aft:=aft) (g:=g) (x:=x) hT (vn hT ht) hc hd (fun h=>z8 h) h1;refine⟨σ',h5,h6,fun fr vs env w hR=> ?_⟩;obtain⟨hB,ha⟩:=hR;obtain⟨S0,_,hΓ⟩:=ha.ex;exact h7 fr vs env w _ hB hB.o1 (zk hx<|zY hΓ x) ha.nilO
    ·next o hx=>
     split at h1
     ·next s' E' xs ho=>
      obtain⟨hE,h2⟩:=yh h1;have hE:=z8 hE;subst hE;obtain⟨hj,h3⟩:=yi h2;cases hj;obtain⟨σ',h5,h6,h7⟩:=zbD (ty:=ty) (pos:=pos) (aft:=aft) (g:=g) (x:=x) hT (vn hT ht) hc hd (fun h=>z8 h) h3;refine⟨σ',h5,h6,fun fr vs env w hR=> ?_⟩;obtain⟨hB,ha⟩:=hR;obtain⟨S0,_,hΓ⟩:=ha.ex;obtain⟨i,hf,hm,hg⟩:=wQ ho;have hk:(OS vs fr cx σ.ob)[i]? =some (mO ti.ty.rep E' (vs o) xs):=Vd hf;have hb:=ha.front i hk;rw[UC hf,<-hg]at hb;exact h7 fr vs env w _ hB (fun e he=>hB.o1 e<|ue e he) (zk hx<|zY hΓ x) hb
     ·cases h1
    ·cases h1
   ·cases h
  ·cases h
 ·cases h
theorem zeB{α:Type}(xs ys:List α):(cpy xs ys).length=xs.length:=by grind [cpy,xax,xav,xbO]
theorem zdZ{α:Type}{xs:List α}(ys:List α)(h:xs.length=0):cpy xs ys=xs:=by grind [cpy,xbF]
theorem zgs{α:Type}(xs ys:List α):xdt 0 xs++xdt (min ys.length xs.length) ys++xdA (0+min ys.length xs.length) xs=cpy xs ys:=by simp[cpy]
theorem NH{α:Type}(lo:Nat)(xs ys:List α):bu lo 0 xs ys=xs:=by simp[bu]
theorem Si{α:Type}{lo n:Nat}{xs:List α}(ys:List α)(h:lo+n<=xs.length):(bu lo n xs ys).length=xs.length:=by grind [bu,xax,xav,xbO]
theorem zgC(hT:yZ P cf.tt)(hL:jN P cf.tt){ags:Array Operand}{ts:Array TypeId}{k:Sg->Option R}(hd:wu cx d=true)(h:zcX cf cx σ d ags.toList ts.toList k=some r):
 ou P cx ⟨d,.call ⟨.builtin .copy,ags,ts⟩,ty,pos,aft,g⟩ σ k r:=by
 unfold zcX at h;split at h
 ·next x y t t' hK hM=>
  obtain rfl:ags= #[x,y]:=by cases ags;simp_all
  obtain rfl:ts= #[t,t']:=by cases ts;simp_all
  split at h
  ·next s E B o ht hx=>
   split at h
   ·next s' E' xs ho=>
    obtain⟨h1,h⟩:=yh h;obtain⟨hA,h⟩:=yi h;cases hA;obtain⟨ys,h,hy⟩:=XZ h;obtain⟨zs,hb,h⟩:=xq h;have hb:zs=cpy (α:=s.D) xs ys:=hb;obtain⟨bytes,zero,hk⟩:=VQ hT hL ht;have hl:s.rep.n=1:=by rw[s.n_rep];exact z8 h1
    refine⟨_,h,xab _,fun fr vs env w hR=> ?_⟩;obtain⟨hB,hc⟩:=hR;obtain⟨S0,_,hΓ⟩:=hc.ex;have hn:ev env x=vs o:=zk hx<|zY hΓ x;obtain⟨i,hi,hq,hH⟩:=wQ ho;have hm:(OS vs fr cx σ.ob)[i]? =some (mO s.rep E' (vs o) xs):=Vd hi;have fin:∀v w',St fr.we fr.Se ((OS vs fr cx σ.ob).set i<|mO s.rep E' (vs o) zs) (GS P vs env fr cx σ) w'->cm P fr cx σ.nx vs ⟨σ.nx,vi σ.rg d [],kL σ.ob o (.own s E' zs)⟩ (put env d v) w':=fun v w' hs=>by
     refine Qq (σ':=⟨σ.nx,vi σ.rg d [],kL σ.ob o (.own s E' zs)⟩) (d:=d) (l:=[]) (vs:=vs) (vs':=vs) (Γl:=[]) hB hd rfl (xab _) (fun _ _=>rfl) (fun _ he=>absurd he IR) (fun e he=> ?_) (fun S w _ e he=>absurd he IR) ?_
     ·obtain⟨e',h1,h2⟩:=KQ ho e he;rw[<-h2];exact hB.o1 e' h1
     ·rw[hq];show St _ _ (MS vs (σ.ob.set i (o,.own s E' zs))++_) _ _;rw[<-r9 hi];exact hs
    rcases xcu (xaI xs)with h0|h0
    ·have hv:vs o=.slice none 0 0\/∃b cap,vs o=.slice (some ⟨b,0,none⟩) 0 cap:=xR hc hm fun S ⟨cs,h5,_⟩=>by
      rcases h5.2 with⟨h,_⟩|⟨b,cap,cur,h,_⟩
      ·exact .inl h
      ·rw[h0]at h;exact .inr ⟨b,cap,h⟩
     obtain⟨ba,cap,hv⟩:∃ba cap,vs o=.slice ba 0 cap:=by
      rcases hv with hv|⟨b,cap,hv⟩
      ·exact⟨_,_,hv⟩
      ·exact⟨_,_,hv⟩
     obtain⟨ao,scap,hu,_⟩:=xm.1<|hy P vs env S0 w<|zY hΓ y;obtain⟨ti,hC,i1,i2,i3⟩:=hk.info;have hD:(P.info? E).map (·.size)=some 1:=by rw[hC];simp[i1,hl]
     have hr:=run_copy_none (P:=P) w t t' ty E ba ao 0 cap (xaI ys) scap (vn hT ht) hD<|Nat.min_zero _;rw[<-hu,<-hv,<-hn]at hr;have hz:zs=xs:=hb.trans<|zdZ (α:=s.D) ys h0;refine kv.of_value (v:=goInt 0) (w':=w) ?_<|fin _ w ?_
     ·simp only[execOp,resolve,invoke,builtin,xdI,xbX,xex,xas,hr,xaG,xad]
     ·have:(OS vs fr cx σ.ob).set i (mO s.rep E' (vs o) xs)=OS vs fr cx σ.ob:=by
       obtain⟨hI,hE⟩:=xat.1 hm;rw[<-hE,xfx]
      rw[hz,this];exact hc
    ·obtain⟨b,cap,hv,hF,hG,hs⟩:=hc.openO i hm h0;refine(Ht (e:=s.rep) (l:=0) (dLen:=xaI xs) (dCap:=cap) i (vn hT ht) hk hl (wy hm) (by rw[hn,hv];simp) rfl (by lia) (fun S w ha=>hy P vs env S w<|zY ha y) w hs).mono ?_;rintro v w' ⟨n,rfl,_,hg⟩;refine fin _ w' ?_;have hz:=(zgs (α:=s.D) xs ys).trans hb.symm;rw[hz]at hg;have hf:xaI zs=xaI xs:=by rw[hb];exact zeB (α:=s.D) xs ys
     have hw:=hg.closeF i (wy<|wy hm) (by rw[hf];exact hF) hG;rw[kS,kS,hf,<-hv]at hw;exact hw
   ·cases h
  ·next s E B o t2 lo n ht hx=>
   split at h
   ·next s' E' xs hj ho _=>
    obtain⟨h1,h⟩:=yh h;obtain⟨hA,h⟩:=yi h;cases hA;obtain⟨ys,h,hy⟩:=XZ h;obtain⟨zs,hb,h⟩:=xq h;have hb:zs=bu (α:=s.D) lo n xs ys:=hb;obtain⟨hj⟩:=hj;subst hj;obtain⟨bytes,zero,hk⟩:=VQ hT hL ht;have hl:t2.rep.n=1:=by rw[t2.n_rep];exact z8 h1
    refine⟨_,h,xab _,fun fr vs env w hR=> ?_⟩;obtain⟨hB,hc⟩:=hR;obtain⟨S0,_,hΓ⟩:=hc.ex;have hn:=zk hx<|zY hΓ x;obtain⟨i,hi,hq,hH⟩:=wQ ho;have hm:(OS vs fr cx σ.ob)[i]? =some (mO t2.rep E' (vs o) xs):=Vd hi;have fin:∀v w',St fr.we fr.Se ((OS vs fr cx σ.ob).set i<|mO t2.rep E' (vs o) zs) (GS P vs env fr cx σ) w'->cm P fr cx σ.nx vs ⟨σ.nx,vi σ.rg d [],kL σ.ob o (.own t2 E' zs)⟩ (put env d v) w':=fun v w' hs=>by
     refine Qq (σ':=⟨σ.nx,vi σ.rg d [],kL σ.ob o (.own t2 E' zs)⟩) (d:=d) (l:=[]) (vs:=vs) (vs':=vs) (Γl:=[]) hB hd rfl (xab _) (fun _ _=>rfl) (fun _ he=>absurd he IR) (fun e he=> ?_) (fun S w _ e he=>absurd he IR) ?_
     ·obtain⟨e',h1,h2⟩:=KQ ho e he;rw[<-h2];exact hB.o1 e' h1
     ·rw[hq];show St _ _ (MS vs (σ.ob.set i (o,.own t2 E' zs))++_) _ _;rw[<-r9 hi];exact hs
    rcases xcu n with h0|h0
    ·obtain⟨ba,c,hv⟩:∃ba c,ev env x=.slice ba 0 c:=by
      rcases hn with⟨b,m,cap,c,q1,q2,q3,q4,q5⟩|⟨q1,ao,c,q2,q3⟩
      ·exact⟨_,c,by rw[q5,h0]⟩
      ·exact⟨ao,c,q3⟩
     obtain⟨ao,scap,hu,_⟩:=xm.1<|hy P vs env S0 w<|zY hΓ y;obtain⟨ti,hC,i1,i2,i3⟩:=hk.info;have hD:(P.info? E).map (·.size)=some 1:=by rw[hC];simp[i1,hl]
     have hr:=run_copy_none (P:=P) w t t' ty E ba ao 0 c (xaI ys) scap (vn hT ht) hD<|Nat.min_zero _;rw[<-hu,<-hv]at hr;have hz:zs=xs:=by rw[hb,h0];exact NH (α:=t2.D) lo xs ys
     refine kv.of_value (v:=goInt 0) (w':=w) ?_<|fin _ w ?_
     ·simp only[execOp,resolve,invoke,builtin,xdI,xbX,xex,xas,hr,xaG,xad]
     ·have:(OS vs fr cx σ.ob).set i (mO t2.rep E' (vs o) xs)=OS vs fr cx σ.ob:=by
       obtain⟨hI,hE⟩:=xat.1 hm;rw[<-hE,xfx]
      rw[hz,this];exact hc
    ·rcases hn with⟨b0,m,cap0,c,q1,q2,q3,q4,q5⟩|⟨q1,ao,c,q2,q3⟩
     ·have hJ:m=xaI xs:=xR hc hm fun S hp=>gu hp q1;subst hJ;obtain⟨b,cap,hv,hF,hG,hs⟩:=hc.openO i hm (by lia);rw[q1]at hv;cases hv;refine(Ht (e:=t2.rep) (l:=lo) (dLen:=n) (dCap:=c) i (vn hT ht) hk hl (wy hm) q5 rfl q2 (fun S w ha=>hy P vs env S w<|zY ha y) w hs).mono ?_;rintro v w' ⟨nn,rfl,_,hg⟩;refine fin _ w' ?_;have hg:St fr.we fr.Se (((OS vs fr cx σ.ob).set i<|mB (rowT t2.rep cap0) E' b0 xs).set i<|mB (rowT t2.rep cap0) E' b0<|bu (α:=t2.D) lo n xs ys) (GS P vs env fr cx σ) w':=hg;rw[<-hb]at hg;have hf:xaI zs=xaI xs:=by rw[hb];exact Si (α:=t2.D) ys q2
      have hw:=hg.closeF i (wy<|wy hm) (by rw[hf];exact hF) hG;rw[kS,kS,hf,<-q1]at hw;exact hw
     ·lia
   ·cases h
  ·cases h
 ·cases h
end
end
end Go.Proofs.YtmggkmchbdanfaaGreat
