/- What a proof needs: rules of walking, mirrors of functions and their plain laws. No condition. -/
import Derived.Test.YtmggkmchbdanfaaGreatZd1
import Derived.WideKeyArgs
import Derived.Laws.IdiomStrings
set_option linter.unusedVariables false
set_option linter.unusedSimpArgs false
namespace Go.Proofs.YtmggkmchbdanfaaGreat
open Bool renaming and_eq_true->xam,false_eq_true->xah
open Call renaming operands->xed
open DataW renaming TrodAll->xex
open Extern renaming find->xeM,findNext->xdW
open Extern.MathBitsCarry renaming m64->xaZ,pair->xbQ,three->xbJ
open Instr renaming slice->xfE,sliceAt->xcQ,sliceBound->xeg,sliceBounds->xdS
open Int renaming eq_ofNat_of_zero_le->xaB,fdiv->xfM,natCast_nonneg->xdb,tdiv->xda,tmod->xbX,toNat_natCast->xaR,toNat_of_nonneg->xcT
open IntKind renaming bits->xeo,i64->xcS,signed->xdQ,u8->xfP,wrap->xfL
open List renaming all_eq_true->xaP,append_nil->xbK,drop->xdv,ext_getElem?->xcv,getD->xei,getD_eq_getElem?_getD->UV,getElem?_append_left->xbn,getElem?_append_right->xci,getElem?_eq_getElem->IR,getElem?_eq_some_iff->xar,getElem?_map->xaA,getElem?_range->xbg,getElem?_set->xdX,getElem_map->xfy,getElem_mem->xbh,length->xaF,length_append->xau,length_cons->xav,length_drop->xbO,length_eq_zero_iff->xbF,length_map->xaM,length_replicate->xaT,length_set->xcG,length_take->xay,map_congr_left->xbL,map_cons->xbP,map_map->xcM,map_nil->xep,map_toArray->xdF,mem_append->xaa,mem_cons->xad,mem_cons_of_mem->H1,mem_cons_self->FS,mem_filter->xbW,mem_filterMap->xeX,mem_map->xal,mem_of_getElem?->xbr,mem_or_eq_of_mem_set->xeE,mem_singleton->xai,nil_append->xbE,not_mem_nil->Nm,range->xbb,range'->xfh,replicate->xae,set->xfQ,set_getElem_self->xfp,take->xdr,take_append_drop->xbR,take_of_length_le->xaX
open List.cons renaming injEq->xeq
open Nat renaming add_assoc->xcW,add_mul->xaV,beq->xan,ble->xfN,blt->xdl,eq_of_beq_eq_true->xcH,eq_zero_or_pos->xcL,le_mul_of_pos_right->xck,le_of_ble_eq_true->xbH,le_of_lt->xds,le_refl->xac,le_succ->xcc,le_trans->xao,lt_of_le_of_lt->xbe,lt_of_lt_of_le->xap,lt_or_ge->xch,lt_succ_of_lt->xfi,lt_succ_self->xbV,mod_lt->xbp,not_lt_zero->xbv,one_mul->xcm,zero_add->xaS,zero_le->xaj,zero_mul->xcI
open Op renaming operands->xaL
open Oper renaming looksAt->xby
open Option.some renaming inj->xcY,injEq->xaw
open Prod.mk renaming injEq->xct
open Result renaming andThen_ok->xab
open Sem renaming run_bind->xaq,run_pure->xaD
open Sum renaming elim->xfo
open UInt8 renaming ofNat->xeN,toNat->xfg
open Value renaming okWide->xea
open _root_.Array renaming getElem?_eq_getElem->xcw,getElem?_eq_some_iff->xbj
section
structure W1 where
 f:FuncId
 dom:List AM
 cod:List RM
 M:JW dom->Option (aX cod)
 bk:Nat
structure mJ where
 f:FuncId
 t:Ty
 E:TypeId
 E1:TypeId
 M:List (List t.D)->List Nat->Nat->Int->Int->Nat->Nat->Option (List (List t.D))
structure EZ where
 f:FuncId
 dom:List Ty
 g:FuncId
 mc:aW dom->List PD
structure ra where
 f:FuncId
 dom:List AM
 t:Ty
 E:TypeId
 M:JW dom->{X Y:Type}->(List t.D->X->Option (List t.D×(X⊕Y)))->X->Option (X⊕Y)
structure Cf where
 tt:List (Nat×TI)
 cs:List W1
 an:An
 fu:Nat
 ex:List (Nat×Bool)
 ms:List mJ:=[]
 cl:List EZ:=[]
 is:List ra:=[]
def Sb:List mJ->FuncId->Option mJ
 |[],_=>none
 |s::r,f=>bif xan s.f f then some s else Sb r f
def P8:List EZ->FuncId->Option EZ
 |[],_=>none
 |s::r,f=>bif xan s.f f then some s else P8 r f
def zbn:List ra->FuncId->Option ra
 |[],_=>none
 |s::r,f=>bif xan s.f f then some s else zbn r f
abbrev kt{R:Type}(b:Bool)(x:Option R):Option R:=match b with
 |true=>x
 |false=>none
abbrev HO{R:Type}(b:Bool)(x y:Option R):Option R:=match b with
 |true=>x
 |false=>y
def pC:List AM->Bool
 |[]=>true
 | .own _ _::_=>false
 |_::r=>pC r
def tJ:List W1->FuncId->Option W1
 |[],_=>none
 |s::r,f=>bif xan s.f f && (pC s.dom && xan s.bk 0)then some s else tJ r f
section
variable{R:Type}(cf:Cf)(cx:Sg)
def zcL:Dv->Option PD
 | .d t x=>some ⟨t,x⟩
 | .kb b=>some ⟨.b,b⟩
 |_=>none
def ri(v:Option Dv)(t:Ty)(k:t.D->Option R):Option R:=match v with
 |some .nil=>(match t,k with
  | .l s,k=>k ([]:List s.D)
  |_,_=>none)
 |some v=>(match zcL v with
  |some p=>Ty.cast p.t t p.x k
  |none=>none)
 |none=>none
def arI(bo:BinOp)(a c:Int)(k:Dv->Option R):Option R:=match bo with
 | .add=>ze (a+c) fun x=>k (.d .i x)
 | .sub=>ze (a-c) fun x=>k (.d .i x)
 | .mul=>ze (a*c) fun x=>k (.d .i x)
 | .quo=>ck (c≠0)<|ze (xda a c) fun x=>k (.d .i x)
 | .rem=>ck (c≠0)<|nm (xbX a c) fun x=>k (.d .i x)
 | .and=>nm (Hz a c) fun x=>k (.d .i x)
 | .or=>nm (orI a c) fun x=>k (.d .i x)
 | .shr=>ck (0<=c)<|nm (xfM a (2^(min c.toNat 64))) fun x=>k (.d .i x)
 | .shl=>ck (0<=c)<|ze (a*2^(min c.toNat 64)) fun x=>k (.d .i x)
 | .lss=>if a<c then k (.kb true)else k (.kb false)
 | .leq=>if a<=c then k (.kb true)else k (.kb false)
 | .gtr=>if c<a then k (.kb true)else k (.kb false)
 | .geq=>if c<=a then k (.kb true)else k (.kb false)
 | .eql=>if a=c then k (.kb true)else k (.kb false)
 | .neq=>if a=c then k (.kb false)else k (.kb true)
 |_=>none
def arU(bo:BinOp)(a c:Nat)(k:Dv->Option R):Option R:=match bo with
 | .add=>nm ((a+c) % 18446744073709551616) fun x=>k (.d .u x)
 | .sub=>nm ((a+18446744073709551616-c) % 18446744073709551616) fun x=>k (.d .u x)
 | .mul=>nm ((a*c) % 18446744073709551616) fun x=>k (.d .u x)
 | .quo=>ck (c≠0)<|nm (a/c) fun x=>k (.d .u x)
 | .rem=>ck (c≠0)<|nm (a % c) fun x=>k (.d .u x)
 | .and=>nm (a &&& c) fun x=>k (.d .u x)
 | .or=>nm (a|||c) fun x=>k (.d .u x)
 | .lss=>if(a:Int)<(c:Int)then k (.kb true)else k (.kb false)
 | .leq=>if(a:Int)<=(c:Int)then k (.kb true)else k (.kb false)
 | .gtr=>if(c:Int)<(a:Int)then k (.kb true)else k (.kb false)
 | .geq=>if(c:Int)<=(a:Int)then k (.kb true)else k (.kb false)
 | .eql=>if(a:Int)=(c:Int)then k (.kb true)else k (.kb false)
 | .neq=>if(a:Int)=(c:Int)then k (.kb false)else k (.kb true)
 |_=>none
def arC(bo:BinOp)(a c:Nat)(k:Dv->Option R):Option R:=match bo with
 | .add=>nm ((a+c) % 256) fun x=>k (.d .ch x)
 | .sub=>nm ((a+256-c) % 256) fun x=>k (.d .ch x)
 | .lss=>if(a:Int)<(c:Int)then k (.kb true)else k (.kb false)
 | .leq=>if(a:Int)<=(c:Int)then k (.kb true)else k (.kb false)
 | .gtr=>if(c:Int)<(a:Int)then k (.kb true)else k (.kb false)
 | .geq=>if(c:Int)<=(a:Int)then k (.kb true)else k (.kb false)
 | .eql=>if(a:Int)=(c:Int)then k (.kb true)else k (.kb false)
 | .neq=>if(a:Int)=(c:Int)then k (.kb false)else k (.kb true)
 |_=>none
def eqT(bo:BinOp)(a c:List Nat)(k:Dv->Option R):Option R:=match bo with
 | .add=>ck (a.length+c.length<=9223372036854775807)<|nm (a++c) fun x=>k (.d .tx x)
 | .eql=>if a=c then k (.kb true)else k (.kb false)
 | .neq=>if a=c then k (.kb false)else k (.kb true)
 |_=>none
def shU(bo:BinOp)(a:Nat)(c:Int)(k:Dv->Option R):Option R:=match bo with
 | .shr=>ck (0<=c)<|nm (a/2^(min c.toNat 64)) fun x=>k (.d .u x)
 | .shl=>ck (0<=c)<|nm (a*2^(min c.toNat 64) % 18446744073709551616) fun x=>k (.d .u x)
 |_=>none
def NG(bo:BinOp)(a c:Nat)(k:Dv->Option R):Option R:=match bo with
 | .shr=>nm (a/2^(min (c:Int).toNat 64)) fun x=>k (.d .u x)
 | .shl=>nm (a*2^(min (c:Int).toNat 64) % 18446744073709551616) fun x=>k (.d .u x)
 |_=>none
def shI(bo:BinOp)(a:Int)(c:Nat)(k:Dv->Option R):Option R:=match bo with
 | .shr=>nm (xfM a (2^(min (c:Int).toNat 64))) fun x=>k (.d .i x)
 | .shl=>ze (a*2^(min (c:Int).toNat 64)) fun x=>k (.d .i x)
 |_=>none
def eqB(bo:BinOp)(a c:Bool)(k:Dv->Option R):Option R:=match bo with
 | .eql=>nm (a==c) fun x=>k (.d .b x)
 | .neq=>nm (!(a==c)) fun x=>k (.d .b x)
 |_=>none
def zfA(tb:Bool)(bo:BinOp)(x y:Option PD)(k:Dv->Option R):Option R:=match x,y with
 |some ⟨.i,a⟩,some ⟨.i,c⟩=>arI bo a c k
 |some ⟨.u,a⟩,some ⟨.u,c⟩=>(match bo with
  | .shr=>NG .shr a c k
  | .shl=>NG .shl a c k
  |bo=>arU bo a c k)
 |some ⟨.u,a⟩,some ⟨.i,c⟩=>shU bo a c k
 |some ⟨.i,a⟩,some ⟨.u,c⟩=>shI bo a c k
 |some ⟨.b,a⟩,some ⟨.b,c⟩=>kt tb<|eqB bo a c k
 |some ⟨.ch,a⟩,some ⟨.ch,c⟩=>arC bo a c k
 |some ⟨.tx,a⟩,some ⟨.tx,c⟩=>eqT bo a c k
 |_,_=>none
def chI(a:Nat):Dv:= .d .i (a:Int)
def chU(a:Nat)(k:Dv->Option R):Option R:=nm (a % 256) fun x=>k (.d .ch x)
def zg9(kk:TK)(x:Option PD)(k:Dv->Option R):Option R:=match kk,x with
 | .int .i64,some ⟨.i,a⟩=>k (.d .i a)
 | .int .u64,some ⟨.u,a⟩=>k (.d .u a)
 | .int .u64,some ⟨.i,a⟩=>nm (fY a) fun x=>k (.d .u x)
 | .int .i64,some ⟨.u,a⟩=>nm (Ox a) fun x=>k (.d .i x)
 | .int .i64,some ⟨.ch,a⟩=>k (chI a)
 | .int .u64,some ⟨.ch,a⟩=>k (.d .u a)
 | .int .u8,some ⟨.ch,a⟩=>k (.d .ch a)
 | .int .u8,some ⟨.u,a⟩=>chU a k
 |_,_=>none
def pd(σ:Sg)(x:Operand):Option PD:=match xU cx σ x with
 |some v=>zcL v
 |none=>none
def ZG(t:TypeId):Option TI:=Q0 cf.tt t
def isB(t:TypeId):Bool:=match ZG cf t with
 |some ⟨_,.bool,_⟩=>true
 |_=>false
def ifB(x:Bool)(a c:Option R):Option R:=if x=true then a else c
def eqI(x y:Int):Bool:=decide (x=y)
def eqU(x y:Nat):Bool:=decide (x=y)
def ngI(a:Int)(k:Dv->Option R):Option R:=ze (0-a) fun x=>k (.d .i x)
def ngU(a:Nat)(k:Dv->Option R):Option R:=nm ((18446744073709551616-a) % 18446744073709551616) fun x=>k (.d .u x)
def zgr{α:Type}(xs ys:List α)(B:Nat)(k:List α->Option R):Option R:=ck ((xs.length+ys.length)*B<=140737488355328)<|nm (xs++ys) k
def ziS{α:Type}(xs:List α)(n:Nat)(z:α)(B:Nat)(k:List α->Option R):Option R:=ck ((xs.length+n)*B<=140737488355328)<|nm (xs++xae n z) k
def ixU(j:Nat)(n:Nat)(k:Nat->Option R):Option R:=zG (j:Int) n k
def Lo:Operand->Operand->Bool
 | .tmp s,.tmp t=>xan s t
 | .const (.int .i64 x),.const (.int .i64 y)=>eqI x y
 |_,_=>false
def exU(b:Bool)(x y z:Nat)(k:List (Nat×Dv)->Option R):Option R:=
 ck (z<=1)<|HO b (nm ((x+y+z) % 18446744073709551616) fun p=>nm ((x+y+z)/18446744073709551616) fun q=>k [(1,.d .u p),(2,.d .u q)])
  (nm ((x+18446744073709551616-y-z) % 18446744073709551616) fun p=>nm (if x<y+z then(1:Nat)else 0) fun q=>k [(1,.d .u p),(2,.d .u q)])
def exD(b:Bool)(x y z:Option PD)(k:List (Nat×Dv)->Option R):Option R:=match x,y,z with
 |some ⟨.u,x⟩,some ⟨.u,y⟩,some ⟨.u,z⟩=>exU b x y z k
 |_,_,_=>none
def xV(σ:Sg):(ts:List Ty)->List (Nat×Operand)->Nat->(aW ts->Option R)->Option R
 |[],[],_,k=>k ()
 |t::ts,(i,x)::r,j,k=>kt (xan i j)<|ri (xU cx σ x) t fun y=>xV σ ts r (j+1) fun ys=>k (y,ys)
 |_,_,_,_=>none
def Nf:(k:Nat)->Ty->List Ty
 |0,_=>[]
 |1,t=>[t]
 |k+2,.p s t=>s::Nf (k+1) t
 |_,_=>[]
def JJ:(k:Nat)->(t:Ty)->aW (Nf k t)->Option t.D
 |0,_,_=>none
 |1,t,x=>some x.1
 |k+2,.p s t,x=>match JJ (k+1) t x.2 with
  |some y=>some (x.1,y)
  |none=>none
 |_+2,.i,_=>none
 |_+2,.u,_=>none
 |_+2,.b,_=>none
 |_+2,.l _,_=>none
 |_+2,.a _ _,_=>none
 |_+2,.ch,_=>none
 |_+2,.tx,_=>none
def rY:Nat->Ty->List Ty
 |0,_=>[]
 |n+1,t=>t::rY n t
def cB:(n:Nat)->(t:Ty)->aW (rY n t)->List t.D
 |0,_,_=>[]
 |n+1,t,x=>x.1::cB n t x.2
def Q7(σ:Sg):List Operand->Option (List PD)
 |[]=>some []
 |x::r=>match xU cx σ x,Q7 σ r with
  |some (.q t y),some l=>some (⟨t,y⟩::l)
  |_,_=>none
def Js:(full:List AM)->List PD->Option (JW full)
 |[],[]=>some ()
 | .q t::r,c::cs=>Ty.cast c.t t c.x fun y=>match Js r cs with
  |some z=>some (y,z)
  |none=>none
 |_,_=>none
def Ay:(full:List AM)->(dom:List Ty)->aW dom->List PD->Option (JW full)
 |full,[],_,cs=>Js full cs
 | .d t::r,s::dom,x,cs=>Ty.cast s t x.1 fun y=>match Ay r dom x.2 cs with
  |some z=>some (y,z)
  |none=>none
 |_,_::_,_,_=>none
def AH:(s t:List Ty)->Option (PLift (s=t))
 |[],[]=>some ⟨rfl⟩
 |s::ss,t::ts=>match Ty.same s t,AH ss ts with
  |some ⟨h⟩,some ⟨h'⟩=>some ⟨h▸h'▸rfl⟩
  |_,_=>none
 |_,_=>none
theorem RM.D_ty: ∀r:RM,r.D=r.ty.D
 | .d _=>rfl
 | .own _ _=>rfl
theorem Yd: ∀rs:List RM,aX rs=Ak (rs.map RM.ty)
 |[]=>rfl
 |[m]=>RM.D_ty m
 |m::n::r=>by show(m.D×aX (n::r))=(m.ty.D×Ak ((n::r).map RM.ty));rw[RM.D_ty m,Yd (n::r)]
def asF(σ:Sg)(v:Option Dv)(dom cod:List Ty)(k:(aW dom->Option (Ak cod))->Option R):Option R:=match v with
 |some (.fn f c)=>(match tJ cf.cs f with
  |some s=>(match AH (s.cod.map RM.ty) cod with
   |some ⟨h⟩=>k fun x=>match Ay s.dom dom x c with
    |some y=>((Yd s.cod).trans (congrArg Ak h))▸s.M y
    |none=>none
   |none=>none)
  |none=>none)
 |some (.fp d c g)=>(match AH d dom,AH c cod with
  |some ⟨h⟩,some ⟨h'⟩=>k (h▸h'▸g)
  |_,_=>none)
 |_=>none
def Xy(σ:Sg):(dom:List AM)->List Operand->List PD->(JW dom->Option R)->Option R
 |[],[],[],k=>k ()
 | .q t::r,[],c::cs,k=>Ty.cast c.t t c.x fun y=>Xy σ r [] cs fun z=>k (y,z)
 | .d t::r,x::xs,cs,k=>ri (xU cx σ x) t fun y=>Xy σ r xs cs fun z=>k (y,z)
 | .q t::r,x::xs,cs,k=>(match xU cx σ x with
  |some (.q s y)=>Ty.cast s t y fun y=>Xy σ r xs cs fun z=>k (y,z)
  |_=>none)
 | .fn dom cod::r,x::xs,cs,k=>asF cf σ (xU cx σ x) dom cod fun g=>Xy σ r xs cs fun z=>k (g,z)
 |_,_,_,_=>none
def Nc:(rs:List RM)->aX rs->Nat->List (Nat×Dv)
 |[],_,_=>[]
 |[.d t],x,i=>[(i,.d t x)]
 |[.own t _],x,i=>[(i,.d (.l t) x)]
 | .d t::r::rs,x,i=>(i,.d t x.1)::Nc (r::rs) x.2 (i+1)
 | .own t _::r::rs,x,i=>(i,.d (.l t) x.1)::Nc (r::rs) x.2 (i+1)
def QO:List RM->Bool
 |[_]=>true
 |_=>false
def zaW(rs:List RM)(x:aX rs):List (Nat×Dv):=Nc rs x (bif QO rs then 0 else 1)
def oC(σ:Sg):(dom:List Ty)->List Operand->(aW dom->Option R)->Option R
 |[],[],k=>k ()
 |t::r,x::xs,k=>ri (xU cx σ x) t fun y=>oC σ r xs fun z=>k (y,z)
 |_,_,_=>none
def PK:(cod:List Ty)->Ak cod->Nat->List (Nat×Dv)
 |[],_,_=>[]
 |[t],x,i=>[(i,.d t x)]
 |t::s::r,x,i=>(i,.d t x.1)::PK (s::r) x.2 (i+1)
def zcy:List Ty->Bool
 |[_]=>true
 |_=>false
def zc0(σ:Sg)(v:Option Dv)(k:PD->Option R):Option R:=match v with
 |some (.q t x)=>k ⟨t,x⟩
 |some (.vs o _)=>(match Qw cx σ o with
  |some (.var t _ z)=>k ⟨t,z⟩
  |_=>none)
 |some (.vp o t f)=>(match Qw cx σ o with
  |some (.var t' _ z)=>Ty.cast t' t z fun z=>k ⟨f.f,f.get z⟩
  |_=>none)
 |some (.ep o t j f)=>(match Qw cx σ o with
  |some (.own t' _ xs)=>Ty.cast (.l t') (.l t) xs fun xs=>nm (f.get (xei xs j t.z)) fun y=>k ⟨f.f,y⟩
  |_=>none)
 |_=>none
def Ow(σ:Sg)(x:Operand)(n:Nat)(k:Nat->Option R):Option R:=match pd cx σ x with
 |some ⟨.i,j⟩=>zG j n k
 |some ⟨.u,j⟩=>ixU j n k
 |_=>none
def Gq(σ:Sg)(x:Option Operand)(k:Option Nat->Option R):Option R:=match x with
 |none=>k none
 |some x=>match pd cx σ x with
  |some ⟨.i,j⟩=>j8 j fun j=>k (some j)
  |_=>none
def zd9{α:Type}(xs:List α)(lo hi:Option Nat)(k:List α->Option R):Option R:=match lo,hi with
 |none,some h=>ck (h<=xs.length)<|nm (xs.take h) k
 |some l,none=>ck (l<=xs.length)<|nm (xs.drop l) k
 |some l,some h=>ck (l<=h/\h<=xs.length)<|nm ((xs.drop l).take (h-l)) k
 |none,none=>k xs
def zce(m:Nat)(lo hi:Option Nat)(k:Nat->Nat->Option R):Option R:=match lo,hi with
 |none,some h=>ck (h<=m)<|k 0 h
 |some l,none=>ck (l<=m)<|k l (m-l)
 |some l,some h=>ck (l<=h/\h<=m)<|k l (h-l)
 |none,none=>k 0 m
def zcN(σ:Sg)(t:Nat):Nat->Nat->List (Nat×Dv)
 |0,_=>[]
 |f+1,i=>match get cx σ t i with
  |some d=>(i,d)::zcN σ t f (i+1)
  |none=>[]
def zhE(σ:Sg)(x:Operand)(k:List (Nat×Dv)->Option R):Option R:=match x with
 | .tmp t=>(match zcN cx σ t 12 1 with
  |[]=>none
  |l=>k l)
 |_=>none
def L3(σ:Sg)(x:Operand)(k:List (Nat×Dv)->Option R):Option R:=match xU cx σ x with
 |some v=>k [(0,v)]
 |none=>zhE cx σ x k
def zdS(σ:Sg)(x:Operand)(i:Nat)(k:List (Nat×Dv)->Option R):Option R:=match x with
 | .tmp t=>(match get cx σ t (i+1)with
  |some v=>k [(0,v)]
  |none=>none)
 |_=>none
def zbV(σ:Sg)(x:Operand)(k:List (Nat×Dv)->Option R):Option R:=match xU cx σ x with
 |some v=>k [(0,v)]
 |none=>none
def S7(σ:Sg)(c x y:Operand)(k:List (Nat×Dv)->Option R):Option R:=match xU cx σ c with
 |some (.kb true)=>zbV cx σ x k
 |some (.kb false)=>zbV cx σ y k
 |_=>none
def ziC(b:Bool):Dv:= .d .b (not b)
def zet(σ:Sg)(x:Operand)(k:List (Nat×Dv)->Option R):Option R:=match xU cx σ x with
 |some (.kb b)=>k [(0,.kb !b)]
 |some (.d .b b)=>k [(0,ziC b)]
 |_=>none
def zeV(σ:Sg)(x:Operand)(k:List (Nat×Dv)->Option R):Option R:=match pd cx σ x with
 |some ⟨.i,a⟩=>ngI a fun v=>k [(0,v)]
 |some ⟨.u,a⟩=>ngU a fun v=>k [(0,v)]
 |_=>none
def txD(xs:List Nat):Dv:= .d .tx xs
def zeU(σ:Sg)(s t:TypeId)(x:Operand)(k:List (Nat×Dv)->Option R):Option R:=match ZG cf s,ZG cf t with
 |some ⟨_,.int _,_⟩,some ti=>zg9 ti.k (pd cx σ x) fun v=>k [(0,v)]
 |some ⟨.l .ch,.sl E,_⟩,some ⟨_,.str,_⟩=>(match ZG cf E with
  |some ⟨_,.int .u8,_⟩=>ri (xU cx σ x) (.l .ch) fun xs=>k [(0,txD xs)]
  |_=>none)
 |_,_=>none
def elA(E:TypeId)(e:Ty):Bool:=match ZG cf E with
 |some ti=>(Ty.same ti.ty e).isSome
 |none=>false
def zgD(n:Nat)(e:Ty)(j:Nat):Fl (Ty.a n e).D:=⟨j*e.n,e,fun z=>xei z j e.z,fun y z=>xfQ z j y⟩
def Ik(σ:Sg)(t:TypeId)(x i:Operand)(k:List (Nat×Dv)->Option R):Option R:=match ZG cf t,xU cx σ x with
 |some ⟨.l e,.sl _,_⟩,some (.d (.l s) xs)=>Ty.cast (.l s) (.l e) xs fun xs=>Ow cx σ i (xaF xs) fun j=>nm (xei xs j e.z) fun y=>k [(0,.q e y)]
 |some ⟨.l e,.sl _,_⟩,some (.ow o)=>(match Qw cx σ o with
  |some (.own s _ xs)=>Ty.cast (.l s) (.l e) xs fun xs=>Ow cx σ i (xaF xs) fun j=>k [(0,.ep o e j (Fl.self e))]
  |_=>none)
 |some ⟨_,.ar n' E,_⟩,some (.q (.a n e) x)=>kt (xan n' n && elA cf E e)<|Ow cx σ i n fun j=>nm (xei x j e.z) fun y=>k [(0,.q e y)]
 |some ⟨_,.ar n' E,_⟩,some (.vs o (.a n e))=>kt (xan n' n && elA cf E e)<|Ow cx σ i n fun j=>k [(0,.vp o (.a n e) (zgD n e j))]
 |_,_=>none
def HX(σ:Sg)(t:TypeId)(x:Operand)(i:Nat)(k:List (Nat×Dv)->Option R):Option R:=match ZG cf t,xU cx σ x with
 |some ⟨e,.st n,_⟩,some (.q s y)=>Ty.cast s e y fun y=>(match Qc n e i with
  |some f=>k [(0,.q f.f (f.get y))]
  |none=>none)
 |some ⟨e,.st n,_⟩,some (.vs o s)=>(match Ty.same s e,Qc n s i with
  |some _,some f=>k [(0,.vp o s f)]
  |_,_=>none)
 |some ⟨e,.st n,_⟩,some (.vp o s g)=>(match Ty.same g.f e,Qc n g.f i with
  |some _,some f=>k [(0,.vp o s (g.comp f))]
  |_,_=>none)
 |some ⟨e,.st n,_⟩,some (.ep o s j g)=>(match Ty.same g.f e,Qc n g.f i with
  |some _,some f=>k [(0,.ep o s j (g.comp f))]
  |_,_=>none)
 |_,_=>none
def A7(σ:Sg)(t:TypeId)(x:Operand)(i:Nat)(k:List (Nat×Dv)->Option R):Option R:=match ZG cf t,xU cx σ x with
 |some ⟨e,.st n,_⟩,some (.d s y)=>Ty.cast s e y fun y=>(match Qc n e i with
  |some f=>k [(0,.d f.f (f.get y))]
  |none=>none)
 |_,_=>none
def Pj(σ:Sg)(t:TypeId)(x:Operand)(k:List (Nat×Dv)->Option R):Option R:=match ZG cf t with
 |some ti=>zc0 cx σ (xU cx σ x) fun p=>Ty.cast p.t ti.ty p.x fun y=>k [(0,.d ti.ty y)]
 |none=>none
def Ia(σ:Sg)(t:TypeId)(x:Operand)(lo hi:Option Operand)(k:List (Nat×Dv)->Option R):Option R:=match ZG cf t,xU cx σ x with
 |some ⟨.l e,.sl _,_⟩,some (.d (.l s) xs)=>Ty.cast (.l s) (.l e) xs fun xs=>Gq cx σ lo fun lo=>Gq cx σ hi fun hi=>zd9 (α:=e.D) xs lo hi fun ys=>k [(0,.d (.l e) ys)]
 |some ⟨.l e,.sl _,_⟩,some (.ow o)=>(match Qw cx σ o with
  |some (.own s _ xs)=>Ty.cast (.l s) (.l e) xs fun xs=>Gq cx σ lo fun lo=>Gq cx σ hi fun hi=>zce (xaF xs) lo hi fun l n=>k [(0,.sv o e l n)]
  |_=>none)
 |some ⟨_,.str,_⟩,some (.d .tx xs)=>Gq cx σ lo fun lo=>Gq cx σ hi fun hi=>zd9 (α:=Nat) xs lo hi fun ys=>k [(0,.d .tx ys)]
 |_,_=>none
def zfi(σ:Sg)(t:TypeId)(x i:Operand)(k:List (Nat×Dv)->Option R):Option R:=match ZG cf t,xU cx σ x with
 |some ⟨_,.str,_⟩,some (.d .tx xs)=>Ow cx σ i (xaF (α:=Nat) xs) fun j=>nm (xei (α:=Nat) xs j 0) fun y=>k [(0,.d .ch y)]
 |_,_=>none
def zfK(σ:Sg)(E:TypeId)(x:Operand)(k:List (Nat×Dv)->Option R):Option R:=match ZG cf E with
 |some ti=>ri (xU cx σ x) ti.ty fun y=>k [(0,.q ti.ty y)]
 |none=>none
def HP(σ:Sg)(t:TypeId)(ps:List (Nat×Operand))(k:List (Nat×Dv)->Option R):Option R:=match ZG cf t with
 |some ⟨ty,.st n,_⟩=>(match ps with
  |[]=>k [(0,.d ty ty.z)]
  |[(i,x)]=>(match Qc n ty i with
   |some f=>ri (xU cx σ x) f.f fun y=>k [(0,.d ty (f.set y ty.z))]
   |none=>none)
  |ps=>xV cx σ (Nf n ty) ps 0 fun ys=>match JJ n ty ys with
   |some y=>k [(0,.d ty y)]
   |none=>none)
 |some ⟨.a n e,.ar n' E,_⟩=>kt (xan n' n && elA cf E e)<|xV cx σ (rY n e) ps 0 fun ys=>k [(0,.d (.a n e) (cB n e ys))]
 |_=>none
def zex(σ:Sg)(t:TypeId)(n:Nat)(ps:List (Nat×Operand))(k:List (Nat×Dv)->Option R):Option R:=match ZG cf t with
 |some ⟨.l s,.sl _,_⟩=>kt (xfN (n*s.n) 16777216)<|xV cx σ (rY n s) ps 0 fun ys=>k [(0,.d (.l s) (cB n s ys))]
 |_=>none
def zeu(σ:Sg)(f:Go.Fn)(first cs:List Operand)(k:List (Nat×Dv)->Option R):Option R:=match f,first,Q7 cx σ cs with
 | .func f,[],some l=>k [(0,.fn f l)]
 |_,_,_=>none
def Lb(n:Nat):Dv:= .d .i (n:Int)
def zeL(σ:Sg)(x:List Operand)(ts:List TypeId)(k:List (Nat×Dv)->Option R):Option R:=match x,ts with
 |[x],[t]=>(match ZG cf t with
  |some ⟨.l _,.sl _,_⟩=>(match xU cx σ x with
   |some .nil=>k [(0,Lb 0)]
   |some (.d (.l _) xs)=>k [(0,Lb (xaF xs))]
   |some (.ow o)=>(match Qw cx σ o with
    |some (.own _ _ xs)=>k [(0,Lb (xaF xs))]
    |_=>none)
   |_=>none)
  |some ⟨_,.str,_⟩=>(match xU cx σ x with
   |some (.d .tx xs)=>k [(0,Lb (xaF (α:=Nat) xs))]
   |_=>none)
  |_=>none)
 |_,_=>none
def zfu(x:Int):Dv:= .d .i x
def mxI(b:Bool)(a c:Int)(k:Int->Option R):Option R:=match b with
 |true=>nm (max a c) k
 |false=>nm (min a c) k
def eMM(b:Bool)(σ:Sg)(x:List Operand)(k:List (Nat×Dv)->Option R):Option R:=match x with
 |[x,y]=>(match pd cx σ x,pd cx σ y with
  |some ⟨.i,a⟩,some ⟨.i,c⟩=>mxI b a c fun z=>k [(0,zfu z)]
  |_,_=>none)
 |_=>none
def zg6:Operand->Bool
 | .func _=>true
 |_=>false
def zaa(σ:Sg)(fo:Operand)(ags:List Operand)(k:List (Nat×Dv)->Option R):Option R:=match xU cx σ fo with
 |some (.fn f cs)=>(match tJ cf.cs f with
  |some s=>Xy cf cx σ s.dom ags cs fun y=>bd (s.M y) fun r=>k (zaW s.cod r)
  |none=>(match Q0 cf.ex f,ags,cs with
   |some b,[x,y,z],[]=>kt (zg6 fo)<|exD b (pd cx σ x) (pd cx σ y) (pd cx σ z) k
   |_,_,_=>none))
 |some (.fp dom cod g)=>oC cx σ dom ags fun y=>bd (g y) fun r=>k (PK cod r (bif zcy cod then 0 else 1))
 |_=>none
def NI:Option Dv->Bool
 |some (.mw _)=>true
 |some (.mv _ _ _)=>true
 |some (.hp _ _)=>true
 |some (.rw _ _)=>true
 |some (.rp _ _ _ _ _)=>true
 |_=>false
def zfk:Option Dv->Bool
 |some (.mv _ _ _)=>true
 |_=>false
def mkF(σ:Sg)(f:Operand):Bool:=match xU cx σ f with
 |some (.fn f _)=>(P8 cf.cl f).isSome
 |_=>false
def zhF(σ:Sg):Op->Bool
 | .load _ x=>NI (xU cx σ x)
 | .indexAddr _ x _=>NI (xU cx σ x)
 | .slice _ x _ _ none=>NI (xU cx σ x)
 | .call ⟨.builtin .len,ags,_⟩=>ags.toList.any fun x=>NI (xU cx σ x)
 | .call ⟨.value f,ags,_⟩=>mkF cf cx σ f||ags.toList.any fun x=>zfk (xU cx σ x)
 |_=>false
def jl{α:Type}(xss:List (List α))(r:Nat):List α:=xss.getD r []
def Nh{α:Type}(xss:List (List α))(ix:List Nat):List (List α):=ix.map (jl xss)
def AE(σ:Sg)(t:TypeId)(x i:Operand)(k:List (Nat×Dv)->Option R):Option R:=match ZG cf t,xU cx σ x with
 |some ⟨.l (.l e),.sl _,_⟩,some (.mw o)=>(match Qw cx σ o with
  |some (.mat s _ _ xss ix)=>Ow cx σ i (xaF ix) fun j=>k [(0,.hp o j)]
  |_=>none)
 |some ⟨.l (.l e),.sl _,_⟩,some (.mv o lo n)=>(match Qw cx σ o with
  |some (.mat s _ _ xss ix)=>Ow cx σ i n fun j=>k [(0,.hp o (lo+j))]
  |_=>none)
 |some ⟨.l e,.sl _,_⟩,some (.rw o r)=>(match Qw cx σ o with
  |some (.mat s _ _ xss ix)=>Ty.cast (.l (.l s)) (.l (.l e)) xss fun xss=>Ow cx σ i (xaF (jl (α:=e.D) xss r)) fun j=>k [(0,.rp o e r j (Fl.self e))]
  |_=>none)
 |_,_=>none
def Hl(σ:Sg)(t:TypeId)(x:Operand)(k:List (Nat×Dv)->Option R):Option R:=match ZG cf t,xU cx σ x with
 |some ⟨.l e,.sl _,_⟩,some (.hp o j)=>(match Qw cx σ o with
  |some (.mat s _ _ xss ix)=>nm (xei ix j 0) fun r=>k [(0,.rw o r)]
  |_=>none)
 |some ti,some (.rp o e r j f)=>(match Qw cx σ o with
  |some (.mat s _ _ xss ix)=>Ty.cast (.l (.l s)) (.l (.l e)) xss fun xss=>nm (f.get (xei (jl (α:=e.D) xss r) j e.z)) fun y=>Ty.cast f.f ti.ty y fun y=>k [(0,.d ti.ty y)]
  |_=>none)
 |_,_=>none
def By(σ:Sg)(t:TypeId)(x:Operand)(lo hi:Option Operand)(k:List (Nat×Dv)->Option R):Option R:=match ZG cf t,xU cx σ x with
 |some ⟨.l (.l e),.sl _,_⟩,some (.mw o)=>(match Qw cx σ o with
  |some (.mat s _ _ xss ix)=>Gq cx σ lo fun lo=>Gq cx σ hi fun hi=>zce (xaF ix) lo hi fun l n=>k [(0,.mv o l n)]
  |_=>none)
 |_,_=>none
def P4(σ:Sg)(x:List Operand)(ts:List TypeId)(k:List (Nat×Dv)->Option R):Option R:=match x,ts with
 |[x],[t]=>(match ZG cf t,xU cx σ x with
  |some ⟨.l _,.sl _,_⟩,some (.mw o)=>(match Qw cx σ o with
   |some (.mat _ _ _ _ ix)=>k [(0,Lb (xaF ix))]
   |_=>none)
  |some ⟨.l _,.sl _,_⟩,some (.mv o _ n)=>(match Qw cx σ o with
   |some (.mat _ _ _ _ _)=>k [(0,Lb n)]
   |_=>none)
  |some ⟨.l _,.sl _,_⟩,some (.rw o r)=>(match Qw cx σ o with
   |some (.mat _ _ _ xss _)=>k [(0,Lb (xaF (jl xss r)))]
   |_=>none)
  |_,_=>none)
 |_,_=>none
def Xt(σ:Sg):(dom:List AM)->List Operand->List PD->(JW dom->Option R)->Option R
 |[],[],[],k=>k ()
 | .q t::r,[],c::cs,k=>Ty.cast c.t t c.x fun y=>Xt σ r [] cs fun z=>k (y,z)
 | .d t::r,x::xs,cs,k=>(match xU cx σ x with
  |some (.mv o lo n)=>(match Qw cx σ o with
   |some (.mat s _ _ xss ix)=>Ty.cast (.l (.l s)) t (xdr n (xdv lo (Nh xss ix))) fun y=>Xt σ r xs cs fun z=>k (y,z)
   |_=>none)
  |v=>ri v t fun y=>Xt σ r xs cs fun z=>k (y,z))
 | .fn dom cod::r,x::xs,cs,k=>asF cf σ (xU cx σ x) dom cod fun g=>Xt σ r xs cs fun z=>k (g,z)
 |_,_,_,_=>none
def De:List RM->Bool
 |[]=>true
 | .d .i::r=>De r
 | .d .b::r=>De r
 | .d .u::r=>De r
 |_=>false
def GL(σ:Sg)(fo:Operand)(ags:List Operand)(k:List (Nat×Dv)->Option R):Option R:=match xU cx σ fo with
 |some (.fn f cs)=>(match P8 cf.cl f,cs with
  |some s,[]=>oC cx σ s.dom ags fun ys=>k [(0,.fn s.g (s.mc ys))]
  |_,cs=>(match tJ cf.cs f with
   |some s=>kt (De s.cod)<|Xt cf cx σ s.dom ags cs fun y=>bd (s.M y) fun r=>k (zaW s.cod r)
   |none=>none))
 |_=>none
def eCo(σ:Sg)(op:Op)(k:List (Nat×Dv)->Option R):Option R:=match op with
 | .load t x=>Hl cf cx σ t x k
 | .indexAddr t x i=>AE cf cx σ t x i k
 | .slice t x lo hi none=>By cf cx σ t x lo hi k
 | .call ⟨.builtin .len,ags,ts⟩=>P4 cf cx σ ags.toList ts.toList k
 | .call ⟨.value f,ags,_⟩=>GL cf cx σ f ags.toList k
 |_=>none
def zfD(σ:Sg)(op:Op)(k:List (Nat×Dv)->Option R):Option R:=match op with
 | .move x=>L3 cx σ x k
 | .assign x=>L3 cx σ x k
 | .extract x i=>zdS cx σ x i k
 | .pick c x y=>S7 cx σ c x y k
 | .unOp .not _ x=>zet cx σ x k
 | .unOp .neg _ x=>zeV cx σ x k
 | .binOp bo t x y _=>zfA (isB cf t) bo (pd cx σ x) (pd cx σ y) fun v=>k [(0,v)]
 | .convert s t x=>zeU cf cx σ s t x k
 | .load t x=>Pj cf cx σ t x k
 | .indexAddr t x i=>Ik cf cx σ t x i k
 | .fieldAddr t x i=>HX cf cx σ t x i k
 | .field t x i=>A7 cf cx σ t x i k
 | .slice t x lo hi none=>Ia cf cx σ t x lo hi k
 | .index t x i=>zfi cf cx σ t x i k
 | .box E x=>zfK cf cx σ E x k
 | .build t ps=>HP cf cx σ t ps.toList k
 | .buildSlice t n ps=>zex cf cx σ t n ps.toList k
 | .makeFunc f first cs=>zeu cx σ f first.toList cs.toList k
 | .call ⟨.builtin .len,ags,ts⟩=>zeL cf cx σ ags.toList ts.toList k
 | .call ⟨.builtin .max,ags,_⟩=>eMM cx true σ ags.toList k
 | .call ⟨.builtin .min,ags,_⟩=>eMM cx false σ ags.toList k
 | .call ⟨.value f,ags,_⟩=>zaa cf cx σ f ags.toList k
 |_=>none
def eOp(σ:Sg)(op:Op)(k:List (Nat×Dv)->Option R):Option R:=HO (zhF cf cx σ op) (eCo cf cx σ op k) (zfD cf cx σ op k)
def xZ:Dv->Option Nat
 | .ow o=>some o
 | .vs o _=>some o
 | .ep o _ _ _=>some o
 | .sv o _ _ _=>some o
 | .vp o _ _=>some o
 | .mw o=>some o
 | .mv o _ _=>some o
 | .hp o _=>some o
 | .rw o _=>some o
 | .rp o _ _ _ _=>some o
 | .yd o=>some o
 |_=>none
def okL(n:Nat)(l:List (Nat×Dv)):Bool:=l.all fun e=>match xZ e.2 with
 |some o=>xdl o n
 |none=>true
def py(o:Nat)(x:Od)(v:Dv):Dv:=match v,x with
 | .ow o',.own s _ xs=>bif xan o' o then .d (.l s) xs else v
 | .vs o' _,.var s _ z=>bif xan o' o then .q s z else v
 | .mw o',.mat s _ _ xss ix=>bif xan o' o then .d (.l (.l s)) (Nh xss ix)else v
 |_,_=>v
def B8(o:Nat)(x:Od):List (Nat×Nat×Dv)->List (Nat×Nat×Dv)
 |[]=>[]
 |(t,i,v)::r=>(t,i,py o x v)::B8 o x r
def Dt(σ:Sg)(o:Nat):Sg:=match xG σ.ob o with
 |some x=>⟨σ.nx,B8 o x σ.rg,yD σ.ob o⟩
 |none=>σ
def frz(σ:Sg)(x:Operand):Sg:=match xU cx σ x with
 |some (.ow o)=>Dt σ o
 |some (.vs o _)=>Dt σ o
 |some (.mw o)=>Dt σ o
 |_=>σ
def zcG(σ:Sg):List Operand->Sg
 |[]=>σ
 |x::r=>zcG (frz cx σ x) r
def Rs(σ:Sg):List AM->List Operand->Bool
 |[],_=>true
 | .own _ _::r,x::xs=>(match xU cx σ x with
  |some (.ow o)=>σ.ob.any fun e=>xan e.1 o
  |_=>false) && Rs σ r xs
 | .d _::r,x::xs=> !zfk (xU cx σ x) && Rs σ r xs
 |_::r,_::xs=>Rs σ r xs
 |_::r,[]=>Rs σ r []
def Hj(σ:Sg)(f:FuncId)(ags:List Operand):List W1->Option W1
 |[]=>none
 |s::r=>match xan s.f f && Rs cx σ s.dom ags with
  |true=>some s
  |false=>Hj σ f ags r
def zhC(d:Option Tmp):Bool:=match d with
 |some t=>aN cf.an.vw t
 |none=>false
def H9(d:Option Tmp):Bool:=match d with
 |some t=>aN cf.an.mt t
 |none=>false
def zif:Option Dv->Bool
 |some (.hp _ _)=>true
 |some (.mw _)=>true
 |_=>false
def P0:Option Dv->Bool
 |some (.mw _)=>true
 |_=>false
def zfq(σ:Sg)(d:Option Tmp):Op->List Operand
 | .build _ ps=>ps.toList.map (·.2)
 | .buildSlice _ _ ps=>(match H9 cf d with
  |true=>[]
  |false=>ps.toList.map (·.2))
 | .store _ a v=>(match zif (xU cx σ a),xU cx σ v with
  |false,some (.ow _)=>[v]
  |_,_=>[])
 | .slice _ x none (some _) none=>(match P0 (xU cx σ x),zhC cf d with
  |true,false=>[x]
  |_,_=>[])
 | .box _ v=>[v]
 | .convert _ _ v=>[v]
 | .makeFunc _ _ cs=>cs.toList
 | .slice _ x (some _) _ _=>(match zhC cf d with
  |true=>[]
  |false=>[x])
 | .call ⟨.builtin .append,ags,_⟩=>(match ags.toList.any fun x=>P0 (xU cx σ x)with
  |true=>[]
  |false=>ags.toList.drop 1)
 | .call ⟨.builtin .copy,ags,_⟩=>ags.toList.drop 1
 | .call ⟨.value f,ags,_⟩=>(match xU cx σ f with
  |some (.fn f _)=>(match Hj cx σ f ags.toList cf.cs with
   |some s=>(s.dom.zip ags.toList).filterMap fun e=>match e.1 with
    | .d _=>(match zfk (xU cx σ e.2)with
     |true=>none
     |false=>some e.2)
    | .q _=>some e.2
    |_=>none
   |none=>[])
  |some (.fp _ _ _)=>ags.toList
  |_=>[])
 |_=>[]
def Nq(σ:Sg)(d:Option Tmp)(mk:Nat->Dv)(x:Od):Sg:=⟨σ.nx+1,wZ σ.rg d [(0,mk σ.nx)],(σ.nx,x)::σ.ob⟩
def ZJ(σ:Sg):(dom:List AM)->List Operand->List PD->(JW dom->List Nat->Option R)->Option R
 |[],[],[],k=>k () []
 | .q t::r,[],c::cs,k=>Ty.cast c.t t c.x fun y=>ZJ σ r [] cs fun z os=>k (y,z) os
 | .d t::r,x::xs,cs,k=>ri (xU cx σ x) t fun y=>ZJ σ r xs cs fun z os=>k (y,z) os
 | .q t::r,x::xs,cs,k=>(match xU cx σ x with
  |some (.q s y)=>Ty.cast s t y fun y=>ZJ σ r xs cs fun z os=>k (y,z) os
  |_=>none)
 | .own t E::r,x::xs,cs,k=>(match xU cx σ x with
  |some (.ow o)=>(match xG σ.ob o with
   |some (.own s E' ys)=>kt (xan E E')<|Ty.cast (.l s) (.l t) ys fun y=>ZJ σ r xs cs fun z os=>kt (!aN os o)<|k (y,z) (o::os)
   |_=>none)
  |_=>none)
 | .fn dom cod::r,x::xs,cs,k=>asF cf σ (xU cx σ x) dom cod fun g=>ZJ σ r xs cs fun z os=>k (g,z) os
 |_,_,_,_=>none
def Zx:(rs:List RM)->aX rs->Nat->Nat->List (Nat×Dv)×List (Nat×Od)
 |[],_,_,_=>([],[])
 |[.d t],x,i,o=>([(i,.d t x)],[])
 |[.own t E],x,i,o=>([(i,.ow o)],[(o,.own t E x)])
 | .d t::r::rs,x,i,o=>let y:=Zx (r::rs) x.2 (i+1) o
  ((i,.d t x.1)::y.1,y.2)
 | .own t E::r::rs,x,i,o=>let y:=Zx (r::rs) x.2 (i+1) (o+1)
  ((i,.ow o)::y.1,(o,.own t E x.1)::y.2)
def wU(ob:List (Nat×Od)):List Nat->List (Nat×Od)
 |[]=>ob
 |o::r=>yD (wU ob r) o
def HH(σ:Sg)(s:Ty)(p v:Option Dv)(k:Sg->Option R):Option R:=match p with
 |some (.vs o _)=>(match xG σ.ob o with
  |some (.var s' E z)=>Ty.cast s' s z fun z=>ri v s fun y=>k ⟨σ.nx,σ.rg,ke σ.ob o (.var s E y)⟩
  |_=>none)
 |some (.vp o s1 f)=>(match xG σ.ob o,Ty.same f.f s with
  |some (.var s' E z),some _=>Ty.cast s' s1 z fun z=>ri v f.f fun y=>nm (f.set y z) fun z=>k ⟨σ.nx,σ.rg,ke σ.ob o (.var s1 E z)⟩
  |_,_=>none)
 |some (.ep o s1 j f)=>(match xG σ.ob o,Ty.same f.f s with
  |some (.own s' E xs),some _=>Ty.cast (.l s') (.l s1) xs fun xs=>ri v f.f fun y=>nm (xfQ xs j (f.set y (xei xs j s1.z))) fun xs=>k ⟨σ.nx,σ.rg,ke σ.ob o (.own s1 E xs)⟩
  |_,_=>none)
 |_=>none
def HT(σ:Sg)(d:Option Tmp)(E:TypeId)(k:Sg->Option R):Option R:=match ZG cf E with
 |some ti=>k (Nq σ d (fun o=> .vs o ti.ty) (.var ti.ty E ti.ty.z))
 |none=>none
def zfE(σ:Sg)(d:Option Tmp)(E:TypeId)(x:Operand)(k:Sg->Option R):Option R:=match ZG cf E with
 |some ti=>ri (xU cx σ x) ti.ty fun y=>k (Nq σ d (fun o=> .vs o ti.ty) (.var ti.ty E y))
 |none=>none
def Sz(σ:Sg)(d:Option Tmp)(t:TypeId)(x y:Operand)(k:Sg->Option R):Option R:=match ZG cf t with
 |some ⟨.l s,.sl E,_⟩=>kt (Lo x y) (match ZG cf E,pd cx σ x with
  |some ti,some ⟨.i,n⟩=>Ty.cast ti.ty s ti.ty.z fun z=>j8 n fun n=>ck (ti.B*n<=281474976710656)<|nm (xae n z) fun xs=>k (Nq σ d .ow (.own s E xs))
  |_,_=>none)
 |_=>none
def zdQ(σ:Sg)(d:Option Tmp)(t:TypeId)(n:Nat)(ps:List (Nat×Operand))(k:Sg->Option R):Option R:=match ZG cf t with
 |some ⟨.l s,.sl E,_⟩=>kt (xfN (n*s.n) 16777216)<|xV cx σ (rY n s) ps 0 fun ys=>k (Nq σ d .ow (.own s E (cB n s ys)))
 |_=>none
def Hf(σ:Sg)(d:Option Tmp)(t:TypeId)(o:Nat)(hi:Operand)(k:Sg->Option R):Option R:=match ZG cf t,xG σ.ob o with
 |some ⟨.l s1,.sl _,_⟩,some (.own s E xs)=>Ty.cast (.l s) (.l s1) xs fun xs=>Gq cx σ (some hi) fun h=>zd9 (α:=s1.D) xs none h fun ys=>k ⟨σ.nx+1,wZ σ.rg d [(0,.ow σ.nx)],(σ.nx,.own s1 E ys)::yD σ.ob o⟩
 |_,_=>none
def LP(σ:Sg)(d:Option Tmp)(t':TypeId)(same:Bool)(s:Ty)(E:TypeId)(B:Nat)(z:s.D)(y:Operand)(ob:List (Nat×Od))(xs:List s.D)(k:Sg->Option R):Option R:=match pd cx σ y with
 |some ⟨.i,n⟩=>(match ZG cf t' with
  |some ⟨_,.int _,_⟩=>j8 n fun n=>ziS xs n z B fun zs=>k ⟨σ.nx+1,wZ σ.rg d [(0,.ow σ.nx)],(σ.nx,.own s E zs)::ob⟩
  |_=>none)
 |_=>(match xU cx σ y with
  |some (.sv o2 t2 lo n)=>(match Qw cx ⟨σ.nx,σ.rg,ob⟩ o2 with
   |some (.own s2 _ zs)=>kt same<|Ty.cast (.l s2) (.l t2) zs fun zs=>Ty.cast (.l t2) (.l s) (xdr n (xdv lo zs)) fun ys=>nm ys fun ys=>zgr (α:=s.D) xs ys B fun zs=>k ⟨σ.nx+1,wZ σ.rg d [(0,.ow σ.nx)],(σ.nx,.own s E zs)::ob⟩
   |_=>none)
  |_=>kt same<|ri (xU cx σ y) (.l s) fun ys=>zgr (α:=s.D) xs ys B fun zs=>k ⟨σ.nx+1,wZ σ.rg d [(0,.ow σ.nx)],(σ.nx,.own s E zs)::ob⟩)
def ze0(σ:Sg)(d:Option Tmp)(ags:List Operand)(ts:List TypeId)(k:Sg->Option R):Option R:=match ags,ts with
 |[x,y],[t,t']=>(match ZG cf t with
  |some ⟨.l s,.sl E,_⟩=>(match ZG cf E with
   |some ti=>Ty.cast ti.ty s ti.ty.z fun z=>(match xU cx σ x with
    |some .nil=>LP cf cx σ d t' (xan t t') s E ti.B z y σ.ob [] k
    |some (.ow o)=>(match xG σ.ob o with
     |some (.own s' E' xs)=>kt (xan E' E)<|Ty.cast (.l s') (.l s) xs fun xs=>LP cf cx σ d t' (xan t t') s E ti.B z y (yD σ.ob o) xs k
     |_=>none)
    |_=>none)
   |none=>none)
  |_=>none)
 |_,_=>none
def Pa(σ:Sg)(d:Option Tmp)(ags:List Operand)(ts:List TypeId)(k:Sg->Option R):Option R:=match ags,ts with
 |[x,y],[t,_]=>(match ZG cf t,xU cx σ x with
  |some ⟨.l s,.sl _,_⟩,some (.ow o)=>(match xG σ.ob o with
   |some (.own s' E' xs)=>kt (xan s.n 1)<|Ty.cast (.l s') (.l s) xs fun xs=>ri (xU cx σ y) (.l s) fun ys=>nm (S9 (α:=s.D) xs ys) fun zs=>k ⟨σ.nx,wZ σ.rg d [],ke σ.ob o (.own s E' zs)⟩
   |_=>none)
  |some ⟨.l s,.sl _,_⟩,some (.sv o t2 lo n)=>(match xG σ.ob o,Ty.same t2 s with
   |some (.own s' E' xs),some _=>kt (xan s.n 1)<|Ty.cast (.l s') (.l s) xs fun xs=>ri (xU cx σ y) (.l s) fun ys=>nm (UH (α:=s.D) lo n xs ys) fun zs=>k ⟨σ.nx,wZ σ.rg d [],ke σ.ob o (.own s E' zs)⟩
   |_,_=>none)
  |_,_=>none)
 |_,_=>none
def nW:List Nat->List (Nat×Od)->List (Nat×Od)
 |o::os,e::r=>(o,e.2)::nW os r
 |_,_=>[]
def lJ:Nat->List RM->Bool
 |0,[]=>true
 |0,.own _ _::r=>lJ 0 r
 |n+1,.d _::r=>lJ n r
 |_,_=>false
def gY(m:Nat):Nat:=bif xan m 1 then 0 else 1
def zaz(σ:Sg)(d:Option Tmp)(s:W1)(ags:List Operand)(cs:List PD)(k:Sg->Option R):Option R:=
 ZJ cf cx σ s.dom ags cs fun y os=>bd (s.M y) fun r=>
  match s.bk with
  |0=>(let g:=Zx s.cod r (bif QO s.cod then 0 else 1) σ.nx
   k ⟨σ.nx+g.2.length,wZ σ.rg d g.1,g.2++wU σ.ob os⟩)
  |b+1=>(let m:=s.cod.length-(b+1)
   let g:=Zx s.cod r (gY m) σ.nx
   kt (lJ m s.cod)<|k ⟨σ.nx+g.2.length,wZ σ.rg d (g.1.filter fun e=>xdl e.1 (gY m+m)),nW os g.2++wU σ.ob os⟩)
def mE(σ:Sg)(d:Option Tmp)(op:Op)(k:Sg->Option R):Option R:=eOp cf cx σ op fun l=>kt (okL σ.nx l)<|k (σ.put d l)
def zfd(d:Option Tmp):Bool:=match d with
 |some t=>aN cf.an.bx t
 |none=>false
def zbX(o n:Nat)(v:Dv):Dv:=match v with
 | .mw p=>bif xan p o then .mw n else v
 | .mv p l m=>bif xan p o then .mv n l m else v
 | .hp p j=>bif xan p o then .hp n j else v
 | .rw p r=>bif xan p o then .rw n r else v
 | .rp p t r j f=>bif xan p o then .rp n t r j f else v
 |v=>v
def zcR(o n:Nat):List (Nat×Nat×Dv)->List (Nat×Nat×Dv)
 |[]=>[]
 |(t,i,v)::r=>(t,i,zbX o n v)::zcR o n r
def Fo(o n:Nat):List (Nat×Nat×Dv)->List (Nat×Nat×Dv)
 |[]=>[]
 |(t,i,.mw p)::r=>(t,i,bif xan p o then .mw n else .mw p)::Fo o n r
 |(t,i,v)::r=>(t,i,v)::Fo o n r
def EA(o n:Nat):List (Nat×Nat×Dv)->List (Nat×Nat×Dv)
 |[]=>[]
 |(t,i,.yd p)::r=>(t,i,bif xan p o then .yd n else .yd p)::EA o n r
 |(t,i,v)::r=>(t,i,v)::EA o n r
def zhV{α:Type}(a b:List α):List α:=a++b
def zhb{α:Type}(xss:List (List α))(r:Nat)(xs:List α):List (List α):=xfQ xss r xs
def Zw(σ:Sg)(s:Ty)(p v:Option Dv)(k:Sg->Option R):Option R:=match p,v with
 |some (.rp o e r j f),v=>(match xG σ.ob o,Ty.same f.f s with
  |some (.mat s' E E1 xss ix),some _=>Ty.cast (.l (.l s')) (.l (.l e)) xss fun xss=>ri v f.f fun y=>nm (zhb (α:=e.D) xss r (xfQ (jl (α:=e.D) xss r) j (f.set y (xei (jl (α:=e.D) xss r) j e.z)))) fun xss=>k ⟨σ.nx,σ.rg,ke σ.ob o (.mat e E E1 xss ix)⟩
  |_,_=>none)
 |some (.hp o j),some (.rw o' r)=>kt (xan o' o)<|(match xG σ.ob o,s with
  |some (.mat s' E E1 xss ix),.l _=>nm (xfQ ix j r) fun ix=>k ⟨σ.nx,σ.rg,ke σ.ob o (.mat s' E E1 xss ix)⟩
  |_,_=>none)
 |some (.hp o j),some (.ow o2)=>kt (!xan o o2)<|(match xG σ.ob o,xG σ.ob o2,s with
  |some (.mat s' E E1 xss ix),some (.own s2 E2 ys),.l _=>kt (xan E1 E2)<|Ty.cast (.l s2) (.l s') ys fun ys=>nm (zhV (α:=List s'.D) xss [ys]) fun xs2=>nm (xfQ ix j (xaF xss)) fun ix=>k ⟨σ.nx+1,zcR o σ.nx σ.rg,(σ.nx,.mat s' E E1 xs2 ix)::yD (yD σ.ob o) o2⟩
  |_,_,_=>none)
 |some (.mw o),some (.ow o2)=>kt (!xan o o2)<|(match xG σ.ob o,xG σ.ob o2,s with
  |some (.ho E0),some (.own s2 E2 ys),.l _=>k ⟨σ.nx+1,Fo o σ.nx σ.rg,(σ.nx,.bo s2 E2 E0 ys)::yD (yD σ.ob o) o2⟩
  |_,_,_=>none)
 |_,_=>none
def Hq(σ:Sg)(d:Option Tmp)(t:TypeId)(x y:Operand)(k:Sg->Option R):Option R:=match ZG cf t with
 |some ⟨.l (.l s),.sl E,_⟩=>kt (Lo x y) (match ZG cf E,pd cx σ x with
  |some ⟨.l _,.sl E1,B⟩,some ⟨.i,n⟩=>j8 n fun n=>ck (B*n<=281474976710656)<|nm (xae n 0) fun ix=>k (Nq σ d .mw (.mat s E E1 [[]] ix))
  |_,_=>none)
 |_=>none
def SH(σ:Sg)(d:Option Tmp)(t:TypeId)(n:Nat)(ps:List (Nat×Operand))(k:Sg->Option R):Option R:=match ZG cf t,ps with
 |some ⟨.l (.l s),.sl E,_⟩,[(0,x)]=>kt (xan n 1) (match xU cx σ x with
  |some (.ow o2)=>(match xG σ.ob o2 with
   |some (.own s2 E1 ys)=>Ty.cast (.l s2) (.l s) ys fun ys=>k ⟨σ.nx+1,wZ σ.rg d [(0,.mw σ.nx)],(σ.nx,.mat s E E1 [ys] [0])::yD σ.ob o2⟩
   |_=>none)
  |_=>none)
 |_,_=>none
def Bl(σ:Sg)(d:Option Tmp)(E0:TypeId)(k:Sg->Option R):Option R:=match ZG cf E0 with
 |some ⟨.l s,.sl E,_⟩=>k (Nq σ d .mw (.bo s E E0 []))
 |_=>none
def GG(σ:Sg)(d:Option Tmp)(t:TypeId)(o:Nat)(k:Sg->Option R):Option R:=match ZG cf t,xG σ.ob o with
 |some ⟨.l _,.sl _,_⟩,some (.bo s E E0 xs)=>k ⟨σ.nx+1,wZ σ.rg d [(0,.ow σ.nx)],(σ.nx,.own s E xs)::ke σ.ob o (.ho E0)⟩
 |_,_=>none
def zaR(σ:Sg)(d:Option Tmp)(ags:List Operand)(ts:List TypeId)(k:Sg->Option R):Option R:=match ags,ts with
 |[x,y],[t,t']=>(match ZG cf t,xU cx σ x,xU cx σ y with
  |some ⟨.l (.l s),.sl E,_⟩,some (.mw o),some (.mw p)=>kt (xan t t' && !xan o p) (match ZG cf E,xG σ.ob o,xG σ.ob p with
   |some ⟨.l _,.sl _,B⟩,some (.mat s1 E1 F1 xss ix),some (.mat s2 E2 F2 yss iy)=>kt (xan E1 E && (xan E2 E && xan F1 F2))<|Ty.cast (.l (.l s2)) (.l (.l s1)) yss fun yss=>
    ck ((xaF ix+xaF iy)*B<=140737488355328)<|nm (zhV (α:=List s1.D) xss yss) fun zss=>nm (ix++iy.map (xaF xss+ ·)) fun iz=>k ⟨σ.nx+1,wZ σ.rg d [(0,.mw σ.nx)],(σ.nx,.mat s1 E1 F1 zss iz)::yD (yD σ.ob o) p⟩
   |_,_,_=>none)
  |_,_,_=>none)
 |_,_=>none
def oQ(σ:Sg)(d:Option Tmp)(s:mJ)(ags:List Operand)(k:Sg->Option R):Option R:=match ags with
 |[x,a,p,y]=>(match xU cx σ x,pd cx σ a,pd cx σ p,xU cx σ y with
  |some (.rw o r),some ⟨.i,a⟩,some ⟨.i,p⟩,some (.mv o' lo n)=>kt (xan o o') (match xG σ.ob o with
   |some (.mat s1 E E1 xss ix)=>kt (xan E s.E && xan E1 s.E1)<|Ty.cast (.l (.l s1)) (.l (.l s.t)) xss fun xss=>
    bd (s.M xss ix r a p lo n) fun xss=>k ⟨σ.nx+1,Fo o σ.nx (wZ σ.rg d []),(σ.nx,.mat s.t E E1 xss ix)::yD σ.ob o⟩
   |_=>none)
  |_,_,_,_=>none)
 |_=>none
def A1(σ:Sg)(d:Option Tmp)(o:Nat)(ags:List Operand)(k:Sg->Option R):Option R:=match ags with
 |[x]=>(match xU cx σ x with
  |some (.ow p)=>kt (!xan o p) (match xG σ.ob o,xG σ.ob p with
   |some (.hid t E X Y mX mY g z),some (.own s E2 ys)=>kt (xan E2 E)<|Ty.cast (.l s) (.l t) ys fun ys=>
    bd (g ys z) fun r=>xfo (fun x'=>k ⟨σ.nx+1,EA o σ.nx (wZ σ.rg d [(0,.kb true)]),(σ.nx,.hid t E X Y mX mY g x')::yD (ke σ.ob p (.own t E2 r.1)) o⟩)
     (fun y'=>k ⟨σ.nx+1,EA o σ.nx (wZ σ.rg d [(0,.kb false)]),(σ.nx,.hiy Y mY y')::yD (ke σ.ob p (.own t E2 r.1)) o⟩) r.2
   |_,_=>none)
  |_=>none)
 |_=>none
inductive CoM
 |no
 |st (t:TypeId) (x y:Operand)
 |ma (t:TypeId) (x y:Operand)
 |lit (t:TypeId) (n:Nat) (ps:Array (Nat×Operand))
 |al (E:TypeId)
 |tk (t:TypeId) (o:Nat)
 |ap (ags:Array Operand) (ts:Array TypeId)
 |sk (s:mJ) (ags:Array Operand)
 |yl (o:Nat) (ags:Array Operand)
def coM(σ:Sg)(d:Option Tmp):Op->CoM
 | .store t x y=>bif NI (xU cx σ x)then .st t x y else .no
 | .makeSlice t x y=>bif H9 cf d then .ma t x y else .no
 | .buildSlice t n ps=>bif H9 cf d then .lit t n ps else .no
 | .alloc E=>bif H9 cf d then .al E else .no
 | .load t x=>(match xU cx σ x with
  |some (.mw o)=> .tk t o
  |_=> .no)
 | .call ⟨.builtin .append,ags,ts⟩=>bif ags.toList.any (fun x=>P0 (xU cx σ x))then .ap ags ts else .no
 | .call ⟨.value f,ags,_⟩=>(match xU cx σ f with
  |some (.yd o)=> .yl o ags
  |some (.fn f [])=>(match Sb cf.ms f with
   |some s=> .sk s ags
   |none=> .no)
  |_=> .no)
 |_=> .no
def mCo(σ:Sg)(d:Option Tmp)(c:CoM)(k:Sg->Option R)(k0:Option R):Option R:=match c with
 | .no=>k0
 | .st t x y=>kt d.isNone (match ZG cf t with
  |some ti=>Zw σ ti.ty (xU cx σ x) (xU cx σ y) k
  |none=>none)
 | .ma t x y=>Hq cf cx σ d t x y k
 | .lit t n ps=>SH cf cx σ d t n ps.toList k
 | .al E=>Bl cf σ d E k
 | .tk t o=>GG cf σ d t o k
 | .ap ags ts=>zaR cf cx σ d ags.toList ts.toList k
 | .sk s ags=>oQ cx σ d s ags.toList k
 | .yl o ags=>A1 cx σ d o ags.toList k
def zd7(σ:Sg)(d:Option Tmp)(op:Op)(k:Sg->Option R):Option R:=
 match op with
 | .alloc E=>HT cf σ d E k
 | .box E x=>HO (zfd cf d) (zfE cf cx σ d E x k) (mE cf cx σ d (.box E x) k)
 | .store t x y=>kt d.isNone (match ZG cf t with
  |some ti=>HH σ ti.ty (xU cx σ x) (xU cx σ y) k
  |none=>none)
 | .makeSlice t x y=>Sz cf cx σ d t x y k
 | .buildSlice t n ps=>zdQ cf cx σ d t n ps.toList k
 | .slice t x none (some hi) none=>(match xU cx σ x with
  |some (.ow o)=>Hf cf cx σ d t o hi k
  |_=>mE cf cx σ d (.slice t x none (some hi) none) k)
 | .call ⟨.builtin .append,ags,ts⟩=>ze0 cf cx σ d ags.toList ts.toList k
 | .call ⟨.builtin .copy,ags,ts⟩=>Pa cf cx σ d ags.toList ts.toList k
 | .call ⟨.value f,ags,ts⟩=>(match xU cx σ f with
  |some (.fn f' cs)=>(match Hj cx σ f' ags.toList cf.cs with
   |some s=>zaz cf cx σ d s ags.toList cs k
   |none=>mE cf cx σ d (.call ⟨.value f,ags,ts⟩) k)
  |_=>mE cf cx σ d (.call ⟨.value f,ags,ts⟩) k)
 |op=>mE cf cx σ d op k
def mOp(σ:Sg)(d:Option Tmp)(op:Op)(k:Sg->Option R):Option R:=mCo cf cx σ d (coM cf cx σ d op) k (zd7 cf cx σ d op k)
def Bw(σ:Sg)(t:Tmp)(b:Bool):Sg:=⟨σ.nx,wZ σ.rg (some t) [(0,.kb b)],σ.ob⟩
def ax(all:List Oper)(o:Oper)(σ:Sg)(k:Sg->Bool->Option R):Option R:=match o.guard with
 |none=>k σ true
 |some (j,want)=>match all[j]? with
  |some o'=>(match o'.dst with
   |some t=>(match get cx σ t 0 with
    |some (.kb b)=>k σ (b==want)
    |some .un=>k σ false
    |some (.d .b x)=>kt (ZF cx.rg t)<|ifB x (k (Bw σ t true) (true==want)) (k (Bw σ t false) (false==want))
    |_=>none)
   |none=>none)
  |none=>none
def pK(o:Oper)(σ:Sg)(k:Sg->Option R):Option R:=match o.op with
 | .pick (.tmp t) _ _=>(match get cx σ t 0 with
  |some (.d .b x)=>kt (ZF cx.rg t)<|ifB x (k (Bw σ t true)) (k (Bw σ t false))
  |_=>k σ)
 |_=>k σ
def Ib(all:List Oper):List Oper->Sg->(Sg->Option R)->Option R
 |[],σ,k=>k σ
 |o::r,σ,k=>kt (wi cx o.dst)<|ax cx all o σ fun σ w=>HO w
  (pK cx o σ fun σ=>(let σ:=zcG cx σ (zfq cf cx σ o.dst o.op);mOp cf cx σ o.dst o.op fun σ=>Ib all r σ k))
  (Ib all r (σ.put o.dst [(0,.un)]) k)
def Rf(all:List Oper):List Oper->Sg->(Sg->Option R)->Option R
 |[],σ,k=>k σ
 |o::r,σ,k=>kt (wi cx o.dst)<|ax cx all o σ fun σ w=>HO w
  (pK cx o σ fun σ=>eOp cf cx σ o.op fun l=>kt (okL σ.nx l)<|Rf all r (σ.put o.dst l) k)
  (Rf all r (σ.put o.dst [(0,.un)]) k)
def dd:List (Nat×Nat×Dv)->List (Nat×Nat×Dv)
 |[]=>[]
 |e::r=>e::(dd r).filter fun f=> !(xan e.1 f.1 && xan e.2.1 f.2.1)
structure Rb where
 a:Option Nat
 c:Option Nat
 rd:List Nat
 o:Nat
 x:Od
structure Oi where
 lo:Nat
 hi:Nat
 refs:List Nat
def JL(ts:List Tmp):List (Nat×Nat×Dv)->List Nat
 |[]=>[]
 |(t,_,v)::r=>(match aN ts t,xZ v with
  |true,some o=>o::JL ts r
  |_,_=>JL ts r)
def dn:List (Nat×Dv)->List Nat
 |[]=>[]
 |(_,v)::r=>(match xZ v with
  |some o=>o::dn r
  |none=>dn r)
def QX(ts:List Tmp):List (Nat×Nat×Dv)->List (Nat×Nat×Dv)
 |[]=>[]
 |(t,i,v)::r=>(match aN ts t with
  |true=>(t,i,v)::QX ts r
  |false=>QX ts r)
def ib(d:Option Tmp)(rg:List (Nat×Nat×Dv)):List (Nat×Dv):=match d with
 |some t=>rg.filterMap fun e=>match xan e.1 t with
  |true=>some (e.2.1,e.2.2)
  |false=>none
 |none=>[]
def Uo(os:List Nat):List Rb->List (Nat×Od)
 |[]=>[]
 |r::rs=>match r.c,aN os r.o with
  |none,true=>(r.o,r.x)::Uo os rs
  |_,_=>Uo os rs
def IW(i:Nat)(os:List Nat):List Rb->List Rb
 |[]=>[]
 |r::rs=>(match r.c,aN os r.o with
  |none,true=>⟨r.a,some i,r.rd,r.o,r.x⟩
  |_,_=>r)::IW i os rs
def H4(i:Nat)(os:List Nat):List Rb->List Rb
 |[]=>[]
 |r::rs=>(match r.c,aN os r.o with
  |none,true=>⟨r.a,none,i::r.rd,r.o,r.x⟩
  |_,_=>r)::H4 i os rs
def zbj(i:Nat)(ob:List (Nat×Od)):List Rb:=ob.map fun e=>⟨some i,none,[],e.1,e.2⟩
def zgO(ob:List (Nat×Od)):List Rb:=ob.map fun e=>⟨none,none,[],e.1,e.2⟩
def DE:List Rb->List (Nat×Od)
 |[]=>[]
 |r::rs=>match r.c with
  |none=>(r.o,r.x)::DE rs
  |some _=>DE rs
def okO(n:Nat)(ob:List (Nat×Od)):Bool:=ob.all fun e=>xdl e.1 n
def mG(σ:Sg):List Nat->Sg
 |[]=>σ
 |o::r=>mG (Dt σ o) r
def Rh:List RM->Bool
 |[]=>true
 | .own _ _::_=>false
 |_::r=>Rh r
def zdB(σ:Sg)(b:Bool)(d:Option Tmp):Op->Bool
 | .alloc _=>true
 | .store _ _ _=>true
 | .makeSlice _ _ _=>true
 | .buildSlice _ _ _=> !b
 | .box _ _=>zfd cf d
 | .load _ x=>P0 (xU cx σ x)
 | .slice _ x none (some _) none=>(match xU cx σ x with
  |some (.ow _)=>true
  |_=>false)
 | .call ⟨.builtin .append,_,_⟩=>true
 | .call ⟨.builtin .copy,_,_⟩=>true
 | .call ⟨.value f,ags,_⟩=>(match xU cx σ f with
  |some (.fn f' _)=>(match Hj cx σ f' ags.toList cf.cs with
   |some s=> !(pC s.dom)||(!b && !(Rh s.cod))
   |none=>(Sb cf.ms f').isSome)
  |some (.yd _)=>true
  |_=>false)
 |_=>false
def fzB(fz:List Nat):Option Tmp->Bool
 |some t=>aN fz t
 |none=>false
def zhO(b:Bool)(d:Option Tmp)(τ:Sg):Sg:=match b with
 |true=>mG τ (dn (ib d τ.rg))
 |false=>τ
def zdC(τ:Sg)(d:Option Tmp)(k:List (Nat×Dv)->Nat->List (Nat×Od)->Option R):Option R:=kt (okL τ.nx (ib d τ.rg) && okO τ.nx τ.ob)<|k (ib d τ.rg) τ.nx τ.ob
def zds(os:List Nat):Op->List Nat
 | .move _=>[]
 | .assign _=>[]
 |_=>os
def N2(all:List Oper)(fz:List Nat):List Oper->Nat->Sg->List Rb->List Oi->(Sg->List Rb->List Oi->Option R)->Option R
 |[],_,σ,rs,is,k=>k σ rs is
 |o::r,i,σ,rs,is,k=>kt (wi cx o.dst)<|ax cx all o σ fun σ w=>HO w
  (pK cx o σ fun σ=>HO (zdB cf cx ⟨σ.nx,σ.rg,Uo (JL (xby all.toArray o) σ.rg) rs⟩ (fzB fz o.dst) o.dst o.op)
   (mOp cf ⟨0,[],cx.ob⟩ ⟨σ.nx,dd (QX (xby all.toArray o) (σ.rg++cx.rg)),Uo (JL (xby all.toArray o) σ.rg) rs⟩ o.dst o.op fun τ=>
    zdC (zhO (fzB fz o.dst) o.dst τ) o.dst fun l n ob=>N2 all fz r (i+1) ⟨n,wZ σ.rg o.dst l,[]⟩ (IW i (JL (xby all.toArray o) σ.rg) rs++zbj i ob) (is++[⟨σ.nx,n,dn l⟩]) k)
   (eOp cf cx ⟨σ.nx,σ.rg,Uo (zds (JL (xby all.toArray o) σ.rg) o.op) rs⟩ o.op fun l=>kt (okL σ.nx l)<|N2 all fz r (i+1) (σ.put o.dst l) (H4 i (zds (JL (xby all.toArray o) σ.rg) o.op) rs) (is++[⟨σ.nx,σ.nx,dn l⟩]) k))
  (N2 all fz r (i+1) (σ.put o.dst [(0,.un)]) rs (is++[⟨σ.nx,σ.nx,[]⟩]) k)
def inB(I:Oi)(o:Nat):Bool:=xfN I.lo o && xdl o I.hi
def zbR(l:List Oper)(i:Nat)(I:Oi)(rs:List Rb)(js:List (Oi×Nat)):Bool:=
 (rs.all fun r=> !inB I r.o||(match r.a with
  |some j=>xan j i||vt l 16 j i
  |none=>false)) && js.all fun J=>J.1.refs.all fun p=> !inB I p||xan J.2 i||vt l 16 J.2 i
def zbz(l:List Oper)(m:Nat)(rs:List Rb)(is:List Oi):Bool:=
 (rs.all fun r=>(match r.a with
  |some j=>xdl j m && r.rd.all fun i=>vt l 16 i j
  |none=>true) && (match r.c with
  |some k=>xdl k m && (match r.a with
   |some j=>vt l 16 k j
   |none=>true) && r.rd.all fun i=>vt l 16 k i
  |none=>true)) &&
 (is.zipIdx.all fun J=>zbR l J.2 J.1 rs is.zipIdx) &&
 (xbb m).all fun i=>(xbb m).all fun j=>xan i j||(match(zN l i).dst with
  |some t=> !((zN l j).dst==some t)
  |none=>true)
def Hp(l:List Oper):Nat->Nat->Nat
 |0,m=>m
 |f+1,m=>bif xdl 1 m && Yx l (m-1)then Hp l f (m-1)else m
def zd2(al:List (Nat×Operand)):Operand->Operand
 | .tmp t=>(match Q0 al t with
  |some x=>x
  |none=> .tmp t)
 |x=>x
def zhd(al:List (Nat×Operand))(o:Oper):List (Nat×Operand):=match o.op,o.dst with
 | .move x,some d=>(d,zd2 al x)::al
 | .assign x,some d=>(d,zd2 al x)::al
 |_,_=>al
def za3:List Oper->List (Nat×Operand)->Sg->Sg
 |[],_,σ=>σ
 |o::r,al,σ=>za3 r (zhd al o) (zcG cx σ ((zfq cf cx σ o.dst o.op).map (zd2 al)))
def zfr(id:Nat):List Nat:=match Q0 cf.an.dz id with
 |some l=>l
 |none=>[]
def zeH(id:Nat)(l:List Oper)(m:Nat)(σ:Sg)(k:Sg->Option R):Option R:=
 let fz:=zfr cf id
 let σ:=mG σ (JL fz σ.rg)
 N2 cf cx l fz (l.take m) 0 ⟨σ.nx,σ.rg,[]⟩ (zgO σ.ob) [] fun σ rs is=>kt (zbz l m rs is)<|Ib cf cx l (l.drop m) ⟨σ.nx,dd σ.rg,DE rs⟩ k
def zgk(id:Nat):Bool:=match Q0 cf.an.dz id with
 |some _=>true
 |none=>false
def zfI(id:Nat)(l:List Oper)(draw:Bool)(σ:Sg)(k:Sg->Option R):Option R:=
 HO draw
  (let m:=Hp l l.length l.length
  kt (Yx l m)<|HO (zgk cf id) (zeH cf cx id l m σ k) (Rf cf cx l (l.take m) (za3 cf cx (l.take m) [] σ) fun σ=>Ib cf cx l (l.drop m) ⟨σ.nx,dd σ.rg,σ.ob⟩ k))
  (Ib cf cx l l σ k)
def X4:List (Nat×TF)->Type
 |[]=>Unit
 |[a]=>a.2.D
 |a::b::r=>a.2.D×X4 (b::r)
def ay(σ:Sg)(ds:List (Nat×TF))(t:Nat)(f:TF)(k:f.D->List Nat->Option R):Option R:=match f,k with
 | .d s,k=>ri (get cx σ t 0) s fun y=>k y []
 | .q s,k=>(match get cx σ t 0 with
  |some (.q s' x)=>Ty.cast s' s x fun y=>k y []
  |_=>none)
 | .own s E,k=>(match get cx σ t 0 with
  |some (.ow o)=>(match xG σ.ob o with
   |some (.own s' E' xs)=>kt (xan E E')<|Ty.cast (.l s') (.l s) xs fun y=>k y [o]
   |_=>none)
  |some .nil=>k ([]:List s.D) []
  |_=>none)
 | .var s E,k=>(match get cx σ t 0 with
  |some (.vs o _)=>(match xG σ.ob o with
   |some (.var s' E' z)=>kt (xan E E')<|Ty.cast s' s z fun y=>k y [o]
   |_=>none)
  |_=>none)
 | .mat s E E1,k=>(match get cx σ t 0 with
  |some (.mw o)=>(match xG σ.ob o with
   |some (.mat s' E' F' xss ix)=>kt (xan E E' && xan E1 F')<|Ty.cast (.l (.l s')) (.l (.l s)) xss fun y=>k (y,ix) [o]
   |_=>none)
  |some .nil=>k (([],[]):List (List s.D)×List Nat) []
  |_=>none)
 | .matv s E E1,k=>(match get cx σ t 0 with
  |some (.mv o lo n)=>(match xG σ.ob o with
   |some (.mat s' E' F' xss ix)=>kt (xan E E' && xan E1 F')<|Ty.cast (.l (.l s')) (.l (.l s)) xss fun y=>k ((y,ix),(lo,n)) [o]
   |_=>none)
  |_=>none)
 | .row j,k=>(match get cx σ t 0,ds[j]? with
  |some (.rw o r),some (s,.mat _ _ _)=>(match get cx σ s 0 with
   |some (.mw o')=>kt (xan o o')<|k r []
   |_=>none)
  |some (.rw o r),some (s,.matv _ _ _)=>(match get cx σ s 0 with
   |some (.mv o' _ _)=>kt (xan o o')<|k r []
   |_=>none)
  |_,_=>none)
 | .view j,k=>(match get cx σ t 0,ds[j]? with
  |some (.mv o lo n),some (s,.mat _ _ _)=>(match get cx σ s 0 with
   |some (.mw o')=>kt (xan o o')<|k (lo,n) []
   |_=>none)
  |some (.mv o lo n),some (s,.matv _ _ _)=>(match get cx σ s 0 with
   |some (.mv o' _ _)=>kt (xan o o')<|k (lo,n) []
   |_=>none)
  |_,_=>none)
 | .bo s E E0,k=>(match get cx σ t 0 with
  |some (.mw o)=>(match xG σ.ob o with
   |some (.bo s' E' F' xs)=>kt (xan E E' && xan E0 F')<|Ty.cast (.l s') (.l s) xs fun y=>k y [o]
   |_=>none)
  |_=>none)
def mZ(os:List Nat):List Nat->Bool
 |[]=>true
 |o::r=> !aN os o && mZ os r
def gat(σ:Sg)(ds:List (Nat×TF)):(l:List (Nat×TF))->(X4 l->List Nat->Option R)->Option R
 |[],k=>k () []
 |[a],k=>ay cx σ ds a.1 a.2 k
 |a::b::r,k=>ay cx σ ds a.1 a.2 fun x o=>gat σ ds (b::r) fun y os=>kt (mZ os o)<|k (x,y) (o++os)
def zcU(σ:Sg):List (Nat×NF)->Bool
 |[]=>true
 |(t,f)::r=>(match f,get cx σ t 0 with
  | .kb b,some (.kb c)=>b==c
  | .nil,some .nil=>true
  | .ci x,some (.d .i y)=>eqI x y
  | .cu x,some (.d .u y)=>eqU x y
  | .al s,some (.ow o)=>(match get cx σ s 0 with
   |some (.ow o')=>xan o o'
   |_=>false)
  | .al s,some (.vs o _)=>(match get cx σ s 0 with
   |some (.vs o' _)=>xan o o'
   |_=>false)
  | .al s,some (.mw o)=>(match get cx σ s 0 with
   |some (.mw o')=>xan o o'
   |_=>false)
  |_,_=>false) && zcU σ r
def gI(n0 o:Nat)(f:TF)(x:f.D):Dv×Option Od:=match f,x with
 | .d t,x=>(.d t x,none)
 | .q t,x=>(.q t x,none)
 | .own t E,x=>(.ow o,some (.own t E x))
 | .var t E,x=>(.vs o t,some (.var t E x))
 | .mat t E E1,x=>(.mw o,some (.mat t E E1 x.1 x.2))
 | .matv t E E1,x=>(.mv o x.2.1 x.2.2,some (.mat t E E1 x.1.1 x.1.2))
 | .row j,r=>(.rw (n0+j) r,none)
 | .view j,r=>(.mv (n0+j) r.1 r.2,none)
 | .bo t E E0,x=>(.mw o,some (.bo t E E0 x))
def Uz(n0:Nat):(l:List (Nat×TF))->X4 l->Nat->List (Nat×Nat×Dv)×List (Nat×Od)
 |[],_,_=>([],[])
 |[a],x,o=>let v:=gI n0 o a.2 x
  ([(a.1,0,v.1)],match v.2 with
   |some y=>[(o,y)]
   |none=>[])
 |a::b::r,x,o=>let v:=gI n0 o a.2 x.1
  let y:=Uz n0 (b::r) x.2 (o+1)
  ((a.1,0,v.1)::y.1,match v.2 with
   |some q=>(o,q)::y.2
   |none=>y.2)
def Bx(rg:List (Nat×Nat×Dv)):List (Nat×NF)->List (Nat×Nat×Dv)
 |[]=>rg
 |(t,f)::r=>(match f with
  | .kb b=>[(t,0,.kb b)]
  | .nil=>[(t,0,.nil)]
  | .ci x=>[(t,0,.d .i x)]
  | .cu x=>[(t,0,.d .u x)]
  | .al s=>(match aE rg s 0 with
   |some v=>[(t,0,v)]
   |none=>[]))++Bx rg r
def VE(sh:Sh)(x:X4 sh.ds)(kp:Sg):Sg:=
 let y:=Uz kp.nx sh.ds x kp.nx
 ⟨kp.nx+sh.ds.length,Bx y.1 sh.ns++y.1++kp.rg,y.2++kp.ob⟩
def zaJ(σ:Sg):List (Nat×TF)->Sg
 |[]=>σ
 |(t,.d _)::r=>zaJ (frz cx σ (.tmp t)) r
 |_::r=>zaJ σ r
def dR(sh:Sh)(σ:Sg)(k:X4 sh.ds->Option R):Option R:=let σ:=zaJ cx σ sh.ds
 kt (zcU cx σ sh.ns)<|gat cx σ sh.ds sh.ds fun x _=>k x
def SmD:List (Tg×Sh)->Type
 |[]=>Empty
 |[a]=>X4 a.2.ds
 |a::b::r=>X4 a.2.ds⊕SmD (b::r)
def Ns:Tg->Tg->Bool
 | .n,.n=>true
 | .x i,.x j=>xan i j
 | .r,.r=>true
 |_,_=>false
def SX(σ:Sg)(t:Tg):(l:List (Tg×Sh))->(SmD l->Option R)->Option R
 |[],_=>none
 |[a],k=>kt (Ns a.1 t)<|dR cx a.2 σ k
 |a::b::r,k=>HO (Ns a.1 t) (dR cx a.2 σ fun x=>k (.inl x)) (SX σ t (b::r) fun y=>k (.inr y))
def Gv(kp:Sg)(K:Tg->Sg->Option R):(l:List (Tg×Sh))->SmD l->Option R
 |[]=>fun _=>none
 |[a]=>fun x=>K a.1 (VE a.2 x kp)
 |a::b::r=>fun x=>xfo (α:=X4 a.2.ds) (β:=SmD (b::r)) (fun x=>K a.1 (VE a.2 x kp)) (Gv kp K (b::r)) x
def pT:Code->List Nat
 | .region _ ops _=>ops.toList.filterMap (·.dst)
 | .seq a b=>pT a++pT b
 | .cond _ a b=>pT a++pT b
 | .block _ c=>pT c
 | .loop c=>pT c
 | .scope c=>pT c
 | .rangeFunc _ ps a c=>ps.toList++(pT a++pT c)
 |_=>[]
def Ng:Code->Option Nat
 | .region i _ _=>some i
 | .seq a b=>(match Ng a with
  |some i=>some i
  |none=>Ng b)
 | .cond _ a b=>(match Ng a with
  |some i=>some i
  |none=>Ng b)
 | .block _ c=>Ng c
 | .loop c=>Ng c
 | .scope c=>Ng c
 | .rangeFunc _ _ a c=>(match Ng a with
  |some i=>some i
  |none=>Ng c)
 |_=>none
def zc8:Option Nat->Nat
 |some i=>i+1
 |none=>0
def ziu(a b:Code):Nat:=zc8 (Ng a)*65536+zc8 (Ng b)
def Aa(σ:Sg):List Nat->List Nat
 |[]=>[]
 |t::r=>match aE σ.rg t 0 with
  |some v=>(match xZ v with
   |some o=>o::Aa σ r
   |none=>Aa σ r)
  |none=>Aa σ r
def Sq(ags ko:List Nat)(e:Nat×Nat×Dv):Bool:= !aN ags e.1 && (match xZ e.2.2 with
 |some o=>aN ko o
 |none=>true)
def keep(σ:Sg)(ags ro:List Nat):Sg:=let ko:=Aa σ ro
 ⟨σ.nx,σ.rg.filter (Sq ags ko),σ.ob.filter fun e=>aN ko e.1⟩
def rest(σ:Sg)(ags ro:List Nat):Sg:=let ko:=Aa σ ro
 ⟨σ.nx,σ.rg.filter (fun e=> !Sq ags ko e),σ.ob.filter fun e=> !aN ko e.1⟩
def jg(cx kp:Sg):Sg:=⟨kp.nx,kp.rg++cx.rg,kp.ob++cx.ob⟩
def JE:List (Nat×TF)->Bool
 |[]=>true
 |(_,.own _ _)::r=>JE r
 |(_,.var _ _)::r=>JE r
 |(_,.mat _ _ _)::r=>JE r
 |(_,.bo _ _ _)::r=>JE r
 |_=>false
def gL:List (Nat×TF)->Nat->List (Nat×Nat×Dv)
 |[],_=>[]
 |(t,.mat _ _ _)::r,n=>(t,0,.mw n)::gL r (n+1)
 |(t,.bo _ _ _)::r,n=>(t,0,.mw n)::gL r (n+1)
 |(t,_)::r,n=>(t,0,.ow n)::gL r (n+1)
def Ai{a:Nat×TF}:{l:List (Nat×TF)}->a.2.D->X4 l->X4 (a::l)
 |[],y,_=>y
 |_::_,y,x=>(y,x)
def UI{a:Nat×TF}:{l:List (Nat×TF)}->X4 (a::l)->a.2.D×X4 l
 |[],z=>(z,())
 |_::_,z=>z
def jk(pt:Nat)(t:Ty)(E:TypeId)(ds:List (Nat×TF)):Sh:=⟨(pt,.own t E)::ds,[]⟩
def RE(ds:List (Nat×TF))(t:Nat):Bool:=ds.all fun e=> !xan e.1 t
def OX:List (Nat×TF)->Bool
 |[]=>true
 |e::r=>RE r e.1 && OX r
def cpR(cx':Sg)(n:Nat)(sh:Sh):Sg:=⟨n+sh.ds.length,gL sh.ds n++cx'.rg,cx'.ob⟩
def zfn(cp:Sg)(ds:List (Nat×TF))(t:Ty)(E:TypeId)(pt:Nat)(τ:Tg)(q:Tg)(σ:Sg):Option (List t.D×(X4 ds⊕X4 ds)):=match q with
 | .n=>dR cp (jk pt t E ds) σ fun z=>some ((UI z).1,.inl (UI z).2)
 | .x i=>kt (Ns τ (.x i))<|dR cp (jk pt t E ds) σ fun z=>some ((UI z).1,.inr (UI z).2)
 | .r=>kt (Ns τ .r)<|dR cp (jk pt t E ds) σ fun z=>some ((UI z).1,.inr (UI z).2)
def zhU(cx':Sg)(n:Nat)(ds:List (Nat×TF))(t:Ty)(E:TypeId)(pt:Nat)(τ:Tg)
 (ea ec:Sg->Sg->(Tg->Sg->Option (List t.D×(X4 ds⊕X4 ds)))->Option (List t.D×(X4 ds⊕X4 ds))) (ys:List t.D) (x:X4 ds):Option (List t.D×(X4 ds⊕X4 ds)):=
 ea (cpR cx' n (jk pt t E ds)) (VE (jk pt t E ds) (Ai (a:=(pt,.own t E)) ys x) ⟨n,[],[]⟩) fun q σ=>match q with
  | .n=>ec (cpR cx' n (jk pt t E ds)) σ (zfn (cpR cx' n (jk pt t E ds)) ds t E pt τ)
  |_=>none
def HA{R:Type}(cx σ:Sg)(K:Tg->Sg->Option R)(s:Lp)(it:ra)(y:JW it.dom)(τ:Tg)(pt:Nat)(ags:List Nat)
 (ea ec:Sg->Sg->(Tg->Sg->Option (List it.t.D×(X4 s.hd.ds⊕X4 s.hd.ds)))->Option (List it.t.D×(X4 s.hd.ds⊕X4 s.hd.ds))):Option R:=
 let kp:=keep σ ags s.sg.ro
 let cx':=jg cx kp
 kt (JE s.hd.ds && (OX (jk pt it.t it.E s.hd.ds).ds && ZF cx'.rg pt))<|dR cx' s.hd (rest σ ags s.sg.ro) fun x=>
  bd (it.M (X:=X4 s.hd.ds) (Y:=X4 s.hd.ds) y (zhU cx' kp.nx s.hd.ds it.t it.E pt τ ea ec) x) fun r=>xfo (fun x=>K .n (VE s.hd x kp)) (fun x=>K τ (VE s.hd x kp)) r
def BA:Code->Bool
 | .seq a b=>BA a && BA b
 | .cond _ a b=>BA a && BA b
 | .block _ c=>BA c
 | .loop c=>BA c
 | .scope c=>BA c
 | .rangeFunc _ _ _ _=>false
 |_=>true
end
def Um(cf:Cf):Code->{R:Type}->Sg->Sg->(Tg->Sg->Option R)->Option R
 | .skip,_,cx,σ,K=>K .n σ
 | .label _,_,cx,σ,K=>K .n σ
 | .exit id,_,cx,σ,K=>K (.x id) σ
 | .ret,_,cx,σ,K=>K .r σ
 | .scope c,_,cx,σ,K=>Um cf c cx σ K
 | .region i ops dr,_,cx,σ,K=>zfI cf cx i ops.toList dr σ fun σ=>K .n σ
 | .cond c a b,_,cx,σ,K=>(match xU cx σ c with
  |some (.kb true)=>Um cf a cx σ K
  |some (.kb false)=>Um cf b cx σ K
  |some (.d .b x)=>ifB x (Um cf a cx σ K) (Um cf b cx σ K)
  |_=>none)
 | .block id c,_,cx,σ,K=>Um cf c cx σ fun t σ=>match t with
  | .x j=>HO (xan j id) (K .n σ) (K (.x j) σ)
  |t=>K t σ
 | .seq a b,_,cx,σ,K=>
  (match Q0 cf.an.jn (ziu a b)with
  |none=>Um cf a cx σ fun t σ=>(match t with
   | .n=>Um cf b cx σ K
   |t=>K t σ)
  |some s=>
   let ags:=pT a
   let kp:=keep σ ags s.ro
   bd (Um cf a (jg cx kp) (rest σ ags s.ro) fun t σ=>SX (jg cx kp) σ t s.tg some) fun x=>
    Gv kp (fun t σ=>match t with
     | .n=>Um cf b cx σ K
     |t=>K t σ) s.tg x)
 | .loop c,_,cx,σ,K=>
  (match(match Ng c with
   |some i=>Q0 cf.an.lp i
   |none=>none)with
  |none=>none
  |some s=>
   let ags:=pT c
   let kp:=keep σ ags s.sg.ro
   let cx':=jg cx kp
   dR cx' s.hd (rest σ ags s.sg.ro) fun x=>
    bd (zj (fun L x=>Um cf c cx' (VE s.hd x ⟨kp.nx,[],[]⟩) fun t σ=>match t with
     | .n=>dR cx' s.hd σ L
     |t=>SX cx' σ t s.sg.tg some) cf.fu x) fun x=>Gv kp K s.sg.tg x)
 | .rangeFunc g ps a c,_,cx,σ,K=>
  (match xU cx σ g,(match Ng c with
   |some i=>Q0 cf.an.lp i
   |none=>none),ps.toList with
  |some (.fn f cs),some s,[pt]=>(match zbn cf.is f,s.sg.tg,s.hd.ns with
   |some it,[(τ,_)],[]=>(match Js it.dom cs with
    |some y=>kt (BA a && BA c)<|HA cx σ K s it y τ pt (pt::(pT a++pT c)) (fun cx σ K=>Um cf a cx σ K) (fun cx σ K=>Um cf c cx σ K)
    |none=>none)
   |_,_,_=>none)
  |_,_,_=>none)
 |_,_,_,_,_=>none
def XV:(dom:List AM)->JW dom->Nat->List (Nat×Nat×Dv)×List (Nat×Od)
 |[],_,_=>([],[])
 | .d t::r,x,i=>let y:=XV r x.2 (i+1)
  ((i,0,.d t x.1)::y.1,y.2)
 | .q t::r,x,i=>let y:=XV r x.2 (i+1)
  ((i,0,.q t x.1)::y.1,y.2)
 | .own t E::r,x,i=>let y:=XV r x.2 (i+1)
  ((i,0,.ow i)::y.1,(i,.own t E x.1)::y.2)
 | .fn dom cod::r,x,i=>let y:=XV r x.2 (i+1)
  ((i,0,.fp dom cod x.1)::y.1,y.2)
def CZ{R:Type}(cf:Cf)(σ:Sg)(r:ResultVar)(m:RM)(k:m.D->List Nat->Option R):Option R:=match r,m,k with
 | .tmp t,.d s,k=>ri (get ⟨0,[],[]⟩ σ t 0) s fun y=>k y []
 | .tmp t,.own s E,k=>ay ⟨0,[],[]⟩ σ [] t (.own s E) k
 | .cell t E,.d s,k=>(match get ⟨0,[],[]⟩ σ t 0,ZG cf E with
  |some (.vs o _),some ti=>(match xG σ.ob o with
   |some (.var s' E' z)=>kt (xan E E')<|Ty.cast s' ti.ty z fun z=>Ty.cast ti.ty s z fun y=>k y [o]
   |_=>none)
  |_,_=>none)
 |_,_,_=>none
def Ep{R:Type}(cf:Cf)(σ:Sg):List ResultVar->(cod:List RM)->(aX cod->List Nat->Option R)->Option R
 |[],[],k=>k () []
 |[v],[m],k=>CZ cf σ v m k
 |v::v'::vs,m::m'::ms,k=>CZ cf σ v m fun x o=>Ep cf σ (v'::vs) (m'::ms) fun y os=>kt (mZ os o)<|k (x,y) (o++os)
 |_,_,_=>none
def GR(N:Nat):Code->Bool
 | .region _ ops _=>ops.toList.all fun o=>qd N o.dst
 | .seq a b=>GR N a && GR N b
 | .cond _ a b=>GR N a && GR N b
 | .block _ c=>GR N c
 | .loop c=>GR N c
 | .scope c=>GR N c
 | .rangeFunc _ ps a c=>(ps.toList.all fun p=>xdl p N) && (GR N a && GR N c)
 |_=>true
def J5(σ:Sg):List ResultVar->List RM->Sg
 | .tmp t::vs,.d _::ms=>J5 (frz ⟨0,[],[]⟩ σ (.tmp t)) vs ms
 |_::vs,_::ms=>J5 σ vs ms
 |_,_=>σ
def H8(cf:Cf)(fn:Func)(dom:List AM)(cod:List RM)(x:JW dom):Option (aX cod):=match fn.body with
 |some c=>kt (GR fn.ntmps c && xfN dom.length fn.ntmps)<|
  let y:=XV dom x 0
  Um cf c ⟨0,[],[]⟩ ⟨dom.length,y.1,y.2⟩ fun t σ=>(match t with
   | .r=>Ep cf (J5 σ fn.results.toList cod) fn.results.toList cod fun y _=>some y
   | .n=>Ep cf (J5 σ fn.results.toList cod) fn.results.toList cod fun y _=>some y
   |_=>none)
 |none=>none
def B5:List AM->Nat->List ResultVar
 |[],_=>[]
 | .own _ _::r,i=> .tmp i::B5 r (i+1)
 |_::r,i=>B5 r (i+1)
def C1(pn:Nat->Value):List AM->Nat->List (Nat×Nat×Dv)
 |[],_=>[]
 | .own _ _::r,i=>(i,0,.pin (pn i))::C1 pn r (i+1)
 |_::r,i=>C1 pn r (i+1)
def zcd(cf:Cf)(fn:Func)(dom:List AM)(cod:List RM)(bk:Nat)(pn:Nat->Value)(x:JW dom):Option (aX cod):=match fn.body with
 |some c=>kt (GR fn.ntmps c && xfN dom.length fn.ntmps && xan (fn.results.toList.length+bk) cod.length && xan (B5 dom 0).length bk && xdl 0 bk)<|
  let y:=XV dom x 0
  let rv:=fn.results.toList++B5 dom 0
  Um cf c ⟨0,C1 pn dom 0,[]⟩ ⟨dom.length,y.1,y.2⟩ fun t σ=>(match t with
   | .r=>Ep cf (J5 σ rv cod) rv cod fun y _=>some y
   | .n=>Ep cf (J5 σ rv cod) rv cod fun y _=>some y
   |_=>none)
 |none=>none
end
section
def n4(p:Prop):FF where
 p _ _:=p
 keep h _:=h
 sub h _:=h
def CC:List PD->List Value->List FF
 |c::cs,v::vs=>fP c.t.rep c.x v::CC cs vs
 |_,_=>[]
def tsF:(ts:List Ty)->aW ts->List Value->List FF
 |[],_,_=>[]
 |t::ts,x,vs=>fV t.rep x.1 (vs.headD undef)::tsF ts x.2 vs.tail
def csF:(ts:List Ty)->Ak ts->List Value->List FF
 |[],_,_=>[]
 |[t],x,vs=>[fV t.rep x (vs.headD undef)]
 |t::s::r,x,vs=>fV t.rep x.1 (vs.headD undef)::csF (s::r) x.2 vs.tail
def zd8(P:Program)(fid:FuncId)(Q7:List Value)(FG:List FF)(dom cod:List Ty)(g:aW dom->Option (Ak cod)):Prop:=
 pW P fid=true/\ ∀(x:aW dom) (r:Ak cod),g x=some r-> ∀vs:List Value,vs.length=dom.length->
  Fn P fid (vs++Q7).toArray (tsF dom x vs++FG) ZH (fun us=>csF cod r us) (fun us=>us.length=cod.length)
def fnF(P:Program)(dom cod:List Ty)(g:aW dom->Option (Ak cod))(v:Value):FF where
 p S w:= ∃fid Q7 FG,v= .func (.func fid) #[] Q7.toArray/\zd8 P fid Q7 FG dom cod g/\zz S FG w
 keep:=by rintro S w w' ⟨fid,Q7,FG,h1,h2,h3⟩ k;exact⟨fid,Q7,FG,h1,h2,zz.keep k h3⟩
 sub:=by rintro S S' w ⟨fid,Q7,FG,h1,h2,h3⟩ k;exact⟨fid,Q7,FG,h1,h2,zz.sub k h3⟩
def amF(P:Program):(a:AM)->a.D->Value->FF
 | .d t,x,v=>fV t.rep x v
 | .q t,x,v=>fP t.rep x v
 | .own _ _,_,_=>n4 True
 | .fn dom cod,g,v=>fnF P dom cod g v
def amM:(a:AM)->a.D->Value->List MF
 | .own t E,xs,v=>[mO t.rep E v xs]
 |_,_,_=>[]
def kE(P:Program):(dom:List AM)->JW dom->List Value->List FF
 |[],_,_=>[]
 |a::r,x,vs=>amF P a x.1 (vs.headD undef)::kE P r x.2 vs.tail
def YM:(dom:List AM)->JW dom->List Value->List MF
 |[],_,_=>[]
 |a::r,x,vs=>amM a x.1 (vs.headD undef)++YM r x.2 vs.tail
def rmF:(m:RM)->m.D->Value->List FF
 | .d t,x,v=>[fV t.rep x v]
 | .own _ _,_,_=>[]
def rmM:(m:RM)->m.D->Value->List MF
 | .own t E,xs,v=>[mO t.rep E v xs]
 | .d _,_,_=>[]
def uD:(rs:List RM)->aX rs->List Value->List FF
 |[],_,_=>[]
 |[m],x,vs=>rmF m x (vs.headD undef)
 |m::n::r,x,vs=>rmF m x.1 (vs.headD undef)++uD (n::r) x.2 vs.tail
def uA:(rs:List RM)->aX rs->List Value->List MF
 |[],_,_=>[]
 |[m],x,vs=>rmM m x (vs.headD undef)
 |m::n::r,x,vs=>rmM m x.1 (vs.headD undef)++uA (n::r) x.2 vs.tail
def J9:List AM->List Value->List Value
 |[],_=>[]
 | .own _ _::r,vs=>vs.headD undef::J9 r vs.tail
 |_::r,vs=>J9 r vs.tail
def zhW(bk n:Nat)(us:List Value):Value:=match bk with
 |0=>ZH us
 |b+1=>ZH (us.take (n-(b+1)))
def zdx(dom:List AM)(vs:List Value)(bk n:Nat)(us:List Value):Prop:=match bk with
 |0=>us.length=n
 |b+1=>us.length=n/\us.drop (n-(b+1))=J9 dom vs
def y5(P:Program)(s:W1):Prop:=
 pW P s.f=true/\ ∀(x:JW s.dom) (r:aX s.cod),s.M x=some r-> ∀vs:List Value,vs.length=s.dom.length->
  MO P s.f vs.toArray (YM s.dom x vs) (kE P s.dom x vs) (zhW s.bk s.cod.length) (fun us=>uA s.cod r us) (fun us=>uD s.cod r us) (zdx s.dom vs s.bk s.cod.length)
theorem y5.plain{P:Program}{s:W1}(h:y5 P s)(hb:s.bk=0){x:JW s.dom}{r:aX s.cod}(hM:s.M x=some r){vs:List Value}(hl:vs.length=s.dom.length):
 MO P s.f vs.toArray (YM s.dom x vs) (kE P s.dom x vs) ZH (fun us=>uA s.cod r us) (fun us=>uD s.cod r us) (fun us=>us.length=s.cod.length):=by
 have h1:=h.2 x r hM vs hl;rw[hb]at h1;exact h1
def Ry(P:Program)(t:TypeId)(i:Nat):Option (Nat×Bool×Nat):=match P.underlying t with
 |some (.struct fs)=>match fs[i]? with
  |some f=>match tyB P f.type with
   |some (agg,n,_,some _)=>some (f.offset,agg,n)
   |_=>none
  |none=>none
 |_=>none
def Px(P:Program)(t:TypeId)(ti:TI):Prop:=match ti.k with
 | .int k=>P.underlying t=some (.int k)
 | .bool=>P.underlying t=some .bool
 | .str=>P.underlying t=some .string
 | .sl E=>P.underlying t=some (.slice E)/\ ∃e,ti.ty= .l e
 | .st n=>ti.ty.rep.agg=true/\(∀i f,Qc n ti.ty i=some f->HR P t i=some f.off)/\
  (∃fs,P.underlying t=some (.struct fs)/\ ∃pl:Array (Nat×Nat),(∀w,(fs.mapM (fun f=>do pure (f.offset,<-sizeOf f.type)):Sem (Array (Nat×Nat))).run P w= .ok pl w)/\
   ∀i f,Qc n ti.ty i=some f->pl[i]? =some (f.off,f.f.n))/\
  ∀i f,Qc n ti.ty i=some f->Ry P t i=some (f.off,f.f.rep.agg,f.f.n)
 | .ar k E=>ti.ty.rep.agg=true/\P.underlying t=some (.array k E)
def SY(P:Program)(t:TypeId)(ti:TI):Prop:=
 (∃zero,XB P t ti.ty.rep.agg ti.ty.rep.n ti.B zero/\zero.cells.size=ti.ty.rep.n/\(∀S w,ti.ty.rep.p S ti.ty.z zero.cells.toList w)/\ ∀s,ti.ty= .l s->zero= .slice none 0 0)/\0<ti.B/\0<ti.ty.rep.n/\Px P t ti
def zS(P:Program)(tt:List (Nat×TI)):Prop:= ∀t ti,Q0 tt t=some ti->SY P t ti
def jy(P:Program)(tt:List (Nat×TI)):Prop:= ∀t s E B,Q0 tt t=some ⟨.l s,.sl E,B⟩-> ∃ti,Q0 tt E=some ti/\ti.ty=s
def Fl.ok(t:Ty)(f:Fl t.D):Prop:= ∀z:t.D,Sub t.rep.c z f.off f.f.rep (f.get z) (fun y=>f.set y z)
def zd1(f:FuncId)(c:List PD)(v:Value):FF where
 p S w:= ∃cs:List Value,v= .func (.func f) #[] cs.toArray/\cs.length=c.length/\zz S (CC c cs) w
 keep:=by rintro S w w' ⟨cs,h1,h2,h3⟩ k;exact⟨cs,h1,h2,zz.keep k h3⟩
 sub:=by rintro S S' w ⟨cs,h1,h2,h3⟩ k;exact⟨cs,h1,h2,zz.sub k h3⟩
def Dc(v0:Value)(lo n:Nat)(v:Value):Prop:=(∃b m cap,v0= .slice (some ⟨b,0,none⟩) m cap/\lo+n<=m/\m<=cap/\cap<=9223372036854775807/\v= .slice (if cap=lo then some ⟨b,0,none⟩else some ⟨b,0+lo*1,none⟩) n (cap-lo))\/(v0= .slice none 0 0/\lo=0/\n=0/\v= .slice none 0 0)
theorem Dc.old{v0 v:Value}{lo n:Nat}(h:Dc v0 lo n v):(∃b m cap c,v0= .slice (some ⟨b,0,none⟩) m cap/\lo+n<=m/\n<=c/\c<=9223372036854775807/\v= .slice (some ⟨b,0+lo*1,none⟩) n c)\/(n=0/\ ∃ao c,c<=9223372036854775807/\v= .slice ao 0 c):=by
 rcases h with⟨b,m,cap,h1,h2,h3,h4,h5⟩|⟨h1,h2,h3,h4⟩
 ·by_cases hc:cap=lo
  ·rw[iq hc]at h5;obtain rfl:n=0:=by omega
   exact .inr ⟨rfl,_,cap-lo,by omega,h5⟩
  ·rw[ir hc]at h5;exact .inl ⟨b,m,cap,cap-lo,h1,h2,by omega,by omega,h5⟩
 ·exact .inr ⟨h3,none,0,by omega,by rw[h4]⟩
theorem Dc.same{v0 v0' v:Value}{lo n m:Nat}(h:Dc v0 lo n v)(h':Dc v0' lo n v)(hl: ∀a k c,v0= .slice a k c->a.isSome=true->k=m)(ha: ∀a k c,v0'= .slice a k c->a.isSome=true->k=m):v0=v0':=by
 rcases h with⟨b,k,cap,h1,h2,h3,h4,h5⟩|⟨h1,h2,h3,h4⟩<;>rcases h' with⟨b',k',cap',q1,q2,q3,q4,q5⟩|⟨q1,q2,q3,q4⟩
 ·have e1:=hl _ _ _ h1 rfl;have e2:=ha _ _ _ q1 rfl;subst e1 e2;rw[h5]at q5;simp only[Value.slice.injEq,true_and]at q5;obtain⟨q6,q7⟩:=q5;obtain rfl:cap=cap':=by omega
  have hb:b=b':=by
   by_cases hc:cap=lo
   ·rw[iq hc,iq hc]at q6;simpa using q6
   ·rw[ir hc,ir hc]at q6;simpa using q6
  rw[h1,q1,hb]
 ·rw[h5]at q4;exfalso;simp only[Value.slice.injEq]at q4;by_cases hc:cap=lo
  ·rw[iq hc]at q4;cases q4.1
  ·rw[ir hc]at q4;cases q4.1
 ·rw[h4]at q5;exfalso;simp only[Value.slice.injEq]at q5;by_cases hc:cap'=lo
  ·rw[iq hc]at q5;cases q5.1
  ·rw[ir hc]at q5;cases q5.1
 ·rw[h1,q1]
def va(P:Program)(vs:Nat->Value):Dv->Value->FF
 | .d t x,v=>fV t.rep x v
 | .q t x,v=>fP t.rep x v
 | .kb b,v=>n4 (v= .bool b)
 | .un,v=>n4 (v=undef)
 | .nil,v=>n4 (v= .slice none 0 0)
 | .ow o,v=>n4 (v=vs o)
 | .ep o t j f,v=>n4 (Fl.ok t f/\ ∃b n cap,vs o= .slice (some ⟨b,0,none⟩) n cap/\j<n/\v= .pointer (some ⟨b,0+j*t.rep.n+f.off,none⟩))
 | .sv o t lo n,v=>n4 ((∃b m cap c,vs o= .slice (some ⟨b,0,none⟩) m cap/\lo+n<=m/\n<=c/\c<=9223372036854775807/\v= .slice (some ⟨b,0+lo*t.rep.n,none⟩) n c)\/(n=0/\ ∃ao c,c<=9223372036854775807/\v= .slice ao 0 c))
 | .vs o t,v=>n4 (v=vs o/\ ∃b,vs o= .pointer (some ⟨b,0,none⟩))
 | .vp o t f,v=>n4 (Fl.ok t f/\ ∃b,vs o= .pointer (some ⟨b,0,none⟩)/\v= .pointer (some ⟨b,0+f.off,none⟩))
 | .fn f c,v=>zd1 f c v
 | .fp dom cod g,v=>fnF P dom cod g v
 | .pin u,v=>n4 (v=u)
 | .mw o,v=>n4 (v=yY (vs o))
 | .mv o lo n,v=>n4 (Dc (yY (vs o)) lo n v)
 | .hp o j,v=>n4 (∃b n cap,yY (vs o)= .slice (some ⟨b,0,none⟩) n cap/\j<n/\v= .pointer (some ⟨b,0+j*1,none⟩))
 | .rw o r,v=>n4 ((w4 (vs o))[r]? =some v)
 | .rp o t r j f,v=>n4 (Fl.ok t f/\ ∃b n cap,(w4 (vs o))[r]? =some (.slice (some ⟨b,0,none⟩) n cap)/\j<n/\v= .pointer (some ⟨b,0+j*t.rep.n+f.off,none⟩))
 | .yd o,v=>n4 (v= .func (.yield (lOf (yY (vs o)))) #[] #[])
def xF(P:Program)(vs:Nat->Value)(d:Dv)(v:Value)(i:Nat):FF where
 p S w:=match i with
  |0=>(va P vs d v).p S w
  |i+1=> ∃us u,v= .tuple us/\us[i]? =some u/\(va P vs d u).p S w
 keep:=by
  intro S w w' h k
  cases i with
  |zero=>exact(va P vs d v).keep h k
  |succ i=>obtain⟨us,u,h1,h2,h3⟩:=h;exact⟨us,u,h1,h2,(va P vs d u).keep h3 k⟩
 sub:=by
  intro S S' w h k
  cases i with
  |zero=>exact(va P vs d v).sub h k
  |succ i=>obtain⟨us,u,h1,h2,h3⟩:=h;exact⟨us,u,h1,h2,(va P vs d u).sub h3 k⟩
def VO(vs:Nat->Value)(e:Nat×Od):MF:=match e.2 with
 | .own t E xs=>mO t.rep E (vs e.1) xs
 | .var t E z=>mP t.rep.c E (vs e.1) z
 | .mat t E E1 xss ix=>fQ t.rep E E1 (vs e.1) xss ix
 | .bo t E E0 xs=>mBo t.rep E E0 (vs e.1) xs
 | .ho E0=>mHo E0 (vs e.1)
 | .hid t E X Y mX mY g x=>FH [mPr (Ek Tryz.prog (lOf (yY (vs e.1))) t.rep E mX mY g),mX x ((w4 (vs e.1)).headD undef)]
 | .hiy Y mY y=>mY y ((w4 (vs e.1)).headD undef)
def MS(vs:Nat->Value)(ob:List (Nat×Od)):List MF:=ob.map (VO vs)
def RS(P:Program)(vs:Nat->Value)(env:yM)(rg:List (Nat×Nat×Dv)):List FF:=rg.map fun e=>xF P vs e.2.2 (env e.1) e.2.1
structure Fr where
 we:World
 Se:Nat->Prop
 F:List MF
 G:List FF
structure Bd(cx σ:Sg):Prop where
 o1: ∀e∈σ.ob,e.1<σ.nx
 o2: ∀e∈cx.ob,e.1<σ.nx
 r1: ∀e∈σ.rg,∀o,xZ e.2.2=some o->o<σ.nx
 r2: ∀e∈cx.rg,∀o,xZ e.2.2=some o->o<σ.nx
def uH(P:Program)(fr:Fr)(cx σ:Sg)(env:yM)(w:World):Prop:=
 Bd cx σ/\ ∃vs:Nat->Value,St fr.we fr.Se (MS vs σ.ob++(MS vs cx.ob++fr.F)) (RS P vs env σ.rg++(RS P vs env cx.rg++fr.G)) w
section
variable{P:Program}{vs vs':Nat->Value}{env env':yM}
theorem bn{d:Dv}(h: ∀o,xZ d=some o->vs' o=vs o)(v:Value):va P vs' d v=va P vs d v:=by
 cases d<;>simp only[va]<;>simp only[xZ,xaw,forall_eq']at h<;>rw[h]
theorem xX: ∀{ob:List (Nat×Od)},(∀e∈ob,vs' e.1=vs e.1)->MS vs' ob=MS vs ob
 |[],_=>rfl
 |(o,x)::r,h=>by
  have h1:=h (o,x) (FS);have h2:=xX (ob:=r) fun e he=>h e (H1 _ he);show VO vs' (o,x)::MS vs' r=VO vs (o,x)::MS vs r;rw[h2];cases x<;>simp only[VO]<;>rw[h1]
theorem qo: ∀{rg:List (Nat×Nat×Dv)},(∀e∈rg,∀o,xZ e.2.2=some o->vs' o=vs o)->(∀e∈rg,env' e.1=env e.1)->RS P vs' env' rg=RS P vs env rg
 |[],_,_=>rfl
 |(t,i,d)::r,h,h'=>by
  show xF P vs' d (env' t) i::RS P vs' env' r=xF P vs d (env t) i::RS P vs env r;rw[qo (rg:=r) (fun e he=>h e (H1 _ he)) (fun e he=>h' e (H1 _ he)),h' (t,i,d) (FS)];congr 1;unfold xF;simp only[bn (P:=P) (h (t,i,d) (FS))]
theorem qM{S:Nat->Prop}{w:World}: ∀{Γ:List FF},zz S Γ w↔ ∀f∈Γ,f.p S w
 |[]=>⟨fun _ f h=>absurd h Nm,fun _=>trivial⟩
 |f::r=>by
  have ih:=qM (S:=S) (w:=w) (Γ:=r);constructor
  ·intro h x hx;rcases xad.1 hx with rfl|hx
   ·exact h.1
   ·exact ih.1 h.2 x hx
  ·intro h;exact⟨h f (FS),ih.2 fun x hx=>h x (H1 _ hx)⟩
theorem z8{a b:Nat}(h:xan a b=true):a=b:=xcH h
theorem cc: ∀{rg:List (Nat×Nat×Dv)} {t i:Nat} {d:Dv},aE rg t i=some d->(t,i,d)∈rg
 |(t',i',d')::r,t,i,d,h=>by
  unfold aE at h;cases hb:xan t' t && xan i' i
  ·rw[hb]at h;exact H1 _ (cc h)
  ·rw[hb]at h;simp only[cond_true,xaw]at h;rw[xam]at hb;rw[<-h,z8 hb.1,z8 hb.2];exact FS
theorem QF{S:Nat->Prop}{w:World}{rg:List (Nat×Nat×Dv)}(h:zz S (RS P vs env rg) w){t i:Nat}{d:Dv}(hd:(t,i,d)∈rg):(xF P vs d (env t) i).p S w:=
 qM.1 h _ (xal.2 ⟨(t,i,d),hd,rfl⟩)
theorem x8: ∀{ob:List (Nat×Od)} {o:Nat} {x:Od},xG ob o=some x-> ∃i,ob[i]? =some (o,x)/\(∀y,ke ob o y=ob.set i (o,y))/\yD ob o=ob.eraseIdx i
 |(o',x')::r,o,x,h=>by
  unfold xG at h;cases hb:xan o' o
  ·rw[hb]at h;obtain⟨i,h1,h2,h3⟩:=x8 (ob:=r) h;exact⟨i+1,by simpa using h1,fun y=>by unfold ke;rw[hb];simp only[cond_false,List.set_cons_succ,h2 y],by unfold yD;rw[hb];simp only[cond_false,List.eraseIdx_cons_succ,h3]⟩
  ·rw[hb]at h;simp only[cond_true,xaw]at h;have:=z8 hb;subst h;subst this;exact⟨0,rfl,fun y=>by unfold ke;rw[hb];rfl,by unfold yD;rw[hb];rfl⟩
theorem Wz{ob:List (Nat×Od)}{i:Nat}{e:Nat×Od}{R:List MF}(h:ob[i]? =some e):(MS vs ob++R)[i]? =some (VO vs e):=by
 have hi:=(xar.1 h).1;rw[xbn (by simpa[MS]using hi),MS,xaA,h];rfl
theorem nH{ob:List (Nat×Od)}{i:Nat}{e e':Nat×Od}{R:List MF}(h:ob[i]? =some e):(MS vs ob++R).set i (VO vs e')=MS vs (ob.set i e')++R:=by
 have hi:=(xar.1 h).1;rw[List.set_append_left _ _ (by simpa[MS]using hi),MS,MS,List.map_set]
theorem R0{α:Type _}{β:Type _}(f:α->β): ∀(l:List α) (i:Nat),(l.eraseIdx i).map f=(l.map f).eraseIdx i
 |[],i=>by simp
 |_::_,0=>rfl
 |a::l,i+1=>by simp only[List.eraseIdx_cons_succ,xbP,R0 f l i]
theorem KC{ob:List (Nat×Od)}{i:Nat}{e:Nat×Od}{R:List MF}(h:ob[i]? =some e):(MS vs ob++R).eraseIdx i=MS vs (ob.eraseIdx i)++R:=by
 have hi:=(xar.1 h).1;rw[List.eraseIdx_append_of_lt_length (by simpa[MS]using hi),MS,MS,R0]
theorem zaA{cx σ:Sg}{o:Nat}{x:Od}(h:Qw cx σ o=some x):(o,x)∈σ.ob\/(o,x)∈cx.ob:=by
 unfold Qw at h;split at h
 ·next d hd=>
  cases h;obtain⟨i,h1,_⟩:=x8 hd;exact .inl (xbr h1)
 ·obtain⟨i,h1,_⟩:=x8 h;exact .inr (xbr h1)
theorem Bn{cx σ:Sg}{t i:Nat}{d:Dv}(h:get cx σ t i=some d):(t,i,d)∈σ.rg\/(t,i,d)∈cx.rg:=by
 unfold get at h;split at h
 ·next d' hd=>cases h;exact .inl (cc hd)
 ·exact .inr (cc h)
theorem ux{S:Nat->Prop}{w:World}{cx σ:Sg}{o:Nat}{x:Od}{F:List MF}(hM:yv S (MS vs σ.ob++(MS vs cx.ob++F)) w)(h:Qw cx σ o=some x):(VO vs (o,x)).p S w:=by
 refine kR.1 hM _ ?_;rcases zaA h with h|h
 ·exact xaa.2 (.inl (xal.2 ⟨_,h,rfl⟩))
 ·exact xaa.2 (.inr (xaa.2 (.inl (xal.2 ⟨_,h,rfl⟩))))
end
theorem yi{R:Type}{s t:Ty}{x:s.D}{k:t.D->Option R}{r:R}(h:Ty.cast s t x k=some r): ∃e:s=t,k (e▸x)=some r:=by
 unfold Ty.cast at h;split at h
 ·next e _=>exact⟨e,h⟩
 ·cases h
theorem yh{R:Type}{b:Bool}{x:Option R}{r:R}(h:kt b x=some r):b=true/\x=some r:=by
 cases b
 ·cases h
 ·exact⟨rfl,h⟩
end
section
open Go.ChangeShapes Go.WideShapes Go.ChangeAt Go.RowKit
def YI(P:Program):Ty->TypeId->Prop
 | .i,T=>P.underlying T=some (.int .i64)
 | .u,T=>P.underlying T=some (.int .u64)
 | .b,T=>P.underlying T=some .bool
 | .l t,T=> ∃E,P.underlying T=some (.slice E)/\P.cellsOf E=t.n/\0<t.n/\YI P t E
 | .p s t,T=> ∃f0 f1:Field,P.underlying T=some (.struct #[f0,f1])/\P.cellsOf T=s.n+t.n/\f0.offset=0/\f1.offset=s.n/\P.cellsOf f0.type=s.n/\P.cellsOf f1.type=t.n/\YI P s f0.type/\YI P t f1.type
 | .ch,T=>P.underlying T=some (.int .u8)
 | .tx,T=>P.underlying T=some .string
 | .a _ _,_=>False
def zgI(P:Program)(T:TypeId):Option ((Nat×TypeId)×(Nat×TypeId)):=match P.underlying T with
 |some (.struct fs)=>match fs.toList with
  |[f0,f1]=>some ((f0.offset,f0.type),(f1.offset,f1.type))
  |_=>none
 |_=>none
theorem YI.st{P:Program}{s t:Ty}{T A B:TypeId}(h:zgI P T=some ((0,A),(s.n,B)))(hc:P.cellsOf T=s.n+t.n)(ha:P.cellsOf A=s.n)(hb:P.cellsOf B=t.n)(h1:YI P s A)(h2:YI P t B):YI P (.p s t) T:=by
 unfold zgI at h;split at h
 ·next fs hu=>
  split at h
  ·next f0 f1 hf=>
   simp only[xaw,xct]at h;obtain⟨⟨a1,a2⟩,a3,a4⟩:=h;have:fs= #[f0,f1]:=by cases fs;simp_all
   subst this;exact⟨f0,f1,hu,hc,a1,a3,by rw[a2];exact ha,by rw[a4];exact hb,by rw[a2];exact h1,by rw[a4];exact h2⟩
  ·cases h
 ·cases h
theorem YI.sl{P:Program}{t:Ty}{T E:TypeId}(h:P.underlying T=some (.slice E))(hc:P.cellsOf E=t.n)(hp:0<t.n)(h1:YI P t E):YI P (.l t) T:=⟨E,h,hc,hp,h1⟩
theorem te{w:World}{base n:Nat}{a:Addr}{c:List Value}(h:w.cells? base a n=some c):c.length=n/\ ∀i v,c[i]? =some v->w.cell? (a.add i)=some v:=by
 unfold World.cells? at h;split at h
 ·have: ∀(l:List Nat) (c:List Value),l.mapM (fun i=>w.cell? (a.add i))=some c->c.length=l.length/\ ∀(i j:Nat) (v:Value),c[i]? =some v->l[i]? =some j->w.cell? (a.add j)=some v:=by
   intro l
   induction l with
   |nil=>intro c hc;simp at hc;subst hc;exact⟨rfl,fun i j v hv=>by simp at hv⟩
   |cons x l ih=>
    intro c hc;rw[List.mapM_cons]at hc
    cases hx:w.cell? (a.add x)with
    |none=>rw[hx]at hc;simp at hc
    |some y=>
     rw[hx]at hc
     cases hl:l.mapM (fun i=>w.cell? (a.add i))with
     |none=>rw[hl]at hc;simp at hc
     |some r=>
      rw[hl]at hc;have hc:y::r=c:=by simpa using hc
      subst hc;obtain⟨h1,h2⟩:=ih r hl;refine⟨by simp[h1],fun i j v hv hj=> ?_⟩
      cases i with
      |zero=>simp at hv hj;subst hv;subst hj;exact hx
      |succ i=>exact h2 i j v (by simpa using hv) (by simpa using hj)
  obtain⟨h1,h2⟩:=this _ _ h;refine⟨by simpa using h1,fun i v hv=>h2 i i v hv ?_⟩;have:=(xar.1 hv).1;rw[xbg (by rw[h1]at this;simpa using this)]
 ·cases h
theorem N0{w:World}{a:Addr}{v:Value}(h:w.cell? a=some v):a=⟨a.block,a.off,none⟩/\a.block<w.heap.size:=by
 unfold World.cell? at h;split at h
 ·next c _ _ hb=>
  split at h
  ·cases h
  ·next hs=>
   refine⟨?_,(xbj.1 hb).1⟩;obtain⟨b,o,s⟩:=a
   cases s with
   |none=>rfl
   |some x=>simp at hs
 ·cases h
theorem zdP(a:Addr):a.add 0=a:=by
 unfold Addr.add;obtain⟨b,o,s⟩:=a;cases s<;>simp
section
variable{H:Type}{enc:TypeId×Value->H}{P:Program}{W:World}{sp:Nat->Bool}{held:Bool}
theorem E3{t:Ty}{b o:Nat}(hb:b<W.heap.size): ∀(len:Nat),(∀i,i<len-> ∃(c:List Value) (z:t.D),W.cells? 0 (⟨b,o+i*t.n,none⟩:Addr) t.n=some c/\t.rep.p (fun _=>True) z c W)->
 ∃(xs:List t.D) (cs:List Value),xs.length=len/\At W b o cs/\yr t.rep (fun _=>True) xs cs W
 |0,_=>⟨[],[],rfl,⟨hb,fun j v hv=>by simp at hv⟩,rfl⟩
 |len+1,h=>by
  obtain⟨xs,cs,h1,h2,h3⟩:=E3 hb len fun i hi=>h i (by omega);obtain⟨c,z,h4,h5⟩:=h len (by omega);obtain⟨h6,h7⟩:=te h4;have hl:=h3.len;rw[h1,Ty.n_rep]at hl;refine⟨xs++[z],cs++c,by simp[h1],⟨hb,fun j v hv=> ?_⟩,h3.append ⟨c,[],by simp,h5,rfl⟩⟩;rcases xch j cs.length with hj|hj
  ·rw[xbn hj]at hv;exact h2.2 j v hv
  ·rw[xci hj]at hv;have:=h7 _ v hv;rw[vP]at this;rw[<-this];congr 2;omega
theorem cD: ∀(t:Ty) {T:TypeId} {n:Nat} {cs:List Value} {x:DataW H×List MemPlace},YI P t T->DataW.trod enc P W 0 sp held n T cs=some x-> ∃z:t.D,t.rep.p (fun _=>True) z cs W
 | .i,T,n,cs,x,ht,h=>by
  obtain⟨v,rfl,_,hw⟩:=DataW.trod_int ht h;have: -9223372036854775808<=v/\v<=9223372036854775807:=by simpa[Lit.wf,IntKind.min,IntKind.max,xdQ,xeo]using hw
  exact⟨v,rfl,this.1,this.2⟩
 | .u,T,n,cs,x,ht,h=>by
  obtain⟨v,rfl,_,hw⟩:=DataW.trod_int ht h;have:0<=v/\v<=18446744073709551615:=by simpa[Lit.wf,IntKind.min,IntKind.max,xdQ,xeo]using hw
  obtain⟨k,rfl⟩:=xaB this.1;exact⟨k,rfl,by omega⟩
 | .ch,T,n,cs,x,ht,h=>by
  obtain⟨v,rfl,_,hw⟩:=DataW.trod_int ht h;have:0<=v/\v<=255:=by simpa[Lit.wf,IntKind.min,IntKind.max,xdQ,xeo]using hw
  obtain⟨k,rfl⟩:=xaB this.1;exact⟨k,rfl,by omega⟩
 | .tx,T,n,cs,x,ht,h=>by
  obtain⟨s,rfl,_,hs⟩:=DataW.trod_string ht h;exact⟨yK s,s,rfl,rfl,hs⟩
 | .b,T,n,cs,x,ht,h=>by
  obtain⟨v,rfl,_⟩:=DataW.trod_bool ht h;exact⟨v,rfl⟩
 | .l t,T,n,cs,x,ht,h=>by
  obtain⟨E,hu,hc,hf,hE⟩:=ht;rcases DataW.trod_slice hu h with⟨rfl,_⟩|⟨a,len,cap,elems,rest,m,_,rfl,_,_,hj,hd,hg,he,_,_⟩
  ·exact⟨[],_,rfl,Oy.nil⟩
  ·rw[hc]at he;have key: ∀i,i<len-> ∃(c:List Value) (z:t.D),W.cells? 0 (a.add (i*t.n)) t.n=some c/\t.rep.p (fun _=>True) z c W:=by
    intro i hi;have h1:=he i hi;rw[IR (by omega)]at h1;obtain⟨c,h2,h3⟩:=Option.bind_eq_some_iff.1 h1;obtain⟨z,hz⟩:=cD t hE h3;exact⟨c,z,h2,hz⟩
   rcases xcL len with h0|h0
   ·subst h0;exact⟨[],_,rfl,some a,cap,rfl,xaj _,hd,.inl rfl⟩
   ·obtain⟨c,z,h1,h2⟩:=key 0 h0;obtain⟨h3,h4⟩:=te h1;have h5:=h4 0 (c[0]'(by omega)) (IR (by omega));rw[xcI,zdP,zdP]at h5;obtain⟨ha,hb⟩:=N0 h5;rw[ha]at key;obtain⟨xs,cs,g1,g2,g3⟩:=E3 (t:=t) (b:=a.block) (o:=a.off) hb len fun i hi=>by
     have:=key i hi;rw[vP]at this;exact this
    refine⟨xs,_,rfl,some a,cap,by rw[g1],by omega,hd,.inr ⟨a.block,a.off,cs,by rw[<-ha],trivial,g2,g3⟩⟩
 | .p s t,T,n,cs,x,ht,h=>by
  obtain⟨f0,f1,hu,hc,o0,o1,c0,c1,h0,h1⟩:=ht;obtain⟨y0,y1,m,_,hl,g0,g1⟩:=trod_struct2 hu h;rw[o0,c0,List.drop_zero]at g0;rw[o1,c1]at g1;obtain⟨z0,k0⟩:=cD s h0 g0;obtain⟨z1,k1⟩:=cD t h1 g1;refine⟨(z0,z1),cs.take s.n,(cs.drop s.n).take t.n,?_,k0,k1⟩;rw[hc]at hl;have e:(cs.drop s.n).take t.n=cs.drop s.n:=xaX (by simp;omega);rw[e,xbR]
 | .a _ _,_,_,_,_,ht,_=>ht.elim
theorem OY{t:Ty}{T:TypeId}{v:Value}{d:DataW H}{ps:List MemPlace}(ht:YI P t T)(hv:v=t.rep.val v.cells.toList)(h:DataW.Trod enc P W 0 sp held T v d ps): ∃z:t.D,(fV t.rep z v).p (fun _=>True) W:=by
 obtain⟨n,h⟩:=h;obtain⟨z,hz⟩:=cD t ht h;exact⟨z,_,hv,hz⟩
end
theorem SU{P:Program}{s:W1}(h:y5 P s)(hk:s.bk=0)(hc:s.cod=[.d .b])(x:JW s.dom)(hM:s.M x=some (hc▸true:aX s.cod)){vs:List Value}(hl:vs.length=s.dom.length)(ha:YM s.dom x vs=[]){W:World}(hΓ:zz (fun _=>True) (kE P s.dom x vs) W):
 Calls P s.f vs.toArray W fun e W'=>e= .returned (.bool true)/\VK W W':=by
 obtain⟨f,dom,cod,M,bk⟩:=s;simp only at hc hk;subst hc;subst hk;have h1:=h.2 x true hM vs hl W (fun _=>True) [] [] W;simp only[ha,xbE,xbK]at h1;refine(h1 ⟨yp.refl _ _,fun _ _=>trivial,trivial,fun _=>True,fun _ _=>trivial,fun _ _=>trivial,fun m hm=>absurd hm Nm,trivial,hΓ⟩).mono ?_;rintro e w' ⟨us,he,hb,hs⟩;obtain⟨hx,_,_,S,_,_,_,_,hf⟩:=hs;refine⟨?_,hx⟩
 match us,hb with
 |[u],_=>
  have:u= .bool true:=bK (show(fV Dy true u).p S w' from hf.1);rw[he,this];rfl
end
section
open Go.ChangeShapes Go.WideShapes Go.ChangeAt Go.RowKit
section
variable{H:Type}{enc:TypeId×Value->H}{P:Program}{W:World}{sp:Nat->Bool}{held:Bool}
theorem zeB{r:Reach}{b0:Nat}: ∀(t:Ty) {T:TypeId} {v:Value},YI P t T->xea P W r b0 T v->v=t.rep.val v.cells.toList
 | .i,T,v,ht,h=>by obtain⟨n,rfl⟩:=okWide_int ht h;rfl
 | .u,T,v,ht,h=>by obtain⟨n,rfl⟩:=okWide_int ht h;rfl
 | .ch,T,v,ht,h=>by obtain⟨n,rfl⟩:=okWide_int ht h;rfl
 | .tx,T,v,ht,h=>by
  have ht:P.underlying T=some .string:=ht;simp only[xea,ht,Cell.okWide]at h;unfold Cell.ok at h;rw[ht]at h;cases v<;>simp at h;rfl
 | .b,T,v,ht,h=>by
  have ht:P.underlying T=some .bool:=ht;simp only[xea,ht,Cell.okWide]at h;unfold Cell.ok at h;rw[ht]at h;cases v<;>simp at h;rfl
 | .l t,T,v,ht,h=>by
  obtain⟨E,ht,_⟩:=ht;simp only[xea,ht,Cell.okWide]at h;unfold Cell.ok at h;rw[ht]at h;cases v<;>simp at h;rfl
 | .p s t,T,v,ht,h=>by
  obtain⟨f0,f1,ht,_⟩:=ht;simp only[xea,ht]at h;obtain⟨cs,rfl,_⟩:=h;show Value.agg cs=Value.agg cs.toList.toArray;simp
 | .a _ _,T,v,ht,_=>ht.elim
theorem SV{r:Reach}{b0:Nat}{t:Ty}{T:TypeId}{v:Value}{d:DataW H}{ps:List MemPlace}(ht:YI P t T)(hv:xea P W r b0 T v)(h:DataW.Trod enc P W 0 sp held T v d ps): ∃z:t.D,(fV t.rep z v).p (fun _=>True) W:=
 OY ht (zeB t ht hv) h
def Ty.ok:(t:Ty)->t.D->Prop
 | .i,(x:Int)=> -9223372036854775808<=x/\x<=9223372036854775807
 | .u,(x:Nat)=>x<18446744073709551616
 | .b,_=>True
 | .ch,(x:Nat)=>x<256
 | .tx,xs=>xaF xs<=9223372036854775807/\ ∀x,List.Mem x xs->x<256
 | .l t,xs=>xaF xs<=9223372036854775807/\ ∀x,List.Mem x xs->t.ok x
 | .p s t,x=>s.ok x.1/\t.ok x.2
 | .a _ t,xs=> ∀x,List.Mem x xs->t.ok x
theorem lU{α:Type}{e:zV α}{S:Nat->Prop}{w:World}{q:α->Prop}(hq: ∀x cs,e.p S x cs w->q x): ∀{xs:List α} {cs:List Value},yr e S xs cs w-> ∀x,List.Mem x xs->q x
 |[],_,_,x,hx=>nomatch hx
 |y::ys,_,⟨c,r,_,hc,hr⟩,x,hx=>by
  cases hx with
  |head=>exact hq _ _ hc
  |tail _ hx=>exact lU hq hr x hx
theorem oo: ∀(t:Ty) {S:Nat->Prop} {z:t.D} {cs:List Value} {w:World},t.rep.p S z cs w->t.ok z
 | .i,_,_,_,_,h=>h.2
 | .u,_,_,_,_,h=>h.2
 | .b,_,_,_,_,_=>trivial
 | .ch,_,_,_,_,h=>h.2
 | .tx,_,xs,_,_,h=>by
  obtain⟨s,_,h1,h2⟩:=h;have h3:=vV s;have h1:yK s=xs:=h1;refine⟨by show xaF (α:=Nat) xs<=_;rw[<-h1,h3];exact h2,fun x hx=> ?_⟩;have hx:x∈yK s:=by rw[h1];exact hx
  obtain⟨b,_,rfl⟩:=xal.1 hx;exact UInt8.toNat_lt _
 | .l t,S,xs,_,w,h=>by
  obtain⟨v,_,ao,cap,_,h1,h2,h3⟩:=h;refine⟨xao h1 h2,?_⟩;rcases h3 with h3|⟨b,o,cs,_,_,_,h4⟩
  ·have h3:xs=([]:List t.D):=h3;subst h3;exact fun x hx=>nomatch hx
  ·exact lU (fun x cs hx=>oo t hx) h4
 | .p s t,S,z,_,w,h=>by
  obtain⟨c,d,_,h1,h2⟩:=h;exact⟨oo s h1,oo t h2⟩
 | .a k t,S,xs,_,w,h=>by
  obtain⟨_,h⟩:=h;exact lU (fun x cs hx=>oo t hx) h
def SS:(dom:List AM)->JW dom->Prop
 |[],_=>True
 | .d t::r,x=>t.ok x.1/\SS r x.2
 |_::r,x=>SS r x.2
def EE(P:Program):List AM->List TypeId->Prop
 |[],[]=>True
 | .d t::r,T::Ts=>YI P t T/\EE P r Ts
 |_,_=>False
theorem MC: ∀{dom:List AM} {Ts:List TypeId},EE P dom Ts->dom.length=Ts.length
 |[],[],_=>rfl
 | .d t::r,T::Ts,h=>by simp[MC h.2]
 | .d _::_,[],h=>h.elim
 |[],_::_,h=>h.elim
 | .q _::_,_,h=>h.elim
 | .own _ _::_,_,h=>h.elim
 | .fn _ _::_,_,h=>h.elim
theorem zaB: ∀{dom:List AM} {Ts:List TypeId},EE P dom Ts-> ∀(x:JW dom) (vs:List Value),YM dom x vs=[]
 |[],_,_,_,_=>rfl
 | .d t::r,T::Ts,h,x,vs=>by show[]++YM r x.2 vs.tail=[];rw[zaB h.2];rfl
 | .d _::_,[],h,_,_=>h.elim
 | .q _::_,_,h,_,_=>h.elim
 | .own _ _::_,_,h,_,_=>h.elim
 | .fn _ _::_,_,h,_,_=>h.elim
theorem Af{r:Reach}{b0:Nat}: ∀{dom:List AM} {Ts:List TypeId} {vs:List Value} {ds:List (DataW H)} {ps:List MemPlace},EE P dom Ts->(∀(j:Nat) t v,Ts[j]? =some t->vs[j]? =some v->xea P W r b0 t v)->xex enc P W 0 sp held Ts vs ds ps->
 vs.length=Ts.length/\ ∃x:JW dom,SS dom x/\zz (fun _=>True) (kE P dom x vs) W
 |[],[],[],[],_,_,_,_=>⟨rfl,(),trivial,trivial⟩
 | .d t::dom,T::Ts,v::vs,d::ds,ps,h,hv,ha=>by
  obtain⟨p,q,h1,h2,_⟩:=ha;obtain⟨hl,x,hc,hx⟩:=Af (vs:=vs) (ds:=ds) h.2 (fun j t' v' ht hd=>hv (j+1) t' v' (by simpa using ht) (by simpa using hd)) h2;obtain⟨z,hz⟩:=SV h.1 (hv 0 T v rfl rfl) h1;obtain⟨cs,he,hb⟩:=hz;exact⟨by simp[hl],(z,x),⟨oo t hb,hc⟩,⟨cs,he,hb⟩,hx⟩
 |[],[],_::_,_,_,_,_,h=>h.elim
 |[],[],[],_::_,_,_,_,h=>h.elim
 | .d _::_,_::_,[],_,_,_,_,h=>h.elim
 | .d _::_,_::_,_::_,[],_,_,_,h=>h.elim
 | .d _::_,[],_,_,_,h,_,_=>h.elim
 |[],_::_,_,_,_,h,_,_=>h.elim
 | .q _::_,_,_,_,_,h,_,_=>h.elim
 | .own _ _::_,_,_,_,_,h,_,_=>h.elim
 | .fn _ _::_,_,_,_,_,h,_,_=>h.elim
theorem TU{W':World}(hx:VK W W'){p:MemPlace}(hp:p.block<W.heap.size):W.sameAt W' p:=by
 cases p with
 |cell b off=>exact World.cell?_of_block (a:=⟨b,off,none⟩) (hx.block b hp trivial)
 |map b=>exact hx.block b hp trivial
theorem UF{W':World}{sp':Nat->Bool}(hl:laidOutB P=true): ∀{Ts:List TypeId} {vs:List Value} {ds:List (DataW H)} {ps:List MemPlace},(∀t∈Ts,P.readableRec t=true/\t<P.types.size)->xex enc P W 0 (fun _=>true) true Ts vs ds ps->
 (∀p∈ps,W.sameAt W' p)->(∀p∈ps,sp' p.block=true)->xex enc P W' 0 sp' true Ts vs ds ps
 |[],[],[],_,_,h,_,_=>h
 |T::Ts,v::vs,d::ds,ps,hr,h,h1,h2=>by
  obtain⟨p,q,g1,g2,rfl⟩:=h;have hT:=hr T (FS)
  exact⟨p,q,Go.WideElems.Trod_stays hl hT.1 hT.2 g1 (fun x hx=>h1 x (xaa.2 (.inl hx))) (fun x hx=>h2 x (xaa.2 (.inl hx))),
   UF hl (fun t ht=>hr t (H1 _ ht)) g2 (fun x hx=>h1 x (xaa.2 (.inr hx))) (fun x hx=>h2 x (xaa.2 (.inr hx))),rfl⟩
 |[],[],_::_,_,_,h,_,_=>h.elim
 |[],_::_,_,_,_,h,_,_=>h.elim
 |_::_,[],_,_,_,h,_,_=>h.elim
 |_::_,_::_,[],_,_,h,_,_=>h.elim
end
theorem zb7{H:Type}{enc:TypeId×Value->H}{P:Program}{f:Func}{s:ChangeSpec}{apart fresh ha:Bool}{W:World}{base:Nat}{args:Array Value}{ds gs:List (DataW H)}{before:List MemPlace}{sg:W1}
 (hW:DataW.Whole enc P f.params.toList s.vars apart W args.toList ds gs before) (hb:s.vars=[]) (hi: ∀(j:Nat) t v,f.params[j]? =some t->args[j]? =some v->xea P W .any base t v)
 (hl:laidOutB P=true) (hr: ∀t∈f.params.toList,P.readableRec t=true/\t<P.types.size) (he:EE P sg.dom f.params.toList) (hc:sg.cod=[.d .b]) (hS:y5 P sg) (hM: ∀x,SS sg.dom x->sg.M x=some (hc▸true:aX sg.cod)) {B:TypeId} (hB:f.resultTypes= #[B]) (hm:P.underlying B=some .bool)
 (hg:s.fn H (ds++gs)={results:=[.lit (.bool true)],args:=ds}) (hk:sg.bk=0:=by rfl):
 Calls P sg.f args W fun e W'=> ∃v,e= .returned v/\s.post enc P f apart fresh ha false W args v W':=by
 obtain⟨p,q,hA,hV,hn,hw,hy⟩:=id hW;rw[hb]at hV
 cases gs with
 |cons g gs=>exact hV.elim
 |nil=>
  have hq:q=[]:=hV;subst hq;obtain⟨hj,x,ho,hx⟩:=Af (vs:=args.toList) he (fun j t v ht hv=>hi j t v (by simpa using ht) (by simpa using hv)) hA;refine(SU hS hk hc x (hM x ho) (vs:=args.toList) (by rw[hj,MC he]) (zaB he x _) hx).mono ?_;rintro e W' ⟨rfl,hf⟩;refine⟨_,rfl,zam (pa:=before) (pv:=[]) hW (fun b sp hd=> ?_) (fun sp hs=> ?_) (fun sp _=> ?_) (by simp) hf⟩
  ·rw[hB,hg];exact⟨[],[],shut_bool hm _,rfl,rfl⟩
  ·rw[hg];have hu:xex enc P W 0 (fun _=>true) true f.params.toList args.toList ds before:=by rw[hn,xbK];exact hA
   exact UF hl hr hu (fun p hp=>TU hf (hW.lt p hp)) hs
  ·rw[hb,hg];rfl
end
section
def zhM:Operand->Option Tmp
 | .tmp t=>some t
 |_=>none
def yx(op:Op):List Tmp:=op.operands.toList.filterMap zhM
def Lk(P:Program)(vs:Nat->Value)(env:yM)(S:Nat->Prop)(w:World)(cx σ:Sg)(t:Tmp):Prop:=
 ∀i d,get cx σ t i=some d->(xF P vs d (env t) i).p S w
def ZA(P:Program)(vs:Nat->Value)(env:yM)(S:Nat->Prop)(w:World)(cx σ:Sg)(x:Operand):Prop:= ∀t,zhM x=some t->Lk P vs env S w cx σ t
def ES(P:Program)(o:Oper)(cx σ:Sg)(F:List MF)(l:List (Nat×Dv)):Prop:=
 ∀(env:yM) (w:World) (S:Nat->Prop) (vs:Nat->Value),(∀k,w.heap.size<=k->S k)->yv S (MS vs σ.ob++(MS vs cx.ob++F)) w->(∀t∈yx o.op,Lk P vs env S w cx σ t)->
  jZ P o env w (fun v w'=>VK w w'/\ ∀e∈l,(xF P vs e.2 v e.1).p S w')
section
variable{P:Program}{cf:Cf}{cx σ:Sg}{F:List MF}{vs:Nat->Value}{env:yM}{S:Nat->Prop}{w:World}{R:Type}{r:R}
 {d:Option Tmp} {ty t yt:TypeId} {pos:String} {aft:Array Edge} {g:Option (Nat×Bool)} {x y:Operand}
theorem yG{op:Op}(h: ∀t∈yx op,Lk P vs env S w cx σ t)(hx:x∈op.operands.toList):ZA P vs env S w cx σ x:=
 fun t ht=>h t (xeX.2 ⟨x,hx,ht⟩)
theorem zk{v:Dv}(h:xU cx σ x=some v)(hl:ZA P vs env S w cx σ x):(va P vs v (ev env x)).p S w:=by
 cases x with
 |tmp t=>exact hl t rfl 0 v h
 |const c=>
  simp only[xU]at h;unfold cv at h;split at h
  ·split at h
   ·next hx=>cases h;exact xL hx
   ·cases h
  ·split at h
   ·next x hx=>
    cases h;have:(x.toNat:Int)=x:=xcT hx.1;have h2:x.toNat<18446744073709551616:=by omega
    have:=qm (S:=S) (w:=w) h2;rwa[‹(x.toNat:Int)=x›]at this
   ·cases h
  ·cases h;exact rfl
  ·split at h
   ·next x hx=>
    cases h;have:(x.toNat:Int)=x:=xcT hx.1;have h2:x.toNat<256:=by omega
    have:=tK (S:=S) (w:=w) h2;rwa[‹(x.toNat:Int)=x›]at this
   ·cases h
  ·split at h
   ·next hx=>cases h;exact Ec rfl hx
   ·cases h
  ·cases h;exact rfl
  ·cases h;exact rfl
  ·cases h
 |global g=>cases h
 |func f=>cases h;exact⟨[],rfl,rfl,trivial⟩
theorem sV{v:Dv}{u:Value}{p:PD}(h:zcL v=some p)(hv:(va P vs v u).p S w):(fV p.t.rep p.x u).p S w:=by
 cases v<;>simp only[zcL,xaw,reduceCtorEq]at h
 ·subst h;exact hv
 ·subst h;rw[show u=_ from hv];exact lD
theorem bu{p:PD}(h:pd cx σ x=some p)(hl:ZA P vs env S w cx σ x):(fV p.t.rep p.x (ev env x)).p S w:=by
 unfold pd at h
 cases hv:xU cx σ x with
 |none=>rw[hv]at h;cases h
 |some v=>rw[hv]at h;exact sV h (zk hv hl)
theorem xT{a:Int}(h:pd cx σ x=some ⟨.i,a⟩)(hl:ZA P vs env S w cx σ x):ev env x= .int .i64 a/\VM a:=zfe (bu h hl)
theorem xC{a:Nat}(h:pd cx σ x=some ⟨.u,a⟩)(hl:ZA P vs env S w cx σ x):ev env x= .int .u64 (a:Int)/\QP a:=SK (bu h hl)
theorem YH{a:Nat}(h:pd cx σ x=some ⟨.ch,a⟩)(hl:ZA P vs env S w cx σ x):ev env x= .int .u8 (a:Int)/\a<256:=zgd (bu h hl)
theorem N9{a:List Nat}(h:pd cx σ x=some ⟨.tx,a⟩)(hl:ZA P vs env S w cx σ x): ∃s:ByteArray,ev env x= .string s/\yK s=a/\s.size<=9223372036854775807:=EN (bu h hl)
theorem zbD{a:Bool}(h:pd cx σ x=some ⟨.b,a⟩)(hl:ZA P vs env S w cx σ x):ev env x= .bool a:=bK (bu h hl)
theorem SE{v:Option Dv}{t:Ty}{k:t.D->Option R}(h:ri v t k=some r): ∃y:t.D,k y=some r/\ ∀(P:Program) vs S w (d:Dv) u,v=some d->(va P vs d u).p S w->(fV t.rep y u).p S w:=by
 unfold ri at h;split at h
 ·next=>
  cases t<;>simp only[reduceCtorEq]at h;exact⟨_,h,fun P vs S w d u hd hh=>by cases hd;rw[show u=_ from hh];exact R7⟩
 ·next v' hv=>
  split at h
  ·next p hp=>
   obtain⟨e,h⟩:=yi h;subst e;exact⟨_,h,fun P vs S w d u hd hh=>by cases hd;exact sV hp hh⟩
  ·cases h
 ·cases h
theorem Xv{t:Ty}{k:t.D->Option R}(h:ri (xU cx σ x) t k=some r): ∃y:t.D,k y=some r/\ ∀(P:Program) vs env S w,ZA P vs env S w cx σ x->(fV t.rep y (ev env x)).p S w:=by
 obtain⟨y,h1,h2⟩:=SE h;refine⟨y,h1,fun P vs env S w hl=> ?_⟩
 cases hv:xU cx σ x with
 |none=>rw[hv]at h;cases h
 |some v=>exact h2 P vs S w v _ hv (zk hv hl)
theorem zD{o:Oper}{l:List (Nat×Dv)}(h: ∀env w S vs,(∀t∈yx o.op,Lk P vs env S w cx σ t)-> ∃v,(execOp (ev env) o).run P w= .ok (.value v) w/\ ∀e∈l,(xF P vs e.2 v e.1).p S w):ES P o cx σ F l:=by
 intro env w S vs hS hM hl;obtain⟨v,h1,h2⟩:=h env w S vs hl;exact jZ.of_value h1 ⟨yp.refl _ _,h2⟩
theorem zn{v:Value}{dv:Dv}(h:(va P vs dv v).p S w): ∀e∈[(0,dv)],(xF P vs e.2 v e.1).p S w:=by
 intro e he;rw[xai]at he;subst he;exact h
theorem jG{o:Oper}{l:List (Nat×Dv)}(h: ∀env w S vs,yv S (MS vs σ.ob++(MS vs cx.ob++F)) w->(∀t∈yx o.op,Lk P vs env S w cx σ t)-> ∃(U:Type) (val:U->Value) (facts:U->List FF) (ok:U->Prop) (Γ:List FF) (ms:List MF),
 AW P o env ms Γ val facts ok/\yv S ms w/\zz S Γ w/\ ∀u w',ok u->zz S (facts u) w'-> ∀e∈l,(xF P vs e.2 (val u) e.1).p S w'):ES P o cx σ F l:=by
 intro env w S vs hS hM hl;obtain⟨U,val,facts,ok,Γ,ms,h1,ha,h2,h3⟩:=h env w S vs hM hl;refine(h1 w S hS ha h2).mono ?_;rintro v w' ⟨u,rfl,hu,hx,hf⟩;exact⟨hx,h3 u w' hu hf⟩
theorem Fb: ∀(f i:Nat) (t:Nat) (e:Nat×Dv),e∈zcN cx σ t f i->get cx σ t e.1=some e.2
 |0,_,_,_,h=>absurd h Nm
 |f+1,i,t,e,h=>by
  unfold zcN at h;split at h
  ·next d hd=>
   rcases xad.1 h with rfl|h
   ·exact hd
   ·exact Fb f (i+1) t e h
  ·exact absurd h Nm
theorem PR{op:Op}(ha:op= .move x\/op= .assign x){k:List (Nat×Dv)->Option R}(h:L3 cx σ x k=some r): ∃l,k l=some r/\ES P ⟨d,op,ty,pos,aft,g⟩ cx σ F l:=by
 have hr: ∀env w,(execOp (ev env) ⟨d,op,ty,pos,aft,g⟩).run P w= .ok (.value (ev env x)) w:=fun env w=>by rcases ha with rfl|rfl<;>exact aR rfl w
 have hm:x∈op.operands.toList:=by rcases ha with rfl|rfl<;>simp[xaL]
 unfold L3 at h;split at h
 ·next v hv=>exact⟨_,h,zD fun env w S vs hl=>⟨_,hr env w,zn (zk hv (yG hl hm))⟩⟩
 ·unfold zhE at h;split at h
  ·next t hx=>
   split at h
   ·cases h
   ·next l0 l hb=>
    exact⟨_,h,zD fun env w S vs hl=>⟨_,hr env w,fun e he=>yG hl hm t rfl _ _ (Fb _ _ _ _ he)⟩⟩
  ·cases h
theorem zhN{i:Nat}{k:List (Nat×Dv)->Option R}(h:zdS cx σ x i k=some r): ∃l,k l=some r/\ES P ⟨d,.extract x i,ty,pos,aft,g⟩ cx σ F l:=by
 unfold zdS at h;split at h
 ·next t=>
  split at h
  ·next v hv=>
   refine⟨_,h,?_⟩;intro env w S vs hS hM hl;obtain⟨us,u,h1,h2,h3⟩:=yG hl (x:= .tmp t) (by simp[xaL]) t rfl (i+1) v hv;exact jZ.of_value (v:=u) (aR (by simp only[pv,ev,h1];exact h2) w) ⟨yp.refl _ _,zn h3⟩
  ·cases h
 ·cases h
theorem mv1{k:List (Nat×Dv)->Option R}(h:zbV cx σ x k=some r): ∃v,xU cx σ x=some v/\k [(0,v)]=some r:=by
 unfold zbV at h;split at h
 ·next v hv=>exact⟨v,hv,h⟩
 ·cases h
theorem zfB{c:Operand}{k:List (Nat×Dv)->Option R}(h:S7 cx σ c x y k=some r): ∃l,k l=some r/\ES P ⟨d,.pick c x y,ty,pos,aft,g⟩ cx σ F l:=by
 unfold S7 at h;split at h
 ·next hc=>
  obtain⟨v,hv,h⟩:=mv1 h;exact⟨_,h,zD fun env w S vs hl=>⟨_,zaY (zk hc (yG hl (by simp[xaL]))) rfl w,zn (zk hv (yG hl (by simp[xaL])))⟩⟩
 ·next hc=>
  obtain⟨v,hv,h⟩:=mv1 h;exact⟨_,h,zD fun env w S vs hl=>⟨_,zbM (zk hc (yG hl (by simp[xaL]))) rfl w,zn (zk hv (yG hl (by simp[xaL])))⟩⟩
 ·cases h
theorem zgn{k:List (Nat×Dv)->Option R}(h:zet cx σ x k=some r): ∃l,k l=some r/\ES P ⟨d,.unOp .not t x,ty,pos,aft,g⟩ cx σ F l:=by
 unfold zet at h;split at h
 ·next b hb=>exact⟨_,h,zD fun env w S vs hl=>⟨_,zc9 (zk hb (yG hl (by simp[xaL]))) w,zn (by exact rfl)⟩⟩
 ·next b hb=>exact⟨_,h,zD fun env w S vs hl=>⟨_,zc9 (bK (zk hb (yG hl (by simp[xaL])))) w,zn (by exact lD)⟩⟩
 ·cases h
theorem zg1{k:List (Nat×Dv)->Option R}(h:zeV cx σ x k=some r): ∃l,k l=some r/\ES P ⟨d,.unOp .neg t x,ty,pos,aft,g⟩ cx σ F l:=by
 unfold zeV at h;split at h
 ·next a ha=>
  obtain⟨z,hz,hr,h⟩:=Wk h;exact⟨_,h,zD fun env w S vs hl=>⟨_,zdJ (xT ha (yG hl (by simp[xaL]))).1 (w_x hz hr) w,zn (xL hr)⟩⟩
 ·next a ha=>
  obtain⟨z,hz,h⟩:=xm h;exact⟨_,h,zD fun env w S vs hl=>by
   obtain⟨h1,h2⟩:=xC ha (yG hl (by simp[xaL]));exact⟨_,zdJ h1 (ab hz (ze4 h2)) w,zn (qm (YX hz))⟩⟩
 ·cases h
theorem Gy{p:Prop}[Decidable p]{k:List (Nat×Dv)->Option R}(h:(if p then k [(0,.kb true)]else k [(0,.kb false)])=some r):k [(0,.kb (decide p))]=some r:=by
 by_cases hp:p
 ·rw[iq hp]at h;rw[decide_eq_true hp];exact h
 ·rw[ir hp]at h;rw[decide_eq_false hp];exact h
theorem kbN{p:Prop}[Decidable p]{k:List (Nat×Dv)->Option R}(h:(if p then k [(0,.kb false)]else k [(0,.kb true)])=some r):k [(0,.kb (!decide p))]=some r:=by
 by_cases hp:p
 ·rw[iq hp]at h;rw[decide_eq_true hp];exact h
 ·rw[ir hp]at h;rw[decide_eq_false hp];exact h
theorem ziz{bo:BinOp}{a c:Int}{k:List (Nat×Dv)->Option R}(h:arI bo a c (fun v=>k [(0,v)])=some r)(ha:pd cx σ x=some ⟨.i,a⟩)(hc:pd cx σ y=some ⟨.i,c⟩):
 ∃l,k l=some r/\ES P ⟨d,.binOp bo t x y yt,ty,pos,aft,g⟩ cx σ F l:=by
 have hx: ∀{vs env S w},(∀t'∈yx (.binOp bo t x y yt),Lk P vs env S w cx σ t')->ZA P vs env S w cx σ x:=fun hl=>yG hl (by simp[xaL]);have hy: ∀{vs env S w},(∀t'∈yx (.binOp bo t x y yt),Lk P vs env S w cx σ t')->ZA P vs env S w cx σ y:=fun hl=>yG hl (by simp[xaL]);cases bo<;>simp only[arI,reduceCtorEq]at h
 case add=>obtain⟨z,hz,hr,h⟩:=Wk h;exact⟨_,h,zD fun env w S vs hl=>⟨_,pz (xT ha (hx hl)).1 (xT hc (hy hl)).1 (w_x hz hr) w,zn (xL hr)⟩⟩
 case sub=>obtain⟨z,hz,hr,h⟩:=Wk h;exact⟨_,h,zD fun env w S vs hl=>⟨_,R3 (xT ha (hx hl)).1 (xT hc (hy hl)).1 (w_x hz hr) w,zn (xL hr)⟩⟩
 case mul=>obtain⟨z,hz,hr,h⟩:=Wk h;exact⟨_,h,zD fun env w S vs hl=>⟨_,zdE (xT ha (hx hl)).1 (xT hc (hy hl)).1 (w_x hz hr) w,zn (xL hr)⟩⟩
 case quo=>obtain⟨h0,h⟩:=kh h;obtain⟨z,hz,hr,h⟩:=Wk h;exact⟨_,h,zD fun env w S vs hl=>⟨_,zc2 (xT ha (hx hl)).1 (xT hc (hy hl)).1 h0 (w_x hz hr) w,zn (xL hr)⟩⟩
 case rem=>obtain⟨h0,h⟩:=kh h;obtain⟨z,hz,h⟩:=xm h;exact⟨_,h,zD fun env w S vs hl=>⟨_,zc4 (xT ha (hx hl)).1 (xT hc (hy hl)).1 h0 hz.symm w,zn (xL (zdY (xT ha (hx hl)).2 hz))⟩⟩
 case and=>obtain⟨z,hz,h⟩:=xm h;exact⟨_,h,zD fun env w S vs hl=>⟨_,zdi (xT ha (hx hl)).1 (xT hc (hy hl)).1 (zcn.trans hz.symm) w,zn (xL (PF hz (zfj _ _)))⟩⟩
 case or=>obtain⟨z,hz,h⟩:=xm h;exact⟨_,h,zD fun env w S vs hl=>⟨_,zhR (xT ha (hx hl)).1 (xT hc (hy hl)).1 (ze8.trans hz.symm) w,zn (xL (PF hz (zf3 _ _)))⟩⟩
 case shr=>obtain⟨h0,h⟩:=kh h;obtain⟨z,hz,h⟩:=xm h;exact⟨_,h,zD fun env w S vs hl=>⟨_,mH (xT ha (hx hl)).1 (xT hc (hy hl)).1 h0 hz.symm w,zn (xL (zaQ (xT ha (hx hl)).2 hz))⟩⟩
 case shl=>obtain⟨h0,h⟩:=kh h;obtain⟨z,hz,hr,h⟩:=Wk h;exact⟨_,h,zD fun env w S vs hl=>⟨_,Lq (xT ha (hx hl)).1 (xT hc (hy hl)).1 h0 (w_x hz hr) w,zn (xL hr)⟩⟩
 case lss=>exact⟨[(0,.kb (decide (a<c)))],Gy h,zD fun env w S vs hl=>⟨_,SP (xT ha (hx hl)).1 (xT hc (hy hl)).1 w,zn (by exact rfl)⟩⟩
 case leq=>exact⟨[(0,.kb (decide (a<=c)))],Gy h,zD fun env w S vs hl=>⟨_,Tr (xT ha (hx hl)).1 (xT hc (hy hl)).1 w,zn (by exact rfl)⟩⟩
 case gtr=>exact⟨[(0,.kb (decide (c<a)))],Gy h,zD fun env w S vs hl=>⟨_,zaL (xT ha (hx hl)).1 (xT hc (hy hl)).1 w,zn (by exact rfl)⟩⟩
 case geq=>exact⟨[(0,.kb (decide (c<=a)))],Gy h,zD fun env w S vs hl=>⟨_,Re (xT ha (hx hl)).1 (xT hc (hy hl)).1 w,zn (by exact rfl)⟩⟩
 case eql=>exact⟨[(0,.kb (decide (a=c)))],Gy h,zD fun env w S vs hl=>⟨_,zaq (xT ha (hx hl)).1 (xT hc (hy hl)).1 w,zn (by exact rfl)⟩⟩
 case neq=>exact⟨[(0,.kb (!decide (a=c)))],kbN h,zD fun env w S vs hl=>⟨_,zaI (xT ha (hx hl)).1 (xT hc (hy hl)).1 w,zn (by exact rfl)⟩⟩
theorem ziO{bo:BinOp}{a c:Nat}{k:List (Nat×Dv)->Option R}(h:(match bo with
 | .shr=>NG .shr a c (fun v=>k [(0,v)])
 | .shl=>NG .shl a c (fun v=>k [(0,v)])
 |bo=>arU bo a c (fun v=>k [(0,v)]))=some r) (ha:pd cx σ x=some ⟨.u,a⟩) (hc:pd cx σ y=some ⟨.u,c⟩):
 ∃l,k l=some r/\ES P ⟨d,.binOp bo t x y yt,ty,pos,aft,g⟩ cx σ F l:=by
 have hx: ∀{vs env S w},(∀t'∈yx (.binOp bo t x y yt),Lk P vs env S w cx σ t')->ZA P vs env S w cx σ x:=fun hl=>yG hl (by simp[xaL]);have hy: ∀{vs env S w},(∀t'∈yx (.binOp bo t x y yt),Lk P vs env S w cx σ t')->ZA P vs env S w cx σ y:=fun hl=>yG hl (by simp[xaL]);split at h
 ·simp only[NG]at h;obtain⟨z,hz,h⟩:=xm h;exact⟨_,h,zD fun env w S vs hl=>⟨_,mH (xC ha (hx hl)).1 (xC hc (hy hl)).1 (xdb _) (Oo hz cR) w,zn (qm (oD (xC ha (hx hl)).2 hz))⟩⟩
 ·simp only[NG]at h;obtain⟨z,hz,h⟩:=xm h;exact⟨_,h,zD fun env w S vs hl=>⟨_,Lq (xC ha (hx hl)).1 (xC hc (hy hl)).1 (xdb _) (ab hz Lf) w,zn (qm (YX hz))⟩⟩
 ·next hb hd=>
  cases bo<;>simp only[arU,reduceCtorEq]at h
  case add=>obtain⟨z,hz,h⟩:=xm h;exact⟨_,h,zD fun env w S vs hl=>⟨_,pz (xC ha (hx hl)).1 (xC hc (hy hl)).1 (ab hz zcT) w,zn (qm (YX hz))⟩⟩
  case sub=>obtain⟨z,hz,h⟩:=xm h;exact⟨_,h,zD fun env w S vs hl=>⟨_,R3 (xC ha (hx hl)).1 (xC hc (hy hl)).1 (ab hz (zbr (xds (xC hc (hy hl)).2))) w,zn (qm (YX hz))⟩⟩
  case mul=>obtain⟨z,hz,h⟩:=xm h;exact⟨_,h,zD fun env w S vs hl=>⟨_,zdE (xC ha (hx hl)).1 (xC hc (hy hl)).1 (ab hz zcv) w,zn (qm (YX hz))⟩⟩
  case quo=>obtain⟨h0,h⟩:=kh h;obtain⟨z,hz,h⟩:=xm h;exact⟨_,h,zD fun env w S vs hl=>⟨_,zc2 (xC ha (hx hl)).1 (xC hc (hy hl)).1 (zgh h0) (ab hz (NW (xC ha (hx hl)).2)) w,zn (qm (oD (xC ha (hx hl)).2 hz))⟩⟩
  case rem=>obtain⟨h0,h⟩:=kh h;obtain⟨z,hz,h⟩:=xm h;exact⟨_,h,zD fun env w S vs hl=>⟨_,zc4 (xC ha (hx hl)).1 (xC hc (hy hl)).1 (zgh h0) (Oo hz zgq) w,zn (qm (zel (xC ha (hx hl)).2 hz))⟩⟩
  case and=>obtain⟨z,hz,h⟩:=xm h;exact⟨_,h,zD fun env w S vs hl=>⟨_,zdi (xC ha (hx hl)).1 (xC hc (hy hl)).1 (ab hz (zcP (xC ha (hx hl)).2 (xC hc (hy hl)).2)) w,zn (qm (zd4 hz (dq (xC ha (hx hl)).2)))⟩⟩
  case or=>obtain⟨z,hz,h⟩:=xm h;exact⟨_,h,zD fun env w S vs hl=>⟨_,zhR (xC ha (hx hl)).1 (xC hc (hy hl)).1 (ab hz (zeJ (xC ha (hx hl)).2 (xC hc (hy hl)).2)) w,zn (qm (zd4 hz (lj (xC ha (hx hl)).2 (xC hc (hy hl)).2)))⟩⟩
  case lss=>exact⟨[(0,.kb (decide ((a:Int)<(c:Int))))],Gy h,zD fun env w S vs hl=>⟨_,SP (xC ha (hx hl)).1 (xC hc (hy hl)).1 w,zn (by exact rfl)⟩⟩
  case leq=>exact⟨[(0,.kb (decide ((a:Int)<=(c:Int))))],Gy h,zD fun env w S vs hl=>⟨_,Tr (xC ha (hx hl)).1 (xC hc (hy hl)).1 w,zn (by exact rfl)⟩⟩
  case gtr=>exact⟨[(0,.kb (decide ((c:Int)<(a:Int))))],Gy h,zD fun env w S vs hl=>⟨_,zaL (xC ha (hx hl)).1 (xC hc (hy hl)).1 w,zn (by exact rfl)⟩⟩
  case geq=>exact⟨[(0,.kb (decide ((c:Int)<=(a:Int))))],Gy h,zD fun env w S vs hl=>⟨_,Re (xC ha (hx hl)).1 (xC hc (hy hl)).1 w,zn (by exact rfl)⟩⟩
  case eql=>exact⟨[(0,.kb (decide ((a:Int)=(c:Int))))],Gy h,zD fun env w S vs hl=>⟨_,zaq (xC ha (hx hl)).1 (xC hc (hy hl)).1 w,zn (by exact rfl)⟩⟩
  case neq=>exact⟨[(0,.kb (!decide ((a:Int)=(c:Int))))],kbN h,zD fun env w S vs hl=>⟨_,zaI (xC ha (hx hl)).1 (xC hc (hy hl)).1 w,zn (by exact rfl)⟩⟩
theorem ziA{bo:BinOp}{a:Nat}{c:Int}{k:List (Nat×Dv)->Option R}(h:shU bo a c (fun v=>k [(0,v)])=some r)(ha:pd cx σ x=some ⟨.u,a⟩)(hc:pd cx σ y=some ⟨.i,c⟩):
 ∃l,k l=some r/\ES P ⟨d,.binOp bo t x y yt,ty,pos,aft,g⟩ cx σ F l:=by
 have hx: ∀{vs env S w},(∀t'∈yx (.binOp bo t x y yt),Lk P vs env S w cx σ t')->ZA P vs env S w cx σ x:=fun hl=>yG hl (by simp[xaL]);have hy: ∀{vs env S w},(∀t'∈yx (.binOp bo t x y yt),Lk P vs env S w cx σ t')->ZA P vs env S w cx σ y:=fun hl=>yG hl (by simp[xaL]);unfold shU at h;split at h
 ·obtain⟨h0,h⟩:=kh h;obtain⟨z,hz,h⟩:=xm h;exact⟨_,h,zD fun env w S vs hl=>⟨_,mH (xC ha (hx hl)).1 (xT hc (hy hl)).1 h0 (Oo hz cR) w,zn (qm (oD (xC ha (hx hl)).2 hz))⟩⟩
 ·obtain⟨h0,h⟩:=kh h;obtain⟨z,hz,h⟩:=xm h;exact⟨_,h,zD fun env w S vs hl=>⟨_,Lq (xC ha (hx hl)).1 (xT hc (hy hl)).1 h0 (ab hz Lf) w,zn (qm (YX hz))⟩⟩
 ·cases h
theorem zio{bo:BinOp}{a:Int}{c:Nat}{k:List (Nat×Dv)->Option R}(h:shI bo a c (fun v=>k [(0,v)])=some r)(ha:pd cx σ x=some ⟨.i,a⟩)(hc:pd cx σ y=some ⟨.u,c⟩):
 ∃l,k l=some r/\ES P ⟨d,.binOp bo t x y yt,ty,pos,aft,g⟩ cx σ F l:=by
 have hx: ∀{vs env S w},(∀t'∈yx (.binOp bo t x y yt),Lk P vs env S w cx σ t')->ZA P vs env S w cx σ x:=fun hl=>yG hl (by simp[xaL]);have hy: ∀{vs env S w},(∀t'∈yx (.binOp bo t x y yt),Lk P vs env S w cx σ t')->ZA P vs env S w cx σ y:=fun hl=>yG hl (by simp[xaL]);unfold shI at h;split at h
 ·obtain⟨z,hz,h⟩:=xm h;exact⟨_,h,zD fun env w S vs hl=>⟨_,mH (xT ha (hx hl)).1 (xC hc (hy hl)).1 (xdb _) hz.symm w,zn (xL (zaQ (xT ha (hx hl)).2 hz))⟩⟩
 ·obtain⟨z,hz,hr,h⟩:=Wk h;exact⟨_,h,zD fun env w S vs hl=>⟨_,Lq (xT ha (hx hl)).1 (xC hc (hy hl)).1 (xdb _) (w_x hz hr) w,zn (xL hr)⟩⟩
 ·cases h
theorem ziL{bo:BinOp}{a c:Bool}{tb:Bool}{k:List (Nat×Dv)->Option R}(h:kt tb (eqB bo a c (fun v=>k [(0,v)]))=some r)(ha:pd cx σ x=some ⟨.b,a⟩)(hc:pd cx σ y=some ⟨.b,c⟩)(hb:tb=true->P.underlying t=some .bool):
 ∃l,k l=some r/\ES P ⟨d,.binOp bo t x y yt,ty,pos,aft,g⟩ cx σ F l:=by
 have hx: ∀{vs env S w},(∀t'∈yx (.binOp bo t x y yt),Lk P vs env S w cx σ t')->ZA P vs env S w cx σ x:=fun hl=>yG hl (by simp[xaL]);have hy: ∀{vs env S w},(∀t'∈yx (.binOp bo t x y yt),Lk P vs env S w cx σ t')->ZA P vs env S w cx σ y:=fun hl=>yG hl (by simp[xaL]);obtain⟨hd,h⟩:=yh h;unfold eqB at h;split at h
 ·obtain⟨z,hz,h⟩:=xm h;exact⟨_,h,zD fun env w S vs hl=>⟨_,TV (zhP (hb hd) (zbD ha (hx hl)) (zbD hc (hy hl))) hz w,zn lD⟩⟩
 ·obtain⟨z,hz,h⟩:=xm h;exact⟨_,h,zD fun env w S vs hl=>⟨_,TV (zhi (hb hd) (zbD ha (hx hl)) (zbD hc (hy hl))) hz w,zn lD⟩⟩
 ·cases h
theorem AX(x:Int):xfP.wrap x=x % 256:=by
 simp[xfL,xeo,xdQ]
theorem zeQ{a b:Nat}:xfP.wrap ((a:Int)+(b:Int))=(((a+b) % 256:Nat):Int):=by rw[AX];omega
theorem zeM{a b:Nat}(h:b<=256):xfP.wrap ((a:Int)-(b:Int))=(((a+256-b) % 256:Nat):Int):=by rw[AX];omega
theorem Tm{n z:Nat}(h:z=n % 256):z<256:=by rw[h];exact xbp _ (by decide)
theorem zih{bo:BinOp}{a c:Nat}{k:List (Nat×Dv)->Option R}(h:arC bo a c (fun v=>k [(0,v)])=some r)(ha:pd cx σ x=some ⟨.ch,a⟩)(hc:pd cx σ y=some ⟨.ch,c⟩):
 ∃l,k l=some r/\ES P ⟨d,.binOp bo t x y yt,ty,pos,aft,g⟩ cx σ F l:=by
 have hx: ∀{vs env S w},(∀t'∈yx (.binOp bo t x y yt),Lk P vs env S w cx σ t')->ZA P vs env S w cx σ x:=fun hl=>yG hl (by simp[xaL]);have hy: ∀{vs env S w},(∀t'∈yx (.binOp bo t x y yt),Lk P vs env S w cx σ t')->ZA P vs env S w cx σ y:=fun hl=>yG hl (by simp[xaL]);cases bo<;>simp only[arC,reduceCtorEq]at h
 case add=>obtain⟨z,hz,h⟩:=xm h;exact⟨_,h,zD fun env w S vs hl=>⟨_,pz (YH ha (hx hl)).1 (YH hc (hy hl)).1 (ab hz zeQ) w,zn (tK (Tm hz))⟩⟩
 case sub=>obtain⟨z,hz,h⟩:=xm h;exact⟨_,h,zD fun env w S vs hl=>⟨_,R3 (YH ha (hx hl)).1 (YH hc (hy hl)).1 (ab hz (zeM (xds (YH hc (hy hl)).2))) w,zn (tK (Tm hz))⟩⟩
 case lss=>exact⟨[(0,.kb (decide ((a:Int)<(c:Int))))],Gy h,zD fun env w S vs hl=>⟨_,SP (YH ha (hx hl)).1 (YH hc (hy hl)).1 w,zn (by exact rfl)⟩⟩
 case leq=>exact⟨[(0,.kb (decide ((a:Int)<=(c:Int))))],Gy h,zD fun env w S vs hl=>⟨_,Tr (YH ha (hx hl)).1 (YH hc (hy hl)).1 w,zn (by exact rfl)⟩⟩
 case gtr=>exact⟨[(0,.kb (decide ((c:Int)<(a:Int))))],Gy h,zD fun env w S vs hl=>⟨_,zaL (YH ha (hx hl)).1 (YH hc (hy hl)).1 w,zn (by exact rfl)⟩⟩
 case geq=>exact⟨[(0,.kb (decide ((c:Int)<=(a:Int))))],Gy h,zD fun env w S vs hl=>⟨_,Re (YH ha (hx hl)).1 (YH hc (hy hl)).1 w,zn (by exact rfl)⟩⟩
 case eql=>exact⟨[(0,.kb (decide ((a:Int)=(c:Int))))],Gy h,zD fun env w S vs hl=>⟨_,zaq (YH ha (hx hl)).1 (YH hc (hy hl)).1 w,zn (by exact rfl)⟩⟩
 case neq=>exact⟨[(0,.kb (!decide ((a:Int)=(c:Int))))],kbN h,zD fun env w S vs hl=>⟨_,zaI (YH ha (hx hl)).1 (YH hc (hy hl)).1 w,zn (by exact rfl)⟩⟩
theorem Ad{s u:ByteArray}:(s.toList==u.toList)=decide (yK s=yK u):=by
 rw[ByteArray.toList_eq,ByteArray.toList_eq];unfold yK;by_cases h:s.data.toList=u.data.toList
 ·rw[h];simp
 ·have h2: ¬s.data.toList.map xfg=u.data.toList.map xfg:=fun e=>h (List.map_inj_right (fun x y=>UInt8.toNat_inj.1)|>.1 e);rw[decide_eq_false h2];simpa using h
theorem nA(s u:ByteArray):yK (s++u)=yK s++yK u:=by
 unfold yK;simp
theorem zas{s u:ByteArray}(h:(yK s).length+(yK u).length<=9223372036854775807)(w:World):(Op.stringOp .add s u).run P w= .ok (.string (s++u)) w:=by
 rw[vV,vV]at h;have h5: ¬(((s.size+u.size:Nat):Int)>xcS.max):=by
  have:xcS.max=9223372036854775807:=rfl;omega
 unfold Op.stringOp;simp only;rw[ir h5,xaD]
theorem zhL{bo:BinOp}{a c:List Nat}{k:List (Nat×Dv)->Option R}(h:eqT bo a c (fun v=>k [(0,v)])=some r)(ha:pd cx σ x=some ⟨.tx,a⟩)(hc:pd cx σ y=some ⟨.tx,c⟩):
 ∃l,k l=some r/\ES P ⟨d,.binOp bo t x y yt,ty,pos,aft,g⟩ cx σ F l:=by
 have hx: ∀{vs env S w},(∀t'∈yx (.binOp bo t x y yt),Lk P vs env S w cx σ t')->ZA P vs env S w cx σ x:=fun hl=>yG hl (by simp[xaL]);have hy: ∀{vs env S w},(∀t'∈yx (.binOp bo t x y yt),Lk P vs env S w cx σ t')->ZA P vs env S w cx σ y:=fun hl=>yG hl (by simp[xaL]);cases bo<;>simp only[eqT,reduceCtorEq]at h
 case add=>
  obtain⟨h0,h⟩:=kh h;obtain⟨z,hz,h⟩:=xm h;refine⟨_,h,zD fun env w S vs hl=> ?_⟩;obtain⟨s,e1,e2,_⟩:=N9 ha (hx hl);obtain⟨u,e3,e4,_⟩:=N9 hc (hy hl);have h6:(yK s).length+(yK u).length<=9223372036854775807:=by rw[e2,e4];exact h0
  refine⟨.string (s++u),?_,zn (Ec (by rw[nA,e2,e4];exact hz.symm) (by rw[<-vV,nA,xau];exact h6))⟩;simp[execOp,e1,e3,eqGuard,binOp_string_add,zas (P:=P) h6 w]
 case eql=>
  refine⟨[(0,.kb (decide (a=c)))],Gy h,zD fun env w S vs hl=> ?_⟩;obtain⟨s,e1,e2,_⟩:=N9 ha (hx hl);obtain⟨u,e3,e4,_⟩:=N9 hc (hy hl);refine⟨.bool (decide (a=c)),?_,zn (by exact rfl)⟩;rw[<-e2,<-e4,<-Ad];simp[execOp,e1,e3,eqGuard,binOp_string_eql]
 case neq=>
  refine⟨[(0,.kb (!decide (a=c)))],kbN h,zD fun env w S vs hl=> ?_⟩;obtain⟨s,e1,e2,_⟩:=N9 ha (hx hl);obtain⟨u,e3,e4,_⟩:=N9 hc (hy hl);refine⟨.bool (!decide (a=c)),?_,zn (by exact rfl)⟩;rw[<-e2,<-e4,<-Ad];simp[execOp,e1,e3,eqGuard,binOp_string_neq]
theorem bop{tb:Bool}{bo:BinOp}{k:List (Nat×Dv)->Option R}(h:zfA tb bo (pd cx σ x) (pd cx σ y) (fun v=>k [(0,v)])=some r)(hb:tb=true->P.underlying t=some .bool):
 ∃l,k l=some r/\ES P ⟨d,.binOp bo t x y yt,ty,pos,aft,g⟩ cx σ F l:=by
 unfold zfA at h;split at h
 ·next a c ha hc=>exact ziz h ha hc
 ·next a c ha hc=>exact ziO h ha hc
 ·next a c ha hc=>exact ziA h ha hc
 ·next a c ha hc=>exact zio h ha hc
 ·next a c ha hc=>exact ziL h ha hc hb
 ·next a c ha hc=>exact zih h ha hc
 ·next a c ha hc=>exact zhL h ha hc
 ·cases h
end
end
section
section
variable{P:Program}{cf:Cf}{cx σ:Sg}{F:List MF}{vs:Nat->Value}{env:yM}{S:Nat->Prop}{w:World}{R:Type}{r:R}
 {d:Option Tmp} {ty t yt:TypeId} {pos:String} {aft:Array Edge} {g:Option (Nat×Bool)} {x y:Operand}
theorem WG{s:TypeId}{q:Ty}{k:IntKind}{B:Nat}(hT:zS P cf.tt)(h:ZG cf s=some ⟨q,.int k,B⟩):P.underlying s=some (.int k):=(hT _ _ h).2.2.2
theorem vd{s E:TypeId}{q:Ty}{B:Nat}(hT:zS P cf.tt)(h:ZG cf s=some ⟨q,.sl E,B⟩):P.underlying s=some (.slice E):=(hT _ _ h).2.2.2.1
theorem CN{s:TypeId}{q:Ty}{B:Nat}(hT:zS P cf.tt)(h:ZG cf s=some ⟨q,.str,B⟩):P.underlying s=some .string:=(hT _ _ h).2.2.2
theorem zcO(hT:zS P cf.tt):isB cf t=true->P.underlying t=some .bool:=by
 intro h;unfold isB at h;split at h
 ·next q B hu=>exact(hT _ _ hu).2.2.2
 ·cases h
theorem W8{s E:TypeId}{e:Ty}{B:Nat}(hT:zS P cf.tt)(hL:jy P cf.tt)(h:ZG cf s=some ⟨.l e,.sl E,B⟩): ∃bytes zero,XB P E e.rep.agg e.rep.n bytes zero:=by
 obtain⟨ti,h1,rfl⟩:=hL _ _ _ _ h;obtain⟨⟨zero,h2,_⟩,_⟩:=hT _ _ h1;exact⟨_,_,h2⟩
theorem Wv{ti:TI}(hT:zS P cf.tt)(h:ZG cf t=some ti): ∃zero,XB P t ti.ty.rep.agg ti.ty.rep.n ti.B zero/\zero.cells.size=ti.ty.rep.n/\ ∀S w,ti.ty.rep.p S ti.ty.z zero.cells.toList w:=by
 obtain⟨zero,h1,h2,h3,_⟩:=(hT _ _ h).1;exact⟨zero,h1,h2,h3⟩
theorem Hd{ti:TI}{s:Ty}(hT:zS P cf.tt)(h:ZG cf t=some ti)(hs:ti.ty= .l s):XB P t false 1 ti.B (.slice none 0 0):=by
 obtain⟨zero,h1,_,_,h4⟩:=(hT _ _ h).1;rw[h4 s hs,hs]at h1;exact h1
theorem zf4{a:Nat}(h:a<256):VM (a:Int):=by unfold VM;omega
theorem zg7{a:Nat}(h:a<256):a<18446744073709551616:=by omega
theorem zij{a:Nat}(h:a<256):xfP.wrap (a:Int)=(a:Int):=by rw[AX];omega
theorem u_c{a:Nat}:xfP.wrap (a:Int)=((a % 256:Nat):Int):=by rw[AX];omega
theorem E9{S:Nat->Prop}{w:World}: ∀{xs:List Nat} {cs:List Value},yr eCh S xs cs w->cs=xs.map (fun x:Nat=>Value.int .u8 (x:Int))/\ ∀x∈xs,x<256
 |[],cs,h=>⟨h,fun x hx=>absurd hx Nm⟩
 |x::xs,cs,⟨c,r,h1,h2,h3⟩=>by
  obtain⟨e1,e2⟩:=E9 h3;obtain⟨e3,e4⟩:=h2;refine⟨by rw[h1,e3,e1];rfl,fun y hy=> ?_⟩;rcases xad.1 hy with rfl|hy
  ·exact e4
  ·exact e2 y hy
theorem zeK{s t E:TypeId}{xs:List Nat}{v:Value}{S:Nat->Prop}{w:World}(hs:P.underlying s=some (.slice E))(hE:P.underlying E=some (.int .u8))(ht:P.underlying t=some .string)(hv:(fV (eS eCh) xs v).p S w):
 ∃u:ByteArray,(convert s t v).run P w= .ok (.string u) w/\yK u=xs/\u.size<=9223372036854775807:=by
 obtain⟨ao,cap,rfl,hg,hb,h⟩:=xh.1 hv;have key: ∀a,ao=some a->(∀x∈xs,x<256)->(∀j (hj:j<xs.length),w.cell? (a.add j)=some (.int .u8 ((xs[j]:Nat):Int)))-> ∃u:ByteArray,(convert s t (.slice ao xs.length cap)).run P w= .ok (.string u) w/\yK u=xs/\u.size<=9223372036854775807:=by
  rintro a rfl hx hj;have hm:(xs.map xeN).map xfg=xs:=by
   rw[xcM];conv=>rhs;rw[<-List.map_id xs]
   exact xbL fun x hc=>UInt8.toNat_ofNat_of_lt' (hx x hc)
  have hr:=run_convert_bytes_back (P:=P) w s t E a cap (xs.map xeN) hs hE ht (fun j hd=>by
   have ha:j<xs.length:=by simpa using hd
   rw[hj j ha,xfy,UInt8.toNat_ofNat_of_lt' (hx _ (xbh ha))])
  rw[xaM]at hr;refine⟨_,hr,by unfold yK;simpa using hm,?_⟩;rw[<-vV];unfold yK;rw[xaM];simp;unfold maxLen at hb;omega
 rcases h with rfl|⟨b,o,cs,rfl,_,he,hf⟩
 ·cases ao with
  |some a=>exact key a rfl (fun x hx=>absurd hx Nm) (fun j hj=>absurd hj (xbv _))
  |none=>
   refine⟨ByteArray.empty,?_,rfl,by decide⟩;rw[run_convert_bytes_string w s t E none _ cap hs hE ht];rfl
 ·obtain⟨e1,e2⟩:=E9 hf;refine key _ rfl e2 fun j hj=> ?_;have:=he.2 j (.int .u8 ((xs[j]:Nat):Int)) (by rw[e1,xaA,IR hj];rfl);rw[vP];exact this
theorem zhx(hT:zS P cf.tt){s t:TypeId}{k:List (Nat×Dv)->Option R}(h:zeU cf cx σ s t x k=some r): ∃l,k l=some r/\ES P ⟨d,.convert s t x,ty,pos,aft,g⟩ cx σ F l:=by
 have hx: ∀{vs env S w},(∀t'∈yx (.convert s t x),Lk P vs env S w cx σ t')->ZA P vs env S w cx σ x:=fun hl=>yG hl (by simp[xaL]);unfold zeU at h;split at h
 ·next q k1 B ti hs ht=>
  have hb:=WG hT hs;obtain⟨tty,tk,tB⟩:=ti;unfold zg9 at h;split at h
  ·next a hk ha=>
   simp only at hk;subst hk;exact⟨_,h,zD fun env w S vs hl=>⟨_,Xr hb (WG hT ht) (xT ha (hx hl)).1 (w64 (xT ha (hx hl)).2) w,zn (xL (xT ha (hx hl)).2)⟩⟩
  ·next a hk ha=>
   simp only at hk;subst hk;exact⟨_,h,zD fun env w S vs hl=>⟨_,Xr hb (WG hT ht) (xC ha (hx hl)).1 (bO (xC ha (hx hl)).2) w,zn (qm (xC ha (hx hl)).2)⟩⟩
  ·next a hk ha=>
   simp only at hk;subst hk;obtain⟨z,hz,h⟩:=xm h;exact⟨_,h,zD fun env w S vs hl=>⟨_,Xr hb (WG hT ht) (xT ha (hx hl)).1 (ab hz (Sa _)) w,zn (qm (zd4 hz (gl _)))⟩⟩
  ·next a hk ha=>
   simp only at hk;subst hk;obtain⟨z,hz,h⟩:=xm h;exact⟨_,h,zD fun env w S vs hl=>⟨_,Xr hb (WG hT ht) (xC ha (hx hl)).1 ((nh (xC ha (hx hl)).2).trans hz.symm) w,zn (xL (PF hz (OT (xC ha (hx hl)).2)))⟩⟩
  ·next a hk ha=>
   simp only at hk;subst hk;exact⟨_,h,zD fun env w S vs hl=>⟨_,Xr hb (WG hT ht) (YH ha (hx hl)).1 (w64 (zf4 (YH ha (hx hl)).2)) w,zn (xL (zf4 (YH ha (hx hl)).2))⟩⟩
  ·next a hk ha=>
   simp only at hk;subst hk;exact⟨_,h,zD fun env w S vs hl=>⟨_,Xr hb (WG hT ht) (YH ha (hx hl)).1 (bO (zg7 (YH ha (hx hl)).2)) w,zn (qm (zg7 (YH ha (hx hl)).2))⟩⟩
  ·next a hk ha=>
   simp only at hk;subst hk;exact⟨_,h,zD fun env w S vs hl=>⟨_,Xr hb (WG hT ht) (YH ha (hx hl)).1 (zij (YH ha (hx hl)).2) w,zn (tK (YH ha (hx hl)).2)⟩⟩
  ·next a hk ha=>
   simp only at hk;subst hk;unfold chU at h;obtain⟨z,hz,h⟩:=xm h;exact⟨_,h,zD fun env w S vs hl=>⟨_,Xr hb (WG hT ht) (xC ha (hx hl)).1 (ab hz u_c) w,zn (tK (Tm hz))⟩⟩
  ·cases h
 ·next E B q B' hs ht=>
  split at h
  ·next q' B'' hE=>
   obtain⟨xs,h,hc⟩:=Xv h;refine⟨_,h,zD fun env w S vs hl=> ?_⟩;obtain⟨u,h1,h2,h3⟩:=zeK (vd hT hs) (WG hT hE) (CN hT ht) (hc P vs env S w (hx hl));exact⟨.string u,by simp[execOp,h1],zn (Ec h2 h3)⟩
  ·cases h
 ·cases h
theorem Gk{n:Nat}{k:Nat->Option R}(h:Ow cx σ x n k=some r): ∃j,j<n/\k j=some r/\ ∀(P:Program) vs env S w,ZA P vs env S w cx σ x-> ∃ik,ev env x= .int ik (j:Int):=by
 unfold Ow at h;split at h
 ·next j hj=>
  obtain⟨i,h1,h2,h⟩:=zdo h;exact⟨i,h2,h,fun P vs env S w hl=>⟨.i64,by rw[(xT hj hl).1,h1]⟩⟩
 ·next j hj=>
  obtain⟨i,h1,h2,h⟩:=zdo h;exact⟨i,h2,h,fun P vs env S w hl=>⟨.u64,by rw[(xC hj hl).1,h1]⟩⟩
 ·cases h
theorem Qt{x:Option Operand}{k:Option Nat->Option R}(h:Gq cx σ x k=some r):
 (x=none/\k none=some r)\/ ∃y j,x=some y/\k (some j)=some r/\ ∀(P:Program) vs env S w,ZA P vs env S w cx σ y->ev env y= .int .i64 (j:Int):=by
 unfold Gq at h;split at h
 ·exact .inl ⟨rfl,h⟩
 ·next y=>
  split at h
  ·next j hj=>
   obtain⟨i,h1,h⟩:=LL h;exact .inr ⟨y,i,rfl,h,fun P vs env S w hl=>by rw[(xT hj hl).1,h1]⟩
  ·cases h
theorem Qg{α:Type}{e:zV α}{E:TypeId}{xs:List α}{v:Value}(h:(mO e E v xs).p S w)(h0:0<xs.length):
 ∃b cap,v= .slice (some ⟨b,0,none⟩) xs.length cap/\(mB (rowT e cap) E b xs).p S w:=by
 obtain⟨cs,h1,h2⟩:=h;rcases h1.2 with⟨rfl,h3⟩|⟨g,cap,cur,rfl,hc,hg,hd,he,ha,hb⟩
 ·omega
 ·exact⟨g,cap,rfl,cur,hg,cs,cur.toList.drop (xs.length*e.n),by rw[<-hb,xbR],h2,by simpa using ha⟩
theorem OI{s E:TypeId}{q:Ty}{n B:Nat}(hT:zS P cf.tt)(h:ZG cf s=some ⟨q,.ar n E,B⟩):P.underlying s=some (.array n E):=(hT _ _ h).2.2.2.2
theorem R9{E:TypeId}{e:Ty}(hT:zS P cf.tt)(h:elA cf E e=true): ∃bytes zero,XB P E e.rep.agg e.rep.n bytes zero:=by
 unfold elA at h;split at h
 ·next ti ht=>
  cases hs:Ty.same ti.ty e with
  |none=>rw[hs]at h;cases h
  |some p=>
   obtain⟨zero,h2,_⟩:=Wv hT ht;rw[p.down]at h2;exact⟨_,_,h2⟩
 ·cases h
theorem zdT{n j:Nat}{e:Ty}(hj:j<n):Fl.ok (.a n e) (zgD n e j):=by
 intro z S w cs hp;have ha:xaF z=n/\yr e.rep S z cs w:=hp;have:=Sub.nth n e.rep z j (xei z j e.z) (getD_some e.z (ha.1▸hj)) S w cs hp;rw[e.n_rep]at this;exact this
theorem zcE(hT:zS P cf.tt)(hL:jy P cf.tt){k:List (Nat×Dv)->Option R}(h:Ik cf cx σ t x y k=some r): ∃l,k l=some r/\ES P ⟨d,.indexAddr t x y,ty,pos,aft,g⟩ cx σ F l:=by
 have hx: ∀{vs env S w},(∀t'∈yx (.indexAddr t x y),Lk P vs env S w cx σ t')->ZA P vs env S w cx σ x:=fun hl=>yG hl (by simp[xaL]);have hy: ∀{vs env S w},(∀t'∈yx (.indexAddr t x y),Lk P vs env S w cx σ t')->ZA P vs env S w cx σ y:=fun hl=>yG hl (by simp[xaL]);unfold Ik at h;split at h
 ·next e E B s xs ht ha=>
  obtain⟨he,h⟩:=yi h;cases he;obtain⟨bytes,zero,hb⟩:=W8 hT hL ht;obtain⟨j,hj,h,hc⟩:=Gk h;obtain⟨z,hz,h⟩:=xm h;refine⟨_,h,jG fun env w S vs hM hl=> ?_⟩;obtain⟨ik,hd⟩:=hc P vs env S w (hy hl);exact⟨_,_,_,_,[fV (eS e.rep) xs (ev env x)],[],TW (e:=e.rep) (xs:=xs) (k:=j) (y:=z) rfl hd (vd hT ht) hb (zgY hj hz) (fun S w h=>h.1),trivial,⟨zk ha (hx hl),trivial⟩,fun u w' _ hf=>zn hf.1⟩
 ·next e E B o ht ha=>
  split at h
  ·next s E' xs ho=>
   obtain⟨he,h⟩:=yi h;cases he;obtain⟨bytes,zero,hb⟩:=W8 hT hL ht;obtain⟨j,hj,h,hc⟩:=Gk h;refine⟨_,h,?_⟩;intro env w S vs hS hM hl;obtain⟨ik,hd⟩:=hc P vs env S w (hy hl);have hm:(mO e.rep E' (vs o) xs).p S w:=ux hM ho;obtain⟨b,cap,hv,_⟩:=Qg hm (xbe (xaj _) hj);have hk:ev env x=vs o:=zk ha (hx hl);refine jZ.of_value (iL (vd hT ht) hb (hk.trans hv) hd hj w) ⟨yp.refl _ _,zn ?_⟩;exact⟨fun z=>Sub.self e.rep z,b,_,_,hv,hj,by simp[Fl.self]⟩
  ·cases h
 ·next q n' E B n e xs ht ha=>
  obtain⟨hg,h⟩:=yh h;rw[xam]at hg;have hn:=z8 hg.1;subst hn;obtain⟨bytes,zero,hb⟩:=R9 hT hg.2;obtain⟨j,hj,h,hc⟩:=Gk h;obtain⟨z,hz,h⟩:=xm h;refine⟨_,h,jG fun env w S vs hM hl=> ?_⟩;obtain⟨ik,hd⟩:=hc P vs env S w (hy hl);have hp:(fP (Ty.a n' e).rep xs (ev env x)).p S w:=zk ha (hx hl);obtain⟨_,_,_,_,_,_,hi,_⟩:=id hp;exact⟨_,_,_,_,[fP (Ty.a n' e).rep xs (ev env x)],[],Nr (e:=(Ty.a n' e).rep) (f:=e.rep) (z:=xs) (z':=z) (OI hT ht) hb rfl hd hj (Sub.nth n' e.rep xs j z (zgY (hi▸hj) hz)) (fun S w h=>h.1),trivial,⟨hp,trivial⟩,fun u w' _ hf=>zn hf.1⟩
 ·next q n' E B o n e ht ha=>
  obtain⟨hg,h⟩:=yh h;rw[xam]at hg;have hn:=z8 hg.1;subst hn;obtain⟨bytes,zero,hb⟩:=R9 hT hg.2;obtain⟨j,hj,h,hc⟩:=Gk h;refine⟨_,h,zD fun env w S vs hl=> ?_⟩;obtain⟨ik,hd⟩:=hc P vs env S w (hy hl);obtain⟨h1,b,h2⟩:=zk ha (hx hl);exact⟨_,Dk (OI hT ht) hb (h1.trans h2) hd hj w,zn ⟨zdT hj,b,h2,by rw[e.n_rep];rfl⟩⟩
 ·cases h
theorem aq: ∀{k:Nat} {t:Ty} {i:Nat} {f:Fl t.D},Qc k t i=some f->Fl.ok t f
 |0,_,_,_,h=>by simp[Qc]at h
 |1,t,i,f,h=>by
  unfold Qc at h;cases hb:xan i 0<;>rw[hb]at h
  ·cases h
  ·simp only[cond_true,xaw]at h;subst h;exact fun z=>Sub.self t.rep z
 |k+2,.p s t,0,f,h=>by
  simp only[Qc,xaw]at h;subst h;exact fun z=>Sub.fst s.rep t.rep z
 |k+2,.p s t,i+1,f,h=>by
  simp only[Qc]at h;split at h
  ·next f' hf=>
   simp only[xaw]at h;subst h;intro z;have:=(Sub.snd s.rep t.rep z).comp (aq hf z.2);rw[s.n_rep]at this;exact this
  ·cases h
 |k+2,.i,i,f,h=>by simp[Qc]at h
 |k+2,.u,i,f,h=>by simp[Qc]at h
 |k+2,.b,i,f,h=>by simp[Qc]at h
 |k+2,.l _,i,f,h=>by simp[Qc]at h
 |k+2,.a _ _,i,f,h=>by simp[Qc]at h
theorem MG{t:Ty}{a:Fl t.D}{c:Fl a.f.D}(ha:Fl.ok t a)(hc:Fl.ok a.f c):Fl.ok t (a.comp c):=fun z=>(ha z).comp (hc (a.get z))
theorem LQ{s:TypeId}{q:Ty}{n B i:Nat}{f:Fl q.D}(hT:zS P cf.tt)(h:ZG cf s=some ⟨q,.st n,B⟩)(hf:Qc n q i=some f):HR P s i=some f.off:=(hT _ _ h).2.2.2.2.1 i f hf
theorem za9(hT:zS P cf.tt){i:Nat}{k:List (Nat×Dv)->Option R}(h:HX cf cx σ t x i k=some r): ∃l,k l=some r/\ES P ⟨d,.fieldAddr t x i,ty,pos,aft,g⟩ cx σ F l:=by
 have hx: ∀{vs env S w},(∀t'∈yx (.fieldAddr t x i),Lk P vs env S w cx σ t')->ZA P vs env S w cx σ x:=fun hl=>yG hl (by simp[xaL]);unfold HX at h;split at h
 ·next e n B s y ht hb=>
  obtain⟨ha,h⟩:=yi h;subst ha;split at h
  ·next f hf=>
   exact⟨_,h,jG fun env w S vs hM hl=>⟨_,_,_,_,[fP s.rep y (ev env x)],[],Pq (e:=s.rep) (z:=y) (LQ hT ht hf) rfl (aq hf y) (fun S w h=>h.1),trivial,⟨zk hb (hx hl),trivial⟩,fun u w' _ hf=>zn hf.1⟩⟩
  ·cases h
 ·next e n B o s ht hb=>
  split at h
  ·next ha f _ hf=>
   obtain⟨ha⟩:=ha;subst ha;refine⟨_,h,zD fun env w S vs hl=> ?_⟩;obtain⟨h1,b,h2⟩:=zk hb (hx hl);exact⟨_,iJ (LQ hT ht hf) (h1.trans h2) w,zn ⟨aq hf,b,h2,rfl⟩⟩
  ·cases h
 ·next e n B o s g ht hb=>
  split at h
  ·next ha f _ hf=>
   obtain⟨ha⟩:=ha;subst ha;refine⟨_,h,zD fun env w S vs hl=> ?_⟩;obtain⟨h0,b,h1,h2⟩:=zk hb (hx hl);exact⟨_,iJ (LQ hT ht hf) h2 w,zn ⟨MG h0 (aq hf),b,h1,by simp only[Fl.comp,xcW]⟩⟩
  ·cases h
 ·next e n B o s j g ht hb=>
  split at h
  ·next ha f _ hf=>
   obtain⟨ha⟩:=ha;subst ha;refine⟨_,h,zD fun env w S vs hl=> ?_⟩;obtain⟨h0,b,m,cap,h1,h2,h3⟩:=zk hb (hx hl);exact⟨_,iJ (LQ hT ht hf) h3 w,zn ⟨MG h0 (aq hf),b,m,cap,h1,h2,by simp only[Fl.comp,xcW]⟩⟩
  ·cases h
 ·cases h
theorem zej(hT:zS P cf.tt){k:List (Nat×Dv)->Option R}(h:Pj cf cx σ t x k=some r): ∃l,k l=some r/\ES P ⟨d,.load t x,ty,pos,aft,g⟩ cx σ F l:=by
 have hx: ∀{vs env S w},(∀t'∈yx (.load t x),Lk P vs env S w cx σ t')->ZA P vs env S w cx σ x:=fun hl=>yG hl (by simp[xaL]);unfold Pj at h;split at h
 ·next ti hj=>
  obtain⟨zero,hd,_⟩:=Wv hT hj;unfold zc0 at h;split at h
  ·next s y hc=>
   obtain⟨ha,h⟩:=yi h;simp only at ha;subst ha;exact⟨_,h,jG fun env w S vs hM hl=>⟨_,_,_,_,[fP ti.ty.rep y (ev env x)],[],zbA (e:=ti.ty.rep) (y:=y) rfl hd (fun S w h=>h.1),trivial,⟨zk hc (hx hl),trivial⟩,fun u w' _ hf=>zn hf.1⟩⟩
  ·next o s hc=>
   split at h
   ·next s' E z ho=>
    obtain⟨ha,h⟩:=yi h;simp only at ha;subst ha;refine⟨_,h,jG fun env w S vs hM hl=> ?_⟩;obtain⟨h1,b,h2⟩:=zk hc (hx hl);obtain⟨b',h3,h4⟩:(mP ti.ty.rep.c E (vs o) z).p S w:=ux hM ho;exact⟨_,_,_,_,[],[mB ti.ty.rep.c E b' z],Qa (z':=z) 0 rfl (h1.trans h3) (Sub.self ti.ty.rep z) hd,⟨h4,trivial⟩,trivial,fun u w' _ hf=>zn hf.1⟩
   ·cases h
  ·next o s f hc=>
   split at h
   ·next s' E z ho=>
    obtain⟨he,h⟩:=yi h;subst he;obtain⟨ha,h⟩:=yi h;simp only at ha;obtain⟨off,ff,get,set⟩:=f;simp only at ha;subst ha;refine⟨_,h,jG fun env w S vs hM hl=> ?_⟩;obtain⟨h0,b,h1,h2⟩:=zk hc (hx hl);obtain⟨b',h3,h4⟩:(mP s'.rep.c E (vs o) z).p S w:=ux hM ho;rw[h1]at h3;cases h3;exact⟨_,_,_,_,[],[mB s'.rep.c E b z],Qa (z':=get z) 0 rfl h2 (by rw[xaS];exact h0 z) hd,⟨h4,trivial⟩,trivial,fun u w' _ hf=>zn hf.1⟩
   ·cases h
  ·next o s j f hc=>
   split at h
   ·next s' E xs ho=>
    obtain⟨he,h⟩:=yi h;cases he;obtain⟨y,hy,h⟩:=xm h;obtain⟨ha,h⟩:=yi h;simp only at ha;obtain⟨off,ff,get,set⟩:=f;simp only at ha;subst ha;refine⟨_,h,jG fun env w S vs hM hl=> ?_⟩;obtain⟨h0,b,m,cap,h1,h2,h3⟩:=zk hc (hx hl);have hm:(mO s.rep E (vs o) xs).p S w:=ux hM ho;have hg:0<xs.length:=by
     obtain⟨cs,h5,h6⟩:=hm;rcases h5.2 with⟨hv,h7⟩|⟨g',cap',cur,hv,_⟩
     ·rw[h1]at hv;cases hv
     ·rw[h1]at hv;cases hv;omega
    obtain⟨b',cap',hv,hb⟩:=Qg hm hg;rw[h1]at hv;cases hv;have hi:=(Sub.rowT0 s.rep cap xs j (xs.getD j s.z) (getD_some s.z h2)).comp (h0 (xs.getD j s.z));subst hy;exact⟨_,_,_,_,[],[mB (rowT s.rep cap) E b xs],Qa 0 rfl h3 hi hd,⟨hb,trivial⟩,trivial,fun u w' _ hf=>zn hf.1⟩
   ·cases h
  ·cases h
 ·cases h
theorem zdb{α:Type}(xs:List α):xs=(xs.drop 0).take (xs.length-0):=by simp
theorem zdd{α:Type}(xs:List α)(l:Nat):xs.drop l=(xs.drop l).take (xs.length-l):=(xaX (by simp)).symm
theorem zac{i off n:Nat}{agg:Bool}{cs:Array Value}{v:Value}(h:Ry P t i=some (off,agg,n))(hx:ev env x= .agg cs)(hv:(if agg=true then Value.agg (cs.extract off (off+n))else cs.getD off undef)=v)(ha:agg=false->off<cs.size)(w:World):
 (execOp (ev env) ⟨d,.field t x i,ty,pos,aft,g⟩).run P w= .ok (.value v) w:=by
 unfold Ry at h;split at h
 ·next fs hu=>
  split at h
  ·next f hf=>
   split at h
   ·next ag n' by' z hc=>
    simp only[xaw,xct]at h;obtain⟨h1,h2,h3⟩:=h;subst h1;subst h2;subst h3;have hb:=XB.of hc;have hp:(part f.type cs f.offset).run P w= .ok v w:=by
     unfold part;simp only[xaq,tU hb,xab]
     cases ag with
     |true=>
      simp only[if_true,xaq,xj hb,xab,xaD];rw[<-hv];rfl
     |false=>
      simp only[xah,if_false];have ha:=ha rfl;rw[xcw ha];simp only[xaD];rw[<-hv];simp[Array.getD,ha]
    simp only[execOp,hx,Instr.field,asAgg,xaq,run_underlying hu,xab,hf,xaD,hp]
   ·cases h
  ·cases h
 ·cases h
theorem zeb{s:TypeId}{q:Ty}{n B i:Nat}{f:Fl q.D}(hT:zS P cf.tt)(h:ZG cf s=some ⟨q,.st n,B⟩)(hf:Qc n q i=some f):Ry P s i=some (f.off,f.f.rep.agg,f.f.n):=(hT _ _ h).2.2.2.2.2.2 i f hf
theorem Tv(hT:zS P cf.tt){i:Nat}{k:List (Nat×Dv)->Option R}(h:A7 cf cx σ t x i k=some r): ∃l,k l=some r/\ES P ⟨d,.field t x i,ty,pos,aft,g⟩ cx σ F l:=by
 have hx: ∀{vs env S w},(∀t'∈yx (.field t x i),Lk P vs env S w cx σ t')->ZA P vs env S w cx σ x:=fun hl=>yG hl (by simp[xaL]);unfold A7 at h;split at h
 ·next e n B s y ht hg=>
  obtain⟨hi,h⟩:=yi h;subst hi;split at h
  ·next f hf=>
   refine⟨_,h,zD fun env w S vs hl=> ?_⟩;obtain⟨cs,hv,hp⟩:=zk hg (hx hl);have he:s.rep.agg=true:=(hT _ _ ht).2.2.2.1;obtain⟨pre,c,post,hc,h1,h2,_⟩:=aq hf y S w cs hp;have ha:=f.f.rep.len h2;rw[Ty.n_rep]at ha;have hv:ev env x= .agg cs.toArray:=by rw[hv];unfold zV.val;rw[he];rfl
   refine⟨f.f.rep.val c,zac (zeb hT ht hf) hv ?_ ?_ w,zn ⟨c,rfl,h2⟩⟩
   ·unfold zV.val
    cases hd:f.f.rep.agg with
    |true=>
     simp only[if_true];congr 1;apply Array.ext';rw[Array.toList_extract,hc,<-h1,<-ha];simp
    |false=>
     simp only[xah,if_false];have hb:=f.f.rep.n1 hd;rw[Ty.n_rep]at hb;obtain⟨a,rfl⟩: ∃a,c=[a]:=by
      match c,ha.trans hb with
      |[a],_=>exact⟨a,rfl⟩
     rw[hc,<-h1];simp[Array.getD]
   ·intro hd;have hb:=f.f.rep.n1 hd;rw[Ty.n_rep]at hb;rw[hc];simp;omega
  ·cases h
 ·cases h
theorem JF{α:Type}{e:zV α}{E:TypeId}{v:Value}{xs:List α}{S:Nat->Prop}{w:World}(h:(mO e E v xs).p S w):(v= .slice none 0 0/\xs=[])\/ ∃b cap,v= .slice (some ⟨b,0,none⟩) xs.length cap/\xs.length<=cap/\cap<=9223372036854775807:=by
 obtain⟨cs,h1,h2⟩:=h;rcases h1.2 with⟨rfl,h0⟩|⟨g,cap,cur,rfl,hc,hg,ha,hb,hd,he⟩
 ·exact .inl ⟨rfl,xbF.1 h0⟩
 ·exact .inr ⟨g,cap,rfl,ha,hb⟩
theorem Bc{α:Type}{e:zV α}{E:TypeId}{v:Value}{xs:List α}{S:Nat->Prop}{w:World}(h:(mO e E v xs).p S w){b m cap l n c:Nat}(hv:v= .slice (some ⟨b,0,none⟩) m cap)(hl:l+n<=m)(hf:n<=c)(hc:c<=9223372036854775807):
 SlQ e S ((xs.drop l).take n) (.slice (some ⟨b,0+l*e.n,none⟩) n c) w:=by
 obtain⟨cs,h1,h2⟩:=h;rcases h1.2 with⟨h0,_⟩|⟨g,cap',cur,h0,hi,hg,he,hj,hk,hd⟩
 ·rw[hv]at h0;cases h0
 ·rw[hv]at h0;cases h0;have hb:((xs.drop l).take n).length=n:=by simp;omega
  refine⟨some ⟨b,0+l*e.n,none⟩,c,by rw[hb],by omega,by unfold maxLen;omega,.inr ⟨b,0+l*e.n,(cs.drop (l*e.n)).take (n*e.n),rfl,?_,(h2.drop l).take n⟩⟩;have ha:=At.row hg;have:=ha.take (xs.length*e.n);rw[hd]at this;exact(this.drop (l*e.n)).take (n*e.n)
theorem o5{t:TypeId}{et:TypeId}{ag:Bool}{sz bytes:Nat}{zero:Value}{b o n cap l h:Nat}{lo hi:Option Value}{w:World}(ht:P.underlying t=some (.slice et))(ha:XB P et ag sz bytes zero)
 (hl:lo=some (.int .i64 (l:Int))\/(lo=none/\l=0)) (hh:hi=some (.int .i64 (h:Int))\/(hi=none/\h=n)) (hb:l<=h) (hc:h<=cap):
 (xcQ t (.slice (some ⟨b,o,none⟩) n cap) lo hi none).run P w= .ok (.slice (if cap=l then some ⟨b,o,none⟩else(some (⟨b,o,none⟩:Addr)).map (·.add (l*sz))) (h-l) (cap-l)) w:=by
 have b1:(0:Int)<=(l:Int)/\(l:Int)<=(h:Int):=by omega
 have b2:(0:Int)<=(h:Int)/\(h:Int)<=(cap:Int):=by omega
 unfold xcQ;simp only[xaq,run_underlying ht,xab];unfold xfE;simp only[xaq,run_underlying ht,xab];unfold xdS
 rcases hl with rfl|⟨rfl,rfl⟩<;>rcases hh with rfl|⟨rfl,rfl⟩<;>
  simp only[xeg,asIntOf,xaq,xaD,xab,iq b1,iq b2,xj ha,xaR]
theorem Cd{t:TypeId}{et:TypeId}{ag:Bool}{sz bytes:Nat}{zero:Value}{lo hi:Option Value}{w:World}(ht:P.underlying t=some (.slice et))(ha:XB P et ag sz bytes zero)
 (hl:lo=some (.int .i64 ((0:Nat):Int))\/lo=none) (hh:hi=some (.int .i64 ((0:Nat):Int))\/hi=none):
 (xcQ t (.slice none 0 0) lo hi none).run P w= .ok (.slice none 0 0) w:=by
 unfold xcQ;simp only[xaq,run_underlying ht,xab];unfold xfE;simp only[xaq,run_underlying ht,xab];unfold xdS
 rcases hl with rfl|rfl<;>rcases hh with rfl|rfl<;>
  simp[xeg,asIntOf,xaq,xaD,xab,xj ha]
theorem BQ{m:Nat}{lo hi:Option Nat}{k:Nat->Nat->Option R}(h:zce m lo hi k=some r): ∃l h',l<=h'/\h'<=m/\k l (h'-l)=some r/\(lo=some l\/(lo=none/\l=0))/\(hi=some h'\/(hi=none/\h'=m)):=by
 unfold zce at h;split at h
 ·next h'=>obtain⟨h1,h2⟩:=kh h;exact⟨0,h',xaj _,h1,h2,.inr ⟨rfl,rfl⟩,.inl rfl⟩
 ·next l=>obtain⟨h1,h2⟩:=kh h;exact⟨l,m,h1,xac _,h2,.inl rfl,.inr ⟨rfl,rfl⟩⟩
 ·next l h'=>obtain⟨h1,h2⟩:=kh h;exact⟨l,h',h1.1,h1.2,h2,.inl rfl,.inl rfl⟩
 ·exact⟨0,m,xaj _,xac _,h,.inr ⟨rfl,rfl⟩,.inr ⟨rfl,rfl⟩⟩
theorem Hn{t:TypeId}{s:ByteArray}{l h:Nat}{lo hi:Option Value}{w:World}(ht:P.underlying t=some .string)
 (hl:lo=some (.int .i64 (l:Int))\/(lo=none/\l=0)) (hh:hi=some (.int .i64 (h:Int))\/(hi=none/\h=s.size)) (ha:l<=h) (hb:h<=s.size):
 (xcQ t (.string s) lo hi none).run P w= .ok (.string (s.extract l h)) w:=by
 have b1:(0:Int)<=(l:Int)/\(l:Int)<=(h:Int):=by omega
 have b2:(0:Int)<=(h:Int)/\(h:Int)<=(s.size:Int):=by omega
 unfold xcQ;simp only[xaq,run_underlying ht,xab];unfold xfE;simp only[xaq,run_underlying ht,xab];unfold xdS
 rcases hl with rfl|⟨rfl,rfl⟩<;>rcases hh with rfl|⟨rfl,rfl⟩<;>
  simp[xeg,asIntOf,iq b1,iq b2,ha,hb]
theorem oM(s:ByteArray)(l h:Nat):yK (s.extract l h)=((yK s).drop l).take (h-l):=by
 unfold yK;rw[ByteArray.data_extract,Array.toList_extract,List.extract_eq_take_drop,List.map_take,List.map_drop]
theorem zbq(hT:zS P cf.tt)(hL:jy P cf.tt){lo hi:Option Operand}{k:List (Nat×Dv)->Option R}(h:Ia cf cx σ t x lo hi k=some r): ∃l,k l=some r/\ES P ⟨d,.slice t x lo hi none,ty,pos,aft,g⟩ cx σ F l:=by
 have hx: ∀{vs env S w},(∀t'∈yx (.slice t x lo hi none),Lk P vs env S w cx σ t')->ZA P vs env S w cx σ x:=fun hl=>yG hl (by simp[xaL]);have hc: ∀{vs env S w z},lo=some z->(∀t'∈yx (.slice t x lo hi none),Lk P vs env S w cx σ t')->ZA P vs env S w cx σ z:=fun e hl=>yG hl (by simp[xaL,e]);have hd: ∀{vs env S w z},hi=some z->(∀t'∈yx (.slice t x lo hi none),Lk P vs env S w cx σ t')->ZA P vs env S w cx σ z:=fun e hl=>yG hl (by simp[xaL,e]);unfold Ia at h;split at h
 ·next e E B s xs ht he=>
  obtain⟨hm,h⟩:=yi h;cases hm;obtain⟨bytes,zero,hk⟩:=W8 hT hL ht
  have fin: ∀{l m:Nat} {zs:List e.D},l<=m->m<=xaF xs->zs=(xdv l xs).take (m-l)->(∀vs env S w,(∀t'∈yx (.slice t x lo hi none),Lk P vs env S w cx σ t')->((lo.map (ev env))=some (.int .i64 (l:Int))\/(lo=none/\l=0))/\((hi.map (ev env))=some (.int .i64 (m:Int))\/(hi=none/\m=xaF xs)))->
   k [(0,.d (.l e) zs)]=some r-> ∃l,k l=some r/\ES P ⟨d,.slice t x lo hi none,ty,pos,aft,g⟩ cx σ F l:=by
   intro l m zs h1 h2 h3 h4 h5;subst h3;refine⟨_,h5,jG fun env w S vs hM hl=> ?_⟩;obtain⟨h6,h7⟩:=h4 vs env S w hl;exact⟨_,_,_,_,[fV (eS e.rep) xs (ev env x)],[],EJ (e:=e.rep) (xs:=xs) (l:=l) (h:=m) rfl (vd hT ht) hk h6 h7 h1 h2 (fun S w h=>h.1),trivial,⟨zk he (hx hl),trivial⟩,fun u w' _ hf=>zn hf.1⟩
  rcases Qt h with⟨e1,h1⟩|⟨zl,l,e1,h1,hb⟩
  ·rcases Qt h1 with⟨e2,h2⟩|⟨zh,m,e2,h2,ha⟩
   ·exact fin (l:=0) (m:=xaF xs) (xaj _) (xac _) (zdb (α:=e.D) xs) (fun vs env S w hl=>⟨.inr ⟨e1,rfl⟩,.inr ⟨e2,rfl⟩⟩) h2
   ·obtain⟨h3,h4⟩:=kh h2;obtain⟨zs,hz,h5⟩:=xm h4;exact fin (l:=0) (m:=m) (xaj _) h3 hz (fun vs env S w hl=>⟨.inr ⟨e1,rfl⟩,.inl (by rw[e2];exact congrArg some (ha P vs env S w (hd e2 hl)))⟩) h5
  ·rcases Qt h1 with⟨e2,h2⟩|⟨zh,m,e2,h2,ha⟩
   ·obtain⟨h3,h4⟩:=kh h2;obtain⟨zs,hz,h5⟩:=xm h4;exact fin (l:=l) (m:=xaF xs) h3 (xac _) (hz.trans (zdd (α:=e.D) xs l)) (fun vs env S w hl=>⟨.inl (by rw[e1];exact congrArg some (hb P vs env S w (hc e1 hl))),.inr ⟨e2,rfl⟩⟩) h5
   ·obtain⟨h3,h4⟩:=kh h2;obtain⟨zs,hz,h5⟩:=xm h4;exact fin (l:=l) (m:=m) h3.1 h3.2 hz (fun vs env S w hl=>⟨.inl (by rw[e1];exact congrArg some (hb P vs env S w (hc e1 hl))),.inl (by rw[e2];exact congrArg some (ha P vs env S w (hd e2 hl)))⟩) h5
 ·next e E B o ht he=>
  split at h
  ·next s E' xs ho=>
   obtain⟨hm,h⟩:=yi h;cases hm;obtain⟨bytes,zero,hk⟩:=W8 hT hL ht
   have key: ∀(l m:Nat),l<=m->m<=xaF xs->k [(0,.sv o e l (m-l))]=some r->(∀vs env S w,(∀t'∈yx (.slice t x lo hi none),Lk P vs env S w cx σ t')->((lo.map (ev env))=some (.int .i64 (l:Int))\/(lo=none/\l=0))/\((hi.map (ev env))=some (.int .i64 (m:Int))\/(hi=none/\m=xaF xs)))->
    ∃l,k l=some r/\ES P ⟨d,.slice t x lo hi none,ty,pos,aft,g⟩ cx σ F l:=by
    intro l m h1 h2 h5 h4;refine⟨_,h5,fun env w S vs hS hM hl=> ?_⟩;obtain⟨h6,h7⟩:=h4 vs env S w hl;have hn:ev env x=vs o:=zk he (hx hl);rcases JF (show(mO e.rep E' (vs o) xs).p S w from ux hM ho)with⟨hv,hg⟩|⟨b,cap,hv,hq,hu⟩
    ·refine(EJ (e:=e.rep) (xs:=([]:List e.D)) (l:=l) (h:=m) rfl (vd hT ht) hk h6 (by rw[hg]at h7;exact h7) h1 (by rw[hg]at h2;exact h2) (Γ:=[fV (eS e.rep) ([]:List e.D) (ev env x)]) (fun S w h=>h.1) (ms:=[]) w S hS trivial ⟨?_,trivial⟩).mono ?_
     ·rw[hn,hv];exact xh.2 ⟨none,0,rfl,xac _,xaj _,.inl rfl⟩
     ·rintro v w' ⟨u,rfl,_,hs,hf⟩;refine⟨hs,zn (.inr ?_)⟩;have hw:m=0:=by rw[hg]at h2;exact Nat.le_zero.1 h2
      obtain⟨ao,c,q1,q2,q3,_⟩:=xh.1 hf.1;refine⟨by omega,ao,c,by unfold maxLen at q3;omega,?_⟩;rw[q1];simp
    ·have hr:=o5 (P:=P) (b:=b) (o:=0) (n:=xaF xs) (cap:=cap) (w:=w) (l:=l) (h:=m) (vd hT ht) hk (h6.imp id fun q=>⟨by rw[q.1];rfl,q.2⟩) (h7.imp id fun q=>⟨by rw[q.1];rfl,q.2⟩) h1 (xao h2 hq);rw[<-hv,<-hn]at hr;refine jZ.of_value (v:= .slice (if cap=l then some ⟨b,0,none⟩else some ((⟨b,0,none⟩:Addr).add (l*e.rep.n))) (m-l) (cap-l)) (w':=w) (by simp[execOp,hr]) ⟨yp.refl _ _,zn ?_⟩;by_cases hp:cap=l
     ·rw[iq hp];refine .inr ⟨by omega,some ⟨b,0,none⟩,cap-l,by omega,?_⟩;rw[show m-l=0 by omega]
     ·rw[ir hp];exact .inl ⟨b,xaF xs,cap,cap-l,hv,by omega,by omega,by omega,by rw[vP]⟩
   rcases Qt h with⟨e1,h1⟩|⟨zl,l,e1,h1,hb⟩
   ·rcases Qt h1 with⟨e2,h2⟩|⟨zh,m,e2,h2,ha⟩
    ·exact key 0 (xaF xs) (xaj _) (xac _) h2 (fun vs env S w hl=>⟨.inr ⟨e1,rfl⟩,.inr ⟨e2,rfl⟩⟩)
    ·obtain⟨h3,h4⟩:=kh h2;exact key 0 m (xaj _) h3 h4 (fun vs env S w hl=>⟨.inr ⟨e1,rfl⟩,.inl (by rw[e2];exact congrArg some (ha P vs env S w (hd e2 hl)))⟩)
   ·rcases Qt h1 with⟨e2,h2⟩|⟨zh,m,e2,h2,ha⟩
    ·obtain⟨h3,h4⟩:=kh h2;exact key l (xaF xs) h3 (xac _) h4 (fun vs env S w hl=>⟨.inl (by rw[e1];exact congrArg some (hb P vs env S w (hc e1 hl))),.inr ⟨e2,rfl⟩⟩)
    ·obtain⟨h3,h4⟩:=kh h2;exact key l m h3.1 h3.2 h4 (fun vs env S w hl=>⟨.inl (by rw[e1];exact congrArg some (hb P vs env S w (hc e1 hl))),.inl (by rw[e2];exact congrArg some (ha P vs env S w (hd e2 hl)))⟩)
  ·cases h
 ·next q B xs ht he=>
  have fin: ∀{l m:Nat} {zs:List Nat},l<=m->m<=xaF xs->zs=(xdv l xs).take (m-l)->(∀vs env S w,(∀t'∈yx (.slice t x lo hi none),Lk P vs env S w cx σ t')->((lo.map (ev env))=some (.int .i64 (l:Int))\/(lo=none/\l=0))/\((hi.map (ev env))=some (.int .i64 (m:Int))\/(hi=none/\m=xaF xs)))->
   k [(0,.d .tx zs)]=some r-> ∃l,k l=some r/\ES P ⟨d,.slice t x lo hi none,ty,pos,aft,g⟩ cx σ F l:=by
   intro l m zs h1 h2 h3 h4 h5;refine⟨_,h5,zD fun env w S vs hl=> ?_⟩;obtain⟨h6,h7⟩:=h4 vs env S w hl;obtain⟨s,e1,e2,e3⟩:=EN (zk he (hx hl));have hj:(yK s).length=s.size:=vV s;rw[e2]at hj;have hr:=Hn (P:=P) (s:=s) (l:=l) (h:=m) (w:=w) (CN hT ht) (h6.imp id fun q=>⟨by rw[q.1];rfl,q.2⟩) (h7.imp id fun q=>⟨by rw[q.1];rfl,by rw[q.2];exact hj⟩) h1 (by rw[<-hj];exact h2);rw[<-e1]at hr;refine⟨.string (s.extract l m),by simp[execOp,hr],zn (Ec (by rw[oM,e2,h3]) ?_)⟩;rw[<-vV,oM,e2];have h2:m<=xaF (α:=Nat) xs:=h2;rw[xay];omega
  rcases Qt h with⟨e1,h1⟩|⟨zl,l,e1,h1,hb⟩
  ·rcases Qt h1 with⟨e2,h2⟩|⟨zh,m,e2,h2,ha⟩
   ·exact fin (l:=0) (m:=xaF (α:=Nat) xs) (xaj _) (xac _) (zdb (α:=Nat) xs) (fun vs env S w hl=>⟨.inr ⟨e1,rfl⟩,.inr ⟨e2,rfl⟩⟩) h2
   ·obtain⟨h3,h4⟩:=kh h2;obtain⟨zs,hz,h5⟩:=xm h4;exact fin (l:=0) (m:=m) (xaj _) h3 hz (fun vs env S w hl=>⟨.inr ⟨e1,rfl⟩,.inl (by rw[e2];exact congrArg some (ha P vs env S w (hd e2 hl)))⟩) h5
  ·rcases Qt h1 with⟨e2,h2⟩|⟨zh,m,e2,h2,ha⟩
   ·obtain⟨h3,h4⟩:=kh h2;obtain⟨zs,hz,h5⟩:=xm h4;exact fin (l:=l) (m:=xaF (α:=Nat) xs) h3 (xac _) (hz.trans (zdd (α:=Nat) xs l)) (fun vs env S w hl=>⟨.inl (by rw[e1];exact congrArg some (hb P vs env S w (hc e1 hl))),.inr ⟨e2,rfl⟩⟩) h5
   ·obtain⟨h3,h4⟩:=kh h2;obtain⟨zs,hz,h5⟩:=xm h4;exact fin (l:=l) (m:=m) h3.1 h3.2 hz (fun vs env S w hl=>⟨.inl (by rw[e1];exact congrArg some (hb P vs env S w (hc e1 hl))),.inl (by rw[e2];exact congrArg some (ha P vs env S w (hd e2 hl)))⟩) h5
 ·cases h
theorem zhH(hT:zS P cf.tt){k:List (Nat×Dv)->Option R}(h:zfi cf cx σ t x y k=some r): ∃l,k l=some r/\ES P ⟨d,.index t x y,ty,pos,aft,g⟩ cx σ F l:=by
 have hx: ∀{vs env S w},(∀t'∈yx (.index t x y),Lk P vs env S w cx σ t')->ZA P vs env S w cx σ x:=fun hl=>yG hl (by simp[xaL]);have hy: ∀{vs env S w},(∀t'∈yx (.index t x y),Lk P vs env S w cx σ t')->ZA P vs env S w cx σ y:=fun hl=>yG hl (by simp[xaL]);unfold zfi at h;split at h
 ·next q B xs ht hd=>
  obtain⟨j,hj,h,hi⟩:=Gk h;obtain⟨z,hz,h⟩:=xm h;refine⟨_,h,zD fun env w S vs hl=> ?_⟩;obtain⟨s,e1,e2,_⟩:=EN (zk hd (hx hl));obtain⟨ik,e3⟩:=hi P vs env S w (hy hl);have ha:(yK s).length=s.size:=vV s;have hb:j<s.size:=by rw[<-ha,e2];exact hj
  have hc:z=(s[j]'hb).toNat:=by
   rw[hz,<-e2];unfold yK;rw[UV,xaA,IR (by rw[<-ha]at hb;simpa[yK]using hb)];rfl
  have hr:=run_index_string (P:=P) w t s ik (j:Int) (CN hT ht);rw[dif_pos ⟨by omega,by omega⟩]at hr;refine⟨.int .u8 (z:Int),?_,zn (tK (by rw[hc];exact UInt8.toNat_lt _))⟩;simp only[xaR]at hr;rw[hc];simp[execOp,e1,e3,hr]
 ·cases h
theorem zhv{E:TypeId}{k:List (Nat×Dv)->Option R}(h:zfK cf cx σ E x k=some r): ∃l,k l=some r/\ES P ⟨d,.box E x,ty,pos,aft,g⟩ cx σ F l:=by
 unfold zfK at h;split at h
 ·next ti ha=>
  obtain⟨y,h,hy⟩:=Xv h;exact⟨_,h,jG fun env w S vs hM hl=>⟨_,_,_,_,[fV ti.ty.rep y (ev env x)],[],zeO (e:=ti.ty.rep) (z:=y) rfl (fun S w h=>h.1),trivial,⟨hy P vs env S w (yG hl (by simp[xaL])),trivial⟩,fun u w' _ hf=>zn hf.1⟩⟩
 ·cases h
theorem zhz(hT:zS P cf.tt){ags:Array Operand}{ts:Array TypeId}{k:List (Nat×Dv)->Option R}(h:zeL cf cx σ ags.toList ts.toList k=some r):
 ∃l,k l=some r/\ES P ⟨d,.call ⟨.builtin .len,ags,ts⟩,ty,pos,aft,g⟩ cx σ F l:=by
 unfold zeL at h;split at h
 ·next _ _ x t hc hd=>
  obtain rfl:ags= #[x]:=by cases ags;simp_all
  obtain rfl:ts= #[t]:=by cases ts;simp_all
  have hx: ∀{vs env S w},(∀t'∈yx (.call ⟨.builtin .len,#[x],#[t]⟩),Lk P vs env S w cx σ t')->ZA P vs env S w cx σ x:=fun hl=>yG hl (by simp[xaL,xed]);split at h
  ·next e E B ht=>
   have hu:=vd hT ht;split at h
   ·next ha=>exact⟨_,h,zD fun env w S vs hl=>⟨_,FU hu (zk ha (hx hl)) w,zn (xL (by decide))⟩⟩
   ·next s xs ha=>
    exact⟨_,h,jG fun env w S vs hM hl=>⟨_,_,_,_,[fV (eS s.rep) xs (ev env x)],[],zew (e:=s.rep) (xs:=xs) hu rfl (fun S w h=>h.1),trivial,⟨zk ha (hx hl),trivial⟩,fun u w' hk hf=>zn (xL (Fm hk))⟩⟩
   ·next o ha=>
    split at h
    ·next s E' xs ho=>
     exact⟨_,h,jG fun env w S vs hM hl=>⟨_,_,_,_,[],[mO s.rep E' (vs o) xs],Ck 0 rfl hu (zk ha (hx hl)),⟨ux hM ho,trivial⟩,trivial,fun u w' hk hf=>zn (xL (Fm hk))⟩⟩
    ·cases h
   ·cases h
  ·next q B ht=>
   have hu:=CN hT ht;split at h
   ·next xs ha=>
    refine⟨_,h,zD fun env w S vs hl=> ?_⟩;obtain⟨s,e1,e2,e3⟩:=EN (zk ha (hx hl));have hb:(yK s).length=s.size:=vV s;rw[e2]at hb;have hb:xaF (α:=Nat) xs=s.size:=hb;refine⟨.int .i64 ((xaF (α:=Nat) xs:Nat):Int),?_,zn (xL (by omega))⟩;rw[hb];simp[execOp,resolve,invoke,builtin,e1,Builtin.len_,goInt,run_underlying hu]
   ·cases h
  ·cases h
 ·cases h
theorem zhe{b:Bool}{ags:Array Operand}{ts:Array TypeId}{k:List (Nat×Dv)->Option R}(h:eMM cx b σ ags.toList k=some r):
 ∃l,k l=some r/\ES P ⟨d,.call ⟨.builtin (if b=true then .max else .min),ags,ts⟩,ty,pos,aft,g⟩ cx σ F l:=by
 unfold eMM at h;split at h
 ·next _ x y hb=>
  obtain rfl:ags= #[x,y]:=by cases ags;simp_all
  have hx: ∀{bl vs env S w},(∀t'∈yx (.call ⟨.builtin bl,#[x,y],ts⟩),Lk P vs env S w cx σ t')->ZA P vs env S w cx σ x:=fun hl=>yG hl (by simp[xaL,xed]);have hy: ∀{bl vs env S w},(∀t'∈yx (.call ⟨.builtin bl,#[x,y],ts⟩),Lk P vs env S w cx σ t')->ZA P vs env S w cx σ y:=fun hl=>yG hl (by simp[xaL,xed]);split at h
  ·next a c ha hc=>
   cases b
   ·have h:nm (min (α:=Int) a c) (fun z=>k [(0,zfu z)])=some r:=h;obtain⟨z,hz,h⟩:=xm h;exact⟨_,h,zD fun env w S vs hl=>⟨_,v_i (zhD (xT ha (hx hl)).1 (xT hc (hy hl)).1) hz w,zn (xL (PF hz (zgE (xT ha (hx hl)).2 (xT hc (hy hl)).2)))⟩⟩
   ·have h:nm (max (α:=Int) a c) (fun z=>k [(0,zfu z)])=some r:=h;obtain⟨z,hz,h⟩:=xm h;exact⟨_,h,zD fun env w S vs hl=>⟨_,v_i (zhp (xT ha (hx hl)).1 (xT hc (hy hl)).1) hz w,zn (xL (PF hz (zhj (xT ha (hx hl)).2 (xT hc (hy hl)).2)))⟩⟩
  ·cases h
 ·cases h
end
end
section
def PH(S:Nat->Prop)(w:World):(ts:List Ty)->aW ts->List (Nat×Value)->Prop
 |[],_,[]=>True
 |t::ts,y,(_,v)::r=>(fV t.rep y.1 v).p S w/\PH S w ts y.2 r
 |_,_,_=>False
theorem PH.keep{S:Nat->Prop}{w w':World}(k:yp S w w'): ∀{ts:List Ty} {ys:aW ts} {ps:List (Nat×Value)},PH S w ts ys ps->PH S w' ts ys ps
 |[],_,[],h=>trivial
 |t::_,y,(_,v)::_,h=>⟨(fV t.rep y.1 v).keep h.1 k,PH.keep k h.2⟩
 |[],_,_::_,h=>h.elim
 |_::_,_,[],h=>h.elim
theorem PH.sub{S S':Nat->Prop}{w:World}(k: ∀k,k<w.heap.size->S k->S' k): ∀{ts:List Ty} {ys:aW ts} {ps:List (Nat×Value)},PH S w ts ys ps->PH S' w ts ys ps
 |[],_,[],h=>trivial
 |t::_,y,(_,v)::_,h=>⟨(fV t.rep y.1 v).sub h.1 k,PH.sub k h.2⟩
 |[],_,_::_,h=>h.elim
 |_::_,_,[],h=>h.elim
def phF(ts:List Ty)(ys:aW ts)(ps:List (Nat×Value)):FF:=⟨fun S w=>PH S w ts ys ps,fun h k=>PH.keep k h,fun h k=>PH.sub k h⟩
section
variable{P:Program}{cf:Cf}{cx σ:Sg}{F:List MF}{vs:Nat->Value}{env:yM}{S:Nat->Prop}{w:World}{R:Type}{r:R}
 {d:Option Tmp} {ty t yt:TypeId} {pos:String} {aft:Array Edge} {g:Option (Nat×Bool)} {x y:Operand}
theorem cG: ∀{ts:List Ty} {ps:List (Nat×Operand)} {j:Nat} {k:aW ts->Option R},xV cx σ ts ps j k=some r->
 ∃ys,k ys=some r/\ps.map (·.1)=xfh j ps.length/\ ∀(P:Program) vs env S w,(∀x∈ps.map (·.2),ZA P vs env S w cx σ x)->PH S w ts ys (ps.map fun q:Nat×Operand=>(q.1,ev env q.2))
 |[],[],j,k,h=>⟨(),h,rfl,fun _ _ _ _ _ _=>trivial⟩
 |t::ts,(i,x)::ps,j,k,h=>by
  unfold xV at h;obtain⟨ha,h⟩:=yh h;obtain⟨y,h,hy⟩:=Xv h;obtain⟨ys,h1,h2,h3⟩:=cG h;refine⟨(y,ys),h1,?_,fun P vs env S w hl=>⟨hy P vs env S w (hl x (FS)),h3 P vs env S w fun z hz=>hl z (H1 _ hz)⟩⟩;simp only[xbP,xav,List.range'_succ,h2,z8 ha]
 |[],_::_,j,k,h=>by simp[xV]at h
 |_::_,[],j,k,h=>by simp[xV]at h
theorem zdt{i:Nat}{v:Value}:vX [(i,v)]=v.cells.toList:=by simp[vX]
theorem zix{k:Nat}{s t:Ty}:Qc (k+2) (.p s t) 0=some ⟨0,s,fun z=>z.1,fun y z=>(y,z.2)⟩:=rfl
theorem ziR{k:Nat}{s t:Ty}{i:Nat}{f:Fl t.D}(h:Qc (k+1) t i=some f):Qc (k+2) (.p s t) (i+1)=some ⟨s.n+f.off,f.f,fun z=>f.get z.2,fun y z=>(z.1,f.set y z.2)⟩:=by
 simp only[Qc,h]
theorem PA{pl:Array (Nat×Nat)}: ∀{k:Nat} {t:Ty} {o j:Nat} {ys:aW (Nf k t)} {ps:List (Nat×Value)} {z:t.D},(∀i f,Qc k t i=some f->pl[j+i]? =some (o+f.off,f.f.n))->
 ps.map (·.1)=xfh j ps.length->PH S w (Nf k t) ys ps->JJ k t ys=some z->QU (pl[·]?) ps o/\t.rep.p S z (vX ps) w
 |0,_,_,_,_,_,_,_,_,_,h=>by simp[JJ]at h
 |1,t,o,j,ys,[],z,hp,hi,h,hj=>h.elim
 |1,t,o,j,ys,[(i,v)],z,hp,hi,h,hj=>by
  simp only[JJ,xaw]at hj;subst hj;have ha:i=j:=by simpa using hi
  subst ha;have h0:=hp 0 (Fl.self t) rfl;have hs:=RB h.1;rw[t.n_rep]at hs;refine⟨⟨?_,trivial⟩,by rw[zdt];exact Zm h.1⟩;show pl[i]? =_;rw[hs];simpa[Fl.self]using h0
 |1,t,o,j,ys,_::_::_,z,hp,hi,h,hj=>h.2.elim
 |k+2,.p s t,o,j,ys,[],z,hp,hi,h,hj=>h.elim
 |k+2,.p s t,o,j,ys,(i,v)::ps,z,hp,hi,h,hj=>by
  unfold JJ at hj;split at hj
  ·next y hy=>
   obtain rfl:=xcY hj;simp only[xbP,xav,List.range'_succ,xeq]at hi;obtain⟨rfl,hi⟩:=hi;have h0:=hp 0 _ zix;have hs:=RB h.1;rw[s.n_rep]at hs;obtain⟨h1,h2⟩:=PA (o:=o+s.n) (j:=i+1) (pl:=pl) (fun i' f hf=>by
    have:=hp (i'+1) _ (ziR hf);rw[show i+1+i'=i+(i'+1)by omega,this];simp only[xcW]) hi h.2 hy
   refine⟨⟨?_,by rw[hs];exact h1⟩,?_⟩
   ·show pl[i]? =_;rw[hs];simpa using h0
   ·rw[tD];exact⟨_,_,rfl,Zm h.1,h2⟩
  ·cases hj
 |k+2,.i,_,_,_,_,_,_,_,_,h=>by simp[JJ]at h
 |k+2,.u,_,_,_,_,_,_,_,_,h=>by simp[JJ]at h
 |k+2,.b,_,_,_,_,_,_,_,_,h=>by simp[JJ]at h
 |k+2,.l _,_,_,_,_,_,_,_,_,h=>by simp[JJ]at h
 |k+2,.a _ _,_,_,_,_,_,_,_,_,h=>by simp[JJ]at h
theorem Ug: ∀(n:Nat) (t:Ty) (ys:aW (rY n t)),(cB n t ys).length=n
 |0,_,_=>rfl
 |n+1,t,ys=>congrArg (· +1) (Ug n t ys.2)
theorem Bg{t:Ty}: ∀{n j:Nat} {ys:aW (rY n t)} {ps:List (Nat×Value)},ps.map (·.1)=xfh j ps.length->PH S w (rY n t) ys ps->
 QU (fun i=>some (i*t.rep.n,t.rep.n)) ps (j*t.rep.n)/\yr t.rep S (cB n t ys) (vX ps) w
 |0,_,_,[],_,_=>⟨trivial,rfl⟩
 |0,_,_,_::_,_,h=>h.elim
 |n+1,_,_,[],_,h=>h.elim
 |n+1,j,ys,(i,v)::ps,hi,h=>by
  simp only[xbP,xav,List.range'_succ,xeq]at hi;obtain⟨rfl,hi⟩:=hi;have hs:=RB h.1;obtain⟨h1,h2⟩:=Bg hi h.2;refine⟨⟨by rw[hs],?_⟩,?_⟩
  ·rw[hs,show i*t.rep.n+t.rep.n=(i+1)*t.rep.n by rw[xaV,xcm]];exact h1
  ·rw[tD];exact⟨_,_,rfl,Zm h.1,h2⟩
theorem zbb(hT:zS P cf.tt){ps:Array (Nat×Operand)}{k:List (Nat×Dv)->Option R}(h:HP cf cx σ t ps.toList k=some r): ∃l,k l=some r/\ES P ⟨d,.build t ps,ty,pos,aft,g⟩ cx σ F l:=by
 unfold HP at h;split at h
 ·next e n B ht=>
  obtain⟨zero,hc,hd,hi⟩:=Wv hT ht;obtain⟨ha,_,⟨fs,hk,pl,hm,ho⟩,_⟩:=(hT _ _ ht).2.2.2;simp only at hc hd hi ha ho;split at h
  ·next hr=>
   obtain rfl:ps= #[]:=by cases ps;simp_all
   exact⟨_,h,jG fun env w S vs hM hl=>⟨_,_,_,_,[],[],zbo (e:=e.rep) (z:=e.z) (ha▸hc) ha hd (.inl ⟨fs,hk,pl,hm⟩) hi,trivial,trivial,fun u w' _ hf=>zn hf.1⟩⟩
  ·next i x hr=>
   obtain rfl:ps= #[(i,x)]:=by cases ps;simp_all
   split at h
   ·next f hf=>
    obtain⟨y,h,hy⟩:=Xv h;refine⟨_,h,jG fun env w S vs hM hl=>⟨_,_,_,_,[fV f.f.rep y (ev env x)],[],ND (e:=e.rep) (f:=f.f.rep) (z0:=e.z) (y:=y) (ha▸hc) ha hi (aq hf e.z) ⟨fs,hk,hm⟩ (by rw[f.f.n_rep];exact ho i f hf) rfl (fun S w h=>h.1) rfl,trivial,⟨hy P vs env S w (yG hl (by simp[xaL])),trivial⟩,fun u w' _ hf=>zn hf.1⟩⟩
   ·cases h
  ·next ps' hu hv=>
   obtain⟨ys,h,he,hp⟩:=cG h;split at h
   ·next z hz=>
    refine⟨_,h,jG fun env w S vs hM hl=> ?_⟩;have hq:=hp P vs env S w fun x hx=>yG hl (by simpa[xaL]using hx);have hb:(ps.toList.map fun q:Nat×Operand=>(q.1,ev env q.2)).map (·.1)=xfh 0 (ps.toList.map fun q:Nat×Operand=>(q.1,ev env q.2)).length:=by rw[xcM,xaM];exact he
    have hj:=fun(S:Nat->Prop) (w:World) (h:PH S w (Nf n e) ys (ps.toList.map fun q:Nat×Operand=>(q.1,ev env q.2)))=>PA (pl:=pl) (o:=0) (j:=0) (fun i f hf=>by rw[xaS,xaS];exact ho i f hf) hb h hz;exact⟨_,_,_,_,[phF _ ys (ps.toList.map fun q:Nat×Operand=>(q.1,ev env q.2))],[],Dz (e:=e.rep) (z:=z) (xV:=ps.toList) (ha▸hc) ha hd rfl (.inl ⟨fs,hk,pl,hm,fun S w h=>(hj S w h.1).1⟩) (fun S w h=>(hj S w h.1).2),trivial,⟨hq,trivial⟩,fun u w' _ hf=>zn hf.1⟩
   ·cases h
 ·next n e n' E B ht=>
  obtain⟨hg,h⟩:=yh h;rw[xam]at hg;have hn:=z8 hg.1;subst hn;obtain⟨b2,z2,hs⟩:=R9 hT hg.2;obtain⟨ys,h,he,hp⟩:=cG h;obtain⟨zero,hc,hd,hi⟩:=Wv hT ht;refine⟨_,h,jG fun env w S vs hM hl=> ?_⟩;have hq:=hp P vs env S w fun x hx=>yG hl (by simpa[xaL]using hx);have hb:(ps.toList.map fun q:Nat×Operand=>(q.1,ev env q.2)).map (·.1)=xfh 0 (ps.toList.map fun q:Nat×Operand=>(q.1,ev env q.2)).length:=by rw[xcM,xaM];exact he
  have hj:=fun(S:Nat->Prop) (w:World) (h:PH S w (rY n' e) ys (ps.toList.map fun q:Nat×Operand=>(q.1,ev env q.2)))=>Bg hb h;exact⟨_,_,_,_,[phF _ ys (ps.toList.map fun q:Nat×Operand=>(q.1,ev env q.2))],[],Dz (e:=(Ty.a n' e).rep) (z:=cB n' e ys) (xV:=ps.toList) hc rfl hd rfl (.inr ⟨_,_,_,_,_,_,OI hT ht,hs,fun S w h=>by have:=(hj S w h.1).1;rwa[xcI]at this⟩) (fun S w h=>⟨Ug n' e ys,(hj S w h.1).2⟩),trivial,⟨hq,trivial⟩,fun u w' _ hf=>zn hf.1⟩
 ·cases h
theorem R6{s E:TypeId}{e:Ty}{B:Nat}(hT:zS P cf.tt)(hL:jy P cf.tt)(h:ZG cf s=some ⟨.l e,.sl E,B⟩):0<e.rep.n:=by
 obtain⟨ti,h1,rfl⟩:=hL _ _ _ _ h;exact(hT _ _ h1).2.2.1
theorem zhq(hT:zS P cf.tt)(hL:jy P cf.tt){n:Nat}{ps:Array (Nat×Operand)}{k:List (Nat×Dv)->Option R}(h:zex cf cx σ t n ps.toList k=some r): ∃l,k l=some r/\ES P ⟨d,.buildSlice t n ps,ty,pos,aft,g⟩ cx σ F l:=by
 unfold zex at h;split at h
 ·next e E B ht=>
  obtain⟨ha,h⟩:=yh h;have ha:=xbH ha;rw[<-e.n_rep]at ha;obtain⟨ys,h,hc,hd⟩:=cG h;obtain⟨bytes,zero,he⟩:=W8 hT hL ht;refine⟨_,h,jG fun env w S vs hM hl=> ?_⟩;have hg:=hd P vs env S w fun x hx=>yG hl (by simpa[xaL]using hx);have hb:(ps.toList.map fun q:Nat×Operand=>(q.1,ev env q.2)).map (·.1)=xfh 0 (ps.toList.map fun q:Nat×Operand=>(q.1,ev env q.2)).length:=by rw[xcM,xaM];exact hc
  have hj:=fun(S:Nat->Prop) (w:World) (h:PH S w (rY n e) ys (ps.toList.map fun q:Nat×Operand=>(q.1,ev env q.2)))=>Bg hb h;exact⟨_,_,_,_,[phF _ ys (ps.toList.map fun q:Nat×Operand=>(q.1,ev env q.2))],[],rF (e:=e.rep) (zs:=cB n e ys) (xV:=ps.toList) (vd hT ht) he (R6 hT hL ht) (Ug n e ys) ha rfl (fun S w h=>by have:=(hj S w h.1).1;rwa[xcI]at this) (fun S w h=>(hj S w h.1).2),trivial,⟨hg,trivial⟩,fun u w' _ hf=>zn hf.1⟩
 ·cases h
theorem Sx: ∀{xs:List Operand} {l:List PD},Q7 cx σ xs=some l->l.length=xs.length/\ ∀(P:Program) vs env S w,(∀x∈xs,ZA P vs env S w cx σ x)->zz S (CC l (xs.map (ev env))) w
 |[],l,h=>by simp only[Q7,xaw]at h;subst h;exact⟨rfl,fun _ _ _ _ _ _=>trivial⟩
 |x::xs,l,h=>by
  unfold Q7 at h;split at h
  ·next t y l' hx hr=>
   simp only[xaw]at h;subst h;obtain⟨h1,h2⟩:=Sx hr;exact⟨by simp[h1],fun P vs env S w hl=>⟨zk hx (hl x (FS)),h2 P vs env S w fun z hz=>hl z (H1 _ hz)⟩⟩
  ·cases h
theorem zg8{f:Go.Fn}{first cs:Array Operand}{k:List (Nat×Dv)->Option R}(h:zeu cx σ f first.toList cs.toList k=some r): ∃l,k l=some r/\ES P ⟨d,.makeFunc f first cs,ty,pos,aft,g⟩ cx σ F l:=by
 unfold zeu at h;split at h
 ·next _ _ _ f' l hf hc=>
  obtain rfl:first= #[]:=by cases first;simp_all
  obtain⟨h1,h2⟩:=Sx hc;refine⟨_,h,zD fun env w S vs hl=>⟨_,ziw (xs:=cs.toList) rfl w,zn ?_⟩⟩;exact⟨_,rfl,by simp[h1],h2 P vs env S w fun x hx=>yG hl (by simpa[xaL]using hx)⟩
 ·cases h
end
end
section
section
variable{P:Program}{cf:Cf}{cx σ:Sg}{F:List MF}{vs:Nat->Value}{env:yM}{S:Nat->Prop}{w:World}{R:Type}{r:R}
 {d:Option Tmp} {ty t yt:TypeId} {pos:String} {aft:Array Edge} {g:Option (Nat×Bool)} {x y:Operand}
theorem tu{A B C:Type}(h:B=C)(p:(A×B)=(A×C))(x:A×B):(p▸x:A×C)=(x.1,h▸x.2):=by subst h;rfl
theorem St.sub'{we:World}{Se:Nat->Prop}{ms:List MF}{Γ Δ:List FF}{w:World}(h:St we Se ms Γ w)(hs: ∀f∈Δ,f∈Γ):St we Se ms Δ w:=
 h.weak fun S w h=>qM.2 fun f hf=>qM.1 h f (hs f hf)
theorem zhS{t:Ty}{n:RM}{r:List RM}(x:aX (.d t::n::r)):(Yd (.d t::n::r)▸x:Ak ((RM.d t::n::r).map RM.ty))=((x.1,Yd (n::r)▸x.2):t.D×Ak ((n::r).map RM.ty)):=
 tu (A:=t.D) (Yd (n::r)) (Yd (.d t::n::r)) x
theorem zhB{t:Ty}{E:TypeId}{n:RM}{r:List RM}(x:aX (.own t E::n::r)):(Yd (.own t E::n::r)▸x:Ak ((RM.own t E::n::r).map RM.ty))=((x.1,Yd (n::r)▸x.2):(Ty.l t).D×Ak ((n::r).map RM.ty)):=
 tu (A:=List t.D) (Yd (n::r)) (Yd (.own t E::n::r)) x
theorem zaO{we:World}{Se:Nat->Prop}: ∀{rs:List RM} {x:aX rs} {us:List Value} {F:List MF} {G:List FF} {w:World},
 St we Se (uA rs x us++F) (uD rs x us++G) w->St we Se F (csF (rs.map RM.ty) (Yd rs▸x) us++G) w
 |[],_,_,_,_,_,h=>h
 |[.d t],x,us,F,G,w,h=>h
 |[.own t E],x,us,F,G,w,h=>by
  have h:St we Se (mO t.rep E (us.headD undef) x::F) G w:=h;exact BD 0 h rfl
 | .d t::n::r,x,us,F,G,w,h=>by
  rw[zhS];have h:St we Se (uA (n::r) x.2 us.tail++F) (uD (n::r) x.2 us.tail++(fV t.rep x.1 (us.headD undef)::G)) w:=St.sub' (by simpa[uA,uD,rmM,rmF]using h) (by simp;rintro f (h|h|h)<;>simp[h]);have:=zaO h;exact St.sub' this (by
   intro f hf;rcases xaa.1 hf with hf|hf
   ·rcases xad.1 hf with rfl|hf
    ·exact xaa.2 (.inr (FS))
    ·exact xaa.2 (.inl hf)
   ·exact xaa.2 (.inr (H1 _ hf)))
 | .own t E::n::r,x,us,F,G,w,h=>by
  rw[zhB];have h:St we Se (mO t.rep E (us.headD undef) x.1::(uA (n::r) x.2 us.tail++F)) (uD (n::r) x.2 us.tail++G) w:=h;have h:=BD 0 h rfl;have h:St we Se (uA (n::r) x.2 us.tail++F) (uD (n::r) x.2 us.tail++(fV (eS t.rep) x.1 (us.headD undef)::G)) w:=St.sub' h (by simp;rintro f (h|h|h)<;>simp[h]);have:=zaO h;exact St.sub' this (by
   intro f hf;rcases xaa.1 hf with hf|hf
   ·rcases xad.1 hf with rfl|hf
    ·exact xaa.2 (.inr (FS))
    ·exact xaa.2 (.inl hf)
   ·exact xaa.2 (.inr (H1 _ hf)))
theorem CM: ∀{rs:List RM} {x:aX rs} {i:Nat},Nc rs x i=PK (rs.map RM.ty) (Yd rs▸x) i
 |[],_,_=>rfl
 |[.d _],_,_=>rfl
 |[.own _ _],_,_=>rfl
 | .d t::n::r,x,i=>by rw[zhS];show(i,Dv.d t x.1)::Nc (n::r) x.2 (i+1)=_;rw[CM];rfl
 | .own t E::n::r,x,i=>by rw[zhB];show(i,Dv.d (.l t) x.1)::Nc (n::r) x.2 (i+1)=_;rw[CM];rfl
theorem EV: ∀rs:List RM,QO rs=zcy (rs.map RM.ty)
 |[]=>rfl
 |[_]=>rfl
 |_::_::_=>rfl
theorem Pg: ∀{ts:List Ty} {x:Ak ts} {i:Nat} {us:List Value},zz S (csF ts x us) w->us.length=ts.length-> ∀e∈PK ts x i,∃j u,e.1=i+j/\us[j]? =some u/\(va P vs e.2 u).p S w
 |[],_,_,_,_,_,e,he=>absurd he Nm
 |[t],x,i,[],h,hl,e,he=>by cases hl
 |[t],x,i,u::us,h,hl,e,he=>by
  obtain rfl:=xai.1 he;exact⟨0,u,rfl,rfl,h.1⟩
 |t::s::r,x,i,[],h,hl,e,he=>by cases hl
 |t::s::r,x,i,u::us,h,hl,e,he=>by
  rcases xad.1 he with rfl|he
  ·exact⟨0,u,rfl,rfl,h.1⟩
  ·obtain⟨j,v,h1,h2,h3⟩:=Pg (i:=i+1) h.2 (by simpa using hl) e he;exact⟨j+1,v,by omega,by simpa using h2,h3⟩
theorem ou: ∀{ts:List Ty} {x:Ak ts} {us:List Value},zz S (csF ts x us) w->us.length=ts.length-> ∀e∈PK ts x (bif zcy ts then 0 else 1),(xF P vs e.2 (ZH us) e.1).p S w
 |[],_,_,_,_,e,he=>absurd he Nm
 |[t],x,[],_,hl,_,_=>by cases hl
 |[t],x,[v],h,hl,e,he=>by
  obtain rfl:=xai.1 he;exact h.1
 |[t],x,_::_::_,_,hl,_,_=>by simp at hl
 |t::s::q,x,[],_,hl,_,_=>by cases hl
 |t::s::q,x,[_],_,hl,_,_=>by simp at hl
 |t::s::q,x,v::v'::us,h,hl,e,he=>by
  obtain⟨j,u,h1,h2,h3⟩:=Pg (P:=P) (vs:=vs) h hl e he;obtain⟨i,dv⟩:=e;simp only[zcy,cond_false]at h1;obtain rfl:i=j+1:=by omega
  exact⟨(v::v'::us).toArray,u,rfl,by simpa using h2,h3⟩
theorem lF: ∀{cs:List W1} {f:FuncId} {s:W1},tJ cs f=some s->s∈cs/\s.f=f/\pC s.dom=true/\s.bk=0
 |c::cs,f,s,h=>by
  unfold tJ at h;cases hb:xan c.f f && (pC c.dom && xan c.bk 0)<;>rw[hb]at h
  ·obtain⟨h1,h2⟩:=lF h;exact⟨H1 _ h1,h2⟩
  ·simp only[cond_true,xaw]at h;subst h;rw[xam,xam]at hb;exact⟨FS,z8 hb.1,hb.2.1,z8 hb.2.2⟩
theorem cr: ∀{dom:List AM} {x:JW dom} {us:List Value},pC dom=true->YM dom x us=[]
 |[],_,_,_=>rfl
 | .d _::r,x,us,h=>cr (dom:=r) (x:=x.2) (us:=us.tail) h
 | .q _::r,x,us,h=>cr (dom:=r) (x:=x.2) (us:=us.tail) h
 | .fn _ _::r,x,us,h=>cr (dom:=r) (x:=x.2) (us:=us.tail) h
 | .own _ _::_,_,_,h=>by cases h
theorem CF: ∀{full:List AM} {cs:List PD} {z:JW full},Js full cs=some z->cs.length=full.length/\ ∀{S:Nat->Prop} {w:World} {cvs:List Value},cvs.length=cs.length->zz S (CC cs cvs) w->zz S (kE P full z cvs) w
 |[],[],_,_=>⟨rfl,fun _ _=>trivial⟩
 | .q t::r,c::cs,z,h=>by
  simp only[Js]at h;obtain⟨e,h⟩:=yi h;subst e;split at h
  ·next z' hz=>
   obtain rfl:=xcY h;obtain⟨h1,h2⟩:=CF hz;refine⟨by simp[h1],fun{S w cvs} hl ha=> ?_⟩
   cases cvs with
   |nil=>cases hl
   |cons v cvs=>exact⟨ha.1,h2 (by simpa using hl) ha.2⟩
  ·cases h
 |[],_::_,_,h=>by simp[Js]at h
 | .q _::_,[],_,h=>by simp[Js]at h
 | .d _::_,_,_,h=>by simp[Js]at h
 | .own _ _::_,_,_,h=>by simp[Js]at h
 | .fn _ _::_,_,_,h=>by simp[Js]at h
theorem SZ: ∀{full:List AM} {dom:List Ty} {x:aW dom} {cs:List PD} {z:JW full},Ay full dom x cs=some z->dom.length+cs.length=full.length/\
 ∀{S:Nat->Prop} {w:World} {us cvs:List Value},us.length=dom.length->cvs.length=cs.length->zz S (tsF dom x us) w->zz S (CC cs cvs) w->zz S (kE P full z (us++cvs)) w
 |full,[],x,cs,z,h=>by
  have h:Js full cs=some z:=by cases full<;>(try cases‹AM›)<;>simpa[Ay]using h
  obtain⟨h1,h2⟩:=CF (P:=P) h;refine⟨by simp[h1],fun{S w us cvs} hl hb _ ha=> ?_⟩;obtain rfl:=xbF.1 hl;exact h2 hb ha
 | .d t::r,s::dom,x,cs,z,h=>by
  simp only[Ay]at h;obtain⟨e,h⟩:=yi h;subst e;split at h
  ·next z' hz=>
   obtain rfl:=xcY h;obtain⟨h1,h2⟩:=SZ hz;refine⟨by simp;omega,fun{S w us cvs} hl hb ht ha=> ?_⟩
   cases us with
   |nil=>cases hl
   |cons v us=>exact⟨ht.1,h2 (by simpa using hl) hb ht.2 ha⟩
  ·cases h
 |[],_::_,_,_,_,h=>by simp[Ay]at h
 | .q _::_,_::_,_,_,_,h=>by simp[Ay]at h
 | .own _ _::_,_::_,_,_,_,h=>by simp[Ay]at h
 | .fn _ _::_,_::_,_,_,_,h=>by simp[Ay]at h
theorem Rk{A B:Type}(h:A=B){o:Option A}{r:B}(ho:(h▸o:Option B)=some r): ∃r':A,o=some r'/\(h▸r':B)=r:=by
 subst h;exact⟨r,ho,rfl⟩
theorem aO{s:W1}(hs:y5 P s)(hn:pC s.dom=true)(hk:s.bk=0){z:JW s.dom}{q:aX s.cod}(hz:s.M z=some q){us:List Value}(hl:us.length=s.dom.length):
 Fn P s.f us.toArray (kE P s.dom z us) ZH (fun us=>csF (s.cod.map RM.ty) (Yd s.cod▸q) us) (fun us=>us.length=s.cod.length):=by
 have h:=hs.plain hk hz hl;rw[cr hn]at h;refine MO.frozen h fun u w' we Se ha=> ?_;have:=zaO (rs:=s.cod) (x:=q) (us:=u) (F:=[]) (G:=[]) (by simpa using ha);simpa using this
theorem Fn.weakΓ{U:Type}{f:FuncId}{args:Array Value}{Γ Γ':List FF}{val:U->Value}{facts:U->List FF}{ok:U->Prop}(h:Fn P f args Γ val facts ok)(hs: ∀S w,zz S Γ' w->zz S Γ w):Fn P f args Γ' val facts ok:=
 fun w Se h1 h2=>h w Se h1 (hs Se w h2)
theorem RU(hC: ∀s∈cf.cs,y5 P s){v:Option Dv}{dom cod:List Ty}{k:(aW dom->Option (Ak cod))->Option R}(h:asF cf σ v dom cod k=some r):
 ∃g,k g=some r/\ ∀vs S w (dv:Dv) u,v=some dv->(va P vs dv u).p S w->(fnF P dom cod g u).p S w:=by
 unfold asF at h;split at h
 ·next f c=>
  split at h
  ·next s hs=>
   obtain⟨h1,h2,h3,h4⟩:=lF hs;have hf:=hC s h1;split at h
   ·next he _=>
    subst he;refine⟨_,h,fun vs S w dv u hd hh=> ?_⟩;cases hd;obtain⟨cs,hu,hi,hj⟩:=hh;refine⟨f,cs,CC c cs,hu,⟨h2▸hf.1,fun x q hx us hl=> ?_⟩,hj⟩;simp only at hx;split at hx
    ·next z hz=>
     obtain⟨q',hk,hm⟩:=Rk _ hx;obtain⟨hp,hb⟩:=SZ (P:=P) hz;have hg:=aO hf h3 h4 hk (us:=us++cs) (by simp;omega);rw[h2]at hg;subst hm;refine(hg.weakΓ fun S w ha=>hb hl hi (zz.left ha) (zz.right ha)).ok_mono fun us hn=>by simpa using hn
    ·cases hx
   ·cases h
  ·cases h
 ·next d' c' g'=>
  split at h
  ·next hd hc _ _=>
   subst hd;subst hc;exact⟨_,h,fun vs S w dv u ho hh=>by cases ho;exact hh⟩
  ·cases h
 ·cases h
end
end
section
def aI(P:Program)(ex:List (Nat×Bool)):Prop:= ∀f b,Q0 ex f=some b-> ∃fn,P.funcs[f]? =some fn/\(fn.name== "runtime.NumGoroutine")=false/\fn.body=none/\(xdW fn).isNone=true/\
 (b=true->xeM fn=some (fun args=>do
  let(x,y,c)<-xbJ "Add64" args
  pure (xbQ ((x+y+c) % xaZ) ((x+y+c)/xaZ))))/\
 (b=false->xeM fn=some (fun args=>do
  let(x,y,b)<-xbJ "Sub64" args
  pure (xbQ ((x+xaZ-y-b) % xaZ) (if x<y+b then 1 else 0))))
section
variable{P:Program}{cf:Cf}{cx σ:Sg}{F:List MF}{vs:Nat->Value}{env:yM}{S:Nat->Prop}{w:World}{R:Type}{r:R}
 {d:Option Tmp} {ty t yt:TypeId} {pos:String} {aft:Array Edge} {g:Option (Nat×Bool)} {x y:Operand}
theorem zgo{x y z:Nat}{k:List (Nat×Dv)->Option R}(h:exU true x y z k=some r):z<=1/\ ∃p q:Nat,p=(x+y+z) % 18446744073709551616/\q=(x+y+z)/18446744073709551616/\k [(1,.d .u p),(2,.d .u q)]=some r:=by
 obtain⟨h1,h⟩:=kh h;obtain⟨p,hp,h⟩:=xm h;obtain⟨q,hq,h⟩:=xm h;exact⟨h1,p,q,hp,hq,h⟩
theorem zgZ{x y z:Nat}{k:List (Nat×Dv)->Option R}(h:exU false x y z k=some r):z<=1/\ ∃p q:Nat,p=(x+18446744073709551616-y-z) % 18446744073709551616/\q=(if x<y+z then 1 else 0)/\k [(1,.d .u p),(2,.d .u q)]=some r:=by
 obtain⟨h1,h⟩:=kh h;obtain⟨p,hp,h⟩:=xm h;obtain⟨q,hq,h⟩:=xm h;exact⟨h1,p,q,hp,hq,h⟩
theorem dp(hC: ∀s∈cf.cs,y5 P s): ∀{dom:List AM} {xs:List Operand} {cs:List PD} {k:JW dom->Option R},Xy cf cx σ dom xs cs k=some r->
 ∃z,k z=some r/\xs.length+cs.length=dom.length/\ ∀vs env S w,(∀x∈xs,ZA P vs env S w cx σ x)-> ∀cvs:List Value,cvs.length=cs.length->zz S (CC cs cvs) w->zz S (kE P dom z (xs.map (ev env)++cvs)) w
 |[],[],[],k,h=>⟨(),h,rfl,fun _ _ _ _ _ _ _ _=>trivial⟩
 | .q t::dom,[],c::cs,k,h=>by
  simp only[Xy]at h;obtain⟨e,h⟩:=yi h;subst e;obtain⟨z,h1,h2,h3⟩:=dp hC h;refine⟨_,h1,by simp at h2⊢;omega,fun vs env S w hl cvs ha hb=> ?_⟩
  cases cvs with
  |nil=>cases ha
  |cons v cvs=>exact⟨hb.1,h3 vs env S w hl cvs (by simpa using ha) hb.2⟩
 | .d t::dom,x::xs,cs,k,h=>by
  simp only[Xy]at h;obtain⟨y,h,hy⟩:=Xv h;obtain⟨z,h1,h2,h3⟩:=dp hC h;exact⟨_,h1,by simp at h2⊢;omega,fun vs env S w hl cvs ha hb=>⟨hy P vs env S w (hl x (FS)),h3 vs env S w (fun z hz=>hl z (H1 _ hz)) cvs ha hb⟩⟩
 | .q t::dom,x::xs,cs,k,h=>by
  simp only[Xy]at h;split at h
  ·next s y hx=>
   obtain⟨e,h⟩:=yi h;subst e;obtain⟨z,h1,h2,h3⟩:=dp hC h;exact⟨_,h1,by simp at h2⊢;omega,fun vs env S w hl cvs ha hb=>⟨zk hx (hl x (FS)),h3 vs env S w (fun z hz=>hl z (H1 _ hz)) cvs ha hb⟩⟩
  ·cases h
 | .fn dom' cod::dom,x::xs,cs,k,h=>by
  simp only[Xy]at h;obtain⟨f,h,hf⟩:=RU hC h;obtain⟨z,h1,h2,h3⟩:=dp hC h;refine⟨_,h1,by simp at h2⊢;omega,fun vs env S w hl cvs ha hb=>⟨?_,h3 vs env S w (fun z hz=>hl z (H1 _ hz)) cvs ha hb⟩⟩
  cases hv:xU cx σ x with
  |none=>rename_i h0;rw[hv]at h0;simp[asF]at h0
  |some v=>exact hf vs S w v _ hv (zk hv (hl x (FS)))
 |[],_::_,_,_,h=>by simp[Xy]at h
 |[],[],_::_,_,h=>by simp[Xy]at h
 | .d _::_,[],_,_,h=>by simp[Xy]at h
 | .own _ _::_,_,_,_,h=>by simp[Xy]at h
 | .fn _ _::_,[],_,_,h=>by simp[Xy]at h
 | .q _::_,[],[],_,h=>by simp[Xy]at h
theorem BG: ∀{dom:List Ty} {xs:List Operand} {k:aW dom->Option R},oC cx σ dom xs k=some r->
 ∃z,k z=some r/\xs.length=dom.length/\ ∀(P:Program) vs env S w,(∀x∈xs,ZA P vs env S w cx σ x)->zz S (tsF dom z (xs.map (ev env))) w
 |[],[],k,h=>⟨(),h,rfl,fun _ _ _ _ _ _=>trivial⟩
 |t::dom,x::xs,k,h=>by
  simp only[oC]at h;obtain⟨y,h,hy⟩:=Xv h;obtain⟨z,h1,h2,h3⟩:=BG h;exact⟨_,h1,by simp[h2],fun P vs env S w hl=>⟨hy P vs env S w (hl x (FS)),h3 P vs env S w (fun z hz=>hl z (H1 _ hz))⟩⟩
 |[],_::_,_,h=>by simp[oC]at h
 |_::_,[],_,h=>by simp[oC]at h
theorem zfs(hC: ∀s∈cf.cs,y5 P s)(hX:aI P cf.ex){f:Operand}{ags:Array Operand}{ts:Array TypeId}{k:List (Nat×Dv)->Option R}(h:zaa cf cx σ f ags.toList k=some r):
 ∃l,k l=some r/\ES P ⟨d,.call ⟨.value f,ags,ts⟩,ty,pos,aft,g⟩ cx σ F l:=by
 have hf: ∀{vs env S w},(∀t'∈yx (.call ⟨.value f,ags,ts⟩),Lk P vs env S w cx σ t')->ZA P vs env S w cx σ f:=fun hl=>yG hl (by simp[xaL,xed]);have ha: ∀{vs env S w},(∀t'∈yx (.call ⟨.value f,ags,ts⟩),Lk P vs env S w cx σ t')-> ∀x∈ags.toList,ZA P vs env S w cx σ x:=fun hl x hx=>yG hl (by simp only[xaL,xed,Array.toList_append,xaa];exact .inr hx);unfold zaa at h;split at h
 ·next f0 cs hc=>
  split at h
  ·next s hs=>
   obtain⟨h1,h2,h3,h4⟩:=lF hs;have hr:=hC s h1;obtain⟨z,h,hd,hz⟩:=dp hC h;obtain⟨q,hq,h⟩:=ny h;refine⟨_,h,jG fun env w S vs hM hl=> ?_⟩;obtain⟨cvs,hv,ht,hu⟩:=zk hc (hf hl);have hk:=aO hr h3 h4 hq (us:=ags.toList.map (ev env)++cvs) (by simp at hd⊢;omega);rw[h2]at hk;refine⟨_,_,_,_,kE P s.dom z (ags.toList.map (ev env)++cvs),[],bC (asv:=ags.toList) (h2▸hr.1) hv hk rfl (fun S w h=>h),trivial,hz vs env S w (ha hl) cvs ht hu,fun us w' hm hn=> ?_⟩;unfold zaW;rw[CM,EV];exact ou hn (by simpa using hm)
  ·split at h
   ·next _ _ _ b x y z hb hD=>
    obtain rfl:ags= #[x,y,z]:=by cases ags;simp_all
    obtain⟨hw,h⟩:=yh h
    cases f with
    |func f1=>
     simp only[xU,xaw,Dv.fn.injEq]at hc;obtain⟨rfl,_⟩:=hc;obtain⟨fn,e1,e2,e3,e4,e5,e6⟩:=hX _ _ hb;unfold exD at h;split at h
     ·next x' y' z' hx hy hz=>
      cases b
      ·obtain⟨hg,p,q,hp,hq,h⟩:=zgZ h;refine⟨_,h,zD fun env w S vs hl=> ?_⟩;have hi:=xC hx (ha hl x (by simp));have hj:=xC hy (ha hl y (by simp));have ho:=xC hz (ha hl z (by simp));refine⟨_,v_2 (zbN e1 e2 e3 e4 (e6 rfl) hi.1 hj.1 ho.1 hg) hp hq w,fun e he=> ?_⟩;rcases xad.1 he with rfl|he
       ·exact⟨_,_,rfl,rfl,qm (YX hp)⟩
       ·obtain rfl:=xai.1 he;exact⟨_,_,rfl,rfl,qm (zcH hi.2 hj.2 hg hq)⟩
      ·obtain⟨hg,p,q,hp,hq,h⟩:=zgo h;refine⟨_,h,zD fun env w S vs hl=> ?_⟩;have hi:=xC hx (ha hl x (by simp));have hj:=xC hy (ha hl y (by simp));have ho:=xC hz (ha hl z (by simp));refine⟨_,v_2 (zbh e1 e2 e3 e4 (e5 rfl) hi.1 hj.1 ho.1 hg) hp hq w,fun e he=> ?_⟩;rcases xad.1 he with rfl|he
       ·exact⟨_,_,rfl,rfl,qm (YX hp)⟩
       ·obtain rfl:=xai.1 he;exact⟨_,_,rfl,rfl,qm (zb6 hi.2 hj.2 hg hq)⟩
     ·cases h
    |_=>simp[zg6]at hw
   ·cases h
 ·next dom cod g' hc=>
  obtain⟨z,h,hd,hz⟩:=BG h;obtain⟨q,hq,h⟩:=ny h;refine⟨_,h,jG fun env w S vs hM hl=> ?_⟩;obtain⟨fid,Q7,FG,hv,⟨hb,hA⟩,hB⟩:=zk hc (hf hl);have hk:=hA z q hq (ags.toList.map (ev env)) (by simpa using hd);exact⟨_,_,_,_,tsF dom z (ags.toList.map (ev env))++FG,[],bC (asv:=ags.toList) hb hv hk rfl (fun S w h=>h),trivial,zz.append (hz P vs env S w (ha hl)) hB,fun us w' hm hn=>ou hn hm⟩
 ·cases h
theorem zen(hT:zS P cf.tt)(hL:jy P cf.tt)(hC: ∀s∈cf.cs,y5 P s)(hX:aI P cf.ex){op:Op}{k:List (Nat×Dv)->Option R}(h:zfD cf cx σ op k=some r): ∃l,k l=some r/\ES P ⟨d,op,ty,pos,aft,g⟩ cx σ F l:=by
 unfold zfD at h;split at h
 ·exact PR (.inl rfl) h
 ·exact PR (.inr rfl) h
 ·exact zhN h
 ·exact zfB h
 ·exact zgn h
 ·exact zg1 h
 ·exact bop h (zcO hT)
 ·exact zhx hT h
 ·exact zej hT h
 ·exact zcE hT hL h
 ·exact za9 hT h
 ·exact Tv hT h
 ·exact zbq hT hL h
 ·exact zhH hT h
 ·exact zhv h
 ·exact zbb hT h
 ·exact zhq hT hL h
 ·exact zg8 h
 ·exact zhz hT h
 ·exact zhe (b:=true) h
 ·exact zhe (b:=false) h
 ·exact zfs hC hX h
 ·cases h
end
end
section
def Hs(P:Program)(s:EZ):Prop:=
 pW P s.f=true/\ ∀(x:aW s.dom) (vs:List Value),vs.length=s.dom.length->Fn P s.f vs.toArray (tsF s.dom x vs) (fun v:Value=>v) (fun v=>[zd1 s.g (s.mc x) v]) (fun _=>True)
def HC(P:Program)(s:mJ):Prop:=
 pW P s.f=true/\ ∀xss ix r a p lo n xss',s.M xss ix r a p lo n=some xss'-> ∀(u hr hv:Value),(w4 u)[r]? =some hr->Dc (yY u) lo n hv->VM a->VM p->
  ∀we Se F G w,St we Se (fQ s.t.rep s.E s.E1 u xss ix::F) G w->Calls P s.f #[hr,.int .i64 a,.int .i64 p,hv] w fun e w'=> ∃v u',e= .returned v/\yY u'=yY u/\St we Se (fQ s.t.rep s.E s.E1 u' xss' ix::F) G w'
def R2(P:Program)(s:ra):Prop:=
 pW P s.f=true/\ ∀(x:JW s.dom) (X Y:Type) (mX:X->Value->MF) (mY:Y->Value->MF) (g:List s.t.D->X->Option (List s.t.D×(X⊕Y))) (x0:X) (r:X⊕Y),s.M x g x0=some r-> ∀(l:Nat) (vs:List Value),vs.length=s.dom.length->Ek P l s.t.rep s.E mX mY g->
  ∀u we Se F G w,St we Se (mX x0 u::F) (kE P s.dom x vs++G) w->Calls P s.f (.func (.yield l) #[] #[]::vs).toArray w fun e w'=>(∃v,e= .returned v)/\ ∃u',St we Se (xfo (fun x=>mX x u') (fun y=>mY y u') r::F) G w'
structure pX(P:Program)(cf:Cf):Prop where
 ex:aI P cf.ex
 cl: ∀s∈cf.cl,Hs P s
 ms: ∀s∈cf.ms,HC P s
 is: ∀s∈cf.is,R2 P s
 pp:P=Tryz.prog
section
variable{P:Program}{cf:Cf}{cx σ:Sg}{F:List MF}{vs:Nat->Value}{env:yM}{S:Nat->Prop}{w:World}{R:Type}{r:R}
 {d:Option Tmp} {ty t yt:TypeId} {pos:String} {aft:Array Edge} {g:Option (Nat×Bool)} {x y:Operand}
theorem zak{f:FuncId}: ∀{l:List mJ} {s:mJ},Sb l f=some s->s∈l/\s.f=f
 |c::l,s,h=>by
  unfold Sb at h;cases hb:xan c.f f<;>rw[hb]at h
  ·obtain⟨h1,h2⟩:=zak h;exact⟨H1 _ h1,h2⟩
  ·simp only[cond_true,xaw]at h;subst h;exact⟨FS,z8 hb⟩
theorem Sc{f:FuncId}: ∀{l:List EZ} {s:EZ},P8 l f=some s->s∈l/\s.f=f
 |c::l,s,h=>by
  unfold P8 at h;cases hb:xan c.f f<;>rw[hb]at h
  ·obtain⟨h1,h2⟩:=Sc h;exact⟨H1 _ h1,h2⟩
  ·simp only[cond_true,xaw]at h;subst h;exact⟨FS,z8 hb⟩
theorem O6{f:FuncId}: ∀{l:List ra} {s:ra},zbn l f=some s->s∈l/\s.f=f
 |c::l,s,h=>by
  unfold zbn at h;cases hb:xan c.f f<;>rw[hb]at h
  ·obtain⟨h1,h2⟩:=O6 h;exact⟨H1 _ h1,h2⟩
  ·simp only[cond_true,xaw]at h;subst h;exact⟨FS,z8 hb⟩
theorem Ax{α:Type}{e:zV α}{E E1:TypeId}{u:Value}{xss:List (List α)}{ix:List Nat}(h:(fQ e E E1 u xss ix).p S w):(w4 u).length=xss.length/\(mO (uI (w4 u)) E (yY u) ix).p S w/\yv S (wh e E1 (w4 u) xss) w:=⟨h.1.1,h.1.2.1,h.1.2.2⟩
theorem fI{α:Type}{e:zV α}{E E1:TypeId}{u v:Value}{xss:List (List α)}{ix:List Nat}{r:Nat}(h:(fQ e E E1 u xss ix).p S w)(hr:(w4 u)[r]? =some v):(mO e E1 v (jl xss r)).p S w/\r<xss.length:=by
 obtain⟨h1,_,h3⟩:=Ax h;have hl:=(xar.1 hr).1;have h4:xss[r]? =some (jl xss r):=by
  unfold jl;rw[UV,IR (by omega)];rfl
 exact⟨yv.get h3 (Wh hr h4),by omega⟩
theorem Rn(hT:zS P cf.tt)(hL:jy P cf.tt){k:List (Nat×Dv)->Option R}(h:AE cf cx σ t x y k=some r): ∃l,k l=some r/\ES P ⟨d,.indexAddr t x y,ty,pos,aft,g⟩ cx σ F l:=by
 have hx: ∀{vs env S w},(∀t'∈yx (.indexAddr t x y),Lk P vs env S w cx σ t')->ZA P vs env S w cx σ x:=fun hl=>yG hl (by simp[xaL]);have hy: ∀{vs env S w},(∀t'∈yx (.indexAddr t x y),Lk P vs env S w cx σ t')->ZA P vs env S w cx σ y:=fun hl=>yG hl (by simp[xaL]);unfold AE at h;split at h
 ·next e E B o ht ha=>
  split at h
  ·next s E' E1 xss ix ho=>
   obtain⟨bytes,zero,hb⟩:=W8 hT hL ht;obtain⟨j,hj,h,hc⟩:=Gk h;refine⟨_,h,?_⟩;intro env w S vs hS hM hl;obtain⟨ik,hd⟩:=hc P vs env S w (hy hl);have hm:(fQ s.rep E' E1 (vs o) xss ix).p S w:=ux hM ho;obtain⟨b,cap,hv,_⟩:=Qg (Ax hm).2.1 (xbe (xaj _) hj);have he:ev env x=yY (vs o):=zk ha (hx hl);exact jZ.of_value (iL (vd hT ht) hb (he.trans hv) hd hj w) ⟨yp.refl _ _,zn ⟨b,_,_,hv,hj,rfl⟩⟩
  ·cases h
 ·next e E B o lo n ht ha=>
  split at h
  ·next s E' E1 xss ix ho=>
   obtain⟨bytes,zero,hb⟩:=W8 hT hL ht;obtain⟨j,hj,h,hc⟩:=Gk h;refine⟨_,h,?_⟩;intro env w S vs hS hM hl;obtain⟨ik,hd⟩:=hc P vs env S w (hy hl);rcases(zk ha (hx hl):Dc _ _ _ _).old with⟨b,m,cap,c,q1,q2,q3,q4,q5⟩|⟨q1,_⟩
   ·refine jZ.of_value (iL (vd hT ht) hb q5 hd hj w) ⟨yp.refl _ _,zn ⟨b,_,_,q1,by omega,?_⟩⟩;show Value.pointer (some ⟨b,0+lo*1+j*1,none⟩)=Value.pointer (some ⟨b,0+(lo+j)*1,none⟩);rw[xaV,xcW]
   ·omega
  ·cases h
 ·next e E B o p ht ha=>
  split at h
  ·next s E' E1 xss ix ho=>
   obtain⟨hf,h1⟩:=yi h;cases hf;obtain⟨bytes,zero,hb⟩:=W8 hT hL ht;obtain⟨j,hj,h,hc⟩:=Gk h1;refine⟨_,h,?_⟩;intro env w S vs hS hM hl;obtain⟨ik,hd⟩:=hc P vs env S w (hy hl);have hm:(fQ e.rep E' E1 (vs o) xss ix).p S w:=ux hM ho;have he:(w4 (vs o))[p]? =some (ev env x):=zk ha (hx hl);obtain⟨b,cap,hv,_⟩:=Qg (fI hm he).1 (xbe (xaj _) hj);refine jZ.of_value (iL (vd hT ht) hb hv hd hj w) ⟨yp.refl _ _,zn ⟨fun z=>Sub.self e.rep z,b,_,_,by rw[<-hv];exact he,hj,by simp[Fl.self]⟩⟩
  ·cases h
 ·cases h
theorem zcb(hT:zS P cf.tt){k:List (Nat×Dv)->Option R}(h:Hl cf cx σ t x k=some r): ∃l,k l=some r/\ES P ⟨d,.load t x,ty,pos,aft,g⟩ cx σ F l:=by
 have hx: ∀{vs env S w},(∀t'∈yx (.load t x),Lk P vs env S w cx σ t')->ZA P vs env S w cx σ x:=fun hl=>yG hl (by simp[xaL]);unfold Hl at h;split at h
 ·next e E B o j ht hd=>
  split at h
  ·next s E' E1 xss ix ho=>
   obtain⟨zero,he,_⟩:=Wv hT ht;obtain⟨q,hq,h⟩:=xm h;refine⟨_,h,jG fun env w S vs hM hl=> ?_⟩;have hm:(fQ s.rep E' E1 (vs o) xss ix).p S w:=ux hM ho;obtain⟨b,m,cap0,h1,h2,h3⟩:=zk hd (hx hl);obtain⟨a1,a2,a3⟩:=Ax hm;have hn:m=ix.length:=by
    obtain⟨cs,h5,h6⟩:=a2;rcases h5.2 with⟨hv,h7⟩|⟨g',cap',cur,hv,_⟩
    ·rw[h1]at hv;cases hv
    ·rw[h1]at hv;cases hv;rfl
   obtain⟨b',cap',hv,hb⟩:=Qg a2 (by omega);rw[h1]at hv;cases hv;have ha:=Sub.rowT0 (uI (w4 (vs o))) cap0 ix j (ix.getD j 0) (getD_some 0 h2);exact⟨_,_,_,_,[],[mB (rowT (uI (w4 (vs o))) cap0) E' b ix],Qa 0 rfl h3 ha he,⟨hb,trivial⟩,trivial,fun u w' _ hf=>zn (by
    have:=zdI hf.1;rw[<-hq]at this;exact this)⟩
  ·cases h
 ·next ti o e p j f hg hd=>
  split at h
  ·next s E' E1 xss ix ho=>
   obtain⟨hc,h1⟩:=yi h;cases hc;obtain⟨q,hq,h2⟩:=xm h1;obtain⟨hc,h⟩:=yi h2;obtain⟨zero,he,_⟩:=Wv hT hg;obtain⟨off,ff,gt,st⟩:=f;simp only at hc;subst hc;refine⟨_,h,jG fun env w S vs hM hl=> ?_⟩;have hm:(fQ e.rep E' E1 (vs o) xss ix).p S w:=ux hM ho;obtain⟨h0,b,m,cap,h1,h2,h3⟩:=zk hd (hx hl);have hr:=(fI hm h1).1;have hn:m=(jl (α:=e.D) xss p).length:=by
    obtain⟨cs,h5,h6⟩:=hr;rcases h5.2 with⟨hv,h7⟩|⟨g',cap',cur,hv,_⟩
    ·cases hv
    ·cases hv;rfl
   obtain⟨b',cap',hv,hb⟩:=Qg hr (by omega);cases hv;have ha:=(Sub.rowT0 e.rep cap (jl (α:=e.D) xss p) j ((jl (α:=e.D) xss p).getD j e.z) (getD_some e.z (by omega))).comp (h0 ((jl (α:=e.D) xss p).getD j e.z));subst hq;exact⟨_,_,_,_,[],[mB (rowT e.rep cap) E1 b (jl (α:=e.D) xss p)],Qa 0 rfl h3 ha he,⟨hb,trivial⟩,trivial,fun u w' _ hf=>zn hf.1⟩
  ·cases h
 ·cases h
theorem RI(hT:zS P cf.tt)(hL:jy P cf.tt){lo hi:Option Operand}{k:List (Nat×Dv)->Option R}(h:By cf cx σ t x lo hi k=some r): ∃l,k l=some r/\ES P ⟨d,.slice t x lo hi none,ty,pos,aft,g⟩ cx σ F l:=by
 have hx: ∀{vs env S w},(∀t'∈yx (.slice t x lo hi none),Lk P vs env S w cx σ t')->ZA P vs env S w cx σ x:=fun hl=>yG hl (by simp[xaL]);have hb: ∀{vs env S w z},lo=some z->(∀t'∈yx (.slice t x lo hi none),Lk P vs env S w cx σ t')->ZA P vs env S w cx σ z:=fun e hl=>yG hl (by simp[xaL,e]);have hc: ∀{vs env S w z},hi=some z->(∀t'∈yx (.slice t x lo hi none),Lk P vs env S w cx σ t')->ZA P vs env S w cx σ z:=fun e hl=>yG hl (by simp[xaL,e]);unfold By at h;split at h
 ·next e E B o ht hk=>
  split at h
  ·next s E' E1 xss ix ho=>
   obtain⟨bytes,zero,hd⟩:=W8 hT hL ht
   have key: ∀(l m:Nat),l<=m->m<=ix.length->k [(0,.mv o l (m-l))]=some r->(∀vs env S w,(∀t'∈yx (.slice t x lo hi none),Lk P vs env S w cx σ t')->((lo.map (ev env))=some (.int .i64 (l:Int))\/(lo=none/\l=0))/\((hi.map (ev env))=some (.int .i64 (m:Int))\/(hi=none/\m=ix.length)))->
    ∃l,k l=some r/\ES P ⟨d,.slice t x lo hi none,ty,pos,aft,g⟩ cx σ F l:=by
    intro l m h1 h2 h5 h4;refine⟨_,h5,fun env w S vs hS hM hl=> ?_⟩;obtain⟨h6,h7⟩:=h4 vs env S w hl;have he:ev env x=yY (vs o):=zk hk (hx hl);have hm:(fQ s.rep E' E1 (vs o) xss ix).p S w:=ux hM ho;rcases JF (Ax hm).2.1 with⟨hv,hf⟩|⟨b,cap,hv,hg,hn⟩
    ·rw[hf]at h2 h7;obtain rfl:m=0:=Nat.le_zero.1 h2;obtain rfl:l=0:=Nat.le_zero.1 h1;have hr:=Cd (P:=P) (w:=w) (vd hT ht) hd (h6.imp id fun q=>by rw[q.1];rfl) (h7.imp id fun q=>by rw[q.1];rfl);refine jZ.of_value (v:= .slice none 0 0) (w':=w) (by simp[execOp,he.trans hv,hr]) ⟨yp.refl _ _,zn (.inr ⟨hv,rfl,rfl,rfl⟩)⟩
    ·have hr:=o5 (P:=P) (b:=b) (o:=0) (n:=ix.length) (cap:=cap) (w:=w) (l:=l) (h:=m) (vd hT ht) hd (h6.imp id fun q=>⟨by rw[q.1];rfl,q.2⟩) (h7.imp id fun q=>⟨by rw[q.1];rfl,q.2⟩) h1 (xao h2 hg);rw[<-hv,<-he]at hr;refine jZ.of_value (v:= .slice (if cap=l then some ⟨b,0,none⟩else some ((⟨b,0,none⟩:Addr).add (l*1))) (m-l) (cap-l)) (w':=w) (by simp[execOp,hr,Ty.rep,eS]) ⟨yp.refl _ _,zn ?_⟩;exact .inl ⟨b,ix.length,cap,hv,by omega,hg,by omega,by rw[vP]⟩
   rcases Qt h with⟨e1,h1⟩|⟨zl,l,e1,h1,hj⟩
   ·rcases Qt h1 with⟨e2,h2⟩|⟨zh,m,e2,h2,ha⟩
    ·obtain⟨a,c,q1,q2,q3,q4,q5⟩:=BQ h2;exact key a c q1 q2 q3 fun vs env S w hl=>⟨.inr ⟨e1,(q4.resolve_left (by simp)).2⟩,.inr ⟨e2,(q5.resolve_left (by simp)).2⟩⟩
    ·obtain⟨a,c,q1,q2,q3,q4,q5⟩:=BQ h2;rcases q5 with q5|⟨q5,_⟩
     ·cases q5;exact key a m q1 q2 q3 fun vs env S w hl=>⟨.inr ⟨e1,(q4.resolve_left (by simp)).2⟩,.inl (by rw[e2];exact congrArg some (ha P vs env S w (hc e2 hl)))⟩
     ·cases q5
   ·rcases Qt h1 with⟨e2,h2⟩|⟨zh,m,e2,h2,ha⟩
    ·obtain⟨a,c,q1,q2,q3,q4,q5⟩:=BQ h2;rcases q4 with q4|⟨q4,_⟩
     ·cases q4;exact key l c q1 q2 q3 fun vs env S w hl=>⟨.inl (by rw[e1];exact congrArg some (hj P vs env S w (hb e1 hl))),.inr ⟨e2,(q5.resolve_left (by simp)).2⟩⟩
     ·cases q4
    ·obtain⟨a,c,q1,q2,q3,q4,q5⟩:=BQ h2;rcases q4 with q4|⟨q4,_⟩
     ·rcases q5 with q5|⟨q5,_⟩
      ·cases q4;cases q5;exact key l m q1 q2 q3 fun vs env S w hl=>⟨.inl (by rw[e1];exact congrArg some (hj P vs env S w (hb e1 hl))),.inl (by rw[e2];exact congrArg some (ha P vs env S w (hc e2 hl)))⟩
      ·cases q5
     ·cases q4
  ·cases h
 ·cases h
theorem zfz(hT:zS P cf.tt){ags:Array Operand}{ts:Array TypeId}{k:List (Nat×Dv)->Option R}(h:P4 cf cx σ ags.toList ts.toList k=some r):
 ∃l,k l=some r/\ES P ⟨d,.call ⟨.builtin .len,ags,ts⟩,ty,pos,aft,g⟩ cx σ F l:=by
 unfold P4 at h;split at h
 ·next _ _ x t hc hd=>
  obtain rfl:ags= #[x]:=by cases ags;simp_all
  obtain rfl:ts= #[t]:=by cases ts;simp_all
  have hx: ∀{vs env S w},(∀t'∈yx (.call ⟨.builtin .len,#[x],#[t]⟩),Lk P vs env S w cx σ t')->ZA P vs env S w cx σ x:=fun hl=>yG hl (by simp[xaL,xed]);split at h
  ·next e E B o ht ha=>
   split at h
   ·next s E' E1 xss ix ho=>
    refine⟨_,h,jG fun env w S vs hM hl=> ?_⟩;have hm:(fQ s.rep E' E1 (vs o) xss ix).p S w:=ux hM ho;exact⟨_,_,_,_,[],[mO (uI (w4 (vs o))) E' (yY (vs o)) ix],Ck 0 rfl (vd hT ht) (zk ha (hx hl)),⟨(Ax hm).2.1,trivial⟩,trivial,fun u w' hk hf=>zn (xL (Fm hk))⟩
   ·cases h
  ·next e E B o lo n ht ha=>
   split at h
   ·next s E' E1 xss ix ho=>
    refine⟨_,h,zD fun env w S vs hl=> ?_⟩;rcases(zk ha (hx hl):Dc _ _ _ _).old with⟨b,m,cap,c,q1,q2,q3,q4,q5⟩|⟨q1,ao,c,q2,q3⟩
    ·exact⟨_,FU (vd hT ht) q5 w,zn (xL (Fm (by omega)))⟩
    ·subst q1;exact⟨_,FU (vd hT ht) q3 w,zn (xL (by decide))⟩
   ·cases h
  ·next e E B o p ht ha=>
   split at h
   ·next s E' E1 xss ix ho=>
    refine⟨_,h,jG fun env w S vs hM hl=> ?_⟩;have hm:(fQ s.rep E' E1 (vs o) xss ix).p S w:=ux hM ho;have hb:(w4 (vs o))[p]? =some (ev env x):=zk ha (hx hl);exact⟨_,_,_,_,[],[mO s.rep E1 (ev env x) (jl xss p)],Ck 0 rfl (vd hT ht) rfl,⟨(fI hm hb).1,trivial⟩,trivial,fun u w' hk hf=>zn (xL (Fm hk))⟩
   ·cases h
  ·cases h
 ·cases h
def Tru:Nat->Prop:=fun _=>True
theorem Ho(f:FF)(h:f.p S w):f.p Tru w:=f.sub h fun _ _ _=>trivial
theorem b7(hC: ∀s∈cf.cs,y5 P s): ∀{dom:List AM} {xs:List Operand} {cs:List PD} {k:JW dom->Option R},Xt cf cx σ dom xs cs k=some r->
 ∃z,k z=some r/\xs.length+cs.length=dom.length/\ ∀vs env S w,yv S (MS vs σ.ob++(MS vs cx.ob++F)) w->(∀x∈xs,ZA P vs env S w cx σ x)-> ∀cvs:List Value,cvs.length=cs.length->zz S (CC cs cvs) w->zz Tru (kE P dom z (xs.map (ev env)++cvs)) w
 |[],[],[],k,h=>⟨(),h,rfl,fun _ _ _ _ _ _ _ _ _=>trivial⟩
 | .q t::dom,[],c::cs,k,h=>by
  simp only[Xt]at h;obtain⟨e,h⟩:=yi h;subst e;obtain⟨z,h1,h2,h3⟩:=b7 hC h;refine⟨_,h1,by simp at h2⊢;omega,fun vs env S w hM hl cvs ha hb=> ?_⟩
  cases cvs with
  |nil=>cases ha
  |cons v cvs=>exact⟨Ho _ hb.1,h3 vs env S w hM hl cvs (by simpa using ha) hb.2⟩
 | .d t::dom,x::xs,cs,k,h=>by
  simp only[Xt]at h;split at h
  ·next o lo n hc=>
   split at h
   ·next s E E1 xss ix ho=>
    obtain⟨e,h⟩:=yi h;subst e;obtain⟨z,h1,h2,h3⟩:=b7 hC h;refine⟨_,h1,by simp at h2⊢;omega,fun vs env S w hM hl cvs ha hb=>⟨?_,h3 vs env S w hM (fun z hz=>hl z (H1 _ hz)) cvs ha hb⟩⟩;have hm:(fQ s.rep E E1 (vs o) xss ix).p S w:=ux hM ho;obtain⟨a1,a2,a3⟩:=Ax hm;have h4:(mO (eS s.rep) E (yY (vs o)) (Nh xss ix)).p Tru w:=by
     obtain⟨cs',q1,q2⟩:=a2;refine⟨cs',by unfold Nh;rw[xaM];exact q1,?_⟩;exact dT a1 (fun _ _=>trivial) (fun _ _ _ _=>trivial) a3 q2
    show(fV (eS (eS s.rep)) (xdr n (xdv lo (Nh xss ix))) (ev env x)).p Tru w;rcases(zk hc (hl x (FS)):Dc _ _ _ _).old with⟨b,m,cap,c,q1,q2,q3,q4,q5⟩|⟨q1,ao,c,q2,q3⟩
    ·have:=Bc h4 q1 q2 q3 q4;rw[q5];obtain⟨ao,c',p1,p2,p3,p4⟩:=this;refine xh.2 ⟨ao,c',p1,p2,p3,p4.imp id ?_⟩;rintro⟨b',o',cs',r1,r2,r3⟩;exact⟨b',o',cs',r1,trivial,r2,r3⟩
    ·subst q1;rw[q3];exact xh.2 ⟨ao,c,by simp,by simp,by unfold maxLen;omega,.inl (by simp)⟩
   ·cases h
  ·obtain⟨y,h,hy⟩:=Xv h;obtain⟨z,h1,h2,h3⟩:=b7 hC h;exact⟨_,h1,by simp at h2⊢;omega,fun vs env S w hM hl cvs ha hb=>⟨Ho _ (hy P vs env S w (hl x (FS))),h3 vs env S w hM (fun z hz=>hl z (H1 _ hz)) cvs ha hb⟩⟩
 | .fn dom' cod::dom,x::xs,cs,k,h=>by
  simp only[Xt]at h;obtain⟨f,h,hf⟩:=RU hC h;obtain⟨z,h1,h2,h3⟩:=b7 hC h;refine⟨_,h1,by simp at h2⊢;omega,fun vs env S w hM hl cvs ha hb=>⟨?_,h3 vs env S w hM (fun z hz=>hl z (H1 _ hz)) cvs ha hb⟩⟩
  cases hv:xU cx σ x with
  |none=>rename_i h0;rw[hv]at h0;simp[asF]at h0
  |some v=>exact Ho _ (hf vs S w v _ hv (zk hv (hl x (FS))))
 |[],_::_,_,_,h=>by simp[Xt]at h
 |[],[],_::_,_,h=>by simp[Xt]at h
 | .d _::_,[],_,_,h=>by simp[Xt]at h
 | .own _ _::_,_,_,_,h=>by simp[Xt]at h
 | .q _::_,_::_,_,_,h=>by simp[Xt]at h
 | .fn _ _::_,[],_,_,h=>by simp[Xt]at h
 | .q _::_,[],[],_,h=>by simp[Xt]at h
theorem Bp: ∀{rs:List RM} {x:Ak (rs.map RM.ty)} {us:List Value},De rs=true->zz Tru (csF (rs.map RM.ty) x us) w->zz S (csF (rs.map RM.ty) x us) w
 |[],_,_,_,_=>trivial
 |[.d .i],x,us,_,h=>⟨h.1,trivial⟩
 |[.d .u],x,us,_,h=>⟨h.1,trivial⟩
 |[.d .b],x,us,_,h=>⟨h.1,trivial⟩
 | .d .i::n::r,x,us,hf,h=>⟨h.1,Bp (rs:=n::r) (x:=x.2) hf h.2⟩
 | .d .u::n::r,x,us,hf,h=>⟨h.1,Bp (rs:=n::r) (x:=x.2) hf h.2⟩
 | .d .b::n::r,x,us,hf,h=>⟨h.1,Bp (rs:=n::r) (x:=x.2) hf h.2⟩
theorem zcw(hC: ∀s∈cf.cs,y5 P s)(hX:pX P cf){f:Operand}{ags:Array Operand}{ts:Array TypeId}{k:List (Nat×Dv)->Option R}(h:GL cf cx σ f ags.toList k=some r):
 ∃l,k l=some r/\ES P ⟨d,.call ⟨.value f,ags,ts⟩,ty,pos,aft,g⟩ cx σ F l:=by
 have hf: ∀{vs env S w},(∀t'∈yx (.call ⟨.value f,ags,ts⟩),Lk P vs env S w cx σ t')->ZA P vs env S w cx σ f:=fun hl=>yG hl (by simp[xaL,xed]);have ha: ∀{vs env S w},(∀t'∈yx (.call ⟨.value f,ags,ts⟩),Lk P vs env S w cx σ t')-> ∀x∈ags.toList,ZA P vs env S w cx σ x:=fun hl x hx=>yG hl (by simp only[xaL,xed,Array.toList_append,xaa];exact .inr hx);unfold GL at h;split at h
 ·next f0 cs hj=>
  split at h
  ·next s hs=>
   obtain⟨h1,h2⟩:=Sc hs;obtain⟨hb,he⟩:=hX.cl s h1;obtain⟨z,h,hd,hz⟩:=BG h;refine⟨_,h,jG fun env w S vs hM hl=> ?_⟩;obtain⟨cvs,hv,hg,hk⟩:=zk hj (hf hl);obtain rfl:cvs=[]:=xbF.1 hg;have hc:=he z (ags.toList.map (ev env)) (by simpa using hd);rw[h2]at hc hb;rw[<-xbK (ags.toList.map (ev env))]at hc;exact⟨_,_,_,_,tsF s.dom z (ags.toList.map (ev env)++[]),[],bC (asv:=ags.toList) hb hv hc rfl (fun S w h=>h),trivial,by rw[xbK];exact hz P vs env S w (ha hl),fun v w' _ hi=>zn hi.1⟩
  ·split at h
   ·next s hs=>
    obtain⟨h1,h2,h3,h4⟩:=lF hs;have he:=hC s h1;obtain⟨hn,h⟩:=yh h;obtain⟨z,h,hd,hz⟩:=b7 (F:=F) hC h;obtain⟨q,hq,h⟩:=ny h;refine⟨_,h,fun env w S vs hS hM hl=> ?_⟩;obtain⟨cvs,hv,hg,hk⟩:=zk hj (hf hl);have hc:=aO he h3 h4 hq (us:=ags.toList.map (ev env)++cvs) (by simp at hd⊢;omega);rw[h2]at hc;have hm:=hz vs env S w hM (ha hl) cvs hg hk;refine(bC (asv:=ags.toList) (ms:=[]) (Γ:=kE P s.dom z (ags.toList.map (ev env)++cvs)) (h2▸he.1) hv hc rfl (fun S w h=>h) w Tru (fun _ _=>trivial) trivial hm).mono ?_;rintro v w' ⟨us,rfl,ho,hx,hi⟩;refine⟨hx,?_⟩;unfold zaW;rw[CM,EV];exact ou (Bp hn hi) (by simpa using ho)
   ·cases h
 ·cases h
theorem ziq(hT:zS P cf.tt)(hL:jy P cf.tt)(hC: ∀s∈cf.cs,y5 P s)(hX:pX P cf){op:Op}{k:List (Nat×Dv)->Option R}(h:eCo cf cx σ op k=some r): ∃l,k l=some r/\ES P ⟨d,op,ty,pos,aft,g⟩ cx σ F l:=by
 unfold eCo at h;split at h
 ·exact zcb hT h
 ·exact Rn hT hL h
 ·exact RI hT hL h
 ·exact zfz hT h
 ·exact zcw hC hX h
 ·cases h
theorem Pt(hT:zS P cf.tt)(hL:jy P cf.tt)(hC: ∀s∈cf.cs,y5 P s)(hX:pX P cf){op:Op}{k:List (Nat×Dv)->Option R}(h:eOp cf cx σ op k=some r): ∃l,k l=some r/\ES P ⟨d,op,ty,pos,aft,g⟩ cx σ F l:=by
 unfold eOp at h;cases hc:zhF cf cx σ op<;>rw[hc]at h
 ·exact zen hT hL hC hX.ex h
 ·exact ziq hT hL hC hX h
end
end
section
section
variable{P:Program}{cf:Cf}{fr:Fr}{cx σ:Sg}{vs vs':Nat->Value}{env:yM}{w:World}{R:Type}{r:R}
 {d:Option Tmp} {ty t yt:TypeId} {pos:String} {aft:Array Edge} {g:Option (Nat×Bool)} {x y:Operand}
abbrev GS(P:Program)(vs:Nat->Value)(env:yM)(fr:Fr)(cx σ:Sg):List FF:=RS P vs env σ.rg++(RS P vs env cx.rg++fr.G)
abbrev OS(vs:Nat->Value)(fr:Fr)(cx:Sg)(ob:List (Nat×Od)):List MF:=MS vs ob++(MS vs cx.ob++fr.F)
theorem ZE{S:Nat->Prop}(h:zz S (GS P vs env fr cx σ) w)(t:Tmp):Lk P vs env S w cx σ t:=by
 intro i dv hd;rcases Bn hd with hm|hm
 ·exact QF (zz.left h) hm
 ·exact QF (zz.left (zz.right h)) hm
theorem zW{S:Nat->Prop}(h:zz S (GS P vs env fr cx σ) w)(x:Operand):ZA P vs env S w cx σ x:=fun t _=>ZE h t
def Ui(P:Program)(fr:Fr)(cx σ:Sg)(vs:Nat->Value)(env:yM)(w:World):Prop:=Bd cx σ/\St fr.we fr.Se (OS vs fr cx σ.ob) (GS P vs env fr cx σ) w
def aU(P:Program)(fr:Fr)(cx:Sg)(n:Nat)(vs:Nat->Value)(σ:Sg)(env:yM)(w:World):Prop:= ∃vs',(∀o,o<n->vs' o=vs o)/\Ui P fr cx σ vs' env w
theorem aU.rel{n:Nat}(h:aU P fr cx n vs σ env w):uH P fr cx σ env w:=by
 obtain⟨vs',_,h1,h2⟩:=h;exact⟨h1,vs',h2⟩
theorem Au{v:Value}{σ':Sg}{l:List (Nat×Dv)}{Γl:List FF}(hB:Bd cx σ)(hd:wi cx d=true)(ha:σ'.rg=wZ σ.rg d l)(hn:σ.nx<=σ'.nx)(hg: ∀o,o<σ.nx->vs' o=vs o)
 (hl: ∀e∈l,∀o,xZ e.2=some o->o<σ'.nx) (hj: ∀e∈σ'.ob,e.1<σ'.nx) (hf: ∀S w,zz S Γl w-> ∀e∈l,(xF P vs' e.2 v e.1).p S w)
 (hk:St fr.we fr.Se (OS vs' fr cx σ'.ob) (Γl++GS P vs env fr cx σ) w):Ui P fr cx σ' vs' (put env d v) w:=by
 refine⟨⟨hj,fun e he=>xap (hB.o2 e he) hn,?_,fun e he o ho=>xap (hB.r2 e he o ho) hn⟩,hk.weak fun S w h=> ?_⟩
 ·intro e he o ho;rw[ha]at he;unfold wZ at he
  cases d with
  |none=>exact xap (hB.r1 e he o ho) hn
  |some t=>
   rcases xaa.1 he with he|he
   ·obtain⟨e',hb,rfl⟩:=xal.1 he;exact hl e' hb o ho
   ·exact xap (hB.r1 e (xbW.1 he).1 o ho) hn
 ·have hΓ:=zz.right h;have h1:zz S (RS P vs' env σ.rg) w:=by rw[qo (fun e he o ho=>hg o (hB.r1 e he o ho)) (fun _ _=>rfl)];exact zz.left hΓ
  have h2:zz S (RS P vs' env cx.rg) w:=by rw[qo (fun e he o ho=>hg o (hB.r2 e he o ho)) (fun _ _=>rfl)];exact zz.left (zz.right hΓ)
  have h3:=zz.right (zz.right hΓ)
  cases d with
  |none=>
   unfold GS;rw[show σ'.rg=σ.rg from ha];exact zz.append h1 (zz.append h2 h3)
  |some t=>
   have hm:RS P vs' (put env (some t) v) cx.rg=RS P vs' env cx.rg:=qo (fun _ _ _ _=>rfl) fun e he=>U6 fun ht=>by
    simp only[wi,ZF,xaP]at hd;have:=hd e he;simp only[xaw]at ht;rw[ht]at this;simp at this
   unfold GS;rw[ha,hm];refine zz.append (qM.2 fun f hp=> ?_) (zz.append h2 h3);obtain⟨e,he,rfl⟩:=xal.1 hp;rcases xaa.1 he with he|he
   ·obtain⟨e',hb,rfl⟩:=xal.1 he;simp only[om];exact hf S w (zz.left h) e' hb
   ·obtain⟨hq,hi⟩:=xbW.1 he;have hr:some t≠some e.1:=fun hc=>by
     simp only[xaw]at hc;rw[hc]at hi;simp at hi
    rw[U6 hr];exact QF h1 hq
theorem VU{v:Value}{σ':Sg}{l:List (Nat×Dv)}{Γl:List FF}(hB:Bd cx σ)(hd:wi cx d=true)(hb:σ'.rg=wZ σ.rg d l)(hn:σ.nx<=σ'.nx)(ha: ∀o,o<σ.nx->vs' o=vs o)
 (hl: ∀e∈l,∀o,xZ e.2=some o->o<σ'.nx) (hc: ∀e∈σ'.ob,e.1<σ'.nx) (hf: ∀S w,zz S Γl w-> ∀e∈l,(xF P vs' e.2 v e.1).p S w)
 (he:St fr.we fr.Se (OS vs' fr cx σ'.ob) (Γl++GS P vs env fr cx σ) w):aU P fr cx σ.nx vs σ' (put env d v) w:=⟨vs',ha,Au hB hd hb hn ha hl hc hf he⟩
def zbw(P:Program)(vs:Nat->Value)(v:Value)(l:List (Nat×Dv)):List FF:=l.map fun e=>xF P vs e.2 v e.1
theorem tM{n:Nat}{l:List (Nat×Dv)}(h:okL n l=true): ∀e∈l,∀o,xZ e.2=some o->o<n:=by
 intro e he o ho;unfold okL at h;rw[xaP]at h;have:=h e he;rw[ho]at this;have:=xbH this;omega
theorem ES.mono{o:Oper}{l:List (Nat×Dv)}{F:List MF}(h:ES P o cx σ [] l):ES P o cx σ F l:=by
 intro env w S vs h1 h2 h3;refine h env w S vs h1 (kR.2 fun m hm=>kR.1 h2 m ?_) h3;rcases xaa.1 hm with hm|hm
 ·exact xaa.2 (.inl hm)
 ·rw[xbK]at hm;exact xaa.2 (.inr (xaa.2 (.inl hm)))
theorem zgv{o:Oper}{l:List (Nat×Dv)}(h:ES P o cx σ fr.F l)(hd:wi cx o.dst=true)(hl:okL σ.nx l=true)(hR:Ui P fr cx σ vs env w):jZ P o env w (fun v w'=>aU P fr cx σ.nx vs (σ.put o.dst l) (put env o.dst v) w'):=by
 obtain⟨hB,h1,h2,h3,S,h4,h5,h6,h7,h8⟩:=hR;refine(h env w S vs h5 h7 fun t _=>ZE h8 t).mono ?_;rintro v w' ⟨hx,hf⟩;refine VU (σ':=σ.put o.dst l) (Γl:=zbw P vs v l) hB hd rfl (xac _) (fun _ _=>rfl) (tM hl) hB.o1 (fun S w ha e he=>qM.1 ha _ (xal.2 ⟨e,he,rfl⟩)) ?_;refine⟨h1.trans hx,h2,h3,S,h4,fun k hk=>h5 k (xao hx.size hk),h6,yv.keep hx.to (fun m hm i hi=>hx.block i (yv.lt h7 m hm i hi) trivial) h7,zz.append (qM.2 fun f hb=> ?_) (zz.keep hx.to h8)⟩;obtain⟨e,he,rfl⟩:=xal.1 hb;exact hf e he
def lL(P:Program)(cx:Sg)(o:Oper)(σ:Sg)(k:Sg->Option R)(r:R):Prop:= ∃σ',k σ'=some r/\σ.nx<=σ'.nx/\ ∀(fr:Fr) (vs:Nat->Value) (env:yM) (w:World),Ui P fr cx σ vs env w->jZ P o env w (fun v w'=>aU P fr cx σ.nx vs σ' (put env o.dst v) w')
theorem m_E(hT:zS P cf.tt)(hL:jy P cf.tt)(hC: ∀s∈cf.cs,y5 P s)(hX:pX P cf){op:Op}{k:Sg->Option R}(hd:wi cx d=true)(h:mE cf cx σ d op k=some r):lL P cx ⟨d,op,ty,pos,aft,g⟩ σ k r:=by
 unfold mE at h;obtain⟨l,h,ha⟩:=Pt (P:=P) (d:=d) (ty:=ty) (pos:=pos) (aft:=aft) (g:=g) (F:=[]) hT hL hC hX h;obtain⟨hl,h⟩:=yh h;exact⟨_,h,xac _,fun fr vs env w hR=>zgv ha.mono hd hl hR⟩
def YD(vs:Nat->Value)(n:Nat)(v:Value):Nat->Value:=fun o=>bif xan o n then v else vs o
theorem vn{n:Nat}{v:Value}:YD vs n v n=v:=by simp[YD]
theorem kX{n o:Nat}{v:Value}(h:o<n):YD vs n v o=vs o:=by unfold YD;rw[uk (by omega)];rfl
theorem TB{n:Nat}{v:Value}{ob:List (Nat×Od)}(h: ∀e∈ob,e.1<n):MS (YD vs n v) ob=MS vs ob:=xX fun e he=>kX (h e he)
theorem Cp{v:Value}{ob:List (Nat×Od)}(hB:Bd cx σ)(h: ∀e∈ob,e.1<σ.nx):OS (YD vs σ.nx v) fr cx ob=OS vs fr cx ob:=by
 show MS _ ob++(MS _ cx.ob++_)=_;rw[TB h,TB hB.o2]
theorem Vb{v:Value}{mk:Nat->Dv}{X:Od}{ob:List (Nat×Od)}(hB:Bd cx σ)(hd:wi cx d=true)(ha: ∀e∈ob,e.1<σ.nx)(hb: ∀o,xZ (mk o)=some o)(hc: ∀S w,(va P (YD vs σ.nx v) (mk σ.nx) v).p S w)
 (hf:St fr.we fr.Se (VO (YD vs σ.nx v) (σ.nx,X)::OS vs fr cx ob) (GS P vs env fr cx σ) w):aU P fr cx σ.nx vs ⟨σ.nx+1,wZ σ.rg d [(0,mk σ.nx)],(σ.nx,X)::ob⟩ (put env d v) w:=by
 refine VU (σ':=⟨σ.nx+1,wZ σ.rg d [(0,mk σ.nx)],(σ.nx,X)::ob⟩) (vs:=vs) (vs':=YD vs σ.nx v) (Γl:=[]) hB hd rfl (xcc _) (fun o ho=>kX ho) ?_ ?_ ?_ ?_
 ·intro e he o ho;obtain rfl:=xai.1 he;rw[hb]at ho;cases ho;exact xbV _
 ·intro e he;rcases xad.1 he with rfl|he
  ·exact xbV _
  ·exact xfi (ha e he)
 ·intro S w _ e he;obtain rfl:=xai.1 he;exact hc S w
 ·show St _ _ (VO (YD vs σ.nx v) (σ.nx,X)::OS (YD vs σ.nx v) fr cx ob) _ _;rw[Cp hB ha];exact hf
theorem QS{v:Value}(S:Nat->Prop)(w:World):(va P (YD vs σ.nx v) (.ow σ.nx) v).p S w:=(vn (vs:=vs)).symm
theorem ET{t:Ty}{b:Nat}(S:Nat->Prop)(w:World):(va P (YD vs σ.nx (.pointer (some ⟨b,0,none⟩))) (.vs σ.nx t) (.pointer (some ⟨b,0,none⟩))).p S w:=⟨vn.symm,b,vn⟩
theorem Q8{t:Ty}{E:TypeId}{xs:List t.D}{n:Nat}{v:Value}:VO (YD vs n v) (n,.own t E xs)=mO t.rep E v xs:=by simp only[VO,vn]
theorem zad{t:Ty}{E:TypeId}{z:t.D}{n:Nat}{v:Value}:VO (YD vs n v) (n,.var t E z)=mP t.rep.c E v z:=by simp only[VO,vn]
theorem zbC(hT:zS P cf.tt){E:TypeId}{k:Sg->Option R}(hd:wi cx d=true)(h:HT cf σ d E k=some r):lL P cx ⟨d,.alloc E,ty,pos,aft,g⟩ σ k r:=by
 unfold HT at h;split at h
 ·next ti ha=>
  obtain⟨zero,hb,hf,hc⟩:=Wv hT ha;refine⟨_,h,xcc _,fun fr vs env w hR=> ?_⟩;obtain⟨hB,he⟩:=hR;refine(sO (e:=ti.ty.rep.c) (z:=ti.ty.z) hb hc w he).mono ?_;rintro v w' ⟨b,rfl,_,hs⟩;refine Vb (vs:=vs) (mk:=fun o=> .vs o ti.ty) hB hd hB.o1 (fun _=>rfl) (fun S w=>ET S w) ?_;rw[zad];exact hs.toP 0 rfl
 ·cases h
theorem zhf{E:TypeId}{k:Sg->Option R}(hd:wi cx d=true)(h:zfE cf cx σ d E x k=some r):lL P cx ⟨d,.box E x,ty,pos,aft,g⟩ σ k r:=by
 unfold zfE at h;split at h
 ·next ti hc=>
  obtain⟨y,h,hy⟩:=Xv h;refine⟨_,h,xcc _,fun fr vs env w hR=> ?_⟩;obtain⟨hB,hb⟩:=hR;refine(zbl (e:=ti.ty.rep) (z:=y) rfl (fun S w ha=>hy P vs env S w (zW ha x)) w hb).mono ?_;rintro v w' ⟨b,rfl,_,hs⟩;refine Vb (vs:=vs) (mk:=fun o=> .vs o ti.ty) hB hd hB.o1 (fun _=>rfl) (fun S w=>ET S w) ?_;rw[zad];exact hs.toP 0 rfl
 ·cases h
theorem Mh(h:Lo x y=true):ev env x=ev env y:=by
 unfold Lo at h;split at h
 ·rw[z8 h]
 ·simp only[eqI,decide_eq_true_eq]at h;rw[h]
 ·cases h
theorem zeo(hT:zS P cf.tt){k:Sg->Option R}(hd:wi cx d=true)(h:Sz cf cx σ d t x y k=some r):lL P cx ⟨d,.makeSlice t x y,ty,pos,aft,g⟩ σ k r:=by
 unfold Sz at h;split at h
 ·next s E B ht=>
  obtain⟨hi,h⟩:=yh h;split at h
  ·next ti n he hn=>
   obtain⟨hk,h⟩:=yi h;subst hk;obtain⟨zero,hl,ho,hm⟩:=Wv hT he;obtain⟨j,hj,h⟩:=LL h;obtain⟨hb,h⟩:=kh h;obtain⟨xs,hf,h⟩:=xm h;refine⟨_,h,xcc _,fun fr vs env w hR=> ?_⟩;obtain⟨hB,hg⟩:=hR;obtain⟨S0,_,hΓ⟩:=hg.ex;have hx:ev env x= .int .i64 (j:Int):=by rw[(xT hn (zW hΓ x)).1,hj]
   have ha:=(hT _ _ he).2.1;refine(EY (e:=ti.ty.rep) (z:=ti.ty.z) (xs:=xs) (n:=j) (vd hT ht) hl hx ((Mh hi).symm.trans hx) ha hb hm hf w hg).mono ?_;rintro v w' ⟨b,rfl,_,hs⟩;refine Vb (vs:=vs) (mk:= .ow) hB hd hB.o1 (fun _=>rfl) (fun S w=>QS S w) ?_;rw[Q8];have hc:xs.length=j:=by rw[hf];exact xaT
   have:=hs.closeF 0 rfl (by rw[hc];exact xac _) (P5 ha hb);rw[hc]at this;exact this
  ·cases h
 ·cases h
theorem zgf(hT:zS P cf.tt)(hL:jy P cf.tt){n:Nat}{ps:Array (Nat×Operand)}{k:Sg->Option R}(hd:wi cx d=true)(h:zdQ cf cx σ d t n ps.toList k=some r):lL P cx ⟨d,.buildSlice t n ps,ty,pos,aft,g⟩ σ k r:=by
 unfold zdQ at h;split at h
 ·next e E B ht=>
  obtain⟨hb,h⟩:=yh h;have hb:=xbH hb;rw[<-e.n_rep]at hb;obtain⟨ys,h,he,hf⟩:=cG h;obtain⟨bytes,zero,hg⟩:=W8 hT hL ht;refine⟨_,h,xcc _,fun fr vs env w hR=> ?_⟩;obtain⟨hB,hi⟩:=hR;have hc:(ps.toList.map fun q:Nat×Operand=>(q.1,ev env q.2)).map (·.1)=xfh 0 (ps.toList.map fun q:Nat×Operand=>(q.1,ev env q.2)).length:=by rw[xcM,xaM];exact he
  have hj:=fun(S:Nat->Prop) (w:World) (ha:zz S (GS P vs env fr cx σ) w)=>Bg hc (hf P vs env S w fun x _=>zW ha x);refine(TC (e:=e.rep) (zs:=cB n e ys) (xV:=ps.toList) (vd hT ht) hg (R6 hT hL ht) (Ug n e ys) hb rfl (fun S w ha=>by have:=(hj S w ha).1;rwa[xcI]at this) (fun S w ha=>(hj S w ha).2) w hi).mono ?_;rintro v w' ⟨b,rfl,_,hs⟩;refine Vb (vs:=vs) (mk:= .ow) hB hd hB.o1 (fun _=>rfl) (fun S w=>QS S w) ?_;rw[Q8];exact hs
 ·cases h
end
end
section
section
variable{P:Program}{cf:Cf}{fr:Fr}{cx σ:Sg}{vs vs':Nat->Value}{env:yM}{w:World}{R:Type}{r:R}
 {d:Option Tmp} {ty t yt:TypeId} {pos:String} {aft:Array Edge} {g:Option (Nat×Bool)} {x y:Operand}
theorem JX{ob:List (Nat×Od)}{o:Nat}{X Y:Od}(h:xG ob o=some X): ∀e∈ke ob o Y,∃e'∈ob,e'.1=e.1:=by
 intro e he;obtain⟨i,h1,h2,_⟩:=x8 h;rw[h2]at he;rcases xeE he with he|rfl
 ·exact⟨e,he,rfl⟩
 ·exact⟨_,xbr h1,rfl⟩
theorem kT: ∀{ob:List (Nat×Od)} {o:Nat},∀e∈yD ob o,e∈ob
 |(o',X)::r,o,e,he=>by
  unfold yD at he;cases hb:xan o' o<;>rw[hb]at he
  ·rcases xad.1 he with rfl|he
   ·exact FS
   ·exact H1 _ (kT e he)
  ·exact H1 _ he
theorem b5{o:Nat}{X Y:Od}{v:Value}(hB:Bd cx σ)(ho:xG σ.ob o=some X)(ha:St fr.we fr.Se (OS vs fr cx (ke σ.ob o Y)) (GS P vs env fr cx σ) w):aU P fr cx σ.nx vs ⟨σ.nx,σ.rg,ke σ.ob o Y⟩ (put env none v) w:=by
 refine VU (σ':=⟨σ.nx,σ.rg,ke σ.ob o Y⟩) (d:=none) (l:=[]) (vs:=vs) (vs':=vs) (Γl:=[]) hB rfl rfl (xac _) (fun _ _=>rfl) (fun _ he=>absurd he Nm) (fun e he=> ?_) (fun S w _ e he=>absurd he Nm) ha;obtain⟨e',h1,h2⟩:=JX ho e he;rw[<-h2];exact hB.o1 e' h1
theorem km{α:Type _}(l:List α)(i:Nat)(a b:α):(l.set i a).set i b=l.set i b:=by simp
theorem wq{α:Type _}{l:List α}{i:Nat}{a b:α}(h:l[i]? =some a):(l.set i b)[i]? =some b:=by
 have:=(xar.1 h).1;simp[this]
theorem eJ{α:Type _}: ∀(l:List α) (i:Nat) (a:α),(l.set i a).eraseIdx i=l.eraseIdx i
 |[],_,_=>by simp
 |_::_,0,_=>rfl
 |b::l,i+1,a=>by simp[eJ l i a]
theorem bZ{α:Type}{e:zV α}{E:TypeId}{xs:List α}{v:Value}{S:Nat->Prop}{b n cap:Nat}(h:(mO e E v xs).p S w)(hv:v= .slice (some ⟨b,0,none⟩) n cap):n=xs.length:=by
 obtain⟨cs,h5,h6⟩:=h;rcases h5.2 with⟨h,h7⟩|⟨g',cap',cur,h,_⟩
 ·rw[hv]at h;cases h
 ·rw[hv]at h;cases h;rfl
theorem za6(hT:zS P cf.tt){k:Sg->Option R}{ti:TI}(hA:ZG cf t=some ti)(h:HH σ ti.ty (xU cx σ x) (xU cx σ y) k=some r):lL P cx ⟨none,.store t x y,ty,pos,aft,g⟩ σ k r:=by
 obtain⟨zero,hf,_⟩:=Wv hT hA;unfold HH at h;split at h
 ·next o _ hx=>
  split at h
  ·next s' E z ho=>
   obtain⟨hC,h1⟩:=yi h;subst hC;obtain⟨q,h,hq⟩:=Xv h1;refine⟨_,h,xac _,fun fr vs env w hR=> ?_⟩;obtain⟨hB,hc⟩:=hR;obtain⟨S0,_,hΓ⟩:=hc.ex;obtain⟨i,hi,hd,hr⟩:=x8 ho;have hm:(OS vs fr cx σ.ob)[i]? =some (mP ti.ty.rep.c E (vs o) z):=Wz hi;obtain⟨b,hv,hs⟩:=hc.openP i hm;obtain⟨hg,_⟩:=zk hx (zW hΓ x);refine(ZM (f:=ti.ty.rep) (z':=z) (y':=q) (up:=id) i (wq hm) (hg.trans hv) rfl (Sub.self ti.ty.rep z) hf (fun S w ha=>hq P vs env S w (zW ha y)) w hs).mono ?_;rintro v w' ⟨_,rfl,_,hk⟩;refine b5 (vs:=vs) hB ho ?_;have he:=hk.toP i (wq (wq hm));rw[km,km,<-hv]at he;rw[hd];show St _ _ (MS vs (σ.ob.set i (o,.var ti.ty E q))++_) _ _;rw[<-nH hi];exact he
  ·cases h
 ·next o s1 f hx=>
  split at h
  ·next s' E z hb ho _=>
   obtain⟨hu,h1⟩:=yi h;subst hu;obtain⟨q,h2,hq⟩:=Xv h1;obtain⟨z2,hw,h⟩:=xm h2;obtain⟨hb⟩:=hb;refine⟨_,h,xac _,fun fr vs env w hR=> ?_⟩;obtain⟨hB,hc⟩:=hR;obtain⟨S0,_,hΓ⟩:=hc.ex;obtain⟨i,hi,hd,hr⟩:=x8 ho;have hm:(OS vs fr cx σ.ob)[i]? =some (mP s'.rep.c E (vs o) z):=Wz hi;obtain⟨b,hv,hs⟩:=hc.openP i hm;obtain⟨hy,b',hl,hg⟩:=zk hx (zW hΓ x);rw[hv]at hl;cases hl;rw[<-hb]at hf;refine(ZM (f:=f.f.rep) (z':=f.get z) (y':=q) (up:=fun y=>f.set y z) i (wq hm) hg rfl (by rw[xaS];exact hy z) hf (fun S w ha=>hq P vs env S w (zW ha y)) w hs).mono ?_;rintro v w' ⟨_,rfl,_,hk⟩;refine b5 (vs:=vs) hB ho ?_;have he:=hk.toP i (wq (wq hm));rw[km,km,<-hv,<-hw]at he;rw[hd];show St _ _ (MS vs (σ.ob.set i (o,.var s' E z2))++_) _ _;rw[<-nH hi];exact he
  ·cases h
 ·next o s1 j f hx=>
  split at h
  ·next s' E xs hb ho _=>
   obtain⟨hu,h1⟩:=yi h;cases hu;obtain⟨q,h2,hq⟩:=Xv h1;obtain⟨z2,hw,h⟩:=xm h2;obtain⟨hb⟩:=hb;refine⟨_,h,xac _,fun fr vs env w hR=> ?_⟩;obtain⟨hB,hc⟩:=hR;obtain⟨S0,_,hΓ⟩:=hc.ex;obtain⟨i,hi,hd,hr⟩:=x8 ho;have hm:(OS vs fr cx σ.ob)[i]? =some (mO s1.rep E (vs o) xs):=Wz hi;obtain⟨hy,b,n,cap,hv,hj,hg⟩:=zk hx (zW hΓ x);have hn:n=xaF xs:=xN hc hm fun S hp=>bZ hp hv;subst hn;obtain⟨b',cap',hl,hD,hE,hs⟩:=hc.openO i hm (xbe (xaj _) hj);rw[hv]at hl;cases hl;rw[<-hb]at hf;have hz:=(Sub.rowT0 s1.rep cap xs j (xei xs j s1.z) (getD_some s1.z hj)).comp (hy (xei xs j s1.z));refine(ZM (f:=f.f.rep) (y':=q) i (wq hm) hg rfl hz hf (fun S w ha=>hq P vs env S w (zW ha y)) w hs).mono ?_;rintro v w' ⟨_,rfl,_,hk⟩;refine b5 (vs:=vs) hB ho ?_;have ht:(xfQ xs j (f.set q (xei xs j s1.z))).length=xaF xs:=xcG ..;have he:=hk.closeF i (wq (wq hm)) (by rw[ht];exact hD) hE;rw[km,km,ht,<-hv,<-hw]at he;rw[hd];show St _ _ (MS vs (σ.ob.set i (o,.own s1 E z2))++_) _ _;rw[<-nH hi];exact he
  ·cases h
 ·cases h
end
end
section
section
variable{P:Program}{cf:Cf}{fr:Fr}{cx σ:Sg}{vs vs':Nat->Value}{env:yM}{w:World}{R:Type}{r:R}
 {d:Option Tmp} {ty t yt:TypeId} {pos:String} {aft:Array Edge} {g:Option (Nat×Bool)} {x y:Operand}
theorem zaM{et:TypeId}{ag:Bool}{sz bytes:Nat}{zero:Value}{hi:Operand}(hx:ev env x= .slice none 0 0)(ht:P.underlying t=some (.slice et))(hb:XB P et ag sz bytes zero)
 (hh:ev env hi= .int .i64 ((0:Nat):Int)) (w:World):(execOp (ev env) ⟨d,.slice t x none (some hi) none,ty,pos,aft,g⟩).run P w= .ok (.value (.slice none 0 0)) w:=by
 have b1:(0:Int)<=((0:Nat):Int)/\((0:Nat):Int)<=((0:Nat):Int):=by omega
 have ha:(xcQ t (.slice none 0 0) none (some (.int .i64 ((0:Nat):Int))) none).run P w= .ok (.slice none 0 0) w:=by
  unfold xcQ;simp only[xaq,run_underlying ht,xab];unfold xfE;simp only[xaq,run_underlying ht,xab];unfold xdS;simp[xeg,asIntOf,xaq,xaD,xab,xj hb]
 simp[execOp,hx,hh]at ha⊢;simp[ha]
theorem zfC{i o:Nat}{X:Od}{Y:MF}(hi:σ.ob[i]? =some (o,X))(ha:yD σ.ob o=σ.ob.eraseIdx i){Γ:List FF}(h:St fr.we fr.Se ((OS vs fr cx σ.ob).set i Y) Γ w):St fr.we fr.Se (Y::OS vs fr cx (yD σ.ob o)) Γ w:=by
 have:=St.front i h (wq (Wz hi));rw[eJ,KC hi,<-ha]at this;exact this
theorem zbp(hT:zS P cf.tt)(hL:jy P cf.tt){o:Nat}{hi:Operand}{k:Sg->Option R}(hd:wi cx d=true)(hx:xU cx σ x=some (.ow o))(h:Hf cf cx σ d t o hi k=some r):
 lL P cx ⟨d,.slice t x none (some hi) none,ty,pos,aft,g⟩ σ k r:=by
 unfold Hf at h;split at h
 ·next s1 E1 B s E xs ht ho=>
  obtain⟨hu,h1⟩:=yi h;cases hu;rcases Qt h1 with⟨e,_⟩|⟨z,m,e,h2,hz⟩
  ·cases e
  ·cases e;obtain⟨hm,h3⟩:=kh h2;obtain⟨ys,hj,h4⟩:=xm h3;obtain⟨bytes,zero,hc⟩:=W8 hT hL ht;refine⟨_,h4,xcc _,fun fr vs env w hR=> ?_⟩;obtain⟨hB,ha⟩:=hR;obtain⟨S0,_,hΓ⟩:=ha.ex;have hf:ev env x=vs o:=zk hx (zW hΓ x);have hg:=hz P vs env S0 w (zW hΓ hi);obtain⟨i,hk,hE,hl⟩:=x8 ho;have hb:(OS vs fr cx σ.ob)[i]? =some (mO s1.rep E (vs o) xs):=Wz hk
   have fin: ∀v,(execOp (ev env) ⟨d,.slice t x none (some hi) none,ty,pos,aft,g⟩).run P w= .ok (.value v) w->St fr.we fr.Se ((OS vs fr cx σ.ob).set i (mO s1.rep E v ys)) (GS P vs env fr cx σ) w->
    jZ P ⟨d,.slice t x none (some hi) none,ty,pos,aft,g⟩ env w (fun v w'=>aU P fr cx σ.nx vs ⟨σ.nx+1,wZ σ.rg d [(0,.ow σ.nx)],(σ.nx,.own s1 E ys)::yD σ.ob o⟩ (put env d v) w'):=by
    intro v hn hs;refine jZ.of_value hn (Vb (vs:=vs) (mk:= .ow) hB hd (fun e he=>hB.o1 e (kT e he)) (fun _=>rfl) (fun S w=>QS S w) ?_);rw[Q8];exact zfC hk hl hs
   rcases xcL (xaF xs)with h0|h0
   ·have hw:m=0:=by have:m<=xaF xs:=hm;omega
    subst hw;have hy:ys=xs:=by rw[hj];exact(xbF.1 h0).symm▸rfl
    subst hy;have hp:(OS vs fr cx σ.ob).set i (mO s1.rep E (vs o) ys)=OS vs fr cx σ.ob:=by
     apply xcv;intro j;rw[xdX];split
     ·next hA=>
      subst hA;split
      ·exact hb.symm
      ·next hC=>exact absurd (xar.1 hb).1 hC
     ·rfl
    have hv:vs o= .slice none 0 0\/ ∃b cap,vs o= .slice (some ⟨b,0,none⟩) 0 cap:=xN ha hb fun S ⟨cs,h5,_⟩=>by
     rcases h5.2 with⟨h,_⟩|⟨b,cap,cur,h,_⟩
     ·exact .inl h
     ·rw[h0]at h;exact .inr ⟨b,cap,h⟩
    rcases hv with hv|⟨b,cap,hv⟩
    ·exact fin _ (zaM (hf.trans hv) (vd hT ht) hc hg w) (by rw[<-hv,hp];exact ha)
    ·exact fin _ (Fi (hf.trans hv) (vd hT ht) hc hg (xaj _) w) (by rw[<-hv,hp];exact ha)
   ·obtain⟨b,cap,hv,hq,hD,hs⟩:=ha.openO i hb h0;have hr:=hs.closeO i m (wq hb) hm (xao hm hq) hD;rw[km]at hr;exact fin _ (Fi (hf.trans hv) (vd hT ht) hc hg (xao hm hq) w) (by rw[hj];exact hr)
 ·cases h
theorem Ta(hT:zS P cf.tt){t':TypeId}{same:Bool}{ti:TI}{E:TypeId}{ob:List (Nat×Od)}{xs:List ti.ty.D}{k:Sg->Option R}(ht:P.underlying t=some (.slice E))(hk:ZG cf E=some ti)(hd:wi cx d=true)
 (he:same=true->t=t') (h:LP cf cx σ d t' same ti.ty E ti.B ti.ty.z y ob xs k=some r):
 ∃σ',k σ'=some r/\σ.nx<=σ'.nx/\ ∀(fr:Fr) (vs:Nat->Value) (env:yM) (w:World) (u:Value),Bd cx σ->(∀e∈ob,e.1<σ.nx)->ev env x=u->St fr.we fr.Se (mO ti.ty.rep E u xs::OS vs fr cx ob) (GS P vs env fr cx σ) w->
  jZ P ⟨d,.call ⟨.builtin .append,#[x,y],#[t,t']⟩,ty,pos,aft,g⟩ env w (fun v w'=>aU P fr cx σ.nx vs σ' (put env d v) w'):=by
 obtain⟨zero,hl,ho,hu⟩:=Wv hT hk;have hr:=(hT _ _ hk).2.1;have hn:=(hT _ _ hk).2.2.1;have Gq: ∀m,m*ti.B<=140737488355328->m<=9223372036854775807:=fun m hm=>by
  have:=xck m hr;omega
 unfold LP at h;split at h
 ·next n hw=>
  split at h
  ·next q ik B' hz=>
   obtain⟨j,hj,h⟩:=LL h;obtain⟨hb,h⟩:=kh h;obtain⟨zs,hf,h⟩:=xm h;refine⟨_,h,xcc _,fun fr vs env w u hB hg hx hc=> ?_⟩;obtain⟨S0,_,hΓ⟩:=hc.ex;refine(IL (e:=ti.ty.rep) (z:=ti.ty.z) (n:=j) 0 ht (WG hT hz) hl ho hn rfl hx (by rw[(xT hw (zW hΓ y)).1,hj]) hu (Gq _ hb) hb w hc).mono ?_;rintro v w' ⟨v',rfl,_,hs⟩;refine Vb (vs:=vs) (mk:= .ow) hB hd hg (fun _=>rfl) (fun S w=>QS S w) ?_;rw[Q8,hf];exact hs
  ·cases h
 ·split at h
  ·next o2 t2 lo n hy=>
   split at h
   ·next s2 E2 zs0 hA=>
    obtain⟨hp,h⟩:=yh h;obtain rfl:=he hp;obtain⟨hq,h⟩:=yi h;cases hq;obtain⟨hq,h⟩:=yi h;cases hq;obtain⟨ys,hi,h⟩:=xm h;obtain⟨hb,h⟩:=kh h;obtain⟨zs,hf,h⟩:=xm h;refine⟨_,h,xcc _,fun fr vs env w u hB hg hx hc=> ?_⟩;obtain⟨S0,_,hΓ⟩:=hc.ex;have hv:=zk hy (zW hΓ y);refine(Ja (e:=ti.ty.rep) (ys:=ys) 0 ht hl ho hn rfl hx rfl (fun S w hM ha=> ?_) (Gq _ hb) hb w hc).mono ?_
    ·have hm:(mO ti.ty.rep E2 (vs o2) zs0).p S w:=ux (σ:=⟨σ.nx,σ.rg,ob⟩) (F:=fr.F) hM.2 hA;rcases hv with⟨b,m,cap,c,q1,q2,q3,q4,q5⟩|⟨q1,ao,c,q2,q3⟩
     ·rw[q5,hi];exact Bc hm q1 q2 q3 q4
     ·subst q1;rw[q3,hi];exact⟨ao,c,by simp,by simp,by unfold maxLen;omega,.inl (by simp)⟩
    rintro v w' ⟨v',rfl,_,hs⟩;refine Vb (vs:=vs) (mk:= .ow) hB hd hg (fun _=>rfl) (fun S w=>QS S w) ?_;rw[Q8,hf];exact hs
   ·cases h
  obtain⟨hp,h⟩:=yh h;obtain rfl:=he hp;obtain⟨ys,h,hi⟩:=Xv h;obtain⟨hb,h⟩:=kh h;obtain⟨zs,hf,h⟩:=xm h;refine⟨_,h,xcc _,fun fr vs env w u hB hg hx hc=> ?_⟩;refine(N4 (e:=ti.ty.rep) (ys:=ys) 0 ht hl ho hn rfl hx rfl (fun S w ha=>hi P vs env S w (zW ha y)) (Gq _ hb) hb w hc).mono ?_;rintro v w' ⟨v',rfl,_,hs⟩;refine Vb (vs:=vs) (mk:= .ow) hB hd hg (fun _=>rfl) (fun S w=>QS S w) ?_;rw[Q8,hf];exact hs
theorem zgK(hT:zS P cf.tt){ags:Array Operand}{ts:Array TypeId}{k:Sg->Option R}(hd:wi cx d=true)(h:ze0 cf cx σ d ags.toList ts.toList k=some r):
 lL P cx ⟨d,.call ⟨.builtin .append,ags,ts⟩,ty,pos,aft,g⟩ σ k r:=by
 unfold ze0 at h;split at h
 ·next _ _ x y t t' hl hn=>
  obtain rfl:ags= #[x,y]:=by cases ags;simp_all
  obtain rfl:ts= #[t,t']:=by cases ts;simp_all
  split at h
  ·next s E B ht=>
   split at h
   ·next ti hc=>
    obtain⟨hi,h1⟩:=yi h;subst hi;split at h1
    ·next hx=>
     obtain⟨σ',h5,h6,h7⟩:=Ta (ty:=ty) (pos:=pos) (aft:=aft) (g:=g) (x:=x) hT (vd hT ht) hc hd (fun h=>z8 h) h1;refine⟨σ',h5,h6,fun fr vs env w hR=> ?_⟩;obtain⟨hB,ha⟩:=hR;obtain⟨S0,_,hΓ⟩:=ha.ex;exact h7 fr vs env w _ hB hB.o1 (zk hx (zW hΓ x)) ha.nilO
    ·next o hx=>
     split at h1
     ·next s' E' xs ho=>
      obtain⟨hE,h2⟩:=yh h1;have hE:=z8 hE;subst hE;obtain⟨hj,h3⟩:=yi h2;cases hj;obtain⟨σ',h5,h6,h7⟩:=Ta (ty:=ty) (pos:=pos) (aft:=aft) (g:=g) (x:=x) hT (vd hT ht) hc hd (fun h=>z8 h) h3;refine⟨σ',h5,h6,fun fr vs env w hR=> ?_⟩;obtain⟨hB,ha⟩:=hR;obtain⟨S0,_,hΓ⟩:=ha.ex;obtain⟨i,hf,hm,hg⟩:=x8 ho;have hk:(OS vs fr cx σ.ob)[i]? =some (mO ti.ty.rep E' (vs o) xs):=Wz hf;have hb:=ha.front i hk;rw[KC hf,<-hg]at hb;exact h7 fr vs env w _ hB (fun e he=>hB.o1 e (kT e he)) (zk hx (zW hΓ x)) hb
     ·cases h1
    ·cases h1
   ·cases h
  ·cases h
 ·cases h
theorem zbY{α:Type}(xs ys:List α):(S9 xs ys).length=xs.length:=by
 unfold S9;rw[xau,xay,xbO];omega
theorem zcQ{α:Type}{xs:List α}(ys:List α)(h:xs.length=0):S9 xs ys=xs:=by
 rw[xbF.1 h];simp[S9]
theorem zdR{α:Type}(xs ys:List α):xdr 0 xs++xdr (min ys.length xs.length) ys++xdv (0+min ys.length xs.length) xs=S9 xs ys:=by simp[S9]
theorem Hg{α:Type}(lo:Nat)(xs ys:List α):UH lo 0 xs ys=xs:=by simp[UH]
theorem NA{α:Type}{lo n:Nat}{xs:List α}(ys:List α)(h:lo+n<=xs.length):(UH lo n xs ys).length=xs.length:=by
 unfold UH;rw[xau,xau,xay,xay,xbO];omega
theorem zfv(hT:zS P cf.tt)(hL:jy P cf.tt){ags:Array Operand}{ts:Array TypeId}{k:Sg->Option R}(hd:wi cx d=true)(h:Pa cf cx σ d ags.toList ts.toList k=some r):
 lL P cx ⟨d,.call ⟨.builtin .copy,ags,ts⟩,ty,pos,aft,g⟩ σ k r:=by
 unfold Pa at h;split at h
 ·next x y t t' hK hM=>
  obtain rfl:ags= #[x,y]:=by cases ags;simp_all
  obtain rfl:ts= #[t,t']:=by cases ts;simp_all
  split at h
  ·next s E B o ht hx=>
   split at h
   ·next s' E' xs ho=>
    obtain⟨h1,h⟩:=yh h;obtain⟨hA,h⟩:=yi h;cases hA;obtain⟨ys,h,hy⟩:=Xv h;obtain⟨zs,hb,h⟩:=xm h;have hb:zs=S9 (α:=s.D) xs ys:=hb;obtain⟨bytes,zero,hk⟩:=W8 hT hL ht;have hl:s.rep.n=1:=by rw[s.n_rep];exact z8 h1
    refine⟨_,h,xac _,fun fr vs env w hR=> ?_⟩;obtain⟨hB,hc⟩:=hR;obtain⟨S0,_,hΓ⟩:=hc.ex;have hn:ev env x=vs o:=zk hx (zW hΓ x);obtain⟨i,hi,hq,hH⟩:=x8 ho;have hm:(OS vs fr cx σ.ob)[i]? =some (mO s.rep E' (vs o) xs):=Wz hi;have fin: ∀v w',St fr.we fr.Se ((OS vs fr cx σ.ob).set i (mO s.rep E' (vs o) zs)) (GS P vs env fr cx σ) w'->aU P fr cx σ.nx vs ⟨σ.nx,wZ σ.rg d [],ke σ.ob o (.own s E' zs)⟩ (put env d v) w':=fun v w' hs=>by
     refine VU (σ':=⟨σ.nx,wZ σ.rg d [],ke σ.ob o (.own s E' zs)⟩) (d:=d) (l:=[]) (vs:=vs) (vs':=vs) (Γl:=[]) hB hd rfl (xac _) (fun _ _=>rfl) (fun _ he=>absurd he Nm) (fun e he=> ?_) (fun S w _ e he=>absurd he Nm) ?_
     ·obtain⟨e',h1,h2⟩:=JX ho e he;rw[<-h2];exact hB.o1 e' h1
     ·rw[hq];show St _ _ (MS vs (σ.ob.set i (o,.own s E' zs))++_) _ _;rw[<-nH hi];exact hs
    rcases xcL (xaF xs)with h0|h0
    ·have hv:vs o= .slice none 0 0\/ ∃b cap,vs o= .slice (some ⟨b,0,none⟩) 0 cap:=xN hc hm fun S ⟨cs,h5,_⟩=>by
      rcases h5.2 with⟨h,_⟩|⟨b,cap,cur,h,_⟩
      ·exact .inl h
      ·rw[h0]at h;exact .inr ⟨b,cap,h⟩
     obtain⟨ba,cap,hv⟩: ∃ba cap,vs o= .slice ba 0 cap:=by
      rcases hv with hv|⟨b,cap,hv⟩
      ·exact⟨_,_,hv⟩
      ·exact⟨_,_,hv⟩
     obtain⟨ao,scap,hu,_⟩:=xh.1 (hy P vs env S0 w (zW hΓ y));obtain⟨ti,hC,i1,i2,i3⟩:=hk.info;have hD:(P.info? E).map (·.size)=some 1:=by rw[hC];simp[i1,hl]
     have hr:=run_copy_none (P:=P) w t t' ty E ba ao 0 cap (xaF ys) scap (vd hT ht) hD (Nat.min_zero _);rw[<-hu,<-hv,<-hn]at hr;have hz:zs=xs:=hb.trans (zcQ (α:=s.D) ys h0);refine jZ.of_value (v:=goInt 0) (w':=w) ?_ (fin _ w ?_)
     ·simp only[execOp,resolve,invoke,builtin,xdF,xbP,xep,xaq,hr,xaD,xab]
     ·have:(OS vs fr cx σ.ob).set i (mO s.rep E' (vs o) xs)=OS vs fr cx σ.ob:=by
       obtain⟨hI,hE⟩:=xar.1 hm;rw[<-hE,xfp]
      rw[hz,this];exact hc
    ·obtain⟨b,cap,hv,hF,hG,hs⟩:=hc.openO i hm h0;refine(Gu (e:=s.rep) (l:=0) (dLen:=xaF xs) (dCap:=cap) i (vd hT ht) hk hl (wq hm) (by rw[hn,hv];simp) rfl (by omega) (fun S w ha=>hy P vs env S w (zW ha y)) w hs).mono ?_;rintro v w' ⟨n,rfl,_,hg⟩;refine fin _ w' ?_;have hz:=(zdR (α:=s.D) xs ys).trans hb.symm;rw[hz]at hg;have hf:xaF zs=xaF xs:=by rw[hb];exact zbY (α:=s.D) xs ys
     have hw:=hg.closeF i (wq (wq hm)) (by rw[hf];exact hF) hG;rw[km,km,hf,<-hv]at hw;exact hw
   ·cases h
  ·next s E B o t2 lo n ht hx=>
   split at h
   ·next s' E' xs hj ho _=>
    obtain⟨h1,h⟩:=yh h;obtain⟨hA,h⟩:=yi h;cases hA;obtain⟨ys,h,hy⟩:=Xv h;obtain⟨zs,hb,h⟩:=xm h;have hb:zs=UH (α:=s.D) lo n xs ys:=hb;obtain⟨hj⟩:=hj;subst hj;obtain⟨bytes,zero,hk⟩:=W8 hT hL ht;have hl:t2.rep.n=1:=by rw[t2.n_rep];exact z8 h1
    refine⟨_,h,xac _,fun fr vs env w hR=> ?_⟩;obtain⟨hB,hc⟩:=hR;obtain⟨S0,_,hΓ⟩:=hc.ex;have hn:=zk hx (zW hΓ x);obtain⟨i,hi,hq,hH⟩:=x8 ho;have hm:(OS vs fr cx σ.ob)[i]? =some (mO t2.rep E' (vs o) xs):=Wz hi;have fin: ∀v w',St fr.we fr.Se ((OS vs fr cx σ.ob).set i (mO t2.rep E' (vs o) zs)) (GS P vs env fr cx σ) w'->aU P fr cx σ.nx vs ⟨σ.nx,wZ σ.rg d [],ke σ.ob o (.own t2 E' zs)⟩ (put env d v) w':=fun v w' hs=>by
     refine VU (σ':=⟨σ.nx,wZ σ.rg d [],ke σ.ob o (.own t2 E' zs)⟩) (d:=d) (l:=[]) (vs:=vs) (vs':=vs) (Γl:=[]) hB hd rfl (xac _) (fun _ _=>rfl) (fun _ he=>absurd he Nm) (fun e he=> ?_) (fun S w _ e he=>absurd he Nm) ?_
     ·obtain⟨e',h1,h2⟩:=JX ho e he;rw[<-h2];exact hB.o1 e' h1
     ·rw[hq];show St _ _ (MS vs (σ.ob.set i (o,.own t2 E' zs))++_) _ _;rw[<-nH hi];exact hs
    rcases xcL n with h0|h0
    ·obtain⟨ba,c,hv⟩: ∃ba c,ev env x= .slice ba 0 c:=by
      rcases hn with⟨b,m,cap,c,q1,q2,q3,q4,q5⟩|⟨q1,ao,c,q2,q3⟩
      ·exact⟨_,c,by rw[q5,h0]⟩
      ·exact⟨ao,c,q3⟩
     obtain⟨ao,scap,hu,_⟩:=xh.1 (hy P vs env S0 w (zW hΓ y));obtain⟨ti,hC,i1,i2,i3⟩:=hk.info;have hD:(P.info? E).map (·.size)=some 1:=by rw[hC];simp[i1,hl]
     have hr:=run_copy_none (P:=P) w t t' ty E ba ao 0 c (xaF ys) scap (vd hT ht) hD (Nat.min_zero _);rw[<-hu,<-hv]at hr;have hz:zs=xs:=by rw[hb,h0];exact Hg (α:=t2.D) lo xs ys
     refine jZ.of_value (v:=goInt 0) (w':=w) ?_ (fin _ w ?_)
     ·simp only[execOp,resolve,invoke,builtin,xdF,xbP,xep,xaq,hr,xaD,xab]
     ·have:(OS vs fr cx σ.ob).set i (mO t2.rep E' (vs o) xs)=OS vs fr cx σ.ob:=by
       obtain⟨hI,hE⟩:=xar.1 hm;rw[<-hE,xfp]
      rw[hz,this];exact hc
    ·rcases hn with⟨b0,m,cap0,c,q1,q2,q3,q4,q5⟩|⟨q1,ao,c,q2,q3⟩
     ·have hJ:m=xaF xs:=xN hc hm fun S hp=>bZ hp q1;subst hJ;obtain⟨b,cap,hv,hF,hG,hs⟩:=hc.openO i hm (by omega);rw[q1]at hv;cases hv;refine(Gu (e:=t2.rep) (l:=lo) (dLen:=n) (dCap:=c) i (vd hT ht) hk hl (wq hm) q5 rfl q2 (fun S w ha=>hy P vs env S w (zW ha y)) w hs).mono ?_;rintro v w' ⟨nn,rfl,_,hg⟩;refine fin _ w' ?_;have hg:St fr.we fr.Se (((OS vs fr cx σ.ob).set i (mB (rowT t2.rep cap0) E' b0 xs)).set i (mB (rowT t2.rep cap0) E' b0 (UH (α:=t2.D) lo n xs ys))) (GS P vs env fr cx σ) w':=hg;rw[<-hb]at hg;have hf:xaF zs=xaF xs:=by rw[hb];exact NA (α:=t2.D) ys q2
      have hw:=hg.closeF i (wq (wq hm)) (by rw[hf];exact hF) hG;rw[km,km,hf,<-q1]at hw;exact hw
     ·omega
   ·cases h
  ·cases h
 ·cases h
end
end
end Go.Proofs.YtmggkmchbdanfaaGreat
