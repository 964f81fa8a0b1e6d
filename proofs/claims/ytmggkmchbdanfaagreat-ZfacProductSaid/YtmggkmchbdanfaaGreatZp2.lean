/- What a proof needs: rules of walking, mirrors of functions and their plain laws. No condition. -/
import Derived.Test.YtmggkmchbdanfaaGreatZp1
import Derived.WideKeyArgs
import Derived.Laws.IdiomStrings
set_option linter.unusedVariables false
set_option linter.unusedSimpArgs false
namespace Go.Proofs.YtmggkmchbdanfaaGreat
open Bool renaming and_eq_true->xam,false_eq_true->xak
open Call renaming operands->xef
open DataW renaming TrodAll->xey
open Extern renaming find->xeO,findNext->xdX
open Extern.MathBitsCarry renaming m64->xaZ,pair->xbS,three->xbM
open Instr renaming slice->xfE,sliceAt->xcT,sliceBound->xei,sliceBounds->xdT
open Int renaming eq_ofNat_of_zero_le->xaC,fdiv->xfN,natCast_nonneg->xdb,tdiv->xda,tmod->xbZ,toNat_natCast->xaM,toNat_of_nonneg->xcV
open IntKind renaming bits->xeq,i64->xcU,signed->xdR,u8->xfQ,wrap->xfM
open List renaming all_eq_true->xaR,append_nil->xbN,drop->xdw,ext_getElem?->xcw,getD->xek,getD_eq_getElem?_getD->UV,getElem?_append_left->xbn,getElem?_append_right->xcj,getElem?_eq_getElem->IR,getElem?_eq_some_iff->xat,getElem?_map->xaB,getElem?_range->xbg,getElem?_set->xdY,getElem_map->xfz,getElem_mem->xbh,length->xaG,length_append->xau,length_cons->xav,length_drop->xbQ,length_eq_zero_iff->xbG,length_map->xaN,length_replicate->xaU,length_set->xcG,length_take->xay,map_congr_left->xbO,map_cons->xbR,map_map->xcP,map_nil->xer,map_toArray->xdG,mem_append->Nm,mem_cons->xae,mem_cons_of_mem->H1,mem_cons_self->FS,mem_filter->xbY,mem_filterMap->xfa,mem_map->xai,mem_of_getElem?->xbr,mem_or_eq_of_mem_set->xeG,mem_singleton->xah,nil_append->xbF,not_mem_nil->xaa,range->xbc,range'->xfk,replicate->xaf,set->xfR,set_getElem_self->xfq,take->xdr,take_append_drop->xbK,take_of_length_le->xaX
open List.cons renaming injEq->xes
open Nat renaming add_assoc->xcY,add_mul->xaV,beq->xan,ble->xfO,blt->xdl,eq_of_beq_eq_true->xcH,eq_zero_or_pos->xcN,le_mul_of_pos_right->xcl,le_of_ble_eq_true->xbJ,le_of_lt->xcO,le_refl->xac,le_succ->xce,le_trans->xao,lt_of_le_of_lt->xbd,lt_of_lt_of_le->xap,lt_or_ge->xci,lt_succ_of_lt->xfl,lt_succ_self->xbV,mod_lt->xbq,not_lt_zero->xbv,one_mul->xcn,zero_add->xaT,zero_le->xaj,zero_mul->xcI
open Op renaming operands->xaL
open Oper renaming looksAt->xbz
open Option.some renaming inj->xds,injEq->xaw
open Prod.mk renaming injEq->xcu
open Result renaming andThen_ok->xab
open Sem renaming run_bind->xaq,run_pure->xaE
open Sum renaming elim->xfp
open UInt8 renaming ofNat->xeP,toNat->xfj
open Value renaming okWide->xec
open _root_.Array renaming getElem?_eq_getElem->xcx,getElem?_eq_some_iff->xbj
section
structure Vb where
 f:FuncId
 dom:List AM
 cod:List RM
 M:Kc dom->Option (bj cod)
 bk:Nat
structure oO where
 f:FuncId
 t:Ty
 E:TypeId
 E1:TypeId
 M:List (List t.D)->List Nat->Nat->Int->Int->Nat->Nat->Option (List (List t.D))
structure ER where
 f:FuncId
 dom:List Ty
 g:FuncId
 mc:bn dom->List PD
structure sj where
 f:FuncId
 dom:List AM
 t:Ty
 E:TypeId
 M:Kc dom->{X Y:Type}->(List t.D->X->Option (List t.D×(X⊕Y)))->X->Option (X⊕Y)
structure Cf where
 tt:List (Nat×TI)
 cs:List Vb
 an:An
 fu:Nat
 ex:List (Nat×Bool)
 ms:List oO:=[]
 cl:List ER:=[]
 is:List sj:=[]
def O1:List oO->FuncId->Option oO
 |[],_=>none
 |s::r,f=>bif xan s.f f then some s else O1 r f
def zad:List ER->FuncId->Option ER
 |[],_=>none
 |s::r,f=>bif xan s.f f then some s else zad r f
def zc3:List sj->FuncId->Option sj
 |[],_=>none
 |s::r,f=>bif xan s.f f then some s else zc3 r f
abbrev km{R:Type}(b:Bool)(x:Option R):Option R:=match b with
 |true=>x
 |false=>none
abbrev HV{R:Type}(b:Bool)(x y:Option R):Option R:=match b with
 |true=>x
 |false=>y
def oQ:List AM->Bool
 |[]=>true
 | .own _ _::_=>false
 |_::r=>oQ r
def Ab:List Vb->FuncId->Option Vb
 |[],_=>none
 |s::r,f=>bif xan s.f f && (oQ s.dom && xan s.bk 0)then some s else Ab r f
section
variable{R:Type}(cf:Cf)(cx:Sg)
def zc4:Dv->Option PD
 | .d t x=>some ⟨t,x⟩
 | .kb b=>some ⟨.b,b⟩
 |_=>none
def sr(v:Option Dv)(t:Ty)(k:t.D->Option R):Option R:=match v with
 |some .nil=>(match t,k with
  | .l s,k=>k ([]:List s.D)
  |_,_=>none)
 |some v=>(match zc4 v with
  |some p=>Ty.cast p.t t p.x k
  |none=>none)
 |none=>none
def arI(bo:BinOp)(a c:Int)(k:Dv->Option R):Option R:=match bo with
 | .add=>ze (a+c) fun x=>k (.d .i x)
 | .sub=>ze (a-c) fun x=>k (.d .i x)
 | .mul=>ze (a*c) fun x=>k (.d .i x)
 | .quo=>ck (c≠0)<|ze (xda a c) fun x=>k (.d .i x)
 | .rem=>ck (c≠0)<|nm (xbZ a c) fun x=>k (.d .i x)
 | .and=>nm (H4 a c) fun x=>k (.d .i x)
 | .or=>nm (orI a c) fun x=>k (.d .i x)
 | .shr=>ck (0<=c)<|nm (xfN a (2^(min c.toNat 64))) fun x=>k (.d .i x)
 | .shl=>ck (0<=c)<|ze (a*2^(min c.toNat 64)) fun x=>k (.d .i x)
 | .lss=>if a<c then k (.kb true)else k (.kb false)
 | .leq=>if a<=c then k (.kb true)else k (.kb false)
 | .gtr=>if c<a then k (.kb true)else k (.kb false)
 | .geq=>if c<=a then k (.kb true)else k (.kb false)
 | .eql=>if a=c then k (.kb true)else k (.kb false)
 | .neq=>if a=c then k (.kb false)else k (.kb true)
 |_=>none
def arU(bo:BinOp)(a c:Nat)(k:Dv->Option R):Option R:=match bo with
 | .add=>nm ((a+c) % 18446744073709551616) fun x=>k (.d .u x)
 | .sub=>nm ((a+18446744073709551616-c) % 18446744073709551616) fun x=>k (.d .u x)
 | .mul=>nm ((a*c) % 18446744073709551616) fun x=>k (.d .u x)
 | .quo=>ck (c≠0)<|nm (a/c) fun x=>k (.d .u x)
 | .rem=>ck (c≠0)<|nm (a % c) fun x=>k (.d .u x)
 | .and=>nm (a &&& c) fun x=>k (.d .u x)
 | .or=>nm (a|||c) fun x=>k (.d .u x)
 | .lss=>if(a:Int)<(c:Int)then k (.kb true)else k (.kb false)
 | .leq=>if(a:Int)<=(c:Int)then k (.kb true)else k (.kb false)
 | .gtr=>if(c:Int)<(a:Int)then k (.kb true)else k (.kb false)
 | .geq=>if(c:Int)<=(a:Int)then k (.kb true)else k (.kb false)
 | .eql=>if(a:Int)=(c:Int)then k (.kb true)else k (.kb false)
 | .neq=>if(a:Int)=(c:Int)then k (.kb false)else k (.kb true)
 |_=>none
def arC(bo:BinOp)(a c:Nat)(k:Dv->Option R):Option R:=match bo with
 | .add=>nm ((a+c) % 256) fun x=>k (.d .ch x)
 | .sub=>nm ((a+256-c) % 256) fun x=>k (.d .ch x)
 | .lss=>if(a:Int)<(c:Int)then k (.kb true)else k (.kb false)
 | .leq=>if(a:Int)<=(c:Int)then k (.kb true)else k (.kb false)
 | .gtr=>if(c:Int)<(a:Int)then k (.kb true)else k (.kb false)
 | .geq=>if(c:Int)<=(a:Int)then k (.kb true)else k (.kb false)
 | .eql=>if(a:Int)=(c:Int)then k (.kb true)else k (.kb false)
 | .neq=>if(a:Int)=(c:Int)then k (.kb false)else k (.kb true)
 |_=>none
def eqT(bo:BinOp)(a c:List Nat)(k:Dv->Option R):Option R:=match bo with
 | .add=>ck (a.length+c.length<=9223372036854775807)<|nm (a++c) fun x=>k (.d .tx x)
 | .eql=>if a=c then k (.kb true)else k (.kb false)
 | .neq=>if a=c then k (.kb false)else k (.kb true)
 |_=>none
def shU(bo:BinOp)(a:Nat)(c:Int)(k:Dv->Option R):Option R:=match bo with
 | .shr=>ck (0<=c)<|nm (a/2^(min c.toNat 64)) fun x=>k (.d .u x)
 | .shl=>ck (0<=c)<|nm (a*2^(min c.toNat 64) % 18446744073709551616) fun x=>k (.d .u x)
 |_=>none
def ND(bo:BinOp)(a c:Nat)(k:Dv->Option R):Option R:=match bo with
 | .shr=>nm (a/2^(min (c:Int).toNat 64)) fun x=>k (.d .u x)
 | .shl=>nm (a*2^(min (c:Int).toNat 64) % 18446744073709551616) fun x=>k (.d .u x)
 |_=>none
def shI(bo:BinOp)(a:Int)(c:Nat)(k:Dv->Option R):Option R:=match bo with
 | .shr=>nm (xfN a (2^(min (c:Int).toNat 64))) fun x=>k (.d .i x)
 | .shl=>ze (a*2^(min (c:Int).toNat 64)) fun x=>k (.d .i x)
 |_=>none
def eqB(bo:BinOp)(a c:Bool)(k:Dv->Option R):Option R:=match bo with
 | .eql=>nm (a==c) fun x=>k (.d .b x)
 | .neq=>nm (!(a==c)) fun x=>k (.d .b x)
 |_=>none
def zec(tb:Bool)(bo:BinOp)(x y:Option PD)(k:Dv->Option R):Option R:=match x,y with
 |some ⟨.i,a⟩,some ⟨.i,c⟩=>arI bo a c k
 |some ⟨.u,a⟩,some ⟨.u,c⟩=>(match bo with
  | .shr=>ND .shr a c k
  | .shl=>ND .shl a c k
  |bo=>arU bo a c k)
 |some ⟨.u,a⟩,some ⟨.i,c⟩=>shU bo a c k
 |some ⟨.i,a⟩,some ⟨.u,c⟩=>shI bo a c k
 |some ⟨.b,a⟩,some ⟨.b,c⟩=>km tb<|eqB bo a c k
 |some ⟨.ch,a⟩,some ⟨.ch,c⟩=>arC bo a c k
 |some ⟨.tx,a⟩,some ⟨.tx,c⟩=>eqT bo a c k
 |_,_=>none
def chI(a:Nat):Dv:= .d .i (a:Int)
def chU(a:Nat)(k:Dv->Option R):Option R:=nm (a % 256) fun x=>k (.d .ch x)
def zha(kk:TK)(x:Option PD)(k:Dv->Option R):Option R:=match kk,x with
 | .int .i64,some ⟨.i,a⟩=>k (.d .i a)
 | .int .u64,some ⟨.u,a⟩=>k (.d .u a)
 | .int .u64,some ⟨.i,a⟩=>nm (gB a) fun x=>k (.d .u x)
 | .int .i64,some ⟨.u,a⟩=>nm (OX a) fun x=>k (.d .i x)
 | .int .i64,some ⟨.ch,a⟩=>k (chI a)
 | .int .u64,some ⟨.ch,a⟩=>k (.d .u a)
 | .int .u8,some ⟨.ch,a⟩=>k (.d .ch a)
 | .int .u8,some ⟨.u,a⟩=>chU a k
 |_,_=>none
def pd(σ:Sg)(x:Operand):Option PD:=match xW cx σ x with
 |some v=>zc4 v
 |none=>none
def ZV(t:TypeId):Option TI:=QJ cf.tt t
def isB(t:TypeId):Bool:=match ZV cf t with
 |some ⟨_,.bool,_⟩=>true
 |_=>false
def ifB(x:Bool)(a c:Option R):Option R:=if x=true then a else c
def eqI(x y:Int):Bool:=decide (x=y)
def eqU(x y:Nat):Bool:=decide (x=y)
def ngI(a:Int)(k:Dv->Option R):Option R:=ze (0-a) fun x=>k (.d .i x)
def ngU(a:Nat)(k:Dv->Option R):Option R:=nm ((18446744073709551616-a) % 18446744073709551616) fun x=>k (.d .u x)
def zhq{α:Type}(xs ys:List α)(B:Nat)(k:List α->Option R):Option R:=ck ((xs.length+ys.length)*B<=140737488355328)<|nm (xs++ys) k
def zi8{α:Type}(xs:List α)(n:Nat)(z:α)(B:Nat)(k:List α->Option R):Option R:=ck ((xs.length+n)*B<=140737488355328)<|nm (xs++xaf n z) k
def ixU(j:Nat)(n:Nat)(k:Nat->Option R):Option R:=zH (j:Int) n k
def Nq:Operand->Operand->Bool
 | .tmp s,.tmp t=>xan s t
 | .const (.int .i64 x),.const (.int .i64 y)=>eqI x y
 |_,_=>false
def exU(b:Bool)(x y z:Nat)(k:List (Nat×Dv)->Option R):Option R:=
 ck (z<=1)<|HV b (nm ((x+y+z) % 18446744073709551616) fun p=>nm ((x+y+z)/18446744073709551616) fun q=>k [(1,.d .u p),(2,.d .u q)])
  (nm ((x+18446744073709551616-y-z) % 18446744073709551616) fun p=>nm (if x<y+z then(1:Nat)else 0) fun q=>k [(1,.d .u p),(2,.d .u q)])
def exD(b:Bool)(x y z:Option PD)(k:List (Nat×Dv)->Option R):Option R:=match x,y,z with
 |some ⟨.u,x⟩,some ⟨.u,y⟩,some ⟨.u,z⟩=>exU b x y z k
 |_,_,_=>none
def xX(σ:Sg):(ts:List Ty)->List (Nat×Operand)->Nat->(bn ts->Option R)->Option R
 |[],[],_,k=>k ()
 |t::ts,(i,x)::r,j,k=>km (xan i j)<|sr (xW cx σ x) t fun y=>xX σ ts r (j+1) fun ys=>k (y,ys)
 |_,_,_,_=>none
def NS:(k:Nat)->Ty->List Ty
 |0,_=>[]
 |1,t=>[t]
 |k+2,.p s t=>s::NS (k+1) t
 |_,_=>[]
def K4:(k:Nat)->(t:Ty)->bn (NS k t)->Option t.D
 |0,_,_=>none
 |1,t,x=>some x.1
 |k+2,.p s t,x=>match K4 (k+1) t x.2 with
  |some y=>some (x.1,y)
  |none=>none
 |_+2,.i,_=>none
 |_+2,.u,_=>none
 |_+2,.b,_=>none
 |_+2,.l _,_=>none
 |_+2,.a _ _,_=>none
 |_+2,.ch,_=>none
 |_+2,.tx,_=>none
def r7:Nat->Ty->List Ty
 |0,_=>[]
 |n+1,t=>t::r7 n t
def bN:(n:Nat)->(t:Ty)->bn (r7 n t)->List t.D
 |0,_,_=>[]
 |n+1,t,x=>x.1::bN n t x.2
def Jg(σ:Sg):List Operand->Option (List PD)
 |[]=>some []
 |x::r=>match xW cx σ x,Jg σ r with
  |some (.q t y),some l=>some (⟨t,y⟩::l)
  |_,_=>none
def Ju:(full:List AM)->List PD->Option (Kc full)
 |[],[]=>some ()
 | .q t::r,c::cs=>Ty.cast c.t t c.x fun y=>match Ju r cs with
  |some z=>some (y,z)
  |none=>none
 |_,_=>none
def Cc:(full:List AM)->(dom:List Ty)->bn dom->List PD->Option (Kc full)
 |full,[],_,cs=>Ju full cs
 | .d t::r,s::dom,x,cs=>Ty.cast s t x.1 fun y=>match Cc r dom x.2 cs with
  |some z=>some (y,z)
  |none=>none
 |_,_::_,_,_=>none
def CL:(s t:List Ty)->Option (PLift (s=t))
 |[],[]=>some ⟨rfl⟩
 |s::ss,t::ts=>match Ty.same s t,CL ss ts with
  |some ⟨h⟩,some ⟨h'⟩=>some ⟨h▸h'▸rfl⟩
  |_,_=>none
 |_,_=>none
theorem RM.D_ty: ∀r:RM,r.D=r.ty.D
 | .d _=>rfl
 | .own _ _=>rfl
theorem Yf: ∀rs:List RM,bj rs=Ak (rs.map RM.ty)
 |[]=>rfl
 |[m]=>RM.D_ty m
 |m::n::r=>by show(m.D×bj (n::r))=(m.ty.D×Ak ((n::r).map RM.ty));rw[RM.D_ty m,Yf (n::r)]
def asF(σ:Sg)(v:Option Dv)(dom cod:List Ty)(k:(bn dom->Option (Ak cod))->Option R):Option R:=match v with
 |some (.fn f c)=>(match Ab cf.cs f with
  |some s=>(match CL (s.cod.map RM.ty) cod with
   |some ⟨h⟩=>k fun x=>match Cc s.dom dom x c with
    |some y=>((Yf s.cod).trans (congrArg Ak h))▸s.M y
    |none=>none
   |none=>none)
  |none=>none)
 |some (.fp d c g)=>(match CL d dom,CL c cod with
  |some ⟨h⟩,some ⟨h'⟩=>k (h▸h'▸g)
  |_,_=>none)
 |_=>none
def XJ(σ:Sg):(dom:List AM)->List Operand->List PD->(Kc dom->Option R)->Option R
 |[],[],[],k=>k ()
 | .q t::r,[],c::cs,k=>Ty.cast c.t t c.x fun y=>XJ σ r [] cs fun z=>k (y,z)
 | .d t::r,x::xs,cs,k=>sr (xW cx σ x) t fun y=>XJ σ r xs cs fun z=>k (y,z)
 | .q t::r,x::xs,cs,k=>(match xW cx σ x with
  |some (.q s y)=>Ty.cast s t y fun y=>XJ σ r xs cs fun z=>k (y,z)
  |_=>none)
 | .fn dom cod::r,x::xs,cs,k=>asF cf σ (xW cx σ x) dom cod fun g=>XJ σ r xs cs fun z=>k (g,z)
 |_,_,_,_=>none
def Og:(rs:List RM)->bj rs->Nat->List (Nat×Dv)
 |[],_,_=>[]
 |[.d t],x,i=>[(i,.d t x)]
 |[.own t _],x,i=>[(i,.d (.l t) x)]
 | .d t::r::rs,x,i=>(i,.d t x.1)::Og (r::rs) x.2 (i+1)
 | .own t _::r::rs,x,i=>(i,.d (.l t) x.1)::Og (r::rs) x.2 (i+1)
def QT:List RM->Bool
 |[_]=>true
 |_=>false
def zch(rs:List RM)(x:bj rs):List (Nat×Dv):=Og rs x (bif QT rs then 0 else 1)
def pF(σ:Sg):(dom:List Ty)->List Operand->(bn dom->Option R)->Option R
 |[],[],k=>k ()
 |t::r,x::xs,k=>sr (xW cx σ x) t fun y=>pF σ r xs fun z=>k (y,z)
 |_,_,_=>none
def Px:(cod:List Ty)->Ak cod->Nat->List (Nat×Dv)
 |[],_,_=>[]
 |[t],x,i=>[(i,.d t x)]
 |t::s::r,x,i=>(i,.d t x.1)::Px (s::r) x.2 (i+1)
def zbn:List Ty->Bool
 |[_]=>true
 |_=>false
def zdt(σ:Sg)(v:Option Dv)(k:PD->Option R):Option R:=match v with
 |some (.q t x)=>k ⟨t,x⟩
 |some (.vs o _)=>(match Qj cx σ o with
  |some (.var t _ z)=>k ⟨t,z⟩
  |_=>none)
 |some (.vp o t f)=>(match Qj cx σ o with
  |some (.var t' _ z)=>Ty.cast t' t z fun z=>k ⟨f.f,f.get z⟩
  |_=>none)
 |some (.ep o t j f)=>(match Qj cx σ o with
  |some (.own t' _ xs)=>Ty.cast (.l t') (.l t) xs fun xs=>nm (f.get (xek xs j t.z)) fun y=>k ⟨f.f,y⟩
  |_=>none)
 |_=>none
def OV(σ:Sg)(x:Operand)(n:Nat)(k:Nat->Option R):Option R:=match pd cx σ x with
 |some ⟨.i,j⟩=>zH j n k
 |some ⟨.u,j⟩=>ixU j n k
 |_=>none
def Eu(σ:Sg)(x:Option Operand)(k:Option Nat->Option R):Option R:=match x with
 |none=>k none
 |some x=>match pd cx σ x with
  |some ⟨.i,j⟩=>ki j fun j=>k (some j)
  |_=>none
def zfJ{α:Type}(xs:List α)(lo hi:Option Nat)(k:List α->Option R):Option R:=match lo,hi with
 |none,some h=>ck (h<=xs.length)<|nm (xs.take h) k
 |some l,none=>ck (l<=xs.length)<|nm (xs.drop l) k
 |some l,some h=>ck (l<=h/\h<=xs.length)<|nm ((xs.drop l).take (h-l)) k
 |none,none=>k xs
def zdb(m:Nat)(lo hi:Option Nat)(k:Nat->Nat->Option R):Option R:=match lo,hi with
 |none,some h=>ck (h<=m)<|k 0 h
 |some l,none=>ck (l<=m)<|k l (m-l)
 |some l,some h=>ck (l<=h/\h<=m)<|k l (h-l)
 |none,none=>k 0 m
def zcv(σ:Sg)(t:Nat):Nat->Nat->List (Nat×Dv)
 |0,_=>[]
 |f+1,i=>match get cx σ t i with
  |some d=>(i,d)::zcv σ t f (i+1)
  |none=>[]
def zgW(σ:Sg)(x:Operand)(k:List (Nat×Dv)->Option R):Option R:=match x with
 | .tmp t=>(match zcv cx σ t 12 1 with
  |[]=>none
  |l=>k l)
 |_=>none
def L9(σ:Sg)(x:Operand)(k:List (Nat×Dv)->Option R):Option R:=match xW cx σ x with
 |some v=>k [(0,v)]
 |none=>zgW cx σ x k
def zeF(σ:Sg)(x:Operand)(i:Nat)(k:List (Nat×Dv)->Option R):Option R:=match x with
 | .tmp t=>(match get cx σ t (i+1)with
  |some v=>k [(0,v)]
  |none=>none)
 |_=>none
def zcc(σ:Sg)(x:Operand)(k:List (Nat×Dv)->Option R):Option R:=match xW cx σ x with
 |some v=>k [(0,v)]
 |none=>none
def Pa(σ:Sg)(c x y:Operand)(k:List (Nat×Dv)->Option R):Option R:=match xW cx σ c with
 |some (.kb true)=>zcc cx σ x k
 |some (.kb false)=>zcc cx σ y k
 |_=>none
def ziL(b:Bool):Dv:= .d .b (not b)
def zfe(σ:Sg)(x:Operand)(k:List (Nat×Dv)->Option R):Option R:=match xW cx σ x with
 |some (.kb b)=>k [(0,.kb !b)]
 |some (.d .b b)=>k [(0,ziL b)]
 |_=>none
def zf5(σ:Sg)(x:Operand)(k:List (Nat×Dv)->Option R):Option R:=match pd cx σ x with
 |some ⟨.i,a⟩=>ngI a fun v=>k [(0,v)]
 |some ⟨.u,a⟩=>ngU a fun v=>k [(0,v)]
 |_=>none
def txD(xs:List Nat):Dv:= .d .tx xs
def zfd(σ:Sg)(s t:TypeId)(x:Operand)(k:List (Nat×Dv)->Option R):Option R:=match ZV cf s,ZV cf t with
 |some ⟨_,.int _,_⟩,some ti=>zha ti.k (pd cx σ x) fun v=>k [(0,v)]
 |some ⟨.l .ch,.sl E,_⟩,some ⟨_,.str,_⟩=>(match ZV cf E with
  |some ⟨_,.int .u8,_⟩=>sr (xW cx σ x) (.l .ch) fun xs=>k [(0,txD xs)]
  |_=>none)
 |_,_=>none
def elA(E:TypeId)(e:Ty):Bool:=match ZV cf E with
 |some ti=>(Ty.same ti.ty e).isSome
 |none=>false
def zhN(n:Nat)(e:Ty)(j:Nat):Fl (Ty.a n e).D:=⟨j*e.n,e,fun z=>xek z j e.z,fun y z=>xfR z j y⟩
def Hn(σ:Sg)(t:TypeId)(x i:Operand)(k:List (Nat×Dv)->Option R):Option R:=match ZV cf t,xW cx σ x with
 |some ⟨.l e,.sl _,_⟩,some (.d (.l s) xs)=>Ty.cast (.l s) (.l e) xs fun xs=>OV cx σ i (xaG xs) fun j=>nm (xek xs j e.z) fun y=>k [(0,.q e y)]
 |some ⟨.l e,.sl _,_⟩,some (.ow o)=>(match Qj cx σ o with
  |some (.own s _ xs)=>Ty.cast (.l s) (.l e) xs fun xs=>OV cx σ i (xaG xs) fun j=>k [(0,.ep o e j (Fl.self e))]
  |_=>none)
 |some ⟨_,.ar n' E,_⟩,some (.q (.a n e) x)=>km (xan n' n && elA cf E e)<|OV cx σ i n fun j=>nm (xek x j e.z) fun y=>k [(0,.q e y)]
 |some ⟨_,.ar n' E,_⟩,some (.vs o (.a n e))=>km (xan n' n && elA cf E e)<|OV cx σ i n fun j=>k [(0,.vp o (.a n e) (zhN n e j))]
 |_,_=>none
def Hs(σ:Sg)(t:TypeId)(x:Operand)(i:Nat)(k:List (Nat×Dv)->Option R):Option R:=match ZV cf t,xW cx σ x with
 |some ⟨e,.st n,_⟩,some (.q s y)=>Ty.cast s e y fun y=>(match Qw n e i with
  |some f=>k [(0,.q f.f (f.get y))]
  |none=>none)
 |some ⟨e,.st n,_⟩,some (.vs o s)=>(match Ty.same s e,Qw n s i with
  |some _,some f=>k [(0,.vp o s f)]
  |_,_=>none)
 |some ⟨e,.st n,_⟩,some (.vp o s g)=>(match Ty.same g.f e,Qw n g.f i with
  |some _,some f=>k [(0,.vp o s (g.comp f))]
  |_,_=>none)
 |some ⟨e,.st n,_⟩,some (.ep o s j g)=>(match Ty.same g.f e,Qw n g.f i with
  |some _,some f=>k [(0,.ep o s j (g.comp f))]
  |_,_=>none)
 |_,_=>none
def Dr(σ:Sg)(t:TypeId)(x:Operand)(i:Nat)(k:List (Nat×Dv)->Option R):Option R:=match ZV cf t,xW cx σ x with
 |some ⟨e,.st n,_⟩,some (.d s y)=>Ty.cast s e y fun y=>(match Qw n e i with
  |some f=>k [(0,.d f.f (f.get y))]
  |none=>none)
 |_,_=>none
def R2(σ:Sg)(t:TypeId)(x:Operand)(k:List (Nat×Dv)->Option R):Option R:=match ZV cf t with
 |some ti=>zdt cx σ (xW cx σ x) fun p=>Ty.cast p.t ti.ty p.x fun y=>k [(0,.d ti.ty y)]
 |none=>none
def H5(σ:Sg)(t:TypeId)(x:Operand)(lo hi:Option Operand)(k:List (Nat×Dv)->Option R):Option R:=match ZV cf t,xW cx σ x with
 |some ⟨.l e,.sl _,_⟩,some (.d (.l s) xs)=>Ty.cast (.l s) (.l e) xs fun xs=>Eu cx σ lo fun lo=>Eu cx σ hi fun hi=>zfJ (α:=e.D) xs lo hi fun ys=>k [(0,.d (.l e) ys)]
 |some ⟨.l e,.sl _,_⟩,some (.ow o)=>(match Qj cx σ o with
  |some (.own s _ xs)=>Ty.cast (.l s) (.l e) xs fun xs=>Eu cx σ lo fun lo=>Eu cx σ hi fun hi=>zdb (xaG xs) lo hi fun l n=>k [(0,.sv o e l n)]
  |_=>none)
 |some ⟨_,.str,_⟩,some (.d .tx xs)=>Eu cx σ lo fun lo=>Eu cx σ hi fun hi=>zfJ (α:=Nat) xs lo hi fun ys=>k [(0,.d .tx ys)]
 |_,_=>none
def zf7(σ:Sg)(t:TypeId)(x i:Operand)(k:List (Nat×Dv)->Option R):Option R:=match ZV cf t,xW cx σ x with
 |some ⟨_,.str,_⟩,some (.d .tx xs)=>OV cx σ i (xaG (α:=Nat) xs) fun j=>nm (xek (α:=Nat) xs j 0) fun y=>k [(0,.d .ch y)]
 |_,_=>none
def zfy(σ:Sg)(E:TypeId)(x:Operand)(k:List (Nat×Dv)->Option R):Option R:=match ZV cf E with
 |some ti=>sr (xW cx σ x) ti.ty fun y=>k [(0,.q ti.ty y)]
 |none=>none
def HL(σ:Sg)(t:TypeId)(ps:List (Nat×Operand))(k:List (Nat×Dv)->Option R):Option R:=match ZV cf t with
 |some ⟨ty,.st n,_⟩=>(match ps with
  |[]=>k [(0,.d ty ty.z)]
  |[(i,x)]=>(match Qw n ty i with
   |some f=>sr (xW cx σ x) f.f fun y=>k [(0,.d ty (f.set y ty.z))]
   |none=>none)
  |ps=>xX cx σ (NS n ty) ps 0 fun ys=>match K4 n ty ys with
   |some y=>k [(0,.d ty y)]
   |none=>none)
 |some ⟨.a n e,.ar n' E,_⟩=>km (xan n' n && elA cf E e)<|xX cx σ (r7 n e) ps 0 fun ys=>k [(0,.d (.a n e) (bN n e ys))]
 |_=>none
def zfk(σ:Sg)(t:TypeId)(n:Nat)(ps:List (Nat×Operand))(k:List (Nat×Dv)->Option R):Option R:=match ZV cf t with
 |some ⟨.l s,.sl _,_⟩=>km (xfO (n*s.n) 16777216)<|xX cx σ (r7 n s) ps 0 fun ys=>k [(0,.d (.l s) (bN n s ys))]
 |_=>none
def zfY(σ:Sg)(f:Go.Fn)(first cs:List Operand)(k:List (Nat×Dv)->Option R):Option R:=match f,first,Jg cx σ cs with
 | .func f,[],some l=>k [(0,.fn f l)]
 |_,_,_=>none
def GX(n:Nat):Dv:= .d .i (n:Int)
def zeG(σ:Sg)(x:List Operand)(ts:List TypeId)(k:List (Nat×Dv)->Option R):Option R:=match x,ts with
 |[x],[t]=>(match ZV cf t with
  |some ⟨.l _,.sl _,_⟩=>(match xW cx σ x with
   |some .nil=>k [(0,GX 0)]
   |some (.d (.l _) xs)=>k [(0,GX (xaG xs))]
   |some (.ow o)=>(match Qj cx σ o with
    |some (.own _ _ xs)=>k [(0,GX (xaG xs))]
    |_=>none)
   |_=>none)
  |some ⟨_,.str,_⟩=>(match xW cx σ x with
   |some (.d .tx xs)=>k [(0,GX (xaG (α:=Nat) xs))]
   |_=>none)
  |_=>none)
 |_,_=>none
def zfF(x:Int):Dv:= .d .i x
def mxI(b:Bool)(a c:Int)(k:Int->Option R):Option R:=match b with
 |true=>nm (max a c) k
 |false=>nm (min a c) k
def eMM(b:Bool)(σ:Sg)(x:List Operand)(k:List (Nat×Dv)->Option R):Option R:=match x with
 |[x,y]=>(match pd cx σ x,pd cx σ y with
  |some ⟨.i,a⟩,some ⟨.i,c⟩=>mxI b a c fun z=>k [(0,zfF z)]
  |_,_=>none)
 |_=>none
def zgM:Operand->Bool
 | .func _=>true
 |_=>false
def RQ(σ:Sg)(fo:Operand)(ags:List Operand)(k:List (Nat×Dv)->Option R):Option R:=match xW cx σ fo with
 |some (.fn f cs)=>(match Ab cf.cs f with
  |some s=>XJ cf cx σ s.dom ags cs fun y=>bd (s.M y) fun r=>k (zch s.cod r)
  |none=>(match QJ cf.ex f,ags,cs with
   |some b,[x,y,z],[]=>km (zgM fo)<|exD b (pd cx σ x) (pd cx σ y) (pd cx σ z) k
   |_,_,_=>none))
 |some (.fp dom cod g)=>pF cx σ dom ags fun y=>bd (g y) fun r=>k (Px cod r (bif zbn cod then 0 else 1))
 |_=>none
def OC:Option Dv->Bool
 |some (.mw _)=>true
 |some (.mv _ _ _)=>true
 |some (.hp _ _)=>true
 |some (.rw _ _)=>true
 |some (.rp _ _ _ _ _)=>true
 |_=>false
def zeK:Option Dv->Bool
 |some (.mv _ _ _)=>true
 |_=>false
def mkF(σ:Sg)(f:Operand):Bool:=match xW cx σ f with
 |some (.fn f _)=>(zad cf.cl f).isSome
 |_=>false
def zhU(σ:Sg):Op->Bool
 | .load _ x=>OC (xW cx σ x)
 | .indexAddr _ x _=>OC (xW cx σ x)
 | .slice _ x _ _ none=>OC (xW cx σ x)
 | .call ⟨.builtin .len,ags,_⟩=>ags.toList.any fun x=>OC (xW cx σ x)
 | .call ⟨.value f,ags,_⟩=>mkF cf cx σ f||ags.toList.any fun x=>zeK (xW cx σ x)
 |_=>false
def jA{α:Type}(xss:List (List α))(r:Nat):List α:=xss.getD r []
def N2{α:Type}(xss:List (List α))(ix:List Nat):List (List α):=ix.map (jA xss)
def BL(σ:Sg)(t:TypeId)(x i:Operand)(k:List (Nat×Dv)->Option R):Option R:=match ZV cf t,xW cx σ x with
 |some ⟨.l (.l e),.sl _,_⟩,some (.mw o)=>(match Qj cx σ o with
  |some (.mat s _ _ xss ix)=>OV cx σ i (xaG ix) fun j=>k [(0,.hp o j)]
  |_=>none)
 |some ⟨.l (.l e),.sl _,_⟩,some (.mv o lo n)=>(match Qj cx σ o with
  |some (.mat s _ _ xss ix)=>OV cx σ i n fun j=>k [(0,.hp o (lo+j))]
  |_=>none)
 |some ⟨.l e,.sl _,_⟩,some (.rw o r)=>(match Qj cx σ o with
  |some (.mat s _ _ xss ix)=>Ty.cast (.l (.l s)) (.l (.l e)) xss fun xss=>OV cx σ i (xaG (jA (α:=e.D) xss r)) fun j=>k [(0,.rp o e r j (Fl.self e))]
  |_=>none)
 |_,_=>none
def Hv(σ:Sg)(t:TypeId)(x:Operand)(k:List (Nat×Dv)->Option R):Option R:=match ZV cf t,xW cx σ x with
 |some ⟨.l e,.sl _,_⟩,some (.hp o j)=>(match Qj cx σ o with
  |some (.mat s _ _ xss ix)=>nm (xek ix j 0) fun r=>k [(0,.rw o r)]
  |_=>none)
 |some ti,some (.rp o e r j f)=>(match Qj cx σ o with
  |some (.mat s _ _ xss ix)=>Ty.cast (.l (.l s)) (.l (.l e)) xss fun xss=>nm (f.get (xek (jA (α:=e.D) xss r) j e.z)) fun y=>Ty.cast f.f ti.ty y fun y=>k [(0,.d ti.ty y)]
  |_=>none)
 |_,_=>none
def AO(σ:Sg)(t:TypeId)(x:Operand)(lo hi:Option Operand)(k:List (Nat×Dv)->Option R):Option R:=match ZV cf t,xW cx σ x with
 |some ⟨.l (.l e),.sl _,_⟩,some (.mw o)=>(match Qj cx σ o with
  |some (.mat s _ _ xss ix)=>Eu cx σ lo fun lo=>Eu cx σ hi fun hi=>zdb (xaG ix) lo hi fun l n=>k [(0,.mv o l n)]
  |_=>none)
 |_,_=>none
def zaJ(σ:Sg)(x:List Operand)(ts:List TypeId)(k:List (Nat×Dv)->Option R):Option R:=match x,ts with
 |[x],[t]=>(match ZV cf t,xW cx σ x with
  |some ⟨.l _,.sl _,_⟩,some (.mw o)=>(match Qj cx σ o with
   |some (.mat _ _ _ _ ix)=>k [(0,GX (xaG ix))]
   |_=>none)
  |some ⟨.l _,.sl _,_⟩,some (.mv o _ n)=>(match Qj cx σ o with
   |some (.mat _ _ _ _ _)=>k [(0,GX n)]
   |_=>none)
  |some ⟨.l _,.sl _,_⟩,some (.rw o r)=>(match Qj cx σ o with
   |some (.mat _ _ _ xss _)=>k [(0,GX (xaG (jA xss r)))]
   |_=>none)
  |_,_=>none)
 |_,_=>none
def XL(σ:Sg):(dom:List AM)->List Operand->List PD->(Kc dom->Option R)->Option R
 |[],[],[],k=>k ()
 | .q t::r,[],c::cs,k=>Ty.cast c.t t c.x fun y=>XL σ r [] cs fun z=>k (y,z)
 | .d t::r,x::xs,cs,k=>(match xW cx σ x with
  |some (.mv o lo n)=>(match Qj cx σ o with
   |some (.mat s _ _ xss ix)=>Ty.cast (.l (.l s)) t (xdr n (xdw lo (N2 xss ix))) fun y=>XL σ r xs cs fun z=>k (y,z)
   |_=>none)
  |v=>sr v t fun y=>XL σ r xs cs fun z=>k (y,z))
 | .fn dom cod::r,x::xs,cs,k=>asF cf σ (xW cx σ x) dom cod fun g=>XL σ r xs cs fun z=>k (g,z)
 |_,_,_,_=>none
def EY:List RM->Bool
 |[]=>true
 | .d .i::r=>EY r
 | .d .b::r=>EY r
 | .d .u::r=>EY r
 |_=>false
def Lf(σ:Sg)(fo:Operand)(ags:List Operand)(k:List (Nat×Dv)->Option R):Option R:=match xW cx σ fo with
 |some (.fn f cs)=>(match zad cf.cl f,cs with
  |some s,[]=>pF cx σ s.dom ags fun ys=>k [(0,.fn s.g (s.mc ys))]
  |_,cs=>(match Ab cf.cs f with
   |some s=>km (EY s.cod)<|XL cf cx σ s.dom ags cs fun y=>bd (s.M y) fun r=>k (zch s.cod r)
   |none=>none))
 |_=>none
def eCo(σ:Sg)(op:Op)(k:List (Nat×Dv)->Option R):Option R:=match op with
 | .load t x=>Hv cf cx σ t x k
 | .indexAddr t x i=>BL cf cx σ t x i k
 | .slice t x lo hi none=>AO cf cx σ t x lo hi k
 | .call ⟨.builtin .len,ags,ts⟩=>zaJ cf cx σ ags.toList ts.toList k
 | .call ⟨.value f,ags,_⟩=>Lf cf cx σ f ags.toList k
 |_=>none
def zep(σ:Sg)(op:Op)(k:List (Nat×Dv)->Option R):Option R:=match op with
 | .move x=>L9 cx σ x k
 | .assign x=>L9 cx σ x k
 | .extract x i=>zeF cx σ x i k
 | .pick c x y=>Pa cx σ c x y k
 | .unOp .not _ x=>zfe cx σ x k
 | .unOp .neg _ x=>zf5 cx σ x k
 | .binOp bo t x y _=>zec (isB cf t) bo (pd cx σ x) (pd cx σ y) fun v=>k [(0,v)]
 | .convert s t x=>zfd cf cx σ s t x k
 | .load t x=>R2 cf cx σ t x k
 | .indexAddr t x i=>Hn cf cx σ t x i k
 | .fieldAddr t x i=>Hs cf cx σ t x i k
 | .field t x i=>Dr cf cx σ t x i k
 | .slice t x lo hi none=>H5 cf cx σ t x lo hi k
 | .index t x i=>zf7 cf cx σ t x i k
 | .box E x=>zfy cf cx σ E x k
 | .build t ps=>HL cf cx σ t ps.toList k
 | .buildSlice t n ps=>zfk cf cx σ t n ps.toList k
 | .makeFunc f first cs=>zfY cx σ f first.toList cs.toList k
 | .call ⟨.builtin .len,ags,ts⟩=>zeG cf cx σ ags.toList ts.toList k
 | .call ⟨.builtin .max,ags,_⟩=>eMM cx true σ ags.toList k
 | .call ⟨.builtin .min,ags,_⟩=>eMM cx false σ ags.toList k
 | .call ⟨.value f,ags,_⟩=>RQ cf cx σ f ags.toList k
 |_=>none
def eOp(σ:Sg)(op:Op)(k:List (Nat×Dv)->Option R):Option R:=HV (zhU cf cx σ op) (eCo cf cx σ op k) (zep cf cx σ op k)
def wa:Dv->Option Nat
 | .ow o=>some o
 | .vs o _=>some o
 | .ep o _ _ _=>some o
 | .sv o _ _ _=>some o
 | .vp o _ _=>some o
 | .mw o=>some o
 | .mv o _ _=>some o
 | .hp o _=>some o
 | .rw o _=>some o
 | .rp o _ _ _ _=>some o
 | .yd o=>some o
 |_=>none
def okL(n:Nat)(l:List (Nat×Dv)):Bool:=l.all fun e=>match wa e.2 with
 |some o=>xdl o n
 |none=>true
def og(o:Nat)(x:Od)(v:Dv):Dv:=match v,x with
 | .ow o',.own s _ xs=>bif xan o' o then .d (.l s) xs else v
 | .vs o' _,.var s _ z=>bif xan o' o then .q s z else v
 | .mw o',.mat s _ _ xss ix=>bif xan o' o then .d (.l (.l s)) (N2 xss ix)else v
 |_,_=>v
def CT(o:Nat)(x:Od):List (Nat×Nat×Dv)->List (Nat×Nat×Dv)
 |[]=>[]
 |(t,i,v)::r=>(t,i,og o x v)::CT o x r
def Gq(σ:Sg)(o:Nat):Sg:=match xH σ.ob o with
 |some x=>⟨σ.nx,CT o x σ.rg,yC σ.ob o⟩
 |none=>σ
def frz(σ:Sg)(x:Operand):Sg:=match xW cx σ x with
 |some (.ow o)=>Gq σ o
 |some (.vs o _)=>Gq σ o
 |some (.mw o)=>Gq σ o
 |_=>σ
def zbF(σ:Sg):List Operand->Sg
 |[]=>σ
 |x::r=>zbF (frz cx σ x) r
def PR(σ:Sg):List AM->List Operand->Bool
 |[],_=>true
 | .own _ _::r,x::xs=>(match xW cx σ x with
  |some (.ow o)=>σ.ob.any fun e=>xan e.1 o
  |_=>false) && PR σ r xs
 | .d _::r,x::xs=> !zeK (xW cx σ x) && PR σ r xs
 |_::r,_::xs=>PR σ r xs
 |_::r,[]=>PR σ r []
def Ih(σ:Sg)(f:FuncId)(ags:List Operand):List Vb->Option Vb
 |[]=>none
 |s::r=>match xan s.f f && PR cx σ s.dom ags with
  |true=>some s
  |false=>Ih σ f ags r
def zhK(d:Option Tmp):Bool:=match d with
 |some t=>aN cf.an.vw t
 |none=>false
def H9(d:Option Tmp):Bool:=match d with
 |some t=>aN cf.an.mt t
 |none=>false
def ziI:Option Dv->Bool
 |some (.hp _ _)=>true
 |some (.mw _)=>true
 |_=>false
def RR:Option Dv->Bool
 |some (.mw _)=>true
 |_=>false
def zfb(σ:Sg)(d:Option Tmp):Op->List Operand
 | .build _ ps=>ps.toList.map (·.2)
 | .buildSlice _ _ ps=>(match H9 cf d with
  |true=>[]
  |false=>ps.toList.map (·.2))
 | .store _ a v=>(match ziI (xW cx σ a),xW cx σ v with
  |false,some (.ow _)=>[v]
  |_,_=>[])
 | .slice _ x none (some _) none=>(match RR (xW cx σ x),zhK cf d with
  |true,false=>[x]
  |_,_=>[])
 | .box _ v=>[v]
 | .convert _ _ v=>[v]
 | .makeFunc _ _ cs=>cs.toList
 | .slice _ x (some _) _ _=>(match zhK cf d with
  |true=>[]
  |false=>[x])
 | .call ⟨.builtin .append,ags,_⟩=>(match ags.toList.any fun x=>RR (xW cx σ x)with
  |true=>[]
  |false=>ags.toList.drop 1)
 | .call ⟨.builtin .copy,ags,_⟩=>ags.toList.drop 1
 | .call ⟨.value f,ags,_⟩=>(match xW cx σ f with
  |some (.fn f _)=>(match Ih cx σ f ags.toList cf.cs with
   |some s=>(s.dom.zip ags.toList).filterMap fun e=>match e.1 with
    | .d _=>(match zeK (xW cx σ e.2)with
     |true=>none
     |false=>some e.2)
    | .q _=>some e.2
    |_=>none
   |none=>[])
  |some (.fp _ _ _)=>ags.toList
  |_=>[])
 |_=>[]
def NJ(σ:Sg)(d:Option Tmp)(mk:Nat->Dv)(x:Od):Sg:=⟨σ.nx+1,va σ.rg d [(0,mk σ.nx)],(σ.nx,x)::σ.ob⟩
def ZP(σ:Sg):(dom:List AM)->List Operand->List PD->(Kc dom->List Nat->Option R)->Option R
 |[],[],[],k=>k () []
 | .q t::r,[],c::cs,k=>Ty.cast c.t t c.x fun y=>ZP σ r [] cs fun z os=>k (y,z) os
 | .d t::r,x::xs,cs,k=>sr (xW cx σ x) t fun y=>ZP σ r xs cs fun z os=>k (y,z) os
 | .q t::r,x::xs,cs,k=>(match xW cx σ x with
  |some (.q s y)=>Ty.cast s t y fun y=>ZP σ r xs cs fun z os=>k (y,z) os
  |_=>none)
 | .own t E::r,x::xs,cs,k=>(match xW cx σ x with
  |some (.ow o)=>(match xH σ.ob o with
   |some (.own s E' ys)=>km (xan E E')<|Ty.cast (.l s) (.l t) ys fun y=>ZP σ r xs cs fun z os=>km (!aN os o)<|k (y,z) (o::os)
   |_=>none)
  |_=>none)
 | .fn dom cod::r,x::xs,cs,k=>asF cf σ (xW cx σ x) dom cod fun g=>ZP σ r xs cs fun z os=>k (g,z) os
 |_,_,_,_=>none
def ZJ:(rs:List RM)->bj rs->Nat->Nat->List (Nat×Dv)×List (Nat×Od)
 |[],_,_,_=>([],[])
 |[.d t],x,i,o=>([(i,.d t x)],[])
 |[.own t E],x,i,o=>([(i,.ow o)],[(o,.own t E x)])
 | .d t::r::rs,x,i,o=>let y:=ZJ (r::rs) x.2 (i+1) o
  ((i,.d t x.1)::y.1,y.2)
 | .own t E::r::rs,x,i,o=>let y:=ZJ (r::rs) x.2 (i+1) (o+1)
  ((i,.ow o)::y.1,(o,.own t E x.1)::y.2)
def w6(ob:List (Nat×Od)):List Nat->List (Nat×Od)
 |[]=>ob
 |o::r=>yC (w6 ob r) o
def HY(σ:Sg)(s:Ty)(p v:Option Dv)(k:Sg->Option R):Option R:=match p with
 |some (.vs o _)=>(match xH σ.ob o with
  |some (.var s' E z)=>Ty.cast s' s z fun z=>sr v s fun y=>k ⟨σ.nx,σ.rg,kE σ.ob o (.var s E y)⟩
  |_=>none)
 |some (.vp o s1 f)=>(match xH σ.ob o,Ty.same f.f s with
  |some (.var s' E z),some _=>Ty.cast s' s1 z fun z=>sr v f.f fun y=>nm (f.set y z) fun z=>k ⟨σ.nx,σ.rg,kE σ.ob o (.var s1 E z)⟩
  |_,_=>none)
 |some (.ep o s1 j f)=>(match xH σ.ob o,Ty.same f.f s with
  |some (.own s' E xs),some _=>Ty.cast (.l s') (.l s1) xs fun xs=>sr v f.f fun y=>nm (xfR xs j (f.set y (xek xs j s1.z))) fun xs=>k ⟨σ.nx,σ.rg,kE σ.ob o (.own s1 E xs)⟩
  |_,_=>none)
 |_=>none
def HX(σ:Sg)(d:Option Tmp)(E:TypeId)(k:Sg->Option R):Option R:=match ZV cf E with
 |some ti=>k (NJ σ d (fun o=> .vs o ti.ty) (.var ti.ty E ti.ty.z))
 |none=>none
def ze0(σ:Sg)(d:Option Tmp)(E:TypeId)(x:Operand)(k:Sg->Option R):Option R:=match ZV cf E with
 |some ti=>sr (xW cx σ x) ti.ty fun y=>k (NJ σ d (fun o=> .vs o ti.ty) (.var ti.ty E y))
 |none=>none
def Rm(σ:Sg)(d:Option Tmp)(t:TypeId)(x y:Operand)(k:Sg->Option R):Option R:=match ZV cf t with
 |some ⟨.l s,.sl E,_⟩=>km (Nq x y) (match ZV cf E,pd cx σ x with
  |some ti,some ⟨.i,n⟩=>Ty.cast ti.ty s ti.ty.z fun z=>ki n fun n=>ck (ti.B*n<=281474976710656)<|nm (xaf n z) fun xs=>k (NJ σ d .ow (.own s E xs))
  |_,_=>none)
 |_=>none
def zed(σ:Sg)(d:Option Tmp)(t:TypeId)(n:Nat)(ps:List (Nat×Operand))(k:Sg->Option R):Option R:=match ZV cf t with
 |some ⟨.l s,.sl E,_⟩=>km (xfO (n*s.n) 16777216)<|xX cx σ (r7 n s) ps 0 fun ys=>k (NJ σ d .ow (.own s E (bN n s ys)))
 |_=>none
def Hi(σ:Sg)(d:Option Tmp)(t:TypeId)(o:Nat)(hi:Operand)(k:Sg->Option R):Option R:=match ZV cf t,xH σ.ob o with
 |some ⟨.l s1,.sl _,_⟩,some (.own s E xs)=>Ty.cast (.l s) (.l s1) xs fun xs=>Eu cx σ (some hi) fun h=>zfJ (α:=s1.D) xs none h fun ys=>k ⟨σ.nx+1,va σ.rg d [(0,.ow σ.nx)],(σ.nx,.own s1 E ys)::yC σ.ob o⟩
 |_,_=>none
def M5(σ:Sg)(d:Option Tmp)(t':TypeId)(same:Bool)(s:Ty)(E:TypeId)(B:Nat)(z:s.D)(y:Operand)(ob:List (Nat×Od))(xs:List s.D)(k:Sg->Option R):Option R:=match pd cx σ y with
 |some ⟨.i,n⟩=>(match ZV cf t' with
  |some ⟨_,.int _,_⟩=>ki n fun n=>zi8 xs n z B fun zs=>k ⟨σ.nx+1,va σ.rg d [(0,.ow σ.nx)],(σ.nx,.own s E zs)::ob⟩
  |_=>none)
 |_=>(match xW cx σ y with
  |some (.sv o2 t2 lo n)=>(match Qj cx ⟨σ.nx,σ.rg,ob⟩ o2 with
   |some (.own s2 _ zs)=>km same<|Ty.cast (.l s2) (.l t2) zs fun zs=>Ty.cast (.l t2) (.l s) (xdr n (xdw lo zs)) fun ys=>nm ys fun ys=>zhq (α:=s.D) xs ys B fun zs=>k ⟨σ.nx+1,va σ.rg d [(0,.ow σ.nx)],(σ.nx,.own s E zs)::ob⟩
   |_=>none)
  |_=>km same<|sr (xW cx σ y) (.l s) fun ys=>zhq (α:=s.D) xs ys B fun zs=>k ⟨σ.nx+1,va σ.rg d [(0,.ow σ.nx)],(σ.nx,.own s E zs)::ob⟩)
def zf6(σ:Sg)(d:Option Tmp)(ags:List Operand)(ts:List TypeId)(k:Sg->Option R):Option R:=match ags,ts with
 |[x,y],[t,t']=>(match ZV cf t with
  |some ⟨.l s,.sl E,_⟩=>(match ZV cf E with
   |some ti=>Ty.cast ti.ty s ti.ty.z fun z=>(match xW cx σ x with
    |some .nil=>M5 cf cx σ d t' (xan t t') s E ti.B z y σ.ob [] k
    |some (.ow o)=>(match xH σ.ob o with
     |some (.own s' E' xs)=>km (xan E' E)<|Ty.cast (.l s') (.l s) xs fun xs=>M5 cf cx σ d t' (xan t t') s E ti.B z y (yC σ.ob o) xs k
     |_=>none)
    |_=>none)
   |none=>none)
  |_=>none)
 |_,_=>none
def zav(σ:Sg)(d:Option Tmp)(ags:List Operand)(ts:List TypeId)(k:Sg->Option R):Option R:=match ags,ts with
 |[x,y],[t,_]=>(match ZV cf t,xW cx σ x with
  |some ⟨.l s,.sl _,_⟩,some (.ow o)=>(match xH σ.ob o with
   |some (.own s' E' xs)=>km (xan s.n 1)<|Ty.cast (.l s') (.l s) xs fun xs=>sr (xW cx σ y) (.l s) fun ys=>nm (RK (α:=s.D) xs ys) fun zs=>k ⟨σ.nx,va σ.rg d [],kE σ.ob o (.own s E' zs)⟩
   |_=>none)
  |some ⟨.l s,.sl _,_⟩,some (.sv o t2 lo n)=>(match xH σ.ob o,Ty.same t2 s with
   |some (.own s' E' xs),some _=>km (xan s.n 1)<|Ty.cast (.l s') (.l s) xs fun xs=>sr (xW cx σ y) (.l s) fun ys=>nm (U7 (α:=s.D) lo n xs ys) fun zs=>k ⟨σ.nx,va σ.rg d [],kE σ.ob o (.own s E' zs)⟩
   |_,_=>none)
  |_,_=>none)
 |_,_=>none
def ph:List Nat->List (Nat×Od)->List (Nat×Od)
 |o::os,e::r=>(o,e.2)::ph os r
 |_,_=>[]
def lS:Nat->List RM->Bool
 |0,[]=>true
 |0,.own _ _::r=>lS 0 r
 |n+1,.d _::r=>lS n r
 |_,_=>false
def ia(m:Nat):Nat:=bif xan m 1 then 0 else 1
def O6(σ:Sg)(d:Option Tmp)(s:Vb)(ags:List Operand)(cs:List PD)(k:Sg->Option R):Option R:=
 ZP cf cx σ s.dom ags cs fun y os=>bd (s.M y) fun r=>
  match s.bk with
  |0=>(let g:=ZJ s.cod r (bif QT s.cod then 0 else 1) σ.nx
   k ⟨σ.nx+g.2.length,va σ.rg d g.1,g.2++w6 σ.ob os⟩)
  |b+1=>(let m:=s.cod.length-(b+1)
   let g:=ZJ s.cod r (ia m) σ.nx
   km (lS m s.cod)<|k ⟨σ.nx+g.2.length,va σ.rg d (g.1.filter fun e=>xdl e.1 (ia m+m)),ph os g.2++w6 σ.ob os⟩)
def mE(σ:Sg)(d:Option Tmp)(op:Op)(k:Sg->Option R):Option R:=eOp cf cx σ op fun l=>km (okL σ.nx l)<|k (σ.put d l)
def zeA(d:Option Tmp):Bool:=match d with
 |some t=>aN cf.an.bx t
 |none=>false
def zbk(o n:Nat)(v:Dv):Dv:=match v with
 | .mw p=>bif xan p o then .mw n else v
 | .mv p l m=>bif xan p o then .mv n l m else v
 | .hp p j=>bif xan p o then .hp n j else v
 | .rw p r=>bif xan p o then .rw n r else v
 | .rp p t r j f=>bif xan p o then .rp n t r j f else v
 |v=>v
def zcm(o n:Nat):List (Nat×Nat×Dv)->List (Nat×Nat×Dv)
 |[]=>[]
 |(t,i,v)::r=>(t,i,zbk o n v)::zcm o n r
def FB(o n:Nat):List (Nat×Nat×Dv)->List (Nat×Nat×Dv)
 |[]=>[]
 |(t,i,.mw p)::r=>(t,i,bif xan p o then .mw n else .mw p)::FB o n r
 |(t,i,v)::r=>(t,i,v)::FB o n r
def DT(o n:Nat):List (Nat×Nat×Dv)->List (Nat×Nat×Dv)
 |[]=>[]
 |(t,i,.yd p)::r=>(t,i,bif xan p o then .yd n else .yd p)::DT o n r
 |(t,i,v)::r=>(t,i,v)::DT o n r
def zh8{α:Type}(a b:List α):List α:=a++b
def zhv{α:Type}(xss:List (List α))(r:Nat)(xs:List α):List (List α):=xfR xss r xs
def ZH(σ:Sg)(s:Ty)(p v:Option Dv)(k:Sg->Option R):Option R:=match p,v with
 |some (.rp o e r j f),v=>(match xH σ.ob o,Ty.same f.f s with
  |some (.mat s' E E1 xss ix),some _=>Ty.cast (.l (.l s')) (.l (.l e)) xss fun xss=>sr v f.f fun y=>nm (zhv (α:=e.D) xss r (xfR (jA (α:=e.D) xss r) j (f.set y (xek (jA (α:=e.D) xss r) j e.z)))) fun xss=>k ⟨σ.nx,σ.rg,kE σ.ob o (.mat e E E1 xss ix)⟩
  |_,_=>none)
 |some (.hp o j),some (.rw o' r)=>km (xan o' o)<|(match xH σ.ob o,s with
  |some (.mat s' E E1 xss ix),.l _=>nm (xfR ix j r) fun ix=>k ⟨σ.nx,σ.rg,kE σ.ob o (.mat s' E E1 xss ix)⟩
  |_,_=>none)
 |some (.hp o j),some (.ow o2)=>km (!xan o o2)<|(match xH σ.ob o,xH σ.ob o2,s with
  |some (.mat s' E E1 xss ix),some (.own s2 E2 ys),.l _=>km (xan E1 E2)<|Ty.cast (.l s2) (.l s') ys fun ys=>nm (zh8 (α:=List s'.D) xss [ys]) fun xs2=>nm (xfR ix j (xaG xss)) fun ix=>k ⟨σ.nx+1,zcm o σ.nx σ.rg,(σ.nx,.mat s' E E1 xs2 ix)::yC (yC σ.ob o) o2⟩
  |_,_,_=>none)
 |some (.mw o),some (.ow o2)=>km (!xan o o2)<|(match xH σ.ob o,xH σ.ob o2,s with
  |some (.ho E0),some (.own s2 E2 ys),.l _=>k ⟨σ.nx+1,FB o σ.nx σ.rg,(σ.nx,.bo s2 E2 E0 ys)::yC (yC σ.ob o) o2⟩
  |_,_,_=>none)
 |_,_=>none
def Lb(σ:Sg)(d:Option Tmp)(t:TypeId)(x y:Operand)(k:Sg->Option R):Option R:=match ZV cf t with
 |some ⟨.l (.l s),.sl E,_⟩=>km (Nq x y) (match ZV cf E,pd cx σ x with
  |some ⟨.l _,.sl E1,B⟩,some ⟨.i,n⟩=>ki n fun n=>ck (B*n<=281474976710656)<|nm (xaf n 0) fun ix=>k (NJ σ d .mw (.mat s E E1 [[]] ix))
  |_,_=>none)
 |_=>none
def Ri(σ:Sg)(d:Option Tmp)(t:TypeId)(n:Nat)(ps:List (Nat×Operand))(k:Sg->Option R):Option R:=match ZV cf t,ps with
 |some ⟨.l (.l s),.sl E,_⟩,[(0,x)]=>km (xan n 1) (match xW cx σ x with
  |some (.ow o2)=>(match xH σ.ob o2 with
   |some (.own s2 E1 ys)=>Ty.cast (.l s2) (.l s) ys fun ys=>k ⟨σ.nx+1,va σ.rg d [(0,.mw σ.nx)],(σ.nx,.mat s E E1 [ys] [0])::yC σ.ob o2⟩
   |_=>none)
  |_=>none)
 |_,_=>none
def Cz(σ:Sg)(d:Option Tmp)(E0:TypeId)(k:Sg->Option R):Option R:=match ZV cf E0 with
 |some ⟨.l s,.sl E,_⟩=>k (NJ σ d .mw (.bo s E E0 []))
 |_=>none
def Lq(σ:Sg)(d:Option Tmp)(t:TypeId)(o:Nat)(k:Sg->Option R):Option R:=match ZV cf t,xH σ.ob o with
 |some ⟨.l _,.sl _,_⟩,some (.bo s E E0 xs)=>k ⟨σ.nx+1,va σ.rg d [(0,.ow σ.nx)],(σ.nx,.own s E xs)::kE σ.ob o (.ho E0)⟩
 |_,_=>none
def Rn(σ:Sg)(d:Option Tmp)(ags:List Operand)(ts:List TypeId)(k:Sg->Option R):Option R:=match ags,ts with
 |[x,y],[t,t']=>(match ZV cf t,xW cx σ x,xW cx σ y with
  |some ⟨.l (.l s),.sl E,_⟩,some (.mw o),some (.mw p)=>km (xan t t' && !xan o p) (match ZV cf E,xH σ.ob o,xH σ.ob p with
   |some ⟨.l _,.sl _,B⟩,some (.mat s1 E1 F1 xss ix),some (.mat s2 E2 F2 yss iy)=>km (xan E1 E && (xan E2 E && xan F1 F2))<|Ty.cast (.l (.l s2)) (.l (.l s1)) yss fun yss=>
    ck ((xaG ix+xaG iy)*B<=140737488355328)<|nm (zh8 (α:=List s1.D) xss yss) fun zss=>nm (ix++iy.map (xaG xss+ ·)) fun iz=>k ⟨σ.nx+1,va σ.rg d [(0,.mw σ.nx)],(σ.nx,.mat s1 E1 F1 zss iz)::yC (yC σ.ob o) p⟩
   |_,_,_=>none)
  |_,_,_=>none)
 |_,_=>none
def oM(σ:Sg)(d:Option Tmp)(s:oO)(ags:List Operand)(k:Sg->Option R):Option R:=match ags with
 |[x,a,p,y]=>(match xW cx σ x,pd cx σ a,pd cx σ p,xW cx σ y with
  |some (.rw o r),some ⟨.i,a⟩,some ⟨.i,p⟩,some (.mv o' lo n)=>km (xan o o') (match xH σ.ob o with
   |some (.mat s1 E E1 xss ix)=>km (xan E s.E && xan E1 s.E1)<|Ty.cast (.l (.l s1)) (.l (.l s.t)) xss fun xss=>
    bd (s.M xss ix r a p lo n) fun xss=>k ⟨σ.nx+1,FB o σ.nx (va σ.rg d []),(σ.nx,.mat s.t E E1 xss ix)::yC σ.ob o⟩
   |_=>none)
  |_,_,_,_=>none)
 |_=>none
def Bp(σ:Sg)(d:Option Tmp)(o:Nat)(ags:List Operand)(k:Sg->Option R):Option R:=match ags with
 |[x]=>(match xW cx σ x with
  |some (.ow p)=>km (!xan o p) (match xH σ.ob o,xH σ.ob p with
   |some (.hid t E X Y mX mY g z),some (.own s E2 ys)=>km (xan E2 E)<|Ty.cast (.l s) (.l t) ys fun ys=>
    bd (g ys z) fun r=>xfp (fun x'=>k ⟨σ.nx+1,DT o σ.nx (va σ.rg d [(0,.kb true)]),(σ.nx,.hid t E X Y mX mY g x')::yC (kE σ.ob p (.own t E2 r.1)) o⟩)
     (fun y'=>k ⟨σ.nx+1,DT o σ.nx (va σ.rg d [(0,.kb false)]),(σ.nx,.hiy Y mY y')::yC (kE σ.ob p (.own t E2 r.1)) o⟩) r.2
   |_,_=>none)
  |_=>none)
 |_=>none
inductive CoM
 |no
 |st (t:TypeId) (x y:Operand)
 |ma (t:TypeId) (x y:Operand)
 |lit (t:TypeId) (n:Nat) (ps:Array (Nat×Operand))
 |al (E:TypeId)
 |tk (t:TypeId) (o:Nat)
 |ap (ags:Array Operand) (ts:Array TypeId)
 |sk (s:oO) (ags:Array Operand)
 |yl (o:Nat) (ags:Array Operand)
def coM(σ:Sg)(d:Option Tmp):Op->CoM
 | .store t x y=>bif OC (xW cx σ x)then .st t x y else .no
 | .makeSlice t x y=>bif H9 cf d then .ma t x y else .no
 | .buildSlice t n ps=>bif H9 cf d then .lit t n ps else .no
 | .alloc E=>bif H9 cf d then .al E else .no
 | .load t x=>(match xW cx σ x with
  |some (.mw o)=> .tk t o
  |_=> .no)
 | .call ⟨.builtin .append,ags,ts⟩=>bif ags.toList.any (fun x=>RR (xW cx σ x))then .ap ags ts else .no
 | .call ⟨.value f,ags,_⟩=>(match xW cx σ f with
  |some (.yd o)=> .yl o ags
  |some (.fn f [])=>(match O1 cf.ms f with
   |some s=> .sk s ags
   |none=> .no)
  |_=> .no)
 |_=> .no
def mCo(σ:Sg)(d:Option Tmp)(c:CoM)(k:Sg->Option R)(k0:Option R):Option R:=match c with
 | .no=>k0
 | .st t x y=>km d.isNone (match ZV cf t with
  |some ti=>ZH σ ti.ty (xW cx σ x) (xW cx σ y) k
  |none=>none)
 | .ma t x y=>Lb cf cx σ d t x y k
 | .lit t n ps=>Ri cf cx σ d t n ps.toList k
 | .al E=>Cz cf σ d E k
 | .tk t o=>Lq cf σ d t o k
 | .ap ags ts=>Rn cf cx σ d ags.toList ts.toList k
 | .sk s ags=>oM cx σ d s ags.toList k
 | .yl o ags=>Bp cx σ d o ags.toList k
def zfI(σ:Sg)(d:Option Tmp)(op:Op)(k:Sg->Option R):Option R:=
 match op with
 | .alloc E=>HX cf σ d E k
 | .box E x=>HV (zeA cf d) (ze0 cf cx σ d E x k) (mE cf cx σ d (.box E x) k)
 | .store t x y=>km d.isNone (match ZV cf t with
  |some ti=>HY σ ti.ty (xW cx σ x) (xW cx σ y) k
  |none=>none)
 | .makeSlice t x y=>Rm cf cx σ d t x y k
 | .buildSlice t n ps=>zed cf cx σ d t n ps.toList k
 | .slice t x none (some hi) none=>(match xW cx σ x with
  |some (.ow o)=>Hi cf cx σ d t o hi k
  |_=>mE cf cx σ d (.slice t x none (some hi) none) k)
 | .call ⟨.builtin .append,ags,ts⟩=>zf6 cf cx σ d ags.toList ts.toList k
 | .call ⟨.builtin .copy,ags,ts⟩=>zav cf cx σ d ags.toList ts.toList k
 | .call ⟨.value f,ags,ts⟩=>(match xW cx σ f with
  |some (.fn f' cs)=>(match Ih cx σ f' ags.toList cf.cs with
   |some s=>O6 cf cx σ d s ags.toList cs k
   |none=>mE cf cx σ d (.call ⟨.value f,ags,ts⟩) k)
  |_=>mE cf cx σ d (.call ⟨.value f,ags,ts⟩) k)
 |op=>mE cf cx σ d op k
def mOp(σ:Sg)(d:Option Tmp)(op:Op)(k:Sg->Option R):Option R:=mCo cf cx σ d (coM cf cx σ d op) k (zfI cf cx σ d op k)
def CZ(σ:Sg)(t:Tmp)(b:Bool):Sg:=⟨σ.nx,va σ.rg (some t) [(0,.kb b)],σ.ob⟩
def aR(all:List Oper)(o:Oper)(σ:Sg)(k:Sg->Bool->Option R):Option R:=match o.guard with
 |none=>k σ true
 |some (j,want)=>match all[j]? with
  |some o'=>(match o'.dst with
   |some t=>(match get cx σ t 0 with
    |some (.kb b)=>k σ (b==want)
    |some .un=>k σ false
    |some (.d .b x)=>km (ZU cx.rg t)<|ifB x (k (CZ σ t true) (true==want)) (k (CZ σ t false) (false==want))
    |_=>none)
   |none=>none)
  |none=>none
def nG(o:Oper)(σ:Sg)(k:Sg->Option R):Option R:=match o.op with
 | .pick (.tmp t) _ _=>(match get cx σ t 0 with
  |some (.d .b x)=>km (ZU cx.rg t)<|ifB x (k (CZ σ t true)) (k (CZ σ t false))
  |_=>k σ)
 |_=>k σ
def HK(all:List Oper):List Oper->Sg->(Sg->Option R)->Option R
 |[],σ,k=>k σ
 |o::r,σ,k=>km (wo cx o.dst)<|aR cx all o σ fun σ w=>HV w
  (nG cx o σ fun σ=>(let σ:=zbF cx σ (zfb cf cx σ o.dst o.op);mOp cf cx σ o.dst o.op fun σ=>HK all r σ k))
  (HK all r (σ.put o.dst [(0,.un)]) k)
def Pc(all:List Oper):List Oper->Sg->(Sg->Option R)->Option R
 |[],σ,k=>k σ
 |o::r,σ,k=>km (wo cx o.dst)<|aR cx all o σ fun σ w=>HV w
  (nG cx o σ fun σ=>eOp cf cx σ o.op fun l=>km (okL σ.nx l)<|Pc all r (σ.put o.dst l) k)
  (Pc all r (σ.put o.dst [(0,.un)]) k)
def dd:List (Nat×Nat×Dv)->List (Nat×Nat×Dv)
 |[]=>[]
 |e::r=>e::(dd r).filter fun f=> !(xan e.1 f.1 && xan e.2.1 f.2.1)
structure Rb where
 a:Option Nat
 c:Option Nat
 rd:List Nat
 o:Nat
 x:Od
structure Oi where
 lo:Nat
 hi:Nat
 refs:List Nat
def Kx(ts:List Tmp):List (Nat×Nat×Dv)->List Nat
 |[]=>[]
 |(t,_,v)::r=>(match aN ts t,wa v with
  |true,some o=>o::Kx ts r
  |_,_=>Kx ts r)
def de:List (Nat×Dv)->List Nat
 |[]=>[]
 |(_,v)::r=>(match wa v with
  |some o=>o::de r
  |none=>de r)
def Jb(ts:List Tmp):List (Nat×Nat×Dv)->List (Nat×Nat×Dv)
 |[]=>[]
 |(t,i,v)::r=>(match aN ts t with
  |true=>(t,i,v)::Jb ts r
  |false=>Jb ts r)
def iw(d:Option Tmp)(rg:List (Nat×Nat×Dv)):List (Nat×Dv):=match d with
 |some t=>rg.filterMap fun e=>match xan e.1 t with
  |true=>some (e.2.1,e.2.2)
  |false=>none
 |none=>[]
def Uy(os:List Nat):List Rb->List (Nat×Od)
 |[]=>[]
 |r::rs=>match r.c,aN os r.o with
  |none,true=>(r.o,r.x)::Uy os rs
  |_,_=>Uy os rs
def IA(i:Nat)(os:List Nat):List Rb->List Rb
 |[]=>[]
 |r::rs=>(match r.c,aN os r.o with
  |none,true=>⟨r.a,some i,r.rd,r.o,r.x⟩
  |_,_=>r)::IA i os rs
def Ly(i:Nat)(os:List Nat):List Rb->List Rb
 |[]=>[]
 |r::rs=>(match r.c,aN os r.o with
  |none,true=>⟨r.a,none,i::r.rd,r.o,r.x⟩
  |_,_=>r)::Ly i os rs
def zcS(i:Nat)(ob:List (Nat×Od)):List Rb:=ob.map fun e=>⟨some i,none,[],e.1,e.2⟩
def zhl(ob:List (Nat×Od)):List Rb:=ob.map fun e=>⟨none,none,[],e.1,e.2⟩
def EA:List Rb->List (Nat×Od)
 |[]=>[]
 |r::rs=>match r.c with
  |none=>(r.o,r.x)::EA rs
  |some _=>EA rs
def okO(n:Nat)(ob:List (Nat×Od)):Bool:=ob.all fun e=>xdl e.1 n
def pV(σ:Sg):List Nat->Sg
 |[]=>σ
 |o::r=>pV (Gq σ o) r
def Rs:List RM->Bool
 |[]=>true
 | .own _ _::_=>false
 |_::r=>Rs r
def zeb(σ:Sg)(b:Bool)(d:Option Tmp):Op->Bool
 | .alloc _=>true
 | .store _ _ _=>true
 | .makeSlice _ _ _=>true
 | .buildSlice _ _ _=> !b
 | .box _ _=>zeA cf d
 | .load _ x=>RR (xW cx σ x)
 | .slice _ x none (some _) none=>(match xW cx σ x with
  |some (.ow _)=>true
  |_=>false)
 | .call ⟨.builtin .append,_,_⟩=>true
 | .call ⟨.builtin .copy,_,_⟩=>true
 | .call ⟨.value f,ags,_⟩=>(match xW cx σ f with
  |some (.fn f' _)=>(match Ih cx σ f' ags.toList cf.cs with
   |some s=> !(oQ s.dom)||(!b && !(Rs s.cod))
   |none=>(O1 cf.ms f').isSome)
  |some (.yd _)=>true
  |_=>false)
 |_=>false
def fzB(fz:List Nat):Option Tmp->Bool
 |some t=>aN fz t
 |none=>false
def zht(b:Bool)(d:Option Tmp)(τ:Sg):Sg:=match b with
 |true=>pV τ (de (iw d τ.rg))
 |false=>τ
def zdL(τ:Sg)(d:Option Tmp)(k:List (Nat×Dv)->Nat->List (Nat×Od)->Option R):Option R:=km (okL τ.nx (iw d τ.rg) && okO τ.nx τ.ob)<|k (iw d τ.rg) τ.nx τ.ob
def zea(os:List Nat):Op->List Nat
 | .move _=>[]
 | .assign _=>[]
 |_=>os
def NI(all:List Oper)(fz:List Nat):List Oper->Nat->Sg->List Rb->List Oi->(Sg->List Rb->List Oi->Option R)->Option R
 |[],_,σ,rs,is,k=>k σ rs is
 |o::r,i,σ,rs,is,k=>km (wo cx o.dst)<|aR cx all o σ fun σ w=>HV w
  (nG cx o σ fun σ=>HV (zeb cf cx ⟨σ.nx,σ.rg,Uy (Kx (xbz all.toArray o) σ.rg) rs⟩ (fzB fz o.dst) o.dst o.op)
   (mOp cf ⟨0,[],cx.ob⟩ ⟨σ.nx,dd (Jb (xbz all.toArray o) (σ.rg++cx.rg)),Uy (Kx (xbz all.toArray o) σ.rg) rs⟩ o.dst o.op fun τ=>
    zdL (zht (fzB fz o.dst) o.dst τ) o.dst fun l n ob=>NI all fz r (i+1) ⟨n,va σ.rg o.dst l,[]⟩ (IA i (Kx (xbz all.toArray o) σ.rg) rs++zcS i ob) (is++[⟨σ.nx,n,de l⟩]) k)
   (eOp cf cx ⟨σ.nx,σ.rg,Uy (zea (Kx (xbz all.toArray o) σ.rg) o.op) rs⟩ o.op fun l=>km (okL σ.nx l)<|NI all fz r (i+1) (σ.put o.dst l) (Ly i (zea (Kx (xbz all.toArray o) σ.rg) o.op) rs) (is++[⟨σ.nx,σ.nx,de l⟩]) k))
  (NI all fz r (i+1) (σ.put o.dst [(0,.un)]) rs (is++[⟨σ.nx,σ.nx,[]⟩]) k)
def inB(I:Oi)(o:Nat):Bool:=xfO I.lo o && xdl o I.hi
def zb9(l:List Oper)(i:Nat)(I:Oi)(rs:List Rb)(js:List (Oi×Nat)):Bool:=
 (rs.all fun r=> !inB I r.o||(match r.a with
  |some j=>xan j i||vv l 16 j i
  |none=>false)) && js.all fun J=>J.1.refs.all fun p=> !inB I p||xan J.2 i||vv l 16 J.2 i
def zbU(l:List Oper)(m:Nat)(rs:List Rb)(is:List Oi):Bool:=
 (rs.all fun r=>(match r.a with
  |some j=>xdl j m && r.rd.all fun i=>vv l 16 i j
  |none=>true) && (match r.c with
  |some k=>xdl k m && (match r.a with
   |some j=>vv l 16 k j
   |none=>true) && r.rd.all fun i=>vv l 16 k i
  |none=>true)) &&
 (is.zipIdx.all fun J=>zb9 l J.2 J.1 rs is.zipIdx) &&
 (xbc m).all fun i=>(xbc m).all fun j=>xan i j||(match(zP l i).dst with
  |some t=> !((zP l j).dst==some t)
  |none=>true)
def H7(l:List Oper):Nat->Nat->Nat
 |0,m=>m
 |f+1,m=>bif xdl 1 m && Ys l (m-1)then H7 l f (m-1)else m
def ze3(al:List (Nat×Operand)):Operand->Operand
 | .tmp t=>(match QJ al t with
  |some x=>x
  |none=> .tmp t)
 |x=>x
def zid(al:List (Nat×Operand))(o:Oper):List (Nat×Operand):=match o.op,o.dst with
 | .move x,some d=>(d,ze3 al x)::al
 | .assign x,some d=>(d,ze3 al x)::al
 |_,_=>al
def zbf:List Oper->List (Nat×Operand)->Sg->Sg
 |[],_,σ=>σ
 |o::r,al,σ=>zbf r (zid al o) (zbF cx σ ((zfb cf cx σ o.dst o.op).map (ze3 al)))
def zeS(id:Nat):List Nat:=match QJ cf.an.dz id with
 |some l=>l
 |none=>[]
def zfH(id:Nat)(l:List Oper)(m:Nat)(σ:Sg)(k:Sg->Option R):Option R:=
 let fz:=zeS cf id
 let σ:=pV σ (Kx fz σ.rg)
 NI cf cx l fz (l.take m) 0 ⟨σ.nx,σ.rg,[]⟩ (zhl σ.ob) [] fun σ rs is=>km (zbU l m rs is)<|HK cf cx l (l.drop m) ⟨σ.nx,dd σ.rg,EA rs⟩ k
def zil(id:Nat):Bool:=match QJ cf.an.dz id with
 |some _=>true
 |none=>false
def zeW(id:Nat)(l:List Oper)(draw:Bool)(σ:Sg)(k:Sg->Option R):Option R:=
 HV draw
  (let m:=H7 l l.length l.length
  km (Ys l m)<|HV (zil cf id) (zfH cf cx id l m σ k) (Pc cf cx l (l.take m) (zbf cf cx (l.take m) [] σ) fun σ=>HK cf cx l (l.drop m) ⟨σ.nx,dd σ.rg,σ.ob⟩ k))
  (HK cf cx l l σ k)
def Wg:List (Nat×TF)->Type
 |[]=>Unit
 |[a]=>a.2.D
 |a::b::r=>a.2.D×Wg (b::r)
def aA(σ:Sg)(ds:List (Nat×TF))(t:Nat)(f:TF)(k:f.D->List Nat->Option R):Option R:=match f,k with
 | .d s,k=>sr (get cx σ t 0) s fun y=>k y []
 | .q s,k=>(match get cx σ t 0 with
  |some (.q s' x)=>Ty.cast s' s x fun y=>k y []
  |_=>none)
 | .own s E,k=>(match get cx σ t 0 with
  |some (.ow o)=>(match xH σ.ob o with
   |some (.own s' E' xs)=>km (xan E E')<|Ty.cast (.l s') (.l s) xs fun y=>k y [o]
   |_=>none)
  |some .nil=>k ([]:List s.D) []
  |_=>none)
 | .var s E,k=>(match get cx σ t 0 with
  |some (.vs o _)=>(match xH σ.ob o with
   |some (.var s' E' z)=>km (xan E E')<|Ty.cast s' s z fun y=>k y [o]
   |_=>none)
  |_=>none)
 | .mat s E E1,k=>(match get cx σ t 0 with
  |some (.mw o)=>(match xH σ.ob o with
   |some (.mat s' E' F' xss ix)=>km (xan E E' && xan E1 F')<|Ty.cast (.l (.l s')) (.l (.l s)) xss fun y=>k (y,ix) [o]
   |_=>none)
  |some .nil=>k (([],[]):List (List s.D)×List Nat) []
  |_=>none)
 | .matv s E E1,k=>(match get cx σ t 0 with
  |some (.mv o lo n)=>(match xH σ.ob o with
   |some (.mat s' E' F' xss ix)=>km (xan E E' && xan E1 F')<|Ty.cast (.l (.l s')) (.l (.l s)) xss fun y=>k ((y,ix),(lo,n)) [o]
   |_=>none)
  |_=>none)
 | .row j,k=>(match get cx σ t 0,ds[j]? with
  |some (.rw o r),some (s,.mat _ _ _)=>(match get cx σ s 0 with
   |some (.mw o')=>km (xan o o')<|k r []
   |_=>none)
  |some (.rw o r),some (s,.matv _ _ _)=>(match get cx σ s 0 with
   |some (.mv o' _ _)=>km (xan o o')<|k r []
   |_=>none)
  |_,_=>none)
 | .view j,k=>(match get cx σ t 0,ds[j]? with
  |some (.mv o lo n),some (s,.mat _ _ _)=>(match get cx σ s 0 with
   |some (.mw o')=>km (xan o o')<|k (lo,n) []
   |_=>none)
  |some (.mv o lo n),some (s,.matv _ _ _)=>(match get cx σ s 0 with
   |some (.mv o' _ _)=>km (xan o o')<|k (lo,n) []
   |_=>none)
  |_,_=>none)
 | .bo s E E0,k=>(match get cx σ t 0 with
  |some (.mw o)=>(match xH σ.ob o with
   |some (.bo s' E' F' xs)=>km (xan E E' && xan E0 F')<|Ty.cast (.l s') (.l s) xs fun y=>k y [o]
   |_=>none)
  |_=>none)
def pX(os:List Nat):List Nat->Bool
 |[]=>true
 |o::r=> !aN os o && pX os r
def gat(σ:Sg)(ds:List (Nat×TF)):(l:List (Nat×TF))->(Wg l->List Nat->Option R)->Option R
 |[],k=>k () []
 |[a],k=>aA cx σ ds a.1 a.2 k
 |a::b::r,k=>aA cx σ ds a.1 a.2 fun x o=>gat σ ds (b::r) fun y os=>km (pX os o)<|k (x,y) (o++os)
def zb0(σ:Sg):List (Nat×NF)->Bool
 |[]=>true
 |(t,f)::r=>(match f,get cx σ t 0 with
  | .kb b,some (.kb c)=>b==c
  | .nil,some .nil=>true
  | .ci x,some (.d .i y)=>eqI x y
  | .cu x,some (.d .u y)=>eqU x y
  | .al s,some (.ow o)=>(match get cx σ s 0 with
   |some (.ow o')=>xan o o'
   |_=>false)
  | .al s,some (.vs o _)=>(match get cx σ s 0 with
   |some (.vs o' _)=>xan o o'
   |_=>false)
  | .al s,some (.mw o)=>(match get cx σ s 0 with
   |some (.mw o')=>xan o o'
   |_=>false)
  |_,_=>false) && zb0 σ r
def iG(n0 o:Nat)(f:TF)(x:f.D):Dv×Option Od:=match f,x with
 | .d t,x=>(.d t x,none)
 | .q t,x=>(.q t x,none)
 | .own t E,x=>(.ow o,some (.own t E x))
 | .var t E,x=>(.vs o t,some (.var t E x))
 | .mat t E E1,x=>(.mw o,some (.mat t E E1 x.1 x.2))
 | .matv t E E1,x=>(.mv o x.2.1 x.2.2,some (.mat t E E1 x.1.1 x.1.2))
 | .row j,r=>(.rw (n0+j) r,none)
 | .view j,r=>(.mv (n0+j) r.1 r.2,none)
 | .bo t E E0,x=>(.mw o,some (.bo t E E0 x))
def U5(n0:Nat):(l:List (Nat×TF))->Wg l->Nat->List (Nat×Nat×Dv)×List (Nat×Od)
 |[],_,_=>([],[])
 |[a],x,o=>let v:=iG n0 o a.2 x
  ([(a.1,0,v.1)],match v.2 with
   |some y=>[(o,y)]
   |none=>[])
 |a::b::r,x,o=>let v:=iG n0 o a.2 x.1
  let y:=U5 n0 (b::r) x.2 (o+1)
  ((a.1,0,v.1)::y.1,match v.2 with
   |some q=>(o,q)::y.2
   |none=>y.2)
def CJ(rg:List (Nat×Nat×Dv)):List (Nat×NF)->List (Nat×Nat×Dv)
 |[]=>rg
 |(t,f)::r=>(match f with
  | .kb b=>[(t,0,.kb b)]
  | .nil=>[(t,0,.nil)]
  | .ci x=>[(t,0,.d .i x)]
  | .cu x=>[(t,0,.d .u x)]
  | .al s=>(match ay rg s 0 with
   |some v=>[(t,0,v)]
   |none=>[]))++CJ rg r
def VR(sh:Sh)(x:Wg sh.ds)(kp:Sg):Sg:=
 let y:=U5 kp.nx sh.ds x kp.nx
 ⟨kp.nx+sh.ds.length,CJ y.1 sh.ns++y.1++kp.rg,y.2++kp.ob⟩
def R7(σ:Sg):List (Nat×TF)->Sg
 |[]=>σ
 |(t,.d _)::r=>R7 (frz cx σ (.tmp t)) r
 |_::r=>R7 σ r
def fH(sh:Sh)(σ:Sg)(k:Wg sh.ds->Option R):Option R:=let σ:=R7 cx σ sh.ds
 km (zb0 cx σ sh.ns)<|gat cx σ sh.ds sh.ds fun x _=>k x
def SmD:List (Tg×Sh)->Type
 |[]=>Empty
 |[a]=>Wg a.2.ds
 |a::b::r=>Wg a.2.ds⊕SmD (b::r)
def N0:Tg->Tg->Bool
 | .n,.n=>true
 | .x i,.x j=>xan i j
 | .r,.r=>true
 |_,_=>false
def zas(σ:Sg)(t:Tg):(l:List (Tg×Sh))->(SmD l->Option R)->Option R
 |[],_=>none
 |[a],k=>km (N0 a.1 t)<|fH cx a.2 σ k
 |a::b::r,k=>HV (N0 a.1 t) (fH cx a.2 σ fun x=>k (.inl x)) (zas σ t (b::r) fun y=>k (.inr y))
def FK(kp:Sg)(K:Tg->Sg->Option R):(l:List (Tg×Sh))->SmD l->Option R
 |[]=>fun _=>none
 |[a]=>fun x=>K a.1 (VR a.2 x kp)
 |a::b::r=>fun x=>xfp (α:=Wg a.2.ds) (β:=SmD (b::r)) (fun x=>K a.1 (VR a.2 x kp)) (FK kp K (b::r)) x
def rk:Code->List Nat
 | .region _ ops _=>ops.toList.filterMap (·.dst)
 | .seq a b=>rk a++rk b
 | .cond _ a b=>rk a++rk b
 | .block _ c=>rk c
 | .loop c=>rk c
 | .scope c=>rk c
 | .rangeFunc _ ps a c=>ps.toList++(rk a++rk c)
 |_=>[]
def NC:Code->Option Nat
 | .region i _ _=>some i
 | .seq a b=>(match NC a with
  |some i=>some i
  |none=>NC b)
 | .cond _ a b=>(match NC a with
  |some i=>some i
  |none=>NC b)
 | .block _ c=>NC c
 | .loop c=>NC c
 | .scope c=>NC c
 | .rangeFunc _ _ a c=>(match NC a with
  |some i=>some i
  |none=>NC c)
 |_=>none
def zdJ:Option Nat->Nat
 |some i=>i+1
 |none=>0
def zji(a b:Code):Nat:=zdJ (NC a)*65536+zdJ (NC b)
def sZ(σ:Sg):List Nat->List Nat
 |[]=>[]
 |t::r=>match ay σ.rg t 0 with
  |some v=>(match wa v with
   |some o=>o::sZ σ r
   |none=>sZ σ r)
  |none=>sZ σ r
def O5(ags ko:List Nat)(e:Nat×Nat×Dv):Bool:= !aN ags e.1 && (match wa e.2.2 with
 |some o=>aN ko o
 |none=>true)
def keep(σ:Sg)(ags ro:List Nat):Sg:=let ko:=sZ σ ro
 ⟨σ.nx,σ.rg.filter (O5 ags ko),σ.ob.filter fun e=>aN ko e.1⟩
def rest(σ:Sg)(ags ro:List Nat):Sg:=let ko:=sZ σ ro
 ⟨σ.nx,σ.rg.filter (fun e=> !O5 ags ko e),σ.ob.filter fun e=> !aN ko e.1⟩
def jl(cx kp:Sg):Sg:=⟨kp.nx,kp.rg++cx.rg,kp.ob++cx.ob⟩
def JO:List (Nat×TF)->Bool
 |[]=>true
 |(_,.own _ _)::r=>JO r
 |(_,.var _ _)::r=>JO r
 |(_,.mat _ _ _)::r=>JO r
 |(_,.bo _ _ _)::r=>JO r
 |_=>false
def gZ:List (Nat×TF)->Nat->List (Nat×Nat×Dv)
 |[],_=>[]
 |(t,.mat _ _ _)::r,n=>(t,0,.mw n)::gZ r (n+1)
 |(t,.bo _ _ _)::r,n=>(t,0,.mw n)::gZ r (n+1)
 |(t,_)::r,n=>(t,0,.ow n)::gZ r (n+1)
def sO{a:Nat×TF}:{l:List (Nat×TF)}->a.2.D->Wg l->Wg (a::l)
 |[],y,_=>y
 |_::_,y,x=>(y,x)
def aa{a:Nat×TF}:{l:List (Nat×TF)}->Wg (a::l)->a.2.D×Wg l
 |[],z=>(z,())
 |_::_,z=>z
def jr(pt:Nat)(t:Ty)(E:TypeId)(ds:List (Nat×TF)):Sh:=⟨(pt,.own t E)::ds,[]⟩
def PX(ds:List (Nat×TF))(t:Nat):Bool:=ds.all fun e=> !xan e.1 t
def SB:List (Nat×TF)->Bool
 |[]=>true
 |e::r=>PX r e.1 && SB r
def cpR(cx':Sg)(n:Nat)(sh:Sh):Sg:=⟨n+sh.ds.length,gZ sh.ds n++cx'.rg,cx'.ob⟩
def ze5(cp:Sg)(ds:List (Nat×TF))(t:Ty)(E:TypeId)(pt:Nat)(τ:Tg)(q:Tg)(σ:Sg):Option (List t.D×(Wg ds⊕Wg ds)):=match q with
 | .n=>fH cp (jr pt t E ds) σ fun z=>some ((aa z).1,.inl (aa z).2)
 | .x i=>km (N0 τ (.x i))<|fH cp (jr pt t E ds) σ fun z=>some ((aa z).1,.inr (aa z).2)
 | .r=>km (N0 τ .r)<|fH cp (jr pt t E ds) σ fun z=>some ((aa z).1,.inr (aa z).2)
def zhF(cx':Sg)(n:Nat)(ds:List (Nat×TF))(t:Ty)(E:TypeId)(pt:Nat)(τ:Tg)
 (ea ec:Sg->Sg->(Tg->Sg->Option (List t.D×(Wg ds⊕Wg ds)))->Option (List t.D×(Wg ds⊕Wg ds))) (ys:List t.D) (x:Wg ds):Option (List t.D×(Wg ds⊕Wg ds)):=
 ea (cpR cx' n (jr pt t E ds)) (VR (jr pt t E ds) (sO (a:=(pt,.own t E)) ys x) ⟨n,[],[]⟩) fun q σ=>match q with
  | .n=>ec (cpR cx' n (jr pt t E ds)) σ (ze5 (cpR cx' n (jr pt t E ds)) ds t E pt τ)
  |_=>none
def HQ{R:Type}(cx σ:Sg)(K:Tg->Sg->Option R)(s:Lp)(it:sj)(y:Kc it.dom)(τ:Tg)(pt:Nat)(ags:List Nat)
 (ea ec:Sg->Sg->(Tg->Sg->Option (List it.t.D×(Wg s.hd.ds⊕Wg s.hd.ds)))->Option (List it.t.D×(Wg s.hd.ds⊕Wg s.hd.ds))):Option R:=
 let kp:=keep σ ags s.sg.ro
 let cx':=jl cx kp
 km (JO s.hd.ds && (SB (jr pt it.t it.E s.hd.ds).ds && ZU cx'.rg pt))<|fH cx' s.hd (rest σ ags s.sg.ro) fun x=>
  bd (it.M (X:=Wg s.hd.ds) (Y:=Wg s.hd.ds) y (zhF cx' kp.nx s.hd.ds it.t it.E pt τ ea ec) x) fun r=>xfp (fun x=>K .n (VR s.hd x kp)) (fun x=>K τ (VR s.hd x kp)) r
def Da:Code->Bool
 | .seq a b=>Da a && Da b
 | .cond _ a b=>Da a && Da b
 | .block _ c=>Da c
 | .loop c=>Da c
 | .scope c=>Da c
 | .rangeFunc _ _ _ _=>false
 |_=>true
end
def UG(cf:Cf):Code->{R:Type}->Sg->Sg->(Tg->Sg->Option R)->Option R
 | .skip,_,cx,σ,K=>K .n σ
 | .label _,_,cx,σ,K=>K .n σ
 | .exit id,_,cx,σ,K=>K (.x id) σ
 | .ret,_,cx,σ,K=>K .r σ
 | .scope c,_,cx,σ,K=>UG cf c cx σ K
 | .region i ops dr,_,cx,σ,K=>zeW cf cx i ops.toList dr σ fun σ=>K .n σ
 | .cond c a b,_,cx,σ,K=>(match xW cx σ c with
  |some (.kb true)=>UG cf a cx σ K
  |some (.kb false)=>UG cf b cx σ K
  |some (.d .b x)=>ifB x (UG cf a cx σ K) (UG cf b cx σ K)
  |_=>none)
 | .block id c,_,cx,σ,K=>UG cf c cx σ fun t σ=>match t with
  | .x j=>HV (xan j id) (K .n σ) (K (.x j) σ)
  |t=>K t σ
 | .seq a b,_,cx,σ,K=>
  (match QJ cf.an.jn (zji a b)with
  |none=>UG cf a cx σ fun t σ=>(match t with
   | .n=>UG cf b cx σ K
   |t=>K t σ)
  |some s=>
   let ags:=rk a
   let kp:=keep σ ags s.ro
   bd (UG cf a (jl cx kp) (rest σ ags s.ro) fun t σ=>zas (jl cx kp) σ t s.tg some) fun x=>
    FK kp (fun t σ=>match t with
     | .n=>UG cf b cx σ K
     |t=>K t σ) s.tg x)
 | .loop c,_,cx,σ,K=>
  (match(match NC c with
   |some i=>QJ cf.an.lp i
   |none=>none)with
  |none=>none
  |some s=>
   let ags:=rk c
   let kp:=keep σ ags s.sg.ro
   let cx':=jl cx kp
   fH cx' s.hd (rest σ ags s.sg.ro) fun x=>
    bd (zj (fun L x=>UG cf c cx' (VR s.hd x ⟨kp.nx,[],[]⟩) fun t σ=>match t with
     | .n=>fH cx' s.hd σ L
     |t=>zas cx' σ t s.sg.tg some) cf.fu x) fun x=>FK kp K s.sg.tg x)
 | .rangeFunc g ps a c,_,cx,σ,K=>
  (match xW cx σ g,(match NC c with
   |some i=>QJ cf.an.lp i
   |none=>none),ps.toList with
  |some (.fn f cs),some s,[pt]=>(match zc3 cf.is f,s.sg.tg,s.hd.ns with
   |some it,[(τ,_)],[]=>(match Ju it.dom cs with
    |some y=>km (Da a && Da c)<|HQ cx σ K s it y τ pt (pt::(rk a++rk c)) (fun cx σ K=>UG cf a cx σ K) (fun cx σ K=>UG cf c cx σ K)
    |none=>none)
   |_,_,_=>none)
  |_,_,_=>none)
 |_,_,_,_,_=>none
def Wi:(dom:List AM)->Kc dom->Nat->List (Nat×Nat×Dv)×List (Nat×Od)
 |[],_,_=>([],[])
 | .d t::r,x,i=>let y:=Wi r x.2 (i+1)
  ((i,0,.d t x.1)::y.1,y.2)
 | .q t::r,x,i=>let y:=Wi r x.2 (i+1)
  ((i,0,.q t x.1)::y.1,y.2)
 | .own t E::r,x,i=>let y:=Wi r x.2 (i+1)
  ((i,0,.ow i)::y.1,(i,.own t E x.1)::y.2)
 | .fn dom cod::r,x,i=>let y:=Wi r x.2 (i+1)
  ((i,0,.fp dom cod x.1)::y.1,y.2)
def B8{R:Type}(cf:Cf)(σ:Sg)(r:ResultVar)(m:RM)(k:m.D->List Nat->Option R):Option R:=match r,m,k with
 | .tmp t,.d s,k=>sr (get ⟨0,[],[]⟩ σ t 0) s fun y=>k y []
 | .tmp t,.own s E,k=>aA ⟨0,[],[]⟩ σ [] t (.own s E) k
 | .cell t E,.d s,k=>(match get ⟨0,[],[]⟩ σ t 0,ZV cf E with
  |some (.vs o _),some ti=>(match xH σ.ob o with
   |some (.var s' E' z)=>km (xan E E')<|Ty.cast s' ti.ty z fun z=>Ty.cast ti.ty s z fun y=>k y [o]
   |_=>none)
  |_,_=>none)
 |_,_,_=>none
def GP{R:Type}(cf:Cf)(σ:Sg):List ResultVar->(cod:List RM)->(bj cod->List Nat->Option R)->Option R
 |[],[],k=>k () []
 |[v],[m],k=>B8 cf σ v m k
 |v::v'::vs,m::m'::ms,k=>B8 cf σ v m fun x o=>GP cf σ (v'::vs) (m'::ms) fun y os=>km (pX os o)<|k (x,y) (o++os)
 |_,_,_=>none
def HG(N:Nat):Code->Bool
 | .region _ ops _=>ops.toList.all fun o=>qg N o.dst
 | .seq a b=>HG N a && HG N b
 | .cond _ a b=>HG N a && HG N b
 | .block _ c=>HG N c
 | .loop c=>HG N c
 | .scope c=>HG N c
 | .rangeFunc _ ps a c=>(ps.toList.all fun p=>xdl p N) && (HG N a && HG N c)
 |_=>true
def KA(σ:Sg):List ResultVar->List RM->Sg
 | .tmp t::vs,.d _::ms=>KA (frz ⟨0,[],[]⟩ σ (.tmp t)) vs ms
 |_::vs,_::ms=>KA σ vs ms
 |_,_=>σ
def Ik(cf:Cf)(fn:Func)(dom:List AM)(cod:List RM)(x:Kc dom):Option (bj cod):=match fn.body with
 |some c=>km (HG fn.ntmps c && xfO dom.length fn.ntmps)<|
  let y:=Wi dom x 0
  UG cf c ⟨0,[],[]⟩ ⟨dom.length,y.1,y.2⟩ fun t σ=>(match t with
   | .r=>GP cf (KA σ fn.results.toList cod) fn.results.toList cod fun y _=>some y
   | .n=>GP cf (KA σ fn.results.toList cod) fn.results.toList cod fun y _=>some y
   |_=>none)
 |none=>none
def BE:List AM->Nat->List ResultVar
 |[],_=>[]
 | .own _ _::r,i=> .tmp i::BE r (i+1)
 |_::r,i=>BE r (i+1)
def C6(pn:Nat->Value):List AM->Nat->List (Nat×Nat×Dv)
 |[],_=>[]
 | .own _ _::r,i=>(i,0,.pin (pn i))::C6 pn r (i+1)
 |_::r,i=>C6 pn r (i+1)
def zbo(cf:Cf)(fn:Func)(dom:List AM)(cod:List RM)(bk:Nat)(pn:Nat->Value)(x:Kc dom):Option (bj cod):=match fn.body with
 |some c=>km (HG fn.ntmps c && xfO dom.length fn.ntmps && xan (fn.results.toList.length+bk) cod.length && xan (BE dom 0).length bk && xdl 0 bk)<|
  let y:=Wi dom x 0
  let rv:=fn.results.toList++BE dom 0
  UG cf c ⟨0,C6 pn dom 0,[]⟩ ⟨dom.length,y.1,y.2⟩ fun t σ=>(match t with
   | .r=>GP cf (KA σ rv cod) rv cod fun y _=>some y
   | .n=>GP cf (KA σ rv cod) rv cod fun y _=>some y
   |_=>none)
 |none=>none
end
section
def nM(p:Prop):FF where
 p _ _:=p
 keep h _:=h
 sub h _:=h
def AW:List PD->List Value->List FF
 |c::cs,v::vs=>fP c.t.rep c.x v::AW cs vs
 |_,_=>[]
def tsF:(ts:List Ty)->bn ts->List Value->List FF
 |[],_,_=>[]
 |t::ts,x,vs=>fV t.rep x.1 (vs.headD undef)::tsF ts x.2 vs.tail
def csF:(ts:List Ty)->Ak ts->List Value->List FF
 |[],_,_=>[]
 |[t],x,vs=>[fV t.rep x (vs.headD undef)]
 |t::s::r,x,vs=>fV t.rep x.1 (vs.headD undef)::csF (s::r) x.2 vs.tail
def zfS(P:Program)(fid:FuncId)(Jg:List Value)(FG:List FF)(dom cod:List Ty)(g:bn dom->Option (Ak cod)):Prop:=
 rf P fid=true/\ ∀(x:bn dom) (r:Ak cod),g x=some r-> ∀vs:List Value,vs.length=dom.length->
  Fn P fid (vs++Jg).toArray (tsF dom x vs++FG) ZR (fun us=>csF cod r us) (fun us=>us.length=cod.length)
def fnF(P:Program)(dom cod:List Ty)(g:bn dom->Option (Ak cod))(v:Value):FF where
 p S w:= ∃fid Jg FG,v= .func (.func fid) #[] Jg.toArray/\zfS P fid Jg FG dom cod g/\zA S FG w
 keep:=by rintro S w w' ⟨fid,Jg,FG,h1,h2,h3⟩ k;exact⟨fid,Jg,FG,h1,h2,zA.keep k h3⟩
 sub:=by rintro S S' w ⟨fid,Jg,FG,h1,h2,h3⟩ k;exact⟨fid,Jg,FG,h1,h2,zA.sub k h3⟩
def amF(P:Program):(a:AM)->a.D->Value->FF
 | .d t,x,v=>fV t.rep x v
 | .q t,x,v=>fP t.rep x v
 | .own _ _,_,_=>nM True
 | .fn dom cod,g,v=>fnF P dom cod g v
def amM:(a:AM)->a.D->Value->List MF
 | .own t E,xs,v=>[mO t.rep E v xs]
 |_,_,_=>[]
def kL(P:Program):(dom:List AM)->Kc dom->List Value->List FF
 |[],_,_=>[]
 |a::r,x,vs=>amF P a x.1 (vs.headD undef)::kL P r x.2 vs.tail
def YX:(dom:List AM)->Kc dom->List Value->List MF
 |[],_,_=>[]
 |a::r,x,vs=>amM a x.1 (vs.headD undef)++YX r x.2 vs.tail
def rmF:(m:RM)->m.D->Value->List FF
 | .d t,x,v=>[fV t.rep x v]
 | .own _ _,_,_=>[]
def rmM:(m:RM)->m.D->Value->List MF
 | .own t E,xs,v=>[mO t.rep E v xs]
 | .d _,_,_=>[]
def uI:(rs:List RM)->bj rs->List Value->List FF
 |[],_,_=>[]
 |[m],x,vs=>rmF m x (vs.headD undef)
 |m::n::r,x,vs=>rmF m x.1 (vs.headD undef)++uI (n::r) x.2 vs.tail
def uY:(rs:List RM)->bj rs->List Value->List MF
 |[],_,_=>[]
 |[m],x,vs=>rmM m x (vs.headD undef)
 |m::n::r,x,vs=>rmM m x.1 (vs.headD undef)++uY (n::r) x.2 vs.tail
def Kb:List AM->List Value->List Value
 |[],_=>[]
 | .own _ _::r,vs=>vs.headD undef::Kb r vs.tail
 |_::r,vs=>Kb r vs.tail
def zgR(bk n:Nat)(us:List Value):Value:=match bk with
 |0=>ZR us
 |b+1=>ZR (us.take (n-(b+1)))
def zdN(dom:List AM)(vs:List Value)(bk n:Nat)(us:List Value):Prop:=match bk with
 |0=>us.length=n
 |b+1=>us.length=n/\us.drop (n-(b+1))=Kb dom vs
def y5(P:Program)(s:Vb):Prop:=
 rf P s.f=true/\ ∀(x:Kc s.dom) (r:bj s.cod),s.M x=some r-> ∀vs:List Value,vs.length=s.dom.length->
  MA P s.f vs.toArray (YX s.dom x vs) (kL P s.dom x vs) (zgR s.bk s.cod.length) (fun us=>uY s.cod r us) (fun us=>uI s.cod r us) (zdN s.dom vs s.bk s.cod.length)
theorem y5.plain{P:Program}{s:Vb}(h:y5 P s)(hb:s.bk=0){x:Kc s.dom}{r:bj s.cod}(hM:s.M x=some r){vs:List Value}(hl:vs.length=s.dom.length):
 MA P s.f vs.toArray (YX s.dom x vs) (kL P s.dom x vs) ZR (fun us=>uY s.cod r us) (fun us=>uI s.cod r us) (fun us=>us.length=s.cod.length):=by
 have h1:=h.2 x r hM vs hl;rw[hb]at h1;exact h1
def PB(P:Program)(t:TypeId)(i:Nat):Option (Nat×Bool×Nat):=match P.underlying t with
 |some (.struct fs)=>match fs[i]? with
  |some f=>match tyB P f.type with
   |some (agg,n,_,some _)=>some (f.offset,agg,n)
   |_=>none
  |none=>none
 |_=>none
def Rz(P:Program)(t:TypeId)(ti:TI):Prop:=match ti.k with
 | .int k=>P.underlying t=some (.int k)
 | .bool=>P.underlying t=some .bool
 | .str=>P.underlying t=some .string
 | .sl E=>P.underlying t=some (.slice E)/\ ∃e,ti.ty= .l e
 | .st n=>ti.ty.rep.agg=true/\(∀i f,Qw n ti.ty i=some f->Hy P t i=some f.off)/\
  (∃fs,P.underlying t=some (.struct fs)/\ ∃pl:Array (Nat×Nat),(∀w,(fs.mapM (fun f=>do pure (f.offset,<-sizeOf f.type)):Sem (Array (Nat×Nat))).run P w= .ok pl w)/\
   ∀i f,Qw n ti.ty i=some f->pl[i]? =some (f.off,f.f.n))/\
  ∀i f,Qw n ti.ty i=some f->PB P t i=some (f.off,f.f.rep.agg,f.f.n)
 | .ar k E=>ti.ty.rep.agg=true/\P.underlying t=some (.array k E)
def Rh(P:Program)(t:TypeId)(ti:TI):Prop:=
 (∃zero,XG P t ti.ty.rep.agg ti.ty.rep.n ti.B zero/\zero.cells.size=ti.ty.rep.n/\(∀S w,ti.ty.rep.p S ti.ty.z zero.cells.toList w)/\ ∀s,ti.ty= .l s->zero= .slice none 0 0)/\0<ti.B/\0<ti.ty.rep.n/\Rz P t ti
def zT(P:Program)(tt:List (Nat×TI)):Prop:= ∀t ti,QJ tt t=some ti->Rh P t ti
def jE(P:Program)(tt:List (Nat×TI)):Prop:= ∀t s E B,QJ tt t=some ⟨.l s,.sl E,B⟩-> ∃ti,QJ tt E=some ti/\ti.ty=s
def Fl.ok(t:Ty)(f:Fl t.D):Prop:= ∀z:t.D,Sub t.rep.c z f.off f.f.rep (f.get z) (fun y=>f.set y z)
def zen(f:FuncId)(c:List PD)(v:Value):FF where
 p S w:= ∃cs:List Value,v= .func (.func f) #[] cs.toArray/\cs.length=c.length/\zA S (AW c cs) w
 keep:=by rintro S w w' ⟨cs,h1,h2,h3⟩ k;exact⟨cs,h1,h2,zA.keep k h3⟩
 sub:=by rintro S S' w ⟨cs,h1,h2,h3⟩ k;exact⟨cs,h1,h2,zA.sub k h3⟩
def Dw(v0:Value)(lo n:Nat)(v:Value):Prop:=(∃b m cap,v0= .slice (some ⟨b,0,none⟩) m cap/\lo+n<=m/\m<=cap/\cap<=9223372036854775807/\v= .slice (if cap=lo then some ⟨b,0,none⟩else some ⟨b,0+lo*1,none⟩) n (cap-lo))\/(v0= .slice none 0 0/\lo=0/\n=0/\v= .slice none 0 0)
theorem Dw.old{v0 v:Value}{lo n:Nat}(h:Dw v0 lo n v):(∃b m cap c,v0= .slice (some ⟨b,0,none⟩) m cap/\lo+n<=m/\n<=c/\c<=9223372036854775807/\v= .slice (some ⟨b,0+lo*1,none⟩) n c)\/(n=0/\ ∃ao c,c<=9223372036854775807/\v= .slice ao 0 c):=by
 rcases h with⟨b,m,cap,h1,h2,h3,h4,h5⟩|⟨h1,h2,h3,h4⟩
 ·by_cases hc:cap=lo
  ·rw[iq hc]at h5;obtain rfl:n=0:=by omega
   exact .inr ⟨rfl,_,cap-lo,by omega,h5⟩
  ·rw[ir hc]at h5;exact .inl ⟨b,m,cap,cap-lo,h1,h2,by omega,by omega,h5⟩
 ·exact .inr ⟨h3,none,0,by omega,by rw[h4]⟩
theorem Dw.same{v0 v0' v:Value}{lo n m:Nat}(h:Dw v0 lo n v)(h':Dw v0' lo n v)(hl: ∀a k c,v0= .slice a k c->a.isSome=true->k=m)(ha: ∀a k c,v0'= .slice a k c->a.isSome=true->k=m):v0=v0':=by
 rcases h with⟨b,k,cap,h1,h2,h3,h4,h5⟩|⟨h1,h2,h3,h4⟩<;>rcases h' with⟨b',k',cap',q1,q2,q3,q4,q5⟩|⟨q1,q2,q3,q4⟩
 ·have e1:=hl _ _ _ h1 rfl;have e2:=ha _ _ _ q1 rfl;subst e1 e2;rw[h5]at q5;simp only[Value.slice.injEq,true_and]at q5;obtain⟨q6,q7⟩:=q5;obtain rfl:cap=cap':=by omega
  have hb:b=b':=by
   by_cases hc:cap=lo
   ·rw[iq hc,iq hc]at q6;simpa using q6
   ·rw[ir hc,ir hc]at q6;simpa using q6
  rw[h1,q1,hb]
 ·rw[h5]at q4;exfalso;simp only[Value.slice.injEq]at q4;by_cases hc:cap=lo
  ·rw[iq hc]at q4;cases q4.1
  ·rw[ir hc]at q4;cases q4.1
 ·rw[h4]at q5;exfalso;simp only[Value.slice.injEq]at q5;by_cases hc:cap'=lo
  ·rw[iq hc]at q5;cases q5.1
  ·rw[ir hc]at q5;cases q5.1
 ·rw[h1,q1]
def vg(P:Program)(vs:Nat->Value):Dv->Value->FF
 | .d t x,v=>fV t.rep x v
 | .q t x,v=>fP t.rep x v
 | .kb b,v=>nM (v= .bool b)
 | .un,v=>nM (v=undef)
 | .nil,v=>nM (v= .slice none 0 0)
 | .ow o,v=>nM (v=vs o)
 | .ep o t j f,v=>nM (Fl.ok t f/\ ∃b n cap,vs o= .slice (some ⟨b,0,none⟩) n cap/\j<n/\v= .pointer (some ⟨b,0+j*t.rep.n+f.off,none⟩))
 | .sv o t lo n,v=>nM ((∃b m cap c,vs o= .slice (some ⟨b,0,none⟩) m cap/\lo+n<=m/\n<=c/\c<=9223372036854775807/\v= .slice (some ⟨b,0+lo*t.rep.n,none⟩) n c)\/(n=0/\ ∃ao c,c<=9223372036854775807/\v= .slice ao 0 c))
 | .vs o t,v=>nM (v=vs o/\ ∃b,vs o= .pointer (some ⟨b,0,none⟩))
 | .vp o t f,v=>nM (Fl.ok t f/\ ∃b,vs o= .pointer (some ⟨b,0,none⟩)/\v= .pointer (some ⟨b,0+f.off,none⟩))
 | .fn f c,v=>zen f c v
 | .fp dom cod g,v=>fnF P dom cod g v
 | .pin u,v=>nM (v=u)
 | .mw o,v=>nM (v=yY (vs o))
 | .mv o lo n,v=>nM (Dw (yY (vs o)) lo n v)
 | .hp o j,v=>nM (∃b n cap,yY (vs o)= .slice (some ⟨b,0,none⟩) n cap/\j<n/\v= .pointer (some ⟨b,0+j*1,none⟩))
 | .rw o r,v=>nM ((vb (vs o))[r]? =some v)
 | .rp o t r j f,v=>nM (Fl.ok t f/\ ∃b n cap,(vb (vs o))[r]? =some (.slice (some ⟨b,0,none⟩) n cap)/\j<n/\v= .pointer (some ⟨b,0+j*t.rep.n+f.off,none⟩))
 | .yd o,v=>nM (v= .func (.yield (lOf (yY (vs o)))) #[] #[])
def xG(P:Program)(vs:Nat->Value)(d:Dv)(v:Value)(i:Nat):FF where
 p S w:=match i with
  |0=>(vg P vs d v).p S w
  |i+1=> ∃us u,v= .tuple us/\us[i]? =some u/\(vg P vs d u).p S w
 keep:=by
  intro S w w' h k
  cases i with
  |zero=>exact(vg P vs d v).keep h k
  |succ i=>obtain⟨us,u,h1,h2,h3⟩:=h;exact⟨us,u,h1,h2,(vg P vs d u).keep h3 k⟩
 sub:=by
  intro S S' w h k
  cases i with
  |zero=>exact(vg P vs d v).sub h k
  |succ i=>obtain⟨us,u,h1,h2,h3⟩:=h;exact⟨us,u,h1,h2,(vg P vs d u).sub h3 k⟩
def VQ(vs:Nat->Value)(e:Nat×Od):MF:=match e.2 with
 | .own t E xs=>mO t.rep E (vs e.1) xs
 | .var t E z=>mP t.rep.c E (vs e.1) z
 | .mat t E E1 xss ix=>gn t.rep E E1 (vs e.1) xss ix
 | .bo t E E0 xs=>mBo t.rep E E0 (vs e.1) xs
 | .ho E0=>mHo E0 (vs e.1)
 | .hid t E X Y mX mY g x=>Fy [mPr (Ek Tryz.prog (lOf (yY (vs e.1))) t.rep E mX mY g),mX x ((vb (vs e.1)).headD undef)]
 | .hiy Y mY y=>mY y ((vb (vs e.1)).headD undef)
def MS(vs:Nat->Value)(ob:List (Nat×Od)):List MF:=ob.map (VQ vs)
def RS(P:Program)(vs:Nat->Value)(env:yP)(rg:List (Nat×Nat×Dv)):List FF:=rg.map fun e=>xG P vs e.2.2 (env e.1) e.2.1
structure Fr where
 we:World
 Se:Nat->Prop
 F:List MF
 G:List FF
structure Bd(cx σ:Sg):Prop where
 o1: ∀e∈σ.ob,e.1<σ.nx
 o2: ∀e∈cx.ob,e.1<σ.nx
 r1: ∀e∈σ.rg,∀o,wa e.2.2=some o->o<σ.nx
 r2: ∀e∈cx.rg,∀o,wa e.2.2=some o->o<σ.nx
def uU(P:Program)(fr:Fr)(cx σ:Sg)(env:yP)(w:World):Prop:=
 Bd cx σ/\ ∃vs:Nat->Value,St fr.we fr.Se (MS vs σ.ob++(MS vs cx.ob++fr.F)) (RS P vs env σ.rg++(RS P vs env cx.rg++fr.G)) w
section
variable{P:Program}{vs vs':Nat->Value}{env env':yP}
theorem cG{d:Dv}(h: ∀o,wa d=some o->vs' o=vs o)(v:Value):vg P vs' d v=vg P vs d v:=by
 cases d<;>simp only[vg]<;>simp only[wa,xaw,forall_eq']at h<;>rw[h]
theorem x8: ∀{ob:List (Nat×Od)},(∀e∈ob,vs' e.1=vs e.1)->MS vs' ob=MS vs ob
 |[],_=>rfl
 |(o,x)::r,h=>by
  have h1:=h (o,x) (FS);have h2:=x8 (ob:=r) fun e he=>h e (H1 _ he);show VQ vs' (o,x)::MS vs' r=VQ vs (o,x)::MS vs r;rw[h2];cases x<;>simp only[VQ]<;>rw[h1]
theorem qB: ∀{rg:List (Nat×Nat×Dv)},(∀e∈rg,∀o,wa e.2.2=some o->vs' o=vs o)->(∀e∈rg,env' e.1=env e.1)->RS P vs' env' rg=RS P vs env rg
 |[],_,_=>rfl
 |(t,i,d)::r,h,h'=>by
  show xG P vs' d (env' t) i::RS P vs' env' r=xG P vs d (env t) i::RS P vs env r;rw[qB (rg:=r) (fun e he=>h e (H1 _ he)) (fun e he=>h' e (H1 _ he)),h' (t,i,d) (FS)];congr 1;unfold xG;simp only[cG (P:=P) (h (t,i,d) (FS))]
theorem qT{S:Nat->Prop}{w:World}: ∀{Γ:List FF},zA S Γ w↔ ∀f∈Γ,f.p S w
 |[]=>⟨fun _ f h=>absurd h xaa,fun _=>trivial⟩
 |f::r=>by
  have ih:=qT (S:=S) (w:=w) (Γ:=r);constructor
  ·intro h x hx;rcases xae.1 hx with rfl|hx
   ·exact h.1
   ·exact ih.1 h.2 x hx
  ·intro h;exact⟨h f (FS),ih.2 fun x hx=>h x (H1 _ hx)⟩
theorem ya{a b:Nat}(h:xan a b=true):a=b:=xcH h
theorem dI: ∀{rg:List (Nat×Nat×Dv)} {t i:Nat} {d:Dv},ay rg t i=some d->(t,i,d)∈rg
 |(t',i',d')::r,t,i,d,h=>by
  unfold ay at h;cases hb:xan t' t && xan i' i
  ·rw[hb]at h;exact H1 _ (dI h)
  ·rw[hb]at h;simp only[cond_true,xaw]at h;rw[xam]at hb;rw[<-h,ya hb.1,ya hb.2];exact FS
theorem Ji{S:Nat->Prop}{w:World}{rg:List (Nat×Nat×Dv)}(h:zA S (RS P vs env rg) w){t i:Nat}{d:Dv}(hd:(t,i,d)∈rg):(xG P vs d (env t) i).p S w:=
 qT.1 h _ (xai.2 ⟨(t,i,d),hd,rfl⟩)
theorem wj: ∀{ob:List (Nat×Od)} {o:Nat} {x:Od},xH ob o=some x-> ∃i,ob[i]? =some (o,x)/\(∀y,kE ob o y=ob.set i (o,y))/\yC ob o=ob.eraseIdx i
 |(o',x')::r,o,x,h=>by
  unfold xH at h;cases hb:xan o' o
  ·rw[hb]at h;obtain⟨i,h1,h2,h3⟩:=wj (ob:=r) h;exact⟨i+1,by simpa using h1,fun y=>by unfold kE;rw[hb];simp only[cond_false,List.set_cons_succ,h2 y],by unfold yC;rw[hb];simp only[cond_false,List.eraseIdx_cons_succ,h3]⟩
  ·rw[hb]at h;simp only[cond_true,xaw]at h;have:=ya hb;subst h;subst this;exact⟨0,rfl,fun y=>by unfold kE;rw[hb];rfl,by unfold yC;rw[hb];rfl⟩
theorem W4{ob:List (Nat×Od)}{i:Nat}{e:Nat×Od}{R:List MF}(h:ob[i]? =some e):(MS vs ob++R)[i]? =some (VQ vs e):=by
 have hi:=(xat.1 h).1;rw[xbn (by simpa[MS]using hi),MS,xaB,h];rfl
theorem p8{ob:List (Nat×Od)}{i:Nat}{e e':Nat×Od}{R:List MF}(h:ob[i]? =some e):(MS vs ob++R).set i (VQ vs e')=MS vs (ob.set i e')++R:=by
 have hi:=(xat.1 h).1;rw[List.set_append_left _ _ (by simpa[MS]using hi),MS,MS,List.map_set]
theorem SH{α:Type _}{β:Type _}(f:α->β): ∀(l:List α) (i:Nat),(l.eraseIdx i).map f=(l.map f).eraseIdx i
 |[],i=>by simp
 |_::_,0=>rfl
 |a::l,i+1=>by simp only[List.eraseIdx_cons_succ,xbR,SH f l i]
theorem J1{ob:List (Nat×Od)}{i:Nat}{e:Nat×Od}{R:List MF}(h:ob[i]? =some e):(MS vs ob++R).eraseIdx i=MS vs (ob.eraseIdx i)++R:=by
 have hi:=(xat.1 h).1;rw[List.eraseIdx_append_of_lt_length (by simpa[MS]using hi),MS,MS,SH]
theorem TQ{cx σ:Sg}{o:Nat}{x:Od}(h:Qj cx σ o=some x):(o,x)∈σ.ob\/(o,x)∈cx.ob:=by
 unfold Qj at h;split at h
 ·next d hd=>
  cases h;obtain⟨i,h1,_⟩:=wj hd;exact .inl (xbr h1)
 ·obtain⟨i,h1,_⟩:=wj h;exact .inr (xbr h1)
theorem BB{cx σ:Sg}{t i:Nat}{d:Dv}(h:get cx σ t i=some d):(t,i,d)∈σ.rg\/(t,i,d)∈cx.rg:=by
 unfold get at h;split at h
 ·next d' hd=>cases h;exact .inl (dI hd)
 ·exact .inr (dI h)
theorem uH{S:Nat->Prop}{w:World}{cx σ:Sg}{o:Nat}{x:Od}{F:List MF}(hM:yv S (MS vs σ.ob++(MS vs cx.ob++F)) w)(h:Qj cx σ o=some x):(VQ vs (o,x)).p S w:=by
 refine kV.1 hM _ ?_;rcases TQ h with h|h
 ·exact Nm.2 (.inl (xai.2 ⟨_,h,rfl⟩))
 ·exact Nm.2 (.inr (Nm.2 (.inl (xai.2 ⟨_,h,rfl⟩))))
end
theorem ym{R:Type}{s t:Ty}{x:s.D}{k:t.D->Option R}{r:R}(h:Ty.cast s t x k=some r): ∃e:s=t,k (e▸x)=some r:=by
 unfold Ty.cast at h;split at h
 ·next e _=>exact⟨e,h⟩
 ·cases h
theorem yi{R:Type}{b:Bool}{x:Option R}{r:R}(h:km b x=some r):b=true/\x=some r:=by
 cases b
 ·cases h
 ·exact⟨rfl,h⟩
end
section
open Go.ChangeShapes Go.WideShapes Go.ChangeAt Go.RowKit
def YZ(P:Program):Ty->TypeId->Prop
 | .i,T=>P.underlying T=some (.int .i64)
 | .u,T=>P.underlying T=some (.int .u64)
 | .b,T=>P.underlying T=some .bool
 | .l t,T=> ∃E,P.underlying T=some (.slice E)/\P.cellsOf E=t.n/\0<t.n/\YZ P t E
 | .p s t,T=> ∃f0 f1:Field,P.underlying T=some (.struct #[f0,f1])/\P.cellsOf T=s.n+t.n/\f0.offset=0/\f1.offset=s.n/\P.cellsOf f0.type=s.n/\P.cellsOf f1.type=t.n/\YZ P s f0.type/\YZ P t f1.type
 | .ch,T=>P.underlying T=some (.int .u8)
 | .tx,T=>P.underlying T=some .string
 | .a _ _,_=>False
def zgB(P:Program)(T:TypeId):Option ((Nat×TypeId)×(Nat×TypeId)):=match P.underlying T with
 |some (.struct fs)=>match fs.toList with
  |[f0,f1]=>some ((f0.offset,f0.type),(f1.offset,f1.type))
  |_=>none
 |_=>none
theorem YZ.st{P:Program}{s t:Ty}{T A B:TypeId}(h:zgB P T=some ((0,A),(s.n,B)))(hc:P.cellsOf T=s.n+t.n)(ha:P.cellsOf A=s.n)(hb:P.cellsOf B=t.n)(h1:YZ P s A)(h2:YZ P t B):YZ P (.p s t) T:=by
 unfold zgB at h;split at h
 ·next fs hu=>
  split at h
  ·next f0 f1 hf=>
   simp only[xaw,xcu]at h;obtain⟨⟨a1,a2⟩,a3,a4⟩:=h;have:fs= #[f0,f1]:=by cases fs;simp_all
   subst this;exact⟨f0,f1,hu,hc,a1,a3,by rw[a2];exact ha,by rw[a4];exact hb,by rw[a2];exact h1,by rw[a4];exact h2⟩
  ·cases h
 ·cases h
theorem YZ.sl{P:Program}{t:Ty}{T E:TypeId}(h:P.underlying T=some (.slice E))(hc:P.cellsOf E=t.n)(hp:0<t.n)(h1:YZ P t E):YZ P (.l t) T:=⟨E,h,hc,hp,h1⟩
theorem tU{w:World}{base n:Nat}{a:Addr}{c:List Value}(h:w.cells? base a n=some c):c.length=n/\ ∀i v,c[i]? =some v->w.cell? (a.add i)=some v:=by
 unfold World.cells? at h;split at h
 ·have: ∀(l:List Nat) (c:List Value),l.mapM (fun i=>w.cell? (a.add i))=some c->c.length=l.length/\ ∀(i j:Nat) (v:Value),c[i]? =some v->l[i]? =some j->w.cell? (a.add j)=some v:=by
   intro l
   induction l with
   |nil=>intro c hc;simp at hc;subst hc;exact⟨rfl,fun i j v hv=>by simp at hv⟩
   |cons x l ih=>
    intro c hc;rw[List.mapM_cons]at hc
    cases hx:w.cell? (a.add x)with
    |none=>rw[hx]at hc;simp at hc
    |some y=>
     rw[hx]at hc
     cases hl:l.mapM (fun i=>w.cell? (a.add i))with
     |none=>rw[hl]at hc;simp at hc
     |some r=>
      rw[hl]at hc;have hc:y::r=c:=by simpa using hc
      subst hc;obtain⟨h1,h2⟩:=ih r hl;refine⟨by simp[h1],fun i j v hv hj=> ?_⟩
      cases i with
      |zero=>simp at hv hj;subst hv;subst hj;exact hx
      |succ i=>exact h2 i j v (by simpa using hv) (by simpa using hj)
  obtain⟨h1,h2⟩:=this _ _ h;refine⟨by simpa using h1,fun i v hv=>h2 i i v hv ?_⟩;have:=(xat.1 hv).1;rw[xbg (by rw[h1]at this;simpa using this)]
 ·cases h
theorem OJ{w:World}{a:Addr}{v:Value}(h:w.cell? a=some v):a=⟨a.block,a.off,none⟩/\a.block<w.heap.size:=by
 unfold World.cell? at h;split at h
 ·next c _ _ hb=>
  split at h
  ·cases h
  ·next hs=>
   refine⟨?_,(xbj.1 hb).1⟩;obtain⟨b,o,s⟩:=a
   cases s with
   |none=>rfl
   |some x=>simp at hs
 ·cases h
theorem zdp(a:Addr):a.add 0=a:=by
 unfold Addr.add;obtain⟨b,o,s⟩:=a;cases s<;>simp
section
variable{H:Type}{enc:TypeId×Value->H}{P:Program}{W:World}{sp:Nat->Bool}{held:Bool}
theorem EV{t:Ty}{b o:Nat}(hb:b<W.heap.size): ∀(len:Nat),(∀i,i<len-> ∃(c:List Value) (z:t.D),W.cells? 0 (⟨b,o+i*t.n,none⟩:Addr) t.n=some c/\t.rep.p (fun _=>True) z c W)->
 ∃(xs:List t.D) (cs:List Value),xs.length=len/\At W b o cs/\yu t.rep (fun _=>True) xs cs W
 |0,_=>⟨[],[],rfl,⟨hb,fun j v hv=>by simp at hv⟩,rfl⟩
 |len+1,h=>by
  obtain⟨xs,cs,h1,h2,h3⟩:=EV hb len fun i hi=>h i (by omega);obtain⟨c,z,h4,h5⟩:=h len (by omega);obtain⟨h6,h7⟩:=tU h4;have hl:=h3.len;rw[h1,Ty.n_rep]at hl;refine⟨xs++[z],cs++c,by simp[h1],⟨hb,fun j v hv=> ?_⟩,h3.append ⟨c,[],by simp,h5,rfl⟩⟩;rcases xci j cs.length with hj|hj
  ·rw[xbn hj]at hv;exact h2.2 j v hv
  ·rw[xcj hj]at hv;have:=h7 _ v hv;rw[vP]at this;rw[<-this];congr 2;omega
theorem dm: ∀(t:Ty) {T:TypeId} {n:Nat} {cs:List Value} {x:DataW H×List MemPlace},YZ P t T->DataW.trod enc P W 0 sp held n T cs=some x-> ∃z:t.D,t.rep.p (fun _=>True) z cs W
 | .i,T,n,cs,x,ht,h=>by
  obtain⟨v,rfl,_,hw⟩:=DataW.trod_int ht h;have: -9223372036854775808<=v/\v<=9223372036854775807:=by simpa[Lit.wf,IntKind.min,IntKind.max,xdR,xeq]using hw
  exact⟨v,rfl,this.1,this.2⟩
 | .u,T,n,cs,x,ht,h=>by
  obtain⟨v,rfl,_,hw⟩:=DataW.trod_int ht h;have:0<=v/\v<=18446744073709551615:=by simpa[Lit.wf,IntKind.min,IntKind.max,xdR,xeq]using hw
  obtain⟨k,rfl⟩:=xaC this.1;exact⟨k,rfl,by omega⟩
 | .ch,T,n,cs,x,ht,h=>by
  obtain⟨v,rfl,_,hw⟩:=DataW.trod_int ht h;have:0<=v/\v<=255:=by simpa[Lit.wf,IntKind.min,IntKind.max,xdR,xeq]using hw
  obtain⟨k,rfl⟩:=xaC this.1;exact⟨k,rfl,by omega⟩
 | .tx,T,n,cs,x,ht,h=>by
  obtain⟨s,rfl,_,hs⟩:=DataW.trod_string ht h;exact⟨yM s,s,rfl,rfl,hs⟩
 | .b,T,n,cs,x,ht,h=>by
  obtain⟨v,rfl,_⟩:=DataW.trod_bool ht h;exact⟨v,rfl⟩
 | .l t,T,n,cs,x,ht,h=>by
  obtain⟨E,hu,hc,hf,hE⟩:=ht;rcases DataW.trod_slice hu h with⟨rfl,_⟩|⟨a,len,cap,elems,rest,m,_,rfl,_,_,hj,hd,hg,he,_,_⟩
  ·exact⟨[],_,rfl,OW.nil⟩
  ·rw[hc]at he;have key: ∀i,i<len-> ∃(c:List Value) (z:t.D),W.cells? 0 (a.add (i*t.n)) t.n=some c/\t.rep.p (fun _=>True) z c W:=by
    intro i hi;have h1:=he i hi;rw[IR (by omega)]at h1;obtain⟨c,h2,h3⟩:=Option.bind_eq_some_iff.1 h1;obtain⟨z,hz⟩:=dm t hE h3;exact⟨c,z,h2,hz⟩
   rcases xcN len with h0|h0
   ·subst h0;exact⟨[],_,rfl,some a,cap,rfl,xaj _,hd,.inl rfl⟩
   ·obtain⟨c,z,h1,h2⟩:=key 0 h0;obtain⟨h3,h4⟩:=tU h1;have h5:=h4 0 (c[0]'(by omega)) (IR (by omega));rw[xcI,zdp,zdp]at h5;obtain⟨ha,hb⟩:=OJ h5;rw[ha]at key;obtain⟨xs,cs,g1,g2,g3⟩:=EV (t:=t) (b:=a.block) (o:=a.off) hb len fun i hi=>by
     have:=key i hi;rw[vP]at this;exact this
    refine⟨xs,_,rfl,some a,cap,by rw[g1],by omega,hd,.inr ⟨a.block,a.off,cs,by rw[<-ha],trivial,g2,g3⟩⟩
 | .p s t,T,n,cs,x,ht,h=>by
  obtain⟨f0,f1,hu,hc,o0,o1,c0,c1,h0,h1⟩:=ht;obtain⟨y0,y1,m,_,hl,g0,g1⟩:=trod_struct2 hu h;rw[o0,c0,List.drop_zero]at g0;rw[o1,c1]at g1;obtain⟨z0,k0⟩:=dm s h0 g0;obtain⟨z1,k1⟩:=dm t h1 g1;refine⟨(z0,z1),cs.take s.n,(cs.drop s.n).take t.n,?_,k0,k1⟩;rw[hc]at hl;have e:(cs.drop s.n).take t.n=cs.drop s.n:=xaX (by simp;omega);rw[e,xbK]
 | .a _ _,_,_,_,_,ht,_=>ht.elim
theorem RA{t:Ty}{T:TypeId}{v:Value}{d:DataW H}{ps:List MemPlace}(ht:YZ P t T)(hv:v=t.rep.val v.cells.toList)(h:DataW.Trod enc P W 0 sp held T v d ps): ∃z:t.D,(fV t.rep z v).p (fun _=>True) W:=by
 obtain⟨n,h⟩:=h;obtain⟨z,hz⟩:=dm t ht h;exact⟨z,_,hv,hz⟩
end
theorem O9{P:Program}{s:Vb}(h:y5 P s)(hk:s.bk=0)(hc:s.cod=[.d .b])(x:Kc s.dom)(hM:s.M x=some (hc▸true:bj s.cod)){vs:List Value}(hl:vs.length=s.dom.length)(ha:YX s.dom x vs=[]){W:World}(hΓ:zA (fun _=>True) (kL P s.dom x vs) W):
 Calls P s.f vs.toArray W fun e W'=>e= .returned (.bool true)/\VX W W':=by
 obtain⟨f,dom,cod,M,bk⟩:=s;simp only at hc hk;subst hc;subst hk;have h1:=h.2 x true hM vs hl W (fun _=>True) [] [] W;simp only[ha,xbF,xbN]at h1;refine(h1 ⟨yp.refl _ _,fun _ _=>trivial,trivial,fun _=>True,fun _ _=>trivial,fun _ _=>trivial,fun m hm=>absurd hm xaa,trivial,hΓ⟩).mono ?_;rintro e w' ⟨us,he,hb,hs⟩;obtain⟨hx,_,_,S,_,_,_,_,hf⟩:=hs;refine⟨?_,hx⟩
 match us,hb with
 |[u],_=>
  have:u= .bool true:=dM (show(fV Gb true u).p S w' from hf.1);rw[he,this];rfl
end
section
open Go.ChangeShapes Go.WideShapes Go.ChangeAt Go.RowKit
section
variable{H:Type}{enc:TypeId×Value->H}{P:Program}{W:World}{sp:Nat->Bool}{held:Bool}
theorem zfm{r:Reach}{b0:Nat}: ∀(t:Ty) {T:TypeId} {v:Value},YZ P t T->xec P W r b0 T v->v=t.rep.val v.cells.toList
 | .i,T,v,ht,h=>by obtain⟨n,rfl⟩:=okWide_int ht h;rfl
 | .u,T,v,ht,h=>by obtain⟨n,rfl⟩:=okWide_int ht h;rfl
 | .ch,T,v,ht,h=>by obtain⟨n,rfl⟩:=okWide_int ht h;rfl
 | .tx,T,v,ht,h=>by
  have ht:P.underlying T=some .string:=ht;simp only[xec,ht,Cell.okWide]at h;unfold Cell.ok at h;rw[ht]at h;cases v<;>simp at h;rfl
 | .b,T,v,ht,h=>by
  have ht:P.underlying T=some .bool:=ht;simp only[xec,ht,Cell.okWide]at h;unfold Cell.ok at h;rw[ht]at h;cases v<;>simp at h;rfl
 | .l t,T,v,ht,h=>by
  obtain⟨E,ht,_⟩:=ht;simp only[xec,ht,Cell.okWide]at h;unfold Cell.ok at h;rw[ht]at h;cases v<;>simp at h;rfl
 | .p s t,T,v,ht,h=>by
  obtain⟨f0,f1,ht,_⟩:=ht;simp only[xec,ht]at h;obtain⟨cs,rfl,_⟩:=h;show Value.agg cs=Value.agg cs.toList.toArray;simp
 | .a _ _,T,v,ht,_=>ht.elim
theorem Pf{r:Reach}{b0:Nat}{t:Ty}{T:TypeId}{v:Value}{d:DataW H}{ps:List MemPlace}(ht:YZ P t T)(hv:xec P W r b0 T v)(h:DataW.Trod enc P W 0 sp held T v d ps): ∃z:t.D,(fV t.rep z v).p (fun _=>True) W:=
 RA ht (zfm t ht hv) h
def Ty.ok:(t:Ty)->t.D->Prop
 | .i,(x:Int)=> -9223372036854775808<=x/\x<=9223372036854775807
 | .u,(x:Nat)=>x<18446744073709551616
 | .b,_=>True
 | .ch,(x:Nat)=>x<256
 | .tx,xs=>xaG xs<=9223372036854775807/\ ∀x,List.Mem x xs->x<256
 | .l t,xs=>xaG xs<=9223372036854775807/\ ∀x,List.Mem x xs->t.ok x
 | .p s t,x=>s.ok x.1/\t.ok x.2
 | .a _ t,xs=> ∀x,List.Mem x xs->t.ok x
theorem nA{α:Type}{e:zX α}{S:Nat->Prop}{w:World}{q:α->Prop}(hq: ∀x cs,e.p S x cs w->q x): ∀{xs:List α} {cs:List Value},yu e S xs cs w-> ∀x,List.Mem x xs->q x
 |[],_,_,x,hx=>nomatch hx
 |y::ys,_,⟨c,r,_,hc,hr⟩,x,hx=>by
  cases hx with
  |head=>exact hq _ _ hc
  |tail _ hx=>exact nA hq hr x hx
theorem pz: ∀(t:Ty) {S:Nat->Prop} {z:t.D} {cs:List Value} {w:World},t.rep.p S z cs w->t.ok z
 | .i,_,_,_,_,h=>h.2
 | .u,_,_,_,_,h=>h.2
 | .b,_,_,_,_,_=>trivial
 | .ch,_,_,_,_,h=>h.2
 | .tx,_,xs,_,_,h=>by
  obtain⟨s,_,h1,h2⟩:=h;have h3:=vX s;have h1:yM s=xs:=h1;refine⟨by show xaG (α:=Nat) xs<=_;rw[<-h1,h3];exact h2,fun x hx=> ?_⟩;have hx:x∈yM s:=by rw[h1];exact hx
  obtain⟨b,_,rfl⟩:=xai.1 hx;exact UInt8.toNat_lt _
 | .l t,S,xs,_,w,h=>by
  obtain⟨v,_,ao,cap,_,h1,h2,h3⟩:=h;refine⟨xao h1 h2,?_⟩;rcases h3 with h3|⟨b,o,cs,_,_,_,h4⟩
  ·have h3:xs=([]:List t.D):=h3;subst h3;exact fun x hx=>nomatch hx
  ·exact nA (fun x cs hx=>pz t hx) h4
 | .p s t,S,z,_,w,h=>by
  obtain⟨c,d,_,h1,h2⟩:=h;exact⟨pz s h1,pz t h2⟩
 | .a k t,S,xs,_,w,h=>by
  obtain⟨_,h⟩:=h;exact nA (fun x cs hx=>pz t hx) h
def R5:(dom:List AM)->Kc dom->Prop
 |[],_=>True
 | .d t::r,x=>t.ok x.1/\R5 r x.2
 |_::r,x=>R5 r x.2
def DM(P:Program):List AM->List TypeId->Prop
 |[],[]=>True
 | .d t::r,T::Ts=>YZ P t T/\DM P r Ts
 |_,_=>False
theorem LH: ∀{dom:List AM} {Ts:List TypeId},DM P dom Ts->dom.length=Ts.length
 |[],[],_=>rfl
 | .d t::r,T::Ts,h=>by simp[LH h.2]
 | .d _::_,[],h=>h.elim
 |[],_::_,h=>h.elim
 | .q _::_,_,h=>h.elim
 | .own _ _::_,_,h=>h.elim
 | .fn _ _::_,_,h=>h.elim
theorem Te: ∀{dom:List AM} {Ts:List TypeId},DM P dom Ts-> ∀(x:Kc dom) (vs:List Value),YX dom x vs=[]
 |[],_,_,_,_=>rfl
 | .d t::r,T::Ts,h,x,vs=>by show[]++YX r x.2 vs.tail=[];rw[Te h.2];rfl
 | .d _::_,[],h,_,_=>h.elim
 | .q _::_,_,h,_,_=>h.elim
 | .own _ _::_,_,h,_,_=>h.elim
 | .fn _ _::_,_,h,_,_=>h.elim
theorem tL{r:Reach}{b0:Nat}: ∀{dom:List AM} {Ts:List TypeId} {vs:List Value} {ds:List (DataW H)} {ps:List MemPlace},DM P dom Ts->(∀(j:Nat) t v,Ts[j]? =some t->vs[j]? =some v->xec P W r b0 t v)->xey enc P W 0 sp held Ts vs ds ps->
 vs.length=Ts.length/\ ∃x:Kc dom,R5 dom x/\zA (fun _=>True) (kL P dom x vs) W
 |[],[],[],[],_,_,_,_=>⟨rfl,(),trivial,trivial⟩
 | .d t::dom,T::Ts,v::vs,d::ds,ps,h,hv,ha=>by
  obtain⟨p,q,h1,h2,_⟩:=ha;obtain⟨hl,x,hc,hx⟩:=tL (vs:=vs) (ds:=ds) h.2 (fun j t' v' ht hd=>hv (j+1) t' v' (by simpa using ht) (by simpa using hd)) h2;obtain⟨z,hz⟩:=Pf h.1 (hv 0 T v rfl rfl) h1;obtain⟨cs,he,hb⟩:=hz;exact⟨by simp[hl],(z,x),⟨pz t hb,hc⟩,⟨cs,he,hb⟩,hx⟩
 |[],[],_::_,_,_,_,_,h=>h.elim
 |[],[],[],_::_,_,_,_,h=>h.elim
 | .d _::_,_::_,[],_,_,_,_,h=>h.elim
 | .d _::_,_::_,_::_,[],_,_,_,h=>h.elim
 | .d _::_,[],_,_,_,h,_,_=>h.elim
 |[],_::_,_,_,_,h,_,_=>h.elim
 | .q _::_,_,_,_,_,h,_,_=>h.elim
 | .own _ _::_,_,_,_,_,h,_,_=>h.elim
 | .fn _ _::_,_,_,_,_,h,_,_=>h.elim
theorem Sz{W':World}(hx:VX W W'){p:MemPlace}(hp:p.block<W.heap.size):W.sameAt W' p:=by
 cases p with
 |cell b off=>exact World.cell?_of_block (a:=⟨b,off,none⟩) (hx.block b hp trivial)
 |map b=>exact hx.block b hp trivial
theorem UU{W':World}{sp':Nat->Bool}(hl:laidOutB P=true): ∀{Ts:List TypeId} {vs:List Value} {ds:List (DataW H)} {ps:List MemPlace},(∀t∈Ts,P.readableRec t=true/\t<P.types.size)->xey enc P W 0 (fun _=>true) true Ts vs ds ps->
 (∀p∈ps,W.sameAt W' p)->(∀p∈ps,sp' p.block=true)->xey enc P W' 0 sp' true Ts vs ds ps
 |[],[],[],_,_,h,_,_=>h
 |T::Ts,v::vs,d::ds,ps,hr,h,h1,h2=>by
  obtain⟨p,q,g1,g2,rfl⟩:=h;have hT:=hr T (FS)
  exact⟨p,q,Go.WideElems.Trod_stays hl hT.1 hT.2 g1 (fun x hx=>h1 x (Nm.2 (.inl hx))) (fun x hx=>h2 x (Nm.2 (.inl hx))),
   UU hl (fun t ht=>hr t (H1 _ ht)) g2 (fun x hx=>h1 x (Nm.2 (.inr hx))) (fun x hx=>h2 x (Nm.2 (.inr hx))),rfl⟩
 |[],[],_::_,_,_,h,_,_=>h.elim
 |[],_::_,_,_,_,h,_,_=>h.elim
 |_::_,[],_,_,_,h,_,_=>h.elim
 |_::_,_::_,[],_,_,h,_,_=>h.elim
end
theorem zcs{H:Type}{enc:TypeId×Value->H}{P:Program}{f:Func}{s:ChangeSpec}{apart fresh ha:Bool}{W:World}{base:Nat}{args:Array Value}{ds gs:List (DataW H)}{before:List MemPlace}{sg:Vb}
 (hW:DataW.Whole enc P f.params.toList s.vars apart W args.toList ds gs before) (hb:s.vars=[]) (hi: ∀(j:Nat) t v,f.params[j]? =some t->args[j]? =some v->xec P W .any base t v)
 (hl:laidOutB P=true) (hr: ∀t∈f.params.toList,P.readableRec t=true/\t<P.types.size) (he:DM P sg.dom f.params.toList) (hc:sg.cod=[.d .b]) (hS:y5 P sg) (hM: ∀x,R5 sg.dom x->sg.M x=some (hc▸true:bj sg.cod)) {B:TypeId} (hB:f.resultTypes= #[B]) (hm:P.underlying B=some .bool)
 (hg:s.fn H (ds++gs)={results:=[.lit (.bool true)],args:=ds}) (hk:sg.bk=0:=by rfl):
 Calls P sg.f args W fun e W'=> ∃v,e= .returned v/\s.post enc P f apart fresh ha false W args v W':=by
 obtain⟨p,q,hA,hV,hn,hw,hy⟩:=id hW;rw[hb]at hV
 cases gs with
 |cons g gs=>exact hV.elim
 |nil=>
  have hq:q=[]:=hV;subst hq;obtain⟨hj,x,ho,hx⟩:=tL (vs:=args.toList) he (fun j t v ht hv=>hi j t v (by simpa using ht) (by simpa using hv)) hA;refine(O9 hS hk hc x (hM x ho) (vs:=args.toList) (by rw[hj,LH he]) (Te he x _) hx).mono ?_;rintro e W' ⟨rfl,hf⟩;refine⟨_,rfl,P0 (pa:=before) (pv:=[]) hW (fun b sp hd=> ?_) (fun sp hs=> ?_) (fun sp _=> ?_) (by simp) hf⟩
  ·rw[hB,hg];exact⟨[],[],shut_bool hm _,rfl,rfl⟩
  ·rw[hg];have hu:xey enc P W 0 (fun _=>true) true f.params.toList args.toList ds before:=by rw[hn,xbN];exact hA
   exact UU hl hr hu (fun p hp=>Sz hf (hW.lt p hp)) hs
  ·rw[hb,hg];rfl
end
section
def zhO:Operand->Option Tmp
 | .tmp t=>some t
 |_=>none
def yx(op:Op):List Tmp:=op.operands.toList.filterMap zhO
def Lk(P:Program)(vs:Nat->Value)(env:yP)(S:Nat->Prop)(w:World)(cx σ:Sg)(t:Tmp):Prop:=
 ∀i d,get cx σ t i=some d->(xG P vs d (env t) i).p S w
def ZO(P:Program)(vs:Nat->Value)(env:yP)(S:Nat->Prop)(w:World)(cx σ:Sg)(x:Operand):Prop:= ∀t,zhO x=some t->Lk P vs env S w cx σ t
def ES(P:Program)(o:Oper)(cx σ:Sg)(F:List MF)(l:List (Nat×Dv)):Prop:=
 ∀(env:yP) (w:World) (S:Nat->Prop) (vs:Nat->Value),(∀k,w.heap.size<=k->S k)->yv S (MS vs σ.ob++(MS vs cx.ob++F)) w->(∀t∈yx o.op,Lk P vs env S w cx σ t)->
  kh P o env w (fun v w'=>VX w w'/\ ∀e∈l,(xG P vs e.2 v e.1).p S w')
section
variable{P:Program}{cf:Cf}{cx σ:Sg}{F:List MF}{vs:Nat->Value}{env:yP}{S:Nat->Prop}{w:World}{R:Type}{r:R}
 {d:Option Tmp} {ty t yt:TypeId} {pos:String} {aft:Array Edge} {g:Option (Nat×Bool)} {x y:Operand}
theorem yH{op:Op}(h: ∀t∈yx op,Lk P vs env S w cx σ t)(hx:x∈op.operands.toList):ZO P vs env S w cx σ x:=
 fun t ht=>h t (xfa.2 ⟨x,hx,ht⟩)
theorem zk{v:Dv}(h:xW cx σ x=some v)(hl:ZO P vs env S w cx σ x):(vg P vs v (ev env x)).p S w:=by
 cases x with
 |tmp t=>exact hl t rfl 0 v h
 |const c=>
  simp only[xW]at h;unfold cv at h;split at h
  ·split at h
   ·next hx=>cases h;exact xJ hx
   ·cases h
  ·split at h
   ·next x hx=>
    cases h;have:(x.toNat:Int)=x:=xcV hx.1;have h2:x.toNat<18446744073709551616:=by omega
    have:=qA (S:=S) (w:=w) h2;rwa[‹(x.toNat:Int)=x›]at this
   ·cases h
  ·cases h;exact rfl
  ·split at h
   ·next x hx=>
    cases h;have:(x.toNat:Int)=x:=xcV hx.1;have h2:x.toNat<256:=by omega
    have:=Ar (S:=S) (w:=w) h2;rwa[‹(x.toNat:Int)=x›]at this
   ·cases h
  ·split at h
   ·next hx=>cases h;exact EE rfl hx
   ·cases h
  ·cases h;exact rfl
  ·cases h;exact rfl
  ·cases h
 |global g=>cases h
 |func f=>cases h;exact⟨[],rfl,rfl,trivial⟩
theorem tj{v:Dv}{u:Value}{p:PD}(h:zc4 v=some p)(hv:(vg P vs v u).p S w):(fV p.t.rep p.x u).p S w:=by
 cases v<;>simp only[zc4,xaw,reduceCtorEq]at h
 ·subst h;exact hv
 ·subst h;rw[show u=_ from hv];exact lL
theorem bu{p:PD}(h:pd cx σ x=some p)(hl:ZO P vs env S w cx σ x):(fV p.t.rep p.x (ev env x)).p S w:=by
 unfold pd at h
 cases hv:xW cx σ x with
 |none=>rw[hv]at h;cases h
 |some v=>rw[hv]at h;exact tj h (zk hv hl)
theorem xV{a:Int}(h:pd cx σ x=some ⟨.i,a⟩)(hl:ZO P vs env S w cx σ x):ev env x= .int .i64 a/\VW a:=zeP (bu h hl)
theorem xE{a:Nat}(h:pd cx σ x=some ⟨.u,a⟩)(hl:ZO P vs env S w cx σ x):ev env x= .int .u64 (a:Int)/\QK a:=R8 (bu h hl)
theorem YW{a:Nat}(h:pd cx σ x=some ⟨.ch,a⟩)(hl:ZO P vs env S w cx σ x):ev env x= .int .u8 (a:Int)/\a<256:=zhb (bu h hl)
theorem NT{a:List Nat}(h:pd cx σ x=some ⟨.tx,a⟩)(hl:ZO P vs env S w cx σ x): ∃s:ByteArray,ev env x= .string s/\yM s=a/\s.size<=9223372036854775807:=Ea (bu h hl)
theorem zcU{a:Bool}(h:pd cx σ x=some ⟨.b,a⟩)(hl:ZO P vs env S w cx σ x):ev env x= .bool a:=dM (bu h hl)
theorem Ru{v:Option Dv}{t:Ty}{k:t.D->Option R}(h:sr v t k=some r): ∃y:t.D,k y=some r/\ ∀(P:Program) vs S w (d:Dv) u,v=some d->(vg P vs d u).p S w->(fV t.rep y u).p S w:=by
 unfold sr at h;split at h
 ·next=>
  cases t<;>simp only[reduceCtorEq]at h;exact⟨_,h,fun P vs S w d u hd hh=>by cases hd;rw[show u=_ from hh];exact SO⟩
 ·next v' hv=>
  split at h
  ·next p hp=>
   obtain⟨e,h⟩:=ym h;subst e;exact⟨_,h,fun P vs S w d u hd hh=>by cases hd;exact tj hp hh⟩
  ·cases h
 ·cases h
theorem XO{t:Ty}{k:t.D->Option R}(h:sr (xW cx σ x) t k=some r): ∃y:t.D,k y=some r/\ ∀(P:Program) vs env S w,ZO P vs env S w cx σ x->(fV t.rep y (ev env x)).p S w:=by
 obtain⟨y,h1,h2⟩:=Ru h;refine⟨y,h1,fun P vs env S w hl=> ?_⟩
 cases hv:xW cx σ x with
 |none=>rw[hv]at h;cases h
 |some v=>exact h2 P vs S w v _ hv (zk hv hl)
theorem zC{o:Oper}{l:List (Nat×Dv)}(h: ∀env w S vs,(∀t∈yx o.op,Lk P vs env S w cx σ t)-> ∃v,(execOp (ev env) o).run P w= .ok (.value v) w/\ ∀e∈l,(xG P vs e.2 v e.1).p S w):ES P o cx σ F l:=by
 intro env w S vs hS hM hl;obtain⟨v,h1,h2⟩:=h env w S vs hl;exact kh.of_value h1 ⟨yp.refl _ _,h2⟩
theorem zn{v:Value}{dv:Dv}(h:(vg P vs dv v).p S w): ∀e∈[(0,dv)],(xG P vs e.2 v e.1).p S w:=by
 intro e he;rw[xah]at he;subst he;exact h
theorem jM{o:Oper}{l:List (Nat×Dv)}(h: ∀env w S vs,yv S (MS vs σ.ob++(MS vs cx.ob++F)) w->(∀t∈yx o.op,Lk P vs env S w cx σ t)-> ∃(U:Type) (val:U->Value) (facts:U->List FF) (ok:U->Prop) (Γ:List FF) (ms:List MF),
 A7 P o env ms Γ val facts ok/\yv S ms w/\zA S Γ w/\ ∀u w',ok u->zA S (facts u) w'-> ∀e∈l,(xG P vs e.2 (val u) e.1).p S w'):ES P o cx σ F l:=by
 intro env w S vs hS hM hl;obtain⟨U,val,facts,ok,Γ,ms,h1,ha,h2,h3⟩:=h env w S vs hM hl;refine(h1 w S hS ha h2).mono ?_;rintro v w' ⟨u,rfl,hu,hx,hf⟩;exact⟨hx,h3 u w' hu hf⟩
theorem DW: ∀(f i:Nat) (t:Nat) (e:Nat×Dv),e∈zcv cx σ t f i->get cx σ t e.1=some e.2
 |0,_,_,_,h=>absurd h xaa
 |f+1,i,t,e,h=>by
  unfold zcv at h;split at h
  ·next d hd=>
   rcases xae.1 h with rfl|h
   ·exact hd
   ·exact DW f (i+1) t e h
  ·exact absurd h xaa
theorem PT{op:Op}(ha:op= .move x\/op= .assign x){k:List (Nat×Dv)->Option R}(h:L9 cx σ x k=some r): ∃l,k l=some r/\ES P ⟨d,op,ty,pos,aft,g⟩ cx σ F l:=by
 have hr: ∀env w,(execOp (ev env) ⟨d,op,ty,pos,aft,g⟩).run P w= .ok (.value (ev env x)) w:=fun env w=>by rcases ha with rfl|rfl<;>exact bf rfl w
 have hm:x∈op.operands.toList:=by rcases ha with rfl|rfl<;>simp[xaL]
 unfold L9 at h;split at h
 ·next v hv=>exact⟨_,h,zC fun env w S vs hl=>⟨_,hr env w,zn (zk hv (yH hl hm))⟩⟩
 ·unfold zgW at h;split at h
  ·next t hx=>
   split at h
   ·cases h
   ·next l0 l hb=>
    exact⟨_,h,zC fun env w S vs hl=>⟨_,hr env w,fun e he=>yH hl hm t rfl _ _ (DW _ _ _ _ he)⟩⟩
  ·cases h
theorem zhx{i:Nat}{k:List (Nat×Dv)->Option R}(h:zeF cx σ x i k=some r): ∃l,k l=some r/\ES P ⟨d,.extract x i,ty,pos,aft,g⟩ cx σ F l:=by
 unfold zeF at h;split at h
 ·next t=>
  split at h
  ·next v hv=>
   refine⟨_,h,?_⟩;intro env w S vs hS hM hl;obtain⟨us,u,h1,h2,h3⟩:=yH hl (x:= .tmp t) (by simp[xaL]) t rfl (i+1) v hv;exact kh.of_value (v:=u) (bf (by simp only[pv,ev,h1];exact h2) w) ⟨yp.refl _ _,zn h3⟩
  ·cases h
 ·cases h
theorem mv1{k:List (Nat×Dv)->Option R}(h:zcc cx σ x k=some r): ∃v,xW cx σ x=some v/\k [(0,v)]=some r:=by
 unfold zcc at h;split at h
 ·next v hv=>exact⟨v,hv,h⟩
 ·cases h
theorem zeE{c:Operand}{k:List (Nat×Dv)->Option R}(h:Pa cx σ c x y k=some r): ∃l,k l=some r/\ES P ⟨d,.pick c x y,ty,pos,aft,g⟩ cx σ F l:=by
 unfold Pa at h;split at h
 ·next hc=>
  obtain⟨v,hv,h⟩:=mv1 h;exact⟨_,h,zC fun env w S vs hl=>⟨_,zdi (zk hc (yH hl (by simp[xaL]))) rfl w,zn (zk hv (yH hl (by simp[xaL])))⟩⟩
 ·next hc=>
  obtain⟨v,hv,h⟩:=mv1 h;exact⟨_,h,zC fun env w S vs hl=>⟨_,zcd (zk hc (yH hl (by simp[xaL]))) rfl w,zn (zk hv (yH hl (by simp[xaL])))⟩⟩
 ·cases h
theorem zgN{k:List (Nat×Dv)->Option R}(h:zfe cx σ x k=some r): ∃l,k l=some r/\ES P ⟨d,.unOp .not t x,ty,pos,aft,g⟩ cx σ F l:=by
 unfold zfe at h;split at h
 ·next b hb=>exact⟨_,h,zC fun env w S vs hl=>⟨_,zdw (zk hb (yH hl (by simp[xaL]))) w,zn (by exact rfl)⟩⟩
 ·next b hb=>exact⟨_,h,zC fun env w S vs hl=>⟨_,zdw (dM (zk hb (yH hl (by simp[xaL])))) w,zn (by exact lL)⟩⟩
 ·cases h
theorem zgV{k:List (Nat×Dv)->Option R}(h:zf5 cx σ x k=some r): ∃l,k l=some r/\ES P ⟨d,.unOp .neg t x,ty,pos,aft,g⟩ cx σ F l:=by
 unfold zf5 at h;split at h
 ·next a ha=>
  obtain⟨z,hz,hr,h⟩:=WJ h;exact⟨_,h,zC fun env w S vs hl=>⟨_,zdr (xV ha (yH hl (by simp[xaL]))).1 (S4 hz hr) w,zn (xJ hr)⟩⟩
 ·next a ha=>
  obtain⟨z,hz,h⟩:=xp h;exact⟨_,h,zC fun env w S vs hl=>by
   obtain⟨h1,h2⟩:=xE ha (yH hl (by simp[xaL]));exact⟨_,zdr h1 (a7 hz (zfx h2)) w,zn (qA (Y4 hz))⟩⟩
 ·cases h
theorem GU{p:Prop}[Decidable p]{k:List (Nat×Dv)->Option R}(h:(if p then k [(0,.kb true)]else k [(0,.kb false)])=some r):k [(0,.kb (decide p))]=some r:=by
 by_cases hp:p
 ·rw[iq hp]at h;rw[decide_eq_true hp];exact h
 ·rw[ir hp]at h;rw[decide_eq_false hp];exact h
theorem kbN{p:Prop}[Decidable p]{k:List (Nat×Dv)->Option R}(h:(if p then k [(0,.kb false)]else k [(0,.kb true)])=some r):k [(0,.kb (!decide p))]=some r:=by
 by_cases hp:p
 ·rw[iq hp]at h;rw[decide_eq_true hp];exact h
 ·rw[ir hp]at h;rw[decide_eq_false hp];exact h
theorem ziE{bo:BinOp}{a c:Int}{k:List (Nat×Dv)->Option R}(h:arI bo a c (fun v=>k [(0,v)])=some r)(ha:pd cx σ x=some ⟨.i,a⟩)(hc:pd cx σ y=some ⟨.i,c⟩):
 ∃l,k l=some r/\ES P ⟨d,.binOp bo t x y yt,ty,pos,aft,g⟩ cx σ F l:=by
 have hx: ∀{vs env S w},(∀t'∈yx (.binOp bo t x y yt),Lk P vs env S w cx σ t')->ZO P vs env S w cx σ x:=fun hl=>yH hl (by simp[xaL]);have hy: ∀{vs env S w},(∀t'∈yx (.binOp bo t x y yt),Lk P vs env S w cx σ t')->ZO P vs env S w cx σ y:=fun hl=>yH hl (by simp[xaL]);cases bo<;>simp only[arI,reduceCtorEq]at h
 case add=>obtain⟨z,hz,hr,h⟩:=WJ h;exact⟨_,h,zC fun env w S vs hl=>⟨_,nh (xV ha (hx hl)).1 (xV hc (hy hl)).1 (S4 hz hr) w,zn (xJ hr)⟩⟩
 case sub=>obtain⟨z,hz,hr,h⟩:=WJ h;exact⟨_,h,zC fun env w S vs hl=>⟨_,P8 (xV ha (hx hl)).1 (xV hc (hy hl)).1 (S4 hz hr) w,zn (xJ hr)⟩⟩
 case mul=>obtain⟨z,hz,hr,h⟩:=WJ h;exact⟨_,h,zC fun env w S vs hl=>⟨_,zd5 (xV ha (hx hl)).1 (xV hc (hy hl)).1 (S4 hz hr) w,zn (xJ hr)⟩⟩
 case quo=>obtain⟨h0,h⟩:=kv h;obtain⟨z,hz,hr,h⟩:=WJ h;exact⟨_,h,zC fun env w S vs hl=>⟨_,zd2 (xV ha (hx hl)).1 (xV hc (hy hl)).1 h0 (S4 hz hr) w,zn (xJ hr)⟩⟩
 case rem=>obtain⟨h0,h⟩:=kv h;obtain⟨z,hz,h⟩:=xp h;exact⟨_,h,zC fun env w S vs hl=>⟨_,zdv (xV ha (hx hl)).1 (xV hc (hy hl)).1 h0 hz.symm w,zn (xJ (zf4 (xV ha (hx hl)).2 hz))⟩⟩
 case and=>obtain⟨z,hz,h⟩:=xp h;exact⟨_,h,zC fun env w S vs hl=>⟨_,zdQ (xV ha (hx hl)).1 (xV hc (hy hl)).1 (zbV.trans hz.symm) w,zn (xJ (zaH hz (zfn _ _)))⟩⟩
 case or=>obtain⟨z,hz,h⟩:=xp h;exact⟨_,h,zC fun env w S vs hl=>⟨_,zgu (xV ha (hx hl)).1 (xV hc (hy hl)).1 (zei.trans hz.symm) w,zn (xJ (zaH hz (zhf _ _)))⟩⟩
 case shr=>obtain⟨h0,h⟩:=kv h;obtain⟨z,hz,h⟩:=xp h;exact⟨_,h,zC fun env w S vs hl=>⟨_,o7 (xV ha (hx hl)).1 (xV hc (hy hl)).1 h0 hz.symm w,zn (xJ (SC (xV ha (hx hl)).2 hz))⟩⟩
 case shl=>obtain⟨h0,h⟩:=kv h;obtain⟨z,hz,hr,h⟩:=WJ h;exact⟨_,h,zC fun env w S vs hl=>⟨_,M3 (xV ha (hx hl)).1 (xV hc (hy hl)).1 h0 (S4 hz hr) w,zn (xJ hr)⟩⟩
 case lss=>exact⟨[(0,.kb (decide (a<c)))],GU h,zC fun env w S vs hl=>⟨_,Tr (xV ha (hx hl)).1 (xV hc (hy hl)).1 w,zn (by exact rfl)⟩⟩
 case leq=>exact⟨[(0,.kb (decide (a<=c)))],GU h,zC fun env w S vs hl=>⟨_,TD (xV ha (hx hl)).1 (xV hc (hy hl)).1 w,zn (by exact rfl)⟩⟩
 case gtr=>exact⟨[(0,.kb (decide (c<a)))],GU h,zC fun env w S vs hl=>⟨_,PA (xV ha (hx hl)).1 (xV hc (hy hl)).1 w,zn (by exact rfl)⟩⟩
 case geq=>exact⟨[(0,.kb (decide (c<=a)))],GU h,zC fun env w S vs hl=>⟨_,zaY (xV ha (hx hl)).1 (xV hc (hy hl)).1 w,zn (by exact rfl)⟩⟩
 case eql=>exact⟨[(0,.kb (decide (a=c)))],GU h,zC fun env w S vs hl=>⟨_,Rq (xV ha (hx hl)).1 (xV hc (hy hl)).1 w,zn (by exact rfl)⟩⟩
 case neq=>exact⟨[(0,.kb (!decide (a=c)))],kbN h,zC fun env w S vs hl=>⟨_,RE (xV ha (hx hl)).1 (xV hc (hy hl)).1 w,zn (by exact rfl)⟩⟩
theorem ziT{bo:BinOp}{a c:Nat}{k:List (Nat×Dv)->Option R}(h:(match bo with
 | .shr=>ND .shr a c (fun v=>k [(0,v)])
 | .shl=>ND .shl a c (fun v=>k [(0,v)])
 |bo=>arU bo a c (fun v=>k [(0,v)]))=some r) (ha:pd cx σ x=some ⟨.u,a⟩) (hc:pd cx σ y=some ⟨.u,c⟩):
 ∃l,k l=some r/\ES P ⟨d,.binOp bo t x y yt,ty,pos,aft,g⟩ cx σ F l:=by
 have hx: ∀{vs env S w},(∀t'∈yx (.binOp bo t x y yt),Lk P vs env S w cx σ t')->ZO P vs env S w cx σ x:=fun hl=>yH hl (by simp[xaL]);have hy: ∀{vs env S w},(∀t'∈yx (.binOp bo t x y yt),Lk P vs env S w cx σ t')->ZO P vs env S w cx σ y:=fun hl=>yH hl (by simp[xaL]);split at h
 ·simp only[ND]at h;obtain⟨z,hz,h⟩:=xp h;exact⟨_,h,zC fun env w S vs hl=>⟨_,o7 (xE ha (hx hl)).1 (xE hc (hy hl)).1 (xdb _) (Nu hz dh) w,zn (qA (nT (xE ha (hx hl)).2 hz))⟩⟩
 ·simp only[ND]at h;obtain⟨z,hz,h⟩:=xp h;exact⟨_,h,zC fun env w S vs hl=>⟨_,M3 (xE ha (hx hl)).1 (xE hc (hy hl)).1 (xdb _) (a7 hz LF) w,zn (qA (Y4 hz))⟩⟩
 ·next hb hd=>
  cases bo<;>simp only[arU,reduceCtorEq]at h
  case add=>obtain⟨z,hz,h⟩:=xp h;exact⟨_,h,zC fun env w S vs hl=>⟨_,nh (xE ha (hx hl)).1 (xE hc (hy hl)).1 (a7 hz zc6) w,zn (qA (Y4 hz))⟩⟩
  case sub=>obtain⟨z,hz,h⟩:=xp h;exact⟨_,h,zC fun env w S vs hl=>⟨_,P8 (xE ha (hx hl)).1 (xE hc (hy hl)).1 (a7 hz (zcF (xcO (xE hc (hy hl)).2))) w,zn (qA (Y4 hz))⟩⟩
  case mul=>obtain⟨z,hz,h⟩:=xp h;exact⟨_,h,zC fun env w S vs hl=>⟨_,zd5 (xE ha (hx hl)).1 (xE hc (hy hl)).1 (a7 hz zcl) w,zn (qA (Y4 hz))⟩⟩
  case quo=>obtain⟨h0,h⟩:=kv h;obtain⟨z,hz,h⟩:=xp h;exact⟨_,h,zC fun env w S vs hl=>⟨_,zd2 (xE ha (hx hl)).1 (xE hc (hy hl)).1 (zg1 h0) (a7 hz (N8 (xE ha (hx hl)).2)) w,zn (qA (nT (xE ha (hx hl)).2 hz))⟩⟩
  case rem=>obtain⟨h0,h⟩:=kv h;obtain⟨z,hz,h⟩:=xp h;exact⟨_,h,zC fun env w S vs hl=>⟨_,zdv (xE ha (hx hl)).1 (xE hc (hy hl)).1 (zg1 h0) (Nu hz zgJ) w,zn (qA (zeN (xE ha (hx hl)).2 hz))⟩⟩
  case and=>obtain⟨z,hz,h⟩:=xp h;exact⟨_,h,zC fun env w S vs hl=>⟨_,zdQ (xE ha (hx hl)).1 (xE hc (hy hl)).1 (a7 hz (zcM (xE ha (hx hl)).2 (xE hc (hy hl)).2)) w,zn (qA (zeL hz (b5 (xE ha (hx hl)).2)))⟩⟩
  case or=>obtain⟨z,hz,h⟩:=xp h;exact⟨_,h,zC fun env w S vs hl=>⟨_,zgu (xE ha (hx hl)).1 (xE hc (hy hl)).1 (a7 hz (zfV (xE ha (hx hl)).2 (xE hc (hy hl)).2)) w,zn (qA (zeL hz (lJ (xE ha (hx hl)).2 (xE hc (hy hl)).2)))⟩⟩
  case lss=>exact⟨[(0,.kb (decide ((a:Int)<(c:Int))))],GU h,zC fun env w S vs hl=>⟨_,Tr (xE ha (hx hl)).1 (xE hc (hy hl)).1 w,zn (by exact rfl)⟩⟩
  case leq=>exact⟨[(0,.kb (decide ((a:Int)<=(c:Int))))],GU h,zC fun env w S vs hl=>⟨_,TD (xE ha (hx hl)).1 (xE hc (hy hl)).1 w,zn (by exact rfl)⟩⟩
  case gtr=>exact⟨[(0,.kb (decide ((c:Int)<(a:Int))))],GU h,zC fun env w S vs hl=>⟨_,PA (xE ha (hx hl)).1 (xE hc (hy hl)).1 w,zn (by exact rfl)⟩⟩
  case geq=>exact⟨[(0,.kb (decide ((c:Int)<=(a:Int))))],GU h,zC fun env w S vs hl=>⟨_,zaY (xE ha (hx hl)).1 (xE hc (hy hl)).1 w,zn (by exact rfl)⟩⟩
  case eql=>exact⟨[(0,.kb (decide ((a:Int)=(c:Int))))],GU h,zC fun env w S vs hl=>⟨_,Rq (xE ha (hx hl)).1 (xE hc (hy hl)).1 w,zn (by exact rfl)⟩⟩
  case neq=>exact⟨[(0,.kb (!decide ((a:Int)=(c:Int))))],kbN h,zC fun env w S vs hl=>⟨_,RE (xE ha (hx hl)).1 (xE hc (hy hl)).1 w,zn (by exact rfl)⟩⟩
theorem ziC{bo:BinOp}{a:Nat}{c:Int}{k:List (Nat×Dv)->Option R}(h:shU bo a c (fun v=>k [(0,v)])=some r)(ha:pd cx σ x=some ⟨.u,a⟩)(hc:pd cx σ y=some ⟨.i,c⟩):
 ∃l,k l=some r/\ES P ⟨d,.binOp bo t x y yt,ty,pos,aft,g⟩ cx σ F l:=by
 have hx: ∀{vs env S w},(∀t'∈yx (.binOp bo t x y yt),Lk P vs env S w cx σ t')->ZO P vs env S w cx σ x:=fun hl=>yH hl (by simp[xaL]);have hy: ∀{vs env S w},(∀t'∈yx (.binOp bo t x y yt),Lk P vs env S w cx σ t')->ZO P vs env S w cx σ y:=fun hl=>yH hl (by simp[xaL]);unfold shU at h;split at h
 ·obtain⟨h0,h⟩:=kv h;obtain⟨z,hz,h⟩:=xp h;exact⟨_,h,zC fun env w S vs hl=>⟨_,o7 (xE ha (hx hl)).1 (xV hc (hy hl)).1 h0 (Nu hz dh) w,zn (qA (nT (xE ha (hx hl)).2 hz))⟩⟩
 ·obtain⟨h0,h⟩:=kv h;obtain⟨z,hz,h⟩:=xp h;exact⟨_,h,zC fun env w S vs hl=>⟨_,M3 (xE ha (hx hl)).1 (xV hc (hy hl)).1 h0 (a7 hz LF) w,zn (qA (Y4 hz))⟩⟩
 ·cases h
theorem ziD{bo:BinOp}{a:Int}{c:Nat}{k:List (Nat×Dv)->Option R}(h:shI bo a c (fun v=>k [(0,v)])=some r)(ha:pd cx σ x=some ⟨.i,a⟩)(hc:pd cx σ y=some ⟨.u,c⟩):
 ∃l,k l=some r/\ES P ⟨d,.binOp bo t x y yt,ty,pos,aft,g⟩ cx σ F l:=by
 have hx: ∀{vs env S w},(∀t'∈yx (.binOp bo t x y yt),Lk P vs env S w cx σ t')->ZO P vs env S w cx σ x:=fun hl=>yH hl (by simp[xaL]);have hy: ∀{vs env S w},(∀t'∈yx (.binOp bo t x y yt),Lk P vs env S w cx σ t')->ZO P vs env S w cx σ y:=fun hl=>yH hl (by simp[xaL]);unfold shI at h;split at h
 ·obtain⟨z,hz,h⟩:=xp h;exact⟨_,h,zC fun env w S vs hl=>⟨_,o7 (xV ha (hx hl)).1 (xE hc (hy hl)).1 (xdb _) hz.symm w,zn (xJ (SC (xV ha (hx hl)).2 hz))⟩⟩
 ·obtain⟨z,hz,hr,h⟩:=WJ h;exact⟨_,h,zC fun env w S vs hl=>⟨_,M3 (xV ha (hx hl)).1 (xE hc (hy hl)).1 (xdb _) (S4 hz hr) w,zn (xJ hr)⟩⟩
 ·cases h
theorem zjk{bo:BinOp}{a c:Bool}{tb:Bool}{k:List (Nat×Dv)->Option R}(h:km tb (eqB bo a c (fun v=>k [(0,v)]))=some r)(ha:pd cx σ x=some ⟨.b,a⟩)(hc:pd cx σ y=some ⟨.b,c⟩)(hb:tb=true->P.underlying t=some .bool):
 ∃l,k l=some r/\ES P ⟨d,.binOp bo t x y yt,ty,pos,aft,g⟩ cx σ F l:=by
 have hx: ∀{vs env S w},(∀t'∈yx (.binOp bo t x y yt),Lk P vs env S w cx σ t')->ZO P vs env S w cx σ x:=fun hl=>yH hl (by simp[xaL]);have hy: ∀{vs env S w},(∀t'∈yx (.binOp bo t x y yt),Lk P vs env S w cx σ t')->ZO P vs env S w cx σ y:=fun hl=>yH hl (by simp[xaL]);obtain⟨hd,h⟩:=yi h;unfold eqB at h;split at h
 ·obtain⟨z,hz,h⟩:=xp h;exact⟨_,h,zC fun env w S vs hl=>⟨_,Tm (zhy (hb hd) (zcU ha (hx hl)) (zcU hc (hy hl))) hz w,zn lL⟩⟩
 ·obtain⟨z,hz,h⟩:=xp h;exact⟨_,h,zC fun env w S vs hl=>⟨_,Tm (zhT (hb hd) (zcU ha (hx hl)) (zcU hc (hy hl))) hz w,zn lL⟩⟩
 ·cases h
theorem Bf(x:Int):xfQ.wrap x=x % 256:=by
 simp[xfM,xeq,xdR]
theorem zfi{a b:Nat}:xfQ.wrap ((a:Int)+(b:Int))=(((a+b) % 256:Nat):Int):=by rw[Bf];omega
theorem ze6{a b:Nat}(h:b<=256):xfQ.wrap ((a:Int)-(b:Int))=(((a+256-b) % 256:Nat):Int):=by rw[Bf];omega
theorem SX{n z:Nat}(h:z=n % 256):z<256:=by rw[h];exact xbq _ (by decide)
theorem zi4{bo:BinOp}{a c:Nat}{k:List (Nat×Dv)->Option R}(h:arC bo a c (fun v=>k [(0,v)])=some r)(ha:pd cx σ x=some ⟨.ch,a⟩)(hc:pd cx σ y=some ⟨.ch,c⟩):
 ∃l,k l=some r/\ES P ⟨d,.binOp bo t x y yt,ty,pos,aft,g⟩ cx σ F l:=by
 have hx: ∀{vs env S w},(∀t'∈yx (.binOp bo t x y yt),Lk P vs env S w cx σ t')->ZO P vs env S w cx σ x:=fun hl=>yH hl (by simp[xaL]);have hy: ∀{vs env S w},(∀t'∈yx (.binOp bo t x y yt),Lk P vs env S w cx σ t')->ZO P vs env S w cx σ y:=fun hl=>yH hl (by simp[xaL]);cases bo<;>simp only[arC,reduceCtorEq]at h
 case add=>obtain⟨z,hz,h⟩:=xp h;exact⟨_,h,zC fun env w S vs hl=>⟨_,nh (YW ha (hx hl)).1 (YW hc (hy hl)).1 (a7 hz zfi) w,zn (Ar (SX hz))⟩⟩
 case sub=>obtain⟨z,hz,h⟩:=xp h;exact⟨_,h,zC fun env w S vs hl=>⟨_,P8 (YW ha (hx hl)).1 (YW hc (hy hl)).1 (a7 hz (ze6 (xcO (YW hc (hy hl)).2))) w,zn (Ar (SX hz))⟩⟩
 case lss=>exact⟨[(0,.kb (decide ((a:Int)<(c:Int))))],GU h,zC fun env w S vs hl=>⟨_,Tr (YW ha (hx hl)).1 (YW hc (hy hl)).1 w,zn (by exact rfl)⟩⟩
 case leq=>exact⟨[(0,.kb (decide ((a:Int)<=(c:Int))))],GU h,zC fun env w S vs hl=>⟨_,TD (YW ha (hx hl)).1 (YW hc (hy hl)).1 w,zn (by exact rfl)⟩⟩
 case gtr=>exact⟨[(0,.kb (decide ((c:Int)<(a:Int))))],GU h,zC fun env w S vs hl=>⟨_,PA (YW ha (hx hl)).1 (YW hc (hy hl)).1 w,zn (by exact rfl)⟩⟩
 case geq=>exact⟨[(0,.kb (decide ((c:Int)<=(a:Int))))],GU h,zC fun env w S vs hl=>⟨_,zaY (YW ha (hx hl)).1 (YW hc (hy hl)).1 w,zn (by exact rfl)⟩⟩
 case eql=>exact⟨[(0,.kb (decide ((a:Int)=(c:Int))))],GU h,zC fun env w S vs hl=>⟨_,Rq (YW ha (hx hl)).1 (YW hc (hy hl)).1 w,zn (by exact rfl)⟩⟩
 case neq=>exact⟨[(0,.kb (!decide ((a:Int)=(c:Int))))],kbN h,zC fun env w S vs hl=>⟨_,RE (YW ha (hx hl)).1 (YW hc (hy hl)).1 w,zn (by exact rfl)⟩⟩
theorem Aj{s u:ByteArray}:(s.toList==u.toList)=decide (yM s=yM u):=by
 rw[ByteArray.toList_eq,ByteArray.toList_eq];unfold yM;by_cases h:s.data.toList=u.data.toList
 ·rw[h];simp
 ·have h2: ¬s.data.toList.map xfj=u.data.toList.map xfj:=fun e=>h (List.map_inj_right (fun x y=>UInt8.toNat_inj.1)|>.1 e);rw[decide_eq_false h2];simpa using h
theorem n5(s u:ByteArray):yM (s++u)=yM s++yM u:=by
 unfold yM;simp
theorem RN{s u:ByteArray}(h:(yM s).length+(yM u).length<=9223372036854775807)(w:World):(Op.stringOp .add s u).run P w= .ok (.string (s++u)) w:=by
 rw[vX,vX]at h;have h5: ¬(((s.size+u.size:Nat):Int)>xcU.max):=by
  have:xcU.max=9223372036854775807:=rfl;omega
 unfold Op.stringOp;simp only;rw[ir h5,xaE]
theorem zgT{bo:BinOp}{a c:List Nat}{k:List (Nat×Dv)->Option R}(h:eqT bo a c (fun v=>k [(0,v)])=some r)(ha:pd cx σ x=some ⟨.tx,a⟩)(hc:pd cx σ y=some ⟨.tx,c⟩):
 ∃l,k l=some r/\ES P ⟨d,.binOp bo t x y yt,ty,pos,aft,g⟩ cx σ F l:=by
 have hx: ∀{vs env S w},(∀t'∈yx (.binOp bo t x y yt),Lk P vs env S w cx σ t')->ZO P vs env S w cx σ x:=fun hl=>yH hl (by simp[xaL]);have hy: ∀{vs env S w},(∀t'∈yx (.binOp bo t x y yt),Lk P vs env S w cx σ t')->ZO P vs env S w cx σ y:=fun hl=>yH hl (by simp[xaL]);cases bo<;>simp only[eqT,reduceCtorEq]at h
 case add=>
  obtain⟨h0,h⟩:=kv h;obtain⟨z,hz,h⟩:=xp h;refine⟨_,h,zC fun env w S vs hl=> ?_⟩;obtain⟨s,e1,e2,_⟩:=NT ha (hx hl);obtain⟨u,e3,e4,_⟩:=NT hc (hy hl);have h6:(yM s).length+(yM u).length<=9223372036854775807:=by rw[e2,e4];exact h0
  refine⟨.string (s++u),?_,zn (EE (by rw[n5,e2,e4];exact hz.symm) (by rw[<-vX,n5,xau];exact h6))⟩;simp[execOp,e1,e3,eqGuard,binOp_string_add,RN (P:=P) h6 w]
 case eql=>
  refine⟨[(0,.kb (decide (a=c)))],GU h,zC fun env w S vs hl=> ?_⟩;obtain⟨s,e1,e2,_⟩:=NT ha (hx hl);obtain⟨u,e3,e4,_⟩:=NT hc (hy hl);refine⟨.bool (decide (a=c)),?_,zn (by exact rfl)⟩;rw[<-e2,<-e4,<-Aj];simp[execOp,e1,e3,eqGuard,binOp_string_eql]
 case neq=>
  refine⟨[(0,.kb (!decide (a=c)))],kbN h,zC fun env w S vs hl=> ?_⟩;obtain⟨s,e1,e2,_⟩:=NT ha (hx hl);obtain⟨u,e3,e4,_⟩:=NT hc (hy hl);refine⟨.bool (!decide (a=c)),?_,zn (by exact rfl)⟩;rw[<-e2,<-e4,<-Aj];simp[execOp,e1,e3,eqGuard,binOp_string_neq]
theorem bop{tb:Bool}{bo:BinOp}{k:List (Nat×Dv)->Option R}(h:zec tb bo (pd cx σ x) (pd cx σ y) (fun v=>k [(0,v)])=some r)(hb:tb=true->P.underlying t=some .bool):
 ∃l,k l=some r/\ES P ⟨d,.binOp bo t x y yt,ty,pos,aft,g⟩ cx σ F l:=by
 unfold zec at h;split at h
 ·next a c ha hc=>exact ziE h ha hc
 ·next a c ha hc=>exact ziT h ha hc
 ·next a c ha hc=>exact ziC h ha hc
 ·next a c ha hc=>exact ziD h ha hc
 ·next a c ha hc=>exact zjk h ha hc hb
 ·next a c ha hc=>exact zi4 h ha hc
 ·next a c ha hc=>exact zgT h ha hc
 ·cases h
end
end
section
section
variable{P:Program}{cf:Cf}{cx σ:Sg}{F:List MF}{vs:Nat->Value}{env:yP}{S:Nat->Prop}{w:World}{R:Type}{r:R}
 {d:Option Tmp} {ty t yt:TypeId} {pos:String} {aft:Array Edge} {g:Option (Nat×Bool)} {x y:Operand}
theorem W1{s:TypeId}{q:Ty}{k:IntKind}{B:Nat}(hT:zT P cf.tt)(h:ZV cf s=some ⟨q,.int k,B⟩):P.underlying s=some (.int k):=(hT _ _ h).2.2.2
theorem ve{s E:TypeId}{q:Ty}{B:Nat}(hT:zT P cf.tt)(h:ZV cf s=some ⟨q,.sl E,B⟩):P.underlying s=some (.slice E):=(hT _ _ h).2.2.2.1
theorem AQ{s:TypeId}{q:Ty}{B:Nat}(hT:zT P cf.tt)(h:ZV cf s=some ⟨q,.str,B⟩):P.underlying s=some .string:=(hT _ _ h).2.2.2
theorem zbq(hT:zT P cf.tt):isB cf t=true->P.underlying t=some .bool:=by
 intro h;unfold isB at h;split at h
 ·next q B hu=>exact(hT _ _ hu).2.2.2
 ·cases h
theorem VH{s E:TypeId}{e:Ty}{B:Nat}(hT:zT P cf.tt)(hL:jE P cf.tt)(h:ZV cf s=some ⟨.l e,.sl E,B⟩): ∃bytes zero,XG P E e.rep.agg e.rep.n bytes zero:=by
 obtain⟨ti,h1,rfl⟩:=hL _ _ _ _ h;obtain⟨⟨zero,h2,_⟩,_⟩:=hT _ _ h1;exact⟨_,_,h2⟩
theorem WY{ti:TI}(hT:zT P cf.tt)(h:ZV cf t=some ti): ∃zero,XG P t ti.ty.rep.agg ti.ty.rep.n ti.B zero/\zero.cells.size=ti.ty.rep.n/\ ∀S w,ti.ty.rep.p S ti.ty.z zero.cells.toList w:=by
 obtain⟨zero,h1,h2,h3,_⟩:=(hT _ _ h).1;exact⟨zero,h1,h2,h3⟩
theorem Hq{ti:TI}{s:Ty}(hT:zT P cf.tt)(h:ZV cf t=some ti)(hs:ti.ty= .l s):XG P t false 1 ti.B (.slice none 0 0):=by
 obtain⟨zero,h1,_,_,h4⟩:=(hT _ _ h).1;rw[h4 s hs,hs]at h1;exact h1
theorem zgv{a:Nat}(h:a<256):VW (a:Int):=by unfold VW;omega
theorem zgY{a:Nat}(h:a<256):a<18446744073709551616:=by omega
theorem ziY{a:Nat}(h:a<256):xfQ.wrap (a:Int)=(a:Int):=by rw[Bf];omega
theorem u_c{a:Nat}:xfQ.wrap (a:Int)=((a % 256:Nat):Int):=by rw[Bf];omega
theorem Fi{S:Nat->Prop}{w:World}: ∀{xs:List Nat} {cs:List Value},yu eCh S xs cs w->cs=xs.map (fun x:Nat=>Value.int .u8 (x:Int))/\ ∀x∈xs,x<256
 |[],cs,h=>⟨h,fun x hx=>absurd hx xaa⟩
 |x::xs,cs,⟨c,r,h1,h2,h3⟩=>by
  obtain⟨e1,e2⟩:=Fi h3;obtain⟨e3,e4⟩:=h2;refine⟨by rw[h1,e3,e1];rfl,fun y hy=> ?_⟩;rcases xae.1 hy with rfl|hy
  ·exact e4
  ·exact e2 y hy
theorem zew{s t E:TypeId}{xs:List Nat}{v:Value}{S:Nat->Prop}{w:World}(hs:P.underlying s=some (.slice E))(hE:P.underlying E=some (.int .u8))(ht:P.underlying t=some .string)(hv:(fV (eS eCh) xs v).p S w):
 ∃u:ByteArray,(convert s t v).run P w= .ok (.string u) w/\yM u=xs/\u.size<=9223372036854775807:=by
 obtain⟨ao,cap,rfl,hg,hb,h⟩:=xm.1 hv;have key: ∀a,ao=some a->(∀x∈xs,x<256)->(∀j (hj:j<xs.length),w.cell? (a.add j)=some (.int .u8 ((xs[j]:Nat):Int)))-> ∃u:ByteArray,(convert s t (.slice ao xs.length cap)).run P w= .ok (.string u) w/\yM u=xs/\u.size<=9223372036854775807:=by
  rintro a rfl hx hj;have hm:(xs.map xeP).map xfj=xs:=by
   rw[xcP];conv=>rhs;rw[<-List.map_id xs]
   exact xbO fun x hc=>UInt8.toNat_ofNat_of_lt' (hx x hc)
  have hr:=run_convert_bytes_back (P:=P) w s t E a cap (xs.map xeP) hs hE ht (fun j hd=>by
   have ha:j<xs.length:=by simpa using hd
   rw[hj j ha,xfz,UInt8.toNat_ofNat_of_lt' (hx _ (xbh ha))])
  rw[xaN]at hr;refine⟨_,hr,by unfold yM;simpa using hm,?_⟩;rw[<-vX];unfold yM;rw[xaN];simp;unfold maxLen at hb;omega
 rcases h with rfl|⟨b,o,cs,rfl,_,he,hf⟩
 ·cases ao with
  |some a=>exact key a rfl (fun x hx=>absurd hx xaa) (fun j hj=>absurd hj (xbv _))
  |none=>
   refine⟨ByteArray.empty,?_,rfl,by decide⟩;rw[run_convert_bytes_string w s t E none _ cap hs hE ht];rfl
 ·obtain⟨e1,e2⟩:=Fi hf;refine key _ rfl e2 fun j hj=> ?_;have:=he.2 j (.int .u8 ((xs[j]:Nat):Int)) (by rw[e1,xaB,IR hj];rfl);rw[vP];exact this
theorem zhD(hT:zT P cf.tt){s t:TypeId}{k:List (Nat×Dv)->Option R}(h:zfd cf cx σ s t x k=some r): ∃l,k l=some r/\ES P ⟨d,.convert s t x,ty,pos,aft,g⟩ cx σ F l:=by
 have hx: ∀{vs env S w},(∀t'∈yx (.convert s t x),Lk P vs env S w cx σ t')->ZO P vs env S w cx σ x:=fun hl=>yH hl (by simp[xaL]);unfold zfd at h;split at h
 ·next q k1 B ti hs ht=>
  have hb:=W1 hT hs;obtain⟨tty,tk,tB⟩:=ti;unfold zha at h;split at h
  ·next a hk ha=>
   simp only at hk;subst hk;exact⟨_,h,zC fun env w S vs hl=>⟨_,Xe hb (W1 hT ht) (xV ha (hx hl)).1 (w64 (xV ha (hx hl)).2) w,zn (xJ (xV ha (hx hl)).2)⟩⟩
  ·next a hk ha=>
   simp only at hk;subst hk;exact⟨_,h,zC fun env w S vs hl=>⟨_,Xe hb (W1 hT ht) (xE ha (hx hl)).1 (cH (xE ha (hx hl)).2) w,zn (qA (xE ha (hx hl)).2)⟩⟩
  ·next a hk ha=>
   simp only at hk;subst hk;obtain⟨z,hz,h⟩:=xp h;exact⟨_,h,zC fun env w S vs hl=>⟨_,Xe hb (W1 hT ht) (xV ha (hx hl)).1 (a7 hz (Sa _)) w,zn (qA (zeL hz (gL _)))⟩⟩
  ·next a hk ha=>
   simp only at hk;subst hk;obtain⟨z,hz,h⟩:=xp h;exact⟨_,h,zC fun env w S vs hl=>⟨_,Xe hb (W1 hT ht) (xE ha (hx hl)).1 ((nk (xE ha (hx hl)).2).trans hz.symm) w,zn (xJ (zaH hz (SM (xE ha (hx hl)).2)))⟩⟩
  ·next a hk ha=>
   simp only at hk;subst hk;exact⟨_,h,zC fun env w S vs hl=>⟨_,Xe hb (W1 hT ht) (YW ha (hx hl)).1 (w64 (zgv (YW ha (hx hl)).2)) w,zn (xJ (zgv (YW ha (hx hl)).2))⟩⟩
  ·next a hk ha=>
   simp only at hk;subst hk;exact⟨_,h,zC fun env w S vs hl=>⟨_,Xe hb (W1 hT ht) (YW ha (hx hl)).1 (cH (zgY (YW ha (hx hl)).2)) w,zn (qA (zgY (YW ha (hx hl)).2))⟩⟩
  ·next a hk ha=>
   simp only at hk;subst hk;exact⟨_,h,zC fun env w S vs hl=>⟨_,Xe hb (W1 hT ht) (YW ha (hx hl)).1 (ziY (YW ha (hx hl)).2) w,zn (Ar (YW ha (hx hl)).2)⟩⟩
  ·next a hk ha=>
   simp only at hk;subst hk;unfold chU at h;obtain⟨z,hz,h⟩:=xp h;exact⟨_,h,zC fun env w S vs hl=>⟨_,Xe hb (W1 hT ht) (xE ha (hx hl)).1 (a7 hz u_c) w,zn (Ar (SX hz))⟩⟩
  ·cases h
 ·next E B q B' hs ht=>
  split at h
  ·next q' B'' hE=>
   obtain⟨xs,h,hc⟩:=XO h;refine⟨_,h,zC fun env w S vs hl=> ?_⟩;obtain⟨u,h1,h2,h3⟩:=zew (ve hT hs) (W1 hT hE) (AQ hT ht) (hc P vs env S w (hx hl));exact⟨.string u,by simp[execOp,h1],zn (EE h2 h3)⟩
  ·cases h
 ·cases h
theorem DH{n:Nat}{k:Nat->Option R}(h:OV cx σ x n k=some r): ∃j,j<n/\k j=some r/\ ∀(P:Program) vs env S w,ZO P vs env S w cx σ x-> ∃ik,ev env x= .int ik (j:Int):=by
 unfold OV at h;split at h
 ·next j hj=>
  obtain⟨i,h1,h2,h⟩:=zdX h;exact⟨i,h2,h,fun P vs env S w hl=>⟨.i64,by rw[(xV hj hl).1,h1]⟩⟩
 ·next j hj=>
  obtain⟨i,h1,h2,h⟩:=zdX h;exact⟨i,h2,h,fun P vs env S w hl=>⟨.u64,by rw[(xE hj hl).1,h1]⟩⟩
 ·cases h
theorem QD{x:Option Operand}{k:Option Nat->Option R}(h:Eu cx σ x k=some r):
 (x=none/\k none=some r)\/ ∃y j,x=some y/\k (some j)=some r/\ ∀(P:Program) vs env S w,ZO P vs env S w cx σ y->ev env y= .int .i64 (j:Int):=by
 unfold Eu at h;split at h
 ·exact .inl ⟨rfl,h⟩
 ·next y=>
  split at h
  ·next j hj=>
   obtain⟨i,h1,h⟩:=MU h;exact .inr ⟨y,i,rfl,h,fun P vs env S w hl=>by rw[(xV hj hl).1,h1]⟩
  ·cases h
theorem QB{α:Type}{e:zX α}{E:TypeId}{xs:List α}{v:Value}(h:(mO e E v xs).p S w)(h0:0<xs.length):
 ∃b cap,v= .slice (some ⟨b,0,none⟩) xs.length cap/\(mB (rowT e cap) E b xs).p S w:=by
 obtain⟨cs,h1,h2⟩:=h;rcases h1.2 with⟨rfl,h3⟩|⟨g,cap,cur,rfl,hc,hg,hd,he,ha,hb⟩
 ·omega
 ·exact⟨g,cap,rfl,cur,hg,cs,cur.toList.drop (xs.length*e.n),by rw[<-hb,xbK],h2,by simpa using ha⟩
theorem SL{s E:TypeId}{q:Ty}{n B:Nat}(hT:zT P cf.tt)(h:ZV cf s=some ⟨q,.ar n E,B⟩):P.underlying s=some (.array n E):=(hT _ _ h).2.2.2.2
theorem S9{E:TypeId}{e:Ty}(hT:zT P cf.tt)(h:elA cf E e=true): ∃bytes zero,XG P E e.rep.agg e.rep.n bytes zero:=by
 unfold elA at h;split at h
 ·next ti ht=>
  cases hs:Ty.same ti.ty e with
  |none=>rw[hs]at h;cases h
  |some p=>
   obtain⟨zero,h2,_⟩:=WY hT ht;rw[p.down]at h2;exact⟨_,_,h2⟩
 ·cases h
theorem zfR{n j:Nat}{e:Ty}(hj:j<n):Fl.ok (.a n e) (zhN n e j):=by
 intro z S w cs hp;have ha:xaG z=n/\yu e.rep S z cs w:=hp;have:=Sub.nth n e.rep z j (xek z j e.z) (getD_some e.z (ha.1▸hj)) S w cs hp;rw[e.n_rep]at this;exact this
theorem zc8(hT:zT P cf.tt)(hL:jE P cf.tt){k:List (Nat×Dv)->Option R}(h:Hn cf cx σ t x y k=some r): ∃l,k l=some r/\ES P ⟨d,.indexAddr t x y,ty,pos,aft,g⟩ cx σ F l:=by
 have hx: ∀{vs env S w},(∀t'∈yx (.indexAddr t x y),Lk P vs env S w cx σ t')->ZO P vs env S w cx σ x:=fun hl=>yH hl (by simp[xaL]);have hy: ∀{vs env S w},(∀t'∈yx (.indexAddr t x y),Lk P vs env S w cx σ t')->ZO P vs env S w cx σ y:=fun hl=>yH hl (by simp[xaL]);unfold Hn at h;split at h
 ·next e E B s xs ht ha=>
  obtain⟨he,h⟩:=ym h;cases he;obtain⟨bytes,zero,hb⟩:=VH hT hL ht;obtain⟨j,hj,h,hc⟩:=DH h;obtain⟨z,hz,h⟩:=xp h;refine⟨_,h,jM fun env w S vs hM hl=> ?_⟩;obtain⟨ik,hd⟩:=hc P vs env S w (hy hl);exact⟨_,_,_,_,[fV (eS e.rep) xs (ev env x)],[],SK (e:=e.rep) (xs:=xs) (k:=j) (y:=z) rfl hd (ve hT ht) hb (zhc hj hz) (fun S w h=>h.1),trivial,⟨zk ha (hx hl),trivial⟩,fun u w' _ hf=>zn hf.1⟩
 ·next e E B o ht ha=>
  split at h
  ·next s E' xs ho=>
   obtain⟨he,h⟩:=ym h;cases he;obtain⟨bytes,zero,hb⟩:=VH hT hL ht;obtain⟨j,hj,h,hc⟩:=DH h;refine⟨_,h,?_⟩;intro env w S vs hS hM hl;obtain⟨ik,hd⟩:=hc P vs env S w (hy hl);have hm:(mO e.rep E' (vs o) xs).p S w:=uH hM ho;obtain⟨b,cap,hv,_⟩:=QB hm (xbd (xaj _) hj);have hk:ev env x=vs o:=zk ha (hx hl);refine kh.of_value (lP (ve hT ht) hb (hk.trans hv) hd hj w) ⟨yp.refl _ _,zn ?_⟩;exact⟨fun z=>Sub.self e.rep z,b,_,_,hv,hj,by simp[Fl.self]⟩
  ·cases h
 ·next q n' E B n e xs ht ha=>
  obtain⟨hg,h⟩:=yi h;rw[xam]at hg;have hn:=ya hg.1;subst hn;obtain⟨bytes,zero,hb⟩:=S9 hT hg.2;obtain⟨j,hj,h,hc⟩:=DH h;obtain⟨z,hz,h⟩:=xp h;refine⟨_,h,jM fun env w S vs hM hl=> ?_⟩;obtain⟨ik,hd⟩:=hc P vs env S w (hy hl);have hp:(fP (Ty.a n' e).rep xs (ev env x)).p S w:=zk ha (hx hl);obtain⟨_,_,_,_,_,_,hi,_⟩:=id hp;exact⟨_,_,_,_,[fP (Ty.a n' e).rep xs (ev env x)],[],NU (e:=(Ty.a n' e).rep) (f:=e.rep) (z:=xs) (z':=z) (SL hT ht) hb rfl hd hj (Sub.nth n' e.rep xs j z (zhc (hi▸hj) hz)) (fun S w h=>h.1),trivial,⟨hp,trivial⟩,fun u w' _ hf=>zn hf.1⟩
 ·next q n' E B o n e ht ha=>
  obtain⟨hg,h⟩:=yi h;rw[xam]at hg;have hn:=ya hg.1;subst hn;obtain⟨bytes,zero,hb⟩:=S9 hT hg.2;obtain⟨j,hj,h,hc⟩:=DH h;refine⟨_,h,zC fun env w S vs hl=> ?_⟩;obtain⟨ik,hd⟩:=hc P vs env S w (hy hl);obtain⟨h1,b,h2⟩:=zk ha (hx hl);exact⟨_,FV (SL hT ht) hb (h1.trans h2) hd hj w,zn ⟨zfR hj,b,h2,by rw[e.n_rep];rfl⟩⟩
 ·cases h
theorem aI: ∀{k:Nat} {t:Ty} {i:Nat} {f:Fl t.D},Qw k t i=some f->Fl.ok t f
 |0,_,_,_,h=>by simp[Qw]at h
 |1,t,i,f,h=>by
  unfold Qw at h;cases hb:xan i 0<;>rw[hb]at h
  ·cases h
  ·simp only[cond_true,xaw]at h;subst h;exact fun z=>Sub.self t.rep z
 |k+2,.p s t,0,f,h=>by
  simp only[Qw,xaw]at h;subst h;exact fun z=>Sub.fst s.rep t.rep z
 |k+2,.p s t,i+1,f,h=>by
  simp only[Qw]at h;split at h
  ·next f' hf=>
   simp only[xaw]at h;subst h;intro z;have:=(Sub.snd s.rep t.rep z).comp (aI hf z.2);rw[s.n_rep]at this;exact this
  ·cases h
 |k+2,.i,i,f,h=>by simp[Qw]at h
 |k+2,.u,i,f,h=>by simp[Qw]at h
 |k+2,.b,i,f,h=>by simp[Qw]at h
 |k+2,.l _,i,f,h=>by simp[Qw]at h
 |k+2,.a _ _,i,f,h=>by simp[Qw]at h
theorem MW{t:Ty}{a:Fl t.D}{c:Fl a.f.D}(ha:Fl.ok t a)(hc:Fl.ok a.f c):Fl.ok t (a.comp c):=fun z=>(ha z).comp (hc (a.get z))
theorem LL{s:TypeId}{q:Ty}{n B i:Nat}{f:Fl q.D}(hT:zT P cf.tt)(h:ZV cf s=some ⟨q,.st n,B⟩)(hf:Qw n q i=some f):Hy P s i=some f.off:=(hT _ _ h).2.2.2.2.1 i f hf
theorem zbC(hT:zT P cf.tt){i:Nat}{k:List (Nat×Dv)->Option R}(h:Hs cf cx σ t x i k=some r): ∃l,k l=some r/\ES P ⟨d,.fieldAddr t x i,ty,pos,aft,g⟩ cx σ F l:=by
 have hx: ∀{vs env S w},(∀t'∈yx (.fieldAddr t x i),Lk P vs env S w cx σ t')->ZO P vs env S w cx σ x:=fun hl=>yH hl (by simp[xaL]);unfold Hs at h;split at h
 ·next e n B s y ht hb=>
  obtain⟨ha,h⟩:=ym h;subst ha;split at h
  ·next f hf=>
   exact⟨_,h,jM fun env w S vs hM hl=>⟨_,_,_,_,[fP s.rep y (ev env x)],[],zaZ (e:=s.rep) (z:=y) (LL hT ht hf) rfl (aI hf y) (fun S w h=>h.1),trivial,⟨zk hb (hx hl),trivial⟩,fun u w' _ hf=>zn hf.1⟩⟩
  ·cases h
 ·next e n B o s ht hb=>
  split at h
  ·next ha f _ hf=>
   obtain⟨ha⟩:=ha;subst ha;refine⟨_,h,zC fun env w S vs hl=> ?_⟩;obtain⟨h1,b,h2⟩:=zk hb (hx hl);exact⟨_,lQ (LL hT ht hf) (h1.trans h2) w,zn ⟨aI hf,b,h2,rfl⟩⟩
  ·cases h
 ·next e n B o s g ht hb=>
  split at h
  ·next ha f _ hf=>
   obtain⟨ha⟩:=ha;subst ha;refine⟨_,h,zC fun env w S vs hl=> ?_⟩;obtain⟨h0,b,h1,h2⟩:=zk hb (hx hl);exact⟨_,lQ (LL hT ht hf) h2 w,zn ⟨MW h0 (aI hf),b,h1,by simp only[Fl.comp,xcY]⟩⟩
  ·cases h
 ·next e n B o s j g ht hb=>
  split at h
  ·next ha f _ hf=>
   obtain⟨ha⟩:=ha;subst ha;refine⟨_,h,zC fun env w S vs hl=> ?_⟩;obtain⟨h0,b,m,cap,h1,h2,h3⟩:=zk hb (hx hl);exact⟨_,lQ (LL hT ht hf) h3 w,zn ⟨MW h0 (aI hf),b,m,cap,h1,h2,by simp only[Fl.comp,xcY]⟩⟩
  ·cases h
 ·cases h
theorem zeZ(hT:zT P cf.tt){k:List (Nat×Dv)->Option R}(h:R2 cf cx σ t x k=some r): ∃l,k l=some r/\ES P ⟨d,.load t x,ty,pos,aft,g⟩ cx σ F l:=by
 have hx: ∀{vs env S w},(∀t'∈yx (.load t x),Lk P vs env S w cx σ t')->ZO P vs env S w cx σ x:=fun hl=>yH hl (by simp[xaL]);unfold R2 at h;split at h
 ·next ti hj=>
  obtain⟨zero,hd,_⟩:=WY hT hj;unfold zdt at h;split at h
  ·next s y hc=>
   obtain⟨ha,h⟩:=ym h;simp only at ha;subst ha;exact⟨_,h,jM fun env w S vs hM hl=>⟨_,_,_,_,[fP ti.ty.rep y (ev env x)],[],zca (e:=ti.ty.rep) (y:=y) rfl hd (fun S w h=>h.1),trivial,⟨zk hc (hx hl),trivial⟩,fun u w' _ hf=>zn hf.1⟩⟩
  ·next o s hc=>
   split at h
   ·next s' E z ho=>
    obtain⟨ha,h⟩:=ym h;simp only at ha;subst ha;refine⟨_,h,jM fun env w S vs hM hl=> ?_⟩;obtain⟨h1,b,h2⟩:=zk hc (hx hl);obtain⟨b',h3,h4⟩:(mP ti.ty.rep.c E (vs o) z).p S w:=uH hM ho;exact⟨_,_,_,_,[],[mB ti.ty.rep.c E b' z],Qq (z':=z) 0 rfl (h1.trans h3) (Sub.self ti.ty.rep z) hd,⟨h4,trivial⟩,trivial,fun u w' _ hf=>zn hf.1⟩
   ·cases h
  ·next o s f hc=>
   split at h
   ·next s' E z ho=>
    obtain⟨he,h⟩:=ym h;subst he;obtain⟨ha,h⟩:=ym h;simp only at ha;obtain⟨off,ff,get,set⟩:=f;simp only at ha;subst ha;refine⟨_,h,jM fun env w S vs hM hl=> ?_⟩;obtain⟨h0,b,h1,h2⟩:=zk hc (hx hl);obtain⟨b',h3,h4⟩:(mP s'.rep.c E (vs o) z).p S w:=uH hM ho;rw[h1]at h3;cases h3;exact⟨_,_,_,_,[],[mB s'.rep.c E b z],Qq (z':=get z) 0 rfl h2 (by rw[xaT];exact h0 z) hd,⟨h4,trivial⟩,trivial,fun u w' _ hf=>zn hf.1⟩
   ·cases h
  ·next o s j f hc=>
   split at h
   ·next s' E xs ho=>
    obtain⟨he,h⟩:=ym h;cases he;obtain⟨y,hy,h⟩:=xp h;obtain⟨ha,h⟩:=ym h;simp only at ha;obtain⟨off,ff,get,set⟩:=f;simp only at ha;subst ha;refine⟨_,h,jM fun env w S vs hM hl=> ?_⟩;obtain⟨h0,b,m,cap,h1,h2,h3⟩:=zk hc (hx hl);have hm:(mO s.rep E (vs o) xs).p S w:=uH hM ho;have hg:0<xs.length:=by
     obtain⟨cs,h5,h6⟩:=hm;rcases h5.2 with⟨hv,h7⟩|⟨g',cap',cur,hv,_⟩
     ·rw[h1]at hv;cases hv
     ·rw[h1]at hv;cases hv;omega
    obtain⟨b',cap',hv,hb⟩:=QB hm hg;rw[h1]at hv;cases hv;have hi:=(Sub.rowT0 s.rep cap xs j (xs.getD j s.z) (getD_some s.z h2)).comp (h0 (xs.getD j s.z));subst hy;exact⟨_,_,_,_,[],[mB (rowT s.rep cap) E b xs],Qq 0 rfl h3 hi hd,⟨hb,trivial⟩,trivial,fun u w' _ hf=>zn hf.1⟩
   ·cases h
  ·cases h
 ·cases h
theorem zd0{α:Type}(xs:List α):xs=(xs.drop 0).take (xs.length-0):=by simp
theorem zdu{α:Type}(xs:List α)(l:Nat):xs.drop l=(xs.drop l).take (xs.length-l):=(xaX (by simp)).symm
theorem S8{i off n:Nat}{agg:Bool}{cs:Array Value}{v:Value}(h:PB P t i=some (off,agg,n))(hx:ev env x= .agg cs)(hv:(if agg=true then Value.agg (cs.extract off (off+n))else cs.getD off undef)=v)(ha:agg=false->off<cs.size)(w:World):
 (execOp (ev env) ⟨d,.field t x i,ty,pos,aft,g⟩).run P w= .ok (.value v) w:=by
 unfold PB at h;split at h
 ·next fs hu=>
  split at h
  ·next f hf=>
   split at h
   ·next ag n' by' z hc=>
    simp only[xaw,xcu]at h;obtain⟨h1,h2,h3⟩:=h;subst h1;subst h2;subst h3;have hb:=XG.of hc;have hp:(part f.type cs f.offset).run P w= .ok v w:=by
     unfold part;simp only[xaq,th hb,xab]
     cases ag with
     |true=>
      simp only[if_true,xaq,xq hb,xab,xaE];rw[<-hv];rfl
     |false=>
      simp only[xak,if_false];have ha:=ha rfl;rw[xcx ha];simp only[xaE];rw[<-hv];simp[Array.getD,ha]
    simp only[execOp,hx,Instr.field,asAgg,xaq,run_underlying hu,xab,hf,xaE,hp]
   ·cases h
  ·cases h
 ·cases h
theorem zer{s:TypeId}{q:Ty}{n B i:Nat}{f:Fl q.D}(hT:zT P cf.tt)(h:ZV cf s=some ⟨q,.st n,B⟩)(hf:Qw n q i=some f):PB P s i=some (f.off,f.f.rep.agg,f.f.n):=(hT _ _ h).2.2.2.2.2.2 i f hf
theorem S6(hT:zT P cf.tt){i:Nat}{k:List (Nat×Dv)->Option R}(h:Dr cf cx σ t x i k=some r): ∃l,k l=some r/\ES P ⟨d,.field t x i,ty,pos,aft,g⟩ cx σ F l:=by
 have hx: ∀{vs env S w},(∀t'∈yx (.field t x i),Lk P vs env S w cx σ t')->ZO P vs env S w cx σ x:=fun hl=>yH hl (by simp[xaL]);unfold Dr at h;split at h
 ·next e n B s y ht hg=>
  obtain⟨hi,h⟩:=ym h;subst hi;split at h
  ·next f hf=>
   refine⟨_,h,zC fun env w S vs hl=> ?_⟩;obtain⟨cs,hv,hp⟩:=zk hg (hx hl);have he:s.rep.agg=true:=(hT _ _ ht).2.2.2.1;obtain⟨pre,c,post,hc,h1,h2,_⟩:=aI hf y S w cs hp;have ha:=f.f.rep.len h2;rw[Ty.n_rep]at ha;have hv:ev env x= .agg cs.toArray:=by rw[hv];unfold zX.val;rw[he];rfl
   refine⟨f.f.rep.val c,S8 (zer hT ht hf) hv ?_ ?_ w,zn ⟨c,rfl,h2⟩⟩
   ·unfold zX.val
    cases hd:f.f.rep.agg with
    |true=>
     simp only[if_true];congr 1;apply Array.ext';rw[Array.toList_extract,hc,<-h1,<-ha];simp
    |false=>
     simp only[xak,if_false];have hb:=f.f.rep.n1 hd;rw[Ty.n_rep]at hb;obtain⟨a,rfl⟩: ∃a,c=[a]:=by
      match c,ha.trans hb with
      |[a],_=>exact⟨a,rfl⟩
     rw[hc,<-h1];simp[Array.getD]
   ·intro hd;have hb:=f.f.rep.n1 hd;rw[Ty.n_rep]at hb;rw[hc];simp;omega
  ·cases h
 ·cases h
theorem J6{α:Type}{e:zX α}{E:TypeId}{v:Value}{xs:List α}{S:Nat->Prop}{w:World}(h:(mO e E v xs).p S w):(v= .slice none 0 0/\xs=[])\/ ∃b cap,v= .slice (some ⟨b,0,none⟩) xs.length cap/\xs.length<=cap/\cap<=9223372036854775807:=by
 obtain⟨cs,h1,h2⟩:=h;rcases h1.2 with⟨rfl,h0⟩|⟨g,cap,cur,rfl,hc,hg,ha,hb,hd,he⟩
 ·exact .inl ⟨rfl,xbG.1 h0⟩
 ·exact .inr ⟨g,cap,rfl,ha,hb⟩
theorem CD{α:Type}{e:zX α}{E:TypeId}{v:Value}{xs:List α}{S:Nat->Prop}{w:World}(h:(mO e E v xs).p S w){b m cap l n c:Nat}(hv:v= .slice (some ⟨b,0,none⟩) m cap)(hl:l+n<=m)(hf:n<=c)(hc:c<=9223372036854775807):
 SlQ e S ((xs.drop l).take n) (.slice (some ⟨b,0+l*e.n,none⟩) n c) w:=by
 obtain⟨cs,h1,h2⟩:=h;rcases h1.2 with⟨h0,_⟩|⟨g,cap',cur,h0,hi,hg,he,hj,hk,hd⟩
 ·rw[hv]at h0;cases h0
 ·rw[hv]at h0;cases h0;have hb:((xs.drop l).take n).length=n:=by simp;omega
  refine⟨some ⟨b,0+l*e.n,none⟩,c,by rw[hb],by omega,by unfold maxLen;omega,.inr ⟨b,0+l*e.n,(cs.drop (l*e.n)).take (n*e.n),rfl,?_,(h2.drop l).take n⟩⟩;have ha:=At.row hg;have:=ha.take (xs.length*e.n);rw[hd]at this;exact(this.drop (l*e.n)).take (n*e.n)
theorem mQ{t:TypeId}{et:TypeId}{ag:Bool}{sz bytes:Nat}{zero:Value}{b o n cap l h:Nat}{lo hi:Option Value}{w:World}(ht:P.underlying t=some (.slice et))(ha:XG P et ag sz bytes zero)
 (hl:lo=some (.int .i64 (l:Int))\/(lo=none/\l=0)) (hh:hi=some (.int .i64 (h:Int))\/(hi=none/\h=n)) (hb:l<=h) (hc:h<=cap):
 (xcT t (.slice (some ⟨b,o,none⟩) n cap) lo hi none).run P w= .ok (.slice (if cap=l then some ⟨b,o,none⟩else(some (⟨b,o,none⟩:Addr)).map (·.add (l*sz))) (h-l) (cap-l)) w:=by
 have b1:(0:Int)<=(l:Int)/\(l:Int)<=(h:Int):=by omega
 have b2:(0:Int)<=(h:Int)/\(h:Int)<=(cap:Int):=by omega
 unfold xcT;simp only[xaq,run_underlying ht,xab];unfold xfE;simp only[xaq,run_underlying ht,xab];unfold xdT
 rcases hl with rfl|⟨rfl,rfl⟩<;>rcases hh with rfl|⟨rfl,rfl⟩<;>
  simp only[xei,asIntOf,xaq,xaE,xab,iq b1,iq b2,xq ha,xaM]
theorem B3{t:TypeId}{et:TypeId}{ag:Bool}{sz bytes:Nat}{zero:Value}{lo hi:Option Value}{w:World}(ht:P.underlying t=some (.slice et))(ha:XG P et ag sz bytes zero)
 (hl:lo=some (.int .i64 ((0:Nat):Int))\/lo=none) (hh:hi=some (.int .i64 ((0:Nat):Int))\/hi=none):
 (xcT t (.slice none 0 0) lo hi none).run P w= .ok (.slice none 0 0) w:=by
 unfold xcT;simp only[xaq,run_underlying ht,xab];unfold xfE;simp only[xaq,run_underlying ht,xab];unfold xdT
 rcases hl with rfl|rfl<;>rcases hh with rfl|rfl<;>
  simp[xei,asIntOf,xaq,xaE,xab,xq ha]
theorem BN{m:Nat}{lo hi:Option Nat}{k:Nat->Nat->Option R}(h:zdb m lo hi k=some r): ∃l h',l<=h'/\h'<=m/\k l (h'-l)=some r/\(lo=some l\/(lo=none/\l=0))/\(hi=some h'\/(hi=none/\h'=m)):=by
 unfold zdb at h;split at h
 ·next h'=>obtain⟨h1,h2⟩:=kv h;exact⟨0,h',xaj _,h1,h2,.inr ⟨rfl,rfl⟩,.inl rfl⟩
 ·next l=>obtain⟨h1,h2⟩:=kv h;exact⟨l,m,h1,xac _,h2,.inl rfl,.inr ⟨rfl,rfl⟩⟩
 ·next l h'=>obtain⟨h1,h2⟩:=kv h;exact⟨l,h',h1.1,h1.2,h2,.inl rfl,.inl rfl⟩
 ·exact⟨0,m,xaj _,xac _,h,.inr ⟨rfl,rfl⟩,.inr ⟨rfl,rfl⟩⟩
theorem Hl{t:TypeId}{s:ByteArray}{l h:Nat}{lo hi:Option Value}{w:World}(ht:P.underlying t=some .string)
 (hl:lo=some (.int .i64 (l:Int))\/(lo=none/\l=0)) (hh:hi=some (.int .i64 (h:Int))\/(hi=none/\h=s.size)) (ha:l<=h) (hb:h<=s.size):
 (xcT t (.string s) lo hi none).run P w= .ok (.string (s.extract l h)) w:=by
 have b1:(0:Int)<=(l:Int)/\(l:Int)<=(h:Int):=by omega
 have b2:(0:Int)<=(h:Int)/\(h:Int)<=(s.size:Int):=by omega
 unfold xcT;simp only[xaq,run_underlying ht,xab];unfold xfE;simp only[xaq,run_underlying ht,xab];unfold xdT
 rcases hl with rfl|⟨rfl,rfl⟩<;>rcases hh with rfl|⟨rfl,rfl⟩<;>
  simp[xei,asIntOf,iq b1,iq b2,ha,hb]
theorem nF(s:ByteArray)(l h:Nat):yM (s.extract l h)=((yM s).drop l).take (h-l):=by
 unfold yM;rw[ByteArray.data_extract,Array.toList_extract,List.extract_eq_take_drop,List.map_take,List.map_drop]
theorem zcG(hT:zT P cf.tt)(hL:jE P cf.tt){lo hi:Option Operand}{k:List (Nat×Dv)->Option R}(h:H5 cf cx σ t x lo hi k=some r): ∃l,k l=some r/\ES P ⟨d,.slice t x lo hi none,ty,pos,aft,g⟩ cx σ F l:=by
 have hx: ∀{vs env S w},(∀t'∈yx (.slice t x lo hi none),Lk P vs env S w cx σ t')->ZO P vs env S w cx σ x:=fun hl=>yH hl (by simp[xaL]);have hc: ∀{vs env S w z},lo=some z->(∀t'∈yx (.slice t x lo hi none),Lk P vs env S w cx σ t')->ZO P vs env S w cx σ z:=fun e hl=>yH hl (by simp[xaL,e]);have hd: ∀{vs env S w z},hi=some z->(∀t'∈yx (.slice t x lo hi none),Lk P vs env S w cx σ t')->ZO P vs env S w cx σ z:=fun e hl=>yH hl (by simp[xaL,e]);unfold H5 at h;split at h
 ·next e E B s xs ht he=>
  obtain⟨hm,h⟩:=ym h;cases hm;obtain⟨bytes,zero,hk⟩:=VH hT hL ht
  have fin: ∀{l m:Nat} {zs:List e.D},l<=m->m<=xaG xs->zs=(xdw l xs).take (m-l)->(∀vs env S w,(∀t'∈yx (.slice t x lo hi none),Lk P vs env S w cx σ t')->((lo.map (ev env))=some (.int .i64 (l:Int))\/(lo=none/\l=0))/\((hi.map (ev env))=some (.int .i64 (m:Int))\/(hi=none/\m=xaG xs)))->
   k [(0,.d (.l e) zs)]=some r-> ∃l,k l=some r/\ES P ⟨d,.slice t x lo hi none,ty,pos,aft,g⟩ cx σ F l:=by
   intro l m zs h1 h2 h3 h4 h5;subst h3;refine⟨_,h5,jM fun env w S vs hM hl=> ?_⟩;obtain⟨h6,h7⟩:=h4 vs env S w hl;exact⟨_,_,_,_,[fV (eS e.rep) xs (ev env x)],[],Ef (e:=e.rep) (xs:=xs) (l:=l) (h:=m) rfl (ve hT ht) hk h6 h7 h1 h2 (fun S w h=>h.1),trivial,⟨zk he (hx hl),trivial⟩,fun u w' _ hf=>zn hf.1⟩
  rcases QD h with⟨e1,h1⟩|⟨zl,l,e1,h1,hb⟩
  ·rcases QD h1 with⟨e2,h2⟩|⟨zh,m,e2,h2,ha⟩
   ·exact fin (l:=0) (m:=xaG xs) (xaj _) (xac _) (zd0 (α:=e.D) xs) (fun vs env S w hl=>⟨.inr ⟨e1,rfl⟩,.inr ⟨e2,rfl⟩⟩) h2
   ·obtain⟨h3,h4⟩:=kv h2;obtain⟨zs,hz,h5⟩:=xp h4;exact fin (l:=0) (m:=m) (xaj _) h3 hz (fun vs env S w hl=>⟨.inr ⟨e1,rfl⟩,.inl (by rw[e2];exact congrArg some (ha P vs env S w (hd e2 hl)))⟩) h5
  ·rcases QD h1 with⟨e2,h2⟩|⟨zh,m,e2,h2,ha⟩
   ·obtain⟨h3,h4⟩:=kv h2;obtain⟨zs,hz,h5⟩:=xp h4;exact fin (l:=l) (m:=xaG xs) h3 (xac _) (hz.trans (zdu (α:=e.D) xs l)) (fun vs env S w hl=>⟨.inl (by rw[e1];exact congrArg some (hb P vs env S w (hc e1 hl))),.inr ⟨e2,rfl⟩⟩) h5
   ·obtain⟨h3,h4⟩:=kv h2;obtain⟨zs,hz,h5⟩:=xp h4;exact fin (l:=l) (m:=m) h3.1 h3.2 hz (fun vs env S w hl=>⟨.inl (by rw[e1];exact congrArg some (hb P vs env S w (hc e1 hl))),.inl (by rw[e2];exact congrArg some (ha P vs env S w (hd e2 hl)))⟩) h5
 ·next e E B o ht he=>
  split at h
  ·next s E' xs ho=>
   obtain⟨hm,h⟩:=ym h;cases hm;obtain⟨bytes,zero,hk⟩:=VH hT hL ht
   have key: ∀(l m:Nat),l<=m->m<=xaG xs->k [(0,.sv o e l (m-l))]=some r->(∀vs env S w,(∀t'∈yx (.slice t x lo hi none),Lk P vs env S w cx σ t')->((lo.map (ev env))=some (.int .i64 (l:Int))\/(lo=none/\l=0))/\((hi.map (ev env))=some (.int .i64 (m:Int))\/(hi=none/\m=xaG xs)))->
    ∃l,k l=some r/\ES P ⟨d,.slice t x lo hi none,ty,pos,aft,g⟩ cx σ F l:=by
    intro l m h1 h2 h5 h4;refine⟨_,h5,fun env w S vs hS hM hl=> ?_⟩;obtain⟨h6,h7⟩:=h4 vs env S w hl;have hn:ev env x=vs o:=zk he (hx hl);rcases J6 (show(mO e.rep E' (vs o) xs).p S w from uH hM ho)with⟨hv,hg⟩|⟨b,cap,hv,hq,hu⟩
    ·refine(Ef (e:=e.rep) (xs:=([]:List e.D)) (l:=l) (h:=m) rfl (ve hT ht) hk h6 (by rw[hg]at h7;exact h7) h1 (by rw[hg]at h2;exact h2) (Γ:=[fV (eS e.rep) ([]:List e.D) (ev env x)]) (fun S w h=>h.1) (ms:=[]) w S hS trivial ⟨?_,trivial⟩).mono ?_
     ·rw[hn,hv];exact xm.2 ⟨none,0,rfl,xac _,xaj _,.inl rfl⟩
     ·rintro v w' ⟨u,rfl,_,hs,hf⟩;refine⟨hs,zn (.inr ?_)⟩;have hw:m=0:=by rw[hg]at h2;exact Nat.le_zero.1 h2
      obtain⟨ao,c,q1,q2,q3,_⟩:=xm.1 hf.1;refine⟨by omega,ao,c,by unfold maxLen at q3;omega,?_⟩;rw[q1];simp
    ·have hr:=mQ (P:=P) (b:=b) (o:=0) (n:=xaG xs) (cap:=cap) (w:=w) (l:=l) (h:=m) (ve hT ht) hk (h6.imp id fun q=>⟨by rw[q.1];rfl,q.2⟩) (h7.imp id fun q=>⟨by rw[q.1];rfl,q.2⟩) h1 (xao h2 hq);rw[<-hv,<-hn]at hr;refine kh.of_value (v:= .slice (if cap=l then some ⟨b,0,none⟩else some ((⟨b,0,none⟩:Addr).add (l*e.rep.n))) (m-l) (cap-l)) (w':=w) (by simp[execOp,hr]) ⟨yp.refl _ _,zn ?_⟩;by_cases hp:cap=l
     ·rw[iq hp];refine .inr ⟨by omega,some ⟨b,0,none⟩,cap-l,by omega,?_⟩;rw[show m-l=0 by omega]
     ·rw[ir hp];exact .inl ⟨b,xaG xs,cap,cap-l,hv,by omega,by omega,by omega,by rw[vP]⟩
   rcases QD h with⟨e1,h1⟩|⟨zl,l,e1,h1,hb⟩
   ·rcases QD h1 with⟨e2,h2⟩|⟨zh,m,e2,h2,ha⟩
    ·exact key 0 (xaG xs) (xaj _) (xac _) h2 (fun vs env S w hl=>⟨.inr ⟨e1,rfl⟩,.inr ⟨e2,rfl⟩⟩)
    ·obtain⟨h3,h4⟩:=kv h2;exact key 0 m (xaj _) h3 h4 (fun vs env S w hl=>⟨.inr ⟨e1,rfl⟩,.inl (by rw[e2];exact congrArg some (ha P vs env S w (hd e2 hl)))⟩)
   ·rcases QD h1 with⟨e2,h2⟩|⟨zh,m,e2,h2,ha⟩
    ·obtain⟨h3,h4⟩:=kv h2;exact key l (xaG xs) h3 (xac _) h4 (fun vs env S w hl=>⟨.inl (by rw[e1];exact congrArg some (hb P vs env S w (hc e1 hl))),.inr ⟨e2,rfl⟩⟩)
    ·obtain⟨h3,h4⟩:=kv h2;exact key l m h3.1 h3.2 h4 (fun vs env S w hl=>⟨.inl (by rw[e1];exact congrArg some (hb P vs env S w (hc e1 hl))),.inl (by rw[e2];exact congrArg some (ha P vs env S w (hd e2 hl)))⟩)
  ·cases h
 ·next q B xs ht he=>
  have fin: ∀{l m:Nat} {zs:List Nat},l<=m->m<=xaG xs->zs=(xdw l xs).take (m-l)->(∀vs env S w,(∀t'∈yx (.slice t x lo hi none),Lk P vs env S w cx σ t')->((lo.map (ev env))=some (.int .i64 (l:Int))\/(lo=none/\l=0))/\((hi.map (ev env))=some (.int .i64 (m:Int))\/(hi=none/\m=xaG xs)))->
   k [(0,.d .tx zs)]=some r-> ∃l,k l=some r/\ES P ⟨d,.slice t x lo hi none,ty,pos,aft,g⟩ cx σ F l:=by
   intro l m zs h1 h2 h3 h4 h5;refine⟨_,h5,zC fun env w S vs hl=> ?_⟩;obtain⟨h6,h7⟩:=h4 vs env S w hl;obtain⟨s,e1,e2,e3⟩:=Ea (zk he (hx hl));have hj:(yM s).length=s.size:=vX s;rw[e2]at hj;have hr:=Hl (P:=P) (s:=s) (l:=l) (h:=m) (w:=w) (AQ hT ht) (h6.imp id fun q=>⟨by rw[q.1];rfl,q.2⟩) (h7.imp id fun q=>⟨by rw[q.1];rfl,by rw[q.2];exact hj⟩) h1 (by rw[<-hj];exact h2);rw[<-e1]at hr;refine⟨.string (s.extract l m),by simp[execOp,hr],zn (EE (by rw[nF,e2,h3]) ?_)⟩;rw[<-vX,nF,e2];have h2:m<=xaG (α:=Nat) xs:=h2;rw[xay];omega
  rcases QD h with⟨e1,h1⟩|⟨zl,l,e1,h1,hb⟩
  ·rcases QD h1 with⟨e2,h2⟩|⟨zh,m,e2,h2,ha⟩
   ·exact fin (l:=0) (m:=xaG (α:=Nat) xs) (xaj _) (xac _) (zd0 (α:=Nat) xs) (fun vs env S w hl=>⟨.inr ⟨e1,rfl⟩,.inr ⟨e2,rfl⟩⟩) h2
   ·obtain⟨h3,h4⟩:=kv h2;obtain⟨zs,hz,h5⟩:=xp h4;exact fin (l:=0) (m:=m) (xaj _) h3 hz (fun vs env S w hl=>⟨.inr ⟨e1,rfl⟩,.inl (by rw[e2];exact congrArg some (ha P vs env S w (hd e2 hl)))⟩) h5
  ·rcases QD h1 with⟨e2,h2⟩|⟨zh,m,e2,h2,ha⟩
   ·obtain⟨h3,h4⟩:=kv h2;obtain⟨zs,hz,h5⟩:=xp h4;exact fin (l:=l) (m:=xaG (α:=Nat) xs) h3 (xac _) (hz.trans (zdu (α:=Nat) xs l)) (fun vs env S w hl=>⟨.inl (by rw[e1];exact congrArg some (hb P vs env S w (hc e1 hl))),.inr ⟨e2,rfl⟩⟩) h5
   ·obtain⟨h3,h4⟩:=kv h2;obtain⟨zs,hz,h5⟩:=xp h4;exact fin (l:=l) (m:=m) h3.1 h3.2 hz (fun vs env S w hl=>⟨.inl (by rw[e1];exact congrArg some (hb P vs env S w (hc e1 hl))),.inl (by rw[e2];exact congrArg some (ha P vs env S w (hd e2 hl)))⟩) h5
 ·cases h
theorem zh9(hT:zT P cf.tt){k:List (Nat×Dv)->Option R}(h:zf7 cf cx σ t x y k=some r): ∃l,k l=some r/\ES P ⟨d,.index t x y,ty,pos,aft,g⟩ cx σ F l:=by
 have hx: ∀{vs env S w},(∀t'∈yx (.index t x y),Lk P vs env S w cx σ t')->ZO P vs env S w cx σ x:=fun hl=>yH hl (by simp[xaL]);have hy: ∀{vs env S w},(∀t'∈yx (.index t x y),Lk P vs env S w cx σ t')->ZO P vs env S w cx σ y:=fun hl=>yH hl (by simp[xaL]);unfold zf7 at h;split at h
 ·next q B xs ht hd=>
  obtain⟨j,hj,h,hi⟩:=DH h;obtain⟨z,hz,h⟩:=xp h;refine⟨_,h,zC fun env w S vs hl=> ?_⟩;obtain⟨s,e1,e2,_⟩:=Ea (zk hd (hx hl));obtain⟨ik,e3⟩:=hi P vs env S w (hy hl);have ha:(yM s).length=s.size:=vX s;have hb:j<s.size:=by rw[<-ha,e2];exact hj
  have hc:z=(s[j]'hb).toNat:=by
   rw[hz,<-e2];unfold yM;rw[UV,xaB,IR (by rw[<-ha]at hb;simpa[yM]using hb)];rfl
  have hr:=run_index_string (P:=P) w t s ik (j:Int) (AQ hT ht);rw[dif_pos ⟨by omega,by omega⟩]at hr;refine⟨.int .u8 (z:Int),?_,zn (Ar (by rw[hc];exact UInt8.toNat_lt _))⟩;simp only[xaM]at hr;rw[hc];simp[execOp,e1,e3,hr]
 ·cases h
theorem zgy{E:TypeId}{k:List (Nat×Dv)->Option R}(h:zfy cf cx σ E x k=some r): ∃l,k l=some r/\ES P ⟨d,.box E x,ty,pos,aft,g⟩ cx σ F l:=by
 unfold zfy at h;split at h
 ·next ti ha=>
  obtain⟨y,h,hy⟩:=XO h;exact⟨_,h,jM fun env w S vs hM hl=>⟨_,_,_,_,[fV ti.ty.rep y (ev env x)],[],zeY (e:=ti.ty.rep) (z:=y) rfl (fun S w h=>h.1),trivial,⟨hy P vs env S w (yH hl (by simp[xaL])),trivial⟩,fun u w' _ hf=>zn hf.1⟩⟩
 ·cases h
theorem zgF(hT:zT P cf.tt){ags:Array Operand}{ts:Array TypeId}{k:List (Nat×Dv)->Option R}(h:zeG cf cx σ ags.toList ts.toList k=some r):
 ∃l,k l=some r/\ES P ⟨d,.call ⟨.builtin .len,ags,ts⟩,ty,pos,aft,g⟩ cx σ F l:=by
 unfold zeG at h;split at h
 ·next _ _ x t hc hd=>
  obtain rfl:ags= #[x]:=by cases ags;simp_all
  obtain rfl:ts= #[t]:=by cases ts;simp_all
  have hx: ∀{vs env S w},(∀t'∈yx (.call ⟨.builtin .len,#[x],#[t]⟩),Lk P vs env S w cx σ t')->ZO P vs env S w cx σ x:=fun hl=>yH hl (by simp[xaL,xef]);split at h
  ·next e E B ht=>
   have hu:=ve hT ht;split at h
   ·next ha=>exact⟨_,h,zC fun env w S vs hl=>⟨_,FC hu (zk ha (hx hl)) w,zn (xJ (by decide))⟩⟩
   ·next s xs ha=>
    exact⟨_,h,jM fun env w S vs hM hl=>⟨_,_,_,_,[fV (eS s.rep) xs (ev env x)],[],zes (e:=s.rep) (xs:=xs) hu rfl (fun S w h=>h.1),trivial,⟨zk ha (hx hl),trivial⟩,fun u w' hk hf=>zn (xJ (FQ hk))⟩⟩
   ·next o ha=>
    split at h
    ·next s E' xs ho=>
     exact⟨_,h,jM fun env w S vs hM hl=>⟨_,_,_,_,[],[mO s.rep E' (vs o) xs],CX 0 rfl hu (zk ha (hx hl)),⟨uH hM ho,trivial⟩,trivial,fun u w' hk hf=>zn (xJ (FQ hk))⟩⟩
    ·cases h
   ·cases h
  ·next q B ht=>
   have hu:=AQ hT ht;split at h
   ·next xs ha=>
    refine⟨_,h,zC fun env w S vs hl=> ?_⟩;obtain⟨s,e1,e2,e3⟩:=Ea (zk ha (hx hl));have hb:(yM s).length=s.size:=vX s;rw[e2]at hb;have hb:xaG (α:=Nat) xs=s.size:=hb;refine⟨.int .i64 ((xaG (α:=Nat) xs:Nat):Int),?_,zn (xJ (by omega))⟩;rw[hb];simp[execOp,resolve,invoke,builtin,e1,Builtin.len_,goInt,run_underlying hu]
   ·cases h
  ·cases h
 ·cases h
theorem zic{b:Bool}{ags:Array Operand}{ts:Array TypeId}{k:List (Nat×Dv)->Option R}(h:eMM cx b σ ags.toList k=some r):
 ∃l,k l=some r/\ES P ⟨d,.call ⟨.builtin (if b=true then .max else .min),ags,ts⟩,ty,pos,aft,g⟩ cx σ F l:=by
 unfold eMM at h;split at h
 ·next _ x y hb=>
  obtain rfl:ags= #[x,y]:=by cases ags;simp_all
  have hx: ∀{bl vs env S w},(∀t'∈yx (.call ⟨.builtin bl,#[x,y],ts⟩),Lk P vs env S w cx σ t')->ZO P vs env S w cx σ x:=fun hl=>yH hl (by simp[xaL,xef]);have hy: ∀{bl vs env S w},(∀t'∈yx (.call ⟨.builtin bl,#[x,y],ts⟩),Lk P vs env S w cx σ t')->ZO P vs env S w cx σ y:=fun hl=>yH hl (by simp[xaL,xef]);split at h
  ·next a c ha hc=>
   cases b
   ·have h:nm (min (α:=Int) a c) (fun z=>k [(0,zfF z)])=some r:=h;obtain⟨z,hz,h⟩:=xp h;exact⟨_,h,zC fun env w S vs hl=>⟨_,v_i (zgO (xV ha (hx hl)).1 (xV hc (hy hl)).1) hz w,zn (xJ (zaH hz (zgz (xV ha (hx hl)).2 (xV hc (hy hl)).2)))⟩⟩
   ·have h:nm (max (α:=Int) a c) (fun z=>k [(0,zfF z)])=some r:=h;obtain⟨z,hz,h⟩:=xp h;exact⟨_,h,zC fun env w S vs hl=>⟨_,v_i (zhI (xV ha (hx hl)).1 (xV hc (hy hl)).1) hz w,zn (xJ (zaH hz (zh4 (xV ha (hx hl)).2 (xV hc (hy hl)).2)))⟩⟩
  ·cases h
 ·cases h
end
end
section
def PH(S:Nat->Prop)(w:World):(ts:List Ty)->bn ts->List (Nat×Value)->Prop
 |[],_,[]=>True
 |t::ts,y,(_,v)::r=>(fV t.rep y.1 v).p S w/\PH S w ts y.2 r
 |_,_,_=>False
theorem PH.keep{S:Nat->Prop}{w w':World}(k:yp S w w'): ∀{ts:List Ty} {ys:bn ts} {ps:List (Nat×Value)},PH S w ts ys ps->PH S w' ts ys ps
 |[],_,[],h=>trivial
 |t::_,y,(_,v)::_,h=>⟨(fV t.rep y.1 v).keep h.1 k,PH.keep k h.2⟩
 |[],_,_::_,h=>h.elim
 |_::_,_,[],h=>h.elim
theorem PH.sub{S S':Nat->Prop}{w:World}(k: ∀k,k<w.heap.size->S k->S' k): ∀{ts:List Ty} {ys:bn ts} {ps:List (Nat×Value)},PH S w ts ys ps->PH S' w ts ys ps
 |[],_,[],h=>trivial
 |t::_,y,(_,v)::_,h=>⟨(fV t.rep y.1 v).sub h.1 k,PH.sub k h.2⟩
 |[],_,_::_,h=>h.elim
 |_::_,_,[],h=>h.elim
def phF(ts:List Ty)(ys:bn ts)(ps:List (Nat×Value)):FF:=⟨fun S w=>PH S w ts ys ps,fun h k=>PH.keep k h,fun h k=>PH.sub k h⟩
section
variable{P:Program}{cf:Cf}{cx σ:Sg}{F:List MF}{vs:Nat->Value}{env:yP}{S:Nat->Prop}{w:World}{R:Type}{r:R}
 {d:Option Tmp} {ty t yt:TypeId} {pos:String} {aft:Array Edge} {g:Option (Nat×Bool)} {x y:Operand}
theorem dT: ∀{ts:List Ty} {ps:List (Nat×Operand)} {j:Nat} {k:bn ts->Option R},xX cx σ ts ps j k=some r->
 ∃ys,k ys=some r/\ps.map (·.1)=xfk j ps.length/\ ∀(P:Program) vs env S w,(∀x∈ps.map (·.2),ZO P vs env S w cx σ x)->PH S w ts ys (ps.map fun q:Nat×Operand=>(q.1,ev env q.2))
 |[],[],j,k,h=>⟨(),h,rfl,fun _ _ _ _ _ _=>trivial⟩
 |t::ts,(i,x)::ps,j,k,h=>by
  unfold xX at h;obtain⟨ha,h⟩:=yi h;obtain⟨y,h,hy⟩:=XO h;obtain⟨ys,h1,h2,h3⟩:=dT h;refine⟨(y,ys),h1,?_,fun P vs env S w hl=>⟨hy P vs env S w (hl x (FS)),h3 P vs env S w fun z hz=>hl z (H1 _ hz)⟩⟩;simp only[xbR,xav,List.range'_succ,h2,ya ha]
 |[],_::_,j,k,h=>by simp[xX]at h
 |_::_,[],j,k,h=>by simp[xX]at h
theorem zdY{i:Nat}{v:Value}:v7 [(i,v)]=v.cells.toList:=by simp[v7]
theorem zi5{k:Nat}{s t:Ty}:Qw (k+2) (.p s t) 0=some ⟨0,s,fun z=>z.1,fun y z=>(y,z.2)⟩:=rfl
theorem ziX{k:Nat}{s t:Ty}{i:Nat}{f:Fl t.D}(h:Qw (k+1) t i=some f):Qw (k+2) (.p s t) (i+1)=some ⟨s.n+f.off,f.f,fun z=>f.get z.2,fun y z=>(z.1,f.set y z.2)⟩:=by
 simp only[Qw,h]
theorem zaM{pl:Array (Nat×Nat)}: ∀{k:Nat} {t:Ty} {o j:Nat} {ys:bn (NS k t)} {ps:List (Nat×Value)} {z:t.D},(∀i f,Qw k t i=some f->pl[j+i]? =some (o+f.off,f.f.n))->
 ps.map (·.1)=xfk j ps.length->PH S w (NS k t) ys ps->K4 k t ys=some z->QU (pl[·]?) ps o/\t.rep.p S z (v7 ps) w
 |0,_,_,_,_,_,_,_,_,_,h=>by simp[K4]at h
 |1,t,o,j,ys,[],z,hp,hi,h,hj=>h.elim
 |1,t,o,j,ys,[(i,v)],z,hp,hi,h,hj=>by
  simp only[K4,xaw]at hj;subst hj;have ha:i=j:=by simpa using hi
  subst ha;have h0:=hp 0 (Fl.self t) rfl;have hs:=za6 h.1;rw[t.n_rep]at hs;refine⟨⟨?_,trivial⟩,by rw[zdY];exact Zq h.1⟩;show pl[i]? =_;rw[hs];simpa[Fl.self]using h0
 |1,t,o,j,ys,_::_::_,z,hp,hi,h,hj=>h.2.elim
 |k+2,.p s t,o,j,ys,[],z,hp,hi,h,hj=>h.elim
 |k+2,.p s t,o,j,ys,(i,v)::ps,z,hp,hi,h,hj=>by
  unfold K4 at hj;split at hj
  ·next y hy=>
   obtain rfl:=xds hj;simp only[xbR,xav,List.range'_succ,xes]at hi;obtain⟨rfl,hi⟩:=hi;have h0:=hp 0 _ zi5;have hs:=za6 h.1;rw[s.n_rep]at hs;obtain⟨h1,h2⟩:=zaM (o:=o+s.n) (j:=i+1) (pl:=pl) (fun i' f hf=>by
    have:=hp (i'+1) _ (ziX hf);rw[show i+1+i'=i+(i'+1)by omega,this];simp only[xcY]) hi h.2 hy
   refine⟨⟨?_,by rw[hs];exact h1⟩,?_⟩
   ·show pl[i]? =_;rw[hs];simpa using h0
   ·rw[Ag];exact⟨_,_,rfl,Zq h.1,h2⟩
  ·cases hj
 |k+2,.i,_,_,_,_,_,_,_,_,h=>by simp[K4]at h
 |k+2,.u,_,_,_,_,_,_,_,_,h=>by simp[K4]at h
 |k+2,.b,_,_,_,_,_,_,_,_,h=>by simp[K4]at h
 |k+2,.l _,_,_,_,_,_,_,_,_,h=>by simp[K4]at h
 |k+2,.a _ _,_,_,_,_,_,_,_,_,h=>by simp[K4]at h
theorem Uf: ∀(n:Nat) (t:Ty) (ys:bn (r7 n t)),(bN n t ys).length=n
 |0,_,_=>rfl
 |n+1,t,ys=>congrArg (· +1) (Uf n t ys.2)
theorem CY{t:Ty}: ∀{n j:Nat} {ys:bn (r7 n t)} {ps:List (Nat×Value)},ps.map (·.1)=xfk j ps.length->PH S w (r7 n t) ys ps->
 QU (fun i=>some (i*t.rep.n,t.rep.n)) ps (j*t.rep.n)/\yu t.rep S (bN n t ys) (v7 ps) w
 |0,_,_,[],_,_=>⟨trivial,rfl⟩
 |0,_,_,_::_,_,h=>h.elim
 |n+1,_,_,[],_,h=>h.elim
 |n+1,j,ys,(i,v)::ps,hi,h=>by
  simp only[xbR,xav,List.range'_succ,xes]at hi;obtain⟨rfl,hi⟩:=hi;have hs:=za6 h.1;obtain⟨h1,h2⟩:=CY hi h.2;refine⟨⟨by rw[hs],?_⟩,?_⟩
  ·rw[hs,show i*t.rep.n+t.rep.n=(i+1)*t.rep.n by rw[xaV,xcn]];exact h1
  ·rw[Ag];exact⟨_,_,rfl,Zq h.1,h2⟩
theorem zct(hT:zT P cf.tt){ps:Array (Nat×Operand)}{k:List (Nat×Dv)->Option R}(h:HL cf cx σ t ps.toList k=some r): ∃l,k l=some r/\ES P ⟨d,.build t ps,ty,pos,aft,g⟩ cx σ F l:=by
 unfold HL at h;split at h
 ·next e n B ht=>
  obtain⟨zero,hc,hd,hi⟩:=WY hT ht;obtain⟨ha,_,⟨fs,hk,pl,hm,ho⟩,_⟩:=(hT _ _ ht).2.2.2;simp only at hc hd hi ha ho;split at h
  ·next hr=>
   obtain rfl:ps= #[]:=by cases ps;simp_all
   exact⟨_,h,jM fun env w S vs hM hl=>⟨_,_,_,_,[],[],zcn (e:=e.rep) (z:=e.z) (ha▸hc) ha hd (.inl ⟨fs,hk,pl,hm⟩) hi,trivial,trivial,fun u w' _ hf=>zn hf.1⟩⟩
  ·next i x hr=>
   obtain rfl:ps= #[(i,x)]:=by cases ps;simp_all
   split at h
   ·next f hf=>
    obtain⟨y,h,hy⟩:=XO h;refine⟨_,h,jM fun env w S vs hM hl=>⟨_,_,_,_,[fV f.f.rep y (ev env x)],[],NL (e:=e.rep) (f:=f.f.rep) (z0:=e.z) (y:=y) (ha▸hc) ha hi (aI hf e.z) ⟨fs,hk,hm⟩ (by rw[f.f.n_rep];exact ho i f hf) rfl (fun S w h=>h.1) rfl,trivial,⟨hy P vs env S w (yH hl (by simp[xaL])),trivial⟩,fun u w' _ hf=>zn hf.1⟩⟩
   ·cases h
  ·next ps' hu hv=>
   obtain⟨ys,h,he,hp⟩:=dT h;split at h
   ·next z hz=>
    refine⟨_,h,jM fun env w S vs hM hl=> ?_⟩;have hq:=hp P vs env S w fun x hx=>yH hl (by simpa[xaL]using hx);have hb:(ps.toList.map fun q:Nat×Operand=>(q.1,ev env q.2)).map (·.1)=xfk 0 (ps.toList.map fun q:Nat×Operand=>(q.1,ev env q.2)).length:=by rw[xcP,xaN];exact he
    have hj:=fun(S:Nat->Prop) (w:World) (h:PH S w (NS n e) ys (ps.toList.map fun q:Nat×Operand=>(q.1,ev env q.2)))=>zaM (pl:=pl) (o:=0) (j:=0) (fun i f hf=>by rw[xaT,xaT];exact ho i f hf) hb h hz;exact⟨_,_,_,_,[phF _ ys (ps.toList.map fun q:Nat×Operand=>(q.1,ev env q.2))],[],Ga (e:=e.rep) (z:=z) (xX:=ps.toList) (ha▸hc) ha hd rfl (.inl ⟨fs,hk,pl,hm,fun S w h=>(hj S w h.1).1⟩) (fun S w h=>(hj S w h.1).2),trivial,⟨hq,trivial⟩,fun u w' _ hf=>zn hf.1⟩
   ·cases h
 ·next n e n' E B ht=>
  obtain⟨hg,h⟩:=yi h;rw[xam]at hg;have hn:=ya hg.1;subst hn;obtain⟨b2,z2,hs⟩:=S9 hT hg.2;obtain⟨ys,h,he,hp⟩:=dT h;obtain⟨zero,hc,hd,hi⟩:=WY hT ht;refine⟨_,h,jM fun env w S vs hM hl=> ?_⟩;have hq:=hp P vs env S w fun x hx=>yH hl (by simpa[xaL]using hx);have hb:(ps.toList.map fun q:Nat×Operand=>(q.1,ev env q.2)).map (·.1)=xfk 0 (ps.toList.map fun q:Nat×Operand=>(q.1,ev env q.2)).length:=by rw[xcP,xaN];exact he
  have hj:=fun(S:Nat->Prop) (w:World) (h:PH S w (r7 n' e) ys (ps.toList.map fun q:Nat×Operand=>(q.1,ev env q.2)))=>CY hb h;exact⟨_,_,_,_,[phF _ ys (ps.toList.map fun q:Nat×Operand=>(q.1,ev env q.2))],[],Ga (e:=(Ty.a n' e).rep) (z:=bN n' e ys) (xX:=ps.toList) hc rfl hd rfl (.inr ⟨_,_,_,_,_,_,SL hT ht,hs,fun S w h=>by have:=(hj S w h.1).1;rwa[xcI]at this⟩) (fun S w h=>⟨Uf n' e ys,(hj S w h.1).2⟩),trivial,⟨hq,trivial⟩,fun u w' _ hf=>zn hf.1⟩
 ·cases h
theorem R9{s E:TypeId}{e:Ty}{B:Nat}(hT:zT P cf.tt)(hL:jE P cf.tt)(h:ZV cf s=some ⟨.l e,.sl E,B⟩):0<e.rep.n:=by
 obtain⟨ti,h1,rfl⟩:=hL _ _ _ _ h;exact(hT _ _ h1).2.2.1
theorem zgD(hT:zT P cf.tt)(hL:jE P cf.tt){n:Nat}{ps:Array (Nat×Operand)}{k:List (Nat×Dv)->Option R}(h:zfk cf cx σ t n ps.toList k=some r): ∃l,k l=some r/\ES P ⟨d,.buildSlice t n ps,ty,pos,aft,g⟩ cx σ F l:=by
 unfold zfk at h;split at h
 ·next e E B ht=>
  obtain⟨ha,h⟩:=yi h;have ha:=xbJ ha;rw[<-e.n_rep]at ha;obtain⟨ys,h,hc,hd⟩:=dT h;obtain⟨bytes,zero,he⟩:=VH hT hL ht;refine⟨_,h,jM fun env w S vs hM hl=> ?_⟩;have hg:=hd P vs env S w fun x hx=>yH hl (by simpa[xaL]using hx);have hb:(ps.toList.map fun q:Nat×Operand=>(q.1,ev env q.2)).map (·.1)=xfk 0 (ps.toList.map fun q:Nat×Operand=>(q.1,ev env q.2)).length:=by rw[xcP,xaN];exact hc
  have hj:=fun(S:Nat->Prop) (w:World) (h:PH S w (r7 n e) ys (ps.toList.map fun q:Nat×Operand=>(q.1,ev env q.2)))=>CY hb h;exact⟨_,_,_,_,[phF _ ys (ps.toList.map fun q:Nat×Operand=>(q.1,ev env q.2))],[],sx (e:=e.rep) (zs:=bN n e ys) (xX:=ps.toList) (ve hT ht) he (R9 hT hL ht) (Uf n e ys) ha rfl (fun S w h=>by have:=(hj S w h.1).1;rwa[xcI]at this) (fun S w h=>(hj S w h.1).2),trivial,⟨hg,trivial⟩,fun u w' _ hf=>zn hf.1⟩
 ·cases h
theorem zaj: ∀{xs:List Operand} {l:List PD},Jg cx σ xs=some l->l.length=xs.length/\ ∀(P:Program) vs env S w,(∀x∈xs,ZO P vs env S w cx σ x)->zA S (AW l (xs.map (ev env))) w
 |[],l,h=>by simp only[Jg,xaw]at h;subst h;exact⟨rfl,fun _ _ _ _ _ _=>trivial⟩
 |x::xs,l,h=>by
  unfold Jg at h;split at h
  ·next t y l' hx hr=>
   simp only[xaw]at h;subst h;obtain⟨h1,h2⟩:=zaj hr;exact⟨by simp[h1],fun P vs env S w hl=>⟨zk hx (hl x (FS)),h2 P vs env S w fun z hz=>hl z (H1 _ hz)⟩⟩
  ·cases h
theorem zhm{f:Go.Fn}{first cs:Array Operand}{k:List (Nat×Dv)->Option R}(h:zfY cx σ f first.toList cs.toList k=some r): ∃l,k l=some r/\ES P ⟨d,.makeFunc f first cs,ty,pos,aft,g⟩ cx σ F l:=by
 unfold zfY at h;split at h
 ·next _ _ _ f' l hf hc=>
  obtain rfl:first= #[]:=by cases first;simp_all
  obtain⟨h1,h2⟩:=zaj hc;refine⟨_,h,zC fun env w S vs hl=>⟨_,zja (xs:=cs.toList) rfl w,zn ?_⟩⟩;exact⟨_,rfl,by simp[h1],h2 P vs env S w fun x hx=>yH hl (by simpa[xaL]using hx)⟩
 ·cases h
end
end
section
section
variable{P:Program}{cf:Cf}{cx σ:Sg}{F:List MF}{vs:Nat->Value}{env:yP}{S:Nat->Prop}{w:World}{R:Type}{r:R}
 {d:Option Tmp} {ty t yt:TypeId} {pos:String} {aft:Array Edge} {g:Option (Nat×Bool)} {x y:Operand}
theorem tA{A B C:Type}(h:B=C)(p:(A×B)=(A×C))(x:A×B):(p▸x:A×C)=(x.1,h▸x.2):=by subst h;rfl
theorem St.sub'{we:World}{Se:Nat->Prop}{ms:List MF}{Γ Δ:List FF}{w:World}(h:St we Se ms Γ w)(hs: ∀f∈Δ,f∈Γ):St we Se ms Δ w:=
 h.weak fun S w h=>qT.2 fun f hf=>qT.1 h f (hs f hf)
theorem zh6{t:Ty}{n:RM}{r:List RM}(x:bj (.d t::n::r)):(Yf (.d t::n::r)▸x:Ak ((RM.d t::n::r).map RM.ty))=((x.1,Yf (n::r)▸x.2):t.D×Ak ((n::r).map RM.ty)):=
 tA (A:=t.D) (Yf (n::r)) (Yf (.d t::n::r)) x
theorem zh0{t:Ty}{E:TypeId}{n:RM}{r:List RM}(x:bj (.own t E::n::r)):(Yf (.own t E::n::r)▸x:Ak ((RM.own t E::n::r).map RM.ty))=((x.1,Yf (n::r)▸x.2):(Ty.l t).D×Ak ((n::r).map RM.ty)):=
 tA (A:=List t.D) (Yf (n::r)) (Yf (.own t E::n::r)) x
theorem zaA{we:World}{Se:Nat->Prop}: ∀{rs:List RM} {x:bj rs} {us:List Value} {F:List MF} {G:List FF} {w:World},
 St we Se (uY rs x us++F) (uI rs x us++G) w->St we Se F (csF (rs.map RM.ty) (Yf rs▸x) us++G) w
 |[],_,_,_,_,_,h=>h
 |[.d t],x,us,F,G,w,h=>h
 |[.own t E],x,us,F,G,w,h=>by
  have h:St we Se (mO t.rep E (us.headD undef) x::F) G w:=h;exact AZ 0 h rfl
 | .d t::n::r,x,us,F,G,w,h=>by
  rw[zh6];have h:St we Se (uY (n::r) x.2 us.tail++F) (uI (n::r) x.2 us.tail++(fV t.rep x.1 (us.headD undef)::G)) w:=St.sub' (by simpa[uY,uI,rmM,rmF]using h) (by simp;rintro f (h|h|h)<;>simp[h]);have:=zaA h;exact St.sub' this (by
   intro f hf;rcases Nm.1 hf with hf|hf
   ·rcases xae.1 hf with rfl|hf
    ·exact Nm.2 (.inr (FS))
    ·exact Nm.2 (.inl hf)
   ·exact Nm.2 (.inr (H1 _ hf)))
 | .own t E::n::r,x,us,F,G,w,h=>by
  rw[zh0];have h:St we Se (mO t.rep E (us.headD undef) x.1::(uY (n::r) x.2 us.tail++F)) (uI (n::r) x.2 us.tail++G) w:=h;have h:=AZ 0 h rfl;have h:St we Se (uY (n::r) x.2 us.tail++F) (uI (n::r) x.2 us.tail++(fV (eS t.rep) x.1 (us.headD undef)::G)) w:=St.sub' h (by simp;rintro f (h|h|h)<;>simp[h]);have:=zaA h;exact St.sub' this (by
   intro f hf;rcases Nm.1 hf with hf|hf
   ·rcases xae.1 hf with rfl|hf
    ·exact Nm.2 (.inr (FS))
    ·exact Nm.2 (.inl hf)
   ·exact Nm.2 (.inr (H1 _ hf)))
theorem CC: ∀{rs:List RM} {x:bj rs} {i:Nat},Og rs x i=Px (rs.map RM.ty) (Yf rs▸x) i
 |[],_,_=>rfl
 |[.d _],_,_=>rfl
 |[.own _ _],_,_=>rfl
 | .d t::n::r,x,i=>by rw[zh6];show(i,Dv.d t x.1)::Og (n::r) x.2 (i+1)=_;rw[CC];rfl
 | .own t E::n::r,x,i=>by rw[zh0];show(i,Dv.d (.l t) x.1)::Og (n::r) x.2 (i+1)=_;rw[CC];rfl
theorem FR: ∀rs:List RM,QT rs=zbn (rs.map RM.ty)
 |[]=>rfl
 |[_]=>rfl
 |_::_::_=>rfl
theorem zau: ∀{ts:List Ty} {x:Ak ts} {i:Nat} {us:List Value},zA S (csF ts x us) w->us.length=ts.length-> ∀e∈Px ts x i,∃j u,e.1=i+j/\us[j]? =some u/\(vg P vs e.2 u).p S w
 |[],_,_,_,_,_,e,he=>absurd he xaa
 |[t],x,i,[],h,hl,e,he=>by cases hl
 |[t],x,i,u::us,h,hl,e,he=>by
  obtain rfl:=xah.1 he;exact⟨0,u,rfl,rfl,h.1⟩
 |t::s::r,x,i,[],h,hl,e,he=>by cases hl
 |t::s::r,x,i,u::us,h,hl,e,he=>by
  rcases xae.1 he with rfl|he
  ·exact⟨0,u,rfl,rfl,h.1⟩
  ·obtain⟨j,v,h1,h2,h3⟩:=zau (i:=i+1) h.2 (by simpa using hl) e he;exact⟨j+1,v,by omega,by simpa using h2,h3⟩
theorem n9: ∀{ts:List Ty} {x:Ak ts} {us:List Value},zA S (csF ts x us) w->us.length=ts.length-> ∀e∈Px ts x (bif zbn ts then 0 else 1),(xG P vs e.2 (ZR us) e.1).p S w
 |[],_,_,_,_,e,he=>absurd he xaa
 |[t],x,[],_,hl,_,_=>by cases hl
 |[t],x,[v],h,hl,e,he=>by
  obtain rfl:=xah.1 he;exact h.1
 |[t],x,_::_::_,_,hl,_,_=>by simp at hl
 |t::s::q,x,[],_,hl,_,_=>by cases hl
 |t::s::q,x,[_],_,hl,_,_=>by simp at hl
 |t::s::q,x,v::v'::us,h,hl,e,he=>by
  obtain⟨j,u,h1,h2,h3⟩:=zau (P:=P) (vs:=vs) h hl e he;obtain⟨i,dv⟩:=e;simp only[zbn,cond_false]at h1;obtain rfl:i=j+1:=by omega
  exact⟨(v::v'::us).toArray,u,rfl,by simpa using h2,h3⟩
theorem lu: ∀{cs:List Vb} {f:FuncId} {s:Vb},Ab cs f=some s->s∈cs/\s.f=f/\oQ s.dom=true/\s.bk=0
 |c::cs,f,s,h=>by
  unfold Ab at h;cases hb:xan c.f f && (oQ c.dom && xan c.bk 0)<;>rw[hb]at h
  ·obtain⟨h1,h2⟩:=lu h;exact⟨H1 _ h1,h2⟩
  ·simp only[cond_true,xaw]at h;subst h;rw[xam,xam]at hb;exact⟨FS,ya hb.1,hb.2.1,ya hb.2.2⟩
theorem dN: ∀{dom:List AM} {x:Kc dom} {us:List Value},oQ dom=true->YX dom x us=[]
 |[],_,_,_=>rfl
 | .d _::r,x,us,h=>dN (dom:=r) (x:=x.2) (us:=us.tail) h
 | .q _::r,x,us,h=>dN (dom:=r) (x:=x.2) (us:=us.tail) h
 | .fn _ _::r,x,us,h=>dN (dom:=r) (x:=x.2) (us:=us.tail) h
 | .own _ _::_,_,_,h=>by cases h
theorem BP: ∀{full:List AM} {cs:List PD} {z:Kc full},Ju full cs=some z->cs.length=full.length/\ ∀{S:Nat->Prop} {w:World} {cvs:List Value},cvs.length=cs.length->zA S (AW cs cvs) w->zA S (kL P full z cvs) w
 |[],[],_,_=>⟨rfl,fun _ _=>trivial⟩
 | .q t::r,c::cs,z,h=>by
  simp only[Ju]at h;obtain⟨e,h⟩:=ym h;subst e;split at h
  ·next z' hz=>
   obtain rfl:=xds h;obtain⟨h1,h2⟩:=BP hz;refine⟨by simp[h1],fun{S w cvs} hl ha=> ?_⟩
   cases cvs with
   |nil=>cases hl
   |cons v cvs=>exact⟨ha.1,h2 (by simpa using hl) ha.2⟩
  ·cases h
 |[],_::_,_,h=>by simp[Ju]at h
 | .q _::_,[],_,h=>by simp[Ju]at h
 | .d _::_,_,_,h=>by simp[Ju]at h
 | .own _ _::_,_,_,h=>by simp[Ju]at h
 | .fn _ _::_,_,_,h=>by simp[Ju]at h
theorem O4: ∀{full:List AM} {dom:List Ty} {x:bn dom} {cs:List PD} {z:Kc full},Cc full dom x cs=some z->dom.length+cs.length=full.length/\
 ∀{S:Nat->Prop} {w:World} {us cvs:List Value},us.length=dom.length->cvs.length=cs.length->zA S (tsF dom x us) w->zA S (AW cs cvs) w->zA S (kL P full z (us++cvs)) w
 |full,[],x,cs,z,h=>by
  have h:Ju full cs=some z:=by cases full<;>(try cases‹AM›)<;>simpa[Cc]using h
  obtain⟨h1,h2⟩:=BP (P:=P) h;refine⟨by simp[h1],fun{S w us cvs} hl hb _ ha=> ?_⟩;obtain rfl:=xbG.1 hl;exact h2 hb ha
 | .d t::r,s::dom,x,cs,z,h=>by
  simp only[Cc]at h;obtain⟨e,h⟩:=ym h;subst e;split at h
  ·next z' hz=>
   obtain rfl:=xds h;obtain⟨h1,h2⟩:=O4 hz;refine⟨by simp;omega,fun{S w us cvs} hl hb ht ha=> ?_⟩
   cases us with
   |nil=>cases hl
   |cons v us=>exact⟨ht.1,h2 (by simpa using hl) hb ht.2 ha⟩
  ·cases h
 |[],_::_,_,_,_,h=>by simp[Cc]at h
 | .q _::_,_::_,_,_,_,h=>by simp[Cc]at h
 | .own _ _::_,_::_,_,_,_,h=>by simp[Cc]at h
 | .fn _ _::_,_::_,_,_,_,h=>by simp[Cc]at h
theorem Pj{A B:Type}(h:A=B){o:Option A}{r:B}(ho:(h▸o:Option B)=some r): ∃r':A,o=some r'/\(h▸r':B)=r:=by
 subst h;exact⟨r,ho,rfl⟩
theorem aO{s:Vb}(hs:y5 P s)(hn:oQ s.dom=true)(hk:s.bk=0){z:Kc s.dom}{q:bj s.cod}(hz:s.M z=some q){us:List Value}(hl:us.length=s.dom.length):
 Fn P s.f us.toArray (kL P s.dom z us) ZR (fun us=>csF (s.cod.map RM.ty) (Yf s.cod▸q) us) (fun us=>us.length=s.cod.length):=by
 have h:=hs.plain hk hz hl;rw[dN hn]at h;refine MA.frozen h fun u w' we Se ha=> ?_;have:=zaA (rs:=s.cod) (x:=q) (us:=u) (F:=[]) (G:=[]) (by simpa using ha);simpa using this
theorem Fn.weakΓ{U:Type}{f:FuncId}{args:Array Value}{Γ Γ':List FF}{val:U->Value}{facts:U->List FF}{ok:U->Prop}(h:Fn P f args Γ val facts ok)(hs: ∀S w,zA S Γ' w->zA S Γ w):Fn P f args Γ' val facts ok:=
 fun w Se h1 h2=>h w Se h1 (hs Se w h2)
theorem Pw(hC: ∀s∈cf.cs,y5 P s){v:Option Dv}{dom cod:List Ty}{k:(bn dom->Option (Ak cod))->Option R}(h:asF cf σ v dom cod k=some r):
 ∃g,k g=some r/\ ∀vs S w (dv:Dv) u,v=some dv->(vg P vs dv u).p S w->(fnF P dom cod g u).p S w:=by
 unfold asF at h;split at h
 ·next f c=>
  split at h
  ·next s hs=>
   obtain⟨h1,h2,h3,h4⟩:=lu hs;have hf:=hC s h1;split at h
   ·next he _=>
    subst he;refine⟨_,h,fun vs S w dv u hd hh=> ?_⟩;cases hd;obtain⟨cs,hu,hi,hj⟩:=hh;refine⟨f,cs,AW c cs,hu,⟨h2▸hf.1,fun x q hx us hl=> ?_⟩,hj⟩;simp only at hx;split at hx
    ·next z hz=>
     obtain⟨q',hk,hm⟩:=Pj _ hx;obtain⟨hp,hb⟩:=O4 (P:=P) hz;have hg:=aO hf h3 h4 hk (us:=us++cs) (by simp;omega);rw[h2]at hg;subst hm;refine(hg.weakΓ fun S w ha=>hb hl hi (zA.left ha) (zA.right ha)).ok_mono fun us hn=>by simpa using hn
    ·cases hx
   ·cases h
  ·cases h
 ·next d' c' g'=>
  split at h
  ·next hd hc _ _=>
   subst hd;subst hc;exact⟨_,h,fun vs S w dv u ho hh=>by cases ho;exact hh⟩
  ·cases h
 ·cases h
end
end
section
def aZ(P:Program)(ex:List (Nat×Bool)):Prop:= ∀f b,QJ ex f=some b-> ∃fn,P.funcs[f]? =some fn/\(fn.name== "runtime.NumGoroutine")=false/\fn.body=none/\(xdX fn).isNone=true/\
 (b=true->xeO fn=some (fun args=>do
  let(x,y,c)<-xbM "Add64" args
  pure (xbS ((x+y+c) % xaZ) ((x+y+c)/xaZ))))/\
 (b=false->xeO fn=some (fun args=>do
  let(x,y,b)<-xbM "Sub64" args
  pure (xbS ((x+xaZ-y-b) % xaZ) (if x<y+b then 1 else 0))))
section
variable{P:Program}{cf:Cf}{cx σ:Sg}{F:List MF}{vs:Nat->Value}{env:yP}{S:Nat->Prop}{w:World}{R:Type}{r:R}
 {d:Option Tmp} {ty t yt:TypeId} {pos:String} {aft:Array Edge} {g:Option (Nat×Bool)} {x y:Operand}
theorem zgr{x y z:Nat}{k:List (Nat×Dv)->Option R}(h:exU true x y z k=some r):z<=1/\ ∃p q:Nat,p=(x+y+z) % 18446744073709551616/\q=(x+y+z)/18446744073709551616/\k [(1,.d .u p),(2,.d .u q)]=some r:=by
 obtain⟨h1,h⟩:=kv h;obtain⟨p,hp,h⟩:=xp h;obtain⟨q,hq,h⟩:=xp h;exact⟨h1,p,q,hp,hq,h⟩
theorem zhj{x y z:Nat}{k:List (Nat×Dv)->Option R}(h:exU false x y z k=some r):z<=1/\ ∃p q:Nat,p=(x+18446744073709551616-y-z) % 18446744073709551616/\q=(if x<y+z then 1 else 0)/\k [(1,.d .u p),(2,.d .u q)]=some r:=by
 obtain⟨h1,h⟩:=kv h;obtain⟨p,hp,h⟩:=xp h;obtain⟨q,hq,h⟩:=xp h;exact⟨h1,p,q,hp,hq,h⟩
theorem cz(hC: ∀s∈cf.cs,y5 P s): ∀{dom:List AM} {xs:List Operand} {cs:List PD} {k:Kc dom->Option R},XJ cf cx σ dom xs cs k=some r->
 ∃z,k z=some r/\xs.length+cs.length=dom.length/\ ∀vs env S w,(∀x∈xs,ZO P vs env S w cx σ x)-> ∀cvs:List Value,cvs.length=cs.length->zA S (AW cs cvs) w->zA S (kL P dom z (xs.map (ev env)++cvs)) w
 |[],[],[],k,h=>⟨(),h,rfl,fun _ _ _ _ _ _ _ _=>trivial⟩
 | .q t::dom,[],c::cs,k,h=>by
  simp only[XJ]at h;obtain⟨e,h⟩:=ym h;subst e;obtain⟨z,h1,h2,h3⟩:=cz hC h;refine⟨_,h1,by simp at h2⊢;omega,fun vs env S w hl cvs ha hb=> ?_⟩
  cases cvs with
  |nil=>cases ha
  |cons v cvs=>exact⟨hb.1,h3 vs env S w hl cvs (by simpa using ha) hb.2⟩
 | .d t::dom,x::xs,cs,k,h=>by
  simp only[XJ]at h;obtain⟨y,h,hy⟩:=XO h;obtain⟨z,h1,h2,h3⟩:=cz hC h;exact⟨_,h1,by simp at h2⊢;omega,fun vs env S w hl cvs ha hb=>⟨hy P vs env S w (hl x (FS)),h3 vs env S w (fun z hz=>hl z (H1 _ hz)) cvs ha hb⟩⟩
 | .q t::dom,x::xs,cs,k,h=>by
  simp only[XJ]at h;split at h
  ·next s y hx=>
   obtain⟨e,h⟩:=ym h;subst e;obtain⟨z,h1,h2,h3⟩:=cz hC h;exact⟨_,h1,by simp at h2⊢;omega,fun vs env S w hl cvs ha hb=>⟨zk hx (hl x (FS)),h3 vs env S w (fun z hz=>hl z (H1 _ hz)) cvs ha hb⟩⟩
  ·cases h
 | .fn dom' cod::dom,x::xs,cs,k,h=>by
  simp only[XJ]at h;obtain⟨f,h,hf⟩:=Pw hC h;obtain⟨z,h1,h2,h3⟩:=cz hC h;refine⟨_,h1,by simp at h2⊢;omega,fun vs env S w hl cvs ha hb=>⟨?_,h3 vs env S w (fun z hz=>hl z (H1 _ hz)) cvs ha hb⟩⟩
  cases hv:xW cx σ x with
  |none=>rename_i h0;rw[hv]at h0;simp[asF]at h0
  |some v=>exact hf vs S w v _ hv (zk hv (hl x (FS)))
 |[],_::_,_,_,h=>by simp[XJ]at h
 |[],[],_::_,_,h=>by simp[XJ]at h
 | .d _::_,[],_,_,h=>by simp[XJ]at h
 | .own _ _::_,_,_,_,h=>by simp[XJ]at h
 | .fn _ _::_,[],_,_,h=>by simp[XJ]at h
 | .q _::_,[],[],_,h=>by simp[XJ]at h
theorem Ca: ∀{dom:List Ty} {xs:List Operand} {k:bn dom->Option R},pF cx σ dom xs k=some r->
 ∃z,k z=some r/\xs.length=dom.length/\ ∀(P:Program) vs env S w,(∀x∈xs,ZO P vs env S w cx σ x)->zA S (tsF dom z (xs.map (ev env))) w
 |[],[],k,h=>⟨(),h,rfl,fun _ _ _ _ _ _=>trivial⟩
 |t::dom,x::xs,k,h=>by
  simp only[pF]at h;obtain⟨y,h,hy⟩:=XO h;obtain⟨z,h1,h2,h3⟩:=Ca h;exact⟨_,h1,by simp[h2],fun P vs env S w hl=>⟨hy P vs env S w (hl x (FS)),h3 P vs env S w (fun z hz=>hl z (H1 _ hz))⟩⟩
 |[],_::_,_,h=>by simp[pF]at h
 |_::_,[],_,h=>by simp[pF]at h
theorem zfD(hC: ∀s∈cf.cs,y5 P s)(hX:aZ P cf.ex){f:Operand}{ags:Array Operand}{ts:Array TypeId}{k:List (Nat×Dv)->Option R}(h:RQ cf cx σ f ags.toList k=some r):
 ∃l,k l=some r/\ES P ⟨d,.call ⟨.value f,ags,ts⟩,ty,pos,aft,g⟩ cx σ F l:=by
 have hf: ∀{vs env S w},(∀t'∈yx (.call ⟨.value f,ags,ts⟩),Lk P vs env S w cx σ t')->ZO P vs env S w cx σ f:=fun hl=>yH hl (by simp[xaL,xef]);have ha: ∀{vs env S w},(∀t'∈yx (.call ⟨.value f,ags,ts⟩),Lk P vs env S w cx σ t')-> ∀x∈ags.toList,ZO P vs env S w cx σ x:=fun hl x hx=>yH hl (by simp only[xaL,xef,Array.toList_append,Nm];exact .inr hx);unfold RQ at h;split at h
 ·next f0 cs hc=>
  split at h
  ·next s hs=>
   obtain⟨h1,h2,h3,h4⟩:=lu hs;have hr:=hC s h1;obtain⟨z,h,hd,hz⟩:=cz hC h;obtain⟨q,hq,h⟩:=py h;refine⟨_,h,jM fun env w S vs hM hl=> ?_⟩;obtain⟨cvs,hv,ht,hu⟩:=zk hc (hf hl);have hk:=aO hr h3 h4 hq (us:=ags.toList.map (ev env)++cvs) (by simp at hd⊢;omega);rw[h2]at hk;refine⟨_,_,_,_,kL P s.dom z (ags.toList.map (ev env)++cvs),[],cR (asv:=ags.toList) (h2▸hr.1) hv hk rfl (fun S w h=>h),trivial,hz vs env S w (ha hl) cvs ht hu,fun us w' hm hn=> ?_⟩;unfold zch;rw[CC,FR];exact n9 hn (by simpa using hm)
  ·split at h
   ·next _ _ _ b x y z hb hD=>
    obtain rfl:ags= #[x,y,z]:=by cases ags;simp_all
    obtain⟨hw,h⟩:=yi h
    cases f with
    |func f1=>
     simp only[xW,xaw,Dv.fn.injEq]at hc;obtain⟨rfl,_⟩:=hc;obtain⟨fn,e1,e2,e3,e4,e5,e6⟩:=hX _ _ hb;unfold exD at h;split at h
     ·next x' y' z' hx hy hz=>
      cases b
      ·obtain⟨hg,p,q,hp,hq,h⟩:=zhj h;refine⟨_,h,zC fun env w S vs hl=> ?_⟩;have hi:=xE hx (ha hl x (by simp));have hj:=xE hy (ha hl y (by simp));have ho:=xE hz (ha hl z (by simp));refine⟨_,v_2 (zcP e1 e2 e3 e4 (e6 rfl) hi.1 hj.1 ho.1 hg) hp hq w,fun e he=> ?_⟩;rcases xae.1 he with rfl|he
       ·exact⟨_,_,rfl,rfl,qA (Y4 hp)⟩
       ·obtain rfl:=xah.1 he;exact⟨_,_,rfl,rfl,qA (zdk hi.2 hj.2 hg hq)⟩
      ·obtain⟨hg,p,q,hp,hq,h⟩:=zgr h;refine⟨_,h,zC fun env w S vs hl=> ?_⟩;have hi:=xE hx (ha hl x (by simp));have hj:=xE hy (ha hl y (by simp));have ho:=xE hz (ha hl z (by simp));refine⟨_,v_2 (zc0 e1 e2 e3 e4 (e5 rfl) hi.1 hj.1 ho.1 hg) hp hq w,fun e he=> ?_⟩;rcases xae.1 he with rfl|he
       ·exact⟨_,_,rfl,rfl,qA (Y4 hp)⟩
       ·obtain rfl:=xah.1 he;exact⟨_,_,rfl,rfl,qA (zb2 hi.2 hj.2 hg hq)⟩
     ·cases h
    |_=>simp[zgM]at hw
   ·cases h
 ·next dom cod g' hc=>
  obtain⟨z,h,hd,hz⟩:=Ca h;obtain⟨q,hq,h⟩:=py h;refine⟨_,h,jM fun env w S vs hM hl=> ?_⟩;obtain⟨fid,Jg,FG,hv,⟨hb,hA⟩,hB⟩:=zk hc (hf hl);have hk:=hA z q hq (ags.toList.map (ev env)) (by simpa using hd);exact⟨_,_,_,_,tsF dom z (ags.toList.map (ev env))++FG,[],cR (asv:=ags.toList) hb hv hk rfl (fun S w h=>h),trivial,zA.append (hz P vs env S w (ha hl)) hB,fun us w' hm hn=>n9 hn hm⟩
 ·cases h
theorem zeo(hT:zT P cf.tt)(hL:jE P cf.tt)(hC: ∀s∈cf.cs,y5 P s)(hX:aZ P cf.ex){op:Op}{k:List (Nat×Dv)->Option R}(h:zep cf cx σ op k=some r): ∃l,k l=some r/\ES P ⟨d,op,ty,pos,aft,g⟩ cx σ F l:=by
 unfold zep at h;split at h
 ·exact PT (.inl rfl) h
 ·exact PT (.inr rfl) h
 ·exact zhx h
 ·exact zeE h
 ·exact zgN h
 ·exact zgV h
 ·exact bop h (zbq hT)
 ·exact zhD hT h
 ·exact zeZ hT h
 ·exact zc8 hT hL h
 ·exact zbC hT h
 ·exact S6 hT h
 ·exact zcG hT hL h
 ·exact zh9 hT h
 ·exact zgy h
 ·exact zct hT h
 ·exact zgD hT hL h
 ·exact zhm h
 ·exact zgF hT h
 ·exact zic (b:=true) h
 ·exact zic (b:=false) h
 ·exact zfD hC hX h
 ·cases h
end
end
section
def Lr(P:Program)(s:ER):Prop:=
 rf P s.f=true/\ ∀(x:bn s.dom) (vs:List Value),vs.length=s.dom.length->Fn P s.f vs.toArray (tsF s.dom x vs) (fun v:Value=>v) (fun v=>[zen s.g (s.mc x) v]) (fun _=>True)
def Iy(P:Program)(s:oO):Prop:=
 rf P s.f=true/\ ∀xss ix r a p lo n xss',s.M xss ix r a p lo n=some xss'-> ∀(u hr hv:Value),(vb u)[r]? =some hr->Dw (yY u) lo n hv->VW a->VW p->
  ∀we Se F G w,St we Se (gn s.t.rep s.E s.E1 u xss ix::F) G w->Calls P s.f #[hr,.int .i64 a,.int .i64 p,hv] w fun e w'=> ∃v u',e= .returned v/\yY u'=yY u/\St we Se (gn s.t.rep s.E s.E1 u' xss' ix::F) G w'
def za5(P:Program)(s:sj):Prop:=
 rf P s.f=true/\ ∀(x:Kc s.dom) (X Y:Type) (mX:X->Value->MF) (mY:Y->Value->MF) (g:List s.t.D->X->Option (List s.t.D×(X⊕Y))) (x0:X) (r:X⊕Y),s.M x g x0=some r-> ∀(l:Nat) (vs:List Value),vs.length=s.dom.length->Ek P l s.t.rep s.E mX mY g->
  ∀u we Se F G w,St we Se (mX x0 u::F) (kL P s.dom x vs++G) w->Calls P s.f (.func (.yield l) #[] #[]::vs).toArray w fun e w'=>(∃v,e= .returned v)/\ ∃u',St we Se (xfp (fun x=>mX x u') (fun y=>mY y u') r::F) G w'
structure rm(P:Program)(cf:Cf):Prop where
 ex:aZ P cf.ex
 cl: ∀s∈cf.cl,Lr P s
 ms: ∀s∈cf.ms,Iy P s
 is: ∀s∈cf.is,za5 P s
 pp:P=Tryz.prog
section
variable{P:Program}{cf:Cf}{cx σ:Sg}{F:List MF}{vs:Nat->Value}{env:yP}{S:Nat->Prop}{w:World}{R:Type}{r:R}
 {d:Option Tmp} {ty t yt:TypeId} {pos:String} {aft:Array Edge} {g:Option (Nat×Bool)} {x y:Operand}
theorem S7{f:FuncId}: ∀{l:List oO} {s:oO},O1 l f=some s->s∈l/\s.f=f
 |c::l,s,h=>by
  unfold O1 at h;cases hb:xan c.f f<;>rw[hb]at h
  ·obtain⟨h1,h2⟩:=S7 h;exact⟨H1 _ h1,h2⟩
  ·simp only[cond_true,xaw]at h;subst h;exact⟨FS,ya hb⟩
theorem zaw{f:FuncId}: ∀{l:List ER} {s:ER},zad l f=some s->s∈l/\s.f=f
 |c::l,s,h=>by
  unfold zad at h;cases hb:xan c.f f<;>rw[hb]at h
  ·obtain⟨h1,h2⟩:=zaw h;exact⟨H1 _ h1,h2⟩
  ·simp only[cond_true,xaw]at h;subst h;exact⟨FS,ya hb⟩
theorem SG{f:FuncId}: ∀{l:List sj} {s:sj},zc3 l f=some s->s∈l/\s.f=f
 |c::l,s,h=>by
  unfold zc3 at h;cases hb:xan c.f f<;>rw[hb]at h
  ·obtain⟨h1,h2⟩:=SG h;exact⟨H1 _ h1,h2⟩
  ·simp only[cond_true,xaw]at h;subst h;exact⟨FS,ya hb⟩
theorem AU{α:Type}{e:zX α}{E E1:TypeId}{u:Value}{xss:List (List α)}{ix:List Nat}(h:(gn e E E1 u xss ix).p S w):(vb u).length=xss.length/\(mO (u4 (vb u)) E (yY u) ix).p S w/\yv S (wm e E1 (vb u) xss) w:=⟨h.1.1,h.1.2.1,h.1.2.2⟩
theorem e9{α:Type}{e:zX α}{E E1:TypeId}{u v:Value}{xss:List (List α)}{ix:List Nat}{r:Nat}(h:(gn e E E1 u xss ix).p S w)(hr:(vb u)[r]? =some v):(mO e E1 v (jA xss r)).p S w/\r<xss.length:=by
 obtain⟨h1,_,h3⟩:=AU h;have hl:=(xat.1 hr).1;have h4:xss[r]? =some (jA xss r):=by
  unfold jA;rw[UV,IR (by omega)];rfl
 exact⟨yv.get h3 (Wv hr h4),by omega⟩
theorem TH(hT:zT P cf.tt)(hL:jE P cf.tt){k:List (Nat×Dv)->Option R}(h:BL cf cx σ t x y k=some r): ∃l,k l=some r/\ES P ⟨d,.indexAddr t x y,ty,pos,aft,g⟩ cx σ F l:=by
 have hx: ∀{vs env S w},(∀t'∈yx (.indexAddr t x y),Lk P vs env S w cx σ t')->ZO P vs env S w cx σ x:=fun hl=>yH hl (by simp[xaL]);have hy: ∀{vs env S w},(∀t'∈yx (.indexAddr t x y),Lk P vs env S w cx σ t')->ZO P vs env S w cx σ y:=fun hl=>yH hl (by simp[xaL]);unfold BL at h;split at h
 ·next e E B o ht ha=>
  split at h
  ·next s E' E1 xss ix ho=>
   obtain⟨bytes,zero,hb⟩:=VH hT hL ht;obtain⟨j,hj,h,hc⟩:=DH h;refine⟨_,h,?_⟩;intro env w S vs hS hM hl;obtain⟨ik,hd⟩:=hc P vs env S w (hy hl);have hm:(gn s.rep E' E1 (vs o) xss ix).p S w:=uH hM ho;obtain⟨b,cap,hv,_⟩:=QB (AU hm).2.1 (xbd (xaj _) hj);have he:ev env x=yY (vs o):=zk ha (hx hl);exact kh.of_value (lP (ve hT ht) hb (he.trans hv) hd hj w) ⟨yp.refl _ _,zn ⟨b,_,_,hv,hj,rfl⟩⟩
  ·cases h
 ·next e E B o lo n ht ha=>
  split at h
  ·next s E' E1 xss ix ho=>
   obtain⟨bytes,zero,hb⟩:=VH hT hL ht;obtain⟨j,hj,h,hc⟩:=DH h;refine⟨_,h,?_⟩;intro env w S vs hS hM hl;obtain⟨ik,hd⟩:=hc P vs env S w (hy hl);rcases(zk ha (hx hl):Dw _ _ _ _).old with⟨b,m,cap,c,q1,q2,q3,q4,q5⟩|⟨q1,_⟩
   ·refine kh.of_value (lP (ve hT ht) hb q5 hd hj w) ⟨yp.refl _ _,zn ⟨b,_,_,q1,by omega,?_⟩⟩;show Value.pointer (some ⟨b,0+lo*1+j*1,none⟩)=Value.pointer (some ⟨b,0+(lo+j)*1,none⟩);rw[xaV,xcY]
   ·omega
  ·cases h
 ·next e E B o p ht ha=>
  split at h
  ·next s E' E1 xss ix ho=>
   obtain⟨hf,h1⟩:=ym h;cases hf;obtain⟨bytes,zero,hb⟩:=VH hT hL ht;obtain⟨j,hj,h,hc⟩:=DH h1;refine⟨_,h,?_⟩;intro env w S vs hS hM hl;obtain⟨ik,hd⟩:=hc P vs env S w (hy hl);have hm:(gn e.rep E' E1 (vs o) xss ix).p S w:=uH hM ho;have he:(vb (vs o))[p]? =some (ev env x):=zk ha (hx hl);obtain⟨b,cap,hv,_⟩:=QB (e9 hm he).1 (xbd (xaj _) hj);refine kh.of_value (lP (ve hT ht) hb hv hd hj w) ⟨yp.refl _ _,zn ⟨fun z=>Sub.self e.rep z,b,_,_,by rw[<-hv];exact he,hj,by simp[Fl.self]⟩⟩
  ·cases h
 ·cases h
theorem zco(hT:zT P cf.tt){k:List (Nat×Dv)->Option R}(h:Hv cf cx σ t x k=some r): ∃l,k l=some r/\ES P ⟨d,.load t x,ty,pos,aft,g⟩ cx σ F l:=by
 have hx: ∀{vs env S w},(∀t'∈yx (.load t x),Lk P vs env S w cx σ t')->ZO P vs env S w cx σ x:=fun hl=>yH hl (by simp[xaL]);unfold Hv at h;split at h
 ·next e E B o j ht hd=>
  split at h
  ·next s E' E1 xss ix ho=>
   obtain⟨zero,he,_⟩:=WY hT ht;obtain⟨q,hq,h⟩:=xp h;refine⟨_,h,jM fun env w S vs hM hl=> ?_⟩;have hm:(gn s.rep E' E1 (vs o) xss ix).p S w:=uH hM ho;obtain⟨b,m,cap0,h1,h2,h3⟩:=zk hd (hx hl);obtain⟨a1,a2,a3⟩:=AU hm;have hn:m=ix.length:=by
    obtain⟨cs,h5,h6⟩:=a2;rcases h5.2 with⟨hv,h7⟩|⟨g',cap',cur,hv,_⟩
    ·rw[h1]at hv;cases hv
    ·rw[h1]at hv;cases hv;rfl
   obtain⟨b',cap',hv,hb⟩:=QB a2 (by omega);rw[h1]at hv;cases hv;have ha:=Sub.rowT0 (u4 (vb (vs o))) cap0 ix j (ix.getD j 0) (getD_some 0 h2);exact⟨_,_,_,_,[],[mB (rowT (u4 (vb (vs o))) cap0) E' b ix],Qq 0 rfl h3 ha he,⟨hb,trivial⟩,trivial,fun u w' _ hf=>zn (by
    have:=zdq hf.1;rw[<-hq]at this;exact this)⟩
  ·cases h
 ·next ti o e p j f hg hd=>
  split at h
  ·next s E' E1 xss ix ho=>
   obtain⟨hc,h1⟩:=ym h;cases hc;obtain⟨q,hq,h2⟩:=xp h1;obtain⟨hc,h⟩:=ym h2;obtain⟨zero,he,_⟩:=WY hT hg;obtain⟨off,ff,gt,st⟩:=f;simp only at hc;subst hc;refine⟨_,h,jM fun env w S vs hM hl=> ?_⟩;have hm:(gn e.rep E' E1 (vs o) xss ix).p S w:=uH hM ho;obtain⟨h0,b,m,cap,h1,h2,h3⟩:=zk hd (hx hl);have hr:=(e9 hm h1).1;have hn:m=(jA (α:=e.D) xss p).length:=by
    obtain⟨cs,h5,h6⟩:=hr;rcases h5.2 with⟨hv,h7⟩|⟨g',cap',cur,hv,_⟩
    ·cases hv
    ·cases hv;rfl
   obtain⟨b',cap',hv,hb⟩:=QB hr (by omega);cases hv;have ha:=(Sub.rowT0 e.rep cap (jA (α:=e.D) xss p) j ((jA (α:=e.D) xss p).getD j e.z) (getD_some e.z (by omega))).comp (h0 ((jA (α:=e.D) xss p).getD j e.z));subst hq;exact⟨_,_,_,_,[],[mB (rowT e.rep cap) E1 b (jA (α:=e.D) xss p)],Qq 0 rfl h3 ha he,⟨hb,trivial⟩,trivial,fun u w' _ hf=>zn hf.1⟩
  ·cases h
 ·cases h
theorem Tw(hT:zT P cf.tt)(hL:jE P cf.tt){lo hi:Option Operand}{k:List (Nat×Dv)->Option R}(h:AO cf cx σ t x lo hi k=some r): ∃l,k l=some r/\ES P ⟨d,.slice t x lo hi none,ty,pos,aft,g⟩ cx σ F l:=by
 have hx: ∀{vs env S w},(∀t'∈yx (.slice t x lo hi none),Lk P vs env S w cx σ t')->ZO P vs env S w cx σ x:=fun hl=>yH hl (by simp[xaL]);have hb: ∀{vs env S w z},lo=some z->(∀t'∈yx (.slice t x lo hi none),Lk P vs env S w cx σ t')->ZO P vs env S w cx σ z:=fun e hl=>yH hl (by simp[xaL,e]);have hc: ∀{vs env S w z},hi=some z->(∀t'∈yx (.slice t x lo hi none),Lk P vs env S w cx σ t')->ZO P vs env S w cx σ z:=fun e hl=>yH hl (by simp[xaL,e]);unfold AO at h;split at h
 ·next e E B o ht hk=>
  split at h
  ·next s E' E1 xss ix ho=>
   obtain⟨bytes,zero,hd⟩:=VH hT hL ht
   have key: ∀(l m:Nat),l<=m->m<=ix.length->k [(0,.mv o l (m-l))]=some r->(∀vs env S w,(∀t'∈yx (.slice t x lo hi none),Lk P vs env S w cx σ t')->((lo.map (ev env))=some (.int .i64 (l:Int))\/(lo=none/\l=0))/\((hi.map (ev env))=some (.int .i64 (m:Int))\/(hi=none/\m=ix.length)))->
    ∃l,k l=some r/\ES P ⟨d,.slice t x lo hi none,ty,pos,aft,g⟩ cx σ F l:=by
    intro l m h1 h2 h5 h4;refine⟨_,h5,fun env w S vs hS hM hl=> ?_⟩;obtain⟨h6,h7⟩:=h4 vs env S w hl;have he:ev env x=yY (vs o):=zk hk (hx hl);have hm:(gn s.rep E' E1 (vs o) xss ix).p S w:=uH hM ho;rcases J6 (AU hm).2.1 with⟨hv,hf⟩|⟨b,cap,hv,hg,hn⟩
    ·rw[hf]at h2 h7;obtain rfl:m=0:=Nat.le_zero.1 h2;obtain rfl:l=0:=Nat.le_zero.1 h1;have hr:=B3 (P:=P) (w:=w) (ve hT ht) hd (h6.imp id fun q=>by rw[q.1];rfl) (h7.imp id fun q=>by rw[q.1];rfl);refine kh.of_value (v:= .slice none 0 0) (w':=w) (by simp[execOp,he.trans hv,hr]) ⟨yp.refl _ _,zn (.inr ⟨hv,rfl,rfl,rfl⟩)⟩
    ·have hr:=mQ (P:=P) (b:=b) (o:=0) (n:=ix.length) (cap:=cap) (w:=w) (l:=l) (h:=m) (ve hT ht) hd (h6.imp id fun q=>⟨by rw[q.1];rfl,q.2⟩) (h7.imp id fun q=>⟨by rw[q.1];rfl,q.2⟩) h1 (xao h2 hg);rw[<-hv,<-he]at hr;refine kh.of_value (v:= .slice (if cap=l then some ⟨b,0,none⟩else some ((⟨b,0,none⟩:Addr).add (l*1))) (m-l) (cap-l)) (w':=w) (by simp[execOp,hr,Ty.rep,eS]) ⟨yp.refl _ _,zn ?_⟩;exact .inl ⟨b,ix.length,cap,hv,by omega,hg,by omega,by rw[vP]⟩
   rcases QD h with⟨e1,h1⟩|⟨zl,l,e1,h1,hj⟩
   ·rcases QD h1 with⟨e2,h2⟩|⟨zh,m,e2,h2,ha⟩
    ·obtain⟨a,c,q1,q2,q3,q4,q5⟩:=BN h2;exact key a c q1 q2 q3 fun vs env S w hl=>⟨.inr ⟨e1,(q4.resolve_left (by simp)).2⟩,.inr ⟨e2,(q5.resolve_left (by simp)).2⟩⟩
    ·obtain⟨a,c,q1,q2,q3,q4,q5⟩:=BN h2;rcases q5 with q5|⟨q5,_⟩
     ·cases q5;exact key a m q1 q2 q3 fun vs env S w hl=>⟨.inr ⟨e1,(q4.resolve_left (by simp)).2⟩,.inl (by rw[e2];exact congrArg some (ha P vs env S w (hc e2 hl)))⟩
     ·cases q5
   ·rcases QD h1 with⟨e2,h2⟩|⟨zh,m,e2,h2,ha⟩
    ·obtain⟨a,c,q1,q2,q3,q4,q5⟩:=BN h2;rcases q4 with q4|⟨q4,_⟩
     ·cases q4;exact key l c q1 q2 q3 fun vs env S w hl=>⟨.inl (by rw[e1];exact congrArg some (hj P vs env S w (hb e1 hl))),.inr ⟨e2,(q5.resolve_left (by simp)).2⟩⟩
     ·cases q4
    ·obtain⟨a,c,q1,q2,q3,q4,q5⟩:=BN h2;rcases q4 with q4|⟨q4,_⟩
     ·rcases q5 with q5|⟨q5,_⟩
      ·cases q4;cases q5;exact key l m q1 q2 q3 fun vs env S w hl=>⟨.inl (by rw[e1];exact congrArg some (hj P vs env S w (hb e1 hl))),.inl (by rw[e2];exact congrArg some (ha P vs env S w (hc e2 hl)))⟩
      ·cases q5
     ·cases q4
  ·cases h
 ·cases h
theorem ze7(hT:zT P cf.tt){ags:Array Operand}{ts:Array TypeId}{k:List (Nat×Dv)->Option R}(h:zaJ cf cx σ ags.toList ts.toList k=some r):
 ∃l,k l=some r/\ES P ⟨d,.call ⟨.builtin .len,ags,ts⟩,ty,pos,aft,g⟩ cx σ F l:=by
 unfold zaJ at h;split at h
 ·next _ _ x t hc hd=>
  obtain rfl:ags= #[x]:=by cases ags;simp_all
  obtain rfl:ts= #[t]:=by cases ts;simp_all
  have hx: ∀{vs env S w},(∀t'∈yx (.call ⟨.builtin .len,#[x],#[t]⟩),Lk P vs env S w cx σ t')->ZO P vs env S w cx σ x:=fun hl=>yH hl (by simp[xaL,xef]);split at h
  ·next e E B o ht ha=>
   split at h
   ·next s E' E1 xss ix ho=>
    refine⟨_,h,jM fun env w S vs hM hl=> ?_⟩;have hm:(gn s.rep E' E1 (vs o) xss ix).p S w:=uH hM ho;exact⟨_,_,_,_,[],[mO (u4 (vb (vs o))) E' (yY (vs o)) ix],CX 0 rfl (ve hT ht) (zk ha (hx hl)),⟨(AU hm).2.1,trivial⟩,trivial,fun u w' hk hf=>zn (xJ (FQ hk))⟩
   ·cases h
  ·next e E B o lo n ht ha=>
   split at h
   ·next s E' E1 xss ix ho=>
    refine⟨_,h,zC fun env w S vs hl=> ?_⟩;rcases(zk ha (hx hl):Dw _ _ _ _).old with⟨b,m,cap,c,q1,q2,q3,q4,q5⟩|⟨q1,ao,c,q2,q3⟩
    ·exact⟨_,FC (ve hT ht) q5 w,zn (xJ (FQ (by omega)))⟩
    ·subst q1;exact⟨_,FC (ve hT ht) q3 w,zn (xJ (by decide))⟩
   ·cases h
  ·next e E B o p ht ha=>
   split at h
   ·next s E' E1 xss ix ho=>
    refine⟨_,h,jM fun env w S vs hM hl=> ?_⟩;have hm:(gn s.rep E' E1 (vs o) xss ix).p S w:=uH hM ho;have hb:(vb (vs o))[p]? =some (ev env x):=zk ha (hx hl);exact⟨_,_,_,_,[],[mO s.rep E1 (ev env x) (jA xss p)],CX 0 rfl (ve hT ht) rfl,⟨(e9 hm hb).1,trivial⟩,trivial,fun u w' hk hf=>zn (xJ (FQ hk))⟩
   ·cases h
  ·cases h
 ·cases h
def Tru:Nat->Prop:=fun _=>True
theorem IF(f:FF)(h:f.p S w):f.p Tru w:=f.sub h fun _ _ _=>trivial
theorem cQ(hC: ∀s∈cf.cs,y5 P s): ∀{dom:List AM} {xs:List Operand} {cs:List PD} {k:Kc dom->Option R},XL cf cx σ dom xs cs k=some r->
 ∃z,k z=some r/\xs.length+cs.length=dom.length/\ ∀vs env S w,yv S (MS vs σ.ob++(MS vs cx.ob++F)) w->(∀x∈xs,ZO P vs env S w cx σ x)-> ∀cvs:List Value,cvs.length=cs.length->zA S (AW cs cvs) w->zA Tru (kL P dom z (xs.map (ev env)++cvs)) w
 |[],[],[],k,h=>⟨(),h,rfl,fun _ _ _ _ _ _ _ _ _=>trivial⟩
 | .q t::dom,[],c::cs,k,h=>by
  simp only[XL]at h;obtain⟨e,h⟩:=ym h;subst e;obtain⟨z,h1,h2,h3⟩:=cQ hC h;refine⟨_,h1,by simp at h2⊢;omega,fun vs env S w hM hl cvs ha hb=> ?_⟩
  cases cvs with
  |nil=>cases ha
  |cons v cvs=>exact⟨IF _ hb.1,h3 vs env S w hM hl cvs (by simpa using ha) hb.2⟩
 | .d t::dom,x::xs,cs,k,h=>by
  simp only[XL]at h;split at h
  ·next o lo n hc=>
   split at h
   ·next s E E1 xss ix ho=>
    obtain⟨e,h⟩:=ym h;subst e;obtain⟨z,h1,h2,h3⟩:=cQ hC h;refine⟨_,h1,by simp at h2⊢;omega,fun vs env S w hM hl cvs ha hb=>⟨?_,h3 vs env S w hM (fun z hz=>hl z (H1 _ hz)) cvs ha hb⟩⟩;have hm:(gn s.rep E E1 (vs o) xss ix).p S w:=uH hM ho;obtain⟨a1,a2,a3⟩:=AU hm;have h4:(mO (eS s.rep) E (yY (vs o)) (N2 xss ix)).p Tru w:=by
     obtain⟨cs',q1,q2⟩:=a2;refine⟨cs',by unfold N2;rw[xaN];exact q1,?_⟩;exact eV a1 (fun _ _=>trivial) (fun _ _ _ _=>trivial) a3 q2
    show(fV (eS (eS s.rep)) (xdr n (xdw lo (N2 xss ix))) (ev env x)).p Tru w;rcases(zk hc (hl x (FS)):Dw _ _ _ _).old with⟨b,m,cap,c,q1,q2,q3,q4,q5⟩|⟨q1,ao,c,q2,q3⟩
    ·have:=CD h4 q1 q2 q3 q4;rw[q5];obtain⟨ao,c',p1,p2,p3,p4⟩:=this;refine xm.2 ⟨ao,c',p1,p2,p3,p4.imp id ?_⟩;rintro⟨b',o',cs',r1,r2,r3⟩;exact⟨b',o',cs',r1,trivial,r2,r3⟩
    ·subst q1;rw[q3];exact xm.2 ⟨ao,c,by simp,by simp,by unfold maxLen;omega,.inl (by simp)⟩
   ·cases h
  ·obtain⟨y,h,hy⟩:=XO h;obtain⟨z,h1,h2,h3⟩:=cQ hC h;exact⟨_,h1,by simp at h2⊢;omega,fun vs env S w hM hl cvs ha hb=>⟨IF _ (hy P vs env S w (hl x (FS))),h3 vs env S w hM (fun z hz=>hl z (H1 _ hz)) cvs ha hb⟩⟩
 | .fn dom' cod::dom,x::xs,cs,k,h=>by
  simp only[XL]at h;obtain⟨f,h,hf⟩:=Pw hC h;obtain⟨z,h1,h2,h3⟩:=cQ hC h;refine⟨_,h1,by simp at h2⊢;omega,fun vs env S w hM hl cvs ha hb=>⟨?_,h3 vs env S w hM (fun z hz=>hl z (H1 _ hz)) cvs ha hb⟩⟩
  cases hv:xW cx σ x with
  |none=>rename_i h0;rw[hv]at h0;simp[asF]at h0
  |some v=>exact IF _ (hf vs S w v _ hv (zk hv (hl x (FS))))
 |[],_::_,_,_,h=>by simp[XL]at h
 |[],[],_::_,_,h=>by simp[XL]at h
 | .d _::_,[],_,_,h=>by simp[XL]at h
 | .own _ _::_,_,_,_,h=>by simp[XL]at h
 | .q _::_,_::_,_,_,h=>by simp[XL]at h
 | .fn _ _::_,[],_,_,h=>by simp[XL]at h
 | .q _::_,[],[],_,h=>by simp[XL]at h
theorem BO: ∀{rs:List RM} {x:Ak (rs.map RM.ty)} {us:List Value},EY rs=true->zA Tru (csF (rs.map RM.ty) x us) w->zA S (csF (rs.map RM.ty) x us) w
 |[],_,_,_,_=>trivial
 |[.d .i],x,us,_,h=>⟨h.1,trivial⟩
 |[.d .u],x,us,_,h=>⟨h.1,trivial⟩
 |[.d .b],x,us,_,h=>⟨h.1,trivial⟩
 | .d .i::n::r,x,us,hf,h=>⟨h.1,BO (rs:=n::r) (x:=x.2) hf h.2⟩
 | .d .u::n::r,x,us,hf,h=>⟨h.1,BO (rs:=n::r) (x:=x.2) hf h.2⟩
 | .d .b::n::r,x,us,hf,h=>⟨h.1,BO (rs:=n::r) (x:=x.2) hf h.2⟩
theorem zbw(hC: ∀s∈cf.cs,y5 P s)(hX:rm P cf){f:Operand}{ags:Array Operand}{ts:Array TypeId}{k:List (Nat×Dv)->Option R}(h:Lf cf cx σ f ags.toList k=some r):
 ∃l,k l=some r/\ES P ⟨d,.call ⟨.value f,ags,ts⟩,ty,pos,aft,g⟩ cx σ F l:=by
 have hf: ∀{vs env S w},(∀t'∈yx (.call ⟨.value f,ags,ts⟩),Lk P vs env S w cx σ t')->ZO P vs env S w cx σ f:=fun hl=>yH hl (by simp[xaL,xef]);have ha: ∀{vs env S w},(∀t'∈yx (.call ⟨.value f,ags,ts⟩),Lk P vs env S w cx σ t')-> ∀x∈ags.toList,ZO P vs env S w cx σ x:=fun hl x hx=>yH hl (by simp only[xaL,xef,Array.toList_append,Nm];exact .inr hx);unfold Lf at h;split at h
 ·next f0 cs hj=>
  split at h
  ·next s hs=>
   obtain⟨h1,h2⟩:=zaw hs;obtain⟨hb,he⟩:=hX.cl s h1;obtain⟨z,h,hd,hz⟩:=Ca h;refine⟨_,h,jM fun env w S vs hM hl=> ?_⟩;obtain⟨cvs,hv,hg,hk⟩:=zk hj (hf hl);obtain rfl:cvs=[]:=xbG.1 hg;have hc:=he z (ags.toList.map (ev env)) (by simpa using hd);rw[h2]at hc hb;rw[<-xbN (ags.toList.map (ev env))]at hc;exact⟨_,_,_,_,tsF s.dom z (ags.toList.map (ev env)++[]),[],cR (asv:=ags.toList) hb hv hc rfl (fun S w h=>h),trivial,by rw[xbN];exact hz P vs env S w (ha hl),fun v w' _ hi=>zn hi.1⟩
  ·split at h
   ·next s hs=>
    obtain⟨h1,h2,h3,h4⟩:=lu hs;have he:=hC s h1;obtain⟨hn,h⟩:=yi h;obtain⟨z,h,hd,hz⟩:=cQ (F:=F) hC h;obtain⟨q,hq,h⟩:=py h;refine⟨_,h,fun env w S vs hS hM hl=> ?_⟩;obtain⟨cvs,hv,hg,hk⟩:=zk hj (hf hl);have hc:=aO he h3 h4 hq (us:=ags.toList.map (ev env)++cvs) (by simp at hd⊢;omega);rw[h2]at hc;have hm:=hz vs env S w hM (ha hl) cvs hg hk;refine(cR (asv:=ags.toList) (ms:=[]) (Γ:=kL P s.dom z (ags.toList.map (ev env)++cvs)) (h2▸he.1) hv hc rfl (fun S w h=>h) w Tru (fun _ _=>trivial) trivial hm).mono ?_;rintro v w' ⟨us,rfl,ho,hx,hi⟩;refine⟨hx,?_⟩;unfold zch;rw[CC,FR];exact n9 (BO hn hi) (by simpa using ho)
   ·cases h
 ·cases h
theorem zjh(hT:zT P cf.tt)(hL:jE P cf.tt)(hC: ∀s∈cf.cs,y5 P s)(hX:rm P cf){op:Op}{k:List (Nat×Dv)->Option R}(h:eCo cf cx σ op k=some r): ∃l,k l=some r/\ES P ⟨d,op,ty,pos,aft,g⟩ cx σ F l:=by
 unfold eCo at h;split at h
 ·exact zco hT h
 ·exact TH hT hL h
 ·exact Tw hT hL h
 ·exact ze7 hT h
 ·exact zbw hC hX h
 ·cases h
theorem zaQ(hT:zT P cf.tt)(hL:jE P cf.tt)(hC: ∀s∈cf.cs,y5 P s)(hX:rm P cf){op:Op}{k:List (Nat×Dv)->Option R}(h:eOp cf cx σ op k=some r): ∃l,k l=some r/\ES P ⟨d,op,ty,pos,aft,g⟩ cx σ F l:=by
 unfold eOp at h;cases hc:zhU cf cx σ op<;>rw[hc]at h
 ·exact zeo hT hL hC hX.ex h
 ·exact zjh hT hL hC hX h
end
end
section
section
variable{P:Program}{cf:Cf}{fr:Fr}{cx σ:Sg}{vs vs':Nat->Value}{env:yP}{w:World}{R:Type}{r:R}
 {d:Option Tmp} {ty t yt:TypeId} {pos:String} {aft:Array Edge} {g:Option (Nat×Bool)} {x y:Operand}
abbrev GS(P:Program)(vs:Nat->Value)(env:yP)(fr:Fr)(cx σ:Sg):List FF:=RS P vs env σ.rg++(RS P vs env cx.rg++fr.G)
abbrev OS(vs:Nat->Value)(fr:Fr)(cx:Sg)(ob:List (Nat×Od)):List MF:=MS vs ob++(MS vs cx.ob++fr.F)
theorem ZT{S:Nat->Prop}(h:zA S (GS P vs env fr cx σ) w)(t:Tmp):Lk P vs env S w cx σ t:=by
 intro i dv hd;rcases BB hd with hm|hm
 ·exact Ji (zA.left h) hm
 ·exact Ji (zA.left (zA.right h)) hm
theorem zW{S:Nat->Prop}(h:zA S (GS P vs env fr cx σ) w)(x:Operand):ZO P vs env S w cx σ x:=fun t _=>ZT h t
def UF(P:Program)(fr:Fr)(cx σ:Sg)(vs:Nat->Value)(env:yP)(w:World):Prop:=Bd cx σ/\St fr.we fr.Se (OS vs fr cx σ.ob) (GS P vs env fr cx σ) w
def aY(P:Program)(fr:Fr)(cx:Sg)(n:Nat)(vs:Nat->Value)(σ:Sg)(env:yP)(w:World):Prop:= ∃vs',(∀o,o<n->vs' o=vs o)/\UF P fr cx σ vs' env w
theorem aY.rel{n:Nat}(h:aY P fr cx n vs σ env w):uU P fr cx σ env w:=by
 obtain⟨vs',_,h1,h2⟩:=h;exact⟨h1,vs',h2⟩
theorem Db{v:Value}{σ':Sg}{l:List (Nat×Dv)}{Γl:List FF}(hB:Bd cx σ)(hd:wo cx d=true)(ha:σ'.rg=va σ.rg d l)(hn:σ.nx<=σ'.nx)(hg: ∀o,o<σ.nx->vs' o=vs o)
 (hl: ∀e∈l,∀o,wa e.2=some o->o<σ'.nx) (hj: ∀e∈σ'.ob,e.1<σ'.nx) (hf: ∀S w,zA S Γl w-> ∀e∈l,(xG P vs' e.2 v e.1).p S w)
 (hk:St fr.we fr.Se (OS vs' fr cx σ'.ob) (Γl++GS P vs env fr cx σ) w):UF P fr cx σ' vs' (put env d v) w:=by
 refine⟨⟨hj,fun e he=>xap (hB.o2 e he) hn,?_,fun e he o ho=>xap (hB.r2 e he o ho) hn⟩,hk.weak fun S w h=> ?_⟩
 ·intro e he o ho;rw[ha]at he;unfold va at he
  cases d with
  |none=>exact xap (hB.r1 e he o ho) hn
  |some t=>
   rcases Nm.1 he with he|he
   ·obtain⟨e',hb,rfl⟩:=xai.1 he;exact hl e' hb o ho
   ·exact xap (hB.r1 e (xbY.1 he).1 o ho) hn
 ·have hΓ:=zA.right h;have h1:zA S (RS P vs' env σ.rg) w:=by rw[qB (fun e he o ho=>hg o (hB.r1 e he o ho)) (fun _ _=>rfl)];exact zA.left hΓ
  have h2:zA S (RS P vs' env cx.rg) w:=by rw[qB (fun e he o ho=>hg o (hB.r2 e he o ho)) (fun _ _=>rfl)];exact zA.left (zA.right hΓ)
  have h3:=zA.right (zA.right hΓ)
  cases d with
  |none=>
   unfold GS;rw[show σ'.rg=σ.rg from ha];exact zA.append h1 (zA.append h2 h3)
  |some t=>
   have hm:RS P vs' (put env (some t) v) cx.rg=RS P vs' env cx.rg:=qB (fun _ _ _ _=>rfl) fun e he=>aQ fun ht=>by
    simp only[wo,ZU,xaR]at hd;have:=hd e he;simp only[xaw]at ht;rw[ht]at this;simp at this
   unfold GS;rw[ha,hm];refine zA.append (qT.2 fun f hp=> ?_) (zA.append h2 h3);obtain⟨e,he,rfl⟩:=xai.1 hp;rcases Nm.1 he with he|he
   ·obtain⟨e',hb,rfl⟩:=xai.1 he;simp only[pT];exact hf S w (zA.left h) e' hb
   ·obtain⟨hq,hi⟩:=xbY.1 he;have hr:some t≠some e.1:=fun hc=>by
     simp only[xaw]at hc;rw[hc]at hi;simp at hi
    rw[aQ hr];exact Ji h1 hq
theorem Qb{v:Value}{σ':Sg}{l:List (Nat×Dv)}{Γl:List FF}(hB:Bd cx σ)(hd:wo cx d=true)(hb:σ'.rg=va σ.rg d l)(hn:σ.nx<=σ'.nx)(ha: ∀o,o<σ.nx->vs' o=vs o)
 (hl: ∀e∈l,∀o,wa e.2=some o->o<σ'.nx) (hc: ∀e∈σ'.ob,e.1<σ'.nx) (hf: ∀S w,zA S Γl w-> ∀e∈l,(xG P vs' e.2 v e.1).p S w)
 (he:St fr.we fr.Se (OS vs' fr cx σ'.ob) (Γl++GS P vs env fr cx σ) w):aY P fr cx σ.nx vs σ' (put env d v) w:=⟨vs',ha,Db hB hd hb hn ha hl hc hf he⟩
def zb4(P:Program)(vs:Nat->Value)(v:Value)(l:List (Nat×Dv)):List FF:=l.map fun e=>xG P vs e.2 v e.1
theorem AD{n:Nat}{l:List (Nat×Dv)}(h:okL n l=true): ∀e∈l,∀o,wa e.2=some o->o<n:=by
 intro e he o ho;unfold okL at h;rw[xaR]at h;have:=h e he;rw[ho]at this;have:=xbJ this;omega
theorem ES.mono{o:Oper}{l:List (Nat×Dv)}{F:List MF}(h:ES P o cx σ [] l):ES P o cx σ F l:=by
 intro env w S vs h1 h2 h3;refine h env w S vs h1 (kV.2 fun m hm=>kV.1 h2 m ?_) h3;rcases Nm.1 hm with hm|hm
 ·exact Nm.2 (.inl hm)
 ·rw[xbN]at hm;exact Nm.2 (.inr (Nm.2 (.inl hm)))
theorem zg0{o:Oper}{l:List (Nat×Dv)}(h:ES P o cx σ fr.F l)(hd:wo cx o.dst=true)(hl:okL σ.nx l=true)(hR:UF P fr cx σ vs env w):kh P o env w (fun v w'=>aY P fr cx σ.nx vs (σ.put o.dst l) (put env o.dst v) w'):=by
 obtain⟨hB,h1,h2,h3,S,h4,h5,h6,h7,h8⟩:=hR;refine(h env w S vs h5 h7 fun t _=>ZT h8 t).mono ?_;rintro v w' ⟨hx,hf⟩;refine Qb (σ':=σ.put o.dst l) (Γl:=zb4 P vs v l) hB hd rfl (xac _) (fun _ _=>rfl) (AD hl) hB.o1 (fun S w ha e he=>qT.1 ha _ (xai.2 ⟨e,he,rfl⟩)) ?_;refine⟨h1.trans hx,h2,h3,S,h4,fun k hk=>h5 k (xao hx.size hk),h6,yv.keep hx.to (fun m hm i hi=>hx.block i (yv.lt h7 m hm i hi) trivial) h7,zA.append (qT.2 fun f hb=> ?_) (zA.keep hx.to h8)⟩;obtain⟨e,he,rfl⟩:=xai.1 hb;exact hf e he
def lF(P:Program)(cx:Sg)(o:Oper)(σ:Sg)(k:Sg->Option R)(r:R):Prop:= ∃σ',k σ'=some r/\σ.nx<=σ'.nx/\ ∀(fr:Fr) (vs:Nat->Value) (env:yP) (w:World),UF P fr cx σ vs env w->kh P o env w (fun v w'=>aY P fr cx σ.nx vs σ' (put env o.dst v) w')
theorem m_E(hT:zT P cf.tt)(hL:jE P cf.tt)(hC: ∀s∈cf.cs,y5 P s)(hX:rm P cf){op:Op}{k:Sg->Option R}(hd:wo cx d=true)(h:mE cf cx σ d op k=some r):lF P cx ⟨d,op,ty,pos,aft,g⟩ σ k r:=by
 unfold mE at h;obtain⟨l,h,ha⟩:=zaQ (P:=P) (d:=d) (ty:=ty) (pos:=pos) (aft:=aft) (g:=g) (F:=[]) hT hL hC hX h;obtain⟨hl,h⟩:=yi h;exact⟨_,h,xac _,fun fr vs env w hR=>zg0 ha.mono hd hl hR⟩
def YO(vs:Nat->Value)(n:Nat)(v:Value):Nat->Value:=fun o=>bif xan o n then v else vs o
theorem vr{n:Nat}{v:Value}:YO vs n v n=v:=by simp[YO]
theorem uj{n o:Nat}{v:Value}(h:o<n):YO vs n v o=vs o:=by unfold YO;rw[uD (by omega)];rfl
theorem Rp{n:Nat}{v:Value}{ob:List (Nat×Od)}(h: ∀e∈ob,e.1<n):MS (YO vs n v) ob=MS vs ob:=x8 fun e he=>uj (h e he)
theorem Cb{v:Value}{ob:List (Nat×Od)}(hB:Bd cx σ)(h: ∀e∈ob,e.1<σ.nx):OS (YO vs σ.nx v) fr cx ob=OS vs fr cx ob:=by
 show MS _ ob++(MS _ cx.ob++_)=_;rw[Rp h,Rp hB.o2]
theorem Vx{v:Value}{mk:Nat->Dv}{X:Od}{ob:List (Nat×Od)}(hB:Bd cx σ)(hd:wo cx d=true)(ha: ∀e∈ob,e.1<σ.nx)(hb: ∀o,wa (mk o)=some o)(hc: ∀S w,(vg P (YO vs σ.nx v) (mk σ.nx) v).p S w)
 (hf:St fr.we fr.Se (VQ (YO vs σ.nx v) (σ.nx,X)::OS vs fr cx ob) (GS P vs env fr cx σ) w):aY P fr cx σ.nx vs ⟨σ.nx+1,va σ.rg d [(0,mk σ.nx)],(σ.nx,X)::ob⟩ (put env d v) w:=by
 refine Qb (σ':=⟨σ.nx+1,va σ.rg d [(0,mk σ.nx)],(σ.nx,X)::ob⟩) (vs:=vs) (vs':=YO vs σ.nx v) (Γl:=[]) hB hd rfl (xce _) (fun o ho=>uj ho) ?_ ?_ ?_ ?_
 ·intro e he o ho;obtain rfl:=xah.1 he;rw[hb]at ho;cases ho;exact xbV _
 ·intro e he;rcases xae.1 he with rfl|he
  ·exact xbV _
  ·exact xfl (ha e he)
 ·intro S w _ e he;obtain rfl:=xah.1 he;exact hc S w
 ·show St _ _ (VQ (YO vs σ.nx v) (σ.nx,X)::OS (YO vs σ.nx v) fr cx ob) _ _;rw[Cb hB ha];exact hf
theorem Q0{v:Value}(S:Nat->Prop)(w:World):(vg P (YO vs σ.nx v) (.ow σ.nx) v).p S w:=(vr (vs:=vs)).symm
theorem EW{t:Ty}{b:Nat}(S:Nat->Prop)(w:World):(vg P (YO vs σ.nx (.pointer (some ⟨b,0,none⟩))) (.vs σ.nx t) (.pointer (some ⟨b,0,none⟩))).p S w:=⟨vr.symm,b,vr⟩
theorem Q1{t:Ty}{E:TypeId}{xs:List t.D}{n:Nat}{v:Value}:VQ (YO vs n v) (n,.own t E xs)=mO t.rep E v xs:=by simp only[VQ,vr]
theorem SW{t:Ty}{E:TypeId}{z:t.D}{n:Nat}{v:Value}:VQ (YO vs n v) (n,.var t E z)=mP t.rep.c E v z:=by simp only[VQ,vr]
theorem zbm(hT:zT P cf.tt){E:TypeId}{k:Sg->Option R}(hd:wo cx d=true)(h:HX cf σ d E k=some r):lF P cx ⟨d,.alloc E,ty,pos,aft,g⟩ σ k r:=by
 unfold HX at h;split at h
 ·next ti ha=>
  obtain⟨zero,hb,hf,hc⟩:=WY hT ha;refine⟨_,h,xce _,fun fr vs env w hR=> ?_⟩;obtain⟨hB,he⟩:=hR;refine(tZ (e:=ti.ty.rep.c) (z:=ti.ty.z) hb hc w he).mono ?_;rintro v w' ⟨b,rfl,_,hs⟩;refine Vx (vs:=vs) (mk:=fun o=> .vs o ti.ty) hB hd hB.o1 (fun _=>rfl) (fun S w=>EW S w) ?_;rw[SW];exact hs.toP 0 rfl
 ·cases h
theorem zgK{E:TypeId}{k:Sg->Option R}(hd:wo cx d=true)(h:ze0 cf cx σ d E x k=some r):lF P cx ⟨d,.box E x,ty,pos,aft,g⟩ σ k r:=by
 unfold ze0 at h;split at h
 ·next ti hc=>
  obtain⟨y,h,hy⟩:=XO h;refine⟨_,h,xce _,fun fr vs env w hR=> ?_⟩;obtain⟨hB,hb⟩:=hR;refine(zcE (e:=ti.ty.rep) (z:=y) rfl (fun S w ha=>hy P vs env S w (zW ha x)) w hb).mono ?_;rintro v w' ⟨b,rfl,_,hs⟩;refine Vx (vs:=vs) (mk:=fun o=> .vs o ti.ty) hB hd hB.o1 (fun _=>rfl) (fun S w=>EW S w) ?_;rw[SW];exact hs.toP 0 rfl
 ·cases h
theorem LZ(h:Nq x y=true):ev env x=ev env y:=by
 unfold Nq at h;split at h
 ·rw[ya h]
 ·simp only[eqI,decide_eq_true_eq]at h;rw[h]
 ·cases h
theorem zeJ(hT:zT P cf.tt){k:Sg->Option R}(hd:wo cx d=true)(h:Rm cf cx σ d t x y k=some r):lF P cx ⟨d,.makeSlice t x y,ty,pos,aft,g⟩ σ k r:=by
 unfold Rm at h;split at h
 ·next s E B ht=>
  obtain⟨hi,h⟩:=yi h;split at h
  ·next ti n he hn=>
   obtain⟨hk,h⟩:=ym h;subst hk;obtain⟨zero,hl,ho,hm⟩:=WY hT he;obtain⟨j,hj,h⟩:=MU h;obtain⟨hb,h⟩:=kv h;obtain⟨xs,hf,h⟩:=xp h;refine⟨_,h,xce _,fun fr vs env w hR=> ?_⟩;obtain⟨hB,hg⟩:=hR;obtain⟨S0,_,hΓ⟩:=hg.ex;have hx:ev env x= .int .i64 (j:Int):=by rw[(xV hn (zW hΓ x)).1,hj]
   have ha:=(hT _ _ he).2.1;refine(GA (e:=ti.ty.rep) (z:=ti.ty.z) (xs:=xs) (n:=j) (ve hT ht) hl hx ((LZ hi).symm.trans hx) ha hb hm hf w hg).mono ?_;rintro v w' ⟨b,rfl,_,hs⟩;refine Vx (vs:=vs) (mk:= .ow) hB hd hB.o1 (fun _=>rfl) (fun S w=>Q0 S w) ?_;rw[Q1];have hc:xs.length=j:=by rw[hf];exact xaU
   have:=hs.closeF 0 rfl (by rw[hc];exact xac _) (Tv ha hb);rw[hc]at this;exact this
  ·cases h
 ·cases h
theorem zg4(hT:zT P cf.tt)(hL:jE P cf.tt){n:Nat}{ps:Array (Nat×Operand)}{k:Sg->Option R}(hd:wo cx d=true)(h:zed cf cx σ d t n ps.toList k=some r):lF P cx ⟨d,.buildSlice t n ps,ty,pos,aft,g⟩ σ k r:=by
 unfold zed at h;split at h
 ·next e E B ht=>
  obtain⟨hb,h⟩:=yi h;have hb:=xbJ hb;rw[<-e.n_rep]at hb;obtain⟨ys,h,he,hf⟩:=dT h;obtain⟨bytes,zero,hg⟩:=VH hT hL ht;refine⟨_,h,xce _,fun fr vs env w hR=> ?_⟩;obtain⟨hB,hi⟩:=hR;have hc:(ps.toList.map fun q:Nat×Operand=>(q.1,ev env q.2)).map (·.1)=xfk 0 (ps.toList.map fun q:Nat×Operand=>(q.1,ev env q.2)).length:=by rw[xcP,xaN];exact he
  have hj:=fun(S:Nat->Prop) (w:World) (ha:zA S (GS P vs env fr cx σ) w)=>CY hc (hf P vs env S w fun x _=>zW ha x);refine(P6 (e:=e.rep) (zs:=bN n e ys) (xX:=ps.toList) (ve hT ht) hg (R9 hT hL ht) (Uf n e ys) hb rfl (fun S w ha=>by have:=(hj S w ha).1;rwa[xcI]at this) (fun S w ha=>(hj S w ha).2) w hi).mono ?_;rintro v w' ⟨b,rfl,_,hs⟩;refine Vx (vs:=vs) (mk:= .ow) hB hd hB.o1 (fun _=>rfl) (fun S w=>Q0 S w) ?_;rw[Q1];exact hs
 ·cases h
end
end
section
section
variable{P:Program}{cf:Cf}{fr:Fr}{cx σ:Sg}{vs vs':Nat->Value}{env:yP}{w:World}{R:Type}{r:R}
 {d:Option Tmp} {ty t yt:TypeId} {pos:String} {aft:Array Edge} {g:Option (Nat×Bool)} {x y:Operand}
theorem Ki{ob:List (Nat×Od)}{o:Nat}{X Y:Od}(h:xH ob o=some X): ∀e∈kE ob o Y,∃e'∈ob,e'.1=e.1:=by
 intro e he;obtain⟨i,h1,h2,_⟩:=wj h;rw[h2]at he;rcases xeG he with he|rfl
 ·exact⟨e,he,rfl⟩
 ·exact⟨_,xbr h1,rfl⟩
theorem kU: ∀{ob:List (Nat×Od)} {o:Nat},∀e∈yC ob o,e∈ob
 |(o',X)::r,o,e,he=>by
  unfold yC at he;cases hb:xan o' o<;>rw[hb]at he
  ·rcases xae.1 he with rfl|he
   ·exact FS
   ·exact H1 _ (kU e he)
  ·exact H1 _ he
theorem b9{o:Nat}{X Y:Od}{v:Value}(hB:Bd cx σ)(ho:xH σ.ob o=some X)(ha:St fr.we fr.Se (OS vs fr cx (kE σ.ob o Y)) (GS P vs env fr cx σ) w):aY P fr cx σ.nx vs ⟨σ.nx,σ.rg,kE σ.ob o Y⟩ (put env none v) w:=by
 refine Qb (σ':=⟨σ.nx,σ.rg,kE σ.ob o Y⟩) (d:=none) (l:=[]) (vs:=vs) (vs':=vs) (Γl:=[]) hB rfl rfl (xac _) (fun _ _=>rfl) (fun _ he=>absurd he xaa) (fun e he=> ?_) (fun S w _ e he=>absurd he xaa) ha;obtain⟨e',h1,h2⟩:=Ki ho e he;rw[<-h2];exact hB.o1 e' h1
theorem kt{α:Type _}(l:List α)(i:Nat)(a b:α):(l.set i a).set i b=l.set i b:=by simp
theorem wx{α:Type _}{l:List α}{i:Nat}{a b:α}(h:l[i]? =some a):(l.set i b)[i]? =some b:=by
 have:=(xat.1 h).1;simp[this]
theorem eE{α:Type _}: ∀(l:List α) (i:Nat) (a:α),(l.set i a).eraseIdx i=l.eraseIdx i
 |[],_,_=>by simp
 |_::_,0,_=>rfl
 |b::l,i+1,a=>by simp[eE l i a]
theorem cY{α:Type}{e:zX α}{E:TypeId}{xs:List α}{v:Value}{S:Nat->Prop}{b n cap:Nat}(h:(mO e E v xs).p S w)(hv:v= .slice (some ⟨b,0,none⟩) n cap):n=xs.length:=by
 obtain⟨cs,h5,h6⟩:=h;rcases h5.2 with⟨h,h7⟩|⟨g',cap',cur,h,_⟩
 ·rw[hv]at h;cases h
 ·rw[hv]at h;cases h;rfl
theorem zb6(hT:zT P cf.tt){k:Sg->Option R}{ti:TI}(hA:ZV cf t=some ti)(h:HY σ ti.ty (xW cx σ x) (xW cx σ y) k=some r):lF P cx ⟨none,.store t x y,ty,pos,aft,g⟩ σ k r:=by
 obtain⟨zero,hf,_⟩:=WY hT hA;unfold HY at h;split at h
 ·next o _ hx=>
  split at h
  ·next s' E z ho=>
   obtain⟨hC,h1⟩:=ym h;subst hC;obtain⟨q,h,hq⟩:=XO h1;refine⟨_,h,xac _,fun fr vs env w hR=> ?_⟩;obtain⟨hB,hc⟩:=hR;obtain⟨S0,_,hΓ⟩:=hc.ex;obtain⟨i,hi,hd,hr⟩:=wj ho;have hm:(OS vs fr cx σ.ob)[i]? =some (mP ti.ty.rep.c E (vs o) z):=W4 hi;obtain⟨b,hv,hs⟩:=hc.openP i hm;obtain⟨hg,_⟩:=zk hx (zW hΓ x);refine(Yl (f:=ti.ty.rep) (z':=z) (y':=q) (up:=id) i (wx hm) (hg.trans hv) rfl (Sub.self ti.ty.rep z) hf (fun S w ha=>hq P vs env S w (zW ha y)) w hs).mono ?_;rintro v w' ⟨_,rfl,_,hk⟩;refine b9 (vs:=vs) hB ho ?_;have he:=hk.toP i (wx (wx hm));rw[kt,kt,<-hv]at he;rw[hd];show St _ _ (MS vs (σ.ob.set i (o,.var ti.ty E q))++_) _ _;rw[<-p8 hi];exact he
  ·cases h
 ·next o s1 f hx=>
  split at h
  ·next s' E z hb ho _=>
   obtain⟨hu,h1⟩:=ym h;subst hu;obtain⟨q,h2,hq⟩:=XO h1;obtain⟨z2,hw,h⟩:=xp h2;obtain⟨hb⟩:=hb;refine⟨_,h,xac _,fun fr vs env w hR=> ?_⟩;obtain⟨hB,hc⟩:=hR;obtain⟨S0,_,hΓ⟩:=hc.ex;obtain⟨i,hi,hd,hr⟩:=wj ho;have hm:(OS vs fr cx σ.ob)[i]? =some (mP s'.rep.c E (vs o) z):=W4 hi;obtain⟨b,hv,hs⟩:=hc.openP i hm;obtain⟨hy,b',hl,hg⟩:=zk hx (zW hΓ x);rw[hv]at hl;cases hl;rw[<-hb]at hf;refine(Yl (f:=f.f.rep) (z':=f.get z) (y':=q) (up:=fun y=>f.set y z) i (wx hm) hg rfl (by rw[xaT];exact hy z) hf (fun S w ha=>hq P vs env S w (zW ha y)) w hs).mono ?_;rintro v w' ⟨_,rfl,_,hk⟩;refine b9 (vs:=vs) hB ho ?_;have he:=hk.toP i (wx (wx hm));rw[kt,kt,<-hv,<-hw]at he;rw[hd];show St _ _ (MS vs (σ.ob.set i (o,.var s' E z2))++_) _ _;rw[<-p8 hi];exact he
  ·cases h
 ·next o s1 j f hx=>
  split at h
  ·next s' E xs hb ho _=>
   obtain⟨hu,h1⟩:=ym h;cases hu;obtain⟨q,h2,hq⟩:=XO h1;obtain⟨z2,hw,h⟩:=xp h2;obtain⟨hb⟩:=hb;refine⟨_,h,xac _,fun fr vs env w hR=> ?_⟩;obtain⟨hB,hc⟩:=hR;obtain⟨S0,_,hΓ⟩:=hc.ex;obtain⟨i,hi,hd,hr⟩:=wj ho;have hm:(OS vs fr cx σ.ob)[i]? =some (mO s1.rep E (vs o) xs):=W4 hi;obtain⟨hy,b,n,cap,hv,hj,hg⟩:=zk hx (zW hΓ x);have hn:n=xaG xs:=xO hc hm fun S hp=>cY hp hv;subst hn;obtain⟨b',cap',hl,hD,hE,hs⟩:=hc.openO i hm (xbd (xaj _) hj);rw[hv]at hl;cases hl;rw[<-hb]at hf;have hz:=(Sub.rowT0 s1.rep cap xs j (xek xs j s1.z) (getD_some s1.z hj)).comp (hy (xek xs j s1.z));refine(Yl (f:=f.f.rep) (y':=q) i (wx hm) hg rfl hz hf (fun S w ha=>hq P vs env S w (zW ha y)) w hs).mono ?_;rintro v w' ⟨_,rfl,_,hk⟩;refine b9 (vs:=vs) hB ho ?_;have ht:(xfR xs j (f.set q (xek xs j s1.z))).length=xaG xs:=xcG ..;have he:=hk.closeF i (wx (wx hm)) (by rw[ht];exact hD) hE;rw[kt,kt,ht,<-hv,<-hw]at he;rw[hd];show St _ _ (MS vs (σ.ob.set i (o,.own s1 E z2))++_) _ _;rw[<-p8 hi];exact he
  ·cases h
 ·cases h
end
end
section
section
variable{P:Program}{cf:Cf}{fr:Fr}{cx σ:Sg}{vs vs':Nat->Value}{env:yP}{w:World}{R:Type}{r:R}
 {d:Option Tmp} {ty t yt:TypeId} {pos:String} {aft:Array Edge} {g:Option (Nat×Bool)} {x y:Operand}
theorem SQ{et:TypeId}{ag:Bool}{sz bytes:Nat}{zero:Value}{hi:Operand}(hx:ev env x= .slice none 0 0)(ht:P.underlying t=some (.slice et))(hb:XG P et ag sz bytes zero)
 (hh:ev env hi= .int .i64 ((0:Nat):Int)) (w:World):(execOp (ev env) ⟨d,.slice t x none (some hi) none,ty,pos,aft,g⟩).run P w= .ok (.value (.slice none 0 0)) w:=by
 have b1:(0:Int)<=((0:Nat):Int)/\((0:Nat):Int)<=((0:Nat):Int):=by omega
 have ha:(xcT t (.slice none 0 0) none (some (.int .i64 ((0:Nat):Int))) none).run P w= .ok (.slice none 0 0) w:=by
  unfold xcT;simp only[xaq,run_underlying ht,xab];unfold xfE;simp only[xaq,run_underlying ht,xab];unfold xdT;simp[xei,asIntOf,xaq,xaE,xab,xq hb]
 simp[execOp,hx,hh]at ha⊢;simp[ha]
theorem zeO{i o:Nat}{X:Od}{Y:MF}(hi:σ.ob[i]? =some (o,X))(ha:yC σ.ob o=σ.ob.eraseIdx i){Γ:List FF}(h:St fr.we fr.Se ((OS vs fr cx σ.ob).set i Y) Γ w):St fr.we fr.Se (Y::OS vs fr cx (yC σ.ob o)) Γ w:=by
 have:=St.front i h (wx (W4 hi));rw[eE,J1 hi,<-ha]at this;exact this
theorem zcH(hT:zT P cf.tt)(hL:jE P cf.tt){o:Nat}{hi:Operand}{k:Sg->Option R}(hd:wo cx d=true)(hx:xW cx σ x=some (.ow o))(h:Hi cf cx σ d t o hi k=some r):
 lF P cx ⟨d,.slice t x none (some hi) none,ty,pos,aft,g⟩ σ k r:=by
 unfold Hi at h;split at h
 ·next s1 E1 B s E xs ht ho=>
  obtain⟨hu,h1⟩:=ym h;cases hu;rcases QD h1 with⟨e,_⟩|⟨z,m,e,h2,hz⟩
  ·cases e
  ·cases e;obtain⟨hm,h3⟩:=kv h2;obtain⟨ys,hj,h4⟩:=xp h3;obtain⟨bytes,zero,hc⟩:=VH hT hL ht;refine⟨_,h4,xce _,fun fr vs env w hR=> ?_⟩;obtain⟨hB,ha⟩:=hR;obtain⟨S0,_,hΓ⟩:=ha.ex;have hf:ev env x=vs o:=zk hx (zW hΓ x);have hg:=hz P vs env S0 w (zW hΓ hi);obtain⟨i,hk,hE,hl⟩:=wj ho;have hb:(OS vs fr cx σ.ob)[i]? =some (mO s1.rep E (vs o) xs):=W4 hk
   have fin: ∀v,(execOp (ev env) ⟨d,.slice t x none (some hi) none,ty,pos,aft,g⟩).run P w= .ok (.value v) w->St fr.we fr.Se ((OS vs fr cx σ.ob).set i (mO s1.rep E v ys)) (GS P vs env fr cx σ) w->
    kh P ⟨d,.slice t x none (some hi) none,ty,pos,aft,g⟩ env w (fun v w'=>aY P fr cx σ.nx vs ⟨σ.nx+1,va σ.rg d [(0,.ow σ.nx)],(σ.nx,.own s1 E ys)::yC σ.ob o⟩ (put env d v) w'):=by
    intro v hn hs;refine kh.of_value hn (Vx (vs:=vs) (mk:= .ow) hB hd (fun e he=>hB.o1 e (kU e he)) (fun _=>rfl) (fun S w=>Q0 S w) ?_);rw[Q1];exact zeO hk hl hs
   rcases xcN (xaG xs)with h0|h0
   ·have hw:m=0:=by have:m<=xaG xs:=hm;omega
    subst hw;have hy:ys=xs:=by rw[hj];exact(xbG.1 h0).symm▸rfl
    subst hy;have hp:(OS vs fr cx σ.ob).set i (mO s1.rep E (vs o) ys)=OS vs fr cx σ.ob:=by
     apply xcw;intro j;rw[xdY];split
     ·next hA=>
      subst hA;split
      ·exact hb.symm
      ·next hC=>exact absurd (xat.1 hb).1 hC
     ·rfl
    have hv:vs o= .slice none 0 0\/ ∃b cap,vs o= .slice (some ⟨b,0,none⟩) 0 cap:=xO ha hb fun S ⟨cs,h5,_⟩=>by
     rcases h5.2 with⟨h,_⟩|⟨b,cap,cur,h,_⟩
     ·exact .inl h
     ·rw[h0]at h;exact .inr ⟨b,cap,h⟩
    rcases hv with hv|⟨b,cap,hv⟩
    ·exact fin _ (SQ (hf.trans hv) (ve hT ht) hc hg w) (by rw[<-hv,hp];exact ha)
    ·exact fin _ (Et (hf.trans hv) (ve hT ht) hc hg (xaj _) w) (by rw[<-hv,hp];exact ha)
   ·obtain⟨b,cap,hv,hq,hD,hs⟩:=ha.openO i hb h0;have hr:=hs.closeO i m (wx hb) hm (xao hm hq) hD;rw[kt]at hr;exact fin _ (Et (hf.trans hv) (ve hT ht) hc hg (xao hm hq) w) (by rw[hj];exact hr)
 ·cases h
theorem Pk(hT:zT P cf.tt){t':TypeId}{same:Bool}{ti:TI}{E:TypeId}{ob:List (Nat×Od)}{xs:List ti.ty.D}{k:Sg->Option R}(ht:P.underlying t=some (.slice E))(hk:ZV cf E=some ti)(hd:wo cx d=true)
 (he:same=true->t=t') (h:M5 cf cx σ d t' same ti.ty E ti.B ti.ty.z y ob xs k=some r):
 ∃σ',k σ'=some r/\σ.nx<=σ'.nx/\ ∀(fr:Fr) (vs:Nat->Value) (env:yP) (w:World) (u:Value),Bd cx σ->(∀e∈ob,e.1<σ.nx)->ev env x=u->St fr.we fr.Se (mO ti.ty.rep E u xs::OS vs fr cx ob) (GS P vs env fr cx σ) w->
  kh P ⟨d,.call ⟨.builtin .append,#[x,y],#[t,t']⟩,ty,pos,aft,g⟩ env w (fun v w'=>aY P fr cx σ.nx vs σ' (put env d v) w'):=by
 obtain⟨zero,hl,ho,hu⟩:=WY hT hk;have hr:=(hT _ _ hk).2.1;have hn:=(hT _ _ hk).2.2.1;have Eu: ∀m,m*ti.B<=140737488355328->m<=9223372036854775807:=fun m hm=>by
  have:=xcl m hr;omega
 unfold M5 at h;split at h
 ·next n hw=>
  split at h
  ·next q ik B' hz=>
   obtain⟨j,hj,h⟩:=MU h;obtain⟨hb,h⟩:=kv h;obtain⟨zs,hf,h⟩:=xp h;refine⟨_,h,xce _,fun fr vs env w u hB hg hx hc=> ?_⟩;obtain⟨S0,_,hΓ⟩:=hc.ex;refine(Iz (e:=ti.ty.rep) (z:=ti.ty.z) (n:=j) 0 ht (W1 hT hz) hl ho hn rfl hx (by rw[(xV hw (zW hΓ y)).1,hj]) hu (Eu _ hb) hb w hc).mono ?_;rintro v w' ⟨v',rfl,_,hs⟩;refine Vx (vs:=vs) (mk:= .ow) hB hd hg (fun _=>rfl) (fun S w=>Q0 S w) ?_;rw[Q1,hf];exact hs
  ·cases h
 ·split at h
  ·next o2 t2 lo n hy=>
   split at h
   ·next s2 E2 zs0 hA=>
    obtain⟨hp,h⟩:=yi h;obtain rfl:=he hp;obtain⟨hq,h⟩:=ym h;cases hq;obtain⟨hq,h⟩:=ym h;cases hq;obtain⟨ys,hi,h⟩:=xp h;obtain⟨hb,h⟩:=kv h;obtain⟨zs,hf,h⟩:=xp h;refine⟨_,h,xce _,fun fr vs env w u hB hg hx hc=> ?_⟩;obtain⟨S0,_,hΓ⟩:=hc.ex;have hv:=zk hy (zW hΓ y);refine(QO (e:=ti.ty.rep) (ys:=ys) 0 ht hl ho hn rfl hx rfl (fun S w hM ha=> ?_) (Eu _ hb) hb w hc).mono ?_
    ·have hm:(mO ti.ty.rep E2 (vs o2) zs0).p S w:=uH (σ:=⟨σ.nx,σ.rg,ob⟩) (F:=fr.F) hM.2 hA;rcases hv with⟨b,m,cap,c,q1,q2,q3,q4,q5⟩|⟨q1,ao,c,q2,q3⟩
     ·rw[q5,hi];exact CD hm q1 q2 q3 q4
     ·subst q1;rw[q3,hi];exact⟨ao,c,by simp,by simp,by unfold maxLen;omega,.inl (by simp)⟩
    rintro v w' ⟨v',rfl,_,hs⟩;refine Vx (vs:=vs) (mk:= .ow) hB hd hg (fun _=>rfl) (fun S w=>Q0 S w) ?_;rw[Q1,hf];exact hs
   ·cases h
  obtain⟨hp,h⟩:=yi h;obtain rfl:=he hp;obtain⟨ys,h,hi⟩:=XO h;obtain⟨hb,h⟩:=kv h;obtain⟨zs,hf,h⟩:=xp h;refine⟨_,h,xce _,fun fr vs env w u hB hg hx hc=> ?_⟩;refine(NA (e:=ti.ty.rep) (ys:=ys) 0 ht hl ho hn rfl hx rfl (fun S w ha=>hi P vs env S w (zW ha y)) (Eu _ hb) hb w hc).mono ?_;rintro v w' ⟨v',rfl,_,hs⟩;refine Vx (vs:=vs) (mk:= .ow) hB hd hg (fun _=>rfl) (fun S w=>Q0 S w) ?_;rw[Q1,hf];exact hs
theorem zhV(hT:zT P cf.tt){ags:Array Operand}{ts:Array TypeId}{k:Sg->Option R}(hd:wo cx d=true)(h:zf6 cf cx σ d ags.toList ts.toList k=some r):
 lF P cx ⟨d,.call ⟨.builtin .append,ags,ts⟩,ty,pos,aft,g⟩ σ k r:=by
 unfold zf6 at h;split at h
 ·next _ _ x y t t' hl hn=>
  obtain rfl:ags= #[x,y]:=by cases ags;simp_all
  obtain rfl:ts= #[t,t']:=by cases ts;simp_all
  split at h
  ·next s E B ht=>
   split at h
   ·next ti hc=>
    obtain⟨hi,h1⟩:=ym h;subst hi;split at h1
    ·next hx=>
     obtain⟨σ',h5,h6,h7⟩:=Pk (ty:=ty) (pos:=pos) (aft:=aft) (g:=g) (x:=x) hT (ve hT ht) hc hd (fun h=>ya h) h1;refine⟨σ',h5,h6,fun fr vs env w hR=> ?_⟩;obtain⟨hB,ha⟩:=hR;obtain⟨S0,_,hΓ⟩:=ha.ex;exact h7 fr vs env w _ hB hB.o1 (zk hx (zW hΓ x)) ha.nilO
    ·next o hx=>
     split at h1
     ·next s' E' xs ho=>
      obtain⟨hE,h2⟩:=yi h1;have hE:=ya hE;subst hE;obtain⟨hj,h3⟩:=ym h2;cases hj;obtain⟨σ',h5,h6,h7⟩:=Pk (ty:=ty) (pos:=pos) (aft:=aft) (g:=g) (x:=x) hT (ve hT ht) hc hd (fun h=>ya h) h3;refine⟨σ',h5,h6,fun fr vs env w hR=> ?_⟩;obtain⟨hB,ha⟩:=hR;obtain⟨S0,_,hΓ⟩:=ha.ex;obtain⟨i,hf,hm,hg⟩:=wj ho;have hk:(OS vs fr cx σ.ob)[i]? =some (mO ti.ty.rep E' (vs o) xs):=W4 hf;have hb:=ha.front i hk;rw[J1 hf,<-hg]at hb;exact h7 fr vs env w _ hB (fun e he=>hB.o1 e (kU e he)) (zk hx (zW hΓ x)) hb
     ·cases h1
    ·cases h1
   ·cases h
  ·cases h
 ·cases h
theorem zbA{α:Type}(xs ys:List α):(RK xs ys).length=xs.length:=by
 unfold RK;rw[xau,xay,xbQ];omega
theorem zcL{α:Type}{xs:List α}(ys:List α)(h:xs.length=0):RK xs ys=xs:=by
 rw[xbG.1 h];simp[RK]
theorem zfQ{α:Type}(xs ys:List α):xdr 0 xs++xdr (min ys.length xs.length) ys++xdw (0+min ys.length xs.length) xs=RK xs ys:=by simp[RK]
theorem If{α:Type}(lo:Nat)(xs ys:List α):U7 lo 0 xs ys=xs:=by simp[U7]
theorem OO{α:Type}{lo n:Nat}{xs:List α}(ys:List α)(h:lo+n<=xs.length):(U7 lo n xs ys).length=xs.length:=by
 unfold U7;rw[xau,xau,xay,xay,xbQ];omega
theorem zfg(hT:zT P cf.tt)(hL:jE P cf.tt){ags:Array Operand}{ts:Array TypeId}{k:Sg->Option R}(hd:wo cx d=true)(h:zav cf cx σ d ags.toList ts.toList k=some r):
 lF P cx ⟨d,.call ⟨.builtin .copy,ags,ts⟩,ty,pos,aft,g⟩ σ k r:=by
 unfold zav at h;split at h
 ·next x y t t' hK hM=>
  obtain rfl:ags= #[x,y]:=by cases ags;simp_all
  obtain rfl:ts= #[t,t']:=by cases ts;simp_all
  split at h
  ·next s E B o ht hx=>
   split at h
   ·next s' E' xs ho=>
    obtain⟨h1,h⟩:=yi h;obtain⟨hA,h⟩:=ym h;cases hA;obtain⟨ys,h,hy⟩:=XO h;obtain⟨zs,hb,h⟩:=xp h;have hb:zs=RK (α:=s.D) xs ys:=hb;obtain⟨bytes,zero,hk⟩:=VH hT hL ht;have hl:s.rep.n=1:=by rw[s.n_rep];exact ya h1
    refine⟨_,h,xac _,fun fr vs env w hR=> ?_⟩;obtain⟨hB,hc⟩:=hR;obtain⟨S0,_,hΓ⟩:=hc.ex;have hn:ev env x=vs o:=zk hx (zW hΓ x);obtain⟨i,hi,hq,hH⟩:=wj ho;have hm:(OS vs fr cx σ.ob)[i]? =some (mO s.rep E' (vs o) xs):=W4 hi;have fin: ∀v w',St fr.we fr.Se ((OS vs fr cx σ.ob).set i (mO s.rep E' (vs o) zs)) (GS P vs env fr cx σ) w'->aY P fr cx σ.nx vs ⟨σ.nx,va σ.rg d [],kE σ.ob o (.own s E' zs)⟩ (put env d v) w':=fun v w' hs=>by
     refine Qb (σ':=⟨σ.nx,va σ.rg d [],kE σ.ob o (.own s E' zs)⟩) (d:=d) (l:=[]) (vs:=vs) (vs':=vs) (Γl:=[]) hB hd rfl (xac _) (fun _ _=>rfl) (fun _ he=>absurd he xaa) (fun e he=> ?_) (fun S w _ e he=>absurd he xaa) ?_
     ·obtain⟨e',h1,h2⟩:=Ki ho e he;rw[<-h2];exact hB.o1 e' h1
     ·rw[hq];show St _ _ (MS vs (σ.ob.set i (o,.own s E' zs))++_) _ _;rw[<-p8 hi];exact hs
    rcases xcN (xaG xs)with h0|h0
    ·have hv:vs o= .slice none 0 0\/ ∃b cap,vs o= .slice (some ⟨b,0,none⟩) 0 cap:=xO hc hm fun S ⟨cs,h5,_⟩=>by
      rcases h5.2 with⟨h,_⟩|⟨b,cap,cur,h,_⟩
      ·exact .inl h
      ·rw[h0]at h;exact .inr ⟨b,cap,h⟩
     obtain⟨ba,cap,hv⟩: ∃ba cap,vs o= .slice ba 0 cap:=by
      rcases hv with hv|⟨b,cap,hv⟩
      ·exact⟨_,_,hv⟩
      ·exact⟨_,_,hv⟩
     obtain⟨ao,scap,hu,_⟩:=xm.1 (hy P vs env S0 w (zW hΓ y));obtain⟨ti,hC,i1,i2,i3⟩:=hk.info;have hD:(P.info? E).map (·.size)=some 1:=by rw[hC];simp[i1,hl]
     have hr:=run_copy_none (P:=P) w t t' ty E ba ao 0 cap (xaG ys) scap (ve hT ht) hD (Nat.min_zero _);rw[<-hu,<-hv,<-hn]at hr;have hz:zs=xs:=hb.trans (zcL (α:=s.D) ys h0);refine kh.of_value (v:=goInt 0) (w':=w) ?_ (fin _ w ?_)
     ·simp only[execOp,resolve,invoke,builtin,xdG,xbR,xer,xaq,hr,xaE,xab]
     ·have:(OS vs fr cx σ.ob).set i (mO s.rep E' (vs o) xs)=OS vs fr cx σ.ob:=by
       obtain⟨hI,hE⟩:=xat.1 hm;rw[<-hE,xfq]
      rw[hz,this];exact hc
    ·obtain⟨b,cap,hv,hF,hG,hs⟩:=hc.openO i hm h0;refine(DZ (e:=s.rep) (l:=0) (dLen:=xaG xs) (dCap:=cap) i (ve hT ht) hk hl (wx hm) (by rw[hn,hv];simp) rfl (by omega) (fun S w ha=>hy P vs env S w (zW ha y)) w hs).mono ?_;rintro v w' ⟨n,rfl,_,hg⟩;refine fin _ w' ?_;have hz:=(zfQ (α:=s.D) xs ys).trans hb.symm;rw[hz]at hg;have hf:xaG zs=xaG xs:=by rw[hb];exact zbA (α:=s.D) xs ys
     have hw:=hg.closeF i (wx (wx hm)) (by rw[hf];exact hF) hG;rw[kt,kt,hf,<-hv]at hw;exact hw
   ·cases h
  ·next s E B o t2 lo n ht hx=>
   split at h
   ·next s' E' xs hj ho _=>
    obtain⟨h1,h⟩:=yi h;obtain⟨hA,h⟩:=ym h;cases hA;obtain⟨ys,h,hy⟩:=XO h;obtain⟨zs,hb,h⟩:=xp h;have hb:zs=U7 (α:=s.D) lo n xs ys:=hb;obtain⟨hj⟩:=hj;subst hj;obtain⟨bytes,zero,hk⟩:=VH hT hL ht;have hl:t2.rep.n=1:=by rw[t2.n_rep];exact ya h1
    refine⟨_,h,xac _,fun fr vs env w hR=> ?_⟩;obtain⟨hB,hc⟩:=hR;obtain⟨S0,_,hΓ⟩:=hc.ex;have hn:=zk hx (zW hΓ x);obtain⟨i,hi,hq,hH⟩:=wj ho;have hm:(OS vs fr cx σ.ob)[i]? =some (mO t2.rep E' (vs o) xs):=W4 hi;have fin: ∀v w',St fr.we fr.Se ((OS vs fr cx σ.ob).set i (mO t2.rep E' (vs o) zs)) (GS P vs env fr cx σ) w'->aY P fr cx σ.nx vs ⟨σ.nx,va σ.rg d [],kE σ.ob o (.own t2 E' zs)⟩ (put env d v) w':=fun v w' hs=>by
     refine Qb (σ':=⟨σ.nx,va σ.rg d [],kE σ.ob o (.own t2 E' zs)⟩) (d:=d) (l:=[]) (vs:=vs) (vs':=vs) (Γl:=[]) hB hd rfl (xac _) (fun _ _=>rfl) (fun _ he=>absurd he xaa) (fun e he=> ?_) (fun S w _ e he=>absurd he xaa) ?_
     ·obtain⟨e',h1,h2⟩:=Ki ho e he;rw[<-h2];exact hB.o1 e' h1
     ·rw[hq];show St _ _ (MS vs (σ.ob.set i (o,.own t2 E' zs))++_) _ _;rw[<-p8 hi];exact hs
    rcases xcN n with h0|h0
    ·obtain⟨ba,c,hv⟩: ∃ba c,ev env x= .slice ba 0 c:=by
      rcases hn with⟨b,m,cap,c,q1,q2,q3,q4,q5⟩|⟨q1,ao,c,q2,q3⟩
      ·exact⟨_,c,by rw[q5,h0]⟩
      ·exact⟨ao,c,q3⟩
     obtain⟨ao,scap,hu,_⟩:=xm.1 (hy P vs env S0 w (zW hΓ y));obtain⟨ti,hC,i1,i2,i3⟩:=hk.info;have hD:(P.info? E).map (·.size)=some 1:=by rw[hC];simp[i1,hl]
     have hr:=run_copy_none (P:=P) w t t' ty E ba ao 0 c (xaG ys) scap (ve hT ht) hD (Nat.min_zero _);rw[<-hu,<-hv]at hr;have hz:zs=xs:=by rw[hb,h0];exact If (α:=t2.D) lo xs ys
     refine kh.of_value (v:=goInt 0) (w':=w) ?_ (fin _ w ?_)
     ·simp only[execOp,resolve,invoke,builtin,xdG,xbR,xer,xaq,hr,xaE,xab]
     ·have:(OS vs fr cx σ.ob).set i (mO t2.rep E' (vs o) xs)=OS vs fr cx σ.ob:=by
       obtain⟨hI,hE⟩:=xat.1 hm;rw[<-hE,xfq]
      rw[hz,this];exact hc
    ·rcases hn with⟨b0,m,cap0,c,q1,q2,q3,q4,q5⟩|⟨q1,ao,c,q2,q3⟩
     ·have hJ:m=xaG xs:=xO hc hm fun S hp=>cY hp q1;subst hJ;obtain⟨b,cap,hv,hF,hG,hs⟩:=hc.openO i hm (by omega);rw[q1]at hv;cases hv;refine(DZ (e:=t2.rep) (l:=lo) (dLen:=n) (dCap:=c) i (ve hT ht) hk hl (wx hm) q5 rfl q2 (fun S w ha=>hy P vs env S w (zW ha y)) w hs).mono ?_;rintro v w' ⟨nn,rfl,_,hg⟩;refine fin _ w' ?_;have hg:St fr.we fr.Se (((OS vs fr cx σ.ob).set i (mB (rowT t2.rep cap0) E' b0 xs)).set i (mB (rowT t2.rep cap0) E' b0 (U7 (α:=t2.D) lo n xs ys))) (GS P vs env fr cx σ) w':=hg;rw[<-hb]at hg;have hf:xaG zs=xaG xs:=by rw[hb];exact OO (α:=t2.D) ys q2
      have hw:=hg.closeF i (wx (wx hm)) (by rw[hf];exact hF) hG;rw[kt,kt,hf,<-q1]at hw;exact hw
     ·omega
   ·cases h
  ·cases h
 ·cases h
end
end
end Go.Proofs.YtmggkmchbdanfaaGreat
