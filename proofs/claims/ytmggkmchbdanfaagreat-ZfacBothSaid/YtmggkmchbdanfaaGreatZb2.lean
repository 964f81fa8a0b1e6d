/- What a proof needs: rules of walking, mirrors of functions and their plain laws. No condition. -/
import Derived.Test.YtmggkmchbdanfaaGreatZb1
import Derived.WideKeyArgs
import Derived.Laws.IdiomStrings
set_option linter.unusedVariables false
set_option linter.unusedSimpArgs false
namespace Go.Proofs.YtmggkmchbdanfaaGreat
open Bool renaming and_eq_true->xam,false_eq_true->xak
open Call renaming operands->xej
open DataW renaming TrodAll->xeH
open Extern renaming find->xeW,findNext->xey
open Extern.MathBitsCarry renaming m64->xaY,pair->xbV,three->xbP
open Instr renaming slice->xfK,sliceAt->xcX,sliceBound->xeo,sliceBounds->xdV
open Int renaming eq_ofNat_of_zero_le->xaA,fdiv->xfS,natCast_nonneg->xdf,tdiv->xde,tmod->xcc,toNat_natCast->xaE,toNat_of_nonneg->xcZ
open IntKind renaming bits->xew,i64->xcY,signed->xdR,u8->xfV,wrap->xfR
open List renaming all_eq_true->xaS,append_nil->xbQ,drop->xdz,ext_getElem?->xcA,getD->xeq,getD_eq_getElem?_getD->H1,getElem?_append_left->xbq,getElem?_append_right->xcn,getElem?_eq_getElem->xaa,getElem?_eq_some_iff->xau,getElem?_map->xaT,getElem?_range->xby,getElem?_set->xdZ,getElem_map->xfE,getElem_mem->xbk,length->xaI,length_append->xax,length_cons->xaq,length_drop->xbN,length_eq_zero_iff->xbF,length_map->xaP,length_replicate->xaZ,length_set->xcL,length_take->xav,map_congr_left->xcj,map_cons->xbZ,map_map->xcT,map_nil->xex,map_toArray->xdH,mem_append->Nm,mem_cons->xad,mem_cons_of_mem->UV,mem_cons_self->FS,mem_filter->xck,mem_filterMap->xfe,mem_map->xap,mem_of_getElem?->xbx,mem_or_eq_of_mem_set->xeO,mem_singleton->xai,nil_append->xbA,not_mem_nil->IR,range->xbb,range'->xfn,replicate->xaf,set->xfW,set_getElem_self->xfv,take->xdt,take_append_drop->xbH,take_of_length_le->xaQ
open List.cons renaming injEq->xez
open Nat renaming add_assoc->xcR,add_mul->xaR,beq->xao,ble->xfT,blt->xdd,eq_of_beq_eq_true->xcM,eq_zero_or_pos->xcv,le_mul_of_pos_right->xbU,le_of_ble_eq_true->xbM,le_of_lt->xcS,le_refl->xab,le_succ->xcd,le_trans->xan,lt_of_le_of_lt->xba,lt_of_lt_of_le->xal,lt_or_ge->xcf,lt_succ_of_lt->xfo,lt_succ_self->xca,mod_lt->xbi,not_lt_zero->xbl,one_mul->xcb,zero_add->xaN,zero_le->xah,zero_mul->xcs
open Op renaming operands->xaM
open Oper renaming looksAt->xbC
open Option.some renaming inj->xdv,injEq->xay
open Prod.mk renaming injEq->xcx
open Result renaming andThen_ok->xae
open Sem renaming run_bind->xas,run_pure->xaG
open Sum renaming elim->xfu
open UInt8 renaming ofNat->xeX,toNat->xfm
open Value renaming okWide->xee
open _root_.Array renaming getElem?_eq_getElem->xcB,getElem?_eq_some_iff->xbm
section
structure VF where
 f:FuncId
 dom:List AM
 cod:List RM
 M:UI dom->Option (dq cod)
 bk:Nat
structure tH where
 f:FuncId
 t:Ty
 E:TypeId
 E1:TypeId
 M:List (List t.D)->List Nat->Nat->Int->Int->Nat->Nat->Option (List<|List t.D)
structure La where
 f:FuncId
 dom:List Ty
 g:FuncId
 mc:dw dom->List PD
structure Ba where
 f:FuncId
 dom:List AM
 t:Ty
 E:TypeId
 M:UI dom->{X Y:Type}->(List t.D->X->Option (List t.D×(X⊕Y)))->X->Option (X⊕Y)
structure Cf where
 tt:List (Nat×TI)
 cs:List VF
 an:An
 fu:Nat
 ex:List (Nat×Bool)
 ms:List tH:=[]
 cl:List La:=[]
 is:List Ba:=[]
def SZ:List tH->FuncId->Option tH
 |[],_=>none
 |s::r,f=>bif xao s.f f then some s else SZ r f
def zcg:List La->FuncId->Option La
 |[],_=>none
 |s::r,f=>bif xao s.f f then some s else zcg r f
def zey:List Ba->FuncId->Option Ba
 |[],_=>none
 |s::r,f=>bif xao s.f f then some s else zey r f
abbrev kQ{R:Type}(b:Bool)(x:Option R):Option R:=match b with
 |true=>x
 |false=>none
abbrev NI{R:Type}(b:Bool)(x y:Option R):Option R:=match b with
 |true=>x
 |false=>y
def pK:List AM->Bool
 |[]=>true
 |.own _ _::_=>false
 |_::r=>pK r
def Cy:List VF->FuncId->Option VF
 |[],_=>none
 |s::r,f=>bif xao s.f f && (pK s.dom && xao s.bk 0)then some s else Cy r f
section
variable{R:Type}(cf:Cf)(cx:Sg)
def zfv:Dv->Option PD
 |.d t x=>some ⟨t,x⟩
 |.kb b=>some ⟨.b,b⟩
 |_=>none
def Bm(v:Option Dv)(t:Ty)(k:t.D->Option R):Option R:=match v with
 |some .nil=>(match t,k with
  |.l s,k=>k ([]:List s.D)
  |_,_=>none)
 |some v=>(match zfv v with
  |some p=>Ty.cast p.t t p.x k
  |none=>none)
 |none=>none
def arI(bo:BinOp)(a c:Int)(k:Dv->Option R):Option R:=match bo with
 |.add=>zg (a+c) fun x=>k (.d .i x)
 |.sub=>zg (a-c) fun x=>k (.d .i x)
 |.mul=>zg (a*c) fun x=>k (.d .i x)
 |.quo=>ck (c≠0)<|zg (xde a c) fun x=>k (.d .i x)
 |.rem=>ck (c≠0)<|nm (xcc a c) fun x=>k (.d .i x)
 |.and=>nm (Mf a c) fun x=>k (.d .i x)
 |.or=>nm (orI a c) fun x=>k (.d .i x)
 |.shr=>ck (0<=c)<|nm (xfS a<|2^(min c.toNat 64)) fun x=>k (.d .i x)
 |.shl=>ck (0<=c)<|zg (a*2^(min c.toNat 64)) fun x=>k (.d .i x)
 |.lss=>if a<c then k (.kb true)else k (.kb false)
 |.leq=>if a<=c then k (.kb true)else k (.kb false)
 |.gtr=>if c<a then k (.kb true)else k (.kb false)
 |.geq=>if c<=a then k (.kb true)else k (.kb false)
 |.eql=>if a=c then k (.kb true)else k (.kb false)
 |.neq=>if a=c then k (.kb false)else k (.kb true)
 |_=>none
def arU(bo:BinOp)(a c:Nat)(k:Dv->Option R):Option R:=match bo with
 |.add=>nm ((a+c)%18446744073709551616) fun x=>k (.d .u x)
 |.sub=>nm ((a+18446744073709551616-c)%18446744073709551616) fun x=>k (.d .u x)
 |.mul=>nm ((a*c)%18446744073709551616) fun x=>k (.d .u x)
 |.quo=>ck (c≠0)<|nm (a/c) fun x=>k (.d .u x)
 |.rem=>ck (c≠0)<|nm (a%c) fun x=>k (.d .u x)
 |.and=>nm (a &&& c) fun x=>k (.d .u x)
 |.or=>nm (a|||c) fun x=>k (.d .u x)
 |.lss=>if(a:Int)<(c:Int)then k (.kb true)else k (.kb false)
 |.leq=>if(a:Int)<=(c:Int)then k (.kb true)else k (.kb false)
 |.gtr=>if(c:Int)<(a:Int)then k (.kb true)else k (.kb false)
 |.geq=>if(c:Int)<=(a:Int)then k (.kb true)else k (.kb false)
 |.eql=>if(a:Int)=(c:Int)then k (.kb true)else k (.kb false)
 |.neq=>if(a:Int)=(c:Int)then k (.kb false)else k (.kb true)
 |_=>none
def arC(bo:BinOp)(a c:Nat)(k:Dv->Option R):Option R:=match bo with
 |.add=>nm ((a+c)%256) fun x=>k (.d .ch x)
 |.sub=>nm ((a+256-c)%256) fun x=>k (.d .ch x)
 |.lss=>if(a:Int)<(c:Int)then k (.kb true)else k (.kb false)
 |.leq=>if(a:Int)<=(c:Int)then k (.kb true)else k (.kb false)
 |.gtr=>if(c:Int)<(a:Int)then k (.kb true)else k (.kb false)
 |.geq=>if(c:Int)<=(a:Int)then k (.kb true)else k (.kb false)
 |.eql=>if(a:Int)=(c:Int)then k (.kb true)else k (.kb false)
 |.neq=>if(a:Int)=(c:Int)then k (.kb false)else k (.kb true)
 |_=>none
def eqT(bo:BinOp)(a c:List Nat)(k:Dv->Option R):Option R:=match bo with
 |.add=>ck (a.length+c.length<=9223372036854775807)<|nm (a++c) fun x=>k (.d .tx x)
 |.eql=>if a=c then k (.kb true)else k (.kb false)
 |.neq=>if a=c then k (.kb false)else k (.kb true)
 |_=>none
def shU(bo:BinOp)(a:Nat)(c:Int)(k:Dv->Option R):Option R:=match bo with
 |.shr=>ck (0<=c)<|nm (a/2^(min c.toNat 64)) fun x=>k (.d .u x)
 |.shl=>ck (0<=c)<|nm (a*2^(min c.toNat 64)%18446744073709551616) fun x=>k (.d .u x)
 |_=>none
def SH(bo:BinOp)(a c:Nat)(k:Dv->Option R):Option R:=match bo with
 |.shr=>nm (a/2^(min (c:Int).toNat 64)) fun x=>k (.d .u x)
 |.shl=>nm (a*2^(min (c:Int).toNat 64)%18446744073709551616) fun x=>k (.d .u x)
 |_=>none
def shI(bo:BinOp)(a:Int)(c:Nat)(k:Dv->Option R):Option R:=match bo with
 |.shr=>nm (xfS a<|2^(min (c:Int).toNat 64)) fun x=>k (.d .i x)
 |.shl=>zg (a*2^(min (c:Int).toNat 64)) fun x=>k (.d .i x)
 |_=>none
def eqB(bo:BinOp)(a c:Bool)(k:Dv->Option R):Option R:=match bo with
 |.eql=>nm (a==c) fun x=>k (.d .b x)
 |.neq=>nm (!(a==c)) fun x=>k (.d .b x)
 |_=>none
def zgV(tb:Bool)(bo:BinOp)(x y:Option PD)(k:Dv->Option R):Option R:=match x,y with
 |some ⟨.i,a⟩,some ⟨.i,c⟩=>arI bo a c k
 |some ⟨.u,a⟩,some ⟨.u,c⟩=>(match bo with
  |.shr=>SH .shr a c k
  |.shl=>SH .shl a c k
  |bo=>arU bo a c k)
 |some ⟨.u,a⟩,some ⟨.i,c⟩=>shU bo a c k
 |some ⟨.i,a⟩,some ⟨.u,c⟩=>shI bo a c k
 |some ⟨.b,a⟩,some ⟨.b,c⟩=>kQ tb<|eqB bo a c k
 |some ⟨.ch,a⟩,some ⟨.ch,c⟩=>arC bo a c k
 |some ⟨.tx,a⟩,some ⟨.tx,c⟩=>eqT bo a c k
 |_,_=>none
def chI(a:Nat):Dv:=.d .i (a:Int)
def chU(a:Nat)(k:Dv->Option R):Option R:=nm (a%256) fun x=>k (.d .ch x)
def zji(kk:TK)(x:Option PD)(k:Dv->Option R):Option R:=match kk,x with
 |.int .i64,some ⟨.i,a⟩=>k (.d .i a)
 |.int .u64,some ⟨.u,a⟩=>k (.d .u a)
 |.int .u64,some ⟨.i,a⟩=>nm (rY a) fun x=>k (.d .u x)
 |.int .i64,some ⟨.u,a⟩=>nm (SO a) fun x=>k (.d .i x)
 |.int .i64,some ⟨.ch,a⟩=>k<|chI a
 |.int .u64,some ⟨.ch,a⟩=>k (.d .u a)
 |.int .u8,some ⟨.ch,a⟩=>k (.d .ch a)
 |.int .u8,some ⟨.u,a⟩=>chU a k
 |_,_=>none
def pd(σ:Sg)(x:Operand):Option PD:=match x8 cx σ x with
 |some v=>zfv v
 |none=>none
def Yh(t:TypeId):Option TI:=Jz cf.tt t
def isB(t:TypeId):Bool:=match Yh cf t with
 |some ⟨_,.bool,_⟩=>true
 |_=>false
def ifB(x:Bool)(a c:Option R):Option R:=if x=true then a else c
def eqI(x y:Int):Bool:=decide<|x=y
def eqU(x y:Nat):Bool:=decide<|x=y
def ngI(a:Int)(k:Dv->Option R):Option R:=zg (0-a) fun x=>k (.d .i x)
def ngU(a:Nat)(k:Dv->Option R):Option R:=nm ((18446744073709551616-a)%18446744073709551616) fun x=>k (.d .u x)
def ziS{α:Type}(xs ys:List α)(B:Nat)(k:List α->Option R):Option R:=ck ((xs.length+ys.length)*B<=140737488355328)<|nm (xs++ys) k
def zln{α:Type}(xs:List α)(n:Nat)(z:α)(B:Nat)(k:List α->Option R):Option R:=ck ((xs.length+n)*B<=140737488355328)<|nm (xs++xaf n z) k
def ixU(j:Nat)(n:Nat)(k:Nat->Option R):Option R:=zH (j:Int) n k
def Pt:Operand->Operand->Bool
 |.tmp s,.tmp t=>xao s t
 |.const (.int .i64 x),.const (.int .i64 y)=>eqI x y
 |_,_=>false
def exU(b:Bool)(x y z:Nat)(k:List (Nat×Dv)->Option R):Option R:=
 ck (z<=1)<|NI b (nm ((x+y+z)%18446744073709551616) fun p=>nm ((x+y+z)/18446744073709551616) fun q=>k [(1,.d .u p),(2,.d .u q)])
  (nm ((x+18446744073709551616-y-z)%18446744073709551616) fun p=>nm (if x<y+z then(1:Nat)else 0) fun q=>k [(1,.d .u p),(2,.d .u q)])
def exD(b:Bool)(x y z:Option PD)(k:List (Nat×Dv)->Option R):Option R:=match x,y,z with
 |some ⟨.u,x⟩,some ⟨.u,y⟩,some ⟨.u,z⟩=>exU b x y z k
 |_,_,_=>none
def x9(σ:Sg):(ts:List Ty)->List (Nat×Operand)->Nat->(dw ts->Option R)->Option R
 |[],[],_,k=>k ()
 |t::ts,(i,x)::r,j,k=>kQ (xao i j)<|Bm (x8 cx σ x) t fun y=>x9 σ ts r (j+1) fun ys=>k (y,ys)
 |_,_,_,_=>none
def Rf:(k:Nat)->Ty->List Ty
 |0,_=>[]
 |1,t=>[t]
 |k+2,.p s t=>s::Rf (k+1) t
 |_,_=>[]
def Ur:(k:Nat)->(t:Ty)->dw (Rf k t)->Option t.D
 |0,_,_=>none
 |1,t,x=>some x.1
 |k+2,.p s t,x=>match Ur (k+1) t x.2 with
  |some y=>some (x.1,y)
  |none=>none
 |_+2,.i,_=>none
 |_+2,.u,_=>none
 |_+2,.b,_=>none
 |_+2,.l _,_=>none
 |_+2,.a _ _,_=>none
 |_+2,.ch,_=>none
 |_+2,.tx,_=>none
def AU:Nat->Ty->List Ty
 |0,_=>[]
 |n+1,t=>t::AU n t
def dB:(n:Nat)->(t:Ty)->dw (AU n t)->List t.D
 |0,_,_=>[]
 |n+1,t,x=>x.1::dB n t x.2
def JJ(σ:Sg):List Operand->Option (List PD)
 |[]=>some []
 |x::r=>match x8 cx σ x,JJ σ r with
  |some (.q t y),some l=>some (⟨t,y⟩::l)
  |_,_=>none
def Kh:(full:List AM)->List PD->Option (UI full)
 |[],[]=>some ()
 |.q t::r,c::cs=>Ty.cast c.t t c.x fun y=>match Kh r cs with
  |some z=>some (y,z)
  |none=>none
 |_,_=>none
def DD:(full:List AM)->(dom:List Ty)->dw dom->List PD->Option (UI full)
 |full,[],_,cs=>Kh full cs
 |.d t::r,s::dom,x,cs=>Ty.cast s t x.1 fun y=>match DD r dom x.2 cs with
  |some z=>some (y,z)
  |none=>none
 |_,_::_,_,_=>none
def EE:(s t:List Ty)->Option (PLift<|s=t)
 |[],[]=>some ⟨rfl⟩
 |s::ss,t::ts=>match Ty.same s t,EE ss ts with
  |some ⟨h⟩,some ⟨h'⟩=>some ⟨h▸h'▸rfl⟩
  |_,_=>none
 |_,_=>none
theorem RM.D_ty:∀r:RM,r.D=r.ty.D
 |.d _=>rfl
 |.own _ _=>rfl
theorem Yy:∀rs:List RM,dq rs=B4 (rs.map RM.ty)
 |[]=>rfl
 |[m]=>RM.D_ty m
 |m::n::r=>by show(m.D×dq (n::r))=(m.ty.D×B4 ((n::r).map RM.ty));rw[RM.D_ty m,Yy (n::r)]
def asF(σ:Sg)(v:Option Dv)(dom cod:List Ty)(k:(dw dom->Option (B4 cod))->Option R):Option R:=match v with
 |some (.fn f c)=>(match Cy cf.cs f with
  |some s=>(match EE (s.cod.map RM.ty) cod with
   |some ⟨h⟩=>k fun x=>match DD s.dom dom x c with
    |some y=>((Yy s.cod).trans<|congrArg B4 h)▸s.M y
    |none=>none
   |none=>none)
  |none=>none)
 |some (.fp d c g)=>(match EE d dom,EE c cod with
  |some ⟨h⟩,some ⟨h'⟩=>k<|h▸h'▸g
  |_,_=>none)
 |_=>none
def X2(σ:Sg):(dom:List AM)->List Operand->List PD->(UI dom->Option R)->Option R
 |[],[],[],k=>k ()
 |.q t::r,[],c::cs,k=>Ty.cast c.t t c.x fun y=>X2 σ r [] cs fun z=>k (y,z)
 |.d t::r,x::xs,cs,k=>Bm (x8 cx σ x) t fun y=>X2 σ r xs cs fun z=>k (y,z)
 |.q t::r,x::xs,cs,k=>(match x8 cx σ x with
  |some (.q s y)=>Ty.cast s t y fun y=>X2 σ r xs cs fun z=>k (y,z)
  |_=>none)
 |.fn dom cod::r,x::xs,cs,k=>asF cf σ (x8 cx σ x) dom cod fun g=>X2 σ r xs cs fun z=>k (g,z)
 |_,_,_,_=>none
def R8:(rs:List RM)->dq rs->Nat->List (Nat×Dv)
 |[],_,_=>[]
 |[.d t],x,i=>[(i,.d t x)]
 |[.own t _],x,i=>[(i,.d (.l t) x)]
 |.d t::r::rs,x,i=>(i,.d t x.1)::R8 (r::rs) x.2 (i+1)
 |.own t _::r::rs,x,i=>(i,.d (.l t) x.1)::R8 (r::rs) x.2 (i+1)
def J7:List RM->Bool
 |[_]=>true
 |_=>false
def zeC(rs:List RM)(x:dq rs):List (Nat×Dv):=R8 rs x<|bif J7 rs then 0 else 1
def sV(σ:Sg):(dom:List Ty)->List Operand->(dw dom->Option R)->Option R
 |[],[],k=>k ()
 |t::r,x::xs,k=>Bm (x8 cx σ x) t fun y=>sV σ r xs fun z=>k (y,z)
 |_,_,_=>none
def zb3:(cod:List Ty)->B4 cod->Nat->List (Nat×Dv)
 |[],_,_=>[]
 |[t],x,i=>[(i,.d t x)]
 |t::s::r,x,i=>(i,.d t x.1)::zb3 (s::r) x.2 (i+1)
def zeg:List Ty->Bool
 |[_]=>true
 |_=>false
def zgu(σ:Sg)(v:Option Dv)(k:PD->Option R):Option R:=match v with
 |some (.q t x)=>k ⟨t,x⟩
 |some (.vs o _)=>(match Jf cx σ o with
  |some (.var t _ z)=>k ⟨t,z⟩
  |_=>none)
 |some (.vp o t f)=>(match Jf cx σ o with
  |some (.var t' _ z)=>Ty.cast t' t z fun z=>k ⟨f.f,f.get z⟩
  |_=>none)
 |some (.ep o t j f)=>(match Jf cx σ o with
  |some (.own t' _ xs)=>Ty.cast (.l t') (.l t) xs fun xs=>nm (f.get<|xeq xs j t.z) fun y=>k ⟨f.f,y⟩
  |_=>none)
 |_=>none
def atI(σ:Sg)(x:Operand)(n:Nat)(k:Nat->Option R):Option R:=match pd cx σ x with
 |some ⟨.i,j⟩=>zH j n k
 |some ⟨.u,j⟩=>ixU j n k
 |_=>none
def GK(σ:Sg)(x:Option Operand)(k:Option Nat->Option R):Option R:=match x with
 |none=>k none
 |some x=>match pd cx σ x with
  |some ⟨.i,j⟩=>jS j fun j=>k<|some j
  |_=>none
def zhx{α:Type}(xs:List α)(lo hi:Option Nat)(k:List α->Option R):Option R:=match lo,hi with
 |none,some h=>ck (h<=xs.length)<|nm (xs.take h) k
 |some l,none=>ck (l<=xs.length)<|nm (xs.drop l) k
 |some l,some h=>ck (l<=h/\h<=xs.length)<|nm ((xs.drop l).take<|h-l) k
 |none,none=>k xs
def zdO(m:Nat)(lo hi:Option Nat)(k:Nat->Nat->Option R):Option R:=match lo,hi with
 |none,some h=>ck (h<=m)<|k 0 h
 |some l,none=>ck (l<=m)<|k l (m-l)
 |some l,some h=>ck (l<=h/\h<=m)<|k l (h-l)
 |none,none=>k 0 m
def zed(σ:Sg)(t:Nat):Nat->Nat->List (Nat×Dv)
 |0,_=>[]
 |f+1,i=>match get cx σ t i with
  |some d=>(i,d)::zed σ t f (i+1)
  |none=>[]
def zi4(σ:Sg)(x:Operand)(k:List (Nat×Dv)->Option R):Option R:=match x with
 |.tmp t=>(match zed cx σ t 12 1 with
  |[]=>none
  |l=>k l)
 |_=>none
def P7(σ:Sg)(x:Operand)(k:List (Nat×Dv)->Option R):Option R:=match x8 cx σ x with
 |some v=>k [(0,v)]
 |none=>zi4 cx σ x k
def zg7(σ:Sg)(x:Operand)(i:Nat)(k:List (Nat×Dv)->Option R):Option R:=match x with
 |.tmp t=>(match get cx σ t (i+1)with
  |some v=>k [(0,v)]
  |none=>none)
 |_=>none
def zen(σ:Sg)(x:Operand)(k:List (Nat×Dv)->Option R):Option R:=match x8 cx σ x with
 |some v=>k [(0,v)]
 |none=>none
def zcQ(σ:Sg)(c x y:Operand)(k:List (Nat×Dv)->Option R):Option R:=match x8 cx σ c with
 |some (.kb true)=>zen cx σ x k
 |some (.kb false)=>zen cx σ y k
 |_=>none
def zlf(b:Bool):Dv:=.d .b<|not b
def zhY(σ:Sg)(x:Operand)(k:List (Nat×Dv)->Option R):Option R:=match x8 cx σ x with
 |some (.kb b)=>k [(0,.kb !b)]
 |some (.d .b b)=>k [(0,zlf b)]
 |_=>none
def zhX(σ:Sg)(x:Operand)(k:List (Nat×Dv)->Option R):Option R:=match pd cx σ x with
 |some ⟨.i,a⟩=>ngI a fun v=>k [(0,v)]
 |some ⟨.u,a⟩=>ngU a fun v=>k [(0,v)]
 |_=>none
def txD(xs:List Nat):Dv:=.d .tx xs
def zho(σ:Sg)(s t:TypeId)(x:Operand)(k:List (Nat×Dv)->Option R):Option R:=match Yh cf s,Yh cf t with
 |some ⟨_,.int _,_⟩,some ti=>zji ti.k (pd cx σ x) fun v=>k [(0,v)]
 |some ⟨.l .ch,.sl E,_⟩,some ⟨_,.str,_⟩=>(match Yh cf E with
  |some ⟨_,.int .u8,_⟩=>Bm (x8 cx σ x) (.l .ch) fun xs=>k [(0,txD xs)]
  |_=>none)
 |_,_=>none
def elA(E:TypeId)(e:Ty):Bool:=match Yh cf E with
 |some ti=>(Ty.same ti.ty e).isSome
 |none=>false
def ziR(n:Nat)(e:Ty)(j:Nat):Fl (Ty.a n e).D:=⟨j*e.n,e,fun z=>xeq z j e.z,fun y z=>xfW z j y⟩
def LR(σ:Sg)(t:TypeId)(x i:Operand)(k:List (Nat×Dv)->Option R):Option R:=match Yh cf t,x8 cx σ x with
 |some ⟨.l e,.sl _,_⟩,some (.d (.l s) xs)=>Ty.cast (.l s) (.l e) xs fun xs=>atI cx σ i (xaI xs) fun j=>nm (xeq xs j e.z) fun y=>k [(0,.q e y)]
 |some ⟨.l e,.sl _,_⟩,some (.ow o)=>(match Jf cx σ o with
  |some (.own s _ xs)=>Ty.cast (.l s) (.l e) xs fun xs=>atI cx σ i (xaI xs) fun j=>k [(0,.ep o e j<|Fl.self e)]
  |_=>none)
 |some ⟨_,.ar n' E,_⟩,some (.q (.a n e) x)=>kQ (xao n' n && elA cf E e)<|atI cx σ i n fun j=>nm (xeq x j e.z) fun y=>k [(0,.q e y)]
 |some ⟨_,.ar n' E,_⟩,some (.vs o (.a n e))=>kQ (xao n' n && elA cf E e)<|atI cx σ i n fun j=>k [(0,.vp o (.a n e)<|ziR n e j)]
 |_,_=>none
def MC(σ:Sg)(t:TypeId)(x:Operand)(i:Nat)(k:List (Nat×Dv)->Option R):Option R:=match Yh cf t,x8 cx σ x with
 |some ⟨e,.st n,_⟩,some (.q s y)=>Ty.cast s e y fun y=>(match Q3 n e i with
  |some f=>k [(0,.q f.f<|f.get y)]
  |none=>none)
 |some ⟨e,.st n,_⟩,some (.vs o s)=>(match Ty.same s e,Q3 n s i with
  |some _,some f=>k [(0,.vp o s f)]
  |_,_=>none)
 |some ⟨e,.st n,_⟩,some (.vp o s g)=>(match Ty.same g.f e,Q3 n g.f i with
  |some _,some f=>k [(0,.vp o s<|g.comp f)]
  |_,_=>none)
 |some ⟨e,.st n,_⟩,some (.ep o s j g)=>(match Ty.same g.f e,Q3 n g.f i with
  |some _,some f=>k [(0,.ep o s j<|g.comp f)]
  |_,_=>none)
 |_,_=>none
def Dm(σ:Sg)(t:TypeId)(x:Operand)(i:Nat)(k:List (Nat×Dv)->Option R):Option R:=match Yh cf t,x8 cx σ x with
 |some ⟨e,.st n,_⟩,some (.d s y)=>Ty.cast s e y fun y=>(match Q3 n e i with
  |some f=>k [(0,.d f.f<|f.get y)]
  |none=>none)
 |_,_=>none
def zax(σ:Sg)(t:TypeId)(x:Operand)(k:List (Nat×Dv)->Option R):Option R:=match Yh cf t with
 |some ti=>zgu cx σ (x8 cx σ x) fun p=>Ty.cast p.t ti.ty p.x fun y=>k [(0,.d ti.ty y)]
 |none=>none
def Nh(σ:Sg)(t:TypeId)(x:Operand)(lo hi:Option Operand)(k:List (Nat×Dv)->Option R):Option R:=match Yh cf t,x8 cx σ x with
 |some ⟨.l e,.sl _,_⟩,some (.d (.l s) xs)=>Ty.cast (.l s) (.l e) xs fun xs=>GK cx σ lo fun lo=>GK cx σ hi fun hi=>zhx (α:=e.D) xs lo hi fun ys=>k [(0,.d (.l e) ys)]
 |some ⟨.l e,.sl _,_⟩,some (.ow o)=>(match Jf cx σ o with
  |some (.own s _ xs)=>Ty.cast (.l s) (.l e) xs fun xs=>GK cx σ lo fun lo=>GK cx σ hi fun hi=>zdO (xaI xs) lo hi fun l n=>k [(0,.sv o e l n)]
  |_=>none)
 |some ⟨_,.str,_⟩,some (.d .tx xs)=>GK cx σ lo fun lo=>GK cx σ hi fun hi=>zhx (α:=Nat) xs lo hi fun ys=>k [(0,.d .tx ys)]
 |_,_=>none
def zgM(σ:Sg)(t:TypeId)(x i:Operand)(k:List (Nat×Dv)->Option R):Option R:=match Yh cf t,x8 cx σ x with
 |some ⟨_,.str,_⟩,some (.d .tx xs)=>atI cx σ i (xaI (α:=Nat) xs) fun j=>nm (xeq (α:=Nat) xs j 0) fun y=>k [(0,.d .ch y)]
 |_,_=>none
def zg3(σ:Sg)(E:TypeId)(x:Operand)(k:List (Nat×Dv)->Option R):Option R:=match Yh cf E with
 |some ti=>Bm (x8 cx σ x) ti.ty fun y=>k [(0,.q ti.ty y)]
 |none=>none
def Mv(σ:Sg)(t:TypeId)(ps:List (Nat×Operand))(k:List (Nat×Dv)->Option R):Option R:=match Yh cf t with
 |some ⟨ty,.st n,_⟩=>(match ps with
  |[]=>k [(0,.d ty ty.z)]
  |[(i,x)]=>(match Q3 n ty i with
   |some f=>Bm (x8 cx σ x) f.f fun y=>k [(0,.d ty<|f.set y ty.z)]
   |none=>none)
  |ps=>x9 cx σ (Rf n ty) ps 0 fun ys=>match Ur n ty ys with
   |some y=>k [(0,.d ty y)]
   |none=>none)
 |some ⟨.a n e,.ar n' E,_⟩=>kQ (xao n' n && elA cf E e)<|x9 cx σ (AU n e) ps 0 fun ys=>k [(0,.d (.a n e)<|dB n e ys)]
 |_=>none
def zhG(σ:Sg)(t:TypeId)(n:Nat)(ps:List (Nat×Operand))(k:List (Nat×Dv)->Option R):Option R:=match Yh cf t with
 |some ⟨.l s,.sl _,_⟩=>kQ (xfT (n*s.n) 16777216)<|x9 cx σ (AU n s) ps 0 fun ys=>k [(0,.d (.l s)<|dB n s ys)]
 |_=>none
def zhF(σ:Sg)(f:Go.Fn)(first cs:List Operand)(k:List (Nat×Dv)->Option R):Option R:=match f,first,JJ cx σ cs with
 |.func f,[],some l=>k [(0,.fn f l)]
 |_,_,_=>none
def NJ(n:Nat):Dv:=.d .i (n:Int)
def zgN(σ:Sg)(x:List Operand)(ts:List TypeId)(k:List (Nat×Dv)->Option R):Option R:=match x,ts with
 |[x],[t]=>(match Yh cf t with
  |some ⟨.l _,.sl _,_⟩=>(match x8 cx σ x with
   |some .nil=>k [(0,NJ 0)]
   |some (.d (.l _) xs)=>k [(0,NJ<|xaI xs)]
   |some (.ow o)=>(match Jf cx σ o with
    |some (.own _ _ xs)=>k [(0,NJ<|xaI xs)]
    |_=>none)
   |_=>none)
  |some ⟨_,.str,_⟩=>(match x8 cx σ x with
   |some (.d .tx xs)=>k [(0,NJ<|xaI (α:=Nat) xs)]
   |_=>none)
  |_=>none)
 |_,_=>none
def zg6(x:Int):Dv:=.d .i x
def mxI(b:Bool)(a c:Int)(k:Int->Option R):Option R:=match b with
 |true=>nm (max a c) k
 |false=>nm (min a c) k
def eMM(b:Bool)(σ:Sg)(x:List Operand)(k:List (Nat×Dv)->Option R):Option R:=match x with
 |[x,y]=>(match pd cx σ x,pd cx σ y with
  |some ⟨.i,a⟩,some ⟨.i,c⟩=>mxI b a c fun z=>k [(0,zg6 z)]
  |_,_=>none)
 |_=>none
def zjJ:Operand->Bool
 |.func _=>true
 |_=>false
def TS(σ:Sg)(fo:Operand)(ags:List Operand)(k:List (Nat×Dv)->Option R):Option R:=match x8 cx σ fo with
 |some (.fn f cs)=>(match Cy cf.cs f with
  |some s=>X2 cf cx σ s.dom ags cs fun y=>bd (s.M y) fun r=>k<|zeC s.cod r
  |none=>(match Jz cf.ex f,ags,cs with
   |some b,[x,y,z],[]=>kQ (zjJ fo)<|exD b (pd cx σ x) (pd cx σ y) (pd cx σ z) k
   |_,_,_=>none))
 |some (.fp dom cod g)=>sV cx σ dom ags fun y=>bd (g y) fun r=>k<|zb3 cod r<|bif zeg cod then 0 else 1
 |_=>none
def RH:Option Dv->Bool
 |some (.mw _)=>true
 |some (.mv _ _ _)=>true
 |some (.hp _ _)=>true
 |some (.rw _ _)=>true
 |some (.rp _ _ _ _ _)=>true
 |_=>false
def zhn:Option Dv->Bool
 |some (.mv _ _ _)=>true
 |_=>false
def mkF(σ:Sg)(f:Operand):Bool:=match x8 cx σ f with
 |some (.fn f _)=>(zcg cf.cl f).isSome
 |_=>false
def zkr(σ:Sg):Op->Bool
 |.load _ x=>RH<|x8 cx σ x
 |.indexAddr _ x _=>RH<|x8 cx σ x
 |.slice _ x _ _ none=>RH<|x8 cx σ x
 |.call ⟨.builtin .len,ags,_⟩=>ags.toList.any fun x=>RH<|x8 cx σ x
 |.call ⟨.value f,ags,_⟩=>mkF cf cx σ f||ags.toList.any fun x=>zhn<|x8 cx σ x
 |_=>false
def jM{α:Type}(xss:List (List α))(r:Nat):List α:=xss.getD r []
def SC{α:Type}(xss:List (List α))(ix:List Nat):List (List α):=ix.map<|jM xss
def DS(σ:Sg)(t:TypeId)(x i:Operand)(k:List (Nat×Dv)->Option R):Option R:=match Yh cf t,x8 cx σ x with
 |some ⟨.l (.l e),.sl _,_⟩,some (.mw o)=>(match Jf cx σ o with
  |some (.mat s _ _ xss ix)=>atI cx σ i (xaI ix) fun j=>k [(0,.hp o j)]
  |_=>none)
 |some ⟨.l (.l e),.sl _,_⟩,some (.mv o lo n)=>(match Jf cx σ o with
  |some (.mat s _ _ xss ix)=>atI cx σ i n fun j=>k [(0,.hp o<|lo+j)]
  |_=>none)
 |some ⟨.l e,.sl _,_⟩,some (.rw o r)=>(match Jf cx σ o with
  |some (.mat s _ _ xss ix)=>Ty.cast (.l (.l s)) (.l (.l e)) xss fun xss=>atI cx σ i (xaI<|jM (α:=e.D) xss r) fun j=>k [(0,.rp o e r j<|Fl.self e)]
  |_=>none)
 |_,_=>none
def NA(σ:Sg)(t:TypeId)(x:Operand)(k:List (Nat×Dv)->Option R):Option R:=match Yh cf t,x8 cx σ x with
 |some ⟨.l e,.sl _,_⟩,some (.hp o j)=>(match Jf cx σ o with
  |some (.mat s _ _ xss ix)=>nm (xeq ix j 0) fun r=>k [(0,.rw o r)]
  |_=>none)
 |some ti,some (.rp o e r j f)=>(match Jf cx σ o with
  |some (.mat s _ _ xss ix)=>Ty.cast (.l (.l s)) (.l (.l e)) xss fun xss=>nm (f.get<|xeq (jM (α:=e.D) xss r) j e.z) fun y=>Ty.cast f.f ti.ty y fun y=>k [(0,.d ti.ty y)]
  |_=>none)
 |_,_=>none
def DE(σ:Sg)(t:TypeId)(x:Operand)(lo hi:Option Operand)(k:List (Nat×Dv)->Option R):Option R:=match Yh cf t,x8 cx σ x with
 |some ⟨.l (.l e),.sl _,_⟩,some (.mw o)=>(match Jf cx σ o with
  |some (.mat s _ _ xss ix)=>GK cx σ lo fun lo=>GK cx σ hi fun hi=>zdO (xaI ix) lo hi fun l n=>k [(0,.mv o l n)]
  |_=>none)
 |_,_=>none
def za2(σ:Sg)(x:List Operand)(ts:List TypeId)(k:List (Nat×Dv)->Option R):Option R:=match x,ts with
 |[x],[t]=>(match Yh cf t,x8 cx σ x with
  |some ⟨.l _,.sl _,_⟩,some (.mw o)=>(match Jf cx σ o with
   |some (.mat _ _ _ _ ix)=>k [(0,NJ<|xaI ix)]
   |_=>none)
  |some ⟨.l _,.sl _,_⟩,some (.mv o _ n)=>(match Jf cx σ o with
   |some (.mat _ _ _ _ _)=>k [(0,NJ n)]
   |_=>none)
  |some ⟨.l _,.sl _,_⟩,some (.rw o r)=>(match Jf cx σ o with
   |some (.mat _ _ _ xss _)=>k [(0,NJ<|xaI<|jM xss r)]
   |_=>none)
  |_,_=>none)
 |_,_=>none
def X9(σ:Sg):(dom:List AM)->List Operand->List PD->(UI dom->Option R)->Option R
 |[],[],[],k=>k ()
 |.q t::r,[],c::cs,k=>Ty.cast c.t t c.x fun y=>X9 σ r [] cs fun z=>k (y,z)
 |.d t::r,x::xs,cs,k=>(match x8 cx σ x with
  |some (.mv o lo n)=>(match Jf cx σ o with
   |some (.mat s _ _ xss ix)=>Ty.cast (.l (.l s)) t (xdt n<|xdz lo<|SC xss ix) fun y=>X9 σ r xs cs fun z=>k (y,z)
   |_=>none)
  |v=>Bm v t fun y=>X9 σ r xs cs fun z=>k (y,z))
 |.fn dom cod::r,x::xs,cs,k=>asF cf σ (x8 cx σ x) dom cod fun g=>X9 σ r xs cs fun z=>k (g,z)
 |_,_,_,_=>none
def Iy:List RM->Bool
 |[]=>true
 |.d .i::r=>Iy r
 |.d .b::r=>Iy r
 |.d .u::r=>Iy r
 |_=>false
def Np(σ:Sg)(fo:Operand)(ags:List Operand)(k:List (Nat×Dv)->Option R):Option R:=match x8 cx σ fo with
 |some (.fn f cs)=>(match zcg cf.cl f,cs with
  |some s,[]=>sV cx σ s.dom ags fun ys=>k [(0,.fn s.g<|s.mc ys)]
  |_,cs=>(match Cy cf.cs f with
   |some s=>kQ (Iy s.cod)<|X9 cf cx σ s.dom ags cs fun y=>bd (s.M y) fun r=>k<|zeC s.cod r
   |none=>none))
 |_=>none
def eCo(σ:Sg)(op:Op)(k:List (Nat×Dv)->Option R):Option R:=match op with
 |.load t x=>NA cf cx σ t x k
 |.indexAddr t x i=>DS cf cx σ t x i k
 |.slice t x lo hi none=>DE cf cx σ t x lo hi k
 |.call ⟨.builtin .len,ags,ts⟩=>za2 cf cx σ ags.toList ts.toList k
 |.call ⟨.value f,ags,_⟩=>Np cf cx σ f ags.toList k
 |_=>none
def zin(σ:Sg)(op:Op)(k:List (Nat×Dv)->Option R):Option R:=match op with
 |.move x=>P7 cx σ x k
 |.assign x=>P7 cx σ x k
 |.extract x i=>zg7 cx σ x i k
 |.pick c x y=>zcQ cx σ c x y k
 |.unOp .not _ x=>zhY cx σ x k
 |.unOp .neg _ x=>zhX cx σ x k
 |.binOp bo t x y _=>zgV (isB cf t) bo (pd cx σ x) (pd cx σ y) fun v=>k [(0,v)]
 |.convert s t x=>zho cf cx σ s t x k
 |.load t x=>zax cf cx σ t x k
 |.indexAddr t x i=>LR cf cx σ t x i k
 |.fieldAddr t x i=>MC cf cx σ t x i k
 |.field t x i=>Dm cf cx σ t x i k
 |.slice t x lo hi none=>Nh cf cx σ t x lo hi k
 |.index t x i=>zgM cf cx σ t x i k
 |.box E x=>zg3 cf cx σ E x k
 |.build t ps=>Mv cf cx σ t ps.toList k
 |.buildSlice t n ps=>zhG cf cx σ t n ps.toList k
 |.makeFunc f first cs=>zhF cx σ f first.toList cs.toList k
 |.call ⟨.builtin .len,ags,ts⟩=>zgN cf cx σ ags.toList ts.toList k
 |.call ⟨.builtin .max,ags,_⟩=>eMM cx true σ ags.toList k
 |.call ⟨.builtin .min,ags,_⟩=>eMM cx false σ ags.toList k
 |.call ⟨.value f,ags,_⟩=>TS cf cx σ f ags.toList k
 |_=>none
def eOp(σ:Sg)(op:Op)(k:List (Nat×Dv)->Option R):Option R:=NI (zkr cf cx σ op) (eCo cf cx σ op k)<|zin cf cx σ op k
def wu:Dv->Option Nat
 |.ow o=>some o
 |.vs o _=>some o
 |.ep o _ _ _=>some o
 |.sv o _ _ _=>some o
 |.vp o _ _=>some o
 |.mw o=>some o
 |.mv o _ _=>some o
 |.hp o _=>some o
 |.rw o _=>some o
 |.rp o _ _ _ _=>some o
 |.yd o=>some o
 |_=>none
def okL(n:Nat)(l:List (Nat×Dv)):Bool:=l.all fun e=>match wu e.2 with
 |some o=>xdd o n
 |none=>true
def Ab(o:Nat)(x:Od)(v:Dv):Dv:=match v,x with
 |.ow o',.own s _ xs=>bif xao o' o then .d (.l s) xs else v
 |.vs o' _,.var s _ z=>bif xao o' o then .q s z else v
 |.mw o',.mat s _ _ xss ix=>bif xao o' o then .d (.l (.l s)) (SC xss ix)else v
 |_,_=>v
def E8(o:Nat)(x:Od):List (Nat×Nat×Dv)->List (Nat×Nat×Dv)
 |[]=>[]
 |(t,i,v)::r=>(t,i,Ab o x v)::E8 o x r
def Ib(σ:Sg)(o:Nat):Sg:=match xR σ.ob o with
 |some x=>⟨σ.nx,E8 o x σ.rg,yG σ.ob o⟩
 |none=>σ
def frz(σ:Sg)(x:Operand):Sg:=match x8 cx σ x with
 |some (.ow o)=>Ib σ o
 |some (.vs o _)=>Ib σ o
 |some (.mw o)=>Ib σ o
 |_=>σ
def zdE(σ:Sg):List Operand->Sg
 |[]=>σ
 |x::r=>zdE (frz cx σ x) r
def zdq(σ:Sg):List AM->List Operand->Bool
 |[],_=>true
 |.own _ _::r,x::xs=>(match x8 cx σ x with
  |some (.ow o)=>σ.ob.any fun e=>xao e.1 o
  |_=>false) && zdq σ r xs
 |.d _::r,x::xs=> !zhn (x8 cx σ x) && zdq σ r xs
 |_::r,_::xs=>zdq σ r xs
 |_::r,[]=>zdq σ r []
def LD(σ:Sg)(f:FuncId)(ags:List Operand):List VF->Option VF
 |[]=>none
 |s::r=>match xao s.f f && zdq cx σ s.dom ags with
  |true=>some s
  |false=>LD σ f ags r
def ziU(d:Option Tmp):Bool:=match d with
 |some t=>dn cf.an.vw t
 |none=>false
def Mr(d:Option Tmp):Bool:=match d with
 |some t=>dn cf.an.mt t
 |none=>false
def zk9:Option Dv->Bool
 |some (.hp _ _)=>true
 |some (.mw _)=>true
 |_=>false
def zaN:Option Dv->Bool
 |some (.mw _)=>true
 |_=>false
def zgF(σ:Sg)(d:Option Tmp):Op->List Operand
 |.build _ ps=>ps.toList.map (·.2)
 |.buildSlice _ _ ps=>(match Mr cf d with
  |true=>[]
  |false=>ps.toList.map (·.2))
 |.store _ a v=>(match zk9 (x8 cx σ a),x8 cx σ v with
  |false,some (.ow _)=>[v]
  |_,_=>[])
 |.slice _ x none (some _) none=>(match zaN (x8 cx σ x),ziU cf d with
  |true,false=>[x]
  |_,_=>[])
 |.box _ v=>[v]
 |.convert _ _ v=>[v]
 |.makeFunc _ _ cs=>cs.toList
 |.slice _ x (some _) _ _=>(match ziU cf d with
  |true=>[]
  |false=>[x])
 |.call ⟨.builtin .append,ags,_⟩=>(match ags.toList.any fun x=>zaN (x8 cx σ x)with
  |true=>[]
  |false=>ags.toList.drop 1)
 |.call ⟨.builtin .copy,ags,_⟩=>ags.toList.drop 1
 |.call ⟨.value f,ags,_⟩=>(match x8 cx σ f with
  |some (.fn f _)=>(match LD cx σ f ags.toList cf.cs with
   |some s=>(s.dom.zip ags.toList).filterMap fun e=>match e.1 with
    |.d _=>(match zhn (x8 cx σ e.2)with
     |true=>none
     |false=>some e.2)
    |.q _=>some e.2
    |_=>none
   |none=>[])
  |some (.fp _ _ _)=>ags.toList
  |_=>[])
 |_=>[]
def RA(σ:Sg)(d:Option Tmp)(mk:Nat->Dv)(x:Od):Sg:=⟨σ.nx+1,vj σ.rg d [(0,mk σ.nx)],(σ.nx,x)::σ.ob⟩
def Yi(σ:Sg):(dom:List AM)->List Operand->List PD->(UI dom->List Nat->Option R)->Option R
 |[],[],[],k=>k () []
 |.q t::r,[],c::cs,k=>Ty.cast c.t t c.x fun y=>Yi σ r [] cs fun z os=>k (y,z) os
 |.d t::r,x::xs,cs,k=>Bm (x8 cx σ x) t fun y=>Yi σ r xs cs fun z os=>k (y,z) os
 |.q t::r,x::xs,cs,k=>(match x8 cx σ x with
  |some (.q s y)=>Ty.cast s t y fun y=>Yi σ r xs cs fun z os=>k (y,z) os
  |_=>none)
 |.own t E::r,x::xs,cs,k=>(match x8 cx σ x with
  |some (.ow o)=>(match xR σ.ob o with
   |some (.own s E' ys)=>kQ (xao E E')<|Ty.cast (.l s) (.l t) ys fun y=>Yi σ r xs cs fun z os=>kQ (!dn os o)<|k (y,z) (o::os)
   |_=>none)
  |_=>none)
 |.fn dom cod::r,x::xs,cs,k=>asF cf σ (x8 cx σ x) dom cod fun g=>Yi σ r xs cs fun z os=>k (g,z) os
 |_,_,_,_=>none
def Zp:(rs:List RM)->dq rs->Nat->Nat->List (Nat×Dv)×List (Nat×Od)
 |[],_,_,_=>([],[])
 |[.d t],x,i,o=>([(i,.d t x)],[])
 |[.own t E],x,i,o=>([(i,.ow o)],[(o,.own t E x)])
 |.d t::r::rs,x,i,o=>let y:=Zp (r::rs) x.2 (i+1) o
  ((i,.d t x.1)::y.1,y.2)
 |.own t E::r::rs,x,i,o=>let y:=Zp (r::rs) x.2 (i+1) (o+1)
  ((i,.ow o)::y.1,(o,.own t E x.1)::y.2)
def w6(ob:List (Nat×Od)):List Nat->List (Nat×Od)
 |[]=>ob
 |o::r=>yG (w6 ob r) o
def L6(σ:Sg)(s:Ty)(p v:Option Dv)(k:Sg->Option R):Option R:=match p with
 |some (.vs o _)=>(match xR σ.ob o with
  |some (.var s' E z)=>Ty.cast s' s z fun z=>Bm v s fun y=>k ⟨σ.nx,σ.rg,kI σ.ob o (.var s E y)⟩
  |_=>none)
 |some (.vp o s1 f)=>(match xR σ.ob o,Ty.same f.f s with
  |some (.var s' E z),some _=>Ty.cast s' s1 z fun z=>Bm v f.f fun y=>nm (f.set y z) fun z=>k ⟨σ.nx,σ.rg,kI σ.ob o (.var s1 E z)⟩
  |_,_=>none)
 |some (.ep o s1 j f)=>(match xR σ.ob o,Ty.same f.f s with
  |some (.own s' E xs),some _=>Ty.cast (.l s') (.l s1) xs fun xs=>Bm v f.f fun y=>nm (xfW xs j<|f.set y<|xeq xs j s1.z) fun xs=>k ⟨σ.nx,σ.rg,kI σ.ob o (.own s1 E xs)⟩
  |_,_=>none)
 |_=>none
def LU(σ:Sg)(d:Option Tmp)(E:TypeId)(k:Sg->Option R):Option R:=match Yh cf E with
 |some ti=>k<|RA σ d (fun o=> .vs o ti.ty) (.var ti.ty E ti.ty.z)
 |none=>none
def zgO(σ:Sg)(d:Option Tmp)(E:TypeId)(x:Operand)(k:Sg->Option R):Option R:=match Yh cf E with
 |some ti=>Bm (x8 cx σ x) ti.ty fun y=>k<|RA σ d (fun o=> .vs o ti.ty) (.var ti.ty E y)
 |none=>none
def Tm(σ:Sg)(d:Option Tmp)(t:TypeId)(x y:Operand)(k:Sg->Option R):Option R:=match Yh cf t with
 |some ⟨.l s,.sl E,_⟩=>kQ (Pt x y) (match Yh cf E,pd cx σ x with
  |some ti,some ⟨.i,n⟩=>Ty.cast ti.ty s ti.ty.z fun z=>jS n fun n=>ck (ti.B*n<=281474976710656)<|nm (xaf n z) fun xs=>k<|RA σ d .ow (.own s E xs)
  |_,_=>none)
 |_=>none
def zgL(σ:Sg)(d:Option Tmp)(t:TypeId)(n:Nat)(ps:List (Nat×Operand))(k:Sg->Option R):Option R:=match Yh cf t with
 |some ⟨.l s,.sl E,_⟩=>kQ (xfT (n*s.n) 16777216)<|x9 cx σ (AU n s) ps 0 fun ys=>k<|RA σ d .ow (.own s E<|dB n s ys)
 |_=>none
def Ny(σ:Sg)(d:Option Tmp)(t:TypeId)(o:Nat)(hi:Operand)(k:Sg->Option R):Option R:=match Yh cf t,xR σ.ob o with
 |some ⟨.l s1,.sl _,_⟩,some (.own s E xs)=>Ty.cast (.l s) (.l s1) xs fun xs=>GK cx σ (some hi) fun h=>zhx (α:=s1.D) xs none h fun ys=>k ⟨σ.nx+1,vj σ.rg d [(0,.ow σ.nx)],(σ.nx,.own s1 E ys)::yG σ.ob o⟩
 |_,_=>none
def P6(σ:Sg)(d:Option Tmp)(t':TypeId)(same:Bool)(s:Ty)(E:TypeId)(B:Nat)(z:s.D)(y:Operand)(ob:List (Nat×Od))(xs:List s.D)(k:Sg->Option R):Option R:=match pd cx σ y with
 |some ⟨.i,n⟩=>(match Yh cf t' with
  |some ⟨_,.int _,_⟩=>jS n fun n=>zln xs n z B fun zs=>k ⟨σ.nx+1,vj σ.rg d [(0,.ow σ.nx)],(σ.nx,.own s E zs)::ob⟩
  |_=>none)
 |_=>(match x8 cx σ y with
  |some (.sv o2 t2 lo n)=>(match Jf cx ⟨σ.nx,σ.rg,ob⟩ o2 with
   |some (.own s2 _ zs)=>kQ same<|Ty.cast (.l s2) (.l t2) zs fun zs=>Ty.cast (.l t2) (.l s) (xdt n<|xdz lo zs) fun ys=>nm ys fun ys=>ziS (α:=s.D) xs ys B fun zs=>k ⟨σ.nx+1,vj σ.rg d [(0,.ow σ.nx)],(σ.nx,.own s E zs)::ob⟩
   |_=>none)
  |_=>kQ same<|Bm (x8 cx σ y) (.l s) fun ys=>ziS (α:=s.D) xs ys B fun zs=>k ⟨σ.nx+1,vj σ.rg d [(0,.ow σ.nx)],(σ.nx,.own s E zs)::ob⟩)
def zhB(σ:Sg)(d:Option Tmp)(ags:List Operand)(ts:List TypeId)(k:Sg->Option R):Option R:=match ags,ts with
 |[x,y],[t,t']=>(match Yh cf t with
  |some ⟨.l s,.sl E,_⟩=>(match Yh cf E with
   |some ti=>Ty.cast ti.ty s ti.ty.z fun z=>(match x8 cx σ x with
    |some .nil=>P6 cf cx σ d t' (xao t t') s E ti.B z y σ.ob [] k
    |some (.ow o)=>(match xR σ.ob o with
     |some (.own s' E' xs)=>kQ (xao E' E)<|Ty.cast (.l s') (.l s) xs fun xs=>P6 cf cx σ d t' (xao t t') s E ti.B z y (yG σ.ob o) xs k
     |_=>none)
    |_=>none)
   |none=>none)
  |_=>none)
 |_,_=>none
def zb7(σ:Sg)(d:Option Tmp)(ags:List Operand)(ts:List TypeId)(k:Sg->Option R):Option R:=match ags,ts with
 |[x,y],[t,_]=>(match Yh cf t,x8 cx σ x with
  |some ⟨.l s,.sl _,_⟩,some (.ow o)=>(match xR σ.ob o with
   |some (.own s' E' xs)=>kQ (xao s.n 1)<|Ty.cast (.l s') (.l s) xs fun xs=>Bm (x8 cx σ y) (.l s) fun ys=>nm (cpy (α:=s.D) xs ys) fun zs=>k ⟨σ.nx,vj σ.rg d [],kI σ.ob o (.own s E' zs)⟩
   |_=>none)
  |some ⟨.l s,.sl _,_⟩,some (.sv o t2 lo n)=>(match xR σ.ob o,Ty.same t2 s with
   |some (.own s' E' xs),some _=>kQ (xao s.n 1)<|Ty.cast (.l s') (.l s) xs fun xs=>Bm (x8 cx σ y) (.l s) fun ys=>nm (bZ (α:=s.D) lo n xs ys) fun zs=>k ⟨σ.nx,vj σ.rg d [],kI σ.ob o (.own s E' zs)⟩
   |_,_=>none)
  |_,_=>none)
 |_,_=>none
def o7:List Nat->List (Nat×Od)->List (Nat×Od)
 |o::os,e::r=>(o,e.2)::o7 os r
 |_,_=>[]
def oh:Nat->List RM->Bool
 |0,[]=>true
 |0,.own _ _::r=>oh 0 r
 |n+1,.d _::r=>oh n r
 |_,_=>false
def mJ(m:Nat):Nat:=bif xao m 1 then 0 else 1
def zad(σ:Sg)(d:Option Tmp)(s:VF)(ags:List Operand)(cs:List PD)(k:Sg->Option R):Option R:=
 Yi cf cx σ s.dom ags cs fun y os=>bd (s.M y) fun r=>
  match s.bk with
  |0=>(let g:=Zp s.cod r (bif J7 s.cod then 0 else 1) σ.nx
   k ⟨σ.nx+g.2.length,vj σ.rg d g.1,g.2++w6 σ.ob os⟩)
  |b+1=>(let m:=s.cod.length-(b+1)
   let g:=Zp s.cod r (mJ m) σ.nx
   kQ (oh m s.cod)<|k ⟨σ.nx+g.2.length,vj σ.rg d<|g.1.filter fun e=>xdd e.1<|mJ m+m,o7 os g.2++w6 σ.ob os⟩)
def mE(σ:Sg)(d:Option Tmp)(op:Op)(k:Sg->Option R):Option R:=eOp cf cx σ op fun l=>kQ (okL σ.nx l)<|k (σ.put d l)
def zg9(d:Option Tmp):Bool:=match d with
 |some t=>dn cf.an.bx t
 |none=>false
def zdR(o n:Nat)(v:Dv):Dv:=match v with
 |.mw p=>bif xao p o then .mw n else v
 |.mv p l m=>bif xao p o then .mv n l m else v
 |.hp p j=>bif xao p o then .hp n j else v
 |.rw p r=>bif xao p o then .rw n r else v
 |.rp p t r j f=>bif xao p o then .rp n t r j f else v
 |v=>v
def zfC(o n:Nat):List (Nat×Nat×Dv)->List (Nat×Nat×Dv)
 |[]=>[]
 |(t,i,v)::r=>(t,i,zdR o n v)::zfC o n r
def Gk(o n:Nat):List (Nat×Nat×Dv)->List (Nat×Nat×Dv)
 |[]=>[]
 |(t,i,.mw p)::r=>(t,i,bif xao p o then .mw n else .mw p)::Gk o n r
 |(t,i,v)::r=>(t,i,v)::Gk o n r
def HK(o n:Nat):List (Nat×Nat×Dv)->List (Nat×Nat×Dv)
 |[]=>[]
 |(t,i,.yd p)::r=>(t,i,bif xao p o then .yd n else .yd p)::HK o n r
 |(t,i,v)::r=>(t,i,v)::HK o n r
def zjY{α:Type}(a b:List α):List α:=a++b
def zjq{α:Type}(xss:List (List α))(r:Nat)(xs:List α):List (List α):=xfW xss r xs
def ZB(σ:Sg)(s:Ty)(p v:Option Dv)(k:Sg->Option R):Option R:=match p,v with
 |some (.rp o e r j f),v=>(match xR σ.ob o,Ty.same f.f s with
  |some (.mat s' E E1 xss ix),some _=>Ty.cast (.l (.l s')) (.l (.l e)) xss fun xss=>Bm v f.f fun y=>nm (zjq (α:=e.D) xss r<|xfW (jM (α:=e.D) xss r) j<|f.set y<|xeq (jM (α:=e.D) xss r) j e.z) fun xss=>k ⟨σ.nx,σ.rg,kI σ.ob o (.mat e E E1 xss ix)⟩
  |_,_=>none)
 |some (.hp o j),some (.rw o' r)=>kQ (xao o' o)<|(match xR σ.ob o,s with
  |some (.mat s' E E1 xss ix),.l _=>nm (xfW ix j r) fun ix=>k ⟨σ.nx,σ.rg,kI σ.ob o (.mat s' E E1 xss ix)⟩
  |_,_=>none)
 |some (.hp o j),some (.ow o2)=>kQ (!xao o o2)<|(match xR σ.ob o,xR σ.ob o2,s with
  |some (.mat s' E E1 xss ix),some (.own s2 E2 ys),.l _=>kQ (xao E1 E2)<|Ty.cast (.l s2) (.l s') ys fun ys=>nm (zjY (α:=List s'.D) xss [ys]) fun xs2=>nm (xfW ix j<|xaI xss) fun ix=>k ⟨σ.nx+1,zfC o σ.nx σ.rg,(σ.nx,.mat s' E E1 xs2 ix)::yG (yG σ.ob o) o2⟩
  |_,_,_=>none)
 |some (.mw o),some (.ow o2)=>kQ (!xao o o2)<|(match xR σ.ob o,xR σ.ob o2,s with
  |some (.ho E0),some (.own s2 E2 ys),.l _=>k ⟨σ.nx+1,Gk o σ.nx σ.rg,(σ.nx,.bo s2 E2 E0 ys)::yG (yG σ.ob o) o2⟩
  |_,_,_=>none)
 |_,_=>none
def NQ(σ:Sg)(d:Option Tmp)(t:TypeId)(x y:Operand)(k:Sg->Option R):Option R:=match Yh cf t with
 |some ⟨.l (.l s),.sl E,_⟩=>kQ (Pt x y) (match Yh cf E,pd cx σ x with
  |some ⟨.l _,.sl E1,B⟩,some ⟨.i,n⟩=>jS n fun n=>ck (B*n<=281474976710656)<|nm (xaf n 0) fun ix=>k<|RA σ d .mw (.mat s E E1 [[]] ix)
  |_,_=>none)
 |_=>none
def zb8(σ:Sg)(d:Option Tmp)(t:TypeId)(n:Nat)(ps:List (Nat×Operand))(k:Sg->Option R):Option R:=match Yh cf t,ps with
 |some ⟨.l (.l s),.sl E,_⟩,[(0,x)]=>kQ (xao n 1) (match x8 cx σ x with
  |some (.ow o2)=>(match xR σ.ob o2 with
   |some (.own s2 E1 ys)=>Ty.cast (.l s2) (.l s) ys fun ys=>k ⟨σ.nx+1,vj σ.rg d [(0,.mw σ.nx)],(σ.nx,.mat s E E1 [ys] [0])::yG σ.ob o2⟩
   |_=>none)
  |_=>none)
 |_,_=>none
def EB(σ:Sg)(d:Option Tmp)(E0:TypeId)(k:Sg->Option R):Option R:=match Yh cf E0 with
 |some ⟨.l s,.sl E,_⟩=>k<|RA σ d .mw (.bo s E E0 [])
 |_=>none
def Mo(σ:Sg)(d:Option Tmp)(t:TypeId)(o:Nat)(k:Sg->Option R):Option R:=match Yh cf t,xR σ.ob o with
 |some ⟨.l _,.sl _,_⟩,some (.bo s E E0 xs)=>k ⟨σ.nx+1,vj σ.rg d [(0,.ow σ.nx)],(σ.nx,.own s E xs)::kI σ.ob o (.ho E0)⟩
 |_,_=>none
def zdj(σ:Sg)(d:Option Tmp)(ags:List Operand)(ts:List TypeId)(k:Sg->Option R):Option R:=match ags,ts with
 |[x,y],[t,t']=>(match Yh cf t,x8 cx σ x,x8 cx σ y with
  |some ⟨.l (.l s),.sl E,_⟩,some (.mw o),some (.mw p)=>kQ (xao t t' && !xao o p) (match Yh cf E,xR σ.ob o,xR σ.ob p with
   |some ⟨.l _,.sl _,B⟩,some (.mat s1 E1 F1 xss ix),some (.mat s2 E2 F2 yss iy)=>kQ (xao E1 E && (xao E2 E && xao F1 F2))<|Ty.cast (.l (.l s2)) (.l (.l s1)) yss fun yss=>
    ck ((xaI ix+xaI iy)*B<=140737488355328)<|nm (zjY (α:=List s1.D) xss yss) fun zss=>nm (ix++iy.map (xaI xss+ ·)) fun iz=>k ⟨σ.nx+1,vj σ.rg d [(0,.mw σ.nx)],(σ.nx,.mat s1 E1 F1 zss iz)::yG (yG σ.ob o) p⟩
   |_,_,_=>none)
  |_,_,_=>none)
 |_,_=>none
def pY(σ:Sg)(d:Option Tmp)(s:tH)(ags:List Operand)(k:Sg->Option R):Option R:=match ags with
 |[x,a,p,y]=>(match x8 cx σ x,pd cx σ a,pd cx σ p,x8 cx σ y with
  |some (.rw o r),some ⟨.i,a⟩,some ⟨.i,p⟩,some (.mv o' lo n)=>kQ (xao o o') (match xR σ.ob o with
   |some (.mat s1 E E1 xss ix)=>kQ (xao E s.E && xao E1 s.E1)<|Ty.cast (.l (.l s1)) (.l (.l s.t)) xss fun xss=>
    bd (s.M xss ix r a p lo n) fun xss=>k ⟨σ.nx+1,Gk o σ.nx<|vj σ.rg d [],(σ.nx,.mat s.t E E1 xss ix)::yG σ.ob o⟩
   |_=>none)
  |_,_,_,_=>none)
 |_=>none
def E7(σ:Sg)(d:Option Tmp)(o:Nat)(ags:List Operand)(k:Sg->Option R):Option R:=match ags with
 |[x]=>(match x8 cx σ x with
  |some (.ow p)=>kQ (!xao o p) (match xR σ.ob o,xR σ.ob p with
   |some (.hid t E X Y mX mY g z),some (.own s E2 ys)=>kQ (xao E2 E)<|Ty.cast (.l s) (.l t) ys fun ys=>
    bd (g ys z) fun r=>xfu (fun x'=>k ⟨σ.nx+1,HK o σ.nx<|vj σ.rg d [(0,.kb true)],(σ.nx,.hid t E X Y mX mY g x')::yG (kI σ.ob p (.own t E2 r.1)) o⟩)
     (fun y'=>k ⟨σ.nx+1,HK o σ.nx<|vj σ.rg d [(0,.kb false)],(σ.nx,.hiy Y mY y')::yG (kI σ.ob p (.own t E2 r.1)) o⟩) r.2
   |_,_=>none)
  |_=>none)
 |_=>none
inductive CoM
 |no
 |st (t:TypeId) (x y:Operand)
 |ma (t:TypeId) (x y:Operand)
 |lit (t:TypeId) (n:Nat) (ps:Array (Nat×Operand))
 |al (E:TypeId)
 |tk (t:TypeId) (o:Nat)
 |ap (ags:Array Operand) (ts:Array TypeId)
 |sk (s:tH) (ags:Array Operand)
 |yl (o:Nat) (ags:Array Operand)
def coM(σ:Sg)(d:Option Tmp):Op->CoM
 |.store t x y=>bif RH (x8 cx σ x)then .st t x y else .no
 |.makeSlice t x y=>bif Mr cf d then .ma t x y else .no
 |.buildSlice t n ps=>bif Mr cf d then .lit t n ps else .no
 |.alloc E=>bif Mr cf d then .al E else .no
 |.load t x=>(match x8 cx σ x with
  |some (.mw o)=> .tk t o
  |_=> .no)
 |.call ⟨.builtin .append,ags,ts⟩=>bif ags.toList.any (fun x=>zaN<|x8 cx σ x)then .ap ags ts else .no
 |.call ⟨.value f,ags,_⟩=>(match x8 cx σ f with
  |some (.yd o)=> .yl o ags
  |some (.fn f [])=>(match SZ cf.ms f with
   |some s=> .sk s ags
   |none=> .no)
  |_=> .no)
 |_=> .no
def mCo(σ:Sg)(d:Option Tmp)(c:CoM)(k:Sg->Option R)(k0:Option R):Option R:=match c with
 |.no=>k0
 |.st t x y=>kQ d.isNone (match Yh cf t with
  |some ti=>ZB σ ti.ty (x8 cx σ x) (x8 cx σ y) k
  |none=>none)
 |.ma t x y=>NQ cf cx σ d t x y k
 |.lit t n ps=>zb8 cf cx σ d t n ps.toList k
 |.al E=>EB cf σ d E k
 |.tk t o=>Mo cf σ d t o k
 |.ap ags ts=>zdj cf cx σ d ags.toList ts.toList k
 |.sk s ags=>pY cx σ d s ags.toList k
 |.yl o ags=>E7 cx σ d o ags.toList k
def zhb(σ:Sg)(d:Option Tmp)(op:Op)(k:Sg->Option R):Option R:=
 match op with
 |.alloc E=>LU cf σ d E k
 |.box E x=>NI (zg9 cf d) (zgO cf cx σ d E x k)<|mE cf cx σ d (.box E x) k
 |.store t x y=>kQ d.isNone (match Yh cf t with
  |some ti=>L6 σ ti.ty (x8 cx σ x) (x8 cx σ y) k
  |none=>none)
 |.makeSlice t x y=>Tm cf cx σ d t x y k
 |.buildSlice t n ps=>zgL cf cx σ d t n ps.toList k
 |.slice t x none (some hi) none=>(match x8 cx σ x with
  |some (.ow o)=>Ny cf cx σ d t o hi k
  |_=>mE cf cx σ d (.slice t x none (some hi) none) k)
 |.call ⟨.builtin .append,ags,ts⟩=>zhB cf cx σ d ags.toList ts.toList k
 |.call ⟨.builtin .copy,ags,ts⟩=>zb7 cf cx σ d ags.toList ts.toList k
 |.call ⟨.value f,ags,ts⟩=>(match x8 cx σ f with
  |some (.fn f' cs)=>(match LD cx σ f' ags.toList cf.cs with
   |some s=>zad cf cx σ d s ags.toList cs k
   |none=>mE cf cx σ d (.call ⟨.value f,ags,ts⟩) k)
  |_=>mE cf cx σ d (.call ⟨.value f,ags,ts⟩) k)
 |op=>mE cf cx σ d op k
def mOp(σ:Sg)(d:Option Tmp)(op:Op)(k:Sg->Option R):Option R:=mCo cf cx σ d (coM cf cx σ d op) k<|zhb cf cx σ d op k
def CU(σ:Sg)(t:Tmp)(b:Bool):Sg:=⟨σ.nx,vj σ.rg (some t) [(0,.kb b)],σ.ob⟩
def cM(all:List Oper)(o:Oper)(σ:Sg)(k:Sg->Bool->Option R):Option R:=match o.guard with
 |none=>k σ true
 |some (j,want)=>match all[j]? with
  |some o'=>(match o'.dst with
   |some t=>(match get cx σ t 0 with
    |some (.kb b)=>k σ<|b==want
    |some .un=>k σ false
    |some (.d .b x)=>kQ (Yf cx.rg t)<|ifB x (k (CU σ t true)<|true==want) (k (CU σ t false)<|false==want)
    |_=>none)
   |none=>none)
  |none=>none
def th(o:Oper)(σ:Sg)(k:Sg->Option R):Option R:=match o.op with
 |.pick (.tmp t) _ _=>(match get cx σ t 0 with
  |some (.d .b x)=>kQ (Yf cx.rg t)<|ifB x (k<|CU σ t true) (k<|CU σ t false)
  |_=>k σ)
 |_=>k σ
def LG(all:List Oper):List Oper->Sg->(Sg->Option R)->Option R
 |[],σ,k=>k σ
 |o::r,σ,k=>kQ (wv cx o.dst)<|cM cx all o σ fun σ w=>NI w
  (th cx o σ fun σ=>(let σ:=zdE cx σ<|zgF cf cx σ o.dst o.op;mOp cf cx σ o.dst o.op fun σ=>LG all r σ k))
  (LG all r (σ.put o.dst [(0,.un)]) k)
def TX(all:List Oper):List Oper->Sg->(Sg->Option R)->Option R
 |[],σ,k=>k σ
 |o::r,σ,k=>kQ (wv cx o.dst)<|cM cx all o σ fun σ w=>NI w
  (th cx o σ fun σ=>eOp cf cx σ o.op fun l=>kQ (okL σ.nx l)<|TX all r (σ.put o.dst l) k)
  (TX all r (σ.put o.dst [(0,.un)]) k)
def dd:List (Nat×Nat×Dv)->List (Nat×Nat×Dv)
 |[]=>[]
 |e::r=>e::(dd r).filter fun f=> !(xao e.1 f.1 && xao e.2.1 f.2.1)
structure Rb where
 a:Option Nat
 c:Option Nat
 rd:List Nat
 o:Nat
 x:Od
structure Oi where
 lo:Nat
 hi:Nat
 refs:List Nat
def UY(ts:List Tmp):List (Nat×Nat×Dv)->List Nat
 |[]=>[]
 |(t,_,v)::r=>(match dn ts t,wu v with
  |true,some o=>o::UY ts r
  |_,_=>UY ts r)
def dQ:List (Nat×Dv)->List Nat
 |[]=>[]
 |(_,v)::r=>(match wu v with
  |some o=>o::dQ r
  |none=>dQ r)
def JT(ts:List Tmp):List (Nat×Nat×Dv)->List (Nat×Nat×Dv)
 |[]=>[]
 |(t,i,v)::r=>(match dn ts t with
  |true=>(t,i,v)::JT ts r
  |false=>JT ts r)
def nN(d:Option Tmp)(rg:List (Nat×Nat×Dv)):List (Nat×Dv):=match d with
 |some t=>rg.filterMap fun e=>match xao e.1 t with
  |true=>some (e.2.1,e.2.2)
  |false=>none
 |none=>[]
def aY(os:List Nat):List Rb->List (Nat×Od)
 |[]=>[]
 |r::rs=>match r.c,dn os r.o with
  |none,true=>(r.o,r.x)::aY os rs
  |_,_=>aY os rs
def NB(i:Nat)(os:List Nat):List Rb->List Rb
 |[]=>[]
 |r::rs=>(match r.c,dn os r.o with
  |none,true=>⟨r.a,some i,r.rd,r.o,r.x⟩
  |_,_=>r)::NB i os rs
def ND(i:Nat)(os:List Nat):List Rb->List Rb
 |[]=>[]
 |r::rs=>(match r.c,dn os r.o with
  |none,true=>⟨r.a,none,i::r.rd,r.o,r.x⟩
  |_,_=>r)::ND i os rs
def zfE(i:Nat)(ob:List (Nat×Od)):List Rb:=ob.map fun e=>⟨some i,none,[],e.1,e.2⟩
def zj6(ob:List (Nat×Od)):List Rb:=ob.map fun e=>⟨none,none,[],e.1,e.2⟩
def Lq:List Rb->List (Nat×Od)
 |[]=>[]
 |r::rs=>match r.c with
  |none=>(r.o,r.x)::Lq rs
  |some _=>Lq rs
def okO(n:Nat)(ob:List (Nat×Od)):Bool:=ob.all fun e=>xdd e.1 n
def ru(σ:Sg):List Nat->Sg
 |[]=>σ
 |o::r=>ru (Ib σ o) r
def zcS:List RM->Bool
 |[]=>true
 |.own _ _::_=>false
 |_::r=>zcS r
def zfS(σ:Sg)(b:Bool)(d:Option Tmp):Op->Bool
 |.alloc _=>true
 |.store _ _ _=>true
 |.makeSlice _ _ _=>true
 |.buildSlice _ _ _=> !b
 |.box _ _=>zg9 cf d
 |.load _ x=>zaN<|x8 cx σ x
 |.slice _ x none (some _) none=>(match x8 cx σ x with
  |some (.ow _)=>true
  |_=>false)
 |.call ⟨.builtin .append,_,_⟩=>true
 |.call ⟨.builtin .copy,_,_⟩=>true
 |.call ⟨.value f,ags,_⟩=>(match x8 cx σ f with
  |some (.fn f' _)=>(match LD cx σ f' ags.toList cf.cs with
   |some s=> !(pK s.dom)||(!b && !(zcS s.cod))
   |none=>(SZ cf.ms f').isSome)
  |some (.yd _)=>true
  |_=>false)
 |_=>false
def fzB(fz:List Nat):Option Tmp->Bool
 |some t=>dn fz t
 |none=>false
def zi3(b:Bool)(d:Option Tmp)(τ:Sg):Sg:=match b with
 |true=>ru τ<|dQ<|nN d τ.rg
 |false=>τ
def zgh(τ:Sg)(d:Option Tmp)(k:List (Nat×Dv)->Nat->List (Nat×Od)->Option R):Option R:=kQ (okL τ.nx (nN d τ.rg) && okO τ.nx τ.ob)<|k (nN d τ.rg) τ.nx τ.ob
def zge(os:List Nat):Op->List Nat
 |.move _=>[]
 |.assign _=>[]
 |_=>os
def Ra(all:List Oper)(fz:List Nat):List Oper->Nat->Sg->List Rb->List Oi->(Sg->List Rb->List Oi->Option R)->Option R
 |[],_,σ,rs,is,k=>k σ rs is
 |o::r,i,σ,rs,is,k=>kQ (wv cx o.dst)<|cM cx all o σ fun σ w=>NI w
  (th cx o σ fun σ=>NI (zfS cf cx ⟨σ.nx,σ.rg,aY (UY (xbC all.toArray o) σ.rg) rs⟩ (fzB fz o.dst) o.dst o.op)
   (mOp cf ⟨0,[],cx.ob⟩ ⟨σ.nx,dd<|JT (xbC all.toArray o)<|σ.rg++cx.rg,aY (UY (xbC all.toArray o) σ.rg) rs⟩ o.dst o.op fun τ=>
    zgh (zi3 (fzB fz o.dst) o.dst τ) o.dst fun l n ob=>Ra all fz r (i+1) ⟨n,vj σ.rg o.dst l,[]⟩ (NB i (UY (xbC all.toArray o) σ.rg) rs++zfE i ob) (is++[⟨σ.nx,n,dQ l⟩]) k)
   (eOp cf cx ⟨σ.nx,σ.rg,aY (zge (UY (xbC all.toArray o) σ.rg) o.op) rs⟩ o.op fun l=>kQ (okL σ.nx l)<|Ra all fz r (i+1) (σ.put o.dst l) (ND i (zge (UY (xbC all.toArray o) σ.rg) o.op) rs) (is++[⟨σ.nx,σ.nx,dQ l⟩]) k))
  (Ra all fz r (i+1) (σ.put o.dst [(0,.un)]) rs (is++[⟨σ.nx,σ.nx,[]⟩]) k)
def inB(I:Oi)(o:Nat):Bool:=xfT I.lo o && xdd o I.hi
def zek(l:List Oper)(i:Nat)(I:Oi)(rs:List Rb)(js:List (Oi×Nat)):Bool:=
 (rs.all fun r=> !inB I r.o||(match r.a with
  |some j=>xao j i||vH l 16 j i
  |none=>false)) && js.all fun J=>J.1.refs.all fun p=> !inB I p||xao J.2 i||vH l 16 J.2 i
def zec(l:List Oper)(m:Nat)(rs:List Rb)(is:List Oi):Bool:=
 (rs.all fun r=>(match r.a with
  |some j=>xdd j m && r.rd.all fun i=>vH l 16 i j
  |none=>true) && (match r.c with
  |some k=>xdd k m && (match r.a with
   |some j=>vH l 16 k j
   |none=>true) && r.rd.all fun i=>vH l 16 k i
  |none=>true)) &&
 (is.zipIdx.all fun J=>zek l J.2 J.1 rs is.zipIdx) &&
 (xbb m).all fun i=>(xbb m).all fun j=>xao i j||(match(zT l i).dst with
  |some t=> !((zT l j).dst==some t)
  |none=>true)
def MU(l:List Oper):Nat->Nat->Nat
 |0,m=>m
 |f+1,m=>bif xdd 1 m && YL l (m-1)then MU l f (m-1)else m
def zhR(al:List (Nat×Operand)):Operand->Operand
 |.tmp t=>(match Jz al t with
  |some x=>x
  |none=> .tmp t)
 |x=>x
def zkl(al:List (Nat×Operand))(o:Oper):List (Nat×Operand):=match o.op,o.dst with
 |.move x,some d=>(d,zhR al x)::al
 |.assign x,some d=>(d,zhR al x)::al
 |_,_=>al
def zeZ:List Oper->List (Nat×Operand)->Sg->Sg
 |[],_,σ=>σ
 |o::r,al,σ=>zeZ r (zkl al o)<|zdE cx σ<|(zgF cf cx σ o.dst o.op).map<|zhR al
def zhQ(id:Nat):List Nat:=match Jz cf.an.dz id with
 |some l=>l
 |none=>[]
def zia(id:Nat)(l:List Oper)(m:Nat)(σ:Sg)(k:Sg->Option R):Option R:=
 let fz:=zhQ cf id
 let σ:=ru σ<|UY fz σ.rg
 Ra cf cx l fz (l.take m) 0 ⟨σ.nx,σ.rg,[]⟩ (zj6 σ.ob) [] fun σ rs is=>kQ (zec l m rs is)<|LG cf cx l (l.drop m) ⟨σ.nx,dd σ.rg,Lq rs⟩ k
def zkA(id:Nat):Bool:=match Jz cf.an.dz id with
 |some _=>true
 |none=>false
def zhz(id:Nat)(l:List Oper)(draw:Bool)(σ:Sg)(k:Sg->Option R):Option R:=
 NI draw
  (let m:=MU l l.length l.length
  kQ (YL l m)<|NI (zkA cf id) (zia cf cx id l m σ k) (TX cf cx l (l.take m) (zeZ cf cx (l.take m) [] σ) fun σ=>LG cf cx l (l.drop m) ⟨σ.nx,dd σ.rg,σ.ob⟩ k))
  (LG cf cx l l σ k)
def Wh:List (Nat×TF)->Type
 |[]=>Unit
 |[a]=>a.2.D
 |a::b::r=>a.2.D×Wh (b::r)
def cP(σ:Sg)(ds:List (Nat×TF))(t:Nat)(f:TF)(k:f.D->List Nat->Option R):Option R:=match f,k with
 |.d s,k=>Bm (get cx σ t 0) s fun y=>k y []
 |.q s,k=>(match get cx σ t 0 with
  |some (.q s' x)=>Ty.cast s' s x fun y=>k y []
  |_=>none)
 |.own s E,k=>(match get cx σ t 0 with
  |some (.ow o)=>(match xR σ.ob o with
   |some (.own s' E' xs)=>kQ (xao E E')<|Ty.cast (.l s') (.l s) xs fun y=>k y [o]
   |_=>none)
  |some .nil=>k ([]:List s.D) []
  |_=>none)
 |.var s E,k=>(match get cx σ t 0 with
  |some (.vs o _)=>(match xR σ.ob o with
   |some (.var s' E' z)=>kQ (xao E E')<|Ty.cast s' s z fun y=>k y [o]
   |_=>none)
  |_=>none)
 |.mat s E E1,k=>(match get cx σ t 0 with
  |some (.mw o)=>(match xR σ.ob o with
   |some (.mat s' E' F' xss ix)=>kQ (xao E E' && xao E1 F')<|Ty.cast (.l (.l s')) (.l (.l s)) xss fun y=>k (y,ix) [o]
   |_=>none)
  |some .nil=>k (([],[]):List (List s.D)×List Nat) []
  |_=>none)
 |.matv s E E1,k=>(match get cx σ t 0 with
  |some (.mv o lo n)=>(match xR σ.ob o with
   |some (.mat s' E' F' xss ix)=>kQ (xao E E' && xao E1 F')<|Ty.cast (.l (.l s')) (.l (.l s)) xss fun y=>k ((y,ix),(lo,n)) [o]
   |_=>none)
  |_=>none)
 |.row j,k=>(match get cx σ t 0,ds[j]? with
  |some (.rw o r),some (s,.mat _ _ _)=>(match get cx σ s 0 with
   |some (.mw o')=>kQ (xao o o')<|k r []
   |_=>none)
  |some (.rw o r),some (s,.matv _ _ _)=>(match get cx σ s 0 with
   |some (.mv o' _ _)=>kQ (xao o o')<|k r []
   |_=>none)
  |_,_=>none)
 |.view j,k=>(match get cx σ t 0,ds[j]? with
  |some (.mv o lo n),some (s,.mat _ _ _)=>(match get cx σ s 0 with
   |some (.mw o')=>kQ (xao o o')<|k (lo,n) []
   |_=>none)
  |some (.mv o lo n),some (s,.matv _ _ _)=>(match get cx σ s 0 with
   |some (.mv o' _ _)=>kQ (xao o o')<|k (lo,n) []
   |_=>none)
  |_,_=>none)
 |.bo s E E0,k=>(match get cx σ t 0 with
  |some (.mw o)=>(match xR σ.ob o with
   |some (.bo s' E' F' xs)=>kQ (xao E E' && xao E0 F')<|Ty.cast (.l s') (.l s) xs fun y=>k y [o]
   |_=>none)
  |_=>none)
def rZ(os:List Nat):List Nat->Bool
 |[]=>true
 |o::r=> !dn os o && rZ os r
def gat(σ:Sg)(ds:List (Nat×TF)):(l:List (Nat×TF))->(Wh l->List Nat->Option R)->Option R
 |[],k=>k () []
 |[a],k=>cP cx σ ds a.1 a.2 k
 |a::b::r,k=>cP cx σ ds a.1 a.2 fun x o=>gat σ ds (b::r) fun y os=>kQ (rZ os o)<|k (x,y) (o++os)
def zdX(σ:Sg):List (Nat×NF)->Bool
 |[]=>true
 |(t,f)::r=>(match f,get cx σ t 0 with
  |.kb b,some (.kb c)=>b==c
  |.nil,some .nil=>true
  |.ci x,some (.d .i y)=>eqI x y
  |.cu x,some (.d .u y)=>eqU x y
  |.al s,some (.ow o)=>(match get cx σ s 0 with
   |some (.ow o')=>xao o o'
   |_=>false)
  |.al s,some (.vs o _)=>(match get cx σ s 0 with
   |some (.vs o' _)=>xao o o'
   |_=>false)
  |.al s,some (.mw o)=>(match get cx σ s 0 with
   |some (.mw o')=>xao o o'
   |_=>false)
  |_,_=>false) && zdX σ r
def mN(n0 o:Nat)(f:TF)(x:f.D):Dv×Option Od:=match f,x with
 |.d t,x=>(.d t x,none)
 |.q t,x=>(.q t x,none)
 |.own t E,x=>(.ow o,some (.own t E x))
 |.var t E,x=>(.vs o t,some (.var t E x))
 |.mat t E E1,x=>(.mw o,some (.mat t E E1 x.1 x.2))
 |.matv t E E1,x=>(.mv o x.2.1 x.2.2,some (.mat t E E1 x.1.1 x.1.2))
 |.row j,r=>(.rw (n0+j) r,none)
 |.view j,r=>(.mv (n0+j) r.1 r.2,none)
 |.bo t E E0,x=>(.mw o,some (.bo t E E0 x))
def bS(n0:Nat):(l:List (Nat×TF))->Wh l->Nat->List (Nat×Nat×Dv)×List (Nat×Od)
 |[],_,_=>([],[])
 |[a],x,o=>let v:=mN n0 o a.2 x
  ([(a.1,0,v.1)],match v.2 with
   |some y=>[(o,y)]
   |none=>[])
 |a::b::r,x,o=>let v:=mN n0 o a.2 x.1
  let y:=bS n0 (b::r) x.2<|o+1
  ((a.1,0,v.1)::y.1,match v.2 with
   |some q=>(o,q)::y.2
   |none=>y.2)
def Fe(rg:List (Nat×Nat×Dv)):List (Nat×NF)->List (Nat×Nat×Dv)
 |[]=>rg
 |(t,f)::r=>(match f with
  |.kb b=>[(t,0,.kb b)]
  |.nil=>[(t,0,.nil)]
  |.ci x=>[(t,0,.d .i x)]
  |.cu x=>[(t,0,.d .u x)]
  |.al s=>(match dk rg s 0 with
   |some v=>[(t,0,v)]
   |none=>[]))++Fe rg r
def Qy(sh:Sh)(x:Wh sh.ds)(kp:Sg):Sg:=
 let y:=bS kp.nx sh.ds x kp.nx
 ⟨kp.nx+sh.ds.length,Fe y.1 sh.ns++y.1++kp.rg,y.2++kp.ob⟩
def S6(σ:Sg):List (Nat×TF)->Sg
 |[]=>σ
 |(t,.d _)::r=>S6 (frz cx σ (.tmp t)) r
 |_::r=>S6 σ r
def ig(sh:Sh)(σ:Sg)(k:Wh sh.ds->Option R):Option R:=let σ:=S6 cx σ sh.ds
 kQ (zdX cx σ sh.ns)<|gat cx σ sh.ds sh.ds fun x _=>k x
def SmD:List (Tg×Sh)->Type
 |[]=>Empty
 |[a]=>Wh a.2.ds
 |a::b::r=>Wh a.2.ds⊕SmD (b::r)
def SI:Tg->Tg->Bool
 |.n,.n=>true
 |.x i,.x j=>xao i j
 |.r,.r=>true
 |_,_=>false
def zao(σ:Sg)(t:Tg):(l:List (Tg×Sh))->(SmD l->Option R)->Option R
 |[],_=>none
 |[a],k=>kQ (SI a.1 t)<|ig cx a.2 σ k
 |a::b::r,k=>NI (SI a.1 t) (ig cx a.2 σ fun x=>k (.inl x))<|zao σ t (b::r) fun y=>k (.inr y)
def GY(kp:Sg)(K:Tg->Sg->Option R):(l:List (Tg×Sh))->SmD l->Option R
 |[]=>fun _=>none
 |[a]=>fun x=>K a.1<|Qy a.2 x kp
 |a::b::r=>fun x=>xfu (α:=Wh a.2.ds) (β:=SmD (b::r)) (fun x=>K a.1<|Qy a.2 x kp) (GY kp K (b::r)) x
def Ag:Code->List Nat
 |.region _ ops _=>ops.toList.filterMap (·.dst)
 |.seq a b=>Ag a++Ag b
 |.cond _ a b=>Ag a++Ag b
 |.block _ c=>Ag c
 |.loop c=>Ag c
 |.scope c=>Ag c
 |.rangeFunc _ ps a c=>ps.toList++(Ag a++Ag c)
 |_=>[]
def Ss:Code->Option Nat
 |.region i _ _=>some i
 |.seq a b=>(match Ss a with
  |some i=>some i
  |none=>Ss b)
 |.cond _ a b=>(match Ss a with
  |some i=>some i
  |none=>Ss b)
 |.block _ c=>Ss c
 |.loop c=>Ss c
 |.scope c=>Ss c
 |.rangeFunc _ _ a c=>(match Ss a with
  |some i=>some i
  |none=>Ss c)
 |_=>none
def zfU:Option Nat->Nat
 |some i=>i+1
 |none=>0
def zlh(a b:Code):Nat:=zfU (Ss a)*65536+zfU (Ss b)
def Bu(σ:Sg):List Nat->List Nat
 |[]=>[]
 |t::r=>match dk σ.rg t 0 with
  |some v=>(match wu v with
   |some o=>o::Bu σ r
   |none=>Bu σ r)
  |none=>Bu σ r
def Tl(ags ko:List Nat)(e:Nat×Nat×Dv):Bool:= !dn ags e.1 && (match wu e.2.2 with
 |some o=>dn ko o
 |none=>true)
def keep(σ:Sg)(ags ro:List Nat):Sg:=let ko:=Bu σ ro
 ⟨σ.nx,σ.rg.filter<|Tl ags ko,σ.ob.filter fun e=>dn ko e.1⟩
def rest(σ:Sg)(ags ro:List Nat):Sg:=let ko:=Bu σ ro
 ⟨σ.nx,σ.rg.filter<|fun e=> !Tl ags ko e,σ.ob.filter fun e=> !dn ko e.1⟩
def jE(cx kp:Sg):Sg:=⟨kp.nx,kp.rg++cx.rg,kp.ob++cx.ob⟩
def KB:List (Nat×TF)->Bool
 |[]=>true
 |(_,.own _ _)::r=>KB r
 |(_,.var _ _)::r=>KB r
 |(_,.mat _ _ _)::r=>KB r
 |(_,.bo _ _ _)::r=>KB r
 |_=>false
def nV:List (Nat×TF)->Nat->List (Nat×Nat×Dv)
 |[],_=>[]
 |(t,.mat _ _ _)::r,n=>(t,0,.mw n)::nV r (n+1)
 |(t,.bo _ _ _)::r,n=>(t,0,.mw n)::nV r (n+1)
 |(t,_)::r,n=>(t,0,.ow n)::nV r (n+1)
def Cv{a:Nat×TF}:{l:List (Nat×TF)}->a.2.D->Wh l->Wh (a::l)
 |[],y,_=>y
 |_::_,y,x=>(y,x)
def bW{a:Nat×TF}:{l:List (Nat×TF)}->Wh (a::l)->a.2.D×Wh l
 |[],z=>(z,())
 |_::_,z=>z
def jC(pt:Nat)(t:Ty)(E:TypeId)(ds:List (Nat×TF)):Sh:=⟨(pt,.own t E)::ds,[]⟩
def TU(ds:List (Nat×TF))(t:Nat):Bool:=ds.all fun e=> !xao e.1 t
def zcY:List (Nat×TF)->Bool
 |[]=>true
 |e::r=>TU r e.1 && zcY r
def cpR(cx':Sg)(n:Nat)(sh:Sh):Sg:=⟨n+sh.ds.length,nV sh.ds n++cx'.rg,cx'.ob⟩
def zgC(cp:Sg)(ds:List (Nat×TF))(t:Ty)(E:TypeId)(pt:Nat)(τ:Tg)(q:Tg)(σ:Sg):Option (List t.D×(Wh ds⊕Wh ds)):=match q with
 |.n=>ig cp (jC pt t E ds) σ fun z=>some ((bW z).1,.inl (bW z).2)
 |.x i=>kQ (SI τ (.x i))<|ig cp (jC pt t E ds) σ fun z=>some ((bW z).1,.inr (bW z).2)
 |.r=>kQ (SI τ .r)<|ig cp (jC pt t E ds) σ fun z=>some ((bW z).1,.inr (bW z).2)
def zj0(cx':Sg)(n:Nat)(ds:List (Nat×TF))(t:Ty)(E:TypeId)(pt:Nat)(τ:Tg)
 (ea ec:Sg->Sg->(Tg->Sg->Option (List t.D×(Wh ds⊕Wh ds)))->Option (List t.D×(Wh ds⊕Wh ds))) (ys:List t.D) (x:Wh ds):Option (List t.D×(Wh ds⊕Wh ds)):=
 ea (cpR cx' n<|jC pt t E ds) (Qy (jC pt t E ds) (Cv (a:=(pt,.own t E)) ys x) ⟨n,[],[]⟩) fun q σ=>match q with
  |.n=>ec (cpR cx' n<|jC pt t E ds) σ<|zgC (cpR cx' n<|jC pt t E ds) ds t E pt τ
  |_=>none
def Me{R:Type}(cx σ:Sg)(K:Tg->Sg->Option R)(s:Lp)(it:Ba)(y:UI it.dom)(τ:Tg)(pt:Nat)(ags:List Nat)
 (ea ec:Sg->Sg->(Tg->Sg->Option (List it.t.D×(Wh s.hd.ds⊕Wh s.hd.ds)))->Option (List it.t.D×(Wh s.hd.ds⊕Wh s.hd.ds))):Option R:=
 let kp:=keep σ ags s.sg.ro
 let cx':=jE cx kp
 kQ (KB s.hd.ds && (zcY (jC pt it.t it.E s.hd.ds).ds && Yf cx'.rg pt))<|ig cx' s.hd (rest σ ags s.sg.ro) fun x=>
  bd (it.M (X:=Wh s.hd.ds) (Y:=Wh s.hd.ds) y (zj0 cx' kp.nx s.hd.ds it.t it.E pt τ ea ec) x) fun r=>xfu (fun x=>K .n<|Qy s.hd x kp) (fun x=>K τ<|Qy s.hd x kp) r
def ED:Code->Bool
 |.seq a b=>ED a && ED b
 |.cond _ a b=>ED a && ED b
 |.block _ c=>ED c
 |.loop c=>ED c
 |.scope c=>ED c
 |.rangeFunc _ _ _ _=>false
 |_=>true
end
def aR(cf:Cf):Code->{R:Type}->Sg->Sg->(Tg->Sg->Option R)->Option R
 |.skip,_,cx,σ,K=>K .n σ
 |.label _,_,cx,σ,K=>K .n σ
 |.exit id,_,cx,σ,K=>K (.x id) σ
 |.ret,_,cx,σ,K=>K .r σ
 |.scope c,_,cx,σ,K=>aR cf c cx σ K
 |.region i ops dr,_,cx,σ,K=>zhz cf cx i ops.toList dr σ fun σ=>K .n σ
 |.cond c a b,_,cx,σ,K=>(match x8 cx σ c with
  |some (.kb true)=>aR cf a cx σ K
  |some (.kb false)=>aR cf b cx σ K
  |some (.d .b x)=>ifB x (aR cf a cx σ K)<|aR cf b cx σ K
  |_=>none)
 |.block id c,_,cx,σ,K=>aR cf c cx σ fun t σ=>match t with
  |.x j=>NI (xao j id) (K .n σ)<|K (.x j) σ
  |t=>K t σ
 |.seq a b,_,cx,σ,K=>
  (match Jz cf.an.jn (zlh a b)with
  |none=>aR cf a cx σ fun t σ=>(match t with
   |.n=>aR cf b cx σ K
   |t=>K t σ)
  |some s=>
   let ags:=Ag a
   let kp:=keep σ ags s.ro
   bd (aR cf a (jE cx kp) (rest σ ags s.ro) fun t σ=>zao (jE cx kp) σ t s.tg some) fun x=>
    GY kp (fun t σ=>match t with
     |.n=>aR cf b cx σ K
     |t=>K t σ) s.tg x)
 |.loop c,_,cx,σ,K=>
  (match(match Ss c with
   |some i=>Jz cf.an.lp i
   |none=>none)with
  |none=>none
  |some s=>
   let ags:=Ag c
   let kp:=keep σ ags s.sg.ro
   let cx':=jE cx kp
   ig cx' s.hd (rest σ ags s.sg.ro) fun x=>
    bd (zm (fun L x=>aR cf c cx' (Qy s.hd x ⟨kp.nx,[],[]⟩) fun t σ=>match t with
     |.n=>ig cx' s.hd σ L
     |t=>zao cx' σ t s.sg.tg some) cf.fu x) fun x=>GY kp K s.sg.tg x)
 |.rangeFunc g ps a c,_,cx,σ,K=>
  (match x8 cx σ g,(match Ss c with
   |some i=>Jz cf.an.lp i
   |none=>none),ps.toList with
  |some (.fn f cs),some s,[pt]=>(match zey cf.is f,s.sg.tg,s.hd.ns with
   |some it,[(τ,_)],[]=>(match Kh it.dom cs with
    |some y=>kQ (ED a && ED c)<|Me cx σ K s it y τ pt (pt::(Ag a++Ag c)) (fun cx σ K=>aR cf a cx σ K) (fun cx σ K=>aR cf c cx σ K)
    |none=>none)
   |_,_,_=>none)
  |_,_,_=>none)
 |_,_,_,_,_=>none
def Wq:(dom:List AM)->UI dom->Nat->List (Nat×Nat×Dv)×List (Nat×Od)
 |[],_,_=>([],[])
 |.d t::r,x,i=>let y:=Wq r x.2 (i+1)
  ((i,0,.d t x.1)::y.1,y.2)
 |.q t::r,x,i=>let y:=Wq r x.2 (i+1)
  ((i,0,.q t x.1)::y.1,y.2)
 |.own t E::r,x,i=>let y:=Wq r x.2 (i+1)
  ((i,0,.ow i)::y.1,(i,.own t E x.1)::y.2)
 |.fn dom cod::r,x,i=>let y:=Wq r x.2 (i+1)
  ((i,0,.fp dom cod x.1)::y.1,y.2)
def DV{R:Type}(cf:Cf)(σ:Sg)(r:ResultVar)(m:RM)(k:m.D->List Nat->Option R):Option R:=match r,m,k with
 |.tmp t,.d s,k=>Bm (get ⟨0,[],[]⟩ σ t 0) s fun y=>k y []
 |.tmp t,.own s E,k=>cP ⟨0,[],[]⟩ σ [] t (.own s E) k
 |.cell t E,.d s,k=>(match get ⟨0,[],[]⟩ σ t 0,Yh cf E with
  |some (.vs o _),some ti=>(match xR σ.ob o with
   |some (.var s' E' z)=>kQ (xao E E')<|Ty.cast s' ti.ty z fun z=>Ty.cast ti.ty s z fun y=>k y [o]
   |_=>none)
  |_,_=>none)
 |_,_,_=>none
def GH{R:Type}(cf:Cf)(σ:Sg):List ResultVar->(cod:List RM)->(dq cod->List Nat->Option R)->Option R
 |[],[],k=>k () []
 |[v],[m],k=>DV cf σ v m k
 |v::v'::vs,m::m'::ms,k=>DV cf σ v m fun x o=>GH cf σ (v'::vs) (m'::ms) fun y os=>kQ (rZ os o)<|k (x,y) (o++os)
 |_,_,_=>none
def MA(N:Nat):Code->Bool
 |.region _ ops _=>ops.toList.all fun o=>qx N o.dst
 |.seq a b=>MA N a && MA N b
 |.cond _ a b=>MA N a && MA N b
 |.block _ c=>MA N c
 |.loop c=>MA N c
 |.scope c=>MA N c
 |.rangeFunc _ ps a c=>(ps.toList.all fun p=>xdd p N) && (MA N a && MA N c)
 |_=>true
def Ua(σ:Sg):List ResultVar->List RM->Sg
 |.tmp t::vs,.d _::ms=>Ua (frz ⟨0,[],[]⟩ σ (.tmp t)) vs ms
 |_::vs,_::ms=>Ua σ vs ms
 |_,_=>σ
def Mq(cf:Cf)(fn:Func)(dom:List AM)(cod:List RM)(x:UI dom):Option (dq cod):=match fn.body with
 |some c=>kQ (MA fn.ntmps c && xfT dom.length fn.ntmps)<|
  let y:=Wq dom x 0
  aR cf c ⟨0,[],[]⟩ ⟨dom.length,y.1,y.2⟩ fun t σ=>(match t with
   |.r=>GH cf (Ua σ fn.results.toList cod) fn.results.toList cod fun y _=>some y
   |.n=>GH cf (Ua σ fn.results.toList cod) fn.results.toList cod fun y _=>some y
   |_=>none)
 |none=>none
def De:List AM->Nat->List ResultVar
 |[],_=>[]
 |.own _ _::r,i=> .tmp i::De r (i+1)
 |_::r,i=>De r<|i+1
def EH(pn:Nat->Value):List AM->Nat->List (Nat×Nat×Dv)
 |[],_=>[]
 |.own _ _::r,i=>(i,0,.pin<|pn i)::EH pn r (i+1)
 |_::r,i=>EH pn r<|i+1
def zeB(cf:Cf)(fn:Func)(dom:List AM)(cod:List RM)(bk:Nat)(pn:Nat->Value)(x:UI dom):Option (dq cod):=match fn.body with
 |some c=>kQ (MA fn.ntmps c && xfT dom.length fn.ntmps && xao (fn.results.toList.length+bk) cod.length && xao (De dom 0).length bk && xdd 0 bk)<|
  let y:=Wq dom x 0
  let rv:=fn.results.toList++De dom 0
  aR cf c ⟨0,EH pn dom 0,[]⟩ ⟨dom.length,y.1,y.2⟩ fun t σ=>(match t with
   |.r=>GH cf (Ua σ rv cod) rv cod fun y _=>some y
   |.n=>GH cf (Ua σ rv cod) rv cod fun y _=>some y
   |_=>none)
 |none=>none
end
section
def sa(p:Prop):FF where
 p _ _:=p
 keep h _:=h
 sub h _:=h
def C2:List PD->List Value->List FF
 |c::cs,v::vs=>fP c.t.rep c.x v::C2 cs vs
 |_,_=>[]
def tsF:(ts:List Ty)->dw ts->List Value->List FF
 |[],_,_=>[]
 |t::ts,x,vs=>fV t.rep x.1 (vs.headD undef)::tsF ts x.2 vs.tail
def csF:(ts:List Ty)->B4 ts->List Value->List FF
 |[],_,_=>[]
 |[t],x,vs=>[fV t.rep x<|vs.headD undef]
 |t::s::r,x,vs=>fV t.rep x.1 (vs.headD undef)::csF (s::r) x.2 vs.tail
def zhN(P:Program)(fid:FuncId)(JJ:List Value)(FG:List FF)(dom cod:List Ty)(g:dw dom->Option (B4 cod)):Prop:=
 Af P fid=true/\∀(x:dw dom) (r:B4 cod),g x=some r->∀vs:List Value,vs.length=dom.length->
  Fn P fid (vs++JJ).toArray (tsF dom x vs++FG) Yg (fun us=>csF cod r us) (fun us=>us.length=cod.length)
def fnF(P:Program)(dom cod:List Ty)(g:dw dom->Option (B4 cod))(v:Value):FF where
 p S w:=∃fid JJ FG,v=.func (.func fid) #[] JJ.toArray/\zhN P fid JJ FG dom cod g/\zD S FG w
 keep:=by rintro S w w' ⟨fid,JJ,FG,h1,h2,h3⟩ k;exact⟨fid,JJ,FG,h1,h2,zD.keep k h3⟩
 sub:=by rintro S S' w ⟨fid,JJ,FG,h1,h2,h3⟩ k;exact⟨fid,JJ,FG,h1,h2,zD.sub k h3⟩
def amF(P:Program):(a:AM)->a.D->Value->FF
 |.d t,x,v=>fV t.rep x v
 |.q t,x,v=>fP t.rep x v
 |.own _ _,_,_=>sa True
 |.fn dom cod,g,v=>fnF P dom cod g v
def amM:(a:AM)->a.D->Value->List MF
 |.own t E,xs,v=>[mO t.rep E v xs]
 |_,_,_=>[]
def ua(P:Program):(dom:List AM)->UI dom->List Value->List FF
 |[],_,_=>[]
 |a::r,x,vs=>amF P a x.1 (vs.headD undef)::ua P r x.2 vs.tail
def Y9:(dom:List AM)->UI dom->List Value->List MF
 |[],_,_=>[]
 |a::r,x,vs=>amM a x.1 (vs.headD undef)++Y9 r x.2 vs.tail
def rmF:(m:RM)->m.D->Value->List FF
 |.d t,x,v=>[fV t.rep x v]
 |.own _ _,_,_=>[]
def rmM:(m:RM)->m.D->Value->List MF
 |.own t E,xs,v=>[mO t.rep E v xs]
 |.d _,_,_=>[]
def Ze:(rs:List RM)->dq rs->List Value->List FF
 |[],_,_=>[]
 |[m],x,vs=>rmF m x<|vs.headD undef
 |m::n::r,x,vs=>rmF m x.1 (vs.headD undef)++Ze (n::r) x.2 vs.tail
def Zf:(rs:List RM)->dq rs->List Value->List MF
 |[],_,_=>[]
 |[m],x,vs=>rmM m x<|vs.headD undef
 |m::n::r,x,vs=>rmM m x.1 (vs.headD undef)++Zf (n::r) x.2 vs.tail
def UA:List AM->List Value->List Value
 |[],_=>[]
 |.own _ _::r,vs=>vs.headD undef::UA r vs.tail
 |_::r,vs=>UA r vs.tail
def ziJ(bk n:Nat)(us:List Value):Value:=match bk with
 |0=>Yg us
 |b+1=>Yg<|us.take<|n-(b+1)
def zgi(dom:List AM)(vs:List Value)(bk n:Nat)(us:List Value):Prop:=match bk with
 |0=>us.length=n
 |b+1=>us.length=n/\us.drop (n-(b+1))=UA dom vs
def y9(P:Program)(s:VF):Prop:=
 Af P s.f=true/\∀(x:UI s.dom) (r:dq s.cod),s.M x=some r->∀vs:List Value,vs.length=s.dom.length->
  Ot P s.f vs.toArray (Y9 s.dom x vs) (ua P s.dom x vs) (ziJ s.bk s.cod.length) (fun us=>Zf s.cod r us) (fun us=>Ze s.cod r us) (zgi s.dom vs s.bk s.cod.length)
theorem y9.plain{P:Program}{s:VF}(h:y9 P s)(hb:s.bk=0){x:UI s.dom}{r:dq s.cod}(hM:s.M x=some r){vs:List Value}(hl:vs.length=s.dom.length):
 Ot P s.f vs.toArray (Y9 s.dom x vs) (ua P s.dom x vs) Yg (fun us=>Zf s.cod r us) (fun us=>Ze s.cod r us) (fun us=>us.length=s.cod.length):=by
 have h1:=h.2 x r hM vs hl;rw[hb]at h1;exact h1
def za4(P:Program)(t:TypeId)(i:Nat):Option (Nat×Bool×Nat):=match P.underlying t with
 |some (.struct fs)=>match fs[i]? with
  |some f=>match tyB P f.type with
   |some (agg,n,_,some _)=>some (f.offset,agg,n)
   |_=>none
  |none=>none
 |_=>none
def zb9(P:Program)(t:TypeId)(ti:TI):Prop:=match ti.k with
 |.int k=>P.underlying t=some (.int k)
 |.bool=>P.underlying t=some .bool
 |.str=>P.underlying t=some .string
 |.sl E=>P.underlying t=some (.slice E)/\∃e,ti.ty=.l e
 |.st n=>ti.ty.rep.agg=true/\(∀i f,Q3 n ti.ty i=some f->L7 P t i=some f.off)/\
  (∃fs,P.underlying t=some (.struct fs)/\∃pl:Array (Nat×Nat),(∀w,(fs.mapM (fun f=>do pure (f.offset,<-sizeOf f.type)):Sem (Array<|Nat×Nat)).run P w=.ok pl w)/\
   ∀i f,Q3 n ti.ty i=some f->pl[i]? =some (f.off,f.f.n))/\
  ∀i f,Q3 n ti.ty i=some f->za4 P t i=some (f.off,f.f.rep.agg,f.f.n)
 |.ar k E=>ti.ty.rep.agg=true/\P.underlying t=some (.array k E)
def zc5(P:Program)(t:TypeId)(ti:TI):Prop:=
 (∃zero,X8 P t ti.ty.rep.agg ti.ty.rep.n ti.B zero/\zero.cells.size=ti.ty.rep.n/\(∀S w,ti.ty.rep.p S ti.ty.z zero.cells.toList w)/\∀s,ti.ty=.l s->zero=.slice none 0 0)/\0<ti.B/\0<ti.ty.rep.n/\zb9 P t ti
def y4(P:Program)(tt:List (Nat×TI)):Prop:=∀t ti,Jz tt t=some ti->zc5 P t ti
def jT(P:Program)(tt:List (Nat×TI)):Prop:=∀t s E B,Jz tt t=some ⟨.l s,.sl E,B⟩->∃ti,Jz tt E=some ti/\ti.ty=s
def Fl.ok(t:Ty)(f:Fl t.D):Prop:=∀z:t.D,Sub t.rep.c z f.off f.f.rep (f.get z)<|fun y=>f.set y z
def zhk(f:FuncId)(c:List PD)(v:Value):FF where
 p S w:=∃cs:List Value,v=.func (.func f) #[] cs.toArray/\cs.length=c.length/\zD S (C2 c cs) w
 keep:=by rintro S w w' ⟨cs,h1,h2,h3⟩ k;exact⟨cs,h1,h2,zD.keep k h3⟩
 sub:=by rintro S S' w ⟨cs,h1,h2,h3⟩ k;exact⟨cs,h1,h2,zD.sub k h3⟩
def FI(v0:Value)(lo n:Nat)(v:Value):Prop:=(∃b m cap,v0=.slice (some ⟨b,0,none⟩) m cap/\lo+n<=m/\m<=cap/\cap<=9223372036854775807/\v=.slice (if cap=lo then some ⟨b,0,none⟩else some ⟨b,0+lo*1,none⟩) n (cap-lo))\/(v0=.slice none 0 0/\lo=0/\n=0/\v=.slice none 0 0)
theorem FI.old{v0 v:Value}{lo n:Nat}(h:FI v0 lo n v):(∃b m cap c,v0=.slice (some ⟨b,0,none⟩) m cap/\lo+n<=m/\n<=c/\c<=9223372036854775807/\v=.slice (some ⟨b,0+lo*1,none⟩) n c)\/(n=0/\∃ao c,c<=9223372036854775807/\v=.slice ao 0 c):=by
 rcases h with⟨b,m,cap,h1,h2,h3,h4,h5⟩|⟨h1,h2,h3,h4⟩
 ·by_cases hc:cap=lo
  ·rw[iq hc]at h5;obtain rfl:n=0:=by lia
   exact .inr ⟨rfl,_,cap-lo,by lia,h5⟩
  ·rw[ir hc]at h5;exact .inl ⟨b,m,cap,cap-lo,h1,h2,by lia,by lia,h5⟩
 ·exact .inr ⟨h3,none,0,by lia,by rw[h4]⟩
theorem FI.same{v0 v0' v:Value}{lo n m:Nat}(h:FI v0 lo n v)(h':FI v0' lo n v)(hl:∀a k c,v0=.slice a k c->a.isSome=true->k=m)(ha:∀a k c,v0'=.slice a k c->a.isSome=true->k=m):v0=v0':=by
 rcases h with⟨b,k,cap,h1,h2,h3,h4,h5⟩|⟨h1,h2,h3,h4⟩<;>rcases h' with⟨b',k',cap',q1,q2,q3,q4,q5⟩|⟨q1,q2,q3,q4⟩
 ·have e1:=hl _ _ _ h1 rfl;have e2:=ha _ _ _ q1 rfl;subst e1 e2;rw[h5]at q5;simp only[Value.slice.injEq,true_and]at q5;obtain⟨q6,q7⟩:=q5;obtain rfl:cap=cap':=by lia
  have hb:b=b':=by
   by_cases hc:cap=lo
   ·rw[iq hc,iq hc]at q6;simpa using q6
   ·rw[ir hc,ir hc]at q6;simpa using q6
  rw[h1,q1,hb]
 ·rw[h5]at q4;exfalso;simp only[Value.slice.injEq]at q4;by_cases hc:cap=lo
  ·rw[iq hc]at q4;cases q4.1
  ·rw[ir hc]at q4;cases q4.1
 ·rw[h4]at q5;exfalso;simp only[Value.slice.injEq]at q5;by_cases hc:cap'=lo
  ·rw[iq hc]at q5;cases q5.1
  ·rw[ir hc]at q5;cases q5.1
 ·rw[h1,q1]
def vo(P:Program)(vs:Nat->Value):Dv->Value->FF
 |.d t x,v=>fV t.rep x v
 |.q t x,v=>fP t.rep x v
 |.kb b,v=>sa<|v=.bool b
 |.un,v=>sa<|v=undef
 |.nil,v=>sa<|v=.slice none 0 0
 |.ow o,v=>sa<|v=vs o
 |.ep o t j f,v=>sa (Fl.ok t f/\∃b n cap,vs o=.slice (some ⟨b,0,none⟩) n cap/\j<n/\v=.pointer (some ⟨b,0+j*t.rep.n+f.off,none⟩))
 |.sv o t lo n,v=>sa<|(∃b m cap c,vs o=.slice (some ⟨b,0,none⟩) m cap/\lo+n<=m/\n<=c/\c<=9223372036854775807/\v=.slice (some ⟨b,0+lo*t.rep.n,none⟩) n c)\/(n=0/\∃ao c,c<=9223372036854775807/\v=.slice ao 0 c)
 |.vs o t,v=>sa (v=vs o/\∃b,vs o=.pointer (some ⟨b,0,none⟩))
 |.vp o t f,v=>sa (Fl.ok t f/\∃b,vs o=.pointer (some ⟨b,0,none⟩)/\v=.pointer (some ⟨b,0+f.off,none⟩))
 |.fn f c,v=>zhk f c v
 |.fp dom cod g,v=>fnF P dom cod g v
 |.pin u,v=>sa<|v=u
 |.mw o,v=>sa<|v=y5 (vs o)
 |.mv o lo n,v=>sa<|FI (y5<|vs o) lo n v
 |.hp o j,v=>sa (∃b n cap,y5 (vs o)=.slice (some ⟨b,0,none⟩) n cap/\j<n/\v=.pointer (some ⟨b,0+j*1,none⟩))
 |.rw o r,v=>sa<|(vg<|vs o)[r]? =some v
 |.rp o t r j f,v=>sa (Fl.ok t f/\∃b n cap,(vg<|vs o)[r]? =some (.slice (some ⟨b,0,none⟩) n cap)/\j<n/\v=.pointer (some ⟨b,0+j*t.rep.n+f.off,none⟩))
 |.yd o,v=>sa<|v=.func (.yield<|lOf<|y5<|vs o) #[] #[]
def xN(P:Program)(vs:Nat->Value)(d:Dv)(v:Value)(i:Nat):FF where
 p S w:=match i with
  |0=>(vo P vs d v).p S w
  |i+1=>∃us u,v=.tuple us/\us[i]? =some u/\(vo P vs d u).p S w
 keep:=by
  intro S w w' h k
  cases i with
  |zero=>exact(vo P vs d v).keep h k
  |succ i=>obtain⟨us,u,h1,h2,h3⟩:=h;exact⟨us,u,h1,h2,(vo P vs d u).keep h3 k⟩
 sub:=by
  intro S S' w h k
  cases i with
  |zero=>exact(vo P vs d v).sub h k
  |succ i=>obtain⟨us,u,h1,h2,h3⟩:=h;exact⟨us,u,h1,h2,(vo P vs d u).sub h3 k⟩
def Qv(vs:Nat->Value)(e:Nat×Od):MF:=match e.2 with
 |.own t E xs=>mO t.rep E (vs e.1) xs
 |.var t E z=>mP t.rep.c E (vs e.1) z
 |.mat t E E1 xss ix=>mm t.rep E E1 (vs e.1) xss ix
 |.bo t E E0 xs=>mBo t.rep E E0 (vs e.1) xs
 |.ho E0=>mHo E0<|vs e.1
 |.hid t E X Y mX mY g x=>GG [mPr<|HV Tryz.prog (lOf<|y5<|vs e.1) t.rep E mX mY g,mX x<|(vg<|vs e.1).headD undef]
 |.hiy Y mY y=>mY y<|(vg<|vs e.1).headD undef
def MS(vs:Nat->Value)(ob:List (Nat×Od)):List MF:=ob.map<|Qv vs
def RS(P:Program)(vs:Nat->Value)(env:yR)(rg:List (Nat×Nat×Dv)):List FF:=rg.map fun e=>xN P vs e.2.2 (env e.1) e.2.1
structure Fr where
 we:World
 Se:Nat->Prop
 F:List MF
 G:List FF
structure Bd(cx σ:Sg):Prop where
 o1:∀e∈σ.ob,e.1<σ.nx
 o2:∀e∈cx.ob,e.1<σ.nx
 r1:∀e∈σ.rg,∀o,wu e.2.2=some o->o<σ.nx
 r2:∀e∈cx.rg,∀o,wu e.2.2=some o->o<σ.nx
def Zc(P:Program)(fr:Fr)(cx σ:Sg)(env:yR)(w:World):Prop:=
 Bd cx σ/\∃vs:Nat->Value,St fr.we fr.Se (MS vs σ.ob++(MS vs cx.ob++fr.F)) (RS P vs env σ.rg++(RS P vs env cx.rg++fr.G)) w
section
variable{P:Program}{vs vs':Nat->Value}{env env':yR}
theorem dK{d:Dv}(h:∀o,wu d=some o->vs' o=vs o)(v:Value):vo P vs' d v=vo P vs d v:=by
 cases d<;>simp only[vo]<;>simp only[wu,xay,forall_eq']at h<;>rw[h]
theorem wa:∀{ob:List (Nat×Od)},(∀e∈ob,vs' e.1=vs e.1)->MS vs' ob=MS vs ob
 |[],_=>rfl
 |(o,x)::r,h=>by
  have h1:=h (o,x)<|FS;have h2:=wa (ob:=r) fun e he=>h e<|UV _ he;show Qv vs' (o,x)::MS vs' r=Qv vs (o,x)::MS vs r;rw[h2];cases x<;>simp only[Qv]<;>rw[h1]
theorem qU:∀{rg:List (Nat×Nat×Dv)},(∀e∈rg,∀o,wu e.2.2=some o->vs' o=vs o)->(∀e∈rg,env' e.1=env e.1)->RS P vs' env' rg=RS P vs env rg
 |[],_,_=>rfl
 |(t,i,d)::r,h,h'=>by
  show xN P vs' d (env' t) i::RS P vs' env' r=xN P vs d (env t) i::RS P vs env r;rw[qU (rg:=r) (fun e he=>h e<|UV _ he)<|fun e he=>h' e<|UV _ he,h' (t,i,d)<|FS];congr 1;unfold xN;simp only[dK (P:=P)<|h (t,i,d)<|FS]
theorem jH{S:Nat->Prop}{w:World}:∀{Γ:List FF},zD S Γ w↔∀f∈Γ,f.p S w
 |[]=>⟨fun _ f h=>absurd h IR,fun _=>trivial⟩
 |f::r=>by
  have ih:=jH (S:=S) (w:=w) (Γ:=r);constructor
  ·intro h x hx;rcases xad.1 hx with rfl|hx
   ·exact h.1
   ·exact ih.1 h.2 x hx
  ·intro h;exact⟨h f<|FS,ih.2 fun x hx=>h x<|UV _ hx⟩
theorem yc{a b:Nat}(h:xao a b=true):a=b:=xcM h
theorem nY:∀{rg:List (Nat×Nat×Dv)}{t i:Nat}{d:Dv},dk rg t i=some d->(t,i,d)∈rg
 |(t',i',d')::r,t,i,d,h=>by
  unfold dk at h;cases hb:xao t' t && xao i' i
  ·rw[hb]at h;exact UV _<|nY h
  ·rw[hb]at h;simp only[cond_true,xay]at h;rw[xam]at hb;rw[<-h,yc hb.1,yc hb.2];exact FS
theorem Ju{S:Nat->Prop}{w:World}{rg:List (Nat×Nat×Dv)}(h:zD S (RS P vs env rg) w){t i:Nat}{d:Dv}(hd:(t,i,d)∈rg):(xN P vs d (env t) i).p S w:=
 jH.1 h _ (xap.2 ⟨(t,i,d),hd,rfl⟩)
theorem wQ:∀{ob:List (Nat×Od)}{o:Nat}{x:Od},xR ob o=some x->∃i,ob[i]? =some (o,x)/\(∀y,kI ob o y=ob.set i (o,y))/\yG ob o=ob.eraseIdx i
 |(o',x')::r,o,x,h=>by
  unfold xR at h;cases hb:xao o' o
  ·rw[hb]at h;obtain⟨i,h1,h2,h3⟩:=wQ (ob:=r) h;exact⟨i+1,by simpa using h1,fun y=>by unfold kI;rw[hb];simp only[cond_false,List.set_cons_succ,h2 y],by unfold yG;rw[hb];simp only[cond_false,List.eraseIdx_cons_succ,h3]⟩
  ·rw[hb]at h;simp only[cond_true,xay]at h;have:=yc hb;subst h;subst this;exact⟨0,rfl,fun y=>by unfold kI;rw[hb];rfl,by unfold yG;rw[hb];rfl⟩
theorem W8{ob:List (Nat×Od)}{i:Nat}{e:Nat×Od}{R:List MF}(h:ob[i]? =some e):(MS vs ob++R)[i]? =some (Qv vs e):=by grind [MS,xau,xbq]
theorem te{ob:List (Nat×Od)}{i:Nat}{e e':Nat×Od}{R:List MF}(h:ob[i]? =some e):(MS vs ob++R).set i (Qv vs e')=MS vs (ob.set i e')++R:=by grind [MS,xau,List.set_append_left,List.map_set]
theorem zbS{α:Type _}{β:Type _}(f:α->β):∀(l:List α) (i:Nat),(l.eraseIdx i).map f=(l.map f).eraseIdx i
 |[],i=>by simp
 |_::_,0=>rfl
 |a::l,i+1=>by simp only[List.eraseIdx_cons_succ,xbZ,zbS f l i]
theorem KI{ob:List (Nat×Od)}{i:Nat}{e:Nat×Od}{R:List MF}(h:ob[i]? =some e):(MS vs ob++R).eraseIdx i=MS vs (ob.eraseIdx i)++R:=by grind [MS,zbS,xau,List.eraseIdx_append_of_lt_length]
theorem Tw{cx σ:Sg}{o:Nat}{x:Od}(h:Jf cx σ o=some x):(o,x)∈σ.ob\/(o,x)∈cx.ob:=by grind [Jf,wQ,xbx]
theorem Fv{cx σ:Sg}{t i:Nat}{d:Dv}(h:get cx σ t i=some d):(t,i,d)∈σ.rg\/(t,i,d)∈cx.rg:=by grind [get,nY]
theorem uR{S:Nat->Prop}{w:World}{cx σ:Sg}{o:Nat}{x:Od}{F:List MF}(hM:yB S (MS vs σ.ob++(MS vs cx.ob++F)) w)(h:Jf cx σ o=some x):(Qv vs (o,x)).p S w:=by
 refine ur.1 hM _ ?_;rcases Tw h with h|h
 ·exact Nm.2 (.inl<|xap.2 ⟨_,h,rfl⟩)
 ·exact Nm.2 (.inr<|Nm.2 (.inl<|xap.2 ⟨_,h,rfl⟩))
end
theorem yo{R:Type}{s t:Ty}{x:s.D}{k:t.D->Option R}{r:R}(h:Ty.cast s t x k=some r):∃e:s=t,k (e▸x)=some r:=by grind [Ty.cast]
theorem yn{R:Type}{b:Bool}{x:Option R}{r:R}(h:kQ b x=some r):b=true/\x=some r:=by grind
end
section
open Go.ChangeShapes Go.WideShapes Go.ChangeAt Go.RowKit
def Va(P:Program):Ty->TypeId->Prop
 |.i,T=>P.underlying T=some (.int .i64)
 |.u,T=>P.underlying T=some (.int .u64)
 |.b,T=>P.underlying T=some .bool
 |.l t,T=>∃E,P.underlying T=some (.slice E)/\P.cellsOf E=t.n/\0<t.n/\Va P t E
 |.p s t,T=>∃f0 f1:Field,P.underlying T=some (.struct #[f0,f1])/\P.cellsOf T=s.n+t.n/\f0.offset=0/\f1.offset=s.n/\P.cellsOf f0.type=s.n/\P.cellsOf f1.type=t.n/\Va P s f0.type/\Va P t f1.type
 |.ch,T=>P.underlying T=some (.int .u8)
 |.tx,T=>P.underlying T=some .string
 |.a _ _,_=>False
def zjj(P:Program)(T:TypeId):Option ((Nat×TypeId)×(Nat×TypeId)):=match P.underlying T with
 |some (.struct fs)=>match fs.toList with
  |[f0,f1]=>some ((f0.offset,f0.type),(f1.offset,f1.type))
  |_=>none
 |_=>none
theorem Va.st{P:Program}{s t:Ty}{T A B:TypeId}(h:zjj P T=some ((0,A),(s.n,B)))(hc:P.cellsOf T=s.n+t.n)(ha:P.cellsOf A=s.n)(hb:P.cellsOf B=t.n)(h1:Va P s A)(h2:Va P t B):Va P (.p s t) T:=by
 unfold zjj at h;split at h
 ·next fs hu=>
  split at h
  ·next f0 f1 hf=>
   simp only[xay,xcx]at h;obtain⟨⟨a1,a2⟩,a3,a4⟩:=h;have:fs= #[f0,f1]:=by cases fs;simp_all
   subst this;exact⟨f0,f1,hu,hc,a1,a3,by rw[a2];exact ha,by rw[a4];exact hb,by rw[a2];exact h1,by rw[a4];exact h2⟩
  ·cases h
 ·cases h
theorem Va.sl{P:Program}{t:Ty}{T E:TypeId}(h:P.underlying T=some (.slice E))(hc:P.cellsOf E=t.n)(hp:0<t.n)(h1:Va P t E):Va P (.l t) T:=⟨E,h,hc,hp,h1⟩
theorem BY{w:World}{base n:Nat}{a:Addr}{c:List Value}(h:w.cells? base a n=some c):c.length=n/\∀i v,c[i]? =some v->w.cell? (a.add i)=some v:=by
 unfold World.cells? at h;split at h
 ·have:∀(l:List Nat) (c:List Value),l.mapM (fun i=>w.cell?<|a.add i)=some c->c.length=l.length/\∀(i j:Nat) (v:Value),c[i]? =some v->l[i]? =some j->w.cell? (a.add j)=some v:=by
   intro l
   induction l with
   |nil=>intro c hc;simp at hc;subst hc;exact⟨rfl,fun i j v hv=>by simp at hv⟩
   |cons x l ih=>
    intro c hc;rw[List.mapM_cons]at hc
    cases hx:w.cell? (a.add x)with
    |none=>rw[hx]at hc;simp at hc
    |some y=>
     rw[hx]at hc
     cases hl:l.mapM (fun i=>w.cell?<|a.add i)with
     |none=>rw[hl]at hc;simp at hc
     |some r=>
      rw[hl]at hc;have hc:y::r=c:=by simpa using hc
      subst hc;obtain⟨h1,h2⟩:=ih r hl;refine⟨by simp[h1],fun i j v hv hj=> ?_⟩
      cases i with
      |zero=>simp at hv hj;subst hv;subst hj;exact hx
      |succ i=>exact h2 i j v (by simpa using hv)<|by simpa using hj
  obtain⟨h1,h2⟩:=this _ _ h;refine⟨by simpa using h1,fun i v hv=>h2 i i v hv ?_⟩;have:=(xau.1 hv).1;rw[xby<|by rw[h1]at this;simpa using this]
 ·cases h
theorem RZ{w:World}{a:Addr}{v:Value}(h:w.cell? a=some v):a=⟨a.block,a.off,none⟩/\a.block<w.heap.size:=by
 unfold World.cell? at h;split at h
 ·next c _ _ hb=>
  split at h
  ·cases h
  ·next hs=>
   refine⟨?_,(xbm.1 hb).1⟩;obtain⟨b,o,s⟩:=a
   cases s with
   |none=>rfl
   |some x=>simp at hs
 ·cases h
theorem zf5(a:Addr):a.add 0=a:=by grind [Addr.add]
section
variable{H:Type}{enc:TypeId×Value->H}{P:Program}{W:World}{sp:Nat->Bool}{held:Bool}
theorem Gw{t:Ty}{b o:Nat}(hb:b<W.heap.size):∀(len:Nat),(∀i,i<len->∃(c:List Value) (z:t.D),W.cells? 0 (⟨b,o+i*t.n,none⟩:Addr) t.n=some c/\t.rep.p (fun _=>True) z c W)->
 ∃(xs:List t.D) (cs:List Value),xs.length=len/\At W b o cs/\yx t.rep (fun _=>True) xs cs W
 |0,_=>⟨[],[],rfl,⟨hb,fun j v hv=>by simp at hv⟩,rfl⟩
 |len+1,h=>by
  obtain⟨xs,cs,h1,h2,h3⟩:=Gw hb len fun i hi=>h i (by lia);obtain⟨c,z,h4,h5⟩:=h len (by lia);obtain⟨h6,h7⟩:=BY h4;have hl:=h3.len;rw[h1,Ty.n_rep]at hl;refine⟨xs++[z],cs++c,by simp[h1],⟨hb,fun j v hv=> ?_⟩,h3.append ⟨c,[],by simp,h5,rfl⟩⟩;rcases xcf j cs.length with hj|hj
  ·rw[xbq hj]at hv;exact h2.2 j v hv
  ·rw[xcn hj]at hv;have:=h7 _ v hv;rw[vU]at this;rw[<-this];congr 2;lia
theorem fU:∀(t:Ty) {T:TypeId}{n:Nat}{cs:List Value}{x:DataW H×List MemPlace},Va P t T->DataW.trod enc P W 0 sp held n T cs=some x->∃z:t.D,t.rep.p (fun _=>True) z cs W
 |.i,T,n,cs,x,ht,h=>by
  obtain⟨v,rfl,_,hw⟩:=DataW.trod_int ht h;have: -9223372036854775808<=v/\v<=9223372036854775807:=by simpa[Lit.wf,IntKind.min,IntKind.max,xdR,xew]using hw
  exact⟨v,rfl,this.1,this.2⟩
 |.u,T,n,cs,x,ht,h=>by
  obtain⟨v,rfl,_,hw⟩:=DataW.trod_int ht h;have:0<=v/\v<=18446744073709551615:=by simpa[Lit.wf,IntKind.min,IntKind.max,xdR,xew]using hw
  obtain⟨k,rfl⟩:=xaA this.1;exact⟨k,rfl,by lia⟩
 |.ch,T,n,cs,x,ht,h=>by
  obtain⟨v,rfl,_,hw⟩:=DataW.trod_int ht h;have:0<=v/\v<=255:=by simpa[Lit.wf,IntKind.min,IntKind.max,xdR,xew]using hw
  obtain⟨k,rfl⟩:=xaA this.1;exact⟨k,rfl,by lia⟩
 |.tx,T,n,cs,x,ht,h=>by
  obtain⟨s,rfl,_,hs⟩:=DataW.trod_string ht h;exact⟨yQ s,s,rfl,rfl,hs⟩
 |.b,T,n,cs,x,ht,h=>by
  obtain⟨v,rfl,_⟩:=DataW.trod_bool ht h;exact⟨v,rfl⟩
 |.l t,T,n,cs,x,ht,h=>by
  obtain⟨E,hu,hc,hf,hE⟩:=ht;rcases DataW.trod_slice hu h with⟨rfl,_⟩|⟨a,len,cap,elems,rest,m,_,rfl,_,_,hj,hd,hg,he,_,_⟩
  ·exact⟨[],_,rfl,SN.nil⟩
  ·rw[hc]at he;have key:∀i,i<len->∃(c:List Value) (z:t.D),W.cells? 0 (a.add<|i*t.n) t.n=some c/\t.rep.p (fun _=>True) z c W:=by
    intro i hi;have h1:=he i hi;rw[xaa<|by lia]at h1;obtain⟨c,h2,h3⟩:=Option.bind_eq_some_iff.1 h1;obtain⟨z,hz⟩:=fU t hE h3;exact⟨c,z,h2,hz⟩
   rcases xcv len with h0|h0
   ·subst h0;exact⟨[],_,rfl,some a,cap,rfl,xah _,hd,.inl rfl⟩
   ·obtain⟨c,z,h1,h2⟩:=key 0 h0;obtain⟨h3,h4⟩:=BY h1;have h5:=h4 0 (c[0]'(by lia)) (xaa<|by lia);rw[xcs,zf5,zf5]at h5;obtain⟨ha,hb⟩:=RZ h5;rw[ha]at key;obtain⟨xs,cs,g1,g2,g3⟩:=Gw (t:=t) (b:=a.block) (o:=a.off) hb len fun i hi=>by
     have:=key i hi;rw[vU]at this;exact this
    refine⟨xs,_,rfl,some a,cap,by rw[g1],by lia,hd,.inr ⟨a.block,a.off,cs,by rw[<-ha],trivial,g2,g3⟩⟩
 |.p s t,T,n,cs,x,ht,h=>by
  obtain⟨f0,f1,hu,hc,o0,o1,c0,c1,h0,h1⟩:=ht;obtain⟨y0,y1,m,_,hl,g0,g1⟩:=trod_struct2 hu h;rw[o0,c0,List.drop_zero]at g0;rw[o1,c1]at g1;obtain⟨z0,k0⟩:=fU s h0 g0;obtain⟨z1,k1⟩:=fU t h1 g1;refine⟨(z0,z1),cs.take s.n,(cs.drop s.n).take t.n,?_,k0,k1⟩;rw[hc]at hl;have e:(cs.drop s.n).take t.n=cs.drop s.n:=xaQ (by simp;lia);rw[e,xbH]
 |.a _ _,_,_,_,_,ht,_=>ht.elim
theorem zcc{t:Ty}{T:TypeId}{v:Value}{d:DataW H}{ps:List MemPlace}(ht:Va P t T)(hv:v=t.rep.val v.cells.toList)(h:DataW.Trod enc P W 0 sp held T v d ps):∃z:t.D,(fV t.rep z v).p (fun _=>True) W:=by
 obtain⟨n,h⟩:=h;obtain⟨z,hz⟩:=fU t ht h;exact⟨z,_,hv,hz⟩
end
theorem zbQ{P:Program}{s:VF}(h:y9 P s)(hk:s.bk=0)(hc:s.cod=[.d .b])(x:UI s.dom)(hM:s.M x=some (hc▸true:dq s.cod)){vs:List Value}(hl:vs.length=s.dom.length)(ha:Y9 s.dom x vs=[]){W:World}(hΓ:zD (fun _=>True) (ua P s.dom x vs) W):
 Calls P s.f vs.toArray W fun e W'=>e=.returned (.bool true)/\QF W W':=by
 obtain⟨f,dom,cod,M,bk⟩:=s;simp only at hc hk;subst hc;subst hk;have h1:=h.2 x true hM vs hl W (fun _=>True) [] [] W;simp only[ha,xbA,xbQ]at h1;refine(h1 ⟨yw.refl _ _,fun _ _=>trivial,trivial,fun _=>True,fun _ _=>trivial,fun _ _=>trivial,fun m hm=>absurd hm IR,trivial,hΓ⟩).mono ?_;rintro e w' ⟨us,he,hb,hs⟩;obtain⟨hx,_,_,S,_,_,_,_,hf⟩:=hs;refine⟨?_,hx⟩
 match us,hb with
 |[u],_=>
  have:u=.bool true:=gj (show(fV Lf true u).p S w' from hf.1);rw[he,this];rfl
end
section
open Go.ChangeShapes Go.WideShapes Go.ChangeAt Go.RowKit
section
variable{H:Type}{enc:TypeId×Value->H}{P:Program}{W:World}{sp:Nat->Bool}{held:Bool}
theorem zhK{r:Reach}{b0:Nat}:∀(t:Ty) {T:TypeId}{v:Value},Va P t T->xee P W r b0 T v->v=t.rep.val v.cells.toList
 |.i,T,v,ht,h=>by obtain⟨n,rfl⟩:=okWide_int ht h;rfl
 |.u,T,v,ht,h=>by obtain⟨n,rfl⟩:=okWide_int ht h;rfl
 |.ch,T,v,ht,h=>by obtain⟨n,rfl⟩:=okWide_int ht h;rfl
 |.tx,T,v,ht,h=>by
  have ht:P.underlying T=some .string:=ht;simp only[xee,ht,Cell.okWide]at h;unfold Cell.ok at h;rw[ht]at h;cases v<;>simp at h;rfl
 |.b,T,v,ht,h=>by
  have ht:P.underlying T=some .bool:=ht;simp only[xee,ht,Cell.okWide]at h;unfold Cell.ok at h;rw[ht]at h;cases v<;>simp at h;rfl
 |.l t,T,v,ht,h=>by
  obtain⟨E,ht,_⟩:=ht;simp only[xee,ht,Cell.okWide]at h;unfold Cell.ok at h;rw[ht]at h;cases v<;>simp at h;rfl
 |.p s t,T,v,ht,h=>by
  obtain⟨f0,f1,ht,_⟩:=ht;simp only[xee,ht]at h;obtain⟨cs,rfl,_⟩:=h;show Value.agg cs=Value.agg cs.toList.toArray;simp
 |.a _ _,T,v,ht,_=>ht.elim
theorem zc0{r:Reach}{b0:Nat}{t:Ty}{T:TypeId}{v:Value}{d:DataW H}{ps:List MemPlace}(ht:Va P t T)(hv:xee P W r b0 T v)(h:DataW.Trod enc P W 0 sp held T v d ps):∃z:t.D,(fV t.rep z v).p (fun _=>True) W:=
 zcc ht (zhK t ht hv) h
def Ty.ok:(t:Ty)->t.D->Prop
 |.i,(x:Int)=> -9223372036854775808<=x/\x<=9223372036854775807
 |.u,(x:Nat)=>x<18446744073709551616
 |.b,_=>True
 |.ch,(x:Nat)=>x<256
 |.tx,xs=>xaI xs<=9223372036854775807/\∀x,List.Mem x xs->x<256
 |.l t,xs=>xaI xs<=9223372036854775807/\∀x,List.Mem x xs->t.ok x
 |.p s t,x=>s.ok x.1/\t.ok x.2
 |.a _ t,xs=>∀x,List.Mem x xs->t.ok x
theorem sS{α:Type}{e:z7 α}{S:Nat->Prop}{w:World}{q:α->Prop}(hq:∀x cs,e.p S x cs w->q x):∀{xs:List α}{cs:List Value},yx e S xs cs w->∀x,List.Mem x xs->q x
 |[],_,_,x,hx=>nomatch hx
 |y::ys,_,⟨c,r,_,hc,hr⟩,x,hx=>by
  cases hx with
  |head=>exact hq _ _ hc
  |tail _ hx=>exact sS hq hr x hx
theorem pN:∀(t:Ty) {S:Nat->Prop}{z:t.D}{cs:List Value}{w:World},t.rep.p S z cs w->t.ok z
 |.i,_,_,_,_,h=>h.2
 |.u,_,_,_,_,h=>h.2
 |.b,_,_,_,_,_=>trivial
 |.ch,_,_,_,_,h=>h.2
 |.tx,_,xs,_,_,h=>by
  obtain⟨s,_,h1,h2⟩:=h;have h3:=qv s;have h1:yQ s=xs:=h1;refine⟨by show xaI (α:=Nat) xs<=_;rw[<-h1,h3];exact h2,fun x hx=> ?_⟩;have hx:x∈yQ s:=by rw[h1];exact hx
  obtain⟨b,_,rfl⟩:=xap.1 hx;exact UInt8.toNat_lt _
 |.l t,S,xs,_,w,h=>by
  obtain⟨v,_,ao,cap,_,h1,h2,h3⟩:=h;refine⟨xan h1 h2,?_⟩;rcases h3 with h3|⟨b,o,cs,_,_,_,h4⟩
  ·have h3:xs=([]:List t.D):=h3;subst h3;exact fun x hx=>nomatch hx
  ·exact sS (fun x cs hx=>pN t hx) h4
 |.p s t,S,z,_,w,h=>by
  obtain⟨c,d,_,h1,h2⟩:=h;exact⟨pN s h1,pN t h2⟩
 |.a k t,S,xs,_,w,h=>by
  obtain⟨_,h⟩:=h;exact sS (fun x cs hx=>pN t hx) h
def Tv:(dom:List AM)->UI dom->Prop
 |[],_=>True
 |.d t::r,x=>t.ok x.1/\Tv r x.2
 |_::r,x=>Tv r x.2
def IU(P:Program):List AM->List TypeId->Prop
 |[],[]=>True
 |.d t::r,T::Ts=>Va P t T/\IU P r Ts
 |_,_=>False
theorem Oa:∀{dom:List AM}{Ts:List TypeId},IU P dom Ts->dom.length=Ts.length
 |[],[],_=>rfl
 |.d t::r,T::Ts,h=>by simp[Oa h.2]
 |.d _::_,[],h=>h.elim
 |[],_::_,h=>h.elim
 |.q _::_,_,h=>h.elim
 |.own _ _::_,_,h=>h.elim
 |.fn _ _::_,_,h=>h.elim
theorem zc1:∀{dom:List AM}{Ts:List TypeId},IU P dom Ts->∀(x:UI dom) (vs:List Value),Y9 dom x vs=[]
 |[],_,_,_,_=>rfl
 |.d t::r,T::Ts,h,x,vs=>by show[]++Y9 r x.2 vs.tail=[];rw[zc1 h.2];rfl
 |.d _::_,[],h,_,_=>h.elim
 |.q _::_,_,h,_,_=>h.elim
 |.own _ _::_,_,h,_,_=>h.elim
 |.fn _ _::_,_,h,_,_=>h.elim
theorem Cn{r:Reach}{b0:Nat}:∀{dom:List AM}{Ts:List TypeId}{vs:List Value}{ds:List (DataW H)}{ps:List MemPlace},IU P dom Ts->(∀(j:Nat) t v,Ts[j]? =some t->vs[j]? =some v->xee P W r b0 t v)->xeH enc P W 0 sp held Ts vs ds ps->
 vs.length=Ts.length/\∃x:UI dom,Tv dom x/\zD (fun _=>True) (ua P dom x vs) W
 |[],[],[],[],_,_,_,_=>⟨rfl,(),trivial,trivial⟩
 |.d t::dom,T::Ts,v::vs,d::ds,ps,h,hv,ha=>by
  obtain⟨p,q,h1,h2,_⟩:=ha;obtain⟨hl,x,hc,hx⟩:=Cn (vs:=vs) (ds:=ds) h.2 (fun j t' v' ht hd=>hv (j+1) t' v' (by simpa using ht)<|by simpa using hd) h2;obtain⟨z,hz⟩:=zc0 h.1 (hv 0 T v rfl rfl) h1;obtain⟨cs,he,hb⟩:=hz;exact⟨by simp[hl],(z,x),⟨pN t hb,hc⟩,⟨cs,he,hb⟩,hx⟩
 |[],[],_::_,_,_,_,_,h=>h.elim
 |[],[],[],_::_,_,_,_,h=>h.elim
 |.d _::_,_::_,[],_,_,_,_,h=>h.elim
 |.d _::_,_::_,_::_,[],_,_,_,h=>h.elim
 |.d _::_,[],_,_,_,h,_,_=>h.elim
 |[],_::_,_,_,_,h,_,_=>h.elim
 |.q _::_,_,_,_,_,h,_,_=>h.elim
 |.own _ _::_,_,_,_,_,h,_,_=>h.elim
 |.fn _ _::_,_,_,_,_,h,_,_=>h.elim
theorem Tf{W':World}(hx:QF W W'){p:MemPlace}(hp:p.block<W.heap.size):W.sameAt W' p:=by
 cases p with
 |cell b off=>exact World.cell?_of_block (a:=⟨b,off,none⟩)<|hx.block b hp trivial
 |map b=>exact hx.block b hp trivial
theorem b5{W':World}{sp':Nat->Bool}(hl:laidOutB P=true):∀{Ts:List TypeId}{vs:List Value}{ds:List (DataW H)}{ps:List MemPlace},(∀t∈Ts,P.readableRec t=true/\t<P.types.size)->xeH enc P W 0 (fun _=>true) true Ts vs ds ps->
 (∀p∈ps,W.sameAt W' p)->(∀p∈ps,sp' p.block=true)->xeH enc P W' 0 sp' true Ts vs ds ps
 |[],[],[],_,_,h,_,_=>h
 |T::Ts,v::vs,d::ds,ps,hr,h,h1,h2=>by
  obtain⟨p,q,g1,g2,rfl⟩:=h;have hT:=hr T<|FS
  exact⟨p,q,Go.WideElems.Trod_stays hl hT.1 hT.2 g1 (fun x hx=>h1 x<|Nm.2 (.inl hx))<|fun x hx=>h2 x<|Nm.2 (.inl hx),
   b5 hl (fun t ht=>hr t<|UV _ ht) g2 (fun x hx=>h1 x<|Nm.2 (.inr hx)) (fun x hx=>h2 x<|Nm.2 (.inr hx)),rfl⟩
 |[],[],_::_,_,_,h,_,_=>h.elim
 |[],_::_,_,_,_,h,_,_=>h.elim
 |_::_,[],_,_,_,h,_,_=>h.elim
 |_::_,_::_,[],_,_,h,_,_=>h.elim
end
theorem zff{H:Type}{enc:TypeId×Value->H}{P:Program}{f:Func}{s:ChangeSpec}{apart fresh ha:Bool}{W:World}{base:Nat}{args:Array Value}{ds gs:List (DataW H)}{before:List MemPlace}{sg:VF}
 (hW:DataW.Whole enc P f.params.toList s.vars apart W args.toList ds gs before) (hb:s.vars=[]) (hi:∀(j:Nat) t v,f.params[j]? =some t->args[j]? =some v->xee P W .any base t v)
 (hl:laidOutB P=true) (hr:∀t∈f.params.toList,P.readableRec t=true/\t<P.types.size) (he:IU P sg.dom f.params.toList) (hc:sg.cod=[.d .b]) (hS:y9 P sg) (hM:∀x,Tv sg.dom x->sg.M x=some (hc▸true:dq sg.cod)) {B:TypeId} (hB:f.resultTypes= #[B]) (hm:P.underlying B=some .bool)
 (hg:s.fn H (ds++gs)={results:=[.lit (.bool true)],args:=ds}) (hk:sg.bk=0:=by rfl):
 Calls P sg.f args W fun e W'=>∃v,e=.returned v/\s.post enc P f apart fresh ha false W args v W':=by
 obtain⟨p,q,hA,hV,hn,hw,hy⟩:=id hW;rw[hb]at hV
 cases gs with
 |cons g gs=>exact hV.elim
 |nil=>
  have hq:q=[]:=hV;subst hq;obtain⟨hj,x,ho,hx⟩:=Cn (vs:=args.toList) he (fun j t v ht hv=>hi j t v (by simpa using ht)<|by simpa using hv) hA;refine(zbQ hS hk hc x (hM x ho) (vs:=args.toList) (by rw[hj,Oa he]) (zc1 he x _) hx).mono ?_;rintro e W' ⟨rfl,hf⟩;refine⟨_,rfl,zci (pa:=before) (pv:=[]) hW (fun b sp hd=> ?_) (fun sp hs=> ?_) (fun sp _=> ?_) (by simp) hf⟩
  ·rw[hB,hg];exact⟨[],[],shut_bool hm _,rfl,rfl⟩
  ·rw[hg];have hu:xeH enc P W 0 (fun _=>true) true f.params.toList args.toList ds before:=by rw[hn,xbQ];exact hA
   exact b5 hl hr hu (fun p hp=>Tf hf<|hW.lt p hp) hs
  ·rw[hb,hg];rfl
end
section
def zjy:Operand->Option Tmp
 |.tmp t=>some t
 |_=>none
def yD(op:Op):List Tmp:=op.operands.toList.filterMap zjy
def Lk(P:Program)(vs:Nat->Value)(env:yR)(S:Nat->Prop)(w:World)(cx σ:Sg)(t:Tmp):Prop:=
 ∀i d,get cx σ t i=some d->(xN P vs d (env t) i).p S w
def Ya(P:Program)(vs:Nat->Value)(env:yR)(S:Nat->Prop)(w:World)(cx σ:Sg)(x:Operand):Prop:=∀t,zjy x=some t->Lk P vs env S w cx σ t
def ES(P:Program)(o:Oper)(cx σ:Sg)(F:List MF)(l:List (Nat×Dv)):Prop:=
 ∀(env:yR) (w:World) (S:Nat->Prop) (vs:Nat->Value),(∀k,w.heap.size<=k->S k)->yB S (MS vs σ.ob++(MS vs cx.ob++F)) w->(∀t∈yD o.op,Lk P vs env S w cx σ t)->
  kF P o env w (fun v w'=>QF w w'/\∀e∈l,(xN P vs e.2 v e.1).p S w')
section
variable{P:Program}{cf:Cf}{cx σ:Sg}{F:List MF}{vs:Nat->Value}{env:yR}{S:Nat->Prop}{w:World}{R:Type}{r:R}
 {d:Option Tmp}{ty t yt:TypeId}{pos:String}{aft:Array Edge}{g:Option (Nat×Bool)}{x y:Operand}
theorem yN{op:Op}(h:∀t∈yD op,Lk P vs env S w cx σ t)(hx:x∈op.operands.toList):Ya P vs env S w cx σ x:=
 fun t ht=>h t<|xfe.2 ⟨x,hx,ht⟩
theorem zn{v:Dv}(h:x8 cx σ x=some v)(hl:Ya P vs env S w cx σ x):(vo P vs v<|ev env x).p S w:=by
 cases x with
 |tmp t=>exact hl t rfl 0 v h
 |const c=>
  simp only[x8]at h;unfold cv at h;split at h
  ·split at h
   ·next hx=>cases h;exact xO hx
   ·cases h
  ·split at h
   ·next x hx=>
    cases h;have:(x.toNat:Int)=x:=xcZ hx.1;have h2:x.toNat<18446744073709551616:=by lia
    have:=qP (S:=S) (w:=w) h2;rwa[‹(x.toNat:Int)=x›]at this
   ·cases h
  ·cases h;exact rfl
  ·split at h
   ·next x hx=>
    cases h;have:(x.toNat:Int)=x:=xcZ hx.1;have h2:x.toNat<256:=by lia
    have:=Cu (S:=S) (w:=w) h2;rwa[‹(x.toNat:Int)=x›]at this
   ·cases h
  ·split at h
   ·next hx=>cases h;exact GV rfl hx
   ·cases h
  ·cases h;exact rfl
  ·cases h;exact rfl
  ·cases h
 |global g=>cases h
 |func f=>cases h;exact⟨[],rfl,rfl,trivial⟩
theorem Cc{v:Dv}{u:Value}{p:PD}(h:zfv v=some p)(hv:(vo P vs v u).p S w):(fV p.t.rep p.x u).p S w:=by
 cases v<;>simp only[zfv,xay,reduceCtorEq]at h
 ·subst h;exact hv
 ·subst h;rw[show u=_ from hv];exact n6
theorem er{p:PD}(h:pd cx σ x=some p)(hl:Ya P vs env S w cx σ x):(fV p.t.rep p.x<|ev env x).p S w:=by
 unfold pd at h
 cases hv:x8 cx σ x with
 |none=>rw[hv]at h;cases h
 |some v=>rw[hv]at h;exact Cc h<|zn hv hl
theorem xZ{a:Int}(h:pd cx σ x=some ⟨.i,a⟩)(hl:Ya P vs env S w cx σ x):ev env x=.int .i64 a/\VH a:=zg1<|er h hl
theorem xK{a:Nat}(h:pd cx σ x=some ⟨.u,a⟩)(hl:Ya P vs env S w cx σ x):ev env x=.int .u64 (a:Int)/\JM a:=Te<|er h hl
theorem Xm{a:Nat}(h:pd cx σ x=some ⟨.ch,a⟩)(hl:Ya P vs env S w cx σ x):ev env x=.int .u8 (a:Int)/\a<256:=zkm<|er h hl
theorem RY{a:List Nat}(h:pd cx σ x=some ⟨.tx,a⟩)(hl:Ya P vs env S w cx σ x):∃s:ByteArray,ev env x=.string s/\yQ s=a/\s.size<=9223372036854775807:=Ih<|er h hl
theorem zfm{a:Bool}(h:pd cx σ x=some ⟨.b,a⟩)(hl:Ya P vs env S w cx σ x):ev env x=.bool a:=gj<|er h hl
theorem zaY{v:Option Dv}{t:Ty}{k:t.D->Option R}(h:Bm v t k=some r):∃y:t.D,k y=some r/\∀(P:Program) vs S w (d:Dv) u,v=some d->(vo P vs d u).p S w->(fV t.rep y u).p S w:=by
 unfold Bm at h;split at h
 ·next=>
  cases t<;>simp only[reduceCtorEq]at h;exact⟨_,h,fun P vs S w d u hd hh=>by cases hd;rw[show u=_ from hh];exact zcs⟩
 ·next v' hv=>
  split at h
  ·next p hp=>
   obtain⟨e,h⟩:=yo h;subst e;exact⟨_,h,fun P vs S w d u hd hh=>by cases hd;exact Cc hp hh⟩
  ·cases h
 ·cases h
theorem X5{t:Ty}{k:t.D->Option R}(h:Bm (x8 cx σ x) t k=some r):∃y:t.D,k y=some r/\∀(P:Program) vs env S w,Ya P vs env S w cx σ x->(fV t.rep y<|ev env x).p S w:=by
 obtain⟨y,h1,h2⟩:=zaY h;refine⟨y,h1,fun P vs env S w hl=> ?_⟩
 cases hv:x8 cx σ x with
 |none=>rw[hv]at h;cases h
 |some v=>exact h2 P vs S w v _ hv<|zn hv hl
theorem zG{o:Oper}{l:List (Nat×Dv)}(h:∀env w S vs,(∀t∈yD o.op,Lk P vs env S w cx σ t)->∃v,(execOp (ev env) o).run P w=.ok (.value v) w/\∀e∈l,(xN P vs e.2 v e.1).p S w):ES P o cx σ F l:=by
 intro env w S vs hS hM hl;obtain⟨v,h1,h2⟩:=h env w S vs hl;exact kF.of_value h1 ⟨yw.refl _ _,h2⟩
theorem zt{v:Value}{dv:Dv}(h:(vo P vs dv v).p S w):∀e∈[(0,dv)],(xN P vs e.2 v e.1).p S w:=by
 intro e he;rw[xai]at he;subst he;exact h
theorem kE{o:Oper}{l:List (Nat×Dv)}(h:∀env w S vs,yB S (MS vs σ.ob++(MS vs cx.ob++F)) w->(∀t∈yD o.op,Lk P vs env S w cx σ t)->∃(U:Type) (val:U->Value) (facts:U->List FF) (ok:U->Prop) (Γ:List FF) (ms:List MF),
 DK P o env ms Γ val facts ok/\yB S ms w/\zD S Γ w/\∀u w',ok u->zD S (facts u) w'->∀e∈l,(xN P vs e.2 (val u) e.1).p S w'):ES P o cx σ F l:=by
 intro env w S vs hS hM hl;obtain⟨U,val,facts,ok,Γ,ms,h1,ha,h2,h3⟩:=h env w S vs hM hl;refine(h1 w S hS ha h2).mono ?_;rintro v w' ⟨u,rfl,hu,hx,hf⟩;exact⟨hx,h3 u w' hu hf⟩
theorem GU:∀(f i:Nat) (t:Nat) (e:Nat×Dv),e∈zed cx σ t f i->get cx σ t e.1=some e.2
 |0,_,_,_,h=>absurd h IR
 |f+1,i,t,e,h=>by
  unfold zed at h;split at h
  ·next d hd=>
   rcases xad.1 h with rfl|h
   ·exact hd
   ·exact GU f (i+1) t e h
  ·exact absurd h IR
theorem zcT{op:Op}(ha:op=.move x\/op=.assign x){k:List (Nat×Dv)->Option R}(h:P7 cx σ x k=some r):∃l,k l=some r/\ES P ⟨d,op,ty,pos,aft,g⟩ cx σ F l:=by
 have hr:∀env w,(execOp (ev env) ⟨d,op,ty,pos,aft,g⟩).run P w=.ok (.value<|ev env x) w:=fun env w=>by rcases ha with rfl|rfl<;>exact cr rfl w
 have hm:x∈op.operands.toList:=by rcases ha with rfl|rfl<;>simp[xaM]
 unfold P7 at h;split at h
 ·next v hv=>exact⟨_,h,zG fun env w S vs hl=>⟨_,hr env w,zt<|zn hv<|yN hl hm⟩⟩
 ·unfold zi4 at h;split at h
  ·next t hx=>
   split at h
   ·cases h
   ·next l0 l hb=>
    exact⟨_,h,zG fun env w S vs hl=>⟨_,hr env w,fun e he=>yN hl hm t rfl _ _<|GU _ _ _ _ he⟩⟩
  ·cases h
theorem zjp{i:Nat}{k:List (Nat×Dv)->Option R}(h:zg7 cx σ x i k=some r):∃l,k l=some r/\ES P ⟨d,.extract x i,ty,pos,aft,g⟩ cx σ F l:=by
 unfold zg7 at h;split at h
 ·next t=>
  split at h
  ·next v hv=>
   refine⟨_,h,?_⟩;intro env w S vs hS hM hl;obtain⟨us,u,h1,h2,h3⟩:=yN hl (x:=.tmp t) (by simp[xaM]) t rfl (i+1) v hv;exact kF.of_value (v:=u) (cr (by simp only[pv,ev,h1];exact h2) w) ⟨yw.refl _ _,zt h3⟩
  ·cases h
 ·cases h
theorem mv1{k:List (Nat×Dv)->Option R}(h:zen cx σ x k=some r):∃v,x8 cx σ x=some v/\k [(0,v)]=some r:=by grind [zen]
theorem zgB{c:Operand}{k:List (Nat×Dv)->Option R}(h:zcQ cx σ c x y k=some r):∃l,k l=some r/\ES P ⟨d,.pick c x y,ty,pos,aft,g⟩ cx σ F l:=by
 unfold zcQ at h;split at h
 ·next hc=>
  obtain⟨v,hv,h⟩:=mv1 h;exact⟨_,h,zG fun env w S vs hl=>⟨_,zeh (zn hc<|yN hl<|by simp[xaM]) rfl w,zt<|zn hv<|yN hl<|by simp[xaM]⟩⟩
 ·next hc=>
  obtain⟨v,hv,h⟩:=mv1 h;exact⟨_,h,zG fun env w S vs hl=>⟨_,zeS (zn hc<|yN hl<|by simp[xaM]) rfl w,zt<|zn hv<|yN hl<|by simp[xaM]⟩⟩
 ·cases h
theorem zke{k:List (Nat×Dv)->Option R}(h:zhY cx σ x k=some r):∃l,k l=some r/\ES P ⟨d,.unOp .not t x,ty,pos,aft,g⟩ cx σ F l:=by
 unfold zhY at h;split at h
 ·next b hb=>exact⟨_,h,zG fun env w S vs hl=>⟨_,zgs (zn hb<|yN hl<|by simp[xaM]) w,zt<|by exact rfl⟩⟩
 ·next b hb=>exact⟨_,h,zG fun env w S vs hl=>⟨_,zgs (gj<|zn hb<|yN hl<|by simp[xaM]) w,zt<|by exact n6⟩⟩
 ·cases h
theorem zka{k:List (Nat×Dv)->Option R}(h:zhX cx σ x k=some r):∃l,k l=some r/\ES P ⟨d,.unOp .neg t x,ty,pos,aft,g⟩ cx σ F l:=by
 unfold zhX at h;split at h
 ·next a ha=>
  obtain⟨z,hz,hr,h⟩:=Ve h;exact⟨_,h,zG fun env w S vs hl=>⟨_,zga (xZ ha<|yN hl<|by simp[xaM]).1 (w_x hz hr) w,zt<|xO hr⟩⟩
 ·next a ha=>
  obtain⟨z,hz,h⟩:=xt h;exact⟨_,h,zG fun env w S vs hl=>by
   obtain⟨h1,h2⟩:=xK ha (yN hl<|by simp[xaM]);exact⟨_,zga h1 (cj hz<|zh0 h2) w,zt<|qP<|Y5 hz⟩⟩
 ·cases h
theorem LB{p:Prop}[Decidable p]{k:List (Nat×Dv)->Option R}(h:(if p then k [(0,.kb true)]else k [(0,.kb false)])=some r):k [(0,.kb<|decide p)]=some r:=by grind
theorem kbN{p:Prop}[Decidable p]{k:List (Nat×Dv)->Option R}(h:(if p then k [(0,.kb false)]else k [(0,.kb true)])=some r):k [(0,.kb (!decide p))]=some r:=by grind
theorem zkY{bo:BinOp}{a c:Int}{k:List (Nat×Dv)->Option R}(h:arI bo a c (fun v=>k [(0,v)])=some r)(ha:pd cx σ x=some ⟨.i,a⟩)(hc:pd cx σ y=some ⟨.i,c⟩):
 ∃l,k l=some r/\ES P ⟨d,.binOp bo t x y yt,ty,pos,aft,g⟩ cx σ F l:=by
 have hx:∀{vs env S w},(∀t'∈yD (.binOp bo t x y yt),Lk P vs env S w cx σ t')->Ya P vs env S w cx σ x:=fun hl=>yN hl (by simp[xaM]);have hy:∀{vs env S w},(∀t'∈yD (.binOp bo t x y yt),Lk P vs env S w cx σ t')->Ya P vs env S w cx σ y:=fun hl=>yN hl (by simp[xaM]);cases bo<;>simp only[arI,reduceCtorEq]at h
 case add=>obtain⟨z,hz,hr,h⟩:=Ve h;exact⟨_,h,zG fun env w S vs hl=>⟨_,pQ (xZ ha<|hx hl).1 (xZ hc<|hy hl).1 (w_x hz hr) w,zt<|xO hr⟩⟩
 case sub=>obtain⟨z,hz,hr,h⟩:=Ve h;exact⟨_,h,zG fun env w S vs hl=>⟨_,zbG (xZ ha<|hx hl).1 (xZ hc<|hy hl).1 (w_x hz hr) w,zt<|xO hr⟩⟩
 case mul=>obtain⟨z,hz,hr,h⟩:=Ve h;exact⟨_,h,zG fun env w S vs hl=>⟨_,zgc (xZ ha<|hx hl).1 (xZ hc<|hy hl).1 (w_x hz hr) w,zt<|xO hr⟩⟩
 case quo=>obtain⟨h0,h⟩:=kU h;obtain⟨z,hz,hr,h⟩:=Ve h;exact⟨_,h,zG fun env w S vs hl=>⟨_,zfK (xZ ha<|hx hl).1 (xZ hc<|hy hl).1 h0 (w_x hz hr) w,zt<|xO hr⟩⟩
 case rem=>obtain⟨h0,h⟩:=kU h;obtain⟨z,hz,h⟩:=xt h;exact⟨_,h,zG fun env w S vs hl=>⟨_,zfH (xZ ha<|hx hl).1 (xZ hc<|hy hl).1 h0 hz.symm w,zt<|xO<|zhI (xZ ha<|hx hl).2 hz⟩⟩
 case and=>obtain⟨z,hz,h⟩:=xt h;exact⟨_,h,zG fun env w S vs hl=>⟨_,zf0 (xZ ha<|hx hl).1 (xZ hc<|hy hl).1 (zdI.trans hz.symm) w,zt<|xO<|zaE hz<|zhu _ _⟩⟩
 case or=>obtain⟨z,hz,h⟩:=xt h;exact⟨_,h,zG fun env w S vs hl=>⟨_,ziI (xZ ha<|hx hl).1 (xZ hc<|hy hl).1 (zgR.trans hz.symm) w,zt<|xO<|zaE hz<|zjO _ _⟩⟩
 case shr=>obtain⟨h0,h⟩:=kU h;obtain⟨z,hz,h⟩:=xt h;exact⟨_,h,zG fun env w S vs hl=>⟨_,rQ (xZ ha<|hx hl).1 (xZ hc<|hy hl).1 h0 hz.symm w,zt<|xO<|zaG (xZ ha<|hx hl).2 hz⟩⟩
 case shl=>obtain⟨h0,h⟩:=kU h;obtain⟨z,hz,hr,h⟩:=Ve h;exact⟨_,h,zG fun env w S vs hl=>⟨_,N6 (xZ ha<|hx hl).1 (xZ hc<|hy hl).1 h0 (w_x hz hr) w,zt<|xO hr⟩⟩
 case lss=>exact⟨[(0,.kb<|decide<|a<c)],LB h,zG fun env w S vs hl=>⟨_,TA (xZ ha<|hx hl).1 (xZ hc<|hy hl).1 w,zt<|by exact rfl⟩⟩
 case leq=>exact⟨[(0,.kb<|decide<|a<=c)],LB h,zG fun env w S vs hl=>⟨_,zbj (xZ ha<|hx hl).1 (xZ hc<|hy hl).1 w,zt<|by exact rfl⟩⟩
 case gtr=>exact⟨[(0,.kb<|decide<|c<a)],LB h,zG fun env w S vs hl=>⟨_,zaI (xZ ha<|hx hl).1 (xZ hc<|hy hl).1 w,zt<|by exact rfl⟩⟩
 case geq=>exact⟨[(0,.kb<|decide<|c<=a)],LB h,zG fun env w S vs hl=>⟨_,zc3 (xZ ha<|hx hl).1 (xZ hc<|hy hl).1 w,zt<|by exact rfl⟩⟩
 case eql=>exact⟨[(0,.kb<|decide<|a=c)],LB h,zG fun env w S vs hl=>⟨_,TP (xZ ha<|hx hl).1 (xZ hc<|hy hl).1 w,zt<|by exact rfl⟩⟩
 case neq=>exact⟨[(0,.kb (!decide (a=c)))],kbN h,zG fun env w S vs hl=>⟨_,SP (xZ ha<|hx hl).1 (xZ hc<|hy hl).1 w,zt<|by exact rfl⟩⟩
theorem zle{bo:BinOp}{a c:Nat}{k:List (Nat×Dv)->Option R}(h:(match bo with
 |.shr=>SH .shr a c<|fun v=>k [(0,v)]
 |.shl=>SH .shl a c<|fun v=>k [(0,v)]
 |bo=>arU bo a c<|fun v=>k [(0,v)])=some r) (ha:pd cx σ x=some ⟨.u,a⟩) (hc:pd cx σ y=some ⟨.u,c⟩):
 ∃l,k l=some r/\ES P ⟨d,.binOp bo t x y yt,ty,pos,aft,g⟩ cx σ F l:=by
 have hx:∀{vs env S w},(∀t'∈yD (.binOp bo t x y yt),Lk P vs env S w cx σ t')->Ya P vs env S w cx σ x:=fun hl=>yN hl (by simp[xaM]);have hy:∀{vs env S w},(∀t'∈yD (.binOp bo t x y yt),Lk P vs env S w cx σ t')->Ya P vs env S w cx σ y:=fun hl=>yN hl (by simp[xaM]);split at h
 ·simp only[SH]at h;obtain⟨z,hz,h⟩:=xt h;exact⟨_,h,zG fun env w S vs hl=>⟨_,rQ (xK ha<|hx hl).1 (xK hc<|hy hl).1 (xdf _) (Rz hz eO) w,zt<|qP<|tc (xK ha<|hx hl).2 hz⟩⟩
 ·simp only[SH]at h;obtain⟨z,hz,h⟩:=xt h;exact⟨_,h,zG fun env w S vs hl=>⟨_,N6 (xK ha<|hx hl).1 (xK hc<|hy hl).1 (xdf _) (cj hz PQ) w,zt<|qP<|Y5 hz⟩⟩
 ·next hb hd=>
  cases bo<;>simp only[arU,reduceCtorEq]at h
  case add=>obtain⟨z,hz,h⟩:=xt h;exact⟨_,h,zG fun env w S vs hl=>⟨_,pQ (xK ha<|hx hl).1 (xK hc<|hy hl).1 (cj hz zdC) w,zt<|qP<|Y5 hz⟩⟩
  case sub=>obtain⟨z,hz,h⟩:=xt h;exact⟨_,h,zG fun env w S vs hl=>⟨_,zbG (xK ha<|hx hl).1 (xK hc<|hy hl).1 (cj hz<|zeQ<|xcS (xK hc<|hy hl).2) w,zt<|qP<|Y5 hz⟩⟩
  case mul=>obtain⟨z,hz,h⟩:=xt h;exact⟨_,h,zG fun env w S vs hl=>⟨_,zgc (xK ha<|hx hl).1 (xK hc<|hy hl).1 (cj hz ze0) w,zt<|qP<|Y5 hz⟩⟩
  case quo=>obtain⟨h0,h⟩:=kU h;obtain⟨z,hz,h⟩:=xt h;exact⟨_,h,zG fun env w S vs hl=>⟨_,zfK (xK ha<|hx hl).1 (xK hc<|hy hl).1 (zju h0) (cj hz<|SA (xK ha<|hx hl).2) w,zt<|qP<|tc (xK ha<|hx hl).2 hz⟩⟩
  case rem=>obtain⟨h0,h⟩:=kU h;obtain⟨z,hz,h⟩:=xt h;exact⟨_,h,zG fun env w S vs hl=>⟨_,zfH (xK ha<|hx hl).1 (xK hc<|hy hl).1 (zju h0) (Rz hz zks) w,zt<|qP<|zio (xK ha<|hx hl).2 hz⟩⟩
  case and=>obtain⟨z,hz,h⟩:=xt h;exact⟨_,h,zG fun env w S vs hl=>⟨_,zf0 (xK ha<|hx hl).1 (xK hc<|hy hl).1 (cj hz<|zdZ (xK ha<|hx hl).2 (xK hc<|hy hl).2) w,zt<|qP<|zg2 hz<|eZ (xK ha<|hx hl).2⟩⟩
  case or=>obtain⟨z,hz,h⟩:=xt h;exact⟨_,h,zG fun env w S vs hl=>⟨_,ziI (xK ha<|hx hl).1 (xK hc<|hy hl).1 (cj hz<|zgx (xK ha<|hx hl).2 (xK hc<|hy hl).2) w,zt<|qP<|zg2 hz<|oH (xK ha<|hx hl).2 (xK hc<|hy hl).2⟩⟩
  case lss=>exact⟨[(0,.kb<|decide<|(a:Int)<(c:Int))],LB h,zG fun env w S vs hl=>⟨_,TA (xK ha<|hx hl).1 (xK hc<|hy hl).1 w,zt<|by exact rfl⟩⟩
  case leq=>exact⟨[(0,.kb<|decide<|(a:Int)<=(c:Int))],LB h,zG fun env w S vs hl=>⟨_,zbj (xK ha<|hx hl).1 (xK hc<|hy hl).1 w,zt<|by exact rfl⟩⟩
  case gtr=>exact⟨[(0,.kb<|decide<|(c:Int)<(a:Int))],LB h,zG fun env w S vs hl=>⟨_,zaI (xK ha<|hx hl).1 (xK hc<|hy hl).1 w,zt<|by exact rfl⟩⟩
  case geq=>exact⟨[(0,.kb<|decide<|(c:Int)<=(a:Int))],LB h,zG fun env w S vs hl=>⟨_,zc3 (xK ha<|hx hl).1 (xK hc<|hy hl).1 w,zt<|by exact rfl⟩⟩
  case eql=>exact⟨[(0,.kb<|decide<|(a:Int)=(c:Int))],LB h,zG fun env w S vs hl=>⟨_,TP (xK ha<|hx hl).1 (xK hc<|hy hl).1 w,zt<|by exact rfl⟩⟩
  case neq=>exact⟨[(0,.kb (!decide ((a:Int)=(c:Int))))],kbN h,zG fun env w S vs hl=>⟨_,SP (xK ha<|hx hl).1 (xK hc<|hy hl).1 w,zt<|by exact rfl⟩⟩
theorem zkS{bo:BinOp}{a:Nat}{c:Int}{k:List (Nat×Dv)->Option R}(h:shU bo a c (fun v=>k [(0,v)])=some r)(ha:pd cx σ x=some ⟨.u,a⟩)(hc:pd cx σ y=some ⟨.i,c⟩):
 ∃l,k l=some r/\ES P ⟨d,.binOp bo t x y yt,ty,pos,aft,g⟩ cx σ F l:=by
 have hx:∀{vs env S w},(∀t'∈yD (.binOp bo t x y yt),Lk P vs env S w cx σ t')->Ya P vs env S w cx σ x:=fun hl=>yN hl (by simp[xaM]);have hy:∀{vs env S w},(∀t'∈yD (.binOp bo t x y yt),Lk P vs env S w cx σ t')->Ya P vs env S w cx σ y:=fun hl=>yN hl (by simp[xaM]);unfold shU at h;split at h
 ·obtain⟨h0,h⟩:=kU h;obtain⟨z,hz,h⟩:=xt h;exact⟨_,h,zG fun env w S vs hl=>⟨_,rQ (xK ha<|hx hl).1 (xZ hc<|hy hl).1 h0 (Rz hz eO) w,zt<|qP<|tc (xK ha<|hx hl).2 hz⟩⟩
 ·obtain⟨h0,h⟩:=kU h;obtain⟨z,hz,h⟩:=xt h;exact⟨_,h,zG fun env w S vs hl=>⟨_,N6 (xK ha<|hx hl).1 (xZ hc<|hy hl).1 h0 (cj hz PQ) w,zt<|qP<|Y5 hz⟩⟩
 ·cases h
theorem zk7{bo:BinOp}{a:Int}{c:Nat}{k:List (Nat×Dv)->Option R}(h:shI bo a c (fun v=>k [(0,v)])=some r)(ha:pd cx σ x=some ⟨.i,a⟩)(hc:pd cx σ y=some ⟨.u,c⟩):
 ∃l,k l=some r/\ES P ⟨d,.binOp bo t x y yt,ty,pos,aft,g⟩ cx σ F l:=by
 have hx:∀{vs env S w},(∀t'∈yD (.binOp bo t x y yt),Lk P vs env S w cx σ t')->Ya P vs env S w cx σ x:=fun hl=>yN hl (by simp[xaM]);have hy:∀{vs env S w},(∀t'∈yD (.binOp bo t x y yt),Lk P vs env S w cx σ t')->Ya P vs env S w cx σ y:=fun hl=>yN hl (by simp[xaM]);unfold shI at h;split at h
 ·obtain⟨z,hz,h⟩:=xt h;exact⟨_,h,zG fun env w S vs hl=>⟨_,rQ (xZ ha<|hx hl).1 (xK hc<|hy hl).1 (xdf _) hz.symm w,zt<|xO<|zaG (xZ ha<|hx hl).2 hz⟩⟩
 ·obtain⟨z,hz,hr,h⟩:=Ve h;exact⟨_,h,zG fun env w S vs hl=>⟨_,N6 (xZ ha<|hx hl).1 (xK hc<|hy hl).1 (xdf _) (w_x hz hr) w,zt<|xO hr⟩⟩
 ·cases h
theorem zk2{bo:BinOp}{a c:Bool}{tb:Bool}{k:List (Nat×Dv)->Option R}(h:kQ tb (eqB bo a c<|fun v=>k [(0,v)])=some r)(ha:pd cx σ x=some ⟨.b,a⟩)(hc:pd cx σ y=some ⟨.b,c⟩)(hb:tb=true->P.underlying t=some .bool):
 ∃l,k l=some r/\ES P ⟨d,.binOp bo t x y yt,ty,pos,aft,g⟩ cx σ F l:=by
 have hx:∀{vs env S w},(∀t'∈yD (.binOp bo t x y yt),Lk P vs env S w cx σ t')->Ya P vs env S w cx σ x:=fun hl=>yN hl (by simp[xaM]);have hy:∀{vs env S w},(∀t'∈yD (.binOp bo t x y yt),Lk P vs env S w cx σ t')->Ya P vs env S w cx σ y:=fun hl=>yN hl (by simp[xaM]);obtain⟨hd,h⟩:=yn h;unfold eqB at h;split at h
 ·obtain⟨z,hz,h⟩:=xt h;exact⟨_,h,zG fun env w S vs hl=>⟨_,zbb (zjR (hb hd) (zfm ha<|hx hl)<|zfm hc<|hy hl) hz w,zt n6⟩⟩
 ·obtain⟨z,hz,h⟩:=xt h;exact⟨_,h,zG fun env w S vs hl=>⟨_,zbb (zkq (hb hd) (zfm ha<|hx hl)<|zfm hc<|hy hl) hz w,zt n6⟩⟩
 ·cases h
theorem Dy(x:Int):xfV.wrap x=x%256:=by
 simp[xfR,xew,xdR]
theorem zhH{a b:Nat}:xfV.wrap ((a:Int)+(b:Int))=(((a+b)%256:Nat):Int):=by rw[Dy];lia
theorem zgD{a b:Nat}(h:b<=256):xfV.wrap ((a:Int)-(b:Int))=(((a+256-b)%256:Nat):Int):=by rw[Dy];lia
theorem S4{n z:Nat}(h:z=n%256):z<256:=by rw[h];exact xbi _<|by decide
theorem zlo{bo:BinOp}{a c:Nat}{k:List (Nat×Dv)->Option R}(h:arC bo a c (fun v=>k [(0,v)])=some r)(ha:pd cx σ x=some ⟨.ch,a⟩)(hc:pd cx σ y=some ⟨.ch,c⟩):
 ∃l,k l=some r/\ES P ⟨d,.binOp bo t x y yt,ty,pos,aft,g⟩ cx σ F l:=by
 have hx:∀{vs env S w},(∀t'∈yD (.binOp bo t x y yt),Lk P vs env S w cx σ t')->Ya P vs env S w cx σ x:=fun hl=>yN hl (by simp[xaM]);have hy:∀{vs env S w},(∀t'∈yD (.binOp bo t x y yt),Lk P vs env S w cx σ t')->Ya P vs env S w cx σ y:=fun hl=>yN hl (by simp[xaM]);cases bo<;>simp only[arC,reduceCtorEq]at h
 case add=>obtain⟨z,hz,h⟩:=xt h;exact⟨_,h,zG fun env w S vs hl=>⟨_,pQ (Xm ha<|hx hl).1 (Xm hc<|hy hl).1 (cj hz zhH) w,zt<|Cu<|S4 hz⟩⟩
 case sub=>obtain⟨z,hz,h⟩:=xt h;exact⟨_,h,zG fun env w S vs hl=>⟨_,zbG (Xm ha<|hx hl).1 (Xm hc<|hy hl).1 (cj hz<|zgD<|xcS (Xm hc<|hy hl).2) w,zt<|Cu<|S4 hz⟩⟩
 case lss=>exact⟨[(0,.kb<|decide<|(a:Int)<(c:Int))],LB h,zG fun env w S vs hl=>⟨_,TA (Xm ha<|hx hl).1 (Xm hc<|hy hl).1 w,zt<|by exact rfl⟩⟩
 case leq=>exact⟨[(0,.kb<|decide<|(a:Int)<=(c:Int))],LB h,zG fun env w S vs hl=>⟨_,zbj (Xm ha<|hx hl).1 (Xm hc<|hy hl).1 w,zt<|by exact rfl⟩⟩
 case gtr=>exact⟨[(0,.kb<|decide<|(c:Int)<(a:Int))],LB h,zG fun env w S vs hl=>⟨_,zaI (Xm ha<|hx hl).1 (Xm hc<|hy hl).1 w,zt<|by exact rfl⟩⟩
 case geq=>exact⟨[(0,.kb<|decide<|(c:Int)<=(a:Int))],LB h,zG fun env w S vs hl=>⟨_,zc3 (Xm ha<|hx hl).1 (Xm hc<|hy hl).1 w,zt<|by exact rfl⟩⟩
 case eql=>exact⟨[(0,.kb<|decide<|(a:Int)=(c:Int))],LB h,zG fun env w S vs hl=>⟨_,TP (Xm ha<|hx hl).1 (Xm hc<|hy hl).1 w,zt<|by exact rfl⟩⟩
 case neq=>exact⟨[(0,.kb (!decide ((a:Int)=(c:Int))))],kbN h,zG fun env w S vs hl=>⟨_,SP (Xm ha<|hx hl).1 (Xm hc<|hy hl).1 w,zt<|by exact rfl⟩⟩
theorem BE{s u:ByteArray}:(s.toList==u.toList)=decide (yQ s=yQ u):=by
 rw[ByteArray.toList_eq,ByteArray.toList_eq];unfold yQ;by_cases h:s.data.toList=u.data.toList
 ·rw[h];simp
 ·have h2:¬s.data.toList.map xfm=u.data.toList.map xfm:=fun e=>h (List.map_inj_right (fun x y=>UInt8.toNat_inj.1)|>.1 e);rw[decide_eq_false h2];simpa using h
theorem si(s u:ByteArray):yQ (s++u)=yQ s++yQ u:=by
 unfold yQ;simp
theorem zcF{s u:ByteArray}(h:(yQ s).length+(yQ u).length<=9223372036854775807)(w:World):(Op.stringOp .add s u).run P w=.ok (.string<|s++u) w:=by
 rw[qv,qv]at h;have h5:¬(((s.size+u.size:Nat):Int)>xcY.max):=by
  have:xcY.max=9223372036854775807:=rfl;lia
 unfold Op.stringOp;simp only;rw[ir h5,xaG]
theorem zjw{bo:BinOp}{a c:List Nat}{k:List (Nat×Dv)->Option R}(h:eqT bo a c (fun v=>k [(0,v)])=some r)(ha:pd cx σ x=some ⟨.tx,a⟩)(hc:pd cx σ y=some ⟨.tx,c⟩):
 ∃l,k l=some r/\ES P ⟨d,.binOp bo t x y yt,ty,pos,aft,g⟩ cx σ F l:=by
 have hx:∀{vs env S w},(∀t'∈yD (.binOp bo t x y yt),Lk P vs env S w cx σ t')->Ya P vs env S w cx σ x:=fun hl=>yN hl (by simp[xaM]);have hy:∀{vs env S w},(∀t'∈yD (.binOp bo t x y yt),Lk P vs env S w cx σ t')->Ya P vs env S w cx σ y:=fun hl=>yN hl (by simp[xaM]);cases bo<;>simp only[eqT,reduceCtorEq]at h
 case add=>
  obtain⟨h0,h⟩:=kU h;obtain⟨z,hz,h⟩:=xt h;refine⟨_,h,zG fun env w S vs hl=> ?_⟩;obtain⟨s,e1,e2,_⟩:=RY ha<|hx hl;obtain⟨u,e3,e4,_⟩:=RY hc<|hy hl;have h6:(yQ s).length+(yQ u).length<=9223372036854775807:=by rw[e2,e4];exact h0
  refine⟨.string<|s++u,?_,zt<|GV (by rw[si,e2,e4];exact hz.symm)<|by rw[<-qv,si,xax];exact h6⟩;simp[execOp,e1,e3,eqGuard,binOp_string_add,zcF (P:=P) h6 w]
 case eql=>
  refine⟨[(0,.kb<|decide<|a=c)],LB h,zG fun env w S vs hl=> ?_⟩;obtain⟨s,e1,e2,_⟩:=RY ha<|hx hl;obtain⟨u,e3,e4,_⟩:=RY hc<|hy hl;refine⟨.bool<|decide<|a=c,?_,zt<|by exact rfl⟩;rw[<-e2,<-e4,<-BE];simp[execOp,e1,e3,eqGuard,binOp_string_eql]
 case neq=>
  refine⟨[(0,.kb (!decide (a=c)))],kbN h,zG fun env w S vs hl=> ?_⟩;obtain⟨s,e1,e2,_⟩:=RY ha<|hx hl;obtain⟨u,e3,e4,_⟩:=RY hc<|hy hl;refine⟨.bool (!decide (a=c)),?_,zt<|by exact rfl⟩;rw[<-e2,<-e4,<-BE];simp[execOp,e1,e3,eqGuard,binOp_string_neq]
theorem bop{tb:Bool}{bo:BinOp}{k:List (Nat×Dv)->Option R}(h:zgV tb bo (pd cx σ x) (pd cx σ y) (fun v=>k [(0,v)])=some r)(hb:tb=true->P.underlying t=some .bool):
 ∃l,k l=some r/\ES P ⟨d,.binOp bo t x y yt,ty,pos,aft,g⟩ cx σ F l:=by
 unfold zgV at h;split at h
 ·next a c ha hc=>exact zkY h ha hc
 ·next a c ha hc=>exact zle h ha hc
 ·next a c ha hc=>exact zkS h ha hc
 ·next a c ha hc=>exact zk7 h ha hc
 ·next a c ha hc=>exact zk2 h ha hc hb
 ·next a c ha hc=>exact zlo h ha hc
 ·next a c ha hc=>exact zjw h ha hc
 ·cases h
end
end
section
section
variable{P:Program}{cf:Cf}{cx σ:Sg}{F:List MF}{vs:Nat->Value}{env:yR}{S:Nat->Prop}{w:World}{R:Type}{r:R}
 {d:Option Tmp}{ty t yt:TypeId}{pos:String}{aft:Array Edge}{g:Option (Nat×Bool)}{x y:Operand}
theorem W9{s:TypeId}{q:Ty}{k:IntKind}{B:Nat}(hT:y4 P cf.tt)(h:Yh cf s=some ⟨q,.int k,B⟩):P.underlying s=some (.int k):=(hT _ _ h).2.2.2
theorem vq{s E:TypeId}{q:Ty}{B:Nat}(hT:y4 P cf.tt)(h:Yh cf s=some ⟨q,.sl E,B⟩):P.underlying s=some (.slice E):=(hT _ _ h).2.2.2.1
theorem Da{s:TypeId}{q:Ty}{B:Nat}(hT:y4 P cf.tt)(h:Yh cf s=some ⟨q,.str,B⟩):P.underlying s=some .string:=(hT _ _ h).2.2.2
theorem zd8(hT:y4 P cf.tt):isB cf t=true->P.underlying t=some .bool:=by
 intro h;unfold isB at h;split at h
 ·next q B hu=>exact(hT _ _ hu).2.2.2
 ·cases h
theorem VU{s E:TypeId}{e:Ty}{B:Nat}(hT:y4 P cf.tt)(hL:jT P cf.tt)(h:Yh cf s=some ⟨.l e,.sl E,B⟩):∃bytes zero,X8 P E e.rep.agg e.rep.n bytes zero:=by
 obtain⟨ti,h1,rfl⟩:=hL _ _ _ _ h;obtain⟨⟨zero,h2,_⟩,_⟩:=hT _ _ h1;exact⟨_,_,h2⟩
theorem Vu{ti:TI}(hT:y4 P cf.tt)(h:Yh cf t=some ti):∃zero,X8 P t ti.ty.rep.agg ti.ty.rep.n ti.B zero/\zero.cells.size=ti.ty.rep.n/\∀S w,ti.ty.rep.p S ti.ty.z zero.cells.toList w:=by
 obtain⟨zero,h1,h2,h3,_⟩:=(hT _ _ h).1;exact⟨zero,h1,h2,h3⟩
theorem Mb{ti:TI}{s:Ty}(hT:y4 P cf.tt)(h:Yh cf t=some ti)(hs:ti.ty=.l s):X8 P t false 1 ti.B (.slice none 0 0):=by
 obtain⟨zero,h1,_,_,h4⟩:=(hT _ _ h).1;rw[h4 s hs,hs]at h1;exact h1
theorem zj4{a:Nat}(h:a<256):VH (a:Int):=by unfold VH;lia
theorem zj1{a:Nat}(h:a<256):a<18446744073709551616:=by lia
theorem zk1{a:Nat}(h:a<256):xfV.wrap (a:Int)=(a:Int):=by rw[Dy];lia
theorem u_c{a:Nat}:xfV.wrap (a:Int)=((a%256:Nat):Int):=by rw[Dy];lia
theorem If{S:Nat->Prop}{w:World}:∀{xs:List Nat}{cs:List Value},yx eCh S xs cs w->cs=xs.map (fun x:Nat=>Value.int .u8 (x:Int))/\∀x∈xs,x<256
 |[],cs,h=>⟨h,fun x hx=>absurd hx IR⟩
 |x::xs,cs,⟨c,r,h1,h2,h3⟩=>by
  obtain⟨e1,e2⟩:=If h3;obtain⟨e3,e4⟩:=h2;refine⟨by rw[h1,e3,e1];rfl,fun y hy=> ?_⟩;rcases xad.1 hy with rfl|hy
  ·exact e4
  ·exact e2 y hy
theorem zgG{s t E:TypeId}{xs:List Nat}{v:Value}{S:Nat->Prop}{w:World}(hs:P.underlying s=some (.slice E))(hE:P.underlying E=some (.int .u8))(ht:P.underlying t=some .string)(hv:(fV (eS eCh) xs v).p S w):
 ∃u:ByteArray,(convert s t v).run P w=.ok (.string u) w/\yQ u=xs/\u.size<=9223372036854775807:=by
 obtain⟨ao,cap,rfl,hg,hb,h⟩:=xp.1 hv;have key:∀a,ao=some a->(∀x∈xs,x<256)->(∀j (hj:j<xs.length),w.cell? (a.add j)=some (.int .u8 ((xs[j]:Nat):Int)))->∃u:ByteArray,(convert s t (.slice ao xs.length cap)).run P w=.ok (.string u) w/\yQ u=xs/\u.size<=9223372036854775807:=by
  rintro a rfl hx hj;have hm:(xs.map xeX).map xfm=xs:=by
   rw[xcT];conv=>rhs;rw[<-List.map_id xs]
   exact xcj fun x hc=>UInt8.toNat_ofNat_of_lt'<|hx x hc
  have hr:=run_convert_bytes_back (P:=P) w s t E a cap (xs.map xeX) hs hE ht (fun j hd=>by
   have ha:j<xs.length:=by simpa using hd
   rw[hj j ha,xfE,UInt8.toNat_ofNat_of_lt'<|hx _<|xbk ha])
  rw[xaP]at hr;refine⟨_,hr,by unfold yQ;simpa using hm,?_⟩;rw[<-qv];unfold yQ;rw[xaP];simp;unfold maxLen at hb;lia
 rcases h with rfl|⟨b,o,cs,rfl,_,he,hf⟩
 ·cases ao with
  |some a=>exact key a rfl (fun x hx=>absurd hx IR)<|fun j hj=>absurd hj<|xbl _
  |none=>
   refine⟨ByteArray.empty,?_,rfl,by decide⟩;rw[run_convert_bytes_string w s t E none _ cap hs hE ht];rfl
 ·obtain⟨e1,e2⟩:=If hf;refine key _ rfl e2 fun j hj=> ?_;have:=he.2 j (.int .u8 ((xs[j]:Nat):Int)) (by rw[e1,xaT,xaa hj];rfl);rw[vU];exact this
theorem zjc(hT:y4 P cf.tt){s t:TypeId}{k:List (Nat×Dv)->Option R}(h:zho cf cx σ s t x k=some r):∃l,k l=some r/\ES P ⟨d,.convert s t x,ty,pos,aft,g⟩ cx σ F l:=by
 have hx:∀{vs env S w},(∀t'∈yD (.convert s t x),Lk P vs env S w cx σ t')->Ya P vs env S w cx σ x:=fun hl=>yN hl (by simp[xaM]);unfold zho at h;split at h
 ·next q k1 B ti hs ht=>
  have hb:=W9 hT hs;obtain⟨tty,tk,tB⟩:=ti;unfold zji at h;split at h
  ·next a hk ha=>
   simp only at hk;subst hk;exact⟨_,h,zG fun env w S vs hl=>⟨_,XL hb (W9 hT ht) (xZ ha<|hx hl).1 (w64 (xZ ha<|hx hl).2) w,zt<|xO (xZ ha<|hx hl).2⟩⟩
  ·next a hk ha=>
   simp only at hk;subst hk;exact⟨_,h,zG fun env w S vs hl=>⟨_,XL hb (W9 hT ht) (xK ha<|hx hl).1 (eY (xK ha<|hx hl).2) w,zt<|qP (xK ha<|hx hl).2⟩⟩
  ·next a hk ha=>
   simp only at hk;subst hk;obtain⟨z,hz,h⟩:=xt h;exact⟨_,h,zG fun env w S vs hl=>⟨_,XL hb (W9 hT ht) (xZ ha<|hx hl).1 (cj hz<|zcf _) w,zt<|qP<|zg2 hz<|mh _⟩⟩
  ·next a hk ha=>
   simp only at hk;subst hk;obtain⟨z,hz,h⟩:=xt h;exact⟨_,h,zG fun env w S vs hl=>⟨_,XL hb (W9 hT ht) (xK ha<|hx hl).1 ((sy (xK ha<|hx hl).2).trans hz.symm) w,zt<|xO<|zaE hz<|zdm (xK ha<|hx hl).2⟩⟩
  ·next a hk ha=>
   simp only at hk;subst hk;exact⟨_,h,zG fun env w S vs hl=>⟨_,XL hb (W9 hT ht) (Xm ha<|hx hl).1 (w64<|zj4 (Xm ha<|hx hl).2) w,zt<|xO<|zj4 (Xm ha<|hx hl).2⟩⟩
  ·next a hk ha=>
   simp only at hk;subst hk;exact⟨_,h,zG fun env w S vs hl=>⟨_,XL hb (W9 hT ht) (Xm ha<|hx hl).1 (eY<|zj1 (Xm ha<|hx hl).2) w,zt<|qP<|zj1 (Xm ha<|hx hl).2⟩⟩
  ·next a hk ha=>
   simp only at hk;subst hk;exact⟨_,h,zG fun env w S vs hl=>⟨_,XL hb (W9 hT ht) (Xm ha<|hx hl).1 (zk1 (Xm ha<|hx hl).2) w,zt<|Cu (Xm ha<|hx hl).2⟩⟩
  ·next a hk ha=>
   simp only at hk;subst hk;unfold chU at h;obtain⟨z,hz,h⟩:=xt h;exact⟨_,h,zG fun env w S vs hl=>⟨_,XL hb (W9 hT ht) (xK ha<|hx hl).1 (cj hz u_c) w,zt<|Cu<|S4 hz⟩⟩
  ·cases h
 ·next E B q B' hs ht=>
  split at h
  ·next q' B'' hE=>
   obtain⟨xs,h,hc⟩:=X5 h;refine⟨_,h,zG fun env w S vs hl=> ?_⟩;obtain⟨u,h1,h2,h3⟩:=zgG (vq hT hs) (W9 hT hE) (Da hT ht)<|hc P vs env S w<|hx hl;exact⟨.string u,by simp[execOp,h1],zt<|GV h2 h3⟩
  ·cases h
 ·cases h
theorem H3{n:Nat}{k:Nat->Option R}(h:atI cx σ x n k=some r):∃j,j<n/\k j=some r/\∀(P:Program) vs env S w,Ya P vs env S w cx σ x->∃ik,ev env x=.int ik (j:Int):=by
 unfold atI at h;split at h
 ·next j hj=>
  obtain⟨i,h1,h2,h⟩:=zf4 h;exact⟨i,h2,h,fun P vs env S w hl=>⟨.i64,by rw[(xZ hj hl).1,h1]⟩⟩
 ·next j hj=>
  obtain⟨i,h1,h2,h⟩:=zf4 h;exact⟨i,h2,h,fun P vs env S w hl=>⟨.u64,by rw[(xK hj hl).1,h1]⟩⟩
 ·cases h
theorem QS{x:Option Operand}{k:Option Nat->Option R}(h:GK cx σ x k=some r):
 (x=none/\k none=some r)\/∃y j,x=some y/\k (some j)=some r/\∀(P:Program) vs env S w,Ya P vs env S w cx σ y->ev env y=.int .i64 (j:Int):=by
 unfold GK at h;split at h
 ·exact .inl ⟨rfl,h⟩
 ·next y=>
  split at h
  ·next j hj=>
   obtain⟨i,h1,h⟩:=OQ h;exact .inr ⟨y,i,rfl,h,fun P vs env S w hl=>by rw[(xZ hj hl).1,h1]⟩
  ·cases h
theorem QO{α:Type}{e:z7 α}{E:TypeId}{xs:List α}{v:Value}(h:(mO e E v xs).p S w)(h0:0<xs.length):
 ∃b cap,v=.slice (some ⟨b,0,none⟩) xs.length cap/\(mB (rowT e cap) E b xs).p S w:=by
 obtain⟨cs,h1,h2⟩:=h;rcases h1.2 with⟨rfl,h3⟩|⟨g,cap,cur,rfl,hc,hg,hd,he,ha,hb⟩
 ·lia
 ·exact⟨g,cap,rfl,cur,hg,cs,cur.toList.drop<|xs.length*e.n,by rw[<-hb,xbH],h2,by simpa using ha⟩
theorem zbD{s E:TypeId}{q:Ty}{n B:Nat}(hT:y4 P cf.tt)(h:Yh cf s=some ⟨q,.ar n E,B⟩):P.underlying s=some (.array n E):=(hT _ _ h).2.2.2.2
theorem zbo{E:TypeId}{e:Ty}(hT:y4 P cf.tt)(h:elA cf E e=true):∃bytes zero,X8 P E e.rep.agg e.rep.n bytes zero:=by
 unfold elA at h;split at h
 ·next ti ht=>
  cases hs:Ty.same ti.ty e with
  |none=>rw[hs]at h;cases h
  |some p=>
   obtain⟨zero,h2,_⟩:=Vu hT ht;rw[p.down]at h2;exact⟨_,_,h2⟩
 ·cases h
theorem zhT{n j:Nat}{e:Ty}(hj:j<n):Fl.ok (.a n e) (ziR n e j):=by
 intro z S w cs hp;have ha:xaI z=n/\yx e.rep S z cs w:=hp;have:=Sub.nth n e.rep z j (xeq z j e.z) (getD_some e.z<|ha.1▸hj) S w cs hp;rw[e.n_rep]at this;exact this
theorem zfu(hT:y4 P cf.tt)(hL:jT P cf.tt){k:List (Nat×Dv)->Option R}(h:LR cf cx σ t x y k=some r):∃l,k l=some r/\ES P ⟨d,.indexAddr t x y,ty,pos,aft,g⟩ cx σ F l:=by
 have hx:∀{vs env S w},(∀t'∈yD (.indexAddr t x y),Lk P vs env S w cx σ t')->Ya P vs env S w cx σ x:=fun hl=>yN hl (by simp[xaM]);have hy:∀{vs env S w},(∀t'∈yD (.indexAddr t x y),Lk P vs env S w cx σ t')->Ya P vs env S w cx σ y:=fun hl=>yN hl (by simp[xaM]);unfold LR at h;split at h
 ·next e E B s xs ht ha=>
  obtain⟨he,h⟩:=yo h;cases he;obtain⟨bytes,zero,hb⟩:=VU hT hL ht;obtain⟨j,hj,h,hc⟩:=H3 h;obtain⟨z,hz,h⟩:=xt h;refine⟨_,h,kE fun env w S vs hM hl=> ?_⟩;obtain⟨ik,hd⟩:=hc P vs env S w<|hy hl;exact⟨_,_,_,_,[fV (eS e.rep) xs<|ev env x],[],zca (e:=e.rep) (xs:=xs) (k:=j) (y:=z) rfl hd (vq hT ht) hb (zkp hj hz)<|fun S w h=>h.1,trivial,⟨zn ha<|hx hl,trivial⟩,fun u w' _ hf=>zt hf.1⟩
 ·next e E B o ht ha=>
  split at h
  ·next s E' xs ho=>
   obtain⟨he,h⟩:=yo h;cases he;obtain⟨bytes,zero,hb⟩:=VU hT hL ht;obtain⟨j,hj,h,hc⟩:=H3 h;refine⟨_,h,?_⟩;intro env w S vs hS hM hl;obtain⟨ik,hd⟩:=hc P vs env S w<|hy hl;have hm:(mO e.rep E' (vs o) xs).p S w:=uR hM ho;obtain⟨b,cap,hv,_⟩:=QO hm<|xba (xah _) hj;have hk:ev env x=vs o:=zn ha<|hx hl;refine kF.of_value (n4 (vq hT ht) hb (hk.trans hv) hd hj w) ⟨yw.refl _ _,zt ?_⟩;exact⟨fun z=>Sub.self e.rep z,b,_,_,hv,hj,by simp[Fl.self]⟩
  ·cases h
 ·next q n' E B n e xs ht ha=>
  obtain⟨hg,h⟩:=yn h;rw[xam]at hg;have hn:=yc hg.1;subst hn;obtain⟨bytes,zero,hb⟩:=zbo hT hg.2;obtain⟨j,hj,h,hc⟩:=H3 h;obtain⟨z,hz,h⟩:=xt h;refine⟨_,h,kE fun env w S vs hM hl=> ?_⟩;obtain⟨ik,hd⟩:=hc P vs env S w<|hy hl;have hp:(fP (Ty.a n' e).rep xs<|ev env x).p S w:=zn ha<|hx hl;obtain⟨_,_,_,_,_,_,hi,_⟩:=id hp;exact⟨_,_,_,_,[fP (Ty.a n' e).rep xs<|ev env x],[],RR (e:=(Ty.a n' e).rep) (f:=e.rep) (z:=xs) (z':=z) (zbD hT ht) hb rfl hd hj (Sub.nth n' e.rep xs j z<|zkp (hi▸hj) hz)<|fun S w h=>h.1,trivial,⟨hp,trivial⟩,fun u w' _ hf=>zt hf.1⟩
 ·next q n' E B o n e ht ha=>
  obtain⟨hg,h⟩:=yn h;rw[xam]at hg;have hn:=yc hg.1;subst hn;obtain⟨bytes,zero,hb⟩:=zbo hT hg.2;obtain⟨j,hj,h,hc⟩:=H3 h;refine⟨_,h,zG fun env w S vs hl=> ?_⟩;obtain⟨ik,hd⟩:=hc P vs env S w<|hy hl;obtain⟨h1,b,h2⟩:=zn ha<|hx hl;exact⟨_,Lo (zbD hT ht) hb (h1.trans h2) hd hj w,zt ⟨zhT hj,b,h2,by rw[e.n_rep];rfl⟩⟩
 ·cases h
theorem cD:∀{k:Nat}{t:Ty}{i:Nat}{f:Fl t.D},Q3 k t i=some f->Fl.ok t f
 |0,_,_,_,h=>by simp[Q3]at h
 |1,t,i,f,h=>by
  unfold Q3 at h;cases hb:xao i 0<;>rw[hb]at h
  ·cases h
  ·simp only[cond_true,xay]at h;subst h;exact fun z=>Sub.self t.rep z
 |k+2,.p s t,0,f,h=>by
  simp only[Q3,xay]at h;subst h;exact fun z=>Sub.fst s.rep t.rep z
 |k+2,.p s t,i+1,f,h=>by
  simp only[Q3]at h;split at h
  ·next f' hf=>
   simp only[xay]at h;subst h;intro z;have:=(Sub.snd s.rep t.rep z).comp<|cD hf z.2;rw[s.n_rep]at this;exact this
  ·cases h
 |k+2,.i,i,f,h=>by simp[Q3]at h
 |k+2,.u,i,f,h=>by simp[Q3]at h
 |k+2,.b,i,f,h=>by simp[Q3]at h
 |k+2,.l _,i,f,h=>by simp[Q3]at h
 |k+2,.a _ _,i,f,h=>by simp[Q3]at h
theorem OH{t:Ty}{a:Fl t.D}{c:Fl a.f.D}(ha:Fl.ok t a)(hc:Fl.ok a.f c):Fl.ok t (a.comp c):=fun z=>(ha z).comp<|hc<|a.get z
theorem Ph{s:TypeId}{q:Ty}{n B i:Nat}{f:Fl q.D}(hT:y4 P cf.tt)(h:Yh cf s=some ⟨q,.st n,B⟩)(hf:Q3 n q i=some f):L7 P s i=some f.off:=(hT _ _ h).2.2.2.2.1 i f hf
theorem zeR(hT:y4 P cf.tt){i:Nat}{k:List (Nat×Dv)->Option R}(h:MC cf cx σ t x i k=some r):∃l,k l=some r/\ES P ⟨d,.fieldAddr t x i,ty,pos,aft,g⟩ cx σ F l:=by
 have hx:∀{vs env S w},(∀t'∈yD (.fieldAddr t x i),Lk P vs env S w cx σ t')->Ya P vs env S w cx σ x:=fun hl=>yN hl (by simp[xaM]);unfold MC at h;split at h
 ·next e n B s y ht hb=>
  obtain⟨ha,h⟩:=yo h;subst ha;split at h
  ·next f hf=>
   exact⟨_,h,kE fun env w S vs hM hl=>⟨_,_,_,_,[fP s.rep y<|ev env x],[],zbl (e:=s.rep) (z:=y) (Ph hT ht hf) rfl (cD hf y)<|fun S w h=>h.1,trivial,⟨zn hb<|hx hl,trivial⟩,fun u w' _ hf=>zt hf.1⟩⟩
  ·cases h
 ·next e n B o s ht hb=>
  split at h
  ·next ha f _ hf=>
   obtain⟨ha⟩:=ha;subst ha;refine⟨_,h,zG fun env w S vs hl=> ?_⟩;obtain⟨h1,b,h2⟩:=zn hb<|hx hl;exact⟨_,oD (Ph hT ht hf) (h1.trans h2) w,zt ⟨cD hf,b,h2,rfl⟩⟩
  ·cases h
 ·next e n B o s g ht hb=>
  split at h
  ·next ha f _ hf=>
   obtain⟨ha⟩:=ha;subst ha;refine⟨_,h,zG fun env w S vs hl=> ?_⟩;obtain⟨h0,b,h1,h2⟩:=zn hb<|hx hl;exact⟨_,oD (Ph hT ht hf) h2 w,zt ⟨OH h0<|cD hf,b,h1,by simp only[Fl.comp,xcR]⟩⟩
  ·cases h
 ·next e n B o s j g ht hb=>
  split at h
  ·next ha f _ hf=>
   obtain⟨ha⟩:=ha;subst ha;refine⟨_,h,zG fun env w S vs hl=> ?_⟩;obtain⟨h0,b,m,cap,h1,h2,h3⟩:=zn hb<|hx hl;exact⟨_,oD (Ph hT ht hf) h3 w,zt ⟨OH h0<|cD hf,b,m,cap,h1,h2,by simp only[Fl.comp,xcR]⟩⟩
  ·cases h
 ·cases h
theorem zha(hT:y4 P cf.tt){k:List (Nat×Dv)->Option R}(h:zax cf cx σ t x k=some r):∃l,k l=some r/\ES P ⟨d,.load t x,ty,pos,aft,g⟩ cx σ F l:=by
 have hx:∀{vs env S w},(∀t'∈yD (.load t x),Lk P vs env S w cx σ t')->Ya P vs env S w cx σ x:=fun hl=>yN hl (by simp[xaM]);unfold zax at h;split at h
 ·next ti hj=>
  obtain⟨zero,hd,_⟩:=Vu hT hj;unfold zgu at h;split at h
  ·next s y hc=>
   obtain⟨ha,h⟩:=yo h;simp only at ha;subst ha;exact⟨_,h,kE fun env w S vs hM hl=>⟨_,_,_,_,[fP ti.ty.rep y<|ev env x],[],zdJ (e:=ti.ty.rep) (y:=y) rfl hd<|fun S w h=>h.1,trivial,⟨zn hc<|hx hl,trivial⟩,fun u w' _ hf=>zt hf.1⟩⟩
  ·next o s hc=>
   split at h
   ·next s' E z ho=>
    obtain⟨ha,h⟩:=yo h;simp only at ha;subst ha;refine⟨_,h,kE fun env w S vs hM hl=> ?_⟩;obtain⟨h1,b,h2⟩:=zn hc<|hx hl;obtain⟨b',h3,h4⟩:(mP ti.ty.rep.c E (vs o) z).p S w:=uR hM ho;exact⟨_,_,_,_,[],[mB ti.ty.rep.c E b' z],QU (z':=z) 0 rfl (h1.trans h3) (Sub.self ti.ty.rep z) hd,⟨h4,trivial⟩,trivial,fun u w' _ hf=>zt hf.1⟩
   ·cases h
  ·next o s f hc=>
   split at h
   ·next s' E z ho=>
    obtain⟨he,h⟩:=yo h;subst he;obtain⟨ha,h⟩:=yo h;simp only at ha;obtain⟨off,ff,get,set⟩:=f;simp only at ha;subst ha;refine⟨_,h,kE fun env w S vs hM hl=> ?_⟩;obtain⟨h0,b,h1,h2⟩:=zn hc<|hx hl;obtain⟨b',h3,h4⟩:(mP s'.rep.c E (vs o) z).p S w:=uR hM ho;rw[h1]at h3;cases h3;exact⟨_,_,_,_,[],[mB s'.rep.c E b z],QU (z':=get z) 0 rfl h2 (by rw[xaN];exact h0 z) hd,⟨h4,trivial⟩,trivial,fun u w' _ hf=>zt hf.1⟩
   ·cases h
  ·next o s j f hc=>
   split at h
   ·next s' E xs ho=>
    obtain⟨he,h⟩:=yo h;cases he;obtain⟨y,hy,h⟩:=xt h;obtain⟨ha,h⟩:=yo h;simp only at ha;obtain⟨off,ff,get,set⟩:=f;simp only at ha;subst ha;refine⟨_,h,kE fun env w S vs hM hl=> ?_⟩;obtain⟨h0,b,m,cap,h1,h2,h3⟩:=zn hc<|hx hl;have hm:(mO s.rep E (vs o) xs).p S w:=uR hM ho;have hg:0<xs.length:=by
     obtain⟨cs,h5,h6⟩:=hm;rcases h5.2 with⟨hv,h7⟩|⟨g',cap',cur,hv,_⟩
     ·rw[h1]at hv;cases hv
     ·rw[h1]at hv;cases hv;lia
    obtain⟨b',cap',hv,hb⟩:=QO hm hg;rw[h1]at hv;cases hv;have hi:=(Sub.rowT0 s.rep cap xs j (xs.getD j s.z)<|getD_some s.z h2).comp<|h0<|xs.getD j s.z;subst hy;exact⟨_,_,_,_,[],[mB (rowT s.rep cap) E b xs],QU 0 rfl h3 hi hd,⟨hb,trivial⟩,trivial,fun u w' _ hf=>zt hf.1⟩
   ·cases h
  ·cases h
 ·cases h
theorem zfO{α:Type}(xs:List α):xs=(xs.drop 0).take (xs.length-0):=by simp
theorem zf3{α:Type}(xs:List α)(l:Nat):xs.drop l=(xs.drop l).take (xs.length-l):=(xaQ<|by simp).symm
theorem zae{i off n:Nat}{agg:Bool}{cs:Array Value}{v:Value}(h:za4 P t i=some (off,agg,n))(hx:ev env x=.agg cs)(hv:(if agg=true then Value.agg (cs.extract off<|off+n)else cs.getD off undef)=v)(ha:agg=false->off<cs.size)(w:World):
 (execOp (ev env) ⟨d,.field t x i,ty,pos,aft,g⟩).run P w=.ok (.value v) w:=by
 unfold za4 at h;split at h
 ·next fs hu=>
  split at h
  ·next f hf=>
   split at h
   ·next ag n' by' z hc=>
    simp only[xay,xcx]at h;obtain⟨h1,h2,h3⟩:=h;subst h1;subst h2;subst h3;have hb:=X8.of hc;have hp:(part f.type cs f.offset).run P w=.ok v w:=by
     unfold part;simp only[xas,CM hb,xae]
     cases ag with
     |true=>
      simp only[if_true,xas,xu hb,xae,xaG];rw[<-hv];rfl
     |false=>
      simp only[xak,if_false];have ha:=ha rfl;rw[xcB ha];simp only[xaG];rw[<-hv];simp[Array.getD,ha]
    simp only[execOp,hx,Instr.field,asAgg,xas,run_underlying hu,xae,hf,xaG,hp]
   ·cases h
  ·cases h
 ·cases h
theorem zh5{s:TypeId}{q:Ty}{n B i:Nat}{f:Fl q.D}(hT:y4 P cf.tt)(h:Yh cf s=some ⟨q,.st n,B⟩)(hf:Q3 n q i=some f):za4 P s i=some (f.off,f.f.rep.agg,f.f.n):=(hT _ _ h).2.2.2.2.2.2 i f hf
theorem SQ(hT:y4 P cf.tt){i:Nat}{k:List (Nat×Dv)->Option R}(h:Dm cf cx σ t x i k=some r):∃l,k l=some r/\ES P ⟨d,.field t x i,ty,pos,aft,g⟩ cx σ F l:=by
 have hx:∀{vs env S w},(∀t'∈yD (.field t x i),Lk P vs env S w cx σ t')->Ya P vs env S w cx σ x:=fun hl=>yN hl (by simp[xaM]);unfold Dm at h;split at h
 ·next e n B s y ht hg=>
  obtain⟨hi,h⟩:=yo h;subst hi;split at h
  ·next f hf=>
   refine⟨_,h,zG fun env w S vs hl=> ?_⟩;obtain⟨cs,hv,hp⟩:=zn hg<|hx hl;have he:s.rep.agg=true:=(hT _ _ ht).2.2.2.1;obtain⟨pre,c,post,hc,h1,h2,_⟩:=cD hf y S w cs hp;have ha:=f.f.rep.len h2;rw[Ty.n_rep]at ha;have hv:ev env x=.agg cs.toArray:=by rw[hv];unfold z7.val;rw[he];rfl
   refine⟨f.f.rep.val c,zae (zh5 hT ht hf) hv ?_ ?_ w,zt ⟨c,rfl,h2⟩⟩
   ·unfold z7.val
    cases hd:f.f.rep.agg with
    |true=>
     simp only[if_true];congr 1;apply Array.ext';rw[Array.toList_extract,hc,<-h1,<-ha];simp
    |false=>
     simp only[xak,if_false];have hb:=f.f.rep.n1 hd;rw[Ty.n_rep]at hb;obtain⟨a,rfl⟩:∃a,c=[a]:=by
      match c,ha.trans hb with
      |[a],_=>exact⟨a,rfl⟩
     rw[hc,<-h1];simp[Array.getD]
   ·intro hd;have hb:=f.f.rep.n1 hd;rw[Ty.n_rep]at hb;rw[hc];simp;lia
  ·cases h
 ·cases h
theorem Ug{α:Type}{e:z7 α}{E:TypeId}{v:Value}{xs:List α}{S:Nat->Prop}{w:World}(h:(mO e E v xs).p S w):(v=.slice none 0 0/\xs=[])\/∃b cap,v=.slice (some ⟨b,0,none⟩) xs.length cap/\xs.length<=cap/\cap<=9223372036854775807:=by
 obtain⟨cs,h1,h2⟩:=h;rcases h1.2 with⟨rfl,h0⟩|⟨g,cap,cur,rfl,hc,hg,ha,hb,hd,he⟩
 ·exact .inl ⟨rfl,xbF.1 h0⟩
 ·exact .inr ⟨g,cap,rfl,ha,hb⟩
theorem EZ{α:Type}{e:z7 α}{E:TypeId}{v:Value}{xs:List α}{S:Nat->Prop}{w:World}(h:(mO e E v xs).p S w){b m cap l n c:Nat}(hv:v=.slice (some ⟨b,0,none⟩) m cap)(hl:l+n<=m)(hf:n<=c)(hc:c<=9223372036854775807):
 SlQ e S ((xs.drop l).take n) (.slice (some ⟨b,0+l*e.n,none⟩) n c) w:=by
 obtain⟨cs,h1,h2⟩:=h;rcases h1.2 with⟨h0,_⟩|⟨g,cap',cur,h0,hi,hg,he,hj,hk,hd⟩
 ·rw[hv]at h0;cases h0
 ·rw[hv]at h0;cases h0;have hb:((xs.drop l).take n).length=n:=by simp;lia
  refine⟨some ⟨b,0+l*e.n,none⟩,c,by rw[hb],by lia,by unfold maxLen;lia,.inr ⟨b,0+l*e.n,(cs.drop<|l*e.n).take<|n*e.n,rfl,?_,(h2.drop l).take n⟩⟩;have ha:=At.row hg;have:=ha.take<|xs.length*e.n;rw[hd]at this;exact(this.drop<|l*e.n).take<|n*e.n
theorem pO{t:TypeId}{et:TypeId}{ag:Bool}{sz bytes:Nat}{zero:Value}{b o n cap l h:Nat}{lo hi:Option Value}{w:World}(ht:P.underlying t=some (.slice et))(ha:X8 P et ag sz bytes zero)
 (hl:lo=some (.int .i64 (l:Int))\/(lo=none/\l=0)) (hh:hi=some (.int .i64 (h:Int))\/(hi=none/\h=n)) (hb:l<=h) (hc:h<=cap):
 (xcX t (.slice (some ⟨b,o,none⟩) n cap) lo hi none).run P w=.ok (.slice (if cap=l then some ⟨b,o,none⟩else(some (⟨b,o,none⟩:Addr)).map (·.add (l*sz))) (h-l)<|cap-l) w:=by
 have b1:(0:Int)<=(l:Int)/\(l:Int)<=(h:Int):=by lia
 have b2:(0:Int)<=(h:Int)/\(h:Int)<=(cap:Int):=by lia
 unfold xcX;simp only[xas,run_underlying ht,xae];unfold xfK;simp only[xas,run_underlying ht,xae];unfold xdV
 rcases hl with rfl|⟨rfl,rfl⟩<;>rcases hh with rfl|⟨rfl,rfl⟩<;>
  simp only[xeo,asIntOf,xas,xaG,xae,iq b1,iq b2,xu ha,xaE]
theorem DN{t:TypeId}{et:TypeId}{ag:Bool}{sz bytes:Nat}{zero:Value}{lo hi:Option Value}{w:World}(ht:P.underlying t=some (.slice et))(ha:X8 P et ag sz bytes zero)
 (hl:lo=some (.int .i64 ((0:Nat):Int))\/lo=none) (hh:hi=some (.int .i64 ((0:Nat):Int))\/hi=none):
 (xcX t (.slice none 0 0) lo hi none).run P w=.ok (.slice none 0 0) w:=by
 unfold xcX;simp only[xas,run_underlying ht,xae];unfold xfK;simp only[xas,run_underlying ht,xae];unfold xdV
 rcases hl with rfl|rfl<;>rcases hh with rfl|rfl<;>
  simp[xeo,asIntOf,xas,xaG,xae,xu ha]
theorem Et{m:Nat}{lo hi:Option Nat}{k:Nat->Nat->Option R}(h:zdO m lo hi k=some r):∃l h',l<=h'/\h'<=m/\k l (h'-l)=some r/\(lo=some l\/(lo=none/\l=0))/\(hi=some h'\/(hi=none/\h'=m)):=by
 unfold zdO at h;split at h
 ·next h'=>obtain⟨h1,h2⟩:=kU h;exact⟨0,h',xah _,h1,h2,.inr ⟨rfl,rfl⟩,.inl rfl⟩
 ·next l=>obtain⟨h1,h2⟩:=kU h;exact⟨l,m,h1,xab _,h2,.inl rfl,.inr ⟨rfl,rfl⟩⟩
 ·next l h'=>obtain⟨h1,h2⟩:=kU h;exact⟨l,h',h1.1,h1.2,h2,.inl rfl,.inl rfl⟩
 ·exact⟨0,m,xah _,xab _,h,.inr ⟨rfl,rfl⟩,.inr ⟨rfl,rfl⟩⟩
theorem NM{t:TypeId}{s:ByteArray}{l h:Nat}{lo hi:Option Value}{w:World}(ht:P.underlying t=some .string)
 (hl:lo=some (.int .i64 (l:Int))\/(lo=none/\l=0)) (hh:hi=some (.int .i64 (h:Int))\/(hi=none/\h=s.size)) (ha:l<=h) (hb:h<=s.size):
 (xcX t (.string s) lo hi none).run P w=.ok (.string<|s.extract l h) w:=by
 have b1:(0:Int)<=(l:Int)/\(l:Int)<=(h:Int):=by lia
 have b2:(0:Int)<=(h:Int)/\(h:Int)<=(s.size:Int):=by lia
 unfold xcX;simp only[xas,run_underlying ht,xae];unfold xfK;simp only[xas,run_underlying ht,xae];unfold xdV
 rcases hl with rfl|⟨rfl,rfl⟩<;>rcases hh with rfl|⟨rfl,rfl⟩<;>
  simp[xeo,asIntOf,iq b1,iq b2,ha,hb]
theorem rN(s:ByteArray)(l h:Nat):yQ (s.extract l h)=((yQ s).drop l).take (h-l):=by simp_all [yQ]
theorem zeV(hT:y4 P cf.tt)(hL:jT P cf.tt){lo hi:Option Operand}{k:List (Nat×Dv)->Option R}(h:Nh cf cx σ t x lo hi k=some r):∃l,k l=some r/\ES P ⟨d,.slice t x lo hi none,ty,pos,aft,g⟩ cx σ F l:=by
 have hx:∀{vs env S w},(∀t'∈yD (.slice t x lo hi none),Lk P vs env S w cx σ t')->Ya P vs env S w cx σ x:=fun hl=>yN hl (by simp[xaM]);have hc:∀{vs env S w z},lo=some z->(∀t'∈yD (.slice t x lo hi none),Lk P vs env S w cx σ t')->Ya P vs env S w cx σ z:=fun e hl=>yN hl (by simp[xaM,e]);have hd:∀{vs env S w z},hi=some z->(∀t'∈yD (.slice t x lo hi none),Lk P vs env S w cx σ t')->Ya P vs env S w cx σ z:=fun e hl=>yN hl (by simp[xaM,e]);unfold Nh at h;split at h
 ·next e E B s xs ht he=>
  obtain⟨hm,h⟩:=yo h;cases hm;obtain⟨bytes,zero,hk⟩:=VU hT hL ht
  have fin:∀{l m:Nat}{zs:List e.D},l<=m->m<=xaI xs->zs=(xdz l xs).take (m-l)->(∀vs env S w,(∀t'∈yD (.slice t x lo hi none),Lk P vs env S w cx σ t')->((lo.map<|ev env)=some (.int .i64 (l:Int))\/(lo=none/\l=0))/\((hi.map<|ev env)=some (.int .i64 (m:Int))\/(hi=none/\m=xaI xs)))->
   k [(0,.d (.l e) zs)]=some r->∃l,k l=some r/\ES P ⟨d,.slice t x lo hi none,ty,pos,aft,g⟩ cx σ F l:=by
   intro l m zs h1 h2 h3 h4 h5;subst h3;refine⟨_,h5,kE fun env w S vs hM hl=> ?_⟩;obtain⟨h6,h7⟩:=h4 vs env S w hl;exact⟨_,_,_,_,[fV (eS e.rep) xs<|ev env x],[],GJ (e:=e.rep) (xs:=xs) (l:=l) (h:=m) rfl (vq hT ht) hk h6 h7 h1 h2<|fun S w h=>h.1,trivial,⟨zn he<|hx hl,trivial⟩,fun u w' _ hf=>zt hf.1⟩
  rcases QS h with⟨e1,h1⟩|⟨zl,l,e1,h1,hb⟩
  ·rcases QS h1 with⟨e2,h2⟩|⟨zh,m,e2,h2,ha⟩
   ·exact fin (l:=0) (m:=xaI xs) (xah _) (xab _) (zfO (α:=e.D) xs) (fun vs env S w hl=>⟨.inr ⟨e1,rfl⟩,.inr ⟨e2,rfl⟩⟩) h2
   ·obtain⟨h3,h4⟩:=kU h2;obtain⟨zs,hz,h5⟩:=xt h4;exact fin (l:=0) (m:=m) (xah _) h3 hz (fun vs env S w hl=>⟨.inr ⟨e1,rfl⟩,.inl<|by rw[e2];exact congrArg some<|ha P vs env S w<|hd e2 hl⟩) h5
  ·rcases QS h1 with⟨e2,h2⟩|⟨zh,m,e2,h2,ha⟩
   ·obtain⟨h3,h4⟩:=kU h2;obtain⟨zs,hz,h5⟩:=xt h4;exact fin (l:=l) (m:=xaI xs) h3 (xab _) (hz.trans<|zf3 (α:=e.D) xs l) (fun vs env S w hl=>⟨.inl (by rw[e1];exact congrArg some<|hb P vs env S w<|hc e1 hl),.inr ⟨e2,rfl⟩⟩) h5
   ·obtain⟨h3,h4⟩:=kU h2;obtain⟨zs,hz,h5⟩:=xt h4;exact fin (l:=l) (m:=m) h3.1 h3.2 hz (fun vs env S w hl=>⟨.inl (by rw[e1];exact congrArg some<|hb P vs env S w<|hc e1 hl),.inl<|by rw[e2];exact congrArg some<|ha P vs env S w<|hd e2 hl⟩) h5
 ·next e E B o ht he=>
  split at h
  ·next s E' xs ho=>
   obtain⟨hm,h⟩:=yo h;cases hm;obtain⟨bytes,zero,hk⟩:=VU hT hL ht
   have key:∀(l m:Nat),l<=m->m<=xaI xs->k [(0,.sv o e l<|m-l)]=some r->(∀vs env S w,(∀t'∈yD (.slice t x lo hi none),Lk P vs env S w cx σ t')->((lo.map<|ev env)=some (.int .i64 (l:Int))\/(lo=none/\l=0))/\((hi.map<|ev env)=some (.int .i64 (m:Int))\/(hi=none/\m=xaI xs)))->
    ∃l,k l=some r/\ES P ⟨d,.slice t x lo hi none,ty,pos,aft,g⟩ cx σ F l:=by
    intro l m h1 h2 h5 h4;refine⟨_,h5,fun env w S vs hS hM hl=> ?_⟩;obtain⟨h6,h7⟩:=h4 vs env S w hl;have hn:ev env x=vs o:=zn he<|hx hl;rcases Ug (show(mO e.rep E' (vs o) xs).p S w from uR hM ho)with⟨hv,hg⟩|⟨b,cap,hv,hq,hu⟩
    ·refine(GJ (e:=e.rep) (xs:=([]:List e.D)) (l:=l) (h:=m) rfl (vq hT ht) hk h6 (by rw[hg]at h7;exact h7) h1 (by rw[hg]at h2;exact h2) (Γ:=[fV (eS e.rep) ([]:List e.D)<|ev env x]) (fun S w h=>h.1) (ms:=[]) w S hS trivial ⟨?_,trivial⟩).mono ?_
     ·rw[hn,hv];exact xp.2 ⟨none,0,rfl,xab _,xah _,.inl rfl⟩
     ·rintro v w' ⟨u,rfl,_,hs,hf⟩;refine⟨hs,zt (.inr ?_)⟩;have hw:m=0:=by rw[hg]at h2;exact Nat.le_zero.1 h2
      obtain⟨ao,c,q1,q2,q3,_⟩:=xp.1 hf.1;refine⟨by lia,ao,c,by unfold maxLen at q3;lia,?_⟩;rw[q1];simp
    ·have hr:=pO (P:=P) (b:=b) (o:=0) (n:=xaI xs) (cap:=cap) (w:=w) (l:=l) (h:=m) (vq hT ht) hk (h6.imp id fun q=>⟨by rw[q.1];rfl,q.2⟩) (h7.imp id fun q=>⟨by rw[q.1];rfl,q.2⟩) h1<|xan h2 hq;rw[<-hv,<-hn]at hr;refine kF.of_value (v:=.slice (if cap=l then some ⟨b,0,none⟩else some ((⟨b,0,none⟩:Addr).add<|l*e.rep.n)) (m-l)<|cap-l) (w':=w) (by simp[execOp,hr]) ⟨yw.refl _ _,zt ?_⟩;by_cases hp:cap=l
     ·rw[iq hp];refine .inr ⟨by lia,some ⟨b,0,none⟩,cap-l,by lia,?_⟩;rw[show m-l=0 by lia]
     ·rw[ir hp];exact .inl ⟨b,xaI xs,cap,cap-l,hv,by lia,by lia,by lia,by rw[vU]⟩
   rcases QS h with⟨e1,h1⟩|⟨zl,l,e1,h1,hb⟩
   ·rcases QS h1 with⟨e2,h2⟩|⟨zh,m,e2,h2,ha⟩
    ·exact key 0 (xaI xs) (xah _) (xab _) h2<|fun vs env S w hl=>⟨.inr ⟨e1,rfl⟩,.inr ⟨e2,rfl⟩⟩
    ·obtain⟨h3,h4⟩:=kU h2;exact key 0 m (xah _) h3 h4<|fun vs env S w hl=>⟨.inr ⟨e1,rfl⟩,.inl<|by rw[e2];exact congrArg some<|ha P vs env S w<|hd e2 hl⟩
   ·rcases QS h1 with⟨e2,h2⟩|⟨zh,m,e2,h2,ha⟩
    ·obtain⟨h3,h4⟩:=kU h2;exact key l (xaI xs) h3 (xab _) h4<|fun vs env S w hl=>⟨.inl (by rw[e1];exact congrArg some<|hb P vs env S w<|hc e1 hl),.inr ⟨e2,rfl⟩⟩
    ·obtain⟨h3,h4⟩:=kU h2;exact key l m h3.1 h3.2 h4<|fun vs env S w hl=>⟨.inl (by rw[e1];exact congrArg some<|hb P vs env S w<|hc e1 hl),.inl<|by rw[e2];exact congrArg some<|ha P vs env S w<|hd e2 hl⟩
  ·cases h
 ·next q B xs ht he=>
  have fin:∀{l m:Nat}{zs:List Nat},l<=m->m<=xaI xs->zs=(xdz l xs).take (m-l)->(∀vs env S w,(∀t'∈yD (.slice t x lo hi none),Lk P vs env S w cx σ t')->((lo.map<|ev env)=some (.int .i64 (l:Int))\/(lo=none/\l=0))/\((hi.map<|ev env)=some (.int .i64 (m:Int))\/(hi=none/\m=xaI xs)))->
   k [(0,.d .tx zs)]=some r->∃l,k l=some r/\ES P ⟨d,.slice t x lo hi none,ty,pos,aft,g⟩ cx σ F l:=by
   intro l m zs h1 h2 h3 h4 h5;refine⟨_,h5,zG fun env w S vs hl=> ?_⟩;obtain⟨h6,h7⟩:=h4 vs env S w hl;obtain⟨s,e1,e2,e3⟩:=Ih<|zn he<|hx hl;have hj:(yQ s).length=s.size:=qv s;rw[e2]at hj;have hr:=NM (P:=P) (s:=s) (l:=l) (h:=m) (w:=w) (Da hT ht) (h6.imp id fun q=>⟨by rw[q.1];rfl,q.2⟩) (h7.imp id fun q=>⟨by rw[q.1];rfl,by rw[q.2];exact hj⟩) h1 (by rw[<-hj];exact h2);rw[<-e1]at hr;refine⟨.string<|s.extract l m,by simp[execOp,hr],zt<|GV (by rw[rN,e2,h3]) ?_⟩;rw[<-qv,rN,e2];have h2:m<=xaI (α:=Nat) xs:=h2;rw[xav];lia
  rcases QS h with⟨e1,h1⟩|⟨zl,l,e1,h1,hb⟩
  ·rcases QS h1 with⟨e2,h2⟩|⟨zh,m,e2,h2,ha⟩
   ·exact fin (l:=0) (m:=xaI (α:=Nat) xs) (xah _) (xab _) (zfO (α:=Nat) xs) (fun vs env S w hl=>⟨.inr ⟨e1,rfl⟩,.inr ⟨e2,rfl⟩⟩) h2
   ·obtain⟨h3,h4⟩:=kU h2;obtain⟨zs,hz,h5⟩:=xt h4;exact fin (l:=0) (m:=m) (xah _) h3 hz (fun vs env S w hl=>⟨.inr ⟨e1,rfl⟩,.inl<|by rw[e2];exact congrArg some<|ha P vs env S w<|hd e2 hl⟩) h5
  ·rcases QS h1 with⟨e2,h2⟩|⟨zh,m,e2,h2,ha⟩
   ·obtain⟨h3,h4⟩:=kU h2;obtain⟨zs,hz,h5⟩:=xt h4;exact fin (l:=l) (m:=xaI (α:=Nat) xs) h3 (xab _) (hz.trans<|zf3 (α:=Nat) xs l) (fun vs env S w hl=>⟨.inl (by rw[e1];exact congrArg some<|hb P vs env S w<|hc e1 hl),.inr ⟨e2,rfl⟩⟩) h5
   ·obtain⟨h3,h4⟩:=kU h2;obtain⟨zs,hz,h5⟩:=xt h4;exact fin (l:=l) (m:=m) h3.1 h3.2 hz (fun vs env S w hl=>⟨.inl (by rw[e1];exact congrArg some<|hb P vs env S w<|hc e1 hl),.inl<|by rw[e2];exact congrArg some<|ha P vs env S w<|hd e2 hl⟩) h5
 ·cases h
theorem zj8(hT:y4 P cf.tt){k:List (Nat×Dv)->Option R}(h:zgM cf cx σ t x y k=some r):∃l,k l=some r/\ES P ⟨d,.index t x y,ty,pos,aft,g⟩ cx σ F l:=by
 have hx:∀{vs env S w},(∀t'∈yD (.index t x y),Lk P vs env S w cx σ t')->Ya P vs env S w cx σ x:=fun hl=>yN hl (by simp[xaM]);have hy:∀{vs env S w},(∀t'∈yD (.index t x y),Lk P vs env S w cx σ t')->Ya P vs env S w cx σ y:=fun hl=>yN hl (by simp[xaM]);unfold zgM at h;split at h
 ·next q B xs ht hd=>
  obtain⟨j,hj,h,hi⟩:=H3 h;obtain⟨z,hz,h⟩:=xt h;refine⟨_,h,zG fun env w S vs hl=> ?_⟩;obtain⟨s,e1,e2,_⟩:=Ih<|zn hd<|hx hl;obtain⟨ik,e3⟩:=hi P vs env S w<|hy hl;have ha:(yQ s).length=s.size:=qv s;have hb:j<s.size:=by rw[<-ha,e2];exact hj
  have hc:z=(s[j]'hb).toNat:=by
   rw[hz,<-e2];unfold yQ;rw[H1,xaT,xaa<|by rw[<-ha]at hb;simpa[yQ]using hb];rfl
  have hr:=run_index_string (P:=P) w t s ik (j:Int)<|Da hT ht;rw[dif_pos ⟨by lia,by lia⟩]at hr;refine⟨.int .u8 (z:Int),?_,zt<|Cu<|by rw[hc];exact UInt8.toNat_lt _⟩;simp only[xaE]at hr;rw[hc];simp[execOp,e1,e3,hr]
 ·cases h
theorem zjA{E:TypeId}{k:List (Nat×Dv)->Option R}(h:zg3 cf cx σ E x k=some r):∃l,k l=some r/\ES P ⟨d,.box E x,ty,pos,aft,g⟩ cx σ F l:=by
 unfold zg3 at h;split at h
 ·next ti ha=>
  obtain⟨y,h,hy⟩:=X5 h;exact⟨_,h,kE fun env w S vs hM hl=>⟨_,_,_,_,[fV ti.ty.rep y<|ev env x],[],zgX (e:=ti.ty.rep) (z:=y) rfl<|fun S w h=>h.1,trivial,⟨hy P vs env S w (yN hl<|by simp[xaM]),trivial⟩,fun u w' _ hf=>zt hf.1⟩⟩
 ·cases h
theorem zjs(hT:y4 P cf.tt){ags:Array Operand}{ts:Array TypeId}{k:List (Nat×Dv)->Option R}(h:zgN cf cx σ ags.toList ts.toList k=some r):
 ∃l,k l=some r/\ES P ⟨d,.call ⟨.builtin .len,ags,ts⟩,ty,pos,aft,g⟩ cx σ F l:=by
 unfold zgN at h;split at h
 ·next _ _ x t hc hd=>
  obtain rfl:ags= #[x]:=by cases ags;simp_all
  obtain rfl:ts= #[t]:=by cases ts;simp_all
  have hx:∀{vs env S w},(∀t'∈yD (.call ⟨.builtin .len,#[x],#[t]⟩),Lk P vs env S w cx σ t')->Ya P vs env S w cx σ x:=fun hl=>yN hl (by simp[xaM,xej]);split at h
  ·next e E B ht=>
   have hu:=vq hT ht;split at h
   ·next ha=>exact⟨_,h,zG fun env w S vs hl=>⟨_,Hq hu (zn ha<|hx hl) w,zt<|xO<|by decide⟩⟩
   ·next s xs ha=>
    exact⟨_,h,kE fun env w S vs hM hl=>⟨_,_,_,_,[fV (eS s.rep) xs<|ev env x],[],zhL (e:=s.rep) (xs:=xs) hu rfl<|fun S w h=>h.1,trivial,⟨zn ha<|hx hl,trivial⟩,fun u w' hk hf=>zt<|xO<|Hn hk⟩⟩
   ·next o ha=>
    split at h
    ·next s E' xs ho=>
     exact⟨_,h,kE fun env w S vs hM hl=>⟨_,_,_,_,[],[mO s.rep E' (vs o) xs],EW 0 rfl hu<|zn ha<|hx hl,⟨uR hM ho,trivial⟩,trivial,fun u w' hk hf=>zt<|xO<|Hn hk⟩⟩
    ·cases h
   ·cases h
  ·next q B ht=>
   have hu:=Da hT ht;split at h
   ·next xs ha=>
    refine⟨_,h,zG fun env w S vs hl=> ?_⟩;obtain⟨s,e1,e2,e3⟩:=Ih<|zn ha<|hx hl;have hb:(yQ s).length=s.size:=qv s;rw[e2]at hb;have hb:xaI (α:=Nat) xs=s.size:=hb;refine⟨.int .i64 ((xaI (α:=Nat) xs:Nat):Int),?_,zt<|xO<|by lia⟩;rw[hb];simp[execOp,resolve,invoke,builtin,e1,Builtin.len_,goInt,run_underlying hu]
   ·cases h
  ·cases h
 ·cases h
theorem zjv{b:Bool}{ags:Array Operand}{ts:Array TypeId}{k:List (Nat×Dv)->Option R}(h:eMM cx b σ ags.toList k=some r):
 ∃l,k l=some r/\ES P ⟨d,.call ⟨.builtin (if b=true then .max else .min),ags,ts⟩,ty,pos,aft,g⟩ cx σ F l:=by
 unfold eMM at h;split at h
 ·next _ x y hb=>
  obtain rfl:ags= #[x,y]:=by cases ags;simp_all
  have hx:∀{bl vs env S w},(∀t'∈yD (.call ⟨.builtin bl,#[x,y],ts⟩),Lk P vs env S w cx σ t')->Ya P vs env S w cx σ x:=fun hl=>yN hl (by simp[xaM,xej]);have hy:∀{bl vs env S w},(∀t'∈yD (.call ⟨.builtin bl,#[x,y],ts⟩),Lk P vs env S w cx σ t')->Ya P vs env S w cx σ y:=fun hl=>yN hl (by simp[xaM,xej]);split at h
  ·next a c ha hc=>
   cases b
   ·have h:nm (min (α:=Int) a c) (fun z=>k [(0,zg6 z)])=some r:=h;obtain⟨z,hz,h⟩:=xt h;exact⟨_,h,zG fun env w S vs hl=>⟨_,v_i (zi8 (xZ ha<|hx hl).1 (xZ hc<|hy hl).1) hz w,zt<|xO<|zaE hz<|zi2 (xZ ha<|hx hl).2 (xZ hc<|hy hl).2⟩⟩
   ·have h:nm (max (α:=Int) a c) (fun z=>k [(0,zg6 z)])=some r:=h;obtain⟨z,hz,h⟩:=xt h;exact⟨_,h,zG fun env w S vs hl=>⟨_,v_i (zjh (xZ ha<|hx hl).1 (xZ hc<|hy hl).1) hz w,zt<|xO<|zaE hz<|zkd (xZ ha<|hx hl).2 (xZ hc<|hy hl).2⟩⟩
  ·cases h
 ·cases h
end
end
section
def PH(S:Nat->Prop)(w:World):(ts:List Ty)->dw ts->List (Nat×Value)->Prop
 |[],_,[]=>True
 |t::ts,y,(_,v)::r=>(fV t.rep y.1 v).p S w/\PH S w ts y.2 r
 |_,_,_=>False
theorem PH.keep{S:Nat->Prop}{w w':World}(k:yw S w w'):∀{ts:List Ty}{ys:dw ts}{ps:List (Nat×Value)},PH S w ts ys ps->PH S w' ts ys ps
 |[],_,[],h=>trivial
 |t::_,y,(_,v)::_,h=>⟨(fV t.rep y.1 v).keep h.1 k,PH.keep k h.2⟩
 |[],_,_::_,h=>h.elim
 |_::_,_,[],h=>h.elim
theorem PH.sub{S S':Nat->Prop}{w:World}(k:∀k,k<w.heap.size->S k->S' k):∀{ts:List Ty}{ys:dw ts}{ps:List (Nat×Value)},PH S w ts ys ps->PH S' w ts ys ps
 |[],_,[],h=>trivial
 |t::_,y,(_,v)::_,h=>⟨(fV t.rep y.1 v).sub h.1 k,PH.sub k h.2⟩
 |[],_,_::_,h=>h.elim
 |_::_,_,[],h=>h.elim
def phF(ts:List Ty)(ys:dw ts)(ps:List (Nat×Value)):FF:=⟨fun S w=>PH S w ts ys ps,fun h k=>PH.keep k h,fun h k=>PH.sub k h⟩
section
variable{P:Program}{cf:Cf}{cx σ:Sg}{F:List MF}{vs:Nat->Value}{env:yR}{S:Nat->Prop}{w:World}{R:Type}{r:R}
 {d:Option Tmp}{ty t yt:TypeId}{pos:String}{aft:Array Edge}{g:Option (Nat×Bool)}{x y:Operand}
theorem dE:∀{ts:List Ty}{ps:List (Nat×Operand)}{j:Nat}{k:dw ts->Option R},x9 cx σ ts ps j k=some r->
 ∃ys,k ys=some r/\ps.map (·.1)=xfn j ps.length/\∀(P:Program) vs env S w,(∀x∈ps.map (·.2),Ya P vs env S w cx σ x)->PH S w ts ys (ps.map fun q:Nat×Operand=>(q.1,ev env q.2))
 |[],[],j,k,h=>⟨(),h,rfl,fun _ _ _ _ _ _=>trivial⟩
 |t::ts,(i,x)::ps,j,k,h=>by
  unfold x9 at h;obtain⟨ha,h⟩:=yn h;obtain⟨y,h,hy⟩:=X5 h;obtain⟨ys,h1,h2,h3⟩:=dE h;refine⟨(y,ys),h1,?_,fun P vs env S w hl=>⟨hy P vs env S w<|hl x<|FS,h3 P vs env S w fun z hz=>hl z<|UV _ hz⟩⟩;simp only[xbZ,xaq,List.range'_succ,h2,yc ha]
 |[],_::_,j,k,h=>by simp[x9]at h
 |_::_,[],j,k,h=>by simp[x9]at h
theorem zgt{i:Nat}{v:Value}:qs [(i,v)]=v.cells.toList:=by simp[qs]
theorem zkV{k:Nat}{s t:Ty}:Q3 (k+2) (.p s t) 0=some ⟨0,s,fun z=>z.1,fun y z=>(y,z.2)⟩:=rfl
theorem zlp{k:Nat}{s t:Ty}{i:Nat}{f:Fl t.D}(h:Q3 (k+1) t i=some f):Q3 (k+2) (.p s t) (i+1)=some ⟨s.n+f.off,f.f,fun z=>f.get z.2,fun y z=>(z.1,f.set y z.2)⟩:=by
 simp only[Q3,h]
theorem zcn{pl:Array (Nat×Nat)}:∀{k:Nat}{t:Ty}{o j:Nat}{ys:dw (Rf k t)}{ps:List (Nat×Value)}{z:t.D},(∀i f,Q3 k t i=some f->pl[j+i]? =some (o+f.off,f.f.n))->
 ps.map (·.1)=xfn j ps.length->PH S w (Rf k t) ys ps->Ur k t ys=some z->J4 (pl[·]?) ps o/\t.rep.p S z (qs ps) w
 |0,_,_,_,_,_,_,_,_,_,h=>by simp[Ur]at h
 |1,t,o,j,ys,[],z,hp,hi,h,hj=>h.elim
 |1,t,o,j,ys,[(i,v)],z,hp,hi,h,hj=>by
  simp only[Ur,xay]at hj;subst hj;have ha:i=j:=by simpa using hi
  subst ha;have h0:=hp 0 (Fl.self t) rfl;have hs:=zbv h.1;rw[t.n_rep]at hs;refine⟨⟨?_,trivial⟩,by rw[zgt];exact ZG h.1⟩;show pl[i]? =_;rw[hs];simpa[Fl.self]using h0
 |1,t,o,j,ys,_::_::_,z,hp,hi,h,hj=>h.2.elim
 |k+2,.p s t,o,j,ys,[],z,hp,hi,h,hj=>h.elim
 |k+2,.p s t,o,j,ys,(i,v)::ps,z,hp,hi,h,hj=>by
  unfold Ur at hj;split at hj
  ·next y hy=>
   obtain rfl:=xdv hj;simp only[xbZ,xaq,List.range'_succ,xez]at hi;obtain⟨rfl,hi⟩:=hi;have h0:=hp 0 _ zkV;have hs:=zbv h.1;rw[s.n_rep]at hs;obtain⟨h1,h2⟩:=zcn (o:=o+s.n) (j:=i+1) (pl:=pl) (fun i' f hf=>by
    have:=hp (i'+1) _<|zlp hf;rw[show i+1+i'=i+(i'+1)by lia,this];simp only[xcR]) hi h.2 hy
   refine⟨⟨?_,by rw[hs];exact h1⟩,?_⟩
   ·show pl[i]? =_;rw[hs];simpa using h0
   ·rw[BX];exact⟨_,_,rfl,ZG h.1,h2⟩
  ·cases hj
 |k+2,.i,_,_,_,_,_,_,_,_,h=>by simp[Ur]at h
 |k+2,.u,_,_,_,_,_,_,_,_,h=>by simp[Ur]at h
 |k+2,.b,_,_,_,_,_,_,_,_,h=>by simp[Ur]at h
 |k+2,.l _,_,_,_,_,_,_,_,_,h=>by simp[Ur]at h
 |k+2,.a _ _,_,_,_,_,_,_,_,_,h=>by simp[Ur]at h
theorem aw:∀(n:Nat) (t:Ty) (ys:dw (AU n t)),(dB n t ys).length=n
 |0,_,_=>rfl
 |n+1,t,ys=>congrArg (· +1)<|aw n t ys.2
theorem DJ{t:Ty}:∀{n j:Nat}{ys:dw (AU n t)}{ps:List (Nat×Value)},ps.map (·.1)=xfn j ps.length->PH S w (AU n t) ys ps->
 J4 (fun i=>some (i*t.rep.n,t.rep.n)) ps (j*t.rep.n)/\yx t.rep S (dB n t ys) (qs ps) w
 |0,_,_,[],_,_=>⟨trivial,rfl⟩
 |0,_,_,_::_,_,h=>h.elim
 |n+1,_,_,[],_,h=>h.elim
 |n+1,j,ys,(i,v)::ps,hi,h=>by
  simp only[xbZ,xaq,List.range'_succ,xez]at hi;obtain⟨rfl,hi⟩:=hi;have hs:=zbv h.1;obtain⟨h1,h2⟩:=DJ hi h.2;refine⟨⟨by rw[hs],?_⟩,?_⟩
  ·rw[hs,show i*t.rep.n+t.rep.n=(i+1)*t.rep.n by rw[xaR,xcb]];exact h1
  ·rw[BX];exact⟨_,_,rfl,ZG h.1,h2⟩
theorem zdA(hT:y4 P cf.tt){ps:Array (Nat×Operand)}{k:List (Nat×Dv)->Option R}(h:Mv cf cx σ t ps.toList k=some r):∃l,k l=some r/\ES P ⟨d,.build t ps,ty,pos,aft,g⟩ cx σ F l:=by
 unfold Mv at h;split at h
 ·next e n B ht=>
  obtain⟨zero,hc,hd,hi⟩:=Vu hT ht;obtain⟨ha,_,⟨fs,hk,pl,hm,ho⟩,_⟩:=(hT _ _ ht).2.2.2;simp only at hc hd hi ha ho;split at h
  ·next hr=>
   obtain rfl:ps= #[]:=by cases ps;simp_all
   exact⟨_,h,kE fun env w S vs hM hl=>⟨_,_,_,_,[],[],zfl (e:=e.rep) (z:=e.z) (ha▸hc) ha hd (.inl ⟨fs,hk,pl,hm⟩) hi,trivial,trivial,fun u w' _ hf=>zt hf.1⟩⟩
  ·next i x hr=>
   obtain rfl:ps= #[(i,x)]:=by cases ps;simp_all
   split at h
   ·next f hf=>
    obtain⟨y,h,hy⟩:=X5 h;refine⟨_,h,kE fun env w S vs hM hl=>⟨_,_,_,_,[fV f.f.rep y<|ev env x],[],SB (e:=e.rep) (f:=f.f.rep) (z0:=e.z) (y:=y) (ha▸hc) ha hi (cD hf e.z) ⟨fs,hk,hm⟩ (by rw[f.f.n_rep];exact ho i f hf) rfl (fun S w h=>h.1) rfl,trivial,⟨hy P vs env S w (yN hl<|by simp[xaM]),trivial⟩,fun u w' _ hf=>zt hf.1⟩⟩
   ·cases h
  ·next ps' hu hv=>
   obtain⟨ys,h,he,hp⟩:=dE h;split at h
   ·next z hz=>
    refine⟨_,h,kE fun env w S vs hM hl=> ?_⟩;have hq:=hp P vs env S w fun x hx=>yN hl (by simpa[xaM]using hx);have hb:(ps.toList.map fun q:Nat×Operand=>(q.1,ev env q.2)).map (·.1)=xfn 0 (ps.toList.map fun q:Nat×Operand=>(q.1,ev env q.2)).length:=by rw[xcT,xaP];exact he
    have hj:=fun(S:Nat->Prop) (w:World) (h:PH S w (Rf n e) ys (ps.toList.map fun q:Nat×Operand=>(q.1,ev env q.2)))=>zcn (pl:=pl) (o:=0) (j:=0) (fun i f hf=>by rw[xaN,xaN];exact ho i f hf) hb h hz;exact⟨_,_,_,_,[phF _ ys (ps.toList.map fun q:Nat×Operand=>(q.1,ev env q.2))],[],Hv (e:=e.rep) (z:=z) (x9:=ps.toList) (ha▸hc) ha hd rfl (.inl ⟨fs,hk,pl,hm,fun S w h=>(hj S w h.1).1⟩)<|fun S w h=>(hj S w h.1).2,trivial,⟨hq,trivial⟩,fun u w' _ hf=>zt hf.1⟩
   ·cases h
 ·next n e n' E B ht=>
  obtain⟨hg,h⟩:=yn h;rw[xam]at hg;have hn:=yc hg.1;subst hn;obtain⟨b2,z2,hs⟩:=zbo hT hg.2;obtain⟨ys,h,he,hp⟩:=dE h;obtain⟨zero,hc,hd,hi⟩:=Vu hT ht;refine⟨_,h,kE fun env w S vs hM hl=> ?_⟩;have hq:=hp P vs env S w fun x hx=>yN hl (by simpa[xaM]using hx);have hb:(ps.toList.map fun q:Nat×Operand=>(q.1,ev env q.2)).map (·.1)=xfn 0 (ps.toList.map fun q:Nat×Operand=>(q.1,ev env q.2)).length:=by rw[xcT,xaP];exact he
  have hj:=fun(S:Nat->Prop) (w:World) (h:PH S w (AU n' e) ys (ps.toList.map fun q:Nat×Operand=>(q.1,ev env q.2)))=>DJ hb h;exact⟨_,_,_,_,[phF _ ys (ps.toList.map fun q:Nat×Operand=>(q.1,ev env q.2))],[],Hv (e:=(Ty.a n' e).rep) (z:=dB n' e ys) (x9:=ps.toList) hc rfl hd rfl (.inr ⟨_,_,_,_,_,_,zbD hT ht,hs,fun S w h=>by have:=(hj S w h.1).1;rwa[xcs]at this⟩)<|fun S w h=>⟨aw n' e ys,(hj S w h.1).2⟩,trivial,⟨hq,trivial⟩,fun u w' _ hf=>zt hf.1⟩
 ·cases h
theorem zcp{s E:TypeId}{e:Ty}{B:Nat}(hT:y4 P cf.tt)(hL:jT P cf.tt)(h:Yh cf s=some ⟨.l e,.sl E,B⟩):0<e.rep.n:=by
 obtain⟨ti,h1,rfl⟩:=hL _ _ _ _ h;exact(hT _ _ h1).2.2.1
theorem zkz(hT:y4 P cf.tt)(hL:jT P cf.tt){n:Nat}{ps:Array (Nat×Operand)}{k:List (Nat×Dv)->Option R}(h:zhG cf cx σ t n ps.toList k=some r):∃l,k l=some r/\ES P ⟨d,.buildSlice t n ps,ty,pos,aft,g⟩ cx σ F l:=by
 unfold zhG at h;split at h
 ·next e E B ht=>
  obtain⟨ha,h⟩:=yn h;have ha:=xbM ha;rw[<-e.n_rep]at ha;obtain⟨ys,h,hc,hd⟩:=dE h;obtain⟨bytes,zero,he⟩:=VU hT hL ht;refine⟨_,h,kE fun env w S vs hM hl=> ?_⟩;have hg:=hd P vs env S w fun x hx=>yN hl (by simpa[xaM]using hx);have hb:(ps.toList.map fun q:Nat×Operand=>(q.1,ev env q.2)).map (·.1)=xfn 0 (ps.toList.map fun q:Nat×Operand=>(q.1,ev env q.2)).length:=by rw[xcT,xaP];exact hc
  have hj:=fun(S:Nat->Prop) (w:World) (h:PH S w (AU n e) ys (ps.toList.map fun q:Nat×Operand=>(q.1,ev env q.2)))=>DJ hb h;exact⟨_,_,_,_,[phF _ ys (ps.toList.map fun q:Nat×Operand=>(q.1,ev env q.2))],[],AE (e:=e.rep) (zs:=dB n e ys) (x9:=ps.toList) (vq hT ht) he (zcp hT hL ht) (aw n e ys) ha rfl (fun S w h=>by have:=(hj S w h.1).1;rwa[xcs]at this)<|fun S w h=>(hj S w h.1).2,trivial,⟨hg,trivial⟩,fun u w' _ hf=>zt hf.1⟩
 ·cases h
theorem zb4:∀{xs:List Operand}{l:List PD},JJ cx σ xs=some l->l.length=xs.length/\∀(P:Program) vs env S w,(∀x∈xs,Ya P vs env S w cx σ x)->zD S (C2 l<|xs.map<|ev env) w
 |[],l,h=>by simp only[JJ,xay]at h;subst h;exact⟨rfl,fun _ _ _ _ _ _=>trivial⟩
 |x::xs,l,h=>by
  unfold JJ at h;split at h
  ·next t y l' hx hr=>
   simp only[xay]at h;subst h;obtain⟨h1,h2⟩:=zb4 hr;exact⟨by simp[h1],fun P vs env S w hl=>⟨zn hx<|hl x<|FS,h2 P vs env S w fun z hz=>hl z<|UV _ hz⟩⟩
  ·cases h
theorem zi9{f:Go.Fn}{first cs:Array Operand}{k:List (Nat×Dv)->Option R}(h:zhF cx σ f first.toList cs.toList k=some r):∃l,k l=some r/\ES P ⟨d,.makeFunc f first cs,ty,pos,aft,g⟩ cx σ F l:=by
 unfold zhF at h;split at h
 ·next _ _ _ f' l hf hc=>
  obtain rfl:first= #[]:=by cases first;simp_all
  obtain⟨h1,h2⟩:=zb4 hc;refine⟨_,h,zG fun env w S vs hl=>⟨_,zlg (xs:=cs.toList) rfl w,zt ?_⟩⟩;exact⟨_,rfl,by simp[h1],h2 P vs env S w fun x hx=>yN hl<|by simpa[xaM]using hx⟩
 ·cases h
end
end
section
section
variable{P:Program}{cf:Cf}{cx σ:Sg}{F:List MF}{vs:Nat->Value}{env:yR}{S:Nat->Prop}{w:World}{R:Type}{r:R}
 {d:Option Tmp}{ty t yt:TypeId}{pos:String}{aft:Array Edge}{g:Option (Nat×Bool)}{x y:Operand}
theorem BP{A B C:Type}(h:B=C)(p:(A×B)=(A×C))(x:A×B):(p▸x:A×C)=(x.1,h▸x.2):=by subst h;rfl
theorem St.sub'{we:World}{Se:Nat->Prop}{ms:List MF}{Γ Δ:List FF}{w:World}(h:St we Se ms Γ w)(hs:∀f∈Δ,f∈Γ):St we Se ms Δ w:=by grind [St.weak,jH]
theorem zjz{t:Ty}{n:RM}{r:List RM}(x:dq (.d t::n::r)):(Yy (.d t::n::r)▸x:B4 ((RM.d t::n::r).map RM.ty))=((x.1,Yy (n::r)▸x.2):t.D×B4 ((n::r).map RM.ty)):=
 BP (A:=t.D) (Yy (n::r)) (Yy (.d t::n::r)) x
theorem zjM{t:Ty}{E:TypeId}{n:RM}{r:List RM}(x:dq (.own t E::n::r)):(Yy (.own t E::n::r)▸x:B4 ((RM.own t E::n::r).map RM.ty))=((x.1,Yy (n::r)▸x.2):(Ty.l t).D×B4 ((n::r).map RM.ty)):=
 BP (A:=List t.D) (Yy (n::r)) (Yy (.own t E::n::r)) x
theorem zck{we:World}{Se:Nat->Prop}:∀{rs:List RM}{x:dq rs}{us:List Value}{F:List MF}{G:List FF}{w:World},
 St we Se (Zf rs x us++F) (Ze rs x us++G) w->St we Se F (csF (rs.map RM.ty) (Yy rs▸x) us++G) w
 |[],_,_,_,_,_,h=>h
 |[.d t],x,us,F,G,w,h=>h
 |[.own t E],x,us,F,G,w,h=>by
  have h:St we Se (mO t.rep E (us.headD undef) x::F) G w:=h;exact ER 0 h rfl
 |.d t::n::r,x,us,F,G,w,h=>by
  rw[zjz];have h:St we Se (Zf (n::r) x.2 us.tail++F) (Ze (n::r) x.2 us.tail++(fV t.rep x.1 (us.headD undef)::G)) w:=St.sub' (by simpa[Zf,Ze,rmM,rmF]using h) (by simp;rintro f (h|h|h)<;>simp[h]);have:=zck h;exact St.sub' this (by
   intro f hf;rcases Nm.1 hf with hf|hf
   ·rcases xad.1 hf with rfl|hf
    ·exact Nm.2 (.inr<|FS)
    ·exact Nm.2 (.inl hf)
   ·exact Nm.2 (.inr<|UV _ hf))
 |.own t E::n::r,x,us,F,G,w,h=>by
  rw[zjM];have h:St we Se (mO t.rep E (us.headD undef) x.1::(Zf (n::r) x.2 us.tail++F)) (Ze (n::r) x.2 us.tail++G) w:=h;have h:=ER 0 h rfl;have h:St we Se (Zf (n::r) x.2 us.tail++F) (Ze (n::r) x.2 us.tail++(fV (eS t.rep) x.1 (us.headD undef)::G)) w:=St.sub' h (by simp;rintro f (h|h|h)<;>simp[h]);have:=zck h;exact St.sub' this (by
   intro f hf;rcases Nm.1 hf with hf|hf
   ·rcases xad.1 hf with rfl|hf
    ·exact Nm.2 (.inr<|FS)
    ·exact Nm.2 (.inl hf)
   ·exact Nm.2 (.inr<|UV _ hf))
theorem CT:∀{rs:List RM}{x:dq rs}{i:Nat},R8 rs x i=zb3 (rs.map RM.ty) (Yy rs▸x) i
 |[],_,_=>rfl
 |[.d _],_,_=>rfl
 |[.own _ _],_,_=>rfl
 |.d t::n::r,x,i=>by rw[zjz];show(i,Dv.d t x.1)::R8 (n::r) x.2 (i+1)=_;rw[CT];rfl
 |.own t E::n::r,x,i=>by rw[zjM];show(i,Dv.d (.l t) x.1)::R8 (n::r) x.2 (i+1)=_;rw[CT];rfl
theorem Gb:∀rs:List RM,J7 rs=zeg (rs.map RM.ty)
 |[]=>rfl
 |[_]=>rfl
 |_::_::_=>rfl
theorem zaS:∀{ts:List Ty}{x:B4 ts}{i:Nat}{us:List Value},zD S (csF ts x us) w->us.length=ts.length->∀e∈zb3 ts x i,∃j u,e.1=i+j/\us[j]? =some u/\(vo P vs e.2 u).p S w
 |[],_,_,_,_,_,e,he=>absurd he IR
 |[t],x,i,[],h,hl,e,he=>by cases hl
 |[t],x,i,u::us,h,hl,e,he=>by
  obtain rfl:=xai.1 he;exact⟨0,u,rfl,rfl,h.1⟩
 |t::s::r,x,i,[],h,hl,e,he=>by cases hl
 |t::s::r,x,i,u::us,h,hl,e,he=>by
  rcases xad.1 he with rfl|he
  ·exact⟨0,u,rfl,rfl,h.1⟩
  ·obtain⟨j,v,h1,h2,h3⟩:=zaS (i:=i+1) h.2 (by simpa using hl) e he;exact⟨j+1,v,by lia,by simpa using h2,h3⟩
theorem rI:∀{ts:List Ty}{x:B4 ts}{us:List Value},zD S (csF ts x us) w->us.length=ts.length->∀e∈zb3 ts x (bif zeg ts then 0 else 1),(xN P vs e.2 (Yg us) e.1).p S w
 |[],_,_,_,_,e,he=>absurd he IR
 |[t],x,[],_,hl,_,_=>by cases hl
 |[t],x,[v],h,hl,e,he=>by
  obtain rfl:=xai.1 he;exact h.1
 |[t],x,_::_::_,_,hl,_,_=>by simp at hl
 |t::s::q,x,[],_,hl,_,_=>by cases hl
 |t::s::q,x,[_],_,hl,_,_=>by simp at hl
 |t::s::q,x,v::v'::us,h,hl,e,he=>by
  obtain⟨j,u,h1,h2,h3⟩:=zaS (P:=P) (vs:=vs) h hl e he;obtain⟨i,dv⟩:=e;simp only[zeg,cond_false]at h1;obtain rfl:i=j+1:=by lia
  exact⟨(v::v'::us).toArray,u,rfl,by simpa using h2,h3⟩
theorem og:∀{cs:List VF}{f:FuncId}{s:VF},Cy cs f=some s->s∈cs/\s.f=f/\pK s.dom=true/\s.bk=0
 |c::cs,f,s,h=>by
  unfold Cy at h;cases hb:xao c.f f && (pK c.dom && xao c.bk 0)<;>rw[hb]at h
  ·obtain⟨h1,h2⟩:=og h;exact⟨UV _ h1,h2⟩
  ·simp only[cond_true,xay]at h;subst h;rw[xam,xam]at hb;exact⟨FS,yc hb.1,hb.2.1,yc hb.2.2⟩
theorem gw:∀{dom:List AM}{x:UI dom}{us:List Value},pK dom=true->Y9 dom x us=[]
 |[],_,_,_=>rfl
 |.d _::r,x,us,h=>gw (dom:=r) (x:=x.2) (us:=us.tail) h
 |.q _::r,x,us,h=>gw (dom:=r) (x:=x.2) (us:=us.tail) h
 |.fn _ _::r,x,us,h=>gw (dom:=r) (x:=x.2) (us:=us.tail) h
 |.own _ _::_,_,_,h=>by cases h
theorem C5:∀{full:List AM}{cs:List PD}{z:UI full},Kh full cs=some z->cs.length=full.length/\∀{S:Nat->Prop}{w:World}{cvs:List Value},cvs.length=cs.length->zD S (C2 cs cvs) w->zD S (ua P full z cvs) w
 |[],[],_,_=>⟨rfl,fun _ _=>trivial⟩
 |.q t::r,c::cs,z,h=>by
  simp only[Kh]at h;obtain⟨e,h⟩:=yo h;subst e;split at h
  ·next z' hz=>
   obtain rfl:=xdv h;obtain⟨h1,h2⟩:=C5 hz;refine⟨by simp[h1],fun{S w cvs} hl ha=> ?_⟩
   cases cvs with
   |nil=>cases hl
   |cons v cvs=>exact⟨ha.1,h2 (by simpa using hl) ha.2⟩
  ·cases h
 |[],_::_,_,h=>by simp[Kh]at h
 |.q _::_,[],_,h=>by simp[Kh]at h
 |.d _::_,_,_,h=>by simp[Kh]at h
 |.own _ _::_,_,_,h=>by simp[Kh]at h
 |.fn _ _::_,_,_,h=>by simp[Kh]at h
theorem zbc:∀{full:List AM}{dom:List Ty}{x:dw dom}{cs:List PD}{z:UI full},DD full dom x cs=some z->dom.length+cs.length=full.length/\
 ∀{S:Nat->Prop}{w:World}{us cvs:List Value},us.length=dom.length->cvs.length=cs.length->zD S (tsF dom x us) w->zD S (C2 cs cvs) w->zD S (ua P full z<|us++cvs) w
 |full,[],x,cs,z,h=>by
  have h:Kh full cs=some z:=by cases full<;>(try cases‹AM›)<;>simpa[DD]using h
  obtain⟨h1,h2⟩:=C5 (P:=P) h;refine⟨by simp[h1],fun{S w us cvs} hl hb _ ha=> ?_⟩;obtain rfl:=xbF.1 hl;exact h2 hb ha
 |.d t::r,s::dom,x,cs,z,h=>by
  simp only[DD]at h;obtain⟨e,h⟩:=yo h;subst e;split at h
  ·next z' hz=>
   obtain rfl:=xdv h;obtain⟨h1,h2⟩:=zbc hz;refine⟨by simp;lia,fun{S w us cvs} hl hb ht ha=> ?_⟩
   cases us with
   |nil=>cases hl
   |cons v us=>exact⟨ht.1,h2 (by simpa using hl) hb ht.2 ha⟩
  ·cases h
 |[],_::_,_,_,_,h=>by simp[DD]at h
 |.q _::_,_::_,_,_,_,h=>by simp[DD]at h
 |.own _ _::_,_::_,_,_,_,h=>by simp[DD]at h
 |.fn _ _::_,_::_,_,_,_,h=>by simp[DD]at h
theorem zba{A B:Type}(h:A=B){o:Option A}{r:B}(ho:(h▸o:Option B)=some r):∃r':A,o=some r'/\(h▸r':B)=r:=by
 subst h;exact⟨r,ho,rfl⟩
theorem c9{s:VF}(hs:y9 P s)(hn:pK s.dom=true)(hk:s.bk=0){z:UI s.dom}{q:dq s.cod}(hz:s.M z=some q){us:List Value}(hl:us.length=s.dom.length):
 Fn P s.f us.toArray (ua P s.dom z us) Yg (fun us=>csF (s.cod.map RM.ty) (Yy s.cod▸q) us) (fun us=>us.length=s.cod.length):=by
 have h:=hs.plain hk hz hl;rw[gw hn]at h;refine Ot.frozen h fun u w' we Se ha=> ?_;have:=zck (rs:=s.cod) (x:=q) (us:=u) (F:=[]) (G:=[]) (by simpa using ha);simpa using this
theorem Fn.weakΓ{U:Type}{f:FuncId}{args:Array Value}{Γ Γ':List FF}{val:U->Value}{facts:U->List FF}{ok:U->Prop}(h:Fn P f args Γ val facts ok)(hs:∀S w,zD S Γ' w->zD S Γ w):Fn P f args Γ' val facts ok:=
 fun w Se h1 h2=>h w Se h1<|hs Se w h2
theorem zc4(hC:∀s∈cf.cs,y9 P s){v:Option Dv}{dom cod:List Ty}{k:(dw dom->Option (B4 cod))->Option R}(h:asF cf σ v dom cod k=some r):
 ∃g,k g=some r/\∀vs S w (dv:Dv) u,v=some dv->(vo P vs dv u).p S w->(fnF P dom cod g u).p S w:=by
 unfold asF at h;split at h
 ·next f c=>
  split at h
  ·next s hs=>
   obtain⟨h1,h2,h3,h4⟩:=og hs;have hf:=hC s h1;split at h
   ·next he _=>
    subst he;refine⟨_,h,fun vs S w dv u hd hh=> ?_⟩;cases hd;obtain⟨cs,hu,hi,hj⟩:=hh;refine⟨f,cs,C2 c cs,hu,⟨h2▸hf.1,fun x q hx us hl=> ?_⟩,hj⟩;simp only at hx;split at hx
    ·next z hz=>
     obtain⟨q',hk,hm⟩:=zba _ hx;obtain⟨hp,hb⟩:=zbc (P:=P) hz;have hg:=c9 hf h3 h4 hk (us:=us++cs) (by simp;lia);rw[h2]at hg;subst hm;refine(hg.weakΓ fun S w ha=>hb hl hi (zD.left ha)<|zD.right ha).ok_mono fun us hn=>by simpa using hn
    ·cases hx
   ·cases h
  ·cases h
 ·next d' c' g'=>
  split at h
  ·next hd hc _ _=>
   subst hd;subst hc;exact⟨_,h,fun vs S w dv u ho hh=>by cases ho;exact hh⟩
  ·cases h
 ·cases h
end
end
section
def cL(P:Program)(ex:List (Nat×Bool)):Prop:=∀f b,Jz ex f=some b->∃fn,P.funcs[f]? =some fn/\(fn.name== "runtime.NumGoroutine")=false/\fn.body=none/\(xey fn).isNone=true/\
 (b=true->xeW fn=some (fun args=>do
  let(x,y,c)<-xbP "Add64" args
  pure (xbV ((x+y+c)%xaY)<|(x+y+c)/xaY)))/\
 (b=false->xeW fn=some (fun args=>do
  let(x,y,b)<-xbP "Sub64" args
  pure (xbV ((x+xaY-y-b)%xaY) (if x<y+b then 1 else 0))))
section
variable{P:Program}{cf:Cf}{cx σ:Sg}{F:List MF}{vs:Nat->Value}{env:yR}{S:Nat->Prop}{w:World}{R:Type}{r:R}
 {d:Option Tmp}{ty t yt:TypeId}{pos:String}{aft:Array Edge}{g:Option (Nat×Bool)}{x y:Operand}
theorem zkj{x y z:Nat}{k:List (Nat×Dv)->Option R}(h:exU true x y z k=some r):z<=1/\∃p q:Nat,p=(x+y+z)%18446744073709551616/\q=(x+y+z)/18446744073709551616/\k [(1,.d .u p),(2,.d .u q)]=some r:=by
 obtain⟨h1,h⟩:=kU h;obtain⟨p,hp,h⟩:=xt h;obtain⟨q,hq,h⟩:=xt h;exact⟨h1,p,q,hp,hq,h⟩
theorem ziT{x y z:Nat}{k:List (Nat×Dv)->Option R}(h:exU false x y z k=some r):z<=1/\∃p q:Nat,p=(x+18446744073709551616-y-z)%18446744073709551616/\q=(if x<y+z then 1 else 0)/\k [(1,.d .u p),(2,.d .u q)]=some r:=by
 obtain⟨h1,h⟩:=kU h;obtain⟨p,hp,h⟩:=xt h;obtain⟨q,hq,h⟩:=xt h;exact⟨h1,p,q,hp,hq,h⟩
theorem fH(hC:∀s∈cf.cs,y9 P s):∀{dom:List AM}{xs:List Operand}{cs:List PD}{k:UI dom->Option R},X2 cf cx σ dom xs cs k=some r->
 ∃z,k z=some r/\xs.length+cs.length=dom.length/\∀vs env S w,(∀x∈xs,Ya P vs env S w cx σ x)->∀cvs:List Value,cvs.length=cs.length->zD S (C2 cs cvs) w->zD S (ua P dom z<|xs.map (ev env)++cvs) w
 |[],[],[],k,h=>⟨(),h,rfl,fun _ _ _ _ _ _ _ _=>trivial⟩
 |.q t::dom,[],c::cs,k,h=>by
  simp only[X2]at h;obtain⟨e,h⟩:=yo h;subst e;obtain⟨z,h1,h2,h3⟩:=fH hC h;refine⟨_,h1,by simp at h2⊢;lia,fun vs env S w hl cvs ha hb=> ?_⟩
  cases cvs with
  |nil=>cases ha
  |cons v cvs=>exact⟨hb.1,h3 vs env S w hl cvs (by simpa using ha) hb.2⟩
 |.d t::dom,x::xs,cs,k,h=>by
  simp only[X2]at h;obtain⟨y,h,hy⟩:=X5 h;obtain⟨z,h1,h2,h3⟩:=fH hC h;exact⟨_,h1,by simp at h2⊢;lia,fun vs env S w hl cvs ha hb=>⟨hy P vs env S w<|hl x<|FS,h3 vs env S w (fun z hz=>hl z<|UV _ hz) cvs ha hb⟩⟩
 |.q t::dom,x::xs,cs,k,h=>by
  simp only[X2]at h;split at h
  ·next s y hx=>
   obtain⟨e,h⟩:=yo h;subst e;obtain⟨z,h1,h2,h3⟩:=fH hC h;exact⟨_,h1,by simp at h2⊢;lia,fun vs env S w hl cvs ha hb=>⟨zn hx<|hl x<|FS,h3 vs env S w (fun z hz=>hl z<|UV _ hz) cvs ha hb⟩⟩
  ·cases h
 |.fn dom' cod::dom,x::xs,cs,k,h=>by
  simp only[X2]at h;obtain⟨f,h,hf⟩:=zc4 hC h;obtain⟨z,h1,h2,h3⟩:=fH hC h;refine⟨_,h1,by simp at h2⊢;lia,fun vs env S w hl cvs ha hb=>⟨?_,h3 vs env S w (fun z hz=>hl z<|UV _ hz) cvs ha hb⟩⟩
  cases hv:x8 cx σ x with
  |none=>rename_i h0;rw[hv]at h0;simp[asF]at h0
  |some v=>exact hf vs S w v _ hv<|zn hv<|hl x<|FS
 |[],_::_,_,_,h=>by simp[X2]at h
 |[],[],_::_,_,h=>by simp[X2]at h
 |.d _::_,[],_,_,h=>by simp[X2]at h
 |.own _ _::_,_,_,_,h=>by simp[X2]at h
 |.fn _ _::_,[],_,_,h=>by simp[X2]at h
 |.q _::_,[],[],_,h=>by simp[X2]at h
theorem Ei:∀{dom:List Ty}{xs:List Operand}{k:dw dom->Option R},sV cx σ dom xs k=some r->
 ∃z,k z=some r/\xs.length=dom.length/\∀(P:Program) vs env S w,(∀x∈xs,Ya P vs env S w cx σ x)->zD S (tsF dom z<|xs.map<|ev env) w
 |[],[],k,h=>⟨(),h,rfl,fun _ _ _ _ _ _=>trivial⟩
 |t::dom,x::xs,k,h=>by
  simp only[sV]at h;obtain⟨y,h,hy⟩:=X5 h;obtain⟨z,h1,h2,h3⟩:=Ei h;exact⟨_,h1,by simp[h2],fun P vs env S w hl=>⟨hy P vs env S w<|hl x<|FS,h3 P vs env S w<|fun z hz=>hl z<|UV _ hz⟩⟩
 |[],_::_,_,h=>by simp[sV]at h
 |_::_,[],_,h=>by simp[sV]at h
theorem zhr(hC:∀s∈cf.cs,y9 P s)(hX:cL P cf.ex){f:Operand}{ags:Array Operand}{ts:Array TypeId}{k:List (Nat×Dv)->Option R}(h:TS cf cx σ f ags.toList k=some r):
 ∃l,k l=some r/\ES P ⟨d,.call ⟨.value f,ags,ts⟩,ty,pos,aft,g⟩ cx σ F l:=by
 have hf:∀{vs env S w},(∀t'∈yD (.call ⟨.value f,ags,ts⟩),Lk P vs env S w cx σ t')->Ya P vs env S w cx σ f:=fun hl=>yN hl (by simp[xaM,xej]);have ha:∀{vs env S w},(∀t'∈yD (.call ⟨.value f,ags,ts⟩),Lk P vs env S w cx σ t')->∀x∈ags.toList,Ya P vs env S w cx σ x:=fun hl x hx=>yN hl (by simp only[xaM,xej,Array.toList_append,Nm];exact .inr hx);unfold TS at h;split at h
 ·next f0 cs hc=>
  split at h
  ·next s hs=>
   obtain⟨h1,h2,h3,h4⟩:=og hs;have hr:=hC s h1;obtain⟨z,h,hd,hz⟩:=fH hC h;obtain⟨q,hq,h⟩:=rk h;refine⟨_,h,kE fun env w S vs hM hl=> ?_⟩;obtain⟨cvs,hv,ht,hu⟩:=zn hc<|hf hl;have hk:=c9 hr h3 h4 hq (us:=ags.toList.map (ev env)++cvs) (by simp at hd⊢;lia);rw[h2]at hk;refine⟨_,_,_,_,ua P s.dom z<|ags.toList.map (ev env)++cvs,[],dP (asv:=ags.toList) (h2▸hr.1) hv hk rfl<|fun S w h=>h,trivial,hz vs env S w (ha hl) cvs ht hu,fun us w' hm hn=> ?_⟩;unfold zeC;rw[CT,Gb];exact rI hn<|by simpa using hm
  ·split at h
   ·next _ _ _ b x y z hb hD=>
    obtain rfl:ags= #[x,y,z]:=by cases ags;simp_all
    obtain⟨hw,h⟩:=yn h
    cases f with
    |func f1=>
     simp only[x8,xay,Dv.fn.injEq]at hc;obtain⟨rfl,_⟩:=hc;obtain⟨fn,e1,e2,e3,e4,e5,e6⟩:=hX _ _ hb;unfold exD at h;split at h
     ·next x' y' z' hx hy hz=>
      cases b
      ·obtain⟨hg,p,q,hp,hq,h⟩:=ziT h;refine⟨_,h,zG fun env w S vs hl=> ?_⟩;have hi:=xK hx (ha hl x<|by simp);have hj:=xK hy (ha hl y<|by simp);have ho:=xK hz (ha hl z<|by simp);refine⟨_,v_2 (zd1 e1 e2 e3 e4 (e6 rfl) hi.1 hj.1 ho.1 hg) hp hq w,fun e he=> ?_⟩;rcases xad.1 he with rfl|he
       ·exact⟨_,_,rfl,rfl,qP<|Y5 hp⟩
       ·obtain rfl:=xai.1 he;exact⟨_,_,rfl,rfl,qP<|zd7 hi.2 hj.2 hg hq⟩
      ·obtain⟨hg,p,q,hp,hq,h⟩:=zkj h;refine⟨_,h,zG fun env w S vs hl=> ?_⟩;have hi:=xK hx (ha hl x<|by simp);have hj:=xK hy (ha hl y<|by simp);have ho:=xK hz (ha hl z<|by simp);refine⟨_,v_2 (zfo e1 e2 e3 e4 (e5 rfl) hi.1 hj.1 ho.1 hg) hp hq w,fun e he=> ?_⟩;rcases xad.1 he with rfl|he
       ·exact⟨_,_,rfl,rfl,qP<|Y5 hp⟩
       ·obtain rfl:=xai.1 he;exact⟨_,_,rfl,rfl,qP<|zew hi.2 hj.2 hg hq⟩
     ·cases h
    |_=>simp[zjJ]at hw
   ·cases h
 ·next dom cod g' hc=>
  obtain⟨z,h,hd,hz⟩:=Ei h;obtain⟨q,hq,h⟩:=rk h;refine⟨_,h,kE fun env w S vs hM hl=> ?_⟩;obtain⟨fid,JJ,FG,hv,⟨hb,hA⟩,hB⟩:=zn hc<|hf hl;have hk:=hA z q hq (ags.toList.map<|ev env) (by simpa using hd);exact⟨_,_,_,_,tsF dom z (ags.toList.map<|ev env)++FG,[],dP (asv:=ags.toList) hb hv hk rfl<|fun S w h=>h,trivial,zD.append (hz P vs env S w<|ha hl) hB,fun us w' hm hn=>rI hn hm⟩
 ·cases h
theorem zhs(hT:y4 P cf.tt)(hL:jT P cf.tt)(hC:∀s∈cf.cs,y9 P s)(hX:cL P cf.ex){op:Op}{k:List (Nat×Dv)->Option R}(h:zin cf cx σ op k=some r):∃l,k l=some r/\ES P ⟨d,op,ty,pos,aft,g⟩ cx σ F l:=by
 unfold zin at h;split at h
 ·exact zcT (.inl rfl) h
 ·exact zcT (.inr rfl) h
 ·exact zjp h
 ·exact zgB h
 ·exact zke h
 ·exact zka h
 ·exact bop h<|zd8 hT
 ·exact zjc hT h
 ·exact zha hT h
 ·exact zfu hT hL h
 ·exact zeR hT h
 ·exact SQ hT h
 ·exact zeV hT hL h
 ·exact zj8 hT h
 ·exact zjA h
 ·exact zdA hT h
 ·exact zkz hT hL h
 ·exact zi9 h
 ·exact zjs hT h
 ·exact zjv (b:=true) h
 ·exact zjv (b:=false) h
 ·exact zhr hC hX h
 ·cases h
end
end
section
def MB(P:Program)(s:La):Prop:=
 Af P s.f=true/\∀(x:dw s.dom) (vs:List Value),vs.length=s.dom.length->Fn P s.f vs.toArray (tsF s.dom x vs) (fun v:Value=>v) (fun v=>[zhk s.g (s.mc x) v]) (fun _=>True)
def MW(P:Program)(s:tH):Prop:=
 Af P s.f=true/\∀xss ix r a p lo n xss',s.M xss ix r a p lo n=some xss'->∀(u hr hv:Value),(vg u)[r]? =some hr->FI (y5 u) lo n hv->VH a->VH p->
  ∀we Se F G w,St we Se (mm s.t.rep s.E s.E1 u xss ix::F) G w->Calls P s.f #[hr,.int .i64 a,.int .i64 p,hv] w fun e w'=>∃v u',e=.returned v/\y5 u'=y5 u/\St we Se (mm s.t.rep s.E s.E1 u' xss' ix::F) G w'
def zde(P:Program)(s:Ba):Prop:=
 Af P s.f=true/\∀(x:UI s.dom) (X Y:Type) (mX:X->Value->MF) (mY:Y->Value->MF) (g:List s.t.D->X->Option (List s.t.D×(X⊕Y))) (x0:X) (r:X⊕Y),s.M x g x0=some r->∀(l:Nat) (vs:List Value),vs.length=s.dom.length->HV P l s.t.rep s.E mX mY g->
  ∀u we Se F G w,St we Se (mX x0 u::F) (ua P s.dom x vs++G) w->Calls P s.f (.func (.yield l) #[] #[]::vs).toArray w fun e w'=>(∃v,e=.returned v)/\∃u',St we Se (xfu (fun x=>mX x u') (fun y=>mY y u') r::F) G w'
structure Ak(P:Program)(cf:Cf):Prop where
 ex:cL P cf.ex
 cl:∀s∈cf.cl,MB P s
 ms:∀s∈cf.ms,MW P s
 is:∀s∈cf.is,zde P s
 pp:P=Tryz.prog
section
variable{P:Program}{cf:Cf}{cx σ:Sg}{F:List MF}{vs:Nat->Value}{env:yR}{S:Nat->Prop}{w:World}{R:Type}{r:R}
 {d:Option Tmp}{ty t yt:TypeId}{pos:String}{aft:Array Edge}{g:Option (Nat×Bool)}{x y:Operand}
theorem zaa{f:FuncId}:∀{l:List tH}{s:tH},SZ l f=some s->s∈l/\s.f=f
 |c::l,s,h=>by
  unfold SZ at h;cases hb:xao c.f f<;>rw[hb]at h
  ·obtain⟨h1,h2⟩:=zaa h;exact⟨UV _ h1,h2⟩
  ·simp only[cond_true,xay]at h;subst h;exact⟨FS,yc hb⟩
theorem TM{f:FuncId}:∀{l:List La}{s:La},zcg l f=some s->s∈l/\s.f=f
 |c::l,s,h=>by
  unfold zcg at h;cases hb:xao c.f f<;>rw[hb]at h
  ·obtain⟨h1,h2⟩:=TM h;exact⟨UV _ h1,h2⟩
  ·simp only[cond_true,xay]at h;subst h;exact⟨FS,yc hb⟩
theorem zbn{f:FuncId}:∀{l:List Ba}{s:Ba},zey l f=some s->s∈l/\s.f=f
 |c::l,s,h=>by
  unfold zey at h;cases hb:xao c.f f<;>rw[hb]at h
  ·obtain⟨h1,h2⟩:=zbn h;exact⟨UV _ h1,h2⟩
  ·simp only[cond_true,xay]at h;subst h;exact⟨FS,yc hb⟩
theorem CX{α:Type}{e:z7 α}{E E1:TypeId}{u:Value}{xss:List (List α)}{ix:List Nat}(h:(mm e E E1 u xss ix).p S w):(vg u).length=xss.length/\(mO (Zm<|vg u) E (y5 u) ix).p S w/\yB S (wx e E1 (vg u) xss) w:=⟨h.1.1,h.1.2.1,h.1.2.2⟩
theorem lv{α:Type}{e:z7 α}{E E1:TypeId}{u v:Value}{xss:List (List α)}{ix:List Nat}{r:Nat}(h:(mm e E E1 u xss ix).p S w)(hr:(vg u)[r]? =some v):(mO e E1 v<|jM xss r).p S w/\r<xss.length:=by
 obtain⟨h1,_,h3⟩:=CX h;have hl:=(xau.1 hr).1;have h4:xss[r]? =some (jM xss r):=by
  unfold jM;rw[H1,xaa<|by lia];rfl
 exact⟨yB.get h3<|W6 hr h4,by lia⟩
theorem TE(hT:y4 P cf.tt)(hL:jT P cf.tt){k:List (Nat×Dv)->Option R}(h:DS cf cx σ t x y k=some r):∃l,k l=some r/\ES P ⟨d,.indexAddr t x y,ty,pos,aft,g⟩ cx σ F l:=by
 have hx:∀{vs env S w},(∀t'∈yD (.indexAddr t x y),Lk P vs env S w cx σ t')->Ya P vs env S w cx σ x:=fun hl=>yN hl (by simp[xaM]);have hy:∀{vs env S w},(∀t'∈yD (.indexAddr t x y),Lk P vs env S w cx σ t')->Ya P vs env S w cx σ y:=fun hl=>yN hl (by simp[xaM]);unfold DS at h;split at h
 ·next e E B o ht ha=>
  split at h
  ·next s E' E1 xss ix ho=>
   obtain⟨bytes,zero,hb⟩:=VU hT hL ht;obtain⟨j,hj,h,hc⟩:=H3 h;refine⟨_,h,?_⟩;intro env w S vs hS hM hl;obtain⟨ik,hd⟩:=hc P vs env S w<|hy hl;have hm:(mm s.rep E' E1 (vs o) xss ix).p S w:=uR hM ho;obtain⟨b,cap,hv,_⟩:=QO (CX hm).2.1<|xba (xah _) hj;have he:ev env x=y5 (vs o):=zn ha<|hx hl;exact kF.of_value (n4 (vq hT ht) hb (he.trans hv) hd hj w) ⟨yw.refl _ _,zt ⟨b,_,_,hv,hj,rfl⟩⟩
  ·cases h
 ·next e E B o lo n ht ha=>
  split at h
  ·next s E' E1 xss ix ho=>
   obtain⟨bytes,zero,hb⟩:=VU hT hL ht;obtain⟨j,hj,h,hc⟩:=H3 h;refine⟨_,h,?_⟩;intro env w S vs hS hM hl;obtain⟨ik,hd⟩:=hc P vs env S w<|hy hl;rcases(zn ha (hx hl):FI _ _ _ _).old with⟨b,m,cap,c,q1,q2,q3,q4,q5⟩|⟨q1,_⟩
   ·refine kF.of_value (n4 (vq hT ht) hb q5 hd hj w) ⟨yw.refl _ _,zt ⟨b,_,_,q1,by lia,?_⟩⟩;show Value.pointer (some ⟨b,0+lo*1+j*1,none⟩)=Value.pointer (some ⟨b,0+(lo+j)*1,none⟩);rw[xaR,xcR]
   ·lia
  ·cases h
 ·next e E B o p ht ha=>
  split at h
  ·next s E' E1 xss ix ho=>
   obtain⟨hf,h1⟩:=yo h;cases hf;obtain⟨bytes,zero,hb⟩:=VU hT hL ht;obtain⟨j,hj,h,hc⟩:=H3 h1;refine⟨_,h,?_⟩;intro env w S vs hS hM hl;obtain⟨ik,hd⟩:=hc P vs env S w<|hy hl;have hm:(mm e.rep E' E1 (vs o) xss ix).p S w:=uR hM ho;have he:(vg<|vs o)[p]? =some (ev env x):=zn ha<|hx hl;obtain⟨b,cap,hv,_⟩:=QO (lv hm he).1<|xba (xah _) hj;refine kF.of_value (n4 (vq hT ht) hb hv hd hj w) ⟨yw.refl _ _,zt ⟨fun z=>Sub.self e.rep z,b,_,_,by rw[<-hv];exact he,hj,by simp[Fl.self]⟩⟩
  ·cases h
 ·cases h
theorem zfF(hT:y4 P cf.tt){k:List (Nat×Dv)->Option R}(h:NA cf cx σ t x k=some r):∃l,k l=some r/\ES P ⟨d,.load t x,ty,pos,aft,g⟩ cx σ F l:=by
 have hx:∀{vs env S w},(∀t'∈yD (.load t x),Lk P vs env S w cx σ t')->Ya P vs env S w cx σ x:=fun hl=>yN hl (by simp[xaM]);unfold NA at h;split at h
 ·next e E B o j ht hd=>
  split at h
  ·next s E' E1 xss ix ho=>
   obtain⟨zero,he,_⟩:=Vu hT ht;obtain⟨q,hq,h⟩:=xt h;refine⟨_,h,kE fun env w S vs hM hl=> ?_⟩;have hm:(mm s.rep E' E1 (vs o) xss ix).p S w:=uR hM ho;obtain⟨b,m,cap0,h1,h2,h3⟩:=zn hd<|hx hl;obtain⟨a1,a2,a3⟩:=CX hm;have hn:m=ix.length:=by
    obtain⟨cs,h5,h6⟩:=a2;rcases h5.2 with⟨hv,h7⟩|⟨g',cap',cur,hv,_⟩
    ·rw[h1]at hv;cases hv
    ·rw[h1]at hv;cases hv;rfl
   obtain⟨b',cap',hv,hb⟩:=QO a2 (by lia);rw[h1]at hv;cases hv;have ha:=Sub.rowT0 (Zm<|vg<|vs o) cap0 ix j (ix.getD j 0)<|getD_some 0 h2;exact⟨_,_,_,_,[],[mB (rowT (Zm<|vg<|vs o) cap0) E' b ix],QU 0 rfl h3 ha he,⟨hb,trivial⟩,trivial,fun u w' _ hf=>zt (by
    have:=zfJ hf.1;rw[<-hq]at this;exact this)⟩
  ·cases h
 ·next ti o e p j f hg hd=>
  split at h
  ·next s E' E1 xss ix ho=>
   obtain⟨hc,h1⟩:=yo h;cases hc;obtain⟨q,hq,h2⟩:=xt h1;obtain⟨hc,h⟩:=yo h2;obtain⟨zero,he,_⟩:=Vu hT hg;obtain⟨off,ff,gt,st⟩:=f;simp only at hc;subst hc;refine⟨_,h,kE fun env w S vs hM hl=> ?_⟩;have hm:(mm e.rep E' E1 (vs o) xss ix).p S w:=uR hM ho;obtain⟨h0,b,m,cap,h1,h2,h3⟩:=zn hd<|hx hl;have hr:=(lv hm h1).1;have hn:m=(jM (α:=e.D) xss p).length:=by
    obtain⟨cs,h5,h6⟩:=hr;rcases h5.2 with⟨hv,h7⟩|⟨g',cap',cur,hv,_⟩
    ·cases hv
    ·cases hv;rfl
   obtain⟨b',cap',hv,hb⟩:=QO hr (by lia);cases hv;have ha:=(Sub.rowT0 e.rep cap (jM (α:=e.D) xss p) j ((jM (α:=e.D) xss p).getD j e.z)<|getD_some e.z<|by lia).comp<|h0<|(jM (α:=e.D) xss p).getD j e.z;subst hq;exact⟨_,_,_,_,[],[mB (rowT e.rep cap) E1 b<|jM (α:=e.D) xss p],QU 0 rfl h3 ha he,⟨hb,trivial⟩,trivial,fun u w' _ hf=>zt hf.1⟩
  ·cases h
 ·cases h
theorem zam(hT:y4 P cf.tt)(hL:jT P cf.tt){lo hi:Option Operand}{k:List (Nat×Dv)->Option R}(h:DE cf cx σ t x lo hi k=some r):∃l,k l=some r/\ES P ⟨d,.slice t x lo hi none,ty,pos,aft,g⟩ cx σ F l:=by
 have hx:∀{vs env S w},(∀t'∈yD (.slice t x lo hi none),Lk P vs env S w cx σ t')->Ya P vs env S w cx σ x:=fun hl=>yN hl (by simp[xaM]);have hb:∀{vs env S w z},lo=some z->(∀t'∈yD (.slice t x lo hi none),Lk P vs env S w cx σ t')->Ya P vs env S w cx σ z:=fun e hl=>yN hl (by simp[xaM,e]);have hc:∀{vs env S w z},hi=some z->(∀t'∈yD (.slice t x lo hi none),Lk P vs env S w cx σ t')->Ya P vs env S w cx σ z:=fun e hl=>yN hl (by simp[xaM,e]);unfold DE at h;split at h
 ·next e E B o ht hk=>
  split at h
  ·next s E' E1 xss ix ho=>
   obtain⟨bytes,zero,hd⟩:=VU hT hL ht
   have key:∀(l m:Nat),l<=m->m<=ix.length->k [(0,.mv o l<|m-l)]=some r->(∀vs env S w,(∀t'∈yD (.slice t x lo hi none),Lk P vs env S w cx σ t')->((lo.map<|ev env)=some (.int .i64 (l:Int))\/(lo=none/\l=0))/\((hi.map<|ev env)=some (.int .i64 (m:Int))\/(hi=none/\m=ix.length)))->
    ∃l,k l=some r/\ES P ⟨d,.slice t x lo hi none,ty,pos,aft,g⟩ cx σ F l:=by
    intro l m h1 h2 h5 h4;refine⟨_,h5,fun env w S vs hS hM hl=> ?_⟩;obtain⟨h6,h7⟩:=h4 vs env S w hl;have he:ev env x=y5 (vs o):=zn hk<|hx hl;have hm:(mm s.rep E' E1 (vs o) xss ix).p S w:=uR hM ho;rcases Ug (CX hm).2.1 with⟨hv,hf⟩|⟨b,cap,hv,hg,hn⟩
    ·rw[hf]at h2 h7;obtain rfl:m=0:=Nat.le_zero.1 h2;obtain rfl:l=0:=Nat.le_zero.1 h1;have hr:=DN (P:=P) (w:=w) (vq hT ht) hd (h6.imp id fun q=>by rw[q.1];rfl) (h7.imp id fun q=>by rw[q.1];rfl);refine kF.of_value (v:=.slice none 0 0) (w':=w) (by simp[execOp,he.trans hv,hr]) ⟨yw.refl _ _,zt (.inr ⟨hv,rfl,rfl,rfl⟩)⟩
    ·have hr:=pO (P:=P) (b:=b) (o:=0) (n:=ix.length) (cap:=cap) (w:=w) (l:=l) (h:=m) (vq hT ht) hd (h6.imp id fun q=>⟨by rw[q.1];rfl,q.2⟩) (h7.imp id fun q=>⟨by rw[q.1];rfl,q.2⟩) h1<|xan h2 hg;rw[<-hv,<-he]at hr;refine kF.of_value (v:=.slice (if cap=l then some ⟨b,0,none⟩else some ((⟨b,0,none⟩:Addr).add<|l*1)) (m-l)<|cap-l) (w':=w) (by simp[execOp,hr,Ty.rep,eS]) ⟨yw.refl _ _,zt ?_⟩;exact .inl ⟨b,ix.length,cap,hv,by lia,hg,by lia,by rw[vU]⟩
   rcases QS h with⟨e1,h1⟩|⟨zl,l,e1,h1,hj⟩
   ·rcases QS h1 with⟨e2,h2⟩|⟨zh,m,e2,h2,ha⟩
    ·obtain⟨a,c,q1,q2,q3,q4,q5⟩:=Et h2;exact key a c q1 q2 q3 fun vs env S w hl=>⟨.inr ⟨e1,(q4.resolve_left<|by simp).2⟩,.inr ⟨e2,(q5.resolve_left<|by simp).2⟩⟩
    ·obtain⟨a,c,q1,q2,q3,q4,q5⟩:=Et h2;rcases q5 with q5|⟨q5,_⟩
     ·cases q5;exact key a m q1 q2 q3 fun vs env S w hl=>⟨.inr ⟨e1,(q4.resolve_left<|by simp).2⟩,.inl<|by rw[e2];exact congrArg some<|ha P vs env S w<|hc e2 hl⟩
     ·cases q5
   ·rcases QS h1 with⟨e2,h2⟩|⟨zh,m,e2,h2,ha⟩
    ·obtain⟨a,c,q1,q2,q3,q4,q5⟩:=Et h2;rcases q4 with q4|⟨q4,_⟩
     ·cases q4;exact key l c q1 q2 q3 fun vs env S w hl=>⟨.inl (by rw[e1];exact congrArg some<|hj P vs env S w<|hb e1 hl),.inr ⟨e2,(q5.resolve_left<|by simp).2⟩⟩
     ·cases q4
    ·obtain⟨a,c,q1,q2,q3,q4,q5⟩:=Et h2;rcases q4 with q4|⟨q4,_⟩
     ·rcases q5 with q5|⟨q5,_⟩
      ·cases q4;cases q5;exact key l m q1 q2 q3 fun vs env S w hl=>⟨.inl (by rw[e1];exact congrArg some<|hj P vs env S w<|hb e1 hl),.inl<|by rw[e2];exact congrArg some<|ha P vs env S w<|hc e2 hl⟩
      ·cases q5
     ·cases q4
  ·cases h
 ·cases h
theorem zhP(hT:y4 P cf.tt){ags:Array Operand}{ts:Array TypeId}{k:List (Nat×Dv)->Option R}(h:za2 cf cx σ ags.toList ts.toList k=some r):
 ∃l,k l=some r/\ES P ⟨d,.call ⟨.builtin .len,ags,ts⟩,ty,pos,aft,g⟩ cx σ F l:=by
 unfold za2 at h;split at h
 ·next _ _ x t hc hd=>
  obtain rfl:ags= #[x]:=by cases ags;simp_all
  obtain rfl:ts= #[t]:=by cases ts;simp_all
  have hx:∀{vs env S w},(∀t'∈yD (.call ⟨.builtin .len,#[x],#[t]⟩),Lk P vs env S w cx σ t')->Ya P vs env S w cx σ x:=fun hl=>yN hl (by simp[xaM,xej]);split at h
  ·next e E B o ht ha=>
   split at h
   ·next s E' E1 xss ix ho=>
    refine⟨_,h,kE fun env w S vs hM hl=> ?_⟩;have hm:(mm s.rep E' E1 (vs o) xss ix).p S w:=uR hM ho;exact⟨_,_,_,_,[],[mO (Zm<|vg<|vs o) E' (y5<|vs o) ix],EW 0 rfl (vq hT ht)<|zn ha<|hx hl,⟨(CX hm).2.1,trivial⟩,trivial,fun u w' hk hf=>zt<|xO<|Hn hk⟩
   ·cases h
  ·next e E B o lo n ht ha=>
   split at h
   ·next s E' E1 xss ix ho=>
    refine⟨_,h,zG fun env w S vs hl=> ?_⟩;rcases(zn ha (hx hl):FI _ _ _ _).old with⟨b,m,cap,c,q1,q2,q3,q4,q5⟩|⟨q1,ao,c,q2,q3⟩
    ·exact⟨_,Hq (vq hT ht) q5 w,zt<|xO<|Hn<|by lia⟩
    ·subst q1;exact⟨_,Hq (vq hT ht) q3 w,zt<|xO<|by decide⟩
   ·cases h
  ·next e E B o p ht ha=>
   split at h
   ·next s E' E1 xss ix ho=>
    refine⟨_,h,kE fun env w S vs hM hl=> ?_⟩;have hm:(mm s.rep E' E1 (vs o) xss ix).p S w:=uR hM ho;have hb:(vg<|vs o)[p]? =some (ev env x):=zn ha<|hx hl;exact⟨_,_,_,_,[],[mO s.rep E1 (ev env x)<|jM xss p],EW 0 rfl (vq hT ht) rfl,⟨(lv hm hb).1,trivial⟩,trivial,fun u w' hk hf=>zt<|xO<|Hn hk⟩
   ·cases h
  ·cases h
 ·cases h
def Tru:Nat->Prop:=fun _=>True
theorem M9(f:FF)(h:f.p S w):f.p Tru w:=f.sub h fun _ _ _=>trivial
theorem gH(hC:∀s∈cf.cs,y9 P s):∀{dom:List AM}{xs:List Operand}{cs:List PD}{k:UI dom->Option R},X9 cf cx σ dom xs cs k=some r->
 ∃z,k z=some r/\xs.length+cs.length=dom.length/\∀vs env S w,yB S (MS vs σ.ob++(MS vs cx.ob++F)) w->(∀x∈xs,Ya P vs env S w cx σ x)->∀cvs:List Value,cvs.length=cs.length->zD S (C2 cs cvs) w->zD Tru (ua P dom z<|xs.map (ev env)++cvs) w
 |[],[],[],k,h=>⟨(),h,rfl,fun _ _ _ _ _ _ _ _ _=>trivial⟩
 |.q t::dom,[],c::cs,k,h=>by
  simp only[X9]at h;obtain⟨e,h⟩:=yo h;subst e;obtain⟨z,h1,h2,h3⟩:=gH hC h;refine⟨_,h1,by simp at h2⊢;lia,fun vs env S w hM hl cvs ha hb=> ?_⟩
  cases cvs with
  |nil=>cases ha
  |cons v cvs=>exact⟨M9 _ hb.1,h3 vs env S w hM hl cvs (by simpa using ha) hb.2⟩
 |.d t::dom,x::xs,cs,k,h=>by
  simp only[X9]at h;split at h
  ·next o lo n hc=>
   split at h
   ·next s E E1 xss ix ho=>
    obtain⟨e,h⟩:=yo h;subst e;obtain⟨z,h1,h2,h3⟩:=gH hC h;refine⟨_,h1,by simp at h2⊢;lia,fun vs env S w hM hl cvs ha hb=>⟨?_,h3 vs env S w hM (fun z hz=>hl z<|UV _ hz) cvs ha hb⟩⟩;have hm:(mm s.rep E E1 (vs o) xss ix).p S w:=uR hM ho;obtain⟨a1,a2,a3⟩:=CX hm;have h4:(mO (eS s.rep) E (y5<|vs o)<|SC xss ix).p Tru w:=by
     obtain⟨cs',q1,q2⟩:=a2;refine⟨cs',by unfold SC;rw[xaP];exact q1,?_⟩;exact ib a1 (fun _ _=>trivial) (fun _ _ _ _=>trivial) a3 q2
    show(fV (eS<|eS s.rep) (xdt n<|xdz lo<|SC xss ix)<|ev env x).p Tru w;rcases(zn hc (hl x<|FS):FI _ _ _ _).old with⟨b,m,cap,c,q1,q2,q3,q4,q5⟩|⟨q1,ao,c,q2,q3⟩
    ·have:=EZ h4 q1 q2 q3 q4;rw[q5];obtain⟨ao,c',p1,p2,p3,p4⟩:=this;refine xp.2 ⟨ao,c',p1,p2,p3,p4.imp id ?_⟩;rintro⟨b',o',cs',r1,r2,r3⟩;exact⟨b',o',cs',r1,trivial,r2,r3⟩
    ·subst q1;rw[q3];exact xp.2 ⟨ao,c,by simp,by simp,by unfold maxLen;lia,.inl<|by simp⟩
   ·cases h
  ·obtain⟨y,h,hy⟩:=X5 h;obtain⟨z,h1,h2,h3⟩:=gH hC h;exact⟨_,h1,by simp at h2⊢;lia,fun vs env S w hM hl cvs ha hb=>⟨M9 _<|hy P vs env S w<|hl x<|FS,h3 vs env S w hM (fun z hz=>hl z<|UV _ hz) cvs ha hb⟩⟩
 |.fn dom' cod::dom,x::xs,cs,k,h=>by
  simp only[X9]at h;obtain⟨f,h,hf⟩:=zc4 hC h;obtain⟨z,h1,h2,h3⟩:=gH hC h;refine⟨_,h1,by simp at h2⊢;lia,fun vs env S w hM hl cvs ha hb=>⟨?_,h3 vs env S w hM (fun z hz=>hl z<|UV _ hz) cvs ha hb⟩⟩
  cases hv:x8 cx σ x with
  |none=>rename_i h0;rw[hv]at h0;simp[asF]at h0
  |some v=>exact M9 _<|hf vs S w v _ hv<|zn hv<|hl x<|FS
 |[],_::_,_,_,h=>by simp[X9]at h
 |[],[],_::_,_,h=>by simp[X9]at h
 |.d _::_,[],_,_,h=>by simp[X9]at h
 |.own _ _::_,_,_,_,h=>by simp[X9]at h
 |.q _::_,_::_,_,_,h=>by simp[X9]at h
 |.fn _ _::_,[],_,_,h=>by simp[X9]at h
 |.q _::_,[],[],_,h=>by simp[X9]at h
theorem Fi:∀{rs:List RM}{x:B4 (rs.map RM.ty)}{us:List Value},Iy rs=true->zD Tru (csF (rs.map RM.ty) x us) w->zD S (csF (rs.map RM.ty) x us) w
 |[],_,_,_,_=>trivial
 |[.d .i],x,us,_,h=>⟨h.1,trivial⟩
 |[.d .u],x,us,_,h=>⟨h.1,trivial⟩
 |[.d .b],x,us,_,h=>⟨h.1,trivial⟩
 |.d .i::n::r,x,us,hf,h=>⟨h.1,Fi (rs:=n::r) (x:=x.2) hf h.2⟩
 |.d .u::n::r,x,us,hf,h=>⟨h.1,Fi (rs:=n::r) (x:=x.2) hf h.2⟩
 |.d .b::n::r,x,us,hf,h=>⟨h.1,Fi (rs:=n::r) (x:=x.2) hf h.2⟩
theorem zft(hC:∀s∈cf.cs,y9 P s)(hX:Ak P cf){f:Operand}{ags:Array Operand}{ts:Array TypeId}{k:List (Nat×Dv)->Option R}(h:Np cf cx σ f ags.toList k=some r):
 ∃l,k l=some r/\ES P ⟨d,.call ⟨.value f,ags,ts⟩,ty,pos,aft,g⟩ cx σ F l:=by
 have hf:∀{vs env S w},(∀t'∈yD (.call ⟨.value f,ags,ts⟩),Lk P vs env S w cx σ t')->Ya P vs env S w cx σ f:=fun hl=>yN hl (by simp[xaM,xej]);have ha:∀{vs env S w},(∀t'∈yD (.call ⟨.value f,ags,ts⟩),Lk P vs env S w cx σ t')->∀x∈ags.toList,Ya P vs env S w cx σ x:=fun hl x hx=>yN hl (by simp only[xaM,xej,Array.toList_append,Nm];exact .inr hx);unfold Np at h;split at h
 ·next f0 cs hj=>
  split at h
  ·next s hs=>
   obtain⟨h1,h2⟩:=TM hs;obtain⟨hb,he⟩:=hX.cl s h1;obtain⟨z,h,hd,hz⟩:=Ei h;refine⟨_,h,kE fun env w S vs hM hl=> ?_⟩;obtain⟨cvs,hv,hg,hk⟩:=zn hj<|hf hl;obtain rfl:cvs=[]:=xbF.1 hg;have hc:=he z (ags.toList.map<|ev env) (by simpa using hd);rw[h2]at hc hb;rw[<-xbQ<|ags.toList.map<|ev env]at hc;exact⟨_,_,_,_,tsF s.dom z<|ags.toList.map (ev env)++[],[],dP (asv:=ags.toList) hb hv hc rfl<|fun S w h=>h,trivial,by rw[xbQ];exact hz P vs env S w<|ha hl,fun v w' _ hi=>zt hi.1⟩
  ·split at h
   ·next s hs=>
    obtain⟨h1,h2,h3,h4⟩:=og hs;have he:=hC s h1;obtain⟨hn,h⟩:=yn h;obtain⟨z,h,hd,hz⟩:=gH (F:=F) hC h;obtain⟨q,hq,h⟩:=rk h;refine⟨_,h,fun env w S vs hS hM hl=> ?_⟩;obtain⟨cvs,hv,hg,hk⟩:=zn hj<|hf hl;have hc:=c9 he h3 h4 hq (us:=ags.toList.map (ev env)++cvs) (by simp at hd⊢;lia);rw[h2]at hc;have hm:=hz vs env S w hM (ha hl) cvs hg hk;refine(dP (asv:=ags.toList) (ms:=[]) (Γ:=ua P s.dom z<|ags.toList.map (ev env)++cvs) (h2▸he.1) hv hc rfl (fun S w h=>h) w Tru (fun _ _=>trivial) trivial hm).mono ?_;rintro v w' ⟨us,rfl,ho,hx,hi⟩;refine⟨hx,?_⟩;unfold zeC;rw[CT,Gb];exact rI (Fi hn hi)<|by simpa using ho
   ·cases h
 ·cases h
theorem zld(hT:y4 P cf.tt)(hL:jT P cf.tt)(hC:∀s∈cf.cs,y9 P s)(hX:Ak P cf){op:Op}{k:List (Nat×Dv)->Option R}(h:eCo cf cx σ op k=some r):∃l,k l=some r/\ES P ⟨d,op,ty,pos,aft,g⟩ cx σ F l:=by
 unfold eCo at h;split at h
 ·exact zfF hT h
 ·exact TE hT hL h
 ·exact zam hT hL h
 ·exact zhP hT h
 ·exact zft hC hX h
 ·cases h
theorem zaz(hT:y4 P cf.tt)(hL:jT P cf.tt)(hC:∀s∈cf.cs,y9 P s)(hX:Ak P cf){op:Op}{k:List (Nat×Dv)->Option R}(h:eOp cf cx σ op k=some r):∃l,k l=some r/\ES P ⟨d,op,ty,pos,aft,g⟩ cx σ F l:=by
 unfold eOp at h;cases hc:zkr cf cx σ op<;>rw[hc]at h
 ·exact zhs hT hL hC hX.ex h
 ·exact zld hT hL hC hX h
end
end
section
section
variable{P:Program}{cf:Cf}{fr:Fr}{cx σ:Sg}{vs vs':Nat->Value}{env:yR}{w:World}{R:Type}{r:R}
 {d:Option Tmp}{ty t yt:TypeId}{pos:String}{aft:Array Edge}{g:Option (Nat×Bool)}{x y:Operand}
abbrev GS(P:Program)(vs:Nat->Value)(env:yR)(fr:Fr)(cx σ:Sg):List FF:=RS P vs env σ.rg++(RS P vs env cx.rg++fr.G)
abbrev OS(vs:Nat->Value)(fr:Fr)(cx:Sg)(ob:List (Nat×Od)):List MF:=MS vs ob++(MS vs cx.ob++fr.F)
theorem Yd{S:Nat->Prop}(h:zD S (GS P vs env fr cx σ) w)(t:Tmp):Lk P vs env S w cx σ t:=by
 intro i dv hd;rcases Fv hd with hm|hm
 ·exact Ju (zD.left h) hm
 ·exact Ju (zD.left<|zD.right h) hm
theorem z6{S:Nat->Prop}(h:zD S (GS P vs env fr cx σ) w)(x:Operand):Ya P vs env S w cx σ x:=fun t _=>Yd h t
def aW(P:Program)(fr:Fr)(cx σ:Sg)(vs:Nat->Value)(env:yR)(w:World):Prop:=Bd cx σ/\St fr.we fr.Se (OS vs fr cx σ.ob) (GS P vs env fr cx σ) w
def cm(P:Program)(fr:Fr)(cx:Sg)(n:Nat)(vs:Nat->Value)(σ:Sg)(env:yR)(w:World):Prop:=∃vs',(∀o,o<n->vs' o=vs o)/\aW P fr cx σ vs' env w
theorem cm.rel{n:Nat}(h:cm P fr cx n vs σ env w):Zc P fr cx σ env w:=by
 obtain⟨vs',_,h1,h2⟩:=h;exact⟨h1,vs',h2⟩
theorem DC{v:Value}{σ':Sg}{l:List (Nat×Dv)}{Γl:List FF}(hB:Bd cx σ)(hd:wv cx d=true)(ha:σ'.rg=vj σ.rg d l)(hn:σ.nx<=σ'.nx)(hg:∀o,o<σ.nx->vs' o=vs o)
 (hl:∀e∈l,∀o,wu e.2=some o->o<σ'.nx) (hj:∀e∈σ'.ob,e.1<σ'.nx) (hf:∀S w,zD S Γl w->∀e∈l,(xN P vs' e.2 v e.1).p S w)
 (hk:St fr.we fr.Se (OS vs' fr cx σ'.ob) (Γl++GS P vs env fr cx σ) w):aW P fr cx σ' vs' (put env d v) w:=by
 refine⟨⟨hj,fun e he=>xal (hB.o2 e he) hn,?_,fun e he o ho=>xal (hB.r2 e he o ho) hn⟩,hk.weak fun S w h=> ?_⟩
 ·intro e he o ho;rw[ha]at he;unfold vj at he
  cases d with
  |none=>exact xal (hB.r1 e he o ho) hn
  |some t=>
   rcases Nm.1 he with he|he
   ·obtain⟨e',hb,rfl⟩:=xap.1 he;exact hl e' hb o ho
   ·exact xal (hB.r1 e (xck.1 he).1 o ho) hn
 ·have hΓ:=zD.right h;have h1:zD S (RS P vs' env σ.rg) w:=by rw[qU (fun e he o ho=>hg o<|hB.r1 e he o ho)<|fun _ _=>rfl];exact zD.left hΓ
  have h2:zD S (RS P vs' env cx.rg) w:=by rw[qU (fun e he o ho=>hg o<|hB.r2 e he o ho)<|fun _ _=>rfl];exact zD.left<|zD.right hΓ
  have h3:=zD.right<|zD.right hΓ
  cases d with
  |none=>
   unfold GS;rw[show σ'.rg=σ.rg from ha];exact zD.append h1<|zD.append h2 h3
  |some t=>
   have hm:RS P vs' (put env (some t) v) cx.rg=RS P vs' env cx.rg:=qU (fun _ _ _ _=>rfl) fun e he=>cX fun ht=>by
    simp only[wv,Yf,xaS]at hd;have:=hd e he;simp only[xay]at ht;rw[ht]at this;simp at this
   unfold GS;rw[ha,hm];refine zD.append (jH.2 fun f hp=> ?_)<|zD.append h2 h3;obtain⟨e,he,rfl⟩:=xap.1 hp;rcases Nm.1 he with he|he
   ·obtain⟨e',hb,rfl⟩:=xap.1 he;simp only[pJ];exact hf S w (zD.left h) e' hb
   ·obtain⟨hq,hi⟩:=xck.1 he;have hr:some t≠some e.1:=fun hc=>by
     simp only[xay]at hc;rw[hc]at hi;simp at hi
    rw[cX hr];exact Ju h1 hq
theorem QK{v:Value}{σ':Sg}{l:List (Nat×Dv)}{Γl:List FF}(hB:Bd cx σ)(hd:wv cx d=true)(hb:σ'.rg=vj σ.rg d l)(hn:σ.nx<=σ'.nx)(ha:∀o,o<σ.nx->vs' o=vs o)
 (hl:∀e∈l,∀o,wu e.2=some o->o<σ'.nx) (hc:∀e∈σ'.ob,e.1<σ'.nx) (hf:∀S w,zD S Γl w->∀e∈l,(xN P vs' e.2 v e.1).p S w)
 (he:St fr.we fr.Se (OS vs' fr cx σ'.ob) (Γl++GS P vs env fr cx σ) w):cm P fr cx σ.nx vs σ' (put env d v) w:=⟨vs',ha,DC hB hd hb hn ha hl hc hf he⟩
def zdW(P:Program)(vs:Nat->Value)(v:Value)(l:List (Nat×Dv)):List FF:=l.map fun e=>xN P vs e.2 v e.1
theorem Cm{n:Nat}{l:List (Nat×Dv)}(h:okL n l=true):∀e∈l,∀o,wu e.2=some o->o<n:=by
 intro e he o ho;unfold okL at h;rw[xaS]at h;have:=h e he;rw[ho]at this;have:=xbM this;lia
theorem ES.mono{o:Oper}{l:List (Nat×Dv)}{F:List MF}(h:ES P o cx σ [] l):ES P o cx σ F l:=by
 intro env w S vs h1 h2 h3;refine h env w S vs h1 (ur.2 fun m hm=>ur.1 h2 m ?_) h3;rcases Nm.1 hm with hm|hm
 ·exact Nm.2 (.inl hm)
 ·rw[xbQ]at hm;exact Nm.2 (.inr<|Nm.2 (.inl hm))
theorem zjF{o:Oper}{l:List (Nat×Dv)}(h:ES P o cx σ fr.F l)(hd:wv cx o.dst=true)(hl:okL σ.nx l=true)(hR:aW P fr cx σ vs env w):kF P o env w (fun v w'=>cm P fr cx σ.nx vs (σ.put o.dst l) (put env o.dst v) w'):=by
 obtain⟨hB,h1,h2,h3,S,h4,h5,h6,h7,h8⟩:=hR;refine(h env w S vs h5 h7 fun t _=>Yd h8 t).mono ?_;rintro v w' ⟨hx,hf⟩;refine QK (σ':=σ.put o.dst l) (Γl:=zdW P vs v l) hB hd rfl (xab _) (fun _ _=>rfl) (Cm hl) hB.o1 (fun S w ha e he=>jH.1 ha _<|xap.2 ⟨e,he,rfl⟩) ?_;refine⟨h1.trans hx,h2,h3,S,h4,fun k hk=>h5 k<|xan hx.size hk,h6,yB.keep hx.to (fun m hm i hi=>hx.block i (yB.lt h7 m hm i hi) trivial) h7,zD.append (jH.2 fun f hb=> ?_)<|zD.keep hx.to h8⟩;obtain⟨e,he,rfl⟩:=xap.1 hb;exact hf e he
def ov(P:Program)(cx:Sg)(o:Oper)(σ:Sg)(k:Sg->Option R)(r:R):Prop:=∃σ',k σ'=some r/\σ.nx<=σ'.nx/\∀(fr:Fr) (vs:Nat->Value) (env:yR) (w:World),aW P fr cx σ vs env w->kF P o env w (fun v w'=>cm P fr cx σ.nx vs σ' (put env o.dst v) w')
theorem m_E(hT:y4 P cf.tt)(hL:jT P cf.tt)(hC:∀s∈cf.cs,y9 P s)(hX:Ak P cf){op:Op}{k:Sg->Option R}(hd:wv cx d=true)(h:mE cf cx σ d op k=some r):ov P cx ⟨d,op,ty,pos,aft,g⟩ σ k r:=by
 unfold mE at h;obtain⟨l,h,ha⟩:=zaz (P:=P) (d:=d) (ty:=ty) (pos:=pos) (aft:=aft) (g:=g) (F:=[]) hT hL hC hX h;obtain⟨hl,h⟩:=yn h;exact⟨_,h,xab _,fun fr vs env w hR=>zjF ha.mono hd hl hR⟩
def Xp(vs:Nat->Value)(n:Nat)(v:Value):Nat->Value:=fun o=>bif xao o n then v else vs o
theorem vF{n:Nat}{v:Value}:Xp vs n v n=v:=by simp[Xp]
theorem uJ{n o:Nat}{v:Value}(h:o<n):Xp vs n v o=vs o:=by unfold Xp;rw[u7<|by lia];rfl
theorem zaD{n:Nat}{v:Value}{ob:List (Nat×Od)}(h:∀e∈ob,e.1<n):MS (Xp vs n v) ob=MS vs ob:=wa fun e he=>uJ<|h e he
theorem DZ{v:Value}{ob:List (Nat×Od)}(hB:Bd cx σ)(h:∀e∈ob,e.1<σ.nx):OS (Xp vs σ.nx v) fr cx ob=OS vs fr cx ob:=by
 show MS _ ob++(MS _ cx.ob++_)=_;rw[zaD h,zaD hB.o2]
theorem Qj{v:Value}{mk:Nat->Dv}{X:Od}{ob:List (Nat×Od)}(hB:Bd cx σ)(hd:wv cx d=true)(ha:∀e∈ob,e.1<σ.nx)(hb:∀o,wu (mk o)=some o)(hc:∀S w,(vo P (Xp vs σ.nx v) (mk σ.nx) v).p S w)
 (hf:St fr.we fr.Se (Qv (Xp vs σ.nx v) (σ.nx,X)::OS vs fr cx ob) (GS P vs env fr cx σ) w):cm P fr cx σ.nx vs ⟨σ.nx+1,vj σ.rg d [(0,mk σ.nx)],(σ.nx,X)::ob⟩ (put env d v) w:=by
 refine QK (σ':=⟨σ.nx+1,vj σ.rg d [(0,mk σ.nx)],(σ.nx,X)::ob⟩) (vs:=vs) (vs':=Xp vs σ.nx v) (Γl:=[]) hB hd rfl (xcd _) (fun o ho=>uJ ho) ?_ ?_ ?_ ?_
 ·intro e he o ho;obtain rfl:=xai.1 he;rw[hb]at ho;cases ho;exact xca _
 ·intro e he;rcases xad.1 he with rfl|he
  ·exact xca _
  ·exact xfo<|ha e he
 ·intro S w _ e he;obtain rfl:=xai.1 he;exact hc S w
 ·show St _ _ (Qv (Xp vs σ.nx v) (σ.nx,X)::OS (Xp vs σ.nx v) fr cx ob) _ _;rw[DZ hB ha];exact hf
theorem Jq{v:Value}(S:Nat->Prop)(w:World):(vo P (Xp vs σ.nx v) (.ow σ.nx) v).p S w:=(vF (vs:=vs)).symm
theorem Gy{t:Ty}{b:Nat}(S:Nat->Prop)(w:World):(vo P (Xp vs σ.nx (.pointer<|some ⟨b,0,none⟩)) (.vs σ.nx t) (.pointer<|some ⟨b,0,none⟩)).p S w:=⟨vF.symm,b,vF⟩
theorem JS{t:Ty}{E:TypeId}{xs:List t.D}{n:Nat}{v:Value}:Qv (Xp vs n v) (n,.own t E xs)=mO t.rep E v xs:=by simp only[Qv,vF]
theorem zbf{t:Ty}{E:TypeId}{z:t.D}{n:Nat}{v:Value}:Qv (Xp vs n v) (n,.var t E z)=mP t.rep.c E v z:=by simp only[Qv,vF]
theorem zef(hT:y4 P cf.tt){E:TypeId}{k:Sg->Option R}(hd:wv cx d=true)(h:LU cf σ d E k=some r):ov P cx ⟨d,.alloc E,ty,pos,aft,g⟩ σ k r:=by
 unfold LU at h;split at h
 ·next ti ha=>
  obtain⟨zero,hb,hf,hc⟩:=Vu hT ha;refine⟨_,h,xcd _,fun fr vs env w hR=> ?_⟩;obtain⟨hB,he⟩:=hR;refine(Bo (e:=ti.ty.rep.c) (z:=ti.ty.z) hb hc w he).mono ?_;rintro v w' ⟨b,rfl,_,hs⟩;refine Qj (vs:=vs) (mk:=fun o=> .vs o ti.ty) hB hd hB.o1 (fun _=>rfl) (fun S w=>Gy S w) ?_;rw[zbf];exact hs.toP 0 rfl
 ·cases h
theorem ziO{E:TypeId}{k:Sg->Option R}(hd:wv cx d=true)(h:zgO cf cx σ d E x k=some r):ov P cx ⟨d,.box E x,ty,pos,aft,g⟩ σ k r:=by
 unfold zgO at h;split at h
 ·next ti hc=>
  obtain⟨y,h,hy⟩:=X5 h;refine⟨_,h,xcd _,fun fr vs env w hR=> ?_⟩;obtain⟨hB,hb⟩:=hR;refine(zeW (e:=ti.ty.rep) (z:=y) rfl (fun S w ha=>hy P vs env S w<|z6 ha x) w hb).mono ?_;rintro v w' ⟨b,rfl,_,hs⟩;refine Qj (vs:=vs) (mk:=fun o=> .vs o ti.ty) hB hd hB.o1 (fun _=>rfl) (fun S w=>Gy S w) ?_;rw[zbf];exact hs.toP 0 rfl
 ·cases h
theorem O8(h:Pt x y=true):ev env x=ev env y:=by
 unfold Pt at h;split at h
 ·rw[yc h]
 ·simp only[eqI,decide_eq_true_eq]at h;rw[h]
 ·cases h
theorem zgJ(hT:y4 P cf.tt){k:Sg->Option R}(hd:wv cx d=true)(h:Tm cf cx σ d t x y k=some r):ov P cx ⟨d,.makeSlice t x y,ty,pos,aft,g⟩ σ k r:=by
 unfold Tm at h;split at h
 ·next s E B ht=>
  obtain⟨hi,h⟩:=yn h;split at h
  ·next ti n he hn=>
   obtain⟨hk,h⟩:=yo h;subst hk;obtain⟨zero,hl,ho,hm⟩:=Vu hT he;obtain⟨j,hj,h⟩:=OQ h;obtain⟨hb,h⟩:=kU h;obtain⟨xs,hf,h⟩:=xt h;refine⟨_,h,xcd _,fun fr vs env w hR=> ?_⟩;obtain⟨hB,hg⟩:=hR;obtain⟨S0,_,hΓ⟩:=hg.ex;have hx:ev env x=.int .i64 (j:Int):=by rw[(xZ hn<|z6 hΓ x).1,hj]
   have ha:=(hT _ _ he).2.1;refine(HG (e:=ti.ty.rep) (z:=ti.ty.z) (xs:=xs) (n:=j) (vq hT ht) hl hx ((O8 hi).symm.trans hx) ha hb hm hf w hg).mono ?_;rintro v w' ⟨b,rfl,_,hs⟩;refine Qj (vs:=vs) (mk:=.ow) hB hd hB.o1 (fun _=>rfl) (fun S w=>Jq S w) ?_;rw[JS];have hc:xs.length=j:=by rw[hf];exact xaZ
   have:=hs.closeF 0 rfl (by rw[hc];exact xab _)<|zcW ha hb;rw[hc]at this;exact this
  ·cases h
 ·cases h
theorem zjD(hT:y4 P cf.tt)(hL:jT P cf.tt){n:Nat}{ps:Array (Nat×Operand)}{k:Sg->Option R}(hd:wv cx d=true)(h:zgL cf cx σ d t n ps.toList k=some r):ov P cx ⟨d,.buildSlice t n ps,ty,pos,aft,g⟩ σ k r:=by
 unfold zgL at h;split at h
 ·next e E B ht=>
  obtain⟨hb,h⟩:=yn h;have hb:=xbM hb;rw[<-e.n_rep]at hb;obtain⟨ys,h,he,hf⟩:=dE h;obtain⟨bytes,zero,hg⟩:=VU hT hL ht;refine⟨_,h,xcd _,fun fr vs env w hR=> ?_⟩;obtain⟨hB,hi⟩:=hR;have hc:(ps.toList.map fun q:Nat×Operand=>(q.1,ev env q.2)).map (·.1)=xfn 0 (ps.toList.map fun q:Nat×Operand=>(q.1,ev env q.2)).length:=by rw[xcT,xaP];exact he
  have hj:=fun(S:Nat->Prop) (w:World) (ha:zD S (GS P vs env fr cx σ) w)=>DJ hc<|hf P vs env S w fun x _=>z6 ha x;refine(zbR (e:=e.rep) (zs:=dB n e ys) (x9:=ps.toList) (vq hT ht) hg (zcp hT hL ht) (aw n e ys) hb rfl (fun S w ha=>by have:=(hj S w ha).1;rwa[xcs]at this) (fun S w ha=>(hj S w ha).2) w hi).mono ?_;rintro v w' ⟨b,rfl,_,hs⟩;refine Qj (vs:=vs) (mk:=.ow) hB hd hB.o1 (fun _=>rfl) (fun S w=>Jq S w) ?_;rw[JS];exact hs
 ·cases h
end
end
section
section
variable{P:Program}{cf:Cf}{fr:Fr}{cx σ:Sg}{vs vs':Nat->Value}{env:yR}{w:World}{R:Type}{r:R}
 {d:Option Tmp}{ty t yt:TypeId}{pos:String}{aft:Array Edge}{g:Option (Nat×Bool)}{x y:Operand}
theorem U2{ob:List (Nat×Od)}{o:Nat}{X Y:Od}(h:xR ob o=some X):∀e∈kI ob o Y,∃e'∈ob,e'.1=e.1:=by grind [wQ,xeO,xbx]
theorem uw:∀{ob:List (Nat×Od)}{o:Nat},∀e∈yG ob o,e∈ob
 |(o',X)::r,o,e,he=>by
  unfold yG at he;cases hb:xao o' o<;>rw[hb]at he
  ·rcases xad.1 he with rfl|he
   ·exact FS
   ·exact UV _<|uw e he
  ·exact UV _ he
theorem dJ{o:Nat}{X Y:Od}{v:Value}(hB:Bd cx σ)(ho:xR σ.ob o=some X)(ha:St fr.we fr.Se (OS vs fr cx<|kI σ.ob o Y) (GS P vs env fr cx σ) w):cm P fr cx σ.nx vs ⟨σ.nx,σ.rg,kI σ.ob o Y⟩ (put env none v) w:=by
 refine QK (σ':=⟨σ.nx,σ.rg,kI σ.ob o Y⟩) (d:=none) (l:=[]) (vs:=vs) (vs':=vs) (Γl:=[]) hB rfl rfl (xab _) (fun _ _=>rfl) (fun _ he=>absurd he IR) (fun e he=> ?_) (fun S w _ e he=>absurd he IR) ha;obtain⟨e',h1,h2⟩:=U2 ho e he;rw[<-h2];exact hB.o1 e' h1
theorem kJ{α:Type _}(l:List α)(i:Nat)(a b:α):(l.set i a).set i b=l.set i b:=by simp
theorem wA{α:Type _}{l:List α}{i:Nat}{a b:α}(h:l[i]? =some a):(l.set i b)[i]? =some b:=by grind [xau]
theorem iY{α:Type _}:∀(l:List α) (i:Nat) (a:α),(l.set i a).eraseIdx i=l.eraseIdx i
 |[],_,_=>by simp
 |_::_,0,_=>rfl
 |b::l,i+1,a=>by simp[iY l i a]
theorem fE{α:Type}{e:z7 α}{E:TypeId}{xs:List α}{v:Value}{S:Nat->Prop}{b n cap:Nat}(h:(mO e E v xs).p S w)(hv:v=.slice (some ⟨b,0,none⟩) n cap):n=xs.length:=by
 obtain⟨cs,h5,h6⟩:=h;rcases h5.2 with⟨h,h7⟩|⟨g',cap',cur,h,_⟩
 ·rw[hv]at h;cases h
 ·rw[hv]at h;cases h;rfl
theorem zes(hT:y4 P cf.tt){k:Sg->Option R}{ti:TI}(hA:Yh cf t=some ti)(h:L6 σ ti.ty (x8 cx σ x) (x8 cx σ y) k=some r):ov P cx ⟨none,.store t x y,ty,pos,aft,g⟩ σ k r:=by
 obtain⟨zero,hf,_⟩:=Vu hT hA;unfold L6 at h;split at h
 ·next o _ hx=>
  split at h
  ·next s' E z ho=>
   obtain⟨hC,h1⟩:=yo h;subst hC;obtain⟨q,h,hq⟩:=X5 h1;refine⟨_,h,xab _,fun fr vs env w hR=> ?_⟩;obtain⟨hB,hc⟩:=hR;obtain⟨S0,_,hΓ⟩:=hc.ex;obtain⟨i,hi,hd,hr⟩:=wQ ho;have hm:(OS vs fr cx σ.ob)[i]? =some (mP ti.ty.rep.c E (vs o) z):=W8 hi;obtain⟨b,hv,hs⟩:=hc.openP i hm;obtain⟨hg,_⟩:=zn hx<|z6 hΓ x;refine(Yr (f:=ti.ty.rep) (z':=z) (y':=q) (up:=id) i (wA hm) (hg.trans hv) rfl (Sub.self ti.ty.rep z) hf (fun S w ha=>hq P vs env S w<|z6 ha y) w hs).mono ?_;rintro v w' ⟨_,rfl,_,hk⟩;refine dJ (vs:=vs) hB ho ?_;have he:=hk.toP i<|wA<|wA hm;rw[kJ,kJ,<-hv]at he;rw[hd];show St _ _ (MS vs (σ.ob.set i (o,.var ti.ty E q))++_) _ _;rw[<-te hi];exact he
  ·cases h
 ·next o s1 f hx=>
  split at h
  ·next s' E z hb ho _=>
   obtain⟨hu,h1⟩:=yo h;subst hu;obtain⟨q,h2,hq⟩:=X5 h1;obtain⟨z2,hw,h⟩:=xt h2;obtain⟨hb⟩:=hb;refine⟨_,h,xab _,fun fr vs env w hR=> ?_⟩;obtain⟨hB,hc⟩:=hR;obtain⟨S0,_,hΓ⟩:=hc.ex;obtain⟨i,hi,hd,hr⟩:=wQ ho;have hm:(OS vs fr cx σ.ob)[i]? =some (mP s'.rep.c E (vs o) z):=W8 hi;obtain⟨b,hv,hs⟩:=hc.openP i hm;obtain⟨hy,b',hl,hg⟩:=zn hx<|z6 hΓ x;rw[hv]at hl;cases hl;rw[<-hb]at hf;refine(Yr (f:=f.f.rep) (z':=f.get z) (y':=q) (up:=fun y=>f.set y z) i (wA hm) hg rfl (by rw[xaN];exact hy z) hf (fun S w ha=>hq P vs env S w<|z6 ha y) w hs).mono ?_;rintro v w' ⟨_,rfl,_,hk⟩;refine dJ (vs:=vs) hB ho ?_;have he:=hk.toP i<|wA<|wA hm;rw[kJ,kJ,<-hv,<-hw]at he;rw[hd];show St _ _ (MS vs (σ.ob.set i (o,.var s' E z2))++_) _ _;rw[<-te hi];exact he
  ·cases h
 ·next o s1 j f hx=>
  split at h
  ·next s' E xs hb ho _=>
   obtain⟨hu,h1⟩:=yo h;cases hu;obtain⟨q,h2,hq⟩:=X5 h1;obtain⟨z2,hw,h⟩:=xt h2;obtain⟨hb⟩:=hb;refine⟨_,h,xab _,fun fr vs env w hR=> ?_⟩;obtain⟨hB,hc⟩:=hR;obtain⟨S0,_,hΓ⟩:=hc.ex;obtain⟨i,hi,hd,hr⟩:=wQ ho;have hm:(OS vs fr cx σ.ob)[i]? =some (mO s1.rep E (vs o) xs):=W8 hi;obtain⟨hy,b,n,cap,hv,hj,hg⟩:=zn hx<|z6 hΓ x;have hn:n=xaI xs:=xV hc hm fun S hp=>fE hp hv;subst hn;obtain⟨b',cap',hl,hD,hE,hs⟩:=hc.openO i hm<|xba (xah _) hj;rw[hv]at hl;cases hl;rw[<-hb]at hf;have hz:=(Sub.rowT0 s1.rep cap xs j (xeq xs j s1.z)<|getD_some s1.z hj).comp<|hy<|xeq xs j s1.z;refine(Yr (f:=f.f.rep) (y':=q) i (wA hm) hg rfl hz hf (fun S w ha=>hq P vs env S w<|z6 ha y) w hs).mono ?_;rintro v w' ⟨_,rfl,_,hk⟩;refine dJ (vs:=vs) hB ho ?_;have ht:(xfW xs j<|f.set q<|xeq xs j s1.z).length=xaI xs:=xcL ..;have he:=hk.closeF i (wA<|wA hm) (by rw[ht];exact hD) hE;rw[kJ,kJ,ht,<-hv,<-hw]at he;rw[hd];show St _ _ (MS vs (σ.ob.set i (o,.own s1 E z2))++_) _ _;rw[<-te hi];exact he
  ·cases h
 ·cases h
end
end
section
section
variable{P:Program}{cf:Cf}{fr:Fr}{cx σ:Sg}{vs vs':Nat->Value}{env:yR}{w:World}{R:Type}{r:R}
 {d:Option Tmp}{ty t yt:TypeId}{pos:String}{aft:Array Edge}{g:Option (Nat×Bool)}{x y:Operand}
theorem zcK{et:TypeId}{ag:Bool}{sz bytes:Nat}{zero:Value}{hi:Operand}(hx:ev env x=.slice none 0 0)(ht:P.underlying t=some (.slice et))(hb:X8 P et ag sz bytes zero)
 (hh:ev env hi=.int .i64 ((0:Nat):Int)) (w:World):(execOp (ev env) ⟨d,.slice t x none (some hi) none,ty,pos,aft,g⟩).run P w=.ok (.value (.slice none 0 0)) w:=by
 have b1:(0:Int)<=((0:Nat):Int)/\((0:Nat):Int)<=((0:Nat):Int):=by lia
 have ha:(xcX t (.slice none 0 0) none (some (.int .i64 ((0:Nat):Int))) none).run P w=.ok (.slice none 0 0) w:=by
  unfold xcX;simp only[xas,run_underlying ht,xae];unfold xfK;simp only[xas,run_underlying ht,xae];unfold xdV;simp[xeo,asIntOf,xas,xaG,xae,xu hb]
 simp[execOp,hx,hh]at ha⊢;simp[ha]
theorem zgW{i o:Nat}{X:Od}{Y:MF}(hi:σ.ob[i]? =some (o,X))(ha:yG σ.ob o=σ.ob.eraseIdx i){Γ:List FF}(h:St fr.we fr.Se ((OS vs fr cx σ.ob).set i Y) Γ w):St fr.we fr.Se (Y::OS vs fr cx (yG σ.ob o)) Γ w:=by
 have:=St.front i h<|wA<|W8 hi;rw[iY,KI hi,<-ha]at this;exact this
theorem zfn(hT:y4 P cf.tt)(hL:jT P cf.tt){o:Nat}{hi:Operand}{k:Sg->Option R}(hd:wv cx d=true)(hx:x8 cx σ x=some (.ow o))(h:Ny cf cx σ d t o hi k=some r):
 ov P cx ⟨d,.slice t x none (some hi) none,ty,pos,aft,g⟩ σ k r:=by
 unfold Ny at h;split at h
 ·next s1 E1 B s E xs ht ho=>
  obtain⟨hu,h1⟩:=yo h;cases hu;rcases QS h1 with⟨e,_⟩|⟨z,m,e,h2,hz⟩
  ·cases e
  ·cases e;obtain⟨hm,h3⟩:=kU h2;obtain⟨ys,hj,h4⟩:=xt h3;obtain⟨bytes,zero,hc⟩:=VU hT hL ht;refine⟨_,h4,xcd _,fun fr vs env w hR=> ?_⟩;obtain⟨hB,ha⟩:=hR;obtain⟨S0,_,hΓ⟩:=ha.ex;have hf:ev env x=vs o:=zn hx<|z6 hΓ x;have hg:=hz P vs env S0 w<|z6 hΓ hi;obtain⟨i,hk,hE,hl⟩:=wQ ho;have hb:(OS vs fr cx σ.ob)[i]? =some (mO s1.rep E (vs o) xs):=W8 hk
   have fin:∀v,(execOp (ev env) ⟨d,.slice t x none (some hi) none,ty,pos,aft,g⟩).run P w=.ok (.value v) w->St fr.we fr.Se ((OS vs fr cx σ.ob).set i<|mO s1.rep E v ys) (GS P vs env fr cx σ) w->
    kF P ⟨d,.slice t x none (some hi) none,ty,pos,aft,g⟩ env w (fun v w'=>cm P fr cx σ.nx vs ⟨σ.nx+1,vj σ.rg d [(0,.ow σ.nx)],(σ.nx,.own s1 E ys)::yG σ.ob o⟩ (put env d v) w'):=by
    intro v hn hs;refine kF.of_value hn<|Qj (vs:=vs) (mk:=.ow) hB hd (fun e he=>hB.o1 e<|uw e he) (fun _=>rfl) (fun S w=>Jq S w) ?_;rw[JS];exact zgW hk hl hs
   rcases xcv (xaI xs)with h0|h0
   ·have hw:m=0:=by have:m<=xaI xs:=hm;lia
    subst hw;have hy:ys=xs:=by rw[hj];exact(xbF.1 h0).symm▸rfl
    subst hy;have hp:(OS vs fr cx σ.ob).set i (mO s1.rep E (vs o) ys)=OS vs fr cx σ.ob:=by
     apply xcA;intro j;rw[xdZ];split
     ·next hA=>
      subst hA;split
      ·exact hb.symm
      ·next hC=>exact absurd (xau.1 hb).1 hC
     ·rfl
    have hv:vs o=.slice none 0 0\/∃b cap,vs o=.slice (some ⟨b,0,none⟩) 0 cap:=xV ha hb fun S ⟨cs,h5,_⟩=>by
     rcases h5.2 with⟨h,_⟩|⟨b,cap,cur,h,_⟩
     ·exact .inl h
     ·rw[h0]at h;exact .inr ⟨b,cap,h⟩
    rcases hv with hv|⟨b,cap,hv⟩
    ·exact fin _ (zcK (hf.trans hv) (vq hT ht) hc hg w)<|by rw[<-hv,hp];exact ha
    ·exact fin _ (IK (hf.trans hv) (vq hT ht) hc hg (xah _) w)<|by rw[<-hv,hp];exact ha
   ·obtain⟨b,cap,hv,hq,hD,hs⟩:=ha.openO i hb h0;have hr:=hs.closeO i m (wA hb) hm (xan hm hq) hD;rw[kJ]at hr;exact fin _ (IK (hf.trans hv) (vq hT ht) hc hg (xan hm hq) w)<|by rw[hj];exact hr
 ·cases h
theorem zau(hT:y4 P cf.tt){t':TypeId}{same:Bool}{ti:TI}{E:TypeId}{ob:List (Nat×Od)}{xs:List ti.ty.D}{k:Sg->Option R}(ht:P.underlying t=some (.slice E))(hk:Yh cf E=some ti)(hd:wv cx d=true)
 (he:same=true->t=t') (h:P6 cf cx σ d t' same ti.ty E ti.B ti.ty.z y ob xs k=some r):
 ∃σ',k σ'=some r/\σ.nx<=σ'.nx/\∀(fr:Fr) (vs:Nat->Value) (env:yR) (w:World) (u:Value),Bd cx σ->(∀e∈ob,e.1<σ.nx)->ev env x=u->St fr.we fr.Se (mO ti.ty.rep E u xs::OS vs fr cx ob) (GS P vs env fr cx σ) w->
  kF P ⟨d,.call ⟨.builtin .append,#[x,y],#[t,t']⟩,ty,pos,aft,g⟩ env w (fun v w'=>cm P fr cx σ.nx vs σ' (put env d v) w'):=by
 obtain⟨zero,hl,ho,hu⟩:=Vu hT hk;have hr:=(hT _ _ hk).2.1;have hn:=(hT _ _ hk).2.2.1;have GK:∀m,m*ti.B<=140737488355328->m<=9223372036854775807:=fun m hm=>by
  have:=xbU m hr;lia
 unfold P6 at h;split at h
 ·next n hw=>
  split at h
  ·next q ik B' hz=>
   obtain⟨j,hj,h⟩:=OQ h;obtain⟨hb,h⟩:=kU h;obtain⟨zs,hf,h⟩:=xt h;refine⟨_,h,xcd _,fun fr vs env w u hB hg hx hc=> ?_⟩;obtain⟨S0,_,hΓ⟩:=hc.ex;refine(NN (e:=ti.ty.rep) (z:=ti.ty.z) (n:=j) 0 ht (W9 hT hz) hl ho hn rfl hx (by rw[(xZ hw<|z6 hΓ y).1,hj]) hu (GK _ hb) hb w hc).mono ?_;rintro v w' ⟨v',rfl,_,hs⟩;refine Qj (vs:=vs) (mk:=.ow) hB hd hg (fun _=>rfl) (fun S w=>Jq S w) ?_;rw[JS,hf];exact hs
  ·cases h
 ·split at h
  ·next o2 t2 lo n hy=>
   split at h
   ·next s2 E2 zs0 hA=>
    obtain⟨hp,h⟩:=yn h;obtain rfl:=he hp;obtain⟨hq,h⟩:=yo h;cases hq;obtain⟨hq,h⟩:=yo h;cases hq;obtain⟨ys,hi,h⟩:=xt h;obtain⟨hb,h⟩:=kU h;obtain⟨zs,hf,h⟩:=xt h;refine⟨_,h,xcd _,fun fr vs env w u hB hg hx hc=> ?_⟩;obtain⟨S0,_,hΓ⟩:=hc.ex;have hv:=zn hy<|z6 hΓ y;refine(Jy (e:=ti.ty.rep) (ys:=ys) 0 ht hl ho hn rfl hx rfl (fun S w hM ha=> ?_) (GK _ hb) hb w hc).mono ?_
    ·have hm:(mO ti.ty.rep E2 (vs o2) zs0).p S w:=uR (σ:=⟨σ.nx,σ.rg,ob⟩) (F:=fr.F) hM.2 hA;rcases hv with⟨b,m,cap,c,q1,q2,q3,q4,q5⟩|⟨q1,ao,c,q2,q3⟩
     ·rw[q5,hi];exact EZ hm q1 q2 q3 q4
     ·subst q1;rw[q3,hi];exact⟨ao,c,by simp,by simp,by unfold maxLen;lia,.inl<|by simp⟩
    rintro v w' ⟨v',rfl,_,hs⟩;refine Qj (vs:=vs) (mk:=.ow) hB hd hg (fun _=>rfl) (fun S w=>Jq S w) ?_;rw[JS,hf];exact hs
   ·cases h
  obtain⟨hp,h⟩:=yn h;obtain rfl:=he hp;obtain⟨ys,h,hi⟩:=X5 h;obtain⟨hb,h⟩:=kU h;obtain⟨zs,hf,h⟩:=xt h;refine⟨_,h,xcd _,fun fr vs env w u hB hg hx hc=> ?_⟩;refine(Ru (e:=ti.ty.rep) (ys:=ys) 0 ht hl ho hn rfl hx rfl (fun S w ha=>hi P vs env S w<|z6 ha y) (GK _ hb) hb w hc).mono ?_;rintro v w' ⟨v',rfl,_,hs⟩;refine Qj (vs:=vs) (mk:=.ow) hB hd hg (fun _=>rfl) (fun S w=>Jq S w) ?_;rw[JS,hf];exact hs
theorem zjo(hT:y4 P cf.tt){ags:Array Operand}{ts:Array TypeId}{k:Sg->Option R}(hd:wv cx d=true)(h:zhB cf cx σ d ags.toList ts.toList k=some r):
 ov P cx ⟨d,.call ⟨.builtin .append,ags,ts⟩,ty,pos,aft,g⟩ σ k r:=by
 unfold zhB at h;split at h
 ·next _ _ x y t t' hl hn=>
  obtain rfl:ags= #[x,y]:=by cases ags;simp_all
  obtain rfl:ts= #[t,t']:=by cases ts;simp_all
  split at h
  ·next s E B ht=>
   split at h
   ·next ti hc=>
    obtain⟨hi,h1⟩:=yo h;subst hi;split at h1
    ·next hx=>
     obtain⟨σ',h5,h6,h7⟩:=zau (ty:=ty) (pos:=pos) (aft:=aft) (g:=g) (x:=x) hT (vq hT ht) hc hd (fun h=>yc h) h1;refine⟨σ',h5,h6,fun fr vs env w hR=> ?_⟩;obtain⟨hB,ha⟩:=hR;obtain⟨S0,_,hΓ⟩:=ha.ex;exact h7 fr vs env w _ hB hB.o1 (zn hx<|z6 hΓ x) ha.nilO
    ·next o hx=>
     split at h1
     ·next s' E' xs ho=>
      obtain⟨hE,h2⟩:=yn h1;have hE:=yc hE;subst hE;obtain⟨hj,h3⟩:=yo h2;cases hj;obtain⟨σ',h5,h6,h7⟩:=zau (ty:=ty) (pos:=pos) (aft:=aft) (g:=g) (x:=x) hT (vq hT ht) hc hd (fun h=>yc h) h3;refine⟨σ',h5,h6,fun fr vs env w hR=> ?_⟩;obtain⟨hB,ha⟩:=hR;obtain⟨S0,_,hΓ⟩:=ha.ex;obtain⟨i,hf,hm,hg⟩:=wQ ho;have hk:(OS vs fr cx σ.ob)[i]? =some (mO ti.ty.rep E' (vs o) xs):=W8 hf;have hb:=ha.front i hk;rw[KI hf,<-hg]at hb;exact h7 fr vs env w _ hB (fun e he=>hB.o1 e<|uw e he) (zn hx<|z6 hΓ x) hb
     ·cases h1
    ·cases h1
   ·cases h
  ·cases h
 ·cases h
theorem zea{α:Type}(xs ys:List α):(cpy xs ys).length=xs.length:=by grind [cpy,xax,xav,xbN]
theorem zer{α:Type}{xs:List α}(ys:List α)(h:xs.length=0):cpy xs ys=xs:=by grind [cpy,xbF]
theorem zis{α:Type}(xs ys:List α):xdt 0 xs++xdt (min ys.length xs.length) ys++xdz (0+min ys.length xs.length) xs=cpy xs ys:=by simp[cpy]
theorem Nu{α:Type}(lo:Nat)(xs ys:List α):bZ lo 0 xs ys=xs:=by simp[bZ]
theorem Rq{α:Type}{lo n:Nat}{xs:List α}(ys:List α)(h:lo+n<=xs.length):(bZ lo n xs ys).length=xs.length:=by grind [bZ,xax,xav,xbN]
theorem zgH(hT:y4 P cf.tt)(hL:jT P cf.tt){ags:Array Operand}{ts:Array TypeId}{k:Sg->Option R}(hd:wv cx d=true)(h:zb7 cf cx σ d ags.toList ts.toList k=some r):
 ov P cx ⟨d,.call ⟨.builtin .copy,ags,ts⟩,ty,pos,aft,g⟩ σ k r:=by
 unfold zb7 at h;split at h
 ·next x y t t' hK hM=>
  obtain rfl:ags= #[x,y]:=by cases ags;simp_all
  obtain rfl:ts= #[t,t']:=by cases ts;simp_all
  split at h
  ·next s E B o ht hx=>
   split at h
   ·next s' E' xs ho=>
    obtain⟨h1,h⟩:=yn h;obtain⟨hA,h⟩:=yo h;cases hA;obtain⟨ys,h,hy⟩:=X5 h;obtain⟨zs,hb,h⟩:=xt h;have hb:zs=cpy (α:=s.D) xs ys:=hb;obtain⟨bytes,zero,hk⟩:=VU hT hL ht;have hl:s.rep.n=1:=by rw[s.n_rep];exact yc h1
    refine⟨_,h,xab _,fun fr vs env w hR=> ?_⟩;obtain⟨hB,hc⟩:=hR;obtain⟨S0,_,hΓ⟩:=hc.ex;have hn:ev env x=vs o:=zn hx<|z6 hΓ x;obtain⟨i,hi,hq,hH⟩:=wQ ho;have hm:(OS vs fr cx σ.ob)[i]? =some (mO s.rep E' (vs o) xs):=W8 hi;have fin:∀v w',St fr.we fr.Se ((OS vs fr cx σ.ob).set i<|mO s.rep E' (vs o) zs) (GS P vs env fr cx σ) w'->cm P fr cx σ.nx vs ⟨σ.nx,vj σ.rg d [],kI σ.ob o (.own s E' zs)⟩ (put env d v) w':=fun v w' hs=>by
     refine QK (σ':=⟨σ.nx,vj σ.rg d [],kI σ.ob o (.own s E' zs)⟩) (d:=d) (l:=[]) (vs:=vs) (vs':=vs) (Γl:=[]) hB hd rfl (xab _) (fun _ _=>rfl) (fun _ he=>absurd he IR) (fun e he=> ?_) (fun S w _ e he=>absurd he IR) ?_
     ·obtain⟨e',h1,h2⟩:=U2 ho e he;rw[<-h2];exact hB.o1 e' h1
     ·rw[hq];show St _ _ (MS vs (σ.ob.set i (o,.own s E' zs))++_) _ _;rw[<-te hi];exact hs
    rcases xcv (xaI xs)with h0|h0
    ·have hv:vs o=.slice none 0 0\/∃b cap,vs o=.slice (some ⟨b,0,none⟩) 0 cap:=xV hc hm fun S ⟨cs,h5,_⟩=>by
      rcases h5.2 with⟨h,_⟩|⟨b,cap,cur,h,_⟩
      ·exact .inl h
      ·rw[h0]at h;exact .inr ⟨b,cap,h⟩
     obtain⟨ba,cap,hv⟩:∃ba cap,vs o=.slice ba 0 cap:=by
      rcases hv with hv|⟨b,cap,hv⟩
      ·exact⟨_,_,hv⟩
      ·exact⟨_,_,hv⟩
     obtain⟨ao,scap,hu,_⟩:=xp.1<|hy P vs env S0 w<|z6 hΓ y;obtain⟨ti,hC,i1,i2,i3⟩:=hk.info;have hD:(P.info? E).map (·.size)=some 1:=by rw[hC];simp[i1,hl]
     have hr:=run_copy_none (P:=P) w t t' ty E ba ao 0 cap (xaI ys) scap (vq hT ht) hD<|Nat.min_zero _;rw[<-hu,<-hv,<-hn]at hr;have hz:zs=xs:=hb.trans<|zer (α:=s.D) ys h0;refine kF.of_value (v:=goInt 0) (w':=w) ?_<|fin _ w ?_
     ·simp only[execOp,resolve,invoke,builtin,xdH,xbZ,xex,xas,hr,xaG,xae]
     ·have:(OS vs fr cx σ.ob).set i (mO s.rep E' (vs o) xs)=OS vs fr cx σ.ob:=by
       obtain⟨hI,hE⟩:=xau.1 hm;rw[<-hE,xfv]
      rw[hz,this];exact hc
    ·obtain⟨b,cap,hv,hF,hG,hs⟩:=hc.openO i hm h0;refine(Hk (e:=s.rep) (l:=0) (dLen:=xaI xs) (dCap:=cap) i (vq hT ht) hk hl (wA hm) (by rw[hn,hv];simp) rfl (by lia) (fun S w ha=>hy P vs env S w<|z6 ha y) w hs).mono ?_;rintro v w' ⟨n,rfl,_,hg⟩;refine fin _ w' ?_;have hz:=(zis (α:=s.D) xs ys).trans hb.symm;rw[hz]at hg;have hf:xaI zs=xaI xs:=by rw[hb];exact zea (α:=s.D) xs ys
     have hw:=hg.closeF i (wA<|wA hm) (by rw[hf];exact hF) hG;rw[kJ,kJ,hf,<-hv]at hw;exact hw
   ·cases h
  ·next s E B o t2 lo n ht hx=>
   split at h
   ·next s' E' xs hj ho _=>
    obtain⟨h1,h⟩:=yn h;obtain⟨hA,h⟩:=yo h;cases hA;obtain⟨ys,h,hy⟩:=X5 h;obtain⟨zs,hb,h⟩:=xt h;have hb:zs=bZ (α:=s.D) lo n xs ys:=hb;obtain⟨hj⟩:=hj;subst hj;obtain⟨bytes,zero,hk⟩:=VU hT hL ht;have hl:t2.rep.n=1:=by rw[t2.n_rep];exact yc h1
    refine⟨_,h,xab _,fun fr vs env w hR=> ?_⟩;obtain⟨hB,hc⟩:=hR;obtain⟨S0,_,hΓ⟩:=hc.ex;have hn:=zn hx<|z6 hΓ x;obtain⟨i,hi,hq,hH⟩:=wQ ho;have hm:(OS vs fr cx σ.ob)[i]? =some (mO t2.rep E' (vs o) xs):=W8 hi;have fin:∀v w',St fr.we fr.Se ((OS vs fr cx σ.ob).set i<|mO t2.rep E' (vs o) zs) (GS P vs env fr cx σ) w'->cm P fr cx σ.nx vs ⟨σ.nx,vj σ.rg d [],kI σ.ob o (.own t2 E' zs)⟩ (put env d v) w':=fun v w' hs=>by
     refine QK (σ':=⟨σ.nx,vj σ.rg d [],kI σ.ob o (.own t2 E' zs)⟩) (d:=d) (l:=[]) (vs:=vs) (vs':=vs) (Γl:=[]) hB hd rfl (xab _) (fun _ _=>rfl) (fun _ he=>absurd he IR) (fun e he=> ?_) (fun S w _ e he=>absurd he IR) ?_
     ·obtain⟨e',h1,h2⟩:=U2 ho e he;rw[<-h2];exact hB.o1 e' h1
     ·rw[hq];show St _ _ (MS vs (σ.ob.set i (o,.own t2 E' zs))++_) _ _;rw[<-te hi];exact hs
    rcases xcv n with h0|h0
    ·obtain⟨ba,c,hv⟩:∃ba c,ev env x=.slice ba 0 c:=by
      rcases hn with⟨b,m,cap,c,q1,q2,q3,q4,q5⟩|⟨q1,ao,c,q2,q3⟩
      ·exact⟨_,c,by rw[q5,h0]⟩
      ·exact⟨ao,c,q3⟩
     obtain⟨ao,scap,hu,_⟩:=xp.1<|hy P vs env S0 w<|z6 hΓ y;obtain⟨ti,hC,i1,i2,i3⟩:=hk.info;have hD:(P.info? E).map (·.size)=some 1:=by rw[hC];simp[i1,hl]
     have hr:=run_copy_none (P:=P) w t t' ty E ba ao 0 c (xaI ys) scap (vq hT ht) hD<|Nat.min_zero _;rw[<-hu,<-hv]at hr;have hz:zs=xs:=by rw[hb,h0];exact Nu (α:=t2.D) lo xs ys
     refine kF.of_value (v:=goInt 0) (w':=w) ?_<|fin _ w ?_
     ·simp only[execOp,resolve,invoke,builtin,xdH,xbZ,xex,xas,hr,xaG,xae]
     ·have:(OS vs fr cx σ.ob).set i (mO t2.rep E' (vs o) xs)=OS vs fr cx σ.ob:=by
       obtain⟨hI,hE⟩:=xau.1 hm;rw[<-hE,xfv]
      rw[hz,this];exact hc
    ·rcases hn with⟨b0,m,cap0,c,q1,q2,q3,q4,q5⟩|⟨q1,ao,c,q2,q3⟩
     ·have hJ:m=xaI xs:=xV hc hm fun S hp=>fE hp q1;subst hJ;obtain⟨b,cap,hv,hF,hG,hs⟩:=hc.openO i hm (by lia);rw[q1]at hv;cases hv;refine(Hk (e:=t2.rep) (l:=lo) (dLen:=n) (dCap:=c) i (vq hT ht) hk hl (wA hm) q5 rfl q2 (fun S w ha=>hy P vs env S w<|z6 ha y) w hs).mono ?_;rintro v w' ⟨nn,rfl,_,hg⟩;refine fin _ w' ?_;have hg:St fr.we fr.Se (((OS vs fr cx σ.ob).set i<|mB (rowT t2.rep cap0) E' b0 xs).set i<|mB (rowT t2.rep cap0) E' b0<|bZ (α:=t2.D) lo n xs ys) (GS P vs env fr cx σ) w':=hg;rw[<-hb]at hg;have hf:xaI zs=xaI xs:=by rw[hb];exact Rq (α:=t2.D) ys q2
      have hw:=hg.closeF i (wA<|wA hm) (by rw[hf];exact hF) hG;rw[kJ,kJ,hf,<-q1]at hw;exact hw
     ·lia
   ·cases h
  ·cases h
 ·cases h
end
end
end Go.Proofs.YtmggkmchbdanfaaGreat
