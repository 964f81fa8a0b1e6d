/- What a proof needs: rules of walking, mirrors of functions and their plain laws. No condition. -/
import Derived.Test.YtmggkmchbdanfaaGreatZf1
import Derived.WideKeyArgs
import Derived.Lib.ConvBytes
import Derived.Laws.IdiomStrings
import Derived.Lib.AppendStr
set_option linter.all false
namespace Go.Proofs.YtmggkmchbdanfaaGreat
open Bool renaming true->I,false->wL
open Go renaming Value->wN,World->wP,TypeId->wT,Operand->wW,execOp->jp,Program->jP,run_underlying->kw,Oper->ut,undef->uL,FuncId->Z3,Tmp->Z4,IntKind->Z9,resolve->Wl,Code->Wn,heap_alloc_new->Wt,maxLen->Ww,eqGuard->WD,invoke->WN,typeInfo->WP,sizeOf->WR,ResultVar->WW,BinOp->V0,asIntOf->V4,grownCap->V5,Func->QR,Addr->JP,part->Kw,builtin->KW,Calls->Ul,MemPlace->Us,size_zeroCells->UL,growslice_fits->UP,grownCap_le_maxLen->UT,setRow_heap->bv,TypeInfo->cS,setRow_other->dL,grownCap_ge->ge,goInt->gS,DataW->g8
open Go.Proofs.YtmggkmchbdanfaaGreat renaming Zr->M,bd->G,za->Y,nm->C,ze->Q,zf->E
open List renaming length->X,length->i7
open Nat renaming beq->F
open Option renaming some->Z,none->wF
open _root_ renaming rfl->O,List->N,Int->J,Nat->K,Option->V,List->xS,Nat->wr,Option->ww,trivial->wR,absurd->wS,Bool->v6,congrArg->kW,Array->ul,if_true->uP,if_false->uS,Unit->Z2,True->Z5,ByteArray->Xs,cond_false->XS,cond_true->Wd,reduceCtorEq->Ws,Decidable->WL,False->V3,decide_eq_true_eq->Qr
open Bool renaming and_eq_true->xab,false_eq_true->xar
open Builtin renaming append_->xbQ,lenOf->xfc,zeroCells->xbk
open Call renaming operands->xex
open DataW renaming TrodAll->xeM
open Extern renaming find->xeS,findNext->xeF
open Extern.MathBitsCarry renaming m64->xbf,pair->xcq,three->xbJ
open Instr renaming fill->xdB,slice->xfN,sliceAt->xcU,sliceBound->xey,sliceBounds->xem
open Int renaming eq_ofNat_of_zero_le->xaz,fdiv->xeP,natCast_nonneg->xdg,tdiv->xcw,tmod->xbE,toNat_natCast->xaN,toNat_of_nonneg->xcZ
open IntKind renaming i64->xcY,u8->xfR
open Lib renaming strCells->xeH,strCells_length->xeV
open List renaming all_eq_true->xaQ,append_assoc->xao,append_nil->xbB,drop->xdI,eq_nil_of_length_eq_zero->xbe,ext_getElem?->xcy,getD->xdS,getD_eq_getElem?_getD->xaa,getElem?_append_left->xbj,getElem?_append_right->xbz,getElem?_eq_getElem->xak,getElem?_eq_some_iff->xax,getElem?_map->xcu,getElem_mem->xcd,length->xaH,length_append->xaq,length_cons->xaw,length_drop->xcf,length_eq_one_iff->xcR,length_eq_zero_iff->xbv,length_map->xaZ,length_replicate->xaT,length_set->xbt,length_take->xas,map_congr_left->xci,map_cons->xbU,map_map->xcP,map_nil->xer,map_toArray->xdE,mem_append->So,mem_cons->xag,mem_cons_of_mem->UV,mem_cons_self->FS,mem_filter->xbY,mem_filterMap->xea,mem_map->xap,mem_singleton->xad,nil_append->xbH,not_mem_nil->H1,range->xaY,range'->xfo,replicate->Nm,set->xfS,set_cons_succ->xfd,set_getElem_self->xda,size_toArray->xfm,take->xdu,take_append_drop->xbA,take_of_length_le->xaW
open List.cons renaming injEq->xeG
open Nat renaming add_assoc->xcM,add_mul->xaX,beq->xaf,ble->xfQ,blt->xcX,eq_of_beq_eq_true->xdt,eq_zero_or_pos->xbV,le_mul_of_pos_right->xcm,le_of_ble_eq_true->xca,le_of_lt->xdw,le_refl->IR,le_succ->xbD,le_trans->xae,lt_of_le_of_lt->xaK,lt_of_lt_of_le->xaj,lt_or_ge->xbS,lt_succ_self->xdj,mod_lt->xaM,mul_one->xdn,not_lt_zero->xbC,zero_add->xaJ,zero_le->xac,zero_mul->xcx
open Op renaming operands->xaB
open Oper renaming looksAt->xbm
open Option.some renaming inj->xdf,injEq->xat
open Prod.mk renaming injEq->xdd
open Result renaming andThen_ok->xal
open Sem renaming run_bind->xay,run_pure->xaO
open Sum renaming elim->xfe
open UInt8 renaming ofNat->xeU,toNat->xfn
open Value renaming okWide->xes,ownBlock->xej
open _root_.Array renaming getElem?_eq_some_iff->xbh,length_toList->xev,toList_append->xeT
section
structure X2 where
 f:Z3
 dom:N AM
 cod:N RM
 M:cj dom->V (iU cod)
 bk:K
structure BA where
 s:X2
 M:cj s.dom->V (PX⊕iU s.cod)
structure Er where
 f:Z3
 t:Ty
 E:wT
 E1:wT
 M:N (N t.D)->N K->K->J->J->K->K->V (N<|N t.D)
structure PY where
 f:Z3
 dom:N Ty
 g:Z3
 mc:mV dom->N PD
structure Gf where
 f:Z3
 dom:N AM
 t:Ty
 E:wT
 M:cj dom->{X Y:Type}->(N t.D->X->V (N t.D×(X⊕Y)))->X->V (X⊕Y)
structure GK where
 f:Z3
 t:Ty
 E:wT
 s:Ty
 E1:wT
 n:K
 i:K
 dom:N Ty
 M:t.D->N s.D->mV dom->V (t.D×N s.D)
structure Cf where
 tt:N (K×TI)
 cs:N X2
 an:An
 fu:K
 ex:N (K×v6)
 ms:N Er:=[]
 cl:N PY:=[]
 is:N Gf:=[]
 ps:N BA:=[]
 vg:N GK:=[]
def zgt:N GK->Z3->V GK
 |[],_=>wF
 |s::r,f=>bif F s.f f then Z s else zgt r f
def zg5:N Er->Z3->V Er
 |[],_=>wF
 |s::r,f=>bif F s.f f then Z s else zg5 r f
def zeW:N PY->Z3->V PY
 |[],_=>wF
 |s::r,f=>bif F s.f f then Z s else zeW r f
def zkO:N Gf->Z3->V Gf
 |[],_=>wF
 |s::r,f=>bif F s.f f then Z s else zkO r f
abbrev jb{R:Type}(b:v6)(x:V R):V R:=match b with
 |true=>x
 |false=>wF
abbrev GI{R:Type}(b:v6)(x y:V R):V R:=match b with
 |true=>x
 |false=>y
def Ee:N AM->v6
 |[]=>I
 |.own _ _::_=>wL
 |.var _ _::_=>wL
 |_::r=>Ee r
def noV:N RM->v6
 |[]=>I
 |.var _ _::_=>wL
 |_::r=>noV r
def IE:N X2->Z3->V X2
 |[],_=>wF
 |s::r,f=>bif F s.f f && (Ee s.dom && (F s.bk 0 && noV s.cod))then Z s else IE r f
section
variable{R:Type}(cf:Cf)(cx:Sg)
def zks:Dv->V PD
 |.d t x=>Z ⟨t,x⟩
 |.kb b=>Z ⟨.b,b⟩
 |_=>wF
def BO(v:V Dv)(t:Ty)(k:t.D->V R):V R:=match v with
 |some .nil=>(match t,k with
  |.l s,k=>k ([]:N s.D)
  |_,_=>wF)
 |some .np=>(match t,k with
  |.po s,k=>k (wF:V s.D)
  |.tr,k=>k Tr.nil
  |_,_=>wF)
 |some .ni=>(match t,k with
  |.er,k=>k wL
  |_,_=>wF)
 |some (.q s y)=>(match t,k with
  |.po a,k=>Ty.cast s a y λy=>k (Z y:V a.D)
  |.tr,k=>Ty.cast s trT y λy=>k<|Tr.un y
  |_,_=>wF)
 |some v=>(match zks v with
  |some p=>Ty.cast p.t t p.x k
  |none=>wF)
 |none=>wF
def arI(b:V0)(a c:J)(k:Dv->V R):V R:=match b with
 |.add=>E (a+c) λx=>k (.d .i x)
 |.sub=>E (a-c) λx=>k (.d .i x)
 |.mul=>E (a*c) λx=>k (.d .i x)
 |.quo=>ck (c≠0)<|E (xcw a c) λx=>k (.d .i x)
 |.rem=>ck (c≠0)<|C (xbE a c) λx=>k (.d .i x)
 |.and=>C (gi a c) λx=>k (.d .i x)
 |.or=>C (orI a c) λx=>k (.d .i x)
 |.shr=>ck (0<=c)<|C (xeP a<|2^(min c.toNat 64)) λx=>k (.d .i x)
 |.shl=>ck (0<=c)<|E (a*2^(min c.toNat 64)) λx=>k (.d .i x)
 |.lss=>if a<c then k (.kb I)else k (.kb wL)
 |.leq=>if a<=c then k (.kb I)else k (.kb wL)
 |.gtr=>if c<a then k (.kb I)else k (.kb wL)
 |.geq=>if c<=a then k (.kb I)else k (.kb wL)
 |.eql=>if a=c then k (.kb I)else k (.kb wL)
 |.neq=>if a=c then k (.kb wL)else k (.kb I)
 |_=>wF
def arU(b:V0)(a c:K)(k:Dv->V R):V R:=match b with
 |.add=>C ((a+c)%18446744073709551616) λx=>k (.d .u x)
 |.sub=>C ((a+18446744073709551616-c)%18446744073709551616) λx=>k (.d .u x)
 |.mul=>C ((a*c)%18446744073709551616) λx=>k (.d .u x)
 |.quo=>ck (c≠0)<|C (a/c) λx=>k (.d .u x)
 |.rem=>ck (c≠0)<|C (a%c) λx=>k (.d .u x)
 |.and=>C (a &&& c) λx=>k (.d .u x)
 |.or=>C (a|||c) λx=>k (.d .u x)
 |.xor=>C (a^^^c) λx=>k (.d .u x)
 |.lss=>if(a:J)<(c:J)then k (.kb I)else k (.kb wL)
 |.leq=>if(a:J)<=(c:J)then k (.kb I)else k (.kb wL)
 |.gtr=>if(c:J)<(a:J)then k (.kb I)else k (.kb wL)
 |.geq=>if(c:J)<=(a:J)then k (.kb I)else k (.kb wL)
 |.eql=>if(a:J)=(c:J)then k (.kb I)else k (.kb wL)
 |.neq=>if(a:J)=(c:J)then k (.kb wL)else k (.kb I)
 |_=>wF
def arC(b:V0)(a c:K)(k:Dv->V R):V R:=match b with
 |.add=>C ((a+c)%256) λx=>k (.d .ch x)
 |.sub=>C ((a+256-c)%256) λx=>k (.d .ch x)
 |.lss=>if(a:J)<(c:J)then k (.kb I)else k (.kb wL)
 |.leq=>if(a:J)<=(c:J)then k (.kb I)else k (.kb wL)
 |.gtr=>if(c:J)<(a:J)then k (.kb I)else k (.kb wL)
 |.geq=>if(c:J)<=(a:J)then k (.kb I)else k (.kb wL)
 |.eql=>if(a:J)=(c:J)then k (.kb I)else k (.kb wL)
 |.neq=>if(a:J)=(c:J)then k (.kb wL)else k (.kb I)
 |_=>wF
def eqT(b:V0)(a c:N K)(k:Dv->V R):V R:=match b with
 |.add=>ck (X a+X c<=9223372036854775807)<|C (a++c) λx=>k (.d .tx x)
 |.eql=>if a=c then k (.kb I)else k (.kb wL)
 |.neq=>if a=c then k (.kb wL)else k (.kb I)
 |_=>wF
def shU(b:V0)(a:K)(c:J)(k:Dv->V R):V R:=match b with
 |.shr=>ck (0<=c)<|C (a/2^(min c.toNat 64)) λx=>k (.d .u x)
 |.shl=>ck (0<=c)<|C (a*2^(min c.toNat 64)%18446744073709551616) λx=>k (.d .u x)
 |_=>wF
def zdy(b:V0)(a c:K)(k:Dv->V R):V R:=match b with
 |.shr=>C (a/2^(min (c:J).toNat 64)) λx=>k (.d .u x)
 |.shl=>C (a*2^(min (c:J).toNat 64)%18446744073709551616) λx=>k (.d .u x)
 |_=>wF
def shI(b:V0)(a:J)(c:K)(k:Dv->V R):V R:=match b with
 |.shr=>C (xeP a<|2^(min (c:J).toNat 64)) λx=>k (.d .i x)
 |.shl=>E (a*2^(min (c:J).toNat 64)) λx=>k (.d .i x)
 |_=>wF
def eqB(e:V0)(a c:v6)(k:Dv->V R):V R:=match e with
 |.eql=>C (a==c) λx=>k (.d .b x)
 |.neq=>C (!(a==c)) λx=>k (.d .b x)
 |_=>wF
def Ff(a:V0)(b:v6)(k:Dv->V R):V R:=match a with
 |.eql=>if b=I then k (.kb I)else k (.kb wL)
 |.neq=>if b=I then k (.kb wL)else k (.kb I)
 |_=>wF
def eqP(a:V0)(x:V Dv)(k:Dv->V R):V R:=match x with
 |some .np=>Ff a I k
 |some (.q _ _)=>Ff a wL k
 |some (.vs _ _)=>Ff a wL k
 |some (.d (.po s) y)=>Ff a (Option.isNone (α:=s.D) y) k
 |some (.d .tr y)=>Ff a (Tr.isNil y) k
 |_=>wF
def eqE(a:V0)(x:V Dv)(k:Dv->V R):V R:=match x with
 |some .ni=>Ff a I k
 |some (.d .er y)=>Ff a (!y) k
 |_=>wF
def zjm:wW->v6
 |.const .nilIface=>I
 |_=>wL
def zjZ:V Dv->v6
 |some .np=>I
 |_=>wL
def zl8(d:v6)(bo:V0)(x y:V PD)(k:Dv->V R):V R:=match x,y with
 |some ⟨.i,a⟩,Z ⟨.i,c⟩=>arI bo a c k
 |some ⟨.u,a⟩,Z ⟨.u,c⟩=>(match bo with
  |.shr=>zdy .shr a c k
  |.shl=>zdy .shl a c k
  |bo=>arU bo a c k)
 |some ⟨.u,a⟩,Z ⟨.i,c⟩=>shU bo a c k
 |some ⟨.i,a⟩,Z ⟨.u,c⟩=>shI bo a c k
 |some ⟨.b,a⟩,Z ⟨.b,c⟩=>jb d<|eqB bo a c k
 |some ⟨.ch,a⟩,Z ⟨.ch,c⟩=>arC bo a c k
 |some ⟨.tx,a⟩,Z ⟨.tx,c⟩=>eqT bo a c k
 |_,_=>wF
def chI(a:K):Dv:=.d .i (a:J)
def chU(a:K)(k:Dv->V R):V R:=C (a%256) λx=>k (.d .ch x)
def zoS(b:TK)(x:V PD)(k:Dv->V R):V R:=match b,x with
 |.int .i64,Z ⟨.i,a⟩=>k (.d .i a)
 |.int .u64,Z ⟨.u,a⟩=>k (.d .u a)
 |.int .u64,Z ⟨.i,a⟩=>C (sA a) λx=>k (.d .u x)
 |.int .i64,Z ⟨.u,a⟩=>C (SZ a) λx=>k (.d .i x)
 |.int .i64,Z ⟨.ch,a⟩=>k<|chI a
 |.int .u64,Z ⟨.ch,a⟩=>k (.d .u a)
 |.int .u8,Z ⟨.ch,a⟩=>k (.d .ch a)
 |.int .u8,Z ⟨.u,a⟩=>chU a k
 |_,_=>wF
def pd(σ:Sg)(x:wW):V PD:=match xo cx σ x with
 |some v=>zks v
 |none=>wF
def Zx(t:wT):V TI:=Uc cf.tt t
def isB(t:wT):v6:=match Zx cf t with
 |some ⟨_,.bool,_⟩=>I
 |_=>wL
def ziU(t:wT):v6:=match Zx cf t with
 |some ⟨_,.pt _,_⟩=>I
 |_=>wL
def znA(t:wT):v6:=match Zx cf t with
 |some ⟨_,.ie,_⟩=>I
 |_=>wL
def zme(σ:Sg)(x:wW)(k:N (K×Dv)->V R):V R:=match xo cx σ x with
 |some (.q t y)=>k [(0,.q t y)]
 |some (.vs o t)=>k [(0,.vs o t)]
 |some (.d (.po t) y)=>G (β:=t.D) y λy=>k [(0,.q t y)]
 |some (.d .tr y)=>G (Tr.opt y) λy=>k [(0,.q trT y)]
 |_=>wF
def ifB(x:v6)(a c:V R):V R:=if x=I then a else c
def eqI(x y:J):v6:=decide<|x=y
def eqU(x y:K):v6:=decide<|x=y
def ngI(a:J)(k:Dv->V R):V R:=E (0-a) λx=>k (.d .i x)
def ngU(a:K)(k:Dv->V R):V R:=C ((18446744073709551616-a)%18446744073709551616) λx=>k (.d .u x)
def zl6{α:Type}(xs ys:N α)(B:K)(k:N α->V R):V R:=ck ((X xs+X ys)*B<=140737488355328)<|C (xs++ys) k
def zq9{α:Type}(xs:N α)(n:K)(z:α)(B:K)(k:N α->V R):V R:=ck ((X xs+n)*B<=140737488355328)<|C (xs++Nm n z) k
def ixU(j:K)(n:K)(k:K->V R):V R:=zG (j:J) n k
def zcn:wW->wW->v6
 |.tmp s,.tmp t=>F s t
 |.const (.int .i64 x),.const (.int .i64 y)=>eqI x y
 |_,_=>wL
def exU(b:v6)(x y z:K)(k:N (K×Dv)->V R):V R:=
 ck (z<=1)<|GI b (C ((x+y+z)%18446744073709551616) λp=>C ((x+y+z)/18446744073709551616) λq=>k [(1,.d .u p),(2,.d .u q)])
  (C ((x+18446744073709551616-y-z)%18446744073709551616) λp=>C (if x<y+z then(1:K)else 0) λq=>k [(1,.d .u p),(2,.d .u q)])
def exD(b:v6)(x y z:V PD)(k:N (K×Dv)->V R):V R:=match x,y,z with
 |some ⟨.u,x⟩,Z ⟨.u,y⟩,Z ⟨.u,z⟩=>exU b x y z k
 |_,_,_=>wF
def parts(σ:Sg):(ts:N Ty)->N (K×wW)->K->(mV ts->V R)->V R
 |[],[],_,k=>k ()
 |t::ts,(i,x)::r,j,k=>jb (F i j)<|BO (xo cx σ x) t λy=>parts σ ts r (j+1) λys=>k (y,ys)
 |_,_,_,_=>wF
def zdo:(k:K)->Ty->N Ty
 |0,_=>[]
 |1,t=>[t]
 |k+2,.p s t=>s::zdo (k+1) t
 |_,_=>[]
def fM:(k:K)->(t:Ty)->mV (zdo k t)->V t.D
 |0,_,_=>wF
 |1,t,x=>Z x.1
 |k+2,.p s t,x=>match fM (k+1) t x.2 with
  |some y=>Z (x.1,y)
  |none=>wF
 |_+2,.i,_=>wF
 |_+2,.u,_=>wF
 |_+2,.b,_=>wF
 |_+2,.l _,_=>wF
 |_+2,.a _ _,_=>wF
 |_+2,.ch,_=>wF
 |_+2,.tx,_=>wF
 |_+2,.po _,_=>wF
 |_+2,.tr,_=>wF
 |_+2,.er,_=>wF
 |_+2,.w1 _,_=>wF
def FK:K->Ty->N Ty
 |0,_=>[]
 |n+1,t=>t::FK n t
def Ea:(n:K)->(t:Ty)->mV (FK n t)->N t.D
 |0,_,_=>[]
 |n+1,t,x=>x.1::Ea n t x.2
def aA(σ:Sg):N wW->V (N PD)
 |[]=>Z []
 |x::r=>match xo cx σ x,aA σ r with
  |some (.q t y),Z l=>Z (⟨t,y⟩::l)
  |_,_=>wF
def cF:(a:N AM)->N PD->V (cj a)
 |[],[]=>Z ()
 |.q t::r,c::cs=>Ty.cast c.t t c.x λy=>match cF r cs with
  |some z=>Z (y,z)
  |none=>wF
 |_,_=>wF
def Lb:(full:N AM)->(dom:N Ty)->mV dom->N PD->V (cj full)
 |full,[],_,cs=>cF full cs
 |.d t::r,s::dom,x,cs=>Ty.cast s t x.1 λy=>match Lb r dom x.2 cs with
  |some z=>Z (y,z)
  |none=>wF
 |_,_::_,_,_=>wF
def LL:(s t:N Ty)->V (PLift<|s=t)
 |[],[]=>Z ⟨O⟩
 |s::a,t::ts=>match Ty.same s t,LL a ts with
  |some ⟨h⟩,Z ⟨b⟩=>Z ⟨h▸b▸O⟩
  |_,_=>wF
 |_,_=>wF
def RM.D_ty:∀r:RM,r.D=r.ty.D
 |.d _=>rfl
 |.own _ _=>rfl
 |.var _ _=>rfl
def WG:∀rs:N RM,iU rs=Iq (rs.map RM.ty)
 |[]=>rfl
 |[m]=>RM.D_ty m
 |m::n::r=>by show(m.D×iU (n::r))=(m.ty.D×Iq ((n::r).map RM.ty));rw[RM.D_ty m,WG (n::r)]
def asF(σ:Sg)(v:V Dv)(dom cod:N Ty)(k:(mV dom->V (Iq cod))->V R):V R:=match v with
 |some (.fn f c)=>(match IE cf.cs f with
  |some s=>(match LL (s.cod.map RM.ty) cod with
   |some ⟨h⟩=>k λx=>match Lb s.dom dom x c with
    |some y=>((WG s.cod).trans<|kW Iq h)▸s.M y
    |none=>wF
   |none=>wF)
  |none=>wF)
 |some (.fp d c g)=>(match LL d dom,LL c cod with
  |some ⟨h⟩,Z ⟨a⟩=>k<|h▸a▸g
  |_,_=>wF)
 |_=>wF
def QB(σ:Sg):(dom:N AM)->N wW->N PD->(cj dom->V R)->V R
 |[],[],[],k=>k ()
 |.q t::r,[],c::cs,k=>Ty.cast c.t t c.x λy=>QB σ r [] cs λz=>k (y,z)
 |.d t::r,x::xs,cs,k=>BO (xo cx σ x) t λy=>QB σ r xs cs λz=>k (y,z)
 |.q t::r,x::xs,cs,k=>(match xo cx σ x with
  |some (.q s y)=>Ty.cast s t y λy=>QB σ r xs cs λz=>k (y,z)
  |_=>wF)
 |.fn dom cod::r,x::xs,cs,k=>asF cf σ (xo cx σ x) dom cod λg=>QB σ r xs cs λz=>k (g,z)
 |_,_,_,_=>wF
def Tw:(rs:N RM)->iU rs->K->N (K×Dv)
 |[],_,_=>[]
 |[.d t],x,i=>[(i,.d t x)]
 |[.own t _],x,i=>[(i,.d (.l t) x)]
 |[.var t _],x,i=>[(i,.d t x)]
 |.d t::r::rs,x,i=>(i,.d t x.1)::Tw (r::rs) x.2 (i+1)
 |.own t _::r::rs,x,i=>(i,.d (.l t) x.1)::Tw (r::rs) x.2 (i+1)
 |.var t _::r::rs,x,i=>(i,.d t x.1)::Tw (r::rs) x.2 (i+1)
def bu:N RM->v6
 |[_]=>I
 |_=>wL
def zjH(rs:N RM)(x:iU rs):N (K×Dv):=Tw rs x<|bif bu rs then 0 else 1
def Dh(σ:Sg):(dom:N Ty)->N wW->(mV dom->V R)->V R
 |[],[],k=>k ()
 |t::r,x::xs,k=>BO (xo cx σ x) t λy=>Dh σ r xs λz=>k (y,z)
 |_,_,_=>wF
def zeC:(cod:N Ty)->Iq cod->K->N (K×Dv)
 |[],_,_=>[]
 |[t],x,i=>[(i,.d t x)]
 |t::s::r,x,i=>(i,.d t x.1)::zeC (s::r) x.2 (i+1)
def zji:N Ty->v6
 |[_]=>I
 |_=>wL
def zln(σ:Sg)(v:V Dv)(k:PD->V R):V R:=match v with
 |some (.q t x)=>k ⟨t,x⟩
 |some (.vs o _)=>(match XT cx σ o with
  |some (.var t _ z)=>k ⟨t,z⟩
  |_=>wF)
 |some (.vp o t f)=>(match XT cx σ o with
  |some (.var a _ z)=>Ty.cast a t z λz=>k ⟨f.f,f.get z⟩
  |_=>wF)
 |some (.ep o t j f)=>(match XT cx σ o with
  |some (.own a _ xs)=>Ty.cast (.l a) (.l t) xs λxs=>C (f.get<|xdS xs j t.z) λy=>k ⟨f.f,y⟩
  |_=>wF)
 |_=>wF
def atI(σ:Sg)(x:wW)(n:K)(k:K->V R):V R:=match pd cx σ x with
 |some ⟨.i,j⟩=>zG j n k
 |some ⟨.u,j⟩=>ixU j n k
 |_=>wF
def N8(σ:Sg)(x:V wW)(k:V K->V R):V R:=match x with
 |none=>k wF
 |some x=>match pd cx σ x with
  |some ⟨.i,j⟩=>kv j λj=>k<|some j
  |_=>wF
def znp{α:Type}(xs:N α)(lo hi:V K)(k:N α->V R):V R:=match lo,hi with
 |none,Z h=>ck (h<=X xs)<|C (xs.take h) k
 |some l,wF=>ck (l<=X xs)<|C (xs.drop l) k
 |some l,Z h=>ck (l<=h/\h<=X xs)<|C ((xs.drop l).take<|h-l) k
 |none,wF=>k xs
def zky(m:K)(lo hi:V K)(k:K->K->V R):V R:=match lo,hi with
 |none,Z h=>ck (h<=m)<|k 0 h
 |some l,wF=>ck (l<=m)<|k l (m-l)
 |some l,Z h=>ck (l<=h/\h<=m)<|k l (h-l)
 |none,wF=>k 0 m
def zj5(σ:Sg)(t:K):K->K->N (K×Dv)
 |0,_=>[]
 |f+1,i=>match get cx σ t i with
  |some d=>(i,d)::zj5 σ t f (i+1)
  |none=>[]
def zos(σ:Sg)(x:wW)(k:N (K×Dv)->V R):V R:=match x with
 |.tmp t=>(match zj5 cx σ t 12 1 with
  |[]=>wF
  |l=>k l)
 |_=>wF
def zcf(σ:Sg)(x:wW)(k:N (K×Dv)->V R):V R:=match xo cx σ x with
 |some v=>k [(0,v)]
 |none=>zos cx σ x k
def zn5(σ:Sg)(x:wW)(i:K)(k:N (K×Dv)->V R):V R:=match x with
 |.tmp t=>(match get cx σ t (i+1)with
  |some v=>k [(0,v)]
  |none=>wF)
 |_=>wF
def zi6(σ:Sg)(x:wW)(k:N (K×Dv)->V R):V R:=match xo cx σ x with
 |some v=>k [(0,v)]
 |none=>wF
def zik(σ:Sg)(c x y:wW)(k:N (K×Dv)->V R):V R:=match xo cx σ c with
 |some (.kb I)=>zi6 cx σ x k
 |some (.kb wL)=>zi6 cx σ y k
 |_=>wF
def zq8(b:v6):Dv:=.d .b<|not b
def znM(σ:Sg)(x:wW)(k:N (K×Dv)->V R):V R:=match xo cx σ x with
 |some (.kb b)=>k [(0,.kb !b)]
 |some (.d .b b)=>k [(0,zq8 b)]
 |_=>wF
def zmF(σ:Sg)(x:wW)(k:N (K×Dv)->V R):V R:=match pd cx σ x with
 |some ⟨.i,a⟩=>ngI a λv=>k [(0,v)]
 |some ⟨.u,a⟩=>ngU a λv=>k [(0,v)]
 |_=>wF
def txD(xs:N K):Dv:=.d .tx xs
def znw(σ:Sg)(s t:wT)(x:wW)(k:N (K×Dv)->V R):V R:=match Zx cf s,Zx cf t with
 |some ⟨_,.int _,_⟩,Z a=>zoS a.k (pd cx σ x) λv=>k [(0,v)]
 |some ⟨.l .ch,.sl E,_⟩,Z ⟨_,.str,_⟩=>(match Zx cf E with
  |some ⟨_,.int .u8,_⟩=>BO (xo cx σ x) (.l .ch) λxs=>k [(0,txD xs)]
  |_=>wF)
 |some ⟨.tx,.str,_⟩,Z ⟨.l .ch,.sl E,_⟩=>(match Zx cf E,pd cx σ x with
  |some ⟨_,.int .u8,_⟩,Z ⟨.tx,xs⟩=>k [(0,.d (.l .ch) xs)]
  |_,_=>wF)
 |_,_=>wF
def elA(E:wT)(e:Ty):v6:=match Zx cf E with
 |some a=>(Ty.same a.ty e).isSome
 |none=>wL
def zql(n:K)(e:Ty)(j:K):Fl (Ty.a n e).D:=⟨j*e.n,e,λz=>xdS z j e.z,λy z=>xfS z j y⟩
def zap(σ:Sg)(t:wT)(x i:wW)(k:N (K×Dv)->V R):V R:=match Zx cf t,xo cx σ x with
 |some ⟨.l e,.sl _,_⟩,Z (.d (.l s) xs)=>Ty.cast (.l s) (.l e) xs λxs=>atI cx σ i (xaH xs) λj=>C (xdS xs j e.z) λy=>k [(0,.q e y)]
 |some ⟨.l e,.sl _,_⟩,Z (.ow o)=>(match XT cx σ o with
  |some (.own s _ xs)=>Ty.cast (.l s) (.l e) xs λxs=>atI cx σ i (xaH xs) λj=>k [(0,.ep o e j<|Fl.self e)]
  |_=>wF)
 |some ⟨_,.ar b E,_⟩,Z (.q (.a n e) x)=>jb (F b n && elA cf E e)<|atI cx σ i n λj=>C (xdS x j e.z) λy=>k [(0,.q e y)]
 |some ⟨_,.ar b E,_⟩,Z (.vs o (.a n e))=>jb (F b n && elA cf E e)<|atI cx σ i n λj=>k [(0,.vp o (.a n e)<|zql n e j)]
 |_,_=>wF
def zan(σ:Sg)(t:wT)(x:wW)(i:K)(k:N (K×Dv)->V R):V R:=match Zx cf t,xo cx σ x with
 |some ⟨e,.st n,_⟩,Z (.q s y)=>Ty.cast s e y λy=>(match xe n e i with
  |some f=>k [(0,.q f.f<|f.get y)]
  |none=>wF)
 |some ⟨e,.st n,_⟩,Z (.vs o s)=>(match Ty.same s e,xe n s i with
  |some _,Z f=>k [(0,.vp o s f)]
  |_,_=>wF)
 |some ⟨e,.st n,_⟩,Z (.vp o s g)=>(match Ty.same g.f e,xe n g.f i with
  |some _,Z f=>k [(0,.vp o s<|g.comp f)]
  |_,_=>wF)
 |some ⟨e,.st n,_⟩,Z (.ep o s j g)=>(match Ty.same g.f e,xe n g.f i with
  |some _,Z f=>k [(0,.ep o s j<|g.comp f)]
  |_,_=>wF)
 |_,_=>wF
def NU(σ:Sg)(t:wT)(x:wW)(i:K)(k:N (K×Dv)->V R):V R:=match Zx cf t,xo cx σ x with
 |some ⟨e,.st n,_⟩,Z (.d s y)=>Ty.cast s e y λy=>(match xe n e i with
  |some f=>k [(0,.d f.f<|f.get y)]
  |none=>wF)
 |_,_=>wF
def zgr(σ:Sg)(t:wT)(x:wW)(k:N (K×Dv)->V R):V R:=match Zx cf t with
 |some a=>zln cx σ (xo cx σ x) λp=>Ty.cast p.t a.ty p.x λy=>k [(0,.d a.ty y)]
 |none=>wF
def zaF(σ:Sg)(t:wT)(x:wW)(lo hi:V wW)(k:N (K×Dv)->V R):V R:=match Zx cf t,xo cx σ x with
 |some ⟨.l e,.sl _,_⟩,Z (.d (.l s) xs)=>Ty.cast (.l s) (.l e) xs λxs=>N8 cx σ lo λlo=>N8 cx σ hi λhi=>znp (α:=e.D) xs lo hi λys=>k [(0,.d (.l e) ys)]
 |some ⟨.l e,.sl _,_⟩,Z (.ow o)=>(match XT cx σ o with
  |some (.own s _ xs)=>Ty.cast (.l s) (.l e) xs λxs=>N8 cx σ lo λlo=>N8 cx σ hi λhi=>zky (xaH xs) lo hi λl n=>k [(0,.sv o e l n)]
  |_=>wF)
 |some ⟨_,.str,_⟩,Z (.d .tx xs)=>N8 cx σ lo λlo=>N8 cx σ hi λhi=>znp (α:=K) xs lo hi λys=>k [(0,.d .tx ys)]
 |_,_=>wF
def zmh(σ:Sg)(t:wT)(x i:wW)(k:N (K×Dv)->V R):V R:=match Zx cf t,xo cx σ x with
 |some ⟨_,.str,_⟩,Z (.d .tx xs)=>atI cx σ i (xaH (α:=K) xs) λj=>C (xdS (α:=K) xs j 0) λy=>k [(0,.d .ch y)]
 |_,_=>wF
def znf(σ:Sg)(E:wT)(x:wW)(k:N (K×Dv)->V R):V R:=match Zx cf E with
 |some a=>BO (xo cx σ x) a.ty λy=>k [(0,.q a.ty y)]
 |none=>wF
def zhU(σ:Sg)(n:K)(ty:Ty):N (K×wW)->ty.D->(ty.D->V R)->V R
 |[],z,k=>k z
 |(i,x)::r,z,k=>match xe n ty i with
  |some f=>BO (xo cx σ x) f.f λy=>zhU σ n ty r (f.set y z) k
  |none=>wF
def zaa(σ:Sg)(t:wT)(ps:N (K×wW))(k:N (K×Dv)->V R):V R:=match Zx cf t with
 |some ⟨ty,.st n,_⟩=>GI (xcX (X ps) n||F n 0) (zhU cx σ n ty ps ty.z λy=>k [(0,.d ty y)]) (parts cx σ (zdo n ty) ps 0 λys=>match fM n ty ys with
  |some y=>k [(0,.d ty y)]
  |none=>wF)
 |some ⟨.a n e,.ar b E,_⟩=>jb (F b n && elA cf E e)<|parts cx σ (FK n e) ps 0 λys=>k [(0,.d (.a n e)<|Ea n e ys)]
 |_=>wF
def znI(σ:Sg)(t:wT)(n:K)(ps:N (K×wW))(k:N (K×Dv)->V R):V R:=match Zx cf t with
 |some ⟨.l s,.sl _,_⟩=>jb (xfQ (n*s.n) 16777216)<|parts cx σ (FK n s) ps 0 λys=>k [(0,.d (.l s)<|Ea n s ys)]
 |_=>wF
def znG(σ:Sg)(f:Go.Fn)(first cs:N wW)(k:N (K×Dv)->V R):V R:=match f,first,aA cx σ cs with
 |.func f,[],Z l=>k [(0,.fn f l)]
 |.func f,[x],Z []=>(match xo cx σ x with
  |some (.vs o t)=>k [(0,.bm f o t)]
  |_=>wF)
 |_,_,_=>wF
def Rn(n:K):Dv:=.d .i (n:J)
def znc(σ:Sg)(x:N wW)(ts:N wT)(k:N (K×Dv)->V R):V R:=match x,ts with
 |[x],[t]=>(match Zx cf t with
  |some ⟨.l _,.sl _,_⟩=>(match xo cx σ x with
   |some .nil=>k [(0,Rn 0)]
   |some (.d (.l _) xs)=>k [(0,Rn<|xaH xs)]
   |some (.ow o)=>(match XT cx σ o with
    |some (.own _ _ xs)=>k [(0,Rn<|xaH xs)]
    |_=>wF)
   |_=>wF)
  |some ⟨_,.str,_⟩=>(match xo cx σ x with
   |some (.d .tx xs)=>k [(0,Rn<|xaH (α:=K) xs)]
   |_=>wF)
  |_=>wF)
 |_,_=>wF
def zml(x:J):Dv:=.d .i x
def mxI(b:v6)(a c:J)(k:J->V R):V R:=match b with
 |true=>C (max a c) k
 |false=>C (min a c) k
def eMM(b:v6)(σ:Sg)(x:N wW)(k:N (K×Dv)->V R):V R:=match x with
 |[x,y]=>(match pd cx σ x,pd cx σ y with
  |some ⟨.i,a⟩,Z ⟨.i,c⟩=>mxI b a c λz=>k [(0,zml z)]
  |_,_=>wF)
 |_=>wF
def zpN:wW->v6
 |.func _=>I
 |_=>wL
def zfd(σ:Sg)(c:wW)(a:N wW)(k:N (K×Dv)->V R):V R:=match xo cx σ c with
 |some (.fn f cs)=>(match IE cf.cs f with
  |some s=>QB cf cx σ s.dom a cs λy=>G (s.M y) λr=>k<|zjH s.cod r
  |none=>(match Uc cf.ex f,a,cs with
   |some b,[x,y,z],[]=>jb (zpN c)<|exD b (pd cx σ x) (pd cx σ y) (pd cx σ z) k
   |_,_,_=>wF))
 |some (.fp dom cod g)=>Dh cx σ dom a λy=>G (g y) λr=>k<|zeC cod r<|bif zji cod then 0 else 1
 |_=>wF
def OX:V Dv->v6
 |some (.mw _)=>I
 |some (.mv _ _ _)=>I
 |some (.hp _ _)=>I
 |some (.rw _ _)=>I
 |some (.rp _ _ _ _ _)=>I
 |some (.vf _ _ _ _)=>I
 |_=>wL
def zl1:V Dv->v6
 |some (.mv _ _ _)=>I
 |_=>wL
def mkF(σ:Sg)(f:wW):v6:=match xo cx σ f with
 |some (.fn f _)=>(zeW cf.cl f).isSome
 |_=>wL
def zp1(σ:Sg):Op->v6
 |.nilCheck x=>OX<|xo cx σ x
 |.load _ x=>OX<|xo cx σ x
 |.indexAddr _ x _=>OX<|xo cx σ x
 |.fieldAddr _ x _=>OX<|xo cx σ x
 |.slice _ x _ _ wF=>OX<|xo cx σ x
 |.call ⟨.builtin .len,ags,_⟩=>ags.toList.any λx=>OX<|xo cx σ x
 |.call ⟨.value f,ags,_⟩=>mkF cf cx σ f||ags.toList.any λx=>zl1<|xo cx σ x
 |_=>wL
def uF{α:Type}(a:N (N α))(r:K):N α:=a.getD r []
def zdf{α:Type}(a:N (N α))(ix:N K):N (N α):=ix.map<|uF a
def Nx(σ:Sg)(t:wT)(x i:wW)(k:N (K×Dv)->V R):V R:=match Zx cf t,xo cx σ x with
 |some ⟨.l (.l e),.sl _,_⟩,Z (.mw o)=>(match XT cx σ o with
  |some (.mat s _ _ a ix)=>atI cx σ i (xaH ix) λj=>k [(0,.hp o j)]
  |_=>wF)
 |some ⟨.l (.l e),.sl _,_⟩,Z (.mv o lo n)=>(match XT cx σ o with
  |some (.mat s _ _ a ix)=>atI cx σ i n λj=>k [(0,.hp o<|lo+j)]
  |_=>wF)
 |some ⟨.l e,.sl _,_⟩,Z (.rw o r)=>(match XT cx σ o with
  |some (.mat s _ _ a ix)=>Ty.cast (.l (.l s)) (.l (.l e)) a λa=>atI cx σ i (xaH<|uF (α:=e.D) a r) λj=>k [(0,.rp o e r j<|Fl.self e)]
  |_=>wF)
 |_,_=>wF
def zhc(n:K)(s:Ty)(i j:K)(k:Fl s.D->V R):V R:=jb (!F i j) (match xe n s i with
 |some f=>k f
 |none=>wF)
def zmk(a:TI)(o:K)(k:N (K×Dv)->V R):V R:=match a with
 |⟨.l _,.sl _,_⟩=>k [(0,.rw o 0)]
 |_=>wF
def zbo(σ:Sg)(t:wT)(x:wW)(k:N (K×Dv)->V R):V R:=match Zx cf t,xo cx σ x with
 |some ⟨.l e,.sl _,_⟩,Z (.hp o j)=>(match XT cx σ o with
  |some (.mat s _ _ a ix)=>C (xdS ix j 0) λr=>k [(0,.rw o r)]
  |_=>wF)
 |some b,Z (.rp o e r j f)=>(match XT cx σ o with
  |some (.mat s _ _ a ix)=>Ty.cast (.l (.l s)) (.l (.l e)) a λa=>C (f.get<|xdS (uF (α:=e.D) a r) j e.z) λy=>Ty.cast f.f b.ty y λy=>k [(0,.d b.ty y)]
  |_=>wF)
 |some b,Z (.vf o c n0 i)=>(match XT cx σ o with
  |some (.vr s _ _ _ n j z _)=>jb (F n0 n && (Ty.same c s).isSome)<|GI (F i j) (zmk b o k) (zhc n s i j λf=>Ty.cast f.f b.ty (f.get z) λy=>k [(0,.d b.ty y)])
  |some (.vh s _ _ _ n j z)=>jb (F n0 n && (Ty.same c s).isSome)<|zhc n s i j λf=>Ty.cast f.f b.ty (f.get z) λy=>k [(0,.d b.ty y)]
  |_=>wF)
 |_,_=>wF
def NK(σ:Sg)(t:wT)(x:wW)(i:K)(k:N (K×Dv)->V R):V R:=match Zx cf t,xo cx σ x with
 |some ⟨e,.st n,_⟩,Z (.mw o)=>(match XT cx σ o with
  |some (.vr s _ _ _ a _ _ _)=>jb (F a n && (Ty.same s e).isSome && (xe n e i).isSome)<|k [(0,.vf o e n i)]
  |some (.vh s _ _ _ a _ _)=>jb (F a n && (Ty.same s e).isSome && (xe n e i).isSome)<|k [(0,.vf o e n i)]
  |_=>wF)
 |_,_=>wF
def zgC(σ:Sg)(x:wW)(k:N (K×Dv)->V R):V R:=match xo cx σ x with
 |some (.mw o)=>(match XT cx σ o with
  |some (.vr _ _ _ _ _ _ _ _)=>k [(0,.mw o)]
  |some (.vh _ _ _ _ _ _ _)=>k [(0,.mw o)]
  |_=>wF)
 |_=>wF
def LH(σ:Sg)(t:wT)(x:wW)(lo hi:V wW)(k:N (K×Dv)->V R):V R:=match Zx cf t,xo cx σ x with
 |some ⟨.l (.l e),.sl _,_⟩,Z (.mw o)=>(match XT cx σ o with
  |some (.mat s _ _ a ix)=>N8 cx σ lo λlo=>N8 cx σ hi λhi=>zky (xaH ix) lo hi λl n=>k [(0,.mv o l n)]
  |_=>wF)
 |_,_=>wF
def zeU(σ:Sg)(x:N wW)(ts:N wT)(k:N (K×Dv)->V R):V R:=match x,ts with
 |[x],[t]=>(match Zx cf t,xo cx σ x with
  |some ⟨.l _,.sl _,_⟩,Z (.mw o)=>(match XT cx σ o with
   |some (.mat _ _ _ _ ix)=>k [(0,Rn<|xaH ix)]
   |_=>wF)
  |some ⟨.l _,.sl _,_⟩,Z (.mv o _ n)=>(match XT cx σ o with
   |some (.mat _ _ _ _ _)=>k [(0,Rn n)]
   |_=>wF)
  |some ⟨.l _,.sl _,_⟩,Z (.rw o r)=>(match XT cx σ o with
   |some (.mat _ _ _ a _)=>k [(0,Rn<|xaH<|uF a r)]
   |some (.vr _ _ _ _ _ _ _ xs)=>k [(0,Rn<|xaH xs)]
   |_=>wF)
  |_,_=>wF)
 |_,_=>wF
def QG(σ:Sg):(dom:N AM)->N wW->N PD->(cj dom->V R)->V R
 |[],[],[],k=>k ()
 |.q t::r,[],c::cs,k=>Ty.cast c.t t c.x λy=>QG σ r [] cs λz=>k (y,z)
 |.d t::r,x::xs,cs,k=>(match xo cx σ x with
  |some (.mv o lo n)=>(match XT cx σ o with
   |some (.mat s _ _ a ix)=>Ty.cast (.l (.l s)) t (xdu n<|xdI lo<|zdf a ix) λy=>QG σ r xs cs λz=>k (y,z)
   |_=>wF)
  |v=>BO v t λy=>QG σ r xs cs λz=>k (y,z))
 |.fn dom cod::r,x::xs,cs,k=>asF cf σ (xo cx σ x) dom cod λg=>QG σ r xs cs λz=>k (g,z)
 |_,_,_,_=>wF
def P0:N RM->v6
 |[]=>I
 |.d .i::r=>P0 r
 |.d .b::r=>P0 r
 |.d .u::r=>P0 r
 |_=>wL
def Tv(σ:Sg)(b:wW)(a:N wW)(k:N (K×Dv)->V R):V R:=match xo cx σ b with
 |some (.fn f cs)=>(match zeW cf.cl f,cs with
  |some s,[]=>Dh cx σ s.dom a λys=>k [(0,.fn s.g<|s.mc ys)]
  |_,cs=>(match IE cf.cs f with
   |some s=>jb (P0 s.cod)<|QG cf cx σ s.dom a cs λy=>G (s.M y) λr=>k<|zjH s.cod r
   |none=>wF))
 |_=>wF
def zmJ(σ:Sg)(T:wT)(x:wW)(k:N (K×Dv)->V R):V R:=match Uc cf.tt T,xo cx σ x with
 |some ⟨.w1 .i,.st 0,_⟩,Z (.d t y)=>Ty.cast t (.w1 .i) y λz=>k [(0,.ifc (T,z))]
 |_,_=>wF
def eCo(σ:Sg)(b:Op)(k:N (K×Dv)->V R):V R:=match b with
 |.load t x=>zbo cf cx σ t x k
 |.indexAddr t x i=>Nx cf cx σ t x i k
 |.fieldAddr t x i=>NK cf cx σ t x i k
 |.slice t x lo hi wF=>LH cf cx σ t x lo hi k
 |.call ⟨.builtin .len,a,ts⟩=>zeU cf cx σ a.toList ts.toList k
 |.call ⟨.value f,a,_⟩=>Tv cf cx σ f a.toList k
 |.nilCheck x=>zgC cx σ x k
 |_=>wF
def zn0(σ:Sg)(d:Op)(k:N (K×Dv)->V R):V R:=match d with
 |.move x=>zcf cx σ x k
 |.assign x=>zcf cx σ x k
 |.extract x i=>zn5 cx σ x i k
 |.pick c x y=>zik cx σ c x y k
 |.unOp .not _ x=>znM cx σ x k
 |.unOp .neg _ x=>zmF cx σ x k
 |.binOp b t x y _=>GI (zjm y) (jb (znA cf t)<|eqE b (xo cx σ x) λv=>k [(0,v)])<|GI (zjZ<|xo cx σ y) (jb (ziU cf t)<|eqP b (xo cx σ x) λv=>k [(0,v)]) (zl8 (isB cf t) b (pd cx σ x) (pd cx σ y) λv=>k [(0,v)])
 |.nilCheck x=>zme cx σ x k
 |.convert s t x=>znw cf cx σ s t x k
 |.load t x=>zgr cf cx σ t x k
 |.indexAddr t x i=>zap cf cx σ t x i k
 |.fieldAddr t x i=>zan cf cx σ t x i k
 |.field t x i=>NU cf cx σ t x i k
 |.slice t x lo hi wF=>zaF cf cx σ t x lo hi k
 |.index t x i=>zmh cf cx σ t x i k
 |.box E x=>znf cf cx σ E x k
 |.build t ps=>zaa cf cx σ t ps.toList k
 |.makeInterface t x=>zmJ cf cx σ t x k
 |.buildSlice t n ps=>znI cf cx σ t n ps.toList k
 |.makeFunc f first cs=>znG cx σ f first.toList cs.toList k
 |.call ⟨.builtin .len,a,ts⟩=>znc cf cx σ a.toList ts.toList k
 |.call ⟨.builtin .max,a,_⟩=>eMM cx I σ a.toList k
 |.call ⟨.builtin .min,a,_⟩=>eMM cx wL σ a.toList k
 |.call ⟨.value f,a,_⟩=>zfd cf cx σ f a.toList k
 |_=>wF
def eOp(σ:Sg)(a:Op)(k:N (K×Dv)->V R):V R:=GI (zp1 cf cx σ a) (eCo cf cx σ a k)<|zn0 cf cx σ a k
def vn:Dv->V K
 |.ow o=>Z o
 |.vs o _=>Z o
 |.ep o _ _ _=>Z o
 |.sv o _ _ _=>Z o
 |.vp o _ _=>Z o
 |.mw o=>Z o
 |.mv o _ _=>Z o
 |.hp o _=>Z o
 |.rw o _=>Z o
 |.rp o _ _ _ _=>Z o
 |.yd o=>Z o
 |.vf o _ _ _=>Z o
 |.bm _ o _=>Z o
 |_=>wF
def okL(n:K)(l:N (K×Dv)):v6:=l.all λe=>match vn e.2 with
 |some o=>xcX o n
 |none=>I
def Ld(o:K)(x:Od)(v:Dv):Dv:=match v,x with
 |.ow a,.own s _ xs=>bif F a o then .d (.l s) xs else v
 |.vs a _,.var s _ z=>bif F a o then .q s z else v
 |.mw a,.mat s _ _ b ix=>bif F a o then .d (.l (.l s)) (zdf b ix)else v
 |.mw a,.vr t _ s _ n i z xs=>bif F a o then .q t (uj s (xe n t i) xs z)else v
 |_,_=>v
def FW(o:K)(x:Od):N (K×K×Dv)->N (K×K×Dv)
 |[]=>[]
 |(t,i,v)::r=>(t,i,Ld o x v)::FW o x r
def Pb(σ:Sg)(o:K):Sg:=match xy σ.ob o with
 |some x=>⟨σ.nx,FW o x σ.rg,yx σ.ob o⟩
 |none=>σ
def frz(σ:Sg)(x:wW):Sg:=match xo cx σ x with
 |some (.ow o)=>Pb σ o
 |some (.vs o _)=>Pb σ o
 |some (.mw o)=>Pb σ o
 |_=>σ
def zjh(σ:Sg):N wW->Sg
 |[]=>σ
 |x::r=>zjh (frz cx σ x) r
def Te(σ:Sg):N AM->N wW->v6
 |[],_=>I
 |.own _ _::r,x::xs=>(match xo cx σ x with
  |some (.ow o)=>σ.ob.any λe=>F e.1 o
  |_=>wL) && Te σ r xs
 |.var _ _::r,x::xs=>(match xo cx σ x with
  |some (.vs o _)=>σ.ob.any λe=>F e.1 o
  |_=>wL) && Te σ r xs
 |.d _::r,x::xs=> !zl1 (xo cx σ x) && Te σ r xs
 |_::r,_::xs=>Te σ r xs
 |_::r,[]=>Te σ r []
def zae(σ:Sg)(f:Z3)(a:N wW):N X2->V X2
 |[]=>wF
 |s::r=>match F s.f f && Te cx σ s.dom a with
  |true=>Z s
  |false=>zae σ f a r
def ziw(σ:Sg)(f:Z3)(a:N wW):N BA->V BA
 |[]=>wF
 |p::r=>match F p.s.f f && Te cx σ p.s.dom a with
  |true=>Z p
  |false=>ziw σ f a r
def zjY(d:V Z4):v6:=match d with
 |some t=>bZ cf.an.vw t
 |none=>wL
def Th(d:V Z4):v6:=match d with
 |some t=>bZ cf.an.mt t
 |none=>wL
def zrH:V Dv->v6
 |some (.hp _ _)=>I
 |some (.mw _)=>I
 |_=>wL
def zpg(σ:Sg):V Dv->v6
 |some (.vf o _ _ i)=>(match xy σ.ob o with
  |some (.vh _ _ _ _ _ j _)=>F i j
  |_=>wL)
 |_=>wL
def zfj:V Dv->v6
 |some (.mw _)=>I
 |_=>wL
def zlS(σ:Sg)(dom:N AM)(a:N wW):N wW:=(dom.zip a).filterMap λe=>match e.1 with
 |.d _=>(match zl1 (xo cx σ e.2)with
  |true=>wF
  |false=>Z e.2)
 |.q _=>Z e.2
 |_=>wF
def znz(σ:Sg)(d:V Z4):Op->N wW
 |.build _ ps=>ps.toList.map (·.2)
 |.buildSlice _ _ ps=>(match Th cf d with
  |true=>[]
  |false=>ps.toList.map (·.2))
 |.store _ a v=>(match zrH (xo cx σ a)||zpg σ (xo cx σ a),xo cx σ v with
  |false,Z (.ow _)=>[v]
  |_,_=>[])
 |.slice _ x wF (Z _) wF=>(match zfj (xo cx σ x),zjY cf d with
  |true,wL=>[x]
  |_,_=>[])
 |.box _ v=>[v]
 |.load _ x=>(match xo cx σ x with
  |some (.mw o)=>(match XT cx σ o with
   |some (.vr _ _ _ _ _ _ _ _)=>[x]
   |_=>[])
  |_=>[])
 |.convert _ _ v=>[v]
 |.makeFunc _ _ cs=>cs.toList
 |.slice _ x (Z _) _ _=>(match zjY cf d with
  |true=>[]
  |false=>[x])
 |.call ⟨.builtin .append,b,_⟩=>(match b.toList.any λx=>zfj (xo cx σ x)with
  |true=>[]
  |false=>b.toList.drop 1)
 |.call ⟨.builtin .copy,b,_⟩=>b.toList.drop 1
 |.call ⟨.value f,b,_⟩=>(match xo cx σ f with
  |some (.fn f _)=>(match zae cx σ f b.toList cf.cs with
   |some s=>zlS cx σ s.dom b.toList
   |none=>(match ziw cx σ f b.toList cf.ps with
    |some p=>zlS cx σ p.s.dom b.toList
    |none=>[]))
  |some (.fp _ _ _)=>b.toList
  |_=>[])
 |_=>[]
def Sl(σ:Sg)(d:V Z4)(mk:K->Dv)(x:Od):Sg:=⟨σ.nx+1,v7 σ.rg d [(0,mk σ.nx)],(σ.nx,x)::σ.ob⟩
def ZU(σ:Sg):(dom:N AM)->N wW->N PD->(cj dom->N K->V R)->V R
 |[],[],[],k=>k () []
 |.q t::r,[],c::cs,k=>Ty.cast c.t t c.x λy=>ZU σ r [] cs λz os=>k (y,z) os
 |.d t::r,x::xs,cs,k=>BO (xo cx σ x) t λy=>ZU σ r xs cs λz os=>k (y,z) os
 |.q t::r,x::xs,cs,k=>(match xo cx σ x with
  |some (.q s y)=>Ty.cast s t y λy=>ZU σ r xs cs λz os=>k (y,z) os
  |_=>wF)
 |.own t E::r,x::xs,cs,k=>(match xo cx σ x with
  |some (.ow o)=>(match xy σ.ob o with
   |some (.own s a ys)=>jb (F E a)<|Ty.cast (.l s) (.l t) ys λy=>ZU σ r xs cs λz os=>jb (!bZ os o)<|k (y,z) (o::os)
   |_=>wF)
  |_=>wF)
 |.var t E::r,x::xs,cs,k=>(match xo cx σ x with
  |some (.vs o _)=>(match xy σ.ob o with
   |some (.var s a y)=>jb (F E a)<|Ty.cast s t y λy=>ZU σ r xs cs λz os=>jb (!bZ os o)<|k (y,z) (o::os)
   |_=>wF)
  |_=>wF)
 |.fn dom cod::r,x::xs,cs,k=>asF cf σ (xo cx σ x) dom cod λg=>ZU σ r xs cs λz os=>k (g,z) os
 |_,_,_,_=>wF
def uX:(rs:N RM)->iU rs->K->K->N (K×Dv)×N (K×Od)
 |[],_,_,_=>([],[])
 |[.d t],x,i,o=>([(i,.d t x)],[])
 |[.own t E],x,i,o=>([(i,.ow o)],[(o,.own t E x)])
 |[.var t E],x,i,o=>([(i,.vs o t)],[(o,.var t E x)])
 |.d t::r::rs,x,i,o=>let y:=uX (r::rs) x.2 (i+1) o
  ((i,.d t x.1)::y.1,y.2)
 |.own t E::r::rs,x,i,o=>let y:=uX (r::rs) x.2 (i+1) (o+1)
  ((i,.ow o)::y.1,(o,.own t E x.1)::y.2)
 |.var t E::r::rs,x,i,o=>let y:=uX (r::rs) x.2 (i+1) (o+1)
  ((i,.vs o t)::y.1,(o,.var t E x.1)::y.2)
def vI(ob:N (K×Od)):N K->N (K×Od)
 |[]=>ob
 |o::r=>yx (vI ob r) o
def zbq(σ:Sg)(s:Ty)(p v:V Dv)(k:Sg->V R):V R:=match p with
 |some (.vs o _)=>(match xy σ.ob o with
  |some (.var b E z)=>Ty.cast b s z λz=>BO v s λy=>k ⟨σ.nx,σ.rg,kQ σ.ob o (.var s E y)⟩
  |_=>wF)
 |some (.vp o a f)=>(match xy σ.ob o,Ty.same f.f s with
  |some (.var b E z),Z _=>Ty.cast b a z λz=>BO v f.f λy=>C (f.set y z) λz=>k ⟨σ.nx,σ.rg,kQ σ.ob o (.var a E z)⟩
  |_,_=>wF)
 |some (.ep o a j f)=>(match xy σ.ob o,Ty.same f.f s with
  |some (.own b E xs),Z _=>Ty.cast (.l b) (.l a) xs λxs=>BO v f.f λy=>C (xfS xs j<|f.set y<|xdS xs j a.z) λxs=>k ⟨σ.nx,σ.rg,kQ σ.ob o (.own a E xs)⟩
  |_,_=>wF)
 |_=>wF
def zaO(σ:Sg)(d:V Z4)(E:wT)(k:Sg->V R):V R:=match Zx cf E with
 |some a=>k<|Sl σ d (λo=> .vs o a.ty) (.var a.ty E a.ty.z)
 |none=>wF
def zny(σ:Sg)(d:V Z4)(E:wT)(x:wW)(k:Sg->V R):V R:=match Zx cf E with
 |some a=>BO (xo cx σ x) a.ty λy=>k<|Sl σ d (λo=> .vs o a.ty) (.var a.ty E y)
 |none=>wF
def zfM(σ:Sg)(d:V Z4)(t:wT)(x y:wW)(k:Sg->V R):V R:=match Zx cf t with
 |some ⟨.l s,.sl E,_⟩=>jb (zcn x y) (match Zx cf E,pd cx σ x with
  |some a,Z ⟨.i,n⟩=>Ty.cast a.ty s a.ty.z λz=>kv n λn=>ck (a.B*n<=281474976710656)<|C (Nm n z) λxs=>k<|Sl σ d .ow (.own s E xs)
  |_,_=>wF)
 |_=>wF
def zm2(σ:Sg)(d:V Z4)(t:wT)(n:K)(ps:N (K×wW))(k:Sg->V R):V R:=match Zx cf t with
 |some ⟨.l s,.sl E,_⟩=>jb (xfQ (n*s.n) 16777216)<|parts cx σ (FK n s) ps 0 λys=>k<|Sl σ d .ow (.own s E<|Ea n s ys)
 |_=>wF
def zbj(σ:Sg)(d:V Z4)(t:wT)(o:K)(hi:wW)(k:Sg->V R):V R:=match Zx cf t,xy σ.ob o with
 |some ⟨.l a,.sl _,_⟩,Z (.own s E xs)=>Ty.cast (.l s) (.l a) xs λxs=>N8 cx σ (Z hi) λh=>znp (α:=a.D) xs wF h λys=>k ⟨σ.nx+1,v7 σ.rg d [(0,.ow σ.nx)],(σ.nx,.own a E ys)::yx σ.ob o⟩
 |_,_=>wF
def zbO(σ:Sg)(d:V Z4)(b:wT)(a:v6)(s:Ty)(E:wT)(B:K)(z:s.D)(y:wW)(ob:N (K×Od))(xs:N s.D)(k:Sg->V R):V R:=match pd cx σ y with
 |some ⟨.i,n⟩=>(match Zx cf b with
  |some ⟨_,.int _,_⟩=>kv n λn=>zq9 xs n z B λzs=>k ⟨σ.nx+1,v7 σ.rg d [(0,.ow σ.nx)],(σ.nx,.own s E zs)::ob⟩
  |_=>wF)
 |some ⟨.tx,ys⟩=>(match Zx cf b with
  |some ⟨_,.str,_⟩=>Ty.cast (.l .ch) (.l s) ys λys=>zl6 (α:=s.D) xs ys B λzs=>k ⟨σ.nx+1,v7 σ.rg d [(0,.ow σ.nx)],(σ.nx,.own s E zs)::ob⟩
  |_=>wF)
 |_=>(match xo cx σ y with
  |some (.sv o2 t2 lo n)=>(match XT cx ⟨σ.nx,σ.rg,ob⟩ o2 with
   |some (.own c _ zs)=>jb a<|Ty.cast (.l c) (.l t2) zs λzs=>Ty.cast (.l t2) (.l s) (xdu n<|xdI lo zs) λys=>C ys λys=>zl6 (α:=s.D) xs ys B λzs=>k ⟨σ.nx+1,v7 σ.rg d [(0,.ow σ.nx)],(σ.nx,.own s E zs)::ob⟩
   |_=>wF)
  |_=>jb a<|BO (xo cx σ y) (.l s) λys=>zl6 (α:=s.D) xs ys B λzs=>k ⟨σ.nx+1,v7 σ.rg d [(0,.ow σ.nx)],(σ.nx,.own s E zs)::ob⟩)
def znt(σ:Sg)(d:V Z4)(c:N wW)(ts:N wT)(k:Sg->V R):V R:=match c,ts with
 |[x,y],[t,a]=>(match Zx cf t with
  |some ⟨.l s,.sl E,_⟩=>(match Zx cf E with
   |some b=>Ty.cast b.ty s b.ty.z λz=>(match xo cx σ x with
    |some .nil=>zbO cf cx σ d a (F t a) s E b.B z y σ.ob [] k
    |some (.ow o)=>(match xy σ.ob o with
     |some (.own e f xs)=>jb (F f E)<|Ty.cast (.l e) (.l s) xs λxs=>zbO cf cx σ d a (F t a) s E b.B z y (yx σ.ob o) xs k
     |_=>wF)
    |_=>wF)
   |none=>wF)
  |_=>wF)
 |_,_=>wF
def zfG(σ:Sg)(d:V Z4)(a:N wW)(ts:N wT)(k:Sg->V R):V R:=match a,ts with
 |[x,y],[t,_]=>(match Zx cf t,xo cx σ x with
  |some ⟨.l s,.sl _,_⟩,Z (.ow o)=>(match xy σ.ob o with
   |some (.own b c xs)=>Ty.cast (.l b) (.l s) xs λxs=>BO (xo cx σ y) (.l s) λys=>C (cpy (α:=s.D) xs ys) λzs=>k ⟨σ.nx,v7 σ.rg d [],kQ σ.ob o (.own s c zs)⟩
   |_=>wF)
  |some ⟨.l s,.sl _,_⟩,Z (.sv o t2 lo n)=>(match xy σ.ob o,Ty.same t2 s with
   |some (.own b c xs),Z _=>Ty.cast (.l b) (.l s) xs λxs=>BO (xo cx σ y) (.l s) λys=>C (lZ (α:=s.D) lo n xs ys) λzs=>k ⟨σ.nx,v7 σ.rg d [],kQ σ.ob o (.own s c zs)⟩
   |_,_=>wF)
  |_,_=>wF)
 |_,_=>wF
def EZ:N K->N (K×Od)->N (K×Od)
 |o::os,e::r=>(o,e.2)::EZ os r
 |_,_=>[]
def p9:K->N RM->v6
 |0,[]=>I
 |0,.own _ _::r=>p9 0 r
 |0,.var _ _::r=>p9 0 r
 |n+1,.d _::r=>p9 n r
 |_,_=>wL
def BJ(m:K):K:=bif F m 1 then 0 else 1
def zjp(σ:Sg)(d:V Z4)(s:X2)(os:N K)(r:iU s.cod)(k:Sg->V R):V R:=
 match s.bk with
 |0=>(let g:=uX s.cod r (bif bu s.cod then 0 else 1) σ.nx
  k ⟨σ.nx+X g.2,v7 σ.rg d g.1,g.2++vI σ.ob os⟩)
 |b+1=>(let m:=X s.cod-(b+1)
  let g:=uX s.cod r (BJ m) σ.nx
  jb (p9 m s.cod)<|k ⟨σ.nx+X g.2,v7 σ.rg d<|g.1.filter λe=>xcX e.1<|BJ m+m,EZ os g.2++vI σ.ob os⟩)
def zlL(σ:Sg)(d:V Z4)(s:X2)(a:N wW)(cs:N PD)(k:Sg->V R):V R:=
 ZU cf cx σ s.dom a cs λy os=>G (s.M y) λr=>zjp σ d s os r k
def zmu(σ:Sg)(d:V Z4)(p:BA)(a:N wW)(cs:N PD)(kp:PX->Sg->V R)(k:Sg->V R):V R:=
 ZU cf cx σ p.s.dom a cs λy os=>G (p.M y) λz=>xfe (λq=>kp q ⟨σ.nx,σ.rg,vI σ.ob os⟩) (λr=>zjp σ d p.s os r k) z
def zjX(σ:Sg):Op->V (BA×N wW×N PD)
 |.call ⟨.value f,a,_⟩=>(match xo cx σ f with
  |some (.fn f' cs)=>(match ziw cx σ f' a.toList cf.ps with
   |some p=>Z (p,a.toList,cs)
   |none=>wF)
  |_=>wF)
 |_=>wF
def mE(σ:Sg)(d:V Z4)(a:Op)(k:Sg->V R):V R:=eOp cf cx σ a λl=>jb (okL σ.nx l)<|k (σ.put d l)
def zmR(d:V Z4):v6:=match d with
 |some t=>bZ cf.an.bx t
 |none=>wL
def zj3(o n:K)(v:Dv):Dv:=match v with
 |.mw p=>bif F p o then .mw n else v
 |.mv p l m=>bif F p o then .mv n l m else v
 |.hp p j=>bif F p o then .hp n j else v
 |.rw p r=>bif F p o then .rw n r else v
 |.rp p t r j f=>bif F p o then .rp n t r j f else v
 |v=>v
def zje(o n:K):N (K×K×Dv)->N (K×K×Dv)
 |[]=>[]
 |(t,i,v)::r=>(t,i,zj3 o n v)::zje o n r
def EY(o n:K):N (K×K×Dv)->N (K×K×Dv)
 |[]=>[]
 |(t,i,.mw p)::r=>(t,i,bif F p o then .mw n else .mw p)::EY o n r
 |(t,i,v)::r=>(t,i,v)::EY o n r
def N9(o n:K):N (K×K×Dv)->N (K×K×Dv)
 |[]=>[]
 |(t,i,.yd p)::r=>(t,i,bif F p o then .yd n else .yd p)::N9 o n r
 |(t,i,v)::r=>(t,i,v)::N9 o n r
def zpK{α:Type}(a b:N α):N α:=a++b
def zpk{α:Type}(a:N (N α))(r:K)(xs:N α):N (N α):=xfS a r xs
def kO(σ:Sg)(s:Ty)(p v:V Dv)(k:Sg->V R):V R:=match p,v with
 |some (.rp o e r j f),v=>(match xy σ.ob o,Ty.same f.f s with
  |some (.mat d E E1 a ix),Z _=>Ty.cast (.l (.l d)) (.l (.l e)) a λa=>BO v f.f λy=>C (zpk (α:=e.D) a r<|xfS (uF (α:=e.D) a r) j<|f.set y<|xdS (uF (α:=e.D) a r) j e.z) λa=>k ⟨σ.nx,σ.rg,kQ σ.ob o (.mat e E E1 a ix)⟩
  |_,_=>wF)
 |some (.vf o g n0 i),Z (.ow o2)=>jb (!F o o2)<|(match xy σ.ob o,xy σ.ob o2 with
  |some (.vh b E c E1 n j z),Z (.own q t ys)=>jb (F i j && F E1 t && (Ty.same s (.l c)).isSome && (F n0 n && (Ty.same g b).isSome))<|Ty.cast (.l q) (.l c) ys λys=>k ⟨σ.nx+1,EY o σ.nx σ.rg,(σ.nx,.vr b E c E1 n j z ys)::yx (yx σ.ob o) o2⟩
  |_,_=>wF)
 |some (.vf o g n0 i),v=>(match xy σ.ob o with
  |some (.vr b E c E1 n j z ys)=>jb (F n0 n && (Ty.same g b).isSome)<|zhc n b i j λf=>jb (Ty.same f.f s).isSome<|BO v f.f λy=>C (f.set y z) λz=>k ⟨σ.nx,σ.rg,kQ σ.ob o (.vr b E c E1 n j z ys)⟩
  |some (.vh b E c E1 n j z)=>jb (F n0 n && (Ty.same g b).isSome)<|zhc n b i j λf=>jb (Ty.same f.f s).isSome<|BO v f.f λy=>C (f.set y z) λz=>k ⟨σ.nx,σ.rg,kQ σ.ob o (.vh b E c E1 n j z)⟩
  |_=>wF)
 |some (.hp o j),Z (.rw u r)=>jb (F u o)<|(match xy σ.ob o,s with
  |some (.mat d E E1 a ix),.l _=>C (xfS ix j r) λix=>k ⟨σ.nx,σ.rg,kQ σ.ob o (.mat d E E1 a ix)⟩
  |_,_=>wF)
 |some (.hp o j),Z (.ow o2)=>jb (!F o o2)<|(match xy σ.ob o,xy σ.ob o2,s with
  |some (.mat d E E1 a ix),Z (.own c h ys),.l _=>jb (F E1 h)<|Ty.cast (.l c) (.l d) ys λys=>C (zpK (α:=N d.D) a [ys]) λm=>C (xfS ix j<|xaH a) λix=>k ⟨σ.nx+1,zje o σ.nx σ.rg,(σ.nx,.mat d E E1 m ix)::yx (yx σ.ob o) o2⟩
  |_,_,_=>wF)
 |some (.mw o),Z (.dz t2 y n2 i2)=>(match xy σ.ob o with
  |some (.vr b E c E1 n j z xs)=>jb (F n2 n && (F i2 j && (Ty.same s b).isSome))<|Ty.cast t2 b y λy=>k ⟨σ.nx+1,EY o σ.nx σ.rg,(σ.nx,.vr b E c E1 n j y [])::yx σ.ob o⟩
  |_=>wF)
 |some (.mw o),Z (.ow o2)=>jb (!F o o2)<|(match xy σ.ob o,xy σ.ob o2,s with
  |some (.ho w),Z (.own c h ys),.l _=>k ⟨σ.nx+1,EY o σ.nx σ.rg,(σ.nx,.bo c h w ys)::yx (yx σ.ob o) o2⟩
  |_,_,_=>wF)
 |_,_=>wF
def Tb(σ:Sg)(d:V Z4)(t:wT)(x y:wW)(k:Sg->V R):V R:=match Zx cf t with
 |some ⟨.l (.l s),.sl E,_⟩=>jb (zcn x y) (match Zx cf E,pd cx σ x with
  |some ⟨.l _,.sl E1,B⟩,Z ⟨.i,n⟩=>kv n λn=>ck (B*n<=281474976710656)<|C (Nm n 0) λix=>k<|Sl σ d .mw (.mat s E E1 [[]] ix)
  |_,_=>wF)
 |_=>wF
def zil(σ:Sg)(d:V Z4)(t:wT)(n:K)(ps:N (K×wW))(k:Sg->V R):V R:=match Zx cf t,ps with
 |some ⟨.l (.l s),.sl E,_⟩,[(0,x)]=>jb (F n 1) (match xo cx σ x with
  |some (.ow o2)=>(match xy σ.ob o2 with
   |some (.own a E1 ys)=>Ty.cast (.l a) (.l s) ys λys=>k ⟨σ.nx+1,v7 σ.rg d [(0,.mw σ.nx)],(σ.nx,.mat s E E1 [ys] [0])::yx σ.ob o2⟩
   |_=>wF)
  |_=>wF)
 |_,_=>wF
def Fx(d:V Z4):V (K×K):=match d with
 |some t=>Uc cf.an.vr t
 |none=>wF
def NX(σ:Sg)(d:V Z4)(a:wT)(k:Sg->V R):V R:=match Zx cf a with
 |some ⟨.l s,.sl E,_⟩=>k<|Sl σ d .mw (.bo s E a [])
 |some ⟨ty,.st n,_⟩=>(match Fx cf d with
  |some (i,E1)=>(match xe n ty i with
   |some ⟨_,.l s,_,_⟩=>k<|Sl σ d .mw (.vr ty a s E1 n i ty.z [])
   |_=>wF)
  |none=>wF)
 |_=>wF
def zfz(σ:Sg)(d:V Z4)(a:wT)(x:wW)(k:Sg->V R):V R:=match Zx cf a,Fx cf d,xo cx σ x with
 |some ⟨ty,.st n,_⟩,Z (i,E1),Z (.dz t2 y n2 i2)=>(match xe n ty i with
  |some ⟨_,.l s,_,_⟩=>jb (F n2 n && (F i2 i && (Ty.same ty t2).isSome))<|Ty.cast t2 ty y λy=>k<|Sl σ d .mw (.vr ty a s E1 n i y [])
  |_=>wF)
 |_,_,_=>wF
def NI(σ:Sg)(d:V Z4)(t:wT)(ps:N (K×wW))(k:Sg->V R):V R:=match Zx cf t,Fx cf d with
 |some ⟨ty,.st n,_⟩,Z (i,_)=>jb (ps.all λp=> !F p.1 i) (match xe n ty i with
  |some ⟨_,.l _,_,_⟩=>zhU cx σ n ty ps ty.z λy=>k<|σ.put d [(0,.dz ty y n i)]
  |_=>wF)
 |_,_=>wF
def zaN(σ:Sg)(d:V Z4)(t:wT)(o:K)(k:Sg->V R):V R:=match Zx cf t,xy σ.ob o with
 |some ⟨.l b,.sl _,_⟩,Z (.vr c E a E1 n j z xs)=>jb (Ty.same b a).isSome<|k ⟨σ.nx+1,v7 σ.rg d [(0,.ow σ.nx)],(σ.nx,.own a E1 xs)::kQ σ.ob o (.vh c E a E1 n j z)⟩
 |_,_=>wF
def Py(σ:Sg):V Dv->V K
 |some (.vf o a n0 i)=>(match xy σ.ob o with
  |some (.vr s _ _ _ n j _ _)=>bif F i j && (F n0 n && (Ty.same a s).isSome)then Z o else wF
  |_=>wF)
 |_=>wF
def zaT(σ:Sg)(d:V Z4)(t:wT)(o:K)(k:Sg->V R):V R:=match Zx cf t,xy σ.ob o with
 |some ⟨.l _,.sl _,_⟩,Z (.bo s E a xs)=>k ⟨σ.nx+1,v7 σ.rg d [(0,.ow σ.nx)],(σ.nx,.own s E xs)::kQ σ.ob o (.ho a)⟩
 |_,_=>wF
def zix(σ:Sg)(d:V Z4)(c:N wW)(ts:N wT)(k:Sg->V R):V R:=match c,ts with
 |[x,y],[t,i]=>(match Zx cf t,xo cx σ x,xo cx σ y with
  |some ⟨.l (.l s),.sl E,_⟩,Z (.mw o),Z (.mw p)=>jb (F t i && !F o p) (match Zx cf E,xy σ.ob o,xy σ.ob p with
   |some ⟨.l _,.sl _,B⟩,Z (.mat e E1 g b ix),Z (.mat j m n a h)=>jb (F E1 E && (F m E && F g n))<|Ty.cast (.l (.l j)) (.l (.l e)) a λa=>
    ck ((xaH ix+xaH h)*B<=140737488355328)<|C (zpK (α:=N e.D) b a) λf=>C (ix++h.map (xaH b+ ·)) λq=>k ⟨σ.nx+1,v7 σ.rg d [(0,.mw σ.nx)],(σ.nx,.mat e E1 g f q)::yx (yx σ.ob o) p⟩
   |_,_,_=>wF)
  |_,_,_=>wF)
 |_,_=>wF
def CT(σ:Sg)(d:V Z4)(s:Er)(c:N wW)(k:Sg->V R):V R:=match c with
 |[x,a,p,y]=>(match xo cx σ x,pd cx σ a,pd cx σ p,xo cx σ y with
  |some (.rw o r),Z ⟨.i,a⟩,Z ⟨.i,p⟩,Z (.mv e lo n)=>jb (F o e) (match xy σ.ob o with
   |some (.mat f E E1 b ix)=>jb (F E s.E && F E1 s.E1)<|Ty.cast (.l (.l f)) (.l (.l s.t)) b λb=>
    G (s.M b ix r a p lo n) λb=>k ⟨σ.nx+1,EY o σ.nx<|v7 σ.rg d [],(σ.nx,.mat s.t E E1 b ix)::yx σ.ob o⟩
   |_=>wF)
  |_,_,_,_=>wF)
 |_=>wF
def za3(σ:Sg)(d:V Z4)(s:GK)(a:N wW)(k:Sg->V R):V R:=match a with
 |x::xs=>(match xo cx σ x with
  |some (.mw o)=>(match xy σ.ob o with
   |some (.vr c e f b g h z ys)=>jb (F e s.E && (F b s.E1 && (F g s.n && F h s.i)))<|Ty.cast c s.t z λz=>Ty.cast (.l f) (.l s.s) ys λys=>
    Dh cx σ s.dom xs λy=>G (s.M z ys y) λq=>k ⟨σ.nx+1,EY o σ.nx<|v7 σ.rg d [],(σ.nx,.vr s.t s.E s.s s.E1 s.n s.i q.1 q.2)::yx σ.ob o⟩
   |_=>wF)
  |_=>wF)
 |[]=>wF
def L3(σ:Sg)(d:V Z4)(o:K)(a:N wW)(k:Sg->V R):V R:=match a with
 |[x]=>(match xo cx σ x with
  |some (.ow p)=>jb (!F o p) (match xy σ.ob o,xy σ.ob p with
   |some (.hid t E X Y e c g z),Z (.own s b ys)=>jb (F b E)<|Ty.cast (.l s) (.l t) ys λys=>
    G (g ys z) λr=>xfe (λf=>k ⟨σ.nx+1,N9 o σ.nx<|v7 σ.rg d [(0,.kb I)],(σ.nx,.hid t E X Y e c g f)::yx (kQ σ.ob p (.own t b r.1)) o⟩)
     (λy'=>k ⟨σ.nx+1,N9 o σ.nx<|v7 σ.rg d [(0,.kb wL)],(σ.nx,.hiy Y c y')::yx (kQ σ.ob p (.own t b r.1)) o⟩) r.2
   |_,_=>wF)
  |_=>wF)
 |_=>wF
inductive CoM
 |no
 |st (t:wT) (x y:wW)
 |ma (t:wT) (x y:wW)
 |lit (t:wT) (n:K) (ps:ul (K×wW))
 |al (E:wT)
 |tk (t:wT) (o:K)
 |tv (t:wT) (o:K)
 |bz (t:wT) (ps:ul (K×wW))
 |bx (E:wT) (x:wW)
 |ap (ags:ul wW) (ts:ul wT)
 |sk (s:Er) (ags:ul wW)
 |vc (s:GK) (ags:ul wW)
 |yl (o:K) (ags:ul wW)
def coM(σ:Sg)(d:V Z4):Op->CoM
 |.store t x y=>bif OX (xo cx σ x)then .st t x y else .no
 |.makeSlice t x y=>bif Th cf d then .ma t x y else .no
 |.buildSlice t n ps=>bif Th cf d then .lit t n ps else .no
 |.alloc E=>bif Th cf d||(Fx cf d).isSome then .al E else .no
 |.build t ps=>bif (Fx cf d).isSome then .bz t ps else .no
 |.box E x=>bif (Fx cf d).isSome then .bx E x else .no
 |.load t x=>(match xo cx σ x with
  |some (.mw o)=> .tk t o
  |v=>(match zjY cf d,Py σ v with
   |false,Z o=> .tv t o
   |_,_=> .no))
 |.call ⟨.builtin .append,a,ts⟩=>bif a.toList.any (λx=>zfj<|xo cx σ x)then .ap a ts else .no
 |.call ⟨.value f,a,_⟩=>(match xo cx σ f with
  |some (.yd o)=> .yl o a
  |some (.fn f [])=>(match zg5 cf.ms f with
   |some s=> .sk s a
   |none=>(match zgt cf.vg f with
    |some s=> .vc s a
    |none=> .no))
  |_=> .no)
 |_=> .no
def mCo(σ:Sg)(d:V Z4)(c:CoM)(k:Sg->V R)(b:V R):V R:=match c with
 |.no=>b
 |.st t x y=>jb d.isNone (match Zx cf t with
  |some e=>kO σ e.ty (xo cx σ x) (xo cx σ y) k
  |none=>wF)
 |.ma t x y=>Tb cf cx σ d t x y k
 |.lit t n ps=>zil cf cx σ d t n ps.toList k
 |.al E=>NX cf σ d E k
 |.tk t o=>zaT cf σ d t o k
 |.tv t o=>zaN cf σ d t o k
 |.bz t ps=>NI cf cx σ d t ps.toList k
 |.bx E x=>zfz cf cx σ d E x k
 |.ap a ts=>zix cf cx σ d a.toList ts.toList k
 |.sk s a=>CT cx σ d s a.toList k
 |.vc s a=>za3 cx σ d s a.toList k
 |.yl o a=>L3 cx σ d o a.toList k
def zde(f:Z3):N X2->V X2
 |[]=>wF
 |s::r=>match s.f,s.dom,s.cod,s.bk with
  |f',[.var _ _],[.var _ _],1=>bif F f' f then Z s else zde f r
  |_,_,_,_=>zde f r
def mBm(σ:Sg)(d:V Z4)(s:X2)(o:K)(k:Sg->V R):V R:=match s,xy σ.ob o with
 |⟨_,[.var t E],[.var t2 a],M,_⟩,Z (.var b c y)=>jb (F E c && (F a E && (Ty.same t t2).isSome))<|Ty.cast b t y λy=>G (M (y,())) λz=>k ⟨σ.nx,v7 σ.rg d [],kQ σ.ob o (.var t2 a z)⟩
 |_,_=>wF
def zmc(σ:Sg)(d:V Z4)(op:Op)(k:Sg->V R):V R:=
 match op with
 |.alloc E=>zaO cf σ d E k
 |.box E x=>GI (zmR cf d) (zny cf cx σ d E x k)<|mE cf cx σ d (.box E x) k
 |.store t x y=>jb d.isNone (match Zx cf t with
  |some b=>zbq σ b.ty (xo cx σ x) (xo cx σ y) k
  |none=>wF)
 |.makeSlice t x y=>zfM cf cx σ d t x y k
 |.buildSlice t n ps=>zm2 cf cx σ d t n ps.toList k
 |.slice t x wF (Z hi) wF=>(match xo cx σ x with
  |some (.ow o)=>zbj cf cx σ d t o hi k
  |_=>mE cf cx σ d (.slice t x wF (Z hi) wF) k)
 |.call ⟨.builtin .append,a,ts⟩=>znt cf cx σ d a.toList ts.toList k
 |.call ⟨.builtin .copy,a,ts⟩=>zfG cf cx σ d a.toList ts.toList k
 |.call ⟨.value f,a,ts⟩=>(match xo cx σ f with
  |some (.fn f' cs)=>(match zae cx σ f' a.toList cf.cs with
   |some s=>zlL cf cx σ d s a.toList cs k
   |none=>mE cf cx σ d (.call ⟨.value f,a,ts⟩) k)
  |some (.bm f' o t)=>(match a.toList,zde f' cf.cs with
   |[],Z s=>mBm σ d s o k
   |_,_=>wF)
  |_=>mE cf cx σ d (.call ⟨.value f,a,ts⟩) k)
 |op=>mE cf cx σ d op k
def mOp(σ:Sg)(d:V Z4)(a:Op)(k:Sg->V R):V R:=mCo cf cx σ d (coM cf cx σ d a) k<|zmc cf cx σ d a k
def zp9(σ:Sg):Op->V wW
 |.panic x=>Z x
 |_=>wF
def zkv(σ:Sg)(d:V Z4)(a:Op)(kp:PX->Sg->V R)(k:Sg->V R):V R:=match zjX cf cx σ a with
 |some (p,b,cs)=>zmu cf cx σ d p b cs kp k
 |none=>(match zp9 σ a with
  |some x=>(match xo cx σ x with
   |some (.ifc q)=>kp q σ
   |_=>wF)
  |none=>mOp cf cx σ d a k)
def Nk(σ:Sg)(t:Z4)(b:v6):Sg:=⟨σ.nx,v7 σ.rg (Z t) [(0,.kb b)],σ.ob⟩
def nF(c:N ut)(o:ut)(σ:Sg)(k:Sg->v6->V R):V R:=match o.guard with
 |none=>k σ I
 |some (j,a)=>match c[j]? with
  |some e=>(match e.dst with
   |some t=>(match get cx σ t 0 with
    |some (.kb b)=>k σ<|b==a
    |some .un=>k σ wL
    |some (.d .b x)=>jb (Y5 cx.rg t)<|ifB x (k (Nk σ t I)<|true==a) (k (Nk σ t wL)<|false==a)
    |_=>wF)
   |none=>wF)
  |none=>wF
def DU(o:ut)(σ:Sg)(k:Sg->V R):V R:=match o.op with
 |.pick (.tmp t) _ _=>(match get cx σ t 0 with
  |some (.d .b x)=>jb (Y5 cx.rg t)<|ifB x (k<|Nk σ t I) (k<|Nk σ t wL)
  |_=>k σ)
 |_=>k σ
def zdI(a:N ut)(kp:PX->Sg->V R):N ut->Sg->(Sg->V R)->V R
 |[],σ,k=>k σ
 |o::r,σ,k=>jb (xU cx o.dst)<|nF cx a o σ λσ w=>GI w
  (DU cx o σ λσ=>(let σ:=zjh cx σ<|znz cf cx σ o.dst o.op;zkv cf cx σ o.dst o.op kp λσ=>zdI a kp r σ k))
  (zdI a kp r (σ.put o.dst [(0,.un)]) k)
def zeQ(a:N ut):N ut->Sg->(Sg->V R)->V R
 |[],σ,k=>k σ
 |o::r,σ,k=>jb (xU cx o.dst)<|nF cx a o σ λσ w=>GI w
  (DU cx o σ λσ=>eOp cf cx σ o.op λl=>jb (okL σ.nx l)<|zeQ a r (σ.put o.dst l) k)
  (zeQ a r (σ.put o.dst [(0,.un)]) k)
def dd:N (K×K×Dv)->N (K×K×Dv)
 |[]=>[]
 |e::r=>e::(dd r).filter λf=> !(F e.1 f.1 && F e.2.1 f.2.1)
structure Rb where
 a:V K
 c:V K
 rd:N K
 o:K
 x:Od
structure Oi where
 lo:K
 hi:K
 refs:N K
def cy(ts:N Z4):N (K×K×Dv)->N K
 |[]=>[]
 |(t,_,v)::r=>(match bZ ts t,vn v with
  |true,Z o=>o::cy ts r
  |_,_=>cy ts r)
def sj:N (K×Dv)->N K
 |[]=>[]
 |(_,v)::r=>(match vn v with
  |some o=>o::sj r
  |none=>sj r)
def aK(ts:N Z4):N (K×K×Dv)->N (K×K×Dv)
 |[]=>[]
 |(t,i,v)::r=>(match bZ ts t with
  |true=>(t,i,v)::aK ts r
  |false=>aK ts r)
def AQ(d:V Z4)(rg:N (K×K×Dv)):N (K×Dv):=match d with
 |some t=>rg.filterMap λe=>match F e.1 t with
  |true=>Z (e.2.1,e.2.2)
  |false=>wF
 |none=>[]
def dI(os:N K):N Rb->N (K×Od)
 |[]=>[]
 |r::rs=>match r.c,bZ os r.o with
  |none,I=>(r.o,r.x)::dI os rs
  |_,_=>dI os rs
def zaX(i:K)(os:N K):N Rb->N Rb
 |[]=>[]
 |r::rs=>(match r.c,bZ os r.o with
  |none,I=>⟨r.a,Z i,r.rd,r.o,r.x⟩
  |_,_=>r)::zaX i os rs
def zfQ(i:K)(os:N K):N Rb->N Rb
 |[]=>[]
 |r::rs=>(match r.c,bZ os r.o with
  |none,I=>⟨r.a,wF,i::r.rd,r.o,r.x⟩
  |_,_=>r)::zfQ i os rs
def zdU(i:K)(ob:N (K×Od)):N Rb:=ob.map λe=>⟨Z i,wF,[],e.1,e.2⟩
def zpj(ob:N (K×Od)):N Rb:=ob.map λe=>⟨wF,wF,[],e.1,e.2⟩
def Rz:N Rb->N (K×Od)
 |[]=>[]
 |r::rs=>match r.c with
  |none=>(r.o,r.x)::Rz rs
  |some _=>Rz rs
def okO(n:K)(ob:N (K×Od)):v6:=ob.all λe=>xcX e.1 n
def Eh(σ:Sg):N K->Sg
 |[]=>σ
 |o::r=>Eh (Pb σ o) r
def zgq:N RM->v6
 |[]=>I
 |.own _ _::_=>wL
 |.var _ _::_=>wL
 |_::r=>zgq r
def zlj(σ:Sg)(b:v6)(d:V Z4):Op->v6
 |.alloc _=>I
 |.store _ _ _=>I
 |.makeSlice _ _ _=>I
 |.buildSlice _ _ _=> !b
 |.box _ _=>zmR cf d||(Fx cf d).isSome
 |.build _ _=>(Fx cf d).isSome
 |.load _ x=>zfj (xo cx σ x)||(!zjY cf d && (Py σ<|xo cx σ x).isSome)
 |.slice _ x wF (Z _) wF=>(match xo cx σ x with
  |some (.ow _)=>I
  |_=>wL)
 |.call ⟨.builtin .append,_,_⟩=>I
 |.call ⟨.builtin .copy,_,_⟩=>I
 |.call ⟨.value f,a,_⟩=>(match xo cx σ f with
  |some (.fn f' _)=>(match zae cx σ f' a.toList cf.cs with
   |some s=> !(Ee s.dom)||(!b && !(zgq s.cod))
   |none=>(zg5 cf.ms f').isSome||(zgt cf.vg f').isSome)
  |some (.yd _)=>I
  |some (.bm _ _ _)=>I
  |_=>wL)
 |_=>wL
def fzB(a:N K):V Z4->v6
 |some t=>bZ a t
 |none=>wL
def zqr(b:v6)(d:V Z4)(τ:Sg):Sg:=match b with
 |true=>Eh τ<|sj<|AQ d τ.rg
 |false=>τ
def zlI(τ:Sg)(d:V Z4)(k:N (K×Dv)->K->N (K×Od)->V R):V R:=jb (okL τ.nx (AQ d τ.rg) && okO τ.nx τ.ob)<|k (AQ d τ.rg) τ.nx τ.ob
def zly(os:N K):Op->N K
 |.move _=>[]
 |.assign _=>[]
 |_=>os
def zli(a:N ut)(b:V (K×PX))(i:K):v6:=match b with
 |some (c,_)=>vS a 16 i c
 |none=>wL
def P9(a:N ut)(b:N K):V (K×PX)->N ut->K->Sg->N Rb->N Oi->(V (K×PX)->Sg->N Rb->N Oi->V R)->V R
 |pn,[],_,σ,rs,is,k=>k pn σ rs is
 |pn,o::r,i,σ,rs,is,k=>jb (xU cx o.dst)<|GI (zli a pn i) (P9 a b pn r (i+1) (σ.put o.dst []) rs (is++[⟨σ.nx,σ.nx,[]⟩]) k)<|nF cx a o σ λσ w=>GI w
  (DU cx o σ λσ=>GI (zlj cf cx ⟨σ.nx,σ.rg,dI (cy (xbm a.toArray o) σ.rg) rs⟩ (fzB b o.dst) o.dst o.op||(zjX cf cx σ o.op).isSome)
   (zkv cf ⟨0,[],cx.ob⟩ ⟨σ.nx,dd<|aK (xbm a.toArray o)<|σ.rg++cx.rg,dI (cy (xbm a.toArray o) σ.rg) rs⟩ o.dst o.op (λq _=>match pn with
    |some _=>wF
    |none=>P9 a b (Z (i,q)) r (i+1) (σ.put o.dst []) (zaX i (cy (xbm a.toArray o) σ.rg) rs) (is++[⟨σ.nx,σ.nx,[]⟩]) k) λτ=>
    zlI (zqr (fzB b o.dst) o.dst τ) o.dst λl n ob=>P9 a b pn r (i+1) ⟨n,v7 σ.rg o.dst l,[]⟩ (zaX i (cy (xbm a.toArray o) σ.rg) rs++zdU i ob) (is++[⟨σ.nx,n,sj l⟩]) k)
   (eOp cf cx ⟨σ.nx,σ.rg,dI (zly (cy (xbm a.toArray o) σ.rg) o.op) rs⟩ o.op λl=>jb (okL σ.nx l)<|P9 a b pn r (i+1) (σ.put o.dst l) (zfQ i (zly (cy (xbm a.toArray o) σ.rg) o.op) rs) (is++[⟨σ.nx,σ.nx,sj l⟩]) k))
  (P9 a b pn r (i+1) (σ.put o.dst [(0,.un)]) rs (is++[⟨σ.nx,σ.nx,[]⟩]) k)
def inB(a:Oi)(o:K):v6:=xfQ a.lo o && xcX o a.hi
def zi5(l:N ut)(i:K)(c:Oi)(rs:N Rb)(b:N (Oi×K)):v6:=
 (rs.all λr=> !inB c r.o||(match r.a with
  |some j=>F j i||vS l 16 j i
  |none=>wL)) && b.all λJ=>J.1.refs.all λp=> !inB c p||F J.2 i||vS l 16 J.2 i
def zi9(l:N ut)(m:K)(rs:N Rb)(is:N Oi):v6:=
 (rs.all λr=>(match r.a with
  |some j=>xcX j m && r.rd.all λi=>vS l 16 i j
  |none=>I) && (match r.c with
  |some k=>xcX k m && (match r.a with
   |some j=>vS l 16 k j
   |none=>I) && r.rd.all λi=>vS l 16 k i
  |none=>I)) &&
 (is.zipIdx.all λJ=>zi5 l J.2 J.1 rs is.zipIdx) &&
 (xaY m).all λi=>(xaY m).all λj=>F i j||(match(zW l i).dst with
  |some t=> !((zW l j).dst==Z t)
  |none=>I)
def S8(l:N ut):K->K->K
 |0,m=>m
 |f+1,m=>bif xcX 1 m && W0 l (m-1)then S8 l f (m-1)else m
def zmP(al:N (K×wW)):wW->wW
 |.tmp t=>(match Uc al t with
  |some x=>x
  |none=> .tmp t)
 |x=>x
def zoN(al:N (K×wW))(o:ut):N (K×wW):=match o.op,o.dst with
 |.move x,Z d=>(d,zmP al x)::al
 |.assign x,Z d=>(d,zmP al x)::al
 |_,_=>al
def zku:N ut->N (K×wW)->Sg->Sg
 |[],_,σ=>σ
 |o::r,al,σ=>zku r (zoN al o)<|zjh cx σ<|(znz cf cx σ o.dst o.op).map<|zmP al
def zlW(id:K):N K:=match Uc cf.an.dz id with
 |some l=>l
 |none=>[]
def zjz(l:N ut):N K:=l.filterMap (·.dst)
def IG:N Rb->N (K×Od)
 |[]=>[]
 |r::rs=>(match r.a,r.c with
  |none,wF=>(r.o,r.x)::IG rs
  |_,_=>IG rs)
def zn1(id:K)(l:N ut)(m:K)(σ:Sg)(kp:PX->Sg->V R)(k:Sg->V R):V R:=
 let a:=zlW cf id
 let σ0:=Eh σ<|cy a σ.rg
 P9 cf cx l a wF (l.take m) 0 ⟨σ0.nx,σ0.rg,[]⟩ (zpj σ0.ob) [] λb σ rs is=>jb (zi9 l m rs is)<|match b with
  |none=>zdI cf cx l kp (l.drop m) ⟨σ.nx,dd σ.rg,Rz rs⟩ k
  |some (_,q)=>kp q ⟨σ.nx,σ0.rg.filter<|λe=> !bZ (zjz<|l.take m) e.1,IG rs⟩
def zoO(id:K):v6:=match Uc cf.an.dz id with
 |some _=>I
 |none=>wL
def znu(id:K)(l:N ut)(a:v6)(σ:Sg)(kp:PX->Sg->V R)(k:Sg->V R):V R:=
 GI a
  (let m:=S8 l (X l) (X l)
  jb (W0 l m)<|GI (zoO cf id) (zn1 cf cx id l m σ kp k) (zeQ cf cx l (l.take m) (zku cf cx (l.take m) [] σ) λσ=>zdI cf cx l kp (l.drop m) ⟨σ.nx,dd σ.rg,σ.ob⟩ k))
  (zdI cf cx l kp l σ k)
def Jn:N (K×TF)->Type
 |[]=>Z2
 |[a]=>a.2.D
 |a::b::r=>a.2.D×Jn (b::r)
def dZ(σ:Sg)(ds:N (K×TF))(t:K)(f:TF)(k:f.D->N K->V R):V R:=match f,k with
 |.d s,k=>BO (get cx σ t 0) s λy=>k y []
 |.q s,k=>(match get cx σ t 0 with
  |some (.q a x)=>Ty.cast a s x λy=>k y []
  |_=>wF)
 |.own s E,k=>(match get cx σ t 0 with
  |some (.ow o)=>(match xy σ.ob o with
   |some (.own a b xs)=>jb (F E b)<|Ty.cast (.l a) (.l s) xs λy=>k y [o]
   |_=>wF)
  |some .nil=>k ([]:N s.D) []
  |_=>wF)
 |.var s E,k=>(match get cx σ t 0 with
  |some (.vs o _)=>(match xy σ.ob o with
   |some (.var a b z)=>jb (F E b)<|Ty.cast a s z λy=>k y [o]
   |_=>wF)
  |_=>wF)
 |.mat s E E1,k=>(match get cx σ t 0 with
  |some (.mw o)=>(match xy σ.ob o with
   |some (.mat a b c e ix)=>jb (F E b && F E1 c)<|Ty.cast (.l (.l a)) (.l (.l s)) e λy=>k (y,ix) [o]
   |_=>wF)
  |some .nil=>k (([],[]):N (N s.D)×N K) []
  |_=>wF)
 |.matv s E E1,k=>(match get cx σ t 0 with
  |some (.mv o lo n)=>(match xy σ.ob o with
   |some (.mat a b c e ix)=>jb (F E b && F E1 c)<|Ty.cast (.l (.l a)) (.l (.l s)) e λy=>k ((y,ix),(lo,n)) [o]
   |_=>wF)
  |_=>wF)
 |.row j,k=>(match get cx σ t 0,ds[j]? with
  |some (.rw o r),Z (s,.mat _ _ _)=>(match get cx σ s 0 with
   |some (.mw g)=>jb (F o g)<|k r []
   |_=>wF)
  |some (.rw o r),Z (s,.matv _ _ _)=>(match get cx σ s 0 with
   |some (.mv g _ _)=>jb (F o g)<|k r []
   |_=>wF)
  |_,_=>wF)
 |.view j,k=>(match get cx σ t 0,ds[j]? with
  |some (.mv o lo n),Z (s,.mat _ _ _)=>(match get cx σ s 0 with
   |some (.mw g)=>jb (F o g)<|k (lo,n) []
   |_=>wF)
  |some (.mv o lo n),Z (s,.matv _ _ _)=>(match get cx σ s 0 with
   |some (.mv g _ _)=>jb (F o g)<|k (lo,n) []
   |_=>wF)
  |_,_=>wF)
 |.vr s E m E1 n i,k=>(match get cx σ t 0 with
  |some (.mw o)=>(match xy σ.ob o with
   |some (.vr a b h c p u z xs)=>jb (F E b && (F E1 c && (F n p && F i u)))<|Ty.cast a s z λz=>Ty.cast (.l h) (.l m) xs λxs=>k (z,xs) [o]
   |_=>wF)
  |_=>wF)
 |.bo s E v,k=>(match get cx σ t 0 with
  |some (.mw o)=>(match xy σ.ob o with
   |some (.bo a b c xs)=>jb (F E b && F v c)<|Ty.cast (.l a) (.l s) xs λy=>k y [o]
   |_=>wF)
  |_=>wF)
def C5(os:N K):N K->v6
 |[]=>I
 |o::r=> !bZ os o && C5 os r
def gat(σ:Sg)(ds:N (K×TF)):(l:N (K×TF))->(Jn l->N K->V R)->V R
 |[],k=>k () []
 |[a],k=>dZ cx σ ds a.1 a.2 k
 |a::b::r,k=>dZ cx σ ds a.1 a.2 λx o=>gat σ ds (b::r) λy os=>jb (C5 os o)<|k (x,y) (o++os)
def zi2(σ:Sg):N (K×NF)->v6
 |[]=>I
 |(t,f)::r=>(match f,get cx σ t 0 with
  |.kb b,Z (.kb c)=>b==c
  |.nil,Z .nil=>I
  |.ci x,Z (.d .i y)=>eqI x y
  |.cu x,Z (.d .u y)=>eqU x y
  |.al s,Z (.ow o)=>(match get cx σ s 0 with
   |some (.ow a)=>F o a
   |_=>wL)
  |.al s,Z (.vs o _)=>(match get cx σ s 0 with
   |some (.vs a _)=>F o a
   |_=>wL)
  |.al s,Z (.mw o)=>(match get cx σ s 0 with
   |some (.mw a)=>F o a
   |_=>wL)
  |.bm s f,Z (.bm f' o _)=>(match get cx σ s 0 with
   |some (.vs a _)=>F o a && F f f'
   |_=>wL)
  |_,_=>wL) && zi2 σ r
def GH(n0 o:K)(f:TF)(x:f.D):Dv×V Od:=match f,x with
 |.d t,x=>(.d t x,wF)
 |.q t,x=>(.q t x,wF)
 |.own t E,x=>(.ow o,Z (.own t E x))
 |.var t E,x=>(.vs o t,Z (.var t E x))
 |.mat t E E1,x=>(.mw o,Z (.mat t E E1 x.1 x.2))
 |.matv t E E1,x=>(.mv o x.2.1 x.2.2,Z (.mat t E E1 x.1.1 x.1.2))
 |.row j,r=>(.rw (n0+j) r,wF)
 |.view j,r=>(.mv (n0+j) r.1 r.2,wF)
 |.bo t E a,x=>(.mw o,Z (.bo t E a x))
 |.vr t E s E1 n i,x=>(.mw o,Z (.vr t E s E1 n i x.1 x.2))
def lV(n0:K):(l:N (K×TF))->Jn l->K->N (K×K×Dv)×N (K×Od)
 |[],_,_=>([],[])
 |[a],x,o=>let v:=GH n0 o a.2 x
  ([(a.1,0,v.1)],match v.2 with
   |some y=>[(o,y)]
   |none=>[])
 |a::b::r,x,o=>let v:=GH n0 o a.2 x.1
  let y:=lV n0 (b::r) x.2<|o+1
  ((a.1,0,v.1)::y.1,match v.2 with
   |some q=>(o,q)::y.2
   |none=>y.2)
def Mw(rg:N (K×K×Dv)):N (K×NF)->N (K×K×Dv)
 |[]=>rg
 |(t,f)::r=>(match f with
  |.kb b=>[(t,0,.kb b)]
  |.nil=>[(t,0,.nil)]
  |.ci x=>[(t,0,.d .i x)]
  |.cu x=>[(t,0,.d .u x)]
  |.al s=>(match lN rg s 0 with
   |some v=>[(t,0,v)]
   |none=>[])
  |.bm s f=>(match lN rg s 0 with
   |some (.vs o q)=>[(t,0,.bm f o q)]
   |_=>[]))++Mw rg r
def Kh(sh:Sh)(x:Jn sh.ds)(kp:Sg):Sg:=
 let y:=lV kp.nx sh.ds x kp.nx
 ⟨kp.nx+X sh.ds,Mw y.1 sh.ns++y.1++kp.rg,y.2++kp.ob⟩
def zhP(σ:Sg):N (K×TF)->Sg
 |[]=>σ
 |(t,.d _)::r=>zhP (frz cx σ (.tmp t)) r
 |_::r=>zhP σ r
def aG(sh:Sh)(σ:Sg)(k:Jn sh.ds->V R):V R:=let σ:=zhP cx σ sh.ds
 jb (zi2 cx σ sh.ns)<|gat cx σ sh.ds sh.ds λx _=>k x
def zav(a:Tg×Sh):Type:=match a.1 with
 |.p _=>PX×Jn a.2.ds
 |_=>Jn a.2.ds
def SmD:N (Tg×Sh)->Type
 |[]=>Empty
 |[a]=>zav a
 |a::b::r=>zav a⊕SmD (b::r)
def Tn:Tg->Tg->v6
 |.n,.n=>I
 |.x i,.x j=>F i j
 |.r,.r=>I
 |.p _,.p _=>I
 |_,_=>wL
def zl2(σ:Sg)(t:Tg):(a:Tg×Sh)->(zav a->V R)->V R
 |(.p _,sh),k=>(match t with
  |.p q=>aG cx sh σ λx=>k (q,x)
  |_=>wF)
 |(.n,sh),k=>aG cx sh σ k
 |(.x _,sh),k=>aG cx sh σ k
 |(.r,sh),k=>aG cx sh σ k
def zhb(kp:Sg)(K:Tg->Sg->V R):(a:Tg×Sh)->zav a->V R
 |(.p _,sh)=>λx=>K (.p x.1)<|Kh sh x.2 kp
 |(.n,sh)=>λx=>K .n<|Kh sh x kp
 |(.x i,sh)=>λx=>K (.x i)<|Kh sh x kp
 |(.r,sh)=>λx=>K .r<|Kh sh x kp
def zgE(σ:Sg)(t:Tg):(l:N (Tg×Sh))->(SmD l->V R)->V R
 |[],_=>wF
 |[a],k=>jb (Tn a.1 t)<|zl2 cx σ t a k
 |a::b::r,k=>GI (Tn a.1 t) (zl2 cx σ t a λx=>k (.inl x))<|zgE σ t (b::r) λy=>k (.inr y)
def Rp(kp:Sg)(K:Tg->Sg->V R):(l:N (Tg×Sh))->SmD l->V R
 |[]=>λ_=>wF
 |[a]=>λx=>zhb kp K a x
 |a::b::r=>λx=>xfe (α:=zav a) (β:=SmD (b::r)) (λx=>zhb kp K a x) (Rp kp K (b::r)) x
def FH:Wn->N K
 |.region _ d _=>d.toList.filterMap (·.dst)
 |.seq a b=>FH a++FH b
 |.cond _ a b=>FH a++FH b
 |.block _ c=>FH c
 |.loop c=>FH c
 |.scope c=>FH c
 |.rangeFunc _ ps a c=>ps.toList++(FH a++FH c)
 |_=>[]
def rid:Wn->V K
 |.region i _ _=>Z i
 |.seq a b=>(match rid a with
  |some i=>Z i
  |none=>rid b)
 |.cond _ a b=>(match rid a with
  |some i=>Z i
  |none=>rid b)
 |.block _ c=>rid c
 |.loop c=>rid c
 |.scope c=>rid c
 |.rangeFunc _ _ a c=>(match rid a with
  |some i=>Z i
  |none=>rid c)
 |_=>wF
def zlg:V K->K
 |some i=>i+1
 |none=>0
def zjo:Wn->v6
 |.loop _=>I
 |.seq a _=>zjo a
 |.block _ c=>zjo c
 |.scope c=>zjo c
 |_=>wL
def lid(c:Wn):V K:=match rid c with
 |some i=>Z<|bif zjo c then i+40000 else i
 |none=>wF
def zrB(a b:Wn):K:=zlg (rid a)*65536+zlg (rid b)
def IH(σ:Sg):N K->N K
 |[]=>[]
 |t::r=>match lN σ.rg t 0 with
  |some v=>(match vn v with
   |some o=>o::IH σ r
   |none=>IH σ r)
  |none=>IH σ r
def zf5(a b:N K)(e:K×K×Dv):v6:= !bZ a e.1 && (match vn e.2.2 with
 |some o=>bZ b o
 |none=>I)
def keep(σ:Sg)(a ro:N K):Sg:=let b:=IH σ ro
 ⟨σ.nx,σ.rg.filter<|zf5 a b,σ.ob.filter λe=>bZ b e.1⟩
def rest(σ:Sg)(a ro:N K):Sg:=let b:=IH σ ro
 ⟨σ.nx,σ.rg.filter<|λe=> !zf5 a b e,σ.ob.filter λe=> !bZ b e.1⟩
def qW(cx kp:Sg):Sg:=⟨kp.nx,kp.rg++cx.rg,kp.ob++cx.ob⟩
def cU:N (K×TF)->v6
 |[]=>I
 |(_,.own _ _)::r=>cU r
 |(_,.var _ _)::r=>cU r
 |(_,.mat _ _ _)::r=>cU r
 |(_,.bo _ _ _)::r=>cU r
 |_=>wL
def Bh:N (K×TF)->K->N (K×K×Dv)
 |[],_=>[]
 |(t,.mat _ _ _)::r,n=>(t,0,.mw n)::Bh r (n+1)
 |(t,.bo _ _ _)::r,n=>(t,0,.mw n)::Bh r (n+1)
 |(t,_)::r,n=>(t,0,.ow n)::Bh r (n+1)
def Ij{a:K×TF}:{l:N (K×TF)}->a.2.D->Jn l->Jn (a::l)
 |[],y,_=>y
 |_::_,y,x=>(y,x)
def mq{a:K×TF}:{l:N (K×TF)}->Jn (a::l)->a.2.D×Jn l
 |[],z=>(z,())
 |_::_,z=>z
def uA(pt:K)(t:Ty)(E:wT)(ds:N (K×TF)):Sh:=⟨(pt,.own t E)::ds,[]⟩
def zh7(ds:N (K×TF))(t:K):v6:=ds.all λe=> !F e.1 t
def zhj:N (K×TF)->v6
 |[]=>I
 |e::r=>zh7 r e.1 && zhj r
def cpR(cx':Sg)(n:K)(sh:Sh):Sg:=⟨n+X sh.ds,Bh sh.ds n++cx'.rg,cx'.ob⟩
def znd(cp:Sg)(ds:N (K×TF))(t:Ty)(E:wT)(pt:K)(τ:Tg)(q:Tg)(σ:Sg):V (N t.D×(Jn ds⊕Jn ds)):=match q with
 |.n=>aG cp (uA pt t E ds) σ λz=>Z ((mq z).1,.inl (mq z).2)
 |.x i=>jb (Tn τ (.x i))<|aG cp (uA pt t E ds) σ λz=>Z ((mq z).1,.inr (mq z).2)
 |.r=>jb (Tn τ .r)<|aG cp (uA pt t E ds) σ λz=>Z ((mq z).1,.inr (mq z).2)
 |.p _=>wF
def zot(cx':Sg)(n:K)(ds:N (K×TF))(t:Ty)(E:wT)(pt:K)(τ:Tg)
 (b c:Sg->Sg->(Tg->Sg->V (N t.D×(Jn ds⊕Jn ds)))->V (N t.D×(Jn ds⊕Jn ds))) (ys:N t.D) (x:Jn ds):V (N t.D×(Jn ds⊕Jn ds)):=
 b (cpR cx' n<|uA pt t E ds) (Kh (uA pt t E ds) (Ij (a:=(pt,.own t E)) ys x) ⟨n,[],[]⟩) λq σ=>match q with
  |.n=>c (cpR cx' n<|uA pt t E ds) σ<|znd (cpR cx' n<|uA pt t E ds) ds t E pt τ
  |_=>wF
def zq5:Tg->v6
 |.p _=>I
 |_=>wL
def zaB{R:Type}(cx σ:Sg)(K:Tg->Sg->V R)(s:Lp)(it:Gf)(y:cj it.dom)(τ:Tg)(pt:wr)(a:N wr)
 (b c:Sg->Sg->(Tg->Sg->V (N it.t.D×(Jn s.hd.ds⊕Jn s.hd.ds)))->V (N it.t.D×(Jn s.hd.ds⊕Jn s.hd.ds))):V R:=
 let kp:=keep σ a s.sg.ro
 let cx':=qW cx kp
 jb (cU s.hd.ds && (!zq5 τ && zhj (uA pt it.t it.E s.hd.ds).ds && Y5 cx'.rg pt))<|aG cx' s.hd (rest σ a s.sg.ro) λx=>
  G (it.M (X:=Jn s.hd.ds) (Y:=Jn s.hd.ds) y (zot cx' kp.nx s.hd.ds it.t it.E pt τ b c) x) λr=>xfe (λx=>K .n<|Kh s.hd x kp) (λx=>K τ<|Kh s.hd x kp) r
def Lo:Wn->v6
 |.seq a b=>Lo a && Lo b
 |.cond _ a b=>Lo a && Lo b
 |.block _ c=>Lo c
 |.loop c=>Lo c
 |.scope c=>Lo c
 |.rangeFunc _ _ _ _=>wL
 |_=>I
end
def iR(cf:Cf):Wn->{R:Type}->Sg->Sg->(Tg->Sg->V R)->V R
 |.skip,_,cx,σ,K=>K .n σ
 |.label _,_,cx,σ,K=>K .n σ
 |.exit id,_,cx,σ,K=>K (.x id) σ
 |.ret,_,cx,σ,K=>K .r σ
 |.scope c,_,cx,σ,K=>iR cf c cx σ K
 |.region i h k,_,cx,σ,K=>znu cf cx i h.toList k σ (λq σ=>K (.p q) σ) λσ=>K .n σ
 |.cond c a b,_,cx,σ,K=>(match xo cx σ c with
  |some (.kb I)=>iR cf a cx σ K
  |some (.kb wL)=>iR cf b cx σ K
  |some (.d .b x)=>ifB x (iR cf a cx σ K)<|iR cf b cx σ K
  |_=>wF)
 |.block id c,_,cx,σ,K=>iR cf c cx σ λt σ=>match t with
  |.x j=>GI (F j id) (K .n σ)<|K (.x j) σ
  |t=>K t σ
 |.seq a b,_,cx,σ,K=>
  (match Uc cf.an.jn (zrB a b)with
  |none=>iR cf a cx σ λt σ=>(match t with
   |.n=>iR cf b cx σ K
   |t=>K t σ)
  |some s=>
   let e:=FH a
   let kp:=keep σ e s.ro
   G (iR cf a (qW cx kp) (rest σ e s.ro) λt σ=>zgE (qW cx kp) σ t s.tg Z) λx=>
    Rp kp (λt σ=>match t with
     |.n=>iR cf b cx σ K
     |t=>K t σ) s.tg x)
 |.loop c,_,cx,σ,K=>
  (match(match lid c with
   |some i=>Uc cf.an.lp i
   |none=>wF)with
  |none=>wF
  |some s=>
   let e:=FH c
   let kp:=keep σ e s.sg.ro
   let cx':=qW cx kp
   aG cx' s.hd (rest σ e s.sg.ro) λx=>
    G (zg (λL x=>iR cf c cx' (Kh s.hd x ⟨kp.nx,[],[]⟩) λt σ=>match t with
     |.n=>aG cx' s.hd σ L
     |t=>zgE cx' σ t s.sg.tg Z) cf.fu x) λx=>Rp kp K s.sg.tg x)
 |.rangeFunc g ps a c,_,cx,σ,K=>
  (match xo cx σ g,(match rid c with
   |some i=>Uc cf.an.lp i
   |none=>wF),ps.toList with
  |some (.fn f cs),Z s,[pt]=>(match zkO cf.is f,s.sg.tg,s.hd.ns with
   |some it,[(τ,_)],[]=>(match cF it.dom cs with
    |some y=>jb (Lo a && Lo c)<|zaB cx σ K s it y τ pt (pt::(FH a++FH c)) (λcx σ K=>iR cf a cx σ K) (λcx σ K=>iR cf c cx σ K)
    |none=>wF)
   |_,_,_=>wF)
  |_,_,_=>wF)
 |_,_,_,_,_=>wF
def WI:(dom:N AM)->cj dom->K->N (K×K×Dv)×N (K×Od)
 |[],_,_=>([],[])
 |.d t::r,x,i=>let y:=WI r x.2 (i+1)
  ((i,0,.d t x.1)::y.1,y.2)
 |.q t::r,x,i=>let y:=WI r x.2 (i+1)
  ((i,0,.q t x.1)::y.1,y.2)
 |.own t E::r,x,i=>let y:=WI r x.2 (i+1)
  ((i,0,.ow i)::y.1,(i,.own t E x.1)::y.2)
 |.var t E::r,x,i=>let y:=WI r x.2 (i+1)
  ((i,0,.vs i t)::y.1,(i,.var t E x.1)::y.2)
 |.fn dom cod::r,x,i=>let y:=WI r x.2 (i+1)
  ((i,0,.fp dom cod x.1)::y.1,y.2)
def Eg{R:Type}(cf:Cf)(σ:Sg)(r:WW)(m:RM)(k:m.D->N K->V R):V R:=match r,m,k with
 |.tmp t,.d s,k=>BO (get ⟨0,[],[]⟩ σ t 0) s λy=>k y []
 |.tmp t,.own s E,k=>dZ ⟨0,[],[]⟩ σ [] t (.own s E) k
 |.tmp t,.var s E,k=>dZ ⟨0,[],[]⟩ σ [] t (.var s E) k
 |.cell t E,.d s,k=>(match get ⟨0,[],[]⟩ σ t 0,Zx cf E with
  |some (.vs o _),Z a=>(match xy σ.ob o with
   |some (.var b c z)=>jb (F E c)<|Ty.cast b a.ty z λz=>Ty.cast a.ty s z λy=>k y [o]
   |_=>wF)
  |_,_=>wF)
 |_,_,_=>wF
def Pk{R:Type}(cf:Cf)(σ:Sg):N WW->(cod:N RM)->(iU cod->N K->V R)->V R
 |[],[],k=>k () []
 |[v],[m],k=>Eg cf σ v m k
 |v::a::vs,m::m'::ms,k=>Eg cf σ v m λx o=>Pk cf σ (a::vs) (m'::ms) λy os=>jb (C5 os o)<|k (x,y) (o++os)
 |_,_,_=>wF
def TB(N:K):Wn->v6
 |.region _ d _=>d.toList.all λo=>jL N o.dst
 |.seq a b=>TB N a && TB N b
 |.cond _ a b=>TB N a && TB N b
 |.block _ c=>TB N c
 |.loop c=>TB N c
 |.scope c=>TB N c
 |.rangeFunc _ ps a c=>(ps.toList.all λp=>xcX p N) && (TB N a && TB N c)
 |_=>I
def cT(σ:Sg):N WW->N RM->Sg
 |.tmp t::vs,.d _::ms=>cT (frz ⟨0,[],[]⟩ σ (.tmp t)) vs ms
 |_::vs,_::ms=>cT σ vs ms
 |_,_=>σ
def zar(cf:Cf)(fn:QR)(dom:N AM)(cod:N RM)(x:cj dom):V (iU cod):=match fn.body with
 |some c=>jb (TB fn.ntmps c && xfQ (X dom) fn.ntmps)<|
  let y:=WI dom x 0
  iR cf c ⟨0,[],[]⟩ ⟨X dom,y.1,y.2⟩ λt σ=>(match t with
   |.r=>Pk cf (cT σ fn.results.toList cod) fn.results.toList cod λy _=>Z y
   |.n=>Pk cf (cT σ fn.results.toList cod) fn.results.toList cod λy _=>Z y
   |_=>wF)
 |none=>wF
def Gn:N AM->K->N WW
 |[],_=>[]
 |.own _ _::r,i=> .tmp i::Gn r (i+1)
 |.var _ _::r,i=> .tmp i::Gn r (i+1)
 |_::r,i=>Gn r<|i+1
def Ei(a:K->wN):N AM->K->N (K×K×Dv)
 |[],_=>[]
 |.own _ _::r,i=>(i,0,.pin<|a i)::Ei a r (i+1)
 |.var _ _::r,i=>(i,0,.pin<|a i)::Ei a r (i+1)
 |_::r,i=>Ei a r<|i+1
def zkB(cf:Cf)(fn:QR)(dom:N AM)(cod:N RM)(bk:K)(b:K->wN)(x:cj dom):V (iU cod):=match fn.body with
 |some c=>jb (TB fn.ntmps c && xfQ (X dom) fn.ntmps && F (X fn.results.toList+bk) (X cod) && F (X (Gn dom 0)) bk && xcX 0 bk)<|
  let y:=WI dom x 0
  let a:=fn.results.toList++Gn dom 0
  iR cf c ⟨0,Ei b dom 0,[]⟩ ⟨X dom,y.1,y.2⟩ λt σ=>(match t with
   |.r=>Pk cf (cT σ a cod) a cod λy _=>Z y
   |.n=>Pk cf (cT σ a cod) a cod λy _=>Z y
   |_=>wF)
 |none=>wF
end
section
def cQ(p:Prop):FF where
 p _ _:=p
 keep h _:=h
 sub h _:=h
def Gh:N PD->N wN->N FF
 |c::cs,v::vs=>fP c.t.rep c.x v::Gh cs vs
 |_,_=>[]
def tsF:(ts:N Ty)->mV ts->N wN->N FF
 |[],_,_=>[]
 |t::ts,x,vs=>fV t.rep x.1 (vs.headD uL)::tsF ts x.2 vs.tail
def csF:(ts:N Ty)->Iq ts->N wN->N FF
 |[],_,_=>[]
 |[t],x,vs=>[fV t.rep x<|vs.headD uL]
 |t::s::r,x,vs=>fV t.rep x.1 (vs.headD uL)::csF (s::r) x.2 vs.tail
def znH(P:jP)(a:Z3)(aA:N wN)(b:N FF)(dom cod:N Ty)(g:mV dom->V (Iq cod)):Prop:=
 BS P a=I/\∀(x:mV dom) (r:Iq cod),g x=Z r->∀vs:N wN,X vs=X dom->
  Fn P a (vs++aA).toArray (tsF dom x vs++b) X3 (λus=>csF cod r us) (λus=>X us=X cod)
def fnF(P:jP)(dom cod:N Ty)(g:mV dom->V (Iq cod))(v:wN):FF where
 p S w:=∃a aA b,v=.func (.func a) #[] aA.toArray/\znH P a aA b dom cod g/\zE S b w
 keep:=by rintro S w w' ⟨a,aA,b,h1,c,d⟩ k;exact⟨a,aA,b,h1,c,zE.keep k d⟩
 sub:=by rintro S e w ⟨a,aA,b,h1,c,d⟩ k;exact⟨a,aA,b,h1,c,zE.sub k d⟩
def amF(P:jP):(a:AM)->a.D->wN->FF
 |.d t,x,v=>fV t.rep x v
 |.q t,x,v=>fP t.rep x v
 |.own _ _,_,_=>cQ Z5
 |.var _ _,_,v=>cQ (∃b,v=.pointer (Z ⟨b,0,wF⟩))
 |.fn dom cod,g,v=>fnF P dom cod g v
def amM:(a:AM)->a.D->wN->N MF
 |.own t E,xs,v=>[mO t.rep E v xs]
 |.var t E,z,v=>[mP t.rep.c E v z]
 |_,_,_=>[]
def ky(P:jP):(dom:N AM)->cj dom->N wN->N FF
 |[],_,_=>[]
 |a::r,x,vs=>amF P a x.1 (vs.headD uL)::ky P r x.2 vs.tail
def Zo:(dom:N AM)->cj dom->N wN->N MF
 |[],_,_=>[]
 |a::r,x,vs=>amM a x.1 (vs.headD uL)++Zo r x.2 vs.tail
def rmF:(m:RM)->m.D->wN->N FF
 |.d t,x,v=>[fV t.rep x v]
 |.own _ _,_,_=>[]
 |.var _ _,_,v=>[cQ (∃b,v=.pointer (Z ⟨b,0,wF⟩))]
def rmM:(m:RM)->m.D->wN->N MF
 |.own t E,xs,v=>[mO t.rep E v xs]
 |.var t E,z,v=>[mP t.rep.c E v z]
 |.d _,_,_=>[]
def Yk:(rs:N RM)->iU rs->N wN->N FF
 |[],_,_=>[]
 |[m],x,vs=>rmF m x<|vs.headD uL
 |m::n::r,x,vs=>rmF m x.1 (vs.headD uL)++Yk (n::r) x.2 vs.tail
def Yj:(rs:N RM)->iU rs->N wN->N MF
 |[],_,_=>[]
 |[m],x,vs=>rmM m x<|vs.headD uL
 |m::n::r,x,vs=>rmM m x.1 (vs.headD uL)++Yj (n::r) x.2 vs.tail
def J6:N AM->N wN->N wN
 |[],_=>[]
 |.own _ _::r,vs=>vs.headD uL::J6 r vs.tail
 |.var _ _::r,vs=>vs.headD uL::J6 r vs.tail
 |_::r,vs=>J6 r vs.tail
def znr(bk n:K)(us:N wN):wN:=match bk with
 |0=>X3 us
 |b+1=>X3<|us.take<|n-(b+1)
def zif(dom:N AM)(vs:N wN)(bk n:K)(us:N wN):Prop:=match bk with
 |0=>X us=n
 |b+1=>X us=n/\us.drop (n-(b+1))=J6 dom vs
def xh(P:jP)(s:X2):Prop:=
 BS P s.f=I/\∀(x:cj s.dom) (r:iU s.cod),s.M x=Z r->∀vs:N wN,X vs=X s.dom->
  FnG P s.f vs.toArray (Zo s.dom x vs) (ky P s.dom x vs) (znr s.bk (X s.cod)) (λus=>Yj s.cod r us) (λus=>Yk s.cod r us) (zif s.dom vs s.bk (X s.cod))
def xh.plain{P:jP}{s:X2}(h:xh P s)(a:s.bk=0){x:cj s.dom}{r:iU s.cod}(b:s.M x=Z r){vs:N wN}(hl:X vs=X s.dom):
 FnG P s.f vs.toArray (Zo s.dom x vs) (ky P s.dom x vs) X3 (λus=>Yj s.cod r us) (λus=>Yk s.cod r us) (λus=>X us=X s.cod):=by
 have h1:=h.2 x r b vs hl;rw[a]at h1;exact h1
def zgu(P:jP)(t:wT)(i:K):V (K×v6×K):=match P.underlying t with
 |some (.struct fs)=>match fs[i]? with
  |some f=>match tyB P f.type with
   |some (agg,n,_,Z _)=>Z (f.offset,agg,n)
   |_=>wF
  |none=>wF
 |_=>wF
def zgJ(P:jP)(t:wT)(a:TI):Prop:=match a.k with
 |.int k=>P.underlying t=Z (.int k)
 |.bool=>P.underlying t=Z .bool
 |.str=>P.underlying t=Z .string
 |.sl E=>P.underlying t=Z (.slice E)/\∃e,a.ty=.l e
 |.st n=>a.ty.rep.agg=I/\(∀i f,xe n a.ty i=Z f->TA P t i=Z f.off)/\
  (∃fs,P.underlying t=Z (.struct fs)/\∃pl:ul (K×K),(∀w,(fs.mapM (λf=>do pure (f.offset,<-WR f.type)):Sem (ul<|K×K)).run P w=.ok pl w)/\
   ∀i f,xe n a.ty i=Z f->pl[i]? =Z (f.off,f.f.n))/\
  ∀i f,xe n a.ty i=Z f->zgu P t i=Z (f.off,f.f.rep.agg,f.f.n)
 |.ar k E=>a.ty.rep.agg=I/\P.underlying t=Z (.array k E)
 |.pt E=>P.underlying t=Z (.pointer E)
 |.ie=>P.underlying t=Z (.interface<|P.methodsAt t)
def zff(P:jP)(t:wT)(b:TI):Prop:=
 (∃a,Ja P t b.ty.rep.agg b.ty.rep.n b.B a/\a.cells.size=b.ty.rep.n/\(∀S w,b.ty.rep.p S b.ty.z a.cells.toList w)/\(∀s,b.ty=.l s->a=.slice wF 0 0)/\∀n i off s g st,xe n b.ty i=Z ⟨off,.l s,g,st⟩->a.cells.toList[off]? =Z (.slice wF 0 0))/\0<b.B/\0<b.ty.rep.n/\zgJ P t b
def yZ(P:jP)(tt:N (K×TI)):Prop:=∀t a,Uc tt t=Z a->zff P t a
def uz(P:jP)(tt:N (K×TI)):Prop:=∀t s E B,Uc tt t=Z ⟨.l s,.sl E,B⟩->∃a,Uc tt E=Z a/\a.ty=s
def Fl.ok(t:Ty)(f:Fl t.D):Prop:=∀z:t.D,Sub t.rep.c z f.off f.f.rep (f.get z)<|λy=>f.set y z
def zms(f:Z3)(c:N PD)(v:wN):FF where
 p S w:=∃cs:N wN,v=.func (.func f) #[] cs.toArray/\X cs=X c/\zE S (Gh c cs) w
 keep:=by rintro S w w' ⟨cs,h1,a,b⟩ k;exact⟨cs,h1,a,zE.keep k b⟩
 sub:=by rintro S d w ⟨cs,h1,a,b⟩ k;exact⟨cs,h1,a,zE.sub k b⟩
def SU(v0:wN)(lo n:K)(v:wN):Prop:=(∃b m cap,v0=.slice (Z ⟨b,0,wF⟩) m cap/\lo+n<=m/\m<=cap/\cap<=9223372036854775807/\v=.slice (if cap=lo then Z ⟨b,0,wF⟩else Z ⟨b,0+lo*1,wF⟩) n (cap-lo))\/(v0=.slice wF 0 0/\lo=0/\n=0/\v=.slice wF 0 0)
def SU.old{v0 v:wN}{lo n:K}(h:SU v0 lo n v):(∃b m cap c,v0=.slice (Z ⟨b,0,wF⟩) m cap/\lo+n<=m/\n<=c/\c<=9223372036854775807/\v=.slice (Z ⟨b,0+lo*1,wF⟩) n c)\/(n=0/\∃e c,c<=9223372036854775807/\v=.slice e 0 c):=by
 rcases h with⟨b,m,cap,h1,d,f,g,a⟩|⟨h1,d,f,g⟩
 ·by_cases hc:cap=lo
  ·rw[iq hc]at a;obtain rfl:n=0:=W
   simp_all
  ·rw[ir hc]at a;exact .inl ⟨b,m,cap,cap-lo,h1,d,W,W,a⟩
 ·simp_all
def SU.same{v0 d v:wN}{lo n m:K}(h:SU v0 lo n v)(f:SU d lo n v)(hl:∀a k c,v0=.slice a k c->a.isSome=I->k=m)(p:∀a k c,d=.slice a k c->a.isSome=I->k=m):v0=d:=by
 rcases h with⟨b,k,cap,h1,g,i,j,q⟩|⟨h1,g,i,j⟩<;>rcases f with⟨r,s,e,q1,q2,l,o,t⟩|⟨q1,q2,l,o⟩
 ·grind
 ·simp_all
 ·simp_all
 ·grind
def zqW(F:FF)(p:Prop):FF where
 p S w:=F.p S w/\p
 keep h k:=⟨F.keep h.1 k,h.2⟩
 sub h k:=⟨F.sub h.1 k,h.2⟩
def wV(P:jP)(vs:K->wN):Dv->wN->FF
 |.d t x,v=>fV t.rep x v
 |.q t x,v=>fP t.rep x v
 |.kb b,v=>cQ<|v=.bool b
 |.un,v=>cQ<|v=uL
 |.nil,v=>cQ<|v=.slice wF 0 0
 |.ow o,v=>cQ<|v=vs o
 |.ep o t j f,v=>cQ (Fl.ok t f/\∃b n cap,vs o=.slice (Z ⟨b,0,wF⟩) n cap/\j<n/\v=.pointer (Z ⟨b,0+j*t.rep.n+f.off,wF⟩))
 |.sv o t lo n,v=>cQ<|(∃b m cap c,vs o=.slice (Z ⟨b,0,wF⟩) m cap/\lo+n<=m/\n<=c/\c<=9223372036854775807/\v=.slice (Z ⟨b,0+lo*t.rep.n,wF⟩) n c)\/(n=0/\∃a c,c<=9223372036854775807/\v=.slice a 0 c)
 |.vs o t,v=>cQ (v=vs o/\∃b,vs o=.pointer (Z ⟨b,0,wF⟩))
 |.vp o t f,v=>cQ (Fl.ok t f/\∃b,vs o=.pointer (Z ⟨b,0,wF⟩)/\v=.pointer (Z ⟨b,0+f.off,wF⟩))
 |.fn f c,v=>zms f c v
 |.fp dom cod g,v=>fnF P dom cod g v
 |.pin u,v=>cQ<|v=u
 |.mw o,v=>cQ<|v=yC (vs o)
 |.mv o lo n,v=>cQ<|SU (yC<|vs o) lo n v
 |.hp o j,v=>cQ (∃b n cap,yC (vs o)=.slice (Z ⟨b,0,wF⟩) n cap/\j<n/\v=.pointer (Z ⟨b,0+j*1,wF⟩))
 |.rw o r,v=>cQ<|(xM<|vs o)[r]? =Z v
 |.rp o t r j f,v=>cQ (Fl.ok t f/\∃b n cap,(xM<|vs o)[r]? =Z (.slice (Z ⟨b,0,wF⟩) n cap)/\j<n/\v=.pointer (Z ⟨b,0+j*t.rep.n+f.off,wF⟩))
 |.yd o,v=>cQ<|v=.func (.yield<|lOf<|yC<|vs o) #[] #[]
 |.np,v=>cQ<|v=.pointer wF
 |.ni,v=>cQ<|v=.nilIface
 |.vf o t n i,v=>cQ (∃b f,yC (vs o)=.pointer (Z ⟨b,0,wF⟩)/\xe n t i=Z f/\v=.pointer (Z ⟨b,0+f.off,wF⟩))
 |.dz t x n i,v=>zqW (fV t.rep x v) (∃f,xe n t i=Z f/\v.cells.toList[f.off]? =Z (.slice wF 0 0))
 |.ifc q,v=>cQ<|v=.iface q.1 (.agg #[.int .i64 q.2])
 |.bm f o t,v=>cQ (v=.func (.func f) #[vs o] #[]/\∃b,vs o=.pointer (Z ⟨b,0,wF⟩))
def vX(P:jP)(vs:K->wN)(d:Dv)(v:wN)(i:K):FF where
 p S w:=match i with
  |0=>(wV P vs d v).p S w
  |i+1=>∃us u,v=.tuple us/\us[i]? =Z u/\(wV P vs d u).p S w
 keep:=by
  intro S w w' h k
  cases i with
  |zero=>exact(wV P vs d v).keep h k
  |succ i=>have⟨us,u,h1,a,b⟩:=h;exact⟨us,u,h1,a,(wV P vs d u).keep b k⟩
 sub:=by
  intro S c w h k
  cases i with
  |zero=>exact(wV P vs d v).sub h k
  |succ i=>have⟨us,u,h1,a,b⟩:=h;exact⟨us,u,h1,a,(wV P vs d u).sub b k⟩
def vrP{α:Type}(s:Ty)(f:V (Fl α)):Prop:=∃(off:K) (g:α->(Ty.l s).D) (st:(Ty.l s).D->α->α),f=Z ⟨off,.l s,g,st⟩
def Ki(vs:K->wN)(e:K×Od):MF:=match e.2 with
 |.own t E xs=>mO t.rep E (vs e.1) xs
 |.var t E z=>mP t.rep.c E (vs e.1) z
 |.mat t E E1 a ix=>Aq t.rep E E1 (vs e.1) a ix
 |.bo t E b xs=>mBo t.rep E b (vs e.1) xs
 |.ho b=>mHo b<|vs e.1
 |.vr t E s E1 n i z xs=>mVr (vrP s<|xe n t i) t.rep E (YL<|xe n t i) (uj s (xe n t i) []) s.rep E1 (vs e.1) z xs
 |.vh t E s E1 n i z=>mVh (vrP s<|xe n t i) t.rep E (YL<|xe n t i) (uj s (xe n t i) []) (vs e.1) z
 |.hid t E X Y f d g x=>E4 [mPr<|Oq Tryz.prog (lOf<|yC<|vs e.1) t.rep E f d g,f x<|(xM<|vs e.1).headD uL]
 |.hiy Y d y=>d y<|(xM<|vs e.1).headD uL
def MS(vs:K->wN)(ob:N (K×Od)):N MF:=ob.map<|Ki vs
def RS(P:jP)(vs:K->wN)(env:y4)(rg:N (K×K×Dv)):N FF:=rg.map λe=>vX P vs e.2.2 (env e.1) e.2.1
structure Fr where
 we:wP
 Se:K->Prop
 F:N MF
 G:N FF
structure Bd(cx σ:Sg):Prop where
 o1:∀e∈σ.ob,e.1<σ.nx
 o2:∀e∈cx.ob,e.1<σ.nx
 r1:∀e∈σ.rg,∀o,vn e.2.2=Z o->o<σ.nx
 r2:∀e∈cx.rg,∀o,vn e.2.2=Z o->o<σ.nx
def Z1(P:jP)(fr:Fr)(cx σ:Sg)(env:y4)(w:wP):Prop:=
 Bd cx σ/\∃vs:K->wN,St fr.we fr.Se (MS vs σ.ob++(MS vs cx.ob++fr.F)) (RS P vs env σ.rg++(RS P vs env cx.rg++fr.G)) w
section
variable{P:jP}{vs vs':wr->wN}{env env':y4}
def gZ{d:Dv}(h:∀o,vn d=Z o->vs' o=vs o)(v:wN):wV P vs' d v=wV P vs d v:=by
 cases d<;>simp only[wV]<;>simp only[vn,xat,forall_eq']at h<;>rw[h]
def wx:∀{ob:N (K×Od)},(∀e∈ob,vs' e.1=vs e.1)->MS vs' ob=MS vs ob
 |[],_=>rfl
 |(o,x)::r,h=>by
  have h1:=h (o,x)<|FS;have a:=wx λe b=>h e<|UV _ b;show Ki vs' (o,x)::MS vs' r=Ki vs (o,x)::MS vs r;rw[a];cases x<;>simp only[Ki]<;>rw[h1]
def qJ:∀{rg:N (K×K×Dv)},(∀e∈rg,∀o,vn e.2.2=Z o->vs' o=vs o)->(∀e∈rg,env' e.1=env e.1)->RS P vs' env' rg=RS P vs env rg
 |[],_,_=>rfl
 |(t,i,d)::r,h,b=>by
  show vX P vs' d (env' t) i::RS P vs' env' r=vX P vs d (env t) i::RS P vs env r;rw[qJ (λe a=>h e<|UV _ a)<|λe a=>b e<|UV _ a,b (t,i,d)<|FS];unfold vX;simp only[gZ<|h (t,i,d)<|FS]
theorem jW{S:K->Prop}{w:wP}:∀{Γ:N FF},zE S Γ w↔∀f∈Γ,f.p S w
 |[]=>⟨λ_ f h=>wS h H1,λ_=>wR⟩
 |f::r=>by
  have a:=jW (S:=S) (w:=w) (Γ:=r);constructor
  ·intro h x hx;obtain rfl|hx:=xag.1 hx
   ·exact h.1
   ·exact a.1 h.2 x hx
  ·intro h;exact⟨h f<|FS,a.2 λx hx=>h x<|UV _ hx⟩
theorem zY{a b:K}(h:F a b=I):a=b:=xdt h
theorem gM:∀{rg:N (K×K×Dv)}{t i:K}{d:Dv},lN rg t i=Z d->(t,i,d)∈rg
 |(a,b,e)::r,t,i,d,h=>by
  unfold lN at h;cases c:F a t && F b i
  ·rw[c]at h;exact UV _<|gM h
  ·simp_all
def UB{S:K->Prop}{w:wP}{rg:N (K×K×Dv)}(h:zE S (RS P vs env rg) w){t i:K}{d:Dv}(hd:(t,i,d)∈rg):(vX P vs d (env t) i).p S w:=
 jW.1 h _ (xap.2 ⟨(t,i,d),hd,O⟩)
theorem vm:∀{ob:N (K×Od)}{o:K}{x:Od},xy ob o=Z x->∃i,ob[i]? =Z (o,x)/\(∀y,kQ ob o y=ob.set i (o,y))/\yx ob o=ob.eraseIdx i
 |(b,e)::r,o,x,h=>by
  unfold xy at h;cases a:F b o
  ·rw[a]at h;have⟨i,h1,c,d⟩:=vm h;exact⟨i+1,by simpa using h1,λy=>by unfold kQ;rw[a];simp only[XS,xfd,c y],by unfold yx;rw[a];simp only[XS,List.eraseIdx_cons_succ,d]⟩
  ·rw[a]at h;simp only[Wd,xat]at h;have:=zY a;subst h;subst this;exact⟨0,O,λy=>by unfold kQ;rw[a];rfl,by unfold yx;rw[a];rfl⟩
theorem JJ{ob:N (K×Od)}{i:K}{e:K×Od}{R:N MF}(h:ob[i]? =Z e):(MS vs ob++R)[i]? =Z (Ki vs e):=by grind [MS]
theorem Dm{ob:N (K×Od)}{i:K}{e a:K×Od}{R:N MF}(h:ob[i]? =Z e):(MS vs ob++R).set i (Ki vs a)=MS vs (ob.set i a)++R:=by grind [MS,List.map_set]
theorem zgS{α:Type _}{β:Type _}(f:α->β):∀(l:N α) (i:K),(l.eraseIdx i).map f=(l.map f).eraseIdx i
 |[],i=>by simp
 |_::_,0=>rfl
 |a::l,i+1=>by simp only[List.eraseIdx_cons_succ,xbU,zgS f l i]
theorem dq{ob:N (K×Od)}{i:K}{e:K×Od}{R:N MF}(h:ob[i]? =Z e):(MS vs ob++R).eraseIdx i=MS vs (ob.eraseIdx i)++R:=by grind [MS,zgS]
theorem zf2{cx σ:Sg}{o:K}{x:Od}(h:XT cx σ o=Z x):(o,x)∈σ.ob\/(o,x)∈cx.ob:=by grind [XT,vm]
theorem NR{cx σ:Sg}{t i:K}{d:Dv}(h:get cx σ t i=Z d):(t,i,d)∈σ.rg\/(t,i,d)∈cx.rg:=by grind [get,gM]
def Zk{S:K->Prop}{w:wP}{cx σ:Sg}{o:K}{x:Od}{F:N MF}(a:yT S (MS vs σ.ob++(MS vs cx.ob++F)) w)(h:XT cx σ o=Z x):(Ki vs (o,x)).p S w:=by
 refine Yi.1 a _ ?_;obtain h|h:=zf2 h
 ·exact So.2 (.inl<|xap.2 ⟨_,h,O⟩)
 ·exact So.2 (.inr<|So.2 (.inl<|xap.2 ⟨_,h,O⟩))
end
def z7{R:Type}{s t:Ty}{x:s.D}{k:t.D->V R}{r:R}(h:Ty.cast s t x k=Z r):∃e:s=t,k (e▸x)=Z r:=by grind [Ty.cast]
def z6{R:Type}{b:v6}{x:V R}{r:R}(h:jb b x=Z r):b=I/\x=Z r:=by grind
end
section
open Go.ChangeShapes Go.WideShapes Go.ChangeAt Go.RowKit
def Jh(P:jP):Ty->wT->Prop
 |.i,T=>P.underlying T=Z (.int .i64)
 |.u,T=>P.underlying T=Z (.int .u64)
 |.b,T=>P.underlying T=Z .bool
 |.l t,T=>∃E,P.underlying T=Z (.slice E)/\P.cellsOf E=t.n/\0<t.n/\Jh P t E
 |.p s t,T=>∃f0 f1:Field,P.underlying T=Z (.struct #[f0,f1])/\P.cellsOf T=s.n+t.n/\f0.offset=0/\f1.offset=s.n/\P.cellsOf f0.type=s.n/\P.cellsOf f1.type=t.n/\Jh P s f0.type/\Jh P t f1.type
 |.ch,T=>P.underlying T=Z (.int .u8)
 |.tx,T=>P.underlying T=Z .string
 |.a _ _,_=>V3
 |.po _,_=>V3
 |.tr,_=>V3
 |.er,_=>V3
 |.w1 _,_=>V3
def zpM(P:jP)(T:wT):V ((K×wT)×(K×wT)):=match P.underlying T with
 |some (.struct fs)=>match fs.toList with
  |[f0,f1]=>Z ((f0.offset,f0.type),(f1.offset,f1.type))
  |_=>wF
 |_=>wF
def Jh.st{P:jP}{s t:Ty}{T A B:wT}(h:zpM P T=Z ((0,A),(s.n,B)))(hc:P.cellsOf T=s.n+t.n)(b:P.cellsOf A=s.n)(c:P.cellsOf B=t.n)(h1:Jh P s A)(d:Jh P t B):Jh P (.p s t) T:=by
 unfold zpM at h;split at h
 ·next fs e=>
  split at h
  ·next f0 f1 g=>
   simp only[xat,xdd]at h;have⟨⟨f,a⟩,a3,a4⟩:=h;have:fs= #[f0,f1]:=by cases fs;simp_all
   subst this;exact⟨f0,f1,e,hc,f,a3,by rw[a];exact b,by rw[a4];exact c,by rw[a];exact h1,by rw[a4];exact d⟩
  ·cases h
 ·cases h
def Jh.sl{P:jP}{t:Ty}{T E:wT}(h:P.underlying T=Z (.slice E))(hc:P.cellsOf E=t.n)(hp:0<t.n)(h1:Jh P t E):Jh P (.l t) T:=⟨E,h,hc,hp,h1⟩
def HK{w:wP}{b n:K}{a:JP}{c:N wN}(h:w.cells? b a n=Z c):X c=n/\∀i v,c[i]? =Z v->w.cell? (a.add i)=Z v:=by
 unfold World.cells? at h;split at h
 ·have:∀(l:N K) (c:N wN),l.mapM (λi=>w.cell?<|a.add i)=Z c->X c=X l/\∀(i j:K) (v:wN),c[i]? =Z v->l[i]? =Z j->w.cell? (a.add j)=Z v:=by
   intro l
   induction l with
   |nil=>intro c hc;simp at hc;subst hc;exact⟨O,λi j v hv=>by simp at hv⟩
   |cons x l g=>
    intro c hc;rw[List.mapM_cons]at hc
    cases d:w.cell? (a.add x)with
    |none=>rw[d]at hc;simp at hc
    |some y=>
     rw[d]at hc
     cases hl:l.mapM (λi=>w.cell?<|a.add i)with
     |none=>rw[hl]at hc;simp at hc
     |some r=>
      rw[hl]at hc;have hc:y::r=c:=by simpa using hc
      subst hc;have⟨h1,e⟩:=g r hl;refine⟨by simp[h1],λi j v hv f=> ?_⟩
      cases i with
      |zero=>simp at hv f;subst hv;subst f;exact d
      |succ i=>exact e i j v (by simpa using hv)<|by simpa using f
  have⟨h1,e⟩:=this _ _ h;refine⟨by simpa using h1,λi v hv=>e i i v hv ?_⟩;grind
 ·cases h
def zdw{w:wP}{a:JP}{v:wN}(h:w.cell? a=Z v):a=⟨a.block,a.off,wF⟩/\a.block<w.heap.size:=by
 unfold World.cell? at h;split at h
 ·next c _ _ d=>
  split at h
  ·cases h
  ·next e=>
   refine⟨?_,(xbh.1 d).1⟩;have⟨b,o,s⟩:=a
   cases s with
   |none=>rfl
   |some x=>simp at e
 ·cases h
def zlw(a:JP):a.add 0=a:=by grind [Addr.add]
section
variable{H:Type}{enc:wT×wN->H}{P:jP}{W:wP}{sp:wr->v6}{held:v6}
theorem PG{t:Ty}{b o:K}(a:b<W.heap.size):∀(len:K),(∀i,i<len->∃(c:N wN) (z:t.D),W.cells? 0 (⟨b,o+i*t.n,wF⟩:JP) t.n=Z c/\t.rep.p (λ_=>Z5) z c W)->
 ∃(xs:N t.D) (cs:N wN),X xs=len/\At W b o cs/\yP t.rep (λ_=>Z5) xs cs W
 |0,_=>⟨[],[],O,⟨a,λj v hv=>by simp at hv⟩,O⟩
 |len+1,h=>by
  have⟨xs,cs,h1,e,d⟩:=PG a len λi hi=>h i g9;have⟨c,z,f,g⟩:=h len g9;have⟨l,k⟩:=HK f;have hl:=d.len;rw[Ty.n_rep]at hl;refine⟨xs++[z],cs++c,by simp[h1],⟨a,λj v hv=> ?_⟩,d.append ⟨c,[],iP,g,O⟩⟩;rcases xbS j (X cs) with hj|hj
  ·rw[xbj hj]at hv;exact e.2 j v hv
  ·rw[xbz hj]at hv;have:=k _ v hv;rw[jq]at this;grind
def p8:∀(t:Ty) {T:wT}{n:K}{cs:N wN}{x:g8 H×N Us},Jh P t T->DataW.trod enc P W 0 sp held n T cs=Z x->∃z:t.D,t.rep.p (λ_=>Z5) z cs W
 |.i,T,n,cs,x,d,h=>by
  obtain⟨v,rfl,_,g⟩:=DataW.trod_int d h;have: -9223372036854775808<=v/\v<=9223372036854775807:=by simpa[Lit.wf,IntKind.min,IntKind.max,IntKind.signed,IntKind.bits]using g
  exact⟨v,O,this.1,this.2⟩
 |.u,T,n,cs,x,d,h=>by
  obtain⟨v,rfl,_,g⟩:=DataW.trod_int d h;have:0<=v/\v<=18446744073709551615:=by simpa[Lit.wf,IntKind.min,IntKind.max,IntKind.signed,IntKind.bits]using g
  obtain⟨k,rfl⟩:=xaz this.1;exact⟨k,O,g9⟩
 |.ch,T,n,cs,x,d,h=>by
  obtain⟨v,rfl,_,g⟩:=DataW.trod_int d h;have:0<=v/\v<=255:=by simpa[Lit.wf,IntKind.min,IntKind.max,IntKind.signed,IntKind.bits]using g
  obtain⟨k,rfl⟩:=xaz this.1;exact⟨k,O,g9⟩
 |.tx,T,n,cs,x,d,h=>by
  obtain⟨s,rfl,_,C⟩:=DataW.trod_string d h;exact⟨xa s,s,O,O,C⟩
 |.b,T,n,cs,x,d,h=>by
  obtain⟨v,rfl,_⟩:=DataW.trod_bool d h;exact⟨v,O⟩
 |.l t,T,n,cs,x,d,h=>by
  have⟨E,j,hc,U,F⟩:=d;rcases DataW.trod_slice j h with⟨rfl,_⟩|⟨a,len,cap,q,rest,m,_,rfl,_,_,Y,hd,hg,r,_,_⟩
  ·exact⟨[],_,O,SlP.nil⟩
  ·rw[hc]at r;have f:∀i,i<len->∃(c:N wN) (z:t.D),W.cells? 0 (a.add<|i*t.n) t.n=Z c/\t.rep.p (λ_=>Z5) z c W:=by
    intro i hi;have h1:=r i hi;rw[xak g9]at h1;have⟨c,w,y⟩:=Option.bind_eq_some_iff.1 h1;have⟨z,G⟩:=p8 t F y;exact⟨c,z,w,G⟩
   obtain h0|h0:=xbV len
   ·subst h0;exact⟨[],_,O,Z a,cap,O,xac _,hd,.inl O⟩
   ·have⟨c,z,h1,w⟩:=f 0 h0;have⟨y,J⟩:=HK h1;have A:=J 0 (c[0]'g9) (xak g9);rw[xcx,zlw,zlw]at A;have⟨B,L⟩:=zdw A;rw[B]at f;have⟨xs,cs,g1,M,Q⟩:=PG (t:=t) (b:=a.block) (o:=a.off) L len λi hi=>by
     have:=f i hi;rw[jq]at this;exact this
    refine⟨xs,_,O,Z a,cap,by rw[g1],g9,hd,.inr ⟨a.block,a.off,cs,by rw[<-B],wR,M,Q⟩⟩
 |.p s t,T,n,cs,x,d,h=>by
  have⟨f0,f1,j,hc,o0,o1,c0,c1,h0,h1⟩:=d;have⟨y0,y1,m,_,hl,g0,g1⟩:=trod_struct2 j h;rw[o0,c0,List.drop_zero]at g0;rw[o1,c1]at g1;have⟨z0,R⟩:=p8 s h0 g0;have⟨S,k1⟩:=p8 t h1 g1;refine⟨(z0,S),cs.take s.n,(cs.drop s.n).take t.n,?_,R,k1⟩;rw[hc]at hl;have e:(cs.drop s.n).take t.n=cs.drop s.n:=xaW (by simp;lia);rw[e,xbA]
 |.a _ _,_,_,_,_,d,_=>d.elim
 |.po _,_,_,_,_,d,_=>d.elim
 |.tr,_,_,_,_,d,_=>d.elim
 |.er,_,_,_,_,d,_=>d.elim
 |.w1 _,_,_,_,_,d,_=>d.elim
def zg4{t:Ty}{T:wT}{v:wN}{d:g8 H}{ps:N Us}(a:Jh P t T)(hv:v=t.rep.val v.cells.toList)(h:DataW.Trod enc P W 0 sp held T v d ps):∃z:t.D,(fV t.rep z v).p (λ_=>Z5) W:=by
 have⟨n,h⟩:=h;have⟨z,b⟩:=p8 t a h;exact⟨z,_,hv,b⟩
end
def zgD{P:jP}{s:X2}(h:xh P s)(c:s.bk=0)(hc:s.cod=[.d .b])(x:cj s.dom)(g:s.M x=Z (hc▸I:iU s.cod)){vs:N wN}(hl:X vs=X s.dom)(i:Zo s.dom x vs=[]){W:wP}(a:zE (λ_=>Z5) (ky P s.dom x vs) W)(j:Gv W:=by exact wR):
 Ul P s.f vs.toArray W λe k=>e=.returned (.bool I)/\J4 W k:=by
 have⟨f,dom,cod,M,bk⟩:=s;simp only at hc c;subst hc;subst c;have h1:=h.2 x I g vs hl W (λ_=>Z5) [] [] W;simp only[i,xbB]at h1;refine(h1 ⟨yv.refl _ _,⟨λ_ _=>wR,j⟩,wR,λ_=>Z5,λ_ _=>wR,λ_ _=>wR,λm l=>wS l H1,wR,a⟩).mono ?_;rintro e w' ⟨us,n,o,q⟩;have⟨r,_,_,S,_,_,_,_,t⟩:=q;refine⟨?_,r⟩
 match us,o with
 |[u],_=>
  have:u=.bool I:=rN (show(fV R9 I u).p S w' from t.1);rw[n,this];rfl
end
section
open Go.ChangeShapes Go.WideShapes Go.ChangeAt Go.RowKit
section
variable{H:Type}{enc:wT×wN->H}{P:jP}{W:wP}{sp:wr->v6}{held:v6}
def zmS{r:Reach}{b0:K}:∀(t:Ty) {T:wT}{v:wN},Jh P t T->xes P W r b0 T v->v=t.rep.val v.cells.toList
 |.i,T,v,c,h=>by obtain⟨n,rfl⟩:=okWide_int c h;rfl
 |.u,T,v,c,h=>by obtain⟨n,rfl⟩:=okWide_int c h;rfl
 |.ch,T,v,c,h=>by obtain⟨n,rfl⟩:=okWide_int c h;rfl
 |.tx,T,v,c,h=>by
  have c:P.underlying T=Z .string:=c;simp only[xes,c,Cell.okWide]at h;unfold Cell.ok at h;rw[c]at h;cases v<;>simp at h;rfl
 |.b,T,v,c,h=>by
  have c:P.underlying T=Z .bool:=c;simp only[xes,c,Cell.okWide]at h;unfold Cell.ok at h;rw[c]at h;cases v<;>simp at h;rfl
 |.l t,T,v,c,h=>by
  have⟨E,c,_⟩:=c;simp only[xes,c,Cell.okWide]at h;unfold Cell.ok at h;rw[c]at h;cases v<;>simp at h;rfl
 |.p s t,T,v,c,h=>by
  have⟨f0,f1,c,_⟩:=c;simp only[xes,c]at h;obtain⟨cs,rfl,_⟩:=h;show Value.agg cs=Value.agg cs.toList.toArray;simp
 |.a _ _,T,v,c,_=>c.elim
 |.po _,T,v,c,_=>c.elim
 |.tr,T,v,c,_=>c.elim
 |.er,T,v,c,_=>c.elim
 |.w1 _,T,v,c,_=>c.elim
def zgH{r:Reach}{b0:K}{t:Ty}{T:wT}{v:wN}{d:g8 H}{ps:N Us}(a:Jh P t T)(hv:xes P W r b0 T v)(h:DataW.Trod enc P W 0 sp held T v d ps):∃z:t.D,(fV t.rep z v).p (λ_=>Z5) W:=
 zg4 a (zmS t a hv) h
def Ty.ok:(t:Ty)->t.D->Prop
 |.i,(x:J)=> -9223372036854775808<=x/\x<=9223372036854775807
 |.u,(x:K)=>x<18446744073709551616
 |.b,_=>Z5
 |.ch,(x:K)=>x<256
 |.tx,xs=>xaH xs<=9223372036854775807/\∀x,List.Mem x xs->x<256
 |.l t,xs=>xaH xs<=9223372036854775807/\∀x,List.Mem x xs->t.ok x
 |.p s t,x=>s.ok x.1/\t.ok x.2
 |.a _ t,xs=>∀x,List.Mem x xs->t.ok x
 |.po _,_=>Z5
 |.tr,_=>Z5
 |.er,_=>Z5
 |.w1 t,x=>t.ok x
def EH{α:Type}{e:zV α}{S:K->Prop}{w:wP}{q:α->Prop}(b:∀x cs,e.p S x cs w->q x):∀{xs:N α}{cs:N wN},yP e S xs cs w->∀x,List.Mem x xs->q x
 |[],_,_,x,a=>nomatch a
 |y::ys,_,⟨c,r,_,hc,d⟩,x,a=>by
  cases a with
  |head=>exact b _ _ hc
  |tail _ a=>exact EH b d x a
def tJ:∀(t:Ty) {S:K->Prop}{z:t.D}{cs:N wN}{w:wP},t.rep.p S z cs w->t.ok z
 |.i,_,_,_,_,h=>h.2
 |.u,_,_,_,_,h=>h.2
 |.b,_,_,_,_,_=>trivial
 |.ch,_,_,_,_,h=>h.2
 |.tx,_,xs,_,_,h=>by
  have⟨s,_,h1,g⟩:=h;have f:=wG s;refine⟨by show xaH xs<=_;rw[<-h1,f];exact g,λx e=> ?_⟩;have e:x∈xa s:=by rw[h1];exact e
  obtain⟨b,_,rfl⟩:=xap.1 e;exact UInt8.toNat_lt _
 |.l t,S,xs,_,w,h=>by
  have⟨v,_,m,cap,_,h1,g,f⟩:=h;refine⟨xae h1 g,?_⟩;obtain f|⟨b,o,cs,_,_,_,j⟩:=f
  ·have f:=f;subst f;exact λx e=>nomatch e
  ·exact EH (λx cs e=>tJ t e) j
 |.p s t,S,z,_,w,h=>by
  have⟨c,d,_,h1,g⟩:=h;exact⟨tJ s h1,tJ t g⟩
 |.a k t,S,xs,_,w,h=>by
  have⟨_,h⟩:=h;exact EH (λx cs e=>tJ t e) h
 |.po _,_,_,_,_,_=>trivial
 |.tr,_,_,_,_,_=>trivial
 |.er,_,_,_,_,_=>trivial
 |.w1 t,S,z,cs,w,h=>tJ t h
def zim:(dom:N AM)->cj dom->Prop
 |[],_=>Z5
 |.d t::r,x=>t.ok x.1/\zim r x.2
 |_::r,x=>zim r x.2
def Ph(P:jP):N AM->N wT->Prop
 |[],[]=>Z5
 |.d t::r,T::Ts=>Jh P t T/\Ph P r Ts
 |_,_=>V3
def zcy:∀{dom:N AM}{Ts:N wT},Ph P dom Ts->X dom=X Ts
 |[],[],_=>rfl
 |.d t::r,T::Ts,h=>by simp[zcy h.2]
 |.d _::_,[],h=>h.elim
 |[],_::_,h=>h.elim
 |.q _::_,_,h=>h.elim
 |.own _ _::_,_,h=>h.elim
 |.var _ _::_,_,h=>h.elim
 |.fn _ _::_,_,h=>h.elim
def zgP:∀{dom:N AM}{Ts:N wT},Ph P dom Ts->∀(x:cj dom) (vs:N wN),Zo dom x vs=[]
 |[],_,_,_,_=>rfl
 |.d t::r,T::Ts,h,x,vs=>by show[]++Zo r x.2 vs.tail=[];rw[zgP h.2];rfl
 |.d _::_,[],h,_,_=>h.elim
 |.q _::_,_,h,_,_=>h.elim
 |.own _ _::_,_,h,_,_=>h.elim
 |.var _ _::_,_,h,_,_=>h.elim
 |.fn _ _::_,_,h,_,_=>h.elim
def HX{r:Reach}{b0:K}:∀{dom:N AM}{Ts:N wT}{vs:N wN}{ds:N (g8 H)}{ps:N Us},Ph P dom Ts->(∀(j:K) t v,Ts[j]? =Z t->vs[j]? =Z v->xes P W r b0 t v)->xeM enc P W 0 sp held Ts vs ds ps->
 X vs=X Ts/\∃x:cj dom,zim dom x/\zE (λ_=>Z5) (ky P dom x vs) W
 |[],[],[],[],_,_,_,_=>⟨O,(),wR,wR⟩
 |.d t::dom,T::Ts,v::vs,d::ds,ps,h,hv,b=>by
  have⟨p,q,h1,c,_⟩:=b;have⟨hl,x,hc,e⟩:=HX h.2 (λj f g i hd=>hv (j+1) f g (by simpa using i)<|by simpa using hd) c;have⟨z,k⟩:=zgH h.1 (hv 0 T v O O) h1;have⟨cs,l,a⟩:=k;exact⟨by simp[hl],(z,x),⟨tJ t a,hc⟩,⟨cs,l,a⟩,e⟩
 |[],[],_::_,_,_,_,_,h=>h.elim
 |[],[],[],_::_,_,_,_,h=>h.elim
 |.d _::_,_::_,[],_,_,_,_,h=>h.elim
 |.d _::_,_::_,_::_,[],_,_,_,h=>h.elim
 |.d _::_,[],_,_,_,h,_,_=>h.elim
 |[],_::_,_,_,_,h,_,_=>h.elim
 |.q _::_,_,_,_,_,h,_,_=>h.elim
 |.own _ _::_,_,_,_,_,h,_,_=>h.elim
 |.var _ _::_,_,_,_,_,h,_,_=>h.elim
 |.fn _ _::_,_,_,_,_,h,_,_=>h.elim
def zf6{a:wP}(c:J4 W a){p:Us}(hp:p.block<W.heap.size):W.sameAt a p:=by
 cases p with
 |cell b off=>exact World.cell?_of_block<|c.block b hp wR
 |map b=>exact c.block b hp wR
def mC{c:wP}{b:K->v6}(hl:laidOutB P=I):∀{Ts:N wT}{vs:N wN}{ds:N (g8 H)}{ps:N Us},(∀t∈Ts,P.readableRec t=I/\t<P.types.size)->xeM enc P W 0 (λ_=>I) I Ts vs ds ps->
 (∀p∈ps,W.sameAt c p)->(∀p∈ps,b p.block=I)->xeM enc P c 0 b I Ts vs ds ps
 |[],[],[],_,_,h,_,_=>h
 |T::Ts,v::vs,d::ds,ps,e,h,h1,f=>by
  obtain⟨p,q,g1,i,rfl⟩:=h;have g:=e T<|FS
  exact⟨p,q,Go.WideElems.Trod_stays hl g.1 g.2 g1 (λx a=>h1 x<|So.2 (.inl a))<|λx a=>f x<|So.2 (.inl a),
   mC hl (λt j=>e t<|UV _ j) i (λx a=>h1 x<|So.2 (.inr a)) (λx a=>f x<|So.2 (.inr a)),O⟩
 |[],[],_::_,_,_,h,_,_=>h.elim
 |[],_::_,_,_,_,h,_,_=>h.elim
 |_::_,[],_,_,_,h,_,_=>h.elim
 |_::_,_::_,[],_,_,h,_,_=>h.elim
end
theorem zjn{H:Type}{enc:TypeId×Value->H}{P:Program}{f:Func}{s:ChangeSpec}{apart fresh ha:Bool}{W:World}{base:Nat}{args:Array Value}{ds gs:List (DataW H)}{before:List MemPlace}{sg:X2}
 (hW:DataW.Whole enc P f.params.toList s.vars apart W args.toList ds gs before) (hb:s.vars=[]) (hj:∀(j:Nat) t v,f.params[j]? =some t->args[j]? =some v->xes P W .any base t v)
 (hl:laidOutB P=true) (hr:∀t∈f.params.toList,P.readableRec t=true/\t<P.types.size) (he:Ph P sg.dom f.params.toList) (hc:sg.cod=[.d .b]) (hS:xh P sg) (hM:∀x,zim sg.dom x->sg.M x=some (hc▸true:iU sg.cod)) {B:TypeId} (hB:f.resultTypes= #[B]) (hn:P.underlying B=some .bool)
 (hi:s.fn H (ds++gs)={results:=[.lit (.bool true)],args:=ds}) (hk:sg.bk=0:=by rfl) (hg:Gv W:=by exact trivial):
 Calls P sg.f args W fun e W'=>∃v,e=.returned v/\s.post enc P f apart fresh ha false W args v W':=by
 obtain⟨p,q,hA,hV,ho,hy,hz⟩:=id hW;rw[hb]at hV
 cases gs with
 |cons g gs=>exact hV.elim
 |nil=>
  have hq:=hV;subst hq;obtain⟨hm,x,hs,hx⟩:=HX he (fun j t v ht hv=>hj j t v (by simpa using ht)<|by simpa using hv) hA;refine(zgD hS hk hc x (hM x hs) (by rw[hm,zcy he]) (zgP he x _) hx hg).mono ?_;rintro e W' ⟨rfl,hf⟩;refine⟨_,rfl,ziv (pa:=before) (pv:=[]) hW (fun b sp hd=> ?_) (fun sp hu=> ?_) (fun sp _=> ?_) (by simp) hf⟩
  ·rw[hB,hi];exact⟨[],[],shut_bool hn _,rfl,rfl⟩
  ·rw[hi];have hw:xeM enc P W 0 (fun _=>true) true f.params.toList args.toList ds before:=by rw[ho,xbB];exact hA
   exact mC hl hr hw (fun p hp=>zf6 hf<|hW.lt p hp) hu
  ·rw[hb,hi];rfl
end
section
def zqa:wW->V Z4
 |.tmp t=>Z t
 |_=>wF
def yN(a:Op):N Z4:=a.operands.toList.filterMap zqa
def Lk(P:jP)(vs:K->wN)(env:y4)(S:K->Prop)(w:wP)(cx σ:Sg)(t:Z4):Prop:=
 ∀i d,get cx σ t i=Z d->(vX P vs d (env t) i).p S w
def Xd(P:jP)(vs:K->wN)(env:y4)(S:K->Prop)(w:wP)(cx σ:Sg)(x:wW):Prop:=∀t,zqa x=Z t->Lk P vs env S w cx σ t
def ES(P:jP)(o:ut)(cx σ:Sg)(F:N MF)(l:N (K×Dv)):Prop:=
 ∀(env:y4) (w:wP) (S:K->Prop) (vs:K->wN),Tl w S->yT S (MS vs σ.ob++(MS vs cx.ob++F)) w->(∀t∈yN o.op,Lk P vs env S w cx σ t)->
  ur P o env w (λv w'=>J4 w w'/\∀e∈l,(vX P vs e.2 v e.1).p S w')
section
variable{P:jP}{cf:Cf}{cx σ:Sg}{F:xS MF}{vs:wr->wN}{env:y4}{S:wr->Prop}{w:wP}{R:Type}{r:R}
 {d:ww Z4}{ty t yt:wT}{pos:String}{aft:ul Edge}{g:ww (wr×v6)}{x y:wW}
def yA{a:Op}(h:∀t∈yN a,Lk P vs env S w cx σ t)(b:x∈a.operands.toList):Xd P vs env S w cx σ x:=
 λt c=>h t<|xea.2 ⟨x,b,c⟩
def zj{v:Dv}(h:xo cx σ x=Z v)(hl:Xd P vs env S w cx σ x):(wV P vs v<|ev env x).p S w:=by
 cases x with
 |tmp t=>exact hl t O 0 v h
 |const c=>
  simp only[xo]at h;unfold cv at h;split at h
  ·split at h
   ·next a=>cases h;exact wB a
   ·cases h
  ·split at h
   ·next x a=>
    cases h;have:(x.toNat:J)=x:=xcZ a.1;have b:x.toNat<18446744073709551616:=W
    have:=jB (S:=S) (w:=w) b;rwa[‹(x.toNat:J)=x›]at this
   ·cases h
  ·cases h;exact O
  ·split at h
   ·next x a=>
    cases h;have:(x.toNat:J)=x:=xcZ a.1;have b:x.toNat<256:=W
    have:=HH (S:=S) (w:=w) b;rwa[‹(x.toNat:J)=x›]at this
   ·cases h
  ·split at h
   ·next a=>cases h;exact RQ O a
   ·cases h
  ·cases h;exact O
  ·cases h;exact O
  ·cases h;exact O
  ·cases h;exact O
  ·cases h
 |global g=>cases h
 |func f=>cases h;exact⟨[],O,O,wR⟩
def H4{v:Dv}{u:wN}{p:PD}(h:zks v=Z p)(hv:(wV P vs v u).p S w):(fV p.t.rep p.x u).p S w:=by
 cases v<;>simp only[zks,xat,Ws]at h
 ·subst h;exact hv
 ·subst h;rw[show u=_ from hv];exact BR
def aL{p:PD}(h:pd cx σ x=Z p)(hl:Xd P vs env S w cx σ x):(fV p.t.rep p.x<|ev env x).p S w:=by
 unfold pd at h
 cases hv:xo cx σ x with
 |none=>rw[hv]at h;cases h
 |some v=>rw[hv]at h;exact H4 h<|zj hv hl
def wY{a:J}(h:pd cx σ x=Z ⟨.i,a⟩)(hl:Xd P vs env S w cx σ x):ev env x=.int .i64 a/\K8 a:=zm0<|aL h hl
def xO{a:K}(h:pd cx σ x=Z ⟨.u,a⟩)(hl:Xd P vs env S w cx σ x):ev env x=.int .u64 (a:J)/\au a:=zeD<|aL h hl
def Vy{a:K}(h:pd cx σ x=Z ⟨.ch,a⟩)(hl:Xd P vs env S w cx σ x):ev env x=.int .u8 (a:J)/\a<256:=zo4<|aL h hl
def zef{a:N K}(h:pd cx σ x=Z ⟨.tx,a⟩)(hl:Xd P vs env S w cx σ x):∃s:Xs,ev env x=.string s/\xa s=a/\s.size<=9223372036854775807:=CW<|aL h hl
def zkF{a:v6}(h:pd cx σ x=Z ⟨.b,a⟩)(hl:Xd P vs env S w cx σ x):ev env x=.bool a:=rN<|aL h hl
def zfn{v:V Dv}{t:Ty}{k:t.D->V R}(h:BO v t k=Z r):∃y:t.D,k y=Z r/\∀(P:jP) vs S w (d:Dv) u,v=Z d->(wV P vs d u).p S w->(fV t.rep y u).p S w:=by
 unfold BO at h;split at h
 ·next=>
  cases t<;>simp only[Ws]at h;exact⟨_,h,λP vs S w d u hd a=>by cases hd;rw[show u=_ from a];exact zfl⟩
 ·next=>
  cases t<;>simp only[Ws]at h
  ·exact⟨_,h,λP vs S w d u hd a=>by cases hd;rw[show u=_ from a];exact zph⟩
  ·exact⟨_,h,λP vs S w d u hd a=>by cases hd;rw[show u=_ from a];exact zqk⟩
 ·next=>
  cases t<;>simp only[Ws]at h;exact⟨_,h,λP vs S w d u hd a=>by cases hd;rw[show u=_ from a];exact zps⟩
 ·next s y=>
  cases t<;>simp only[Ws]at h
  ·have⟨e,h⟩:=z7 h;subst e;exact⟨_,h,λP vs S w d u hd a=>by cases hd;exact zp0 a⟩
  ·have⟨e,h⟩:=z7 h;subst e;exact⟨_,h,λP vs S w d u hd a=>by cases hd;exact zpo a⟩
 ·next b hv _ _=>
  split at h
  ·next p hp=>
   have⟨e,h⟩:=z7 h;subst e;exact⟨_,h,λP vs S w d u hd a=>by cases hd;exact H4 hp a⟩
  ·cases h
 ·cases h
def VB{t:Ty}{k:t.D->V R}(h:BO (xo cx σ x) t k=Z r):∃y:t.D,k y=Z r/\∀(P:jP) vs env S w,Xd P vs env S w cx σ x->(fV t.rep y<|ev env x).p S w:=by
 have⟨y,h1,a⟩:=zfn h;refine⟨y,h1,λP vs env S w hl=> ?_⟩
 cases hv:xo cx σ x with
 |none=>rw[hv]at h;cases h
 |some v=>exact a P vs S w v _ hv<|zj hv hl
def zF{o:ut}{l:N (K×Dv)}(h:∀env w S vs,(∀t∈yN o.op,Lk P vs env S w cx σ t)->∃v,(jp (ev env) o).run P w=.ok (.value v) w/\∀e∈l,(vX P vs e.2 v e.1).p S w):ES P o cx σ F l:=by
 intro env w S vs b c hl;have⟨v,h1,a⟩:=h env w S vs hl;exact ur.of_value h1 ⟨yv.refl _ _,a⟩
def zt{v:wN}{dv:Dv}(h:(wV P vs dv v).p S w):∀e∈[(0,dv)],(vX P vs e.2 v e.1).p S w:=by
 intro e a;rw[xad]at a;subst a;exact h
def kj{o:ut}{l:N (K×Dv)}(h:∀env w S vs,yT S (MS vs σ.ob++(MS vs cx.ob++F)) w->(∀t∈yN o.op,Lk P vs env S w cx σ t)->∃(U:Type) (b:U->wN) (a:U->N FF) (ok:U->Prop) (Γ:N FF) (ms:N MF),
 MJ P o env ms Γ b a ok/\yT S ms w/\zE S Γ w/\∀u w',ok u->zE S (a u) w'->∀e∈l,(vX P vs e.2 (b u) e.1).p S w'):ES P o cx σ F l:=by
 intro env w S vs c f hl;have⟨U,b,a,ok,Γ,ms,h1,i,j,k⟩:=h env w S vs f hl;refine(h1 w S c i j).mono ?_;simp_all
def Sd:∀(f i:K) (t:K) (e:K×Dv),e∈zj5 cx σ t f i->get cx σ t e.1=Z e.2
 |0,_,_,_,h=>wS h H1
 |f+1,i,t,e,h=>by
  unfold zj5 at h;split at h
  ·next d hd=>
   obtain rfl|h:=xag.1 h
   ·exact hd
   ·exact Sd f (i+1) t e h
  ·simp_all
def zhI{a:Op}(b:a=.move x\/a=.assign x){k:N (K×Dv)->V R}(h:zcf cx σ x k=Z r):∃l,k l=Z r/\ES P ⟨d,a,ty,pos,aft,g⟩ cx σ F l:=by
 have c:∀env w,(jp (ev env) ⟨d,a,ty,pos,aft,g⟩).run P w=.ok (.value<|ev env x) w:=λenv w=>by obtain rfl|rfl:=b<;>exact du O w
 have f:x∈a.operands.toList:=by obtain rfl|rfl:=b<;>simp[xaB]
 unfold zcf at h;split at h
 ·next v hv=>exact⟨_,h,zF λenv w S vs hl=>⟨_,c env w,zt<|zj hv<|yA hl f⟩⟩
 ·unfold zos at h;split at h
  ·next t j=>
   split at h
   ·cases h
   ·next l0 l m=>
    exact⟨_,h,zF λenv w S vs hl=>⟨_,c env w,λe i=>yA hl f t O _ _<|Sd _ _ _ _ i⟩⟩
  ·cases h
def zqo{i:K}{k:N (K×Dv)->V R}(h:zn5 cx σ x i k=Z r):∃l,k l=Z r/\ES P ⟨d,.extract x i,ty,pos,aft,g⟩ cx σ F l:=by
 unfold zn5 at h;split at h
 ·next t=>
  split at h
  ·next v hv=>
   refine⟨_,h,?_⟩;intro env w S vs c e hl;have⟨us,u,h1,a,b⟩:=yA hl (x:=.tmp t) (by simp[xaB]) t O (i+1) v hv;exact ur.of_value (du (by simp only[pv,ev,h1];exact a) w) ⟨yv.refl _ _,zt b⟩
  ·cases h
 ·cases h
theorem mv1{k:N (K×Dv)->V R}(h:zi6 cx σ x k=Z r):∃v,xo cx σ x=Z v/\k [(0,v)]=Z r:=by grind [zi6]
def znZ{c:wW}{k:N (K×Dv)->V R}(h:zik cx σ c x y k=Z r):∃l,k l=Z r/\ES P ⟨d,.pick c x y,ty,pos,aft,g⟩ cx σ F l:=by
 unfold zik at h;split at h
 ·next hc=>
  have⟨v,hv,h⟩:=mv1 h;exact⟨_,h,zF λenv w S vs hl=>⟨_,zkV (zj hc<|yA hl<|by simp[xaB]) O w,zt<|zj hv<|yA hl<|by simp[xaB]⟩⟩
 ·next hc=>
  have⟨v,hv,h⟩:=mv1 h;exact⟨_,h,zF λenv w S vs hl=>⟨_,zi0 (zj hc<|yA hl<|by simp[xaB]) O w,zt<|zj hv<|yA hl<|by simp[xaB]⟩⟩
 ·cases h
def zoA{k:N (K×Dv)->V R}(h:znM cx σ x k=Z r):∃l,k l=Z r/\ES P ⟨d,.unOp .not t x,ty,pos,aft,g⟩ cx σ F l:=by
 unfold znM at h;split at h
 ·next b hb=>exact⟨_,h,zF λenv w S vs hl=>⟨_,zlQ (zj hb<|yA hl<|by simp[xaB]) w,zt<|by exact O⟩⟩
 ·next b hb=>exact⟨_,h,zF λenv w S vs hl=>⟨_,zlQ (rN<|zj hb<|yA hl<|by simp[xaB]) w,zt<|by exact BR⟩⟩
 ·cases h
def zpu{k:N (K×Dv)->V R}(h:zmF cx σ x k=Z r):∃l,k l=Z r/\ES P ⟨d,.unOp .neg t x,ty,pos,aft,g⟩ cx σ F l:=by
 unfold zmF at h;split at h
 ·next a c=>
  have⟨z,b,e,h⟩:=JM h;exact⟨_,h,zF λenv w S vs hl=>⟨_,zlp (wY c<|yA hl<|by simp[xaB]).1 (w_x b e) w,zt<|wB e⟩⟩
 ·next a c=>
  have⟨z,b,h⟩:=xI h;exact⟨_,h,zF λenv w S vs hl=>by
   have⟨h1,f⟩:=xO c (yA hl<|by simp[xaB]);exact⟨_,zlp h1 (iW b<|znv f) w,zt<|jB<|VM b⟩⟩
 ·cases h
theorem N6{p:Prop}[WL p]{k:N (K×Dv)->V R}(h:(if p then k [(0,.kb I)]else k [(0,.kb wL)])=Z r):k [(0,.kb<|decide p)]=Z r:=by grind
theorem kbN{p:Prop}[WL p]{k:N (K×Dv)->V R}(h:(if p then k [(0,.kb wL)]else k [(0,.kb I)])=Z r):k [(0,.kb (!decide p))]=Z r:=by grind
def zro{n:V0}{a c:J}{k:N (K×Dv)->V R}(h:arI n a c (λv=>k [(0,v)])=Z r)(e:pd cx σ x=Z ⟨.i,a⟩)(hc:pd cx σ y=Z ⟨.i,c⟩):
 ∃l,k l=Z r/\ES P ⟨d,.binOp n t x y yt,ty,pos,aft,g⟩ cx σ F l:=by
 have f:∀{vs env S w},(∀o∈yN (.binOp n t x y yt),Lk P vs env S w cx σ o)->Xd P vs env S w cx σ x:=λhl=>yA hl (by simp[xaB]);have j:∀{vs env S w},(∀o∈yN (.binOp n t x y yt),Lk P vs env S w cx σ o)->Xd P vs env S w cx σ y:=λhl=>yA hl (by simp[xaB]);cases n<;>simp only[arI,Ws]at h
 case add=>have⟨z,b,m,h⟩:=JM h;exact⟨_,h,zF λenv w S vs hl=>⟨_,Ev (wY e<|f hl).1 (wY hc<|j hl).1 (w_x b m) w,zt<|wB m⟩⟩
 case sub=>have⟨z,b,m,h⟩:=JM h;exact⟨_,h,zF λenv w S vs hl=>⟨_,zfg (wY e<|f hl).1 (wY hc<|j hl).1 (w_x b m) w,zt<|wB m⟩⟩
 case mul=>have⟨z,b,m,h⟩:=JM h;exact⟨_,h,zF λenv w S vs hl=>⟨_,zla (wY e<|f hl).1 (wY hc<|j hl).1 (w_x b m) w,zt<|wB m⟩⟩
 case quo=>have⟨h0,h⟩:=Zm h;have⟨z,b,m,h⟩:=JM h;exact⟨_,h,zF λenv w S vs hl=>⟨_,zlM (wY e<|f hl).1 (wY hc<|j hl).1 h0 (w_x b m) w,zt<|wB m⟩⟩
 case rem=>have⟨h0,h⟩:=Zm h;have⟨z,b,h⟩:=xI h;exact⟨_,h,zF λenv w S vs hl=>⟨_,zle (wY e<|f hl).1 (wY hc<|j hl).1 h0 b.symm w,zt<|wB<|znN (wY e<|f hl).2 b⟩⟩
 case and=>have⟨z,b,h⟩:=xI h;exact⟨_,h,zF λenv w S vs hl=>⟨_,zlx (wY e<|f hl).1 (wY hc<|j hl).1 (zk1.trans b.symm) w,zt<|wB<|zf9 b<|zmM _ _⟩⟩
 case or=>have⟨z,b,h⟩:=xI h;exact⟨_,h,zF λenv w S vs hl=>⟨_,zp8 (wY e<|f hl).1 (wY hc<|j hl).1 (zmD.trans b.symm) w,zt<|wB<|zf9 b<|zoP _ _⟩⟩
 case shr=>have⟨h0,h⟩:=Zm h;have⟨z,b,h⟩:=xI h;exact⟨_,h,zF λenv w S vs hl=>⟨_,ED (wY e<|f hl).1 (wY hc<|j hl).1 h0 b.symm w,zt<|wB<|zeO (wY e<|f hl).2 b⟩⟩
 case shl=>have⟨h0,h⟩:=Zm h;have⟨z,b,m,h⟩:=JM h;exact⟨_,h,zF λenv w S vs hl=>⟨_,zct (wY e<|f hl).1 (wY hc<|j hl).1 h0 (w_x b m) w,zt<|wB m⟩⟩
 case lss=>exact⟨[(0,.kb<|decide<|a<c)],N6 h,zF λenv w S vs hl=>⟨_,zhs (wY e<|f hl).1 (wY hc<|j hl).1 w,zt<|by exact O⟩⟩
 case leq=>exact⟨[(0,.kb<|decide<|a<=c)],N6 h,zF λenv w S vs hl=>⟨_,zfJ (wY e<|f hl).1 (wY hc<|j hl).1 w,zt<|by exact O⟩⟩
 case gtr=>exact⟨[(0,.kb<|decide<|c<a)],N6 h,zF λenv w S vs hl=>⟨_,zfI (wY e<|f hl).1 (wY hc<|j hl).1 w,zt<|by exact O⟩⟩
 case geq=>exact⟨[(0,.kb<|decide<|c<=a)],N6 h,zF λenv w S vs hl=>⟨_,zga (wY e<|f hl).1 (wY hc<|j hl).1 w,zt<|by exact O⟩⟩
 case eql=>exact⟨[(0,.kb<|decide<|a=c)],N6 h,zF λenv w S vs hl=>⟨_,ziq (wY e<|f hl).1 (wY hc<|j hl).1 w,zt<|by exact O⟩⟩
 case neq=>exact⟨[(0,.kb (!decide (a=c)))],kbN h,zF λenv w S vs hl=>⟨_,zh9 (wY e<|f hl).1 (wY hc<|j hl).1 w,zt<|by exact O⟩⟩
def zrd{bo:V0}{a c:K}{k:N (K×Dv)->V R}(h:(match bo with
 |.shr=>zdy .shr a c<|λv=>k [(0,v)]
 |.shl=>zdy .shl a c<|λv=>k [(0,v)]
 |bo=>arU bo a c<|λv=>k [(0,v)])=Z r) (e:pd cx σ x=Z ⟨.u,a⟩) (hc:pd cx σ y=Z ⟨.u,c⟩):
 ∃l,k l=Z r/\ES P ⟨d,.binOp bo t x y yt,ty,pos,aft,g⟩ cx σ F l:=by
 have f:∀{vs env S w},(∀j∈yN (.binOp bo t x y yt),Lk P vs env S w cx σ j)->Xd P vs env S w cx σ x:=λhl=>yA hl (by simp[xaB]);have i:∀{vs env S w},(∀j∈yN (.binOp bo t x y yt),Lk P vs env S w cx σ j)->Xd P vs env S w cx σ y:=λhl=>yA hl (by simp[xaB]);split at h
 ·simp only[zdy]at h;have⟨z,b,h⟩:=xI h;exact⟨_,h,zF λenv w S vs hl=>⟨_,ED (xO e<|f hl).1 (xO hc<|i hl).1 (xdg _) (zeh b ph) w,zt<|jB<|EO (xO e<|f hl).2 b⟩⟩
 ·simp only[zdy]at h;have⟨z,b,h⟩:=xI h;exact⟨_,h,zF λenv w S vs hl=>⟨_,zct (xO e<|f hl).1 (xO hc<|i hl).1 (xdg _) (iW b zcv) w,zt<|jB<|VM b⟩⟩
 ·next m hd=>
  cases bo<;>simp only[arU,Ws]at h
  case add=>have⟨z,b,h⟩:=xI h;exact⟨_,h,zF λenv w S vs hl=>⟨_,Ev (xO e<|f hl).1 (xO hc<|i hl).1 (iW b ziM) w,zt<|jB<|VM b⟩⟩
  case sub=>have⟨z,b,h⟩:=xI h;exact⟨_,h,zF λenv w S vs hl=>⟨_,zfg (xO e<|f hl).1 (xO hc<|i hl).1 (iW b<|ziV<|xdw (xO hc<|i hl).2) w,zt<|jB<|VM b⟩⟩
  case mul=>have⟨z,b,h⟩:=xI h;exact⟨_,h,zF λenv w S vs hl=>⟨_,zla (xO e<|f hl).1 (xO hc<|i hl).1 (iW b zja) w,zt<|jB<|VM b⟩⟩
  case quo=>have⟨h0,h⟩:=Zm h;have⟨z,b,h⟩:=xI h;exact⟨_,h,zF λenv w S vs hl=>⟨_,zlM (xO e<|f hl).1 (xO hc<|i hl).1 (zoB h0) (iW b<|zdN (xO e<|f hl).2) w,zt<|jB<|EO (xO e<|f hl).2 b⟩⟩
  case rem=>have⟨h0,h⟩:=Zm h;have⟨z,b,h⟩:=xI h;exact⟨_,h,zF λenv w S vs hl=>⟨_,zle (xO e<|f hl).1 (xO hc<|i hl).1 (zoB h0) (zeh b zpE) w,zt<|jB<|zmw (xO e<|f hl).2 b⟩⟩
  case and=>have⟨z,b,h⟩:=xI h;exact⟨_,h,zF λenv w S vs hl=>⟨_,zlx (xO e<|f hl).1 (xO hc<|i hl).1 (iW b<|zj1 (xO e<|f hl).2 (xO hc<|i hl).2) w,zt<|jB<|zj6 b<|rZ (xO e<|f hl).2⟩⟩
  case or=>have⟨z,b,h⟩:=xI h;exact⟨_,h,zF λenv w S vs hl=>⟨_,zp8 (xO e<|f hl).1 (xO hc<|i hl).1 (iW b<|znT (xO e<|f hl).2 (xO hc<|i hl).2) w,zt<|jB<|zj6 b<|Cl (xO e<|f hl).2 (xO hc<|i hl).2⟩⟩
  case xor=>have⟨z,b,h⟩:=xI h;exact⟨_,h,zF λenv w S vs hl=>⟨_,zoF (xO e<|f hl).1 (xO hc<|i hl).1 (iW b<|zkC (xO e<|f hl).2 (xO hc<|i hl).2) w,zt<|jB<|zj6 b<|Rh (xO e<|f hl).2 (xO hc<|i hl).2⟩⟩
  case lss=>exact⟨[(0,.kb<|decide<|(a:J)<(c:J))],N6 h,zF λenv w S vs hl=>⟨_,zhs (xO e<|f hl).1 (xO hc<|i hl).1 w,zt<|by exact O⟩⟩
  case leq=>exact⟨[(0,.kb<|decide<|(a:J)<=(c:J))],N6 h,zF λenv w S vs hl=>⟨_,zfJ (xO e<|f hl).1 (xO hc<|i hl).1 w,zt<|by exact O⟩⟩
  case gtr=>exact⟨[(0,.kb<|decide<|(c:J)<(a:J))],N6 h,zF λenv w S vs hl=>⟨_,zfI (xO e<|f hl).1 (xO hc<|i hl).1 w,zt<|by exact O⟩⟩
  case geq=>exact⟨[(0,.kb<|decide<|(c:J)<=(a:J))],N6 h,zF λenv w S vs hl=>⟨_,zga (xO e<|f hl).1 (xO hc<|i hl).1 w,zt<|by exact O⟩⟩
  case eql=>exact⟨[(0,.kb<|decide<|(a:J)=(c:J))],N6 h,zF λenv w S vs hl=>⟨_,ziq (xO e<|f hl).1 (xO hc<|i hl).1 w,zt<|by exact O⟩⟩
  case neq=>exact⟨[(0,.kb (!decide ((a:J)=(c:J))))],kbN h,zF λenv w S vs hl=>⟨_,zh9 (xO e<|f hl).1 (xO hc<|i hl).1 w,zt<|by exact O⟩⟩
def zrr{e:V0}{a:K}{c:J}{k:N (K×Dv)->V R}(h:shU e a c (λv=>k [(0,v)])=Z r)(f:pd cx σ x=Z ⟨.u,a⟩)(hc:pd cx σ y=Z ⟨.i,c⟩):
 ∃l,k l=Z r/\ES P ⟨d,.binOp e t x y yt,ty,pos,aft,g⟩ cx σ F l:=by
 have j:∀{vs env S w},(∀m∈yN (.binOp e t x y yt),Lk P vs env S w cx σ m)->Xd P vs env S w cx σ x:=λhl=>yA hl (by simp[xaB]);have n:∀{vs env S w},(∀m∈yN (.binOp e t x y yt),Lk P vs env S w cx σ m)->Xd P vs env S w cx σ y:=λhl=>yA hl (by simp[xaB]);unfold shU at h;split at h
 ·have⟨h0,h⟩:=Zm h;have⟨z,b,h⟩:=xI h;exact⟨_,h,zF λenv w S vs hl=>⟨_,ED (xO f<|j hl).1 (wY hc<|n hl).1 h0 (zeh b ph) w,zt<|jB<|EO (xO f<|j hl).2 b⟩⟩
 ·have⟨h0,h⟩:=Zm h;have⟨z,b,h⟩:=xI h;exact⟨_,h,zF λenv w S vs hl=>⟨_,zct (xO f<|j hl).1 (wY hc<|n hl).1 h0 (iW b zcv) w,zt<|jB<|VM b⟩⟩
 ·cases h
def zrg{b:V0}{a:J}{c:K}{k:N (K×Dv)->V R}(h:shI b a c (λv=>k [(0,v)])=Z r)(f:pd cx σ x=Z ⟨.i,a⟩)(hc:pd cx σ y=Z ⟨.u,c⟩):
 ∃l,k l=Z r/\ES P ⟨d,.binOp b t x y yt,ty,pos,aft,g⟩ cx σ F l:=by
 have j:∀{vs env S w},(∀m∈yN (.binOp b t x y yt),Lk P vs env S w cx σ m)->Xd P vs env S w cx σ x:=λhl=>yA hl (by simp[xaB]);have n:∀{vs env S w},(∀m∈yN (.binOp b t x y yt),Lk P vs env S w cx σ m)->Xd P vs env S w cx σ y:=λhl=>yA hl (by simp[xaB]);unfold shI at h;split at h
 ·have⟨z,e,h⟩:=xI h;exact⟨_,h,zF λenv w S vs hl=>⟨_,ED (wY f<|j hl).1 (xO hc<|n hl).1 (xdg _) e.symm w,zt<|wB<|zeO (wY f<|j hl).2 e⟩⟩
 ·have⟨z,e,o,h⟩:=JM h;exact⟨_,h,zF λenv w S vs hl=>⟨_,zct (wY f<|j hl).1 (xO hc<|n hl).1 (xdg _) (w_x e o) w,zt<|wB o⟩⟩
 ·cases h
def zrI{e:V0}{a c:v6}{j:v6}{k:N (K×Dv)->V R}(h:jb j (eqB e a c<|λv=>k [(0,v)])=Z r)(m:pd cx σ x=Z ⟨.b,a⟩)(hc:pd cx σ y=Z ⟨.b,c⟩)(n:j=I->P.underlying t=Z .bool):
 ∃l,k l=Z r/\ES P ⟨d,.binOp e t x y yt,ty,pos,aft,g⟩ cx σ F l:=by
 have o:∀{vs env S w},(∀f∈yN (.binOp e t x y yt),Lk P vs env S w cx σ f)->Xd P vs env S w cx σ x:=λhl=>yA hl (by simp[xaB]);have p:∀{vs env S w},(∀f∈yN (.binOp e t x y yt),Lk P vs env S w cx σ f)->Xd P vs env S w cx σ y:=λhl=>yA hl (by simp[xaB]);have⟨hd,h⟩:=z6 h;unfold eqB at h;split at h
 ·have⟨z,i,h⟩:=xI h;exact⟨_,h,zF λenv w S vs hl=>⟨_,zgT (zqv (n hd) (zkF m<|o hl)<|zkF hc<|p hl) i w,zt BR⟩⟩
 ·have⟨z,i,h⟩:=xI h;exact⟨_,h,zF λenv w S vs hl=>⟨_,zgT (zpt (n hd) (zkF m<|o hl)<|zkF hc<|p hl) i w,zt BR⟩⟩
 ·cases h
def NJ(x:J):xfR.wrap x=x%256:=by
 rfl
def zn3{a b:K}:xfR.wrap ((a:J)+(b:J))=(((a+b)%256:K):J):=by rw[NJ];lia
def znS{a b:K}(h:b<=256):xfR.wrap ((a:J)-(b:J))=(((a+256-b)%256:K):J):=by rw[NJ];lia
def zhq{n z:K}(h:z=n%256):z<256:=by rw[h];exact xaM _ iI
def zru{i:V0}{a c:K}{k:N (K×Dv)->V R}(h:arC i a c (λv=>k [(0,v)])=Z r)(e:pd cx σ x=Z ⟨.ch,a⟩)(hc:pd cx σ y=Z ⟨.ch,c⟩):
 ∃l,k l=Z r/\ES P ⟨d,.binOp i t x y yt,ty,pos,aft,g⟩ cx σ F l:=by
 have f:∀{vs env S w},(∀m∈yN (.binOp i t x y yt),Lk P vs env S w cx σ m)->Xd P vs env S w cx σ x:=λhl=>yA hl (by simp[xaB]);have b:∀{vs env S w},(∀m∈yN (.binOp i t x y yt),Lk P vs env S w cx σ m)->Xd P vs env S w cx σ y:=λhl=>yA hl (by simp[xaB]);cases i<;>simp only[arC,Ws]at h
 case add=>have⟨z,j,h⟩:=xI h;exact⟨_,h,zF λenv w S vs hl=>⟨_,Ev (Vy e<|f hl).1 (Vy hc<|b hl).1 (iW j zn3) w,zt<|HH<|zhq j⟩⟩
 case sub=>have⟨z,j,h⟩:=xI h;exact⟨_,h,zF λenv w S vs hl=>⟨_,zfg (Vy e<|f hl).1 (Vy hc<|b hl).1 (iW j<|znS<|xdw (Vy hc<|b hl).2) w,zt<|HH<|zhq j⟩⟩
 case lss=>exact⟨[(0,.kb<|decide<|(a:J)<(c:J))],N6 h,zF λenv w S vs hl=>⟨_,zhs (Vy e<|f hl).1 (Vy hc<|b hl).1 w,zt<|by exact O⟩⟩
 case leq=>exact⟨[(0,.kb<|decide<|(a:J)<=(c:J))],N6 h,zF λenv w S vs hl=>⟨_,zfJ (Vy e<|f hl).1 (Vy hc<|b hl).1 w,zt<|by exact O⟩⟩
 case gtr=>exact⟨[(0,.kb<|decide<|(c:J)<(a:J))],N6 h,zF λenv w S vs hl=>⟨_,zfI (Vy e<|f hl).1 (Vy hc<|b hl).1 w,zt<|by exact O⟩⟩
 case geq=>exact⟨[(0,.kb<|decide<|(c:J)<=(a:J))],N6 h,zF λenv w S vs hl=>⟨_,zga (Vy e<|f hl).1 (Vy hc<|b hl).1 w,zt<|by exact O⟩⟩
 case eql=>exact⟨[(0,.kb<|decide<|(a:J)=(c:J))],N6 h,zF λenv w S vs hl=>⟨_,ziq (Vy e<|f hl).1 (Vy hc<|b hl).1 w,zt<|by exact O⟩⟩
 case neq=>exact⟨[(0,.kb (!decide ((a:J)=(c:J))))],kbN h,zF λenv w S vs hl=>⟨_,zh9 (Vy e<|f hl).1 (Vy hc<|b hl).1 w,zt<|by exact O⟩⟩
theorem Hy{s u:Xs}:(s.toList==u.toList)=decide (xa s=xa u):=by
 rw[ByteArray.toList_eq,ByteArray.toList_eq];unfold xa;by_cases h:s.data.toList=u.data.toList
 ·grind
 ·have a:=λe=>h (List.map_inj_right (λx y=>UInt8.toNat_inj.1)|>.1 e);simp_all
def CA(s u:Xs):xa (s++u)=xa s++xa u:=by
 unfold xa;simp
def zfN{s u:Xs}(h:X (xa s)+X (xa u)<=9223372036854775807)(w:wP):(Op.stringOp .add s u).run P w=.ok (.string<|s++u) w:=by
 rw[wG,wG]at h;have a:¬(((s.size+u.size:K):J)>xcY.max):=by
  have:xcY.max=9223372036854775807:=O;lia
 unfold Op.stringOp;simp_all
def zqi{f:V0}{a c:N K}{k:N (K×Dv)->V R}(h:eqT f a c (λv=>k [(0,v)])=Z r)(j:pd cx σ x=Z ⟨.tx,a⟩)(hc:pd cx σ y=Z ⟨.tx,c⟩):
 ∃l,k l=Z r/\ES P ⟨d,.binOp f t x y yt,ty,pos,aft,g⟩ cx σ F l:=by
 have m:∀{vs env S w},(∀n∈yN (.binOp f t x y yt),Lk P vs env S w cx σ n)->Xd P vs env S w cx σ x:=λhl=>yA hl (by simp[xaB]);have o:∀{vs env S w},(∀n∈yN (.binOp f t x y yt),Lk P vs env S w cx σ n)->Xd P vs env S w cx σ y:=λhl=>yA hl (by simp[xaB]);cases f<;>simp only[eqT,Ws]at h
 case add=>
  have⟨h0,h⟩:=Zm h;have⟨z,q,h⟩:=xI h;refine⟨_,h,zF λenv w S vs hl=> ?_⟩;have⟨s,e1,b,_⟩:=zef j<|m hl;have⟨u,i,e,_⟩:=zef hc<|o hl;have p:X (xa s)+X (xa u)<=9223372036854775807:=by rw[b,e];exact h0
  refine⟨.string<|s++u,?_,zt<|RQ (by rw[CA,b,e];exact q.symm)<|by rw[<-wG,CA,xaq];exact p⟩;simp[jp,e1,i,WD,binOp_string_add,zfN (P:=P) p w]
 case eql=>
  refine⟨[(0,.kb<|decide<|a=c)],N6 h,zF λenv w S vs hl=> ?_⟩;have⟨s,e1,b,_⟩:=zef j<|m hl;have⟨u,i,e,_⟩:=zef hc<|o hl;refine⟨.bool<|decide<|a=c,?_,zt<|by exact O⟩;rw[<-b,<-e,<-Hy];simp[jp,e1,i,WD,binOp_string_eql]
 case neq=>
  refine⟨[(0,.kb (!decide (a=c)))],kbN h,zF λenv w S vs hl=> ?_⟩;have⟨s,e1,b,_⟩:=zef j<|m hl;have⟨u,i,e,_⟩:=zef hc<|o hl;refine⟨.bool (!decide (a=c)),?_,zt<|by exact O⟩;rw[<-b,<-e,<-Hy];simp[jp,e1,i,WD,binOp_string_neq]
def bop{e:v6}{f:V0}{k:N (K×Dv)->V R}(h:zl8 e f (pd cx σ x) (pd cx σ y) (λv=>k [(0,v)])=Z r)(i:e=I->P.underlying t=Z .bool):
 ∃l,k l=Z r/\ES P ⟨d,.binOp f t x y yt,ty,pos,aft,g⟩ cx σ F l:=by
 unfold zl8 at h;split at h
 ·next a c b hc=>exact zro h b hc
 ·next a c b hc=>exact zrd h b hc
 ·next a c b hc=>exact zrr h b hc
 ·next a c b hc=>exact zrg h b hc
 ·next a c b hc=>exact zrI h b hc i
 ·next a c b hc=>exact zru h b hc
 ·next a c b hc=>exact zqi h b hc
 ·cases h
end
end
section
def Pg{S:K->Prop}{w:wP}:∀l:N UInt8,yP N7 S (l.map xfn) (l.map λb=>Value.int .u8 b.toNat) w
 |[]=>rfl
 |b::l=>⟨[_],_,O,⟨O,b.toNat_lt⟩,Pg l⟩
section
variable{P:jP}{ms:xS MF}{Γ:xS FF}{env:y4}{d:ww Z4}{ty s t:wT}{pos:String}{aft:ul Edge}{g:ww (wr×v6)}{x:wW}
def zfZ{E:wT}{b:Xs}(a:P.underlying s=Z .string)(c:P.underlying t=Z (.slice E))(e:P.underlying E=Z (.int .u8))(f:ev env x=.string b)(i:b.size<=9223372036854775807):
 MJ P ⟨d,.convert s t x,ty,pos,aft,g⟩ env ms Γ (λv:wN=>v) (λv=>[fV (eS N7) (xa b) v]) (λ_=>Z5):=by
 intro w S l _ m;have n:J4 w (Lib.bytesWorld w E b):=⟨O,O,O,by rw[Lib.bytesWorld_size];lia,λk o _=>Lib.bytesWorld_at_old w E b k o⟩;refine ur.of_value (v:=.slice (Z ⟨w.heap.size,0,wF⟩) b.size<|V5 w b.size 0 E) (by simp[jp,f,Lib.run_convert_string_bytes w s t E b a c e]) ⟨_,O,wR,n,⟨xC.2 ⟨Z ⟨w.heap.size,0,wF⟩,V5 w b.size 0 E,by rw[wG],by rw[wG];exact ge w b.size 0 E,UT w b.size 0 E (by unfold Ww;exact i),.inr ⟨_,_,_,O,l.up _<|IR _,?_,Pg b.data.toList⟩⟩,wR⟩⟩;refine⟨by rw[Lib.bytesWorld_size];exact xdj _,λj v hv=> ?_⟩;have⟨p,hv⟩:=xax.1 hv;have q:j<b.size:=by simpa using p
 have h:=Lib.bytesWorld_cell w E b j q;simp_all
end
end
section
section
variable{P:jP}{cf:Cf}{cx σ:Sg}{F:xS MF}{vs:wr->wN}{env:y4}{S:wr->Prop}{w:wP}{R:Type}{r:R}
 {d:ww Z4}{ty t yt:wT}{pos:String}{aft:ul Edge}{g:ww (wr×v6)}{x y:wW}
def VZ{s:wT}{q:Ty}{k:Z9}{B:K}(a:yZ P cf.tt)(h:Zx cf s=Z ⟨q,.int k,B⟩):P.underlying s=Z (.int k):=(a _ _ h).2.2.2
def vV{s E:wT}{q:Ty}{B:K}(a:yZ P cf.tt)(h:Zx cf s=Z ⟨q,.sl E,B⟩):P.underlying s=Z (.slice E):=(a _ _ h).2.2.2.1
def tF{s:wT}{q:Ty}{B:K}(a:yZ P cf.tt)(h:Zx cf s=Z ⟨q,.str,B⟩):P.underlying s=Z .string:=(a _ _ h).2.2.2
def zkw(a:yZ P cf.tt):isB cf t=I->P.underlying t=Z .bool:=by
 intro h;unfold isB at h;split at h
 ·next q B b=>exact(a _ _ b).2.2.2
 ·cases h
theorem K0{s E:wT}{e:Ty}{B:K}(b:yZ P cf.tt)(c:uz P cf.tt)(h:Zx cf s=Z ⟨.l e,.sl E,B⟩):∃bytes a,Ja P E e.rep.agg e.rep.n bytes a:=by
 obtain⟨f,h1,rfl⟩:=c _ _ _ _ h;have⟨⟨a,i,_⟩,_⟩:=b _ _ h1;grind
theorem Z8{b:TI}(c:yZ P cf.tt)(h:Zx cf t=Z b):∃a,Ja P t b.ty.rep.agg b.ty.rep.n b.B a/\a.cells.size=b.ty.rep.n/\∀S w,b.ty.rep.p S b.ty.z a.cells.toList w:=by
 have⟨a,h1,e,f,_⟩:=(c _ _ h).1;grind
def Tm{a:TI}{s:Ty}(e:yZ P cf.tt)(h:Zx cf t=Z a)(b:a.ty=.l s):Ja P t wL 1 a.B (.slice wF 0 0):=by
 have⟨c,h1,_,_,f⟩:=(e _ _ h).1;rw[f.1 s b,b]at h1;exact h1
def zpp{a:K}(h:a<256):K8 (a:J):=by unfold K8;lia
def zpd{a:K}(h:a<256):a<18446744073709551616:=W
def zrA{a:K}(h:a<256):xfR.wrap (a:J)=(a:J):=by rw[NJ];lia
def u_c{a:K}:xfR.wrap (a:J)=((a%256:K):J):=by rw[NJ];lia
def Pt{S:K->Prop}{w:wP}:∀{xs:N K}{cs:N wN},yP N7 S xs cs w->cs=xs.map (λx:K=>Value.int .u8 (x:J))/\∀x∈xs,x<256
 |[],cs,h=>⟨h,λx a=>wS a H1⟩
 |x::xs,cs,⟨c,r,h1,b,e⟩=>by
  have⟨e1,j⟩:=Pt e;have⟨f,i⟩:=b;refine⟨by rw[h1,f,e1];rfl,λy hy=> ?_⟩;obtain rfl|hy:=xag.1 hy
  ·exact i
  ·simp_all
def zmI{s t E:wT}{xs:N K}{v:wN}{S:K->Prop}{w:wP}(k:P.underlying s=Z (.slice E))(l:P.underlying E=Z (.int .u8))(m:P.underlying t=Z .string)(hv:(fV (eS N7) xs v).p S w):
 ∃u:Xs,(convert s t v).run P w=.ok (.string u) w/\xa u=xs/\u.size<=9223372036854775807:=by
 obtain⟨i,cap,rfl,G,z,h⟩:=xC.1 hv;have e:∀a,i=Z a->(∀x∈xs,x<256)->(∀j (c:j<X xs),w.cell? (a.add j)=Z (.int .u8 ((xs[j]:K):J)))->∃u:Xs,(convert s t (.slice i (X xs) cap)).run P w=.ok (.string u) w/\xa u=xs/\u.size<=9223372036854775807:=by
  rintro a rfl f c;have A:(xs.map xeU).map xfn=xs:=by
   rw[xcP];conv=>rhs;rw[<-List.map_id xs]
   exact xci λx hc=>UInt8.toNat_ofNat_of_lt'<|f x hc
  have n:=run_convert_bytes_back (P:=P) w s t E a cap (xs.map xeU) k l m (λj hd=>by
   have q:j<X xs:=by simpa using hd
   rw[c j q,List.getElem_map,UInt8.toNat_ofNat_of_lt'<|f _<|xcd q])
  rw[xaZ]at n;refine⟨_,n,by unfold xa;simpa using A,?_⟩;rw[<-wG];unfold xa;rw[xaZ];simp;unfold Ww at z;lia
 obtain rfl|⟨b,o,cs,rfl,_,B,C⟩:=h
 ·cases i with
  |some a=>exact e a O (λx f=>wS f H1)<|λj c=>wS c<|xbC _
  |none=>
   refine⟨ByteArray.empty,?_,O,iI⟩;rw[run_convert_bytes_string w s t E wF _ cap k l m];rfl
 ·have⟨e1,D⟩:=Pt C;refine e _ O D λj c=> ?_;have:=B.2 j (.int .u8 ((xs[j]:K):J)) (by rw[e1,xcu,xak c];rfl);rw[jq];exact this
def zpy(i:yZ P cf.tt){s t:wT}{k:N (K×Dv)->V R}(h:znw cf cx σ s t x k=Z r):∃l,k l=Z r/\ES P ⟨d,.convert s t x,ty,pos,aft,g⟩ cx σ F l:=by
 have f:∀{vs env S w},(∀A∈yN (.convert s t x),Lk P vs env S w cx σ A)->Xd P vs env S w cx σ x:=λhl=>yA hl (by simp[xaB]);unfold znw at h;split at h
 ·next q k1 B C o j=>
  have m:=VZ i o;have⟨D,U,Y⟩:=C;unfold zoS at h;split at h
  ·next a e c=>
   simp only at e;subst e;exact⟨_,h,zF λenv w S vs hl=>⟨_,V8 m (VZ i j) (wY c<|f hl).1 (w64 (wY c<|f hl).2) w,zt<|wB (wY c<|f hl).2⟩⟩
  ·next a e c=>
   simp only at e;subst e;exact⟨_,h,zF λenv w S vs hl=>⟨_,V8 m (VZ i j) (xO c<|f hl).1 (ib (xO c<|f hl).2) w,zt<|jB (xO c<|f hl).2⟩⟩
  ·next a e c=>
   simp only at e;subst e;have⟨z,n,h⟩:=xI h;exact⟨_,h,zF λenv w S vs hl=>⟨_,V8 m (VZ i j) (wY c<|f hl).1 (iW n<|zev _) w,zt<|jB<|zj6 n<|DV _⟩⟩
  ·next a e c=>
   simp only at e;subst e;have⟨z,n,h⟩:=xI h;exact⟨_,h,zF λenv w S vs hl=>⟨_,V8 m (VZ i j) (xO c<|f hl).1 ((Dk (xO c<|f hl).2).trans n.symm) w,zt<|wB<|zf9 n<|zfc (xO c<|f hl).2⟩⟩
  ·next a e c=>
   simp only at e;subst e;exact⟨_,h,zF λenv w S vs hl=>⟨_,V8 m (VZ i j) (Vy c<|f hl).1 (w64<|zpp (Vy c<|f hl).2) w,zt<|wB<|zpp (Vy c<|f hl).2⟩⟩
  ·next a e c=>
   simp only at e;subst e;exact⟨_,h,zF λenv w S vs hl=>⟨_,V8 m (VZ i j) (Vy c<|f hl).1 (ib<|zpd (Vy c<|f hl).2) w,zt<|jB<|zpd (Vy c<|f hl).2⟩⟩
  ·next a e c=>
   simp only at e;subst e;exact⟨_,h,zF λenv w S vs hl=>⟨_,V8 m (VZ i j) (Vy c<|f hl).1 (zrA (Vy c<|f hl).2) w,zt<|HH (Vy c<|f hl).2⟩⟩
  ·next a e c=>
   simp only at e;subst e;unfold chU at h;have⟨z,n,h⟩:=xI h;exact⟨_,h,zF λenv w S vs hl=>⟨_,V8 m (VZ i j) (xO c<|f hl).1 (iW n u_c) w,zt<|HH<|zhq n⟩⟩
  ·cases h
 ·next E B q G o j=>
  split at h
  ·next H p v=>
   have⟨xs,h,hd⟩:=VB h;refine⟨_,h,zF λenv w S vs hl=> ?_⟩;have⟨u,h1,J,L⟩:=zmI (vV i o) (VZ i v) (tF i j)<|hd P vs env S w<|f hl;exact⟨.string u,by simp[jp,h1],zt<|RQ J L⟩
  ·cases h
 ·next B E G o j=>
  split at h
  ·next H p xs v M=>
   refine⟨_,h,kj λenv w S vs hM hl=> ?_⟩;have⟨b,hv,hc,Q⟩:=CW<|aL M<|f hl;have hc:xa b=xs:=hc;subst hc;exact⟨_,_,_,_,[],[],zfZ (tF i o) (vV i j) (VZ i v) hv Q,wR,wR,λu w' _ T=>zt T.1⟩
  ·cases h
 ·cases h
def Sj{n:K}{k:K->V R}(h:atI cx σ x n k=Z r):∃j,j<n/\k j=Z r/\∀(P:jP) vs env S w,Xd P vs env S w cx σ x->∃ik,ev env x=.int ik (j:J):=by
 unfold atI at h;split at h
 ·next j a=>
  have⟨i,h1,b,h⟩:=zlJ h;exact⟨i,b,h,λP vs env S w hl=>⟨.i64,by rw[(wY a hl).1,h1]⟩⟩
 ·next j a=>
  have⟨i,h1,b,h⟩:=zlJ h;exact⟨i,b,h,λP vs env S w hl=>⟨.u64,by rw[(xO a hl).1,h1]⟩⟩
 ·cases h
def ab{x:V wW}{k:V K->V R}(h:N8 cx σ x k=Z r):
 (x=wF/\k wF=Z r)\/∃y j,x=Z y/\k (Z j)=Z r/\∀(P:jP) vs env S w,Xd P vs env S w cx σ y->ev env y=.int .i64 (j:J):=by
 unfold N8 at h;split at h
 ·simp_all
 ·next y=>
  split at h
  ·next j a=>
   have⟨i,h1,h⟩:=zby h;exact .inr ⟨y,i,O,h,λP vs env S w hl=>by rw[(wY a hl).1,h1]⟩
  ·cases h
def U9{α:Type}{e:zV α}{E:wT}{xs:N α}{v:wN}(h:(mO e E v xs).p S w)(h0:0<X xs):
 ∃b cap,v=.slice (Z ⟨b,0,wF⟩) (X xs) cap/\(mB (rowT e cap) E b xs).p S w:=by
 have⟨cs,h1,c⟩:=h;rcases h1.2 with⟨rfl,k⟩|⟨g,cap,a,rfl,hc,f,hd,l,i,j⟩
 ·lia
 ·exact⟨g,cap,O,a,f,cs,a.toList.drop<|X xs*e.n,by rw[<-j,xbA],c,by simpa using i⟩
def zfL{s E:wT}{q:Ty}{n B:K}(a:yZ P cf.tt)(h:Zx cf s=Z ⟨q,.ar n E,B⟩):P.underlying s=Z (.array n E):=(a _ _ h).2.2.2.2
theorem ziB{E:wT}{e:Ty}(b:yZ P cf.tt)(h:elA cf E e=I):∃bytes a,Ja P E e.rep.agg e.rep.n bytes a:=by
 unfold elA at h;split at h
 ·next c f=>
  cases i:Ty.same c.ty e with
  |none=>rw[i]at h;cases h
  |some p=>
   have⟨a,j,_⟩:=Z8 b f;rw[p.down]at j;grind
 ·cases h
def znj{n j:K}{e:Ty}(b:j<n):Fl.ok (.a n e) (zql n e j):=by
 intro z S w cs hp;have c:=hp;have:=Sub.nth n e.rep z j (xdS z j e.z) (getD_some e.z<|c.1▸b) S w cs hp;rw[e.n_rep]at this;exact this
def ziK(v:yZ P cf.tt)(Y:uz P cf.tt){k:N (K×Dv)->V R}(h:zap cf cx σ t x y k=Z r):∃l,k l=Z r/\ES P ⟨d,.indexAddr t x y,ty,pos,aft,g⟩ cx σ F l:=by
 have H:∀{vs env S w},(∀L∈yN (.indexAddr t x y),Lk P vs env S w cx σ L)->Xd P vs env S w cx σ x:=λhl=>yA hl (by simp[xaB]);have J:∀{vs env S w},(∀L∈yN (.indexAddr t x y),Lk P vs env S w cx σ L)->Xd P vs env S w cx σ y:=λhl=>yA hl (by simp[xaB]);unfold zap at h;split at h
 ·next e E B s xs m A=>
  have⟨M,h⟩:=z7 h;cases M;have⟨bytes,c,C⟩:=K0 v Y m;have⟨j,i,h,hc⟩:=Sj h;have⟨z,Q,h⟩:=xI h;refine⟨_,h,kj λenv w S vs T hl=> ?_⟩;have⟨ik,hd⟩:=hc P vs env S w<|J hl;exact⟨_,_,_,_,[fV (eS e.rep) xs<|ev env x],[],zeN (e:=e.rep) (xs:=xs) (k:=j) (y:=z) O hd (vV v m) C (zqe i Q)<|λS w h=>h.1,wR,⟨zj A<|H hl,wR⟩,λu w' _ U=>zt U.1⟩
 ·next e E B o m A=>
  split at h
  ·next s E' xs ho=>
   have⟨M,h⟩:=z7 h;cases M;have⟨bytes,c,C⟩:=K0 v Y m;have⟨j,i,h,hc⟩:=Sj h;refine⟨_,h,?_⟩;intro env w S vs hS T hl;have⟨ik,hd⟩:=hc P vs env S w<|J hl;have hm:(mO e.rep E' (vs o) xs).p S w:=Zk T ho;have⟨b,cap,hv,_⟩:=U9 hm<|xaK (xac _) i;have hk:ev env x=vs o:=zj A<|H hl;refine ur.of_value (Ca (vV v m) C (hk.trans hv) hd i w) ⟨yv.refl _ _,zt ?_⟩;exact⟨λz=>Sub.self e.rep z,b,_,_,hv,i,by simp[Fl.self]⟩
  ·cases h
 ·next q G E B n e xs m A=>
  have⟨D,h⟩:=z6 h;rw[xab]at D;have hn:=zY D.1;subst hn;have⟨bytes,c,C⟩:=ziB v D.2;have⟨j,i,h,hc⟩:=Sj h;have⟨z,Q,h⟩:=xI h;refine⟨_,h,kj λenv w S vs T hl=> ?_⟩;have⟨ik,hd⟩:=hc P vs env S w<|J hl;have hp:(fP (Ty.a G e).rep xs<|ev env x).p S w:=zj A<|H hl;have⟨_,_,_,_,_,_,hi,_⟩:=id hp;exact⟨_,_,_,_,[fP (Ty.a G e).rep xs<|ev env x],[],zea (e:=(Ty.a G e).rep) (f:=e.rep) (z:=xs) (z':=z) (zfL v m) C O hd i (Sub.nth G e.rep xs j z<|zqe (hi▸i) Q)<|λS w h=>h.1,wR,⟨hp,wR⟩,λu w' _ U=>zt U.1⟩
 ·next q G E B o n e m A=>
  have⟨D,h⟩:=z6 h;rw[xab]at D;have hn:=zY D.1;subst hn;have⟨bytes,c,C⟩:=ziB v D.2;have⟨j,i,h,hc⟩:=Sj h;refine⟨_,h,zF λenv w S vs hl=> ?_⟩;have⟨ik,hd⟩:=hc P vs env S w<|J hl;have⟨h1,b,h2⟩:=zj A<|H hl;exact⟨_,PR (zfL v m) C (h1.trans h2) hd i w,zt ⟨znj i,b,h2,by rw[e.n_rep];rfl⟩⟩
 ·cases h
def Ue:∀{k:K}{t:Ty}{i:K}{f:Fl t.D},xe k t i=Z f->Fl.ok t f
 |0,.w1 t,0,f,h=>by
  simp only[xe,xat]at h;subst h;exact λz=>Sub.wrap t.rep z
 |0,.w1 t,_+1,_,h=>by cases h
 |0,.i,_,_,h=>by cases h
 |0,.u,_,_,h=>by cases h
 |0,.b,_,_,h=>by cases h
 |0,.l _,_,_,h=>by cases h
 |0,.p _ _,_,_,h=>by cases h
 |0,.a _ _,_,_,h=>by cases h
 |0,.ch,_,_,h=>by cases h
 |0,.tx,_,_,h=>by cases h
 |0,.po _,_,_,h=>by cases h
 |0,.tr,_,_,h=>by cases h
 |0,.er,_,_,h=>by cases h
 |1,t,i,f,h=>by
  unfold xe at h;cases c:xaf i 0<;>rw[c]at h
  ·cases h
  ·simp only[Wd,xat]at h;subst h;exact λz=>Sub.self t.rep z
 |k+2,.p s t,0,f,h=>by
  simp only[xe,xat]at h;subst h;exact λz=>Sub.fst s.rep t.rep z
 |k+2,.p s t,i+1,f,h=>by
  simp only[xe]at h;split at h
  ·next f' e=>
   simp only[xat]at h;subst h;intro z;have:=(Sub.snd s.rep t.rep z).comp<|Ue e z.2;rw[s.n_rep]at this;exact this
  ·cases h
 |k+2,.i,i,f,h=>by simp[xe]at h
 |k+2,.u,i,f,h=>by simp[xe]at h
 |k+2,.b,i,f,h=>by simp[xe]at h
 |k+2,.l _,i,f,h=>by simp[xe]at h
 |k+2,.a _ _,i,f,h=>by simp[xe]at h
def Ft:∀{k:K}{t:Ty}{i j:K}{f g:Fl t.D},xe k t i=Z f->xe k t j=Z g->i≠j->
 (∀z x,g.get (f.set x z)=g.get z)/\(∀z x y,g.set y (f.set x z)=f.set x (g.set y z))/\(g.off+g.f.n<=f.off\/f.off+f.f.n<=g.off)
 |0,.w1 _,0,0,_,_,_,_,h=>wS O h
 |0,.w1 _,_+1,_,_,_,h,_,_=>by cases h
 |0,.w1 _,0,_+1,_,_,_,h,_=>by cases h
 |0,.i,_,_,_,_,h,_,_=>by cases h
 |0,.u,_,_,_,_,h,_,_=>by cases h
 |0,.b,_,_,_,_,h,_,_=>by cases h
 |0,.l _,_,_,_,_,h,_,_=>by cases h
 |0,.p _ _,_,_,_,_,h,_,_=>by cases h
 |0,.a _ _,_,_,_,_,h,_,_=>by cases h
 |0,.ch,_,_,_,_,h,_,_=>by cases h
 |0,.tx,_,_,_,_,h,_,_=>by cases h
 |0,.po _,_,_,_,_,h,_,_=>by cases h
 |0,.tr,_,_,_,_,h,_,_=>by cases h
 |0,.er,_,_,_,_,h,_,_=>by cases h
 |1,t,i,j,f,g,c,m,hn=>by
  unfold xe at c m;cases q:xaf i 0<;>rw[q]at c
  ·cases c
  cases hc:xaf j 0<;>rw[hc]at m
  ·cases m
  simp_all
 |k+2,.p s t,0,0,_,_,_,_,h=>wS O h
 |k+2,.p s t,0,j+1,f,g,c,m,_=>by
  simp only[xe,xat]at c m;subst c;split at m
  ·next v o=>
   simp only[xat]at m;subst m;exact⟨λ_ _=>O,λ_ _ _=>O,.inr<|by simp only;lia⟩
  ·cases m
 |k+2,.p s t,i+1,0,f,g,c,m,_=>by
  simp only[xe,xat]at c m;subst m;split at c
  ·next f' hd=>
   simp only[xat]at c;subst c;exact⟨λ_ _=>O,λ_ _ _=>O,.inl<|by simp only;lia⟩
  ·cases c
 |k+2,.p s t,i+1,j+1,f,g,c,m,hn=>by
  simp only[xe]at c m;split at c
  ·next f' hd=>
   split at m
   ·next v o=>
    simp only[xat]at c m;subst c;subst m;have⟨h1,A,h3⟩:=Ft hd o (λe=>hn<|by rw[e]);exact⟨λz x=>h1 z.2 x,λz x y=>by simp only;rw[A z.2 x y],by obtain h3|h3:=h3;exact .inl (by simp only;lia);exact .inr<|by simp only;lia⟩
   ·cases m
  ·cases c
 |k+2,.i,i,_,f,_,h,_,_=>by simp[xe]at h
 |k+2,.u,i,_,f,_,h,_,_=>by simp[xe]at h
 |k+2,.b,i,_,f,_,h,_,_=>by simp[xe]at h
 |k+2,.l _,i,_,f,_,h,_,_=>by simp[xe]at h
 |k+2,.a _ _,i,_,f,_,h,_,_=>by simp[xe]at h
def Wm:∀t:Ty,∃h,Ty.same t t=Z ⟨h⟩
 |.i=>⟨O,O⟩
 |.u=>⟨O,O⟩
 |.b=>⟨O,O⟩
 |.ch=>⟨O,O⟩
 |.tx=>⟨O,O⟩
 |.tr=>⟨O,O⟩
 |.er=>⟨O,O⟩
 |.l t=>by have⟨h,e⟩:=Wm t;exact⟨O,by simp only[Ty.same,e]⟩
 |.po t=>by have⟨h,e⟩:=Wm t;exact⟨O,by simp only[Ty.same,e]⟩
 |.w1 t=>by have⟨h,e⟩:=Wm t;exact⟨O,by simp only[Ty.same,e]⟩
 |.a k t=>by have⟨h,e⟩:=Wm t;exact⟨O,by simp only[Ty.same,e,dite_true]⟩
 |.p s t=>by have⟨h,e⟩:=Wm s;have⟨f,c⟩:=Wm t;exact⟨O,by simp only[Ty.same,e,c]⟩
def Qa{s t:Ty}(h:(Ty.same s t).isSome=I):s=t:=by
 cases a:Ty.same s t with
 |none=>rw[a]at h;cases h
 |some p=>exact p.down
def ig{α:Type}{s:Ty}{off:K}{g:α->(Ty.l s).D}{st:(Ty.l s).D->α->α}{xs:N s.D}{z:α}:uj s (Z ⟨off,.l s,g,st⟩) xs z=st xs z:=by
 have⟨h,e⟩:=Wm s;simp only[uj,e]
theorem zcQ{n i j:K}{t s:Ty}{f:Fl t.D}{hv:N wN}{z:t.D}{r:K}(c:vrP s (xe n t j))(a:xe n t i=Z f)(hn:i≠j):
 Sub (UM t.rep (YL<|xe n t j) (uj s (xe n t j) []) hv) (z,r) f.off f.f.rep (f.get z) (λy=>(f.set y z,r)):=by
 have⟨off,g,st,b⟩:=c;have⟨h1,h,e⟩:=Ft b a<|Ne.symm hn;rw[b];have hp:∀z,uj s (Z ⟨off,.l s,g,st⟩) [] z=st ([]:N s.D) z:=λz=>ig;refine Sub.other ?_ (by rw[f.f.n_rep];exact e);have k:=Ue a<|uj s (Z ⟨off,.l s,g,st⟩) [] z;grind
def Sq:∀{k:K}{t:Ty}{i:K}{f:Fl t.D},xe k t i=Z f->∀x y z,f.set x (f.set y z)=f.set x z
 |0,.w1 t,0,f,h=>by
  simp only[xe,xat]at h;subst h;exact λ_ _ _=>O
 |0,.w1 t,_+1,_,h=>by cases h
 |0,.i,_,_,h=>by cases h
 |0,.u,_,_,h=>by cases h
 |0,.b,_,_,h=>by cases h
 |0,.l _,_,_,h=>by cases h
 |0,.p _ _,_,_,h=>by cases h
 |0,.a _ _,_,_,h=>by cases h
 |0,.ch,_,_,h=>by cases h
 |0,.tx,_,_,h=>by cases h
 |0,.po _,_,_,h=>by cases h
 |0,.tr,_,_,h=>by cases h
 |0,.er,_,_,h=>by cases h
 |1,t,i,f,h=>by
  unfold xe at h;cases c:xaf i 0<;>rw[c]at h
  ·cases h
  ·simp only[Wd,xat]at h;subst h;exact λ_ _ _=>O
 |k+2,.p s t,0,f,h=>by
  simp only[xe,xat]at h;subst h;exact λ_ _ _=>O
 |k+2,.p s t,i+1,f,h=>by
  simp only[xe]at h;split at h
  ·next f' e=>
   simp only[xat]at h;subst h;intro x y z;simp only;rw[Sq e]
  ·cases h
 |k+2,.i,i,f,h=>by simp[xe]at h
 |k+2,.u,i,f,h=>by simp[xe]at h
 |k+2,.b,i,f,h=>by simp[xe]at h
 |k+2,.l _,i,f,h=>by simp[xe]at h
 |k+2,.a _ _,i,f,h=>by simp[xe]at h
def zft{S:K->Prop}{w:wP}{n i off:K}{t s:Ty}{g:t.D->(Ty.l s).D}{st:(Ty.l s).D->t.D->t.D}{z:t.D}{cs:N wN}{v:wN}(e:xe n t i=Z ⟨off,.l s,g,st⟩)(h:t.rep.p S z cs w)(hv:cs[off]? =Z v)(h1:v.oneCell'=I):
 (UM t.rep off (st ([]:N s.D)) [v]).p S (z,0) cs w:=by
 have⟨b,c,a,e1,m,f,j⟩:=Ue e z S w cs h;refine⟨v,O,h1,hv,?_⟩;have k:=j w ([]:N s.D) [.slice wF 0 0] (yv.refl _ _) ⟨_,O,SlP.nil⟩;have hc:X c=1:=(Ty.l s).rep.len f;obtain⟨c0,rfl⟩:=xcR.1 hc;have:cs.set off (.slice wF 0 0)=b++[.slice wF 0 0]++a:=by simp_all
 rw[this];exact k
def zmp{S e:K->Prop}{w:wP}{n i off r:K}{t s:Ty}{g:t.D->(Ty.l s).D}{st:(Ty.l s).D->t.D->t.D}{z:t.D}{cs:N wN}{v:wN}{hv:N wN}{xs:N s.D}(o:xe n t i=Z ⟨off,.l s,g,st⟩)(h:(UM t.rep off (st ([]:N s.D)) hv).p S (z,r) cs w)
 (A:hv[r]? =Z v) (B:∀k,S k->e k) (C:(fV (eS s.rep) xs v).p e w):t.rep.p e (st xs z) cs w:=by
 have⟨u,h1,Q,E,f⟩:=h;rw[A]at h1;cases h1;have f:=t.rep.sub f λk _=>B k;have⟨j,c,a,e1,G,H,J⟩:=Ue o (st ([]:N s.D) z) e w _ f;have⟨b,L,q⟩:=C;have m:=J w xs b (yv.refl _ _) q;simp only at m G;rw[show st xs (st ([]:N s.D) z)=st xs z from Sq o xs ([]:N s.D) z]at m;have hc:X c=1:=(Ty.l s).rep.len H;have hd:X b=1:=(eS s.rep).len q;obtain⟨c0,rfl⟩:=xcR.1 hc;obtain⟨c1,rfl⟩:=xcR.1 hd;obtain rfl:v=c1:=L;have⟨T,M⟩:=xax.1 E;have:cs=j++[v]++a:=by
  have U:(cs.set off (.slice wF 0 0)).set off v=cs:=by rw[List.set_set,<-M,xda]
  simp_all
 rw[this];exact m
def zb7{t:Ty}{a:Fl t.D}{c:Fl a.f.D}(b:Fl.ok t a)(hc:Fl.ok a.f c):Fl.ok t (a.comp c):=λz=>(b z).comp<|hc<|a.get z
def RJ{s:wT}{q:Ty}{n B i:K}{f:Fl q.D}(a:yZ P cf.tt)(h:Zx cf s=Z ⟨q,.st n,B⟩)(b:xe n q i=Z f):TA P s i=Z f.off:=(a _ _ h).2.2.2.2.1 i f b
def zpx{c:V0}{v:V Dv}{k:Dv->V R}(h:eqP c v k=Z r):∃dv b,v=Z dv/\Ff c b k=Z r/\∀(P:jP) vs S w u,(wV P vs dv u).p S w->∃p:V JP,u=.pointer p/\p.isNone=b:=by
 unfold eqP at h;split at h
 ·exact⟨_,_,O,h,λP vs S w u a=>⟨wF,a,O⟩⟩
 ·exact⟨_,_,O,h,λP vs S w u ⟨b,o,cs,h1,_⟩=>⟨_,h1,O⟩⟩
 ·exact⟨_,_,O,h,λP vs S w u ⟨h1,b,e⟩=>⟨_,h1.trans e,O⟩⟩
 ·exact⟨_,_,O,h,λP vs S w u a=>zno a⟩
 ·exact⟨_,_,O,h,λP vs S w u a=>zoy a⟩
 ·cases h
def zo1(a:yZ P cf.tt)(h:ziU cf t=I):P.underlying t=Z (.pointer<|P.pointee t):=by
 unfold ziU at h;split at h
 ·next q E B b=>
  have:=(a _ _ b).2.2.2;have this:P.underlying t=Z (.pointer E):=this;rw[show P.pointee t=E by simp[Program.pointee,this]];exact this
 ·cases h
def zqU(j:yZ P cf.tt){e:V0}{k:N (K×Dv)->V R}(hp:ziU cf t=I)(a:zjZ (xo cx σ y)=I)(h:eqP e (xo cx σ x) (λv=>k [(0,v)])=Z r):
 ∃l,k l=Z r/\ES P ⟨d,.binOp e t x y yt,ty,pos,aft,g⟩ cx σ F l:=by
 have⟨dv,b,m,h,hv⟩:=zpx h;have a:xo cx σ y=Z .np:=by
  unfold zjZ at a;split at a
  ·lia
  ·cases a
 have i:=zo1 j hp;have go:∀{env:y4}{w:wP}{S:K->Prop}{vs:K->wN},(∀n∈yN (.binOp e t x y yt),Lk P vs env S w cx σ n)->∃p:V JP,ev env x=.pointer p/\p.isNone=b/\ev env y=.pointer wF:=λhl=>by
  have⟨p,h1,c⟩:=hv P _ _ _ _ (zj m<|yA hl<|by simp[xaB]);exact⟨p,h1,c,zj a<|yA hl<|by simp[xaB]⟩
 cases e<;>simp only[Ff,Ws]at h
 case eql=>
  refine⟨[(0,.kb<|decide<|b=I)],N6 h,zF λenv w S vs hl=>⟨.bool b,?_,zt<|by simp[wV,cQ]⟩⟩;have⟨p,h1,c,f⟩:=go hl;simp[jp,h1,f,WD,run_eql_pointer_nil w t p i,c]
 case neq=>
  refine⟨[(0,.kb (!decide (b=I)))],kbN h,zF λenv w S vs hl=>⟨.bool !b,?_,zt<|by simp[wV,cQ]⟩⟩;have⟨p,h1,c,f⟩:=go hl;simp[jp,h1,f,WD,run_neq_pointer_nil w t p i,c]
def zpU{c:V0}{v:V Dv}{k:Dv->V R}(h:eqE c v k=Z r):∃dv b,v=Z dv/\Ff c b k=Z r/\∀(P:jP) vs S w u,(wV P vs dv u).p S w->(b=I/\u=.nilIface)\/(b=wL/\∃T q,u=.iface T q):=by
 unfold eqE at h;split at h
 ·exact⟨_,_,O,h,λP vs S w u a=> .inl ⟨O,a⟩⟩
 ·refine⟨_,_,O,h,λP vs S w u a=> ?_⟩;rcases zoq (show(fV eEr _ u).p S w from a)with⟨rfl,e⟩|⟨rfl,e⟩
  ·simp_all
  ·simp_all
 ·cases h
def zrl(i:yZ P cf.tt){c:V0}{k:N (K×Dv)->V R}(hp:znA cf t=I)(a:zjm y=I)(h:eqE c (xo cx σ x) (λv=>k [(0,v)])=Z r):
 ∃l,k l=Z r/\ES P ⟨d,.binOp c t x y yt,ty,pos,aft,g⟩ cx σ F l:=by
 have⟨dv,b,j,h,hv⟩:=zpU h;have a:y=.const .nilIface:=by
  unfold zjm at a;split at a
  ·rfl
  ·cases a
 subst a;have e:P.underlying t=Z (.interface<|P.methodsAt t):=by
  unfold znA at hp;split at hp
  ·next q B m=>exact(i _ _ m).2.2.2
  ·cases hp
 have go:∀{env:y4}{w:wP}{S:K->Prop}{vs:K->wN},(∀n∈yN (.binOp c t x (.const .nilIface) yt),Lk P vs env S w cx σ n)->((b=I/\ev env x=.nilIface)\/(b=wL/\∃T q,ev env x=.iface T q)):=λhl=>
  hv P _ _ _ _ (zj j<|yA hl<|by simp[xaB])
 have f:∀env:y4,ev env (.const .nilIface)=.nilIface:=λ_=>O;cases c<;>simp only[Ff,Ws]at h
 case eql=>
  refine⟨[(0,.kb<|decide<|b=I)],N6 h,zF λenv w S vs hl=>⟨.bool b,?_,zt<|by simp[wV,cQ]⟩⟩;obtain⟨rfl,h1⟩|⟨rfl,T,q,h1⟩:=go hl
  ·simp[jp,h1,f,WD,run_eql_nil_nil (w:=w) t e]
  ·simp[jp,h1,f,WD,run_eql_held_nil (w:=w) t T q e]
 case neq=>
  refine⟨[(0,.kb (!decide (b=I)))],kbN h,zF λenv w S vs hl=>⟨.bool !b,?_,zt<|by simp[wV,cQ]⟩⟩;obtain⟨rfl,h1⟩|⟨rfl,T,q,h1⟩:=go hl
  ·simp[jp,h1,f,WD,run_neq_nil_nil (w:=w) t e]
  ·simp[jp,h1,f,WD,run_neq_held_nil (w:=w) t T q e]
def zpV{k:N (K×Dv)->V R}(h:zme cx σ x k=Z r):∃l,k l=Z r/\ES P ⟨d,.nilCheck x,ty,pos,aft,g⟩ cx σ F l:=by
 have f:∀{env:y4}{a:JP} (w:wP),ev env x=.pointer (Z a)->(jp (ev env) ⟨d,.nilCheck x,ty,pos,aft,g⟩).run P w=.ok (.value<|ev env x) w:=λw h=>by simp[jp,h]
 unfold zme at h;split at h
 ·next s y c=>
  refine⟨_,h,zF λenv w S vs hl=> ?_⟩;have h1:=zj c (yA hl<|by simp[xaB]);have⟨b,o,cs,e,_⟩:=h1;exact⟨_,f w e,zt<|zj c<|yA hl<|by simp[xaB]⟩
 ·next o s c=>
  refine⟨_,h,zF λenv w S vs hl=> ?_⟩;have⟨h1,b,e⟩:=zj c (yA hl<|by simp[xaB]);exact⟨_,f w<|h1.trans e,zt<|zj c<|yA hl<|by simp[xaB]⟩
 ·next s y c=>
  have⟨y',i,h⟩:=iH h;refine⟨_,h,zF λenv w S vs hl=> ?_⟩;have h1:(fV (eO s.rep) y<|ev env x).p S w:=zj c (yA hl<|by simp[xaB]);rw[i]at h1;have e:=zh3 h1;have⟨b,o,cs,j,_⟩:=e;exact⟨_,f w j,zt<|zh3 h1⟩
 ·next y c=>
  have⟨y',i,h⟩:=iH h;refine⟨_,h,zF λenv w S vs hl=> ?_⟩;have h1:(fV eTr y<|ev env x).p S w:=zj c (yA hl<|by simp[xaB]);have e:=zk9 i h1;have⟨b,o,cs,j,_⟩:=e;exact⟨_,f w j,zt<|zk9 i h1⟩
 ·cases h
def zkD(A:yZ P cf.tt){i:K}{k:N (K×Dv)->V R}(h:zan cf cx σ t x i k=Z r):∃l,k l=Z r/\ES P ⟨d,.fieldAddr t x i,ty,pos,aft,g⟩ cx σ F l:=by
 have C:∀{vs env S w},(∀D∈yN (.fieldAddr t x i),Lk P vs env S w cx σ D)->Xd P vs env S w cx σ x:=λhl=>yA hl (by simp[xaB]);unfold zan at h;split at h
 ·next e n B s y p q=>
  have⟨a,h⟩:=z7 h;subst a;split at h
  ·next f c=>
   exact⟨_,h,kj λenv w S vs G hl=>⟨_,_,_,_,[fP s.rep y<|ev env x],[],zf0 (e:=s.rep) (z:=y) (RJ A p c) O (Ue c y)<|λS w h=>h.1,wR,⟨zj q<|C hl,wR⟩,λu w' _ c=>zt c.1⟩⟩
  ·cases h
 ·next e n B o s p q=>
  split at h
  ·next a f _ c=>
   have⟨a⟩:=a;subst a;refine⟨_,h,zF λenv w S vs hl=> ?_⟩;have⟨h1,b,v⟩:=zj q<|C hl;exact⟨_,oD (RJ A p c) (h1.trans v) w,zt ⟨Ue c,b,v,O⟩⟩
  ·cases h
 ·next e n B o s g p q=>
  split at h
  ·next a f _ c=>
   have⟨a⟩:=a;subst a;refine⟨_,h,zF λenv w S vs hl=> ?_⟩;have⟨h0,b,h1,v⟩:=zj q<|C hl;exact⟨_,oD (RJ A p c) v w,zt ⟨zb7 h0<|Ue c,b,h1,by simp only[Fl.comp,xcM]⟩⟩
  ·cases h
 ·next e n B o s j g p q=>
  split at h
  ·next a f _ c=>
   have⟨a⟩:=a;subst a;refine⟨_,h,zF λenv w S vs hl=> ?_⟩;have⟨h0,b,m,cap,h1,v,E⟩:=zj q<|C hl;exact⟨_,oD (RJ A p c) E w,zt ⟨zb7 h0<|Ue c,b,m,cap,h1,v,by simp only[Fl.comp,xcM]⟩⟩
  ·cases h
 ·cases h
def zl9(T:yZ P cf.tt){k:N (K×Dv)->V R}(h:zgr cf cx σ t x k=Z r):∃l,k l=Z r/\ES P ⟨d,.load t x,ty,pos,aft,g⟩ cx σ F l:=by
 have C:∀{vs env S w},(∀U∈yN (.load t x),Lk P vs env S w cx σ U)->Xd P vs env S w cx σ x:=λhl=>yA hl (by simp[xaB]);unfold zgr at h;split at h
 ·next v Y=>
  have⟨M,hd,_⟩:=Z8 T Y;unfold zln at h;split at h
  ·next s y hc=>
   have⟨a,h⟩:=z7 h;simp only at a;subst a;exact⟨_,h,kj λenv w S vs n hl=>⟨_,_,_,_,[fP v.ty.rep y<|ev env x],[],zi7 (e:=v.ty.rep) (y:=y) O hd<|λS w h=>h.1,wR,⟨zj hc<|C hl,wR⟩,λu w' _ i=>zt i.1⟩⟩
  ·next o s hc=>
   split at h
   ·next D E z A=>
    have⟨a,h⟩:=z7 h;simp only at a;subst a;refine⟨_,h,kj λenv w S vs n hl=> ?_⟩;have⟨h1,b,G⟩:=zj hc<|C hl;have⟨H,q,J⟩:(mP v.ty.rep.c E (vs o) z).p S w:=Zk n A;exact⟨_,_,_,_,[],[mB v.ty.rep.c E H z],XG (z':=z) 0 O (h1.trans q) (Sub.self v.ty.rep z) hd,⟨J,wR⟩,wR,λu w' _ i=>zt i.1⟩
   ·cases h
  ·next o s f hc=>
   split at h
   ·next D E z A=>
    have⟨L,h⟩:=z7 h;subst L;have⟨a,h⟩:=z7 h;simp only at a;have⟨off,ff,get,set⟩:=f;simp only at a;subst a;refine⟨_,h,kj λenv w S vs n hl=> ?_⟩;have⟨h0,b,h1,G⟩:=zj hc<|C hl;have⟨H,q,J⟩:(mP D.rep.c E (vs o) z).p S w:=Zk n A;rw[h1]at q;cases q;exact⟨_,_,_,_,[],[mB D.rep.c E b z],XG (z':=get z) 0 O G (by rw[xaJ];exact h0 z) hd,⟨J,wR⟩,wR,λu w' _ i=>zt i.1⟩
   ·cases h
  ·next o s j f hc=>
   split at h
   ·next D E xs A=>
    have⟨L,h⟩:=z7 h;cases L;have⟨y,hy,h⟩:=xI h;have⟨a,h⟩:=z7 h;simp only at a;have⟨off,ff,get,set⟩:=f;simp only at a;subst a;refine⟨_,h,kj λenv w S vs n hl=> ?_⟩;have⟨h0,b,m,cap,h1,G,q⟩:=zj hc<|C hl;have Q:(mO s.rep E (vs o) xs).p S w:=Zk n A;have hg:0<X xs:=by
     have⟨cs,h5,h6⟩:=Q;rcases h5.2 with⟨hv,h7⟩|⟨g',B,a0,hv,_⟩
     ·rw[h1]at hv;cases hv
     ·rw[h1]at hv;cases hv;lia
    have⟨H,B,hv,hb⟩:=U9 Q hg;rw[h1]at hv;cases hv;have hi:=(Sub.rowT0 s.rep cap xs j (xs.getD j s.z)<|getD_some s.z G).comp<|h0<|xs.getD j s.z;subst hy;exact⟨_,_,_,_,[],[mB (rowT s.rep cap) E b xs],XG 0 O q hi hd,⟨hb,wR⟩,wR,λu w' _ i=>zt i.1⟩
   ·cases h
  ·cases h
 ·cases h
def zlC{α:Type}(xs:N α):xs=(xs.drop 0).take (X xs-0):=iP
def zlb{α:Type}(xs:N α)(l:K):xs.drop l=(xs.drop l).take (X xs-l):=(xaW iP).symm
def zij{i off n:K}{agg:v6}{cs:ul wN}{v:wN}(h:zgu P t i=Z (off,agg,n))(b:ev env x=.agg cs)(hv:(if agg=I then Value.agg (cs.extract off<|off+n)else cs.getD off uL)=v)(hc:agg=wL->off<cs.size)(w:wP):
 (jp (ev env) ⟨d,.field t x i,ty,pos,aft,g⟩).run P w=.ok (.value v) w:=by
 unfold zgu at h;split at h
 ·next fs c=>
  split at h
  ·next f e=>
   split at h
   ·next ag o j z k=>
    simp only[xat,xdd]at h;have⟨h1,l,m⟩:=h;subst h1;subst l;subst m;have a:=Ja.of k;have hp:(Kw f.type cs f.offset).run P w=.ok v w:=by
     unfold Kw;simp only[xay,H7 a,xal]
     cases ag with
     |true=>
      simp only[uP,xay,wo a,xal,xaO];simp_all
     |false=>
      simp_all
    simp only[jp,b,Instr.field,asAgg,xay,kw c,xal,e,xaO,hp]
   ·cases h
  ·cases h
 ·cases h
def znh{s:wT}{q:Ty}{n B i:K}{f:Fl q.D}(a:yZ P cf.tt)(h:Zx cf s=Z ⟨q,.st n,B⟩)(b:xe n q i=Z f):zgu P s i=Z (f.off,f.f.rep.agg,f.f.n):=(a _ _ h).2.2.2.2.2.2 i f b
def ze2(j:yZ P cf.tt){i:K}{k:N (K×Dv)->V R}(h:NU cf cx σ t x i k=Z r):∃l,k l=Z r/\ES P ⟨d,.field t x i,ty,pos,aft,g⟩ cx σ F l:=by
 have z:∀{vs env S w},(∀A∈yN (.field t x i),Lk P vs env S w cx σ A)->Xd P vs env S w cx σ x:=λhl=>yA hl (by simp[xaB]);unfold NU at h;split at h
 ·next e n B s y m C=>
  have⟨hi,h⟩:=z7 h;subst hi;split at h
  ·next f o=>
   refine⟨_,h,zF λenv w S vs hl=> ?_⟩;have⟨cs,hv,hp⟩:=zj C<|z hl;have hd:s.rep.agg=I:=(j _ _ m).2.2.2.1;have⟨D,c,p,q,h1,u,_⟩:=Ue o y S w cs hp;have v:=f.f.rep.len u;rw[Ty.n_rep]at v;have hv:ev env x=.agg cs.toArray:=by rw[hv];unfold zV.val;rw[hd];rfl
   refine⟨f.f.rep.val c,zij (znh j m o) hv ?_ ?_ w,zt ⟨c,O,u⟩⟩
   ·unfold zV.val
    cases hc:f.f.rep.agg with
    |true=>
     simp_all
    |false=>
     simp only[xar,uS];have b:=f.f.rep.n1 hc;rw[Ty.n_rep]at b;obtain⟨a,rfl⟩:∃a,c=[a]:=by
      match c,v.trans b with
      |[a],_=>exact⟨a,O⟩
     rw[q,<-h1];simp[Array.getD]
   ·intro hc;have b:=f.f.rep.n1 hc;rw[Ty.n_rep]at b;rw[q];simp;lia
  ·cases h
 ·cases h
def eC{α:Type}{e:zV α}{E:wT}{v:wN}{xs:N α}{S:K->Prop}{w:wP}(h:(mO e E v xs).p S w):(v=.slice wF 0 0/\xs=[])\/∃b cap,v=.slice (Z ⟨b,0,wF⟩) (X xs) cap/\X xs<=cap/\cap<=9223372036854775807:=by
 have⟨cs,h1,i⟩:=h;rcases h1.2 with⟨rfl,h0⟩|⟨g,cap,a,rfl,hc,j,c,f,hd,k⟩
 ·simp_all
 ·exact .inr ⟨g,cap,O,c,f⟩
def MW{α:Type}{e:zV α}{E:wT}{v:wN}{xs:N α}{S:K->Prop}{w:wP}(h:(mO e E v xs).p S w){b m cap l n c:K}(hv:v=.slice (Z ⟨b,0,wF⟩) m cap)(hl:l+n<=m)(q:n<=c)(hc:c<=9223372036854775807):
 SlQ e S ((xs.drop l).take n) (.slice (Z ⟨b,0+l*e.n,wF⟩) n c) w:=by
 have⟨cs,h1,f⟩:=h;rcases h1.2 with⟨h0,_⟩|⟨g,a,i,h0,hi,j,s,u,z,hd⟩
 ·simp_all
 ·rw[hv]at h0;cases h0;have k:X ((xs.drop l).take n)=n:=by simp;lia
  refine⟨Z ⟨b,0+l*e.n,wF⟩,c,by rw[k],W,by unfold Ww;lia,.inr ⟨b,0+l*e.n,(cs.drop<|l*e.n).take<|n*e.n,O,?_,(f.drop l).take n⟩⟩;have o:=At.row j;have:=o.take<|X xs*e.n;rw[hd]at this;exact(this.drop<|l*e.n).take<|n*e.n
def CJ{t:wT}{c:wT}{ag:v6}{e bytes:K}{a:wN}{b o n cap l h:K}{lo hi:V wN}{w:wP}(f:P.underlying t=Z (.slice c))(i:Ja P c ag e bytes a)
 (hl:lo=Z (.int .i64 (l:J))\/(lo=wF/\l=0)) (j:hi=Z (.int .i64 (h:J))\/(hi=wF/\h=n)) (k:l<=h) (hc:h<=cap):
 (xcU t (.slice (Z ⟨b,o,wF⟩) n cap) lo hi wF).run P w=.ok (.slice (if cap=l then Z ⟨b,o,wF⟩else(Z (⟨b,o,wF⟩:JP)).map (·.add (l*e))) (h-l)<|cap-l) w:=by
 have b1:(0:J)<=(l:J)/\(l:J)<=(h:J):=W
 have b2:(0:J)<=(h:J)/\(h:J)<=(cap:J):=W
 unfold xcU;unfold xfN;simp only[xay,kw f,xal];unfold xem
 obtain rfl|⟨rfl,rfl⟩:=hl<;>obtain rfl|⟨rfl,rfl⟩:=j<;>
  simp only[xey,V4,xay,xaO,xal,iq b1,iq b2,wo i,xaN]
def Lu{t:wT}{b:wT}{ag:v6}{c bytes:K}{a:wN}{lo hi:V wN}{w:wP}(e:P.underlying t=Z (.slice b))(f:Ja P b ag c bytes a)
 (hl:lo=Z (.int .i64 ((0:K):J))\/lo=wF) (h:hi=Z (.int .i64 ((0:K):J))\/hi=wF):
 (xcU t (.slice wF 0 0) lo hi wF).run P w=.ok (.slice wF 0 0) w:=by
 unfold xcU;unfold xfN;simp only[xay,kw e,xal];unfold xem
 obtain rfl|rfl:=hl<;>obtain rfl|rfl:=h<;>
  simp[xey,V4,wo f]
def Mr{m:K}{lo hi:V K}{k:K->K->V R}(h:zky m lo hi k=Z r):∃l a,l<=a/\a<=m/\k l (a-l)=Z r/\(lo=Z l\/(lo=wF/\l=0))/\(hi=Z a\/(hi=wF/\a=m)):=by
 unfold zky at h;split at h
 ·next a=>have⟨h1,b⟩:=Zm h;exact⟨0,a,xac _,h1,b,.inr ⟨O,O⟩,.inl O⟩
 ·next l=>have⟨h1,b⟩:=Zm h;exact⟨l,m,h1,IR _,b,.inl O,.inr ⟨O,O⟩⟩
 ·next l a=>have⟨h1,b⟩:=Zm h;exact⟨l,a,h1.1,h1.2,b,.inl O,.inl O⟩
 ·exact⟨0,m,xac _,IR _,h,.inr ⟨O,O⟩,.inr ⟨O,O⟩⟩
def zbf{t:wT}{s:Xs}{l h:K}{lo hi:V wN}{w:wP}(a:P.underlying t=Z .string)
 (hl:lo=Z (.int .i64 (l:J))\/(lo=wF/\l=0)) (b:hi=Z (.int .i64 (h:J))\/(hi=wF/\h=s.size)) (c:l<=h) (e:h<=s.size):
 (xcU t (.string s) lo hi wF).run P w=.ok (.string<|s.extract l h) w:=by
 have b1:(0:J)<=(l:J)/\(l:J)<=(h:J):=W
 have b2:(0:J)<=(h:J)/\(h:J)<=(s.size:J):=W
 unfold xcU;unfold xfN;simp only[xay,kw a,xal];unfold xem
 obtain rfl|⟨rfl,rfl⟩:=hl<;>obtain rfl|⟨rfl,rfl⟩:=b<;>
  simp[xey,V4,c,e]
def DX(s:Xs)(l h:K):xa (s.extract l h)=((xa s).drop l).take (h-l):=by simp_all [xa]
def ziX(Y:yZ P cf.tt)(hL:uz P cf.tt){lo hi:V wW}{k:N (K×Dv)->V R}(h:zaF cf cx σ t x lo hi k=Z r):∃l,k l=Z r/\ES P ⟨d,.slice t x lo hi wF,ty,pos,aft,g⟩ cx σ F l:=by
 have hx:∀{vs env S w},(∀G∈yN (.slice t x lo hi wF),Lk P vs env S w cx σ G)->Xd P vs env S w cx σ x:=λhl=>yA hl (by simp[xaB]);have hc:∀{vs env S w z},lo=Z z->(∀G∈yN (.slice t x lo hi wF),Lk P vs env S w cx σ G)->Xd P vs env S w cx σ z:=λe hl=>yA hl (by simp[xaB,e]);have hd:∀{vs env S w z},hi=Z z->(∀G∈yN (.slice t x lo hi wF),Lk P vs env S w cx σ G)->Xd P vs env S w cx σ z:=λe hl=>yA hl (by simp[xaB,e]);unfold zaF at h;split at h
 ·next e E B s xs Q he=>
  have⟨hm,h⟩:=z7 h;cases hm;have⟨bytes,a0,hk⟩:=K0 Y hL Q
  have A:∀{l m:K}{zs:N e.D},l<=m->m<=xaH xs->zs=(xdI l xs).take (m-l)->(∀vs env S w,(∀G∈yN (.slice t x lo hi wF),Lk P vs env S w cx σ G)->((lo.map<|ev env)=Z (.int .i64 (l:J))\/(lo=wF/\l=0))/\((hi.map<|ev env)=Z (.int .i64 (m:J))\/(hi=wF/\m=xaH xs)))->
   k [(0,.d (.l e) zs)]=Z r->∃l,k l=Z r/\ES P ⟨d,.slice t x lo hi wF,ty,pos,aft,g⟩ cx σ F l:=by
   intro l m zs h1 a i j C;subst i;refine⟨_,C,kj λenv w S vs hM hl=> ?_⟩;have⟨h6,U⟩:=j vs env S w hl;exact⟨_,_,_,_,[fV (eS e.rep) xs<|ev env x],[],O9 (e:=e.rep) (xs:=xs) (l:=l) (h:=m) O (vV Y Q) hk h6 U h1 a<|λS w h=>h.1,wR,⟨zj he<|hx hl,wR⟩,λu w' _ hf=>zt hf.1⟩
  rcases ab h with⟨e1,h1⟩|⟨zl,l,e1,h1,T⟩
  ·rcases ab h1 with⟨f,a⟩|⟨zh,m,f,a,H⟩
   ·exact A (l:=0) (m:=xaH xs) (xac _) (IR _) (zlC (α:=e.D) xs) (λvs env S w hl=>⟨.inr ⟨e1,O⟩,.inr ⟨f,O⟩⟩) a
   ·have⟨i,j⟩:=Zm a;have⟨zs,L,C⟩:=xI j;exact A (l:=0) (m:=m) (xac _) i L (λvs env S w hl=>⟨.inr ⟨e1,O⟩,.inl<|by rw[f];exact kW Z<|H P vs env S w<|hd f hl⟩) C
  ·rcases ab h1 with⟨f,a⟩|⟨zh,m,f,a,H⟩
   ·have⟨i,j⟩:=Zm a;have⟨zs,L,C⟩:=xI j;exact A (l:=l) (m:=xaH xs) i (IR _) (L.trans<|zlb (α:=e.D) xs l) (λvs env S w hl=>⟨.inl (by rw[e1];exact kW Z<|T P vs env S w<|hc e1 hl),.inr ⟨f,O⟩⟩) C
   ·have⟨i,j⟩:=Zm a;have⟨zs,L,C⟩:=xI j;exact A (l:=l) (m:=m) i.1 i.2 L (λvs env S w hl=>⟨.inl (by rw[e1];exact kW Z<|T P vs env S w<|hc e1 hl),.inl<|by rw[f];exact kW Z<|H P vs env S w<|hd f hl⟩) C
 ·next e E B o Q he=>
  split at h
  ·next s E' xs ho=>
   have⟨hm,h⟩:=z7 h;cases hm;have⟨bytes,a0,hk⟩:=K0 Y hL Q
   have M:∀(l m:K),l<=m->m<=xaH xs->k [(0,.sv o e l<|m-l)]=Z r->(∀vs env S w,(∀G∈yN (.slice t x lo hi wF),Lk P vs env S w cx σ G)->((lo.map<|ev env)=Z (.int .i64 (l:J))\/(lo=wF/\l=0))/\((hi.map<|ev env)=Z (.int .i64 (m:J))\/(hi=wF/\m=xaH xs)))->
    ∃l,k l=Z r/\ES P ⟨d,.slice t x lo hi wF,ty,pos,aft,g⟩ cx σ F l:=by
    intro l m h1 a C j;refine⟨_,C,λenv w S vs hS hM hl=> ?_⟩;have⟨h6,U⟩:=j vs env S w hl;have hn:ev env x=vs o:=zj he<|hx hl;rcases eC (show(mO e.rep E' (vs o) xs).p S w from Zk hM ho)with⟨hv,hg⟩|⟨b,cap,hv,hq,hu⟩
    ·refine(O9 (e:=e.rep) (xs:=([]:N e.D)) (l:=l) (h:=m) O (vV Y Q) hk h6 (by rw[hg]at U;exact U) h1 (by rw[hg]at a;exact a) (Γ:=[fV (eS e.rep) ([]:N e.D)<|ev env x]) (λS w h=>h.1) (ms:=[]) w S hS wR ⟨?_,wR⟩).mono ?_
     ·rw[hn,hv];exact xC.2 ⟨wF,0,O,IR _,xac _,.inl O⟩
     ·rintro v w' ⟨u,rfl,_,hs,hf⟩;refine⟨hs,zt (.inr ?_)⟩;have hw:m=0:=by rw[hg]at a;exact Nat.le_zero.1 a
      have⟨ao,c,q1,q2,q3,_⟩:=xC.1 hf.1;refine⟨W,ao,c,by unfold Ww at q3;lia,?_⟩;rw[q1];simp
    ·have hr:=CJ (P:=P) (b:=b) (o:=0) (n:=xaH xs) (cap:=cap) (w:=w) (l:=l) (h:=m) (vV Y Q) hk (h6.imp id λq=>⟨by rw[q.1];rfl,q.2⟩) (U.imp id λq=>⟨by rw[q.1];rfl,q.2⟩) h1<|xae a hq;rw[<-hv,<-hn]at hr;refine ur.of_value (v:=.slice (if cap=l then Z ⟨b,0,wF⟩else Z ((⟨b,0,wF⟩:JP).add<|l*e.rep.n)) (m-l)<|cap-l) (w':=w) (by simp[jp,hr]) ⟨yv.refl _ _,zt ?_⟩;by_cases hp:cap=l
     ·rw[iq hp];refine .inr ⟨W,Z ⟨b,0,wF⟩,cap-l,W,?_⟩;rw[(W:m-l=0)]
     ·rw[ir hp];exact .inl ⟨b,xaH xs,cap,cap-l,hv,W,W,W,by rw[jq]⟩
   rcases ab h with⟨e1,h1⟩|⟨zl,l,e1,h1,T⟩
   ·rcases ab h1 with⟨f,a⟩|⟨zh,m,f,a,H⟩
    ·exact M 0 (xaH xs) (xac _) (IR _) a<|λvs env S w hl=>⟨.inr ⟨e1,O⟩,.inr ⟨f,O⟩⟩
    ·have⟨i,j⟩:=Zm a;exact M 0 m (xac _) i j<|λvs env S w hl=>⟨.inr ⟨e1,O⟩,.inl<|by rw[f];exact kW Z<|H P vs env S w<|hd f hl⟩
   ·rcases ab h1 with⟨f,a⟩|⟨zh,m,f,a,H⟩
    ·have⟨i,j⟩:=Zm a;exact M l (xaH xs) i (IR _) j<|λvs env S w hl=>⟨.inl (by rw[e1];exact kW Z<|T P vs env S w<|hc e1 hl),.inr ⟨f,O⟩⟩
    ·have⟨i,j⟩:=Zm a;exact M l m i.1 i.2 j<|λvs env S w hl=>⟨.inl (by rw[e1];exact kW Z<|T P vs env S w<|hc e1 hl),.inl<|by rw[f];exact kW Z<|H P vs env S w<|hd f hl⟩
  ·cases h
 ·next q B xs Q he=>
  have A:∀{l m:K}{zs:N K},l<=m->m<=xaH xs->zs=(xdI l xs).take (m-l)->(∀vs env S w,(∀G∈yN (.slice t x lo hi wF),Lk P vs env S w cx σ G)->((lo.map<|ev env)=Z (.int .i64 (l:J))\/(lo=wF/\l=0))/\((hi.map<|ev env)=Z (.int .i64 (m:J))\/(hi=wF/\m=xaH xs)))->
   k [(0,.d .tx zs)]=Z r->∃l,k l=Z r/\ES P ⟨d,.slice t x lo hi wF,ty,pos,aft,g⟩ cx σ F l:=by
   intro l m zs h1 a i j C;refine⟨_,C,zF λenv w S vs hl=> ?_⟩;have⟨h6,U⟩:=j vs env S w hl;have⟨s,e1,f,e3⟩:=CW<|zj he<|hx hl;have hj:X (xa s)=s.size:=wG s;rw[f]at hj;have hr:=zbf (P:=P) (s:=s) (l:=l) (h:=m) (w:=w) (tF Y Q) (h6.imp id λq=>⟨by rw[q.1];rfl,q.2⟩) (U.imp id λq=>⟨by rw[q.1];rfl,by rw[q.2];exact hj⟩) h1 (by rw[<-hj];exact a);rw[<-e1]at hr;refine⟨.string<|s.extract l m,by simp[jp,hr],zt<|RQ (by rw[DX,f,i]) ?_⟩;rw[<-wG,DX,f];have a:m<=xaH (α:=K) xs:=a;rw[xas];lia
  rcases ab h with⟨e1,h1⟩|⟨zl,l,e1,h1,T⟩
  ·rcases ab h1 with⟨f,a⟩|⟨zh,m,f,a,H⟩
   ·exact A (l:=0) (m:=xaH (α:=K) xs) (xac _) (IR _) (zlC (α:=K) xs) (λvs env S w hl=>⟨.inr ⟨e1,O⟩,.inr ⟨f,O⟩⟩) a
   ·have⟨i,j⟩:=Zm a;have⟨zs,L,C⟩:=xI j;exact A (l:=0) (m:=m) (xac _) i L (λvs env S w hl=>⟨.inr ⟨e1,O⟩,.inl<|by rw[f];exact kW Z<|H P vs env S w<|hd f hl⟩) C
  ·rcases ab h1 with⟨f,a⟩|⟨zh,m,f,a,H⟩
   ·have⟨i,j⟩:=Zm a;have⟨zs,L,C⟩:=xI j;exact A (l:=l) (m:=xaH (α:=K) xs) i (IR _) (L.trans<|zlb (α:=K) xs l) (λvs env S w hl=>⟨.inl (by rw[e1];exact kW Z<|T P vs env S w<|hc e1 hl),.inr ⟨f,O⟩⟩) C
   ·have⟨i,j⟩:=Zm a;have⟨zs,L,C⟩:=xI j;exact A (l:=l) (m:=m) i.1 i.2 L (λvs env S w hl=>⟨.inl (by rw[e1];exact kW Z<|T P vs env S w<|hc e1 hl),.inl<|by rw[f];exact kW Z<|H P vs env S w<|hd f hl⟩) C
 ·cases h
def zpT(i:yZ P cf.tt){k:N (K×Dv)->V R}(h:zmh cf cx σ t x y k=Z r):∃l,k l=Z r/\ES P ⟨d,.index t x y,ty,pos,aft,g⟩ cx σ F l:=by
 have m:∀{vs env S w},(∀a∈yN (.index t x y),Lk P vs env S w cx σ a)->Xd P vs env S w cx σ x:=λhl=>yA hl (by simp[xaB]);have n:∀{vs env S w},(∀a∈yN (.index t x y),Lk P vs env S w cx σ a)->Xd P vs env S w cx σ y:=λhl=>yA hl (by simp[xaB]);unfold zmh at h;split at h
 ·next q B xs o hd=>
  have⟨j,p,h,hi⟩:=Sj h;have⟨z,u,h⟩:=xI h;refine⟨_,h,zF λenv w S vs hl=> ?_⟩;have⟨s,e1,e,_⟩:=CW<|zj hd<|m hl;have⟨ik,v⟩:=hi P vs env S w<|n hl;have f:X (xa s)=s.size:=wG s;have b:j<s.size:=by rw[<-f,e];exact p
  have hc:z=(s[j]'b).toNat:=by
   rw[u,<-e];unfold xa;rw[xaa,xcu,xak<|by rw[<-f]at b;simpa[xa]using b];rfl
  have c:=run_index_string (P:=P) w t s ik (j:J)<|tF i o;rw[dif_pos ⟨W,W⟩]at c;refine⟨.int .u8 (z:J),?_,zt<|HH<|by rw[hc];exact UInt8.toNat_lt _⟩;simp only[xaN]at c;rw[hc];simp[jp,e1,v,c]
 ·cases h
def zp3{E:wT}{k:N (K×Dv)->V R}(h:znf cf cx σ E x k=Z r):∃l,k l=Z r/\ES P ⟨d,.box E x,ty,pos,aft,g⟩ cx σ F l:=by
 unfold znf at h;split at h
 ·next a e=>
  have⟨y,h,b⟩:=VB h;exact⟨_,h,kj λenv w S vs f hl=>⟨_,_,_,_,[fV a.ty.rep y<|ev env x],[],zn7 O<|λS w h=>h.1,wR,⟨b P vs env S w (yA hl<|by simp[xaB]),wR⟩,λu w' _ c=>zt c.1⟩⟩
 ·cases h
def zqx(n:yZ P cf.tt){a:ul wW}{ts:ul wT}{k:N (K×Dv)->V R}(h:znc cf cx σ a.toList ts.toList k=Z r):
 ∃l,k l=Z r/\ES P ⟨d,.call ⟨.builtin .len,a,ts⟩,ty,pos,aft,g⟩ cx σ F l:=by
 unfold znc at h;split at h
 ·next _ _ x t hc hd=>
  obtain rfl:a= #[x]:=by cases a;simp_all
  obtain rfl:ts= #[t]:=by cases ts;simp_all
  have f:∀{vs env S w},(∀v∈yN (.call ⟨.builtin .len,#[x],#[t]⟩),Lk P vs env S w cx σ v)->Xd P vs env S w cx σ x:=λhl=>yA hl (by simp[xaB,xex]);split at h
  ·next e E B j=>
   have c:=vV n j;split at h
   ·next b=>exact⟨_,h,zF λenv w S vs hl=>⟨_,RI c (zj b<|f hl) w,zt<|wB iI⟩⟩
   ·next s xs b=>
    exact⟨_,h,kj λenv w S vs p hl=>⟨_,_,_,_,[fV (eS s.rep) xs<|ev env x],[],znk (e:=s.rep) (xs:=xs) c O<|λS w h=>h.1,wR,⟨zj b<|f hl,wR⟩,λu w' m z=>zt<|wB<|Hq m⟩⟩
   ·next o b=>
    split at h
    ·next s A xs C=>
     exact⟨_,h,kj λenv w S vs p hl=>⟨_,_,_,_,[],[mO s.rep A (vs o) xs],B6 0 O c<|zj b<|f hl,⟨Zk p C,wR⟩,wR,λu w' m z=>zt<|wB<|Hq m⟩⟩
    ·cases h
   ·cases h
  ·next q B j=>
   have c:=tF n j;split at h
   ·next xs b=>
    refine⟨_,h,zF λenv w S vs hl=> ?_⟩;have⟨s,e1,D,G⟩:=CW<|zj b<|f hl;have i:X (xa s)=s.size:=wG s;rw[D]at i;have i:xaH (α:=K) xs=s.size:=i;refine⟨.int .i64 ((xaH (α:=K) xs:K):J),?_,zt<|wB W⟩;rw[i];simp[jp,Wl,WN,KW,e1,Builtin.len_,gS,kw c]
   ·cases h
  ·cases h
 ·cases h
def zo8{b:v6}{e:ul wW}{ts:ul wT}{k:N (K×Dv)->V R}(h:eMM cx b σ e.toList k=Z r):
 ∃l,k l=Z r/\ES P ⟨d,.call ⟨.builtin (if b=I then .max else .min),e,ts⟩,ty,pos,aft,g⟩ cx σ F l:=by
 unfold eMM at h;split at h
 ·next _ x y o=>
  obtain rfl:e= #[x,y]:=by cases e;simp_all
  have i:∀{bl vs env S w},(∀n∈yN (.call ⟨.builtin bl,#[x,y],ts⟩),Lk P vs env S w cx σ n)->Xd P vs env S w cx σ x:=λhl=>yA hl (by simp[xaB,xex]);have j:∀{bl vs env S w},(∀n∈yN (.call ⟨.builtin bl,#[x,y],ts⟩),Lk P vs env S w cx σ n)->Xd P vs env S w cx σ y:=λhl=>yA hl (by simp[xaB,xex]);split at h
  ·next a c m hc=>
   cases b
   ·have h:C (min (α:=J) a c) (λz=>k [(0,zml z)])=Z r:=h;have⟨z,f,h⟩:=xI h;exact⟨_,h,zF λenv w S vs hl=>⟨_,v_i (zoD (wY m<|i hl).1 (wY hc<|j hl).1) f w,zt<|wB<|zf9 f<|zoz (wY m<|i hl).2 (wY hc<|j hl).2⟩⟩
   ·have h:C (max (α:=J) a c) (λz=>k [(0,zml z)])=Z r:=h;have⟨z,f,h⟩:=xI h;exact⟨_,h,zF λenv w S vs hl=>⟨_,v_i (zo0 (wY m<|i hl).1 (wY hc<|j hl).1) f w,zt<|wB<|zf9 f<|zpH (wY m<|i hl).2 (wY hc<|j hl).2⟩⟩
  ·cases h
 ·cases h
end
end
section
def PH(S:K->Prop)(w:wP):(ts:N Ty)->mV ts->N (K×wN)->Prop
 |[],_,[]=>Z5
 |t::ts,y,(_,v)::r=>(fV t.rep y.1 v).p S w/\PH S w ts y.2 r
 |_,_,_=>V3
def PH.keep{S:K->Prop}{w w':wP}(k:yv S w w'):∀{ts:N Ty}{ys:mV ts}{ps:N (K×wN)},PH S w ts ys ps->PH S w' ts ys ps
 |[],_,[],h=>trivial
 |t::_,y,(_,v)::_,h=>⟨(fV t.rep y.1 v).keep h.1 k,PH.keep k h.2⟩
 |[],_,_::_,h=>h.elim
 |_::_,_,[],h=>h.elim
def PH.sub{S a:K->Prop}{w:wP}(k:∀k,k<w.heap.size->S k->a k):∀{ts:N Ty}{ys:mV ts}{ps:N (K×wN)},PH S w ts ys ps->PH a w ts ys ps
 |[],_,[],h=>trivial
 |t::_,y,(_,v)::_,h=>⟨(fV t.rep y.1 v).sub h.1 k,PH.sub k h.2⟩
 |[],_,_::_,h=>h.elim
 |_::_,_,[],h=>h.elim
def phF(ts:N Ty)(ys:mV ts)(ps:N (K×wN)):FF:=⟨λS w=>PH S w ts ys ps,λh k=>PH.keep k h,λh k=>PH.sub k h⟩
section
variable{P:jP}{cf:Cf}{cx σ:Sg}{F:xS MF}{vs:wr->wN}{env:y4}{S:wr->Prop}{w:wP}{R:Type}{r:R}
 {d:ww Z4}{ty t yt:wT}{pos:String}{aft:ul Edge}{g:ww (wr×v6)}{x y:wW}
def oy:∀{ts:N Ty}{ps:N (K×wW)}{j:K}{k:mV ts->V R},parts cx σ ts ps j k=Z r->
 ∃ys,k ys=Z r/\ps.map (·.1)=xfo j (X ps)/\∀(P:jP) vs env S w,(∀x∈ps.map (·.2),Xd P vs env S w cx σ x)->PH S w ts ys (ps.map λq:K×wW=>(q.1,ev env q.2))
 |[],[],j,k,h=>⟨(),h,O,λ_ _ _ _ _ _=>wR⟩
 |t::ts,(i,x)::ps,j,k,h=>by
  have⟨a,h⟩:=z6 h;have⟨y,h,b⟩:=VB h;have⟨ys,h1,c,e⟩:=oy h;refine⟨(y,ys),h1,?_,λP vs env S w hl=>⟨b P vs env S w<|hl x<|FS,e P vs env S w λz f=>hl z<|UV _ f⟩⟩;simp only[xbU,xaw,List.range'_succ,c,zY a]
 |[],_::_,j,k,h=>by simp[parts]at h
 |_::_,[],j,k,h=>by simp[parts]at h
def zlR{i:K}{v:wN}:jN [(i,v)]=v.cells.toList:=by simp[jN]
def zre{k:K}{s t:Ty}:xe (k+2) (.p s t) 0=Z ⟨0,s,λz=>z.1,λy z=>(y,z.2)⟩:=O
def zra{k:K}{s t:Ty}{i:K}{f:Fl t.D}(h:xe (k+1) t i=Z f):xe (k+2) (.p s t) (i+1)=Z ⟨s.n+f.off,f.f,λz=>f.get z.2,λy z=>(z.1,f.set y z.2)⟩:=by
 simp only[xe,h]
def zhQ{pl:ul (K×K)}:∀{k:K}{t:Ty}{o j:K}{ys:mV (zdo k t)}{ps:N (K×wN)}{z:t.D},(∀i f,xe k t i=Z f->pl[j+i]? =Z (o+f.off,f.f.n))->
 ps.map (·.1)=xfo j (X ps)->PH S w (zdo k t) ys ps->fM k t ys=Z z->aX (pl[·]?) ps o/\t.rep.p S z (jN ps) w
 |0,_,_,_,_,_,_,_,_,_,h=>by simp[fM]at h
 |1,t,o,j,ys,[],z,hp,hi,h,c=>h.elim
 |1,t,o,j,ys,[(i,v)],z,hp,hi,h,c=>by
  simp only[fM,xat]at c;subst c;have q:i=j:=by simpa using hi
  subst q;have h0:=hp 0 (Fl.self t) O;have e:=zcg h.1;rw[t.n_rep]at e;refine⟨⟨?_,wR⟩,by rw[zlR];exact uY h.1⟩;show pl[i]? =_;rw[e];simpa[Fl.self]using h0
 |1,t,o,j,ys,_::_::_,z,hp,hi,h,c=>h.2.elim
 |k+2,.p s t,o,j,ys,[],z,hp,hi,h,c=>h.elim
 |k+2,.p s t,o,j,ys,(i,v)::ps,z,hp,hi,h,c=>by
  unfold fM at c;split at c
  ·next y A=>
   obtain rfl:=xdf c;simp only[xbU,xaw,List.range'_succ,xeG]at hi;obtain⟨rfl,hi⟩:=hi;have h0:=hp 0 _ zre;have e:=zcg h.1;rw[s.n_rep]at e;have⟨h1,B⟩:=zhQ (o:=o+s.n) (j:=i+1) (pl:=pl) (λm f C=>by
    have:=hp (m+1) _<|zra C;rw[(W:i+1+m=i+(m+1)),this];simp only[xcM]) hi h.2 A
   refine⟨⟨?_,by rw[e];exact h1⟩,?_⟩
   ·show pl[i]? =_;rw[e];simpa using h0
   ·rw[zc3];exact⟨_,_,O,uY h.1,B⟩
  ·cases c
 |k+2,.i,_,_,_,_,_,_,_,_,h=>by simp[fM]at h
 |k+2,.u,_,_,_,_,_,_,_,_,h=>by simp[fM]at h
 |k+2,.b,_,_,_,_,_,_,_,_,h=>by simp[fM]at h
 |k+2,.l _,_,_,_,_,_,_,_,_,h=>by simp[fM]at h
 |k+2,.a _ _,_,_,_,_,_,_,_,_,h=>by simp[fM]at h
def HB(S:K->Prop)(w:wP)(n:K)(t:Ty):N (K×wN)->t.D->t.D->Prop
 |[],z,z'=>z=z'
 |(i,v)::r,z,z'=>∃(f:Fl t.D) (y:f.f.D),xe n t i=Z f/\(fV f.f.rep y v).p S w/\HB S w n t r (f.set y z) z'
def HB.keep{S:K->Prop}{w w':wP}(k:yv S w w'){n:K}{t:Ty}:∀{vs:N (K×wN)}{z z':t.D},HB S w n t vs z z'->HB S w' n t vs z z'
 |[],_,_,h=>h
 |_::_,_,_,⟨f,y,h1,a,b⟩=>⟨f,y,h1,(fV f.f.rep y _).keep a k,HB.keep k b⟩
def HB.sub{S a:K->Prop}{w:wP}(k:∀k,k<w.heap.size->S k->a k){n:K}{t:Ty}:∀{vs:N (K×wN)}{z z':t.D},HB S w n t vs z z'->HB a w n t vs z z'
 |[],_,_,h=>h
 |_::_,_,_,⟨f,y,h1,b,c⟩=>⟨f,y,h1,(fV f.f.rep y _).sub b k,HB.sub k c⟩
def hbF(n:K)(t:Ty)(vs:N (K×wN))(z z':t.D):FF:=⟨λS w=>HB S w n t vs z z',λh k=>HB.keep k h,λh k=>HB.sub k h⟩
def HB.fill{S:K->Prop}{w:wP}{n:K}{t:Ty}{pl:ul (K×K)}(hp:∀i f,xe n t i=Z f->pl[i]? =Z (f.off,f.f.n)):∀{vs:N (K×wN)}{z z':t.D}{cs:N wN},HB S w n t vs z z'->t.rep.p S z cs w->
 ∃out,xdB (pl[·]?) cs.toArray vs=Z out.toArray/\t.rep.p S z' out w/\∀j g,xe n t j=Z g->(∀p∈vs,p.1≠j)->g.f.n=1->out[g.off]? =cs[g.off]?
 |[],z,z',cs,h,hc=>⟨cs,O,h▸hc,λ_ _ _ _ _=>O⟩
 |(i,v)::r,z,z',cs,⟨f,y,h1,a,o⟩,hc=>by
  have⟨q,c,b,e1,s,e,u⟩:=Ue h1 z S w cs hc;have hv:=uY a;have k:=zcg a;have⟨out,A,B,C⟩:=HB.fill hp o<|u w y v.cells.toList (yv.refl _ _) hv;refine⟨out,?_,B,λj g l m E=> ?_⟩
  ·rw[e1,zdM (by rw[hp i f h1,k,f.f.n_rep]) s<|by rw[f.f.rep.len e,k]];exact A
  ·rw[C j g l (λp hp=>m p<|UV _ hp) E,e1];have⟨_,_,hd⟩:=Ft h1 l<|m (i,v)<|FS;have l1:X c=f.f.n:=by rw[f.f.rep.len e,f.f.n_rep]
   have G:X v.cells.toList=f.f.n:=by rw[f.f.rep.len hv,f.f.n_rep]
   obtain hd|hd:=hd
   ·rw[xao,xao,xbj W,xbj W]
   ·rw[xbz (by rw[xaq];lia),xbz (by rw[xaq];lia),xaq,xaq,l1,G]
def zaJ{n:K}{t:Ty}:∀{ps:N (K×wW)}{z:t.D}{k:t.D->V R},zhU cx σ n t ps z k=Z r->
 ∃z',k z'=Z r/\∀(P:jP) vs env S w,(∀x∈ps.map (·.2),Xd P vs env S w cx σ x)->HB S w n t (ps.map λq:K×wW=>(q.1,ev env q.2)) z z'
 |[],z,k,h=>⟨z,h,λ_ _ _ _ _ _=>O⟩
 |(i,x)::ps,z,k,h=>by
  unfold zhU at h;split at h
  ·next f a=>
   have⟨y,h,b⟩:=VB h;have⟨z',h1,c⟩:=zaJ h;exact⟨z',h1,λP vs env S w hl=>⟨f,y,a,b P vs env S w<|hl x<|FS,c P vs env S w λz e=>hl z<|UV _ e⟩⟩
  ·cases h
def iu:∀(n:K) (t:Ty) (ys:mV (FK n t)),X (Ea n t ys)=n
 |0,_,_=>rfl
 |n+1,t,ys=>kW (· +1)<|iu n t ys.2
theorem Me{t:Ty}:∀{n j:K}{ys:mV (FK n t)}{ps:N (K×wN)},ps.map (·.1)=xfo j ps.length->PH S w (FK n t) ys ps->
 aX (λi=>Z (i*t.rep.n,t.rep.n)) ps (j*t.rep.n)/\yP t.rep S (Ea n t ys) (jN ps) w
 |0,_,_,[],_,_=>⟨wR,O⟩
 |0,_,_,_::_,_,h=>h.elim
 |n+1,_,_,[],_,h=>h.elim
 |n+1,j,ys,(i,v)::ps,hi,h=>by
  simp only[xbU,xaw,List.range'_succ,xeG]at hi;obtain⟨rfl,hi⟩:=hi;have hs:=zcg h.1;obtain⟨h1,h2⟩:=Me hi h.2;refine⟨⟨by rw[hs],?_⟩,?_⟩
  ·grind
  ·skip;exact⟨_,_,O,uY h.1,h2⟩
def zkl(c:yZ P cf.tt){ps:ul (K×wW)}{k:N (K×Dv)->V R}(h:zaa cf cx σ t ps.toList k=Z r):∃l,k l=Z r/\ES P ⟨d,.build t ps,ty,pos,aft,g⟩ cx σ F l:=by
 unfold zaa at h;split at h
 ·next e n B m=>
  have⟨p,hd,C,G⟩:=Z8 c m;have⟨s,_,⟨fs,Q,pl,T,H⟩,_⟩:=(c _ _ m).2.2.2;simp only at hd C G s H;cases hc:xcX (X ps.toList) n||xaf n 0<;>rw[hc]at h
  ·have⟨ys,h,hi,hp⟩:=oy h;split at h
   ·next z Y=>
    refine⟨_,h,kj λenv w S vs U hl=> ?_⟩;have J:=hp P vs env S w λx v=>yA hl (by simpa[xaB]using v);have L:(ps.toList.map λq:K×wW=>(q.1,ev env q.2)).map (·.1)=xfo 0 (X (ps.toList.map λq:K×wW=>(q.1,ev env q.2))):=by rw[xcP,xaZ];exact hi
    have A:=λ(S:K->Prop) (w:wP) (h:PH S w (zdo n e) ys (ps.toList.map λq:K×wW=>(q.1,ev env q.2)))=>zhQ (pl:=pl) (o:=0) (j:=0) (λi f b=>by rw[xaJ,xaJ];exact H i f b) L h Y;exact⟨_,_,_,_,[phF _ ys (ps.toList.map λq:K×wW=>(q.1,ev env q.2))],[],R4 (e:=e.rep) (z:=z) (parts:=ps.toList) (s▸hd) s C O (.inl ⟨fs,Q,pl,T,λS w h=>(A S w h.1).1⟩)<|λS w h=>(A S w h.1).2,wR,⟨J,wR⟩,λu w' _ b=>zt b.1⟩
   ·cases h
  ·have⟨z,h,hH⟩:=zaJ h;refine⟨_,h,kj λenv w S vs U hl=> ?_⟩;have hb:=hH P vs env S w λx v=>yA hl (by simpa[xaB]using v);exact⟨_,_,_,_,[hbF n e (ps.toList.map λq:K×wW=>(q.1,ev env q.2)) e.z z],[],Hs (e:=e.rep) (z0:=e.z) (z:=z) (parts:=ps.toList) (s▸hd) s G ⟨fs,Q,T⟩ O (λ_=>Z5) (λS w h cs _ hc=>by have⟨out,q1,q2,_⟩:=HB.fill H h.1 hc;exact⟨out,q1,q2,wR⟩),wR,⟨hb,wR⟩,λu w' _ b=>zt b.1⟩
 ·next n e D E B m=>
  have⟨M,h⟩:=z6 h;rw[xab]at M;have hn:=zY M.1;subst hn;have⟨b2,z2,hu⟩:=ziB c M.2;have⟨ys,h,hi,hp⟩:=oy h;have⟨p,hd,C,G⟩:=Z8 c m;refine⟨_,h,kj λenv w S vs U hl=> ?_⟩;have J:=hp P vs env S w λx v=>yA hl (by simpa[xaB]using v);have L:(ps.toList.map λq:K×wW=>(q.1,ev env q.2)).map (·.1)=xfo 0 (X (ps.toList.map λq:K×wW=>(q.1,ev env q.2))):=by rw[xcP,xaZ];exact hi
  have A:=λ(S:K->Prop) (w:wP) (h:PH S w (FK D e) ys (ps.toList.map λq:K×wW=>(q.1,ev env q.2)))=>Me L h;exact⟨_,_,_,_,[phF _ ys (ps.toList.map λq:K×wW=>(q.1,ev env q.2))],[],R4 (e:=(Ty.a D e).rep) (z:=Ea D e ys) (parts:=ps.toList) hd O C O (.inr ⟨_,_,_,_,_,_,zfL c m,hu,λS w h=>by have:=(A S w h.1).1;rwa[xcx]at this⟩)<|λS w h=>⟨iu D e ys,(A S w h.1).2⟩,wR,⟨J,wR⟩,λu w' _ b=>zt b.1⟩
 ·cases h
def zgp{s E:wT}{e:Ty}{B:K}(a:yZ P cf.tt)(b:uz P cf.tt)(h:Zx cf s=Z ⟨.l e,.sl E,B⟩):0<e.rep.n:=by
 obtain⟨c,h1,rfl⟩:=b _ _ _ _ h;exact(a _ _ h1).2.2.1
def zpL(b:yZ P cf.tt)(f:uz P cf.tt){n:K}{ps:ul (K×wW)}{k:N (K×Dv)->V R}(h:znI cf cx σ t n ps.toList k=Z r):∃l,k l=Z r/\ES P ⟨d,.buildSlice t n ps,ty,pos,aft,g⟩ cx σ F l:=by
 unfold znI at h;split at h
 ·next e E B c=>
  have⟨a,h⟩:=z6 h;have a:=xca a;rw[<-e.n_rep]at a;have⟨ys,h,hc,hd⟩:=oy h;have⟨bytes,i,m⟩:=K0 b f c;refine⟨_,h,kj λenv w S vs z hl=> ?_⟩;have o:=hd P vs env S w λx p=>yA hl (by simpa[xaB]using p);have s:(ps.toList.map λq:K×wW=>(q.1,ev env q.2)).map (·.1)=xfo 0 (X (ps.toList.map λq:K×wW=>(q.1,ev env q.2))):=by rw[xcP,xaZ];exact hc
  have j:=λ(S:K->Prop) (w:wP) (h:PH S w (FK n e) ys (ps.toList.map λq:K×wW=>(q.1,ev env q.2)))=>Me s h;exact⟨_,_,_,_,[phF _ ys (ps.toList.map λq:K×wW=>(q.1,ev env q.2))],[],GL (vV b c) m (zgp b f c) (iu n e ys) a O (λS w h=>by have:=(j S w h.1).1;rwa[xcx]at this)<|λS w h=>(j S w h.1).2,wR,⟨o,wR⟩,λu w' _ v=>zt v.1⟩
 ·cases h
def zaI:∀{xs:N wW}{l:N PD},aA cx σ xs=Z l->X l=X xs/\∀(P:jP) vs env S w,(∀x∈xs,Xd P vs env S w cx σ x)->zE S (Gh l<|xs.map<|ev env) w
 |[],l,h=>by simp only[aA,xat]at h;subst h;exact⟨O,λ_ _ _ _ _ _=>wR⟩
 |x::xs,l,h=>by
  unfold aA at h;split at h
  ·next t y f a b=>
   simp only[xat]at h;subst h;have⟨h1,c⟩:=zaI b;exact⟨by simp[h1],λP vs env S w hl=>⟨zj a<|hl x<|FS,c P vs env S w λz e=>hl z<|UV _ e⟩⟩
  ·cases h
theorem zpR{f:Go.Fn}{first cs:ul wW}{k:N (K×Dv)->V R}(h:znG cx σ f first.toList cs.toList k=Z r):∃l,k l=Z r/\ES P ⟨d,.makeFunc f first cs,ty,pos,aft,g⟩ cx σ F l:=by
 unfold znG at h;split at h
 ·next _ _ _ f' l b hc=>
  obtain rfl:first= #[]:=by cases first;simp_all
  have⟨h1,c⟩:=zaI hc;refine⟨_,h,zF λenv w S vs hl=>⟨_,zrq (xs:=cs.toList) O w,zt ?_⟩⟩;exact⟨_,O,by simp[h1],c P vs env S w λx a=>yA hl<|by simpa[xaB]using a⟩
 ·next _ _ _ f' x b hc=>
  split at h
  ·next o t a=>
   obtain rfl:first= #[x]:=by cases first;simp_all
   have h1:=(zaI hc).1;obtain rfl:cs= #[]:=by grind
   refine⟨_,h,zF λenv w S vs hl=>⟨.func (.func f') #[ev env x] #[],du (by simp[pv]) w,zt ?_⟩⟩;have⟨e,i⟩:=zj a (yA hl<|by simp[xaB]);exact⟨by rw[e],i⟩
  ·cases h
 ·cases h
end
end
section
section
variable{P:jP}{cf:Cf}{cx σ:Sg}{F:xS MF}{vs:wr->wN}{env:y4}{S:wr->Prop}{w:wP}{R:Type}{r:R}
 {d:ww Z4}{ty t yt:wT}{pos:String}{aft:ul Edge}{g:ww (wr×v6)}{x y:wW}
def IB{A B C:Type}(h:B=C)(p:(A×B)=(A×C))(x:A×B):(p▸x:A×C)=(x.1,h▸x.2):=by subst h;rfl
theorem St.sub'{we:wP}{Se:K->Prop}{ms:N MF}{Γ Δ:N FF}{w:wP}(h:St we Se ms Γ w)(a:∀f∈Δ,f∈Γ):St we Se ms Δ w:=by grind [St.weak,jW]
def zpz{t:Ty}{n:RM}{r:N RM}(x:iU (.d t::n::r)):(WG (.d t::n::r)▸x:Iq ((RM.d t::n::r).map RM.ty))=((x.1,WG (n::r)▸x.2):t.D×Iq ((n::r).map RM.ty)):=
 IB (WG (n::r)) (WG (.d t::n::r)) x
def zov{t:Ty}{E:wT}{n:RM}{r:N RM}(x:iU (.own t E::n::r)):(WG (.own t E::n::r)▸x:Iq ((RM.own t E::n::r).map RM.ty))=((x.1,WG (n::r)▸x.2):(Ty.l t).D×Iq ((n::r).map RM.ty)):=
 IB (WG (n::r)) (WG (.own t E::n::r)) x
theorem ze3{we:wP}{Se:K->Prop}:∀{rs:N RM}{x:iU rs}{us:N wN}{F:N MF}{G:N FF}{w:wP},noV rs=I->
 St we Se (Yj rs x us++F) (Yk rs x us++G) w->St we Se F (csF (rs.map RM.ty) (WG rs▸x) us++G) w
 |[],_,_,_,_,_,_,h=>h
 |[.d t],x,us,F,G,w,_,h=>h
 |.var _ _::_,_,_,_,_,_,hv,_=>by cases hv
 |[.own t E],x,us,F,G,w,_,h=>by
  have h:St we Se (mO t.rep E (us.headD uL) x::F) G w:=h;exact Nh 0 h O
 |.d t::n::r,x,us,F,G,w,hv,h=>by
  rw[zpz];have h:St we Se (Yj (n::r) x.2 us.tail++F) (Yk (n::r) x.2 us.tail++(fV t.rep x.1 (us.headD uL)::G)) w:=St.sub' (by simpa[Yj,Yk,rmM,rmF]using h) (by simp;rintro f (h|h|h)<;>simp[h]);have:=ze3 (rs:=n::r) hv h;exact St.sub' this (by
   intro f hf;obtain hf|hf:=So.1 hf
   ·obtain rfl|hf:=xag.1 hf
    ·exact So.2 (.inr<|FS)
    ·grind
   ·exact So.2 (.inr<|UV _ hf))
 |.own t E::n::r,x,us,F,G,w,hv,h=>by
  rw[zov];have h:St we Se (mO t.rep E (us.headD uL) x.1::(Yj (n::r) x.2 us.tail++F)) (Yk (n::r) x.2 us.tail++G) w:=h;have h:=Nh 0 h O;have h:St we Se (Yj (n::r) x.2 us.tail++F) (Yk (n::r) x.2 us.tail++(fV (eS t.rep) x.1 (us.headD uL)::G)) w:=St.sub' h (by simp;rintro f (h|h|h)<;>simp[h]);have:=ze3 (rs:=n::r) hv h;exact St.sub' this (by
   intro f hf;obtain hf|hf:=So.1 hf
   ·obtain rfl|hf:=xag.1 hf
    ·exact So.2 (.inr<|FS)
    ·exact So.2 (.inl hf)
   ·exact So.2 (.inr<|UV _ hf))
def Lf:∀{rs:N RM}{x:iU rs}{i:K},noV rs=I->Tw rs x i=zeC (rs.map RM.ty) (WG rs▸x) i
 |[],_,_,_=>rfl
 |[.d _],_,_,_=>rfl
 |[.own _ _],_,_,_=>rfl
 |.var _ _::_,_,_,h=>by cases h
 |.d t::n::r,x,i,h=>by rw[zpz];show(i,Dv.d t x.1)::Tw (n::r) x.2 (i+1)=_;rw[Lf (rs:=n::r) h];rfl
 |.own t E::n::r,x,i,h=>by rw[zov];show(i,Dv.d (.l t) x.1)::Tw (n::r) x.2 (i+1)=_;rw[Lf (rs:=n::r) h];rfl
def R7:∀rs:N RM,bu rs=zji (rs.map RM.ty)
 |[]=>rfl
 |[_]=>rfl
 |_::_::_=>rfl
theorem zfw:∀{ts:N Ty}{x:Iq ts}{i:K}{us:N wN},zE S (csF ts x us) w->X us=X ts->∀e∈zeC ts x i,∃j u,e.1=i+j/\us[j]? =Z u/\(wV P vs e.2 u).p S w
 |[],_,_,_,_,_,e,he=>wS he H1
 |[t],x,i,[],h,hl,e,he=>by cases hl
 |[t],x,i,u::us,h,hl,e,he=>by
  obtain rfl:=xad.1 he;exact⟨0,u,O,O,h.1⟩
 |t::s::r,x,i,[],h,hl,e,he=>by cases hl
 |t::s::r,x,i,u::us,h,hl,e,he=>by
  obtain rfl|he:=xag.1 he
  ·exact⟨0,u,O,O,h.1⟩
  ·have⟨j,v,h1,a,b⟩:=zfw h.2 (by simpa using hl) e he;grind
def DG:∀{ts:N Ty}{x:Iq ts}{us:N wN},zE S (csF ts x us) w->X us=X ts->∀e∈zeC ts x (bif zji ts then 0 else 1),(vX P vs e.2 (X3 us) e.1).p S w
 |[],_,_,_,_,e,a=>wS a H1
 |[t],x,[],_,hl,_,_=>by cases hl
 |[t],x,[v],h,hl,e,a=>by
  obtain rfl:=xad.1 a;exact h.1
 |[t],x,_::_::_,_,hl,_,_=>by simp at hl
 |t::s::q,x,[],_,hl,_,_=>by cases hl
 |t::s::q,x,[_],_,hl,_,_=>by simp at hl
 |t::s::q,x,v::b::us,h,hl,e,a=>by
  obtain⟨j,u,h1,c,f⟩:=zfw h hl e a;obtain⟨i,dv⟩:=e;simp only[zji,XS]at h1;obtain rfl:i=j+1:=W
  exact⟨(v::b::us).toArray,u,O,by simpa using c,f⟩
def B4:∀{cs:N X2}{f:Z3}{s:X2},IE cs f=Z s->s∈cs/\s.f=f/\Ee s.dom=I/\s.bk=0/\noV s.cod=I
 |c::cs,f,s,h=>by
  unfold IE at h;cases a:xaf c.f f && (Ee c.dom && (xaf c.bk 0 && noV c.cod))<;>rw[a]at h
  ·have⟨h1,b⟩:=B4 h;exact⟨UV _ h1,b⟩
  ·simp_all
def oH:∀{dom:N AM}{x:cj dom}{us:N wN},Ee dom=I->Zo dom x us=[]
 |[],_,_,_=>rfl
 |.d _::r,x,us,h=>oH (dom:=r) h
 |.q _::r,x,us,h=>oH (dom:=r) h
 |.fn _ _::r,x,us,h=>oH (dom:=r) h
 |.own _ _::_,_,_,h=>by cases h
 |.var _ _::_,_,_,h=>by cases h
def Lg:∀{a:N AM}{cs:N PD}{z:cj a},cF a cs=Z z->X cs=X a/\∀{S:K->Prop}{w:wP}{b:N wN},X b=X cs->zE S (Gh cs b) w->zE S (ky P a z b) w
 |[],[],_,_=>⟨O,λ_ _=>wR⟩
 |.q t::r,c::cs,z,h=>by
  have⟨e,h⟩:=z7 h;subst e;split at h
  ·next z' i=>
   obtain rfl:=xdf h;have⟨h1,j⟩:=Lg i;refine⟨by simp[h1],λ{S w b} hl f=> ?_⟩
   cases b with
   |nil=>cases hl
   |cons v b=>exact⟨f.1,j (by simpa using hl) f.2⟩
  ·cases h
 |[],_::_,_,h=>by simp[cF]at h
 |.q _::_,[],_,h=>by simp[cF]at h
 |.d _::_,_,_,h=>by simp[cF]at h
 |.own _ _::_,_,_,h=>by simp[cF]at h
 |.var _ _::_,_,_,h=>by simp[cF]at h
 |.fn _ _::_,_,_,h=>by simp[cF]at h
def zhZ:∀{full:N AM}{dom:N Ty}{x:mV dom}{cs:N PD}{z:cj full},Lb full dom x cs=Z z->X dom+X cs=X full/\
 ∀{S:K->Prop}{w:wP}{us a:N wN},X us=X dom->X a=X cs->zE S (tsF dom x us) w->zE S (Gh cs a) w->zE S (ky P full z<|us++a) w
 |full,[],x,cs,z,h=>by
  have h:cF full cs=Z z:=by cases full<;>(try cases‹AM›)<;>simpa[Lb]using h
  have⟨h1,b⟩:=Lg (P:=P) h;simp_all
 |.d t::r,s::dom,x,cs,z,h=>by
  have⟨e,h⟩:=z7 h;subst e;split at h
  ·next z' f=>
   obtain rfl:=xdf h;have⟨h1,b⟩:=zhZ f;refine⟨by simp;lia,λ{S w us a} hl i c j=> ?_⟩
   cases us with
   |nil=>cases hl
   |cons v us=>exact⟨c.1,b (by simpa using hl) i c.2 j⟩
  ·cases h
 |[],_::_,_,_,_,h=>by simp[Lb]at h
 |.q _::_,_::_,_,_,_,h=>by simp[Lb]at h
 |.own _ _::_,_::_,_,_,_,h=>by simp[Lb]at h
 |.var _ _::_,_::_,_,_,_,h=>by simp[Lb]at h
 |.fn _ _::_,_::_,_,_,_,h=>by simp[Lb]at h
theorem zeE{A B:Type}(h:A=B){o:V A}{r:B}(b:(h▸o:V B)=Z r):∃a:A,o=Z a/\(h▸a:B)=r:=by
 grind
def mW{s:X2}(a:xh P s)(hn:Ee s.dom=I)(b:s.bk=0)(hv:noV s.cod=I){z:cj s.dom}{q:iU s.cod}(c:s.M z=Z q){us:N wN}(hl:X us=X s.dom):
 Fn P s.f us.toArray (ky P s.dom z us) X3 (λus=>csF (s.cod.map RM.ty) (WG s.cod▸q) us) (λus=>X us=X s.cod):=by
 have h:=a.plain b c hl;rw[oH hn]at h;refine FnG.frozen h λu w' we Se e=> ?_;have:=ze3 (F:=[]) (G:=[]) hv (by simpa using e);simp_all
def Fn.weakΓ{U:Type}{f:Z3}{args:ul wN}{Γ b:N FF}{c:U->wN}{a:U->N FF}{ok:U->Prop}(h:Fn P f args Γ c a ok)(e:∀S w,zE S b w->zE S Γ w):Fn P f args b c a ok:=
 λw Se h1 i=>h w Se h1<|e Se w i
def zfx(m:∀s∈cf.cs,xh P s){v:V Dv}{dom cod:N Ty}{k:(mV dom->V (Iq cod))->V R}(h:asF cf σ v dom cod k=Z r):
 ∃g,k g=Z r/\∀vs S w (dv:Dv) u,v=Z dv->(wV P vs dv u).p S w->(fnF P dom cod g u).p S w:=by
 unfold asF at h;split at h
 ·next f c=>
  split at h
  ·next s n=>
   have⟨h1,e,o,A,B⟩:=B4 n;have i:=m s h1;split at h
   ·next C _=>
    subst C;refine⟨_,h,λvs S w dv u hd b=> ?_⟩;cases hd;have⟨cs,D,hi,E⟩:=b;refine⟨f,cs,Gh c cs,D,⟨e▸i.1,λx q a us hl=> ?_⟩,E⟩;simp only at a;split at a
    ·next z G=>
     have⟨M,H,J⟩:=zeE _ a;have⟨hp,K⟩:=zhZ (P:=P) G;have j:=mW i o A B H (us:=us++cs) (by simp;lia);rw[e]at j;subst J;refine(j.weakΓ λS w l=>K hl hi (zE.left l)<|zE.right l).ok_mono λus hn=>by simpa using hn
    ·cases a
   ·cases h
  ·cases h
 ·next Q T U=>
  split at h
  ·next hd hc _ _=>
   subst hd;subst hc;exact⟨_,h,λvs S w dv u L b=>by cases L;exact b⟩
  ·cases h
 ·cases h
end
end
section
def nK(P:jP)(ex:N (K×v6)):Prop:=∀f b,Uc ex f=Z b->∃fn,P.funcs[f]? =Z fn/\(fn.name== "runtime.NumGoroutine")=wL/\fn.body=wF/\(xeF fn).isNone=I/\
 (b=I->xeS fn=Z (λargs=>do
  let(x,y,c)<-xbJ "Add64" args
  pure (xcq ((x+y+c)%xbf)<|(x+y+c)/xbf)))/\
 (b=wL->xeS fn=Z (λargs=>do
  let(x,y,b)<-xbJ "Sub64" args
  pure (xcq ((x+xbf-y-b)%xbf) (if x<y+b then 1 else 0))))
section
variable{P:jP}{cf:Cf}{cx σ:Sg}{F:xS MF}{vs:wr->wN}{env:y4}{S:wr->Prop}{w:wP}{R:Type}{r:R}
 {d:ww Z4}{ty t yt:wT}{pos:String}{aft:ul Edge}{g:ww (wr×v6)}{x y:wW}
def zoY{x y z:K}{k:N (K×Dv)->V R}(h:exU I x y z k=Z r):z<=1/\∃p q:K,p=(x+y+z)%18446744073709551616/\q=(x+y+z)/18446744073709551616/\k [(1,.d .u p),(2,.d .u q)]=Z r:=by
 have⟨h1,h⟩:=Zm h;have⟨p,hp,h⟩:=xI h;have⟨q,a,h⟩:=xI h;simp_all
def zpJ{x y z:K}{k:N (K×Dv)->V R}(h:exU wL x y z k=Z r):z<=1/\∃p q:K,p=(x+18446744073709551616-y-z)%18446744073709551616/\q=(if x<y+z then 1 else 0)/\k [(1,.d .u p),(2,.d .u q)]=Z r:=by
 have⟨h1,h⟩:=Zm h;have⟨p,hp,h⟩:=xI h;have⟨q,a,h⟩:=xI h;simp_all
def pX(m:∀s∈cf.cs,xh P s):∀{dom:N AM}{xs:N wW}{cs:N PD}{k:cj dom->V R},QB cf cx σ dom xs cs k=Z r->
 ∃z,k z=Z r/\X xs+X cs=X dom/\∀vs env S w,(∀x∈xs,Xd P vs env S w cx σ x)->∀a:N wN,X a=X cs->zE S (Gh cs a) w->zE S (ky P dom z<|xs.map (ev env)++a) w
 |[],[],[],k,h=>⟨(),h,O,λ_ _ _ _ _ _ _ _=>wR⟩
 |.q t::dom,[],c::cs,k,h=>by
  simp only[QB]at h;have⟨e,h⟩:=z7 h;subst e;have⟨z,h1,j,l⟩:=pX m h;refine⟨_,h1,by simp at j⊢;lia,λvs env S w hl a b i=> ?_⟩
  cases a with
  |nil=>cases b
  |cons v a=>exact⟨i.1,l vs env S w hl a (by simpa using b) i.2⟩
 |.d t::dom,x::xs,cs,k,h=>by
  simp only[QB]at h;have⟨y,h,p⟩:=VB h;have⟨z,h1,j,l⟩:=pX m h;exact⟨_,h1,by simp at j⊢;lia,λvs env S w hl a b i=>⟨p P vs env S w<|hl x<|FS,l vs env S w (λz n=>hl z<|UV _ n) a b i⟩⟩
 |.q t::dom,x::xs,cs,k,h=>by
  simp only[QB]at h;split at h
  ·next s y u=>
   have⟨e,h⟩:=z7 h;subst e;have⟨z,h1,j,l⟩:=pX m h;exact⟨_,h1,by simp at j⊢;lia,λvs env S w hl a b i=>⟨zj u<|hl x<|FS,l vs env S w (λz n=>hl z<|UV _ n) a b i⟩⟩
  ·cases h
 |.fn o cod::dom,x::xs,cs,k,h=>by
  simp only[QB]at h;have⟨f,h,A⟩:=zfx m h;have⟨z,h1,j,l⟩:=pX m h;refine⟨_,h1,by simp at j⊢;lia,λvs env S w hl a b i=>⟨?_,l vs env S w (λz n=>hl z<|UV _ n) a b i⟩⟩
  cases hv:xo cx σ x with
  |none=>rename_i h0;rw[hv]at h0;simp[asF]at h0
  |some v=>exact A vs S w v _ hv<|zj hv<|hl x<|FS
 |[],_::_,_,_,h=>by simp[QB]at h
 |[],[],_::_,_,h=>by simp[QB]at h
 |.d _::_,[],_,_,h=>by simp[QB]at h
 |.own _ _::_,_,_,_,h=>by simp[QB]at h
 |.fn _ _::_,[],_,_,h=>by simp[QB]at h
 |.q _::_,[],[],_,h=>by simp[QB]at h
def Cw:∀{dom:N Ty}{xs:N wW}{k:mV dom->V R},Dh cx σ dom xs k=Z r->
 ∃z,k z=Z r/\X xs=X dom/\∀(P:jP) vs env S w,(∀x∈xs,Xd P vs env S w cx σ x)->zE S (tsF dom z<|xs.map<|ev env) w
 |[],[],k,h=>⟨(),h,O,λ_ _ _ _ _ _=>wR⟩
 |t::dom,x::xs,k,h=>by
  have⟨y,h,a⟩:=VB h;have⟨z,h1,b,c⟩:=Cw h;exact⟨_,h1,by simp[b],λP vs env S w hl=>⟨a P vs env S w<|hl x<|FS,c P vs env S w<|λz e=>hl z<|UV _ e⟩⟩
 |[],_::_,_,h=>by simp[Dh]at h
 |_::_,[],_,h=>by simp[Dh]at h
def zmB(E:∀s∈cf.cs,xh P s)(Y:nK P cf.ex){f:wW}{a:ul wW}{ts:ul wT}{k:N (K×Dv)->V R}(h:zfd cf cx σ f a.toList k=Z r):
 ∃l,k l=Z r/\ES P ⟨d,.call ⟨.value f,a,ts⟩,ty,pos,aft,g⟩ cx σ F l:=by
 have G:∀{vs env S w},(∀A∈yN (.call ⟨.value f,a,ts⟩),Lk P vs env S w cx σ A)->Xd P vs env S w cx σ f:=λhl=>yA hl (by simp[xaB,xex]);have i:∀{vs env S w},(∀A∈yN (.call ⟨.value f,a,ts⟩),Lk P vs env S w cx σ A)->∀x∈a.toList,Xd P vs env S w cx σ x:=λhl x u=>yA hl (by simp only[xaB,xex,xeT,So];exact .inr u);unfold zfd at h;split at h
 ·next f0 cs hc=>
  split at h
  ·next s hs=>
   have⟨h1,H,h3,h4,J⟩:=B4 hs;have L:=E s h1;have⟨z,h,hd,m⟩:=pX E h;have⟨q,c,h⟩:=iH h;refine⟨_,h,kj λenv w S vs hM hl=> ?_⟩;have⟨j,hv,ht,hu⟩:=zj hc<|G hl;have v:=mW L h3 h4 J c (us:=a.toList.map (ev env)++j) (by simp at hd⊢;lia);rw[H]at v;refine⟨_,_,_,_,ky P s.dom z<|a.toList.map (ev env)++j,[],rF (aas:=a.toList) (H▸L.1) hv v O<|λS w h=>h,wR,m vs env S w (i hl) j ht hu,λus w' B hn=> ?_⟩;unfold zjH;rw[Lf J,R7];exact DG hn<|by simpa using B
  ·split at h
   ·next _ _ _ b x y z C hD=>
    obtain rfl:a= #[x,y,z]:=by cases a;simp_all
    have⟨hw,h⟩:=z6 h
    cases f with
    |func f1=>
     simp only[xo,xat,Dv.fn.injEq]at hc;obtain⟨rfl,_⟩:=hc;have⟨fn,e1,M,Q,T,e5,e6⟩:=Y _ _ C;unfold exD at h;split at h
     ·next x' y' z' u U m=>
      cases b
      ·have⟨n,p,q,hp,c,h⟩:=zpJ h;refine⟨_,h,zF λenv w S vs hl=> ?_⟩;have hi:=xO u (i hl x iP);have o:=xO U (i hl y iP);have D:=xO m (i hl z iP);refine⟨_,v_2 (zkN e1 M Q T (e6 O) hi.1 o.1 D.1 n) hp c w,λe he=> ?_⟩;obtain rfl|he:=xag.1 he
       ·exact⟨_,_,O,O,jB<|VM hp⟩
       ·obtain rfl:=xad.1 he;exact⟨_,_,O,O,jB<|ziO hi.2 o.2 n c⟩
      ·have⟨n,p,q,hp,c,h⟩:=zoY h;refine⟨_,h,zF λenv w S vs hl=> ?_⟩;have hi:=xO u (i hl x iP);have o:=xO U (i hl y iP);have D:=xO m (i hl z iP);refine⟨_,v_2 (zkf e1 M Q T (e5 O) hi.1 o.1 D.1 n) hp c w,λe he=> ?_⟩;obtain rfl|he:=xag.1 he
       ·exact⟨_,_,O,O,jB<|VM hp⟩
       ·obtain rfl:=xad.1 he;exact⟨_,_,O,O,jB<|zjL hi.2 o.2 n c⟩
     ·cases h
    |_=>simp[zpN]at hw
   ·cases h
 ·next dom cod g' hc=>
  have⟨z,h,hd,m⟩:=Cw h;have⟨q,c,h⟩:=iH h;refine⟨_,h,kj λenv w S vs hM hl=> ?_⟩;have⟨a0,aA,FG,hv,⟨C,hA⟩,hB⟩:=zj hc<|G hl;have v:=hA z q c (a.toList.map<|ev env) (by simpa using hd);exact⟨_,_,_,_,tsF dom z (a.toList.map<|ev env)++FG,[],rF (aas:=a.toList) C hv v O<|λS w h=>h,wR,zE.append (m P vs env S w<|i hl) hB,λus w' B hn=>DG hn B⟩
 ·cases h
def zqy{fs:ul Field}{v:wN}(a:P.underlying t=Z (.struct fs))(hv:ev env x=v)(w:wP):(jp (ev env) ⟨d,.makeInterface t x,ty,pos,aft,g⟩).run P w=.ok (.value (.iface t v)) w:=by
 simp[jp,Instr.makeInterface,kw a,hv]
def zp2(a:yZ P cf.tt){k:N (K×Dv)->V R}(h:zmJ cf cx σ t x k=Z r):∃l,k l=Z r/\ES P ⟨d,.makeInterface t x,ty,pos,aft,g⟩ cx σ F l:=by
 unfold zmJ at h;split at h
 ·next B s y b c=>
  have⟨e,h⟩:=z7 h;subst e;refine⟨_,h,zF λenv w S vs hl=> ?_⟩;have⟨cs,hv,hp⟩:=zj c (yA hl<|by simp[xaB]);have⟨_,_,⟨fs,f,_⟩,_⟩:=(a _ _ b).2.2.2;obtain rfl:cs=[.int .i64 y]:=hp.1;exact⟨_,zqy f hv w,zt<|by exact O⟩
 ·cases h
def zns(a:yZ P cf.tt)(c:uz P cf.tt)(f:∀s∈cf.cs,xh P s)(i:nK P cf.ex){e:Op}{k:N (K×Dv)->V R}(h:zn0 cf cx σ e k=Z r):∃l,k l=Z r/\ES P ⟨d,e,ty,pos,aft,g⟩ cx σ F l:=by
 unfold zn0 at h;split at h
 ·exact zhI (.inl O) h
 ·exact zhI (.inr O) h
 ·exact zqo h
 ·exact znZ h
 ·exact zoA h
 ·exact zpu h
 ·next j t x y yt=>
  cases hi:zjm y<;>rw[hi]at h
  ·cases hn:zjZ (xo cx σ y)<;>rw[hn]at h
   ·exact bop h<|zkw a
   ·have⟨hp,h⟩:=z6 h;exact zqU a hp hn h
  ·have⟨hp,h⟩:=z6 h;exact zrl a hp hi h
 ·exact zpV h
 ·exact zpy a h
 ·exact zl9 a h
 ·exact ziK a c h
 ·exact zkD a h
 ·exact ze2 a h
 ·exact ziX a c h
 ·exact zpT a h
 ·exact zp3 h
 ·exact zkl a h
 ·exact zp2 a h
 ·exact zpL a c h
 ·exact zpR h
 ·exact zqx a h
 ·exact zo8 (b:=I) h
 ·exact zo8 (b:=wL) h
 ·exact zmB f i h
 ·cases h
end
end
section
def zaA(P:jP)(s:PY):Prop:=
 BS P s.f=I/\∀(x:mV s.dom) (vs:N wN),X vs=X s.dom->Fn P s.f vs.toArray (tsF s.dom x vs) (λv:wN=>v) (λv=>[zms s.g (s.mc x) v]) (λ_=>Z5)
def S9(P:jP)(s:Er):Prop:=
 BS P s.f=I/\∀c ix r a p lo n b,s.M c ix r a p lo n=Z b->∀(u d hv:wN),(xM u)[r]? =Z d->SU (yC u) lo n hv->K8 a->K8 p->
  ∀we Se F G w,St we Se (Aq s.t.rep s.E s.E1 u c ix::F) G w->Ul P s.f #[d,.int .i64 a,.int .i64 p,hv] w λe w'=>∃v g,e=.returned v/\yC g=yC u/\St we Se (Aq s.t.rep s.E s.E1 g b ix::F) G w'
def zfD(P:jP)(s:Gf):Prop:=
 BS P s.f=I/\∀(x:cj s.dom) (X Y:Type) (a:X->wN->MF) (b:Y->wN->MF) (g:N s.t.D->X->V (N s.t.D×(X⊕Y))) (x0:X) (r:X⊕Y),s.M x g x0=Z r->∀(l:K) (vs:N wN),i7 vs=i7 s.dom->Oq P l s.t.rep s.E a b g->
  ∀u we Se F G w,St we Se (a x0 u::F) (ky P s.dom x vs++G) w->Ul P s.f (.func (.yield l) #[] #[]::vs).toArray w λe w'=>(∃v,e=.returned v)/\∃c,St we Se (xfe (λx=>a x c) (λy=>b y c) r::F) G w'
def POK(P:jP)(p:BA):Prop:=
 BS P p.s.f=I/\∀(x:cj p.s.dom) (vs:N wN),X vs=X p.s.dom->
  (∀r,p.M x=Z (.inr r)->FnG P p.s.f vs.toArray (Zo p.s.dom x vs) (ky P p.s.dom x vs) (znr p.s.bk (X p.s.cod)) (λus=>Yj p.s.cod r us) (λus=>Yk p.s.cod r us) (zif p.s.dom vs p.s.bk (X p.s.cod)))/\
  ∀q,p.M x=Z (.inl q)->∀we Se F G w,St we Se (Zo p.s.dom x vs++F) (ky P p.s.dom x vs++G) w->Ul P p.s.f vs.toArray w λe w'=>e=.panicked (OT q)/\St we Se F G w'
def BA.n(p:BA):X2:=⟨p.s.f,p.s.dom,p.s.cod,λx=>(match p.M x with
 |some (.inr r)=>Z r
 |_=>wF),p.s.bk⟩
def POK.n{P:jP}{p:BA}(h:POK P p):xh P p.n:=⟨h.1,λx r a vs hl=>(h.2 x vs hl).1 r (by
 have a:(match p.M x with
  |some (.inr r)=>Z r
  |_=>wF)=Z r:=a
 split at a
 ·grind
 ·cases a)⟩
def vrD(s:GK)(z:s.t.D)(ys:N s.s.D)(u:wN):MF:=Ki (λ_=>u) (0,.vr s.t s.E s.s s.E1 s.n s.i z ys)
def VOK(P:jP)(s:GK):Prop:=
 BS P s.f=I/\∀z ys x r,s.M z ys x=Z r->∀(u:wN) (vs:N wN),X vs=X s.dom->
  ∀we Se F G w,St we Se (vrD s z ys u::F) (tsF s.dom x vs++G) w->Ul P s.f (yC u::vs).toArray w λe w'=>∃v a,e=.returned v/\yC a=yC u/\St we Se (vrD s r.1 r.2 a::F) G w'
structure Cx(P:jP)(cf:Cf):Prop where
 ex:nK P cf.ex
 cl:∀s∈cf.cl,zaA P s
 ms:∀s∈cf.ms,S9 P s
 is:∀s∈cf.is,zfD P s
 pp:P=Tryz.prog
 ps:∀p∈cf.ps,POK P p
 vg:∀s∈cf.vg,VOK P s
section
variable{P:jP}{cf:Cf}{cx σ:Sg}{F:xS MF}{vs:wr->wN}{env:y4}{S:wr->Prop}{w:wP}{R:Type}{r:R}
 {d:ww Z4}{ty t yt:wT}{pos:String}{aft:ul Edge}{g:ww (wr×v6)}{x y:wW}
def zgi{f:Z3}:∀{l:N Er}{s:Er},zg5 l f=Z s->s∈l/\s.f=f
 |c::l,s,h=>by
  unfold zg5 at h;cases a:xaf c.f f<;>rw[a]at h
  ·have⟨h1,b⟩:=zgi h;exact⟨UV _ h1,b⟩
  ·simp_all
def zhJ{f:Z3}:∀{l:N GK}{s:GK},zgt l f=Z s->s∈l/\s.f=f
 |c::l,s,h=>by
  unfold zgt at h;cases a:xaf c.f f<;>rw[a]at h
  ·have⟨h1,b⟩:=zhJ h;exact⟨UV _ h1,b⟩
  ·simp_all
def zfT{f:Z3}:∀{l:N PY}{s:PY},zeW l f=Z s->s∈l/\s.f=f
 |c::l,s,h=>by
  unfold zeW at h;cases a:xaf c.f f<;>rw[a]at h
  ·have⟨h1,b⟩:=zfT h;exact⟨UV _ h1,b⟩
  ·simp_all
def ze5{f:Z3}:∀{l:N Gf}{s:Gf},zkO l f=Z s->s∈l/\s.f=f
 |c::l,s,h=>by
  unfold zkO at h;cases a:xaf c.f f<;>rw[a]at h
  ·have⟨h1,b⟩:=ze5 h;exact⟨UV _ h1,b⟩
  ·simp_all
def NG{α:Type}{e:zV α}{E E1:wT}{u:wN}{a:N (N α)}{ix:N K}(h:(Aq e E E1 u a ix).p S w):X (xM u)=X a/\(mO (YO<|xM u) E (yC u) ix).p S w/\yT S (vG e E1 (xM u) a) w:=⟨h.1.1,h.1.2.1,h.1.2.2⟩
def sB{α:Type}{e:zV α}{E E1:wT}{u v:wN}{a:N (N α)}{ix:N K}{r:K}(h:(Aq e E E1 u a ix).p S w)(b:(xM u)[r]? =Z v):(mO e E1 v<|uF a r).p S w/\r<X a:=by
 have⟨h1,_,c⟩:=NG h;have hl:=(xax.1 b).1;have f:a[r]? =Z (uF a r):=by
  unfold uF;simp_all
 exact⟨yT.get c<|Jk b f,W⟩
def zie(u:yZ P cf.tt)(J:uz P cf.tt){k:N (K×Dv)->V R}(h:Nx cf cx σ t x y k=Z r):∃l,k l=Z r/\ES P ⟨d,.indexAddr t x y,ty,pos,aft,g⟩ cx σ F l:=by
 have L:∀{vs env S w},(∀M∈yN (.indexAddr t x y),Lk P vs env S w cx σ M)->Xd P vs env S w cx σ x:=λhl=>yA hl (by simp[xaB]);have Q:∀{vs env S w},(∀M∈yN (.indexAddr t x y),Lk P vs env S w cx σ M)->Xd P vs env S w cx σ y:=λhl=>yA hl (by simp[xaB]);unfold Nx at h;split at h
 ·next e E B o i v=>
  split at h
  ·next s C E1 a ix D=>
   have⟨bytes,q,A⟩:=K0 u J i;have⟨j,f,h,hc⟩:=Sj h;refine⟨_,h,?_⟩;intro env w S vs U G hl;have⟨ik,hd⟩:=hc P vs env S w<|Q hl;have T:(Aq s.rep C E1 (vs o) a ix).p S w:=Zk G D;have⟨b,cap,hv,_⟩:=U9 (NG T).2.1<|xaK (xac _) f;have H:ev env x=yC (vs o):=zj v<|L hl;exact ur.of_value (Ca (vV u i) A (H.trans hv) hd f w) ⟨yv.refl _ _,zt ⟨b,_,_,hv,f,O⟩⟩
  ·cases h
 ·next e E B o lo n i v=>
  split at h
  ·next s C E1 a ix D=>
   have⟨bytes,q,A⟩:=K0 u J i;have⟨j,f,h,hc⟩:=Sj h;refine⟨_,h,?_⟩;intro env w S vs U G hl;have⟨ik,hd⟩:=hc P vs env S w<|Q hl;rcases(zj v (L hl):SU _ _ _ _).old with⟨b,m,cap,c,q1,q2,q3,q4,Y⟩|⟨q1,_⟩
   ·refine ur.of_value (Ca (vV u i) A Y hd f w) ⟨yv.refl _ _,zt ⟨b,_,_,q1,W,?_⟩⟩;show Value.pointer (Z ⟨b,0+lo*1+j*1,wF⟩)=Value.pointer (Z ⟨b,0+(lo+j)*1,wF⟩);rw[xaX,xcM]
   ·lia
  ·cases h
 ·next e E B o p i v=>
  split at h
  ·next s C E1 a ix D=>
   have⟨hf,h1⟩:=z7 h;cases hf;have⟨bytes,q,A⟩:=K0 u J i;have⟨j,f,h,hc⟩:=Sj h1;refine⟨_,h,?_⟩;intro env w S vs U G hl;have⟨ik,hd⟩:=hc P vs env S w<|Q hl;have T:(Aq e.rep C E1 (vs o) a ix).p S w:=Zk G D;have H:(xM<|vs o)[p]? =Z (ev env x):=zj v<|L hl;have⟨b,cap,hv,_⟩:=U9 (sB T H).1<|xaK (xac _) f;refine ur.of_value (Ca (vV u i) A hv hd f w) ⟨yv.refl _ _,zt ⟨λz=>Sub.self e.rep z,b,_,_,by rw[<-hv];exact H,f,by simp[Fl.self]⟩⟩
  ·cases h
 ·cases h
def zrp{α β:Type}{q:Prop}{e:zV α}{E off:K}{nl:α->α}{s:zV β}{E1:wT}{u:wN}{z:α}{xs:N β}(h:(mVr q e E off nl s E1 u z xs).p S w):
 X (xM u)=1/\q/\∃b,yC u=.pointer (Z ⟨b,0,wF⟩)/\(mB (UM e off nl<|xM u) E b (z,0)).p S w:=⟨h.1.1.1,h.1.1.2,h.1.2.1⟩
def zqR{α:Type}{q:Prop}{e:zV α}{E off:K}{nl:α->α}{u:wN}{z:α}(h:(mVh q e E off nl u z).p S w):
 X (xM u)=1/\q/\∃b,yC u=.pointer (Z ⟨b,0,wF⟩)/\(mB (UM e off nl<|xM u) E b (z,0)).p S w:=⟨h.1.1.1,h.1.1.2,h.1.2.1⟩
def zcM{n i j:K}{s:Ty}{k:Fl s.D->V R}(h:zhc n s i j k=Z r):i≠j/\∃f,xe n s i=Z f/\k f=Z r:=by
 have⟨h1,h⟩:=z6 h;split at h
 ·next f a=>
  refine⟨λe=> ?_,f,a,h⟩;simp_all
 ·cases h
def ML{o:K}{s a:Ty}{E E1 n j:K}{z:s.D}{Y:Od}(e:XT cx σ o=Z Y)(f:(∃xs,Y=.vr s E a E1 n j z xs)\/Y=.vh s E a E1 n j z)(h:yT S (MS vs σ.ob++(MS vs cx.ob++F)) w):
 vrP a (xe n s j)/\∃b,yC (vs o)=.pointer (Z ⟨b,0,wF⟩)/\(mB (UM s.rep (YL<|xe n s j) (uj a (xe n s j) [])<|xM<|vs o) E b (z,0)).p S w:=by
 have c:=Zk h e;rcases f with⟨xs,rfl⟩|rfl
 ·exact(zrp c).2
 ·exact(zqR c).2
def zcG(A:yZ P cf.tt){a:TI}{o:K}{s c:Ty}{E E1 n i j:K}{f:Fl s.D}{z:s.D}{Y:Od}{k:N (K×Dv)->V R}(B:Zx cf t=Z a)(hd:xo cx σ x=Z (.vf o s n i))(C:XT cx σ o=Z Y)
 (G:(∃xs,Y=.vr s E c E1 n j z xs)\/Y=.vh s E c E1 n j z) (H:i≠j) (e:xe n s i=Z f) (h:(Ty.cast f.f a.ty (f.get z) λy=>k [(0,.d a.ty y)])=Z r):
 ∃l,k l=Z r/\ES P ⟨d,.load t x,ty,pos,aft,g⟩ cx σ F l:=by
 have⟨m,h⟩:=z7 h;have⟨p,J,_⟩:=Z8 A B;have hc:=e;have⟨off,T,U,st⟩:=f;simp only at m;subst m;refine⟨_,h,kj λenv w S vs L hl=> ?_⟩;have⟨hi,b,h1,M⟩:=ML C G L;have⟨b',f',q,v,Q⟩:=zj hd (yA hl<|by simp[xaB]);rw[h1]at q;cases q;rw[hc]at v;cases v;exact⟨_,_,_,_,[],[mB (UM s.rep (YL<|xe n s j) (uj c (xe n s j) [])<|xM<|vs o) E b (z,0)],XG 0 O (Q.trans<|by rw[xaJ]) (zcQ hi hc H) J,⟨M,wR⟩,wR,λu w' _ e=>zt e.1⟩
def zmo(p:yZ P cf.tt){e:Ty}{q v:K}{o:K}{s a:Ty}{E E1 n i:K}{z:s.D}{xs:N a.D}{k:N (K×Dv)->V R}(A:Zx cf t=Z ⟨.l e,.sl q,v⟩)(B:xo cx σ x=Z (.vf o s n i))(C:XT cx σ o=Z (.vr s E a E1 n i z xs))
 (h:k [(0,.rw o 0)]=Z r):∃l,k l=Z r/\ES P ⟨d,.load t x,ty,pos,aft,g⟩ cx σ F l:=by
 have⟨c,hc,_⟩:=Z8 p A;refine⟨_,h,kj λenv w S vs G hl=> ?_⟩;have⟨⟨off,M,st,f⟩,b,h1,H⟩:=ML C (.inl ⟨_,O⟩) G;have⟨Q,f',j,m,J⟩:=zj B (yA hl<|by simp[xaB]);rw[h1]at j;cases j;rw[f]at m;cases m;exact⟨_,_,_,_,[],[mB (UM s.rep (YL<|xe n s i) (uj a (xe n s i) [])<|xM<|vs o) E b (z,0)],XG 0 O (J.trans<|by rw[xaJ,f];rfl) (Sub.hole) hc,⟨H,wR⟩,wR,λu w' _ L=>zt<|zcS L.1⟩
theorem zm1{k:N (K×Dv)->V R}(h:zgC cx σ x k=Z r):∃l,k l=Z r/\ES P ⟨d,.nilCheck x,ty,pos,aft,g⟩ cx σ F l:=by
 have a:∀{o E E1 n j:K}{s c:Ty}{z:s.D}{Y:Od},xo cx σ x=Z (.mw o)->XT cx σ o=Z Y->((∃xs,Y=.vr s E c E1 n j z xs)\/Y=.vh s E c E1 n j z)->k [(0,.mw o)]=Z r->
  ∃l,k l=Z r/\ES P ⟨d,.nilCheck x,ty,pos,aft,g⟩ cx σ F l:=λe f i h=>by
  refine⟨_,h,?_⟩;intro env w S vs q m hl;have⟨_,b,h1,_⟩:=ML f i m;have p:ev env x=yC (vs _):=zj e (yA hl<|by simp[xaB]);exact ur.of_value (by simp[jp,p,h1]) ⟨yv.refl _ _,zt h1.symm⟩
 unfold zgC at h;split at h
 ·next o e=>
  split at h
  ·next s E c E1 u j z xs f=>exact a e f (.inl ⟨_,O⟩) h
  ·grind
  ·cases h
 ·cases h
def zeG(A:yZ P cf.tt){i:K}{k:N (K×Dv)->V R}(h:NK cf cx σ t x i k=Z r):∃l,k l=Z r/\ES P ⟨d,.fieldAddr t x i,ty,pos,aft,g⟩ cx σ F l:=by
 have C:∀{vs env S w},(∀G∈yN (.fieldAddr t x i),Lk P vs env S w cx σ G)->Xd P vs env S w cx σ x:=λhl=>yA hl<|by simp[xaB]
 have c:∀{o E E1 n j:K}{s p:Ty}{z:s.D}{Y:Od}{B:K},Zx cf t=Z ⟨s,.st n,B⟩->xo cx σ x=Z (.mw o)->XT cx σ o=Z Y->((∃xs,Y=.vr s E p E1 n j z xs)\/Y=.vh s E p E1 n j z)->(xe n s i).isSome=I->k [(0,.vf o s n i)]=Z r->
  ∃l,k l=Z r/\ES P ⟨d,.fieldAddr t x i,ty,pos,aft,g⟩ cx σ F l:=λq u m H v h=>by
  have⟨f,v⟩:=Option.isSome_iff_exists.1 v;refine⟨_,h,?_⟩;intro env w S vs Q J hl;have⟨_,b,h1,_⟩:=ML m H J;have L:ev env x=yC (vs _):=zj u<|C hl;exact ur.of_value (oD (RJ A q v) (L.trans h1) w) ⟨yv.refl _ _,zt ⟨b,f,h1,v,O⟩⟩
 unfold NK at h;split at h
 ·next e n B o q u=>
  split at h
  ·next s E p E1 M j z xs m=>
   have⟨a,h⟩:=z6 h;rw[xab,xab]at a;obtain rfl:=zY a.1.1;obtain rfl:=Qa a.1.2;exact c q u m (.inl ⟨_,O⟩) a.2 h
  ·next s E p E1 M j z m=>
   have⟨a,h⟩:=z6 h;rw[xab,xab]at a;obtain rfl:=zY a.1.1;obtain rfl:=Qa a.1.2;exact c q u m (.inr O) a.2 h
  ·cases h
 ·cases h
def zkg(L:yZ P cf.tt){k:N (K×Dv)->V R}(h:zbo cf cx σ t x k=Z r):∃l,k l=Z r/\ES P ⟨d,.load t x,ty,pos,aft,g⟩ cx σ F l:=by
 have hx:∀{vs env S w},(∀t'∈yN (.load t x),Lk P vs env S w cx σ t')->Xd P vs env S w cx σ x:=λhl=>yA hl (by simp[xaB]);unfold zbo at h;split at h
 ·next e E B o j ht C=>
  split at h
  ·next s Q E1 a ix v=>
   have⟨M,hi,_⟩:=Z8 L ht;have⟨q,Y,h⟩:=xI h;refine⟨_,h,kj λenv w S vs hM hl=> ?_⟩;have hm:(Aq s.rep Q E1 (vs o) a ix).p S w:=Zk hM v;have⟨b,m,A,h1,T,h3⟩:=zj C<|hx hl;have⟨a1,a2,a3⟩:=NG hm;have hn:m=X ix:=by
    have⟨cs,h5,h6⟩:=a2;rcases h5.2 with⟨hv,h7⟩|⟨g',c,a0,hv,_⟩
    ·rw[h1]at hv;cases hv
    ·rw[h1]at hv;cases hv;rfl
   have⟨b',c,hv,J⟩:=U9 a2 W;rw[h1]at hv;cases hv;have hc:=Sub.rowT0 (YO<|xM<|vs o) A ix j (ix.getD j 0)<|getD_some 0 T;exact⟨_,_,_,_,[],[mB (rowT (YO<|xM<|vs o) A) Q b ix],XG 0 O h3 hc hi,⟨J,wR⟩,wR,λu w' _ G=>zt (by
    have:=zcS G.1;rw[<-Y]at this;exact this)⟩
  ·cases h
 ·next ti o e p j f hd C=>
  split at h
  ·next s Q E1 a ix v=>
   have⟨U,h1⟩:=z7 h;cases U;have⟨q,Y,T⟩:=xI h1;have⟨U,h⟩:=z7 T;have⟨M,hi,_⟩:=Z8 L hd;have⟨off,ff,gt,st⟩:=f;simp only at U;subst U;refine⟨_,h,kj λenv w S vs hM hl=> ?_⟩;have hm:(Aq e.rep Q E1 (vs o) a ix).p S w:=Zk hM v;have⟨h0,b,m,cap,h1,T,h3⟩:=zj C<|hx hl;have hr:=(sB hm h1).1;have hn:m=X (uF (α:=e.D) a p):=by
    have⟨cs,h5,h6⟩:=hr;rcases h5.2 with⟨hv,h7⟩|⟨g',c,a0,hv,_⟩
    ·cases hv
    ·cases hv;rfl
   have⟨b',c,hv,J⟩:=U9 hr W;cases hv;have hc:=(Sub.rowT0 e.rep cap (uF (α:=e.D) a p) j ((uF (α:=e.D) a p).getD j e.z)<|getD_some e.z W).comp<|h0<|(uF (α:=e.D) a p).getD j e.z;subst Y;exact⟨_,_,_,_,[],[mB (rowT e.rep cap) E1 b<|uF (α:=e.D) a p],XG 0 O h3 hc hi,⟨J,wR⟩,wR,λu w' _ G=>zt G.1⟩
  ·cases h
 ·next ti o s0 n0 i hd C=>
  split at h
  ·next s E s1 E1 n j z xs v=>
   have⟨H,h⟩:=z6 h;rw[xab]at H;obtain rfl:=zY H.1;obtain rfl:=Qa H.2;cases J:xaf i j<;>rw[J]at h
   ·have⟨hj,f,G,h⟩:=zcM h;exact zcG L hd C v (.inl ⟨_,O⟩) hj G h
   ·obtain rfl:=zY J;have h:zmk ti o k=Z r:=h;unfold zmk at h;split at h
    ·next e E2 B2=>exact zmo L hd C v h
    ·cases h
  ·next s E s1 E1 n j z v=>
   have⟨H,h⟩:=z6 h;rw[xab]at H;obtain rfl:=zY H.1;obtain rfl:=Qa H.2;have⟨hj,f,G,h⟩:=zcM h;exact zcG L hd C v (.inr O) hj G h
  ·cases h
 ·cases h
def zeB(H:yZ P cf.tt)(hL:uz P cf.tt){lo hi:V wW}{k:N (K×Dv)->V R}(h:LH cf cx σ t x lo hi k=Z r):∃l,k l=Z r/\ES P ⟨d,.slice t x lo hi wF,ty,pos,aft,g⟩ cx σ F l:=by
 have hx:∀{vs env S w},(∀C∈yN (.slice t x lo hi wF),Lk P vs env S w cx σ C)->Xd P vs env S w cx σ x:=λhl=>yA hl (by simp[xaB]);have U:∀{vs env S w z},lo=Z z->(∀C∈yN (.slice t x lo hi wF),Lk P vs env S w cx σ C)->Xd P vs env S w cx σ z:=λe hl=>yA hl (by simp[xaB,e]);have hc:∀{vs env S w z},hi=Z z->(∀C∈yN (.slice t x lo hi wF),Lk P vs env S w cx σ C)->Xd P vs env S w cx σ z:=λe hl=>yA hl (by simp[xaB,e]);unfold LH at h;split at h
 ·next e E B o L hk=>
  split at h
  ·next s E' E1 M ix ho=>
   have⟨bytes,Y,hd⟩:=K0 H hL L
   have u:∀(l m:K),l<=m->m<=X ix->k [(0,.mv o l<|m-l)]=Z r->(∀vs env S w,(∀C∈yN (.slice t x lo hi wF),Lk P vs env S w cx σ C)->((lo.map<|ev env)=Z (.int .i64 (l:J))\/(lo=wF/\l=0))/\((hi.map<|ev env)=Z (.int .i64 (m:J))\/(hi=wF/\m=X ix)))->
    ∃l,k l=Z r/\ES P ⟨d,.slice t x lo hi wF,ty,pos,aft,g⟩ cx σ F l:=by
    intro l m h1 j h5 h4;refine⟨_,h5,λenv w S vs hS hM hl=> ?_⟩;have⟨h6,Q⟩:=h4 vs env S w hl;have he:ev env x=yC (vs o):=zj hk<|hx hl;have hm:(Aq s.rep E' E1 (vs o) M ix).p S w:=Zk hM ho;rcases eC (NG hm).2.1 with⟨hv,hf⟩|⟨b,cap,hv,hg,hn⟩
    ·rw[hf]at j Q;obtain rfl:m=0:=Nat.le_zero.1 j;obtain rfl:l=0:=Nat.le_zero.1 h1;have G:=Lu (P:=P) (w:=w) (vV H L) hd (h6.imp id λq=>by rw[q.1];rfl) (Q.imp id λq=>by rw[q.1];rfl);refine ur.of_value (v:=.slice wF 0 0) (w':=w) (by simp[jp,he.trans hv,G]) ⟨yv.refl _ _,zt (.inr ⟨hv,O,O,O⟩)⟩
    ·have G:=CJ (P:=P) (b:=b) (o:=0) (n:=X ix) (cap:=cap) (w:=w) (l:=l) (h:=m) (vV H L) hd (h6.imp id λq=>⟨by rw[q.1];rfl,q.2⟩) (Q.imp id λq=>⟨by rw[q.1];rfl,q.2⟩) h1<|xae j hg;rw[<-hv,<-he]at G;refine ur.of_value (v:=.slice (if cap=l then Z ⟨b,0,wF⟩else Z ((⟨b,0,wF⟩:JP).add<|l*1)) (m-l)<|cap-l) (w':=w) (by simp[jp,G,Ty.rep,eS]) ⟨yv.refl _ _,zt ?_⟩;exact .inl ⟨b,X ix,cap,hv,W,hg,W,by rw[jq]⟩
   rcases ab h with⟨e1,h1⟩|⟨zl,l,e1,h1,hj⟩
   ·rcases ab h1 with⟨A,j⟩|⟨zh,m,A,j,T⟩
    ·have⟨a,c,q1,q2,D,f,i⟩:=Mr j;exact u a c q1 q2 D λvs env S w hl=>⟨.inr ⟨e1,(f.resolve_left iP).2⟩,.inr ⟨A,(i.resolve_left iP).2⟩⟩
    ·have⟨a,c,q1,q2,D,f,i⟩:=Mr j;obtain i|⟨i,_⟩:=i
     ·cases i;exact u a m q1 q2 D λvs env S w hl=>⟨.inr ⟨e1,(f.resolve_left iP).2⟩,.inl<|by rw[A];exact kW Z<|T P vs env S w<|hc A hl⟩
     ·cases i
   ·rcases ab h1 with⟨A,j⟩|⟨zh,m,A,j,T⟩
    ·have⟨a,c,q1,q2,D,f,i⟩:=Mr j;obtain f|⟨f,_⟩:=f
     ·cases f;exact u l c q1 q2 D λvs env S w hl=>⟨.inl (by rw[e1];exact kW Z<|hj P vs env S w<|U e1 hl),.inr ⟨A,(i.resolve_left iP).2⟩⟩
     ·cases f
    ·have⟨a,c,q1,q2,D,f,i⟩:=Mr j;obtain f|⟨f,_⟩:=f
     ·obtain i|⟨i,_⟩:=i
      ·cases f;cases i;exact u l m q1 q2 D λvs env S w hl=>⟨.inl (by rw[e1];exact kW Z<|hj P vs env S w<|U e1 hl),.inl<|by rw[A];exact kW Z<|T P vs env S w<|hc A hl⟩
      ·cases i
     ·cases f
  ·cases h
 ·cases h
def zn8(D:yZ P cf.tt){i:ul wW}{ts:ul wT}{k:N (K×Dv)->V R}(h:zeU cf cx σ i.toList ts.toList k=Z r):
 ∃l,k l=Z r/\ES P ⟨d,.call ⟨.builtin .len,i,ts⟩,ty,pos,aft,g⟩ cx σ F l:=by
 unfold zeU at h;split at h
 ·next _ _ x t hg hi=>
  obtain rfl:i= #[x]:=by cases i;simp_all
  obtain rfl:ts= #[t]:=by cases ts;simp_all
  have J:∀{vs env S w},(∀T∈yN (.call ⟨.builtin .len,#[x],#[t]⟩),Lk P vs env S w cx σ T)->Xd P vs env S w cx σ x:=λhl=>yA hl (by simp[xaB,xex]);split at h
  ·next e E B o j q=>
   split at h
   ·next s v E1 f ix A=>
    refine⟨_,h,kj λenv w S vs G hl=> ?_⟩;have C:(Aq s.rep v E1 (vs o) f ix).p S w:=Zk G A;exact⟨_,_,_,_,[],[mO (YO<|xM<|vs o) v (yC<|vs o) ix],B6 0 O (vV D j)<|zj q<|J hl,⟨(NG C).2.1,wR⟩,wR,λu w' H L=>zt<|wB<|Hq H⟩
   ·cases h
  ·next e E B o lo n j q=>
   split at h
   ·next s v E1 f ix A=>
    refine⟨_,h,zF λenv w S vs hl=> ?_⟩;rcases(zj q (J hl):SU _ _ _ _).old with⟨b,m,cap,c,q1,q2,M,q4,U⟩|⟨q1,ao,c,q2,M⟩
    ·exact⟨_,RI (vV D j) U w,zt<|wB<|Hq W⟩
    ·subst q1;exact⟨_,RI (vV D j) M w,zt<|wB iI⟩
   ·cases h
  ·next e E B o p j q=>
   split at h
   ·next s v E1 f ix A=>
    refine⟨_,h,kj λenv w S vs G hl=> ?_⟩;have C:(Aq s.rep v E1 (vs o) f ix).p S w:=Zk G A;have hc:(xM<|vs o)[p]? =Z (ev env x):=zj q<|J hl;exact⟨_,_,_,_,[],[mO s.rep E1 (ev env x)<|uF f p],B6 0 O (vV D j) O,⟨(sB C hc).1,wR⟩,wR,λu w' H L=>zt<|wB<|Hq H⟩
   ·next s v Q E1 n' i' z xs A=>
    refine⟨_,h,kj λenv w S vs G hl=> ?_⟩;have C:=Zk G A;have hc:(xM<|vs o)[p]? =Z (ev env x):=zj q<|J hl;have Y:X (xM<|vs o)=1:=C.1.1.1;have hd:(mO Q.rep E1 ((xM<|vs o).headD uL) xs).p S w:=C.1.2.2.1;have hp:(xM<|vs o).headD uL=ev env x:=by
     have⟨a,ha⟩:=xcR.1 Y;rw[ha]at hc⊢
     cases p with
     |zero=>simpa using hc
     |succ p=>simp at hc
    rw[hp]at hd;exact⟨_,_,_,_,[],[mO Q.rep E1 (ev env x) xs],B6 0 O (vV D j) O,⟨hd,wR⟩,wR,λu w' H L=>zt<|wB<|Hq H⟩
   ·cases h
  ·cases h
 ·cases h
def Tru:K->Prop:=λ_=>Z5
def za9(f:FF)(h:f.p S w):f.p Tru w:=f.sub h λ_ _ _=>wR
def pW(D:∀s∈cf.cs,xh P s):∀{dom:N AM}{xs:N wW}{cs:N PD}{k:cj dom->V R},QG cf cx σ dom xs cs k=Z r->
 ∃z,k z=Z r/\X xs+X cs=X dom/\∀vs env S w,yT S (MS vs σ.ob++(MS vs cx.ob++F)) w->(∀x∈xs,Xd P vs env S w cx σ x)->∀a:N wN,X a=X cs->zE S (Gh cs a) w->zE Tru (ky P dom z<|xs.map (ev env)++a) w
 |[],[],[],k,h=>⟨(),h,O,λ_ _ _ _ _ _ _ _ _=>wR⟩
 |.q t::dom,[],c::cs,k,h=>by
  simp only[QG]at h;have⟨e,h⟩:=z7 h;subst e;have⟨z,h1,u,A⟩:=pW D h;refine⟨_,h1,by simp at u⊢;lia,λvs env S w i hl a j l=> ?_⟩
  cases a with
  |nil=>cases j
  |cons v a=>exact⟨za9 _ l.1,A vs env S w i hl a (by simpa using j) l.2⟩
 |.d t::dom,x::xs,cs,k,h=>by
  simp only[QG]at h;split at h
  ·next o lo n hc=>
   split at h
   ·next s E E1 B ix L=>
    have⟨e,h⟩:=z7 h;subst e;have⟨z,h1,u,A⟩:=pW D h;refine⟨_,h1,by simp at u⊢;lia,λvs env S w i hl a j l=>⟨?_,A vs env S w i (λz G=>hl z<|UV _ G) a j l⟩⟩;have M:(Aq s.rep E E1 (vs o) B ix).p S w:=Zk i L;have⟨Q,T,a3⟩:=NG M;have U:(mO (eS s.rep) E (yC<|vs o)<|zdf B ix).p Tru w:=by
     have⟨C,q1,q2⟩:=T;refine⟨C,by unfold zdf;rw[xaZ];exact q1,?_⟩;exact tP Q (λ_ _=>wR) (λ_ _ _ _=>wR) a3 q2
    show(fV (eS<|eS s.rep) (xdu n<|xdI lo<|zdf B ix)<|ev env x).p Tru w;rcases(zj hc (hl x<|FS):SU _ _ _ _).old with⟨b,m,cap,c,q1,q2,H,Y,q5⟩|⟨q1,J,c,q2,H⟩
    ·have:=MW U q1 q2 H Y;rw[q5];have⟨J,c',p1,p2,p3,p4⟩:=this;refine xC.2 ⟨J,c',p1,p2,p3,p4.imp id ?_⟩;rintro⟨b',o',C,r1,r2,r3⟩;exact⟨b',o',C,r1,wR,r2,r3⟩
    ·subst q1;rw[H];exact xC.2 ⟨J,c,iP,iP,by unfold Ww;lia,.inl iP⟩
   ·cases h
  ·have⟨y,h,hy⟩:=VB h;have⟨z,h1,u,A⟩:=pW D h;exact⟨_,h1,by simp at u⊢;lia,λvs env S w i hl a j l=>⟨za9 _<|hy P vs env S w<|hl x<|FS,A vs env S w i (λz G=>hl z<|UV _ G) a j l⟩⟩
 |.fn K cod::dom,x::xs,cs,k,h=>by
  simp only[QG]at h;have⟨f,h,hf⟩:=zfx D h;have⟨z,h1,u,A⟩:=pW D h;refine⟨_,h1,by simp at u⊢;lia,λvs env S w i hl a j l=>⟨?_,A vs env S w i (λz G=>hl z<|UV _ G) a j l⟩⟩
  cases hv:xo cx σ x with
  |none=>rename_i h0;rw[hv]at h0;simp[asF]at h0
  |some v=>exact za9 _<|hf vs S w v _ hv<|zj hv<|hl x<|FS
 |[],_::_,_,_,h=>by simp[QG]at h
 |[],[],_::_,_,h=>by simp[QG]at h
 |.d _::_,[],_,_,h=>by simp[QG]at h
 |.own _ _::_,_,_,_,h=>by simp[QG]at h
 |.q _::_,_::_,_,_,h=>by simp[QG]at h
 |.fn _ _::_,[],_,_,h=>by simp[QG]at h
 |.q _::_,[],[],_,h=>by simp[QG]at h
def Nj:∀{rs:N RM}{x:Iq (rs.map RM.ty)}{us:N wN},P0 rs=I->zE Tru (csF (rs.map RM.ty) x us) w->zE S (csF (rs.map RM.ty) x us) w
 |[],_,_,_,_=>trivial
 |[.d .i],x,us,_,h=>⟨h.1,wR⟩
 |[.d .u],x,us,_,h=>⟨h.1,wR⟩
 |[.d .b],x,us,_,h=>⟨h.1,wR⟩
 |.d .i::n::r,x,us,a,h=>⟨h.1,Nj (rs:=n::r) a h.2⟩
 |.d .u::n::r,x,us,a,h=>⟨h.1,Nj (rs:=n::r) a h.2⟩
 |.d .b::n::r,x,us,a,h=>⟨h.1,Nj (rs:=n::r) a h.2⟩
def zjl(p:∀s∈cf.cs,xh P s)(H:Cx P cf){f:wW}{a:ul wW}{ts:ul wT}{k:N (K×Dv)->V R}(h:Tv cf cx σ f a.toList k=Z r):
 ∃l,k l=Z r/\ES P ⟨d,.call ⟨.value f,a,ts⟩,ty,pos,aft,g⟩ cx σ F l:=by
 have u:∀{vs env S w},(∀i∈yN (.call ⟨.value f,a,ts⟩),Lk P vs env S w cx σ i)->Xd P vs env S w cx σ f:=λhl=>yA hl (by simp[xaB,xex]);have A:∀{vs env S w},(∀i∈yN (.call ⟨.value f,a,ts⟩),Lk P vs env S w cx σ i)->∀x∈a.toList,Xd P vs env S w cx σ x:=λhl x j=>yA hl (by simp only[xaB,xex,xeT,So];exact .inr j);unfold Tv at h;split at h
 ·next f0 cs B=>
  split at h
  ·next s m=>
   have⟨h1,c⟩:=zfT m;have⟨C,e⟩:=H.cl s h1;have⟨z,h,hd,n⟩:=Cw h;refine⟨_,h,kj λenv w S vs D hl=> ?_⟩;have⟨b,hv,o,E⟩:=zj B<|u hl;obtain rfl:b=[]:=xbv.1 o;have hc:=e z (a.toList.map<|ev env) (by simpa using hd);rw[c]at hc C;rw[<-xbB<|a.toList.map<|ev env]at hc;exact⟨_,_,_,_,tsF s.dom z<|a.toList.map (ev env)++[],[],rF (aas:=a.toList) C hv hc O<|λS w h=>h,wR,by rw[xbB];exact n P vs env S w<|A hl,λv w' _ hi=>zt hi.1⟩
  ·split at h
   ·next s m=>
    have⟨h1,c,J,L,G⟩:=B4 m;have e:=p s h1;have⟨hn,h⟩:=z6 h;have⟨z,h,hd,n⟩:=pW (F:=F) p h;have⟨q,M,h⟩:=iH h;refine⟨_,h,λenv w S vs Q D hl=> ?_⟩;have⟨b,hv,o,E⟩:=zj B<|u hl;have hc:=mW e J L G M (us:=a.toList.map (ev env)++b) (by simp at hd⊢;lia);rw[c]at hc;have T:=n vs env S w D (A hl) b o E;refine(rF (aas:=a.toList) (ms:=[]) (Γ:=ky P s.dom z<|a.toList.map (ev env)++b) (c▸e.1) hv hc O (λS w h=>h) w Tru ⟨λ_ _=>wR,Q.gv⟩ wR T).mono ?_;rintro v w' ⟨us,rfl,U,j,hi⟩;refine⟨j,?_⟩;unfold zjH;rw[Lf G,R7];exact DG (Nj hn hi)<|by simpa using U
   ·cases h
 ·cases h
def zrC(a:yZ P cf.tt)(b:uz P cf.tt)(e:∀s∈cf.cs,xh P s)(f:Cx P cf){c:Op}{k:N (K×Dv)->V R}(h:eCo cf cx σ c k=Z r):∃l,k l=Z r/\ES P ⟨d,c,ty,pos,aft,g⟩ cx σ F l:=by
 unfold eCo at h;split at h
 ·exact zkg a h
 ·exact zie a b h
 ·exact zeG a h
 ·exact zeB a b h
 ·exact zn8 a h
 ·exact zjl e f h
 ·exact zm1 h
 ·cases h
def zhG(b:yZ P cf.tt)(c:uz P cf.tt)(e:∀s∈cf.cs,xh P s)(f:Cx P cf){a:Op}{k:N (K×Dv)->V R}(h:eOp cf cx σ a k=Z r):∃l,k l=Z r/\ES P ⟨d,a,ty,pos,aft,g⟩ cx σ F l:=by
 unfold eOp at h;cases hc:zp1 cf cx σ a<;>rw[hc]at h
 ·exact zns b c e f.ex h
 ·exact zrC b c e f h
end
end
section
section
variable{P:jP}{cf:Cf}{fr:Fr}{cx σ:Sg}{vs vs':wr->wN}{env:y4}{w:wP}{R:Type}{r:R}
 {d:ww Z4}{ty t yt:wT}{pos:String}{aft:ul Edge}{g:ww (wr×v6)}{x y:wW}
abbrev GS(P:jP)(vs:K->wN)(env:y4)(fr:Fr)(cx σ:Sg):N FF:=RS P vs env σ.rg++(RS P vs env cx.rg++fr.G)
abbrev OS(vs:K->wN)(fr:Fr)(cx:Sg)(ob:N (K×Od)):N MF:=MS vs ob++(MS vs cx.ob++fr.F)
def X6{S:K->Prop}(h:zE S (GS P vs env fr cx σ) w)(t:Z4):Lk P vs env S w cx σ t:=by
 intro i dv hd;obtain hm|hm:=NR hd
 ·exact UB (zE.left h) hm
 ·exact UB (zE.left<|zE.right h) hm
def zL{S:K->Prop}(h:zE S (GS P vs env fr cx σ) w)(x:wW):Xd P vs env S w cx σ x:=λt _=>X6 h t
def cV(P:jP)(fr:Fr)(cx σ:Sg)(vs:K->wN)(env:y4)(w:wP):Prop:=Bd cx σ/\St fr.we fr.Se (OS vs fr cx σ.ob) (GS P vs env fr cx σ) w
def mI(P:jP)(fr:Fr)(cx:Sg)(n:K)(vs:K->wN)(σ:Sg)(env:y4)(w:wP):Prop:=∃vs',(∀o,o<n->vs' o=vs o)/\cV P fr cx σ vs' env w
def mI.rel{n:K}(h:mI P fr cx n vs σ env w):Z1 P fr cx σ env w:=by
 have⟨vs',_,h1,a⟩:=h;exact⟨h1,vs',a⟩
theorem LX{v:wN}{σ':Sg}{l:N (K×Dv)}{Γl:N FF}(c:Bd cx σ)(hd:xU cx d=I)(i:σ'.rg=v7 σ.rg d l)(hn:σ.nx<=σ'.nx)(j:∀o,o<σ.nx->vs' o=vs o)
 (hl:∀e∈l,∀o,vn e.2=Z o->o<σ'.nx) (hi:∀e∈σ'.ob,e.1<σ'.nx) (s:∀S w,zE S Γl w->∀e∈l,(vX P vs' e.2 v e.1).p S w)
 (u:St fr.we fr.Se (OS vs' fr cx σ'.ob) (Γl++GS P vs env fr cx σ) w):cV P fr cx σ' vs' (put env d v) w:=by
 refine⟨⟨hi,λe he=>xaj (c.o2 e he) hn,?_,λe he o a=>xaj (c.r2 e he o a) hn⟩,u.weak λS w h=> ?_⟩
 ·intro e he o a;rw[i]at he;unfold v7 at he
  cases d with
  |none=>exact xaj (c.r1 e he o a) hn
  |some t=>
   obtain he|he:=So.1 he
   ·grind
   ·exact xaj (c.r1 e (xbY.1 he).1 o a) hn
 ·have b:=zE.right h;have h1:zE S (RS P vs' env σ.rg) w:=by rw[qJ (λe he o a=>j o<|c.r1 e he o a)<|λ_ _=>O];exact zE.left b
  have k:zE S (RS P vs' env cx.rg) w:=by rw[qJ (λe he o a=>j o<|c.r2 e he o a)<|λ_ _=>O];exact zE.left<|zE.right b
  have m:=zE.right<|zE.right b
  cases d with
  |none=>
   unfold GS;rw[show σ'.rg=σ.rg from i];exact zE.append h1<|zE.append k m
  |some t=>
   have z:RS P vs' (put env (Z t) v) cx.rg=RS P vs' env cx.rg:=qJ (λ_ _ _ _=>O) λe he=>nM λn=>by
    simp only[xU,Y5,xaQ]at hd;have:=hd e he;simp only[xat]at n;rw[n]at this;simp at this
   unfold GS;rw[i,z];refine zE.append (jW.2 λf A=> ?_)<|zE.append k m;obtain⟨e,he,rfl⟩:=xap.1 A;obtain he|he:=So.1 he
   ·obtain⟨B,hp,rfl⟩:=xap.1 he;simp only[Ed];exact s S w (zE.left h) B hp
   ·have⟨C,q⟩:=xbY.1 he;have D:Z t≠Z e.1:=λhc=>by
     simp only[xat]at hc;rw[hc]at q;simp at q
    rw[nM D];exact UB h1 C
def Ka{v:wN}{σ':Sg}{l:N (K×Dv)}{Γl:N FF}(b:Bd cx σ)(hd:xU cx d=I)(c:σ'.rg=v7 σ.rg d l)(hn:σ.nx<=σ'.nx)(a:∀o,o<σ.nx->vs' o=vs o)
 (hl:∀e∈l,∀o,vn e.2=Z o->o<σ'.nx) (hc:∀e∈σ'.ob,e.1<σ'.nx) (f:∀S w,zE S Γl w->∀e∈l,(vX P vs' e.2 v e.1).p S w)
 (h:St fr.we fr.Se (OS vs' fr cx σ'.ob) (Γl++GS P vs env fr cx σ) w):mI P fr cx σ.nx vs σ' (put env d v) w:=⟨vs',a,LX b hd c hn a hl hc f h⟩
def znE(P:jP)(vs:K->wN)(v:wN)(l:N (K×Dv)):N FF:=l.map λe=>vX P vs e.2 v e.1
def H3{n:K}{l:N (K×Dv)}(h:okL n l=I):∀e∈l,∀o,vn e.2=Z o->o<n:=by
 intro e a o b;unfold okL at h;rw[xaQ]at h;have:=h e a;simp_all
def ES.mono{o:ut}{l:N (K×Dv)}{F:N MF}(h:ES P o cx σ [] l):ES P o cx σ F l:=by
 intro env w S vs h1 a b;refine h env w S vs h1 (Yi.2 λm hm=>Yi.1 a m ?_) b;obtain hm|hm:=So.1 hm
 ·simp_all
 ·simp_all
def zlc{o:ut}{l:N (K×Dv)}(h:ES P o cx σ fr.F l)(hd:xU cx o.dst=I)(hl:okL σ.nx l=I)(s:cV P fr cx σ vs env w):ur P o env w (λv w'=>mI P fr cx σ.nx vs (σ.put o.dst l) (put env o.dst v) w'):=by
 have⟨c,h1,j,u,S,z,n,A,b,p⟩:=s;refine(h env w S vs (j.at h1 n) b λt _=>X6 p t).mono ?_;rintro v w' ⟨a,G⟩;refine Ka c hd O (IR _) (λ_ _=>O) (H3 hl) c.o1 (λS w B e q=>jW.1 B _<|xap.2 ⟨e,q,O⟩) ?_;refine⟨h1.trans a,j,u,S,z,λk C=>n k<|xae a.size C,A,yT.keep a.to (λm D i hi=>a.block i (yT.lt b m D i hi) wR) b,zE.append (jW.2 λf E=> ?_)<|zE.keep a.to p⟩;obtain⟨e,q,rfl⟩:=xap.1 E;simp_all
def da(P:jP)(cx:Sg)(o:ut)(σ:Sg)(k:Sg->V R)(r:R):Prop:=∃σ',k σ'=Z r/\σ.nx<=σ'.nx/\∀(fr:Fr) (vs:K->wN) (env:y4) (w:wP),cV P fr cx σ vs env w->ur P o env w (λv w'=>mI P fr cx σ.nx vs σ' (put env o.dst v) w')
def m_E(b:yZ P cf.tt)(c:uz P cf.tt)(e:∀s∈cf.cs,xh P s)(f:Cx P cf){a:Op}{k:Sg->V R}(hd:xU cx d=I)(h:mE cf cx σ d a k=Z r):da P cx ⟨d,a,ty,pos,aft,g⟩ σ k r:=by
 obtain⟨l,h,i⟩:=zhG b c e f h;obtain⟨hl,h⟩:=z6 h;exact⟨_,h,IR _,λfr vs env w j=>zlc i.mono hd hl j⟩
def X5(vs:K->wN)(n:K)(v:wN):K->wN:=λo=>bif F o n then v else vs o
def xK{n:K}{v:wN}:X5 vs n v n=v:=by simp[X5]
def jS{n o:K}{v:wN}(h:o<n):X5 vs n v o=vs o:=by unfold X5;rw[YG W];rfl
def ziC{n:K}{v:wN}{ob:N (K×Od)}(h:∀e∈ob,e.1<n):MS (X5 vs n v) ob=MS vs ob:=wx λe a=>jS<|h e a
def LK{v:wN}{ob:N (K×Od)}(a:Bd cx σ)(h:∀e∈ob,e.1<σ.nx):OS (X5 vs σ.nx v) fr cx ob=OS vs fr cx ob:=by
 show MS _ ob++(MS _ cx.ob++_)=_;rw[ziC h,ziC a.o2]
theorem QY{v:wN}{mk:K->Dv}{X:Od}{ob:N (K×Od)}(a:Bd cx σ)(hd:xU cx d=I)(b:∀e∈ob,e.1<σ.nx)(i:∀o,vn (mk o)=Z o)(c:∀S w,(wV P (X5 vs σ.nx v) (mk σ.nx) v).p S w)
 (hc:St fr.we fr.Se (Ki (X5 vs σ.nx v) (σ.nx,X)::OS vs fr cx ob) (GS P vs env fr cx σ) w):mI P fr cx σ.nx vs ⟨σ.nx+1,v7 σ.rg d [(0,mk σ.nx)],(σ.nx,X)::ob⟩ (put env d v) w:=by
 refine Ka (vs':=X5 vs σ.nx v) (Γl:=[]) a hd O (xbD _) (λo f=>jS f) ?_ ?_ ?_ ?_
 ·simp_all
 ·grind
 ·intro S w _ e h;obtain rfl:=xad.1 h;exact c S w
 ·show St _ _ (Ki (X5 vs σ.nx v) (σ.nx,X)::OS (X5 vs σ.nx v) fr cx ob) _ _;rw[LK a b];exact hc
def Q8{v:wN}(S:K->Prop)(w:wP):(wV P (X5 vs σ.nx v) (.ow σ.nx) v).p S w:=(xK).symm
def PN{t:Ty}{b:K}(S:K->Prop)(w:wP):(wV P (X5 vs σ.nx (.pointer<|some ⟨b,0,wF⟩)) (.vs σ.nx t) (.pointer<|some ⟨b,0,wF⟩)).p S w:=⟨xK.symm,b,xK⟩
def JF{t:Ty}{E:wT}{xs:N t.D}{n:K}{v:wN}:Ki (X5 vs n v) (n,.own t E xs)=mO t.rep E v xs:=by simp only[Ki,xK]
def IZ{t:Ty}{E:wT}{z:t.D}{n:K}{v:wN}:Ki (X5 vs n v) (n,.var t E z)=mP t.rep.c E v z:=by simp only[Ki,xK]
def zkk(j:yZ P cf.tt){E:wT}{k:Sg->V R}(hd:xU cx d=I)(h:zaO cf σ d E k=Z r):da P cx ⟨d,.alloc E,ty,pos,aft,g⟩ σ k r:=by
 unfold zaO at h;split at h
 ·next a l=>
  have⟨f,m,s,hc⟩:=Z8 j l;refine⟨_,h,xbD _,λfr vs env w n=> ?_⟩;have⟨i,p⟩:=n;refine(tQ (e:=a.ty.rep.c) m hc w p).mono ?_;rintro v w' ⟨b,rfl,_,q⟩;refine QY (mk:=λo=> .vs o a.ty) i hd i.o1 (λ_=>O) (λS w=>PN S w) ?_;rw[IZ];exact q.toP 0 O
 ·cases h
def zpl{E:wT}{k:Sg->V R}(hd:xU cx d=I)(h:zny cf cx σ d E x k=Z r):da P cx ⟨d,.box E x,ty,pos,aft,g⟩ σ k r:=by
 unfold zny at h;split at h
 ·next c hc=>
  have⟨y,h,e⟩:=VB h;refine⟨_,h,xbD _,λfr vs env w f=> ?_⟩;have⟨a,i⟩:=f;refine(zkm O (λS w j=>e P vs env S w<|zL j x) w i).mono ?_;rintro v w' ⟨b,rfl,_,l⟩;refine QY (mk:=λo=> .vs o c.ty) a hd a.o1 (λ_=>O) (λS w=>PN S w) ?_;rw[IZ];exact l.toP 0 O
 ·cases h
def zcz(h:zcn x y=I):ev env x=ev env y:=by
 unfold zcn at h;split at h
 ·rw[zY h]
 ·simp only[eqI,Qr]at h;rw[h]
 ·cases h
def zl0(a:yZ P cf.tt){k:Sg->V R}(hd:xU cx d=I)(h:zfM cf cx σ d t x y k=Z r):da P cx ⟨d,.makeSlice t x y,ty,pos,aft,g⟩ σ k r:=by
 unfold zfM at h;split at h
 ·next s E B C=>
  have⟨hi,h⟩:=z6 h;split at h
  ·next f n i hn=>
   have⟨D,h⟩:=z7 h;subst D;have⟨l,hl,L,F⟩:=Z8 a i;have⟨j,G,h⟩:=zby h;have⟨m,h⟩:=Zm h;have⟨xs,o,h⟩:=xI h;refine⟨_,h,xbD _,λfr vs env w H=> ?_⟩;have⟨p,q⟩:=H;have⟨S0,_,c⟩:=q.ex;have u:ev env x=.int .i64 (j:J):=by rw[(wY hn<|zL c x).1,G]
   have A:=(a _ _ i).2.1;refine(P8 (e:=f.ty.rep) (z:=f.ty.z) (xs:=xs) (n:=j) (vV a C) hl u ((zcz hi).symm.trans u) A m F o w q).mono ?_;rintro v w' ⟨b,rfl,_,K⟩;refine QY (vs:=vs) (mk:=.ow) p hd p.o1 (λ_=>O) (λS w=>Q8 S w) ?_;rw[JF];have hc:X xs=j:=by rw[o];exact xaT
   have:=K.closeF 0 O (by rw[hc];exact IR _)<|zht A m;rw[hc]at this;exact this
  ·cases h
 ·cases h
def zqd(f:yZ P cf.tt)(j:uz P cf.tt){n:K}{ps:ul (K×wW)}{k:Sg->V R}(hd:xU cx d=I)(h:zm2 cf cx σ d t n ps.toList k=Z r):da P cx ⟨d,.buildSlice t n ps,ty,pos,aft,g⟩ σ k r:=by
 unfold zm2 at h;split at h
 ·next e E B i=>
  have⟨c,h⟩:=z6 h;have c:=xca c;rw[<-e.n_rep]at c;have⟨ys,h,p,s⟩:=oy h;have⟨bytes,l,u⟩:=K0 f j i;refine⟨_,h,xbD _,λfr vs env w z=> ?_⟩;have⟨m,hi⟩:=z;have hc:(ps.toList.map λq:K×wW=>(q.1,ev env q.2)).map (·.1)=xfo 0 (X (ps.toList.map λq:K×wW=>(q.1,ev env q.2))):=by rw[xcP,xaZ];exact p
  have o:=λ(S:K->Prop) (w:wP) (a:zE S (GS P vs env fr cx σ) w)=>Me hc<|s P vs env S w λx _=>zL a x;refine(zez (vV f i) u (zgp f j i) (iu n e ys) c O (λS w a=>by have:=(o S w a).1;rwa[xcx]at this) (λS w a=>(o S w a).2) w hi).mono ?_;rintro v w' ⟨b,rfl,_,A⟩;refine QY m hd m.o1 (λ_=>O) (λS w=>Q8 S w) ?_;rw[JF];exact A
 ·cases h
end
end
section
section
variable{P:jP}{cf:Cf}{fr:Fr}{cx σ:Sg}{vs vs':wr->wN}{env:y4}{w:wP}{R:Type}{r:R}
 {d:ww Z4}{ty t yt:wT}{pos:String}{aft:ul Edge}{g:ww (wr×v6)}{x y:wW}
theorem J7{ob:N (K×Od)}{o:K}{X Y:Od}(h:xy ob o=Z X):∀e∈kQ ob o Y,∃a∈ob,a.1=e.1:=by grind [vm]
def ue:∀{ob:N (K×Od)}{o:K},∀e∈yx ob o,e∈ob
 |(a,X)::r,o,e,he=>by
  unfold yx at he;cases b:F a o<;>rw[b]at he
  ·obtain rfl|he:=xag.1 he
   ·simp_all
   ·exact UV _<|ue e he
  ·simp_all
def iw{o:K}{X Y:Od}{v:wN}(b:Bd cx σ)(c:xy σ.ob o=Z X)(f:St fr.we fr.Se (OS vs fr cx<|kQ σ.ob o Y) (GS P vs env fr cx σ) w):mI P fr cx σ.nx vs ⟨σ.nx,σ.rg,kQ σ.ob o Y⟩ (put env wF v) w:=by
 refine Ka (Γl:=[]) b O O (IR _) (λ_ _=>O) (λ_ a=>wS a H1) (λe a=> ?_) (λS w _ e a=>wS a H1) f;have⟨h,h1,i⟩:=J7 c e a;rw[<-i];exact b.o1 h h1
def set_set{α:Type _}(l:N α)(i:K)(a b:α):(l.set i a).set i b=l.set i b:=iP
theorem vB{α:Type _}{l:N α}{i:K}{a b:α}(h:l[i]? =Z a):(l.set i b)[i]? =Z b:=by grind
def sX{α:Type _}:∀(l:N α) (i:K) (a:α),(l.set i a).eraseIdx i=l.eraseIdx i
 |[],_,_=>by simp
 |_::_,0,_=>rfl
 |b::l,i+1,a=>by simp[sX l i a]
def sr{α:Type}{e:zV α}{E:wT}{xs:N α}{v:wN}{S:K->Prop}{b n cap:K}(h:(mO e E v xs).p S w)(hv:v=.slice (Z ⟨b,0,wF⟩) n cap):n=X xs:=by
 have⟨cs,c,i⟩:=h;rcases c.2 with⟨h,j⟩|⟨k,a,f,h,_⟩
 ·simp_all
 ·simp_all
def zkS(hT:yZ P cf.tt){k:Sg->V R}{u:TI}(hA:Zx cf t=Z u)(h:zbq σ u.ty (xo cx σ x) (xo cx σ y) k=Z r):da P cx ⟨wF,.store t x y,ty,pos,aft,g⟩ σ k r:=by
 have⟨U,A,_⟩:=Z8 hT hA;unfold zbq at h;split at h
 ·next o _ B=>
  split at h
  ·next L E z l=>
   have⟨hC,h1⟩:=z7 h;subst hC;have⟨q,h,C⟩:=VB h1;refine⟨_,h,IR _,λfr vs env w D=> ?_⟩;have⟨F,hc⟩:=D;have⟨S0,_,e⟩:=hc.ex;have⟨i,hi,hd,Y⟩:=vm l;have a:(OS vs fr cx σ.ob)[i]? =Z (mP u.ty.rep.c E (vs o) z):=JJ hi;have⟨b,hv,G⟩:=hc.openP i a;have⟨H,_⟩:=zj B<|zL e x;refine(uk (f:=u.ty.rep) (z':=z) (y':=q) (up:=id) i (vB a) (H.trans hv) O (Sub.self u.ty.rep z) A (λS w J=>C P vs env S w<|zL J y) w G).mono ?_;rintro v w' ⟨_,rfl,_,K⟩;refine iw (vs:=vs) F l ?_;have m:=K.toP i<|vB<|vB a;rw[set_set,set_set,<-hv]at m;rw[hd];show St _ _ (MS vs (σ.ob.set i (o,.var u.ty E q))++_) _ _;rw[<-Dm hi];exact m
  ·cases h
 ·next o p f B=>
  split at h
  ·next L E z s l _=>
   have⟨M,h1⟩:=z7 h;subst M;have⟨q,N,C⟩:=VB h1;have⟨z2,Q,h⟩:=xI N;have⟨s⟩:=s;refine⟨_,h,IR _,λfr vs env w D=> ?_⟩;have⟨F,hc⟩:=D;have⟨S0,_,e⟩:=hc.ex;have⟨i,hi,hd,Y⟩:=vm l;have a:(OS vs fr cx σ.ob)[i]? =Z (mP L.rep.c E (vs o) z):=JJ hi;have⟨b,hv,G⟩:=hc.openP i a;have⟨T,b',hl,H⟩:=zj B<|zL e x;rw[hv]at hl;cases hl;rw[<-s]at A;refine(uk (f:=f.f.rep) (z':=f.get z) (y':=q) (up:=λy=>f.set y z) i (vB a) H O (by rw[xaJ];exact T z) A (λS w J=>C P vs env S w<|zL J y) w G).mono ?_;rintro v w' ⟨_,rfl,_,K⟩;refine iw (vs:=vs) F l ?_;have m:=K.toP i<|vB<|vB a;rw[set_set,set_set,<-hv,<-Q]at m;rw[hd];show St _ _ (MS vs (σ.ob.set i (o,.var L E z2))++_) _ _;rw[<-Dm hi];exact m
  ·cases h
 ·next o p j f B=>
  split at h
  ·next L E xs s l _=>
   have⟨M,h1⟩:=z7 h;cases M;have⟨q,N,C⟩:=VB h1;have⟨z2,Q,h⟩:=xI N;have⟨s⟩:=s;refine⟨_,h,IR _,λfr vs env w D=> ?_⟩;have⟨F,hc⟩:=D;have⟨S0,_,e⟩:=hc.ex;have⟨i,hi,hd,Y⟩:=vm l;have a:(OS vs fr cx σ.ob)[i]? =Z (mO p.rep E (vs o) xs):=JJ hi;have⟨T,b,n,cap,hv,hj,H⟩:=zj B<|zL e x;have hn:n=xaH xs:=wy hc a λS hp=>sr hp hv;subst hn;have⟨b',a0,hl,hD,hE,G⟩:=hc.openO i a<|xaK (xac _) hj;rw[hv]at hl;cases hl;rw[<-s]at A;have hz:=(Sub.rowT0 p.rep cap xs j (xdS xs j p.z)<|getD_some p.z hj).comp<|T<|xdS xs j p.z;refine(uk (f:=f.f.rep) (y':=q) i (vB a) H O hz A (λS w J=>C P vs env S w<|zL J y) w G).mono ?_;rintro v w' ⟨_,rfl,_,K⟩;refine iw (vs:=vs) F l ?_;have ht:X (xfS xs j<|f.set q<|xdS xs j p.z)=xaH xs:=xbt ..;have m:=K.closeF i (vB<|vB a) (by rw[ht];exact hD) hE;rw[set_set,set_set,ht,<-hv,<-Q]at m;rw[hd];show St _ _ (MS vs (σ.ob.set i (o,.own p E z2))++_) _ _;rw[<-Dm hi];exact m
  ·cases h
 ·cases h
end
end
section
def OC{P:jP}(w:wP)(t u ty e:wT)(i:cS)(z:wN)(bytes:K)(l:P.underlying t=Z (.slice e))(m:P.underlying u=Z .string)(hi:P.info? e=Z i)(x:i.zero=Z z)(D:z.cells.size=1)
 (p:i.size=1) (E:i.bytes=bytes) (v:wN) (n:K) (xs:N wN) (q:w.ownsRow 0 e 1 v n xs) (s:Xs) (hv:n+s.size<=Ww) (y:(n+s.size)*bytes<=140737488355328):
 ∃r w',(xbQ #[t,u] ty #[v,.string s]).run P w=.ok r w'/\w'.ownsRow 0 e 1 r (n+s.size) (xs++xeH s)/\w.grownBy w' v.ownBlock/\∀k,r.ownBlock=Z k->v.ownBlock=Z k\/w.heap.size<=k:=by
 subst E;have S:n+s.size<=9223372036854775807:=by simp only[Ww]at hv;lia
 have hl:X xs=n:=by simpa using q.1
 have hc:X (xs++xeH s)=(n+s.size)*1:=by rw[xaq,hl,xeV,xdn]
 have c:∀(old:K),old<n+s.size->∀(h:V K),
  (w.drew.alloc (.cells (xs.toArray++(xeH s).toArray++xbk z.cells (V5 w (n+s.size) old e-(n+s.size))) e)).ownsRow 0 e 1
   (.slice (Z ⟨w.heap.size,0,wF⟩) (n+s.size)<|V5 w (n+s.size) old e) (n+s.size) (xs++xeH s)/\
  w.grownBy (w.drew.alloc (.cells (xs.toArray++(xeH s).toArray++xbk z.cells (V5 w (n+s.size) old e-(n+s.size))) e)) h:=by
  intro old T h;have F:=ge w (n+s.size) old e;have hp:V5 w (n+s.size) old e<=Ww:=UT w (n+s.size) old e hv;refine⟨⟨hc,.inr ⟨w.heap.size,_,_,O,xac _,Wt w.drew _,F,hp,?_,?_⟩⟩,⟨O,O,O,iP,λk a _=>by first|exact heap_alloc_old w.drew _ a|exact heap_alloc_old w.drew _ k a⟩⟩
  ·simp only[Array.size_append,xfm,UL,D,hl,xeV];lia
  ·simp only[xeT,xao];rw[<-xao,<-hc];exact List.take_left
 rcases q.2 with⟨rfl,rfl⟩|⟨g,cap,d,rfl,G,A,U,hp,H,J⟩
 ·have L:xs=[]:=xbe hl;subst L;by_cases o:s.size=0
  ·have hn:xeH s=[]:=xbe (by rw[xeV];exact o);refine⟨.slice wF 0 0,w,?_,by rw[o,hn];exact World.ownsRow_nil w 0 e 1,⟨O,O,O,IR _,λ_ _ _=>O⟩,λk a=> .inl a⟩;have B:=Lib.run_firstCells_string (P:=P) w 1 s;rw[o]at B;simp[xbQ,kw l,kw m,WR,WP,hi,p,xfc,o,B]
  ·have f:=run_append_nil_string (P:=P) w t u ty e i z l m hi x s W W (by have M:=y;rw[xaJ]at M;lia);have hd:=c 0 W<|xej (.slice wF 0 0);simp only[xaJ,xbH,Array.empty_append]at hd⊢;have e1:(s.data.map λb=>Value.int .u8 b.toNat)=(xeH s).toArray:=by
    apply Array.ext';simp[xeH]
   rw[e1]at f;refine⟨_,_,f,hd.1,hd.2,λk a=> .inr ?_⟩;simp[xej]at a;lia
 ·by_cases C:n+s.size<=cap
  ·have Y:d.size=cap:=by simpa using H
   have f:=Lib.run_append_room_string (P:=P) w t u ty e i l m hi p g n cap d A s C W;refine⟨_,_,f,⟨hc,.inr ⟨g,cap,_,O,G,bv w g d _ e _ A,C,hp,?_,?_⟩⟩,⟨O,O,O,iP,λk _ a=>dL w g k _<|λe=>a<|by simp[xej,e]⟩,λk a=> .inl a⟩
   ·simp only[xfm,xaq,xas,xcf,xev,xeV];lia
   ·have Q:d.toList.take n=xs:=by simpa using J
    rw[Q,<-hc];exact List.take_left
  ·have R:∀j u,xs[j]? =Z u->w.cell? ((⟨g,0,wF⟩:JP).add j)=Z u:=q.cells (g:=g) O;have f:=Lib.run_append_grow_string (P:=P) w t u ty e i z l m hi x ⟨g,0,wF⟩ n cap xs (by rw[p];simpa using hl) R s W W<|UP W y;have hd:=c cap W<|xej (.slice (Z ⟨g,0,wF⟩) n cap);refine⟨_,_,f,hd.1,hd.2,λk a=> .inr ?_⟩;simp[xej]at a;lia
def Hv{S:K->Prop}{w:wP}:∀l:N UInt8,yP N7 S (l.map xfn) (l.map λb=>Value.int .u8 b.toNat) w
 |[]=>rfl
 |b::l=>⟨[_],_,O,⟨O,b.toNat_lt⟩,Hv l⟩
section
variable{P:jP}{we:wP}{Se:wr->Prop}{ms:xS MF}{Γ:xS FF}{env:y4}{d:ww Z4}{ty t t':wT}{pos:String}{aft:ul Edge}{g:ww (wr×v6)}{x y:wW}
def zat{f:wT}{xs:N K}{s:Xs}{v:wN}{bytes:K}{a:wN}(i:K)(u:P.underlying t=Z (.slice f))(z:P.underlying t'=Z .string)(hn:Ja P f wL 1 bytes a)(hp:a.cells.size=1)
 (n:ms[i]? =Z (mO N7 f v xs)) (A:ev env x=v) (B:ev env y=.string s)
 (hD:X xs+s.size<=9223372036854775807) (C:(X xs+s.size)*bytes<=140737488355328):OG P ⟨d,.call ⟨.builtin .append,#[x,y],#[t,t']⟩,ty,pos,aft,g⟩ env we Se ms Γ (λc=>c) (λc=>(ms.set i<|mO N7 f c<|xs++xa s)) (λ_=>Γ) (λ_=>Z5):=by
 intro w hd;have⟨S,_,⟨cs,h,he⟩,h8,_⟩:=hd.mut n;have⟨D,hi,i1,i2,E⟩:=hn.info;have⟨c,w',F,G,b,hv⟩:=OC (P:=P) w t t' ty f D a bytes u z hi E hp i1 i2 v (X xs) cs h s (by unfold Ww;lia) C;refine ur.of_value (w':=w') (v:=c) ?_ ⟨c,O,wR,hd.grow n ⟨b.os,b.os,b.output,b.size,λj H l=>b.block j H<|λe=>l e.symm⟩ hv ?_⟩
 ·simp only[jp,Wl,WN,KW,xdE,xbU,xer,A,B,xay,F,xaO,xal]
 ·intro S J ⟨m,o,L⟩ M;have Q:m=cs:=by
   rcases h.2 with⟨rfl,h0⟩|⟨g,cap,R,rfl,_,T,_,_,_,U⟩
   ·have a1:=h.1;have a2:=o.1;simp_all
   ·rcases o.2 with⟨hc,_⟩|⟨g',p,q,V,_,r,_,_,_,hl⟩
    ·cases hc
    ·cases V;rw[T]at r;cases r;rw[<-U,<-hl]
  subst Q;have Y:yv S w w':=⟨b.os,b.os,b.output,b.size,λk hk l=>b.block k hk<|λe=>J k l e.symm⟩;refine⟨_,by rw[xaq,wG];exact G,(L.keep Y).append ?_⟩;exact Hv s.data.toList
end
end
section
section
variable{P:jP}{cf:Cf}{fr:Fr}{cx σ:Sg}{vs vs':wr->wN}{env:y4}{w:wP}{R:Type}{r:R}
 {d:ww Z4}{ty t yt:wT}{pos:String}{aft:ul Edge}{g:ww (wr×v6)}{x y:wW}
def zhd{b:wT}{ag:v6}{e bytes:K}{a:wN}{hi:wW}(f:ev env x=.slice wF 0 0)(h:P.underlying t=Z (.slice b))(i:Ja P b ag e bytes a)
 (j:ev env hi=.int .i64 ((0:K):J)) (w:wP):(jp (ev env) ⟨d,.slice t x wF (Z hi) wF,ty,pos,aft,g⟩).run P w=.ok (.value (.slice wF 0 0)) w:=by
 have c:(xcU t (.slice wF 0 0) wF (Z (.int .i64 0)) wF).run P w=.ok (.slice wF 0 0) w:=by
  unfold xcU;unfold xfN;simp only[xay,kw h,xal];unfold xem;simp[xey,V4,wo i]
 simp[jp,f,j]at c⊢;simp[c]
def zmj{i o:K}{X:Od}{Y:MF}(hi:σ.ob[i]? =Z (o,X))(a:yx σ.ob o=σ.ob.eraseIdx i){Γ:N FF}(h:St fr.we fr.Se ((OS vs fr cx σ.ob).set i Y) Γ w):St fr.we fr.Se (Y::OS vs fr cx (yx σ.ob o)) Γ w:=by
 have:=St.front i h<|vB<|JJ hi;rw[sX,dq hi,<-a]at this;lia
def zjf(n:yZ P cf.tt)(Q:uz P cf.tt){o:K}{hi:wW}{k:Sg->V R}(hd:xU cx d=I)(T:xo cx σ x=Z (.ow o))(h:zbj cf cx σ d t o hi k=Z r):
 da P cx ⟨d,.slice t x wF (Z hi) wF,ty,pos,aft,g⟩ σ k r:=by
 unfold zbj at h;split at h
 ·next p E1 B s E xs q U=>
  have⟨Y,h1⟩:=z7 h;cases Y;rcases ab h1 with⟨e,_⟩|⟨z,m,e,h2,hz⟩
  ·cases e
  ·cases e;have⟨u,h3⟩:=Zm h2;have⟨ys,F,h4⟩:=xI h3;have⟨bytes,G,hc⟩:=K0 n Q q;refine⟨_,h4,xbD _,λfr vs env w hR=> ?_⟩;have⟨H,c⟩:=hR;have⟨S0,_,f⟩:=c.ex;have A:ev env x=vs o:=zj T<|zL f x;have C:=hz P vs env S0 w<|zL f hi;have⟨i,J,hE,hl⟩:=vm U;have l:(OS vs fr cx σ.ob)[i]? =Z (mO p.rep E (vs o) xs):=JJ J
   have a:∀v,(jp (ev env) ⟨d,.slice t x wF (Z hi) wF,ty,pos,aft,g⟩).run P w=.ok (.value v) w->St fr.we fr.Se ((OS vs fr cx σ.ob).set i<|mO p.rep E v ys) (GS P vs env fr cx σ) w->
    ur P ⟨d,.slice t x wF (Z hi) wF,ty,pos,aft,g⟩ env w (λv w'=>mI P fr cx σ.nx vs ⟨σ.nx+1,v7 σ.rg d [(0,.ow σ.nx)],(σ.nx,.own p E ys)::yx σ.ob o⟩ (put env d v) w'):=by
    intro v hn D;refine ur.of_value hn<|QY (vs:=vs) (mk:=.ow) H hd (λe he=>H.o1 e<|ue e he) (λ_=>O) (λS w=>Q8 S w) ?_;rw[JF];exact zmj J hl D
   rcases xbV (xaH xs)with h0|h0
   ·have hw:m=0:=by have:m<=xaH xs:=u;lia
    subst hw;have hy:ys=xs:=by rw[F];exact(xbv.1 h0).symm▸O
    subst hy;have hp:(OS vs fr cx σ.ob).set i (mO p.rep E (vs o) ys)=OS vs fr cx σ.ob:=by
     apply xcy;intro j;rw[List.getElem?_set];split
     ·next hA=>
      subst hA;split
      ·exact l.symm
      ·next hC=>exact wS (xax.1 l).1 hC
     ·rfl
    have hv:vs o=.slice wF 0 0\/∃b cap,vs o=.slice (Z ⟨b,0,wF⟩) 0 cap:=wy c l λS ⟨cs,h5,_⟩=>by
     rcases h5.2 with⟨h,_⟩|⟨b,cap,a0,h,_⟩
     ·exact .inl h
     ·rw[h0]at h;exact .inr ⟨b,cap,h⟩
    obtain hv|⟨b,cap,hv⟩:=hv
    ·exact a _ (zhd (A.trans hv) (vV n q) hc C w)<|by rw[<-hv,hp];exact c
    ·exact a _ (Re (A.trans hv) (vV n q) hc C (xac _) w)<|by rw[<-hv,hp];exact c
   ·have⟨b,cap,hv,L,hD,D⟩:=c.openO i l h0;have M:=D.closeO i m (vB l) u (xae u L) hD;rw[set_set]at M;exact a _ (Re (A.trans hv) (vV n q) hc C (xae u L) w)<|by rw[F];exact M
 ·cases h
def zgd(M:yZ P cf.tt){t':wT}{o:v6}{f:TI}{E:wT}{ob:N (K×Od)}{xs:N f.ty.D}{k:Sg->V R}(Q:P.underlying t=Z (.slice E))(hr:Zx cf E=Z f)(hd:xU cx d=I)
 (hi:o=I->t=t') (h:zbO cf cx σ d t' o f.ty E f.B f.ty.z y ob xs k=Z r):
 ∃σ',k σ'=Z r/\σ.nx<=σ'.nx/\∀(fr:Fr) (vs:K->wN) (env:y4) (w:wP) (u:wN),Bd cx σ->(∀e∈ob,e.1<σ.nx)->ev env x=u->St fr.we fr.Se (mO f.ty.rep E u xs::OS vs fr cx ob) (GS P vs env fr cx σ) w->
  ur P ⟨d,.call ⟨.builtin .append,#[x,y],#[t,t']⟩,ty,pos,aft,g⟩ env w (λv w'=>mI P fr cx σ.nx vs σ' (put env d v) w'):=by
 have⟨a1,T,U,hA⟩:=Z8 M hr;have hz:=(M _ _ hr).2.1;have hn:=(M _ _ hr).2.2.1;have N8:∀m,m*f.B<=140737488355328->m<=9223372036854775807:=λm hm=>by
  have:=xcm m hz;lia
 unfold zbO at h;split at h
 ·next n hC=>
  split at h
  ·next q ik B' hu=>
   have⟨j,hj,h⟩:=zby h;have⟨a,h⟩:=Zm h;have⟨zs,C,h⟩:=xI h;refine⟨_,h,xbD _,λfr vs env w u G H J hc=> ?_⟩;have⟨S0,_,i⟩:=hc.ex;refine(zax (e:=f.ty.rep) (z:=f.ty.z) (n:=j) 0 Q (VZ M hu) T U hn O J (by rw[(wY hC<|zL i y).1,hj]) hA (N8 _ a) a w hc).mono ?_;rintro v w' ⟨v',rfl,_,A⟩;refine QY (vs:=vs) (mk:=.ow) G hd H (λ_=>O) (λS w=>Q8 S w) ?_;rw[JF,C];exact A
  ·cases h
 ·next ys hy=>
  split at h
  ·next q B' hu=>
   have⟨L,h⟩:=z7 h;have⟨a,h⟩:=Zm h;have⟨zs,C,h⟩:=xI h;refine⟨_,h,xbD _,λfr vs env w u G H J hc=> ?_⟩;have⟨S0,_,i⟩:=hc.ex;have⟨s,hv,hp,hE⟩:=CW<|aL hy<|zL i y;have hp:xa s=ys:=hp;have hl:xaH (α:=K) ys=s.size:=(kW xaH hp).symm.trans<|wG s;rcases f with⟨q0,k0,B0⟩;have L:Ty.l .ch=Ty.l q0:=L;cases L;have a:(xaH xs+xaH (α:=K) ys)*B0<=140737488355328:=a;rw[hl]at a;refine(zat (s:=s) (xs:=xs) (bytes:=B0) 0 Q (tF M hu) T U O J hv (N8 _ a) a w hc).mono ?_;rintro v w' ⟨v',rfl,_,A⟩;refine QY (vs:=vs) (mk:=.ow) G hd H (λ_=>O) (λS w=>Q8 S w) ?_;rw[JF,C];rw[hp]at A;exact A
  ·cases h
 ·split at h
  ·next o2 t2 lo n hy=>
   split at h
   ·next s2 E2 a0 hD=>
    have⟨hw,h⟩:=z6 h;obtain rfl:=hi hw;have⟨L,h⟩:=z7 h;cases L;have⟨L,h⟩:=z7 h;cases L;have⟨ys,Y,h⟩:=xI h;have⟨a,h⟩:=Zm h;have⟨zs,C,h⟩:=xI h;refine⟨_,h,xbD _,λfr vs env w u G H J hc=> ?_⟩;have⟨S0,_,i⟩:=hc.ex;have hv:=zj hy<|zL i y;refine(aO (e:=f.ty.rep) (ys:=ys) 0 Q T U hn O J O (λS w hM ha=> ?_) (N8 _ a) a w hc).mono ?_
    ·have hm:(mO f.ty.rep E2 (vs o2) a0).p S w:=Zk (σ:=⟨σ.nx,σ.rg,ob⟩) (F:=fr.F) hM.2 hD;rcases hv with⟨b,m,cap,c,q1,q2,q3,q4,q5⟩|⟨q1,ao,c,q2,q3⟩
     ·rw[q5,Y];exact MW hm q1 q2 q3 q4
     ·subst q1;rw[q3,Y];exact⟨ao,c,iP,iP,by unfold Ww;lia,.inl iP⟩
    rintro v w' ⟨v',rfl,_,A⟩;refine QY (vs:=vs) (mk:=.ow) G hd H (λ_=>O) (λS w=>Q8 S w) ?_;rw[JF,C];exact A
   ·cases h
  have⟨hw,h⟩:=z6 h;obtain rfl:=hi hw;have⟨ys,h,Y⟩:=VB h;have⟨a,h⟩:=Zm h;have⟨zs,C,h⟩:=xI h;refine⟨_,h,xbD _,λfr vs env w u G H J hc=> ?_⟩;refine(zdk (e:=f.ty.rep) (ys:=ys) 0 Q T U hn O J O (λS w ha=>Y P vs env S w<|zL ha y) (N8 _ a) a w hc).mono ?_;rintro v w' ⟨v',rfl,_,A⟩;refine QY (vs:=vs) (mk:=.ow) G hd H (λ_=>O) (λS w=>Q8 S w) ?_;rw[JF,C];exact A
def zp5(j:yZ P cf.tt){a:ul wW}{ts:ul wT}{k:Sg->V R}(hd:xU cx d=I)(h:znt cf cx σ d a.toList ts.toList k=Z r):
 da P cx ⟨d,.call ⟨.builtin .append,a,ts⟩,ty,pos,aft,g⟩ σ k r:=by
 unfold znt at h;split at h
 ·next _ _ x y t C hl hn=>
  obtain rfl:a= #[x,y]:=by cases a;simp_all
  obtain rfl:ts= #[t,C]:=by cases ts;simp_all
  split at h
  ·next s E B v=>
   split at h
   ·next D hc=>
    have⟨hi,h1⟩:=z7 h;subst hi;split at h1
    ·next l=>
     have⟨σ',m,n,p⟩:=zgd (ty:=ty) (pos:=pos) (aft:=aft) (g:=g) (x:=x) j (vV j v) hc hd (λh=>zY h) h1;refine⟨σ',m,n,λfr vs env w q=> ?_⟩;have⟨c,f⟩:=q;have⟨S0,_,b⟩:=f.ex;exact p fr vs env w _ c c.o1 (zj l<|zL b x) f.nilO
    ·next o l=>
     split at h1
     ·next Q F xs G=>
      have⟨u,H⟩:=z6 h1;have u:=zY u;subst u;have⟨J,K⟩:=z7 H;cases J;have⟨σ',m,n,p⟩:=zgd (ty:=ty) (pos:=pos) (aft:=aft) (g:=g) (x:=x) j (vV j v) hc hd (λh=>zY h) K;refine⟨σ',m,n,λfr vs env w q=> ?_⟩;have⟨c,f⟩:=q;have⟨S0,_,b⟩:=f.ex;have⟨i,z,S,L⟩:=vm G;have M:(OS vs fr cx σ.ob)[i]? =Z (mO D.ty.rep F (vs o) xs):=JJ z;have A:=f.front i M;rw[dq z,<-L]at A;exact p fr vs env w _ c (λe N=>c.o1 e<|ue e N) (zj l<|zL b x) A
     ·cases h1
    ·cases h1
   ·cases h
  ·cases h
 ·cases h
theorem zkU{α:Type}(xs ys:N α):X (cpy xs ys)=X xs:=by grind [cpy]
theorem zkP{α:Type}{xs:N α}(ys:N α)(h:X xs=0):cpy xs ys=xs:=by grind [cpy]
def zl4{α:Type}(xs ys:N α):xdu 0 xs++xdu (min (X ys) (X xs)) ys++xdI (0+min (X ys) (X xs)) xs=cpy xs ys:=by simp[cpy]
def TP{α:Type}(lo:K)(xs ys:N α):lZ lo 0 xs ys=xs:=by simp[lZ]
theorem zdS{α:Type}{lo n:K}{xs:N α}(ys:N α)(h:lo+n<=X xs):X (lZ lo n xs ys)=X xs:=by grind [lZ]
def zmV(L:yZ P cf.tt)(hL:uz P cf.tt){A:ul wW}{ts:ul wT}{k:Sg->V R}(hd:xU cx d=I)(h:zfG cf cx σ d A.toList ts.toList k=Z r):
 da P cx ⟨d,.call ⟨.builtin .copy,A,ts⟩,ty,pos,aft,g⟩ σ k r:=by
 unfold zfG at h;split at h
 ·next x y t t' hJ hK=>
  obtain rfl:A= #[x,y]:=by cases A;simp_all
  obtain rfl:ts= #[t,t']:=by cases ts;simp_all
  split at h
  ·next s E B o F hx=>
   split at h
   ·next s' a xs N=>
    have⟨hw,h⟩:=z7 h;cases hw;have⟨ys,h,Q⟩:=VB h;have⟨zs,f,h⟩:=xI h;have f:zs=cpy (α:=s.D) xs ys:=f;have⟨bytes,T,U⟩:=K0 L hL F;refine⟨_,h,IR _,λfr vs env w hR=> ?_⟩;have⟨Y,hc⟩:=hR;have⟨S0,_,j⟩:=hc.ex;have hl:ev env x=vs o:=zj hx<|zL j x;have⟨i,hi,hn,hG⟩:=vm N;have p:(OS vs fr cx σ.ob)[i]? =Z (mO s.rep a (vs o) xs):=JJ hi;have q:∀v w',St fr.we fr.Se ((OS vs fr cx σ.ob).set i<|mO s.rep a (vs o) zs) (GS P vs env fr cx σ) w'->mI P fr cx σ.nx vs ⟨σ.nx,v7 σ.rg d [],kQ σ.ob o (.own s a zs)⟩ (put env d v) w':=λv w' G=>by
     refine Ka (σ':=⟨σ.nx,v7 σ.rg d [],kQ σ.ob o (.own s a zs)⟩) (d:=d) (l:=[]) (vs:=vs) (vs':=vs) (Γl:=[]) Y hd O (IR _) (λ_ _=>O) (λ_ u=>wS u H1) (λe u=> ?_) (λS w _ e u=>wS u H1) ?_
     ·have⟨e',h1,h2⟩:=J7 N e u;rw[<-h2];exact Y.o1 e' h1
     ·rw[hn];show St _ _ (MS vs (σ.ob.set i (o,.own s a zs))++_) _ _;rw[<-Dm hi];exact G
    rcases xbV (xaH xs)with h0|h0
    ·have hv:vs o=.slice wF 0 0\/∃b cap,vs o=.slice (Z ⟨b,0,wF⟩) 0 cap:=wy hc p λS ⟨cs,h5,_⟩=>by
      rcases h5.2 with⟨h,_⟩|⟨b,cap,a0,h,_⟩
      ·exact .inl h
      ·rw[h0]at h;exact .inr ⟨b,cap,h⟩
     have⟨H,cap,hv⟩:∃H cap,vs o=.slice H 0 cap:=by
      obtain hv|⟨b,cap,hv⟩:=hv
      ·exact⟨_,_,hv⟩
      ·exact⟨_,_,hv⟩
     have⟨M,z,hu,_⟩:=xC.1<|Q P vs env S0 w<|zL j y;have⟨ti,hA,i1,i2,i3⟩:=U.info;have hC:(P.info? E).map (·.size)=Z s.rep.n:=by rw[hA];simp[i1]
     have hr:=Ke (P:=P) w t t' ty E H M 0 cap (xaH ys) z (vV L F) hC<|Nat.min_zero _;rw[<-hu,<-hv,<-hl]at hr;have hz:zs=xs:=f.trans<|zkP (α:=s.D) ys h0;refine ur.of_value (v:=gS 0) (w':=w) ?_<|q _ w ?_
     ·simp only[jp,Wl,WN,KW,xdE,xbU,xer,xay,hr,xaO,xal]
     ·have:(OS vs fr cx σ.ob).set i (mO s.rep a (vs o) xs)=OS vs fr cx σ.ob:=by
       have⟨hH,hD⟩:=xax.1 p;rw[<-hD,xda]
      rw[hz,this];exact hc
    ·have⟨b,cap,hv,hE,hF,G⟩:=hc.openO i p h0;refine(SP (e:=s.rep) (l:=0) (dLen:=xaH xs) (dCap:=cap) i (vV L F) U (vB p) (by rw[hl,hv];simp) O W (λS w ha=>Q P vs env S w<|zL ha y) w G).mono ?_;rintro v w' ⟨n,rfl,_,J⟩;refine q _ w' ?_;have hz:=(zl4 (α:=s.D) xs ys).trans f.symm;rw[hz]at J;have hf:xaH zs=xaH xs:=by rw[f];exact zkU (α:=s.D) xs ys
     have hq:=J.closeF i (vB<|vB p) (by rw[hf];exact hE) hF;rw[set_set,set_set,hf,<-hv]at hq;exact hq
   ·cases h
  ·next s E B o t2 lo n F hx=>
   split at h
   ·next s' a xs hj N _=>
    have⟨hw,h⟩:=z7 h;cases hw;have⟨ys,h,Q⟩:=VB h;have⟨zs,f,h⟩:=xI h;have f:zs=lZ (α:=s.D) lo n xs ys:=f;have⟨hj⟩:=hj;subst hj;have⟨bytes,T,U⟩:=K0 L hL F;refine⟨_,h,IR _,λfr vs env w hR=> ?_⟩;have⟨Y,hc⟩:=hR;have⟨S0,_,j⟩:=hc.ex;have hl:=zj hx<|zL j x;have⟨i,hi,hn,hG⟩:=vm N;have p:(OS vs fr cx σ.ob)[i]? =Z (mO t2.rep a (vs o) xs):=JJ hi;have q:∀v w',St fr.we fr.Se ((OS vs fr cx σ.ob).set i<|mO t2.rep a (vs o) zs) (GS P vs env fr cx σ) w'->mI P fr cx σ.nx vs ⟨σ.nx,v7 σ.rg d [],kQ σ.ob o (.own t2 a zs)⟩ (put env d v) w':=λv w' G=>by
     refine Ka (σ':=⟨σ.nx,v7 σ.rg d [],kQ σ.ob o (.own t2 a zs)⟩) (d:=d) (l:=[]) (vs:=vs) (vs':=vs) (Γl:=[]) Y hd O (IR _) (λ_ _=>O) (λ_ u=>wS u H1) (λe u=> ?_) (λS w _ e u=>wS u H1) ?_
     ·have⟨e',h1,h2⟩:=J7 N e u;rw[<-h2];exact Y.o1 e' h1
     ·rw[hn];show St _ _ (MS vs (σ.ob.set i (o,.own t2 a zs))++_) _ _;rw[<-Dm hi];exact G
    obtain h0|h0:=xbV n
    ·have⟨H,c,hv⟩:∃H c,ev env x=.slice H 0 c:=by
      rcases hl with⟨b,m,cap,c,q1,q2,q3,q4,q5⟩|⟨q1,M,c,q2,q3⟩
      ·exact⟨_,c,by rw[q5,h0]⟩
      ·exact⟨M,c,q3⟩
     have⟨M,z,hu,_⟩:=xC.1<|Q P vs env S0 w<|zL j y;have⟨ti,hA,i1,i2,i3⟩:=U.info;have hC:(P.info? E).map (·.size)=Z t2.rep.n:=by rw[hA];simp[i1]
     have hr:=Ke (P:=P) w t t' ty E H M 0 c (xaH ys) z (vV L F) hC<|Nat.min_zero _;rw[<-hu,<-hv]at hr;have hz:zs=xs:=by rw[f,h0];exact TP (α:=t2.D) lo xs ys
     refine ur.of_value (v:=gS 0) (w':=w) ?_<|q _ w ?_
     ·simp only[jp,Wl,WN,KW,xdE,xbU,xer,xay,hr,xaO,xal]
     ·have:(OS vs fr cx σ.ob).set i (mO t2.rep a (vs o) xs)=OS vs fr cx σ.ob:=by
       have⟨hH,hD⟩:=xax.1 p;rw[<-hD,xda]
      rw[hz,this];exact hc
    ·rcases hl with⟨b0,m,C,c,q1,q2,q3,q4,q5⟩|⟨q1,M,c,q2,q3⟩
     ·have hI:m=xaH xs:=wy hc p λS hp=>sr hp q1;subst hI;have⟨b,cap,hv,hE,hF,G⟩:=hc.openO i p W;rw[q1]at hv;cases hv;refine(SP (e:=t2.rep) (l:=lo) (dLen:=n) (dCap:=c) i (vV L F) U (vB p) q5 O q2 (λS w ha=>Q P vs env S w<|zL ha y) w G).mono ?_;rintro v w' ⟨nn,rfl,_,J⟩;refine q _ w' ?_;have J:St fr.we fr.Se (((OS vs fr cx σ.ob).set i<|mB (rowT t2.rep C) a b0 xs).set i<|mB (rowT t2.rep C) a b0<|lZ (α:=t2.D) lo n xs ys) (GS P vs env fr cx σ) w':=J;rw[<-f]at J;have hf:xaH zs=xaH xs:=by rw[f];exact zdS (α:=t2.D) ys q2
      have hq:=J.closeF i (vB<|vB p) (by rw[hf];exact hE) hF;rw[set_set,set_set,hf,<-q1]at hq;exact hq
     ·lia
   ·cases h
  ·cases h
 ·cases h
end
end
end Go.Proofs.YtmggkmchbdanfaaGreat
