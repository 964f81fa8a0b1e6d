/- What a proof needs: rules of walking, mirrors of functions and their plain laws. No condition. -/
import Derived.Test.YtoegnnjcmlghhaaGreatZq1
import Derived.WideKeyArgs
import Derived.Laws.IdiomStrings
set_option linter.all false
namespace Go.Proofs.YtoegnnjcmlghhaaGreat
open Bool renaming false->I,true->wT
open Go renaming Value->wW,World->qR,TypeId->kW,Operand->ul,execOp->uP,Program->uS,undef->Z9,Oper->Xs,FuncId->XS,Tmp->Wf,IntKind->Wl,Code->Wn,resolve->WN,Func->WT,invoke->V1,ResultVar->V3,eqGuard->V5,sizeOf->V9,maxLen->QR,BinOp->KW,asIntOf->Us,builtin->UT,Addr->U8,MemPlace->am,Calls->aM,madeCells->lm,goInt->mS,DataW->oL
open Go.Proofs.YtoegnnjcmlghhaaGreat renaming bd->G,za->Y,Zr->U,nm->B,Qr->D,ze->F,iq->Q,zf->A,ir->S
open List renaming length->X,length->Ap
open Nat renaming beq->R
open Option renaming some->Z,none->wS
open _root_ renaming rfl->O,List->N,Int->J,Nat->K,Option->V,List->ww,Nat->wL,Option->wN,absurd->jp,trivial->jP,Bool->ut,Array->Z3,Unit->Wd,True->Wr,reduceCtorEq->WR,ByteArray->WS,False->UP,Decidable->US
open Call renaming operands->xeE
open DataW renaming TrodAll->xeT
open Extern renaming find->xfb,findNext->xeP
open Extern.MathBitsCarry renaming m64->xbf,pair->xcn,three->xbJ
open Instr renaming fill->xdJ,slice->xfS,sliceAt->xcW,sliceBound->xeH,sliceBounds->xet
open Int renaming fdiv->xfW,tdiv->xdv,tmod->xcB
open IntKind renaming i64->xdb
open List renaming drop->xdN,getD->xeJ,getElem?_append_left->xaZ,length->xaK,map_congr_left->xcc,range->xaC,range'->xfv,replicate->So,set->xfX,take->xdB,take_append_drop->xbG,take_of_length_le->xaW
open Nat renaming add_mul->xbk,beq->xah,ble->xft,blt->xda,eq_of_beq_eq_true->xdy,lt_of_lt_of_le->xag
open Op renaming operands->xaB
open Oper renaming looksAt->xbm
open Option.some renaming inj->xfT
open Result renaming andThen_ok->xao
open Sem renaming run_bind->xay,run_pure->xaV
open Sum renaming elim->xfi
open Value renaming okWide->xez
open _root_.Array renaming getElem?_eq_some_iff->xbi
def UV:=@List.getD_eq_getElem?_getD
def xaE:=@Int.eq_ofNat_of_zero_le
def xbB:=@Nat.le_succ
def xbW:=@List.mem_filter
def xbb:=@Nat.not_lt_zero
def xbt:=@List.length_eq_zero_iff
def xcE:=@List.map_map
def xci:=@List.getElem?_map
def xct:=@Nat.eq_zero_or_pos
def xdC:=@Nat.le_of_lt
def xdV:=@List.cons.injEq
def xdc:=@Int.toNat_of_nonneg
def xeO:=@Int.natCast_nonneg
def xee:=@List.mem_filterMap
section
structure Wq where
 f:XS
 dom:N AM
 cod:N RM
 M:cj dom->V (bZ cod)
 bk:K
structure J2 where
 s:Wq
 M:cj s.dom->V (PX⊕bZ s.cod)
structure E8 where
 f:XS
 t:Ty
 E:kW
 E1:kW
 M:N (N t.D)->N K->K->J->J->K->K->V (N<|N t.D)
structure Rh where
 f:XS
 dom:N Ty
 g:XS
 mc:rm dom->N PD
structure HK where
 f:XS
 dom:N AM
 t:Ty
 E:kW
 M:cj dom->{X Y:Type}->(N t.D->X->V (N t.D×(X⊕Y)))->X->V (X⊕Y)
structure Cf where
 tt:N (K×TI)
 cs:N Wq
 an:An
 fu:K
 ex:N (K×ut)
 ms:N E8:=[]
 cl:N Rh:=[]
 is:N HK:=[]
 ps:N J2:=[]
def zg1:N E8->XS->V E8
 |[],_=>wS
 |s::r,f=>bif R s.f f then Z s else zg1 r f
def zgJ:N Rh->XS->V Rh
 |[],_=>wS
 |s::r,f=>bif R s.f f then Z s else zgJ r f
def zl9:N HK->XS->V HK
 |[],_=>wS
 |s::r,f=>bif R s.f f then Z s else zl9 r f
abbrev ju{R:Type}(b:ut)(x:V R):V R:=match b with
 |true=>x
 |false=>wS
abbrev PG{R:Type}(b:ut)(x y:V R):V R:=match b with
 |true=>x
 |false=>y
def Et:N AM->ut
 |[]=>wT
 |.own _ _::_=>I
 |.var _ _::_=>I
 |_::r=>Et r
def noV:N RM->ut
 |[]=>wT
 |.var _ _::_=>I
 |_::r=>noV r
def Lf:N Wq->XS->V Wq
 |[],_=>wS
 |s::r,f=>bif R s.f f && (Et s.dom && (R s.bk 0 && noV s.cod))then Z s else Lf r f
section
variable{R:Type}(cf:Cf)(cx:Sg)
def zls:Dv->V PD
 |.d t x=>Z ⟨t,x⟩
 |.kb b=>Z ⟨.b,b⟩
 |_=>wS
def Dj(v:V Dv)(t:Ty)(k:t.D->V R):V R:=match v with
 |some .nil=>(match t,k with
  |.l s,k=>k ([]:N s.D)
  |_,_=>wS)
 |some .np=>(match t,k with
  |.po s,k=>k (wS:V s.D)
  |_,_=>wS)
 |some (.q s y)=>(match t,k with
  |.po a,k=>Ty.cast s a y λy=>k (Z y:V a.D)
  |_,_=>wS)
 |some v=>(match zls v with
  |some p=>Ty.cast p.t t p.x k
  |none=>wS)
 |none=>wS
def arI(b:KW)(a c:J)(k:Dv->V R):V R:=match b with
 |.add=>A (a+c) λx=>k (.d .i x)
 |.sub=>A (a-c) λx=>k (.d .i x)
 |.mul=>A (a*c) λx=>k (.d .i x)
 |.quo=>ck (c≠0)<|A (xdv a c) λx=>k (.d .i x)
 |.rem=>ck (c≠0)<|B (xcB a c) λx=>k (.d .i x)
 |.and=>B (zb1 a c) λx=>k (.d .i x)
 |.or=>B (orI a c) λx=>k (.d .i x)
 |.shr=>ck (0<=c)<|B (xfW a<|2^(min c.toNat 64)) λx=>k (.d .i x)
 |.shl=>ck (0<=c)<|A (a*2^(min c.toNat 64)) λx=>k (.d .i x)
 |.lss=>if a<c then k (.kb wT)else k (.kb I)
 |.leq=>if a<=c then k (.kb wT)else k (.kb I)
 |.gtr=>if c<a then k (.kb wT)else k (.kb I)
 |.geq=>if c<=a then k (.kb wT)else k (.kb I)
 |.eql=>if a=c then k (.kb wT)else k (.kb I)
 |.neq=>if a=c then k (.kb I)else k (.kb wT)
 |_=>wS
def arU(b:KW)(a c:K)(k:Dv->V R):V R:=match b with
 |.add=>B ((a+c)%18446744073709551616) λx=>k (.d .u x)
 |.sub=>B ((a+18446744073709551616-c)%18446744073709551616) λx=>k (.d .u x)
 |.mul=>B ((a*c)%18446744073709551616) λx=>k (.d .u x)
 |.quo=>ck (c≠0)<|B (a/c) λx=>k (.d .u x)
 |.rem=>ck (c≠0)<|B (a%c) λx=>k (.d .u x)
 |.and=>B (a &&& c) λx=>k (.d .u x)
 |.or=>B (a|||c) λx=>k (.d .u x)
 |.lss=>if(a:J)<(c:J)then k (.kb wT)else k (.kb I)
 |.leq=>if(a:J)<=(c:J)then k (.kb wT)else k (.kb I)
 |.gtr=>if(c:J)<(a:J)then k (.kb wT)else k (.kb I)
 |.geq=>if(c:J)<=(a:J)then k (.kb wT)else k (.kb I)
 |.eql=>if(a:J)=(c:J)then k (.kb wT)else k (.kb I)
 |.neq=>if(a:J)=(c:J)then k (.kb I)else k (.kb wT)
 |_=>wS
def arC(b:KW)(a c:K)(k:Dv->V R):V R:=match b with
 |.add=>B ((a+c)%256) λx=>k (.d .ch x)
 |.sub=>B ((a+256-c)%256) λx=>k (.d .ch x)
 |.lss=>if(a:J)<(c:J)then k (.kb wT)else k (.kb I)
 |.leq=>if(a:J)<=(c:J)then k (.kb wT)else k (.kb I)
 |.gtr=>if(c:J)<(a:J)then k (.kb wT)else k (.kb I)
 |.geq=>if(c:J)<=(a:J)then k (.kb wT)else k (.kb I)
 |.eql=>if(a:J)=(c:J)then k (.kb wT)else k (.kb I)
 |.neq=>if(a:J)=(c:J)then k (.kb I)else k (.kb wT)
 |_=>wS
def eqT(b:KW)(a c:N K)(k:Dv->V R):V R:=match b with
 |.add=>ck (X a+X c<=9223372036854775807)<|B (a++c) λx=>k (.d .tx x)
 |.eql=>if a=c then k (.kb wT)else k (.kb I)
 |.neq=>if a=c then k (.kb I)else k (.kb wT)
 |_=>wS
def shU(b:KW)(a:K)(c:J)(k:Dv->V R):V R:=match b with
 |.shr=>ck (0<=c)<|B (a/2^(min c.toNat 64)) λx=>k (.d .u x)
 |.shl=>ck (0<=c)<|B (a*2^(min c.toNat 64)%18446744073709551616) λx=>k (.d .u x)
 |_=>wS
def zef(b:KW)(a c:K)(k:Dv->V R):V R:=match b with
 |.shr=>B (a/2^(min (c:J).toNat 64)) λx=>k (.d .u x)
 |.shl=>B (a*2^(min (c:J).toNat 64)%18446744073709551616) λx=>k (.d .u x)
 |_=>wS
def shI(b:KW)(a:J)(c:K)(k:Dv->V R):V R:=match b with
 |.shr=>B (xfW a<|2^(min (c:J).toNat 64)) λx=>k (.d .i x)
 |.shl=>A (a*2^(min (c:J).toNat 64)) λx=>k (.d .i x)
 |_=>wS
def eqB(e:KW)(a c:ut)(k:Dv->V R):V R:=match e with
 |.eql=>B (a==c) λx=>k (.d .b x)
 |.neq=>B (!(a==c)) λx=>k (.d .b x)
 |_=>wS
def zeR(a:KW)(b:ut)(k:Dv->V R):V R:=match a with
 |.eql=>if b=wT then k (.kb wT)else k (.kb I)
 |.neq=>if b=wT then k (.kb I)else k (.kb wT)
 |_=>wS
def eqP(a:KW)(x:V Dv)(k:Dv->V R):V R:=match x with
 |some .np=>zeR a wT k
 |some (.q _ _)=>zeR a I k
 |some (.vs _ _)=>zeR a I k
 |some (.d (.po s) y)=>zeR a (Option.isNone (α:=s.D) y) k
 |_=>wS
def zlj:V Dv->ut
 |some .np=>wT
 |_=>I
def zph(d:ut)(bo:KW)(x y:V PD)(k:Dv->V R):V R:=match x,y with
 |some ⟨.i,a⟩,Z ⟨.i,c⟩=>arI bo a c k
 |some ⟨.u,a⟩,Z ⟨.u,c⟩=>(match bo with
  |.shr=>zef .shr a c k
  |.shl=>zef .shl a c k
  |bo=>arU bo a c k)
 |some ⟨.u,a⟩,Z ⟨.i,c⟩=>shU bo a c k
 |some ⟨.i,a⟩,Z ⟨.u,c⟩=>shI bo a c k
 |some ⟨.b,a⟩,Z ⟨.b,c⟩=>ju d<|eqB bo a c k
 |some ⟨.ch,a⟩,Z ⟨.ch,c⟩=>arC bo a c k
 |some ⟨.tx,a⟩,Z ⟨.tx,c⟩=>eqT bo a c k
 |_,_=>wS
def chI(a:K):Dv:=.d .i (a:J)
def chU(a:K)(k:Dv->V R):V R:=B (a%256) λx=>k (.d .ch x)
def zsO(b:TK)(x:V PD)(k:Dv->V R):V R:=match b,x with
 |.int .i64,Z ⟨.i,a⟩=>k (.d .i a)
 |.int .u64,Z ⟨.u,a⟩=>k (.d .u a)
 |.int .u64,Z ⟨.i,a⟩=>B (Ec a) λx=>k (.d .u x)
 |.int .i64,Z ⟨.u,a⟩=>B (sgn a) λx=>k (.d .i x)
 |.int .i64,Z ⟨.ch,a⟩=>k<|chI a
 |.int .u64,Z ⟨.ch,a⟩=>k (.d .u a)
 |.int .u8,Z ⟨.ch,a⟩=>k (.d .ch a)
 |.int .u8,Z ⟨.u,a⟩=>chU a k
 |_,_=>wS
def pd(σ:Sg)(x:ul):V PD:=match xA cx σ x with
 |some v=>zls v
 |none=>wS
def Yo(t:kW):V TI:=aR cf.tt t
def isB(t:kW):ut:=match Yo cf t with
 |some ⟨_,.bool,_⟩=>wT
 |_=>I
def zkJ(t:kW):ut:=match Yo cf t with
 |some ⟨_,.pt _,_⟩=>wT
 |_=>I
def zol(σ:Sg)(x:ul)(k:N (K×Dv)->V R):V R:=match xA cx σ x with
 |some (.q t y)=>k [(0,.q t y)]
 |some (.vs o t)=>k [(0,.vs o t)]
 |some (.d (.po t) y)=>G (β:=t.D) y λy=>k [(0,.q t y)]
 |_=>wS
def ifB(x:ut)(a c:V R):V R:=if x=wT then a else c
def eqI(x y:J):ut:=decide<|x=y
def eqU(x y:K):ut:=decide<|x=y
def ngI(a:J)(k:Dv->V R):V R:=A (0-a) λx=>k (.d .i x)
def ngU(a:K)(k:Dv->V R):V R:=B ((18446744073709551616-a)%18446744073709551616) λx=>k (.d .u x)
def zr9{α:Type}(xs ys:N α)(B:K)(k:N α->V R):V R:=ck ((X xs+X ys)*B<=140737488355328)<|nm (xs++ys) k
def ztT{α:Type}(xs:N α)(n:K)(z:α)(B:K)(k:N α->V R):V R:=ck ((X xs+n)*B<=140737488355328)<|nm (xs++So n z) k
def ixU(j n:K)(k:K->V R):V R:=zD (j:J) n k
def zdn:ul->ul->ut
 |.tmp s,.tmp t=>xah s t
 |.const (.int .i64 x),.const (.int .i64 y)=>eqI x y
 |_,_=>I
def exU(b:ut)(x y z:K)(k:N (K×Dv)->V R):V R:=
 ck (z<=1)<|PG b (B ((x+y+z)%18446744073709551616) λp=>B ((x+y+z)/18446744073709551616) λq=>k [(1,.d .u p),(2,.d .u q)])
  (B ((x+18446744073709551616-y-z)%18446744073709551616) λp=>B (if x<y+z then(1:K)else 0) λq=>k [(1,.d .u p),(2,.d .u q)])
def exD(b:ut)(x y z:V PD)(k:N (K×Dv)->V R):V R:=match x,y,z with
 |some ⟨.u,x⟩,Z ⟨.u,y⟩,Z ⟨.u,z⟩=>exU b x y z k
 |_,_,_=>wS
def parts(σ:Sg):(ts:N Ty)->N (K×ul)->K->(rm ts->V R)->V R
 |[],[],_,k=>k ()
 |t::ts,(i,x)::r,j,k=>ju (xah i j)<|Dj (xA cx σ x) t λy=>parts σ ts r (j+1) λys=>k (y,ys)
 |_,_,_,_=>wS
def zex:(k:K)->Ty->N Ty
 |0,_=>[]
 |1,t=>[t]
 |k+2,.p s t=>s::zex (k+1) t
 |_,_=>[]
def ib:(k:K)->(t:Ty)->rm (zex k t)->V t.D
 |0,_,_=>wS
 |1,t,x=>Z x.1
 |k+2,.p s t,x=>match ib (k+1) t x.2 with
  |some y=>Z (x.1,y)
  |none=>wS
 |_+2,.i,_=>wS
 |_+2,.u,_=>wS
 |_+2,.b,_=>wS
 |_+2,.l _,_=>wS
 |_+2,.a _ _,_=>wS
 |_+2,.ch,_=>wS
 |_+2,.tx,_=>wS
 |_+2,.po _,_=>wS
 |_+2,.w1 _,_=>wS
def H7:K->Ty->N Ty
 |0,_=>[]
 |n+1,t=>t::H7 n t
def GL:(n:K)->(t:Ty)->rm (H7 n t)->N t.D
 |0,_,_=>[]
 |n+1,t,x=>x.1::GL n t x.2
def dQ(σ:Sg):N ul->V (N PD)
 |[]=>Z []
 |x::r=>match xA cx σ x,dQ σ r with
  |some (.q t y),Z l=>Z (⟨t,y⟩::l)
  |_,_=>wS
def eV:(a:N AM)->N PD->V (cj a)
 |[],[]=>Z ()
 |.q t::r,c::cs=>Ty.cast c.t t c.x λy=>match eV r cs with
  |some z=>Z (y,z)
  |none=>wS
 |_,_=>wS
def Nk:(full:N AM)->(dom:N Ty)->rm dom->N PD->V (cj full)
 |full,[],_,cs=>eV full cs
 |.d t::r,s::dom,x,cs=>Ty.cast s t x.1 λy=>match Nk r dom x.2 cs with
  |some z=>Z (y,z)
  |none=>wS
 |_,_::_,_,_=>wS
def Ov:(s t:N Ty)->V (PLift<|s=t)
 |[],[]=>Z ⟨O⟩
 |s::a,t::ts=>match Ty.same s t,Ov a ts with
  |some ⟨h⟩,Z ⟨b⟩=>Z ⟨h▸b▸O⟩
  |_,_=>wS
 |_,_=>wS
def RM.D_ty:∀r:RM,r.D=r.ty.D
 |.d _=>rfl
 |.own _ _=>rfl
 |.var _ _=>rfl
def WE:∀rs:N RM,bZ rs=IK (rs.map RM.ty)
 |[]=>rfl
 |[m]=>RM.D_ty m
 |m::n::r=>by show(m.D×bZ (n::r))=(m.ty.D×IK ((n::r).map RM.ty));rw[RM.D_ty m,WE (n::r)]
def asF(σ:Sg)(v:V Dv)(dom cod:N Ty)(k:(rm dom->V (IK cod))->V R):V R:=match v with
 |some (.fn f c)=>(match Lf cf.cs f with
  |some s=>(match Ov (s.cod.map RM.ty) cod with
   |some ⟨h⟩=>k λx=>match Nk s.dom dom x c with
    |some y=>((WE s.cod).trans<|Z2 IK h)▸s.M y
    |none=>wS
   |none=>wS)
  |none=>wS)
 |some (.fp d c g)=>(match Ov d dom,Ov c cod with
  |some ⟨h⟩,Z ⟨a⟩=>k<|h▸a▸g
  |_,_=>wS)
 |_=>wS
def Jn(σ:Sg):(dom:N AM)->N ul->N PD->(cj dom->V R)->V R
 |[],[],[],k=>k ()
 |.q t::r,[],c::cs,k=>Ty.cast c.t t c.x λy=>Jn σ r [] cs λz=>k (y,z)
 |.d t::r,x::xs,cs,k=>Dj (xA cx σ x) t λy=>Jn σ r xs cs λz=>k (y,z)
 |.q t::r,x::xs,cs,k=>(match xA cx σ x with
  |some (.q s y)=>Ty.cast s t y λy=>Jn σ r xs cs λz=>k (y,z)
  |_=>wS)
 |.fn dom cod::r,x::xs,cs,k=>asF cf σ (xA cx σ x) dom cod λg=>Jn σ r xs cs λz=>k (g,z)
 |_,_,_,_=>wS
def zbi:(rs:N RM)->bZ rs->K->N (K×Dv)
 |[],_,_=>[]
 |[.d t],x,i=>[(i,.d t x)]
 |[.own t _],x,i=>[(i,.d (.l t) x)]
 |[.var t _],x,i=>[(i,.d t x)]
 |.d t::r::rs,x,i=>(i,.d t x.1)::zbi (r::rs) x.2 (i+1)
 |.own t _::r::rs,x,i=>(i,.d (.l t) x.1)::zbi (r::rs) x.2 (i+1)
 |.var t _::r::rs,x,i=>(i,.d t x.1)::zbi (r::rs) x.2 (i+1)
def du:N RM->ut
 |[_]=>wT
 |_=>I
def zlA(rs:N RM)(x:bZ rs):N (K×Dv):=zbi rs x<|bif du rs then 0 else 1
def Mr(σ:Sg):(dom:N Ty)->N ul->(rm dom->V R)->V R
 |[],[],k=>k ()
 |t::r,x::xs,k=>Dj (xA cx σ x) t λy=>Mr σ r xs λz=>k (y,z)
 |_,_,_=>wS
def zjn:(cod:N Ty)->IK cod->K->N (K×Dv)
 |[],_,_=>[]
 |[t],x,i=>[(i,.d t x)]
 |t::s::r,x,i=>(i,.d t x.1)::zjn (s::r) x.2 (i+1)
def zkD:N Ty->ut
 |[_]=>wT
 |_=>I
def znm(σ:Sg)(v:V Dv)(k:PD->V R):V R:=match v with
 |some (.q t x)=>k ⟨t,x⟩
 |some (.vs o _)=>(match QF cx σ o with
  |some (.var t _ z)=>k ⟨t,z⟩
  |_=>wS)
 |some (.vp o t f)=>(match QF cx σ o with
  |some (.var a _ z)=>Ty.cast a t z λz=>k ⟨f.f,f.get z⟩
  |_=>wS)
 |some (.ep o t j f)=>(match QF cx σ o with
  |some (.own a _ xs)=>Ty.cast (.l a) (.l t) xs λxs=>B (f.get<|xeJ xs j t.z) λy=>k ⟨f.f,y⟩
  |_=>wS)
 |_=>wS
def atI(σ:Sg)(x:ul)(n:K)(k:K->V R):V R:=match pd cx σ x with
 |some ⟨.i,j⟩=>zD j n k
 |some ⟨.u,j⟩=>ixU j n k
 |some ⟨.ch,j⟩=>ixU j n k
 |_=>wS
def Tq(σ:Sg)(x:V ul)(k:V K->V R):V R:=match x with
 |none=>k wS
 |some x=>match pd cx σ x with
  |some ⟨.i,j⟩=>jt j λj=>k<|some j
  |_=>wS
def zpK{α:Type}(xs:N α)(lo hi:V K)(k:N α->V R):V R:=match lo,hi with
 |none,Z h=>ck (h<=X xs)<|B (xs.take h) k
 |some l,wS=>ck (l<=X xs)<|B (xs.drop l) k
 |some l,Z h=>ck (l<=h/\h<=X xs)<|B ((xs.drop l).take<|h-l) k
 |none,wS=>k xs
def zlh(m:K)(lo hi:V K)(k:K->K->V R):V R:=match lo,hi with
 |none,Z h=>ck (h<=m)<|k 0 h
 |some l,wS=>ck (l<=m)<|k l (m-l)
 |some l,Z h=>ck (l<=h/\h<=m)<|k l (h-l)
 |none,wS=>k 0 m
def zlL(σ:Sg)(t:K):K->K->N (K×Dv)
 |0,_=>[]
 |f+1,i=>match get cx σ t i with
  |some d=>(i,d)::zlL σ t f (i+1)
  |none=>[]
def zsz(σ:Sg)(x:ul)(k:N (K×Dv)->V R):V R:=match x with
 |.tmp t=>(match zlL cx σ t 12 1 with
  |[]=>wS
  |l=>k l)
 |_=>wS
def zcY(σ:Sg)(x:ul)(k:N (K×Dv)->V R):V R:=match xA cx σ x with
 |some v=>k [(0,v)]
 |none=>zsz cx σ x k
def zo7(σ:Sg)(x:ul)(i:K)(k:N (K×Dv)->V R):V R:=match x with
 |.tmp t=>(match get cx σ t (i+1)with
  |some v=>k [(0,v)]
  |none=>wS)
 |_=>wS
def zln(σ:Sg)(x:ul)(k:N (K×Dv)->V R):V R:=match xA cx σ x with
 |some v=>k [(0,v)]
 |none=>wS
def zgg(σ:Sg)(c x y:ul)(k:N (K×Dv)->V R):V R:=match xA cx σ c with
 |some (.kb wT)=>zln cx σ x k
 |some (.kb I)=>zln cx σ y k
 |_=>wS
def ztm(b:ut):Dv:=.d .b<|not b
def zof(σ:Sg)(x:ul)(k:N (K×Dv)->V R):V R:=match xA cx σ x with
 |some (.kb b)=>k [(0,.kb !b)]
 |some (.d .b b)=>k [(0,ztm b)]
 |_=>wS
def zpM(σ:Sg)(x:ul)(k:N (K×Dv)->V R):V R:=match pd cx σ x with
 |some ⟨.i,a⟩=>ngI a λv=>k [(0,v)]
 |some ⟨.u,a⟩=>ngU a λv=>k [(0,v)]
 |_=>wS
def txD(xs:N K):Dv:=.d .tx xs
def zqo(σ:Sg)(s t:kW)(x:ul)(k:N (K×Dv)->V R):V R:=match Yo cf s,Yo cf t with
 |some ⟨_,.int _,_⟩,Z a=>zsO a.k (pd cx σ x) λv=>k [(0,v)]
 |some ⟨.l .ch,.sl E,_⟩,Z ⟨_,.str,_⟩=>(match Yo cf E with
  |some ⟨_,.int .u8,_⟩=>Dj (xA cx σ x) (.l .ch) λxs=>k [(0,txD xs)]
  |_=>wS)
 |_,_=>wS
def elA(E:kW)(e:Ty):ut:=match Yo cf E with
 |some a=>(Ty.same a.ty e).isSome
 |none=>I
def zrk(n:K)(e:Ty)(j:K):Fl (Ty.a n e).D:=⟨j*e.n,e,λz=>xeJ z j e.z,λy z=>xfX z j y⟩
def za5(σ:Sg)(t:kW)(x i:ul)(k:N (K×Dv)->V R):V R:=match Yo cf t,xA cx σ x with
 |some ⟨.l e,.sl _,_⟩,Z (.d (.l s) xs)=>Ty.cast (.l s) (.l e) xs λxs=>atI cx σ i (xaK xs) λj=>B (xeJ xs j e.z) λy=>k [(0,.q e y)]
 |some ⟨.l e,.sl _,_⟩,Z (.ow o)=>(match QF cx σ o with
  |some (.own s _ xs)=>Ty.cast (.l s) (.l e) xs λxs=>atI cx σ i (xaK xs) λj=>k [(0,.ep o e j<|Fl.self e)]
  |_=>wS)
 |some ⟨_,.ar b E,_⟩,Z (.q (.a n e) x)=>ju (xah b n && elA cf E e)<|atI cx σ i n λj=>B (xeJ x j e.z) λy=>k [(0,.q e y)]
 |some ⟨_,.ar b E,_⟩,Z (.vs o (.a n e))=>ju (xah b n && elA cf E e)<|atI cx σ i n λj=>k [(0,.vp o (.a n e)<|zrk n e j)]
 |_,_=>wS
def zbE(σ:Sg)(t:kW)(x:ul)(i:K)(k:N (K×Dv)->V R):V R:=match Yo cf t,xA cx σ x with
 |some ⟨e,.st n,_⟩,Z (.q s y)=>Ty.cast s e y λy=>(match xl n e i with
  |some f=>k [(0,.q f.f<|f.get y)]
  |none=>wS)
 |some ⟨e,.st n,_⟩,Z (.vs o s)=>(match Ty.same s e,xl n s i with
  |some _,Z f=>k [(0,.vp o s f)]
  |_,_=>wS)
 |some ⟨e,.st n,_⟩,Z (.vp o s g)=>(match Ty.same g.f e,xl n g.f i with
  |some _,Z f=>k [(0,.vp o s<|g.comp f)]
  |_,_=>wS)
 |some ⟨e,.st n,_⟩,Z (.ep o s j g)=>(match Ty.same g.f e,xl n g.f i with
  |some _,Z f=>k [(0,.ep o s j<|g.comp f)]
  |_,_=>wS)
 |_,_=>wS
def OV(σ:Sg)(t:kW)(x:ul)(i:K)(k:N (K×Dv)->V R):V R:=match Yo cf t,xA cx σ x with
 |some ⟨e,.st n,_⟩,Z (.d s y)=>Ty.cast s e y λy=>(match xl n e i with
  |some f=>k [(0,.d f.f<|f.get y)]
  |none=>wS)
 |_,_=>wS
def zha(σ:Sg)(t:kW)(x:ul)(k:N (K×Dv)->V R):V R:=match Yo cf t with
 |some a=>znm cx σ (xA cx σ x) λp=>Ty.cast p.t a.ty p.x λy=>k [(0,.d a.ty y)]
 |none=>wS
def zaU(σ:Sg)(t:kW)(x:ul)(lo hi:V ul)(k:N (K×Dv)->V R):V R:=match Yo cf t,xA cx σ x with
 |some ⟨.l e,.sl _,_⟩,Z (.d (.l s) xs)=>Ty.cast (.l s) (.l e) xs λxs=>Tq cx σ lo λlo=>Tq cx σ hi λhi=>zpK (α:=e.D) xs lo hi λys=>k [(0,.d (.l e) ys)]
 |some ⟨.l e,.sl _,_⟩,Z (.ow o)=>(match QF cx σ o with
  |some (.own s _ xs)=>Ty.cast (.l s) (.l e) xs λxs=>Tq cx σ lo λlo=>Tq cx σ hi λhi=>zlh (xaK xs) lo hi λl n=>k [(0,.sv o e l n)]
  |_=>wS)
 |some ⟨_,.str,_⟩,Z (.d .tx xs)=>Tq cx σ lo λlo=>Tq cx σ hi λhi=>zpK (α:=K) xs lo hi λys=>k [(0,.d .tx ys)]
 |_,_=>wS
def zpe(σ:Sg)(t:kW)(x i:ul)(k:N (K×Dv)->V R):V R:=match Yo cf t,xA cx σ x with
 |some ⟨_,.str,_⟩,Z (.d .tx xs)=>atI cx σ i (xaK (α:=K) xs) λj=>B (xeJ (α:=K) xs j 0) λy=>k [(0,.d .ch y)]
 |_,_=>wS
def zqn(σ:Sg)(E:kW)(x:ul)(k:N (K×Dv)->V R):V R:=match Yo cf E with
 |some a=>Dj (xA cx σ x) a.ty λy=>k [(0,.q a.ty y)]
 |none=>wS
def zjf(σ:Sg)(n:K)(ty:Ty):N (K×ul)->ty.D->(ty.D->V R)->V R
 |[],z,k=>k z
 |(i,x)::r,z,k=>match xl n ty i with
  |some f=>Dj (xA cx σ x) f.f λy=>zjf σ n ty r (f.set y z) k
  |none=>wS
def zbf(σ:Sg)(t:kW)(ps:N (K×ul))(k:N (K×Dv)->V R):V R:=match Yo cf t with
 |some ⟨ty,.st n,_⟩=>PG (xda (X ps) n||xah n 0) (zjf cx σ n ty ps ty.z λy=>k [(0,.d ty y)]) (parts cx σ (zex n ty) ps 0 λys=>match ib n ty ys with
  |some y=>k [(0,.d ty y)]
  |none=>wS)
 |some ⟨.a n e,.ar b E,_⟩=>ju (xah b n && elA cf E e)<|parts cx σ (H7 n e) ps 0 λys=>k [(0,.d (.a n e)<|GL n e ys)]
 |_=>wS
def zn7(σ:Sg)(t:kW)(n:K)(ps:N (K×ul))(k:N (K×Dv)->V R):V R:=match Yo cf t with
 |some ⟨.l s,.sl _,_⟩=>ju (xft (n*s.n) 16777216)<|parts cx σ (H7 n s) ps 0 λys=>k [(0,.d (.l s)<|GL n s ys)]
 |_=>wS
def zqt(σ:Sg)(f:Go.Fn)(first cs:N ul)(k:N (K×Dv)->V R):V R:=match f,first,dQ cx σ cs with
 |.func f,[],Z l=>k [(0,.fn f l)]
 |.func f,[x],Z []=>(match xA cx σ x with
  |some (.vs o t)=>k [(0,.bm f o t)]
  |_=>wS)
 |_,_,_=>wS
def zb7(n:K):Dv:=.d .i (n:J)
def zp4(σ:Sg)(x:N ul)(ts:N kW)(k:N (K×Dv)->V R):V R:=match x,ts with
 |[x],[t]=>(match Yo cf t with
  |some ⟨.l _,.sl _,_⟩=>(match xA cx σ x with
   |some .nil=>k [(0,zb7 0)]
   |some (.d (.l _) xs)=>k [(0,zb7<|xaK xs)]
   |some (.ow o)=>(match QF cx σ o with
    |some (.own _ _ xs)=>k [(0,zb7<|xaK xs)]
    |_=>wS)
   |_=>wS)
  |some ⟨_,.str,_⟩=>(match xA cx σ x with
   |some (.d .tx xs)=>k [(0,zb7<|xaK (α:=K) xs)]
   |_=>wS)
  |_=>wS)
 |_,_=>wS
def zpX(x:J):Dv:=.d .i x
def mxI(b:ut)(a c:J)(k:J->V R):V R:=match b with
 |true=>B (max a c) k
 |false=>B (min a c) k
def eMM(b:ut)(σ:Sg)(x:N ul)(k:N (K×Dv)->V R):V R:=match x with
 |[x,y]=>(match pd cx σ x,pd cx σ y with
  |some ⟨.i,a⟩,Z ⟨.i,c⟩=>mxI b a c λz=>k [(0,zpX z)]
  |_,_=>wS)
 |_=>wS
def zsx:ul->ut
 |.func _=>wT
 |_=>I
def zjt(σ:Sg)(c:ul)(a:N ul)(k:N (K×Dv)->V R):V R:=match xA cx σ c with
 |some (.fn f cs)=>(match Lf cf.cs f with
  |some s=>Jn cf cx σ s.dom a cs λy=>G (s.M y) λr=>k<|zlA s.cod r
  |none=>(match aR cf.ex f,a,cs with
   |some b,[x,y,z],[]=>ju (zsx c)<|exD b (pd cx σ x) (pd cx σ y) (pd cx σ z) k
   |_,_,_=>wS))
 |some (.fp dom cod g)=>Mr cx σ dom a λy=>G (g y) λr=>k<|zjn cod r<|bif zkD cod then 0 else 1
 |_=>wS
def zcm:V Dv->ut
 |some (.mw _)=>wT
 |some (.mv _ _ _)=>wT
 |some (.hp _ _)=>wT
 |some (.rw _ _)=>wT
 |some (.rp _ _ _ _ _)=>wT
 |some (.vf _ _ _ _)=>wT
 |_=>I
def zo8:V Dv->ut
 |some (.mv _ _ _)=>wT
 |_=>I
def mkF(σ:Sg)(f:ul):ut:=match xA cx σ f with
 |some (.fn f _)=>(zgJ cf.cl f).isSome
 |_=>I
def zrn(σ:Sg):Op->ut
 |.load _ x=>zcm<|xA cx σ x
 |.indexAddr _ x _=>zcm<|xA cx σ x
 |.fieldAddr _ x _=>zcm<|xA cx σ x
 |.slice _ x _ _ wS=>zcm<|xA cx σ x
 |.call ⟨.builtin .len,ags,_⟩=>ags.toList.any λx=>zcm<|xA cx σ x
 |.call ⟨.value f,ags,_⟩=>mkF cf cx σ f||ags.toList.any λx=>zo8<|xA cx σ x
 |_=>I
def uO{α:Type}(a:N (N α))(r:K):N α:=a.getD r []
def zet{α:Type}(a:N (N α))(ix:N K):N (N α):=ix.map<|uO a
def O9(σ:Sg)(t:kW)(x i:ul)(k:N (K×Dv)->V R):V R:=match Yo cf t,xA cx σ x with
 |some ⟨.l (.l e),.sl _,_⟩,Z (.mw o)=>(match QF cx σ o with
  |some (.mat s _ _ a ix)=>atI cx σ i (xaK ix) λj=>k [(0,.hp o j)]
  |_=>wS)
 |some ⟨.l (.l e),.sl _,_⟩,Z (.mv o lo n)=>(match QF cx σ o with
  |some (.mat s _ _ a ix)=>atI cx σ i n λj=>k [(0,.hp o<|lo+j)]
  |_=>wS)
 |some ⟨.l e,.sl _,_⟩,Z (.rw o r)=>(match QF cx σ o with
  |some (.mat s _ _ a ix)=>Ty.cast (.l (.l s)) (.l (.l e)) a λa=>atI cx σ i (xaK<|uO (α:=e.D) a r) λj=>k [(0,.rp o e r j<|Fl.self e)]
  |_=>wS)
 |_,_=>wS
def zfZ(n:K)(s:Ty)(i j:K)(k:Fl s.D->V R):V R:=ju (!xah i j) (match xl n s i with
 |some f=>k f
 |none=>wS)
def zbN(σ:Sg)(t:kW)(x:ul)(k:N (K×Dv)->V R):V R:=match Yo cf t,xA cx σ x with
 |some ⟨.l e,.sl _,_⟩,Z (.hp o j)=>(match QF cx σ o with
  |some (.mat s _ _ b ix)=>B (xeJ ix j 0) λr=>k [(0,.rw o r)]
  |_=>wS)
 |some a,Z (.rp o e r j f)=>(match QF cx σ o with
  |some (.mat s _ _ b ix)=>Ty.cast (.l (.l s)) (.l (.l e)) b λb=>B (f.get<|xeJ (uO (α:=e.D) b r) j e.z) λy=>Ty.cast f.f a.ty y λy=>k [(0,.d a.ty y)]
  |_=>wS)
 |some a,Z (.vf o c n0 i)=>(match QF cx σ o with
  |some (.vr s _ _ _ n j z _)=>ju (xah n0 n && (Ty.same c s).isSome)<|zfZ n s i j λf=>Ty.cast f.f a.ty (f.get z) λy=>k [(0,.d a.ty y)]
  |some (.vh s _ _ _ n j z)=>ju (xah n0 n && (Ty.same c s).isSome)<|zfZ n s i j λf=>Ty.cast f.f a.ty (f.get z) λy=>k [(0,.d a.ty y)]
  |_=>wS)
 |_,_=>wS
def NI(σ:Sg)(t:kW)(x:ul)(i:K)(k:N (K×Dv)->V R):V R:=match Yo cf t,xA cx σ x with
 |some ⟨e,.st n,_⟩,Z (.mw o)=>(match QF cx σ o with
  |some (.vr s _ _ _ a _ _ _)=>ju (xah a n && (Ty.same s e).isSome && (xl n e i).isSome)<|k [(0,.vf o e n i)]
  |some (.vh s _ _ _ a _ _)=>ju (xah a n && (Ty.same s e).isSome && (xl n e i).isSome)<|k [(0,.vf o e n i)]
  |_=>wS)
 |_,_=>wS
def Pf(σ:Sg)(t:kW)(x:ul)(lo hi:V ul)(k:N (K×Dv)->V R):V R:=match Yo cf t,xA cx σ x with
 |some ⟨.l (.l e),.sl _,_⟩,Z (.mw o)=>(match QF cx σ o with
  |some (.mat s _ _ a ix)=>Tq cx σ lo λlo=>Tq cx σ hi λhi=>zlh (xaK ix) lo hi λl n=>k [(0,.mv o l n)]
  |_=>wS)
 |_,_=>wS
def zgf(σ:Sg)(x:N ul)(ts:N kW)(k:N (K×Dv)->V R):V R:=match x,ts with
 |[x],[t]=>(match Yo cf t,xA cx σ x with
  |some ⟨.l _,.sl _,_⟩,Z (.mw o)=>(match QF cx σ o with
   |some (.mat _ _ _ _ ix)=>k [(0,zb7<|xaK ix)]
   |_=>wS)
  |some ⟨.l _,.sl _,_⟩,Z (.mv o _ n)=>(match QF cx σ o with
   |some (.mat _ _ _ _ _)=>k [(0,zb7 n)]
   |_=>wS)
  |some ⟨.l _,.sl _,_⟩,Z (.rw o r)=>(match QF cx σ o with
   |some (.mat _ _ _ a _)=>k [(0,zb7<|xaK<|uO a r)]
   |_=>wS)
  |_,_=>wS)
 |_,_=>wS
def Ji(σ:Sg):(dom:N AM)->N ul->N PD->(cj dom->V R)->V R
 |[],[],[],k=>k ()
 |.q t::r,[],c::cs,k=>Ty.cast c.t t c.x λy=>Ji σ r [] cs λz=>k (y,z)
 |.d t::r,x::xs,cs,k=>(match xA cx σ x with
  |some (.mv o lo n)=>(match QF cx σ o with
   |some (.mat s _ _ a ix)=>Ty.cast (.l (.l s)) t (xdB n<|xdN lo<|zet a ix) λy=>Ji σ r xs cs λz=>k (y,z)
   |_=>wS)
  |v=>Dj v t λy=>Ji σ r xs cs λz=>k (y,z))
 |.fn dom cod::r,x::xs,cs,k=>asF cf σ (xA cx σ x) dom cod λg=>Ji σ r xs cs λz=>k (g,z)
 |_,_,_,_=>wS
def RE:N RM->ut
 |[]=>wT
 |.d .i::r=>RE r
 |.d .b::r=>RE r
 |.d .u::r=>RE r
 |_=>I
def zcw(σ:Sg)(b:ul)(a:N ul)(k:N (K×Dv)->V R):V R:=match xA cx σ b with
 |some (.fn f cs)=>(match zgJ cf.cl f,cs with
  |some s,[]=>Mr cx σ s.dom a λys=>k [(0,.fn s.g<|s.mc ys)]
  |_,cs=>(match Lf cf.cs f with
   |some s=>ju (RE s.cod)<|Ji cf cx σ s.dom a cs λy=>G (s.M y) λr=>k<|zlA s.cod r
   |none=>wS))
 |_=>wS
def zpG(σ:Sg)(T:kW)(x:ul)(k:N (K×Dv)->V R):V R:=match aR cf.tt T,xA cx σ x with
 |some ⟨.w1 .i,.st 0,_⟩,Z (.d t y)=>Ty.cast t (.w1 .i) y λz=>k [(0,.ifc (T,z))]
 |_,_=>wS
def eCo(σ:Sg)(b:Op)(k:N (K×Dv)->V R):V R:=match b with
 |.load t x=>zbN cf cx σ t x k
 |.indexAddr t x i=>O9 cf cx σ t x i k
 |.fieldAddr t x i=>NI cf cx σ t x i k
 |.slice t x lo hi wS=>Pf cf cx σ t x lo hi k
 |.call ⟨.builtin .len,a,ts⟩=>zgf cf cx σ a.toList ts.toList k
 |.call ⟨.value f,a,_⟩=>zcw cf cx σ f a.toList k
 |_=>wS
def zoE(σ:Sg)(d:Op)(k:N (K×Dv)->V R):V R:=match d with
 |.move x=>zcY cx σ x k
 |.assign x=>zcY cx σ x k
 |.extract x i=>zo7 cx σ x i k
 |.pick c x y=>zgg cx σ c x y k
 |.unOp .not _ x=>zof cx σ x k
 |.unOp .neg _ x=>zpM cx σ x k
 |.binOp b t x y _=>PG (zlj<|xA cx σ y) (ju (zkJ cf t)<|eqP b (xA cx σ x) λv=>k [(0,v)])<|zph (isB cf t) b (pd cx σ x) (pd cx σ y) λv=>k [(0,v)]
 |.nilCheck x=>zol cx σ x k
 |.convert s t x=>zqo cf cx σ s t x k
 |.load t x=>zha cf cx σ t x k
 |.indexAddr t x i=>za5 cf cx σ t x i k
 |.fieldAddr t x i=>zbE cf cx σ t x i k
 |.field t x i=>OV cf cx σ t x i k
 |.slice t x lo hi wS=>zaU cf cx σ t x lo hi k
 |.index t x i=>zpe cf cx σ t x i k
 |.box E x=>zqn cf cx σ E x k
 |.build t ps=>zbf cf cx σ t ps.toList k
 |.makeInterface t x=>zpG cf cx σ t x k
 |.buildSlice t n ps=>zn7 cf cx σ t n ps.toList k
 |.makeFunc f first cs=>zqt cx σ f first.toList cs.toList k
 |.call ⟨.builtin .len,a,ts⟩=>zp4 cf cx σ a.toList ts.toList k
 |.call ⟨.builtin .max,a,_⟩=>eMM cx wT σ a.toList k
 |.call ⟨.builtin .min,a,_⟩=>eMM cx I σ a.toList k
 |.call ⟨.value f,a,_⟩=>zjt cf cx σ f a.toList k
 |_=>wS
def eOp(σ:Sg)(a:Op)(k:N (K×Dv)->V R):V R:=PG (zrn cf cx σ a) (eCo cf cx σ a k)<|zoE cf cx σ a k
def vv:Dv->V K
 |.ow o=>Z o
 |.vs o _=>Z o
 |.ep o _ _ _=>Z o
 |.sv o _ _ _=>Z o
 |.vp o _ _=>Z o
 |.mw o=>Z o
 |.mv o _ _=>Z o
 |.hp o _=>Z o
 |.rw o _=>Z o
 |.rp o _ _ _ _=>Z o
 |.yd o=>Z o
 |.vf o _ _ _=>Z o
 |.bm _ o _=>Z o
 |_=>wS
def okL(n:K)(l:N (K×Dv)):ut:=l.all λe=>match vv e.2 with
 |some o=>xda o n
 |none=>wT
def Ni(o:K)(x:Od)(v:Dv):Dv:=match v,x with
 |.ow a,.own s _ xs=>bif xah a o then .d (.l s) xs else v
 |.vs a _,.var s _ z=>bif xah a o then .q s z else v
 |.mw a,.mat s _ _ b ix=>bif xah a o then .d (.l (.l s)) (zet b ix)else v
 |.mw a,.vr t _ s _ n i z xs=>bif xah a o then .q t (Zj s (xl n t i) xs z)else v
 |_,_=>v
def Iq(o:K)(x:Od):N (K×K×Dv)->N (K×K×Dv)
 |[]=>[]
 |(t,i,v)::r=>(t,i,Ni o x v)::Iq o x r
def Tr(σ:Sg)(o:K):Sg:=match xB σ.ob o with
 |some x=>⟨σ.nx,Iq o x σ.rg,yE σ.ob o⟩
 |none=>σ
def frz(σ:Sg)(x:ul):Sg:=match xA cx σ x with
 |some (.ow o)=>Tr σ o
 |some (.vs o _)=>Tr σ o
 |some (.mw o)=>Tr σ o
 |_=>σ
def zld(σ:Sg):N ul->Sg
 |[]=>σ
 |x::r=>zld (frz cx σ x) r
def zby(σ:Sg):N AM->N ul->ut
 |[],_=>wT
 |.own _ _::r,x::xs=>(match xA cx σ x with
  |some (.ow o)=>σ.ob.any λe=>xah e.1 o
  |_=>I) && zby σ r xs
 |.var _ _::r,x::xs=>(match xA cx σ x with
  |some (.vs o _)=>σ.ob.any λe=>xah e.1 o
  |_=>I) && zby σ r xs
 |.d _::r,x::xs=> !zo8 (xA cx σ x) && zby σ r xs
 |_::r,_::xs=>zby σ r xs
 |_::r,[]=>zby σ r []
def zb6(σ:Sg)(f:XS)(a:N ul):N Wq->V Wq
 |[]=>wS
 |s::r=>match xah s.f f && zby cx σ s.dom a with
  |true=>Z s
  |false=>zb6 σ f a r
def zsE(d:V Wf):ut:=match d with
 |some t=>fc cf.an.vw t
 |none=>I
def zbO(d:V Wf):ut:=match d with
 |some t=>fc cf.an.mt t
 |none=>I
def ztX:V Dv->ut
 |some (.hp _ _)=>wT
 |some (.mw _)=>wT
 |_=>I
def zrM(σ:Sg):V Dv->ut
 |some (.vf o _ _ i)=>(match xB σ.ob o with
  |some (.vh _ _ _ _ _ j _)=>xah i j
  |_=>I)
 |_=>I
def zh0:V Dv->ut
 |some (.mw _)=>wT
 |_=>I
def zkc(σ:Sg)(f:XS)(a:N ul):N J2->V J2
 |[]=>wS
 |p::r=>match xah p.s.f f && zby cx σ p.s.dom a with
  |true=>Z p
  |false=>zkc σ f a r
def znD(σ:Sg)(dom:N AM)(a:N ul):N ul:=(dom.zip a).filterMap λe=>match e.1 with
 |.d _=>(match zo8 (xA cx σ e.2)with
  |true=>wS
  |false=>Z e.2)
 |.q _=>Z e.2
 |_=>wS
def zqf(σ:Sg)(d:V Wf):Op->N ul
 |.build _ ps=>ps.toList.map (·.2)
 |.buildSlice _ _ ps=>(match zbO cf d with
  |true=>[]
  |false=>ps.toList.map (·.2))
 |.store _ a v=>(match ztX (xA cx σ a)||zrM σ (xA cx σ a),xA cx σ v with
  |false,Z (.ow _)=>[v]
  |_,_=>[])
 |.slice _ x wS (Z _) wS=>(match zh0 (xA cx σ x),zsE cf d with
  |true,I=>[x]
  |_,_=>[])
 |.box _ v=>[v]
 |.load _ x=>(match xA cx σ x with
  |some (.mw o)=>(match QF cx σ o with
   |some (.vr _ _ _ _ _ _ _ _)=>[x]
   |_=>[])
  |_=>[])
 |.convert _ _ v=>[v]
 |.makeFunc _ _ cs=>cs.toList
 |.slice _ x (Z _) _ _=>(match zsE cf d with
  |true=>[]
  |false=>[x])
 |.call ⟨.builtin .append,b,_⟩=>(match b.toList.any λx=>zh0 (xA cx σ x)with
  |true=>[]
  |false=>b.toList.drop 1)
 |.call ⟨.builtin .copy,b,_⟩=>b.toList.drop 1
 |.call ⟨.value f,b,_⟩=>(match xA cx σ f with
  |some (.fn f _)=>(match zb6 cx σ f b.toList cf.cs with
   |some s=>znD cx σ s.dom b.toList
   |none=>(match zkc cx σ f b.toList cf.ps with
    |some p=>znD cx σ p.s.dom b.toList
    |none=>[]))
  |some (.fp _ _ _)=>b.toList
  |_=>[])
 |_=>[]
def zbC(σ:Sg)(d:V Wf)(mk:K->Dv)(x:Od):Sg:=⟨σ.nx+1,qI σ.rg d [(0,mk σ.nx)],(σ.nx,x)::σ.ob⟩
def Ya(σ:Sg):(dom:N AM)->N ul->N PD->(cj dom->N K->V R)->V R
 |[],[],[],k=>k () []
 |.q t::r,[],c::cs,k=>Ty.cast c.t t c.x λy=>Ya σ r [] cs λz os=>k (y,z) os
 |.d t::r,x::xs,cs,k=>Dj (xA cx σ x) t λy=>Ya σ r xs cs λz os=>k (y,z) os
 |.q t::r,x::xs,cs,k=>(match xA cx σ x with
  |some (.q s y)=>Ty.cast s t y λy=>Ya σ r xs cs λz os=>k (y,z) os
  |_=>wS)
 |.own t E::r,x::xs,cs,k=>(match xA cx σ x with
  |some (.ow o)=>(match xB σ.ob o with
   |some (.own s a ys)=>ju (xah E a)<|Ty.cast (.l s) (.l t) ys λy=>Ya σ r xs cs λz os=>ju (!fc os o)<|k (y,z) (o::os)
   |_=>wS)
  |_=>wS)
 |.var t E::r,x::xs,cs,k=>(match xA cx σ x with
  |some (.vs o _)=>(match xB σ.ob o with
   |some (.var s a y)=>ju (xah E a)<|Ty.cast s t y λy=>Ya σ r xs cs λz os=>ju (!fc os o)<|k (y,z) (o::os)
   |_=>wS)
  |_=>wS)
 |.fn dom cod::r,x::xs,cs,k=>asF cf σ (xA cx σ x) dom cod λg=>Ya σ r xs cs λz os=>k (g,z) os
 |_,_,_,_=>wS
def ZK:(rs:N RM)->bZ rs->K->K->N (K×Dv)×N (K×Od)
 |[],_,_,_=>([],[])
 |[.d t],x,i,o=>([(i,.d t x)],[])
 |[.own t E],x,i,o=>([(i,.ow o)],[(o,.own t E x)])
 |[.var t E],x,i,o=>([(i,.vs o t)],[(o,.var t E x)])
 |.d t::r::rs,x,i,o=>let y:=ZK (r::rs) x.2 (i+1) o
  ((i,.d t x.1)::y.1,y.2)
 |.own t E::r::rs,x,i,o=>let y:=ZK (r::rs) x.2 (i+1) (o+1)
  ((i,.ow o)::y.1,(o,.own t E x.1)::y.2)
 |.var t E::r::rs,x,i,o=>let y:=ZK (r::rs) x.2 (i+1) (o+1)
  ((i,.vs o t)::y.1,(o,.var t E x.1)::y.2)
def vb(ob:N (K×Od)):N K->N (K×Od)
 |[]=>ob
 |o::r=>yE (vb ob r) o
def zci(σ:Sg)(s:Ty)(p v:V Dv)(k:Sg->V R):V R:=match p with
 |some (.vs o _)=>(match xB σ.ob o with
  |some (.var b E z)=>Ty.cast b s z λz=>Dj v s λy=>k ⟨σ.nx,σ.rg,kj σ.ob o (.var s E y)⟩
  |_=>wS)
 |some (.vp o a f)=>(match xB σ.ob o,Ty.same f.f s with
  |some (.var b E z),Z _=>Ty.cast b a z λz=>Dj v f.f λy=>B (f.set y z) λz=>k ⟨σ.nx,σ.rg,kj σ.ob o (.var a E z)⟩
  |_,_=>wS)
 |some (.ep o a j f)=>(match xB σ.ob o,Ty.same f.f s with
  |some (.own b E xs),Z _=>Ty.cast (.l b) (.l a) xs λxs=>Dj v f.f λy=>B (xfX xs j<|f.set y<|xeJ xs j a.z) λxs=>k ⟨σ.nx,σ.rg,kj σ.ob o (.own a E xs)⟩
  |_,_=>wS)
 |_=>wS
def zaM(σ:Sg)(d:V Wf)(E:kW)(k:Sg->V R):V R:=match Yo cf E with
 |some a=>k<|zbC σ d (λo=> .vs o a.ty) (.var a.ty E a.ty.z)
 |none=>wS
def zpS(σ:Sg)(d:V Wf)(E:kW)(x:ul)(k:Sg->V R):V R:=match Yo cf E with
 |some a=>Dj (xA cx σ x) a.ty λy=>k<|zbC σ d (λo=> .vs o a.ty) (.var a.ty E y)
 |none=>wS
def zf2(σ:Sg)(d:V Wf)(t:kW)(x y:ul)(k:Sg->V R):V R:=match Yo cf t with
 |some ⟨.l s,.sl E,_⟩=>ju (zdn x y) (match Yo cf E,pd cx σ x with
  |some a,Z ⟨.i,n⟩=>Ty.cast a.ty s a.ty.z λz=>jt n λn=>ck (a.B*n<=281474976710656)<|B (So n z) λxs=>k<|zbC σ d .ow (.own s E xs)
  |_,_=>wS)
 |_=>wS
def zoh(σ:Sg)(d:V Wf)(t:kW)(n:K)(ps:N (K×ul))(k:Sg->V R):V R:=match Yo cf t with
 |some ⟨.l s,.sl E,_⟩=>ju (xft (n*s.n) 16777216)<|parts cx σ (H7 n s) ps 0 λys=>k<|zbC σ d .ow (.own s E<|GL n s ys)
 |_=>wS
def zbk(σ:Sg)(d:V Wf)(t:kW)(o:K)(hi:ul)(k:Sg->V R):V R:=match Yo cf t,xB σ.ob o with
 |some ⟨.l a,.sl _,_⟩,Z (.own s E xs)=>Ty.cast (.l s) (.l a) xs λxs=>Tq cx σ (Z hi) λh=>zpK (α:=a.D) xs wS h λys=>k ⟨σ.nx+1,qI σ.rg d [(0,.ow σ.nx)],(σ.nx,.own a E ys)::yE σ.ob o⟩
 |_,_=>wS
def zc9(σ:Sg)(d:V Wf)(b:kW)(a:ut)(s:Ty)(E:kW)(B:K)(z:s.D)(y:ul)(ob:N (K×Od))(xs:N s.D)(k:Sg->V R):V R:=match pd cx σ y with
 |some ⟨.i,n⟩=>(match Yo cf b with
  |some ⟨_,.int _,_⟩=>jt n λn=>ztT xs n z B λzs=>k ⟨σ.nx+1,qI σ.rg d [(0,.ow σ.nx)],(σ.nx,.own s E zs)::ob⟩
  |_=>wS)
 |_=>(match xA cx σ y with
  |some (.sv o2 t2 lo n)=>(match QF cx ⟨σ.nx,σ.rg,ob⟩ o2 with
   |some (.own c _ zs)=>ju a<|Ty.cast (.l c) (.l t2) zs λzs=>Ty.cast (.l t2) (.l s) (xdB n<|xdN lo zs) λys=>nm ys λys=>zr9 (α:=s.D) xs ys B λzs=>k ⟨σ.nx+1,qI σ.rg d [(0,.ow σ.nx)],(σ.nx,.own s E zs)::ob⟩
   |_=>wS)
  |_=>ju a<|Dj (xA cx σ y) (.l s) λys=>zr9 (α:=s.D) xs ys B λzs=>k ⟨σ.nx+1,qI σ.rg d [(0,.ow σ.nx)],(σ.nx,.own s E zs)::ob⟩)
def zpR(σ:Sg)(d:V Wf)(c:N ul)(ts:N kW)(k:Sg->V R):V R:=match c,ts with
 |[x,y],[t,a]=>(match Yo cf t with
  |some ⟨.l s,.sl E,_⟩=>(match Yo cf E with
   |some b=>Ty.cast b.ty s b.ty.z λz=>(match xA cx σ x with
    |some .nil=>zc9 cf cx σ d a (xah t a) s E b.B z y σ.ob [] k
    |some (.ow o)=>(match xB σ.ob o with
     |some (.own e f xs)=>ju (xah f E)<|Ty.cast (.l e) (.l s) xs λxs=>zc9 cf cx σ d a (xah t a) s E b.B z y (yE σ.ob o) xs k
     |_=>wS)
    |_=>wS)
   |none=>wS)
  |_=>wS)
 |_,_=>wS
def zgY(σ:Sg)(d:V Wf)(a:N ul)(ts:N kW)(k:Sg->V R):V R:=match a,ts with
 |[x,y],[t,_]=>(match Yo cf t,xA cx σ x with
  |some ⟨.l s,.sl _,_⟩,Z (.ow o)=>(match xB σ.ob o with
   |some (.own b c xs)=>Ty.cast (.l b) (.l s) xs λxs=>Dj (xA cx σ y) (.l s) λys=>B (LH (α:=s.D) xs ys) λzs=>k ⟨σ.nx,qI σ.rg d [],kj σ.ob o (.own s c zs)⟩
   |_=>wS)
  |some ⟨.l s,.sl _,_⟩,Z (.sv o t2 lo n)=>(match xB σ.ob o,Ty.same t2 s with
   |some (.own b c xs),Z _=>Ty.cast (.l b) (.l s) xs λxs=>Dj (xA cx σ y) (.l s) λys=>B (ou (α:=s.D) lo n xs ys) λzs=>k ⟨σ.nx,qI σ.rg d [],kj σ.ob o (.own s c zs)⟩
   |_,_=>wS)
  |_,_=>wS)
 |_,_=>wS
def ER:N K->N (K×Od)->N (K×Od)
 |o::os,e::r=>(o,e.2)::ER os r
 |_,_=>[]
def Ar:K->N RM->ut
 |0,[]=>wT
 |0,.own _ _::r=>Ar 0 r
 |0,.var _ _::r=>Ar 0 r
 |n+1,.d _::r=>Ar n r
 |_,_=>I
def C4(m:K):K:=bif xah m 1 then 0 else 1
def zmf(σ:Sg)(d:V Wf)(s:Wq)(os:N K)(r:bZ s.cod)(k:Sg->V R):V R:=
 match s.bk with
 |0=>(let g:=ZK s.cod r (bif du s.cod then 0 else 1) σ.nx
  k ⟨σ.nx+X g.2,qI σ.rg d g.1,g.2++vb σ.ob os⟩)
 |b+1=>(let m:=X s.cod-(b+1)
  let g:=ZK s.cod r (C4 m) σ.nx
  ju (Ar m s.cod)<|k ⟨σ.nx+X g.2,qI σ.rg d<|g.1.filter λe=>xda e.1<|C4 m+m,ER os g.2++vb σ.ob os⟩)
def znL(σ:Sg)(d:V Wf)(s:Wq)(a:N ul)(cs:N PD)(k:Sg->V R):V R:=
 Ya cf cx σ s.dom a cs λy os=>G (s.M y) λr=>zmf σ d s os r k
def zoo(σ:Sg)(d:V Wf)(p:J2)(a:N ul)(cs:N PD)(kp:PX->Sg->V R)(k:Sg->V R):V R:=
 Ya cf cx σ p.s.dom a cs λy os=>G (p.M y) λz=>xfi (λq=>kp q ⟨σ.nx,σ.rg,vb σ.ob os⟩) (λr=>zmf σ d p.s os r k) z
def zmd(σ:Sg):Op->V (J2×N ul×N PD)
 |.call ⟨.value f,a,_⟩=>(match xA cx σ f with
  |some (.fn f' cs)=>(match zkc cx σ f' a.toList cf.ps with
   |some p=>Z (p,a.toList,cs)
   |none=>wS)
  |_=>wS)
 |_=>wS
def mE(σ:Sg)(d:V Wf)(a:Op)(k:Sg->V R):V R:=eOp cf cx σ a λl=>ju (okL σ.nx l)<|k (σ.put d l)
def zog(d:V Wf):ut:=match d with
 |some t=>fc cf.an.bx t
 |none=>I
def zmq(o n:K)(v:Dv):Dv:=match v with
 |.mw p=>bif xah p o then .mw n else v
 |.mv p l m=>bif xah p o then .mv n l m else v
 |.hp p j=>bif xah p o then .hp n j else v
 |.rw p r=>bif xah p o then .rw n r else v
 |.rp p t r j f=>bif xah p o then .rp n t r j f else v
 |v=>v
def zkF(o n:K):N (K×K×Dv)->N (K×K×Dv)
 |[]=>[]
 |(t,i,v)::r=>(t,i,zmq o n v)::zkF o n r
def If(o n:K):N (K×K×Dv)->N (K×K×Dv)
 |[]=>[]
 |(t,i,.mw p)::r=>(t,i,bif xah p o then .mw n else .mw p)::If o n r
 |(t,i,v)::r=>(t,i,v)::If o n r
def SK(o n:K):N (K×K×Dv)->N (K×K×Dv)
 |[]=>[]
 |(t,i,.yd p)::r=>(t,i,bif xah p o then .yd n else .yd p)::SK o n r
 |(t,i,v)::r=>(t,i,v)::SK o n r
def zsJ{α:Type}(a b:N α):N α:=a++b
def zrA{α:Type}(a:N (N α))(r:K)(xs:N α):N (N α):=xfX a r xs
def kK(σ:Sg)(s:Ty)(p v:V Dv)(k:Sg->V R):V R:=match p,v with
 |some (.rp o e r j f),v=>(match xB σ.ob o,Ty.same f.f s with
  |some (.mat d E E1 c ix),Z _=>Ty.cast (.l (.l d)) (.l (.l e)) c λc=>Dj v f.f λy=>B (zrA (α:=e.D) c r<|xfX (uO (α:=e.D) c r) j<|f.set y<|xeJ (uO (α:=e.D) c r) j e.z) λc=>k ⟨σ.nx,σ.rg,kj σ.ob o (.mat e E E1 c ix)⟩
  |_,_=>wS)
 |some (.vf o g n0 i),Z (.ow o2)=>ju (!xah o o2)<|(match xB σ.ob o,xB σ.ob o2 with
  |some (.vh a E b E1 n j z),Z (.own q t ys)=>ju (xah i j && xah E1 t && (Ty.same s (.l b)).isSome && (xah n0 n && (Ty.same g a).isSome))<|Ty.cast (.l q) (.l b) ys λys=>k ⟨σ.nx+1,If o σ.nx σ.rg,(σ.nx,.vr a E b E1 n j z ys)::yE (yE σ.ob o) o2⟩
  |_,_=>wS)
 |some (.vf o g n0 i),v=>(match xB σ.ob o with
  |some (.vr a E b E1 n j z ys)=>ju (xah n0 n && (Ty.same g a).isSome)<|zfZ n a i j λf=>ju (Ty.same f.f s).isSome<|Dj v f.f λy=>B (f.set y z) λz=>k ⟨σ.nx,σ.rg,kj σ.ob o (.vr a E b E1 n j z ys)⟩
  |some (.vh a E b E1 n j z)=>ju (xah n0 n && (Ty.same g a).isSome)<|zfZ n a i j λf=>ju (Ty.same f.f s).isSome<|Dj v f.f λy=>B (f.set y z) λz=>k ⟨σ.nx,σ.rg,kj σ.ob o (.vh a E b E1 n j z)⟩
  |_=>wS)
 |some (.hp o j),Z (.rw u r)=>ju (xah u o)<|(match xB σ.ob o,s with
  |some (.mat d E E1 c ix),.l _=>B (xfX ix j r) λix=>k ⟨σ.nx,σ.rg,kj σ.ob o (.mat d E E1 c ix)⟩
  |_,_=>wS)
 |some (.hp o j),Z (.ow o2)=>ju (!xah o o2)<|(match xB σ.ob o,xB σ.ob o2,s with
  |some (.mat d E E1 c ix),Z (.own b h ys),.l _=>ju (xah E1 h)<|Ty.cast (.l b) (.l d) ys λys=>B (zsJ (α:=N d.D) c [ys]) λm=>B (xfX ix j<|xaK c) λix=>k ⟨σ.nx+1,zkF o σ.nx σ.rg,(σ.nx,.mat d E E1 m ix)::yE (yE σ.ob o) o2⟩
  |_,_,_=>wS)
 |some (.mw o),Z (.dz t2 y n2 i2)=>(match xB σ.ob o with
  |some (.vr a E b E1 n j z xs)=>ju (xah n2 n && (xah i2 j && (Ty.same s a).isSome))<|Ty.cast t2 a y λy=>k ⟨σ.nx+1,If o σ.nx σ.rg,(σ.nx,.vr a E b E1 n j y [])::yE σ.ob o⟩
  |_=>wS)
 |some (.mw o),Z (.ow o2)=>ju (!xah o o2)<|(match xB σ.ob o,xB σ.ob o2,s with
  |some (.ho w),Z (.own b h ys),.l _=>k ⟨σ.nx+1,If o σ.nx σ.rg,(σ.nx,.bo b h w ys)::yE (yE σ.ob o) o2⟩
  |_,_,_=>wS)
 |_,_=>wS
def zcq(σ:Sg)(d:V Wf)(t:kW)(x y:ul)(k:Sg->V R):V R:=match Yo cf t with
 |some ⟨.l (.l s),.sl E,_⟩=>ju (zdn x y) (match Yo cf E,pd cx σ x with
  |some ⟨.l _,.sl E1,B⟩,Z ⟨.i,n⟩=>jt n λn=>ck (B*n<=281474976710656)<|nm (So n 0) λix=>k<|zbC σ d .mw (.mat s E E1 [[]] ix)
  |_,_=>wS)
 |_=>wS
def zj6(σ:Sg)(d:V Wf)(t:kW)(n:K)(ps:N (K×ul))(k:Sg->V R):V R:=match Yo cf t,ps with
 |some ⟨.l (.l s),.sl E,_⟩,[(0,x)]=>ju (xah n 1) (match xA cx σ x with
  |some (.ow o2)=>(match xB σ.ob o2 with
   |some (.own a E1 ys)=>Ty.cast (.l a) (.l s) ys λys=>k ⟨σ.nx+1,qI σ.rg d [(0,.mw σ.nx)],(σ.nx,.mat s E E1 [ys] [0])::yE σ.ob o2⟩
   |_=>wS)
  |_=>wS)
 |_,_=>wS
def zbX(d:V Wf):V (K×K):=match d with
 |some t=>aR cf.an.vr t
 |none=>wS
def MU(σ:Sg)(d:V Wf)(a:kW)(k:Sg->V R):V R:=match Yo cf a with
 |some ⟨.l s,.sl E,_⟩=>k<|zbC σ d .mw (.bo s E a [])
 |some ⟨ty,.st n,_⟩=>(match zbX cf d with
  |some (i,E1)=>(match xl n ty i with
   |some ⟨_,.l s,_,_⟩=>k<|zbC σ d .mw (.vr ty a s E1 n i ty.z [])
   |_=>wS)
  |none=>wS)
 |_=>wS
def MB(σ:Sg)(d:V Wf)(t:kW)(ps:N (K×ul))(k:Sg->V R):V R:=match Yo cf t,zbX cf d with
 |some ⟨ty,.st n,_⟩,Z (i,_)=>ju (ps.all λp=> !xah p.1 i) (match xl n ty i with
  |some ⟨_,.l _,_,_⟩=>zjf cx σ n ty ps ty.z λy=>k<|σ.put d [(0,.dz ty y n i)]
  |_=>wS)
 |_,_=>wS
def za3(σ:Sg)(d:V Wf)(t:kW)(o:K)(k:Sg->V R):V R:=match Yo cf t,xB σ.ob o with
 |some ⟨.l b,.sl _,_⟩,Z (.vr c E a E1 n j z xs)=>ju (Ty.same b a).isSome<|k ⟨σ.nx+1,qI σ.rg d [(0,.ow σ.nx)],(σ.nx,.own a E1 xs)::kj σ.ob o (.vh c E a E1 n j z)⟩
 |_,_=>wS
def R5(σ:Sg):V Dv->V K
 |some (.vf o a n0 i)=>(match xB σ.ob o with
  |some (.vr s _ _ _ n j _ _)=>bif xah i j && (xah n0 n && (Ty.same a s).isSome)then Z o else wS
  |_=>wS)
 |_=>wS
def zbj(σ:Sg)(d:V Wf)(t:kW)(o:K)(k:Sg->V R):V R:=match Yo cf t,xB σ.ob o with
 |some ⟨.l _,.sl _,_⟩,Z (.bo s E a xs)=>k ⟨σ.nx+1,qI σ.rg d [(0,.ow σ.nx)],(σ.nx,.own s E xs)::kj σ.ob o (.ho a)⟩
 |_,_=>wS
def zgE(σ:Sg)(d:V Wf)(b:N ul)(ts:N kW)(k:Sg->V R):V R:=match b,ts with
 |[x,y],[t,i]=>(match Yo cf t,xA cx σ x,xA cx σ y with
  |some ⟨.l (.l s),.sl E,_⟩,Z (.mw o),Z (.mw p)=>ju (xah t i && !xah o p) (match Yo cf E,xB σ.ob o,xB σ.ob p with
   |some ⟨.l _,.sl _,B⟩,Z (.mat c E1 f g ix),Z (.mat j m n a h)=>ju (xah E1 E && (xah m E && xah f n))<|Ty.cast (.l (.l j)) (.l (.l c)) a λa=>
    ck ((xaK ix+xaK h)*B<=140737488355328)<|nm (zsJ (α:=N c.D) g a) λe=>nm (ix++h.map (xaK g+ ·)) λq=>k ⟨σ.nx+1,qI σ.rg d [(0,.mw σ.nx)],(σ.nx,.mat c E1 f e q)::yE (yE σ.ob o) p⟩
   |_,_,_=>wS)
  |_,_,_=>wS)
 |_,_=>wS
def Gi(σ:Sg)(d:V Wf)(s:E8)(c:N ul)(k:Sg->V R):V R:=match c with
 |[x,a,p,y]=>(match xA cx σ x,pd cx σ a,pd cx σ p,xA cx σ y with
  |some (.rw o r),Z ⟨.i,a⟩,Z ⟨.i,p⟩,Z (.mv e lo n)=>ju (xah o e) (match xB σ.ob o with
   |some (.mat f E E1 b ix)=>ju (xah E s.E && xah E1 s.E1)<|Ty.cast (.l (.l f)) (.l (.l s.t)) b λb=>
    G (s.M b ix r a p lo n) λb=>k ⟨σ.nx+1,If o σ.nx<|qI σ.rg d [],(σ.nx,.mat s.t E E1 b ix)::yE σ.ob o⟩
   |_=>wS)
  |_,_,_,_=>wS)
 |_=>wS
def N9(σ:Sg)(d:V Wf)(o:K)(a:N ul)(k:Sg->V R):V R:=match a with
 |[x]=>(match xA cx σ x with
  |some (.ow p)=>ju (!xah o p) (match xB σ.ob o,xB σ.ob p with
   |some (.hid t E X Y e c g z),Z (.own s b ys)=>ju (xah b E)<|Ty.cast (.l s) (.l t) ys λys=>
    G (g ys z) λr=>xfi (λf=>k ⟨σ.nx+1,SK o σ.nx<|qI σ.rg d [(0,.kb wT)],(σ.nx,.hid t E X Y e c g f)::yE (kj σ.ob p (.own t b r.1)) o⟩)
     (λy'=>k ⟨σ.nx+1,SK o σ.nx<|qI σ.rg d [(0,.kb I)],(σ.nx,.hiy Y c y')::yE (kj σ.ob p (.own t b r.1)) o⟩) r.2
   |_,_=>wS)
  |_=>wS)
 |_=>wS
inductive CoM
 |no
 |st (t:kW) (x y:ul)
 |ma (t:kW) (x y:ul)
 |lit (t:kW) (n:K) (ps:Z3 (K×ul))
 |al (E:kW)
 |tk (t:kW) (o:K)
 |tv (t:kW) (o:K)
 |bz (t:kW) (ps:Z3 (K×ul))
 |ap (ags:Z3 ul) (ts:Z3 kW)
 |sk (s:E8) (ags:Z3 ul)
 |yl (o:K) (ags:Z3 ul)
def coM(σ:Sg)(d:V Wf):Op->CoM
 |.store t x y=>bif zcm (xA cx σ x)then .st t x y else .no
 |.makeSlice t x y=>bif zbO cf d then .ma t x y else .no
 |.buildSlice t n ps=>bif zbO cf d then .lit t n ps else .no
 |.alloc E=>bif zbO cf d||(zbX cf d).isSome then .al E else .no
 |.build t ps=>bif (zbX cf d).isSome then .bz t ps else .no
 |.load t x=>(match xA cx σ x with
  |some (.mw o)=> .tk t o
  |v=>(match R5 σ v with
   |some o=> .tv t o
   |none=> .no))
 |.call ⟨.builtin .append,a,ts⟩=>bif a.toList.any (λx=>zh0<|xA cx σ x)then .ap a ts else .no
 |.call ⟨.value f,a,_⟩=>(match xA cx σ f with
  |some (.yd o)=> .yl o a
  |some (.fn f [])=>(match zg1 cf.ms f with
   |some s=> .sk s a
   |none=> .no)
  |_=> .no)
 |_=> .no
def mCo(σ:Sg)(d:V Wf)(c:CoM)(k:Sg->V R)(k0:V R):V R:=match c with
 |.no=>k0
 |.st t x y=>ju d.isNone (match Yo cf t with
  |some b=>kK σ b.ty (xA cx σ x) (xA cx σ y) k
  |none=>wS)
 |.ma t x y=>zcq cf cx σ d t x y k
 |.lit t n ps=>zj6 cf cx σ d t n ps.toList k
 |.al E=>MU cf σ d E k
 |.tk t o=>zbj cf σ d t o k
 |.tv t o=>za3 cf σ d t o k
 |.bz t ps=>MB cf cx σ d t ps.toList k
 |.ap a ts=>zgE cf cx σ d a.toList ts.toList k
 |.sk s a=>Gi cx σ d s a.toList k
 |.yl o a=>N9 cx σ d o a.toList k
def zfp(f:XS):N Wq->V Wq
 |[]=>wS
 |s::r=>match s.f,s.dom,s.cod,s.bk with
  |f',[.var _ _],[.var _ _],1=>bif xah f' f then Z s else zfp f r
  |_,_,_,_=>zfp f r
def mBm(σ:Sg)(d:V Wf)(s:Wq)(o:K)(k:Sg->V R):V R:=match s,xB σ.ob o with
 |⟨_,[.var t E],[.var t2 a],M,_⟩,Z (.var b c y)=>ju (xah E c && (xah a E && (Ty.same t t2).isSome))<|Ty.cast b t y λy=>G (M (y,())) λz=>k ⟨σ.nx,qI σ.rg d [],kj σ.ob o (.var t2 a z)⟩
 |_,_=>wS
def zqs(σ:Sg)(d:V Wf)(op:Op)(k:Sg->V R):V R:=
 match op with
 |.alloc E=>zaM cf σ d E k
 |.box E x=>PG (zog cf d) (zpS cf cx σ d E x k)<|mE cf cx σ d (.box E x) k
 |.store t x y=>ju d.isNone (match Yo cf t with
  |some b=>zci σ b.ty (xA cx σ x) (xA cx σ y) k
  |none=>wS)
 |.makeSlice t x y=>zf2 cf cx σ d t x y k
 |.buildSlice t n ps=>zoh cf cx σ d t n ps.toList k
 |.slice t x wS (Z hi) wS=>(match xA cx σ x with
  |some (.ow o)=>zbk cf cx σ d t o hi k
  |_=>mE cf cx σ d (.slice t x wS (Z hi) wS) k)
 |.call ⟨.builtin .append,a,ts⟩=>zpR cf cx σ d a.toList ts.toList k
 |.call ⟨.builtin .copy,a,ts⟩=>zgY cf cx σ d a.toList ts.toList k
 |.call ⟨.value f,a,ts⟩=>(match xA cx σ f with
  |some (.fn f' cs)=>(match zb6 cx σ f' a.toList cf.cs with
   |some s=>znL cf cx σ d s a.toList cs k
   |none=>mE cf cx σ d (.call ⟨.value f,a,ts⟩) k)
  |some (.bm f' o t)=>(match a.toList,zfp f' cf.cs with
   |[],Z s=>mBm σ d s o k
   |_,_=>wS)
  |_=>mE cf cx σ d (.call ⟨.value f,a,ts⟩) k)
 |op=>mE cf cx σ d op k
def mOp(σ:Sg)(d:V Wf)(a:Op)(k:Sg->V R):V R:=mCo cf cx σ d (coM cf cx σ d a) k<|zqs cf cx σ d a k
def zrH(σ:Sg):Op->V ul
 |.panic x=>Z x
 |_=>wS
def zlE(σ:Sg)(d:V Wf)(a:Op)(kp:PX->Sg->V R)(k:Sg->V R):V R:=match zmd cf cx σ a with
 |some (p,b,cs)=>zoo cf cx σ d p b cs kp k
 |none=>(match zrH σ a with
  |some x=>(match xA cx σ x with
   |some (.ifc q)=>kp q σ
   |_=>wS)
  |none=>mOp cf cx σ d a k)
def Pq(σ:Sg)(t:Wf)(b:ut):Sg:=⟨σ.nx,qI σ.rg (Z t) [(0,.kb b)],σ.ob⟩
def BK(c:N Xs)(o:Xs)(σ:Sg)(k:Sg->ut->V R):V R:=match o.guard with
 |none=>k σ wT
 |some (j,a)=>match c[j]? with
  |some e=>(match e.dst with
   |some t=>(match get cx σ t 0 with
    |some (.kb b)=>k σ<|b==a
    |some .un=>k σ I
    |some (.d .b x)=>ju (Wx cx.rg t)<|ifB x (k (Pq σ t wT)<|true==a) (k (Pq σ t I)<|false==a)
    |_=>wS)
   |none=>wS)
  |none=>wS
def L7(o:Xs)(σ:Sg)(k:Sg->V R):V R:=match o.op with
 |.pick (.tmp t) _ _=>(match get cx σ t 0 with
  |some (.d .b x)=>ju (Wx cx.rg t)<|ifB x (k<|Pq σ t wT) (k<|Pq σ t I)
  |_=>k σ)
 |_=>k σ
def zhB(a:N Xs)(kp:PX->Sg->V R):N Xs->Sg->(Sg->V R)->V R
 |[],σ,k=>k σ
 |o::r,σ,k=>ju (wM cx o.dst)<|BK cx a o σ λσ w=>PG w
  (L7 cx o σ λσ=>(let σ:=zld cx σ<|zqf cf cx σ o.dst o.op;zlE cf cx σ o.dst o.op kp λσ=>zhB a kp r σ k))
  (zhB a kp r (σ.put o.dst [(0,.un)]) k)
def dd:N (K×K×Dv)->N (K×K×Dv)
 |[]=>[]
 |e::r=>e::(dd r).filter λf=> !(xah e.1 f.1 && xah e.2.1 f.2.1)
structure Rb where
 a:V K
 c:V K
 rd:N K
 o:K
 x:Od
structure Oi where
 lo:K
 hi:K
 refs:N K
def gu(ts:N Wf):N (K×K×Dv)->N K
 |[]=>[]
 |(t,_,v)::r=>(match fc ts t,vv v with
  |true,Z o=>o::gu ts r
  |_,_=>gu ts r)
def sP:N (K×Dv)->N K
 |[]=>[]
 |(_,v)::r=>(match vv v with
  |some o=>o::sP r
  |none=>sP r)
def dF(ts:N Wf):N (K×K×Dv)->N (K×K×Dv)
 |[]=>[]
 |(t,i,v)::r=>(match fc ts t with
  |true=>(t,i,v)::dF ts r
  |false=>dF ts r)
def Cv(d:V Wf)(rg:N (K×K×Dv)):N (K×Dv):=match d with
 |some t=>rg.filterMap λe=>match xah e.1 t with
  |true=>Z (e.2.1,e.2.2)
  |false=>wS
 |none=>[]
def lL(os:N K):N Rb->N (K×Od)
 |[]=>[]
 |r::rs=>match r.c,fc os r.o with
  |none,wT=>(r.o,r.x)::lL os rs
  |_,_=>lL os rs
def zaG(i:K)(os:N K):N Rb->N Rb
 |[]=>[]
 |r::rs=>(match r.c,fc os r.o with
  |none,wT=>⟨r.a,Z i,r.rd,r.o,r.x⟩
  |_,_=>r)::zaG i os rs
def zhw(i:K)(os:N K):N Rb->N Rb
 |[]=>[]
 |r::rs=>(match r.c,fc os r.o with
  |none,wT=>⟨r.a,wS,i::r.rd,r.o,r.x⟩
  |_,_=>r)::zhw i os rs
def zeC(i:K)(ob:N (K×Od)):N Rb:=ob.map λe=>⟨Z i,wS,[],e.1,e.2⟩
def zsu(ob:N (K×Od)):N Rb:=ob.map λe=>⟨wS,wS,[],e.1,e.2⟩
def S9:N Rb->N (K×Od)
 |[]=>[]
 |r::rs=>match r.c with
  |none=>(r.o,r.x)::S9 rs
  |some _=>S9 rs
def okO(n:K)(ob:N (K×Od)):ut:=ob.all λe=>xda e.1 n
def LQ(σ:Sg):N K->Sg
 |[]=>σ
 |o::r=>LQ (Tr σ o) r
def zkr:N RM->ut
 |[]=>wT
 |.own _ _::_=>I
 |.var _ _::_=>I
 |_::r=>zkr r
def znR(σ:Sg)(b:ut)(d:V Wf):Op->ut
 |.alloc _=>wT
 |.store _ _ _=>wT
 |.makeSlice _ _ _=>wT
 |.buildSlice _ _ _=> !b
 |.box _ _=>zog cf d
 |.build _ _=>(zbX cf d).isSome
 |.load _ x=>zh0 (xA cx σ x)||(R5 σ<|xA cx σ x).isSome
 |.slice _ x wS (Z _) wS=>(match xA cx σ x with
  |some (.ow _)=>wT
  |_=>I)
 |.call ⟨.builtin .append,_,_⟩=>wT
 |.call ⟨.builtin .copy,_,_⟩=>wT
 |.call ⟨.value f,a,_⟩=>(match xA cx σ f with
  |some (.fn f' _)=>(match zb6 cx σ f' a.toList cf.cs with
   |some s=> !(Et s.dom)||(!b && !(zkr s.cod))
   |none=>(zg1 cf.ms f').isSome)
  |some (.yd _)=>wT
  |some (.bm _ _ _)=>wT
  |_=>I)
 |_=>I
def fzB(a:N K):V Wf->ut
 |some t=>fc a t
 |none=>I
def zra(b:ut)(d:V Wf)(τ:Sg):Sg:=match b with
 |true=>LQ τ<|sP<|Cv d τ.rg
 |false=>τ
def zm9(τ:Sg)(d:V Wf)(k:N (K×Dv)->K->N (K×Od)->V R):V R:=ju (okL τ.nx (Cv d τ.rg) && okO τ.nx τ.ob)<|k (Cv d τ.rg) τ.nx τ.ob
def znC(os:N K):Op->N K
 |.move _=>[]
 |.assign _=>[]
 |_=>os
def znF(a:N Xs)(b:V (K×PX))(i:K):ut:=match b with
 |some (i0,_)=>vQ a 16 i i0
 |none=>I
def SI(a:N Xs)(b:N K):V (K×PX)->N Xs->K->Sg->N Rb->N Oi->(V (K×PX)->Sg->N Rb->N Oi->V R)->V R
 |pn,[],_,σ,rs,is,k=>k pn σ rs is
 |pn,o::r,i,σ,rs,is,k=>ju (wM cx o.dst)<|PG (znF a pn i) (SI a b pn r (i+1) (σ.put o.dst []) rs (is++[⟨σ.nx,σ.nx,[]⟩]) k)<|BK cx a o σ λσ w=>PG w
  (L7 cx o σ λσ=>PG (znR cf cx ⟨σ.nx,σ.rg,lL (gu (xbm a.toArray o) σ.rg) rs⟩ (fzB b o.dst) o.dst o.op||(zmd cf cx σ o.op).isSome)
   (zlE cf ⟨0,[],cx.ob⟩ ⟨σ.nx,dd<|dF (xbm a.toArray o)<|σ.rg++cx.rg,lL (gu (xbm a.toArray o) σ.rg) rs⟩ o.dst o.op (λq _=>match pn with
    |some _=>wS
    |none=>SI a b (Z (i,q)) r (i+1) (σ.put o.dst []) (zaG i (gu (xbm a.toArray o) σ.rg) rs) (is++[⟨σ.nx,σ.nx,[]⟩]) k) λτ=>
    zm9 (zra (fzB b o.dst) o.dst τ) o.dst λl n ob=>SI a b pn r (i+1) ⟨n,qI σ.rg o.dst l,[]⟩ (zaG i (gu (xbm a.toArray o) σ.rg) rs++zeC i ob) (is++[⟨σ.nx,n,sP l⟩]) k)
   (eOp cf cx ⟨σ.nx,σ.rg,lL (znC (gu (xbm a.toArray o) σ.rg) o.op) rs⟩ o.op λl=>ju (okL σ.nx l)<|SI a b pn r (i+1) (σ.put o.dst l) (zhw i (znC (gu (xbm a.toArray o) σ.rg) o.op) rs) (is++[⟨σ.nx,σ.nx,sP l⟩]) k))
  (SI a b pn r (i+1) (σ.put o.dst [(0,.un)]) rs (is++[⟨σ.nx,σ.nx,[]⟩]) k)
def inB(a:Oi)(o:K):ut:=xft a.lo o && xda o a.hi
def zlH(l:N Xs)(i:K)(b:Oi)(rs:N Rb)(c:N (Oi×K)):ut:=
 (rs.all λr=> !inB b r.o||(match r.a with
  |some j=>xah j i||vQ l 16 j i
  |none=>I)) && c.all λJ=>J.1.refs.all λp=> !inB b p||xah J.2 i||vQ l 16 J.2 i
def zmg(l:N Xs)(m:K)(rs:N Rb)(is:N Oi):ut:=
 (rs.all λr=>(match r.a with
  |some j=>xda j m && r.rd.all λi=>vQ l 16 i j
  |none=>wT) && (match r.c with
  |some k=>xda k m && (match r.a with
   |some j=>vQ l 16 k j
   |none=>wT) && r.rd.all λi=>vQ l 16 k i
  |none=>wT)) &&
 (is.zipIdx.all λJ=>zlH l J.2 J.1 rs is.zipIdx) &&
 (xaC m).all λi=>(xaC m).all λj=>xah i j||(match(zU l i).dst with
  |some t=> !((zU l j).dst==Z t)
  |none=>wT)
def zaP(l:N Xs):K->K->K
 |0,m=>m
 |f+1,m=>bif xda 1 m && Vu l (m-1)then zaP l f (m-1)else m
def zp6(al:N (K×ul)):ul->ul
 |.tmp t=>(match aR al t with
  |some x=>x
  |none=> .tmp t)
 |x=>x
def zqS(al:N (K×ul))(o:Xs):N (K×ul):=match o.op,o.dst with
 |.move x,Z d=>(d,zp6 al x)::al
 |.assign x,Z d=>(d,zp6 al x)::al
 |_,_=>al
def zqm:N Xs->N (K×ul)->Sg->Sg
 |[],_,σ=>σ
 |o::r,al,σ=>zqm r (zqS al o)<|zld cx σ<|(zqf cf cx σ o.dst o.op).map<|zp6 al
def zpN(id:K):N K:=match aR cf.an.dz id with
 |some l=>l
 |none=>[]
def zhk(l:N Xs):N K:=l.filterMap (·.dst)
def LR:N Rb->N (K×Od)
 |[]=>[]
 |r::rs=>(match r.a,r.c with
  |none,wS=>(r.o,r.x)::LR rs
  |_,_=>LR rs)
def zmr(b:N K)(l:N Xs)(m:K)(a:Sg)(kp:PX->Sg->V R)(k:Sg->V R):V R:=
 SI cf cx l b wS (l.take m) 0 ⟨a.nx,a.rg,[]⟩ (zsu a.ob) [] λc σ rs is=>ju (zmg l m rs is)<|match c with
  |none=>zhB cf cx l kp (l.drop m) ⟨σ.nx,dd σ.rg,S9 rs⟩ k
  |some (_,q)=>kp q ⟨σ.nx,a.rg.filter<|λe=> !fc (zhk<|l.take m) e.1,LR rs⟩
def zqU(id:K):ut:=match aR cf.an.dz id with
 |some _=>wT
 |none=>I
def zhZ(id:K)(l:N Xs)(a:ut)(σ:Sg)(kp:PX->Sg->V R)(k:Sg->V R):V R:=
 PG a
  (let m:=zaP l (X l) (X l)
  ju (Vu l m)<|PG (zqU cf id) (zmr cf cx (zpN cf id) l m (LQ σ<|gu (zpN cf id) σ.rg) kp k) (zmr cf cx (zhk<|l.take m) l m (zqm cf cx (l.take m) [] σ) kp k))
  (zhB cf cx l kp l σ k)
def J7:N (K×TF)->Type
 |[]=>Wd
 |[a]=>a.2.D
 |a::b::r=>a.2.D×J7 (b::r)
def gi(σ:Sg)(ds:N (K×TF))(t:K)(f:TF)(k:f.D->N K->V R):V R:=match f,k with
 |.d s,k=>Dj (get cx σ t 0) s λy=>k y []
 |.q s,k=>(match get cx σ t 0 with
  |some (.q a x)=>Ty.cast a s x λy=>k y []
  |_=>wS)
 |.own s E,k=>(match get cx σ t 0 with
  |some (.ow o)=>(match xB σ.ob o with
   |some (.own a b xs)=>ju (xah E b)<|Ty.cast (.l a) (.l s) xs λy=>k y [o]
   |_=>wS)
  |some .nil=>k ([]:N s.D) []
  |_=>wS)
 |.var s E,k=>(match get cx σ t 0 with
  |some (.vs o _)=>(match xB σ.ob o with
   |some (.var a b z)=>ju (xah E b)<|Ty.cast a s z λy=>k y [o]
   |_=>wS)
  |_=>wS)
 |.mat s E E1,k=>(match get cx σ t 0 with
  |some (.mw o)=>(match xB σ.ob o with
   |some (.mat a b c g ix)=>ju (xah E b && xah E1 c)<|Ty.cast (.l (.l a)) (.l (.l s)) g λy=>k (y,ix) [o]
   |_=>wS)
  |some .nil=>k (([],[]):N (N s.D)×N K) []
  |_=>wS)
 |.matv s E E1,k=>(match get cx σ t 0 with
  |some (.mv o lo n)=>(match xB σ.ob o with
   |some (.mat a b c g ix)=>ju (xah E b && xah E1 c)<|Ty.cast (.l (.l a)) (.l (.l s)) g λy=>k ((y,ix),(lo,n)) [o]
   |_=>wS)
  |_=>wS)
 |.row j,k=>(match get cx σ t 0,ds[j]? with
  |some (.rw o r),Z (s,.mat _ _ _)=>(match get cx σ s 0 with
   |some (.mw e)=>ju (xah o e)<|k r []
   |_=>wS)
  |some (.rw o r),Z (s,.matv _ _ _)=>(match get cx σ s 0 with
   |some (.mv e _ _)=>ju (xah o e)<|k r []
   |_=>wS)
  |_,_=>wS)
 |.view j,k=>(match get cx σ t 0,ds[j]? with
  |some (.mv o lo n),Z (s,.mat _ _ _)=>(match get cx σ s 0 with
   |some (.mw e)=>ju (xah o e)<|k (lo,n) []
   |_=>wS)
  |some (.mv o lo n),Z (s,.matv _ _ _)=>(match get cx σ s 0 with
   |some (.mv e _ _)=>ju (xah o e)<|k (lo,n) []
   |_=>wS)
  |_,_=>wS)
 |.vr s E m E1 n i,k=>(match get cx σ t 0 with
  |some (.mw o)=>(match xB σ.ob o with
   |some (.vr a b h c p u z xs)=>ju (xah E b && (xah E1 c && (xah n p && xah i u)))<|Ty.cast a s z λz=>Ty.cast (.l h) (.l m) xs λxs=>k (z,xs) [o]
   |_=>wS)
  |_=>wS)
 |.bo s E v,k=>(match get cx σ t 0 with
  |some (.mw o)=>(match xB σ.ob o with
   |some (.bo a b c xs)=>ju (xah E b && xah v c)<|Ty.cast (.l a) (.l s) xs λy=>k y [o]
   |_=>wS)
  |_=>wS)
def DQ(os:N K):N K->ut
 |[]=>wT
 |o::r=> !fc os o && DQ os r
def gat(σ:Sg)(ds:N (K×TF)):(l:N (K×TF))->(J7 l->N K->V R)->V R
 |[],k=>k () []
 |[a],k=>gi cx σ ds a.1 a.2 k
 |a::b::r,k=>gi cx σ ds a.1 a.2 λx o=>gat σ ds (b::r) λy os=>ju (DQ os o)<|k (x,y) (o++os)
def zmW(σ:Sg):N (K×NF)->ut
 |[]=>wT
 |(t,f)::r=>(match f,get cx σ t 0 with
  |.kb b,Z (.kb c)=>b==c
  |.nil,Z .nil=>wT
  |.ci x,Z (.d .i y)=>eqI x y
  |.cu x,Z (.d .u y)=>eqU x y
  |.al s,Z (.ow o)=>(match get cx σ s 0 with
   |some (.ow a)=>xah o a
   |_=>I)
  |.al s,Z (.vs o _)=>(match get cx σ s 0 with
   |some (.vs a _)=>xah o a
   |_=>I)
  |.al s,Z (.mw o)=>(match get cx σ s 0 with
   |some (.mw a)=>xah o a
   |_=>I)
  |.bm s f,Z (.bm f' o _)=>(match get cx σ s 0 with
   |some (.vs a _)=>xah o a && xah f f'
   |_=>I)
  |_,_=>I) && zmW σ r
def HI(n0 o:K)(f:TF)(x:f.D):Dv×V Od:=match f,x with
 |.d t,x=>(.d t x,wS)
 |.q t,x=>(.q t x,wS)
 |.own t E,x=>(.ow o,Z (.own t E x))
 |.var t E,x=>(.vs o t,Z (.var t E x))
 |.mat t E E1,x=>(.mw o,Z (.mat t E E1 x.1 x.2))
 |.matv t E E1,x=>(.mv o x.2.1 x.2.2,Z (.mat t E E1 x.1.1 x.1.2))
 |.row j,r=>(.rw (n0+j) r,wS)
 |.view j,r=>(.mv (n0+j) r.1 r.2,wS)
 |.bo t E a,x=>(.mw o,Z (.bo t E a x))
 |.vr t E s E1 n i,x=>(.mw o,Z (.vr t E s E1 n i x.1 x.2))
def oz(n0:K):(l:N (K×TF))->J7 l->K->N (K×K×Dv)×N (K×Od)
 |[],_,_=>([],[])
 |[a],x,o=>let v:=HI n0 o a.2 x
  ([(a.1,0,v.1)],match v.2 with
   |some y=>[(o,y)]
   |none=>[])
 |a::b::r,x,o=>let v:=HI n0 o a.2 x.1
  let y:=oz n0 (b::r) x.2<|o+1
  ((a.1,0,v.1)::y.1,match v.2 with
   |some q=>(o,q)::y.2
   |none=>y.2)
def O4(rg:N (K×K×Dv)):N (K×NF)->N (K×K×Dv)
 |[]=>rg
 |(t,f)::r=>(match f with
  |.kb b=>[(t,0,.kb b)]
  |.nil=>[(t,0,.nil)]
  |.ci x=>[(t,0,.d .i x)]
  |.cu x=>[(t,0,.d .u x)]
  |.al s=>(match oi rg s 0 with
   |some v=>[(t,0,v)]
   |none=>[])
  |.bm s f=>(match oi rg s 0 with
   |some (.vs o q)=>[(t,0,.bm f o q)]
   |_=>[]))++O4 rg r
def Kp(sh:Sh)(x:J7 sh.ds)(kp:Sg):Sg:=
 let y:=oz kp.nx sh.ds x kp.nx
 ⟨kp.nx+X sh.ds,O4 y.1 sh.ns++y.1++kp.rg,y.2++kp.ob⟩
def zf7(σ:Sg):N (K×TF)->Sg
 |[]=>σ
 |(t,.d _)::r=>zf7 (frz cx σ (.tmp t)) r
 |_::r=>zf7 σ r
def dh(sh:Sh)(σ:Sg)(k:J7 sh.ds->V R):V R:=let σ:=zf7 cx σ sh.ds
 ju (zmW cx σ sh.ns)<|gat cx σ sh.ds sh.ds λx _=>k x
def zbH(a:Tg×Sh):Type:=match a.1 with
 |.p _=>PX×J7 a.2.ds
 |_=>J7 a.2.ds
def SmD:N (Tg×Sh)->Type
 |[]=>Empty
 |[a]=>zbH a
 |a::b::r=>zbH a⊕SmD (b::r)
def za4:Tg->Tg->ut
 |.n,.n=>wT
 |.x i,.x j=>xah i j
 |.r,.r=>wT
 |.p _,.p _=>wT
 |_,_=>I
def zpP(σ:Sg)(t:Tg):(a:Tg×Sh)->(zbH a->V R)->V R
 |(.p _,sh),k=>(match t with
  |.p q=>dh cx sh σ λx=>k (q,x)
  |_=>wS)
 |(.n,sh),k=>dh cx sh σ k
 |(.x _,sh),k=>dh cx sh σ k
 |(.r,sh),k=>dh cx sh σ k
def ziS(kp:Sg)(K:Tg->Sg->V R):(a:Tg×Sh)->zbH a->V R
 |(.p _,sh)=>λx=>K (.p x.1)<|Kp sh x.2 kp
 |(.n,sh)=>λx=>K .n<|Kp sh x kp
 |(.x i,sh)=>λx=>K (.x i)<|Kp sh x kp
 |(.r,sh)=>λx=>K .r<|Kp sh x kp
def zfR(σ:Sg)(t:Tg):(l:N (Tg×Sh))->(SmD l->V R)->V R
 |[],_=>wS
 |[a],k=>ju (za4 a.1 t)<|zpP cx σ t a k
 |a::b::r,k=>PG (za4 a.1 t) (zpP cx σ t a λx=>k (.inl x))<|zfR σ t (b::r) λy=>k (.inr y)
def RI(kp:Sg)(K:Tg->Sg->V R):(l:N (Tg×Sh))->SmD l->V R
 |[]=>λ_=>wS
 |[a]=>λx=>ziS kp K a x
 |a::b::r=>λx=>xfi (α:=zbH a) (β:=SmD (b::r)) (λx=>ziS kp K a x) (RI kp K (b::r)) x
def Hb:Wn->N K
 |.region _ d _=>d.toList.filterMap (·.dst)
 |.seq a b=>Hb a++Hb b
 |.cond _ a b=>Hb a++Hb b
 |.block _ c=>Hb c
 |.loop c=>Hb c
 |.scope c=>Hb c
 |.rangeFunc _ ps a c=>ps.toList++(Hb a++Hb c)
 |_=>[]
def rid:Wn->V K
 |.region i _ _=>Z i
 |.seq a b=>(match rid a with
  |some i=>Z i
  |none=>rid b)
 |.cond _ a b=>(match rid a with
  |some i=>Z i
  |none=>rid b)
 |.block _ c=>rid c
 |.loop c=>rid c
 |.scope c=>rid c
 |.rangeFunc _ _ a c=>(match rid a with
  |some i=>Z i
  |none=>rid c)
 |_=>wS
def znl:V K->K
 |some i=>i+1
 |none=>0
def zt2(a b:Wn):K:=znl (rid a)*65536+znl (rid b)
def Lb(σ:Sg):N K->N K
 |[]=>[]
 |t::r=>match oi σ.rg t 0 with
  |some v=>(match vv v with
   |some o=>o::Lb σ r
   |none=>Lb σ r)
  |none=>Lb σ r
def zhz(a b:N K)(e:K×K×Dv):ut:= !fc a e.1 && (match vv e.2.2 with
 |some o=>fc b o
 |none=>wT)
def keep(σ:Sg)(a ro:N K):Sg:=let b:=Lb σ ro
 ⟨σ.nx,σ.rg.filter<|zhz a b,σ.ob.filter λe=>fc b e.1⟩
def rest(σ:Sg)(a ro:N K):Sg:=let b:=Lb σ ro
 ⟨σ.nx,σ.rg.filter<|λe=> !zhz a b e,σ.ob.filter λe=> !fc b e.1⟩
def qV(cx kp:Sg):Sg:=⟨kp.nx,kp.rg++cx.rg,kp.ob++cx.ob⟩
def fM:N (K×TF)->ut
 |[]=>wT
 |(_,.own _ _)::r=>fM r
 |(_,.var _ _)::r=>fM r
 |(_,.mat _ _ _)::r=>fM r
 |(_,.bo _ _ _)::r=>fM r
 |_=>I
def C2:N (K×TF)->K->N (K×K×Dv)
 |[],_=>[]
 |(t,.mat _ _ _)::r,n=>(t,0,.mw n)::C2 r (n+1)
 |(t,.bo _ _ _)::r,n=>(t,0,.mw n)::C2 r (n+1)
 |(t,_)::r,n=>(t,0,.ow n)::C2 r (n+1)
def IU{a:K×TF}:{l:N (K×TF)}->a.2.D->J7 l->J7 (a::l)
 |[],y,_=>y
 |_::_,y,x=>(y,x)
def om{a:K×TF}:{l:N (K×TF)}->J7 (a::l)->a.2.D×J7 l
 |[],z=>(z,())
 |_::_,z=>z
def uI(pt:K)(t:Ty)(E:kW)(ds:N (K×TF)):Sh:=⟨(pt,.own t E)::ds,[]⟩
def zj2(ds:N (K×TF))(t:K):ut:=ds.all λe=> !xah e.1 t
def zgh:N (K×TF)->ut
 |[]=>wT
 |e::r=>zj2 r e.1 && zgh r
def cpR(wl:Sg)(n:K)(sh:Sh):Sg:=⟨n+X sh.ds,C2 sh.ds n++wl.rg,wl.ob⟩
def zok(cp:Sg)(ds:N (K×TF))(t:Ty)(E:kW)(pt:K)(τ q:Tg)(σ:Sg):V (N t.D×(J7 ds⊕J7 ds)):=match q with
 |.n=>dh cp (uI pt t E ds) σ λz=>Z ((om z).1,.inl (om z).2)
 |.x i=>ju (za4 τ (.x i))<|dh cp (uI pt t E ds) σ λz=>Z ((om z).1,.inr (om z).2)
 |.r=>ju (za4 τ .r)<|dh cp (uI pt t E ds) σ λz=>Z ((om z).1,.inr (om z).2)
 |.p _=>wS
def zsF(wl:Sg)(n:K)(ds:N (K×TF))(t:Ty)(E:kW)(pt:K)(τ:Tg)
 (b c:Sg->Sg->(Tg->Sg->V (N t.D×(J7 ds⊕J7 ds)))->V (N t.D×(J7 ds⊕J7 ds))) (ys:N t.D) (x:J7 ds):V (N t.D×(J7 ds⊕J7 ds)):=
 b (cpR wl n<|uI pt t E ds) (Kp (uI pt t E ds) (IU (a:=(pt,.own t E)) ys x) ⟨n,[],[]⟩) λq σ=>match q with
  |.n=>c (cpR wl n<|uI pt t E ds) σ<|zok (cpR wl n<|uI pt t E ds) ds t E pt τ
  |_=>wS
def zth:Tg->ut
 |.p _=>wT
 |_=>I
def zbI{R:Type}(cx σ:Sg)(K:Tg->Sg->V R)(s:Lp)(it:HK)(y:cj it.dom)(τ:Tg)(pt:wL)(a:N wL)
 (b c:Sg->Sg->(Tg->Sg->V (N it.t.D×(J7 s.hd.ds⊕J7 s.hd.ds)))->V (N it.t.D×(J7 s.hd.ds⊕J7 s.hd.ds))):V R:=
 let kp:=keep σ a s.sg.ro
 let wl:=qV cx kp
 ju (fM s.hd.ds && (!zth τ && zgh (uI pt it.t it.E s.hd.ds).ds && Wx wl.rg pt))<|dh wl s.hd (rest σ a s.sg.ro) λx=>
  G (it.M (X:=J7 s.hd.ds) (Y:=J7 s.hd.ds) y (zsF wl kp.nx s.hd.ds it.t it.E pt τ b c) x) λr=>xfi (λx=>K .n<|Kp s.hd x kp) (λx=>K τ<|Kp s.hd x kp) r
def OU:Wn->ut
 |.seq a b=>OU a && OU b
 |.cond _ a b=>OU a && OU b
 |.block _ c=>OU c
 |.loop c=>OU c
 |.scope c=>OU c
 |.rangeFunc _ _ _ _=>I
 |_=>wT
end
def den(cf:Cf):Wn->{R:Type}->Sg->Sg->(Tg->Sg->V R)->V R
 |.skip,_,cx,σ,K=>K .n σ
 |.label _,_,cx,σ,K=>K .n σ
 |.exit id,_,cx,σ,K=>K (.x id) σ
 |.ret,_,cx,σ,K=>K .r σ
 |.scope c,_,cx,σ,K=>den cf c cx σ K
 |.region i h k,_,cx,σ,K=>zhZ cf cx i h.toList k σ (λq σ=>K (.p q) σ) λσ=>K .n σ
 |.cond c a b,_,cx,σ,K=>(match xA cx σ c with
  |some (.kb wT)=>den cf a cx σ K
  |some (.kb I)=>den cf b cx σ K
  |some (.d .b x)=>ifB x (den cf a cx σ K)<|den cf b cx σ K
  |_=>wS)
 |.block id c,_,cx,σ,K=>den cf c cx σ λt σ=>match t with
  |.x j=>PG (xah j id) (K .n σ)<|K (.x j) σ
  |t=>K t σ
 |.seq a b,_,cx,σ,K=>
  (match aR cf.an.jn (zt2 a b)with
  |none=>den cf a cx σ λt σ=>(match t with
   |.n=>den cf b cx σ K
   |t=>K t σ)
  |some s=>
   let e:=Hb a
   let kp:=keep σ e s.ro
   G (den cf a (qV cx kp) (rest σ e s.ro) λt σ=>zfR (qV cx kp) σ t s.tg Z) λx=>
    RI kp (λt σ=>match t with
     |.n=>den cf b cx σ K
     |t=>K t σ) s.tg x)
 |.loop c,_,cx,σ,K=>
  (match(match rid c with
   |some i=>aR cf.an.lp i
   |none=>wS)with
  |none=>wS
  |some s=>
   let e:=Hb c
   let kp:=keep σ e s.sg.ro
   let wl:=qV cx kp
   dh wl s.hd (rest σ e s.sg.ro) λx=>
    G (zg (λL x=>den cf c wl (Kp s.hd x ⟨kp.nx,[],[]⟩) λt σ=>match t with
     |.n=>dh wl s.hd σ L
     |t=>zfR wl σ t s.sg.tg Z) cf.fu x) λx=>RI kp K s.sg.tg x)
 |.rangeFunc g ps a c,_,cx,σ,K=>
  (match xA cx σ g,(match rid c with
   |some i=>aR cf.an.lp i
   |none=>wS),ps.toList with
  |some (.fn f cs),Z s,[pt]=>(match zl9 cf.is f,s.sg.tg,s.hd.ns with
   |some it,[(τ,_)],[]=>(match eV it.dom cs with
    |some y=>ju (OU a && OU c)<|zbI cx σ K s it y τ pt (pt::(Hb a++Hb c)) (λcx σ K=>den cf a cx σ K) (λcx σ K=>den cf c cx σ K)
    |none=>wS)
   |_,_,_=>wS)
  |_,_,_=>wS)
 |_,_,_,_,_=>wS
def Yf:(dom:N AM)->cj dom->K->N (K×K×Dv)×N (K×Od)
 |[],_,_=>([],[])
 |.d t::r,x,i=>let y:=Yf r x.2 (i+1)
  ((i,0,.d t x.1)::y.1,y.2)
 |.q t::r,x,i=>let y:=Yf r x.2 (i+1)
  ((i,0,.q t x.1)::y.1,y.2)
 |.own t E::r,x,i=>let y:=Yf r x.2 (i+1)
  ((i,0,.ow i)::y.1,(i,.own t E x.1)::y.2)
 |.var t E::r,x,i=>let y:=Yf r x.2 (i+1)
  ((i,0,.vs i t)::y.1,(i,.var t E x.1)::y.2)
 |.fn dom cod::r,x,i=>let y:=Yf r x.2 (i+1)
  ((i,0,.fp dom cod x.1)::y.1,y.2)
def FX{R:Type}(cf:Cf)(σ:Sg)(r:V3)(m:RM)(k:m.D->N K->V R):V R:=match r,m,k with
 |.tmp t,.d s,k=>Dj (get ⟨0,[],[]⟩ σ t 0) s λy=>k y []
 |.tmp t,.own s E,k=>gi ⟨0,[],[]⟩ σ [] t (.own s E) k
 |.tmp t,.var s E,k=>gi ⟨0,[],[]⟩ σ [] t (.var s E) k
 |.cell t E,.d s,k=>(match get ⟨0,[],[]⟩ σ t 0,Yo cf E with
  |some (.vs o _),Z a=>(match xB σ.ob o with
   |some (.var b c z)=>ju (xah E c)<|Ty.cast b a.ty z λz=>Ty.cast a.ty s z λy=>k y [o]
   |_=>wS)
  |_,_=>wS)
 |_,_,_=>wS
def C8{R:Type}(cf:Cf)(σ:Sg):N V3->(cod:N RM)->(bZ cod->N K->V R)->V R
 |[],[],k=>k () []
 |[v],[m],k=>FX cf σ v m k
 |v::a::vs,m::m'::ms,k=>FX cf σ v m λx o=>C8 cf σ (a::vs) (m'::ms) λy os=>ju (DQ os o)<|k (x,y) (o++os)
 |_,_,_=>wS
def PK(N:K):Wn->ut
 |.region _ d _=>d.toList.all λo=>jM N o.dst
 |.seq a b=>PK N a && PK N b
 |.cond _ a b=>PK N a && PK N b
 |.block _ c=>PK N c
 |.loop c=>PK N c
 |.scope c=>PK N c
 |.rangeFunc _ ps a c=>(ps.toList.all λp=>xda p N) && (PK N a && PK N c)
 |_=>wT
def JW(σ:Sg):N V3->N RM->Sg
 |.tmp t::vs,.d _::ms=>JW (frz ⟨0,[],[]⟩ σ (.tmp t)) vs ms
 |_::vs,_::ms=>JW σ vs ms
 |_,_=>σ
def zbQ(cf:Cf)(fn:WT)(dom:N AM)(cod:N RM)(x:cj dom):V (bZ cod):=match fn.body with
 |some c=>ju (PK fn.ntmps c && xft (X dom) fn.ntmps)<|
  let y:=Yf dom x 0
  den cf c ⟨0,[],[]⟩ ⟨X dom,y.1,y.2⟩ λt σ=>(match t with
   |.r=>C8 cf (JW σ fn.results.toList cod) fn.results.toList cod λy _=>Z y
   |.n=>C8 cf (JW σ fn.results.toList cod) fn.results.toList cod λy _=>Z y
   |_=>wS)
 |none=>wS
def zkK(cf:Cf)(fn:WT)(dom:N AM)(cod:N RM)(x:cj dom):V (PX⊕bZ cod):=match fn.body with
 |some c=>ju (PK fn.ntmps c && xft (X dom) fn.ntmps)<|
  let y:=Yf dom x 0
  den cf c ⟨0,[],[]⟩ ⟨X dom,y.1,y.2⟩ λt σ=>(match t with
   |.r=>C8 cf (JW σ fn.results.toList cod) fn.results.toList cod λy _=>Z (.inr y)
   |.n=>C8 cf (JW σ fn.results.toList cod) fn.results.toList cod λy _=>Z (.inr y)
   |.p q=>Z (.inl q)
   |_=>wS)
 |none=>wS
def H0:N AM->K->N V3
 |[],_=>[]
 |.own _ _::r,i=> .tmp i::H0 r (i+1)
 |.var _ _::r,i=> .tmp i::H0 r (i+1)
 |_::r,i=>H0 r<|i+1
def Gz(a:K->wW):N AM->K->N (K×K×Dv)
 |[],_=>[]
 |.own _ _::r,i=>(i,0,.pin<|a i)::Gz a r (i+1)
 |.var _ _::r,i=>(i,0,.pin<|a i)::Gz a r (i+1)
 |_::r,i=>Gz a r<|i+1
def zlO(cf:Cf)(fn:WT)(dom:N AM)(cod:N RM)(bk:K)(b:K->wW)(x:cj dom):V (bZ cod):=match fn.body with
 |some c=>ju (PK fn.ntmps c && xft (X dom) fn.ntmps && R (X fn.results.toList+bk) (X cod) && R (X (H0 dom 0)) bk && xda 0 bk)<|
  let y:=Yf dom x 0
  let a:=fn.results.toList++H0 dom 0
  den cf c ⟨0,Gz b dom 0,[]⟩ ⟨X dom,y.1,y.2⟩ λt σ=>(match t with
   |.r=>C8 cf (JW σ a cod) a cod λy _=>Z y
   |.n=>C8 cf (JW σ a cod) a cod λy _=>Z y
   |_=>wS)
 |none=>wS
end
section
def nJ(p:Prop):FF where
 p _ _:=p
 keep h _:=h
 sub h _:=h
def HP:N PD->N wW->N FF
 |c::cs,v::vs=>fP c.t.rep c.x v::HP cs vs
 |_,_=>[]
def tsF:(ts:N Ty)->rm ts->N wW->N FF
 |[],_,_=>[]
 |t::ts,x,vs=>fV t.rep x.1 (vs.headD Z9)::tsF ts x.2 vs.tail
def csF:(ts:N Ty)->IK ts->N wW->N FF
 |[],_,_=>[]
 |[t],x,vs=>[fV t.rep x<|vs.headD Z9]
 |t::s::r,x,vs=>fV t.rep x.1 (vs.headD Z9)::csF (s::r) x.2 vs.tail
def zop(P:uS)(a:XS)(dQ:N wW)(b:N FF)(dom cod:N Ty)(g:rm dom->V (IK cod)):Prop:=
 Bq P a=wT/\∀(x:rm dom) (r:IK cod),g x=Z r->∀vs:N wW,X vs=X dom->
  Fn P a (vs++dQ).toArray (tsF dom x vs++b) Zg (λus=>csF cod r us) (λus=>X us=X cod)
def fnF(P:uS)(dom cod:N Ty)(g:rm dom->V (IK cod))(v:wW):FF where
 p S w:=∃a dQ b,v=.func (.func a) #[] dQ.toArray/\zop P a dQ b dom cod g/\zC S b w
 keep:=by rintro S w w' ⟨a,dQ,b,h1,c,d⟩ k;exact⟨a,dQ,b,h1,c,zC.keep k d⟩
 sub:=by rintro S e w ⟨a,dQ,b,h1,c,d⟩ k;exact⟨a,dQ,b,h1,c,zC.sub k d⟩
def amF(P:uS):(a:AM)->a.D->wW->FF
 |.d t,x,v=>fV t.rep x v
 |.q t,x,v=>fP t.rep x v
 |.own _ _,_,_=>nJ Wr
 |.var _ _,_,v=>nJ (∃b,v=.pointer (Z ⟨b,0,wS⟩))
 |.fn dom cod,g,v=>fnF P dom cod g v
def amM:(a:AM)->a.D->wW->N MF
 |.own t E,xs,v=>[mO t.rep E v xs]
 |.var t E,z,v=>[mP t.rep.c E v z]
 |_,_,_=>[]
def jC(P:uS):(dom:N AM)->cj dom->N wW->N FF
 |[],_,_=>[]
 |a::r,x,vs=>amF P a x.1 (vs.headD Z9)::jC P r x.2 vs.tail
def jW:(dom:N AM)->cj dom->N wW->N MF
 |[],_,_=>[]
 |a::r,x,vs=>amM a x.1 (vs.headD Z9)++jW r x.2 vs.tail
def rmF:(m:RM)->m.D->wW->N FF
 |.d t,x,v=>[fV t.rep x v]
 |.own _ _,_,_=>[]
 |.var _ _,_,v=>[nJ (∃b,v=.pointer (Z ⟨b,0,wS⟩))]
def rmM:(m:RM)->m.D->wW->N MF
 |.own t E,xs,v=>[mO t.rep E v xs]
 |.var t E,z,v=>[mP t.rep.c E v z]
 |.d _,_,_=>[]
def ks:(rs:N RM)->bZ rs->N wW->N FF
 |[],_,_=>[]
 |[m],x,vs=>rmF m x<|vs.headD Z9
 |m::n::r,x,vs=>rmF m x.1 (vs.headD Z9)++ks (n::r) x.2 vs.tail
def kz:(rs:N RM)->bZ rs->N wW->N MF
 |[],_,_=>[]
 |[m],x,vs=>rmM m x<|vs.headD Z9
 |m::n::r,x,vs=>rmM m x.1 (vs.headD Z9)++kz (n::r) x.2 vs.tail
def KZ:N AM->N wW->N wW
 |[],_=>[]
 |.own _ _::r,vs=>vs.headD Z9::KZ r vs.tail
 |.var _ _::r,vs=>vs.headD Z9::KZ r vs.tail
 |_::r,vs=>KZ r vs.tail
def zn9(bk n:K)(us:N wW):wW:=match bk with
 |0=>Zg us
 |b+1=>Zg<|us.take<|n-(b+1)
def zj9(dom:N AM)(vs:N wW)(bk n:K)(us:N wW):Prop:=match bk with
 |0=>X us=n
 |b+1=>X us=n/\us.drop (n-(b+1))=KZ dom vs
def yU(P:uS)(s:Wq):Prop:=
 Bq P s.f=wT/\∀(x:cj s.dom) (r:bZ s.cod),s.M x=Z r->∀vs:N wW,X vs=X s.dom->
  FnG P s.f vs.toArray (jW s.dom x vs) (jC P s.dom x vs) (zn9 s.bk (X s.cod)) (λus=>kz s.cod r us) (λus=>ks s.cod r us) (zj9 s.dom vs s.bk (X s.cod))
def yU.plain{P:uS}{s:Wq}(h:yU P s)(a:s.bk=0){x:cj s.dom}{r:bZ s.cod}(b:s.M x=Z r){vs:N wW}(hl:X vs=X s.dom):
 FnG P s.f vs.toArray (jW s.dom x vs) (jC P s.dom x vs) Zg (λus=>kz s.cod r us) (λus=>ks s.cod r us) (λus=>X us=X s.cod):=by
 have h1:=h.2 x r b vs hl;rw[a]at h1;exact h1
def zjF(P:uS)(t:kW)(i:K):V (K×ut×K):=match P.underlying t with
 |some (.struct fs)=>match fs[i]? with
  |some f=>match tyB P f.type with
   |some (agg,n,_,Z _)=>Z (f.offset,agg,n)
   |_=>wS
  |none=>wS
 |_=>wS
def zjW(P:uS)(t:kW)(a:TI):Prop:=match a.k with
 |.int k=>P.underlying t=Z (.int k)
 |.bool=>P.underlying t=Z .bool
 |.str=>P.underlying t=Z .string
 |.sl E=>P.underlying t=Z (.slice E)/\∃e,a.ty=.l e
 |.st n=>a.ty.rep.agg=wT/\(∀i f,xl n a.ty i=Z f->za9 P t i=Z f.off)/\
  (∃fs,P.underlying t=Z (.struct fs)/\∃pl:Z3 (K×K),(∀w,(fs.mapM (λf=>do pure (f.offset,<-V9 f.type)):Sem (Z3<|K×K)).run P w=.ok pl w)/\
   ∀i f,xl n a.ty i=Z f->pl[i]? =Z (f.off,f.f.n))/\
  ∀i f,xl n a.ty i=Z f->zjF P t i=Z (f.off,f.f.rep.agg,f.f.n)
 |.ar k E=>a.ty.rep.agg=wT/\P.underlying t=Z (.array k E)
 |.pt E=>P.underlying t=Z (.pointer E)
def zhO(P:uS)(t:kW)(b:TI):Prop:=
 (∃a,J9 P t b.ty.rep.agg b.ty.rep.n b.B a/\a.cells.size=b.ty.rep.n/\(∀S w,b.ty.rep.p S b.ty.z a.cells.toList w)/\(∀s,b.ty=.l s->a=.slice wS 0 0)/\∀n i off s g st,xl n b.ty i=Z ⟨off,.l s,g,st⟩->a.cells.toList[off]? =Z (.slice wS 0 0))/\0<b.B/\0<b.ty.rep.n/\zjW P t b
def yT(P:uS)(tt:N (K×TI)):Prop:=∀t a,aR tt t=Z a->zhO P t a
def uf(P:uS)(tt:N (K×TI)):Prop:=∀t s E B,aR tt t=Z ⟨.l s,.sl E,B⟩->∃a,aR tt E=Z a/\a.ty=s
def Fl.ok(t:Ty)(f:Fl t.D):Prop:=∀z:t.D,Sub t.rep.c z f.off f.f.rep (f.get z)<|λy=>f.set y z
def zoc(f:XS)(c:N PD)(v:wW):FF where
 p S w:=∃cs:N wW,v=.func (.func f) #[] cs.toArray/\X cs=X c/\zC S (HP c cs) w
 keep:=by rintro S w w' ⟨cs,h1,a,b⟩ k;exact⟨cs,h1,a,zC.keep k b⟩
 sub:=by rintro S d w ⟨cs,h1,a,b⟩ k;exact⟨cs,h1,a,zC.sub k b⟩
def RK(v0:wW)(lo n:K)(v:wW):Prop:=(∃b m cap,v0=.slice (Z ⟨b,0,wS⟩) m cap/\lo+n<=m/\m<=cap/\cap<=9223372036854775807/\v=.slice (if cap=lo then Z ⟨b,0,wS⟩else Z ⟨b,0+lo*1,wS⟩) n (cap-lo))\/(v0=.slice wS 0 0/\lo=0/\n=0/\v=.slice wS 0 0)
def RK.old{v0 v:wW}{lo n:K}(h:RK v0 lo n v):(∃b m cap c,v0=.slice (Z ⟨b,0,wS⟩) m cap/\lo+n<=m/\n<=c/\c<=9223372036854775807/\v=.slice (Z ⟨b,0+lo*1,wS⟩) n c)\/(n=0/\∃e c,c<=9223372036854775807/\v=.slice e 0 c):=by
 rcases h with⟨b,m,cap,h1,d,f,g,a⟩|⟨h1,d,f,g⟩
 by_cases hc:cap=lo;rw[Q hc]at a;obtain rfl:n=0:=W
 simp_all;rw[S hc]at a;exact .inl ⟨b,m,cap,cap-lo,h1,d,W,W,a⟩;simp_all
def RK.same{v0 d v:wW}{lo n m:K}(h:RK v0 lo n v)(f:RK d lo n v)(hl:∀a k c,v0=.slice a k c->a.isSome=wT->k=m)(p:∀a k c,d=.slice a k c->a.isSome=wT->k=m):v0=d:=by
 rcases h with⟨b,k,cap,h1,g,i,j,q⟩|⟨h1,g,i,j⟩<;>rcases f with⟨r,s,e,q1,q2,l,o,t⟩|⟨q1,q2,l,o⟩
 grind;simp_all;simp_all;grind
def ztA(F:FF)(p:Prop):FF where
 p S w:=F.p S w/\p
 keep h k:=⟨F.keep h.1 k,h.2⟩
 sub h k:=⟨F.sub h.1 k,h.2⟩
def vC(P:uS)(vs:K->wW):Dv->wW->FF
 |.d t x,v=>fV t.rep x v
 |.q t x,v=>fP t.rep x v
 |.kb b,v=>nJ<|v=.bool b
 |.un,v=>nJ<|v=Z9
 |.nil,v=>nJ<|v=.slice wS 0 0
 |.ow o,v=>nJ<|v=vs o
 |.ep o t j f,v=>nJ (Fl.ok t f/\∃b n cap,vs o=.slice (Z ⟨b,0,wS⟩) n cap/\j<n/\v=.pointer (Z ⟨b,0+j*t.rep.n+f.off,wS⟩))
 |.sv o t lo n,v=>nJ<|(∃b m cap c,vs o=.slice (Z ⟨b,0,wS⟩) m cap/\lo+n<=m/\n<=c/\c<=9223372036854775807/\v=.slice (Z ⟨b,0+lo*t.rep.n,wS⟩) n c)\/(n=0/\∃a c,c<=9223372036854775807/\v=.slice a 0 c)
 |.vs o t,v=>nJ (v=vs o/\∃b,vs o=.pointer (Z ⟨b,0,wS⟩))
 |.vp o t f,v=>nJ (Fl.ok t f/\∃b,vs o=.pointer (Z ⟨b,0,wS⟩)/\v=.pointer (Z ⟨b,0+f.off,wS⟩))
 |.fn f c,v=>zoc f c v
 |.fp dom cod g,v=>fnF P dom cod g v
 |.pin u,v=>nJ<|v=u
 |.mw o,v=>nJ<|v=yN (vs o)
 |.mv o lo n,v=>nJ<|RK (yN<|vs o) lo n v
 |.hp o j,v=>nJ (∃b n cap,yN (vs o)=.slice (Z ⟨b,0,wS⟩) n cap/\j<n/\v=.pointer (Z ⟨b,0+j*1,wS⟩))
 |.rw o r,v=>nJ<|(xX<|vs o)[r]? =Z v
 |.rp o t r j f,v=>nJ (Fl.ok t f/\∃b n cap,(xX<|vs o)[r]? =Z (.slice (Z ⟨b,0,wS⟩) n cap)/\j<n/\v=.pointer (Z ⟨b,0+j*t.rep.n+f.off,wS⟩))
 |.yd o,v=>nJ<|v=.func (.yield<|lOf<|yN<|vs o) #[] #[]
 |.np,v=>nJ<|v=.pointer wS
 |.vf o t n i,v=>nJ (∃b f,yN (vs o)=.pointer (Z ⟨b,0,wS⟩)/\xl n t i=Z f/\v=.pointer (Z ⟨b,0+f.off,wS⟩))
 |.dz t x n i,v=>ztA (fV t.rep x v) (∃f,xl n t i=Z f/\v.cells.toList[f.off]? =Z (.slice wS 0 0))
 |.ifc q,v=>nJ<|v=.iface q.1 (.agg #[.int .i64 q.2])
 |.bm f o t,v=>nJ (v=.func (.func f) #[vs o] #[]/\∃b,vs o=.pointer (Z ⟨b,0,wS⟩))
def vU(P:uS)(vs:K->wW)(d:Dv)(v:wW)(i:K):FF where
 p S w:=match i with
  |0=>(vC P vs d v).p S w
  |i+1=>∃us u,v=.tuple us/\us[i]? =Z u/\(vC P vs d u).p S w
 keep:=by
  intro S w w' h k
  cases i with
  |zero=>exact(vC P vs d v).keep h k
  |succ i=>have⟨us,u,h1,a,b⟩:=h;exact⟨us,u,h1,a,(vC P vs d u).keep b k⟩
 sub:=by
  intro S c w h k
  cases i with
  |zero=>exact(vC P vs d v).sub h k
  |succ i=>have⟨us,u,h1,a,b⟩:=h;exact⟨us,u,h1,a,(vC P vs d u).sub b k⟩
def vrP{α:Type}(s:Ty)(f:V (Fl α)):Prop:=∃(off:K) (g:α->(Ty.l s).D) (st:(Ty.l s).D->α->α),f=Z ⟨off,.l s,g,st⟩
def Ug(vs:K->wW)(e:K×Od):MF:=match e.2 with
 |.own t E xs=>mO t.rep E (vs e.1) xs
 |.var t E z=>mP t.rep.c E (vs e.1) z
 |.mat t E E1 f ix=>B5 t.rep E E1 (vs e.1) f ix
 |.bo t E a xs=>mBo t.rep E a (vs e.1) xs
 |.ho a=>mHo a<|vs e.1
 |.vr t E s E1 n i z xs=>mVr (vrP s<|xl n t i) t.rep E (X2<|xl n t i) (Zj s (xl n t i) []) s.rep E1 (vs e.1) z xs
 |.vh t E s E1 n i z=>mVh (vrP s<|xl n t i) t.rep E (X2<|xl n t i) (Zj s (xl n t i) []) (vs e.1) z
 |.hid t E X Y d b g x=>Fo [mPr<|P6 Tryz.prog (lOf<|yN<|vs e.1) t.rep E d b g,d x<|(xX<|vs e.1).headD Z9]
 |.hiy Y b y=>b y<|(xX<|vs e.1).headD Z9
def MS(vs:K->wW)(ob:N (K×Od)):N MF:=ob.map<|Ug vs
def RS(P:uS)(vs:K->wW)(H:xj)(rg:N (K×K×Dv)):N FF:=rg.map λe=>vU P vs e.2.2 (H e.1) e.2.1
structure Fr where
 we:qR
 Se:K->Prop
 F:N MF
 G:N FF
structure Bd(cx σ:Sg):Prop where
 o1:∀e∈σ.ob,e.1<σ.nx
 o2:∀e∈cx.ob,e.1<σ.nx
 r1:∀e∈σ.rg,∀o,vv e.2.2=Z o->o<σ.nx
 r2:∀e∈cx.rg,∀o,vv e.2.2=Z o->o<σ.nx
def uK(P:uS)(fr:Fr)(cx σ:Sg)(H:xj)(w:qR):Prop:=
 Bd cx σ/\∃vs:K->wW,St fr.we fr.Se (MS vs σ.ob++(MS vs cx.ob++fr.F)) (RS P vs H σ.rg++(RS P vs H cx.rg++fr.G)) w
section
variable{P:uS}{vs i9:wL->wW}{H i8:xj}
def mF{d:Dv}(h:∀o,vv d=Z o->i9 o=vs o)(v:wW):vC P i9 d v=vC P vs d v:=by cases d<;>simp only[vC]<;>simp only[vv,xav,forall_eq']at h<;>rw[h]
def wC:∀{ob:N (K×Od)},(∀e∈ob,i9 e.1=vs e.1)->MS i9 ob=MS vs ob
 |[],_=>rfl
 |(o,x)::r,h=>by
  have h1:=h (o,x)<|IR;have a:=wC λe b=>h e<|FS _ b;show Ug i9 (o,x)::MS i9 r=Ug vs (o,x)::MS vs r;rw[a];cases x<;>simp only[Ug]<;>rw[h1]
def uv:∀{rg:N (K×K×Dv)},(∀e∈rg,∀o,vv e.2.2=Z o->i9 o=vs o)->(∀e∈rg,i8 e.1=H e.1)->RS P i9 i8 rg=RS P vs H rg
 |[],_,_=>rfl
 |(t,i,d)::r,h,b=>by
  show vU P i9 d (i8 t) i::RS P i9 i8 r=vU P vs d (H t) i::RS P vs H r;rw[uv (λe a=>h e<|FS _ a)<|λe a=>b e<|FS _ a,b (t,i,d)<|IR];unfold vU;simp only[mF<|h (t,i,d)<|IR]
theorem ud{S:K->Prop}{w:qR}:∀{Γ:N FF},zC S Γ w↔∀f∈Γ,f.p S w
 |[]=>⟨λ_ f h=>jp h H1,λ_=>jP⟩
 |f::r=>by
  have a:=ud (S:=S) (w:=w) (Γ:=r);constructor;intro h x hx;obtain rfl|hx:=xai.1 hx
  exact h.1;exact a.1 h.2 x hx;intro h;exact⟨h f<|IR,a.2 λx hx=>h x<|FS _ hx⟩
theorem yb{a b:K}(h:R a b=wT):a=b:=xdy h
theorem nA:∀{rg:N (K×K×Dv)}{t i:K}{d:Dv},oi rg t i=Z d->(t,i,d)∈rg
 |(a,b,e)::r,t,i,d,h=>by
  unfold oi at h;cases c:R a t && R b i
  rw[c]at h;exact FS _<|nA h;simp_all
def Kv{S:K->Prop}{w:qR}{rg:N (K×K×Dv)}(h:zC S (RS P vs H rg) w){t i:K}{d:Dv}(hd:(t,i,d)∈rg):(vU P vs d (H t) i).p S w:=
 ud.1 h _ (xat.2 ⟨(t,i,d),hd,O⟩)
theorem vi:∀{ob:N (K×Od)}{o:K}{x:Od},xB ob o=Z x->∃i,ob[i]? =Z (o,x)/\(∀y,kj ob o y=ob.set i (o,y))/\yE ob o=ob.eraseIdx i
 |(b,e)::r,o,x,h=>by
  unfold xB at h;cases a:R b o
  rw[a]at h;have⟨i,h1,c,d⟩:=vi h;exact⟨i+1,by simpa using h1,λy=>by unfold kj;rw[a];simp only[Wt,xfh,c y],by unfold yE;rw[a];simp only[Wt,List.eraseIdx_cons_succ,d]⟩;rw[a]at h;simp only[WF,xav]at h;have:=yb a;subst h;subst this;exact⟨0,O,λy=>by unfold kj;rw[a];rfl,by unfold yE;rw[a];rfl⟩
theorem Km{ob:N (K×Od)}{i:K}{e:K×Od}{R:N MF}(h:ob[i]? =Z e):(MS vs ob++R)[i]? =Z (Ug vs e):=by grind [MS]
theorem FH{ob:N (K×Od)}{i:K}{e a:K×Od}{R:N MF}(h:ob[i]? =Z e):(MS vs ob++R).set i (Ug vs a)=MS vs (ob.set i a)++R:=by grind [MS,List.map_set]
theorem zgw{α:Type _}{β:Type _}(f:α->β):∀(l:N α) (i:K),(l.eraseIdx i).map f=(l.map f).eraseIdx i
 |[],i=>by simp
 |_::_,0=>rfl
 |a::l,i+1=>by simp only[List.eraseIdx_cons_succ,xbP,zgw f l i]
theorem gn{ob:N (K×Od)}{i:K}{e:K×Od}{R:N MF}(h:ob[i]? =Z e):(MS vs ob++R).eraseIdx i=MS vs (ob.eraseIdx i)++R:=by grind [MS,zgw]
theorem ziz{cx σ:Sg}{o:K}{x:Od}(h:QF cx σ o=Z x):(o,x)∈σ.ob\/(o,x)∈cx.ob:=by grind [QF,vi]
theorem DB{cx σ:Sg}{t i:K}{d:Dv}(h:get cx σ t i=Z d):(t,i,d)∈σ.rg\/(t,i,d)∈cx.rg:=by grind [get,nA]
def Yb{S:K->Prop}{w:qR}{cx σ:Sg}{o:K}{x:Od}{F:N MF}(a:yP S (MS vs σ.ob++(MS vs cx.ob++F)) w)(h:QF cx σ o=Z x):(Ug vs (o,x)).p S w:=by
 refine Yv.1 a _ ?_;obtain h|h:=ziz h
 exact xab.2 (.inl<|xat.2 ⟨_,h,O⟩);exact xab.2 (.inr<|xab.2 (.inl<|xat.2 ⟨_,h,O⟩))
end
def yq{R:Type}{s t:Ty}{x:s.D}{k:t.D->V R}{r:R}(h:Ty.cast s t x k=Z r):∃e:s=t,k (e▸x)=Z r:=by grind [Ty.cast]
def yf{R:Type}{b:ut}{x:V R}{r:R}(h:ju b x=Z r):b=wT/\x=Z r:=by grind
end
section
open Go.ChangeShapes Go.WideShapes Go.ChangeAt Go.RowKit
def XR(P:uS):Ty->kW->Prop
 |.i,T=>P.underlying T=Z (.int .i64)
 |.u,T=>P.underlying T=Z (.int .u64)
 |.b,T=>P.underlying T=Z .bool
 |.l t,T=>∃E,P.underlying T=Z (.slice E)/\P.cellsOf E=t.n/\0<t.n/\XR P t E
 |.p s t,T=>∃f0 f1:Field,P.underlying T=Z (.struct #[f0,f1])/\P.cellsOf T=s.n+t.n/\f0.offset=0/\f1.offset=s.n/\P.cellsOf f0.type=s.n/\P.cellsOf f1.type=t.n/\XR P s f0.type/\XR P t f1.type
 |.ch,T=>P.underlying T=Z (.int .u8)
 |.tx,T=>P.underlying T=Z .string
 |.a _ _,_=>UP
 |.po _,_=>UP
 |.w1 _,_=>UP
def zrv(P:uS)(T:kW):V ((K×kW)×(K×kW)):=match P.underlying T with
 |some (.struct fs)=>match fs.toList with
  |[f0,f1]=>Z ((f0.offset,f0.type),(f1.offset,f1.type))
  |_=>wS
 |_=>wS
def XR.st{P:uS}{s t:Ty}{T A B:kW}(h:zrv P T=Z ((0,A),(s.n,B)))(hc:P.cellsOf T=s.n+t.n)(b:P.cellsOf A=s.n)(c:P.cellsOf B=t.n)(h1:XR P s A)(d:XR P t B):XR P (.p s t) T:=by
 unfold zrv at h;split at h;rename_i fs e;split at h;rename_i f0 f1 g;simp only[xav,xcL]at h;have⟨⟨f,a⟩,a3,a4⟩:=h;have:fs= #[f0,f1]:=by cases fs;simp_all
 subst this;exact⟨f0,f1,e,hc,f,a3,by rw[a];exact b,by rw[a4];exact c,by rw[a];exact h1,by rw[a4];exact d⟩;cases h
 cases h
def XR.sl{P:uS}{t:Ty}{T E:kW}(h:P.underlying T=Z (.slice E))(hc:P.cellsOf E=t.n)(hp:0<t.n)(h1:XR P t E):XR P (.l t) T:=⟨E,h,hc,hp,h1⟩
def IL{w:qR}{b n:K}{a:U8}{c:N wW}(h:w.cells? b a n=Z c):X c=n/\∀i v,c[i]? =Z v->w.cell? (a.add i)=Z v:=by
 unfold World.cells? at h;split at h;have:∀(l:N K) (c:N wW),l.mapM (λi=>w.cell?<|a.add i)=Z c->X c=X l/\∀(i j:K) (v:wW),c[i]? =Z v->l[i]? =Z j->w.cell? (a.add j)=Z v:=by
  intro l
  induction l with
  |nil=>intro c hc;simp at hc;subst hc;exact⟨O,λi j v hv=>by simp at hv⟩
  |cons x l g=>
   intro c hc;rw[List.mapM_cons]at hc
   cases d:w.cell? (a.add x)with
   |none=>rw[d]at hc;simp at hc
   |some y=>
    rw[d]at hc
    cases hl:l.mapM (λi=>w.cell?<|a.add i)with
    |none=>rw[hl]at hc;simp at hc
    |some r=>
     rw[hl]at hc;have hc:y::r=c:=by simpa using hc
     subst hc;have⟨h1,e⟩:=g r hl;refine⟨by simp[h1],λi j v hv f=> ?_⟩
     cases i with
     |zero=>simp at hv f;subst hv;subst f;exact d
     |succ i=>exact e i j v (by simpa using hv)<|by simpa using f
 have⟨h1,e⟩:=this _ _ h;refine⟨by simpa using h1,λi v hv=>e i i v hv ?_⟩;grind;cases h
def zeX{w:qR}{a:U8}{v:wW}(h:w.cell? a=Z v):a=⟨a.block,a.off,wS⟩/\a.block<w.heap.size:=by
 unfold World.cell? at h;split at h;rename_i c _ _ d;split at h;cases h
 rename_i e;refine⟨?_,(xbi.1 d).1⟩;have⟨b,o,s⟩:=a
 cases s with
 |none=>rfl
 |some x=>simp at e
 cases h
def znM(a:U8):a.add 0=a:=by grind [Addr.add]
section
variable{g9:Type}{enc:kW×wW->g9}{P:uS}{W:qR}{sp:wL->ut}{held:ut}
theorem SQ{t:Ty}{b o:K}(a:b<W.heap.size):∀(len:K),(∀i,i<len->∃(c:N wW) (z:t.D),W.cells? 0 (⟨b,o+i*t.n,wS⟩:U8) t.n=Z c/\t.rep.p (λ_=>Wr) z c W)->
 ∃(xs:N t.D) (cs:N wW),X xs=len/\At W b o cs/\yQ t.rep (λ_=>Wr) xs cs W
 |0,_=>⟨[],[],O,⟨a,λj v hv=>by simp at hv⟩,O⟩
 |len+1,h=>by
  have⟨xs,cs,h1,e,d⟩:=SQ a len λi hi=>h i pM;have⟨c,z,f,g⟩:=h len pM;have⟨l,k⟩:=IL f;have hl:=d.len;rw[Ty.n_rep]at hl;refine⟨xs++[z],cs++c,by simp[h1],⟨a,λj v hv=> ?_⟩,d.append ⟨c,[],rC,g,O⟩⟩;rcases xbU j (X cs) with hj|hj
  rw[xaZ hj]at hv;exact e.2 j v hv;rw[xbl hj]at hv;have:=k _ v hv;rw[jl]at this;grind
def Al:∀(t:Ty) {T:kW}{n:K}{cs:N wW}{x:oL g9×N am},XR P t T->DataW.trod enc P W 0 sp held n T cs=Z x->∃z:t.D,t.rep.p (λ_=>Wr) z cs W
 |.i,T,n,cs,x,ht,h=>by
  obtain⟨v,rfl,_,f⟩:=DataW.trod_int ht h;have: -9223372036854775808<=v/\v<=9223372036854775807:=by simpa[Lit.wf,IntKind.min,IntKind.max,IntKind.signed,IntKind.bits]using f
  exact⟨v,O,this.1,this.2⟩
 |.u,T,n,cs,x,ht,h=>by
  obtain⟨v,rfl,_,f⟩:=DataW.trod_int ht h;have:0<=v/\v<=18446744073709551615:=by simpa[Lit.wf,IntKind.min,IntKind.max,IntKind.signed,IntKind.bits]using f
  obtain⟨k,rfl⟩:=xaE this.1;exact⟨k,O,pM⟩
 |.ch,T,n,cs,x,ht,h=>by
  obtain⟨v,rfl,_,f⟩:=DataW.trod_int ht h;have:0<=v/\v<=255:=by simpa[Lit.wf,IntKind.min,IntKind.max,IntKind.signed,IntKind.bits]using f
  obtain⟨k,rfl⟩:=xaE this.1;exact⟨k,O,pM⟩
 |.tx,T,n,cs,x,ht,h=>by
  obtain⟨s,rfl,_,B⟩:=DataW.trod_string ht h;exact⟨xU s,s,O,O,B⟩
 |.b,T,n,cs,x,ht,h=>by
  obtain⟨v,rfl,_⟩:=DataW.trod_bool ht h;exact⟨v,O⟩
 |.l t,T,n,cs,x,ht,h=>by
  have⟨E,g,hc,Q,C⟩:=ht;rcases DataW.trod_slice g h with⟨rfl,_⟩|⟨a,len,cap,j,rest,m,_,rfl,_,_,R,hd,S,q,_,_⟩
  exact⟨[],_,O,SlP.nil⟩;rw[hc]at q;have d:∀i,i<len->∃(c:N wW) (z:t.D),W.cells? 0 (a.add<|i*t.n) t.n=Z c/\t.rep.p (λ_=>Wr) z c W:=by intro i hi;have h1:=q i hi;rw[xaa pM]at h1;have⟨c,r,w⟩:=Option.bind_eq_some_iff.1 h1;have⟨z,F⟩:=Al t C w;exact⟨c,z,r,F⟩
  obtain h0|h0:=xct len
  subst h0;exact⟨[],_,O,Z a,cap,O,xaf _,hd,.inl O⟩
  have⟨c,z,h1,r⟩:=d 0 h0;have⟨w,G⟩:=IL h1;have y:=G 0 (c[0]'pM) (xaa pM);rw[xcC,znM,znM]at y;have⟨A,H⟩:=zeX y;rw[A]at d;have⟨xs,cs,g1,J,L⟩:=SQ (t:=t) (b:=a.block) (o:=a.off) H len λi hi=>by
   have:=d i hi;rw[jl]at this;exact this
  refine⟨xs,_,O,Z a,cap,by rw[g1],pM,hd,.inr ⟨a.block,a.off,cs,by rw[<-A],jP,J,L⟩⟩
 |.p s t,T,n,cs,x,ht,h=>by
  have⟨f0,f1,g,hc,o0,o1,c0,c1,h0,h1⟩:=ht;have⟨U,Y,m,_,hl,g0,g1⟩:=trod_struct2 g h;rw[o0,c0,List.drop_zero]at g0;rw[o1,c1]at g1;have⟨z0,k0⟩:=Al s h0 g0;have⟨M,k1⟩:=Al t h1 g1;refine⟨(z0,M),cs.take s.n,(cs.drop s.n).take t.n,?_,k0,k1⟩;rw[hc]at hl;have e:(cs.drop s.n).take t.n=cs.drop s.n:=xaW (by simp;lia);rw[e,xbG]
 |.a _ _,_,_,_,_,ht,_=>ht.elim
 |.po _,_,_,_,_,ht,_=>ht.elim
 |.w1 _,_,_,_,_,ht,_=>ht.elim
def zgb{t:Ty}{T:kW}{v:wW}{d:oL g9}{ps:N am}(ht:XR P t T)(hv:v=t.rep.val v.cells.toList)(h:DataW.Trod enc P W 0 sp held T v d ps):∃z:t.D,(fV t.rep z v).p (λ_=>Wr) W:=by have⟨n,h⟩:=h;have⟨z,a⟩:=Al t ht h;exact⟨z,_,hv,a⟩
end
def zgc{P:uS}{s:Wq}(h:yU P s)(c:s.bk=0)(hc:s.cod=[.d .b])(x:cj s.dom)(g:s.M x=Z (hc▸wT:bZ s.cod)){vs:N wW}(hl:X vs=X s.dom)(i:jW s.dom x vs=[]){W:qR}(a:zC (λ_=>Wr) (jC P s.dom x vs) W):
 aM P s.f vs.toArray W λe j=>e=.returned (.bool wT)/\dB W j:=by
 have⟨f,dom,cod,M,bk⟩:=s;simp only at hc c;subst hc;subst c;have h1:=h.2 x wT g vs hl W (λ_=>Wr) [] [] W;simp only[i,xbM,xbo]at h1;refine(h1 ⟨yJ.refl _ _,λ_ _=>jP,jP,λ_=>Wr,λ_ _=>jP,λ_ _=>jP,λm k=>jp k H1,jP,a⟩).mono ?_;rintro e w' ⟨us,l,hd,n⟩;have⟨o,_,_,S,_,_,_,_,q⟩:=n;refine⟨?_,o⟩
 match us,hd with
 |[u],_=>
  have:u=.bool wT:=sO (show(fV Gv wT u).p S w' from q.1);rw[l,this];rfl
end
section
open Go.ChangeShapes Go.WideShapes Go.ChangeAt Go.RowKit
section
variable{g9:Type}{enc:kW×wW->g9}{P:uS}{W:qR}{sp:wL->ut}{held:ut}
def zqa{r:Reach}{b0:K}:∀(t:Ty) {T:kW}{v:wW},XR P t T->xez P W r b0 T v->v=t.rep.val v.cells.toList
 |.i,T,v,ht,h=>by obtain⟨n,rfl⟩:=okWide_int ht h;rfl
 |.u,T,v,ht,h=>by obtain⟨n,rfl⟩:=okWide_int ht h;rfl
 |.ch,T,v,ht,h=>by obtain⟨n,rfl⟩:=okWide_int ht h;rfl
 |.tx,T,v,ht,h=>by
  have ht:P.underlying T=Z .string:=ht;simp only[xez,ht,Cell.okWide]at h;unfold Cell.ok at h;rw[ht]at h;cases v<;>simp at h;rfl
 |.b,T,v,ht,h=>by
  have ht:P.underlying T=Z .bool:=ht;simp only[xez,ht,Cell.okWide]at h;unfold Cell.ok at h;rw[ht]at h;cases v<;>simp at h;rfl
 |.l t,T,v,ht,h=>by
  have⟨E,ht,_⟩:=ht;simp only[xez,ht,Cell.okWide]at h;unfold Cell.ok at h;rw[ht]at h;cases v<;>simp at h;rfl
 |.p s t,T,v,ht,h=>by
  have⟨f0,f1,ht,_⟩:=ht;simp only[xez,ht]at h;obtain⟨cs,rfl,_⟩:=h;show Value.agg cs=Value.agg cs.toList.toArray;simp
 |.a _ _,T,v,ht,_=>ht.elim
 |.po _,T,v,ht,_=>ht.elim
 |.w1 _,T,v,ht,_=>ht.elim
def ziF{r:Reach}{b0:K}{t:Ty}{T:kW}{v:wW}{d:oL g9}{ps:N am}(ht:XR P t T)(hv:xez P W r b0 T v)(h:DataW.Trod enc P W 0 sp held T v d ps):∃z:t.D,(fV t.rep z v).p (λ_=>Wr) W:=
 zgb ht (zqa t ht hv) h
def Ty.ok:(t:Ty)->t.D->Prop
 |.i,(x:J)=> -9223372036854775808<=x/\x<=9223372036854775807
 |.u,(x:K)=>x<18446744073709551616
 |.b,_=>Wr
 |.ch,(x:K)=>x<256
 |.tx,xs=>xaK xs<=9223372036854775807/\∀x,List.Mem x xs->x<256
 |.l t,xs=>xaK xs<=9223372036854775807/\∀x,List.Mem x xs->t.ok x
 |.p s t,x=>s.ok x.1/\t.ok x.2
 |.a _ t,xs=>∀x,List.Mem x xs->t.ok x
 |.po _,_=>Wr
 |.w1 t,x=>t.ok x
def Ha{α:Type}{e:zT α}{S:K->Prop}{w:qR}{q:α->Prop}(b:∀x cs,e.p S x cs w->q x):∀{xs:N α}{cs:N wW},yQ e S xs cs w->∀x,List.Mem x xs->q x
 |[],_,_,x,a=>nomatch a
 |y::ys,_,⟨c,r,_,hc,d⟩,x,a=>by
  cases a with
  |head=>exact b _ _ hc
  |tail _ a=>exact Ha b d x a
def Bp:∀(t:Ty) {S:K->Prop}{z:t.D}{cs:N wW}{w:qR},t.rep.p S z cs w->t.ok z
 |.i,_,_,_,_,h=>h.2
 |.u,_,_,_,_,h=>h.2
 |.b,_,_,_,_,_=>trivial
 |.ch,_,_,_,_,h=>h.2
 |.tx,_,xs,_,_,h=>by
  have⟨s,_,h1,g⟩:=h;have f:=kL s;have h1:xU s=xs:=h1;refine⟨by show xaK (α:=K) xs<=_;rw[<-h1,f];exact g,λx e=> ?_⟩;have e:x∈xU s:=by rw[h1];exact e
  obtain⟨b,_,rfl⟩:=xat.1 e;exact UInt8.toNat_lt _
 |.l t,S,xs,_,w,h=>by
  have⟨v,_,m,cap,_,h1,g,f⟩:=h;refine⟨xal h1 g,?_⟩;obtain f|⟨b,o,cs,_,_,_,j⟩:=f
  have f:xs=([]:N t.D):=f;subst f;exact λx e=>nomatch e;exact Ha (λx cs e=>Bp t e) j
 |.p s t,S,z,_,w,h=>by
  have⟨c,d,_,h1,g⟩:=h;exact⟨Bp s h1,Bp t g⟩
 |.a k t,S,xs,_,w,h=>by
  have⟨_,h⟩:=h;exact Ha (λx cs e=>Bp t e) h
 |.po _,_,_,_,_,_=>trivial
 |.w1 t,S,z,cs,w,h=>Bp t (S:=S) (cs:=cs) (w:=w) h
def ziQ:(dom:N AM)->cj dom->Prop
 |[],_=>Wr
 |.d t::r,x=>t.ok x.1/\ziQ r x.2
 |_::r,x=>ziQ r x.2
def R8(P:uS):N AM->N kW->Prop
 |[],[]=>Wr
 |.d t::r,T::Ts=>XR P t T/\R8 P r Ts
 |_,_=>UP
def zdr:∀{dom:N AM}{Ts:N kW},R8 P dom Ts->X dom=X Ts
 |[],[],_=>rfl
 |.d t::r,T::Ts,h=>by simp[zdr h.2]
 |.d _::_,[],h=>h.elim
 |[],_::_,h=>h.elim
 |.q _::_,_,h=>h.elim
 |.own _ _::_,_,h=>h.elim
 |.var _ _::_,_,h=>h.elim
 |.fn _ _::_,_,h=>h.elim
def zgk:∀{dom:N AM}{Ts:N kW},R8 P dom Ts->∀(x:cj dom) (vs:N wW),jW dom x vs=[]
 |[],_,_,_,_=>rfl
 |.d t::r,T::Ts,h,x,vs=>by show[]++jW r x.2 vs.tail=[];rw[zgk h.2];rfl
 |.d _::_,[],h,_,_=>h.elim
 |.q _::_,_,h,_,_=>h.elim
 |.own _ _::_,_,h,_,_=>h.elim
 |.var _ _::_,_,h,_,_=>h.elim
 |.fn _ _::_,_,h,_,_=>h.elim
def LJ{r:Reach}{b0:K}:∀{dom:N AM}{Ts:N kW}{vs:N wW}{ds:N (oL g9)}{ps:N am},R8 P dom Ts->(∀(j:K) t v,Ts[j]? =Z t->vs[j]? =Z v->xez P W r b0 t v)->xeT enc P W 0 sp held Ts vs ds ps->
 X vs=X Ts/\∃x:cj dom,ziQ dom x/\zC (λ_=>Wr) (jC P dom x vs) W
 |[],[],[],[],_,_,_,_=>⟨O,(),jP,jP⟩
 |.d t::dom,T::Ts,v::vs,d::ds,ps,h,hv,a=>by
  have⟨p,q,h1,b,_⟩:=a;have⟨hl,x,hd,c⟩:=LJ h.2 (λj e f ht g=>hv (j+1) e f (by simpa using ht)<|by simpa using g) b;have⟨z,i⟩:=ziF h.1 (hv 0 T v O O) h1;have⟨cs,k,hc⟩:=i;exact⟨by simp[hl],(z,x),⟨Bp t hc,hd⟩,⟨cs,k,hc⟩,c⟩
 |[],[],_::_,_,_,_,_,h=>h.elim
 |[],[],[],_::_,_,_,_,h=>h.elim
 |.d _::_,_::_,[],_,_,_,_,h=>h.elim
 |.d _::_,_::_,_::_,[],_,_,_,h=>h.elim
 |.d _::_,[],_,_,_,h,_,_=>h.elim
 |[],_::_,_,_,_,h,_,_=>h.elim
 |.q _::_,_,_,_,_,h,_,_=>h.elim
 |.own _ _::_,_,_,_,_,h,_,_=>h.elim
 |.var _ _::_,_,_,_,_,h,_,_=>h.elim
 |.fn _ _::_,_,_,_,_,h,_,_=>h.elim
def zgr{a:qR}(c:dB W a){p:am}(hp:p.block<W.heap.size):W.sameAt a p:=by
 cases p with
 |cell b off=>exact World.cell?_of_block<|c.block b hp jP
 |map b=>exact c.block b hp jP
def oJ{c:qR}{b:K->ut}(hl:laidOutB P=wT):∀{Ts:N kW}{vs:N wW}{ds:N (oL g9)}{ps:N am},(∀t∈Ts,P.readableRec t=wT/\t<P.types.size)->xeT enc P W 0 (λ_=>wT) wT Ts vs ds ps->
 (∀p∈ps,W.sameAt c p)->(∀p∈ps,b p.block=wT)->xeT enc P c 0 b wT Ts vs ds ps
 |[],[],[],_,_,h,_,_=>h
 |T::Ts,v::vs,d::ds,ps,e,h,h1,f=>by
  obtain⟨p,q,g1,i,rfl⟩:=h;have g:=e T<|IR
  exact⟨p,q,Go.WideElems.Trod_stays hl g.1 g.2 g1 (λx a=>h1 x<|xab.2 (.inl a))<|λx a=>f x<|xab.2 (.inl a),
   oJ hl (λt ht=>e t<|FS _ ht) i (λx a=>h1 x<|xab.2 (.inr a)) (λx a=>f x<|xab.2 (.inr a)),O⟩
 |[],[],_::_,_,_,h,_,_=>h.elim
 |[],_::_,_,_,_,h,_,_=>h.elim
 |_::_,[],_,_,_,h,_,_=>h.elim
 |_::_,_::_,[],_,_,h,_,_=>h.elim
end
def zmZ{l:Type}{enc:kW×wW->l}{P:uS}{f:WT}{s:ChangeSpec}{c h z:ut}{W:qR}{i:K}{args:Z3 wW}{ds k:N (oL l)}{a:N am}{sg:Wq}
 (m:DataW.Whole enc P f.params.toList s.vars c W args.toList ds k a) (r:s.vars=[]) (A:∀(j:K) t v,f.params[j]? =Z t->args[j]? =Z v->xez P W .any i t v)
 (hl:laidOutB P=wT) (C:∀t∈f.params.toList,P.readableRec t=wT/\t<P.types.size) (n:R8 P sg.dom f.params.toList) (hc:sg.cod=[.d .b]) (D:yU P sg) (E:∀x,ziQ sg.dom x->sg.M x=Z (hc▸wT:bZ sg.cod)) {B:kW} (F:f.resultTypes= #[B]) (hn:P.underlying B=Z .bool)
 (hi:s.fn l (ds++k)={results:=[.lit (.bool wT)],args:=ds}) (G:sg.bk=0:=by rfl):
 aM P sg.f args W λe u=>∃v,e=.returned v/\s.post enc P f c h z I W args v u:=by
 have⟨p,q,w,o,H,U,V⟩:=id m;rw[r]at o
 cases k with
 |cons g k=>exact o.elim
 |nil=>
  have J:q=[]:=o;subst J;have⟨L,x,Q,R⟩:=LJ (vs:=args.toList) n (λj t v ht hv=>A j t v (by simpa using ht)<|by simpa using hv) w;refine(zgc D G hc x (E x Q) (vs:=args.toList) (by rw[L,zdr n]) (zgk n x _) R).mono ?_;rintro e u ⟨rfl,y⟩;refine⟨_,O,zjQ (pa:=a) (pv:=[]) m (λb sp hd=> ?_) (λsp S=> ?_) (λsp _=> ?_) rC y⟩;rw[F,hi];exact⟨[],[],shut_bool hn _,O,O⟩;rw[hi];have T:xeT enc P W 0 (λ_=>wT) wT f.params.toList args.toList ds a:=by rw[H,xbo];exact w
  exact oJ hl C T (λp hp=>zgr y<|m.lt p hp) S;rw[r,hi];rfl
end
section
def zr8:ul->V Wf
 |.tmp t=>Z t
 |_=>wS
def yO(a:Op):N Wf:=a.operands.toList.filterMap zr8
def Lk(P:uS)(vs:K->wW)(H:xj)(S:K->Prop)(w:qR)(cx σ:Sg)(t:Wf):Prop:=
 ∀i d,get cx σ t i=Z d->(vU P vs d (H t) i).p S w
def Xj(P:uS)(vs:K->wW)(H:xj)(S:K->Prop)(w:qR)(cx σ:Sg)(x:ul):Prop:=∀t,zr8 x=Z t->Lk P vs H S w cx σ t
def ES(P:uS)(o:Xs)(cx σ:Sg)(F:N MF)(l:N (K×Dv)):Prop:=
 ∀(H:xj) (w:qR) (S:K->Prop) (vs:K->wW),(∀k,w.heap.size<=k->S k)->yP S (MS vs σ.ob++(MS vs cx.ob++F)) w->(∀t∈yO o.op,Lk P vs H S w cx σ t)->
  ux P o H w (λv w'=>dB w w'/\∀e∈l,(vU P vs e.2 v e.1).p S w')
section
variable{P:uS}{cf:Cf}{cx σ:Sg}{F:ww MF}{vs:wL->wW}{H:xj}{S:wL->Prop}{w:qR}{R:Type}{r:R}
 {d:wN Wf}{ty t yt:kW}{m7:String}{xS:Z3 Edge}{g:wN (wL×ut)}{x y:ul}
def yK{a:Op}(h:∀t∈yO a,Lk P vs H S w cx σ t)(b:x∈a.operands.toList):Xj P vs H S w cx σ x:=
 λt ht=>h t<|xee.2 ⟨x,b,ht⟩
def zj{v:Dv}(h:xA cx σ x=Z v)(hl:Xj P vs H S w cx σ x):(vC P vs v<|ev H x).p S w:=by
 cases x with
 |tmp t=>exact hl t O 0 v h
 |const c=>
  simp only[xA]at h;unfold cv at h;split at h;split at h
  next a=>cases h;exact w9 a
  cases h
  split at h;rename_i x a;cases h;have:(x.toNat:J)=x:=xdc a.1;have b:x.toNat<18446744073709551616:=W
  have:=jN (S:=S) (w:=w) b;rwa[‹(x.toNat:J)=x›]at this;cases h
  cases h;exact O
  split at h;rename_i x a;cases h;have:(x.toNat:J)=x:=xdc a.1;have b:x.toNat<256:=W
  have:=LL (S:=S) (w:=w) b;rwa[‹(x.toNat:J)=x›]at this;cases h
  split at h
  next a=>cases h;exact zdA O a
  cases h
  cases h;exact O
  cases h;exact O
  cases h;exact O
  cases h
 |global g=>cases h
 |func f=>cases h;exact⟨[],O,O,jP⟩
def IF{v:Dv}{u:wW}{p:PD}(h:zls v=Z p)(hv:(vC P vs v u).p S w):(fV p.t.rep p.x u).p S w:=by
 cases v<;>simp only[zls,xav,WR]at h
 subst h;exact hv;subst h;rw[show u=_ from hv];exact Dt
def tX{p:PD}(h:pd cx σ x=Z p)(hl:Xj P vs H S w cx σ x):(fV p.t.rep p.x<|ev H x).p S w:=by
 unfold pd at h
 cases hv:xA cx σ x with
 |none=>rw[hv]at h;cases h
 |some v=>rw[hv]at h;exact IF h<|zj hv hl
def va{a:J}(h:pd cx σ x=Z ⟨.i,a⟩)(hl:Xj P vs H S w cx σ x):ev H x=.int .i64 a/\WQ a:=zqb<|tX h hl
def wH{a:K}(h:pd cx σ x=Z ⟨.u,a⟩)(hl:Xj P vs H S w cx σ x):ev H x=.int .u64 (a:J)/\n5 a:=zom<|tX h hl
def WO{a:K}(h:pd cx σ x=Z ⟨.ch,a⟩)(hl:Xj P vs H S w cx σ x):ev H x=.int .u8 (a:J)/\a<256:=zse<|tX h hl
def zfb{a:N K}(h:pd cx σ x=Z ⟨.tx,a⟩)(hl:Xj P vs H S w cx σ x):∃s:WS,ev H x=.string s/\xU s=a/\s.size<=9223372036854775807:=zdi<|tX h hl
def zkU{a:ut}(h:pd cx σ x=Z ⟨.b,a⟩)(hl:Xj P vs H S w cx σ x):ev H x=.bool a:=sO<|tX h hl
def zgW{v:V Dv}{t:Ty}{k:t.D->V R}(h:Dj v t k=Z r):∃y:t.D,k y=Z r/\∀(P:uS) vs S w (d:Dv) u,v=Z d->(vC P vs d u).p S w->(fV t.rep y u).p S w:=by
 unfold Dj at h;split at h
 ·next=>
  cases t<;>simp only[WR]at h;exact⟨_,h,λP vs S w d u hd a=>by cases hd;rw[show u=_ from a];exact zgI⟩
 ·next=>
  cases t<;>simp only[WR]at h;exact⟨_,h,λP vs S w d u hd a=>by cases hd;rw[show u=_ from a];exact zrI⟩
 rename_i s y;cases t<;>simp only[WR]at h;have⟨e,h⟩:=yq h;subst e;exact⟨_,h,λP vs S w d u hd a=>by cases hd;exact zq5 a⟩
 rename_i b hv _ _;split at h;rename_i p hp;have⟨e,h⟩:=yq h;subst e;exact⟨_,h,λP vs S w d u hd a=>by cases hd;exact IF hp a⟩;cases h
 cases h
def QM{t:Ty}{k:t.D->V R}(h:Dj (xA cx σ x) t k=Z r):∃y:t.D,k y=Z r/\∀(P:uS) vs H S w,Xj P vs H S w cx σ x->(fV t.rep y<|ev H x).p S w:=by
 have⟨y,h1,a⟩:=zgW h;refine⟨y,h1,λP vs H S w hl=> ?_⟩
 cases hv:xA cx σ x with
 |none=>rw[hv]at h;cases h
 |some v=>exact a P vs S w v _ hv<|zj hv hl
def zI{o:Xs}{l:N (K×Dv)}(h:∀H w S vs,(∀t∈yO o.op,Lk P vs H S w cx σ t)->∃v,(uP (ev H) o).run P w=.ok (.value v) w/\∀e∈l,(vU P vs e.2 v e.1).p S w):ES P o cx σ F l:=by intro H w S vs b c hl;have⟨v,h1,a⟩:=h H w S vs hl;exact ux.of_value h1 ⟨yJ.refl _ _,a⟩
def zu{v:wW}{dv:Dv}(h:(vC P vs dv v).p S w):∀e∈[(0,dv)],(vU P vs e.2 v e.1).p S w:=by intro e a;rw[xad]at a;subst a;exact h
def uW{o:Xs}{l:N (K×Dv)}(h:∀H w S vs,yP S (MS vs σ.ob++(MS vs cx.ob++F)) w->(∀t∈yO o.op,Lk P vs H S w cx σ t)->∃(U:Type) (wt:U->wW) (a:U->N FF) (ok:U->Prop) (Γ:N FF) (ms:N MF),
 PJ P o H ms Γ wt a ok/\yP S ms w/\zC S Γ w/\∀u w',ok u->zC S (a u) w'->∀e∈l,(vU P vs e.2 (wt u) e.1).p S w'):ES P o cx σ F l:=by
 intro H w S vs b c hl;have⟨U,wt,a,ok,Γ,ms,h1,f,i,j⟩:=h H w S vs c hl;refine(h1 w S b f i).mono ?_;simp_all
def TE:∀(f i:K) (t:K) (e:K×Dv),e∈zlL cx σ t f i->get cx σ t e.1=Z e.2
 |0,_,_,_,h=>jp h H1
 |f+1,i,t,e,h=>by
  unfold zlL at h;split at h;rename_i d hd;obtain rfl|h:=xai.1 h
  exact hd;exact TE f (i+1) t e h;simp_all
def zhC{a:Op}(b:a=.move x\/a=.assign x){k:N (K×Dv)->V R}(h:zcY cx σ x k=Z r):∃l,k l=Z r/\ES P ⟨d,a,ty,m7,xS,g⟩ cx σ F l:=by
 have c:∀H w,(uP (ev H) ⟨d,a,ty,m7,xS,g⟩).run P w=.ok (.value<|ev H x) w:=λH w=>by obtain rfl|rfl:=b<;>exact lY O w
 have f:x∈a.operands.toList:=by obtain rfl|rfl:=b<;>simp[xaB]
 unfold zcY at h;split at h
 next v hv=>exact⟨_,h,zI λH w S vs hl=>⟨_,c H w,zu<|zj hv<|yK hl f⟩⟩
 unfold zsz at h;split at h;rename_i t j;split at h;cases h
 rename_i l0 l hc;exact⟨_,h,zI λH w S vs hl=>⟨_,c H w,λe i=>yK hl f t O _ _<|TE _ _ _ _ i⟩⟩;cases h
def zsG{i:K}{k:N (K×Dv)->V R}(h:zo7 cx σ x i k=Z r):∃l,k l=Z r/\ES P ⟨d,.extract x i,ty,m7,xS,g⟩ cx σ F l:=by
 unfold zo7 at h;split at h;rename_i t;split at h;rename_i v hv;refine⟨_,h,?_⟩;intro H w S vs c e hl;have⟨us,u,h1,a,b⟩:=yK hl (x:=.tmp t) (by simp[xaB]) t O (i+1) v hv;exact ux.of_value (lY (by simp only[pv,ev,h1];exact a) w) ⟨yJ.refl _ _,zu b⟩;cases h
 cases h
theorem mv1{k:N (K×Dv)->V R}(h:zln cx σ x k=Z r):∃v,xA cx σ x=Z v/\k [(0,v)]=Z r:=by grind [zln]
def zov{c:ul}{k:N (K×Dv)->V R}(h:zgg cx σ c x y k=Z r):∃l,k l=Z r/\ES P ⟨d,.pick c x y,ty,m7,xS,g⟩ cx σ F l:=by unfold zgg at h;split at h;rename_i hc;have⟨v,hv,h⟩:=mv1 h;exact⟨_,h,zI λH w S vs hl=>⟨_,zmC (zj hc<|yK hl<|by simp[xaB]) O w,zu<|zj hv<|yK hl<|by simp[xaB]⟩⟩;rename_i hc;have⟨v,hv,h⟩:=mv1 h;exact⟨_,h,zI λH w S vs hl=>⟨_,zkM (zj hc<|yK hl<|by simp[xaB]) O w,zu<|zj hv<|yK hl<|by simp[xaB]⟩⟩;cases h
def zrQ{k:N (K×Dv)->V R}(h:zof cx σ x k=Z r):∃l,k l=Z r/\ES P ⟨d,.unOp .not t x,ty,m7,xS,g⟩ cx σ F l:=by
 unfold zof at h;split at h
 next b a=>exact⟨_,h,zI λH w S vs hl=>⟨_,zna (zj a<|yK hl<|by simp[xaB]) w,zu<|by exact O⟩⟩
 next b a=>exact⟨_,h,zI λH w S vs hl=>⟨_,zna (sO<|zj a<|yK hl<|by simp[xaB]) w,zu<|by exact Dt⟩⟩
 cases h
def zsw{k:N (K×Dv)->V R}(h:zpM cx σ x k=Z r):∃l,k l=Z r/\ES P ⟨d,.unOp .neg t x,ty,m7,xS,g⟩ cx σ F l:=by
 unfold zpM at h;split at h;rename_i a c;have⟨z,b,e,h⟩:=pK h;exact⟨_,h,zI λH w S vs hl=>⟨_,znK (va c<|yK hl<|by simp[xaB]).1 (w_x b e) w,zu<|w9 e⟩⟩;rename_i a c
 have⟨z,b,h⟩:=wK h;exact⟨_,h,zI λH w S vs hl=>by
  have⟨h1,f⟩:=wH c (yK hl<|by simp[xaB]);exact⟨_,znK h1 (A8 b<|zow f) w,zu<|jN<|QL b⟩⟩
 cases h
theorem Tx{p:Prop}[US p]{k:N (K×Dv)->V R}(h:(if p then k [(0,.kb wT)]else k [(0,.kb I)])=Z r):k [(0,.kb<|decide p)]=Z r:=by grind
theorem kbN{p:Prop}[US p]{k:N (K×Dv)->V R}(h:(if p then k [(0,.kb I)]else k [(0,.kb wT)])=Z r):k [(0,.kb (!decide p))]=Z r:=by grind
def ztS{n:KW}{a c:J}{k:N (K×Dv)->V R}(h:arI n a c (λv=>k [(0,v)])=Z r)(e:pd cx σ x=Z ⟨.i,a⟩)(hc:pd cx σ y=Z ⟨.i,c⟩):
 ∃l,k l=Z r/\ES P ⟨d,.binOp n t x y yt,ty,m7,xS,g⟩ cx σ F l:=by
 have f:∀{vs H S w},(∀o∈yO (.binOp n t x y yt),Lk P vs H S w cx σ o)->Xj P vs H S w cx σ x:=λhl=>yK hl (by simp[xaB]);have j:∀{vs H S w},(∀o∈yO (.binOp n t x y yt),Lk P vs H S w cx σ o)->Xj P vs H S w cx σ y:=λhl=>yK hl (by simp[xaB]);cases n<;>simp only[arI,WR]at h
 case add=>have⟨z,b,m,h⟩:=pK h;exact⟨_,h,zI λH w S vs hl=>⟨_,ziv (va e<|f hl).1 (va hc<|j hl).1 (w_x b m) w,zu<|w9 m⟩⟩
 case sub=>have⟨z,b,m,h⟩:=pK h;exact⟨_,h,zI λH w S vs hl=>⟨_,zho (va e<|f hl).1 (va hc<|j hl).1 (w_x b m) w,zu<|w9 m⟩⟩
 case mul=>have⟨z,b,m,h⟩:=pK h;exact⟨_,h,zI λH w S vs hl=>⟨_,znG (va e<|f hl).1 (va hc<|j hl).1 (w_x b m) w,zu<|w9 m⟩⟩
 case quo=>have⟨h0,h⟩:=ZW h;have⟨z,b,m,h⟩:=pK h;exact⟨_,h,zI λH w S vs hl=>⟨_,znS (va e<|f hl).1 (va hc<|j hl).1 h0 (w_x b m) w,zu<|w9 m⟩⟩
 case rem=>have⟨h0,h⟩:=ZW h;have⟨z,b,h⟩:=wK h;exact⟨_,h,zI λH w S vs hl=>⟨_,znI (va e<|f hl).1 (va hc<|j hl).1 h0 b.symm w,zu<|w9<|zpH (va e<|f hl).2 b⟩⟩
 case and=>have⟨z,b,h⟩:=wK h;exact⟨_,h,zI λH w S vs hl=>⟨_,znr (va e<|f hl).1 (va hc<|j hl).1 (zlk.trans b.symm) w,zu<|w9<|zjG b<|zoD _ _⟩⟩
 case or=>have⟨z,b,h⟩:=wK h;exact⟨_,h,zI λH w S vs hl=>⟨_,zrV (va e<|f hl).1 (va hc<|j hl).1 (zn8.trans b.symm) w,zu<|w9<|zjG b<|zqL _ _⟩⟩
 case shr=>have⟨h0,h⟩:=ZW h;have⟨z,b,h⟩:=wK h;exact⟨_,h,zI λH w S vs hl=>⟨_,zdO (va e<|f hl).1 (va hc<|j hl).1 h0 b.symm w,zu<|w9<|zkg (va e<|f hl).2 b⟩⟩
 case shl=>have⟨h0,h⟩:=ZW h;have⟨z,b,m,h⟩:=pK h;exact⟨_,h,zI λH w S vs hl=>⟨_,zcC (va e<|f hl).1 (va hc<|j hl).1 h0 (w_x b m) w,zu<|w9 m⟩⟩
 case lss=>exact⟨[(0,.kb<|decide<|a<c)],Tx h,zI λH w S vs hl=>⟨_,zkq (va e<|f hl).1 (va hc<|j hl).1 w,zu<|by exact O⟩⟩
 case leq=>exact⟨[(0,.kb<|decide<|a<=c)],Tx h,zI λH w S vs hl=>⟨_,zkp (va e<|f hl).1 (va hc<|j hl).1 w,zu<|by exact O⟩⟩
 case gtr=>exact⟨[(0,.kb<|decide<|c<a)],Tx h,zI λH w S vs hl=>⟨_,zi5 (va e<|f hl).1 (va hc<|j hl).1 w,zu<|by exact O⟩⟩
 case geq=>exact⟨[(0,.kb<|decide<|c<=a)],Tx h,zI λH w S vs hl=>⟨_,zfV (va e<|f hl).1 (va hc<|j hl).1 w,zu<|by exact O⟩⟩
 case eql=>exact⟨[(0,.kb<|decide<|a=c)],Tx h,zI λH w S vs hl=>⟨_,zik (va e<|f hl).1 (va hc<|j hl).1 w,zu<|by exact O⟩⟩
 case neq=>exact⟨[(0,.kb (!decide (a=c)))],kbN h,zI λH w S vs hl=>⟨_,zhJ (va e<|f hl).1 (va hc<|j hl).1 w,zu<|by exact O⟩⟩
def ztK{bo:KW}{a c:K}{k:N (K×Dv)->V R}(h:(match bo with
 |.shr=>zef .shr a c<|λv=>k [(0,v)]
 |.shl=>zef .shl a c<|λv=>k [(0,v)]
 |bo=>arU bo a c<|λv=>k [(0,v)])=Z r) (e:pd cx σ x=Z ⟨.u,a⟩) (hc:pd cx σ y=Z ⟨.u,c⟩):
 ∃l,k l=Z r/\ES P ⟨d,.binOp bo t x y yt,ty,m7,xS,g⟩ cx σ F l:=by
 have f:∀{vs H S w},(∀j∈yO (.binOp bo t x y yt),Lk P vs H S w cx σ j)->Xj P vs H S w cx σ x:=λhl=>yK hl (by simp[xaB]);have i:∀{vs H S w},(∀j∈yO (.binOp bo t x y yt),Lk P vs H S w cx σ j)->Xj P vs H S w cx σ y:=λhl=>yK hl (by simp[xaB]);split at h;simp only[zef]at h;have⟨z,b,h⟩:=wK h;exact⟨_,h,zI λH w S vs hl=>⟨_,zdO (wH e<|f hl).1 (wH hc<|i hl).1 (xeO _) (zp2 b zdB) w,zu<|jN<|zbF (wH e<|f hl).2 b⟩⟩;simp only[zef]at h;have⟨z,b,h⟩:=wK h;exact⟨_,h,zI λH w S vs hl=>⟨_,zcC (wH e<|f hl).1 (wH hc<|i hl).1 (xeO _) (A8 b zdm) w,zu<|jN<|QL b⟩⟩;rename_i hd m;cases bo<;>simp only[arU,WR]at h
 case add=>have⟨z,b,h⟩:=wK h;exact⟨_,h,zI λH w S vs hl=>⟨_,ziv (wH e<|f hl).1 (wH hc<|i hl).1 (A8 b zli) w,zu<|jN<|QL b⟩⟩
 case sub=>have⟨z,b,h⟩:=wK h;exact⟨_,h,zI λH w S vs hl=>⟨_,zho (wH e<|f hl).1 (wH hc<|i hl).1 (A8 b<|zk1<|xdC (wH hc<|i hl).2) w,zu<|jN<|QL b⟩⟩
 case mul=>have⟨z,b,h⟩:=wK h;exact⟨_,h,zI λH w S vs hl=>⟨_,znG (wH e<|f hl).1 (wH hc<|i hl).1 (A8 b zkR) w,zu<|jN<|QL b⟩⟩
 case quo=>have⟨h0,h⟩:=ZW h;have⟨z,b,h⟩:=wK h;exact⟨_,h,zI λH w S vs hl=>⟨_,znS (wH e<|f hl).1 (wH hc<|i hl).1 (zrb h0) (A8 b<|zfw (wH e<|f hl).2) w,zu<|jN<|zbF (wH e<|f hl).2 b⟩⟩
 case rem=>have⟨h0,h⟩:=ZW h;have⟨z,b,h⟩:=wK h;exact⟨_,h,zI λH w S vs hl=>⟨_,znI (wH e<|f hl).1 (wH hc<|i hl).1 (zrb h0) (zp2 b zrX) w,zu<|jN<|zoe (wH e<|f hl).2 b⟩⟩
 case and=>have⟨z,b,h⟩:=wK h;exact⟨_,h,zI λH w S vs hl=>⟨_,znr (wH e<|f hl).1 (wH hc<|i hl).1 (A8 b<|zlS (wH e<|f hl).2 (wH hc<|i hl).2) w,zu<|jN<|zpQ b<|rV (wH e<|f hl).2⟩⟩
 case or=>have⟨z,b,h⟩:=wK h;exact⟨_,h,zI λH w S vs hl=>⟨_,zrV (wH e<|f hl).1 (wH hc<|i hl).1 (A8 b<|zo3 (wH e<|f hl).2 (wH hc<|i hl).2) w,zu<|jN<|zpQ b<|DM (wH e<|f hl).2 (wH hc<|i hl).2⟩⟩
 case lss=>exact⟨[(0,.kb<|decide<|(a:J)<(c:J))],Tx h,zI λH w S vs hl=>⟨_,zkq (wH e<|f hl).1 (wH hc<|i hl).1 w,zu<|by exact O⟩⟩
 case leq=>exact⟨[(0,.kb<|decide<|(a:J)<=(c:J))],Tx h,zI λH w S vs hl=>⟨_,zkp (wH e<|f hl).1 (wH hc<|i hl).1 w,zu<|by exact O⟩⟩
 case gtr=>exact⟨[(0,.kb<|decide<|(c:J)<(a:J))],Tx h,zI λH w S vs hl=>⟨_,zi5 (wH e<|f hl).1 (wH hc<|i hl).1 w,zu<|by exact O⟩⟩
 case geq=>exact⟨[(0,.kb<|decide<|(c:J)<=(a:J))],Tx h,zI λH w S vs hl=>⟨_,zfV (wH e<|f hl).1 (wH hc<|i hl).1 w,zu<|by exact O⟩⟩
 case eql=>exact⟨[(0,.kb<|decide<|(a:J)=(c:J))],Tx h,zI λH w S vs hl=>⟨_,zik (wH e<|f hl).1 (wH hc<|i hl).1 w,zu<|by exact O⟩⟩
 case neq=>exact⟨[(0,.kb (!decide ((a:J)=(c:J))))],kbN h,zI λH w S vs hl=>⟨_,zhJ (wH e<|f hl).1 (wH hc<|i hl).1 w,zu<|by exact O⟩⟩
def ztF{e:KW}{a:K}{c:J}{k:N (K×Dv)->V R}(h:shU e a c (λv=>k [(0,v)])=Z r)(f:pd cx σ x=Z ⟨.u,a⟩)(hc:pd cx σ y=Z ⟨.i,c⟩):
 ∃l,k l=Z r/\ES P ⟨d,.binOp e t x y yt,ty,m7,xS,g⟩ cx σ F l:=by
 have j:∀{vs H S w},(∀m∈yO (.binOp e t x y yt),Lk P vs H S w cx σ m)->Xj P vs H S w cx σ x:=λhl=>yK hl (by simp[xaB]);have n:∀{vs H S w},(∀m∈yO (.binOp e t x y yt),Lk P vs H S w cx σ m)->Xj P vs H S w cx σ y:=λhl=>yK hl (by simp[xaB]);unfold shU at h;split at h;have⟨h0,h⟩:=ZW h;have⟨z,b,h⟩:=wK h;exact⟨_,h,zI λH w S vs hl=>⟨_,zdO (wH f<|j hl).1 (va hc<|n hl).1 h0 (zp2 b zdB) w,zu<|jN<|zbF (wH f<|j hl).2 b⟩⟩;have⟨h0,h⟩:=ZW h;have⟨z,b,h⟩:=wK h;exact⟨_,h,zI λH w S vs hl=>⟨_,zcC (wH f<|j hl).1 (va hc<|n hl).1 h0 (A8 b zdm) w,zu<|jN<|QL b⟩⟩;cases h
def zs9{b:KW}{a:J}{c:K}{k:N (K×Dv)->V R}(h:shI b a c (λv=>k [(0,v)])=Z r)(f:pd cx σ x=Z ⟨.i,a⟩)(hc:pd cx σ y=Z ⟨.u,c⟩):
 ∃l,k l=Z r/\ES P ⟨d,.binOp b t x y yt,ty,m7,xS,g⟩ cx σ F l:=by
 have j:∀{vs H S w},(∀m∈yO (.binOp b t x y yt),Lk P vs H S w cx σ m)->Xj P vs H S w cx σ x:=λhl=>yK hl (by simp[xaB]);have n:∀{vs H S w},(∀m∈yO (.binOp b t x y yt),Lk P vs H S w cx σ m)->Xj P vs H S w cx σ y:=λhl=>yK hl (by simp[xaB]);unfold shI at h;split at h;have⟨z,e,h⟩:=wK h;exact⟨_,h,zI λH w S vs hl=>⟨_,zdO (va f<|j hl).1 (wH hc<|n hl).1 (xeO _) e.symm w,zu<|w9<|zkg (va f<|j hl).2 e⟩⟩;have⟨z,e,o,h⟩:=pK h;exact⟨_,h,zI λH w S vs hl=>⟨_,zcC (va f<|j hl).1 (wH hc<|n hl).1 (xeO _) (w_x e o) w,zu<|w9 o⟩⟩;cases h
def ztr{e:KW}{a c:ut}{j:ut}{k:N (K×Dv)->V R}(h:ju j (eqB e a c<|λv=>k [(0,v)])=Z r)(m:pd cx σ x=Z ⟨.b,a⟩)(hc:pd cx σ y=Z ⟨.b,c⟩)(n:j=wT->P.underlying t=Z .bool):
 ∃l,k l=Z r/\ES P ⟨d,.binOp e t x y yt,ty,m7,xS,g⟩ cx σ F l:=by
 have o:∀{vs H S w},(∀f∈yO (.binOp e t x y yt),Lk P vs H S w cx σ f)->Xj P vs H S w cx σ x:=λhl=>yK hl (by simp[xaB]);have p:∀{vs H S w},(∀f∈yO (.binOp e t x y yt),Lk P vs H S w cx σ f)->Xj P vs H S w cx σ y:=λhl=>yK hl (by simp[xaB]);have⟨hd,h⟩:=yf h;unfold eqB at h;split at h;have⟨z,i,h⟩:=wK h;exact⟨_,h,zI λH w S vs hl=>⟨_,zh9 (zr6 (n hd) (zkU m<|o hl)<|zkU hc<|p hl) i w,zu Dt⟩⟩;have⟨z,i,h⟩:=wK h;exact⟨_,h,zI λH w S vs hl=>⟨_,zh9 (zsi (n hd) (zkU m<|o hl)<|zkU hc<|p hl) i w,zu Dt⟩⟩;cases h
def NL(x:J):IntKind.u8.wrap x=x%256:=by rfl
def zpZ{a b:K}:IntKind.u8.wrap ((a:J)+(b:J))=(((a+b)%256:K):J):=by rw[NL];lia
def zpj{a b:K}(h:b<=256):IntKind.u8.wrap ((a:J)-(b:J))=(((a+256-b)%256:K):J):=by rw[NL];lia
def zgl{n z:K}(h:z=n%256):z<256:=by rw[h];exact xaP _ rx
def ztx{i:KW}{a c:K}{k:N (K×Dv)->V R}(h:arC i a c (λv=>k [(0,v)])=Z r)(e:pd cx σ x=Z ⟨.ch,a⟩)(hc:pd cx σ y=Z ⟨.ch,c⟩):
 ∃l,k l=Z r/\ES P ⟨d,.binOp i t x y yt,ty,m7,xS,g⟩ cx σ F l:=by
 have f:∀{vs H S w},(∀m∈yO (.binOp i t x y yt),Lk P vs H S w cx σ m)->Xj P vs H S w cx σ x:=λhl=>yK hl (by simp[xaB]);have b:∀{vs H S w},(∀m∈yO (.binOp i t x y yt),Lk P vs H S w cx σ m)->Xj P vs H S w cx σ y:=λhl=>yK hl (by simp[xaB]);cases i<;>simp only[arC,WR]at h
 case add=>have⟨z,j,h⟩:=wK h;exact⟨_,h,zI λH w S vs hl=>⟨_,ziv (WO e<|f hl).1 (WO hc<|b hl).1 (A8 j zpZ) w,zu<|LL<|zgl j⟩⟩
 case sub=>have⟨z,j,h⟩:=wK h;exact⟨_,h,zI λH w S vs hl=>⟨_,zho (WO e<|f hl).1 (WO hc<|b hl).1 (A8 j<|zpj<|xdC (WO hc<|b hl).2) w,zu<|LL<|zgl j⟩⟩
 case lss=>exact⟨[(0,.kb<|decide<|(a:J)<(c:J))],Tx h,zI λH w S vs hl=>⟨_,zkq (WO e<|f hl).1 (WO hc<|b hl).1 w,zu<|by exact O⟩⟩
 case leq=>exact⟨[(0,.kb<|decide<|(a:J)<=(c:J))],Tx h,zI λH w S vs hl=>⟨_,zkp (WO e<|f hl).1 (WO hc<|b hl).1 w,zu<|by exact O⟩⟩
 case gtr=>exact⟨[(0,.kb<|decide<|(c:J)<(a:J))],Tx h,zI λH w S vs hl=>⟨_,zi5 (WO e<|f hl).1 (WO hc<|b hl).1 w,zu<|by exact O⟩⟩
 case geq=>exact⟨[(0,.kb<|decide<|(c:J)<=(a:J))],Tx h,zI λH w S vs hl=>⟨_,zfV (WO e<|f hl).1 (WO hc<|b hl).1 w,zu<|by exact O⟩⟩
 case eql=>exact⟨[(0,.kb<|decide<|(a:J)=(c:J))],Tx h,zI λH w S vs hl=>⟨_,zik (WO e<|f hl).1 (WO hc<|b hl).1 w,zu<|by exact O⟩⟩
 case neq=>exact⟨[(0,.kb (!decide ((a:J)=(c:J))))],kbN h,zI λH w S vs hl=>⟨_,zhJ (WO e<|f hl).1 (WO hc<|b hl).1 w,zu<|by exact O⟩⟩
theorem IV{s u:WS}:(s.toList==u.toList)=decide (xU s=xU u):=by rw[ByteArray.toList_eq,ByteArray.toList_eq];unfold xU;by_cases h:s.data.toList=u.data.toList;grind;have a:=λe=>h (List.map_inj_right (λx y=>UInt8.toNat_inj.1)|>.1 e);simp_all
def Ew(s u:WS):xU (s++u)=xU s++xU u:=by unfold xU;simp
def zh6{s u:WS}(h:X (xU s)+X (xU u)<=9223372036854775807)(w:qR):(Op.stringOp .add s u).run P w=.ok (.string<|s++u) w:=by
 rw[kL,kL]at h;have a:¬(((s.size+u.size:K):J)>xdb.max):=by have:xdb.max=9223372036854775807:=O;lia
 unfold Op.stringOp;simp_all
def zsP{f:KW}{a c:N K}{k:N (K×Dv)->V R}(h:eqT f a c (λv=>k [(0,v)])=Z r)(j:pd cx σ x=Z ⟨.tx,a⟩)(hc:pd cx σ y=Z ⟨.tx,c⟩):
 ∃l,k l=Z r/\ES P ⟨d,.binOp f t x y yt,ty,m7,xS,g⟩ cx σ F l:=by
 have m:∀{vs H S w},(∀n∈yO (.binOp f t x y yt),Lk P vs H S w cx σ n)->Xj P vs H S w cx σ x:=λhl=>yK hl (by simp[xaB]);have o:∀{vs H S w},(∀n∈yO (.binOp f t x y yt),Lk P vs H S w cx σ n)->Xj P vs H S w cx σ y:=λhl=>yK hl (by simp[xaB]);cases f<;>simp only[eqT,WR]at h
 case add=>
  have⟨h0,h⟩:=ZW h;have⟨z,q,h⟩:=wK h;refine⟨_,h,zI λH w S vs hl=> ?_⟩;have⟨s,e1,b,_⟩:=zfb j<|m hl;have⟨u,i,e,_⟩:=zfb hc<|o hl;have p:X (xU s)+X (xU u)<=9223372036854775807:=by rw[b,e];exact h0
  refine⟨.string<|s++u,?_,zu<|zdA (by rw[Ew,b,e];exact q.symm)<|by rw[<-kL,Ew,xau];exact p⟩;simp[uP,e1,i,V5,binOp_string_add,zh6 (P:=P) p w]
 case eql=>
  refine⟨[(0,.kb<|decide<|a=c)],Tx h,zI λH w S vs hl=> ?_⟩;have⟨s,e1,b,_⟩:=zfb j<|m hl;have⟨u,i,e,_⟩:=zfb hc<|o hl;refine⟨.bool<|decide<|a=c,?_,zu<|by exact O⟩;rw[<-b,<-e,<-IV];simp[uP,e1,i,V5,binOp_string_eql]
 case neq=>
  refine⟨[(0,.kb (!decide (a=c)))],kbN h,zI λH w S vs hl=> ?_⟩;have⟨s,e1,b,_⟩:=zfb j<|m hl;have⟨u,i,e,_⟩:=zfb hc<|o hl;refine⟨.bool (!decide (a=c)),?_,zu<|by exact O⟩;rw[<-b,<-e,<-IV];simp[uP,e1,i,V5,binOp_string_neq]
def bop{e:ut}{f:KW}{k:N (K×Dv)->V R}(h:zph e f (pd cx σ x) (pd cx σ y) (λv=>k [(0,v)])=Z r)(i:e=wT->P.underlying t=Z .bool):
 ∃l,k l=Z r/\ES P ⟨d,.binOp f t x y yt,ty,m7,xS,g⟩ cx σ F l:=by
 unfold zph at h;split at h
 next a c b hc=>exact ztS h b hc
 next a c b hc=>exact ztK h b hc
 next a c b hc=>exact ztF h b hc
 next a c b hc=>exact zs9 h b hc
 next a c b hc=>exact ztr h b hc i
 next a c b hc=>exact ztx h b hc
 next a c b hc=>exact zsP h b hc
 cases h
def KY{s:kW}{q:Ty}{k:Wl}{B:K}(a:yT P cf.tt)(h:Yo cf s=Z ⟨q,.int k,B⟩):P.underlying s=Z (.int k):=(a _ _ h).2.2.2
def qB{s E:kW}{q:Ty}{B:K}(a:yT P cf.tt)(h:Yo cf s=Z ⟨q,.sl E,B⟩):P.underlying s=Z (.slice E):=(a _ _ h).2.2.2.1
def O3{s:kW}{q:Ty}{B:K}(a:yT P cf.tt)(h:Yo cf s=Z ⟨q,.str,B⟩):P.underlying s=Z .string:=(a _ _ h).2.2.2
def zl4(a:yT P cf.tt):isB cf t=wT->P.underlying t=Z .bool:=by
 intro h;unfold isB at h;split at h
 next q B b=>exact(a _ _ b).2.2.2
 cases h
theorem UI{s E:kW}{e:Ty}{B:K}(b:yT P cf.tt)(c:uf P cf.tt)(h:Yo cf s=Z ⟨.l e,.sl E,B⟩):∃bytes a,J9 P E e.rep.agg e.rep.n bytes a:=by obtain⟨f,h1,rfl⟩:=c _ _ _ _ h;have⟨⟨a,i,_⟩,_⟩:=b _ _ h1;grind
theorem YX{b:TI}(c:yT P cf.tt)(h:Yo cf t=Z b):∃a,J9 P t b.ty.rep.agg b.ty.rep.n b.B a/\a.cells.size=b.ty.rep.n/\∀S w,b.ty.rep.p S b.ty.z a.cells.toList w:=by have⟨a,h1,e,f,_⟩:=(c _ _ h).1;grind
def zcg{a:TI}{s:Ty}(e:yT P cf.tt)(h:Yo cf t=Z a)(b:a.ty=.l s):J9 P t I 1 a.B (.slice wS 0 0):=by have⟨c,h1,_,_,f⟩:=(e _ _ h).1;rw[f.1 s b,b]at h1;exact h1
def zsD{a:K}(h:a<256):WQ (a:J):=by unfold WQ;lia
def zqM{a:K}(h:a<256):a<18446744073709551616:=W
def ztR{a:K}(h:a<256):IntKind.u8.wrap (a:J)=(a:J):=by rw[NL];lia
def u_c{a:K}:IntKind.u8.wrap (a:J)=((a%256:K):J):=by rw[NL];lia
def TJ{S:K->Prop}{w:qR}:∀{xs:N K}{cs:N wW},yQ eCh S xs cs w->cs=xs.map (λx:K=>Value.int .u8 (x:J))/\∀x∈xs,x<256
 |[],cs,h=>⟨h,λx a=>jp a H1⟩
 |x::xs,cs,⟨c,r,h1,b,e⟩=>by
  have⟨e1,j⟩:=TJ e;have⟨f,i⟩:=b;refine⟨by rw[h1,f,e1];rfl,λy hy=> ?_⟩;obtain rfl|hy:=xai.1 hy
  exact i;simp_all
def zor{s t E:kW}{xs:N K}{v:wW}{S:K->Prop}{w:qR}(k:P.underlying s=Z (.slice E))(l:P.underlying E=Z (.int .u8))(ht:P.underlying t=Z .string)(hv:(fV (eS eCh) xs v).p S w):
 ∃u:WS,(convert s t v).run P w=.ok (.string u) w/\xU u=xs/\u.size<=9223372036854775807:=by
 obtain⟨i,cap,rfl,hi,hc,h⟩:=wg.1 hv;have e:∀a,i=Z a->(∀x∈xs,x<256)->(∀j (c:j<X xs),w.cell? (a.add j)=Z (.int .u8 ((xs[j]:K):J)))->∃u:WS,(convert s t (.slice i (X xs) cap)).run P w=.ok (.string u) w/\xU u=xs/\u.size<=9223372036854775807:=by
  rintro a rfl f c;have q:(xs.map UInt8.ofNat).map UInt8.toNat=xs:=by
   rw[xcE];conv=>rhs;rw[<-List.map_id xs]
   exact xcc λx hd=>UInt8.toNat_ofNat_of_lt'<|f x hd
  have m:=run_convert_bytes_back (P:=P) w s t E a cap (xs.map UInt8.ofNat) k l ht (λj z=>by
   have n:j<X xs:=by simpa using z
   rw[c j n,List.getElem_map,UInt8.toNat_ofNat_of_lt'<|f _<|xby n])
  rw[xan]at m;refine⟨_,m,by unfold xU;simpa using q,?_⟩;rw[<-kL];unfold xU;rw[xan];simp;unfold QR at hc;lia
 obtain rfl|⟨b,o,cs,rfl,_,A,B⟩:=h
 cases i with
 |some a=>exact e a O (λx f=>jp f H1)<|λj c=>jp c<|xbb _
 |none=>
  refine⟨ByteArray.empty,?_,O,rx⟩;rw[run_convert_bytes_string w s t E wS _ cap k l ht];rfl
 have⟨e1,C⟩:=TJ B;refine e _ O C λj c=> ?_;have:=A.2 j (.int .u8 ((xs[j]:K):J)) (by rw[e1,xci,xaa c];rfl);rw[jl];exact this
def zsI(f:yT P cf.tt){s t:kW}{k:N (K×Dv)->V R}(h:zqo cf cx σ s t x k=Z r):∃l,k l=Z r/\ES P ⟨d,.convert s t x,ty,m7,xS,g⟩ cx σ F l:=by
 have e:∀{vs H S w},(∀m∈yO (.convert s t x),Lk P vs H S w cx σ m)->Xj P vs H S w cx σ x:=λhl=>yK hl (by simp[xaB]);unfold zqo at h;split at h;rename_i q k1 B n j ht;have hc:=KY f j;have⟨o,D,tB⟩:=n;unfold zsO at h;split at h;rename_i a c b;simp only at c;subst c;exact⟨_,h,zI λH w S vs hl=>⟨_,iQ hc (KY f ht) (va b<|e hl).1 (w64 (va b<|e hl).2) w,zu<|w9 (va b<|e hl).2⟩⟩;rename_i a c b;simp only at c;subst c;exact⟨_,h,zI λH w S vs hl=>⟨_,iQ hc (KY f ht) (wH b<|e hl).1 (sD (wH b<|e hl).2) w,zu<|jN (wH b<|e hl).2⟩⟩;rename_i a c b;simp only at c;subst c;have⟨z,i,h⟩:=wK h;exact⟨_,h,zI λH w S vs hl=>⟨_,iQ hc (KY f ht) (va b<|e hl).1 (A8 i<|zhi _) w,zu<|jN<|zpQ i<|Fa _⟩⟩;rename_i a c b;simp only at c;subst c;have⟨z,i,h⟩:=wK h;exact⟨_,h,zI λH w S vs hl=>⟨_,iQ hc (KY f ht) (wH b<|e hl).1 ((Fx (wH b<|e hl).2).trans i.symm) w,zu<|w9<|zjG i<|zih (wH b<|e hl).2⟩⟩;rename_i a c b;simp only at c;subst c;exact⟨_,h,zI λH w S vs hl=>⟨_,iQ hc (KY f ht) (WO b<|e hl).1 (w64<|zsD (WO b<|e hl).2) w,zu<|w9<|zsD (WO b<|e hl).2⟩⟩;rename_i a c b;simp only at c;subst c;exact⟨_,h,zI λH w S vs hl=>⟨_,iQ hc (KY f ht) (WO b<|e hl).1 (sD<|zqM (WO b<|e hl).2) w,zu<|jN<|zqM (WO b<|e hl).2⟩⟩;rename_i a c b;simp only at c;subst c;exact⟨_,h,zI λH w S vs hl=>⟨_,iQ hc (KY f ht) (WO b<|e hl).1 (ztR (WO b<|e hl).2) w,zu<|LL (WO b<|e hl).2⟩⟩;rename_i a c b;simp only at c;subst c;unfold chU at h;have⟨z,i,h⟩:=wK h;exact⟨_,h,zI λH w S vs hl=>⟨_,iQ hc (KY f ht) (wH b<|e hl).1 (A8 i u_c) w,zu<|LL<|zgl i⟩⟩;cases h
 rename_i E B q G j ht;split at h;rename_i J p v;have⟨xs,h,hd⟩:=QM h;refine⟨_,h,zI λH w S vs hl=> ?_⟩;have⟨u,h1,A,C⟩:=zor (qB f j) (KY f v) (O3 f ht)<|hd P vs H S w<|e hl;exact⟨.string u,by simp[uP,h1],zu<|zdA A C⟩;cases h
 cases h
def Ss{n:K}{k:K->V R}(h:atI cx σ x n k=Z r):∃j,j<n/\k j=Z r/\∀(P:uS) vs H S w,Xj P vs H S w cx σ x->∃ik,ev H x=.int ik (j:J):=by unfold atI at h;split at h;rename_i j a;have⟨i,h1,b,h⟩:=zhc h;exact⟨i,b,h,λP vs H S w hl=>⟨.i64,by rw[(va a hl).1,h1]⟩⟩;rename_i j a;have⟨i,h1,b,h⟩:=zhc h;exact⟨i,b,h,λP vs H S w hl=>⟨.u64,by rw[(wH a hl).1,h1]⟩⟩;rename_i j a;have⟨i,h1,b,h⟩:=zhc h;exact⟨i,b,h,λP vs H S w hl=>⟨.u8,by rw[(WO a hl).1,h1]⟩⟩;cases h
def cJ{x:V ul}{k:V K->V R}(h:Tq cx σ x k=Z r):
 (x=wS/\k wS=Z r)\/∃y j,x=Z y/\k (Z j)=Z r/\∀(P:uS) vs H S w,Xj P vs H S w cx σ y->ev H y=.int .i64 (j:J):=by
 unfold Tq at h;split at h;simp_all;rename_i y;split at h;rename_i j a;have⟨i,h1,h⟩:=zcX h;exact .inr ⟨y,i,O,h,λP vs H S w hl=>by rw[(va a hl).1,h1]⟩;cases h
def cD{α:Type}{e:zT α}{E:kW}{xs:N α}{v:wW}(h:(mO e E v xs).p S w)(h0:0<X xs):
 ∃b cap,v=.slice (Z ⟨b,0,wS⟩) (X xs) cap/\(mB (rowT e cap) E b xs).p S w:=by
 have⟨cs,h1,c⟩:=h;rcases h1.2 with⟨rfl,j⟩|⟨g,cap,a,rfl,hd,f,k,l,i,hc⟩
 lia;exact⟨g,cap,O,a,f,cs,a.toList.drop<|X xs*e.n,by rw[<-hc,xbG],c,by simpa using i⟩
def zjY{s E:kW}{q:Ty}{n B:K}(a:yT P cf.tt)(h:Yo cf s=Z ⟨q,.ar n E,B⟩):P.underlying s=Z (.array n E):=(a _ _ h).2.2.2.2
theorem ziL{E:kW}{e:Ty}(b:yT P cf.tt)(h:elA cf E e=wT):∃bytes a,J9 P E e.rep.agg e.rep.n bytes a:=by
 unfold elA at h;split at h;rename_i c ht
 cases f:Ty.same c.ty e with
 |none=>rw[f]at h;cases h
 |some p=>
  have⟨a,i,_⟩:=YX b ht;rw[p.down]at i;grind
 cases h
def zpi{n j:K}{e:Ty}(b:j<n):Fl.ok (.a n e) (zrk n e j):=by intro z S w cs hp;have c:=hp;have:=Sub.nth n e.rep z j (xeJ z j e.z) (getD_some e.z<|c.1▸b) S w cs hp;rw[e.n_rep]at this;exact this
def zma(m:yT P cf.tt)(U:uf P cf.tt){k:N (K×Dv)->V R}(h:za5 cf cx σ t x y k=Z r):∃l,k l=Z r/\ES P ⟨d,.indexAddr t x y,ty,m7,xS,g⟩ cx σ F l:=by
 have G:∀{vs H S w},(∀L∈yO (.indexAddr t x y),Lk P vs H S w cx σ L)->Xj P vs H S w cx σ x:=λhl=>yK hl (by simp[xaB]);have J:∀{vs H S w},(∀L∈yO (.indexAddr t x y),Lk P vs H S w cx σ L)->Xj P vs H S w cx σ y:=λhl=>yK hl (by simp[xaB]);unfold za5 at h;split at h;rename_i e E B s xs ht v;have⟨hi,h⟩:=yq h;cases hi;have⟨bytes,c,hc⟩:=UI m U ht;have⟨j,i,h,hd⟩:=Ss h;have⟨z,M,h⟩:=wK h;refine⟨_,h,uW λH w S vs Q hl=> ?_⟩;have⟨ik,A⟩:=hd P vs H S w<|J hl;exact⟨_,_,_,_,[fV (eS e.rep) xs<|ev H x],[],ziZ (e:=e.rep) (xs:=xs) (k:=j) (y:=z) O A (qB m ht) hc (zq9 i M)<|λS w h=>h.1,jP,⟨zj v<|G hl,jP⟩,λu w' _ T=>zu T.1⟩
 rename_i e E B o ht v;split at h;rename_i s E' xs ho;have⟨hi,h⟩:=yq h;cases hi;have⟨bytes,c,hc⟩:=UI m U ht;have⟨j,i,h,hd⟩:=Ss h;refine⟨_,h,?_⟩;intro H w S vs hS Q hl;have⟨ik,A⟩:=hd P vs H S w<|J hl;have hm:(mO e.rep E' (vs o) xs).p S w:=Yb Q ho;have⟨b,cap,hv,_⟩:=cD hm<|xaI (xaf _) i;have hq:ev H x=vs o:=zj v<|G hl;refine ux.of_value (Dq (qB m ht) hc (hq.trans hv) A i w) ⟨yJ.refl _ _,zu ?_⟩;exact⟨λz=>Sub.self e.rep z,b,_,_,hv,i,by simp[Fl.self]⟩
 cases h
 rename_i q D E B n e xs ht v;have⟨C,h⟩:=yf h;rw[xae]at C;have hn:=yb C.1;subst hn;have⟨bytes,c,hc⟩:=ziL m C.2;have⟨j,i,h,hd⟩:=Ss h;have⟨z,M,h⟩:=wK h;refine⟨_,h,uW λH w S vs Q hl=> ?_⟩;have⟨ik,A⟩:=hd P vs H S w<|J hl;have hp:(fP (Ty.a D e).rep xs<|ev H x).p S w:=zj v<|G hl;have⟨_,_,_,_,_,_,hk,_⟩:=id hp;exact⟨_,_,_,_,[fP (Ty.a D e).rep xs<|ev H x],[],zeH (e:=(Ty.a D e).rep) (f:=e.rep) (z:=xs) (z':=z) (zjY m ht) hc O A i (Sub.nth D e.rep xs j z<|zq9 (hk▸i) M)<|λS w h=>h.1,jP,⟨hp,jP⟩,λu w' _ T=>zu T.1⟩;rename_i q D E B o n e ht v;have⟨C,h⟩:=yf h;rw[xae]at C;have hn:=yb C.1;subst hn;have⟨bytes,c,hc⟩:=ziL m C.2;have⟨j,i,h,hd⟩:=Ss h;refine⟨_,h,zI λH w S vs hl=> ?_⟩;have⟨ik,A⟩:=hd P vs H S w<|J hl;have⟨h1,b,Y⟩:=zj v<|G hl;exact⟨_,RA (zjY m ht) hc (h1.trans Y) A i w,zu ⟨zpi i,b,Y,by rw[e.n_rep];rfl⟩⟩;cases h
def aO:∀{k:K}{t:Ty}{i:K}{f:Fl t.D},xl k t i=Z f->Fl.ok t f
 |0,.w1 t,0,f,h=>by
  simp only[xl,xav]at h;subst h;exact λz=>Sub.wrap t.rep z
 |0,.w1 t,_+1,_,h=>by cases h
 |0,.i,_,_,h=>by cases h
 |0,.u,_,_,h=>by cases h
 |0,.b,_,_,h=>by cases h
 |0,.l _,_,_,h=>by cases h
 |0,.p _ _,_,_,h=>by cases h
 |0,.a _ _,_,_,h=>by cases h
 |0,.ch,_,_,h=>by cases h
 |0,.tx,_,_,h=>by cases h
 |0,.po _,_,_,h=>by cases h
 |1,t,i,f,h=>by
  unfold xl at h;cases c:xah i 0<;>rw[c]at h
  cases h
  simp only[WF,xav]at h;subst h;exact λz=>Sub.self t.rep z
 |k+2,.p s t,0,f,h=>by
  simp only[xl,xav]at h;subst h;exact λz=>Sub.fst s.rep t.rep z
 |k+2,.p s t,i+1,f,h=>by
  simp only[xl]at h;split at h;rename_i f' e;simp only[xav]at h;subst h;intro z;have:=(Sub.snd s.rep t.rep z).comp<|aO e z.2;rw[s.n_rep]at this;exact this;cases h
 |k+2,.i,i,f,h=>by simp[xl]at h
 |k+2,.u,i,f,h=>by simp[xl]at h
 |k+2,.b,i,f,h=>by simp[xl]at h
 |k+2,.l _,i,f,h=>by simp[xl]at h
 |k+2,.a _ _,i,f,h=>by simp[xl]at h
def EW:∀{k:K}{t:Ty}{i j:K}{f g:Fl t.D},xl k t i=Z f->xl k t j=Z g->i≠j->
 (∀z x,g.get (f.set x z)=g.get z)/\(∀z x y,g.set y (f.set x z)=f.set x (g.set y z))/\(g.off+g.f.n<=f.off\/f.off+f.f.n<=g.off)
 |0,.w1 _,0,0,_,_,_,_,h=>jp O h
 |0,.w1 _,_+1,_,_,_,h,_,_=>by cases h
 |0,.w1 _,0,_+1,_,_,_,h,_=>by cases h
 |0,.i,_,_,_,_,h,_,_=>by cases h
 |0,.u,_,_,_,_,h,_,_=>by cases h
 |0,.b,_,_,_,_,h,_,_=>by cases h
 |0,.l _,_,_,_,_,h,_,_=>by cases h
 |0,.p _ _,_,_,_,_,h,_,_=>by cases h
 |0,.a _ _,_,_,_,_,h,_,_=>by cases h
 |0,.ch,_,_,_,_,h,_,_=>by cases h
 |0,.tx,_,_,_,_,h,_,_=>by cases h
 |0,.po _,_,_,_,_,h,_,_=>by cases h
 |1,t,i,j,f,g,c,m,hn=>by
  unfold xl at c m;cases o:xah i 0<;>rw[o]at c
  cases c
  cases hc:xah j 0<;>rw[hc]at m
  cases m
  exact jp ((yb o).trans (yb hc).symm) hn
 |k+2,.p s t,0,0,_,_,_,_,h=>jp O h
 |k+2,.p s t,0,j+1,f,g,c,m,_=>by
  simp only[xl,xav]at c m;subst c;split at m;rename_i v q;simp only[xav]at m;subst m;exact⟨λ_ _=>O,λ_ _ _=>O,.inr<|by simp only;lia⟩;cases m
 |k+2,.p s t,i+1,0,f,g,c,m,_=>by
  simp only[xl,xav]at c m;subst m;split at c;rename_i f' hd;simp only[xav]at c;subst c;exact⟨λ_ _=>O,λ_ _ _=>O,.inl<|by simp only;lia⟩;cases c
 |k+2,.p s t,i+1,j+1,f,g,c,m,hn=>by
  simp only[xl]at c m;split at c;rename_i f' hd;split at m;rename_i v q;simp only[xav]at c m;subst c;subst m;have⟨h1,A,h3⟩:=EW hd q (λe=>hn<|by rw[e]);exact⟨λz x=>h1 z.2 x,λz x y=>by simp only;rw[A z.2 x y],by obtain h3|h3:=h3;exact .inl (by simp only;lia);exact .inr<|by simp only;lia⟩;cases m
  cases c
 |k+2,.i,i,_,f,_,h,_,_=>by simp[xl]at h
 |k+2,.u,i,_,f,_,h,_,_=>by simp[xl]at h
 |k+2,.b,i,_,f,_,h,_,_=>by simp[xl]at h
 |k+2,.l _,i,_,f,_,h,_,_=>by simp[xl]at h
 |k+2,.a _ _,i,_,f,_,h,_,_=>by simp[xl]at h
def WA:∀t:Ty,∃h,Ty.same t t=Z ⟨h⟩
 |.i=>⟨O,O⟩
 |.u=>⟨O,O⟩
 |.b=>⟨O,O⟩
 |.ch=>⟨O,O⟩
 |.tx=>⟨O,O⟩
 |.l t=>by have⟨h,e⟩:=WA t;exact⟨O,by simp only[Ty.same,e]⟩
 |.po t=>by have⟨h,e⟩:=WA t;exact⟨O,by simp only[Ty.same,e]⟩
 |.w1 t=>by have⟨h,e⟩:=WA t;exact⟨O,by simp only[Ty.same,e]⟩
 |.a k t=>by have⟨h,e⟩:=WA t;exact⟨O,by simp only[Ty.same,e,dite_true]⟩
 |.p s t=>by have⟨h,e⟩:=WA s;have⟨f,c⟩:=WA t;exact⟨O,by simp only[Ty.same,e,c]⟩
def KR{s t:Ty}(h:(Ty.same s t).isSome=wT):s=t:=by
 cases a:Ty.same s t with
 |none=>rw[a]at h;cases h
 |some p=>exact p.down
def rQ{α:Type}{s:Ty}{off:K}{g:α->(Ty.l s).D}{st:(Ty.l s).D->α->α}{xs:N s.D}{z:α}:Zj s (Z ⟨off,.l s,g,st⟩) xs z=st xs z:=by have⟨h,e⟩:=WA s;simp only[Zj,e]
theorem zd3{n i j:K}{t s:Ty}{f:Fl t.D}{hv:N wW}{z:t.D}{r:K}(c:vrP s (xl n t j))(a:xl n t i=Z f)(hn:i≠j):
 Sub (eH t.rep (X2<|xl n t j) (Zj s (xl n t j) []) hv) (z,r) f.off f.f.rep (f.get z) (λy=>(f.set y z,r)):=by
 have⟨off,g,st,b⟩:=c;have⟨h1,h,e⟩:=EW b a<|Ne.symm hn;rw[b];have hp:∀z,Zj s (Z ⟨off,.l s,g,st⟩) [] z=st ([]:N s.D) z:=λz=>rQ;refine Sub.other ?_ (by rw[f.f.n_rep];exact e);have k:=aO a<|Zj s (Z ⟨off,.l s,g,st⟩) [] z;grind
def Rj:∀{k:K}{t:Ty}{i:K}{f:Fl t.D},xl k t i=Z f->∀x y z,f.set x (f.set y z)=f.set x z
 |0,.w1 t,0,f,h=>by
  simp only[xl,xav]at h;subst h;exact λ_ _ _=>O
 |0,.w1 t,_+1,_,h=>by cases h
 |0,.i,_,_,h=>by cases h
 |0,.u,_,_,h=>by cases h
 |0,.b,_,_,h=>by cases h
 |0,.l _,_,_,h=>by cases h
 |0,.p _ _,_,_,h=>by cases h
 |0,.a _ _,_,_,h=>by cases h
 |0,.ch,_,_,h=>by cases h
 |0,.tx,_,_,h=>by cases h
 |0,.po _,_,_,h=>by cases h
 |1,t,i,f,h=>by
  unfold xl at h;cases c:xah i 0<;>rw[c]at h
  cases h
  simp only[WF,xav]at h;subst h;exact λ_ _ _=>O
 |k+2,.p s t,0,f,h=>by
  simp only[xl,xav]at h;subst h;exact λ_ _ _=>O
 |k+2,.p s t,i+1,f,h=>by
  simp only[xl]at h;split at h;rename_i f' e;simp only[xav]at h;subst h;intro x y z;simp only;rw[Rj e];cases h
 |k+2,.i,i,f,h=>by simp[xl]at h
 |k+2,.u,i,f,h=>by simp[xl]at h
 |k+2,.b,i,f,h=>by simp[xl]at h
 |k+2,.l _,i,f,h=>by simp[xl]at h
 |k+2,.a _ _,i,f,h=>by simp[xl]at h
def znc{S:K->Prop}{w:qR}{n i off:K}{t s:Ty}{g:t.D->(Ty.l s).D}{st:(Ty.l s).D->t.D->t.D}{z:t.D}{cs:N wW}{v:wW}(e:xl n t i=Z ⟨off,.l s,g,st⟩)(h:t.rep.p S z cs w)(hv:cs[off]? =Z v)(h1:v.oneCell'=wT):
 (eH t.rep off (st ([]:N s.D)) [v]).p S (z,0) cs w:=by
 have⟨b,c,a,e1,m,f,j⟩:=aO e z S w cs h;refine⟨v,O,h1,hv,?_⟩;have k:=j w ([]:N s.D) [.slice wS 0 0] (yJ.refl _ _) ⟨_,O,SlP.nil⟩;have hc:X c=1:=(Ty.l s).rep.len f;obtain⟨c0,rfl⟩:=xcS.1 hc;have:cs.set off (.slice wS 0 0)=b++[.slice wS 0 0]++a:=by simp_all
 rw[this];exact k
def zqq{S e:K->Prop}{w:qR}{n i off r:K}{t s:Ty}{g:t.D->(Ty.l s).D}{st:(Ty.l s).D->t.D->t.D}{z:t.D}{cs:N wW}{v:wW}{hv:N wW}{xs:N s.D}(o:xl n t i=Z ⟨off,.l s,g,st⟩)(h:(eH t.rep off (st ([]:N s.D)) hv).p S (z,r) cs w)
 (A:hv[r]? =Z v) (B:∀k,S k->e k) (C:(fV (eS s.rep) xs v).p e w):t.rep.p e (st xs z) cs w:=by
 have⟨u,h1,T,E,f⟩:=h;rw[A]at h1;cases h1;have f:=t.rep.sub f λk _=>B k;have⟨j,c,a,e1,G,J,L⟩:=aO o (st ([]:N s.D) z) e w _ f;have⟨b,hd,q⟩:=C;have m:=L w xs b (yJ.refl _ _) q;simp only at m G;rw[show st xs (st ([]:N s.D) z)=st xs z from Rj o xs ([]:N s.D) z]at m;have hc:X c=1:=(Ty.l s).rep.len J;have M:X b=1:=(eS s.rep).len q;obtain⟨c0,rfl⟩:=xcS.1 hc;obtain⟨c1,rfl⟩:=xcS.1 M;obtain rfl:v=c1:=hd;have⟨U,Q⟩:=xaz.1 E;have:cs=j++[v]++a:=by
  have V:(cs.set off (.slice wS 0 0)).set off v=cs:=by rw[List.set_set,<-Q,xde]
  simp_all
 rw[this];exact m
def zd4{t:Ty}{a:Fl t.D}{c:Fl a.f.D}(b:Fl.ok t a)(hc:Fl.ok a.f c):Fl.ok t (a.comp c):=λz=>(b z).comp<|hc<|a.get z
def S4{s:kW}{q:Ty}{n B i:K}{f:Fl q.D}(a:yT P cf.tt)(h:Yo cf s=Z ⟨q,.st n,B⟩)(b:xl n q i=Z f):za9 P s i=Z f.off:=(a _ _ h).2.2.2.2.1 i f b
def zsf{c:KW}{v:V Dv}{k:Dv->V R}(h:eqP c v k=Z r):∃dv b,v=Z dv/\zeR c b k=Z r/\∀(P:uS) vs S w u,(vC P vs dv u).p S w->∃p:V U8,u=.pointer p/\p.isNone=b:=by unfold eqP at h;split at h;exact⟨_,_,O,h,λP vs S w u a=>⟨wS,a,O⟩⟩;exact⟨_,_,O,h,λP vs S w u ⟨b,o,cs,h1,_⟩=>⟨_,h1,O⟩⟩;exact⟨_,_,O,h,λP vs S w u ⟨h1,b,e⟩=>⟨_,h1.trans e,O⟩⟩;exact⟨_,_,O,h,λP vs S w u a=>zqi a⟩;cases h
def zso(a:yT P cf.tt)(h:zkJ cf t=wT):P.underlying t=Z (.pointer<|P.pointee t):=by unfold zkJ at h;split at h;rename_i q E B b;have:=(a _ _ b).2.2.2;have this:P.underlying t=Z (.pointer E):=this;rw[show P.pointee t=E by simp[Program.pointee,this]];exact this;cases h
def zts(i:yT P cf.tt){e:KW}{k:N (K×Dv)->V R}(hp:zkJ cf t=wT)(a:zlj (xA cx σ y)=wT)(h:eqP e (xA cx σ x) (λv=>k [(0,v)])=Z r):
 ∃l,k l=Z r/\ES P ⟨d,.binOp e t x y yt,ty,m7,xS,g⟩ cx σ F l:=by
 have⟨dv,b,j,h,hv⟩:=zsf h;have a:xA cx σ y=Z .np:=by unfold zlj at a;split at a;lia;cases a
 have ht:=zso i hp;have go:∀{H:xj}{w:qR}{S:K->Prop}{vs:K->wW},(∀m∈yO (.binOp e t x y yt),Lk P vs H S w cx σ m)->∃p:V U8,ev H x=.pointer p/\p.isNone=b/\ev H y=.pointer wS:=λhl=>by
  have⟨p,h1,c⟩:=hv P _ _ _ _ (zj j<|yK hl<|by simp[xaB]);exact⟨p,h1,c,zj a<|yK hl<|by simp[xaB]⟩
 cases e<;>simp only[zeR,WR]at h
 case eql=>
  refine⟨[(0,.kb<|decide<|b=wT)],Tx h,zI λH w S vs hl=>⟨.bool b,?_,zu<|by simp[vC,nJ]⟩⟩;have⟨p,h1,c,f⟩:=go hl;simp[uP,h1,f,V5,run_eql_pointer_nil w t p ht,c]
 case neq=>
  refine⟨[(0,.kb (!decide (b=wT)))],kbN h,zI λH w S vs hl=>⟨.bool !b,?_,zu<|by simp[vC,nJ]⟩⟩;have⟨p,h1,c,f⟩:=go hl;simp[uP,h1,f,V5,run_neq_pointer_nil w t p ht,c]
def zrx{k:N (K×Dv)->V R}(h:zol cx σ x k=Z r):∃l,k l=Z r/\ES P ⟨d,.nilCheck x,ty,m7,xS,g⟩ cx σ F l:=by
 have f:∀{H:xj}{a:U8} (w:qR),ev H x=.pointer (Z a)->(uP (ev H) ⟨d,.nilCheck x,ty,m7,xS,g⟩).run P w=.ok (.value<|ev H x) w:=λw h=>by simp[uP,h]
 unfold zol at h;split at h;rename_i s y c;refine⟨_,h,zI λH w S vs hl=> ?_⟩;have h1:=zj c (yK hl<|by simp[xaB]);have⟨b,o,cs,e,_⟩:=h1;exact⟨_,f w e,zu<|zj c<|yK hl<|by simp[xaB]⟩;rename_i o s c;refine⟨_,h,zI λH w S vs hl=> ?_⟩;have⟨h1,b,e⟩:=zj c (yK hl<|by simp[xaB]);exact⟨_,f w<|h1.trans e,zu<|zj c<|yK hl<|by simp[xaB]⟩;rename_i s y c;have⟨y',i,h⟩:=CA h;refine⟨_,h,zI λH w S vs hl=> ?_⟩;have h1:(fV (eO s.rep) y<|ev H x).p S w:=zj c (yK hl<|by simp[xaB]);rw[i]at h1;have e:=ziW h1;have⟨b,o,cs,j,_⟩:=e;exact⟨_,f w j,zu<|ziW h1⟩;cases h
def zk6(q:yT P cf.tt){i:K}{k:N (K×Dv)->V R}(h:zbE cf cx σ t x i k=Z r):∃l,k l=Z r/\ES P ⟨d,.fieldAddr t x i,ty,m7,xS,g⟩ cx σ F l:=by
 have v:∀{vs H S w},(∀A∈yO (.fieldAddr t x i),Lk P vs H S w cx σ A)->Xj P vs H S w cx σ x:=λhl=>yK hl (by simp[xaB]);unfold zbE at h;split at h;rename_i e n B s y ht hc;have⟨a,h⟩:=yq h;subst a;split at h;rename_i f c;exact⟨_,h,uW λH w S vs D hl=>⟨_,_,_,_,[fP s.rep y<|ev H x],[],ziB (e:=s.rep) (z:=y) (S4 q ht c) O (aO c y)<|λS w h=>h.1,jP,⟨zj hc<|v hl,jP⟩,λu w' _ c=>zu c.1⟩⟩;cases h
 rename_i e n B o s ht hc;split at h;rename_i a f _ c;have⟨a⟩:=a;subst a;refine⟨_,h,zI λH w S vs hl=> ?_⟩;have⟨h1,b,p⟩:=zj hc<|v hl;exact⟨_,sV (S4 q ht c) (h1.trans p) w,zu ⟨aO c,b,p,O⟩⟩;cases h
 rename_i e n B o s g ht hc;split at h;rename_i a f _ c;have⟨a⟩:=a;subst a;refine⟨_,h,zI λH w S vs hl=> ?_⟩;have⟨h0,b,h1,p⟩:=zj hc<|v hl;exact⟨_,sV (S4 q ht c) p w,zu ⟨zd4 h0<|aO c,b,h1,by simp only[Fl.comp,xcV]⟩⟩;cases h
 rename_i e n B o s j g ht hc;split at h;rename_i a f _ c;have⟨a⟩:=a;subst a;refine⟨_,h,zI λH w S vs hl=> ?_⟩;have⟨h0,b,m,cap,h1,p,C⟩:=zj hc<|v hl;exact⟨_,sV (S4 q ht c) C w,zu ⟨zd4 h0<|aO c,b,m,cap,h1,p,by simp only[Fl.comp,xcV]⟩⟩;cases h
 cases h
def zpw(U:yT P cf.tt){k:N (K×Dv)->V R}(h:zha cf cx σ t x k=Z r):∃l,k l=Z r/\ES P ⟨d,.load t x,ty,m7,xS,g⟩ cx σ F l:=by
 have C:∀{vs H S w},(∀Y∈yO (.load t x),Lk P vs H S w cx σ Y)->Xj P vs H S w cx σ x:=λhl=>yK hl (by simp[xaB]);unfold zha at h;split at h;rename_i v hj;have⟨Q,hd,_⟩:=YX U hj;unfold znm at h;split at h;rename_i s y hc;have⟨a,h⟩:=yq h;simp only at a;subst a;exact⟨_,h,uW λH w S vs n hl=>⟨_,_,_,_,[fP v.ty.rep y<|ev H x],[],zlf (e:=v.ty.rep) (y:=y) O hd<|λS w h=>h.1,jP,⟨zj hc<|C hl,jP⟩,λu w' _ i=>zu i.1⟩⟩;rename_i o s hc;split at h;rename_i D E z A;have⟨a,h⟩:=yq h;simp only at a;subst a;refine⟨_,h,uW λH w S vs n hl=> ?_⟩;have⟨h1,b,G⟩:=zj hc<|C hl;have⟨J,q,L⟩:(mP v.ty.rep.c E (vs o) z).p S w:=Yb n A;exact⟨_,_,_,_,[],[mB v.ty.rep.c E J z],V7 (z':=z) 0 O (h1.trans q) (Sub.self v.ty.rep z) hd,⟨L,jP⟩,jP,λu w' _ i=>zu i.1⟩;cases h
 rename_i o s f hc;split at h;rename_i D E z A;have⟨M,h⟩:=yq h;subst M;have⟨a,h⟩:=yq h;simp only at a;have⟨off,ff,get,set⟩:=f;simp only at a;subst a;refine⟨_,h,uW λH w S vs n hl=> ?_⟩;have⟨h0,b,h1,G⟩:=zj hc<|C hl;have⟨J,q,L⟩:(mP D.rep.c E (vs o) z).p S w:=Yb n A;rw[h1]at q;cases q;exact⟨_,_,_,_,[],[mB D.rep.c E b z],V7 (z':=get z) 0 O G (by rw[xaD];exact h0 z) hd,⟨L,jP⟩,jP,λu w' _ i=>zu i.1⟩
 cases h
 rename_i o s j f hc;split at h;rename_i D E xs A;have⟨M,h⟩:=yq h;cases M;have⟨y,hy,h⟩:=wK h;have⟨a,h⟩:=yq h;simp only at a;have⟨off,ff,get,set⟩:=f;simp only at a;subst a;refine⟨_,h,uW λH w S vs n hl=> ?_⟩;have⟨h0,b,m,cap,h1,G,q⟩:=zj hc<|C hl;have T:(mO s.rep E (vs o) xs).p S w:=Yb n A;have hg:0<X xs:=by
  have⟨cs,h5,h6⟩:=T;rcases h5.2 with⟨hv,h7⟩|⟨g',B,a0,hv,_⟩
  rw[h1]at hv;cases hv
  rw[h1]at hv;cases hv;lia
 have⟨J,B,hv,hb⟩:=cD T hg;rw[h1]at hv;cases hv;have hi:=(Sub.rowT0 s.rep cap xs j (xs.getD j s.z)<|getD_some s.z G).comp<|h0<|xs.getD j s.z;subst hy;exact⟨_,_,_,_,[],[mB (rowT s.rep cap) E b xs],V7 0 O q hi hd,⟨hb,jP⟩,jP,λu w' _ i=>zu i.1⟩
 cases h
 cases h
 cases h
def zne{α:Type}(xs:N α):xs=(xs.drop 0).take (X xs-0):=rC
def zng{α:Type}(xs:N α)(l:K):xs.drop l=(xs.drop l).take (X xs-l):=(xaW rC).symm
def zjm{i off n:K}{agg:ut}{cs:Z3 wW}{v:wW}(h:zjF P t i=Z (off,agg,n))(b:ev H x=.agg cs)(hv:(if agg=wT then Value.agg (cs.extract off<|off+n)else cs.getD off Z9)=v)(hd:agg=I->off<cs.size)(w:qR):
 (uP (ev H) ⟨d,.field t x i,ty,m7,xS,g⟩).run P w=.ok (.value v) w:=by
 unfold zjF at h;split at h;rename_i fs c;split at h;rename_i f e;split at h;rename_i ag m j z hc;simp only[xav,xcL]at h;have⟨h1,k,l⟩:=h;subst h1;subst k;subst l;have a:=J9.of hc;have hp:(part f.type cs f.offset).run P w=.ok v w:=by
  unfold part;simp only[xay,L6 a,xao]
  cases ag with
  |true=>
   simp only[Z4,xay,wv a,xao,xaV];simp_all
  |false=>
   simp_all
 simp only[uP,b,Instr.field,asAgg,xay,Z0 c,xao,e,xaV,hp];cases h
 cases h
 cases h
def zpr{s:kW}{q:Ty}{n B i:K}{f:Fl q.D}(a:yT P cf.tt)(h:Yo cf s=Z ⟨q,.st n,B⟩)(b:xl n q i=Z f):zjF P s i=Z (f.off,f.f.rep.agg,f.f.n):=(a _ _ h).2.2.2.2.2.2 i f b
def ziJ(j:yT P cf.tt){i:K}{k:N (K×Dv)->V R}(h:OV cf cx σ t x i k=Z r):∃l,k l=Z r/\ES P ⟨d,.field t x i,ty,m7,xS,g⟩ cx σ F l:=by
 have u:∀{vs H S w},(∀v∈yO (.field t x i),Lk P vs H S w cx σ v)->Xj P vs H S w cx σ x:=λhl=>yK hl (by simp[xaB]);unfold OV at h;split at h;rename_i e n B s y ht hi;have⟨z,h⟩:=yq h;subst z;split at h;rename_i f m;refine⟨_,h,zI λH w S vs hl=> ?_⟩;have⟨cs,hv,hp⟩:=zj hi<|u hl;have A:s.rep.agg=wT:=(j _ _ ht).2.2.2.1;have⟨C,c,o,p,h1,q,_⟩:=aO m y S w cs hp;have hc:=f.f.rep.len q;rw[Ty.n_rep]at hc;have hv:ev H x=.agg cs.toArray:=by rw[hv];unfold zT.val;rw[A];rfl
 refine⟨f.f.rep.val c,zjm (zpr j ht m) hv ?_ ?_ w,zu ⟨c,O,q⟩⟩;unfold zT.val
 cases hd:f.f.rep.agg with
 |true=>
  simp_all
 |false=>
  simp only[xaj,Z5];have b:=f.f.rep.n1 hd;rw[Ty.n_rep]at b;obtain⟨a,rfl⟩:∃a,c=[a]:=by
   match c,hc.trans b with
   |[a],_=>exact⟨a,O⟩
  rw[p,<-h1];simp[Array.getD]
 intro hd;have b:=f.f.rep.n1 hd;rw[Ty.n_rep]at b;rw[p];simp;lia;cases h
 cases h
def iR{α:Type}{e:zT α}{E:kW}{v:wW}{xs:N α}{S:K->Prop}{w:qR}(h:(mO e E v xs).p S w):(v=.slice wS 0 0/\xs=[])\/∃b cap,v=.slice (Z ⟨b,0,wS⟩) (X xs) cap/\X xs<=cap/\cap<=9223372036854775807:=by
 have⟨cs,h1,f⟩:=h;rcases h1.2 with⟨rfl,h0⟩|⟨g,cap,a,rfl,hd,i,c,hc,j,k⟩
 simp_all;exact .inr ⟨g,cap,O,c,hc⟩
def NQ{α:Type}{e:zT α}{E:kW}{v:wW}{xs:N α}{S:K->Prop}{w:qR}(h:(mO e E v xs).p S w){b m cap l n c:K}(hv:v=.slice (Z ⟨b,0,wS⟩) m cap)(hl:l+n<=m)(hi:n<=c)(hc:c<=9223372036854775807):
 SlQ e S ((xs.drop l).take n) (.slice (Z ⟨b,0+l*e.n,wS⟩) n c) w:=by
 have⟨cs,h1,f⟩:=h;rcases h1.2 with⟨h0,_⟩|⟨g,a,i,h0,q,j,s,u,z,k⟩
 simp_all;rw[hv]at h0;cases h0;have hd:X ((xs.drop l).take n)=n:=by simp;lia
 refine⟨Z ⟨b,0+l*e.n,wS⟩,c,by rw[hd],W,by unfold QR;lia,.inr ⟨b,0+l*e.n,(cs.drop<|l*e.n).take<|n*e.n,O,?_,(f.drop l).take n⟩⟩;have o:=At.row j;have:=o.take<|X xs*e.n;rw[k]at this;exact(this.drop<|l*e.n).take<|n*e.n
def DR{t:kW}{c:kW}{ag:ut}{e bytes:K}{a:wW}{b o n cap l h:K}{lo hi:V wW}{w:qR}(ht:P.underlying t=Z (.slice c))(f:J9 P c ag e bytes a)
 (hl:lo=Z (.int .i64 (l:J))\/(lo=wS/\l=0)) (i:hi=Z (.int .i64 (h:J))\/(hi=wS/\h=n)) (hc:l<=h) (hd:h<=cap):
 (xcW t (.slice (Z ⟨b,o,wS⟩) n cap) lo hi wS).run P w=.ok (.slice (if cap=l then Z ⟨b,o,wS⟩else(Z (⟨b,o,wS⟩:U8)).map (·.add (l*e))) (h-l)<|cap-l) w:=by
 have b1:(0:J)<=(l:J)/\(l:J)<=(h:J):=W
 have b2:(0:J)<=(h:J)/\(h:J)<=(cap:J):=W
 unfold xcW;unfold xfS;simp only[xay,Z0 ht,xao];unfold xet
 obtain rfl|⟨rfl,rfl⟩:=hl<;>obtain rfl|⟨rfl,rfl⟩:=i<;>
  simp only[xeH,Us,xay,xaV,xao,Q b1,Q b2,wv f,xba]
def NP{t:kW}{b:kW}{ag:ut}{c bytes:K}{a:wW}{lo hi:V wW}{w:qR}(ht:P.underlying t=Z (.slice b))(e:J9 P b ag c bytes a)
 (hl:lo=Z (.int .i64 ((0:K):J))\/lo=wS) (f:hi=Z (.int .i64 ((0:K):J))\/hi=wS):
 (xcW t (.slice wS 0 0) lo hi wS).run P w=.ok (.slice wS 0 0) w:=by
 unfold xcW;unfold xfS;simp only[xay,Z0 ht,xao];unfold xet
 obtain rfl|rfl:=hl<;>obtain rfl|rfl:=f<;>
  simp[xeH,Us,wv e]
def OZ{m:K}{lo hi:V K}{k:K->K->V R}(h:zlh m lo hi k=Z r):∃l a,l<=a/\a<=m/\k l (a-l)=Z r/\(lo=Z l\/(lo=wS/\l=0))/\(hi=Z a\/(hi=wS/\a=m)):=by
 unfold zlh at h;split at h
 next a=>have⟨h1,b⟩:=ZW h;exact⟨0,a,xaf _,h1,b,.inr ⟨O,O⟩,.inl O⟩
 next l=>have⟨h1,b⟩:=ZW h;exact⟨l,m,h1,Nm _,b,.inl O,.inr ⟨O,O⟩⟩
 next l a=>have⟨h1,b⟩:=ZW h;exact⟨l,a,h1.1,h1.2,b,.inl O,.inl O⟩
 exact⟨0,m,xaf _,Nm _,h,.inr ⟨O,O⟩,.inr ⟨O,O⟩⟩
def zbc{t:kW}{s:WS}{l h:K}{lo hi:V wW}{w:qR}(ht:P.underlying t=Z .string)
 (hl:lo=Z (.int .i64 (l:J))\/(lo=wS/\l=0)) (a:hi=Z (.int .i64 (h:J))\/(hi=wS/\h=s.size)) (b:l<=h) (hc:h<=s.size):
 (xcW t (.string s) lo hi wS).run P w=.ok (.string<|s.extract l h) w:=by
 have b1:(0:J)<=(l:J)/\(l:J)<=(h:J):=W
 have b2:(0:J)<=(h:J)/\(h:J)<=(s.size:J):=W
 unfold xcW;unfold xfS;simp only[xay,Z0 ht,xao];unfold xet
 obtain rfl|⟨rfl,rfl⟩:=hl<;>obtain rfl|⟨rfl,rfl⟩:=a<;>
  simp[xeH,Us,b,hc]
def Ff(s:WS)(l h:K):xU (s.extract l h)=((xU s).drop l).take (h-l):=by simp_all [xU]
def zkG(Y:yT P cf.tt)(hL:uf P cf.tt){lo hi:V ul}{k:N (K×Dv)->V R}(h:zaU cf cx σ t x lo hi k=Z r):∃l,k l=Z r/\ES P ⟨d,.slice t x lo hi wS,ty,m7,xS,g⟩ cx σ F l:=by
 have hx:∀{vs H S w},(∀G∈yO (.slice t x lo hi wS),Lk P vs H S w cx σ G)->Xj P vs H S w cx σ x:=λhl=>yK hl (by simp[xaB]);have hd:∀{vs H S w z},lo=Z z->(∀G∈yO (.slice t x lo hi wS),Lk P vs H S w cx σ G)->Xj P vs H S w cx σ z:=λe hl=>yK hl (by simp[xaB,e]);have he:∀{vs H S w z},hi=Z z->(∀G∈yO (.slice t x lo hi wS),Lk P vs H S w cx σ G)->Xj P vs H S w cx σ z:=λe hl=>yK hl (by simp[xaB,e]);unfold zaU at h;split at h;rename_i e E B s xs ht hg;have⟨hn,h⟩:=yq h;cases hn;have⟨bytes,a0,hm⟩:=UI Y hL ht
 have A:∀{l m:K}{zs:N e.D},l<=m->m<=xaK xs->zs=(xdN l xs).take (m-l)->(∀vs H S w,(∀G∈yO (.slice t x lo hi wS),Lk P vs H S w cx σ G)->((lo.map<|ev H)=Z (.int .i64 (l:J))\/(lo=wS/\l=0))/\((hi.map<|ev H)=Z (.int .i64 (m:J))\/(hi=wS/\m=xaK xs)))->
  k [(0,.d (.l e) zs)]=Z r->∃l,k l=Z r/\ES P ⟨d,.slice t x lo hi wS,ty,m7,xS,g⟩ cx σ F l:=by
  intro l m zs h1 a i j C;subst i;refine⟨_,C,uW λH w S vs hM hl=> ?_⟩;have⟨h6,U⟩:=j vs H S w hl;exact⟨_,_,_,_,[fV (eS e.rep) xs<|ev H x],[],Tb (e:=e.rep) (xs:=xs) (l:=l) (h:=m) O (qB Y ht) hm h6 U h1 a<|λS w h=>h.1,jP,⟨zj hg<|hx hl,jP⟩,λu w' _ hf=>zu hf.1⟩
 rcases cJ h with⟨e1,h1⟩|⟨zl,l,e1,h1,hc⟩
 rcases cJ h1 with⟨f,a⟩|⟨zh,m,f,a,L⟩
 exact A (l:=0) (m:=xaK xs) (xaf _) (Nm _) (zne (α:=e.D) xs) (λvs H S w hl=>⟨.inr ⟨e1,O⟩,.inr ⟨f,O⟩⟩) a;have⟨i,j⟩:=ZW a;have⟨zs,M,C⟩:=wK j;exact A (l:=0) (m:=m) (xaf _) i M (λvs H S w hl=>⟨.inr ⟨e1,O⟩,.inl<|by rw[f];exact Z2 Z<|L P vs H S w<|he f hl⟩) C;rcases cJ h1 with⟨f,a⟩|⟨zh,m,f,a,L⟩
 have⟨i,j⟩:=ZW a;have⟨zs,M,C⟩:=wK j;exact A (l:=l) (m:=xaK xs) i (Nm _) (M.trans<|zng (α:=e.D) xs l) (λvs H S w hl=>⟨.inl (by rw[e1];exact Z2 Z<|hc P vs H S w<|hd e1 hl),.inr ⟨f,O⟩⟩) C;have⟨i,j⟩:=ZW a;have⟨zs,M,C⟩:=wK j;exact A (l:=l) (m:=m) i.1 i.2 M (λvs H S w hl=>⟨.inl (by rw[e1];exact Z2 Z<|hc P vs H S w<|hd e1 hl),.inl<|by rw[f];exact Z2 Z<|L P vs H S w<|he f hl⟩) C;rename_i e E B o ht hg;split at h;rename_i s E' xs ho;have⟨hn,h⟩:=yq h;cases hn;have⟨bytes,a0,hm⟩:=UI Y hL ht
 have T:∀(l m:K),l<=m->m<=xaK xs->k [(0,.sv o e l<|m-l)]=Z r->(∀vs H S w,(∀G∈yO (.slice t x lo hi wS),Lk P vs H S w cx σ G)->((lo.map<|ev H)=Z (.int .i64 (l:J))\/(lo=wS/\l=0))/\((hi.map<|ev H)=Z (.int .i64 (m:J))\/(hi=wS/\m=xaK xs)))->
  ∃l,k l=Z r/\ES P ⟨d,.slice t x lo hi wS,ty,m7,xS,g⟩ cx σ F l:=by
  intro l m h1 a C j;refine⟨_,C,λH w S vs hS hM hl=> ?_⟩;have⟨h6,U⟩:=j vs H S w hl;have hp:ev H x=vs o:=zj hg<|hx hl;rcases iR (show(mO e.rep E' (vs o) xs).p S w from Yb hM ho)with⟨hv,hj⟩|⟨b,cap,hv,hu,hy⟩
  refine(Tb (e:=e.rep) (xs:=([]:N e.D)) (l:=l) (h:=m) O (qB Y ht) hm h6 (by rw[hj]at U;exact U) h1 (by rw[hj]at a;exact a) (Γ:=[fV (eS e.rep) ([]:N e.D)<|ev H x]) (λS w h=>h.1) (ms:=[]) w S hS jP ⟨?_,jP⟩).mono ?_;rw[hp,hv];exact wg.2 ⟨wS,0,O,Nm _,xaf _,.inl O⟩;rintro v w' ⟨u,rfl,_,hw,hf⟩;refine⟨hw,zu (.inr ?_)⟩;have hA:m=0:=by rw[hj]at a;exact Nat.le_zero.1 a
  have⟨ao,c,q1,q2,q3,_⟩:=wg.1 hf.1;refine⟨W,ao,c,by unfold QR at q3;lia,?_⟩;rw[q1];simp;have hr:=DR (P:=P) (b:=b) (o:=0) (n:=xaK xs) (cap:=cap) (w:=w) (l:=l) (h:=m) (qB Y ht) hm (h6.imp id λq=>⟨by rw[q.1];rfl,q.2⟩) (U.imp id λq=>⟨by rw[q.1];rfl,q.2⟩) h1<|xal a hu;rw[<-hv,<-hp]at hr;refine ux.of_value (v:=.slice (if cap=l then Z ⟨b,0,wS⟩else Z ((⟨b,0,wS⟩:U8).add<|l*e.rep.n)) (m-l)<|cap-l) (w':=w) (by simp[uP,hr]) ⟨yJ.refl _ _,zu ?_⟩;by_cases hq:cap=l;rw[Q hq];refine .inr ⟨W,Z ⟨b,0,wS⟩,cap-l,W,?_⟩;rw[(W:m-l=0)];rw[ir hq];exact .inl ⟨b,xaK xs,cap,cap-l,hv,W,W,W,by rw[jl]⟩
 rcases cJ h with⟨e1,h1⟩|⟨zl,l,e1,h1,hc⟩
 rcases cJ h1 with⟨f,a⟩|⟨zh,m,f,a,L⟩
 exact T 0 (xaK xs) (xaf _) (Nm _) a<|λvs H S w hl=>⟨.inr ⟨e1,O⟩,.inr ⟨f,O⟩⟩;have⟨i,j⟩:=ZW a;exact T 0 m (xaf _) i j<|λvs H S w hl=>⟨.inr ⟨e1,O⟩,.inl<|by rw[f];exact Z2 Z<|L P vs H S w<|he f hl⟩;rcases cJ h1 with⟨f,a⟩|⟨zh,m,f,a,L⟩
 have⟨i,j⟩:=ZW a;exact T l (xaK xs) i (Nm _) j<|λvs H S w hl=>⟨.inl (by rw[e1];exact Z2 Z<|hc P vs H S w<|hd e1 hl),.inr ⟨f,O⟩⟩;have⟨i,j⟩:=ZW a;exact T l m i.1 i.2 j<|λvs H S w hl=>⟨.inl (by rw[e1];exact Z2 Z<|hc P vs H S w<|hd e1 hl),.inl<|by rw[f];exact Z2 Z<|L P vs H S w<|he f hl⟩;cases h
 rename_i q B xs ht hg
 have A:∀{l m:K}{zs:N K},l<=m->m<=xaK xs->zs=(xdN l xs).take (m-l)->(∀vs H S w,(∀G∈yO (.slice t x lo hi wS),Lk P vs H S w cx σ G)->((lo.map<|ev H)=Z (.int .i64 (l:J))\/(lo=wS/\l=0))/\((hi.map<|ev H)=Z (.int .i64 (m:J))\/(hi=wS/\m=xaK xs)))->
  k [(0,.d .tx zs)]=Z r->∃l,k l=Z r/\ES P ⟨d,.slice t x lo hi wS,ty,m7,xS,g⟩ cx σ F l:=by
  intro l m zs h1 a i j C;refine⟨_,C,zI λH w S vs hl=> ?_⟩;have⟨h6,U⟩:=j vs H S w hl;have⟨s,e1,f,e3⟩:=zdi<|zj hg<|hx hl;have hk:X (xU s)=s.size:=kL s;rw[f]at hk;have hr:=zbc (P:=P) (s:=s) (l:=l) (h:=m) (w:=w) (O3 Y ht) (h6.imp id λq=>⟨by rw[q.1];rfl,q.2⟩) (U.imp id λq=>⟨by rw[q.1];rfl,by rw[q.2];exact hk⟩) h1 (by rw[<-hk];exact a);rw[<-e1]at hr;refine⟨.string<|s.extract l m,by simp[uP,hr],zu<|zdA (by rw[Ff,f,i]) ?_⟩;rw[<-kL,Ff,f];have a:m<=xaK (α:=K) xs:=a;rw[xas];lia
 rcases cJ h with⟨e1,h1⟩|⟨zl,l,e1,h1,hc⟩
 rcases cJ h1 with⟨f,a⟩|⟨zh,m,f,a,L⟩
 exact A (l:=0) (m:=xaK (α:=K) xs) (xaf _) (Nm _) (zne (α:=K) xs) (λvs H S w hl=>⟨.inr ⟨e1,O⟩,.inr ⟨f,O⟩⟩) a;have⟨i,j⟩:=ZW a;have⟨zs,M,C⟩:=wK j;exact A (l:=0) (m:=m) (xaf _) i M (λvs H S w hl=>⟨.inr ⟨e1,O⟩,.inl<|by rw[f];exact Z2 Z<|L P vs H S w<|he f hl⟩) C;rcases cJ h1 with⟨f,a⟩|⟨zh,m,f,a,L⟩
 have⟨i,j⟩:=ZW a;have⟨zs,M,C⟩:=wK j;exact A (l:=l) (m:=xaK (α:=K) xs) i (Nm _) (M.trans<|zng (α:=K) xs l) (λvs H S w hl=>⟨.inl (by rw[e1];exact Z2 Z<|hc P vs H S w<|hd e1 hl),.inr ⟨f,O⟩⟩) C;have⟨i,j⟩:=ZW a;have⟨zs,M,C⟩:=wK j;exact A (l:=l) (m:=m) i.1 i.2 M (λvs H S w hl=>⟨.inl (by rw[e1];exact Z2 Z<|hc P vs H S w<|hd e1 hl),.inl<|by rw[f];exact Z2 Z<|L P vs H S w<|he f hl⟩) C;cases h
def zr2(f:yT P cf.tt){k:N (K×Dv)->V R}(h:zpe cf cx σ t x y k=Z r):∃l,k l=Z r/\ES P ⟨d,.index t x y,ty,m7,xS,g⟩ cx σ F l:=by
 have i:∀{vs H S w},(∀a∈yO (.index t x y),Lk P vs H S w cx σ a)->Xj P vs H S w cx σ x:=λhl=>yK hl (by simp[xaB]);have m:∀{vs H S w},(∀a∈yO (.index t x y),Lk P vs H S w cx σ a)->Xj P vs H S w cx σ y:=λhl=>yK hl (by simp[xaB]);unfold zpe at h;split at h;rename_i q B xs ht n;have⟨j,o,h,hi⟩:=Ss h;have⟨z,p,h⟩:=wK h;refine⟨_,h,zI λH w S vs hl=> ?_⟩;have⟨s,e1,c,_⟩:=zdi<|zj n<|i hl;have⟨ik,u⟩:=hi P vs H S w<|m hl;have e:X (xU s)=s.size:=kL s;have hc:j<s.size:=by rw[<-e,c];exact o
 have hd:z=(s[j]'hc).toNat:=by rw[p,<-c];unfold xU;rw[UV,xci,xaa<|by rw[<-e]at hc;simpa[xU]using hc];rfl
 have b:=run_index_string (P:=P) w t s ik (j:J)<|O3 f ht;rw[dif_pos ⟨W,W⟩]at b;refine⟨.int .u8 (z:J),?_,zu<|LL<|by rw[hd];exact UInt8.toNat_lt _⟩;simp only[xba]at b;rw[hd];simp[uP,e1,u,b];cases h
def zq6{E:kW}{k:N (K×Dv)->V R}(h:zqn cf cx σ E x k=Z r):∃l,k l=Z r/\ES P ⟨d,.box E x,ty,m7,xS,g⟩ cx σ F l:=by unfold zqn at h;split at h;rename_i a e;have⟨y,h,b⟩:=QM h;exact⟨_,h,uW λH w S vs f hl=>⟨_,_,_,_,[fV a.ty.rep y<|ev H x],[],zpv O<|λS w h=>h.1,jP,⟨b P vs H S w (yK hl<|by simp[xaB]),jP⟩,λu w' _ c=>zu c.1⟩⟩;cases h
def zrJ(j:yT P cf.tt){a:Z3 ul}{ts:Z3 kW}{k:N (K×Dv)->V R}(h:zp4 cf cx σ a.toList ts.toList k=Z r):
 ∃l,k l=Z r/\ES P ⟨d,.call ⟨.builtin .len,a,ts⟩,ty,m7,xS,g⟩ cx σ F l:=by
 unfold zp4 at h;split at h;rename_i _ _ x t hd C;obtain rfl:a= #[x]:=by cases a;simp_all
 obtain rfl:ts= #[t]:=by cases ts;simp_all
 have f:∀{vs H S w},(∀n∈yO (.call ⟨.builtin .len,#[x],#[t]⟩),Lk P vs H S w cx σ n)->Xj P vs H S w cx σ x:=λhl=>yK hl (by simp[xaB,xeE]);split at h;rename_i e E B ht;have c:=qB j ht;split at h
 next b=>exact⟨_,h,zI λH w S vs hl=>⟨_,Rq c (zj b<|f hl) w,zu<|w9 rx⟩⟩
 rename_i s xs b;exact⟨_,h,uW λH w S vs m hl=>⟨_,_,_,_,[fV (eS s.rep) xs<|ev H x],[],zp3 (e:=s.rep) (xs:=xs) c O<|λS w h=>h.1,jP,⟨zj b<|f hl,jP⟩,λu w' i p=>zu<|w9<|PT i⟩⟩;rename_i o b;split at h;rename_i s v xs z;exact⟨_,h,uW λH w S vs m hl=>⟨_,_,_,_,[],[mO s.rep v (vs o) xs],NU 0 O c<|zj b<|f hl,⟨Yb m z,jP⟩,jP,λu w' i p=>zu<|w9<|PT i⟩⟩;cases h
 cases h
 rename_i q B ht;have c:=O3 j ht;split at h;rename_i xs b;refine⟨_,h,zI λH w S vs hl=> ?_⟩;have⟨s,e1,A,D⟩:=zdi<|zj b<|f hl;have hc:X (xU s)=s.size:=kL s;rw[A]at hc;have hc:xaK (α:=K) xs=s.size:=hc;refine⟨.int .i64 ((xaK (α:=K) xs:K):J),?_,zu<|w9 W⟩;rw[hc];simp[uP,WN,V1,UT,e1,Builtin.len_,mS,Z0 c];cases h
 cases h
 cases h
def zrD{b:ut}{e:Z3 ul}{ts:Z3 kW}{k:N (K×Dv)->V R}(h:eMM cx b σ e.toList k=Z r):
 ∃l,k l=Z r/\ES P ⟨d,.call ⟨.builtin (if b=wT then .max else .min),e,ts⟩,ty,m7,xS,g⟩ cx σ F l:=by
 unfold eMM at h;split at h;rename_i _ x y hd;obtain rfl:e= #[x,y]:=by cases e;simp_all
 have i:∀{bl vs H S w},(∀n∈yO (.call ⟨.builtin bl,#[x,y],ts⟩),Lk P vs H S w cx σ n)->Xj P vs H S w cx σ x:=λhl=>yK hl (by simp[xaB,xeE]);have j:∀{bl vs H S w},(∀n∈yO (.call ⟨.builtin bl,#[x,y],ts⟩),Lk P vs H S w cx σ n)->Xj P vs H S w cx σ y:=λhl=>yK hl (by simp[xaB,xeE]);split at h;rename_i a c m hc;cases b
 have h:B (min (α:=J) a c) (λz=>k [(0,zpX z)])=Z r:=h;have⟨z,f,h⟩:=wK h;exact⟨_,h,zI λH w S vs hl=>⟨_,v_i (zrL (va m<|i hl).1 (va hc<|j hl).1) f w,zu<|w9<|zjG f<|zsK (va m<|i hl).2 (va hc<|j hl).2⟩⟩;have h:B (max (α:=J) a c) (λz=>k [(0,zpX z)])=Z r:=h;have⟨z,f,h⟩:=wK h;exact⟨_,h,zI λH w S vs hl=>⟨_,v_i (zsA (va m<|i hl).1 (va hc<|j hl).1) f w,zu<|w9<|zjG f<|zr7 (va m<|i hl).2 (va hc<|j hl).2⟩⟩;cases h
 cases h
def PH(S:K->Prop)(w:qR):(ts:N Ty)->rm ts->N (K×wW)->Prop
 |[],_,[]=>Wr
 |t::ts,y,(_,v)::r=>(fV t.rep y.1 v).p S w/\PH S w ts y.2 r
 |_,_,_=>UP
def PH.keep{S:K->Prop}{w w':qR}(k:yJ S w w'):∀{ts:N Ty}{ys:rm ts}{ps:N (K×wW)},PH S w ts ys ps->PH S w' ts ys ps
 |[],_,[],h=>trivial
 |t::_,y,(_,v)::_,h=>⟨(fV t.rep y.1 v).keep h.1 k,PH.keep k h.2⟩
 |[],_,_::_,h=>h.elim
 |_::_,_,[],h=>h.elim
def PH.sub{S a:K->Prop}{w:qR}(k:∀k,k<w.heap.size->S k->a k):∀{ts:N Ty}{ys:rm ts}{ps:N (K×wW)},PH S w ts ys ps->PH a w ts ys ps
 |[],_,[],h=>trivial
 |t::_,y,(_,v)::_,h=>⟨(fV t.rep y.1 v).sub h.1 k,PH.sub k h.2⟩
 |[],_,_::_,h=>h.elim
 |_::_,_,[],h=>h.elim
def phF(ts:N Ty)(ys:rm ts)(ps:N (K×wW)):FF:=⟨λS w=>PH S w ts ys ps,λh k=>PH.keep k h,λh k=>PH.sub k h⟩
def sx:∀{ts:N Ty}{ps:N (K×ul)}{j:K}{k:rm ts->V R},parts cx σ ts ps j k=Z r->
 ∃ys,k ys=Z r/\ps.map (·.1)=xfv j (X ps)/\∀(P:uS) vs H S w,(∀x∈ps.map (·.2),Xj P vs H S w cx σ x)->PH S w ts ys (ps.map λq:K×ul=>(q.1,ev H q.2))
 |[],[],j,k,h=>⟨(),h,O,λ_ _ _ _ _ _=>jP⟩
 |t::ts,(i,x)::ps,j,k,h=>by
  have⟨a,h⟩:=yf h;have⟨y,h,b⟩:=QM h;have⟨ys,h1,c,e⟩:=sx h;refine⟨(y,ys),h1,?_,λP vs H S w hl=>⟨b P vs H S w<|hl x<|IR,e P vs H S w λz f=>hl z<|FS _ f⟩⟩;simp only[xbP,xaw,List.range'_succ,c,yb a]
 |[],_::_,j,k,h=>by simp[parts]at h
 |_::_,[],j,k,h=>by simp[parts]at h
def znN{i:K}{v:wW}:jD [(i,v)]=v.cells.toList:=by simp[jD]
def zt4{k:K}{s t:Ty}:xl (k+2) (.p s t) 0=Z ⟨0,s,λz=>z.1,λy z=>(y,z.2)⟩:=O
def ztD{k:K}{s t:Ty}{i:K}{f:Fl t.D}(h:xl (k+1) t i=Z f):xl (k+2) (.p s t) (i+1)=Z ⟨s.n+f.off,f.f,λz=>f.get z.2,λy z=>(z.1,f.set y z.2)⟩:=by simp only[xl,h]
def zgX{pl:Z3 (K×K)}:∀{k:K}{t:Ty}{o j:K}{ys:rm (zex k t)}{ps:N (K×wW)}{z:t.D},(∀i f,xl k t i=Z f->pl[j+i]? =Z (o+f.off,f.f.n))->
 ps.map (·.1)=xfv j (X ps)->PH S w (zex k t) ys ps->ib k t ys=Z z->c8 (pl[·]?) ps o/\t.rep.p S z (jD ps) w
 |0,_,_,_,_,_,_,_,_,_,h=>by simp[ib]at h
 |1,t,o,j,ys,[],z,hp,hi,h,c=>h.elim
 |1,t,o,j,ys,[(i,v)],z,hp,hi,h,c=>by
  simp only[ib,xav]at c;subst c;have q:i=j:=by simpa using hi
  subst q;have h0:=hp 0 (Fl.self t) O;have e:=zdZ h.1;rw[t.n_rep]at e;refine⟨⟨?_,jP⟩,by rw[znN];exact Yp h.1⟩;show pl[i]? =_;rw[e];simpa[Fl.self]using h0
 |1,t,o,j,ys,_::_::_,z,hp,hi,h,c=>h.2.elim
 |k+2,.p s t,o,j,ys,[],z,hp,hi,h,c=>h.elim
 |k+2,.p s t,o,j,ys,(i,v)::ps,z,hp,hi,h,c=>by
  unfold ib at c;split at c;rename_i y A
  obtain rfl:=xfT c;simp only[xbP,xaw,List.range'_succ,xdV]at hi;obtain⟨rfl,hi⟩:=hi;have h0:=hp 0 _ zt4;have e:=zdZ h.1;rw[s.n_rep]at e;have⟨h1,B⟩:=zgX (o:=o+s.n) (j:=i+1) (pl:=pl) (λm f C=>by
   have:=hp (m+1) _<|ztD C;rw[(W:i+1+m=i+(m+1)),this];simp only[xcV]) hi h.2 A
  refine⟨⟨?_,by rw[e];exact h1⟩,?_⟩;show pl[i]? =_;rw[e];simpa using h0;rw[ze4];exact⟨_,_,O,Yp h.1,B⟩;cases c
 |k+2,.i,_,_,_,_,_,_,_,_,h=>by simp[ib]at h
 |k+2,.u,_,_,_,_,_,_,_,_,h=>by simp[ib]at h
 |k+2,.b,_,_,_,_,_,_,_,_,h=>by simp[ib]at h
 |k+2,.l _,_,_,_,_,_,_,_,_,h=>by simp[ib]at h
 |k+2,.a _ _,_,_,_,_,_,_,_,_,h=>by simp[ib]at h
def HB(S:K->Prop)(w:qR)(n:K)(t:Ty):N (K×wW)->t.D->t.D->Prop
 |[],z,z'=>z=z'
 |(i,v)::r,z,z'=>∃(f:Fl t.D) (y:f.f.D),xl n t i=Z f/\(fV f.f.rep y v).p S w/\HB S w n t r (f.set y z) z'
def HB.keep{S:K->Prop}{w w':qR}(k:yJ S w w'){n:K}{t:Ty}:∀{vs:N (K×wW)}{z z':t.D},HB S w n t vs z z'->HB S w' n t vs z z'
 |[],_,_,h=>h
 |_::_,_,_,⟨f,y,h1,a,b⟩=>⟨f,y,h1,(fV f.f.rep y _).keep a k,HB.keep k b⟩
def HB.sub{S a:K->Prop}{w:qR}(k:∀k,k<w.heap.size->S k->a k){n:K}{t:Ty}:∀{vs:N (K×wW)}{z z':t.D},HB S w n t vs z z'->HB a w n t vs z z'
 |[],_,_,h=>h
 |_::_,_,_,⟨f,y,h1,b,c⟩=>⟨f,y,h1,(fV f.f.rep y _).sub b k,HB.sub k c⟩
def hbF(n:K)(t:Ty)(vs:N (K×wW))(z z':t.D):FF:=⟨λS w=>HB S w n t vs z z',λh k=>HB.keep k h,λh k=>HB.sub k h⟩
def HB.fill{S:K->Prop}{w:qR}{n:K}{t:Ty}{pl:Z3 (K×K)}(hp:∀i f,xl n t i=Z f->pl[i]? =Z (f.off,f.f.n)):∀{vs:N (K×wW)}{z z':t.D}{cs:N wW},HB S w n t vs z z'->t.rep.p S z cs w->
 ∃out,xdJ (pl[·]?) cs.toArray vs=Z out.toArray/\t.rep.p S z' out w/\∀j g,xl n t j=Z g->(∀p∈vs,p.1≠j)->g.f.n=1->out[g.off]? =cs[g.off]?
 |[],z,z',cs,h,hc=>⟨cs,O,h▸hc,λ_ _ _ _ _=>O⟩
 |(i,v)::r,z,z',cs,⟨f,y,h1,a,o⟩,hc=>by
  have⟨q,c,b,e1,s,e,u⟩:=aO h1 z S w cs hc;have hv:=Yp a;have k:=zdZ a;have⟨out,A,B,C⟩:=HB.fill hp o<|u w y v.cells.toList (yJ.refl _ _) hv;refine⟨out,?_,B,λj g l m E=> ?_⟩;rw[e1,zeN (by rw[hp i f h1,k,f.f.n_rep]) s<|by rw[f.f.rep.len e,k]];exact A;rw[C j g l (λp hp=>m p<|FS _ hp) E,e1];have⟨_,_,hd⟩:=EW h1 l<|m (i,v)<|IR;have l1:X c=f.f.n:=by rw[f.f.rep.len e,f.f.n_rep]
  have G:X v.cells.toList=f.f.n:=by rw[f.f.rep.len hv,f.f.n_rep]
  obtain hd|hd:=hd
  rw[xar,xar,xaZ W,xaZ W];rw[xbl (by rw[xau];lia),xbl (by rw[xau];lia),xau,xau,l1,G]
def zbt{n:K}{t:Ty}:∀{ps:N (K×ul)}{z:t.D}{k:t.D->V R},zjf cx σ n t ps z k=Z r->
 ∃z',k z'=Z r/\∀(P:uS) vs H S w,(∀x∈ps.map (·.2),Xj P vs H S w cx σ x)->HB S w n t (ps.map λq:K×ul=>(q.1,ev H q.2)) z z'
 |[],z,k,h=>⟨z,h,λ_ _ _ _ _ _=>O⟩
 |(i,x)::ps,z,k,h=>by
  unfold zjf at h;split at h;rename_i f a;have⟨y,h,b⟩:=QM h;have⟨z',h1,c⟩:=zbt h;exact⟨z',h1,λP vs H S w hl=>⟨f,y,a,b P vs H S w<|hl x<|IR,c P vs H S w λz e=>hl z<|FS _ e⟩⟩;cases h
def nL:∀(n:K) (t:Ty) (ys:rm (H7 n t)),X (GL n t ys)=n
 |0,_,_=>rfl
 |n+1,t,ys=>Z2 (· +1)<|nL n t ys.2
theorem PA{t:Ty}:∀{n j:K}{ys:rm (H7 n t)}{ps:N (K×wW)},ps.map (·.1)=xfv j (X ps)->PH S w (H7 n t) ys ps->
 c8 (λi=>Z (i*t.rep.n,t.rep.n)) ps (j*t.rep.n)/\yQ t.rep S (GL n t ys) (jD ps) w
 |0,_,_,[],_,_=>⟨jP,O⟩
 |0,_,_,_::_,_,h=>h.elim
 |n+1,_,_,[],_,h=>h.elim
 |n+1,j,ys,(i,v)::ps,hi,h=>by
  simp only[xbP,xaw,List.range'_succ,xdV]at hi;obtain⟨rfl,hi⟩:=hi;have a:=zdZ h.1;have⟨h1,b⟩:=PA hi h.2;refine⟨⟨by rw[a],?_⟩,?_⟩;grind;skip;exact⟨_,_,O,Yp h.1,b⟩
def zl7(c:yT P cf.tt){ps:Z3 (K×ul)}{k:N (K×Dv)->V R}(h:zbf cf cx σ t ps.toList k=Z r):∃l,k l=Z r/\ES P ⟨d,.build t ps,ty,m7,xS,g⟩ cx σ F l:=by
 unfold zbf at h;split at h;rename_i e n B ht;have⟨m,hd,A,D⟩:=YX c ht;have⟨p,_,⟨fs,Q,pl,T,G⟩,_⟩:=(c _ _ ht).2.2.2;simp only at hd A D p G;cases hc:xda (X ps.toList) n||xah n 0<;>rw[hc]at h
 have⟨ys,h,hi,hp⟩:=sx h;split at h;rename_i z Y;refine⟨_,h,uW λH w S vs U hl=> ?_⟩;have J:=hp P vs H S w λx s=>yK hl (by simpa[xaB]using s);have L:(ps.toList.map λq:K×ul=>(q.1,ev H q.2)).map (·.1)=xfv 0 (X (ps.toList.map λq:K×ul=>(q.1,ev H q.2))):=by rw[xcE,xan];exact hi
 have v:=λ(S:K->Prop) (w:qR) (h:PH S w (zex n e) ys (ps.toList.map λq:K×ul=>(q.1,ev H q.2)))=>zgX (pl:=pl) (o:=0) (j:=0) (λi f b=>by rw[xaD,xaD];exact G i f b) L h Y;exact⟨_,_,_,_,[phF _ ys (ps.toList.map λq:K×ul=>(q.1,ev H q.2))],[],RB (e:=e.rep) (z:=z) (parts:=ps.toList) (p▸hd) p A O (.inl ⟨fs,Q,pl,T,λS w h=>(v S w h.1).1⟩)<|λS w h=>(v S w h.1).2,jP,⟨J,jP⟩,λu w' _ b=>zu b.1⟩;cases h
 have⟨z,h,hH⟩:=zbt h;refine⟨_,h,uW λH w S vs U hl=> ?_⟩;have hb:=hH P vs H S w λx s=>yK hl (by simpa[xaB]using s);exact⟨_,_,_,_,[hbF n e (ps.toList.map λq:K×ul=>(q.1,ev H q.2)) e.z z],[],LF (e:=e.rep) (z0:=e.z) (z:=z) (parts:=ps.toList) (p▸hd) p D ⟨fs,Q,T⟩ O (λ_=>Wr) (λS w h cs _ hc=>by have⟨out,q1,q2,_⟩:=HB.fill G h.1 hc;exact⟨out,q1,q2,jP⟩),jP,⟨hb,jP⟩,λu w' _ b=>zu b.1⟩;rename_i n e C E B ht;have⟨M,h⟩:=yf h;rw[xae]at M;have hn:=yb M.1;subst hn;have⟨b2,z2,hv⟩:=ziL c M.2;have⟨ys,h,hi,hp⟩:=sx h;have⟨m,hd,A,D⟩:=YX c ht;refine⟨_,h,uW λH w S vs U hl=> ?_⟩;have J:=hp P vs H S w λx s=>yK hl (by simpa[xaB]using s);have L:(ps.toList.map λq:K×ul=>(q.1,ev H q.2)).map (·.1)=xfv 0 (X (ps.toList.map λq:K×ul=>(q.1,ev H q.2))):=by rw[xcE,xan];exact hi
 have v:=λ(S:K->Prop) (w:qR) (h:PH S w (H7 C e) ys (ps.toList.map λq:K×ul=>(q.1,ev H q.2)))=>PA L h;exact⟨_,_,_,_,[phF _ ys (ps.toList.map λq:K×ul=>(q.1,ev H q.2))],[],RB (e:=(Ty.a C e).rep) (z:=GL C e ys) (parts:=ps.toList) hd O A O (.inr ⟨_,_,_,_,_,_,zjY c ht,hv,λS w h=>by have:=(v S w h.1).1;rwa[xcC]at this⟩)<|λS w h=>⟨nL C e ys,(v S w h.1).2⟩,jP,⟨J,jP⟩,λu w' _ b=>zu b.1⟩;cases h
def zhF{s E:kW}{e:Ty}{B:K}(a:yT P cf.tt)(b:uf P cf.tt)(h:Yo cf s=Z ⟨.l e,.sl E,B⟩):0<e.rep.n:=by obtain⟨c,h1,rfl⟩:=b _ _ _ _ h;exact(a _ _ h1).2.2.1
def zrZ(b:yT P cf.tt)(c:uf P cf.tt){n:K}{ps:Z3 (K×ul)}{k:N (K×Dv)->V R}(h:zn7 cf cx σ t n ps.toList k=Z r):∃l,k l=Z r/\ES P ⟨d,.buildSlice t n ps,ty,m7,xS,g⟩ cx σ F l:=by
 unfold zn7 at h;split at h;rename_i e E B ht;have⟨a,h⟩:=yf h;have a:=xbF a;rw[<-e.n_rep]at a;have⟨ys,h,hd,j⟩:=sx h;have⟨bytes,f,m⟩:=UI b c ht;refine⟨_,h,uW λH w S vs s hl=> ?_⟩;have hi:=j P vs H S w λx o=>yK hl (by simpa[xaB]using o);have hc:(ps.toList.map λq:K×ul=>(q.1,ev H q.2)).map (·.1)=xfv 0 (X (ps.toList.map λq:K×ul=>(q.1,ev H q.2))):=by rw[xcE,xan];exact hd
 have i:=λ(S:K->Prop) (w:qR) (h:PH S w (H7 n e) ys (ps.toList.map λq:K×ul=>(q.1,ev H q.2)))=>PA hc h;exact⟨_,_,_,_,[phF _ ys (ps.toList.map λq:K×ul=>(q.1,ev H q.2))],[],Ic (qB b ht) m (zhF b c ht) (nL n e ys) a O (λS w h=>by have:=(i S w h.1).1;rwa[xcC]at this)<|λS w h=>(i S w h.1).2,jP,⟨hi,jP⟩,λu w' _ p=>zu p.1⟩;cases h
def zbR:∀{xs:N ul}{l:N PD},dQ cx σ xs=Z l->X l=X xs/\∀(P:uS) vs H S w,(∀x∈xs,Xj P vs H S w cx σ x)->zC S (HP l<|xs.map<|ev H) w
 |[],l,h=>by simp only[dQ,xav]at h;subst h;exact⟨O,λ_ _ _ _ _ _=>jP⟩
 |x::xs,l,h=>by
  unfold dQ at h;split at h;rename_i t y l' a b;simp only[xav]at h;subst h;have⟨h1,c⟩:=zbR b;exact⟨by simp[h1],λP vs H S w hl=>⟨zj a<|hl x<|IR,c P vs H S w λz e=>hl z<|FS _ e⟩⟩;cases h
theorem zrl{f:Go.Fn}{first cs:Z3 ul}{k:N (K×Dv)->V R}(h:zqt cx σ f first.toList cs.toList k=Z r):∃l,k l=Z r/\ES P ⟨d,.makeFunc f first cs,ty,m7,xS,g⟩ cx σ F l:=by
 unfold zqt at h;split at h;rename_i _ _ _ f' l b hc;obtain rfl:first= #[]:=by cases first;simp_all
 have⟨h1,c⟩:=zbR hc;refine⟨_,h,zI λH w S vs hl=>⟨_,ztY (xs:=cs.toList) O w,zu ?_⟩⟩;exact⟨_,O,by simp[h1],c P vs H S w λx a=>yK hl<|by simpa[xaB]using a⟩;rename_i _ _ _ f' x b hc;split at h;rename_i o t a;obtain rfl:first= #[x]:=by cases first;simp_all
 have h1:=(zbR hc).1;obtain rfl:cs= #[]:=by grind
 refine⟨_,h,zI λH w S vs hl=>⟨.func (.func f') #[ev H x] #[],lY (by simp[pv]) w,zu ?_⟩⟩;have⟨e,i⟩:=zj a (yK hl<|by simp[xaB]);exact⟨by rw[e],i⟩;cases h
 cases h
def Mj{A B C:Type}(h:B=C)(p:(A×B)=(A×C))(x:A×B):(p▸x:A×C)=(x.1,h▸x.2):=by subst h;rfl
theorem St.sub'{we:qR}{Se:K->Prop}{ms:N MF}{Γ Δ:N FF}{w:qR}(h:St we Se ms Γ w)(a:∀f∈Δ,f∈Γ):St we Se ms Δ w:=by grind [St.weak,ud]
def zrY{t:Ty}{n:RM}{r:N RM}(x:bZ (.d t::n::r)):(WE (.d t::n::r)▸x:IK ((RM.d t::n::r).map RM.ty))=((x.1,WE (n::r)▸x.2):t.D×IK ((n::r).map RM.ty)):=
 Mj (WE (n::r)) (WE (.d t::n::r)) x
def zrS{t:Ty}{E:kW}{n:RM}{r:N RM}(x:bZ (.own t E::n::r)):(WE (.own t E::n::r)▸x:IK ((RM.own t E::n::r).map RM.ty))=((x.1,WE (n::r)▸x.2):(Ty.l t).D×IK ((n::r).map RM.ty)):=
 Mj (WE (n::r)) (WE (.own t E::n::r)) x
theorem zgo{we:qR}{Se:K->Prop}:∀{rs:N RM}{x:bZ rs}{us:N wW}{F:N MF}{G:N FF}{w:qR},noV rs=wT->
 St we Se (kz rs x us++F) (ks rs x us++G) w->St we Se F (csF (rs.map RM.ty) (WE rs▸x) us++G) w
 |[],_,_,_,_,_,_,h=>h
 |[.d t],x,us,F,G,w,_,h=>h
 |.var _ _::_,_,_,_,_,_,hv,_=>by cases hv
 |[.own t E],x,us,F,G,w,_,h=>by
  have h:St we Se (mO t.rep E (us.headD Z9) x::F) G w:=h;exact Ou 0 h O
 |.d t::n::r,x,us,F,G,w,hv,h=>by
  rw[zrY];have h:St we Se (kz (n::r) x.2 us.tail++F) (ks (n::r) x.2 us.tail++(fV t.rep x.1 (us.headD Z9)::G)) w:=St.sub' (by simpa[kz,ks,rmM,rmF]using h) (by simp;rintro f (h|h|h)<;>simp[h]);have:=zgo (rs:=n::r) hv h;exact St.sub' this (by
   intro f hf;obtain hf|hf:=xab.1 hf
   obtain rfl|hf:=xai.1 hf
   exact xab.2 (.inr<|IR);grind;exact xab.2 (.inr<|FS _ hf))
 |.own t E::n::r,x,us,F,G,w,hv,h=>by
  rw[zrS];have h:St we Se (mO t.rep E (us.headD Z9) x.1::(kz (n::r) x.2 us.tail++F)) (ks (n::r) x.2 us.tail++G) w:=h;have h:=Ou 0 h O;have h:St we Se (kz (n::r) x.2 us.tail++F) (ks (n::r) x.2 us.tail++(fV (eS t.rep) x.1 (us.headD Z9)::G)) w:=St.sub' h (by simp;rintro f (h|h|h)<;>simp[h]);have:=zgo (rs:=n::r) hv h;exact St.sub' this (by
   intro f hf;obtain hf|hf:=xab.1 hf
   obtain rfl|hf:=xai.1 hf
   exact xab.2 (.inr<|IR);exact xab.2 (.inl hf);exact xab.2 (.inr<|FS _ hf))
def Oq:∀{rs:N RM}{x:bZ rs}{i:K},noV rs=wT->zbi rs x i=zjn (rs.map RM.ty) (WE rs▸x) i
 |[],_,_,_=>rfl
 |[.d _],_,_,_=>rfl
 |[.own _ _],_,_,_=>rfl
 |.var _ _::_,_,_,h=>by cases h
 |.d t::n::r,x,i,h=>by rw[zrY];show(i,Dv.d t x.1)::zbi (n::r) x.2 (i+1)=_;rw[Oq (rs:=n::r) h];rfl
 |.own t E::n::r,x,i,h=>by rw[zrS];show(i,Dv.d (.l t) x.1)::zbi (n::r) x.2 (i+1)=_;rw[Oq (rs:=n::r) h];rfl
def TU:∀rs:N RM,du rs=zkD (rs.map RM.ty)
 |[]=>rfl
 |[_]=>rfl
 |_::_::_=>rfl
theorem zhS:∀{ts:N Ty}{x:IK ts}{i:K}{us:N wW},zC S (csF ts x us) w->X us=X ts->∀e∈zjn ts x i,∃j u,e.1=i+j/\us[j]? =Z u/\(vC P vs e.2 u).p S w
 |[],_,_,_,_,_,e,he=>jp he H1
 |[t],x,i,[],h,hl,e,he=>by cases hl
 |[t],x,i,u::us,h,hl,e,he=>by
  obtain rfl:=xad.1 he;exact⟨0,u,O,O,h.1⟩
 |t::s::r,x,i,[],h,hl,e,he=>by cases hl
 |t::s::r,x,i,u::us,h,hl,e,he=>by
  obtain rfl|he:=xai.1 he
  exact⟨0,u,O,O,h.1⟩;have⟨j,v,h1,a,b⟩:=zhS h.2 (by simpa using hl) e he;grind
def Fm:∀{ts:N Ty}{x:IK ts}{us:N wW},zC S (csF ts x us) w->us.length=ts.length->∀e∈zjn ts x (bif zkD ts then 0 else 1),(vU P vs e.2 (Zg us) e.1).p S w
 |[],_,_,_,_,e,he=>jp he H1
 |[t],x,[],_,hl,_,_=>by cases hl
 |[t],x,[v],h,hl,e,he=>by
  obtain rfl:=xad.1 he;exact h.1
 |[t],x,_::_::_,_,hl,_,_=>by simp at hl
 |t::s::q,x,[],_,hl,_,_=>by cases hl
 |t::s::q,x,[_],_,hl,_,_=>by simp at hl
 |t::s::q,x,v::v'::us,h,hl,e,he=>by
  obtain⟨j,u,h1,h2,h3⟩:=zhS h hl e he;obtain⟨i,dv⟩:=e;simp only[zkD,Wt]at h1;obtain rfl:i=j+1:=by lia
  exact⟨(v::v'::us).toArray,u,O,by simpa using h2,h3⟩
def DK:∀{cs:N Wq}{f:XS}{s:Wq},Lf cs f=Z s->s∈cs/\s.f=f/\Et s.dom=wT/\s.bk=0/\noV s.cod=wT
 |c::cs,f,s,h=>by
  unfold Lf at h;cases a:xah c.f f && (Et c.dom && (xah c.bk 0 && noV c.cod))<;>rw[a]at h
  have⟨h1,b⟩:=DK h;exact⟨FS _ h1,b⟩;simp_all
def Af:∀{dom:N AM}{x:cj dom}{us:N wW},Et dom=wT->jW dom x us=[]
 |[],_,_,_=>rfl
 |.d _::r,x,us,h=>Af (dom:=r) h
 |.q _::r,x,us,h=>Af (dom:=r) h
 |.fn _ _::r,x,us,h=>Af (dom:=r) h
 |.own _ _::_,_,_,h=>by cases h
 |.var _ _::_,_,_,h=>by cases h
def Oh:∀{a:N AM}{cs:N PD}{z:cj a},eV a cs=Z z->X cs=X a/\∀{S:K->Prop}{w:qR}{b:N wW},X b=X cs->zC S (HP cs b) w->zC S (jC P a z b) w
 |[],[],_,_=>⟨O,λ_ _=>jP⟩
 |.q t::r,c::cs,z,h=>by
  have⟨e,h⟩:=yq h;subst e;split at h;rename_i z' i;obtain rfl:=xfT h;have⟨h1,j⟩:=Oh i;refine⟨by simp[h1],λ{S w b} hl f=> ?_⟩
  cases b with
  |nil=>cases hl
  |cons v b=>exact⟨f.1,j (by simpa using hl) f.2⟩
  cases h
 |[],_::_,_,h=>by simp[eV]at h
 |.q _::_,[],_,h=>by simp[eV]at h
 |.d _::_,_,_,h=>by simp[eV]at h
 |.own _ _::_,_,_,h=>by simp[eV]at h
 |.var _ _::_,_,_,h=>by simp[eV]at h
 |.fn _ _::_,_,_,h=>by simp[eV]at h
def zhg:∀{full:N AM}{dom:N Ty}{x:rm dom}{cs:N PD}{z:cj full},Nk full dom x cs=Z z->X dom+X cs=X full/\
 ∀{S:K->Prop}{w:qR}{us a:N wW},X us=X dom->X a=X cs->zC S (tsF dom x us) w->zC S (HP cs a) w->zC S (jC P full z<|us++a) w
 |full,[],x,cs,z,h=>by
  have h:eV full cs=Z z:=by cases full<;>(try cases‹AM›)<;>simpa[Nk]using h
  have⟨h1,b⟩:=Oh (P:=P) h;simp_all
 |.d t::r,s::dom,x,cs,z,h=>by
  have⟨e,h⟩:=yq h;subst e;split at h;rename_i z' c;obtain rfl:=xfT h;have⟨h1,b⟩:=zhg c;refine⟨by simp;lia,λ{S w us a} hl hc ht f=> ?_⟩
  cases us with
  |nil=>cases hl
  |cons v us=>exact⟨ht.1,b (by simpa using hl) hc ht.2 f⟩
  cases h
 |[],_::_,_,_,_,h=>by simp[Nk]at h
 |.q _::_,_::_,_,_,_,h=>by simp[Nk]at h
 |.own _ _::_,_::_,_,_,_,h=>by simp[Nk]at h
 |.var _ _::_,_::_,_,_,_,h=>by simp[Nk]at h
 |.fn _ _::_,_::_,_,_,_,h=>by simp[Nk]at h
theorem zhl{A B:Type}(h:A=B){o:V A}{r:B}(b:(h▸o:V B)=Z r):∃a:A,o=Z a/\(h▸a:B)=r:=by grind
def ph{s:Wq}(a:yU P s)(hn:Et s.dom=wT)(b:s.bk=0)(hv:noV s.cod=wT){z:cj s.dom}{q:bZ s.cod}(c:s.M z=Z q){us:N wW}(hl:X us=X s.dom):
 Fn P s.f us.toArray (jC P s.dom z us) Zg (λus=>csF (s.cod.map RM.ty) (WE s.cod▸q) us) (λus=>X us=X s.cod):=by
 have h:=a.plain b c hl;rw[Af hn]at h;refine FnG.frozen h λu w' we Se e=> ?_;have:=zgo (F:=[]) (G:=[]) hv (by simpa using e);simp_all
def Fn.weakΓ{U:Type}{f:XS}{args:Z3 wW}{Γ a:N FF}{wt:U->wW}{b:U->N FF}{ok:U->Prop}(h:Fn P f args Γ wt b ok)(c:∀S w,zC S a w->zC S Γ w):Fn P f args a wt b ok:=
 λw Se h1 e=>h w Se h1<|c Se w e
def zh2(l:∀s∈cf.cs,yU P s){v:V Dv}{dom cod:N Ty}{k:(rm dom->V (IK cod))->V R}(h:asF cf σ v dom cod k=Z r):
 ∃g,k g=Z r/\∀vs S w (dv:Dv) u,v=Z dv->(vC P vs dv u).p S w->(fnF P dom cod g u).p S w:=by
 unfold asF at h;split at h;rename_i f c;split at h;rename_i s m;have⟨h1,e,n,o,A⟩:=DK m;have i:=l s h1;split at h;rename_i B _;subst B;refine⟨_,h,λvs S w dv u hd b=> ?_⟩;cases hd;have⟨cs,C,D,E⟩:=b;refine⟨f,cs,HP c cs,C,⟨e▸i.1,λx q a us hl=> ?_⟩,E⟩;simp only at a;split at a
 rename_i z G;have⟨M,J,hn⟩:=zhl _ a;have⟨Q,K⟩:=zhg (P:=P) G;have hi:=ph i n o A J (us:=us++cs) (by simp;lia);rw[e]at hi;subst hn;refine(hi.weakΓ λS w j=>K hl D (zC.left j)<|zC.right j).ok_mono λus L=>by simpa using L
 cases a
 cases h
 cases h
 rename_i T U Y;split at h;rename_i hd hc _ _;subst hd;subst hc;exact⟨_,h,λvs S w dv u hp b=>by cases hp;exact b⟩;cases h
 cases h
def ri(P:uS)(ex:N (K×ut)):Prop:=∀f b,aR ex f=Z b->∃fn,P.funcs[f]? =Z fn/\(fn.name== "runtime.NumGoroutine")=I/\fn.body=wS/\(xeP fn).isNone=wT/\
 (b=wT->xfb fn=Z (λargs=>do
  let(x,y,c)<-xbJ "Add64" args
  pure (xcn ((x+y+c)%xbf)<|(x+y+c)/xbf)))/\
 (b=I->xfb fn=Z (λargs=>do
  let(x,y,b)<-xbJ "Sub64" args
  pure (xcn ((x+xbf-y-b)%xbf) (if x<y+b then 1 else 0))))
def zri{x y z:K}{k:N (K×Dv)->V R}(h:exU wT x y z k=Z r):z<=1/\∃p q:K,p=(x+y+z)%18446744073709551616/\q=(x+y+z)/18446744073709551616/\k [(1,.d .u p),(2,.d .u q)]=Z r:=by have⟨h1,h⟩:=ZW h;have⟨p,hp,h⟩:=wK h;have⟨q,a,h⟩:=wK h;exact⟨h1,p,q,hp,a,h⟩
def zsg{x y z:K}{k:N (K×Dv)->V R}(h:exU I x y z k=Z r):z<=1/\∃p q:K,p=(x+18446744073709551616-y-z)%18446744073709551616/\q=(if x<y+z then 1 else 0)/\k [(1,.d .u p),(2,.d .u q)]=Z r:=by have⟨h1,h⟩:=ZW h;have⟨p,hp,h⟩:=wK h;have⟨q,a,h⟩:=wK h;exact⟨h1,p,q,hp,a,h⟩
def tG(l:∀s∈cf.cs,yU P s):∀{dom:N AM}{xs:N ul}{cs:N PD}{k:cj dom->V R},Jn cf cx σ dom xs cs k=Z r->
 ∃z,k z=Z r/\X xs+X cs=X dom/\∀vs H S w,(∀x∈xs,Xj P vs H S w cx σ x)->∀a:N wW,X a=X cs->zC S (HP cs a) w->zC S (jC P dom z<|xs.map (ev H)++a) w
 |[],[],[],k,h=>⟨(),h,O,λ_ _ _ _ _ _ _ _=>jP⟩
 |.q t::dom,[],c::cs,k,h=>by
  simp only[Jn]at h;have⟨e,h⟩:=yq h;subst e;have⟨z,h1,i,j⟩:=tG l h;refine⟨_,h1,by simp at i⊢;lia,λvs H S w hl a b hc=> ?_⟩
  cases a with
  |nil=>cases b
  |cons v a=>exact⟨hc.1,j vs H S w hl a (by simpa using b) hc.2⟩
 |.d t::dom,x::xs,cs,k,h=>by
  simp only[Jn]at h;have⟨y,h,o⟩:=QM h;have⟨z,h1,i,j⟩:=tG l h;exact⟨_,h1,by simp at i⊢;lia,λvs H S w hl a b hc=>⟨o P vs H S w<|hl x<|IR,j vs H S w (λz m=>hl z<|FS _ m) a b hc⟩⟩
 |.q t::dom,x::xs,cs,k,h=>by
  simp only[Jn]at h;split at h;rename_i s y p;have⟨e,h⟩:=yq h;subst e;have⟨z,h1,i,j⟩:=tG l h;exact⟨_,h1,by simp at i⊢;lia,λvs H S w hl a b hc=>⟨zj p<|hl x<|IR,j vs H S w (λz m=>hl z<|FS _ m) a b hc⟩⟩;cases h
 |.fn n cod::dom,x::xs,cs,k,h=>by
  simp only[Jn]at h;have⟨f,h,u⟩:=zh2 l h;have⟨z,h1,i,j⟩:=tG l h;refine⟨_,h1,by simp at i⊢;lia,λvs H S w hl a b hc=>⟨?_,j vs H S w (λz m=>hl z<|FS _ m) a b hc⟩⟩
  cases hv:xA cx σ x with
  |none=>rename_i h0;rw[hv]at h0;simp[asF]at h0
  |some v=>exact u vs S w v _ hv<|zj hv<|hl x<|IR
 |[],_::_,_,_,h=>by simp[Jn]at h
 |[],[],_::_,_,h=>by simp[Jn]at h
 |.d _::_,[],_,_,h=>by simp[Jn]at h
 |.own _ _::_,_,_,_,h=>by simp[Jn]at h
 |.fn _ _::_,[],_,_,h=>by simp[Jn]at h
 |.q _::_,[],[],_,h=>by simp[Jn]at h
def OQ:∀{dom:N Ty}{xs:N ul}{k:rm dom->V R},Mr cx σ dom xs k=Z r->
 ∃z,k z=Z r/\X xs=X dom/\∀(P:uS) vs H S w,(∀x∈xs,Xj P vs H S w cx σ x)->zC S (tsF dom z<|xs.map<|ev H) w
 |[],[],k,h=>⟨(),h,O,λ_ _ _ _ _ _=>jP⟩
 |t::dom,x::xs,k,h=>by
  have⟨y,h,a⟩:=QM h;have⟨z,h1,b,c⟩:=OQ h;exact⟨_,h1,by simp[b],λP vs H S w hl=>⟨a P vs H S w<|hl x<|IR,c P vs H S w<|λz e=>hl z<|FS _ e⟩⟩
 |[],_::_,_,h=>by simp[Mr]at h
 |_::_,[],_,h=>by simp[Mr]at h
def zp7(E:∀s∈cf.cs,yU P s)(hX:ri P cf.ex){f:ul}{a:Z3 ul}{ts:Z3 kW}{k:N (K×Dv)->V R}(h:zjt cf cx σ f a.toList k=Z r):
 ∃l,k l=Z r/\ES P ⟨d,.call ⟨.value f,a,ts⟩,ty,m7,xS,g⟩ cx σ F l:=by
 have G:∀{vs H S w},(∀A∈yO (.call ⟨.value f,a,ts⟩),Lk P vs H S w cx σ A)->Xj P vs H S w cx σ f:=λhl=>yK hl (by simp[xaB,xeE]);have i:∀{vs H S w},(∀A∈yO (.call ⟨.value f,a,ts⟩),Lk P vs H S w cx σ A)->∀x∈a.toList,Xj P vs H S w cx σ x:=λhl x u=>yK hl (by simp only[xaB,xeE,Array.toList_append,xab];exact .inr u);unfold zjt at h;split at h;rename_i f0 cs hc;split at h;rename_i s hs;have⟨h1,J,h3,h4,L⟩:=DK hs;have M:=E s h1;have⟨z,h,hd,m⟩:=tG E h;have⟨q,c,h⟩:=CA h;refine⟨_,h,uW λH w S vs hM hl=> ?_⟩;have⟨j,hv,ht,hu⟩:=zj hc<|G hl;have v:=ph M h3 h4 L c (us:=a.toList.map (ev H)++j) (by simp at hd⊢;lia);rw[J]at v;refine⟨_,_,_,_,jC P s.dom z<|a.toList.map (ev H)++j,[],sG (asv:=a.toList) (J▸M.1) hv v O<|λS w h=>h,jP,m vs H S w (i hl) j ht hu,λus w' B hn=> ?_⟩;unfold zlA;rw[Oq L,TU];exact Fm hn<|by simpa using B
 split at h;rename_i _ _ _ b x y z C hD;obtain rfl:a= #[x,y,z]:=by cases a;simp_all
 have⟨hw,h⟩:=yf h
 cases f with
 |func f1=>
  simp only[xA,xav,Dv.fn.injEq]at hc;obtain⟨rfl,_⟩:=hc;have⟨fn,e1,Q,T,U,e5,e6⟩:=hX _ _ C;unfold exD at h;split at h;rename_i x' y' z' u Y m;cases b
  have⟨n,p,q,hp,c,h⟩:=zsg h;refine⟨_,h,zI λH w S vs hl=> ?_⟩;have hi:=wH u (i hl x rC);have o:=wH Y (i hl y rC);have D:=wH m (i hl z rC);refine⟨_,v_2 (zlp e1 Q T U (e6 O) hi.1 o.1 D.1 n) hp c w,λe he=> ?_⟩;obtain rfl|he:=xai.1 he
  exact⟨_,_,O,O,jN<|QL hp⟩;obtain rfl:=xad.1 he;exact⟨_,_,O,O,jN<|zly hi.2 o.2 n c⟩;have⟨n,p,q,hp,c,h⟩:=zri h;refine⟨_,h,zI λH w S vs hl=> ?_⟩;have hi:=wH u (i hl x rC);have o:=wH Y (i hl y rC);have D:=wH m (i hl z rC);refine⟨_,v_2 (zlu e1 Q T U (e5 O) hi.1 o.1 D.1 n) hp c w,λe he=> ?_⟩;obtain rfl|he:=xai.1 he
  exact⟨_,_,O,O,jN<|QL hp⟩;obtain rfl:=xad.1 he;exact⟨_,_,O,O,jN<|zmn hi.2 o.2 n c⟩;cases h
 |_=>simp[zsx]at hw
 cases h
 rename_i dom cod g' hc;have⟨z,h,hd,m⟩:=OQ h;have⟨q,c,h⟩:=CA h;refine⟨_,h,uW λH w S vs hM hl=> ?_⟩;have⟨a0,dQ,FG,hv,⟨C,hA⟩,hB⟩:=zj hc<|G hl;have v:=hA z q c (a.toList.map<|ev H) (by simpa using hd);exact⟨_,_,_,_,tsF dom z (a.toList.map<|ev H)++FG,[],sG (asv:=a.toList) C hv v O<|λS w h=>h,jP,zC.append (m P vs H S w<|i hl) hB,λus w' B hn=>Fm hn B⟩;cases h
def zrG{fs:Z3 Field}{v:wW}(a:P.underlying t=Z (.struct fs))(hv:ev H x=v)(w:qR):(uP (ev H) ⟨d,.makeInterface t x,ty,m7,xS,g⟩).run P w=.ok (.value (.iface t v)) w:=by simp[uP,Instr.makeInterface,Z0 a,hv]
def zqV(a:yT P cf.tt){k:N (K×Dv)->V R}(h:zpG cf cx σ t x k=Z r):∃l,k l=Z r/\ES P ⟨d,.makeInterface t x,ty,m7,xS,g⟩ cx σ F l:=by unfold zpG at h;split at h;rename_i B s y ht b;have⟨c,h⟩:=yq h;subst c;refine⟨_,h,zI λH w S vs hl=> ?_⟩;have⟨cs,hv,hp⟩:=zj b (yK hl<|by simp[xaB]);have⟨_,_,⟨fs,hc,_⟩,_⟩:=(a _ _ ht).2.2.2;obtain rfl:cs=[.int .i64 y]:=hp.1;exact⟨_,zrG hc hv w,zu<|by exact O⟩;cases h
def zpF(a:yT P cf.tt)(c:uf P cf.tt)(f:∀s∈cf.cs,yU P s)(i:ri P cf.ex){e:Op}{k:N (K×Dv)->V R}(h:zoE cf cx σ e k=Z r):∃l,k l=Z r/\ES P ⟨d,e,ty,m7,xS,g⟩ cx σ F l:=by
 unfold zoE at h;split at h;exact zhC (.inl O) h;exact zhC (.inr O) h;exact zsG h;exact zov h;exact zrQ h;exact zsw h;rename_i j t x y yt;cases hn:zlj (xA cx σ y)<;>rw[hn]at h
 exact bop h<|zl4 a;have⟨hp,h⟩:=yf h;exact zts a hp hn h;exact zrx h;exact zsI a h;exact zpw a h;exact zma a c h;exact zk6 a h;exact ziJ a h;exact zkG a c h;exact zr2 a h;exact zq6 h;exact zl7 a h;exact zqV a h;exact zrZ a c h;exact zrl h;exact zrJ a h;exact zrD (b:=wT) h;exact zrD (b:=I) h;exact zp7 f i h;cases h
def zbB(P:uS)(s:Rh):Prop:=
 Bq P s.f=wT/\∀(x:rm s.dom) (vs:N wW),X vs=X s.dom->Fn P s.f vs.toArray (tsF s.dom x vs) (λv:wW=>v) (λv=>[zoc s.g (s.mc x) v]) (λ_=>Wr)
def zct(P:uS)(s:E8):Prop:=
 Bq P s.f=wT/\∀c ix r a p lo n b,s.M c ix r a p lo n=Z b->∀(u h hv:wW),(xX u)[r]? =Z h->RK (yN u) lo n hv->WQ a->WQ p->
  ∀we Se F G w,St we Se (B5 s.t.rep s.E s.E1 u c ix::F) G w->aM P s.f #[h,.int .i64 a,.int .i64 p,hv] w λe w'=>∃v i,e=.returned v/\yN i=yN u/\St we Se (B5 s.t.rep s.E s.E1 i b ix::F) G w'
def zkl(P:uS)(s:HK):Prop:=
 Bq P s.f=wT/\∀(x:cj s.dom) (X Y:Type) (a:X->wW->MF) (b:Y->wW->MF) (g:N s.t.D->X->V (N s.t.D×(X⊕Y))) (x0:X) (r:X⊕Y),s.M x g x0=Z r->∀(l:K) (vs:N wW),Ap vs=Ap s.dom->P6 P l s.t.rep s.E a b g->
  ∀u we Se F G w,St we Se (a x0 u::F) (jC P s.dom x vs++G) w->aM P s.f (.func (.yield l) #[] #[]::vs).toArray w λe w'=>(∃v,e=.returned v)/\∃c,St we Se (xfi (λx=>a x c) (λy=>b y c) r::F) G w'
def PN(P:uS)(p:J2):Prop:=
 Bq P p.s.f=wT/\∀(x:cj p.s.dom) (vs:N wW),X vs=X p.s.dom->
  (∀r,p.M x=Z (.inr r)->FnG P p.s.f vs.toArray (jW p.s.dom x vs) (jC P p.s.dom x vs) (zn9 p.s.bk (X p.s.cod)) (λus=>kz p.s.cod r us) (λus=>ks p.s.cod r us) (zj9 p.s.dom vs p.s.bk (X p.s.cod)))/\
  ∀q,p.M x=Z (.inl q)->∀we Se F G w,St we Se (jW p.s.dom x vs++F) (jC P p.s.dom x vs++G) w->aM P p.s.f vs.toArray w λe w'=>e=.panicked (tF q)/\St we Se F G w'
def J2.n(p:J2):Wq:=⟨p.s.f,p.s.dom,p.s.cod,λx=>(match p.M x with
 |some (.inr r)=>Z r
 |_=>wS),p.s.bk⟩
theorem PN.n{P:uS}{p:J2}(h:PN P p):yU P p.n:=⟨h.1,λx r a vs hl=>(h.2 x vs hl).1 r (by
 have a:(match p.M x with
  |some (.inr r)=>Z r
  |_=>wS)=Z r:=a
 split at a;grind;cases a)⟩
structure BZ(P:uS)(cf:Cf):Prop where
 ex:ri P cf.ex
 cl:∀s∈cf.cl,zbB P s
 ms:∀s∈cf.ms,zct P s
 is:∀s∈cf.is,zkl P s
 pp:P=Tryz.prog
 ps:∀p∈cf.ps,PN P p
def ziD{f:XS}:∀{l:N E8}{s:E8},zg1 l f=Z s->s∈l/\s.f=f
 |c::l,s,h=>by
  unfold zg1 at h;cases a:xah c.f f<;>rw[a]at h
  have⟨h1,b⟩:=ziD h;exact⟨FS _ h1,b⟩;simp_all
def zhU{f:XS}:∀{l:N Rh}{s:Rh},zgJ l f=Z s->s∈l/\s.f=f
 |c::l,s,h=>by
  unfold zgJ at h;cases a:xah c.f f<;>rw[a]at h
  have⟨h1,b⟩:=zhU h;exact⟨FS _ h1,b⟩;simp_all
def zg6{f:XS}:∀{l:N HK}{s:HK},zl9 l f=Z s->s∈l/\s.f=f
 |c::l,s,h=>by
  unfold zl9 at h;cases a:xah c.f f<;>rw[a]at h
  have⟨h1,b⟩:=zg6 h;exact⟨FS _ h1,b⟩;simp_all
def N2{α:Type}{e:zT α}{E E1:kW}{u:wW}{a:N (N α)}{ix:N K}(h:(B5 e E E1 u a ix).p S w):X (xX u)=X a/\(mO (YT<|xX u) E (yN u) ix).p S w/\yP S (vF e E1 (xX u) a) w:=⟨h.1.1,h.1.2.1,h.1.2.2⟩
def BQ{α:Type}{e:zT α}{E E1:kW}{u v:wW}{a:N (N α)}{ix:N K}{r:K}(h:(B5 e E E1 u a ix).p S w)(b:(xX u)[r]? =Z v):(mO e E1 v<|uO a r).p S w/\r<X a:=by
 have⟨h1,_,c⟩:=N2 h;have hl:=(xaz.1 b).1;have f:a[r]? =Z (uO a r):=by unfold uO;simp_all
 exact⟨yP.get c<|Ke b f,W⟩
def zko(i:yT P cf.tt)(J:uf P cf.tt){k:N (K×Dv)->V R}(h:O9 cf cx σ t x y k=Z r):∃l,k l=Z r/\ES P ⟨d,.indexAddr t x y,ty,m7,xS,g⟩ cx σ F l:=by
 have L:∀{vs H S w},(∀M∈yO (.indexAddr t x y),Lk P vs H S w cx σ M)->Xj P vs H S w cx σ x:=λhl=>yK hl (by simp[xaB]);have Q:∀{vs H S w},(∀M∈yO (.indexAddr t x y),Lk P vs H S w cx σ M)->Xj P vs H S w cx σ y:=λhl=>yK hl (by simp[xaB]);unfold O9 at h;split at h;rename_i e E B o ht q;split at h;rename_i s v E1 A ix C;have⟨bytes,f,hc⟩:=UI i J ht;have⟨j,a,h,hd⟩:=Ss h;refine⟨_,h,?_⟩;intro H w S vs U D hl;have⟨ik,u⟩:=hd P vs H S w<|Q hl;have T:(B5 s.rep v E1 (vs o) A ix).p S w:=Yb D C;have⟨b,cap,hv,_⟩:=cD (N2 T).2.1<|xaI (xaf _) a;have G:ev H x=yN (vs o):=zj q<|L hl;exact ux.of_value (Dq (qB i ht) hc (G.trans hv) u a w) ⟨yJ.refl _ _,zu ⟨b,_,_,hv,a,O⟩⟩;cases h
 rename_i e E B o lo n ht q;split at h;rename_i s v E1 A ix C;have⟨bytes,f,hc⟩:=UI i J ht;have⟨j,a,h,hd⟩:=Ss h;refine⟨_,h,?_⟩;intro H w S vs U D hl;have⟨ik,u⟩:=hd P vs H S w<|Q hl;rcases(zj q (L hl):RK _ _ _ _).old with⟨b,m,cap,c,q1,q2,q3,q4,Y⟩|⟨q1,_⟩
 refine ux.of_value (Dq (qB i ht) hc Y u a w) ⟨yJ.refl _ _,zu ⟨b,_,_,q1,W,?_⟩⟩;show Value.pointer (Z ⟨b,0+lo*1+j*1,wS⟩)=Value.pointer (Z ⟨b,0+(lo+j)*1,wS⟩);rw[xbk,xcV];lia;cases h
 rename_i e E B o p ht q;split at h;rename_i s v E1 A ix C;have⟨hg,h1⟩:=yq h;cases hg;have⟨bytes,f,hc⟩:=UI i J ht;have⟨j,a,h,hd⟩:=Ss h1;refine⟨_,h,?_⟩;intro H w S vs U D hl;have⟨ik,u⟩:=hd P vs H S w<|Q hl;have T:(B5 e.rep v E1 (vs o) A ix).p S w:=Yb D C;have G:(xX<|vs o)[p]? =Z (ev H x):=zj q<|L hl;have⟨b,cap,hv,_⟩:=cD (BQ T G).1<|xaI (xaf _) a;refine ux.of_value (Dq (qB i ht) hc hv u a w) ⟨yJ.refl _ _,zu ⟨λz=>Sub.self e.rep z,b,_,_,by rw[<-hv];exact G,a,by simp[Fl.self]⟩⟩
 cases h
 cases h
def zte{α β:Type}{q:Prop}{e:zT α}{E off:K}{nl:α->α}{s:zT β}{E1:kW}{u:wW}{z:α}{xs:N β}(h:(mVr q e E off nl s E1 u z xs).p S w):
 X (xX u)=1/\q/\∃b,yN u=.pointer (Z ⟨b,0,wS⟩)/\(mB (eH e off nl<|xX u) E b (z,0)).p S w:=⟨h.1.1.1,h.1.1.2,h.1.2.1⟩
def ztI{α:Type}{q:Prop}{e:zT α}{E off:K}{nl:α->α}{u:wW}{z:α}(h:(mVh q e E off nl u z).p S w):
 X (xX u)=1/\q/\∃b,yN u=.pointer (Z ⟨b,0,wS⟩)/\(mB (eH e off nl<|xX u) E b (z,0)).p S w:=⟨h.1.1.1,h.1.1.2,h.1.2.1⟩
def zdx{n i j:K}{s:Ty}{k:Fl s.D->V R}(h:zfZ n s i j k=Z r):i≠j/\∃f,xl n s i=Z f/\k f=Z r:=by have⟨h1,h⟩:=yf h;split at h;rename_i f a;refine⟨λe=> ?_,f,a,h⟩;simp_all;cases h
def ziK{o:K}{s a:Ty}{E E1 n j:K}{z:s.D}{Y:Od}(e:QF cx σ o=Z Y)(f:(∃xs,Y=.vr s E a E1 n j z xs)\/Y=.vh s E a E1 n j z)(h:yP S (MS vs σ.ob++(MS vs cx.ob++F)) w):
 vrP a (xl n s j)/\∃b,yN (vs o)=.pointer (Z ⟨b,0,wS⟩)/\(mB (eH s.rep (X2<|xl n s j) (Zj a (xl n s j) [])<|xX<|vs o) E b (z,0)).p S w:=by
 have c:=Yb h e;rcases f with⟨xs,rfl⟩|rfl
 exact(zte c).2;exact(ztI c).2
def zcS(A:yT P cf.tt){a:TI}{o:K}{s c:Ty}{E E1 n i j:K}{f:Fl s.D}{z:s.D}{Y:Od}{k:N (K×Dv)->V R}(ht:Yo cf t=Z a)(hd:xA cx σ x=Z (.vf o s n i))(B:QF cx σ o=Z Y)
 (C:(∃xs,Y=.vr s E c E1 n j z xs)\/Y=.vh s E c E1 n j z) (G:i≠j) (e:xl n s i=Z f) (h:(Ty.cast f.f a.ty (f.get z) λy=>k [(0,.d a.ty y)])=Z r):
 ∃l,k l=Z r/\ES P ⟨d,.load t x,ty,m7,xS,g⟩ cx σ F l:=by
 have⟨m,h⟩:=yq h;have⟨p,J,_⟩:=YX A ht;have hc:=e;have⟨off,T,U,st⟩:=f;simp only at m;subst m;refine⟨_,h,uW λH w S vs L hl=> ?_⟩;have⟨hi,b,h1,M⟩:=ziK B C L;have⟨b',f',q,v,Q⟩:=zj hd (yK hl<|by simp[xaB]);rw[h1]at q;cases q;rw[hc]at v;cases v;exact⟨_,_,_,_,[],[mB (eH s.rep (X2<|xl n s j) (Zj c (xl n s j) [])<|xX<|vs o) E b (z,0)],V7 0 O (Q.trans<|by rw[xaD]) (zd3 hi hc G) J,⟨M,jP⟩,jP,λu w' _ e=>zu e.1⟩
def zjS(v:yT P cf.tt){i:K}{k:N (K×Dv)->V R}(h:NI cf cx σ t x i k=Z r):∃l,k l=Z r/\ES P ⟨d,.fieldAddr t x i,ty,m7,xS,g⟩ cx σ F l:=by
 have A:∀{vs H S w},(∀C∈yO (.fieldAddr t x i),Lk P vs H S w cx σ C)->Xj P vs H S w cx σ x:=λhl=>yK hl<|by simp[xaB]
 have c:∀{o E E1 n j:K}{s p:Ty}{z:s.D}{Y:Od}{B:K},Yo cf t=Z ⟨s,.st n,B⟩->xA cx σ x=Z (.mw o)->QF cx σ o=Z Y->((∃xs,Y=.vr s E p E1 n j z xs)\/Y=.vh s E p E1 n j z)->(xl n s i).isSome=wT->k [(0,.vf o s n i)]=Z r->
  ∃l,k l=Z r/\ES P ⟨d,.fieldAddr t x i,ty,m7,xS,g⟩ cx σ F l:=λht q m G u h=>by
  have⟨f,u⟩:=Option.isSome_iff_exists.1 u;refine⟨_,h,?_⟩;intro H w S vs M J hl;have⟨_,b,h1,_⟩:=ziK m G J;have hc:ev H x=yN (vs _):=zj q<|A hl;exact ux.of_value (sV (S4 v ht u) (hc.trans h1) w) ⟨yJ.refl _ _,zu ⟨b,f,h1,u,O⟩⟩
 unfold NI at h;split at h;rename_i e n B o ht q;split at h;rename_i s E p E1 L j z xs m;have⟨a,h⟩:=yf h;rw[xae,xae]at a;obtain rfl:=yb a.1.1;obtain rfl:=KR a.1.2;exact c ht q m (.inl ⟨_,O⟩) a.2 h;rename_i s E p E1 L j z m;have⟨a,h⟩:=yf h;rw[xae,xae]at a;obtain rfl:=yb a.1.1;obtain rfl:=KR a.1.2;exact c ht q m (.inr O) a.2 h;cases h
 cases h
def zmM(M:yT P cf.tt){k:N (K×Dv)->V R}(h:zbN cf cx σ t x k=Z r):∃l,k l=Z r/\ES P ⟨d,.load t x,ty,m7,xS,g⟩ cx σ F l:=by
 have hx:∀{vs H S w},(∀t'∈yO (.load t x),Lk P vs H S w cx σ t')->Xj P vs H S w cx σ x:=λhl=>yK hl (by simp[xaB]);unfold zbN at h;split at h;rename_i e E B o j ht J;split at h;rename_i s Q E1 c ix A;have⟨L,hi,_⟩:=YX M ht;have⟨q,Y,h⟩:=wK h;refine⟨_,h,uW λH w S vs hM hl=> ?_⟩;have hm:(B5 s.rep Q E1 (vs o) c ix).p S w:=Yb hM A;have⟨b,m,v,h1,T,h3⟩:=zj J<|hx hl;have⟨a1,a2,a3⟩:=N2 hm;have hn:m=X ix:=by
  have⟨cs,h5,h6⟩:=a2;rcases h5.2 with⟨hv,h7⟩|⟨g',a,a0,hv,_⟩
  rw[h1]at hv;cases hv
  rw[h1]at hv;cases hv;rfl
 have⟨b',a,hv,hb⟩:=cD a2 W;rw[h1]at hv;cases hv;have hc:=Sub.rowT0 (YT<|xX<|vs o) v ix j (ix.getD j 0)<|getD_some 0 T;exact⟨_,_,_,_,[],[mB (rowT (YT<|xX<|vs o) v) Q b ix],V7 0 O h3 hc hi,⟨hb,jP⟩,jP,λu w' _ C=>zu (by have:=zf1 C.1;rw[<-Y]at this;exact this)⟩
 cases h
 rename_i ti o e p j f hd J;split at h;rename_i s Q E1 c ix A;have⟨U,h1⟩:=yq h;cases U;have⟨q,Y,T⟩:=wK h1;have⟨U,h⟩:=yq T;have⟨L,hi,_⟩:=YX M hd;have⟨off,ff,gt,st⟩:=f;simp only at U;subst U;refine⟨_,h,uW λH w S vs hM hl=> ?_⟩;have hm:(B5 e.rep Q E1 (vs o) c ix).p S w:=Yb hM A;have⟨h0,b,m,cap,h1,T,h3⟩:=zj J<|hx hl;have hr:=(BQ hm h1).1;have hn:m=X (uO (α:=e.D) c p):=by
  have⟨cs,h5,h6⟩:=hr;rcases h5.2 with⟨hv,h7⟩|⟨g',a,a0,hv,_⟩
  cases hv
  cases hv;rfl
 have⟨b',a,hv,hb⟩:=cD hr W;cases hv;have hc:=(Sub.rowT0 e.rep cap (uO (α:=e.D) c p) j ((uO (α:=e.D) c p).getD j e.z)<|getD_some e.z W).comp<|h0<|(uO (α:=e.D) c p).getD j e.z;subst Y;exact⟨_,_,_,_,[],[mB (rowT e.rep cap) E1 b<|uO (α:=e.D) c p],V7 0 O h3 hc hi,⟨hb,jP⟩,jP,λu w' _ C=>zu C.1⟩
 cases h
 rename_i ti o s0 n0 i hd J;split at h;rename_i s E s1 E1 n j z xs A;have⟨G,h⟩:=yf h;rw[xae]at G;obtain rfl:=yb G.1;obtain rfl:=KR G.2;have⟨hj,f,C,h⟩:=zdx h;exact zcS M hd J A (.inl ⟨_,O⟩) hj C h;rename_i s E s1 E1 n j z A;have⟨G,h⟩:=yf h;rw[xae]at G;obtain rfl:=yb G.1;obtain rfl:=KR G.2;have⟨hj,f,C,h⟩:=zdx h;exact zcS M hd J A (.inr O) hj C h;cases h
 cases h
def zhe(L:yT P cf.tt)(hL:uf P cf.tt){lo hi:V ul}{k:N (K×Dv)->V R}(h:Pf cf cx σ t x lo hi k=Z r):∃l,k l=Z r/\ES P ⟨d,.slice t x lo hi wS,ty,m7,xS,g⟩ cx σ F l:=by
 have hx:∀{vs H S w},(∀C∈yO (.slice t x lo hi wS),Lk P vs H S w cx σ C)->Xj P vs H S w cx σ x:=λhl=>yK hl (by simp[xaB]);have hc:∀{vs H S w z},lo=Z z->(∀C∈yO (.slice t x lo hi wS),Lk P vs H S w cx σ C)->Xj P vs H S w cx σ z:=λe hl=>yK hl (by simp[xaB,e]);have hd:∀{vs H S w z},hi=Z z->(∀C∈yO (.slice t x lo hi wS),Lk P vs H S w cx σ C)->Xj P vs H S w cx σ z:=λe hl=>yK hl (by simp[xaB,e]);unfold Pf at h;split at h;rename_i e E B o ht hn;split at h;rename_i s E' E1 wn ix ho;have⟨bytes,T,U⟩:=UI L hL ht
 have u:∀(l m:K),l<=m->m<=X ix->k [(0,.mv o l<|m-l)]=Z r->(∀vs H S w,(∀C∈yO (.slice t x lo hi wS),Lk P vs H S w cx σ C)->((lo.map<|ev H)=Z (.int .i64 (l:J))\/(lo=wS/\l=0))/\((hi.map<|ev H)=Z (.int .i64 (m:J))\/(hi=wS/\m=X ix)))->
  ∃l,k l=Z r/\ES P ⟨d,.slice t x lo hi wS,ty,m7,xS,g⟩ cx σ F l:=by
  intro l m h1 j h5 h4;refine⟨_,h5,λH w S vs hS hM hl=> ?_⟩;have⟨Y,M⟩:=h4 vs H S w hl;have hf:ev H x=yN (vs o):=zj hn<|hx hl;have hm:(B5 s.rep E' E1 (vs o) wn ix).p S w:=Yb hM ho;rcases iR (N2 hm).2.1 with⟨hv,hg⟩|⟨b,cap,hv,hj,hp⟩
  rw[hg]at j M;obtain rfl:m=0:=Nat.le_zero.1 j;obtain rfl:l=0:=Nat.le_zero.1 h1;have G:=NP (P:=P) (w:=w) (qB L ht) U (Y.imp id λq=>by rw[q.1];rfl) (M.imp id λq=>by rw[q.1];rfl);refine ux.of_value (v:=.slice wS 0 0) (w':=w) (by simp[uP,hf.trans hv,G]) ⟨yJ.refl _ _,zu (.inr ⟨hv,O,O,O⟩)⟩;have G:=DR (P:=P) (b:=b) (o:=0) (n:=X ix) (cap:=cap) (w:=w) (l:=l) (h:=m) (qB L ht) U (Y.imp id λq=>⟨by rw[q.1];rfl,q.2⟩) (M.imp id λq=>⟨by rw[q.1];rfl,q.2⟩) h1<|xal j hj;rw[<-hv,<-hf]at G;refine ux.of_value (v:=.slice (if cap=l then Z ⟨b,0,wS⟩else Z ((⟨b,0,wS⟩:U8).add<|l*1)) (m-l)<|cap-l) (w':=w) (by simp[uP,G,Ty.rep,eS]) ⟨yJ.refl _ _,zu ?_⟩;exact .inl ⟨b,X ix,cap,hv,W,hj,W,by rw[jl]⟩
 rcases cJ h with⟨e1,h1⟩|⟨zl,l,e1,h1,hk⟩
 rcases cJ h1 with⟨A,j⟩|⟨zh,m,A,j,Q⟩
 have⟨a,c,q1,q2,D,f,i⟩:=OZ j;exact u a c q1 q2 D λvs H S w hl=>⟨.inr ⟨e1,(f.resolve_left rC).2⟩,.inr ⟨A,(i.resolve_left rC).2⟩⟩;have⟨a,c,q1,q2,D,f,i⟩:=OZ j;obtain i|⟨i,_⟩:=i
 cases i;exact u a m q1 q2 D λvs H S w hl=>⟨.inr ⟨e1,(f.resolve_left rC).2⟩,.inl<|by rw[A];exact Z2 Z<|Q P vs H S w<|hd A hl⟩
 cases i
 rcases cJ h1 with⟨A,j⟩|⟨zh,m,A,j,Q⟩
 have⟨a,c,q1,q2,D,f,i⟩:=OZ j;obtain f|⟨f,_⟩:=f
 cases f;exact u l c q1 q2 D λvs H S w hl=>⟨.inl (by rw[e1];exact Z2 Z<|hk P vs H S w<|hc e1 hl),.inr ⟨A,(i.resolve_left rC).2⟩⟩
 cases f
 have⟨a,c,q1,q2,D,f,i⟩:=OZ j;obtain f|⟨f,_⟩:=f
 obtain i|⟨i,_⟩:=i
 cases f;cases i;exact u l m q1 q2 D λvs H S w hl=>⟨.inl (by rw[e1];exact Z2 Z<|hk P vs H S w<|hc e1 hl),.inl<|by rw[A];exact Z2 Z<|Q P vs H S w<|hd A hl⟩
 cases i
 cases f
 cases h
 cases h
def znX(q:yT P cf.tt){a:Z3 ul}{ts:Z3 kW}{k:N (K×Dv)->V R}(h:zgf cf cx σ a.toList ts.toList k=Z r):
 ∃l,k l=Z r/\ES P ⟨d,.call ⟨.builtin .len,a,ts⟩,ty,m7,xS,g⟩ cx σ F l:=by
 unfold zgf at h;split at h;rename_i _ _ x t hd Q;obtain rfl:a= #[x]:=by cases a;simp_all
 obtain rfl:ts= #[t]:=by cases ts;simp_all
 have z:∀{vs H S w},(∀J∈yO (.call ⟨.builtin .len,#[x],#[t]⟩),Lk P vs H S w cx σ J)->Xj P vs H S w cx σ x:=λhl=>yK hl (by simp[xaB,xeE]);split at h;rename_i e E B o ht f;split at h;rename_i s i E1 j ix v;refine⟨_,h,uW λH w S vs A hl=> ?_⟩;have C:(B5 s.rep i E1 (vs o) j ix).p S w:=Yb A v;exact⟨_,_,_,_,[],[mO (YT<|xX<|vs o) i (yN<|vs o) ix],NU 0 O (qB q ht)<|zj f<|z hl,⟨(N2 C).2.1,jP⟩,jP,λu w' D L=>zu<|w9<|PT D⟩;cases h
 rename_i e E B o lo n ht f;split at h;rename_i s i E1 j ix v;refine⟨_,h,zI λH w S vs hl=> ?_⟩;rcases(zj f (z hl):RK _ _ _ _).old with⟨b,m,cap,c,q1,q2,G,T,M⟩|⟨q1,U,c,q2,G⟩
 exact⟨_,Rq (qB q ht) M w,zu<|w9<|PT W⟩;subst q1;exact⟨_,Rq (qB q ht) G w,zu<|w9 rx⟩;cases h
 rename_i e E B o p ht f;split at h;rename_i s i E1 j ix v;refine⟨_,h,uW λH w S vs A hl=> ?_⟩;have C:(B5 s.rep i E1 (vs o) j ix).p S w:=Yb A v;have hc:(xX<|vs o)[p]? =Z (ev H x):=zj f<|z hl;exact⟨_,_,_,_,[],[mO s.rep E1 (ev H x)<|uO j p],NU 0 O (qB q ht) O,⟨(BQ C hc).1,jP⟩,jP,λu w' D L=>zu<|w9<|PT D⟩;cases h
 cases h
 cases h
def Tru:K->Prop:=λ_=>Wr
def zbG(f:FF)(h:f.p S w):f.p Tru w:=f.sub h λ_ _ _=>jP
def sr(B:∀s∈cf.cs,yU P s):∀{dom:N AM}{xs:N ul}{cs:N PD}{k:cj dom->V R},Ji cf cx σ dom xs cs k=Z r->
 ∃z,k z=Z r/\X xs+X cs=X dom/\∀vs H S w,yP S (MS vs σ.ob++(MS vs cx.ob++F)) w->(∀x∈xs,Xj P vs H S w cx σ x)->∀a:N wW,X a=X cs->zC S (HP cs a) w->zC Tru (jC P dom z<|xs.map (ev H)++a) w
 |[],[],[],k,h=>⟨(),h,O,λ_ _ _ _ _ _ _ _ _=>jP⟩
 |.q t::dom,[],c::cs,k,h=>by
  simp only[Ji]at h;have⟨e,h⟩:=yq h;subst e;have⟨z,h1,l,u⟩:=sr B h;refine⟨_,h1,by simp at l⊢;lia,λvs H S w i hl a j hc=> ?_⟩
  cases a with
  |nil=>cases j
  |cons v a=>exact⟨zbG _ hc.1,u vs H S w i hl a (by simpa using j) hc.2⟩
 |.d t::dom,x::xs,cs,k,h=>by
  simp only[Ji]at h;split at h;rename_i o lo n hd;split at h;rename_i s E E1 D ix L;have⟨e,h⟩:=yq h;subst e;have⟨z,h1,l,u⟩:=sr B h;refine⟨_,h1,by simp at l⊢;lia,λvs H S w i hl a j hc=>⟨?_,u vs H S w i (λz C=>hl z<|FS _ C) a j hc⟩⟩;have M:(B5 s.rep E E1 (vs o) D ix).p S w:=Yb i L;have⟨Q,T,a3⟩:=N2 M;have U:(mO (eS s.rep) E (yN<|vs o)<|zet D ix).p Tru w:=by have⟨A,q1,q2⟩:=T;refine⟨A,by unfold zet;rw[xan];exact q1,?_⟩;exact Bw Q (λ_ _=>jP) (λ_ _ _ _=>jP) a3 q2
  show(fV (eS<|eS s.rep) (xdB n<|xdN lo<|zet D ix)<|ev H x).p Tru w;rcases(zj hd (hl x<|IR):RK _ _ _ _).old with⟨b,m,cap,c,q1,q2,G,Y,q5⟩|⟨q1,J,c,q2,G⟩
  have:=NQ U q1 q2 G Y;rw[q5];have⟨J,c',p1,p2,p3,p4⟩:=this;refine wg.2 ⟨J,c',p1,p2,p3,p4.imp id ?_⟩;rintro⟨b',o',A,r1,r2,r3⟩;exact⟨b',o',A,r1,jP,r2,r3⟩;subst q1;rw[G];exact wg.2 ⟨J,c,rC,rC,by unfold QR;lia,.inl rC⟩;cases h
  have⟨y,h,hy⟩:=QM h;have⟨z,h1,l,u⟩:=sr B h;exact⟨_,h1,by simp at l⊢;lia,λvs H S w i hl a j hc=>⟨zbG _<|hy P vs H S w<|hl x<|IR,u vs H S w i (λz C=>hl z<|FS _ C) a j hc⟩⟩
 |.fn K cod::dom,x::xs,cs,k,h=>by
  simp only[Ji]at h;have⟨f,h,hf⟩:=zh2 B h;have⟨z,h1,l,u⟩:=sr B h;refine⟨_,h1,by simp at l⊢;lia,λvs H S w i hl a j hc=>⟨?_,u vs H S w i (λz C=>hl z<|FS _ C) a j hc⟩⟩
  cases hv:xA cx σ x with
  |none=>rename_i h0;rw[hv]at h0;simp[asF]at h0
  |some v=>exact zbG _<|hf vs S w v _ hv<|zj hv<|hl x<|IR
 |[],_::_,_,_,h=>by simp[Ji]at h
 |[],[],_::_,_,h=>by simp[Ji]at h
 |.d _::_,[],_,_,h=>by simp[Ji]at h
 |.own _ _::_,_,_,_,h=>by simp[Ji]at h
 |.q _::_,_::_,_,_,h=>by simp[Ji]at h
 |.fn _ _::_,[],_,_,h=>by simp[Ji]at h
 |.q _::_,[],[],_,h=>by simp[Ji]at h
def Oy:∀{rs:N RM}{x:IK (rs.map RM.ty)}{us:N wW},RE rs=wT->zC Tru (csF (rs.map RM.ty) x us) w->zC S (csF (rs.map RM.ty) x us) w
 |[],_,_,_,_=>trivial
 |[.d .i],x,us,_,h=>⟨h.1,jP⟩
 |[.d .u],x,us,_,h=>⟨h.1,jP⟩
 |[.d .b],x,us,_,h=>⟨h.1,jP⟩
 |.d .i::n::r,x,us,a,h=>⟨h.1,Oy (rs:=n::r) a h.2⟩
 |.d .u::n::r,x,us,a,h=>⟨h.1,Oy (rs:=n::r) a h.2⟩
 |.d .b::n::r,x,us,a,h=>⟨h.1,Oy (rs:=n::r) a h.2⟩
def zk3(p:∀s∈cf.cs,yU P s)(J:BZ P cf){f:ul}{a:Z3 ul}{ts:Z3 kW}{k:N (K×Dv)->V R}(h:zcw cf cx σ f a.toList k=Z r):
 ∃l,k l=Z r/\ES P ⟨d,.call ⟨.value f,a,ts⟩,ty,m7,xS,g⟩ cx σ F l:=by
 have u:∀{vs H S w},(∀i∈yO (.call ⟨.value f,a,ts⟩),Lk P vs H S w cx σ i)->Xj P vs H S w cx σ f:=λhl=>yK hl (by simp[xaB,xeE]);have A:∀{vs H S w},(∀i∈yO (.call ⟨.value f,a,ts⟩),Lk P vs H S w cx σ i)->∀x∈a.toList,Xj P vs H S w cx σ x:=λhl x j=>yK hl (by simp only[xaB,xeE,Array.toList_append,xab];exact .inr j);unfold zcw at h;split at h;rename_i f0 cs B;split at h;rename_i s m;have⟨h1,c⟩:=zhU m;have⟨C,e⟩:=J.cl s h1;have⟨z,h,hd,n⟩:=OQ h;refine⟨_,h,uW λH w S vs D hl=> ?_⟩;have⟨b,hv,o,E⟩:=zj B<|u hl;obtain rfl:b=[]:=xbt.1 o;have hc:=e z (a.toList.map<|ev H) (by simpa using hd);rw[c]at hc C;rw[<-xbo<|a.toList.map<|ev H]at hc;exact⟨_,_,_,_,tsF s.dom z<|a.toList.map (ev H)++[],[],sG (asv:=a.toList) C hv hc O<|λS w h=>h,jP,by rw[xbo];exact n P vs H S w<|A hl,λv w' _ hi=>zu hi.1⟩;split at h;rename_i s m;have⟨h1,c,L,M,G⟩:=DK m;have e:=p s h1;have⟨hn,h⟩:=yf h;have⟨z,h,hd,n⟩:=sr (F:=F) p h;have⟨q,Q,h⟩:=CA h;refine⟨_,h,λH w S vs Y D hl=> ?_⟩;have⟨b,hv,o,E⟩:=zj B<|u hl;have hc:=ph e L M G Q (us:=a.toList.map (ev H)++b) (by simp at hd⊢;lia);rw[c]at hc;have T:=n vs H S w D (A hl) b o E;refine(sG (asv:=a.toList) (ms:=[]) (Γ:=jC P s.dom z<|a.toList.map (ev H)++b) (c▸e.1) hv hc O (λS w h=>h) w Tru (λ_ _=>jP) jP T).mono ?_;rintro v w' ⟨us,rfl,U,j,hi⟩;refine⟨j,?_⟩;unfold zlA;rw[Oq G,TU];exact Fm (Oy hn hi)<|by simpa using U
 cases h
 cases h
def ztg(a:yT P cf.tt)(b:uf P cf.tt)(e:∀s∈cf.cs,yU P s)(f:BZ P cf){c:Op}{k:N (K×Dv)->V R}(h:eCo cf cx σ c k=Z r):∃l,k l=Z r/\ES P ⟨d,c,ty,m7,xS,g⟩ cx σ F l:=by unfold eCo at h;split at h;exact zmM a h;exact zko a b h;exact zjS a h;exact zhe a b h;exact znX a h;exact zk3 e f h;cases h
def zm3(b:yT P cf.tt)(c:uf P cf.tt)(e:∀s∈cf.cs,yU P s)(f:BZ P cf){a:Op}{k:N (K×Dv)->V R}(h:eOp cf cx σ a k=Z r):∃l,k l=Z r/\ES P ⟨d,a,ty,m7,xS,g⟩ cx σ F l:=by
 unfold eOp at h;cases hc:zrn cf cx σ a<;>rw[hc]at h
 exact zpF b c e f.ex h;exact ztg b c e f h
end
end
section
section
variable{P:uS}{cf:Cf}{fr:Fr}{cx σ:Sg}{vs i9:wL->wW}{H:xj}{w:qR}{R:Type}{r:R}
 {d:wN Wf}{ty t yt:kW}{m7:String}{xS:Z3 Edge}{g:wN (wL×ut)}{x y:ul}
abbrev GS(P:uS)(vs:K->wW)(H:xj)(fr:Fr)(cx σ:Sg):N FF:=RS P vs H σ.rg++(RS P vs H cx.rg++fr.G)
abbrev OS(vs:K->wW)(fr:Fr)(cx:Sg)(ob:N (K×Od)):N MF:=MS vs ob++(MS vs cx.ob++fr.F)
def Y9{S:K->Prop}(h:zC S (GS P vs H fr cx σ) w)(t:Wf):Lk P vs H S w cx σ t:=by
 intro i dv hd;obtain hm|hm:=DB hd
 exact Kv (zC.left h) hm;exact Kv (zC.left<|zC.right h) hm
def zO{S:K->Prop}(h:zC S (GS P vs H fr cx σ) w)(x:ul):Xj P vs H S w cx σ x:=λt _=>Y9 h t
def fT(P:uS)(fr:Fr)(cx σ:Sg)(vs:K->wW)(H:xj)(w:qR):Prop:=Bd cx σ/\St fr.we fr.Se (OS vs fr cx σ.ob) (GS P vs H fr cx σ) w
def pj(P:uS)(fr:Fr)(cx:Sg)(n:K)(vs:K->wW)(σ:Sg)(H:xj)(w:qR):Prop:=∃i9,(∀o,o<n->i9 o=vs o)/\fT P fr cx σ i9 H w
def pj.rel{n:K}(h:pj P fr cx n vs σ H w):uK P fr cx σ H w:=by have⟨i9,_,h1,a⟩:=h;exact⟨h1,i9,a⟩
theorem Nh{v:wW}{m6:Sg}{l:N (K×Dv)}{Γl:N FF}(c:Bd cx σ)(hd:wM cx d=wT)(i:m6.rg=qI σ.rg d l)(hn:σ.nx<=m6.nx)(j:∀o,o<σ.nx->i9 o=vs o)
 (hl:∀e∈l,∀o,vv e.2=Z o->o<m6.nx) (n:∀e∈m6.ob,e.1<m6.nx) (q:∀S w,zC S Γl w->∀e∈l,(vU P i9 e.2 v e.1).p S w)
 (s:St fr.we fr.Se (OS i9 fr cx m6.ob) (Γl++GS P vs H fr cx σ) w):fT P fr cx m6 i9 (put H d v) w:=by
 refine⟨⟨n,λe he=>xag (c.o2 e he) hn,?_,λe he o a=>xag (c.r2 e he o a) hn⟩,s.weak λS w h=> ?_⟩;intro e he o a;rw[i]at he;unfold qI at he
 cases d with
 |none=>exact xag (c.r1 e he o a) hn
 |some t=>
  obtain he|he:=xab.1 he
  grind;exact xag (c.r1 e (xbW.1 he).1 o a) hn
 have b:=zC.right h;have h1:zC S (RS P i9 H σ.rg) w:=by rw[uv (λe he o a=>j o<|c.r1 e he o a)<|λ_ _=>O];exact zC.left b
 have k:zC S (RS P i9 H cx.rg) w:=by rw[uv (λe he o a=>j o<|c.r2 e he o a)<|λ_ _=>O];exact zC.left<|zC.right b
 have m:=zC.right<|zC.right b
 cases d with
 |none=>
  unfold GS;rw[show m6.rg=σ.rg from i];exact zC.append h1<|zC.append k m
 |some t=>
  have u:RS P i9 (put H (Z t) v) cx.rg=RS P i9 H cx.rg:=uv (λ_ _ _ _=>O) λe he=>oZ λht=>by
   simp only[wM,Wx,xaT]at hd;have:=hd e he;simp only[xav]at ht;rw[ht]at this;simp at this
  unfold GS;rw[i,u];refine zC.append (ud.2 λf hp=> ?_)<|zC.append k m;obtain⟨e,he,rfl⟩:=xat.1 hp;obtain he|he:=xab.1 he
  obtain⟨z,A,rfl⟩:=xat.1 he;simp only[ED];exact q S w (zC.left h) z A
  have⟨B,hi⟩:=xbW.1 he;have C:Z t≠Z e.1:=λhc=>by
   simp only[xav]at hc;rw[hc]at hi;simp at hi
  rw[oZ C];exact Kv h1 B
def KA{v:wW}{m6:Sg}{l:N (K×Dv)}{Γl:N FF}(b:Bd cx σ)(hd:wM cx d=wT)(hc:m6.rg=qI σ.rg d l)(hn:σ.nx<=m6.nx)(a:∀o,o<σ.nx->i9 o=vs o)
 (hl:∀e∈l,∀o,vv e.2=Z o->o<m6.nx) (c:∀e∈m6.ob,e.1<m6.nx) (f:∀S w,zC S Γl w->∀e∈l,(vU P i9 e.2 v e.1).p S w)
 (h:St fr.we fr.Se (OS i9 fr cx m6.ob) (Γl++GS P vs H fr cx σ) w):pj P fr cx σ.nx vs m6 (put H d v) w:=⟨i9,a,Nh b hd hc hn a hl c f h⟩
def zkL(P:uS)(vs:K->wW)(v:wW)(l:N (K×Dv)):N FF:=l.map λe=>vU P vs e.2 v e.1
def SY{n:K}{l:N (K×Dv)}(h:okL n l=wT):∀e∈l,∀o,vv e.2=Z o->o<n:=by intro e a o b;unfold okL at h;rw[xaT]at h;have:=h e a;simp_all
def ES.mono{o:Xs}{l:N (K×Dv)}{F:N MF}(h:ES P o cx σ [] l):ES P o cx σ F l:=by
 intro H w S vs h1 a b;refine h H w S vs h1 (Yv.2 λm hm=>Yv.1 a m ?_) b;obtain hm|hm:=xab.1 hm
 simp_all;simp_all
def zno{o:Xs}{l:N (K×Dv)}(h:ES P o cx σ fr.F l)(hd:wM cx o.dst=wT)(hl:okL σ.nx l=wT)(q:fT P fr cx σ vs H w):ux P o H w (λv w'=>pj P fr cx σ.nx vs (σ.put o.dst l) (put H o.dst v) w'):=by have⟨j,h1,s,u,S,z,n,A,b,p⟩:=q;refine(h H w S vs n b λt _=>Y9 p t).mono ?_;rintro v w' ⟨a,B⟩;refine KA (m6:=σ.put o.dst l) (Γl:=zkL P vs v l) j hd O (Nm _) (λ_ _=>O) (SY hl) j.o1 (λS w C e c=>ud.1 C _<|xat.2 ⟨e,c,O⟩) ?_;refine⟨h1.trans a,s,u,S,z,λk D=>n k<|xal a.size D,A,yP.keep a.to (λm E i hi=>a.block i (yP.lt b m E i hi) jP) b,zC.append (ud.2 λf hc=> ?_)<|zC.keep a.to p⟩;obtain⟨e,c,rfl⟩:=xat.1 hc;exact B e c
def nQ(P:uS)(cx:Sg)(o:Xs)(σ:Sg)(k:Sg->V R)(r:R):Prop:=∃m6,k m6=Z r/\σ.nx<=m6.nx/\∀(fr:Fr) (vs:K->wW) (H:xj) (w:qR),fT P fr cx σ vs H w->ux P o H w (λv w'=>pj P fr cx σ.nx vs m6 (put H o.dst v) w')
def m_E(hT:yT P cf.tt)(hL:uf P cf.tt)(hC:∀s∈cf.cs,yU P s)(hX:BZ P cf){op:Op}{k:Sg->V R}(hd:wM cx d=wT)(h:mE cf cx σ d op k=Z r):nQ P cx ⟨d,op,ty,m7,xS,g⟩ σ k r:=by
 obtain⟨l,h,ha⟩:=zm3 hT hL hC hX h;obtain⟨hl,h⟩:=yf h;exact⟨_,h,Nm _,λfr vs H w hR=>zno ha.mono hd hl hR⟩
def Wu(vs:K->wW)(n:K)(v:wW):K->wW:=λo=>bif xah o n then v else vs o
def wj{n:K}{v:wW}:Wu vs n v n=v:=by simp[Wu]
def ua{n o:K}{v:wW}(h:o<n):Wu vs n v o=vs o:=by unfold Wu;rw[YM W];rfl
def zgs{n:K}{v:wW}{ob:N (K×Od)}(h:∀e∈ob,e.1<n):MS (Wu vs n v) ob=MS vs ob:=wC λe a=>ua<|h e a
def NJ{v:wW}{ob:N (K×Od)}(a:Bd cx σ)(h:∀e∈ob,e.1<σ.nx):OS (Wu vs σ.nx v) fr cx ob=OS vs fr cx ob:=by show MS _ ob++(MS _ cx.ob++_)=_;rw[zgs h,zgs a.o2]
theorem UU{v:wW}{mk:K->Dv}{X:Od}{ob:N (K×Od)}(a:Bd cx σ)(hd:wM cx d=wT)(b:∀e∈ob,e.1<σ.nx)(i:∀o,vv (mk o)=Z o)(hc:∀S w,(vC P (Wu vs σ.nx v) (mk σ.nx) v).p S w)
 (c:St fr.we fr.Se (Ug (Wu vs σ.nx v) (σ.nx,X)::OS vs fr cx ob) (GS P vs H fr cx σ) w):pj P fr cx σ.nx vs ⟨σ.nx+1,qI σ.rg d [(0,mk σ.nx)],(σ.nx,X)::ob⟩ (put H d v) w:=by
 refine KA (i9:=Wu vs σ.nx v) (Γl:=[]) a hd O (xbB _) (λo f=>ua f) ?_ ?_ ?_ ?_;simp_all;grind;intro S w _ e h;obtain rfl:=xad.1 h;exact hc S w;show St _ _ (Ug (Wu vs σ.nx v) (σ.nx,X)::OS (Wu vs σ.nx v) fr cx ob) _ _;rw[NJ a b];exact c
def Uk{v:wW}(S:K->Prop)(w:qR):(vC P (Wu vs σ.nx v) (.ow σ.nx) v).p S w:=(wj).symm
def zax{t:Ty}{b:K}(S:K->Prop)(w:qR):(vC P (Wu vs σ.nx (.pointer<|some ⟨b,0,wS⟩)) (.vs σ.nx t) (.pointer<|some ⟨b,0,wS⟩)).p S w:=⟨wj.symm,b,wj⟩
def bh{t:Ty}{E:kW}{xs:N t.D}{n:K}{v:wW}:Ug (Wu vs n v) (n,.own t E xs)=mO t.rep E v xs:=by simp only[Ug,wj]
def Ot{t:Ty}{E:kW}{z:t.D}{n:K}{v:wW}:Ug (Wu vs n v) (n,.var t E z)=mP t.rep.c E v z:=by simp only[Ug,wj]
def zml(j:yT P cf.tt){E:kW}{k:Sg->V R}(hd:wM cx d=wT)(h:zaM cf σ d E k=Z r):nQ P cx ⟨d,.alloc E,ty,m7,xS,g⟩ σ k r:=by unfold zaM at h;split at h;rename_i a l;have⟨f,hc,s,m⟩:=YX j l;refine⟨_,h,xbB _,λfr vs H w n=> ?_⟩;have⟨i,p⟩:=n;refine(Bg (e:=a.ty.rep.c) hc m w p).mono ?_;rintro v w' ⟨b,rfl,_,q⟩;refine UU (mk:=λo=> .vs o a.ty) i hd i.o1 (λ_=>O) (λS w=>zax S w) ?_;rw[Ot];exact q.toP 0 O;cases h
def zqZ{E:kW}{k:Sg->V R}(hd:wM cx d=wT)(h:zpS cf cx σ d E x k=Z r):nQ P cx ⟨d,.box E x,ty,m7,xS,g⟩ σ k r:=by unfold zpS at h;split at h;rename_i c l;have⟨y,h,e⟩:=QM h;refine⟨_,h,xbB _,λfr vs H w f=> ?_⟩;have⟨a,hc⟩:=f;refine(zmR O (λS w i=>e P vs H S w<|zO i x) w hc).mono ?_;rintro v w' ⟨b,rfl,_,j⟩;refine UU (mk:=λo=> .vs o c.ty) a hd a.o1 (λ_=>O) (λS w=>zax S w) ?_;rw[Ot];exact j.toP 0 O;cases h
def zdH(h:zdn x y=wT):ev H x=ev H y:=by unfold zdn at h;split at h;rw[yb h];simp only[eqI,UL]at h;rw[h];cases h
def zo1(a:yT P cf.tt){k:Sg->V R}(hd:wM cx d=wT)(h:zf2 cf cx σ d t x y k=Z r):nQ P cx ⟨d,.makeSlice t x y,ty,m7,xS,g⟩ σ k r:=by
 unfold zf2 at h;split at h;rename_i s E B ht;have⟨hi,h⟩:=yf h;split at h;rename_i f n i hn;have⟨C,h⟩:=yq h;subst C;have⟨l,hl,L,D⟩:=YX a i;have⟨j,F,h⟩:=zcX h;have⟨m,h⟩:=ZW h;have⟨xs,o,h⟩:=wK h;refine⟨_,h,xbB _,λfr vs H w G=> ?_⟩;have⟨p,q⟩:=G;have⟨S0,_,c⟩:=q.ex;have u:ev H x=.int .i64 (j:J):=by rw[(va hn<|zO c x).1,F]
 have A:=(a _ _ i).2.1;refine(zaz (e:=f.ty.rep) (z:=f.ty.z) (xs:=xs) (n:=j) (qB a ht) hl u ((zdH hi).symm.trans u) A m D o w q).mono ?_;rintro v w' ⟨b,rfl,_,K⟩;refine UU (vs:=vs) (mk:=.ow) p hd p.o1 (λ_=>O) (λS w=>Uk S w) ?_;rw[bh];have hc:X xs=j:=by rw[o];exact xaN
 have:=K.closeF 0 O (by rw[hc];exact Nm _)<|ziI A m;rw[hc]at this;exact this;cases h
 cases h
def zrq(c:yT P cf.tt)(f:uf P cf.tt){n:K}{ps:Z3 (K×ul)}{k:Sg->V R}(hd:wM cx d=wT)(h:zoh cf cx σ d t n ps.toList k=Z r):nQ P cx ⟨d,.buildSlice t n ps,ty,m7,xS,g⟩ σ k r:=by
 unfold zoh at h;split at h;rename_i e E B ht;have⟨hc,h⟩:=yf h;have hc:=xbF hc;rw[<-e.n_rep]at hc;have⟨ys,h,m,o⟩:=sx h;have⟨bytes,i,hi⟩:=UI c f ht;refine⟨_,h,xbB _,λfr vs H w p=> ?_⟩;have⟨j,s⟩:=p;have u:(ps.toList.map λq:K×ul=>(q.1,ev H q.2)).map (·.1)=xfv 0 (X (ps.toList.map λq:K×ul=>(q.1,ev H q.2))):=by rw[xcE,xan];exact m
 have l:=λ(S:K->Prop) (w:qR) (a:zC S (GS P vs H fr cx σ) w)=>PA u<|o P vs H S w λx _=>zO a x;refine(zkh (qB c ht) hi (zhF c f ht) (nL n e ys) hc O (λS w a=>by have:=(l S w a).1;rwa[xcC]at this) (λS w a=>(l S w a).2) w s).mono ?_;rintro v w' ⟨b,rfl,_,z⟩;refine UU j hd j.o1 (λ_=>O) (λS w=>Uk S w) ?_;rw[bh];exact z;cases h
end
end
end Go.Proofs.YtoegnnjcmlghhaaGreat
