/- What a proof needs: rules of walking, mirrors of functions and their plain laws. No condition. -/
import Derived.Test.YtoegnnjcmlghhaaGreatZn1
import Derived.WideKeyArgs
import Derived.Laws.IdiomStrings
set_option linter.all false
namespace Go.Proofs.YtoegnnjcmlghhaaGreat
open Bool renaming false->I,true->qR
open Go renaming Value->jp,World->jP,TypeId->ut,Operand->uL,execOp->uT,Program->Z2,undef->XS,Oper->Wd,FuncId->Wf,Tmp->Wn,IntKind->Wr,Code->Wt,resolve->WR,Func->V0,invoke->V3,ResultVar->V5,eqGuard->V9,Act->QR,sizeOf->Jp,maxLen->JP,BinOp->Us,asIntOf->UL,builtin->am,Addr->aC,MemPlace->aM,Calls->bi,Exit->lm,goInt->pU,DataW->rX
open Go.Proofs.YtoegnnjcmlghhaaGreat renaming bd->G,za->Y,Zr->U,nm->B,ze->F,iq->E,zf->S,ir->P
open List renaming length->X,length->A2
open Nat renaming beq->Q
open Option renaming some->Z,none->wW
open _root_ renaming rfl->O,List->N,Int->J,Nat->K,Option->V,List->wF,Nat->wP,Option->wS,absurd->kW,trivial->ul,Bool->uS,Array->Z5,Unit->Wl,True->Ws,reduceCtorEq->WT,ByteArray->WW,False->UT,Decidable->U8
open Call renaming operands->xeJ
open DataW renaming TrodAll->xeY
open Extern renaming find->xfe,findNext->xeS
open Extern.MathBitsCarry renaming m64->xbg,pair->xcr,three->xbN
open Instr renaming fill->xdM,slice->xfS,sliceAt->xcZ,sliceBound->xeL,sliceBounds->xeA
open Int renaming fdiv->xfX,tdiv->xdC,tmod->xcG
open IntKind renaming i64->xdf
open List renaming drop->xdT,getD->xeN,getElem?_append_left->xbi,length->xaK,map_congr_left->xch,range->xaL,range'->xfw,replicate->So,set->xga,take->xdH,take_append_drop->xbK,take_of_length_le->xaY
open Nat renaming add_mul->xbl,ble->xfu,blt->xde,eq_of_beq_eq_true->xdF,lt_of_lt_of_le->xac
open Op renaming operands->xaC
open Oper renaming looksAt->xbn
open Option.some renaming inj->xfT
open Result renaming andThen_ok->xaq
open Sem renaming run_bind->xay,run_pure->xaX
open Sum renaming elim->xfj
open Value renaming okWide->xeE
open _root_.Array renaming getElem?_eq_some_iff->xbk
def UV:=@List.getD_eq_getElem?_getD
def xaE:=@Int.eq_ofNat_of_zero_le
def xbX:=@List.mem_filter
def xbc:=@Nat.not_lt_zero
def xbs:=@List.length_eq_zero_iff
def xby:=@Nat.le_succ
def xcJ:=@Nat.le_of_lt
def xco:=@List.getElem?_map
def xcw:=@Nat.eq_zero_or_pos
def xdg:=@Int.toNat_of_nonneg
def xdj:=@List.map_map
def xeR:=@Int.natCast_nonneg
def xec:=@List.cons.injEq
def xem:=@List.mem_filterMap
section
structure Wk where
 f:Wf
 dom:N AM
 cod:N RM
 M:aH dom->V (aI cod)
 bk:K
structure Je where
 s:Wk
 M:aH s.dom->V (PX⊕aI s.cod)
structure C8 where
 f:Wf
 t:Ty
 E:ut
 E1:ut
 M:N (N t.D)->N K->K->J->J->K->K->V (N<|N t.D)
structure Sq where
 f:Wf
 dom:N Ty
 g:Wf
 mc:ou dom->N PD
structure Ha where
 f:Wf
 dom:N AM
 t:Ty
 E:ut
 M:aH dom->{X Y:Type}->(N t.D->X->V (N t.D×(X⊕Y)))->X->V (X⊕Y)
structure Cf where
 tt:N (K×TI)
 cs:N Wk
 an:An
 fu:K
 ex:N (K×uS)
 ms:N C8:=[]
 cl:N Sq:=[]
 is:N Ha:=[]
 ps:N Je:=[]
def zjj:N C8->Wf->V C8
 |[],_=>wW
 |s::r,f=>bif Q s.f f then Z s else zjj r f
def zfx:N Sq->Wf->V Sq
 |[],_=>wW
 |s::r,f=>bif Q s.f f then Z s else zfx r f
def zjO:N Ha->Wf->V Ha
 |[],_=>wW
 |s::r,f=>bif Q s.f f then Z s else zjO r f
abbrev jK{R:Type}(b:uS)(x:V R):V R:=match b with
 |true=>x
 |false=>wW
abbrev OA{R:Type}(b:uS)(x y:V R):V R:=match b with
 |true=>x
 |false=>y
def Dk:N AM->uS
 |[]=>qR
 |.own _ _::_=>I
 |.var _ _::_=>I
 |_::r=>Dk r
def noV:N RM->uS
 |[]=>qR
 |.var _ _::_=>I
 |_::r=>noV r
def Hs:N Wk->Wf->V Wk
 |[],_=>wW
 |s::r,f=>bif Q s.f f && (Dk s.dom && (Q s.bk 0 && noV s.cod))then Z s else Hs r f
section
variable{R:Type}(cf:Cf)(cx:Sg)
def zkv:Dv->V PD
 |.d t x=>Z ⟨t,x⟩
 |.kb b=>Z ⟨.b,b⟩
 |_=>wW
def CQ(v:V Dv)(t:Ty)(k:t.D->V R):V R:=match v with
 |some .nil=>(match t,k with
  |.l s,k=>k ([]:N s.D)
  |_,_=>wW)
 |some .np=>(match t,k with
  |.po s,k=>k (wW:V s.D)
  |_,_=>wW)
 |some (.q s y)=>(match t,k with
  |.po a,k=>Ty.cast s a y λy=>k (Z y:V a.D)
  |_,_=>wW)
 |some v=>(match zkv v with
  |some p=>Ty.cast p.t t p.x k
  |none=>wW)
 |none=>wW
def arI(b:Us)(a c:J)(k:Dv->V R):V R:=match b with
 |.add=>S (a+c) λx=>k (.d .i x)
 |.sub=>S (a-c) λx=>k (.d .i x)
 |.mul=>S (a*c) λx=>k (.d .i x)
 |.quo=>ck (c≠0)<|S (xdC a c) λx=>k (.d .i x)
 |.rem=>ck (c≠0)<|B (xcG a c) λx=>k (.d .i x)
 |.and=>B (zaY a c) λx=>k (.d .i x)
 |.or=>B (orI a c) λx=>k (.d .i x)
 |.shr=>ck (0<=c)<|B (xfX a<|2^(min c.toNat 64)) λx=>k (.d .i x)
 |.shl=>ck (0<=c)<|S (a*2^(min c.toNat 64)) λx=>k (.d .i x)
 |.lss=>if a<c then k (.kb qR)else k (.kb I)
 |.leq=>if a<=c then k (.kb qR)else k (.kb I)
 |.gtr=>if c<a then k (.kb qR)else k (.kb I)
 |.geq=>if c<=a then k (.kb qR)else k (.kb I)
 |.eql=>if a=c then k (.kb qR)else k (.kb I)
 |.neq=>if a=c then k (.kb I)else k (.kb qR)
 |_=>wW
def arU(b:Us)(a c:K)(k:Dv->V R):V R:=match b with
 |.add=>B ((a+c)%18446744073709551616) λx=>k (.d .u x)
 |.sub=>B ((a+18446744073709551616-c)%18446744073709551616) λx=>k (.d .u x)
 |.mul=>B ((a*c)%18446744073709551616) λx=>k (.d .u x)
 |.quo=>ck (c≠0)<|B (a/c) λx=>k (.d .u x)
 |.rem=>ck (c≠0)<|B (a%c) λx=>k (.d .u x)
 |.and=>B (a &&& c) λx=>k (.d .u x)
 |.or=>B (a|||c) λx=>k (.d .u x)
 |.lss=>if(a:J)<(c:J)then k (.kb qR)else k (.kb I)
 |.leq=>if(a:J)<=(c:J)then k (.kb qR)else k (.kb I)
 |.gtr=>if(c:J)<(a:J)then k (.kb qR)else k (.kb I)
 |.geq=>if(c:J)<=(a:J)then k (.kb qR)else k (.kb I)
 |.eql=>if(a:J)=(c:J)then k (.kb qR)else k (.kb I)
 |.neq=>if(a:J)=(c:J)then k (.kb I)else k (.kb qR)
 |_=>wW
def arC(b:Us)(a c:K)(k:Dv->V R):V R:=match b with
 |.add=>B ((a+c)%256) λx=>k (.d .ch x)
 |.sub=>B ((a+256-c)%256) λx=>k (.d .ch x)
 |.lss=>if(a:J)<(c:J)then k (.kb qR)else k (.kb I)
 |.leq=>if(a:J)<=(c:J)then k (.kb qR)else k (.kb I)
 |.gtr=>if(c:J)<(a:J)then k (.kb qR)else k (.kb I)
 |.geq=>if(c:J)<=(a:J)then k (.kb qR)else k (.kb I)
 |.eql=>if(a:J)=(c:J)then k (.kb qR)else k (.kb I)
 |.neq=>if(a:J)=(c:J)then k (.kb I)else k (.kb qR)
 |_=>wW
def eqT(b:Us)(a c:N K)(k:Dv->V R):V R:=match b with
 |.add=>ck (X a+X c<=9223372036854775807)<|B (a++c) λx=>k (.d .tx x)
 |.eql=>if a=c then k (.kb qR)else k (.kb I)
 |.neq=>if a=c then k (.kb I)else k (.kb qR)
 |_=>wW
def shU(b:Us)(a:K)(c:J)(k:Dv->V R):V R:=match b with
 |.shr=>ck (0<=c)<|B (a/2^(min c.toNat 64)) λx=>k (.d .u x)
 |.shl=>ck (0<=c)<|B (a*2^(min c.toNat 64)%18446744073709551616) λx=>k (.d .u x)
 |_=>wW
def zdJ(b:Us)(a c:K)(k:Dv->V R):V R:=match b with
 |.shr=>B (a/2^(min (c:J).toNat 64)) λx=>k (.d .u x)
 |.shl=>B (a*2^(min (c:J).toNat 64)%18446744073709551616) λx=>k (.d .u x)
 |_=>wW
def shI(b:Us)(a:J)(c:K)(k:Dv->V R):V R:=match b with
 |.shr=>B (xfX a<|2^(min (c:J).toNat 64)) λx=>k (.d .i x)
 |.shl=>S (a*2^(min (c:J).toNat 64)) λx=>k (.d .i x)
 |_=>wW
def eqB(e:Us)(a c:uS)(k:Dv->V R):V R:=match e with
 |.eql=>B (a==c) λx=>k (.d .b x)
 |.neq=>B (!(a==c)) λx=>k (.d .b x)
 |_=>wW
def zdt(a:Us)(b:uS)(k:Dv->V R):V R:=match a with
 |.eql=>if b=qR then k (.kb qR)else k (.kb I)
 |.neq=>if b=qR then k (.kb I)else k (.kb qR)
 |_=>wW
def eqP(a:Us)(x:V Dv)(k:Dv->V R):V R:=match x with
 |some .np=>zdt a qR k
 |some (.q _ _)=>zdt a I k
 |some (.vs _ _)=>zdt a I k
 |some (.d (.po s) y)=>zdt a (Option.isNone (α:=s.D) y) k
 |_=>wW
def zj8:V Dv->uS
 |some .np=>qR
 |_=>I
def znu(d:uS)(bo:Us)(x y:V PD)(k:Dv->V R):V R:=match x,y with
 |some ⟨.i,a⟩,Z ⟨.i,c⟩=>arI bo a c k
 |some ⟨.u,a⟩,Z ⟨.u,c⟩=>(match bo with
  |.shr=>zdJ .shr a c k
  |.shl=>zdJ .shl a c k
  |bo=>arU bo a c k)
 |some ⟨.u,a⟩,Z ⟨.i,c⟩=>shU bo a c k
 |some ⟨.i,a⟩,Z ⟨.u,c⟩=>shI bo a c k
 |some ⟨.b,a⟩,Z ⟨.b,c⟩=>jK d<|eqB bo a c k
 |some ⟨.ch,a⟩,Z ⟨.ch,c⟩=>arC bo a c k
 |some ⟨.tx,a⟩,Z ⟨.tx,c⟩=>eqT bo a c k
 |_,_=>wW
def chI(a:K):Dv:=.d .i (a:J)
def chU(a:K)(k:Dv->V R):V R:=B (a%256) λx=>k (.d .ch x)
def zqR(b:TK)(x:V PD)(k:Dv->V R):V R:=match b,x with
 |.int .i64,Z ⟨.i,a⟩=>k (.d .i a)
 |.int .u64,Z ⟨.u,a⟩=>k (.d .u a)
 |.int .u64,Z ⟨.i,a⟩=>B (E4 a) λx=>k (.d .u x)
 |.int .i64,Z ⟨.u,a⟩=>B (sgn a) λx=>k (.d .i x)
 |.int .i64,Z ⟨.ch,a⟩=>k<|chI a
 |.int .u64,Z ⟨.ch,a⟩=>k (.d .u a)
 |.int .u8,Z ⟨.ch,a⟩=>k (.d .ch a)
 |.int .u8,Z ⟨.u,a⟩=>chU a k
 |_,_=>wW
def pd(σ:Sg)(x:uL):V PD:=match xG cx σ x with
 |some v=>zkv v
 |none=>wW
def YF(t:ut):V TI:=U2 cf.tt t
def isB(t:ut):uS:=match YF cf t with
 |some ⟨_,.bool,_⟩=>qR
 |_=>I
def zku(t:ut):uS:=match YF cf t with
 |some ⟨_,.pt _,_⟩=>qR
 |_=>I
def znZ(σ:Sg)(x:uL)(k:N (K×Dv)->V R):V R:=match xG cx σ x with
 |some (.q t y)=>k [(0,.q t y)]
 |some (.vs o t)=>k [(0,.vs o t)]
 |some (.d (.po t) y)=>G (β:=t.D) y λy=>k [(0,.q t y)]
 |_=>wW
def ifB(x:uS)(a c:V R):V R:=if x=qR then a else c
def eqI(x y:J):uS:=decide<|x=y
def eqU(x y:K):uS:=decide<|x=y
def ngI(a:J)(k:Dv->V R):V R:=S (0-a) λx=>k (.d .i x)
def ngU(a:K)(k:Dv->V R):V R:=B ((18446744073709551616-a)%18446744073709551616) λx=>k (.d .u x)
def zqL{α:Type}(xs ys:N α)(B:K)(k:N α->V R):V R:=ck ((X xs+X ys)*B<=140737488355328)<|nm (xs++ys) k
def zsC{α:Type}(xs:N α)(n:K)(z:α)(B:K)(k:N α->V R):V R:=ck ((X xs+n)*B<=140737488355328)<|nm (xs++So n z) k
def ixU(j n:K)(k:K->V R):V R:=zI (j:J) n k
def zcC:uL->uL->uS
 |.tmp s,.tmp t=>Q s t
 |.const (.int .i64 x),.const (.int .i64 y)=>eqI x y
 |_,_=>I
def exU(b:uS)(x y z:K)(k:N (K×Dv)->V R):V R:=
 ck (z<=1)<|OA b (B ((x+y+z)%18446744073709551616) λp=>B ((x+y+z)/18446744073709551616) λq=>k [(1,.d .u p),(2,.d .u q)])
  (B ((x+18446744073709551616-y-z)%18446744073709551616) λp=>B (if x<y+z then(1:K)else 0) λq=>k [(1,.d .u p),(2,.d .u q)])
def exD(b:uS)(x y z:V PD)(k:N (K×Dv)->V R):V R:=match x,y,z with
 |some ⟨.u,x⟩,Z ⟨.u,y⟩,Z ⟨.u,z⟩=>exU b x y z k
 |_,_,_=>wW
def parts(σ:Sg):(ts:N Ty)->N (K×uL)->K->(ou ts->V R)->V R
 |[],[],_,k=>k ()
 |t::ts,(i,x)::r,j,k=>jK (Q i j)<|CQ (xG cx σ x) t λy=>parts σ ts r (j+1) λys=>k (y,ys)
 |_,_,_,_=>wW
def zee:(k:K)->Ty->N Ty
 |0,_=>[]
 |1,t=>[t]
 |k+2,.p s t=>s::zee (k+1) t
 |_,_=>[]
def dP:(k:K)->(t:Ty)->ou (zee k t)->V t.D
 |0,_,_=>wW
 |1,t,x=>Z x.1
 |k+2,.p s t,x=>match dP (k+1) t x.2 with
  |some y=>Z (x.1,y)
  |none=>wW
 |_+2,.i,_=>wW
 |_+2,.u,_=>wW
 |_+2,.b,_=>wW
 |_+2,.l _,_=>wW
 |_+2,.a _ _,_=>wW
 |_+2,.ch,_=>wW
 |_+2,.tx,_=>wW
 |_+2,.po _,_=>wW
 |_+2,.w1 _,_=>wW
def Hl:K->Ty->N Ty
 |0,_=>[]
 |n+1,t=>t::Hl n t
def CX:(n:K)->(t:Ty)->ou (Hl n t)->N t.D
 |0,_,_=>[]
 |n+1,t,x=>x.1::CX n t x.2
def cG(σ:Sg):N uL->V (N PD)
 |[]=>Z []
 |x::r=>match xG cx σ x,cG σ r with
  |some (.q t y),Z l=>Z (⟨t,y⟩::l)
  |_,_=>wW
def cQ:(a:N AM)->N PD->V (aH a)
 |[],[]=>Z ()
 |.q t::r,c::cs=>Ty.cast c.t t c.x λy=>match cQ r cs with
  |some z=>Z (y,z)
  |none=>wW
 |_,_=>wW
def NN:(full:N AM)->(dom:N Ty)->ou dom->N PD->V (aH full)
 |full,[],_,cs=>cQ full cs
 |.d t::r,s::dom,x,cs=>Ty.cast s t x.1 λy=>match NN r dom x.2 cs with
  |some z=>Z (y,z)
  |none=>wW
 |_,_::_,_,_=>wW
def Mv:(s t:N Ty)->V (PLift<|s=t)
 |[],[]=>Z ⟨O⟩
 |s::a,t::ts=>match Ty.same s t,Mv a ts with
  |some ⟨h⟩,Z ⟨b⟩=>Z ⟨h▸b▸O⟩
  |_,_=>wW
 |_,_=>wW
def RM.D_ty:∀r:RM,r.D=r.ty.D
 |.d _=>rfl
 |.own _ _=>rfl
 |.var _ _=>rfl
def W6:∀rs:N RM,aI rs=Ia (rs.map RM.ty)
 |[]=>rfl
 |[m]=>RM.D_ty m
 |m::n::r=>by show(m.D×aI (n::r))=(m.ty.D×Ia ((n::r).map RM.ty));rw[RM.D_ty m,W6 (n::r)]
def asF(σ:Sg)(v:V Dv)(dom cod:N Ty)(k:(ou dom->V (Ia cod))->V R):V R:=match v with
 |some (.fn f c)=>(match Hs cf.cs f with
  |some s=>(match Mv (s.cod.map RM.ty) cod with
   |some ⟨h⟩=>k λx=>match NN s.dom dom x c with
    |some y=>((W6 s.cod).trans<|Z4 Ia h)▸s.M y
    |none=>wW
   |none=>wW)
  |none=>wW)
 |some (.fp d c g)=>(match Mv d dom,Mv c cod with
  |some ⟨h⟩,Z ⟨a⟩=>k<|h▸a▸g
  |_,_=>wW)
 |_=>wW
def Q5(σ:Sg):(dom:N AM)->N uL->N PD->(aH dom->V R)->V R
 |[],[],[],k=>k ()
 |.q t::r,[],c::cs,k=>Ty.cast c.t t c.x λy=>Q5 σ r [] cs λz=>k (y,z)
 |.d t::r,x::xs,cs,k=>CQ (xG cx σ x) t λy=>Q5 σ r xs cs λz=>k (y,z)
 |.q t::r,x::xs,cs,k=>(match xG cx σ x with
  |some (.q s y)=>Ty.cast s t y λy=>Q5 σ r xs cs λz=>k (y,z)
  |_=>wW)
 |.fn dom cod::r,x::xs,cs,k=>asF cf σ (xG cx σ x) dom cod λg=>Q5 σ r xs cs λz=>k (g,z)
 |_,_,_,_=>wW
def zaK:(rs:N RM)->aI rs->K->N (K×Dv)
 |[],_,_=>[]
 |[.d t],x,i=>[(i,.d t x)]
 |[.own t _],x,i=>[(i,.d (.l t) x)]
 |[.var t _],x,i=>[(i,.d t x)]
 |.d t::r::rs,x,i=>(i,.d t x.1)::zaK (r::rs) x.2 (i+1)
 |.own t _::r::rs,x,i=>(i,.d (.l t) x.1)::zaK (r::rs) x.2 (i+1)
 |.var t _::r::rs,x,i=>(i,.d t x.1)::zaK (r::rs) x.2 (i+1)
def bJ:N RM->uS
 |[_]=>qR
 |_=>I
def zj9(rs:N RM)(x:aI rs):N (K×Dv):=zaK rs x<|bif bJ rs then 0 else 1
def IY(σ:Sg):(dom:N Ty)->N uL->(ou dom->V R)->V R
 |[],[],k=>k ()
 |t::r,x::xs,k=>CQ (xG cx σ x) t λy=>IY σ r xs λz=>k (y,z)
 |_,_,_=>wW
def zfa:(cod:N Ty)->Ia cod->K->N (K×Dv)
 |[],_,_=>[]
 |[t],x,i=>[(i,.d t x)]
 |t::s::r,x,i=>(i,.d t x.1)::zfa (s::r) x.2 (i+1)
def zk1:N Ty->uS
 |[_]=>qR
 |_=>I
def zms(σ:Sg)(v:V Dv)(k:PD->V R):V R:=match v with
 |some (.q t x)=>k ⟨t,x⟩
 |some (.vs o _)=>(match Qb cx σ o with
  |some (.var t _ z)=>k ⟨t,z⟩
  |_=>wW)
 |some (.vp o t f)=>(match Qb cx σ o with
  |some (.var a _ z)=>Ty.cast a t z λz=>k ⟨f.f,f.get z⟩
  |_=>wW)
 |some (.ep o t j f)=>(match Qb cx σ o with
  |some (.own a _ xs)=>Ty.cast (.l a) (.l t) xs λxs=>B (f.get<|xeN xs j t.z) λy=>k ⟨f.f,y⟩
  |_=>wW)
 |_=>wW
def atI(σ:Sg)(x:uL)(n:K)(k:K->V R):V R:=match pd cx σ x with
 |some ⟨.i,j⟩=>zI j n k
 |some ⟨.u,j⟩=>ixU j n k
 |some ⟨.ch,j⟩=>ixU j n k
 |_=>wW
def Pv(σ:Sg)(x:V uL)(k:V K->V R):V R:=match x with
 |none=>k wW
 |some x=>match pd cx σ x with
  |some ⟨.i,j⟩=>jT j λj=>k<|some j
  |_=>wW
def zpa{α:Type}(xs:N α)(lo hi:V K)(k:N α->V R):V R:=match lo,hi with
 |none,Z h=>ck (h<=X xs)<|B (xs.take h) k
 |some l,wW=>ck (l<=X xs)<|B (xs.drop l) k
 |some l,Z h=>ck (l<=h/\h<=X xs)<|B ((xs.drop l).take<|h-l) k
 |none,wW=>k xs
def zlp(m:K)(lo hi:V K)(k:K->K->V R):V R:=match lo,hi with
 |none,Z h=>ck (h<=m)<|k 0 h
 |some l,wW=>ck (l<=m)<|k l (m-l)
 |some l,Z h=>ck (l<=h/\h<=m)<|k l (h-l)
 |none,wW=>k 0 m
def zlS(σ:Sg)(t:K):K->K->N (K×Dv)
 |0,_=>[]
 |f+1,i=>match get cx σ t i with
  |some d=>(i,d)::zlS σ t f (i+1)
  |none=>[]
def zqX(σ:Sg)(x:uL)(k:N (K×Dv)->V R):V R:=match x with
 |.tmp t=>(match zlS cx σ t 12 1 with
  |[]=>wW
  |l=>k l)
 |_=>wW
def zcZ(σ:Sg)(x:uL)(k:N (K×Dv)->V R):V R:=match xG cx σ x with
 |some v=>k [(0,v)]
 |none=>zqX cx σ x k
def zpj(σ:Sg)(x:uL)(i:K)(k:N (K×Dv)->V R):V R:=match x with
 |.tmp t=>(match get cx σ t (i+1)with
  |some v=>k [(0,v)]
  |none=>wW)
 |_=>wW
def zjL(σ:Sg)(x:uL)(k:N (K×Dv)->V R):V R:=match xG cx σ x with
 |some v=>k [(0,v)]
 |none=>wW
def zgV(σ:Sg)(c x y:uL)(k:N (K×Dv)->V R):V R:=match xG cx σ c with
 |some (.kb qR)=>zjL cx σ x k
 |some (.kb I)=>zjL cx σ y k
 |_=>wW
def zsh(b:uS):Dv:=.d .b<|not b
def zo1(σ:Sg)(x:uL)(k:N (K×Dv)->V R):V R:=match xG cx σ x with
 |some (.kb b)=>k [(0,.kb !b)]
 |some (.d .b b)=>k [(0,zsh b)]
 |_=>wW
def znx(σ:Sg)(x:uL)(k:N (K×Dv)->V R):V R:=match pd cx σ x with
 |some ⟨.i,a⟩=>ngI a λv=>k [(0,v)]
 |some ⟨.u,a⟩=>ngU a λv=>k [(0,v)]
 |_=>wW
def txD(xs:N K):Dv:=.d .tx xs
def zny(σ:Sg)(s t:ut)(x:uL)(k:N (K×Dv)->V R):V R:=match YF cf s,YF cf t with
 |some ⟨_,.int _,_⟩,Z a=>zqR a.k (pd cx σ x) λv=>k [(0,v)]
 |some ⟨.l .ch,.sl E,_⟩,Z ⟨_,.str,_⟩=>(match YF cf E with
  |some ⟨_,.int .u8,_⟩=>CQ (xG cx σ x) (.l .ch) λxs=>k [(0,txD xs)]
  |_=>wW)
 |_,_=>wW
def elA(E:ut)(e:Ty):uS:=match YF cf E with
 |some a=>(Ty.same a.ty e).isSome
 |none=>I
def zrJ(n:K)(e:Ty)(j:K):Fl (Ty.a n e).D:=⟨j*e.n,e,λz=>xeN z j e.z,λy z=>xga z j y⟩
def za8(σ:Sg)(t:ut)(x i:uL)(k:N (K×Dv)->V R):V R:=match YF cf t,xG cx σ x with
 |some ⟨.l e,.sl _,_⟩,Z (.d (.l s) xs)=>Ty.cast (.l s) (.l e) xs λxs=>atI cx σ i (xaK xs) λj=>B (xeN xs j e.z) λy=>k [(0,.q e y)]
 |some ⟨.l e,.sl _,_⟩,Z (.ow o)=>(match Qb cx σ o with
  |some (.own s _ xs)=>Ty.cast (.l s) (.l e) xs λxs=>atI cx σ i (xaK xs) λj=>k [(0,.ep o e j<|Fl.self e)]
  |_=>wW)
 |some ⟨_,.ar n' E,_⟩,Z (.q (.a n e) x)=>jK (Q n' n && elA cf E e)<|atI cx σ i n λj=>B (xeN x j e.z) λy=>k [(0,.q e y)]
 |some ⟨_,.ar n' E,_⟩,Z (.vs o (.a n e))=>jK (Q n' n && elA cf E e)<|atI cx σ i n λj=>k [(0,.vp o (.a n e)<|zrJ n e j)]
 |_,_=>wW
def TD(σ:Sg)(t:ut)(x:uL)(i:K)(k:N (K×Dv)->V R):V R:=match YF cf t,xG cx σ x with
 |some ⟨e,.st n,_⟩,Z (.q s y)=>Ty.cast s e y λy=>(match xu n e i with
  |some f=>k [(0,.q f.f<|f.get y)]
  |none=>wW)
 |some ⟨e,.st n,_⟩,Z (.vs o s)=>(match Ty.same s e,xu n s i with
  |some _,Z f=>k [(0,.vp o s f)]
  |_,_=>wW)
 |some ⟨e,.st n,_⟩,Z (.vp o s g)=>(match Ty.same g.f e,xu n g.f i with
  |some _,Z f=>k [(0,.vp o s<|g.comp f)]
  |_,_=>wW)
 |some ⟨e,.st n,_⟩,Z (.ep o s j g)=>(match Ty.same g.f e,xu n g.f i with
  |some _,Z f=>k [(0,.ep o s j<|g.comp f)]
  |_,_=>wW)
 |_,_=>wW
def MX(σ:Sg)(t:ut)(x:uL)(i:K)(k:N (K×Dv)->V R):V R:=match YF cf t,xG cx σ x with
 |some ⟨e,.st n,_⟩,Z (.d s y)=>Ty.cast s e y λy=>(match xu n e i with
  |some f=>k [(0,.d f.f<|f.get y)]
  |none=>wW)
 |_,_=>wW
def zi8(σ:Sg)(t:ut)(x:uL)(k:N (K×Dv)->V R):V R:=match YF cf t with
 |some a=>zms cx σ (xG cx σ x) λp=>Ty.cast p.t a.ty p.x λy=>k [(0,.d a.ty y)]
 |none=>wW
def TZ(σ:Sg)(t:ut)(x:uL)(lo hi:V uL)(k:N (K×Dv)->V R):V R:=match YF cf t,xG cx σ x with
 |some ⟨.l e,.sl _,_⟩,Z (.d (.l s) xs)=>Ty.cast (.l s) (.l e) xs λxs=>Pv cx σ lo λlo=>Pv cx σ hi λhi=>zpa (α:=e.D) xs lo hi λys=>k [(0,.d (.l e) ys)]
 |some ⟨.l e,.sl _,_⟩,Z (.ow o)=>(match Qb cx σ o with
  |some (.own s _ xs)=>Ty.cast (.l s) (.l e) xs λxs=>Pv cx σ lo λlo=>Pv cx σ hi λhi=>zlp (xaK xs) lo hi λl n=>k [(0,.sv o e l n)]
  |_=>wW)
 |some ⟨_,.str,_⟩,Z (.d .tx xs)=>Pv cx σ lo λlo=>Pv cx σ hi λhi=>zpa (α:=K) xs lo hi λys=>k [(0,.d .tx ys)]
 |_,_=>wW
def znc(σ:Sg)(t:ut)(x i:uL)(k:N (K×Dv)->V R):V R:=match YF cf t,xG cx σ x with
 |some ⟨_,.str,_⟩,Z (.d .tx xs)=>atI cx σ i (xaK (α:=K) xs) λj=>B (xeN (α:=K) xs j 0) λy=>k [(0,.d .ch y)]
 |_,_=>wW
def zoq(σ:Sg)(E:ut)(x:uL)(k:N (K×Dv)->V R):V R:=match YF cf E with
 |some a=>CQ (xG cx σ x) a.ty λy=>k [(0,.q a.ty y)]
 |none=>wW
def zgU(σ:Sg)(n:K)(ty:Ty):N (K×uL)->ty.D->(ty.D->V R)->V R
 |[],z,k=>k z
 |(i,x)::r,z,k=>match xu n ty i with
  |some f=>CQ (xG cx σ x) f.f λy=>zgU σ n ty r (f.set y z) k
  |none=>wW
def zaD(σ:Sg)(t:ut)(ps:N (K×uL))(k:N (K×Dv)->V R):V R:=match YF cf t with
 |some ⟨ty,.st n,_⟩=>OA (xde (X ps) n||Q n 0) (zgU cx σ n ty ps ty.z λy=>k [(0,.d ty y)]) (parts cx σ (zee n ty) ps 0 λys=>match dP n ty ys with
  |some y=>k [(0,.d ty y)]
  |none=>wW)
 |some ⟨.a n e,.ar n' E,_⟩=>jK (Q n' n && elA cf E e)<|parts cx σ (Hl n e) ps 0 λys=>k [(0,.d (.a n e)<|CX n e ys)]
 |_=>wW
def znK(σ:Sg)(t:ut)(n:K)(ps:N (K×uL))(k:N (K×Dv)->V R):V R:=match YF cf t with
 |some ⟨.l s,.sl _,_⟩=>jK (xfu (n*s.n) 16777216)<|parts cx σ (Hl n s) ps 0 λys=>k [(0,.d (.l s)<|CX n s ys)]
 |_=>wW
def zok(σ:Sg)(f:Go.Fn)(first cs:N uL)(k:N (K×Dv)->V R):V R:=match f,first,cG cx σ cs with
 |.func f,[],Z l=>k [(0,.fn f l)]
 |.func f,[x],Z []=>(match xG cx σ x with
  |some (.vs o t)=>k [(0,.bm f o t)]
  |_=>wW)
 |_,_,_=>wW
def zbq(n:K):Dv:=.d .i (n:J)
def zo5(σ:Sg)(x:N uL)(ts:N ut)(k:N (K×Dv)->V R):V R:=match x,ts with
 |[x],[t]=>(match YF cf t with
  |some ⟨.l _,.sl _,_⟩=>(match xG cx σ x with
   |some .nil=>k [(0,zbq 0)]
   |some (.d (.l _) xs)=>k [(0,zbq<|xaK xs)]
   |some (.ow o)=>(match Qb cx σ o with
    |some (.own _ _ xs)=>k [(0,zbq<|xaK xs)]
    |_=>wW)
   |_=>wW)
  |some ⟨_,.str,_⟩=>(match xG cx σ x with
   |some (.d .tx xs)=>k [(0,zbq<|xaK (α:=K) xs)]
   |_=>wW)
  |_=>wW)
 |_,_=>wW
def zmS(x:J):Dv:=.d .i x
def mxI(b:uS)(a c:J)(k:J->V R):V R:=match b with
 |true=>B (max a c) k
 |false=>B (min a c) k
def eMM(b:uS)(σ:Sg)(x:N uL)(k:N (K×Dv)->V R):V R:=match x with
 |[x,y]=>(match pd cx σ x,pd cx σ y with
  |some ⟨.i,a⟩,Z ⟨.i,c⟩=>mxI b a c λz=>k [(0,zmS z)]
  |_,_=>wW)
 |_=>wW
def zrg:uL->uS
 |.func _=>qR
 |_=>I
def ziw(σ:Sg)(c:uL)(a:N uL)(k:N (K×Dv)->V R):V R:=match xG cx σ c with
 |some (.fn f cs)=>(match Hs cf.cs f with
  |some s=>Q5 cf cx σ s.dom a cs λy=>G (s.M y) λr=>k<|zj9 s.cod r
  |none=>(match U2 cf.ex f,a,cs with
   |some b,[x,y,z],[]=>jK (zrg c)<|exD b (pd cx σ x) (pd cx σ y) (pd cx σ z) k
   |_,_,_=>wW))
 |some (.fp dom cod g)=>IY cx σ dom a λy=>G (g y) λr=>k<|zfa cod r<|bif zk1 cod then 0 else 1
 |_=>wW
def TT:V Dv->uS
 |some (.mw _)=>qR
 |some (.mv _ _ _)=>qR
 |some (.hp _ _)=>qR
 |some (.rw _ _)=>qR
 |some (.rp _ _ _ _ _)=>qR
 |some (.vf _ _ _ _)=>qR
 |_=>I
def zoG:V Dv->uS
 |some (.mv _ _ _)=>qR
 |_=>I
def mkF(σ:Sg)(f:uL):uS:=match xG cx σ f with
 |some (.fn f _)=>(zfx cf.cl f).isSome
 |_=>I
def zrE(σ:Sg):Op->uS
 |.load _ x=>TT<|xG cx σ x
 |.indexAddr _ x _=>TT<|xG cx σ x
 |.fieldAddr _ x _=>TT<|xG cx σ x
 |.slice _ x _ _ wW=>TT<|xG cx σ x
 |.call ⟨.builtin .len,ags,_⟩=>ags.toList.any λx=>TT<|xG cx σ x
 |.call ⟨.value f,ags,_⟩=>mkF cf cx σ f||ags.toList.any λx=>zoG<|xG cx σ x
 |_=>I
def Zf{α:Type}(a:N (N α))(r:K):N α:=a.getD r []
def zel{α:Type}(a:N (N α))(ix:N K):N (N α):=ix.map<|Zf a
def N9(σ:Sg)(t:ut)(x i:uL)(k:N (K×Dv)->V R):V R:=match YF cf t,xG cx σ x with
 |some ⟨.l (.l e),.sl _,_⟩,Z (.mw o)=>(match Qb cx σ o with
  |some (.mat s _ _ a ix)=>atI cx σ i (xaK ix) λj=>k [(0,.hp o j)]
  |_=>wW)
 |some ⟨.l (.l e),.sl _,_⟩,Z (.mv o lo n)=>(match Qb cx σ o with
  |some (.mat s _ _ a ix)=>atI cx σ i n λj=>k [(0,.hp o<|lo+j)]
  |_=>wW)
 |some ⟨.l e,.sl _,_⟩,Z (.rw o r)=>(match Qb cx σ o with
  |some (.mat s _ _ a ix)=>Ty.cast (.l (.l s)) (.l (.l e)) a λa=>atI cx σ i (xaK<|Zf (α:=e.D) a r) λj=>k [(0,.rp o e r j<|Fl.self e)]
  |_=>wW)
 |_,_=>wW
def zia(n:K)(s:Ty)(i j:K)(k:Fl s.D->V R):V R:=jK (!Q i j) (match xu n s i with
 |some f=>k f
 |none=>wW)
def zaW(σ:Sg)(t:ut)(x:uL)(k:N (K×Dv)->V R):V R:=match YF cf t,xG cx σ x with
 |some ⟨.l e,.sl _,_⟩,Z (.hp o j)=>(match Qb cx σ o with
  |some (.mat s _ _ b ix)=>B (xeN ix j 0) λr=>k [(0,.rw o r)]
  |_=>wW)
 |some a,Z (.rp o e r j f)=>(match Qb cx σ o with
  |some (.mat s _ _ b ix)=>Ty.cast (.l (.l s)) (.l (.l e)) b λb=>B (f.get<|xeN (Zf (α:=e.D) b r) j e.z) λy=>Ty.cast f.f a.ty y λy=>k [(0,.d a.ty y)]
  |_=>wW)
 |some a,Z (.vf o c n0 i)=>(match Qb cx σ o with
  |some (.vr s _ _ _ n j z _)=>jK (Q n0 n && (Ty.same c s).isSome)<|zia n s i j λf=>Ty.cast f.f a.ty (f.get z) λy=>k [(0,.d a.ty y)]
  |some (.vh s _ _ _ n j z)=>jK (Q n0 n && (Ty.same c s).isSome)<|zia n s i j λf=>Ty.cast f.f a.ty (f.get z) λy=>k [(0,.d a.ty y)]
  |_=>wW)
 |_,_=>wW
def MY(σ:Sg)(t:ut)(x:uL)(i:K)(k:N (K×Dv)->V R):V R:=match YF cf t,xG cx σ x with
 |some ⟨e,.st n,_⟩,Z (.mw o)=>(match Qb cx σ o with
  |some (.vr s _ _ _ n' _ _ _)=>jK (Q n' n && (Ty.same s e).isSome && (xu n e i).isSome)<|k [(0,.vf o e n i)]
  |some (.vh s _ _ _ n' _ _)=>jK (Q n' n && (Ty.same s e).isSome && (xu n e i).isSome)<|k [(0,.vf o e n i)]
  |_=>wW)
 |_,_=>wW
def Na(σ:Sg)(t:ut)(x:uL)(lo hi:V uL)(k:N (K×Dv)->V R):V R:=match YF cf t,xG cx σ x with
 |some ⟨.l (.l e),.sl _,_⟩,Z (.mw o)=>(match Qb cx σ o with
  |some (.mat s _ _ a ix)=>Pv cx σ lo λlo=>Pv cx σ hi λhi=>zlp (xaK ix) lo hi λl n=>k [(0,.mv o l n)]
  |_=>wW)
 |_,_=>wW
def zgC(σ:Sg)(x:N uL)(ts:N ut)(k:N (K×Dv)->V R):V R:=match x,ts with
 |[x],[t]=>(match YF cf t,xG cx σ x with
  |some ⟨.l _,.sl _,_⟩,Z (.mw o)=>(match Qb cx σ o with
   |some (.mat _ _ _ _ ix)=>k [(0,zbq<|xaK ix)]
   |_=>wW)
  |some ⟨.l _,.sl _,_⟩,Z (.mv o _ n)=>(match Qb cx σ o with
   |some (.mat _ _ _ _ _)=>k [(0,zbq n)]
   |_=>wW)
  |some ⟨.l _,.sl _,_⟩,Z (.rw o r)=>(match Qb cx σ o with
   |some (.mat _ _ _ a _)=>k [(0,zbq<|xaK<|Zf a r)]
   |_=>wW)
  |_,_=>wW)
 |_,_=>wW
def Q6(σ:Sg):(dom:N AM)->N uL->N PD->(aH dom->V R)->V R
 |[],[],[],k=>k ()
 |.q t::r,[],c::cs,k=>Ty.cast c.t t c.x λy=>Q6 σ r [] cs λz=>k (y,z)
 |.d t::r,x::xs,cs,k=>(match xG cx σ x with
  |some (.mv o lo n)=>(match Qb cx σ o with
   |some (.mat s _ _ a ix)=>Ty.cast (.l (.l s)) t (xdH n<|xdT lo<|zel a ix) λy=>Q6 σ r xs cs λz=>k (y,z)
   |_=>wW)
  |v=>CQ v t λy=>Q6 σ r xs cs λz=>k (y,z))
 |.fn dom cod::r,x::xs,cs,k=>asF cf σ (xG cx σ x) dom cod λg=>Q6 σ r xs cs λz=>k (g,z)
 |_,_,_,_=>wW
def PG:N RM->uS
 |[]=>qR
 |.d .i::r=>PG r
 |.d .b::r=>PG r
 |.d .u::r=>PG r
 |_=>I
def zaT(σ:Sg)(b:uL)(a:N uL)(k:N (K×Dv)->V R):V R:=match xG cx σ b with
 |some (.fn f cs)=>(match zfx cf.cl f,cs with
  |some s,[]=>IY cx σ s.dom a λys=>k [(0,.fn s.g<|s.mc ys)]
  |_,cs=>(match Hs cf.cs f with
   |some s=>jK (PG s.cod)<|Q6 cf cx σ s.dom a cs λy=>G (s.M y) λr=>k<|zj9 s.cod r
   |none=>wW))
 |_=>wW
def zn1(σ:Sg)(T:ut)(x:uL)(k:N (K×Dv)->V R):V R:=match U2 cf.tt T,xG cx σ x with
 |some ⟨.w1 .i,.st 0,_⟩,Z (.d t y)=>Ty.cast t (.w1 .i) y λz=>k [(0,.ifc (T,z))]
 |_,_=>wW
def eCo(σ:Sg)(b:Op)(k:N (K×Dv)->V R):V R:=match b with
 |.load t x=>zaW cf cx σ t x k
 |.indexAddr t x i=>N9 cf cx σ t x i k
 |.fieldAddr t x i=>MY cf cx σ t x i k
 |.slice t x lo hi wW=>Na cf cx σ t x lo hi k
 |.call ⟨.builtin .len,a,ts⟩=>zgC cf cx σ a.toList ts.toList k
 |.call ⟨.value f,a,_⟩=>zaT cf cx σ f a.toList k
 |_=>wW
def zos(σ:Sg)(d:Op)(k:N (K×Dv)->V R):V R:=match d with
 |.move x=>zcZ cx σ x k
 |.assign x=>zcZ cx σ x k
 |.extract x i=>zpj cx σ x i k
 |.pick c x y=>zgV cx σ c x y k
 |.unOp .not _ x=>zo1 cx σ x k
 |.unOp .neg _ x=>znx cx σ x k
 |.binOp b t x y _=>OA (zj8<|xG cx σ y) (jK (zku cf t)<|eqP b (xG cx σ x) λv=>k [(0,v)])<|znu (isB cf t) b (pd cx σ x) (pd cx σ y) λv=>k [(0,v)]
 |.nilCheck x=>znZ cx σ x k
 |.convert s t x=>zny cf cx σ s t x k
 |.load t x=>zi8 cf cx σ t x k
 |.indexAddr t x i=>za8 cf cx σ t x i k
 |.fieldAddr t x i=>TD cf cx σ t x i k
 |.field t x i=>MX cf cx σ t x i k
 |.slice t x lo hi wW=>TZ cf cx σ t x lo hi k
 |.index t x i=>znc cf cx σ t x i k
 |.box E x=>zoq cf cx σ E x k
 |.build t ps=>zaD cf cx σ t ps.toList k
 |.makeInterface t x=>zn1 cf cx σ t x k
 |.buildSlice t n ps=>znK cf cx σ t n ps.toList k
 |.makeFunc f first cs=>zok cx σ f first.toList cs.toList k
 |.call ⟨.builtin .len,a,ts⟩=>zo5 cf cx σ a.toList ts.toList k
 |.call ⟨.builtin .max,a,_⟩=>eMM cx qR σ a.toList k
 |.call ⟨.builtin .min,a,_⟩=>eMM cx I σ a.toList k
 |.call ⟨.value f,a,_⟩=>ziw cf cx σ f a.toList k
 |_=>wW
def eOp(σ:Sg)(a:Op)(k:N (K×Dv)->V R):V R:=OA (zrE cf cx σ a) (eCo cf cx σ a k)<|zos cf cx σ a k
def vC:Dv->V K
 |.ow o=>Z o
 |.vs o _=>Z o
 |.ep o _ _ _=>Z o
 |.sv o _ _ _=>Z o
 |.vp o _ _=>Z o
 |.mw o=>Z o
 |.mv o _ _=>Z o
 |.hp o _=>Z o
 |.rw o _=>Z o
 |.rp o _ _ _ _=>Z o
 |.yd o=>Z o
 |.vf o _ _ _=>Z o
 |.bm _ o _=>Z o
 |_=>wW
def okL(n:K)(l:N (K×Dv)):uS:=l.all λe=>match vC e.2 with
 |some o=>xde o n
 |none=>qR
def NP(o:K)(x:Od)(v:Dv):Dv:=match v,x with
 |.ow a,.own s _ xs=>bif Q a o then .d (.l s) xs else v
 |.vs a _,.var s _ z=>bif Q a o then .q s z else v
 |.mw a,.mat s _ _ b ix=>bif Q a o then .d (.l (.l s)) (zel b ix)else v
 |.mw a,.vr t _ s _ n i z xs=>bif Q a o then .q t (ZL s (xu n t i) xs z)else v
 |_,_=>v
def Gx(o:K)(x:Od):N (K×K×Dv)->N (K×K×Dv)
 |[]=>[]
 |(t,i,v)::r=>(t,i,NP o x v)::Gx o x r
def R9(σ:Sg)(o:K):Sg:=match xH σ.ob o with
 |some x=>⟨σ.nx,Gx o x σ.rg,yI σ.ob o⟩
 |none=>σ
def frz(σ:Sg)(x:uL):Sg:=match xG cx σ x with
 |some (.ow o)=>R9 σ o
 |some (.vs o _)=>R9 σ o
 |some (.mw o)=>R9 σ o
 |_=>σ
def zk8(σ:Sg):N uL->Sg
 |[]=>σ
 |x::r=>zk8 (frz cx σ x) r
def zam(σ:Sg):N AM->N uL->uS
 |[],_=>qR
 |.own _ _::r,x::xs=>(match xG cx σ x with
  |some (.ow o)=>σ.ob.any λe=>Q e.1 o
  |_=>I) && zam σ r xs
 |.var _ _::r,x::xs=>(match xG cx σ x with
  |some (.vs o _)=>σ.ob.any λe=>Q e.1 o
  |_=>I) && zam σ r xs
 |.d _::r,x::xs=> !zoG (xG cx σ x) && zam σ r xs
 |_::r,_::xs=>zam σ r xs
 |_::r,[]=>zam σ r []
def zaz(σ:Sg)(f:Wf)(a:N uL):N Wk->V Wk
 |[]=>wW
 |s::r=>match Q s.f f && zam cx σ s.dom a with
  |true=>Z s
  |false=>zaz σ f a r
def zrM(d:V Wn):uS:=match d with
 |some t=>cL cf.an.vw t
 |none=>I
def zap(d:V Wn):uS:=match d with
 |some t=>cL cf.an.mt t
 |none=>I
def zsv:V Dv->uS
 |some (.hp _ _)=>qR
 |some (.mw _)=>qR
 |_=>I
def zqr(σ:Sg):V Dv->uS
 |some (.vf o _ _ i)=>(match xH σ.ob o with
  |some (.vh _ _ _ _ _ j _)=>Q i j
  |_=>I)
 |_=>I
def zh5:V Dv->uS
 |some (.mw _)=>qR
 |_=>I
def zg9(σ:Sg)(f:Wf)(a:N uL):N Je->V Je
 |[]=>wW
 |p::r=>match Q p.s.f f && zam cx σ p.s.dom a with
  |true=>Z p
  |false=>zg9 σ f a r
def zmf(σ:Sg)(dom:N AM)(a:N uL):N uL:=(dom.zip a).filterMap λe=>match e.1 with
 |.d _=>(match zoG (xG cx σ e.2)with
  |true=>wW
  |false=>Z e.2)
 |.q _=>Z e.2
 |_=>wW
def zot(σ:Sg)(d:V Wn):Op->N uL
 |.build _ ps=>ps.toList.map (·.2)
 |.buildSlice _ _ ps=>(match zap cf d with
  |true=>[]
  |false=>ps.toList.map (·.2))
 |.store _ a v=>(match zsv (xG cx σ a)||zqr σ (xG cx σ a),xG cx σ v with
  |false,Z (.ow _)=>[v]
  |_,_=>[])
 |.slice _ x wW (Z _) wW=>(match zh5 (xG cx σ x),zrM cf d with
  |true,I=>[x]
  |_,_=>[])
 |.box _ v=>[v]
 |.load _ x=>(match xG cx σ x with
  |some (.mw o)=>(match Qb cx σ o with
   |some (.vr _ _ _ _ _ _ _ _)=>[x]
   |_=>[])
  |_=>[])
 |.convert _ _ v=>[v]
 |.makeFunc _ _ cs=>cs.toList
 |.slice _ x (Z _) _ _=>(match zrM cf d with
  |true=>[]
  |false=>[x])
 |.call ⟨.builtin .append,b,_⟩=>(match b.toList.any λx=>zh5 (xG cx σ x)with
  |true=>[]
  |false=>b.toList.drop 1)
 |.call ⟨.builtin .copy,b,_⟩=>b.toList.drop 1
 |.call ⟨.value f,b,_⟩=>(match xG cx σ f with
  |some (.fn f _)=>(match zaz cx σ f b.toList cf.cs with
   |some s=>zmf cx σ s.dom b.toList
   |none=>(match zg9 cx σ f b.toList cf.ps with
    |some p=>zmf cx σ p.s.dom b.toList
    |none=>[]))
  |some (.fp _ _ _)=>b.toList
  |_=>[])
 |_=>[]
def zaO(σ:Sg)(d:V Wn)(mk:K->Dv)(x:Od):Sg:=⟨σ.nx+1,qU σ.rg d [(0,mk σ.nx)],(σ.nx,x)::σ.ob⟩
def Ym(σ:Sg):(dom:N AM)->N uL->N PD->(aH dom->N K->V R)->V R
 |[],[],[],k=>k () []
 |.q t::r,[],c::cs,k=>Ty.cast c.t t c.x λy=>Ym σ r [] cs λz os=>k (y,z) os
 |.d t::r,x::xs,cs,k=>CQ (xG cx σ x) t λy=>Ym σ r xs cs λz os=>k (y,z) os
 |.q t::r,x::xs,cs,k=>(match xG cx σ x with
  |some (.q s y)=>Ty.cast s t y λy=>Ym σ r xs cs λz os=>k (y,z) os
  |_=>wW)
 |.own t E::r,x::xs,cs,k=>(match xG cx σ x with
  |some (.ow o)=>(match xH σ.ob o with
   |some (.own s a ys)=>jK (Q E a)<|Ty.cast (.l s) (.l t) ys λy=>Ym σ r xs cs λz os=>jK (!cL os o)<|k (y,z) (o::os)
   |_=>wW)
  |_=>wW)
 |.var t E::r,x::xs,cs,k=>(match xG cx σ x with
  |some (.vs o _)=>(match xH σ.ob o with
   |some (.var s a y)=>jK (Q E a)<|Ty.cast s t y λy=>Ym σ r xs cs λz os=>jK (!cL os o)<|k (y,z) (o::os)
   |_=>wW)
  |_=>wW)
 |.fn dom cod::r,x::xs,cs,k=>asF cf σ (xG cx σ x) dom cod λg=>Ym σ r xs cs λz os=>k (g,z) os
 |_,_,_,_=>wW
def Zv:(rs:N RM)->aI rs->K->K->N (K×Dv)×N (K×Od)
 |[],_,_,_=>([],[])
 |[.d t],x,i,o=>([(i,.d t x)],[])
 |[.own t E],x,i,o=>([(i,.ow o)],[(o,.own t E x)])
 |[.var t E],x,i,o=>([(i,.vs o t)],[(o,.var t E x)])
 |.d t::r::rs,x,i,o=>let y:=Zv (r::rs) x.2 (i+1) o
  ((i,.d t x.1)::y.1,y.2)
 |.own t E::r::rs,x,i,o=>let y:=Zv (r::rs) x.2 (i+1) (o+1)
  ((i,.ow o)::y.1,(o,.own t E x.1)::y.2)
 |.var t E::r::rs,x,i,o=>let y:=Zv (r::rs) x.2 (i+1) (o+1)
  ((i,.vs o t)::y.1,(o,.var t E x.1)::y.2)
def vi(ob:N (K×Od)):N K->N (K×Od)
 |[]=>ob
 |o::r=>yI (vi ob r) o
def zbk(σ:Sg)(s:Ty)(p v:V Dv)(k:Sg->V R):V R:=match p with
 |some (.vs o _)=>(match xH σ.ob o with
  |some (.var b E z)=>Ty.cast b s z λz=>CQ v s λy=>k ⟨σ.nx,σ.rg,kL σ.ob o (.var s E y)⟩
  |_=>wW)
 |some (.vp o a f)=>(match xH σ.ob o,Ty.same f.f s with
  |some (.var b E z),Z _=>Ty.cast b a z λz=>CQ v f.f λy=>B (f.set y z) λz=>k ⟨σ.nx,σ.rg,kL σ.ob o (.var a E z)⟩
  |_,_=>wW)
 |some (.ep o a j f)=>(match xH σ.ob o,Ty.same f.f s with
  |some (.own b E xs),Z _=>Ty.cast (.l b) (.l a) xs λxs=>CQ v f.f λy=>B (xga xs j<|f.set y<|xeN xs j a.z) λxs=>k ⟨σ.nx,σ.rg,kL σ.ob o (.own a E xs)⟩
  |_,_=>wW)
 |_=>wW
def TX(σ:Sg)(d:V Wn)(E:ut)(k:Sg->V R):V R:=match YF cf E with
 |some a=>k<|zaO σ d (λo=> .vs o a.ty) (.var a.ty E a.ty.z)
 |none=>wW
def zod(σ:Sg)(d:V Wn)(E:ut)(x:uL)(k:Sg->V R):V R:=match YF cf E with
 |some a=>CQ (xG cx σ x) a.ty λy=>k<|zaO σ d (λo=> .vs o a.ty) (.var a.ty E y)
 |none=>wW
def zgw(σ:Sg)(d:V Wn)(t:ut)(x y:uL)(k:Sg->V R):V R:=match YF cf t with
 |some ⟨.l s,.sl E,_⟩=>jK (zcC x y) (match YF cf E,pd cx σ x with
  |some a,Z ⟨.i,n⟩=>Ty.cast a.ty s a.ty.z λz=>jT n λn=>ck (a.B*n<=281474976710656)<|B (So n z) λxs=>k<|zaO σ d .ow (.own s E xs)
  |_,_=>wW)
 |_=>wW
def znG(σ:Sg)(d:V Wn)(t:ut)(n:K)(ps:N (K×uL))(k:Sg->V R):V R:=match YF cf t with
 |some ⟨.l s,.sl E,_⟩=>jK (xfu (n*s.n) 16777216)<|parts cx σ (Hl n s) ps 0 λys=>k<|zaO σ d .ow (.own s E<|CX n s ys)
 |_=>wW
def zav(σ:Sg)(d:V Wn)(t:ut)(o:K)(hi:uL)(k:Sg->V R):V R:=match YF cf t,xH σ.ob o with
 |some ⟨.l a,.sl _,_⟩,Z (.own s E xs)=>Ty.cast (.l s) (.l a) xs λxs=>Pv cx σ (Z hi) λh=>zpa (α:=a.D) xs wW h λys=>k ⟨σ.nx+1,qU σ.rg d [(0,.ow σ.nx)],(σ.nx,.own a E ys)::yI σ.ob o⟩
 |_,_=>wW
def zc9(σ:Sg)(d:V Wn)(b:ut)(a:uS)(s:Ty)(E:ut)(B:K)(z:s.D)(y:uL)(ob:N (K×Od))(xs:N s.D)(k:Sg->V R):V R:=match pd cx σ y with
 |some ⟨.i,n⟩=>(match YF cf b with
  |some ⟨_,.int _,_⟩=>jT n λn=>zsC xs n z B λzs=>k ⟨σ.nx+1,qU σ.rg d [(0,.ow σ.nx)],(σ.nx,.own s E zs)::ob⟩
  |_=>wW)
 |_=>(match xG cx σ y with
  |some (.sv o2 t2 lo n)=>(match Qb cx ⟨σ.nx,σ.rg,ob⟩ o2 with
   |some (.own c _ zs)=>jK a<|Ty.cast (.l c) (.l t2) zs λzs=>Ty.cast (.l t2) (.l s) (xdH n<|xdT lo zs) λys=>nm ys λys=>zqL (α:=s.D) xs ys B λzs=>k ⟨σ.nx+1,qU σ.rg d [(0,.ow σ.nx)],(σ.nx,.own s E zs)::ob⟩
   |_=>wW)
  |_=>jK a<|CQ (xG cx σ y) (.l s) λys=>zqL (α:=s.D) xs ys B λzs=>k ⟨σ.nx+1,qU σ.rg d [(0,.ow σ.nx)],(σ.nx,.own s E zs)::ob⟩)
def zom(σ:Sg)(d:V Wn)(c:N uL)(ts:N ut)(k:Sg->V R):V R:=match c,ts with
 |[x,y],[t,a]=>(match YF cf t with
  |some ⟨.l s,.sl E,_⟩=>(match YF cf E with
   |some b=>Ty.cast b.ty s b.ty.z λz=>(match xG cx σ x with
    |some .nil=>zc9 cf cx σ d a (Q t a) s E b.B z y σ.ob [] k
    |some (.ow o)=>(match xH σ.ob o with
     |some (.own e f xs)=>jK (Q f E)<|Ty.cast (.l e) (.l s) xs λxs=>zc9 cf cx σ d a (Q t a) s E b.B z y (yI σ.ob o) xs k
     |_=>wW)
    |_=>wW)
   |none=>wW)
  |_=>wW)
 |_,_=>wW
def zgO(σ:Sg)(d:V Wn)(a:N uL)(ts:N ut)(k:Sg->V R):V R:=match a,ts with
 |[x,y],[t,_]=>(match YF cf t,xG cx σ x with
  |some ⟨.l s,.sl _,_⟩,Z (.ow o)=>(match xH σ.ob o with
   |some (.own b c xs)=>Ty.cast (.l b) (.l s) xs λxs=>CQ (xG cx σ y) (.l s) λys=>B (H3 (α:=s.D) xs ys) λzs=>k ⟨σ.nx,qU σ.rg d [],kL σ.ob o (.own s c zs)⟩
   |_=>wW)
  |some ⟨.l s,.sl _,_⟩,Z (.sv o t2 lo n)=>(match xH σ.ob o,Ty.same t2 s with
   |some (.own b c xs),Z _=>Ty.cast (.l b) (.l s) xs λxs=>CQ (xG cx σ y) (.l s) λys=>B (mz (α:=s.D) lo n xs ys) λzs=>k ⟨σ.nx,qU σ.rg d [],kL σ.ob o (.own s c zs)⟩
   |_,_=>wW)
  |_,_=>wW)
 |_,_=>wW
def Eh:N K->N (K×Od)->N (K×Od)
 |o::os,e::r=>(o,e.2)::Eh os r
 |_,_=>[]
def p9:K->N RM->uS
 |0,[]=>qR
 |0,.own _ _::r=>p9 0 r
 |0,.var _ _::r=>p9 0 r
 |n+1,.d _::r=>p9 n r
 |_,_=>I
def Cc(m:K):K:=bif Q m 1 then 0 else 1
def zlB(σ:Sg)(d:V Wn)(s:Wk)(os:N K)(r:aI s.cod)(k:Sg->V R):V R:=
 match s.bk with
 |0=>(let g:=Zv s.cod r (bif bJ s.cod then 0 else 1) σ.nx
  k ⟨σ.nx+X g.2,qU σ.rg d g.1,g.2++vi σ.ob os⟩)
 |b+1=>(let m:=X s.cod-(b+1)
  let g:=Zv s.cod r (Cc m) σ.nx
  jK (p9 m s.cod)<|k ⟨σ.nx+X g.2,qU σ.rg d<|g.1.filter λe=>xde e.1<|Cc m+m,Eh os g.2++vi σ.ob os⟩)
def zma(σ:Sg)(d:V Wn)(s:Wk)(a:N uL)(cs:N PD)(k:Sg->V R):V R:=
 Ym cf cx σ s.dom a cs λy os=>G (s.M y) λr=>zlB σ d s os r k
def zmR(σ:Sg)(d:V Wn)(p:Je)(a:N uL)(cs:N PD)(kp:PX->Sg->V R)(k:Sg->V R):V R:=
 Ym cf cx σ p.s.dom a cs λy os=>G (p.M y) λz=>xfj (λq=>kp q ⟨σ.nx,σ.rg,vi σ.ob os⟩) (λr=>zlB σ d p.s os r k) z
def zld(σ:Sg):Op->V (Je×N uL×N PD)
 |.call ⟨.value f,a,_⟩=>(match xG cx σ f with
  |some (.fn f' cs)=>(match zg9 cx σ f' a.toList cf.ps with
   |some p=>Z (p,a.toList,cs)
   |none=>wW)
  |_=>wW)
 |_=>wW
def mE(σ:Sg)(d:V Wn)(a:Op)(k:Sg->V R):V R:=eOp cf cx σ a λl=>jK (okL σ.nx l)<|k (σ.put d l)
def zph(d:V Wn):uS:=match d with
 |some t=>cL cf.an.bx t
 |none=>I
def zkj(o n:K)(v:Dv):Dv:=match v with
 |.mw p=>bif Q p o then .mw n else v
 |.mv p l m=>bif Q p o then .mv n l m else v
 |.hp p j=>bif Q p o then .hp n j else v
 |.rw p r=>bif Q p o then .rw n r else v
 |.rp p t r j f=>bif Q p o then .rp n t r j f else v
 |v=>v
def zk6(o n:K):N (K×K×Dv)->N (K×K×Dv)
 |[]=>[]
 |(t,i,v)::r=>(t,i,zkj o n v)::zk6 o n r
def Gf(o n:K):N (K×K×Dv)->N (K×K×Dv)
 |[]=>[]
 |(t,i,.mw p)::r=>(t,i,bif Q p o then .mw n else .mw p)::Gf o n r
 |(t,i,v)::r=>(t,i,v)::Gf o n r
def Pj(o n:K):N (K×K×Dv)->N (K×K×Dv)
 |[]=>[]
 |(t,i,.yd p)::r=>(t,i,bif Q p o then .yd n else .yd p)::Pj o n r
 |(t,i,v)::r=>(t,i,v)::Pj o n r
def zrf{α:Type}(a b:N α):N α:=a++b
def zrs{α:Type}(a:N (N α))(r:K)(xs:N α):N (N α):=xga a r xs
def ui(σ:Sg)(s:Ty)(p v:V Dv)(k:Sg->V R):V R:=match p,v with
 |some (.rp o e r j f),v=>(match xH σ.ob o,Ty.same f.f s with
  |some (.mat d E E1 c ix),Z _=>Ty.cast (.l (.l d)) (.l (.l e)) c λc=>CQ v f.f λy=>B (zrs (α:=e.D) c r<|xga (Zf (α:=e.D) c r) j<|f.set y<|xeN (Zf (α:=e.D) c r) j e.z) λc=>k ⟨σ.nx,σ.rg,kL σ.ob o (.mat e E E1 c ix)⟩
  |_,_=>wW)
 |some (.vf o g n0 i),Z (.ow o2)=>jK (!Q o o2)<|(match xH σ.ob o,xH σ.ob o2 with
  |some (.vh a E b E1 n j z),Z (.own q t ys)=>jK (Q i j && Q E1 t && (Ty.same s (.l b)).isSome && (Q n0 n && (Ty.same g a).isSome))<|Ty.cast (.l q) (.l b) ys λys=>k ⟨σ.nx+1,Gf o σ.nx σ.rg,(σ.nx,.vr a E b E1 n j z ys)::yI (yI σ.ob o) o2⟩
  |_,_=>wW)
 |some (.vf o g n0 i),v=>(match xH σ.ob o with
  |some (.vr a E b E1 n j z ys)=>jK (Q n0 n && (Ty.same g a).isSome)<|zia n a i j λf=>jK (Ty.same f.f s).isSome<|CQ v f.f λy=>B (f.set y z) λz=>k ⟨σ.nx,σ.rg,kL σ.ob o (.vr a E b E1 n j z ys)⟩
  |some (.vh a E b E1 n j z)=>jK (Q n0 n && (Ty.same g a).isSome)<|zia n a i j λf=>jK (Ty.same f.f s).isSome<|CQ v f.f λy=>B (f.set y z) λz=>k ⟨σ.nx,σ.rg,kL σ.ob o (.vh a E b E1 n j z)⟩
  |_=>wW)
 |some (.hp o j),Z (.rw u r)=>jK (Q u o)<|(match xH σ.ob o,s with
  |some (.mat d E E1 c ix),.l _=>B (xga ix j r) λix=>k ⟨σ.nx,σ.rg,kL σ.ob o (.mat d E E1 c ix)⟩
  |_,_=>wW)
 |some (.hp o j),Z (.ow o2)=>jK (!Q o o2)<|(match xH σ.ob o,xH σ.ob o2,s with
  |some (.mat d E E1 c ix),Z (.own b h ys),.l _=>jK (Q E1 h)<|Ty.cast (.l b) (.l d) ys λys=>B (zrf (α:=N d.D) c [ys]) λm=>B (xga ix j<|xaK c) λix=>k ⟨σ.nx+1,zk6 o σ.nx σ.rg,(σ.nx,.mat d E E1 m ix)::yI (yI σ.ob o) o2⟩
  |_,_,_=>wW)
 |some (.mw o),Z (.dz t2 y n2 i2)=>(match xH σ.ob o with
  |some (.vr a E b E1 n j z xs)=>jK (Q n2 n && (Q i2 j && (Ty.same s a).isSome))<|Ty.cast t2 a y λy=>k ⟨σ.nx+1,Gf o σ.nx σ.rg,(σ.nx,.vr a E b E1 n j y [])::yI σ.ob o⟩
  |_=>wW)
 |some (.mw o),Z (.ow o2)=>jK (!Q o o2)<|(match xH σ.ob o,xH σ.ob o2,s with
  |some (.ho w),Z (.own b h ys),.l _=>k ⟨σ.nx+1,Gf o σ.nx σ.rg,(σ.nx,.bo b h w ys)::yI (yI σ.ob o) o2⟩
  |_,_,_=>wW)
 |_,_=>wW
def Tw(σ:Sg)(d:V Wn)(t:ut)(x y:uL)(k:Sg->V R):V R:=match YF cf t with
 |some ⟨.l (.l s),.sl E,_⟩=>jK (zcC x y) (match YF cf E,pd cx σ x with
  |some ⟨.l _,.sl E1,B⟩,Z ⟨.i,n⟩=>jT n λn=>ck (B*n<=281474976710656)<|nm (So n 0) λix=>k<|zaO σ d .mw (.mat s E E1 [[]] ix)
  |_,_=>wW)
 |_=>wW
def zgj(σ:Sg)(d:V Wn)(t:ut)(n:K)(ps:N (K×uL))(k:Sg->V R):V R:=match YF cf t,ps with
 |some ⟨.l (.l s),.sl E,_⟩,[(0,x)]=>jK (Q n 1) (match xG cx σ x with
  |some (.ow o2)=>(match xH σ.ob o2 with
   |some (.own a E1 ys)=>Ty.cast (.l a) (.l s) ys λys=>k ⟨σ.nx+1,qU σ.rg d [(0,.mw σ.nx)],(σ.nx,.mat s E E1 [ys] [0])::yI σ.ob o2⟩
   |_=>wW)
  |_=>wW)
 |_,_=>wW
def TH(d:V Wn):V (K×K):=match d with
 |some t=>U2 cf.an.vr t
 |none=>wW
def Nk(σ:Sg)(d:V Wn)(a:ut)(k:Sg->V R):V R:=match YF cf a with
 |some ⟨.l s,.sl E,_⟩=>k<|zaO σ d .mw (.bo s E a [])
 |some ⟨ty,.st n,_⟩=>(match TH cf d with
  |some (i,E1)=>(match xu n ty i with
   |some ⟨_,.l s,_,_⟩=>k<|zaO σ d .mw (.vr ty a s E1 n i ty.z [])
   |_=>wW)
  |none=>wW)
 |_=>wW
def Nr(σ:Sg)(d:V Wn)(t:ut)(ps:N (K×uL))(k:Sg->V R):V R:=match YF cf t,TH cf d with
 |some ⟨ty,.st n,_⟩,Z (i,_)=>jK (ps.all λp=> !Q p.1 i) (match xu n ty i with
  |some ⟨_,.l _,_,_⟩=>zgU cx σ n ty ps ty.z λy=>k<|σ.put d [(0,.dz ty y n i)]
  |_=>wW)
 |_,_=>wW
def zai(σ:Sg)(d:V Wn)(t:ut)(o:K)(k:Sg->V R):V R:=match YF cf t,xH σ.ob o with
 |some ⟨.l b,.sl _,_⟩,Z (.vr c E a E1 n j z xs)=>jK (Ty.same b a).isSome<|k ⟨σ.nx+1,qU σ.rg d [(0,.ow σ.nx)],(σ.nx,.own a E1 xs)::kL σ.ob o (.vh c E a E1 n j z)⟩
 |_,_=>wW
def O4(σ:Sg):V Dv->V K
 |some (.vf o a n0 i)=>(match xH σ.ob o with
  |some (.vr s _ _ _ n j _ _)=>bif Q i j && (Q n0 n && (Ty.same a s).isSome)then Z o else wW
  |_=>wW)
 |_=>wW
def zbt(σ:Sg)(d:V Wn)(t:ut)(o:K)(k:Sg->V R):V R:=match YF cf t,xH σ.ob o with
 |some ⟨.l _,.sl _,_⟩,Z (.bo s E a xs)=>k ⟨σ.nx+1,qU σ.rg d [(0,.ow σ.nx)],(σ.nx,.own s E xs)::kL σ.ob o (.ho a)⟩
 |_,_=>wW
def zf2(σ:Sg)(d:V Wn)(b:N uL)(ts:N ut)(k:Sg->V R):V R:=match b,ts with
 |[x,y],[t,i]=>(match YF cf t,xG cx σ x,xG cx σ y with
  |some ⟨.l (.l s),.sl E,_⟩,Z (.mw o),Z (.mw p)=>jK (Q t i && !Q o p) (match YF cf E,xH σ.ob o,xH σ.ob p with
   |some ⟨.l _,.sl _,B⟩,Z (.mat c E1 f g ix),Z (.mat j m n a h)=>jK (Q E1 E && (Q m E && Q f n))<|Ty.cast (.l (.l j)) (.l (.l c)) a λa=>
    ck ((xaK ix+xaK h)*B<=140737488355328)<|nm (zrf (α:=N c.D) g a) λe=>nm (ix++h.map (xaK g+ ·)) λq=>k ⟨σ.nx+1,qU σ.rg d [(0,.mw σ.nx)],(σ.nx,.mat c E1 f e q)::yI (yI σ.ob o) p⟩
   |_,_,_=>wW)
  |_,_,_=>wW)
 |_,_=>wW
def Ep(σ:Sg)(d:V Wn)(s:C8)(c:N uL)(k:Sg->V R):V R:=match c with
 |[x,a,p,y]=>(match xG cx σ x,pd cx σ a,pd cx σ p,xG cx σ y with
  |some (.rw o r),Z ⟨.i,a⟩,Z ⟨.i,p⟩,Z (.mv e lo n)=>jK (Q o e) (match xH σ.ob o with
   |some (.mat f E E1 b ix)=>jK (Q E s.E && Q E1 s.E1)<|Ty.cast (.l (.l f)) (.l (.l s.t)) b λb=>
    G (s.M b ix r a p lo n) λb=>k ⟨σ.nx+1,Gf o σ.nx<|qU σ.rg d [],(σ.nx,.mat s.t E E1 b ix)::yI σ.ob o⟩
   |_=>wW)
  |_,_,_,_=>wW)
 |_=>wW
def N7(σ:Sg)(d:V Wn)(o:K)(a:N uL)(k:Sg->V R):V R:=match a with
 |[x]=>(match xG cx σ x with
  |some (.ow p)=>jK (!Q o p) (match xH σ.ob o,xH σ.ob p with
   |some (.hid t E X Y e c g z),Z (.own s b ys)=>jK (Q b E)<|Ty.cast (.l s) (.l t) ys λys=>
    G (g ys z) λr=>xfj (λf=>k ⟨σ.nx+1,Pj o σ.nx<|qU σ.rg d [(0,.kb qR)],(σ.nx,.hid t E X Y e c g f)::yI (kL σ.ob p (.own t b r.1)) o⟩)
     (λy'=>k ⟨σ.nx+1,Pj o σ.nx<|qU σ.rg d [(0,.kb I)],(σ.nx,.hiy Y c y')::yI (kL σ.ob p (.own t b r.1)) o⟩) r.2
   |_,_=>wW)
  |_=>wW)
 |_=>wW
inductive CoM
 |no
 |st (t:ut) (x y:uL)
 |ma (t:ut) (x y:uL)
 |lit (t:ut) (n:K) (ps:Z5 (K×uL))
 |al (E:ut)
 |tk (t:ut) (o:K)
 |tv (t:ut) (o:K)
 |bz (t:ut) (ps:Z5 (K×uL))
 |ap (ags:Z5 uL) (ts:Z5 ut)
 |sk (s:C8) (ags:Z5 uL)
 |yl (o:K) (ags:Z5 uL)
def coM(σ:Sg)(d:V Wn):Op->CoM
 |.store t x y=>bif TT (xG cx σ x)then .st t x y else .no
 |.makeSlice t x y=>bif zap cf d then .ma t x y else .no
 |.buildSlice t n ps=>bif zap cf d then .lit t n ps else .no
 |.alloc E=>bif zap cf d||(TH cf d).isSome then .al E else .no
 |.build t ps=>bif (TH cf d).isSome then .bz t ps else .no
 |.load t x=>(match xG cx σ x with
  |some (.mw o)=> .tk t o
  |v=>(match O4 σ v with
   |some o=> .tv t o
   |none=> .no))
 |.call ⟨.builtin .append,a,ts⟩=>bif a.toList.any (λx=>zh5<|xG cx σ x)then .ap a ts else .no
 |.call ⟨.value f,a,_⟩=>(match xG cx σ f with
  |some (.yd o)=> .yl o a
  |some (.fn f [])=>(match zjj cf.ms f with
   |some s=> .sk s a
   |none=> .no)
  |_=> .no)
 |_=> .no
def mCo(σ:Sg)(d:V Wn)(c:CoM)(k:Sg->V R)(k0:V R):V R:=match c with
 |.no=>k0
 |.st t x y=>jK d.isNone (match YF cf t with
  |some b=>ui σ b.ty (xG cx σ x) (xG cx σ y) k
  |none=>wW)
 |.ma t x y=>Tw cf cx σ d t x y k
 |.lit t n ps=>zgj cf cx σ d t n ps.toList k
 |.al E=>Nk cf σ d E k
 |.tk t o=>zbt cf σ d t o k
 |.tv t o=>zai cf σ d t o k
 |.bz t ps=>Nr cf cx σ d t ps.toList k
 |.ap a ts=>zf2 cf cx σ d a.toList ts.toList k
 |.sk s a=>Ep cx σ d s a.toList k
 |.yl o a=>N7 cx σ d o a.toList k
def zeg(f:Wf):N Wk->V Wk
 |[]=>wW
 |s::r=>match s.f,s.dom,s.cod,s.bk with
  |f',[.var _ _],[.var _ _],1=>bif Q f' f then Z s else zeg f r
  |_,_,_,_=>zeg f r
def mBm(σ:Sg)(d:V Wn)(s:Wk)(o:K)(k:Sg->V R):V R:=match s,xH σ.ob o with
 |⟨_,[.var t E],[.var t2 a],M,_⟩,Z (.var b c y)=>jK (Q E c && (Q a E && (Ty.same t t2).isSome))<|Ty.cast b t y λy=>G (M (y,())) λz=>k ⟨σ.nx,qU σ.rg d [],kL σ.ob o (.var t2 a z)⟩
 |_,_=>wW
def zoP(σ:Sg)(d:V Wn)(op:Op)(k:Sg->V R):V R:=
 match op with
 |.alloc E=>TX cf σ d E k
 |.box E x=>OA (zph cf d) (zod cf cx σ d E x k)<|mE cf cx σ d (.box E x) k
 |.store t x y=>jK d.isNone (match YF cf t with
  |some b=>zbk σ b.ty (xG cx σ x) (xG cx σ y) k
  |none=>wW)
 |.makeSlice t x y=>zgw cf cx σ d t x y k
 |.buildSlice t n ps=>znG cf cx σ d t n ps.toList k
 |.slice t x wW (Z hi) wW=>(match xG cx σ x with
  |some (.ow o)=>zav cf cx σ d t o hi k
  |_=>mE cf cx σ d (.slice t x wW (Z hi) wW) k)
 |.call ⟨.builtin .append,a,ts⟩=>zom cf cx σ d a.toList ts.toList k
 |.call ⟨.builtin .copy,a,ts⟩=>zgO cf cx σ d a.toList ts.toList k
 |.call ⟨.value f,a,ts⟩=>(match xG cx σ f with
  |some (.fn f' cs)=>(match zaz cx σ f' a.toList cf.cs with
   |some s=>zma cf cx σ d s a.toList cs k
   |none=>mE cf cx σ d (.call ⟨.value f,a,ts⟩) k)
  |some (.bm f' o t)=>(match a.toList,zeg f' cf.cs with
   |[],Z s=>mBm σ d s o k
   |_,_=>wW)
  |_=>mE cf cx σ d (.call ⟨.value f,a,ts⟩) k)
 |op=>mE cf cx σ d op k
def mOp(σ:Sg)(d:V Wn)(a:Op)(k:Sg->V R):V R:=mCo cf cx σ d (coM cf cx σ d a) k<|zoP cf cx σ d a k
def zpU(σ:Sg):Op->V uL
 |.panic x=>Z x
 |_=>wW
def zkz(σ:Sg)(d:V Wn)(a:Op)(kp:PX->Sg->V R)(k:Sg->V R):V R:=match zld cf cx σ a with
 |some (p,b,cs)=>zmR cf cx σ d p b cs kp k
 |none=>(match zpU σ a with
  |some x=>(match xG cx σ x with
   |some (.ifc q)=>kp q σ
   |_=>wW)
  |none=>mOp cf cx σ d a k)
def Mo(σ:Sg)(t:Wn)(b:uS):Sg:=⟨σ.nx,qU σ.rg (Z t) [(0,.kb b)],σ.ob⟩
def AN(c:N Wd)(o:Wd)(σ:Sg)(k:Sg->uS->V R):V R:=match o.guard with
 |none=>k σ qR
 |some (j,a)=>match c[j]? with
  |some e=>(match e.dst with
   |some t=>(match get cx σ t 0 with
    |some (.kb b)=>k σ<|b==a
    |some .un=>k σ I
    |some (.d .b x)=>jK (Wq cx.rg t)<|ifB x (k (Mo σ t qR)<|true==a) (k (Mo σ t I)<|false==a)
    |_=>wW)
   |none=>wW)
  |none=>wW
def IW(o:Wd)(σ:Sg)(k:Sg->V R):V R:=match o.op with
 |.pick (.tmp t) _ _=>(match get cx σ t 0 with
  |some (.d .b x)=>jK (Wq cx.rg t)<|ifB x (k<|Mo σ t qR) (k<|Mo σ t I)
  |_=>k σ)
 |_=>k σ
def zgf(a:N Wd)(kp:PX->Sg->V R):N Wd->Sg->(Sg->V R)->V R
 |[],σ,k=>k σ
 |o::r,σ,k=>jK (wZ cx o.dst)<|AN cx a o σ λσ w=>OA w
  (IW cx o σ λσ=>(let σ:=zk8 cx σ<|zot cf cx σ o.dst o.op;zkz cf cx σ o.dst o.op kp λσ=>zgf a kp r σ k))
  (zgf a kp r (σ.put o.dst [(0,.un)]) k)
def dd:N (K×K×Dv)->N (K×K×Dv)
 |[]=>[]
 |e::r=>e::(dd r).filter λf=> !(Q e.1 f.1 && Q e.2.1 f.2.1)
structure Rb where
 a:V K
 c:V K
 rd:N K
 o:K
 x:Od
structure Oi where
 lo:K
 hi:K
 refs:N K
def ek(ts:N Wn):N (K×K×Dv)->N K
 |[]=>[]
 |(t,_,v)::r=>(match cL ts t,vC v with
  |true,Z o=>o::ek ts r
  |_,_=>ek ts r)
def sA:N (K×Dv)->N K
 |[]=>[]
 |(_,v)::r=>(match vC v with
  |some o=>o::sA r
  |none=>sA r)
def bC(ts:N Wn):N (K×K×Dv)->N (K×K×Dv)
 |[]=>[]
 |(t,i,v)::r=>(match cL ts t with
  |true=>(t,i,v)::bC ts r
  |false=>bC ts r)
def B3(d:V Wn)(rg:N (K×K×Dv)):N (K×Dv):=match d with
 |some t=>rg.filterMap λe=>match Q e.1 t with
  |true=>Z (e.2.1,e.2.2)
  |false=>wW
 |none=>[]
def dK(os:N K):N Rb->N (K×Od)
 |[]=>[]
 |r::rs=>match r.c,cL os r.o with
  |none,qR=>(r.o,r.x)::dK os rs
  |_,_=>dK os rs
def zad(i:K)(os:N K):N Rb->N Rb
 |[]=>[]
 |r::rs=>(match r.c,cL os r.o with
  |none,qR=>⟨r.a,Z i,r.rd,r.o,r.x⟩
  |_,_=>r)::zad i os rs
def zjg(i:K)(os:N K):N Rb->N Rb
 |[]=>[]
 |r::rs=>(match r.c,cL os r.o with
  |none,qR=>⟨r.a,wW,i::r.rd,r.o,r.x⟩
  |_,_=>r)::zjg i os rs
def zd3(i:K)(ob:N (K×Od)):N Rb:=ob.map λe=>⟨Z i,wW,[],e.1,e.2⟩
def zqi(ob:N (K×Od)):N Rb:=ob.map λe=>⟨wW,wW,[],e.1,e.2⟩
def Pg:N Rb->N (K×Od)
 |[]=>[]
 |r::rs=>match r.c with
  |none=>(r.o,r.x)::Pg rs
  |some _=>Pg rs
def okO(n:K)(ob:N (K×Od)):uS:=ob.all λe=>xde e.1 n
def Ln(σ:Sg):N K->Sg
 |[]=>σ
 |o::r=>Ln (R9 σ o) r
def zhj:N RM->uS
 |[]=>qR
 |.own _ _::_=>I
 |.var _ _::_=>I
 |_::r=>zhj r
def zl2(σ:Sg)(b:uS)(d:V Wn):Op->uS
 |.alloc _=>qR
 |.store _ _ _=>qR
 |.makeSlice _ _ _=>qR
 |.buildSlice _ _ _=> !b
 |.box _ _=>zph cf d
 |.build _ _=>(TH cf d).isSome
 |.load _ x=>zh5 (xG cx σ x)||(O4 σ<|xG cx σ x).isSome
 |.slice _ x wW (Z _) wW=>(match xG cx σ x with
  |some (.ow _)=>qR
  |_=>I)
 |.call ⟨.builtin .append,_,_⟩=>qR
 |.call ⟨.builtin .copy,_,_⟩=>qR
 |.call ⟨.value f,a,_⟩=>(match xG cx σ f with
  |some (.fn f' _)=>(match zaz cx σ f' a.toList cf.cs with
   |some s=> !(Dk s.dom)||(!b && !(zhj s.cod))
   |none=>(zjj cf.ms f').isSome)
  |some (.yd _)=>qR
  |some (.bm _ _ _)=>qR
  |_=>I)
 |_=>I
def fzB(a:N K):V Wn->uS
 |some t=>cL a t
 |none=>I
def zqu(b:uS)(d:V Wn)(τ:Sg):Sg:=match b with
 |true=>Ln τ<|sA<|B3 d τ.rg
 |false=>τ
def zmC(τ:Sg)(d:V Wn)(k:N (K×Dv)->K->N (K×Od)->V R):V R:=jK (okL τ.nx (B3 d τ.rg) && okO τ.nx τ.ob)<|k (B3 d τ.rg) τ.nx τ.ob
def zmh(os:N K):Op->N K
 |.move _=>[]
 |.assign _=>[]
 |_=>os
def zmE(a:N Wd)(b:V (K×PX))(i:K):uS:=match b with
 |some (c,_)=>qf a 16 i c
 |none=>I
def OY(a:N Wd)(b:N K):V (K×PX)->N Wd->K->Sg->N Rb->N Oi->(V (K×PX)->Sg->N Rb->N Oi->V R)->V R
 |pn,[],_,σ,rs,is,k=>k pn σ rs is
 |pn,o::r,i,σ,rs,is,k=>jK (wZ cx o.dst)<|OA (zmE a pn i) (OY a b pn r (i+1) (σ.put o.dst []) rs (is++[⟨σ.nx,σ.nx,[]⟩]) k)<|AN cx a o σ λσ w=>OA w
  (IW cx o σ λσ=>OA (zl2 cf cx ⟨σ.nx,σ.rg,dK (ek (xbn a.toArray o) σ.rg) rs⟩ (fzB b o.dst) o.dst o.op||(zld cf cx σ o.op).isSome)
   (zkz cf ⟨0,[],cx.ob⟩ ⟨σ.nx,dd<|bC (xbn a.toArray o)<|σ.rg++cx.rg,dK (ek (xbn a.toArray o) σ.rg) rs⟩ o.dst o.op (λq _=>match pn with
    |some _=>wW
    |none=>OY a b (Z (i,q)) r (i+1) (σ.put o.dst []) (zad i (ek (xbn a.toArray o) σ.rg) rs) (is++[⟨σ.nx,σ.nx,[]⟩]) k) λτ=>
    zmC (zqu (fzB b o.dst) o.dst τ) o.dst λl n ob=>OY a b pn r (i+1) ⟨n,qU σ.rg o.dst l,[]⟩ (zad i (ek (xbn a.toArray o) σ.rg) rs++zd3 i ob) (is++[⟨σ.nx,n,sA l⟩]) k)
   (eOp cf cx ⟨σ.nx,σ.rg,dK (zmh (ek (xbn a.toArray o) σ.rg) o.op) rs⟩ o.op λl=>jK (okL σ.nx l)<|OY a b pn r (i+1) (σ.put o.dst l) (zjg i (zmh (ek (xbn a.toArray o) σ.rg) o.op) rs) (is++[⟨σ.nx,σ.nx,sA l⟩]) k))
  (OY a b pn r (i+1) (σ.put o.dst [(0,.un)]) rs (is++[⟨σ.nx,σ.nx,[]⟩]) k)
def inB(a:Oi)(o:K):uS:=xfu a.lo o && xde o a.hi
def zj4(l:N Wd)(i:K)(b:Oi)(rs:N Rb)(c:N (Oi×K)):uS:=
 (rs.all λr=> !inB b r.o||(match r.a with
  |some j=>Q j i||qf l 16 j i
  |none=>I)) && c.all λJ=>J.1.refs.all λp=> !inB b p||Q J.2 i||qf l 16 J.2 i
def zkC(l:N Wd)(m:K)(rs:N Rb)(is:N Oi):uS:=
 (rs.all λr=>(match r.a with
  |some j=>xde j m && r.rd.all λi=>qf l 16 i j
  |none=>qR) && (match r.c with
  |some k=>xde k m && (match r.a with
   |some j=>qf l 16 k j
   |none=>qR) && r.rd.all λi=>qf l 16 k i
  |none=>qR)) &&
 (is.zipIdx.all λJ=>zj4 l J.2 J.1 rs is.zipIdx) &&
 (xaL m).all λi=>(xaL m).all λj=>Q i j||(match(yb l i).dst with
  |some t=> !((yb l j).dst==Z t)
  |none=>qR)
def zaU(l:N Wd):K->K->K
 |0,m=>m
 |f+1,m=>bif xde 1 m && Vi l (m-1)then zaU l f (m-1)else m
def zne(al:N (K×uL)):uL->uL
 |.tmp t=>(match U2 al t with
  |some x=>x
  |none=> .tmp t)
 |x=>x
def zp4(al:N (K×uL))(o:Wd):N (K×uL):=match o.op,o.dst with
 |.move x,Z d=>(d,zne al x)::al
 |.assign x,Z d=>(d,zne al x)::al
 |_,_=>al
def znJ:N Wd->N (K×uL)->Sg->Sg
 |[],_,σ=>σ
 |o::r,al,σ=>znJ r (zp4 al o)<|zk8 cx σ<|(zot cf cx σ o.dst o.op).map<|zne al
def zm6(id:K):N K:=match U2 cf.an.dz id with
 |some l=>l
 |none=>[]
def zje(l:N Wd):N K:=l.filterMap (·.dst)
def Lq:N Rb->N (K×Od)
 |[]=>[]
 |r::rs=>(match r.a,r.c with
  |none,wW=>(r.o,r.x)::Lq rs
  |_,_=>Lq rs)
def zjP(b:N K)(l:N Wd)(m:K)(a:Sg)(kp:PX->Sg->V R)(k:Sg->V R):V R:=
 OY cf cx l b wW (l.take m) 0 ⟨a.nx,a.rg,[]⟩ (zqi a.ob) [] λc σ rs is=>jK (zkC l m rs is)<|match c with
  |none=>zgf cf cx l kp (l.drop m) ⟨σ.nx,dd σ.rg,Pg rs⟩ k
  |some (_,q)=>kp q ⟨σ.nx,a.rg.filter<|λe=> !cL (zje<|l.take m) e.1,Lq rs⟩
def zqD(id:K):uS:=match U2 cf.an.dz id with
 |some _=>qR
 |none=>I
def zf8(id:K)(l:N Wd)(a:uS)(σ:Sg)(kp:PX->Sg->V R)(k:Sg->V R):V R:=
 OA a
  (let m:=zaU l (X l) (X l)
  jK (Vi l m)<|OA (zqD cf id) (zjP cf cx (zm6 cf id) l m (Ln σ<|ek (zm6 cf id) σ.rg) kp k) (zjP cf cx (zje<|l.take m) l m (znJ cf cx (l.take m) [] σ) kp k))
  (zgf cf cx l kp l σ k)
def JQ:N (K×TF)->Type
 |[]=>Wl
 |[a]=>a.2.D
 |a::b::r=>a.2.D×JQ (b::r)
def fI(σ:Sg)(ds:N (K×TF))(t:K)(f:TF)(k:f.D->N K->V R):V R:=match f,k with
 |.d s,k=>CQ (get cx σ t 0) s λy=>k y []
 |.q s,k=>(match get cx σ t 0 with
  |some (.q a x)=>Ty.cast a s x λy=>k y []
  |_=>wW)
 |.own s E,k=>(match get cx σ t 0 with
  |some (.ow o)=>(match xH σ.ob o with
   |some (.own a b xs)=>jK (Q E b)<|Ty.cast (.l a) (.l s) xs λy=>k y [o]
   |_=>wW)
  |some .nil=>k ([]:N s.D) []
  |_=>wW)
 |.var s E,k=>(match get cx σ t 0 with
  |some (.vs o _)=>(match xH σ.ob o with
   |some (.var a b z)=>jK (Q E b)<|Ty.cast a s z λy=>k y [o]
   |_=>wW)
  |_=>wW)
 |.mat s E E1,k=>(match get cx σ t 0 with
  |some (.mw o)=>(match xH σ.ob o with
   |some (.mat a b F' e ix)=>jK (Q E b && Q E1 F')<|Ty.cast (.l (.l a)) (.l (.l s)) e λy=>k (y,ix) [o]
   |_=>wW)
  |some .nil=>k (([],[]):N (N s.D)×N K) []
  |_=>wW)
 |.matv s E E1,k=>(match get cx σ t 0 with
  |some (.mv o lo n)=>(match xH σ.ob o with
   |some (.mat a b F' e ix)=>jK (Q E b && Q E1 F')<|Ty.cast (.l (.l a)) (.l (.l s)) e λy=>k ((y,ix),(lo,n)) [o]
   |_=>wW)
  |_=>wW)
 |.row j,k=>(match get cx σ t 0,ds[j]? with
  |some (.rw o r),Z (s,.mat _ _ _)=>(match get cx σ s 0 with
   |some (.mw c)=>jK (Q o c)<|k r []
   |_=>wW)
  |some (.rw o r),Z (s,.matv _ _ _)=>(match get cx σ s 0 with
   |some (.mv c _ _)=>jK (Q o c)<|k r []
   |_=>wW)
  |_,_=>wW)
 |.view j,k=>(match get cx σ t 0,ds[j]? with
  |some (.mv o lo n),Z (s,.mat _ _ _)=>(match get cx σ s 0 with
   |some (.mw c)=>jK (Q o c)<|k (lo,n) []
   |_=>wW)
  |some (.mv o lo n),Z (s,.matv _ _ _)=>(match get cx σ s 0 with
   |some (.mv c _ _)=>jK (Q o c)<|k (lo,n) []
   |_=>wW)
  |_,_=>wW)
 |.vr s E h E1 n i,k=>(match get cx σ t 0 with
  |some (.mw o)=>(match xH σ.ob o with
   |some (.vr a b g F' n' m z xs)=>jK (Q E b && (Q E1 F' && (Q n n' && Q i m)))<|Ty.cast a s z λz=>Ty.cast (.l g) (.l h) xs λxs=>k (z,xs) [o]
   |_=>wW)
  |_=>wW)
 |.bo s E p,k=>(match get cx σ t 0 with
  |some (.mw o)=>(match xH σ.ob o with
   |some (.bo a b F' xs)=>jK (Q E b && Q p F')<|Ty.cast (.l a) (.l s) xs λy=>k y [o]
   |_=>wW)
  |_=>wW)
def E5(os:N K):N K->uS
 |[]=>qR
 |o::r=> !cL os o && E5 os r
def gat(σ:Sg)(ds:N (K×TF)):(l:N (K×TF))->(JQ l->N K->V R)->V R
 |[],k=>k () []
 |[a],k=>fI cx σ ds a.1 a.2 k
 |a::b::r,k=>fI cx σ ds a.1 a.2 λx o=>gat σ ds (b::r) λy os=>jK (E5 os o)<|k (x,y) (o++os)
def zlh(σ:Sg):N (K×NF)->uS
 |[]=>qR
 |(t,f)::r=>(match f,get cx σ t 0 with
  |.kb b,Z (.kb c)=>b==c
  |.nil,Z .nil=>qR
  |.ci x,Z (.d .i y)=>eqI x y
  |.cu x,Z (.d .u y)=>eqU x y
  |.al s,Z (.ow o)=>(match get cx σ s 0 with
   |some (.ow a)=>Q o a
   |_=>I)
  |.al s,Z (.vs o _)=>(match get cx σ s 0 with
   |some (.vs a _)=>Q o a
   |_=>I)
  |.al s,Z (.mw o)=>(match get cx σ s 0 with
   |some (.mw a)=>Q o a
   |_=>I)
  |.bm s f,Z (.bm f' o _)=>(match get cx σ s 0 with
   |some (.vs a _)=>Q o a && Q f f'
   |_=>I)
  |_,_=>I) && zlh σ r
def Hi(n0 o:K)(f:TF)(x:f.D):Dv×V Od:=match f,x with
 |.d t,x=>(.d t x,wW)
 |.q t,x=>(.q t x,wW)
 |.own t E,x=>(.ow o,Z (.own t E x))
 |.var t E,x=>(.vs o t,Z (.var t E x))
 |.mat t E E1,x=>(.mw o,Z (.mat t E E1 x.1 x.2))
 |.matv t E E1,x=>(.mv o x.2.1 x.2.2,Z (.mat t E E1 x.1.1 x.1.2))
 |.row j,r=>(.rw (n0+j) r,wW)
 |.view j,r=>(.mv (n0+j) r.1 r.2,wW)
 |.bo t E a,x=>(.mw o,Z (.bo t E a x))
 |.vr t E s E1 n i,x=>(.mw o,Z (.vr t E s E1 n i x.1 x.2))
def mC(n0:K):(l:N (K×TF))->JQ l->K->N (K×K×Dv)×N (K×Od)
 |[],_,_=>([],[])
 |[a],x,o=>let v:=Hi n0 o a.2 x
  ([(a.1,0,v.1)],match v.2 with
   |some y=>[(o,y)]
   |none=>[])
 |a::b::r,x,o=>let v:=Hi n0 o a.2 x.1
  let y:=mC n0 (b::r) x.2<|o+1
  ((a.1,0,v.1)::y.1,match v.2 with
   |some q=>(o,q)::y.2
   |none=>y.2)
def Nb(rg:N (K×K×Dv)):N (K×NF)->N (K×K×Dv)
 |[]=>rg
 |(t,f)::r=>(match f with
  |.kb b=>[(t,0,.kb b)]
  |.nil=>[(t,0,.nil)]
  |.ci x=>[(t,0,.d .i x)]
  |.cu x=>[(t,0,.d .u x)]
  |.al s=>(match lU rg s 0 with
   |some v=>[(t,0,v)]
   |none=>[])
  |.bm s f=>(match lU rg s 0 with
   |some (.vs o q)=>[(t,0,.bm f o q)]
   |_=>[]))++Nb rg r
def JU(sh:Sh)(x:JQ sh.ds)(kp:Sg):Sg:=
 let y:=mC kp.nx sh.ds x kp.nx
 ⟨kp.nx+X sh.ds,Nb y.1 sh.ns++y.1++kp.rg,y.2++kp.ob⟩
def zfb(σ:Sg):N (K×TF)->Sg
 |[]=>σ
 |(t,.d _)::r=>zfb (frz cx σ (.tmp t)) r
 |_::r=>zfb σ r
def bh(sh:Sh)(σ:Sg)(k:JQ sh.ds->V R):V R:=let σ:=zfb cx σ sh.ds
 jK (zlh cx σ sh.ns)<|gat cx σ sh.ds sh.ds λx _=>k x
def zaV(a:Tg×Sh):Type:=match a.1 with
 |.p _=>PX×JQ a.2.ds
 |_=>JQ a.2.ds
def SmD:N (Tg×Sh)->Type
 |[]=>Empty
 |[a]=>zaV a
 |a::b::r=>zaV a⊕SmD (b::r)
def zbm:Tg->Tg->uS
 |.n,.n=>qR
 |.x i,.x j=>Q i j
 |.r,.r=>qR
 |.p _,.p _=>qR
 |_,_=>I
def zoS(σ:Sg)(t:Tg):(a:Tg×Sh)->(zaV a->V R)->V R
 |(.p _,sh),k=>(match t with
  |.p q=>bh cx sh σ λx=>k (q,x)
  |_=>wW)
 |(.n,sh),k=>bh cx sh σ k
 |(.x _,sh),k=>bh cx sh σ k
 |(.r,sh),k=>bh cx sh σ k
def zg7(kp:Sg)(K:Tg->Sg->V R):(a:Tg×Sh)->zaV a->V R
 |(.p _,sh)=>λx=>K (.p x.1)<|JU sh x.2 kp
 |(.n,sh)=>λx=>K .n<|JU sh x kp
 |(.x i,sh)=>λx=>K (.x i)<|JU sh x kp
 |(.r,sh)=>λx=>K .r<|JU sh x kp
def zfH(σ:Sg)(t:Tg):(l:N (Tg×Sh))->(SmD l->V R)->V R
 |[],_=>wW
 |[a],k=>jK (zbm a.1 t)<|zoS cx σ t a k
 |a::b::r,k=>OA (zbm a.1 t) (zoS cx σ t a λx=>k (.inl x))<|zfH σ t (b::r) λy=>k (.inr y)
def OJ(kp:Sg)(K:Tg->Sg->V R):(l:N (Tg×Sh))->SmD l->V R
 |[]=>λ_=>wW
 |[a]=>λx=>zg7 kp K a x
 |a::b::r=>λx=>xfj (α:=zaV a) (β:=SmD (b::r)) (λx=>zg7 kp K a x) (OJ kp K (b::r)) x
def FW:Wt->N K
 |.region _ d _=>d.toList.filterMap (·.dst)
 |.seq a b=>FW a++FW b
 |.cond _ a b=>FW a++FW b
 |.block _ c=>FW c
 |.loop c=>FW c
 |.scope c=>FW c
 |.rangeFunc _ ps a c=>ps.toList++(FW a++FW c)
 |_=>[]
def rid:Wt->V K
 |.region i _ _=>Z i
 |.seq a b=>(match rid a with
  |some i=>Z i
  |none=>rid b)
 |.cond _ a b=>(match rid a with
  |some i=>Z i
  |none=>rid b)
 |.block _ c=>rid c
 |.loop c=>rid c
 |.scope c=>rid c
 |.rangeFunc _ _ a c=>(match rid a with
  |some i=>Z i
  |none=>rid c)
 |_=>wW
def zmp:V K->K
 |some i=>i+1
 |none=>0
def zsp(a b:Wt):K:=zmp (rid a)*65536+zmp (rid b)
def Hv(σ:Sg):N K->N K
 |[]=>[]
 |t::r=>match lU σ.rg t 0 with
  |some v=>(match vC v with
   |some o=>o::Hv σ r
   |none=>Hv σ r)
  |none=>Hv σ r
def zf0(a b:N K)(e:K×K×Dv):uS:= !cL a e.1 && (match vC e.2.2 with
 |some o=>cL b o
 |none=>qR)
def keep(σ:Sg)(a ro:N K):Sg:=let b:=Hv σ ro
 ⟨σ.nx,σ.rg.filter<|zf0 a b,σ.ob.filter λe=>cL b e.1⟩
def rest(σ:Sg)(a ro:N K):Sg:=let b:=Hv σ ro
 ⟨σ.nx,σ.rg.filter<|λe=> !zf0 a b e,σ.ob.filter λe=> !cL b e.1⟩
def jj(cx kp:Sg):Sg:=⟨kp.nx,kp.rg++cx.rg,kp.ob++cx.ob⟩
def du:N (K×TF)->uS
 |[]=>qR
 |(_,.own _ _)::r=>du r
 |(_,.var _ _)::r=>du r
 |(_,.mat _ _ _)::r=>du r
 |(_,.bo _ _ _)::r=>du r
 |_=>I
def BM:N (K×TF)->K->N (K×K×Dv)
 |[],_=>[]
 |(t,.mat _ _ _)::r,n=>(t,0,.mw n)::BM r (n+1)
 |(t,.bo _ _ _)::r,n=>(t,0,.mw n)::BM r (n+1)
 |(t,_)::r,n=>(t,0,.ow n)::BM r (n+1)
def Iz{a:K×TF}:{l:N (K×TF)}->a.2.D->JQ l->JQ (a::l)
 |[],y,_=>y
 |_::_,y,x=>(y,x)
def mV{a:K×TF}:{l:N (K×TF)}->JQ (a::l)->a.2.D×JQ l
 |[],z=>(z,())
 |_::_,z=>z
def u6(pt:K)(t:Ty)(E:ut)(ds:N (K×TF)):Sh:=⟨(pt,.own t E)::ds,[]⟩
def zgc(ds:N (K×TF))(t:K):uS:=ds.all λe=> !Q e.1 t
def zeL:N (K×TF)->uS
 |[]=>qR
 |e::r=>zgc r e.1 && zeL r
def cpR(wr:Sg)(n:K)(sh:Sh):Sg:=⟨n+X sh.ds,BM sh.ds n++wr.rg,wr.ob⟩
def zo3(cp:Sg)(ds:N (K×TF))(t:Ty)(E:ut)(pt:K)(τ q:Tg)(σ:Sg):V (N t.D×(JQ ds⊕JQ ds)):=match q with
 |.n=>bh cp (u6 pt t E ds) σ λz=>Z ((mV z).1,.inl (mV z).2)
 |.x i=>jK (zbm τ (.x i))<|bh cp (u6 pt t E ds) σ λz=>Z ((mV z).1,.inr (mV z).2)
 |.r=>jK (zbm τ .r)<|bh cp (u6 pt t E ds) σ λz=>Z ((mV z).1,.inr (mV z).2)
 |.p _=>wW
def zqN(wr:Sg)(n:K)(ds:N (K×TF))(t:Ty)(E:ut)(pt:K)(τ:Tg)
 (b c:Sg->Sg->(Tg->Sg->V (N t.D×(JQ ds⊕JQ ds)))->V (N t.D×(JQ ds⊕JQ ds))) (ys:N t.D) (x:JQ ds):V (N t.D×(JQ ds⊕JQ ds)):=
 b (cpR wr n<|u6 pt t E ds) (JU (u6 pt t E ds) (Iz (a:=(pt,.own t E)) ys x) ⟨n,[],[]⟩) λq σ=>match q with
  |.n=>c (cpR wr n<|u6 pt t E ds) σ<|zo3 (cpR wr n<|u6 pt t E ds) ds t E pt τ
  |_=>wW
def zsu:Tg->uS
 |.p _=>qR
 |_=>I
def zbg{R:Type}(cx σ:Sg)(K:Tg->Sg->V R)(s:Lp)(it:Ha)(y:aH it.dom)(τ:Tg)(pt:wP)(a:N wP)
 (b c:Sg->Sg->(Tg->Sg->V (N it.t.D×(JQ s.hd.ds⊕JQ s.hd.ds)))->V (N it.t.D×(JQ s.hd.ds⊕JQ s.hd.ds))):V R:=
 let kp:=keep σ a s.sg.ro
 let wr:=jj cx kp
 jK (du s.hd.ds && (!zsu τ && zeL (u6 pt it.t it.E s.hd.ds).ds && Wq wr.rg pt))<|bh wr s.hd (rest σ a s.sg.ro) λx=>
  G (it.M (X:=JQ s.hd.ds) (Y:=JQ s.hd.ds) y (zqN wr kp.nx s.hd.ds it.t it.E pt τ b c) x) λr=>xfj (λx=>K .n<|JU s.hd x kp) (λx=>K τ<|JU s.hd x kp) r
def NL:Wt->uS
 |.seq a b=>NL a && NL b
 |.cond _ a b=>NL a && NL b
 |.block _ c=>NL c
 |.loop c=>NL c
 |.scope c=>NL c
 |.rangeFunc _ _ _ _=>I
 |_=>qR
end
def den(cf:Cf):Wt->{R:Type}->Sg->Sg->(Tg->Sg->V R)->V R
 |.skip,_,cx,σ,K=>K .n σ
 |.label _,_,cx,σ,K=>K .n σ
 |.exit id,_,cx,σ,K=>K (.x id) σ
 |.ret,_,cx,σ,K=>K .r σ
 |.scope c,_,cx,σ,K=>den cf c cx σ K
 |.region i h k,_,cx,σ,K=>zf8 cf cx i h.toList k σ (λq σ=>K (.p q) σ) λσ=>K .n σ
 |.cond c a b,_,cx,σ,K=>(match xG cx σ c with
  |some (.kb qR)=>den cf a cx σ K
  |some (.kb I)=>den cf b cx σ K
  |some (.d .b x)=>ifB x (den cf a cx σ K)<|den cf b cx σ K
  |_=>wW)
 |.block id c,_,cx,σ,K=>den cf c cx σ λt σ=>match t with
  |.x j=>OA (Q j id) (K .n σ)<|K (.x j) σ
  |t=>K t σ
 |.seq a b,_,cx,σ,K=>
  (match U2 cf.an.jn (zsp a b)with
  |none=>den cf a cx σ λt σ=>(match t with
   |.n=>den cf b cx σ K
   |t=>K t σ)
  |some s=>
   let e:=FW a
   let kp:=keep σ e s.ro
   G (den cf a (jj cx kp) (rest σ e s.ro) λt σ=>zfH (jj cx kp) σ t s.tg Z) λx=>
    OJ kp (λt σ=>match t with
     |.n=>den cf b cx σ K
     |t=>K t σ) s.tg x)
 |.loop c,_,cx,σ,K=>
  (match(match rid c with
   |some i=>U2 cf.an.lp i
   |none=>wW)with
  |none=>wW
  |some s=>
   let e:=FW c
   let kp:=keep σ e s.sg.ro
   let wr:=jj cx kp
   bh wr s.hd (rest σ e s.sg.ro) λx=>
    G (zg (λL x=>den cf c wr (JU s.hd x ⟨kp.nx,[],[]⟩) λt σ=>match t with
     |.n=>bh wr s.hd σ L
     |t=>zfH wr σ t s.sg.tg Z) cf.fu x) λx=>OJ kp K s.sg.tg x)
 |.rangeFunc g ps a c,_,cx,σ,K=>
  (match xG cx σ g,(match rid c with
   |some i=>U2 cf.an.lp i
   |none=>wW),ps.toList with
  |some (.fn f cs),Z s,[pt]=>(match zjO cf.is f,s.sg.tg,s.hd.ns with
   |some it,[(τ,_)],[]=>(match cQ it.dom cs with
    |some y=>jK (NL a && NL c)<|zbg cx σ K s it y τ pt (pt::(FW a++FW c)) (λcx σ K=>den cf a cx σ K) (λcx σ K=>den cf c cx σ K)
    |none=>wW)
   |_,_,_=>wW)
  |_,_,_=>wW)
 |_,_,_,_,_=>wW
def Yv:(dom:N AM)->aH dom->K->N (K×K×Dv)×N (K×Od)
 |[],_,_=>([],[])
 |.d t::r,x,i=>let y:=Yv r x.2 (i+1)
  ((i,0,.d t x.1)::y.1,y.2)
 |.q t::r,x,i=>let y:=Yv r x.2 (i+1)
  ((i,0,.q t x.1)::y.1,y.2)
 |.own t E::r,x,i=>let y:=Yv r x.2 (i+1)
  ((i,0,.ow i)::y.1,(i,.own t E x.1)::y.2)
 |.var t E::r,x,i=>let y:=Yv r x.2 (i+1)
  ((i,0,.vs i t)::y.1,(i,.var t E x.1)::y.2)
 |.fn dom cod::r,x,i=>let y:=Yv r x.2 (i+1)
  ((i,0,.fp dom cod x.1)::y.1,y.2)
def DD{R:Type}(cf:Cf)(σ:Sg)(r:V5)(m:RM)(k:m.D->N K->V R):V R:=match r,m,k with
 |.tmp t,.d s,k=>CQ (get ⟨0,[],[]⟩ σ t 0) s λy=>k y []
 |.tmp t,.own s E,k=>fI ⟨0,[],[]⟩ σ [] t (.own s E) k
 |.tmp t,.var s E,k=>fI ⟨0,[],[]⟩ σ [] t (.var s E) k
 |.cell t E,.d s,k=>(match get ⟨0,[],[]⟩ σ t 0,YF cf E with
  |some (.vs o _),Z a=>(match xH σ.ob o with
   |some (.var b c z)=>jK (Q E c)<|Ty.cast b a.ty z λz=>Ty.cast a.ty s z λy=>k y [o]
   |_=>wW)
  |_,_=>wW)
 |_,_,_=>wW
def Bw{R:Type}(cf:Cf)(σ:Sg):N V5->(cod:N RM)->(aI cod->N K->V R)->V R
 |[],[],k=>k () []
 |[v],[m],k=>DD cf σ v m k
 |v::a::vs,m::m'::ms,k=>DD cf σ v m λx o=>Bw cf σ (a::vs) (m'::ms) λy os=>jK (E5 os o)<|k (x,y) (o++os)
 |_,_,_=>wW
def OB(N:K):Wt->uS
 |.region _ d _=>d.toList.all λo=>ke N o.dst
 |.seq a b=>OB N a && OB N b
 |.cond _ a b=>OB N a && OB N b
 |.block _ c=>OB N c
 |.loop c=>OB N c
 |.scope c=>OB N c
 |.rangeFunc _ ps a c=>(ps.toList.all λp=>xde p N) && (OB N a && OB N c)
 |_=>qR
def Jy(σ:Sg):N V5->N RM->Sg
 |.tmp t::vs,.d _::ms=>Jy (frz ⟨0,[],[]⟩ σ (.tmp t)) vs ms
 |_::vs,_::ms=>Jy σ vs ms
 |_,_=>σ
def zan(cf:Cf)(fn:V0)(dom:N AM)(cod:N RM)(x:aH dom):V (aI cod):=match fn.body with
 |some c=>jK (OB fn.ntmps c && xfu (X dom) fn.ntmps)<|
  let y:=Yv dom x 0
  den cf c ⟨0,[],[]⟩ ⟨X dom,y.1,y.2⟩ λt σ=>(match t with
   |.r=>Bw cf (Jy σ fn.results.toList cod) fn.results.toList cod λy _=>Z y
   |.n=>Bw cf (Jy σ fn.results.toList cod) fn.results.toList cod λy _=>Z y
   |_=>wW)
 |none=>wW
def zlo(cf:Cf)(fn:V0)(dom:N AM)(cod:N RM)(x:aH dom):V (PX⊕aI cod):=match fn.body with
 |some c=>jK (OB fn.ntmps c && xfu (X dom) fn.ntmps)<|
  let y:=Yv dom x 0
  den cf c ⟨0,[],[]⟩ ⟨X dom,y.1,y.2⟩ λt σ=>(match t with
   |.r=>Bw cf (Jy σ fn.results.toList cod) fn.results.toList cod λy _=>Z (.inr y)
   |.n=>Bw cf (Jy σ fn.results.toList cod) fn.results.toList cod λy _=>Z (.inr y)
   |.p q=>Z (.inl q)
   |_=>wW)
 |none=>wW
def GI:N AM->K->N V5
 |[],_=>[]
 |.own _ _::r,i=> .tmp i::GI r (i+1)
 |.var _ _::r,i=> .tmp i::GI r (i+1)
 |_::r,i=>GI r<|i+1
def ET(a:K->jp):N AM->K->N (K×K×Dv)
 |[],_=>[]
 |.own _ _::r,i=>(i,0,.pin<|a i)::ET a r (i+1)
 |.var _ _::r,i=>(i,0,.pin<|a i)::ET a r (i+1)
 |_::r,i=>ET a r<|i+1
def zk4(cf:Cf)(fn:V0)(dom:N AM)(cod:N RM)(bk:K)(b:K->jp)(x:aH dom):V (aI cod):=match fn.body with
 |some c=>jK (OB fn.ntmps c && xfu (X dom) fn.ntmps && Q (X fn.results.toList+bk) (X cod) && Q (X (GI dom 0)) bk && xde 0 bk)<|
  let y:=Yv dom x 0
  let a:=fn.results.toList++GI dom 0
  den cf c ⟨0,ET b dom 0,[]⟩ ⟨X dom,y.1,y.2⟩ λt σ=>(match t with
   |.r=>Bw cf (Jy σ a cod) a cod λy _=>Z y
   |.n=>Bw cf (Jy σ a cod) a cod λy _=>Z y
   |_=>wW)
 |none=>wW
end
section
def iv(p:Prop):FF where
 p _ _:=p
 keep h _:=h
 sub h _:=h
def GX:N PD->N jp->N FF
 |c::cs,v::vs=>fP c.t.rep c.x v::GX cs vs
 |_,_=>[]
def tsF:(ts:N Ty)->ou ts->N jp->N FF
 |[],_,_=>[]
 |t::ts,x,vs=>fV t.rep x.1 (vs.headD XS)::tsF ts x.2 vs.tail
def csF:(ts:N Ty)->Ia ts->N jp->N FF
 |[],_,_=>[]
 |[t],x,vs=>[fV t.rep x<|vs.headD XS]
 |t::s::r,x,vs=>fV t.rep x.1 (vs.headD XS)::csF (s::r) x.2 vs.tail
def znW(P:Z2)(a:Wf)(cG:N jp)(b:N FF)(dom cod:N Ty)(g:ou dom->V (Ia cod)):Prop:=
 Ae P a=qR/\∀(x:ou dom) (r:Ia cod),g x=Z r->∀vs:N jp,X vs=X dom->
  Fn P a (vs++cG).toArray (tsF dom x vs++b) ZI (λus=>csF cod r us) (λus=>X us=X cod)
def fnF(P:Z2)(dom cod:N Ty)(g:ou dom->V (Ia cod))(v:jp):FF where
 p S w:=∃a cG b,v=.func (.func a) #[] cG.toArray/\znW P a cG b dom cod g/\zD S b w
 keep:=by rintro S w w' ⟨a,cG,b,h1,c,d⟩ k;exact⟨a,cG,b,h1,c,zD.keep k d⟩
 sub:=by rintro S e w ⟨a,cG,b,h1,c,d⟩ k;exact⟨a,cG,b,h1,c,zD.sub k d⟩
def amF(P:Z2):(a:AM)->a.D->jp->FF
 |.d t,x,v=>fV t.rep x v
 |.q t,x,v=>fP t.rep x v
 |.own _ _,_,_=>iv Ws
 |.var _ _,_,v=>iv (∃b,v=.pointer (Z ⟨b,0,wW⟩))
 |.fn dom cod,g,v=>fnF P dom cod g v
def amM:(a:AM)->a.D->jp->N MF
 |.own t E,xs,v=>[mO t.rep E v xs]
 |.var t E,z,v=>[mP t.rep.c E v z]
 |_,_,_=>[]
def jQ(P:Z2):(dom:N AM)->aH dom->N jp->N FF
 |[],_,_=>[]
 |a::r,x,vs=>amF P a x.1 (vs.headD XS)::jQ P r x.2 vs.tail
def kG:(dom:N AM)->aH dom->N jp->N MF
 |[],_,_=>[]
 |a::r,x,vs=>amM a x.1 (vs.headD XS)++kG r x.2 vs.tail
def rmF:(m:RM)->m.D->jp->N FF
 |.d t,x,v=>[fV t.rep x v]
 |.own _ _,_,_=>[]
 |.var _ _,_,v=>[iv (∃b,v=.pointer (Z ⟨b,0,wW⟩))]
def rmM:(m:RM)->m.D->jp->N MF
 |.own t E,xs,v=>[mO t.rep E v xs]
 |.var t E,z,v=>[mP t.rep.c E v z]
 |.d _,_,_=>[]
def kN:(rs:N RM)->aI rs->N jp->N FF
 |[],_,_=>[]
 |[m],x,vs=>rmF m x<|vs.headD XS
 |m::n::r,x,vs=>rmF m x.1 (vs.headD XS)++kN (n::r) x.2 vs.tail
def kQ:(rs:N RM)->aI rs->N jp->N MF
 |[],_,_=>[]
 |[m],x,vs=>rmM m x<|vs.headD XS
 |m::n::r,x,vs=>rmM m x.1 (vs.headD XS)++kQ (n::r) x.2 vs.tail
def Ke:N AM->N jp->N jp
 |[],_=>[]
 |.own _ _::r,vs=>vs.headD XS::Ke r vs.tail
 |.var _ _::r,vs=>vs.headD XS::Ke r vs.tail
 |_::r,vs=>Ke r vs.tail
def zo4(bk n:K)(us:N jp):jp:=match bk with
 |0=>ZI us
 |b+1=>ZI<|us.take<|n-(b+1)
def zfe(dom:N AM)(vs:N jp)(bk n:K)(us:N jp):Prop:=match bk with
 |0=>X us=n
 |b+1=>X us=n/\us.drop (n-(b+1))=Ke dom vs
def y8(P:Z2)(s:Wk):Prop:=
 Ae P s.f=qR/\∀(x:aH s.dom) (r:aI s.cod),s.M x=Z r->∀vs:N jp,X vs=X s.dom->
  FnG P s.f vs.toArray (kG s.dom x vs) (jQ P s.dom x vs) (zo4 s.bk (X s.cod)) (λus=>kQ s.cod r us) (λus=>kN s.cod r us) (zfe s.dom vs s.bk (X s.cod))
def y8.plain{P:Z2}{s:Wk}(h:y8 P s)(a:s.bk=0){x:aH s.dom}{r:aI s.cod}(b:s.M x=Z r){vs:N jp}(hl:X vs=X s.dom):
 FnG P s.f vs.toArray (kG s.dom x vs) (jQ P s.dom x vs) ZI (λus=>kQ s.cod r us) (λus=>kN s.cod r us) (λus=>X us=X s.cod):=by
 have h1:=h.2 x r b vs hl;rw[a]at h1;exact h1
def zhE(P:Z2)(t:ut)(i:K):V (K×uS×K):=match P.underlying t with
 |some (.struct fs)=>match fs[i]? with
  |some f=>match tyB P f.type with
   |some (agg,n,_,Z _)=>Z (f.offset,agg,n)
   |_=>wW
  |none=>wW
 |_=>wW
def zfX(P:Z2)(t:ut)(a:TI):Prop:=match a.k with
 |.int k=>P.underlying t=Z (.int k)
 |.bool=>P.underlying t=Z .bool
 |.str=>P.underlying t=Z .string
 |.sl E=>P.underlying t=Z (.slice E)/\∃e,a.ty=.l e
 |.st n=>a.ty.rep.agg=qR/\(∀i f,xu n a.ty i=Z f->zbp P t i=Z f.off)/\
  (∃fs,P.underlying t=Z (.struct fs)/\∃pl:Z5 (K×K),(∀w,(fs.mapM (λf=>do pure (f.offset,<-Jp f.type)):Sem (Z5<|K×K)).run P w=.ok pl w)/\
   ∀i f,xu n a.ty i=Z f->pl[i]? =Z (f.off,f.f.n))/\
  ∀i f,xu n a.ty i=Z f->zhE P t i=Z (f.off,f.f.rep.agg,f.f.n)
 |.ar k E=>a.ty.rep.agg=qR/\P.underlying t=Z (.array k E)
 |.pt E=>P.underlying t=Z (.pointer E)
def zg0(P:Z2)(t:ut)(b:TI):Prop:=
 (∃a,JN P t b.ty.rep.agg b.ty.rep.n b.B a/\a.cells.size=b.ty.rep.n/\(∀S w,b.ty.rep.p S b.ty.z a.cells.toList w)/\(∀s,b.ty=.l s->a=.slice wW 0 0)/\∀n i off s g st,xu n b.ty i=Z ⟨off,.l s,g,st⟩->a.cells.toList[off]? =Z (.slice wW 0 0))/\0<b.B/\0<b.ty.rep.n/\zfX P t b
def y6(P:Z2)(tt:N (K×TI)):Prop:=∀t a,U2 tt t=Z a->zg0 P t a
def ua(P:Z2)(tt:N (K×TI)):Prop:=∀t s E B,U2 tt t=Z ⟨.l s,.sl E,B⟩->∃a,U2 tt E=Z a/\a.ty=s
def Fl.ok(t:Ty)(f:Fl t.D):Prop:=∀z:t.D,Sub t.rep.c z f.off f.f.rep (f.get z)<|λy=>f.set y z
def zoz(f:Wf)(c:N PD)(v:jp):FF where
 p S w:=∃cs:N jp,v=.func (.func f) #[] cs.toArray/\X cs=X c/\zD S (GX c cs) w
 keep:=by rintro S w w' ⟨cs,h1,a,b⟩ k;exact⟨cs,h1,a,zD.keep k b⟩
 sub:=by rintro S d w ⟨cs,h1,a,b⟩ k;exact⟨cs,h1,a,zD.sub k b⟩
def Ss(v0:jp)(lo n:K)(v:jp):Prop:=(∃b m cap,v0=.slice (Z ⟨b,0,wW⟩) m cap/\lo+n<=m/\m<=cap/\cap<=9223372036854775807/\v=.slice (if cap=lo then Z ⟨b,0,wW⟩else Z ⟨b,0+lo*1,wW⟩) n (cap-lo))\/(v0=.slice wW 0 0/\lo=0/\n=0/\v=.slice wW 0 0)
def Ss.old{v0 v:jp}{lo n:K}(h:Ss v0 lo n v):(∃b m cap c,v0=.slice (Z ⟨b,0,wW⟩) m cap/\lo+n<=m/\n<=c/\c<=9223372036854775807/\v=.slice (Z ⟨b,0+lo*1,wW⟩) n c)\/(n=0/\∃e c,c<=9223372036854775807/\v=.slice e 0 c):=by
 rcases h with⟨b,m,cap,h1,d,f,g,a⟩|⟨h1,d,f,g⟩
 by_cases hc:cap=lo;rw[E hc]at a;obtain rfl:n=0:=W
 simp_all;rw[P hc]at a;exact .inl ⟨b,m,cap,cap-lo,h1,d,W,W,a⟩;simp_all
def Ss.same{v0 d v:jp}{lo n m:K}(h:Ss v0 lo n v)(f:Ss d lo n v)(hl:∀a k c,v0=.slice a k c->a.isSome=qR->k=m)(p:∀a k c,d=.slice a k c->a.isSome=qR->k=m):v0=d:=by
 rcases h with⟨b,k,cap,h1,g,i,j,q⟩|⟨h1,g,i,j⟩<;>rcases f with⟨r,k',e,q1,q2,l,o,s⟩|⟨q1,q2,l,o⟩
 grind;simp_all;simp_all;grind
def zsI(F:FF)(p:Prop):FF where
 p S w:=F.p S w/\p
 keep h k:=⟨F.keep h.1 k,h.2⟩
 sub h k:=⟨F.sub h.1 k,h.2⟩
def vP(P:Z2)(vs:K->jp):Dv->jp->FF
 |.d t x,v=>fV t.rep x v
 |.q t x,v=>fP t.rep x v
 |.kb b,v=>iv<|v=.bool b
 |.un,v=>iv<|v=XS
 |.nil,v=>iv<|v=.slice wW 0 0
 |.ow o,v=>iv<|v=vs o
 |.ep o t j f,v=>iv (Fl.ok t f/\∃b n cap,vs o=.slice (Z ⟨b,0,wW⟩) n cap/\j<n/\v=.pointer (Z ⟨b,0+j*t.rep.n+f.off,wW⟩))
 |.sv o t lo n,v=>iv<|(∃b m cap c,vs o=.slice (Z ⟨b,0,wW⟩) m cap/\lo+n<=m/\n<=c/\c<=9223372036854775807/\v=.slice (Z ⟨b,0+lo*t.rep.n,wW⟩) n c)\/(n=0/\∃a c,c<=9223372036854775807/\v=.slice a 0 c)
 |.vs o t,v=>iv (v=vs o/\∃b,vs o=.pointer (Z ⟨b,0,wW⟩))
 |.vp o t f,v=>iv (Fl.ok t f/\∃b,vs o=.pointer (Z ⟨b,0,wW⟩)/\v=.pointer (Z ⟨b,0+f.off,wW⟩))
 |.fn f c,v=>zoz f c v
 |.fp dom cod g,v=>fnF P dom cod g v
 |.pin u,v=>iv<|v=u
 |.mw o,v=>iv<|v=yR (vs o)
 |.mv o lo n,v=>iv<|Ss (yR<|vs o) lo n v
 |.hp o j,v=>iv (∃b n cap,yR (vs o)=.slice (Z ⟨b,0,wW⟩) n cap/\j<n/\v=.pointer (Z ⟨b,0+j*1,wW⟩))
 |.rw o r,v=>iv<|(wg<|vs o)[r]? =Z v
 |.rp o t r j f,v=>iv (Fl.ok t f/\∃b n cap,(wg<|vs o)[r]? =Z (.slice (Z ⟨b,0,wW⟩) n cap)/\j<n/\v=.pointer (Z ⟨b,0+j*t.rep.n+f.off,wW⟩))
 |.yd o,v=>iv<|v=.func (.yield<|lOf<|yR<|vs o) #[] #[]
 |.np,v=>iv<|v=.pointer wW
 |.vf o t n i,v=>iv (∃b f,yR (vs o)=.pointer (Z ⟨b,0,wW⟩)/\xu n t i=Z f/\v=.pointer (Z ⟨b,0+f.off,wW⟩))
 |.dz t x n i,v=>zsI (fV t.rep x v) (∃f,xu n t i=Z f/\v.cells.toList[f.off]? =Z (.slice wW 0 0))
 |.ifc q,v=>iv<|v=.iface q.1 (.agg #[.int .i64 q.2])
 |.bm f o t,v=>iv (v=.func (.func f) #[vs o] #[]/\∃b,vs o=.pointer (Z ⟨b,0,wW⟩))
def qp(P:Z2)(vs:K->jp)(d:Dv)(v:jp)(i:K):FF where
 p S w:=match i with
  |0=>(vP P vs d v).p S w
  |i+1=>∃us u,v=.tuple us/\us[i]? =Z u/\(vP P vs d u).p S w
 keep:=by
  intro S w w' h k
  cases i with
  |zero=>exact(vP P vs d v).keep h k
  |succ i=>have⟨us,u,h1,a,b⟩:=h;exact⟨us,u,h1,a,(vP P vs d u).keep b k⟩
 sub:=by
  intro S c w h k
  cases i with
  |zero=>exact(vP P vs d v).sub h k
  |succ i=>have⟨us,u,h1,a,b⟩:=h;exact⟨us,u,h1,a,(vP P vs d u).sub b k⟩
def vrP{α:Type}(s:Ty)(f:V (Fl α)):Prop:=∃(off:K) (g:α->(Ty.l s).D) (st:(Ty.l s).D->α->α),f=Z ⟨off,.l s,g,st⟩
def Kz(vs:K->jp)(e:K×Od):MF:=match e.2 with
 |.own t E xs=>mO t.rep E (vs e.1) xs
 |.var t E z=>mP t.rep.c E (vs e.1) z
 |.mat t E E1 f ix=>Bh t.rep E E1 (vs e.1) f ix
 |.bo t E a xs=>mBo t.rep E a (vs e.1) xs
 |.ho a=>mHo a<|vs e.1
 |.vr t E s E1 n i z xs=>mVr (vrP s<|xu n t i) t.rep E (XJ<|xu n t i) (ZL s (xu n t i) []) s.rep E1 (vs e.1) z xs
 |.vh t E s E1 n i z=>mVh (vrP s<|xu n t i) t.rep E (XJ<|xu n t i) (ZL s (xu n t i) []) (vs e.1) z
 |.hid t E X Y d b g x=>FP [mPr<|Sl Tryz.prog (lOf<|yR<|vs e.1) t.rep E d b g,d x<|(wg<|vs e.1).headD XS]
 |.hiy Y b y=>b y<|(wg<|vs e.1).headD XS
def MS(vs:K->jp)(ob:N (K×Od)):N MF:=ob.map<|Kz vs
def RS(P:Z2)(vs:K->jp)(H:xr)(rg:N (K×K×Dv)):N FF:=rg.map λe=>qp P vs e.2.2 (H e.1) e.2.1
structure Fr where
 we:jP
 Se:K->Prop
 F:N MF
 G:N FF
structure Bd(cx σ:Sg):Prop where
 o1:∀e∈σ.ob,e.1<σ.nx
 o2:∀e∈cx.ob,e.1<σ.nx
 r1:∀e∈σ.rg,∀o,vC e.2.2=Z o->o<σ.nx
 r2:∀e∈cx.rg,∀o,vC e.2.2=Z o->o<σ.nx
def u7(P:Z2)(fr:Fr)(cx σ:Sg)(H:xr)(w:jP):Prop:=
 Bd cx σ/\∃vs:K->jp,St fr.we fr.Se (MS vs σ.ob++(MS vs cx.ob++fr.F)) (RS P vs H σ.rg++(RS P vs H cx.rg++fr.G)) w
section
variable{P:Z2}{vs mK:wP->jp}{H mD:xr}
def iR{d:Dv}(h:∀o,vC d=Z o->mK o=vs o)(v:jp):vP P mK d v=vP P vs d v:=by cases d<;>simp only[vP]<;>simp only[vC,xav,forall_eq']at h<;>rw[h]
def wV:∀{ob:N (K×Od)},(∀e∈ob,mK e.1=vs e.1)->MS mK ob=MS vs ob
 |[],_=>rfl
 |(o,x)::r,h=>by
  have h1:=h (o,x)<|IR;have a:=wV λe b=>h e<|FS _ b;show Kz mK (o,x)::MS mK r=Kz vs (o,x)::MS vs r;rw[a];cases x<;>simp only[Kz]<;>rw[h1]
def uG:∀{rg:N (K×K×Dv)},(∀e∈rg,∀o,vC e.2.2=Z o->mK o=vs o)->(∀e∈rg,mD e.1=H e.1)->RS P mK mD rg=RS P vs H rg
 |[],_,_=>rfl
 |(t,i,d)::r,h,b=>by
  show qp P mK d (mD t) i::RS P mK mD r=qp P vs d (H t) i::RS P vs H r;rw[uG (λe a=>h e<|FS _ a)<|λe a=>b e<|FS _ a,b (t,i,d)<|IR];unfold qp;simp only[iR<|h (t,i,d)<|IR]
theorem k9{S:K->Prop}{w:jP}:∀{Γ:N FF},zD S Γ w↔∀f∈Γ,f.p S w
 |[]=>⟨λ_ f h=>kW h H1,λ_=>ul⟩
 |f::r=>by
  have a:=k9 (S:=S) (w:=w) (Γ:=r);constructor;intro h x hx;obtain rfl|hx:=xal.1 hx
  exact h.1;exact a.1 h.2 x hx;intro h;exact⟨h f<|IR,a.2 λx hx=>h x<|FS _ hx⟩
theorem yh{a b:K}(h:Q a b=qR):a=b:=xdF h
theorem iW:∀{rg:N (K×K×Dv)}{t i:K}{d:Dv},lU rg t i=Z d->(t,i,d)∈rg
 |(a,b,e)::r,t,i,d,h=>by
  unfold lU at h;cases c:Q a t && Q b i
  rw[c]at h;exact FS _<|iW h;simp_all
def J8{S:K->Prop}{w:jP}{rg:N (K×K×Dv)}(h:zD S (RS P vs H rg) w){t i:K}{d:Dv}(hd:(t,i,d)∈rg):(qp P vs d (H t) i).p S w:=
 k9.1 h _ (xat.2 ⟨(t,i,d),hd,O⟩)
theorem vm:∀{ob:N (K×Od)}{o:K}{x:Od},xH ob o=Z x->∃i,ob[i]? =Z (o,x)/\(∀y,kL ob o y=ob.set i (o,y))/\yI ob o=ob.eraseIdx i
 |(b,e)::r,o,x,h=>by
  unfold xH at h;cases a:Q b o
  rw[a]at h;have⟨i,h1,c,d⟩:=vm h;exact⟨i+1,by simpa using h1,λy=>by unfold kL;rw[a];simp only[WD,xfi,c y],by unfold yI;rw[a];simp only[WD,List.eraseIdx_cons_succ,d]⟩;rw[a]at h;simp only[WN,xav]at h;have:=yh a;subst h;subst this;exact⟨0,O,λy=>by unfold kL;rw[a];rfl,by unfold yI;rw[a];rfl⟩
theorem JX{ob:N (K×Od)}{i:K}{e:K×Od}{R:N MF}(h:ob[i]? =Z e):(MS vs ob++R)[i]? =Z (Kz vs e):=by grind [MS]
theorem E6{ob:N (K×Od)}{i:K}{e a:K×Od}{R:N MF}(h:ob[i]? =Z e):(MS vs ob++R).set i (Kz vs a)=MS vs (ob.set i a)++R:=by grind [MS,List.map_set]
theorem zf6{α:Type _}{β:Type _}(f:α->β):∀(l:N α) (i:K),(l.eraseIdx i).map f=(l.map f).eraseIdx i
 |[],i=>by simp
 |_::_,0=>rfl
 |a::l,i+1=>by simp only[List.eraseIdx_cons_succ,xbT,zf6 f l i]
theorem gJ{ob:N (K×Od)}{i:K}{e:K×Od}{R:N MF}(h:ob[i]? =Z e):(MS vs ob++R).eraseIdx i=MS vs (ob.eraseIdx i)++R:=by grind [MS,zf6]
theorem zfr{cx σ:Sg}{o:K}{x:Od}(h:Qb cx σ o=Z x):(o,x)∈σ.ob\/(o,x)∈cx.ob:=by grind [Qb,vm]
theorem CR{cx σ:Sg}{t i:K}{d:Dv}(h:get cx σ t i=Z d):(t,i,d)∈σ.rg\/(t,i,d)∈cx.rg:=by grind [get,iW]
def Ys{S:K->Prop}{w:jP}{cx σ:Sg}{o:K}{x:Od}{F:N MF}(a:yV S (MS vs σ.ob++(MS vs cx.ob++F)) w)(h:Qb cx σ o=Z x):(Kz vs (o,x)).p S w:=by
 refine Yw.1 a _ ?_;obtain h|h:=zfr h
 exact xab.2 (.inl<|xat.2 ⟨_,h,O⟩);exact xab.2 (.inr<|xab.2 (.inl<|xat.2 ⟨_,h,O⟩))
end
def yv{R:Type}{s t:Ty}{x:s.D}{k:t.D->V R}{r:R}(h:Ty.cast s t x k=Z r):∃e:s=t,k (e▸x)=Z r:=by grind [Ty.cast]
def yo{R:Type}{b:uS}{x:V R}{r:R}(h:jK b x=Z r):b=qR/\x=Z r:=by grind
end
section
open Go.ChangeShapes Go.WideShapes Go.ChangeAt Go.RowKit
def X7(P:Z2):Ty->ut->Prop
 |.i,T=>P.underlying T=Z (.int .i64)
 |.u,T=>P.underlying T=Z (.int .u64)
 |.b,T=>P.underlying T=Z .bool
 |.l t,T=>∃E,P.underlying T=Z (.slice E)/\P.cellsOf E=t.n/\0<t.n/\X7 P t E
 |.p s t,T=>∃f0 f1:Field,P.underlying T=Z (.struct #[f0,f1])/\P.cellsOf T=s.n+t.n/\f0.offset=0/\f1.offset=s.n/\P.cellsOf f0.type=s.n/\P.cellsOf f1.type=t.n/\X7 P s f0.type/\X7 P t f1.type
 |.ch,T=>P.underlying T=Z (.int .u8)
 |.tx,T=>P.underlying T=Z .string
 |.a _ _,_=>UT
 |.po _,_=>UT
 |.w1 _,_=>UT
def zpL(P:Z2)(T:ut):V ((K×ut)×(K×ut)):=match P.underlying T with
 |some (.struct fs)=>match fs.toList with
  |[f0,f1]=>Z ((f0.offset,f0.type),(f1.offset,f1.type))
  |_=>wW
 |_=>wW
def X7.st{P:Z2}{s t:Ty}{T A B:ut}(h:zpL P T=Z ((0,A),(s.n,B)))(hc:P.cellsOf T=s.n+t.n)(b:P.cellsOf A=s.n)(c:P.cellsOf B=t.n)(h1:X7 P s A)(d:X7 P t B):X7 P (.p s t) T:=by
 unfold zpL at h;split at h;rename_i fs e;split at h;rename_i f0 f1 g;simp only[xav,xcR]at h;have⟨⟨f,a⟩,a3,a4⟩:=h;have:fs= #[f0,f1]:=by cases fs;simp_all
 subst this;exact⟨f0,f1,e,hc,f,a3,by rw[a];exact b,by rw[a4];exact c,by rw[a];exact h1,by rw[a4];exact d⟩;cases h
 cases h
def X7.sl{P:Z2}{t:Ty}{T E:ut}(h:P.underlying T=Z (.slice E))(hc:P.cellsOf E=t.n)(hp:0<t.n)(h1:X7 P t E):X7 P (.l t) T:=⟨E,h,hc,hp,h1⟩
def HR{w:jP}{b n:K}{a:aC}{c:N jp}(h:w.cells? b a n=Z c):X c=n/\∀i v,c[i]? =Z v->w.cell? (a.add i)=Z v:=by
 unfold World.cells? at h;split at h;have:∀(l:N K) (c:N jp),l.mapM (λi=>w.cell?<|a.add i)=Z c->X c=X l/\∀(i j:K) (v:jp),c[i]? =Z v->l[i]? =Z j->w.cell? (a.add j)=Z v:=by
  intro l
  induction l with
  |nil=>intro c hc;simp at hc;subst hc;exact⟨O,λi j v hv=>by simp at hv⟩
  |cons x l g=>
   intro c hc;rw[List.mapM_cons]at hc
   cases d:w.cell? (a.add x)with
   |none=>rw[d]at hc;simp at hc
   |some y=>
    rw[d]at hc
    cases hl:l.mapM (λi=>w.cell?<|a.add i)with
    |none=>rw[hl]at hc;simp at hc
    |some r=>
     rw[hl]at hc;have hc:y::r=c:=by simpa using hc
     subst hc;have⟨h1,e⟩:=g r hl;refine⟨by simp[h1],λi j v hv f=> ?_⟩
     cases i with
     |zero=>simp at hv f;subst hv;subst f;exact d
     |succ i=>exact e i j v (by simpa using hv)<|by simpa using f
 have⟨h1,e⟩:=this _ _ h;refine⟨by simpa using h1,λi v hv=>e i i v hv ?_⟩;grind;cases h
def zdo{w:jP}{a:aC}{v:jp}(h:w.cell? a=Z v):a=⟨a.block,a.off,wW⟩/\a.block<w.heap.size:=by
 unfold World.cell? at h;split at h;rename_i c _ _ d;split at h;cases h
 rename_i e;refine⟨?_,(xbk.1 d).1⟩;have⟨b,o,s⟩:=a
 cases s with
 |none=>rfl
 |some x=>simp at e
 cases h
def zme(a:aC):a.add 0=a:=by grind [Addr.add]
section
variable{i8:Type}{enc:ut×jp->i8}{P:Z2}{W:jP}{sp:wP->uS}{held:uS}
theorem OT{t:Ty}{b o:K}(a:b<W.heap.size):∀(len:K),(∀i,i<len->∃(c:N jp) (z:t.D),W.cells? 0 (⟨b,o+i*t.n,wW⟩:aC) t.n=Z c/\t.rep.p (λ_=>Ws) z c W)->
 ∃(xs:N t.D) (cs:N jp),X xs=len/\At W b o cs/\yW t.rep (λ_=>Ws) xs cs W
 |0,_=>⟨[],[],O,⟨a,λj v hv=>by simp at hv⟩,O⟩
 |len+1,h=>by
  have⟨xs,cs,h1,e,d⟩:=OT a len λi hi=>h i mS;have⟨c,z,f,g⟩:=h len mS;have⟨l,k⟩:=HR f;have hl:=d.len;rw[Ty.n_rep]at hl;refine⟨xs++[z],cs++c,by simp[h1],⟨a,λj v hv=> ?_⟩,d.append ⟨c,[],m7,g,O⟩⟩;rcases xbW j (X cs) with hj|hj
  rw[xbi hj]at hv;exact e.2 j v hv;rw[xbz hj]at hv;have:=k _ v hv;rw[jy]at this;grind
def oD:∀(t:Ty) {T:ut}{n:K}{cs:N jp}{x:rX i8×N aM},X7 P t T->DataW.trod enc P W 0 sp held n T cs=Z x->∃z:t.D,t.rep.p (λ_=>Ws) z cs W
 |.i,T,n,cs,x,ht,h=>by
  obtain⟨v,rfl,_,f⟩:=DataW.trod_int ht h;have: -9223372036854775808<=v/\v<=9223372036854775807:=by simpa[Lit.wf,IntKind.min,IntKind.max,IntKind.signed,IntKind.bits]using f
  exact⟨v,O,this.1,this.2⟩
 |.u,T,n,cs,x,ht,h=>by
  obtain⟨v,rfl,_,f⟩:=DataW.trod_int ht h;have:0<=v/\v<=18446744073709551615:=by simpa[Lit.wf,IntKind.min,IntKind.max,IntKind.signed,IntKind.bits]using f
  obtain⟨k,rfl⟩:=xaE this.1;exact⟨k,O,mS⟩
 |.ch,T,n,cs,x,ht,h=>by
  obtain⟨v,rfl,_,f⟩:=DataW.trod_int ht h;have:0<=v/\v<=255:=by simpa[Lit.wf,IntKind.min,IntKind.max,IntKind.signed,IntKind.bits]using f
  obtain⟨k,rfl⟩:=xaE this.1;exact⟨k,O,mS⟩
 |.tx,T,n,cs,x,ht,h=>by
  obtain⟨s,rfl,_,B⟩:=DataW.trod_string ht h;exact⟨xW s,s,O,O,B⟩
 |.b,T,n,cs,x,ht,h=>by
  obtain⟨v,rfl,_⟩:=DataW.trod_bool ht h;exact⟨v,O⟩
 |.l t,T,n,cs,x,ht,h=>by
  have⟨E,g,hc,Q,C⟩:=ht;rcases DataW.trod_slice g h with⟨rfl,_⟩|⟨a,len,cap,j,rest,m,_,rfl,_,_,R,hd,S,q,_,_⟩
  exact⟨[],_,O,SlP.nil⟩;rw[hc]at q;have d:∀i,i<len->∃(c:N jp) (z:t.D),W.cells? 0 (a.add<|i*t.n) t.n=Z c/\t.rep.p (λ_=>Ws) z c W:=by intro i hi;have h1:=q i hi;rw[xaa mS]at h1;have⟨c,r,w⟩:=Option.bind_eq_some_iff.1 h1;have⟨z,F⟩:=oD t C w;exact⟨c,z,r,F⟩
  obtain h0|h0:=xcw len
  subst h0;exact⟨[],_,O,Z a,cap,O,xah _,hd,.inl O⟩
  have⟨c,z,h1,r⟩:=d 0 h0;have⟨w,G⟩:=HR h1;have y:=G 0 (c[0]'mS) (xaa mS);rw[xct,zme,zme]at y;have⟨A,H⟩:=zdo y;rw[A]at d;have⟨xs,cs,g1,J,L⟩:=OT (t:=t) (b:=a.block) (o:=a.off) H len λi hi=>by
   have:=d i hi;rw[jy]at this;exact this
  refine⟨xs,_,O,Z a,cap,by rw[g1],mS,hd,.inr ⟨a.block,a.off,cs,by rw[<-A],ul,J,L⟩⟩
 |.p s t,T,n,cs,x,ht,h=>by
  have⟨f0,f1,g,hc,o0,o1,c0,c1,h0,h1⟩:=ht;have⟨U,Y,m,_,hl,g0,g1⟩:=trod_struct2 g h;rw[o0,c0,List.drop_zero]at g0;rw[o1,c1]at g1;have⟨z0,k0⟩:=oD s h0 g0;have⟨M,k1⟩:=oD t h1 g1;refine⟨(z0,M),cs.take s.n,(cs.drop s.n).take t.n,?_,k0,k1⟩;rw[hc]at hl;have e:(cs.drop s.n).take t.n=cs.drop s.n:=xaY (by simp;lia);rw[e,xbK]
 |.a _ _,_,_,_,_,ht,_=>ht.elim
 |.po _,_,_,_,_,ht,_=>ht.elim
 |.w1 _,_,_,_,_,ht,_=>ht.elim
def zfo{t:Ty}{T:ut}{v:jp}{d:rX i8}{ps:N aM}(ht:X7 P t T)(hv:v=t.rep.val v.cells.toList)(h:DataW.Trod enc P W 0 sp held T v d ps):∃z:t.D,(fV t.rep z v).p (λ_=>Ws) W:=by have⟨n,h⟩:=h;have⟨z,a⟩:=oD t ht h;exact⟨z,_,hv,a⟩
end
def ziG{P:Z2}{s:Wk}(h:y8 P s)(c:s.bk=0)(hc:s.cod=[.d .b])(x:aH s.dom)(g:s.M x=Z (hc▸qR:aI s.cod)){vs:N jp}(hl:X vs=X s.dom)(i:kG s.dom x vs=[]){W:jP}(a:zD (λ_=>Ws) (jQ P s.dom x vs) W):
 bi P s.f vs.toArray W λe j=>e=.returned (.bool qR)/\b7 W j:=by
 have⟨f,dom,cod,M,bk⟩:=s;simp only at hc c;subst hc;subst c;have h1:=h.2 x qR g vs hl W (λ_=>Ws) [] [] W;simp only[i,xbO,xbo]at h1;refine(h1 ⟨yL.refl _ _,λ_ _=>ul,ul,λ_=>Ws,λ_ _=>ul,λ_ _=>ul,λm k=>kW k H1,ul,a⟩).mono ?_;rintro e w' ⟨us,l,hd,n⟩;have⟨o,_,_,S,_,_,_,_,q⟩:=n;refine⟨?_,o⟩
 match us,hd with
 |[u],_=>
  have:u=.bool qR:=rI (show(fV DZ qR u).p S w' from q.1);rw[l,this];rfl
end
section
open Go.ChangeShapes Go.WideShapes Go.ChangeAt Go.RowKit
section
variable{i8:Type}{enc:ut×jp->i8}{P:Z2}{W:jP}{sp:wP->uS}{held:uS}
def zns{r:Reach}{b0:K}:∀(t:Ty) {T:ut}{v:jp},X7 P t T->xeE P W r b0 T v->v=t.rep.val v.cells.toList
 |.i,T,v,ht,h=>by obtain⟨n,rfl⟩:=okWide_int ht h;rfl
 |.u,T,v,ht,h=>by obtain⟨n,rfl⟩:=okWide_int ht h;rfl
 |.ch,T,v,ht,h=>by obtain⟨n,rfl⟩:=okWide_int ht h;rfl
 |.tx,T,v,ht,h=>by
  have ht:P.underlying T=Z .string:=ht;simp only[xeE,ht,Cell.okWide]at h;unfold Cell.ok at h;rw[ht]at h;cases v<;>simp at h;rfl
 |.b,T,v,ht,h=>by
  have ht:P.underlying T=Z .bool:=ht;simp only[xeE,ht,Cell.okWide]at h;unfold Cell.ok at h;rw[ht]at h;cases v<;>simp at h;rfl
 |.l t,T,v,ht,h=>by
  have⟨E,ht,_⟩:=ht;simp only[xeE,ht,Cell.okWide]at h;unfold Cell.ok at h;rw[ht]at h;cases v<;>simp at h;rfl
 |.p s t,T,v,ht,h=>by
  have⟨f0,f1,ht,_⟩:=ht;simp only[xeE,ht]at h;obtain⟨cs,rfl,_⟩:=h;show Value.agg cs=Value.agg cs.toList.toArray;simp
 |.a _ _,T,v,ht,_=>ht.elim
 |.po _,T,v,ht,_=>ht.elim
 |.w1 _,T,v,ht,_=>ht.elim
def zhT{r:Reach}{b0:K}{t:Ty}{T:ut}{v:jp}{d:rX i8}{ps:N aM}(ht:X7 P t T)(hv:xeE P W r b0 T v)(h:DataW.Trod enc P W 0 sp held T v d ps):∃z:t.D,(fV t.rep z v).p (λ_=>Ws) W:=
 zfo ht (zns t ht hv) h
def Ty.ok:(t:Ty)->t.D->Prop
 |.i,(x:J)=> -9223372036854775808<=x/\x<=9223372036854775807
 |.u,(x:K)=>x<18446744073709551616
 |.b,_=>Ws
 |.ch,(x:K)=>x<256
 |.tx,xs=>xaK xs<=9223372036854775807/\∀x,List.Mem x xs->x<256
 |.l t,xs=>xaK xs<=9223372036854775807/\∀x,List.Mem x xs->t.ok x
 |.p s t,x=>s.ok x.1/\t.ok x.2
 |.a _ t,xs=>∀x,List.Mem x xs->t.ok x
 |.po _,_=>Ws
 |.w1 t,x=>t.ok x
def CW{α:Type}{e:zZ α}{S:K->Prop}{w:jP}{q:α->Prop}(b:∀x cs,e.p S x cs w->q x):∀{xs:N α}{cs:N jp},yW e S xs cs w->∀x,List.Mem x xs->q x
 |[],_,_,x,a=>nomatch a
 |y::ys,_,⟨c,r,_,hc,d⟩,x,a=>by
  cases a with
  |head=>exact b _ _ hc
  |tail _ a=>exact CW b d x a
def tN:∀(t:Ty) {S:K->Prop}{z:t.D}{cs:N jp}{w:jP},t.rep.p S z cs w->t.ok z
 |.i,_,_,_,_,h=>h.2
 |.u,_,_,_,_,h=>h.2
 |.b,_,_,_,_,_=>trivial
 |.ch,_,_,_,_,h=>h.2
 |.tx,_,xs,_,_,h=>by
  have⟨s,_,h1,g⟩:=h;have f:=um s;have h1:xW s=xs:=h1;refine⟨by show xaK (α:=K) xs<=_;rw[<-h1,f];exact g,λx e=> ?_⟩;have e:x∈xW s:=by rw[h1];exact e
  obtain⟨b,_,rfl⟩:=xat.1 e;exact UInt8.toNat_lt _
 |.l t,S,xs,_,w,h=>by
  have⟨v,_,m,cap,_,h1,g,f⟩:=h;refine⟨xao h1 g,?_⟩;obtain f|⟨b,o,cs,_,_,_,j⟩:=f
  have f:xs=([]:N t.D):=f;subst f;exact λx e=>nomatch e;exact CW (λx cs e=>tN t e) j
 |.p s t,S,z,_,w,h=>by
  have⟨c,d,_,h1,g⟩:=h;exact⟨tN s h1,tN t g⟩
 |.a k t,S,xs,_,w,h=>by
  have⟨_,h⟩:=h;exact CW (λx cs e=>tN t e) h
 |.po _,_,_,_,_,_=>trivial
 |.w1 t,S,z,cs,w,h=>tN t (S:=S) (cs:=cs) (w:=w) h
def zii:(dom:N AM)->aH dom->Prop
 |[],_=>Ws
 |.d t::r,x=>t.ok x.1/\zii r x.2
 |_::r,x=>zii r x.2
def OD(P:Z2):N AM->N ut->Prop
 |[],[]=>Ws
 |.d t::r,T::Ts=>X7 P t T/\OD P r Ts
 |_,_=>UT
def zc3:∀{dom:N AM}{Ts:N ut},OD P dom Ts->X dom=X Ts
 |[],[],_=>rfl
 |.d t::r,T::Ts,h=>by simp[zc3 h.2]
 |.d _::_,[],h=>h.elim
 |[],_::_,h=>h.elim
 |.q _::_,_,h=>h.elim
 |.own _ _::_,_,h=>h.elim
 |.var _ _::_,_,h=>h.elim
 |.fn _ _::_,_,h=>h.elim
def zi9:∀{dom:N AM}{Ts:N ut},OD P dom Ts->∀(x:aH dom) (vs:N jp),kG dom x vs=[]
 |[],_,_,_,_=>rfl
 |.d t::r,T::Ts,h,x,vs=>by show[]++kG r x.2 vs.tail=[];rw[zi9 h.2];rfl
 |.d _::_,[],h,_,_=>h.elim
 |.q _::_,_,h,_,_=>h.elim
 |.own _ _::_,_,h,_,_=>h.elim
 |.var _ _::_,_,h,_,_=>h.elim
 |.fn _ _::_,_,h,_,_=>h.elim
def HA{r:Reach}{b0:K}:∀{dom:N AM}{Ts:N ut}{vs:N jp}{ds:N (rX i8)}{ps:N aM},OD P dom Ts->(∀(j:K) t v,Ts[j]? =Z t->vs[j]? =Z v->xeE P W r b0 t v)->xeY enc P W 0 sp held Ts vs ds ps->
 X vs=X Ts/\∃x:aH dom,zii dom x/\zD (λ_=>Ws) (jQ P dom x vs) W
 |[],[],[],[],_,_,_,_=>⟨O,(),ul,ul⟩
 |.d t::dom,T::Ts,v::vs,d::ds,ps,h,hv,a=>by
  have⟨p,q,h1,b,_⟩:=a;have⟨hl,x,hd,c⟩:=HA h.2 (λj e f ht g=>hv (j+1) e f (by simpa using ht)<|by simpa using g) b;have⟨z,i⟩:=zhT h.1 (hv 0 T v O O) h1;have⟨cs,k,hc⟩:=i;exact⟨by simp[hl],(z,x),⟨tN t hc,hd⟩,⟨cs,k,hc⟩,c⟩
 |[],[],_::_,_,_,_,_,h=>h.elim
 |[],[],[],_::_,_,_,_,h=>h.elim
 |.d _::_,_::_,[],_,_,_,_,h=>h.elim
 |.d _::_,_::_,_::_,[],_,_,_,h=>h.elim
 |.d _::_,[],_,_,_,h,_,_=>h.elim
 |[],_::_,_,_,_,h,_,_=>h.elim
 |.q _::_,_,_,_,_,h,_,_=>h.elim
 |.own _ _::_,_,_,_,_,h,_,_=>h.elim
 |.var _ _::_,_,_,_,_,h,_,_=>h.elim
 |.fn _ _::_,_,_,_,_,h,_,_=>h.elim
def zh6{a:jP}(c:b7 W a){p:aM}(hp:p.block<W.heap.size):W.sameAt a p:=by
 cases p with
 |cell b off=>exact World.cell?_of_block<|c.block b hp ul
 |map b=>exact c.block b hp ul
def mN{c:jP}{b:K->uS}(hl:laidOutB P=qR):∀{Ts:N ut}{vs:N jp}{ds:N (rX i8)}{ps:N aM},(∀t∈Ts,P.readableRec t=qR/\t<P.types.size)->xeY enc P W 0 (λ_=>qR) qR Ts vs ds ps->
 (∀p∈ps,W.sameAt c p)->(∀p∈ps,b p.block=qR)->xeY enc P c 0 b qR Ts vs ds ps
 |[],[],[],_,_,h,_,_=>h
 |T::Ts,v::vs,d::ds,ps,e,h,h1,f=>by
  obtain⟨p,q,g1,i,rfl⟩:=h;have g:=e T<|IR
  exact⟨p,q,Go.WideElems.Trod_stays hl g.1 g.2 g1 (λx a=>h1 x<|xab.2 (.inl a))<|λx a=>f x<|xab.2 (.inl a),
   mN hl (λt ht=>e t<|FS _ ht) i (λx a=>h1 x<|xab.2 (.inr a)) (λx a=>f x<|xab.2 (.inr a)),O⟩
 |[],[],_::_,_,_,h,_,_=>h.elim
 |[],_::_,_,_,_,h,_,_=>h.elim
 |_::_,[],_,_,_,h,_,_=>h.elim
 |_::_,_::_,[],_,_,h,_,_=>h.elim
end
def zjW{l:Type}{enc:ut×jp->l}{P:Z2}{f:V0}{s:ChangeSpec}{c h z:uS}{W:jP}{i:K}{args:Z5 jp}{ds k:N (rX l)}{a:N aM}{sg:Wk}
 (m:DataW.Whole enc P f.params.toList s.vars c W args.toList ds k a) (r:s.vars=[]) (A:∀(j:K) t v,f.params[j]? =Z t->args[j]? =Z v->xeE P W .any i t v)
 (hl:laidOutB P=qR) (C:∀t∈f.params.toList,P.readableRec t=qR/\t<P.types.size) (n:OD P sg.dom f.params.toList) (hc:sg.cod=[.d .b]) (D:y8 P sg) (E:∀x,zii sg.dom x->sg.M x=Z (hc▸qR:aI sg.cod)) {B:ut} (F:f.resultTypes= #[B]) (hn:P.underlying B=Z .bool)
 (hi:s.fn l (ds++k)={results:=[.lit (.bool qR)],args:=ds}) (G:sg.bk=0:=by rfl):
 bi P sg.f args W λe u=>∃v,e=.returned v/\s.post enc P f c h z I W args v u:=by
 have⟨p,q,w,o,H,U,V⟩:=id m;rw[r]at o
 cases k with
 |cons g k=>exact o.elim
 |nil=>
  have J:q=[]:=o;subst J;have⟨L,x,Q,R⟩:=HA (vs:=args.toList) n (λj t v ht hv=>A j t v (by simpa using ht)<|by simpa using hv) w;refine(ziG D G hc x (E x Q) (vs:=args.toList) (by rw[L,zc3 n]) (zi9 n x _) R).mono ?_;rintro e u ⟨rfl,y⟩;refine⟨_,O,zfG (pa:=a) (pv:=[]) m (λb sp hd=> ?_) (λsp S=> ?_) (λsp _=> ?_) m7 y⟩;rw[F,hi];exact⟨[],[],shut_bool hn _,O,O⟩;rw[hi];have T:xeY enc P W 0 (λ_=>qR) qR f.params.toList args.toList ds a:=by rw[H,xbo];exact w
  exact mN hl C T (λp hp=>zh6 y<|m.lt p hp) S;rw[r,hi];rfl
end
section
def zrL:uL->V Wn
 |.tmp t=>Z t
 |_=>wW
def yS(a:Op):N Wn:=a.operands.toList.filterMap zrL
def Lk(P:Z2)(vs:K->jp)(H:xr)(S:K->Prop)(w:jP)(cx σ:Sg)(t:Wn):Prop:=
 ∀i d,get cx σ t i=Z d->(qp P vs d (H t) i).p S w
def Xt(P:Z2)(vs:K->jp)(H:xr)(S:K->Prop)(w:jP)(cx σ:Sg)(x:uL):Prop:=∀t,zrL x=Z t->Lk P vs H S w cx σ t
def ES(P:Z2)(o:Wd)(cx σ:Sg)(F:N MF)(l:N (K×Dv)):Prop:=
 ∀(H:xr) (w:jP) (S:K->Prop) (vs:K->jp),(∀k,w.heap.size<=k->S k)->yV S (MS vs σ.ob++(MS vs cx.ob++F)) w->(∀t∈yS o.op,Lk P vs H S w cx σ t)->
  uF P o H w (λv w'=>b7 w w'/\∀e∈l,(qp P vs e.2 v e.1).p S w')
section
variable{P:Z2}{cf:Cf}{cx σ:Sg}{F:wF MF}{vs:wP->jp}{H:xr}{S:wP->Prop}{w:jP}{R:Type}{r:R}
 {d:wS Wn}{ty t yt:ut}{wl:String}{wn:Z5 Edge}{g:wS (wP×uS)}{x y:uL}
def yO{a:Op}(h:∀t∈yS a,Lk P vs H S w cx σ t)(b:x∈a.operands.toList):Xt P vs H S w cx σ x:=
 λt ht=>h t<|xem.2 ⟨x,b,ht⟩
def zj{v:Dv}(h:xG cx σ x=Z v)(hl:Xt P vs H S w cx σ x):(vP P vs v<|ev H x).p S w:=by
 cases x with
 |tmp t=>exact hl t O 0 v h
 |const c=>
  simp only[xG]at h;unfold cv at h;split at h;split at h
  next a=>cases h;exact ve a
  cases h
  split at h;rename_i x a;cases h;have:(x.toNat:J)=x:=xdg a.1;have b:x.toNat<18446744073709551616:=W
  have:=kz (S:=S) (w:=w) b;rwa[‹(x.toNat:J)=x›]at this;cases h
  cases h;exact O
  split at h;rename_i x a;cases h;have:(x.toNat:J)=x:=xdg a.1;have b:x.toNat<256:=W
  have:=La (S:=S) (w:=w) b;rwa[‹(x.toNat:J)=x›]at this;cases h
  split at h
  next a=>cases h;exact zcL O a
  cases h
  cases h;exact O
  cases h;exact O
  cases h;exact O
  cases h
 |global g=>cases h
 |func f=>cases h;exact⟨[],O,O,ul⟩
def H4{v:Dv}{u:jp}{p:PD}(h:zkv v=Z p)(hv:(vP P vs v u).p S w):(fV p.t.rep p.x u).p S w:=by
 cases v<;>simp only[zkv,xav,WT]at h
 subst h;exact hv;subst h;rw[show u=_ from hv];exact Cd
def rn{p:PD}(h:pd cx σ x=Z p)(hl:Xt P vs H S w cx σ x):(fV p.t.rep p.x<|ev H x).p S w:=by
 unfold pd at h
 cases hv:xG cx σ x with
 |none=>rw[hv]at h;cases h
 |some v=>rw[hv]at h;exact H4 h<|zj hv hl
def vg{a:J}(h:pd cx σ x=Z ⟨.i,a⟩)(hl:Xt P vs H S w cx σ x):ev H x=.int .i64 a/\Qp a:=znS<|rn h hl
def wJ{a:K}(h:pd cx σ x=Z ⟨.u,a⟩)(hl:Xt P vs H S w cx σ x):ev H x=.int .u64 (a:J)/\mo a:=zpg<|rn h hl
def WB{a:K}(h:pd cx σ x=Z ⟨.ch,a⟩)(hl:Xt P vs H S w cx σ x):ev H x=.int .u8 (a:J)/\a<256:=zqb<|rn h hl
def zdT{a:N K}(h:pd cx σ x=Z ⟨.tx,a⟩)(hl:Xt P vs H S w cx σ x):∃s:WW,ev H x=.string s/\xW s=a/\s.size<=9223372036854775807:=zby<|rn h hl
def zlK{a:uS}(h:pd cx σ x=Z ⟨.b,a⟩)(hl:Xt P vs H S w cx σ x):ev H x=.bool a:=rI<|rn h hl
def zeM{v:V Dv}{t:Ty}{k:t.D->V R}(h:CQ v t k=Z r):∃y:t.D,k y=Z r/\∀(P:Z2) vs S w (d:Dv) u,v=Z d->(vP P vs d u).p S w->(fV t.rep y u).p S w:=by
 unfold CQ at h;split at h
 ·next=>
  cases t<;>simp only[WT]at h;exact⟨_,h,λP vs S w d u hd a=>by cases hd;rw[show u=_ from a];exact zf9⟩
 ·next=>
  cases t<;>simp only[WT]at h;exact⟨_,h,λP vs S w d u hd a=>by cases hd;rw[show u=_ from a];exact zp2⟩
 rename_i s y;cases t<;>simp only[WT]at h;have⟨e,h⟩:=yv h;subst e;exact⟨_,h,λP vs S w d u hd a=>by cases hd;exact zp1 a⟩
 rename_i b hv _ _;split at h;rename_i p hp;have⟨e,h⟩:=yv h;subst e;exact⟨_,h,λP vs S w d u hd a=>by cases hd;exact H4 hp a⟩;cases h
 cases h
def Qg{t:Ty}{k:t.D->V R}(h:CQ (xG cx σ x) t k=Z r):∃y:t.D,k y=Z r/\∀(P:Z2) vs H S w,Xt P vs H S w cx σ x->(fV t.rep y<|ev H x).p S w:=by
 have⟨y,h1,a⟩:=zeM h;refine⟨y,h1,λP vs H S w hl=> ?_⟩
 cases hv:xG cx σ x with
 |none=>rw[hv]at h;cases h
 |some v=>exact a P vs S w v _ hv<|zj hv hl
def zK{o:Wd}{l:N (K×Dv)}(h:∀H w S vs,(∀t∈yS o.op,Lk P vs H S w cx σ t)->∃v,(uT (ev H) o).run P w=.ok (.value v) w/\∀e∈l,(qp P vs e.2 v e.1).p S w):ES P o cx σ F l:=by intro H w S vs b c hl;have⟨v,h1,a⟩:=h H w S vs hl;exact uF.of_value h1 ⟨yL.refl _ _,a⟩
def zA{v:jp}{dv:Dv}(h:(vP P vs dv v).p S w):∀e∈[(0,dv)],(qp P vs e.2 v e.1).p S w:=by intro e a;rw[xaf]at a;subst a;exact h
def Zi{o:Wd}{l:N (K×Dv)}(h:∀H w S vs,yV S (MS vs σ.ob++(MS vs cx.ob++F)) w->(∀t∈yS o.op,Lk P vs H S w cx σ t)->∃(U:Type) (a:U->jp) (b:U->N FF) (ok:U->Prop) (Γ:N FF) (ms:N MF),
 Oz P o H ms Γ a b ok/\yV S ms w/\zD S Γ w/\∀u w',ok u->zD S (b u) w'->∀e∈l,(qp P vs e.2 (a u) e.1).p S w'):ES P o cx σ F l:=by
 intro H w S vs c f hl;have⟨U,a,b,ok,Γ,ms,h1,i,j,k⟩:=h H w S vs f hl;refine(h1 w S c i j).mono ?_;simp_all
def RH:∀(f i:K) (t:K) (e:K×Dv),e∈zlS cx σ t f i->get cx σ t e.1=Z e.2
 |0,_,_,_,h=>kW h H1
 |f+1,i,t,e,h=>by
  unfold zlS at h;split at h;rename_i d hd;obtain rfl|h:=xal.1 h
  exact hd;exact RH f (i+1) t e h;simp_all
def zf1{a:Op}(b:a=.move x\/a=.assign x){k:N (K×Dv)->V R}(h:zcZ cx σ x k=Z r):∃l,k l=Z r/\ES P ⟨d,a,ty,wl,wn,g⟩ cx σ F l:=by
 have c:∀H w,(uT (ev H) ⟨d,a,ty,wl,wn,g⟩).run P w=.ok (.value<|ev H x) w:=λH w=>by obtain rfl|rfl:=b<;>exact gK O w
 have f:x∈a.operands.toList:=by obtain rfl|rfl:=b<;>simp[xaC]
 unfold zcZ at h;split at h
 next v hv=>exact⟨_,h,zK λH w S vs hl=>⟨_,c H w,zA<|zj hv<|yO hl f⟩⟩
 unfold zqX at h;split at h;rename_i t j;split at h;cases h
 rename_i l0 l hc;exact⟨_,h,zK λH w S vs hl=>⟨_,c H w,λe i=>yO hl f t O _ _<|RH _ _ _ _ i⟩⟩;cases h
def zrI{i:K}{k:N (K×Dv)->V R}(h:zpj cx σ x i k=Z r):∃l,k l=Z r/\ES P ⟨d,.extract x i,ty,wl,wn,g⟩ cx σ F l:=by
 unfold zpj at h;split at h;rename_i t;split at h;rename_i v hv;refine⟨_,h,?_⟩;intro H w S vs c e hl;have⟨us,u,h1,a,b⟩:=yO hl (x:=.tmp t) (by simp[xaC]) t O (i+1) v hv;exact uF.of_value (gK (by simp only[pv,ev,h1];exact a) w) ⟨yL.refl _ _,zA b⟩;cases h
 cases h
theorem mv1{k:N (K×Dv)->V R}(h:zjL cx σ x k=Z r):∃v,xG cx σ x=Z v/\k [(0,v)]=Z r:=by grind [zjL]
def zo8{c:uL}{k:N (K×Dv)->V R}(h:zgV cx σ c x y k=Z r):∃l,k l=Z r/\ES P ⟨d,.pick c x y,ty,wl,wn,g⟩ cx σ F l:=by unfold zgV at h;split at h;rename_i hc;have⟨v,hv,h⟩:=mv1 h;exact⟨_,h,zK λH w S vs hl=>⟨_,zj0 (zj hc<|yO hl<|by simp[xaC]) O w,zA<|zj hv<|yO hl<|by simp[xaC]⟩⟩;rename_i hc;have⟨v,hv,h⟩:=mv1 h;exact⟨_,h,zK λH w S vs hl=>⟨_,zkM (zj hc<|yO hl<|by simp[xaC]) O w,zA<|zj hv<|yO hl<|by simp[xaC]⟩⟩;cases h
def zq8{k:N (K×Dv)->V R}(h:zo1 cx σ x k=Z r):∃l,k l=Z r/\ES P ⟨d,.unOp .not t x,ty,wl,wn,g⟩ cx σ F l:=by
 unfold zo1 at h;split at h
 next b a=>exact⟨_,h,zK λH w S vs hl=>⟨_,zmo (zj a<|yO hl<|by simp[xaC]) w,zA<|by exact O⟩⟩
 next b a=>exact⟨_,h,zK λH w S vs hl=>⟨_,zmo (rI<|zj a<|yO hl<|by simp[xaC]) w,zA<|by exact Cd⟩⟩
 cases h
def zq4{k:N (K×Dv)->V R}(h:znx cx σ x k=Z r):∃l,k l=Z r/\ES P ⟨d,.unOp .neg t x,ty,wl,wn,g⟩ cx σ F l:=by
 unfold znx at h;split at h;rename_i a c;have⟨z,b,e,h⟩:=nQ h;exact⟨_,h,zK λH w S vs hl=>⟨_,zlZ (vg c<|yO hl<|by simp[xaC]).1 (w_x b e) w,zA<|ve e⟩⟩;rename_i a c
 have⟨z,b,h⟩:=wX h;exact⟨_,h,zK λH w S vs hl=>by
  have⟨h1,f⟩:=wJ c (yO hl<|by simp[xaC]);exact⟨_,zlZ h1 (tV b<|zo7 f) w,zA<|kz<|VH b⟩⟩
 cases h
theorem R2{p:Prop}[U8 p]{k:N (K×Dv)->V R}(h:(if p then k [(0,.kb qR)]else k [(0,.kb I)])=Z r):k [(0,.kb<|decide p)]=Z r:=by grind
theorem kbN{p:Prop}[U8 p]{k:N (K×Dv)->V R}(h:(if p then k [(0,.kb I)]else k [(0,.kb qR)])=Z r):k [(0,.kb (!decide p))]=Z r:=by grind
def zsr{n:Us}{a c:J}{k:N (K×Dv)->V R}(h:arI n a c (λv=>k [(0,v)])=Z r)(e:pd cx σ x=Z ⟨.i,a⟩)(hc:pd cx σ y=Z ⟨.i,c⟩):
 ∃l,k l=Z r/\ES P ⟨d,.binOp n t x y yt,ty,wl,wn,g⟩ cx σ F l:=by
 have f:∀{vs H S w},(∀o∈yS (.binOp n t x y yt),Lk P vs H S w cx σ o)->Xt P vs H S w cx σ x:=λhl=>yO hl (by simp[xaC]);have j:∀{vs H S w},(∀o∈yS (.binOp n t x y yt),Lk P vs H S w cx σ o)->Xt P vs H S w cx σ y:=λhl=>yO hl (by simp[xaC]);cases n<;>simp only[arI,WT]at h
 case add=>have⟨z,b,m,h⟩:=nQ h;exact⟨_,h,zK λH w S vs hl=>⟨_,zeP (vg e<|f hl).1 (vg hc<|j hl).1 (w_x b m) w,zA<|ve m⟩⟩
 case sub=>have⟨z,b,m,h⟩:=nQ h;exact⟨_,h,zK λH w S vs hl=>⟨_,zhP (vg e<|f hl).1 (vg hc<|j hl).1 (w_x b m) w,zA<|ve m⟩⟩
 case mul=>have⟨z,b,m,h⟩:=nQ h;exact⟨_,h,zK λH w S vs hl=>⟨_,zmi (vg e<|f hl).1 (vg hc<|j hl).1 (w_x b m) w,zA<|ve m⟩⟩
 case quo=>have⟨h0,h⟩:=Ya h;have⟨z,b,m,h⟩:=nQ h;exact⟨_,h,zK λH w S vs hl=>⟨_,zl3 (vg e<|f hl).1 (vg hc<|j hl).1 h0 (w_x b m) w,zA<|ve m⟩⟩
 case rem=>have⟨h0,h⟩:=Ya h;have⟨z,b,h⟩:=wX h;exact⟨_,h,zK λH w S vs hl=>⟨_,zmL (vg e<|f hl).1 (vg hc<|j hl).1 h0 b.symm w,zA<|ve<|zng (vg e<|f hl).2 b⟩⟩
 case and=>have⟨z,b,h⟩:=wX h;exact⟨_,h,zK λH w S vs hl=>⟨_,zmq (vg e<|f hl).1 (vg hc<|j hl).1 (zjR.trans b.symm) w,zA<|ve<|zgz b<|zpp _ _⟩⟩
 case or=>have⟨z,b,h⟩:=wX h;exact⟨_,h,zK λH w S vs hl=>⟨_,zqI (vg e<|f hl).1 (vg hc<|j hl).1 (zpi.trans b.symm) w,zA<|ve<|zgz b<|zqF _ _⟩⟩
 case shr=>have⟨h0,h⟩:=Ya h;have⟨z,b,h⟩:=wX h;exact⟨_,h,zK λH w S vs hl=>⟨_,zcO (vg e<|f hl).1 (vg hc<|j hl).1 h0 b.symm w,zA<|ve<|ziy (vg e<|f hl).2 b⟩⟩
 case shl=>have⟨h0,h⟩:=Ya h;have⟨z,b,m,h⟩:=nQ h;exact⟨_,h,zK λH w S vs hl=>⟨_,zcl (vg e<|f hl).1 (vg hc<|j hl).1 h0 (w_x b m) w,zA<|ve m⟩⟩
 case lss=>exact⟨[(0,.kb<|decide<|a<c)],R2 h,zK λH w S vs hl=>⟨_,zfT (vg e<|f hl).1 (vg hc<|j hl).1 w,zA<|by exact O⟩⟩
 case leq=>exact⟨[(0,.kb<|decide<|a<=c)],R2 h,zK λH w S vs hl=>⟨_,zfc (vg e<|f hl).1 (vg hc<|j hl).1 w,zA<|by exact O⟩⟩
 case gtr=>exact⟨[(0,.kb<|decide<|c<a)],R2 h,zK λH w S vs hl=>⟨_,zgp (vg e<|f hl).1 (vg hc<|j hl).1 w,zA<|by exact O⟩⟩
 case geq=>exact⟨[(0,.kb<|decide<|c<=a)],R2 h,zK λH w S vs hl=>⟨_,zfz (vg e<|f hl).1 (vg hc<|j hl).1 w,zA<|by exact O⟩⟩
 case eql=>exact⟨[(0,.kb<|decide<|a=c)],R2 h,zK λH w S vs hl=>⟨_,zf5 (vg e<|f hl).1 (vg hc<|j hl).1 w,zA<|by exact O⟩⟩
 case neq=>exact⟨[(0,.kb (!decide (a=c)))],kbN h,zK λH w S vs hl=>⟨_,zjb (vg e<|f hl).1 (vg hc<|j hl).1 w,zA<|by exact O⟩⟩
def zsA{bo:Us}{a c:K}{k:N (K×Dv)->V R}(h:(match bo with
 |.shr=>zdJ .shr a c<|λv=>k [(0,v)]
 |.shl=>zdJ .shl a c<|λv=>k [(0,v)]
 |bo=>arU bo a c<|λv=>k [(0,v)])=Z r) (e:pd cx σ x=Z ⟨.u,a⟩) (hc:pd cx σ y=Z ⟨.u,c⟩):
 ∃l,k l=Z r/\ES P ⟨d,.binOp bo t x y yt,ty,wl,wn,g⟩ cx σ F l:=by
 have f:∀{vs H S w},(∀j∈yS (.binOp bo t x y yt),Lk P vs H S w cx σ j)->Xt P vs H S w cx σ x:=λhl=>yO hl (by simp[xaC]);have i:∀{vs H S w},(∀j∈yS (.binOp bo t x y yt),Lk P vs H S w cx σ j)->Xt P vs H S w cx σ y:=λhl=>yO hl (by simp[xaC]);split at h;simp only[zdJ]at h;have⟨z,b,h⟩:=wX h;exact⟨_,h,zK λH w S vs hl=>⟨_,zcO (wJ e<|f hl).1 (wJ hc<|i hl).1 (xeR _) (zoU b zcE) w,zA<|kz<|zar (wJ e<|f hl).2 b⟩⟩;simp only[zdJ]at h;have⟨z,b,h⟩:=wX h;exact⟨_,h,zK λH w S vs hl=>⟨_,zcl (wJ e<|f hl).1 (wJ hc<|i hl).1 (xeR _) (tV b zcv) w,zA<|kz<|VH b⟩⟩;rename_i hd m;cases bo<;>simp only[arU,WT]at h
 case add=>have⟨z,b,h⟩:=wX h;exact⟨_,h,zK λH w S vs hl=>⟨_,zeP (wJ e<|f hl).1 (wJ hc<|i hl).1 (tV b zlG) w,zA<|kz<|VH b⟩⟩
 case sub=>have⟨z,b,h⟩:=wX h;exact⟨_,h,zK λH w S vs hl=>⟨_,zhP (wJ e<|f hl).1 (wJ hc<|i hl).1 (tV b<|zjt<|xcJ (wJ hc<|i hl).2) w,zA<|kz<|VH b⟩⟩
 case mul=>have⟨z,b,h⟩:=wX h;exact⟨_,h,zK λH w S vs hl=>⟨_,zmi (wJ e<|f hl).1 (wJ hc<|i hl).1 (tV b zkt) w,zA<|kz<|VH b⟩⟩
 case quo=>have⟨h0,h⟩:=Ya h;have⟨z,b,h⟩:=wX h;exact⟨_,h,zK λH w S vs hl=>⟨_,zl3 (wJ e<|f hl).1 (wJ hc<|i hl).1 (zq1 h0) (tV b<|zeb (wJ e<|f hl).2) w,zA<|kz<|zar (wJ e<|f hl).2 b⟩⟩
 case rem=>have⟨h0,h⟩:=Ya h;have⟨z,b,h⟩:=wX h;exact⟨_,h,zK λH w S vs hl=>⟨_,zmL (wJ e<|f hl).1 (wJ hc<|i hl).1 (zq1 h0) (zoU b zri) w,zA<|kz<|znT (wJ e<|f hl).2 b⟩⟩
 case and=>have⟨z,b,h⟩:=wX h;exact⟨_,h,zK λH w S vs hl=>⟨_,zmq (wJ e<|f hl).1 (wJ hc<|i hl).1 (tV b<|zlN (wJ e<|f hl).2 (wJ hc<|i hl).2) w,zA<|kz<|zpk b<|rM (wJ e<|f hl).2⟩⟩
 case or=>have⟨z,b,h⟩:=wX h;exact⟨_,h,zK λH w S vs hl=>⟨_,zqI (wJ e<|f hl).1 (wJ hc<|i hl).1 (tV b<|znz (wJ e<|f hl).2 (wJ hc<|i hl).2) w,zA<|kz<|zpk b<|CT (wJ e<|f hl).2 (wJ hc<|i hl).2⟩⟩
 case lss=>exact⟨[(0,.kb<|decide<|(a:J)<(c:J))],R2 h,zK λH w S vs hl=>⟨_,zfT (wJ e<|f hl).1 (wJ hc<|i hl).1 w,zA<|by exact O⟩⟩
 case leq=>exact⟨[(0,.kb<|decide<|(a:J)<=(c:J))],R2 h,zK λH w S vs hl=>⟨_,zfc (wJ e<|f hl).1 (wJ hc<|i hl).1 w,zA<|by exact O⟩⟩
 case gtr=>exact⟨[(0,.kb<|decide<|(c:J)<(a:J))],R2 h,zK λH w S vs hl=>⟨_,zgp (wJ e<|f hl).1 (wJ hc<|i hl).1 w,zA<|by exact O⟩⟩
 case geq=>exact⟨[(0,.kb<|decide<|(c:J)<=(a:J))],R2 h,zK λH w S vs hl=>⟨_,zfz (wJ e<|f hl).1 (wJ hc<|i hl).1 w,zA<|by exact O⟩⟩
 case eql=>exact⟨[(0,.kb<|decide<|(a:J)=(c:J))],R2 h,zK λH w S vs hl=>⟨_,zf5 (wJ e<|f hl).1 (wJ hc<|i hl).1 w,zA<|by exact O⟩⟩
 case neq=>exact⟨[(0,.kb (!decide ((a:J)=(c:J))))],kbN h,zK λH w S vs hl=>⟨_,zjb (wJ e<|f hl).1 (wJ hc<|i hl).1 w,zA<|by exact O⟩⟩
def zsK{e:Us}{a:K}{c:J}{k:N (K×Dv)->V R}(h:shU e a c (λv=>k [(0,v)])=Z r)(f:pd cx σ x=Z ⟨.u,a⟩)(hc:pd cx σ y=Z ⟨.i,c⟩):
 ∃l,k l=Z r/\ES P ⟨d,.binOp e t x y yt,ty,wl,wn,g⟩ cx σ F l:=by
 have j:∀{vs H S w},(∀m∈yS (.binOp e t x y yt),Lk P vs H S w cx σ m)->Xt P vs H S w cx σ x:=λhl=>yO hl (by simp[xaC]);have n:∀{vs H S w},(∀m∈yS (.binOp e t x y yt),Lk P vs H S w cx σ m)->Xt P vs H S w cx σ y:=λhl=>yO hl (by simp[xaC]);unfold shU at h;split at h;have⟨h0,h⟩:=Ya h;have⟨z,b,h⟩:=wX h;exact⟨_,h,zK λH w S vs hl=>⟨_,zcO (wJ f<|j hl).1 (vg hc<|n hl).1 h0 (zoU b zcE) w,zA<|kz<|zar (wJ f<|j hl).2 b⟩⟩;have⟨h0,h⟩:=Ya h;have⟨z,b,h⟩:=wX h;exact⟨_,h,zK λH w S vs hl=>⟨_,zcl (wJ f<|j hl).1 (vg hc<|n hl).1 h0 (tV b zcv) w,zA<|kz<|VH b⟩⟩;cases h
def zsY{b:Us}{a:J}{c:K}{k:N (K×Dv)->V R}(h:shI b a c (λv=>k [(0,v)])=Z r)(f:pd cx σ x=Z ⟨.i,a⟩)(hc:pd cx σ y=Z ⟨.u,c⟩):
 ∃l,k l=Z r/\ES P ⟨d,.binOp b t x y yt,ty,wl,wn,g⟩ cx σ F l:=by
 have j:∀{vs H S w},(∀m∈yS (.binOp b t x y yt),Lk P vs H S w cx σ m)->Xt P vs H S w cx σ x:=λhl=>yO hl (by simp[xaC]);have n:∀{vs H S w},(∀m∈yS (.binOp b t x y yt),Lk P vs H S w cx σ m)->Xt P vs H S w cx σ y:=λhl=>yO hl (by simp[xaC]);unfold shI at h;split at h;have⟨z,e,h⟩:=wX h;exact⟨_,h,zK λH w S vs hl=>⟨_,zcO (vg f<|j hl).1 (wJ hc<|n hl).1 (xeR _) e.symm w,zA<|ve<|ziy (vg f<|j hl).2 e⟩⟩;have⟨z,e,o,h⟩:=nQ h;exact⟨_,h,zK λH w S vs hl=>⟨_,zcl (vg f<|j hl).1 (wJ hc<|n hl).1 (xeR _) (w_x e o) w,zA<|ve o⟩⟩;cases h
def zsM{e:Us}{a c:uS}{j:uS}{k:N (K×Dv)->V R}(h:jK j (eqB e a c<|λv=>k [(0,v)])=Z r)(m:pd cx σ x=Z ⟨.b,a⟩)(hc:pd cx σ y=Z ⟨.b,c⟩)(n:j=qR->P.underlying t=Z .bool):
 ∃l,k l=Z r/\ES P ⟨d,.binOp e t x y yt,ty,wl,wn,g⟩ cx σ F l:=by
 have o:∀{vs H S w},(∀f∈yS (.binOp e t x y yt),Lk P vs H S w cx σ f)->Xt P vs H S w cx σ x:=λhl=>yO hl (by simp[xaC]);have p:∀{vs H S w},(∀f∈yS (.binOp e t x y yt),Lk P vs H S w cx σ f)->Xt P vs H S w cx σ y:=λhl=>yO hl (by simp[xaC]);have⟨hd,h⟩:=yo h;unfold eqB at h;split at h;have⟨z,i,h⟩:=wX h;exact⟨_,h,zK λH w S vs hl=>⟨_,zgX (zqS (n hd) (zlK m<|o hl)<|zlK hc<|p hl) i w,zA Cd⟩⟩;have⟨z,i,h⟩:=wX h;exact⟨_,h,zK λH w S vs hl=>⟨_,zgX (zqg (n hd) (zlK m<|o hl)<|zlK hc<|p hl) i w,zA Cd⟩⟩;cases h
def Ny(x:J):IntKind.u8.wrap x=x%256:=by rfl
def znv{a b:K}:IntKind.u8.wrap ((a:J)+(b:J))=(((a+b)%256:K):J):=by rw[Ny];lia
def zoI{a b:K}(h:b<=256):IntKind.u8.wrap ((a:J)-(b:J))=(((a+256-b)%256:K):J):=by rw[Ny];lia
def zg4{n z:K}(h:z=n%256):z<256:=by rw[h];exact xaQ _ m6
def zsS{i:Us}{a c:K}{k:N (K×Dv)->V R}(h:arC i a c (λv=>k [(0,v)])=Z r)(e:pd cx σ x=Z ⟨.ch,a⟩)(hc:pd cx σ y=Z ⟨.ch,c⟩):
 ∃l,k l=Z r/\ES P ⟨d,.binOp i t x y yt,ty,wl,wn,g⟩ cx σ F l:=by
 have f:∀{vs H S w},(∀m∈yS (.binOp i t x y yt),Lk P vs H S w cx σ m)->Xt P vs H S w cx σ x:=λhl=>yO hl (by simp[xaC]);have b:∀{vs H S w},(∀m∈yS (.binOp i t x y yt),Lk P vs H S w cx σ m)->Xt P vs H S w cx σ y:=λhl=>yO hl (by simp[xaC]);cases i<;>simp only[arC,WT]at h
 case add=>have⟨z,j,h⟩:=wX h;exact⟨_,h,zK λH w S vs hl=>⟨_,zeP (WB e<|f hl).1 (WB hc<|b hl).1 (tV j znv) w,zA<|La<|zg4 j⟩⟩
 case sub=>have⟨z,j,h⟩:=wX h;exact⟨_,h,zK λH w S vs hl=>⟨_,zhP (WB e<|f hl).1 (WB hc<|b hl).1 (tV j<|zoI<|xcJ (WB hc<|b hl).2) w,zA<|La<|zg4 j⟩⟩
 case lss=>exact⟨[(0,.kb<|decide<|(a:J)<(c:J))],R2 h,zK λH w S vs hl=>⟨_,zfT (WB e<|f hl).1 (WB hc<|b hl).1 w,zA<|by exact O⟩⟩
 case leq=>exact⟨[(0,.kb<|decide<|(a:J)<=(c:J))],R2 h,zK λH w S vs hl=>⟨_,zfc (WB e<|f hl).1 (WB hc<|b hl).1 w,zA<|by exact O⟩⟩
 case gtr=>exact⟨[(0,.kb<|decide<|(c:J)<(a:J))],R2 h,zK λH w S vs hl=>⟨_,zgp (WB e<|f hl).1 (WB hc<|b hl).1 w,zA<|by exact O⟩⟩
 case geq=>exact⟨[(0,.kb<|decide<|(c:J)<=(a:J))],R2 h,zK λH w S vs hl=>⟨_,zfz (WB e<|f hl).1 (WB hc<|b hl).1 w,zA<|by exact O⟩⟩
 case eql=>exact⟨[(0,.kb<|decide<|(a:J)=(c:J))],R2 h,zK λH w S vs hl=>⟨_,zf5 (WB e<|f hl).1 (WB hc<|b hl).1 w,zA<|by exact O⟩⟩
 case neq=>exact⟨[(0,.kb (!decide ((a:J)=(c:J))))],kbN h,zK λH w S vs hl=>⟨_,zjb (WB e<|f hl).1 (WB hc<|b hl).1 w,zA<|by exact O⟩⟩
theorem H2{s u:WW}:(s.toList==u.toList)=decide (xW s=xW u):=by rw[ByteArray.toList_eq,ByteArray.toList_eq];unfold xW;by_cases h:s.data.toList=u.data.toList;grind;have a:=λe=>h (List.map_inj_right (λx y=>UInt8.toNat_inj.1)|>.1 e);simp_all
def Dh(s u:WW):xW (s++u)=xW s++xW u:=by unfold xW;simp
def zfN{s u:WW}(h:X (xW s)+X (xW u)<=9223372036854775807)(w:jP):(Op.stringOp .add s u).run P w=.ok (.string<|s++u) w:=by
 rw[um,um]at h;have a:¬(((s.size+u.size:K):J)>xdf.max):=by have:xdf.max=9223372036854775807:=O;lia
 unfold Op.stringOp;simp_all
def zrH{f:Us}{a c:N K}{k:N (K×Dv)->V R}(h:eqT f a c (λv=>k [(0,v)])=Z r)(j:pd cx σ x=Z ⟨.tx,a⟩)(hc:pd cx σ y=Z ⟨.tx,c⟩):
 ∃l,k l=Z r/\ES P ⟨d,.binOp f t x y yt,ty,wl,wn,g⟩ cx σ F l:=by
 have m:∀{vs H S w},(∀n∈yS (.binOp f t x y yt),Lk P vs H S w cx σ n)->Xt P vs H S w cx σ x:=λhl=>yO hl (by simp[xaC]);have o:∀{vs H S w},(∀n∈yS (.binOp f t x y yt),Lk P vs H S w cx σ n)->Xt P vs H S w cx σ y:=λhl=>yO hl (by simp[xaC]);cases f<;>simp only[eqT,WT]at h
 case add=>
  have⟨h0,h⟩:=Ya h;have⟨z,q,h⟩:=wX h;refine⟨_,h,zK λH w S vs hl=> ?_⟩;have⟨s,e1,b,_⟩:=zdT j<|m hl;have⟨u,i,e,_⟩:=zdT hc<|o hl;have p:X (xW s)+X (xW u)<=9223372036854775807:=by rw[b,e];exact h0
  refine⟨.string<|s++u,?_,zA<|zcL (by rw[Dh,b,e];exact q.symm)<|by rw[<-um,Dh,xau];exact p⟩;simp[uT,e1,i,V9,binOp_string_add,zfN (P:=P) p w]
 case eql=>
  refine⟨[(0,.kb<|decide<|a=c)],R2 h,zK λH w S vs hl=> ?_⟩;have⟨s,e1,b,_⟩:=zdT j<|m hl;have⟨u,i,e,_⟩:=zdT hc<|o hl;refine⟨.bool<|decide<|a=c,?_,zA<|by exact O⟩;rw[<-b,<-e,<-H2];simp[uT,e1,i,V9,binOp_string_eql]
 case neq=>
  refine⟨[(0,.kb (!decide (a=c)))],kbN h,zK λH w S vs hl=> ?_⟩;have⟨s,e1,b,_⟩:=zdT j<|m hl;have⟨u,i,e,_⟩:=zdT hc<|o hl;refine⟨.bool (!decide (a=c)),?_,zA<|by exact O⟩;rw[<-b,<-e,<-H2];simp[uT,e1,i,V9,binOp_string_neq]
def bop{e:uS}{f:Us}{k:N (K×Dv)->V R}(h:znu e f (pd cx σ x) (pd cx σ y) (λv=>k [(0,v)])=Z r)(i:e=qR->P.underlying t=Z .bool):
 ∃l,k l=Z r/\ES P ⟨d,.binOp f t x y yt,ty,wl,wn,g⟩ cx σ F l:=by
 unfold znu at h;split at h
 next a c b hc=>exact zsr h b hc
 next a c b hc=>exact zsA h b hc
 next a c b hc=>exact zsK h b hc
 next a c b hc=>exact zsY h b hc
 next a c b hc=>exact zsM h b hc i
 next a c b hc=>exact zsS h b hc
 next a c b hc=>exact zrH h b hc
 cases h
def Ko{s:ut}{q:Ty}{k:Wr}{B:K}(a:y6 P cf.tt)(h:YF cf s=Z ⟨q,.int k,B⟩):P.underlying s=Z (.int k):=(a _ _ h).2.2.2
def qY{s E:ut}{q:Ty}{B:K}(a:y6 P cf.tt)(h:YF cf s=Z ⟨q,.sl E,B⟩):P.underlying s=Z (.slice E):=(a _ _ h).2.2.2.1
def Nx{s:ut}{q:Ty}{B:K}(a:y6 P cf.tt)(h:YF cf s=Z ⟨q,.str,B⟩):P.underlying s=Z .string:=(a _ _ h).2.2.2
def zjT(a:y6 P cf.tt):isB cf t=qR->P.underlying t=Z .bool:=by
 intro h;unfold isB at h;split at h
 next q B b=>exact(a _ _ b).2.2.2
 cases h
theorem Uw{s E:ut}{e:Ty}{B:K}(b:y6 P cf.tt)(c:ua P cf.tt)(h:YF cf s=Z ⟨.l e,.sl E,B⟩):∃bytes a,JN P E e.rep.agg e.rep.n bytes a:=by obtain⟨f,h1,rfl⟩:=c _ _ _ _ h;have⟨⟨a,i,_⟩,_⟩:=b _ _ h1;grind
theorem Xj{b:TI}(c:y6 P cf.tt)(h:YF cf t=Z b):∃a,JN P t b.ty.rep.agg b.ty.rep.n b.B a/\a.cells.size=b.ty.rep.n/\∀S w,b.ty.rep.p S b.ty.z a.cells.toList w:=by have⟨a,h1,e,f,_⟩:=(c _ _ h).1;grind
def zaa{a:TI}{s:Ty}(e:y6 P cf.tt)(h:YF cf t=Z a)(b:a.ty=.l s):JN P t I 1 a.B (.slice wW 0 0):=by have⟨c,h1,_,_,f⟩:=(e _ _ h).1;rw[f.1 s b,b]at h1;exact h1
def zqn{a:K}(h:a<256):Qp (a:J):=by unfold Qp;lia
def zqc{a:K}(h:a<256):a<18446744073709551616:=W
def zsZ{a:K}(h:a<256):IntKind.u8.wrap (a:J)=(a:J):=by rw[Ny];lia
def u_c{a:K}:IntKind.u8.wrap (a:J)=((a%256:K):J):=by rw[Ny];lia
def OM{S:K->Prop}{w:jP}:∀{xs:N K}{cs:N jp},yW eCh S xs cs w->cs=xs.map (λx:K=>Value.int .u8 (x:J))/\∀x∈xs,x<256
 |[],cs,h=>⟨h,λx a=>kW a H1⟩
 |x::xs,cs,⟨c,r,h1,b,e⟩=>by
  have⟨e1,j⟩:=OM e;have⟨f,i⟩:=b;refine⟨by rw[h1,f,e1];rfl,λy hy=> ?_⟩;obtain rfl|hy:=xal.1 hy
  exact i;simp_all
def znm{s t E:ut}{xs:N K}{v:jp}{S:K->Prop}{w:jP}(k:P.underlying s=Z (.slice E))(l:P.underlying E=Z (.int .u8))(ht:P.underlying t=Z .string)(hv:(fV (eS eCh) xs v).p S w):
 ∃u:WW,(convert s t v).run P w=.ok (.string u) w/\xW u=xs/\u.size<=9223372036854775807:=by
 obtain⟨i,cap,rfl,hi,hc,h⟩:=wi.1 hv;have e:∀a,i=Z a->(∀x∈xs,x<256)->(∀j (c:j<X xs),w.cell? (a.add j)=Z (.int .u8 ((xs[j]:K):J)))->∃u:WW,(convert s t (.slice i (X xs) cap)).run P w=.ok (.string u) w/\xW u=xs/\u.size<=9223372036854775807:=by
  rintro a rfl f c;have q:(xs.map UInt8.ofNat).map UInt8.toNat=xs:=by
   rw[xdj];conv=>rhs;rw[<-List.map_id xs]
   exact xch λx hd=>UInt8.toNat_ofNat_of_lt'<|f x hd
  have m:=run_convert_bytes_back (P:=P) w s t E a cap (xs.map UInt8.ofNat) k l ht (λj z=>by
   have n:j<X xs:=by simpa using z
   rw[c j n,List.getElem_map,UInt8.toNat_ofNat_of_lt'<|f _<|xbI n])
  rw[xaj]at m;refine⟨_,m,by unfold xW;simpa using q,?_⟩;rw[<-um];unfold xW;rw[xaj];simp;unfold JP at hc;lia
 obtain rfl|⟨b,o,cs,rfl,_,A,B⟩:=h
 cases i with
 |some a=>exact e a O (λx f=>kW f H1)<|λj c=>kW c<|xbc _
 |none=>
  refine⟨ByteArray.empty,?_,O,m6⟩;rw[run_convert_bytes_string w s t E wW _ cap k l ht];rfl
 have⟨e1,C⟩:=OM B;refine e _ O C λj c=> ?_;have:=A.2 j (.int .u8 ((xs[j]:K):J)) (by rw[e1,xco,xaa c];rfl);rw[jy];exact this
def zre(f:y6 P cf.tt){s t:ut}{k:N (K×Dv)->V R}(h:zny cf cx σ s t x k=Z r):∃l,k l=Z r/\ES P ⟨d,.convert s t x,ty,wl,wn,g⟩ cx σ F l:=by
 have e:∀{vs H S w},(∀m∈yS (.convert s t x),Lk P vs H S w cx σ m)->Xt P vs H S w cx σ x:=λhl=>yO hl (by simp[xaC]);unfold zny at h;split at h;rename_i q k1 B n j ht;have hc:=Ko f j;have⟨o,D,tB⟩:=n;unfold zqR at h;split at h;rename_i a c b;simp only at c;subst c;exact⟨_,h,zK λH w S vs hl=>⟨_,eh hc (Ko f ht) (vg b<|e hl).1 (w64 (vg b<|e hl).2) w,zA<|ve (vg b<|e hl).2⟩⟩;rename_i a c b;simp only at c;subst c;exact⟨_,h,zK λH w S vs hl=>⟨_,eh hc (Ko f ht) (wJ b<|e hl).1 (sW (wJ b<|e hl).2) w,zA<|kz (wJ b<|e hl).2⟩⟩;rename_i a c b;simp only at c;subst c;have⟨z,i,h⟩:=wX h;exact⟨_,h,zK λH w S vs hl=>⟨_,eh hc (Ko f ht) (vg b<|e hl).1 (tV i<|zhR _) w,zA<|kz<|zpk i<|Er _⟩⟩;rename_i a c b;simp only at c;subst c;have⟨z,i,h⟩:=wX h;exact⟨_,h,zK λH w S vs hl=>⟨_,eh hc (Ko f ht) (wJ b<|e hl).1 ((Dr (wJ b<|e hl).2).trans i.symm) w,zA<|ve<|zgz i<|zeW (wJ b<|e hl).2⟩⟩;rename_i a c b;simp only at c;subst c;exact⟨_,h,zK λH w S vs hl=>⟨_,eh hc (Ko f ht) (WB b<|e hl).1 (w64<|zqn (WB b<|e hl).2) w,zA<|ve<|zqn (WB b<|e hl).2⟩⟩;rename_i a c b;simp only at c;subst c;exact⟨_,h,zK λH w S vs hl=>⟨_,eh hc (Ko f ht) (WB b<|e hl).1 (sW<|zqc (WB b<|e hl).2) w,zA<|kz<|zqc (WB b<|e hl).2⟩⟩;rename_i a c b;simp only at c;subst c;exact⟨_,h,zK λH w S vs hl=>⟨_,eh hc (Ko f ht) (WB b<|e hl).1 (zsZ (WB b<|e hl).2) w,zA<|La (WB b<|e hl).2⟩⟩;rename_i a c b;simp only at c;subst c;unfold chU at h;have⟨z,i,h⟩:=wX h;exact⟨_,h,zK λH w S vs hl=>⟨_,eh hc (Ko f ht) (wJ b<|e hl).1 (tV i u_c) w,zA<|La<|zg4 i⟩⟩;cases h
 rename_i E B q G j ht;split at h;rename_i J p v;have⟨xs,h,hd⟩:=Qg h;refine⟨_,h,zK λH w S vs hl=> ?_⟩;have⟨u,h1,A,C⟩:=znm (qY f j) (Ko f v) (Nx f ht)<|hd P vs H S w<|e hl;exact⟨.string u,by simp[uT,h1],zA<|zcL A C⟩;cases h
 cases h
def Rf{n:K}{k:K->V R}(h:atI cx σ x n k=Z r):∃j,j<n/\k j=Z r/\∀(P:Z2) vs H S w,Xt P vs H S w cx σ x->∃ik,ev H x=.int ik (j:J):=by unfold atI at h;split at h;rename_i j a;have⟨i,h1,b,h⟩:=zhk h;exact⟨i,b,h,λP vs H S w hl=>⟨.i64,by rw[(vg a hl).1,h1]⟩⟩;rename_i j a;have⟨i,h1,b,h⟩:=zhk h;exact⟨i,b,h,λP vs H S w hl=>⟨.u64,by rw[(wJ a hl).1,h1]⟩⟩;rename_i j a;have⟨i,h1,b,h⟩:=zhk h;exact⟨i,b,h,λP vs H S w hl=>⟨.u8,by rw[(WB a hl).1,h1]⟩⟩;cases h
def aU{x:V uL}{k:V K->V R}(h:Pv cx σ x k=Z r):
 (x=wW/\k wW=Z r)\/∃y j,x=Z y/\k (Z j)=Z r/\∀(P:Z2) vs H S w,Xt P vs H S w cx σ y->ev H y=.int .i64 (j:J):=by
 unfold Pv at h;split at h;simp_all;rename_i y;split at h;rename_i j a;have⟨i,h1,h⟩:=zb5 h;exact .inr ⟨y,i,O,h,λP vs H S w hl=>by rw[(vg a hl).1,h1]⟩;cases h
def aV{α:Type}{e:zZ α}{E:ut}{xs:N α}{v:jp}(h:(mO e E v xs).p S w)(h0:0<X xs):
 ∃b cap,v=.slice (Z ⟨b,0,wW⟩) (X xs) cap/\(mB (rowT e cap) E b xs).p S w:=by
 have⟨cs,h1,c⟩:=h;rcases h1.2 with⟨rfl,j⟩|⟨g,cap,a,rfl,hd,f,k,l,i,hc⟩
 lia;exact⟨g,cap,O,a,f,cs,a.toList.drop<|X xs*e.n,by rw[<-hc,xbK],c,by simpa using i⟩
def zeQ{s E:ut}{q:Ty}{n B:K}(a:y6 P cf.tt)(h:YF cf s=Z ⟨q,.ar n E,B⟩):P.underlying s=Z (.array n E):=(a _ _ h).2.2.2.2
theorem ziE{E:ut}{e:Ty}(b:y6 P cf.tt)(h:elA cf E e=qR):∃bytes a,JN P E e.rep.agg e.rep.n bytes a:=by
 unfold elA at h;split at h;rename_i c ht
 cases f:Ty.same c.ty e with
 |none=>rw[f]at h;cases h
 |some p=>
  have⟨a,i,_⟩:=Xj b ht;rw[p.down]at i;grind
 cases h
def zn0{n j:K}{e:Ty}(b:j<n):Fl.ok (.a n e) (zrJ n e j):=by intro z S w cs hp;have c:=hp;have:=Sub.nth n e.rep z j (xeN z j e.z) (getD_some e.z<|c.1▸b) S w cs hp;rw[e.n_rep]at this;exact this
def zj7(m:y6 P cf.tt)(T:ua P cf.tt){k:N (K×Dv)->V R}(h:za8 cf cx σ t x y k=Z r):∃l,k l=Z r/\ES P ⟨d,.indexAddr t x y,ty,wl,wn,g⟩ cx σ F l:=by
 have D:∀{vs H S w},(∀J∈yS (.indexAddr t x y),Lk P vs H S w cx σ J)->Xt P vs H S w cx σ x:=λhl=>yO hl (by simp[xaC]);have G:∀{vs H S w},(∀J∈yS (.indexAddr t x y),Lk P vs H S w cx σ J)->Xt P vs H S w cx σ y:=λhl=>yO hl (by simp[xaC]);unfold za8 at h;split at h;rename_i e E B s xs ht v;have⟨hi,h⟩:=yv h;cases hi;have⟨bytes,c,hc⟩:=Uw m T ht;have⟨j,i,h,hd⟩:=Rf h;have⟨z,L,h⟩:=wX h;refine⟨_,h,Zi λH w S vs M hl=> ?_⟩;have⟨ik,A⟩:=hd P vs H S w<|G hl;exact⟨_,_,_,_,[fV (eS e.rep) xs<|ev H x],[],zhg (e:=e.rep) (xs:=xs) (k:=j) (y:=z) O A (qY m ht) hc (zrk i L)<|λS w h=>h.1,ul,⟨zj v<|D hl,ul⟩,λu w' _ Q=>zA Q.1⟩
 rename_i e E B o ht v;split at h;rename_i s Y xs ho;have⟨hi,h⟩:=yv h;cases hi;have⟨bytes,c,hc⟩:=Uw m T ht;have⟨j,i,h,hd⟩:=Rf h;refine⟨_,h,?_⟩;intro H w S vs hS M hl;have⟨ik,A⟩:=hd P vs H S w<|G hl;have hm:(mO e.rep Y (vs o) xs).p S w:=Ys M ho;have⟨b,cap,hv,_⟩:=aV hm<|xaI (xah _) i;have hq:ev H x=vs o:=zj v<|D hl;refine uF.of_value (Cu (qY m ht) hc (hq.trans hv) A i w) ⟨yL.refl _ _,zA ?_⟩;exact⟨λz=>Sub.self e.rep z,b,_,_,hv,i,by simp[Fl.self]⟩
 cases h
 rename_i q n' E B n e xs ht v;have⟨C,h⟩:=yo h;rw[xae]at C;have hn:=yh C.1;subst hn;have⟨bytes,c,hc⟩:=ziE m C.2;have⟨j,i,h,hd⟩:=Rf h;have⟨z,L,h⟩:=wX h;refine⟨_,h,Zi λH w S vs M hl=> ?_⟩;have⟨ik,A⟩:=hd P vs H S w<|G hl;have hp:(fP (Ty.a n' e).rep xs<|ev H x).p S w:=zj v<|D hl;have⟨_,_,_,_,_,_,hk,_⟩:=id hp;exact⟨_,_,_,_,[fP (Ty.a n' e).rep xs<|ev H x],[],zdN (e:=(Ty.a n' e).rep) (f:=e.rep) (z:=xs) (z':=z) (zeQ m ht) hc O A i (Sub.nth n' e.rep xs j z<|zrk (hk▸i) L)<|λS w h=>h.1,ul,⟨hp,ul⟩,λu w' _ Q=>zA Q.1⟩;rename_i q n' E B o n e ht v;have⟨C,h⟩:=yo h;rw[xae]at C;have hn:=yh C.1;subst hn;have⟨bytes,c,hc⟩:=ziE m C.2;have⟨j,i,h,hd⟩:=Rf h;refine⟨_,h,zK λH w S vs hl=> ?_⟩;have⟨ik,A⟩:=hd P vs H S w<|G hl;have⟨h1,b,U⟩:=zj v<|D hl;exact⟨_,SG (zeQ m ht) hc (h1.trans U) A i w,zA ⟨zn0 i,b,U,by rw[e.n_rep];rfl⟩⟩;cases h
def UD:∀{k:K}{t:Ty}{i:K}{f:Fl t.D},xu k t i=Z f->Fl.ok t f
 |0,.w1 t,0,f,h=>by
  simp only[xu,xav]at h;subst h;exact λz=>Sub.wrap t.rep z
 |0,.w1 t,_+1,_,h=>by cases h
 |0,.i,_,_,h=>by cases h
 |0,.u,_,_,h=>by cases h
 |0,.b,_,_,h=>by cases h
 |0,.l _,_,_,h=>by cases h
 |0,.p _ _,_,_,h=>by cases h
 |0,.a _ _,_,_,h=>by cases h
 |0,.ch,_,_,h=>by cases h
 |0,.tx,_,_,h=>by cases h
 |0,.po _,_,_,h=>by cases h
 |1,t,i,f,h=>by
  unfold xu at h;cases c:Q i 0<;>rw[c]at h
  cases h
  simp only[WN,xav]at h;subst h;exact λz=>Sub.self t.rep z
 |k+2,.p s t,0,f,h=>by
  simp only[xu,xav]at h;subst h;exact λz=>Sub.fst s.rep t.rep z
 |k+2,.p s t,i+1,f,h=>by
  simp only[xu]at h;split at h;rename_i f' e;simp only[xav]at h;subst h;intro z;have:=(Sub.snd s.rep t.rep z).comp<|UD e z.2;rw[s.n_rep]at this;exact this;cases h
 |k+2,.i,i,f,h=>by simp[xu]at h
 |k+2,.u,i,f,h=>by simp[xu]at h
 |k+2,.b,i,f,h=>by simp[xu]at h
 |k+2,.l _,i,f,h=>by simp[xu]at h
 |k+2,.a _ _,i,f,h=>by simp[xu]at h
def Ea:∀{k:K}{t:Ty}{i j:K}{f g:Fl t.D},xu k t i=Z f->xu k t j=Z g->i≠j->
 (∀z x,g.get (f.set x z)=g.get z)/\(∀z x y,g.set y (f.set x z)=f.set x (g.set y z))/\(g.off+g.f.n<=f.off\/f.off+f.f.n<=g.off)
 |0,.w1 _,0,0,_,_,_,_,h=>kW O h
 |0,.w1 _,_+1,_,_,_,h,_,_=>by cases h
 |0,.w1 _,0,_+1,_,_,_,h,_=>by cases h
 |0,.i,_,_,_,_,h,_,_=>by cases h
 |0,.u,_,_,_,_,h,_,_=>by cases h
 |0,.b,_,_,_,_,h,_,_=>by cases h
 |0,.l _,_,_,_,_,h,_,_=>by cases h
 |0,.p _ _,_,_,_,_,h,_,_=>by cases h
 |0,.a _ _,_,_,_,_,h,_,_=>by cases h
 |0,.ch,_,_,_,_,h,_,_=>by cases h
 |0,.tx,_,_,_,_,h,_,_=>by cases h
 |0,.po _,_,_,_,_,h,_,_=>by cases h
 |1,t,i,j,f,g,c,m,hn=>by
  unfold xu at c m;cases o:Q i 0<;>rw[o]at c
  cases c
  cases hc:Q j 0<;>rw[hc]at m
  cases m
  exact kW ((yh o).trans (yh hc).symm) hn
 |k+2,.p s t,0,0,_,_,_,_,h=>kW O h
 |k+2,.p s t,0,j+1,f,g,c,m,_=>by
  simp only[xu,xav]at c m;subst c;split at m;rename_i v q;simp only[xav]at m;subst m;exact⟨λ_ _=>O,λ_ _ _=>O,.inr<|by simp only;lia⟩;cases m
 |k+2,.p s t,i+1,0,f,g,c,m,_=>by
  simp only[xu,xav]at c m;subst m;split at c;rename_i f' hd;simp only[xav]at c;subst c;exact⟨λ_ _=>O,λ_ _ _=>O,.inl<|by simp only;lia⟩;cases c
 |k+2,.p s t,i+1,j+1,f,g,c,m,hn=>by
  simp only[xu]at c m;split at c;rename_i f' hd;split at m;rename_i v q;simp only[xav]at c m;subst c;subst m;have⟨h1,A,h3⟩:=Ea hd q (λe=>hn<|by rw[e]);exact⟨λz x=>h1 z.2 x,λz x y=>by simp only;rw[A z.2 x y],by obtain h3|h3:=h3;exact .inl (by simp only;lia);exact .inr<|by simp only;lia⟩;cases m
  cases c
 |k+2,.i,i,_,f,_,h,_,_=>by simp[xu]at h
 |k+2,.u,i,_,f,_,h,_,_=>by simp[xu]at h
 |k+2,.b,i,_,f,_,h,_,_=>by simp[xu]at h
 |k+2,.l _,i,_,f,_,h,_,_=>by simp[xu]at h
 |k+2,.a _ _,i,_,f,_,h,_,_=>by simp[xu]at h
def WU:∀t:Ty,∃h,Ty.same t t=Z ⟨h⟩
 |.i=>⟨O,O⟩
 |.u=>⟨O,O⟩
 |.b=>⟨O,O⟩
 |.ch=>⟨O,O⟩
 |.tx=>⟨O,O⟩
 |.l t=>by have⟨h,e⟩:=WU t;exact⟨O,by simp only[Ty.same,e]⟩
 |.po t=>by have⟨h,e⟩:=WU t;exact⟨O,by simp only[Ty.same,e]⟩
 |.w1 t=>by have⟨h,e⟩:=WU t;exact⟨O,by simp only[Ty.same,e]⟩
 |.a k t=>by have⟨h,e⟩:=WU t;exact⟨O,by simp only[Ty.same,e,dite_true]⟩
 |.p s t=>by have⟨h,e⟩:=WU s;have⟨f,c⟩:=WU t;exact⟨O,by simp only[Ty.same,e,c]⟩
def J0{s t:Ty}(h:(Ty.same s t).isSome=qR):s=t:=by
 cases a:Ty.same s t with
 |none=>rw[a]at h;cases h
 |some p=>exact p.down
def sM{α:Type}{s:Ty}{off:K}{g:α->(Ty.l s).D}{st:(Ty.l s).D->α->α}{xs:N s.D}{z:α}:ZL s (Z ⟨off,.l s,g,st⟩) xs z=st xs z:=by have⟨h,e⟩:=WU s;simp only[ZL,e]
theorem zbI{n i j:K}{t s:Ty}{f:Fl t.D}{hv:N jp}{z:t.D}{r:K}(c:vrP s (xu n t j))(a:xu n t i=Z f)(hn:i≠j):
 Sub (dj t.rep (XJ<|xu n t j) (ZL s (xu n t j) []) hv) (z,r) f.off f.f.rep (f.get z) (λy=>(f.set y z,r)):=by
 have⟨off,g,st,b⟩:=c;have⟨h1,h,e⟩:=Ea b a<|Ne.symm hn;rw[b];have hp:∀z,ZL s (Z ⟨off,.l s,g,st⟩) [] z=st ([]:N s.D) z:=λz=>sM;refine Sub.other ?_ (by rw[f.f.n_rep];exact e);have k:=UD a<|ZL s (Z ⟨off,.l s,g,st⟩) [] z;grind
def Tb:∀{k:K}{t:Ty}{i:K}{f:Fl t.D},xu k t i=Z f->∀x y z,f.set x (f.set y z)=f.set x z
 |0,.w1 t,0,f,h=>by
  simp only[xu,xav]at h;subst h;exact λ_ _ _=>O
 |0,.w1 t,_+1,_,h=>by cases h
 |0,.i,_,_,h=>by cases h
 |0,.u,_,_,h=>by cases h
 |0,.b,_,_,h=>by cases h
 |0,.l _,_,_,h=>by cases h
 |0,.p _ _,_,_,h=>by cases h
 |0,.a _ _,_,_,h=>by cases h
 |0,.ch,_,_,h=>by cases h
 |0,.tx,_,_,h=>by cases h
 |0,.po _,_,_,h=>by cases h
 |1,t,i,f,h=>by
  unfold xu at h;cases c:Q i 0<;>rw[c]at h
  cases h
  simp only[WN,xav]at h;subst h;exact λ_ _ _=>O
 |k+2,.p s t,0,f,h=>by
  simp only[xu,xav]at h;subst h;exact λ_ _ _=>O
 |k+2,.p s t,i+1,f,h=>by
  simp only[xu]at h;split at h;rename_i f' e;simp only[xav]at h;subst h;intro x y z;simp only;rw[Tb e];cases h
 |k+2,.i,i,f,h=>by simp[xu]at h
 |k+2,.u,i,f,h=>by simp[xu]at h
 |k+2,.b,i,f,h=>by simp[xu]at h
 |k+2,.l _,i,f,h=>by simp[xu]at h
 |k+2,.a _ _,i,f,h=>by simp[xu]at h
def zmJ{S:K->Prop}{w:jP}{n i off:K}{t s:Ty}{g:t.D->(Ty.l s).D}{st:(Ty.l s).D->t.D->t.D}{z:t.D}{cs:N jp}{v:jp}(e:xu n t i=Z ⟨off,.l s,g,st⟩)(h:t.rep.p S z cs w)(hv:cs[off]? =Z v)(h1:v.oneCell'=qR):
 (dj t.rep off (st ([]:N s.D)) [v]).p S (z,0) cs w:=by
 have⟨b,c,a,e1,m,f,j⟩:=UD e z S w cs h;refine⟨v,O,h1,hv,?_⟩;have k:=j w ([]:N s.D) [.slice wW 0 0] (yL.refl _ _) ⟨_,O,SlP.nil⟩;have hc:X c=1:=(Ty.l s).rep.len f;obtain⟨c0,rfl⟩:=xcF.1 hc;have:cs.set off (.slice wW 0 0)=b++[.slice wW 0 0]++a:=by simp_all
 rw[this];exact k
def zo6{S e:K->Prop}{w:jP}{n i off r:K}{t s:Ty}{g:t.D->(Ty.l s).D}{st:(Ty.l s).D->t.D->t.D}{z:t.D}{cs:N jp}{v:jp}{hv:N jp}{xs:N s.D}(o:xu n t i=Z ⟨off,.l s,g,st⟩)(h:(dj t.rep off (st ([]:N s.D)) hv).p S (z,r) cs w)
 (A:hv[r]? =Z v) (B:∀k,S k->e k) (C:(fV (eS s.rep) xs v).p e w):t.rep.p e (st xs z) cs w:=by
 have⟨u,h1,T,E,f⟩:=h;rw[A]at h1;cases h1;have f:=t.rep.sub f λk _=>B k;have⟨j,c,a,e1,G,J,L⟩:=UD o (st ([]:N s.D) z) e w _ f;have⟨b,hd,q⟩:=C;have m:=L w xs b (yL.refl _ _) q;simp only at m G;rw[show st xs (st ([]:N s.D) z)=st xs z from Tb o xs ([]:N s.D) z]at m;have hc:X c=1:=(Ty.l s).rep.len J;have M:X b=1:=(eS s.rep).len q;obtain⟨c0,rfl⟩:=xcF.1 hc;obtain⟨c1,rfl⟩:=xcF.1 M;obtain rfl:v=c1:=hd;have⟨U,Q⟩:=xaA.1 E;have:cs=j++[v]++a:=by
  have V:(cs.set off (.slice wW 0 0)).set off v=cs:=by rw[List.set_set,<-Q,xdi]
  simp_all
 rw[this];exact m
def zb0{t:Ty}{a:Fl t.D}{c:Fl a.f.D}(b:Fl.ok t a)(hc:Fl.ok a.f c):Fl.ok t (a.comp c):=λz=>(b z).comp<|hc<|a.get z
def SO{s:ut}{q:Ty}{n B i:K}{f:Fl q.D}(a:y6 P cf.tt)(h:YF cf s=Z ⟨q,.st n,B⟩)(b:xu n q i=Z f):zbp P s i=Z f.off:=(a _ _ h).2.2.2.2.1 i f b
def zqY{c:Us}{v:V Dv}{k:Dv->V R}(h:eqP c v k=Z r):∃dv b,v=Z dv/\zdt c b k=Z r/\∀(P:Z2) vs S w u,(vP P vs dv u).p S w->∃p:V aC,u=.pointer p/\p.isNone=b:=by unfold eqP at h;split at h;exact⟨_,_,O,h,λP vs S w u a=>⟨wW,a,O⟩⟩;exact⟨_,_,O,h,λP vs S w u ⟨b,o,cs,h1,_⟩=>⟨_,h1,O⟩⟩;exact⟨_,_,O,h,λP vs S w u ⟨h1,b,e⟩=>⟨_,h1.trans e,O⟩⟩;exact⟨_,_,O,h,λP vs S w u a=>zm8 a⟩;cases h
def zq9(a:y6 P cf.tt)(h:zku cf t=qR):P.underlying t=Z (.pointer<|P.pointee t):=by unfold zku at h;split at h;rename_i q E B b;have:=(a _ _ b).2.2.2;have this:P.underlying t=Z (.pointer E):=this;rw[show P.pointee t=E by simp[Program.pointee,this]];exact this;cases h
def zsj(i:y6 P cf.tt){e:Us}{k:N (K×Dv)->V R}(hp:zku cf t=qR)(a:zj8 (xG cx σ y)=qR)(h:eqP e (xG cx σ x) (λv=>k [(0,v)])=Z r):
 ∃l,k l=Z r/\ES P ⟨d,.binOp e t x y yt,ty,wl,wn,g⟩ cx σ F l:=by
 have⟨dv,b,j,h,hv⟩:=zqY h;have a:xG cx σ y=Z .np:=by unfold zj8 at a;split at a;lia;cases a
 have ht:=zq9 i hp;have go:∀{H:xr}{w:jP}{S:K->Prop}{vs:K->jp},(∀m∈yS (.binOp e t x y yt),Lk P vs H S w cx σ m)->∃p:V aC,ev H x=.pointer p/\p.isNone=b/\ev H y=.pointer wW:=λhl=>by
  have⟨p,h1,c⟩:=hv P _ _ _ _ (zj j<|yO hl<|by simp[xaC]);exact⟨p,h1,c,zj a<|yO hl<|by simp[xaC]⟩
 cases e<;>simp only[zdt,WT]at h
 case eql=>
  refine⟨[(0,.kb<|decide<|b=qR)],R2 h,zK λH w S vs hl=>⟨.bool b,?_,zA<|by simp[vP,iv]⟩⟩;have⟨p,h1,c,f⟩:=go hl;simp[uT,h1,f,V9,run_eql_pointer_nil w t p ht,c]
 case neq=>
  refine⟨[(0,.kb (!decide (b=qR)))],kbN h,zK λH w S vs hl=>⟨.bool !b,?_,zA<|by simp[vP,iv]⟩⟩;have⟨p,h1,c,f⟩:=go hl;simp[uT,h1,f,V9,run_neq_pointer_nil w t p ht,c]
def zq6{k:N (K×Dv)->V R}(h:znZ cx σ x k=Z r):∃l,k l=Z r/\ES P ⟨d,.nilCheck x,ty,wl,wn,g⟩ cx σ F l:=by
 have f:∀{H:xr}{a:aC} (w:jP),ev H x=.pointer (Z a)->(uT (ev H) ⟨d,.nilCheck x,ty,wl,wn,g⟩).run P w=.ok (.value<|ev H x) w:=λw h=>by simp[uT,h]
 unfold znZ at h;split at h;rename_i s y c;refine⟨_,h,zK λH w S vs hl=> ?_⟩;have h1:=zj c (yO hl<|by simp[xaC]);have⟨b,o,cs,e,_⟩:=h1;exact⟨_,f w e,zA<|zj c<|yO hl<|by simp[xaC]⟩;rename_i o s c;refine⟨_,h,zK λH w S vs hl=> ?_⟩;have⟨h1,b,e⟩:=zj c (yO hl<|by simp[xaC]);exact⟨_,f w<|h1.trans e,zA<|zj c<|yO hl<|by simp[xaC]⟩;rename_i s y c;have⟨y',i,h⟩:=B6 h;refine⟨_,h,zK λH w S vs hl=> ?_⟩;have h1:(fV (eO s.rep) y<|ev H x).p S w:=zj c (yO hl<|by simp[xaC]);rw[i]at h1;have e:=zge h1;have⟨b,o,cs,j,_⟩:=e;exact⟨_,f w j,zA<|zge h1⟩;cases h
def zkS(q:y6 P cf.tt){i:K}{k:N (K×Dv)->V R}(h:TD cf cx σ t x i k=Z r):∃l,k l=Z r/\ES P ⟨d,.fieldAddr t x i,ty,wl,wn,g⟩ cx σ F l:=by
 have v:∀{vs H S w},(∀A∈yS (.fieldAddr t x i),Lk P vs H S w cx σ A)->Xt P vs H S w cx σ x:=λhl=>yO hl (by simp[xaC]);unfold TD at h;split at h;rename_i e n B s y ht hc;have⟨a,h⟩:=yv h;subst a;split at h;rename_i f c;exact⟨_,h,Zi λH w S vs D hl=>⟨_,_,_,_,[fP s.rep y<|ev H x],[],zgH (e:=s.rep) (z:=y) (SO q ht c) O (UD c y)<|λS w h=>h.1,ul,⟨zj hc<|v hl,ul⟩,λu w' _ c=>zA c.1⟩⟩;cases h
 rename_i e n B o s ht hc;split at h;rename_i a f _ c;have⟨a⟩:=a;subst a;refine⟨_,h,zK λH w S vs hl=> ?_⟩;have⟨h1,b,p⟩:=zj hc<|v hl;exact⟨_,r9 (SO q ht c) (h1.trans p) w,zA ⟨UD c,b,p,O⟩⟩;cases h
 rename_i e n B o s g ht hc;split at h;rename_i a f _ c;have⟨a⟩:=a;subst a;refine⟨_,h,zK λH w S vs hl=> ?_⟩;have⟨h0,b,h1,p⟩:=zj hc<|v hl;exact⟨_,r9 (SO q ht c) p w,zA ⟨zb0 h0<|UD c,b,h1,by simp only[Fl.comp,xcQ]⟩⟩;cases h
 rename_i e n B o s j g ht hc;split at h;rename_i a f _ c;have⟨a⟩:=a;subst a;refine⟨_,h,zK λH w S vs hl=> ?_⟩;have⟨h0,b,m,cap,h1,p,C⟩:=zj hc<|v hl;exact⟨_,r9 (SO q ht c) C w,zA ⟨zb0 h0<|UD c,b,m,cap,h1,p,by simp only[Fl.comp,xcQ]⟩⟩;cases h
 cases h
def zoJ(U:y6 P cf.tt){k:N (K×Dv)->V R}(h:zi8 cf cx σ t x k=Z r):∃l,k l=Z r/\ES P ⟨d,.load t x,ty,wl,wn,g⟩ cx σ F l:=by
 have C:∀{vs H S w},(∀Y∈yS (.load t x),Lk P vs H S w cx σ Y)->Xt P vs H S w cx σ x:=λhl=>yO hl (by simp[xaC]);unfold zi8 at h;split at h;rename_i v hj;have⟨Q,hd,_⟩:=Xj U hj;unfold zms at h;split at h;rename_i s y hc;have⟨a,h⟩:=yv h;simp only at a;subst a;exact⟨_,h,Zi λH w S vs n hl=>⟨_,_,_,_,[fP v.ty.rep y<|ev H x],[],zjQ (e:=v.ty.rep) (y:=y) O hd<|λS w h=>h.1,ul,⟨zj hc<|C hl,ul⟩,λu w' _ i=>zA i.1⟩⟩;rename_i o s hc;split at h;rename_i D E z A;have⟨a,h⟩:=yv h;simp only at a;subst a;refine⟨_,h,Zi λH w S vs n hl=> ?_⟩;have⟨h1,b,G⟩:=zj hc<|C hl;have⟨J,q,L⟩:(mP v.ty.rep.c E (vs o) z).p S w:=Ys n A;exact⟨_,_,_,_,[],[mB v.ty.rep.c E J z],V8 (z':=z) 0 O (h1.trans q) (Sub.self v.ty.rep z) hd,⟨L,ul⟩,ul,λu w' _ i=>zA i.1⟩;cases h
 rename_i o s f hc;split at h;rename_i D E z A;have⟨M,h⟩:=yv h;subst M;have⟨a,h⟩:=yv h;simp only at a;have⟨off,ff,get,set⟩:=f;simp only at a;subst a;refine⟨_,h,Zi λH w S vs n hl=> ?_⟩;have⟨h0,b,h1,G⟩:=zj hc<|C hl;have⟨J,q,L⟩:(mP D.rep.c E (vs o) z).p S w:=Ys n A;rw[h1]at q;cases q;exact⟨_,_,_,_,[],[mB D.rep.c E b z],V8 (z':=get z) 0 O G (by rw[xaM];exact h0 z) hd,⟨L,ul⟩,ul,λu w' _ i=>zA i.1⟩
 cases h
 rename_i o s j f hc;split at h;rename_i D E xs A;have⟨M,h⟩:=yv h;cases M;have⟨y,hy,h⟩:=wX h;have⟨a,h⟩:=yv h;simp only at a;have⟨off,ff,get,set⟩:=f;simp only at a;subst a;refine⟨_,h,Zi λH w S vs n hl=> ?_⟩;have⟨h0,b,m,cap,h1,G,q⟩:=zj hc<|C hl;have T:(mO s.rep E (vs o) xs).p S w:=Ys n A;have hg:0<X xs:=by
  have⟨cs,h5,h6⟩:=T;rcases h5.2 with⟨hv,h7⟩|⟨g',B,a0,hv,_⟩
  rw[h1]at hv;cases hv
  rw[h1]at hv;cases hv;lia
 have⟨J,B,hv,hb⟩:=aV T hg;rw[h1]at hv;cases hv;have hi:=(Sub.rowT0 s.rep cap xs j (xs.getD j s.z)<|getD_some s.z G).comp<|h0<|xs.getD j s.z;subst hy;exact⟨_,_,_,_,[],[mB (rowT s.rep cap) E b xs],V8 0 O q hi hd,⟨hb,ul⟩,ul,λu w' _ i=>zA i.1⟩
 cases h
 cases h
 cases h
def zmI{α:Type}(xs:N α):xs=(xs.drop 0).take (X xs-0):=m7
def zmm{α:Type}(xs:N α)(l:K):xs.drop l=(xs.drop l).take (X xs-l):=(xaY m7).symm
def zfy{i off n:K}{agg:uS}{cs:Z5 jp}{v:jp}(h:zhE P t i=Z (off,agg,n))(b:ev H x=.agg cs)(hv:(if agg=qR then Value.agg (cs.extract off<|off+n)else cs.getD off XS)=v)(hd:agg=I->off<cs.size)(w:jP):
 (uT (ev H) ⟨d,.field t x i,ty,wl,wn,g⟩).run P w=.ok (.value v) w:=by
 unfold zhE at h;split at h;rename_i fs c;split at h;rename_i f e;split at h;rename_i ag n' j z hc;simp only[xav,xcR]at h;have⟨h1,k,l⟩:=h;subst h1;subst k;subst l;have a:=JN.of hc;have hp:(part f.type cs f.offset).run P w=.ok v w:=by
  unfold part;simp only[xay,IG a,xaq]
  cases ag with
  |true=>
   simp only[Xs,xay,wE a,xaq,xaX];simp_all
  |false=>
   simp_all
 simp only[uT,b,Instr.field,asAgg,xay,Z3 c,xaq,e,xaX,hp];cases h
 cases h
 cases h
def zmT{s:ut}{q:Ty}{n B i:K}{f:Fl q.D}(a:y6 P cf.tt)(h:YF cf s=Z ⟨q,.st n,B⟩)(b:xu n q i=Z f):zhE P s i=Z (f.off,f.f.rep.agg,f.f.n):=(a _ _ h).2.2.2.2.2.2 i f b
def zgs(j:y6 P cf.tt){i:K}{k:N (K×Dv)->V R}(h:MX cf cx σ t x i k=Z r):∃l,k l=Z r/\ES P ⟨d,.field t x i,ty,wl,wn,g⟩ cx σ F l:=by
 have u:∀{vs H S w},(∀v∈yS (.field t x i),Lk P vs H S w cx σ v)->Xt P vs H S w cx σ x:=λhl=>yO hl (by simp[xaC]);unfold MX at h;split at h;rename_i e n B s y ht hi;have⟨z,h⟩:=yv h;subst z;split at h;rename_i f m;refine⟨_,h,zK λH w S vs hl=> ?_⟩;have⟨cs,hv,hp⟩:=zj hi<|u hl;have A:s.rep.agg=qR:=(j _ _ ht).2.2.2.1;have⟨C,c,o,p,h1,q,_⟩:=UD m y S w cs hp;have hc:=f.f.rep.len q;rw[Ty.n_rep]at hc;have hv:ev H x=.agg cs.toArray:=by rw[hv];unfold zZ.val;rw[A];rfl
 refine⟨f.f.rep.val c,zfy (zmT j ht m) hv ?_ ?_ w,zA ⟨c,O,q⟩⟩;unfold zZ.val
 cases hd:f.f.rep.agg with
 |true=>
  simp_all
 |false=>
  simp only[xam,Z9];have b:=f.f.rep.n1 hd;rw[Ty.n_rep]at b;obtain⟨a,rfl⟩:∃a,c=[a]:=by
   match c,hc.trans b with
   |[a],_=>exact⟨a,O⟩
  rw[p,<-h1];simp[Array.getD]
 intro hd;have b:=f.f.rep.n1 hd;rw[Ty.n_rep]at b;rw[p];simp;lia;cases h
 cases h
def gk{α:Type}{e:zZ α}{E:ut}{v:jp}{xs:N α}{S:K->Prop}{w:jP}(h:(mO e E v xs).p S w):(v=.slice wW 0 0/\xs=[])\/∃b cap,v=.slice (Z ⟨b,0,wW⟩) (X xs) cap/\X xs<=cap/\cap<=9223372036854775807:=by
 have⟨cs,h1,f⟩:=h;rcases h1.2 with⟨rfl,h0⟩|⟨g,cap,a,rfl,hd,i,c,hc,j,k⟩
 simp_all;exact .inr ⟨g,cap,O,c,hc⟩
def LU{α:Type}{e:zZ α}{E:ut}{v:jp}{xs:N α}{S:K->Prop}{w:jP}(h:(mO e E v xs).p S w){b m cap l n c:K}(hv:v=.slice (Z ⟨b,0,wW⟩) m cap)(hl:l+n<=m)(hi:n<=c)(hc:c<=9223372036854775807):
 SlQ e S ((xs.drop l).take n) (.slice (Z ⟨b,0+l*e.n,wW⟩) n c) w:=by
 have⟨cs,h1,f⟩:=h;rcases h1.2 with⟨h0,_⟩|⟨g,a,i,h0,q,j,s,u,z,k⟩
 simp_all;rw[hv]at h0;cases h0;have hd:X ((xs.drop l).take n)=n:=by simp;lia
 refine⟨Z ⟨b,0+l*e.n,wW⟩,c,by rw[hd],W,by unfold JP;lia,.inr ⟨b,0+l*e.n,(cs.drop<|l*e.n).take<|n*e.n,O,?_,(f.drop l).take n⟩⟩;have o:=At.row j;have:=o.take<|X xs*e.n;rw[k]at this;exact(this.drop<|l*e.n).take<|n*e.n
def C7{t:ut}{c:ut}{ag:uS}{e bytes:K}{a:jp}{b o n cap l h:K}{lo hi:V jp}{w:jP}(ht:P.underlying t=Z (.slice c))(f:JN P c ag e bytes a)
 (hl:lo=Z (.int .i64 (l:J))\/(lo=wW/\l=0)) (i:hi=Z (.int .i64 (h:J))\/(hi=wW/\h=n)) (hc:l<=h) (hd:h<=cap):
 (xcZ t (.slice (Z ⟨b,o,wW⟩) n cap) lo hi wW).run P w=.ok (.slice (if cap=l then Z ⟨b,o,wW⟩else(Z (⟨b,o,wW⟩:aC)).map (·.add (l*e))) (h-l)<|cap-l) w:=by
 have b1:(0:J)<=(l:J)/\(l:J)<=(h:J):=W
 have b2:(0:J)<=(h:J)/\(h:J)<=(cap:J):=W
 unfold xcZ;unfold xfS;simp only[xay,Z3 ht,xaq];unfold xeA
 obtain rfl|⟨rfl,rfl⟩:=hl<;>obtain rfl|⟨rfl,rfl⟩:=i<;>
  simp only[xeL,UL,xay,xaX,xaq,E b1,E b2,wE f,xbb]
def Ni{t:ut}{b:ut}{ag:uS}{c bytes:K}{a:jp}{lo hi:V jp}{w:jP}(ht:P.underlying t=Z (.slice b))(e:JN P b ag c bytes a)
 (hl:lo=Z (.int .i64 ((0:K):J))\/lo=wW) (f:hi=Z (.int .i64 ((0:K):J))\/hi=wW):
 (xcZ t (.slice wW 0 0) lo hi wW).run P w=.ok (.slice wW 0 0) w:=by
 unfold xcZ;unfold xfS;simp only[xay,Z3 ht,xaq];unfold xeA
 obtain rfl|rfl:=hl<;>obtain rfl|rfl:=f<;>
  simp[xeL,UL,wE e]
def Mx{m:K}{lo hi:V K}{k:K->K->V R}(h:zlp m lo hi k=Z r):∃l a,l<=a/\a<=m/\k l (a-l)=Z r/\(lo=Z l\/(lo=wW/\l=0))/\(hi=Z a\/(hi=wW/\a=m)):=by
 unfold zlp at h;split at h
 next a=>have⟨h1,b⟩:=Ya h;exact⟨0,a,xah _,h1,b,.inr ⟨O,O⟩,.inl O⟩
 next l=>have⟨h1,b⟩:=Ya h;exact⟨l,m,h1,Nm _,b,.inl O,.inr ⟨O,O⟩⟩
 next l a=>have⟨h1,b⟩:=Ya h;exact⟨l,a,h1.1,h1.2,b,.inl O,.inl O⟩
 exact⟨0,m,xah _,Nm _,h,.inr ⟨O,O⟩,.inr ⟨O,O⟩⟩
def TB{t:ut}{s:WW}{l h:K}{lo hi:V jp}{w:jP}(ht:P.underlying t=Z .string)
 (hl:lo=Z (.int .i64 (l:J))\/(lo=wW/\l=0)) (a:hi=Z (.int .i64 (h:J))\/(hi=wW/\h=s.size)) (b:l<=h) (hc:h<=s.size):
 (xcZ t (.string s) lo hi wW).run P w=.ok (.string<|s.extract l h) w:=by
 have b1:(0:J)<=(l:J)/\(l:J)<=(h:J):=W
 have b2:(0:J)<=(h:J)/\(h:J)<=(s.size:J):=W
 unfold xcZ;unfold xfS;simp only[xay,Z3 ht,xaq];unfold xeA
 obtain rfl|⟨rfl,rfl⟩:=hl<;>obtain rfl|⟨rfl,rfl⟩:=a<;>
  simp[xeL,UL,b,hc]
def DE(s:WW)(l h:K):xW (s.extract l h)=((xW s).drop l).take (h-l):=by simp_all [xW]
def zkc(U:y6 P cf.tt)(hL:ua P cf.tt){lo hi:V uL}{k:N (K×Dv)->V R}(h:TZ cf cx σ t x lo hi k=Z r):∃l,k l=Z r/\ES P ⟨d,.slice t x lo hi wW,ty,wl,wn,g⟩ cx σ F l:=by
 have hx:∀{vs H S w},(∀G∈yS (.slice t x lo hi wW),Lk P vs H S w cx σ G)->Xt P vs H S w cx σ x:=λhl=>yO hl (by simp[xaC]);have hd:∀{vs H S w z},lo=Z z->(∀G∈yS (.slice t x lo hi wW),Lk P vs H S w cx σ G)->Xt P vs H S w cx σ z:=λe hl=>yO hl (by simp[xaC,e]);have Y:∀{vs H S w z},hi=Z z->(∀G∈yS (.slice t x lo hi wW),Lk P vs H S w cx σ G)->Xt P vs H S w cx σ z:=λe hl=>yO hl (by simp[xaC,e]);unfold TZ at h;split at h;rename_i e E B s xs ht hg;have⟨hn,h⟩:=yv h;cases hn;have⟨bytes,a0,hm⟩:=Uw U hL ht
 have A:∀{l m:K}{zs:N e.D},l<=m->m<=xaK xs->zs=(xdT l xs).take (m-l)->(∀vs H S w,(∀G∈yS (.slice t x lo hi wW),Lk P vs H S w cx σ G)->((lo.map<|ev H)=Z (.int .i64 (l:J))\/(lo=wW/\l=0))/\((hi.map<|ev H)=Z (.int .i64 (m:J))\/(hi=wW/\m=xaK xs)))->
  k [(0,.d (.l e) zs)]=Z r->∃l,k l=Z r/\ES P ⟨d,.slice t x lo hi wW,ty,wl,wn,g⟩ cx σ F l:=by
  intro l m zs h1 a i j C;subst i;refine⟨_,C,Zi λH w S vs hM hl=> ?_⟩;have⟨h6,T⟩:=j vs H S w hl;exact⟨_,_,_,_,[fV (eS e.rep) xs<|ev H x],[],Ry (e:=e.rep) (xs:=xs) (l:=l) (h:=m) O (qY U ht) hm h6 T h1 a<|λS w h=>h.1,ul,⟨zj hg<|hx hl,ul⟩,λu w' _ hf=>zA hf.1⟩
 rcases aU h with⟨e1,h1⟩|⟨zl,l,e1,h1,hc⟩
 rcases aU h1 with⟨f,a⟩|⟨zh,m,f,a,L⟩
 exact A (l:=0) (m:=xaK xs) (xah _) (Nm _) (zmI (α:=e.D) xs) (λvs H S w hl=>⟨.inr ⟨e1,O⟩,.inr ⟨f,O⟩⟩) a;have⟨i,j⟩:=Ya a;have⟨zs,M,C⟩:=wX j;exact A (l:=0) (m:=m) (xah _) i M (λvs H S w hl=>⟨.inr ⟨e1,O⟩,.inl<|by rw[f];exact Z4 Z<|L P vs H S w<|Y f hl⟩) C;rcases aU h1 with⟨f,a⟩|⟨zh,m,f,a,L⟩
 have⟨i,j⟩:=Ya a;have⟨zs,M,C⟩:=wX j;exact A (l:=l) (m:=xaK xs) i (Nm _) (M.trans<|zmm (α:=e.D) xs l) (λvs H S w hl=>⟨.inl (by rw[e1];exact Z4 Z<|hc P vs H S w<|hd e1 hl),.inr ⟨f,O⟩⟩) C;have⟨i,j⟩:=Ya a;have⟨zs,M,C⟩:=wX j;exact A (l:=l) (m:=m) i.1 i.2 M (λvs H S w hl=>⟨.inl (by rw[e1];exact Z4 Z<|hc P vs H S w<|hd e1 hl),.inl<|by rw[f];exact Z4 Z<|L P vs H S w<|Y f hl⟩) C;rename_i e E B o ht hg;split at h;rename_i s E' xs ho;have⟨hn,h⟩:=yv h;cases hn;have⟨bytes,a0,hm⟩:=Uw U hL ht
 have Q:∀(l m:K),l<=m->m<=xaK xs->k [(0,.sv o e l<|m-l)]=Z r->(∀vs H S w,(∀G∈yS (.slice t x lo hi wW),Lk P vs H S w cx σ G)->((lo.map<|ev H)=Z (.int .i64 (l:J))\/(lo=wW/\l=0))/\((hi.map<|ev H)=Z (.int .i64 (m:J))\/(hi=wW/\m=xaK xs)))->
  ∃l,k l=Z r/\ES P ⟨d,.slice t x lo hi wW,ty,wl,wn,g⟩ cx σ F l:=by
  intro l m h1 a C j;refine⟨_,C,λH w S vs hS hM hl=> ?_⟩;have⟨h6,T⟩:=j vs H S w hl;have hp:ev H x=vs o:=zj hg<|hx hl;rcases gk (show(mO e.rep E' (vs o) xs).p S w from Ys hM ho)with⟨hv,hj⟩|⟨b,cap,hv,hu,hy⟩
  refine(Ry (e:=e.rep) (xs:=([]:N e.D)) (l:=l) (h:=m) O (qY U ht) hm h6 (by rw[hj]at T;exact T) h1 (by rw[hj]at a;exact a) (Γ:=[fV (eS e.rep) ([]:N e.D)<|ev H x]) (λS w h=>h.1) (ms:=[]) w S hS ul ⟨?_,ul⟩).mono ?_;rw[hp,hv];exact wi.2 ⟨wW,0,O,Nm _,xah _,.inl O⟩;rintro v w' ⟨u,rfl,_,hw,hf⟩;refine⟨hw,zA (.inr ?_)⟩;have hA:m=0:=by rw[hj]at a;exact Nat.le_zero.1 a
  have⟨ao,c,q1,q2,q3,_⟩:=wi.1 hf.1;refine⟨W,ao,c,by unfold JP at q3;lia,?_⟩;rw[q1];simp;have hr:=C7 (P:=P) (b:=b) (o:=0) (n:=xaK xs) (cap:=cap) (w:=w) (l:=l) (h:=m) (qY U ht) hm (h6.imp id λq=>⟨by rw[q.1];rfl,q.2⟩) (T.imp id λq=>⟨by rw[q.1];rfl,q.2⟩) h1<|xao a hu;rw[<-hv,<-hp]at hr;refine uF.of_value (v:=.slice (if cap=l then Z ⟨b,0,wW⟩else Z ((⟨b,0,wW⟩:aC).add<|l*e.rep.n)) (m-l)<|cap-l) (w':=w) (by simp[uT,hr]) ⟨yL.refl _ _,zA ?_⟩;by_cases hq:cap=l;rw[iq hq];refine .inr ⟨W,Z ⟨b,0,wW⟩,cap-l,W,?_⟩;rw[(W:m-l=0)];rw[ir hq];exact .inl ⟨b,xaK xs,cap,cap-l,hv,W,W,W,by rw[jy]⟩
 rcases aU h with⟨e1,h1⟩|⟨zl,l,e1,h1,hc⟩
 rcases aU h1 with⟨f,a⟩|⟨zh,m,f,a,L⟩
 exact Q 0 (xaK xs) (xah _) (Nm _) a<|λvs H S w hl=>⟨.inr ⟨e1,O⟩,.inr ⟨f,O⟩⟩;have⟨i,j⟩:=Ya a;exact Q 0 m (xah _) i j<|λvs H S w hl=>⟨.inr ⟨e1,O⟩,.inl<|by rw[f];exact Z4 Z<|L P vs H S w<|Y f hl⟩;rcases aU h1 with⟨f,a⟩|⟨zh,m,f,a,L⟩
 have⟨i,j⟩:=Ya a;exact Q l (xaK xs) i (Nm _) j<|λvs H S w hl=>⟨.inl (by rw[e1];exact Z4 Z<|hc P vs H S w<|hd e1 hl),.inr ⟨f,O⟩⟩;have⟨i,j⟩:=Ya a;exact Q l m i.1 i.2 j<|λvs H S w hl=>⟨.inl (by rw[e1];exact Z4 Z<|hc P vs H S w<|hd e1 hl),.inl<|by rw[f];exact Z4 Z<|L P vs H S w<|Y f hl⟩;cases h
 rename_i q B xs ht hg
 have A:∀{l m:K}{zs:N K},l<=m->m<=xaK xs->zs=(xdT l xs).take (m-l)->(∀vs H S w,(∀G∈yS (.slice t x lo hi wW),Lk P vs H S w cx σ G)->((lo.map<|ev H)=Z (.int .i64 (l:J))\/(lo=wW/\l=0))/\((hi.map<|ev H)=Z (.int .i64 (m:J))\/(hi=wW/\m=xaK xs)))->
  k [(0,.d .tx zs)]=Z r->∃l,k l=Z r/\ES P ⟨d,.slice t x lo hi wW,ty,wl,wn,g⟩ cx σ F l:=by
  intro l m zs h1 a i j C;refine⟨_,C,zK λH w S vs hl=> ?_⟩;have⟨h6,T⟩:=j vs H S w hl;have⟨s,e1,f,e3⟩:=zby<|zj hg<|hx hl;have hk:X (xW s)=s.size:=um s;rw[f]at hk;have hr:=TB (P:=P) (s:=s) (l:=l) (h:=m) (w:=w) (Nx U ht) (h6.imp id λq=>⟨by rw[q.1];rfl,q.2⟩) (T.imp id λq=>⟨by rw[q.1];rfl,by rw[q.2];exact hk⟩) h1 (by rw[<-hk];exact a);rw[<-e1]at hr;refine⟨.string<|s.extract l m,by simp[uT,hr],zA<|zcL (by rw[DE,f,i]) ?_⟩;rw[<-um,DE,f];have a:m<=xaK (α:=K) xs:=a;rw[xan];lia
 rcases aU h with⟨e1,h1⟩|⟨zl,l,e1,h1,hc⟩
 rcases aU h1 with⟨f,a⟩|⟨zh,m,f,a,L⟩
 exact A (l:=0) (m:=xaK (α:=K) xs) (xah _) (Nm _) (zmI (α:=K) xs) (λvs H S w hl=>⟨.inr ⟨e1,O⟩,.inr ⟨f,O⟩⟩) a;have⟨i,j⟩:=Ya a;have⟨zs,M,C⟩:=wX j;exact A (l:=0) (m:=m) (xah _) i M (λvs H S w hl=>⟨.inr ⟨e1,O⟩,.inl<|by rw[f];exact Z4 Z<|L P vs H S w<|Y f hl⟩) C;rcases aU h1 with⟨f,a⟩|⟨zh,m,f,a,L⟩
 have⟨i,j⟩:=Ya a;have⟨zs,M,C⟩:=wX j;exact A (l:=l) (m:=xaK (α:=K) xs) i (Nm _) (M.trans<|zmm (α:=K) xs l) (λvs H S w hl=>⟨.inl (by rw[e1];exact Z4 Z<|hc P vs H S w<|hd e1 hl),.inr ⟨f,O⟩⟩) C;have⟨i,j⟩:=Ya a;have⟨zs,M,C⟩:=wX j;exact A (l:=l) (m:=m) i.1 i.2 M (λvs H S w hl=>⟨.inl (by rw[e1];exact Z4 Z<|hc P vs H S w<|hd e1 hl),.inl<|by rw[f];exact Z4 Z<|L P vs H S w<|Y f hl⟩) C;cases h
def zrz(f:y6 P cf.tt){k:N (K×Dv)->V R}(h:znc cf cx σ t x y k=Z r):∃l,k l=Z r/\ES P ⟨d,.index t x y,ty,wl,wn,g⟩ cx σ F l:=by
 have i:∀{vs H S w},(∀a∈yS (.index t x y),Lk P vs H S w cx σ a)->Xt P vs H S w cx σ x:=λhl=>yO hl (by simp[xaC]);have m:∀{vs H S w},(∀a∈yS (.index t x y),Lk P vs H S w cx σ a)->Xt P vs H S w cx σ y:=λhl=>yO hl (by simp[xaC]);unfold znc at h;split at h;rename_i q B xs ht n;have⟨j,o,h,hi⟩:=Rf h;have⟨z,p,h⟩:=wX h;refine⟨_,h,zK λH w S vs hl=> ?_⟩;have⟨s,e1,c,_⟩:=zby<|zj n<|i hl;have⟨ik,u⟩:=hi P vs H S w<|m hl;have e:X (xW s)=s.size:=um s;have hc:j<s.size:=by rw[<-e,c];exact o
 have hd:z=(s[j]'hc).toNat:=by rw[p,<-c];unfold xW;rw[UV,xco,xaa<|by rw[<-e]at hc;simpa[xW]using hc];rfl
 have b:=run_index_string (P:=P) w t s ik (j:J)<|Nx f ht;rw[dif_pos ⟨W,W⟩]at b;refine⟨.int .u8 (z:J),?_,zA<|La<|by rw[hd];exact UInt8.toNat_lt _⟩;simp only[xbb]at b;rw[hd];simp[uT,e1,u,b];cases h
def zqT{E:ut}{k:N (K×Dv)->V R}(h:zoq cf cx σ E x k=Z r):∃l,k l=Z r/\ES P ⟨d,.box E x,ty,wl,wn,g⟩ cx σ F l:=by unfold zoq at h;split at h;rename_i a e;have⟨y,h,b⟩:=Qg h;exact⟨_,h,Zi λH w S vs f hl=>⟨_,_,_,_,[fV a.ty.rep y<|ev H x],[],zm5 O<|λS w h=>h.1,ul,⟨b P vs H S w (yO hl<|by simp[xaC]),ul⟩,λu w' _ c=>zA c.1⟩⟩;cases h
def zrA(j:y6 P cf.tt){a:Z5 uL}{ts:Z5 ut}{k:N (K×Dv)->V R}(h:zo5 cf cx σ a.toList ts.toList k=Z r):
 ∃l,k l=Z r/\ES P ⟨d,.call ⟨.builtin .len,a,ts⟩,ty,wl,wn,g⟩ cx σ F l:=by
 unfold zo5 at h;split at h;rename_i _ _ x t hd C;obtain rfl:a= #[x]:=by cases a;simp_all
 obtain rfl:ts= #[t]:=by cases ts;simp_all
 have f:∀{vs H S w},(∀n∈yS (.call ⟨.builtin .len,#[x],#[t]⟩),Lk P vs H S w cx σ n)->Xt P vs H S w cx σ x:=λhl=>yO hl (by simp[xaC,xeJ]);split at h;rename_i e E B ht;have c:=qY j ht;split at h
 next b=>exact⟨_,h,zK λH w S vs hl=>⟨_,Rh c (zj b<|f hl) w,zA<|ve m6⟩⟩
 rename_i s xs b;exact⟨_,h,Zi λH w S vs m hl=>⟨_,_,_,_,[fV (eS s.rep) xs<|ev H x],[],znC (e:=s.rep) (xs:=xs) c O<|λS w h=>h.1,ul,⟨zj b<|f hl,ul⟩,λu w' i p=>zA<|ve<|RJ i⟩⟩;rename_i o b;split at h;rename_i s v xs z;exact⟨_,h,Zi λH w S vs m hl=>⟨_,_,_,_,[],[mO s.rep v (vs o) xs],LA 0 O c<|zj b<|f hl,⟨Ys m z,ul⟩,ul,λu w' i p=>zA<|ve<|RJ i⟩⟩;cases h
 cases h
 rename_i q B ht;have c:=Nx j ht;split at h;rename_i xs b;refine⟨_,h,zK λH w S vs hl=> ?_⟩;have⟨s,e1,A,D⟩:=zby<|zj b<|f hl;have hc:X (xW s)=s.size:=um s;rw[A]at hc;have hc:xaK (α:=K) xs=s.size:=hc;refine⟨.int .i64 ((xaK (α:=K) xs:K):J),?_,zA<|ve W⟩;rw[hc];simp[uT,WR,V3,am,e1,Builtin.len_,pU,Z3 c];cases h
 cases h
 cases h
def zq0{b:uS}{e:Z5 uL}{ts:Z5 ut}{k:N (K×Dv)->V R}(h:eMM cx b σ e.toList k=Z r):
 ∃l,k l=Z r/\ES P ⟨d,.call ⟨.builtin (if b=qR then .max else .min),e,ts⟩,ty,wl,wn,g⟩ cx σ F l:=by
 unfold eMM at h;split at h;rename_i _ x y hd;obtain rfl:e= #[x,y]:=by cases e;simp_all
 have i:∀{bl vs H S w},(∀n∈yS (.call ⟨.builtin bl,#[x,y],ts⟩),Lk P vs H S w cx σ n)->Xt P vs H S w cx σ x:=λhl=>yO hl (by simp[xaC,xeJ]);have j:∀{bl vs H S w},(∀n∈yS (.call ⟨.builtin bl,#[x,y],ts⟩),Lk P vs H S w cx σ n)->Xt P vs H S w cx σ y:=λhl=>yO hl (by simp[xaC,xeJ]);split at h;rename_i a c m hc;cases b
 have h:B (min (α:=J) a c) (λz=>k [(0,zmS z)])=Z r:=h;have⟨z,f,h⟩:=wX h;exact⟨_,h,zK λH w S vs hl=>⟨_,v_i (zqO (vg m<|i hl).1 (vg hc<|j hl).1) f w,zA<|ve<|zgz f<|zrP (vg m<|i hl).2 (vg hc<|j hl).2⟩⟩;have h:B (max (α:=J) a c) (λz=>k [(0,zmS z)])=Z r:=h;have⟨z,f,h⟩:=wX h;exact⟨_,h,zK λH w S vs hl=>⟨_,v_i (zqf (vg m<|i hl).1 (vg hc<|j hl).1) f w,zA<|ve<|zgz f<|zqq (vg m<|i hl).2 (vg hc<|j hl).2⟩⟩;cases h
 cases h
def PH(S:K->Prop)(w:jP):(ts:N Ty)->ou ts->N (K×jp)->Prop
 |[],_,[]=>Ws
 |t::ts,y,(_,v)::r=>(fV t.rep y.1 v).p S w/\PH S w ts y.2 r
 |_,_,_=>UT
def PH.keep{S:K->Prop}{w w':jP}(k:yL S w w'):∀{ts:N Ty}{ys:ou ts}{ps:N (K×jp)},PH S w ts ys ps->PH S w' ts ys ps
 |[],_,[],h=>trivial
 |t::_,y,(_,v)::_,h=>⟨(fV t.rep y.1 v).keep h.1 k,PH.keep k h.2⟩
 |[],_,_::_,h=>h.elim
 |_::_,_,[],h=>h.elim
def PH.sub{S a:K->Prop}{w:jP}(k:∀k,k<w.heap.size->S k->a k):∀{ts:N Ty}{ys:ou ts}{ps:N (K×jp)},PH S w ts ys ps->PH a w ts ys ps
 |[],_,[],h=>trivial
 |t::_,y,(_,v)::_,h=>⟨(fV t.rep y.1 v).sub h.1 k,PH.sub k h.2⟩
 |[],_,_::_,h=>h.elim
 |_::_,_,[],h=>h.elim
def phF(ts:N Ty)(ys:ou ts)(ps:N (K×jp)):FF:=⟨λS w=>PH S w ts ys ps,λh k=>PH.keep k h,λh k=>PH.sub k h⟩
def pY:∀{ts:N Ty}{ps:N (K×uL)}{j:K}{k:ou ts->V R},parts cx σ ts ps j k=Z r->
 ∃ys,k ys=Z r/\ps.map (·.1)=xfw j (X ps)/\∀(P:Z2) vs H S w,(∀x∈ps.map (·.2),Xt P vs H S w cx σ x)->PH S w ts ys (ps.map λq:K×uL=>(q.1,ev H q.2))
 |[],[],j,k,h=>⟨(),h,O,λ_ _ _ _ _ _=>ul⟩
 |t::ts,(i,x)::ps,j,k,h=>by
  have⟨a,h⟩:=yo h;have⟨y,h,b⟩:=Qg h;have⟨ys,h1,c,e⟩:=pY h;refine⟨(y,ys),h1,?_,λP vs H S w hl=>⟨b P vs H S w<|hl x<|IR,e P vs H S w λz f=>hl z<|FS _ f⟩⟩;simp only[xbT,xaw,List.range'_succ,c,yh a]
 |[],_::_,j,k,h=>by simp[parts]at h
 |_::_,[],j,k,h=>by simp[parts]at h
def zmv{i:K}{v:jp}:jS [(i,v)]=v.cells.toList:=by simp[jS]
def zsH{k:K}{s t:Ty}:xu (k+2) (.p s t) 0=Z ⟨0,s,λz=>z.1,λy z=>(y,z.2)⟩:=O
def zsB{k:K}{s t:Ty}{i:K}{f:Fl t.D}(h:xu (k+1) t i=Z f):xu (k+2) (.p s t) (i+1)=Z ⟨s.n+f.off,f.f,λz=>f.get z.2,λy z=>(z.1,f.set y z.2)⟩:=by simp only[xu,h]
def zg2{pl:Z5 (K×K)}:∀{k:K}{t:Ty}{o j:K}{ys:ou (zee k t)}{ps:N (K×jp)}{z:t.D},(∀i f,xu k t i=Z f->pl[j+i]? =Z (o+f.off,f.f.n))->
 ps.map (·.1)=xfw j (X ps)->PH S w (zee k t) ys ps->dP k t ys=Z z->cn (pl[·]?) ps o/\t.rep.p S z (jS ps) w
 |0,_,_,_,_,_,_,_,_,_,h=>by simp[dP]at h
 |1,t,o,j,ys,[],z,hp,hi,h,c=>h.elim
 |1,t,o,j,ys,[(i,v)],z,hp,hi,h,c=>by
  simp only[dP,xav]at c;subst c;have q:i=j:=by simpa using hi
  subst q;have h0:=hp 0 (Fl.self t) O;have e:=zbT h.1;rw[t.n_rep]at e;refine⟨⟨?_,ul⟩,by rw[zmv];exact YB h.1⟩;show pl[i]? =_;rw[e];simpa[Fl.self]using h0
 |1,t,o,j,ys,_::_::_,z,hp,hi,h,c=>h.2.elim
 |k+2,.p s t,o,j,ys,[],z,hp,hi,h,c=>h.elim
 |k+2,.p s t,o,j,ys,(i,v)::ps,z,hp,hi,h,c=>by
  unfold dP at c;split at c;rename_i y A
  obtain rfl:=xfT c;simp only[xbT,xaw,List.range'_succ,xec]at hi;obtain⟨rfl,hi⟩:=hi;have h0:=hp 0 _ zsH;have e:=zbT h.1;rw[s.n_rep]at e;have⟨h1,B⟩:=zg2 (o:=o+s.n) (j:=i+1) (pl:=pl) (λm f C=>by
   have:=hp (m+1) _<|zsB C;rw[(W:i+1+m=i+(m+1)),this];simp only[xcQ]) hi h.2 A
  refine⟨⟨?_,by rw[e];exact h1⟩,?_⟩;show pl[i]? =_;rw[e];simpa using h0;rw[zd5];exact⟨_,_,O,YB h.1,B⟩;cases c
 |k+2,.i,_,_,_,_,_,_,_,_,h=>by simp[dP]at h
 |k+2,.u,_,_,_,_,_,_,_,_,h=>by simp[dP]at h
 |k+2,.b,_,_,_,_,_,_,_,_,h=>by simp[dP]at h
 |k+2,.l _,_,_,_,_,_,_,_,_,h=>by simp[dP]at h
 |k+2,.a _ _,_,_,_,_,_,_,_,_,h=>by simp[dP]at h
def HB(S:K->Prop)(w:jP)(n:K)(t:Ty):N (K×jp)->t.D->t.D->Prop
 |[],z,z'=>z=z'
 |(i,v)::r,z,z'=>∃(f:Fl t.D) (y:f.f.D),xu n t i=Z f/\(fV f.f.rep y v).p S w/\HB S w n t r (f.set y z) z'
def HB.keep{S:K->Prop}{w w':jP}(k:yL S w w'){n:K}{t:Ty}:∀{vs:N (K×jp)}{z z':t.D},HB S w n t vs z z'->HB S w' n t vs z z'
 |[],_,_,h=>h
 |_::_,_,_,⟨f,y,h1,a,b⟩=>⟨f,y,h1,(fV f.f.rep y _).keep a k,HB.keep k b⟩
def HB.sub{S a:K->Prop}{w:jP}(k:∀k,k<w.heap.size->S k->a k){n:K}{t:Ty}:∀{vs:N (K×jp)}{z z':t.D},HB S w n t vs z z'->HB a w n t vs z z'
 |[],_,_,h=>h
 |_::_,_,_,⟨f,y,h1,b,c⟩=>⟨f,y,h1,(fV f.f.rep y _).sub b k,HB.sub k c⟩
def hbF(n:K)(t:Ty)(vs:N (K×jp))(z z':t.D):FF:=⟨λS w=>HB S w n t vs z z',λh k=>HB.keep k h,λh k=>HB.sub k h⟩
def HB.fill{S:K->Prop}{w:jP}{n:K}{t:Ty}{pl:Z5 (K×K)}(hp:∀i f,xu n t i=Z f->pl[i]? =Z (f.off,f.f.n)):∀{vs:N (K×jp)}{z z':t.D}{cs:N jp},HB S w n t vs z z'->t.rep.p S z cs w->
 ∃out,xdM (pl[·]?) cs.toArray vs=Z out.toArray/\t.rep.p S z' out w/\∀j g,xu n t j=Z g->(∀p∈vs,p.1≠j)->g.f.n=1->out[g.off]? =cs[g.off]?
 |[],z,z',cs,h,hc=>⟨cs,O,h▸hc,λ_ _ _ _ _=>O⟩
 |(i,v)::r,z,z',cs,⟨f,y,h1,a,o⟩,hc=>by
  have⟨q,c,b,e1,s,e,u⟩:=UD h1 z S w cs hc;have hv:=YB a;have k:=zbT a;have⟨out,A,B,C⟩:=HB.fill hp o<|u w y v.cells.toList (yL.refl _ _) hv;refine⟨out,?_,B,λj g l m E=> ?_⟩;rw[e1,zd6 (by rw[hp i f h1,k,f.f.n_rep]) s<|by rw[f.f.rep.len e,k]];exact A;rw[C j g l (λp hp=>m p<|FS _ hp) E,e1];have⟨_,_,hd⟩:=Ea h1 l<|m (i,v)<|IR;have l1:X c=f.f.n:=by rw[f.f.rep.len e,f.f.n_rep]
  have G:X v.cells.toList=f.f.n:=by rw[f.f.rep.len hv,f.f.n_rep]
  obtain hd|hd:=hd
  rw[xas,xas,xbi W,xbi W];rw[xbz (by rw[xau];lia),xbz (by rw[xau];lia),xau,xau,l1,G]
def TP{n:K}{t:Ty}:∀{ps:N (K×uL)}{z:t.D}{k:t.D->V R},zgU cx σ n t ps z k=Z r->
 ∃z',k z'=Z r/\∀(P:Z2) vs H S w,(∀x∈ps.map (·.2),Xt P vs H S w cx σ x)->HB S w n t (ps.map λq:K×uL=>(q.1,ev H q.2)) z z'
 |[],z,k,h=>⟨z,h,λ_ _ _ _ _ _=>O⟩
 |(i,x)::ps,z,k,h=>by
  unfold zgU at h;split at h;rename_i f a;have⟨y,h,b⟩:=Qg h;have⟨z',h1,c⟩:=TP h;exact⟨z',h1,λP vs H S w hl=>⟨f,y,a,b P vs H S w<|hl x<|IR,c P vs H S w λz e=>hl z<|FS _ e⟩⟩;cases h
def iJ:∀(n:K) (t:Ty) (ys:ou (Hl n t)),X (CX n t ys)=n
 |0,_,_=>rfl
 |n+1,t,ys=>Z4 (· +1)<|iJ n t ys.2
theorem LB{t:Ty}:∀{n j:K}{ys:ou (Hl n t)}{ps:N (K×jp)},ps.map (·.1)=xfw j (X ps)->PH S w (Hl n t) ys ps->
 cn (λi=>Z (i*t.rep.n,t.rep.n)) ps (j*t.rep.n)/\yW t.rep S (CX n t ys) (jS ps) w
 |0,_,_,[],_,_=>⟨ul,O⟩
 |0,_,_,_::_,_,h=>h.elim
 |n+1,_,_,[],_,h=>h.elim
 |n+1,j,ys,(i,v)::ps,hi,h=>by
  simp only[xbT,xaw,List.range'_succ,xec]at hi;obtain⟨rfl,hi⟩:=hi;have a:=zbT h.1;have⟨h1,b⟩:=LB hi h.2;refine⟨⟨by rw[a],?_⟩,?_⟩;grind;skip;exact⟨_,_,O,YB h.1,b⟩
def zjF(c:y6 P cf.tt){ps:Z5 (K×uL)}{k:N (K×Dv)->V R}(h:zaD cf cx σ t ps.toList k=Z r):∃l,k l=Z r/\ES P ⟨d,.build t ps,ty,wl,wn,g⟩ cx σ F l:=by
 unfold zaD at h;split at h;rename_i e n B ht;have⟨m,hd,A,C⟩:=Xj c ht;have⟨p,_,⟨fs,M,pl,T,D⟩,_⟩:=(c _ _ ht).2.2.2;simp only at hd A C p D;cases hc:xde (X ps.toList) n||Q n 0<;>rw[hc]at h
 have⟨ys,h,hi,hp⟩:=pY h;split at h;rename_i z Y;refine⟨_,h,Zi λH w S vs U hl=> ?_⟩;have G:=hp P vs H S w λx s=>yO hl (by simpa[xaC]using s);have J:(ps.toList.map λq:K×uL=>(q.1,ev H q.2)).map (·.1)=xfw 0 (X (ps.toList.map λq:K×uL=>(q.1,ev H q.2))):=by rw[xdj,xaj];exact hi
 have v:=λ(S:K->Prop) (w:jP) (h:PH S w (zee n e) ys (ps.toList.map λq:K×uL=>(q.1,ev H q.2)))=>zg2 (pl:=pl) (o:=0) (j:=0) (λi f b=>by rw[xaM,xaM];exact D i f b) J h Y;exact⟨_,_,_,_,[phF _ ys (ps.toList.map λq:K×uL=>(q.1,ev H q.2))],[],Rp (e:=e.rep) (z:=z) (parts:=ps.toList) (p▸hd) p A O (.inl ⟨fs,M,pl,T,λS w h=>(v S w h.1).1⟩)<|λS w h=>(v S w h.1).2,ul,⟨G,ul⟩,λu w' _ b=>zA b.1⟩;cases h
 have⟨z,h,hH⟩:=TP h;refine⟨_,h,Zi λH w S vs U hl=> ?_⟩;have hb:=hH P vs H S w λx s=>yO hl (by simpa[xaC]using s);exact⟨_,_,_,_,[hbF n e (ps.toList.map λq:K×uL=>(q.1,ev H q.2)) e.z z],[],IU (e:=e.rep) (z0:=e.z) (z:=z) (parts:=ps.toList) (p▸hd) p C ⟨fs,M,T⟩ O (λ_=>Ws) (λS w h cs _ hc=>by have⟨out,q1,q2,_⟩:=HB.fill D h.1 hc;exact⟨out,q1,q2,ul⟩),ul,⟨hb,ul⟩,λu w' _ b=>zA b.1⟩;rename_i n e n' E B ht;have⟨L,h⟩:=yo h;rw[xae]at L;have hn:=yh L.1;subst hn;have⟨b2,z2,hv⟩:=ziE c L.2;have⟨ys,h,hi,hp⟩:=pY h;have⟨m,hd,A,C⟩:=Xj c ht;refine⟨_,h,Zi λH w S vs U hl=> ?_⟩;have G:=hp P vs H S w λx s=>yO hl (by simpa[xaC]using s);have J:(ps.toList.map λq:K×uL=>(q.1,ev H q.2)).map (·.1)=xfw 0 (X (ps.toList.map λq:K×uL=>(q.1,ev H q.2))):=by rw[xdj,xaj];exact hi
 have v:=λ(S:K->Prop) (w:jP) (h:PH S w (Hl n' e) ys (ps.toList.map λq:K×uL=>(q.1,ev H q.2)))=>LB J h;exact⟨_,_,_,_,[phF _ ys (ps.toList.map λq:K×uL=>(q.1,ev H q.2))],[],Rp (e:=(Ty.a n' e).rep) (z:=CX n' e ys) (parts:=ps.toList) hd O A O (.inr ⟨_,_,_,_,_,_,zeQ c ht,hv,λS w h=>by have:=(v S w h.1).1;rwa[xct]at this⟩)<|λS w h=>⟨iJ n' e ys,(v S w h.1).2⟩,ul,⟨G,ul⟩,λu w' _ b=>zA b.1⟩;cases h
def zh7{s E:ut}{e:Ty}{B:K}(a:y6 P cf.tt)(b:ua P cf.tt)(h:YF cf s=Z ⟨.l e,.sl E,B⟩):0<e.rep.n:=by obtain⟨c,h1,rfl⟩:=b _ _ _ _ h;exact(a _ _ h1).2.2.1
def zq2(b:y6 P cf.tt)(c:ua P cf.tt){n:K}{ps:Z5 (K×uL)}{k:N (K×Dv)->V R}(h:znK cf cx σ t n ps.toList k=Z r):∃l,k l=Z r/\ES P ⟨d,.buildSlice t n ps,ty,wl,wn,g⟩ cx σ F l:=by
 unfold znK at h;split at h;rename_i e E B ht;have⟨a,h⟩:=yo h;have a:=xbJ a;rw[<-e.n_rep]at a;have⟨ys,h,hd,j⟩:=pY h;have⟨bytes,f,m⟩:=Uw b c ht;refine⟨_,h,Zi λH w S vs s hl=> ?_⟩;have hi:=j P vs H S w λx o=>yO hl (by simpa[xaC]using o);have hc:(ps.toList.map λq:K×uL=>(q.1,ev H q.2)).map (·.1)=xfw 0 (X (ps.toList.map λq:K×uL=>(q.1,ev H q.2))):=by rw[xdj,xaj];exact hd
 have i:=λ(S:K->Prop) (w:jP) (h:PH S w (Hl n e) ys (ps.toList.map λq:K×uL=>(q.1,ev H q.2)))=>LB hc h;exact⟨_,_,_,_,[phF _ ys (ps.toList.map λq:K×uL=>(q.1,ev H q.2))],[],Ga (qY b ht) m (zh7 b c ht) (iJ n e ys) a O (λS w h=>by have:=(i S w h.1).1;rwa[xct]at this)<|λS w h=>(i S w h.1).2,ul,⟨hi,ul⟩,λu w' _ p=>zA p.1⟩;cases h
def zbd:∀{xs:N uL}{l:N PD},cG cx σ xs=Z l->X l=X xs/\∀(P:Z2) vs H S w,(∀x∈xs,Xt P vs H S w cx σ x)->zD S (GX l<|xs.map<|ev H) w
 |[],l,h=>by simp only[cG,xav]at h;subst h;exact⟨O,λ_ _ _ _ _ _=>ul⟩
 |x::xs,l,h=>by
  unfold cG at h;split at h;rename_i t y l' a b;simp only[xav]at h;subst h;have⟨h1,c⟩:=zbd b;exact⟨by simp[h1],λP vs H S w hl=>⟨zj a<|hl x<|IR,c P vs H S w λz e=>hl z<|FS _ e⟩⟩;cases h
theorem zrd{f:Go.Fn}{first cs:Z5 uL}{k:N (K×Dv)->V R}(h:zok cx σ f first.toList cs.toList k=Z r):∃l,k l=Z r/\ES P ⟨d,.makeFunc f first cs,ty,wl,wn,g⟩ cx σ F l:=by
 unfold zok at h;split at h;rename_i _ _ _ f' l b hc;obtain rfl:first= #[]:=by cases first;simp_all
 have⟨h1,c⟩:=zbd hc;refine⟨_,h,zK λH w S vs hl=>⟨_,zst (xs:=cs.toList) O w,zA ?_⟩⟩;exact⟨_,O,by simp[h1],c P vs H S w λx a=>yO hl<|by simpa[xaC]using a⟩;rename_i _ _ _ f' x b hc;split at h;rename_i o t a;obtain rfl:first= #[x]:=by cases first;simp_all
 have h1:=(zbd hc).1;obtain rfl:cs= #[]:=by grind
 refine⟨_,h,zK λH w S vs hl=>⟨.func (.func f') #[ev H x] #[],gK (by simp[pv]) w,zA ?_⟩⟩;have⟨e,i⟩:=zj a (yO hl<|by simp[xaC]);exact⟨by rw[e],i⟩;cases h
 cases h
def HO{A B C:Type}(h:B=C)(p:(A×B)=(A×C))(x:A×B):(p▸x:A×C)=(x.1,h▸x.2):=by subst h;rfl
theorem St.sub'{we:jP}{Se:K->Prop}{ms:N MF}{Γ Δ:N FF}{w:jP}(h:St we Se ms Γ w)(a:∀f∈Δ,f∈Γ):St we Se ms Δ w:=by grind [St.weak,k9]
def zqJ{t:Ty}{n:RM}{r:N RM}(x:aI (.d t::n::r)):(W6 (.d t::n::r)▸x:Ia ((RM.d t::n::r).map RM.ty))=((x.1,W6 (n::r)▸x.2):t.D×Ia ((n::r).map RM.ty)):=
 HO (W6 (n::r)) (W6 (.d t::n::r)) x
def zqa{t:Ty}{E:ut}{n:RM}{r:N RM}(x:aI (.own t E::n::r)):(W6 (.own t E::n::r)▸x:Ia ((RM.own t E::n::r).map RM.ty))=((x.1,W6 (n::r)▸x.2):(Ty.l t).D×Ia ((n::r).map RM.ty)):=
 HO (W6 (n::r)) (W6 (.own t E::n::r)) x
theorem zfg{we:jP}{Se:K->Prop}:∀{rs:N RM}{x:aI rs}{us:N jp}{F:N MF}{G:N FF}{w:jP},noV rs=qR->
 St we Se (kQ rs x us++F) (kN rs x us++G) w->St we Se F (csF (rs.map RM.ty) (W6 rs▸x) us++G) w
 |[],_,_,_,_,_,_,h=>h
 |[.d t],x,us,F,G,w,_,h=>h
 |.var _ _::_,_,_,_,_,_,hv,_=>by cases hv
 |[.own t E],x,us,F,G,w,_,h=>by
  have h:St we Se (mO t.rep E (us.headD XS) x::F) G w:=h;exact Mc 0 h O
 |.d t::n::r,x,us,F,G,w,hv,h=>by
  rw[zqJ];have h:St we Se (kQ (n::r) x.2 us.tail++F) (kN (n::r) x.2 us.tail++(fV t.rep x.1 (us.headD XS)::G)) w:=St.sub' (by simpa[kQ,kN,rmM,rmF]using h) (by simp;rintro f (h|h|h)<;>simp[h]);have:=zfg (rs:=n::r) hv h;exact St.sub' this (by
   intro f hf;obtain hf|hf:=xab.1 hf
   obtain rfl|hf:=xal.1 hf
   exact xab.2 (.inr<|IR);grind;exact xab.2 (.inr<|FS _ hf))
 |.own t E::n::r,x,us,F,G,w,hv,h=>by
  rw[zqa];have h:St we Se (mO t.rep E (us.headD XS) x.1::(kQ (n::r) x.2 us.tail++F)) (kN (n::r) x.2 us.tail++G) w:=h;have h:=Mc 0 h O;have h:St we Se (kQ (n::r) x.2 us.tail++F) (kN (n::r) x.2 us.tail++(fV (eS t.rep) x.1 (us.headD XS)::G)) w:=St.sub' h (by simp;rintro f (h|h|h)<;>simp[h]);have:=zfg (rs:=n::r) hv h;exact St.sub' this (by
   intro f hf;obtain hf|hf:=xab.1 hf
   obtain rfl|hf:=xal.1 hf
   exact xab.2 (.inr<|IR);exact xab.2 (.inl hf);exact xab.2 (.inr<|FS _ hf))
def L4:∀{rs:N RM}{x:aI rs}{i:K},noV rs=qR->zaK rs x i=zfa (rs.map RM.ty) (W6 rs▸x) i
 |[],_,_,_=>rfl
 |[.d _],_,_,_=>rfl
 |[.own _ _],_,_,_=>rfl
 |.var _ _::_,_,_,h=>by cases h
 |.d t::n::r,x,i,h=>by rw[zqJ];show(i,Dv.d t x.1)::zaK (n::r) x.2 (i+1)=_;rw[L4 (rs:=n::r) h];rfl
 |.own t E::n::r,x,i,h=>by rw[zqa];show(i,Dv.d (.l t) x.1)::zaK (n::r) x.2 (i+1)=_;rw[L4 (rs:=n::r) h];rfl
def Pw:∀rs:N RM,bJ rs=zk1 (rs.map RM.ty)
 |[]=>rfl
 |[_]=>rfl
 |_::_::_=>rfl
theorem zhK:∀{ts:N Ty}{x:Ia ts}{i:K}{us:N jp},zD S (csF ts x us) w->X us=X ts->∀e∈zfa ts x i,∃j u,e.1=i+j/\us[j]? =Z u/\(vP P vs e.2 u).p S w
 |[],_,_,_,_,_,e,he=>kW he H1
 |[t],x,i,[],h,hl,e,he=>by cases hl
 |[t],x,i,u::us,h,hl,e,he=>by
  obtain rfl:=xaf.1 he;exact⟨0,u,O,O,h.1⟩
 |t::s::r,x,i,[],h,hl,e,he=>by cases hl
 |t::s::r,x,i,u::us,h,hl,e,he=>by
  obtain rfl|he:=xal.1 he
  exact⟨0,u,O,O,h.1⟩;have⟨j,v,h1,a,b⟩:=zhK h.2 (by simpa using hl) e he;grind
def Ey:∀{ts:N Ty}{x:Ia ts}{us:N jp},zD S (csF ts x us) w->us.length=ts.length->∀e∈zfa ts x (bif zk1 ts then 0 else 1),(qp P vs e.2 (ZI us) e.1).p S w
 |[],_,_,_,_,e,he=>kW he H1
 |[t],x,[],_,hl,_,_=>by cases hl
 |[t],x,[v],h,hl,e,he=>by
  obtain rfl:=xaf.1 he;exact h.1
 |[t],x,_::_::_,_,hl,_,_=>by simp at hl
 |t::s::q,x,[],_,hl,_,_=>by cases hl
 |t::s::q,x,[_],_,hl,_,_=>by simp at hl
 |t::s::q,x,v::v'::us,h,hl,e,he=>by
  obtain⟨j,u,h1,h2,h3⟩:=zhK h hl e he;obtain⟨i,dv⟩:=e;simp only[zk1,WD]at h1;obtain rfl:i=j+1:=by lia
  exact⟨(v::v'::us).toArray,u,O,by simpa using h2,h3⟩
def CC:∀{cs:N Wk}{f:Wf}{s:Wk},Hs cs f=Z s->s∈cs/\s.f=f/\Dk s.dom=qR/\s.bk=0/\noV s.cod=qR
 |c::cs,f,s,h=>by
  unfold Hs at h;cases a:Q c.f f && (Dk c.dom && (Q c.bk 0 && noV c.cod))<;>rw[a]at h
  have⟨h1,b⟩:=CC h;exact⟨FS _ h1,b⟩;simp_all
def rJ:∀{dom:N AM}{x:aH dom}{us:N jp},Dk dom=qR->kG dom x us=[]
 |[],_,_,_=>rfl
 |.d _::r,x,us,h=>rJ (dom:=r) h
 |.q _::r,x,us,h=>rJ (dom:=r) h
 |.fn _ _::r,x,us,h=>rJ (dom:=r) h
 |.own _ _::_,_,_,h=>by cases h
 |.var _ _::_,_,_,h=>by cases h
def LJ:∀{a:N AM}{cs:N PD}{z:aH a},cQ a cs=Z z->X cs=X a/\∀{S:K->Prop}{w:jP}{b:N jp},X b=X cs->zD S (GX cs b) w->zD S (jQ P a z b) w
 |[],[],_,_=>⟨O,λ_ _=>ul⟩
 |.q t::r,c::cs,z,h=>by
  have⟨e,h⟩:=yv h;subst e;split at h;rename_i z' i;obtain rfl:=xfT h;have⟨h1,j⟩:=LJ i;refine⟨by simp[h1],λ{S w b} hl f=> ?_⟩
  cases b with
  |nil=>cases hl
  |cons v b=>exact⟨f.1,j (by simpa using hl) f.2⟩
  cases h
 |[],_::_,_,h=>by simp[cQ]at h
 |.q _::_,[],_,h=>by simp[cQ]at h
 |.d _::_,_,_,h=>by simp[cQ]at h
 |.own _ _::_,_,_,h=>by simp[cQ]at h
 |.var _ _::_,_,_,h=>by simp[cQ]at h
 |.fn _ _::_,_,_,h=>by simp[cQ]at h
def zfl:∀{full:N AM}{dom:N Ty}{x:ou dom}{cs:N PD}{z:aH full},NN full dom x cs=Z z->X dom+X cs=X full/\
 ∀{S:K->Prop}{w:jP}{us a:N jp},X us=X dom->X a=X cs->zD S (tsF dom x us) w->zD S (GX cs a) w->zD S (jQ P full z<|us++a) w
 |full,[],x,cs,z,h=>by
  have h:cQ full cs=Z z:=by cases full<;>(try cases‹AM›)<;>simpa[NN]using h
  have⟨h1,b⟩:=LJ (P:=P) h;simp_all
 |.d t::r,s::dom,x,cs,z,h=>by
  have⟨e,h⟩:=yv h;subst e;split at h;rename_i z' c;obtain rfl:=xfT h;have⟨h1,b⟩:=zfl c;refine⟨by simp;lia,λ{S w us a} hl hc ht f=> ?_⟩
  cases us with
  |nil=>cases hl
  |cons v us=>exact⟨ht.1,b (by simpa using hl) hc ht.2 f⟩
  cases h
 |[],_::_,_,_,_,h=>by simp[NN]at h
 |.q _::_,_::_,_,_,_,h=>by simp[NN]at h
 |.own _ _::_,_::_,_,_,_,h=>by simp[NN]at h
 |.var _ _::_,_::_,_,_,_,h=>by simp[NN]at h
 |.fn _ _::_,_::_,_,_,_,h=>by simp[NN]at h
theorem zfY{A B:Type}(h:A=B){o:V A}{r:B}(b:(h▸o:V B)=Z r):∃a:A,o=Z a/\(h▸a:B)=r:=by grind
def oc{s:Wk}(a:y8 P s)(hn:Dk s.dom=qR)(b:s.bk=0)(hv:noV s.cod=qR){z:aH s.dom}{q:aI s.cod}(c:s.M z=Z q){us:N jp}(hl:X us=X s.dom):
 Fn P s.f us.toArray (jQ P s.dom z us) ZI (λus=>csF (s.cod.map RM.ty) (W6 s.cod▸q) us) (λus=>X us=X s.cod):=by
 have h:=a.plain b c hl;rw[rJ hn]at h;refine FnG.frozen h λu w' we Se e=> ?_;have:=zfg (F:=[]) (G:=[]) hv (by simpa using e);simp_all
def Fn.weakΓ{U:Type}{f:Wf}{args:Z5 jp}{Γ a:N FF}{b:U->jp}{c:U->N FF}{ok:U->Prop}(h:Fn P f args Γ b c ok)(e:∀S w,zD S a w->zD S Γ w):Fn P f args a b c ok:=
 λw Se h1 i=>h w Se h1<|e Se w i
def zio(l:∀s∈cf.cs,y8 P s){v:V Dv}{dom cod:N Ty}{k:(ou dom->V (Ia cod))->V R}(h:asF cf σ v dom cod k=Z r):
 ∃g,k g=Z r/\∀vs S w (dv:Dv) u,v=Z dv->(vP P vs dv u).p S w->(fnF P dom cod g u).p S w:=by
 unfold asF at h;split at h;rename_i f c;split at h;rename_i s m;have⟨h1,e,n,o,A⟩:=CC m;have i:=l s h1;split at h;rename_i B _;subst B;refine⟨_,h,λvs S w dv u hd b=> ?_⟩;cases hd;have⟨cs,C,D,E⟩:=b;refine⟨f,cs,GX c cs,C,⟨e▸i.1,λx q a us hl=> ?_⟩,E⟩;simp only at a;split at a
 rename_i z G;have⟨M,J,hn⟩:=zfY _ a;have⟨Q,K⟩:=zfl (P:=P) G;have hi:=oc i n o A J (us:=us++cs) (by simp;lia);rw[e]at hi;subst hn;refine(hi.weakΓ λS w j=>K hl D (zD.left j)<|zD.right j).ok_mono λus L=>by simpa using L
 cases a
 cases h
 cases h
 rename_i T U Y;split at h;rename_i hd hc _ _;subst hd;subst hc;exact⟨_,h,λvs S w dv u hp b=>by cases hp;exact b⟩;cases h
 cases h
def nH(P:Z2)(ex:N (K×uS)):Prop:=∀f b,U2 ex f=Z b->∃fn,P.funcs[f]? =Z fn/\(fn.name== "runtime.NumGoroutine")=I/\fn.body=wW/\(xeS fn).isNone=qR/\
 (b=qR->xfe fn=Z (λargs=>do
  let(x,y,c)<-xbN "Add64" args
  pure (xcr ((x+y+c)%xbg)<|(x+y+c)/xbg)))/\
 (b=I->xfe fn=Z (λargs=>do
  let(x,y,b)<-xbN "Sub64" args
  pure (xcr ((x+xbg-y-b)%xbg) (if x<y+b then 1 else 0))))
def zqd{x y z:K}{k:N (K×Dv)->V R}(h:exU qR x y z k=Z r):z<=1/\∃p q:K,p=(x+y+z)%18446744073709551616/\q=(x+y+z)/18446744073709551616/\k [(1,.d .u p),(2,.d .u q)]=Z r:=by have⟨h1,h⟩:=Ya h;have⟨p,hp,h⟩:=wX h;have⟨q,a,h⟩:=wX h;exact⟨h1,p,q,hp,a,h⟩
def zrx{x y z:K}{k:N (K×Dv)->V R}(h:exU I x y z k=Z r):z<=1/\∃p q:K,p=(x+18446744073709551616-y-z)%18446744073709551616/\q=(if x<y+z then 1 else 0)/\k [(1,.d .u p),(2,.d .u q)]=Z r:=by have⟨h1,h⟩:=Ya h;have⟨p,hp,h⟩:=wX h;have⟨q,a,h⟩:=wX h;exact⟨h1,p,q,hp,a,h⟩
def sw(l:∀s∈cf.cs,y8 P s):∀{dom:N AM}{xs:N uL}{cs:N PD}{k:aH dom->V R},Q5 cf cx σ dom xs cs k=Z r->
 ∃z,k z=Z r/\X xs+X cs=X dom/\∀vs H S w,(∀x∈xs,Xt P vs H S w cx σ x)->∀a:N jp,X a=X cs->zD S (GX cs a) w->zD S (jQ P dom z<|xs.map (ev H)++a) w
 |[],[],[],k,h=>⟨(),h,O,λ_ _ _ _ _ _ _ _=>ul⟩
 |.q t::dom,[],c::cs,k,h=>by
  simp only[Q5]at h;have⟨e,h⟩:=yv h;subst e;have⟨z,h1,i,j⟩:=sw l h;refine⟨_,h1,by simp at i⊢;lia,λvs H S w hl a b hc=> ?_⟩
  cases a with
  |nil=>cases b
  |cons v a=>exact⟨hc.1,j vs H S w hl a (by simpa using b) hc.2⟩
 |.d t::dom,x::xs,cs,k,h=>by
  simp only[Q5]at h;have⟨y,h,o⟩:=Qg h;have⟨z,h1,i,j⟩:=sw l h;exact⟨_,h1,by simp at i⊢;lia,λvs H S w hl a b hc=>⟨o P vs H S w<|hl x<|IR,j vs H S w (λz m=>hl z<|FS _ m) a b hc⟩⟩
 |.q t::dom,x::xs,cs,k,h=>by
  simp only[Q5]at h;split at h;rename_i s y p;have⟨e,h⟩:=yv h;subst e;have⟨z,h1,i,j⟩:=sw l h;exact⟨_,h1,by simp at i⊢;lia,λvs H S w hl a b hc=>⟨zj p<|hl x<|IR,j vs H S w (λz m=>hl z<|FS _ m) a b hc⟩⟩;cases h
 |.fn n cod::dom,x::xs,cs,k,h=>by
  simp only[Q5]at h;have⟨f,h,u⟩:=zio l h;have⟨z,h1,i,j⟩:=sw l h;refine⟨_,h1,by simp at i⊢;lia,λvs H S w hl a b hc=>⟨?_,j vs H S w (λz m=>hl z<|FS _ m) a b hc⟩⟩
  cases hv:xG cx σ x with
  |none=>rename_i h0;rw[hv]at h0;simp[asF]at h0
  |some v=>exact u vs S w v _ hv<|zj hv<|hl x<|IR
 |[],_::_,_,_,h=>by simp[Q5]at h
 |[],[],_::_,_,h=>by simp[Q5]at h
 |.d _::_,[],_,_,h=>by simp[Q5]at h
 |.own _ _::_,_,_,_,h=>by simp[Q5]at h
 |.fn _ _::_,[],_,_,h=>by simp[Q5]at h
 |.q _::_,[],[],_,h=>by simp[Q5]at h
def Nc:∀{dom:N Ty}{xs:N uL}{k:ou dom->V R},IY cx σ dom xs k=Z r->
 ∃z,k z=Z r/\X xs=X dom/\∀(P:Z2) vs H S w,(∀x∈xs,Xt P vs H S w cx σ x)->zD S (tsF dom z<|xs.map<|ev H) w
 |[],[],k,h=>⟨(),h,O,λ_ _ _ _ _ _=>ul⟩
 |t::dom,x::xs,k,h=>by
  have⟨y,h,a⟩:=Qg h;have⟨z,h1,b,c⟩:=Nc h;exact⟨_,h1,by simp[b],λP vs H S w hl=>⟨a P vs H S w<|hl x<|IR,c P vs H S w<|λz e=>hl z<|FS _ e⟩⟩
 |[],_::_,_,h=>by simp[IY]at h
 |_::_,[],_,h=>by simp[IY]at h
def zn5(E:∀s∈cf.cs,y8 P s)(hX:nH P cf.ex){f:uL}{a:Z5 uL}{ts:Z5 ut}{k:N (K×Dv)->V R}(h:ziw cf cx σ f a.toList k=Z r):
 ∃l,k l=Z r/\ES P ⟨d,.call ⟨.value f,a,ts⟩,ty,wl,wn,g⟩ cx σ F l:=by
 have G:∀{vs H S w},(∀A∈yS (.call ⟨.value f,a,ts⟩),Lk P vs H S w cx σ A)->Xt P vs H S w cx σ f:=λhl=>yO hl (by simp[xaC,xeJ]);have i:∀{vs H S w},(∀A∈yS (.call ⟨.value f,a,ts⟩),Lk P vs H S w cx σ A)->∀x∈a.toList,Xt P vs H S w cx σ x:=λhl x u=>yO hl (by simp only[xaC,xeJ,Array.toList_append,xab];exact .inr u);unfold ziw at h;split at h;rename_i f0 cs hc;split at h;rename_i s hs;have⟨h1,J,h3,h4,L⟩:=CC hs;have M:=E s h1;have⟨z,h,hd,m⟩:=sw E h;have⟨q,c,h⟩:=B6 h;refine⟨_,h,Zi λH w S vs hM hl=> ?_⟩;have⟨j,hv,ht,hu⟩:=zj hc<|G hl;have v:=oc M h3 h4 L c (us:=a.toList.map (ev H)++j) (by simp at hd⊢;lia);rw[J]at v;refine⟨_,_,_,_,jQ P s.dom z<|a.toList.map (ev H)++j,[],ox (asv:=a.toList) (J▸M.1) hv v O<|λS w h=>h,ul,m vs H S w (i hl) j ht hu,λus w' B hn=> ?_⟩;unfold zj9;rw[L4 L,Pw];exact Ey hn<|by simpa using B
 split at h;rename_i _ _ _ b x y z C hD;obtain rfl:a= #[x,y,z]:=by cases a;simp_all
 have⟨hw,h⟩:=yo h
 cases f with
 |func f1=>
  simp only[xG,xav,Dv.fn.injEq]at hc;obtain⟨rfl,_⟩:=hc;have⟨fn,e1,Q,T,U,e5,e6⟩:=hX _ _ C;unfold exD at h;split at h;rename_i x' y' z' u Y m;cases b
  have⟨n,p,q,hp,c,h⟩:=zrx h;refine⟨_,h,zK λH w S vs hl=> ?_⟩;have hi:=wJ u (i hl x m7);have o:=wJ Y (i hl y m7);have D:=wJ m (i hl z m7);refine⟨_,v_2 (zlf e1 Q T U (e6 O) hi.1 o.1 D.1 n) hp c w,λe he=> ?_⟩;obtain rfl|he:=xal.1 he
  exact⟨_,_,O,O,kz<|VH hp⟩;obtain rfl:=xaf.1 he;exact⟨_,_,O,O,kz<|zjS hi.2 o.2 n c⟩;have⟨n,p,q,hp,c,h⟩:=zqd h;refine⟨_,h,zK λH w S vs hl=> ?_⟩;have hi:=wJ u (i hl x m7);have o:=wJ Y (i hl y m7);have D:=wJ m (i hl z m7);refine⟨_,v_2 (zjZ e1 Q T U (e5 O) hi.1 o.1 D.1 n) hp c w,λe he=> ?_⟩;obtain rfl|he:=xal.1 he
  exact⟨_,_,O,O,kz<|VH hp⟩;obtain rfl:=xaf.1 he;exact⟨_,_,O,O,kz<|zk5 hi.2 o.2 n c⟩;cases h
 |_=>simp[zrg]at hw
 cases h
 rename_i dom cod g' hc;have⟨z,h,hd,m⟩:=Nc h;have⟨q,c,h⟩:=B6 h;refine⟨_,h,Zi λH w S vs hM hl=> ?_⟩;have⟨a0,cG,FG,hv,⟨C,hA⟩,hB⟩:=zj hc<|G hl;have v:=hA z q c (a.toList.map<|ev H) (by simpa using hd);exact⟨_,_,_,_,tsF dom z (a.toList.map<|ev H)++FG,[],ox (asv:=a.toList) C hv v O<|λS w h=>h,ul,zD.append (m P vs H S w<|i hl) hB,λus w' B hn=>Ey hn B⟩;cases h
def zpT{fs:Z5 Field}{v:jp}(a:P.underlying t=Z (.struct fs))(hv:ev H x=v)(w:jP):(uT (ev H) ⟨d,.makeInterface t x,ty,wl,wn,g⟩).run P w=.ok (.value (.iface t v)) w:=by simp[uT,Instr.makeInterface,Z3 a,hv]
def zrt(a:y6 P cf.tt){k:N (K×Dv)->V R}(h:zn1 cf cx σ t x k=Z r):∃l,k l=Z r/\ES P ⟨d,.makeInterface t x,ty,wl,wn,g⟩ cx σ F l:=by unfold zn1 at h;split at h;rename_i B s y ht b;have⟨c,h⟩:=yv h;subst c;refine⟨_,h,zK λH w S vs hl=> ?_⟩;have⟨cs,hv,hp⟩:=zj b (yO hl<|by simp[xaC]);have⟨_,_,⟨fs,hc,_⟩,_⟩:=(a _ _ ht).2.2.2;obtain rfl:cs=[.int .i64 y]:=hp.1;exact⟨_,zpT hc hv w,zA<|by exact O⟩;cases h
def zoY(a:y6 P cf.tt)(c:ua P cf.tt)(f:∀s∈cf.cs,y8 P s)(i:nH P cf.ex){e:Op}{k:N (K×Dv)->V R}(h:zos cf cx σ e k=Z r):∃l,k l=Z r/\ES P ⟨d,e,ty,wl,wn,g⟩ cx σ F l:=by
 unfold zos at h;split at h;exact zf1 (.inl O) h;exact zf1 (.inr O) h;exact zrI h;exact zo8 h;exact zq8 h;exact zq4 h;rename_i j t x y yt;cases hn:zj8 (xG cx σ y)<;>rw[hn]at h
 exact bop h<|zjT a;have⟨hp,h⟩:=yo h;exact zsj a hp hn h;exact zq6 h;exact zre a h;exact zoJ a h;exact zj7 a c h;exact zkS a h;exact zgs a h;exact zkc a c h;exact zrz a h;exact zqT h;exact zjF a h;exact zrt a h;exact zq2 a c h;exact zrd h;exact zrA a h;exact zq0 (b:=qR) h;exact zq0 (b:=I) h;exact zn5 f i h;cases h
def za3(P:Z2)(s:Sq):Prop:=
 Ae P s.f=qR/\∀(x:ou s.dom) (vs:N jp),X vs=X s.dom->Fn P s.f vs.toArray (tsF s.dom x vs) (λv:jp=>v) (λv=>[zoz s.g (s.mc x) v]) (λ_=>Ws)
def zbv(P:Z2)(s:C8):Prop:=
 Ae P s.f=qR/\∀c ix r a p lo n b,s.M c ix r a p lo n=Z b->∀(u h hv:jp),(wg u)[r]? =Z h->Ss (yR u) lo n hv->Qp a->Qp p->
  ∀we Se F G w,St we Se (Bh s.t.rep s.E s.E1 u c ix::F) G w->bi P s.f #[h,.int .i64 a,.int .i64 p,hv] w λe w'=>∃v i,e=.returned v/\yR i=yR u/\St we Se (Bh s.t.rep s.E s.E1 i b ix::F) G w'
def zgL(P:Z2)(s:Ha):Prop:=
 Ae P s.f=qR/\∀(x:aH s.dom) (X Y:Type) (a:X->jp->MF) (b:Y->jp->MF) (g:N s.t.D->X->V (N s.t.D×(X⊕Y))) (x0:X) (r:X⊕Y),s.M x g x0=Z r->∀(l:K) (vs:N jp),A2 vs=A2 s.dom->Sl P l s.t.rep s.E a b g->
  ∀u we Se F G w,St we Se (a x0 u::F) (jQ P s.dom x vs++G) w->bi P s.f (.func (.yield l) #[] #[]::vs).toArray w λe w'=>(∃v,e=.returned v)/\∃c,St we Se (xfj (λx=>a x c) (λy=>b y c) r::F) G w'
def Oy(P:Z2)(p:Je):Prop:=
 Ae P p.s.f=qR/\∀(x:aH p.s.dom) (vs:N jp),X vs=X p.s.dom->
  (∀r,p.M x=Z (.inr r)->FnG P p.s.f vs.toArray (kG p.s.dom x vs) (jQ P p.s.dom x vs) (zo4 p.s.bk (X p.s.cod)) (λus=>kQ p.s.cod r us) (λus=>kN p.s.cod r us) (zfe p.s.dom vs p.s.bk (X p.s.cod)))/\
  ∀q,p.M x=Z (.inl q)->∀we Se F G w,St we Se (kG p.s.dom x vs++F) (jQ P p.s.dom x vs++G) w->bi P p.s.f vs.toArray w λe w'=>e=.panicked (ru q)/\St we Se F G w'
def Je.n(p:Je):Wk:=⟨p.s.f,p.s.dom,p.s.cod,λx=>(match p.M x with
 |some (.inr r)=>Z r
 |_=>wW),p.s.bk⟩
theorem Oy.n{P:Z2}{p:Je}(h:Oy P p):y8 P p.n:=⟨h.1,λx r a vs hl=>(h.2 x vs hl).1 r (by
 have a:(match p.M x with
  |some (.inr r)=>Z r
  |_=>wW)=Z r:=a
 split at a;grind;cases a)⟩
structure Bp(P:Z2)(cf:Cf):Prop where
 ex:nH P cf.ex
 cl:∀s∈cf.cl,za3 P s
 ms:∀s∈cf.ms,zbv P s
 is:∀s∈cf.is,zgL P s
 pp:P=Tryz.prog
 ps:∀p∈cf.ps,Oy P p
def zeU{f:Wf}:∀{l:N C8}{s:C8},zjj l f=Z s->s∈l/\s.f=f
 |c::l,s,h=>by
  unfold zjj at h;cases a:Q c.f f<;>rw[a]at h
  have⟨h1,b⟩:=zeU h;exact⟨FS _ h1,b⟩;simp_all
def zjf{f:Wf}:∀{l:N Sq}{s:Sq},zfx l f=Z s->s∈l/\s.f=f
 |c::l,s,h=>by
  unfold zfx at h;cases a:Q c.f f<;>rw[a]at h
  have⟨h1,b⟩:=zjf h;exact⟨FS _ h1,b⟩;simp_all
def zgG{f:Wf}:∀{l:N Ha}{s:Ha},zjO l f=Z s->s∈l/\s.f=f
 |c::l,s,h=>by
  unfold zjO at h;cases a:Q c.f f<;>rw[a]at h
  have⟨h1,b⟩:=zgG h;exact⟨FS _ h1,b⟩;simp_all
def Oe{α:Type}{e:zZ α}{E E1:ut}{u:jp}{a:N (N α)}{ix:N K}(h:(Bh e E E1 u a ix).p S w):X (wg u)=X a/\(mO (YY<|wg u) E (yR u) ix).p S w/\yV S (vN e E1 (wg u) a) w:=⟨h.1.1,h.1.2.1,h.1.2.2⟩
def tD{α:Type}{e:zZ α}{E E1:ut}{u v:jp}{a:N (N α)}{ix:N K}{r:K}(h:(Bh e E E1 u a ix).p S w)(b:(wg u)[r]? =Z v):(mO e E1 v<|Zf a r).p S w/\r<X a:=by
 have⟨h1,_,c⟩:=Oe h;have hl:=(xaA.1 b).1;have f:a[r]? =Z (Zf a r):=by unfold Zf;simp_all
 exact⟨yV.get c<|JK b f,W⟩
def zil(i:y6 P cf.tt)(J:ua P cf.tt){k:N (K×Dv)->V R}(h:N9 cf cx σ t x y k=Z r):∃l,k l=Z r/\ES P ⟨d,.indexAddr t x y,ty,wl,wn,g⟩ cx σ F l:=by
 have L:∀{vs H S w},(∀M∈yS (.indexAddr t x y),Lk P vs H S w cx σ M)->Xt P vs H S w cx σ x:=λhl=>yO hl (by simp[xaC]);have Q:∀{vs H S w},(∀M∈yS (.indexAddr t x y),Lk P vs H S w cx σ M)->Xt P vs H S w cx σ y:=λhl=>yO hl (by simp[xaC]);unfold N9 at h;split at h;rename_i e E B o ht q;split at h;rename_i s v E1 A ix C;have⟨bytes,f,hc⟩:=Uw i J ht;have⟨j,a,h,hd⟩:=Rf h;refine⟨_,h,?_⟩;intro H w S vs U D hl;have⟨ik,u⟩:=hd P vs H S w<|Q hl;have T:(Bh s.rep v E1 (vs o) A ix).p S w:=Ys D C;have⟨b,cap,hv,_⟩:=aV (Oe T).2.1<|xaI (xah _) a;have G:ev H x=yR (vs o):=zj q<|L hl;exact uF.of_value (Cu (qY i ht) hc (G.trans hv) u a w) ⟨yL.refl _ _,zA ⟨b,_,_,hv,a,O⟩⟩;cases h
 rename_i e E B o lo n ht q;split at h;rename_i s v E1 A ix C;have⟨bytes,f,hc⟩:=Uw i J ht;have⟨j,a,h,hd⟩:=Rf h;refine⟨_,h,?_⟩;intro H w S vs U D hl;have⟨ik,u⟩:=hd P vs H S w<|Q hl;rcases(zj q (L hl):Ss _ _ _ _).old with⟨b,m,cap,c,q1,q2,q3,q4,Y⟩|⟨q1,_⟩
 refine uF.of_value (Cu (qY i ht) hc Y u a w) ⟨yL.refl _ _,zA ⟨b,_,_,q1,W,?_⟩⟩;show Value.pointer (Z ⟨b,0+lo*1+j*1,wW⟩)=Value.pointer (Z ⟨b,0+(lo+j)*1,wW⟩);rw[xbl,xcQ];lia;cases h
 rename_i e E B o p ht q;split at h;rename_i s v E1 A ix C;have⟨hg,h1⟩:=yv h;cases hg;have⟨bytes,f,hc⟩:=Uw i J ht;have⟨j,a,h,hd⟩:=Rf h1;refine⟨_,h,?_⟩;intro H w S vs U D hl;have⟨ik,u⟩:=hd P vs H S w<|Q hl;have T:(Bh e.rep v E1 (vs o) A ix).p S w:=Ys D C;have G:(wg<|vs o)[p]? =Z (ev H x):=zj q<|L hl;have⟨b,cap,hv,_⟩:=aV (tD T G).1<|xaI (xah _) a;refine uF.of_value (Cu (qY i ht) hc hv u a w) ⟨yL.refl _ _,zA ⟨λz=>Sub.self e.rep z,b,_,_,by rw[<-hv];exact G,a,by simp[Fl.self]⟩⟩
 cases h
 cases h
def zsg{α β:Type}{q:Prop}{e:zZ α}{E off:K}{nl:α->α}{s:zZ β}{E1:ut}{u:jp}{z:α}{xs:N β}(h:(mVr q e E off nl s E1 u z xs).p S w):
 X (wg u)=1/\q/\∃b,yR u=.pointer (Z ⟨b,0,wW⟩)/\(mB (dj e off nl<|wg u) E b (z,0)).p S w:=⟨h.1.1.1,h.1.1.2,h.1.2.1⟩
def zs1{α:Type}{q:Prop}{e:zZ α}{E off:K}{nl:α->α}{u:jp}{z:α}(h:(mVh q e E off nl u z).p S w):
 X (wg u)=1/\q/\∃b,yR u=.pointer (Z ⟨b,0,wW⟩)/\(mB (dj e off nl<|wg u) E b (z,0)).p S w:=⟨h.1.1.1,h.1.1.2,h.1.2.1⟩
def zbF{n i j:K}{s:Ty}{k:Fl s.D->V R}(h:zia n s i j k=Z r):i≠j/\∃f,xu n s i=Z f/\k f=Z r:=by have⟨h1,h⟩:=yo h;split at h;rename_i f a;refine⟨λe=> ?_,f,a,h⟩;simp_all;cases h
def zgx{o:K}{s a:Ty}{E E1 n j:K}{z:s.D}{Y:Od}(e:Qb cx σ o=Z Y)(f:(∃xs,Y=.vr s E a E1 n j z xs)\/Y=.vh s E a E1 n j z)(h:yV S (MS vs σ.ob++(MS vs cx.ob++F)) w):
 vrP a (xu n s j)/\∃b,yR (vs o)=.pointer (Z ⟨b,0,wW⟩)/\(mB (dj s.rep (XJ<|xu n s j) (ZL a (xu n s j) [])<|wg<|vs o) E b (z,0)).p S w:=by
 have c:=Ys h e;rcases f with⟨xs,rfl⟩|rfl
 exact(zsg c).2;exact(zs1 c).2
def zc1(A:y6 P cf.tt){a:TI}{o:K}{s c:Ty}{E E1 n i j:K}{f:Fl s.D}{z:s.D}{Y:Od}{k:N (K×Dv)->V R}(ht:YF cf t=Z a)(hd:xG cx σ x=Z (.vf o s n i))(B:Qb cx σ o=Z Y)
 (C:(∃xs,Y=.vr s E c E1 n j z xs)\/Y=.vh s E c E1 n j z) (G:i≠j) (e:xu n s i=Z f) (h:(Ty.cast f.f a.ty (f.get z) λy=>k [(0,.d a.ty y)])=Z r):
 ∃l,k l=Z r/\ES P ⟨d,.load t x,ty,wl,wn,g⟩ cx σ F l:=by
 have⟨m,h⟩:=yv h;have⟨p,J,_⟩:=Xj A ht;have hc:=e;have⟨off,T,U,st⟩:=f;simp only at m;subst m;refine⟨_,h,Zi λH w S vs L hl=> ?_⟩;have⟨hi,b,h1,M⟩:=zgx B C L;have⟨b',f',q,v,Q⟩:=zj hd (yO hl<|by simp[xaC]);rw[h1]at q;cases q;rw[hc]at v;cases v;exact⟨_,_,_,_,[],[mB (dj s.rep (XJ<|xu n s j) (ZL c (xu n s j) [])<|wg<|vs o) E b (z,0)],V8 0 O (Q.trans<|by rw[xaM]) (zbI hi hc G) J,⟨M,ul⟩,ul,λu w' _ e=>zA e.1⟩
def zeO(v:y6 P cf.tt){i:K}{k:N (K×Dv)->V R}(h:MY cf cx σ t x i k=Z r):∃l,k l=Z r/\ES P ⟨d,.fieldAddr t x i,ty,wl,wn,g⟩ cx σ F l:=by
 have A:∀{vs H S w},(∀C∈yS (.fieldAddr t x i),Lk P vs H S w cx σ C)->Xt P vs H S w cx σ x:=λhl=>yO hl<|by simp[xaC]
 have c:∀{o E E1 n j:K}{s p:Ty}{z:s.D}{Y:Od}{B:K},YF cf t=Z ⟨s,.st n,B⟩->xG cx σ x=Z (.mw o)->Qb cx σ o=Z Y->((∃xs,Y=.vr s E p E1 n j z xs)\/Y=.vh s E p E1 n j z)->(xu n s i).isSome=qR->k [(0,.vf o s n i)]=Z r->
  ∃l,k l=Z r/\ES P ⟨d,.fieldAddr t x i,ty,wl,wn,g⟩ cx σ F l:=λht q m G u h=>by
  have⟨f,u⟩:=Option.isSome_iff_exists.1 u;refine⟨_,h,?_⟩;intro H w S vs L J hl;have⟨_,b,h1,_⟩:=zgx m G J;have hc:ev H x=yR (vs _):=zj q<|A hl;exact uF.of_value (r9 (SO v ht u) (hc.trans h1) w) ⟨yL.refl _ _,zA ⟨b,f,h1,u,O⟩⟩
 unfold MY at h;split at h;rename_i e n B o ht q;split at h;rename_i s E p E1 n' j z xs m;have⟨a,h⟩:=yo h;rw[xae,xae]at a;obtain rfl:=yh a.1.1;obtain rfl:=J0 a.1.2;exact c ht q m (.inl ⟨_,O⟩) a.2 h;rename_i s E p E1 n' j z m;have⟨a,h⟩:=yo h;rw[xae,xae]at a;obtain rfl:=yh a.1.1;obtain rfl:=J0 a.1.2;exact c ht q m (.inr O) a.2 h;cases h
 cases h
def zjI(M:y6 P cf.tt){k:N (K×Dv)->V R}(h:zaW cf cx σ t x k=Z r):∃l,k l=Z r/\ES P ⟨d,.load t x,ty,wl,wn,g⟩ cx σ F l:=by
 have hx:∀{vs H S w},(∀t'∈yS (.load t x),Lk P vs H S w cx σ t')->Xt P vs H S w cx σ x:=λhl=>yO hl (by simp[xaC]);unfold zaW at h;split at h;rename_i e E B o j ht J;split at h;rename_i s Q E1 c ix A;have⟨L,hi,_⟩:=Xj M ht;have⟨q,Y,h⟩:=wX h;refine⟨_,h,Zi λH w S vs hM hl=> ?_⟩;have hm:(Bh s.rep Q E1 (vs o) c ix).p S w:=Ys hM A;have⟨b,m,v,h1,T,h3⟩:=zj J<|hx hl;have⟨a1,a2,a3⟩:=Oe hm;have hn:m=X ix:=by
  have⟨cs,h5,h6⟩:=a2;rcases h5.2 with⟨hv,h7⟩|⟨g',a,a0,hv,_⟩
  rw[h1]at hv;cases hv
  rw[h1]at hv;cases hv;rfl
 have⟨b',a,hv,hb⟩:=aV a2 W;rw[h1]at hv;cases hv;have hc:=Sub.rowT0 (YY<|wg<|vs o) v ix j (ix.getD j 0)<|getD_some 0 T;exact⟨_,_,_,_,[],[mB (rowT (YY<|wg<|vs o) v) Q b ix],V8 0 O h3 hc hi,⟨hb,ul⟩,ul,λu w' _ C=>zA (by have:=zfV C.1;rw[<-Y]at this;exact this)⟩
 cases h
 rename_i ti o e p j f hd J;split at h;rename_i s Q E1 c ix A;have⟨U,h1⟩:=yv h;cases U;have⟨q,Y,T⟩:=wX h1;have⟨U,h⟩:=yv T;have⟨L,hi,_⟩:=Xj M hd;have⟨off,ff,gt,st⟩:=f;simp only at U;subst U;refine⟨_,h,Zi λH w S vs hM hl=> ?_⟩;have hm:(Bh e.rep Q E1 (vs o) c ix).p S w:=Ys hM A;have⟨h0,b,m,cap,h1,T,h3⟩:=zj J<|hx hl;have hr:=(tD hm h1).1;have hn:m=X (Zf (α:=e.D) c p):=by
  have⟨cs,h5,h6⟩:=hr;rcases h5.2 with⟨hv,h7⟩|⟨g',a,a0,hv,_⟩
  cases hv
  cases hv;rfl
 have⟨b',a,hv,hb⟩:=aV hr W;cases hv;have hc:=(Sub.rowT0 e.rep cap (Zf (α:=e.D) c p) j ((Zf (α:=e.D) c p).getD j e.z)<|getD_some e.z W).comp<|h0<|(Zf (α:=e.D) c p).getD j e.z;subst Y;exact⟨_,_,_,_,[],[mB (rowT e.rep cap) E1 b<|Zf (α:=e.D) c p],V8 0 O h3 hc hi,⟨hb,ul⟩,ul,λu w' _ C=>zA C.1⟩
 cases h
 rename_i ti o s0 n0 i hd J;split at h;rename_i s E s1 E1 n j z xs A;have⟨G,h⟩:=yo h;rw[xae]at G;obtain rfl:=yh G.1;obtain rfl:=J0 G.2;have⟨hj,f,C,h⟩:=zbF h;exact zc1 M hd J A (.inl ⟨_,O⟩) hj C h;rename_i s E s1 E1 n j z A;have⟨G,h⟩:=yo h;rw[xae]at G;obtain rfl:=yh G.1;obtain rfl:=J0 G.2;have⟨hj,f,C,h⟩:=zbF h;exact zc1 M hd J A (.inr O) hj C h;cases h
 cases h
def zf7(L:y6 P cf.tt)(hL:ua P cf.tt){lo hi:V uL}{k:N (K×Dv)->V R}(h:Na cf cx σ t x lo hi k=Z r):∃l,k l=Z r/\ES P ⟨d,.slice t x lo hi wW,ty,wl,wn,g⟩ cx σ F l:=by
 have hx:∀{vs H S w},(∀C∈yS (.slice t x lo hi wW),Lk P vs H S w cx σ C)->Xt P vs H S w cx σ x:=λhl=>yO hl (by simp[xaC]);have hc:∀{vs H S w z},lo=Z z->(∀C∈yS (.slice t x lo hi wW),Lk P vs H S w cx σ C)->Xt P vs H S w cx σ z:=λe hl=>yO hl (by simp[xaC,e]);have hd:∀{vs H S w z},hi=Z z->(∀C∈yS (.slice t x lo hi wW),Lk P vs H S w cx σ C)->Xt P vs H S w cx σ z:=λe hl=>yO hl (by simp[xaC,e]);unfold Na at h;split at h;rename_i e E B o ht hn;split at h;rename_i s E' E1 ws ix ho;have⟨bytes,T,U⟩:=Uw L hL ht
 have u:∀(l m:K),l<=m->m<=X ix->k [(0,.mv o l<|m-l)]=Z r->(∀vs H S w,(∀C∈yS (.slice t x lo hi wW),Lk P vs H S w cx σ C)->((lo.map<|ev H)=Z (.int .i64 (l:J))\/(lo=wW/\l=0))/\((hi.map<|ev H)=Z (.int .i64 (m:J))\/(hi=wW/\m=X ix)))->
  ∃l,k l=Z r/\ES P ⟨d,.slice t x lo hi wW,ty,wl,wn,g⟩ cx σ F l:=by
  intro l m h1 j h5 h4;refine⟨_,h5,λH w S vs hS hM hl=> ?_⟩;have⟨Y,M⟩:=h4 vs H S w hl;have hf:ev H x=yR (vs o):=zj hn<|hx hl;have hm:(Bh s.rep E' E1 (vs o) ws ix).p S w:=Ys hM ho;rcases gk (Oe hm).2.1 with⟨hv,hg⟩|⟨b,cap,hv,hj,hp⟩
  rw[hg]at j M;obtain rfl:m=0:=Nat.le_zero.1 j;obtain rfl:l=0:=Nat.le_zero.1 h1;have G:=Ni (P:=P) (w:=w) (qY L ht) U (Y.imp id λq=>by rw[q.1];rfl) (M.imp id λq=>by rw[q.1];rfl);refine uF.of_value (v:=.slice wW 0 0) (w':=w) (by simp[uT,hf.trans hv,G]) ⟨yL.refl _ _,zA (.inr ⟨hv,O,O,O⟩)⟩;have G:=C7 (P:=P) (b:=b) (o:=0) (n:=X ix) (cap:=cap) (w:=w) (l:=l) (h:=m) (qY L ht) U (Y.imp id λq=>⟨by rw[q.1];rfl,q.2⟩) (M.imp id λq=>⟨by rw[q.1];rfl,q.2⟩) h1<|xao j hj;rw[<-hv,<-hf]at G;refine uF.of_value (v:=.slice (if cap=l then Z ⟨b,0,wW⟩else Z ((⟨b,0,wW⟩:aC).add<|l*1)) (m-l)<|cap-l) (w':=w) (by simp[uT,G,Ty.rep,eS]) ⟨yL.refl _ _,zA ?_⟩;exact .inl ⟨b,X ix,cap,hv,W,hj,W,by rw[jy]⟩
 rcases aU h with⟨e1,h1⟩|⟨zl,l,e1,h1,hk⟩
 rcases aU h1 with⟨A,j⟩|⟨zh,m,A,j,Q⟩
 have⟨a,c,q1,q2,D,f,i⟩:=Mx j;exact u a c q1 q2 D λvs H S w hl=>⟨.inr ⟨e1,(f.resolve_left m7).2⟩,.inr ⟨A,(i.resolve_left m7).2⟩⟩;have⟨a,c,q1,q2,D,f,i⟩:=Mx j;obtain i|⟨i,_⟩:=i
 cases i;exact u a m q1 q2 D λvs H S w hl=>⟨.inr ⟨e1,(f.resolve_left m7).2⟩,.inl<|by rw[A];exact Z4 Z<|Q P vs H S w<|hd A hl⟩
 cases i
 rcases aU h1 with⟨A,j⟩|⟨zh,m,A,j,Q⟩
 have⟨a,c,q1,q2,D,f,i⟩:=Mx j;obtain f|⟨f,_⟩:=f
 cases f;exact u l c q1 q2 D λvs H S w hl=>⟨.inl (by rw[e1];exact Z4 Z<|hk P vs H S w<|hc e1 hl),.inr ⟨A,(i.resolve_left m7).2⟩⟩
 cases f
 have⟨a,c,q1,q2,D,f,i⟩:=Mx j;obtain f|⟨f,_⟩:=f
 obtain i|⟨i,_⟩:=i
 cases f;cases i;exact u l m q1 q2 D λvs H S w hl=>⟨.inl (by rw[e1];exact Z4 Z<|hk P vs H S w<|hc e1 hl),.inl<|by rw[A];exact Z4 Z<|Q P vs H S w<|hd A hl⟩
 cases i
 cases f
 cases h
 cases h
def znl(q:y6 P cf.tt){a:Z5 uL}{ts:Z5 ut}{k:N (K×Dv)->V R}(h:zgC cf cx σ a.toList ts.toList k=Z r):
 ∃l,k l=Z r/\ES P ⟨d,.call ⟨.builtin .len,a,ts⟩,ty,wl,wn,g⟩ cx σ F l:=by
 unfold zgC at h;split at h;rename_i _ _ x t hd Q;obtain rfl:a= #[x]:=by cases a;simp_all
 obtain rfl:ts= #[t]:=by cases ts;simp_all
 have z:∀{vs H S w},(∀J∈yS (.call ⟨.builtin .len,#[x],#[t]⟩),Lk P vs H S w cx σ J)->Xt P vs H S w cx σ x:=λhl=>yO hl (by simp[xaC,xeJ]);split at h;rename_i e E B o ht f;split at h;rename_i s i E1 j ix v;refine⟨_,h,Zi λH w S vs A hl=> ?_⟩;have C:(Bh s.rep i E1 (vs o) j ix).p S w:=Ys A v;exact⟨_,_,_,_,[],[mO (YY<|wg<|vs o) i (yR<|vs o) ix],LA 0 O (qY q ht)<|zj f<|z hl,⟨(Oe C).2.1,ul⟩,ul,λu w' D L=>zA<|ve<|RJ D⟩;cases h
 rename_i e E B o lo n ht f;split at h;rename_i s i E1 j ix v;refine⟨_,h,zK λH w S vs hl=> ?_⟩;rcases(zj f (z hl):Ss _ _ _ _).old with⟨b,m,cap,c,q1,q2,G,T,M⟩|⟨q1,U,c,q2,G⟩
 exact⟨_,Rh (qY q ht) M w,zA<|ve<|RJ W⟩;subst q1;exact⟨_,Rh (qY q ht) G w,zA<|ve m6⟩;cases h
 rename_i e E B o p ht f;split at h;rename_i s i E1 j ix v;refine⟨_,h,Zi λH w S vs A hl=> ?_⟩;have C:(Bh s.rep i E1 (vs o) j ix).p S w:=Ys A v;have hc:(wg<|vs o)[p]? =Z (ev H x):=zj f<|z hl;exact⟨_,_,_,_,[],[mO s.rep E1 (ev H x)<|Zf j p],LA 0 O (qY q ht) O,⟨(tD C hc).1,ul⟩,ul,λu w' D L=>zA<|ve<|RJ D⟩;cases h
 cases h
 cases h
def Tru:K->Prop:=λ_=>Ws
def zax(f:FF)(h:f.p S w):f.p Tru w:=f.sub h λ_ _ _=>ul
def re(B:∀s∈cf.cs,y8 P s):∀{dom:N AM}{xs:N uL}{cs:N PD}{k:aH dom->V R},Q6 cf cx σ dom xs cs k=Z r->
 ∃z,k z=Z r/\X xs+X cs=X dom/\∀vs H S w,yV S (MS vs σ.ob++(MS vs cx.ob++F)) w->(∀x∈xs,Xt P vs H S w cx σ x)->∀a:N jp,X a=X cs->zD S (GX cs a) w->zD Tru (jQ P dom z<|xs.map (ev H)++a) w
 |[],[],[],k,h=>⟨(),h,O,λ_ _ _ _ _ _ _ _ _=>ul⟩
 |.q t::dom,[],c::cs,k,h=>by
  simp only[Q6]at h;have⟨e,h⟩:=yv h;subst e;have⟨z,h1,l,u⟩:=re B h;refine⟨_,h1,by simp at l⊢;lia,λvs H S w i hl a j hc=> ?_⟩
  cases a with
  |nil=>cases j
  |cons v a=>exact⟨zax _ hc.1,u vs H S w i hl a (by simpa using j) hc.2⟩
 |.d t::dom,x::xs,cs,k,h=>by
  simp only[Q6]at h;split at h;rename_i o lo n hd;split at h;rename_i s E E1 D ix L;have⟨e,h⟩:=yv h;subst e;have⟨z,h1,l,u⟩:=re B h;refine⟨_,h1,by simp at l⊢;lia,λvs H S w i hl a j hc=>⟨?_,u vs H S w i (λz C=>hl z<|FS _ C) a j hc⟩⟩;have M:(Bh s.rep E E1 (vs o) D ix).p S w:=Ys i L;have⟨Q,T,a3⟩:=Oe M;have U:(mO (eS s.rep) E (yR<|vs o)<|zel D ix).p Tru w:=by have⟨A,q1,q2⟩:=T;refine⟨A,by unfold zel;rw[xaj];exact q1,?_⟩;exact Ab Q (λ_ _=>ul) (λ_ _ _ _=>ul) a3 q2
  show(fV (eS<|eS s.rep) (xdH n<|xdT lo<|zel D ix)<|ev H x).p Tru w;rcases(zj hd (hl x<|IR):Ss _ _ _ _).old with⟨b,m,cap,c,q1,q2,G,Y,q5⟩|⟨q1,J,c,q2,G⟩
  have:=LU U q1 q2 G Y;rw[q5];have⟨J,c',p1,p2,p3,p4⟩:=this;refine wi.2 ⟨J,c',p1,p2,p3,p4.imp id ?_⟩;rintro⟨b',o',A,r1,r2,r3⟩;exact⟨b',o',A,r1,ul,r2,r3⟩;subst q1;rw[G];exact wi.2 ⟨J,c,m7,m7,by unfold JP;lia,.inl m7⟩;cases h
  have⟨y,h,hy⟩:=Qg h;have⟨z,h1,l,u⟩:=re B h;exact⟨_,h1,by simp at l⊢;lia,λvs H S w i hl a j hc=>⟨zax _<|hy P vs H S w<|hl x<|IR,u vs H S w i (λz C=>hl z<|FS _ C) a j hc⟩⟩
 |.fn K cod::dom,x::xs,cs,k,h=>by
  simp only[Q6]at h;have⟨f,h,hf⟩:=zio B h;have⟨z,h1,l,u⟩:=re B h;refine⟨_,h1,by simp at l⊢;lia,λvs H S w i hl a j hc=>⟨?_,u vs H S w i (λz C=>hl z<|FS _ C) a j hc⟩⟩
  cases hv:xG cx σ x with
  |none=>rename_i h0;rw[hv]at h0;simp[asF]at h0
  |some v=>exact zax _<|hf vs S w v _ hv<|zj hv<|hl x<|IR
 |[],_::_,_,_,h=>by simp[Q6]at h
 |[],[],_::_,_,h=>by simp[Q6]at h
 |.d _::_,[],_,_,h=>by simp[Q6]at h
 |.own _ _::_,_,_,_,h=>by simp[Q6]at h
 |.q _::_,_::_,_,_,h=>by simp[Q6]at h
 |.fn _ _::_,[],_,_,h=>by simp[Q6]at h
 |.q _::_,[],[],_,h=>by simp[Q6]at h
def MB:∀{rs:N RM}{x:Ia (rs.map RM.ty)}{us:N jp},PG rs=qR->zD Tru (csF (rs.map RM.ty) x us) w->zD S (csF (rs.map RM.ty) x us) w
 |[],_,_,_,_=>trivial
 |[.d .i],x,us,_,h=>⟨h.1,ul⟩
 |[.d .u],x,us,_,h=>⟨h.1,ul⟩
 |[.d .b],x,us,_,h=>⟨h.1,ul⟩
 |.d .i::n::r,x,us,a,h=>⟨h.1,MB (rs:=n::r) a h.2⟩
 |.d .u::n::r,x,us,a,h=>⟨h.1,MB (rs:=n::r) a h.2⟩
 |.d .b::n::r,x,us,a,h=>⟨h.1,MB (rs:=n::r) a h.2⟩
def zla(p:∀s∈cf.cs,y8 P s)(J:Bp P cf){f:uL}{a:Z5 uL}{ts:Z5 ut}{k:N (K×Dv)->V R}(h:zaT cf cx σ f a.toList k=Z r):
 ∃l,k l=Z r/\ES P ⟨d,.call ⟨.value f,a,ts⟩,ty,wl,wn,g⟩ cx σ F l:=by
 have u:∀{vs H S w},(∀i∈yS (.call ⟨.value f,a,ts⟩),Lk P vs H S w cx σ i)->Xt P vs H S w cx σ f:=λhl=>yO hl (by simp[xaC,xeJ]);have A:∀{vs H S w},(∀i∈yS (.call ⟨.value f,a,ts⟩),Lk P vs H S w cx σ i)->∀x∈a.toList,Xt P vs H S w cx σ x:=λhl x j=>yO hl (by simp only[xaC,xeJ,Array.toList_append,xab];exact .inr j);unfold zaT at h;split at h;rename_i f0 cs B;split at h;rename_i s m;have⟨h1,c⟩:=zjf m;have⟨C,e⟩:=J.cl s h1;have⟨z,h,hd,n⟩:=Nc h;refine⟨_,h,Zi λH w S vs D hl=> ?_⟩;have⟨b,hv,o,E⟩:=zj B<|u hl;obtain rfl:b=[]:=xbs.1 o;have hc:=e z (a.toList.map<|ev H) (by simpa using hd);rw[c]at hc C;rw[<-xbo<|a.toList.map<|ev H]at hc;exact⟨_,_,_,_,tsF s.dom z<|a.toList.map (ev H)++[],[],ox (asv:=a.toList) C hv hc O<|λS w h=>h,ul,by rw[xbo];exact n P vs H S w<|A hl,λv w' _ hi=>zA hi.1⟩;split at h;rename_i s m;have⟨h1,c,L,M,G⟩:=CC m;have e:=p s h1;have⟨hn,h⟩:=yo h;have⟨z,h,hd,n⟩:=re (F:=F) p h;have⟨q,Q,h⟩:=B6 h;refine⟨_,h,λH w S vs Y D hl=> ?_⟩;have⟨b,hv,o,E⟩:=zj B<|u hl;have hc:=oc e L M G Q (us:=a.toList.map (ev H)++b) (by simp at hd⊢;lia);rw[c]at hc;have T:=n vs H S w D (A hl) b o E;refine(ox (asv:=a.toList) (ms:=[]) (Γ:=jQ P s.dom z<|a.toList.map (ev H)++b) (c▸e.1) hv hc O (λS w h=>h) w Tru (λ_ _=>ul) ul T).mono ?_;rintro v w' ⟨us,rfl,U,j,hi⟩;refine⟨j,?_⟩;unfold zj9;rw[L4 G,Pw];exact Ey (MB hn hi)<|by simpa using U
 cases h
 cases h
def zs4(a:y6 P cf.tt)(b:ua P cf.tt)(e:∀s∈cf.cs,y8 P s)(f:Bp P cf){c:Op}{k:N (K×Dv)->V R}(h:eCo cf cx σ c k=Z r):∃l,k l=Z r/\ES P ⟨d,c,ty,wl,wn,g⟩ cx σ F l:=by unfold eCo at h;split at h;exact zjI a h;exact zil a b h;exact zeO a h;exact zf7 a b h;exact znl a h;exact zla e f h;cases h
def zmA(b:y6 P cf.tt)(c:ua P cf.tt)(e:∀s∈cf.cs,y8 P s)(f:Bp P cf){a:Op}{k:N (K×Dv)->V R}(h:eOp cf cx σ a k=Z r):∃l,k l=Z r/\ES P ⟨d,a,ty,wl,wn,g⟩ cx σ F l:=by
 unfold eOp at h;cases hc:zrE cf cx σ a<;>rw[hc]at h
 exact zoY b c e f.ex h;exact zs4 b c e f h
end
end
section
section
variable{P:Z2}{cf:Cf}{fr:Fr}{cx σ:Sg}{vs mK:wP->jp}{H:xr}{w:jP}{R:Type}{r:R}
 {d:wS Wn}{ty t yt:ut}{wl:String}{wn:Z5 Edge}{g:wS (wP×uS)}{x y:uL}
abbrev GS(P:Z2)(vs:K->jp)(H:xr)(fr:Fr)(cx σ:Sg):N FF:=RS P vs H σ.rg++(RS P vs H cx.rg++fr.G)
abbrev OS(vs:K->jp)(fr:Fr)(cx:Sg)(ob:N (K×Od)):N MF:=MS vs ob++(MS vs cx.ob++fr.F)
def Xi{S:K->Prop}(h:zD S (GS P vs H fr cx σ) w)(t:Wn):Lk P vs H S w cx σ t:=by
 intro i dv hd;obtain hm|hm:=CR hd
 exact J8 (zD.left h) hm;exact J8 (zD.left<|zD.right h) hm
def zO{S:K->Prop}(h:zD S (GS P vs H fr cx σ) w)(x:uL):Xt P vs H S w cx σ x:=λt _=>Xi h t
def dq(P:Z2)(fr:Fr)(cx σ:Sg)(vs:K->jp)(H:xr)(w:jP):Prop:=Bd cx σ/\St fr.we fr.Se (OS vs fr cx σ.ob) (GS P vs H fr cx σ) w
def nV(P:Z2)(fr:Fr)(cx:Sg)(n:K)(vs:K->jp)(σ:Sg)(H:xr)(w:jP):Prop:=∃mK,(∀o,o<n->mK o=vs o)/\dq P fr cx σ mK H w
def nV.rel{n:K}(h:nV P fr cx n vs σ H w):u7 P fr cx σ H w:=by have⟨mK,_,h1,a⟩:=h;exact⟨h1,mK,a⟩
theorem Ow{v:jp}{xS:Sg}{l:N (K×Dv)}{Γl:N FF}(c:Bd cx σ)(hd:wZ cx d=qR)(i:xS.rg=qU σ.rg d l)(hn:σ.nx<=xS.nx)(j:∀o,o<σ.nx->mK o=vs o)
 (hl:∀e∈l,∀o,vC e.2=Z o->o<xS.nx) (n:∀e∈xS.ob,e.1<xS.nx) (q:∀S w,zD S Γl w->∀e∈l,(qp P mK e.2 v e.1).p S w)
 (s:St fr.we fr.Se (OS mK fr cx xS.ob) (Γl++GS P vs H fr cx σ) w):dq P fr cx xS mK (put H d v) w:=by
 refine⟨⟨n,λe he=>xac (c.o2 e he) hn,?_,λe he o a=>xac (c.r2 e he o a) hn⟩,s.weak λS w h=> ?_⟩;intro e he o a;rw[i]at he;unfold qU at he
 cases d with
 |none=>exact xac (c.r1 e he o a) hn
 |some t=>
  obtain he|he:=xab.1 he
  grind;exact xac (c.r1 e (xbX.1 he).1 o a) hn
 have b:=zD.right h;have h1:zD S (RS P mK H σ.rg) w:=by rw[uG (λe he o a=>j o<|c.r1 e he o a)<|λ_ _=>O];exact zD.left b
 have k:zD S (RS P mK H cx.rg) w:=by rw[uG (λe he o a=>j o<|c.r2 e he o a)<|λ_ _=>O];exact zD.left<|zD.right b
 have m:=zD.right<|zD.right b
 cases d with
 |none=>
  unfold GS;rw[show xS.rg=σ.rg from i];exact zD.append h1<|zD.append k m
 |some t=>
  have u:RS P mK (put H (Z t) v) cx.rg=RS P mK H cx.rg:=uG (λ_ _ _ _=>O) λe he=>nF λht=>by
   simp only[wZ,Wq,xaV]at hd;have:=hd e he;simp only[xav]at ht;rw[ht]at this;simp at this
  unfold GS;rw[i,u];refine zD.append (k9.2 λf hp=> ?_)<|zD.append k m;obtain⟨e,he,rfl⟩:=xat.1 hp;obtain he|he:=xab.1 he
  obtain⟨z,A,rfl⟩:=xat.1 he;simp only[DA];exact q S w (zD.left h) z A
  have⟨B,hi⟩:=xbX.1 he;have C:Z t≠Z e.1:=λhc=>by
   simp only[xav]at hc;rw[hc]at hi;simp at hi
  rw[nF C];exact J8 h1 B
def Kq{v:jp}{xS:Sg}{l:N (K×Dv)}{Γl:N FF}(b:Bd cx σ)(hd:wZ cx d=qR)(hc:xS.rg=qU σ.rg d l)(hn:σ.nx<=xS.nx)(a:∀o,o<σ.nx->mK o=vs o)
 (hl:∀e∈l,∀o,vC e.2=Z o->o<xS.nx) (c:∀e∈xS.ob,e.1<xS.nx) (f:∀S w,zD S Γl w->∀e∈l,(qp P mK e.2 v e.1).p S w)
 (h:St fr.we fr.Se (OS mK fr cx xS.ob) (Γl++GS P vs H fr cx σ) w):nV P fr cx σ.nx vs xS (put H d v) w:=⟨mK,a,Ow b hd hc hn a hl c f h⟩
def zkq(P:Z2)(vs:K->jp)(v:jp)(l:N (K×Dv)):N FF:=l.map λe=>qp P vs e.2 v e.1
def O3{n:K}{l:N (K×Dv)}(h:okL n l=qR):∀e∈l,∀o,vC e.2=Z o->o<n:=by intro e a o b;unfold okL at h;rw[xaV]at h;have:=h e a;simp_all
def ES.mono{o:Wd}{l:N (K×Dv)}{F:N MF}(h:ES P o cx σ [] l):ES P o cx σ F l:=by
 intro H w S vs h1 a b;refine h H w S vs h1 (Yw.2 λm hm=>Yw.1 a m ?_) b;obtain hm|hm:=xab.1 hm
 simp_all;simp_all
def zmn{o:Wd}{l:N (K×Dv)}(h:ES P o cx σ fr.F l)(hd:wZ cx o.dst=qR)(hl:okL σ.nx l=qR)(q:dq P fr cx σ vs H w):uF P o H w (λv w'=>nV P fr cx σ.nx vs (σ.put o.dst l) (put H o.dst v) w'):=by have⟨j,h1,s,u,S,z,n,A,b,p⟩:=q;refine(h H w S vs n b λt _=>Xi p t).mono ?_;rintro v w' ⟨a,B⟩;refine Kq (xS:=σ.put o.dst l) (Γl:=zkq P vs v l) j hd O (Nm _) (λ_ _=>O) (O3 hl) j.o1 (λS w C e c=>k9.1 C _<|xat.2 ⟨e,c,O⟩) ?_;refine⟨h1.trans a,s,u,S,z,λk D=>n k<|xao a.size D,A,yV.keep a.to (λm E i hi=>a.block i (yV.lt b m E i hi) ul) b,zD.append (k9.2 λf hc=> ?_)<|zD.keep a.to p⟩;obtain⟨e,c,rfl⟩:=xat.1 hc;exact B e c
def lK(P:Z2)(cx:Sg)(o:Wd)(σ:Sg)(k:Sg->V R)(r:R):Prop:=∃xS,k xS=Z r/\σ.nx<=xS.nx/\∀(fr:Fr) (vs:K->jp) (H:xr) (w:jP),dq P fr cx σ vs H w->uF P o H w (λv w'=>nV P fr cx σ.nx vs xS (put H o.dst v) w')
def m_E(hT:y6 P cf.tt)(hL:ua P cf.tt)(hC:∀s∈cf.cs,y8 P s)(hX:Bp P cf){op:Op}{k:Sg->V R}(hd:wZ cx d=qR)(h:mE cf cx σ d op k=Z r):lK P cx ⟨d,op,ty,wl,wn,g⟩ σ k r:=by
 obtain⟨l,h,ha⟩:=zmA hT hL hC hX h;obtain⟨hl,h⟩:=yo h;exact⟨_,h,Nm _,λfr vs H w hR=>zmn ha.mono hd hl hR⟩
def Wu(vs:K->jp)(n:K)(v:jp):K->jp:=λo=>bif Q o n then v else vs o
def wy{n:K}{v:jp}:Wu vs n v n=v:=by simp[Wu]
def uo{n o:K}{v:jp}(h:o<n):Wu vs n v o=vs o:=by unfold Wu;rw[YX W];rfl
def ziZ{n:K}{v:jp}{ob:N (K×Od)}(h:∀e∈ob,e.1<n):MS (Wu vs n v) ob=MS vs ob:=wV λe a=>uo<|h e a
def Lv{v:jp}{ob:N (K×Od)}(a:Bd cx σ)(h:∀e∈ob,e.1<σ.nx):OS (Wu vs σ.nx v) fr cx ob=OS vs fr cx ob:=by show MS _ ob++(MS _ cx.ob++_)=_;rw[ziZ h,ziZ a.o2]
theorem K6{v:jp}{mk:K->Dv}{X:Od}{ob:N (K×Od)}(a:Bd cx σ)(hd:wZ cx d=qR)(b:∀e∈ob,e.1<σ.nx)(i:∀o,vC (mk o)=Z o)(hc:∀S w,(vP P (Wu vs σ.nx v) (mk σ.nx) v).p S w)
 (c:St fr.we fr.Se (Kz (Wu vs σ.nx v) (σ.nx,X)::OS vs fr cx ob) (GS P vs H fr cx σ) w):nV P fr cx σ.nx vs ⟨σ.nx+1,qU σ.rg d [(0,mk σ.nx)],(σ.nx,X)::ob⟩ (put H d v) w:=by
 refine Kq (mK:=Wu vs σ.nx v) (Γl:=[]) a hd O (xby _) (λo f=>uo f) ?_ ?_ ?_ ?_;simp_all;grind;intro S w _ e h;obtain rfl:=xaf.1 h;exact hc S w;show St _ _ (Kz (Wu vs σ.nx v) (σ.nx,X)::OS (Wu vs σ.nx v) fr cx ob) _ _;rw[Lv a b];exact c
def KS{v:jp}(S:K->Prop)(w:jP):(vP P (Wu vs σ.nx v) (.ow σ.nx) v).p S w:=(wy).symm
def Tm{t:Ty}{b:K}(S:K->Prop)(w:jP):(vP P (Wu vs σ.nx (.pointer<|some ⟨b,0,wW⟩)) (.vs σ.nx t) (.pointer<|some ⟨b,0,wW⟩)).p S w:=⟨wy.symm,b,wy⟩
def UO{t:Ty}{E:ut}{xs:N t.D}{n:K}{v:jp}:Kz (Wu vs n v) (n,.own t E xs)=mO t.rep E v xs:=by simp only[Kz,wy]
def MN{t:Ty}{E:ut}{z:t.D}{n:K}{v:jp}:Kz (Wu vs n v) (n,.var t E z)=mP t.rep.c E v z:=by simp only[Kz,wy]
def zko(j:y6 P cf.tt){E:ut}{k:Sg->V R}(hd:wZ cx d=qR)(h:TX cf σ d E k=Z r):lK P cx ⟨d,.alloc E,ty,wl,wn,g⟩ σ k r:=by unfold TX at h;split at h;rename_i a l;have⟨f,hc,s,m⟩:=Xj j l;refine⟨_,h,xby _,λfr vs H w n=> ?_⟩;have⟨i,p⟩:=n;refine(Az (e:=a.ty.rep.c) hc m w p).mono ?_;rintro v w' ⟨b,rfl,_,q⟩;refine K6 (mk:=λo=> .vs o a.ty) i hd i.o1 (λ_=>O) (λS w=>Tm S w) ?_;rw[MN];exact q.toP 0 O;cases h
def zpW{E:ut}{k:Sg->V R}(hd:wZ cx d=qR)(h:zod cf cx σ d E x k=Z r):lK P cx ⟨d,.box E x,ty,wl,wn,g⟩ σ k r:=by unfold zod at h;split at h;rename_i c l;have⟨y,h,e⟩:=Qg h;refine⟨_,h,xby _,λfr vs H w f=> ?_⟩;have⟨a,hc⟩:=f;refine(zkU O (λS w i=>e P vs H S w<|zO i x) w hc).mono ?_;rintro v w' ⟨b,rfl,_,j⟩;refine K6 (mk:=λo=> .vs o c.ty) a hd a.o1 (λ_=>O) (λS w=>Tm S w) ?_;rw[MN];exact j.toP 0 O;cases h
def zbW(h:zcC x y=qR):ev H x=ev H y:=by unfold zcC at h;split at h;rw[yh h];simp only[eqI,US]at h;rw[h];cases h
def zoj(a:y6 P cf.tt){k:Sg->V R}(hd:wZ cx d=qR)(h:zgw cf cx σ d t x y k=Z r):lK P cx ⟨d,.makeSlice t x y,ty,wl,wn,g⟩ σ k r:=by
 unfold zgw at h;split at h;rename_i s E B ht;have⟨hi,h⟩:=yo h;split at h;rename_i f n i hn;have⟨C,h⟩:=yv h;subst C;have⟨l,hl,L,D⟩:=Xj a i;have⟨j,F,h⟩:=zb5 h;have⟨m,h⟩:=Ya h;have⟨xs,o,h⟩:=wX h;refine⟨_,h,xby _,λfr vs H w G=> ?_⟩;have⟨p,q⟩:=G;have⟨S0,_,c⟩:=q.ex;have u:ev H x=.int .i64 (j:J):=by rw[(vg hn<|zO c x).1,F]
 have A:=(a _ _ i).2.1;refine(Tl (e:=f.ty.rep) (z:=f.ty.z) (xs:=xs) (n:=j) (qY a ht) hl u ((zbW hi).symm.trans u) A m D o w q).mono ?_;rintro v w' ⟨b,rfl,_,K⟩;refine K6 (vs:=vs) (mk:=.ow) p hd p.o1 (λ_=>O) (λS w=>KS S w) ?_;rw[UO];have hc:X xs=j:=by rw[o];exact xaF
 have:=K.closeF 0 O (by rw[hc];exact Nm _)<|zh0 A m;rw[hc]at this;exact this;cases h
 cases h
def zqp(c:y6 P cf.tt)(f:ua P cf.tt){n:K}{ps:Z5 (K×uL)}{k:Sg->V R}(hd:wZ cx d=qR)(h:znG cf cx σ d t n ps.toList k=Z r):lK P cx ⟨d,.buildSlice t n ps,ty,wl,wn,g⟩ σ k r:=by
 unfold znG at h;split at h;rename_i e E B ht;have⟨hc,h⟩:=yo h;have hc:=xbJ hc;rw[<-e.n_rep]at hc;have⟨ys,h,m,o⟩:=pY h;have⟨bytes,i,hi⟩:=Uw c f ht;refine⟨_,h,xby _,λfr vs H w p=> ?_⟩;have⟨j,s⟩:=p;have u:(ps.toList.map λq:K×uL=>(q.1,ev H q.2)).map (·.1)=xfw 0 (X (ps.toList.map λq:K×uL=>(q.1,ev H q.2))):=by rw[xdj,xaj];exact m
 have l:=λ(S:K->Prop) (w:jP) (a:zD S (GS P vs H fr cx σ) w)=>LB u<|o P vs H S w λx _=>zO a x;refine(zgZ (qY c ht) hi (zh7 c f ht) (iJ n e ys) hc O (λS w a=>by have:=(l S w a).1;rwa[xct]at this) (λS w a=>(l S w a).2) w s).mono ?_;rintro v w' ⟨b,rfl,_,z⟩;refine K6 j hd j.o1 (λ_=>O) (λS w=>KS S w) ?_;rw[UO];exact z;cases h
end
end
end Go.Proofs.YtoegnnjcmlghhaaGreat
