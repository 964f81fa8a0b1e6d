/- What a proof needs: rules of walking, mirrors of functions and their plain laws. No condition. -/
import Derived.Test.YtoegnnjcmlghhaaGreatZm1
import Derived.WideKeyArgs
import Derived.Laws.IdiomStrings
set_option linter.all false
namespace Go.Proofs.YtoegnnjcmlghhaaGreat
open Bool renaming false->I,true->wL
open Go renaming Value->wN,World->wP,TypeId->wT,Operand->wW,execOp->jp,Program->jP,run_underlying->ul,Oper->uT,undef->Z0,FuncId->Z2,Tmp->Z4,IntKind->Z5,Code->Z9,resolve->Ws,Func->WF,invoke->WP,ResultVar->WS,eqGuard->WW,sizeOf->V3,maxLen->V4,BinOp->Jp,asIntOf->Kw,builtin->Ut,Addr->UL,MemPlace->UP,Calls->UT,goInt->i8,Deferred->lm,DataW->lC
open Go.Proofs.YtoegnnjcmlghhaaGreat renaming Zr->M,bd->Y,za->U,nm->B,ze->A,iq->S
open List renaming length->X,length->pM
open Nat renaming beq->E
open Option renaming some->Z,none->wF
open _root_ renaming rfl->O,List->N,Int->J,Nat->K,Option->V,List->xS,Nat->wr,Option->ww,trivial->wR,absurd->wS,Bool->v6,Array->ut,congrArg->uL,if_false->uP,if_true->uS,Unit->Z3,True->Xs,cond_false->XS,cond_true->Wf,ByteArray->Wt,reduceCtorEq->WD,Decidable->QR,False->KW,decide_eq_true_eq->Us
open Bool renaming and_eq_true->xad,false_eq_true->xai
open Call renaming operands->xeH
open DataW renaming TrodAll->xeT
open Extern renaming find->xfa,findNext->xeP
open Extern.MathBitsCarry renaming m64->xbe,pair->xcm,three->xbK
open Instr renaming fill->xdJ,slice->xfT,sliceAt->xcV,sliceBound->xeJ,sliceBounds->xet
open Int renaming eq_ofNat_of_zero_le->xaC,fdiv->xfY,natCast_nonneg->xdl,tdiv->xdx,tmod->xcB,toNat_natCast->xaZ,toNat_of_nonneg->xdc
open IntKind renaming i64->xdb,u8->xfZ
open List renaming all_eq_true->xaT,append_assoc->xaq,append_nil->xbm,drop->xdO,getD->xeL,getD_eq_getElem?_getD->UV,getElem?_append_left->xbb,getElem?_append_right->xbr,getElem?_eq_getElem->xab,getElem?_eq_some_iff->xaz,getElem?_map->xbX,getElem_mem->xbG,length->xaI,length_append->xat,length_cons->xaw,length_eq_one_iff->xcT,length_eq_zero_iff->xbE,length_map->xav,length_replicate->xaM,length_take->xar,map_congr_left->xcc,map_cons->xbQ,map_map->xdg,mem_append->xaa,mem_cons->xah,mem_cons_of_mem->FS,mem_cons_self->IR,mem_filter->xbU,mem_filterMap->xeg,mem_map->xas,mem_singleton->xac,nil_append->xbN,not_mem_nil->H1,range->xaO,range'->xfv,replicate->Nm,set->xga,set_cons_succ->xfj,set_getElem_self->xdf,take->xdB,take_append_drop->xby,take_of_length_le->xaW
open List.cons renaming injEq->xdX
open Nat renaming add_assoc->xcK,add_mul->xbi,beq->xaf,ble->xfu,blt->xda,eq_of_beq_eq_true->xde,eq_zero_or_pos->xcs,le_of_ble_eq_true->xbH,le_of_lt->xdC,le_refl->So,le_succ->xbz,le_trans->xal,lt_of_le_of_lt->xaK,lt_of_lt_of_le->xag,lt_or_ge->xbS,mod_lt->xaN,not_lt_zero->xbc,zero_add->xaJ,zero_le->xae,zero_mul->xcC
open Op renaming operands->xaB
open Oper renaming looksAt->xbk
open Option.some renaming inj->xdW,injEq->xau
open Prod.mk renaming injEq->xcL
open Result renaming andThen_ok->xan
open Sem renaming run_bind->xay,run_pure->xaV
open Sum renaming elim->xfk
open Value renaming okWide->xeA
open _root_.Array renaming getElem?_eq_some_iff->xbf
section
structure XW where
 f:Z2
 dom:N AM
 cod:N RM
 M:UU dom->V (UK cod)
 bk:K
structure Ji where
 s:XW
 M:UU s.dom->V (PX⊕UK s.cod)
structure CY where
 f:Z2
 t:Ty
 E:wT
 E1:wT
 M:N (N t.D)->N K->K->J->J->K->K->V (N<|N t.D)
structure OM where
 f:Z2
 dom:N Ty
 g:Z2
 mc:nU dom->N PD
structure GB where
 f:Z2
 dom:N AM
 t:Ty
 E:wT
 M:UU dom->{X Y:Type}->(N t.D->X->V (N t.D×(X⊕Y)))->X->V (X⊕Y)
structure Cf where
 tt:N (K×TI)
 cs:N XW
 an:An
 fu:K
 ex:N (K×v6)
 ms:N CY:=[]
 cl:N OM:=[]
 is:N GB:=[]
 ps:N Ji:=[]
def zep:N CY->Z2->V CY
 |[],_=>wF
 |s::r,f=>bif E s.f f then Z s else zep r f
def zgU:N OM->Z2->V OM
 |[],_=>wF
 |s::r,f=>bif E s.f f then Z s else zgU r f
def zjx:N GB->Z2->V GB
 |[],_=>wF
 |s::r,f=>bif E s.f f then Z s else zjx r f
abbrev jt{R:Type}(b:v6)(x:V R):V R:=match b with
 |true=>x
 |false=>wF
abbrev NT{R:Type}(b:v6)(x y:V R):V R:=match b with
 |true=>x
 |false=>y
def ER:N AM->v6
 |[]=>wL
 |.own _ _::_=>I
 |.var _ _::_=>I
 |_::r=>ER r
def noV:N RM->v6
 |[]=>wL
 |.var _ _::_=>I
 |_::r=>noV r
def GX:N XW->Z2->V XW
 |[],_=>wF
 |s::r,f=>bif E s.f f && (ER s.dom && (E s.bk 0 && noV s.cod))then Z s else GX r f
section
variable{R:Type}(cf:Cf)(cx:Sg)
def zjM:Dv->V PD
 |.d t x=>Z ⟨t,x⟩
 |.kb b=>Z ⟨.b,b⟩
 |_=>wF
def BN(v:V Dv)(t:Ty)(k:t.D->V R):V R:=match v with
 |some .nil=>(match t,k with
  |.l s,k=>k ([]:N s.D)
  |_,_=>wF)
 |some .np=>(match t,k with
  |.po s,k=>k (wF:V s.D)
  |_,_=>wF)
 |some (.q s y)=>(match t,k with
  |.po a,k=>Ty.cast s a y λy=>k (Z y:V a.D)
  |_,_=>wF)
 |some v=>(match zjM v with
  |some p=>Ty.cast p.t t p.x k
  |none=>wF)
 |none=>wF
def arI(b:Jp)(a c:J)(k:Dv->V R):V R:=match b with
 |.add=>zf (a+c) λx=>k (.d .i x)
 |.sub=>zf (a-c) λx=>k (.d .i x)
 |.mul=>zf (a*c) λx=>k (.d .i x)
 |.quo=>ck (c≠0)<|zf (xdx a c) λx=>k (.d .i x)
 |.rem=>ck (c≠0)<|B (xcB a c) λx=>k (.d .i x)
 |.and=>B (Tn a c) λx=>k (.d .i x)
 |.or=>B (orI a c) λx=>k (.d .i x)
 |.shr=>ck (0<=c)<|B (xfY a<|2^(min c.toNat 64)) λx=>k (.d .i x)
 |.shl=>ck (0<=c)<|zf (a*2^(min c.toNat 64)) λx=>k (.d .i x)
 |.lss=>if a<c then k (.kb wL)else k (.kb I)
 |.leq=>if a<=c then k (.kb wL)else k (.kb I)
 |.gtr=>if c<a then k (.kb wL)else k (.kb I)
 |.geq=>if c<=a then k (.kb wL)else k (.kb I)
 |.eql=>if a=c then k (.kb wL)else k (.kb I)
 |.neq=>if a=c then k (.kb I)else k (.kb wL)
 |_=>wF
def arU(b:Jp)(a c:K)(k:Dv->V R):V R:=match b with
 |.add=>B ((a+c)%18446744073709551616) λx=>k (.d .u x)
 |.sub=>B ((a+18446744073709551616-c)%18446744073709551616) λx=>k (.d .u x)
 |.mul=>B ((a*c)%18446744073709551616) λx=>k (.d .u x)
 |.quo=>ck (c≠0)<|B (a/c) λx=>k (.d .u x)
 |.rem=>ck (c≠0)<|B (a%c) λx=>k (.d .u x)
 |.and=>B (a &&& c) λx=>k (.d .u x)
 |.or=>B (a|||c) λx=>k (.d .u x)
 |.lss=>if(a:J)<(c:J)then k (.kb wL)else k (.kb I)
 |.leq=>if(a:J)<=(c:J)then k (.kb wL)else k (.kb I)
 |.gtr=>if(c:J)<(a:J)then k (.kb wL)else k (.kb I)
 |.geq=>if(c:J)<=(a:J)then k (.kb wL)else k (.kb I)
 |.eql=>if(a:J)=(c:J)then k (.kb wL)else k (.kb I)
 |.neq=>if(a:J)=(c:J)then k (.kb I)else k (.kb wL)
 |_=>wF
def arC(b:Jp)(a c:K)(k:Dv->V R):V R:=match b with
 |.add=>B ((a+c)%256) λx=>k (.d .ch x)
 |.sub=>B ((a+256-c)%256) λx=>k (.d .ch x)
 |.lss=>if(a:J)<(c:J)then k (.kb wL)else k (.kb I)
 |.leq=>if(a:J)<=(c:J)then k (.kb wL)else k (.kb I)
 |.gtr=>if(c:J)<(a:J)then k (.kb wL)else k (.kb I)
 |.geq=>if(c:J)<=(a:J)then k (.kb wL)else k (.kb I)
 |.eql=>if(a:J)=(c:J)then k (.kb wL)else k (.kb I)
 |.neq=>if(a:J)=(c:J)then k (.kb I)else k (.kb wL)
 |_=>wF
def eqT(b:Jp)(a c:N K)(k:Dv->V R):V R:=match b with
 |.add=>ck (X a+X c<=9223372036854775807)<|B (a++c) λx=>k (.d .tx x)
 |.eql=>if a=c then k (.kb wL)else k (.kb I)
 |.neq=>if a=c then k (.kb I)else k (.kb wL)
 |_=>wF
def shU(b:Jp)(a:K)(c:J)(k:Dv->V R):V R:=match b with
 |.shr=>ck (0<=c)<|B (a/2^(min c.toNat 64)) λx=>k (.d .u x)
 |.shl=>ck (0<=c)<|B (a*2^(min c.toNat 64)%18446744073709551616) λx=>k (.d .u x)
 |_=>wF
def zdC(b:Jp)(a c:K)(k:Dv->V R):V R:=match b with
 |.shr=>B (a/2^(min (c:J).toNat 64)) λx=>k (.d .u x)
 |.shl=>B (a*2^(min (c:J).toNat 64)%18446744073709551616) λx=>k (.d .u x)
 |_=>wF
def shI(b:Jp)(a:J)(c:K)(k:Dv->V R):V R:=match b with
 |.shr=>B (xfY a<|2^(min (c:J).toNat 64)) λx=>k (.d .i x)
 |.shl=>zf (a*2^(min (c:J).toNat 64)) λx=>k (.d .i x)
 |_=>wF
def eqB(e:Jp)(a c:v6)(k:Dv->V R):V R:=match e with
 |.eql=>B (a==c) λx=>k (.d .b x)
 |.neq=>B (!(a==c)) λx=>k (.d .b x)
 |_=>wF
def zd4(a:Jp)(b:v6)(k:Dv->V R):V R:=match a with
 |.eql=>if b=wL then k (.kb wL)else k (.kb I)
 |.neq=>if b=wL then k (.kb I)else k (.kb wL)
 |_=>wF
def eqP(a:Jp)(x:V Dv)(k:Dv->V R):V R:=match x with
 |some .np=>zd4 a wL k
 |some (.q _ _)=>zd4 a I k
 |some (.vs _ _)=>zd4 a I k
 |some (.d (.po s) y)=>zd4 a (Option.isNone (α:=s.D) y) k
 |_=>wF
def zkH:V Dv->v6
 |some .np=>wL
 |_=>I
def znQ(d:v6)(bo:Jp)(x y:V PD)(k:Dv->V R):V R:=match x,y with
 |some ⟨.i,a⟩,Z ⟨.i,c⟩=>arI bo a c k
 |some ⟨.u,a⟩,Z ⟨.u,c⟩=>(match bo with
  |.shr=>zdC .shr a c k
  |.shl=>zdC .shl a c k
  |bo=>arU bo a c k)
 |some ⟨.u,a⟩,Z ⟨.i,c⟩=>shU bo a c k
 |some ⟨.i,a⟩,Z ⟨.u,c⟩=>shI bo a c k
 |some ⟨.b,a⟩,Z ⟨.b,c⟩=>jt d<|eqB bo a c k
 |some ⟨.ch,a⟩,Z ⟨.ch,c⟩=>arC bo a c k
 |some ⟨.tx,a⟩,Z ⟨.tx,c⟩=>eqT bo a c k
 |_,_=>wF
def chI(a:K):Dv:=.d .i (a:J)
def chU(a:K)(k:Dv->V R):V R:=B (a%256) λx=>k (.d .ch x)
def zq0(b:TK)(x:V PD)(k:Dv->V R):V R:=match b,x with
 |.int .i64,Z ⟨.i,a⟩=>k (.d .i a)
 |.int .u64,Z ⟨.u,a⟩=>k (.d .u a)
 |.int .u64,Z ⟨.i,a⟩=>B (ET a) λx=>k (.d .u x)
 |.int .i64,Z ⟨.u,a⟩=>B (sgn a) λx=>k (.d .i x)
 |.int .i64,Z ⟨.ch,a⟩=>k<|chI a
 |.int .u64,Z ⟨.ch,a⟩=>k (.d .u a)
 |.int .u8,Z ⟨.ch,a⟩=>k (.d .ch a)
 |.int .u8,Z ⟨.u,a⟩=>chU a k
 |_,_=>wF
def pd(σ:Sg)(x:wW):V PD:=match xz cx σ x with
 |some v=>zjM v
 |none=>wF
def Yc(t:wT):V TI:=UC cf.tt t
def isB(t:wT):v6:=match Yc cf t with
 |some ⟨_,.bool,_⟩=>wL
 |_=>I
def zkq(t:wT):v6:=match Yc cf t with
 |some ⟨_,.pt _,_⟩=>wL
 |_=>I
def znf(σ:Sg)(x:wW)(k:N (K×Dv)->V R):V R:=match xz cx σ x with
 |some (.q t y)=>k [(0,.q t y)]
 |some (.vs o t)=>k [(0,.vs o t)]
 |some (.d (.po t) y)=>Y (β:=t.D) y λy=>k [(0,.q t y)]
 |_=>wF
def ifB(x:v6)(a c:V R):V R:=if x=wL then a else c
def eqI(x y:J):v6:=decide<|x=y
def eqU(x y:K):v6:=decide<|x=y
def ngI(a:J)(k:Dv->V R):V R:=zf (0-a) λx=>k (.d .i x)
def ngU(a:K)(k:Dv->V R):V R:=B ((18446744073709551616-a)%18446744073709551616) λx=>k (.d .u x)
def zqv{α:Type}(xs ys:N α)(B:K)(k:N α->V R):V R:=ck ((X xs+X ys)*B<=140737488355328)<|nm (xs++ys) k
def zr1{α:Type}(xs:N α)(n:K)(z:α)(B:K)(k:N α->V R):V R:=ck ((X xs+n)*B<=140737488355328)<|nm (xs++Nm n z) k
def ixU(j:K)(n:K)(k:K->V R):V R:=zF (j:J) n k
def zbj:wW->wW->v6
 |.tmp s,.tmp t=>E s t
 |.const (.int .i64 x),.const (.int .i64 y)=>eqI x y
 |_,_=>I
def exU(b:v6)(x y z:K)(k:N (K×Dv)->V R):V R:=
 ck (z<=1)<|NT b (B ((x+y+z)%18446744073709551616) λp=>B ((x+y+z)/18446744073709551616) λq=>k [(1,.d .u p),(2,.d .u q)])
  (B ((x+18446744073709551616-y-z)%18446744073709551616) λp=>B (if x<y+z then(1:K)else 0) λq=>k [(1,.d .u p),(2,.d .u q)])
def exD(b:v6)(x y z:V PD)(k:N (K×Dv)->V R):V R:=match x,y,z with
 |some ⟨.u,x⟩,Z ⟨.u,y⟩,Z ⟨.u,z⟩=>exU b x y z k
 |_,_,_=>wF
def parts(σ:Sg):(ts:N Ty)->N (K×wW)->K->(nU ts->V R)->V R
 |[],[],_,k=>k ()
 |t::ts,(i,x)::r,j,k=>jt (E i j)<|BN (xz cx σ x) t λy=>parts σ ts r (j+1) λys=>k (y,ys)
 |_,_,_,_=>wF
def zcH:(k:K)->Ty->N Ty
 |0,_=>[]
 |1,t=>[t]
 |k+2,.p s t=>s::zcH (k+1) t
 |_,_=>[]
def eG:(k:K)->(t:Ty)->nU (zcH k t)->V t.D
 |0,_,_=>wF
 |1,t,x=>Z x.1
 |k+2,.p s t,x=>match eG (k+1) t x.2 with
  |some y=>Z (x.1,y)
  |none=>wF
 |_+2,.i,_=>wF
 |_+2,.u,_=>wF
 |_+2,.b,_=>wF
 |_+2,.l _,_=>wF
 |_+2,.a _ _,_=>wF
 |_+2,.ch,_=>wF
 |_+2,.tx,_=>wF
 |_+2,.po _,_=>wF
 |_+2,.w1 _,_=>wF
def Ft:K->Ty->N Ty
 |0,_=>[]
 |n+1,t=>t::Ft n t
def Ck:(n:K)->(t:Ty)->nU (Ft n t)->N t.D
 |0,_,_=>[]
 |n+1,t,x=>x.1::Ck n t x.2
def br(σ:Sg):N wW->V (N PD)
 |[]=>Z []
 |x::r=>match xz cx σ x,br σ r with
  |some (.q t y),Z l=>Z (⟨t,y⟩::l)
  |_,_=>wF
def cy:(a:N AM)->N PD->V (UU a)
 |[],[]=>Z ()
 |.q t::r,c::cs=>Ty.cast c.t t c.x λy=>match cy r cs with
  |some z=>Z (y,z)
  |none=>wF
 |_,_=>wF
def Nj:(full:N AM)->(dom:N Ty)->nU dom->N PD->V (UU full)
 |full,[],_,cs=>cy full cs
 |.d t::r,s::dom,x,cs=>Ty.cast s t x.1 λy=>match Nj r dom x.2 cs with
  |some z=>Z (y,z)
  |none=>wF
 |_,_::_,_,_=>wF
def Lu:(s t:N Ty)->V (PLift<|s=t)
 |[],[]=>Z ⟨O⟩
 |s::a,t::ts=>match Ty.same s t,Lu a ts with
  |some ⟨h⟩,Z ⟨b⟩=>Z ⟨h▸b▸O⟩
  |_,_=>wF
 |_,_=>wF
def RM.D_ty:∀r:RM,r.D=r.ty.D
 |.d _=>rfl
 |.own _ _=>rfl
 |.var _ _=>rfl
def Wv:∀rs:N RM,UK rs=Ie (rs.map RM.ty)
 |[]=>rfl
 |[m]=>RM.D_ty m
 |m::n::r=>by show(m.D×UK (n::r))=(m.ty.D×Ie ((n::r).map RM.ty));rw[RM.D_ty m,Wv (n::r)]
def asF(σ:Sg)(v:V Dv)(dom cod:N Ty)(k:(nU dom->V (Ie cod))->V R):V R:=match v with
 |some (.fn f c)=>(match GX cf.cs f with
  |some s=>(match Lu (s.cod.map RM.ty) cod with
   |some ⟨h⟩=>k λx=>match Nj s.dom dom x c with
    |some y=>((Wv s.cod).trans<|uL Ie h)▸s.M y
    |none=>wF
   |none=>wF)
  |none=>wF)
 |some (.fp d c g)=>(match Lu d dom,Lu c cod with
  |some ⟨h⟩,Z ⟨a⟩=>k<|h▸a▸g
  |_,_=>wF)
 |_=>wF
def QF(σ:Sg):(dom:N AM)->N wW->N PD->(UU dom->V R)->V R
 |[],[],[],k=>k ()
 |.q t::r,[],c::cs,k=>Ty.cast c.t t c.x λy=>QF σ r [] cs λz=>k (y,z)
 |.d t::r,x::xs,cs,k=>BN (xz cx σ x) t λy=>QF σ r xs cs λz=>k (y,z)
 |.q t::r,x::xs,cs,k=>(match xz cx σ x with
  |some (.q s y)=>Ty.cast s t y λy=>QF σ r xs cs λz=>k (y,z)
  |_=>wF)
 |.fn dom cod::r,x::xs,cs,k=>asF cf σ (xz cx σ x) dom cod λg=>QF σ r xs cs λz=>k (g,z)
 |_,_,_,_=>wF
def TX:(rs:N RM)->UK rs->K->N (K×Dv)
 |[],_,_=>[]
 |[.d t],x,i=>[(i,.d t x)]
 |[.own t _],x,i=>[(i,.d (.l t) x)]
 |[.var t _],x,i=>[(i,.d t x)]
 |.d t::r::rs,x,i=>(i,.d t x.1)::TX (r::rs) x.2 (i+1)
 |.own t _::r::rs,x,i=>(i,.d (.l t) x.1)::TX (r::rs) x.2 (i+1)
 |.var t _::r::rs,x,i=>(i,.d t x.1)::TX (r::rs) x.2 (i+1)
def bN:N RM->v6
 |[_]=>wL
 |_=>I
def zkQ(rs:N RM)(x:UK rs):N (K×Dv):=TX rs x<|bif bN rs then 0 else 1
def Iv(σ:Sg):(dom:N Ty)->N wW->(nU dom->V R)->V R
 |[],[],k=>k ()
 |t::r,x::xs,k=>BN (xz cx σ x) t λy=>Iv σ r xs λz=>k (y,z)
 |_,_,_=>wF
def zig:(cod:N Ty)->Ie cod->K->N (K×Dv)
 |[],_,_=>[]
 |[t],x,i=>[(i,.d t x)]
 |t::s::r,x,i=>(i,.d t x.1)::zig (s::r) x.2 (i+1)
def zjW:N Ty->v6
 |[_]=>wL
 |_=>I
def zln(σ:Sg)(v:V Dv)(k:PD->V R):V R:=match v with
 |some (.q t x)=>k ⟨t,x⟩
 |some (.vs o _)=>(match Vo cx σ o with
  |some (.var t _ z)=>k ⟨t,z⟩
  |_=>wF)
 |some (.vp o t f)=>(match Vo cx σ o with
  |some (.var a _ z)=>Ty.cast a t z λz=>k ⟨f.f,f.get z⟩
  |_=>wF)
 |some (.ep o t j f)=>(match Vo cx σ o with
  |some (.own a _ xs)=>Ty.cast (.l a) (.l t) xs λxs=>B (f.get<|xeL xs j t.z) λy=>k ⟨f.f,y⟩
  |_=>wF)
 |_=>wF
def atI(σ:Sg)(x:wW)(n:K)(k:K->V R):V R:=match pd cx σ x with
 |some ⟨.i,j⟩=>zF j n k
 |some ⟨.u,j⟩=>ixU j n k
 |_=>wF
def SA(σ:Sg)(x:V wW)(k:V K->V R):V R:=match x with
 |none=>k wF
 |some x=>match pd cx σ x with
  |some ⟨.i,j⟩=>jA j λj=>k<|some j
  |_=>wF
def zmv{α:Type}(xs:N α)(lo hi:V K)(k:N α->V R):V R:=match lo,hi with
 |none,Z h=>ck (h<=X xs)<|B (xs.take h) k
 |some l,wF=>ck (l<=X xs)<|B (xs.drop l) k
 |some l,Z h=>ck (l<=h/\h<=X xs)<|B ((xs.drop l).take<|h-l) k
 |none,wF=>k xs
def zjd(m:K)(lo hi:V K)(k:K->K->V R):V R:=match lo,hi with
 |none,Z h=>ck (h<=m)<|k 0 h
 |some l,wF=>ck (l<=m)<|k l (m-l)
 |some l,Z h=>ck (l<=h/\h<=m)<|k l (h-l)
 |none,wF=>k 0 m
def zkv(σ:Sg)(t:K):K->K->N (K×Dv)
 |0,_=>[]
 |f+1,i=>match get cx σ t i with
  |some d=>(i,d)::zkv σ t f (i+1)
  |none=>[]
def zpO(σ:Sg)(x:wW)(k:N (K×Dv)->V R):V R:=match x with
 |.tmp t=>(match zkv cx σ t 12 1 with
  |[]=>wF
  |l=>k l)
 |_=>wF
def zbO(σ:Sg)(x:wW)(k:N (K×Dv)->V R):V R:=match xz cx σ x with
 |some v=>k [(0,v)]
 |none=>zpO cx σ x k
def zoF(σ:Sg)(x:wW)(i:K)(k:N (K×Dv)->V R):V R:=match x with
 |.tmp t=>(match get cx σ t (i+1)with
  |some v=>k [(0,v)]
  |none=>wF)
 |_=>wF
def zj2(σ:Sg)(x:wW)(k:N (K×Dv)->V R):V R:=match xz cx σ x with
 |some v=>k [(0,v)]
 |none=>wF
def ziO(σ:Sg)(c x y:wW)(k:N (K×Dv)->V R):V R:=match xz cx σ c with
 |some (.kb wL)=>zj2 cx σ x k
 |some (.kb I)=>zj2 cx σ y k
 |_=>wF
def zrz(b:v6):Dv:=.d .b<|not b
def zni(σ:Sg)(x:wW)(k:N (K×Dv)->V R):V R:=match xz cx σ x with
 |some (.kb b)=>k [(0,.kb !b)]
 |some (.d .b b)=>k [(0,zrz b)]
 |_=>wF
def zoA(σ:Sg)(x:wW)(k:N (K×Dv)->V R):V R:=match pd cx σ x with
 |some ⟨.i,a⟩=>ngI a λv=>k [(0,v)]
 |some ⟨.u,a⟩=>ngU a λv=>k [(0,v)]
 |_=>wF
def txD(xs:N K):Dv:=.d .tx xs
def zmL(σ:Sg)(s t:wT)(x:wW)(k:N (K×Dv)->V R):V R:=match Yc cf s,Yc cf t with
 |some ⟨_,.int _,_⟩,Z a=>zq0 a.k (pd cx σ x) λv=>k [(0,v)]
 |some ⟨.l .ch,.sl E,_⟩,Z ⟨_,.str,_⟩=>(match Yc cf E with
  |some ⟨_,.int .u8,_⟩=>BN (xz cx σ x) (.l .ch) λxs=>k [(0,txD xs)]
  |_=>wF)
 |_,_=>wF
def elA(E:wT)(e:Ty):v6:=match Yc cf E with
 |some a=>(Ty.same a.ty e).isSome
 |none=>I
def zq9(n:K)(e:Ty)(j:K):Fl (Ty.a n e).D:=⟨j*e.n,e,λz=>xeL z j e.z,λy z=>xga z j y⟩
def zag(σ:Sg)(t:wT)(x i:wW)(k:N (K×Dv)->V R):V R:=match Yc cf t,xz cx σ x with
 |some ⟨.l e,.sl _,_⟩,Z (.d (.l s) xs)=>Ty.cast (.l s) (.l e) xs λxs=>atI cx σ i (xaI xs) λj=>B (xeL xs j e.z) λy=>k [(0,.q e y)]
 |some ⟨.l e,.sl _,_⟩,Z (.ow o)=>(match Vo cx σ o with
  |some (.own s _ xs)=>Ty.cast (.l s) (.l e) xs λxs=>atI cx σ i (xaI xs) λj=>k [(0,.ep o e j<|Fl.self e)]
  |_=>wF)
 |some ⟨_,.ar b E,_⟩,Z (.q (.a n e) x)=>jt (xaf b n && elA cf E e)<|atI cx σ i n λj=>B (xeL x j e.z) λy=>k [(0,.q e y)]
 |some ⟨_,.ar b E,_⟩,Z (.vs o (.a n e))=>jt (xaf b n && elA cf E e)<|atI cx σ i n λj=>k [(0,.vp o (.a n e)<|zq9 n e j)]
 |_,_=>wF
def zae(σ:Sg)(t:wT)(x:wW)(i:K)(k:N (K×Dv)->V R):V R:=match Yc cf t,xz cx σ x with
 |some ⟨e,.st n,_⟩,Z (.q s y)=>Ty.cast s e y λy=>(match xk n e i with
  |some f=>k [(0,.q f.f<|f.get y)]
  |none=>wF)
 |some ⟨e,.st n,_⟩,Z (.vs o s)=>(match Ty.same s e,xk n s i with
  |some _,Z f=>k [(0,.vp o s f)]
  |_,_=>wF)
 |some ⟨e,.st n,_⟩,Z (.vp o s g)=>(match Ty.same g.f e,xk n g.f i with
  |some _,Z f=>k [(0,.vp o s<|g.comp f)]
  |_,_=>wF)
 |some ⟨e,.st n,_⟩,Z (.ep o s j g)=>(match Ty.same g.f e,xk n g.f i with
  |some _,Z f=>k [(0,.ep o s j<|g.comp f)]
  |_,_=>wF)
 |_,_=>wF
def IJ(σ:Sg)(t:wT)(x:wW)(i:K)(k:N (K×Dv)->V R):V R:=match Yc cf t,xz cx σ x with
 |some ⟨e,.st n,_⟩,Z (.d s y)=>Ty.cast s e y λy=>(match xk n e i with
  |some f=>k [(0,.d f.f<|f.get y)]
  |none=>wF)
 |_,_=>wF
def zgZ(σ:Sg)(t:wT)(x:wW)(k:N (K×Dv)->V R):V R:=match Yc cf t with
 |some a=>zln cx σ (xz cx σ x) λp=>Ty.cast p.t a.ty p.x λy=>k [(0,.d a.ty y)]
 |none=>wF
def zaG(σ:Sg)(t:wT)(x:wW)(lo hi:V wW)(k:N (K×Dv)->V R):V R:=match Yc cf t,xz cx σ x with
 |some ⟨.l e,.sl _,_⟩,Z (.d (.l s) xs)=>Ty.cast (.l s) (.l e) xs λxs=>SA cx σ lo λlo=>SA cx σ hi λhi=>zmv (α:=e.D) xs lo hi λys=>k [(0,.d (.l e) ys)]
 |some ⟨.l e,.sl _,_⟩,Z (.ow o)=>(match Vo cx σ o with
  |some (.own s _ xs)=>Ty.cast (.l s) (.l e) xs λxs=>SA cx σ lo λlo=>SA cx σ hi λhi=>zjd (xaI xs) lo hi λl n=>k [(0,.sv o e l n)]
  |_=>wF)
 |some ⟨_,.str,_⟩,Z (.d .tx xs)=>SA cx σ lo λlo=>SA cx σ hi λhi=>zmv (α:=K) xs lo hi λys=>k [(0,.d .tx ys)]
 |_,_=>wF
def zmN(σ:Sg)(t:wT)(x i:wW)(k:N (K×Dv)->V R):V R:=match Yc cf t,xz cx σ x with
 |some ⟨_,.str,_⟩,Z (.d .tx xs)=>atI cx σ i (xaI (α:=K) xs) λj=>B (xeL (α:=K) xs j 0) λy=>k [(0,.d .ch y)]
 |_,_=>wF
def zoP(σ:Sg)(E:wT)(x:wW)(k:N (K×Dv)->V R):V R:=match Yc cf E with
 |some a=>BN (xz cx σ x) a.ty λy=>k [(0,.q a.ty y)]
 |none=>wF
def zfC(σ:Sg)(n:K)(ty:Ty):N (K×wW)->ty.D->(ty.D->V R)->V R
 |[],z,k=>k z
 |(i,x)::r,z,k=>match xk n ty i with
  |some f=>BN (xz cx σ x) f.f λy=>zfC σ n ty r (f.set y z) k
  |none=>wF
def zaS(σ:Sg)(t:wT)(ps:N (K×wW))(k:N (K×Dv)->V R):V R:=match Yc cf t with
 |some ⟨ty,.st n,_⟩=>NT (xda (X ps) n||xaf n 0) (zfC cx σ n ty ps ty.z λy=>k [(0,.d ty y)]) (parts cx σ (zcH n ty) ps 0 λys=>match eG n ty ys with
  |some y=>k [(0,.d ty y)]
  |none=>wF)
 |some ⟨.a n e,.ar b E,_⟩=>jt (xaf b n && elA cf E e)<|parts cx σ (Ft n e) ps 0 λys=>k [(0,.d (.a n e)<|Ck n e ys)]
 |_=>wF
def zoN(σ:Sg)(t:wT)(n:K)(ps:N (K×wW))(k:N (K×Dv)->V R):V R:=match Yc cf t with
 |some ⟨.l s,.sl _,_⟩=>jt (xfu (n*s.n) 16777216)<|parts cx σ (Ft n s) ps 0 λys=>k [(0,.d (.l s)<|Ck n s ys)]
 |_=>wF
def zoV(σ:Sg)(f:Go.Fn)(first cs:N wW)(k:N (K×Dv)->V R):V R:=match f,first,br cx σ cs with
 |.func f,[],Z l=>k [(0,.fn f l)]
 |.func f,[x],Z []=>(match xz cx σ x with
  |some (.vs o t)=>k [(0,.bm f o t)]
  |_=>wF)
 |_,_,_=>wF
def zaE(n:K):Dv:=.d .i (n:J)
def znA(σ:Sg)(x:N wW)(ts:N wT)(k:N (K×Dv)->V R):V R:=match x,ts with
 |[x],[t]=>(match Yc cf t with
  |some ⟨.l _,.sl _,_⟩=>(match xz cx σ x with
   |some .nil=>k [(0,zaE 0)]
   |some (.d (.l _) xs)=>k [(0,zaE<|xaI xs)]
   |some (.ow o)=>(match Vo cx σ o with
    |some (.own _ _ xs)=>k [(0,zaE<|xaI xs)]
    |_=>wF)
   |_=>wF)
  |some ⟨_,.str,_⟩=>(match xz cx σ x with
   |some (.d .tx xs)=>k [(0,zaE<|xaI (α:=K) xs)]
   |_=>wF)
  |_=>wF)
 |_,_=>wF
def zoQ(x:J):Dv:=.d .i x
def mxI(b:v6)(a c:J)(k:J->V R):V R:=match b with
 |true=>B (max a c) k
 |false=>B (min a c) k
def eMM(b:v6)(σ:Sg)(x:N wW)(k:N (K×Dv)->V R):V R:=match x with
 |[x,y]=>(match pd cx σ x,pd cx σ y with
  |some ⟨.i,a⟩,Z ⟨.i,c⟩=>mxI b a c λz=>k [(0,zoQ z)]
  |_,_=>wF)
 |_=>wF
def zpT:wW->v6
 |.func _=>wL
 |_=>I
def zic(σ:Sg)(c:wW)(a:N wW)(k:N (K×Dv)->V R):V R:=match xz cx σ c with
 |some (.fn f cs)=>(match GX cf.cs f with
  |some s=>QF cf cx σ s.dom a cs λy=>Y (s.M y) λr=>k<|zkQ s.cod r
  |none=>(match UC cf.ex f,a,cs with
   |some b,[x,y,z],[]=>jt (zpT c)<|exD b (pd cx σ x) (pd cx σ y) (pd cx σ z) k
   |_,_,_=>wF))
 |some (.fp dom cod g)=>Iv cx σ dom a λy=>Y (g y) λr=>k<|zig cod r<|bif zjW cod then 0 else 1
 |_=>wF
def zar:V Dv->v6
 |some (.mw _)=>wL
 |some (.mv _ _ _)=>wL
 |some (.hp _ _)=>wL
 |some (.rw _ _)=>wL
 |some (.rp _ _ _ _ _)=>wL
 |some (.vf _ _ _ _)=>wL
 |_=>I
def zmS:V Dv->v6
 |some (.mv _ _ _)=>wL
 |_=>I
def mkF(σ:Sg)(f:wW):v6:=match xz cx σ f with
 |some (.fn f _)=>(zgU cf.cl f).isSome
 |_=>I
def zpB(σ:Sg):Op->v6
 |.load _ x=>zar<|xz cx σ x
 |.indexAddr _ x _=>zar<|xz cx σ x
 |.fieldAddr _ x _=>zar<|xz cx σ x
 |.slice _ x _ _ wF=>zar<|xz cx σ x
 |.call ⟨.builtin .len,ags,_⟩=>ags.toList.any λx=>zar<|xz cx σ x
 |.call ⟨.value f,ags,_⟩=>mkF cf cx σ f||ags.toList.any λx=>zmS<|xz cx σ x
 |_=>I
def uO{α:Type}(a:N (N α))(r:K):N α:=a.getD r []
def zc4{α:Type}(a:N (N α))(ix:N K):N (N α):=ix.map<|uO a
def MN(σ:Sg)(t:wT)(x i:wW)(k:N (K×Dv)->V R):V R:=match Yc cf t,xz cx σ x with
 |some ⟨.l (.l e),.sl _,_⟩,Z (.mw o)=>(match Vo cx σ o with
  |some (.mat s _ _ a ix)=>atI cx σ i (xaI ix) λj=>k [(0,.hp o j)]
  |_=>wF)
 |some ⟨.l (.l e),.sl _,_⟩,Z (.mv o lo n)=>(match Vo cx σ o with
  |some (.mat s _ _ a ix)=>atI cx σ i n λj=>k [(0,.hp o<|lo+j)]
  |_=>wF)
 |some ⟨.l e,.sl _,_⟩,Z (.rw o r)=>(match Vo cx σ o with
  |some (.mat s _ _ a ix)=>Ty.cast (.l (.l s)) (.l (.l e)) a λa=>atI cx σ i (xaI<|uO (α:=e.D) a r) λj=>k [(0,.rp o e r j<|Fl.self e)]
  |_=>wF)
 |_,_=>wF
def zgy(n:K)(s:Ty)(i j:K)(k:Fl s.D->V R):V R:=jt (!E i j) (match xk n s i with
 |some f=>k f
 |none=>wF)
def zaM(σ:Sg)(t:wT)(x:wW)(k:N (K×Dv)->V R):V R:=match Yc cf t,xz cx σ x with
 |some ⟨.l e,.sl _,_⟩,Z (.hp o j)=>(match Vo cx σ o with
  |some (.mat s _ _ a ix)=>B (xeL ix j 0) λr=>k [(0,.rw o r)]
  |_=>wF)
 |some b,Z (.rp o e r j f)=>(match Vo cx σ o with
  |some (.mat s _ _ a ix)=>Ty.cast (.l (.l s)) (.l (.l e)) a λa=>B (f.get<|xeL (uO (α:=e.D) a r) j e.z) λy=>Ty.cast f.f b.ty y λy=>k [(0,.d b.ty y)]
  |_=>wF)
 |some b,Z (.vf o c n0 i)=>(match Vo cx σ o with
  |some (.vr s _ _ _ n j z _)=>jt (E n0 n && (Ty.same c s).isSome)<|zgy n s i j λf=>Ty.cast f.f b.ty (f.get z) λy=>k [(0,.d b.ty y)]
  |some (.vh s _ _ _ n j z)=>jt (E n0 n && (Ty.same c s).isSome)<|zgy n s i j λf=>Ty.cast f.f b.ty (f.get z) λy=>k [(0,.d b.ty y)]
  |_=>wF)
 |_,_=>wF
def MG(σ:Sg)(t:wT)(x:wW)(i:K)(k:N (K×Dv)->V R):V R:=match Yc cf t,xz cx σ x with
 |some ⟨e,.st n,_⟩,Z (.mw o)=>(match Vo cx σ o with
  |some (.vr s _ _ _ a _ _ _)=>jt (E a n && (Ty.same s e).isSome && (xk n e i).isSome)<|k [(0,.vf o e n i)]
  |some (.vh s _ _ _ a _ _)=>jt (E a n && (Ty.same s e).isSome && (xk n e i).isSome)<|k [(0,.vf o e n i)]
  |_=>wF)
 |_,_=>wF
def LY(σ:Sg)(t:wT)(x:wW)(lo hi:V wW)(k:N (K×Dv)->V R):V R:=match Yc cf t,xz cx σ x with
 |some ⟨.l (.l e),.sl _,_⟩,Z (.mw o)=>(match Vo cx σ o with
  |some (.mat s _ _ a ix)=>SA cx σ lo λlo=>SA cx σ hi λhi=>zjd (xaI ix) lo hi λl n=>k [(0,.mv o l n)]
  |_=>wF)
 |_,_=>wF
def zhV(σ:Sg)(x:N wW)(ts:N wT)(k:N (K×Dv)->V R):V R:=match x,ts with
 |[x],[t]=>(match Yc cf t,xz cx σ x with
  |some ⟨.l _,.sl _,_⟩,Z (.mw o)=>(match Vo cx σ o with
   |some (.mat _ _ _ _ ix)=>k [(0,zaE<|xaI ix)]
   |_=>wF)
  |some ⟨.l _,.sl _,_⟩,Z (.mv o _ n)=>(match Vo cx σ o with
   |some (.mat _ _ _ _ _)=>k [(0,zaE n)]
   |_=>wF)
  |some ⟨.l _,.sl _,_⟩,Z (.rw o r)=>(match Vo cx σ o with
   |some (.mat _ _ _ a _)=>k [(0,zaE<|xaI<|uO a r)]
   |_=>wF)
  |_,_=>wF)
 |_,_=>wF
def Qx(σ:Sg):(dom:N AM)->N wW->N PD->(UU dom->V R)->V R
 |[],[],[],k=>k ()
 |.q t::r,[],c::cs,k=>Ty.cast c.t t c.x λy=>Qx σ r [] cs λz=>k (y,z)
 |.d t::r,x::xs,cs,k=>(match xz cx σ x with
  |some (.mv o lo n)=>(match Vo cx σ o with
   |some (.mat s _ _ a ix)=>Ty.cast (.l (.l s)) t (xdB n<|xdO lo<|zc4 a ix) λy=>Qx σ r xs cs λz=>k (y,z)
   |_=>wF)
  |v=>BN v t λy=>Qx σ r xs cs λz=>k (y,z))
 |.fn dom cod::r,x::xs,cs,k=>asF cf σ (xz cx σ x) dom cod λg=>Qx σ r xs cs λz=>k (g,z)
 |_,_,_,_=>wF
def OB:N RM->v6
 |[]=>wL
 |.d .i::r=>OB r
 |.d .b::r=>OB r
 |.d .u::r=>OB r
 |_=>I
def zaB(σ:Sg)(b:wW)(a:N wW)(k:N (K×Dv)->V R):V R:=match xz cx σ b with
 |some (.fn f cs)=>(match zgU cf.cl f,cs with
  |some s,[]=>Iv cx σ s.dom a λys=>k [(0,.fn s.g<|s.mc ys)]
  |_,cs=>(match GX cf.cs f with
   |some s=>jt (OB s.cod)<|Qx cf cx σ s.dom a cs λy=>Y (s.M y) λr=>k<|zkQ s.cod r
   |none=>wF))
 |_=>wF
def znP(σ:Sg)(T:wT)(x:wW)(k:N (K×Dv)->V R):V R:=match UC cf.tt T,xz cx σ x with
 |some ⟨.w1 .i,.st 0,_⟩,Z (.d t y)=>Ty.cast t (.w1 .i) y λz=>k [(0,.ifc (T,z))]
 |_,_=>wF
def eCo(σ:Sg)(b:Op)(k:N (K×Dv)->V R):V R:=match b with
 |.load t x=>zaM cf cx σ t x k
 |.indexAddr t x i=>MN cf cx σ t x i k
 |.fieldAddr t x i=>MG cf cx σ t x i k
 |.slice t x lo hi wF=>LY cf cx σ t x lo hi k
 |.call ⟨.builtin .len,a,ts⟩=>zhV cf cx σ a.toList ts.toList k
 |.call ⟨.value f,a,_⟩=>zaB cf cx σ f a.toList k
 |_=>wF
def zmH(σ:Sg)(d:Op)(k:N (K×Dv)->V R):V R:=match d with
 |.move x=>zbO cx σ x k
 |.assign x=>zbO cx σ x k
 |.extract x i=>zoF cx σ x i k
 |.pick c x y=>ziO cx σ c x y k
 |.unOp .not _ x=>zni cx σ x k
 |.unOp .neg _ x=>zoA cx σ x k
 |.binOp b t x y _=>NT (zkH<|xz cx σ y) (jt (zkq cf t)<|eqP b (xz cx σ x) λv=>k [(0,v)])<|znQ (isB cf t) b (pd cx σ x) (pd cx σ y) λv=>k [(0,v)]
 |.nilCheck x=>znf cx σ x k
 |.convert s t x=>zmL cf cx σ s t x k
 |.load t x=>zgZ cf cx σ t x k
 |.indexAddr t x i=>zag cf cx σ t x i k
 |.fieldAddr t x i=>zae cf cx σ t x i k
 |.field t x i=>IJ cf cx σ t x i k
 |.slice t x lo hi wF=>zaG cf cx σ t x lo hi k
 |.index t x i=>zmN cf cx σ t x i k
 |.box E x=>zoP cf cx σ E x k
 |.build t ps=>zaS cf cx σ t ps.toList k
 |.makeInterface t x=>znP cf cx σ t x k
 |.buildSlice t n ps=>zoN cf cx σ t n ps.toList k
 |.makeFunc f first cs=>zoV cx σ f first.toList cs.toList k
 |.call ⟨.builtin .len,a,ts⟩=>znA cf cx σ a.toList ts.toList k
 |.call ⟨.builtin .max,a,_⟩=>eMM cx wL σ a.toList k
 |.call ⟨.builtin .min,a,_⟩=>eMM cx I σ a.toList k
 |.call ⟨.value f,a,_⟩=>zic cf cx σ f a.toList k
 |_=>wF
def eOp(σ:Sg)(a:Op)(k:N (K×Dv)->V R):V R:=NT (zpB cf cx σ a) (eCo cf cx σ a k)<|zmH cf cx σ a k
def vt:Dv->V K
 |.ow o=>Z o
 |.vs o _=>Z o
 |.ep o _ _ _=>Z o
 |.sv o _ _ _=>Z o
 |.vp o _ _=>Z o
 |.mw o=>Z o
 |.mv o _ _=>Z o
 |.hp o _=>Z o
 |.rw o _=>Z o
 |.rp o _ _ _ _=>Z o
 |.yd o=>Z o
 |.vf o _ _ _=>Z o
 |.bm _ o _=>Z o
 |_=>wF
def okL(n:K)(l:N (K×Dv)):v6:=l.all λe=>match vt e.2 with
 |some o=>xda o n
 |none=>wL
def IQ(o:K)(x:Od)(v:Dv):Dv:=match v,x with
 |.ow a,.own s _ xs=>bif E a o then .d (.l s) xs else v
 |.vs a _,.var s _ z=>bif E a o then .q s z else v
 |.mw a,.mat s _ _ b ix=>bif E a o then .d (.l (.l s)) (zc4 b ix)else v
 |.mw a,.vr t _ s _ n i z xs=>bif E a o then .q t (Zl s (xk n t i) xs z)else v
 |_,_=>v
def FR(o:K)(x:Od):N (K×K×Dv)->N (K×K×Dv)
 |[]=>[]
 |(t,i,v)::r=>(t,i,IQ o x v)::FR o x r
def OO(σ:Sg)(o:K):Sg:=match xA σ.ob o with
 |some x=>⟨σ.nx,FR o x σ.rg,yF σ.ob o⟩
 |none=>σ
def frz(σ:Sg)(x:wW):Sg:=match xz cx σ x with
 |some (.ow o)=>OO σ o
 |some (.vs o _)=>OO σ o
 |some (.mw o)=>OO σ o
 |_=>σ
def zkr(σ:Sg):N wW->Sg
 |[]=>σ
 |x::r=>zkr (frz cx σ x) r
def TE(σ:Sg):N AM->N wW->v6
 |[],_=>wL
 |.own _ _::r,x::xs=>(match xz cx σ x with
  |some (.ow o)=>σ.ob.any λe=>E e.1 o
  |_=>I) && TE σ r xs
 |.var _ _::r,x::xs=>(match xz cx σ x with
  |some (.vs o _)=>σ.ob.any λe=>E e.1 o
  |_=>I) && TE σ r xs
 |.d _::r,x::xs=> !zmS (xz cx σ x) && TE σ r xs
 |_::r,_::xs=>TE σ r xs
 |_::r,[]=>TE σ r []
def SX(σ:Sg)(f:Z2)(a:N wW):N XW->V XW
 |[]=>wF
 |s::r=>match E s.f f && TE cx σ s.dom a with
  |true=>Z s
  |false=>SX σ f a r
def zp8(d:V Z4):v6:=match d with
 |some t=>cn cf.an.vw t
 |none=>I
def TN(d:V Z4):v6:=match d with
 |some t=>cn cf.an.mt t
 |none=>I
def zsb:V Dv->v6
 |some (.hp _ _)=>wL
 |some (.mw _)=>wL
 |_=>I
def zpm(σ:Sg):V Dv->v6
 |some (.vf o _ _ i)=>(match xA σ.ob o with
  |some (.vh _ _ _ _ _ j _)=>E i j
  |_=>I)
 |_=>I
def zh8:V Dv->v6
 |some (.mw _)=>wL
 |_=>I
def zhh(σ:Sg)(f:Z2)(a:N wW):N Ji->V Ji
 |[]=>wF
 |p::r=>match E p.s.f f && TE cx σ p.s.dom a with
  |true=>Z p
  |false=>zhh σ f a r
def zlY(σ:Sg)(dom:N AM)(a:N wW):N wW:=(dom.zip a).filterMap λe=>match e.1 with
 |.d _=>(match zmS (xz cx σ e.2)with
  |true=>wF
  |false=>Z e.2)
 |.q _=>Z e.2
 |_=>wF
def zn8(σ:Sg)(d:V Z4):Op->N wW
 |.build _ ps=>ps.toList.map (·.2)
 |.buildSlice _ _ ps=>(match TN cf d with
  |true=>[]
  |false=>ps.toList.map (·.2))
 |.store _ a v=>(match zsb (xz cx σ a)||zpm σ (xz cx σ a),xz cx σ v with
  |false,Z (.ow _)=>[v]
  |_,_=>[])
 |.slice _ x wF (Z _) wF=>(match zh8 (xz cx σ x),zp8 cf d with
  |true,I=>[x]
  |_,_=>[])
 |.box _ v=>[v]
 |.load _ x=>(match xz cx σ x with
  |some (.mw o)=>(match Vo cx σ o with
   |some (.vr _ _ _ _ _ _ _ _)=>[x]
   |_=>[])
  |_=>[])
 |.convert _ _ v=>[v]
 |.makeFunc _ _ cs=>cs.toList
 |.slice _ x (Z _) _ _=>(match zp8 cf d with
  |true=>[]
  |false=>[x])
 |.call ⟨.builtin .append,b,_⟩=>(match b.toList.any λx=>zh8 (xz cx σ x)with
  |true=>[]
  |false=>b.toList.drop 1)
 |.call ⟨.builtin .copy,b,_⟩=>b.toList.drop 1
 |.call ⟨.value f,b,_⟩=>(match xz cx σ f with
  |some (.fn f _)=>(match SX cx σ f b.toList cf.cs with
   |some s=>zlY cx σ s.dom b.toList
   |none=>(match zhh cx σ f b.toList cf.ps with
    |some p=>zlY cx σ p.s.dom b.toList
    |none=>[]))
  |some (.fp _ _ _)=>b.toList
  |_=>[])
 |_=>[]
def za0(σ:Sg)(d:V Z4)(mk:K->Dv)(x:Od):Sg:=⟨σ.nx+1,qt σ.rg d [(0,mk σ.nx)],(σ.nx,x)::σ.ob⟩
def ZP(σ:Sg):(dom:N AM)->N wW->N PD->(UU dom->N K->V R)->V R
 |[],[],[],k=>k () []
 |.q t::r,[],c::cs,k=>Ty.cast c.t t c.x λy=>ZP σ r [] cs λz os=>k (y,z) os
 |.d t::r,x::xs,cs,k=>BN (xz cx σ x) t λy=>ZP σ r xs cs λz os=>k (y,z) os
 |.q t::r,x::xs,cs,k=>(match xz cx σ x with
  |some (.q s y)=>Ty.cast s t y λy=>ZP σ r xs cs λz os=>k (y,z) os
  |_=>wF)
 |.own t E::r,x::xs,cs,k=>(match xz cx σ x with
  |some (.ow o)=>(match xA σ.ob o with
   |some (.own s a ys)=>jt (xaf E a)<|Ty.cast (.l s) (.l t) ys λy=>ZP σ r xs cs λz os=>jt (!cn os o)<|k (y,z) (o::os)
   |_=>wF)
  |_=>wF)
 |.var t E::r,x::xs,cs,k=>(match xz cx σ x with
  |some (.vs o _)=>(match xA σ.ob o with
   |some (.var s a y)=>jt (xaf E a)<|Ty.cast s t y λy=>ZP σ r xs cs λz os=>jt (!cn os o)<|k (y,z) (o::os)
   |_=>wF)
  |_=>wF)
 |.fn dom cod::r,x::xs,cs,k=>asF cf σ (xz cx σ x) dom cod λg=>ZP σ r xs cs λz os=>k (g,z) os
 |_,_,_,_=>wF
def Zp:(rs:N RM)->UK rs->K->K->N (K×Dv)×N (K×Od)
 |[],_,_,_=>([],[])
 |[.d t],x,i,o=>([(i,.d t x)],[])
 |[.own t E],x,i,o=>([(i,.ow o)],[(o,.own t E x)])
 |[.var t E],x,i,o=>([(i,.vs o t)],[(o,.var t E x)])
 |.d t::r::rs,x,i,o=>let y:=Zp (r::rs) x.2 (i+1) o
  ((i,.d t x.1)::y.1,y.2)
 |.own t E::r::rs,x,i,o=>let y:=Zp (r::rs) x.2 (i+1) (o+1)
  ((i,.ow o)::y.1,(o,.own t E x.1)::y.2)
 |.var t E::r::rs,x,i,o=>let y:=Zp (r::rs) x.2 (i+1) (o+1)
  ((i,.vs o t)::y.1,(o,.var t E x.1)::y.2)
def w8(ob:N (K×Od)):N K->N (K×Od)
 |[]=>ob
 |o::r=>yF (w8 ob r) o
def Tk(σ:Sg)(s:Ty)(p v:V Dv)(k:Sg->V R):V R:=match p with
 |some (.vs o _)=>(match xA σ.ob o with
  |some (.var b E z)=>Ty.cast b s z λz=>BN v s λy=>k ⟨σ.nx,σ.rg,km σ.ob o (.var s E y)⟩
  |_=>wF)
 |some (.vp o a f)=>(match xA σ.ob o,Ty.same f.f s with
  |some (.var b E z),Z _=>Ty.cast b a z λz=>BN v f.f λy=>B (f.set y z) λz=>k ⟨σ.nx,σ.rg,km σ.ob o (.var a E z)⟩
  |_,_=>wF)
 |some (.ep o a j f)=>(match xA σ.ob o,Ty.same f.f s with
  |some (.own b E xs),Z _=>Ty.cast (.l b) (.l a) xs λxs=>BN v f.f λy=>B (xga xs j<|f.set y<|xeL xs j a.z) λxs=>k ⟨σ.nx,σ.rg,km σ.ob o (.own a E xs)⟩
  |_,_=>wF)
 |_=>wF
def SR(σ:Sg)(d:V Z4)(E:wT)(k:Sg->V R):V R:=match Yc cf E with
 |some a=>k<|za0 σ d (λo=> .vs o a.ty) (.var a.ty E a.ty.z)
 |none=>wF
def znv(σ:Sg)(d:V Z4)(E:wT)(x:wW)(k:Sg->V R):V R:=match Yc cf E with
 |some a=>BN (xz cx σ x) a.ty λy=>k<|za0 σ d (λo=> .vs o a.ty) (.var a.ty E y)
 |none=>wF
def zhr(σ:Sg)(d:V Z4)(t:wT)(x y:wW)(k:Sg->V R):V R:=match Yc cf t with
 |some ⟨.l s,.sl E,_⟩=>jt (zbj x y) (match Yc cf E,pd cx σ x with
  |some a,Z ⟨.i,n⟩=>Ty.cast a.ty s a.ty.z λz=>jA n λn=>ck (a.B*n<=281474976710656)<|B (Nm n z) λxs=>k<|za0 σ d .ow (.own s E xs)
  |_,_=>wF)
 |_=>wF
def zoI(σ:Sg)(d:V Z4)(t:wT)(n:K)(ps:N (K×wW))(k:Sg->V R):V R:=match Yc cf t with
 |some ⟨.l s,.sl E,_⟩=>jt (xfu (n*s.n) 16777216)<|parts cx σ (Ft n s) ps 0 λys=>k<|za0 σ d .ow (.own s E<|Ck n s ys)
 |_=>wF
def TS(σ:Sg)(d:V Z4)(t:wT)(o:K)(hi:wW)(k:Sg->V R):V R:=match Yc cf t,xA σ.ob o with
 |some ⟨.l a,.sl _,_⟩,Z (.own s E xs)=>Ty.cast (.l s) (.l a) xs λxs=>SA cx σ (Z hi) λh=>zmv (α:=a.D) xs wF h λys=>k ⟨σ.nx+1,qt σ.rg d [(0,.ow σ.nx)],(σ.nx,.own a E ys)::yF σ.ob o⟩
 |_,_=>wF
def zbq(σ:Sg)(d:V Z4)(b:wT)(a:v6)(s:Ty)(E:wT)(B:K)(z:s.D)(y:wW)(ob:N (K×Od))(xs:N s.D)(k:Sg->V R):V R:=match pd cx σ y with
 |some ⟨.i,n⟩=>(match Yc cf b with
  |some ⟨_,.int _,_⟩=>jA n λn=>zr1 xs n z B λzs=>k ⟨σ.nx+1,qt σ.rg d [(0,.ow σ.nx)],(σ.nx,.own s E zs)::ob⟩
  |_=>wF)
 |_=>(match xz cx σ y with
  |some (.sv o2 t2 lo n)=>(match Vo cx ⟨σ.nx,σ.rg,ob⟩ o2 with
   |some (.own c _ zs)=>jt a<|Ty.cast (.l c) (.l t2) zs λzs=>Ty.cast (.l t2) (.l s) (xdB n<|xdO lo zs) λys=>nm ys λys=>zqv (α:=s.D) xs ys B λzs=>k ⟨σ.nx+1,qt σ.rg d [(0,.ow σ.nx)],(σ.nx,.own s E zs)::ob⟩
   |_=>wF)
  |_=>jt a<|BN (xz cx σ y) (.l s) λys=>zqv (α:=s.D) xs ys B λzs=>k ⟨σ.nx+1,qt σ.rg d [(0,.ow σ.nx)],(σ.nx,.own s E zs)::ob⟩)
def zoG(σ:Sg)(d:V Z4)(c:N wW)(ts:N wT)(k:Sg->V R):V R:=match c,ts with
 |[x,y],[t,a]=>(match Yc cf t with
  |some ⟨.l s,.sl E,_⟩=>(match Yc cf E with
   |some b=>Ty.cast b.ty s b.ty.z λz=>(match xz cx σ x with
    |some .nil=>zbq cf cx σ d a (xaf t a) s E b.B z y σ.ob [] k
    |some (.ow o)=>(match xA σ.ob o with
     |some (.own e f xs)=>jt (xaf f E)<|Ty.cast (.l e) (.l s) xs λxs=>zbq cf cx σ d a (xaf t a) s E b.B z y (yF σ.ob o) xs k
     |_=>wF)
    |_=>wF)
   |none=>wF)
  |_=>wF)
 |_,_=>wF
def zfg(σ:Sg)(d:V Z4)(a:N wW)(ts:N wT)(k:Sg->V R):V R:=match a,ts with
 |[x,y],[t,_]=>(match Yc cf t,xz cx σ x with
  |some ⟨.l s,.sl _,_⟩,Z (.ow o)=>(match xA σ.ob o with
   |some (.own b c xs)=>Ty.cast (.l b) (.l s) xs λxs=>BN (xz cx σ y) (.l s) λys=>B (Hg (α:=s.D) xs ys) λzs=>k ⟨σ.nx,qt σ.rg d [],km σ.ob o (.own s c zs)⟩
   |_=>wF)
  |some ⟨.l s,.sl _,_⟩,Z (.sv o t2 lo n)=>(match xA σ.ob o,Ty.same t2 s with
   |some (.own b c xs),Z _=>Ty.cast (.l b) (.l s) xs λxs=>BN (xz cx σ y) (.l s) λys=>B (lF (α:=s.D) lo n xs ys) λzs=>k ⟨σ.nx,qt σ.rg d [],km σ.ob o (.own s c zs)⟩
   |_,_=>wF)
  |_,_=>wF)
 |_,_=>wF
def Eg:N K->N (K×Od)->N (K×Od)
 |o::os,e::r=>(o,e.2)::Eg os r
 |_,_=>[]
def py:K->N RM->v6
 |0,[]=>wL
 |0,.own _ _::r=>py 0 r
 |0,.var _ _::r=>py 0 r
 |n+1,.d _::r=>py n r
 |_,_=>I
def Bg(m:K):K:=bif E m 1 then 0 else 1
def zle(σ:Sg)(d:V Z4)(s:XW)(os:N K)(r:UK s.cod)(k:Sg->V R):V R:=
 match s.bk with
 |0=>(let g:=Zp s.cod r (bif bN s.cod then 0 else 1) σ.nx
  k ⟨σ.nx+X g.2,qt σ.rg d g.1,g.2++w8 σ.ob os⟩)
 |b+1=>(let m:=X s.cod-(b+1)
  let g:=Zp s.cod r (Bg m) σ.nx
  jt (py m s.cod)<|k ⟨σ.nx+X g.2,qt σ.rg d<|g.1.filter λe=>xda e.1<|Bg m+m,Eg os g.2++w8 σ.ob os⟩)
def zmg(σ:Sg)(d:V Z4)(s:XW)(a:N wW)(cs:N PD)(k:Sg->V R):V R:=
 ZP cf cx σ s.dom a cs λy os=>Y (s.M y) λr=>zle σ d s os r k
def zmV(σ:Sg)(d:V Z4)(p:Ji)(a:N wW)(cs:N PD)(kp:PX->Sg->V R)(k:Sg->V R):V R:=
 ZP cf cx σ p.s.dom a cs λy os=>Y (p.M y) λz=>xfk (λq=>kp q ⟨σ.nx,σ.rg,w8 σ.ob os⟩) (λr=>zle σ d p.s os r k) z
def zkN(σ:Sg):Op->V (Ji×N wW×N PD)
 |.call ⟨.value f,a,_⟩=>(match xz cx σ f with
  |some (.fn f' cs)=>(match zhh cx σ f' a.toList cf.ps with
   |some p=>Z (p,a.toList,cs)
   |none=>wF)
  |_=>wF)
 |_=>wF
def mE(σ:Sg)(d:V Z4)(a:Op)(k:Sg->V R):V R:=eOp cf cx σ a λl=>jt (okL σ.nx l)<|k (σ.put d l)
def zn7(d:V Z4):v6:=match d with
 |some t=>cn cf.an.bx t
 |none=>I
def zlj(o n:K)(v:Dv):Dv:=match v with
 |.mw p=>bif E p o then .mw n else v
 |.mv p l m=>bif E p o then .mv n l m else v
 |.hp p j=>bif E p o then .hp n j else v
 |.rw p r=>bif E p o then .rw n r else v
 |.rp p t r j f=>bif E p o then .rp n t r j f else v
 |v=>v
def zjS(o n:K):N (K×K×Dv)->N (K×K×Dv)
 |[]=>[]
 |(t,i,v)::r=>(t,i,zlj o n v)::zjS o n r
def FY(o n:K):N (K×K×Dv)->N (K×K×Dv)
 |[]=>[]
 |(t,i,.mw p)::r=>(t,i,bif E p o then .mw n else .mw p)::FY o n r
 |(t,i,v)::r=>(t,i,v)::FY o n r
def RK(o n:K):N (K×K×Dv)->N (K×K×Dv)
 |[]=>[]
 |(t,i,.yd p)::r=>(t,i,bif E p o then .yd n else .yd p)::RK o n r
 |(t,i,v)::r=>(t,i,v)::RK o n r
def zqi{α:Type}(a b:N α):N α:=a++b
def zpj{α:Type}(a:N (N α))(r:K)(xs:N α):N (N α):=xga a r xs
def kD(σ:Sg)(s:Ty)(p v:V Dv)(k:Sg->V R):V R:=match p,v with
 |some (.rp o e r j f),v=>(match xA σ.ob o,Ty.same f.f s with
  |some (.mat d E E1 a ix),Z _=>Ty.cast (.l (.l d)) (.l (.l e)) a λa=>BN v f.f λy=>B (zpj (α:=e.D) a r<|xga (uO (α:=e.D) a r) j<|f.set y<|xeL (uO (α:=e.D) a r) j e.z) λa=>k ⟨σ.nx,σ.rg,km σ.ob o (.mat e E E1 a ix)⟩
  |_,_=>wF)
 |some (.vf o g n0 i),Z (.ow o2)=>jt (!xaf o o2)<|(match xA σ.ob o,xA σ.ob o2 with
  |some (.vh b E c E1 n j z),Z (.own q t ys)=>jt (xaf i j && xaf E1 t && (Ty.same s (.l c)).isSome && (xaf n0 n && (Ty.same g b).isSome))<|Ty.cast (.l q) (.l c) ys λys=>k ⟨σ.nx+1,FY o σ.nx σ.rg,(σ.nx,.vr b E c E1 n j z ys)::yF (yF σ.ob o) o2⟩
  |_,_=>wF)
 |some (.vf o g n0 i),v=>(match xA σ.ob o with
  |some (.vr b E c E1 n j z ys)=>jt (xaf n0 n && (Ty.same g b).isSome)<|zgy n b i j λf=>jt (Ty.same f.f s).isSome<|BN v f.f λy=>B (f.set y z) λz=>k ⟨σ.nx,σ.rg,km σ.ob o (.vr b E c E1 n j z ys)⟩
  |some (.vh b E c E1 n j z)=>jt (xaf n0 n && (Ty.same g b).isSome)<|zgy n b i j λf=>jt (Ty.same f.f s).isSome<|BN v f.f λy=>B (f.set y z) λz=>k ⟨σ.nx,σ.rg,km σ.ob o (.vh b E c E1 n j z)⟩
  |_=>wF)
 |some (.hp o j),Z (.rw u r)=>jt (xaf u o)<|(match xA σ.ob o,s with
  |some (.mat d E E1 a ix),.l _=>B (xga ix j r) λix=>k ⟨σ.nx,σ.rg,km σ.ob o (.mat d E E1 a ix)⟩
  |_,_=>wF)
 |some (.hp o j),Z (.ow o2)=>jt (!xaf o o2)<|(match xA σ.ob o,xA σ.ob o2,s with
  |some (.mat d E E1 a ix),Z (.own c h ys),.l _=>jt (xaf E1 h)<|Ty.cast (.l c) (.l d) ys λys=>B (zqi (α:=N d.D) a [ys]) λm=>B (xga ix j<|xaI a) λix=>k ⟨σ.nx+1,zjS o σ.nx σ.rg,(σ.nx,.mat d E E1 m ix)::yF (yF σ.ob o) o2⟩
  |_,_,_=>wF)
 |some (.mw o),Z (.dz t2 y n2 i2)=>(match xA σ.ob o with
  |some (.vr b E c E1 n j z xs)=>jt (xaf n2 n && (xaf i2 j && (Ty.same s b).isSome))<|Ty.cast t2 b y λy=>k ⟨σ.nx+1,FY o σ.nx σ.rg,(σ.nx,.vr b E c E1 n j y [])::yF σ.ob o⟩
  |_=>wF)
 |some (.mw o),Z (.ow o2)=>jt (!xaf o o2)<|(match xA σ.ob o,xA σ.ob o2,s with
  |some (.ho w),Z (.own c h ys),.l _=>k ⟨σ.nx+1,FY o σ.nx σ.rg,(σ.nx,.bo c h w ys)::yF (yF σ.ob o) o2⟩
  |_,_,_=>wF)
 |_,_=>wF
def TD(σ:Sg)(d:V Z4)(t:wT)(x y:wW)(k:Sg->V R):V R:=match Yc cf t with
 |some ⟨.l (.l s),.sl E,_⟩=>jt (zbj x y) (match Yc cf E,pd cx σ x with
  |some ⟨.l _,.sl E1,B⟩,Z ⟨.i,n⟩=>jA n λn=>ck (B*n<=281474976710656)<|nm (Nm n 0) λix=>k<|za0 σ d .mw (.mat s E E1 [[]] ix)
  |_,_=>wF)
 |_=>wF
def ze9(σ:Sg)(d:V Z4)(t:wT)(n:K)(ps:N (K×wW))(k:Sg->V R):V R:=match Yc cf t,ps with
 |some ⟨.l (.l s),.sl E,_⟩,[(0,x)]=>jt (xaf n 1) (match xz cx σ x with
  |some (.ow o2)=>(match xA σ.ob o2 with
   |some (.own a E1 ys)=>Ty.cast (.l a) (.l s) ys λys=>k ⟨σ.nx+1,qt σ.rg d [(0,.mw σ.nx)],(σ.nx,.mat s E E1 [ys] [0])::yF σ.ob o2⟩
   |_=>wF)
  |_=>wF)
 |_,_=>wF
def zaN(d:V Z4):V (K×K):=match d with
 |some t=>UC cf.an.vr t
 |none=>wF
def NK(σ:Sg)(d:V Z4)(a:wT)(k:Sg->V R):V R:=match Yc cf a with
 |some ⟨.l s,.sl E,_⟩=>k<|za0 σ d .mw (.bo s E a [])
 |some ⟨ty,.st n,_⟩=>(match zaN cf d with
  |some (i,E1)=>(match xk n ty i with
   |some ⟨_,.l s,_,_⟩=>k<|za0 σ d .mw (.vr ty a s E1 n i ty.z [])
   |_=>wF)
  |none=>wF)
 |_=>wF
def Ll(σ:Sg)(d:V Z4)(t:wT)(ps:N (K×wW))(k:Sg->V R):V R:=match Yc cf t,zaN cf d with
 |some ⟨ty,.st n,_⟩,Z (i,_)=>jt (ps.all λp=> !E p.1 i) (match xk n ty i with
  |some ⟨_,.l _,_,_⟩=>zfC cx σ n ty ps ty.z λy=>k<|σ.put d [(0,.dz ty y n i)]
  |_=>wF)
 |_,_=>wF
def Th(σ:Sg)(d:V Z4)(t:wT)(o:K)(k:Sg->V R):V R:=match Yc cf t,xA σ.ob o with
 |some ⟨.l b,.sl _,_⟩,Z (.vr c E a E1 n j z xs)=>jt (Ty.same b a).isSome<|k ⟨σ.nx+1,qt σ.rg d [(0,.ow σ.nx)],(σ.nx,.own a E1 xs)::km σ.ob o (.vh c E a E1 n j z)⟩
 |_,_=>wF
def Pc(σ:Sg):V Dv->V K
 |some (.vf o a n0 i)=>(match xA σ.ob o with
  |some (.vr s _ _ _ n j _ _)=>bif E i j && (E n0 n && (Ty.same a s).isSome)then Z o else wF
  |_=>wF)
 |_=>wF
def zaw(σ:Sg)(d:V Z4)(t:wT)(o:K)(k:Sg->V R):V R:=match Yc cf t,xA σ.ob o with
 |some ⟨.l _,.sl _,_⟩,Z (.bo s E a xs)=>k ⟨σ.nx+1,qt σ.rg d [(0,.ow σ.nx)],(σ.nx,.own s E xs)::km σ.ob o (.ho a)⟩
 |_,_=>wF
def zfd(σ:Sg)(d:V Z4)(c:N wW)(ts:N wT)(k:Sg->V R):V R:=match c,ts with
 |[x,y],[t,i]=>(match Yc cf t,xz cx σ x,xz cx σ y with
  |some ⟨.l (.l s),.sl E,_⟩,Z (.mw o),Z (.mw p)=>jt (xaf t i && !xaf o p) (match Yc cf E,xA σ.ob o,xA σ.ob p with
   |some ⟨.l _,.sl _,B⟩,Z (.mat e E1 g b ix),Z (.mat j m n a h)=>jt (xaf E1 E && (xaf m E && xaf g n))<|Ty.cast (.l (.l j)) (.l (.l e)) a λa=>
    ck ((xaI ix+xaI h)*B<=140737488355328)<|nm (zqi (α:=N e.D) b a) λf=>nm (ix++h.map (xaI b+ ·)) λq=>k ⟨σ.nx+1,qt σ.rg d [(0,.mw σ.nx)],(σ.nx,.mat e E1 g f q)::yF (yF σ.ob o) p⟩
   |_,_,_=>wF)
  |_,_,_=>wF)
 |_,_=>wF
def CQ(σ:Sg)(d:V Z4)(s:CY)(c:N wW)(k:Sg->V R):V R:=match c with
 |[x,a,p,y]=>(match xz cx σ x,pd cx σ a,pd cx σ p,xz cx σ y with
  |some (.rw o r),Z ⟨.i,a⟩,Z ⟨.i,p⟩,Z (.mv e lo n)=>jt (xaf o e) (match xA σ.ob o with
   |some (.mat f E E1 b ix)=>jt (xaf E s.E && xaf E1 s.E1)<|Ty.cast (.l (.l f)) (.l (.l s.t)) b λb=>
    Y (s.M b ix r a p lo n) λb=>k ⟨σ.nx+1,FY o σ.nx<|qt σ.rg d [],(σ.nx,.mat s.t E E1 b ix)::yF σ.ob o⟩
   |_=>wF)
  |_,_,_,_=>wF)
 |_=>wF
def MH(σ:Sg)(d:V Z4)(o:K)(a:N wW)(k:Sg->V R):V R:=match a with
 |[x]=>(match xz cx σ x with
  |some (.ow p)=>jt (!xaf o p) (match xA σ.ob o,xA σ.ob p with
   |some (.hid t E X Y e c g z),Z (.own s b ys)=>jt (xaf b E)<|Ty.cast (.l s) (.l t) ys λys=>
    bd (g ys z) λr=>xfk (λf=>k ⟨σ.nx+1,RK o σ.nx<|qt σ.rg d [(0,.kb wL)],(σ.nx,.hid t E X Y e c g f)::yF (km σ.ob p (.own t b r.1)) o⟩)
     (λy'=>k ⟨σ.nx+1,RK o σ.nx<|qt σ.rg d [(0,.kb I)],(σ.nx,.hiy Y c y')::yF (km σ.ob p (.own t b r.1)) o⟩) r.2
   |_,_=>wF)
  |_=>wF)
 |_=>wF
inductive CoM
 |no
 |st (t:wT) (x y:wW)
 |ma (t:wT) (x y:wW)
 |lit (t:wT) (n:K) (ps:ut (K×wW))
 |al (E:wT)
 |tk (t:wT) (o:K)
 |tv (t:wT) (o:K)
 |bz (t:wT) (ps:ut (K×wW))
 |ap (ags:ut wW) (ts:ut wT)
 |sk (s:CY) (ags:ut wW)
 |yl (o:K) (ags:ut wW)
def coM(σ:Sg)(d:V Z4):Op->CoM
 |.store t x y=>bif zar (xz cx σ x)then .st t x y else .no
 |.makeSlice t x y=>bif TN cf d then .ma t x y else .no
 |.buildSlice t n ps=>bif TN cf d then .lit t n ps else .no
 |.alloc E=>bif TN cf d||(zaN cf d).isSome then .al E else .no
 |.build t ps=>bif (zaN cf d).isSome then .bz t ps else .no
 |.load t x=>(match xz cx σ x with
  |some (.mw o)=> .tk t o
  |v=>(match Pc σ v with
   |some o=> .tv t o
   |none=> .no))
 |.call ⟨.builtin .append,a,ts⟩=>bif a.toList.any (λx=>zh8<|xz cx σ x)then .ap a ts else .no
 |.call ⟨.value f,a,_⟩=>(match xz cx σ f with
  |some (.yd o)=> .yl o a
  |some (.fn f [])=>(match zep cf.ms f with
   |some s=> .sk s a
   |none=> .no)
  |_=> .no)
 |_=> .no
def mCo(σ:Sg)(d:V Z4)(c:CoM)(k:Sg->V R)(k0:V R):V R:=match c with
 |.no=>k0
 |.st t x y=>jt d.isNone (match Yc cf t with
  |some b=>kD σ b.ty (xz cx σ x) (xz cx σ y) k
  |none=>wF)
 |.ma t x y=>TD cf cx σ d t x y k
 |.lit t n ps=>ze9 cf cx σ d t n ps.toList k
 |.al E=>NK cf σ d E k
 |.tk t o=>zaw cf σ d t o k
 |.tv t o=>Th cf σ d t o k
 |.bz t ps=>Ll cf cx σ d t ps.toList k
 |.ap a ts=>zfd cf cx σ d a.toList ts.toList k
 |.sk s a=>CQ cx σ d s a.toList k
 |.yl o a=>MH cx σ d o a.toList k
def zda(f:Z2):N XW->V XW
 |[]=>wF
 |s::r=>match s.f,s.dom,s.cod,s.bk with
  |f',[.var _ _],[.var _ _],1=>bif E f' f then Z s else zda f r
  |_,_,_,_=>zda f r
def mBm(σ:Sg)(d:V Z4)(s:XW)(o:K)(k:Sg->V R):V R:=match s,xA σ.ob o with
 |⟨_,[.var t E],[.var t2 a],M,_⟩,Z (.var b c y)=>jt (xaf E c && (xaf a E && (Ty.same t t2).isSome))<|Ty.cast b t y λy=>Y (M (y,())) λz=>k ⟨σ.nx,qt σ.rg d [],km σ.ob o (.var t2 a z)⟩
 |_,_=>wF
def zmP(σ:Sg)(d:V Z4)(op:Op)(k:Sg->V R):V R:=
 match op with
 |.alloc E=>SR cf σ d E k
 |.box E x=>NT (zn7 cf d) (znv cf cx σ d E x k)<|mE cf cx σ d (.box E x) k
 |.store t x y=>jt d.isNone (match Yc cf t with
  |some b=>Tk σ b.ty (xz cx σ x) (xz cx σ y) k
  |none=>wF)
 |.makeSlice t x y=>zhr cf cx σ d t x y k
 |.buildSlice t n ps=>zoI cf cx σ d t n ps.toList k
 |.slice t x wF (Z hi) wF=>(match xz cx σ x with
  |some (.ow o)=>TS cf cx σ d t o hi k
  |_=>mE cf cx σ d (.slice t x wF (Z hi) wF) k)
 |.call ⟨.builtin .append,a,ts⟩=>zoG cf cx σ d a.toList ts.toList k
 |.call ⟨.builtin .copy,a,ts⟩=>zfg cf cx σ d a.toList ts.toList k
 |.call ⟨.value f,a,ts⟩=>(match xz cx σ f with
  |some (.fn f' cs)=>(match SX cx σ f' a.toList cf.cs with
   |some s=>zmg cf cx σ d s a.toList cs k
   |none=>mE cf cx σ d (.call ⟨.value f,a,ts⟩) k)
  |some (.bm f' o t)=>(match a.toList,zda f' cf.cs with
   |[],Z s=>mBm σ d s o k
   |_,_=>wF)
  |_=>mE cf cx σ d (.call ⟨.value f,a,ts⟩) k)
 |op=>mE cf cx σ d op k
def mOp(σ:Sg)(d:V Z4)(a:Op)(k:Sg->V R):V R:=mCo cf cx σ d (coM cf cx σ d a) k<|zmP cf cx σ d a k
def zq4(σ:Sg):Op->V wW
 |.panic x=>Z x
 |_=>wF
def zkR(σ:Sg)(d:V Z4)(a:Op)(kp:PX->Sg->V R)(k:Sg->V R):V R:=match zkN cf cx σ a with
 |some (p,b,cs)=>zmV cf cx σ d p b cs kp k
 |none=>(match zq4 σ a with
  |some x=>(match xz cx σ x with
   |some (.ifc q)=>kp q σ
   |_=>wF)
  |none=>mOp cf cx σ d a k)
def Mc(σ:Sg)(t:Z4)(b:v6):Sg:=⟨σ.nx,qt σ.rg (Z t) [(0,.kb b)],σ.ob⟩
def sV(c:N uT)(o:uT)(σ:Sg)(k:Sg->v6->V R):V R:=match o.guard with
 |none=>k σ wL
 |some (j,a)=>match c[j]? with
  |some e=>(match e.dst with
   |some t=>(match get cx σ t 0 with
    |some (.kb b)=>k σ<|b==a
    |some .un=>k σ I
    |some (.d .b x)=>jt (XY cx.rg t)<|ifB x (k (Mc σ t wL)<|true==a) (k (Mc σ t I)<|false==a)
    |_=>wF)
   |none=>wF)
  |none=>wF
def GQ(o:uT)(σ:Sg)(k:Sg->V R):V R:=match o.op with
 |.pick (.tmp t) _ _=>(match get cx σ t 0 with
  |some (.d .b x)=>jt (XY cx.rg t)<|ifB x (k<|Mc σ t wL) (k<|Mc σ t I)
  |_=>k σ)
 |_=>k σ
def zfa(a:N uT)(kp:PX->Sg->V R):N uT->Sg->(Sg->V R)->V R
 |[],σ,k=>k σ
 |o::r,σ,k=>jt (wJ cx o.dst)<|sV cx a o σ λσ w=>NT w
  (GQ cx o σ λσ=>(let σ:=zkr cx σ<|zn8 cf cx σ o.dst o.op;zkR cf cx σ o.dst o.op kp λσ=>zfa a kp r σ k))
  (zfa a kp r (σ.put o.dst [(0,.un)]) k)
def dd:N (K×K×Dv)->N (K×K×Dv)
 |[]=>[]
 |e::r=>e::(dd r).filter λf=> !(E e.1 f.1 && E e.2.1 f.2.1)
structure Rb where
 a:V K
 c:V K
 rd:N K
 o:K
 x:Od
structure Oi where
 lo:K
 hi:K
 refs:N K
def dH(ts:N Z4):N (K×K×Dv)->N K
 |[]=>[]
 |(t,_,v)::r=>(match cn ts t,vt v with
  |true,Z o=>o::dH ts r
  |_,_=>dH ts r)
def rE:N (K×Dv)->N K
 |[]=>[]
 |(_,v)::r=>(match vt v with
  |some o=>o::rE r
  |none=>rE r)
def aR(ts:N Z4):N (K×K×Dv)->N (K×K×Dv)
 |[]=>[]
 |(t,i,v)::r=>(match cn ts t with
  |true=>(t,i,v)::aR ts r
  |false=>aR ts r)
def Bn(d:V Z4)(rg:N (K×K×Dv)):N (K×Dv):=match d with
 |some t=>rg.filterMap λe=>match E e.1 t with
  |true=>Z (e.2.1,e.2.2)
  |false=>wF
 |none=>[]
def eH(os:N K):N Rb->N (K×Od)
 |[]=>[]
 |r::rs=>match r.c,cn os r.o with
  |none,wL=>(r.o,r.x)::eH os rs
  |_,_=>eH os rs
def SU(i:K)(os:N K):N Rb->N Rb
 |[]=>[]
 |r::rs=>(match r.c,cn os r.o with
  |none,wL=>⟨r.a,Z i,r.rd,r.o,r.x⟩
  |_,_=>r)::SU i os rs
def zgw(i:K)(os:N K):N Rb->N Rb
 |[]=>[]
 |r::rs=>(match r.c,cn os r.o with
  |none,wL=>⟨r.a,wF,i::r.rd,r.o,r.x⟩
  |_,_=>r)::zgw i os rs
def zdL(i:K)(ob:N (K×Od)):N Rb:=ob.map λe=>⟨Z i,wF,[],e.1,e.2⟩
def zp9(ob:N (K×Od)):N Rb:=ob.map λe=>⟨wF,wF,[],e.1,e.2⟩
def Rr:N Rb->N (K×Od)
 |[]=>[]
 |r::rs=>match r.c with
  |none=>(r.o,r.x)::Rr rs
  |some _=>Rr rs
def okO(n:K)(ob:N (K×Od)):v6:=ob.all λe=>xda e.1 n
def Hf(σ:Sg):N K->Sg
 |[]=>σ
 |o::r=>Hf (OO σ o) r
def zh3:N RM->v6
 |[]=>wL
 |.own _ _::_=>I
 |.var _ _::_=>I
 |_::r=>zh3 r
def zlO(σ:Sg)(b:v6)(d:V Z4):Op->v6
 |.alloc _=>wL
 |.store _ _ _=>wL
 |.makeSlice _ _ _=>wL
 |.buildSlice _ _ _=> !b
 |.box _ _=>zn7 cf d
 |.build _ _=>(zaN cf d).isSome
 |.load _ x=>zh8 (xz cx σ x)||(Pc σ<|xz cx σ x).isSome
 |.slice _ x wF (Z _) wF=>(match xz cx σ x with
  |some (.ow _)=>wL
  |_=>I)
 |.call ⟨.builtin .append,_,_⟩=>wL
 |.call ⟨.builtin .copy,_,_⟩=>wL
 |.call ⟨.value f,a,_⟩=>(match xz cx σ f with
  |some (.fn f' _)=>(match SX cx σ f' a.toList cf.cs with
   |some s=> !(ER s.dom)||(!b && !(zh3 s.cod))
   |none=>(zep cf.ms f').isSome)
  |some (.yd _)=>wL
  |some (.bm _ _ _)=>wL
  |_=>I)
 |_=>I
def fzB(a:N K):V Z4->v6
 |some t=>cn a t
 |none=>I
def zqc(b:v6)(d:V Z4)(τ:Sg):Sg:=match b with
 |true=>Hf τ<|rE<|Bn d τ.rg
 |false=>τ
def zly(τ:Sg)(d:V Z4)(k:N (K×Dv)->K->N (K×Od)->V R):V R:=jt (okL τ.nx (Bn d τ.rg) && okO τ.nx τ.ob)<|k (Bn d τ.rg) τ.nx τ.ob
def zlA(os:N K):Op->N K
 |.move _=>[]
 |.assign _=>[]
 |_=>os
def zlP(a:N uT)(b:V (K×PX))(i:K):v6:=match b with
 |some (c,_)=>vO a 16 i c
 |none=>I
def Pw(a:N uT)(b:N K):V (K×PX)->N uT->K->Sg->N Rb->N Oi->(V (K×PX)->Sg->N Rb->N Oi->V R)->V R
 |pn,[],_,σ,rs,is,k=>k pn σ rs is
 |pn,o::r,i,σ,rs,is,k=>jt (wJ cx o.dst)<|NT (zlP a pn i) (Pw a b pn r (i+1) (σ.put o.dst []) rs (is++[⟨σ.nx,σ.nx,[]⟩]) k)<|sV cx a o σ λσ w=>NT w
  (GQ cx o σ λσ=>NT (zlO cf cx ⟨σ.nx,σ.rg,eH (dH (xbk a.toArray o) σ.rg) rs⟩ (fzB b o.dst) o.dst o.op||(zkN cf cx σ o.op).isSome)
   (zkR cf ⟨0,[],cx.ob⟩ ⟨σ.nx,dd<|aR (xbk a.toArray o)<|σ.rg++cx.rg,eH (dH (xbk a.toArray o) σ.rg) rs⟩ o.dst o.op (λq _=>match pn with
    |some _=>wF
    |none=>Pw a b (Z (i,q)) r (i+1) (σ.put o.dst []) (SU i (dH (xbk a.toArray o) σ.rg) rs) (is++[⟨σ.nx,σ.nx,[]⟩]) k) λτ=>
    zly (zqc (fzB b o.dst) o.dst τ) o.dst λl n ob=>Pw a b pn r (i+1) ⟨n,qt σ.rg o.dst l,[]⟩ (SU i (dH (xbk a.toArray o) σ.rg) rs++zdL i ob) (is++[⟨σ.nx,n,rE l⟩]) k)
   (eOp cf cx ⟨σ.nx,σ.rg,eH (zlA (dH (xbk a.toArray o) σ.rg) o.op) rs⟩ o.op λl=>jt (okL σ.nx l)<|Pw a b pn r (i+1) (σ.put o.dst l) (zgw i (zlA (dH (xbk a.toArray o) σ.rg) o.op) rs) (is++[⟨σ.nx,σ.nx,rE l⟩]) k))
  (Pw a b pn r (i+1) (σ.put o.dst [(0,.un)]) rs (is++[⟨σ.nx,σ.nx,[]⟩]) k)
def inB(a:Oi)(o:K):v6:=xfu a.lo o && xda o a.hi
def zli(l:N uT)(i:K)(b:Oi)(rs:N Rb)(c:N (Oi×K)):v6:=
 (rs.all λr=> !inB b r.o||(match r.a with
  |some j=>E j i||vO l 16 j i
  |none=>I)) && c.all λJ=>J.1.refs.all λp=> !inB b p||E J.2 i||vO l 16 J.2 i
def zjN(l:N uT)(m:K)(rs:N Rb)(is:N Oi):v6:=
 (rs.all λr=>(match r.a with
  |some j=>xda j m && r.rd.all λi=>vO l 16 i j
  |none=>wL) && (match r.c with
  |some k=>xda k m && (match r.a with
   |some j=>vO l 16 k j
   |none=>wL) && r.rd.all λi=>vO l 16 k i
  |none=>wL)) &&
 (is.zipIdx.all λJ=>zli l J.2 J.1 rs is.zipIdx) &&
 (xaO m).all λi=>(xaO m).all λj=>E i j||(match(zS l i).dst with
  |some t=> !((zS l j).dst==Z t)
  |none=>wL)
def zaF(l:N uT):K->K->K
 |0,m=>m
 |f+1,m=>bif xda 1 m && W9 l (m-1)then zaF l f (m-1)else m
def zoc(al:N (K×wW)):wW->wW
 |.tmp t=>(match UC al t with
  |some x=>x
  |none=> .tmp t)
 |x=>x
def zpf(al:N (K×wW))(o:uT):N (K×wW):=match o.op,o.dst with
 |.move x,Z d=>(d,zoc al x)::al
 |.assign x,Z d=>(d,zoc al x)::al
 |_,_=>al
def zm5:N uT->N (K×wW)->Sg->Sg
 |[],_,σ=>σ
 |o::r,al,σ=>zm5 r (zpf al o)<|zkr cx σ<|(zn8 cf cx σ o.dst o.op).map<|zoc al
def zmO(id:K):N K:=match UC cf.an.dz id with
 |some l=>l
 |none=>[]
def zel(l:N uT):N K:=l.filterMap (·.dst)
def HA:N Rb->N (K×Od)
 |[]=>[]
 |r::rs=>(match r.a,r.c with
  |none,wF=>(r.o,r.x)::HA rs
  |_,_=>HA rs)
def zi8(b:N K)(l:N uT)(m:K)(a:Sg)(kp:PX->Sg->V R)(k:Sg->V R):V R:=
 Pw cf cx l b wF (l.take m) 0 ⟨a.nx,a.rg,[]⟩ (zp9 a.ob) [] λc σ rs is=>jt (zjN l m rs is)<|match c with
  |none=>zfa cf cx l kp (l.drop m) ⟨σ.nx,dd σ.rg,Rr rs⟩ k
  |some (_,q)=>kp q ⟨σ.nx,a.rg.filter<|λe=> !cn (zel<|l.take m) e.1,HA rs⟩
def zqt(id:K):v6:=match UC cf.an.dz id with
 |some _=>wL
 |none=>I
def zh6(id:K)(l:N uT)(a:v6)(σ:Sg)(kp:PX->Sg->V R)(k:Sg->V R):V R:=
 NT a
  (let m:=zaF l (X l) (X l)
  jt (W9 l m)<|NT (zqt cf id) (zi8 cf cx (zmO cf id) l m (Hf σ<|dH (zmO cf id) σ.rg) kp k) (zi8 cf cx (zel<|l.take m) l m (zm5 cf cx (l.take m) [] σ) kp k))
  (zfa cf cx l kp l σ k)
def Ju:N (K×TF)->Type
 |[]=>Z3
 |[a]=>a.2.D
 |a::b::r=>a.2.D×Ju (b::r)
def eN(σ:Sg)(ds:N (K×TF))(t:K)(f:TF)(k:f.D->N K->V R):V R:=match f,k with
 |.d s,k=>BN (get cx σ t 0) s λy=>k y []
 |.q s,k=>(match get cx σ t 0 with
  |some (.q a x)=>Ty.cast a s x λy=>k y []
  |_=>wF)
 |.own s E,k=>(match get cx σ t 0 with
  |some (.ow o)=>(match xA σ.ob o with
   |some (.own a b xs)=>jt (xaf E b)<|Ty.cast (.l a) (.l s) xs λy=>k y [o]
   |_=>wF)
  |some .nil=>k ([]:N s.D) []
  |_=>wF)
 |.var s E,k=>(match get cx σ t 0 with
  |some (.vs o _)=>(match xA σ.ob o with
   |some (.var a b z)=>jt (xaf E b)<|Ty.cast a s z λy=>k y [o]
   |_=>wF)
  |_=>wF)
 |.mat s E E1,k=>(match get cx σ t 0 with
  |some (.mw o)=>(match xA σ.ob o with
   |some (.mat a b c e ix)=>jt (xaf E b && xaf E1 c)<|Ty.cast (.l (.l a)) (.l (.l s)) e λy=>k (y,ix) [o]
   |_=>wF)
  |some .nil=>k (([],[]):N (N s.D)×N K) []
  |_=>wF)
 |.matv s E E1,k=>(match get cx σ t 0 with
  |some (.mv o lo n)=>(match xA σ.ob o with
   |some (.mat a b c e ix)=>jt (xaf E b && xaf E1 c)<|Ty.cast (.l (.l a)) (.l (.l s)) e λy=>k ((y,ix),(lo,n)) [o]
   |_=>wF)
  |_=>wF)
 |.row j,k=>(match get cx σ t 0,ds[j]? with
  |some (.rw o r),Z (s,.mat _ _ _)=>(match get cx σ s 0 with
   |some (.mw g)=>jt (xaf o g)<|k r []
   |_=>wF)
  |some (.rw o r),Z (s,.matv _ _ _)=>(match get cx σ s 0 with
   |some (.mv g _ _)=>jt (xaf o g)<|k r []
   |_=>wF)
  |_,_=>wF)
 |.view j,k=>(match get cx σ t 0,ds[j]? with
  |some (.mv o lo n),Z (s,.mat _ _ _)=>(match get cx σ s 0 with
   |some (.mw g)=>jt (xaf o g)<|k (lo,n) []
   |_=>wF)
  |some (.mv o lo n),Z (s,.matv _ _ _)=>(match get cx σ s 0 with
   |some (.mv g _ _)=>jt (xaf o g)<|k (lo,n) []
   |_=>wF)
  |_,_=>wF)
 |.vr s E m E1 n i,k=>(match get cx σ t 0 with
  |some (.mw o)=>(match xA σ.ob o with
   |some (.vr a b h c p u z xs)=>jt (xaf E b && (xaf E1 c && (xaf n p && xaf i u)))<|Ty.cast a s z λz=>Ty.cast (.l h) (.l m) xs λxs=>k (z,xs) [o]
   |_=>wF)
  |_=>wF)
 |.bo s E v,k=>(match get cx σ t 0 with
  |some (.mw o)=>(match xA σ.ob o with
   |some (.bo a b c xs)=>jt (xaf E b && xaf v c)<|Ty.cast (.l a) (.l s) xs λy=>k y [o]
   |_=>wF)
  |_=>wF)
def Dk(os:N K):N K->v6
 |[]=>wL
 |o::r=> !cn os o && Dk os r
def gat(σ:Sg)(ds:N (K×TF)):(l:N (K×TF))->(Ju l->N K->V R)->V R
 |[],k=>k () []
 |[a],k=>eN cx σ ds a.1 a.2 k
 |a::b::r,k=>eN cx σ ds a.1 a.2 λx o=>gat σ ds (b::r) λy os=>jt (Dk os o)<|k (x,y) (o++os)
def zj6(σ:Sg):N (K×NF)->v6
 |[]=>wL
 |(t,f)::r=>(match f,get cx σ t 0 with
  |.kb b,Z (.kb c)=>b==c
  |.nil,Z .nil=>wL
  |.ci x,Z (.d .i y)=>eqI x y
  |.cu x,Z (.d .u y)=>eqU x y
  |.al s,Z (.ow o)=>(match get cx σ s 0 with
   |some (.ow a)=>E o a
   |_=>I)
  |.al s,Z (.vs o _)=>(match get cx σ s 0 with
   |some (.vs a _)=>E o a
   |_=>I)
  |.al s,Z (.mw o)=>(match get cx σ s 0 with
   |some (.mw a)=>E o a
   |_=>I)
  |.bm s f,Z (.bm f' o _)=>(match get cx σ s 0 with
   |some (.vs a _)=>E o a && E f f'
   |_=>I)
  |_,_=>I) && zj6 σ r
def Ga(n0 o:K)(f:TF)(x:f.D):Dv×V Od:=match f,x with
 |.d t,x=>(.d t x,wF)
 |.q t,x=>(.q t x,wF)
 |.own t E,x=>(.ow o,Z (.own t E x))
 |.var t E,x=>(.vs o t,Z (.var t E x))
 |.mat t E E1,x=>(.mw o,Z (.mat t E E1 x.1 x.2))
 |.matv t E E1,x=>(.mv o x.2.1 x.2.2,Z (.mat t E E1 x.1.1 x.1.2))
 |.row j,r=>(.rw (n0+j) r,wF)
 |.view j,r=>(.mv (n0+j) r.1 r.2,wF)
 |.bo t E a,x=>(.mw o,Z (.bo t E a x))
 |.vr t E s E1 n i,x=>(.mw o,Z (.vr t E s E1 n i x.1 x.2))
def lj(n0:K):(l:N (K×TF))->Ju l->K->N (K×K×Dv)×N (K×Od)
 |[],_,_=>([],[])
 |[a],x,o=>let v:=Ga n0 o a.2 x
  ([(a.1,0,v.1)],match v.2 with
   |some y=>[(o,y)]
   |none=>[])
 |a::b::r,x,o=>let v:=Ga n0 o a.2 x.1
  let y:=lj n0 (b::r) x.2<|o+1
  ((a.1,0,v.1)::y.1,match v.2 with
   |some q=>(o,q)::y.2
   |none=>y.2)
def Mj(rg:N (K×K×Dv)):N (K×NF)->N (K×K×Dv)
 |[]=>rg
 |(t,f)::r=>(match f with
  |.kb b=>[(t,0,.kb b)]
  |.nil=>[(t,0,.nil)]
  |.ci x=>[(t,0,.d .i x)]
  |.cu x=>[(t,0,.d .u x)]
  |.al s=>(match iZ rg s 0 with
   |some v=>[(t,0,v)]
   |none=>[])
  |.bm s f=>(match iZ rg s 0 with
   |some (.vs o q)=>[(t,0,.bm f o q)]
   |_=>[]))++Mj rg r
def J2(sh:Sh)(x:Ju sh.ds)(kp:Sg):Sg:=
 let y:=lj kp.nx sh.ds x kp.nx
 ⟨kp.nx+X sh.ds,Mj y.1 sh.ns++y.1++kp.rg,y.2++kp.ob⟩
def zhP(σ:Sg):N (K×TF)->Sg
 |[]=>σ
 |(t,.d _)::r=>zhP (frz cx σ (.tmp t)) r
 |_::r=>zhP σ r
def aE(sh:Sh)(σ:Sg)(k:Ju sh.ds->V R):V R:=let σ:=zhP cx σ sh.ds
 jt (zj6 cx σ sh.ns)<|gat cx σ sh.ds sh.ds λx _=>k x
def zaO(a:Tg×Sh):Type:=match a.1 with
 |.p _=>PX×Ju a.2.ds
 |_=>Ju a.2.ds
def SmD:N (Tg×Sh)->Type
 |[]=>Empty
 |[a]=>zaO a
 |a::b::r=>zaO a⊕SmD (b::r)
def TZ:Tg->Tg->v6
 |.n,.n=>wL
 |.x i,.x j=>E i j
 |.r,.r=>wL
 |.p _,.p _=>wL
 |_,_=>I
def znD(σ:Sg)(t:Tg):(a:Tg×Sh)->(zaO a->V R)->V R
 |(.p _,sh),k=>(match t with
  |.p q=>aE cx sh σ λx=>k (q,x)
  |_=>wF)
 |(.n,sh),k=>aE cx sh σ k
 |(.x _,sh),k=>aE cx sh σ k
 |(.r,sh),k=>aE cx sh σ k
def zfR(kp:Sg)(K:Tg->Sg->V R):(a:Tg×Sh)->zaO a->V R
 |(.p _,sh)=>λx=>K (.p x.1)<|J2 sh x.2 kp
 |(.n,sh)=>λx=>K .n<|J2 sh x kp
 |(.x i,sh)=>λx=>K (.x i)<|J2 sh x kp
 |(.r,sh)=>λx=>K .r<|J2 sh x kp
def zf3(σ:Sg)(t:Tg):(l:N (Tg×Sh))->(SmD l->V R)->V R
 |[],_=>wF
 |[a],k=>jt (TZ a.1 t)<|znD cx σ t a k
 |a::b::r,k=>NT (TZ a.1 t) (znD cx σ t a λx=>k (.inl x))<|zf3 σ t (b::r) λy=>k (.inr y)
def RR(kp:Sg)(K:Tg->Sg->V R):(l:N (Tg×Sh))->SmD l->V R
 |[]=>λ_=>wF
 |[a]=>λx=>zfR kp K a x
 |a::b::r=>λx=>xfk (α:=zaO a) (β:=SmD (b::r)) (λx=>zfR kp K a x) (RR kp K (b::r)) x
def Fe:Z9->N K
 |.region _ d _=>d.toList.filterMap (·.dst)
 |.seq a b=>Fe a++Fe b
 |.cond _ a b=>Fe a++Fe b
 |.block _ c=>Fe c
 |.loop c=>Fe c
 |.scope c=>Fe c
 |.rangeFunc _ ps a c=>ps.toList++(Fe a++Fe c)
 |_=>[]
def rid:Z9->V K
 |.region i _ _=>Z i
 |.seq a b=>(match rid a with
  |some i=>Z i
  |none=>rid b)
 |.cond _ a b=>(match rid a with
  |some i=>Z i
  |none=>rid b)
 |.block _ c=>rid c
 |.loop c=>rid c
 |.scope c=>rid c
 |.rangeFunc _ _ a c=>(match rid a with
  |some i=>Z i
  |none=>rid c)
 |_=>wF
def zlG:V K->K
 |some i=>i+1
 |none=>0
def zrD(a b:Z9):K:=zlG (rid a)*65536+zlG (rid b)
def GZ(σ:Sg):N K->N K
 |[]=>[]
 |t::r=>match iZ σ.rg t 0 with
  |some v=>(match vt v with
   |some o=>o::GZ σ r
   |none=>GZ σ r)
  |none=>GZ σ r
def zet(a b:N K)(e:K×K×Dv):v6:= !cn a e.1 && (match vt e.2.2 with
 |some o=>cn b o
 |none=>wL)
def keep(σ:Sg)(a ro:N K):Sg:=let b:=GZ σ ro
 ⟨σ.nx,σ.rg.filter<|zet a b,σ.ob.filter λe=>cn b e.1⟩
def rest(σ:Sg)(a ro:N K):Sg:=let b:=GZ σ ro
 ⟨σ.nx,σ.rg.filter<|λe=> !zet a b e,σ.ob.filter λe=> !cn b e.1⟩
def qL(cx kp:Sg):Sg:=⟨kp.nx,kp.rg++cx.rg,kp.ob++cx.ob⟩
def cR:N (K×TF)->v6
 |[]=>wL
 |(_,.own _ _)::r=>cR r
 |(_,.var _ _)::r=>cR r
 |(_,.mat _ _ _)::r=>cR r
 |(_,.bo _ _ _)::r=>cR r
 |_=>I
def AZ:N (K×TF)->K->N (K×K×Dv)
 |[],_=>[]
 |(t,.mat _ _ _)::r,n=>(t,0,.mw n)::AZ r (n+1)
 |(t,.bo _ _ _)::r,n=>(t,0,.mw n)::AZ r (n+1)
 |(t,_)::r,n=>(t,0,.ow n)::AZ r (n+1)
def Ih{a:K×TF}:{l:N (K×TF)}->a.2.D->Ju l->Ju (a::l)
 |[],y,_=>y
 |_::_,y,x=>(y,x)
def lk{a:K×TF}:{l:N (K×TF)}->Ju (a::l)->a.2.D×Ju l
 |[],z=>(z,())
 |_::_,z=>z
def uC(pt:K)(t:Ty)(E:wT)(ds:N (K×TF)):Sh:=⟨(pt,.own t E)::ds,[]⟩
def zeZ(ds:N (K×TF))(t:K):v6:=ds.all λe=> !E e.1 t
def zfy:N (K×TF)->v6
 |[]=>wL
 |e::r=>zeZ r e.1 && zfy r
def cpR(cx':Sg)(n:K)(sh:Sh):Sg:=⟨n+X sh.ds,AZ sh.ds n++cx'.rg,cx'.ob⟩
def zmD(cp:Sg)(ds:N (K×TF))(t:Ty)(E:wT)(pt:K)(τ:Tg)(q:Tg)(σ:Sg):V (N t.D×(Ju ds⊕Ju ds)):=match q with
 |.n=>aE cp (uC pt t E ds) σ λz=>Z ((lk z).1,.inl (lk z).2)
 |.x i=>jt (TZ τ (.x i))<|aE cp (uC pt t E ds) σ λz=>Z ((lk z).1,.inr (lk z).2)
 |.r=>jt (TZ τ .r)<|aE cp (uC pt t E ds) σ λz=>Z ((lk z).1,.inr (lk z).2)
 |.p _=>wF
def zq2(cx':Sg)(n:K)(ds:N (K×TF))(t:Ty)(E:wT)(pt:K)(τ:Tg)
 (b c:Sg->Sg->(Tg->Sg->V (N t.D×(Ju ds⊕Ju ds)))->V (N t.D×(Ju ds⊕Ju ds))) (ys:N t.D) (x:Ju ds):V (N t.D×(Ju ds⊕Ju ds)):=
 b (cpR cx' n<|uC pt t E ds) (J2 (uC pt t E ds) (Ih (a:=(pt,.own t E)) ys x) ⟨n,[],[]⟩) λq σ=>match q with
  |.n=>c (cpR cx' n<|uC pt t E ds) σ<|zmD (cpR cx' n<|uC pt t E ds) ds t E pt τ
  |_=>wF
def zry:Tg->v6
 |.p _=>wL
 |_=>I
def zaK{R:Type}(cx σ:Sg)(K:Tg->Sg->V R)(s:Lp)(it:GB)(y:UU it.dom)(τ:Tg)(pt:wr)(a:N wr)
 (b c:Sg->Sg->(Tg->Sg->V (N it.t.D×(Ju s.hd.ds⊕Ju s.hd.ds)))->V (N it.t.D×(Ju s.hd.ds⊕Ju s.hd.ds))):V R:=
 let kp:=keep σ a s.sg.ro
 let cx':=qL cx kp
 jt (cR s.hd.ds && (!zry τ && zfy (uC pt it.t it.E s.hd.ds).ds && XY cx'.rg pt))<|aE cx' s.hd (rest σ a s.sg.ro) λx=>
  bd (it.M (X:=Ju s.hd.ds) (Y:=Ju s.hd.ds) y (zq2 cx' kp.nx s.hd.ds it.t it.E pt τ b c) x) λr=>xfk (λx=>K .n<|J2 s.hd x kp) (λx=>K τ<|J2 s.hd x kp) r
def Ny:Z9->v6
 |.seq a b=>Ny a && Ny b
 |.cond _ a b=>Ny a && Ny b
 |.block _ c=>Ny c
 |.loop c=>Ny c
 |.scope c=>Ny c
 |.rangeFunc _ _ _ _=>I
 |_=>wL
end
def den(cf:Cf):Z9->{R:Type}->Sg->Sg->(Tg->Sg->V R)->V R
 |.skip,_,cx,σ,K=>K .n σ
 |.label _,_,cx,σ,K=>K .n σ
 |.exit id,_,cx,σ,K=>K (.x id) σ
 |.ret,_,cx,σ,K=>K .r σ
 |.scope c,_,cx,σ,K=>den cf c cx σ K
 |.region i h k,_,cx,σ,K=>zh6 cf cx i h.toList k σ (λq σ=>K (.p q) σ) λσ=>K .n σ
 |.cond c a b,_,cx,σ,K=>(match xz cx σ c with
  |some (.kb wL)=>den cf a cx σ K
  |some (.kb I)=>den cf b cx σ K
  |some (.d .b x)=>ifB x (den cf a cx σ K)<|den cf b cx σ K
  |_=>wF)
 |.block id c,_,cx,σ,K=>den cf c cx σ λt σ=>match t with
  |.x j=>NT (E j id) (K .n σ)<|K (.x j) σ
  |t=>K t σ
 |.seq a b,_,cx,σ,K=>
  (match UC cf.an.jn (zrD a b)with
  |none=>den cf a cx σ λt σ=>(match t with
   |.n=>den cf b cx σ K
   |t=>K t σ)
  |some s=>
   let e:=Fe a
   let kp:=keep σ e s.ro
   Y (den cf a (qL cx kp) (rest σ e s.ro) λt σ=>zf3 (qL cx kp) σ t s.tg Z) λx=>
    RR kp (λt σ=>match t with
     |.n=>den cf b cx σ K
     |t=>K t σ) s.tg x)
 |.loop c,_,cx,σ,K=>
  (match(match rid c with
   |some i=>UC cf.an.lp i
   |none=>wF)with
  |none=>wF
  |some s=>
   let e:=Fe c
   let kp:=keep σ e s.sg.ro
   let cx':=qL cx kp
   aE cx' s.hd (rest σ e s.sg.ro) λx=>
    Y (zg (λL x=>den cf c cx' (J2 s.hd x ⟨kp.nx,[],[]⟩) λt σ=>match t with
     |.n=>aE cx' s.hd σ L
     |t=>zf3 cx' σ t s.sg.tg Z) cf.fu x) λx=>RR kp K s.sg.tg x)
 |.rangeFunc g ps a c,_,cx,σ,K=>
  (match xz cx σ g,(match rid c with
   |some i=>UC cf.an.lp i
   |none=>wF),ps.toList with
  |some (.fn f cs),Z s,[pt]=>(match zjx cf.is f,s.sg.tg,s.hd.ns with
   |some it,[(τ,_)],[]=>(match cy it.dom cs with
    |some y=>jt (Ny a && Ny c)<|zaK cx σ K s it y τ pt (pt::(Fe a++Fe c)) (λcx σ K=>den cf a cx σ K) (λcx σ K=>den cf c cx σ K)
    |none=>wF)
   |_,_,_=>wF)
  |_,_,_=>wF)
 |_,_,_,_,_=>wF
def ZS:(dom:N AM)->UU dom->K->N (K×K×Dv)×N (K×Od)
 |[],_,_=>([],[])
 |.d t::r,x,i=>let y:=ZS r x.2 (i+1)
  ((i,0,.d t x.1)::y.1,y.2)
 |.q t::r,x,i=>let y:=ZS r x.2 (i+1)
  ((i,0,.q t x.1)::y.1,y.2)
 |.own t E::r,x,i=>let y:=ZS r x.2 (i+1)
  ((i,0,.ow i)::y.1,(i,.own t E x.1)::y.2)
 |.var t E::r,x,i=>let y:=ZS r x.2 (i+1)
  ((i,0,.vs i t)::y.1,(i,.var t E x.1)::y.2)
 |.fn dom cod::r,x,i=>let y:=ZS r x.2 (i+1)
  ((i,0,.fp dom cod x.1)::y.1,y.2)
def DD{R:Type}(cf:Cf)(σ:Sg)(r:WS)(m:RM)(k:m.D->N K->V R):V R:=match r,m,k with
 |.tmp t,.d s,k=>BN (get ⟨0,[],[]⟩ σ t 0) s λy=>k y []
 |.tmp t,.own s E,k=>eN ⟨0,[],[]⟩ σ [] t (.own s E) k
 |.tmp t,.var s E,k=>eN ⟨0,[],[]⟩ σ [] t (.var s E) k
 |.cell t E,.d s,k=>(match get ⟨0,[],[]⟩ σ t 0,Yc cf E with
  |some (.vs o _),Z a=>(match xA σ.ob o with
   |some (.var b c z)=>jt (xaf E c)<|Ty.cast b a.ty z λz=>Ty.cast a.ty s z λy=>k y [o]
   |_=>wF)
  |_,_=>wF)
 |_,_,_=>wF
def Bf{R:Type}(cf:Cf)(σ:Sg):N WS->(cod:N RM)->(UK cod->N K->V R)->V R
 |[],[],k=>k () []
 |[v],[m],k=>DD cf σ v m k
 |v::a::vs,m::m'::ms,k=>DD cf σ v m λx o=>Bf cf σ (a::vs) (m'::ms) λy os=>jt (Dk os o)<|k (x,y) (o++os)
 |_,_,_=>wF
def NU(N:K):Z9->v6
 |.region _ d _=>d.toList.all λo=>qK N o.dst
 |.seq a b=>NU N a && NU N b
 |.cond _ a b=>NU N a && NU N b
 |.block _ c=>NU N c
 |.loop c=>NU N c
 |.scope c=>NU N c
 |.rangeFunc _ ps a c=>(ps.toList.all λp=>xda p N) && (NU N a && NU N c)
 |_=>wL
def Jb(σ:Sg):N WS->N RM->Sg
 |.tmp t::vs,.d _::ms=>Jb (frz ⟨0,[],[]⟩ σ (.tmp t)) vs ms
 |_::vs,_::ms=>Jb σ vs ms
 |_,_=>σ
def zaX(cf:Cf)(fn:WF)(dom:N AM)(cod:N RM)(x:UU dom):V (UK cod):=match fn.body with
 |some c=>jt (NU fn.ntmps c && xfu (X dom) fn.ntmps)<|
  let y:=ZS dom x 0
  den cf c ⟨0,[],[]⟩ ⟨X dom,y.1,y.2⟩ λt σ=>(match t with
   |.r=>Bf cf (Jb σ fn.results.toList cod) fn.results.toList cod λy _=>Z y
   |.n=>Bf cf (Jb σ fn.results.toList cod) fn.results.toList cod λy _=>Z y
   |_=>wF)
 |none=>wF
def zjh(cf:Cf)(fn:WF)(dom:N AM)(cod:N RM)(x:UU dom):V (PX⊕UK cod):=match fn.body with
 |some c=>jt (NU fn.ntmps c && xfu (X dom) fn.ntmps)<|
  let y:=ZS dom x 0
  den cf c ⟨0,[],[]⟩ ⟨X dom,y.1,y.2⟩ λt σ=>(match t with
   |.r=>Bf cf (Jb σ fn.results.toList cod) fn.results.toList cod λy _=>Z (.inr y)
   |.n=>Bf cf (Jb σ fn.results.toList cod) fn.results.toList cod λy _=>Z (.inr y)
   |.p q=>Z (.inl q)
   |_=>wF)
 |none=>wF
def FQ:N AM->K->N WS
 |[],_=>[]
 |.own _ _::r,i=> .tmp i::FQ r (i+1)
 |.var _ _::r,i=> .tmp i::FQ r (i+1)
 |_::r,i=>FQ r<|i+1
def C7(a:K->wN):N AM->K->N (K×K×Dv)
 |[],_=>[]
 |.own _ _::r,i=>(i,0,.pin<|a i)::C7 a r (i+1)
 |.var _ _::r,i=>(i,0,.pin<|a i)::C7 a r (i+1)
 |_::r,i=>C7 a r<|i+1
def zjz(cf:Cf)(fn:WF)(dom:N AM)(cod:N RM)(bk:K)(b:K->wN)(x:UU dom):V (UK cod):=match fn.body with
 |some c=>jt (NU fn.ntmps c && xfu (X dom) fn.ntmps && E (X fn.results.toList+bk) (X cod) && E (X (FQ dom 0)) bk && xda 0 bk)<|
  let y:=ZS dom x 0
  let a:=fn.results.toList++FQ dom 0
  den cf c ⟨0,C7 b dom 0,[]⟩ ⟨X dom,y.1,y.2⟩ λt σ=>(match t with
   |.r=>Bf cf (Jb σ a cod) a cod λy _=>Z y
   |.n=>Bf cf (Jb σ a cod) a cod λy _=>Z y
   |_=>wF)
 |none=>wF
end
section
def gW(p:Prop):FF where
 p _ _:=p
 keep h _:=h
 sub h _:=h
def FV:N PD->N wN->N FF
 |c::cs,v::vs=>fP c.t.rep c.x v::FV cs vs
 |_,_=>[]
def tsF:(ts:N Ty)->nU ts->N wN->N FF
 |[],_,_=>[]
 |t::ts,x,vs=>fV t.rep x.1 (vs.headD Z0)::tsF ts x.2 vs.tail
def csF:(ts:N Ty)->Ie ts->N wN->N FF
 |[],_,_=>[]
 |[t],x,vs=>[fV t.rep x<|vs.headD Z0]
 |t::s::r,x,vs=>fV t.rep x.1 (vs.headD Z0)::csF (s::r) x.2 vs.tail
def zop(P:jP)(a:Z2)(br:N wN)(b:N FF)(dom cod:N Ty)(g:nU dom->V (Ie cod)):Prop:=
 sG P a=wL/\∀(x:nU dom) (r:Ie cod),g x=Z r->∀vs:N wN,X vs=X dom->
  Fn P a (vs++br).toArray (tsF dom x vs++b) uK (λus=>csF cod r us) (λus=>X us=X cod)
def fnF(P:jP)(dom cod:N Ty)(g:nU dom->V (Ie cod))(v:wN):FF where
 p S w:=∃a br b,v=.func (.func a) #[] br.toArray/\zop P a br b dom cod g/\zB S b w
 keep:=by rintro S w w' ⟨a,br,b,h1,c,d⟩ k;exact⟨a,br,b,h1,c,zB.keep k d⟩
 sub:=by rintro S e w ⟨a,br,b,h1,c,d⟩ k;exact⟨a,br,b,h1,c,zB.sub k d⟩
def amF(P:jP):(a:AM)->a.D->wN->FF
 |.d t,x,v=>fV t.rep x v
 |.q t,x,v=>fP t.rep x v
 |.own _ _,_,_=>gW Xs
 |.var _ _,_,v=>gW (∃b,v=.pointer (Z ⟨b,0,wF⟩))
 |.fn dom cod,g,v=>fnF P dom cod g v
def amM:(a:AM)->a.D->wN->N MF
 |.own t E,xs,v=>[mO t.rep E v xs]
 |.var t E,z,v=>[mP t.rep.c E v z]
 |_,_,_=>[]
def jy(P:jP):(dom:N AM)->UU dom->N wN->N FF
 |[],_,_=>[]
 |a::r,x,vs=>amF P a x.1 (vs.headD Z0)::jy P r x.2 vs.tail
def ki:(dom:N AM)->UU dom->N wN->N MF
 |[],_,_=>[]
 |a::r,x,vs=>amM a x.1 (vs.headD Z0)++ki r x.2 vs.tail
def rmF:(m:RM)->m.D->wN->N FF
 |.d t,x,v=>[fV t.rep x v]
 |.own _ _,_,_=>[]
 |.var _ _,_,v=>[gW (∃b,v=.pointer (Z ⟨b,0,wF⟩))]
def rmM:(m:RM)->m.D->wN->N MF
 |.own t E,xs,v=>[mO t.rep E v xs]
 |.var t E,z,v=>[mP t.rep.c E v z]
 |.d _,_,_=>[]
def jK:(rs:N RM)->UK rs->N wN->N FF
 |[],_,_=>[]
 |[m],x,vs=>rmF m x<|vs.headD Z0
 |m::n::r,x,vs=>rmF m x.1 (vs.headD Z0)++jK (n::r) x.2 vs.tail
def jR:(rs:N RM)->UK rs->N wN->N MF
 |[],_,_=>[]
 |[m],x,vs=>rmM m x<|vs.headD Z0
 |m::n::r,x,vs=>rmM m x.1 (vs.headD Z0)++jR (n::r) x.2 vs.tail
def JY:N AM->N wN->N wN
 |[],_=>[]
 |.own _ _::r,vs=>vs.headD Z0::JY r vs.tail
 |.var _ _::r,vs=>vs.headD Z0::JY r vs.tail
 |_::r,vs=>JY r vs.tail
def znn(bk n:K)(us:N wN):wN:=match bk with
 |0=>uK us
 |b+1=>uK<|us.take<|n-(b+1)
def ziB(dom:N AM)(vs:N wN)(bk n:K)(us:N wN):Prop:=match bk with
 |0=>X us=n
 |b+1=>X us=n/\us.drop (n-(b+1))=JY dom vs
def yY(P:jP)(s:XW):Prop:=
 sG P s.f=wL/\∀(x:UU s.dom) (r:UK s.cod),s.M x=Z r->∀vs:N wN,X vs=X s.dom->
  SP P s.f vs.toArray (ki s.dom x vs) (jy P s.dom x vs) (znn s.bk (X s.cod)) (λus=>jR s.cod r us) (λus=>jK s.cod r us) (ziB s.dom vs s.bk (X s.cod))
def yY.plain{P:jP}{s:XW}(h:yY P s)(a:s.bk=0){x:UU s.dom}{r:UK s.cod}(b:s.M x=Z r){vs:N wN}(hl:X vs=X s.dom):
 SP P s.f vs.toArray (ki s.dom x vs) (jy P s.dom x vs) uK (λus=>jR s.cod r us) (λus=>jK s.cod r us) (λus=>X us=X s.cod):=by
 have h1:=h.2 x r b vs hl;rw[a]at h1;exact h1
def zhI(P:jP)(t:wT)(i:K):V (K×v6×K):=match P.underlying t with
 |some (.struct fs)=>match fs[i]? with
  |some f=>match tyB P f.type with
   |some (agg,n,_,Z _)=>Z (f.offset,agg,n)
   |_=>wF
  |none=>wF
 |_=>wF
def zf4(P:jP)(t:wT)(a:TI):Prop:=match a.k with
 |.int k=>P.underlying t=Z (.int k)
 |.bool=>P.underlying t=Z .bool
 |.str=>P.underlying t=Z .string
 |.sl E=>P.underlying t=Z (.slice E)/\∃e,a.ty=.l e
 |.st n=>a.ty.rep.agg=wL/\(∀i f,xk n a.ty i=Z f->zay P t i=Z f.off)/\
  (∃fs,P.underlying t=Z (.struct fs)/\∃pl:ut (K×K),(∀w,(fs.mapM (λf=>do pure (f.offset,<-V3 f.type)):Sem (ut<|K×K)).run P w=.ok pl w)/\
   ∀i f,xk n a.ty i=Z f->pl[i]? =Z (f.off,f.f.n))/\
  ∀i f,xk n a.ty i=Z f->zhI P t i=Z (f.off,f.f.rep.agg,f.f.n)
 |.ar k E=>a.ty.rep.agg=wL/\P.underlying t=Z (.array k E)
 |.pt E=>P.underlying t=Z (.pointer E)
def zeF(P:jP)(t:wT)(b:TI):Prop:=
 (∃a,Jo P t b.ty.rep.agg b.ty.rep.n b.B a/\a.cells.size=b.ty.rep.n/\(∀S w,b.ty.rep.p S b.ty.z a.cells.toList w)/\(∀s,b.ty=.l s->a=.slice wF 0 0)/\∀n i off s g st,xk n b.ty i=Z ⟨off,.l s,g,st⟩->a.cells.toList[off]? =Z (.slice wF 0 0))/\0<b.B/\0<b.ty.rep.n/\zf4 P t b
def yX(P:jP)(tt:N (K×TI)):Prop:=∀t a,UC tt t=Z a->zeF P t a
def kZ(P:jP)(tt:N (K×TI)):Prop:=∀t s E B,UC tt t=Z ⟨.l s,.sl E,B⟩->∃a,UC tt E=Z a/\a.ty=s
def Fl.ok(t:Ty)(f:Fl t.D):Prop:=∀z:t.D,Sub t.rep.c z f.off f.f.rep (f.get z)<|λy=>f.set y z
def zov(f:Z2)(c:N PD)(v:wN):FF where
 p S w:=∃cs:N wN,v=.func (.func f) #[] cs.toArray/\X cs=X c/\zB S (FV c cs) w
 keep:=by rintro S w w' ⟨cs,h1,a,b⟩ k;exact⟨cs,h1,a,zB.keep k b⟩
 sub:=by rintro S d w ⟨cs,h1,a,b⟩ k;exact⟨cs,h1,a,zB.sub k b⟩
def O6(v0:wN)(lo n:K)(v:wN):Prop:=(∃b m cap,v0=.slice (Z ⟨b,0,wF⟩) m cap/\lo+n<=m/\m<=cap/\cap<=9223372036854775807/\v=.slice (if cap=lo then Z ⟨b,0,wF⟩else Z ⟨b,0+lo*1,wF⟩) n (cap-lo))\/(v0=.slice wF 0 0/\lo=0/\n=0/\v=.slice wF 0 0)
def O6.old{v0 v:wN}{lo n:K}(h:O6 v0 lo n v):(∃b m cap c,v0=.slice (Z ⟨b,0,wF⟩) m cap/\lo+n<=m/\n<=c/\c<=9223372036854775807/\v=.slice (Z ⟨b,0+lo*1,wF⟩) n c)\/(n=0/\∃e c,c<=9223372036854775807/\v=.slice e 0 c):=by
 rcases h with⟨b,m,cap,h1,d,f,g,a⟩|⟨h1,d,f,g⟩
 by_cases hc:cap=lo;rw[S hc]at a;obtain rfl:n=0:=W
 simp_all;rw[ir hc]at a;exact .inl ⟨b,m,cap,cap-lo,h1,d,W,W,a⟩;simp_all
def O6.same{v0 d v:wN}{lo n m:K}(h:O6 v0 lo n v)(f:O6 d lo n v)(hl:∀a k c,v0=.slice a k c->a.isSome=wL->k=m)(p:∀a k c,d=.slice a k c->a.isSome=wL->k=m):v0=d:=by
 rcases h with⟨b,k,cap,h1,g,i,j,q⟩|⟨h1,g,i,j⟩<;>rcases f with⟨r,k',e,q1,q2,l,o,s⟩|⟨q1,q2,l,o⟩
 grind;simp_all;simp_all;grind
def zsc(F:FF)(p:Prop):FF where
 p S w:=F.p S w/\p
 keep h k:=⟨F.keep h.1 k,h.2⟩
 sub h k:=⟨F.sub h.1 k,h.2⟩
def vC(P:jP)(vs:K->wN):Dv->wN->FF
 |.d t x,v=>fV t.rep x v
 |.q t x,v=>fP t.rep x v
 |.kb b,v=>gW<|v=.bool b
 |.un,v=>gW<|v=Z0
 |.nil,v=>gW<|v=.slice wF 0 0
 |.ow o,v=>gW<|v=vs o
 |.ep o t j f,v=>gW (Fl.ok t f/\∃b n cap,vs o=.slice (Z ⟨b,0,wF⟩) n cap/\j<n/\v=.pointer (Z ⟨b,0+j*t.rep.n+f.off,wF⟩))
 |.sv o t lo n,v=>gW<|(∃b m cap c,vs o=.slice (Z ⟨b,0,wF⟩) m cap/\lo+n<=m/\n<=c/\c<=9223372036854775807/\v=.slice (Z ⟨b,0+lo*t.rep.n,wF⟩) n c)\/(n=0/\∃a c,c<=9223372036854775807/\v=.slice a 0 c)
 |.vs o t,v=>gW (v=vs o/\∃b,vs o=.pointer (Z ⟨b,0,wF⟩))
 |.vp o t f,v=>gW (Fl.ok t f/\∃b,vs o=.pointer (Z ⟨b,0,wF⟩)/\v=.pointer (Z ⟨b,0+f.off,wF⟩))
 |.fn f c,v=>zov f c v
 |.fp dom cod g,v=>fnF P dom cod g v
 |.pin u,v=>gW<|v=u
 |.mw o,v=>gW<|v=yO (vs o)
 |.mv o lo n,v=>gW<|O6 (yO<|vs o) lo n v
 |.hp o j,v=>gW (∃b n cap,yO (vs o)=.slice (Z ⟨b,0,wF⟩) n cap/\j<n/\v=.pointer (Z ⟨b,0+j*1,wF⟩))
 |.rw o r,v=>gW<|(xT<|vs o)[r]? =Z v
 |.rp o t r j f,v=>gW (Fl.ok t f/\∃b n cap,(xT<|vs o)[r]? =Z (.slice (Z ⟨b,0,wF⟩) n cap)/\j<n/\v=.pointer (Z ⟨b,0+j*t.rep.n+f.off,wF⟩))
 |.yd o,v=>gW<|v=.func (.yield<|lOf<|yO<|vs o) #[] #[]
 |.np,v=>gW<|v=.pointer wF
 |.vf o t n i,v=>gW (∃b f,yO (vs o)=.pointer (Z ⟨b,0,wF⟩)/\xk n t i=Z f/\v=.pointer (Z ⟨b,0+f.off,wF⟩))
 |.dz t x n i,v=>zsc (fV t.rep x v) (∃f,xk n t i=Z f/\v.cells.toList[f.off]? =Z (.slice wF 0 0))
 |.ifc q,v=>gW<|v=.iface q.1 (.agg #[.int .i64 q.2])
 |.bm f o t,v=>gW (v=.func (.func f) #[vs o] #[]/\∃b,vs o=.pointer (Z ⟨b,0,wF⟩))
def vS(P:jP)(vs:K->wN)(d:Dv)(v:wN)(i:K):FF where
 p S w:=match i with
  |0=>(vC P vs d v).p S w
  |i+1=>∃us u,v=.tuple us/\us[i]? =Z u/\(vC P vs d u).p S w
 keep:=by
  intro S w w' h k
  cases i with
  |zero=>exact(vC P vs d v).keep h k
  |succ i=>have⟨us,u,h1,a,b⟩:=h;exact⟨us,u,h1,a,(vC P vs d u).keep b k⟩
 sub:=by
  intro S c w h k
  cases i with
  |zero=>exact(vC P vs d v).sub h k
  |succ i=>have⟨us,u,h1,a,b⟩:=h;exact⟨us,u,h1,a,(vC P vs d u).sub b k⟩
def vrP{α:Type}(s:Ty)(f:V (Fl α)):Prop:=∃(off:K) (g:α->(Ty.l s).D) (st:(Ty.l s).D->α->α),f=Z ⟨off,.l s,g,st⟩
def Ki(vs:K->wN)(e:K×Od):MF:=match e.2 with
 |.own t E xs=>mO t.rep E (vs e.1) xs
 |.var t E z=>mP t.rep.c E (vs e.1) z
 |.mat t E E1 a ix=>AE t.rep E E1 (vs e.1) a ix
 |.bo t E b xs=>mBo t.rep E b (vs e.1) xs
 |.ho b=>mHo b<|vs e.1
 |.vr t E s E1 n i z xs=>mVr (vrP s<|xk n t i) t.rep E (XO<|xk n t i) (Zl s (xk n t i) []) s.rep E1 (vs e.1) z xs
 |.vh t E s E1 n i z=>mVh (vrP s<|xk n t i) t.rep E (XO<|xk n t i) (Zl s (xk n t i) []) (vs e.1) z
 |.hid t E X Y f d g x=>EJ [mPr<|Py Tryz.prog (lOf<|yO<|vs e.1) t.rep E f d g,f x<|(xT<|vs e.1).headD Z0]
 |.hiy Y d y=>d y<|(xT<|vs e.1).headD Z0
def MS(vs:K->wN)(ob:N (K×Od)):N MF:=ob.map<|Ki vs
def RS(P:jP)(vs:K->wN)(env:y6)(rg:N (K×K×Dv)):N FF:=rg.map λe=>vS P vs e.2.2 (env e.1) e.2.1
structure Fr where
 we:wP
 Se:K->Prop
 F:N MF
 G:N FF
structure Bd(cx σ:Sg):Prop where
 o1:∀e∈σ.ob,e.1<σ.nx
 o2:∀e∈cx.ob,e.1<σ.nx
 r1:∀e∈σ.rg,∀o,vt e.2.2=Z o->o<σ.nx
 r2:∀e∈cx.rg,∀o,vt e.2.2=Z o->o<σ.nx
def uD(P:jP)(fr:Fr)(cx σ:Sg)(env:y6)(w:wP):Prop:=
 Bd cx σ/\∃vs:K->wN,St fr.we fr.Se (MS vs σ.ob++(MS vs cx.ob++fr.F)) (RS P vs env σ.rg++(RS P vs env cx.rg++fr.G)) w
section
variable{P:jP}{vs vs':wr->wN}{env env':y6}
def iw{d:Dv}(h:∀o,vt d=Z o->vs' o=vs o)(v:wN):vC P vs' d v=vC P vs d v:=by cases d<;>simp only[vC]<;>simp only[vt,xau,forall_eq']at h<;>rw[h]
def wC:∀{ob:N (K×Od)},(∀e∈ob,vs' e.1=vs e.1)->MS vs' ob=MS vs ob
 |[],_=>rfl
 |(o,x)::r,h=>by
  have h1:=h (o,x)<|IR;have a:=wC λe b=>h e<|FS _ b;show Ki vs' (o,x)::MS vs' r=Ki vs (o,x)::MS vs r;rw[a];cases x<;>simp only[Ki]<;>rw[h1]
def uo:∀{rg:N (K×K×Dv)},(∀e∈rg,∀o,vt e.2.2=Z o->vs' o=vs o)->(∀e∈rg,env' e.1=env e.1)->RS P vs' env' rg=RS P vs env rg
 |[],_,_=>rfl
 |(t,i,d)::r,h,b=>by
  show vS P vs' d (env' t) i::RS P vs' env' r=vS P vs d (env t) i::RS P vs env r;rw[uo (λe a=>h e<|FS _ a)<|λe a=>b e<|FS _ a,b (t,i,d)<|IR];unfold vS;simp only[iw<|h (t,i,d)<|IR]
theorem kG{S:K->Prop}{w:wP}:∀{Γ:N FF},zB S Γ w↔∀f∈Γ,f.p S w
 |[]=>⟨λ_ f h=>wS h H1,λ_=>wR⟩
 |f::r=>by
  have a:=kG (S:=S) (w:=w) (Γ:=r);constructor;intro h x hx;obtain rfl|hx:=xah.1 hx
  exact h.1;exact a.1 h.2 x hx;intro h;exact⟨h f<|IR,a.2 λx hx=>h x<|FS _ hx⟩
theorem zY{a b:K}(h:E a b=wL):a=b:=xde h
theorem gY:∀{rg:N (K×K×Dv)}{t i:K}{d:Dv},iZ rg t i=Z d->(t,i,d)∈rg
 |(a,b,e)::r,t,i,d,h=>by
  unfold iZ at h;cases c:E a t && E b i
  rw[c]at h;exact FS _<|gY h;simp_all
def J8{S:K->Prop}{w:wP}{rg:N (K×K×Dv)}(h:zB S (RS P vs env rg) w){t i:K}{d:Dv}(hd:(t,i,d)∈rg):(vS P vs d (env t) i).p S w:=
 kG.1 h _ (xas.2 ⟨(t,i,d),hd,O⟩)
theorem vb:∀{ob:N (K×Od)}{o:K}{x:Od},xA ob o=Z x->∃i,ob[i]? =Z (o,x)/\(∀y,km ob o y=ob.set i (o,y))/\yF ob o=ob.eraseIdx i
 |(b,e)::r,o,x,h=>by
  unfold xA at h;cases a:E b o
  rw[a]at h;have⟨i,h1,c,d⟩:=vb h;exact⟨i+1,by simpa using h1,λy=>by unfold km;rw[a];simp only[XS,xfj,c y],by unfold yF;rw[a];simp only[XS,List.eraseIdx_cons_succ,d]⟩;rw[a]at h;simp only[Wf,xau]at h;have:=zY a;subst h;subst this;exact⟨0,O,λy=>by unfold km;rw[a];rfl,by unfold yF;rw[a];rfl⟩
theorem JB{ob:N (K×Od)}{i:K}{e:K×Od}{R:N MF}(h:ob[i]? =Z e):(MS vs ob++R)[i]? =Z (Ki vs e):=by grind [MS]
theorem CW{ob:N (K×Od)}{i:K}{e a:K×Od}{R:N MF}(h:ob[i]? =Z e):(MS vs ob++R).set i (Ki vs a)=MS vs (ob.set i a)++R:=by grind [MS,List.map_set]
theorem zg0{α:Type _}{β:Type _}(f:α->β):∀(l:N α) (i:K),(l.eraseIdx i).map f=(l.map f).eraseIdx i
 |[],i=>by simp
 |_::_,0=>rfl
 |a::l,i+1=>by simp only[List.eraseIdx_cons_succ,xbQ,zg0 f l i]
theorem gm{ob:N (K×Od)}{i:K}{e:K×Od}{R:N MF}(h:ob[i]? =Z e):(MS vs ob++R).eraseIdx i=MS vs (ob.eraseIdx i)++R:=by grind [MS,zg0]
theorem zff{cx σ:Sg}{o:K}{x:Od}(h:Vo cx σ o=Z x):(o,x)∈σ.ob\/(o,x)∈cx.ob:=by grind [Vo,vb]
theorem B3{cx σ:Sg}{t i:K}{d:Dv}(h:get cx σ t i=Z d):(t,i,d)∈σ.rg\/(t,i,d)∈cx.rg:=by grind [get,gY]
def ZZ{S:K->Prop}{w:wP}{cx σ:Sg}{o:K}{x:Od}{F:N MF}(a:yS S (MS vs σ.ob++(MS vs cx.ob++F)) w)(h:Vo cx σ o=Z x):(Ki vs (o,x)).p S w:=by
 refine Yf.1 a _ ?_;obtain h|h:=zff h
 exact xaa.2 (.inl<|xas.2 ⟨_,h,O⟩);exact xaa.2 (.inr<|xaa.2 (.inl<|xas.2 ⟨_,h,O⟩))
end
def yr{R:Type}{s t:Ty}{x:s.D}{k:t.D->V R}{r:R}(h:Ty.cast s t x k=Z r):∃e:s=t,k (e▸x)=Z r:=by grind [Ty.cast]
def yf{R:Type}{b:v6}{x:V R}{r:R}(h:jt b x=Z r):b=wL/\x=Z r:=by grind
end
section
open Go.ChangeShapes Go.WideShapes Go.ChangeAt Go.RowKit
def Xu(P:jP):Ty->wT->Prop
 |.i,T=>P.underlying T=Z (.int .i64)
 |.u,T=>P.underlying T=Z (.int .u64)
 |.b,T=>P.underlying T=Z .bool
 |.l t,T=>∃E,P.underlying T=Z (.slice E)/\P.cellsOf E=t.n/\0<t.n/\Xu P t E
 |.p s t,T=>∃f0 f1:Field,P.underlying T=Z (.struct #[f0,f1])/\P.cellsOf T=s.n+t.n/\f0.offset=0/\f1.offset=s.n/\P.cellsOf f0.type=s.n/\P.cellsOf f1.type=t.n/\Xu P s f0.type/\Xu P t f1.type
 |.ch,T=>P.underlying T=Z (.int .u8)
 |.tx,T=>P.underlying T=Z .string
 |.a _ _,_=>KW
 |.po _,_=>KW
 |.w1 _,_=>KW
def zq1(P:jP)(T:wT):V ((K×wT)×(K×wT)):=match P.underlying T with
 |some (.struct fs)=>match fs.toList with
  |[f0,f1]=>Z ((f0.offset,f0.type),(f1.offset,f1.type))
  |_=>wF
 |_=>wF
def Xu.st{P:jP}{s t:Ty}{T A B:wT}(h:zq1 P T=Z ((0,A),(s.n,B)))(hc:P.cellsOf T=s.n+t.n)(b:P.cellsOf A=s.n)(c:P.cellsOf B=t.n)(h1:Xu P s A)(d:Xu P t B):Xu P (.p s t) T:=by
 unfold zq1 at h;split at h;rename_i fs e;split at h;rename_i f0 f1 g;simp only[xau,xcL]at h;have⟨⟨f,a⟩,a3,a4⟩:=h;have:fs= #[f0,f1]:=by cases fs;simp_all
 subst this;exact⟨f0,f1,e,hc,f,a3,by rw[a];exact b,by rw[a4];exact c,by rw[a];exact h1,by rw[a4];exact d⟩;cases h
 cases h
def Xu.sl{P:jP}{t:Ty}{T E:wT}(h:P.underlying T=Z (.slice E))(hc:P.cellsOf E=t.n)(hp:0<t.n)(h1:Xu P t E):Xu P (.l t) T:=⟨E,h,hc,hp,h1⟩
def HT{w:wP}{b n:K}{a:UL}{c:N wN}(h:w.cells? b a n=Z c):X c=n/\∀i v,c[i]? =Z v->w.cell? (a.add i)=Z v:=by
 unfold World.cells? at h;split at h;have:∀(l:N K) (c:N wN),l.mapM (λi=>w.cell?<|a.add i)=Z c->X c=X l/\∀(i j:K) (v:wN),c[i]? =Z v->l[i]? =Z j->w.cell? (a.add j)=Z v:=by
  intro l
  induction l with
  |nil=>intro c hc;simp at hc;subst hc;exact⟨O,λi j v hv=>by simp at hv⟩
  |cons x l g=>
   intro c hc;rw[List.mapM_cons]at hc
   cases d:w.cell? (a.add x)with
   |none=>rw[d]at hc;simp at hc
   |some y=>
    rw[d]at hc
    cases hl:l.mapM (λi=>w.cell?<|a.add i)with
    |none=>rw[hl]at hc;simp at hc
    |some r=>
     rw[hl]at hc;have hc:y::r=c:=by simpa using hc
     subst hc;have⟨h1,e⟩:=g r hl;refine⟨by simp[h1],λi j v hv f=> ?_⟩
     cases i with
     |zero=>simp at hv f;subst hv;subst f;exact d
     |succ i=>exact e i j v (by simpa using hv)<|by simpa using f
 have⟨h1,e⟩:=this _ _ h;refine⟨by simpa using h1,λi v hv=>e i i v hv ?_⟩;grind;cases h
def zdq{w:wP}{a:UL}{v:wN}(h:w.cell? a=Z v):a=⟨a.block,a.off,wF⟩/\a.block<w.heap.size:=by
 unfold World.cell? at h;split at h;rename_i c _ _ d;split at h;cases h
 rename_i e;refine⟨?_,(xbf.1 d).1⟩;have⟨b,o,s⟩:=a
 cases s with
 |none=>rfl
 |some x=>simp at e
 cases h
def zl2(a:UL):a.add 0=a:=by grind [Addr.add]
section
variable{H:Type}{enc:wT×wN->H}{P:jP}{W:wP}{sp:wr->v6}{held:v6}
theorem Rn{t:Ty}{b o:K}(a:b<W.heap.size):∀(len:K),(∀i,i<len->∃(c:N wN) (z:t.D),W.cells? 0 (⟨b,o+i*t.n,wF⟩:UL) t.n=Z c/\t.rep.p (λ_=>Xs) z c W)->
 ∃(xs:N t.D) (cs:N wN),X xs=len/\At W b o cs/\yT t.rep (λ_=>Xs) xs cs W
 |0,_=>⟨[],[],O,⟨a,λj v hv=>by simp at hv⟩,O⟩
 |len+1,h=>by
  have⟨xs,cs,h1,e,d⟩:=Rn a len λi hi=>h i lM;have⟨c,z,f,g⟩:=h len lM;have⟨l,k⟩:=HT f;have hl:=d.len;rw[Ty.n_rep]at hl;refine⟨xs++[z],cs++c,by simp[h1],⟨a,λj v hv=> ?_⟩,d.append ⟨c,[],mK,g,O⟩⟩;rcases xbS j (X cs) with hj|hj
  rw[xbb hj]at hv;exact e.2 j v hv;rw[xbr hj]at hv;have:=k _ v hv;rw[jb]at this;grind
def rA:∀(t:Ty) {T:wT}{n:K}{cs:N wN}{x:lC H×N UP},Xu P t T->DataW.trod enc P W 0 sp held n T cs=Z x->∃z:t.D,t.rep.p (λ_=>Xs) z cs W
 |.i,T,n,cs,x,ht,h=>by
  obtain⟨v,rfl,_,f⟩:=DataW.trod_int ht h;have: -9223372036854775808<=v/\v<=9223372036854775807:=by simpa[Lit.wf,IntKind.min,IntKind.max,IntKind.signed,IntKind.bits]using f
  exact⟨v,O,this.1,this.2⟩
 |.u,T,n,cs,x,ht,h=>by
  obtain⟨v,rfl,_,f⟩:=DataW.trod_int ht h;have:0<=v/\v<=18446744073709551615:=by simpa[Lit.wf,IntKind.min,IntKind.max,IntKind.signed,IntKind.bits]using f
  obtain⟨k,rfl⟩:=xaC this.1;exact⟨k,O,lM⟩
 |.ch,T,n,cs,x,ht,h=>by
  obtain⟨v,rfl,_,f⟩:=DataW.trod_int ht h;have:0<=v/\v<=255:=by simpa[Lit.wf,IntKind.min,IntKind.max,IntKind.signed,IntKind.bits]using f
  obtain⟨k,rfl⟩:=xaC this.1;exact⟨k,O,lM⟩
 |.tx,T,n,cs,x,ht,h=>by
  obtain⟨s,rfl,_,B⟩:=DataW.trod_string ht h;exact⟨xO s,s,O,O,B⟩
 |.b,T,n,cs,x,ht,h=>by
  obtain⟨v,rfl,_⟩:=DataW.trod_bool ht h;exact⟨v,O⟩
 |.l t,T,n,cs,x,ht,h=>by
  have⟨E,g,hc,R,C⟩:=ht;rcases DataW.trod_slice g h with⟨rfl,_⟩|⟨a,len,cap,j,rest,m,_,rfl,_,_,S,hd,U,q,_,_⟩
  exact⟨[],_,O,SlP.nil⟩;rw[hc]at q;have d:∀i,i<len->∃(c:N wN) (z:t.D),W.cells? 0 (a.add<|i*t.n) t.n=Z c/\t.rep.p (λ_=>Xs) z c W:=by intro i hi;have h1:=q i hi;rw[xab lM]at h1;have⟨c,r,w⟩:=Option.bind_eq_some_iff.1 h1;have⟨z,F⟩:=rA t C w;exact⟨c,z,r,F⟩
  obtain h0|h0:=xcs len
  subst h0;exact⟨[],_,O,Z a,cap,O,xae _,hd,.inl O⟩
  have⟨c,z,h1,r⟩:=d 0 h0;have⟨w,G⟩:=HT h1;have y:=G 0 (c[0]'lM) (xab lM);rw[xcC,zl2,zl2]at y;have⟨A,J⟩:=zdq y;rw[A]at d;have⟨xs,cs,g1,L,M⟩:=Rn (t:=t) (b:=a.block) (o:=a.off) J len λi hi=>by
   have:=d i hi;rw[jb]at this;exact this
  refine⟨xs,_,O,Z a,cap,by rw[g1],lM,hd,.inr ⟨a.block,a.off,cs,by rw[<-A],wR,L,M⟩⟩
 |.p s t,T,n,cs,x,ht,h=>by
  have⟨f0,f1,g,hc,o0,o1,c0,c1,h0,h1⟩:=ht;have⟨Y,y1,m,_,hl,g0,g1⟩:=trod_struct2 g h;rw[o0,c0,List.drop_zero]at g0;rw[o1,c1]at g1;have⟨z0,k0⟩:=rA s h0 g0;have⟨Q,k1⟩:=rA t h1 g1;refine⟨(z0,Q),cs.take s.n,(cs.drop s.n).take t.n,?_,k0,k1⟩;rw[hc]at hl;have e:(cs.drop s.n).take t.n=cs.drop s.n:=xaW (by simp;lia);rw[e,xby]
 |.a _ _,_,_,_,_,ht,_=>ht.elim
 |.po _,_,_,_,_,ht,_=>ht.elim
 |.w1 _,_,_,_,_,ht,_=>ht.elim
def zeU{t:Ty}{T:wT}{v:wN}{d:lC H}{ps:N UP}(ht:Xu P t T)(hv:v=t.rep.val v.cells.toList)(h:DataW.Trod enc P W 0 sp held T v d ps):∃z:t.D,(fV t.rep z v).p (λ_=>Xs) W:=by have⟨n,h⟩:=h;have⟨z,a⟩:=rA t ht h;exact⟨z,_,hv,a⟩
end
def zhO{P:jP}{s:XW}(h:yY P s)(c:s.bk=0)(hc:s.cod=[.d .b])(x:UU s.dom)(g:s.M x=Z (hc▸wL:UK s.cod)){vs:N wN}(hl:X vs=X s.dom)(i:ki s.dom x vs=[]){W:wP}(a:zB (λ_=>Xs) (jy P s.dom x vs) W):
 UT P s.f vs.toArray W λe j=>e=.returned (.bool wL)/\bh W j:=by
 have⟨f,dom,cod,M,bk⟩:=s;simp only at hc c;subst hc;subst c;have h1:=h.2 x wL g vs hl W (λ_=>Xs) [] [] W;simp only[i,xbN,xbm]at h1;refine(h1 ⟨yJ.refl _ _,λ_ _=>wR,wR,λ_=>Xs,λ_ _=>wR,λ_ _=>wR,λm k=>wS k H1,wR,a⟩).mono ?_;rintro e w' ⟨us,l,hd,n⟩;have⟨o,_,_,S,_,_,_,_,q⟩:=n;refine⟨?_,o⟩
 match us,hd with
 |[u],_=>
  have:u=.bool wL:=oE (show(fV Eu wL u).p S w' from q.1);rw[l,this];rfl
end
section
open Go.ChangeShapes Go.WideShapes Go.ChangeAt Go.RowKit
section
variable{H:Type}{enc:wT×wN->H}{P:jP}{W:wP}{sp:wr->v6}{held:v6}
def zoe{r:Reach}{b0:K}:∀(t:Ty) {T:wT}{v:wN},Xu P t T->xeA P W r b0 T v->v=t.rep.val v.cells.toList
 |.i,T,v,ht,h=>by obtain⟨n,rfl⟩:=okWide_int ht h;rfl
 |.u,T,v,ht,h=>by obtain⟨n,rfl⟩:=okWide_int ht h;rfl
 |.ch,T,v,ht,h=>by obtain⟨n,rfl⟩:=okWide_int ht h;rfl
 |.tx,T,v,ht,h=>by
  have ht:P.underlying T=Z .string:=ht;simp only[xeA,ht,Cell.okWide]at h;unfold Cell.ok at h;rw[ht]at h;cases v<;>simp at h;rfl
 |.b,T,v,ht,h=>by
  have ht:P.underlying T=Z .bool:=ht;simp only[xeA,ht,Cell.okWide]at h;unfold Cell.ok at h;rw[ht]at h;cases v<;>simp at h;rfl
 |.l t,T,v,ht,h=>by
  have⟨E,ht,_⟩:=ht;simp only[xeA,ht,Cell.okWide]at h;unfold Cell.ok at h;rw[ht]at h;cases v<;>simp at h;rfl
 |.p s t,T,v,ht,h=>by
  have⟨f0,f1,ht,_⟩:=ht;simp only[xeA,ht]at h;obtain⟨cs,rfl,_⟩:=h;show Value.agg cs=Value.agg cs.toList.toArray;simp
 |.a _ _,T,v,ht,_=>ht.elim
 |.po _,T,v,ht,_=>ht.elim
 |.w1 _,T,v,ht,_=>ht.elim
def zfV{r:Reach}{b0:K}{t:Ty}{T:wT}{v:wN}{d:lC H}{ps:N UP}(ht:Xu P t T)(hv:xeA P W r b0 T v)(h:DataW.Trod enc P W 0 sp held T v d ps):∃z:t.D,(fV t.rep z v).p (λ_=>Xs) W:=
 zeU ht (zoe t ht hv) h
def Ty.ok:(t:Ty)->t.D->Prop
 |.i,(x:J)=> -9223372036854775808<=x/\x<=9223372036854775807
 |.u,(x:K)=>x<18446744073709551616
 |.b,_=>Xs
 |.ch,(x:K)=>x<256
 |.tx,xs=>xaI xs<=9223372036854775807/\∀x,List.Mem x xs->x<256
 |.l t,xs=>xaI xs<=9223372036854775807/\∀x,List.Mem x xs->t.ok x
 |.p s t,x=>s.ok x.1/\t.ok x.2
 |.a _ t,xs=>∀x,List.Mem x xs->t.ok x
 |.po _,_=>Xs
 |.w1 t,x=>t.ok x
def Db{α:Type}{e:zT α}{S:K->Prop}{w:wP}{q:α->Prop}(b:∀x cs,e.p S x cs w->q x):∀{xs:N α}{cs:N wN},yT e S xs cs w->∀x,List.Mem x xs->q x
 |[],_,_,x,a=>nomatch a
 |y::ys,_,⟨c,r,_,hc,d⟩,x,a=>by
  cases a with
  |head=>exact b _ _ hc
  |tail _ a=>exact Db b d x a
def tM:∀(t:Ty) {S:K->Prop}{z:t.D}{cs:N wN}{w:wP},t.rep.p S z cs w->t.ok z
 |.i,_,_,_,_,h=>h.2
 |.u,_,_,_,_,h=>h.2
 |.b,_,_,_,_,_=>trivial
 |.ch,_,_,_,_,h=>h.2
 |.tx,_,xs,_,_,h=>by
  have⟨s,_,h1,g⟩:=h;have f:=ua s;have h1:xO s=xs:=h1;refine⟨by show xaI (α:=K) xs<=_;rw[<-h1,f];exact g,λx e=> ?_⟩;have e:x∈xO s:=by rw[h1];exact e
  obtain⟨b,_,rfl⟩:=xas.1 e;exact UInt8.toNat_lt _
 |.l t,S,xs,_,w,h=>by
  have⟨v,_,m,cap,_,h1,g,f⟩:=h;refine⟨xal h1 g,?_⟩;obtain f|⟨b,o,cs,_,_,_,j⟩:=f
  have f:xs=([]:N t.D):=f;subst f;exact λx e=>nomatch e;exact Db (λx cs e=>tM t e) j
 |.p s t,S,z,_,w,h=>by
  have⟨c,d,_,h1,g⟩:=h;exact⟨tM s h1,tM t g⟩
 |.a k t,S,xs,_,w,h=>by
  have⟨_,h⟩:=h;exact Db (λx cs e=>tM t e) h
 |.po _,_,_,_,_,_=>trivial
 |.w1 t,S,z,cs,w,h=>tM t (S:=S) (cs:=cs) (w:=w) h
def zfp:(dom:N AM)->UU dom->Prop
 |[],_=>Xs
 |.d t::r,x=>t.ok x.1/\zfp r x.2
 |_::r,x=>zfp r x.2
def N4(P:jP):N AM->N wT->Prop
 |[],[]=>Xs
 |.d t::r,T::Ts=>Xu P t T/\N4 P r Ts
 |_,_=>KW
def zct:∀{dom:N AM}{Ts:N wT},N4 P dom Ts->X dom=X Ts
 |[],[],_=>rfl
 |.d t::r,T::Ts,h=>by simp[zct h.2]
 |.d _::_,[],h=>h.elim
 |[],_::_,h=>h.elim
 |.q _::_,_,h=>h.elim
 |.own _ _::_,_,h=>h.elim
 |.var _ _::_,_,h=>h.elim
 |.fn _ _::_,_,h=>h.elim
def zeI:∀{dom:N AM}{Ts:N wT},N4 P dom Ts->∀(x:UU dom) (vs:N wN),ki dom x vs=[]
 |[],_,_,_,_=>rfl
 |.d t::r,T::Ts,h,x,vs=>by show[]++ki r x.2 vs.tail=[];rw[zeI h.2];rfl
 |.d _::_,[],h,_,_=>h.elim
 |.q _::_,_,h,_,_=>h.elim
 |.own _ _::_,_,h,_,_=>h.elim
 |.var _ _::_,_,h,_,_=>h.elim
 |.fn _ _::_,_,h,_,_=>h.elim
def HV{r:Reach}{b0:K}:∀{dom:N AM}{Ts:N wT}{vs:N wN}{ds:N (lC H)}{ps:N UP},N4 P dom Ts->(∀(j:K) t v,Ts[j]? =Z t->vs[j]? =Z v->xeA P W r b0 t v)->xeT enc P W 0 sp held Ts vs ds ps->
 X vs=X Ts/\∃x:UU dom,zfp dom x/\zB (λ_=>Xs) (jy P dom x vs) W
 |[],[],[],[],_,_,_,_=>⟨O,(),wR,wR⟩
 |.d t::dom,T::Ts,v::vs,d::ds,ps,h,hv,a=>by
  have⟨p,q,h1,b,_⟩:=a;have⟨hl,x,hd,c⟩:=HV h.2 (λj e f ht g=>hv (j+1) e f (by simpa using ht)<|by simpa using g) b;have⟨z,i⟩:=zfV h.1 (hv 0 T v O O) h1;have⟨cs,k,hc⟩:=i;exact⟨by simp[hl],(z,x),⟨tM t hc,hd⟩,⟨cs,k,hc⟩,c⟩
 |[],[],_::_,_,_,_,_,h=>h.elim
 |[],[],[],_::_,_,_,_,h=>h.elim
 |.d _::_,_::_,[],_,_,_,_,h=>h.elim
 |.d _::_,_::_,_::_,[],_,_,_,h=>h.elim
 |.d _::_,[],_,_,_,h,_,_=>h.elim
 |[],_::_,_,_,_,h,_,_=>h.elim
 |.q _::_,_,_,_,_,h,_,_=>h.elim
 |.own _ _::_,_,_,_,_,h,_,_=>h.elim
 |.var _ _::_,_,_,_,_,h,_,_=>h.elim
 |.fn _ _::_,_,_,_,_,h,_,_=>h.elim
def zey{a:wP}(c:bh W a){p:UP}(hp:p.block<W.heap.size):W.sameAt a p:=by
 cases p with
 |cell b off=>exact World.cell?_of_block<|c.block b hp wR
 |map b=>exact c.block b hp wR
def lJ{c:wP}{b:K->v6}(hl:laidOutB P=wL):∀{Ts:N wT}{vs:N wN}{ds:N (lC H)}{ps:N UP},(∀t∈Ts,P.readableRec t=wL/\t<P.types.size)->xeT enc P W 0 (λ_=>wL) wL Ts vs ds ps->
 (∀p∈ps,W.sameAt c p)->(∀p∈ps,b p.block=wL)->xeT enc P c 0 b wL Ts vs ds ps
 |[],[],[],_,_,h,_,_=>h
 |T::Ts,v::vs,d::ds,ps,e,h,h1,f=>by
  obtain⟨p,q,g1,i,rfl⟩:=h;have g:=e T<|IR
  exact⟨p,q,Go.WideElems.Trod_stays hl g.1 g.2 g1 (λx a=>h1 x<|xaa.2 (.inl a))<|λx a=>f x<|xaa.2 (.inl a),
   lJ hl (λt ht=>e t<|FS _ ht) i (λx a=>h1 x<|xaa.2 (.inr a)) (λx a=>f x<|xaa.2 (.inr a)),O⟩
 |[],[],_::_,_,_,h,_,_=>h.elim
 |[],_::_,_,_,_,h,_,_=>h.elim
 |_::_,[],_,_,_,h,_,_=>h.elim
 |_::_,_::_,[],_,_,h,_,_=>h.elim
end
def zkV{H:Type}{enc:wT×wN->H}{P:jP}{f:WF}{s:ChangeSpec}{c h y:v6}{W:wP}{i:K}{args:ut wN}{ds k:N (lC H)}{a:N UP}{sg:XW}
 (l:DataW.Whole enc P f.params.toList s.vars c W args.toList ds k a) (o:s.vars=[]) (z:∀(j:K) t v,f.params[j]? =Z t->args[j]? =Z v->xeA P W .any i t v)
 (hl:laidOutB P=wL) (A:∀t∈f.params.toList,P.readableRec t=wL/\t<P.types.size) (m:N4 P sg.dom f.params.toList) (hc:sg.cod=[.d .b]) (C:yY P sg) (D:∀x,zfp sg.dom x->sg.M x=Z (hc▸wL:UK sg.cod)) {B:wT} (E:f.resultTypes= #[B]) (hn:P.underlying B=Z .bool)
 (hi:s.fn H (ds++k)={results:=[.lit (.bool wL)],args:=ds}) (F:sg.bk=0:=by rfl):
 UT P sg.f args W λe r=>∃v,e=.returned v/\s.post enc P f c h y I W args v r:=by
 have⟨p,q,u,n,G,U,V⟩:=id l;rw[o]at n
 cases k with
 |cons g k=>exact n.elim
 |nil=>
  have J:q=[]:=n;subst J;have⟨L,x,Q,R⟩:=HV (vs:=args.toList) m (λj t v ht hv=>z j t v (by simpa using ht)<|by simpa using hv) u;refine(zhO C F hc x (D x Q) (vs:=args.toList) (by rw[L,zct m]) (zeI m x _) R).mono ?_;rintro e r ⟨rfl,w⟩;refine⟨_,O,zgQ (pa:=a) (pv:=[]) l (λb sp hd=> ?_) (λsp S=> ?_) (λsp _=> ?_) mK w⟩;rw[E,hi];exact⟨[],[],shut_bool hn _,O,O⟩;rw[hi];have T:xeT enc P W 0 (λ_=>wL) wL f.params.toList args.toList ds a:=by rw[G,xbm];exact u
  exact lJ hl A T (λp hp=>zey w<|l.lt p hp) S;rw[o,hi];rfl
end
section
def zpz:wW->V Z4
 |.tmp t=>Z t
 |_=>wF
def yP(a:Op):N Z4:=a.operands.toList.filterMap zpz
def Lk(P:jP)(vs:K->wN)(env:y6)(S:K->Prop)(w:wP)(cx σ:Sg)(t:Z4):Prop:=
 ∀i d,get cx σ t i=Z d->(vS P vs d (env t) i).p S w
def Y0(P:jP)(vs:K->wN)(env:y6)(S:K->Prop)(w:wP)(cx σ:Sg)(x:wW):Prop:=∀t,zpz x=Z t->Lk P vs env S w cx σ t
def ES(P:jP)(o:uT)(cx σ:Sg)(F:N MF)(l:N (K×Dv)):Prop:=
 ∀(env:y6) (w:wP) (S:K->Prop) (vs:K->wN),(∀k,w.heap.size<=k->S k)->yS S (MS vs σ.ob++(MS vs cx.ob++F)) w->(∀t∈yP o.op,Lk P vs env S w cx σ t)->
  ui P o env w (λv w'=>bh w w'/\∀e∈l,(vS P vs e.2 v e.1).p S w')
section
variable{P:jP}{cf:Cf}{cx σ:Sg}{F:xS MF}{vs:wr->wN}{env:y6}{S:wr->Prop}{w:wP}{R:Type}{r:R}
 {d:ww Z4}{ty t yt:wT}{pos:String}{aft:ut Edge}{g:ww (wr×v6)}{x y:wW}
def yK{a:Op}(h:∀t∈yP a,Lk P vs env S w cx σ t)(b:x∈a.operands.toList):Y0 P vs env S w cx σ x:=
 λt ht=>h t<|xeg.2 ⟨x,b,ht⟩
def zj{v:Dv}(h:xz cx σ x=Z v)(hl:Y0 P vs env S w cx σ x):(vC P vs v<|ev env x).p S w:=by
 cases x with
 |tmp t=>exact hl t O 0 v h
 |const c=>
  simp only[xz]at h;unfold cv at h;split at h;split at h
  next a=>cases h;exact wQ a
  cases h
  split at h;rename_i x a;cases h;have:(x.toNat:J)=x:=xdc a.1;have b:x.toNat<18446744073709551616:=W
  have:=kf (S:=S) (w:=w) b;rwa[‹(x.toNat:J)=x›]at this;cases h
  cases h;exact O
  split at h;rename_i x a;cases h;have:(x.toNat:J)=x:=xdc a.1;have b:x.toNat<256:=W
  have:=Hs (S:=S) (w:=w) b;rwa[‹(x.toNat:J)=x›]at this;cases h
  split at h
  next a=>cases h;exact zbT O a
  cases h
  cases h;exact O
  cases h;exact O
  cases h;exact O
  cases h
 |global g=>cases h
 |func f=>cases h;exact⟨[],O,O,wR⟩
def HL{v:Dv}{u:wN}{p:PD}(h:zjM v=Z p)(hv:(vC P vs v u).p S w):(fV p.t.rep p.x u).p S w:=by
 cases v<;>simp only[zjM,xau,WD]at h
 subst h;exact hv;subst h;rw[show u=_ from hv];exact BT
def rF{p:PD}(h:pd cx σ x=Z p)(hl:Y0 P vs env S w cx σ x):(fV p.t.rep p.x<|ev env x).p S w:=by
 unfold pd at h
 cases hv:xz cx σ x with
 |none=>rw[hv]at h;cases h
 |some v=>rw[hv]at h;exact HL h<|zj hv hl
def w6{a:J}(h:pd cx σ x=Z ⟨.i,a⟩)(hl:Y0 P vs env S w cx σ x):ev env x=.int .i64 a/\XB a:=zmR<|rF h hl
def wB{a:K}(h:pd cx σ x=Z ⟨.u,a⟩)(hl:Y0 P vs env S w cx σ x):ev env x=.int .u64 (a:J)/\dV a:=zez<|rF h hl
def Vu{a:K}(h:pd cx σ x=Z ⟨.ch,a⟩)(hl:Y0 P vs env S w cx σ x):ev env x=.int .u8 (a:J)/\a<256:=zqK<|rF h hl
def zdX{a:N K}(h:pd cx σ x=Z ⟨.tx,a⟩)(hl:Y0 P vs env S w cx σ x):∃s:Wt,ev env x=.string s/\xO s=a/\s.size<=9223372036854775807:=zcB<|rF h hl
def zkW{a:v6}(h:pd cx σ x=Z ⟨.b,a⟩)(hl:Y0 P vs env S w cx σ x):ev env x=.bool a:=oE<|rF h hl
def zfx{v:V Dv}{t:Ty}{k:t.D->V R}(h:BN v t k=Z r):∃y:t.D,k y=Z r/\∀(P:jP) vs S w (d:Dv) u,v=Z d->(vC P vs d u).p S w->(fV t.rep y u).p S w:=by
 unfold BN at h;split at h
 ·next=>
  cases t<;>simp only[WD]at h;exact⟨_,h,λP vs S w d u hd a=>by cases hd;rw[show u=_ from a];exact zeG⟩
 ·next=>
  cases t<;>simp only[WD]at h;exact⟨_,h,λP vs S w d u hd a=>by cases hd;rw[show u=_ from a];exact zpG⟩
 rename_i s y;cases t<;>simp only[WD]at h;have⟨e,h⟩:=yr h;subst e;exact⟨_,h,λP vs S w d u hd a=>by cases hd;exact zph a⟩
 rename_i b hv _ _;split at h;rename_i p hp;have⟨e,h⟩:=yr h;subst e;exact⟨_,h,λP vs S w d u hd a=>by cases hd;exact HL hp a⟩;cases h
 cases h
def VN{t:Ty}{k:t.D->V R}(h:BN (xz cx σ x) t k=Z r):∃y:t.D,k y=Z r/\∀(P:jP) vs env S w,Y0 P vs env S w cx σ x->(fV t.rep y<|ev env x).p S w:=by
 have⟨y,h1,a⟩:=zfx h;refine⟨y,h1,λP vs env S w hl=> ?_⟩
 cases hv:xz cx σ x with
 |none=>rw[hv]at h;cases h
 |some v=>exact a P vs S w v _ hv<|zj hv hl
def zG{o:uT}{l:N (K×Dv)}(h:∀env w S vs,(∀t∈yP o.op,Lk P vs env S w cx σ t)->∃v,(jp (ev env) o).run P w=.ok (.value v) w/\∀e∈l,(vS P vs e.2 v e.1).p S w):ES P o cx σ F l:=by intro env w S vs b c hl;have⟨v,h1,a⟩:=h env w S vs hl;exact ui.of_value h1 ⟨yJ.refl _ _,a⟩
def zu{v:wN}{dv:Dv}(h:(vC P vs dv v).p S w):∀e∈[(0,dv)],(vS P vs e.2 v e.1).p S w:=by intro e a;rw[xac]at a;subst a;exact h
def uG{o:uT}{l:N (K×Dv)}(h:∀env w S vs,yS S (MS vs σ.ob++(MS vs cx.ob++F)) w->(∀t∈yP o.op,Lk P vs env S w cx σ t)->∃(U:Type) (b:U->wN) (a:U->N FF) (ok:U->Prop) (Γ:N FF) (ms:N MF),
 NV P o env ms Γ b a ok/\yS S ms w/\zB S Γ w/\∀u w',ok u->zB S (a u) w'->∀e∈l,(vS P vs e.2 (b u) e.1).p S w'):ES P o cx σ F l:=by
 intro env w S vs c f hl;have⟨U,b,a,ok,Γ,ms,h1,i,j,k⟩:=h env w S vs f hl;refine(h1 w S c i j).mono ?_;simp_all
def PE:∀(f i:K) (t:K) (e:K×Dv),e∈zkv cx σ t f i->get cx σ t e.1=Z e.2
 |0,_,_,_,h=>wS h H1
 |f+1,i,t,e,h=>by
  unfold zkv at h;split at h;rename_i d hd;obtain rfl|h:=xah.1 h
  exact hd;exact PE f (i+1) t e h;simp_all
def zeO{a:Op}(b:a=.move x\/a=.assign x){k:N (K×Dv)->V R}(h:zbO cx σ x k=Z r):∃l,k l=Z r/\ES P ⟨d,a,ty,pos,aft,g⟩ cx σ F l:=by
 have c:∀env w,(jp (ev env) ⟨d,a,ty,pos,aft,g⟩).run P w=.ok (.value<|ev env x) w:=λenv w=>by obtain rfl|rfl:=b<;>exact da O w
 have f:x∈a.operands.toList:=by obtain rfl|rfl:=b<;>simp[xaB]
 unfold zbO at h;split at h
 next v hv=>exact⟨_,h,zG λenv w S vs hl=>⟨_,c env w,zu<|zj hv<|yK hl f⟩⟩
 unfold zpO at h;split at h;rename_i t j;split at h;cases h
 rename_i l0 l hc;exact⟨_,h,zG λenv w S vs hl=>⟨_,c env w,λe i=>yK hl f t O _ _<|PE _ _ _ _ i⟩⟩;cases h
def zqU{i:K}{k:N (K×Dv)->V R}(h:zoF cx σ x i k=Z r):∃l,k l=Z r/\ES P ⟨d,.extract x i,ty,pos,aft,g⟩ cx σ F l:=by
 unfold zoF at h;split at h;rename_i t;split at h;rename_i v hv;refine⟨_,h,?_⟩;intro env w S vs c e hl;have⟨us,u,h1,a,b⟩:=yK hl (x:=.tmp t) (by simp[xaB]) t O (i+1) v hv;exact ui.of_value (da (by simp only[pv,ev,h1];exact a) w) ⟨yJ.refl _ _,zu b⟩;cases h
 cases h
theorem mv1{k:N (K×Dv)->V R}(h:zj2 cx σ x k=Z r):∃v,xz cx σ x=Z v/\k [(0,v)]=Z r:=by grind [zj2]
def znK{c:wW}{k:N (K×Dv)->V R}(h:ziO cx σ c x y k=Z r):∃l,k l=Z r/\ES P ⟨d,.pick c x y,ty,pos,aft,g⟩ cx σ F l:=by unfold ziO at h;split at h;rename_i hc;have⟨v,hv,h⟩:=mv1 h;exact⟨_,h,zG λenv w S vs hl=>⟨_,zlh (zj hc<|yK hl<|by simp[xaB]) O w,zu<|zj hv<|yK hl<|by simp[xaB]⟩⟩;rename_i hc;have⟨v,hv,h⟩:=mv1 h;exact⟨_,h,zG λenv w S vs hl=>⟨_,zkC (zj hc<|yK hl<|by simp[xaB]) O w,zu<|zj hv<|yK hl<|by simp[xaB]⟩⟩;cases h
def zp7{k:N (K×Dv)->V R}(h:zni cx σ x k=Z r):∃l,k l=Z r/\ES P ⟨d,.unOp .not t x,ty,pos,aft,g⟩ cx σ F l:=by
 unfold zni at h;split at h
 next b a=>exact⟨_,h,zG λenv w S vs hl=>⟨_,zlo (zj a<|yK hl<|by simp[xaB]) w,zu<|by exact O⟩⟩
 next b a=>exact⟨_,h,zG λenv w S vs hl=>⟨_,zlo (oE<|zj a<|yK hl<|by simp[xaB]) w,zu<|by exact BT⟩⟩
 cases h
def zqN{k:N (K×Dv)->V R}(h:zoA cx σ x k=Z r):∃l,k l=Z r/\ES P ⟨d,.unOp .neg t x,ty,pos,aft,g⟩ cx σ F l:=by
 unfold zoA at h;split at h;rename_i a c;have⟨z,b,e,h⟩:=JC h;exact⟨_,h,zG λenv w S vs hl=>⟨_,zlV (w6 c<|yK hl<|by simp[xaB]).1 (w_x b e) w,zu<|wQ e⟩⟩;rename_i a c
 have⟨z,b,h⟩:=xN h;exact⟨_,h,zG λenv w S vs hl=>by
  have⟨h1,f⟩:=wB c (yK hl<|by simp[xaB]);exact⟨_,zlV h1 (mN b<|znN f) w,zu<|kf<|Vi b⟩⟩
 cases h
theorem OE{p:Prop}[QR p]{k:N (K×Dv)->V R}(h:(if p then k [(0,.kb wL)]else k [(0,.kb I)])=Z r):k [(0,.kb<|decide p)]=Z r:=by grind
theorem kbN{p:Prop}[QR p]{k:N (K×Dv)->V R}(h:(if p then k [(0,.kb I)]else k [(0,.kb wL)])=Z r):k [(0,.kb (!decide p))]=Z r:=by grind
def zsp{n:Jp}{a c:J}{k:N (K×Dv)->V R}(h:arI n a c (λv=>k [(0,v)])=Z r)(e:pd cx σ x=Z ⟨.i,a⟩)(hc:pd cx σ y=Z ⟨.i,c⟩):
 ∃l,k l=Z r/\ES P ⟨d,.binOp n t x y yt,ty,pos,aft,g⟩ cx σ F l:=by
 have f:∀{vs env S w},(∀o∈yP (.binOp n t x y yt),Lk P vs env S w cx σ o)->Y0 P vs env S w cx σ x:=λhl=>yK hl (by simp[xaB]);have j:∀{vs env S w},(∀o∈yP (.binOp n t x y yt),Lk P vs env S w cx σ o)->Y0 P vs env S w cx σ y:=λhl=>yK hl (by simp[xaB]);cases n<;>simp only[arI,WD]at h
 case add=>have⟨z,b,m,h⟩:=JC h;exact⟨_,h,zG λenv w S vs hl=>⟨_,CB (w6 e<|f hl).1 (w6 hc<|j hl).1 (w_x b m) w,zu<|wQ m⟩⟩
 case sub=>have⟨z,b,m,h⟩:=JC h;exact⟨_,h,zG λenv w S vs hl=>⟨_,zeJ (w6 e<|f hl).1 (w6 hc<|j hl).1 (w_x b m) w,zu<|wQ m⟩⟩
 case mul=>have⟨z,b,m,h⟩:=JC h;exact⟨_,h,zG λenv w S vs hl=>⟨_,zlq (w6 e<|f hl).1 (w6 hc<|j hl).1 (w_x b m) w,zu<|wQ m⟩⟩
 case quo=>have⟨h0,h⟩:=ZO h;have⟨z,b,m,h⟩:=JC h;exact⟨_,h,zG λenv w S vs hl=>⟨_,zlJ (w6 e<|f hl).1 (w6 hc<|j hl).1 h0 (w_x b m) w,zu<|wQ m⟩⟩
 case rem=>have⟨h0,h⟩:=ZO h;have⟨z,b,h⟩:=xN h;exact⟨_,h,zG λenv w S vs hl=>⟨_,zl4 (w6 e<|f hl).1 (w6 hc<|j hl).1 h0 b.symm w,zu<|wQ<|znd (w6 e<|f hl).2 b⟩⟩
 case and=>have⟨z,b,h⟩:=xN h;exact⟨_,h,zG λenv w S vs hl=>⟨_,zl0 (w6 e<|f hl).1 (w6 hc<|j hl).1 (zk8.trans b.symm) w,zu<|wQ<|ziD b<|zmW _ _⟩⟩
 case or=>have⟨z,b,h⟩:=xN h;exact⟨_,h,zG λenv w S vs hl=>⟨_,zpb (w6 e<|f hl).1 (w6 hc<|j hl).1 (zm1.trans b.symm) w,zu<|wQ<|ziD b<|zpU _ _⟩⟩
 case shr=>have⟨h0,h⟩:=ZO h;have⟨z,b,h⟩:=xN h;exact⟨_,h,zG λenv w S vs hl=>⟨_,Ey (w6 e<|f hl).1 (w6 hc<|j hl).1 h0 b.symm w,zu<|wQ<|zh4 (w6 e<|f hl).2 b⟩⟩
 case shl=>have⟨h0,h⟩:=ZO h;have⟨z,b,m,h⟩:=JC h;exact⟨_,h,zG λenv w S vs hl=>⟨_,zbe (w6 e<|f hl).1 (w6 hc<|j hl).1 h0 (w_x b m) w,zu<|wQ m⟩⟩
 case lss=>exact⟨[(0,.kb<|decide<|a<c)],OE h,zG λenv w S vs hl=>⟨_,ziy (w6 e<|f hl).1 (w6 hc<|j hl).1 w,zu<|by exact O⟩⟩
 case leq=>exact⟨[(0,.kb<|decide<|a<=c)],OE h,zG λenv w S vs hl=>⟨_,zfs (w6 e<|f hl).1 (w6 hc<|j hl).1 w,zu<|by exact O⟩⟩
 case gtr=>exact⟨[(0,.kb<|decide<|c<a)],OE h,zG λenv w S vs hl=>⟨_,zit (w6 e<|f hl).1 (w6 hc<|j hl).1 w,zu<|by exact O⟩⟩
 case geq=>exact⟨[(0,.kb<|decide<|c<=a)],OE h,zG λenv w S vs hl=>⟨_,zgt (w6 e<|f hl).1 (w6 hc<|j hl).1 w,zu<|by exact O⟩⟩
 case eql=>exact⟨[(0,.kb<|decide<|a=c)],OE h,zG λenv w S vs hl=>⟨_,zhs (w6 e<|f hl).1 (w6 hc<|j hl).1 w,zu<|by exact O⟩⟩
 case neq=>exact⟨[(0,.kb (!decide (a=c)))],kbN h,zG λenv w S vs hl=>⟨_,ziA (w6 e<|f hl).1 (w6 hc<|j hl).1 w,zu<|by exact O⟩⟩
def zrR{bo:Jp}{a c:K}{k:N (K×Dv)->V R}(h:(match bo with
 |.shr=>zdC .shr a c<|λv=>k [(0,v)]
 |.shl=>zdC .shl a c<|λv=>k [(0,v)]
 |bo=>arU bo a c<|λv=>k [(0,v)])=Z r) (e:pd cx σ x=Z ⟨.u,a⟩) (hc:pd cx σ y=Z ⟨.u,c⟩):
 ∃l,k l=Z r/\ES P ⟨d,.binOp bo t x y yt,ty,pos,aft,g⟩ cx σ F l:=by
 have f:∀{vs env S w},(∀j∈yP (.binOp bo t x y yt),Lk P vs env S w cx σ j)->Y0 P vs env S w cx σ x:=λhl=>yK hl (by simp[xaB]);have i:∀{vs env S w},(∀j∈yP (.binOp bo t x y yt),Lk P vs env S w cx σ j)->Y0 P vs env S w cx σ y:=λhl=>yK hl (by simp[xaB]);split at h;simp only[zdC]at h;have⟨z,b,h⟩:=xN h;exact⟨_,h,zG λenv w S vs hl=>⟨_,Ey (wB e<|f hl).1 (wB hc<|i hl).1 (xdl _) (zdm b rL) w,zu<|kf<|EY (wB e<|f hl).2 b⟩⟩;simp only[zdC]at h;have⟨z,b,h⟩:=xN h;exact⟨_,h,zG λenv w S vs hl=>⟨_,zbe (wB e<|f hl).1 (wB hc<|i hl).1 (xdl _) (mN b zcy) w,zu<|kf<|Vi b⟩⟩;rename_i hd m;cases bo<;>simp only[arU,WD]at h
 case add=>have⟨z,b,h⟩:=xN h;exact⟨_,h,zG λenv w S vs hl=>⟨_,CB (wB e<|f hl).1 (wB hc<|i hl).1 (mN b zkd) w,zu<|kf<|Vi b⟩⟩
 case sub=>have⟨z,b,h⟩:=xN h;exact⟨_,h,zG λenv w S vs hl=>⟨_,zeJ (wB e<|f hl).1 (wB hc<|i hl).1 (mN b<|zjQ<|xdC (wB hc<|i hl).2) w,zu<|kf<|Vi b⟩⟩
 case mul=>have⟨z,b,h⟩:=xN h;exact⟨_,h,zG λenv w S vs hl=>⟨_,zlq (wB e<|f hl).1 (wB hc<|i hl).1 (mN b zkm) w,zu<|kf<|Vi b⟩⟩
 case quo=>have⟨h0,h⟩:=ZO h;have⟨z,b,h⟩:=xN h;exact⟨_,h,zG λenv w S vs hl=>⟨_,zlJ (wB e<|f hl).1 (wB hc<|i hl).1 (zpN h0) (mN b<|zcO (wB e<|f hl).2) w,zu<|kf<|EY (wB e<|f hl).2 b⟩⟩
 case rem=>have⟨h0,h⟩:=ZO h;have⟨z,b,h⟩:=xN h;exact⟨_,h,zG λenv w S vs hl=>⟨_,zl4 (wB e<|f hl).1 (wB hc<|i hl).1 (zpN h0) (zdm b zqa) w,zu<|kf<|zoS (wB e<|f hl).2 b⟩⟩
 case and=>have⟨z,b,h⟩:=xN h;exact⟨_,h,zG λenv w S vs hl=>⟨_,zl0 (wB e<|f hl).1 (wB hc<|i hl).1 (mN b<|zlc (wB e<|f hl).2 (wB hc<|i hl).2) w,zu<|kf<|zmE b<|pk (wB e<|f hl).2⟩⟩
 case or=>have⟨z,b,h⟩:=xN h;exact⟨_,h,zG λenv w S vs hl=>⟨_,zpb (wB e<|f hl).1 (wB hc<|i hl).1 (mN b<|zoO (wB e<|f hl).2 (wB hc<|i hl).2) w,zu<|kf<|zmE b<|BK (wB e<|f hl).2 (wB hc<|i hl).2⟩⟩
 case lss=>exact⟨[(0,.kb<|decide<|(a:J)<(c:J))],OE h,zG λenv w S vs hl=>⟨_,ziy (wB e<|f hl).1 (wB hc<|i hl).1 w,zu<|by exact O⟩⟩
 case leq=>exact⟨[(0,.kb<|decide<|(a:J)<=(c:J))],OE h,zG λenv w S vs hl=>⟨_,zfs (wB e<|f hl).1 (wB hc<|i hl).1 w,zu<|by exact O⟩⟩
 case gtr=>exact⟨[(0,.kb<|decide<|(c:J)<(a:J))],OE h,zG λenv w S vs hl=>⟨_,zit (wB e<|f hl).1 (wB hc<|i hl).1 w,zu<|by exact O⟩⟩
 case geq=>exact⟨[(0,.kb<|decide<|(c:J)<=(a:J))],OE h,zG λenv w S vs hl=>⟨_,zgt (wB e<|f hl).1 (wB hc<|i hl).1 w,zu<|by exact O⟩⟩
 case eql=>exact⟨[(0,.kb<|decide<|(a:J)=(c:J))],OE h,zG λenv w S vs hl=>⟨_,zhs (wB e<|f hl).1 (wB hc<|i hl).1 w,zu<|by exact O⟩⟩
 case neq=>exact⟨[(0,.kb (!decide ((a:J)=(c:J))))],kbN h,zG λenv w S vs hl=>⟨_,ziA (wB e<|f hl).1 (wB hc<|i hl).1 w,zu<|by exact O⟩⟩
def zsq{e:Jp}{a:K}{c:J}{k:N (K×Dv)->V R}(h:shU e a c (λv=>k [(0,v)])=Z r)(f:pd cx σ x=Z ⟨.u,a⟩)(hc:pd cx σ y=Z ⟨.i,c⟩):
 ∃l,k l=Z r/\ES P ⟨d,.binOp e t x y yt,ty,pos,aft,g⟩ cx σ F l:=by
 have j:∀{vs env S w},(∀m∈yP (.binOp e t x y yt),Lk P vs env S w cx σ m)->Y0 P vs env S w cx σ x:=λhl=>yK hl (by simp[xaB]);have n:∀{vs env S w},(∀m∈yP (.binOp e t x y yt),Lk P vs env S w cx σ m)->Y0 P vs env S w cx σ y:=λhl=>yK hl (by simp[xaB]);unfold shU at h;split at h;have⟨h0,h⟩:=ZO h;have⟨z,b,h⟩:=xN h;exact⟨_,h,zG λenv w S vs hl=>⟨_,Ey (wB f<|j hl).1 (w6 hc<|n hl).1 h0 (zdm b rL) w,zu<|kf<|EY (wB f<|j hl).2 b⟩⟩;have⟨h0,h⟩:=ZO h;have⟨z,b,h⟩:=xN h;exact⟨_,h,zG λenv w S vs hl=>⟨_,zbe (wB f<|j hl).1 (w6 hc<|n hl).1 h0 (mN b zcy) w,zu<|kf<|Vi b⟩⟩;cases h
def zrB{b:Jp}{a:J}{c:K}{k:N (K×Dv)->V R}(h:shI b a c (λv=>k [(0,v)])=Z r)(f:pd cx σ x=Z ⟨.i,a⟩)(hc:pd cx σ y=Z ⟨.u,c⟩):
 ∃l,k l=Z r/\ES P ⟨d,.binOp b t x y yt,ty,pos,aft,g⟩ cx σ F l:=by
 have j:∀{vs env S w},(∀m∈yP (.binOp b t x y yt),Lk P vs env S w cx σ m)->Y0 P vs env S w cx σ x:=λhl=>yK hl (by simp[xaB]);have n:∀{vs env S w},(∀m∈yP (.binOp b t x y yt),Lk P vs env S w cx σ m)->Y0 P vs env S w cx σ y:=λhl=>yK hl (by simp[xaB]);unfold shI at h;split at h;have⟨z,e,h⟩:=xN h;exact⟨_,h,zG λenv w S vs hl=>⟨_,Ey (w6 f<|j hl).1 (wB hc<|n hl).1 (xdl _) e.symm w,zu<|wQ<|zh4 (w6 f<|j hl).2 e⟩⟩;have⟨z,e,o,h⟩:=JC h;exact⟨_,h,zG λenv w S vs hl=>⟨_,zbe (w6 f<|j hl).1 (wB hc<|n hl).1 (xdl _) (w_x e o) w,zu<|wQ o⟩⟩;cases h
def zrI{e:Jp}{a c:v6}{j:v6}{k:N (K×Dv)->V R}(h:jt j (eqB e a c<|λv=>k [(0,v)])=Z r)(m:pd cx σ x=Z ⟨.b,a⟩)(hc:pd cx σ y=Z ⟨.b,c⟩)(n:j=wL->P.underlying t=Z .bool):
 ∃l,k l=Z r/\ES P ⟨d,.binOp e t x y yt,ty,pos,aft,g⟩ cx σ F l:=by
 have o:∀{vs env S w},(∀f∈yP (.binOp e t x y yt),Lk P vs env S w cx σ f)->Y0 P vs env S w cx σ x:=λhl=>yK hl (by simp[xaB]);have p:∀{vs env S w},(∀f∈yP (.binOp e t x y yt),Lk P vs env S w cx σ f)->Y0 P vs env S w cx σ y:=λhl=>yK hl (by simp[xaB]);have⟨hd,h⟩:=yf h;unfold eqB at h;split at h;have⟨z,i,h⟩:=xN h;exact⟨_,h,zG λenv w S vs hl=>⟨_,zfE (zqk (n hd) (zkW m<|o hl)<|zkW hc<|p hl) i w,zu BT⟩⟩;have⟨z,i,h⟩:=xN h;exact⟨_,h,zG λenv w S vs hl=>⟨_,zfE (zqV (n hd) (zkW m<|o hl)<|zkW hc<|p hl) i w,zu BT⟩⟩;cases h
def Mb(x:J):xfZ.wrap x=x%256:=by rfl
def zmX{a b:K}:xfZ.wrap ((a:J)+(b:J))=(((a+b)%256:K):J):=by rw[Mb];lia
def znu{a b:K}(h:b<=256):xfZ.wrap ((a:J)-(b:J))=(((a+256-b)%256:K):J):=by rw[Mb];lia
def zhq{n z:K}(h:z=n%256):z<256:=by rw[h];exact xaN _ mD
def zsh{i:Jp}{a c:K}{k:N (K×Dv)->V R}(h:arC i a c (λv=>k [(0,v)])=Z r)(e:pd cx σ x=Z ⟨.ch,a⟩)(hc:pd cx σ y=Z ⟨.ch,c⟩):
 ∃l,k l=Z r/\ES P ⟨d,.binOp i t x y yt,ty,pos,aft,g⟩ cx σ F l:=by
 have f:∀{vs env S w},(∀m∈yP (.binOp i t x y yt),Lk P vs env S w cx σ m)->Y0 P vs env S w cx σ x:=λhl=>yK hl (by simp[xaB]);have b:∀{vs env S w},(∀m∈yP (.binOp i t x y yt),Lk P vs env S w cx σ m)->Y0 P vs env S w cx σ y:=λhl=>yK hl (by simp[xaB]);cases i<;>simp only[arC,WD]at h
 case add=>have⟨z,j,h⟩:=xN h;exact⟨_,h,zG λenv w S vs hl=>⟨_,CB (Vu e<|f hl).1 (Vu hc<|b hl).1 (mN j zmX) w,zu<|Hs<|zhq j⟩⟩
 case sub=>have⟨z,j,h⟩:=xN h;exact⟨_,h,zG λenv w S vs hl=>⟨_,zeJ (Vu e<|f hl).1 (Vu hc<|b hl).1 (mN j<|znu<|xdC (Vu hc<|b hl).2) w,zu<|Hs<|zhq j⟩⟩
 case lss=>exact⟨[(0,.kb<|decide<|(a:J)<(c:J))],OE h,zG λenv w S vs hl=>⟨_,ziy (Vu e<|f hl).1 (Vu hc<|b hl).1 w,zu<|by exact O⟩⟩
 case leq=>exact⟨[(0,.kb<|decide<|(a:J)<=(c:J))],OE h,zG λenv w S vs hl=>⟨_,zfs (Vu e<|f hl).1 (Vu hc<|b hl).1 w,zu<|by exact O⟩⟩
 case gtr=>exact⟨[(0,.kb<|decide<|(c:J)<(a:J))],OE h,zG λenv w S vs hl=>⟨_,zit (Vu e<|f hl).1 (Vu hc<|b hl).1 w,zu<|by exact O⟩⟩
 case geq=>exact⟨[(0,.kb<|decide<|(c:J)<=(a:J))],OE h,zG λenv w S vs hl=>⟨_,zgt (Vu e<|f hl).1 (Vu hc<|b hl).1 w,zu<|by exact O⟩⟩
 case eql=>exact⟨[(0,.kb<|decide<|(a:J)=(c:J))],OE h,zG λenv w S vs hl=>⟨_,zhs (Vu e<|f hl).1 (Vu hc<|b hl).1 w,zu<|by exact O⟩⟩
 case neq=>exact⟨[(0,.kb (!decide ((a:J)=(c:J))))],kbN h,zG λenv w S vs hl=>⟨_,ziA (Vu e<|f hl).1 (Vu hc<|b hl).1 w,zu<|by exact O⟩⟩
theorem HC{s u:Wt}:(s.toList==u.toList)=decide (xO s=xO u):=by rw[ByteArray.toList_eq,ByteArray.toList_eq];unfold xO;by_cases h:s.data.toList=u.data.toList;grind;have a:=λe=>h (List.map_inj_right (λx y=>UInt8.toNat_inj.1)|>.1 e);simp_all
def EN(s u:Wt):xO (s++u)=xO s++xO u:=by unfold xO;simp
def zfi{s u:Wt}(h:X (xO s)+X (xO u)<=9223372036854775807)(w:wP):(Op.stringOp .add s u).run P w=.ok (.string<|s++u) w:=by
 rw[ua,ua]at h;have a:¬(((s.size+u.size:K):J)>xdb.max):=by have:xdb.max=9223372036854775807:=O;lia
 unfold Op.stringOp;simp_all
def zpe{f:Jp}{a c:N K}{k:N (K×Dv)->V R}(h:eqT f a c (λv=>k [(0,v)])=Z r)(j:pd cx σ x=Z ⟨.tx,a⟩)(hc:pd cx σ y=Z ⟨.tx,c⟩):
 ∃l,k l=Z r/\ES P ⟨d,.binOp f t x y yt,ty,pos,aft,g⟩ cx σ F l:=by
 have m:∀{vs env S w},(∀n∈yP (.binOp f t x y yt),Lk P vs env S w cx σ n)->Y0 P vs env S w cx σ x:=λhl=>yK hl (by simp[xaB]);have o:∀{vs env S w},(∀n∈yP (.binOp f t x y yt),Lk P vs env S w cx σ n)->Y0 P vs env S w cx σ y:=λhl=>yK hl (by simp[xaB]);cases f<;>simp only[eqT,WD]at h
 case add=>
  have⟨h0,h⟩:=ZO h;have⟨z,q,h⟩:=xN h;refine⟨_,h,zG λenv w S vs hl=> ?_⟩;have⟨s,e1,b,_⟩:=zdX j<|m hl;have⟨u,i,e,_⟩:=zdX hc<|o hl;have p:X (xO s)+X (xO u)<=9223372036854775807:=by rw[b,e];exact h0
  refine⟨.string<|s++u,?_,zu<|zbT (by rw[EN,b,e];exact q.symm)<|by rw[<-ua,EN,xat];exact p⟩;simp[jp,e1,i,WW,binOp_string_add,zfi (P:=P) p w]
 case eql=>
  refine⟨[(0,.kb<|decide<|a=c)],OE h,zG λenv w S vs hl=> ?_⟩;have⟨s,e1,b,_⟩:=zdX j<|m hl;have⟨u,i,e,_⟩:=zdX hc<|o hl;refine⟨.bool<|decide<|a=c,?_,zu<|by exact O⟩;rw[<-b,<-e,<-HC];simp[jp,e1,i,WW,binOp_string_eql]
 case neq=>
  refine⟨[(0,.kb (!decide (a=c)))],kbN h,zG λenv w S vs hl=> ?_⟩;have⟨s,e1,b,_⟩:=zdX j<|m hl;have⟨u,i,e,_⟩:=zdX hc<|o hl;refine⟨.bool (!decide (a=c)),?_,zu<|by exact O⟩;rw[<-b,<-e,<-HC];simp[jp,e1,i,WW,binOp_string_neq]
def bop{e:v6}{f:Jp}{k:N (K×Dv)->V R}(h:znQ e f (pd cx σ x) (pd cx σ y) (λv=>k [(0,v)])=Z r)(i:e=wL->P.underlying t=Z .bool):
 ∃l,k l=Z r/\ES P ⟨d,.binOp f t x y yt,ty,pos,aft,g⟩ cx σ F l:=by
 unfold znQ at h;split at h
 next a c b hc=>exact zsp h b hc
 next a c b hc=>exact zrR h b hc
 next a c b hc=>exact zsq h b hc
 next a c b hc=>exact zrB h b hc
 next a c b hc=>exact zrI h b hc i
 next a c b hc=>exact zsh h b hc
 next a c b hc=>exact zpe h b hc
 cases h
end
end
section
section
variable{P:jP}{cf:Cf}{cx σ:Sg}{F:xS MF}{vs:wr->wN}{env:y6}{S:wr->Prop}{w:wP}{R:Type}{r:R}
 {d:ww Z4}{ty t yt:wT}{pos:String}{aft:ut Edge}{g:ww (wr×v6)}{x y:wW}
def J7{s:wT}{q:Ty}{k:Z5}{B:K}(a:yX P cf.tt)(h:Yc cf s=Z ⟨q,.int k,B⟩):P.underlying s=Z (.int k):=(a _ _ h).2.2.2
def qB{s E:wT}{q:Ty}{B:K}(a:yX P cf.tt)(h:Yc cf s=Z ⟨q,.sl E,B⟩):P.underlying s=Z (.slice E):=(a _ _ h).2.2.2.1
def IG{s:wT}{q:Ty}{B:K}(a:yX P cf.tt)(h:Yc cf s=Z ⟨q,.str,B⟩):P.underlying s=Z .string:=(a _ _ h).2.2.2
def zko(a:yX P cf.tt):isB cf t=wL->P.underlying t=Z .bool:=by
 intro h;unfold isB at h;split at h
 next q B b=>exact(a _ _ b).2.2.2
 cases h
theorem K2{s E:wT}{e:Ty}{B:K}(b:yX P cf.tt)(c:kZ P cf.tt)(h:Yc cf s=Z ⟨.l e,.sl E,B⟩):∃bytes a,Jo P E e.rep.agg e.rep.n bytes a:=by obtain⟨f,h1,rfl⟩:=c _ _ _ _ h;have⟨⟨a,i,_⟩,_⟩:=b _ _ h1;grind
theorem YS{b:TI}(c:yX P cf.tt)(h:Yc cf t=Z b):∃a,Jo P t b.ty.rep.agg b.ty.rep.n b.B a/\a.cells.size=b.ty.rep.n/\∀S w,b.ty.rep.p S b.ty.z a.cells.toList w:=by have⟨a,h1,e,f,_⟩:=(c _ _ h).1;grind
def Tf{a:TI}{s:Ty}(e:yX P cf.tt)(h:Yc cf t=Z a)(b:a.ty=.l s):Jo P t I 1 a.B (.slice wF 0 0):=by have⟨c,h1,_,_,f⟩:=(e _ _ h).1;rw[f.1 s b,b]at h1;exact h1
def zqZ{a:K}(h:a<256):XB (a:J):=by unfold XB;lia
def zpw{a:K}(h:a<256):a<18446744073709551616:=W
def zr8{a:K}(h:a<256):xfZ.wrap (a:J)=(a:J):=by rw[Mb];lia
def u_c{a:K}:xfZ.wrap (a:J)=((a%256:K):J):=by rw[Mb];lia
def OZ{S:K->Prop}{w:wP}:∀{xs:N K}{cs:N wN},yT eCh S xs cs w->cs=xs.map (λx:K=>Value.int .u8 (x:J))/\∀x∈xs,x<256
 |[],cs,h=>⟨h,λx a=>wS a H1⟩
 |x::xs,cs,⟨c,r,h1,b,e⟩=>by
  have⟨e1,j⟩:=OZ e;have⟨f,i⟩:=b;refine⟨by rw[h1,f,e1];rfl,λy hy=> ?_⟩;obtain rfl|hy:=xah.1 hy
  exact i;simp_all
def znI{s t E:wT}{xs:N K}{v:wN}{S:K->Prop}{w:wP}(k:P.underlying s=Z (.slice E))(l:P.underlying E=Z (.int .u8))(ht:P.underlying t=Z .string)(hv:(fV (eS eCh) xs v).p S w):
 ∃u:Wt,(convert s t v).run P w=.ok (.string u) w/\xO u=xs/\u.size<=9223372036854775807:=by
 obtain⟨i,cap,rfl,hi,hc,h⟩:=wb.1 hv;have e:∀a,i=Z a->(∀x∈xs,x<256)->(∀j (c:j<X xs),w.cell? (a.add j)=Z (.int .u8 ((xs[j]:K):J)))->∃u:Wt,(convert s t (.slice i (X xs) cap)).run P w=.ok (.string u) w/\xO u=xs/\u.size<=9223372036854775807:=by
  rintro a rfl f c;have q:(xs.map UInt8.ofNat).map UInt8.toNat=xs:=by
   rw[xdg];conv=>rhs;rw[<-List.map_id xs]
   exact xcc λx hd=>UInt8.toNat_ofNat_of_lt'<|f x hd
  have m:=run_convert_bytes_back (P:=P) w s t E a cap (xs.map UInt8.ofNat) k l ht (λj z=>by
   have n:j<X xs:=by simpa using z
   rw[c j n,List.getElem_map,UInt8.toNat_ofNat_of_lt'<|f _<|xbG n])
  rw[xav]at m;refine⟨_,m,by unfold xO;simpa using q,?_⟩;rw[<-ua];unfold xO;rw[xav];simp;unfold V4 at hc;lia
 obtain rfl|⟨b,o,cs,rfl,_,A,B⟩:=h
 cases i with
 |some a=>exact e a O (λx f=>wS f H1)<|λj c=>wS c<|xbc _
 |none=>
  refine⟨ByteArray.empty,?_,O,mD⟩;rw[run_convert_bytes_string w s t E wF _ cap k l ht];rfl
 have⟨e1,C⟩:=OZ B;refine e _ O C λj c=> ?_;have:=A.2 j (.int .u8 ((xs[j]:K):J)) (by rw[e1,xbX,xab c];rfl);rw[jb];exact this
def zqb(f:yX P cf.tt){s t:wT}{k:N (K×Dv)->V R}(h:zmL cf cx σ s t x k=Z r):∃l,k l=Z r/\ES P ⟨d,.convert s t x,ty,pos,aft,g⟩ cx σ F l:=by
 have e:∀{vs env S w},(∀m∈yP (.convert s t x),Lk P vs env S w cx σ m)->Y0 P vs env S w cx σ x:=λhl=>yK hl (by simp[xaB]);unfold zmL at h;split at h;rename_i q k1 B n j ht;have hc:=J7 f j;have⟨o,D,tB⟩:=n;unfold zq0 at h;split at h;rename_i a c b;simp only at c;subst c;exact⟨_,h,zG λenv w S vs hl=>⟨_,Qk hc (J7 f ht) (w6 b<|e hl).1 (w64 (w6 b<|e hl).2) w,zu<|wQ (w6 b<|e hl).2⟩⟩;rename_i a c b;simp only at c;subst c;exact⟨_,h,zG λenv w S vs hl=>⟨_,Qk hc (J7 f ht) (wB b<|e hl).1 (pV (wB b<|e hl).2) w,zu<|kf (wB b<|e hl).2⟩⟩;rename_i a c b;simp only at c;subst c;have⟨z,i,h⟩:=xN h;exact⟨_,h,zG λenv w S vs hl=>⟨_,Qk hc (J7 f ht) (w6 b<|e hl).1 (mN i<|zie _) w,zu<|kf<|zmE i<|Dr _⟩⟩;rename_i a c b;simp only at c;subst c;have⟨z,i,h⟩:=xN h;exact⟨_,h,zG λenv w S vs hl=>⟨_,Qk hc (J7 f ht) (wB b<|e hl).1 ((Cn (wB b<|e hl).2).trans i.symm) w,zu<|wQ<|ziD i<|zid (wB b<|e hl).2⟩⟩;rename_i a c b;simp only at c;subst c;exact⟨_,h,zG λenv w S vs hl=>⟨_,Qk hc (J7 f ht) (Vu b<|e hl).1 (w64<|zqZ (Vu b<|e hl).2) w,zu<|wQ<|zqZ (Vu b<|e hl).2⟩⟩;rename_i a c b;simp only at c;subst c;exact⟨_,h,zG λenv w S vs hl=>⟨_,Qk hc (J7 f ht) (Vu b<|e hl).1 (pV<|zpw (Vu b<|e hl).2) w,zu<|kf<|zpw (Vu b<|e hl).2⟩⟩;rename_i a c b;simp only at c;subst c;exact⟨_,h,zG λenv w S vs hl=>⟨_,Qk hc (J7 f ht) (Vu b<|e hl).1 (zr8 (Vu b<|e hl).2) w,zu<|Hs (Vu b<|e hl).2⟩⟩;rename_i a c b;simp only at c;subst c;unfold chU at h;have⟨z,i,h⟩:=xN h;exact⟨_,h,zG λenv w S vs hl=>⟨_,Qk hc (J7 f ht) (wB b<|e hl).1 (mN i u_c) w,zu<|Hs<|zhq i⟩⟩;cases h
 rename_i E B q G j ht;split at h;rename_i H p v;have⟨xs,h,hd⟩:=VN h;refine⟨_,h,zG λenv w S vs hl=> ?_⟩;have⟨u,h1,A,C⟩:=znI (qB f j) (J7 f v) (IG f ht)<|hd P vs env S w<|e hl;exact⟨.string u,by simp[jp,h1],zu<|zbT A C⟩;cases h
 cases h
def SF{n:K}{k:K->V R}(h:atI cx σ x n k=Z r):∃j,j<n/\k j=Z r/\∀(P:jP) vs env S w,Y0 P vs env S w cx σ x->∃ik,ev env x=.int ik (j:J):=by unfold atI at h;split at h;rename_i j a;have⟨i,h1,b,h⟩:=zlC h;exact⟨i,b,h,λP vs env S w hl=>⟨.i64,by rw[(w6 a hl).1,h1]⟩⟩;rename_i j a;have⟨i,h1,b,h⟩:=zlC h;exact⟨i,b,h,λP vs env S w hl=>⟨.u64,by rw[(wB a hl).1,h1]⟩⟩;cases h
def UI{x:V wW}{k:V K->V R}(h:SA cx σ x k=Z r):
 (x=wF/\k wF=Z r)\/∃y j,x=Z y/\k (Z j)=Z r/\∀(P:jP) vs env S w,Y0 P vs env S w cx σ y->ev env y=.int .i64 (j:J):=by
 unfold SA at h;split at h;simp_all;rename_i y;split at h;rename_i j a;have⟨i,h1,h⟩:=zbt h;exact .inr ⟨y,i,O,h,λP vs env S w hl=>by rw[(w6 a hl).1,h1]⟩;cases h
def U2{α:Type}{e:zT α}{E:wT}{xs:N α}{v:wN}(h:(mO e E v xs).p S w)(h0:0<X xs):
 ∃b cap,v=.slice (Z ⟨b,0,wF⟩) (X xs) cap/\(mB (rowT e cap) E b xs).p S w:=by
 have⟨cs,h1,c⟩:=h;rcases h1.2 with⟨rfl,j⟩|⟨g,cap,a,rfl,hd,f,k,l,i,hc⟩
 lia;exact⟨g,cap,O,a,f,cs,a.toList.drop<|X xs*e.n,by rw[<-hc,xby],c,by simpa using i⟩
def zhy{s E:wT}{q:Ty}{n B:K}(a:yX P cf.tt)(h:Yc cf s=Z ⟨q,.ar n E,B⟩):P.underlying s=Z (.array n E):=(a _ _ h).2.2.2.2
theorem zgA{E:wT}{e:Ty}(b:yX P cf.tt)(h:elA cf E e=wL):∃bytes a,Jo P E e.rep.agg e.rep.n bytes a:=by
 unfold elA at h;split at h;rename_i c ht
 cases f:Ty.same c.ty e with
 |none=>rw[f]at h;cases h
 |some p=>
  have⟨a,i,_⟩:=YS b ht;rw[p.down]at i;grind
 cases h
def zns{n j:K}{e:Ty}(b:j<n):Fl.ok (.a n e) (zq9 n e j):=by intro z S w cs hp;have c:=hp;have:=Sub.nth n e.rep z j (xeL z j e.z) (getD_some e.z<|c.1▸b) S w cs hp;rw[e.n_rep]at this;exact this
def zkb(m:yX P cf.tt)(T:kZ P cf.tt){k:N (K×Dv)->V R}(h:zag cf cx σ t x y k=Z r):∃l,k l=Z r/\ES P ⟨d,.indexAddr t x y,ty,pos,aft,g⟩ cx σ F l:=by
 have G:∀{vs env S w},(∀J∈yP (.indexAddr t x y),Lk P vs env S w cx σ J)->Y0 P vs env S w cx σ x:=λhl=>yK hl (by simp[xaB]);have H:∀{vs env S w},(∀J∈yP (.indexAddr t x y),Lk P vs env S w cx σ J)->Y0 P vs env S w cx σ y:=λhl=>yK hl (by simp[xaB]);unfold zag at h;split at h;rename_i e E B s xs ht v;have⟨hi,h⟩:=yr h;cases hi;have⟨bytes,c,hc⟩:=K2 m T ht;have⟨j,i,h,hd⟩:=SF h;have⟨z,L,h⟩:=xN h;refine⟨_,h,uG λenv w S vs M hl=> ?_⟩;have⟨ik,A⟩:=hd P vs env S w<|H hl;exact⟨_,_,_,_,[fV (eS e.rep) xs<|ev env x],[],zgF (e:=e.rep) (xs:=xs) (k:=j) (y:=z) O A (qB m ht) hc (zpK i L)<|λS w h=>h.1,wR,⟨zj v<|G hl,wR⟩,λu w' _ Q=>zu Q.1⟩
 rename_i e E B o ht v;split at h;rename_i s Y xs ho;have⟨hi,h⟩:=yr h;cases hi;have⟨bytes,c,hc⟩:=K2 m T ht;have⟨j,i,h,hd⟩:=SF h;refine⟨_,h,?_⟩;intro env w S vs hS M hl;have⟨ik,A⟩:=hd P vs env S w<|H hl;have hm:(mO e.rep Y (vs o) xs).p S w:=ZZ M ho;have⟨b,cap,hv,_⟩:=U2 hm<|xaK (xae _) i;have hq:ev env x=vs o:=zj v<|G hl;refine ui.of_value (Cb (qB m ht) hc (hq.trans hv) A i w) ⟨yJ.refl _ _,zu ?_⟩;exact⟨λz=>Sub.self e.rep z,b,_,_,hv,i,by simp[Fl.self]⟩
 cases h
 rename_i q D E B n e xs ht v;have⟨C,h⟩:=yf h;rw[xad]at C;have hn:=zY C.1;subst hn;have⟨bytes,c,hc⟩:=zgA m C.2;have⟨j,i,h,hd⟩:=SF h;have⟨z,L,h⟩:=xN h;refine⟨_,h,uG λenv w S vs M hl=> ?_⟩;have⟨ik,A⟩:=hd P vs env S w<|H hl;have hp:(fP (Ty.a D e).rep xs<|ev env x).p S w:=zj v<|G hl;have⟨_,_,_,_,_,_,hk,_⟩:=id hp;exact⟨_,_,_,_,[fP (Ty.a D e).rep xs<|ev env x],[],zdI (e:=(Ty.a D e).rep) (f:=e.rep) (z:=xs) (z':=z) (zhy m ht) hc O A i (Sub.nth D e.rep xs j z<|zpK (hk▸i) L)<|λS w h=>h.1,wR,⟨hp,wR⟩,λu w' _ Q=>zu Q.1⟩;rename_i q D E B o n e ht v;have⟨C,h⟩:=yf h;rw[xad]at C;have hn:=zY C.1;subst hn;have⟨bytes,c,hc⟩:=zgA m C.2;have⟨j,i,h,hd⟩:=SF h;refine⟨_,h,zG λenv w S vs hl=> ?_⟩;have⟨ik,A⟩:=hd P vs env S w<|H hl;have⟨h1,b,U⟩:=zj v<|G hl;exact⟨_,Oc (zhy m ht) hc (h1.trans U) A i w,zu ⟨zns i,b,U,by rw[e.n_rep];rfl⟩⟩;cases h
def Uc:∀{k:K}{t:Ty}{i:K}{f:Fl t.D},xk k t i=Z f->Fl.ok t f
 |0,.w1 t,0,f,h=>by
  simp only[xk,xau]at h;subst h;exact λz=>Sub.wrap t.rep z
 |0,.w1 t,_+1,_,h=>by cases h
 |0,.i,_,_,h=>by cases h
 |0,.u,_,_,h=>by cases h
 |0,.b,_,_,h=>by cases h
 |0,.l _,_,_,h=>by cases h
 |0,.p _ _,_,_,h=>by cases h
 |0,.a _ _,_,_,h=>by cases h
 |0,.ch,_,_,h=>by cases h
 |0,.tx,_,_,h=>by cases h
 |0,.po _,_,_,h=>by cases h
 |1,t,i,f,h=>by
  unfold xk at h;cases c:E i 0<;>rw[c]at h
  cases h
  simp only[Wf,xau]at h;subst h;exact λz=>Sub.self t.rep z
 |k+2,.p s t,0,f,h=>by
  simp only[xk,xau]at h;subst h;exact λz=>Sub.fst s.rep t.rep z
 |k+2,.p s t,i+1,f,h=>by
  simp only[xk]at h;split at h;rename_i f' e;simp only[xau]at h;subst h;intro z;have:=(Sub.snd s.rep t.rep z).comp<|Uc e z.2;rw[s.n_rep]at this;exact this;cases h
 |k+2,.i,i,f,h=>by simp[xk]at h
 |k+2,.u,i,f,h=>by simp[xk]at h
 |k+2,.b,i,f,h=>by simp[xk]at h
 |k+2,.l _,i,f,h=>by simp[xk]at h
 |k+2,.a _ _,i,f,h=>by simp[xk]at h
def DX:∀{k:K}{t:Ty}{i j:K}{f g:Fl t.D},xk k t i=Z f->xk k t j=Z g->i≠j->
 (∀z x,g.get (f.set x z)=g.get z)/\(∀z x y,g.set y (f.set x z)=f.set x (g.set y z))/\(g.off+g.f.n<=f.off\/f.off+f.f.n<=g.off)
 |0,.w1 _,0,0,_,_,_,_,h=>wS O h
 |0,.w1 _,_+1,_,_,_,h,_,_=>by cases h
 |0,.w1 _,0,_+1,_,_,_,h,_=>by cases h
 |0,.i,_,_,_,_,h,_,_=>by cases h
 |0,.u,_,_,_,_,h,_,_=>by cases h
 |0,.b,_,_,_,_,h,_,_=>by cases h
 |0,.l _,_,_,_,_,h,_,_=>by cases h
 |0,.p _ _,_,_,_,_,h,_,_=>by cases h
 |0,.a _ _,_,_,_,_,h,_,_=>by cases h
 |0,.ch,_,_,_,_,h,_,_=>by cases h
 |0,.tx,_,_,_,_,h,_,_=>by cases h
 |0,.po _,_,_,_,_,h,_,_=>by cases h
 |1,t,i,j,f,g,c,m,hn=>by
  unfold xk at c m;cases o:E i 0<;>rw[o]at c
  cases c
  cases hc:E j 0<;>rw[hc]at m
  cases m
  exact wS ((zY o).trans (zY hc).symm) hn
 |k+2,.p s t,0,0,_,_,_,_,h=>wS O h
 |k+2,.p s t,0,j+1,f,g,c,m,_=>by
  simp only[xk,xau]at c m;subst c;split at m;rename_i v q;simp only[xau]at m;subst m;exact⟨λ_ _=>O,λ_ _ _=>O,.inr<|by simp only;lia⟩;cases m
 |k+2,.p s t,i+1,0,f,g,c,m,_=>by
  simp only[xk,xau]at c m;subst m;split at c;rename_i f' hd;simp only[xau]at c;subst c;exact⟨λ_ _=>O,λ_ _ _=>O,.inl<|by simp only;lia⟩;cases c
 |k+2,.p s t,i+1,j+1,f,g,c,m,hn=>by
  simp only[xk]at c m;split at c;rename_i f' hd;split at m;rename_i v q;simp only[xau]at c m;subst c;subst m;have⟨h1,A,h3⟩:=DX hd q (λe=>hn<|by rw[e]);exact⟨λz x=>h1 z.2 x,λz x y=>by simp only;rw[A z.2 x y],by obtain h3|h3:=h3;exact .inl (by simp only;lia);exact .inr<|by simp only;lia⟩;cases m
  cases c
 |k+2,.i,i,_,f,_,h,_,_=>by simp[xk]at h
 |k+2,.u,i,_,f,_,h,_,_=>by simp[xk]at h
 |k+2,.b,i,_,f,_,h,_,_=>by simp[xk]at h
 |k+2,.l _,i,_,f,_,h,_,_=>by simp[xk]at h
 |k+2,.a _ _,i,_,f,_,h,_,_=>by simp[xk]at h
def X8:∀t:Ty,∃h,Ty.same t t=Z ⟨h⟩
 |.i=>⟨O,O⟩
 |.u=>⟨O,O⟩
 |.b=>⟨O,O⟩
 |.ch=>⟨O,O⟩
 |.tx=>⟨O,O⟩
 |.l t=>by have⟨h,e⟩:=X8 t;exact⟨O,by simp only[Ty.same,e]⟩
 |.po t=>by have⟨h,e⟩:=X8 t;exact⟨O,by simp only[Ty.same,e]⟩
 |.w1 t=>by have⟨h,e⟩:=X8 t;exact⟨O,by simp only[Ty.same,e]⟩
 |.a k t=>by have⟨h,e⟩:=X8 t;exact⟨O,by simp only[Ty.same,e,dite_true]⟩
 |.p s t=>by have⟨h,e⟩:=X8 s;have⟨f,c⟩:=X8 t;exact⟨O,by simp only[Ty.same,e,c]⟩
def JS{s t:Ty}(h:(Ty.same s t).isSome=wL):s=t:=by
 cases a:Ty.same s t with
 |none=>rw[a]at h;cases h
 |some p=>exact p.down
def pJ{α:Type}{s:Ty}{off:K}{g:α->(Ty.l s).D}{st:(Ty.l s).D->α->α}{xs:N s.D}{z:α}:Zl s (Z ⟨off,.l s,g,st⟩) xs z=st xs z:=by have⟨h,e⟩:=X8 s;simp only[Zl,e]
theorem zbl{n i j:K}{t s:Ty}{f:Fl t.D}{hv:N wN}{z:t.D}{r:K}(c:vrP s (xk n t j))(a:xk n t i=Z f)(hn:i≠j):
 Sub (b7 t.rep (XO<|xk n t j) (Zl s (xk n t j) []) hv) (z,r) f.off f.f.rep (f.get z) (λy=>(f.set y z,r)):=by
 have⟨off,g,st,b⟩:=c;have⟨h1,h,e⟩:=DX b a<|Ne.symm hn;rw[b];have hp:∀z,Zl s (Z ⟨off,.l s,g,st⟩) [] z=st ([]:N s.D) z:=λz=>pJ;refine Sub.other ?_ (by rw[f.f.n_rep];exact e);have k:=Uc a<|Zl s (Z ⟨off,.l s,g,st⟩) [] z;grind
def PF:∀{k:K}{t:Ty}{i:K}{f:Fl t.D},xk k t i=Z f->∀x y z,f.set x (f.set y z)=f.set x z
 |0,.w1 t,0,f,h=>by
  simp only[xk,xau]at h;subst h;exact λ_ _ _=>O
 |0,.w1 t,_+1,_,h=>by cases h
 |0,.i,_,_,h=>by cases h
 |0,.u,_,_,h=>by cases h
 |0,.b,_,_,h=>by cases h
 |0,.l _,_,_,h=>by cases h
 |0,.p _ _,_,_,h=>by cases h
 |0,.a _ _,_,_,h=>by cases h
 |0,.ch,_,_,h=>by cases h
 |0,.tx,_,_,h=>by cases h
 |0,.po _,_,_,h=>by cases h
 |1,t,i,f,h=>by
  unfold xk at h;cases c:E i 0<;>rw[c]at h
  cases h
  simp only[Wf,xau]at h;subst h;exact λ_ _ _=>O
 |k+2,.p s t,0,f,h=>by
  simp only[xk,xau]at h;subst h;exact λ_ _ _=>O
 |k+2,.p s t,i+1,f,h=>by
  simp only[xk]at h;split at h;rename_i f' e;simp only[xau]at h;subst h;intro x y z;simp only;rw[PF e];cases h
 |k+2,.i,i,f,h=>by simp[xk]at h
 |k+2,.u,i,f,h=>by simp[xk]at h
 |k+2,.b,i,f,h=>by simp[xk]at h
 |k+2,.l _,i,f,h=>by simp[xk]at h
 |k+2,.a _ _,i,f,h=>by simp[xk]at h
def zlx{S:K->Prop}{w:wP}{n i off:K}{t s:Ty}{g:t.D->(Ty.l s).D}{st:(Ty.l s).D->t.D->t.D}{z:t.D}{cs:N wN}{v:wN}(e:xk n t i=Z ⟨off,.l s,g,st⟩)(h:t.rep.p S z cs w)(hv:cs[off]? =Z v)(h1:v.oneCell'=wL):
 (b7 t.rep off (st ([]:N s.D)) [v]).p S (z,0) cs w:=by
 have⟨b,c,a,e1,m,f,j⟩:=Uc e z S w cs h;refine⟨v,O,h1,hv,?_⟩;have k:=j w ([]:N s.D) [.slice wF 0 0] (yJ.refl _ _) ⟨_,O,SlP.nil⟩;have hc:X c=1:=(Ty.l s).rep.len f;obtain⟨c0,rfl⟩:=xcT.1 hc;have:cs.set off (.slice wF 0 0)=b++[.slice wF 0 0]++a:=by simp_all
 rw[this];exact k
def zoa{S e:K->Prop}{w:wP}{n i off r:K}{t s:Ty}{g:t.D->(Ty.l s).D}{st:(Ty.l s).D->t.D->t.D}{z:t.D}{cs:N wN}{v:wN}{hv:N wN}{xs:N s.D}(o:xk n t i=Z ⟨off,.l s,g,st⟩)(h:(b7 t.rep off (st ([]:N s.D)) hv).p S (z,r) cs w)
 (A:hv[r]? =Z v) (B:∀k,S k->e k) (C:(fV (eS s.rep) xs v).p e w):t.rep.p e (st xs z) cs w:=by
 have⟨u,h1,Q,E,f⟩:=h;rw[A]at h1;cases h1;have f:=t.rep.sub f λk _=>B k;have⟨j,c,a,e1,G,H,J⟩:=Uc o (st ([]:N s.D) z) e w _ f;have⟨b,hd,q⟩:=C;have m:=J w xs b (yJ.refl _ _) q;simp only at m G;rw[show st xs (st ([]:N s.D) z)=st xs z from PF o xs ([]:N s.D) z]at m;have hc:X c=1:=(Ty.l s).rep.len H;have L:X b=1:=(eS s.rep).len q;obtain⟨c0,rfl⟩:=xcT.1 hc;obtain⟨c1,rfl⟩:=xcT.1 L;obtain rfl:v=c1:=hd;have⟨T,M⟩:=xaz.1 E;have:cs=j++[v]++a:=by
  have U:(cs.set off (.slice wF 0 0)).set off v=cs:=by rw[List.set_set,<-M,xdf]
  simp_all
 rw[this];exact m
def za8{t:Ty}{a:Fl t.D}{c:Fl a.f.D}(b:Fl.ok t a)(hc:Fl.ok a.f c):Fl.ok t (a.comp c):=λz=>(b z).comp<|hc<|a.get z
def OT{s:wT}{q:Ty}{n B i:K}{f:Fl q.D}(a:yX P cf.tt)(h:Yc cf s=Z ⟨q,.st n,B⟩)(b:xk n q i=Z f):zay P s i=Z f.off:=(a _ _ h).2.2.2.2.1 i f b
def zqQ{c:Jp}{v:V Dv}{k:Dv->V R}(h:eqP c v k=Z r):∃dv b,v=Z dv/\zd4 c b k=Z r/\∀(P:jP) vs S w u,(vC P vs dv u).p S w->∃p:V UL,u=.pointer p/\p.isNone=b:=by unfold eqP at h;split at h;exact⟨_,_,O,h,λP vs S w u a=>⟨wF,a,O⟩⟩;exact⟨_,_,O,h,λP vs S w u ⟨b,o,cs,h1,_⟩=>⟨_,h1,O⟩⟩;exact⟨_,_,O,h,λP vs S w u ⟨h1,b,e⟩=>⟨_,h1.trans e,O⟩⟩;exact⟨_,_,O,h,λP vs S w u a=>zoH a⟩;cases h
def zqh(a:yX P cf.tt)(h:zkq cf t=wL):P.underlying t=Z (.pointer<|P.pointee t):=by unfold zkq at h;split at h;rename_i q E B b;have:=(a _ _ b).2.2.2;have this:P.underlying t=Z (.pointer E):=this;rw[show P.pointee t=E by simp[Program.pointee,this]];exact this;cases h
def zrK(i:yX P cf.tt){e:Jp}{k:N (K×Dv)->V R}(hp:zkq cf t=wL)(a:zkH (xz cx σ y)=wL)(h:eqP e (xz cx σ x) (λv=>k [(0,v)])=Z r):
 ∃l,k l=Z r/\ES P ⟨d,.binOp e t x y yt,ty,pos,aft,g⟩ cx σ F l:=by
 have⟨dv,b,j,h,hv⟩:=zqQ h;have a:xz cx σ y=Z .np:=by unfold zkH at a;split at a;lia;cases a
 have ht:=zqh i hp;have go:∀{env:y6}{w:wP}{S:K->Prop}{vs:K->wN},(∀m∈yP (.binOp e t x y yt),Lk P vs env S w cx σ m)->∃p:V UL,ev env x=.pointer p/\p.isNone=b/\ev env y=.pointer wF:=λhl=>by
  have⟨p,h1,c⟩:=hv P _ _ _ _ (zj j<|yK hl<|by simp[xaB]);exact⟨p,h1,c,zj a<|yK hl<|by simp[xaB]⟩
 cases e<;>simp only[zd4,WD]at h
 case eql=>
  refine⟨[(0,.kb<|decide<|b=wL)],OE h,zG λenv w S vs hl=>⟨.bool b,?_,zu<|by simp[vC,gW]⟩⟩;have⟨p,h1,c,f⟩:=go hl;simp[jp,h1,f,WW,run_eql_pointer_nil w t p ht,c]
 case neq=>
  refine⟨[(0,.kb (!decide (b=wL)))],kbN h,zG λenv w S vs hl=>⟨.bool !b,?_,zu<|by simp[vC,gW]⟩⟩;have⟨p,h1,c,f⟩:=go hl;simp[jp,h1,f,WW,run_neq_pointer_nil w t p ht,c]
def zp6{k:N (K×Dv)->V R}(h:znf cx σ x k=Z r):∃l,k l=Z r/\ES P ⟨d,.nilCheck x,ty,pos,aft,g⟩ cx σ F l:=by
 have f:∀{env:y6}{a:UL} (w:wP),ev env x=.pointer (Z a)->(jp (ev env) ⟨d,.nilCheck x,ty,pos,aft,g⟩).run P w=.ok (.value<|ev env x) w:=λw h=>by simp[jp,h]
 unfold znf at h;split at h;rename_i s y c;refine⟨_,h,zG λenv w S vs hl=> ?_⟩;have h1:=zj c (yK hl<|by simp[xaB]);have⟨b,o,cs,e,_⟩:=h1;exact⟨_,f w e,zu<|zj c<|yK hl<|by simp[xaB]⟩;rename_i o s c;refine⟨_,h,zG λenv w S vs hl=> ?_⟩;have⟨h1,b,e⟩:=zj c (yK hl<|by simp[xaB]);exact⟨_,f w<|h1.trans e,zu<|zj c<|yK hl<|by simp[xaB]⟩;rename_i s y c;have⟨y',i,h⟩:=rV h;refine⟨_,h,zG λenv w S vs hl=> ?_⟩;have h1:(fV (eO s.rep) y<|ev env x).p S w:=zj c (yK hl<|by simp[xaB]);rw[i]at h1;have e:=zex h1;have⟨b,o,cs,j,_⟩:=e;exact⟨_,f w j,zu<|zex h1⟩;cases h
def zk5(q:yX P cf.tt){i:K}{k:N (K×Dv)->V R}(h:zae cf cx σ t x i k=Z r):∃l,k l=Z r/\ES P ⟨d,.fieldAddr t x i,ty,pos,aft,g⟩ cx σ F l:=by
 have v:∀{vs env S w},(∀A∈yP (.fieldAddr t x i),Lk P vs env S w cx σ A)->Y0 P vs env S w cx σ x:=λhl=>yK hl (by simp[xaB]);unfold zae at h;split at h;rename_i e n B s y ht hc;have⟨a,h⟩:=yr h;subst a;split at h;rename_i f c;exact⟨_,h,uG λenv w S vs D hl=>⟨_,_,_,_,[fP s.rep y<|ev env x],[],zhF (e:=s.rep) (z:=y) (OT q ht c) O (Uc c y)<|λS w h=>h.1,wR,⟨zj hc<|v hl,wR⟩,λu w' _ c=>zu c.1⟩⟩;cases h
 rename_i e n B o s ht hc;split at h;rename_i a f _ c;have⟨a⟩:=a;subst a;refine⟨_,h,zG λenv w S vs hl=> ?_⟩;have⟨h1,b,p⟩:=zj hc<|v hl;exact⟨_,oD (OT q ht c) (h1.trans p) w,zu ⟨Uc c,b,p,O⟩⟩;cases h
 rename_i e n B o s g ht hc;split at h;rename_i a f _ c;have⟨a⟩:=a;subst a;refine⟨_,h,zG λenv w S vs hl=> ?_⟩;have⟨h0,b,h1,p⟩:=zj hc<|v hl;exact⟨_,oD (OT q ht c) p w,zu ⟨za8 h0<|Uc c,b,h1,by simp only[Fl.comp,xcK]⟩⟩;cases h
 rename_i e n B o s j g ht hc;split at h;rename_i a f _ c;have⟨a⟩:=a;subst a;refine⟨_,h,zG λenv w S vs hl=> ?_⟩;have⟨h0,b,m,cap,h1,p,C⟩:=zj hc<|v hl;exact⟨_,oD (OT q ht c) C w,zu ⟨za8 h0<|Uc c,b,m,cap,h1,p,by simp only[Fl.comp,xcK]⟩⟩;cases h
 cases h
def zot(T:yX P cf.tt){k:N (K×Dv)->V R}(h:zgZ cf cx σ t x k=Z r):∃l,k l=Z r/\ES P ⟨d,.load t x,ty,pos,aft,g⟩ cx σ F l:=by
 have C:∀{vs env S w},(∀U∈yP (.load t x),Lk P vs env S w cx σ U)->Y0 P vs env S w cx σ x:=λhl=>yK hl (by simp[xaB]);unfold zgZ at h;split at h;rename_i v Y;have⟨M,hd,_⟩:=YS T Y;unfold zln at h;split at h;rename_i s y hc;have⟨a,h⟩:=yr h;simp only at a;subst a;exact⟨_,h,uG λenv w S vs n hl=>⟨_,_,_,_,[fP v.ty.rep y<|ev env x],[],zkU (e:=v.ty.rep) (y:=y) O hd<|λS w h=>h.1,wR,⟨zj hc<|C hl,wR⟩,λu w' _ i=>zu i.1⟩⟩;rename_i o s hc;split at h;rename_i D E z A;have⟨a,h⟩:=yr h;simp only at a;subst a;refine⟨_,h,uG λenv w S vs n hl=> ?_⟩;have⟨h1,b,G⟩:=zj hc<|C hl;have⟨H,q,J⟩:(mP v.ty.rep.c E (vs o) z).p S w:=ZZ n A;exact⟨_,_,_,_,[],[mB v.ty.rep.c E H z],VH (z':=z) 0 O (h1.trans q) (Sub.self v.ty.rep z) hd,⟨J,wR⟩,wR,λu w' _ i=>zu i.1⟩;cases h
 rename_i o s f hc;split at h;rename_i D E z A;have⟨L,h⟩:=yr h;subst L;have⟨a,h⟩:=yr h;simp only at a;have⟨off,ff,get,set⟩:=f;simp only at a;subst a;refine⟨_,h,uG λenv w S vs n hl=> ?_⟩;have⟨h0,b,h1,G⟩:=zj hc<|C hl;have⟨H,q,J⟩:(mP D.rep.c E (vs o) z).p S w:=ZZ n A;rw[h1]at q;cases q;exact⟨_,_,_,_,[],[mB D.rep.c E b z],VH (z':=get z) 0 O G (by rw[xaJ];exact h0 z) hd,⟨J,wR⟩,wR,λu w' _ i=>zu i.1⟩
 cases h
 rename_i o s j f hc;split at h;rename_i D E xs A;have⟨L,h⟩:=yr h;cases L;have⟨y,hy,h⟩:=xN h;have⟨a,h⟩:=yr h;simp only at a;have⟨off,ff,get,set⟩:=f;simp only at a;subst a;refine⟨_,h,uG λenv w S vs n hl=> ?_⟩;have⟨h0,b,m,cap,h1,G,q⟩:=zj hc<|C hl;have Q:(mO s.rep E (vs o) xs).p S w:=ZZ n A;have hg:0<X xs:=by
  have⟨cs,h5,h6⟩:=Q;rcases h5.2 with⟨hv,h7⟩|⟨g',B,a0,hv,_⟩
  rw[h1]at hv;cases hv
  rw[h1]at hv;cases hv;lia
 have⟨H,B,hv,hb⟩:=U2 Q hg;rw[h1]at hv;cases hv;have hi:=(Sub.rowT0 s.rep cap xs j (xs.getD j s.z)<|getD_some s.z G).comp<|h0<|xs.getD j s.z;subst hy;exact⟨_,_,_,_,[],[mB (rowT s.rep cap) E b xs],VH 0 O q hi hd,⟨hb,wR⟩,wR,λu w' _ i=>zu i.1⟩
 cases h
 cases h
 cases h
def zlQ{α:Type}(xs:N α):xs=(xs.drop 0).take (X xs-0):=mK
def zlT{α:Type}(xs:N α)(l:K):xs.drop l=(xs.drop l).take (X xs-l):=(xaW mK).symm
def zge{i off n:K}{agg:v6}{cs:ut wN}{v:wN}(h:zhI P t i=Z (off,agg,n))(b:ev env x=.agg cs)(hv:(if agg=wL then Value.agg (cs.extract off<|off+n)else cs.getD off Z0)=v)(hd:agg=I->off<cs.size)(w:wP):
 (jp (ev env) ⟨d,.field t x i,ty,pos,aft,g⟩).run P w=.ok (.value v) w:=by
 unfold zhI at h;split at h;rename_i fs c;split at h;rename_i f e;split at h;rename_i ag m j z hc;simp only[xau,xcL]at h;have⟨h1,k,l⟩:=h;subst h1;subst k;subst l;have a:=Jo.of hc;have hp:(part f.type cs f.offset).run P w=.ok v w:=by
  unfold part;simp only[xay,Hq a,xan]
  cases ag with
  |true=>
   simp only[uS,xay,wo a,xan,xaV];simp_all
  |false=>
   simp_all
 simp only[jp,b,Instr.field,asAgg,xay,ul c,xan,e,xaV,hp];cases h
 cases h
 cases h
def zoB{s:wT}{q:Ty}{n B i:K}{f:Fl q.D}(a:yX P cf.tt)(h:Yc cf s=Z ⟨q,.st n,B⟩)(b:xk n q i=Z f):zhI P s i=Z (f.off,f.f.rep.agg,f.f.n):=(a _ _ h).2.2.2.2.2.2 i f b
def zht(j:yX P cf.tt){i:K}{k:N (K×Dv)->V R}(h:IJ cf cx σ t x i k=Z r):∃l,k l=Z r/\ES P ⟨d,.field t x i,ty,pos,aft,g⟩ cx σ F l:=by
 have u:∀{vs env S w},(∀v∈yP (.field t x i),Lk P vs env S w cx σ v)->Y0 P vs env S w cx σ x:=λhl=>yK hl (by simp[xaB]);unfold IJ at h;split at h;rename_i e n B s y ht hi;have⟨z,h⟩:=yr h;subst z;split at h;rename_i f m;refine⟨_,h,zG λenv w S vs hl=> ?_⟩;have⟨cs,hv,hp⟩:=zj hi<|u hl;have A:s.rep.agg=wL:=(j _ _ ht).2.2.2.1;have⟨C,c,o,p,h1,q,_⟩:=Uc m y S w cs hp;have hc:=f.f.rep.len q;rw[Ty.n_rep]at hc;have hv:ev env x=.agg cs.toArray:=by rw[hv];unfold zT.val;rw[A];rfl
 refine⟨f.f.rep.val c,zge (zoB j ht m) hv ?_ ?_ w,zu ⟨c,O,q⟩⟩;unfold zT.val
 cases hd:f.f.rep.agg with
 |true=>
  simp_all
 |false=>
  simp only[xai,uP];have b:=f.f.rep.n1 hd;rw[Ty.n_rep]at b;obtain⟨a,rfl⟩:∃a,c=[a]:=by
   match c,hc.trans b with
   |[a],_=>exact⟨a,O⟩
  rw[p,<-h1];simp[Array.getD]
 intro hd;have b:=f.f.rep.n1 hd;rw[Ty.n_rep]at b;rw[p];simp;lia;cases h
 cases h
def dM{α:Type}{e:zT α}{E:wT}{v:wN}{xs:N α}{S:K->Prop}{w:wP}(h:(mO e E v xs).p S w):(v=.slice wF 0 0/\xs=[])\/∃b cap,v=.slice (Z ⟨b,0,wF⟩) (X xs) cap/\X xs<=cap/\cap<=9223372036854775807:=by
 have⟨cs,h1,f⟩:=h;rcases h1.2 with⟨rfl,h0⟩|⟨g,cap,a,rfl,hd,i,c,hc,j,k⟩
 simp_all;exact .inr ⟨g,cap,O,c,hc⟩
def Nx{α:Type}{e:zT α}{E:wT}{v:wN}{xs:N α}{S:K->Prop}{w:wP}(h:(mO e E v xs).p S w){b m cap l n c:K}(hv:v=.slice (Z ⟨b,0,wF⟩) m cap)(hl:l+n<=m)(hi:n<=c)(hc:c<=9223372036854775807):
 SlQ e S ((xs.drop l).take n) (.slice (Z ⟨b,0+l*e.n,wF⟩) n c) w:=by
 have⟨cs,h1,f⟩:=h;rcases h1.2 with⟨h0,_⟩|⟨g,a,i,h0,q,j,s,u,z,k⟩
 simp_all;rw[hv]at h0;cases h0;have hd:X ((xs.drop l).take n)=n:=by simp;lia
 refine⟨Z ⟨b,0+l*e.n,wF⟩,c,by rw[hd],W,by unfold V4;lia,.inr ⟨b,0+l*e.n,(cs.drop<|l*e.n).take<|n*e.n,O,?_,(f.drop l).take n⟩⟩;have o:=At.row j;have:=o.take<|X xs*e.n;rw[k]at this;exact(this.drop<|l*e.n).take<|n*e.n
def C3{t:wT}{c:wT}{ag:v6}{e bytes:K}{a:wN}{b o n cap l h:K}{lo hi:V wN}{w:wP}(ht:P.underlying t=Z (.slice c))(f:Jo P c ag e bytes a)
 (hl:lo=Z (.int .i64 (l:J))\/(lo=wF/\l=0)) (i:hi=Z (.int .i64 (h:J))\/(hi=wF/\h=n)) (hc:l<=h) (hd:h<=cap):
 (xcV t (.slice (Z ⟨b,o,wF⟩) n cap) lo hi wF).run P w=.ok (.slice (if cap=l then Z ⟨b,o,wF⟩else(Z (⟨b,o,wF⟩:UL)).map (·.add (l*e))) (h-l)<|cap-l) w:=by
 have b1:(0:J)<=(l:J)/\(l:J)<=(h:J):=W
 have b2:(0:J)<=(h:J)/\(h:J)<=(cap:J):=W
 unfold xcV;unfold xfT;simp only[xay,ul ht,xan];unfold xet
 obtain rfl|⟨rfl,rfl⟩:=hl<;>obtain rfl|⟨rfl,rfl⟩:=i<;>
  simp only[xeJ,Kw,xay,xaV,xan,iq b1,iq b2,wo f,xaZ]
def MW{t:wT}{b:wT}{ag:v6}{c bytes:K}{a:wN}{lo hi:V wN}{w:wP}(ht:P.underlying t=Z (.slice b))(e:Jo P b ag c bytes a)
 (hl:lo=Z (.int .i64 ((0:K):J))\/lo=wF) (f:hi=Z (.int .i64 ((0:K):J))\/hi=wF):
 (xcV t (.slice wF 0 0) lo hi wF).run P w=.ok (.slice wF 0 0) w:=by
 unfold xcV;unfold xfT;simp only[xay,ul ht,xan];unfold xet
 obtain rfl|rfl:=hl<;>obtain rfl|rfl:=f<;>
  simp[xeJ,Kw,wo e]
def LO{m:K}{lo hi:V K}{k:K->K->V R}(h:zjd m lo hi k=Z r):∃l a,l<=a/\a<=m/\k l (a-l)=Z r/\(lo=Z l\/(lo=wF/\l=0))/\(hi=Z a\/(hi=wF/\a=m)):=by
 unfold zjd at h;split at h
 next a=>have⟨h1,b⟩:=ZO h;exact⟨0,a,xae _,h1,b,.inr ⟨O,O⟩,.inl O⟩
 next l=>have⟨h1,b⟩:=ZO h;exact⟨l,m,h1,So _,b,.inl O,.inr ⟨O,O⟩⟩
 next l a=>have⟨h1,b⟩:=ZO h;exact⟨l,a,h1.1,h1.2,b,.inl O,.inl O⟩
 exact⟨0,m,xae _,So _,h,.inr ⟨O,O⟩,.inr ⟨O,O⟩⟩
def Tc{t:wT}{s:Wt}{l h:K}{lo hi:V wN}{w:wP}(ht:P.underlying t=Z .string)
 (hl:lo=Z (.int .i64 (l:J))\/(lo=wF/\l=0)) (a:hi=Z (.int .i64 (h:J))\/(hi=wF/\h=s.size)) (b:l<=h) (hc:h<=s.size):
 (xcV t (.string s) lo hi wF).run P w=.ok (.string<|s.extract l h) w:=by
 have b1:(0:J)<=(l:J)/\(l:J)<=(h:J):=W
 have b2:(0:J)<=(h:J)/\(h:J)<=(s.size:J):=W
 unfold xcV;unfold xfT;simp only[xay,ul ht,xan];unfold xet
 obtain rfl|⟨rfl,rfl⟩:=hl<;>obtain rfl|⟨rfl,rfl⟩:=a<;>
  simp[xeJ,Kw,b,hc]
def Cz(s:Wt)(l h:K):xO (s.extract l h)=((xO s).drop l).take (h-l):=by simp_all [xO]
def zjy(T:yX P cf.tt)(hL:kZ P cf.tt){lo hi:V wW}{k:N (K×Dv)->V R}(h:zaG cf cx σ t x lo hi k=Z r):∃l,k l=Z r/\ES P ⟨d,.slice t x lo hi wF,ty,pos,aft,g⟩ cx σ F l:=by
 have hx:∀{vs env S w},(∀G∈yP (.slice t x lo hi wF),Lk P vs env S w cx σ G)->Y0 P vs env S w cx σ x:=λhl=>yK hl (by simp[xaB]);have hd:∀{vs env S w z},lo=Z z->(∀G∈yP (.slice t x lo hi wF),Lk P vs env S w cx σ G)->Y0 P vs env S w cx σ z:=λe hl=>yK hl (by simp[xaB,e]);have U:∀{vs env S w z},hi=Z z->(∀G∈yP (.slice t x lo hi wF),Lk P vs env S w cx σ G)->Y0 P vs env S w cx σ z:=λe hl=>yK hl (by simp[xaB,e]);unfold zaG at h;split at h;rename_i e E B s xs ht hg;have⟨hn,h⟩:=yr h;cases hn;have⟨bytes,a0,hm⟩:=K2 T hL ht
 have A:∀{l m:K}{zs:N e.D},l<=m->m<=xaI xs->zs=(xdO l xs).take (m-l)->(∀vs env S w,(∀G∈yP (.slice t x lo hi wF),Lk P vs env S w cx σ G)->((lo.map<|ev env)=Z (.int .i64 (l:J))\/(lo=wF/\l=0))/\((hi.map<|ev env)=Z (.int .i64 (m:J))\/(hi=wF/\m=xaI xs)))->
  k [(0,.d (.l e) zs)]=Z r->∃l,k l=Z r/\ES P ⟨d,.slice t x lo hi wF,ty,pos,aft,g⟩ cx σ F l:=by
  intro l m zs h1 a i j C;subst i;refine⟨_,C,uG λenv w S vs hM hl=> ?_⟩;have⟨Y,Q⟩:=j vs env S w hl;exact⟨_,_,_,_,[fV (eS e.rep) xs<|ev env x],[],O7 (e:=e.rep) (xs:=xs) (l:=l) (h:=m) O (qB T ht) hm Y Q h1 a<|λS w h=>h.1,wR,⟨zj hg<|hx hl,wR⟩,λu w' _ hf=>zu hf.1⟩
 rcases UI h with⟨e1,h1⟩|⟨zl,l,e1,h1,hc⟩
 rcases UI h1 with⟨f,a⟩|⟨zh,m,f,a,H⟩
 exact A (l:=0) (m:=xaI xs) (xae _) (So _) (zlQ (α:=e.D) xs) (λvs env S w hl=>⟨.inr ⟨e1,O⟩,.inr ⟨f,O⟩⟩) a;have⟨i,j⟩:=ZO a;have⟨zs,L,C⟩:=xN j;exact A (l:=0) (m:=m) (xae _) i L (λvs env S w hl=>⟨.inr ⟨e1,O⟩,.inl<|by rw[f];exact uL Z<|H P vs env S w<|U f hl⟩) C;rcases UI h1 with⟨f,a⟩|⟨zh,m,f,a,H⟩
 have⟨i,j⟩:=ZO a;have⟨zs,L,C⟩:=xN j;exact A (l:=l) (m:=xaI xs) i (So _) (L.trans<|zlT (α:=e.D) xs l) (λvs env S w hl=>⟨.inl (by rw[e1];exact uL Z<|hc P vs env S w<|hd e1 hl),.inr ⟨f,O⟩⟩) C;have⟨i,j⟩:=ZO a;have⟨zs,L,C⟩:=xN j;exact A (l:=l) (m:=m) i.1 i.2 L (λvs env S w hl=>⟨.inl (by rw[e1];exact uL Z<|hc P vs env S w<|hd e1 hl),.inl<|by rw[f];exact uL Z<|H P vs env S w<|U f hl⟩) C;rename_i e E B o ht hg;split at h;rename_i s E' xs ho;have⟨hn,h⟩:=yr h;cases hn;have⟨bytes,a0,hm⟩:=K2 T hL ht
 have M:∀(l m:K),l<=m->m<=xaI xs->k [(0,.sv o e l<|m-l)]=Z r->(∀vs env S w,(∀G∈yP (.slice t x lo hi wF),Lk P vs env S w cx σ G)->((lo.map<|ev env)=Z (.int .i64 (l:J))\/(lo=wF/\l=0))/\((hi.map<|ev env)=Z (.int .i64 (m:J))\/(hi=wF/\m=xaI xs)))->
  ∃l,k l=Z r/\ES P ⟨d,.slice t x lo hi wF,ty,pos,aft,g⟩ cx σ F l:=by
  intro l m h1 a C j;refine⟨_,C,λenv w S vs hS hM hl=> ?_⟩;have⟨Y,Q⟩:=j vs env S w hl;have hp:ev env x=vs o:=zj hg<|hx hl;rcases dM (show(mO e.rep E' (vs o) xs).p S w from ZZ hM ho)with⟨hv,hj⟩|⟨b,cap,hv,hu,hy⟩
  refine(O7 (e:=e.rep) (xs:=([]:N e.D)) (l:=l) (h:=m) O (qB T ht) hm Y (by rw[hj]at Q;exact Q) h1 (by rw[hj]at a;exact a) (Γ:=[fV (eS e.rep) ([]:N e.D)<|ev env x]) (λS w h=>h.1) (ms:=[]) w S hS wR ⟨?_,wR⟩).mono ?_;rw[hp,hv];exact wb.2 ⟨wF,0,O,So _,xae _,.inl O⟩;rintro v w' ⟨u,rfl,_,hw,hf⟩;refine⟨hw,zu (.inr ?_)⟩;have hA:m=0:=by rw[hj]at a;exact Nat.le_zero.1 a
  have⟨ao,c,q1,q2,q3,_⟩:=wb.1 hf.1;refine⟨W,ao,c,by unfold V4 at q3;lia,?_⟩;rw[q1];simp;have hr:=C3 (P:=P) (b:=b) (o:=0) (n:=xaI xs) (cap:=cap) (w:=w) (l:=l) (h:=m) (qB T ht) hm (Y.imp id λq=>⟨by rw[q.1];rfl,q.2⟩) (Q.imp id λq=>⟨by rw[q.1];rfl,q.2⟩) h1<|xal a hu;rw[<-hv,<-hp]at hr;refine ui.of_value (v:=.slice (if cap=l then Z ⟨b,0,wF⟩else Z ((⟨b,0,wF⟩:UL).add<|l*e.rep.n)) (m-l)<|cap-l) (w':=w) (by simp[jp,hr]) ⟨yJ.refl _ _,zu ?_⟩;by_cases hq:cap=l;rw[iq hq];refine .inr ⟨W,Z ⟨b,0,wF⟩,cap-l,W,?_⟩;rw[(W:m-l=0)];rw[ir hq];exact .inl ⟨b,xaI xs,cap,cap-l,hv,W,W,W,by rw[jb]⟩
 rcases UI h with⟨e1,h1⟩|⟨zl,l,e1,h1,hc⟩
 rcases UI h1 with⟨f,a⟩|⟨zh,m,f,a,H⟩
 exact M 0 (xaI xs) (xae _) (So _) a<|λvs env S w hl=>⟨.inr ⟨e1,O⟩,.inr ⟨f,O⟩⟩;have⟨i,j⟩:=ZO a;exact M 0 m (xae _) i j<|λvs env S w hl=>⟨.inr ⟨e1,O⟩,.inl<|by rw[f];exact uL Z<|H P vs env S w<|U f hl⟩;rcases UI h1 with⟨f,a⟩|⟨zh,m,f,a,H⟩
 have⟨i,j⟩:=ZO a;exact M l (xaI xs) i (So _) j<|λvs env S w hl=>⟨.inl (by rw[e1];exact uL Z<|hc P vs env S w<|hd e1 hl),.inr ⟨f,O⟩⟩;have⟨i,j⟩:=ZO a;exact M l m i.1 i.2 j<|λvs env S w hl=>⟨.inl (by rw[e1];exact uL Z<|hc P vs env S w<|hd e1 hl),.inl<|by rw[f];exact uL Z<|H P vs env S w<|U f hl⟩;cases h
 rename_i q B xs ht hg
 have A:∀{l m:K}{zs:N K},l<=m->m<=xaI xs->zs=(xdO l xs).take (m-l)->(∀vs env S w,(∀G∈yP (.slice t x lo hi wF),Lk P vs env S w cx σ G)->((lo.map<|ev env)=Z (.int .i64 (l:J))\/(lo=wF/\l=0))/\((hi.map<|ev env)=Z (.int .i64 (m:J))\/(hi=wF/\m=xaI xs)))->
  k [(0,.d .tx zs)]=Z r->∃l,k l=Z r/\ES P ⟨d,.slice t x lo hi wF,ty,pos,aft,g⟩ cx σ F l:=by
  intro l m zs h1 a i j C;refine⟨_,C,zG λenv w S vs hl=> ?_⟩;have⟨Y,Q⟩:=j vs env S w hl;have⟨s,e1,f,e3⟩:=zcB<|zj hg<|hx hl;have hk:X (xO s)=s.size:=ua s;rw[f]at hk;have hr:=Tc (P:=P) (s:=s) (l:=l) (h:=m) (w:=w) (IG T ht) (Y.imp id λq=>⟨by rw[q.1];rfl,q.2⟩) (Q.imp id λq=>⟨by rw[q.1];rfl,by rw[q.2];exact hk⟩) h1 (by rw[<-hk];exact a);rw[<-e1]at hr;refine⟨.string<|s.extract l m,by simp[jp,hr],zu<|zbT (by rw[Cz,f,i]) ?_⟩;rw[<-ua,Cz,f];have a:m<=xaI (α:=K) xs:=a;rw[xar];lia
 rcases UI h with⟨e1,h1⟩|⟨zl,l,e1,h1,hc⟩
 rcases UI h1 with⟨f,a⟩|⟨zh,m,f,a,H⟩
 exact A (l:=0) (m:=xaI (α:=K) xs) (xae _) (So _) (zlQ (α:=K) xs) (λvs env S w hl=>⟨.inr ⟨e1,O⟩,.inr ⟨f,O⟩⟩) a;have⟨i,j⟩:=ZO a;have⟨zs,L,C⟩:=xN j;exact A (l:=0) (m:=m) (xae _) i L (λvs env S w hl=>⟨.inr ⟨e1,O⟩,.inl<|by rw[f];exact uL Z<|H P vs env S w<|U f hl⟩) C;rcases UI h1 with⟨f,a⟩|⟨zh,m,f,a,H⟩
 have⟨i,j⟩:=ZO a;have⟨zs,L,C⟩:=xN j;exact A (l:=l) (m:=xaI (α:=K) xs) i (So _) (L.trans<|zlT (α:=K) xs l) (λvs env S w hl=>⟨.inl (by rw[e1];exact uL Z<|hc P vs env S w<|hd e1 hl),.inr ⟨f,O⟩⟩) C;have⟨i,j⟩:=ZO a;have⟨zs,L,C⟩:=xN j;exact A (l:=l) (m:=m) i.1 i.2 L (λvs env S w hl=>⟨.inl (by rw[e1];exact uL Z<|hc P vs env S w<|hd e1 hl),.inl<|by rw[f];exact uL Z<|H P vs env S w<|U f hl⟩) C;cases h
def zpy(f:yX P cf.tt){k:N (K×Dv)->V R}(h:zmN cf cx σ t x y k=Z r):∃l,k l=Z r/\ES P ⟨d,.index t x y,ty,pos,aft,g⟩ cx σ F l:=by
 have i:∀{vs env S w},(∀a∈yP (.index t x y),Lk P vs env S w cx σ a)->Y0 P vs env S w cx σ x:=λhl=>yK hl (by simp[xaB]);have m:∀{vs env S w},(∀a∈yP (.index t x y),Lk P vs env S w cx σ a)->Y0 P vs env S w cx σ y:=λhl=>yK hl (by simp[xaB]);unfold zmN at h;split at h;rename_i q B xs ht n;have⟨j,o,h,hi⟩:=SF h;have⟨z,p,h⟩:=xN h;refine⟨_,h,zG λenv w S vs hl=> ?_⟩;have⟨s,e1,c,_⟩:=zcB<|zj n<|i hl;have⟨ik,u⟩:=hi P vs env S w<|m hl;have e:X (xO s)=s.size:=ua s;have hc:j<s.size:=by rw[<-e,c];exact o
 have hd:z=(s[j]'hc).toNat:=by rw[p,<-c];unfold xO;rw[UV,xbX,xab<|by rw[<-e]at hc;simpa[xO]using hc];rfl
 have b:=run_index_string (P:=P) w t s ik (j:J)<|IG f ht;rw[dif_pos ⟨W,W⟩]at b;refine⟨.int .u8 (z:J),?_,zu<|Hs<|by rw[hd];exact UInt8.toNat_lt _⟩;simp only[xaZ]at b;rw[hd];simp[jp,e1,u,b];cases h
def zpV{E:wT}{k:N (K×Dv)->V R}(h:zoP cf cx σ E x k=Z r):∃l,k l=Z r/\ES P ⟨d,.box E x,ty,pos,aft,g⟩ cx σ F l:=by unfold zoP at h;split at h;rename_i a e;have⟨y,h,b⟩:=VN h;exact⟨_,h,uG λenv w S vs f hl=>⟨_,_,_,_,[fV a.ty.rep y<|ev env x],[],zmB O<|λS w h=>h.1,wR,⟨b P vs env S w (yK hl<|by simp[xaB]),wR⟩,λu w' _ c=>zu c.1⟩⟩;cases h
def zqH(j:yX P cf.tt){a:ut wW}{ts:ut wT}{k:N (K×Dv)->V R}(h:znA cf cx σ a.toList ts.toList k=Z r):
 ∃l,k l=Z r/\ES P ⟨d,.call ⟨.builtin .len,a,ts⟩,ty,pos,aft,g⟩ cx σ F l:=by
 unfold znA at h;split at h;rename_i _ _ x t hd C;obtain rfl:a= #[x]:=by cases a;simp_all
 obtain rfl:ts= #[t]:=by cases ts;simp_all
 have f:∀{vs env S w},(∀n∈yP (.call ⟨.builtin .len,#[x],#[t]⟩),Lk P vs env S w cx σ n)->Y0 P vs env S w cx σ x:=λhl=>yK hl (by simp[xaB,xeH]);split at h;rename_i e E B ht;have c:=qB j ht;split at h
 next b=>exact⟨_,h,zG λenv w S vs hl=>⟨_,RU c (zj b<|f hl) w,zu<|wQ mD⟩⟩
 rename_i s xs b;exact⟨_,h,uG λenv w S vs m hl=>⟨_,_,_,_,[fV (eS s.rep) xs<|ev env x],[],zou (e:=s.rep) (xs:=xs) c O<|λS w h=>h.1,wR,⟨zj b<|f hl,wR⟩,λu w' i p=>zu<|wQ<|P8 i⟩⟩;rename_i o b;split at h;rename_i s v xs z;exact⟨_,h,uG λenv w S vs m hl=>⟨_,_,_,_,[],[mO s.rep v (vs o) xs],NN 0 O c<|zj b<|f hl,⟨ZZ m z,wR⟩,wR,λu w' i p=>zu<|wQ<|P8 i⟩⟩;cases h
 cases h
 rename_i q B ht;have c:=IG j ht;split at h;rename_i xs b;refine⟨_,h,zG λenv w S vs hl=> ?_⟩;have⟨s,e1,A,D⟩:=zcB<|zj b<|f hl;have hc:X (xO s)=s.size:=ua s;rw[A]at hc;have hc:xaI (α:=K) xs=s.size:=hc;refine⟨.int .i64 ((xaI (α:=K) xs:K):J),?_,zu<|wQ W⟩;rw[hc];simp[jp,Ws,WP,Ut,e1,Builtin.len_,i8,ul c];cases h
 cases h
 cases h
def zpY{b:v6}{e:ut wW}{ts:ut wT}{k:N (K×Dv)->V R}(h:eMM cx b σ e.toList k=Z r):
 ∃l,k l=Z r/\ES P ⟨d,.call ⟨.builtin (if b=wL then .max else .min),e,ts⟩,ty,pos,aft,g⟩ cx σ F l:=by
 unfold eMM at h;split at h;rename_i _ x y hd;obtain rfl:e= #[x,y]:=by cases e;simp_all
 have i:∀{bl vs env S w},(∀n∈yP (.call ⟨.builtin bl,#[x,y],ts⟩),Lk P vs env S w cx σ n)->Y0 P vs env S w cx σ x:=λhl=>yK hl (by simp[xaB,xeH]);have j:∀{bl vs env S w},(∀n∈yP (.call ⟨.builtin bl,#[x,y],ts⟩),Lk P vs env S w cx σ n)->Y0 P vs env S w cx σ y:=λhl=>yK hl (by simp[xaB,xeH]);split at h;rename_i a c m hc;cases b
 have h:B (min (α:=J) a c) (λz=>k [(0,zoQ z)])=Z r:=h;have⟨z,f,h⟩:=xN h;exact⟨_,h,zG λenv w S vs hl=>⟨_,v_i (zpX (w6 m<|i hl).1 (w6 hc<|j hl).1) f w,zu<|wQ<|ziD f<|zqy (w6 m<|i hl).2 (w6 hc<|j hl).2⟩⟩;have h:B (max (α:=J) a c) (λz=>k [(0,zoQ z)])=Z r:=h;have⟨z,f,h⟩:=xN h;exact⟨_,h,zG λenv w S vs hl=>⟨_,v_i (zpv (w6 m<|i hl).1 (w6 hc<|j hl).1) f w,zu<|wQ<|ziD f<|zrb (w6 m<|i hl).2 (w6 hc<|j hl).2⟩⟩;cases h
 cases h
end
end
section
def PH(S:K->Prop)(w:wP):(ts:N Ty)->nU ts->N (K×wN)->Prop
 |[],_,[]=>Xs
 |t::ts,y,(_,v)::r=>(fV t.rep y.1 v).p S w/\PH S w ts y.2 r
 |_,_,_=>KW
def PH.keep{S:K->Prop}{w w':wP}(k:yJ S w w'):∀{ts:N Ty}{ys:nU ts}{ps:N (K×wN)},PH S w ts ys ps->PH S w' ts ys ps
 |[],_,[],h=>trivial
 |t::_,y,(_,v)::_,h=>⟨(fV t.rep y.1 v).keep h.1 k,PH.keep k h.2⟩
 |[],_,_::_,h=>h.elim
 |_::_,_,[],h=>h.elim
def PH.sub{S a:K->Prop}{w:wP}(k:∀k,k<w.heap.size->S k->a k):∀{ts:N Ty}{ys:nU ts}{ps:N (K×wN)},PH S w ts ys ps->PH a w ts ys ps
 |[],_,[],h=>trivial
 |t::_,y,(_,v)::_,h=>⟨(fV t.rep y.1 v).sub h.1 k,PH.sub k h.2⟩
 |[],_,_::_,h=>h.elim
 |_::_,_,[],h=>h.elim
def phF(ts:N Ty)(ys:nU ts)(ps:N (K×wN)):FF:=⟨λS w=>PH S w ts ys ps,λh k=>PH.keep k h,λh k=>PH.sub k h⟩
section
variable{P:jP}{cf:Cf}{cx σ:Sg}{F:xS MF}{vs:wr->wN}{env:y6}{S:wr->Prop}{w:wP}{R:Type}{r:R}
 {d:ww Z4}{ty t yt:wT}{pos:String}{aft:ut Edge}{g:ww (wr×v6)}{x y:wW}
def nZ:∀{ts:N Ty}{ps:N (K×wW)}{j:K}{k:nU ts->V R},parts cx σ ts ps j k=Z r->
 ∃ys,k ys=Z r/\ps.map (·.1)=xfv j (X ps)/\∀(P:jP) vs env S w,(∀x∈ps.map (·.2),Y0 P vs env S w cx σ x)->PH S w ts ys (ps.map λq:K×wW=>(q.1,ev env q.2))
 |[],[],j,k,h=>⟨(),h,O,λ_ _ _ _ _ _=>wR⟩
 |t::ts,(i,x)::ps,j,k,h=>by
  have⟨a,h⟩:=yf h;have⟨y,h,b⟩:=VN h;have⟨ys,h1,c,e⟩:=nZ h;refine⟨(y,ys),h1,?_,λP vs env S w hl=>⟨b P vs env S w<|hl x<|IR,e P vs env S w λz f=>hl z<|FS _ f⟩⟩;simp only[xbQ,xaw,List.range'_succ,c,zY a]
 |[],_::_,j,k,h=>by simp[parts]at h
 |_::_,[],j,k,h=>by simp[parts]at h
def zmj{i:K}{v:wN}:jz [(i,v)]=v.cells.toList:=by simp[jz]
def zsn{k:K}{s t:Ty}:xk (k+2) (.p s t) 0=Z ⟨0,s,λz=>z.1,λy z=>(y,z.2)⟩:=O
def zr4{k:K}{s t:Ty}{i:K}{f:Fl t.D}(h:xk (k+1) t i=Z f):xk (k+2) (.p s t) (i+1)=Z ⟨s.n+f.off,f.f,λz=>f.get z.2,λy z=>(z.1,f.set y z.2)⟩:=by simp only[xk,h]
def zfJ{pl:ut (K×K)}:∀{k:K}{t:Ty}{o j:K}{ys:nU (zcH k t)}{ps:N (K×wN)}{z:t.D},(∀i f,xk k t i=Z f->pl[j+i]? =Z (o+f.off,f.f.n))->
 ps.map (·.1)=xfv j (X ps)->PH S w (zcH k t) ys ps->eG k t ys=Z z->aY (pl[·]?) ps o/\t.rep.p S z (jz ps) w
 |0,_,_,_,_,_,_,_,_,_,h=>by simp[eG]at h
 |1,t,o,j,ys,[],z,hp,hi,h,c=>h.elim
 |1,t,o,j,ys,[(i,v)],z,hp,hi,h,c=>by
  simp only[eG,xau]at c;subst c;have q:i=j:=by simpa using hi
  subst q;have h0:=hp 0 (Fl.self t) O;have e:=zcd h.1;rw[t.n_rep]at e;refine⟨⟨?_,wR⟩,by rw[zmj];exact Z6 h.1⟩;show pl[i]? =_;rw[e];simpa[Fl.self]using h0
 |1,t,o,j,ys,_::_::_,z,hp,hi,h,c=>h.2.elim
 |k+2,.p s t,o,j,ys,[],z,hp,hi,h,c=>h.elim
 |k+2,.p s t,o,j,ys,(i,v)::ps,z,hp,hi,h,c=>by
  unfold eG at c;split at c;rename_i y A
  obtain rfl:=xdW c;simp only[xbQ,xaw,List.range'_succ,xdX]at hi;obtain⟨rfl,hi⟩:=hi;have h0:=hp 0 _ zsn;have e:=zcd h.1;rw[s.n_rep]at e;have⟨h1,B⟩:=zfJ (o:=o+s.n) (j:=i+1) (pl:=pl) (λm f C=>by
   have:=hp (m+1) _<|zr4 C;rw[(W:i+1+m=i+(m+1)),this];simp only[xcK]) hi h.2 A
  refine⟨⟨?_,by rw[e];exact h1⟩,?_⟩;show pl[i]? =_;rw[e];simpa using h0;rw[zd6];exact⟨_,_,O,Z6 h.1,B⟩;cases c
 |k+2,.i,_,_,_,_,_,_,_,_,h=>by simp[eG]at h
 |k+2,.u,_,_,_,_,_,_,_,_,h=>by simp[eG]at h
 |k+2,.b,_,_,_,_,_,_,_,_,h=>by simp[eG]at h
 |k+2,.l _,_,_,_,_,_,_,_,_,h=>by simp[eG]at h
 |k+2,.a _ _,_,_,_,_,_,_,_,_,h=>by simp[eG]at h
def HB(S:K->Prop)(w:wP)(n:K)(t:Ty):N (K×wN)->t.D->t.D->Prop
 |[],z,z'=>z=z'
 |(i,v)::r,z,z'=>∃(f:Fl t.D) (y:f.f.D),xk n t i=Z f/\(fV f.f.rep y v).p S w/\HB S w n t r (f.set y z) z'
def HB.keep{S:K->Prop}{w w':wP}(k:yJ S w w'){n:K}{t:Ty}:∀{vs:N (K×wN)}{z z':t.D},HB S w n t vs z z'->HB S w' n t vs z z'
 |[],_,_,h=>h
 |_::_,_,_,⟨f,y,h1,a,b⟩=>⟨f,y,h1,(fV f.f.rep y _).keep a k,HB.keep k b⟩
def HB.sub{S a:K->Prop}{w:wP}(k:∀k,k<w.heap.size->S k->a k){n:K}{t:Ty}:∀{vs:N (K×wN)}{z z':t.D},HB S w n t vs z z'->HB a w n t vs z z'
 |[],_,_,h=>h
 |_::_,_,_,⟨f,y,h1,b,c⟩=>⟨f,y,h1,(fV f.f.rep y _).sub b k,HB.sub k c⟩
def hbF(n:K)(t:Ty)(vs:N (K×wN))(z z':t.D):FF:=⟨λS w=>HB S w n t vs z z',λh k=>HB.keep k h,λh k=>HB.sub k h⟩
def HB.fill{S:K->Prop}{w:wP}{n:K}{t:Ty}{pl:ut (K×K)}(hp:∀i f,xk n t i=Z f->pl[i]? =Z (f.off,f.f.n)):∀{vs:N (K×wN)}{z z':t.D}{cs:N wN},HB S w n t vs z z'->t.rep.p S z cs w->
 ∃out,xdJ (pl[·]?) cs.toArray vs=Z out.toArray/\t.rep.p S z' out w/\∀j g,xk n t j=Z g->(∀p∈vs,p.1≠j)->g.f.n=1->out[g.off]? =cs[g.off]?
 |[],z,z',cs,h,hc=>⟨cs,O,h▸hc,λ_ _ _ _ _=>O⟩
 |(i,v)::r,z,z',cs,⟨f,y,h1,a,o⟩,hc=>by
  have⟨q,c,b,e1,s,e,u⟩:=Uc h1 z S w cs hc;have hv:=Z6 a;have k:=zcd a;have⟨out,A,B,C⟩:=HB.fill hp o<|u w y v.cells.toList (yJ.refl _ _) hv;refine⟨out,?_,B,λj g l m E=> ?_⟩;rw[e1,zcR (by rw[hp i f h1,k,f.f.n_rep]) s<|by rw[f.f.rep.len e,k]];exact A;rw[C j g l (λp hp=>m p<|FS _ hp) E,e1];have⟨_,_,hd⟩:=DX h1 l<|m (i,v)<|IR;have l1:X c=f.f.n:=by rw[f.f.rep.len e,f.f.n_rep]
  have G:X v.cells.toList=f.f.n:=by rw[f.f.rep.len hv,f.f.n_rep]
  obtain hd|hd:=hd
  rw[xaq,xaq,xbb W,xbb W];rw[xbr (by rw[xat];lia),xbr (by rw[xat];lia),xat,xat,l1,G]
def Tz{n:K}{t:Ty}:∀{ps:N (K×wW)}{z:t.D}{k:t.D->V R},zfC cx σ n t ps z k=Z r->
 ∃z',k z'=Z r/\∀(P:jP) vs env S w,(∀x∈ps.map (·.2),Y0 P vs env S w cx σ x)->HB S w n t (ps.map λq:K×wW=>(q.1,ev env q.2)) z z'
 |[],z,k,h=>⟨z,h,λ_ _ _ _ _ _=>O⟩
 |(i,x)::ps,z,k,h=>by
  unfold zfC at h;split at h;rename_i f a;have⟨y,h,b⟩:=VN h;have⟨z',h1,c⟩:=Tz h;exact⟨z',h1,λP vs env S w hl=>⟨f,y,a,b P vs env S w<|hl x<|IR,c P vs env S w λz e=>hl z<|FS _ e⟩⟩;cases h
def ib:∀(n:K) (t:Ty) (ys:nU (Ft n t)),X (Ck n t ys)=n
 |0,_,_=>rfl
 |n+1,t,ys=>uL (· +1)<|ib n t ys.2
theorem IA{t:Ty}:∀{n j:K}{ys:nU (Ft n t)}{ps:N (K×wN)},ps.map (·.1)=xfv j (X ps)->PH S w (Ft n t) ys ps->
 aY (λi=>Z (i*t.rep.n,t.rep.n)) ps (j*t.rep.n)/\yT t.rep S (Ck n t ys) (jz ps) w
 |0,_,_,[],_,_=>⟨wR,O⟩
 |0,_,_,_::_,_,h=>h.elim
 |n+1,_,_,[],_,h=>h.elim
 |n+1,j,ys,(i,v)::ps,hi,h=>by
  simp only[xbQ,xaw,List.range'_succ,xdX]at hi;obtain⟨rfl,hi⟩:=hi;have a:=zcd h.1;have⟨h1,b⟩:=IA hi h.2;refine⟨⟨by rw[a],?_⟩,?_⟩;grind;skip;exact⟨_,_,O,Z6 h.1,b⟩
def zkc(c:yX P cf.tt){ps:ut (K×wW)}{k:N (K×Dv)->V R}(h:zaS cf cx σ t ps.toList k=Z r):∃l,k l=Z r/\ES P ⟨d,.build t ps,ty,pos,aft,g⟩ cx σ F l:=by
 unfold zaS at h;split at h;rename_i e n B ht;have⟨m,hd,A,D⟩:=YS c ht;have⟨p,_,⟨fs,M,pl,Q,G⟩,_⟩:=(c _ _ ht).2.2.2;simp only at hd A D p G;cases hc:xda (X ps.toList) n||xaf n 0<;>rw[hc]at h
 have⟨ys,h,hi,hp⟩:=nZ h;split at h;rename_i z U;refine⟨_,h,uG λenv w S vs T hl=> ?_⟩;have H:=hp P vs env S w λx s=>yK hl (by simpa[xaB]using s);have J:(ps.toList.map λq:K×wW=>(q.1,ev env q.2)).map (·.1)=xfv 0 (X (ps.toList.map λq:K×wW=>(q.1,ev env q.2))):=by rw[xdg,xav];exact hi
 have v:=λ(S:K->Prop) (w:wP) (h:PH S w (zcH n e) ys (ps.toList.map λq:K×wW=>(q.1,ev env q.2)))=>zfJ (pl:=pl) (o:=0) (j:=0) (λi f b=>by rw[xaJ,xaJ];exact G i f b) J h U;exact⟨_,_,_,_,[phF _ ys (ps.toList.map λq:K×wW=>(q.1,ev env q.2))],[],SE (e:=e.rep) (z:=z) (parts:=ps.toList) (p▸hd) p A O (.inl ⟨fs,M,pl,Q,λS w h=>(v S w h.1).1⟩)<|λS w h=>(v S w h.1).2,wR,⟨H,wR⟩,λu w' _ b=>zu b.1⟩;cases h
 have⟨z,h,Y⟩:=Tz h;refine⟨_,h,uG λenv w S vs T hl=> ?_⟩;have hb:=Y P vs env S w λx s=>yK hl (by simpa[xaB]using s);exact⟨_,_,_,_,[hbF n e (ps.toList.map λq:K×wW=>(q.1,ev env q.2)) e.z z],[],HN (e:=e.rep) (z0:=e.z) (z:=z) (parts:=ps.toList) (p▸hd) p D ⟨fs,M,Q⟩ O (λ_=>Xs) (λS w h cs _ hc=>by have⟨out,q1,q2,_⟩:=HB.fill G h.1 hc;exact⟨out,q1,q2,wR⟩),wR,⟨hb,wR⟩,λu w' _ b=>zu b.1⟩;rename_i n e C E B ht;have⟨L,h⟩:=yf h;rw[xad]at L;have hn:=zY L.1;subst hn;have⟨b2,z2,hv⟩:=zgA c L.2;have⟨ys,h,hi,hp⟩:=nZ h;have⟨m,hd,A,D⟩:=YS c ht;refine⟨_,h,uG λenv w S vs T hl=> ?_⟩;have H:=hp P vs env S w λx s=>yK hl (by simpa[xaB]using s);have J:(ps.toList.map λq:K×wW=>(q.1,ev env q.2)).map (·.1)=xfv 0 (X (ps.toList.map λq:K×wW=>(q.1,ev env q.2))):=by rw[xdg,xav];exact hi
 have v:=λ(S:K->Prop) (w:wP) (h:PH S w (Ft C e) ys (ps.toList.map λq:K×wW=>(q.1,ev env q.2)))=>IA J h;exact⟨_,_,_,_,[phF _ ys (ps.toList.map λq:K×wW=>(q.1,ev env q.2))],[],SE (e:=(Ty.a C e).rep) (z:=Ck C e ys) (parts:=ps.toList) hd O A O (.inr ⟨_,_,_,_,_,_,zhy c ht,hv,λS w h=>by have:=(v S w h.1).1;rwa[xcC]at this⟩)<|λS w h=>⟨ib C e ys,(v S w h.1).2⟩,wR,⟨H,wR⟩,λu w' _ b=>zu b.1⟩;cases h
def ziM{s E:wT}{e:Ty}{B:K}(a:yX P cf.tt)(b:kZ P cf.tt)(h:Yc cf s=Z ⟨.l e,.sl E,B⟩):0<e.rep.n:=by obtain⟨c,h1,rfl⟩:=b _ _ _ _ h;exact(a _ _ h1).2.2.1
def zpr(b:yX P cf.tt)(c:kZ P cf.tt){n:K}{ps:ut (K×wW)}{k:N (K×Dv)->V R}(h:zoN cf cx σ t n ps.toList k=Z r):∃l,k l=Z r/\ES P ⟨d,.buildSlice t n ps,ty,pos,aft,g⟩ cx σ F l:=by
 unfold zoN at h;split at h;rename_i e E B ht;have⟨a,h⟩:=yf h;have a:=xbH a;rw[<-e.n_rep]at a;have⟨ys,h,hd,j⟩:=nZ h;have⟨bytes,f,m⟩:=K2 b c ht;refine⟨_,h,uG λenv w S vs s hl=> ?_⟩;have hi:=j P vs env S w λx o=>yK hl (by simpa[xaB]using o);have hc:(ps.toList.map λq:K×wW=>(q.1,ev env q.2)).map (·.1)=xfv 0 (X (ps.toList.map λq:K×wW=>(q.1,ev env q.2))):=by rw[xdg,xav];exact hd
 have i:=λ(S:K->Prop) (w:wP) (h:PH S w (Ft n e) ys (ps.toList.map λq:K×wW=>(q.1,ev env q.2)))=>IA hc h;exact⟨_,_,_,_,[phF _ ys (ps.toList.map λq:K×wW=>(q.1,ev env q.2))],[],Gb (qB b ht) m (ziM b c ht) (ib n e ys) a O (λS w h=>by have:=(i S w h.1).1;rwa[xcC]at this)<|λS w h=>(i S w h.1).2,wR,⟨hi,wR⟩,λu w' _ p=>zu p.1⟩;cases h
def zaj:∀{xs:N wW}{l:N PD},br cx σ xs=Z l->X l=X xs/\∀(P:jP) vs env S w,(∀x∈xs,Y0 P vs env S w cx σ x)->zB S (FV l<|xs.map<|ev env) w
 |[],l,h=>by simp only[br,xau]at h;subst h;exact⟨O,λ_ _ _ _ _ _=>wR⟩
 |x::xs,l,h=>by
  unfold br at h;split at h;rename_i t y f a b;simp only[xau]at h;subst h;have⟨h1,c⟩:=zaj b;exact⟨by simp[h1],λP vs env S w hl=>⟨zj a<|hl x<|IR,c P vs env S w λz e=>hl z<|FS _ e⟩⟩;cases h
theorem zqp{f:Go.Fn}{first cs:ut wW}{k:N (K×Dv)->V R}(h:zoV cx σ f first.toList cs.toList k=Z r):∃l,k l=Z r/\ES P ⟨d,.makeFunc f first cs,ty,pos,aft,g⟩ cx σ F l:=by
 unfold zoV at h;split at h;rename_i _ _ _ f' l b hc;obtain rfl:first= #[]:=by cases first;simp_all
 have⟨h1,c⟩:=zaj hc;refine⟨_,h,zG λenv w S vs hl=>⟨_,zrF (xs:=cs.toList) O w,zu ?_⟩⟩;exact⟨_,O,by simp[h1],c P vs env S w λx a=>yK hl<|by simpa[xaB]using a⟩;rename_i _ _ _ f' x b hc;split at h;rename_i o t a;obtain rfl:first= #[x]:=by cases first;simp_all
 have h1:=(zaj hc).1;obtain rfl:cs= #[]:=by grind
 refine⟨_,h,zG λenv w S vs hl=>⟨.func (.func f') #[ev env x] #[],da (by simp[pv]) w,zu ?_⟩⟩;have⟨e,i⟩:=zj a (yK hl<|by simp[xaB]);exact⟨by rw[e],i⟩;cases h
 cases h
end
end
section
section
variable{P:jP}{cf:Cf}{cx σ:Sg}{F:xS MF}{vs:wr->wN}{env:y6}{S:wr->Prop}{w:wP}{R:Type}{r:R}
 {d:ww Z4}{ty t yt:wT}{pos:String}{aft:ut Edge}{g:ww (wr×v6)}{x y:wW}
def Ik{A B C:Type}(h:B=C)(p:(A×B)=(A×C))(x:A×B):(p▸x:A×C)=(x.1,h▸x.2):=by subst h;rfl
theorem St.sub'{we:wP}{Se:K->Prop}{ms:N MF}{Γ Δ:N FF}{w:wP}(h:St we Se ms Γ w)(a:∀f∈Δ,f∈Γ):St we Se ms Δ w:=by grind [St.weak,kG]
def zpP{t:Ty}{n:RM}{r:N RM}(x:UK (.d t::n::r)):(Wv (.d t::n::r)▸x:Ie ((RM.d t::n::r).map RM.ty))=((x.1,Wv (n::r)▸x.2):t.D×Ie ((n::r).map RM.ty)):=
 Ik (Wv (n::r)) (Wv (.d t::n::r)) x
def zql{t:Ty}{E:wT}{n:RM}{r:N RM}(x:UK (.own t E::n::r)):(Wv (.own t E::n::r)▸x:Ie ((RM.own t E::n::r).map RM.ty))=((x.1,Wv (n::r)▸x.2):(Ty.l t).D×Ie ((n::r).map RM.ty)):=
 Ik (Wv (n::r)) (Wv (.own t E::n::r)) x
theorem zih{we:wP}{Se:K->Prop}:∀{rs:N RM}{x:UK rs}{us:N wN}{F:N MF}{G:N FF}{w:wP},noV rs=wL->
 St we Se (jR rs x us++F) (jK rs x us++G) w->St we Se F (csF (rs.map RM.ty) (Wv rs▸x) us++G) w
 |[],_,_,_,_,_,_,h=>h
 |[.d t],x,us,F,G,w,_,h=>h
 |.var _ _::_,_,_,_,_,_,hv,_=>by cases hv
 |[.own t E],x,us,F,G,w,_,h=>by
  have h:St we Se (mO t.rep E (us.headD Z0) x::F) G w:=h;exact LP 0 h O
 |.d t::n::r,x,us,F,G,w,hv,h=>by
  rw[zpP];have h:St we Se (jR (n::r) x.2 us.tail++F) (jK (n::r) x.2 us.tail++(fV t.rep x.1 (us.headD Z0)::G)) w:=St.sub' (by simpa[jR,jK,rmM,rmF]using h) (by simp;rintro f (h|h|h)<;>simp[h]);have:=zih (rs:=n::r) hv h;exact St.sub' this (by
   intro f hf;obtain hf|hf:=xaa.1 hf
   obtain rfl|hf:=xah.1 hf
   exact xaa.2 (.inr<|IR);grind;exact xaa.2 (.inr<|FS _ hf))
 |.own t E::n::r,x,us,F,G,w,hv,h=>by
  rw[zql];have h:St we Se (mO t.rep E (us.headD Z0) x.1::(jR (n::r) x.2 us.tail++F)) (jK (n::r) x.2 us.tail++G) w:=h;have h:=LP 0 h O;have h:St we Se (jR (n::r) x.2 us.tail++F) (jK (n::r) x.2 us.tail++(fV (eS t.rep) x.1 (us.headD Z0)::G)) w:=St.sub' h (by simp;rintro f (h|h|h)<;>simp[h]);have:=zih (rs:=n::r) hv h;exact St.sub' this (by
   intro f hf;obtain hf|hf:=xaa.1 hf
   obtain rfl|hf:=xah.1 hf
   exact xaa.2 (.inr<|IR);exact xaa.2 (.inl hf);exact xaa.2 (.inr<|FS _ hf))
def Iy:∀{rs:N RM}{x:UK rs}{i:K},noV rs=wL->TX rs x i=zig (rs.map RM.ty) (Wv rs▸x) i
 |[],_,_,_=>rfl
 |[.d _],_,_,_=>rfl
 |[.own _ _],_,_,_=>rfl
 |.var _ _::_,_,_,h=>by cases h
 |.d t::n::r,x,i,h=>by rw[zpP];show(i,Dv.d t x.1)::TX (n::r) x.2 (i+1)=_;rw[Iy (rs:=n::r) h];rfl
 |.own t E::n::r,x,i,h=>by rw[zql];show(i,Dv.d (.l t) x.1)::TX (n::r) x.2 (i+1)=_;rw[Iy (rs:=n::r) h];rfl
def Sm:∀rs:N RM,bN rs=zjW (rs.map RM.ty)
 |[]=>rfl
 |[_]=>rfl
 |_::_::_=>rfl
theorem zij:∀{ts:N Ty}{x:Ie ts}{i:K}{us:N wN},zB S (csF ts x us) w->X us=X ts->∀e∈zig ts x i,∃j u,e.1=i+j/\us[j]? =Z u/\(vC P vs e.2 u).p S w
 |[],_,_,_,_,_,e,he=>wS he H1
 |[t],x,i,[],h,hl,e,he=>by cases hl
 |[t],x,i,u::us,h,hl,e,he=>by
  obtain rfl:=xac.1 he;exact⟨0,u,O,O,h.1⟩
 |t::s::r,x,i,[],h,hl,e,he=>by cases hl
 |t::s::r,x,i,u::us,h,hl,e,he=>by
  obtain rfl|he:=xah.1 he
  exact⟨0,u,O,O,h.1⟩;have⟨j,v,h1,a,b⟩:=zij h.2 (by simpa using hl) e he;grind
def C2:∀{ts:N Ty}{x:Ie ts}{us:N wN},zB S (csF ts x us) w->us.length=ts.length->∀e∈zig ts x (bif zjW ts then 0 else 1),(vS P vs e.2 (uK us) e.1).p S w
 |[],_,_,_,_,e,he=>wS he H1
 |[t],x,[],_,hl,_,_=>by cases hl
 |[t],x,[v],h,hl,e,he=>by
  obtain rfl:=xac.1 he;exact h.1
 |[t],x,_::_::_,_,hl,_,_=>by simp at hl
 |t::s::q,x,[],_,hl,_,_=>by cases hl
 |t::s::q,x,[_],_,hl,_,_=>by simp at hl
 |t::s::q,x,v::v'::us,h,hl,e,he=>by
  obtain⟨j,u,h1,h2,h3⟩:=zij h hl e he;obtain⟨i,dv⟩:=e;simp only[zjW,XS]at h1;obtain rfl:i=j+1:=by lia
  exact⟨(v::v'::us).toArray,u,O,by simpa using h2,h3⟩
def Ca:∀{cs:N XW}{f:Z2}{s:XW},GX cs f=Z s->s∈cs/\s.f=f/\ER s.dom=wL/\s.bk=0/\noV s.cod=wL
 |c::cs,f,s,h=>by
  unfold GX at h;cases a:E c.f f && (ER c.dom && (E c.bk 0 && noV c.cod))<;>rw[a]at h
  have⟨h1,b⟩:=Ca h;exact⟨FS _ h1,b⟩;simp_all
def ov:∀{dom:N AM}{x:UU dom}{us:N wN},ER dom=wL->ki dom x us=[]
 |[],_,_,_=>rfl
 |.d _::r,x,us,h=>ov (dom:=r) h
 |.q _::r,x,us,h=>ov (dom:=r) h
 |.fn _ _::r,x,us,h=>ov (dom:=r) h
 |.own _ _::_,_,_,h=>by cases h
 |.var _ _::_,_,_,h=>by cases h
def Nh:∀{a:N AM}{cs:N PD}{z:UU a},cy a cs=Z z->X cs=X a/\∀{S:K->Prop}{w:wP}{b:N wN},X b=X cs->zB S (FV cs b) w->zB S (jy P a z b) w
 |[],[],_,_=>⟨O,λ_ _=>wR⟩
 |.q t::r,c::cs,z,h=>by
  have⟨e,h⟩:=yr h;subst e;split at h;rename_i z' i;obtain rfl:=xdW h;have⟨h1,j⟩:=Nh i;refine⟨by simp[h1],λ{S w b} hl f=> ?_⟩
  cases b with
  |nil=>cases hl
  |cons v b=>exact⟨f.1,j (by simpa using hl) f.2⟩
  cases h
 |[],_::_,_,h=>by simp[cy]at h
 |.q _::_,[],_,h=>by simp[cy]at h
 |.d _::_,_,_,h=>by simp[cy]at h
 |.own _ _::_,_,_,h=>by simp[cy]at h
 |.var _ _::_,_,_,h=>by simp[cy]at h
 |.fn _ _::_,_,_,h=>by simp[cy]at h
def zgY:∀{full:N AM}{dom:N Ty}{x:nU dom}{cs:N PD}{z:UU full},Nj full dom x cs=Z z->X dom+X cs=X full/\
 ∀{S:K->Prop}{w:wP}{us a:N wN},X us=X dom->X a=X cs->zB S (tsF dom x us) w->zB S (FV cs a) w->zB S (jy P full z<|us++a) w
 |full,[],x,cs,z,h=>by
  have h:cy full cs=Z z:=by cases full<;>(try cases‹AM›)<;>simpa[Nj]using h
  have⟨h1,b⟩:=Nh (P:=P) h;simp_all
 |.d t::r,s::dom,x,cs,z,h=>by
  have⟨e,h⟩:=yr h;subst e;split at h;rename_i z' c;obtain rfl:=xdW h;have⟨h1,b⟩:=zgY c;refine⟨by simp;lia,λ{S w us a} hl hc ht f=> ?_⟩
  cases us with
  |nil=>cases hl
  |cons v us=>exact⟨ht.1,b (by simpa using hl) hc ht.2 f⟩
  cases h
 |[],_::_,_,_,_,h=>by simp[Nj]at h
 |.q _::_,_::_,_,_,_,h=>by simp[Nj]at h
 |.own _ _::_,_::_,_,_,_,h=>by simp[Nj]at h
 |.var _ _::_,_::_,_,_,_,h=>by simp[Nj]at h
 |.fn _ _::_,_::_,_,_,_,h=>by simp[Nj]at h
theorem zg6{A B:Type}(h:A=B){o:V A}{r:B}(b:(h▸o:V B)=Z r):∃a:A,o=Z a/\(h▸a:B)=r:=by grind
def mV{s:XW}(a:yY P s)(hn:ER s.dom=wL)(b:s.bk=0)(hv:noV s.cod=wL){z:UU s.dom}{q:UK s.cod}(c:s.M z=Z q){us:N wN}(hl:X us=X s.dom):
 Fn P s.f us.toArray (jy P s.dom z us) uK (λus=>csF (s.cod.map RM.ty) (Wv s.cod▸q) us) (λus=>X us=X s.cod):=by
 have h:=a.plain b c hl;rw[ov hn]at h;refine SP.frozen h λu w' we Se e=> ?_;have:=zih (F:=[]) (G:=[]) hv (by simpa using e);simp_all
def Fn.weakΓ{U:Type}{f:Z2}{args:ut wN}{Γ b:N FF}{c:U->wN}{a:U->N FF}{ok:U->Prop}(h:Fn P f args Γ c a ok)(e:∀S w,zB S b w->zB S Γ w):Fn P f args b c a ok:=
 λw Se h1 i=>h w Se h1<|e Se w i
def zhW(l:∀s∈cf.cs,yY P s){v:V Dv}{dom cod:N Ty}{k:(nU dom->V (Ie cod))->V R}(h:asF cf σ v dom cod k=Z r):
 ∃g,k g=Z r/\∀vs S w (dv:Dv) u,v=Z dv->(vC P vs dv u).p S w->(fnF P dom cod g u).p S w:=by
 unfold asF at h;split at h;rename_i f c;split at h;rename_i s m;have⟨h1,e,n,o,A⟩:=Ca m;have i:=l s h1;split at h;rename_i B _;subst B;refine⟨_,h,λvs S w dv u hd b=> ?_⟩;cases hd;have⟨cs,C,D,E⟩:=b;refine⟨f,cs,FV c cs,C,⟨e▸i.1,λx q a us hl=> ?_⟩,E⟩;simp only at a;split at a
 rename_i z G;have⟨L,H,hn⟩:=zg6 _ a;have⟨M,J⟩:=zgY (P:=P) G;have hi:=mV i n o A H (us:=us++cs) (by simp;lia);rw[e]at hi;subst hn;refine(hi.weakΓ λS w j=>J hl D (zB.left j)<|zB.right j).ok_mono λus K=>by simpa using K
 cases a
 cases h
 cases h
 rename_i Q T U;split at h;rename_i hd hc _ _;subst hd;subst hc;exact⟨_,h,λvs S w dv u hp b=>by cases hp;exact b⟩;cases h
 cases h
end
end
section
def nP(P:jP)(ex:N (K×v6)):Prop:=∀f b,UC ex f=Z b->∃fn,P.funcs[f]? =Z fn/\(fn.name== "runtime.NumGoroutine")=I/\fn.body=wF/\(xeP fn).isNone=wL/\
 (b=wL->xfa fn=Z (λargs=>do
  let(x,y,c)<-xbK "Add64" args
  pure (xcm ((x+y+c)%xbe)<|(x+y+c)/xbe)))/\
 (b=I->xfa fn=Z (λargs=>do
  let(x,y,b)<-xbK "Sub64" args
  pure (xcm ((x+xbe-y-b)%xbe) (if x<y+b then 1 else 0))))
section
variable{P:jP}{cf:Cf}{cx σ:Sg}{F:xS MF}{vs:wr->wN}{env:y6}{S:wr->Prop}{w:wP}{R:Type}{r:R}
 {d:ww Z4}{ty t yt:wT}{pos:String}{aft:ut Edge}{g:ww (wr×v6)}{x y:wW}
def zqS{x y z:K}{k:N (K×Dv)->V R}(h:exU wL x y z k=Z r):z<=1/\∃p q:K,p=(x+y+z)%18446744073709551616/\q=(x+y+z)/18446744073709551616/\k [(1,.d .u p),(2,.d .u q)]=Z r:=by have⟨h1,h⟩:=ZO h;have⟨p,hp,h⟩:=xN h;have⟨q,a,h⟩:=xN h;simp_all
def zqw{x y z:K}{k:N (K×Dv)->V R}(h:exU I x y z k=Z r):z<=1/\∃p q:K,p=(x+18446744073709551616-y-z)%18446744073709551616/\q=(if x<y+z then 1 else 0)/\k [(1,.d .u p),(2,.d .u q)]=Z r:=by have⟨h1,h⟩:=ZO h;have⟨p,hp,h⟩:=xN h;have⟨q,a,h⟩:=xN h;simp_all
def pZ(l:∀s∈cf.cs,yY P s):∀{dom:N AM}{xs:N wW}{cs:N PD}{k:UU dom->V R},QF cf cx σ dom xs cs k=Z r->
 ∃z,k z=Z r/\X xs+X cs=X dom/\∀vs env S w,(∀x∈xs,Y0 P vs env S w cx σ x)->∀a:N wN,X a=X cs->zB S (FV cs a) w->zB S (jy P dom z<|xs.map (ev env)++a) w
 |[],[],[],k,h=>⟨(),h,O,λ_ _ _ _ _ _ _ _=>wR⟩
 |.q t::dom,[],c::cs,k,h=>by
  simp only[QF]at h;have⟨e,h⟩:=yr h;subst e;have⟨z,h1,i,j⟩:=pZ l h;refine⟨_,h1,by simp at i⊢;lia,λvs env S w hl a b hc=> ?_⟩
  cases a with
  |nil=>cases b
  |cons v a=>exact⟨hc.1,j vs env S w hl a (by simpa using b) hc.2⟩
 |.d t::dom,x::xs,cs,k,h=>by
  simp only[QF]at h;have⟨y,h,o⟩:=VN h;have⟨z,h1,i,j⟩:=pZ l h;exact⟨_,h1,by simp at i⊢;lia,λvs env S w hl a b hc=>⟨o P vs env S w<|hl x<|IR,j vs env S w (λz m=>hl z<|FS _ m) a b hc⟩⟩
 |.q t::dom,x::xs,cs,k,h=>by
  simp only[QF]at h;split at h;rename_i s y p;have⟨e,h⟩:=yr h;subst e;have⟨z,h1,i,j⟩:=pZ l h;exact⟨_,h1,by simp at i⊢;lia,λvs env S w hl a b hc=>⟨zj p<|hl x<|IR,j vs env S w (λz m=>hl z<|FS _ m) a b hc⟩⟩;cases h
 |.fn n cod::dom,x::xs,cs,k,h=>by
  simp only[QF]at h;have⟨f,h,u⟩:=zhW l h;have⟨z,h1,i,j⟩:=pZ l h;refine⟨_,h1,by simp at i⊢;lia,λvs env S w hl a b hc=>⟨?_,j vs env S w (λz m=>hl z<|FS _ m) a b hc⟩⟩
  cases hv:xz cx σ x with
  |none=>rename_i h0;rw[hv]at h0;simp[asF]at h0
  |some v=>exact u vs S w v _ hv<|zj hv<|hl x<|IR
 |[],_::_,_,_,h=>by simp[QF]at h
 |[],[],_::_,_,h=>by simp[QF]at h
 |.d _::_,[],_,_,h=>by simp[QF]at h
 |.own _ _::_,_,_,_,h=>by simp[QF]at h
 |.fn _ _::_,[],_,_,h=>by simp[QF]at h
 |.q _::_,[],[],_,h=>by simp[QF]at h
def Lj:∀{dom:N Ty}{xs:N wW}{k:nU dom->V R},Iv cx σ dom xs k=Z r->
 ∃z,k z=Z r/\X xs=X dom/\∀(P:jP) vs env S w,(∀x∈xs,Y0 P vs env S w cx σ x)->zB S (tsF dom z<|xs.map<|ev env) w
 |[],[],k,h=>⟨(),h,O,λ_ _ _ _ _ _=>wR⟩
 |t::dom,x::xs,k,h=>by
  have⟨y,h,a⟩:=VN h;have⟨z,h1,b,c⟩:=Lj h;exact⟨_,h1,by simp[b],λP vs env S w hl=>⟨a P vs env S w<|hl x<|IR,c P vs env S w<|λz e=>hl z<|FS _ e⟩⟩
 |[],_::_,_,h=>by simp[Iv]at h
 |_::_,[],_,h=>by simp[Iv]at h
def zmK(E:∀s∈cf.cs,yY P s)(Y:nP P cf.ex){f:wW}{a:ut wW}{ts:ut wT}{k:N (K×Dv)->V R}(h:zic cf cx σ f a.toList k=Z r):
 ∃l,k l=Z r/\ES P ⟨d,.call ⟨.value f,a,ts⟩,ty,pos,aft,g⟩ cx σ F l:=by
 have G:∀{vs env S w},(∀A∈yP (.call ⟨.value f,a,ts⟩),Lk P vs env S w cx σ A)->Y0 P vs env S w cx σ f:=λhl=>yK hl (by simp[xaB,xeH]);have i:∀{vs env S w},(∀A∈yP (.call ⟨.value f,a,ts⟩),Lk P vs env S w cx σ A)->∀x∈a.toList,Y0 P vs env S w cx σ x:=λhl x u=>yK hl (by simp only[xaB,xeH,Array.toList_append,xaa];exact .inr u);unfold zic at h;split at h;rename_i f0 cs hc;split at h;rename_i s hs;have⟨h1,H,h3,h4,J⟩:=Ca hs;have L:=E s h1;have⟨z,h,hd,m⟩:=pZ E h;have⟨q,c,h⟩:=rV h;refine⟨_,h,uG λenv w S vs hM hl=> ?_⟩;have⟨j,hv,ht,hu⟩:=zj hc<|G hl;have v:=mV L h3 h4 J c (us:=a.toList.map (ev env)++j) (by simp at hd⊢;lia);rw[H]at v;refine⟨_,_,_,_,jy P s.dom z<|a.toList.map (ev env)++j,[],re (asv:=a.toList) (H▸L.1) hv v O<|λS w h=>h,wR,m vs env S w (i hl) j ht hu,λus w' B hn=> ?_⟩;unfold zkQ;rw[Iy J,Sm];exact C2 hn<|by simpa using B
 split at h;rename_i _ _ _ b x y z C hD;obtain rfl:a= #[x,y,z]:=by cases a;simp_all
 have⟨hw,h⟩:=yf h
 cases f with
 |func f1=>
  simp only[xz,xau,Dv.fn.injEq]at hc;obtain⟨rfl,_⟩:=hc;have⟨fn,e1,M,Q,T,e5,e6⟩:=Y _ _ C;unfold exD at h;split at h;rename_i x' y' z' u U m;cases b
  have⟨n,p,q,hp,c,h⟩:=zqw h;refine⟨_,h,zG λenv w S vs hl=> ?_⟩;have hi:=wB u (i hl x mK);have o:=wB U (i hl y mK);have D:=wB m (i hl z mK);refine⟨_,v_2 (zjZ e1 M Q T (e6 O) hi.1 o.1 D.1 n) hp c w,λe he=> ?_⟩;obtain rfl|he:=xah.1 he
  exact⟨_,_,O,O,kf<|Vi hp⟩;obtain rfl:=xac.1 he;exact⟨_,_,O,O,kf<|zj3 hi.2 o.2 n c⟩;have⟨n,p,q,hp,c,h⟩:=zqS h;refine⟨_,h,zG λenv w S vs hl=> ?_⟩;have hi:=wB u (i hl x mK);have o:=wB U (i hl y mK);have D:=wB m (i hl z mK);refine⟨_,v_2 (zj7 e1 M Q T (e5 O) hi.1 o.1 D.1 n) hp c w,λe he=> ?_⟩;obtain rfl|he:=xah.1 he
  exact⟨_,_,O,O,kf<|Vi hp⟩;obtain rfl:=xac.1 he;exact⟨_,_,O,O,kf<|zjD hi.2 o.2 n c⟩;cases h
 |_=>simp[zpT]at hw
 cases h
 rename_i dom cod g' hc;have⟨z,h,hd,m⟩:=Lj h;have⟨q,c,h⟩:=rV h;refine⟨_,h,uG λenv w S vs hM hl=> ?_⟩;have⟨a0,br,FG,hv,⟨C,hA⟩,hB⟩:=zj hc<|G hl;have v:=hA z q c (a.toList.map<|ev env) (by simpa using hd);exact⟨_,_,_,_,tsF dom z (a.toList.map<|ev env)++FG,[],re (asv:=a.toList) C hv v O<|λS w h=>h,wR,zB.append (m P vs env S w<|i hl) hB,λus w' B hn=>C2 hn B⟩;cases h
def zqg{fs:ut Field}{v:wN}(a:P.underlying t=Z (.struct fs))(hv:ev env x=v)(w:wP):(jp (ev env) ⟨d,.makeInterface t x,ty,pos,aft,g⟩).run P w=.ok (.value (.iface t v)) w:=by simp[jp,Instr.makeInterface,ul a,hv]
def zpp(a:yX P cf.tt){k:N (K×Dv)->V R}(h:znP cf cx σ t x k=Z r):∃l,k l=Z r/\ES P ⟨d,.makeInterface t x,ty,pos,aft,g⟩ cx σ F l:=by unfold znP at h;split at h;rename_i B s y ht b;have⟨c,h⟩:=yr h;subst c;refine⟨_,h,zG λenv w S vs hl=> ?_⟩;have⟨cs,hv,hp⟩:=zj b (yK hl<|by simp[xaB]);have⟨_,_,⟨fs,hc,_⟩,_⟩:=(a _ _ ht).2.2.2;obtain rfl:cs=[.int .i64 y]:=hp.1;exact⟨_,zqg hc hv w,zu<|by exact O⟩;cases h
def zmq(a:yX P cf.tt)(c:kZ P cf.tt)(f:∀s∈cf.cs,yY P s)(i:nP P cf.ex){e:Op}{k:N (K×Dv)->V R}(h:zmH cf cx σ e k=Z r):∃l,k l=Z r/\ES P ⟨d,e,ty,pos,aft,g⟩ cx σ F l:=by
 unfold zmH at h;split at h;exact zeO (.inl O) h;exact zeO (.inr O) h;exact zqU h;exact znK h;exact zp7 h;exact zqN h;rename_i j t x y yt;cases hn:zkH (xz cx σ y)<;>rw[hn]at h
 exact bop h<|zko a;have⟨hp,h⟩:=yf h;exact zrK a hp hn h;exact zp6 h;exact zqb a h;exact zot a h;exact zkb a c h;exact zk5 a h;exact zht a h;exact zjy a c h;exact zpy a h;exact zpV h;exact zkc a h;exact zpp a h;exact zpr a c h;exact zqp h;exact zqH a h;exact zpY (b:=wL) h;exact zpY (b:=I) h;exact zmK f i h;cases h
end
end
section
def zav(P:jP)(s:OM):Prop:=
 sG P s.f=wL/\∀(x:nU s.dom) (vs:N wN),X vs=X s.dom->Fn P s.f vs.toArray (tsF s.dom x vs) (λv:wN=>v) (λv=>[zov s.g (s.mc x) v]) (λ_=>Xs)
def Td(P:jP)(s:CY):Prop:=
 sG P s.f=wL/\∀c ix r a p lo n b,s.M c ix r a p lo n=Z b->∀(u d hv:wN),(xT u)[r]? =Z d->O6 (yO u) lo n hv->XB a->XB p->
  ∀we Se F G w,St we Se (AE s.t.rep s.E s.E1 u c ix::F) G w->UT P s.f #[d,.int .i64 a,.int .i64 p,hv] w λe w'=>∃v g,e=.returned v/\yO g=yO u/\St we Se (AE s.t.rep s.E s.E1 g b ix::F) G w'
def zik(P:jP)(s:GB):Prop:=
 sG P s.f=wL/\∀(x:UU s.dom) (X Y:Type) (a:X->wN->MF) (b:Y->wN->MF) (g:N s.t.D->X->V (N s.t.D×(X⊕Y))) (x0:X) (r:X⊕Y),s.M x g x0=Z r->∀(l:K) (vs:N wN),pM vs=pM s.dom->Py P l s.t.rep s.E a b g->
  ∀u we Se F G w,St we Se (a x0 u::F) (jy P s.dom x vs++G) w->UT P s.f (.func (.yield l) #[] #[]::vs).toArray w λe w'=>(∃v,e=.returned v)/\∃c,St we Se (xfk (λx=>a x c) (λy=>b y c) r::F) G w'
def NW(P:jP)(p:Ji):Prop:=
 sG P p.s.f=wL/\∀(x:UU p.s.dom) (vs:N wN),X vs=X p.s.dom->
  (∀r,p.M x=Z (.inr r)->SP P p.s.f vs.toArray (ki p.s.dom x vs) (jy P p.s.dom x vs) (znn p.s.bk (X p.s.cod)) (λus=>jR p.s.cod r us) (λus=>jK p.s.cod r us) (ziB p.s.dom vs p.s.bk (X p.s.cod)))/\
  ∀q,p.M x=Z (.inl q)->∀we Se F G w,St we Se (ki p.s.dom x vs++F) (jy P p.s.dom x vs++G) w->UT P p.s.f vs.toArray w λe w'=>e=.panicked (pE q)/\St we Se F G w'
def Ji.n(p:Ji):XW:=⟨p.s.f,p.s.dom,p.s.cod,λx=>(match p.M x with
 |some (.inr r)=>Z r
 |_=>wF),p.s.bk⟩
def NW.n{P:jP}{p:Ji}(h:NW P p):yY P p.n:=⟨h.1,λx r a vs hl=>(h.2 x vs hl).1 r (by
 have a:(match p.M x with
  |some (.inr r)=>Z r
  |_=>wF)=Z r:=a
 split at a;grind;cases a)⟩
structure AF(P:jP)(cf:Cf):Prop where
 ex:nP P cf.ex
 cl:∀s∈cf.cl,zav P s
 ms:∀s∈cf.ms,Td P s
 is:∀s∈cf.is,zik P s
 pp:P=Tryz.prog
 ps:∀p∈cf.ps,NW P p
section
variable{P:jP}{cf:Cf}{cx σ:Sg}{F:xS MF}{vs:wr->wN}{env:y6}{S:wr->Prop}{w:wP}{R:Type}{r:R}
 {d:ww Z4}{ty t yt:wT}{pos:String}{aft:ut Edge}{g:ww (wr×v6)}{x y:wW}
def zfc{f:Z2}:∀{l:N CY}{s:CY},zep l f=Z s->s∈l/\s.f=f
 |c::l,s,h=>by
  unfold zep at h;cases a:E c.f f<;>rw[a]at h
  have⟨h1,b⟩:=zfc h;exact⟨FS _ h1,b⟩;simp_all
def zeo{f:Z2}:∀{l:N OM}{s:OM},zgU l f=Z s->s∈l/\s.f=f
 |c::l,s,h=>by
  unfold zgU at h;cases a:E c.f f<;>rw[a]at h
  have⟨h1,b⟩:=zeo h;exact⟨FS _ h1,b⟩;simp_all
def zgs{f:Z2}:∀{l:N GB}{s:GB},zjx l f=Z s->s∈l/\s.f=f
 |c::l,s,h=>by
  unfold zjx at h;cases a:E c.f f<;>rw[a]at h
  have⟨h1,b⟩:=zgs h;exact⟨FS _ h1,b⟩;simp_all
def Mo{α:Type}{e:zT α}{E E1:wT}{u:wN}{a:N (N α)}{ix:N K}(h:(AE e E E1 u a ix).p S w):X (xT u)=X a/\(mO (Yv<|xT u) E (yO u) ix).p S w/\yS S (vG e E1 (xT u) a) w:=⟨h.1.1,h.1.2.1,h.1.2.2⟩
def Ag{α:Type}{e:zT α}{E E1:wT}{u v:wN}{a:N (N α)}{ix:N K}{r:K}(h:(AE e E E1 u a ix).p S w)(b:(xT u)[r]? =Z v):(mO e E1 v<|uO a r).p S w/\r<X a:=by
 have⟨h1,_,c⟩:=Mo h;have hl:=(xaz.1 b).1;have f:a[r]? =Z (uO a r):=by unfold uO;simp_all
 exact⟨yS.get c<|Jq b f,W⟩
def zeY(q:yX P cf.tt)(H:kZ P cf.tt){k:N (K×Dv)->V R}(h:MN cf cx σ t x y k=Z r):∃l,k l=Z r/\ES P ⟨d,.indexAddr t x y,ty,pos,aft,g⟩ cx σ F l:=by
 have J:∀{vs env S w},(∀L∈yP (.indexAddr t x y),Lk P vs env S w cx σ L)->Y0 P vs env S w cx σ x:=λhl=>yK hl (by simp[xaB]);have M:∀{vs env S w},(∀L∈yP (.indexAddr t x y),Lk P vs env S w cx σ L)->Y0 P vs env S w cx σ y:=λhl=>yK hl (by simp[xaB]);unfold MN at h;split at h;rename_i e E B o ht u;split at h;rename_i s A E1 a ix C;have⟨bytes,i,hc⟩:=K2 q H ht;have⟨j,f,h,hd⟩:=SF h;refine⟨_,h,?_⟩;intro env w S vs T D hl;have⟨ik,v⟩:=hd P vs env S w<|M hl;have Q:(AE s.rep A E1 (vs o) a ix).p S w:=ZZ D C;have⟨b,cap,hv,_⟩:=U2 (Mo Q).2.1<|xaK (xae _) f;have G:ev env x=yO (vs o):=zj u<|J hl;exact ui.of_value (Cb (qB q ht) hc (G.trans hv) v f w) ⟨yJ.refl _ _,zu ⟨b,_,_,hv,f,O⟩⟩;cases h
 rename_i e E B o lo n ht u;split at h;rename_i s A E1 a ix C;have⟨bytes,i,hc⟩:=K2 q H ht;have⟨j,f,h,hd⟩:=SF h;refine⟨_,h,?_⟩;intro env w S vs T D hl;have⟨ik,v⟩:=hd P vs env S w<|M hl;rcases(zj u (J hl):O6 _ _ _ _).old with⟨b,m,cap,c,q1,q2,q3,q4,U⟩|⟨q1,_⟩
 refine ui.of_value (Cb (qB q ht) hc U v f w) ⟨yJ.refl _ _,zu ⟨b,_,_,q1,W,?_⟩⟩;show Value.pointer (Z ⟨b,0+lo*1+j*1,wF⟩)=Value.pointer (Z ⟨b,0+(lo+j)*1,wF⟩);rw[xbi,xcK];lia;cases h
 rename_i e E B o p ht u;split at h;rename_i s A E1 a ix C;have⟨Y,h1⟩:=yr h;cases Y;have⟨bytes,i,hc⟩:=K2 q H ht;have⟨j,f,h,hd⟩:=SF h1;refine⟨_,h,?_⟩;intro env w S vs T D hl;have⟨ik,v⟩:=hd P vs env S w<|M hl;have Q:(AE e.rep A E1 (vs o) a ix).p S w:=ZZ D C;have G:(xT<|vs o)[p]? =Z (ev env x):=zj u<|J hl;have⟨b,cap,hv,_⟩:=U2 (Ag Q G).1<|xaK (xae _) f;refine ui.of_value (Cb (qB q ht) hc hv v f w) ⟨yJ.refl _ _,zu ⟨λz=>Sub.self e.rep z,b,_,_,by rw[<-hv];exact G,f,by simp[Fl.self]⟩⟩
 cases h
 cases h
def zrL{α β:Type}{q:Prop}{e:zT α}{E off:K}{nl:α->α}{s:zT β}{E1:wT}{u:wN}{z:α}{xs:N β}(h:(mVr q e E off nl s E1 u z xs).p S w):
 X (xT u)=1/\q/\∃b,yO u=.pointer (Z ⟨b,0,wF⟩)/\(mB (b7 e off nl<|xT u) E b (z,0)).p S w:=⟨h.1.1.1,h.1.1.2,h.1.2.1⟩
def zrZ{α:Type}{q:Prop}{e:zT α}{E off:K}{nl:α->α}{u:wN}{z:α}(h:(mVh q e E off nl u z).p S w):
 X (xT u)=1/\q/\∃b,yO u=.pointer (Z ⟨b,0,wF⟩)/\(mB (b7 e off nl<|xT u) E b (z,0)).p S w:=⟨h.1.1.1,h.1.1.2,h.1.2.1⟩
def zb2{n i j:K}{s:Ty}{k:Fl s.D->V R}(h:zgy n s i j k=Z r):i≠j/\∃f,xk n s i=Z f/\k f=Z r:=by have⟨h1,h⟩:=yf h;split at h;rename_i f a;refine⟨λe=> ?_,f,a,h⟩;simp_all;cases h
def zg9{o:K}{s a:Ty}{E E1 n j:K}{z:s.D}{Y:Od}(e:Vo cx σ o=Z Y)(f:(∃xs,Y=.vr s E a E1 n j z xs)\/Y=.vh s E a E1 n j z)(h:yS S (MS vs σ.ob++(MS vs cx.ob++F)) w):
 vrP a (xk n s j)/\∃b,yO (vs o)=.pointer (Z ⟨b,0,wF⟩)/\(mB (b7 s.rep (XO<|xk n s j) (Zl a (xk n s j) [])<|xT<|vs o) E b (z,0)).p S w:=by
 have c:=ZZ h e;rcases f with⟨xs,rfl⟩|rfl
 exact(zrL c).2;exact(zrZ c).2
def zb4(A:yX P cf.tt){a:TI}{o:K}{s c:Ty}{E E1 n i j:K}{f:Fl s.D}{z:s.D}{Y:Od}{k:N (K×Dv)->V R}(ht:Yc cf t=Z a)(hd:xz cx σ x=Z (.vf o s n i))(B:Vo cx σ o=Z Y)
 (C:(∃xs,Y=.vr s E c E1 n j z xs)\/Y=.vh s E c E1 n j z) (G:i≠j) (e:xk n s i=Z f) (h:(Ty.cast f.f a.ty (f.get z) λy=>k [(0,.d a.ty y)])=Z r):
 ∃l,k l=Z r/\ES P ⟨d,.load t x,ty,pos,aft,g⟩ cx σ F l:=by
 have⟨m,h⟩:=yr h;have⟨p,H,_⟩:=YS A ht;have hc:=e;have⟨off,Q,T,st⟩:=f;simp only at m;subst m;refine⟨_,h,uG λenv w S vs J hl=> ?_⟩;have⟨hi,b,h1,L⟩:=zg9 B C J;have⟨U,f',q,v,M⟩:=zj hd (yK hl<|by simp[xaB]);rw[h1]at q;cases q;rw[hc]at v;cases v;exact⟨_,_,_,_,[],[mB (b7 s.rep (XO<|xk n s j) (Zl c (xk n s j) [])<|xT<|vs o) E b (z,0)],VH 0 O (M.trans<|by rw[xaJ]) (zbl hi hc G) H,⟨L,wR⟩,wR,λu w' _ e=>zu e.1⟩
def zh7(v:yX P cf.tt){i:K}{k:N (K×Dv)->V R}(h:MG cf cx σ t x i k=Z r):∃l,k l=Z r/\ES P ⟨d,.fieldAddr t x i,ty,pos,aft,g⟩ cx σ F l:=by
 have A:∀{vs env S w},(∀C∈yP (.fieldAddr t x i),Lk P vs env S w cx σ C)->Y0 P vs env S w cx σ x:=λhl=>yK hl<|by simp[xaB]
 have c:∀{o E E1 n j:K}{s p:Ty}{z:s.D}{Y:Od}{B:K},Yc cf t=Z ⟨s,.st n,B⟩->xz cx σ x=Z (.mw o)->Vo cx σ o=Z Y->((∃xs,Y=.vr s E p E1 n j z xs)\/Y=.vh s E p E1 n j z)->(xk n s i).isSome=wL->k [(0,.vf o s n i)]=Z r->
  ∃l,k l=Z r/\ES P ⟨d,.fieldAddr t x i,ty,pos,aft,g⟩ cx σ F l:=λht q m G u h=>by
  have⟨f,u⟩:=Option.isSome_iff_exists.1 u;refine⟨_,h,?_⟩;intro env w S vs L H hl;have⟨_,b,h1,_⟩:=zg9 m G H;have hc:ev env x=yO (vs _):=zj q<|A hl;exact ui.of_value (oD (OT v ht u) (hc.trans h1) w) ⟨yJ.refl _ _,zu ⟨b,f,h1,u,O⟩⟩
 unfold MG at h;split at h;rename_i e n B o ht q;split at h;rename_i s E p E1 J j z xs m;have⟨a,h⟩:=yf h;rw[xad,xad]at a;obtain rfl:=zY a.1.1;obtain rfl:=JS a.1.2;exact c ht q m (.inl ⟨_,O⟩) a.2 h;rename_i s E p E1 J j z m;have⟨a,h⟩:=yf h;rw[xad,xad]at a;obtain rfl:=zY a.1.1;obtain rfl:=JS a.1.2;exact c ht q m (.inr O) a.2 h;cases h
 cases h
def zkB(L:yX P cf.tt){k:N (K×Dv)->V R}(h:zaM cf cx σ t x k=Z r):∃l,k l=Z r/\ES P ⟨d,.load t x,ty,pos,aft,g⟩ cx σ F l:=by
 have hx:∀{vs env S w},(∀t'∈yP (.load t x),Lk P vs env S w cx σ t')->Y0 P vs env S w cx σ x:=λhl=>yK hl (by simp[xaB]);unfold zaM at h;split at h;rename_i e E B o j ht H;split at h;rename_i s M E1 a ix A;have⟨J,hi,_⟩:=YS L ht;have⟨q,U,h⟩:=xN h;refine⟨_,h,uG λenv w S vs Y hl=> ?_⟩;have hm:(AE s.rep M E1 (vs o) a ix).p S w:=ZZ Y A;have⟨b,m,v,h1,Q,h3⟩:=zj H<|hx hl;have⟨a1,a2,a3⟩:=Mo hm;have hn:m=X ix:=by
  have⟨cs,h5,h6⟩:=a2;rcases h5.2 with⟨hv,h7⟩|⟨g',c,a0,hv,_⟩
  rw[h1]at hv;cases hv
  rw[h1]at hv;cases hv;rfl
 have⟨b',c,hv,hb⟩:=U2 a2 W;rw[h1]at hv;cases hv;have hc:=Sub.rowT0 (Yv<|xT<|vs o) v ix j (ix.getD j 0)<|getD_some 0 Q;exact⟨_,_,_,_,[],[mB (rowT (Yv<|xT<|vs o) v) M b ix],VH 0 O h3 hc hi,⟨hb,wR⟩,wR,λu w' _ C=>zu (by have:=zgI C.1;rw[<-U]at this;exact this)⟩
 cases h
 rename_i ti o e p j f hd H;split at h;rename_i s M E1 a ix A;have⟨T,h1⟩:=yr h;cases T;have⟨q,U,Q⟩:=xN h1;have⟨T,h⟩:=yr Q;have⟨J,hi,_⟩:=YS L hd;have⟨off,ff,gt,st⟩:=f;simp only at T;subst T;refine⟨_,h,uG λenv w S vs Y hl=> ?_⟩;have hm:(AE e.rep M E1 (vs o) a ix).p S w:=ZZ Y A;have⟨h0,b,m,cap,h1,Q,h3⟩:=zj H<|hx hl;have hr:=(Ag hm h1).1;have hn:m=X (uO (α:=e.D) a p):=by
  have⟨cs,h5,h6⟩:=hr;rcases h5.2 with⟨hv,h7⟩|⟨g',c,a0,hv,_⟩
  cases hv
  cases hv;rfl
 have⟨b',c,hv,hb⟩:=U2 hr W;cases hv;have hc:=(Sub.rowT0 e.rep cap (uO (α:=e.D) a p) j ((uO (α:=e.D) a p).getD j e.z)<|getD_some e.z W).comp<|h0<|(uO (α:=e.D) a p).getD j e.z;subst U;exact⟨_,_,_,_,[],[mB (rowT e.rep cap) E1 b<|uO (α:=e.D) a p],VH 0 O h3 hc hi,⟨hb,wR⟩,wR,λu w' _ C=>zu C.1⟩
 cases h
 rename_i ti o s0 n0 i hd H;split at h;rename_i s E s1 E1 n j z xs A;have⟨G,h⟩:=yf h;rw[xad]at G;obtain rfl:=zY G.1;obtain rfl:=JS G.2;have⟨hj,f,C,h⟩:=zb2 h;exact zb4 L hd H A (.inl ⟨_,O⟩) hj C h;rename_i s E s1 E1 n j z A;have⟨G,h⟩:=yf h;rw[xad]at G;obtain rfl:=zY G.1;obtain rfl:=JS G.2;have⟨hj,f,C,h⟩:=zb2 h;exact zb4 L hd H A (.inr O) hj C h;cases h
 cases h
def ze5(H:yX P cf.tt)(hL:kZ P cf.tt){lo hi:V wW}{k:N (K×Dv)->V R}(h:LY cf cx σ t x lo hi k=Z r):∃l,k l=Z r/\ES P ⟨d,.slice t x lo hi wF,ty,pos,aft,g⟩ cx σ F l:=by
 have hx:∀{vs env S w},(∀C∈yP (.slice t x lo hi wF),Lk P vs env S w cx σ C)->Y0 P vs env S w cx σ x:=λhl=>yK hl (by simp[xaB]);have hc:∀{vs env S w z},lo=Z z->(∀C∈yP (.slice t x lo hi wF),Lk P vs env S w cx σ C)->Y0 P vs env S w cx σ z:=λe hl=>yK hl (by simp[xaB,e]);have hd:∀{vs env S w z},hi=Z z->(∀C∈yP (.slice t x lo hi wF),Lk P vs env S w cx σ C)->Y0 P vs env S w cx σ z:=λe hl=>yK hl (by simp[xaB,e]);unfold LY at h;split at h;rename_i e E B o ht hn;split at h;rename_i s E' E1 L ix ho;have⟨bytes,T,U⟩:=K2 H hL ht
 have u:∀(l m:K),l<=m->m<=X ix->k [(0,.mv o l<|m-l)]=Z r->(∀vs env S w,(∀C∈yP (.slice t x lo hi wF),Lk P vs env S w cx σ C)->((lo.map<|ev env)=Z (.int .i64 (l:J))\/(lo=wF/\l=0))/\((hi.map<|ev env)=Z (.int .i64 (m:J))\/(hi=wF/\m=X ix)))->
  ∃l,k l=Z r/\ES P ⟨d,.slice t x lo hi wF,ty,pos,aft,g⟩ cx σ F l:=by
  intro l m h1 j h5 h4;refine⟨_,h5,λenv w S vs hS hM hl=> ?_⟩;have⟨Y,M⟩:=h4 vs env S w hl;have hf:ev env x=yO (vs o):=zj hn<|hx hl;have hm:(AE s.rep E' E1 (vs o) L ix).p S w:=ZZ hM ho;rcases dM (Mo hm).2.1 with⟨hv,hg⟩|⟨b,cap,hv,hj,hp⟩
  rw[hg]at j M;obtain rfl:m=0:=Nat.le_zero.1 j;obtain rfl:l=0:=Nat.le_zero.1 h1;have G:=MW (P:=P) (w:=w) (qB H ht) U (Y.imp id λq=>by rw[q.1];rfl) (M.imp id λq=>by rw[q.1];rfl);refine ui.of_value (v:=.slice wF 0 0) (w':=w) (by simp[jp,hf.trans hv,G]) ⟨yJ.refl _ _,zu (.inr ⟨hv,O,O,O⟩)⟩;have G:=C3 (P:=P) (b:=b) (o:=0) (n:=X ix) (cap:=cap) (w:=w) (l:=l) (h:=m) (qB H ht) U (Y.imp id λq=>⟨by rw[q.1];rfl,q.2⟩) (M.imp id λq=>⟨by rw[q.1];rfl,q.2⟩) h1<|xal j hj;rw[<-hv,<-hf]at G;refine ui.of_value (v:=.slice (if cap=l then Z ⟨b,0,wF⟩else Z ((⟨b,0,wF⟩:UL).add<|l*1)) (m-l)<|cap-l) (w':=w) (by simp[jp,G,Ty.rep,eS]) ⟨yJ.refl _ _,zu ?_⟩;exact .inl ⟨b,X ix,cap,hv,W,hj,W,by rw[jb]⟩
 rcases UI h with⟨e1,h1⟩|⟨zl,l,e1,h1,hk⟩
 rcases UI h1 with⟨A,j⟩|⟨zh,m,A,j,Q⟩
 have⟨a,c,q1,q2,D,f,i⟩:=LO j;exact u a c q1 q2 D λvs env S w hl=>⟨.inr ⟨e1,(f.resolve_left mK).2⟩,.inr ⟨A,(i.resolve_left mK).2⟩⟩;have⟨a,c,q1,q2,D,f,i⟩:=LO j;obtain i|⟨i,_⟩:=i
 cases i;exact u a m q1 q2 D λvs env S w hl=>⟨.inr ⟨e1,(f.resolve_left mK).2⟩,.inl<|by rw[A];exact uL Z<|Q P vs env S w<|hd A hl⟩
 cases i
 rcases UI h1 with⟨A,j⟩|⟨zh,m,A,j,Q⟩
 have⟨a,c,q1,q2,D,f,i⟩:=LO j;obtain f|⟨f,_⟩:=f
 cases f;exact u l c q1 q2 D λvs env S w hl=>⟨.inl (by rw[e1];exact uL Z<|hk P vs env S w<|hc e1 hl),.inr ⟨A,(i.resolve_left mK).2⟩⟩
 cases f
 have⟨a,c,q1,q2,D,f,i⟩:=LO j;obtain f|⟨f,_⟩:=f
 obtain i|⟨i,_⟩:=i
 cases f;cases i;exact u l m q1 q2 D λvs env S w hl=>⟨.inl (by rw[e1];exact uL Z<|hk P vs env S w<|hc e1 hl),.inl<|by rw[A];exact uL Z<|Q P vs env S w<|hd A hl⟩
 cases i
 cases f
 cases h
 cases h
def zmY(q:yX P cf.tt){f:ut wW}{ts:ut wT}{k:N (K×Dv)->V R}(h:zhV cf cx σ f.toList ts.toList k=Z r):
 ∃l,k l=Z r/\ES P ⟨d,.call ⟨.builtin .len,f,ts⟩,ty,pos,aft,g⟩ cx σ F l:=by
 unfold zhV at h;split at h;rename_i _ _ x t hd M;obtain rfl:f= #[x]:=by cases f;simp_all
 obtain rfl:ts= #[t]:=by cases ts;simp_all
 have z:∀{vs env S w},(∀H∈yP (.call ⟨.builtin .len,#[x],#[t]⟩),Lk P vs env S w cx σ H)->Y0 P vs env S w cx σ x:=λhl=>yK hl (by simp[xaB,xeH]);split at h;rename_i e E B o ht i;split at h;rename_i s j E1 a ix v;refine⟨_,h,uG λenv w S vs A hl=> ?_⟩;have C:(AE s.rep j E1 (vs o) a ix).p S w:=ZZ A v;exact⟨_,_,_,_,[],[mO (Yv<|xT<|vs o) j (yO<|vs o) ix],NN 0 O (qB q ht)<|zj i<|z hl,⟨(Mo C).2.1,wR⟩,wR,λu w' D J=>zu<|wQ<|P8 D⟩;cases h
 rename_i e E B o lo n ht i;split at h;rename_i s j E1 a ix v;refine⟨_,h,zG λenv w S vs hl=> ?_⟩;rcases(zj i (z hl):O6 _ _ _ _).old with⟨b,m,cap,c,q1,q2,G,Q,L⟩|⟨q1,T,c,q2,G⟩
 exact⟨_,RU (qB q ht) L w,zu<|wQ<|P8 W⟩;subst q1;exact⟨_,RU (qB q ht) G w,zu<|wQ mD⟩;cases h
 rename_i e E B o p ht i;split at h;rename_i s j E1 a ix v;refine⟨_,h,uG λenv w S vs A hl=> ?_⟩;have C:(AE s.rep j E1 (vs o) a ix).p S w:=ZZ A v;have hc:(xT<|vs o)[p]? =Z (ev env x):=zj i<|z hl;exact⟨_,_,_,_,[],[mO s.rep E1 (ev env x)<|uO a p],NN 0 O (qB q ht) O,⟨(Ag C hc).1,wR⟩,wR,λu w' D J=>zu<|wQ<|P8 D⟩;cases h
 cases h
 cases h
def Tru:K->Prop:=λ_=>Xs
def zaR(f:FF)(h:f.p S w):f.p Tru w:=f.sub h λ_ _ _=>wR
def n9(C:∀s∈cf.cs,yY P s):∀{dom:N AM}{xs:N wW}{cs:N PD}{k:UU dom->V R},Qx cf cx σ dom xs cs k=Z r->
 ∃z,k z=Z r/\X xs+X cs=X dom/\∀vs env S w,yS S (MS vs σ.ob++(MS vs cx.ob++F)) w->(∀x∈xs,Y0 P vs env S w cx σ x)->∀a:N wN,X a=X cs->zB S (FV cs a) w->zB Tru (jy P dom z<|xs.map (ev env)++a) w
 |[],[],[],k,h=>⟨(),h,O,λ_ _ _ _ _ _ _ _ _=>wR⟩
 |.q t::dom,[],c::cs,k,h=>by
  simp only[Qx]at h;have⟨e,h⟩:=yr h;subst e;have⟨z,h1,l,u⟩:=n9 C h;refine⟨_,h1,by simp at l⊢;lia,λvs env S w i hl a j hc=> ?_⟩
  cases a with
  |nil=>cases j
  |cons v a=>exact⟨zaR _ hc.1,u vs env S w i hl a (by simpa using j) hc.2⟩
 |.d t::dom,x::xs,cs,k,h=>by
  simp only[Qx]at h;split at h;rename_i o lo n hd;split at h;rename_i s E E1 A ix K;have⟨e,h⟩:=yr h;subst e;have⟨z,h1,l,u⟩:=n9 C h;refine⟨_,h1,by simp at l⊢;lia,λvs env S w i hl a j hc=>⟨?_,u vs env S w i (λz D=>hl z<|FS _ D) a j hc⟩⟩;have L:(AE s.rep E E1 (vs o) A ix).p S w:=ZZ i K;have⟨M,Q,a3⟩:=Mo L;have T:(mO (eS s.rep) E (yO<|vs o)<|zc4 A ix).p Tru w:=by have⟨B,q1,q2⟩:=Q;refine⟨B,by unfold zc4;rw[xav];exact q1,?_⟩;exact tn M (λ_ _=>wR) (λ_ _ _ _=>wR) a3 q2
  show(fV (eS<|eS s.rep) (xdB n<|xdO lo<|zc4 A ix)<|ev env x).p Tru w;rcases(zj hd (hl x<|IR):O6 _ _ _ _).old with⟨b,m,cap,c,q1,q2,G,U,Y⟩|⟨q1,H,c,q2,G⟩
  have:=Nx T q1 q2 G U;rw[Y];have⟨H,c',p1,p2,p3,p4⟩:=this;refine wb.2 ⟨H,c',p1,p2,p3,p4.imp id ?_⟩;rintro⟨b',o',B,r1,r2,r3⟩;exact⟨b',o',B,r1,wR,r2,r3⟩;subst q1;rw[G];exact wb.2 ⟨H,c,mK,mK,by unfold V4;lia,.inl mK⟩;cases h
  have⟨y,h,hy⟩:=VN h;have⟨z,h1,l,u⟩:=n9 C h;exact⟨_,h1,by simp at l⊢;lia,λvs env S w i hl a j hc=>⟨zaR _<|hy P vs env S w<|hl x<|IR,u vs env S w i (λz D=>hl z<|FS _ D) a j hc⟩⟩
 |.fn J cod::dom,x::xs,cs,k,h=>by
  simp only[Qx]at h;have⟨f,h,hf⟩:=zhW C h;have⟨z,h1,l,u⟩:=n9 C h;refine⟨_,h1,by simp at l⊢;lia,λvs env S w i hl a j hc=>⟨?_,u vs env S w i (λz D=>hl z<|FS _ D) a j hc⟩⟩
  cases hv:xz cx σ x with
  |none=>rename_i h0;rw[hv]at h0;simp[asF]at h0
  |some v=>exact zaR _<|hf vs S w v _ hv<|zj hv<|hl x<|IR
 |[],_::_,_,_,h=>by simp[Qx]at h
 |[],[],_::_,_,h=>by simp[Qx]at h
 |.d _::_,[],_,_,h=>by simp[Qx]at h
 |.own _ _::_,_,_,_,h=>by simp[Qx]at h
 |.q _::_,_::_,_,_,h=>by simp[Qx]at h
 |.fn _ _::_,[],_,_,h=>by simp[Qx]at h
 |.q _::_,[],[],_,h=>by simp[Qx]at h
def Mz:∀{rs:N RM}{x:Ie (rs.map RM.ty)}{us:N wN},OB rs=wL->zB Tru (csF (rs.map RM.ty) x us) w->zB S (csF (rs.map RM.ty) x us) w
 |[],_,_,_,_=>trivial
 |[.d .i],x,us,_,h=>⟨h.1,wR⟩
 |[.d .u],x,us,_,h=>⟨h.1,wR⟩
 |[.d .b],x,us,_,h=>⟨h.1,wR⟩
 |.d .i::n::r,x,us,a,h=>⟨h.1,Mz (rs:=n::r) a h.2⟩
 |.d .u::n::r,x,us,a,h=>⟨h.1,Mz (rs:=n::r) a h.2⟩
 |.d .b::n::r,x,us,a,h=>⟨h.1,Mz (rs:=n::r) a h.2⟩
def zki(p:∀s∈cf.cs,yY P s)(H:AF P cf){f:wW}{a:ut wW}{ts:ut wT}{k:N (K×Dv)->V R}(h:zaB cf cx σ f a.toList k=Z r):
 ∃l,k l=Z r/\ES P ⟨d,.call ⟨.value f,a,ts⟩,ty,pos,aft,g⟩ cx σ F l:=by
 have u:∀{vs env S w},(∀i∈yP (.call ⟨.value f,a,ts⟩),Lk P vs env S w cx σ i)->Y0 P vs env S w cx σ f:=λhl=>yK hl (by simp[xaB,xeH]);have A:∀{vs env S w},(∀i∈yP (.call ⟨.value f,a,ts⟩),Lk P vs env S w cx σ i)->∀x∈a.toList,Y0 P vs env S w cx σ x:=λhl x j=>yK hl (by simp only[xaB,xeH,Array.toList_append,xaa];exact .inr j);unfold zaB at h;split at h;rename_i f0 cs B;split at h;rename_i s m;have⟨h1,c⟩:=zeo m;have⟨C,e⟩:=H.cl s h1;have⟨z,h,hd,n⟩:=Lj h;refine⟨_,h,uG λenv w S vs D hl=> ?_⟩;have⟨b,hv,o,E⟩:=zj B<|u hl;obtain rfl:b=[]:=xbE.1 o;have hc:=e z (a.toList.map<|ev env) (by simpa using hd);rw[c]at hc C;rw[<-xbm<|a.toList.map<|ev env]at hc;exact⟨_,_,_,_,tsF s.dom z<|a.toList.map (ev env)++[],[],re (asv:=a.toList) C hv hc O<|λS w h=>h,wR,by rw[xbm];exact n P vs env S w<|A hl,λv w' _ hi=>zu hi.1⟩;split at h;rename_i s m;have⟨h1,c,J,L,G⟩:=Ca m;have e:=p s h1;have⟨hn,h⟩:=yf h;have⟨z,h,hd,n⟩:=n9 (F:=F) p h;have⟨q,M,h⟩:=rV h;refine⟨_,h,λenv w S vs U D hl=> ?_⟩;have⟨b,hv,o,E⟩:=zj B<|u hl;have hc:=mV e J L G M (us:=a.toList.map (ev env)++b) (by simp at hd⊢;lia);rw[c]at hc;have Q:=n vs env S w D (A hl) b o E;refine(re (asv:=a.toList) (ms:=[]) (Γ:=jy P s.dom z<|a.toList.map (ev env)++b) (c▸e.1) hv hc O (λS w h=>h) w Tru (λ_ _=>wR) wR Q).mono ?_;rintro v w' ⟨us,rfl,T,j,hi⟩;refine⟨j,?_⟩;unfold zkQ;rw[Iy G,Sm];exact C2 (Mz hn hi)<|by simpa using T
 cases h
 cases h
def zsi(a:yX P cf.tt)(b:kZ P cf.tt)(e:∀s∈cf.cs,yY P s)(f:AF P cf){c:Op}{k:N (K×Dv)->V R}(h:eCo cf cx σ c k=Z r):∃l,k l=Z r/\ES P ⟨d,c,ty,pos,aft,g⟩ cx σ F l:=by unfold eCo at h;split at h;exact zkB a h;exact zeY a b h;exact zh7 a h;exact ze5 a b h;exact zmY a h;exact zki e f h;cases h
def zlX(b:yX P cf.tt)(c:kZ P cf.tt)(e:∀s∈cf.cs,yY P s)(f:AF P cf){a:Op}{k:N (K×Dv)->V R}(h:eOp cf cx σ a k=Z r):∃l,k l=Z r/\ES P ⟨d,a,ty,pos,aft,g⟩ cx σ F l:=by
 unfold eOp at h;cases hc:zpB cf cx σ a<;>rw[hc]at h
 exact zmq b c e f.ex h;exact zsi b c e f h
end
end
section
section
variable{P:jP}{cf:Cf}{fr:Fr}{cx σ:Sg}{vs vs':wr->wN}{env:y6}{w:wP}{R:Type}{r:R}
 {d:ww Z4}{ty t yt:wT}{pos:String}{aft:ut Edge}{g:ww (wr×v6)}{x y:wW}
abbrev GS(P:jP)(vs:K->wN)(env:y6)(fr:Fr)(cx σ:Sg):N FF:=RS P vs env σ.rg++(RS P vs env cx.rg++fr.G)
abbrev OS(vs:K->wN)(fr:Fr)(cx:Sg)(ob:N (K×Od)):N MF:=MS vs ob++(MS vs cx.ob++fr.F)
def YW{S:K->Prop}(h:zB S (GS P vs env fr cx σ) w)(t:Z4):Lk P vs env S w cx σ t:=by
 intro i dv hd;obtain hm|hm:=B3 hd
 exact J8 (zB.left h) hm;exact J8 (zB.left<|zB.right h) hm
def zL{S:K->Prop}(h:zB S (GS P vs env fr cx σ) w)(x:wW):Y0 P vs env S w cx σ x:=λt _=>YW h t
def cU(P:jP)(fr:Fr)(cx σ:Sg)(vs:K->wN)(env:y6)(w:wP):Prop:=Bd cx σ/\St fr.we fr.Se (OS vs fr cx σ.ob) (GS P vs env fr cx σ) w
def nH(P:jP)(fr:Fr)(cx:Sg)(n:K)(vs:K->wN)(σ:Sg)(env:y6)(w:wP):Prop:=∃vs',(∀o,o<n->vs' o=vs o)/\cU P fr cx σ vs' env w
def nH.rel{n:K}(h:nH P fr cx n vs σ env w):uD P fr cx σ env w:=by have⟨vs',_,h1,a⟩:=h;exact⟨h1,vs',a⟩
theorem Iz{v:wN}{σ':Sg}{l:N (K×Dv)}{Γl:N FF}(c:Bd cx σ)(hd:wJ cx d=wL)(i:σ'.rg=qt σ.rg d l)(hn:σ.nx<=σ'.nx)(j:∀o,o<σ.nx->vs' o=vs o)
 (hl:∀e∈l,∀o,vt e.2=Z o->o<σ'.nx) (n:∀e∈σ'.ob,e.1<σ'.nx) (q:∀S w,zB S Γl w->∀e∈l,(vS P vs' e.2 v e.1).p S w)
 (s:St fr.we fr.Se (OS vs' fr cx σ'.ob) (Γl++GS P vs env fr cx σ) w):cU P fr cx σ' vs' (put env d v) w:=by
 refine⟨⟨n,λe he=>xag (c.o2 e he) hn,?_,λe he o a=>xag (c.r2 e he o a) hn⟩,s.weak λS w h=> ?_⟩;intro e he o a;rw[i]at he;unfold qt at he
 cases d with
 |none=>exact xag (c.r1 e he o a) hn
 |some t=>
  obtain he|he:=xaa.1 he
  grind;exact xag (c.r1 e (xbU.1 he).1 o a) hn
 have b:=zB.right h;have h1:zB S (RS P vs' env σ.rg) w:=by rw[uo (λe he o a=>j o<|c.r1 e he o a)<|λ_ _=>O];exact zB.left b
 have k:zB S (RS P vs' env cx.rg) w:=by rw[uo (λe he o a=>j o<|c.r2 e he o a)<|λ_ _=>O];exact zB.left<|zB.right b
 have m:=zB.right<|zB.right b
 cases d with
 |none=>
  unfold GS;rw[show σ'.rg=σ.rg from i];exact zB.append h1<|zB.append k m
 |some t=>
  have u:RS P vs' (put env (Z t) v) cx.rg=RS P vs' env cx.rg:=uo (λ_ _ _ _=>O) λe he=>mH λht=>by
   simp only[wJ,XY,xaT]at hd;have:=hd e he;simp only[xau]at ht;rw[ht]at this;simp at this
  unfold GS;rw[i,u];refine zB.append (kG.2 λf hp=> ?_)<|zB.append k m;obtain⟨e,he,rfl⟩:=xas.1 hp;obtain he|he:=xaa.1 he
  obtain⟨z,A,rfl⟩:=xas.1 he;simp only[Dp];exact q S w (zB.left h) z A
  have⟨B,hi⟩:=xbU.1 he;have C:Z t≠Z e.1:=λhc=>by
   simp only[xau]at hc;rw[hc]at hi;simp at hi
  rw[mH C];exact J8 h1 B
def J9{v:wN}{σ':Sg}{l:N (K×Dv)}{Γl:N FF}(b:Bd cx σ)(hd:wJ cx d=wL)(hc:σ'.rg=qt σ.rg d l)(hn:σ.nx<=σ'.nx)(a:∀o,o<σ.nx->vs' o=vs o)
 (hl:∀e∈l,∀o,vt e.2=Z o->o<σ'.nx) (c:∀e∈σ'.ob,e.1<σ'.nx) (f:∀S w,zB S Γl w->∀e∈l,(vS P vs' e.2 v e.1).p S w)
 (h:St fr.we fr.Se (OS vs' fr cx σ'.ob) (Γl++GS P vs env fr cx σ) w):nH P fr cx σ.nx vs σ' (put env d v) w:=⟨vs',a,Iz b hd hc hn a hl c f h⟩
def zju(P:jP)(vs:K->wN)(v:wN)(l:N (K×Dv)):N FF:=l.map λe=>vS P vs e.2 v e.1
def Pn{n:K}{l:N (K×Dv)}(h:okL n l=wL):∀e∈l,∀o,vt e.2=Z o->o<n:=by intro e a o b;unfold okL at h;rw[xaT]at h;have:=h e a;simp_all
def ES.mono{o:uT}{l:N (K×Dv)}{F:N MF}(h:ES P o cx σ [] l):ES P o cx σ F l:=by
 intro env w S vs h1 a b;refine h env w S vs h1 (Yf.2 λm hm=>Yf.1 a m ?_) b;obtain hm|hm:=xaa.1 hm
 simp_all;simp_all
def zl8{o:uT}{l:N (K×Dv)}(h:ES P o cx σ fr.F l)(hd:wJ cx o.dst=wL)(hl:okL σ.nx l=wL)(q:cU P fr cx σ vs env w):ui P o env w (λv w'=>nH P fr cx σ.nx vs (σ.put o.dst l) (put env o.dst v) w'):=by have⟨j,h1,s,u,S,z,n,A,b,p⟩:=q;refine(h env w S vs n b λt _=>YW p t).mono ?_;rintro v w' ⟨a,B⟩;refine J9 (σ':=σ.put o.dst l) (Γl:=zju P vs v l) j hd O (So _) (λ_ _=>O) (Pn hl) j.o1 (λS w C e c=>kG.1 C _<|xas.2 ⟨e,c,O⟩) ?_;refine⟨h1.trans a,s,u,S,z,λk D=>n k<|xal a.size D,A,yS.keep a.to (λm E i hi=>a.block i (yS.lt b m E i hi) wR) b,zB.append (kG.2 λf hc=> ?_)<|zB.keep a.to p⟩;obtain⟨e,c,rfl⟩:=xas.1 hc;exact B e c
def iR(P:jP)(cx:Sg)(o:uT)(σ:Sg)(k:Sg->V R)(r:R):Prop:=∃σ',k σ'=Z r/\σ.nx<=σ'.nx/\∀(fr:Fr) (vs:K->wN) (env:y6) (w:wP),cU P fr cx σ vs env w->ui P o env w (λv w'=>nH P fr cx σ.nx vs σ' (put env o.dst v) w')
def m_E(hT:yX P cf.tt)(hL:kZ P cf.tt)(hC:∀s∈cf.cs,yY P s)(hX:AF P cf){op:Op}{k:Sg->V R}(hd:wJ cx d=wL)(h:mE cf cx σ d op k=Z r):iR P cx ⟨d,op,ty,pos,aft,g⟩ σ k r:=by
 obtain⟨l,h,ha⟩:=zlX hT hL hC hX h;obtain⟨hl,h⟩:=yf h;exact⟨_,h,So _,λfr vs env w hR=>zl8 ha.mono hd hl hR⟩
def XX(vs:K->wN)(n:K)(v:wN):K->wN:=λo=>bif E o n then v else vs o
def wi{n:K}{v:wN}:XX vs n v n=v:=by simp[XX]
def kJ{n o:K}{v:wN}(h:o<n):XX vs n v o=vs o:=by unfold XX;rw[Yw W];rfl
def zgS{n:K}{v:wN}{ob:N (K×Od)}(h:∀e∈ob,e.1<n):MS (XX vs n v) ob=MS vs ob:=wC λe a=>kJ<|h e a
def MI{v:wN}{ob:N (K×Od)}(a:Bd cx σ)(h:∀e∈ob,e.1<σ.nx):OS (XX vs σ.nx v) fr cx ob=OS vs fr cx ob:=by show MS _ ob++(MS _ cx.ob++_)=_;rw[zgS h,zgS a.o2]
theorem KS{v:wN}{mk:K->Dv}{X:Od}{ob:N (K×Od)}(a:Bd cx σ)(hd:wJ cx d=wL)(b:∀e∈ob,e.1<σ.nx)(i:∀o,vt (mk o)=Z o)(hc:∀S w,(vC P (XX vs σ.nx v) (mk σ.nx) v).p S w)
 (c:St fr.we fr.Se (Ki (XX vs σ.nx v) (σ.nx,X)::OS vs fr cx ob) (GS P vs env fr cx σ) w):nH P fr cx σ.nx vs ⟨σ.nx+1,qt σ.rg d [(0,mk σ.nx)],(σ.nx,X)::ob⟩ (put env d v) w:=by
 refine J9 (vs':=XX vs σ.nx v) (Γl:=[]) a hd O (xbz _) (λo f=>kJ f) ?_ ?_ ?_ ?_;simp_all;grind;intro S w _ e h;obtain rfl:=xac.1 h;exact hc S w;show St _ _ (Ki (XX vs σ.nx v) (σ.nx,X)::OS (XX vs σ.nx v) fr cx ob) _ _;rw[MI a b];exact c
def KI{v:wN}(S:K->Prop)(w:wP):(vC P (XX vs σ.nx v) (.ow σ.nx) v).p S w:=(wi).symm
def Rm{t:Ty}{b:K}(S:K->Prop)(w:wP):(vC P (XX vs σ.nx (.pointer<|some ⟨b,0,wF⟩)) (.vs σ.nx t) (.pointer<|some ⟨b,0,wF⟩)).p S w:=⟨wi.symm,b,wi⟩
def Uw{t:Ty}{E:wT}{xs:N t.D}{n:K}{v:wN}:Ki (XX vs n v) (n,.own t E xs)=mO t.rep E v xs:=by simp only[Ki,wi]
def LG{t:Ty}{E:wT}{z:t.D}{n:K}{v:wN}:Ki (XX vs n v) (n,.var t E z)=mP t.rep.c E v z:=by simp only[Ki,wi]
def zka(j:yX P cf.tt){E:wT}{k:Sg->V R}(hd:wJ cx d=wL)(h:SR cf σ d E k=Z r):iR P cx ⟨d,.alloc E,ty,pos,aft,g⟩ σ k r:=by unfold SR at h;split at h;rename_i a l;have⟨f,hc,s,m⟩:=YS j l;refine⟨_,h,xbz _,λfr vs env w n=> ?_⟩;have⟨i,p⟩:=n;refine(tQ (e:=a.ty.rep.c) hc m w p).mono ?_;rintro v w' ⟨b,rfl,_,q⟩;refine KS (mk:=λo=> .vs o a.ty) i hd i.o1 (λ_=>O) (λS w=>Rm S w) ?_;rw[LG];exact q.toP 0 O;cases h
def zps{E:wT}{k:Sg->V R}(hd:wJ cx d=wL)(h:znv cf cx σ d E x k=Z r):iR P cx ⟨d,.box E x,ty,pos,aft,g⟩ σ k r:=by unfold znv at h;split at h;rename_i c l;have⟨y,h,e⟩:=VN h;refine⟨_,h,xbz _,λfr vs env w f=> ?_⟩;have⟨a,hc⟩:=f;refine(zlb O (λS w i=>e P vs env S w<|zL i x) w hc).mono ?_;rintro v w' ⟨b,rfl,_,j⟩;refine KS (mk:=λo=> .vs o c.ty) a hd a.o1 (λ_=>O) (λS w=>Rm S w) ?_;rw[LG];exact j.toP 0 O;cases h
def zcf(h:zbj x y=wL):ev env x=ev env y:=by unfold zbj at h;split at h;rw[zY h];simp only[eqI,Us]at h;rw[h];cases h
def znL(a:yX P cf.tt){k:Sg->V R}(hd:wJ cx d=wL)(h:zhr cf cx σ d t x y k=Z r):iR P cx ⟨d,.makeSlice t x y,ty,pos,aft,g⟩ σ k r:=by
 unfold zhr at h;split at h;rename_i s E B ht;have⟨hi,h⟩:=yf h;split at h;rename_i f n i hn;have⟨C,h⟩:=yr h;subst C;have⟨l,hl,K,D⟩:=YS a i;have⟨j,F,h⟩:=zbt h;have⟨m,h⟩:=ZO h;have⟨xs,o,h⟩:=xN h;refine⟨_,h,xbz _,λfr vs env w G=> ?_⟩;have⟨p,q⟩:=G;have⟨S0,_,c⟩:=q.ex;have u:ev env x=.int .i64 (j:J):=by rw[(w6 hn<|zL c x).1,F]
 have A:=(a _ _ i).2.1;refine(RV (e:=f.ty.rep) (z:=f.ty.z) (xs:=xs) (n:=j) (qB a ht) hl u ((zcf hi).symm.trans u) A m D o w q).mono ?_;rintro v w' ⟨b,rfl,_,H⟩;refine KS (vs:=vs) (mk:=.ow) p hd p.o1 (λ_=>O) (λS w=>KI S w) ?_;rw[Uw];have hc:X xs=j:=by rw[o];exact xaM
 have:=H.closeF 0 O (by rw[hc];exact So _)<|zgH A m;rw[hc]at this;exact this;cases h
 cases h
def zpE(c:yX P cf.tt)(f:kZ P cf.tt){n:K}{ps:ut (K×wW)}{k:Sg->V R}(hd:wJ cx d=wL)(h:zoI cf cx σ d t n ps.toList k=Z r):iR P cx ⟨d,.buildSlice t n ps,ty,pos,aft,g⟩ σ k r:=by
 unfold zoI at h;split at h;rename_i e E B ht;have⟨hc,h⟩:=yf h;have hc:=xbH hc;rw[<-e.n_rep]at hc;have⟨ys,h,m,o⟩:=nZ h;have⟨bytes,i,hi⟩:=K2 c f ht;refine⟨_,h,xbz _,λfr vs env w p=> ?_⟩;have⟨j,s⟩:=p;have u:(ps.toList.map λq:K×wW=>(q.1,ev env q.2)).map (·.1)=xfv 0 (X (ps.toList.map λq:K×wW=>(q.1,ev env q.2))):=by rw[xdg,xav];exact m
 have l:=λ(S:K->Prop) (w:wP) (a:zB S (GS P vs env fr cx σ) w)=>IA u<|o P vs env S w λx _=>zL a x;refine(zgz (qB c ht) hi (ziM c f ht) (ib n e ys) hc O (λS w a=>by have:=(l S w a).1;rwa[xcC]at this) (λS w a=>(l S w a).2) w s).mono ?_;rintro v w' ⟨b,rfl,_,z⟩;refine KS j hd j.o1 (λ_=>O) (λS w=>KI S w) ?_;rw[Uw];exact z;cases h
end
end
end Go.Proofs.YtoegnnjcmlghhaaGreat
