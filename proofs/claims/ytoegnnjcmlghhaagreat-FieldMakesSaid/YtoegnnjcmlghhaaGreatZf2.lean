/- What a proof needs: rules of walking, mirrors of functions and their plain laws. No condition. -/
import Derived.Test.YtoegnnjcmlghhaaGreatZf1
import Derived.WideKeyArgs
import Derived.Laws.IdiomStrings
set_option linter.all false
namespace Go.Proofs.YtoegnnjcmlghhaaGreat
open Bool renaming false->I,true->wF
open Go renaming Value->wN,World->wP,TypeId->wT,Operand->v6,Program->jp,execOp->jP,run_underlying->kw,undef->uP,Oper->uS,FuncId->Z5,Tmp->Z9,IntKind->Xs,Code->Wn,resolve->Wr,ResultVar->WL,sizeOf->WN,maxLen->WP,invoke->V1,BinOp->V2,eqGuard->V3,asIntOf->V4,Func->QR,Addr->JP,MemPlace->Kw,builtin->Ul,Calls->Us,goInt->eM,DataW->fN
open Go.Proofs.YtoegnnjcmlghhaaGreat renaming Zr->M,bd->Y,za->U,nm->B,ze->Q
open List renaming length->X,length->i0
open Nat renaming beq->E
open Option renaming some->Z,none->wL
open _root_ renaming rfl->O,List->N,Int->J,Nat->K,Option->V,List->xS,Nat->wr,Option->ww,absurd->wR,trivial->wS,Bool->wW,congrArg->kW,Array->ul,if_false->ut,if_true->uL,decide_eq_false->uT,cond_true->Z0,cond_false->Z2,Unit->Z4,True->XS,ByteArray->Wd,reduceCtorEq->Ws,decide_eq_true_eq->WW,Decidable->V0,False->V6,true_and->eL
open Bool renaming and_eq_true->xab,false_eq_true->xak
open Call renaming operands->xeu
open DataW renaming TrodAll->xeK
open Extern renaming find->xeW,findNext->xeE
open Extern.MathBitsCarry renaming m64->xaY,pair->xbU,three->xbO
open Instr renaming fill->xdt,slice->xfP,sliceAt->xde,sliceBound->xev,sliceBounds->xem
open Int renaming eq_ofNat_of_zero_le->xaA,fdiv->xfV,natCast_nonneg->xdm,tdiv->xct,tmod->xca,toNat_natCast->xbc,toNat_of_nonneg->xdj
open IntKind renaming bits->xeB,i64->xdi,signed->xei,u8->xga,wrap->xfU
open List renaming all_eq_true->xaN,append_assoc->xaf,append_nil->xbP,drop->xdM,eq_nil_of_length_eq_zero->xbm,getD->xex,getD_eq_getElem?_getD->H1,getElem?_append_left->xaR,getElem?_append_right->xbj,getElem?_eq_getElem->xah,getElem?_eq_some_iff->xaq,getElem?_map->xcg,getElem?_range->xdR,getElem_mem->xbE,length->xaF,length_append->xap,length_cons->xau,length_eq_one_iff->xcN,length_eq_zero_iff->xbs,length_map->xbd,length_nil->xbH,length_replicate->xaZ,length_take->xax,map_congr_left->xci,map_cons->xcb,map_map->xdb,mem_append->So,mem_cons->xaa,mem_cons_of_mem->UV,mem_cons_self->FS,mem_filter->xcj,mem_filterMap->xfh,mem_map->xat,mem_of_getElem?->xbq,mem_singleton->xad,nil_append->xby,not_mem_nil->IR,range->xaH,range'->xfv,replicate->xac,set->xgb,set_append_left->xeN,set_append_right->xdD,set_cons_succ->xfg,set_getElem_self->xdk,take->xdB,take_append_drop->xbv,take_of_length_le->xaQ
open List.cons renaming injEq->xeF
open Nat renaming add_assoc->xcU,add_mul->xbb,beq->xaj,ble->xfY,blt->xdh,eq_of_beq_eq_true->xcP,eq_zero_or_pos->xcB,le_of_ble_eq_true->xbJ,le_of_lt->xda,le_refl->Nm,le_succ->xbN,le_trans->xal,lt_of_le_of_lt->xaK,lt_of_lt_of_le->xao,lt_or_ge->xbW,lt_succ_of_lt->xfw,lt_succ_self->xbS,mod_lt->xaS,not_lt_zero->xbn,one_mul->xcy,zero_add->xaJ,zero_le->xai,zero_mul->xcu
open Op renaming operands->xaC
open Oper renaming looksAt->xbA
open Option.some renaming inj->xdC,injEq->xar
open Prod.mk renaming injEq->xcO
open Result renaming andThen_ok->xag
open Sem renaming run_bind->xay,run_pure->xaG
open Sum renaming elim->xfB
open UInt8 renaming ofNat->xeX,toNat->xfu
open Value renaming okWide->xer
open _root_.Array renaming getElem?_eq_getElem->xcI,getElem?_eq_some_iff->xbi
section
structure WZ where
 f:Z5
 dom:N AM
 cod:N RM
 M:cF dom->V (lZ cod)
 bk:K
structure Ck where
 f:Z5
 t:Ty
 E:wT
 E1:wT
 M:N (N t.D)->N K->K->J->J->K->K->V (N<|N t.D)
structure PF where
 f:Z5
 dom:N Ty
 g:Z5
 mc:mb dom->N PD
structure E5 where
 f:Z5
 dom:N AM
 t:Ty
 E:wT
 M:cF dom->{X Y:Type}->(N t.D->X->V (N t.D×(X⊕Y)))->X->V (X⊕Y)
structure Cf where
 tt:N (K×TI)
 cs:N WZ
 an:An
 fu:K
 ex:N (K×wW)
 ms:N Ck:=[]
 cl:N PF:=[]
 is:N E5:=[]
def zdF:N Ck->Z5->V Ck
 |[],_=>wL
 |s::r,f=>bif E s.f f then Z s else zdF r f
def zf3:N PF->Z5->V PF
 |[],_=>wL
 |s::r,f=>bif E s.f f then Z s else zf3 r f
def zi3:N E5->Z5->V E5
 |[],_=>wL
 |s::r,f=>bif E s.f f then Z s else zi3 r f
abbrev qM{R:Type}(b:wW)(x:V R):V R:=match b with
 |true=>x
 |false=>wL
abbrev OU{R:Type}(b:wW)(x y:V R):V R:=match b with
 |true=>x
 |false=>y
def CH:N AM->wW
 |[]=>wF
 |.own _ _::_=>I
 |.var _ _::_=>I
 |_::r=>CH r
def noV:N RM->wW
 |[]=>wF
 |.var _ _::_=>I
 |_::r=>noV r
def GQ:N WZ->Z5->V WZ
 |[],_=>wL
 |s::r,f=>bif E s.f f && (CH s.dom && (E s.bk 0 && noV s.cod))then Z s else GQ r f
section
variable{R:Type}(cf:Cf)(cx:Sg)
def zjQ:Dv->V PD
 |.d t x=>Z ⟨t,x⟩
 |.kb b=>Z ⟨.b,b⟩
 |_=>wL
def A6(v:V Dv)(t:Ty)(k:t.D->V R):V R:=match v with
 |some .nil=>(match t,k with
  |.l s,k=>k ([]:N s.D)
  |_,_=>wL)
 |some .np=>(match t,k with
  |.po s,k=>k (wL:V s.D)
  |_,_=>wL)
 |some (.q s y)=>(match t,k with
  |.po a,k=>Ty.cast s a y λy=>k (Z y:V a.D)
  |_,_=>wL)
 |some v=>(match zjQ v with
  |some p=>Ty.cast p.t t p.x k
  |none=>wL)
 |none=>wL
def arI(b:V2)(a c:J)(k:Dv->V R):V R:=match b with
 |.add=>Q (a+c) λx=>k (.d .i x)
 |.sub=>Q (a-c) λx=>k (.d .i x)
 |.mul=>Q (a*c) λx=>k (.d .i x)
 |.quo=>ck (c≠0)<|Q (xct a c) λx=>k (.d .i x)
 |.rem=>ck (c≠0)<|B (xca a c) λx=>k (.d .i x)
 |.and=>B (SV a c) λx=>k (.d .i x)
 |.or=>B (orI a c) λx=>k (.d .i x)
 |.shr=>ck (0<=c)<|B (xfV a<|2^(min c.toNat 64)) λx=>k (.d .i x)
 |.shl=>ck (0<=c)<|Q (a*2^(min c.toNat 64)) λx=>k (.d .i x)
 |.lss=>if a<c then k (.kb wF)else k (.kb I)
 |.leq=>if a<=c then k (.kb wF)else k (.kb I)
 |.gtr=>if c<a then k (.kb wF)else k (.kb I)
 |.geq=>if c<=a then k (.kb wF)else k (.kb I)
 |.eql=>if a=c then k (.kb wF)else k (.kb I)
 |.neq=>if a=c then k (.kb I)else k (.kb wF)
 |_=>wL
def arU(b:V2)(a c:K)(k:Dv->V R):V R:=match b with
 |.add=>B ((a+c)%18446744073709551616) λx=>k (.d .u x)
 |.sub=>B ((a+18446744073709551616-c)%18446744073709551616) λx=>k (.d .u x)
 |.mul=>B ((a*c)%18446744073709551616) λx=>k (.d .u x)
 |.quo=>ck (c≠0)<|B (a/c) λx=>k (.d .u x)
 |.rem=>ck (c≠0)<|B (a%c) λx=>k (.d .u x)
 |.and=>B (a &&& c) λx=>k (.d .u x)
 |.or=>B (a|||c) λx=>k (.d .u x)
 |.lss=>if(a:J)<(c:J)then k (.kb wF)else k (.kb I)
 |.leq=>if(a:J)<=(c:J)then k (.kb wF)else k (.kb I)
 |.gtr=>if(c:J)<(a:J)then k (.kb wF)else k (.kb I)
 |.geq=>if(c:J)<=(a:J)then k (.kb wF)else k (.kb I)
 |.eql=>if(a:J)=(c:J)then k (.kb wF)else k (.kb I)
 |.neq=>if(a:J)=(c:J)then k (.kb I)else k (.kb wF)
 |_=>wL
def arC(b:V2)(a c:K)(k:Dv->V R):V R:=match b with
 |.add=>B ((a+c)%256) λx=>k (.d .ch x)
 |.sub=>B ((a+256-c)%256) λx=>k (.d .ch x)
 |.lss=>if(a:J)<(c:J)then k (.kb wF)else k (.kb I)
 |.leq=>if(a:J)<=(c:J)then k (.kb wF)else k (.kb I)
 |.gtr=>if(c:J)<(a:J)then k (.kb wF)else k (.kb I)
 |.geq=>if(c:J)<=(a:J)then k (.kb wF)else k (.kb I)
 |.eql=>if(a:J)=(c:J)then k (.kb wF)else k (.kb I)
 |.neq=>if(a:J)=(c:J)then k (.kb I)else k (.kb wF)
 |_=>wL
def eqT(b:V2)(a c:N K)(k:Dv->V R):V R:=match b with
 |.add=>ck (X a+X c<=9223372036854775807)<|B (a++c) λx=>k (.d .tx x)
 |.eql=>if a=c then k (.kb wF)else k (.kb I)
 |.neq=>if a=c then k (.kb I)else k (.kb wF)
 |_=>wL
def shU(b:V2)(a:K)(c:J)(k:Dv->V R):V R:=match b with
 |.shr=>ck (0<=c)<|B (a/2^(min c.toNat 64)) λx=>k (.d .u x)
 |.shl=>ck (0<=c)<|B (a*2^(min c.toNat 64)%18446744073709551616) λx=>k (.d .u x)
 |_=>wL
def zc4(b:V2)(a c:K)(k:Dv->V R):V R:=match b with
 |.shr=>B (a/2^(min (c:J).toNat 64)) λx=>k (.d .u x)
 |.shl=>B (a*2^(min (c:J).toNat 64)%18446744073709551616) λx=>k (.d .u x)
 |_=>wL
def shI(b:V2)(a:J)(c:K)(k:Dv->V R):V R:=match b with
 |.shr=>B (xfV a<|2^(min (c:J).toNat 64)) λx=>k (.d .i x)
 |.shl=>Q (a*2^(min (c:J).toNat 64)) λx=>k (.d .i x)
 |_=>wL
def eqB(e:V2)(a c:wW)(k:Dv->V R):V R:=match e with
 |.eql=>B (a==c) λx=>k (.d .b x)
 |.neq=>B (!(a==c)) λx=>k (.d .b x)
 |_=>wL
def zc2(a:V2)(b:wW)(k:Dv->V R):V R:=match a with
 |.eql=>if b=wF then k (.kb wF)else k (.kb I)
 |.neq=>if b=wF then k (.kb I)else k (.kb wF)
 |_=>wL
def eqP(a:V2)(x:V Dv)(k:Dv->V R):V R:=match x with
 |some .np=>zc2 a wF k
 |some (.q _ _)=>zc2 a I k
 |some (.vs _ _)=>zc2 a I k
 |some (.d (.po s) y)=>zc2 a (Option.isNone (α:=s.D) y) k
 |_=>wL
def zjw:V Dv->wW
 |some .np=>wF
 |_=>I
def zmg(d:wW)(bo:V2)(x y:V PD)(k:Dv->V R):V R:=match x,y with
 |some ⟨.i,a⟩,Z ⟨.i,c⟩=>arI bo a c k
 |some ⟨.u,a⟩,Z ⟨.u,c⟩=>(match bo with
  |.shr=>zc4 .shr a c k
  |.shl=>zc4 .shl a c k
  |bo=>arU bo a c k)
 |some ⟨.u,a⟩,Z ⟨.i,c⟩=>shU bo a c k
 |some ⟨.i,a⟩,Z ⟨.u,c⟩=>shI bo a c k
 |some ⟨.b,a⟩,Z ⟨.b,c⟩=>qM d<|eqB bo a c k
 |some ⟨.ch,a⟩,Z ⟨.ch,c⟩=>arC bo a c k
 |some ⟨.tx,a⟩,Z ⟨.tx,c⟩=>eqT bo a c k
 |_,_=>wL
def chI(a:K):Dv:=.d .i (a:J)
def chU(a:K)(k:Dv->V R):V R:=B (a%256) λx=>k (.d .ch x)
def znA(b:TK)(x:V PD)(k:Dv->V R):V R:=match b,x with
 |.int .i64,Z ⟨.i,a⟩=>k (.d .i a)
 |.int .u64,Z ⟨.u,a⟩=>k (.d .u a)
 |.int .u64,Z ⟨.i,a⟩=>B (DE a) λx=>k (.d .u x)
 |.int .i64,Z ⟨.u,a⟩=>B (sgn a) λx=>k (.d .i x)
 |.int .i64,Z ⟨.ch,a⟩=>k<|chI a
 |.int .u64,Z ⟨.ch,a⟩=>k (.d .u a)
 |.int .u8,Z ⟨.ch,a⟩=>k (.d .ch a)
 |.int .u8,Z ⟨.u,a⟩=>chU a k
 |_,_=>wL
def pd(σ:Sg)(x:v6):V PD:=match xC cx σ x with
 |some v=>zjQ v
 |none=>wL
def ZG(t:wT):V TI:=K2 cf.tt t
def isB(t:wT):wW:=match ZG cf t with
 |some ⟨_,.bool,_⟩=>wF
 |_=>I
def zhP(t:wT):wW:=match ZG cf t with
 |some ⟨_,.pt _,_⟩=>wF
 |_=>I
def zlN(σ:Sg)(x:v6)(k:N (K×Dv)->V R):V R:=match xC cx σ x with
 |some (.q t y)=>k [(0,.q t y)]
 |some (.vs o t)=>k [(0,.vs o t)]
 |some (.d (.po t) y)=>Y (β:=t.D) y λy=>k [(0,.q t y)]
 |_=>wL
def ifB(x:wW)(a c:V R):V R:=if x=wF then a else c
def eqI(x y:J):wW:=decide<|x=y
def eqU(x y:K):wW:=decide<|x=y
def ngI(a:J)(k:Dv->V R):V R:=Q (0-a) λx=>k (.d .i x)
def ngU(a:K)(k:Dv->V R):V R:=B ((18446744073709551616-a)%18446744073709551616) λx=>k (.d .u x)
def znZ{α:Type}(xs ys:N α)(B:K)(k:N α->V R):V R:=ck ((X xs+X ys)*B<=140737488355328)<|nm (xs++ys) k
def zp6{α:Type}(xs:N α)(n:K)(z:α)(B:K)(k:N α->V R):V R:=ck ((X xs+n)*B<=140737488355328)<|nm (xs++xac n z) k
def ixU(j:K)(n:K)(k:K->V R):V R:=zD (j:J) n k
def zaH:v6->v6->wW
 |.tmp s,.tmp t=>E s t
 |.const (.int .i64 x),.const (.int .i64 y)=>eqI x y
 |_,_=>I
def exU(b:wW)(x y z:K)(k:N (K×Dv)->V R):V R:=
 ck (z<=1)<|OU b (B ((x+y+z)%18446744073709551616) λp=>B ((x+y+z)/18446744073709551616) λq=>k [(1,.d .u p),(2,.d .u q)])
  (B ((x+18446744073709551616-y-z)%18446744073709551616) λp=>B (if x<y+z then(1:K)else 0) λq=>k [(1,.d .u p),(2,.d .u q)])
def exD(b:wW)(x y z:V PD)(k:N (K×Dv)->V R):V R:=match x,y,z with
 |some ⟨.u,x⟩,Z ⟨.u,y⟩,Z ⟨.u,z⟩=>exU b x y z k
 |_,_,_=>wL
def parts(σ:Sg):(ts:N Ty)->N (K×v6)->K->(mb ts->V R)->V R
 |[],[],_,k=>k ()
 |t::ts,(i,x)::r,j,k=>qM (E i j)<|A6 (xC cx σ x) t λy=>parts σ ts r (j+1) λys=>k (y,ys)
 |_,_,_,_=>wL
def zca:(k:K)->Ty->N Ty
 |0,_=>[]
 |1,t=>[t]
 |k+2,.p s t=>s::zca (k+1) t
 |_,_=>[]
def cj:(k:K)->(t:Ty)->mb (zca k t)->V t.D
 |0,_,_=>wL
 |1,t,x=>Z x.1
 |k+2,.p s t,x=>match cj (k+1) t x.2 with
  |some y=>Z (x.1,y)
  |none=>wL
 |_+2,.i,_=>wL
 |_+2,.u,_=>wL
 |_+2,.b,_=>wL
 |_+2,.l _,_=>wL
 |_+2,.a _ _,_=>wL
 |_+2,.ch,_=>wL
 |_+2,.tx,_=>wL
 |_+2,.po _,_=>wL
 |_+2,.w1 _,_=>wL
def EB:K->Ty->N Ty
 |0,_=>[]
 |n+1,t=>t::EB n t
def mM:(n:K)->(t:Ty)->mb (EB n t)->N t.D
 |0,_,_=>[]
 |n+1,t,x=>x.1::mM n t x.2
def UU(σ:Sg):N v6->V (N PD)
 |[]=>Z []
 |x::r=>match xC cx σ x,UU σ r with
  |some (.q t y),Z l=>Z (⟨t,y⟩::l)
  |_,_=>wL
def KZ:(a:N AM)->N PD->V (cF a)
 |[],[]=>Z ()
 |.q t::r,c::cs=>Ty.cast c.t t c.x λy=>match KZ r cs with
  |some z=>Z (y,z)
  |none=>wL
 |_,_=>wL
def EJ:(full:N AM)->(dom:N Ty)->mb dom->N PD->V (cF full)
 |full,[],_,cs=>KZ full cs
 |.d t::r,s::dom,x,cs=>Ty.cast s t x.1 λy=>match EJ r dom x.2 cs with
  |some z=>Z (y,z)
  |none=>wL
 |_,_::_,_,_=>wL
def IX:(s t:N Ty)->V (PLift<|s=t)
 |[],[]=>Z ⟨O⟩
 |s::a,t::ts=>match Ty.same s t,IX a ts with
  |some ⟨h⟩,Z ⟨b⟩=>Z ⟨h▸b▸O⟩
  |_,_=>wL
 |_,_=>wL
def RM.D_ty:∀r:RM,r.D=r.ty.D
 |.d _=>rfl
 |.own _ _=>rfl
 |.var _ _=>rfl
def XY:∀rs:N RM,lZ rs=Gy (rs.map RM.ty)
 |[]=>rfl
 |[m]=>RM.D_ty m
 |m::n::r=>by show(m.D×lZ (n::r))=(m.ty.D×Gy ((n::r).map RM.ty));rw[RM.D_ty m,XY (n::r)]
def asF(σ:Sg)(v:V Dv)(dom cod:N Ty)(k:(mb dom->V (Gy cod))->V R):V R:=match v with
 |some (.fn f c)=>(match GQ cf.cs f with
  |some s=>(match IX (s.cod.map RM.ty) cod with
   |some ⟨h⟩=>k λx=>match EJ s.dom dom x c with
    |some y=>((XY s.cod).trans<|kW Gy h)▸s.M y
    |none=>wL
   |none=>wL)
  |none=>wL)
 |some (.fp d c g)=>(match IX d dom,IX c cod with
  |some ⟨h⟩,Z ⟨a⟩=>k<|h▸a▸g
  |_,_=>wL)
 |_=>wL
def VP(σ:Sg):(dom:N AM)->N v6->N PD->(cF dom->V R)->V R
 |[],[],[],k=>k ()
 |.q t::r,[],c::cs,k=>Ty.cast c.t t c.x λy=>VP σ r [] cs λz=>k (y,z)
 |.d t::r,x::xs,cs,k=>A6 (xC cx σ x) t λy=>VP σ r xs cs λz=>k (y,z)
 |.q t::r,x::xs,cs,k=>(match xC cx σ x with
  |some (.q s y)=>Ty.cast s t y λy=>VP σ r xs cs λz=>k (y,z)
  |_=>wL)
 |.fn dom cod::r,x::xs,cs,k=>asF cf σ (xC cx σ x) dom cod λg=>VP σ r xs cs λz=>k (g,z)
 |_,_,_,_=>wL
def Sw:(rs:N RM)->lZ rs->K->N (K×Dv)
 |[],_,_=>[]
 |[.d t],x,i=>[(i,.d t x)]
 |[.own t _],x,i=>[(i,.d (.l t) x)]
 |[.var t _],x,i=>[(i,.d t x)]
 |.d t::r::rs,x,i=>(i,.d t x.1)::Sw (r::rs) x.2 (i+1)
 |.own t _::r::rs,x,i=>(i,.d (.l t) x.1)::Sw (r::rs) x.2 (i+1)
 |.var t _::r::rs,x,i=>(i,.d t x.1)::Sw (r::rs) x.2 (i+1)
def ay:N RM->wW
 |[_]=>wF
 |_=>I
def zi0(rs:N RM)(x:lZ rs):N (K×Dv):=Sw rs x<|bif ay rs then 0 else 1
def BW(σ:Sg):(dom:N Ty)->N v6->(mb dom->V R)->V R
 |[],[],k=>k ()
 |t::r,x::xs,k=>A6 (xC cx σ x) t λy=>BW σ r xs λz=>k (y,z)
 |_,_,_=>wL
def zf1:(cod:N Ty)->Gy cod->K->N (K×Dv)
 |[],_,_=>[]
 |[t],x,i=>[(i,.d t x)]
 |t::s::r,x,i=>(i,.d t x.1)::zf1 (s::r) x.2 (i+1)
def ziV:N Ty->wW
 |[_]=>wF
 |_=>I
def zkc(σ:Sg)(v:V Dv)(k:PD->V R):V R:=match v with
 |some (.q t x)=>k ⟨t,x⟩
 |some (.vs o _)=>(match Ve cx σ o with
  |some (.var t _ z)=>k ⟨t,z⟩
  |_=>wL)
 |some (.vp o t f)=>(match Ve cx σ o with
  |some (.var a _ z)=>Ty.cast a t z λz=>k ⟨f.f,f.get z⟩
  |_=>wL)
 |some (.ep o t j f)=>(match Ve cx σ o with
  |some (.own a _ xs)=>Ty.cast (.l a) (.l t) xs λxs=>B (f.get<|xex xs j t.z) λy=>k ⟨f.f,y⟩
  |_=>wL)
 |_=>wL
def atI(σ:Sg)(x:v6)(n:K)(k:K->V R):V R:=match pd cx σ x with
 |some ⟨.i,j⟩=>zD j n k
 |some ⟨.u,j⟩=>ixU j n k
 |_=>wL
def RH(σ:Sg)(x:V v6)(k:V K->V R):V R:=match x with
 |none=>k wL
 |some x=>match pd cx σ x with
  |some ⟨.i,j⟩=>jh j λj=>k<|some j
  |_=>wL
def zlv{α:Type}(xs:N α)(lo hi:V K)(k:N α->V R):V R:=match lo,hi with
 |none,Z h=>ck (h<=X xs)<|B (xs.take h) k
 |some l,wL=>ck (l<=X xs)<|B (xs.drop l) k
 |some l,Z h=>ck (l<=h/\h<=X xs)<|B ((xs.drop l).take<|h-l) k
 |none,wL=>k xs
def zjU(m:K)(lo hi:V K)(k:K->K->V R):V R:=match lo,hi with
 |none,Z h=>ck (h<=m)<|k 0 h
 |some l,wL=>ck (l<=m)<|k l (m-l)
 |some l,Z h=>ck (l<=h/\h<=m)<|k l (h-l)
 |none,wL=>k 0 m
def zjH(σ:Sg)(t:K):K->K->N (K×Dv)
 |0,_=>[]
 |f+1,i=>match get cx σ t i with
  |some d=>(i,d)::zjH σ t f (i+1)
  |none=>[]
def zo5(σ:Sg)(x:v6)(k:N (K×Dv)->V R):V R:=match x with
 |.tmp t=>(match zjH cx σ t 12 1 with
  |[]=>wL
  |l=>k l)
 |_=>wL
def zaI(σ:Sg)(x:v6)(k:N (K×Dv)->V R):V R:=match xC cx σ x with
 |some v=>k [(0,v)]
 |none=>zo5 cx σ x k
def zkQ(σ:Sg)(x:v6)(i:K)(k:N (K×Dv)->V R):V R:=match x with
 |.tmp t=>(match get cx σ t (i+1)with
  |some v=>k [(0,v)]
  |none=>wL)
 |_=>wL
def zhH(σ:Sg)(x:v6)(k:N (K×Dv)->V R):V R:=match xC cx σ x with
 |some v=>k [(0,v)]
 |none=>wL
def zdQ(σ:Sg)(c x y:v6)(k:N (K×Dv)->V R):V R:=match xC cx σ c with
 |some (.kb wF)=>zhH cx σ x k
 |some (.kb I)=>zhH cx σ y k
 |_=>wL
def zpW(b:wW):Dv:=.d .b<|not b
def zmZ(σ:Sg)(x:v6)(k:N (K×Dv)->V R):V R:=match xC cx σ x with
 |some (.kb b)=>k [(0,.kb !b)]
 |some (.d .b b)=>k [(0,zpW b)]
 |_=>wL
def zlQ(σ:Sg)(x:v6)(k:N (K×Dv)->V R):V R:=match pd cx σ x with
 |some ⟨.i,a⟩=>ngI a λv=>k [(0,v)]
 |some ⟨.u,a⟩=>ngU a λv=>k [(0,v)]
 |_=>wL
def txD(xs:N K):Dv:=.d .tx xs
def zlA(σ:Sg)(s t:wT)(x:v6)(k:N (K×Dv)->V R):V R:=match ZG cf s,ZG cf t with
 |some ⟨_,.int _,_⟩,Z a=>znA a.k (pd cx σ x) λv=>k [(0,v)]
 |some ⟨.l .ch,.sl E,_⟩,Z ⟨_,.str,_⟩=>(match ZG cf E with
  |some ⟨_,.int .u8,_⟩=>A6 (xC cx σ x) (.l .ch) λxs=>k [(0,txD xs)]
  |_=>wL)
 |_,_=>wL
def elA(E:wT)(e:Ty):wW:=match ZG cf E with
 |some a=>(Ty.same a.ty e).isSome
 |none=>I
def zpi(n:K)(e:Ty)(j:K):Fl (Ty.a n e).D:=⟨j*e.n,e,λz=>xex z j e.z,λy z=>xgb z j y⟩
def Si(σ:Sg)(t:wT)(x i:v6)(k:N (K×Dv)->V R):V R:=match ZG cf t,xC cx σ x with
 |some ⟨.l e,.sl _,_⟩,Z (.d (.l s) xs)=>Ty.cast (.l s) (.l e) xs λxs=>atI cx σ i (xaF xs) λj=>B (xex xs j e.z) λy=>k [(0,.q e y)]
 |some ⟨.l e,.sl _,_⟩,Z (.ow o)=>(match Ve cx σ o with
  |some (.own s _ xs)=>Ty.cast (.l s) (.l e) xs λxs=>atI cx σ i (xaF xs) λj=>k [(0,.ep o e j<|Fl.self e)]
  |_=>wL)
 |some ⟨_,.ar b E,_⟩,Z (.q (.a n e) x)=>qM (xaj b n && elA cf E e)<|atI cx σ i n λj=>B (xex x j e.z) λy=>k [(0,.q e y)]
 |some ⟨_,.ar b E,_⟩,Z (.vs o (.a n e))=>qM (xaj b n && elA cf E e)<|atI cx σ i n λj=>k [(0,.vp o (.a n e)<|zpi n e j)]
 |_,_=>wL
def TG(σ:Sg)(t:wT)(x:v6)(i:K)(k:N (K×Dv)->V R):V R:=match ZG cf t,xC cx σ x with
 |some ⟨e,.st n,_⟩,Z (.q s y)=>Ty.cast s e y λy=>(match xh n e i with
  |some f=>k [(0,.q f.f<|f.get y)]
  |none=>wL)
 |some ⟨e,.st n,_⟩,Z (.vs o s)=>(match Ty.same s e,xh n s i with
  |some _,Z f=>k [(0,.vp o s f)]
  |_,_=>wL)
 |some ⟨e,.st n,_⟩,Z (.vp o s g)=>(match Ty.same g.f e,xh n g.f i with
  |some _,Z f=>k [(0,.vp o s<|g.comp f)]
  |_,_=>wL)
 |some ⟨e,.st n,_⟩,Z (.ep o s j g)=>(match Ty.same g.f e,xh n g.f i with
  |some _,Z f=>k [(0,.ep o s j<|g.comp f)]
  |_,_=>wL)
 |_,_=>wL
def Ik(σ:Sg)(t:wT)(x:v6)(i:K)(k:N (K×Dv)->V R):V R:=match ZG cf t,xC cx σ x with
 |some ⟨e,.st n,_⟩,Z (.d s y)=>Ty.cast s e y λy=>(match xh n e i with
  |some f=>k [(0,.d f.f<|f.get y)]
  |none=>wL)
 |_,_=>wL
def zfx(σ:Sg)(t:wT)(x:v6)(k:N (K×Dv)->V R):V R:=match ZG cf t with
 |some a=>zkc cx σ (xC cx σ x) λp=>Ty.cast p.t a.ty p.x λy=>k [(0,.d a.ty y)]
 |none=>wL
def TJ(σ:Sg)(t:wT)(x:v6)(lo hi:V v6)(k:N (K×Dv)->V R):V R:=match ZG cf t,xC cx σ x with
 |some ⟨.l e,.sl _,_⟩,Z (.d (.l s) xs)=>Ty.cast (.l s) (.l e) xs λxs=>RH cx σ lo λlo=>RH cx σ hi λhi=>zlv (α:=e.D) xs lo hi λys=>k [(0,.d (.l e) ys)]
 |some ⟨.l e,.sl _,_⟩,Z (.ow o)=>(match Ve cx σ o with
  |some (.own s _ xs)=>Ty.cast (.l s) (.l e) xs λxs=>RH cx σ lo λlo=>RH cx σ hi λhi=>zjU (xaF xs) lo hi λl n=>k [(0,.sv o e l n)]
  |_=>wL)
 |some ⟨_,.str,_⟩,Z (.d .tx xs)=>RH cx σ lo λlo=>RH cx σ hi λhi=>zlv (α:=K) xs lo hi λys=>k [(0,.d .tx ys)]
 |_,_=>wL
def zmt(σ:Sg)(t:wT)(x i:v6)(k:N (K×Dv)->V R):V R:=match ZG cf t,xC cx σ x with
 |some ⟨_,.str,_⟩,Z (.d .tx xs)=>atI cx σ i (xaF (α:=K) xs) λj=>B (xex (α:=K) xs j 0) λy=>k [(0,.d .ch y)]
 |_,_=>wL
def zln(σ:Sg)(E:wT)(x:v6)(k:N (K×Dv)->V R):V R:=match ZG cf E with
 |some a=>A6 (xC cx σ x) a.ty λy=>k [(0,.q a.ty y)]
 |none=>wL
def zfN(σ:Sg)(n:K)(ty:Ty):N (K×v6)->ty.D->(ty.D->V R)->V R
 |[],z,k=>k z
 |(i,x)::r,z,k=>match xh n ty i with
  |some f=>A6 (xC cx σ x) f.f λy=>zfN σ n ty r (f.set y z) k
  |none=>wL
def R9(σ:Sg)(t:wT)(ps:N (K×v6))(k:N (K×Dv)->V R):V R:=match ZG cf t with
 |some ⟨ty,.st n,_⟩=>OU (xdh (X ps) n||xaj n 0) (zfN cx σ n ty ps ty.z λy=>k [(0,.d ty y)]) (parts cx σ (zca n ty) ps 0 λys=>match cj n ty ys with
  |some y=>k [(0,.d ty y)]
  |none=>wL)
 |some ⟨.a n e,.ar b E,_⟩=>qM (xaj b n && elA cf E e)<|parts cx σ (EB n e) ps 0 λys=>k [(0,.d (.a n e)<|mM n e ys)]
 |_=>wL
def zl3(σ:Sg)(t:wT)(n:K)(ps:N (K×v6))(k:N (K×Dv)->V R):V R:=match ZG cf t with
 |some ⟨.l s,.sl _,_⟩=>qM (xfY (n*s.n) 16777216)<|parts cx σ (EB n s) ps 0 λys=>k [(0,.d (.l s)<|mM n s ys)]
 |_=>wL
def zlS(σ:Sg)(f:Go.Fn)(first cs:N v6)(k:N (K×Dv)->V R):V R:=match f,first,UU cx σ cs with
 |.func f,[],Z l=>k [(0,.fn f l)]
 |.func f,[x],Z []=>(match xC cx σ x with
  |some (.vs o t)=>k [(0,.bm f o t)]
  |_=>wL)
 |_,_,_=>wL
def SS(n:K):Dv:=.d .i (n:J)
def zmB(σ:Sg)(x:N v6)(ts:N wT)(k:N (K×Dv)->V R):V R:=match x,ts with
 |[x],[t]=>(match ZG cf t with
  |some ⟨.l _,.sl _,_⟩=>(match xC cx σ x with
   |some .nil=>k [(0,SS 0)]
   |some (.d (.l _) xs)=>k [(0,SS<|xaF xs)]
   |some (.ow o)=>(match Ve cx σ o with
    |some (.own _ _ xs)=>k [(0,SS<|xaF xs)]
    |_=>wL)
   |_=>wL)
  |some ⟨_,.str,_⟩=>(match xC cx σ x with
   |some (.d .tx xs)=>k [(0,SS<|xaF (α:=K) xs)]
   |_=>wL)
  |_=>wL)
 |_,_=>wL
def zlb(x:J):Dv:=.d .i x
def mxI(b:wW)(a c:J)(k:J->V R):V R:=match b with
 |true=>B (max a c) k
 |false=>B (min a c) k
def eMM(b:wW)(σ:Sg)(x:N v6)(k:N (K×Dv)->V R):V R:=match x with
 |[x,y]=>(match pd cx σ x,pd cx σ y with
  |some ⟨.i,a⟩,Z ⟨.i,c⟩=>mxI b a c λz=>k [(0,zlb z)]
  |_,_=>wL)
 |_=>wL
def zoj:v6->wW
 |.func _=>wF
 |_=>I
def zfP(σ:Sg)(c:v6)(a:N v6)(k:N (K×Dv)->V R):V R:=match xC cx σ c with
 |some (.fn f cs)=>(match GQ cf.cs f with
  |some s=>VP cf cx σ s.dom a cs λy=>Y (s.M y) λr=>k<|zi0 s.cod r
  |none=>(match K2 cf.ex f,a,cs with
   |some b,[x,y,z],[]=>qM (zoj c)<|exD b (pd cx σ x) (pd cx σ y) (pd cx σ z) k
   |_,_,_=>wL))
 |some (.fp dom cod g)=>BW cx σ dom a λy=>Y (g y) λr=>k<|zf1 cod r<|bif ziV cod then 0 else 1
 |_=>wL
def R8:V Dv->wW
 |some (.mw _)=>wF
 |some (.mv _ _ _)=>wF
 |some (.hp _ _)=>wF
 |some (.rw _ _)=>wF
 |some (.rp _ _ _ _ _)=>wF
 |some (.vf _ _ _ _)=>wF
 |_=>I
def zlu:V Dv->wW
 |some (.mv _ _ _)=>wF
 |_=>I
def mkF(σ:Sg)(f:v6):wW:=match xC cx σ f with
 |some (.fn f _)=>(zf3 cf.cl f).isSome
 |_=>I
def zoa(σ:Sg):Op->wW
 |.load _ x=>R8<|xC cx σ x
 |.indexAddr _ x _=>R8<|xC cx σ x
 |.fieldAddr _ x _=>R8<|xC cx σ x
 |.slice _ x _ _ wL=>R8<|xC cx σ x
 |.call ⟨.builtin .len,ags,_⟩=>ags.toList.any λx=>R8<|xC cx σ x
 |.call ⟨.value f,ags,_⟩=>mkF cf cx σ f||ags.toList.any λx=>zlu<|xC cx σ x
 |_=>I
def kU{α:Type}(xss:N (N α))(r:K):N α:=xss.getD r []
def zb8{α:Type}(xss:N (N α))(ix:N K):N (N α):=ix.map<|kU xss
def IL(σ:Sg)(t:wT)(x i:v6)(k:N (K×Dv)->V R):V R:=match ZG cf t,xC cx σ x with
 |some ⟨.l (.l e),.sl _,_⟩,Z (.mw o)=>(match Ve cx σ o with
  |some (.mat s _ _ xss ix)=>atI cx σ i (xaF ix) λj=>k [(0,.hp o j)]
  |_=>wL)
 |some ⟨.l (.l e),.sl _,_⟩,Z (.mv o lo n)=>(match Ve cx σ o with
  |some (.mat s _ _ xss ix)=>atI cx σ i n λj=>k [(0,.hp o<|lo+j)]
  |_=>wL)
 |some ⟨.l e,.sl _,_⟩,Z (.rw o r)=>(match Ve cx σ o with
  |some (.mat s _ _ xss ix)=>Ty.cast (.l (.l s)) (.l (.l e)) xss λxss=>atI cx σ i (xaF<|kU (α:=e.D) xss r) λj=>k [(0,.rp o e r j<|Fl.self e)]
  |_=>wL)
 |_,_=>wL
def zfV(n:K)(s:Ty)(i j:K)(k:Fl s.D->V R):V R:=qM (!E i j) (match xh n s i with
 |some f=>k f
 |none=>wL)
def Sk(σ:Sg)(t:wT)(x:v6)(k:N (K×Dv)->V R):V R:=match ZG cf t,xC cx σ x with
 |some ⟨.l e,.sl _,_⟩,Z (.hp o j)=>(match Ve cx σ o with
  |some (.mat s _ _ xss ix)=>B (xex ix j 0) λr=>k [(0,.rw o r)]
  |_=>wL)
 |some a,Z (.rp o e r j f)=>(match Ve cx σ o with
  |some (.mat s _ _ xss ix)=>Ty.cast (.l (.l s)) (.l (.l e)) xss λxss=>B (f.get<|xex (kU (α:=e.D) xss r) j e.z) λy=>Ty.cast f.f a.ty y λy=>k [(0,.d a.ty y)]
  |_=>wL)
 |some a,Z (.vf o b n0 i)=>(match Ve cx σ o with
  |some (.vr s _ _ _ n j z _)=>qM (E n0 n && (Ty.same b s).isSome)<|zfV n s i j λf=>Ty.cast f.f a.ty (f.get z) λy=>k [(0,.d a.ty y)]
  |some (.vh s _ _ _ n j z)=>qM (E n0 n && (Ty.same b s).isSome)<|zfV n s i j λf=>Ty.cast f.f a.ty (f.get z) λy=>k [(0,.d a.ty y)]
  |_=>wL)
 |_,_=>wL
def HI(σ:Sg)(t:wT)(x:v6)(i:K)(k:N (K×Dv)->V R):V R:=match ZG cf t,xC cx σ x with
 |some ⟨e,.st n,_⟩,Z (.mw o)=>(match Ve cx σ o with
  |some (.vr s _ _ _ a _ _ _)=>qM (E a n && (Ty.same s e).isSome && (xh n e i).isSome)<|k [(0,.vf o e n i)]
  |some (.vh s _ _ _ a _ _)=>qM (E a n && (Ty.same s e).isSome && (xh n e i).isSome)<|k [(0,.vf o e n i)]
  |_=>wL)
 |_,_=>wL
def HQ(σ:Sg)(t:wT)(x:v6)(lo hi:V v6)(k:N (K×Dv)->V R):V R:=match ZG cf t,xC cx σ x with
 |some ⟨.l (.l e),.sl _,_⟩,Z (.mw o)=>(match Ve cx σ o with
  |some (.mat s _ _ xss ix)=>RH cx σ lo λlo=>RH cx σ hi λhi=>zjU (xaF ix) lo hi λl n=>k [(0,.mv o l n)]
  |_=>wL)
 |_,_=>wL
def zdy(σ:Sg)(x:N v6)(ts:N wT)(k:N (K×Dv)->V R):V R:=match x,ts with
 |[x],[t]=>(match ZG cf t,xC cx σ x with
  |some ⟨.l _,.sl _,_⟩,Z (.mw o)=>(match Ve cx σ o with
   |some (.mat _ _ _ _ ix)=>k [(0,SS<|xaF ix)]
   |_=>wL)
  |some ⟨.l _,.sl _,_⟩,Z (.mv o _ n)=>(match Ve cx σ o with
   |some (.mat _ _ _ _ _)=>k [(0,SS n)]
   |_=>wL)
  |some ⟨.l _,.sl _,_⟩,Z (.rw o r)=>(match Ve cx σ o with
   |some (.mat _ _ _ xss _)=>k [(0,SS<|xaF<|kU xss r)]
   |_=>wL)
  |_,_=>wL)
 |_,_=>wL
def VV(σ:Sg):(dom:N AM)->N v6->N PD->(cF dom->V R)->V R
 |[],[],[],k=>k ()
 |.q t::r,[],c::cs,k=>Ty.cast c.t t c.x λy=>VV σ r [] cs λz=>k (y,z)
 |.d t::r,x::xs,cs,k=>(match xC cx σ x with
  |some (.mv o lo n)=>(match Ve cx σ o with
   |some (.mat s _ _ xss ix)=>Ty.cast (.l (.l s)) t (xdB n<|xdM lo<|zb8 xss ix) λy=>VV σ r xs cs λz=>k (y,z)
   |_=>wL)
  |v=>A6 v t λy=>VV σ r xs cs λz=>k (y,z))
 |.fn dom cod::r,x::xs,cs,k=>asF cf σ (xC cx σ x) dom cod λg=>VV σ r xs cs λz=>k (g,z)
 |_,_,_,_=>wL
def Ou:N RM->wW
 |[]=>wF
 |.d .i::r=>Ou r
 |.d .b::r=>Ou r
 |.d .u::r=>Ou r
 |_=>I
def Sb(σ:Sg)(b:v6)(a:N v6)(k:N (K×Dv)->V R):V R:=match xC cx σ b with
 |some (.fn f cs)=>(match zf3 cf.cl f,cs with
  |some s,[]=>BW cx σ s.dom a λys=>k [(0,.fn s.g<|s.mc ys)]
  |_,cs=>(match GQ cf.cs f with
   |some s=>qM (Ou s.cod)<|VV cf cx σ s.dom a cs λy=>Y (s.M y) λr=>k<|zi0 s.cod r
   |none=>wL))
 |_=>wL
def eCo(σ:Sg)(b:Op)(k:N (K×Dv)->V R):V R:=match b with
 |.load t x=>Sk cf cx σ t x k
 |.indexAddr t x i=>IL cf cx σ t x i k
 |.fieldAddr t x i=>HI cf cx σ t x i k
 |.slice t x lo hi wL=>HQ cf cx σ t x lo hi k
 |.call ⟨.builtin .len,a,ts⟩=>zdy cf cx σ a.toList ts.toList k
 |.call ⟨.value f,a,_⟩=>Sb cf cx σ f a.toList k
 |_=>wL
def zk2(σ:Sg)(d:Op)(k:N (K×Dv)->V R):V R:=match d with
 |.move x=>zaI cx σ x k
 |.assign x=>zaI cx σ x k
 |.extract x i=>zkQ cx σ x i k
 |.pick c x y=>zdQ cx σ c x y k
 |.unOp .not _ x=>zmZ cx σ x k
 |.unOp .neg _ x=>zlQ cx σ x k
 |.binOp b t x y _=>OU (zjw<|xC cx σ y) (qM (zhP cf t)<|eqP b (xC cx σ x) λv=>k [(0,v)])<|zmg (isB cf t) b (pd cx σ x) (pd cx σ y) λv=>k [(0,v)]
 |.nilCheck x=>zlN cx σ x k
 |.convert s t x=>zlA cf cx σ s t x k
 |.load t x=>zfx cf cx σ t x k
 |.indexAddr t x i=>Si cf cx σ t x i k
 |.fieldAddr t x i=>TG cf cx σ t x i k
 |.field t x i=>Ik cf cx σ t x i k
 |.slice t x lo hi wL=>TJ cf cx σ t x lo hi k
 |.index t x i=>zmt cf cx σ t x i k
 |.box E x=>zln cf cx σ E x k
 |.build t ps=>R9 cf cx σ t ps.toList k
 |.buildSlice t n ps=>zl3 cf cx σ t n ps.toList k
 |.makeFunc f first cs=>zlS cx σ f first.toList cs.toList k
 |.call ⟨.builtin .len,a,ts⟩=>zmB cf cx σ a.toList ts.toList k
 |.call ⟨.builtin .max,a,_⟩=>eMM cx wF σ a.toList k
 |.call ⟨.builtin .min,a,_⟩=>eMM cx I σ a.toList k
 |.call ⟨.value f,a,_⟩=>zfP cf cx σ f a.toList k
 |_=>wL
def eOp(σ:Sg)(a:Op)(k:N (K×Dv)->V R):V R:=OU (zoa cf cx σ a) (eCo cf cx σ a k)<|zk2 cf cx σ a k
def va:Dv->V K
 |.ow o=>Z o
 |.vs o _=>Z o
 |.ep o _ _ _=>Z o
 |.sv o _ _ _=>Z o
 |.vp o _ _=>Z o
 |.mw o=>Z o
 |.mv o _ _=>Z o
 |.hp o _=>Z o
 |.rw o _=>Z o
 |.rp o _ _ _ _=>Z o
 |.yd o=>Z o
 |.vf o _ _ _=>Z o
 |.bm _ o _=>Z o
 |_=>wL
def okL(n:K)(l:N (K×Dv)):wW:=l.all λe=>match va e.2 with
 |some o=>xdh o n
 |none=>wF
def sW(o:K)(x:Od)(v:Dv):Dv:=match v,x with
 |.ow a,.own s _ xs=>bif E a o then .d (.l s) xs else v
 |.vs a _,.var s _ z=>bif E a o then .q s z else v
 |.mw a,.mat s _ _ xss ix=>bif E a o then .d (.l (.l s)) (zb8 xss ix)else v
 |.mw a,.vr t _ s _ n i z xs=>bif E a o then .q t (uh s (xh n t i) xs z)else v
 |_,_=>v
def ER(o:K)(x:Od):N (K×K×Dv)->N (K×K×Dv)
 |[]=>[]
 |(t,i,v)::r=>(t,i,sW o x v)::ER o x r
def P4(σ:Sg)(o:K):Sg:=match xz σ.ob o with
 |some x=>⟨σ.nx,ER o x σ.rg,yu σ.ob o⟩
 |none=>σ
def frz(σ:Sg)(x:v6):Sg:=match xC cx σ x with
 |some (.ow o)=>P4 σ o
 |some (.vs o _)=>P4 σ o
 |some (.mw o)=>P4 σ o
 |_=>σ
def zid(σ:Sg):N v6->Sg
 |[]=>σ
 |x::r=>zid (frz cx σ x) r
def zc8(σ:Sg):N AM->N v6->wW
 |[],_=>wF
 |.own _ _::r,x::xs=>(match xC cx σ x with
  |some (.ow o)=>σ.ob.any λe=>E e.1 o
  |_=>I) && zc8 σ r xs
 |.var _ _::r,x::xs=>(match xC cx σ x with
  |some (.vs o _)=>σ.ob.any λe=>E e.1 o
  |_=>I) && zc8 σ r xs
 |.d _::r,x::xs=> !zlu (xC cx σ x) && zc8 σ r xs
 |_::r,_::xs=>zc8 σ r xs
 |_::r,[]=>zc8 σ r []
def Sz(σ:Sg)(f:Z5)(a:N v6):N WZ->V WZ
 |[]=>wL
 |s::r=>match E s.f f && zc8 cx σ s.dom a with
  |true=>Z s
  |false=>Sz σ f a r
def zo2(d:V Z9):wW:=match d with
 |some t=>gH cf.an.vw t
 |none=>I
def Tj(d:V Z9):wW:=match d with
 |some t=>gH cf.an.mt t
 |none=>I
def zpQ:V Dv->wW
 |some (.hp _ _)=>wF
 |some (.mw _)=>wF
 |_=>I
def znU(σ:Sg):V Dv->wW
 |some (.vf o _ _ i)=>(match xz σ.ob o with
  |some (.vh _ _ _ _ _ j _)=>E i j
  |_=>I)
 |_=>I
def zgX:V Dv->wW
 |some (.mw _)=>wF
 |_=>I
def zl1(σ:Sg)(d:V Z9):Op->N v6
 |.build _ ps=>ps.toList.map (·.2)
 |.buildSlice _ _ ps=>(match Tj cf d with
  |true=>[]
  |false=>ps.toList.map (·.2))
 |.store _ a v=>(match zpQ (xC cx σ a)||znU σ (xC cx σ a),xC cx σ v with
  |false,Z (.ow _)=>[v]
  |_,_=>[])
 |.slice _ x wL (Z _) wL=>(match zgX (xC cx σ x),zo2 cf d with
  |true,I=>[x]
  |_,_=>[])
 |.box _ v=>[v]
 |.load _ x=>(match xC cx σ x with
  |some (.mw o)=>(match Ve cx σ o with
   |some (.vr _ _ _ _ _ _ _ _)=>[x]
   |_=>[])
  |_=>[])
 |.convert _ _ v=>[v]
 |.makeFunc _ _ cs=>cs.toList
 |.slice _ x (Z _) _ _=>(match zo2 cf d with
  |true=>[]
  |false=>[x])
 |.call ⟨.builtin .append,b,_⟩=>(match b.toList.any λx=>zgX (xC cx σ x)with
  |true=>[]
  |false=>b.toList.drop 1)
 |.call ⟨.builtin .copy,b,_⟩=>b.toList.drop 1
 |.call ⟨.value f,b,_⟩=>(match xC cx σ f with
  |some (.fn f _)=>(match Sz cx σ f b.toList cf.cs with
   |some s=>(s.dom.zip b.toList).filterMap λe=>match e.1 with
    |.d _=>(match zlu (xC cx σ e.2)with
     |true=>wL
     |false=>Z e.2)
    |.q _=>Z e.2
    |_=>wL
   |none=>[])
  |some (.fp _ _ _)=>b.toList
  |_=>[])
 |_=>[]
def S8(σ:Sg)(d:V Z9)(mk:K->Dv)(x:Od):Sg:=⟨σ.nx+1,vv σ.rg d [(0,mk σ.nx)],(σ.nx,x)::σ.ob⟩
def Zy(σ:Sg):(dom:N AM)->N v6->N PD->(cF dom->N K->V R)->V R
 |[],[],[],k=>k () []
 |.q t::r,[],c::cs,k=>Ty.cast c.t t c.x λy=>Zy σ r [] cs λz os=>k (y,z) os
 |.d t::r,x::xs,cs,k=>A6 (xC cx σ x) t λy=>Zy σ r xs cs λz os=>k (y,z) os
 |.q t::r,x::xs,cs,k=>(match xC cx σ x with
  |some (.q s y)=>Ty.cast s t y λy=>Zy σ r xs cs λz os=>k (y,z) os
  |_=>wL)
 |.own t E::r,x::xs,cs,k=>(match xC cx σ x with
  |some (.ow o)=>(match xz σ.ob o with
   |some (.own s a ys)=>qM (xaj E a)<|Ty.cast (.l s) (.l t) ys λy=>Zy σ r xs cs λz os=>qM (!gH os o)<|k (y,z) (o::os)
   |_=>wL)
  |_=>wL)
 |.var t E::r,x::xs,cs,k=>(match xC cx σ x with
  |some (.vs o _)=>(match xz σ.ob o with
   |some (.var s a y)=>qM (xaj E a)<|Ty.cast s t y λy=>Zy σ r xs cs λz os=>qM (!gH os o)<|k (y,z) (o::os)
   |_=>wL)
  |_=>wL)
 |.fn dom cod::r,x::xs,cs,k=>asF cf σ (xC cx σ x) dom cod λg=>Zy σ r xs cs λz os=>k (g,z) os
 |_,_,_,_=>wL
def kO:(rs:N RM)->lZ rs->K->K->N (K×Dv)×N (K×Od)
 |[],_,_,_=>([],[])
 |[.d t],x,i,o=>([(i,.d t x)],[])
 |[.own t E],x,i,o=>([(i,.ow o)],[(o,.own t E x)])
 |[.var t E],x,i,o=>([(i,.vs o t)],[(o,.var t E x)])
 |.d t::r::rs,x,i,o=>let y:=kO (r::rs) x.2 (i+1) o
  ((i,.d t x.1)::y.1,y.2)
 |.own t E::r::rs,x,i,o=>let y:=kO (r::rs) x.2 (i+1) (o+1)
  ((i,.ow o)::y.1,(o,.own t E x.1)::y.2)
 |.var t E::r::rs,x,i,o=>let y:=kO (r::rs) x.2 (i+1) (o+1)
  ((i,.vs o t)::y.1,(o,.var t E x.1)::y.2)
def vM(ob:N (K×Od)):N K->N (K×Od)
 |[]=>ob
 |o::r=>yu (vM ob r) o
def S6(σ:Sg)(s:Ty)(p v:V Dv)(k:Sg->V R):V R:=match p with
 |some (.vs o _)=>(match xz σ.ob o with
  |some (.var b E z)=>Ty.cast b s z λz=>A6 v s λy=>k ⟨σ.nx,σ.rg,jE σ.ob o (.var s E y)⟩
  |_=>wL)
 |some (.vp o a f)=>(match xz σ.ob o,Ty.same f.f s with
  |some (.var b E z),Z _=>Ty.cast b a z λz=>A6 v f.f λy=>B (f.set y z) λz=>k ⟨σ.nx,σ.rg,jE σ.ob o (.var a E z)⟩
  |_,_=>wL)
 |some (.ep o a j f)=>(match xz σ.ob o,Ty.same f.f s with
  |some (.own b E xs),Z _=>Ty.cast (.l b) (.l a) xs λxs=>A6 v f.f λy=>B (xgb xs j<|f.set y<|xex xs j a.z) λxs=>k ⟨σ.nx,σ.rg,jE σ.ob o (.own a E xs)⟩
  |_,_=>wL)
 |_=>wL
def SI(σ:Sg)(d:V Z9)(E:wT)(k:Sg->V R):V R:=match ZG cf E with
 |some a=>k<|S8 σ d (λo=> .vs o a.ty) (.var a.ty E a.ty.z)
 |none=>wL
def zma(σ:Sg)(d:V Z9)(E:wT)(x:v6)(k:Sg->V R):V R:=match ZG cf E with
 |some a=>A6 (xC cx σ x) a.ty λy=>k<|S8 σ d (λo=> .vs o a.ty) (.var a.ty E y)
 |none=>wL
def zfE(σ:Sg)(d:V Z9)(t:wT)(x y:v6)(k:Sg->V R):V R:=match ZG cf t with
 |some ⟨.l s,.sl E,_⟩=>qM (zaH x y) (match ZG cf E,pd cx σ x with
  |some a,Z ⟨.i,n⟩=>Ty.cast a.ty s a.ty.z λz=>jh n λn=>ck (a.B*n<=281474976710656)<|B (xac n z) λxs=>k<|S8 σ d .ow (.own s E xs)
  |_,_=>wL)
 |_=>wL
def zlF(σ:Sg)(d:V Z9)(t:wT)(n:K)(ps:N (K×v6))(k:Sg->V R):V R:=match ZG cf t with
 |some ⟨.l s,.sl E,_⟩=>qM (xfY (n*s.n) 16777216)<|parts cx σ (EB n s) ps 0 λys=>k<|S8 σ d .ow (.own s E<|mM n s ys)
 |_=>wL
def SK(σ:Sg)(d:V Z9)(t:wT)(o:K)(hi:v6)(k:Sg->V R):V R:=match ZG cf t,xz σ.ob o with
 |some ⟨.l a,.sl _,_⟩,Z (.own s E xs)=>Ty.cast (.l s) (.l a) xs λxs=>RH cx σ (Z hi) λh=>zlv (α:=a.D) xs wL h λys=>k ⟨σ.nx+1,vv σ.rg d [(0,.ow σ.nx)],(σ.nx,.own a E ys)::yu σ.ob o⟩
 |_,_=>wL
def zbd(σ:Sg)(d:V Z9)(b:wT)(a:wW)(s:Ty)(E:wT)(B:K)(z:s.D)(y:v6)(ob:N (K×Od))(xs:N s.D)(k:Sg->V R):V R:=match pd cx σ y with
 |some ⟨.i,n⟩=>(match ZG cf b with
  |some ⟨_,.int _,_⟩=>jh n λn=>zp6 xs n z B λzs=>k ⟨σ.nx+1,vv σ.rg d [(0,.ow σ.nx)],(σ.nx,.own s E zs)::ob⟩
  |_=>wL)
 |_=>(match xC cx σ y with
  |some (.sv o2 t2 lo n)=>(match Ve cx ⟨σ.nx,σ.rg,ob⟩ o2 with
   |some (.own c _ zs)=>qM a<|Ty.cast (.l c) (.l t2) zs λzs=>Ty.cast (.l t2) (.l s) (xdB n<|xdM lo zs) λys=>nm ys λys=>znZ (α:=s.D) xs ys B λzs=>k ⟨σ.nx+1,vv σ.rg d [(0,.ow σ.nx)],(σ.nx,.own s E zs)::ob⟩
   |_=>wL)
  |_=>qM a<|A6 (xC cx σ y) (.l s) λys=>znZ (α:=s.D) xs ys B λzs=>k ⟨σ.nx+1,vv σ.rg d [(0,.ow σ.nx)],(σ.nx,.own s E zs)::ob⟩)
def zlx(σ:Sg)(d:V Z9)(c:N v6)(ts:N wT)(k:Sg->V R):V R:=match c,ts with
 |[x,y],[t,a]=>(match ZG cf t with
  |some ⟨.l s,.sl E,_⟩=>(match ZG cf E with
   |some b=>Ty.cast b.ty s b.ty.z λz=>(match xC cx σ x with
    |some .nil=>zbd cf cx σ d a (xaj t a) s E b.B z y σ.ob [] k
    |some (.ow o)=>(match xz σ.ob o with
     |some (.own e f xs)=>qM (xaj f E)<|Ty.cast (.l e) (.l s) xs λxs=>zbd cf cx σ d a (xaj t a) s E b.B z y (yu σ.ob o) xs k
     |_=>wL)
    |_=>wL)
   |none=>wL)
  |_=>wL)
 |_,_=>wL
def zdU(σ:Sg)(d:V Z9)(a:N v6)(ts:N wT)(k:Sg->V R):V R:=match a,ts with
 |[x,y],[t,_]=>(match ZG cf t,xC cx σ x with
  |some ⟨.l s,.sl _,_⟩,Z (.ow o)=>(match xz σ.ob o with
   |some (.own b c xs)=>Ty.cast (.l b) (.l s) xs λxs=>A6 (xC cx σ y) (.l s) λys=>B (cpy (α:=s.D) xs ys) λzs=>k ⟨σ.nx,vv σ.rg d [],jE σ.ob o (.own s c zs)⟩
   |_=>wL)
  |some ⟨.l s,.sl _,_⟩,Z (.sv o t2 lo n)=>(match xz σ.ob o,Ty.same t2 s with
   |some (.own b c xs),Z _=>Ty.cast (.l b) (.l s) xs λxs=>A6 (xC cx σ y) (.l s) λys=>B (gW (α:=s.D) lo n xs ys) λzs=>k ⟨σ.nx,vv σ.rg d [],jE σ.ob o (.own s c zs)⟩
   |_,_=>wL)
  |_,_=>wL)
 |_,_=>wL
def Cp:N K->N (K×Od)->N (K×Od)
 |o::os,e::r=>(o,e.2)::Cp os r
 |_,_=>[]
def mV:K->N RM->wW
 |0,[]=>wF
 |0,.own _ _::r=>mV 0 r
 |0,.var _ _::r=>mV 0 r
 |n+1,.d _::r=>mV n r
 |_,_=>I
def Ay(m:K):K:=bif E m 1 then 0 else 1
def zeN(σ:Sg)(d:V Z9)(s:WZ)(a:N v6)(cs:N PD)(k:Sg->V R):V R:=
 Zy cf cx σ s.dom a cs λy os=>Y (s.M y) λr=>
  match s.bk with
  |0=>(let g:=kO s.cod r (bif ay s.cod then 0 else 1) σ.nx
   k ⟨σ.nx+X g.2,vv σ.rg d g.1,g.2++vM σ.ob os⟩)
  |b+1=>(let m:=X s.cod-(b+1)
   let g:=kO s.cod r (Ay m) σ.nx
   qM (mV m s.cod)<|k ⟨σ.nx+X g.2,vv σ.rg d<|g.1.filter λe=>xdh e.1<|Ay m+m,Cp os g.2++vM σ.ob os⟩)
def mE(σ:Sg)(d:V Z9)(a:Op)(k:Sg->V R):V R:=eOp cf cx σ a λl=>qM (okL σ.nx l)<|k (σ.put d l)
def zlp(d:V Z9):wW:=match d with
 |some t=>gH cf.an.bx t
 |none=>I
def ziz(o n:K)(v:Dv):Dv:=match v with
 |.mw p=>bif E p o then .mw n else v
 |.mv p l m=>bif E p o then .mv n l m else v
 |.hp p j=>bif E p o then .hp n j else v
 |.rw p r=>bif E p o then .rw n r else v
 |.rp p t r j f=>bif E p o then .rp n t r j f else v
 |v=>v
def ziK(o n:K):N (K×K×Dv)->N (K×K×Dv)
 |[]=>[]
 |(t,i,v)::r=>(t,i,ziz o n v)::ziK o n r
def Fo(o n:K):N (K×K×Dv)->N (K×K×Dv)
 |[]=>[]
 |(t,i,.mw p)::r=>(t,i,bif E p o then .mw n else .mw p)::Fo o n r
 |(t,i,v)::r=>(t,i,v)::Fo o n r
def Nx(o n:K):N (K×K×Dv)->N (K×K×Dv)
 |[]=>[]
 |(t,i,.yd p)::r=>(t,i,bif E p o then .yd n else .yd p)::Nx o n r
 |(t,i,v)::r=>(t,i,v)::Nx o n r
def zpd{α:Type}(a b:N α):N α:=a++b
def znY{α:Type}(xss:N (N α))(r:K)(xs:N α):N (N α):=xgb xss r xs
def jZ(σ:Sg)(s:Ty)(p v:V Dv)(k:Sg->V R):V R:=match p,v with
 |some (.rp o e r j f),v=>(match xz σ.ob o,Ty.same f.f s with
  |some (.mat c E E1 xss ix),Z _=>Ty.cast (.l (.l c)) (.l (.l e)) xss λxss=>A6 v f.f λy=>B (znY (α:=e.D) xss r<|xgb (kU (α:=e.D) xss r) j<|f.set y<|xex (kU (α:=e.D) xss r) j e.z) λxss=>k ⟨σ.nx,σ.rg,jE σ.ob o (.mat e E E1 xss ix)⟩
  |_,_=>wL)
 |some (.vf o d n0 i),Z (.ow o2)=>qM (!xaj o o2)<|(match xz σ.ob o,xz σ.ob o2 with
  |some (.vh a E b E1 n j z),Z (.own m q ys)=>qM (xaj i j && xaj E1 q && (Ty.same s (.l b)).isSome && (xaj n0 n && (Ty.same d a).isSome))<|Ty.cast (.l m) (.l b) ys λys=>k ⟨σ.nx+1,Fo o σ.nx σ.rg,(σ.nx,.vr a E b E1 n j z ys)::yu (yu σ.ob o) o2⟩
  |_,_=>wL)
 |some (.vf o d n0 i),v=>(match xz σ.ob o with
  |some (.vr a E b E1 n j z ys)=>qM (xaj n0 n && (Ty.same d a).isSome)<|zfV n a i j λf=>qM (Ty.same f.f s).isSome<|A6 v f.f λy=>B (f.set y z) λz=>k ⟨σ.nx,σ.rg,jE σ.ob o (.vr a E b E1 n j z ys)⟩
  |some (.vh a E b E1 n j z)=>qM (xaj n0 n && (Ty.same d a).isSome)<|zfV n a i j λf=>qM (Ty.same f.f s).isSome<|A6 v f.f λy=>B (f.set y z) λz=>k ⟨σ.nx,σ.rg,jE σ.ob o (.vh a E b E1 n j z)⟩
  |_=>wL)
 |some (.hp o j),Z (.rw t r)=>qM (xaj t o)<|(match xz σ.ob o,s with
  |some (.mat c E E1 xss ix),.l _=>B (xgb ix j r) λix=>k ⟨σ.nx,σ.rg,jE σ.ob o (.mat c E E1 xss ix)⟩
  |_,_=>wL)
 |some (.hp o j),Z (.ow o2)=>qM (!xaj o o2)<|(match xz σ.ob o,xz σ.ob o2,s with
  |some (.mat c E E1 xss ix),Z (.own b g ys),.l _=>qM (xaj E1 g)<|Ty.cast (.l b) (.l c) ys λys=>B (zpd (α:=N c.D) xss [ys]) λh=>B (xgb ix j<|xaF xss) λix=>k ⟨σ.nx+1,ziK o σ.nx σ.rg,(σ.nx,.mat c E E1 h ix)::yu (yu σ.ob o) o2⟩
  |_,_,_=>wL)
 |some (.mw o),Z (.dz t2 y n2 i2)=>(match xz σ.ob o with
  |some (.vr a E b E1 n j z xs)=>qM (xaj n2 n && (xaj i2 j && (Ty.same s a).isSome))<|Ty.cast t2 a y λy=>k ⟨σ.nx+1,Fo o σ.nx σ.rg,(σ.nx,.vr a E b E1 n j y [])::yu σ.ob o⟩
  |_=>wL)
 |some (.mw o),Z (.ow o2)=>qM (!xaj o o2)<|(match xz σ.ob o,xz σ.ob o2,s with
  |some (.ho u),Z (.own b g ys),.l _=>k ⟨σ.nx+1,Fo o σ.nx σ.rg,(σ.nx,.bo b g u ys)::yu (yu σ.ob o) o2⟩
  |_,_,_=>wL)
 |_,_=>wL
def Sm(σ:Sg)(d:V Z9)(t:wT)(x y:v6)(k:Sg->V R):V R:=match ZG cf t with
 |some ⟨.l (.l s),.sl E,_⟩=>qM (zaH x y) (match ZG cf E,pd cx σ x with
  |some ⟨.l _,.sl E1,B⟩,Z ⟨.i,n⟩=>jh n λn=>ck (B*n<=281474976710656)<|nm (xac n 0) λix=>k<|S8 σ d .mw (.mat s E E1 [[]] ix)
  |_,_=>wL)
 |_=>wL
def zeU(σ:Sg)(d:V Z9)(t:wT)(n:K)(ps:N (K×v6))(k:Sg->V R):V R:=match ZG cf t,ps with
 |some ⟨.l (.l s),.sl E,_⟩,[(0,x)]=>qM (xaj n 1) (match xC cx σ x with
  |some (.ow o2)=>(match xz σ.ob o2 with
   |some (.own a E1 ys)=>Ty.cast (.l a) (.l s) ys λys=>k ⟨σ.nx+1,vv σ.rg d [(0,.mw σ.nx)],(σ.nx,.mat s E E1 [ys] [0])::yu σ.ob o2⟩
   |_=>wL)
  |_=>wL)
 |_,_=>wL
def SE(d:V Z9):V (K×K):=match d with
 |some t=>K2 cf.an.vr t
 |none=>wL
def H7(σ:Sg)(d:V Z9)(a:wT)(k:Sg->V R):V R:=match ZG cf a with
 |some ⟨.l s,.sl E,_⟩=>k<|S8 σ d .mw (.bo s E a [])
 |some ⟨ty,.st n,_⟩=>(match SE cf d with
  |some (i,E1)=>(match xh n ty i with
   |some ⟨_,.l s,_,_⟩=>k<|S8 σ d .mw (.vr ty a s E1 n i ty.z [])
   |_=>wL)
  |none=>wL)
 |_=>wL
def Hs(σ:Sg)(d:V Z9)(t:wT)(ps:N (K×v6))(k:Sg->V R):V R:=match ZG cf t,SE cf d with
 |some ⟨ty,.st n,_⟩,Z (i,_)=>qM (ps.all λp=> !E p.1 i) (match xh n ty i with
  |some ⟨_,.l _,_,_⟩=>zfN cx σ n ty ps ty.z λy=>k<|σ.put d [(0,.dz ty y n i)]
  |_=>wL)
 |_,_=>wL
def Ti(σ:Sg)(d:V Z9)(t:wT)(o:K)(k:Sg->V R):V R:=match ZG cf t,xz σ.ob o with
 |some ⟨.l b,.sl _,_⟩,Z (.vr c E a E1 n j z xs)=>qM (Ty.same b a).isSome<|k ⟨σ.nx+1,vv σ.rg d [(0,.ow σ.nx)],(σ.nx,.own a E1 xs)::jE σ.ob o (.vh c E a E1 n j z)⟩
 |_,_=>wL
def NV(σ:Sg):V Dv->V K
 |some (.vf o a n0 i)=>(match xz σ.ob o with
  |some (.vr s _ _ _ n j _ _)=>bif E i j && (E n0 n && (Ty.same a s).isSome)then Z o else wL
  |_=>wL)
 |_=>wL
def Sq(σ:Sg)(d:V Z9)(t:wT)(o:K)(k:Sg->V R):V R:=match ZG cf t,xz σ.ob o with
 |some ⟨.l _,.sl _,_⟩,Z (.bo s E a xs)=>k ⟨σ.nx+1,vv σ.rg d [(0,.ow σ.nx)],(σ.nx,.own s E xs)::jE σ.ob o (.ho a)⟩
 |_,_=>wL
def zem(σ:Sg)(d:V Z9)(b:N v6)(ts:N wT)(k:Sg->V R):V R:=match b,ts with
 |[x,y],[t,h]=>(match ZG cf t,xC cx σ x,xC cx σ y with
  |some ⟨.l (.l s),.sl E,_⟩,Z (.mw o),Z (.mw p)=>qM (xaj t h && !xaj o p) (match ZG cf E,xz σ.ob o,xz σ.ob p with
   |some ⟨.l _,.sl _,B⟩,Z (.mat c E1 f xss ix),Z (.mat i j m a g)=>qM (xaj E1 E && (xaj j E && xaj f m))<|Ty.cast (.l (.l i)) (.l (.l c)) a λa=>
    ck ((xaF ix+xaF g)*B<=140737488355328)<|nm (zpd (α:=N c.D) xss a) λe=>nm (ix++g.map (xaF xss+ ·)) λn=>k ⟨σ.nx+1,vv σ.rg d [(0,.mw σ.nx)],(σ.nx,.mat c E1 f e n)::yu (yu σ.ob o) p⟩
   |_,_,_=>wL)
  |_,_,_=>wL)
 |_,_=>wL
def CA(σ:Sg)(d:V Z9)(s:Ck)(b:N v6)(k:Sg->V R):V R:=match b with
 |[x,a,p,y]=>(match xC cx σ x,pd cx σ a,pd cx σ p,xC cx σ y with
  |some (.rw o r),Z ⟨.i,a⟩,Z ⟨.i,p⟩,Z (.mv c lo n)=>qM (xaj o c) (match xz σ.ob o with
   |some (.mat e E E1 xss ix)=>qM (xaj E s.E && xaj E1 s.E1)<|Ty.cast (.l (.l e)) (.l (.l s.t)) xss λxss=>
    Y (s.M xss ix r a p lo n) λxss=>k ⟨σ.nx+1,Fo o σ.nx<|vv σ.rg d [],(σ.nx,.mat s.t E E1 xss ix)::yu σ.ob o⟩
   |_=>wL)
  |_,_,_,_=>wL)
 |_=>wL
def HR(σ:Sg)(d:V Z9)(o:K)(a:N v6)(k:Sg->V R):V R:=match a with
 |[x]=>(match xC cx σ x with
  |some (.ow p)=>qM (!xaj o p) (match xz σ.ob o,xz σ.ob p with
   |some (.hid t E X Y e c g z),Z (.own s b ys)=>qM (xaj b E)<|Ty.cast (.l s) (.l t) ys λys=>
    bd (g ys z) λr=>xfB (λf=>k ⟨σ.nx+1,Nx o σ.nx<|vv σ.rg d [(0,.kb wF)],(σ.nx,.hid t E X Y e c g f)::yu (jE σ.ob p (.own t b r.1)) o⟩)
     (λy'=>k ⟨σ.nx+1,Nx o σ.nx<|vv σ.rg d [(0,.kb I)],(σ.nx,.hiy Y c y')::yu (jE σ.ob p (.own t b r.1)) o⟩) r.2
   |_,_=>wL)
  |_=>wL)
 |_=>wL
inductive CoM
 |no
 |st (t:wT) (x y:v6)
 |ma (t:wT) (x y:v6)
 |lit (t:wT) (n:K) (ps:ul (K×v6))
 |al (E:wT)
 |tk (t:wT) (o:K)
 |tv (t:wT) (o:K)
 |bz (t:wT) (ps:ul (K×v6))
 |ap (ags:ul v6) (ts:ul wT)
 |sk (s:Ck) (ags:ul v6)
 |yl (o:K) (ags:ul v6)
def coM(σ:Sg)(d:V Z9):Op->CoM
 |.store t x y=>bif R8 (xC cx σ x)then .st t x y else .no
 |.makeSlice t x y=>bif Tj cf d then .ma t x y else .no
 |.buildSlice t n ps=>bif Tj cf d then .lit t n ps else .no
 |.alloc E=>bif Tj cf d||(SE cf d).isSome then .al E else .no
 |.build t ps=>bif (SE cf d).isSome then .bz t ps else .no
 |.load t x=>(match xC cx σ x with
  |some (.mw o)=> .tk t o
  |v=>(match NV σ v with
   |some o=> .tv t o
   |none=> .no))
 |.call ⟨.builtin .append,a,ts⟩=>bif a.toList.any (λx=>zgX<|xC cx σ x)then .ap a ts else .no
 |.call ⟨.value f,a,_⟩=>(match xC cx σ f with
  |some (.yd o)=> .yl o a
  |some (.fn f [])=>(match zdF cf.ms f with
   |some s=> .sk s a
   |none=> .no)
  |_=> .no)
 |_=> .no
def mCo(σ:Sg)(d:V Z9)(c:CoM)(k:Sg->V R)(b:V R):V R:=match c with
 |.no=>b
 |.st t x y=>qM d.isNone (match ZG cf t with
  |some e=>jZ σ e.ty (xC cx σ x) (xC cx σ y) k
  |none=>wL)
 |.ma t x y=>Sm cf cx σ d t x y k
 |.lit t n ps=>zeU cf cx σ d t n ps.toList k
 |.al E=>H7 cf σ d E k
 |.tk t o=>Sq cf σ d t o k
 |.tv t o=>Ti cf σ d t o k
 |.bz t ps=>Hs cf cx σ d t ps.toList k
 |.ap a ts=>zem cf cx σ d a.toList ts.toList k
 |.sk s a=>CA cx σ d s a.toList k
 |.yl o a=>HR cx σ d o a.toList k
def zdh(f:Z5):N WZ->V WZ
 |[]=>wL
 |s::r=>match s.f,s.dom,s.cod,s.bk with
  |f',[.var _ _],[.var _ _],1=>bif E f' f then Z s else zdh f r
  |_,_,_,_=>zdh f r
def mBm(σ:Sg)(d:V Z9)(s:WZ)(o:K)(k:Sg->V R):V R:=match s,xz σ.ob o with
 |⟨_,[.var t E],[.var t2 a],M,_⟩,Z (.var b c y)=>qM (xaj E c && (xaj a E && (Ty.same t t2).isSome))<|Ty.cast b t y λy=>Y (M (y,())) λz=>k ⟨σ.nx,vv σ.rg d [],jE σ.ob o (.var t2 a z)⟩
 |_,_=>wL
def zlz(σ:Sg)(d:V Z9)(op:Op)(k:Sg->V R):V R:=
 match op with
 |.alloc E=>SI cf σ d E k
 |.box E x=>OU (zlp cf d) (zma cf cx σ d E x k)<|mE cf cx σ d (.box E x) k
 |.store t x y=>qM d.isNone (match ZG cf t with
  |some b=>S6 σ b.ty (xC cx σ x) (xC cx σ y) k
  |none=>wL)
 |.makeSlice t x y=>zfE cf cx σ d t x y k
 |.buildSlice t n ps=>zlF cf cx σ d t n ps.toList k
 |.slice t x wL (Z hi) wL=>(match xC cx σ x with
  |some (.ow o)=>SK cf cx σ d t o hi k
  |_=>mE cf cx σ d (.slice t x wL (Z hi) wL) k)
 |.call ⟨.builtin .append,a,ts⟩=>zlx cf cx σ d a.toList ts.toList k
 |.call ⟨.builtin .copy,a,ts⟩=>zdU cf cx σ d a.toList ts.toList k
 |.call ⟨.value f,a,ts⟩=>(match xC cx σ f with
  |some (.fn f' cs)=>(match Sz cx σ f' a.toList cf.cs with
   |some s=>zeN cf cx σ d s a.toList cs k
   |none=>mE cf cx σ d (.call ⟨.value f,a,ts⟩) k)
  |some (.bm f' o t)=>(match a.toList,zdh f' cf.cs with
   |[],Z s=>mBm σ d s o k
   |_,_=>wL)
  |_=>mE cf cx σ d (.call ⟨.value f,a,ts⟩) k)
 |op=>mE cf cx σ d op k
def mOp(σ:Sg)(d:V Z9)(a:Op)(k:Sg->V R):V R:=mCo cf cx σ d (coM cf cx σ d a) k<|zlz cf cx σ d a k
def Ia(σ:Sg)(t:Z9)(b:wW):Sg:=⟨σ.nx,vv σ.rg (Z t) [(0,.kb b)],σ.ob⟩
def lU(c:N uS)(o:uS)(σ:Sg)(k:Sg->wW->V R):V R:=match o.guard with
 |none=>k σ wF
 |some (j,a)=>match c[j]? with
  |some e=>(match e.dst with
   |some t=>(match get cx σ t 0 with
    |some (.kb b)=>k σ<|b==a
    |some .un=>k σ I
    |some (.d .b x)=>qM (Xx cx.rg t)<|ifB x (k (Ia σ t wF)<|true==a) (k (Ia σ t I)<|false==a)
    |_=>wL)
   |none=>wL)
  |none=>wL
def Ec(o:uS)(σ:Sg)(k:Sg->V R):V R:=match o.op with
 |.pick (.tmp t) _ _=>(match get cx σ t 0 with
  |some (.d .b x)=>qM (Xx cx.rg t)<|ifB x (k<|Ia σ t wF) (k<|Ia σ t I)
  |_=>k σ)
 |_=>k σ
def R0(a:N uS):N uS->Sg->(Sg->V R)->V R
 |[],σ,k=>k σ
 |o::r,σ,k=>qM (wA cx o.dst)<|lU cx a o σ λσ w=>OU w
  (Ec cx o σ λσ=>(let σ:=zid cx σ<|zl1 cf cx σ o.dst o.op;mOp cf cx σ o.dst o.op λσ=>R0 a r σ k))
  (R0 a r (σ.put o.dst [(0,.un)]) k)
def zfn(a:N uS):N uS->Sg->(Sg->V R)->V R
 |[],σ,k=>k σ
 |o::r,σ,k=>qM (wA cx o.dst)<|lU cx a o σ λσ w=>OU w
  (Ec cx o σ λσ=>eOp cf cx σ o.op λl=>qM (okL σ.nx l)<|zfn a r (σ.put o.dst l) k)
  (zfn a r (σ.put o.dst [(0,.un)]) k)
def dd:N (K×K×Dv)->N (K×K×Dv)
 |[]=>[]
 |e::r=>e::(dd r).filter λf=> !(E e.1 f.1 && E e.2.1 f.2.1)
structure Rb where
 a:V K
 c:V K
 rd:N K
 o:K
 x:Od
structure Oi where
 lo:K
 hi:K
 refs:N K
def ey(ts:N Z9):N (K×K×Dv)->N K
 |[]=>[]
 |(t,_,v)::r=>(match gH ts t,va v with
  |true,Z o=>o::ey ts r
  |_,_=>ey ts r)
def nG:N (K×Dv)->N K
 |[]=>[]
 |(_,v)::r=>(match va v with
  |some o=>o::nG r
  |none=>nG r)
def aA(ts:N Z9):N (K×K×Dv)->N (K×K×Dv)
 |[]=>[]
 |(t,i,v)::r=>(match gH ts t with
  |true=>(t,i,v)::aA ts r
  |false=>aA ts r)
def tM(d:V Z9)(rg:N (K×K×Dv)):N (K×Dv):=match d with
 |some t=>rg.filterMap λe=>match E e.1 t with
  |true=>Z (e.2.1,e.2.2)
  |false=>wL
 |none=>[]
def fS(os:N K):N Rb->N (K×Od)
 |[]=>[]
 |r::rs=>match r.c,gH os r.o with
  |none,wF=>(r.o,r.x)::fS os rs
  |_,_=>fS os rs
def R3(i:K)(os:N K):N Rb->N Rb
 |[]=>[]
 |r::rs=>(match r.c,gH os r.o with
  |none,wF=>⟨r.a,Z i,r.rd,r.o,r.x⟩
  |_,_=>r)::R3 i os rs
def TS(i:K)(os:N K):N Rb->N Rb
 |[]=>[]
 |r::rs=>(match r.c,gH os r.o with
  |none,wF=>⟨r.a,wL,i::r.rd,r.o,r.x⟩
  |_,_=>r)::TS i os rs
def zi1(i:K)(ob:N (K×Od)):N Rb:=ob.map λe=>⟨Z i,wL,[],e.1,e.2⟩
def zod(ob:N (K×Od)):N Rb:=ob.map λe=>⟨wL,wL,[],e.1,e.2⟩
def RI:N Rb->N (K×Od)
 |[]=>[]
 |r::rs=>match r.c with
  |none=>(r.o,r.x)::RI rs
  |some _=>RI rs
def okO(n:K)(ob:N (K×Od)):wW:=ob.all λe=>xdh e.1 n
def C7(σ:Sg):N K->Sg
 |[]=>σ
 |o::r=>C7 (P4 σ o) r
def zdr:N RM->wW
 |[]=>wF
 |.own _ _::_=>I
 |.var _ _::_=>I
 |_::r=>zdr r
def zkO(σ:Sg)(b:wW)(d:V Z9):Op->wW
 |.alloc _=>wF
 |.store _ _ _=>wF
 |.makeSlice _ _ _=>wF
 |.buildSlice _ _ _=> !b
 |.box _ _=>zlp cf d
 |.build _ _=>(SE cf d).isSome
 |.load _ x=>zgX (xC cx σ x)||(NV σ<|xC cx σ x).isSome
 |.slice _ x wL (Z _) wL=>(match xC cx σ x with
  |some (.ow _)=>wF
  |_=>I)
 |.call ⟨.builtin .append,_,_⟩=>wF
 |.call ⟨.builtin .copy,_,_⟩=>wF
 |.call ⟨.value f,a,_⟩=>(match xC cx σ f with
  |some (.fn f' _)=>(match Sz cx σ f' a.toList cf.cs with
   |some s=> !(CH s.dom)||(!b && !(zdr s.cod))
   |none=>(zdF cf.ms f').isSome)
  |some (.yd _)=>wF
  |some (.bm _ _ _)=>wF
  |_=>I)
 |_=>I
def fzB(a:N K):V Z9->wW
 |some t=>gH a t
 |none=>I
def znH(b:wW)(d:V Z9)(τ:Sg):Sg:=match b with
 |true=>C7 τ<|nG<|tM d τ.rg
 |false=>τ
def zkq(τ:Sg)(d:V Z9)(k:N (K×Dv)->K->N (K×Od)->V R):V R:=qM (okL τ.nx (tM d τ.rg) && okO τ.nx τ.ob)<|k (tM d τ.rg) τ.nx τ.ob
def zj4(os:N K):Op->N K
 |.move _=>[]
 |.assign _=>[]
 |_=>os
def zcY(a:N uS)(b:N K):N uS->K->Sg->N Rb->N Oi->(Sg->N Rb->N Oi->V R)->V R
 |[],_,σ,rs,is,k=>k σ rs is
 |o::r,i,σ,rs,is,k=>qM (wA cx o.dst)<|lU cx a o σ λσ w=>OU w
  (Ec cx o σ λσ=>OU (zkO cf cx ⟨σ.nx,σ.rg,fS (ey (xbA a.toArray o) σ.rg) rs⟩ (fzB b o.dst) o.dst o.op)
   (mOp cf ⟨0,[],cx.ob⟩ ⟨σ.nx,dd<|aA (xbA a.toArray o)<|σ.rg++cx.rg,fS (ey (xbA a.toArray o) σ.rg) rs⟩ o.dst o.op λτ=>
    zkq (znH (fzB b o.dst) o.dst τ) o.dst λl n ob=>zcY a b r (i+1) ⟨n,vv σ.rg o.dst l,[]⟩ (R3 i (ey (xbA a.toArray o) σ.rg) rs++zi1 i ob) (is++[⟨σ.nx,n,nG l⟩]) k)
   (eOp cf cx ⟨σ.nx,σ.rg,fS (zj4 (ey (xbA a.toArray o) σ.rg) o.op) rs⟩ o.op λl=>qM (okL σ.nx l)<|zcY a b r (i+1) (σ.put o.dst l) (TS i (zj4 (ey (xbA a.toArray o) σ.rg) o.op) rs) (is++[⟨σ.nx,σ.nx,nG l⟩]) k))
  (zcY a b r (i+1) (σ.put o.dst [(0,.un)]) rs (is++[⟨σ.nx,σ.nx,[]⟩]) k)
def inB(a:Oi)(o:K):wW:=xfY a.lo o && xdh o a.hi
def zjA(l:N uS)(i:K)(b:Oi)(rs:N Rb)(c:N (Oi×K)):wW:=
 (rs.all λr=> !inB b r.o||(match r.a with
  |some j=>E j i||qj l 16 j i
  |none=>I)) && c.all λJ=>J.1.refs.all λp=> !inB b p||E J.2 i||qj l 16 J.2 i
def zhL(l:N uS)(m:K)(rs:N Rb)(is:N Oi):wW:=
 (rs.all λr=>(match r.a with
  |some j=>xdh j m && r.rd.all λi=>qj l 16 i j
  |none=>wF) && (match r.c with
  |some k=>xdh k m && (match r.a with
   |some j=>qj l 16 k j
   |none=>wF) && r.rd.all λi=>qj l 16 k i
  |none=>wF)) &&
 (is.zipIdx.all λJ=>zjA l J.2 J.1 rs is.zipIdx) &&
 (xaH m).all λi=>(xaH m).all λj=>E i j||(match(zZ l i).dst with
  |some t=> !((zZ l j).dst==Z t)
  |none=>wF)
def SB(l:N uS):K->K->K
 |0,m=>m
 |f+1,m=>bif xdh 1 m && Wv l (m-1)then SB l f (m-1)else m
def zli(al:N (K×v6)):v6->v6
 |.tmp t=>(match K2 al t with
  |some x=>x
  |none=> .tmp t)
 |x=>x
def znL(al:N (K×v6))(o:uS):N (K×v6):=match o.op,o.dst with
 |.move x,Z d=>(d,zli al x)::al
 |.assign x,Z d=>(d,zli al x)::al
 |_,_=>al
def zjO:N uS->N (K×v6)->Sg->Sg
 |[],_,σ=>σ
 |o::r,al,σ=>zjO r (znL al o)<|zid cx σ<|(zl1 cf cx σ o.dst o.op).map<|zli al
def zmq(id:K):N K:=match K2 cf.an.dz id with
 |some l=>l
 |none=>[]
def zk4(id:K)(l:N uS)(m:K)(σ:Sg)(k:Sg->V R):V R:=
 let a:=zmq cf id
 let σ:=C7 σ<|ey a σ.rg
 zcY cf cx l a (l.take m) 0 ⟨σ.nx,σ.rg,[]⟩ (zod σ.ob) [] λσ rs is=>qM (zhL l m rs is)<|R0 cf cx l (l.drop m) ⟨σ.nx,dd σ.rg,RI rs⟩ k
def znI(id:K):wW:=match K2 cf.an.dz id with
 |some _=>wF
 |none=>I
def zmJ(id:K)(l:N uS)(a:wW)(σ:Sg)(k:Sg->V R):V R:=
 OU a
  (let m:=SB l (X l) (X l)
  qM (Wv l m)<|OU (znI cf id) (zk4 cf cx id l m σ k) (zfn cf cx l (l.take m) (zjO cf cx (l.take m) [] σ) λσ=>R0 cf cx l (l.drop m) ⟨σ.nx,dd σ.rg,σ.ob⟩ k))
  (R0 cf cx l l σ k)
def Qp:N (K×TF)->Type
 |[]=>Z4
 |[a]=>a.2.D
 |a::b::r=>a.2.D×Qp (b::r)
def dU(σ:Sg)(ds:N (K×TF))(t:K)(f:TF)(k:f.D->N K->V R):V R:=match f,k with
 |.d s,k=>A6 (get cx σ t 0) s λy=>k y []
 |.q s,k=>(match get cx σ t 0 with
  |some (.q a x)=>Ty.cast a s x λy=>k y []
  |_=>wL)
 |.own s E,k=>(match get cx σ t 0 with
  |some (.ow o)=>(match xz σ.ob o with
   |some (.own a b xs)=>qM (xaj E b)<|Ty.cast (.l a) (.l s) xs λy=>k y [o]
   |_=>wL)
  |some .nil=>k ([]:N s.D) []
  |_=>wL)
 |.var s E,k=>(match get cx σ t 0 with
  |some (.vs o _)=>(match xz σ.ob o with
   |some (.var a b z)=>qM (xaj E b)<|Ty.cast a s z λy=>k y [o]
   |_=>wL)
  |_=>wL)
 |.mat s E E1,k=>(match get cx σ t 0 with
  |some (.mw o)=>(match xz σ.ob o with
   |some (.mat a b c xss ix)=>qM (xaj E b && xaj E1 c)<|Ty.cast (.l (.l a)) (.l (.l s)) xss λy=>k (y,ix) [o]
   |_=>wL)
  |some .nil=>k (([],[]):N (N s.D)×N K) []
  |_=>wL)
 |.matv s E E1,k=>(match get cx σ t 0 with
  |some (.mv o lo n)=>(match xz σ.ob o with
   |some (.mat a b c xss ix)=>qM (xaj E b && xaj E1 c)<|Ty.cast (.l (.l a)) (.l (.l s)) xss λy=>k ((y,ix),(lo,n)) [o]
   |_=>wL)
  |_=>wL)
 |.row j,k=>(match get cx σ t 0,ds[j]? with
  |some (.rw o r),Z (s,.mat _ _ _)=>(match get cx σ s 0 with
   |some (.mw e)=>qM (xaj o e)<|k r []
   |_=>wL)
  |some (.rw o r),Z (s,.matv _ _ _)=>(match get cx σ s 0 with
   |some (.mv e _ _)=>qM (xaj o e)<|k r []
   |_=>wL)
  |_,_=>wL)
 |.view j,k=>(match get cx σ t 0,ds[j]? with
  |some (.mv o lo n),Z (s,.mat _ _ _)=>(match get cx σ s 0 with
   |some (.mw e)=>qM (xaj o e)<|k (lo,n) []
   |_=>wL)
  |some (.mv o lo n),Z (s,.matv _ _ _)=>(match get cx σ s 0 with
   |some (.mv e _ _)=>qM (xaj o e)<|k (lo,n) []
   |_=>wL)
  |_,_=>wL)
 |.vr s E h E1 n i,k=>(match get cx σ t 0 with
  |some (.mw o)=>(match xz σ.ob o with
   |some (.vr a b g c m p z xs)=>qM (xaj E b && (xaj E1 c && (xaj n m && xaj i p)))<|Ty.cast a s z λz=>Ty.cast (.l g) (.l h) xs λxs=>k (z,xs) [o]
   |_=>wL)
  |_=>wL)
 |.bo s E u,k=>(match get cx σ t 0 with
  |some (.mw o)=>(match xz σ.ob o with
   |some (.bo a b c xs)=>qM (xaj E b && xaj u c)<|Ty.cast (.l a) (.l s) xs λy=>k y [o]
   |_=>wL)
  |_=>wL)
def C2(os:N K):N K->wW
 |[]=>wF
 |o::r=> !gH os o && C2 os r
def gat(σ:Sg)(ds:N (K×TF)):(l:N (K×TF))->(Qp l->N K->V R)->V R
 |[],k=>k () []
 |[a],k=>dU cx σ ds a.1 a.2 k
 |a::b::r,k=>dU cx σ ds a.1 a.2 λx o=>gat σ ds (b::r) λy os=>qM (C2 os o)<|k (x,y) (o++os)
def zhF(σ:Sg):N (K×NF)->wW
 |[]=>wF
 |(t,f)::r=>(match f,get cx σ t 0 with
  |.kb b,Z (.kb c)=>b==c
  |.nil,Z .nil=>wF
  |.ci x,Z (.d .i y)=>eqI x y
  |.cu x,Z (.d .u y)=>eqU x y
  |.al s,Z (.ow o)=>(match get cx σ s 0 with
   |some (.ow a)=>E o a
   |_=>I)
  |.al s,Z (.vs o _)=>(match get cx σ s 0 with
   |some (.vs a _)=>E o a
   |_=>I)
  |.al s,Z (.mw o)=>(match get cx σ s 0 with
   |some (.mw a)=>E o a
   |_=>I)
  |.bm s f,Z (.bm f' o _)=>(match get cx σ s 0 with
   |some (.vs a _)=>E o a && E f f'
   |_=>I)
  |_,_=>I) && zhF σ r
def Au(n0 o:K)(f:TF)(x:f.D):Dv×V Od:=match f,x with
 |.d t,x=>(.d t x,wL)
 |.q t,x=>(.q t x,wL)
 |.own t E,x=>(.ow o,Z (.own t E x))
 |.var t E,x=>(.vs o t,Z (.var t E x))
 |.mat t E E1,x=>(.mw o,Z (.mat t E E1 x.1 x.2))
 |.matv t E E1,x=>(.mv o x.2.1 x.2.2,Z (.mat t E E1 x.1.1 x.1.2))
 |.row j,r=>(.rw (n0+j) r,wL)
 |.view j,r=>(.mv (n0+j) r.1 r.2,wL)
 |.bo t E a,x=>(.mw o,Z (.bo t E a x))
 |.vr t E s E1 n i,x=>(.mw o,Z (.vr t E s E1 n i x.1 x.2))
def gn(n0:K):(l:N (K×TF))->Qp l->K->N (K×K×Dv)×N (K×Od)
 |[],_,_=>([],[])
 |[a],x,o=>let v:=Au n0 o a.2 x
  ([(a.1,0,v.1)],match v.2 with
   |some y=>[(o,y)]
   |none=>[])
 |a::b::r,x,o=>let v:=Au n0 o a.2 x.1
  let y:=gn n0 (b::r) x.2<|o+1
  ((a.1,0,v.1)::y.1,match v.2 with
   |some q=>(o,q)::y.2
   |none=>y.2)
def MB(rg:N (K×K×Dv)):N (K×NF)->N (K×K×Dv)
 |[]=>rg
 |(t,f)::r=>(match f with
  |.kb b=>[(t,0,.kb b)]
  |.nil=>[(t,0,.nil)]
  |.ci x=>[(t,0,.d .i x)]
  |.cu x=>[(t,0,.d .u x)]
  |.al s=>(match gN rg s 0 with
   |some v=>[(t,0,v)]
   |none=>[])
  |.bm s f=>(match gN rg s 0 with
   |some (.vs o q)=>[(t,0,.bm f o q)]
   |_=>[]))++MB rg r
def Kk(sh:Sh)(x:Qp sh.ds)(kp:Sg):Sg:=
 let y:=gn kp.nx sh.ds x kp.nx
 ⟨kp.nx+X sh.ds,MB y.1 sh.ns++y.1++kp.rg,y.2++kp.ob⟩
def zeK(σ:Sg):N (K×TF)->Sg
 |[]=>σ
 |(t,.d _)::r=>zeK (frz cx σ (.tmp t)) r
 |_::r=>zeK σ r
def rE(sh:Sh)(σ:Sg)(k:Qp sh.ds->V R):V R:=let σ:=zeK cx σ sh.ds
 qM (zhF cx σ sh.ns)<|gat cx σ sh.ds sh.ds λx _=>k x
def SmD:N (Tg×Sh)->Type
 |[]=>Empty
 |[a]=>Qp a.2.ds
 |a::b::r=>Qp a.2.ds⊕SmD (b::r)
def zcK:Tg->Tg->wW
 |.n,.n=>wF
 |.x i,.x j=>E i j
 |.r,.r=>wF
 |_,_=>I
def zfj(σ:Sg)(t:Tg):(l:N (Tg×Sh))->(SmD l->V R)->V R
 |[],_=>wL
 |[a],k=>qM (zcK a.1 t)<|rE cx a.2 σ k
 |a::b::r,k=>OU (zcK a.1 t) (rE cx a.2 σ λx=>k (.inl x))<|zfj σ t (b::r) λy=>k (.inr y)
def P0(kp:Sg)(K:Tg->Sg->V R):(l:N (Tg×Sh))->SmD l->V R
 |[]=>λ_=>wL
 |[a]=>λx=>K a.1<|Kk a.2 x kp
 |a::b::r=>λx=>xfB (α:=Qp a.2.ds) (β:=SmD (b::r)) (λx=>K a.1<|Kk a.2 x kp) (P0 kp K (b::r)) x
def Eo:Wn->N K
 |.region _ d _=>d.toList.filterMap (·.dst)
 |.seq a b=>Eo a++Eo b
 |.cond _ a b=>Eo a++Eo b
 |.block _ c=>Eo c
 |.loop c=>Eo c
 |.scope c=>Eo c
 |.rangeFunc _ ps a c=>ps.toList++(Eo a++Eo c)
 |_=>[]
def rid:Wn->V K
 |.region i _ _=>Z i
 |.seq a b=>(match rid a with
  |some i=>Z i
  |none=>rid b)
 |.cond _ a b=>(match rid a with
  |some i=>Z i
  |none=>rid b)
 |.block _ c=>rid c
 |.loop c=>rid c
 |.scope c=>rid c
 |.rangeFunc _ _ a c=>(match rid a with
  |some i=>Z i
  |none=>rid c)
 |_=>wL
def zjY:V K->K
 |some i=>i+1
 |none=>0
def zqk(a b:Wn):K:=zjY (rid a)*65536+zjY (rid b)
def FU(σ:Sg):N K->N K
 |[]=>[]
 |t::r=>match gN σ.rg t 0 with
  |some v=>(match va v with
   |some o=>o::FU σ r
   |none=>FU σ r)
  |none=>FU σ r
def zff(a b:N K)(e:K×K×Dv):wW:= !gH a e.1 && (match va e.2.2 with
 |some o=>gH b o
 |none=>wF)
def keep(σ:Sg)(a ro:N K):Sg:=let b:=FU σ ro
 ⟨σ.nx,σ.rg.filter<|zff a b,σ.ob.filter λe=>gH b e.1⟩
def rest(σ:Sg)(a ro:N K):Sg:=let b:=FU σ ro
 ⟨σ.nx,σ.rg.filter<|λe=> !zff a b e,σ.ob.filter λe=> !gH b e.1⟩
def kg(cx kp:Sg):Sg:=⟨kp.nx,kp.rg++cx.rg,kp.ob++cx.ob⟩
def bh:N (K×TF)->wW
 |[]=>wF
 |(_,.own _ _)::r=>bh r
 |(_,.var _ _)::r=>bh r
 |(_,.mat _ _ _)::r=>bh r
 |(_,.bo _ _ _)::r=>bh r
 |_=>I
def tN:N (K×TF)->K->N (K×K×Dv)
 |[],_=>[]
 |(t,.mat _ _ _)::r,n=>(t,0,.mw n)::tN r (n+1)
 |(t,.bo _ _ _)::r,n=>(t,0,.mw n)::tN r (n+1)
 |(t,_)::r,n=>(t,0,.ow n)::tN r (n+1)
def GH{a:K×TF}:{l:N (K×TF)}->a.2.D->Qp l->Qp (a::l)
 |[],y,_=>y
 |_::_,y,x=>(y,x)
def gD{a:K×TF}:{l:N (K×TF)}->Qp (a::l)->a.2.D×Qp l
 |[],z=>(z,())
 |_::_,z=>z
def kQ(pt:K)(t:Ty)(E:wT)(ds:N (K×TF)):Sh:=⟨(pt,.own t E)::ds,[]⟩
def zfi(ds:N (K×TF))(t:K):wW:=ds.all λe=> !E e.1 t
def zg1:N (K×TF)->wW
 |[]=>wF
 |e::r=>zfi r e.1 && zg1 r
def cpR(cx':Sg)(n:K)(sh:Sh):Sg:=⟨n+X sh.ds,tN sh.ds n++cx'.rg,cx'.ob⟩
def zlf(cp:Sg)(ds:N (K×TF))(t:Ty)(E:wT)(pt:K)(τ:Tg)(q:Tg)(σ:Sg):V (N t.D×(Qp ds⊕Qp ds)):=match q with
 |.n=>rE cp (kQ pt t E ds) σ λz=>Z ((gD z).1,.inl (gD z).2)
 |.x i=>qM (zcK τ (.x i))<|rE cp (kQ pt t E ds) σ λz=>Z ((gD z).1,.inr (gD z).2)
 |.r=>qM (zcK τ .r)<|rE cp (kQ pt t E ds) σ λz=>Z ((gD z).1,.inr (gD z).2)
def zoI(cx':Sg)(n:K)(ds:N (K×TF))(t:Ty)(E:wT)(pt:K)(τ:Tg)
 (b c:Sg->Sg->(Tg->Sg->V (N t.D×(Qp ds⊕Qp ds)))->V (N t.D×(Qp ds⊕Qp ds))) (ys:N t.D) (x:Qp ds):V (N t.D×(Qp ds⊕Qp ds)):=
 b (cpR cx' n<|kQ pt t E ds) (Kk (kQ pt t E ds) (GH (a:=(pt,.own t E)) ys x) ⟨n,[],[]⟩) λq σ=>match q with
  |.n=>c (cpR cx' n<|kQ pt t E ds) σ<|zlf (cpR cx' n<|kQ pt t E ds) ds t E pt τ
  |_=>wL
def RU{R:Type}(cx σ:Sg)(K:Tg->Sg->V R)(s:Lp)(it:E5)(y:cF it.dom)(τ:Tg)(pt:wr)(a:N wr)
 (b c:Sg->Sg->(Tg->Sg->V (N it.t.D×(Qp s.hd.ds⊕Qp s.hd.ds)))->V (N it.t.D×(Qp s.hd.ds⊕Qp s.hd.ds))):V R:=
 let kp:=keep σ a s.sg.ro
 let cx':=kg cx kp
 qM (bh s.hd.ds && (zg1 (kQ pt it.t it.E s.hd.ds).ds && Xx cx'.rg pt))<|rE cx' s.hd (rest σ a s.sg.ro) λx=>
  bd (it.M (X:=Qp s.hd.ds) (Y:=Qp s.hd.ds) y (zoI cx' kp.nx s.hd.ds it.t it.E pt τ b c) x) λr=>xfB (λx=>K .n<|Kk s.hd x kp) (λx=>K τ<|Kk s.hd x kp) r
def IE:Wn->wW
 |.seq a b=>IE a && IE b
 |.cond _ a b=>IE a && IE b
 |.block _ c=>IE c
 |.loop c=>IE c
 |.scope c=>IE c
 |.rangeFunc _ _ _ _=>I
 |_=>wF
end
def den(cf:Cf):Wn->{R:Type}->Sg->Sg->(Tg->Sg->V R)->V R
 |.skip,_,cx,σ,K=>K .n σ
 |.label _,_,cx,σ,K=>K .n σ
 |.exit id,_,cx,σ,K=>K (.x id) σ
 |.ret,_,cx,σ,K=>K .r σ
 |.scope c,_,cx,σ,K=>den cf c cx σ K
 |.region i h k,_,cx,σ,K=>zmJ cf cx i h.toList k σ λσ=>K .n σ
 |.cond c a b,_,cx,σ,K=>(match xC cx σ c with
  |some (.kb wF)=>den cf a cx σ K
  |some (.kb I)=>den cf b cx σ K
  |some (.d .b x)=>ifB x (den cf a cx σ K)<|den cf b cx σ K
  |_=>wL)
 |.block id c,_,cx,σ,K=>den cf c cx σ λt σ=>match t with
  |.x j=>OU (E j id) (K .n σ)<|K (.x j) σ
  |t=>K t σ
 |.seq a b,_,cx,σ,K=>
  (match K2 cf.an.jn (zqk a b)with
  |none=>den cf a cx σ λt σ=>(match t with
   |.n=>den cf b cx σ K
   |t=>K t σ)
  |some s=>
   let e:=Eo a
   let kp:=keep σ e s.ro
   Y (den cf a (kg cx kp) (rest σ e s.ro) λt σ=>zfj (kg cx kp) σ t s.tg Z) λx=>
    P0 kp (λt σ=>match t with
     |.n=>den cf b cx σ K
     |t=>K t σ) s.tg x)
 |.loop c,_,cx,σ,K=>
  (match(match rid c with
   |some i=>K2 cf.an.lp i
   |none=>wL)with
  |none=>wL
  |some s=>
   let e:=Eo c
   let kp:=keep σ e s.sg.ro
   let cx':=kg cx kp
   rE cx' s.hd (rest σ e s.sg.ro) λx=>
    Y (zg (λL x=>den cf c cx' (Kk s.hd x ⟨kp.nx,[],[]⟩) λt σ=>match t with
     |.n=>rE cx' s.hd σ L
     |t=>zfj cx' σ t s.sg.tg Z) cf.fu x) λx=>P0 kp K s.sg.tg x)
 |.rangeFunc g ps a c,_,cx,σ,K=>
  (match xC cx σ g,(match rid c with
   |some i=>K2 cf.an.lp i
   |none=>wL),ps.toList with
  |some (.fn f cs),Z s,[pt]=>(match zi3 cf.is f,s.sg.tg,s.hd.ns with
   |some it,[(τ,_)],[]=>(match KZ it.dom cs with
    |some y=>qM (IE a && IE c)<|RU cx σ K s it y τ pt (pt::(Eo a++Eo c)) (λcx σ K=>den cf a cx σ K) (λcx σ K=>den cf c cx σ K)
    |none=>wL)
   |_,_,_=>wL)
  |_,_,_=>wL)
 |_,_,_,_,_=>wL
def Xt:(dom:N AM)->cF dom->K->N (K×K×Dv)×N (K×Od)
 |[],_,_=>([],[])
 |.d t::r,x,i=>let y:=Xt r x.2 (i+1)
  ((i,0,.d t x.1)::y.1,y.2)
 |.q t::r,x,i=>let y:=Xt r x.2 (i+1)
  ((i,0,.q t x.1)::y.1,y.2)
 |.own t E::r,x,i=>let y:=Xt r x.2 (i+1)
  ((i,0,.ow i)::y.1,(i,.own t E x.1)::y.2)
 |.var t E::r,x,i=>let y:=Xt r x.2 (i+1)
  ((i,0,.vs i t)::y.1,(i,.var t E x.1)::y.2)
 |.fn dom cod::r,x,i=>let y:=Xt r x.2 (i+1)
  ((i,0,.fp dom cod x.1)::y.1,y.2)
def B6{R:Type}(cf:Cf)(σ:Sg)(r:WL)(m:RM)(k:m.D->N K->V R):V R:=match r,m,k with
 |.tmp t,.d s,k=>A6 (get ⟨0,[],[]⟩ σ t 0) s λy=>k y []
 |.tmp t,.own s E,k=>dU ⟨0,[],[]⟩ σ [] t (.own s E) k
 |.tmp t,.var s E,k=>dU ⟨0,[],[]⟩ σ [] t (.var s E) k
 |.cell t E,.d s,k=>(match get ⟨0,[],[]⟩ σ t 0,ZG cf E with
  |some (.vs o _),Z a=>(match xz σ.ob o with
   |some (.var b c z)=>qM (xaj E c)<|Ty.cast b a.ty z λz=>Ty.cast a.ty s z λy=>k y [o]
   |_=>wL)
  |_,_=>wL)
 |_,_,_=>wL
def Ra{R:Type}(cf:Cf)(σ:Sg):N WL->(cod:N RM)->(lZ cod->N K->V R)->V R
 |[],[],k=>k () []
 |[v],[m],k=>B6 cf σ v m k
 |v::a::vs,m::m'::ms,k=>B6 cf σ v m λx o=>Ra cf σ (a::vs) (m'::ms) λy os=>qM (C2 os o)<|k (x,y) (o++os)
 |_,_,_=>wL
def okC(N:K):Wn->wW
 |.region _ d _=>d.toList.all λo=>q8 N o.dst
 |.seq a b=>okC N a && okC N b
 |.cond _ a b=>okC N a && okC N b
 |.block _ c=>okC N c
 |.loop c=>okC N c
 |.scope c=>okC N c
 |.rangeFunc _ ps a c=>(ps.toList.all λp=>xdh p N) && (okC N a && okC N c)
 |_=>wF
def bf(σ:Sg):N WL->N RM->Sg
 |.tmp t::vs,.d _::ms=>bf (frz ⟨0,[],[]⟩ σ (.tmp t)) vs ms
 |_::vs,_::ms=>bf σ vs ms
 |_,_=>σ
def TP(cf:Cf)(fn:QR)(dom:N AM)(cod:N RM)(x:cF dom):V (lZ cod):=match fn.body with
 |some c=>qM (okC fn.ntmps c && xfY (X dom) fn.ntmps)<|
  let y:=Xt dom x 0
  den cf c ⟨0,[],[]⟩ ⟨X dom,y.1,y.2⟩ λt σ=>(match t with
   |.r=>Ra cf (bf σ fn.results.toList cod) fn.results.toList cod λy _=>Z y
   |.n=>Ra cf (bf σ fn.results.toList cod) fn.results.toList cod λy _=>Z y
   |_=>wL)
 |none=>wL
def E6:N AM->K->N WL
 |[],_=>[]
 |.own _ _::r,i=> .tmp i::E6 r (i+1)
 |.var _ _::r,i=> .tmp i::E6 r (i+1)
 |_::r,i=>E6 r<|i+1
def CD(a:K->wN):N AM->K->N (K×K×Dv)
 |[],_=>[]
 |.own _ _::r,i=>(i,0,.pin<|a i)::CD a r (i+1)
 |.var _ _::r,i=>(i,0,.pin<|a i)::CD a r (i+1)
 |_::r,i=>CD a r<|i+1
def zi9(cf:Cf)(fn:QR)(dom:N AM)(cod:N RM)(bk:K)(b:K->wN)(x:cF dom):V (lZ cod):=match fn.body with
 |some c=>qM (okC fn.ntmps c && xfY (X dom) fn.ntmps && E (X fn.results.toList+bk) (X cod) && E (X (E6 dom 0)) bk && xdh 0 bk)<|
  let y:=Xt dom x 0
  let a:=fn.results.toList++E6 dom 0
  den cf c ⟨0,CD b dom 0,[]⟩ ⟨X dom,y.1,y.2⟩ λt σ=>(match t with
   |.r=>Ra cf (bf σ a cod) a cod λy _=>Z y
   |.n=>Ra cf (bf σ a cod) a cod λy _=>Z y
   |_=>wL)
 |none=>wL
end
section
def fY(p:Prop):FF where
 p _ _:=p
 keep h _:=h
 sub h _:=h
def Iv:N PD->N wN->N FF
 |c::cs,v::vs=>fP c.t.rep c.x v::Iv cs vs
 |_,_=>[]
def tsF:(ts:N Ty)->mb ts->N wN->N FF
 |[],_,_=>[]
 |t::ts,x,vs=>fV t.rep x.1 (vs.headD uP)::tsF ts x.2 vs.tail
def csF:(ts:N Ty)->Gy ts->N wN->N FF
 |[],_,_=>[]
 |[t],x,vs=>[fV t.rep x<|vs.headD uP]
 |t::s::r,x,vs=>fV t.rep x.1 (vs.headD uP)::csF (s::r) x.2 vs.tail
def zlm(P:jp)(a:Z5)(UU:N wN)(b:N FF)(dom cod:N Ty)(g:mb dom->V (Gy cod)):Prop:=
 Ep P a=wF/\∀(x:mb dom) (r:Gy cod),g x=Z r->∀vs:N wN,X vs=X dom->
  Fn P a (vs++UU).toArray (tsF dom x vs++b) Xv (λus=>csF cod r us) (λus=>X us=X cod)
def fnF(P:jp)(dom cod:N Ty)(g:mb dom->V (Gy cod))(v:wN):FF where
 p S w:=∃a UU b,v=.func (.func a) #[] UU.toArray/\zlm P a UU b dom cod g/\zE S b w
 keep:=by rintro S w w' ⟨a,UU,b,h1,c,d⟩ k;exact⟨a,UU,b,h1,c,zE.keep k d⟩
 sub:=by rintro S e w ⟨a,UU,b,h1,c,d⟩ k;exact⟨a,UU,b,h1,c,zE.sub k d⟩
def amF(P:jp):(a:AM)->a.D->wN->FF
 |.d t,x,v=>fV t.rep x v
 |.q t,x,v=>fP t.rep x v
 |.own _ _,_,_=>fY XS
 |.var _ _,_,v=>fY (∃b,v=.pointer (Z ⟨b,0,wL⟩))
 |.fn dom cod,g,v=>fnF P dom cod g v
def amM:(a:AM)->a.D->wN->N MF
 |.own t E,xs,v=>[mO t.rep E v xs]
 |.var t E,z,v=>[mP t.rep.c E v z]
 |_,_,_=>[]
def Zo(P:jp):(dom:N AM)->cF dom->N wN->N FF
 |[],_,_=>[]
 |a::r,x,vs=>amF P a x.1 (vs.headD uP)::Zo P r x.2 vs.tail
def Xo:(dom:N AM)->cF dom->N wN->N MF
 |[],_,_=>[]
 |a::r,x,vs=>amM a x.1 (vs.headD uP)++Xo r x.2 vs.tail
def rmF:(m:RM)->m.D->wN->N FF
 |.d t,x,v=>[fV t.rep x v]
 |.own _ _,_,_=>[]
 |.var _ _,_,v=>[fY (∃b,v=.pointer (Z ⟨b,0,wL⟩))]
def rmM:(m:RM)->m.D->wN->N MF
 |.own t E,xs,v=>[mO t.rep E v xs]
 |.var t E,z,v=>[mP t.rep.c E v z]
 |.d _,_,_=>[]
def Yg:(rs:N RM)->lZ rs->N wN->N FF
 |[],_,_=>[]
 |[m],x,vs=>rmF m x<|vs.headD uP
 |m::n::r,x,vs=>rmF m x.1 (vs.headD uP)++Yg (n::r) x.2 vs.tail
def Ys:(rs:N RM)->lZ rs->N wN->N MF
 |[],_,_=>[]
 |[m],x,vs=>rmM m x<|vs.headD uP
 |m::n::r,x,vs=>rmM m x.1 (vs.headD uP)++Ys (n::r) x.2 vs.tail
def JU:N AM->N wN->N wN
 |[],_=>[]
 |.own _ _::r,vs=>vs.headD uP::JU r vs.tail
 |.var _ _::r,vs=>vs.headD uP::JU r vs.tail
 |_::r,vs=>JU r vs.tail
def zot(bk n:K)(us:N wN):wN:=match bk with
 |0=>Xv us
 |b+1=>Xv<|us.take<|n-(b+1)
def zkr(dom:N AM)(vs:N wN)(bk n:K)(us:N wN):Prop:=match bk with
 |0=>X us=n
 |b+1=>X us=n/\us.drop (n-(b+1))=JU dom vs
def xt(P:jp)(s:WZ):Prop:=
 Ep P s.f=wF/\∀(x:cF s.dom) (r:lZ s.cod),s.M x=Z r->∀vs:N wN,X vs=X s.dom->
  FnG P s.f vs.toArray (Xo s.dom x vs) (Zo P s.dom x vs) (zot s.bk (X s.cod)) (λus=>Ys s.cod r us) (λus=>Yg s.cod r us) (zkr s.dom vs s.bk (X s.cod))
def xt.plain{P:jp}{s:WZ}(h:xt P s)(a:s.bk=0){x:cF s.dom}{r:lZ s.cod}(b:s.M x=Z r){vs:N wN}(hl:X vs=X s.dom):
 FnG P s.f vs.toArray (Xo s.dom x vs) (Zo P s.dom x vs) Xv (λus=>Ys s.cod r us) (λus=>Yg s.cod r us) (λus=>X us=X s.cod):=by
 have h1:=h.2 x r b vs hl;rw[a]at h1;exact h1
def zhz(P:jp)(t:wT)(i:K):V (K×wW×K):=match P.underlying t with
 |some (.struct fs)=>match fs[i]? with
  |some f=>match tyB P f.type with
   |some (agg,n,_,Z _)=>Z (f.offset,agg,n)
   |_=>wL
  |none=>wL
 |_=>wL
def zgo(P:jp)(t:wT)(a:TI):Prop:=match a.k with
 |.int k=>P.underlying t=Z (.int k)
 |.bool=>P.underlying t=Z .bool
 |.str=>P.underlying t=Z .string
 |.sl E=>P.underlying t=Z (.slice E)/\∃e,a.ty=.l e
 |.st n=>a.ty.rep.agg=wF/\(∀i f,xh n a.ty i=Z f->SM P t i=Z f.off)/\
  (∃fs,P.underlying t=Z (.struct fs)/\∃pl:ul (K×K),(∀w,(fs.mapM (λf=>do pure (f.offset,<-WN f.type)):Sem (ul<|K×K)).run P w=.ok pl w)/\
   ∀i f,xh n a.ty i=Z f->pl[i]? =Z (f.off,f.f.n))/\
  ∀i f,xh n a.ty i=Z f->zhz P t i=Z (f.off,f.f.rep.agg,f.f.n)
 |.ar k E=>a.ty.rep.agg=wF/\P.underlying t=Z (.array k E)
 |.pt E=>P.underlying t=Z (.pointer E)
def zfb(P:jp)(t:wT)(b:TI):Prop:=
 (∃a,QF P t b.ty.rep.agg b.ty.rep.n b.B a/\a.cells.size=b.ty.rep.n/\(∀S w,b.ty.rep.p S b.ty.z a.cells.toList w)/\(∀s,b.ty=.l s->a=.slice wL 0 0)/\∀n i off s g st,xh n b.ty i=Z ⟨off,.l s,g,st⟩->a.cells.toList[off]? =Z (.slice wL 0 0))/\0<b.B/\0<b.ty.rep.n/\zgo P t b
def yZ(P:jp)(tt:N (K×TI)):Prop:=∀t a,K2 tt t=Z a->zfb P t a
def ug(P:jp)(tt:N (K×TI)):Prop:=∀t s E B,K2 tt t=Z ⟨.l s,.sl E,B⟩->∃a,K2 tt E=Z a/\a.ty=s
def Fl.ok(t:Ty)(f:Fl t.D):Prop:=∀z:t.D,Sub t.rep.c z f.off f.f.rep (f.get z)<|λy=>f.set y z
def zmU(f:Z5)(c:N PD)(v:wN):FF where
 p S w:=∃cs:N wN,v=.func (.func f) #[] cs.toArray/\X cs=X c/\zE S (Iv c cs) w
 keep:=by rintro S w w' ⟨cs,h1,a,b⟩ k;exact⟨cs,h1,a,zE.keep k b⟩
 sub:=by rintro S d w ⟨cs,h1,a,b⟩ k;exact⟨cs,h1,a,zE.sub k b⟩
def MI(v0:wN)(lo n:K)(v:wN):Prop:=(∃b m cap,v0=.slice (Z ⟨b,0,wL⟩) m cap/\lo+n<=m/\m<=cap/\cap<=9223372036854775807/\v=.slice (if cap=lo then Z ⟨b,0,wL⟩else Z ⟨b,0+lo*1,wL⟩) n (cap-lo))\/(v0=.slice wL 0 0/\lo=0/\n=0/\v=.slice wL 0 0)
def MI.old{v0 v:wN}{lo n:K}(h:MI v0 lo n v):(∃b m cap c,v0=.slice (Z ⟨b,0,wL⟩) m cap/\lo+n<=m/\n<=c/\c<=9223372036854775807/\v=.slice (Z ⟨b,0+lo*1,wL⟩) n c)\/(n=0/\∃g c,c<=9223372036854775807/\v=.slice g 0 c):=by
 rcases h with⟨b,m,cap,h1,d,e,f,a⟩|⟨h1,d,e,f⟩
 ·by_cases hc:cap=lo
  ·rw[iq hc]at a;obtain rfl:n=0:=W
   exact .inr ⟨O,_,cap-lo,W,a⟩
  ·rw[ir hc]at a;exact .inl ⟨b,m,cap,cap-lo,h1,d,W,W,a⟩
 ·exact .inr ⟨e,wL,0,W,by rw[f]⟩
def MI.same{v0 f v:wN}{lo n m:K}(h:MI v0 lo n v)(o:MI f lo n v)(hl:∀a k c,v0=.slice a k c->a.isSome=wF->k=m)(p:∀a k c,f=.slice a k c->a.isSome=wF->k=m):v0=f:=by
 rcases h with⟨b,k,cap,h1,q,r,j,l⟩|⟨h1,q,r,j⟩<;>rcases o with⟨s,x,e,q1,q2,t,g,d⟩|⟨q1,q2,t,g⟩
 ·have e1:=hl _ _ _ h1 O;have u:=p _ _ _ q1 O;subst e1 u;rw[l]at d;simp only[Value.slice.injEq,eL]at d;have⟨i,y⟩:=d;obtain rfl:cap=e:=W
  have w:b=s:=by
   by_cases hc:cap=lo
   ·rw[iq hc,iq hc]at i;simpa using i
   ·rw[ir hc,ir hc]at i;simpa using i
  rw[h1,q1,w]
 ·rw[l]at g;exfalso;simp only[Value.slice.injEq]at g;by_cases hc:cap=lo
  ·rw[iq hc]at g;cases g.1
  ·rw[ir hc]at g;cases g.1
 ·rw[j]at d;exfalso;simp only[Value.slice.injEq]at d;by_cases hc:e=lo
  ·rw[iq hc]at d;cases d.1
  ·rw[ir hc]at d;cases d.1
 ·rw[h1,q1]
def zpA(F:FF)(p:Prop):FF where
 p S w:=F.p S w/\p
 keep h k:=⟨F.keep h.1 k,h.2⟩
 sub h k:=⟨F.sub h.1 k,h.2⟩
def vj(P:jp)(vs:K->wN):Dv->wN->FF
 |.d t x,v=>fV t.rep x v
 |.q t x,v=>fP t.rep x v
 |.kb b,v=>fY<|v=.bool b
 |.un,v=>fY<|v=uP
 |.nil,v=>fY<|v=.slice wL 0 0
 |.ow o,v=>fY<|v=vs o
 |.ep o t j f,v=>fY (Fl.ok t f/\∃b n cap,vs o=.slice (Z ⟨b,0,wL⟩) n cap/\j<n/\v=.pointer (Z ⟨b,0+j*t.rep.n+f.off,wL⟩))
 |.sv o t lo n,v=>fY<|(∃b m cap c,vs o=.slice (Z ⟨b,0,wL⟩) m cap/\lo+n<=m/\n<=c/\c<=9223372036854775807/\v=.slice (Z ⟨b,0+lo*t.rep.n,wL⟩) n c)\/(n=0/\∃a c,c<=9223372036854775807/\v=.slice a 0 c)
 |.vs o t,v=>fY (v=vs o/\∃b,vs o=.pointer (Z ⟨b,0,wL⟩))
 |.vp o t f,v=>fY (Fl.ok t f/\∃b,vs o=.pointer (Z ⟨b,0,wL⟩)/\v=.pointer (Z ⟨b,0+f.off,wL⟩))
 |.fn f c,v=>zmU f c v
 |.fp dom cod g,v=>fnF P dom cod g v
 |.pin u,v=>fY<|v=u
 |.mw o,v=>fY<|v=yA (vs o)
 |.mv o lo n,v=>fY<|MI (yA<|vs o) lo n v
 |.hp o j,v=>fY (∃b n cap,yA (vs o)=.slice (Z ⟨b,0,wL⟩) n cap/\j<n/\v=.pointer (Z ⟨b,0+j*1,wL⟩))
 |.rw o r,v=>fY<|(xM<|vs o)[r]? =Z v
 |.rp o t r j f,v=>fY (Fl.ok t f/\∃b n cap,(xM<|vs o)[r]? =Z (.slice (Z ⟨b,0,wL⟩) n cap)/\j<n/\v=.pointer (Z ⟨b,0+j*t.rep.n+f.off,wL⟩))
 |.yd o,v=>fY<|v=.func (.yield<|lOf<|yA<|vs o) #[] #[]
 |.np,v=>fY<|v=.pointer wL
 |.vf o t n i,v=>fY (∃b f,yA (vs o)=.pointer (Z ⟨b,0,wL⟩)/\xh n t i=Z f/\v=.pointer (Z ⟨b,0+f.off,wL⟩))
 |.dz t x n i,v=>zpA (fV t.rep x v) (∃f,xh n t i=Z f/\v.cells.toList[f.off]? =Z (.slice wL 0 0))
 |.bm f o t,v=>fY (v=.func (.func f) #[vs o] #[]/\∃b,vs o=.pointer (Z ⟨b,0,wL⟩))
def wg(P:jp)(vs:K->wN)(d:Dv)(v:wN)(i:K):FF where
 p S w:=match i with
  |0=>(vj P vs d v).p S w
  |i+1=>∃us u,v=.tuple us/\us[i]? =Z u/\(vj P vs d u).p S w
 keep:=by
  intro S w w' h k
  cases i with
  |zero=>exact(vj P vs d v).keep h k
  |succ i=>have⟨us,u,h1,a,b⟩:=h;exact⟨us,u,h1,a,(vj P vs d u).keep b k⟩
 sub:=by
  intro S c w h k
  cases i with
  |zero=>exact(vj P vs d v).sub h k
  |succ i=>have⟨us,u,h1,a,b⟩:=h;exact⟨us,u,h1,a,(vj P vs d u).sub b k⟩
def vrP{α:Type}(s:Ty)(f:V (Fl α)):Prop:=∃(off:K) (g:α->(Ty.l s).D) (st:(Ty.l s).D->α->α),f=Z ⟨off,.l s,g,st⟩
def Jt(vs:K->wN)(e:K×Od):MF:=match e.2 with
 |.own t E xs=>mO t.rep E (vs e.1) xs
 |.var t E z=>mP t.rep.c E (vs e.1) z
 |.mat t E E1 xss ix=>th t.rep E E1 (vs e.1) xss ix
 |.bo t E a xs=>mBo t.rep E a (vs e.1) xs
 |.ho a=>mHo a<|vs e.1
 |.vr t E s E1 n i z xs=>mVr (vrP s<|xh n t i) t.rep E (YS<|xh n t i) (uh s (xh n t i) []) s.rep E1 (vs e.1) z xs
 |.vh t E s E1 n i z=>mVh (vrP s<|xh n t i) t.rep E (YS<|xh n t i) (uh s (xh n t i) []) (vs e.1) z
 |.hid t E X Y d b g x=>Dy [mPr<|Oh Tryz.prog (lOf<|yA<|vs e.1) t.rep E d b g,d x<|(xM<|vs e.1).headD uP]
 |.hiy Y b y=>b y<|(xM<|vs e.1).headD uP
def MS(vs:K->wN)(ob:N (K×Od)):N MF:=ob.map<|Jt vs
def RS(P:jp)(vs:K->wN)(env:y8)(rg:N (K×K×Dv)):N FF:=rg.map λe=>wg P vs e.2.2 (env e.1) e.2.1
structure Fr where
 we:wP
 Se:K->Prop
 F:N MF
 G:N FF
structure Bd(cx σ:Sg):Prop where
 o1:∀e∈σ.ob,e.1<σ.nx
 o2:∀e∈cx.ob,e.1<σ.nx
 r1:∀e∈σ.rg,∀o,va e.2.2=Z o->o<σ.nx
 r2:∀e∈cx.rg,∀o,va e.2.2=Z o->o<σ.nx
def Yn(P:jp)(fr:Fr)(cx σ:Sg)(env:y8)(w:wP):Prop:=
 Bd cx σ/\∃vs:K->wN,St fr.we fr.Se (MS vs σ.ob++(MS vs cx.ob++fr.F)) (RS P vs env σ.rg++(RS P vs env cx.rg++fr.G)) w
section
variable{P:jp}{vs vs':wr->wN}{env env':y8}
def fJ{d:Dv}(h:∀o,va d=Z o->vs' o=vs o)(v:wN):vj P vs' d v=vj P vs d v:=by
 cases d<;>simp only[vj]<;>simp only[va,xar,forall_eq']at h<;>rw[h]
def wE:∀{ob:N (K×Od)},(∀e∈ob,vs' e.1=vs e.1)->MS vs' ob=MS vs ob
 |[],_=>rfl
 |(o,x)::r,h=>by
  have h1:=h (o,x)<|FS;have a:=wE (ob:=r) λe b=>h e<|UV _ b;show Jt vs' (o,x)::MS vs' r=Jt vs (o,x)::MS vs r;rw[a];cases x<;>simp only[Jt]<;>rw[h1]
def jD:∀{rg:N (K×K×Dv)},(∀e∈rg,∀o,va e.2.2=Z o->vs' o=vs o)->(∀e∈rg,env' e.1=env e.1)->RS P vs' env' rg=RS P vs env rg
 |[],_,_=>rfl
 |(t,i,d)::r,h,b=>by
  show wg P vs' d (env' t) i::RS P vs' env' r=wg P vs d (env t) i::RS P vs env r;rw[jD (rg:=r) (λe a=>h e<|UV _ a)<|λe a=>b e<|UV _ a,b (t,i,d)<|FS];congr 1;unfold wg;simp only[fJ (P:=P)<|h (t,i,d)<|FS]
theorem kX{S:K->Prop}{w:wP}:∀{Γ:N FF},zE S Γ w↔∀f∈Γ,f.p S w
 |[]=>⟨λ_ f h=>wR h IR,λ_=>wS⟩
 |f::r=>by
  have a:=kX (S:=S) (w:=w) (Γ:=r);constructor
  ·intro h x hx;obtain rfl|hx:=xaa.1 hx
   ·exact h.1
   ·exact a.1 h.2 x hx
  ·intro h;exact⟨h f<|FS,a.2 λx hx=>h x<|UV _ hx⟩
theorem zO{a b:K}(h:E a b=wF):a=b:=xcP h
theorem eV:∀{rg:N (K×K×Dv)}{t i:K}{d:Dv},gN rg t i=Z d->(t,i,d)∈rg
 |(b,c,e)::r,t,i,d,h=>by
  unfold gN at h;cases a:E b t && E c i
  ·rw[a]at h;exact UV _<|eV h
  ·rw[a]at h;simp only[Z0,xar]at h;rw[xab]at a;rw[<-h,zO a.1,zO a.2];exact FS
def KP{S:K->Prop}{w:wP}{rg:N (K×K×Dv)}(h:zE S (RS P vs env rg) w){t i:K}{d:Dv}(hd:(t,i,d)∈rg):(wg P vs d (env t) i).p S w:=
 kX.1 h _ (xat.2 ⟨(t,i,d),hd,O⟩)
theorem w8:∀{ob:N (K×Od)}{o:K}{x:Od},xz ob o=Z x->∃i,ob[i]? =Z (o,x)/\(∀y,jE ob o y=ob.set i (o,y))/\yu ob o=ob.eraseIdx i
 |(b,e)::r,o,x,h=>by
  unfold xz at h;cases a:E b o
  ·rw[a]at h;have⟨i,h1,c,d⟩:=w8 (ob:=r) h;exact⟨i+1,by simpa using h1,λy=>by unfold jE;rw[a];simp only[Z2,xfg,c y],by unfold yu;rw[a];simp only[Z2,List.eraseIdx_cons_succ,d]⟩
  ·rw[a]at h;simp only[Z0,xar]at h;have:=zO a;subst h;subst this;exact⟨0,O,λy=>by unfold jE;rw[a];rfl,by unfold yu;rw[a];rfl⟩
theorem QS{ob:N (K×Od)}{i:K}{e:K×Od}{R:N MF}(h:ob[i]? =Z e):(MS vs ob++R)[i]? =Z (Jt vs e):=by grind [MS,xaq,xaR]
theorem B2{ob:N (K×Od)}{i:K}{e a:K×Od}{R:N MF}(h:ob[i]? =Z e):(MS vs ob++R).set i (Jt vs a)=MS vs (ob.set i a)++R:=by grind [MS,xaq,xeN,List.map_set]
theorem zeP{α:Type _}{β:Type _}(f:α->β):∀(l:N α) (i:K),(l.eraseIdx i).map f=(l.map f).eraseIdx i
 |[],i=>by simp
 |_::_,0=>rfl
 |a::l,i+1=>by simp only[List.eraseIdx_cons_succ,xcb,zeP f l i]
theorem bS{ob:N (K×Od)}{i:K}{e:K×Od}{R:N MF}(h:ob[i]? =Z e):(MS vs ob++R).eraseIdx i=MS vs (ob.eraseIdx i)++R:=by grind [MS,zeP,xaq,List.eraseIdx_append_of_lt_length]
theorem zfh{cx σ:Sg}{o:K}{x:Od}(h:Ve cx σ o=Z x):(o,x)∈σ.ob\/(o,x)∈cx.ob:=by grind [Ve,w8,xbq]
theorem HF{cx σ:Sg}{t i:K}{d:Dv}(h:get cx σ t i=Z d):(t,i,d)∈σ.rg\/(t,i,d)∈cx.rg:=by grind [get,eV]
def Zt{S:K->Prop}{w:wP}{cx σ:Sg}{o:K}{x:Od}{F:N MF}(a:yL S (MS vs σ.ob++(MS vs cx.ob++F)) w)(h:Ve cx σ o=Z x):(Jt vs (o,x)).p S w:=by
 refine ZE.1 a _ ?_;obtain h|h:=zfh h
 ·exact So.2 (.inl<|xat.2 ⟨_,h,O⟩)
 ·exact So.2 (.inr<|So.2 (.inl<|xat.2 ⟨_,h,O⟩))
end
def yj{R:Type}{s t:Ty}{x:s.D}{k:t.D->V R}{r:R}(h:Ty.cast s t x k=Z r):∃e:s=t,k (e▸x)=Z r:=by grind [Ty.cast]
def z8{R:Type}{b:wW}{x:V R}{r:R}(h:qM b x=Z r):b=wF/\x=Z r:=by grind
end
section
open Go.ChangeShapes Go.WideShapes Go.ChangeAt Go.RowKit
def Q0(P:jp):Ty->wT->Prop
 |.i,T=>P.underlying T=Z (.int .i64)
 |.u,T=>P.underlying T=Z (.int .u64)
 |.b,T=>P.underlying T=Z .bool
 |.l t,T=>∃E,P.underlying T=Z (.slice E)/\P.cellsOf E=t.n/\0<t.n/\Q0 P t E
 |.p s t,T=>∃f0 f1:Field,P.underlying T=Z (.struct #[f0,f1])/\P.cellsOf T=s.n+t.n/\f0.offset=0/\f1.offset=s.n/\P.cellsOf f0.type=s.n/\P.cellsOf f1.type=t.n/\Q0 P s f0.type/\Q0 P t f1.type
 |.ch,T=>P.underlying T=Z (.int .u8)
 |.tx,T=>P.underlying T=Z .string
 |.a _ _,_=>V6
 |.po _,_=>V6
 |.w1 _,_=>V6
def znP(P:jp)(T:wT):V ((K×wT)×(K×wT)):=match P.underlying T with
 |some (.struct fs)=>match fs.toList with
  |[f0,f1]=>Z ((f0.offset,f0.type),(f1.offset,f1.type))
  |_=>wL
 |_=>wL
def Q0.st{P:jp}{s t:Ty}{T A B:wT}(h:znP P T=Z ((0,A),(s.n,B)))(hc:P.cellsOf T=s.n+t.n)(b:P.cellsOf A=s.n)(c:P.cellsOf B=t.n)(h1:Q0 P s A)(d:Q0 P t B):Q0 P (.p s t) T:=by
 unfold znP at h;split at h
 ·next fs e=>
  split at h
  ·next f0 f1 g=>
   simp only[xar,xcO]at h;have⟨⟨f,a⟩,a3,a4⟩:=h;have:fs= #[f0,f1]:=by cases fs;simp_all
   subst this;exact⟨f0,f1,e,hc,f,a3,by rw[a];exact b,by rw[a4];exact c,by rw[a];exact h1,by rw[a4];exact d⟩
  ·cases h
 ·cases h
def Q0.sl{P:jp}{t:Ty}{T E:wT}(h:P.underlying T=Z (.slice E))(hc:P.cellsOf E=t.n)(hp:0<t.n)(h1:Q0 P t E):Q0 P (.l t) T:=⟨E,h,hc,hp,h1⟩
def FC{w:wP}{b n:K}{a:JP}{c:N wN}(h:w.cells? b a n=Z c):X c=n/\∀i v,c[i]? =Z v->w.cell? (a.add i)=Z v:=by
 unfold World.cells? at h;split at h
 ·have:∀(l:N K) (c:N wN),l.mapM (λi=>w.cell?<|a.add i)=Z c->X c=X l/\∀(i j:K) (v:wN),c[i]? =Z v->l[i]? =Z j->w.cell? (a.add j)=Z v:=by
   intro l
   induction l with
   |nil=>intro c hc;simp at hc;subst hc;exact⟨O,λi j v hv=>by simp at hv⟩
   |cons x l g=>
    intro c hc;rw[List.mapM_cons]at hc
    cases d:w.cell? (a.add x)with
    |none=>rw[d]at hc;simp at hc
    |some y=>
     rw[d]at hc
     cases hl:l.mapM (λi=>w.cell?<|a.add i)with
     |none=>rw[hl]at hc;simp at hc
     |some r=>
      rw[hl]at hc;have hc:y::r=c:=by simpa using hc
      subst hc;have⟨h1,e⟩:=g r hl;refine⟨by simp[h1],λi j v hv f=> ?_⟩
      cases i with
      |zero=>simp at hv f;subst hv;subst f;exact d
      |succ i=>exact e i j v (by simpa using hv)<|by simpa using f
  have⟨h1,e⟩:=this _ _ h;refine⟨by simpa using h1,λi v hv=>e i i v hv ?_⟩;have:=(xaq.1 hv).1;rw[xdR<|by rw[h1]at this;simpa using this]
 ·cases h
def zcp{w:wP}{a:JP}{v:wN}(h:w.cell? a=Z v):a=⟨a.block,a.off,wL⟩/\a.block<w.heap.size:=by
 unfold World.cell? at h;split at h
 ·next c _ _ d=>
  split at h
  ·cases h
  ·next e=>
   refine⟨?_,(xbi.1 d).1⟩;have⟨b,o,s⟩:=a
   cases s with
   |none=>rfl
   |some x=>simp at e
 ·cases h
def zkJ(a:JP):a.add 0=a:=by grind [Addr.add]
section
variable{H:Type}{enc:wT×wN->H}{P:jp}{W:wP}{sp:wr->wW}{held:wW}
def MW{t:Ty}{b o:K}(a:b<W.heap.size):∀(len:K),(∀i,i<len->∃(c:N wN) (z:t.D),W.cells? 0 (⟨b,o+i*t.n,wL⟩:JP) t.n=Z c/\t.rep.p (λ_=>XS) z c W)->
 ∃(xs:N t.D) (cs:N wN),X xs=len/\At W b o cs/\yJ t.rep (λ_=>XS) xs cs W
 |0,_=>⟨[],[],O,⟨a,λj v hv=>by simp at hv⟩,O⟩
 |len+1,h=>by
  have⟨xs,cs,h1,e,d⟩:=MW a len λi hi=>h i ge;have⟨c,z,f,g⟩:=h len ge;have⟨l,k⟩:=FC f;have hl:=d.len;rw[h1,Ty.n_rep]at hl;refine⟨xs++[z],cs++c,by simp[h1],⟨a,λj v hv=> ?_⟩,d.append ⟨c,[],gT,g,O⟩⟩;rcases xbW j (X cs) with hj|hj
  ·rw[xaR hj]at hv;exact e.2 j v hv
  ·rw[xbj hj]at hv;have:=k _ v hv;rw[qE]at this;rw[<-this];congr 2;lia
def mq:∀(t:Ty) {T:wT}{n:K}{cs:N wN}{x:fN H×N Kw},Q0 P t T->DataW.trod enc P W 0 sp held n T cs=Z x->∃z:t.D,t.rep.p (λ_=>XS) z cs W
 |.i,T,n,cs,x,d,h=>by
  obtain⟨v,rfl,_,g⟩:=DataW.trod_int d h;have: -9223372036854775808<=v/\v<=9223372036854775807:=by simpa[Lit.wf,IntKind.min,IntKind.max,xei,xeB]using g
  exact⟨v,O,this.1,this.2⟩
 |.u,T,n,cs,x,d,h=>by
  obtain⟨v,rfl,_,g⟩:=DataW.trod_int d h;have:0<=v/\v<=18446744073709551615:=by simpa[Lit.wf,IntKind.min,IntKind.max,xei,xeB]using g
  obtain⟨k,rfl⟩:=xaA this.1;exact⟨k,O,ge⟩
 |.ch,T,n,cs,x,d,h=>by
  obtain⟨v,rfl,_,g⟩:=DataW.trod_int d h;have:0<=v/\v<=255:=by simpa[Lit.wf,IntKind.min,IntKind.max,xei,xeB]using g
  obtain⟨k,rfl⟩:=xaA this.1;exact⟨k,O,ge⟩
 |.tx,T,n,cs,x,d,h=>by
  obtain⟨s,rfl,_,C⟩:=DataW.trod_string d h;exact⟨xb s,s,O,O,C⟩
 |.b,T,n,cs,x,d,h=>by
  obtain⟨v,rfl,_⟩:=DataW.trod_bool d h;exact⟨v,O⟩
 |.l t,T,n,cs,x,d,h=>by
  have⟨E,j,hc,U,F⟩:=d;rcases DataW.trod_slice j h with⟨rfl,_⟩|⟨a,len,cap,q,rest,m,_,rfl,_,_,Y,hd,hg,r,_,_⟩
  ·exact⟨[],_,O,SlP.nil⟩
  ·rw[hc]at r;have f:∀i,i<len->∃(c:N wN) (z:t.D),W.cells? 0 (a.add<|i*t.n) t.n=Z c/\t.rep.p (λ_=>XS) z c W:=by
    intro i hi;have h1:=r i hi;rw[xah ge]at h1;have⟨c,w,y⟩:=Option.bind_eq_some_iff.1 h1;have⟨z,G⟩:=mq t F y;exact⟨c,z,w,G⟩
   obtain h0|h0:=xcB len
   ·subst h0;exact⟨[],_,O,Z a,cap,O,xai _,hd,.inl O⟩
   ·have⟨c,z,h1,w⟩:=f 0 h0;have⟨y,J⟩:=FC h1;have A:=J 0 (c[0]'ge) (xah ge);rw[xcu,zkJ,zkJ]at A;have⟨B,L⟩:=zcp A;rw[B]at f;have⟨xs,cs,g1,M,Q⟩:=MW (t:=t) (b:=a.block) (o:=a.off) L len λi hi=>by
     have:=f i hi;rw[qE]at this;exact this
    refine⟨xs,_,O,Z a,cap,by rw[g1],ge,hd,.inr ⟨a.block,a.off,cs,by rw[<-B],wS,M,Q⟩⟩
 |.p s t,T,n,cs,x,d,h=>by
  have⟨f0,f1,j,hc,o0,o1,c0,c1,h0,h1⟩:=d;have⟨y0,y1,m,_,hl,g0,g1⟩:=trod_struct2 j h;rw[o0,c0,List.drop_zero]at g0;rw[o1,c1]at g1;have⟨z0,R⟩:=mq s h0 g0;have⟨S,k1⟩:=mq t h1 g1;refine⟨(z0,S),cs.take s.n,(cs.drop s.n).take t.n,?_,R,k1⟩;rw[hc]at hl;have e:(cs.drop s.n).take t.n=cs.drop s.n:=xaQ (by simp;lia);rw[e,xbv]
 |.a _ _,_,_,_,_,d,_=>d.elim
 |.po _,_,_,_,_,d,_=>d.elim
 |.w1 _,_,_,_,_,d,_=>d.elim
def zgA{t:Ty}{T:wT}{v:wN}{d:fN H}{ps:N Kw}(a:Q0 P t T)(hv:v=t.rep.val v.cells.toList)(h:DataW.Trod enc P W 0 sp held T v d ps):∃z:t.D,(fV t.rep z v).p (λ_=>XS) W:=by
 have⟨n,h⟩:=h;have⟨z,b⟩:=mq t a h;exact⟨z,_,hv,b⟩
end
def zhm{P:jp}{s:WZ}(h:xt P s)(c:s.bk=0)(hc:s.cod=[.d .b])(x:cF s.dom)(g:s.M x=Z (hc▸wF:lZ s.cod)){vs:N wN}(hl:X vs=X s.dom)(i:Xo s.dom x vs=[]){W:wP}(a:zE (λ_=>XS) (Zo P s.dom x vs) W):
 Us P s.f vs.toArray W λe j=>e=.returned (.bool wF)/\KD W j:=by
 have⟨f,dom,cod,M,bk⟩:=s;simp only at hc c;subst hc;subst c;have h1:=h.2 x wF g vs hl W (λ_=>XS) [] [] W;simp only[i,xby,xbP]at h1;refine(h1 ⟨yw.refl _ _,λ_ _=>wS,wS,λ_=>XS,λ_ _=>wS,λ_ _=>wS,λm k=>wR k IR,wS,a⟩).mono ?_;rintro e w' ⟨us,l,hd,n⟩;have⟨o,_,_,S,_,_,_,_,q⟩:=n;refine⟨?_,o⟩
 match us,hd with
 |[u],_=>
  have:u=.bool wF:=nY (show(fV PO wF u).p S w' from q.1);rw[l,this];rfl
end
section
open Go.ChangeShapes Go.WideShapes Go.ChangeAt Go.RowKit
section
variable{H:Type}{enc:wT×wN->H}{P:jp}{W:wP}{sp:wr->wW}{held:wW}
def zmY{r:Reach}{b0:K}:∀(t:Ty) {T:wT}{v:wN},Q0 P t T->xer P W r b0 T v->v=t.rep.val v.cells.toList
 |.i,T,v,c,h=>by obtain⟨n,rfl⟩:=okWide_int c h;rfl
 |.u,T,v,c,h=>by obtain⟨n,rfl⟩:=okWide_int c h;rfl
 |.ch,T,v,c,h=>by obtain⟨n,rfl⟩:=okWide_int c h;rfl
 |.tx,T,v,c,h=>by
  have c:P.underlying T=Z .string:=c;simp only[xer,c,Cell.okWide]at h;unfold Cell.ok at h;rw[c]at h;cases v<;>simp at h;rfl
 |.b,T,v,c,h=>by
  have c:P.underlying T=Z .bool:=c;simp only[xer,c,Cell.okWide]at h;unfold Cell.ok at h;rw[c]at h;cases v<;>simp at h;rfl
 |.l t,T,v,c,h=>by
  have⟨E,c,_⟩:=c;simp only[xer,c,Cell.okWide]at h;unfold Cell.ok at h;rw[c]at h;cases v<;>simp at h;rfl
 |.p s t,T,v,c,h=>by
  have⟨f0,f1,c,_⟩:=c;simp only[xer,c]at h;obtain⟨cs,rfl,_⟩:=h;show Value.agg cs=Value.agg cs.toList.toArray;simp
 |.a _ _,T,v,c,_=>c.elim
 |.po _,T,v,c,_=>c.elim
 |.w1 _,T,v,c,_=>c.elim
def ze9{r:Reach}{b0:K}{t:Ty}{T:wT}{v:wN}{d:fN H}{ps:N Kw}(a:Q0 P t T)(hv:xer P W r b0 T v)(h:DataW.Trod enc P W 0 sp held T v d ps):∃z:t.D,(fV t.rep z v).p (λ_=>XS) W:=
 zgA a (zmY t a hv) h
def Ty.ok:(t:Ty)->t.D->Prop
 |.i,(x:J)=> -9223372036854775808<=x/\x<=9223372036854775807
 |.u,(x:K)=>x<18446744073709551616
 |.b,_=>XS
 |.ch,(x:K)=>x<256
 |.tx,xs=>xaF xs<=9223372036854775807/\∀x,List.Mem x xs->x<256
 |.l t,xs=>xaF xs<=9223372036854775807/\∀x,List.Mem x xs->t.ok x
 |.p s t,x=>s.ok x.1/\t.ok x.2
 |.a _ t,xs=>∀x,List.Mem x xs->t.ok x
 |.po _,_=>XS
 |.w1 t,x=>t.ok x
def DS{α:Type}{e:zV α}{S:K->Prop}{w:wP}{q:α->Prop}(b:∀x cs,e.p S x cs w->q x):∀{xs:N α}{cs:N wN},yJ e S xs cs w->∀x,List.Mem x xs->q x
 |[],_,_,x,a=>nomatch a
 |y::ys,_,⟨c,r,_,hc,d⟩,x,a=>by
  cases a with
  |head=>exact b _ _ hc
  |tail _ a=>exact DS b d x a
def sO:∀(t:Ty) {S:K->Prop}{z:t.D}{cs:N wN}{w:wP},t.rep.p S z cs w->t.ok z
 |.i,_,_,_,_,h=>h.2
 |.u,_,_,_,_,h=>h.2
 |.b,_,_,_,_,_=>trivial
 |.ch,_,_,_,_,h=>h.2
 |.tx,_,xs,_,_,h=>by
  have⟨s,_,h1,g⟩:=h;have f:=qQ s;have h1:xb s=xs:=h1;refine⟨by show xaF (α:=K) xs<=_;rw[<-h1,f];exact g,λx e=> ?_⟩;have e:x∈xb s:=by rw[h1];exact e
  obtain⟨b,_,rfl⟩:=xat.1 e;exact UInt8.toNat_lt _
 |.l t,S,xs,_,w,h=>by
  have⟨v,_,m,cap,_,h1,g,f⟩:=h;refine⟨xal h1 g,?_⟩;obtain f|⟨b,o,cs,_,_,_,j⟩:=f
  ·have f:xs=([]:N t.D):=f;subst f;exact λx e=>nomatch e
  ·exact DS (λx cs e=>sO t e) j
 |.p s t,S,z,_,w,h=>by
  have⟨c,d,_,h1,g⟩:=h;exact⟨sO s h1,sO t g⟩
 |.a k t,S,xs,_,w,h=>by
  have⟨_,h⟩:=h;exact DS (λx cs e=>sO t e) h
 |.po _,_,_,_,_,_=>trivial
 |.w1 t,S,z,cs,w,h=>sO t (S:=S) (cs:=cs) (w:=w) h
def zdL:(dom:N AM)->cF dom->Prop
 |[],_=>XS
 |.d t::r,x=>t.ok x.1/\zdL r x.2
 |_::r,x=>zdL r x.2
def OA(P:jp):N AM->N wT->Prop
 |[],[]=>XS
 |.d t::r,T::Ts=>Q0 P t T/\OA P r Ts
 |_,_=>V6
def za1:∀{dom:N AM}{Ts:N wT},OA P dom Ts->X dom=X Ts
 |[],[],_=>rfl
 |.d t::r,T::Ts,h=>by simp[za1 h.2]
 |.d _::_,[],h=>h.elim
 |[],_::_,h=>h.elim
 |.q _::_,_,h=>h.elim
 |.own _ _::_,_,h=>h.elim
 |.var _ _::_,_,h=>h.elim
 |.fn _ _::_,_,h=>h.elim
def zdp:∀{dom:N AM}{Ts:N wT},OA P dom Ts->∀(x:cF dom) (vs:N wN),Xo dom x vs=[]
 |[],_,_,_,_=>rfl
 |.d t::r,T::Ts,h,x,vs=>by show[]++Xo r x.2 vs.tail=[];rw[zdp h.2];rfl
 |.d _::_,[],h,_,_=>h.elim
 |.q _::_,_,h,_,_=>h.elim
 |.own _ _::_,_,h,_,_=>h.elim
 |.var _ _::_,_,h,_,_=>h.elim
 |.fn _ _::_,_,h,_,_=>h.elim
def Hr{r:Reach}{b0:K}:∀{dom:N AM}{Ts:N wT}{vs:N wN}{ds:N (fN H)}{ps:N Kw},OA P dom Ts->(∀(j:K) t v,Ts[j]? =Z t->vs[j]? =Z v->xer P W r b0 t v)->xeK enc P W 0 sp held Ts vs ds ps->
 X vs=X Ts/\∃x:cF dom,zdL dom x/\zE (λ_=>XS) (Zo P dom x vs) W
 |[],[],[],[],_,_,_,_=>⟨O,(),wS,wS⟩
 |.d t::dom,T::Ts,v::vs,d::ds,ps,h,hv,a=>by
  have⟨p,q,h1,b,_⟩:=a;have⟨hl,x,hd,c⟩:=Hr (vs:=vs) (ds:=ds) h.2 (λj e f g i=>hv (j+1) e f (by simpa using g)<|by simpa using i) b;have⟨z,k⟩:=ze9 h.1 (hv 0 T v O O) h1;have⟨cs,l,hc⟩:=k;exact⟨by simp[hl],(z,x),⟨sO t hc,hd⟩,⟨cs,l,hc⟩,c⟩
 |[],[],_::_,_,_,_,_,h=>h.elim
 |[],[],[],_::_,_,_,_,h=>h.elim
 |.d _::_,_::_,[],_,_,_,_,h=>h.elim
 |.d _::_,_::_,_::_,[],_,_,_,h=>h.elim
 |.d _::_,[],_,_,_,h,_,_=>h.elim
 |[],_::_,_,_,_,h,_,_=>h.elim
 |.q _::_,_,_,_,_,h,_,_=>h.elim
 |.own _ _::_,_,_,_,_,h,_,_=>h.elim
 |.var _ _::_,_,_,_,_,h,_,_=>h.elim
 |.fn _ _::_,_,_,_,_,h,_,_=>h.elim
def zfT{c:wP}(d:KD W c){p:Kw}(hp:p.block<W.heap.size):W.sameAt c p:=by
 cases p with
 |cell b off=>exact World.cell?_of_block (a:=⟨b,off,wL⟩)<|d.block b hp wS
 |map b=>exact d.block b hp wS
def gU{c:wP}{b:K->wW}(hl:laidOutB P=wF):∀{Ts:N wT}{vs:N wN}{ds:N (fN H)}{ps:N Kw},(∀t∈Ts,P.readableRec t=wF/\t<P.types.size)->xeK enc P W 0 (λ_=>wF) wF Ts vs ds ps->
 (∀p∈ps,W.sameAt c p)->(∀p∈ps,b p.block=wF)->xeK enc P c 0 b wF Ts vs ds ps
 |[],[],[],_,_,h,_,_=>h
 |T::Ts,v::vs,d::ds,ps,e,h,h1,f=>by
  obtain⟨p,q,g1,i,rfl⟩:=h;have g:=e T<|FS
  exact⟨p,q,Go.WideElems.Trod_stays hl g.1 g.2 g1 (λx a=>h1 x<|So.2 (.inl a))<|λx a=>f x<|So.2 (.inl a),
   gU hl (λt j=>e t<|UV _ j) i (λx a=>h1 x<|So.2 (.inr a)) (λx a=>f x<|So.2 (.inr a)),O⟩
 |[],[],_::_,_,_,h,_,_=>h.elim
 |[],_::_,_,_,_,h,_,_=>h.elim
 |_::_,[],_,_,_,h,_,_=>h.elim
 |_::_,_::_,[],_,_,h,_,_=>h.elim
end
theorem zhG{H:Type}{enc:TypeId×Value->H}{P:Program}{f:Func}{s:ChangeSpec}{apart fresh ha:Bool}{W:World}{base:Nat}{args:Array Value}{ds gs:List (DataW H)}{before:List MemPlace}{sg:WZ}
 (hW:DataW.Whole enc P f.params.toList s.vars apart W args.toList ds gs before) (he:s.vars=[]) (hj:∀(j:Nat) t v,f.params[j]? =some t->args[j]? =some v->xer P W .any base t v)
 (hl:laidOutB P=true) (hr:∀t∈f.params.toList,P.readableRec t=true/\t<P.types.size) (hf:OA P sg.dom f.params.toList) (hc:sg.cod=[.d .b]) (hS:xt P sg) (hM:∀x,zdL sg.dom x->sg.M x=some (hc▸true:lZ sg.cod)) {B:TypeId} (hB:f.resultTypes= #[B]) (hn:P.underlying B=some .bool)
 (hi:s.fn H (ds++gs)={results:=[.lit (.bool true)],args:=ds}) (hk:sg.bk=0:=by rfl):
 Calls P sg.f args W fun e W'=>∃v,e=.returned v/\s.post enc P f apart fresh ha false W args v W':=by
 obtain⟨p,q,hA,hV,ho,hz,hC⟩:=id hW;rw[he]at hV
 cases gs with
 |cons g gs=>exact hV.elim
 |nil=>
  have hq:q=[]:=hV;subst hq;obtain⟨hm,x,hu,hx⟩:=Hr (vs:=args.toList) hf (fun j t v ht hv=>hj j t v (by simpa using ht)<|by simpa using hv) hA;refine(zhm hS hk hc x (hM x hu) (vs:=args.toList) (by rw[hm,za1 hf]) (zdp hf x _) hx).mono ?_;rintro e W' ⟨rfl,hg⟩;refine⟨_,rfl,zex (pa:=before) (pv:=[]) hW (fun b sp hd=> ?_) (fun sp hw=> ?_) (fun sp _=> ?_) (by simp) hg⟩
  ·rw[hB,hi];exact⟨[],[],shut_bool hn _,rfl,rfl⟩
  ·rw[hi];have hy:xeK enc P W 0 (fun _=>true) true f.params.toList args.toList ds before:=by rw[ho,xbP];exact hA
   exact gU hl hr hy (fun p hp=>zfT hg<|hW.lt p hp) hw
  ·rw[he,hi];rfl
end
section
def zoq:v6->V Z9
 |.tmp t=>Z t
 |_=>wL
def yI(a:Op):N Z9:=a.operands.toList.filterMap zoq
def Lk(P:jp)(vs:K->wN)(env:y8)(S:K->Prop)(w:wP)(cx σ:Sg)(t:Z9):Prop:=
 ∀i d,get cx σ t i=Z d->(wg P vs d (env t) i).p S w
def YV(P:jp)(vs:K->wN)(env:y8)(S:K->Prop)(w:wP)(cx σ:Sg)(x:v6):Prop:=∀t,zoq x=Z t->Lk P vs env S w cx σ t
def ES(P:jp)(o:uS)(cx σ:Sg)(F:N MF)(l:N (K×Dv)):Prop:=
 ∀(env:y8) (w:wP) (S:K->Prop) (vs:K->wN),(∀k,w.heap.size<=k->S k)->yL S (MS vs σ.ob++(MS vs cx.ob++F)) w->(∀t∈yI o.op,Lk P vs env S w cx σ t)->
  uB P o env w (λv w'=>KD w w'/\∀e∈l,(wg P vs e.2 v e.1).p S w')
section
variable{P:jp}{cf:Cf}{cx σ:Sg}{F:xS MF}{vs:wr->wN}{env:y8}{S:wr->Prop}{w:wP}{R:Type}{r:R}
 {d:ww Z9}{ty t yt:wT}{pos:String}{aft:ul Edge}{g:ww (wr×wW)}{x y:v6}
def yE{a:Op}(h:∀t∈yI a,Lk P vs env S w cx σ t)(b:x∈a.operands.toList):YV P vs env S w cx σ x:=
 λt c=>h t<|xfh.2 ⟨x,b,c⟩
def zj{v:Dv}(h:xC cx σ x=Z v)(hl:YV P vs env S w cx σ x):(vj P vs v<|ev env x).p S w:=by
 cases x with
 |tmp t=>exact hl t O 0 v h
 |const c=>
  simp only[xC]at h;unfold cv at h;split at h
  ·split at h
   ·next a=>cases h;exact wz a
   ·cases h
  ·split at h
   ·next x a=>
    cases h;have:(x.toNat:J)=x:=xdj a.1;have b:x.toNat<18446744073709551616:=W
    have:=jz (S:=S) (w:=w) b;rwa[‹(x.toNat:J)=x›]at this
   ·cases h
  ·cases h;exact O
  ·split at h
   ·next x a=>
    cases h;have:(x.toNat:J)=x:=xdj a.1;have b:x.toNat<256:=W
    have:=Gj (S:=S) (w:=w) b;rwa[‹(x.toNat:J)=x›]at this
   ·cases h
  ·split at h
   ·next a=>cases h;exact Ri O a
   ·cases h
  ·cases h;exact O
  ·cases h;exact O
  ·cases h;exact O
  ·cases h
 |global g=>cases h
 |func f=>cases h;exact⟨[],O,O,wS⟩
def FK{v:Dv}{u:wN}{p:PD}(h:zjQ v=Z p)(hv:(vj P vs v u).p S w):(fV p.t.rep p.x u).p S w:=by
 cases v<;>simp only[zjQ,xar,Ws]at h
 ·subst h;exact hv
 ·subst h;rw[show u=_ from hv];exact Be
def pf{p:PD}(h:pd cx σ x=Z p)(hl:YV P vs env S w cx σ x):(fV p.t.rep p.x<|ev env x).p S w:=by
 unfold pd at h
 cases hv:xC cx σ x with
 |none=>rw[hv]at h;cases h
 |some v=>rw[hv]at h;exact FK h<|zj hv hl
def wK{a:J}(h:pd cx σ x=Z ⟨.i,a⟩)(hl:YV P vs env S w cx σ x):ev env x=.int .i64 a/\Jx a:=zmQ<|pf h hl
def wv{a:K}(h:pd cx σ x=Z ⟨.u,a⟩)(hl:YV P vs env S w cx σ x):ev env x=.int .u64 (a:J)/\aB a:=zdB<|pf h hl
def W6{a:K}(h:pd cx σ x=Z ⟨.ch,a⟩)(hl:YV P vs env S w cx σ x):ev env x=.int .u8 (a:J)/\a<256:=zoe<|pf h hl
def zcj{a:N K}(h:pd cx σ x=Z ⟨.tx,a⟩)(hl:YV P vs env S w cx σ x):∃s:Wd,ev env x=.string s/\xb s=a/\s.size<=9223372036854775807:=NL<|pf h hl
def zi8{a:wW}(h:pd cx σ x=Z ⟨.b,a⟩)(hl:YV P vs env S w cx σ x):ev env x=.bool a:=nY<|pf h hl
def zeB{v:V Dv}{t:Ty}{k:t.D->V R}(h:A6 v t k=Z r):∃y:t.D,k y=Z r/\∀(P:jp) vs S w (d:Dv) u,v=Z d->(vj P vs d u).p S w->(fV t.rep y u).p S w:=by
 unfold A6 at h;split at h
 ·next=>
  cases t<;>simp only[Ws]at h;exact⟨_,h,λP vs S w d u hd a=>by cases hd;rw[show u=_ from a];exact zet⟩
 ·next=>
  cases t<;>simp only[Ws]at h;exact⟨_,h,λP vs S w d u hd a=>by cases hd;rw[show u=_ from a];exact znN⟩
 ·next s y=>
  cases t<;>simp only[Ws]at h;have⟨e,h⟩:=yj h;subst e;exact⟨_,h,λP vs S w d u hd a=>by cases hd;exact znp a⟩
 ·next b hv _ _=>
  split at h
  ·next p hp=>
   have⟨e,h⟩:=yj h;subst e;exact⟨_,h,λP vs S w d u hd a=>by cases hd;exact FK hp a⟩
  ·cases h
 ·cases h
def WM{t:Ty}{k:t.D->V R}(h:A6 (xC cx σ x) t k=Z r):∃y:t.D,k y=Z r/\∀(P:jp) vs env S w,YV P vs env S w cx σ x->(fV t.rep y<|ev env x).p S w:=by
 have⟨y,h1,a⟩:=zeB h;refine⟨y,h1,λP vs env S w hl=> ?_⟩
 cases hv:xC cx σ x with
 |none=>rw[hv]at h;cases h
 |some v=>exact a P vs S w v _ hv<|zj hv hl
def zG{o:uS}{l:N (K×Dv)}(h:∀env w S vs,(∀t∈yI o.op,Lk P vs env S w cx σ t)->∃v,(jP (ev env) o).run P w=.ok (.value v) w/\∀e∈l,(wg P vs e.2 v e.1).p S w):ES P o cx σ F l:=by
 intro env w S vs b c hl;have⟨v,h1,a⟩:=h env w S vs hl;exact uB.of_value h1 ⟨yw.refl _ _,a⟩
def zp{v:wN}{dv:Dv}(h:(vj P vs dv v).p S w):∀e∈[(0,dv)],(wg P vs e.2 v e.1).p S w:=by
 intro e a;rw[xad]at a;subst a;exact h
def uf{o:uS}{l:N (K×Dv)}(h:∀env w S vs,yL S (MS vs σ.ob++(MS vs cx.ob++F)) w->(∀t∈yI o.op,Lk P vs env S w cx σ t)->∃(U:Type) (b:U->wN) (a:U->N FF) (ok:U->Prop) (Γ:N FF) (ms:N MF),
 MJ P o env ms Γ b a ok/\yL S ms w/\zE S Γ w/\∀u w',ok u->zE S (a u) w'->∀e∈l,(wg P vs e.2 (b u) e.1).p S w'):ES P o cx σ F l:=by
 intro env w S vs c f hl;have⟨U,b,a,ok,Γ,ms,h1,i,j,k⟩:=h env w S vs f hl;refine(h1 w S c i j).mono ?_;rintro v w' ⟨u,rfl,m,n,q⟩;exact⟨n,k u w' m q⟩
def OD:∀(f i:K) (t:K) (e:K×Dv),e∈zjH cx σ t f i->get cx σ t e.1=Z e.2
 |0,_,_,_,h=>wR h IR
 |f+1,i,t,e,h=>by
  unfold zjH at h;split at h
  ·next d hd=>
   obtain rfl|h:=xaa.1 h
   ·exact hd
   ·exact OD f (i+1) t e h
  ·exact wR h IR
def zhp{a:Op}(b:a=.move x\/a=.assign x){k:N (K×Dv)->V R}(h:zaI cx σ x k=Z r):∃l,k l=Z r/\ES P ⟨d,a,ty,pos,aft,g⟩ cx σ F l:=by
 have c:∀env w,(jP (ev env) ⟨d,a,ty,pos,aft,g⟩).run P w=.ok (.value<|ev env x) w:=λenv w=>by obtain rfl|rfl:=b<;>exact dW O w
 have f:x∈a.operands.toList:=by obtain rfl|rfl:=b<;>simp[xaC]
 unfold zaI at h;split at h
 ·next v hv=>exact⟨_,h,zG λenv w S vs hl=>⟨_,c env w,zp<|zj hv<|yE hl f⟩⟩
 ·unfold zo5 at h;split at h
  ·next t j=>
   split at h
   ·cases h
   ·next l0 l hc=>
    exact⟨_,h,zG λenv w S vs hl=>⟨_,c env w,λe i=>yE hl f t O _ _<|OD _ _ _ _ i⟩⟩
  ·cases h
def znm{i:K}{k:N (K×Dv)->V R}(h:zkQ cx σ x i k=Z r):∃l,k l=Z r/\ES P ⟨d,.extract x i,ty,pos,aft,g⟩ cx σ F l:=by
 unfold zkQ at h;split at h
 ·next t=>
  split at h
  ·next v hv=>
   refine⟨_,h,?_⟩;intro env w S vs c e hl;have⟨us,u,h1,a,b⟩:=yE hl (x:=.tmp t) (by simp[xaC]) t O (i+1) v hv;exact uB.of_value (v:=u) (dW (by simp only[pv,ev,h1];exact a) w) ⟨yw.refl _ _,zp b⟩
  ·cases h
 ·cases h
theorem mv1{k:N (K×Dv)->V R}(h:zhH cx σ x k=Z r):∃v,xC cx σ x=Z v/\k [(0,v)]=Z r:=by grind [zhH]
def zm6{c:v6}{k:N (K×Dv)->V R}(h:zdQ cx σ c x y k=Z r):∃l,k l=Z r/\ES P ⟨d,.pick c x y,ty,pos,aft,g⟩ cx σ F l:=by
 unfold zdQ at h;split at h
 ·next hc=>
  have⟨v,hv,h⟩:=mv1 h;exact⟨_,h,zG λenv w S vs hl=>⟨_,ziB (zj hc<|yE hl<|by simp[xaC]) O w,zp<|zj hv<|yE hl<|by simp[xaC]⟩⟩
 ·next hc=>
  have⟨v,hv,h⟩:=mv1 h;exact⟨_,h,zG λenv w S vs hl=>⟨_,ziI (zj hc<|yE hl<|by simp[xaC]) O w,zp<|zj hv<|yE hl<|by simp[xaC]⟩⟩
 ·cases h
def zok{k:N (K×Dv)->V R}(h:zmZ cx σ x k=Z r):∃l,k l=Z r/\ES P ⟨d,.unOp .not t x,ty,pos,aft,g⟩ cx σ F l:=by
 unfold zmZ at h;split at h
 ·next b hb=>exact⟨_,h,zG λenv w S vs hl=>⟨_,zkl (zj hb<|yE hl<|by simp[xaC]) w,zp<|by exact O⟩⟩
 ·next b hb=>exact⟨_,h,zG λenv w S vs hl=>⟨_,zkl (nY<|zj hb<|yE hl<|by simp[xaC]) w,zp<|by exact Be⟩⟩
 ·cases h
def znj{k:N (K×Dv)->V R}(h:zlQ cx σ x k=Z r):∃l,k l=Z r/\ES P ⟨d,.unOp .neg t x,ty,pos,aft,g⟩ cx σ F l:=by
 unfold zlQ at h;split at h
 ·next a c=>
  have⟨z,b,e,h⟩:=QQ h;exact⟨_,h,zG λenv w S vs hl=>⟨_,zkK (wK c<|yE hl<|by simp[xaC]).1 (w_x b e) w,zp<|wz e⟩⟩
 ·next a c=>
  have⟨z,b,h⟩:=xJ h;exact⟨_,h,zG λenv w S vs hl=>by
   have⟨h1,f⟩:=wv c (yE hl<|by simp[xaC]);exact⟨_,zkK h1 (iU b<|zmV f) w,zp<|jz<|W8 b⟩⟩
 ·cases h
theorem Ng{p:Prop}[V0 p]{k:N (K×Dv)->V R}(h:(if p then k [(0,.kb wF)]else k [(0,.kb I)])=Z r):k [(0,.kb<|decide p)]=Z r:=by grind
theorem kbN{p:Prop}[V0 p]{k:N (K×Dv)->V R}(h:(if p then k [(0,.kb I)]else k [(0,.kb wF)])=Z r):k [(0,.kb (!decide p))]=Z r:=by grind
def zpF{n:V2}{a c:J}{k:N (K×Dv)->V R}(h:arI n a c (λv=>k [(0,v)])=Z r)(e:pd cx σ x=Z ⟨.i,a⟩)(hc:pd cx σ y=Z ⟨.i,c⟩):
 ∃l,k l=Z r/\ES P ⟨d,.binOp n t x y yt,ty,pos,aft,g⟩ cx σ F l:=by
 have f:∀{vs env S w},(∀o∈yI (.binOp n t x y yt),Lk P vs env S w cx σ o)->YV P vs env S w cx σ x:=λhl=>yE hl (by simp[xaC]);have j:∀{vs env S w},(∀o∈yI (.binOp n t x y yt),Lk P vs env S w cx σ o)->YV P vs env S w cx σ y:=λhl=>yE hl (by simp[xaC]);cases n<;>simp only[arI,Ws]at h
 case add=>have⟨z,b,m,h⟩:=QQ h;exact⟨_,h,zG λenv w S vs hl=>⟨_,BY (wK e<|f hl).1 (wK hc<|j hl).1 (w_x b m) w,zp<|wz m⟩⟩
 case sub=>have⟨z,b,m,h⟩:=QQ h;exact⟨_,h,zG λenv w S vs hl=>⟨_,zdM (wK e<|f hl).1 (wK hc<|j hl).1 (w_x b m) w,zp<|wz m⟩⟩
 case mul=>have⟨z,b,m,h⟩:=QQ h;exact⟨_,h,zG λenv w S vs hl=>⟨_,zkL (wK e<|f hl).1 (wK hc<|j hl).1 (w_x b m) w,zp<|wz m⟩⟩
 case quo=>have⟨h0,h⟩:=u9 h;have⟨z,b,m,h⟩:=QQ h;exact⟨_,h,zG λenv w S vs hl=>⟨_,zkM (wK e<|f hl).1 (wK hc<|j hl).1 h0 (w_x b m) w,zp<|wz m⟩⟩
 case rem=>have⟨h0,h⟩:=u9 h;have⟨z,b,h⟩:=xJ h;exact⟨_,h,zG λenv w S vs hl=>⟨_,zkh (wK e<|f hl).1 (wK hc<|j hl).1 h0 b.symm w,zp<|wz<|zmy (wK e<|f hl).2 b⟩⟩
 case and=>have⟨z,b,h⟩:=xJ h;exact⟨_,h,zG λenv w S vs hl=>⟨_,zj7 (wK e<|f hl).1 (wK hc<|j hl).1 (zjK.trans b.symm) w,zp<|wz<|zeg b<|zld _ _⟩⟩
 case or=>have⟨z,b,h⟩:=xJ h;exact⟨_,h,zG λenv w S vs hl=>⟨_,zn4 (wK e<|f hl).1 (wK hc<|j hl).1 (zly.trans b.symm) w,zp<|wz<|zeg b<|zos _ _⟩⟩
 case shr=>have⟨h0,h⟩:=u9 h;have⟨z,b,h⟩:=xJ h;exact⟨_,h,zG λenv w S vs hl=>⟨_,C8 (wK e<|f hl).1 (wK hc<|j hl).1 h0 b.symm w,zp<|wz<|zfq (wK e<|f hl).2 b⟩⟩
 case shl=>have⟨h0,h⟩:=u9 h;have⟨z,b,m,h⟩:=QQ h;exact⟨_,h,zG λenv w S vs hl=>⟨_,zaJ (wK e<|f hl).1 (wK hc<|j hl).1 h0 (w_x b m) w,zp<|wz m⟩⟩
 case lss=>exact⟨[(0,.kb<|decide<|a<c)],Ng h,zG λenv w S vs hl=>⟨_,zfW (wK e<|f hl).1 (wK hc<|j hl).1 w,zp<|by exact O⟩⟩
 case leq=>exact⟨[(0,.kb<|decide<|a<=c)],Ng h,zG λenv w S vs hl=>⟨_,ze3 (wK e<|f hl).1 (wK hc<|j hl).1 w,zp<|by exact O⟩⟩
 case gtr=>exact⟨[(0,.kb<|decide<|c<a)],Ng h,zG λenv w S vs hl=>⟨_,zdW (wK e<|f hl).1 (wK hc<|j hl).1 w,zp<|by exact O⟩⟩
 case geq=>exact⟨[(0,.kb<|decide<|c<=a)],Ng h,zG λenv w S vs hl=>⟨_,zd6 (wK e<|f hl).1 (wK hc<|j hl).1 w,zp<|by exact O⟩⟩
 case eql=>exact⟨[(0,.kb<|decide<|a=c)],Ng h,zG λenv w S vs hl=>⟨_,zhw (wK e<|f hl).1 (wK hc<|j hl).1 w,zp<|by exact O⟩⟩
 case neq=>exact⟨[(0,.kb (!decide (a=c)))],kbN h,zG λenv w S vs hl=>⟨_,zho (wK e<|f hl).1 (wK hc<|j hl).1 w,zp<|by exact O⟩⟩
def zpU{bo:V2}{a c:K}{k:N (K×Dv)->V R}(h:(match bo with
 |.shr=>zc4 .shr a c<|λv=>k [(0,v)]
 |.shl=>zc4 .shl a c<|λv=>k [(0,v)]
 |bo=>arU bo a c<|λv=>k [(0,v)])=Z r) (e:pd cx σ x=Z ⟨.u,a⟩) (hc:pd cx σ y=Z ⟨.u,c⟩):
 ∃l,k l=Z r/\ES P ⟨d,.binOp bo t x y yt,ty,pos,aft,g⟩ cx σ F l:=by
 have f:∀{vs env S w},(∀j∈yI (.binOp bo t x y yt),Lk P vs env S w cx σ j)->YV P vs env S w cx σ x:=λhl=>yE hl (by simp[xaC]);have i:∀{vs env S w},(∀j∈yI (.binOp bo t x y yt),Lk P vs env S w cx σ j)->YV P vs env S w cx σ y:=λhl=>yE hl (by simp[xaC]);split at h
 ·simp only[zc4]at h;have⟨z,b,h⟩:=xJ h;exact⟨_,h,zG λenv w S vs hl=>⟨_,C8 (wv e<|f hl).1 (wv hc<|i hl).1 (xdm _) (zcu b pA) w,zp<|jz<|BT (wv e<|f hl).2 b⟩⟩
 ·simp only[zc4]at h;have⟨z,b,h⟩:=xJ h;exact⟨_,h,zG λenv w S vs hl=>⟨_,zaJ (wv e<|f hl).1 (wv hc<|i hl).1 (xdm _) (iU b zaK) w,zp<|jz<|W8 b⟩⟩
 ·next hd m=>
  cases bo<;>simp only[arU,Ws]at h
  case add=>have⟨z,b,h⟩:=xJ h;exact⟨_,h,zG λenv w S vs hl=>⟨_,BY (wv e<|f hl).1 (wv hc<|i hl).1 (iU b zh4) w,zp<|jz<|W8 b⟩⟩
  case sub=>have⟨z,b,h⟩:=xJ h;exact⟨_,h,zG λenv w S vs hl=>⟨_,zdM (wv e<|f hl).1 (wv hc<|i hl).1 (iU b<|zjP<|xda (wv hc<|i hl).2) w,zp<|jz<|W8 b⟩⟩
  case mul=>have⟨z,b,h⟩:=xJ h;exact⟨_,h,zG λenv w S vs hl=>⟨_,zkL (wv e<|f hl).1 (wv hc<|i hl).1 (iU b zif) w,zp<|jz<|W8 b⟩⟩
  case quo=>have⟨h0,h⟩:=u9 h;have⟨z,b,h⟩:=xJ h;exact⟨_,h,zG λenv w S vs hl=>⟨_,zkM (wv e<|f hl).1 (wv hc<|i hl).1 (znq h0) (iU b<|zc7 (wv e<|f hl).2) w,zp<|jz<|BT (wv e<|f hl).2 b⟩⟩
  case rem=>have⟨h0,h⟩:=u9 h;have⟨z,b,h⟩:=xJ h;exact⟨_,h,zG λenv w S vs hl=>⟨_,zkh (wv e<|f hl).1 (wv hc<|i hl).1 (znq h0) (zcu b znl) w,zp<|jz<|zl7 (wv e<|f hl).2 b⟩⟩
  case and=>have⟨z,b,h⟩:=xJ h;exact⟨_,h,zG λenv w S vs hl=>⟨_,zj7 (wv e<|f hl).1 (wv hc<|i hl).1 (iU b<|zjv (wv e<|f hl).2 (wv hc<|i hl).2) w,zp<|jz<|zlX b<|nF (wv e<|f hl).2⟩⟩
  case or=>have⟨z,b,h⟩:=xJ h;exact⟨_,h,zG λenv w S vs hl=>⟨_,zn4 (wv e<|f hl).1 (wv hc<|i hl).1 (iU b<|zmd (wv e<|f hl).2 (wv hc<|i hl).2) w,zp<|jz<|zlX b<|Bc (wv e<|f hl).2 (wv hc<|i hl).2⟩⟩
  case lss=>exact⟨[(0,.kb<|decide<|(a:J)<(c:J))],Ng h,zG λenv w S vs hl=>⟨_,zfW (wv e<|f hl).1 (wv hc<|i hl).1 w,zp<|by exact O⟩⟩
  case leq=>exact⟨[(0,.kb<|decide<|(a:J)<=(c:J))],Ng h,zG λenv w S vs hl=>⟨_,ze3 (wv e<|f hl).1 (wv hc<|i hl).1 w,zp<|by exact O⟩⟩
  case gtr=>exact⟨[(0,.kb<|decide<|(c:J)<(a:J))],Ng h,zG λenv w S vs hl=>⟨_,zdW (wv e<|f hl).1 (wv hc<|i hl).1 w,zp<|by exact O⟩⟩
  case geq=>exact⟨[(0,.kb<|decide<|(c:J)<=(a:J))],Ng h,zG λenv w S vs hl=>⟨_,zd6 (wv e<|f hl).1 (wv hc<|i hl).1 w,zp<|by exact O⟩⟩
  case eql=>exact⟨[(0,.kb<|decide<|(a:J)=(c:J))],Ng h,zG λenv w S vs hl=>⟨_,zhw (wv e<|f hl).1 (wv hc<|i hl).1 w,zp<|by exact O⟩⟩
  case neq=>exact⟨[(0,.kb (!decide ((a:J)=(c:J))))],kbN h,zG λenv w S vs hl=>⟨_,zho (wv e<|f hl).1 (wv hc<|i hl).1 w,zp<|by exact O⟩⟩
def zpO{e:V2}{a:K}{c:J}{k:N (K×Dv)->V R}(h:shU e a c (λv=>k [(0,v)])=Z r)(f:pd cx σ x=Z ⟨.u,a⟩)(hc:pd cx σ y=Z ⟨.i,c⟩):
 ∃l,k l=Z r/\ES P ⟨d,.binOp e t x y yt,ty,pos,aft,g⟩ cx σ F l:=by
 have j:∀{vs env S w},(∀m∈yI (.binOp e t x y yt),Lk P vs env S w cx σ m)->YV P vs env S w cx σ x:=λhl=>yE hl (by simp[xaC]);have n:∀{vs env S w},(∀m∈yI (.binOp e t x y yt),Lk P vs env S w cx σ m)->YV P vs env S w cx σ y:=λhl=>yE hl (by simp[xaC]);unfold shU at h;split at h
 ·have⟨h0,h⟩:=u9 h;have⟨z,b,h⟩:=xJ h;exact⟨_,h,zG λenv w S vs hl=>⟨_,C8 (wv f<|j hl).1 (wK hc<|n hl).1 h0 (zcu b pA) w,zp<|jz<|BT (wv f<|j hl).2 b⟩⟩
 ·have⟨h0,h⟩:=u9 h;have⟨z,b,h⟩:=xJ h;exact⟨_,h,zG λenv w S vs hl=>⟨_,zaJ (wv f<|j hl).1 (wK hc<|n hl).1 h0 (iU b zaK) w,zp<|jz<|W8 b⟩⟩
 ·cases h
def zp7{b:V2}{a:J}{c:K}{k:N (K×Dv)->V R}(h:shI b a c (λv=>k [(0,v)])=Z r)(f:pd cx σ x=Z ⟨.i,a⟩)(hc:pd cx σ y=Z ⟨.u,c⟩):
 ∃l,k l=Z r/\ES P ⟨d,.binOp b t x y yt,ty,pos,aft,g⟩ cx σ F l:=by
 have j:∀{vs env S w},(∀m∈yI (.binOp b t x y yt),Lk P vs env S w cx σ m)->YV P vs env S w cx σ x:=λhl=>yE hl (by simp[xaC]);have n:∀{vs env S w},(∀m∈yI (.binOp b t x y yt),Lk P vs env S w cx σ m)->YV P vs env S w cx σ y:=λhl=>yE hl (by simp[xaC]);unfold shI at h;split at h
 ·have⟨z,e,h⟩:=xJ h;exact⟨_,h,zG λenv w S vs hl=>⟨_,C8 (wK f<|j hl).1 (wv hc<|n hl).1 (xdm _) e.symm w,zp<|wz<|zfq (wK f<|j hl).2 e⟩⟩
 ·have⟨z,e,o,h⟩:=QQ h;exact⟨_,h,zG λenv w S vs hl=>⟨_,zaJ (wK f<|j hl).1 (wv hc<|n hl).1 (xdm _) (w_x e o) w,zp<|wz o⟩⟩
 ·cases h
def zpB{e:V2}{a c:wW}{j:wW}{k:N (K×Dv)->V R}(h:qM j (eqB e a c<|λv=>k [(0,v)])=Z r)(m:pd cx σ x=Z ⟨.b,a⟩)(hc:pd cx σ y=Z ⟨.b,c⟩)(n:j=wF->P.underlying t=Z .bool):
 ∃l,k l=Z r/\ES P ⟨d,.binOp e t x y yt,ty,pos,aft,g⟩ cx σ F l:=by
 have o:∀{vs env S w},(∀f∈yI (.binOp e t x y yt),Lk P vs env S w cx σ f)->YV P vs env S w cx σ x:=λhl=>yE hl (by simp[xaC]);have p:∀{vs env S w},(∀f∈yI (.binOp e t x y yt),Lk P vs env S w cx σ f)->YV P vs env S w cx σ y:=λhl=>yE hl (by simp[xaC]);have⟨hd,h⟩:=z8 h;unfold eqB at h;split at h
 ·have⟨z,i,h⟩:=xJ h;exact⟨_,h,zG λenv w S vs hl=>⟨_,zg6 (zpm (n hd) (zi8 m<|o hl)<|zi8 hc<|p hl) i w,zp Be⟩⟩
 ·have⟨z,i,h⟩:=xJ h;exact⟨_,h,zG λenv w S vs hl=>⟨_,zg6 (zoC (n hd) (zi8 m<|o hl)<|zi8 hc<|p hl) i w,zp Be⟩⟩
 ·cases h
def Iy(x:J):xga.wrap x=x%256:=by
 simp[xfU,xeB,xei]
def zlO{a b:K}:xga.wrap ((a:J)+(b:J))=(((a+b)%256:K):J):=by rw[Iy];lia
def zlY{a b:K}(h:b<=256):xga.wrap ((a:J)-(b:J))=(((a+256-b)%256:K):J):=by rw[Iy];lia
def zeF{n z:K}(h:z=n%256):z<256:=by rw[h];exact xaS _ gS
def zqf{i:V2}{a c:K}{k:N (K×Dv)->V R}(h:arC i a c (λv=>k [(0,v)])=Z r)(e:pd cx σ x=Z ⟨.ch,a⟩)(hc:pd cx σ y=Z ⟨.ch,c⟩):
 ∃l,k l=Z r/\ES P ⟨d,.binOp i t x y yt,ty,pos,aft,g⟩ cx σ F l:=by
 have f:∀{vs env S w},(∀m∈yI (.binOp i t x y yt),Lk P vs env S w cx σ m)->YV P vs env S w cx σ x:=λhl=>yE hl (by simp[xaC]);have b:∀{vs env S w},(∀m∈yI (.binOp i t x y yt),Lk P vs env S w cx σ m)->YV P vs env S w cx σ y:=λhl=>yE hl (by simp[xaC]);cases i<;>simp only[arC,Ws]at h
 case add=>have⟨z,j,h⟩:=xJ h;exact⟨_,h,zG λenv w S vs hl=>⟨_,BY (W6 e<|f hl).1 (W6 hc<|b hl).1 (iU j zlO) w,zp<|Gj<|zeF j⟩⟩
 case sub=>have⟨z,j,h⟩:=xJ h;exact⟨_,h,zG λenv w S vs hl=>⟨_,zdM (W6 e<|f hl).1 (W6 hc<|b hl).1 (iU j<|zlY<|xda (W6 hc<|b hl).2) w,zp<|Gj<|zeF j⟩⟩
 case lss=>exact⟨[(0,.kb<|decide<|(a:J)<(c:J))],Ng h,zG λenv w S vs hl=>⟨_,zfW (W6 e<|f hl).1 (W6 hc<|b hl).1 w,zp<|by exact O⟩⟩
 case leq=>exact⟨[(0,.kb<|decide<|(a:J)<=(c:J))],Ng h,zG λenv w S vs hl=>⟨_,ze3 (W6 e<|f hl).1 (W6 hc<|b hl).1 w,zp<|by exact O⟩⟩
 case gtr=>exact⟨[(0,.kb<|decide<|(c:J)<(a:J))],Ng h,zG λenv w S vs hl=>⟨_,zdW (W6 e<|f hl).1 (W6 hc<|b hl).1 w,zp<|by exact O⟩⟩
 case geq=>exact⟨[(0,.kb<|decide<|(c:J)<=(a:J))],Ng h,zG λenv w S vs hl=>⟨_,zd6 (W6 e<|f hl).1 (W6 hc<|b hl).1 w,zp<|by exact O⟩⟩
 case eql=>exact⟨[(0,.kb<|decide<|(a:J)=(c:J))],Ng h,zG λenv w S vs hl=>⟨_,zhw (W6 e<|f hl).1 (W6 hc<|b hl).1 w,zp<|by exact O⟩⟩
 case neq=>exact⟨[(0,.kb (!decide ((a:J)=(c:J))))],kbN h,zG λenv w S vs hl=>⟨_,zho (W6 e<|f hl).1 (W6 hc<|b hl).1 w,zp<|by exact O⟩⟩
def Gq{s u:Wd}:(s.toList==u.toList)=decide (xb s=xb u):=by
 rw[ByteArray.toList_eq,ByteArray.toList_eq];unfold xb;by_cases h:s.data.toList=u.data.toList
 ·rw[h];simp
 ·have a:¬s.data.toList.map xfu=u.data.toList.map xfu:=λe=>h (List.map_inj_right (λx y=>UInt8.toNat_inj.1)|>.1 e);rw[uT a];simpa using h
def Cm(s u:Wd):xb (s++u)=xb s++xb u:=by
 unfold xb;simp
def zgt{s u:Wd}(h:X (xb s)+X (xb u)<=9223372036854775807)(w:wP):(Op.stringOp .add s u).run P w=.ok (.string<|s++u) w:=by
 rw[qQ,qQ]at h;have a:¬(((s.size+u.size:K):J)>xdi.max):=by
  have:xdi.max=9223372036854775807:=O;lia
 unfold Op.stringOp;simp only;rw[ir a,xaG]
def zoh{f:V2}{a c:N K}{k:N (K×Dv)->V R}(h:eqT f a c (λv=>k [(0,v)])=Z r)(j:pd cx σ x=Z ⟨.tx,a⟩)(hc:pd cx σ y=Z ⟨.tx,c⟩):
 ∃l,k l=Z r/\ES P ⟨d,.binOp f t x y yt,ty,pos,aft,g⟩ cx σ F l:=by
 have m:∀{vs env S w},(∀n∈yI (.binOp f t x y yt),Lk P vs env S w cx σ n)->YV P vs env S w cx σ x:=λhl=>yE hl (by simp[xaC]);have o:∀{vs env S w},(∀n∈yI (.binOp f t x y yt),Lk P vs env S w cx σ n)->YV P vs env S w cx σ y:=λhl=>yE hl (by simp[xaC]);cases f<;>simp only[eqT,Ws]at h
 case add=>
  have⟨h0,h⟩:=u9 h;have⟨z,q,h⟩:=xJ h;refine⟨_,h,zG λenv w S vs hl=> ?_⟩;have⟨s,e1,b,_⟩:=zcj j<|m hl;have⟨u,i,e,_⟩:=zcj hc<|o hl;have p:X (xb s)+X (xb u)<=9223372036854775807:=by rw[b,e];exact h0
  refine⟨.string<|s++u,?_,zp<|Ri (by rw[Cm,b,e];exact q.symm)<|by rw[<-qQ,Cm,xap];exact p⟩;simp[jP,e1,i,V3,binOp_string_add,zgt (P:=P) p w]
 case eql=>
  refine⟨[(0,.kb<|decide<|a=c)],Ng h,zG λenv w S vs hl=> ?_⟩;have⟨s,e1,b,_⟩:=zcj j<|m hl;have⟨u,i,e,_⟩:=zcj hc<|o hl;refine⟨.bool<|decide<|a=c,?_,zp<|by exact O⟩;rw[<-b,<-e,<-Gq];simp[jP,e1,i,V3,binOp_string_eql]
 case neq=>
  refine⟨[(0,.kb (!decide (a=c)))],kbN h,zG λenv w S vs hl=> ?_⟩;have⟨s,e1,b,_⟩:=zcj j<|m hl;have⟨u,i,e,_⟩:=zcj hc<|o hl;refine⟨.bool (!decide (a=c)),?_,zp<|by exact O⟩;rw[<-b,<-e,<-Gq];simp[jP,e1,i,V3,binOp_string_neq]
def bop{e:wW}{f:V2}{k:N (K×Dv)->V R}(h:zmg e f (pd cx σ x) (pd cx σ y) (λv=>k [(0,v)])=Z r)(i:e=wF->P.underlying t=Z .bool):
 ∃l,k l=Z r/\ES P ⟨d,.binOp f t x y yt,ty,pos,aft,g⟩ cx σ F l:=by
 unfold zmg at h;split at h
 ·next a c b hc=>exact zpF h b hc
 ·next a c b hc=>exact zpU h b hc
 ·next a c b hc=>exact zpO h b hc
 ·next a c b hc=>exact zp7 h b hc
 ·next a c b hc=>exact zpB h b hc i
 ·next a c b hc=>exact zqf h b hc
 ·next a c b hc=>exact zoh h b hc
 ·cases h
end
end
section
section
variable{P:jp}{cf:Cf}{cx σ:Sg}{F:xS MF}{vs:wr->wN}{env:y8}{S:wr->Prop}{w:wP}{R:Type}{r:R}
 {d:ww Z9}{ty t yt:wT}{pos:String}{aft:ul Edge}{g:ww (wr×wW)}{x y:v6}
def Jq{s:wT}{q:Ty}{k:Xs}{B:K}(a:yZ P cf.tt)(h:ZG cf s=Z ⟨q,.int k,B⟩):P.underlying s=Z (.int k):=(a _ _ h).2.2.2
def vR{s E:wT}{q:Ty}{B:K}(a:yZ P cf.tt)(h:ZG cf s=Z ⟨q,.sl E,B⟩):P.underlying s=Z (.slice E):=(a _ _ h).2.2.2.1
def LB{s:wT}{q:Ty}{B:K}(a:yZ P cf.tt)(h:ZG cf s=Z ⟨q,.str,B⟩):P.underlying s=Z .string:=(a _ _ h).2.2.2
def zib(a:yZ P cf.tt):isB cf t=wF->P.underlying t=Z .bool:=by
 intro h;unfold isB at h;split at h
 ·next q B b=>exact(a _ _ b).2.2.2
 ·cases h
def JI{s E:wT}{e:Ty}{B:K}(b:yZ P cf.tt)(c:ug P cf.tt)(h:ZG cf s=Z ⟨.l e,.sl E,B⟩):∃bytes a,QF P E e.rep.agg e.rep.n bytes a:=by
 obtain⟨i,h1,rfl⟩:=c _ _ _ _ h;have⟨⟨a,f,_⟩,_⟩:=b _ _ h1;exact⟨_,_,f⟩
def Yt{b:TI}(c:yZ P cf.tt)(h:ZG cf t=Z b):∃a,QF P t b.ty.rep.agg b.ty.rep.n b.B a/\a.cells.size=b.ty.rep.n/\∀S w,b.ty.rep.p S b.ty.z a.cells.toList w:=by
 have⟨a,h1,e,f,_⟩:=(c _ _ h).1;exact⟨a,h1,e,f⟩
def zah{a:TI}{s:Ty}(e:yZ P cf.tt)(h:ZG cf t=Z a)(b:a.ty=.l s):QF P t I 1 a.B (.slice wL 0 0):=by
 have⟨c,h1,_,_,f⟩:=(e _ _ h).1;rw[f.1 s b,b]at h1;exact h1
def zo3{a:K}(h:a<256):Jx (a:J):=by unfold Jx;lia
def zoy{a:K}(h:a<256):a<18446744073709551616:=W
def zpM{a:K}(h:a<256):xga.wrap (a:J)=(a:J):=by rw[Iy];lia
def u_c{a:K}:xga.wrap (a:J)=((a%256:K):J):=by rw[Iy];lia
def NH{S:K->Prop}{w:wP}:∀{xs:N K}{cs:N wN},yJ eCh S xs cs w->cs=xs.map (λx:K=>Value.int .u8 (x:J))/\∀x∈xs,x<256
 |[],cs,h=>⟨h,λx a=>wR a IR⟩
 |x::xs,cs,⟨c,r,h1,b,e⟩=>by
  have⟨e1,f⟩:=NH e;have⟨i,j⟩:=b;refine⟨by rw[h1,i,e1];rfl,λy hy=> ?_⟩;obtain rfl|hy:=xaa.1 hy
  ·exact j
  ·exact f y hy
def zk5{s t E:wT}{xs:N K}{v:wN}{S:K->Prop}{w:wP}(k:P.underlying s=Z (.slice E))(l:P.underlying E=Z (.int .u8))(m:P.underlying t=Z .string)(hv:(fV (eS eCh) xs v).p S w):
 ∃u:Wd,(convert s t v).run P w=.ok (.string u) w/\xb u=xs/\u.size<=9223372036854775807:=by
 obtain⟨i,cap,rfl,hi,hc,h⟩:=xK.1 hv;have e:∀a,i=Z a->(∀x∈xs,x<256)->(∀j (c:j<X xs),w.cell? (a.add j)=Z (.int .u8 ((xs[j]:K):J)))->∃u:Wd,(convert s t (.slice i (X xs) cap)).run P w=.ok (.string u) w/\xb u=xs/\u.size<=9223372036854775807:=by
  rintro a rfl f c;have z:(xs.map xeX).map xfu=xs:=by
   rw[xdb];conv=>rhs;rw[<-List.map_id xs]
   exact xci λx hd=>UInt8.toNat_ofNat_of_lt'<|f x hd
  have n:=run_convert_bytes_back (P:=P) w s t E a cap (xs.map xeX) k l m (λj A=>by
   have q:j<X xs:=by simpa using A
   rw[c j q,List.getElem_map,UInt8.toNat_ofNat_of_lt'<|f _<|xbE q])
  rw[xbd]at n;refine⟨_,n,by unfold xb;simpa using z,?_⟩;rw[<-qQ];unfold xb;rw[xbd];simp;unfold WP at hc;lia
 obtain rfl|⟨b,o,cs,rfl,_,B,C⟩:=h
 ·cases i with
  |some a=>exact e a O (λx f=>wR f IR)<|λj c=>wR c<|xbn _
  |none=>
   refine⟨ByteArray.empty,?_,O,gS⟩;rw[run_convert_bytes_string w s t E wL _ cap k l m];rfl
 ·have⟨e1,D⟩:=NH C;refine e _ O D λj c=> ?_;have:=B.2 j (.int .u8 ((xs[j]:K):J)) (by rw[e1,xcg,xah c];rfl);rw[qE];exact this
def zop(f:yZ P cf.tt){s t:wT}{k:N (K×Dv)->V R}(h:zlA cf cx σ s t x k=Z r):∃l,k l=Z r/\ES P ⟨d,.convert s t x,ty,pos,aft,g⟩ cx σ F l:=by
 have e:∀{vs env S w},(∀n∈yI (.convert s t x),Lk P vs env S w cx σ n)->YV P vs env S w cx σ x:=λhl=>yE hl (by simp[xaC]);unfold zlA at h;split at h
 ·next q k1 B o m i=>
  have hc:=Jq f m;have⟨p,G,H⟩:=o;unfold znA at h;split at h
  ·next a c b=>
   simp only at c;subst c;exact⟨_,h,zG λenv w S vs hl=>⟨_,Vw hc (Jq f i) (wK b<|e hl).1 (w64 (wK b<|e hl).2) w,zp<|wz (wK b<|e hl).2⟩⟩
  ·next a c b=>
   simp only at c;subst c;exact⟨_,h,zG λenv w S vs hl=>⟨_,Vw hc (Jq f i) (wv b<|e hl).1 (mG (wv b<|e hl).2) w,zp<|jz (wv b<|e hl).2⟩⟩
  ·next a c b=>
   simp only at c;subst c;have⟨z,j,h⟩:=xJ h;exact⟨_,h,zG λenv w S vs hl=>⟨_,Vw hc (Jq f i) (wK b<|e hl).1 (iU j<|zg9 _) w,zp<|jz<|zlX j<|Cy _⟩⟩
  ·next a c b=>
   simp only at c;subst c;have⟨z,j,h⟩:=xJ h;exact⟨_,h,zG λenv w S vs hl=>⟨_,Vw hc (Jq f i) (wv b<|e hl).1 ((DC (wv b<|e hl).2).trans j.symm) w,zp<|wz<|zeg j<|zg0 (wv b<|e hl).2⟩⟩
  ·next a c b=>
   simp only at c;subst c;exact⟨_,h,zG λenv w S vs hl=>⟨_,Vw hc (Jq f i) (W6 b<|e hl).1 (w64<|zo3 (W6 b<|e hl).2) w,zp<|wz<|zo3 (W6 b<|e hl).2⟩⟩
  ·next a c b=>
   simp only at c;subst c;exact⟨_,h,zG λenv w S vs hl=>⟨_,Vw hc (Jq f i) (W6 b<|e hl).1 (mG<|zoy (W6 b<|e hl).2) w,zp<|jz<|zoy (W6 b<|e hl).2⟩⟩
  ·next a c b=>
   simp only at c;subst c;exact⟨_,h,zG λenv w S vs hl=>⟨_,Vw hc (Jq f i) (W6 b<|e hl).1 (zpM (W6 b<|e hl).2) w,zp<|Gj (W6 b<|e hl).2⟩⟩
  ·next a c b=>
   simp only at c;subst c;unfold chU at h;have⟨z,j,h⟩:=xJ h;exact⟨_,h,zG λenv w S vs hl=>⟨_,Vw hc (Jq f i) (wv b<|e hl).1 (iU j u_c) w,zp<|Gj<|zeF j⟩⟩
  ·cases h
 ·next E B q J m i=>
  split at h
  ·next L v A=>
   have⟨xs,h,hd⟩:=WM h;refine⟨_,h,zG λenv w S vs hl=> ?_⟩;have⟨u,h1,C,D⟩:=zk5 (vR f m) (Jq f A) (LB f i)<|hd P vs env S w<|e hl;exact⟨.string u,by simp[jP,h1],zp<|Ri C D⟩
  ·cases h
 ·cases h
def Rn{n:K}{k:K->V R}(h:atI cx σ x n k=Z r):∃j,j<n/\k j=Z r/\∀(P:jp) vs env S w,YV P vs env S w cx σ x->∃ik,ev env x=.int ik (j:J):=by
 unfold atI at h;split at h
 ·next j a=>
  have⟨i,h1,b,h⟩:=zkN h;exact⟨i,b,h,λP vs env S w hl=>⟨.i64,by rw[(wK a hl).1,h1]⟩⟩
 ·next j a=>
  have⟨i,h1,b,h⟩:=zkN h;exact⟨i,b,h,λP vs env S w hl=>⟨.u64,by rw[(wv a hl).1,h1]⟩⟩
 ·cases h
def K4{x:V v6}{k:V K->V R}(h:RH cx σ x k=Z r):
 (x=wL/\k wL=Z r)\/∃y j,x=Z y/\k (Z j)=Z r/\∀(P:jp) vs env S w,YV P vs env S w cx σ y->ev env y=.int .i64 (j:J):=by
 unfold RH at h;split at h
 ·exact .inl ⟨O,h⟩
 ·next y=>
  split at h
  ·next j a=>
   have⟨i,h1,h⟩:=zaW h;exact .inr ⟨y,i,O,h,λP vs env S w hl=>by rw[(wK a hl).1,h1]⟩
  ·cases h
def Uj{α:Type}{e:zV α}{E:wT}{xs:N α}{v:wN}(h:(mO e E v xs).p S w)(h0:0<X xs):
 ∃b cap,v=.slice (Z ⟨b,0,wL⟩) (X xs) cap/\(mB (rowT e cap) E b xs).p S w:=by
 have⟨cs,h1,c⟩:=h;rcases h1.2 with⟨rfl,j⟩|⟨g,cap,a,rfl,hd,f,k,l,i,hc⟩
 ·lia
 ·exact⟨g,cap,O,a,f,cs,a.toList.drop<|X xs*e.n,by rw[<-hc,xbv],c,by simpa using i⟩
def zgu{s E:wT}{q:Ty}{n B:K}(a:yZ P cf.tt)(h:ZG cf s=Z ⟨q,.ar n E,B⟩):P.underlying s=Z (.array n E):=(a _ _ h).2.2.2.2
def zg2{E:wT}{e:Ty}(c:yZ P cf.tt)(h:elA cf E e=wF):∃bytes a,QF P E e.rep.agg e.rep.n bytes a:=by
 unfold elA at h;split at h
 ·next f i=>
  cases j:Ty.same f.ty e with
  |none=>rw[j]at h;cases h
  |some p=>
   have⟨a,b,_⟩:=Yt c i;rw[p.down]at b;exact⟨_,_,b⟩
 ·cases h
def zmm{n j:K}{e:Ty}(b:j<n):Fl.ok (.a n e) (zpi n e j):=by
 intro z S w cs hp;have c:xaF z=n/\yJ e.rep S z cs w:=hp;have:=Sub.nth n e.rep z j (xex z j e.z) (getD_some e.z<|c.1▸b) S w cs hp;rw[e.n_rep]at this;exact this
def ziX(v:yZ P cf.tt)(U:ug P cf.tt){k:N (K×Dv)->V R}(h:Si cf cx σ t x y k=Z r):∃l,k l=Z r/\ES P ⟨d,.indexAddr t x y,ty,pos,aft,g⟩ cx σ F l:=by
 have H:∀{vs env S w},(∀L∈yI (.indexAddr t x y),Lk P vs env S w cx σ L)->YV P vs env S w cx σ x:=λhl=>yE hl (by simp[xaC]);have J:∀{vs env S w},(∀L∈yI (.indexAddr t x y),Lk P vs env S w cx σ L)->YV P vs env S w cx σ y:=λhl=>yE hl (by simp[xaC]);unfold Si at h;split at h
 ·next e E B s xs m A=>
  have⟨hi,h⟩:=yj h;cases hi;have⟨bytes,c,hc⟩:=JI v U m;have⟨j,i,h,hd⟩:=Rn h;have⟨z,M,h⟩:=xJ h;refine⟨_,h,uf λenv w S vs Q hl=> ?_⟩;have⟨ik,C⟩:=hd P vs env S w<|J hl;exact⟨_,_,_,_,[fV (eS e.rep) xs<|ev env x],[],zeo (e:=e.rep) (xs:=xs) (k:=j) (y:=z) O C (vR v m) hc (znV i M)<|λS w h=>h.1,wS,⟨zj A<|H hl,wS⟩,λu w' _ T=>zp T.1⟩
 ·next e E B o m A=>
  split at h
  ·next s E' xs ho=>
   have⟨hi,h⟩:=yj h;cases hi;have⟨bytes,c,hc⟩:=JI v U m;have⟨j,i,h,hd⟩:=Rn h;refine⟨_,h,?_⟩;intro env w S vs hS Q hl;have⟨ik,C⟩:=hd P vs env S w<|J hl;have hm:(mO e.rep E' (vs o) xs).p S w:=Zt Q ho;have⟨b,cap,hv,_⟩:=Uj hm<|xaK (xai _) i;have hq:ev env x=vs o:=zj A<|H hl;refine uB.of_value (AW (vR v m) hc (hq.trans hv) C i w) ⟨yw.refl _ _,zp ?_⟩;exact⟨λz=>Sub.self e.rep z,b,_,_,hv,i,by simp[Fl.self]⟩
  ·cases h
 ·next q G E B n e xs m A=>
  have⟨D,h⟩:=z8 h;rw[xab]at D;have hn:=zO D.1;subst hn;have⟨bytes,c,hc⟩:=zg2 v D.2;have⟨j,i,h,hd⟩:=Rn h;have⟨z,M,h⟩:=xJ h;refine⟨_,h,uf λenv w S vs Q hl=> ?_⟩;have⟨ik,C⟩:=hd P vs env S w<|J hl;have hp:(fP (Ty.a G e).rep xs<|ev env x).p S w:=zj A<|H hl;have⟨_,_,_,_,_,_,hk,_⟩:=id hp;exact⟨_,_,_,_,[fP (Ty.a G e).rep xs<|ev env x],[],zbY (e:=(Ty.a G e).rep) (f:=e.rep) (z:=xs) (z':=z) (zgu v m) hc O C i (Sub.nth G e.rep xs j z<|znV (hk▸i) M)<|λS w h=>h.1,wS,⟨hp,wS⟩,λu w' _ T=>zp T.1⟩
 ·next q G E B o n e m A=>
  have⟨D,h⟩:=z8 h;rw[xab]at D;have hn:=zO D.1;subst hn;have⟨bytes,c,hc⟩:=zg2 v D.2;have⟨j,i,h,hd⟩:=Rn h;refine⟨_,h,zG λenv w S vs hl=> ?_⟩;have⟨ik,C⟩:=hd P vs env S w<|J hl;have⟨h1,b,Y⟩:=zj A<|H hl;exact⟨_,OH (zgu v m) hc (h1.trans Y) C i w,zp ⟨zmm i,b,Y,by rw[e.n_rep];rfl⟩⟩
 ·cases h
def KQ:∀{k:K}{t:Ty}{i:K}{f:Fl t.D},xh k t i=Z f->Fl.ok t f
 |0,.w1 t,0,f,h=>by
  simp only[xh,xar]at h;subst h;exact λz=>Sub.wrap t.rep z
 |0,.w1 t,_+1,_,h=>by cases h
 |0,.i,_,_,h=>by cases h
 |0,.u,_,_,h=>by cases h
 |0,.b,_,_,h=>by cases h
 |0,.l _,_,_,h=>by cases h
 |0,.p _ _,_,_,h=>by cases h
 |0,.a _ _,_,_,h=>by cases h
 |0,.ch,_,_,h=>by cases h
 |0,.tx,_,_,h=>by cases h
 |0,.po _,_,_,h=>by cases h
 |1,t,i,f,h=>by
  unfold xh at h;cases c:E i 0<;>rw[c]at h
  ·cases h
  ·simp only[Z0,xar]at h;subst h;exact λz=>Sub.self t.rep z
 |k+2,.p s t,0,f,h=>by
  simp only[xh,xar]at h;subst h;exact λz=>Sub.fst s.rep t.rep z
 |k+2,.p s t,i+1,f,h=>by
  simp only[xh]at h;split at h
  ·next f' e=>
   simp only[xar]at h;subst h;intro z;have:=(Sub.snd s.rep t.rep z).comp<|KQ e z.2;rw[s.n_rep]at this;exact this
  ·cases h
 |k+2,.i,i,f,h=>by simp[xh]at h
 |k+2,.u,i,f,h=>by simp[xh]at h
 |k+2,.b,i,f,h=>by simp[xh]at h
 |k+2,.l _,i,f,h=>by simp[xh]at h
 |k+2,.a _ _,i,f,h=>by simp[xh]at h
def DD:∀{k:K}{t:Ty}{i j:K}{f g:Fl t.D},xh k t i=Z f->xh k t j=Z g->i≠j->
 (∀z x,g.get (f.set x z)=g.get z)/\(∀z x y,g.set y (f.set x z)=f.set x (g.set y z))/\(g.off+g.f.n<=f.off\/f.off+f.f.n<=g.off)
 |0,.w1 _,0,0,_,_,_,_,h=>wR O h
 |0,.w1 _,_+1,_,_,_,h,_,_=>by cases h
 |0,.w1 _,0,_+1,_,_,_,h,_=>by cases h
 |0,.i,_,_,_,_,h,_,_=>by cases h
 |0,.u,_,_,_,_,h,_,_=>by cases h
 |0,.b,_,_,_,_,h,_,_=>by cases h
 |0,.l _,_,_,_,_,h,_,_=>by cases h
 |0,.p _ _,_,_,_,_,h,_,_=>by cases h
 |0,.a _ _,_,_,_,_,h,_,_=>by cases h
 |0,.ch,_,_,_,_,h,_,_=>by cases h
 |0,.tx,_,_,_,_,h,_,_=>by cases h
 |0,.po _,_,_,_,_,h,_,_=>by cases h
 |1,t,i,j,f,g,c,m,hn=>by
  unfold xh at c m;cases o:E i 0<;>rw[o]at c
  ·cases c
  cases hc:E j 0<;>rw[hc]at m
  ·cases m
  exact wR ((zO o).trans (zO hc).symm) hn
 |k+2,.p s t,0,0,_,_,_,_,h=>wR O h
 |k+2,.p s t,0,j+1,f,g,c,m,_=>by
  simp only[xh,xar]at c m;subst c;split at m
  ·next v q=>
   simp only[xar]at m;subst m;exact⟨λ_ _=>O,λ_ _ _=>O,.inr<|by simp only;lia⟩
  ·cases m
 |k+2,.p s t,i+1,0,f,g,c,m,_=>by
  simp only[xh,xar]at c m;subst m;split at c
  ·next f' hd=>
   simp only[xar]at c;subst c;exact⟨λ_ _=>O,λ_ _ _=>O,.inl<|by simp only;lia⟩
  ·cases c
 |k+2,.p s t,i+1,j+1,f,g,c,m,hn=>by
  simp only[xh]at c m;split at c
  ·next f' hd=>
   split at m
   ·next v q=>
    simp only[xar]at c m;subst c;subst m;have⟨h1,A,h3⟩:=DD hd q (λe=>hn<|by rw[e]);exact⟨λz x=>h1 z.2 x,λz x y=>by simp only;rw[A z.2 x y],by obtain h3|h3:=h3;exact .inl (by simp only;lia);exact .inr<|by simp only;lia⟩
   ·cases m
  ·cases c
 |k+2,.i,i,_,f,_,h,_,_=>by simp[xh]at h
 |k+2,.u,i,_,f,_,h,_,_=>by simp[xh]at h
 |k+2,.b,i,_,f,_,h,_,_=>by simp[xh]at h
 |k+2,.l _,i,_,f,_,h,_,_=>by simp[xh]at h
 |k+2,.a _ _,i,_,f,_,h,_,_=>by simp[xh]at h
def XJ:∀t:Ty,∃h,Ty.same t t=Z ⟨h⟩
 |.i=>⟨O,O⟩
 |.u=>⟨O,O⟩
 |.b=>⟨O,O⟩
 |.ch=>⟨O,O⟩
 |.tx=>⟨O,O⟩
 |.l t=>by have⟨h,e⟩:=XJ t;exact⟨O,by simp only[Ty.same,e]⟩
 |.po t=>by have⟨h,e⟩:=XJ t;exact⟨O,by simp only[Ty.same,e]⟩
 |.w1 t=>by have⟨h,e⟩:=XJ t;exact⟨O,by simp only[Ty.same,e]⟩
 |.a k t=>by have⟨h,e⟩:=XJ t;exact⟨O,by simp only[Ty.same,e,dite_true]⟩
 |.p s t=>by have⟨h,e⟩:=XJ s;have⟨f,c⟩:=XJ t;exact⟨O,by simp only[Ty.same,e,c]⟩
def QZ{s t:Ty}(h:(Ty.same s t).isSome=wF):s=t:=by
 cases a:Ty.same s t with
 |none=>rw[a]at h;cases h
 |some p=>exact p.down
def pC{α:Type}{s:Ty}{off:K}{g:α->(Ty.l s).D}{st:(Ty.l s).D->α->α}{xs:N s.D}{z:α}:uh s (Z ⟨off,.l s,g,st⟩) xs z=st xs z:=by
 have⟨h,e⟩:=XJ s;simp only[uh,e]
def za8{n i j:K}{t s:Ty}{f:Fl t.D}{hv:N wN}{z:t.D}{r:K}(e:vrP s (xh n t j))(b:xh n t i=Z f)(hn:i≠j):
 Sub (aX t.rep (YS<|xh n t j) (uh s (xh n t j) []) hv) (z,r) f.off f.f.rep (f.get z) (λy=>(f.set y z,r)):=by
 have⟨off,g,st,c⟩:=e;have⟨h1,h,k⟩:=DD c b<|Ne.symm hn;rw[c];have hp:∀z,uh s (Z ⟨off,.l s,g,st⟩) [] z=st ([]:N s.D) z:=λz=>pC;refine Sub.other ?_ (by rw[f.f.n_rep];exact k);have a:=KQ b<|uh s (Z ⟨off,.l s,g,st⟩) [] z;rw[hp]at a;rw[h1 z ([]:N s.D)]at a;rw[hp];have:(λy=>f.set y<|st ([]:N s.D) z)=λy=>uh s (Z ⟨off,.l s,g,st⟩) [] (f.set y z):=by funext y;rw[hp];exact h z ([]:N s.D) y
 rw[this]at a;exact a
def N0:∀{k:K}{t:Ty}{i:K}{f:Fl t.D},xh k t i=Z f->∀x y z,f.set x (f.set y z)=f.set x z
 |0,.w1 t,0,f,h=>by
  simp only[xh,xar]at h;subst h;exact λ_ _ _=>O
 |0,.w1 t,_+1,_,h=>by cases h
 |0,.i,_,_,h=>by cases h
 |0,.u,_,_,h=>by cases h
 |0,.b,_,_,h=>by cases h
 |0,.l _,_,_,h=>by cases h
 |0,.p _ _,_,_,h=>by cases h
 |0,.a _ _,_,_,h=>by cases h
 |0,.ch,_,_,h=>by cases h
 |0,.tx,_,_,h=>by cases h
 |0,.po _,_,_,h=>by cases h
 |1,t,i,f,h=>by
  unfold xh at h;cases c:E i 0<;>rw[c]at h
  ·cases h
  ·simp only[Z0,xar]at h;subst h;exact λ_ _ _=>O
 |k+2,.p s t,0,f,h=>by
  simp only[xh,xar]at h;subst h;exact λ_ _ _=>O
 |k+2,.p s t,i+1,f,h=>by
  simp only[xh]at h;split at h
  ·next f' e=>
   simp only[xar]at h;subst h;intro x y z;simp only;rw[N0 e]
  ·cases h
 |k+2,.i,i,f,h=>by simp[xh]at h
 |k+2,.u,i,f,h=>by simp[xh]at h
 |k+2,.b,i,f,h=>by simp[xh]at h
 |k+2,.l _,i,f,h=>by simp[xh]at h
 |k+2,.a _ _,i,f,h=>by simp[xh]at h
def zkw{S:K->Prop}{w:wP}{n i off:K}{t s:Ty}{g:t.D->(Ty.l s).D}{st:(Ty.l s).D->t.D->t.D}{z:t.D}{cs:N wN}{v:wN}(f:xh n t i=Z ⟨off,.l s,g,st⟩)(h:t.rep.p S z cs w)(hv:cs[off]? =Z v)(h1:v.oneCell'=wF):
 (aX t.rep off (st ([]:N s.D)) [v]).p S (z,0) cs w:=by
 have⟨a,c,b,e1,e,j,k⟩:=KQ f z S w cs h;refine⟨v,O,h1,hv,?_⟩;have m:=k w ([]:N s.D) [.slice wL 0 0] (yw.refl _ _) ⟨_,O,SlP.nil⟩;have hc:X c=1:=(Ty.l s).rep.len j;obtain⟨c0,rfl⟩:=xcN.1 hc;have:cs.set off (.slice wL 0 0)=a++[.slice wL 0 0]++b:=by rw[e1,xaf,xdD _ _ (by simp only at e;lia),show off-X a=0 by simp only at e;lia,xaf];rfl
 rw[this];exact m
def zmC{S f:K->Prop}{w:wP}{n i off r:K}{t s:Ty}{g:t.D->(Ty.l s).D}{st:(Ty.l s).D->t.D->t.D}{z:t.D}{cs:N wN}{v:wN}{hv:N wN}{xs:N s.D}(o:xh n t i=Z ⟨off,.l s,g,st⟩)(h:(aX t.rep off (st ([]:N s.D)) hv).p S (z,r) cs w)
 (A:hv[r]? =Z v) (B:∀k,S k->f k) (C:(fV (eS s.rep) xs v).p f w):t.rep.p f (st xs z) cs w:=by
 have⟨u,h1,T,E,j⟩:=h;rw[A]at h1;cases h1;have j:=t.rep.sub j λk _=>B k;have⟨a,c,b,e1,G,H,J⟩:=KQ o (st ([]:N s.D) z) f w _ j;have⟨e,hd,q⟩:=C;have m:=J w xs e (yw.refl _ _) q;simp only at m G;rw[show st xs (st ([]:N s.D) z)=st xs z from N0 o xs ([]:N s.D) z]at m;have hc:X c=1:=(Ty.l s).rep.len H;have L:X e=1:=(eS s.rep).len q;obtain⟨c0,rfl⟩:=xcN.1 hc;obtain⟨c1,rfl⟩:=xcN.1 L;obtain rfl:v=c1:=hd;have⟨U,M⟩:=xaq.1 E;have:cs=a++[v]++b:=by
  have Q:(cs.set off (.slice wL 0 0)).set off v=cs:=by rw[List.set_set,<-M,xdk]
  rw[<-Q,e1,xaf,xdD _ _ W,(W:off-X a=0),xaf];rfl
 rw[this];exact m
def zaM{t:Ty}{a:Fl t.D}{c:Fl a.f.D}(b:Fl.ok t a)(hc:Fl.ok a.f c):Fl.ok t (a.comp c):=λz=>(b z).comp<|hc<|a.get z
def ND{s:wT}{q:Ty}{n B i:K}{f:Fl q.D}(a:yZ P cf.tt)(h:ZG cf s=Z ⟨q,.st n,B⟩)(b:xh n q i=Z f):SM P s i=Z f.off:=(a _ _ h).2.2.2.2.1 i f b
def zn2{c:V2}{v:V Dv}{k:Dv->V R}(h:eqP c v k=Z r):∃dv b,v=Z dv/\zc2 c b k=Z r/\∀(P:jp) vs S w u,(vj P vs dv u).p S w->∃p:V JP,u=.pointer p/\p.isNone=b:=by
 unfold eqP at h;split at h
 ·exact⟨_,_,O,h,λP vs S w u a=>⟨wL,a,O⟩⟩
 ·exact⟨_,_,O,h,λP vs S w u ⟨b,o,cs,h1,_⟩=>⟨_,h1,O⟩⟩
 ·exact⟨_,_,O,h,λP vs S w u ⟨h1,b,e⟩=>⟨_,h1.trans e,O⟩⟩
 ·exact⟨_,_,O,h,λP vs S w u a=>zk3 a⟩
 ·cases h
def znQ(a:yZ P cf.tt)(h:zhP cf t=wF):P.underlying t=Z (.pointer<|P.pointee t):=by
 unfold zhP at h;split at h
 ·next q E B b=>
  have:=(a _ _ b).2.2.2;have this:P.underlying t=Z (.pointer E):=this;rw[show P.pointee t=E by simp[Program.pointee,this]];exact this
 ·cases h
def zpX(j:yZ P cf.tt){e:V2}{k:N (K×Dv)->V R}(hp:zhP cf t=wF)(a:zjw (xC cx σ y)=wF)(h:eqP e (xC cx σ x) (λv=>k [(0,v)])=Z r):
 ∃l,k l=Z r/\ES P ⟨d,.binOp e t x y yt,ty,pos,aft,g⟩ cx σ F l:=by
 have⟨dv,b,m,h,hv⟩:=zn2 h;have a:xC cx σ y=Z .np:=by
  unfold zjw at a;split at a
  ·assumption
  ·cases a
 have i:=znQ j hp;have go:∀{env:y8}{w:wP}{S:K->Prop}{vs:K->wN},(∀n∈yI (.binOp e t x y yt),Lk P vs env S w cx σ n)->∃p:V JP,ev env x=.pointer p/\p.isNone=b/\ev env y=.pointer wL:=λhl=>by
  have⟨p,h1,c⟩:=hv P _ _ _ _ (zj m<|yE hl<|by simp[xaC]);exact⟨p,h1,c,zj a<|yE hl<|by simp[xaC]⟩
 cases e<;>simp only[zc2,Ws]at h
 case eql=>
  refine⟨[(0,.kb<|decide<|b=wF)],Ng h,zG λenv w S vs hl=>⟨.bool b,?_,zp<|by simp[vj,fY]⟩⟩;have⟨p,h1,c,f⟩:=go hl;simp[jP,h1,f,V3,run_eql_pointer_nil w t p i,c]
 case neq=>
  refine⟨[(0,.kb (!decide (b=wF)))],kbN h,zG λenv w S vs hl=>⟨.bool !b,?_,zp<|by simp[vj,fY]⟩⟩;have⟨p,h1,c,f⟩:=go hl;simp[jP,h1,f,V3,run_neq_pointer_nil w t p i,c]
def znv{k:N (K×Dv)->V R}(h:zlN cx σ x k=Z r):∃l,k l=Z r/\ES P ⟨d,.nilCheck x,ty,pos,aft,g⟩ cx σ F l:=by
 have f:∀{env:y8}{a:JP} (w:wP),ev env x=.pointer (Z a)->(jP (ev env) ⟨d,.nilCheck x,ty,pos,aft,g⟩).run P w=.ok (.value<|ev env x) w:=λw h=>by simp[jP,h]
 unfold zlN at h;split at h
 ·next s y c=>
  refine⟨_,h,zG λenv w S vs hl=> ?_⟩;have h1:=zj c (yE hl<|by simp[xaC]);have⟨b,o,cs,e,_⟩:=h1;exact⟨_,f w e,zp<|zj c<|yE hl<|by simp[xaC]⟩
 ·next o s c=>
  refine⟨_,h,zG λenv w S vs hl=> ?_⟩;have⟨h1,b,e⟩:=zj c (yE hl<|by simp[xaC]);exact⟨_,f w<|h1.trans e,zp<|zj c<|yE hl<|by simp[xaC]⟩
 ·next s y c=>
  have⟨y',i,h⟩:=r8 h;refine⟨_,h,zG λenv w S vs hl=> ?_⟩;have h1:(fV (eO s.rep) y<|ev env x).p S w:=zj c (yE hl<|by simp[xaC]);rw[i]at h1;have e:=zfY h1;have⟨b,o,cs,j,_⟩:=e;exact⟨_,f w j,zp<|zfY h1⟩
 ·cases h
def zin(v:yZ P cf.tt){i:K}{k:N (K×Dv)->V R}(h:TG cf cx σ t x i k=Z r):∃l,k l=Z r/\ES P ⟨d,.fieldAddr t x i,ty,pos,aft,g⟩ cx σ F l:=by
 have A:∀{vs env S w},(∀C∈yI (.fieldAddr t x i),Lk P vs env S w cx σ C)->YV P vs env S w cx σ x:=λhl=>yE hl (by simp[xaC]);unfold TG at h;split at h
 ·next e n B s y p hc=>
  have⟨a,h⟩:=yj h;subst a;split at h
  ·next f c=>
   exact⟨_,h,uf λenv w S vs E hl=>⟨_,_,_,_,[fP s.rep y<|ev env x],[],zf2 (e:=s.rep) (z:=y) (ND v p c) O (KQ c y)<|λS w h=>h.1,wS,⟨zj hc<|A hl,wS⟩,λu w' _ c=>zp c.1⟩⟩
  ·cases h
 ·next e n B o s p hc=>
  split at h
  ·next a f _ c=>
   have⟨a⟩:=a;subst a;refine⟨_,h,zG λenv w S vs hl=> ?_⟩;have⟨h1,b,q⟩:=zj hc<|A hl;exact⟨_,ot (ND v p c) (h1.trans q) w,zp ⟨KQ c,b,q,O⟩⟩
  ·cases h
 ·next e n B o s g p hc=>
  split at h
  ·next a f _ c=>
   have⟨a⟩:=a;subst a;refine⟨_,h,zG λenv w S vs hl=> ?_⟩;have⟨h0,b,h1,q⟩:=zj hc<|A hl;exact⟨_,ot (ND v p c) q w,zp ⟨zaM h0<|KQ c,b,h1,by simp only[Fl.comp,xcU]⟩⟩
  ·cases h
 ·next e n B o s j g p hc=>
  split at h
  ·next a f _ c=>
   have⟨a⟩:=a;subst a;refine⟨_,h,zG λenv w S vs hl=> ?_⟩;have⟨h0,b,m,cap,h1,q,D⟩:=zj hc<|A hl;exact⟨_,ot (ND v p c) D w,zp ⟨zaM h0<|KQ c,b,m,cap,h1,q,by simp only[Fl.comp,xcU]⟩⟩
  ·cases h
 ·cases h
def zms(T:yZ P cf.tt){k:N (K×Dv)->V R}(h:zfx cf cx σ t x k=Z r):∃l,k l=Z r/\ES P ⟨d,.load t x,ty,pos,aft,g⟩ cx σ F l:=by
 have C:∀{vs env S w},(∀U∈yI (.load t x),Lk P vs env S w cx σ U)->YV P vs env S w cx σ x:=λhl=>yE hl (by simp[xaC]);unfold zfx at h;split at h
 ·next v Y=>
  have⟨M,hd,_⟩:=Yt T Y;unfold zkc at h;split at h
  ·next s y hc=>
   have⟨a,h⟩:=yj h;simp only at a;subst a;exact⟨_,h,uf λenv w S vs n hl=>⟨_,_,_,_,[fP v.ty.rep y<|ev env x],[],zjS (e:=v.ty.rep) (y:=y) O hd<|λS w h=>h.1,wS,⟨zj hc<|C hl,wS⟩,λu w' _ i=>zp i.1⟩⟩
  ·next o s hc=>
   split at h
   ·next D E z A=>
    have⟨a,h⟩:=yj h;simp only at a;subst a;refine⟨_,h,uf λenv w S vs n hl=> ?_⟩;have⟨h1,b,G⟩:=zj hc<|C hl;have⟨H,q,J⟩:(mP v.ty.rep.c E (vs o) z).p S w:=Zt n A;exact⟨_,_,_,_,[],[mB v.ty.rep.c E H z],WX (z':=z) 0 O (h1.trans q) (Sub.self v.ty.rep z) hd,⟨J,wS⟩,wS,λu w' _ i=>zp i.1⟩
   ·cases h
  ·next o s f hc=>
   split at h
   ·next D E z A=>
    have⟨L,h⟩:=yj h;subst L;have⟨a,h⟩:=yj h;simp only at a;have⟨off,ff,get,set⟩:=f;simp only at a;subst a;refine⟨_,h,uf λenv w S vs n hl=> ?_⟩;have⟨h0,b,h1,G⟩:=zj hc<|C hl;have⟨H,q,J⟩:(mP D.rep.c E (vs o) z).p S w:=Zt n A;rw[h1]at q;cases q;exact⟨_,_,_,_,[],[mB D.rep.c E b z],WX (z':=get z) 0 O G (by rw[xaJ];exact h0 z) hd,⟨J,wS⟩,wS,λu w' _ i=>zp i.1⟩
   ·cases h
  ·next o s j f hc=>
   split at h
   ·next D E xs A=>
    have⟨L,h⟩:=yj h;cases L;have⟨y,hy,h⟩:=xJ h;have⟨a,h⟩:=yj h;simp only at a;have⟨off,ff,get,set⟩:=f;simp only at a;subst a;refine⟨_,h,uf λenv w S vs n hl=> ?_⟩;have⟨h0,b,m,cap,h1,G,q⟩:=zj hc<|C hl;have Q:(mO s.rep E (vs o) xs).p S w:=Zt n A;have hg:0<X xs:=by
     have⟨cs,h5,h6⟩:=Q;rcases h5.2 with⟨hv,h7⟩|⟨g',B,a0,hv,_⟩
     ·rw[h1]at hv;cases hv
     ·rw[h1]at hv;cases hv;lia
    have⟨H,B,hv,hb⟩:=Uj Q hg;rw[h1]at hv;cases hv;have hi:=(Sub.rowT0 s.rep cap xs j (xs.getD j s.z)<|getD_some s.z G).comp<|h0<|xs.getD j s.z;subst hy;exact⟨_,_,_,_,[],[mB (rowT s.rep cap) E b xs],WX 0 O q hi hd,⟨hb,wS⟩,wS,λu w' _ i=>zp i.1⟩
   ·cases h
  ·cases h
 ·cases h
def zkD{α:Type}(xs:N α):xs=(xs.drop 0).take (X xs-0):=gT
def zkz{α:Type}(xs:N α)(l:K):xs.drop l=(xs.drop l).take (X xs-l):=(xaQ gT).symm
def zg8{i off n:K}{agg:wW}{cs:ul wN}{v:wN}(h:zhz P t i=Z (off,agg,n))(b:ev env x=.agg cs)(hv:(if agg=wF then Value.agg (cs.extract off<|off+n)else cs.getD off uP)=v)(a:agg=I->off<cs.size)(w:wP):
 (jP (ev env) ⟨d,.field t x i,ty,pos,aft,g⟩).run P w=.ok (.value v) w:=by
 unfold zhz at h;split at h
 ·next fs c=>
  split at h
  ·next f e=>
   split at h
   ·next ag m j z hd=>
    simp only[xar,xcO]at h;have⟨h1,k,l⟩:=h;subst h1;subst k;subst l;have hc:=QF.of hd;have hp:(part f.type cs f.offset).run P w=.ok v w:=by
     unfold part;simp only[xay,Hh hc,xag]
     cases ag with
     |true=>
      simp only[uL,xay,wh hc,xag,xaG];rw[<-hv];rfl
     |false=>
      simp only[xak,ut];have a:=a O;rw[xcI a];simp only[xaG];rw[<-hv];simp[Array.getD,a]
    simp only[jP,b,Instr.field,asAgg,xay,kw c,xag,e,xaG,hp]
   ·cases h
  ·cases h
 ·cases h
def zmw{s:wT}{q:Ty}{n B i:K}{f:Fl q.D}(a:yZ P cf.tt)(h:ZG cf s=Z ⟨q,.st n,B⟩)(b:xh n q i=Z f):zhz P s i=Z (f.off,f.f.rep.agg,f.f.n):=(a _ _ h).2.2.2.2.2.2 i f b
def zfZ(m:yZ P cf.tt){i:K}{k:N (K×Dv)->V R}(h:Ik cf cx σ t x i k=Z r):∃l,k l=Z r/\ES P ⟨d,.field t x i,ty,pos,aft,g⟩ cx σ F l:=by
 have v:∀{vs env S w},(∀z∈yI (.field t x i),Lk P vs env S w cx σ z)->YV P vs env S w cx σ x:=λhl=>yE hl (by simp[xaC]);unfold Ik at h;split at h
 ·next e n B s y o hi=>
  have⟨A,h⟩:=yj h;subst A;split at h
  ·next f p=>
   refine⟨_,h,zG λenv w S vs hl=> ?_⟩;have⟨cs,hv,hp⟩:=zj hi<|v hl;have C:s.rep.agg=wF:=(m _ _ o).2.2.2.1;have⟨D,c,q,hd,h1,u,_⟩:=KQ p y S w cs hp;have b:=f.f.rep.len u;rw[Ty.n_rep]at b;have hv:ev env x=.agg cs.toArray:=by rw[hv];unfold zV.val;rw[C];rfl
   refine⟨f.f.rep.val c,zg8 (zmw m o p) hv ?_ ?_ w,zp ⟨c,O,u⟩⟩
   ·unfold zV.val
    cases j:f.f.rep.agg with
    |true=>
     simp only[uL];congr 1;apply Array.ext';rw[Array.toList_extract,hd,<-h1,<-b];simp
    |false=>
     simp only[xak,ut];have hc:=f.f.rep.n1 j;rw[Ty.n_rep]at hc;obtain⟨a,rfl⟩:∃a,c=[a]:=by
      match c,b.trans hc with
      |[a],_=>exact⟨a,O⟩
     rw[hd,<-h1];simp[Array.getD]
   ·intro j;have hc:=f.f.rep.n1 j;rw[Ty.n_rep]at hc;rw[hd];simp;lia
  ·cases h
 ·cases h
def dk{α:Type}{e:zV α}{E:wT}{v:wN}{xs:N α}{S:K->Prop}{w:wP}(h:(mO e E v xs).p S w):(v=.slice wL 0 0/\xs=[])\/∃b cap,v=.slice (Z ⟨b,0,wL⟩) (X xs) cap/\X xs<=cap/\cap<=9223372036854775807:=by
 have⟨cs,h1,f⟩:=h;rcases h1.2 with⟨rfl,h0⟩|⟨g,cap,a,rfl,hd,i,c,hc,j,k⟩
 ·exact .inl ⟨O,xbs.1 h0⟩
 ·exact .inr ⟨g,cap,O,c,hc⟩
def Iw{α:Type}{e:zV α}{E:wT}{v:wN}{xs:N α}{S:K->Prop}{w:wP}(h:(mO e E v xs).p S w){b m cap l n c:K}(hv:v=.slice (Z ⟨b,0,wL⟩) m cap)(hl:l+n<=m)(hi:n<=c)(hc:c<=9223372036854775807):
 SlQ e S ((xs.drop l).take n) (.slice (Z ⟨b,0+l*e.n,wL⟩) n c) w:=by
 have⟨cs,h1,f⟩:=h;rcases h1.2 with⟨h0,_⟩|⟨g,a,i,h0,q,j,s,u,z,k⟩
 ·rw[hv]at h0;cases h0
 ·rw[hv]at h0;cases h0;have hd:X ((xs.drop l).take n)=n:=by simp;lia
  refine⟨Z ⟨b,0+l*e.n,wL⟩,c,by rw[hd],W,by unfold WP;lia,.inr ⟨b,0+l*e.n,(cs.drop<|l*e.n).take<|n*e.n,O,?_,(f.drop l).take n⟩⟩;have o:=At.row j;have:=o.take<|X xs*e.n;rw[k]at this;exact(this.drop<|l*e.n).take<|n*e.n
def Eg{t:wT}{c:wT}{ag:wW}{e bytes:K}{a:wN}{b o n cap l h:K}{lo hi:V wN}{w:wP}(f:P.underlying t=Z (.slice c))(i:QF P c ag e bytes a)
 (hl:lo=Z (.int .i64 (l:J))\/(lo=wL/\l=0)) (j:hi=Z (.int .i64 (h:J))\/(hi=wL/\h=n)) (hc:l<=h) (hd:h<=cap):
 (xde t (.slice (Z ⟨b,o,wL⟩) n cap) lo hi wL).run P w=.ok (.slice (if cap=l then Z ⟨b,o,wL⟩else(Z (⟨b,o,wL⟩:JP)).map (·.add (l*e))) (h-l)<|cap-l) w:=by
 have b1:(0:J)<=(l:J)/\(l:J)<=(h:J):=W
 have b2:(0:J)<=(h:J)/\(h:J)<=(cap:J):=W
 unfold xde;simp only[xay,kw f,xag];unfold xfP;simp only[xay,kw f,xag];unfold xem
 obtain rfl|⟨rfl,rfl⟩:=hl<;>obtain rfl|⟨rfl,rfl⟩:=j<;>
  simp only[xev,V4,xay,xaG,xag,iq b1,iq b2,wh i,xbc]
def HX{t:wT}{b:wT}{ag:wW}{e bytes:K}{a:wN}{lo hi:V wN}{w:wP}(c:P.underlying t=Z (.slice b))(f:QF P b ag e bytes a)
 (hl:lo=Z (.int .i64 ((0:K):J))\/lo=wL) (h:hi=Z (.int .i64 ((0:K):J))\/hi=wL):
 (xde t (.slice wL 0 0) lo hi wL).run P w=.ok (.slice wL 0 0) w:=by
 unfold xde;simp only[xay,kw c,xag];unfold xfP;simp only[xay,kw c,xag];unfold xem
 obtain rfl|rfl:=hl<;>obtain rfl|rfl:=h<;>
  simp[xev,V4,xay,xaG,xag,wh f]
def Il{m:K}{lo hi:V K}{k:K->K->V R}(h:zjU m lo hi k=Z r):∃l a,l<=a/\a<=m/\k l (a-l)=Z r/\(lo=Z l\/(lo=wL/\l=0))/\(hi=Z a\/(hi=wL/\a=m)):=by
 unfold zjU at h;split at h
 ·next a=>have⟨h1,b⟩:=u9 h;exact⟨0,a,xai _,h1,b,.inr ⟨O,O⟩,.inl O⟩
 ·next l=>have⟨h1,b⟩:=u9 h;exact⟨l,m,h1,Nm _,b,.inl O,.inr ⟨O,O⟩⟩
 ·next l a=>have⟨h1,b⟩:=u9 h;exact⟨l,a,h1.1,h1.2,b,.inl O,.inl O⟩
 ·exact⟨0,m,xai _,Nm _,h,.inr ⟨O,O⟩,.inr ⟨O,O⟩⟩
def SN{t:wT}{s:Wd}{l h:K}{lo hi:V wN}{w:wP}(a:P.underlying t=Z .string)
 (hl:lo=Z (.int .i64 (l:J))\/(lo=wL/\l=0)) (b:hi=Z (.int .i64 (h:J))\/(hi=wL/\h=s.size)) (c:l<=h) (hc:h<=s.size):
 (xde t (.string s) lo hi wL).run P w=.ok (.string<|s.extract l h) w:=by
 have b1:(0:J)<=(l:J)/\(l:J)<=(h:J):=W
 have b2:(0:J)<=(h:J)/\(h:J)<=(s.size:J):=W
 unfold xde;simp only[xay,kw a,xag];unfold xfP;simp only[xay,kw a,xag];unfold xem
 obtain rfl|⟨rfl,rfl⟩:=hl<;>obtain rfl|⟨rfl,rfl⟩:=b<;>
  simp[xev,V4,iq b1,iq b2,c,hc]
def Dm(s:Wd)(l h:K):xb (s.extract l h)=((xb s).drop l).take (h-l):=by simp_all [xb]
def zjE(U:yZ P cf.tt)(hL:ug P cf.tt){lo hi:V v6}{k:N (K×Dv)->V R}(h:TJ cf cx σ t x lo hi k=Z r):∃l,k l=Z r/\ES P ⟨d,.slice t x lo hi wL,ty,pos,aft,g⟩ cx σ F l:=by
 have hx:∀{vs env S w},(∀G∈yI (.slice t x lo hi wL),Lk P vs env S w cx σ G)->YV P vs env S w cx σ x:=λhl=>yE hl (by simp[xaC]);have hd:∀{vs env S w z},lo=Z z->(∀G∈yI (.slice t x lo hi wL),Lk P vs env S w cx σ G)->YV P vs env S w cx σ z:=λe hl=>yE hl (by simp[xaC,e]);have Y:∀{vs env S w z},hi=Z z->(∀G∈yI (.slice t x lo hi wL),Lk P vs env S w cx σ G)->YV P vs env S w cx σ z:=λe hl=>yE hl (by simp[xaC,e]);unfold TJ at h;split at h
 ·next e E B s xs Q hg=>
  have⟨hn,h⟩:=yj h;cases hn;have⟨bytes,a0,hm⟩:=JI U hL Q
  have A:∀{l m:K}{zs:N e.D},l<=m->m<=xaF xs->zs=(xdM l xs).take (m-l)->(∀vs env S w,(∀G∈yI (.slice t x lo hi wL),Lk P vs env S w cx σ G)->((lo.map<|ev env)=Z (.int .i64 (l:J))\/(lo=wL/\l=0))/\((hi.map<|ev env)=Z (.int .i64 (m:J))\/(hi=wL/\m=xaF xs)))->
   k [(0,.d (.l e) zs)]=Z r->∃l,k l=Z r/\ES P ⟨d,.slice t x lo hi wL,ty,pos,aft,g⟩ cx σ F l:=by
   intro l m zs h1 a i j C;subst i;refine⟨_,C,uf λenv w S vs hM hl=> ?_⟩;have⟨h6,T⟩:=j vs env S w hl;exact⟨_,_,_,_,[fV (eS e.rep) xs<|ev env x],[],Pa (e:=e.rep) (xs:=xs) (l:=l) (h:=m) O (vR U Q) hm h6 T h1 a<|λS w h=>h.1,wS,⟨zj hg<|hx hl,wS⟩,λu w' _ hf=>zp hf.1⟩
  rcases K4 h with⟨e1,h1⟩|⟨zl,l,e1,h1,hc⟩
  ·rcases K4 h1 with⟨f,a⟩|⟨zh,m,f,a,H⟩
   ·exact A (l:=0) (m:=xaF xs) (xai _) (Nm _) (zkD (α:=e.D) xs) (λvs env S w hl=>⟨.inr ⟨e1,O⟩,.inr ⟨f,O⟩⟩) a
   ·have⟨i,j⟩:=u9 a;have⟨zs,L,C⟩:=xJ j;exact A (l:=0) (m:=m) (xai _) i L (λvs env S w hl=>⟨.inr ⟨e1,O⟩,.inl<|by rw[f];exact kW Z<|H P vs env S w<|Y f hl⟩) C
  ·rcases K4 h1 with⟨f,a⟩|⟨zh,m,f,a,H⟩
   ·have⟨i,j⟩:=u9 a;have⟨zs,L,C⟩:=xJ j;exact A (l:=l) (m:=xaF xs) i (Nm _) (L.trans<|zkz (α:=e.D) xs l) (λvs env S w hl=>⟨.inl (by rw[e1];exact kW Z<|hc P vs env S w<|hd e1 hl),.inr ⟨f,O⟩⟩) C
   ·have⟨i,j⟩:=u9 a;have⟨zs,L,C⟩:=xJ j;exact A (l:=l) (m:=m) i.1 i.2 L (λvs env S w hl=>⟨.inl (by rw[e1];exact kW Z<|hc P vs env S w<|hd e1 hl),.inl<|by rw[f];exact kW Z<|H P vs env S w<|Y f hl⟩) C
 ·next e E B o Q hg=>
  split at h
  ·next s E' xs ho=>
   have⟨hn,h⟩:=yj h;cases hn;have⟨bytes,a0,hm⟩:=JI U hL Q
   have M:∀(l m:K),l<=m->m<=xaF xs->k [(0,.sv o e l<|m-l)]=Z r->(∀vs env S w,(∀G∈yI (.slice t x lo hi wL),Lk P vs env S w cx σ G)->((lo.map<|ev env)=Z (.int .i64 (l:J))\/(lo=wL/\l=0))/\((hi.map<|ev env)=Z (.int .i64 (m:J))\/(hi=wL/\m=xaF xs)))->
    ∃l,k l=Z r/\ES P ⟨d,.slice t x lo hi wL,ty,pos,aft,g⟩ cx σ F l:=by
    intro l m h1 a C j;refine⟨_,C,λenv w S vs hS hM hl=> ?_⟩;have⟨h6,T⟩:=j vs env S w hl;have hp:ev env x=vs o:=zj hg<|hx hl;rcases dk (show(mO e.rep E' (vs o) xs).p S w from Zt hM ho)with⟨hv,hj⟩|⟨b,cap,hv,hu,hy⟩
    ·refine(Pa (e:=e.rep) (xs:=([]:N e.D)) (l:=l) (h:=m) O (vR U Q) hm h6 (by rw[hj]at T;exact T) h1 (by rw[hj]at a;exact a) (Γ:=[fV (eS e.rep) ([]:N e.D)<|ev env x]) (λS w h=>h.1) (ms:=[]) w S hS wS ⟨?_,wS⟩).mono ?_
     ·rw[hp,hv];exact xK.2 ⟨wL,0,O,Nm _,xai _,.inl O⟩
     ·rintro v w' ⟨u,rfl,_,hw,hf⟩;refine⟨hw,zp (.inr ?_)⟩;have hA:m=0:=by rw[hj]at a;exact Nat.le_zero.1 a
      have⟨ao,c,q1,q2,q3,_⟩:=xK.1 hf.1;refine⟨W,ao,c,by unfold WP at q3;lia,?_⟩;rw[q1];simp
    ·have hr:=Eg (P:=P) (b:=b) (o:=0) (n:=xaF xs) (cap:=cap) (w:=w) (l:=l) (h:=m) (vR U Q) hm (h6.imp id λq=>⟨by rw[q.1];rfl,q.2⟩) (T.imp id λq=>⟨by rw[q.1];rfl,q.2⟩) h1<|xal a hu;rw[<-hv,<-hp]at hr;refine uB.of_value (v:=.slice (if cap=l then Z ⟨b,0,wL⟩else Z ((⟨b,0,wL⟩:JP).add<|l*e.rep.n)) (m-l)<|cap-l) (w':=w) (by simp[jP,hr]) ⟨yw.refl _ _,zp ?_⟩;by_cases hq:cap=l
     ·rw[iq hq];refine .inr ⟨W,Z ⟨b,0,wL⟩,cap-l,W,?_⟩;rw[(W:m-l=0)]
     ·rw[ir hq];exact .inl ⟨b,xaF xs,cap,cap-l,hv,W,W,W,by rw[qE]⟩
   rcases K4 h with⟨e1,h1⟩|⟨zl,l,e1,h1,hc⟩
   ·rcases K4 h1 with⟨f,a⟩|⟨zh,m,f,a,H⟩
    ·exact M 0 (xaF xs) (xai _) (Nm _) a<|λvs env S w hl=>⟨.inr ⟨e1,O⟩,.inr ⟨f,O⟩⟩
    ·have⟨i,j⟩:=u9 a;exact M 0 m (xai _) i j<|λvs env S w hl=>⟨.inr ⟨e1,O⟩,.inl<|by rw[f];exact kW Z<|H P vs env S w<|Y f hl⟩
   ·rcases K4 h1 with⟨f,a⟩|⟨zh,m,f,a,H⟩
    ·have⟨i,j⟩:=u9 a;exact M l (xaF xs) i (Nm _) j<|λvs env S w hl=>⟨.inl (by rw[e1];exact kW Z<|hc P vs env S w<|hd e1 hl),.inr ⟨f,O⟩⟩
    ·have⟨i,j⟩:=u9 a;exact M l m i.1 i.2 j<|λvs env S w hl=>⟨.inl (by rw[e1];exact kW Z<|hc P vs env S w<|hd e1 hl),.inl<|by rw[f];exact kW Z<|H P vs env S w<|Y f hl⟩
  ·cases h
 ·next q B xs Q hg=>
  have A:∀{l m:K}{zs:N K},l<=m->m<=xaF xs->zs=(xdM l xs).take (m-l)->(∀vs env S w,(∀G∈yI (.slice t x lo hi wL),Lk P vs env S w cx σ G)->((lo.map<|ev env)=Z (.int .i64 (l:J))\/(lo=wL/\l=0))/\((hi.map<|ev env)=Z (.int .i64 (m:J))\/(hi=wL/\m=xaF xs)))->
   k [(0,.d .tx zs)]=Z r->∃l,k l=Z r/\ES P ⟨d,.slice t x lo hi wL,ty,pos,aft,g⟩ cx σ F l:=by
   intro l m zs h1 a i j C;refine⟨_,C,zG λenv w S vs hl=> ?_⟩;have⟨h6,T⟩:=j vs env S w hl;have⟨s,e1,f,e3⟩:=NL<|zj hg<|hx hl;have hk:X (xb s)=s.size:=qQ s;rw[f]at hk;have hr:=SN (P:=P) (s:=s) (l:=l) (h:=m) (w:=w) (LB U Q) (h6.imp id λq=>⟨by rw[q.1];rfl,q.2⟩) (T.imp id λq=>⟨by rw[q.1];rfl,by rw[q.2];exact hk⟩) h1 (by rw[<-hk];exact a);rw[<-e1]at hr;refine⟨.string<|s.extract l m,by simp[jP,hr],zp<|Ri (by rw[Dm,f,i]) ?_⟩;rw[<-qQ,Dm,f];have a:m<=xaF (α:=K) xs:=a;rw[xax];lia
  rcases K4 h with⟨e1,h1⟩|⟨zl,l,e1,h1,hc⟩
  ·rcases K4 h1 with⟨f,a⟩|⟨zh,m,f,a,H⟩
   ·exact A (l:=0) (m:=xaF (α:=K) xs) (xai _) (Nm _) (zkD (α:=K) xs) (λvs env S w hl=>⟨.inr ⟨e1,O⟩,.inr ⟨f,O⟩⟩) a
   ·have⟨i,j⟩:=u9 a;have⟨zs,L,C⟩:=xJ j;exact A (l:=0) (m:=m) (xai _) i L (λvs env S w hl=>⟨.inr ⟨e1,O⟩,.inl<|by rw[f];exact kW Z<|H P vs env S w<|Y f hl⟩) C
  ·rcases K4 h1 with⟨f,a⟩|⟨zh,m,f,a,H⟩
   ·have⟨i,j⟩:=u9 a;have⟨zs,L,C⟩:=xJ j;exact A (l:=l) (m:=xaF (α:=K) xs) i (Nm _) (L.trans<|zkz (α:=K) xs l) (λvs env S w hl=>⟨.inl (by rw[e1];exact kW Z<|hc P vs env S w<|hd e1 hl),.inr ⟨f,O⟩⟩) C
   ·have⟨i,j⟩:=u9 a;have⟨zs,L,C⟩:=xJ j;exact A (l:=l) (m:=m) i.1 i.2 L (λvs env S w hl=>⟨.inl (by rw[e1];exact kW Z<|hc P vs env S w<|hd e1 hl),.inl<|by rw[f];exact kW Z<|H P vs env S w<|Y f hl⟩) C
 ·cases h
def zny(f:yZ P cf.tt){k:N (K×Dv)->V R}(h:zmt cf cx σ t x y k=Z r):∃l,k l=Z r/\ES P ⟨d,.index t x y,ty,pos,aft,g⟩ cx σ F l:=by
 have i:∀{vs env S w},(∀a∈yI (.index t x y),Lk P vs env S w cx σ a)->YV P vs env S w cx σ x:=λhl=>yE hl (by simp[xaC]);have m:∀{vs env S w},(∀a∈yI (.index t x y),Lk P vs env S w cx σ a)->YV P vs env S w cx σ y:=λhl=>yE hl (by simp[xaC]);unfold zmt at h;split at h
 ·next q B xs n o=>
  have⟨j,p,h,hi⟩:=Rn h;have⟨z,u,h⟩:=xJ h;refine⟨_,h,zG λenv w S vs hl=> ?_⟩;have⟨s,e1,c,_⟩:=NL<|zj o<|i hl;have⟨ik,v⟩:=hi P vs env S w<|m hl;have e:X (xb s)=s.size:=qQ s;have hc:j<s.size:=by rw[<-e,c];exact p
  have hd:z=(s[j]'hc).toNat:=by
   rw[u,<-c];unfold xb;rw[H1,xcg,xah<|by rw[<-e]at hc;simpa[xb]using hc];rfl
  have b:=run_index_string (P:=P) w t s ik (j:J)<|LB f n;rw[dif_pos ⟨W,W⟩]at b;refine⟨.int .u8 (z:J),?_,zp<|Gj<|by rw[hd];exact UInt8.toNat_lt _⟩;simp only[xbc]at b;rw[hd];simp[jP,e1,v,b]
 ·cases h
def zo8{E:wT}{k:N (K×Dv)->V R}(h:zln cf cx σ E x k=Z r):∃l,k l=Z r/\ES P ⟨d,.box E x,ty,pos,aft,g⟩ cx σ F l:=by
 unfold zln at h;split at h
 ·next a f=>
  have⟨y,h,b⟩:=WM h;exact⟨_,h,uf λenv w S vs i hl=>⟨_,_,_,_,[fV a.ty.rep y<|ev env x],[],zmx (e:=a.ty.rep) (z:=y) O<|λS w h=>h.1,wS,⟨b P vs env S w (yE hl<|by simp[xaC]),wS⟩,λu w' _ c=>zp c.1⟩⟩
 ·cases h
def zpg(m:yZ P cf.tt){a:ul v6}{ts:ul wT}{k:N (K×Dv)->V R}(h:zmB cf cx σ a.toList ts.toList k=Z r):
 ∃l,k l=Z r/\ES P ⟨d,.call ⟨.builtin .len,a,ts⟩,ty,pos,aft,g⟩ cx σ F l:=by
 unfold zmB at h;split at h
 ·next _ _ x t hd D=>
  obtain rfl:a= #[x]:=by cases a;simp_all
  obtain rfl:ts= #[t]:=by cases ts;simp_all
  have f:∀{vs env S w},(∀p∈yI (.call ⟨.builtin .len,#[x],#[t]⟩),Lk P vs env S w cx σ p)->YV P vs env S w cx σ x:=λhl=>yE hl (by simp[xaC,xeu]);split at h
  ·next e E B i=>
   have c:=vR m i;split at h
   ·next b=>exact⟨_,h,zG λenv w S vs hl=>⟨_,P3 c (zj b<|f hl) w,zp<|wz gS⟩⟩
   ·next s xs b=>
    exact⟨_,h,uf λenv w S vs n hl=>⟨_,_,_,_,[fV (eS s.rep) xs<|ev env x],[],zmN (e:=s.rep) (xs:=xs) c O<|λS w h=>h.1,wS,⟨zj b<|f hl,wS⟩,λu w' j v=>zp<|wz<|MN j⟩⟩
   ·next o b=>
    split at h
    ·next s z xs A=>
     exact⟨_,h,uf λenv w S vs n hl=>⟨_,_,_,_,[],[mO s.rep z (vs o) xs],H3 0 O c<|zj b<|f hl,⟨Zt n A,wS⟩,wS,λu w' j v=>zp<|wz<|MN j⟩⟩
    ·cases h
   ·cases h
  ·next q B i=>
   have c:=LB m i;split at h
   ·next xs b=>
    refine⟨_,h,zG λenv w S vs hl=> ?_⟩;have⟨s,e1,C,G⟩:=NL<|zj b<|f hl;have hc:X (xb s)=s.size:=qQ s;rw[C]at hc;have hc:xaF (α:=K) xs=s.size:=hc;refine⟨.int .i64 ((xaF (α:=K) xs:K):J),?_,zp<|wz W⟩;rw[hc];simp[jP,Wr,V1,Ul,e1,Builtin.len_,eM,kw c]
   ·cases h
  ·cases h
 ·cases h
def znX{b:wW}{e:ul v6}{ts:ul wT}{k:N (K×Dv)->V R}(h:eMM cx b σ e.toList k=Z r):
 ∃l,k l=Z r/\ES P ⟨d,.call ⟨.builtin (if b=wF then .max else .min),e,ts⟩,ty,pos,aft,g⟩ cx σ F l:=by
 unfold eMM at h;split at h
 ·next _ x y hd=>
  obtain rfl:e= #[x,y]:=by cases e;simp_all
  have i:∀{bl vs env S w},(∀n∈yI (.call ⟨.builtin bl,#[x,y],ts⟩),Lk P vs env S w cx σ n)->YV P vs env S w cx σ x:=λhl=>yE hl (by simp[xaC,xeu]);have j:∀{bl vs env S w},(∀n∈yI (.call ⟨.builtin bl,#[x,y],ts⟩),Lk P vs env S w cx σ n)->YV P vs env S w cx σ y:=λhl=>yE hl (by simp[xaC,xeu]);split at h
  ·next a c m hc=>
   cases b
   ·have h:B (min (α:=J) a c) (λz=>k [(0,zlb z)])=Z r:=h;have⟨z,f,h⟩:=xJ h;exact⟨_,h,zG λenv w S vs hl=>⟨_,v_i (zoc (wK m<|i hl).1 (wK hc<|j hl).1) f w,zp<|wz<|zeg f<|znE (wK m<|i hl).2 (wK hc<|j hl).2⟩⟩
   ·have h:B (max (α:=J) a c) (λz=>k [(0,zlb z)])=Z r:=h;have⟨z,f,h⟩:=xJ h;exact⟨_,h,zG λenv w S vs hl=>⟨_,v_i (zn0 (wK m<|i hl).1 (wK hc<|j hl).1) f w,zp<|wz<|zeg f<|znW (wK m<|i hl).2 (wK hc<|j hl).2⟩⟩
  ·cases h
 ·cases h
end
end
section
def PH(S:K->Prop)(w:wP):(ts:N Ty)->mb ts->N (K×wN)->Prop
 |[],_,[]=>XS
 |t::ts,y,(_,v)::r=>(fV t.rep y.1 v).p S w/\PH S w ts y.2 r
 |_,_,_=>V6
def PH.keep{S:K->Prop}{w w':wP}(k:yw S w w'):∀{ts:N Ty}{ys:mb ts}{ps:N (K×wN)},PH S w ts ys ps->PH S w' ts ys ps
 |[],_,[],h=>trivial
 |t::_,y,(_,v)::_,h=>⟨(fV t.rep y.1 v).keep h.1 k,PH.keep k h.2⟩
 |[],_,_::_,h=>h.elim
 |_::_,_,[],h=>h.elim
def PH.sub{S a:K->Prop}{w:wP}(k:∀k,k<w.heap.size->S k->a k):∀{ts:N Ty}{ys:mb ts}{ps:N (K×wN)},PH S w ts ys ps->PH a w ts ys ps
 |[],_,[],h=>trivial
 |t::_,y,(_,v)::_,h=>⟨(fV t.rep y.1 v).sub h.1 k,PH.sub k h.2⟩
 |[],_,_::_,h=>h.elim
 |_::_,_,[],h=>h.elim
def phF(ts:N Ty)(ys:mb ts)(ps:N (K×wN)):FF:=⟨λS w=>PH S w ts ys ps,λh k=>PH.keep k h,λh k=>PH.sub k h⟩
section
variable{P:jp}{cf:Cf}{cx σ:Sg}{F:xS MF}{vs:wr->wN}{env:y8}{S:wr->Prop}{w:wP}{R:Type}{r:R}
 {d:ww Z9}{ty t yt:wT}{pos:String}{aft:ul Edge}{g:ww (wr×wW)}{x y:v6}
def mZ:∀{ts:N Ty}{ps:N (K×v6)}{j:K}{k:mb ts->V R},parts cx σ ts ps j k=Z r->
 ∃ys,k ys=Z r/\ps.map (·.1)=xfv j (X ps)/\∀(P:jp) vs env S w,(∀x∈ps.map (·.2),YV P vs env S w cx σ x)->PH S w ts ys (ps.map λq:K×v6=>(q.1,ev env q.2))
 |[],[],j,k,h=>⟨(),h,O,λ_ _ _ _ _ _=>wS⟩
 |t::ts,(i,x)::ps,j,k,h=>by
  unfold parts at h;have⟨a,h⟩:=z8 h;have⟨y,h,b⟩:=WM h;have⟨ys,h1,c,e⟩:=mZ h;refine⟨(y,ys),h1,?_,λP vs env S w hl=>⟨b P vs env S w<|hl x<|FS,e P vs env S w λz f=>hl z<|UV _ f⟩⟩;simp only[xcb,xau,List.range'_succ,c,zO a]
 |[],_::_,j,k,h=>by simp[parts]at h
 |_::_,[],j,k,h=>by simp[parts]at h
def zks{i:K}{v:wN}:qU [(i,v)]=v.cells.toList:=by simp[qU]
def zpG{k:K}{s t:Ty}:xh (k+2) (.p s t) 0=Z ⟨0,s,λz=>z.1,λy z=>(y,z.2)⟩:=O
def zp5{k:K}{s t:Ty}{i:K}{f:Fl t.D}(h:xh (k+1) t i=Z f):xh (k+2) (.p s t) (i+1)=Z ⟨s.n+f.off,f.f,λz=>f.get z.2,λy z=>(z.1,f.set y z.2)⟩:=by
 simp only[xh,h]
def zfO{pl:ul (K×K)}:∀{k:K}{t:Ty}{o j:K}{ys:mb (zca k t)}{ps:N (K×wN)}{z:t.D},(∀i f,xh k t i=Z f->pl[j+i]? =Z (o+f.off,f.f.n))->
 ps.map (·.1)=xfv j (X ps)->PH S w (zca k t) ys ps->cj k t ys=Z z->U1 (pl[·]?) ps o/\t.rep.p S z (qU ps) w
 |0,_,_,_,_,_,_,_,_,_,h=>by simp[cj]at h
 |1,t,o,j,ys,[],z,hp,hi,h,c=>h.elim
 |1,t,o,j,ys,[(i,v)],z,hp,hi,h,c=>by
  simp only[cj,xar]at c;subst c;have q:i=j:=by simpa using hi
  subst q;have h0:=hp 0 (Fl.self t) O;have e:=zbB h.1;rw[t.n_rep]at e;refine⟨⟨?_,wS⟩,by rw[zks];exact uY h.1⟩;show pl[i]? =_;rw[e];simpa[Fl.self]using h0
 |1,t,o,j,ys,_::_::_,z,hp,hi,h,c=>h.2.elim
 |k+2,.p s t,o,j,ys,[],z,hp,hi,h,c=>h.elim
 |k+2,.p s t,o,j,ys,(i,v)::ps,z,hp,hi,h,c=>by
  unfold cj at c;split at c
  ·next y A=>
   obtain rfl:=xdC c;simp only[xcb,xau,List.range'_succ,xeF]at hi;obtain⟨rfl,hi⟩:=hi;have h0:=hp 0 _ zpG;have e:=zbB h.1;rw[s.n_rep]at e;have⟨h1,B⟩:=zfO (o:=o+s.n) (j:=i+1) (pl:=pl) (λm f C=>by
    have:=hp (m+1) _<|zp5 C;rw[(W:i+1+m=i+(m+1)),this];simp only[xcU]) hi h.2 A
   refine⟨⟨?_,by rw[e];exact h1⟩,?_⟩
   ·show pl[i]? =_;rw[e];simpa using h0
   ·rw[FY];exact⟨_,_,O,uY h.1,B⟩
  ·cases c
 |k+2,.i,_,_,_,_,_,_,_,_,h=>by simp[cj]at h
 |k+2,.u,_,_,_,_,_,_,_,_,h=>by simp[cj]at h
 |k+2,.b,_,_,_,_,_,_,_,_,h=>by simp[cj]at h
 |k+2,.l _,_,_,_,_,_,_,_,_,h=>by simp[cj]at h
 |k+2,.a _ _,_,_,_,_,_,_,_,_,h=>by simp[cj]at h
def HB(S:K->Prop)(w:wP)(n:K)(t:Ty):N (K×wN)->t.D->t.D->Prop
 |[],z,z'=>z=z'
 |(i,v)::r,z,z'=>∃(f:Fl t.D) (y:f.f.D),xh n t i=Z f/\(fV f.f.rep y v).p S w/\HB S w n t r (f.set y z) z'
def HB.keep{S:K->Prop}{w w':wP}(k:yw S w w'){n:K}{t:Ty}:∀{vs:N (K×wN)}{z z':t.D},HB S w n t vs z z'->HB S w' n t vs z z'
 |[],_,_,h=>h
 |_::_,_,_,⟨f,y,h1,a,b⟩=>⟨f,y,h1,(fV f.f.rep y _).keep a k,HB.keep k b⟩
def HB.sub{S a:K->Prop}{w:wP}(k:∀k,k<w.heap.size->S k->a k){n:K}{t:Ty}:∀{vs:N (K×wN)}{z z':t.D},HB S w n t vs z z'->HB a w n t vs z z'
 |[],_,_,h=>h
 |_::_,_,_,⟨f,y,h1,b,c⟩=>⟨f,y,h1,(fV f.f.rep y _).sub b k,HB.sub k c⟩
def hbF(n:K)(t:Ty)(vs:N (K×wN))(z z':t.D):FF:=⟨λS w=>HB S w n t vs z z',λh k=>HB.keep k h,λh k=>HB.sub k h⟩
def HB.fill{S:K->Prop}{w:wP}{n:K}{t:Ty}{pl:ul (K×K)}(hp:∀i f,xh n t i=Z f->pl[i]? =Z (f.off,f.f.n)):∀{vs:N (K×wN)}{z z':t.D}{cs:N wN},HB S w n t vs z z'->t.rep.p S z cs w->
 ∃out,xdt (pl[·]?) cs.toArray vs=Z out.toArray/\t.rep.p S z' out w/\∀j g,xh n t j=Z g->(∀p∈vs,p.1≠j)->g.f.n=1->out[g.off]? =cs[g.off]?
 |[],z,z',cs,h,hc=>⟨cs,O,h▸hc,λ_ _ _ _ _=>O⟩
 |(i,v)::r,z,z',cs,⟨f,y,h1,a,o⟩,hc=>by
  have⟨q,c,b,e1,s,e,u⟩:=KQ h1 z S w cs hc;have hv:=uY a;have k:=zbB a;have⟨out,A,B,C⟩:=HB.fill hp o<|u w y v.cells.toList (yw.refl _ _) hv;refine⟨out,?_,B,λj g l m E=> ?_⟩
  ·rw[e1,zcv (by rw[hp i f h1,k,f.f.n_rep]) s<|by rw[f.f.rep.len e,k]];exact A
  ·rw[C j g l (λp hp=>m p<|UV _ hp) E,e1];have⟨_,_,hd⟩:=DD h1 l<|m (i,v)<|FS;have l1:X c=f.f.n:=by rw[f.f.rep.len e,f.f.n_rep]
   have G:X v.cells.toList=f.f.n:=by rw[f.f.rep.len hv,f.f.n_rep]
   obtain hd|hd:=hd
   ·rw[xaf,xaf,xaR W,xaR W]
   ·rw[xbj (by rw[xap];lia),xbj (by rw[xap];lia),xap,xap,l1,G]
def SA{n:K}{t:Ty}:∀{ps:N (K×v6)}{z:t.D}{k:t.D->V R},zfN cx σ n t ps z k=Z r->
 ∃z',k z'=Z r/\∀(P:jp) vs env S w,(∀x∈ps.map (·.2),YV P vs env S w cx σ x)->HB S w n t (ps.map λq:K×v6=>(q.1,ev env q.2)) z z'
 |[],z,k,h=>⟨z,h,λ_ _ _ _ _ _=>O⟩
 |(i,x)::ps,z,k,h=>by
  unfold zfN at h;split at h
  ·next f a=>
   have⟨y,h,b⟩:=WM h;have⟨z',h1,c⟩:=SA h;exact⟨z',h1,λP vs env S w hl=>⟨f,y,a,b P vs env S w<|hl x<|FS,c P vs env S w λz e=>hl z<|UV _ e⟩⟩
  ·cases h
def fL:∀(n:K) (t:Ty) (ys:mb (EB n t)),X (mM n t ys)=n
 |0,_,_=>rfl
 |n+1,t,ys=>kW (· +1)<|fL n t ys.2
def Hv{t:Ty}:∀{n j:K}{ys:mb (EB n t)}{ps:N (K×wN)},ps.map (·.1)=xfv j (X ps)->PH S w (EB n t) ys ps->
 U1 (λi=>Z (i*t.rep.n,t.rep.n)) ps (j*t.rep.n)/\yJ t.rep S (mM n t ys) (qU ps) w
 |0,_,_,[],_,_=>⟨wS,O⟩
 |0,_,_,_::_,_,h=>h.elim
 |n+1,_,_,[],_,h=>h.elim
 |n+1,j,ys,(i,v)::ps,hi,h=>by
  simp only[xcb,xau,List.range'_succ,xeF]at hi;obtain⟨rfl,hi⟩:=hi;have a:=zbB h.1;have⟨h1,b⟩:=Hv hi h.2;refine⟨⟨by rw[a],?_⟩,?_⟩
  ·rw[a,show i*t.rep.n+t.rep.n=(i+1)*t.rep.n by rw[xbb,xcy]];exact h1
  ·rw[FY];exact⟨_,_,O,uY h.1,b⟩
def zjN(c:yZ P cf.tt){ps:ul (K×v6)}{k:N (K×Dv)->V R}(h:R9 cf cx σ t ps.toList k=Z r):∃l,k l=Z r/\ES P ⟨d,.build t ps,ty,pos,aft,g⟩ cx σ F l:=by
 unfold R9 at h;split at h
 ·next e n B m=>
  have⟨p,hd,C,G⟩:=Yt c m;have⟨s,_,⟨fs,Q,pl,T,H⟩,_⟩:=(c _ _ m).2.2.2;simp only at hd C G s H;cases hc:xdh (X ps.toList) n||xaj n 0<;>rw[hc]at h
  ·have⟨ys,h,hi,hp⟩:=mZ h;split at h
   ·next z Y=>
    refine⟨_,h,uf λenv w S vs U hl=> ?_⟩;have J:=hp P vs env S w λx v=>yE hl (by simpa[xaC]using v);have L:(ps.toList.map λq:K×v6=>(q.1,ev env q.2)).map (·.1)=xfv 0 (X (ps.toList.map λq:K×v6=>(q.1,ev env q.2))):=by rw[xdb,xbd];exact hi
    have A:=λ(S:K->Prop) (w:wP) (h:PH S w (zca n e) ys (ps.toList.map λq:K×v6=>(q.1,ev env q.2)))=>zfO (pl:=pl) (o:=0) (j:=0) (λi f b=>by rw[xaJ,xaJ];exact H i f b) L h Y;exact⟨_,_,_,_,[phF _ ys (ps.toList.map λq:K×v6=>(q.1,ev env q.2))],[],PN (e:=e.rep) (z:=z) (parts:=ps.toList) (s▸hd) s C O (.inl ⟨fs,Q,pl,T,λS w h=>(A S w h.1).1⟩)<|λS w h=>(A S w h.1).2,wS,⟨J,wS⟩,λu w' _ b=>zp b.1⟩
   ·cases h
  ·have⟨z,h,hH⟩:=SA h;refine⟨_,h,uf λenv w S vs U hl=> ?_⟩;have hb:=hH P vs env S w λx v=>yE hl (by simpa[xaC]using v);exact⟨_,_,_,_,[hbF n e (ps.toList.map λq:K×v6=>(q.1,ev env q.2)) e.z z],[],GV (e:=e.rep) (z0:=e.z) (z:=z) (parts:=ps.toList) (s▸hd) s G ⟨fs,Q,T⟩ O (λ_=>XS) (λS w h cs _ hc=>by have⟨out,q1,q2,_⟩:=HB.fill H h.1 hc;exact⟨out,q1,q2,wS⟩),wS,⟨hb,wS⟩,λu w' _ b=>zp b.1⟩
 ·next n e D E B m=>
  have⟨M,h⟩:=z8 h;rw[xab]at M;have hn:=zO M.1;subst hn;have⟨b2,z2,hv⟩:=zg2 c M.2;have⟨ys,h,hi,hp⟩:=mZ h;have⟨p,hd,C,G⟩:=Yt c m;refine⟨_,h,uf λenv w S vs U hl=> ?_⟩;have J:=hp P vs env S w λx v=>yE hl (by simpa[xaC]using v);have L:(ps.toList.map λq:K×v6=>(q.1,ev env q.2)).map (·.1)=xfv 0 (X (ps.toList.map λq:K×v6=>(q.1,ev env q.2))):=by rw[xdb,xbd];exact hi
  have A:=λ(S:K->Prop) (w:wP) (h:PH S w (EB D e) ys (ps.toList.map λq:K×v6=>(q.1,ev env q.2)))=>Hv L h;exact⟨_,_,_,_,[phF _ ys (ps.toList.map λq:K×v6=>(q.1,ev env q.2))],[],PN (e:=(Ty.a D e).rep) (z:=mM D e ys) (parts:=ps.toList) hd O C O (.inr ⟨_,_,_,_,_,_,zgu c m,hv,λS w h=>by have:=(A S w h.1).1;rwa[xcu]at this⟩)<|λS w h=>⟨fL D e ys,(A S w h.1).2⟩,wS,⟨J,wS⟩,λu w' _ b=>zp b.1⟩
 ·cases h
def zhu{s E:wT}{e:Ty}{B:K}(a:yZ P cf.tt)(b:ug P cf.tt)(h:ZG cf s=Z ⟨.l e,.sl E,B⟩):0<e.rep.n:=by
 obtain⟨c,h1,rfl⟩:=b _ _ _ _ h;exact(a _ _ h1).2.2.1
def zpf(b:yZ P cf.tt)(f:ug P cf.tt){n:K}{ps:ul (K×v6)}{k:N (K×Dv)->V R}(h:zl3 cf cx σ t n ps.toList k=Z r):∃l,k l=Z r/\ES P ⟨d,.buildSlice t n ps,ty,pos,aft,g⟩ cx σ F l:=by
 unfold zl3 at h;split at h
 ·next e E B c=>
  have⟨a,h⟩:=z8 h;have a:=xbJ a;rw[<-e.n_rep]at a;have⟨ys,h,hd,m⟩:=mZ h;have⟨bytes,i,o⟩:=JI b f c;refine⟨_,h,uf λenv w S vs v hl=> ?_⟩;have hi:=m P vs env S w λx p=>yE hl (by simpa[xaC]using p);have hc:(ps.toList.map λq:K×v6=>(q.1,ev env q.2)).map (·.1)=xfv 0 (X (ps.toList.map λq:K×v6=>(q.1,ev env q.2))):=by rw[xdb,xbd];exact hd
  have j:=λ(S:K->Prop) (w:wP) (h:PH S w (EB n e) ys (ps.toList.map λq:K×v6=>(q.1,ev env q.2)))=>Hv hc h;exact⟨_,_,_,_,[phF _ ys (ps.toList.map λq:K×v6=>(q.1,ev env q.2))],[],Et (e:=e.rep) (zs:=mM n e ys) (parts:=ps.toList) (vR b c) o (zhu b f c) (fL n e ys) a O (λS w h=>by have:=(j S w h.1).1;rwa[xcu]at this)<|λS w h=>(j S w h.1).2,wS,⟨hi,wS⟩,λu w' _ s=>zp s.1⟩
 ·cases h
def TD:∀{xs:N v6}{l:N PD},UU cx σ xs=Z l->X l=X xs/\∀(P:jp) vs env S w,(∀x∈xs,YV P vs env S w cx σ x)->zE S (Iv l<|xs.map<|ev env) w
 |[],l,h=>by simp only[UU,xar]at h;subst h;exact⟨O,λ_ _ _ _ _ _=>wS⟩
 |x::xs,l,h=>by
  unfold UU at h;split at h
  ·next t y f a b=>
   simp only[xar]at h;subst h;have⟨h1,c⟩:=TD b;exact⟨by simp[h1],λP vs env S w hl=>⟨zj a<|hl x<|FS,c P vs env S w λz e=>hl z<|UV _ e⟩⟩
  ·cases h
def znF{f:Go.Fn}{first cs:ul v6}{k:N (K×Dv)->V R}(h:zlS cx σ f first.toList cs.toList k=Z r):∃l,k l=Z r/\ES P ⟨d,.makeFunc f first cs,ty,pos,aft,g⟩ cx σ F l:=by
 unfold zlS at h;split at h
 ·next _ _ _ f' l b hc=>
  obtain rfl:first= #[]:=by cases first;simp_all
  have⟨h1,c⟩:=TD hc;refine⟨_,h,zG λenv w S vs hl=>⟨_,zp3 (xs:=cs.toList) O w,zp ?_⟩⟩;exact⟨_,O,by simp[h1],c P vs env S w λx a=>yE hl<|by simpa[xaC]using a⟩
 ·next _ _ _ f' x b hc=>
  split at h
  ·next o t a=>
   obtain rfl:first= #[x]:=by cases first;simp_all
   have h1:=(TD hc).1;obtain rfl:cs= #[]:=by
    cases cs;simp only[xbH]at h1;simp[xbm h1.symm]
   refine⟨_,h,zG λenv w S vs hl=>⟨.func (.func f') #[ev env x] #[],dW (by simp[pv]) w,zp ?_⟩⟩;have⟨e,i⟩:=zj a (yE hl<|by simp[xaC]);exact⟨by rw[e],i⟩
  ·cases h
 ·cases h
end
end
section
section
variable{P:jp}{cf:Cf}{cx σ:Sg}{F:xS MF}{vs:wr->wN}{env:y8}{S:wr->Prop}{w:wP}{R:Type}{r:R}
 {d:ww Z9}{ty t yt:wT}{pos:String}{aft:ul Edge}{g:ww (wr×wW)}{x y:v6}
def GA{A B C:Type}(h:B=C)(p:(A×B)=(A×C))(x:A×B):(p▸x:A×C)=(x.1,h▸x.2):=by subst h;rfl
theorem St.sub'{we:wP}{Se:K->Prop}{ms:N MF}{Γ Δ:N FF}{w:wP}(h:St we Se ms Γ w)(a:∀f∈Δ,f∈Γ):St we Se ms Δ w:=by grind [St.weak,kX]
def zoG{t:Ty}{n:RM}{r:N RM}(x:lZ (.d t::n::r)):(XY (.d t::n::r)▸x:Gy ((RM.d t::n::r).map RM.ty))=((x.1,XY (n::r)▸x.2):t.D×Gy ((n::r).map RM.ty)):=
 GA (A:=t.D) (XY (n::r)) (XY (.d t::n::r)) x
def zoo{t:Ty}{E:wT}{n:RM}{r:N RM}(x:lZ (.own t E::n::r)):(XY (.own t E::n::r)▸x:Gy ((RM.own t E::n::r).map RM.ty))=((x.1,XY (n::r)▸x.2):(Ty.l t).D×Gy ((n::r).map RM.ty)):=
 GA (A:=N t.D) (XY (n::r)) (XY (.own t E::n::r)) x
def zdA{we:wP}{Se:K->Prop}:∀{rs:N RM}{x:lZ rs}{us:N wN}{F:N MF}{G:N FF}{w:wP},noV rs=wF->
 St we Se (Ys rs x us++F) (Yg rs x us++G) w->St we Se F (csF (rs.map RM.ty) (XY rs▸x) us++G) w
 |[],_,_,_,_,_,_,h=>h
 |[.d t],x,us,F,G,w,_,h=>h
 |.var _ _::_,_,_,_,_,_,hv,_=>by cases hv
 |[.own t E],x,us,F,G,w,_,h=>by
  have h:St we Se (mO t.rep E (us.headD uP) x::F) G w:=h;exact MC 0 h O
 |.d t::n::r,x,us,F,G,w,hv,h=>by
  rw[zoG];have h:St we Se (Ys (n::r) x.2 us.tail++F) (Yg (n::r) x.2 us.tail++(fV t.rep x.1 (us.headD uP)::G)) w:=St.sub' (by simpa[Ys,Yg,rmM,rmF]using h) (by simp;rintro f (h|h|h)<;>simp[h]);have:=zdA (rs:=n::r) hv h;exact St.sub' this (by
   intro f hf;obtain hf|hf:=So.1 hf
   ·obtain rfl|hf:=xaa.1 hf
    ·exact So.2 (.inr<|FS)
    ·exact So.2 (.inl hf)
   ·exact So.2 (.inr<|UV _ hf))
 |.own t E::n::r,x,us,F,G,w,hv,h=>by
  rw[zoo];have h:St we Se (mO t.rep E (us.headD uP) x.1::(Ys (n::r) x.2 us.tail++F)) (Yg (n::r) x.2 us.tail++G) w:=h;have h:=MC 0 h O;have h:St we Se (Ys (n::r) x.2 us.tail++F) (Yg (n::r) x.2 us.tail++(fV (eS t.rep) x.1 (us.headD uP)::G)) w:=St.sub' h (by simp;rintro f (h|h|h)<;>simp[h]);have:=zdA (rs:=n::r) hv h;exact St.sub' this (by
   intro f hf;obtain hf|hf:=So.1 hf
   ·obtain rfl|hf:=xaa.1 hf
    ·exact So.2 (.inr<|FS)
    ·exact So.2 (.inl hf)
   ·exact So.2 (.inr<|UV _ hf))
def H2:∀{rs:N RM}{x:lZ rs}{i:K},noV rs=wF->Sw rs x i=zf1 (rs.map RM.ty) (XY rs▸x) i
 |[],_,_,_=>rfl
 |[.d _],_,_,_=>rfl
 |[.own _ _],_,_,_=>rfl
 |.var _ _::_,_,_,h=>by cases h
 |.d t::n::r,x,i,h=>by rw[zoG];show(i,Dv.d t x.1)::Sw (n::r) x.2 (i+1)=_;rw[H2 (rs:=n::r) h];rfl
 |.own t E::n::r,x,i,h=>by rw[zoo];show(i,Dv.d (.l t) x.1)::Sw (n::r) x.2 (i+1)=_;rw[H2 (rs:=n::r) h];rfl
def NC:∀rs:N RM,ay rs=ziV (rs.map RM.ty)
 |[]=>rfl
 |[_]=>rfl
 |_::_::_=>rfl
def zdH:∀{ts:N Ty}{x:Gy ts}{i:K}{us:N wN},zE S (csF ts x us) w->X us=X ts->∀e∈zf1 ts x i,∃j u,e.1=i+j/\us[j]? =Z u/\(vj P vs e.2 u).p S w
 |[],_,_,_,_,_,e,he=>wR he IR
 |[t],x,i,[],h,hl,e,he=>by cases hl
 |[t],x,i,u::us,h,hl,e,he=>by
  obtain rfl:=xad.1 he;exact⟨0,u,O,O,h.1⟩
 |t::s::r,x,i,[],h,hl,e,he=>by cases hl
 |t::s::r,x,i,u::us,h,hl,e,he=>by
  obtain rfl|he:=xaa.1 he
  ·exact⟨0,u,O,O,h.1⟩
  ·have⟨j,v,h1,a,b⟩:=zdH (i:=i+1) h.2 (by simpa using hl) e he;exact⟨j+1,v,W,by simpa using a,b⟩
def BE:∀{ts:N Ty}{x:Gy ts}{us:N wN},zE S (csF ts x us) w->X us=X ts->∀e∈zf1 ts x (bif ziV ts then 0 else 1),(wg P vs e.2 (Xv us) e.1).p S w
 |[],_,_,_,_,e,a=>wR a IR
 |[t],x,[],_,hl,_,_=>by cases hl
 |[t],x,[v],h,hl,e,a=>by
  obtain rfl:=xad.1 a;exact h.1
 |[t],x,_::_::_,_,hl,_,_=>by simp at hl
 |t::s::q,x,[],_,hl,_,_=>by cases hl
 |t::s::q,x,[_],_,hl,_,_=>by simp at hl
 |t::s::q,x,v::b::us,h,hl,e,a=>by
  have⟨j,u,h1,c,f⟩:=zdH (P:=P) (vs:=vs) h hl e a;have⟨i,dv⟩:=e;simp only[ziV,Z2]at h1;obtain rfl:i=j+1:=W
  exact⟨(v::b::us).toArray,u,O,by simpa using c,f⟩
def A1:∀{cs:N WZ}{f:Z5}{s:WZ},GQ cs f=Z s->s∈cs/\s.f=f/\CH s.dom=wF/\s.bk=0/\noV s.cod=wF
 |c::cs,f,s,h=>by
  unfold GQ at h;cases a:E c.f f && (CH c.dom && (E c.bk 0 && noV c.cod))<;>rw[a]at h
  ·have⟨h1,b⟩:=A1 h;exact⟨UV _ h1,b⟩
  ·simp only[Z0,xar]at h;subst h;rw[xab,xab,xab]at a;exact⟨FS,zO a.1,a.2.1,zO a.2.2.1,a.2.2.2⟩
def n7:∀{dom:N AM}{x:cF dom}{us:N wN},CH dom=wF->Xo dom x us=[]
 |[],_,_,_=>rfl
 |.d _::r,x,us,h=>n7 (dom:=r) (x:=x.2) (us:=us.tail) h
 |.q _::r,x,us,h=>n7 (dom:=r) (x:=x.2) (us:=us.tail) h
 |.fn _ _::r,x,us,h=>n7 (dom:=r) (x:=x.2) (us:=us.tail) h
 |.own _ _::_,_,_,h=>by cases h
 |.var _ _::_,_,_,h=>by cases h
def Mc:∀{a:N AM}{cs:N PD}{z:cF a},KZ a cs=Z z->X cs=X a/\∀{S:K->Prop}{w:wP}{b:N wN},X b=X cs->zE S (Iv cs b) w->zE S (Zo P a z b) w
 |[],[],_,_=>⟨O,λ_ _=>wS⟩
 |.q t::r,c::cs,z,h=>by
  simp only[KZ]at h;have⟨e,h⟩:=yj h;subst e;split at h
  ·next z' i=>
   obtain rfl:=xdC h;have⟨h1,j⟩:=Mc i;refine⟨by simp[h1],λ{S w b} hl f=> ?_⟩
   cases b with
   |nil=>cases hl
   |cons v b=>exact⟨f.1,j (by simpa using hl) f.2⟩
  ·cases h
 |[],_::_,_,h=>by simp[KZ]at h
 |.q _::_,[],_,h=>by simp[KZ]at h
 |.d _::_,_,_,h=>by simp[KZ]at h
 |.own _ _::_,_,_,h=>by simp[KZ]at h
 |.var _ _::_,_,_,h=>by simp[KZ]at h
 |.fn _ _::_,_,_,h=>by simp[KZ]at h
def zfR:∀{full:N AM}{dom:N Ty}{x:mb dom}{cs:N PD}{z:cF full},EJ full dom x cs=Z z->X dom+X cs=X full/\
 ∀{S:K->Prop}{w:wP}{us a:N wN},X us=X dom->X a=X cs->zE S (tsF dom x us) w->zE S (Iv cs a) w->zE S (Zo P full z<|us++a) w
 |full,[],x,cs,z,h=>by
  have h:KZ full cs=Z z:=by cases full<;>(try cases‹AM›)<;>simpa[EJ]using h
  have⟨h1,b⟩:=Mc (P:=P) h;refine⟨by simp[h1],λ{S w us a} hl hc _ c=> ?_⟩;obtain rfl:=xbs.1 hl;exact b hc c
 |.d t::r,s::dom,x,cs,z,h=>by
  simp only[EJ]at h;have⟨e,h⟩:=yj h;subst e;split at h
  ·next z' i=>
   obtain rfl:=xdC h;have⟨h1,b⟩:=zfR i;refine⟨by simp;lia,λ{S w us a} hl hc f c=> ?_⟩
   cases us with
   |nil=>cases hl
   |cons v us=>exact⟨f.1,b (by simpa using hl) hc f.2 c⟩
  ·cases h
 |[],_::_,_,_,_,h=>by simp[EJ]at h
 |.q _::_,_::_,_,_,_,h=>by simp[EJ]at h
 |.own _ _::_,_::_,_,_,_,h=>by simp[EJ]at h
 |.var _ _::_,_::_,_,_,_,h=>by simp[EJ]at h
 |.fn _ _::_,_::_,_,_,_,h=>by simp[EJ]at h
def zfl{A B:Type}(h:A=B){o:V A}{r:B}(b:(h▸o:V B)=Z r):∃a:A,o=Z a/\(h▸a:B)=r:=by
 subst h;exact⟨r,b,O⟩
def iV{s:WZ}(a:xt P s)(hn:CH s.dom=wF)(b:s.bk=0)(hv:noV s.cod=wF){z:cF s.dom}{q:lZ s.cod}(c:s.M z=Z q){us:N wN}(hl:X us=X s.dom):
 Fn P s.f us.toArray (Zo P s.dom z us) Xv (λus=>csF (s.cod.map RM.ty) (XY s.cod▸q) us) (λus=>X us=X s.cod):=by
 have h:=a.plain b c hl;rw[n7 hn]at h;refine FnG.frozen h λu w' we Se e=> ?_;have:=zdA (rs:=s.cod) (x:=q) (us:=u) (F:=[]) (G:=[]) hv (by simpa using e);simpa using this
def Fn.weakΓ{U:Type}{f:Z5}{args:ul wN}{Γ b:N FF}{c:U->wN}{a:U->N FF}{ok:U->Prop}(h:Fn P f args Γ c a ok)(e:∀S w,zE S b w->zE S Γ w):Fn P f args b c a ok:=
 λw Se h1 i=>h w Se h1<|e Se w i
def zft(l:∀s∈cf.cs,xt P s){v:V Dv}{dom cod:N Ty}{k:(mb dom->V (Gy cod))->V R}(h:asF cf σ v dom cod k=Z r):
 ∃g,k g=Z r/\∀vs S w (dv:Dv) u,v=Z dv->(vj P vs dv u).p S w->(fnF P dom cod g u).p S w:=by
 unfold asF at h;split at h
 ·next f c=>
  split at h
  ·next s m=>
   have⟨h1,e,n,o,A⟩:=A1 m;have i:=l s h1;split at h
   ·next B _=>
    subst B;refine⟨_,h,λvs S w dv u hd b=> ?_⟩;cases hd;have⟨cs,C,D,E⟩:=b;refine⟨f,cs,Iv c cs,C,⟨e▸i.1,λx q a us hl=> ?_⟩,E⟩;simp only at a;split at a
    ·next z G=>
     have⟨L,H,hn⟩:=zfl _ a;have⟨M,J⟩:=zfR (P:=P) G;have hi:=iV i n o A H (us:=us++cs) (by simp;lia);rw[e]at hi;subst hn;refine(hi.weakΓ λS w j=>J hl D (zE.left j)<|zE.right j).ok_mono λus K=>by simpa using K
    ·cases a
   ·cases h
  ·cases h
 ·next Q T U=>
  split at h
  ·next hd hc _ _=>
   subst hd;subst hc;exact⟨_,h,λvs S w dv u hp b=>by cases hp;exact b⟩
  ·cases h
 ·cases h
end
end
section
def lv(P:jp)(ex:N (K×wW)):Prop:=∀f b,K2 ex f=Z b->∃fn,P.funcs[f]? =Z fn/\(fn.name== "runtime.NumGoroutine")=I/\fn.body=wL/\(xeE fn).isNone=wF/\
 (b=wF->xeW fn=Z (λargs=>do
  let(x,y,c)<-xbO "Add64" args
  pure (xbU ((x+y+c)%xaY)<|(x+y+c)/xaY)))/\
 (b=I->xeW fn=Z (λargs=>do
  let(x,y,b)<-xbO "Sub64" args
  pure (xbU ((x+xaY-y-b)%xaY) (if x<y+b then 1 else 0))))
section
variable{P:jp}{cf:Cf}{cx σ:Sg}{F:xS MF}{vs:wr->wN}{env:y8}{S:wr->Prop}{w:wP}{R:Type}{r:R}
 {d:ww Z9}{ty t yt:wT}{pos:String}{aft:ul Edge}{g:ww (wr×wW)}{x y:v6}
def zoi{x y z:K}{k:N (K×Dv)->V R}(h:exU wF x y z k=Z r):z<=1/\∃p q:K,p=(x+y+z)%18446744073709551616/\q=(x+y+z)/18446744073709551616/\k [(1,.d .u p),(2,.d .u q)]=Z r:=by
 have⟨h1,h⟩:=u9 h;have⟨p,hp,h⟩:=xJ h;have⟨q,a,h⟩:=xJ h;exact⟨h1,p,q,hp,a,h⟩
def zo9{x y z:K}{k:N (K×Dv)->V R}(h:exU I x y z k=Z r):z<=1/\∃p q:K,p=(x+18446744073709551616-y-z)%18446744073709551616/\q=(if x<y+z then 1 else 0)/\k [(1,.d .u p),(2,.d .u q)]=Z r:=by
 have⟨h1,h⟩:=u9 h;have⟨p,hp,h⟩:=xJ h;have⟨q,a,h⟩:=xJ h;exact⟨h1,p,q,hp,a,h⟩
def nh(l:∀s∈cf.cs,xt P s):∀{dom:N AM}{xs:N v6}{cs:N PD}{k:cF dom->V R},VP cf cx σ dom xs cs k=Z r->
 ∃z,k z=Z r/\X xs+X cs=X dom/\∀vs env S w,(∀x∈xs,YV P vs env S w cx σ x)->∀a:N wN,X a=X cs->zE S (Iv cs a) w->zE S (Zo P dom z<|xs.map (ev env)++a) w
 |[],[],[],k,h=>⟨(),h,O,λ_ _ _ _ _ _ _ _=>wS⟩
 |.q t::dom,[],c::cs,k,h=>by
  simp only[VP]at h;have⟨e,h⟩:=yj h;subst e;have⟨z,h1,i,j⟩:=nh l h;refine⟨_,h1,by simp at i⊢;lia,λvs env S w hl a b hc=> ?_⟩
  cases a with
  |nil=>cases b
  |cons v a=>exact⟨hc.1,j vs env S w hl a (by simpa using b) hc.2⟩
 |.d t::dom,x::xs,cs,k,h=>by
  simp only[VP]at h;have⟨y,h,o⟩:=WM h;have⟨z,h1,i,j⟩:=nh l h;exact⟨_,h1,by simp at i⊢;lia,λvs env S w hl a b hc=>⟨o P vs env S w<|hl x<|FS,j vs env S w (λz m=>hl z<|UV _ m) a b hc⟩⟩
 |.q t::dom,x::xs,cs,k,h=>by
  simp only[VP]at h;split at h
  ·next s y p=>
   have⟨e,h⟩:=yj h;subst e;have⟨z,h1,i,j⟩:=nh l h;exact⟨_,h1,by simp at i⊢;lia,λvs env S w hl a b hc=>⟨zj p<|hl x<|FS,j vs env S w (λz m=>hl z<|UV _ m) a b hc⟩⟩
  ·cases h
 |.fn n cod::dom,x::xs,cs,k,h=>by
  simp only[VP]at h;have⟨f,h,u⟩:=zft l h;have⟨z,h1,i,j⟩:=nh l h;refine⟨_,h1,by simp at i⊢;lia,λvs env S w hl a b hc=>⟨?_,j vs env S w (λz m=>hl z<|UV _ m) a b hc⟩⟩
  cases hv:xC cx σ x with
  |none=>rename_i h0;rw[hv]at h0;simp[asF]at h0
  |some v=>exact u vs S w v _ hv<|zj hv<|hl x<|FS
 |[],_::_,_,_,h=>by simp[VP]at h
 |[],[],_::_,_,h=>by simp[VP]at h
 |.d _::_,[],_,_,h=>by simp[VP]at h
 |.own _ _::_,_,_,_,h=>by simp[VP]at h
 |.fn _ _::_,[],_,_,h=>by simp[VP]at h
 |.q _::_,[],[],_,h=>by simp[VP]at h
def MG:∀{dom:N Ty}{xs:N v6}{k:mb dom->V R},BW cx σ dom xs k=Z r->
 ∃z,k z=Z r/\X xs=X dom/\∀(P:jp) vs env S w,(∀x∈xs,YV P vs env S w cx σ x)->zE S (tsF dom z<|xs.map<|ev env) w
 |[],[],k,h=>⟨(),h,O,λ_ _ _ _ _ _=>wS⟩
 |t::dom,x::xs,k,h=>by
  simp only[BW]at h;have⟨y,h,a⟩:=WM h;have⟨z,h1,b,c⟩:=MG h;exact⟨_,h1,by simp[b],λP vs env S w hl=>⟨a P vs env S w<|hl x<|FS,c P vs env S w<|λz e=>hl z<|UV _ e⟩⟩
 |[],_::_,_,h=>by simp[BW]at h
 |_::_,[],_,h=>by simp[BW]at h
def zk8(E:∀s∈cf.cs,xt P s)(Y:lv P cf.ex){f:v6}{a:ul v6}{ts:ul wT}{k:N (K×Dv)->V R}(h:zfP cf cx σ f a.toList k=Z r):
 ∃l,k l=Z r/\ES P ⟨d,.call ⟨.value f,a,ts⟩,ty,pos,aft,g⟩ cx σ F l:=by
 have G:∀{vs env S w},(∀A∈yI (.call ⟨.value f,a,ts⟩),Lk P vs env S w cx σ A)->YV P vs env S w cx σ f:=λhl=>yE hl (by simp[xaC,xeu]);have i:∀{vs env S w},(∀A∈yI (.call ⟨.value f,a,ts⟩),Lk P vs env S w cx σ A)->∀x∈a.toList,YV P vs env S w cx σ x:=λhl x u=>yE hl (by simp only[xaC,xeu,Array.toList_append,So];exact .inr u);unfold zfP at h;split at h
 ·next f0 cs hc=>
  split at h
  ·next s hs=>
   have⟨h1,H,h3,h4,J⟩:=A1 hs;have L:=E s h1;have⟨z,h,hd,m⟩:=nh E h;have⟨q,c,h⟩:=r8 h;refine⟨_,h,uf λenv w S vs hM hl=> ?_⟩;have⟨j,hv,ht,hu⟩:=zj hc<|G hl;have v:=iV L h3 h4 J c (us:=a.toList.map (ev env)++j) (by simp at hd⊢;lia);rw[H]at v;refine⟨_,_,_,_,Zo P s.dom z<|a.toList.map (ev env)++j,[],pE (asv:=a.toList) (H▸L.1) hv v O<|λS w h=>h,wS,m vs env S w (i hl) j ht hu,λus w' B hn=> ?_⟩;unfold zi0;rw[H2 J,NC];exact BE hn<|by simpa using B
  ·split at h
   ·next _ _ _ b x y z C hD=>
    obtain rfl:a= #[x,y,z]:=by cases a;simp_all
    have⟨hw,h⟩:=z8 h
    cases f with
    |func f1=>
     simp only[xC,xar,Dv.fn.injEq]at hc;obtain⟨rfl,_⟩:=hc;have⟨fn,e1,M,Q,T,e5,e6⟩:=Y _ _ C;unfold exD at h;split at h
     ·next x' y' z' u U m=>
      cases b
      ·have⟨n,p,q,hp,c,h⟩:=zo9 h;refine⟨_,h,zG λenv w S vs hl=> ?_⟩;have hi:=wv u (i hl x gT);have o:=wv U (i hl y gT);have D:=wv m (i hl z gT);refine⟨_,v_2 (zjT e1 M Q T (e6 O) hi.1 o.1 D.1 n) hp c w,λe he=> ?_⟩;obtain rfl|he:=xaa.1 he
       ·exact⟨_,_,O,O,jz<|W8 hp⟩
       ·obtain rfl:=xad.1 he;exact⟨_,_,O,O,jz<|zhM hi.2 o.2 n c⟩
      ·have⟨n,p,q,hp,c,h⟩:=zoi h;refine⟨_,h,zG λenv w S vs hl=> ?_⟩;have hi:=wv u (i hl x gT);have o:=wv U (i hl y gT);have D:=wv m (i hl z gT);refine⟨_,v_2 (zju e1 M Q T (e5 O) hi.1 o.1 D.1 n) hp c w,λe he=> ?_⟩;obtain rfl|he:=xaa.1 he
       ·exact⟨_,_,O,O,jz<|W8 hp⟩
       ·obtain rfl:=xad.1 he;exact⟨_,_,O,O,jz<|ziO hi.2 o.2 n c⟩
     ·cases h
    |_=>simp[zoj]at hw
   ·cases h
 ·next dom cod g' hc=>
  have⟨z,h,hd,m⟩:=MG h;have⟨q,c,h⟩:=r8 h;refine⟨_,h,uf λenv w S vs hM hl=> ?_⟩;have⟨a0,UU,FG,hv,⟨C,hA⟩,hB⟩:=zj hc<|G hl;have v:=hA z q c (a.toList.map<|ev env) (by simpa using hd);exact⟨_,_,_,_,tsF dom z (a.toList.map<|ev env)++FG,[],pE (asv:=a.toList) C hv v O<|λS w h=>h,wS,zE.append (m P vs env S w<|i hl) hB,λus w' B hn=>BE hn B⟩
 ·cases h
def zm5(a:yZ P cf.tt)(c:ug P cf.tt)(f:∀s∈cf.cs,xt P s)(i:lv P cf.ex){e:Op}{k:N (K×Dv)->V R}(h:zk2 cf cx σ e k=Z r):∃l,k l=Z r/\ES P ⟨d,e,ty,pos,aft,g⟩ cx σ F l:=by
 unfold zk2 at h;split at h
 ·exact zhp (.inl O) h
 ·exact zhp (.inr O) h
 ·exact znm h
 ·exact zm6 h
 ·exact zok h
 ·exact znj h
 ·next j t x y yt=>
  cases hn:zjw (xC cx σ y)<;>rw[hn]at h
  ·exact bop h<|zib a
  ·have⟨hp,h⟩:=z8 h;exact zpX a hp hn h
 ·exact znv h
 ·exact zop a h
 ·exact zms a h
 ·exact ziX a c h
 ·exact zin a h
 ·exact zfZ a h
 ·exact zjE a c h
 ·exact zny a h
 ·exact zo8 h
 ·exact zjN a h
 ·exact zpf a c h
 ·exact znF h
 ·exact zpg a h
 ·exact znX (b:=wF) h
 ·exact znX (b:=I) h
 ·exact zk8 f i h
 ·cases h
end
end
section
def Ss(P:jp)(s:PF):Prop:=
 Ep P s.f=wF/\∀(x:mb s.dom) (vs:N wN),X vs=X s.dom->Fn P s.f vs.toArray (tsF s.dom x vs) (λv:wN=>v) (λv=>[zmU s.g (s.mc x) v]) (λ_=>XS)
def Sa(P:jp)(s:Ck):Prop:=
 Ep P s.f=wF/\∀xss ix r a p lo n b,s.M xss ix r a p lo n=Z b->∀(u c hv:wN),(xM u)[r]? =Z c->MI (yA u) lo n hv->Jx a->Jx p->
  ∀we Se F G w,St we Se (th s.t.rep s.E s.E1 u xss ix::F) G w->Us P s.f #[c,.int .i64 a,.int .i64 p,hv] w λe w'=>∃v d,e=.returned v/\yA d=yA u/\St we Se (th s.t.rep s.E s.E1 d b ix::F) G w'
def zfX(P:jp)(s:E5):Prop:=
 Ep P s.f=wF/\∀(x:cF s.dom) (X Y:Type) (a:X->wN->MF) (b:Y->wN->MF) (g:N s.t.D->X->V (N s.t.D×(X⊕Y))) (x0:X) (r:X⊕Y),s.M x g x0=Z r->∀(l:K) (vs:N wN),i0 vs=i0 s.dom->Oh P l s.t.rep s.E a b g->
  ∀u we Se F G w,St we Se (a x0 u::F) (Zo P s.dom x vs++G) w->Us P s.f (.func (.yield l) #[] #[]::vs).toArray w λe w'=>(∃v,e=.returned v)/\∃c,St we Se (xfB (λx=>a x c) (λy=>b y c) r::F) G w'
structure En(P:jp)(cf:Cf):Prop where
 ex:lv P cf.ex
 cl:∀s∈cf.cl,Ss P s
 ms:∀s∈cf.ms,Sa P s
 is:∀s∈cf.is,zfX P s
 pp:P=Tryz.prog
section
variable{P:jp}{cf:Cf}{cx σ:Sg}{F:xS MF}{vs:wr->wN}{env:y8}{S:wr->Prop}{w:wP}{R:Type}{r:R}
 {d:ww Z9}{ty t yt:wT}{pos:String}{aft:ul Edge}{g:ww (wr×wW)}{x y:v6}
def zdZ{f:Z5}:∀{l:N Ck}{s:Ck},zdF l f=Z s->s∈l/\s.f=f
 |c::l,s,h=>by
  unfold zdF at h;cases a:E c.f f<;>rw[a]at h
  ·have⟨h1,b⟩:=zdZ h;exact⟨UV _ h1,b⟩
  ·simp only[Z0,xar]at h;subst h;exact⟨FS,zO a⟩
def zgU{f:Z5}:∀{l:N PF}{s:PF},zf3 l f=Z s->s∈l/\s.f=f
 |c::l,s,h=>by
  unfold zf3 at h;cases a:E c.f f<;>rw[a]at h
  ·have⟨h1,b⟩:=zgU h;exact⟨UV _ h1,b⟩
  ·simp only[Z0,xar]at h;subst h;exact⟨FS,zO a⟩
def zd4{f:Z5}:∀{l:N E5}{s:E5},zi3 l f=Z s->s∈l/\s.f=f
 |c::l,s,h=>by
  unfold zi3 at h;cases a:E c.f f<;>rw[a]at h
  ·have⟨h1,b⟩:=zd4 h;exact⟨UV _ h1,b⟩
  ·simp only[Z0,xar]at h;subst h;exact⟨FS,zO a⟩
def HS{α:Type}{e:zV α}{E E1:wT}{u:wN}{xss:N (N α)}{ix:N K}(h:(th e E E1 u xss ix).p S w):X (xM u)=X xss/\(mO (ZM<|xM u) E (yA u) ix).p S w/\yL S (vb e E1 (xM u) xss) w:=⟨h.1.1,h.1.2.1,h.1.2.2⟩
def si{α:Type}{e:zV α}{E E1:wT}{u v:wN}{xss:N (N α)}{ix:N K}{r:K}(h:(th e E E1 u xss ix).p S w)(a:(xM u)[r]? =Z v):(mO e E1 v<|kU xss r).p S w/\r<X xss:=by
 have⟨h1,_,b⟩:=HS h;have hl:=(xaq.1 a).1;have c:xss[r]? =Z (kU xss r):=by
  unfold kU;rw[H1,xah W];rfl
 exact⟨yL.get b<|QC a c,W⟩
def zf4(q:yZ P cf.tt)(H:ug P cf.tt){k:N (K×Dv)->V R}(h:IL cf cx σ t x y k=Z r):∃l,k l=Z r/\ES P ⟨d,.indexAddr t x y,ty,pos,aft,g⟩ cx σ F l:=by
 have J:∀{vs env S w},(∀L∈yI (.indexAddr t x y),Lk P vs env S w cx σ L)->YV P vs env S w cx σ x:=λhl=>yE hl (by simp[xaC]);have M:∀{vs env S w},(∀L∈yI (.indexAddr t x y),Lk P vs env S w cx σ L)->YV P vs env S w cx σ y:=λhl=>yE hl (by simp[xaC]);unfold IL at h;split at h
 ·next e E B o f u=>
  split at h
  ·next s A E1 xss ix C=>
   have⟨bytes,i,hc⟩:=JI q H f;have⟨j,a,h,hd⟩:=Rn h;refine⟨_,h,?_⟩;intro env w S vs T D hl;have⟨ik,v⟩:=hd P vs env S w<|M hl;have Q:(th s.rep A E1 (vs o) xss ix).p S w:=Zt D C;have⟨b,cap,hv,_⟩:=Uj (HS Q).2.1<|xaK (xai _) a;have G:ev env x=yA (vs o):=zj u<|J hl;exact uB.of_value (AW (vR q f) hc (G.trans hv) v a w) ⟨yw.refl _ _,zp ⟨b,_,_,hv,a,O⟩⟩
  ·cases h
 ·next e E B o lo n f u=>
  split at h
  ·next s A E1 xss ix C=>
   have⟨bytes,i,hc⟩:=JI q H f;have⟨j,a,h,hd⟩:=Rn h;refine⟨_,h,?_⟩;intro env w S vs T D hl;have⟨ik,v⟩:=hd P vs env S w<|M hl;rcases(zj u (J hl):MI _ _ _ _).old with⟨b,m,cap,c,q1,q2,q3,q4,U⟩|⟨q1,_⟩
   ·refine uB.of_value (AW (vR q f) hc U v a w) ⟨yw.refl _ _,zp ⟨b,_,_,q1,W,?_⟩⟩;show Value.pointer (Z ⟨b,0+lo*1+j*1,wL⟩)=Value.pointer (Z ⟨b,0+(lo+j)*1,wL⟩);rw[xbb,xcU]
   ·lia
  ·cases h
 ·next e E B o p f u=>
  split at h
  ·next s A E1 xss ix C=>
   have⟨Y,h1⟩:=yj h;cases Y;have⟨bytes,i,hc⟩:=JI q H f;have⟨j,a,h,hd⟩:=Rn h1;refine⟨_,h,?_⟩;intro env w S vs T D hl;have⟨ik,v⟩:=hd P vs env S w<|M hl;have Q:(th e.rep A E1 (vs o) xss ix).p S w:=Zt D C;have G:(xM<|vs o)[p]? =Z (ev env x):=zj u<|J hl;have⟨b,cap,hv,_⟩:=Uj (si Q G).1<|xaK (xai _) a;refine uB.of_value (AW (vR q f) hc hv v a w) ⟨yw.refl _ _,zp ⟨λz=>Sub.self e.rep z,b,_,_,by rw[<-hv];exact G,a,by simp[Fl.self]⟩⟩
  ·cases h
 ·cases h
def zqb{α β:Type}{q:Prop}{e:zV α}{E off:K}{nl:α->α}{s:zV β}{E1:wT}{u:wN}{z:α}{xs:N β}(h:(mVr q e E off nl s E1 u z xs).p S w):
 X (xM u)=1/\q/\∃b,yA u=.pointer (Z ⟨b,0,wL⟩)/\(mB (aX e off nl<|xM u) E b (z,0)).p S w:=⟨h.1.1.1,h.1.1.2,h.1.2.1⟩
def zp2{α:Type}{q:Prop}{e:zV α}{E off:K}{nl:α->α}{u:wN}{z:α}(h:(mVh q e E off nl u z).p S w):
 X (xM u)=1/\q/\∃b,yA u=.pointer (Z ⟨b,0,wL⟩)/\(mB (aX e off nl<|xM u) E b (z,0)).p S w:=⟨h.1.1.1,h.1.1.2,h.1.2.1⟩
def zbn{n i j:K}{s:Ty}{k:Fl s.D->V R}(h:zfV n s i j k=Z r):i≠j/\∃f,xh n s i=Z f/\k f=Z r:=by
 have⟨h1,h⟩:=z8 h;split at h
 ·next f a=>
  refine⟨λe=> ?_,f,a,h⟩;subst e;simp at h1
 ·cases h
def zeh{o:K}{s a:Ty}{E E1 n j:K}{z:s.D}{Y:Od}(e:Ve cx σ o=Z Y)(f:(∃xs,Y=.vr s E a E1 n j z xs)\/Y=.vh s E a E1 n j z)(h:yL S (MS vs σ.ob++(MS vs cx.ob++F)) w):
 vrP a (xh n s j)/\∃b,yA (vs o)=.pointer (Z ⟨b,0,wL⟩)/\(mB (aX s.rep (YS<|xh n s j) (uh a (xh n s j) [])<|xM<|vs o) E b (z,0)).p S w:=by
 have c:=Zt h e;rcases f with⟨xs,rfl⟩|rfl
 ·exact(zqb c).2
 ·exact(zp2 c).2
def zbe(A:yZ P cf.tt){a:TI}{o:K}{s c:Ty}{E E1 n i j:K}{f:Fl s.D}{z:s.D}{Y:Od}{k:N (K×Dv)->V R}(B:ZG cf t=Z a)(hd:xC cx σ x=Z (.vf o s n i))(C:Ve cx σ o=Z Y)
 (G:(∃xs,Y=.vr s E c E1 n j z xs)\/Y=.vh s E c E1 n j z) (H:i≠j) (e:xh n s i=Z f) (h:(Ty.cast f.f a.ty (f.get z) λy=>k [(0,.d a.ty y)])=Z r):
 ∃l,k l=Z r/\ES P ⟨d,.load t x,ty,pos,aft,g⟩ cx σ F l:=by
 have⟨m,h⟩:=yj h;have⟨p,J,_⟩:=Yt A B;have hc:=e;have⟨off,T,U,st⟩:=f;simp only at m;subst m;refine⟨_,h,uf λenv w S vs L hl=> ?_⟩;have⟨hi,b,h1,M⟩:=zeh C G L;have⟨b',f',q,v,Q⟩:=zj hd (yE hl<|by simp[xaC]);rw[h1]at q;cases q;rw[hc]at v;cases v;exact⟨_,_,_,_,[],[mB (aX s.rep (YS<|xh n s j) (uh c (xh n s j) [])<|xM<|vs o) E b (z,0)],WX 0 O (Q.trans<|by rw[xaJ]) (za8 hi hc H) J,⟨M,wS⟩,wS,λu w' _ e=>zp e.1⟩
def zgg(A:yZ P cf.tt){i:K}{k:N (K×Dv)->V R}(h:HI cf cx σ t x i k=Z r):∃l,k l=Z r/\ES P ⟨d,.fieldAddr t x i,ty,pos,aft,g⟩ cx σ F l:=by
 have C:∀{vs env S w},(∀G∈yI (.fieldAddr t x i),Lk P vs env S w cx σ G)->YV P vs env S w cx σ x:=λhl=>yE hl<|by simp[xaC]
 have c:∀{o E E1 n j:K}{s p:Ty}{z:s.D}{Y:Od}{B:K},ZG cf t=Z ⟨s,.st n,B⟩->xC cx σ x=Z (.mw o)->Ve cx σ o=Z Y->((∃xs,Y=.vr s E p E1 n j z xs)\/Y=.vh s E p E1 n j z)->(xh n s i).isSome=wF->k [(0,.vf o s n i)]=Z r->
  ∃l,k l=Z r/\ES P ⟨d,.fieldAddr t x i,ty,pos,aft,g⟩ cx σ F l:=λq u m H v h=>by
  have⟨f,v⟩:=Option.isSome_iff_exists.1 v;refine⟨_,h,?_⟩;intro env w S vs M J hl;have⟨_,b,h1,_⟩:=zeh m H J;have hc:ev env x=yA (vs _):=zj u<|C hl;exact uB.of_value (ot (ND A q v) (hc.trans h1) w) ⟨yw.refl _ _,zp ⟨b,f,h1,v,O⟩⟩
 unfold HI at h;split at h
 ·next e n B o q u=>
  split at h
  ·next s E p E1 L j z xs m=>
   have⟨a,h⟩:=z8 h;rw[xab,xab]at a;obtain rfl:=zO a.1.1;obtain rfl:=QZ a.1.2;exact c q u m (.inl ⟨_,O⟩) a.2 h
  ·next s E p E1 L j z m=>
   have⟨a,h⟩:=z8 h;rw[xab,xab]at a;obtain rfl:=zO a.1.1;obtain rfl:=QZ a.1.2;exact c q u m (.inr O) a.2 h
  ·cases h
 ·cases h
def zi2(J:yZ P cf.tt){k:N (K×Dv)->V R}(h:Sk cf cx σ t x k=Z r):∃l,k l=Z r/\ES P ⟨d,.load t x,ty,pos,aft,g⟩ cx σ F l:=by
 have hx:∀{vs env S w},(∀t'∈yI (.load t x),Lk P vs env S w cx σ t')->YV P vs env S w cx σ x:=λhl=>yE hl (by simp[xaC]);unfold Sk at h;split at h
 ·next e E B o j ht G=>
  split at h
  ·next s L E1 xss ix v=>
   have⟨H,hi,_⟩:=Yt J ht;have⟨q,T,h⟩:=xJ h;refine⟨_,h,uf λenv w S vs U hl=> ?_⟩;have Y:(th s.rep L E1 (vs o) xss ix).p S w:=Zt U v;have⟨b,m,c,h1,M,h3⟩:=zj G<|hx hl;have⟨a1,a2,a3⟩:=HS Y;have hn:m=X ix:=by
    have⟨cs,h5,h6⟩:=a2;rcases h5.2 with⟨hv,h7⟩|⟨g',a,a0,hv,_⟩
    ·rw[h1]at hv;cases hv
    ·rw[h1]at hv;cases hv;rfl
   have⟨b',a,hv,hb⟩:=Uj a2 W;rw[h1]at hv;cases hv;have hc:=Sub.rowT0 (ZM<|xM<|vs o) c ix j (ix.getD j 0)<|getD_some 0 M;exact⟨_,_,_,_,[],[mB (rowT (ZM<|xM<|vs o) c) L b ix],WX 0 O h3 hc hi,⟨hb,wS⟩,wS,λu w' _ A=>zp (by
    have:=ze4 A.1;rw[<-T]at this;exact this)⟩
  ·cases h
 ·next ti o e p j f hd G=>
  split at h
  ·next s L E1 xss ix v=>
   have⟨Q,h1⟩:=yj h;cases Q;have⟨q,T,M⟩:=xJ h1;have⟨Q,h⟩:=yj M;have⟨H,hi,_⟩:=Yt J hd;have⟨off,ff,gt,st⟩:=f;simp only at Q;subst Q;refine⟨_,h,uf λenv w S vs U hl=> ?_⟩;have Y:(th e.rep L E1 (vs o) xss ix).p S w:=Zt U v;have⟨h0,b,m,cap,h1,M,h3⟩:=zj G<|hx hl;have hr:=(si Y h1).1;have hn:m=X (kU (α:=e.D) xss p):=by
    have⟨cs,h5,h6⟩:=hr;rcases h5.2 with⟨hv,h7⟩|⟨g',a,a0,hv,_⟩
    ·cases hv
    ·cases hv;rfl
   have⟨b',a,hv,hb⟩:=Uj hr W;cases hv;have hc:=(Sub.rowT0 e.rep cap (kU (α:=e.D) xss p) j ((kU (α:=e.D) xss p).getD j e.z)<|getD_some e.z W).comp<|h0<|(kU (α:=e.D) xss p).getD j e.z;subst T;exact⟨_,_,_,_,[],[mB (rowT e.rep cap) E1 b<|kU (α:=e.D) xss p],WX 0 O h3 hc hi,⟨hb,wS⟩,wS,λu w' _ A=>zp A.1⟩
  ·cases h
 ·next ti o s0 n0 i hd G=>
  split at h
  ·next s E s1 E1 n j z xs v=>
   have⟨C,h⟩:=z8 h;rw[xab]at C;obtain rfl:=zO C.1;obtain rfl:=QZ C.2;have⟨hj,f,A,h⟩:=zbn h;exact zbe J hd G v (.inl ⟨_,O⟩) hj A h
  ·next s E s1 E1 n j z v=>
   have⟨C,h⟩:=z8 h;rw[xab]at C;obtain rfl:=zO C.1;obtain rfl:=QZ C.2;have⟨hj,f,A,h⟩:=zbn h;exact zbe J hd G v (.inr O) hj A h
  ·cases h
 ·cases h
def zgC(H:yZ P cf.tt)(hL:ug P cf.tt){lo hi:V v6}{k:N (K×Dv)->V R}(h:HQ cf cx σ t x lo hi k=Z r):∃l,k l=Z r/\ES P ⟨d,.slice t x lo hi wL,ty,pos,aft,g⟩ cx σ F l:=by
 have hx:∀{vs env S w},(∀C∈yI (.slice t x lo hi wL),Lk P vs env S w cx σ C)->YV P vs env S w cx σ x:=λhl=>yE hl (by simp[xaC]);have hc:∀{vs env S w z},lo=Z z->(∀C∈yI (.slice t x lo hi wL),Lk P vs env S w cx σ C)->YV P vs env S w cx σ z:=λe hl=>yE hl (by simp[xaC,e]);have hd:∀{vs env S w z},hi=Z z->(∀C∈yI (.slice t x lo hi wL),Lk P vs env S w cx σ C)->YV P vs env S w cx σ z:=λe hl=>yE hl (by simp[xaC,e]);unfold HQ at h;split at h
 ·next e E B o L hn=>
  split at h
  ·next s E' E1 xss ix ho=>
   have⟨bytes,T,U⟩:=JI H hL L
   have u:∀(l m:K),l<=m->m<=X ix->k [(0,.mv o l<|m-l)]=Z r->(∀vs env S w,(∀C∈yI (.slice t x lo hi wL),Lk P vs env S w cx σ C)->((lo.map<|ev env)=Z (.int .i64 (l:J))\/(lo=wL/\l=0))/\((hi.map<|ev env)=Z (.int .i64 (m:J))\/(hi=wL/\m=X ix)))->
    ∃l,k l=Z r/\ES P ⟨d,.slice t x lo hi wL,ty,pos,aft,g⟩ cx σ F l:=by
    intro l m h1 j h5 h4;refine⟨_,h5,λenv w S vs hS hM hl=> ?_⟩;have⟨Y,M⟩:=h4 vs env S w hl;have hf:ev env x=yA (vs o):=zj hn<|hx hl;have hm:(th s.rep E' E1 (vs o) xss ix).p S w:=Zt hM ho;rcases dk (HS hm).2.1 with⟨hv,hg⟩|⟨b,cap,hv,hj,hp⟩
    ·rw[hg]at j M;obtain rfl:m=0:=Nat.le_zero.1 j;obtain rfl:l=0:=Nat.le_zero.1 h1;have G:=HX (P:=P) (w:=w) (vR H L) U (Y.imp id λq=>by rw[q.1];rfl) (M.imp id λq=>by rw[q.1];rfl);refine uB.of_value (v:=.slice wL 0 0) (w':=w) (by simp[jP,hf.trans hv,G]) ⟨yw.refl _ _,zp (.inr ⟨hv,O,O,O⟩)⟩
    ·have G:=Eg (P:=P) (b:=b) (o:=0) (n:=X ix) (cap:=cap) (w:=w) (l:=l) (h:=m) (vR H L) U (Y.imp id λq=>⟨by rw[q.1];rfl,q.2⟩) (M.imp id λq=>⟨by rw[q.1];rfl,q.2⟩) h1<|xal j hj;rw[<-hv,<-hf]at G;refine uB.of_value (v:=.slice (if cap=l then Z ⟨b,0,wL⟩else Z ((⟨b,0,wL⟩:JP).add<|l*1)) (m-l)<|cap-l) (w':=w) (by simp[jP,G,Ty.rep,eS]) ⟨yw.refl _ _,zp ?_⟩;exact .inl ⟨b,X ix,cap,hv,W,hj,W,by rw[qE]⟩
   rcases K4 h with⟨e1,h1⟩|⟨zl,l,e1,h1,hk⟩
   ·rcases K4 h1 with⟨A,j⟩|⟨zh,m,A,j,Q⟩
    ·have⟨a,c,q1,q2,D,f,i⟩:=Il j;exact u a c q1 q2 D λvs env S w hl=>⟨.inr ⟨e1,(f.resolve_left gT).2⟩,.inr ⟨A,(i.resolve_left gT).2⟩⟩
    ·have⟨a,c,q1,q2,D,f,i⟩:=Il j;obtain i|⟨i,_⟩:=i
     ·cases i;exact u a m q1 q2 D λvs env S w hl=>⟨.inr ⟨e1,(f.resolve_left gT).2⟩,.inl<|by rw[A];exact kW Z<|Q P vs env S w<|hd A hl⟩
     ·cases i
   ·rcases K4 h1 with⟨A,j⟩|⟨zh,m,A,j,Q⟩
    ·have⟨a,c,q1,q2,D,f,i⟩:=Il j;obtain f|⟨f,_⟩:=f
     ·cases f;exact u l c q1 q2 D λvs env S w hl=>⟨.inl (by rw[e1];exact kW Z<|hk P vs env S w<|hc e1 hl),.inr ⟨A,(i.resolve_left gT).2⟩⟩
     ·cases f
    ·have⟨a,c,q1,q2,D,f,i⟩:=Il j;obtain f|⟨f,_⟩:=f
     ·obtain i|⟨i,_⟩:=i
      ·cases f;cases i;exact u l m q1 q2 D λvs env S w hl=>⟨.inl (by rw[e1];exact kW Z<|hk P vs env S w<|hc e1 hl),.inl<|by rw[A];exact kW Z<|Q P vs env S w<|hd A hl⟩
      ·cases i
     ·cases f
  ·cases h
 ·cases h
def zls(q:yZ P cf.tt){a:ul v6}{ts:ul wT}{k:N (K×Dv)->V R}(h:zdy cf cx σ a.toList ts.toList k=Z r):
 ∃l,k l=Z r/\ES P ⟨d,.call ⟨.builtin .len,a,ts⟩,ty,pos,aft,g⟩ cx σ F l:=by
 unfold zdy at h;split at h
 ·next _ _ x t hd M=>
  obtain rfl:a= #[x]:=by cases a;simp_all
  obtain rfl:ts= #[t]:=by cases ts;simp_all
  have z:∀{vs env S w},(∀H∈yI (.call ⟨.builtin .len,#[x],#[t]⟩),Lk P vs env S w cx σ H)->YV P vs env S w cx σ x:=λhl=>yE hl (by simp[xaC,xeu]);split at h
  ·next e E B o f i=>
   split at h
   ·next s j E1 xss ix v=>
    refine⟨_,h,uf λenv w S vs A hl=> ?_⟩;have C:(th s.rep j E1 (vs o) xss ix).p S w:=Zt A v;exact⟨_,_,_,_,[],[mO (ZM<|xM<|vs o) j (yA<|vs o) ix],H3 0 O (vR q f)<|zj i<|z hl,⟨(HS C).2.1,wS⟩,wS,λu w' D J=>zp<|wz<|MN D⟩
   ·cases h
  ·next e E B o lo n f i=>
   split at h
   ·next s j E1 xss ix v=>
    refine⟨_,h,zG λenv w S vs hl=> ?_⟩;rcases(zj i (z hl):MI _ _ _ _).old with⟨b,m,cap,c,q1,q2,G,Q,L⟩|⟨q1,T,c,q2,G⟩
    ·exact⟨_,P3 (vR q f) L w,zp<|wz<|MN W⟩
    ·subst q1;exact⟨_,P3 (vR q f) G w,zp<|wz gS⟩
   ·cases h
  ·next e E B o p f i=>
   split at h
   ·next s j E1 xss ix v=>
    refine⟨_,h,uf λenv w S vs A hl=> ?_⟩;have C:(th s.rep j E1 (vs o) xss ix).p S w:=Zt A v;have hc:(xM<|vs o)[p]? =Z (ev env x):=zj i<|z hl;exact⟨_,_,_,_,[],[mO s.rep E1 (ev env x)<|kU xss p],H3 0 O (vR q f) O,⟨(si C hc).1,wS⟩,wS,λu w' D J=>zp<|wz<|MN D⟩
   ·cases h
  ·cases h
 ·cases h
def Tru:K->Prop:=λ_=>XS
def R7(f:FF)(h:f.p S w):f.p Tru w:=f.sub h λ_ _ _=>wS
def nS(B:∀s∈cf.cs,xt P s):∀{dom:N AM}{xs:N v6}{cs:N PD}{k:cF dom->V R},VV cf cx σ dom xs cs k=Z r->
 ∃z,k z=Z r/\X xs+X cs=X dom/\∀vs env S w,yL S (MS vs σ.ob++(MS vs cx.ob++F)) w->(∀x∈xs,YV P vs env S w cx σ x)->∀a:N wN,X a=X cs->zE S (Iv cs a) w->zE Tru (Zo P dom z<|xs.map (ev env)++a) w
 |[],[],[],k,h=>⟨(),h,O,λ_ _ _ _ _ _ _ _ _=>wS⟩
 |.q t::dom,[],c::cs,k,h=>by
  simp only[VV]at h;have⟨e,h⟩:=yj h;subst e;have⟨z,h1,l,u⟩:=nS B h;refine⟨_,h1,by simp at l⊢;lia,λvs env S w i hl a j hc=> ?_⟩
  cases a with
  |nil=>cases j
  |cons v a=>exact⟨R7 _ hc.1,u vs env S w i hl a (by simpa using j) hc.2⟩
 |.d t::dom,x::xs,cs,k,h=>by
  simp only[VV]at h;split at h
  ·next o lo n hd=>
   split at h
   ·next s E E1 xss ix J=>
    have⟨e,h⟩:=yj h;subst e;have⟨z,h1,l,u⟩:=nS B h;refine⟨_,h1,by simp at l⊢;lia,λvs env S w i hl a j hc=>⟨?_,u vs env S w i (λz C=>hl z<|UV _ C) a j hc⟩⟩;have K:(th s.rep E E1 (vs o) xss ix).p S w:=Zt i J;have⟨L,M,a3⟩:=HS K;have Q:(mO (eS s.rep) E (yA<|vs o)<|zb8 xss ix).p Tru w:=by
     have⟨A,q1,q2⟩:=M;refine⟨A,by unfold zb8;rw[xbd];exact q1,?_⟩;exact rP L (λ_ _=>wS) (λ_ _ _ _=>wS) a3 q2
    show(fV (eS<|eS s.rep) (xdB n<|xdM lo<|zb8 xss ix)<|ev env x).p Tru w;rcases(zj hd (hl x<|FS):MI _ _ _ _).old with⟨b,m,cap,c,q1,q2,D,T,U⟩|⟨q1,G,c,q2,D⟩
    ·have:=Iw Q q1 q2 D T;rw[U];have⟨G,Y,p1,p2,p3,p4⟩:=this;refine xK.2 ⟨G,Y,p1,p2,p3,p4.imp id ?_⟩;rintro⟨b',o',A,r1,r2,r3⟩;exact⟨b',o',A,r1,wS,r2,r3⟩
    ·subst q1;rw[D];exact xK.2 ⟨G,c,gT,gT,by unfold WP;lia,.inl gT⟩
   ·cases h
  ·have⟨y,h,hy⟩:=WM h;have⟨z,h1,l,u⟩:=nS B h;exact⟨_,h1,by simp at l⊢;lia,λvs env S w i hl a j hc=>⟨R7 _<|hy P vs env S w<|hl x<|FS,u vs env S w i (λz C=>hl z<|UV _ C) a j hc⟩⟩
 |.fn H cod::dom,x::xs,cs,k,h=>by
  simp only[VV]at h;have⟨f,h,hf⟩:=zft B h;have⟨z,h1,l,u⟩:=nS B h;refine⟨_,h1,by simp at l⊢;lia,λvs env S w i hl a j hc=>⟨?_,u vs env S w i (λz C=>hl z<|UV _ C) a j hc⟩⟩
  cases hv:xC cx σ x with
  |none=>rename_i h0;rw[hv]at h0;simp[asF]at h0
  |some v=>exact R7 _<|hf vs S w v _ hv<|zj hv<|hl x<|FS
 |[],_::_,_,_,h=>by simp[VV]at h
 |[],[],_::_,_,h=>by simp[VV]at h
 |.d _::_,[],_,_,h=>by simp[VV]at h
 |.own _ _::_,_,_,_,h=>by simp[VV]at h
 |.q _::_,_::_,_,_,h=>by simp[VV]at h
 |.fn _ _::_,[],_,_,h=>by simp[VV]at h
 |.q _::_,[],[],_,h=>by simp[VV]at h
def Mf:∀{rs:N RM}{x:Gy (rs.map RM.ty)}{us:N wN},Ou rs=wF->zE Tru (csF (rs.map RM.ty) x us) w->zE S (csF (rs.map RM.ty) x us) w
 |[],_,_,_,_=>trivial
 |[.d .i],x,us,_,h=>⟨h.1,wS⟩
 |[.d .u],x,us,_,h=>⟨h.1,wS⟩
 |[.d .b],x,us,_,h=>⟨h.1,wS⟩
 |.d .i::n::r,x,us,a,h=>⟨h.1,Mf (rs:=n::r) (x:=x.2) a h.2⟩
 |.d .u::n::r,x,us,a,h=>⟨h.1,Mf (rs:=n::r) (x:=x.2) a h.2⟩
 |.d .b::n::r,x,us,a,h=>⟨h.1,Mf (rs:=n::r) (x:=x.2) a h.2⟩
def zje(p:∀s∈cf.cs,xt P s)(H:En P cf){f:v6}{a:ul v6}{ts:ul wT}{k:N (K×Dv)->V R}(h:Sb cf cx σ f a.toList k=Z r):
 ∃l,k l=Z r/\ES P ⟨d,.call ⟨.value f,a,ts⟩,ty,pos,aft,g⟩ cx σ F l:=by
 have u:∀{vs env S w},(∀i∈yI (.call ⟨.value f,a,ts⟩),Lk P vs env S w cx σ i)->YV P vs env S w cx σ f:=λhl=>yE hl (by simp[xaC,xeu]);have A:∀{vs env S w},(∀i∈yI (.call ⟨.value f,a,ts⟩),Lk P vs env S w cx σ i)->∀x∈a.toList,YV P vs env S w cx σ x:=λhl x j=>yE hl (by simp only[xaC,xeu,Array.toList_append,So];exact .inr j);unfold Sb at h;split at h
 ·next f0 cs B=>
  split at h
  ·next s m=>
   have⟨h1,c⟩:=zgU m;have⟨C,e⟩:=H.cl s h1;have⟨z,h,hd,n⟩:=MG h;refine⟨_,h,uf λenv w S vs D hl=> ?_⟩;have⟨b,hv,o,E⟩:=zj B<|u hl;obtain rfl:b=[]:=xbs.1 o;have hc:=e z (a.toList.map<|ev env) (by simpa using hd);rw[c]at hc C;rw[<-xbP<|a.toList.map<|ev env]at hc;exact⟨_,_,_,_,tsF s.dom z<|a.toList.map (ev env)++[],[],pE (asv:=a.toList) C hv hc O<|λS w h=>h,wS,by rw[xbP];exact n P vs env S w<|A hl,λv w' _ hi=>zp hi.1⟩
  ·split at h
   ·next s m=>
    have⟨h1,c,J,L,G⟩:=A1 m;have e:=p s h1;have⟨hn,h⟩:=z8 h;have⟨z,h,hd,n⟩:=nS (F:=F) p h;have⟨q,M,h⟩:=r8 h;refine⟨_,h,λenv w S vs U D hl=> ?_⟩;have⟨b,hv,o,E⟩:=zj B<|u hl;have hc:=iV e J L G M (us:=a.toList.map (ev env)++b) (by simp at hd⊢;lia);rw[c]at hc;have Q:=n vs env S w D (A hl) b o E;refine(pE (asv:=a.toList) (ms:=[]) (Γ:=Zo P s.dom z<|a.toList.map (ev env)++b) (c▸e.1) hv hc O (λS w h=>h) w Tru (λ_ _=>wS) wS Q).mono ?_;rintro v w' ⟨us,rfl,T,j,hi⟩;refine⟨j,?_⟩;unfold zi0;rw[H2 G,NC];exact BE (Mf hn hi)<|by simpa using T
   ·cases h
 ·cases h
def zp0(a:yZ P cf.tt)(b:ug P cf.tt)(e:∀s∈cf.cs,xt P s)(f:En P cf){c:Op}{k:N (K×Dv)->V R}(h:eCo cf cx σ c k=Z r):∃l,k l=Z r/\ES P ⟨d,c,ty,pos,aft,g⟩ cx σ F l:=by
 unfold eCo at h;split at h
 ·exact zi2 a h
 ·exact zf4 a b h
 ·exact zgg a h
 ·exact zgC a b h
 ·exact zls a h
 ·exact zje e f h
 ·cases h
def zgD(b:yZ P cf.tt)(c:ug P cf.tt)(e:∀s∈cf.cs,xt P s)(f:En P cf){a:Op}{k:N (K×Dv)->V R}(h:eOp cf cx σ a k=Z r):∃l,k l=Z r/\ES P ⟨d,a,ty,pos,aft,g⟩ cx σ F l:=by
 unfold eOp at h;cases hc:zoa cf cx σ a<;>rw[hc]at h
 ·exact zm5 b c e f.ex h
 ·exact zp0 b c e f h
end
end
section
section
variable{P:jp}{cf:Cf}{fr:Fr}{cx σ:Sg}{vs vs':wr->wN}{env:y8}{w:wP}{R:Type}{r:R}
 {d:ww Z9}{ty t yt:wT}{pos:String}{aft:ul Edge}{g:ww (wr×wW)}{x y:v6}
abbrev GS(P:jp)(vs:K->wN)(env:y8)(fr:Fr)(cx σ:Sg):N FF:=RS P vs env σ.rg++(RS P vs env cx.rg++fr.G)
abbrev OS(vs:K->wN)(fr:Fr)(cx:Sg)(ob:N (K×Od)):N MF:=MS vs ob++(MS vs cx.ob++fr.F)
def Xz{S:K->Prop}(h:zE S (GS P vs env fr cx σ) w)(t:Z9):Lk P vs env S w cx σ t:=by
 intro i dv hd;obtain hm|hm:=HF hd
 ·exact KP (zE.left h) hm
 ·exact KP (zE.left<|zE.right h) hm
def zU{S:K->Prop}(h:zE S (GS P vs env fr cx σ) w)(x:v6):YV P vs env S w cx σ x:=λt _=>Xz h t
def gf(P:jp)(fr:Fr)(cx σ:Sg)(vs:K->wN)(env:y8)(w:wP):Prop:=Bd cx σ/\St fr.we fr.Se (OS vs fr cx σ.ob) (GS P vs env fr cx σ) w
def lS(P:jp)(fr:Fr)(cx:Sg)(n:K)(vs:K->wN)(σ:Sg)(env:y8)(w:wP):Prop:=∃vs',(∀o,o<n->vs' o=vs o)/\gf P fr cx σ vs' env w
def lS.rel{n:K}(h:lS P fr cx n vs σ env w):Yn P fr cx σ env w:=by
 have⟨vs',_,h1,a⟩:=h;exact⟨h1,vs',a⟩
def Lq{v:wN}{σ':Sg}{l:N (K×Dv)}{Γl:N FF}(c:Bd cx σ)(hd:wA cx d=wF)(i:σ'.rg=vv σ.rg d l)(hn:σ.nx<=σ'.nx)(hi:∀o,o<σ.nx->vs' o=vs o)
 (hl:∀e∈l,∀o,va e.2=Z o->o<σ'.nx) (u:∀e∈σ'.ob,e.1<σ'.nx) (z:∀S w,zE S Γl w->∀e∈l,(wg P vs' e.2 v e.1).p S w)
 (A:St fr.we fr.Se (OS vs' fr cx σ'.ob) (Γl++GS P vs env fr cx σ) w):gf P fr cx σ' vs' (put env d v) w:=by
 refine⟨⟨u,λe he=>xao (c.o2 e he) hn,?_,λe he o a=>xao (c.r2 e he o a) hn⟩,A.weak λS w h=> ?_⟩
 ·intro e he o a;rw[i]at he;unfold vv at he
  cases d with
  |none=>exact xao (c.r1 e he o a) hn
  |some t=>
   obtain he|he:=So.1 he
   ·obtain⟨j,k,rfl⟩:=xat.1 he;exact hl j k o a
   ·exact xao (c.r1 e (xcj.1 he).1 o a) hn
 ·have b:=zE.right h;have h1:zE S (RS P vs' env σ.rg) w:=by rw[jD (λe he o a=>hi o<|c.r1 e he o a)<|λ_ _=>O];exact zE.left b
  have m:zE S (RS P vs' env cx.rg) w:=by rw[jD (λe he o a=>hi o<|c.r2 e he o a)<|λ_ _=>O];exact zE.left<|zE.right b
  have n:=zE.right<|zE.right b
  cases d with
  |none=>
   unfold GS;rw[show σ'.rg=σ.rg from i];exact zE.append h1<|zE.append m n
  |some t=>
   have hp:RS P vs' (put env (Z t) v) cx.rg=RS P vs' env cx.rg:=jD (λ_ _ _ _=>O) λe he=>lO λq=>by
    simp only[wA,Xx,xaN]at hd;have:=hd e he;simp only[xar]at q;rw[q]at this;simp at this
   unfold GS;rw[i,hp];refine zE.append (kX.2 λf B=> ?_)<|zE.append m n;obtain⟨e,he,rfl⟩:=xat.1 B;obtain he|he:=So.1 he
   ·obtain⟨j,k,rfl⟩:=xat.1 he;simp only[Df];exact z S w (zE.left h) j k
   ·have⟨C,s⟩:=xcj.1 he;have D:Z t≠Z e.1:=λhc=>by
     simp only[xar]at hc;rw[hc]at s;simp at s
    rw[lO D];exact KP h1 C
def Jn{v:wN}{σ':Sg}{l:N (K×Dv)}{Γl:N FF}(b:Bd cx σ)(hd:wA cx d=wF)(hc:σ'.rg=vv σ.rg d l)(hn:σ.nx<=σ'.nx)(a:∀o,o<σ.nx->vs' o=vs o)
 (hl:∀e∈l,∀o,va e.2=Z o->o<σ'.nx) (c:∀e∈σ'.ob,e.1<σ'.nx) (f:∀S w,zE S Γl w->∀e∈l,(wg P vs' e.2 v e.1).p S w)
 (h:St fr.we fr.Se (OS vs' fr cx σ'.ob) (Γl++GS P vs env fr cx σ) w):lS P fr cx σ.nx vs σ' (put env d v) w:=⟨vs',a,Lq b hd hc hn a hl c f h⟩
def zh9(P:jp)(vs:K->wN)(v:wN)(l:N (K×Dv)):N FF:=l.map λe=>wg P vs e.2 v e.1
def Gp{n:K}{l:N (K×Dv)}(h:okL n l=wF):∀e∈l,∀o,va e.2=Z o->o<n:=by
 intro e a o b;unfold okL at h;rw[xaN]at h;have:=h e a;rw[b]at this;have:=xbJ this;lia
def ES.mono{o:uS}{l:N (K×Dv)}{F:N MF}(h:ES P o cx σ [] l):ES P o cx σ F l:=by
 intro env w S vs h1 a b;refine h env w S vs h1 (ZE.2 λm hm=>ZE.1 a m ?_) b;obtain hm|hm:=So.1 hm
 ·exact So.2 (.inl hm)
 ·rw[xbP]at hm;exact So.2 (.inr<|So.2 (.inl hm))
def zkt{o:uS}{l:N (K×Dv)}(h:ES P o cx σ fr.F l)(hd:wA cx o.dst=wF)(hl:okL σ.nx l=wF)(q:gf P fr cx σ vs env w):uB P o env w (λv w'=>lS P fr cx σ.nx vs (σ.put o.dst l) (put env o.dst v) w'):=by
 have⟨j,h1,s,u,S,z,n,A,b,p⟩:=q;refine(h env w S vs n b λt _=>Xz p t).mono ?_;rintro v w' ⟨a,B⟩;refine Jn (σ':=σ.put o.dst l) (Γl:=zh9 P vs v l) j hd O (Nm _) (λ_ _=>O) (Gp hl) j.o1 (λS w C e c=>kX.1 C _<|xat.2 ⟨e,c,O⟩) ?_;refine⟨h1.trans a,s,u,S,z,λk D=>n k<|xal a.size D,A,yL.keep a.to (λm E i hi=>a.block i (yL.lt b m E i hi) wS) b,zE.append (kX.2 λf hc=> ?_)<|zE.keep a.to p⟩;obtain⟨e,c,rfl⟩:=xat.1 hc;exact B e c
def lY(P:jp)(cx:Sg)(o:uS)(σ:Sg)(k:Sg->V R)(r:R):Prop:=∃σ',k σ'=Z r/\σ.nx<=σ'.nx/\∀(fr:Fr) (vs:K->wN) (env:y8) (w:wP),gf P fr cx σ vs env w->uB P o env w (λv w'=>lS P fr cx σ.nx vs σ' (put env o.dst v) w')
def m_E(b:yZ P cf.tt)(c:ug P cf.tt)(e:∀s∈cf.cs,xt P s)(f:En P cf){a:Op}{k:Sg->V R}(hd:wA cx d=wF)(h:mE cf cx σ d a k=Z r):lY P cx ⟨d,a,ty,pos,aft,g⟩ σ k r:=by
 unfold mE at h;have⟨l,h,i⟩:=zgD (P:=P) (d:=d) (ty:=ty) (pos:=pos) (aft:=aft) (g:=g) (F:=[]) b c e f h;have⟨hl,h⟩:=z8 h;exact⟨_,h,Nm _,λfr vs env w j=>zkt i.mono hd hl j⟩
def Xu(vs:K->wN)(n:K)(v:wN):K->wN:=λo=>bif E o n then v else vs o
def wa{n:K}{v:wN}:Xu vs n v n=v:=by simp[Xu]
def j9{n o:K}{v:wN}(h:o<n):Xu vs n v o=vs o:=by unfold Xu;rw[Yb W];rfl
def zgM{n:K}{v:wN}{ob:N (K×Od)}(h:∀e∈ob,e.1<n):MS (Xu vs n v) ob=MS vs ob:=wE λe a=>j9<|h e a
def Ib{v:wN}{ob:N (K×Od)}(a:Bd cx σ)(h:∀e∈ob,e.1<σ.nx):OS (Xu vs σ.nx v) fr cx ob=OS vs fr cx ob:=by
 show MS _ ob++(MS _ cx.ob++_)=_;rw[zgM h,zgM a.o2]
def J9{v:wN}{mk:K->Dv}{X:Od}{ob:N (K×Od)}(b:Bd cx σ)(hd:wA cx d=wF)(c:∀e∈ob,e.1<σ.nx)(hc:∀o,va (mk o)=Z o)(f:∀S w,(vj P (Xu vs σ.nx v) (mk σ.nx) v).p S w)
 (h:St fr.we fr.Se (Jt (Xu vs σ.nx v) (σ.nx,X)::OS vs fr cx ob) (GS P vs env fr cx σ) w):lS P fr cx σ.nx vs ⟨σ.nx+1,vv σ.rg d [(0,mk σ.nx)],(σ.nx,X)::ob⟩ (put env d v) w:=by
 refine Jn (σ':=⟨σ.nx+1,vv σ.rg d [(0,mk σ.nx)],(σ.nx,X)::ob⟩) (vs:=vs) (vs':=Xu vs σ.nx v) (Γl:=[]) b hd O (xbN _) (λo a=>j9 a) ?_ ?_ ?_ ?_
 ·intro e he o a;obtain rfl:=xad.1 he;rw[hc]at a;cases a;exact xbS _
 ·intro e he;obtain rfl|he:=xaa.1 he
  ·exact xbS _
  ·exact xfw<|c e he
 ·intro S w _ e he;obtain rfl:=xad.1 he;exact f S w
 ·show St _ _ (Jt (Xu vs σ.nx v) (σ.nx,X)::OS (Xu vs σ.nx v) fr cx ob) _ _;rw[Ib b c];exact h
def JW{v:wN}(S:K->Prop)(w:wP):(vj P (Xu vs σ.nx v) (.ow σ.nx) v).p S w:=(wa (vs:=vs)).symm
def Oe{t:Ty}{b:K}(S:K->Prop)(w:wP):(vj P (Xu vs σ.nx (.pointer<|some ⟨b,0,wL⟩)) (.vs σ.nx t) (.pointer<|some ⟨b,0,wL⟩)).p S w:=⟨wa.symm,b,wa⟩
def Kj{t:Ty}{E:wT}{xs:N t.D}{n:K}{v:wN}:Jt (Xu vs n v) (n,.own t E xs)=mO t.rep E v xs:=by simp only[Jt,wa]
def L5{t:Ty}{E:wT}{z:t.D}{n:K}{v:wN}:Jt (Xu vs n v) (n,.var t E z)=mP t.rep.c E v z:=by simp only[Jt,wa]
def zic(j:yZ P cf.tt){E:wT}{k:Sg->V R}(hd:wA cx d=wF)(h:SI cf σ d E k=Z r):lY P cx ⟨d,.alloc E,ty,pos,aft,g⟩ σ k r:=by
 unfold SI at h;split at h
 ·next a l=>
  have⟨f,hc,s,m⟩:=Yt j l;refine⟨_,h,xbN _,λfr vs env w n=> ?_⟩;have⟨i,p⟩:=n;refine(rf (e:=a.ty.rep.c) (z:=a.ty.z) hc m w p).mono ?_;rintro v w' ⟨b,rfl,_,q⟩;refine J9 (vs:=vs) (mk:=λo=> .vs o a.ty) i hd i.o1 (λ_=>O) (λS w=>Oe S w) ?_;rw[L5];exact q.toP 0 O
 ·cases h
def zoN{E:wT}{k:Sg->V R}(hd:wA cx d=wF)(h:zma cf cx σ d E x k=Z r):lY P cx ⟨d,.box E x,ty,pos,aft,g⟩ σ k r:=by
 unfold zma at h;split at h
 ·next a m=>
  have⟨y,h,f⟩:=WM h;refine⟨_,h,xbN _,λfr vs env w i=> ?_⟩;have⟨c,hc⟩:=i;refine(zh1 (e:=a.ty.rep) (z:=y) O (λS w j=>f P vs env S w<|zU j x) w hc).mono ?_;rintro v w' ⟨b,rfl,_,l⟩;refine J9 (vs:=vs) (mk:=λo=> .vs o a.ty) c hd c.o1 (λ_=>O) (λS w=>Oe S w) ?_;rw[L5];exact l.toP 0 O
 ·cases h
def zbj(h:zaH x y=wF):ev env x=ev env y:=by
 unfold zaH at h;split at h
 ·rw[zO h]
 ·simp only[eqI,WW]at h;rw[h]
 ·cases h
def zkW(a:yZ P cf.tt){k:Sg->V R}(hd:wA cx d=wF)(h:zfE cf cx σ d t x y k=Z r):lY P cx ⟨d,.makeSlice t x y,ty,pos,aft,g⟩ σ k r:=by
 unfold zfE at h;split at h
 ·next s E B C=>
  have⟨hi,h⟩:=z8 h;split at h
  ·next f n i hn=>
   have⟨D,h⟩:=yj h;subst D;have⟨l,hl,L,F⟩:=Yt a i;have⟨j,G,h⟩:=zaW h;have⟨m,h⟩:=u9 h;have⟨xs,o,h⟩:=xJ h;refine⟨_,h,xbN _,λfr vs env w H=> ?_⟩;have⟨p,q⟩:=H;have⟨S0,_,c⟩:=q.ex;have u:ev env x=.int .i64 (j:J):=by rw[(wK hn<|zU c x).1,G]
   have A:=(a _ _ i).2.1;refine(O0 (e:=f.ty.rep) (z:=f.ty.z) (xs:=xs) (n:=j) (vR a C) hl u ((zbj hi).symm.trans u) A m F o w q).mono ?_;rintro v w' ⟨b,rfl,_,K⟩;refine J9 (vs:=vs) (mk:=.ow) p hd p.o1 (λ_=>O) (λS w=>JW S w) ?_;rw[Kj];have hc:X xs=j:=by rw[o];exact xaZ
   have:=K.closeF 0 O (by rw[hc];exact Nm _)<|zhk A m;rw[hc]at this;exact this
  ·cases h
 ·cases h
def znC(c:yZ P cf.tt)(i:ug P cf.tt){n:K}{ps:ul (K×v6)}{k:Sg->V R}(hd:wA cx d=wF)(h:zlF cf cx σ d t n ps.toList k=Z r):lY P cx ⟨d,.buildSlice t n ps,ty,pos,aft,g⟩ σ k r:=by
 unfold zlF at h;split at h
 ·next e E B f=>
  have⟨hc,h⟩:=z8 h;have hc:=xbJ hc;rw[<-e.n_rep]at hc;have⟨ys,h,o,p⟩:=mZ h;have⟨bytes,j,hi⟩:=JI c i f;refine⟨_,h,xbN _,λfr vs env w s=> ?_⟩;have⟨l,u⟩:=s;have z:(ps.toList.map λq:K×v6=>(q.1,ev env q.2)).map (·.1)=xfv 0 (X (ps.toList.map λq:K×v6=>(q.1,ev env q.2))):=by rw[xdb,xbd];exact o
  have m:=λ(S:K->Prop) (w:wP) (a:zE S (GS P vs env fr cx σ) w)=>Hv z<|p P vs env S w λx _=>zU a x;refine(zhr (e:=e.rep) (zs:=mM n e ys) (parts:=ps.toList) (vR c f) hi (zhu c i f) (fL n e ys) hc O (λS w a=>by have:=(m S w a).1;rwa[xcu]at this) (λS w a=>(m S w a).2) w u).mono ?_;rintro v w' ⟨b,rfl,_,A⟩;refine J9 (vs:=vs) (mk:=.ow) l hd l.o1 (λ_=>O) (λS w=>JW S w) ?_;rw[Kj];exact A
 ·cases h
end
end
end Go.Proofs.YtoegnnjcmlghhaaGreat
