/- What a proof needs: rules of walking, mirrors of functions and their plain laws. No condition. -/
import Derived.Test.YtoegnnjcmlghhaaGreatZh1
import Derived.WideKeyArgs
import Derived.Laws.IdiomStrings
set_option linter.all false
namespace Go.Proofs.YtoegnnjcmlghhaaGreat
open Bool renaming false->I,true->wL
open Go renaming Value->wN,World->wP,TypeId->wT,Operand->wW,Program->jP,execOp->kW,run_underlying->ul,undef->uT,Oper->Z0,FuncId->Z4,Tmp->Z5,IntKind->Xs,Code->Wr,resolve->Wt,ResultVar->WP,sizeOf->WR,maxLen->WS,invoke->V2,part->V3,BinOp->V4,eqGuard->V5,asIntOf->V6,Func->JP,Addr->KW,MemPlace->Us,builtin->UL,Calls->UP,goInt->fN,DataW->gT
open Go.Proofs.YtoegnnjcmlghhaaGreat renaming Zr->M,bd->Y,za->U,nm->B,ze->S
open List renaming length->X,length->lM
open Nat renaming beq->E
open Option renaming some->Z,none->wF
open _root_ renaming rfl->O,List->N,Int->J,Nat->K,Option->V,List->xS,Nat->wr,Option->ww,trivial->wR,absurd->wS,Bool->qR,congrArg->ut,Array->uL,if_true->uP,if_false->uS,cond_true->Z2,cond_false->Z3,Unit->Z9,True->XS,ByteArray->Wd,decide_eq_false->Wl,reduceCtorEq->Ww,Decidable->V1,False->QR,decide_eq_true_eq->Ul,true_and->cE
open Bool renaming and_eq_true->xac,false_eq_true->xao,not_eq_true'->xcV
open Call renaming operands->xeE
open DataW renaming TrodAll->xeT
open Deferred renaming ofValue->xdR
open Extern renaming find->xfc,findNext->xeP
open Extern.MathBitsCarry renaming m64->xbc,pair->xbT,three->xbN
open Instr renaming fill->xdx,slice->xfX,sliceAt->xdb,sliceBound->xeF,sliceBounds->xer
open Int renaming eq_ofNat_of_zero_le->xaE,fdiv->xge,natCast_nonneg->xdm,tdiv->xdE,tmod->xcv,toNat_natCast->xbe,toNat_of_nonneg->xdf
open IntKind renaming bits->xeM,i64->xde,signed->xeo,u8->xgi,wrap->xgd
open List renaming all_eq_true->xaR,append_assoc->xad,append_nil->xbO,drop->xdT,eq_nil_of_length_eq_zero->xbm,ext_getElem?->xcA,getD->xeH,getD_eq_getElem?_getD->FS,getElem?_append_left->xaX,getElem?_append_right->xbr,getElem?_cons_zero->xby,getElem?_eq_getElem->xab,getElem?_eq_some_iff->xar,getElem?_map->xbV,getElem?_range->xfd,getElem?_take->xcn,getElem_mem->xbQ,length->xaG,length_append->xaw,length_cons->xax,length_drop->xbX,length_eq_one_iff->xcG,length_eq_zero_iff->xbh,length_map->xaj,length_nil->xbP,length_replicate->xaM,length_set->xbj,length_take->xav,map_append->xaY,map_congr_left->xbZ,map_cons->xbS,map_map->xcN,map_nil->xex,map_toArray->xee,mem_append->So,mem_cons->xaf,mem_cons_of_mem->UV,mem_cons_self->H1,mem_filter->xcg,mem_filterMap->xfp,mem_map->xas,mem_of_getElem?->xbp,mem_or_eq_of_mem_set->xdF,mem_singleton->xag,nil_append->xbA,not_mem_nil->Nm,perm_middle->xcl,range->xaN,range'->xfC,replicate->xaa,set->xgk,set_append_left->xeW,set_append_right->xdJ,set_cons_succ->xfo,set_getElem_self->xdh,take->xdH,take_append_drop->xbv,take_of_length_le->xaQ
open List.Perm renaming append_left->xbL,refl->xdD,swap->xdX
open List.cons renaming injEq->xeQ
open Nat renaming add_assoc->xcH,add_mul->xbf,beq->xam,ble->xgg,blt->xdd,eq_of_beq_eq_true->xcL,eq_zero_or_pos->xcx,le_add_right->xbM,le_mul_of_pos_right->xco,le_of_ble_eq_true->xbK,le_of_lt->xdK,le_refl->IR,le_succ->xbH,le_trans->xap,lt_of_le_of_lt->xaL,lt_of_lt_of_le->xah,lt_or_ge->xca,lt_succ_of_lt->xfD,lt_succ_self->xbR,mod_lt->xaU,not_lt_zero->xbq,one_mul->xcz,zero_add->xaK,zero_le->xan,zero_mul->xcp
open Op renaming operands->xaB
open Oper renaming looksAt->xbx
open Option.some renaming inj->xdI,injEq->xat
open Prod.mk renaming injEq->xcI
open Result renaming andThen_ok->xae
open Sem renaming run_bind->xay,run_pure->xaI
open Sum renaming elim->xfH
open UInt8 renaming ofNat->xfe,toNat->xfB
open Value renaming okWide->xey
open _root_.Array renaming getElem?_eq_getElem->xcB,getElem?_eq_some_iff->xbk
section
structure VM where
 f:Z4
 dom:N AM
 cod:N RM
 M:fE dom->V (mH cod)
 bk:K
structure Cc where
 f:Z4
 t:Ty
 E:wT
 E1:wT
 M:N (N t.D)->N K->K->J->J->K->K->V (N<|N t.D)
structure Ns where
 f:Z4
 dom:N Ty
 g:Z4
 mc:mG dom->N PD
structure E8 where
 f:Z4
 dom:N AM
 t:Ty
 E:wT
 M:fE dom->{X Y:Type}->(N t.D->X->V (N t.D×(X⊕Y)))->X->V (X⊕Y)
structure Cf where
 tt:N (K×TI)
 cs:N VM
 an:An
 fu:K
 ex:N (K×qR)
 ms:N Cc:=[]
 cl:N Ns:=[]
 is:N E8:=[]
def zd5:N Cc->Z4->V Cc
 |[],_=>wF
 |s::r,f=>bif E s.f f then Z s else zd5 r f
def zeh:N Ns->Z4->V Ns
 |[],_=>wF
 |s::r,f=>bif E s.f f then Z s else zeh r f
def ziS:N E8->Z4->V E8
 |[],_=>wF
 |s::r,f=>bif E s.f f then Z s else ziS r f
abbrev jh{R:Type}(b:qR)(x:V R):V R:=match b with
 |true=>x
 |false=>wF
abbrev OA{R:Type}(b:qR)(x y:V R):V R:=match b with
 |true=>x
 |false=>y
def C7:N AM->qR
 |[]=>wL
 |.own _ _::_=>I
 |.var _ _::_=>I
 |_::r=>C7 r
def noV:N RM->qR
 |[]=>wL
 |.var _ _::_=>I
 |_::r=>noV r
def GZ:N VM->Z4->V VM
 |[],_=>wF
 |s::r,f=>bif E s.f f && (C7 s.dom && (E s.bk 0 && noV s.cod))then Z s else GZ r f
section
variable{R:Type}(cf:Cf)(cx:Sg)
def ziw:Dv->V PD
 |.d t x=>Z ⟨t,x⟩
 |.kb b=>Z ⟨.b,b⟩
 |_=>wF
def Bo(v:V Dv)(t:Ty)(k:t.D->V R):V R:=match v with
 |some .nil=>(match t,k with
  |.l s,k=>k ([]:N s.D)
  |_,_=>wF)
 |some .np=>(match t,k with
  |.po s,k=>k (wF:V s.D)
  |_,_=>wF)
 |some (.q s y)=>(match t,k with
  |.po a,k=>Ty.cast s a y λy=>k (Z y:V a.D)
  |_,_=>wF)
 |some v=>(match ziw v with
  |some p=>Ty.cast p.t t p.x k
  |none=>wF)
 |none=>wF
def arI(b:V4)(a c:J)(k:Dv->V R):V R:=match b with
 |.add=>zf (a+c) λx=>k (.d .i x)
 |.sub=>zf (a-c) λx=>k (.d .i x)
 |.mul=>zf (a*c) λx=>k (.d .i x)
 |.quo=>ck (c≠0)<|zf (xdE a c) λx=>k (.d .i x)
 |.rem=>ck (c≠0)<|B (xcv a c) λx=>k (.d .i x)
 |.and=>B (Sl a c) λx=>k (.d .i x)
 |.or=>B (orI a c) λx=>k (.d .i x)
 |.shr=>ck (0<=c)<|B (xge a<|2^(min c.toNat 64)) λx=>k (.d .i x)
 |.shl=>ck (0<=c)<|zf (a*2^(min c.toNat 64)) λx=>k (.d .i x)
 |.lss=>if a<c then k (.kb wL)else k (.kb I)
 |.leq=>if a<=c then k (.kb wL)else k (.kb I)
 |.gtr=>if c<a then k (.kb wL)else k (.kb I)
 |.geq=>if c<=a then k (.kb wL)else k (.kb I)
 |.eql=>if a=c then k (.kb wL)else k (.kb I)
 |.neq=>if a=c then k (.kb I)else k (.kb wL)
 |_=>wF
def arU(b:V4)(a c:K)(k:Dv->V R):V R:=match b with
 |.add=>B ((a+c)%18446744073709551616) λx=>k (.d .u x)
 |.sub=>B ((a+18446744073709551616-c)%18446744073709551616) λx=>k (.d .u x)
 |.mul=>B ((a*c)%18446744073709551616) λx=>k (.d .u x)
 |.quo=>ck (c≠0)<|B (a/c) λx=>k (.d .u x)
 |.rem=>ck (c≠0)<|B (a%c) λx=>k (.d .u x)
 |.and=>B (a &&& c) λx=>k (.d .u x)
 |.or=>B (a|||c) λx=>k (.d .u x)
 |.lss=>if(a:J)<(c:J)then k (.kb wL)else k (.kb I)
 |.leq=>if(a:J)<=(c:J)then k (.kb wL)else k (.kb I)
 |.gtr=>if(c:J)<(a:J)then k (.kb wL)else k (.kb I)
 |.geq=>if(c:J)<=(a:J)then k (.kb wL)else k (.kb I)
 |.eql=>if(a:J)=(c:J)then k (.kb wL)else k (.kb I)
 |.neq=>if(a:J)=(c:J)then k (.kb I)else k (.kb wL)
 |_=>wF
def arC(b:V4)(a c:K)(k:Dv->V R):V R:=match b with
 |.add=>B ((a+c)%256) λx=>k (.d .ch x)
 |.sub=>B ((a+256-c)%256) λx=>k (.d .ch x)
 |.lss=>if(a:J)<(c:J)then k (.kb wL)else k (.kb I)
 |.leq=>if(a:J)<=(c:J)then k (.kb wL)else k (.kb I)
 |.gtr=>if(c:J)<(a:J)then k (.kb wL)else k (.kb I)
 |.geq=>if(c:J)<=(a:J)then k (.kb wL)else k (.kb I)
 |.eql=>if(a:J)=(c:J)then k (.kb wL)else k (.kb I)
 |.neq=>if(a:J)=(c:J)then k (.kb I)else k (.kb wL)
 |_=>wF
def eqT(b:V4)(a c:N K)(k:Dv->V R):V R:=match b with
 |.add=>ck (X a+X c<=9223372036854775807)<|B (a++c) λx=>k (.d .tx x)
 |.eql=>if a=c then k (.kb wL)else k (.kb I)
 |.neq=>if a=c then k (.kb I)else k (.kb wL)
 |_=>wF
def shU(b:V4)(a:K)(c:J)(k:Dv->V R):V R:=match b with
 |.shr=>ck (0<=c)<|B (a/2^(min c.toNat 64)) λx=>k (.d .u x)
 |.shl=>ck (0<=c)<|B (a*2^(min c.toNat 64)%18446744073709551616) λx=>k (.d .u x)
 |_=>wF
def zcc(b:V4)(a c:K)(k:Dv->V R):V R:=match b with
 |.shr=>B (a/2^(min (c:J).toNat 64)) λx=>k (.d .u x)
 |.shl=>B (a*2^(min (c:J).toNat 64)%18446744073709551616) λx=>k (.d .u x)
 |_=>wF
def shI(b:V4)(a:J)(c:K)(k:Dv->V R):V R:=match b with
 |.shr=>B (xge a<|2^(min (c:J).toNat 64)) λx=>k (.d .i x)
 |.shl=>zf (a*2^(min (c:J).toNat 64)) λx=>k (.d .i x)
 |_=>wF
def eqB(e:V4)(a c:qR)(k:Dv->V R):V R:=match e with
 |.eql=>B (a==c) λx=>k (.d .b x)
 |.neq=>B (!(a==c)) λx=>k (.d .b x)
 |_=>wF
def zc4(a:V4)(b:qR)(k:Dv->V R):V R:=match a with
 |.eql=>if b=wL then k (.kb wL)else k (.kb I)
 |.neq=>if b=wL then k (.kb I)else k (.kb wL)
 |_=>wF
def eqP(a:V4)(x:V Dv)(k:Dv->V R):V R:=match x with
 |some .np=>zc4 a wL k
 |some (.q _ _)=>zc4 a I k
 |some (.vs _ _)=>zc4 a I k
 |some (.d (.po s) y)=>zc4 a (Option.isNone (α:=s.D) y) k
 |_=>wF
def zif:V Dv->qR
 |some .np=>wL
 |_=>I
def znf(d:qR)(bo:V4)(x y:V PD)(k:Dv->V R):V R:=match x,y with
 |some ⟨.i,a⟩,Z ⟨.i,c⟩=>arI bo a c k
 |some ⟨.u,a⟩,Z ⟨.u,c⟩=>(match bo with
  |.shr=>zcc .shr a c k
  |.shl=>zcc .shl a c k
  |bo=>arU bo a c k)
 |some ⟨.u,a⟩,Z ⟨.i,c⟩=>shU bo a c k
 |some ⟨.i,a⟩,Z ⟨.u,c⟩=>shI bo a c k
 |some ⟨.b,a⟩,Z ⟨.b,c⟩=>jh d<|eqB bo a c k
 |some ⟨.ch,a⟩,Z ⟨.ch,c⟩=>arC bo a c k
 |some ⟨.tx,a⟩,Z ⟨.tx,c⟩=>eqT bo a c k
 |_,_=>wF
def chI(a:K):Dv:=.d .i (a:J)
def chU(a:K)(k:Dv->V R):V R:=B (a%256) λx=>k (.d .ch x)
def zpA(b:TK)(x:V PD)(k:Dv->V R):V R:=match b,x with
 |.int .i64,Z ⟨.i,a⟩=>k (.d .i a)
 |.int .u64,Z ⟨.u,a⟩=>k (.d .u a)
 |.int .u64,Z ⟨.i,a⟩=>B (Cr a) λx=>k (.d .u x)
 |.int .i64,Z ⟨.u,a⟩=>B (sgn a) λx=>k (.d .i x)
 |.int .i64,Z ⟨.ch,a⟩=>k<|chI a
 |.int .u64,Z ⟨.ch,a⟩=>k (.d .u a)
 |.int .u8,Z ⟨.ch,a⟩=>k (.d .ch a)
 |.int .u8,Z ⟨.u,a⟩=>chU a k
 |_,_=>wF
def pd(σ:Sg)(x:wW):V PD:=match xD cx σ x with
 |some v=>ziw v
 |none=>wF
def ZO(t:wT):V TI:=U3 cf.tt t
def isB(t:wT):qR:=match ZO cf t with
 |some ⟨_,.bool,_⟩=>wL
 |_=>I
def ziK(t:wT):qR:=match ZO cf t with
 |some ⟨_,.pt _,_⟩=>wL
 |_=>I
def zmG(σ:Sg)(x:wW)(k:N (K×Dv)->V R):V R:=match xD cx σ x with
 |some (.q t y)=>k [(0,.q t y)]
 |some (.vs o t)=>k [(0,.vs o t)]
 |some (.d (.po t) y)=>Y (β:=t.D) y λy=>k [(0,.q t y)]
 |_=>wF
def ifB(x:qR)(a c:V R):V R:=if x=wL then a else c
def eqI(x y:J):qR:=decide<|x=y
def eqU(x y:K):qR:=decide<|x=y
def ngI(a:J)(k:Dv->V R):V R:=zf (0-a) λx=>k (.d .i x)
def ngU(a:K)(k:Dv->V R):V R:=B ((18446744073709551616-a)%18446744073709551616) λx=>k (.d .u x)
def zos{α:Type}(xs ys:N α)(B:K)(k:N α->V R):V R:=ck ((X xs+X ys)*B<=140737488355328)<|nm (xs++ys) k
def zqx{α:Type}(xs:N α)(n:K)(z:α)(B:K)(k:N α->V R):V R:=ck ((X xs+n)*B<=140737488355328)<|nm (xs++xaa n z) k
def ixU(j:K)(n:K)(k:K->V R):V R:=zI (j:J) n k
def zaE:wW->wW->qR
 |.tmp s,.tmp t=>E s t
 |.const (.int .i64 x),.const (.int .i64 y)=>eqI x y
 |_,_=>I
def exU(b:qR)(x y z:K)(k:N (K×Dv)->V R):V R:=
 ck (z<=1)<|OA b (B ((x+y+z)%18446744073709551616) λp=>B ((x+y+z)/18446744073709551616) λq=>k [(1,.d .u p),(2,.d .u q)])
  (B ((x+18446744073709551616-y-z)%18446744073709551616) λp=>B (if x<y+z then(1:K)else 0) λq=>k [(1,.d .u p),(2,.d .u q)])
def exD(b:qR)(x y z:V PD)(k:N (K×Dv)->V R):V R:=match x,y,z with
 |some ⟨.u,x⟩,Z ⟨.u,y⟩,Z ⟨.u,z⟩=>exU b x y z k
 |_,_,_=>wF
def parts(σ:Sg):(ts:N Ty)->N (K×wW)->K->(mG ts->V R)->V R
 |[],[],_,k=>k ()
 |t::ts,(i,x)::r,j,k=>jh (E i j)<|Bo (xD cx σ x) t λy=>parts σ ts r (j+1) λys=>k (y,ys)
 |_,_,_,_=>wF
def zdq:(k:K)->Ty->N Ty
 |0,_=>[]
 |1,t=>[t]
 |k+2,.p s t=>s::zdq (k+1) t
 |_,_=>[]
def cW:(k:K)->(t:Ty)->mG (zdq k t)->V t.D
 |0,_,_=>wF
 |1,t,x=>Z x.1
 |k+2,.p s t,x=>match cW (k+1) t x.2 with
  |some y=>Z (x.1,y)
  |none=>wF
 |_+2,.i,_=>wF
 |_+2,.u,_=>wF
 |_+2,.b,_=>wF
 |_+2,.l _,_=>wF
 |_+2,.a _ _,_=>wF
 |_+2,.ch,_=>wF
 |_+2,.tx,_=>wF
 |_+2,.po _,_=>wF
 |_+2,.w1 _,_=>wF
def EK:K->Ty->N Ty
 |0,_=>[]
 |n+1,t=>t::EK n t
def nV:(n:K)->(t:Ty)->mG (EK n t)->N t.D
 |0,_,_=>[]
 |n+1,t,x=>x.1::nV n t x.2
def aG(σ:Sg):N wW->V (N PD)
 |[]=>Z []
 |x::r=>match xD cx σ x,aG σ r with
  |some (.q t y),Z l=>Z (⟨t,y⟩::l)
  |_,_=>wF
def UE:(a:N AM)->N PD->V (fE a)
 |[],[]=>Z ()
 |.q t::r,c::cs=>Ty.cast c.t t c.x λy=>match UE r cs with
  |some z=>Z (y,z)
  |none=>wF
 |_,_=>wF
def E9:(full:N AM)->(dom:N Ty)->mG dom->N PD->V (fE full)
 |full,[],_,cs=>UE full cs
 |.d t::r,s::dom,x,cs=>Ty.cast s t x.1 λy=>match E9 r dom x.2 cs with
  |some z=>Z (y,z)
  |none=>wF
 |_,_::_,_,_=>wF
def Lv:(s t:N Ty)->V (PLift<|s=t)
 |[],[]=>Z ⟨O⟩
 |s::a,t::ts=>match Ty.same s t,Lv a ts with
  |some ⟨h⟩,Z ⟨b⟩=>Z ⟨h▸b▸O⟩
  |_,_=>wF
 |_,_=>wF
def RM.D_ty:∀r:RM,r.D=r.ty.D
 |.d _=>rfl
 |.own _ _=>rfl
 |.var _ _=>rfl
def XR:∀rs:N RM,mH rs=Hl (rs.map RM.ty)
 |[]=>rfl
 |[m]=>RM.D_ty m
 |m::n::r=>by show(m.D×mH (n::r))=(m.ty.D×Hl ((n::r).map RM.ty));rw[RM.D_ty m,XR (n::r)]
def asF(σ:Sg)(v:V Dv)(dom cod:N Ty)(k:(mG dom->V (Hl cod))->V R):V R:=match v with
 |some (.fn f c)=>(match GZ cf.cs f with
  |some s=>(match Lv (s.cod.map RM.ty) cod with
   |some ⟨h⟩=>k λx=>match E9 s.dom dom x c with
    |some y=>((XR s.cod).trans<|ut Hl h)▸s.M y
    |none=>wF
   |none=>wF)
  |none=>wF)
 |some (.fp d c g)=>(match Lv d dom,Lv c cod with
  |some ⟨h⟩,Z ⟨a⟩=>k<|h▸a▸g
  |_,_=>wF)
 |_=>wF
def QB(σ:Sg):(dom:N AM)->N wW->N PD->(fE dom->V R)->V R
 |[],[],[],k=>k ()
 |.q t::r,[],c::cs,k=>Ty.cast c.t t c.x λy=>QB σ r [] cs λz=>k (y,z)
 |.d t::r,x::xs,cs,k=>Bo (xD cx σ x) t λy=>QB σ r xs cs λz=>k (y,z)
 |.q t::r,x::xs,cs,k=>(match xD cx σ x with
  |some (.q s y)=>Ty.cast s t y λy=>QB σ r xs cs λz=>k (y,z)
  |_=>wF)
 |.fn dom cod::r,x::xs,cs,k=>asF cf σ (xD cx σ x) dom cod λg=>QB σ r xs cs λz=>k (g,z)
 |_,_,_,_=>wF
def Tv:(rs:N RM)->mH rs->K->N (K×Dv)
 |[],_,_=>[]
 |[.d t],x,i=>[(i,.d t x)]
 |[.own t _],x,i=>[(i,.d (.l t) x)]
 |[.var t _],x,i=>[(i,.d t x)]
 |.d t::r::rs,x,i=>(i,.d t x.1)::Tv (r::rs) x.2 (i+1)
 |.own t _::r::rs,x,i=>(i,.d (.l t) x.1)::Tv (r::rs) x.2 (i+1)
 |.var t _::r::rs,x,i=>(i,.d t x.1)::Tv (r::rs) x.2 (i+1)
def bH:N RM->qR
 |[_]=>wL
 |_=>I
def ziv(rs:N RM)(x:mH rs):N (K×Dv):=Tv rs x<|bif bH rs then 0 else 1
def CD(σ:Sg):(dom:N Ty)->N wW->(mG dom->V R)->V R
 |[],[],k=>k ()
 |t::r,x::xs,k=>Bo (xD cx σ x) t λy=>CD σ r xs λz=>k (y,z)
 |_,_,_=>wF
def zem:(cod:N Ty)->Hl cod->K->N (K×Dv)
 |[],_,_=>[]
 |[t],x,i=>[(i,.d t x)]
 |t::s::r,x,i=>(i,.d t x.1)::zem (s::r) x.2 (i+1)
def zii:N Ty->qR
 |[_]=>wL
 |_=>I
def zkx(σ:Sg)(v:V Dv)(k:PD->V R):V R:=match v with
 |some (.q t x)=>k ⟨t,x⟩
 |some (.vs o _)=>(match Va cx σ o with
  |some (.var t _ z)=>k ⟨t,z⟩
  |_=>wF)
 |some (.vp o t f)=>(match Va cx σ o with
  |some (.var a _ z)=>Ty.cast a t z λz=>k ⟨f.f,f.get z⟩
  |_=>wF)
 |some (.ep o t j f)=>(match Va cx σ o with
  |some (.own a _ xs)=>Ty.cast (.l a) (.l t) xs λxs=>B (f.get<|xeH xs j t.z) λy=>k ⟨f.f,y⟩
  |_=>wF)
 |_=>wF
def atI(σ:Sg)(x:wW)(n:K)(k:K->V R):V R:=match pd cx σ x with
 |some ⟨.i,j⟩=>zI j n k
 |some ⟨.u,j⟩=>ixU j n k
 |_=>wF
def O3(σ:Sg)(x:V wW)(k:V K->V R):V R:=match x with
 |none=>k wF
 |some x=>match pd cx σ x with
  |some ⟨.i,j⟩=>jX j λj=>k<|some j
  |_=>wF
def zmw{α:Type}(xs:N α)(lo hi:V K)(k:N α->V R):V R:=match lo,hi with
 |none,Z h=>ck (h<=X xs)<|B (xs.take h) k
 |some l,wF=>ck (l<=X xs)<|B (xs.drop l) k
 |some l,Z h=>ck (l<=h/\h<=X xs)<|B ((xs.drop l).take<|h-l) k
 |none,wF=>k xs
def zju(m:K)(lo hi:V K)(k:K->K->V R):V R:=match lo,hi with
 |none,Z h=>ck (h<=m)<|k 0 h
 |some l,wF=>ck (l<=m)<|k l (m-l)
 |some l,Z h=>ck (l<=h/\h<=m)<|k l (h-l)
 |none,wF=>k 0 m
def zjV(σ:Sg)(t:K):K->K->N (K×Dv)
 |0,_=>[]
 |f+1,i=>match get cx σ t i with
  |some d=>(i,d)::zjV σ t f (i+1)
  |none=>[]
def zpD(σ:Sg)(x:wW)(k:N (K×Dv)->V R):V R:=match x with
 |.tmp t=>(match zjV cx σ t 12 1 with
  |[]=>wF
  |l=>k l)
 |_=>wF
def zbX(σ:Sg)(x:wW)(k:N (K×Dv)->V R):V R:=match xD cx σ x with
 |some v=>k [(0,v)]
 |none=>zpD cx σ x k
def zna(σ:Sg)(x:wW)(i:K)(k:N (K×Dv)->V R):V R:=match x with
 |.tmp t=>(match get cx σ t (i+1)with
  |some v=>k [(0,v)]
  |none=>wF)
 |_=>wF
def zh9(σ:Sg)(x:wW)(k:N (K×Dv)->V R):V R:=match xD cx σ x with
 |some v=>k [(0,v)]
 |none=>wF
def zhl(σ:Sg)(c x y:wW)(k:N (K×Dv)->V R):V R:=match xD cx σ c with
 |some (.kb wL)=>zh9 cx σ x k
 |some (.kb I)=>zh9 cx σ y k
 |_=>wF
def zqJ(b:qR):Dv:=.d .b<|not b
def zl7(σ:Sg)(x:wW)(k:N (K×Dv)->V R):V R:=match xD cx σ x with
 |some (.kb b)=>k [(0,.kb !b)]
 |some (.d .b b)=>k [(0,zqJ b)]
 |_=>wF
def zln(σ:Sg)(x:wW)(k:N (K×Dv)->V R):V R:=match pd cx σ x with
 |some ⟨.i,a⟩=>ngI a λv=>k [(0,v)]
 |some ⟨.u,a⟩=>ngU a λv=>k [(0,v)]
 |_=>wF
def txD(xs:N K):Dv:=.d .tx xs
def zlH(σ:Sg)(s t:wT)(x:wW)(k:N (K×Dv)->V R):V R:=match ZO cf s,ZO cf t with
 |some ⟨_,.int _,_⟩,Z a=>zpA a.k (pd cx σ x) λv=>k [(0,v)]
 |some ⟨.l .ch,.sl E,_⟩,Z ⟨_,.str,_⟩=>(match ZO cf E with
  |some ⟨_,.int .u8,_⟩=>Bo (xD cx σ x) (.l .ch) λxs=>k [(0,txD xs)]
  |_=>wF)
 |_,_=>wF
def elA(E:wT)(e:Ty):qR:=match ZO cf E with
 |some a=>(Ty.same a.ty e).isSome
 |none=>I
def zn5(n:K)(e:Ty)(j:K):Fl (Ty.a n e).D:=⟨j*e.n,e,λz=>xeH z j e.z,λy z=>xgk z j y⟩
def TM(σ:Sg)(t:wT)(x i:wW)(k:N (K×Dv)->V R):V R:=match ZO cf t,xD cx σ x with
 |some ⟨.l e,.sl _,_⟩,Z (.d (.l s) xs)=>Ty.cast (.l s) (.l e) xs λxs=>atI cx σ i (xaG xs) λj=>B (xeH xs j e.z) λy=>k [(0,.q e y)]
 |some ⟨.l e,.sl _,_⟩,Z (.ow o)=>(match Va cx σ o with
  |some (.own s _ xs)=>Ty.cast (.l s) (.l e) xs λxs=>atI cx σ i (xaG xs) λj=>k [(0,.ep o e j<|Fl.self e)]
  |_=>wF)
 |some ⟨_,.ar b E,_⟩,Z (.q (.a n e) x)=>jh (xam b n && elA cf E e)<|atI cx σ i n λj=>B (xeH x j e.z) λy=>k [(0,.q e y)]
 |some ⟨_,.ar b E,_⟩,Z (.vs o (.a n e))=>jh (xam b n && elA cf E e)<|atI cx σ i n λj=>k [(0,.vp o (.a n e)<|zn5 n e j)]
 |_,_=>wF
def Tw(σ:Sg)(t:wT)(x:wW)(i:K)(k:N (K×Dv)->V R):V R:=match ZO cf t,xD cx σ x with
 |some ⟨e,.st n,_⟩,Z (.q s y)=>Ty.cast s e y λy=>(match xl n e i with
  |some f=>k [(0,.q f.f<|f.get y)]
  |none=>wF)
 |some ⟨e,.st n,_⟩,Z (.vs o s)=>(match Ty.same s e,xl n s i with
  |some _,Z f=>k [(0,.vp o s f)]
  |_,_=>wF)
 |some ⟨e,.st n,_⟩,Z (.vp o s g)=>(match Ty.same g.f e,xl n g.f i with
  |some _,Z f=>k [(0,.vp o s<|g.comp f)]
  |_,_=>wF)
 |some ⟨e,.st n,_⟩,Z (.ep o s j g)=>(match Ty.same g.f e,xl n g.f i with
  |some _,Z f=>k [(0,.ep o s j<|g.comp f)]
  |_,_=>wF)
 |_,_=>wF
def My(σ:Sg)(t:wT)(x:wW)(i:K)(k:N (K×Dv)->V R):V R:=match ZO cf t,xD cx σ x with
 |some ⟨e,.st n,_⟩,Z (.d s y)=>Ty.cast s e y λy=>(match xl n e i with
  |some f=>k [(0,.d f.f<|f.get y)]
  |none=>wF)
 |_,_=>wF
def zhA(σ:Sg)(t:wT)(x:wW)(k:N (K×Dv)->V R):V R:=match ZO cf t with
 |some a=>zkx cx σ (xD cx σ x) λp=>Ty.cast p.t a.ty p.x λy=>k [(0,.d a.ty y)]
 |none=>wF
def SW(σ:Sg)(t:wT)(x:wW)(lo hi:V wW)(k:N (K×Dv)->V R):V R:=match ZO cf t,xD cx σ x with
 |some ⟨.l e,.sl _,_⟩,Z (.d (.l s) xs)=>Ty.cast (.l s) (.l e) xs λxs=>O3 cx σ lo λlo=>O3 cx σ hi λhi=>zmw (α:=e.D) xs lo hi λys=>k [(0,.d (.l e) ys)]
 |some ⟨.l e,.sl _,_⟩,Z (.ow o)=>(match Va cx σ o with
  |some (.own s _ xs)=>Ty.cast (.l s) (.l e) xs λxs=>O3 cx σ lo λlo=>O3 cx σ hi λhi=>zju (xaG xs) lo hi λl n=>k [(0,.sv o e l n)]
  |_=>wF)
 |some ⟨_,.str,_⟩,Z (.d .tx xs)=>O3 cx σ lo λlo=>O3 cx σ hi λhi=>zmw (α:=K) xs lo hi λys=>k [(0,.d .tx ys)]
 |_,_=>wF
def zl6(σ:Sg)(t:wT)(x i:wW)(k:N (K×Dv)->V R):V R:=match ZO cf t,xD cx σ x with
 |some ⟨_,.str,_⟩,Z (.d .tx xs)=>atI cx σ i (xaG (α:=K) xs) λj=>B (xeH (α:=K) xs j 0) λy=>k [(0,.d .ch y)]
 |_,_=>wF
def zl1(σ:Sg)(E:wT)(x:wW)(k:N (K×Dv)->V R):V R:=match ZO cf E with
 |some a=>Bo (xD cx σ x) a.ty λy=>k [(0,.q a.ty y)]
 |none=>wF
def zhP(σ:Sg)(n:K)(ty:Ty):N (K×wW)->ty.D->(ty.D->V R)->V R
 |[],z,k=>k z
 |(i,x)::r,z,k=>match xl n ty i with
  |some f=>Bo (xD cx σ x) f.f λy=>zhP σ n ty r (f.set y z) k
  |none=>wF
def Tb(σ:Sg)(t:wT)(ps:N (K×wW))(k:N (K×Dv)->V R):V R:=match ZO cf t with
 |some ⟨ty,.st n,_⟩=>OA (xdd (X ps) n||xam n 0) (zhP cx σ n ty ps ty.z λy=>k [(0,.d ty y)]) (parts cx σ (zdq n ty) ps 0 λys=>match cW n ty ys with
  |some y=>k [(0,.d ty y)]
  |none=>wF)
 |some ⟨.a n e,.ar b E,_⟩=>jh (xam b n && elA cf E e)<|parts cx σ (EK n e) ps 0 λys=>k [(0,.d (.a n e)<|nV n e ys)]
 |_=>wF
def zmE(σ:Sg)(t:wT)(n:K)(ps:N (K×wW))(k:N (K×Dv)->V R):V R:=match ZO cf t with
 |some ⟨.l s,.sl _,_⟩=>jh (xgg (n*s.n) 16777216)<|parts cx σ (EK n s) ps 0 λys=>k [(0,.d (.l s)<|nV n s ys)]
 |_=>wF
def zm8(σ:Sg)(f:Go.Fn)(first cs:N wW)(k:N (K×Dv)->V R):V R:=match f,first,aG cx σ cs with
 |.func f,[],Z l=>k [(0,.fn f l)]
 |.func f,[x],Z []=>(match xD cx σ x with
  |some (.vs o t)=>k [(0,.bm f o t)]
  |_=>wF)
 |_,_,_=>wF
def S7(n:K):Dv:=.d .i (n:J)
def zmJ(σ:Sg)(x:N wW)(ts:N wT)(k:N (K×Dv)->V R):V R:=match x,ts with
 |[x],[t]=>(match ZO cf t with
  |some ⟨.l _,.sl _,_⟩=>(match xD cx σ x with
   |some .nil=>k [(0,S7 0)]
   |some (.d (.l _) xs)=>k [(0,S7<|xaG xs)]
   |some (.ow o)=>(match Va cx σ o with
    |some (.own _ _ xs)=>k [(0,S7<|xaG xs)]
    |_=>wF)
   |_=>wF)
  |some ⟨_,.str,_⟩=>(match xD cx σ x with
   |some (.d .tx xs)=>k [(0,S7<|xaG (α:=K) xs)]
   |_=>wF)
  |_=>wF)
 |_,_=>wF
def znc(x:J):Dv:=.d .i x
def mxI(b:qR)(a c:J)(k:J->V R):V R:=match b with
 |true=>B (max a c) k
 |false=>B (min a c) k
def eMM(b:qR)(σ:Sg)(x:N wW)(k:N (K×Dv)->V R):V R:=match x with
 |[x,y]=>(match pd cx σ x,pd cx σ y with
  |some ⟨.i,a⟩,Z ⟨.i,c⟩=>mxI b a c λz=>k [(0,znc z)]
  |_,_=>wF)
 |_=>wF
def zon:wW->qR
 |.func _=>wL
 |_=>I
def zhn(σ:Sg)(c:wW)(a:N wW)(k:N (K×Dv)->V R):V R:=match xD cx σ c with
 |some (.fn f cs)=>(match GZ cf.cs f with
  |some s=>QB cf cx σ s.dom a cs λy=>Y (s.M y) λr=>k<|ziv s.cod r
  |none=>(match U3 cf.ex f,a,cs with
   |some b,[x,y,z],[]=>jh (zon c)<|exD b (pd cx σ x) (pd cx σ y) (pd cx σ z) k
   |_,_,_=>wF))
 |some (.fp dom cod g)=>CD cx σ dom a λy=>Y (g y) λr=>k<|zem cod r<|bif zii cod then 0 else 1
 |_=>wF
def SH:V Dv->qR
 |some (.mw _)=>wL
 |some (.mv _ _ _)=>wL
 |some (.hp _ _)=>wL
 |some (.rw _ _)=>wL
 |some (.rp _ _ _ _ _)=>wL
 |some (.vf _ _ _ _)=>wL
 |_=>I
def zmk:V Dv->qR
 |some (.mv _ _ _)=>wL
 |_=>I
def mkF(σ:Sg)(f:wW):qR:=match xD cx σ f with
 |some (.fn f _)=>(zeh cf.cl f).isSome
 |_=>I
def zoL(σ:Sg):Op->qR
 |.load _ x=>SH<|xD cx σ x
 |.indexAddr _ x _=>SH<|xD cx σ x
 |.fieldAddr _ x _=>SH<|xD cx σ x
 |.slice _ x _ _ wF=>SH<|xD cx σ x
 |.call ⟨.builtin .len,ags,_⟩=>ags.toList.any λx=>SH<|xD cx σ x
 |.call ⟨.value f,ags,_⟩=>mkF cf cx σ f||ags.toList.any λx=>zmk<|xD cx σ x
 |_=>I
def uw{α:Type}(xss:N (N α))(r:K):N α:=xss.getD r []
def zct{α:Type}(xss:N (N α))(ix:N K):N (N α):=ix.map<|uw xss
def IJ(σ:Sg)(t:wT)(x i:wW)(k:N (K×Dv)->V R):V R:=match ZO cf t,xD cx σ x with
 |some ⟨.l (.l e),.sl _,_⟩,Z (.mw o)=>(match Va cx σ o with
  |some (.mat s _ _ xss ix)=>atI cx σ i (xaG ix) λj=>k [(0,.hp o j)]
  |_=>wF)
 |some ⟨.l (.l e),.sl _,_⟩,Z (.mv o lo n)=>(match Va cx σ o with
  |some (.mat s _ _ xss ix)=>atI cx σ i n λj=>k [(0,.hp o<|lo+j)]
  |_=>wF)
 |some ⟨.l e,.sl _,_⟩,Z (.rw o r)=>(match Va cx σ o with
  |some (.mat s _ _ xss ix)=>Ty.cast (.l (.l s)) (.l (.l e)) xss λxss=>atI cx σ i (xaG<|uw (α:=e.D) xss r) λj=>k [(0,.rp o e r j<|Fl.self e)]
  |_=>wF)
 |_,_=>wF
def zgM(n:K)(s:Ty)(i j:K)(k:Fl s.D->V R):V R:=jh (!E i j) (match xl n s i with
 |some f=>k f
 |none=>wF)
def R7(σ:Sg)(t:wT)(x:wW)(k:N (K×Dv)->V R):V R:=match ZO cf t,xD cx σ x with
 |some ⟨.l e,.sl _,_⟩,Z (.hp o j)=>(match Va cx σ o with
  |some (.mat s _ _ xss ix)=>B (xeH ix j 0) λr=>k [(0,.rw o r)]
  |_=>wF)
 |some a,Z (.rp o e r j f)=>(match Va cx σ o with
  |some (.mat s _ _ xss ix)=>Ty.cast (.l (.l s)) (.l (.l e)) xss λxss=>B (f.get<|xeH (uw (α:=e.D) xss r) j e.z) λy=>Ty.cast f.f a.ty y λy=>k [(0,.d a.ty y)]
  |_=>wF)
 |some a,Z (.vf o b n0 i)=>(match Va cx σ o with
  |some (.vr s _ _ _ n j z _)=>jh (E n0 n && (Ty.same b s).isSome)<|zgM n s i j λf=>Ty.cast f.f a.ty (f.get z) λy=>k [(0,.d a.ty y)]
  |some (.vh s _ _ _ n j z)=>jh (E n0 n && (Ty.same b s).isSome)<|zgM n s i j λf=>Ty.cast f.f a.ty (f.get z) λy=>k [(0,.d a.ty y)]
  |_=>wF)
 |_,_=>wF
def MB(σ:Sg)(t:wT)(x:wW)(i:K)(k:N (K×Dv)->V R):V R:=match ZO cf t,xD cx σ x with
 |some ⟨e,.st n,_⟩,Z (.mw o)=>(match Va cx σ o with
  |some (.vr s _ _ _ a _ _ _)=>jh (E a n && (Ty.same s e).isSome && (xl n e i).isSome)<|k [(0,.vf o e n i)]
  |some (.vh s _ _ _ a _ _)=>jh (E a n && (Ty.same s e).isSome && (xl n e i).isSome)<|k [(0,.vf o e n i)]
  |_=>wF)
 |_,_=>wF
def H7(σ:Sg)(t:wT)(x:wW)(lo hi:V wW)(k:N (K×Dv)->V R):V R:=match ZO cf t,xD cx σ x with
 |some ⟨.l (.l e),.sl _,_⟩,Z (.mw o)=>(match Va cx σ o with
  |some (.mat s _ _ xss ix)=>O3 cx σ lo λlo=>O3 cx σ hi λhi=>zju (xaG ix) lo hi λl n=>k [(0,.mv o l n)]
  |_=>wF)
 |_,_=>wF
def zgB(σ:Sg)(x:N wW)(ts:N wT)(k:N (K×Dv)->V R):V R:=match x,ts with
 |[x],[t]=>(match ZO cf t,xD cx σ x with
  |some ⟨.l _,.sl _,_⟩,Z (.mw o)=>(match Va cx σ o with
   |some (.mat _ _ _ _ ix)=>k [(0,S7<|xaG ix)]
   |_=>wF)
  |some ⟨.l _,.sl _,_⟩,Z (.mv o _ n)=>(match Va cx σ o with
   |some (.mat _ _ _ _ _)=>k [(0,S7 n)]
   |_=>wF)
  |some ⟨.l _,.sl _,_⟩,Z (.rw o r)=>(match Va cx σ o with
   |some (.mat _ _ _ xss _)=>k [(0,S7<|xaG<|uw xss r)]
   |_=>wF)
  |_,_=>wF)
 |_,_=>wF
def Qy(σ:Sg):(dom:N AM)->N wW->N PD->(fE dom->V R)->V R
 |[],[],[],k=>k ()
 |.q t::r,[],c::cs,k=>Ty.cast c.t t c.x λy=>Qy σ r [] cs λz=>k (y,z)
 |.d t::r,x::xs,cs,k=>(match xD cx σ x with
  |some (.mv o lo n)=>(match Va cx σ o with
   |some (.mat s _ _ xss ix)=>Ty.cast (.l (.l s)) t (xdH n<|xdT lo<|zct xss ix) λy=>Qy σ r xs cs λz=>k (y,z)
   |_=>wF)
  |v=>Bo v t λy=>Qy σ r xs cs λz=>k (y,z))
 |.fn dom cod::r,x::xs,cs,k=>asF cf σ (xD cx σ x) dom cod λg=>Qy σ r xs cs λz=>k (g,z)
 |_,_,_,_=>wF
def O2:N RM->qR
 |[]=>wL
 |.d .i::r=>O2 r
 |.d .b::r=>O2 r
 |.d .u::r=>O2 r
 |_=>I
def Ss(σ:Sg)(b:wW)(a:N wW)(k:N (K×Dv)->V R):V R:=match xD cx σ b with
 |some (.fn f cs)=>(match zeh cf.cl f,cs with
  |some s,[]=>CD cx σ s.dom a λys=>k [(0,.fn s.g<|s.mc ys)]
  |_,cs=>(match GZ cf.cs f with
   |some s=>jh (O2 s.cod)<|Qy cf cx σ s.dom a cs λy=>Y (s.M y) λr=>k<|ziv s.cod r
   |none=>wF))
 |_=>wF
def eCo(σ:Sg)(b:Op)(k:N (K×Dv)->V R):V R:=match b with
 |.load t x=>R7 cf cx σ t x k
 |.indexAddr t x i=>IJ cf cx σ t x i k
 |.fieldAddr t x i=>MB cf cx σ t x i k
 |.slice t x lo hi wF=>H7 cf cx σ t x lo hi k
 |.call ⟨.builtin .len,a,ts⟩=>zgB cf cx σ a.toList ts.toList k
 |.call ⟨.value f,a,_⟩=>Ss cf cx σ f a.toList k
 |_=>wF
def znq(σ:Sg)(d:Op)(k:N (K×Dv)->V R):V R:=match d with
 |.move x=>zbX cx σ x k
 |.assign x=>zbX cx σ x k
 |.extract x i=>zna cx σ x i k
 |.pick c x y=>zhl cx σ c x y k
 |.unOp .not _ x=>zl7 cx σ x k
 |.unOp .neg _ x=>zln cx σ x k
 |.binOp b t x y _=>OA (zif<|xD cx σ y) (jh (ziK cf t)<|eqP b (xD cx σ x) λv=>k [(0,v)])<|znf (isB cf t) b (pd cx σ x) (pd cx σ y) λv=>k [(0,v)]
 |.nilCheck x=>zmG cx σ x k
 |.convert s t x=>zlH cf cx σ s t x k
 |.load t x=>zhA cf cx σ t x k
 |.indexAddr t x i=>TM cf cx σ t x i k
 |.fieldAddr t x i=>Tw cf cx σ t x i k
 |.field t x i=>My cf cx σ t x i k
 |.slice t x lo hi wF=>SW cf cx σ t x lo hi k
 |.index t x i=>zl6 cf cx σ t x i k
 |.box E x=>zl1 cf cx σ E x k
 |.build t ps=>Tb cf cx σ t ps.toList k
 |.buildSlice t n ps=>zmE cf cx σ t n ps.toList k
 |.makeFunc f first cs=>zm8 cx σ f first.toList cs.toList k
 |.call ⟨.builtin .len,a,ts⟩=>zmJ cf cx σ a.toList ts.toList k
 |.call ⟨.builtin .max,a,_⟩=>eMM cx wL σ a.toList k
 |.call ⟨.builtin .min,a,_⟩=>eMM cx I σ a.toList k
 |.call ⟨.value f,a,_⟩=>zhn cf cx σ f a.toList k
 |_=>wF
def eOp(σ:Sg)(a:Op)(k:N (K×Dv)->V R):V R:=OA (zoL cf cx σ a) (eCo cf cx σ a k)<|znq cf cx σ a k
def vt:Dv->V K
 |.ow o=>Z o
 |.vs o _=>Z o
 |.ep o _ _ _=>Z o
 |.sv o _ _ _=>Z o
 |.vp o _ _=>Z o
 |.mw o=>Z o
 |.mv o _ _=>Z o
 |.hp o _=>Z o
 |.rw o _=>Z o
 |.rp o _ _ _ _=>Z o
 |.yd o=>Z o
 |.vf o _ _ _=>Z o
 |.bm _ o _=>Z o
 |_=>wF
def okL(n:K)(l:N (K×Dv)):qR:=l.all λe=>match vt e.2 with
 |some o=>xdd o n
 |none=>wL
def sC(o:K)(x:Od)(v:Dv):Dv:=match v,x with
 |.ow a,.own s _ xs=>bif E a o then .d (.l s) xs else v
 |.vs a _,.var s _ z=>bif E a o then .q s z else v
 |.mw a,.mat s _ _ xss ix=>bif E a o then .d (.l (.l s)) (zct xss ix)else v
 |.mw a,.vr t _ s _ n i z xs=>bif E a o then .q t (uH s (xl n t i) xs z)else v
 |_,_=>v
def E7(o:K)(x:Od):N (K×K×Dv)->N (K×K×Dv)
 |[]=>[]
 |(t,i,v)::r=>(t,i,sC o x v)::E7 o x r
def PS(σ:Sg)(o:K):Sg:=match xH σ.ob o with
 |some x=>⟨σ.nx,E7 o x σ.rg,yw σ.ob o⟩
 |none=>σ
def frz(σ:Sg)(x:wW):Sg:=match xD cx σ x with
 |some (.ow o)=>PS σ o
 |some (.vs o _)=>PS σ o
 |some (.mw o)=>PS σ o
 |_=>σ
def zkb(σ:Sg):N wW->Sg
 |[]=>σ
 |x::r=>zkb (frz cx σ x) r
def zcv(σ:Sg):N AM->N wW->qR
 |[],_=>wL
 |.own _ _::r,x::xs=>(match xD cx σ x with
  |some (.ow o)=>σ.ob.any λe=>E e.1 o
  |_=>I) && zcv σ r xs
 |.var _ _::r,x::xs=>(match xD cx σ x with
  |some (.vs o _)=>σ.ob.any λe=>E e.1 o
  |_=>I) && zcv σ r xs
 |.d _::r,x::xs=> !zmk (xD cx σ x) && zcv σ r xs
 |_::r,_::xs=>zcv σ r xs
 |_::r,[]=>zcv σ r []
def Sb(σ:Sg)(f:Z4)(a:N wW):N VM->V VM
 |[]=>wF
 |s::r=>match E s.f f && zcv cx σ s.dom a with
  |true=>Z s
  |false=>Sb σ f a r
def zoi(d:V Z5):qR:=match d with
 |some t=>lk cf.an.vw t
 |none=>I
def zak(d:V Z5):qR:=match d with
 |some t=>lk cf.an.mt t
 |none=>I
def zqh:V Dv->qR
 |some (.hp _ _)=>wL
 |some (.mw _)=>wL
 |_=>I
def zpF(σ:Sg):V Dv->qR
 |some (.vf o _ _ i)=>(match xH σ.ob o with
  |some (.vh _ _ _ _ _ j _)=>E i j
  |_=>I)
 |_=>I
def zdT:V Dv->qR
 |some (.mw _)=>wL
 |_=>I
def zl2(σ:Sg)(d:V Z5):Op->N wW
 |.build _ ps=>ps.toList.map (·.2)
 |.buildSlice _ _ ps=>(match zak cf d with
  |true=>[]
  |false=>ps.toList.map (·.2))
 |.store _ a v=>(match zqh (xD cx σ a)||zpF σ (xD cx σ a),xD cx σ v with
  |false,Z (.ow _)=>[v]
  |_,_=>[])
 |.slice _ x wF (Z _) wF=>(match zdT (xD cx σ x),zoi cf d with
  |true,I=>[x]
  |_,_=>[])
 |.box _ v=>[v]
 |.load _ x=>(match xD cx σ x with
  |some (.mw o)=>(match Va cx σ o with
   |some (.vr _ _ _ _ _ _ _ _)=>[x]
   |_=>[])
  |_=>[])
 |.convert _ _ v=>[v]
 |.makeFunc _ _ cs=>cs.toList
 |.slice _ x (Z _) _ _=>(match zoi cf d with
  |true=>[]
  |false=>[x])
 |.call ⟨.builtin .append,b,_⟩=>(match b.toList.any λx=>zdT (xD cx σ x)with
  |true=>[]
  |false=>b.toList.drop 1)
 |.call ⟨.builtin .copy,b,_⟩=>b.toList.drop 1
 |.call ⟨.value f,b,_⟩=>(match xD cx σ f with
  |some (.fn f _)=>(match Sb cx σ f b.toList cf.cs with
   |some s=>(s.dom.zip b.toList).filterMap λe=>match e.1 with
    |.d _=>(match zmk (xD cx σ e.2)with
     |true=>wF
     |false=>Z e.2)
    |.q _=>Z e.2
    |_=>wF
   |none=>[])
  |some (.fp _ _ _)=>b.toList
  |_=>[])
 |_=>[]
def Sa(σ:Sg)(d:V Z5)(mk:K->Dv)(x:Od):Sg:=⟨σ.nx+1,vQ σ.rg d [(0,mk σ.nx)],(σ.nx,x)::σ.ob⟩
def ZR(σ:Sg):(dom:N AM)->N wW->N PD->(fE dom->N K->V R)->V R
 |[],[],[],k=>k () []
 |.q t::r,[],c::cs,k=>Ty.cast c.t t c.x λy=>ZR σ r [] cs λz os=>k (y,z) os
 |.d t::r,x::xs,cs,k=>Bo (xD cx σ x) t λy=>ZR σ r xs cs λz os=>k (y,z) os
 |.q t::r,x::xs,cs,k=>(match xD cx σ x with
  |some (.q s y)=>Ty.cast s t y λy=>ZR σ r xs cs λz os=>k (y,z) os
  |_=>wF)
 |.own t E::r,x::xs,cs,k=>(match xD cx σ x with
  |some (.ow o)=>(match xH σ.ob o with
   |some (.own s a ys)=>jh (xam E a)<|Ty.cast (.l s) (.l t) ys λy=>ZR σ r xs cs λz os=>jh (!lk os o)<|k (y,z) (o::os)
   |_=>wF)
  |_=>wF)
 |.var t E::r,x::xs,cs,k=>(match xD cx σ x with
  |some (.vs o _)=>(match xH σ.ob o with
   |some (.var s a y)=>jh (xam E a)<|Ty.cast s t y λy=>ZR σ r xs cs λz os=>jh (!lk os o)<|k (y,z) (o::os)
   |_=>wF)
  |_=>wF)
 |.fn dom cod::r,x::xs,cs,k=>asF cf σ (xD cx σ x) dom cod λg=>ZR σ r xs cs λz os=>k (g,z) os
 |_,_,_,_=>wF
def um:(rs:N RM)->mH rs->K->K->N (K×Dv)×N (K×Od)
 |[],_,_,_=>([],[])
 |[.d t],x,i,o=>([(i,.d t x)],[])
 |[.own t E],x,i,o=>([(i,.ow o)],[(o,.own t E x)])
 |[.var t E],x,i,o=>([(i,.vs o t)],[(o,.var t E x)])
 |.d t::r::rs,x,i,o=>let y:=um (r::rs) x.2 (i+1) o
  ((i,.d t x.1)::y.1,y.2)
 |.own t E::r::rs,x,i,o=>let y:=um (r::rs) x.2 (i+1) (o+1)
  ((i,.ow o)::y.1,(o,.own t E x.1)::y.2)
 |.var t E::r::rs,x,i,o=>let y:=um (r::rs) x.2 (i+1) (o+1)
  ((i,.vs o t)::y.1,(o,.var t E x.1)::y.2)
def qh(ob:N (K×Od)):N K->N (K×Od)
 |[]=>ob
 |o::r=>yw (qh ob r) o
def SV(σ:Sg)(s:Ty)(p v:V Dv)(k:Sg->V R):V R:=match p with
 |some (.vs o _)=>(match xH σ.ob o with
  |some (.var b E z)=>Ty.cast b s z λz=>Bo v s λy=>k ⟨σ.nx,σ.rg,jY σ.ob o (.var s E y)⟩
  |_=>wF)
 |some (.vp o a f)=>(match xH σ.ob o,Ty.same f.f s with
  |some (.var b E z),Z _=>Ty.cast b a z λz=>Bo v f.f λy=>B (f.set y z) λz=>k ⟨σ.nx,σ.rg,jY σ.ob o (.var a E z)⟩
  |_,_=>wF)
 |some (.ep o a j f)=>(match xH σ.ob o,Ty.same f.f s with
  |some (.own b E xs),Z _=>Ty.cast (.l b) (.l a) xs λxs=>Bo v f.f λy=>B (xgk xs j<|f.set y<|xeH xs j a.z) λxs=>k ⟨σ.nx,σ.rg,jY σ.ob o (.own a E xs)⟩
  |_,_=>wF)
 |_=>wF
def R9(σ:Sg)(d:V Z5)(E:wT)(k:Sg->V R):V R:=match ZO cf E with
 |some a=>k<|Sa σ d (λo=> .vs o a.ty) (.var a.ty E a.ty.z)
 |none=>wF
def zng(σ:Sg)(d:V Z5)(E:wT)(x:wW)(k:Sg->V R):V R:=match ZO cf E with
 |some a=>Bo (xD cx σ x) a.ty λy=>k<|Sa σ d (λo=> .vs o a.ty) (.var a.ty E y)
 |none=>wF
def ze6(σ:Sg)(d:V Z5)(t:wT)(x y:wW)(k:Sg->V R):V R:=match ZO cf t with
 |some ⟨.l s,.sl E,_⟩=>jh (zaE x y) (match ZO cf E,pd cx σ x with
  |some a,Z ⟨.i,n⟩=>Ty.cast a.ty s a.ty.z λz=>jX n λn=>ck (a.B*n<=281474976710656)<|B (xaa n z) λxs=>k<|Sa σ d .ow (.own s E xs)
  |_,_=>wF)
 |_=>wF
def zl8(σ:Sg)(d:V Z5)(t:wT)(n:K)(ps:N (K×wW))(k:Sg->V R):V R:=match ZO cf t with
 |some ⟨.l s,.sl E,_⟩=>jh (xgg (n*s.n) 16777216)<|parts cx σ (EK n s) ps 0 λys=>k<|Sa σ d .ow (.own s E<|nV n s ys)
 |_=>wF
def TA(σ:Sg)(d:V Z5)(t:wT)(o:K)(hi:wW)(k:Sg->V R):V R:=match ZO cf t,xH σ.ob o with
 |some ⟨.l a,.sl _,_⟩,Z (.own s E xs)=>Ty.cast (.l s) (.l a) xs λxs=>O3 cx σ (Z hi) λh=>zmw (α:=a.D) xs wF h λys=>k ⟨σ.nx+1,vQ σ.rg d [(0,.ow σ.nx)],(σ.nx,.own a E ys)::yw σ.ob o⟩
 |_,_=>wF
def zbC(σ:Sg)(d:V Z5)(b:wT)(a:qR)(s:Ty)(E:wT)(B:K)(z:s.D)(y:wW)(ob:N (K×Od))(xs:N s.D)(k:Sg->V R):V R:=match pd cx σ y with
 |some ⟨.i,n⟩=>(match ZO cf b with
  |some ⟨_,.int _,_⟩=>jX n λn=>zqx xs n z B λzs=>k ⟨σ.nx+1,vQ σ.rg d [(0,.ow σ.nx)],(σ.nx,.own s E zs)::ob⟩
  |_=>wF)
 |_=>(match xD cx σ y with
  |some (.sv o2 t2 lo n)=>(match Va cx ⟨σ.nx,σ.rg,ob⟩ o2 with
   |some (.own c _ zs)=>jh a<|Ty.cast (.l c) (.l t2) zs λzs=>Ty.cast (.l t2) (.l s) (xdH n<|xdT lo zs) λys=>nm ys λys=>zos (α:=s.D) xs ys B λzs=>k ⟨σ.nx+1,vQ σ.rg d [(0,.ow σ.nx)],(σ.nx,.own s E zs)::ob⟩
   |_=>wF)
  |_=>jh a<|Bo (xD cx σ y) (.l s) λys=>zos (α:=s.D) xs ys B λzs=>k ⟨σ.nx+1,vQ σ.rg d [(0,.ow σ.nx)],(σ.nx,.own s E zs)::ob⟩)
def zlB(σ:Sg)(d:V Z5)(c:N wW)(ts:N wT)(k:Sg->V R):V R:=match c,ts with
 |[x,y],[t,a]=>(match ZO cf t with
  |some ⟨.l s,.sl E,_⟩=>(match ZO cf E with
   |some b=>Ty.cast b.ty s b.ty.z λz=>(match xD cx σ x with
    |some .nil=>zbC cf cx σ d a (xam t a) s E b.B z y σ.ob [] k
    |some (.ow o)=>(match xH σ.ob o with
     |some (.own e f xs)=>jh (xam f E)<|Ty.cast (.l e) (.l s) xs λxs=>zbC cf cx σ d a (xam t a) s E b.B z y (yw σ.ob o) xs k
     |_=>wF)
    |_=>wF)
   |none=>wF)
  |_=>wF)
 |_,_=>wF
def zhI(σ:Sg)(d:V Z5)(a:N wW)(ts:N wT)(k:Sg->V R):V R:=match a,ts with
 |[x,y],[t,_]=>(match ZO cf t,xD cx σ x with
  |some ⟨.l s,.sl _,_⟩,Z (.ow o)=>(match xH σ.ob o with
   |some (.own b c xs)=>Ty.cast (.l b) (.l s) xs λxs=>Bo (xD cx σ y) (.l s) λys=>B (Pk (α:=s.D) xs ys) λzs=>k ⟨σ.nx,vQ σ.rg d [],jY σ.ob o (.own s c zs)⟩
   |_=>wF)
  |some ⟨.l s,.sl _,_⟩,Z (.sv o t2 lo n)=>(match xH σ.ob o,Ty.same t2 s with
   |some (.own b c xs),Z _=>Ty.cast (.l b) (.l s) xs λxs=>Bo (xD cx σ y) (.l s) λys=>B (iZ (α:=s.D) lo n xs ys) λzs=>k ⟨σ.nx,vQ σ.rg d [],jY σ.ob o (.own s c zs)⟩
   |_,_=>wF)
  |_,_=>wF)
 |_,_=>wF
def CR:N K->N (K×Od)->N (K×Od)
 |o::os,e::r=>(o,e.2)::CR os r
 |_,_=>[]
def p9:K->N RM->qR
 |0,[]=>wL
 |0,.own _ _::r=>p9 0 r
 |0,.var _ _::r=>p9 0 r
 |n+1,.d _::r=>p9 n r
 |_,_=>I
def AR(m:K):K:=bif E m 1 then 0 else 1
def zgP(σ:Sg)(d:V Z5)(s:VM)(a:N wW)(cs:N PD)(k:Sg->V R):V R:=
 ZR cf cx σ s.dom a cs λy os=>Y (s.M y) λr=>
  match s.bk with
  |0=>(let g:=um s.cod r (bif bH s.cod then 0 else 1) σ.nx
   k ⟨σ.nx+X g.2,vQ σ.rg d g.1,g.2++qh σ.ob os⟩)
  |b+1=>(let m:=X s.cod-(b+1)
   let g:=um s.cod r (AR m) σ.nx
   jh (p9 m s.cod)<|k ⟨σ.nx+X g.2,vQ σ.rg d<|g.1.filter λe=>xdd e.1<|AR m+m,CR os g.2++qh σ.ob os⟩)
def mE(σ:Sg)(d:V Z5)(a:Op)(k:Sg->V R):V R:=eOp cf cx σ a λl=>jh (okL σ.nx l)<|k (σ.put d l)
def zmn(d:V Z5):qR:=match d with
 |some t=>lk cf.an.bx t
 |none=>I
def zid(o n:K)(v:Dv):Dv:=match v with
 |.mw p=>bif E p o then .mw n else v
 |.mv p l m=>bif E p o then .mv n l m else v
 |.hp p j=>bif E p o then .hp n j else v
 |.rw p r=>bif E p o then .rw n r else v
 |.rp p t r j f=>bif E p o then .rp n t r j f else v
 |v=>v
def zjC(o n:K):N (K×K×Dv)->N (K×K×Dv)
 |[]=>[]
 |(t,i,v)::r=>(t,i,zid o n v)::zjC o n r
def Ft(o n:K):N (K×K×Dv)->N (K×K×Dv)
 |[]=>[]
 |(t,i,.mw p)::r=>(t,i,bif E p o then .mw n else .mw p)::Ft o n r
 |(t,i,v)::r=>(t,i,v)::Ft o n r
def N5(o n:K):N (K×K×Dv)->N (K×K×Dv)
 |[]=>[]
 |(t,i,.yd p)::r=>(t,i,bif E p o then .yd n else .yd p)::N5 o n r
 |(t,i,v)::r=>(t,i,v)::N5 o n r
def zpp{α:Type}(a b:N α):N α:=a++b
def zoc{α:Type}(xss:N (N α))(r:K)(xs:N α):N (N α):=xgk xss r xs
def ky(σ:Sg)(s:Ty)(p v:V Dv)(k:Sg->V R):V R:=match p,v with
 |some (.rp o e r j f),v=>(match xH σ.ob o,Ty.same f.f s with
  |some (.mat c E E1 xss ix),Z _=>Ty.cast (.l (.l c)) (.l (.l e)) xss λxss=>Bo v f.f λy=>B (zoc (α:=e.D) xss r<|xgk (uw (α:=e.D) xss r) j<|f.set y<|xeH (uw (α:=e.D) xss r) j e.z) λxss=>k ⟨σ.nx,σ.rg,jY σ.ob o (.mat e E E1 xss ix)⟩
  |_,_=>wF)
 |some (.vf o d n0 i),Z (.ow o2)=>jh (!xam o o2)<|(match xH σ.ob o,xH σ.ob o2 with
  |some (.vh a E b E1 n j z),Z (.own m q ys)=>jh (xam i j && xam E1 q && (Ty.same s (.l b)).isSome && (xam n0 n && (Ty.same d a).isSome))<|Ty.cast (.l m) (.l b) ys λys=>k ⟨σ.nx+1,Ft o σ.nx σ.rg,(σ.nx,.vr a E b E1 n j z ys)::yw (yw σ.ob o) o2⟩
  |_,_=>wF)
 |some (.vf o d n0 i),v=>(match xH σ.ob o with
  |some (.vr a E b E1 n j z ys)=>jh (xam n0 n && (Ty.same d a).isSome)<|zgM n a i j λf=>jh (Ty.same f.f s).isSome<|Bo v f.f λy=>B (f.set y z) λz=>k ⟨σ.nx,σ.rg,jY σ.ob o (.vr a E b E1 n j z ys)⟩
  |some (.vh a E b E1 n j z)=>jh (xam n0 n && (Ty.same d a).isSome)<|zgM n a i j λf=>jh (Ty.same f.f s).isSome<|Bo v f.f λy=>B (f.set y z) λz=>k ⟨σ.nx,σ.rg,jY σ.ob o (.vh a E b E1 n j z)⟩
  |_=>wF)
 |some (.hp o j),Z (.rw t r)=>jh (xam t o)<|(match xH σ.ob o,s with
  |some (.mat c E E1 xss ix),.l _=>B (xgk ix j r) λix=>k ⟨σ.nx,σ.rg,jY σ.ob o (.mat c E E1 xss ix)⟩
  |_,_=>wF)
 |some (.hp o j),Z (.ow o2)=>jh (!xam o o2)<|(match xH σ.ob o,xH σ.ob o2,s with
  |some (.mat c E E1 xss ix),Z (.own b g ys),.l _=>jh (xam E1 g)<|Ty.cast (.l b) (.l c) ys λys=>B (zpp (α:=N c.D) xss [ys]) λh=>B (xgk ix j<|xaG xss) λix=>k ⟨σ.nx+1,zjC o σ.nx σ.rg,(σ.nx,.mat c E E1 h ix)::yw (yw σ.ob o) o2⟩
  |_,_,_=>wF)
 |some (.mw o),Z (.dz t2 y n2 i2)=>(match xH σ.ob o with
  |some (.vr a E b E1 n j z xs)=>jh (xam n2 n && (xam i2 j && (Ty.same s a).isSome))<|Ty.cast t2 a y λy=>k ⟨σ.nx+1,Ft o σ.nx σ.rg,(σ.nx,.vr a E b E1 n j y [])::yw σ.ob o⟩
  |_=>wF)
 |some (.mw o),Z (.ow o2)=>jh (!xam o o2)<|(match xH σ.ob o,xH σ.ob o2,s with
  |some (.ho u),Z (.own b g ys),.l _=>k ⟨σ.nx+1,Ft o σ.nx σ.rg,(σ.nx,.bo b g u ys)::yw (yw σ.ob o) o2⟩
  |_,_,_=>wF)
 |_,_=>wF
def SN(σ:Sg)(d:V Z5)(t:wT)(x y:wW)(k:Sg->V R):V R:=match ZO cf t with
 |some ⟨.l (.l s),.sl E,_⟩=>jh (zaE x y) (match ZO cf E,pd cx σ x with
  |some ⟨.l _,.sl E1,B⟩,Z ⟨.i,n⟩=>jX n λn=>ck (B*n<=281474976710656)<|nm (xaa n 0) λix=>k<|Sa σ d .mw (.mat s E E1 [[]] ix)
  |_,_=>wF)
 |_=>wF
def zgx(σ:Sg)(d:V Z5)(t:wT)(n:K)(ps:N (K×wW))(k:Sg->V R):V R:=match ZO cf t,ps with
 |some ⟨.l (.l s),.sl E,_⟩,[(0,x)]=>jh (xam n 1) (match xD cx σ x with
  |some (.ow o2)=>(match xH σ.ob o2 with
   |some (.own a E1 ys)=>Ty.cast (.l a) (.l s) ys λys=>k ⟨σ.nx+1,vQ σ.rg d [(0,.mw σ.nx)],(σ.nx,.mat s E E1 [ys] [0])::yw σ.ob o2⟩
   |_=>wF)
  |_=>wF)
 |_,_=>wF
def zaf(d:V Z5):V (K×K):=match d with
 |some t=>U3 cf.an.vr t
 |none=>wF
def LO(σ:Sg)(d:V Z5)(a:wT)(k:Sg->V R):V R:=match ZO cf a with
 |some ⟨.l s,.sl E,_⟩=>k<|Sa σ d .mw (.bo s E a [])
 |some ⟨ty,.st n,_⟩=>(match zaf cf d with
  |some (i,E1)=>(match xl n ty i with
   |some ⟨_,.l s,_,_⟩=>k<|Sa σ d .mw (.vr ty a s E1 n i ty.z [])
   |_=>wF)
  |none=>wF)
 |_=>wF
def MA(σ:Sg)(d:V Z5)(t:wT)(ps:N (K×wW))(k:Sg->V R):V R:=match ZO cf t,zaf cf d with
 |some ⟨ty,.st n,_⟩,Z (i,_)=>jh (ps.all λp=> !E p.1 i) (match xl n ty i with
  |some ⟨_,.l _,_,_⟩=>zhP cx σ n ty ps ty.z λy=>k<|σ.put d [(0,.dz ty y n i)]
  |_=>wF)
 |_,_=>wF
def SG(σ:Sg)(d:V Z5)(t:wT)(o:K)(k:Sg->V R):V R:=match ZO cf t,xH σ.ob o with
 |some ⟨.l b,.sl _,_⟩,Z (.vr c E a E1 n j z xs)=>jh (Ty.same b a).isSome<|k ⟨σ.nx+1,vQ σ.rg d [(0,.ow σ.nx)],(σ.nx,.own a E1 xs)::jY σ.ob o (.vh c E a E1 n j z)⟩
 |_,_=>wF
def RK(σ:Sg):V Dv->V K
 |some (.vf o a n0 i)=>(match xH σ.ob o with
  |some (.vr s _ _ _ n j _ _)=>bif E i j && (E n0 n && (Ty.same a s).isSome)then Z o else wF
  |_=>wF)
 |_=>wF
def SZ(σ:Sg)(d:V Z5)(t:wT)(o:K)(k:Sg->V R):V R:=match ZO cf t,xH σ.ob o with
 |some ⟨.l _,.sl _,_⟩,Z (.bo s E a xs)=>k ⟨σ.nx+1,vQ σ.rg d [(0,.ow σ.nx)],(σ.nx,.own s E xs)::jY σ.ob o (.ho a)⟩
 |_,_=>wF
def zgy(σ:Sg)(d:V Z5)(b:N wW)(ts:N wT)(k:Sg->V R):V R:=match b,ts with
 |[x,y],[t,h]=>(match ZO cf t,xD cx σ x,xD cx σ y with
  |some ⟨.l (.l s),.sl E,_⟩,Z (.mw o),Z (.mw p)=>jh (xam t h && !xam o p) (match ZO cf E,xH σ.ob o,xH σ.ob p with
   |some ⟨.l _,.sl _,B⟩,Z (.mat c E1 f xss ix),Z (.mat i j m a g)=>jh (xam E1 E && (xam j E && xam f m))<|Ty.cast (.l (.l i)) (.l (.l c)) a λa=>
    ck ((xaG ix+xaG g)*B<=140737488355328)<|nm (zpp (α:=N c.D) xss a) λe=>nm (ix++g.map (xaG xss+ ·)) λn=>k ⟨σ.nx+1,vQ σ.rg d [(0,.mw σ.nx)],(σ.nx,.mat c E1 f e n)::yw (yw σ.ob o) p⟩
   |_,_,_=>wF)
  |_,_,_=>wF)
 |_,_=>wF
def DJ(σ:Sg)(d:V Z5)(s:Cc)(b:N wW)(k:Sg->V R):V R:=match b with
 |[x,a,p,y]=>(match xD cx σ x,pd cx σ a,pd cx σ p,xD cx σ y with
  |some (.rw o r),Z ⟨.i,a⟩,Z ⟨.i,p⟩,Z (.mv c lo n)=>jh (xam o c) (match xH σ.ob o with
   |some (.mat e E E1 xss ix)=>jh (xam E s.E && xam E1 s.E1)<|Ty.cast (.l (.l e)) (.l (.l s.t)) xss λxss=>
    Y (s.M xss ix r a p lo n) λxss=>k ⟨σ.nx+1,Ft o σ.nx<|vQ σ.rg d [],(σ.nx,.mat s.t E E1 xss ix)::yw σ.ob o⟩
   |_=>wF)
  |_,_,_,_=>wF)
 |_=>wF
def IX(σ:Sg)(d:V Z5)(o:K)(a:N wW)(k:Sg->V R):V R:=match a with
 |[x]=>(match xD cx σ x with
  |some (.ow p)=>jh (!xam o p) (match xH σ.ob o,xH σ.ob p with
   |some (.hid t E X Y e c g z),Z (.own s b ys)=>jh (xam b E)<|Ty.cast (.l s) (.l t) ys λys=>
    bd (g ys z) λr=>xfH (λf=>k ⟨σ.nx+1,N5 o σ.nx<|vQ σ.rg d [(0,.kb wL)],(σ.nx,.hid t E X Y e c g f)::yw (jY σ.ob p (.own t b r.1)) o⟩)
     (λy'=>k ⟨σ.nx+1,N5 o σ.nx<|vQ σ.rg d [(0,.kb I)],(σ.nx,.hiy Y c y')::yw (jY σ.ob p (.own t b r.1)) o⟩) r.2
   |_,_=>wF)
  |_=>wF)
 |_=>wF
inductive CoM
 |no
 |st (t:wT) (x y:wW)
 |ma (t:wT) (x y:wW)
 |lit (t:wT) (n:K) (ps:uL (K×wW))
 |al (E:wT)
 |tk (t:wT) (o:K)
 |tv (t:wT) (o:K)
 |bz (t:wT) (ps:uL (K×wW))
 |ap (ags:uL wW) (ts:uL wT)
 |sk (s:Cc) (ags:uL wW)
 |yl (o:K) (ags:uL wW)
def coM(σ:Sg)(d:V Z5):Op->CoM
 |.store t x y=>bif SH (xD cx σ x)then .st t x y else .no
 |.makeSlice t x y=>bif zak cf d then .ma t x y else .no
 |.buildSlice t n ps=>bif zak cf d then .lit t n ps else .no
 |.alloc E=>bif zak cf d||(zaf cf d).isSome then .al E else .no
 |.build t ps=>bif (zaf cf d).isSome then .bz t ps else .no
 |.load t x=>(match xD cx σ x with
  |some (.mw o)=> .tk t o
  |v=>(match RK σ v with
   |some o=> .tv t o
   |none=> .no))
 |.call ⟨.builtin .append,a,ts⟩=>bif a.toList.any (λx=>zdT<|xD cx σ x)then .ap a ts else .no
 |.call ⟨.value f,a,_⟩=>(match xD cx σ f with
  |some (.yd o)=> .yl o a
  |some (.fn f [])=>(match zd5 cf.ms f with
   |some s=> .sk s a
   |none=> .no)
  |_=> .no)
 |_=> .no
def mCo(σ:Sg)(d:V Z5)(c:CoM)(k:Sg->V R)(b:V R):V R:=match c with
 |.no=>b
 |.st t x y=>jh d.isNone (match ZO cf t with
  |some e=>ky σ e.ty (xD cx σ x) (xD cx σ y) k
  |none=>wF)
 |.ma t x y=>SN cf cx σ d t x y k
 |.lit t n ps=>zgx cf cx σ d t n ps.toList k
 |.al E=>LO cf σ d E k
 |.tk t o=>SZ cf σ d t o k
 |.tv t o=>SG cf σ d t o k
 |.bz t ps=>MA cf cx σ d t ps.toList k
 |.ap a ts=>zgy cf cx σ d a.toList ts.toList k
 |.sk s a=>DJ cx σ d s a.toList k
 |.yl o a=>IX cx σ d o a.toList k
def zcf(f:Z4):N VM->V VM
 |[]=>wF
 |s::r=>match s.f,s.dom,s.cod,s.bk with
  |f',[.var _ _],[.var _ _],1=>bif E f' f then Z s else zcf f r
  |_,_,_,_=>zcf f r
def mBm(σ:Sg)(d:V Z5)(s:VM)(o:K)(k:Sg->V R):V R:=match s,xH σ.ob o with
 |⟨_,[.var t E],[.var t2 a],M,_⟩,Z (.var b c y)=>jh (xam E c && (xam a E && (Ty.same t t2).isSome))<|Ty.cast b t y λy=>Y (M (y,())) λz=>k ⟨σ.nx,vQ σ.rg d [],jY σ.ob o (.var t2 a z)⟩
 |_,_=>wF
def zm7(σ:Sg)(d:V Z5)(op:Op)(k:Sg->V R):V R:=
 match op with
 |.alloc E=>R9 cf σ d E k
 |.box E x=>OA (zmn cf d) (zng cf cx σ d E x k)<|mE cf cx σ d (.box E x) k
 |.store t x y=>jh d.isNone (match ZO cf t with
  |some b=>SV σ b.ty (xD cx σ x) (xD cx σ y) k
  |none=>wF)
 |.makeSlice t x y=>ze6 cf cx σ d t x y k
 |.buildSlice t n ps=>zl8 cf cx σ d t n ps.toList k
 |.slice t x wF (Z hi) wF=>(match xD cx σ x with
  |some (.ow o)=>TA cf cx σ d t o hi k
  |_=>mE cf cx σ d (.slice t x wF (Z hi) wF) k)
 |.call ⟨.builtin .append,a,ts⟩=>zlB cf cx σ d a.toList ts.toList k
 |.call ⟨.builtin .copy,a,ts⟩=>zhI cf cx σ d a.toList ts.toList k
 |.call ⟨.value f,a,ts⟩=>(match xD cx σ f with
  |some (.fn f' cs)=>(match Sb cx σ f' a.toList cf.cs with
   |some s=>zgP cf cx σ d s a.toList cs k
   |none=>mE cf cx σ d (.call ⟨.value f,a,ts⟩) k)
  |some (.bm f' o t)=>(match a.toList,zcf f' cf.cs with
   |[],Z s=>mBm σ d s o k
   |_,_=>wF)
  |_=>mE cf cx σ d (.call ⟨.value f,a,ts⟩) k)
 |op=>mE cf cx σ d op k
def mOp(σ:Sg)(d:V Z5)(a:Op)(k:Sg->V R):V R:=mCo cf cx σ d (coM cf cx σ d a) k<|zm7 cf cx σ d a k
def LB(σ:Sg)(t:Z5)(b:qR):Sg:=⟨σ.nx,vQ σ.rg (Z t) [(0,.kb b)],σ.ob⟩
def mg(c:N Z0)(o:Z0)(σ:Sg)(k:Sg->qR->V R):V R:=match o.guard with
 |none=>k σ wL
 |some (j,a)=>match c[j]? with
  |some e=>(match e.dst with
   |some t=>(match get cx σ t 0 with
    |some (.kb b)=>k σ<|b==a
    |some .un=>k σ I
    |some (.d .b x)=>jh (XL cx.rg t)<|ifB x (k (LB σ t wL)<|true==a) (k (LB σ t I)<|false==a)
    |_=>wF)
   |none=>wF)
  |none=>wF
def DN(o:Z0)(σ:Sg)(k:Sg->V R):V R:=match o.op with
 |.pick (.tmp t) _ _=>(match get cx σ t 0 with
  |some (.d .b x)=>jh (XL cx.rg t)<|ifB x (k<|LB σ t wL) (k<|LB σ t I)
  |_=>k σ)
 |_=>k σ
def Tq(a:N Z0):N Z0->Sg->(Sg->V R)->V R
 |[],σ,k=>k σ
 |o::r,σ,k=>jh (wQ cx o.dst)<|mg cx a o σ λσ w=>OA w
  (DN cx o σ λσ=>(let σ:=zkb cx σ<|zl2 cf cx σ o.dst o.op;mOp cf cx σ o.dst o.op λσ=>Tq a r σ k))
  (Tq a r (σ.put o.dst [(0,.un)]) k)
def zhj(a:N Z0):N Z0->Sg->(Sg->V R)->V R
 |[],σ,k=>k σ
 |o::r,σ,k=>jh (wQ cx o.dst)<|mg cx a o σ λσ w=>OA w
  (DN cx o σ λσ=>eOp cf cx σ o.op λl=>jh (okL σ.nx l)<|zhj a r (σ.put o.dst l) k)
  (zhj a r (σ.put o.dst [(0,.un)]) k)
def dd:N (K×K×Dv)->N (K×K×Dv)
 |[]=>[]
 |e::r=>e::(dd r).filter λf=> !(E e.1 f.1 && E e.2.1 f.2.1)
structure Rb where
 a:V K
 c:V K
 rd:N K
 o:K
 x:Od
structure Oi where
 lo:K
 hi:K
 refs:N K
def db(ts:N Z5):N (K×K×Dv)->N K
 |[]=>[]
 |(t,_,v)::r=>(match lk ts t,vt v with
  |true,Z o=>o::db ts r
  |_,_=>db ts r)
def o8:N (K×Dv)->N K
 |[]=>[]
 |(_,v)::r=>(match vt v with
  |some o=>o::o8 r
  |none=>o8 r)
def az(ts:N Z5):N (K×K×Dv)->N (K×K×Dv)
 |[]=>[]
 |(t,i,v)::r=>(match lk ts t with
  |true=>(t,i,v)::az ts r
  |false=>az ts r)
def AB(d:V Z5)(rg:N (K×K×Dv)):N (K×Dv):=match d with
 |some t=>rg.filterMap λe=>match E e.1 t with
  |true=>Z (e.2.1,e.2.2)
  |false=>wF
 |none=>[]
def gU(os:N K):N Rb->N (K×Od)
 |[]=>[]
 |r::rs=>match r.c,lk os r.o with
  |none,wL=>(r.o,r.x)::gU os rs
  |_,_=>gU os rs
def Te(i:K)(os:N K):N Rb->N Rb
 |[]=>[]
 |r::rs=>(match r.c,lk os r.o with
  |none,wL=>⟨r.a,Z i,r.rd,r.o,r.x⟩
  |_,_=>r)::Te i os rs
def RY(i:K)(os:N K):N Rb->N Rb
 |[]=>[]
 |r::rs=>(match r.c,lk os r.o with
  |none,wL=>⟨r.a,wF,i::r.rd,r.o,r.x⟩
  |_,_=>r)::RY i os rs
def zjO(i:K)(ob:N (K×Od)):N Rb:=ob.map λe=>⟨Z i,wF,[],e.1,e.2⟩
def zpm(ob:N (K×Od)):N Rb:=ob.map λe=>⟨wF,wF,[],e.1,e.2⟩
def Rm:N Rb->N (K×Od)
 |[]=>[]
 |r::rs=>match r.c with
  |none=>(r.o,r.x)::Rm rs
  |some _=>Rm rs
def okO(n:K)(ob:N (K×Od)):qR:=ob.all λe=>xdd e.1 n
def Cb(σ:Sg):N K->Sg
 |[]=>σ
 |o::r=>Cb (PS σ o) r
def zhi:N RM->qR
 |[]=>wL
 |.own _ _::_=>I
 |.var _ _::_=>I
 |_::r=>zhi r
def zkw(σ:Sg)(b:qR)(d:V Z5):Op->qR
 |.alloc _=>wL
 |.store _ _ _=>wL
 |.makeSlice _ _ _=>wL
 |.buildSlice _ _ _=> !b
 |.box _ _=>zmn cf d
 |.build _ _=>(zaf cf d).isSome
 |.load _ x=>zdT (xD cx σ x)||(RK σ<|xD cx σ x).isSome
 |.slice _ x wF (Z _) wF=>(match xD cx σ x with
  |some (.ow _)=>wL
  |_=>I)
 |.call ⟨.builtin .append,_,_⟩=>wL
 |.call ⟨.builtin .copy,_,_⟩=>wL
 |.call ⟨.value f,a,_⟩=>(match xD cx σ f with
  |some (.fn f' _)=>(match Sb cx σ f' a.toList cf.cs with
   |some s=> !(C7 s.dom)||(!b && !(zhi s.cod))
   |none=>(zd5 cf.ms f').isSome)
  |some (.yd _)=>wL
  |some (.bm _ _ _)=>wL
  |_=>I)
 |_=>I
def fzB(a:N K):V Z5->qR
 |some t=>lk a t
 |none=>I
def zn7(b:qR)(d:V Z5)(τ:Sg):Sg:=match b with
 |true=>Cb τ<|o8<|AB d τ.rg
 |false=>τ
def zkJ(τ:Sg)(d:V Z5)(k:N (K×Dv)->K->N (K×Od)->V R):V R:=jh (okL τ.nx (AB d τ.rg) && okO τ.nx τ.ob)<|k (AB d τ.rg) τ.nx τ.ob
def zks(os:N K):Op->N K
 |.move _=>[]
 |.assign _=>[]
 |_=>os
def zcg(a:N Z0)(b:N K):N Z0->K->Sg->N Rb->N Oi->(Sg->N Rb->N Oi->V R)->V R
 |[],_,σ,rs,is,k=>k σ rs is
 |o::r,i,σ,rs,is,k=>jh (wQ cx o.dst)<|mg cx a o σ λσ w=>OA w
  (DN cx o σ λσ=>OA (zkw cf cx ⟨σ.nx,σ.rg,gU (db (xbx a.toArray o) σ.rg) rs⟩ (fzB b o.dst) o.dst o.op)
   (mOp cf ⟨0,[],cx.ob⟩ ⟨σ.nx,dd<|az (xbx a.toArray o)<|σ.rg++cx.rg,gU (db (xbx a.toArray o) σ.rg) rs⟩ o.dst o.op λτ=>
    zkJ (zn7 (fzB b o.dst) o.dst τ) o.dst λl n ob=>zcg a b r (i+1) ⟨n,vQ σ.rg o.dst l,[]⟩ (Te i (db (xbx a.toArray o) σ.rg) rs++zjO i ob) (is++[⟨σ.nx,n,o8 l⟩]) k)
   (eOp cf cx ⟨σ.nx,σ.rg,gU (zks (db (xbx a.toArray o) σ.rg) o.op) rs⟩ o.op λl=>jh (okL σ.nx l)<|zcg a b r (i+1) (σ.put o.dst l) (RY i (zks (db (xbx a.toArray o) σ.rg) o.op) rs) (is++[⟨σ.nx,σ.nx,o8 l⟩]) k))
  (zcg a b r (i+1) (σ.put o.dst [(0,.un)]) rs (is++[⟨σ.nx,σ.nx,[]⟩]) k)
def inB(a:Oi)(o:K):qR:=xgg a.lo o && xdd o a.hi
def ziJ(l:N Z0)(i:K)(b:Oi)(rs:N Rb)(c:N (Oi×K)):qR:=
 (rs.all λr=> !inB b r.o||(match r.a with
  |some j=>E j i||qL l 16 j i
  |none=>I)) && c.all λJ=>J.1.refs.all λp=> !inB b p||E J.2 i||qL l 16 J.2 i
def zjZ(l:N Z0)(m:K)(rs:N Rb)(is:N Oi):qR:=
 (rs.all λr=>(match r.a with
  |some j=>xdd j m && r.rd.all λi=>qL l 16 i j
  |none=>wL) && (match r.c with
  |some k=>xdd k m && (match r.a with
   |some j=>qL l 16 k j
   |none=>wL) && r.rd.all λi=>qL l 16 k i
  |none=>wL)) &&
 (is.zipIdx.all λJ=>ziJ l J.2 J.1 rs is.zipIdx) &&
 (xaN m).all λi=>(xaN m).all λj=>E i j||(match(z6 l i).dst with
  |some t=> !((z6 l j).dst==Z t)
  |none=>wL)
def Sq(l:N Z0):K->K->K
 |0,m=>m
 |f+1,m=>bif xdd 1 m && WG l (m-1)then Sq l f (m-1)else m
def zly(al:N (K×wW)):wW->wW
 |.tmp t=>(match U3 al t with
  |some x=>x
  |none=> .tmp t)
 |x=>x
def zn3(al:N (K×wW))(o:Z0):N (K×wW):=match o.op,o.dst with
 |.move x,Z d=>(d,zly al x)::al
 |.assign x,Z d=>(d,zly al x)::al
 |_,_=>al
def zjM:N Z0->N (K×wW)->Sg->Sg
 |[],_,σ=>σ
 |o::r,al,σ=>zjM r (zn3 al o)<|zkb cx σ<|(zl2 cf cx σ o.dst o.op).map<|zly al
def zlv(id:K):N K:=match U3 cf.an.dz id with
 |some l=>l
 |none=>[]
def zlt(id:K)(l:N Z0)(m:K)(σ:Sg)(k:Sg->V R):V R:=
 let a:=zlv cf id
 let σ:=Cb σ<|db a σ.rg
 zcg cf cx l a (l.take m) 0 ⟨σ.nx,σ.rg,[]⟩ (zpm σ.ob) [] λσ rs is=>jh (zjZ l m rs is)<|Tq cf cx l (l.drop m) ⟨σ.nx,dd σ.rg,Rm rs⟩ k
def zpw(id:K):qR:=match U3 cf.an.dz id with
 |some _=>wL
 |none=>I
def zlM(id:K)(l:N Z0)(a:qR)(σ:Sg)(k:Sg->V R):V R:=
 OA a
  (let m:=Sq l (X l) (X l)
  jh (WG l m)<|OA (zpw cf id) (zlt cf cx id l m σ k) (zhj cf cx l (l.take m) (zjM cf cx (l.take m) [] σ) λσ=>Tq cf cx l (l.drop m) ⟨σ.nx,dd σ.rg,σ.ob⟩ k))
  (Tq cf cx l l σ k)
def Q2:N (K×TF)->Type
 |[]=>Z9
 |[a]=>a.2.D
 |a::b::r=>a.2.D×Q2 (b::r)
def cT(σ:Sg)(ds:N (K×TF))(t:K)(f:TF)(k:f.D->N K->V R):V R:=match f,k with
 |.d s,k=>Bo (get cx σ t 0) s λy=>k y []
 |.q s,k=>(match get cx σ t 0 with
  |some (.q a x)=>Ty.cast a s x λy=>k y []
  |_=>wF)
 |.own s E,k=>(match get cx σ t 0 with
  |some (.ow o)=>(match xH σ.ob o with
   |some (.own a b xs)=>jh (xam E b)<|Ty.cast (.l a) (.l s) xs λy=>k y [o]
   |_=>wF)
  |some .nil=>k ([]:N s.D) []
  |_=>wF)
 |.var s E,k=>(match get cx σ t 0 with
  |some (.vs o _)=>(match xH σ.ob o with
   |some (.var a b z)=>jh (xam E b)<|Ty.cast a s z λy=>k y [o]
   |_=>wF)
  |_=>wF)
 |.mat s E E1,k=>(match get cx σ t 0 with
  |some (.mw o)=>(match xH σ.ob o with
   |some (.mat a b F' xss ix)=>jh (xam E b && xam E1 F')<|Ty.cast (.l (.l a)) (.l (.l s)) xss λy=>k (y,ix) [o]
   |_=>wF)
  |some .nil=>k (([],[]):N (N s.D)×N K) []
  |_=>wF)
 |.matv s E E1,k=>(match get cx σ t 0 with
  |some (.mv o lo n)=>(match xH σ.ob o with
   |some (.mat a b F' xss ix)=>jh (xam E b && xam E1 F')<|Ty.cast (.l (.l a)) (.l (.l s)) xss λy=>k ((y,ix),(lo,n)) [o]
   |_=>wF)
  |_=>wF)
 |.row j,k=>(match get cx σ t 0,ds[j]? with
  |some (.rw o r),Z (s,.mat _ _ _)=>(match get cx σ s 0 with
   |some (.mw c)=>jh (xam o c)<|k r []
   |_=>wF)
  |some (.rw o r),Z (s,.matv _ _ _)=>(match get cx σ s 0 with
   |some (.mv c _ _)=>jh (xam o c)<|k r []
   |_=>wF)
  |_,_=>wF)
 |.view j,k=>(match get cx σ t 0,ds[j]? with
  |some (.mv o lo n),Z (s,.mat _ _ _)=>(match get cx σ s 0 with
   |some (.mw c)=>jh (xam o c)<|k (lo,n) []
   |_=>wF)
  |some (.mv o lo n),Z (s,.matv _ _ _)=>(match get cx σ s 0 with
   |some (.mv c _ _)=>jh (xam o c)<|k (lo,n) []
   |_=>wF)
  |_,_=>wF)
 |.vr s E g E1 n i,k=>(match get cx σ t 0 with
  |some (.mw o)=>(match xH σ.ob o with
   |some (.vr a b e F' h m z xs)=>jh (xam E b && (xam E1 F' && (xam n h && xam i m)))<|Ty.cast a s z λz=>Ty.cast (.l e) (.l g) xs λxs=>k (z,xs) [o]
   |_=>wF)
  |_=>wF)
 |.bo s E p,k=>(match get cx σ t 0 with
  |some (.mw o)=>(match xH σ.ob o with
   |some (.bo a b F' xs)=>jh (xam E b && xam p F')<|Ty.cast (.l a) (.l s) xs λy=>k y [o]
   |_=>wF)
  |_=>wF)
def BK(os:N K):N K->qR
 |[]=>wL
 |o::r=> !lk os o && BK os r
def gat(σ:Sg)(ds:N (K×TF)):(l:N (K×TF))->(Q2 l->N K->V R)->V R
 |[],k=>k () []
 |[a],k=>cT cx σ ds a.1 a.2 k
 |a::b::r,k=>cT cx σ ds a.1 a.2 λx o=>gat σ ds (b::r) λy os=>jh (BK os o)<|k (x,y) (o++os)
def ziq(σ:Sg):N (K×NF)->qR
 |[]=>wL
 |(t,f)::r=>(match f,get cx σ t 0 with
  |.kb b,Z (.kb c)=>b==c
  |.nil,Z .nil=>wL
  |.ci x,Z (.d .i y)=>eqI x y
  |.cu x,Z (.d .u y)=>eqU x y
  |.al s,Z (.ow o)=>(match get cx σ s 0 with
   |some (.ow a)=>E o a
   |_=>I)
  |.al s,Z (.vs o _)=>(match get cx σ s 0 with
   |some (.vs a _)=>E o a
   |_=>I)
  |.al s,Z (.mw o)=>(match get cx σ s 0 with
   |some (.mw a)=>E o a
   |_=>I)
  |.bm s f,Z (.bm f' o _)=>(match get cx σ s 0 with
   |some (.vs a _)=>E o a && E f f'
   |_=>I)
  |_,_=>I) && ziq σ r
def AF(n0 o:K)(f:TF)(x:f.D):Dv×V Od:=match f,x with
 |.d t,x=>(.d t x,wF)
 |.q t,x=>(.q t x,wF)
 |.own t E,x=>(.ow o,Z (.own t E x))
 |.var t E,x=>(.vs o t,Z (.var t E x))
 |.mat t E E1,x=>(.mw o,Z (.mat t E E1 x.1 x.2))
 |.matv t E E1,x=>(.mv o x.2.1 x.2.2,Z (.mat t E E1 x.1.1 x.1.2))
 |.row j,r=>(.rw (n0+j) r,wF)
 |.view j,r=>(.mv (n0+j) r.1 r.2,wF)
 |.bo t E a,x=>(.mw o,Z (.bo t E a x))
 |.vr t E s E1 n i,x=>(.mw o,Z (.vr t E s E1 n i x.1 x.2))
def iU(n0:K):(l:N (K×TF))->Q2 l->K->N (K×K×Dv)×N (K×Od)
 |[],_,_=>([],[])
 |[a],x,o=>let v:=AF n0 o a.2 x
  ([(a.1,0,v.1)],match v.2 with
   |some y=>[(o,y)]
   |none=>[])
 |a::b::r,x,o=>let v:=AF n0 o a.2 x.1
  let y:=iU n0 (b::r) x.2<|o+1
  ((a.1,0,v.1)::y.1,match v.2 with
   |some q=>(o,q)::y.2
   |none=>y.2)
def IE(rg:N (K×K×Dv)):N (K×NF)->N (K×K×Dv)
 |[]=>rg
 |(t,f)::r=>(match f with
  |.kb b=>[(t,0,.kb b)]
  |.nil=>[(t,0,.nil)]
  |.ci x=>[(t,0,.d .i x)]
  |.cu x=>[(t,0,.d .u x)]
  |.al s=>(match ig rg s 0 with
   |some v=>[(t,0,v)]
   |none=>[])
  |.bm s f=>(match ig rg s 0 with
   |some (.vs o q)=>[(t,0,.bm f o q)]
   |_=>[]))++IE rg r
def Ua(sh:Sh)(x:Q2 sh.ds)(kp:Sg):Sg:=
 let y:=iU kp.nx sh.ds x kp.nx
 ⟨kp.nx+X sh.ds,IE y.1 sh.ns++y.1++kp.rg,y.2++kp.ob⟩
def zdU(σ:Sg):N (K×TF)->Sg
 |[]=>σ
 |(t,.d _)::r=>zdU (frz cx σ (.tmp t)) r
 |_::r=>zdU σ r
def sE(sh:Sh)(σ:Sg)(k:Q2 sh.ds->V R):V R:=let σ:=zdU cx σ sh.ds
 jh (ziq cx σ sh.ns)<|gat cx σ sh.ds sh.ds λx _=>k x
def SmD:N (Tg×Sh)->Type
 |[]=>Empty
 |[a]=>Q2 a.2.ds
 |a::b::r=>Q2 a.2.ds⊕SmD (b::r)
def zc9:Tg->Tg->qR
 |.n,.n=>wL
 |.x i,.x j=>E i j
 |.r,.r=>wL
 |_,_=>I
def zgR(σ:Sg)(t:Tg):(l:N (Tg×Sh))->(SmD l->V R)->V R
 |[],_=>wF
 |[a],k=>jh (zc9 a.1 t)<|sE cx a.2 σ k
 |a::b::r,k=>OA (zc9 a.1 t) (sE cx a.2 σ λx=>k (.inl x))<|zgR σ t (b::r) λy=>k (.inr y)
def P1(kp:Sg)(K:Tg->Sg->V R):(l:N (Tg×Sh))->SmD l->V R
 |[]=>λ_=>wF
 |[a]=>λx=>K a.1<|Ua a.2 x kp
 |a::b::r=>λx=>xfH (α:=Q2 a.2.ds) (β:=SmD (b::r)) (λx=>K a.1<|Ua a.2 x kp) (P1 kp K (b::r)) x
def EC:Wr->N K
 |.region _ d _=>d.toList.filterMap (·.dst)
 |.seq a b=>EC a++EC b
 |.cond _ a b=>EC a++EC b
 |.block _ c=>EC c
 |.loop c=>EC c
 |.scope c=>EC c
 |.rangeFunc _ ps a c=>ps.toList++(EC a++EC c)
 |_=>[]
def rid:Wr->V K
 |.region i _ _=>Z i
 |.seq a b=>(match rid a with
  |some i=>Z i
  |none=>rid b)
 |.cond _ a b=>(match rid a with
  |some i=>Z i
  |none=>rid b)
 |.block _ c=>rid c
 |.loop c=>rid c
 |.scope c=>rid c
 |.rangeFunc _ _ a c=>(match rid a with
  |some i=>Z i
  |none=>rid c)
 |_=>wF
def zkL:V K->K
 |some i=>i+1
 |none=>0
def zqG(a b:Wr):K:=zkL (rid a)*65536+zkL (rid b)
def Gf(σ:Sg):N K->N K
 |[]=>[]
 |t::r=>match ig σ.rg t 0 with
  |some v=>(match vt v with
   |some o=>o::Gf σ r
   |none=>Gf σ r)
  |none=>Gf σ r
def zf0(a b:N K)(e:K×K×Dv):qR:= !lk a e.1 && (match vt e.2.2 with
 |some o=>lk b o
 |none=>wL)
def keep(σ:Sg)(a ro:N K):Sg:=let b:=Gf σ ro
 ⟨σ.nx,σ.rg.filter<|zf0 a b,σ.ob.filter λe=>lk b e.1⟩
def rest(σ:Sg)(a ro:N K):Sg:=let b:=Gf σ ro
 ⟨σ.nx,σ.rg.filter<|λe=> !zf0 a b e,σ.ob.filter λe=> !lk b e.1⟩
def kJ(cx kp:Sg):Sg:=⟨kp.nx,kp.rg++cx.rg,kp.ob++cx.ob⟩
def cm:N (K×TF)->qR
 |[]=>wL
 |(_,.own _ _)::r=>cm r
 |(_,.var _ _)::r=>cm r
 |(_,.mat _ _ _)::r=>cm r
 |(_,.bo _ _ _)::r=>cm r
 |_=>I
def AV:N (K×TF)->K->N (K×K×Dv)
 |[],_=>[]
 |(t,.mat _ _ _)::r,n=>(t,0,.mw n)::AV r (n+1)
 |(t,.bo _ _ _)::r,n=>(t,0,.mw n)::AV r (n+1)
 |(t,_)::r,n=>(t,0,.ow n)::AV r (n+1)
def Gn{a:K×TF}:{l:N (K×TF)}->a.2.D->Q2 l->Q2 (a::l)
 |[],y,_=>y
 |_::_,y,x=>(y,x)
def iM{a:K×TF}:{l:N (K×TF)}->Q2 (a::l)->a.2.D×Q2 l
 |[],z=>(z,())
 |_::_,z=>z
def uu(pt:K)(t:Ty)(E:wT)(ds:N (K×TF)):Sh:=⟨(pt,.own t E)::ds,[]⟩
def zep(ds:N (K×TF))(t:K):qR:=ds.all λe=> !E e.1 t
def zfk:N (K×TF)->qR
 |[]=>wL
 |e::r=>zep r e.1 && zfk r
def cpR(cx':Sg)(n:K)(sh:Sh):Sg:=⟨n+X sh.ds,AV sh.ds n++cx'.rg,cx'.ob⟩
def zlC(cp:Sg)(ds:N (K×TF))(t:Ty)(E:wT)(pt:K)(τ:Tg)(q:Tg)(σ:Sg):V (N t.D×(Q2 ds⊕Q2 ds)):=match q with
 |.n=>sE cp (uu pt t E ds) σ λz=>Z ((iM z).1,.inl (iM z).2)
 |.x i=>jh (zc9 τ (.x i))<|sE cp (uu pt t E ds) σ λz=>Z ((iM z).1,.inr (iM z).2)
 |.r=>jh (zc9 τ .r)<|sE cp (uu pt t E ds) σ λz=>Z ((iM z).1,.inr (iM z).2)
def zpC(cx':Sg)(n:K)(ds:N (K×TF))(t:Ty)(E:wT)(pt:K)(τ:Tg)
 (b c:Sg->Sg->(Tg->Sg->V (N t.D×(Q2 ds⊕Q2 ds)))->V (N t.D×(Q2 ds⊕Q2 ds))) (ys:N t.D) (x:Q2 ds):V (N t.D×(Q2 ds⊕Q2 ds)):=
 b (cpR cx' n<|uu pt t E ds) (Ua (uu pt t E ds) (Gn (a:=(pt,.own t E)) ys x) ⟨n,[],[]⟩) λq σ=>match q with
  |.n=>c (cpR cx' n<|uu pt t E ds) σ<|zlC (cpR cx' n<|uu pt t E ds) ds t E pt τ
  |_=>wF
def S8{R:Type}(cx σ:Sg)(K:Tg->Sg->V R)(s:Lp)(it:E8)(y:fE it.dom)(τ:Tg)(pt:wr)(a:N wr)
 (b c:Sg->Sg->(Tg->Sg->V (N it.t.D×(Q2 s.hd.ds⊕Q2 s.hd.ds)))->V (N it.t.D×(Q2 s.hd.ds⊕Q2 s.hd.ds))):V R:=
 let kp:=keep σ a s.sg.ro
 let cx':=kJ cx kp
 jh (cm s.hd.ds && (zfk (uu pt it.t it.E s.hd.ds).ds && XL cx'.rg pt))<|sE cx' s.hd (rest σ a s.sg.ro) λx=>
  bd (it.M (X:=Q2 s.hd.ds) (Y:=Q2 s.hd.ds) y (zpC cx' kp.nx s.hd.ds it.t it.E pt τ b c) x) λr=>xfH (λx=>K .n<|Ua s.hd x kp) (λx=>K τ<|Ua s.hd x kp) r
def H2:Wr->qR
 |.seq a b=>H2 a && H2 b
 |.cond _ a b=>H2 a && H2 b
 |.block _ c=>H2 c
 |.loop c=>H2 c
 |.scope c=>H2 c
 |.rangeFunc _ _ _ _=>I
 |_=>wL
end
def den(cf:Cf):Wr->{R:Type}->Sg->Sg->(Tg->Sg->V R)->V R
 |.skip,_,cx,σ,K=>K .n σ
 |.label _,_,cx,σ,K=>K .n σ
 |.exit id,_,cx,σ,K=>K (.x id) σ
 |.ret,_,cx,σ,K=>K .r σ
 |.scope c,_,cx,σ,K=>den cf c cx σ K
 |.region i h k,_,cx,σ,K=>zlM cf cx i h.toList k σ λσ=>K .n σ
 |.cond c a b,_,cx,σ,K=>(match xD cx σ c with
  |some (.kb wL)=>den cf a cx σ K
  |some (.kb I)=>den cf b cx σ K
  |some (.d .b x)=>ifB x (den cf a cx σ K)<|den cf b cx σ K
  |_=>wF)
 |.block id c,_,cx,σ,K=>den cf c cx σ λt σ=>match t with
  |.x j=>OA (E j id) (K .n σ)<|K (.x j) σ
  |t=>K t σ
 |.seq a b,_,cx,σ,K=>
  (match U3 cf.an.jn (zqG a b)with
  |none=>den cf a cx σ λt σ=>(match t with
   |.n=>den cf b cx σ K
   |t=>K t σ)
  |some s=>
   let e:=EC a
   let kp:=keep σ e s.ro
   Y (den cf a (kJ cx kp) (rest σ e s.ro) λt σ=>zgR (kJ cx kp) σ t s.tg Z) λx=>
    P1 kp (λt σ=>match t with
     |.n=>den cf b cx σ K
     |t=>K t σ) s.tg x)
 |.loop c,_,cx,σ,K=>
  (match(match rid c with
   |some i=>U3 cf.an.lp i
   |none=>wF)with
  |none=>wF
  |some s=>
   let e:=EC c
   let kp:=keep σ e s.sg.ro
   let cx':=kJ cx kp
   sE cx' s.hd (rest σ e s.sg.ro) λx=>
    Y (zg (λL x=>den cf c cx' (Ua s.hd x ⟨kp.nx,[],[]⟩) λt σ=>match t with
     |.n=>sE cx' s.hd σ L
     |t=>zgR cx' σ t s.sg.tg Z) cf.fu x) λx=>P1 kp K s.sg.tg x)
 |.rangeFunc g ps a c,_,cx,σ,K=>
  (match xD cx σ g,(match rid c with
   |some i=>U3 cf.an.lp i
   |none=>wF),ps.toList with
  |some (.fn f cs),Z s,[pt]=>(match ziS cf.is f,s.sg.tg,s.hd.ns with
   |some it,[(τ,_)],[]=>(match UE it.dom cs with
    |some y=>jh (H2 a && H2 c)<|S8 cx σ K s it y τ pt (pt::(EC a++EC c)) (λcx σ K=>den cf a cx σ K) (λcx σ K=>den cf c cx σ K)
    |none=>wF)
   |_,_,_=>wF)
  |_,_,_=>wF)
 |_,_,_,_,_=>wF
def XH:(dom:N AM)->fE dom->K->N (K×K×Dv)×N (K×Od)
 |[],_,_=>([],[])
 |.d t::r,x,i=>let y:=XH r x.2 (i+1)
  ((i,0,.d t x.1)::y.1,y.2)
 |.q t::r,x,i=>let y:=XH r x.2 (i+1)
  ((i,0,.q t x.1)::y.1,y.2)
 |.own t E::r,x,i=>let y:=XH r x.2 (i+1)
  ((i,0,.ow i)::y.1,(i,.own t E x.1)::y.2)
 |.var t E::r,x,i=>let y:=XH r x.2 (i+1)
  ((i,0,.vs i t)::y.1,(i,.var t E x.1)::y.2)
 |.fn dom cod::r,x,i=>let y:=XH r x.2 (i+1)
  ((i,0,.fp dom cod x.1)::y.1,y.2)
def DD{R:Type}(cf:Cf)(σ:Sg)(r:WP)(m:RM)(k:m.D->N K->V R):V R:=match r,m,k with
 |.tmp t,.d s,k=>Bo (get ⟨0,[],[]⟩ σ t 0) s λy=>k y []
 |.tmp t,.own s E,k=>cT ⟨0,[],[]⟩ σ [] t (.own s E) k
 |.tmp t,.var s E,k=>cT ⟨0,[],[]⟩ σ [] t (.var s E) k
 |.cell t E,.d s,k=>(match get ⟨0,[],[]⟩ σ t 0,ZO cf E with
  |some (.vs o _),Z a=>(match xH σ.ob o with
   |some (.var b c z)=>jh (xam E c)<|Ty.cast b a.ty z λz=>Ty.cast a.ty s z λy=>k y [o]
   |_=>wF)
  |_,_=>wF)
 |_,_,_=>wF
def Rp{R:Type}(cf:Cf)(σ:Sg):N WP->(cod:N RM)->(mH cod->N K->V R)->V R
 |[],[],k=>k () []
 |[v],[m],k=>DD cf σ v m k
 |v::a::vs,m::m'::ms,k=>DD cf σ v m λx o=>Rp cf σ (a::vs) (m'::ms) λy os=>jh (BK os o)<|k (x,y) (o++os)
 |_,_,_=>wF
def TU(N:K):Wr->qR
 |.region _ d _=>d.toList.all λo=>jt N o.dst
 |.seq a b=>TU N a && TU N b
 |.cond _ a b=>TU N a && TU N b
 |.block _ c=>TU N c
 |.loop c=>TU N c
 |.scope c=>TU N c
 |.rangeFunc _ ps a c=>(ps.toList.all λp=>xdd p N) && (TU N a && TU N c)
 |_=>wL
def cj(σ:Sg):N WP->N RM->Sg
 |.tmp t::vs,.d _::ms=>cj (frz ⟨0,[],[]⟩ σ (.tmp t)) vs ms
 |_::vs,_::ms=>cj σ vs ms
 |_,_=>σ
def SD(cf:Cf)(fn:JP)(dom:N AM)(cod:N RM)(x:fE dom):V (mH cod):=match fn.body with
 |some c=>jh (TU fn.ntmps c && xgg (X dom) fn.ntmps)<|
  let y:=XH dom x 0
  den cf c ⟨0,[],[]⟩ ⟨X dom,y.1,y.2⟩ λt σ=>(match t with
   |.r=>Rp cf (cj σ fn.results.toList cod) fn.results.toList cod λy _=>Z y
   |.n=>Rp cf (cj σ fn.results.toList cod) fn.results.toList cod λy _=>Z y
   |_=>wF)
 |none=>wF
def FE:N AM->K->N WP
 |[],_=>[]
 |.own _ _::r,i=> .tmp i::FE r (i+1)
 |.var _ _::r,i=> .tmp i::FE r (i+1)
 |_::r,i=>FE r<|i+1
def B5(a:K->wN):N AM->K->N (K×K×Dv)
 |[],_=>[]
 |.own _ _::r,i=>(i,0,.pin<|a i)::B5 a r (i+1)
 |.var _ _::r,i=>(i,0,.pin<|a i)::B5 a r (i+1)
 |_::r,i=>B5 a r<|i+1
def zji(cf:Cf)(fn:JP)(dom:N AM)(cod:N RM)(bk:K)(b:K->wN)(x:fE dom):V (mH cod):=match fn.body with
 |some c=>jh (TU fn.ntmps c && xgg (X dom) fn.ntmps && E (X fn.results.toList+bk) (X cod) && E (X (FE dom 0)) bk && xdd 0 bk)<|
  let y:=XH dom x 0
  let a:=fn.results.toList++FE dom 0
  den cf c ⟨0,B5 b dom 0,[]⟩ ⟨X dom,y.1,y.2⟩ λt σ=>(match t with
   |.r=>Rp cf (cj σ a cod) a cod λy _=>Z y
   |.n=>Rp cf (cj σ a cod) a cod λy _=>Z y
   |_=>wF)
 |none=>wF
end
section
def gL(p:Prop):FF where
 p _ _:=p
 keep h _:=h
 sub h _:=h
def HL:N PD->N wN->N FF
 |c::cs,v::vs=>fP c.t.rep c.x v::HL cs vs
 |_,_=>[]
def tsF:(ts:N Ty)->mG ts->N wN->N FF
 |[],_,_=>[]
 |t::ts,x,vs=>fV t.rep x.1 (vs.headD uT)::tsF ts x.2 vs.tail
def csF:(ts:N Ty)->Hl ts->N wN->N FF
 |[],_,_=>[]
 |[t],x,vs=>[fV t.rep x<|vs.headD uT]
 |t::s::r,x,vs=>fV t.rep x.1 (vs.headD uT)::csF (s::r) x.2 vs.tail
def zlh(P:jP)(a:Z4)(aG:N wN)(b:N FF)(dom cod:N Ty)(g:mG dom->V (Hl cod)):Prop:=
 EB P a=wL/\∀(x:mG dom) (r:Hl cod),g x=Z r->∀vs:N wN,X vs=X dom->
  Fn P a (vs++aG).toArray (tsF dom x vs++b) XJ (λus=>csF cod r us) (λus=>X us=X cod)
def fnF(P:jP)(dom cod:N Ty)(g:mG dom->V (Hl cod))(v:wN):FF where
 p S w:=∃a aG b,v=.func (.func a) #[] aG.toArray/\zlh P a aG b dom cod g/\zE S b w
 keep:=by rintro S w w' ⟨a,aG,b,h1,c,d⟩ k;exact⟨a,aG,b,h1,c,zE.keep k d⟩
 sub:=by rintro S e w ⟨a,aG,b,h1,c,d⟩ k;exact⟨a,aG,b,h1,c,zE.sub k d⟩
def amF(P:jP):(a:AM)->a.D->wN->FF
 |.d t,x,v=>fV t.rep x v
 |.q t,x,v=>fP t.rep x v
 |.own _ _,_,_=>gL XS
 |.var _ _,_,v=>gL (∃b,v=.pointer (Z ⟨b,0,wF⟩))
 |.fn dom cod,g,v=>fnF P dom cod g v
def amM:(a:AM)->a.D->wN->N MF
 |.own t E,xs,v=>[mO t.rep E v xs]
 |.var t E,z,v=>[mP t.rep.c E v z]
 |_,_,_=>[]
def ZE(P:jP):(dom:N AM)->fE dom->N wN->N FF
 |[],_,_=>[]
 |a::r,x,vs=>amF P a x.1 (vs.headD uT)::ZE P r x.2 vs.tail
def YX:(dom:N AM)->fE dom->N wN->N MF
 |[],_,_=>[]
 |a::r,x,vs=>amM a x.1 (vs.headD uT)++YX r x.2 vs.tail
def rmF:(m:RM)->m.D->wN->N FF
 |.d t,x,v=>[fV t.rep x v]
 |.own _ _,_,_=>[]
 |.var _ _,_,v=>[gL (∃b,v=.pointer (Z ⟨b,0,wF⟩))]
def rmM:(m:RM)->m.D->wN->N MF
 |.own t E,xs,v=>[mO t.rep E v xs]
 |.var t E,z,v=>[mP t.rep.c E v z]
 |.d _,_,_=>[]
def YL:(rs:N RM)->mH rs->N wN->N FF
 |[],_,_=>[]
 |[m],x,vs=>rmF m x<|vs.headD uT
 |m::n::r,x,vs=>rmF m x.1 (vs.headD uT)++YL (n::r) x.2 vs.tail
def YH:(rs:N RM)->mH rs->N wN->N MF
 |[],_,_=>[]
 |[m],x,vs=>rmM m x<|vs.headD uT
 |m::n::r,x,vs=>rmM m x.1 (vs.headD uT)++YH (n::r) x.2 vs.tail
def J8:N AM->N wN->N wN
 |[],_=>[]
 |.own _ _::r,vs=>vs.headD uT::J8 r vs.tail
 |.var _ _::r,vs=>vs.headD uT::J8 r vs.tail
 |_::r,vs=>J8 r vs.tail
def znJ(bk n:K)(us:N wN):wN:=match bk with
 |0=>XJ us
 |b+1=>XJ<|us.take<|n-(b+1)
def zkS(dom:N AM)(vs:N wN)(bk n:K)(us:N wN):Prop:=match bk with
 |0=>X us=n
 |b+1=>X us=n/\us.drop (n-(b+1))=J8 dom vs
def xt(P:jP)(s:VM):Prop:=
 EB P s.f=wL/\∀(x:fE s.dom) (r:mH s.cod),s.M x=Z r->∀vs:N wN,X vs=X s.dom->
  FnG P s.f vs.toArray (YX s.dom x vs) (ZE P s.dom x vs) (znJ s.bk (X s.cod)) (λus=>YH s.cod r us) (λus=>YL s.cod r us) (zkS s.dom vs s.bk (X s.cod))
def xt.plain{P:jP}{s:VM}(h:xt P s)(a:s.bk=0){x:fE s.dom}{r:mH s.cod}(b:s.M x=Z r){vs:N wN}(hl:X vs=X s.dom):
 FnG P s.f vs.toArray (YX s.dom x vs) (ZE P s.dom x vs) XJ (λus=>YH s.cod r us) (λus=>YL s.cod r us) (λus=>X us=X s.cod):=by
 have h1:=h.2 x r b vs hl;rw[a]at h1;exact h1
def zef(P:jP)(t:wT)(i:K):V (K×qR×K):=match P.underlying t with
 |some (.struct fs)=>match fs[i]? with
  |some f=>match tyB P f.type with
   |some (agg,n,_,Z _)=>Z (f.offset,agg,n)
   |_=>wF
  |none=>wF
 |_=>wF
def zg7(P:jP)(t:wT)(a:TI):Prop:=match a.k with
 |.int k=>P.underlying t=Z (.int k)
 |.bool=>P.underlying t=Z .bool
 |.str=>P.underlying t=Z .string
 |.sl E=>P.underlying t=Z (.slice E)/\∃e,a.ty=.l e
 |.st n=>a.ty.rep.agg=wL/\(∀i f,xl n a.ty i=Z f->S9 P t i=Z f.off)/\
  (∃fs,P.underlying t=Z (.struct fs)/\∃pl:uL (K×K),(∀w,(fs.mapM (λf=>do pure (f.offset,<-WR f.type)):Sem (uL<|K×K)).run P w=.ok pl w)/\
   ∀i f,xl n a.ty i=Z f->pl[i]? =Z (f.off,f.f.n))/\
  ∀i f,xl n a.ty i=Z f->zef P t i=Z (f.off,f.f.rep.agg,f.f.n)
 |.ar k E=>a.ty.rep.agg=wL/\P.underlying t=Z (.array k E)
 |.pt E=>P.underlying t=Z (.pointer E)
def zgN(P:jP)(t:wT)(b:TI):Prop:=
 (∃a,Jf P t b.ty.rep.agg b.ty.rep.n b.B a/\a.cells.size=b.ty.rep.n/\(∀S w,b.ty.rep.p S b.ty.z a.cells.toList w)/\(∀s,b.ty=.l s->a=.slice wF 0 0)/\∀n i off s g st,xl n b.ty i=Z ⟨off,.l s,g,st⟩->a.cells.toList[off]? =Z (.slice wF 0 0))/\0<b.B/\0<b.ty.rep.n/\zg7 P t b
def yY(P:jP)(tt:N (K×TI)):Prop:=∀t a,U3 tt t=Z a->zgN P t a
def uI(P:jP)(tt:N (K×TI)):Prop:=∀t s E B,U3 tt t=Z ⟨.l s,.sl E,B⟩->∃a,U3 tt E=Z a/\a.ty=s
def Fl.ok(t:Ty)(f:Fl t.D):Prop:=∀z:t.D,Sub t.rep.c z f.off f.f.rep (f.get z)<|λy=>f.set y z
def zlg(f:Z4)(c:N PD)(v:wN):FF where
 p S w:=∃cs:N wN,v=.func (.func f) #[] cs.toArray/\X cs=X c/\zE S (HL c cs) w
 keep:=by rintro S w w' ⟨cs,h1,a,b⟩ k;exact⟨cs,h1,a,zE.keep k b⟩
 sub:=by rintro S d w ⟨cs,h1,a,b⟩ k;exact⟨cs,h1,a,zE.sub k b⟩
def MW(v0:wN)(lo n:K)(v:wN):Prop:=(∃b m cap,v0=.slice (Z ⟨b,0,wF⟩) m cap/\lo+n<=m/\m<=cap/\cap<=9223372036854775807/\v=.slice (if cap=lo then Z ⟨b,0,wF⟩else Z ⟨b,0+lo*1,wF⟩) n (cap-lo))\/(v0=.slice wF 0 0/\lo=0/\n=0/\v=.slice wF 0 0)
def MW.old{v0 v:wN}{lo n:K}(h:MW v0 lo n v):(∃b m cap c,v0=.slice (Z ⟨b,0,wF⟩) m cap/\lo+n<=m/\n<=c/\c<=9223372036854775807/\v=.slice (Z ⟨b,0+lo*1,wF⟩) n c)\/(n=0/\∃g c,c<=9223372036854775807/\v=.slice g 0 c):=by
 rcases h with⟨b,m,cap,h1,d,e,f,a⟩|⟨h1,d,e,f⟩
 ·by_cases hc:cap=lo
  ·rw[iq hc]at a;obtain rfl:n=0:=W
   exact .inr ⟨O,_,cap-lo,W,a⟩
  ·rw[ir hc]at a;exact .inl ⟨b,m,cap,cap-lo,h1,d,W,W,a⟩
 ·exact .inr ⟨e,wF,0,W,by rw[f]⟩
def MW.same{v0 f v:wN}{lo n m:K}(h:MW v0 lo n v)(o:MW f lo n v)(hl:∀a k c,v0=.slice a k c->a.isSome=wL->k=m)(p:∀a k c,f=.slice a k c->a.isSome=wL->k=m):v0=f:=by
 rcases h with⟨b,k,cap,h1,q,r,j,l⟩|⟨h1,q,r,j⟩<;>rcases o with⟨s,k',e,q1,q2,t,g,d⟩|⟨q1,q2,t,g⟩
 ·have e1:=hl _ _ _ h1 O;have u:=p _ _ _ q1 O;subst e1 u;rw[l]at d;simp only[Value.slice.injEq,cE]at d;have⟨i,x⟩:=d;obtain rfl:cap=e:=W
  have w:b=s:=by
   by_cases hc:cap=lo
   ·rw[iq hc,iq hc]at i;simpa using i
   ·rw[ir hc,ir hc]at i;simpa using i
  rw[h1,q1,w]
 ·rw[l]at g;exfalso;simp only[Value.slice.injEq]at g;by_cases hc:cap=lo
  ·rw[iq hc]at g;cases g.1
  ·rw[ir hc]at g;cases g.1
 ·rw[j]at d;exfalso;simp only[Value.slice.injEq]at d;by_cases hc:e=lo
  ·rw[iq hc]at d;cases d.1
  ·rw[ir hc]at d;cases d.1
 ·rw[h1,q1]
def zqt(F:FF)(p:Prop):FF where
 p S w:=F.p S w/\p
 keep h k:=⟨F.keep h.1 k,h.2⟩
 sub h k:=⟨F.sub h.1 k,h.2⟩
def vI(P:jP)(vs:K->wN):Dv->wN->FF
 |.d t x,v=>fV t.rep x v
 |.q t x,v=>fP t.rep x v
 |.kb b,v=>gL<|v=.bool b
 |.un,v=>gL<|v=uT
 |.nil,v=>gL<|v=.slice wF 0 0
 |.ow o,v=>gL<|v=vs o
 |.ep o t j f,v=>gL (Fl.ok t f/\∃b n cap,vs o=.slice (Z ⟨b,0,wF⟩) n cap/\j<n/\v=.pointer (Z ⟨b,0+j*t.rep.n+f.off,wF⟩))
 |.sv o t lo n,v=>gL<|(∃b m cap c,vs o=.slice (Z ⟨b,0,wF⟩) m cap/\lo+n<=m/\n<=c/\c<=9223372036854775807/\v=.slice (Z ⟨b,0+lo*t.rep.n,wF⟩) n c)\/(n=0/\∃a c,c<=9223372036854775807/\v=.slice a 0 c)
 |.vs o t,v=>gL (v=vs o/\∃b,vs o=.pointer (Z ⟨b,0,wF⟩))
 |.vp o t f,v=>gL (Fl.ok t f/\∃b,vs o=.pointer (Z ⟨b,0,wF⟩)/\v=.pointer (Z ⟨b,0+f.off,wF⟩))
 |.fn f c,v=>zlg f c v
 |.fp dom cod g,v=>fnF P dom cod g v
 |.pin u,v=>gL<|v=u
 |.mw o,v=>gL<|v=yC (vs o)
 |.mv o lo n,v=>gL<|MW (yC<|vs o) lo n v
 |.hp o j,v=>gL (∃b n cap,yC (vs o)=.slice (Z ⟨b,0,wF⟩) n cap/\j<n/\v=.pointer (Z ⟨b,0+j*1,wF⟩))
 |.rw o r,v=>gL<|(xU<|vs o)[r]? =Z v
 |.rp o t r j f,v=>gL (Fl.ok t f/\∃b n cap,(xU<|vs o)[r]? =Z (.slice (Z ⟨b,0,wF⟩) n cap)/\j<n/\v=.pointer (Z ⟨b,0+j*t.rep.n+f.off,wF⟩))
 |.yd o,v=>gL<|v=.func (.yield<|lOf<|yC<|vs o) #[] #[]
 |.np,v=>gL<|v=.pointer wF
 |.vf o t n i,v=>gL (∃b f,yC (vs o)=.pointer (Z ⟨b,0,wF⟩)/\xl n t i=Z f/\v=.pointer (Z ⟨b,0+f.off,wF⟩))
 |.dz t x n i,v=>zqt (fV t.rep x v) (∃f,xl n t i=Z f/\v.cells.toList[f.off]? =Z (.slice wF 0 0))
 |.bm f o t,v=>gL (v=.func (.func f) #[vs o] #[]/\∃b,vs o=.pointer (Z ⟨b,0,wF⟩))
def wo(P:jP)(vs:K->wN)(d:Dv)(v:wN)(i:K):FF where
 p S w:=match i with
  |0=>(vI P vs d v).p S w
  |i+1=>∃us u,v=.tuple us/\us[i]? =Z u/\(vI P vs d u).p S w
 keep:=by
  intro S w w' h k
  cases i with
  |zero=>exact(vI P vs d v).keep h k
  |succ i=>have⟨us,u,h1,a,b⟩:=h;exact⟨us,u,h1,a,(vI P vs d u).keep b k⟩
 sub:=by
  intro S c w h k
  cases i with
  |zero=>exact(vI P vs d v).sub h k
  |succ i=>have⟨us,u,h1,a,b⟩:=h;exact⟨us,u,h1,a,(vI P vs d u).sub b k⟩
def vrP{α:Type}(s:Ty)(f:V (Fl α)):Prop:=∃(off:K) (g:α->(Ty.l s).D) (st:(Ty.l s).D->α->α),f=Z ⟨off,.l s,g,st⟩
def JZ(vs:K->wN)(e:K×Od):MF:=match e.2 with
 |.own t E xs=>mO t.rep E (vs e.1) xs
 |.var t E z=>mP t.rep.c E (vs e.1) z
 |.mat t E E1 xss ix=>tn t.rep E E1 (vs e.1) xss ix
 |.bo t E a xs=>mBo t.rep E a (vs e.1) xs
 |.ho a=>mHo a<|vs e.1
 |.vr t E s E1 n i z xs=>mVr (vrP s<|xl n t i) t.rep E (Xu<|xl n t i) (uH s (xl n t i) []) s.rep E1 (vs e.1) z xs
 |.vh t E s E1 n i z=>mVh (vrP s<|xl n t i) t.rep E (Xu<|xl n t i) (uH s (xl n t i) []) (vs e.1) z
 |.hid t E X Y d b g x=>DI [mPr<|RL Tryz.prog (lOf<|yC<|vs e.1) t.rep E d b g,d x<|(xU<|vs e.1).headD uT]
 |.hiy Y b y=>b y<|(xU<|vs e.1).headD uT
def MS(vs:K->wN)(ob:N (K×Od)):N MF:=ob.map<|JZ vs
def RS(P:jP)(vs:K->wN)(env:y7)(rg:N (K×K×Dv)):N FF:=rg.map λe=>wo P vs e.2.2 (env e.1) e.2.1
structure Fr where
 we:wP
 Se:K->Prop
 F:N MF
 G:N FF
structure Bd(cx σ:Sg):Prop where
 o1:∀e∈σ.ob,e.1<σ.nx
 o2:∀e∈cx.ob,e.1<σ.nx
 r1:∀e∈σ.rg,∀o,vt e.2.2=Z o->o<σ.nx
 r2:∀e∈cx.rg,∀o,vt e.2.2=Z o->o<σ.nx
def Yw(P:jP)(fr:Fr)(cx σ:Sg)(env:y7)(w:wP):Prop:=
 Bd cx σ/\∃vs:K->wN,St fr.we fr.Se (MS vs σ.ob++(MS vs cx.ob++fr.F)) (RS P vs env σ.rg++(RS P vs env cx.rg++fr.G)) w
section
variable{P:jP}{vs vs':wr->wN}{env env':y7}
def ga{d:Dv}(h:∀o,vt d=Z o->vs' o=vs o)(v:wN):vI P vs' d v=vI P vs d v:=by
 cases d<;>simp only[vI]<;>simp only[vt,xat,forall_eq']at h<;>rw[h]
def wJ:∀{ob:N (K×Od)},(∀e∈ob,vs' e.1=vs e.1)->MS vs' ob=MS vs ob
 |[],_=>rfl
 |(o,x)::r,h=>by
  have h1:=h (o,x)<|H1;have a:=wJ (ob:=r) λe b=>h e<|UV _ b;show JZ vs' (o,x)::MS vs' r=JZ vs (o,x)::MS vs r;rw[a];cases x<;>simp only[JZ]<;>rw[h1]
def jI:∀{rg:N (K×K×Dv)},(∀e∈rg,∀o,vt e.2.2=Z o->vs' o=vs o)->(∀e∈rg,env' e.1=env e.1)->RS P vs' env' rg=RS P vs env rg
 |[],_,_=>rfl
 |(t,i,d)::r,h,b=>by
  show wo P vs' d (env' t) i::RS P vs' env' r=wo P vs d (env t) i::RS P vs env r;rw[jI (rg:=r) (λe a=>h e<|UV _ a)<|λe a=>b e<|UV _ a,b (t,i,d)<|H1];congr 1;unfold wo;simp only[ga (P:=P)<|h (t,i,d)<|H1]
theorem uE{S:K->Prop}{w:wP}:∀{Γ:N FF},zE S Γ w↔∀f∈Γ,f.p S w
 |[]=>⟨λ_ f h=>wS h Nm,λ_=>wR⟩
 |f::r=>by
  have a:=uE (S:=S) (w:=w) (Γ:=r);constructor
  ·intro h x hx;obtain rfl|hx:=xaf.1 hx
   ·exact h.1
   ·exact a.1 h.2 x hx
  ·intro h;exact⟨h f<|H1,a.2 λx hx=>h x<|UV _ hx⟩
theorem zO{a b:K}(h:E a b=wL):a=b:=xcL h
theorem gb:∀{rg:N (K×K×Dv)}{t i:K}{d:Dv},ig rg t i=Z d->(t,i,d)∈rg
 |(b,c,e)::r,t,i,d,h=>by
  unfold ig at h;cases a:E b t && E c i
  ·rw[a]at h;exact UV _<|gb h
  ·rw[a]at h;simp only[Z2,xat]at h;rw[xac]at a;rw[<-h,zO a.1,zO a.2];exact H1
def K2{S:K->Prop}{w:wP}{rg:N (K×K×Dv)}(h:zE S (RS P vs env rg) w){t i:K}{d:Dv}(hd:(t,i,d)∈rg):(wo P vs d (env t) i).p S w:=
 uE.1 h _ (xas.2 ⟨(t,i,d),hd,O⟩)
theorem vq:∀{ob:N (K×Od)}{o:K}{x:Od},xH ob o=Z x->∃i,ob[i]? =Z (o,x)/\(∀y,jY ob o y=ob.set i (o,y))/\yw ob o=ob.eraseIdx i
 |(b,e)::r,o,x,h=>by
  unfold xH at h;cases a:E b o
  ·rw[a]at h;have⟨i,h1,c,d⟩:=vq (ob:=r) h;exact⟨i+1,by simpa using h1,λy=>by unfold jY;rw[a];simp only[Z3,xfo,c y],by unfold yw;rw[a];simp only[Z3,List.eraseIdx_cons_succ,d]⟩
  ·rw[a]at h;simp only[Z2,xat]at h;have:=zO a;subst h;subst this;exact⟨0,O,λy=>by unfold jY;rw[a];rfl,by unfold yw;rw[a];rfl⟩
theorem JI{ob:N (K×Od)}{i:K}{e:K×Od}{R:N MF}(h:ob[i]? =Z e):(MS vs ob++R)[i]? =Z (JZ vs e):=by grind [MS,xar,xaX]
theorem Cj{ob:N (K×Od)}{i:K}{e a:K×Od}{R:N MF}(h:ob[i]? =Z e):(MS vs ob++R).set i (JZ vs a)=MS vs (ob.set i a)++R:=by grind [MS,xar,xeW,List.map_set]
theorem zhD{α:Type _}{β:Type _}(f:α->β):∀(l:N α) (i:K),(l.eraseIdx i).map f=(l.map f).eraseIdx i
 |[],i=>by simp
 |_::_,0=>rfl
 |a::l,i+1=>by simp only[List.eraseIdx_cons_succ,xbS,zhD f l i]
theorem c8{ob:N (K×Od)}{i:K}{e:K×Od}{R:N MF}(h:ob[i]? =Z e):(MS vs ob++R).eraseIdx i=MS vs (ob.eraseIdx i)++R:=by grind [MS,zhD,xar,List.eraseIdx_append_of_lt_length]
theorem zfv{cx σ:Sg}{o:K}{x:Od}(h:Va cx σ o=Z x):(o,x)∈σ.ob\/(o,x)∈cx.ob:=by grind [Va,vq,xbp]
theorem L6{cx σ:Sg}{t i:K}{d:Dv}(h:get cx σ t i=Z d):(t,i,d)∈σ.rg\/(t,i,d)∈cx.rg:=by grind [get,gb]
def ZM{S:K->Prop}{w:wP}{cx σ:Sg}{o:K}{x:Od}{F:N MF}(a:yM S (MS vs σ.ob++(MS vs cx.ob++F)) w)(h:Va cx σ o=Z x):(JZ vs (o,x)).p S w:=by
 refine ZT.1 a _ ?_;obtain h|h:=zfv h
 ·exact So.2 (.inl<|xas.2 ⟨_,h,O⟩)
 ·exact So.2 (.inr<|So.2 (.inl<|xas.2 ⟨_,h,O⟩))
end
def yj{R:Type}{s t:Ty}{x:s.D}{k:t.D->V R}{r:R}(h:Ty.cast s t x k=Z r):∃e:s=t,k (e▸x)=Z r:=by grind [Ty.cast]
def z7{R:Type}{b:qR}{x:V R}{r:R}(h:jh b x=Z r):b=wL/\x=Z r:=by grind
end
section
open Go.ChangeShapes Go.WideShapes Go.ChangeAt Go.RowKit
def X8(P:jP):Ty->wT->Prop
 |.i,T=>P.underlying T=Z (.int .i64)
 |.u,T=>P.underlying T=Z (.int .u64)
 |.b,T=>P.underlying T=Z .bool
 |.l t,T=>∃E,P.underlying T=Z (.slice E)/\P.cellsOf E=t.n/\0<t.n/\X8 P t E
 |.p s t,T=>∃f0 f1:Field,P.underlying T=Z (.struct #[f0,f1])/\P.cellsOf T=s.n+t.n/\f0.offset=0/\f1.offset=s.n/\P.cellsOf f0.type=s.n/\P.cellsOf f1.type=t.n/\X8 P s f0.type/\X8 P t f1.type
 |.ch,T=>P.underlying T=Z (.int .u8)
 |.tx,T=>P.underlying T=Z .string
 |.a _ _,_=>QR
 |.po _,_=>QR
 |.w1 _,_=>QR
def zot(P:jP)(T:wT):V ((K×wT)×(K×wT)):=match P.underlying T with
 |some (.struct fs)=>match fs.toList with
  |[f0,f1]=>Z ((f0.offset,f0.type),(f1.offset,f1.type))
  |_=>wF
 |_=>wF
def X8.st{P:jP}{s t:Ty}{T A B:wT}(h:zot P T=Z ((0,A),(s.n,B)))(hc:P.cellsOf T=s.n+t.n)(b:P.cellsOf A=s.n)(c:P.cellsOf B=t.n)(h1:X8 P s A)(d:X8 P t B):X8 P (.p s t) T:=by
 unfold zot at h;split at h
 ·next fs e=>
  split at h
  ·next f0 f1 g=>
   simp only[xat,xcI]at h;have⟨⟨f,a⟩,a3,a4⟩:=h;have:fs= #[f0,f1]:=by cases fs;simp_all
   subst this;exact⟨f0,f1,e,hc,f,a3,by rw[a];exact b,by rw[a4];exact c,by rw[a];exact h1,by rw[a4];exact d⟩
  ·cases h
 ·cases h
def X8.sl{P:jP}{t:Ty}{T E:wT}(h:P.underlying T=Z (.slice E))(hc:P.cellsOf E=t.n)(hp:0<t.n)(h1:X8 P t E):X8 P (.l t) T:=⟨E,h,hc,hp,h1⟩
def Hj{w:wP}{b n:K}{a:KW}{c:N wN}(h:w.cells? b a n=Z c):X c=n/\∀i v,c[i]? =Z v->w.cell? (a.add i)=Z v:=by
 unfold World.cells? at h;split at h
 ·have:∀(l:N K) (c:N wN),l.mapM (λi=>w.cell?<|a.add i)=Z c->X c=X l/\∀(i j:K) (v:wN),c[i]? =Z v->l[i]? =Z j->w.cell? (a.add j)=Z v:=by
   intro l
   induction l with
   |nil=>intro c hc;simp at hc;subst hc;exact⟨O,λi j v hv=>by simp at hv⟩
   |cons x l g=>
    intro c hc;rw[List.mapM_cons]at hc
    cases d:w.cell? (a.add x)with
    |none=>rw[d]at hc;simp at hc
    |some y=>
     rw[d]at hc
     cases hl:l.mapM (λi=>w.cell?<|a.add i)with
     |none=>rw[hl]at hc;simp at hc
     |some r=>
      rw[hl]at hc;have hc:y::r=c:=by simpa using hc
      subst hc;have⟨h1,e⟩:=g r hl;refine⟨by simp[h1],λi j v hv f=> ?_⟩
      cases i with
      |zero=>simp at hv f;subst hv;subst f;exact d
      |succ i=>exact e i j v (by simpa using hv)<|by simpa using f
  have⟨h1,e⟩:=this _ _ h;refine⟨by simpa using h1,λi v hv=>e i i v hv ?_⟩;have:=(xar.1 hv).1;rw[xfd<|by rw[h1]at this;simpa using this]
 ·cases h
def zcn{w:wP}{a:KW}{v:wN}(h:w.cell? a=Z v):a=⟨a.block,a.off,wF⟩/\a.block<w.heap.size:=by
 unfold World.cell? at h;split at h
 ·next c _ _ d=>
  split at h
  ·cases h
  ·next e=>
   refine⟨?_,(xbk.1 d).1⟩;have⟨b,o,s⟩:=a
   cases s with
   |none=>rfl
   |some x=>simp at e
 ·cases h
def zla(a:KW):a.add 0=a:=by grind [Addr.add]
section
variable{H:Type}{enc:wT×wN->H}{P:jP}{W:wP}{sp:wr->qR}{held:qR}
def Px{t:Ty}{b o:K}(a:b<W.heap.size):∀(len:K),(∀i,i<len->∃(c:N wN) (z:t.D),W.cells? 0 (⟨b,o+i*t.n,wF⟩:KW) t.n=Z c/\t.rep.p (λ_=>XS) z c W)->
 ∃(xs:N t.D) (cs:N wN),X xs=len/\At W b o cs/\yK t.rep (λ_=>XS) xs cs W
 |0,_=>⟨[],[],O,⟨a,λj v hv=>by simp at hv⟩,O⟩
 |len+1,h=>by
  have⟨xs,cs,h1,e,d⟩:=Px a len λi hi=>h i iP;have⟨c,z,f,g⟩:=h len iP;have⟨l,k⟩:=Hj f;have hl:=d.len;rw[h1,Ty.n_rep]at hl;refine⟨xs++[z],cs++c,by simp[h1],⟨a,λj v hv=> ?_⟩,d.append ⟨c,[],i7,g,O⟩⟩;rcases xca j (X cs) with hj|hj
  ·rw[xaX hj]at hv;exact e.2 j v hv
  ·rw[xbr hj]at hv;have:=k _ v hv;rw[qW]at this;rw[<-this];congr 2;lia
def oE:∀(t:Ty) {T:wT}{n:K}{cs:N wN}{x:gT H×N Us},X8 P t T->DataW.trod enc P W 0 sp held n T cs=Z x->∃z:t.D,t.rep.p (λ_=>XS) z cs W
 |.i,T,n,cs,x,ht,h=>by
  obtain⟨v,rfl,_,f⟩:=DataW.trod_int ht h;have: -9223372036854775808<=v/\v<=9223372036854775807:=by simpa[Lit.wf,IntKind.min,IntKind.max,xeo,xeM]using f
  exact⟨v,O,this.1,this.2⟩
 |.u,T,n,cs,x,ht,h=>by
  obtain⟨v,rfl,_,f⟩:=DataW.trod_int ht h;have:0<=v/\v<=18446744073709551615:=by simpa[Lit.wf,IntKind.min,IntKind.max,xeo,xeM]using f
  obtain⟨k,rfl⟩:=xaE this.1;exact⟨k,O,iP⟩
 |.ch,T,n,cs,x,ht,h=>by
  obtain⟨v,rfl,_,f⟩:=DataW.trod_int ht h;have:0<=v/\v<=255:=by simpa[Lit.wf,IntKind.min,IntKind.max,xeo,xeM]using f
  obtain⟨k,rfl⟩:=xaE this.1;exact⟨k,O,iP⟩
 |.tx,T,n,cs,x,ht,h=>by
  obtain⟨s,rfl,_,B⟩:=DataW.trod_string ht h;exact⟨xd s,s,O,O,B⟩
 |.b,T,n,cs,x,ht,h=>by
  obtain⟨v,rfl,_⟩:=DataW.trod_bool ht h;exact⟨v,O⟩
 |.l t,T,n,cs,x,ht,h=>by
  have⟨E,g,hc,S,C⟩:=ht;rcases DataW.trod_slice g h with⟨rfl,_⟩|⟨a,len,cap,j,rest,m,_,rfl,_,_,U,hd,Y,q,_,_⟩
  ·exact⟨[],_,O,SlP.nil⟩
  ·rw[hc]at q;have d:∀i,i<len->∃(c:N wN) (z:t.D),W.cells? 0 (a.add<|i*t.n) t.n=Z c/\t.rep.p (λ_=>XS) z c W:=by
    intro i hi;have h1:=q i hi;rw[xab iP]at h1;have⟨c,r,w⟩:=Option.bind_eq_some_iff.1 h1;have⟨z,F⟩:=oE t C w;exact⟨c,z,r,F⟩
   obtain h0|h0:=xcx len
   ·subst h0;exact⟨[],_,O,Z a,cap,O,xan _,hd,.inl O⟩
   ·have⟨c,z,h1,r⟩:=d 0 h0;have⟨w,G⟩:=Hj h1;have y:=G 0 (c[0]'iP) (xab iP);rw[xcp,zla,zla]at y;have⟨A,J⟩:=zcn y;rw[A]at d;have⟨xs,cs,g1,L,M⟩:=Px (t:=t) (b:=a.block) (o:=a.off) J len λi hi=>by
     have:=d i hi;rw[qW]at this;exact this
    refine⟨xs,_,O,Z a,cap,by rw[g1],iP,hd,.inr ⟨a.block,a.off,cs,by rw[<-A],wR,L,M⟩⟩
 |.p s t,T,n,cs,x,ht,h=>by
  have⟨f0,f1,g,hc,o0,o1,c0,c1,h0,h1⟩:=ht;have⟨y0,y1,m,_,hl,g0,g1⟩:=trod_struct2 g h;rw[o0,c0,List.drop_zero]at g0;rw[o1,c1]at g1;have⟨z0,Q⟩:=oE s h0 g0;have⟨R,k1⟩:=oE t h1 g1;refine⟨(z0,R),cs.take s.n,(cs.drop s.n).take t.n,?_,Q,k1⟩;rw[hc]at hl;have e:(cs.drop s.n).take t.n=cs.drop s.n:=xaQ (by simp;lia);rw[e,xbv]
 |.a _ _,_,_,_,_,ht,_=>ht.elim
 |.po _,_,_,_,_,ht,_=>ht.elim
 |.w1 _,_,_,_,_,ht,_=>ht.elim
def zdL{t:Ty}{T:wT}{v:wN}{d:gT H}{ps:N Us}(ht:X8 P t T)(hv:v=t.rep.val v.cells.toList)(h:DataW.Trod enc P W 0 sp held T v d ps):∃z:t.D,(fV t.rep z v).p (λ_=>XS) W:=by
 have⟨n,h⟩:=h;have⟨z,a⟩:=oE t ht h;exact⟨z,_,hv,a⟩
end
def zel{P:jP}{s:VM}(h:xt P s)(c:s.bk=0)(hc:s.cod=[.d .b])(x:fE s.dom)(g:s.M x=Z (hc▸wL:mH s.cod)){vs:N wN}(hl:X vs=X s.dom)(i:YX s.dom x vs=[]){W:wP}(a:zE (λ_=>XS) (ZE P s.dom x vs) W):
 UP P s.f vs.toArray W λe j=>e=.returned (.bool wL)/\K7 W j:=by
 have⟨f,dom,cod,M,bk⟩:=s;simp only at hc c;subst hc;subst c;have h1:=h.2 x wL g vs hl W (λ_=>XS) [] [] W;simp only[i,xbA,xbO]at h1;refine(h1 ⟨yA.refl _ _,λ_ _=>wR,wR,λ_=>XS,λ_ _=>wR,λ_ _=>wR,λm k=>wS k Nm,wR,a⟩).mono ?_;rintro e w' ⟨us,l,hd,n⟩;have⟨o,_,_,S,_,_,_,_,q⟩:=n;refine⟨?_,o⟩
 match us,hd with
 |[u],_=>
  have:u=.bool wL:=nT (show(fV Pc wL u).p S w' from q.1);rw[l,this];rfl
end
section
open Go.ChangeShapes Go.WideShapes Go.ChangeAt Go.RowKit
section
variable{H:Type}{enc:wT×wN->H}{P:jP}{W:wP}{sp:wr->qR}{held:qR}
def znt{r:Reach}{b0:K}:∀(t:Ty) {T:wT}{v:wN},X8 P t T->xey P W r b0 T v->v=t.rep.val v.cells.toList
 |.i,T,v,ht,h=>by obtain⟨n,rfl⟩:=okWide_int ht h;rfl
 |.u,T,v,ht,h=>by obtain⟨n,rfl⟩:=okWide_int ht h;rfl
 |.ch,T,v,ht,h=>by obtain⟨n,rfl⟩:=okWide_int ht h;rfl
 |.tx,T,v,ht,h=>by
  have ht:P.underlying T=Z .string:=ht;simp only[xey,ht,Cell.okWide]at h;unfold Cell.ok at h;rw[ht]at h;cases v<;>simp at h;rfl
 |.b,T,v,ht,h=>by
  have ht:P.underlying T=Z .bool:=ht;simp only[xey,ht,Cell.okWide]at h;unfold Cell.ok at h;rw[ht]at h;cases v<;>simp at h;rfl
 |.l t,T,v,ht,h=>by
  have⟨E,ht,_⟩:=ht;simp only[xey,ht,Cell.okWide]at h;unfold Cell.ok at h;rw[ht]at h;cases v<;>simp at h;rfl
 |.p s t,T,v,ht,h=>by
  have⟨f0,f1,ht,_⟩:=ht;simp only[xey,ht]at h;obtain⟨cs,rfl,_⟩:=h;show Value.agg cs=Value.agg cs.toList.toArray;simp
 |.a _ _,T,v,ht,_=>ht.elim
 |.po _,T,v,ht,_=>ht.elim
 |.w1 _,T,v,ht,_=>ht.elim
def zew{r:Reach}{b0:K}{t:Ty}{T:wT}{v:wN}{d:gT H}{ps:N Us}(ht:X8 P t T)(hv:xey P W r b0 T v)(h:DataW.Trod enc P W 0 sp held T v d ps):∃z:t.D,(fV t.rep z v).p (λ_=>XS) W:=
 zdL ht (znt t ht hv) h
def Ty.ok:(t:Ty)->t.D->Prop
 |.i,(x:J)=> -9223372036854775808<=x/\x<=9223372036854775807
 |.u,(x:K)=>x<18446744073709551616
 |.b,_=>XS
 |.ch,(x:K)=>x<256
 |.tx,xs=>xaG xs<=9223372036854775807/\∀x,List.Mem x xs->x<256
 |.l t,xs=>xaG xs<=9223372036854775807/\∀x,List.Mem x xs->t.ok x
 |.p s t,x=>s.ok x.1/\t.ok x.2
 |.a _ t,xs=>∀x,List.Mem x xs->t.ok x
 |.po _,_=>XS
 |.w1 t,x=>t.ok x
def BQ{α:Type}{e:zW α}{S:K->Prop}{w:wP}{q:α->Prop}(b:∀x cs,e.p S x cs w->q x):∀{xs:N α}{cs:N wN},yK e S xs cs w->∀x,List.Mem x xs->q x
 |[],_,_,x,a=>nomatch a
 |y::ys,_,⟨c,r,_,hc,d⟩,x,a=>by
  cases a with
  |head=>exact b _ _ hc
  |tail _ a=>exact BQ b d x a
def sX:∀(t:Ty) {S:K->Prop}{z:t.D}{cs:N wN}{w:wP},t.rep.p S z cs w->t.ok z
 |.i,_,_,_,_,h=>h.2
 |.u,_,_,_,_,h=>h.2
 |.b,_,_,_,_,_=>trivial
 |.ch,_,_,_,_,h=>h.2
 |.tx,_,xs,_,_,h=>by
  have⟨s,_,h1,g⟩:=h;have f:=jk s;have h1:xd s=xs:=h1;refine⟨by show xaG (α:=K) xs<=_;rw[<-h1,f];exact g,λx e=> ?_⟩;have e:x∈xd s:=by rw[h1];exact e
  obtain⟨b,_,rfl⟩:=xas.1 e;exact UInt8.toNat_lt _
 |.l t,S,xs,_,w,h=>by
  have⟨v,_,m,cap,_,h1,g,f⟩:=h;refine⟨xap h1 g,?_⟩;obtain f|⟨b,o,cs,_,_,_,j⟩:=f
  ·have f:xs=([]:N t.D):=f;subst f;exact λx e=>nomatch e
  ·exact BQ (λx cs e=>sX t e) j
 |.p s t,S,z,_,w,h=>by
  have⟨c,d,_,h1,g⟩:=h;exact⟨sX s h1,sX t g⟩
 |.a k t,S,xs,_,w,h=>by
  have⟨_,h⟩:=h;exact BQ (λx cs e=>sX t e) h
 |.po _,_,_,_,_,_=>trivial
 |.w1 t,S,z,cs,w,h=>sX t (S:=S) (cs:=cs) (w:=w) h
def zfn:(dom:N AM)->fE dom->Prop
 |[],_=>XS
 |.d t::r,x=>t.ok x.1/\zfn r x.2
 |_::r,x=>zfn r x.2
def Nk(P:jP):N AM->N wT->Prop
 |[],[]=>XS
 |.d t::r,T::Ts=>X8 P t T/\Nk P r Ts
 |_,_=>QR
def zaO:∀{dom:N AM}{Ts:N wT},Nk P dom Ts->X dom=X Ts
 |[],[],_=>rfl
 |.d t::r,T::Ts,h=>by simp[zaO h.2]
 |.d _::_,[],h=>h.elim
 |[],_::_,h=>h.elim
 |.q _::_,_,h=>h.elim
 |.own _ _::_,_,h=>h.elim
 |.var _ _::_,_,h=>h.elim
 |.fn _ _::_,_,h=>h.elim
def zgn:∀{dom:N AM}{Ts:N wT},Nk P dom Ts->∀(x:fE dom) (vs:N wN),YX dom x vs=[]
 |[],_,_,_,_=>rfl
 |.d t::r,T::Ts,h,x,vs=>by show[]++YX r x.2 vs.tail=[];rw[zgn h.2];rfl
 |.d _::_,[],h,_,_=>h.elim
 |.q _::_,_,h,_,_=>h.elim
 |.own _ _::_,_,h,_,_=>h.elim
 |.var _ _::_,_,h,_,_=>h.elim
 |.fn _ _::_,_,h,_,_=>h.elim
def Gl{r:Reach}{b0:K}:∀{dom:N AM}{Ts:N wT}{vs:N wN}{ds:N (gT H)}{ps:N Us},Nk P dom Ts->(∀(j:K) t v,Ts[j]? =Z t->vs[j]? =Z v->xey P W r b0 t v)->xeT enc P W 0 sp held Ts vs ds ps->
 X vs=X Ts/\∃x:fE dom,zfn dom x/\zE (λ_=>XS) (ZE P dom x vs) W
 |[],[],[],[],_,_,_,_=>⟨O,(),wR,wR⟩
 |.d t::dom,T::Ts,v::vs,d::ds,ps,h,hv,a=>by
  have⟨p,q,h1,b,_⟩:=a;have⟨hl,x,hd,c⟩:=Gl (vs:=vs) (ds:=ds) h.2 (λj e f ht g=>hv (j+1) e f (by simpa using ht)<|by simpa using g) b;have⟨z,i⟩:=zew h.1 (hv 0 T v O O) h1;have⟨cs,k,hc⟩:=i;exact⟨by simp[hl],(z,x),⟨sX t hc,hd⟩,⟨cs,k,hc⟩,c⟩
 |[],[],_::_,_,_,_,_,h=>h.elim
 |[],[],[],_::_,_,_,_,h=>h.elim
 |.d _::_,_::_,[],_,_,_,_,h=>h.elim
 |.d _::_,_::_,_::_,[],_,_,_,h=>h.elim
 |.d _::_,[],_,_,_,h,_,_=>h.elim
 |[],_::_,_,_,_,h,_,_=>h.elim
 |.q _::_,_,_,_,_,h,_,_=>h.elim
 |.own _ _::_,_,_,_,_,h,_,_=>h.elim
 |.var _ _::_,_,_,_,_,h,_,_=>h.elim
 |.fn _ _::_,_,_,_,_,h,_,_=>h.elim
def zfM{c:wP}(d:K7 W c){p:Us}(hp:p.block<W.heap.size):W.sameAt c p:=by
 cases p with
 |cell b off=>exact World.cell?_of_block (a:=⟨b,off,wF⟩)<|d.block b hp wR
 |map b=>exact d.block b hp wR
def lA{c:wP}{b:K->qR}(hl:laidOutB P=wL):∀{Ts:N wT}{vs:N wN}{ds:N (gT H)}{ps:N Us},(∀t∈Ts,P.readableRec t=wL/\t<P.types.size)->xeT enc P W 0 (λ_=>wL) wL Ts vs ds ps->
 (∀p∈ps,W.sameAt c p)->(∀p∈ps,b p.block=wL)->xeT enc P c 0 b wL Ts vs ds ps
 |[],[],[],_,_,h,_,_=>h
 |T::Ts,v::vs,d::ds,ps,e,h,h1,f=>by
  obtain⟨p,q,g1,i,rfl⟩:=h;have g:=e T<|H1
  exact⟨p,q,Go.WideElems.Trod_stays hl g.1 g.2 g1 (λx a=>h1 x<|So.2 (.inl a))<|λx a=>f x<|So.2 (.inl a),
   lA hl (λt ht=>e t<|UV _ ht) i (λx a=>h1 x<|So.2 (.inr a)) (λx a=>f x<|So.2 (.inr a)),O⟩
 |[],[],_::_,_,_,h,_,_=>h.elim
 |[],_::_,_,_,_,h,_,_=>h.elim
 |_::_,[],_,_,_,h,_,_=>h.elim
 |_::_,_::_,[],_,_,h,_,_=>h.elim
end
theorem zjs{H:Type}{enc:TypeId×Value->H}{P:Program}{f:Func}{s:ChangeSpec}{apart fresh ha:Bool}{W:World}{base:Nat}{args:Array Value}{ds gs:List (DataW H)}{before:List MemPlace}{sg:VM}
 (hW:DataW.Whole enc P f.params.toList s.vars apart W args.toList ds gs before) (he:s.vars=[]) (hj:∀(j:Nat) t v,f.params[j]? =some t->args[j]? =some v->xey P W .any base t v)
 (hl:laidOutB P=true) (hr:∀t∈f.params.toList,P.readableRec t=true/\t<P.types.size) (hf:Nk P sg.dom f.params.toList) (hc:sg.cod=[.d .b]) (hS:xt P sg) (hM:∀x,zfn sg.dom x->sg.M x=some (hc▸true:mH sg.cod)) {B:TypeId} (hB:f.resultTypes= #[B]) (hn:P.underlying B=some .bool)
 (hi:s.fn H (ds++gs)={results:=[.lit (.bool true)],args:=ds}) (hk:sg.bk=0:=by rfl):
 Calls P sg.f args W fun e W'=>∃v,e=.returned v/\s.post enc P f apart fresh ha false W args v W':=by
 obtain⟨p,q,hA,hV,ho,hz,hC⟩:=id hW;rw[he]at hV
 cases gs with
 |cons g gs=>exact hV.elim
 |nil=>
  have hq:q=[]:=hV;subst hq;obtain⟨hm,x,hu,hx⟩:=Gl (vs:=args.toList) hf (fun j t v ht hv=>hj j t v (by simpa using ht)<|by simpa using hv) hA;refine(zel hS hk hc x (hM x hu) (vs:=args.toList) (by rw[hm,zaO hf]) (zgn hf x _) hx).mono ?_;rintro e W' ⟨rfl,hg⟩;refine⟨_,rfl,ze1 (pa:=before) (pv:=[]) hW (fun b sp hd=> ?_) (fun sp hw=> ?_) (fun sp _=> ?_) (by simp) hg⟩
  ·rw[hB,hi];exact⟨[],[],shut_bool hn _,rfl,rfl⟩
  ·rw[hi];have hy:xeT enc P W 0 (fun _=>true) true f.params.toList args.toList ds before:=by rw[ho,xbO];exact hA
   exact lA hl hr hy (fun p hp=>zfM hg<|hW.lt p hp) hw
  ·rw[he,hi];rfl
end
section
def znI:wW->V Z5
 |.tmp t=>Z t
 |_=>wF
def yI(a:Op):N Z5:=a.operands.toList.filterMap znI
def Lk(P:jP)(vs:K->wN)(env:y7)(S:K->Prop)(w:wP)(cx σ:Sg)(t:Z5):Prop:=
 ∀i d,get cx σ t i=Z d->(wo P vs d (env t) i).p S w
def Xz(P:jP)(vs:K->wN)(env:y7)(S:K->Prop)(w:wP)(cx σ:Sg)(x:wW):Prop:=∀t,znI x=Z t->Lk P vs env S w cx σ t
def ES(P:jP)(o:Z0)(cx σ:Sg)(F:N MF)(l:N (K×Dv)):Prop:=
 ∀(env:y7) (w:wP) (S:K->Prop) (vs:K->wN),(∀k,w.heap.size<=k->S k)->yM S (MS vs σ.ob++(MS vs cx.ob++F)) w->(∀t∈yI o.op,Lk P vs env S w cx σ t)->
  Zj P o env w (λv w'=>K7 w w'/\∀e∈l,(wo P vs e.2 v e.1).p S w')
section
variable{P:jP}{cf:Cf}{cx σ:Sg}{F:xS MF}{vs:wr->wN}{env:y7}{S:wr->Prop}{w:wP}{R:Type}{r:R}
 {d:ww Z5}{ty t yt:wT}{pos:String}{aft:uL Edge}{g:ww (wr×qR)}{x y:wW}
def yG{a:Op}(h:∀t∈yI a,Lk P vs env S w cx σ t)(b:x∈a.operands.toList):Xz P vs env S w cx σ x:=
 λt ht=>h t<|xfp.2 ⟨x,b,ht⟩
def zj{v:Dv}(h:xD cx σ x=Z v)(hl:Xz P vs env S w cx σ x):(vI P vs v<|ev env x).p S w:=by
 cases x with
 |tmp t=>exact hl t O 0 v h
 |const c=>
  simp only[xD]at h;unfold cv at h;split at h
  ·split at h
   ·next a=>cases h;exact wX a
   ·cases h
  ·split at h
   ·next x a=>
    cases h;have:(x.toNat:J)=x:=xdf a.1;have b:x.toNat<18446744073709551616:=W
    have:=jS (S:=S) (w:=w) b;rwa[‹(x.toNat:J)=x›]at this
   ·cases h
  ·cases h;exact O
  ·split at h
   ·next x a=>
    cases h;have:(x.toNat:J)=x:=xdf a.1;have b:x.toNat<256:=W
    have:=FQ (S:=S) (w:=w) b;rwa[‹(x.toNat:J)=x›]at this
   ·cases h
  ·split at h
   ·next a=>cases h;exact OD O a
   ·cases h
  ·cases h;exact O
  ·cases h;exact O
  ·cases h;exact O
  ·cases h
 |global g=>cases h
 |func f=>cases h;exact⟨[],O,O,wR⟩
def Gx{v:Dv}{u:wN}{p:PD}(h:ziw v=Z p)(hv:(vI P vs v u).p S w):(fV p.t.rep p.x u).p S w:=by
 cases v<;>simp only[ziw,xat,Ww]at h
 ·subst h;exact hv
 ·subst h;rw[show u=_ from hv];exact Bt
def nU{p:PD}(h:pd cx σ x=Z p)(hl:Xz P vs env S w cx σ x):(fV p.t.rep p.x<|ev env x).p S w:=by
 unfold pd at h
 cases hv:xD cx σ x with
 |none=>rw[hv]at h;cases h
 |some v=>rw[hv]at h;exact Gx h<|zj hv hl
def w9{a:J}(h:pd cx σ x=Z ⟨.i,a⟩)(hl:Xz P vs env S w cx σ x):ev env x=.int .i64 a/\KH a:=zlF<|nU h hl
def wB{a:K}(h:pd cx σ x=Z ⟨.u,a⟩)(hl:Xz P vs env S w cx σ x):ev env x=.int .u64 (a:J)/\aw a:=zdJ<|nU h hl
def VD{a:K}(h:pd cx σ x=Z ⟨.ch,a⟩)(hl:Xz P vs env S w cx σ x):ev env x=.int .u8 (a:J)/\a<256:=zoN<|nU h hl
def zdg{a:N K}(h:pd cx σ x=Z ⟨.tx,a⟩)(hl:Xz P vs env S w cx σ x):∃s:Wd,ev env x=.string s/\xd s=a/\s.size<=9223372036854775807:=O1<|nU h hl
def zjp{a:qR}(h:pd cx σ x=Z ⟨.b,a⟩)(hl:Xz P vs env S w cx σ x):ev env x=.bool a:=nT<|nU h hl
def zeg{v:V Dv}{t:Ty}{k:t.D->V R}(h:Bo v t k=Z r):∃y:t.D,k y=Z r/\∀(P:jP) vs S w (d:Dv) u,v=Z d->(vI P vs d u).p S w->(fV t.rep y u).p S w:=by
 unfold Bo at h;split at h
 ·next=>
  cases t<;>simp only[Ww]at h;exact⟨_,h,λP vs S w d u hd a=>by cases hd;rw[show u=_ from a];exact zdP⟩
 ·next=>
  cases t<;>simp only[Ww]at h;exact⟨_,h,λP vs S w d u hd a=>by cases hd;rw[show u=_ from a];exact zoR⟩
 ·next s y=>
  cases t<;>simp only[Ww]at h;have⟨e,h⟩:=yj h;subst e;exact⟨_,h,λP vs S w d u hd a=>by cases hd;exact zo4 a⟩
 ·next b hv _ _=>
  split at h
  ·next p hp=>
   have⟨e,h⟩:=yj h;subst e;exact⟨_,h,λP vs S w d u hd a=>by cases hd;exact Gx hp a⟩
  ·cases h
 ·cases h
def Vi{t:Ty}{k:t.D->V R}(h:Bo (xD cx σ x) t k=Z r):∃y:t.D,k y=Z r/\∀(P:jP) vs env S w,Xz P vs env S w cx σ x->(fV t.rep y<|ev env x).p S w:=by
 have⟨y,h1,a⟩:=zeg h;refine⟨y,h1,λP vs env S w hl=> ?_⟩
 cases hv:xD cx σ x with
 |none=>rw[hv]at h;cases h
 |some v=>exact a P vs S w v _ hv<|zj hv hl
def zG{o:Z0}{l:N (K×Dv)}(h:∀env w S vs,(∀t∈yI o.op,Lk P vs env S w cx σ t)->∃v,(kW (ev env) o).run P w=.ok (.value v) w/\∀e∈l,(wo P vs e.2 v e.1).p S w):ES P o cx σ F l:=by
 intro env w S vs b c hl;have⟨v,h1,a⟩:=h env w S vs hl;exact Zj.of_value h1 ⟨yA.refl _ _,a⟩
def zt{v:wN}{dv:Dv}(h:(vI P vs dv v).p S w):∀e∈[(0,dv)],(wo P vs e.2 v e.1).p S w:=by
 intro e a;rw[xag]at a;subst a;exact h
def uA{o:Z0}{l:N (K×Dv)}(h:∀env w S vs,yM S (MS vs σ.ob++(MS vs cx.ob++F)) w->(∀t∈yI o.op,Lk P vs env S w cx σ t)->∃(U:Type) (b:U->wN) (a:U->N FF) (ok:U->Prop) (Γ:N FF) (ms:N MF),
 MX P o env ms Γ b a ok/\yM S ms w/\zE S Γ w/\∀u w',ok u->zE S (a u) w'->∀e∈l,(wo P vs e.2 (b u) e.1).p S w'):ES P o cx σ F l:=by
 intro env w S vs c f hl;have⟨U,b,a,ok,Γ,ms,h1,i,j,k⟩:=h env w S vs f hl;refine(h1 w S c i j).mono ?_;rintro v w' ⟨u,rfl,m,n,q⟩;exact⟨n,k u w' m q⟩
def RE:∀(f i:K) (t:K) (e:K×Dv),e∈zjV cx σ t f i->get cx σ t e.1=Z e.2
 |0,_,_,_,h=>wS h Nm
 |f+1,i,t,e,h=>by
  unfold zjV at h;split at h
  ·next d hd=>
   obtain rfl|h:=xaf.1 h
   ·exact hd
   ·exact RE f (i+1) t e h
  ·exact wS h Nm
def zfZ{a:Op}(b:a=.move x\/a=.assign x){k:N (K×Dv)->V R}(h:zbX cx σ x k=Z r):∃l,k l=Z r/\ES P ⟨d,a,ty,pos,aft,g⟩ cx σ F l:=by
 have c:∀env w,(kW (ev env) ⟨d,a,ty,pos,aft,g⟩).run P w=.ok (.value<|ev env x) w:=λenv w=>by obtain rfl|rfl:=b<;>exact fS O w
 have f:x∈a.operands.toList:=by obtain rfl|rfl:=b<;>simp[xaB]
 unfold zbX at h;split at h
 ·next v hv=>exact⟨_,h,zG λenv w S vs hl=>⟨_,c env w,zt<|zj hv<|yG hl f⟩⟩
 ·unfold zpD at h;split at h
  ·next t j=>
   split at h
   ·cases h
   ·next l0 l hc=>
    exact⟨_,h,zG λenv w S vs hl=>⟨_,c env w,λe i=>yG hl f t O _ _<|RE _ _ _ _ i⟩⟩
  ·cases h
def zop{i:K}{k:N (K×Dv)->V R}(h:zna cx σ x i k=Z r):∃l,k l=Z r/\ES P ⟨d,.extract x i,ty,pos,aft,g⟩ cx σ F l:=by
 unfold zna at h;split at h
 ·next t=>
  split at h
  ·next v hv=>
   refine⟨_,h,?_⟩;intro env w S vs c e hl;have⟨us,u,h1,a,b⟩:=yG hl (x:=.tmp t) (by simp[xaB]) t O (i+1) v hv;exact Zj.of_value (v:=u) (fS (by simp only[pv,ev,h1];exact a) w) ⟨yA.refl _ _,zt b⟩
  ·cases h
 ·cases h
theorem mv1{k:N (K×Dv)->V R}(h:zh9 cx σ x k=Z r):∃v,xD cx σ x=Z v/\k [(0,v)]=Z r:=by grind [zh9]
def zlx{c:wW}{k:N (K×Dv)->V R}(h:zhl cx σ c x y k=Z r):∃l,k l=Z r/\ES P ⟨d,.pick c x y,ty,pos,aft,g⟩ cx σ F l:=by
 unfold zhl at h;split at h
 ·next hc=>
  have⟨v,hv,h⟩:=mv1 h;exact⟨_,h,zG λenv w S vs hl=>⟨_,zjI (zj hc<|yG hl<|by simp[xaB]) O w,zt<|zj hv<|yG hl<|by simp[xaB]⟩⟩
 ·next hc=>
  have⟨v,hv,h⟩:=mv1 h;exact⟨_,h,zG λenv w S vs hl=>⟨_,zjr (zj hc<|yG hl<|by simp[xaB]) O w,zt<|zj hv<|yG hl<|by simp[xaB]⟩⟩
 ·cases h
def zo1{k:N (K×Dv)->V R}(h:zl7 cx σ x k=Z r):∃l,k l=Z r/\ES P ⟨d,.unOp .not t x,ty,pos,aft,g⟩ cx σ F l:=by
 unfold zl7 at h;split at h
 ·next b hb=>exact⟨_,h,zG λenv w S vs hl=>⟨_,zk8 (zj hb<|yG hl<|by simp[xaB]) w,zt<|by exact O⟩⟩
 ·next b hb=>exact⟨_,h,zG λenv w S vs hl=>⟨_,zk8 (nT<|zj hb<|yG hl<|by simp[xaB]) w,zt<|by exact Bt⟩⟩
 ·cases h
def zox{k:N (K×Dv)->V R}(h:zln cx σ x k=Z r):∃l,k l=Z r/\ES P ⟨d,.unOp .neg t x,ty,pos,aft,g⟩ cx σ F l:=by
 unfold zln at h;split at h
 ·next a c=>
  have⟨z,b,e,h⟩:=Jm h;exact⟨_,h,zG λenv w S vs hl=>⟨_,zkM (w9 c<|yG hl<|by simp[xaB]).1 (w_x b e) w,zt<|wX e⟩⟩
 ·next a c=>
  have⟨z,b,h⟩:=xR h;exact⟨_,h,zG λenv w S vs hl=>by
   have⟨h1,f⟩:=wB c (yG hl<|by simp[xaB]);exact⟨_,zkM h1 (lH b<|zlk f) w,zt<|jS<|Vw b⟩⟩
 ·cases h
theorem Nf{p:Prop}[V1 p]{k:N (K×Dv)->V R}(h:(if p then k [(0,.kb wL)]else k [(0,.kb I)])=Z r):k [(0,.kb<|decide p)]=Z r:=by grind
theorem kbN{p:Prop}[V1 p]{k:N (K×Dv)->V R}(h:(if p then k [(0,.kb I)]else k [(0,.kb wL)])=Z r):k [(0,.kb (!decide p))]=Z r:=by grind
def zp6{n:V4}{a c:J}{k:N (K×Dv)->V R}(h:arI n a c (λv=>k [(0,v)])=Z r)(e:pd cx σ x=Z ⟨.i,a⟩)(hc:pd cx σ y=Z ⟨.i,c⟩):
 ∃l,k l=Z r/\ES P ⟨d,.binOp n t x y yt,ty,pos,aft,g⟩ cx σ F l:=by
 have f:∀{vs env S w},(∀o∈yI (.binOp n t x y yt),Lk P vs env S w cx σ o)->Xz P vs env S w cx σ x:=λhl=>yG hl (by simp[xaB]);have j:∀{vs env S w},(∀o∈yI (.binOp n t x y yt),Lk P vs env S w cx σ o)->Xz P vs env S w cx σ y:=λhl=>yG hl (by simp[xaB]);cases n<;>simp only[arI,Ww]at h
 case add=>have⟨z,b,m,h⟩:=Jm h;exact⟨_,h,zG λenv w S vs hl=>⟨_,Ef (w9 e<|f hl).1 (w9 hc<|j hl).1 (w_x b m) w,zt<|wX m⟩⟩
 case sub=>have⟨z,b,m,h⟩:=Jm h;exact⟨_,h,zG λenv w S vs hl=>⟨_,zha (w9 e<|f hl).1 (w9 hc<|j hl).1 (w_x b m) w,zt<|wX m⟩⟩
 case mul=>have⟨z,b,m,h⟩:=Jm h;exact⟨_,h,zG λenv w S vs hl=>⟨_,zkv (w9 e<|f hl).1 (w9 hc<|j hl).1 (w_x b m) w,zt<|wX m⟩⟩
 case quo=>have⟨h0,h⟩:=Zo h;have⟨z,b,m,h⟩:=Jm h;exact⟨_,h,zG λenv w S vs hl=>⟨_,zkI (w9 e<|f hl).1 (w9 hc<|j hl).1 h0 (w_x b m) w,zt<|wX m⟩⟩
 case rem=>have⟨h0,h⟩:=Zo h;have⟨z,b,h⟩:=xR h;exact⟨_,h,zG λenv w S vs hl=>⟨_,zkO (w9 e<|f hl).1 (w9 hc<|j hl).1 h0 b.symm w,zt<|wX<|zmz (w9 e<|f hl).2 b⟩⟩
 case and=>have⟨z,b,h⟩:=xR h;exact⟨_,h,zG λenv w S vs hl=>⟨_,zkX (w9 e<|f hl).1 (w9 hc<|j hl).1 (zjw.trans b.symm) w,zt<|wX<|zhB b<|znr _ _⟩⟩
 case or=>have⟨z,b,h⟩:=xR h;exact⟨_,h,zG λenv w S vs hl=>⟨_,zoW (w9 e<|f hl).1 (w9 hc<|j hl).1 (zml.trans b.symm) w,zt<|wX<|zhB b<|zoD _ _⟩⟩
 case shr=>have⟨h0,h⟩:=Zo h;have⟨z,b,h⟩:=xR h;exact⟨_,h,zG λenv w S vs hl=>⟨_,DU (w9 e<|f hl).1 (w9 hc<|j hl).1 h0 b.symm w,zt<|wX<|zeV (w9 e<|f hl).2 b⟩⟩
 case shl=>have⟨h0,h⟩:=Zo h;have⟨z,b,m,h⟩:=Jm h;exact⟨_,h,zG λenv w S vs hl=>⟨_,zaw (w9 e<|f hl).1 (w9 hc<|j hl).1 h0 (w_x b m) w,zt<|wX m⟩⟩
 case lss=>exact⟨[(0,.kb<|decide<|a<c)],Nf h,zG λenv w S vs hl=>⟨_,zeo (w9 e<|f hl).1 (w9 hc<|j hl).1 w,zt<|by exact O⟩⟩
 case leq=>exact⟨[(0,.kb<|decide<|a<=c)],Nf h,zG λenv w S vs hl=>⟨_,zeR (w9 e<|f hl).1 (w9 hc<|j hl).1 w,zt<|by exact O⟩⟩
 case gtr=>exact⟨[(0,.kb<|decide<|c<a)],Nf h,zG λenv w S vs hl=>⟨_,zgS (w9 e<|f hl).1 (w9 hc<|j hl).1 w,zt<|by exact O⟩⟩
 case geq=>exact⟨[(0,.kb<|decide<|c<=a)],Nf h,zG λenv w S vs hl=>⟨_,zeL (w9 e<|f hl).1 (w9 hc<|j hl).1 w,zt<|by exact O⟩⟩
 case eql=>exact⟨[(0,.kb<|decide<|a=c)],Nf h,zG λenv w S vs hl=>⟨_,zeQ (w9 e<|f hl).1 (w9 hc<|j hl).1 w,zt<|by exact O⟩⟩
 case neq=>exact⟨[(0,.kb (!decide (a=c)))],kbN h,zG λenv w S vs hl=>⟨_,zhw (w9 e<|f hl).1 (w9 hc<|j hl).1 w,zt<|by exact O⟩⟩
def zqo{bo:V4}{a c:K}{k:N (K×Dv)->V R}(h:(match bo with
 |.shr=>zcc .shr a c<|λv=>k [(0,v)]
 |.shl=>zcc .shl a c<|λv=>k [(0,v)]
 |bo=>arU bo a c<|λv=>k [(0,v)])=Z r) (e:pd cx σ x=Z ⟨.u,a⟩) (hc:pd cx σ y=Z ⟨.u,c⟩):
 ∃l,k l=Z r/\ES P ⟨d,.binOp bo t x y yt,ty,pos,aft,g⟩ cx σ F l:=by
 have f:∀{vs env S w},(∀j∈yI (.binOp bo t x y yt),Lk P vs env S w cx σ j)->Xz P vs env S w cx σ x:=λhl=>yG hl (by simp[xaB]);have i:∀{vs env S w},(∀j∈yI (.binOp bo t x y yt),Lk P vs env S w cx σ j)->Xz P vs env S w cx σ y:=λhl=>yG hl (by simp[xaB]);split at h
 ·simp only[zcc]at h;have⟨z,b,h⟩:=xR h;exact⟨_,h,zG λenv w S vs hl=>⟨_,DU (wB e<|f hl).1 (wB hc<|i hl).1 (xdm _) (zb3 b pR) w,zt<|jS<|Dt (wB e<|f hl).2 b⟩⟩
 ·simp only[zcc]at h;have⟨z,b,h⟩:=xR h;exact⟨_,h,zG λenv w S vs hl=>⟨_,zaw (wB e<|f hl).1 (wB hc<|i hl).1 (xdm _) (lH b zbB) w,zt<|jS<|Vw b⟩⟩
 ·next hd m=>
  cases bo<;>simp only[arU,Ww]at h
  case add=>have⟨z,b,h⟩:=xR h;exact⟨_,h,zG λenv w S vs hl=>⟨_,Ef (wB e<|f hl).1 (wB hc<|i hl).1 (lH b zj0) w,zt<|jS<|Vw b⟩⟩
  case sub=>have⟨z,b,h⟩:=xR h;exact⟨_,h,zG λenv w S vs hl=>⟨_,zha (wB e<|f hl).1 (wB hc<|i hl).1 (lH b<|zkf<|xdK (wB hc<|i hl).2) w,zt<|jS<|Vw b⟩⟩
  case mul=>have⟨z,b,h⟩:=xR h;exact⟨_,h,zG λenv w S vs hl=>⟨_,zkv (wB e<|f hl).1 (wB hc<|i hl).1 (lH b zj7) w,zt<|jS<|Vw b⟩⟩
  case quo=>have⟨h0,h⟩:=Zo h;have⟨z,b,h⟩:=xR h;exact⟨_,h,zG λenv w S vs hl=>⟨_,zkI (wB e<|f hl).1 (wB hc<|i hl).1 (zoK h0) (lH b<|zcG (wB e<|f hl).2) w,zt<|jS<|Dt (wB e<|f hl).2 b⟩⟩
  case rem=>have⟨h0,h⟩:=Zo h;have⟨z,b,h⟩:=xR h;exact⟨_,h,zG λenv w S vs hl=>⟨_,zkO (wB e<|f hl).1 (wB hc<|i hl).1 (zoK h0) (zb3 b zoj) w,zt<|jS<|zm4 (wB e<|f hl).2 b⟩⟩
  case and=>have⟨z,b,h⟩:=xR h;exact⟨_,h,zG λenv w S vs hl=>⟨_,zkX (wB e<|f hl).1 (wB hc<|i hl).1 (lH b<|zi0 (wB e<|f hl).2 (wB hc<|i hl).2) w,zt<|jS<|zme b<|pE (wB e<|f hl).2⟩⟩
  case or=>have⟨z,b,h⟩:=xR h;exact⟨_,h,zG λenv w S vs hl=>⟨_,zoW (wB e<|f hl).1 (wB hc<|i hl).1 (lH b<|zlj (wB e<|f hl).2 (wB hc<|i hl).2) w,zt<|jS<|zme b<|Bx (wB e<|f hl).2 (wB hc<|i hl).2⟩⟩
  case lss=>exact⟨[(0,.kb<|decide<|(a:J)<(c:J))],Nf h,zG λenv w S vs hl=>⟨_,zeo (wB e<|f hl).1 (wB hc<|i hl).1 w,zt<|by exact O⟩⟩
  case leq=>exact⟨[(0,.kb<|decide<|(a:J)<=(c:J))],Nf h,zG λenv w S vs hl=>⟨_,zeR (wB e<|f hl).1 (wB hc<|i hl).1 w,zt<|by exact O⟩⟩
  case gtr=>exact⟨[(0,.kb<|decide<|(c:J)<(a:J))],Nf h,zG λenv w S vs hl=>⟨_,zgS (wB e<|f hl).1 (wB hc<|i hl).1 w,zt<|by exact O⟩⟩
  case geq=>exact⟨[(0,.kb<|decide<|(c:J)<=(a:J))],Nf h,zG λenv w S vs hl=>⟨_,zeL (wB e<|f hl).1 (wB hc<|i hl).1 w,zt<|by exact O⟩⟩
  case eql=>exact⟨[(0,.kb<|decide<|(a:J)=(c:J))],Nf h,zG λenv w S vs hl=>⟨_,zeQ (wB e<|f hl).1 (wB hc<|i hl).1 w,zt<|by exact O⟩⟩
  case neq=>exact⟨[(0,.kb (!decide ((a:J)=(c:J))))],kbN h,zG λenv w S vs hl=>⟨_,zhw (wB e<|f hl).1 (wB hc<|i hl).1 w,zt<|by exact O⟩⟩
def zqK{e:V4}{a:K}{c:J}{k:N (K×Dv)->V R}(h:shU e a c (λv=>k [(0,v)])=Z r)(f:pd cx σ x=Z ⟨.u,a⟩)(hc:pd cx σ y=Z ⟨.i,c⟩):
 ∃l,k l=Z r/\ES P ⟨d,.binOp e t x y yt,ty,pos,aft,g⟩ cx σ F l:=by
 have j:∀{vs env S w},(∀m∈yI (.binOp e t x y yt),Lk P vs env S w cx σ m)->Xz P vs env S w cx σ x:=λhl=>yG hl (by simp[xaB]);have n:∀{vs env S w},(∀m∈yI (.binOp e t x y yt),Lk P vs env S w cx σ m)->Xz P vs env S w cx σ y:=λhl=>yG hl (by simp[xaB]);unfold shU at h;split at h
 ·have⟨h0,h⟩:=Zo h;have⟨z,b,h⟩:=xR h;exact⟨_,h,zG λenv w S vs hl=>⟨_,DU (wB f<|j hl).1 (w9 hc<|n hl).1 h0 (zb3 b pR) w,zt<|jS<|Dt (wB f<|j hl).2 b⟩⟩
 ·have⟨h0,h⟩:=Zo h;have⟨z,b,h⟩:=xR h;exact⟨_,h,zG λenv w S vs hl=>⟨_,zaw (wB f<|j hl).1 (w9 hc<|n hl).1 h0 (lH b zbB) w,zt<|jS<|Vw b⟩⟩
 ·cases h
def zqd{b:V4}{a:J}{c:K}{k:N (K×Dv)->V R}(h:shI b a c (λv=>k [(0,v)])=Z r)(f:pd cx σ x=Z ⟨.i,a⟩)(hc:pd cx σ y=Z ⟨.u,c⟩):
 ∃l,k l=Z r/\ES P ⟨d,.binOp b t x y yt,ty,pos,aft,g⟩ cx σ F l:=by
 have j:∀{vs env S w},(∀m∈yI (.binOp b t x y yt),Lk P vs env S w cx σ m)->Xz P vs env S w cx σ x:=λhl=>yG hl (by simp[xaB]);have n:∀{vs env S w},(∀m∈yI (.binOp b t x y yt),Lk P vs env S w cx σ m)->Xz P vs env S w cx σ y:=λhl=>yG hl (by simp[xaB]);unfold shI at h;split at h
 ·have⟨z,e,h⟩:=xR h;exact⟨_,h,zG λenv w S vs hl=>⟨_,DU (w9 f<|j hl).1 (wB hc<|n hl).1 (xdm _) e.symm w,zt<|wX<|zeV (w9 f<|j hl).2 e⟩⟩
 ·have⟨z,e,o,h⟩:=Jm h;exact⟨_,h,zG λenv w S vs hl=>⟨_,zaw (w9 f<|j hl).1 (wB hc<|n hl).1 (xdm _) (w_x e o) w,zt<|wX o⟩⟩
 ·cases h
def zpZ{e:V4}{a c:qR}{j:qR}{k:N (K×Dv)->V R}(h:jh j (eqB e a c<|λv=>k [(0,v)])=Z r)(m:pd cx σ x=Z ⟨.b,a⟩)(hc:pd cx σ y=Z ⟨.b,c⟩)(n:j=wL->P.underlying t=Z .bool):
 ∃l,k l=Z r/\ES P ⟨d,.binOp e t x y yt,ty,pos,aft,g⟩ cx σ F l:=by
 have o:∀{vs env S w},(∀f∈yI (.binOp e t x y yt),Lk P vs env S w cx σ f)->Xz P vs env S w cx σ x:=λhl=>yG hl (by simp[xaB]);have p:∀{vs env S w},(∀f∈yI (.binOp e t x y yt),Lk P vs env S w cx σ f)->Xz P vs env S w cx σ y:=λhl=>yG hl (by simp[xaB]);have⟨hd,h⟩:=z7 h;unfold eqB at h;split at h
 ·have⟨z,i,h⟩:=xR h;exact⟨_,h,zG λenv w S vs hl=>⟨_,zg1 (zpB (n hd) (zjp m<|o hl)<|zjp hc<|p hl) i w,zt Bt⟩⟩
 ·have⟨z,i,h⟩:=xR h;exact⟨_,h,zG λenv w S vs hl=>⟨_,zg1 (zpk (n hd) (zjp m<|o hl)<|zjp hc<|p hl) i w,zt Bt⟩⟩
 ·cases h
def Ix(x:J):xgi.wrap x=x%256:=by
 simp[xgd,xeM,xeo]
def zlf{a b:K}:xgi.wrap ((a:J)+(b:J))=(((a+b)%256:K):J):=by rw[Ix];lia
def zmx{a b:K}(h:b<=256):xgi.wrap ((a:J)-(b:J))=(((a+256-b)%256:K):J):=by rw[Ix];lia
def zfD{n z:K}(h:z=n%256):z<256:=by rw[h];exact xaU _ i0
def zqz{i:V4}{a c:K}{k:N (K×Dv)->V R}(h:arC i a c (λv=>k [(0,v)])=Z r)(e:pd cx σ x=Z ⟨.ch,a⟩)(hc:pd cx σ y=Z ⟨.ch,c⟩):
 ∃l,k l=Z r/\ES P ⟨d,.binOp i t x y yt,ty,pos,aft,g⟩ cx σ F l:=by
 have f:∀{vs env S w},(∀m∈yI (.binOp i t x y yt),Lk P vs env S w cx σ m)->Xz P vs env S w cx σ x:=λhl=>yG hl (by simp[xaB]);have b:∀{vs env S w},(∀m∈yI (.binOp i t x y yt),Lk P vs env S w cx σ m)->Xz P vs env S w cx σ y:=λhl=>yG hl (by simp[xaB]);cases i<;>simp only[arC,Ww]at h
 case add=>have⟨z,j,h⟩:=xR h;exact⟨_,h,zG λenv w S vs hl=>⟨_,Ef (VD e<|f hl).1 (VD hc<|b hl).1 (lH j zlf) w,zt<|FQ<|zfD j⟩⟩
 case sub=>have⟨z,j,h⟩:=xR h;exact⟨_,h,zG λenv w S vs hl=>⟨_,zha (VD e<|f hl).1 (VD hc<|b hl).1 (lH j<|zmx<|xdK (VD hc<|b hl).2) w,zt<|FQ<|zfD j⟩⟩
 case lss=>exact⟨[(0,.kb<|decide<|(a:J)<(c:J))],Nf h,zG λenv w S vs hl=>⟨_,zeo (VD e<|f hl).1 (VD hc<|b hl).1 w,zt<|by exact O⟩⟩
 case leq=>exact⟨[(0,.kb<|decide<|(a:J)<=(c:J))],Nf h,zG λenv w S vs hl=>⟨_,zeR (VD e<|f hl).1 (VD hc<|b hl).1 w,zt<|by exact O⟩⟩
 case gtr=>exact⟨[(0,.kb<|decide<|(c:J)<(a:J))],Nf h,zG λenv w S vs hl=>⟨_,zgS (VD e<|f hl).1 (VD hc<|b hl).1 w,zt<|by exact O⟩⟩
 case geq=>exact⟨[(0,.kb<|decide<|(c:J)<=(a:J))],Nf h,zG λenv w S vs hl=>⟨_,zeL (VD e<|f hl).1 (VD hc<|b hl).1 w,zt<|by exact O⟩⟩
 case eql=>exact⟨[(0,.kb<|decide<|(a:J)=(c:J))],Nf h,zG λenv w S vs hl=>⟨_,zeQ (VD e<|f hl).1 (VD hc<|b hl).1 w,zt<|by exact O⟩⟩
 case neq=>exact⟨[(0,.kb (!decide ((a:J)=(c:J))))],kbN h,zG λenv w S vs hl=>⟨_,zhw (VD e<|f hl).1 (VD hc<|b hl).1 w,zt<|by exact O⟩⟩
def Ha{s u:Wd}:(s.toList==u.toList)=decide (xd s=xd u):=by
 rw[ByteArray.toList_eq,ByteArray.toList_eq];unfold xd;by_cases h:s.data.toList=u.data.toList
 ·rw[h];simp
 ·have a:¬s.data.toList.map xfB=u.data.toList.map xfB:=λe=>h (List.map_inj_right (λx y=>UInt8.toNat_inj.1)|>.1 e);rw[Wl a];simpa using h
def DF(s u:Wd):xd (s++u)=xd s++xd u:=by
 unfold xd;simp
def zf4{s u:Wd}(h:X (xd s)+X (xd u)<=9223372036854775807)(w:wP):(Op.stringOp .add s u).run P w=.ok (.string<|s++u) w:=by
 rw[jk,jk]at h;have a:¬(((s.size+u.size:K):J)>xde.max):=by
  have:xde.max=9223372036854775807:=O;lia
 unfold Op.stringOp;simp only;rw[ir a,xaI]
def zn8{f:V4}{a c:N K}{k:N (K×Dv)->V R}(h:eqT f a c (λv=>k [(0,v)])=Z r)(j:pd cx σ x=Z ⟨.tx,a⟩)(hc:pd cx σ y=Z ⟨.tx,c⟩):
 ∃l,k l=Z r/\ES P ⟨d,.binOp f t x y yt,ty,pos,aft,g⟩ cx σ F l:=by
 have m:∀{vs env S w},(∀n∈yI (.binOp f t x y yt),Lk P vs env S w cx σ n)->Xz P vs env S w cx σ x:=λhl=>yG hl (by simp[xaB]);have o:∀{vs env S w},(∀n∈yI (.binOp f t x y yt),Lk P vs env S w cx σ n)->Xz P vs env S w cx σ y:=λhl=>yG hl (by simp[xaB]);cases f<;>simp only[eqT,Ww]at h
 case add=>
  have⟨h0,h⟩:=Zo h;have⟨z,q,h⟩:=xR h;refine⟨_,h,zG λenv w S vs hl=> ?_⟩;have⟨s,e1,b,_⟩:=zdg j<|m hl;have⟨u,i,e,_⟩:=zdg hc<|o hl;have p:X (xd s)+X (xd u)<=9223372036854775807:=by rw[b,e];exact h0
  refine⟨.string<|s++u,?_,zt<|OD (by rw[DF,b,e];exact q.symm)<|by rw[<-jk,DF,xaw];exact p⟩;simp[kW,e1,i,V5,binOp_string_add,zf4 (P:=P) p w]
 case eql=>
  refine⟨[(0,.kb<|decide<|a=c)],Nf h,zG λenv w S vs hl=> ?_⟩;have⟨s,e1,b,_⟩:=zdg j<|m hl;have⟨u,i,e,_⟩:=zdg hc<|o hl;refine⟨.bool<|decide<|a=c,?_,zt<|by exact O⟩;rw[<-b,<-e,<-Ha];simp[kW,e1,i,V5,binOp_string_eql]
 case neq=>
  refine⟨[(0,.kb (!decide (a=c)))],kbN h,zG λenv w S vs hl=> ?_⟩;have⟨s,e1,b,_⟩:=zdg j<|m hl;have⟨u,i,e,_⟩:=zdg hc<|o hl;refine⟨.bool (!decide (a=c)),?_,zt<|by exact O⟩;rw[<-b,<-e,<-Ha];simp[kW,e1,i,V5,binOp_string_neq]
def bop{e:qR}{f:V4}{k:N (K×Dv)->V R}(h:znf e f (pd cx σ x) (pd cx σ y) (λv=>k [(0,v)])=Z r)(i:e=wL->P.underlying t=Z .bool):
 ∃l,k l=Z r/\ES P ⟨d,.binOp f t x y yt,ty,pos,aft,g⟩ cx σ F l:=by
 unfold znf at h;split at h
 ·next a c b hc=>exact zp6 h b hc
 ·next a c b hc=>exact zqo h b hc
 ·next a c b hc=>exact zqK h b hc
 ·next a c b hc=>exact zqd h b hc
 ·next a c b hc=>exact zpZ h b hc i
 ·next a c b hc=>exact zqz h b hc
 ·next a c b hc=>exact zn8 h b hc
 ·cases h
end
end
section
section
variable{P:jP}{cf:Cf}{cx σ:Sg}{F:xS MF}{vs:wr->wN}{env:y7}{S:wr->Prop}{w:wP}{R:Type}{r:R}
 {d:ww Z5}{ty t yt:wT}{pos:String}{aft:uL Edge}{g:ww (wr×qR)}{x y:wW}
def Jn{s:wT}{q:Ty}{k:Xs}{B:K}(a:yY P cf.tt)(h:ZO cf s=Z ⟨q,.int k,B⟩):P.underlying s=Z (.int k):=(a _ _ h).2.2.2
def qw{s E:wT}{q:Ty}{B:K}(a:yY P cf.tt)(h:ZO cf s=Z ⟨q,.sl E,B⟩):P.underlying s=Z (.slice E):=(a _ _ h).2.2.2.1
def LJ{s:wT}{q:Ty}{B:K}(a:yY P cf.tt)(h:ZO cf s=Z ⟨q,.str,B⟩):P.underlying s=Z .string:=(a _ _ h).2.2.2
def zjB(a:yY P cf.tt):isB cf t=wL->P.underlying t=Z .bool:=by
 intro h;unfold isB at h;split at h
 ·next q B b=>exact(a _ _ b).2.2.2
 ·cases h
def Kq{s E:wT}{e:Ty}{B:K}(b:yY P cf.tt)(c:uI P cf.tt)(h:ZO cf s=Z ⟨.l e,.sl E,B⟩):∃bytes a,Jf P E e.rep.agg e.rep.n bytes a:=by
 obtain⟨i,h1,rfl⟩:=c _ _ _ _ h;have⟨⟨a,f,_⟩,_⟩:=b _ _ h1;exact⟨_,_,f⟩
def YN{b:TI}(c:yY P cf.tt)(h:ZO cf t=Z b):∃a,Jf P t b.ty.rep.agg b.ty.rep.n b.B a/\a.cells.size=b.ty.rep.n/\∀S w,b.ty.rep.p S b.ty.z a.cells.toList w:=by
 have⟨a,h1,e,f,_⟩:=(c _ _ h).1;exact⟨a,h1,e,f⟩
def R6{a:TI}{s:Ty}(e:yY P cf.tt)(h:ZO cf t=Z a)(b:a.ty=.l s):Jf P t I 1 a.B (.slice wF 0 0):=by
 have⟨c,h1,_,_,f⟩:=(e _ _ h).1;rw[f.1 s b,b]at h1;exact h1
def zn9{a:K}(h:a<256):KH (a:J):=by unfold KH;lia
def zph{a:K}(h:a<256):a<18446744073709551616:=W
def zqI{a:K}(h:a<256):xgi.wrap (a:J)=(a:J):=by rw[Ix];lia
def u_c{a:K}:xgi.wrap (a:J)=((a%256:K):J):=by rw[Ix];lia
def RH{S:K->Prop}{w:wP}:∀{xs:N K}{cs:N wN},yK eCh S xs cs w->cs=xs.map (λx:K=>Value.int .u8 (x:J))/\∀x∈xs,x<256
 |[],cs,h=>⟨h,λx a=>wS a Nm⟩
 |x::xs,cs,⟨c,r,h1,b,e⟩=>by
  have⟨e1,f⟩:=RH e;have⟨i,j⟩:=b;refine⟨by rw[h1,i,e1];rfl,λy hy=> ?_⟩;obtain rfl|hy:=xaf.1 hy
  ·exact j
  ·exact f y hy
def zlE{s t E:wT}{xs:N K}{v:wN}{S:K->Prop}{w:wP}(k:P.underlying s=Z (.slice E))(l:P.underlying E=Z (.int .u8))(ht:P.underlying t=Z .string)(hv:(fV (eS eCh) xs v).p S w):
 ∃u:Wd,(convert s t v).run P w=.ok (.string u) w/\xd u=xs/\u.size<=9223372036854775807:=by
 obtain⟨i,cap,rfl,hi,hc,h⟩:=xT.1 hv;have e:∀a,i=Z a->(∀x∈xs,x<256)->(∀j (c:j<X xs),w.cell? (a.add j)=Z (.int .u8 ((xs[j]:K):J)))->∃u:Wd,(convert s t (.slice i (X xs) cap)).run P w=.ok (.string u) w/\xd u=xs/\u.size<=9223372036854775807:=by
  rintro a rfl f c;have q:(xs.map xfe).map xfB=xs:=by
   rw[xcN];conv=>rhs;rw[<-List.map_id xs]
   exact xbZ λx hd=>UInt8.toNat_ofNat_of_lt'<|f x hd
  have m:=run_convert_bytes_back (P:=P) w s t E a cap (xs.map xfe) k l ht (λj z=>by
   have n:j<X xs:=by simpa using z
   rw[c j n,List.getElem_map,UInt8.toNat_ofNat_of_lt'<|f _<|xbQ n])
  rw[xaj]at m;refine⟨_,m,by unfold xd;simpa using q,?_⟩;rw[<-jk];unfold xd;rw[xaj];simp;unfold WS at hc;lia
 obtain rfl|⟨b,o,cs,rfl,_,A,B⟩:=h
 ·cases i with
  |some a=>exact e a O (λx f=>wS f Nm)<|λj c=>wS c<|xbq _
  |none=>
   refine⟨ByteArray.empty,?_,O,i0⟩;rw[run_convert_bytes_string w s t E wF _ cap k l ht];rfl
 ·have⟨e1,C⟩:=RH B;refine e _ O C λj c=> ?_;have:=A.2 j (.int .u8 ((xs[j]:K):J)) (by rw[e1,xbV,xab c];rfl);rw[qW];exact this
def zog(f:yY P cf.tt){s t:wT}{k:N (K×Dv)->V R}(h:zlH cf cx σ s t x k=Z r):∃l,k l=Z r/\ES P ⟨d,.convert s t x,ty,pos,aft,g⟩ cx σ F l:=by
 have e:∀{vs env S w},(∀m∈yI (.convert s t x),Lk P vs env S w cx σ m)->Xz P vs env S w cx σ x:=λhl=>yG hl (by simp[xaB]);unfold zlH at h;split at h
 ·next q k1 B n j ht=>
  have hc:=Jn f j;have⟨o,D,G⟩:=n;unfold zpA at h;split at h
  ·next a c b=>
   simp only at c;subst c;exact⟨_,h,zG λenv w S vs hl=>⟨_,Qo hc (Jn f ht) (w9 b<|e hl).1 (w64 (w9 b<|e hl).2) w,zt<|wX (w9 b<|e hl).2⟩⟩
  ·next a c b=>
   simp only at c;subst c;exact⟨_,h,zG λenv w S vs hl=>⟨_,Qo hc (Jn f ht) (wB b<|e hl).1 (n5 (wB b<|e hl).2) w,zt<|jS (wB b<|e hl).2⟩⟩
  ·next a c b=>
   simp only at c;subst c;have⟨z,i,h⟩:=xR h;exact⟨_,h,zG λenv w S vs hl=>⟨_,Qo hc (Jn f ht) (w9 b<|e hl).1 (lH i<|zfp _) w,zt<|jS<|zme i<|Dk _⟩⟩
  ·next a c b=>
   simp only at c;subst c;have⟨z,i,h⟩:=xR h;exact⟨_,h,zG λenv w S vs hl=>⟨_,Qo hc (Jn f ht) (wB b<|e hl).1 ((CC (wB b<|e hl).2).trans i.symm) w,zt<|wX<|zhB i<|zdR (wB b<|e hl).2⟩⟩
  ·next a c b=>
   simp only at c;subst c;exact⟨_,h,zG λenv w S vs hl=>⟨_,Qo hc (Jn f ht) (VD b<|e hl).1 (w64<|zn9 (VD b<|e hl).2) w,zt<|wX<|zn9 (VD b<|e hl).2⟩⟩
  ·next a c b=>
   simp only at c;subst c;exact⟨_,h,zG λenv w S vs hl=>⟨_,Qo hc (Jn f ht) (VD b<|e hl).1 (n5<|zph (VD b<|e hl).2) w,zt<|jS<|zph (VD b<|e hl).2⟩⟩
  ·next a c b=>
   simp only at c;subst c;exact⟨_,h,zG λenv w S vs hl=>⟨_,Qo hc (Jn f ht) (VD b<|e hl).1 (zqI (VD b<|e hl).2) w,zt<|FQ (VD b<|e hl).2⟩⟩
  ·next a c b=>
   simp only at c;subst c;unfold chU at h;have⟨z,i,h⟩:=xR h;exact⟨_,h,zG λenv w S vs hl=>⟨_,Qo hc (Jn f ht) (wB b<|e hl).1 (lH i u_c) w,zt<|FQ<|zfD i⟩⟩
  ·cases h
 ·next E B q H j ht=>
  split at h
  ·next J p v=>
   have⟨xs,h,hd⟩:=Vi h;refine⟨_,h,zG λenv w S vs hl=> ?_⟩;have⟨u,h1,A,C⟩:=zlE (qw f j) (Jn f v) (LJ f ht)<|hd P vs env S w<|e hl;exact⟨.string u,by simp[kW,h1],zt<|OD A C⟩
  ·cases h
 ·cases h
def PF{n:K}{k:K->V R}(h:atI cx σ x n k=Z r):∃j,j<n/\k j=Z r/\∀(P:jP) vs env S w,Xz P vs env S w cx σ x->∃ik,ev env x=.int ik (j:J):=by
 unfold atI at h;split at h
 ·next j a=>
  have⟨i,h1,b,h⟩:=zkq h;exact⟨i,b,h,λP vs env S w hl=>⟨.i64,by rw[(w9 a hl).1,h1]⟩⟩
 ·next j a=>
  have⟨i,h1,b,h⟩:=zkq h;exact⟨i,b,h,λP vs env S w hl=>⟨.u64,by rw[(wB a hl).1,h1]⟩⟩
 ·cases h
def UH{x:V wW}{k:V K->V R}(h:O3 cx σ x k=Z r):
 (x=wF/\k wF=Z r)\/∃y j,x=Z y/\k (Z j)=Z r/\∀(P:jP) vs env S w,Xz P vs env S w cx σ y->ev env y=.int .i64 (j:J):=by
 unfold O3 at h;split at h
 ·exact .inl ⟨O,h⟩
 ·next y=>
  split at h
  ·next j a=>
   have⟨i,h1,h⟩:=zbb h;exact .inr ⟨y,i,O,h,λP vs env S w hl=>by rw[(w9 a hl).1,h1]⟩
  ·cases h
def Uo{α:Type}{e:zW α}{E:wT}{xs:N α}{v:wN}(h:(mO e E v xs).p S w)(h0:0<X xs):
 ∃b cap,v=.slice (Z ⟨b,0,wF⟩) (X xs) cap/\(mB (rowT e cap) E b xs).p S w:=by
 have⟨cs,h1,c⟩:=h;rcases h1.2 with⟨rfl,j⟩|⟨g,cap,a,rfl,hd,f,k,l,i,hc⟩
 ·lia
 ·exact⟨g,cap,O,a,f,cs,a.toList.drop<|X xs*e.n,by rw[<-hc,xbv],c,by simpa using i⟩
def zfA{s E:wT}{q:Ty}{n B:K}(a:yY P cf.tt)(h:ZO cf s=Z ⟨q,.ar n E,B⟩):P.underlying s=Z (.array n E):=(a _ _ h).2.2.2.2
def zgp{E:wT}{e:Ty}(c:yY P cf.tt)(h:elA cf E e=wL):∃bytes a,Jf P E e.rep.agg e.rep.n bytes a:=by
 unfold elA at h;split at h
 ·next f ht=>
  cases i:Ty.same f.ty e with
  |none=>rw[i]at h;cases h
  |some p=>
   have⟨a,b,_⟩:=YN c ht;rw[p.down]at b;exact⟨_,_,b⟩
 ·cases h
def zns{n j:K}{e:Ty}(b:j<n):Fl.ok (.a n e) (zn5 n e j):=by
 intro z S w cs hp;have c:xaG z=n/\yK e.rep S z cs w:=hp;have:=Sub.nth n e.rep z j (xeH z j e.z) (getD_some e.z<|c.1▸b) S w cs hp;rw[e.n_rep]at this;exact this
def zjl(m:yY P cf.tt)(T:uI P cf.tt){k:N (K×Dv)->V R}(h:TM cf cx σ t x y k=Z r):∃l,k l=Z r/\ES P ⟨d,.indexAddr t x y,ty,pos,aft,g⟩ cx σ F l:=by
 have G:∀{vs env S w},(∀J∈yI (.indexAddr t x y),Lk P vs env S w cx σ J)->Xz P vs env S w cx σ x:=λhl=>yG hl (by simp[xaB]);have H:∀{vs env S w},(∀J∈yI (.indexAddr t x y),Lk P vs env S w cx σ J)->Xz P vs env S w cx σ y:=λhl=>yG hl (by simp[xaB]);unfold TM at h;split at h
 ·next e E B s xs ht v=>
  have⟨hi,h⟩:=yj h;cases hi;have⟨bytes,c,hc⟩:=Kq m T ht;have⟨j,i,h,hd⟩:=PF h;have⟨z,L,h⟩:=xR h;refine⟨_,h,uA λenv w S vs M hl=> ?_⟩;have⟨ik,A⟩:=hd P vs env S w<|H hl;exact⟨_,_,_,_,[fV (eS e.rep) xs<|ev env x],[],zeB (e:=e.rep) (xs:=xs) (k:=j) (y:=z) O A (qw m ht) hc (zn4 i L)<|λS w h=>h.1,wR,⟨zj v<|G hl,wR⟩,λu w' _ Q=>zt Q.1⟩
 ·next e E B o ht v=>
  split at h
  ·next s Y xs ho=>
   have⟨hi,h⟩:=yj h;cases hi;have⟨bytes,c,hc⟩:=Kq m T ht;have⟨j,i,h,hd⟩:=PF h;refine⟨_,h,?_⟩;intro env w S vs hS M hl;have⟨ik,A⟩:=hd P vs env S w<|H hl;have hm:(mO e.rep Y (vs o) xs).p S w:=ZM M ho;have⟨b,cap,hv,_⟩:=Uo hm<|xaL (xan _) i;have hq:ev env x=vs o:=zj v<|G hl;refine Zj.of_value (Bc (qw m ht) hc (hq.trans hv) A i w) ⟨yA.refl _ _,zt ?_⟩;exact⟨λz=>Sub.self e.rep z,b,_,_,hv,i,by simp[Fl.self]⟩
  ·cases h
 ·next q D E B n e xs ht v=>
  have⟨C,h⟩:=z7 h;rw[xac]at C;have hn:=zO C.1;subst hn;have⟨bytes,c,hc⟩:=zgp m C.2;have⟨j,i,h,hd⟩:=PF h;have⟨z,L,h⟩:=xR h;refine⟨_,h,uA λenv w S vs M hl=> ?_⟩;have⟨ik,A⟩:=hd P vs env S w<|H hl;have hp:(fP (Ty.a D e).rep xs<|ev env x).p S w:=zj v<|G hl;have⟨_,_,_,_,_,_,hk,_⟩:=id hp;exact⟨_,_,_,_,[fP (Ty.a D e).rep xs<|ev env x],[],zc3 (e:=(Ty.a D e).rep) (f:=e.rep) (z:=xs) (z':=z) (zfA m ht) hc O A i (Sub.nth D e.rep xs j z<|zn4 (hk▸i) L)<|λS w h=>h.1,wR,⟨hp,wR⟩,λu w' _ Q=>zt Q.1⟩
 ·next q D E B o n e ht v=>
  have⟨C,h⟩:=z7 h;rw[xac]at C;have hn:=zO C.1;subst hn;have⟨bytes,c,hc⟩:=zgp m C.2;have⟨j,i,h,hd⟩:=PF h;refine⟨_,h,zG λenv w S vs hl=> ?_⟩;have⟨ik,A⟩:=hd P vs env S w<|H hl;have⟨h1,b,U⟩:=zj v<|G hl;exact⟨_,NZ (zfA m ht) hc (h1.trans U) A i w,zt ⟨zns i,b,U,by rw[e.n_rep];rfl⟩⟩
 ·cases h
def K3:∀{k:K}{t:Ty}{i:K}{f:Fl t.D},xl k t i=Z f->Fl.ok t f
 |0,.w1 t,0,f,h=>by
  simp only[xl,xat]at h;subst h;exact λz=>Sub.wrap t.rep z
 |0,.w1 t,_+1,_,h=>by cases h
 |0,.i,_,_,h=>by cases h
 |0,.u,_,_,h=>by cases h
 |0,.b,_,_,h=>by cases h
 |0,.l _,_,_,h=>by cases h
 |0,.p _ _,_,_,h=>by cases h
 |0,.a _ _,_,_,h=>by cases h
 |0,.ch,_,_,h=>by cases h
 |0,.tx,_,_,h=>by cases h
 |0,.po _,_,_,h=>by cases h
 |1,t,i,f,h=>by
  unfold xl at h;cases c:E i 0<;>rw[c]at h
  ·cases h
  ·simp only[Z2,xat]at h;subst h;exact λz=>Sub.self t.rep z
 |k+2,.p s t,0,f,h=>by
  simp only[xl,xat]at h;subst h;exact λz=>Sub.fst s.rep t.rep z
 |k+2,.p s t,i+1,f,h=>by
  simp only[xl]at h;split at h
  ·next f' e=>
   simp only[xat]at h;subst h;intro z;have:=(Sub.snd s.rep t.rep z).comp<|K3 e z.2;rw[s.n_rep]at this;exact this
  ·cases h
 |k+2,.i,i,f,h=>by simp[xl]at h
 |k+2,.u,i,f,h=>by simp[xl]at h
 |k+2,.b,i,f,h=>by simp[xl]at h
 |k+2,.l _,i,f,h=>by simp[xl]at h
 |k+2,.a _ _,i,f,h=>by simp[xl]at h
def BL:∀{k:K}{t:Ty}{i j:K}{f g:Fl t.D},xl k t i=Z f->xl k t j=Z g->i≠j->
 (∀z x,g.get (f.set x z)=g.get z)/\(∀z x y,g.set y (f.set x z)=f.set x (g.set y z))/\(g.off+g.f.n<=f.off\/f.off+f.f.n<=g.off)
 |0,.w1 _,0,0,_,_,_,_,h=>wS O h
 |0,.w1 _,_+1,_,_,_,h,_,_=>by cases h
 |0,.w1 _,0,_+1,_,_,_,h,_=>by cases h
 |0,.i,_,_,_,_,h,_,_=>by cases h
 |0,.u,_,_,_,_,h,_,_=>by cases h
 |0,.b,_,_,_,_,h,_,_=>by cases h
 |0,.l _,_,_,_,_,h,_,_=>by cases h
 |0,.p _ _,_,_,_,_,h,_,_=>by cases h
 |0,.a _ _,_,_,_,_,h,_,_=>by cases h
 |0,.ch,_,_,_,_,h,_,_=>by cases h
 |0,.tx,_,_,_,_,h,_,_=>by cases h
 |0,.po _,_,_,_,_,h,_,_=>by cases h
 |1,t,i,j,f,g,c,m,hn=>by
  unfold xl at c m;cases o:E i 0<;>rw[o]at c
  ·cases c
  cases hc:E j 0<;>rw[hc]at m
  ·cases m
  exact wS ((zO o).trans (zO hc).symm) hn
 |k+2,.p s t,0,0,_,_,_,_,h=>wS O h
 |k+2,.p s t,0,j+1,f,g,c,m,_=>by
  simp only[xl,xat]at c m;subst c;split at m
  ·next v q=>
   simp only[xat]at m;subst m;exact⟨λ_ _=>O,λ_ _ _=>O,.inr<|by simp only;lia⟩
  ·cases m
 |k+2,.p s t,i+1,0,f,g,c,m,_=>by
  simp only[xl,xat]at c m;subst m;split at c
  ·next f' hd=>
   simp only[xat]at c;subst c;exact⟨λ_ _=>O,λ_ _ _=>O,.inl<|by simp only;lia⟩
  ·cases c
 |k+2,.p s t,i+1,j+1,f,g,c,m,hn=>by
  simp only[xl]at c m;split at c
  ·next f' hd=>
   split at m
   ·next v q=>
    simp only[xat]at c m;subst c;subst m;have⟨h1,A,h3⟩:=BL hd q (λe=>hn<|by rw[e]);exact⟨λz x=>h1 z.2 x,λz x y=>by simp only;rw[A z.2 x y],by obtain h3|h3:=h3;exact .inl (by simp only;lia);exact .inr<|by simp only;lia⟩
   ·cases m
  ·cases c
 |k+2,.i,i,_,f,_,h,_,_=>by simp[xl]at h
 |k+2,.u,i,_,f,_,h,_,_=>by simp[xl]at h
 |k+2,.b,i,_,f,_,h,_,_=>by simp[xl]at h
 |k+2,.l _,i,_,f,_,h,_,_=>by simp[xl]at h
 |k+2,.a _ _,i,_,f,_,h,_,_=>by simp[xl]at h
def XW:∀t:Ty,∃h,Ty.same t t=Z ⟨h⟩
 |.i=>⟨O,O⟩
 |.u=>⟨O,O⟩
 |.b=>⟨O,O⟩
 |.ch=>⟨O,O⟩
 |.tx=>⟨O,O⟩
 |.l t=>by have⟨h,e⟩:=XW t;exact⟨O,by simp only[Ty.same,e]⟩
 |.po t=>by have⟨h,e⟩:=XW t;exact⟨O,by simp only[Ty.same,e]⟩
 |.w1 t=>by have⟨h,e⟩:=XW t;exact⟨O,by simp only[Ty.same,e]⟩
 |.a k t=>by have⟨h,e⟩:=XW t;exact⟨O,by simp only[Ty.same,e,dite_true]⟩
 |.p s t=>by have⟨h,e⟩:=XW s;have⟨f,c⟩:=XW t;exact⟨O,by simp only[Ty.same,e,c]⟩
def Js{s t:Ty}(h:(Ty.same s t).isSome=wL):s=t:=by
 cases a:Ty.same s t with
 |none=>rw[a]at h;cases h
 |some p=>exact p.down
def nF{α:Type}{s:Ty}{off:K}{g:α->(Ty.l s).D}{st:(Ty.l s).D->α->α}{xs:N s.D}{z:α}:uH s (Z ⟨off,.l s,g,st⟩) xs z=st xs z:=by
 have⟨h,e⟩:=XW s;simp only[uH,e]
def zaK{n i j:K}{t s:Ty}{f:Fl t.D}{hv:N wN}{z:t.D}{r:K}(e:vrP s (xl n t j))(b:xl n t i=Z f)(hn:i≠j):
 Sub (b6 t.rep (Xu<|xl n t j) (uH s (xl n t j) []) hv) (z,r) f.off f.f.rep (f.get z) (λy=>(f.set y z,r)):=by
 have⟨off,g,st,c⟩:=e;have⟨h1,h,k⟩:=BL c b<|Ne.symm hn;rw[c];have hp:∀z,uH s (Z ⟨off,.l s,g,st⟩) [] z=st ([]:N s.D) z:=λz=>nF;refine Sub.other ?_ (by rw[f.f.n_rep];exact k);have a:=K3 b<|uH s (Z ⟨off,.l s,g,st⟩) [] z;rw[hp]at a;rw[h1 z ([]:N s.D)]at a;rw[hp];have:(λy=>f.set y<|st ([]:N s.D) z)=λy=>uH s (Z ⟨off,.l s,g,st⟩) [] (f.set y z):=by funext y;rw[hp];exact h z ([]:N s.D) y
 rw[this]at a;exact a
def P4:∀{k:K}{t:Ty}{i:K}{f:Fl t.D},xl k t i=Z f->∀x y z,f.set x (f.set y z)=f.set x z
 |0,.w1 t,0,f,h=>by
  simp only[xl,xat]at h;subst h;exact λ_ _ _=>O
 |0,.w1 t,_+1,_,h=>by cases h
 |0,.i,_,_,h=>by cases h
 |0,.u,_,_,h=>by cases h
 |0,.b,_,_,h=>by cases h
 |0,.l _,_,_,h=>by cases h
 |0,.p _ _,_,_,h=>by cases h
 |0,.a _ _,_,_,h=>by cases h
 |0,.ch,_,_,h=>by cases h
 |0,.tx,_,_,h=>by cases h
 |0,.po _,_,_,h=>by cases h
 |1,t,i,f,h=>by
  unfold xl at h;cases c:E i 0<;>rw[c]at h
  ·cases h
  ·simp only[Z2,xat]at h;subst h;exact λ_ _ _=>O
 |k+2,.p s t,0,f,h=>by
  simp only[xl,xat]at h;subst h;exact λ_ _ _=>O
 |k+2,.p s t,i+1,f,h=>by
  simp only[xl]at h;split at h
  ·next f' e=>
   simp only[xat]at h;subst h;intro x y z;simp only;rw[P4 e]
  ·cases h
 |k+2,.i,i,f,h=>by simp[xl]at h
 |k+2,.u,i,f,h=>by simp[xl]at h
 |k+2,.b,i,f,h=>by simp[xl]at h
 |k+2,.l _,i,f,h=>by simp[xl]at h
 |k+2,.a _ _,i,f,h=>by simp[xl]at h
def zk6{S:K->Prop}{w:wP}{n i off:K}{t s:Ty}{g:t.D->(Ty.l s).D}{st:(Ty.l s).D->t.D->t.D}{z:t.D}{cs:N wN}{v:wN}(f:xl n t i=Z ⟨off,.l s,g,st⟩)(h:t.rep.p S z cs w)(hv:cs[off]? =Z v)(h1:v.oneCell'=wL):
 (b6 t.rep off (st ([]:N s.D)) [v]).p S (z,0) cs w:=by
 have⟨a,c,b,e1,e,j,k⟩:=K3 f z S w cs h;refine⟨v,O,h1,hv,?_⟩;have m:=k w ([]:N s.D) [.slice wF 0 0] (yA.refl _ _) ⟨_,O,SlP.nil⟩;have hc:X c=1:=(Ty.l s).rep.len j;obtain⟨c0,rfl⟩:=xcG.1 hc;have:cs.set off (.slice wF 0 0)=a++[.slice wF 0 0]++b:=by rw[e1,xad,xdJ _ _ (by simp only at e;lia),show off-X a=0 by simp only at e;lia,xad];rfl
 rw[this];exact m
def zmc{S f:K->Prop}{w:wP}{n i off r:K}{t s:Ty}{g:t.D->(Ty.l s).D}{st:(Ty.l s).D->t.D->t.D}{z:t.D}{cs:N wN}{v:wN}{hv:N wN}{xs:N s.D}(o:xl n t i=Z ⟨off,.l s,g,st⟩)(h:(b6 t.rep off (st ([]:N s.D)) hv).p S (z,r) cs w)
 (A:hv[r]? =Z v) (B:∀k,S k->f k) (C:(fV (eS s.rep) xs v).p f w):t.rep.p f (st xs z) cs w:=by
 have⟨u,h1,T,E,j⟩:=h;rw[A]at h1;cases h1;have j:=t.rep.sub j λk _=>B k;have⟨a,c,b,e1,G,H,J⟩:=K3 o (st ([]:N s.D) z) f w _ j;have⟨e,hd,q⟩:=C;have m:=J w xs e (yA.refl _ _) q;simp only at m G;rw[show st xs (st ([]:N s.D) z)=st xs z from P4 o xs ([]:N s.D) z]at m;have hc:X c=1:=(Ty.l s).rep.len H;have L:X e=1:=(eS s.rep).len q;obtain⟨c0,rfl⟩:=xcG.1 hc;obtain⟨c1,rfl⟩:=xcG.1 L;obtain rfl:v=c1:=hd;have⟨U,M⟩:=xar.1 E;have:cs=a++[v]++b:=by
  have Q:(cs.set off (.slice wF 0 0)).set off v=cs:=by rw[List.set_set,<-M,xdh]
  rw[<-Q,e1,xad,xdJ _ _ W,(W:off-X a=0),xad];rfl
 rw[this];exact m
def zbn{t:Ty}{a:Fl t.D}{c:Fl a.f.D}(b:Fl.ok t a)(hc:Fl.ok a.f c):Fl.ok t (a.comp c):=λz=>(b z).comp<|hc<|a.get z
def P2{s:wT}{q:Ty}{n B i:K}{f:Fl q.D}(a:yY P cf.tt)(h:ZO cf s=Z ⟨q,.st n,B⟩)(b:xl n q i=Z f):S9 P s i=Z f.off:=(a _ _ h).2.2.2.2.1 i f b
def zo7{c:V4}{v:V Dv}{k:Dv->V R}(h:eqP c v k=Z r):∃dv b,v=Z dv/\zc4 c b k=Z r/\∀(P:jP) vs S w u,(vI P vs dv u).p S w->∃p:V KW,u=.pointer p/\p.isNone=b:=by
 unfold eqP at h;split at h
 ·exact⟨_,_,O,h,λP vs S w u a=>⟨wF,a,O⟩⟩
 ·exact⟨_,_,O,h,λP vs S w u ⟨b,o,cs,h1,_⟩=>⟨_,h1,O⟩⟩
 ·exact⟨_,_,O,h,λP vs S w u ⟨h1,b,e⟩=>⟨_,h1.trans e,O⟩⟩
 ·exact⟨_,_,O,h,λP vs S w u a=>zne a⟩
 ·cases h
def znY(a:yY P cf.tt)(h:ziK cf t=wL):P.underlying t=Z (.pointer<|P.pointee t):=by
 unfold ziK at h;split at h
 ·next q E B b=>
  have:=(a _ _ b).2.2.2;have this:P.underlying t=Z (.pointer E):=this;rw[show P.pointee t=E by simp[Program.pointee,this]];exact this
 ·cases h
def zqi(i:yY P cf.tt){e:V4}{k:N (K×Dv)->V R}(hp:ziK cf t=wL)(a:zif (xD cx σ y)=wL)(h:eqP e (xD cx σ x) (λv=>k [(0,v)])=Z r):
 ∃l,k l=Z r/\ES P ⟨d,.binOp e t x y yt,ty,pos,aft,g⟩ cx σ F l:=by
 have⟨dv,b,j,h,hv⟩:=zo7 h;have a:xD cx σ y=Z .np:=by
  unfold zif at a;split at a
  ·assumption
  ·cases a
 have ht:=znY i hp;have go:∀{env:y7}{w:wP}{S:K->Prop}{vs:K->wN},(∀m∈yI (.binOp e t x y yt),Lk P vs env S w cx σ m)->∃p:V KW,ev env x=.pointer p/\p.isNone=b/\ev env y=.pointer wF:=λhl=>by
  have⟨p,h1,c⟩:=hv P _ _ _ _ (zj j<|yG hl<|by simp[xaB]);exact⟨p,h1,c,zj a<|yG hl<|by simp[xaB]⟩
 cases e<;>simp only[zc4,Ww]at h
 case eql=>
  refine⟨[(0,.kb<|decide<|b=wL)],Nf h,zG λenv w S vs hl=>⟨.bool b,?_,zt<|by simp[vI,gL]⟩⟩;have⟨p,h1,c,f⟩:=go hl;simp[kW,h1,f,V5,run_eql_pointer_nil w t p ht,c]
 case neq=>
  refine⟨[(0,.kb (!decide (b=wL)))],kbN h,zG λenv w S vs hl=>⟨.bool !b,?_,zt<|by simp[vI,gL]⟩⟩;have⟨p,h1,c,f⟩:=go hl;simp[kW,h1,f,V5,run_neq_pointer_nil w t p ht,c]
def zpj{k:N (K×Dv)->V R}(h:zmG cx σ x k=Z r):∃l,k l=Z r/\ES P ⟨d,.nilCheck x,ty,pos,aft,g⟩ cx σ F l:=by
 have f:∀{env:y7}{a:KW} (w:wP),ev env x=.pointer (Z a)->(kW (ev env) ⟨d,.nilCheck x,ty,pos,aft,g⟩).run P w=.ok (.value<|ev env x) w:=λw h=>by simp[kW,h]
 unfold zmG at h;split at h
 ·next s y c=>
  refine⟨_,h,zG λenv w S vs hl=> ?_⟩;have h1:=zj c (yG hl<|by simp[xaB]);have⟨b,o,cs,e,_⟩:=h1;exact⟨_,f w e,zt<|zj c<|yG hl<|by simp[xaB]⟩
 ·next o s c=>
  refine⟨_,h,zG λenv w S vs hl=> ?_⟩;have⟨h1,b,e⟩:=zj c (yG hl<|by simp[xaB]);exact⟨_,f w<|h1.trans e,zt<|zj c<|yG hl<|by simp[xaB]⟩
 ·next s y c=>
  have⟨y',i,h⟩:=r9 h;refine⟨_,h,zG λenv w S vs hl=> ?_⟩;have h1:(fV (eO s.rep) y<|ev env x).p S w:=zj c (yG hl<|by simp[xaB]);rw[i]at h1;have e:=zgX h1;have⟨b,o,cs,j,_⟩:=e;exact⟨_,f w j,zt<|zgX h1⟩
 ·cases h
def ziT(q:yY P cf.tt){i:K}{k:N (K×Dv)->V R}(h:Tw cf cx σ t x i k=Z r):∃l,k l=Z r/\ES P ⟨d,.fieldAddr t x i,ty,pos,aft,g⟩ cx σ F l:=by
 have v:∀{vs env S w},(∀A∈yI (.fieldAddr t x i),Lk P vs env S w cx σ A)->Xz P vs env S w cx σ x:=λhl=>yG hl (by simp[xaB]);unfold Tw at h;split at h
 ·next e n B s y ht hc=>
  have⟨a,h⟩:=yj h;subst a;split at h
  ·next f c=>
   exact⟨_,h,uA λenv w S vs D hl=>⟨_,_,_,_,[fP s.rep y<|ev env x],[],zeI (e:=s.rep) (z:=y) (P2 q ht c) O (K3 c y)<|λS w h=>h.1,wR,⟨zj hc<|v hl,wR⟩,λu w' _ c=>zt c.1⟩⟩
  ·cases h
 ·next e n B o s ht hc=>
  split at h
  ·next a f _ c=>
   have⟨a⟩:=a;subst a;refine⟨_,h,zG λenv w S vs hl=> ?_⟩;have⟨h1,b,p⟩:=zj hc<|v hl;exact⟨_,ox (P2 q ht c) (h1.trans p) w,zt ⟨K3 c,b,p,O⟩⟩
  ·cases h
 ·next e n B o s g ht hc=>
  split at h
  ·next a f _ c=>
   have⟨a⟩:=a;subst a;refine⟨_,h,zG λenv w S vs hl=> ?_⟩;have⟨h0,b,h1,p⟩:=zj hc<|v hl;exact⟨_,ox (P2 q ht c) p w,zt ⟨zbn h0<|K3 c,b,h1,by simp only[Fl.comp,xcH]⟩⟩
  ·cases h
 ·next e n B o s j g ht hc=>
  split at h
  ·next a f _ c=>
   have⟨a⟩:=a;subst a;refine⟨_,h,zG λenv w S vs hl=> ?_⟩;have⟨h0,b,m,cap,h1,p,C⟩:=zj hc<|v hl;exact⟨_,ox (P2 q ht c) C w,zt ⟨zbn h0<|K3 c,b,m,cap,h1,p,by simp only[Fl.comp,xcH]⟩⟩
  ·cases h
 ·cases h
def zlI(T:yY P cf.tt){k:N (K×Dv)->V R}(h:zhA cf cx σ t x k=Z r):∃l,k l=Z r/\ES P ⟨d,.load t x,ty,pos,aft,g⟩ cx σ F l:=by
 have C:∀{vs env S w},(∀U∈yI (.load t x),Lk P vs env S w cx σ U)->Xz P vs env S w cx σ x:=λhl=>yG hl (by simp[xaB]);unfold zhA at h;split at h
 ·next v Y=>
  have⟨M,hd,_⟩:=YN T Y;unfold zkx at h;split at h
  ·next s y hc=>
   have⟨a,h⟩:=yj h;simp only at a;subst a;exact⟨_,h,uA λenv w S vs n hl=>⟨_,_,_,_,[fP v.ty.rep y<|ev env x],[],ziU (e:=v.ty.rep) (y:=y) O hd<|λS w h=>h.1,wR,⟨zj hc<|C hl,wR⟩,λu w' _ i=>zt i.1⟩⟩
  ·next o s hc=>
   split at h
   ·next D E z A=>
    have⟨a,h⟩:=yj h;simp only at a;subst a;refine⟨_,h,uA λenv w S vs n hl=> ?_⟩;have⟨h1,b,G⟩:=zj hc<|C hl;have⟨H,q,J⟩:(mP v.ty.rep.c E (vs o) z).p S w:=ZM n A;exact⟨_,_,_,_,[],[mB v.ty.rep.c E H z],VB (z':=z) 0 O (h1.trans q) (Sub.self v.ty.rep z) hd,⟨J,wR⟩,wR,λu w' _ i=>zt i.1⟩
   ·cases h
  ·next o s f hc=>
   split at h
   ·next D E z A=>
    have⟨L,h⟩:=yj h;subst L;have⟨a,h⟩:=yj h;simp only at a;have⟨off,ff,get,set⟩:=f;simp only at a;subst a;refine⟨_,h,uA λenv w S vs n hl=> ?_⟩;have⟨h0,b,h1,G⟩:=zj hc<|C hl;have⟨H,q,J⟩:(mP D.rep.c E (vs o) z).p S w:=ZM n A;rw[h1]at q;cases q;exact⟨_,_,_,_,[],[mB D.rep.c E b z],VB (z':=get z) 0 O G (by rw[xaK];exact h0 z) hd,⟨J,wR⟩,wR,λu w' _ i=>zt i.1⟩
   ·cases h
  ·next o s j f hc=>
   split at h
   ·next D E xs A=>
    have⟨L,h⟩:=yj h;cases L;have⟨y,hy,h⟩:=xR h;have⟨a,h⟩:=yj h;simp only at a;have⟨off,ff,get,set⟩:=f;simp only at a;subst a;refine⟨_,h,uA λenv w S vs n hl=> ?_⟩;have⟨h0,b,m,cap,h1,G,q⟩:=zj hc<|C hl;have Q:(mO s.rep E (vs o) xs).p S w:=ZM n A;have hg:0<X xs:=by
     have⟨cs,h5,h6⟩:=Q;rcases h5.2 with⟨hv,h7⟩|⟨g',B,a0,hv,_⟩
     ·rw[h1]at hv;cases hv
     ·rw[h1]at hv;cases hv;lia
    have⟨H,B,hv,hb⟩:=Uo Q hg;rw[h1]at hv;cases hv;have hi:=(Sub.rowT0 s.rep cap xs j (xs.getD j s.z)<|getD_some s.z G).comp<|h0<|xs.getD j s.z;subst hy;exact⟨_,_,_,_,[],[mB (rowT s.rep cap) E b xs],VB 0 O q hi hd,⟨hb,wR⟩,wR,λu w' _ i=>zt i.1⟩
   ·cases h
  ·cases h
 ·cases h
def zkH{α:Type}(xs:N α):xs=(xs.drop 0).take (X xs-0):=i7
def zkn{α:Type}(xs:N α)(l:K):xs.drop l=(xs.drop l).take (X xs-l):=(xaQ i7).symm
def zgd{i off n:K}{agg:qR}{cs:uL wN}{v:wN}(h:zef P t i=Z (off,agg,n))(b:ev env x=.agg cs)(hv:(if agg=wL then Value.agg (cs.extract off<|off+n)else cs.getD off uT)=v)(a:agg=I->off<cs.size)(w:wP):
 (kW (ev env) ⟨d,.field t x i,ty,pos,aft,g⟩).run P w=.ok (.value v) w:=by
 unfold zef at h;split at h
 ·next fs c=>
  split at h
  ·next f e=>
   split at h
   ·next ag m j z hd=>
    simp only[xat,xcI]at h;have⟨h1,k,l⟩:=h;subst h1;subst k;subst l;have hc:=Jf.of hd;have hp:(V3 f.type cs f.offset).run P w=.ok v w:=by
     unfold V3;simp only[xay,Gp hc,xae]
     cases ag with
     |true=>
      simp only[uP,xay,wv hc,xae,xaI];rw[<-hv];rfl
     |false=>
      simp only[xao,uS];have a:=a O;rw[xcB a];simp only[xaI];rw[<-hv];simp[Array.getD,a]
    simp only[kW,b,Instr.field,asAgg,xay,ul c,xae,e,xaI,hp]
   ·cases h
  ·cases h
 ·cases h
def zlr{s:wT}{q:Ty}{n B i:K}{f:Fl q.D}(a:yY P cf.tt)(h:ZO cf s=Z ⟨q,.st n,B⟩)(b:xl n q i=Z f):zef P s i=Z (f.off,f.f.rep.agg,f.f.n):=(a _ _ h).2.2.2.2.2.2 i f b
def zfd(m:yY P cf.tt){i:K}{k:N (K×Dv)->V R}(h:My cf cx σ t x i k=Z r):∃l,k l=Z r/\ES P ⟨d,.field t x i,ty,pos,aft,g⟩ cx σ F l:=by
 have u:∀{vs env S w},(∀v∈yI (.field t x i),Lk P vs env S w cx σ v)->Xz P vs env S w cx σ x:=λhl=>yG hl (by simp[xaB]);unfold My at h;split at h
 ·next e n B s y ht hi=>
  have⟨z,h⟩:=yj h;subst z;split at h
  ·next f o=>
   refine⟨_,h,zG λenv w S vs hl=> ?_⟩;have⟨cs,hv,hp⟩:=zj hi<|u hl;have A:s.rep.agg=wL:=(m _ _ ht).2.2.2.1;have⟨C,c,p,hd,h1,q,_⟩:=K3 o y S w cs hp;have b:=f.f.rep.len q;rw[Ty.n_rep]at b;have hv:ev env x=.agg cs.toArray:=by rw[hv];unfold zW.val;rw[A];rfl
   refine⟨f.f.rep.val c,zgd (zlr m ht o) hv ?_ ?_ w,zt ⟨c,O,q⟩⟩
   ·unfold zW.val
    cases j:f.f.rep.agg with
    |true=>
     simp only[uP];congr 1;apply Array.ext';rw[Array.toList_extract,hd,<-h1,<-b];simp
    |false=>
     simp only[xao,uS];have hc:=f.f.rep.n1 j;rw[Ty.n_rep]at hc;obtain⟨a,rfl⟩:∃a,c=[a]:=by
      match c,b.trans hc with
      |[a],_=>exact⟨a,O⟩
     rw[hd,<-h1];simp[Array.getD]
   ·intro j;have hc:=f.f.rep.n1 j;rw[Ty.n_rep]at hc;rw[hd];simp;lia
  ·cases h
 ·cases h
def fX{α:Type}{e:zW α}{E:wT}{v:wN}{xs:N α}{S:K->Prop}{w:wP}(h:(mO e E v xs).p S w):(v=.slice wF 0 0/\xs=[])\/∃b cap,v=.slice (Z ⟨b,0,wF⟩) (X xs) cap/\X xs<=cap/\cap<=9223372036854775807:=by
 have⟨cs,h1,f⟩:=h;rcases h1.2 with⟨rfl,h0⟩|⟨g,cap,a,rfl,hd,i,c,hc,j,k⟩
 ·exact .inl ⟨O,xbh.1 h0⟩
 ·exact .inr ⟨g,cap,O,c,hc⟩
def Mr{α:Type}{e:zW α}{E:wT}{v:wN}{xs:N α}{S:K->Prop}{w:wP}(h:(mO e E v xs).p S w){b m cap l n c:K}(hv:v=.slice (Z ⟨b,0,wF⟩) m cap)(hl:l+n<=m)(hi:n<=c)(hc:c<=9223372036854775807):
 SlQ e S ((xs.drop l).take n) (.slice (Z ⟨b,0+l*e.n,wF⟩) n c) w:=by
 have⟨cs,h1,f⟩:=h;rcases h1.2 with⟨h0,_⟩|⟨g,a,i,h0,q,j,s,u,z,k⟩
 ·rw[hv]at h0;cases h0
 ·rw[hv]at h0;cases h0;have hd:X ((xs.drop l).take n)=n:=by simp;lia
  refine⟨Z ⟨b,0+l*e.n,wF⟩,c,by rw[hd],W,by unfold WS;lia,.inr ⟨b,0+l*e.n,(cs.drop<|l*e.n).take<|n*e.n,O,?_,(f.drop l).take n⟩⟩;have o:=At.row j;have:=o.take<|X xs*e.n;rw[k]at this;exact(this.drop<|l*e.n).take<|n*e.n
def Cp{t:wT}{c:wT}{ag:qR}{e bytes:K}{a:wN}{b o n cap l h:K}{lo hi:V wN}{w:wP}(ht:P.underlying t=Z (.slice c))(f:Jf P c ag e bytes a)
 (hl:lo=Z (.int .i64 (l:J))\/(lo=wF/\l=0)) (i:hi=Z (.int .i64 (h:J))\/(hi=wF/\h=n)) (hc:l<=h) (hd:h<=cap):
 (xdb t (.slice (Z ⟨b,o,wF⟩) n cap) lo hi wF).run P w=.ok (.slice (if cap=l then Z ⟨b,o,wF⟩else(Z (⟨b,o,wF⟩:KW)).map (·.add (l*e))) (h-l)<|cap-l) w:=by
 have b1:(0:J)<=(l:J)/\(l:J)<=(h:J):=W
 have b2:(0:J)<=(h:J)/\(h:J)<=(cap:J):=W
 unfold xdb;simp only[xay,ul ht,xae];unfold xfX;simp only[xay,ul ht,xae];unfold xer
 obtain rfl|⟨rfl,rfl⟩:=hl<;>obtain rfl|⟨rfl,rfl⟩:=i<;>
  simp only[xeF,V6,xay,xaI,xae,iq b1,iq b2,wv f,xbe]
def HN{t:wT}{b:wT}{ag:qR}{c bytes:K}{a:wN}{lo hi:V wN}{w:wP}(ht:P.underlying t=Z (.slice b))(e:Jf P b ag c bytes a)
 (hl:lo=Z (.int .i64 ((0:K):J))\/lo=wF) (f:hi=Z (.int .i64 ((0:K):J))\/hi=wF):
 (xdb t (.slice wF 0 0) lo hi wF).run P w=.ok (.slice wF 0 0) w:=by
 unfold xdb;simp only[xay,ul ht,xae];unfold xfX;simp only[xay,ul ht,xae];unfold xer
 obtain rfl|rfl:=hl<;>obtain rfl|rfl:=f<;>
  simp[xeF,V6,xay,xaI,xae,wv e]
def Lu{m:K}{lo hi:V K}{k:K->K->V R}(h:zju m lo hi k=Z r):∃l a,l<=a/\a<=m/\k l (a-l)=Z r/\(lo=Z l\/(lo=wF/\l=0))/\(hi=Z a\/(hi=wF/\a=m)):=by
 unfold zju at h;split at h
 ·next a=>have⟨h1,b⟩:=Zo h;exact⟨0,a,xan _,h1,b,.inr ⟨O,O⟩,.inl O⟩
 ·next l=>have⟨h1,b⟩:=Zo h;exact⟨l,m,h1,IR _,b,.inl O,.inr ⟨O,O⟩⟩
 ·next l a=>have⟨h1,b⟩:=Zo h;exact⟨l,a,h1.1,h1.2,b,.inl O,.inl O⟩
 ·exact⟨0,m,xan _,IR _,h,.inr ⟨O,O⟩,.inr ⟨O,O⟩⟩
def Tx{t:wT}{s:Wd}{l h:K}{lo hi:V wN}{w:wP}(ht:P.underlying t=Z .string)
 (hl:lo=Z (.int .i64 (l:J))\/(lo=wF/\l=0)) (a:hi=Z (.int .i64 (h:J))\/(hi=wF/\h=s.size)) (b:l<=h) (hc:h<=s.size):
 (xdb t (.string s) lo hi wF).run P w=.ok (.string<|s.extract l h) w:=by
 have b1:(0:J)<=(l:J)/\(l:J)<=(h:J):=W
 have b2:(0:J)<=(h:J)/\(h:J)<=(s.size:J):=W
 unfold xdb;simp only[xay,ul ht,xae];unfold xfX;simp only[xay,ul ht,xae];unfold xer
 obtain rfl|⟨rfl,rfl⟩:=hl<;>obtain rfl|⟨rfl,rfl⟩:=a<;>
  simp[xeF,V6,iq b1,iq b2,b,hc]
def CH(s:Wd)(l h:K):xd (s.extract l h)=((xd s).drop l).take (h-l):=by simp_all [xd]
def zjY(T:yY P cf.tt)(hL:uI P cf.tt){lo hi:V wW}{k:N (K×Dv)->V R}(h:SW cf cx σ t x lo hi k=Z r):∃l,k l=Z r/\ES P ⟨d,.slice t x lo hi wF,ty,pos,aft,g⟩ cx σ F l:=by
 have hx:∀{vs env S w},(∀G∈yI (.slice t x lo hi wF),Lk P vs env S w cx σ G)->Xz P vs env S w cx σ x:=λhl=>yG hl (by simp[xaB]);have hd:∀{vs env S w z},lo=Z z->(∀G∈yI (.slice t x lo hi wF),Lk P vs env S w cx σ G)->Xz P vs env S w cx σ z:=λe hl=>yG hl (by simp[xaB,e]);have U:∀{vs env S w z},hi=Z z->(∀G∈yI (.slice t x lo hi wF),Lk P vs env S w cx σ G)->Xz P vs env S w cx σ z:=λe hl=>yG hl (by simp[xaB,e]);unfold SW at h;split at h
 ·next e E B s xs ht hg=>
  have⟨hn,h⟩:=yj h;cases hn;have⟨bytes,a0,hm⟩:=Kq T hL ht
  have A:∀{l m:K}{zs:N e.D},l<=m->m<=xaG xs->zs=(xdT l xs).take (m-l)->(∀vs env S w,(∀G∈yI (.slice t x lo hi wF),Lk P vs env S w cx σ G)->((lo.map<|ev env)=Z (.int .i64 (l:J))\/(lo=wF/\l=0))/\((hi.map<|ev env)=Z (.int .i64 (m:J))\/(hi=wF/\m=xaG xs)))->
   k [(0,.d (.l e) zs)]=Z r->∃l,k l=Z r/\ES P ⟨d,.slice t x lo hi wF,ty,pos,aft,g⟩ cx σ F l:=by
   intro l m zs h1 a i j C;subst i;refine⟨_,C,uA λenv w S vs hM hl=> ?_⟩;have⟨Y,Q⟩:=j vs env S w hl;exact⟨_,_,_,_,[fV (eS e.rep) xs<|ev env x],[],NC (e:=e.rep) (xs:=xs) (l:=l) (h:=m) O (qw T ht) hm Y Q h1 a<|λS w h=>h.1,wR,⟨zj hg<|hx hl,wR⟩,λu w' _ hf=>zt hf.1⟩
  rcases UH h with⟨e1,h1⟩|⟨zl,l,e1,h1,hc⟩
  ·rcases UH h1 with⟨f,a⟩|⟨zh,m,f,a,H⟩
   ·exact A (l:=0) (m:=xaG xs) (xan _) (IR _) (zkH (α:=e.D) xs) (λvs env S w hl=>⟨.inr ⟨e1,O⟩,.inr ⟨f,O⟩⟩) a
   ·have⟨i,j⟩:=Zo a;have⟨zs,L,C⟩:=xR j;exact A (l:=0) (m:=m) (xan _) i L (λvs env S w hl=>⟨.inr ⟨e1,O⟩,.inl<|by rw[f];exact ut Z<|H P vs env S w<|U f hl⟩) C
  ·rcases UH h1 with⟨f,a⟩|⟨zh,m,f,a,H⟩
   ·have⟨i,j⟩:=Zo a;have⟨zs,L,C⟩:=xR j;exact A (l:=l) (m:=xaG xs) i (IR _) (L.trans<|zkn (α:=e.D) xs l) (λvs env S w hl=>⟨.inl (by rw[e1];exact ut Z<|hc P vs env S w<|hd e1 hl),.inr ⟨f,O⟩⟩) C
   ·have⟨i,j⟩:=Zo a;have⟨zs,L,C⟩:=xR j;exact A (l:=l) (m:=m) i.1 i.2 L (λvs env S w hl=>⟨.inl (by rw[e1];exact ut Z<|hc P vs env S w<|hd e1 hl),.inl<|by rw[f];exact ut Z<|H P vs env S w<|U f hl⟩) C
 ·next e E B o ht hg=>
  split at h
  ·next s E' xs ho=>
   have⟨hn,h⟩:=yj h;cases hn;have⟨bytes,a0,hm⟩:=Kq T hL ht
   have M:∀(l m:K),l<=m->m<=xaG xs->k [(0,.sv o e l<|m-l)]=Z r->(∀vs env S w,(∀G∈yI (.slice t x lo hi wF),Lk P vs env S w cx σ G)->((lo.map<|ev env)=Z (.int .i64 (l:J))\/(lo=wF/\l=0))/\((hi.map<|ev env)=Z (.int .i64 (m:J))\/(hi=wF/\m=xaG xs)))->
    ∃l,k l=Z r/\ES P ⟨d,.slice t x lo hi wF,ty,pos,aft,g⟩ cx σ F l:=by
    intro l m h1 a C j;refine⟨_,C,λenv w S vs hS hM hl=> ?_⟩;have⟨Y,Q⟩:=j vs env S w hl;have hp:ev env x=vs o:=zj hg<|hx hl;rcases fX (show(mO e.rep E' (vs o) xs).p S w from ZM hM ho)with⟨hv,hj⟩|⟨b,cap,hv,hu,hy⟩
    ·refine(NC (e:=e.rep) (xs:=([]:N e.D)) (l:=l) (h:=m) O (qw T ht) hm Y (by rw[hj]at Q;exact Q) h1 (by rw[hj]at a;exact a) (Γ:=[fV (eS e.rep) ([]:N e.D)<|ev env x]) (λS w h=>h.1) (ms:=[]) w S hS wR ⟨?_,wR⟩).mono ?_
     ·rw[hp,hv];exact xT.2 ⟨wF,0,O,IR _,xan _,.inl O⟩
     ·rintro v w' ⟨u,rfl,_,hw,hf⟩;refine⟨hw,zt (.inr ?_)⟩;have hA:m=0:=by rw[hj]at a;exact Nat.le_zero.1 a
      have⟨ao,c,q1,q2,q3,_⟩:=xT.1 hf.1;refine⟨W,ao,c,by unfold WS at q3;lia,?_⟩;rw[q1];simp
    ·have hr:=Cp (P:=P) (b:=b) (o:=0) (n:=xaG xs) (cap:=cap) (w:=w) (l:=l) (h:=m) (qw T ht) hm (Y.imp id λq=>⟨by rw[q.1];rfl,q.2⟩) (Q.imp id λq=>⟨by rw[q.1];rfl,q.2⟩) h1<|xap a hu;rw[<-hv,<-hp]at hr;refine Zj.of_value (v:=.slice (if cap=l then Z ⟨b,0,wF⟩else Z ((⟨b,0,wF⟩:KW).add<|l*e.rep.n)) (m-l)<|cap-l) (w':=w) (by simp[kW,hr]) ⟨yA.refl _ _,zt ?_⟩;by_cases hq:cap=l
     ·rw[iq hq];refine .inr ⟨W,Z ⟨b,0,wF⟩,cap-l,W,?_⟩;rw[(W:m-l=0)]
     ·rw[ir hq];exact .inl ⟨b,xaG xs,cap,cap-l,hv,W,W,W,by rw[qW]⟩
   rcases UH h with⟨e1,h1⟩|⟨zl,l,e1,h1,hc⟩
   ·rcases UH h1 with⟨f,a⟩|⟨zh,m,f,a,H⟩
    ·exact M 0 (xaG xs) (xan _) (IR _) a<|λvs env S w hl=>⟨.inr ⟨e1,O⟩,.inr ⟨f,O⟩⟩
    ·have⟨i,j⟩:=Zo a;exact M 0 m (xan _) i j<|λvs env S w hl=>⟨.inr ⟨e1,O⟩,.inl<|by rw[f];exact ut Z<|H P vs env S w<|U f hl⟩
   ·rcases UH h1 with⟨f,a⟩|⟨zh,m,f,a,H⟩
    ·have⟨i,j⟩:=Zo a;exact M l (xaG xs) i (IR _) j<|λvs env S w hl=>⟨.inl (by rw[e1];exact ut Z<|hc P vs env S w<|hd e1 hl),.inr ⟨f,O⟩⟩
    ·have⟨i,j⟩:=Zo a;exact M l m i.1 i.2 j<|λvs env S w hl=>⟨.inl (by rw[e1];exact ut Z<|hc P vs env S w<|hd e1 hl),.inl<|by rw[f];exact ut Z<|H P vs env S w<|U f hl⟩
  ·cases h
 ·next q B xs ht hg=>
  have A:∀{l m:K}{zs:N K},l<=m->m<=xaG xs->zs=(xdT l xs).take (m-l)->(∀vs env S w,(∀G∈yI (.slice t x lo hi wF),Lk P vs env S w cx σ G)->((lo.map<|ev env)=Z (.int .i64 (l:J))\/(lo=wF/\l=0))/\((hi.map<|ev env)=Z (.int .i64 (m:J))\/(hi=wF/\m=xaG xs)))->
   k [(0,.d .tx zs)]=Z r->∃l,k l=Z r/\ES P ⟨d,.slice t x lo hi wF,ty,pos,aft,g⟩ cx σ F l:=by
   intro l m zs h1 a i j C;refine⟨_,C,zG λenv w S vs hl=> ?_⟩;have⟨Y,Q⟩:=j vs env S w hl;have⟨s,e1,f,e3⟩:=O1<|zj hg<|hx hl;have hk:X (xd s)=s.size:=jk s;rw[f]at hk;have hr:=Tx (P:=P) (s:=s) (l:=l) (h:=m) (w:=w) (LJ T ht) (Y.imp id λq=>⟨by rw[q.1];rfl,q.2⟩) (Q.imp id λq=>⟨by rw[q.1];rfl,by rw[q.2];exact hk⟩) h1 (by rw[<-hk];exact a);rw[<-e1]at hr;refine⟨.string<|s.extract l m,by simp[kW,hr],zt<|OD (by rw[CH,f,i]) ?_⟩;rw[<-jk,CH,f];have a:m<=xaG (α:=K) xs:=a;rw[xav];lia
  rcases UH h with⟨e1,h1⟩|⟨zl,l,e1,h1,hc⟩
  ·rcases UH h1 with⟨f,a⟩|⟨zh,m,f,a,H⟩
   ·exact A (l:=0) (m:=xaG (α:=K) xs) (xan _) (IR _) (zkH (α:=K) xs) (λvs env S w hl=>⟨.inr ⟨e1,O⟩,.inr ⟨f,O⟩⟩) a
   ·have⟨i,j⟩:=Zo a;have⟨zs,L,C⟩:=xR j;exact A (l:=0) (m:=m) (xan _) i L (λvs env S w hl=>⟨.inr ⟨e1,O⟩,.inl<|by rw[f];exact ut Z<|H P vs env S w<|U f hl⟩) C
  ·rcases UH h1 with⟨f,a⟩|⟨zh,m,f,a,H⟩
   ·have⟨i,j⟩:=Zo a;have⟨zs,L,C⟩:=xR j;exact A (l:=l) (m:=xaG (α:=K) xs) i (IR _) (L.trans<|zkn (α:=K) xs l) (λvs env S w hl=>⟨.inl (by rw[e1];exact ut Z<|hc P vs env S w<|hd e1 hl),.inr ⟨f,O⟩⟩) C
   ·have⟨i,j⟩:=Zo a;have⟨zs,L,C⟩:=xR j;exact A (l:=l) (m:=m) i.1 i.2 L (λvs env S w hl=>⟨.inl (by rw[e1];exact ut Z<|hc P vs env S w<|hd e1 hl),.inl<|by rw[f];exact ut Z<|H P vs env S w<|U f hl⟩) C
 ·cases h
def zpf(f:yY P cf.tt){k:N (K×Dv)->V R}(h:zl6 cf cx σ t x y k=Z r):∃l,k l=Z r/\ES P ⟨d,.index t x y,ty,pos,aft,g⟩ cx σ F l:=by
 have i:∀{vs env S w},(∀a∈yI (.index t x y),Lk P vs env S w cx σ a)->Xz P vs env S w cx σ x:=λhl=>yG hl (by simp[xaB]);have m:∀{vs env S w},(∀a∈yI (.index t x y),Lk P vs env S w cx σ a)->Xz P vs env S w cx σ y:=λhl=>yG hl (by simp[xaB]);unfold zl6 at h;split at h
 ·next q B xs ht n=>
  have⟨j,o,h,hi⟩:=PF h;have⟨z,p,h⟩:=xR h;refine⟨_,h,zG λenv w S vs hl=> ?_⟩;have⟨s,e1,c,_⟩:=O1<|zj n<|i hl;have⟨ik,u⟩:=hi P vs env S w<|m hl;have e:X (xd s)=s.size:=jk s;have hc:j<s.size:=by rw[<-e,c];exact o
  have hd:z=(s[j]'hc).toNat:=by
   rw[p,<-c];unfold xd;rw[FS,xbV,xab<|by rw[<-e]at hc;simpa[xd]using hc];rfl
  have b:=run_index_string (P:=P) w t s ik (j:J)<|LJ f ht;rw[dif_pos ⟨W,W⟩]at b;refine⟨.int .u8 (z:J),?_,zt<|FQ<|by rw[hd];exact UInt8.toNat_lt _⟩;simp only[xbe]at b;rw[hd];simp[kW,e1,u,b]
 ·cases h
def zov{E:wT}{k:N (K×Dv)->V R}(h:zl1 cf cx σ E x k=Z r):∃l,k l=Z r/\ES P ⟨d,.box E x,ty,pos,aft,g⟩ cx σ F l:=by
 unfold zl1 at h;split at h
 ·next a f=>
  have⟨y,h,b⟩:=Vi h;exact⟨_,h,uA λenv w S vs i hl=>⟨_,_,_,_,[fV a.ty.rep y<|ev env x],[],zms (e:=a.ty.rep) (z:=y) O<|λS w h=>h.1,wR,⟨b P vs env S w (yG hl<|by simp[xaB]),wR⟩,λu w' _ c=>zt c.1⟩⟩
 ·cases h
def znW(j:yY P cf.tt){a:uL wW}{ts:uL wT}{k:N (K×Dv)->V R}(h:zmJ cf cx σ a.toList ts.toList k=Z r):
 ∃l,k l=Z r/\ES P ⟨d,.call ⟨.builtin .len,a,ts⟩,ty,pos,aft,g⟩ cx σ F l:=by
 unfold zmJ at h;split at h
 ·next _ _ x t hd C=>
  obtain rfl:a= #[x]:=by cases a;simp_all
  obtain rfl:ts= #[t]:=by cases ts;simp_all
  have f:∀{vs env S w},(∀n∈yI (.call ⟨.builtin .len,#[x],#[t]⟩),Lk P vs env S w cx σ n)->Xz P vs env S w cx σ x:=λhl=>yG hl (by simp[xaB,xeE]);split at h
  ·next e E B ht=>
   have c:=qw j ht;split at h
   ·next b=>exact⟨_,h,zG λenv w S vs hl=>⟨_,N8 c (zj b<|f hl) w,zt<|wX i0⟩⟩
   ·next s xs b=>
    exact⟨_,h,uA λenv w S vs m hl=>⟨_,_,_,_,[fV (eS s.rep) xs<|ev env x],[],zmu (e:=s.rep) (xs:=xs) c O<|λS w h=>h.1,wR,⟨zj b<|f hl,wR⟩,λu w' i p=>zt<|wX<|NL i⟩⟩
   ·next o b=>
    split at h
    ·next s v xs z=>
     exact⟨_,h,uA λenv w S vs m hl=>⟨_,_,_,_,[],[mO s.rep v (vs o) xs],LZ 0 O c<|zj b<|f hl,⟨ZM m z,wR⟩,wR,λu w' i p=>zt<|wX<|NL i⟩⟩
    ·cases h
   ·cases h
  ·next q B ht=>
   have c:=LJ j ht;split at h
   ·next xs b=>
    refine⟨_,h,zG λenv w S vs hl=> ?_⟩;have⟨s,e1,A,D⟩:=O1<|zj b<|f hl;have hc:X (xd s)=s.size:=jk s;rw[A]at hc;have hc:xaG (α:=K) xs=s.size:=hc;refine⟨.int .i64 ((xaG (α:=K) xs:K):J),?_,zt<|wX W⟩;rw[hc];simp[kW,Wt,V2,UL,e1,Builtin.len_,fN,ul c]
   ·cases h
  ·cases h
 ·cases h
def znK{b:qR}{e:uL wW}{ts:uL wT}{k:N (K×Dv)->V R}(h:eMM cx b σ e.toList k=Z r):
 ∃l,k l=Z r/\ES P ⟨d,.call ⟨.builtin (if b=wL then .max else .min),e,ts⟩,ty,pos,aft,g⟩ cx σ F l:=by
 unfold eMM at h;split at h
 ·next _ x y hd=>
  obtain rfl:e= #[x,y]:=by cases e;simp_all
  have i:∀{bl vs env S w},(∀n∈yI (.call ⟨.builtin bl,#[x,y],ts⟩),Lk P vs env S w cx σ n)->Xz P vs env S w cx σ x:=λhl=>yG hl (by simp[xaB,xeE]);have j:∀{bl vs env S w},(∀n∈yI (.call ⟨.builtin bl,#[x,y],ts⟩),Lk P vs env S w cx σ n)->Xz P vs env S w cx σ y:=λhl=>yG hl (by simp[xaB,xeE]);split at h
  ·next a c m hc=>
   cases b
   ·have h:B (min (α:=J) a c) (λz=>k [(0,znc z)])=Z r:=h;have⟨z,f,h⟩:=xR h;exact⟨_,h,zG λenv w S vs hl=>⟨_,v_i (zpa (w9 m<|i hl).1 (w9 hc<|j hl).1) f w,zt<|wX<|zhB f<|znO (w9 m<|i hl).2 (w9 hc<|j hl).2⟩⟩
   ·have h:B (max (α:=J) a c) (λz=>k [(0,znc z)])=Z r:=h;have⟨z,f,h⟩:=xR h;exact⟨_,h,zG λenv w S vs hl=>⟨_,v_i (zn1 (w9 m<|i hl).1 (w9 hc<|j hl).1) f w,zt<|wX<|zhB f<|znU (w9 m<|i hl).2 (w9 hc<|j hl).2⟩⟩
  ·cases h
 ·cases h
end
end
section
def PH(S:K->Prop)(w:wP):(ts:N Ty)->mG ts->N (K×wN)->Prop
 |[],_,[]=>XS
 |t::ts,y,(_,v)::r=>(fV t.rep y.1 v).p S w/\PH S w ts y.2 r
 |_,_,_=>QR
def PH.keep{S:K->Prop}{w w':wP}(k:yA S w w'):∀{ts:N Ty}{ys:mG ts}{ps:N (K×wN)},PH S w ts ys ps->PH S w' ts ys ps
 |[],_,[],h=>trivial
 |t::_,y,(_,v)::_,h=>⟨(fV t.rep y.1 v).keep h.1 k,PH.keep k h.2⟩
 |[],_,_::_,h=>h.elim
 |_::_,_,[],h=>h.elim
def PH.sub{S a:K->Prop}{w:wP}(k:∀k,k<w.heap.size->S k->a k):∀{ts:N Ty}{ys:mG ts}{ps:N (K×wN)},PH S w ts ys ps->PH a w ts ys ps
 |[],_,[],h=>trivial
 |t::_,y,(_,v)::_,h=>⟨(fV t.rep y.1 v).sub h.1 k,PH.sub k h.2⟩
 |[],_,_::_,h=>h.elim
 |_::_,_,[],h=>h.elim
def phF(ts:N Ty)(ys:mG ts)(ps:N (K×wN)):FF:=⟨λS w=>PH S w ts ys ps,λh k=>PH.keep k h,λh k=>PH.sub k h⟩
section
variable{P:jP}{cf:Cf}{cx σ:Sg}{F:xS MF}{vs:wr->wN}{env:y7}{S:wr->Prop}{w:wP}{R:Type}{r:R}
 {d:ww Z5}{ty t yt:wT}{pos:String}{aft:uL Edge}{g:ww (wr×qR)}{x y:wW}
def nM:∀{ts:N Ty}{ps:N (K×wW)}{j:K}{k:mG ts->V R},parts cx σ ts ps j k=Z r->
 ∃ys,k ys=Z r/\ps.map (·.1)=xfC j (X ps)/\∀(P:jP) vs env S w,(∀x∈ps.map (·.2),Xz P vs env S w cx σ x)->PH S w ts ys (ps.map λq:K×wW=>(q.1,ev env q.2))
 |[],[],j,k,h=>⟨(),h,O,λ_ _ _ _ _ _=>wR⟩
 |t::ts,(i,x)::ps,j,k,h=>by
  unfold parts at h;have⟨a,h⟩:=z7 h;have⟨y,h,b⟩:=Vi h;have⟨ys,h1,c,e⟩:=nM h;refine⟨(y,ys),h1,?_,λP vs env S w hl=>⟨b P vs env S w<|hl x<|H1,e P vs env S w λz f=>hl z<|UV _ f⟩⟩;simp only[xbS,xax,List.range'_succ,c,zO a]
 |[],_::_,j,k,h=>by simp[parts]at h
 |_::_,[],j,k,h=>by simp[parts]at h
def zkB{i:K}{v:wN}:jo [(i,v)]=v.cells.toList:=by simp[jo]
def zqE{k:K}{s t:Ty}:xl (k+2) (.p s t) 0=Z ⟨0,s,λz=>z.1,λy z=>(y,z.2)⟩:=O
def zqe{k:K}{s t:Ty}{i:K}{f:Fl t.D}(h:xl (k+1) t i=Z f):xl (k+2) (.p s t) (i+1)=Z ⟨s.n+f.off,f.f,λz=>f.get z.2,λy z=>(z.1,f.set y z.2)⟩:=by
 simp only[xl,h]
def ze5{pl:uL (K×K)}:∀{k:K}{t:Ty}{o j:K}{ys:mG (zdq k t)}{ps:N (K×wN)}{z:t.D},(∀i f,xl k t i=Z f->pl[j+i]? =Z (o+f.off,f.f.n))->
 ps.map (·.1)=xfC j (X ps)->PH S w (zdq k t) ys ps->cW k t ys=Z z->ae (pl[·]?) ps o/\t.rep.p S z (jo ps) w
 |0,_,_,_,_,_,_,_,_,_,h=>by simp[cW]at h
 |1,t,o,j,ys,[],z,hp,hi,h,c=>h.elim
 |1,t,o,j,ys,[(i,v)],z,hp,hi,h,c=>by
  simp only[cW,xat]at c;subst c;have q:i=j:=by simpa using hi
  subst q;have h0:=hp 0 (Fl.self t) O;have e:=za8 h.1;rw[t.n_rep]at e;refine⟨⟨?_,wR⟩,by rw[zkB];exact Zc h.1⟩;show pl[i]? =_;rw[e];simpa[Fl.self]using h0
 |1,t,o,j,ys,_::_::_,z,hp,hi,h,c=>h.2.elim
 |k+2,.p s t,o,j,ys,[],z,hp,hi,h,c=>h.elim
 |k+2,.p s t,o,j,ys,(i,v)::ps,z,hp,hi,h,c=>by
  unfold cW at c;split at c
  ·next y A=>
   obtain rfl:=xdI c;simp only[xbS,xax,List.range'_succ,xeQ]at hi;obtain⟨rfl,hi⟩:=hi;have h0:=hp 0 _ zqE;have e:=za8 h.1;rw[s.n_rep]at e;have⟨h1,B⟩:=ze5 (o:=o+s.n) (j:=i+1) (pl:=pl) (λm f C=>by
    have:=hp (m+1) _<|zqe C;rw[(W:i+1+m=i+(m+1)),this];simp only[xcH]) hi h.2 A
   refine⟨⟨?_,by rw[e];exact h1⟩,?_⟩
   ·show pl[i]? =_;rw[e];simpa using h0
   ·rw[Hb];exact⟨_,_,O,Zc h.1,B⟩
  ·cases c
 |k+2,.i,_,_,_,_,_,_,_,_,h=>by simp[cW]at h
 |k+2,.u,_,_,_,_,_,_,_,_,h=>by simp[cW]at h
 |k+2,.b,_,_,_,_,_,_,_,_,h=>by simp[cW]at h
 |k+2,.l _,_,_,_,_,_,_,_,_,h=>by simp[cW]at h
 |k+2,.a _ _,_,_,_,_,_,_,_,_,h=>by simp[cW]at h
def HB(S:K->Prop)(w:wP)(n:K)(t:Ty):N (K×wN)->t.D->t.D->Prop
 |[],z,z'=>z=z'
 |(i,v)::r,z,z'=>∃(f:Fl t.D) (y:f.f.D),xl n t i=Z f/\(fV f.f.rep y v).p S w/\HB S w n t r (f.set y z) z'
def HB.keep{S:K->Prop}{w w':wP}(k:yA S w w'){n:K}{t:Ty}:∀{vs:N (K×wN)}{z z':t.D},HB S w n t vs z z'->HB S w' n t vs z z'
 |[],_,_,h=>h
 |_::_,_,_,⟨f,y,h1,a,b⟩=>⟨f,y,h1,(fV f.f.rep y _).keep a k,HB.keep k b⟩
def HB.sub{S a:K->Prop}{w:wP}(k:∀k,k<w.heap.size->S k->a k){n:K}{t:Ty}:∀{vs:N (K×wN)}{z z':t.D},HB S w n t vs z z'->HB a w n t vs z z'
 |[],_,_,h=>h
 |_::_,_,_,⟨f,y,h1,b,c⟩=>⟨f,y,h1,(fV f.f.rep y _).sub b k,HB.sub k c⟩
def hbF(n:K)(t:Ty)(vs:N (K×wN))(z z':t.D):FF:=⟨λS w=>HB S w n t vs z z',λh k=>HB.keep k h,λh k=>HB.sub k h⟩
def HB.fill{S:K->Prop}{w:wP}{n:K}{t:Ty}{pl:uL (K×K)}(hp:∀i f,xl n t i=Z f->pl[i]? =Z (f.off,f.f.n)):∀{vs:N (K×wN)}{z z':t.D}{cs:N wN},HB S w n t vs z z'->t.rep.p S z cs w->
 ∃out,xdx (pl[·]?) cs.toArray vs=Z out.toArray/\t.rep.p S z' out w/\∀j g,xl n t j=Z g->(∀p∈vs,p.1≠j)->g.f.n=1->out[g.off]? =cs[g.off]?
 |[],z,z',cs,h,hc=>⟨cs,O,h▸hc,λ_ _ _ _ _=>O⟩
 |(i,v)::r,z,z',cs,⟨f,y,h1,a,o⟩,hc=>by
  have⟨q,c,b,e1,s,e,u⟩:=K3 h1 z S w cs hc;have hv:=Zc a;have k:=za8 a;have⟨out,A,B,C⟩:=HB.fill hp o<|u w y v.cells.toList (yA.refl _ _) hv;refine⟨out,?_,B,λj g l m E=> ?_⟩
  ·rw[e1,zcL (by rw[hp i f h1,k,f.f.n_rep]) s<|by rw[f.f.rep.len e,k]];exact A
  ·rw[C j g l (λp hp=>m p<|UV _ hp) E,e1];have⟨_,_,hd⟩:=BL h1 l<|m (i,v)<|H1;have l1:X c=f.f.n:=by rw[f.f.rep.len e,f.f.n_rep]
   have G:X v.cells.toList=f.f.n:=by rw[f.f.rep.len hv,f.f.n_rep]
   obtain hd|hd:=hd
   ·rw[xad,xad,xaX W,xaX W]
   ·rw[xbr (by rw[xaw];lia),xbr (by rw[xaw];lia),xaw,xaw,l1,G]
def zai{n:K}{t:Ty}:∀{ps:N (K×wW)}{z:t.D}{k:t.D->V R},zhP cx σ n t ps z k=Z r->
 ∃z',k z'=Z r/\∀(P:jP) vs env S w,(∀x∈ps.map (·.2),Xz P vs env S w cx σ x)->HB S w n t (ps.map λq:K×wW=>(q.1,ev env q.2)) z z'
 |[],z,k,h=>⟨z,h,λ_ _ _ _ _ _=>O⟩
 |(i,x)::ps,z,k,h=>by
  unfold zhP at h;split at h
  ·next f a=>
   have⟨y,h,b⟩:=Vi h;have⟨z',h1,c⟩:=zai h;exact⟨z',h1,λP vs env S w hl=>⟨f,y,a,b P vs env S w<|hl x<|H1,c P vs env S w λz e=>hl z<|UV _ e⟩⟩
  ·cases h
def gi:∀(n:K) (t:Ty) (ys:mG (EK n t)),X (nV n t ys)=n
 |0,_,_=>rfl
 |n+1,t,ys=>ut (· +1)<|gi n t ys.2
def MU{t:Ty}:∀{n j:K}{ys:mG (EK n t)}{ps:N (K×wN)},ps.map (·.1)=xfC j (X ps)->PH S w (EK n t) ys ps->
 ae (λi=>Z (i*t.rep.n,t.rep.n)) ps (j*t.rep.n)/\yK t.rep S (nV n t ys) (jo ps) w
 |0,_,_,[],_,_=>⟨wR,O⟩
 |0,_,_,_::_,_,h=>h.elim
 |n+1,_,_,[],_,h=>h.elim
 |n+1,j,ys,(i,v)::ps,hi,h=>by
  simp only[xbS,xax,List.range'_succ,xeQ]at hi;obtain⟨rfl,hi⟩:=hi;have a:=za8 h.1;have⟨h1,b⟩:=MU hi h.2;refine⟨⟨by rw[a],?_⟩,?_⟩
  ·rw[a,show i*t.rep.n+t.rep.n=(i+1)*t.rep.n by rw[xbf,xcz]];exact h1
  ·rw[Hb];exact⟨_,_,O,Zc h.1,b⟩
def zki(c:yY P cf.tt){ps:uL (K×wW)}{k:N (K×Dv)->V R}(h:Tb cf cx σ t ps.toList k=Z r):∃l,k l=Z r/\ES P ⟨d,.build t ps,ty,pos,aft,g⟩ cx σ F l:=by
 unfold Tb at h;split at h
 ·next e n B ht=>
  have⟨m,hd,A,D⟩:=YN c ht;have⟨p,_,⟨fs,M,pl,Q,G⟩,_⟩:=(c _ _ ht).2.2.2;simp only at hd A D p G;cases hc:xdd (X ps.toList) n||xam n 0<;>rw[hc]at h
  ·have⟨ys,h,hi,hp⟩:=nM h;split at h
   ·next z U=>
    refine⟨_,h,uA λenv w S vs T hl=> ?_⟩;have H:=hp P vs env S w λx s=>yG hl (by simpa[xaB]using s);have J:(ps.toList.map λq:K×wW=>(q.1,ev env q.2)).map (·.1)=xfC 0 (X (ps.toList.map λq:K×wW=>(q.1,ev env q.2))):=by rw[xcN,xaj];exact hi
    have v:=λ(S:K->Prop) (w:wP) (h:PH S w (zdq n e) ys (ps.toList.map λq:K×wW=>(q.1,ev env q.2)))=>ze5 (pl:=pl) (o:=0) (j:=0) (λi f b=>by rw[xaK,xaK];exact G i f b) J h U;exact⟨_,_,_,_,[phF _ ys (ps.toList.map λq:K×wW=>(q.1,ev env q.2))],[],Oz (e:=e.rep) (z:=z) (parts:=ps.toList) (p▸hd) p A O (.inl ⟨fs,M,pl,Q,λS w h=>(v S w h.1).1⟩)<|λS w h=>(v S w h.1).2,wR,⟨H,wR⟩,λu w' _ b=>zt b.1⟩
   ·cases h
  ·have⟨z,h,Y⟩:=zai h;refine⟨_,h,uA λenv w S vs T hl=> ?_⟩;have hb:=Y P vs env S w λx s=>yG hl (by simpa[xaB]using s);exact⟨_,_,_,_,[hbF n e (ps.toList.map λq:K×wW=>(q.1,ev env q.2)) e.z z],[],HJ (e:=e.rep) (z0:=e.z) (z:=z) (parts:=ps.toList) (p▸hd) p D ⟨fs,M,Q⟩ O (λ_=>XS) (λS w h cs _ hc=>by have⟨out,q1,q2,_⟩:=HB.fill G h.1 hc;exact⟨out,q1,q2,wR⟩),wR,⟨hb,wR⟩,λu w' _ b=>zt b.1⟩
 ·next n e C E B ht=>
  have⟨L,h⟩:=z7 h;rw[xac]at L;have hn:=zO L.1;subst hn;have⟨b2,z2,hv⟩:=zgp c L.2;have⟨ys,h,hi,hp⟩:=nM h;have⟨m,hd,A,D⟩:=YN c ht;refine⟨_,h,uA λenv w S vs T hl=> ?_⟩;have H:=hp P vs env S w λx s=>yG hl (by simpa[xaB]using s);have J:(ps.toList.map λq:K×wW=>(q.1,ev env q.2)).map (·.1)=xfC 0 (X (ps.toList.map λq:K×wW=>(q.1,ev env q.2))):=by rw[xcN,xaj];exact hi
  have v:=λ(S:K->Prop) (w:wP) (h:PH S w (EK C e) ys (ps.toList.map λq:K×wW=>(q.1,ev env q.2)))=>MU J h;exact⟨_,_,_,_,[phF _ ys (ps.toList.map λq:K×wW=>(q.1,ev env q.2))],[],Oz (e:=(Ty.a C e).rep) (z:=nV C e ys) (parts:=ps.toList) hd O A O (.inr ⟨_,_,_,_,_,_,zfA c ht,hv,λS w h=>by have:=(v S w h.1).1;rwa[xcp]at this⟩)<|λS w h=>⟨gi C e ys,(v S w h.1).2⟩,wR,⟨H,wR⟩,λu w' _ b=>zt b.1⟩
 ·cases h
def zdV{s E:wT}{e:Ty}{B:K}(a:yY P cf.tt)(b:uI P cf.tt)(h:ZO cf s=Z ⟨.l e,.sl E,B⟩):0<e.rep.n:=by
 obtain⟨c,h1,rfl⟩:=b _ _ _ _ h;exact(a _ _ h1).2.2.1
def zpi(b:yY P cf.tt)(c:uI P cf.tt){n:K}{ps:uL (K×wW)}{k:N (K×Dv)->V R}(h:zmE cf cx σ t n ps.toList k=Z r):∃l,k l=Z r/\ES P ⟨d,.buildSlice t n ps,ty,pos,aft,g⟩ cx σ F l:=by
 unfold zmE at h;split at h
 ·next e E B ht=>
  have⟨a,h⟩:=z7 h;have a:=xbK a;rw[<-e.n_rep]at a;have⟨ys,h,hd,j⟩:=nM h;have⟨bytes,f,m⟩:=Kq b c ht;refine⟨_,h,uA λenv w S vs s hl=> ?_⟩;have hi:=j P vs env S w λx o=>yG hl (by simpa[xaB]using o);have hc:(ps.toList.map λq:K×wW=>(q.1,ev env q.2)).map (·.1)=xfC 0 (X (ps.toList.map λq:K×wW=>(q.1,ev env q.2))):=by rw[xcN,xaj];exact hd
  have i:=λ(S:K->Prop) (w:wP) (h:PH S w (EK n e) ys (ps.toList.map λq:K×wW=>(q.1,ev env q.2)))=>MU hc h;exact⟨_,_,_,_,[phF _ ys (ps.toList.map λq:K×wW=>(q.1,ev env q.2))],[],Fm (e:=e.rep) (zs:=nV n e ys) (parts:=ps.toList) (qw b ht) m (zdV b c ht) (gi n e ys) a O (λS w h=>by have:=(i S w h.1).1;rwa[xcp]at this)<|λS w h=>(i S w h.1).2,wR,⟨hi,wR⟩,λu w' _ p=>zt p.1⟩
 ·cases h
def TW:∀{xs:N wW}{l:N PD},aG cx σ xs=Z l->X l=X xs/\∀(P:jP) vs env S w,(∀x∈xs,Xz P vs env S w cx σ x)->zE S (HL l<|xs.map<|ev env) w
 |[],l,h=>by simp only[aG,xat]at h;subst h;exact⟨O,λ_ _ _ _ _ _=>wR⟩
 |x::xs,l,h=>by
  unfold aG at h;split at h
  ·next t y f a b=>
   simp only[xat]at h;subst h;have⟨h1,c⟩:=TW b;exact⟨by simp[h1],λP vs env S w hl=>⟨zj a<|hl x<|H1,c P vs env S w λz e=>hl z<|UV _ e⟩⟩
  ·cases h
def zo3{f:Go.Fn}{first cs:uL wW}{k:N (K×Dv)->V R}(h:zm8 cx σ f first.toList cs.toList k=Z r):∃l,k l=Z r/\ES P ⟨d,.makeFunc f first cs,ty,pos,aft,g⟩ cx σ F l:=by
 unfold zm8 at h;split at h
 ·next _ _ _ f' l b hc=>
  obtain rfl:first= #[]:=by cases first;simp_all
  have⟨h1,c⟩:=TW hc;refine⟨_,h,zG λenv w S vs hl=>⟨_,zqv (xs:=cs.toList) O w,zt ?_⟩⟩;exact⟨_,O,by simp[h1],c P vs env S w λx a=>yG hl<|by simpa[xaB]using a⟩
 ·next _ _ _ f' x b hc=>
  split at h
  ·next o t a=>
   obtain rfl:first= #[x]:=by cases first;simp_all
   have h1:=(TW hc).1;obtain rfl:cs= #[]:=by
    cases cs;simp only[xbP]at h1;simp[xbm h1.symm]
   refine⟨_,h,zG λenv w S vs hl=>⟨.func (.func f') #[ev env x] #[],fS (by simp[pv]) w,zt ?_⟩⟩;have⟨e,i⟩:=zj a (yG hl<|by simp[xaB]);exact⟨by rw[e],i⟩
  ·cases h
 ·cases h
end
end
section
section
variable{P:jP}{cf:Cf}{cx σ:Sg}{F:xS MF}{vs:wr->wN}{env:y7}{S:wr->Prop}{w:wP}{R:Type}{r:R}
 {d:ww Z5}{ty t yt:wT}{pos:String}{aft:uL Edge}{g:ww (wr×qR)}{x y:wW}
def Gk{A B C:Type}(h:B=C)(p:(A×B)=(A×C))(x:A×B):(p▸x:A×C)=(x.1,h▸x.2):=by subst h;rfl
theorem St.sub'{we:wP}{Se:K->Prop}{ms:N MF}{Γ Δ:N FF}{w:wP}(h:St we Se ms Γ w)(a:∀f∈Δ,f∈Γ):St we Se ms Δ w:=by grind [St.weak,uE]
def znG{t:Ty}{n:RM}{r:N RM}(x:mH (.d t::n::r)):(XR (.d t::n::r)▸x:Hl ((RM.d t::n::r).map RM.ty))=((x.1,XR (n::r)▸x.2):t.D×Hl ((n::r).map RM.ty)):=
 Gk (A:=t.D) (XR (n::r)) (XR (.d t::n::r)) x
def zo0{t:Ty}{E:wT}{n:RM}{r:N RM}(x:mH (.own t E::n::r)):(XR (.own t E::n::r)▸x:Hl ((RM.own t E::n::r).map RM.ty))=((x.1,XR (n::r)▸x.2):(Ty.l t).D×Hl ((n::r).map RM.ty)):=
 Gk (A:=N t.D) (XR (n::r)) (XR (.own t E::n::r)) x
def zeb{we:wP}{Se:K->Prop}:∀{rs:N RM}{x:mH rs}{us:N wN}{F:N MF}{G:N FF}{w:wP},noV rs=wL->
 St we Se (YH rs x us++F) (YL rs x us++G) w->St we Se F (csF (rs.map RM.ty) (XR rs▸x) us++G) w
 |[],_,_,_,_,_,_,h=>h
 |[.d t],x,us,F,G,w,_,h=>h
 |.var _ _::_,_,_,_,_,_,hv,_=>by cases hv
 |[.own t E],x,us,F,G,w,_,h=>by
  have h:St we Se (mO t.rep E (us.headD uT) x::F) G w:=h;exact MC 0 h O
 |.d t::n::r,x,us,F,G,w,hv,h=>by
  rw[znG];have h:St we Se (YH (n::r) x.2 us.tail++F) (YL (n::r) x.2 us.tail++(fV t.rep x.1 (us.headD uT)::G)) w:=St.sub' (by simpa[YH,YL,rmM,rmF]using h) (by simp;rintro f (h|h|h)<;>simp[h]);have:=zeb (rs:=n::r) hv h;exact St.sub' this (by
   intro f hf;obtain hf|hf:=So.1 hf
   ·obtain rfl|hf:=xaf.1 hf
    ·exact So.2 (.inr<|H1)
    ·exact So.2 (.inl hf)
   ·exact So.2 (.inr<|UV _ hf))
 |.own t E::n::r,x,us,F,G,w,hv,h=>by
  rw[zo0];have h:St we Se (mO t.rep E (us.headD uT) x.1::(YH (n::r) x.2 us.tail++F)) (YL (n::r) x.2 us.tail++G) w:=h;have h:=MC 0 h O;have h:St we Se (YH (n::r) x.2 us.tail++F) (YL (n::r) x.2 us.tail++(fV (eS t.rep) x.1 (us.headD uT)::G)) w:=St.sub' h (by simp;rintro f (h|h|h)<;>simp[h]);have:=zeb (rs:=n::r) hv h;exact St.sub' this (by
   intro f hf;obtain hf|hf:=So.1 hf
   ·obtain rfl|hf:=xaf.1 hf
    ·exact So.2 (.inr<|H1)
    ·exact So.2 (.inl hf)
   ·exact So.2 (.inr<|UV _ hf))
def LQ:∀{rs:N RM}{x:mH rs}{i:K},noV rs=wL->Tv rs x i=zem (rs.map RM.ty) (XR rs▸x) i
 |[],_,_,_=>rfl
 |[.d _],_,_,_=>rfl
 |[.own _ _],_,_,_=>rfl
 |.var _ _::_,_,_,h=>by cases h
 |.d t::n::r,x,i,h=>by rw[znG];show(i,Dv.d t x.1)::Tv (n::r) x.2 (i+1)=_;rw[LQ (rs:=n::r) h];rfl
 |.own t E::n::r,x,i,h=>by rw[zo0];show(i,Dv.d (.l t) x.1)::Tv (n::r) x.2 (i+1)=_;rw[LQ (rs:=n::r) h];rfl
def PN:∀rs:N RM,bH rs=zii (rs.map RM.ty)
 |[]=>rfl
 |[_]=>rfl
 |_::_::_=>rfl
def zgz:∀{ts:N Ty}{x:Hl ts}{i:K}{us:N wN},zE S (csF ts x us) w->X us=X ts->∀e∈zem ts x i,∃j u,e.1=i+j/\us[j]? =Z u/\(vI P vs e.2 u).p S w
 |[],_,_,_,_,_,e,he=>wS he Nm
 |[t],x,i,[],h,hl,e,he=>by cases hl
 |[t],x,i,u::us,h,hl,e,he=>by
  obtain rfl:=xag.1 he;exact⟨0,u,O,O,h.1⟩
 |t::s::r,x,i,[],h,hl,e,he=>by cases hl
 |t::s::r,x,i,u::us,h,hl,e,he=>by
  obtain rfl|he:=xaf.1 he
  ·exact⟨0,u,O,O,h.1⟩
  ·have⟨j,v,h1,a,b⟩:=zgz (i:=i+1) h.2 (by simpa using hl) e he;exact⟨j+1,v,W,by simpa using a,b⟩
def Eb:∀{ts:N Ty}{x:Hl ts}{us:N wN},zE S (csF ts x us) w->X us=X ts->∀e∈zem ts x (bif zii ts then 0 else 1),(wo P vs e.2 (XJ us) e.1).p S w
 |[],_,_,_,_,e,a=>wS a Nm
 |[t],x,[],_,hl,_,_=>by cases hl
 |[t],x,[v],h,hl,e,a=>by
  obtain rfl:=xag.1 a;exact h.1
 |[t],x,_::_::_,_,hl,_,_=>by simp at hl
 |t::s::q,x,[],_,hl,_,_=>by cases hl
 |t::s::q,x,[_],_,hl,_,_=>by simp at hl
 |t::s::q,x,v::b::us,h,hl,e,a=>by
  have⟨j,u,h1,c,f⟩:=zgz (P:=P) (vs:=vs) h hl e a;have⟨i,dv⟩:=e;simp only[zii,Z3]at h1;obtain rfl:i=j+1:=W
  exact⟨(v::b::us).toArray,u,O,by simpa using c,f⟩
def Bl:∀{cs:N VM}{f:Z4}{s:VM},GZ cs f=Z s->s∈cs/\s.f=f/\C7 s.dom=wL/\s.bk=0/\noV s.cod=wL
 |c::cs,f,s,h=>by
  unfold GZ at h;cases a:E c.f f && (C7 c.dom && (E c.bk 0 && noV c.cod))<;>rw[a]at h
  ·have⟨h1,b⟩:=Bl h;exact⟨UV _ h1,b⟩
  ·simp only[Z2,xat]at h;subst h;rw[xac,xac,xac]at a;exact⟨H1,zO a.1,a.2.1,zO a.2.2.1,a.2.2.2⟩
def pz:∀{dom:N AM}{x:fE dom}{us:N wN},C7 dom=wL->YX dom x us=[]
 |[],_,_,_=>rfl
 |.d _::r,x,us,h=>pz (dom:=r) (x:=x.2) (us:=us.tail) h
 |.q _::r,x,us,h=>pz (dom:=r) (x:=x.2) (us:=us.tail) h
 |.fn _ _::r,x,us,h=>pz (dom:=r) (x:=x.2) (us:=us.tail) h
 |.own _ _::_,_,_,h=>by cases h
 |.var _ _::_,_,_,h=>by cases h
def H9:∀{a:N AM}{cs:N PD}{z:fE a},UE a cs=Z z->X cs=X a/\∀{S:K->Prop}{w:wP}{b:N wN},X b=X cs->zE S (HL cs b) w->zE S (ZE P a z b) w
 |[],[],_,_=>⟨O,λ_ _=>wR⟩
 |.q t::r,c::cs,z,h=>by
  simp only[UE]at h;have⟨e,h⟩:=yj h;subst e;split at h
  ·next z' i=>
   obtain rfl:=xdI h;have⟨h1,j⟩:=H9 i;refine⟨by simp[h1],λ{S w b} hl f=> ?_⟩
   cases b with
   |nil=>cases hl
   |cons v b=>exact⟨f.1,j (by simpa using hl) f.2⟩
  ·cases h
 |[],_::_,_,h=>by simp[UE]at h
 |.q _::_,[],_,h=>by simp[UE]at h
 |.d _::_,_,_,h=>by simp[UE]at h
 |.own _ _::_,_,_,h=>by simp[UE]at h
 |.var _ _::_,_,_,h=>by simp[UE]at h
 |.fn _ _::_,_,_,h=>by simp[UE]at h
def zfs:∀{full:N AM}{dom:N Ty}{x:mG dom}{cs:N PD}{z:fE full},E9 full dom x cs=Z z->X dom+X cs=X full/\
 ∀{S:K->Prop}{w:wP}{us a:N wN},X us=X dom->X a=X cs->zE S (tsF dom x us) w->zE S (HL cs a) w->zE S (ZE P full z<|us++a) w
 |full,[],x,cs,z,h=>by
  have h:UE full cs=Z z:=by cases full<;>(try cases‹AM›)<;>simpa[E9]using h
  have⟨h1,b⟩:=H9 (P:=P) h;refine⟨by simp[h1],λ{S w us a} hl hc _ c=> ?_⟩;obtain rfl:=xbh.1 hl;exact b hc c
 |.d t::r,s::dom,x,cs,z,h=>by
  simp only[E9]at h;have⟨e,h⟩:=yj h;subst e;split at h
  ·next z' f=>
   obtain rfl:=xdI h;have⟨h1,b⟩:=zfs f;refine⟨by simp;lia,λ{S w us a} hl hc ht c=> ?_⟩
   cases us with
   |nil=>cases hl
   |cons v us=>exact⟨ht.1,b (by simpa using hl) hc ht.2 c⟩
  ·cases h
 |[],_::_,_,_,_,h=>by simp[E9]at h
 |.q _::_,_::_,_,_,_,h=>by simp[E9]at h
 |.own _ _::_,_::_,_,_,_,h=>by simp[E9]at h
 |.var _ _::_,_::_,_,_,_,h=>by simp[E9]at h
 |.fn _ _::_,_::_,_,_,_,h=>by simp[E9]at h
def zhg{A B:Type}(h:A=B){o:V A}{r:B}(b:(h▸o:V B)=Z r):∃a:A,o=Z a/\(h▸a:B)=r:=by
 subst h;exact⟨r,b,O⟩
def mb{s:VM}(a:xt P s)(hn:C7 s.dom=wL)(b:s.bk=0)(hv:noV s.cod=wL){z:fE s.dom}{q:mH s.cod}(c:s.M z=Z q){us:N wN}(hl:X us=X s.dom):
 Fn P s.f us.toArray (ZE P s.dom z us) XJ (λus=>csF (s.cod.map RM.ty) (XR s.cod▸q) us) (λus=>X us=X s.cod):=by
 have h:=a.plain b c hl;rw[pz hn]at h;refine FnG.frozen h λu w' we Se e=> ?_;have:=zeb (rs:=s.cod) (x:=q) (us:=u) (F:=[]) (G:=[]) hv (by simpa using e);simpa using this
def Fn.weakΓ{U:Type}{f:Z4}{args:uL wN}{Γ b:N FF}{c:U->wN}{a:U->N FF}{ok:U->Prop}(h:Fn P f args Γ c a ok)(e:∀S w,zE S b w->zE S Γ w):Fn P f args b c a ok:=
 λw Se h1 i=>h w Se h1<|e Se w i
def zgv(l:∀s∈cf.cs,xt P s){v:V Dv}{dom cod:N Ty}{k:(mG dom->V (Hl cod))->V R}(h:asF cf σ v dom cod k=Z r):
 ∃g,k g=Z r/\∀vs S w (dv:Dv) u,v=Z dv->(vI P vs dv u).p S w->(fnF P dom cod g u).p S w:=by
 unfold asF at h;split at h
 ·next f c=>
  split at h
  ·next s m=>
   have⟨h1,e,n,o,A⟩:=Bl m;have i:=l s h1;split at h
   ·next B _=>
    subst B;refine⟨_,h,λvs S w dv u hd b=> ?_⟩;cases hd;have⟨cs,C,D,E⟩:=b;refine⟨f,cs,HL c cs,C,⟨e▸i.1,λx q a us hl=> ?_⟩,E⟩;simp only at a;split at a
    ·next z G=>
     have⟨L,H,hn⟩:=zhg _ a;have⟨M,J⟩:=zfs (P:=P) G;have hi:=mb i n o A H (us:=us++cs) (by simp;lia);rw[e]at hi;subst hn;refine(hi.weakΓ λS w j=>J hl D (zE.left j)<|zE.right j).ok_mono λus K=>by simpa using K
    ·cases a
   ·cases h
  ·cases h
 ·next Q T U=>
  split at h
  ·next hd hc _ _=>
   subst hd;subst hc;exact⟨_,h,λvs S w dv u hp b=>by cases hp;exact b⟩
  ·cases h
 ·cases h
end
end
section
def my(P:jP)(ex:N (K×qR)):Prop:=∀f b,U3 ex f=Z b->∃fn,P.funcs[f]? =Z fn/\(fn.name== "runtime.NumGoroutine")=I/\fn.body=wF/\(xeP fn).isNone=wL/\
 (b=wL->xfc fn=Z (λargs=>do
  let(x,y,c)<-xbN "Add64" args
  pure (xbT ((x+y+c)%xbc)<|(x+y+c)/xbc)))/\
 (b=I->xfc fn=Z (λargs=>do
  let(x,y,b)<-xbN "Sub64" args
  pure (xbT ((x+xbc-y-b)%xbc) (if x<y+b then 1 else 0))))
section
variable{P:jP}{cf:Cf}{cx σ:Sg}{F:xS MF}{vs:wr->wN}{env:y7}{S:wr->Prop}{w:wP}{R:Type}{r:R}
 {d:ww Z5}{ty t yt:wT}{pos:String}{aft:uL Edge}{g:ww (wr×qR)}{x y:wW}
def zoH{x y z:K}{k:N (K×Dv)->V R}(h:exU wL x y z k=Z r):z<=1/\∃p q:K,p=(x+y+z)%18446744073709551616/\q=(x+y+z)/18446744073709551616/\k [(1,.d .u p),(2,.d .u q)]=Z r:=by
 have⟨h1,h⟩:=Zo h;have⟨p,hp,h⟩:=xR h;have⟨q,a,h⟩:=xR h;exact⟨h1,p,q,hp,a,h⟩
def zpr{x y z:K}{k:N (K×Dv)->V R}(h:exU I x y z k=Z r):z<=1/\∃p q:K,p=(x+18446744073709551616-y-z)%18446744073709551616/\q=(if x<y+z then 1 else 0)/\k [(1,.d .u p),(2,.d .u q)]=Z r:=by
 have⟨h1,h⟩:=Zo h;have⟨p,hp,h⟩:=xR h;have⟨q,a,h⟩:=xR h;exact⟨h1,p,q,hp,a,h⟩
def nK(l:∀s∈cf.cs,xt P s):∀{dom:N AM}{xs:N wW}{cs:N PD}{k:fE dom->V R},QB cf cx σ dom xs cs k=Z r->
 ∃z,k z=Z r/\X xs+X cs=X dom/\∀vs env S w,(∀x∈xs,Xz P vs env S w cx σ x)->∀a:N wN,X a=X cs->zE S (HL cs a) w->zE S (ZE P dom z<|xs.map (ev env)++a) w
 |[],[],[],k,h=>⟨(),h,O,λ_ _ _ _ _ _ _ _=>wR⟩
 |.q t::dom,[],c::cs,k,h=>by
  simp only[QB]at h;have⟨e,h⟩:=yj h;subst e;have⟨z,h1,i,j⟩:=nK l h;refine⟨_,h1,by simp at i⊢;lia,λvs env S w hl a b hc=> ?_⟩
  cases a with
  |nil=>cases b
  |cons v a=>exact⟨hc.1,j vs env S w hl a (by simpa using b) hc.2⟩
 |.d t::dom,x::xs,cs,k,h=>by
  simp only[QB]at h;have⟨y,h,o⟩:=Vi h;have⟨z,h1,i,j⟩:=nK l h;exact⟨_,h1,by simp at i⊢;lia,λvs env S w hl a b hc=>⟨o P vs env S w<|hl x<|H1,j vs env S w (λz m=>hl z<|UV _ m) a b hc⟩⟩
 |.q t::dom,x::xs,cs,k,h=>by
  simp only[QB]at h;split at h
  ·next s y p=>
   have⟨e,h⟩:=yj h;subst e;have⟨z,h1,i,j⟩:=nK l h;exact⟨_,h1,by simp at i⊢;lia,λvs env S w hl a b hc=>⟨zj p<|hl x<|H1,j vs env S w (λz m=>hl z<|UV _ m) a b hc⟩⟩
  ·cases h
 |.fn n cod::dom,x::xs,cs,k,h=>by
  simp only[QB]at h;have⟨f,h,u⟩:=zgv l h;have⟨z,h1,i,j⟩:=nK l h;refine⟨_,h1,by simp at i⊢;lia,λvs env S w hl a b hc=>⟨?_,j vs env S w (λz m=>hl z<|UV _ m) a b hc⟩⟩
  cases hv:xD cx σ x with
  |none=>rename_i h0;rw[hv]at h0;simp[asF]at h0
  |some v=>exact u vs S w v _ hv<|zj hv<|hl x<|H1
 |[],_::_,_,_,h=>by simp[QB]at h
 |[],[],_::_,_,h=>by simp[QB]at h
 |.d _::_,[],_,_,h=>by simp[QB]at h
 |.own _ _::_,_,_,_,h=>by simp[QB]at h
 |.fn _ _::_,[],_,_,h=>by simp[QB]at h
 |.q _::_,[],[],_,h=>by simp[QB]at h
def L3:∀{dom:N Ty}{xs:N wW}{k:mG dom->V R},CD cx σ dom xs k=Z r->
 ∃z,k z=Z r/\X xs=X dom/\∀(P:jP) vs env S w,(∀x∈xs,Xz P vs env S w cx σ x)->zE S (tsF dom z<|xs.map<|ev env) w
 |[],[],k,h=>⟨(),h,O,λ_ _ _ _ _ _=>wR⟩
 |t::dom,x::xs,k,h=>by
  simp only[CD]at h;have⟨y,h,a⟩:=Vi h;have⟨z,h1,b,c⟩:=L3 h;exact⟨_,h1,by simp[b],λP vs env S w hl=>⟨a P vs env S w<|hl x<|H1,c P vs env S w<|λz e=>hl z<|UV _ e⟩⟩
 |[],_::_,_,h=>by simp[CD]at h
 |_::_,[],_,h=>by simp[CD]at h
def zmD(E:∀s∈cf.cs,xt P s)(Y:my P cf.ex){f:wW}{a:uL wW}{ts:uL wT}{k:N (K×Dv)->V R}(h:zhn cf cx σ f a.toList k=Z r):
 ∃l,k l=Z r/\ES P ⟨d,.call ⟨.value f,a,ts⟩,ty,pos,aft,g⟩ cx σ F l:=by
 have G:∀{vs env S w},(∀A∈yI (.call ⟨.value f,a,ts⟩),Lk P vs env S w cx σ A)->Xz P vs env S w cx σ f:=λhl=>yG hl (by simp[xaB,xeE]);have i:∀{vs env S w},(∀A∈yI (.call ⟨.value f,a,ts⟩),Lk P vs env S w cx σ A)->∀x∈a.toList,Xz P vs env S w cx σ x:=λhl x u=>yG hl (by simp only[xaB,xeE,Array.toList_append,So];exact .inr u);unfold zhn at h;split at h
 ·next f0 cs hc=>
  split at h
  ·next s hs=>
   have⟨h1,H,h3,h4,J⟩:=Bl hs;have L:=E s h1;have⟨z,h,hd,m⟩:=nK E h;have⟨q,c,h⟩:=r9 h;refine⟨_,h,uA λenv w S vs hM hl=> ?_⟩;have⟨j,hv,ht,hu⟩:=zj hc<|G hl;have v:=mb L h3 h4 J c (us:=a.toList.map (ev env)++j) (by simp at hd⊢;lia);rw[H]at v;refine⟨_,_,_,_,ZE P s.dom z<|a.toList.map (ev env)++j,[],nk (asv:=a.toList) (H▸L.1) hv v O<|λS w h=>h,wR,m vs env S w (i hl) j ht hu,λus w' B hn=> ?_⟩;unfold ziv;rw[LQ J,PN];exact Eb hn<|by simpa using B
  ·split at h
   ·next _ _ _ b x y z C hD=>
    obtain rfl:a= #[x,y,z]:=by cases a;simp_all
    have⟨hw,h⟩:=z7 h
    cases f with
    |func f1=>
     simp only[xD,xat,Dv.fn.injEq]at hc;obtain⟨rfl,_⟩:=hc;have⟨fn,e1,M,Q,T,e5,e6⟩:=Y _ _ C;unfold exD at h;split at h
     ·next x' y' z' u U m=>
      cases b
      ·have⟨n,p,q,hp,c,h⟩:=zpr h;refine⟨_,h,zG λenv w S vs hl=> ?_⟩;have hi:=wB u (i hl x i7);have o:=wB U (i hl y i7);have D:=wB m (i hl z i7);refine⟨_,v_2 (ziu e1 M Q T (e6 O) hi.1 o.1 D.1 n) hp c w,λe he=> ?_⟩;obtain rfl|he:=xaf.1 he
       ·exact⟨_,_,O,O,jS<|Vw hp⟩
       ·obtain rfl:=xag.1 he;exact⟨_,_,O,O,jS<|zkk hi.2 o.2 n c⟩
      ·have⟨n,p,q,hp,c,h⟩:=zoH h;refine⟨_,h,zG λenv w S vs hl=> ?_⟩;have hi:=wB u (i hl x i7);have o:=wB U (i hl y i7);have D:=wB m (i hl z i7);refine⟨_,v_2 (zi5 e1 M Q T (e5 O) hi.1 o.1 D.1 n) hp c w,λe he=> ?_⟩;obtain rfl|he:=xaf.1 he
       ·exact⟨_,_,O,O,jS<|Vw hp⟩
       ·obtain rfl:=xag.1 he;exact⟨_,_,O,O,jS<|zjd hi.2 o.2 n c⟩
     ·cases h
    |_=>simp[zon]at hw
   ·cases h
 ·next dom cod g' hc=>
  have⟨z,h,hd,m⟩:=L3 h;have⟨q,c,h⟩:=r9 h;refine⟨_,h,uA λenv w S vs hM hl=> ?_⟩;have⟨a0,aG,FG,hv,⟨C,hA⟩,hB⟩:=zj hc<|G hl;have v:=hA z q c (a.toList.map<|ev env) (by simpa using hd);exact⟨_,_,_,_,tsF dom z (a.toList.map<|ev env)++FG,[],nk (asv:=a.toList) C hv v O<|λS w h=>h,wR,zE.append (m P vs env S w<|i hl) hB,λus w' B hn=>Eb hn B⟩
 ·cases h
def zmp(a:yY P cf.tt)(c:uI P cf.tt)(f:∀s∈cf.cs,xt P s)(i:my P cf.ex){e:Op}{k:N (K×Dv)->V R}(h:znq cf cx σ e k=Z r):∃l,k l=Z r/\ES P ⟨d,e,ty,pos,aft,g⟩ cx σ F l:=by
 unfold znq at h;split at h
 ·exact zfZ (.inl O) h
 ·exact zfZ (.inr O) h
 ·exact zop h
 ·exact zlx h
 ·exact zo1 h
 ·exact zox h
 ·next j t x y yt=>
  cases hn:zif (xD cx σ y)<;>rw[hn]at h
  ·exact bop h<|zjB a
  ·have⟨hp,h⟩:=z7 h;exact zqi a hp hn h
 ·exact zpj h
 ·exact zog a h
 ·exact zlI a h
 ·exact zjl a c h
 ·exact ziT a h
 ·exact zfd a h
 ·exact zjY a c h
 ·exact zpf a h
 ·exact zov h
 ·exact zki a h
 ·exact zpi a c h
 ·exact zo3 h
 ·exact znW a h
 ·exact znK (b:=wL) h
 ·exact znK (b:=I) h
 ·exact zmD f i h
 ·cases h
end
end
section
def S4(P:jP)(s:Ns):Prop:=
 EB P s.f=wL/\∀(x:mG s.dom) (vs:N wN),X vs=X s.dom->Fn P s.f vs.toArray (tsF s.dom x vs) (λv:wN=>v) (λv=>[zlg s.g (s.mc x) v]) (λ_=>XS)
def SU(P:jP)(s:Cc):Prop:=
 EB P s.f=wL/\∀xss ix r a p lo n b,s.M xss ix r a p lo n=Z b->∀(u c hv:wN),(xU u)[r]? =Z c->MW (yC u) lo n hv->KH a->KH p->
  ∀we Se F G w,St we Se (tn s.t.rep s.E s.E1 u xss ix::F) G w->UP P s.f #[c,.int .i64 a,.int .i64 p,hv] w λe w'=>∃v d,e=.returned v/\yC d=yC u/\St we Se (tn s.t.rep s.E s.E1 d b ix::F) G w'
def zdO(P:jP)(s:E8):Prop:=
 EB P s.f=wL/\∀(x:fE s.dom) (X Y:Type) (a:X->wN->MF) (b:Y->wN->MF) (g:N s.t.D->X->V (N s.t.D×(X⊕Y))) (x0:X) (r:X⊕Y),s.M x g x0=Z r->∀(l:K) (vs:N wN),lM vs=lM s.dom->RL P l s.t.rep s.E a b g->
  ∀u we Se F G w,St we Se (a x0 u::F) (ZE P s.dom x vs++G) w->UP P s.f (.func (.yield l) #[] #[]::vs).toArray w λe w'=>(∃v,e=.returned v)/\∃c,St we Se (xfH (λx=>a x c) (λy=>b y c) r::F) G w'
structure ED(P:jP)(cf:Cf):Prop where
 ex:my P cf.ex
 cl:∀s∈cf.cl,S4 P s
 ms:∀s∈cf.ms,SU P s
 is:∀s∈cf.is,zdO P s
 pp:P=Tryz.prog
section
variable{P:jP}{cf:Cf}{cx σ:Sg}{F:xS MF}{vs:wr->wN}{env:y7}{S:wr->Prop}{w:wP}{R:Type}{r:R}
 {d:ww Z5}{ty t yt:wT}{pos:String}{aft:uL Edge}{g:ww (wr×qR)}{x y:wW}
def zfR{f:Z4}:∀{l:N Cc}{s:Cc},zd5 l f=Z s->s∈l/\s.f=f
 |c::l,s,h=>by
  unfold zd5 at h;cases a:E c.f f<;>rw[a]at h
  ·have⟨h1,b⟩:=zfR h;exact⟨UV _ h1,b⟩
  ·simp only[Z2,xat]at h;subst h;exact⟨H1,zO a⟩
def zgL{f:Z4}:∀{l:N Ns}{s:Ns},zeh l f=Z s->s∈l/\s.f=f
 |c::l,s,h=>by
  unfold zeh at h;cases a:E c.f f<;>rw[a]at h
  ·have⟨h1,b⟩:=zgL h;exact⟨UV _ h1,b⟩
  ·simp only[Z2,xat]at h;subst h;exact⟨H1,zO a⟩
def zgH{f:Z4}:∀{l:N E8}{s:E8},ziS l f=Z s->s∈l/\s.f=f
 |c::l,s,h=>by
  unfold ziS at h;cases a:E c.f f<;>rw[a]at h
  ·have⟨h1,b⟩:=zgH h;exact⟨UV _ h1,b⟩
  ·simp only[Z2,xat]at h;subst h;exact⟨H1,zO a⟩
def Lf{α:Type}{e:zW α}{E E1:wT}{u:wN}{xss:N (N α)}{ix:N K}(h:(tn e E E1 u xss ix).p S w):X (xU u)=X xss/\(mO (Ya<|xU u) E (yC u) ix).p S w/\yM S (vu e E1 (xU u) xss) w:=⟨h.1.1,h.1.2.1,h.1.2.2⟩
def sP{α:Type}{e:zW α}{E E1:wT}{u v:wN}{xss:N (N α)}{ix:N K}{r:K}(h:(tn e E E1 u xss ix).p S w)(a:(xU u)[r]? =Z v):(mO e E1 v<|uw xss r).p S w/\r<X xss:=by
 have⟨h1,_,b⟩:=Lf h;have hl:=(xar.1 a).1;have c:xss[r]? =Z (uw xss r):=by
  unfold uw;rw[FS,xab W];rfl
 exact⟨yM.get b<|Jd a c,W⟩
def zeu(i:yY P cf.tt)(G:uI P cf.tt){k:N (K×Dv)->V R}(h:IJ cf cx σ t x y k=Z r):∃l,k l=Z r/\ES P ⟨d,.indexAddr t x y,ty,pos,aft,g⟩ cx σ F l:=by
 have H:∀{vs env S w},(∀J∈yI (.indexAddr t x y),Lk P vs env S w cx σ J)->Xz P vs env S w cx σ x:=λhl=>yG hl (by simp[xaB]);have L:∀{vs env S w},(∀J∈yI (.indexAddr t x y),Lk P vs env S w cx σ J)->Xz P vs env S w cx σ y:=λhl=>yG hl (by simp[xaB]);unfold IJ at h;split at h
 ·next e E B o ht q=>
  split at h
  ·next s v E1 xss ix A=>
   have⟨bytes,f,hc⟩:=Kq i G ht;have⟨j,a,h,hd⟩:=PF h;refine⟨_,h,?_⟩;intro env w S vs Q C hl;have⟨ik,u⟩:=hd P vs env S w<|L hl;have M:(tn s.rep v E1 (vs o) xss ix).p S w:=ZM C A;have⟨b,cap,hv,_⟩:=Uo (Lf M).2.1<|xaL (xan _) a;have D:ev env x=yC (vs o):=zj q<|H hl;exact Zj.of_value (Bc (qw i ht) hc (D.trans hv) u a w) ⟨yA.refl _ _,zt ⟨b,_,_,hv,a,O⟩⟩
  ·cases h
 ·next e E B o lo n ht q=>
  split at h
  ·next s v E1 xss ix A=>
   have⟨bytes,f,hc⟩:=Kq i G ht;have⟨j,a,h,hd⟩:=PF h;refine⟨_,h,?_⟩;intro env w S vs Q C hl;have⟨ik,u⟩:=hd P vs env S w<|L hl;rcases(zj q (H hl):MW _ _ _ _).old with⟨b,m,cap,c,q1,q2,Y,q4,T⟩|⟨q1,_⟩
   ·refine Zj.of_value (Bc (qw i ht) hc T u a w) ⟨yA.refl _ _,zt ⟨b,_,_,q1,W,?_⟩⟩;show Value.pointer (Z ⟨b,0+lo*1+j*1,wF⟩)=Value.pointer (Z ⟨b,0+(lo+j)*1,wF⟩);rw[xbf,xcH]
   ·lia
  ·cases h
 ·next e E B o p ht q=>
  split at h
  ·next s v E1 xss ix A=>
   have⟨U,h1⟩:=yj h;cases U;have⟨bytes,f,hc⟩:=Kq i G ht;have⟨j,a,h,hd⟩:=PF h1;refine⟨_,h,?_⟩;intro env w S vs Q C hl;have⟨ik,u⟩:=hd P vs env S w<|L hl;have M:(tn e.rep v E1 (vs o) xss ix).p S w:=ZM C A;have D:(xU<|vs o)[p]? =Z (ev env x):=zj q<|H hl;have⟨b,cap,hv,_⟩:=Uo (sP M D).1<|xaL (xan _) a;refine Zj.of_value (Bc (qw i ht) hc hv u a w) ⟨yA.refl _ _,zt ⟨λz=>Sub.self e.rep z,b,_,_,by rw[<-hv];exact D,a,by simp[Fl.self]⟩⟩
  ·cases h
 ·cases h
def zp0{α β:Type}{q:Prop}{e:zW α}{E off:K}{nl:α->α}{s:zW β}{E1:wT}{u:wN}{z:α}{xs:N β}(h:(mVr q e E off nl s E1 u z xs).p S w):
 X (xU u)=1/\q/\∃b,yC u=.pointer (Z ⟨b,0,wF⟩)/\(mB (b6 e off nl<|xU u) E b (z,0)).p S w:=⟨h.1.1.1,h.1.1.2,h.1.2.1⟩
def zqr{α:Type}{q:Prop}{e:zW α}{E off:K}{nl:α->α}{u:wN}{z:α}(h:(mVh q e E off nl u z).p S w):
 X (xU u)=1/\q/\∃b,yC u=.pointer (Z ⟨b,0,wF⟩)/\(mB (b6 e off nl<|xU u) E b (z,0)).p S w:=⟨h.1.1.1,h.1.1.2,h.1.2.1⟩
def zbh{n i j:K}{s:Ty}{k:Fl s.D->V R}(h:zgM n s i j k=Z r):i≠j/\∃f,xl n s i=Z f/\k f=Z r:=by
 have⟨h1,h⟩:=z7 h;split at h
 ·next f a=>
  refine⟨λe=> ?_,f,a,h⟩;subst e;simp at h1
 ·cases h
def zgQ{o:K}{s a:Ty}{E E1 n j:K}{z:s.D}{Y:Od}(e:Va cx σ o=Z Y)(f:(∃xs,Y=.vr s E a E1 n j z xs)\/Y=.vh s E a E1 n j z)(h:yM S (MS vs σ.ob++(MS vs cx.ob++F)) w):
 vrP a (xl n s j)/\∃b,yC (vs o)=.pointer (Z ⟨b,0,wF⟩)/\(mB (b6 s.rep (Xu<|xl n s j) (uH a (xl n s j) [])<|xU<|vs o) E b (z,0)).p S w:=by
 have c:=ZM h e;rcases f with⟨xs,rfl⟩|rfl
 ·exact(zp0 c).2
 ·exact(zqr c).2
def zaI(A:yY P cf.tt){a:TI}{o:K}{s c:Ty}{E E1 n i j:K}{f:Fl s.D}{z:s.D}{Y:Od}{k:N (K×Dv)->V R}(ht:ZO cf t=Z a)(hd:xD cx σ x=Z (.vf o s n i))(B:Va cx σ o=Z Y)
 (C:(∃xs,Y=.vr s E c E1 n j z xs)\/Y=.vh s E c E1 n j z) (G:i≠j) (e:xl n s i=Z f) (h:(Ty.cast f.f a.ty (f.get z) λy=>k [(0,.d a.ty y)])=Z r):
 ∃l,k l=Z r/\ES P ⟨d,.load t x,ty,pos,aft,g⟩ cx σ F l:=by
 have⟨m,h⟩:=yj h;have⟨p,H,_⟩:=YN A ht;have hc:=e;have⟨off,Q,T,st⟩:=f;simp only at m;subst m;refine⟨_,h,uA λenv w S vs J hl=> ?_⟩;have⟨hi,b,h1,L⟩:=zgQ B C J;have⟨U,f',q,v,M⟩:=zj hd (yG hl<|by simp[xaB]);rw[h1]at q;cases q;rw[hc]at v;cases v;exact⟨_,_,_,_,[],[mB (b6 s.rep (Xu<|xl n s j) (uH c (xl n s j) [])<|xU<|vs o) E b (z,0)],VB 0 O (M.trans<|by rw[xaK]) (zaK hi hc G) H,⟨L,wR⟩,wR,λu w' _ e=>zt e.1⟩
def zf2(v:yY P cf.tt){i:K}{k:N (K×Dv)->V R}(h:MB cf cx σ t x i k=Z r):∃l,k l=Z r/\ES P ⟨d,.fieldAddr t x i,ty,pos,aft,g⟩ cx σ F l:=by
 have A:∀{vs env S w},(∀C∈yI (.fieldAddr t x i),Lk P vs env S w cx σ C)->Xz P vs env S w cx σ x:=λhl=>yG hl<|by simp[xaB]
 have c:∀{o E E1 n j:K}{s p:Ty}{z:s.D}{Y:Od}{B:K},ZO cf t=Z ⟨s,.st n,B⟩->xD cx σ x=Z (.mw o)->Va cx σ o=Z Y->((∃xs,Y=.vr s E p E1 n j z xs)\/Y=.vh s E p E1 n j z)->(xl n s i).isSome=wL->k [(0,.vf o s n i)]=Z r->
  ∃l,k l=Z r/\ES P ⟨d,.fieldAddr t x i,ty,pos,aft,g⟩ cx σ F l:=λht q m G u h=>by
  have⟨f,u⟩:=Option.isSome_iff_exists.1 u;refine⟨_,h,?_⟩;intro env w S vs L H hl;have⟨_,b,h1,_⟩:=zgQ m G H;have hc:ev env x=yC (vs _):=zj q<|A hl;exact Zj.of_value (ox (P2 v ht u) (hc.trans h1) w) ⟨yA.refl _ _,zt ⟨b,f,h1,u,O⟩⟩
 unfold MB at h;split at h
 ·next e n B o ht q=>
  split at h
  ·next s E p E1 J j z xs m=>
   have⟨a,h⟩:=z7 h;rw[xac,xac]at a;obtain rfl:=zO a.1.1;obtain rfl:=Js a.1.2;exact c ht q m (.inl ⟨_,O⟩) a.2 h
  ·next s E p E1 J j z m=>
   have⟨a,h⟩:=z7 h;rw[xac,xac]at a;obtain rfl:=zO a.1.1;obtain rfl:=Js a.1.2;exact c ht q m (.inr O) a.2 h
  ·cases h
 ·cases h
def zi7(J:yY P cf.tt){k:N (K×Dv)->V R}(h:R7 cf cx σ t x k=Z r):∃l,k l=Z r/\ES P ⟨d,.load t x,ty,pos,aft,g⟩ cx σ F l:=by
 have hx:∀{vs env S w},(∀t'∈yI (.load t x),Lk P vs env S w cx σ t')->Xz P vs env S w cx σ x:=λhl=>yG hl (by simp[xaB]);unfold R7 at h;split at h
 ·next e E B o j ht G=>
  split at h
  ·next s L E1 xss ix v=>
   have⟨H,hi,_⟩:=YN J ht;have⟨q,T,h⟩:=xR h;refine⟨_,h,uA λenv w S vs U hl=> ?_⟩;have Y:(tn s.rep L E1 (vs o) xss ix).p S w:=ZM U v;have⟨b,m,c,h1,M,h3⟩:=zj G<|hx hl;have⟨a1,a2,a3⟩:=Lf Y;have hn:m=X ix:=by
    have⟨cs,h5,h6⟩:=a2;rcases h5.2 with⟨hv,h7⟩|⟨g',a,a0,hv,_⟩
    ·rw[h1]at hv;cases hv
    ·rw[h1]at hv;cases hv;rfl
   have⟨b',a,hv,hb⟩:=Uo a2 W;rw[h1]at hv;cases hv;have hc:=Sub.rowT0 (Ya<|xU<|vs o) c ix j (ix.getD j 0)<|getD_some 0 M;exact⟨_,_,_,_,[],[mB (rowT (Ya<|xU<|vs o) c) L b ix],VB 0 O h3 hc hi,⟨hb,wR⟩,wR,λu w' _ A=>zt (by
    have:=zgw A.1;rw[<-T]at this;exact this)⟩
  ·cases h
 ·next ti o e p j f hd G=>
  split at h
  ·next s L E1 xss ix v=>
   have⟨Q,h1⟩:=yj h;cases Q;have⟨q,T,M⟩:=xR h1;have⟨Q,h⟩:=yj M;have⟨H,hi,_⟩:=YN J hd;have⟨off,ff,gt,st⟩:=f;simp only at Q;subst Q;refine⟨_,h,uA λenv w S vs U hl=> ?_⟩;have Y:(tn e.rep L E1 (vs o) xss ix).p S w:=ZM U v;have⟨h0,b,m,cap,h1,M,h3⟩:=zj G<|hx hl;have hr:=(sP Y h1).1;have hn:m=X (uw (α:=e.D) xss p):=by
    have⟨cs,h5,h6⟩:=hr;rcases h5.2 with⟨hv,h7⟩|⟨g',a,a0,hv,_⟩
    ·cases hv
    ·cases hv;rfl
   have⟨b',a,hv,hb⟩:=Uo hr W;cases hv;have hc:=(Sub.rowT0 e.rep cap (uw (α:=e.D) xss p) j ((uw (α:=e.D) xss p).getD j e.z)<|getD_some e.z W).comp<|h0<|(uw (α:=e.D) xss p).getD j e.z;subst T;exact⟨_,_,_,_,[],[mB (rowT e.rep cap) E1 b<|uw (α:=e.D) xss p],VB 0 O h3 hc hi,⟨hb,wR⟩,wR,λu w' _ A=>zt A.1⟩
  ·cases h
 ·next ti o s0 n0 i hd G=>
  split at h
  ·next s E s1 E1 n j z xs v=>
   have⟨C,h⟩:=z7 h;rw[xac]at C;obtain rfl:=zO C.1;obtain rfl:=Js C.2;have⟨hj,f,A,h⟩:=zbh h;exact zaI J hd G v (.inl ⟨_,O⟩) hj A h
  ·next s E s1 E1 n j z v=>
   have⟨C,h⟩:=z7 h;rw[xac]at C;obtain rfl:=zO C.1;obtain rfl:=Js C.2;have⟨hj,f,A,h⟩:=zbh h;exact zaI J hd G v (.inr O) hj A h
  ·cases h
 ·cases h
def zfj(H:yY P cf.tt)(hL:uI P cf.tt){lo hi:V wW}{k:N (K×Dv)->V R}(h:H7 cf cx σ t x lo hi k=Z r):∃l,k l=Z r/\ES P ⟨d,.slice t x lo hi wF,ty,pos,aft,g⟩ cx σ F l:=by
 have hx:∀{vs env S w},(∀C∈yI (.slice t x lo hi wF),Lk P vs env S w cx σ C)->Xz P vs env S w cx σ x:=λhl=>yG hl (by simp[xaB]);have hc:∀{vs env S w z},lo=Z z->(∀C∈yI (.slice t x lo hi wF),Lk P vs env S w cx σ C)->Xz P vs env S w cx σ z:=λe hl=>yG hl (by simp[xaB,e]);have hd:∀{vs env S w z},hi=Z z->(∀C∈yI (.slice t x lo hi wF),Lk P vs env S w cx σ C)->Xz P vs env S w cx σ z:=λe hl=>yG hl (by simp[xaB,e]);unfold H7 at h;split at h
 ·next e E B o ht hn=>
  split at h
  ·next s E' E1 xss ix ho=>
   have⟨bytes,Q,T⟩:=Kq H hL ht
   have u:∀(l m:K),l<=m->m<=X ix->k [(0,.mv o l<|m-l)]=Z r->(∀vs env S w,(∀C∈yI (.slice t x lo hi wF),Lk P vs env S w cx σ C)->((lo.map<|ev env)=Z (.int .i64 (l:J))\/(lo=wF/\l=0))/\((hi.map<|ev env)=Z (.int .i64 (m:J))\/(hi=wF/\m=X ix)))->
    ∃l,k l=Z r/\ES P ⟨d,.slice t x lo hi wF,ty,pos,aft,g⟩ cx σ F l:=by
    intro l m h1 j h5 h4;refine⟨_,h5,λenv w S vs hS hM hl=> ?_⟩;have⟨U,L⟩:=h4 vs env S w hl;have Y:ev env x=yC (vs o):=zj hn<|hx hl;have hm:(tn s.rep E' E1 (vs o) xss ix).p S w:=ZM hM ho;rcases fX (Lf hm).2.1 with⟨hv,hg⟩|⟨b,cap,hv,hj,hp⟩
    ·rw[hg]at j L;obtain rfl:m=0:=Nat.le_zero.1 j;obtain rfl:l=0:=Nat.le_zero.1 h1;have G:=HN (P:=P) (w:=w) (qw H ht) T (U.imp id λq=>by rw[q.1];rfl) (L.imp id λq=>by rw[q.1];rfl);refine Zj.of_value (v:=.slice wF 0 0) (w':=w) (by simp[kW,Y.trans hv,G]) ⟨yA.refl _ _,zt (.inr ⟨hv,O,O,O⟩)⟩
    ·have G:=Cp (P:=P) (b:=b) (o:=0) (n:=X ix) (cap:=cap) (w:=w) (l:=l) (h:=m) (qw H ht) T (U.imp id λq=>⟨by rw[q.1];rfl,q.2⟩) (L.imp id λq=>⟨by rw[q.1];rfl,q.2⟩) h1<|xap j hj;rw[<-hv,<-Y]at G;refine Zj.of_value (v:=.slice (if cap=l then Z ⟨b,0,wF⟩else Z ((⟨b,0,wF⟩:KW).add<|l*1)) (m-l)<|cap-l) (w':=w) (by simp[kW,G,Ty.rep,eS]) ⟨yA.refl _ _,zt ?_⟩;exact .inl ⟨b,X ix,cap,hv,W,hj,W,by rw[qW]⟩
   rcases UH h with⟨e1,h1⟩|⟨zl,l,e1,h1,hk⟩
   ·rcases UH h1 with⟨A,j⟩|⟨zh,m,A,j,M⟩
    ·have⟨a,c,q1,q2,D,f,i⟩:=Lu j;exact u a c q1 q2 D λvs env S w hl=>⟨.inr ⟨e1,(f.resolve_left i7).2⟩,.inr ⟨A,(i.resolve_left i7).2⟩⟩
    ·have⟨a,c,q1,q2,D,f,i⟩:=Lu j;obtain i|⟨i,_⟩:=i
     ·cases i;exact u a m q1 q2 D λvs env S w hl=>⟨.inr ⟨e1,(f.resolve_left i7).2⟩,.inl<|by rw[A];exact ut Z<|M P vs env S w<|hd A hl⟩
     ·cases i
   ·rcases UH h1 with⟨A,j⟩|⟨zh,m,A,j,M⟩
    ·have⟨a,c,q1,q2,D,f,i⟩:=Lu j;obtain f|⟨f,_⟩:=f
     ·cases f;exact u l c q1 q2 D λvs env S w hl=>⟨.inl (by rw[e1];exact ut Z<|hk P vs env S w<|hc e1 hl),.inr ⟨A,(i.resolve_left i7).2⟩⟩
     ·cases f
    ·have⟨a,c,q1,q2,D,f,i⟩:=Lu j;obtain f|⟨f,_⟩:=f
     ·obtain i|⟨i,_⟩:=i
      ·cases f;cases i;exact u l m q1 q2 D λvs env S w hl=>⟨.inl (by rw[e1];exact ut Z<|hk P vs env S w<|hc e1 hl),.inl<|by rw[A];exact ut Z<|M P vs env S w<|hd A hl⟩
      ·cases i
     ·cases f
  ·cases h
 ·cases h
def zlZ(j:yY P cf.tt){a:uL wW}{ts:uL wT}{k:N (K×Dv)->V R}(h:zgB cf cx σ a.toList ts.toList k=Z r):
 ∃l,k l=Z r/\ES P ⟨d,.call ⟨.builtin .len,a,ts⟩,ty,pos,aft,g⟩ cx σ F l:=by
 unfold zgB at h;split at h
 ·next _ _ x t hd L=>
  obtain rfl:a= #[x]:=by cases a;simp_all
  obtain rfl:ts= #[t]:=by cases ts;simp_all
  have v:∀{vs env S w},(∀G∈yI (.call ⟨.builtin .len,#[x],#[t]⟩),Lk P vs env S w cx σ G)->Xz P vs env S w cx σ x:=λhl=>yG hl (by simp[xaB,xeE]);split at h
  ·next e E B o ht f=>
   split at h
   ·next s i E1 xss ix q=>
    refine⟨_,h,uA λenv w S vs z hl=> ?_⟩;have A:(tn s.rep i E1 (vs o) xss ix).p S w:=ZM z q;exact⟨_,_,_,_,[],[mO (Ya<|xU<|vs o) i (yC<|vs o) ix],LZ 0 O (qw j ht)<|zj f<|v hl,⟨(Lf A).2.1,wR⟩,wR,λu w' C H=>zt<|wX<|NL C⟩
   ·cases h
  ·next e E B o lo n ht f=>
   split at h
   ·next s i E1 xss ix q=>
    refine⟨_,h,zG λenv w S vs hl=> ?_⟩;rcases(zj f (v hl):MW _ _ _ _).old with⟨b,m,cap,c,q1,q2,D,M,J⟩|⟨q1,Q,c,q2,D⟩
    ·exact⟨_,N8 (qw j ht) J w,zt<|wX<|NL W⟩
    ·subst q1;exact⟨_,N8 (qw j ht) D w,zt<|wX i0⟩
   ·cases h
  ·next e E B o p ht f=>
   split at h
   ·next s i E1 xss ix q=>
    refine⟨_,h,uA λenv w S vs z hl=> ?_⟩;have A:(tn s.rep i E1 (vs o) xss ix).p S w:=ZM z q;have hc:(xU<|vs o)[p]? =Z (ev env x):=zj f<|v hl;exact⟨_,_,_,_,[],[mO s.rep E1 (ev env x)<|uw xss p],LZ 0 O (qw j ht) O,⟨(sP A hc).1,wR⟩,wR,λu w' C H=>zt<|wX<|NL C⟩
   ·cases h
  ·cases h
 ·cases h
def Tru:K->Prop:=λ_=>XS
def Sc(f:FF)(h:f.p S w):f.p Tru w:=f.sub h λ_ _ _=>wR
def nL(B:∀s∈cf.cs,xt P s):∀{dom:N AM}{xs:N wW}{cs:N PD}{k:fE dom->V R},Qy cf cx σ dom xs cs k=Z r->
 ∃z,k z=Z r/\X xs+X cs=X dom/\∀vs env S w,yM S (MS vs σ.ob++(MS vs cx.ob++F)) w->(∀x∈xs,Xz P vs env S w cx σ x)->∀a:N wN,X a=X cs->zE S (HL cs a) w->zE Tru (ZE P dom z<|xs.map (ev env)++a) w
 |[],[],[],k,h=>⟨(),h,O,λ_ _ _ _ _ _ _ _ _=>wR⟩
 |.q t::dom,[],c::cs,k,h=>by
  simp only[Qy]at h;have⟨e,h⟩:=yj h;subst e;have⟨z,h1,l,u⟩:=nL B h;refine⟨_,h1,by simp at l⊢;lia,λvs env S w i hl a j hc=> ?_⟩
  cases a with
  |nil=>cases j
  |cons v a=>exact⟨Sc _ hc.1,u vs env S w i hl a (by simpa using j) hc.2⟩
 |.d t::dom,x::xs,cs,k,h=>by
  simp only[Qy]at h;split at h
  ·next o lo n hd=>
   split at h
   ·next s E E1 xss ix J=>
    have⟨e,h⟩:=yj h;subst e;have⟨z,h1,l,u⟩:=nL B h;refine⟨_,h1,by simp at l⊢;lia,λvs env S w i hl a j hc=>⟨?_,u vs env S w i (λz C=>hl z<|UV _ C) a j hc⟩⟩;have K:(tn s.rep E E1 (vs o) xss ix).p S w:=ZM i J;have⟨L,M,a3⟩:=Lf K;have Q:(mO (eS s.rep) E (yC<|vs o)<|zct xss ix).p Tru w:=by
     have⟨A,q1,q2⟩:=M;refine⟨A,by unfold zct;rw[xaj];exact q1,?_⟩;exact sV L (λ_ _=>wR) (λ_ _ _ _=>wR) a3 q2
    show(fV (eS<|eS s.rep) (xdH n<|xdT lo<|zct xss ix)<|ev env x).p Tru w;rcases(zj hd (hl x<|H1):MW _ _ _ _).old with⟨b,m,cap,c,q1,q2,D,T,U⟩|⟨q1,G,c,q2,D⟩
    ·have:=Mr Q q1 q2 D T;rw[U];have⟨G,Y,p1,p2,p3,p4⟩:=this;refine xT.2 ⟨G,Y,p1,p2,p3,p4.imp id ?_⟩;rintro⟨b',o',A,r1,r2,r3⟩;exact⟨b',o',A,r1,wR,r2,r3⟩
    ·subst q1;rw[D];exact xT.2 ⟨G,c,i7,i7,by unfold WS;lia,.inl i7⟩
   ·cases h
  ·have⟨y,h,hy⟩:=Vi h;have⟨z,h1,l,u⟩:=nL B h;exact⟨_,h1,by simp at l⊢;lia,λvs env S w i hl a j hc=>⟨Sc _<|hy P vs env S w<|hl x<|H1,u vs env S w i (λz C=>hl z<|UV _ C) a j hc⟩⟩
 |.fn H cod::dom,x::xs,cs,k,h=>by
  simp only[Qy]at h;have⟨f,h,hf⟩:=zgv B h;have⟨z,h1,l,u⟩:=nL B h;refine⟨_,h1,by simp at l⊢;lia,λvs env S w i hl a j hc=>⟨?_,u vs env S w i (λz C=>hl z<|UV _ C) a j hc⟩⟩
  cases hv:xD cx σ x with
  |none=>rename_i h0;rw[hv]at h0;simp[asF]at h0
  |some v=>exact Sc _<|hf vs S w v _ hv<|zj hv<|hl x<|H1
 |[],_::_,_,_,h=>by simp[Qy]at h
 |[],[],_::_,_,h=>by simp[Qy]at h
 |.d _::_,[],_,_,h=>by simp[Qy]at h
 |.own _ _::_,_,_,_,h=>by simp[Qy]at h
 |.q _::_,_::_,_,_,h=>by simp[Qy]at h
 |.fn _ _::_,[],_,_,h=>by simp[Qy]at h
 |.q _::_,[],[],_,h=>by simp[Qy]at h
def Im:∀{rs:N RM}{x:Hl (rs.map RM.ty)}{us:N wN},O2 rs=wL->zE Tru (csF (rs.map RM.ty) x us) w->zE S (csF (rs.map RM.ty) x us) w
 |[],_,_,_,_=>trivial
 |[.d .i],x,us,_,h=>⟨h.1,wR⟩
 |[.d .u],x,us,_,h=>⟨h.1,wR⟩
 |[.d .b],x,us,_,h=>⟨h.1,wR⟩
 |.d .i::n::r,x,us,a,h=>⟨h.1,Im (rs:=n::r) (x:=x.2) a h.2⟩
 |.d .u::n::r,x,us,a,h=>⟨h.1,Im (rs:=n::r) (x:=x.2) a h.2⟩
 |.d .b::n::r,x,us,a,h=>⟨h.1,Im (rs:=n::r) (x:=x.2) a h.2⟩
def zik(p:∀s∈cf.cs,xt P s)(H:ED P cf){f:wW}{a:uL wW}{ts:uL wT}{k:N (K×Dv)->V R}(h:Ss cf cx σ f a.toList k=Z r):
 ∃l,k l=Z r/\ES P ⟨d,.call ⟨.value f,a,ts⟩,ty,pos,aft,g⟩ cx σ F l:=by
 have u:∀{vs env S w},(∀i∈yI (.call ⟨.value f,a,ts⟩),Lk P vs env S w cx σ i)->Xz P vs env S w cx σ f:=λhl=>yG hl (by simp[xaB,xeE]);have A:∀{vs env S w},(∀i∈yI (.call ⟨.value f,a,ts⟩),Lk P vs env S w cx σ i)->∀x∈a.toList,Xz P vs env S w cx σ x:=λhl x j=>yG hl (by simp only[xaB,xeE,Array.toList_append,So];exact .inr j);unfold Ss at h;split at h
 ·next f0 cs B=>
  split at h
  ·next s m=>
   have⟨h1,c⟩:=zgL m;have⟨C,e⟩:=H.cl s h1;have⟨z,h,hd,n⟩:=L3 h;refine⟨_,h,uA λenv w S vs D hl=> ?_⟩;have⟨b,hv,o,E⟩:=zj B<|u hl;obtain rfl:b=[]:=xbh.1 o;have hc:=e z (a.toList.map<|ev env) (by simpa using hd);rw[c]at hc C;rw[<-xbO<|a.toList.map<|ev env]at hc;exact⟨_,_,_,_,tsF s.dom z<|a.toList.map (ev env)++[],[],nk (asv:=a.toList) C hv hc O<|λS w h=>h,wR,by rw[xbO];exact n P vs env S w<|A hl,λv w' _ hi=>zt hi.1⟩
  ·split at h
   ·next s m=>
    have⟨h1,c,J,L,G⟩:=Bl m;have e:=p s h1;have⟨hn,h⟩:=z7 h;have⟨z,h,hd,n⟩:=nL (F:=F) p h;have⟨q,M,h⟩:=r9 h;refine⟨_,h,λenv w S vs U D hl=> ?_⟩;have⟨b,hv,o,E⟩:=zj B<|u hl;have hc:=mb e J L G M (us:=a.toList.map (ev env)++b) (by simp at hd⊢;lia);rw[c]at hc;have Q:=n vs env S w D (A hl) b o E;refine(nk (asv:=a.toList) (ms:=[]) (Γ:=ZE P s.dom z<|a.toList.map (ev env)++b) (c▸e.1) hv hc O (λS w h=>h) w Tru (λ_ _=>wR) wR Q).mono ?_;rintro v w' ⟨us,rfl,T,j,hi⟩;refine⟨j,?_⟩;unfold ziv;rw[LQ G,PN];exact Eb (Im hn hi)<|by simpa using T
   ·cases h
 ·cases h
def zqa(a:yY P cf.tt)(b:uI P cf.tt)(e:∀s∈cf.cs,xt P s)(f:ED P cf){c:Op}{k:N (K×Dv)->V R}(h:eCo cf cx σ c k=Z r):∃l,k l=Z r/\ES P ⟨d,c,ty,pos,aft,g⟩ cx σ F l:=by
 unfold eCo at h;split at h
 ·exact zi7 a h
 ·exact zeu a b h
 ·exact zf2 a h
 ·exact zfj a b h
 ·exact zlZ a h
 ·exact zik e f h
 ·cases h
def zgt(b:yY P cf.tt)(c:uI P cf.tt)(e:∀s∈cf.cs,xt P s)(f:ED P cf){a:Op}{k:N (K×Dv)->V R}(h:eOp cf cx σ a k=Z r):∃l,k l=Z r/\ES P ⟨d,a,ty,pos,aft,g⟩ cx σ F l:=by
 unfold eOp at h;cases hc:zoL cf cx σ a<;>rw[hc]at h
 ·exact zmp b c e f.ex h
 ·exact zqa b c e f h
end
end
section
section
variable{P:jP}{cf:Cf}{fr:Fr}{cx σ:Sg}{vs vs':wr->wN}{env:y7}{w:wP}{R:Type}{r:R}
 {d:ww Z5}{ty t yt:wT}{pos:String}{aft:uL Edge}{g:ww (wr×qR)}{x y:wW}
abbrev GS(P:jP)(vs:K->wN)(env:y7)(fr:Fr)(cx σ:Sg):N FF:=RS P vs env σ.rg++(RS P vs env cx.rg++fr.G)
abbrev OS(vs:K->wN)(fr:Fr)(cx:Sg)(ob:N (K×Od)):N MF:=MS vs ob++(MS vs cx.ob++fr.F)
def XM{S:K->Prop}(h:zE S (GS P vs env fr cx σ) w)(t:Z5):Lk P vs env S w cx σ t:=by
 intro i dv hd;obtain hm|hm:=L6 hd
 ·exact K2 (zE.left h) hm
 ·exact K2 (zE.left<|zE.right h) hm
def zS{S:K->Prop}(h:zE S (GS P vs env fr cx σ) w)(x:wW):Xz P vs env S w cx σ x:=λt _=>XM h t
def gR(P:jP)(fr:Fr)(cx σ:Sg)(vs:K->wN)(env:y7)(w:wP):Prop:=Bd cx σ/\St fr.we fr.Se (OS vs fr cx σ.ob) (GS P vs env fr cx σ) w
def lF(P:jP)(fr:Fr)(cx:Sg)(n:K)(vs:K->wN)(σ:Sg)(env:y7)(w:wP):Prop:=∃vs',(∀o,o<n->vs' o=vs o)/\gR P fr cx σ vs' env w
def lF.rel{n:K}(h:lF P fr cx n vs σ env w):Yw P fr cx σ env w:=by
 have⟨vs',_,h1,a⟩:=h;exact⟨h1,vs',a⟩
def ME{v:wN}{σ':Sg}{l:N (K×Dv)}{Γl:N FF}(c:Bd cx σ)(hd:wQ cx d=wL)(i:σ'.rg=vQ σ.rg d l)(hn:σ.nx<=σ'.nx)(hi:∀o,o<σ.nx->vs' o=vs o)
 (hl:∀e∈l,∀o,vt e.2=Z o->o<σ'.nx) (s:∀e∈σ'.ob,e.1<σ'.nx) (u:∀S w,zE S Γl w->∀e∈l,(wo P vs' e.2 v e.1).p S w)
 (z:St fr.we fr.Se (OS vs' fr cx σ'.ob) (Γl++GS P vs env fr cx σ) w):gR P fr cx σ' vs' (put env d v) w:=by
 refine⟨⟨s,λe he=>xah (c.o2 e he) hn,?_,λe he o a=>xah (c.r2 e he o a) hn⟩,z.weak λS w h=> ?_⟩
 ·intro e he o a;rw[i]at he;unfold vQ at he
  cases d with
  |none=>exact xah (c.r1 e he o a) hn
  |some t=>
   obtain he|he:=So.1 he
   ·obtain⟨j,k,rfl⟩:=xas.1 he;exact hl j k o a
   ·exact xah (c.r1 e (xcg.1 he).1 o a) hn
 ·have b:=zE.right h;have h1:zE S (RS P vs' env σ.rg) w:=by rw[jI (λe he o a=>hi o<|c.r1 e he o a)<|λ_ _=>O];exact zE.left b
  have m:zE S (RS P vs' env cx.rg) w:=by rw[jI (λe he o a=>hi o<|c.r2 e he o a)<|λ_ _=>O];exact zE.left<|zE.right b
  have n:=zE.right<|zE.right b
  cases d with
  |none=>
   unfold GS;rw[show σ'.rg=σ.rg from i];exact zE.append h1<|zE.append m n
  |some t=>
   have hp:RS P vs' (put env (Z t) v) cx.rg=RS P vs' env cx.rg:=jI (λ_ _ _ _=>O) λe he=>lX λht=>by
    simp only[wQ,XL,xaR]at hd;have:=hd e he;simp only[xat]at ht;rw[ht]at this;simp at this
   unfold GS;rw[i,hp];refine zE.append (uE.2 λf A=> ?_)<|zE.append m n;obtain⟨e,he,rfl⟩:=xas.1 A;obtain he|he:=So.1 he
   ·obtain⟨j,k,rfl⟩:=xas.1 he;simp only[CT];exact u S w (zE.left h) j k
   ·have⟨B,q⟩:=xcg.1 he;have C:Z t≠Z e.1:=λhc=>by
     simp only[xat]at hc;rw[hc]at q;simp at q
    rw[lX C];exact K2 h1 B
def Jh{v:wN}{σ':Sg}{l:N (K×Dv)}{Γl:N FF}(b:Bd cx σ)(hd:wQ cx d=wL)(hc:σ'.rg=vQ σ.rg d l)(hn:σ.nx<=σ'.nx)(a:∀o,o<σ.nx->vs' o=vs o)
 (hl:∀e∈l,∀o,vt e.2=Z o->o<σ'.nx) (c:∀e∈σ'.ob,e.1<σ'.nx) (f:∀S w,zE S Γl w->∀e∈l,(wo P vs' e.2 v e.1).p S w)
 (h:St fr.we fr.Se (OS vs' fr cx σ'.ob) (Γl++GS P vs env fr cx σ) w):lF P fr cx σ.nx vs σ' (put env d v) w:=⟨vs',a,ME b hd hc hn a hl c f h⟩
def zjh(P:jP)(vs:K->wN)(v:wN)(l:N (K×Dv)):N FF:=l.map λe=>wo P vs e.2 v e.1
def Hd{n:K}{l:N (K×Dv)}(h:okL n l=wL):∀e∈l,∀o,vt e.2=Z o->o<n:=by
 intro e a o b;unfold okL at h;rw[xaR]at h;have:=h e a;rw[b]at this;have:=xbK this;lia
def ES.mono{o:Z0}{l:N (K×Dv)}{F:N MF}(h:ES P o cx σ [] l):ES P o cx σ F l:=by
 intro env w S vs h1 a b;refine h env w S vs h1 (ZT.2 λm hm=>ZT.1 a m ?_) b;obtain hm|hm:=So.1 hm
 ·exact So.2 (.inl hm)
 ·rw[xbO]at hm;exact So.2 (.inr<|So.2 (.inl hm))
def zkR{o:Z0}{l:N (K×Dv)}(h:ES P o cx σ fr.F l)(hd:wQ cx o.dst=wL)(hl:okL σ.nx l=wL)(q:gR P fr cx σ vs env w):Zj P o env w (λv w'=>lF P fr cx σ.nx vs (σ.put o.dst l) (put env o.dst v) w'):=by
 have⟨j,h1,s,u,S,z,n,A,b,p⟩:=q;refine(h env w S vs n b λt _=>XM p t).mono ?_;rintro v w' ⟨a,B⟩;refine Jh (σ':=σ.put o.dst l) (Γl:=zjh P vs v l) j hd O (IR _) (λ_ _=>O) (Hd hl) j.o1 (λS w C e c=>uE.1 C _<|xas.2 ⟨e,c,O⟩) ?_;refine⟨h1.trans a,s,u,S,z,λk D=>n k<|xap a.size D,A,yM.keep a.to (λm E i hi=>a.block i (yM.lt b m E i hi) wR) b,zE.append (uE.2 λf hc=> ?_)<|zE.keep a.to p⟩;obtain⟨e,c,rfl⟩:=xas.1 hc;exact B e c
def mC(P:jP)(cx:Sg)(o:Z0)(σ:Sg)(k:Sg->V R)(r:R):Prop:=∃σ',k σ'=Z r/\σ.nx<=σ'.nx/\∀(fr:Fr) (vs:K->wN) (env:y7) (w:wP),gR P fr cx σ vs env w->Zj P o env w (λv w'=>lF P fr cx σ.nx vs σ' (put env o.dst v) w')
def m_E(b:yY P cf.tt)(c:uI P cf.tt)(e:∀s∈cf.cs,xt P s)(f:ED P cf){a:Op}{k:Sg->V R}(hd:wQ cx d=wL)(h:mE cf cx σ d a k=Z r):mC P cx ⟨d,a,ty,pos,aft,g⟩ σ k r:=by
 unfold mE at h;have⟨l,h,i⟩:=zgt (P:=P) (d:=d) (ty:=ty) (pos:=pos) (aft:=aft) (g:=g) (F:=[]) b c e f h;have⟨hl,h⟩:=z7 h;exact⟨_,h,IR _,λfr vs env w j=>zkR i.mono hd hl j⟩
def XF(vs:K->wN)(n:K)(v:wN):K->wN:=λo=>bif E o n then v else vs o
def wh{n:K}{v:wN}:XF vs n v n=v:=by simp[XF]
def ku{n o:K}{v:wN}(h:o<n):XF vs n v o=vs o:=by unfold XF;rw[Yq W];rfl
def zgf{n:K}{v:wN}{ob:N (K×Od)}(h:∀e∈ob,e.1<n):MS (XF vs n v) ob=MS vs ob:=wJ λe a=>ku<|h e a
def IF{v:wN}{ob:N (K×Od)}(a:Bd cx σ)(h:∀e∈ob,e.1<σ.nx):OS (XF vs σ.nx v) fr cx ob=OS vs fr cx ob:=by
 show MS _ ob++(MS _ cx.ob++_)=_;rw[zgf h,zgf a.o2]
def Ky{v:wN}{mk:K->Dv}{X:Od}{ob:N (K×Od)}(b:Bd cx σ)(hd:wQ cx d=wL)(c:∀e∈ob,e.1<σ.nx)(hc:∀o,vt (mk o)=Z o)(f:∀S w,(vI P (XF vs σ.nx v) (mk σ.nx) v).p S w)
 (h:St fr.we fr.Se (JZ (XF vs σ.nx v) (σ.nx,X)::OS vs fr cx ob) (GS P vs env fr cx σ) w):lF P fr cx σ.nx vs ⟨σ.nx+1,vQ σ.rg d [(0,mk σ.nx)],(σ.nx,X)::ob⟩ (put env d v) w:=by
 refine Jh (σ':=⟨σ.nx+1,vQ σ.rg d [(0,mk σ.nx)],(σ.nx,X)::ob⟩) (vs:=vs) (vs':=XF vs σ.nx v) (Γl:=[]) b hd O (xbH _) (λo a=>ku a) ?_ ?_ ?_ ?_
 ·intro e he o a;obtain rfl:=xag.1 he;rw[hc]at a;cases a;exact xbR _
 ·intro e he;obtain rfl|he:=xaf.1 he
  ·exact xbR _
  ·exact xfD<|c e he
 ·intro S w _ e he;obtain rfl:=xag.1 he;exact f S w
 ·show St _ _ (JZ (XF vs σ.nx v) (σ.nx,X)::OS (XF vs σ.nx v) fr cx ob) _ _;rw[IF b c];exact h
def KB{v:wN}(S:K->Prop)(w:wP):(vI P (XF vs σ.nx v) (.ow σ.nx) v).p S w:=(wh (vs:=vs)).symm
def Ov{t:Ty}{b:K}(S:K->Prop)(w:wP):(vI P (XF vs σ.nx (.pointer<|some ⟨b,0,wF⟩)) (.vs σ.nx t) (.pointer<|some ⟨b,0,wF⟩)).p S w:=⟨wh.symm,b,wh⟩
def KQ{t:Ty}{E:wT}{xs:N t.D}{n:K}{v:wN}:JZ (XF vs n v) (n,.own t E xs)=mO t.rep E v xs:=by simp only[JZ,wh]
def HS{t:Ty}{E:wT}{z:t.D}{n:K}{v:wN}:JZ (XF vs n v) (n,.var t E z)=mP t.rep.c E v z:=by simp only[JZ,wh]
def ziF(j:yY P cf.tt){E:wT}{k:Sg->V R}(hd:wQ cx d=wL)(h:R9 cf σ d E k=Z r):mC P cx ⟨d,.alloc E,ty,pos,aft,g⟩ σ k r:=by
 unfold R9 at h;split at h
 ·next a l=>
  have⟨f,hc,s,m⟩:=YN j l;refine⟨_,h,xbH _,λfr vs env w n=> ?_⟩;have⟨i,p⟩:=n;refine(sA (e:=a.ty.rep.c) (z:=a.ty.z) hc m w p).mono ?_;rintro v w' ⟨b,rfl,_,q⟩;refine Ky (vs:=vs) (mk:=λo=> .vs o a.ty) i hd i.o1 (λ_=>O) (λS w=>Ov S w) ?_;rw[HS];exact q.toP 0 O
 ·cases h
def znS{E:wT}{k:Sg->V R}(hd:wQ cx d=wL)(h:zng cf cx σ d E x k=Z r):mC P cx ⟨d,.box E x,ty,pos,aft,g⟩ σ k r:=by
 unfold zng at h;split at h
 ·next a m=>
  have⟨y,h,f⟩:=Vi h;refine⟨_,h,xbH _,λfr vs env w i=> ?_⟩;have⟨c,hc⟩:=i;refine(ziV (e:=a.ty.rep) (z:=y) O (λS w j=>f P vs env S w<|zS j x) w hc).mono ?_;rintro v w' ⟨b,rfl,_,l⟩;refine Ky (vs:=vs) (mk:=λo=> .vs o a.ty) c hd c.o1 (λ_=>O) (λS w=>Ov S w) ?_;rw[HS];exact l.toP 0 O
 ·cases h
def zbu(h:zaE x y=wL):ev env x=ev env y:=by
 unfold zaE at h;split at h
 ·rw[zO h]
 ·simp only[eqI,Ul]at h;rw[h]
 ·cases h
def zmr(a:yY P cf.tt){k:Sg->V R}(hd:wQ cx d=wL)(h:ze6 cf cx σ d t x y k=Z r):mC P cx ⟨d,.makeSlice t x y,ty,pos,aft,g⟩ σ k r:=by
 unfold ze6 at h;split at h
 ·next s E B ht=>
  have⟨hi,h⟩:=z7 h;split at h
  ·next f n i hn=>
   have⟨C,h⟩:=yj h;subst C;have⟨l,hl,K,D⟩:=YN a i;have⟨j,F,h⟩:=zbb h;have⟨m,h⟩:=Zo h;have⟨xs,o,h⟩:=xR h;refine⟨_,h,xbH _,λfr vs env w G=> ?_⟩;have⟨p,q⟩:=G;have⟨S0,_,c⟩:=q.ex;have u:ev env x=.int .i64 (j:J):=by rw[(w9 hn<|zS c x).1,F]
   have A:=(a _ _ i).2.1;refine(Nv (e:=f.ty.rep) (z:=f.ty.z) (xs:=xs) (n:=j) (qw a ht) hl u ((zbu hi).symm.trans u) A m D o w q).mono ?_;rintro v w' ⟨b,rfl,_,H⟩;refine Ky (vs:=vs) (mk:=.ow) p hd p.o1 (λ_=>O) (λS w=>KB S w) ?_;rw[KQ];have hc:X xs=j:=by rw[o];exact xaM
   have:=H.closeF 0 O (by rw[hc];exact IR _)<|ze7 A m;rw[hc]at this;exact this
  ·cases h
 ·cases h
def zoB(c:yY P cf.tt)(f:uI P cf.tt){n:K}{ps:uL (K×wW)}{k:Sg->V R}(hd:wQ cx d=wL)(h:zl8 cf cx σ d t n ps.toList k=Z r):mC P cx ⟨d,.buildSlice t n ps,ty,pos,aft,g⟩ σ k r:=by
 unfold zl8 at h;split at h
 ·next e E B ht=>
  have⟨hc,h⟩:=z7 h;have hc:=xbK hc;rw[<-e.n_rep]at hc;have⟨ys,h,m,o⟩:=nM h;have⟨bytes,i,hi⟩:=Kq c f ht;refine⟨_,h,xbH _,λfr vs env w p=> ?_⟩;have⟨j,s⟩:=p;have u:(ps.toList.map λq:K×wW=>(q.1,ev env q.2)).map (·.1)=xfC 0 (X (ps.toList.map λq:K×wW=>(q.1,ev env q.2))):=by rw[xcN,xaj];exact m
  have l:=λ(S:K->Prop) (w:wP) (a:zE S (GS P vs env fr cx σ) w)=>MU u<|o P vs env S w λx _=>zS a x;refine(zex (e:=e.rep) (zs:=nV n e ys) (parts:=ps.toList) (qw c ht) hi (zdV c f ht) (gi n e ys) hc O (λS w a=>by have:=(l S w a).1;rwa[xcp]at this) (λS w a=>(l S w a).2) w s).mono ?_;rintro v w' ⟨b,rfl,_,z⟩;refine Ky (vs:=vs) (mk:=.ow) j hd j.o1 (λ_=>O) (λS w=>KB S w) ?_;rw[KQ];exact z
 ·cases h
end
end
section
section
variable{P:jP}{cf:Cf}{fr:Fr}{cx σ:Sg}{vs vs':wr->wN}{env:y7}{w:wP}{R:Type}{r:R}
 {d:ww Z5}{ty t yt:wT}{pos:String}{aft:uL Edge}{g:ww (wr×qR)}{x y:wW}
theorem Jr{ob:N (K×Od)}{o:K}{X Y:Od}(h:xH ob o=Z X):∀e∈jY ob o Y,∃a∈ob,a.1=e.1:=by grind [vq,xdF,xbp]
def uW:∀{ob:N (K×Od)}{o:K},∀e∈yw ob o,e∈ob
 |(a,X)::r,o,e,he=>by
  unfold yw at he;cases b:E a o<;>rw[b]at he
  ·obtain rfl|he:=xaf.1 he
   ·exact H1
   ·exact UV _<|uW e he
  ·exact UV _ he
def gk{o:K}{X Y:Od}{v:wN}(b:Bd cx σ)(c:xH σ.ob o=Z X)(f:St fr.we fr.Se (OS vs fr cx<|jY σ.ob o Y) (GS P vs env fr cx σ) w):lF P fr cx σ.nx vs ⟨σ.nx,σ.rg,jY σ.ob o Y⟩ (put env wF v) w:=by
 refine Jh (σ':=⟨σ.nx,σ.rg,jY σ.ob o Y⟩) (d:=wF) (l:=[]) (vs:=vs) (vs':=vs) (Γl:=[]) b O O (IR _) (λ_ _=>O) (λ_ a=>wS a Nm) (λe a=> ?_) (λS w _ e a=>wS a Nm) f;have⟨h,h1,i⟩:=Jr c e a;rw[<-i];exact b.o1 h h1
def set_set{α:Type _}(l:N α)(i:K)(a b:α):(l.set i a).set i b=l.set i b:=i7
theorem vy{α:Type _}{l:N α}{i:K}{a b:α}(h:l[i]? =Z a):(l.set i b)[i]? =Z b:=by grind [xar]
def rA{α:Type _}:∀(l:N α) (i:K) (a:α),(l.set i a).eraseIdx i=l.eraseIdx i
 |[],_,_=>by simp
 |_::_,0,_=>rfl
 |b::l,i+1,a=>by simp[rA l i a]
def oC{α:Type}{e:zW α}{E:wT}{xs:N α}{v:wN}{S:K->Prop}{b n cap:K}(h:(mO e E v xs).p S w)(hv:v=.slice (Z ⟨b,0,wF⟩) n cap):n=X xs:=by
 have⟨cs,c,i⟩:=h;rcases c.2 with⟨h,j⟩|⟨k,a,f,h,_⟩
 ·rw[hv]at h;cases h
 ·rw[hv]at h;cases h;rfl
def zjv(hT:yY P cf.tt){k:Sg->V R}{s:TI}(hC:ZO cf t=Z s)(h:SV σ s.ty (xD cx σ x) (xD cx σ y) k=Z r):mC P cx ⟨wF,.store t x y,ty,pos,aft,g⟩ σ k r:=by
 have⟨U,u,_⟩:=YN hT hC;unfold SV at h;split at h
 ·next o _ A=>
  split at h
  ·next L E z l=>
   have⟨hD,h1⟩:=yj h;subst hD;have⟨q,h,B⟩:=Vi h1;refine⟨_,h,IR _,λfr vs env w C=> ?_⟩;have⟨D,hd⟩:=C;have⟨S0,_,e⟩:=hd.ex;have⟨i,hi,F,ht⟩:=vq l;have a:(OS vs fr cx σ.ob)[i]? =Z (mP s.ty.rep.c E (vs o) z):=JI hi;have⟨b,hv,G⟩:=hd.openP i a;have⟨H,_⟩:=zj A<|zS e x;refine(uf (f:=s.ty.rep) (z':=z) (y':=q) (up:=id) i (vy a) (H.trans hv) O (Sub.self s.ty.rep z) u (λS w J=>B P vs env S w<|zS J y) w G).mono ?_;rintro v w' ⟨_,rfl,_,hl⟩;refine gk (vs:=vs) D l ?_;have m:=hl.toP i<|vy<|vy a;rw[set_set,set_set,<-hv]at m;rw[F];show St _ _ (MS vs (σ.ob.set i (o,.var s.ty E q))++_) _ _;rw[<-Cj hi];exact m
  ·cases h
 ·next o p f A=>
  split at h
  ·next L E z hc l _=>
   have⟨M,h1⟩:=yj h;subst M;have⟨q,N,B⟩:=Vi h1;have⟨z2,Q,h⟩:=xR N;have⟨hc⟩:=hc;refine⟨_,h,IR _,λfr vs env w C=> ?_⟩;have⟨D,hd⟩:=C;have⟨S0,_,e⟩:=hd.ex;have⟨i,hi,F,ht⟩:=vq l;have a:(OS vs fr cx σ.ob)[i]? =Z (mP L.rep.c E (vs o) z):=JI hi;have⟨b,hv,G⟩:=hd.openP i a;have⟨T,b',K,H⟩:=zj A<|zS e x;rw[hv]at K;cases K;rw[<-hc]at u;refine(uf (f:=f.f.rep) (z':=f.get z) (y':=q) (up:=λy=>f.set y z) i (vy a) H O (by rw[xaK];exact T z) u (λS w J=>B P vs env S w<|zS J y) w G).mono ?_;rintro v w' ⟨_,rfl,_,hl⟩;refine gk (vs:=vs) D l ?_;have m:=hl.toP i<|vy<|vy a;rw[set_set,set_set,<-hv,<-Q]at m;rw[F];show St _ _ (MS vs (σ.ob.set i (o,.var L E z2))++_) _ _;rw[<-Cj hi];exact m
  ·cases h
 ·next o p j f A=>
  split at h
  ·next L E xs hc l _=>
   have⟨M,h1⟩:=yj h;cases M;have⟨q,N,B⟩:=Vi h1;have⟨z2,Q,h⟩:=xR N;have⟨hc⟩:=hc;refine⟨_,h,IR _,λfr vs env w C=> ?_⟩;have⟨D,hd⟩:=C;have⟨S0,_,e⟩:=hd.ex;have⟨i,hi,F,ht⟩:=vq l;have a:(OS vs fr cx σ.ob)[i]? =Z (mO p.rep E (vs o) xs):=JI hi;have⟨T,b,n,cap,hv,Y,H⟩:=zj A<|zS e x;have hn:n=xaG xs:=wz hd a λS hp=>oC hp hv;subst hn;have⟨b',a0,K,hE,hF,G⟩:=hd.openO i a<|xaL (xan _) Y;rw[hv]at K;cases K;rw[<-hc]at u;have hA:=(Sub.rowT0 p.rep cap xs j (xeH xs j p.z)<|getD_some p.z Y).comp<|T<|xeH xs j p.z;refine(uf (f:=f.f.rep) (y':=q) i (vy a) H O hA u (λS w J=>B P vs env S w<|zS J y) w G).mono ?_;rintro v w' ⟨_,rfl,_,hl⟩;refine gk (vs:=vs) D l ?_;have hu:X (xgk xs j<|f.set q<|xeH xs j p.z)=xaG xs:=xbj ..;have m:=hl.closeF i (vy<|vy a) (by rw[hu];exact hE) hF;rw[set_set,set_set,hu,<-hv,<-Q]at m;rw[F];show St _ _ (MS vs (σ.ob.set i (o,.own p E z2))++_) _ _;rw[<-Cj hi];exact m
  ·cases h
 ·cases h
end
end
section
section
variable{P:jP}{cf:Cf}{fr:Fr}{cx σ:Sg}{vs vs':wr->wN}{env:y7}{w:wP}{R:Type}{r:R}
 {d:ww Z5}{ty t yt:wT}{pos:String}{aft:uL Edge}{g:ww (wr×qR)}{x y:wW}
def ze0{b:wT}{ag:qR}{e bytes:K}{a:wN}{hi:wW}(f:ev env x=.slice wF 0 0)(ht:P.underlying t=Z (.slice b))(hc:Jf P b ag e bytes a)
 (h:ev env hi=.int .i64 ((0:K):J)) (w:wP):(kW (ev env) ⟨d,.slice t x wF (Z hi) wF,ty,pos,aft,g⟩).run P w=.ok (.value (.slice wF 0 0)) w:=by
 have b1:(0:J)<=((0:K):J)/\((0:K):J)<=((0:K):J):=W
 have c:(xdb t (.slice wF 0 0) wF (Z (.int .i64 ((0:K):J))) wF).run P w=.ok (.slice wF 0 0) w:=by
  unfold xdb;simp only[xay,ul ht,xae];unfold xfX;simp only[xay,ul ht,xae];unfold xer;simp[xeF,V6,xay,xaI,xae,wv hc]
 simp[kW,f,h]at c⊢;simp[c]
def znk{i o:K}{X:Od}{Y:MF}(hi:σ.ob[i]? =Z (o,X))(a:yw σ.ob o=σ.ob.eraseIdx i){Γ:N FF}(h:St fr.we fr.Se ((OS vs fr cx σ.ob).set i Y) Γ w):St fr.we fr.Se (Y::OS vs fr cx (yw σ.ob o)) Γ w:=by
 have:=St.front i h<|vy<|JI hi;rw[rA,c8 hi,<-a]at this;exact this
def zjb(l:yY P cf.tt)(M:uI P cf.tt){o:K}{hi:wW}{k:Sg->V R}(hd:wQ cx d=wL)(Q:xD cx σ x=Z (.ow o))(h:TA cf cx σ d t o hi k=Z r):
 mC P cx ⟨d,.slice t x wF (Z hi) wF,ty,pos,aft,g⟩ σ k r:=by
 unfold TA at h;split at h
 ·next n E1 B s E xs ht T=>
  have⟨U,h1⟩:=yj h;cases U;rcases UH h1 with⟨e,_⟩|⟨z,m,e,Y,hz⟩
  ·cases e
  ·cases e;have⟨p,h3⟩:=Zo Y;have⟨ys,D,h4⟩:=xR h3;have⟨bytes,F,q⟩:=Kq l M ht;refine⟨_,h4,xbH _,λfr vs env w hR=> ?_⟩;have⟨G,c⟩:=hR;have⟨S0,_,f⟩:=c.ex;have u:ev env x=vs o:=zj Q<|zS f x;have A:=hz P vs env S0 w<|zS f hi;have⟨i,hl,hF,hn⟩:=vq T;have hc:(OS vs fr cx σ.ob)[i]? =Z (mO n.rep E (vs o) xs):=JI hl
   have a:∀v,(kW (ev env) ⟨d,.slice t x wF (Z hi) wF,ty,pos,aft,g⟩).run P w=.ok (.value v) w->St fr.we fr.Se ((OS vs fr cx σ.ob).set i<|mO n.rep E v ys) (GS P vs env fr cx σ) w->
    Zj P ⟨d,.slice t x wF (Z hi) wF,ty,pos,aft,g⟩ env w (λv w'=>lF P fr cx σ.nx vs ⟨σ.nx+1,vQ σ.rg d [(0,.ow σ.nx)],(σ.nx,.own n E ys)::yw σ.ob o⟩ (put env d v) w'):=by
    intro v hp C;refine Zj.of_value hp<|Ky (vs:=vs) (mk:=.ow) G hd (λe he=>G.o1 e<|uW e he) (λ_=>O) (λS w=>KB S w) ?_;rw[KQ];exact znk hl hn C
   rcases xcx (xaG xs)with h0|h0
   ·have hy:m=0:=by have:m<=xaG xs:=p;lia
    subst hy;have hA:ys=xs:=by rw[D];exact(xbh.1 h0).symm▸O
    subst hA;have H:(OS vs fr cx σ.ob).set i (mO n.rep E (vs o) ys)=OS vs fr cx σ.ob:=by
     apply xcA;intro j;rw[List.getElem?_set];split
     ·next hC=>
      subst hC;split
      ·exact hc.symm
      ·next hD=>exact wS (xar.1 hc).1 hD
     ·rfl
    have hv:vs o=.slice wF 0 0\/∃b cap,vs o=.slice (Z ⟨b,0,wF⟩) 0 cap:=wz c hc λS ⟨cs,h5,_⟩=>by
     rcases h5.2 with⟨h,_⟩|⟨b,cap,a0,h,_⟩
     ·exact .inl h
     ·rw[h0]at h;exact .inr ⟨b,cap,h⟩
    obtain hv|⟨b,cap,hv⟩:=hv
    ·exact a _ (ze0 (u.trans hv) (qw l ht) q A w)<|by rw[<-hv,H];exact c
    ·exact a _ (NX (u.trans hv) (qw l ht) q A (xan _) w)<|by rw[<-hv,H];exact c
   ·have⟨b,cap,hv,J,hE,C⟩:=c.openO i hc h0;have L:=C.closeO i m (vy hc) p (xap p J) hE;rw[set_set]at L;exact a _ (NX (u.trans hv) (qw l ht) q A (xap p J) w)<|by rw[D];exact L
 ·cases h
def zgk(H:yY P cf.tt){J:wT}{f:qR}{a:TI}{E:wT}{ob:N (K×Od)}{xs:N a.ty.D}{k:Sg->V R}(ht:P.underlying t=Z (.slice E))(L:ZO cf E=Z a)(hd:wQ cx d=wL)
 (Y:f=wL->t=J) (h:zbC cf cx σ d J f a.ty E a.B a.ty.z y ob xs k=Z r):
 ∃σ',k σ'=Z r/\σ.nx<=σ'.nx/\∀(fr:Fr) (vs:K->wN) (env:y7) (w:wP) (u:wN),Bd cx σ->(∀e∈ob,e.1<σ.nx)->ev env x=u->St fr.we fr.Se (mO a.ty.rep E u xs::OS vs fr cx ob) (GS P vs env fr cx σ) w->
  Zj P ⟨d,.call ⟨.builtin .append,#[x,y],#[t,J]⟩,ty,pos,aft,g⟩ env w (λv w'=>lF P fr cx σ.nx vs σ' (put env d v) w'):=by
 have⟨a0,hl,M,hu⟩:=YN H L;have hr:=(H _ _ L).2.1;have hn:=(H _ _ L).2.2.1;have O3:∀m,m*a.B<=140737488355328->m<=9223372036854775807:=λm hm=>by
  have:=xco m hr;lia
 unfold zbC at h;split at h
 ·next n hw=>
  split at h
  ·next q ik B' hz=>
   have⟨j,hj,h⟩:=zbb h;have⟨i,h⟩:=Zo h;have⟨zs,o,h⟩:=xR h;refine⟨_,h,xbH _,λfr vs env w u s A C hc=> ?_⟩;have⟨S0,_,l⟩:=hc.ex;refine(zaq (e:=a.ty.rep) (z:=a.ty.z) (n:=j) 0 ht (Jn H hz) hl M hn O C (by rw[(w9 hw<|zS l y).1,hj]) hu (O3 _ i) i w hc).mono ?_;rintro v w' ⟨v',rfl,_,G⟩;refine Ky (vs:=vs) (mk:=.ow) s hd A (λ_=>O) (λS w=>KB S w) ?_;rw[KQ,o];exact G
  ·cases h
 ·split at h
  ·next o2 t2 lo n hy=>
   split at h
   ·next s2 E2 Q hA=>
    have⟨hp,h⟩:=z7 h;obtain rfl:=Y hp;have⟨T,h⟩:=yj h;cases T;have⟨T,h⟩:=yj h;cases T;have⟨ys,hi,h⟩:=xR h;have⟨i,h⟩:=Zo h;have⟨zs,o,h⟩:=xR h;refine⟨_,h,xbH _,λfr vs env w u s A C hc=> ?_⟩;have⟨S0,_,l⟩:=hc.ex;have hv:=zj hy<|zS l y;refine(aK (e:=a.ty.rep) (ys:=ys) 0 ht hl M hn O C O (λS w hM ha=> ?_) (O3 _ i) i w hc).mono ?_
    ·have hm:(mO a.ty.rep E2 (vs o2) Q).p S w:=ZM (σ:=⟨σ.nx,σ.rg,ob⟩) (F:=fr.F) hM.2 hA;rcases hv with⟨b,m,cap,c,q1,q2,U,q4,q5⟩|⟨q1,ao,c,q2,U⟩
     ·rw[q5,hi];exact Mr hm q1 q2 U q4
     ·subst q1;rw[U,hi];exact⟨ao,c,i7,i7,by unfold WS;lia,.inl i7⟩
    rintro v w' ⟨v',rfl,_,G⟩;refine Ky (vs:=vs) (mk:=.ow) s hd A (λ_=>O) (λS w=>KB S w) ?_;rw[KQ,o];exact G
   ·cases h
  have⟨hp,h⟩:=z7 h;obtain rfl:=Y hp;have⟨ys,h,hi⟩:=Vi h;have⟨i,h⟩:=Zo h;have⟨zs,o,h⟩:=xR h;refine⟨_,h,xbH _,λfr vs env w u s A C hc=> ?_⟩;refine(zcQ (e:=a.ty.rep) (ys:=ys) 0 ht hl M hn O C O (λS w ha=>hi P vs env S w<|zS ha y) (O3 _ i) i w hc).mono ?_;rintro v w' ⟨v',rfl,_,G⟩;refine Ky (vs:=vs) (mk:=.ow) s hd A (λ_=>O) (λS w=>KB S w) ?_;rw[KQ,o];exact G
def zoh(j:yY P cf.tt){a:uL wW}{ts:uL wT}{k:Sg->V R}(hd:wQ cx d=wL)(h:zlB cf cx σ d a.toList ts.toList k=Z r):
 mC P cx ⟨d,.call ⟨.builtin .append,a,ts⟩,ty,pos,aft,g⟩ σ k r:=by
 unfold zlB at h;split at h
 ·next _ _ x y t A M hp=>
  obtain rfl:a= #[x,y]:=by cases a;simp_all
  obtain rfl:ts= #[t,A]:=by cases ts;simp_all
  split at h
  ·next s E B ht=>
   split at h
   ·next C v=>
    have⟨D,h1⟩:=yj h;subst D;split at h1
    ·next l=>
     have⟨σ',m,n,p⟩:=zgk (ty:=ty) (pos:=pos) (aft:=aft) (g:=g) (x:=x) j (qw j ht) v hd (λh=>zO h) h1;refine⟨σ',m,n,λfr vs env w q=> ?_⟩;have⟨c,f⟩:=q;have⟨S0,_,b⟩:=f.ex;exact p fr vs env w _ c c.o1 (zj l<|zS b x) f.nilO
    ·next o l=>
     split at h1
     ·next N F xs G=>
      have⟨u,H⟩:=z7 h1;have u:=zO u;subst u;have⟨J,K⟩:=yj H;cases J;have⟨σ',m,n,p⟩:=zgk (ty:=ty) (pos:=pos) (aft:=aft) (g:=g) (x:=x) j (qw j ht) v hd (λh=>zO h) K;refine⟨σ',m,n,λfr vs env w q=> ?_⟩;have⟨c,f⟩:=q;have⟨S0,_,b⟩:=f.ex;have⟨i,z,hn,hi⟩:=vq G;have hl:(OS vs fr cx σ.ob)[i]? =Z (mO C.ty.rep F (vs o) xs):=JI z;have hc:=f.front i hl;rw[c8 z,<-hi]at hc;exact p fr vs env w _ c (λe L=>c.o1 e<|uW e L) (zj l<|zS b x) hc
     ·cases h1
    ·cases h1
   ·cases h
  ·cases h
 ·cases h
theorem zih{α:Type}(xs ys:N α):X (Pk xs ys)=X xs:=by grind [Pk,xaw,xav,xbX]
theorem zib{α:Type}{xs:N α}(ys:N α)(h:X xs=0):Pk xs ys=xs:=by grind [Pk,xbh]
def zls{α:Type}(xs ys:N α):xdH 0 xs++xdH (min (X ys) (X xs)) ys++xdT (0+min (X ys) (X xs)) xs=Pk xs ys:=by simp[Pk]
def TZ{α:Type}(lo:K)(xs ys:N α):iZ lo 0 xs ys=xs:=by simp[iZ]
theorem zb8{α:Type}{lo n:K}{xs:N α}(ys:N α)(h:lo+n<=X xs):X (iZ lo n xs ys)=X xs:=by grind [iZ,xaw,xav,xbX]
def znn(J:yY P cf.tt)(hL:uI P cf.tt){z:uL wW}{ts:uL wT}{k:Sg->V R}(hd:wQ cx d=wL)(h:zhI cf cx σ d z.toList ts.toList k=Z r):
 mC P cx ⟨d,.call ⟨.builtin .copy,z,ts⟩,ty,pos,aft,g⟩ σ k r:=by
 unfold zhI at h;split at h
 ·next x y t t' hK hM=>
  obtain rfl:z= #[x,y]:=by cases z;simp_all
  obtain rfl:ts= #[t,t']:=by cases ts;simp_all
  split at h
  ·next s E B o ht hx=>
   split at h
   ·next s' a xs M=>
    have⟨hA,h⟩:=yj h;cases hA;have⟨ys,h,N⟩:=Vi h;have⟨zs,hc,h⟩:=xR h;have hc:zs=Pk (α:=s.D) xs ys:=hc;have⟨bytes,Q,hl⟩:=Kq J hL ht;refine⟨_,h,IR _,λfr vs env w hR=> ?_⟩;have⟨T,A⟩:=hR;have⟨S0,_,f⟩:=A.ex;have hn:ev env x=vs o:=zj hx<|zS f x;have⟨i,hi,hq,hH⟩:=vq M;have j:(OS vs fr cx σ.ob)[i]? =Z (mO s.rep a (vs o) xs):=JI hi;have p:∀v w',St fr.we fr.Se ((OS vs fr cx σ.ob).set i<|mO s.rep a (vs o) zs) (GS P vs env fr cx σ) w'->lF P fr cx σ.nx vs ⟨σ.nx,vQ σ.rg d [],jY σ.ob o (.own s a zs)⟩ (put env d v) w':=λv w' F=>by
     refine Jh (σ':=⟨σ.nx,vQ σ.rg d [],jY σ.ob o (.own s a zs)⟩) (d:=d) (l:=[]) (vs:=vs) (vs':=vs) (Γl:=[]) T hd O (IR _) (λ_ _=>O) (λ_ q=>wS q Nm) (λe q=> ?_) (λS w _ e q=>wS q Nm) ?_
     ·have⟨e',h1,h2⟩:=Jr M e q;rw[<-h2];exact T.o1 e' h1
     ·rw[hq];show St _ _ (MS vs (σ.ob.set i (o,.own s a zs))++_) _ _;rw[<-Cj hi];exact F
    rcases xcx (xaG xs)with h0|h0
    ·have hv:vs o=.slice wF 0 0\/∃b cap,vs o=.slice (Z ⟨b,0,wF⟩) 0 cap:=wz A j λS ⟨cs,h5,_⟩=>by
      rcases h5.2 with⟨h,_⟩|⟨b,cap,a0,h,_⟩
      ·exact .inl h
      ·rw[h0]at h;exact .inr ⟨b,cap,h⟩
     have⟨G,cap,hv⟩:∃G cap,vs o=.slice G 0 cap:=by
      obtain hv|⟨b,cap,hv⟩:=hv
      ·exact⟨_,_,hv⟩
      ·exact⟨_,_,hv⟩
     have⟨L,u,hu,_⟩:=xT.1<|N P vs env S0 w<|zS f y;have⟨ti,hC,i1,i2,i3⟩:=hl.info;have hD:(P.info? E).map (·.size)=Z s.rep.n:=by rw[hC];simp[i1]
     have U:=JL (P:=P) w t t' ty E G L 0 cap (xaG ys) u (qw J ht) hD<|Nat.min_zero _;rw[<-hu,<-hv,<-hn]at U;have Y:zs=xs:=hc.trans<|zib (α:=s.D) ys h0;refine Zj.of_value (v:=fN 0) (w':=w) ?_<|p _ w ?_
     ·simp only[kW,Wt,V2,UL,xee,xbS,xex,xay,U,xaI,xae]
     ·have:(OS vs fr cx σ.ob).set i (mO s.rep a (vs o) xs)=OS vs fr cx σ.ob:=by
       have⟨hI,hE⟩:=xar.1 j;rw[<-hE,xdh]
      rw[Y,this];exact A
    ·have⟨b,cap,hv,hF,hG,F⟩:=A.openO i j h0;refine(Pv (e:=s.rep) (l:=0) (dLen:=xaG xs) (dCap:=cap) i (qw J ht) hl (vy j) (by rw[hn,hv];simp) O W (λS w ha=>N P vs env S w<|zS ha y) w F).mono ?_;rintro v w' ⟨n,rfl,_,H⟩;refine p _ w' ?_;have Y:=(zls (α:=s.D) xs ys).trans hc.symm;rw[Y]at H;have hg:xaG zs=xaG xs:=by rw[hc];exact zih (α:=s.D) xs ys
     have hw:=H.closeF i (vy<|vy j) (by rw[hg];exact hF) hG;rw[set_set,set_set,hg,<-hv]at hw;exact hw
   ·cases h
  ·next s E B o t2 lo n ht hx=>
   split at h
   ·next s' a xs hk M _=>
    have⟨hA,h⟩:=yj h;cases hA;have⟨ys,h,N⟩:=Vi h;have⟨zs,hc,h⟩:=xR h;have hc:zs=iZ (α:=s.D) lo n xs ys:=hc;have⟨hk⟩:=hk;subst hk;have⟨bytes,Q,hl⟩:=Kq J hL ht;refine⟨_,h,IR _,λfr vs env w hR=> ?_⟩;have⟨T,A⟩:=hR;have⟨S0,_,f⟩:=A.ex;have hn:=zj hx<|zS f x;have⟨i,hi,hq,hH⟩:=vq M;have j:(OS vs fr cx σ.ob)[i]? =Z (mO t2.rep a (vs o) xs):=JI hi;have p:∀v w',St fr.we fr.Se ((OS vs fr cx σ.ob).set i<|mO t2.rep a (vs o) zs) (GS P vs env fr cx σ) w'->lF P fr cx σ.nx vs ⟨σ.nx,vQ σ.rg d [],jY σ.ob o (.own t2 a zs)⟩ (put env d v) w':=λv w' F=>by
     refine Jh (σ':=⟨σ.nx,vQ σ.rg d [],jY σ.ob o (.own t2 a zs)⟩) (d:=d) (l:=[]) (vs:=vs) (vs':=vs) (Γl:=[]) T hd O (IR _) (λ_ _=>O) (λ_ q=>wS q Nm) (λe q=> ?_) (λS w _ e q=>wS q Nm) ?_
     ·have⟨e',h1,h2⟩:=Jr M e q;rw[<-h2];exact T.o1 e' h1
     ·rw[hq];show St _ _ (MS vs (σ.ob.set i (o,.own t2 a zs))++_) _ _;rw[<-Cj hi];exact F
    obtain h0|h0:=xcx n
    ·have⟨G,c,hv⟩:∃G c,ev env x=.slice G 0 c:=by
      rcases hn with⟨b,m,cap,c,q1,q2,q3,q4,q5⟩|⟨q1,L,c,q2,q3⟩
      ·exact⟨_,c,by rw[q5,h0]⟩
      ·exact⟨L,c,q3⟩
     have⟨L,u,hu,_⟩:=xT.1<|N P vs env S0 w<|zS f y;have⟨ti,hC,i1,i2,i3⟩:=hl.info;have hD:(P.info? E).map (·.size)=Z t2.rep.n:=by rw[hC];simp[i1]
     have U:=JL (P:=P) w t t' ty E G L 0 c (xaG ys) u (qw J ht) hD<|Nat.min_zero _;rw[<-hu,<-hv]at U;have Y:zs=xs:=by rw[hc,h0];exact TZ (α:=t2.D) lo xs ys
     refine Zj.of_value (v:=fN 0) (w':=w) ?_<|p _ w ?_
     ·simp only[kW,Wt,V2,UL,xee,xbS,xex,xay,U,xaI,xae]
     ·have:(OS vs fr cx σ.ob).set i (mO t2.rep a (vs o) xs)=OS vs fr cx σ.ob:=by
       have⟨hI,hE⟩:=xar.1 j;rw[<-hE,xdh]
      rw[Y,this];exact A
    ·rcases hn with⟨b0,m,C,c,q1,q2,q3,q4,q5⟩|⟨q1,L,c,q2,q3⟩
     ·have hJ:m=xaG xs:=wz A j λS hp=>oC hp q1;subst hJ;have⟨b,cap,hv,hF,hG,F⟩:=A.openO i j W;rw[q1]at hv;cases hv;refine(Pv (e:=t2.rep) (l:=lo) (dLen:=n) (dCap:=c) i (qw J ht) hl (vy j) q5 O q2 (λS w ha=>N P vs env S w<|zS ha y) w F).mono ?_;rintro v w' ⟨nn,rfl,_,H⟩;refine p _ w' ?_;have H:St fr.we fr.Se (((OS vs fr cx σ.ob).set i<|mB (rowT t2.rep C) a b0 xs).set i<|mB (rowT t2.rep C) a b0<|iZ (α:=t2.D) lo n xs ys) (GS P vs env fr cx σ) w':=H;rw[<-hc]at H;have hg:xaG zs=xaG xs:=by rw[hc];exact zb8 (α:=t2.D) ys q2
      have hw:=H.closeF i (vy<|vy j) (by rw[hg];exact hF) hG;rw[set_set,set_set,hg,<-q1]at hw;exact hw
     ·lia
   ·cases h
  ·cases h
 ·cases h
end
end
section
section
variable{P:jP}{cf:Cf}{fr:Fr}{cx σ:Sg}{vs vs':wr->wN}{env:y7}{w:wP}{R:Type}{r:R}
 {d:ww Z5}{ty t yt:wT}{pos:String}{aft:uL Edge}{g:ww (wr×qR)}{x y:wW}
def zeE{a b:K}(h:a≠b):E a b=I:=Yq h
def Ur:∀{ob:N (K×Od)}{o p:K},p≠o->xH (yw ob o) p=xH ob p
 |[],_,_,_=>rfl
 |(q,X)::r,o,p,h=>by
  unfold yw;cases a:E q o
  ·simp only[Z3];unfold xH;rw[Ur h]
  ·simp only[Z2];have:=zO a;subst this;conv=>rhs;unfold xH
   rw[zeE<|λe=>h e.symm];rfl
def ji{ob:N (K×Od)}{p:K}:∀{os:N K},lk os p=I->xH (qh ob os) p=xH ob p
 |[],_=>rfl
 |o::r,h=>by
  simp only[lk,List.any_cons,Bool.or_eq_false_iff]at h;unfold qh;rw[Ur (λe=>by subst e;simp at h),ji h.2]
def UM{ob:N (K×Od)}:∀{os:N K},∀e∈qh ob os,e∈ob
 |[],_,h=>h
 |o::r,e,h=>UM (os:=r) e<|uW e h
def zbV{α:Type _}:∀{l:N α}{i:K}{a:α},l[i]? =Z a->l.Perm (a::l.eraseIdx i)
 |[],_,_,h=>by simp at h
 |b::l,0,a,h=>by simp at h;subst h;exact xdD _
 |b::l,i+1,a,h=>((zbV (l:=l) (i:=i)<|by simpa using h).cons b).trans<|xdX _ _ _
def jv{ob:N (K×Od)}{o:K}{X:Od}(h:xH ob o=Z X):(OS vs fr cx ob).Perm (JZ vs (o,X)::OS vs fr cx (yw ob o)):=by
 have⟨i,h1,_,a⟩:=vq h;show(MS vs ob++(MS vs cx.ob++fr.F)).Perm (JZ vs (o,X)::(MS vs (yw ob o)++(MS vs cx.ob++fr.F)));rw[a,<-c8 h1];exact zbV<|JI h1
def aE(C:∀s∈cf.cs,xt P s):∀{dom:N AM}{xs:N wW}{cs:N PD}{k:fE dom->N K->V R},ZR cf cx σ dom xs cs k=Z r->
 ∃z os,k z os=Z r/\lM xs+lM cs=lM dom/\(∀o∈os,∃X,(o,X)∈σ.ob)/\∀vs (fr:Fr) env S w,(∀x,Xz P vs env S w cx σ x)->∀a:N wN,lM a=lM cs->zE S (HL cs a) w->
  zE S (ZE P dom z<|xs.map (ev env)++a) w/\(OS vs fr cx σ.ob).Perm (YX dom z (xs.map (ev env)++a)++OS vs fr cx (qh σ.ob os))/\J8 dom (xs.map (ev env)++a)=os.map vs
 |[],[],[],k,h=>⟨(),[],h,O,λ_ l=>wS l Nm,λ_ _ _ _ _ _ _ _ _=>⟨wR,xdD _,O⟩⟩
 |.q t::dom,[],c::cs,k,h=>by
  simp only[ZR]at h;have⟨e,h⟩:=yj h;subst e;have⟨z,os,h1,n,l,u⟩:=aE C h;refine⟨_,os,h1,by simp at n⊢;lia,l,λvs fr env S w hl a m hc=> ?_⟩
  cases a with
  |nil=>cases m
  |cons v a=>have⟨j,A,B⟩:=u vs fr env S w hl a (by simpa using m) hc.2;exact⟨⟨hc.1,j⟩,A,B⟩
 |.d t::dom,x::xs,cs,k,h=>by
  simp only[ZR]at h;have⟨y,h,M⟩:=Vi h;have⟨z,os,h1,n,l,u⟩:=aE C h;exact⟨_,os,h1,by simp at n⊢;lia,l,λvs fr env S w hl a m hc=>by have⟨j,A,B⟩:=u vs fr env S w hl a m hc;exact⟨⟨M P vs env S w<|hl x,j⟩,A,B⟩⟩
 |.q t::dom,x::xs,cs,k,h=>by
  simp only[ZR]at h;split at h
  ·next s y F=>
   have⟨e,h⟩:=yj h;subst e;have⟨z,os,h1,n,l,u⟩:=aE C h;exact⟨_,os,h1,by simp at n⊢;lia,l,λvs fr env S w hl a m hc=>by have⟨j,A,B⟩:=u vs fr env S w hl a m hc;exact⟨⟨zj F<|hl x,j⟩,A,B⟩⟩
  ·cases h
 |.own t E::dom,x::xs,cs,k,h=>by
  simp only[ZR]at h;split at h
  ·next o F=>
   split at h
   ·next s Q ys hd=>
    have⟨D,G⟩:=z7 h;have D:=zO D;subst D;have⟨e,H⟩:=yj G;cases e;have⟨z,os,J,n,l,u⟩:=aE C H;have⟨hn,h1⟩:=z7 J;simp only[xcV]at hn;refine⟨_,o::os,h1,by simp at n⊢;lia,λp hp=> ?_,λvs fr env S w hl a m hc=> ?_⟩
    ·obtain rfl|hp:=xaf.1 hp
     ·have⟨i,j,_⟩:=vq hd;exact⟨_,xbp j⟩
     ·exact l p hp
    have⟨j,A,B⟩:=u vs fr env S w hl a m hc;have hv:ev env x=vs o:=zj F<|hl x;refine⟨⟨wR,j⟩,A.trans ?_,?_⟩
    ·have hp:=jv (vs:=vs) (fr:=fr) (cx:=cx)<|(ji hn).trans hd;refine(xbL _ hp).trans ?_;refine xcl.trans ?_;show List.Perm _ (mO t.rep E (ev env x) _::(YX dom z (xs.map (ev env)++a)++_));rw[hv];exact xdD _
    ·show ev env x::J8 dom (xs.map (ev env)++a)=vs o::os.map vs;rw[hv,B]
   ·cases h
  ·cases h
 |.var t E::dom,x::xs,cs,k,h=>by
  simp only[ZR]at h;split at h
  ·next o Y F=>
   split at h
   ·next s Q y hd=>
    have⟨D,G⟩:=z7 h;have D:=zO D;subst D;have⟨e,H⟩:=yj G;subst e;have⟨z,os,J,n,l,u⟩:=aE C H;have⟨hn,h1⟩:=z7 J;simp only[xcV]at hn;refine⟨_,o::os,h1,by simp at n⊢;lia,λp hp=> ?_,λvs fr env S w hl a m hc=> ?_⟩
    ·obtain rfl|hp:=xaf.1 hp
     ·have⟨i,j,_⟩:=vq hd;exact⟨_,xbp j⟩
     ·exact l p hp
    have⟨j,A,B⟩:=u vs fr env S w hl a m hc;have⟨hv,b,T⟩:=zj F<|hl x;refine⟨⟨⟨b,hv.trans T⟩,j⟩,A.trans ?_,?_⟩
    ·have hp:=jv (vs:=vs) (fr:=fr) (cx:=cx)<|(ji hn).trans hd;refine(xbL _ hp).trans ?_;refine xcl.trans ?_;show List.Perm _ (mP s.rep.c E (ev env x) _::(YX dom z (xs.map (ev env)++a)++_));rw[hv];exact xdD _
    ·show ev env x::J8 dom (xs.map (ev env)++a)=vs o::os.map vs;rw[hv,B]
   ·cases h
  ·cases h
 |.fn L cod::dom,x::xs,cs,k,h=>by
  simp only[ZR]at h;have⟨f,h,U⟩:=zgv C h;have⟨z,os,h1,n,l,u⟩:=aE C h;refine⟨_,os,h1,by simp at n⊢;lia,l,λvs fr env S w hl a m hc=> ?_⟩;have⟨j,A,B⟩:=u vs fr env S w hl a m hc;refine⟨⟨?_,j⟩,A,B⟩
  cases hv:xD cx σ x with
  |none=>rename_i h0;rw[hv]at h0;simp[asF]at h0
  |some v=>exact U vs S w v _ hv<|zj hv<|hl x
 |[],_::_,_,_,h=>by simp[ZR]at h
 |[],[],_::_,_,h=>by simp[ZR]at h
 |.d _::_,[],_,_,h=>by simp[ZR]at h
 |.own _ _::_,[],_,_,h=>by simp[ZR]at h
 |.var _ _::_,[],_,_,h=>by simp[ZR]at h
 |.fn _ _::_,[],_,_,h=>by simp[ZR]at h
 |.q _::_,[],[],_,h=>by simp[ZR]at h
def gG:N RM->N wN->K->(K->wN)->K->wN
 |[],_,_,vs=>vs
 |.d _::r,us,o,vs=>gG r us.tail o vs
 |.own _ _::r,us,o,vs=>XF (gG r us.tail (o+1) vs) o<|us.headD uT
 |.var _ _::r,us,o,vs=>XF (gG r us.tail (o+1) vs) o<|us.headD uT
def QO:∀{rs:N RM}{us:N wN}{o k:K},k<o->gG rs us o vs k=vs k
 |[],_,_,_,_=>rfl
 |.d _::r,us,o,k,h=>QO (rs:=r) h
 |.own _ _::r,us,o,k,h=>by
  show XF _ o _ k=_;rw[ku h,QO (rs:=r) W]
 |.var _ _::r,us,o,k,h=>by
  show XF _ o _ k=_;rw[ku h,QO (rs:=r) W]
def sB{n o:K}{v:wN}(h:o≠n):XF vs n v o=vs o:=by unfold XF;rw[Yq h];rfl
def Kv:∀{rs:N RM}{x:mH rs}{i o:K},(∀e∈(um rs x i o).2,o<=e.1/\e.1<o+(um rs x i o).2.length)
 |[],_,_,_,e,he=>wS he Nm
 |[.d _],_,_,_,e,he=>wS he Nm
 |[.own _ _],_,_,o,e,he=>by
  obtain rfl:=xag.1 he;exact⟨IR _,xbR _⟩
 |[.var _ _],_,_,o,e,he=>by
  obtain rfl:=xag.1 he;exact⟨IR _,xbR _⟩
 |.d t::n::r,x,i,o,e,he=>Kv (rs:=n::r) (x:=x.2) (i:=i+1) e he
 |.own t E::n::r,x,i,o,e,he=>by
  have he:e∈(o,Od.own t E x.1)::(um (n::r) x.2 (i+1)<|o+1).2:=he;have a:(um (.own t E::n::r) x i o).2.length=(um (n::r) x.2 (i+1)<|o+1).2.length+1:=O;rw[a];obtain rfl|he:=xaf.1 he
  ·exact⟨IR _,by show o<_;lia⟩
  ·have:=Kv (rs:=n::r) (x:=x.2) (i:=i+1) (o:=o+1) e he;lia
 |.var t E::n::r,x,i,o,e,he=>by
  have he:e∈(o,Od.var t E x.1)::(um (n::r) x.2 (i+1)<|o+1).2:=he;have a:(um (.var t E::n::r) x i o).2.length=(um (n::r) x.2 (i+1)<|o+1).2.length+1:=O;rw[a];obtain rfl|he:=xaf.1 he
  ·exact⟨IR _,by show o<_;lia⟩
  ·have:=Kv (rs:=n::r) (x:=x.2) (i:=i+1) (o:=o+1) e he;lia
def ot:∀{rs:N RM}{x:mH rs}{us:N wN}{i o:K},MS (gG rs us o vs) (um rs x i o).2=YH rs x us
 |[],_,_,_,_=>rfl
 |[.d _],_,_,_,_=>rfl
 |[.own t E],x,us,i,o=>by exact ut (λm=>[m])<|KQ (vs:=vs) (xs:=x)
 |[.var t E],x,us,i,o=>by exact ut (λm=>[m])<|HS (vs:=vs) (z:=x)
 |.var t E::n::r,x,us,i,o=>by
  refine List.cons_eq_cons.2 ⟨HS (z:=x.1),?_⟩;exact(wJ (ob:=(um (n::r) x.2 (i+1)<|o+1).2) (vs:=gG (n::r) us.tail (o+1) vs) λe a=>sB (by have:=Kv e a;lia)).trans ot
 |.d t::n::r,x,us,i,o=>by
  show MS (gG (n::r) us.tail o vs) (um (n::r) x.2 (i+1) o).2=YH (n::r) x.2 us.tail;exact ot
 |.own t E::n::r,x,us,i,o=>by
  refine List.cons_eq_cons.2 ⟨KQ (xs:=x.1),?_⟩;exact(wJ (ob:=(um (n::r) x.2 (i+1)<|o+1).2) (vs:=gG (n::r) us.tail (o+1) vs) λe a=>sB (by have:=Kv e a;lia)).trans ot
def dI:∀{rs:N RM}{x:mH rs}{i o:K},∀e∈(um rs x i o).1,∀p,vt e.2=Z p->p<o+(um rs x i o).2.length
 |[],_,_,_,e,he=>wS he Nm
 |[.d _],_,_,_,e,he=>by
  obtain rfl:=xag.1 he;intro p hp;cases hp
 |[.own _ _],_,_,o,e,he=>by
  obtain rfl:=xag.1 he;intro p hp;cases hp;exact xbR _
 |[.var _ _],_,_,o,e,he=>by
  obtain rfl:=xag.1 he;intro p hp;cases hp;exact xbR _
 |.var t E::n::r,x,i,o,e,he=>by
  have a:(um (.var t E::n::r) x i o).2.length=(um (n::r) x.2 (i+1)<|o+1).2.length+1:=O;rw[a];obtain rfl|he:=xaf.1 he
  ·intro p hp;cases hp;lia
  ·intro p hp;have:=dI (rs:=n::r) (x:=x.2) (i:=i+1) (o:=o+1) e he p hp;lia
 |.d t::n::r,x,i,o,e,he=>by
  obtain rfl|he:=xaf.1 he
  ·intro p hp;cases hp
  ·exact dI (rs:=n::r) (x:=x.2) (i:=i+1) e he
 |.own t E::n::r,x,i,o,e,he=>by
  have a:(um (.own t E::n::r) x i o).2.length=(um (n::r) x.2 (i+1)<|o+1).2.length+1:=O;rw[a];obtain rfl|he:=xaf.1 he
  ·intro p hp;cases hp;lia
  ·intro p hp;have:=dI (rs:=n::r) (x:=x.2) (i:=i+1) (o:=o+1) e he p hp;lia
def nA:∀{rs:N RM}{x:mH rs}{i o:K},∀e∈(um rs x i o).1,∀p,vt e.2=Z p->o<=p
 |[],_,_,_,e,he=>wS he Nm
 |[.d _],_,_,_,e,he=>by
  obtain rfl:=xag.1 he;intro p hp;cases hp
 |[.own _ _],_,_,o,e,he=>by
  obtain rfl:=xag.1 he;intro p hp;cases hp;exact IR _
 |[.var _ _],_,_,o,e,he=>by
  obtain rfl:=xag.1 he;intro p hp;cases hp;exact IR _
 |.var t E::n::r,x,i,o,e,he=>by
  obtain rfl|he:=xaf.1 he
  ·intro p hp;cases hp;exact IR _
  ·intro p hp;have:=nA (rs:=n::r) (x:=x.2) (i:=i+1) (o:=o+1) e he p hp;lia
 |.d t::n::r,x,i,o,e,he=>by
  obtain rfl|he:=xaf.1 he
  ·intro p hp;cases hp
  ·exact nA (rs:=n::r) (x:=x.2) (i:=i+1) e he
 |.own t E::n::r,x,i,o,e,he=>by
  obtain rfl|he:=xaf.1 he
  ·intro p hp;cases hp;exact IR _
  ·intro p hp;have:=nA (rs:=n::r) (x:=x.2) (i:=i+1) (o:=o+1) e he p hp;lia
def Ej:∀{rs:N RM}{x:mH rs}{us:N wN}{i o:K}{S:K->Prop},zE S (YL rs x us) w->X us=X rs->∀e∈(um rs x i o).1,∃j u,e.1=i+j/\us[j]? =Z u/\(vI P (gG rs us o vs) e.2 u).p S w
 |[],_,_,_,_,_,_,_,e,he=>wS he Nm
 |[m],_,[],_,_,_,_,hl,_,_=>by cases hl
 |[.d _],x,u::us,i,o,S,h,hl,e,he=>by
  obtain rfl:=xag.1 he;exact⟨0,u,O,O,h.1⟩
 |[.own _ _],x,u::us,i,o,S,h,hl,e,he=>by
  obtain rfl:=xag.1 he;exact⟨0,u,O,O,(wh (vs:=vs)).symm⟩
 |[.var _ _],x,u::us,i,o,S,h,hl,e,he=>by
  obtain rfl:=xag.1 he;have h1:=wh (vs:=vs) (n:=o) (v:=u);exact⟨0,u,O,O,h1.symm,by have⟨b,f⟩:=h.1;exact⟨b,h1.trans f⟩⟩
 |.var t E::n::r,x,u::us,i,o,S,h,hl,e,he=>by
  obtain rfl|he:=xaf.1 he
  ·have h1:=wh (vs:=gG (n::r) us (o+1) vs) (n:=o) (v:=u);exact⟨0,u,O,O,h1.symm,by have⟨b,f⟩:=h.1;exact⟨b,h1.trans f⟩⟩
  ·have⟨j,v,h1,a,c⟩:=Ej (rs:=n::r) (x:=x.2) (i:=i+1) (o:=o+1) h.2 (by simpa using hl) e he;refine⟨j+1,v,W,by simpa using a,?_⟩;have:vI P (gG (.var t E::n::r) (u::us) o vs) e.2 v=vI P (gG (n::r) us (o+1) vs) e.2 v:=ga (λp hp=>sB (by have:=nA (rs:=n::r) (x:=x.2) (i:=i+1) (o:=o+1) e he p hp;lia)) v;rw[this];exact c
 |_::n::r,x,[],_,_,_,_,hl,_,_=>by cases hl
 |.d t::n::r,x,u::us,i,o,S,h,hl,e,he=>by
  obtain rfl|he:=xaf.1 he
  ·exact⟨0,u,O,O,h.1⟩
  ·have⟨j,v,h1,a,c⟩:=Ej (rs:=n::r) (x:=x.2) (i:=i+1) (o:=o) h.2 (by simpa using hl) e he;exact⟨j+1,v,W,by simpa using a,c⟩
 |.own t E::n::r,x,u::us,i,o,S,h,hl,e,he=>by
  obtain rfl|he:=xaf.1 he
  ·exact⟨0,u,O,O,(wh (vs:=gG (n::r) us (o+1) vs)).symm⟩
  ·have⟨j,v,h1,a,c⟩:=Ej (rs:=n::r) (x:=x.2) (i:=i+1) (o:=o+1) h (by simpa using hl) e he;refine⟨j+1,v,W,by simpa using a,?_⟩;have:vI P (gG (.own t E::n::r) (u::us) o vs) e.2 v=vI P (gG (n::r) us (o+1) vs) e.2 v:=ga (λp hp=>sB (by have:=nA (rs:=n::r) (x:=x.2) (i:=i+1) (o:=o+1) e he p hp;lia)) v;rw[this];exact c
def zfK{f:Z4}{a:N wW}:∀{cs:N VM}{s:VM},Sb cx σ f a cs=Z s->s∈cs/\s.f=f
 |c::cs,s,h=>by
  unfold Sb at h;split at h
  ·next b=>
   simp only[xat]at h;subst h;rw[xac]at b;exact⟨H1,zO b.1⟩
  ·have⟨h1,e⟩:=zfK h;exact⟨UV _ h1,e⟩
def zb1{rs:N RM}{x:mH rs}{us:N wN}{o:K}{S:K->Prop}(h:zE S (YL rs x us) w)(hl:X us=X rs):∀e∈(um rs x (bif bH rs then 0 else 1) o).1,(wo P (gG rs us o vs) e.2 (XJ us) e.1).p S w:=by
 intro e c;have⟨j,u,h1,a,b⟩:=Ej (P:=P) (vs:=vs) h hl e c;have⟨i,dv⟩:=e
 match us,hl,a with
 |[],_,a=>simp at a
 |[v],hl,a=>
  obtain rfl:j=0:=by
   obtain _|j:=j
   ·rfl
   ·simp at a
  obtain⟨m,rfl⟩:=xcG.1 hl.symm;simp only[bH,Z2]at h1;simp only[xby,xat]at a;subst h1;subst a;exact b
 |v::f::us,hl,a=>
  have:bH rs=I:=by
   match rs,hl with
   |[],_=>rfl
   |_::_::_,_=>rfl
  rw[this]at h1;simp only[Z3]at h1;obtain rfl:i=j+1:=W
  exact⟨(v::f::us).toArray,u,O,by simpa using a,b⟩
def nB:N RM->N wN->N wN
 |[],_=>[]
 |.d _::r,us=>nB r us.tail
 |.own _ _::r,us=>us.headD uT::nB r us.tail
 |.var _ _::r,us=>us.headD uT::nB r us.tail
def gn:∀{rs:N RM}{x:mH rs}{us:N wN}{i o:K},(um rs x i o).2.map (λe=>gG rs us o vs e.1)=nB rs us
 |[],_,_,_,_=>rfl
 |[.d _],x,us,i,o=>rfl
 |[.own t E],x,us,i,o=>by
  show[XF vs o (us.headD uT) o]=[us.headD uT];rw[wh]
 |[.var t E],x,us,i,o=>by
  show[XF vs o (us.headD uT) o]=[us.headD uT];rw[wh]
 |.var t E::n::r,x,us,i,o=>by
  show XF (gG (n::r) us.tail (o+1) vs) o (us.headD uT) o::(um (n::r) x.2 (i+1)<|o+1).2.map (λe=>gG (.var t E::n::r) us o vs e.1)=us.headD uT::nB (n::r) us.tail;rw[wh,<-gn (rs:=n::r) (x:=x.2) (us:=us.tail) (i:=i+1) (o:=o+1)];congr 1;refine xbZ λe a=> ?_;exact sB (by have:=Kv e a;lia)
 |.d t::n::r,x,us,i,o=>gn (rs:=n::r) (x:=x.2) (us:=us.tail) (i:=i+1) (o:=o)
 |.own t E::n::r,x,us,i,o=>by
  show XF (gG (n::r) us.tail (o+1) vs) o (us.headD uT) o::(um (n::r) x.2 (i+1)<|o+1).2.map (λe=>gG (.own t E::n::r) us o vs e.1)=us.headD uT::nB (n::r) us.tail;rw[wh,<-gn (rs:=n::r) (x:=x.2) (us:=us.tail) (i:=i+1) (o:=o+1)];congr 1;refine xbZ λe a=> ?_;exact sB (by have:=Kv e a;lia)
def Bg:∀{m:K}{rs:N RM}{us:N wN},p9 m rs=wL->X us=X rs->nB rs us=us.drop m
 |0,[],us,_,hl=>by
  obtain rfl:=xbh.1 hl;rfl
 |0,.own _ _::r,[],_,hl=>by cases hl
 |0,.own _ _::r,u::us,h,hl=>by
  show u::nB r us=u::us;rw[Bg (m:=0) (rs:=r) (us:=us) h<|by simpa using hl];rfl
 |0,.var _ _::r,[],_,hl=>by cases hl
 |0,.var _ _::r,u::us,h,hl=>by
  show u::nB r us=u::us;rw[Bg (m:=0) (rs:=r) (us:=us) h<|by simpa using hl];rfl
 |m+1,.d _::r,[],_,hl=>by cases hl
 |m+1,.d _::r,u::us,h,hl=>Bg (m:=m) (rs:=r) (us:=us) h<|by simpa using hl
 |0,.d _::_,_,h,_=>by cases h
 |_+1,[],_,h,_=>by cases h
 |_+1,.own _ _::_,_,h,_=>by cases h
 |_+1,.var _ _::_,_,h,_=>by cases h
def zbv{vs':K->wN}:∀{os:N K}{ob:N (K×Od)},os.map vs'=ob.map (λe=>vs' e.1)->MS vs' (CR os ob)=MS vs' ob
 |[],[],_=>rfl
 |[],_::_,h=>by cases h
 |_::_,[],h=>by cases h
 |o::os,(p,X)::ob,h=>by
  simp only[xbS,xeQ]at h;show JZ vs' (o,X)::MS vs' (CR os ob)=JZ vs' (p,X)::MS vs' ob;rw[zbv h.2];congr 1;cases X<;>simp only[JZ]<;>rw[h.1]
def Oj:∀{os:N K}{ob:N (K×Od)},∀e∈CR os ob,e.1∈os
 |[],_,e,he=>wS he<|by simp[CR]
 |_::_,[],e,he=>wS he<|by simp[CR]
 |o::os,p::ob,e,he=>by
  rcases xaf.1 (show e∈(o,p.2)::CR os ob from he)with rfl|he
  ·exact H1
  ·exact UV _<|Oj e he
def zan{rs:N RM}{x:mH rs}{us:N wN}{o m:K}{S:K->Prop}(h:zE S (YL rs x us) w)(hl:X us=X rs)(z:m<=X us):∀e∈(um rs x (AR m) o).1.filter (λe=>xdd e.1<|AR m+m),(wo P (gG rs us o vs) e.2 (XJ<|us.take m) e.1).p S w:=by
 intro e c;have⟨c,f⟩:=xcg.1 c;have f:e.1<AR m+m:=Nat.blt_eq.mp f;have⟨j,u,h1,n,l⟩:=Ej (P:=P) (vs:=vs) h hl e c;have⟨i,dv⟩:=e;simp only at h1 f;have q:j<m:=W
 have a:(us.take m)[j]? =Z u:=by rw[xcn,iq q];exact n
 have b:X (us.take m)=m:=by rw[xav];lia
 generalize us.take m=vs' at*
 match vs',b,a with
 |[],b,a=>simp at a
 |[v],b,a=>
  obtain rfl:m=1:=b.symm;obtain rfl:j=0:=W
  simp only[xby,xat]at a;obtain rfl:i=0:=h1;subst a;exact l
 |v::s::k,b,a=>
  have:AR m=1:=by
   unfold AR;rw[zeE<|by simp at b;lia];rfl
  rw[this]at h1;obtain rfl:i=j+1:=W
  exact⟨(v::s::k).toArray,u,O,by simpa using a,l⟩
def zl5(Q:∀s∈cf.cs,xt P s){f:wW}{f':Z4}{cs:N PD}{s:VM}{c:uL wW}{ts:uL wT}{k:Sg->V R}(hd:wQ cx d=wL)(u:xD cx σ f=Z (.fn f' cs))
 (hs:Sb cx σ f' c.toList cf.cs=Z s) (h:zgP cf cx σ d s c.toList cs k=Z r):mC P cx ⟨d,.call ⟨.value f,c,ts⟩,ty,pos,aft,g⟩ σ k r:=by
 have⟨h1,D⟩:=zfK hs;have E:=Q s h1;unfold zgP at h;have⟨z,os,h,T,hG,C⟩:=aE Q h;have⟨q,U,h⟩:=r9 h;split at h
 ·next G=>
   refine⟨_,h,xbM _ _,λfr vs env w H=> ?_⟩
   have⟨n,hl⟩:=H
   have⟨S0,_,j⟩:=hl.ex
   have⟨a,hv,A,_⟩:=zj u<|zS j f
   have B:=E.plain G U (vs:=c.toList.map (ev env)++a)<|by simp at T⊢;lia
   have J:(kW (ev env) ⟨d,.call ⟨.value f,c,ts⟩,ty,pos,aft,g⟩).run P w=.ok (.enter f' (c.toList.map (ev env)++a).toArray) w:=by simp[kW,Wt,hv,xdR,V2,kE<|D▸E.1]
   have hn:St fr.we fr.Se (YX s.dom z (c.toList.map (ev env)++a)++OS vs fr cx (qh σ.ob os)) (ZE P s.dom z (c.toList.map (ev env)++a)++GS P vs env fr cx σ) w:=by
    refine St.perm (St.weak hl λS w m=>zE.append ?_ m) (C vs fr env S0 w (zS j) a A ?_).2.1
    ·have⟨i,hc,hi,p⟩:=zj u<|zS m f;rw[hv]at hc;have:a=i:=by simpa using hc
     subst this;exact(C vs fr env S w (zS m) a A p).1
    ·have⟨i,hc,hi,p⟩:=zj u<|zS j f;rw[hv]at hc;have:a=i:=by simpa using hc
     subst this;exact p
   unfold Zj
   rw[J]
   rw[D]at B
   refine(B fr.we fr.Se _ _ w hn).mono ?_
   rintro e w' ⟨us,he,F,K⟩
   refine⟨XJ us,he,?_⟩
   refine Jh (vs:=vs) (vs':=gG s.cod us σ.nx vs) (l:=(um s.cod q (bif bH s.cod then 0 else 1) σ.nx).1) (Γl:=YL s.cod q us) n hd O (xbM _ _) (λo v=>QO v) dI ?_ (λS w m=>zb1 m F) ?_
   ·intro e he
    obtain he|he:=So.1 he
    ·exact(Kv e he).2
    ·exact xah (n.o1 e<|UM e he)<|xbM _ _
   ·have e1:OS (gG s.cod us σ.nx vs) fr cx ((um s.cod q (bif bH s.cod then 0 else 1) σ.nx).2++qh σ.ob os)=YH s.cod q us++OS vs fr cx (qh σ.ob os):=by
     show MS _ (_++_)++(MS _ cx.ob++_)=_;have L:MS (gG s.cod us σ.nx vs) (qh σ.ob os)=MS vs (qh σ.ob os):=wJ λe he=>QO<|n.o1 e<|UM e he;have M:MS (gG s.cod us σ.nx vs) cx.ob=MS vs cx.ob:=wJ λe he=>QO<|n.o2 e he;rw[M,show MS (gG s.cod us σ.nx vs) ((um s.cod q (bif bH s.cod then 0 else 1) σ.nx).2++qh σ.ob os)=MS _ _++MS _ _ from xaY,L,ot,xad]
    rw[e1]
    exact K
 ·next b G=>
   have⟨ht,h⟩:=z7 h
   refine⟨_,h,xbM _ _,λfr vs env w H=> ?_⟩
   have⟨n,hl⟩:=H
   have⟨S0,_,j⟩:=hl.ex
   have⟨a,hv,A,_⟩:=zj u<|zS j f
   have B:=E.2 z q U (c.toList.map (ev env)++a)<|by simp at T⊢;lia
   rw[G]at B
   have J:(kW (ev env) ⟨d,.call ⟨.value f,c,ts⟩,ty,pos,aft,g⟩).run P w=.ok (.enter f' (c.toList.map (ev env)++a).toArray) w:=by simp[kW,Wt,hv,xdR,V2,kE<|D▸E.1]
   have hE:J8 s.dom (c.toList.map (ev env)++a)=os.map vs:=by
    have⟨i,hc,hi,p⟩:=zj u<|zS j f;rw[hv]at hc;have:a=i:=by simpa using hc
    subst this;exact(C vs fr env S0 w (zS j) a A p).2.2
   have hn:St fr.we fr.Se (YX s.dom z (c.toList.map (ev env)++a)++OS vs fr cx (qh σ.ob os)) (ZE P s.dom z (c.toList.map (ev env)++a)++GS P vs env fr cx σ) w:=by
    refine St.perm (St.weak hl λS w m=>zE.append ?_ m) (C vs fr env S0 w (zS j) a A ?_).2.1
    ·have⟨i,hc,hi,p⟩:=zj u<|zS m f;rw[hv]at hc;have:a=i:=by simpa using hc
     subst this;exact(C vs fr env S w (zS m) a A p).1
    ·have⟨i,hc,hi,p⟩:=zj u<|zS j f;rw[hv]at hc;have:a=i:=by simpa using hc
     subst this;exact p
   unfold Zj
   rw[J]
   rw[D]at B
   refine(B fr.we fr.Se _ _ w hn).mono ?_
   rintro e w' ⟨us,he,⟨F,hD⟩,K⟩
   refine⟨XJ<|us.take<|lM s.cod-(b+1),he,?_⟩
   have hp:∀o,o<σ.nx->gG s.cod us σ.nx vs o=vs o:=λo v=>QO v
   have Y:∀o∈os,o<σ.nx:=λo v=>by
    have⟨X,hX⟩:=hG o v;exact n.o1 _ hX
   have hH:MS (gG s.cod us σ.nx vs) (CR os (um s.cod q (AR<|lM s.cod-(b+1)) σ.nx).2)=YH s.cod q us:=by
    rw[zbv,ot];rw[gn,Bg ht F,hD,hE];exact xbZ λo v=>hp o<|Y o v
   refine Jh (vs:=vs) (vs':=gG s.cod us σ.nx vs) (l:=(um s.cod q (AR<|lM s.cod-(b+1)) σ.nx).1.filter λe=>xdd e.1<|AR (lM s.cod-(b+1))+(lM s.cod-(b+1))) (Γl:=YL s.cod q us) n hd O (xbM _ _) hp (λe he=>dI e (xcg.1 he).1) ?_ (λS w m=>zan m F W) ?_
   ·intro e he
    obtain he|he:=So.1 he
    ·exact xah (Y _<|Oj e he)<|xbM _ _
    ·exact xah (n.o1 e<|UM e he)<|xbM _ _
   ·have e1:OS (gG s.cod us σ.nx vs) fr cx (CR os (um s.cod q (AR<|lM s.cod-(b+1)) σ.nx).2++qh σ.ob os)=YH s.cod q us++OS vs fr cx (qh σ.ob os):=by
     show MS _ (_++_)++(MS _ cx.ob++_)=_;have L:MS (gG s.cod us σ.nx vs) (qh σ.ob os)=MS vs (qh σ.ob os):=wJ λe he=>QO<|n.o1 e<|UM e he;have M:MS (gG s.cod us σ.nx vs) cx.ob=MS vs cx.ob:=wJ λe he=>QO<|n.o2 e he;rw[M,show MS (gG s.cod us σ.nx vs) (CR os (um s.cod q (AR<|lM s.cod-(b+1)) σ.nx).2++qh σ.ob os)=MS _ _++MS _ _ from xaY,L,hH,xad]
    rw[e1]
    exact K
end
end
end Go.Proofs.YtoegnnjcmlghhaaGreat
