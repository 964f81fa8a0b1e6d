/- What a proof needs: rules of walking, mirrors of functions and their plain laws. No condition. -/
import Derived.Test.YtdpdofimolhigaaGreatZa1
import Derived.WideKeyArgs
import Derived.Laws.IdiomStrings
set_option linter.all false
namespace Go.Proofs.YtdpdofimolhigaaGreat
open Bool renaming true->I,false->yL
open Go renaming Value->xn,World->xN,TypeId->wn,Operand->wr,Program->ww,execOp->wD,run_underlying->wE,undef->wR,Oper->wT,FuncId->vi,Tmp->vn,IntKind->vu,Code->vP,resolve->vS,ResultVar->qc,sizeOf->qo,maxLen->qs,invoke->qR,BinOp->qS,eqGuard->qZ,asIntOf->jp,Func->jP,Addr->kG,MemPlace->kW,builtin->ut,Calls->uL,goInt->Z7,DataW->Yd
open Go.Proofs.YtdpdofimolhigaaGreat renaming Zr->G,bd->Y,za->U,nm->B,ze->Q,zf->E,iq->S
open List renaming length->X,length->Wl
open Option renaming some->Z,none->yD
open _root_ renaming rfl->O,List->N,Int->J,Nat->K,Option->V,List->zC,Nat->zV,Option->z7,trivial->xS,absurd->wl,Bool->ws,congrArg->wF,Array->wL,if_true->wN,if_false->wP,Unit->wW,True->vF,cond_false->vH,ByteArray->vI,cond_true->vL,Decidable->vU,reduceCtorEq->vW,False->jN,decide_eq_true_eq->kR
open Bool renaming and_eq_true->Th,false_eq_true->xaj
open Call renaming operands->xem
open DataW renaming TrodAll->xeD
open Extern renaming find->xeJ,findNext->xex
open Extern.MathBitsCarry renaming m64->xba,pair->xcq,three->xbE
open Instr renaming fill->xdu,slice->xfC,sliceAt->xcS,sliceBound->xeo,sliceBounds->xed
open Int renaming eq_ofNat_of_zero_le->xat,fdiv->xfF,natCast_nonneg->xdd,tdiv->xbQ,tmod->xbn,toNat_natCast->xaJ,toNat_of_nonneg->xcV
open IntKind renaming i64->xcO,u8->xfK
open List renaming all_eq_true->xaS,append_assoc->xal,append_nil->xbN,drop->xdD,getD->xer,getD_eq_getElem?_getD->Yh,getElem?_append_left->xbb,getElem?_append_right->xbv,getElem?_eq_getElem->xaa,getElem?_eq_some_iff->xav,getElem?_map->xbZ,getElem_mem->xbx,length->xaD,length_append->xak,length_cons->xar,length_eq_one_iff->xdi,length_eq_zero_iff->xbs,length_map->xaV,length_replicate->xaR,length_set->xbz,length_take->xap,map_congr_left->xce,map_cons->xch,map_map->xcP,mem_append->pN,mem_cons->PQ,mem_cons_of_mem->kE,mem_cons_self->Qh,mem_filter->xcf,mem_filterMap->xeS,mem_map->xan,mem_singleton->xab,nil_append->xbF,not_mem_nil->QT,range->xaE,range'->xfd,replicate->sR,set->xfL,set_cons_succ->xeR,set_getElem_self->xcW,take->xdo,take_append_drop->xbw,take_of_length_le->xaQ
open List.cons renaming injEq->xey
open Nat renaming add_assoc->xcL,add_mul->xaT,beq->xad,ble->xfI,blt->xcU,eq_of_beq_eq_true->xdn,eq_zero_or_pos->xcb,le_of_ble_eq_true->xbW,le_of_lt->xdp,le_refl->eZ,le_succ->xbG,le_trans->PX,lt_of_le_of_lt->xaG,lt_of_lt_of_le->xah,lt_or_ge->xbO,mod_lt->xaI,not_lt_zero->xbf,zero_add->xaF,zero_le->sB,zero_mul->xcs
open Op renaming operands->xaz
open Oper renaming looksAt->xbr
open Option.some renaming inj->xdc,injEq->xao
open Prod.mk renaming injEq->xcZ
open Result renaming andThen_ok->xai
open Sem renaming run_bind->xau,run_pure->xaO
open Sum renaming elim->xfj
open UInt8 renaming ofNat->xeK
open Value renaming okWide->xei
open _root_.Array renaming getElem?_eq_some_iff->xbd
section
structure QY where
 f:vi
 dom:N AM
 cod:N RM
 M:pK dom->V (CZ cod)
 bk:K
structure N5 where
 f:vi
 t:Ty
 E:wn
 E1:wn
 M:N (N t.D)->N K->K->J->J->K->K->V (N<|N t.D)
structure zgn where
 f:vi
 dom:N Ty
 g:vi
 mc:C4 dom->N PD
structure TZ where
 f:vi
 dom:N AM
 t:Ty
 E:wn
 M:pK dom->{X Y:Type}->(N t.D->X->V (N t.D×(X⊕Y)))->X->V (X⊕Y)
structure Cf where
 tt:N (K×TI)
 cs:N QY
 an:An
 fu:K
 ex:N (K×ws)
 ms:N N5:=[]
 cl:N zgn:=[]
 is:N TZ:=[]
def zoJ:N N5->vi->V N5
 |[],_=>yD
 |s::r,f=>bif xad s.f f then Z s else zoJ r f
def zoZ:N zgn->vi->V zgn
 |[],_=>yD
 |s::r,f=>bif xad s.f f then Z s else zoZ r f
def zra:N TZ->vi->V TZ
 |[],_=>yD
 |s::r,f=>bif xad s.f f then Z s else zra r f
abbrev kS{R:Type}(b:ws)(x:V R):V R:=match b with
 |true=>x
 |false=>yD
abbrev cnd{R:Type}(b:ws)(x y:V R):V R:=match b with
 |true=>x
 |false=>y
def Sw:N AM->ws
 |[]=>I
 |.own _ _::_=>yL
 |.var _ _::_=>yL
 |_::r=>Sw r
def noV:N RM->ws
 |[]=>I
 |.var _ _::_=>yL
 |_::r=>noV r
def zbH:N QY->vi->V QY
 |[],_=>yD
 |s::r,f=>bif xad s.f f && (Sw s.dom && (xad s.bk 0 && noV s.cod))then Z s else zbH r f
section
variable{R:Type}(cf:Cf)(cx:Sg)
def zrg:Dv->V PD
 |.d t x=>Z ⟨t,x⟩
 |.kb b=>Z ⟨.b,b⟩
 |_=>yD
def Nt(v:V Dv)(t:Ty)(k:t.D->V R):V R:=match v with
 |some .nil=>(match t,k with
  |.l s,k=>k ([]:N s.D)
  |_,_=>yD)
 |some .np=>(match t,k with
  |.po s,k=>k (yD:V s.D)
  |_,_=>yD)
 |some (.q s y)=>(match t,k with
  |.po a,k=>Ty.cast s a y λy=>k (Z y:V a.D)
  |_,_=>yD)
 |some v=>(match zrg v with
  |some p=>Ty.cast p.t t p.x k
  |none=>yD)
 |none=>yD
def arI(b:qS)(a c:J)(k:Dv->V R):V R:=match b with
 |.add=>E (a+c) λx=>k (.d .i x)
 |.sub=>E (a-c) λx=>k (.d .i x)
 |.mul=>E (a*c) λx=>k (.d .i x)
 |.quo=>ck (c≠0)<|E (xbQ a c) λx=>k (.d .i x)
 |.rem=>ck (c≠0)<|B (xbn a c) λx=>k (.d .i x)
 |.and=>B (ziI a c) λx=>k (.d .i x)
 |.or=>B (orI a c) λx=>k (.d .i x)
 |.shr=>ck (0<=c)<|B (xfF a<|2^(min c.toNat 64)) λx=>k (.d .i x)
 |.shl=>ck (0<=c)<|E (a*2^(min c.toNat 64)) λx=>k (.d .i x)
 |.lss=>if a<c then k (.kb I)else k (.kb yL)
 |.leq=>if a<=c then k (.kb I)else k (.kb yL)
 |.gtr=>if c<a then k (.kb I)else k (.kb yL)
 |.geq=>if c<=a then k (.kb I)else k (.kb yL)
 |.eql=>if a=c then k (.kb I)else k (.kb yL)
 |.neq=>if a=c then k (.kb yL)else k (.kb I)
 |_=>yD
def arU(b:qS)(a c:K)(k:Dv->V R):V R:=match b with
 |.add=>B ((a+c)%18446744073709551616) λx=>k (.d .u x)
 |.sub=>B ((a+18446744073709551616-c)%18446744073709551616) λx=>k (.d .u x)
 |.mul=>B ((a*c)%18446744073709551616) λx=>k (.d .u x)
 |.quo=>ck (c≠0)<|B (a/c) λx=>k (.d .u x)
 |.rem=>ck (c≠0)<|B (a%c) λx=>k (.d .u x)
 |.and=>B (a &&& c) λx=>k (.d .u x)
 |.or=>B (a|||c) λx=>k (.d .u x)
 |.lss=>if(a:J)<(c:J)then k (.kb I)else k (.kb yL)
 |.leq=>if(a:J)<=(c:J)then k (.kb I)else k (.kb yL)
 |.gtr=>if(c:J)<(a:J)then k (.kb I)else k (.kb yL)
 |.geq=>if(c:J)<=(a:J)then k (.kb I)else k (.kb yL)
 |.eql=>if(a:J)=(c:J)then k (.kb I)else k (.kb yL)
 |.neq=>if(a:J)=(c:J)then k (.kb yL)else k (.kb I)
 |_=>yD
def arC(b:qS)(a c:K)(k:Dv->V R):V R:=match b with
 |.add=>B ((a+c)%256) λx=>k (.d .ch x)
 |.sub=>B ((a+256-c)%256) λx=>k (.d .ch x)
 |.lss=>if(a:J)<(c:J)then k (.kb I)else k (.kb yL)
 |.leq=>if(a:J)<=(c:J)then k (.kb I)else k (.kb yL)
 |.gtr=>if(c:J)<(a:J)then k (.kb I)else k (.kb yL)
 |.geq=>if(c:J)<=(a:J)then k (.kb I)else k (.kb yL)
 |.eql=>if(a:J)=(c:J)then k (.kb I)else k (.kb yL)
 |.neq=>if(a:J)=(c:J)then k (.kb yL)else k (.kb I)
 |_=>yD
def eqT(b:qS)(a c:N K)(k:Dv->V R):V R:=match b with
 |.add=>ck (X a+X c<=9223372036854775807)<|B (a++c) λx=>k (.d .tx x)
 |.eql=>if a=c then k (.kb I)else k (.kb yL)
 |.neq=>if a=c then k (.kb yL)else k (.kb I)
 |_=>yD
def shU(b:qS)(a:K)(c:J)(k:Dv->V R):V R:=match b with
 |.shr=>ck (0<=c)<|B (a/2^(min c.toNat 64)) λx=>k (.d .u x)
 |.shl=>ck (0<=c)<|B (a*2^(min c.toNat 64)%18446744073709551616) λx=>k (.d .u x)
 |_=>yD
def zlE(b:qS)(a c:K)(k:Dv->V R):V R:=match b with
 |.shr=>B (a/2^(min (c:J).toNat 64)) λx=>k (.d .u x)
 |.shl=>B (a*2^(min (c:J).toNat 64)%18446744073709551616) λx=>k (.d .u x)
 |_=>yD
def shI(b:qS)(a:J)(c:K)(k:Dv->V R):V R:=match b with
 |.shr=>B (xfF a<|2^(min (c:J).toNat 64)) λx=>k (.d .i x)
 |.shl=>E (a*2^(min (c:J).toNat 64)) λx=>k (.d .i x)
 |_=>yD
def eqB(e:qS)(a c:ws)(k:Dv->V R):V R:=match e with
 |.eql=>B (a==c) λx=>k (.d .b x)
 |.neq=>B (!(a==c)) λx=>k (.d .b x)
 |_=>yD
def zlq(a:qS)(b:ws)(k:Dv->V R):V R:=match a with
 |.eql=>if b=I then k (.kb I)else k (.kb yL)
 |.neq=>if b=I then k (.kb yL)else k (.kb I)
 |_=>yD
def eqP(a:qS)(x:V Dv)(k:Dv->V R):V R:=match x with
 |some .np=>zlq a I k
 |some (.q _ _)=>zlq a yL k
 |some (.vs _ _)=>zlq a yL k
 |some (.d (.po s) y)=>zlq a (Option.isNone (α:=s.D) y) k
 |_=>yD
def zrQ:V Dv->ws
 |some .np=>I
 |_=>yL
def ztU(d:ws)(bo:qS)(x y:V PD)(k:Dv->V R):V R:=match x,y with
 |some ⟨.i,a⟩,Z ⟨.i,c⟩=>arI bo a c k
 |some ⟨.u,a⟩,Z ⟨.u,c⟩=>(match bo with
  |.shr=>zlE .shr a c k
  |.shl=>zlE .shl a c k
  |bo=>arU bo a c k)
 |some ⟨.u,a⟩,Z ⟨.i,c⟩=>shU bo a c k
 |some ⟨.i,a⟩,Z ⟨.u,c⟩=>shI bo a c k
 |some ⟨.b,a⟩,Z ⟨.b,c⟩=>kS d<|eqB bo a c k
 |some ⟨.ch,a⟩,Z ⟨.ch,c⟩=>arC bo a c k
 |some ⟨.tx,a⟩,Z ⟨.tx,c⟩=>eqT bo a c k
 |_,_=>yD
def chI(a:K):Dv:=.d .i (a:J)
def chU(a:K)(k:Dv->V R):V R:=B (a%256) λx=>k (.d .ch x)
def zvP(b:TK)(x:V PD)(k:Dv->V R):V R:=match b,x with
 |.int .i64,Z ⟨.i,a⟩=>k (.d .i a)
 |.int .u64,Z ⟨.u,a⟩=>k (.d .u a)
 |.int .u64,Z ⟨.i,a⟩=>B (NY a) λx=>k (.d .u x)
 |.int .i64,Z ⟨.u,a⟩=>B (sgn a) λx=>k (.d .i x)
 |.int .i64,Z ⟨.ch,a⟩=>k<|chI a
 |.int .u64,Z ⟨.ch,a⟩=>k (.d .u a)
 |.int .u8,Z ⟨.ch,a⟩=>k (.d .ch a)
 |.int .u8,Z ⟨.u,a⟩=>chU a k
 |_,_=>yD
def pd(σ:Sg)(x:wr):V PD:=match xT cx σ x with
 |some v=>zrg v
 |none=>yD
def Xo(t:wn):V TI:=gI cf.tt t
def isB(t:wn):ws:=match Xo cf t with
 |some ⟨_,.bool,_⟩=>I
 |_=>yL
def zrb(t:wn):ws:=match Xo cf t with
 |some ⟨_,.pt _,_⟩=>I
 |_=>yL
def zuV(σ:Sg)(x:wr)(k:N (K×Dv)->V R):V R:=match xT cx σ x with
 |some (.q t y)=>k [(0,.q t y)]
 |some (.vs o t)=>k [(0,.vs o t)]
 |some (.d (.po t) y)=>Y (β:=t.D) y λy=>k [(0,.q t y)]
 |_=>yD
def ifB(x:ws)(a c:V R):V R:=if x=I then a else c
def eqI(x y:J):ws:=decide<|x=y
def eqU(x y:K):ws:=decide<|x=y
def ngI(a:J)(k:Dv->V R):V R:=B (ng a) λx=>k (.d .i x)
def ngU(a:K)(k:Dv->V R):V R:=B ((18446744073709551616-a)%18446744073709551616) λx=>k (.d .u x)
def zvN{α:Type}(xs ys:N α)(B:K)(k:N α->V R):V R:=ck ((X xs+X ys)*B<=140737488355328)<|nm (xs++ys) k
def zyI{α:Type}(xs:N α)(n:K)(z:α)(B:K)(k:N α->V R):V R:=ck ((X xs+n)*B<=140737488355328)<|nm (xs++sR n z) k
def ixU(j:K)(n:K)(k:K->V R):V R:=zH (j:J) n k
def zjT:wr->wr->ws
 |.tmp s,.tmp t=>xad s t
 |.const (.int .i64 x),.const (.int .i64 y)=>eqI x y
 |_,_=>yL
def exU(b:ws)(x y z:K)(k:N (K×Dv)->V R):V R:=
 ck (z<=1)<|cnd b (B ((x+y+z)%18446744073709551616) λp=>B ((x+y+z)/18446744073709551616) λq=>k [(1,.d .u p),(2,.d .u q)])
  (B ((x+18446744073709551616-y-z)%18446744073709551616) λp=>B (if x<y+z then(1:K)else 0) λq=>k [(1,.d .u p),(2,.d .u q)])
def exD(b:ws)(x y z:V PD)(k:N (K×Dv)->V R):V R:=match x,y,z with
 |some ⟨.u,x⟩,Z ⟨.u,y⟩,Z ⟨.u,z⟩=>exU b x y z k
 |_,_,_=>yD
def parts(σ:Sg):(ts:N Ty)->N (K×wr)->K->(C4 ts->V R)->V R
 |[],[],_,k=>k ()
 |t::ts,(i,x)::r,j,k=>kS (xad i j)<|Nt (xT cx σ x) t λy=>parts σ ts r (j+1) λys=>k (y,ys)
 |_,_,_,_=>yD
def zly:(k:K)->Ty->N Ty
 |0,_=>[]
 |1,t=>[t]
 |k+2,.p s t=>s::zly (k+1) t
 |_,_=>[]
def p9:(k:K)->(t:Ty)->C4 (zly k t)->V t.D
 |0,_,_=>yD
 |1,t,x=>Z x.1
 |k+2,.p s t,x=>match p9 (k+1) t x.2 with
  |some y=>Z (x.1,y)
  |none=>yD
 |_+2,.i,_=>yD
 |_+2,.u,_=>yD
 |_+2,.b,_=>yD
 |_+2,.l _,_=>yD
 |_+2,.a _ _,_=>yD
 |_+2,.ch,_=>yD
 |_+2,.tx,_=>yD
 |_+2,.po _,_=>yD
 |_+2,.w1 _,_=>yD
def Tw:K->Ty->N Ty
 |0,_=>[]
 |n+1,t=>t::Tw n t
def Pq:(n:K)->(t:Ty)->C4 (Tw n t)->N t.D
 |0,_,_=>[]
 |n+1,t,x=>x.1::Pq n t x.2
def iG(σ:Sg):N wr->V (N PD)
 |[]=>Z []
 |x::r=>match xT cx σ x,iG σ r with
  |some (.q t y),Z l=>Z (⟨t,y⟩::l)
  |_,_=>yD
def nh:(a:N AM)->N PD->V (pK a)
 |[],[]=>Z ()
 |.q t::r,c::cs=>Ty.cast c.t t c.x λy=>match nh r cs with
  |some z=>Z (y,z)
  |none=>yD
 |_,_=>yD
def zco:(full:N AM)->(dom:N Ty)->C4 dom->N PD->V (pK full)
 |full,[],_,cs=>nh full cs
 |.d t::r,s::dom,x,cs=>Ty.cast s t x.1 λy=>match zco r dom x.2 cs with
  |some z=>Z (y,z)
  |none=>yD
 |_,_::_,_,_=>yD
def zct:(s t:N Ty)->V (PLift<|s=t)
 |[],[]=>Z ⟨O⟩
 |s::a,t::ts=>match Ty.same s t,zct a ts with
  |some ⟨h⟩,Z ⟨b⟩=>Z ⟨h▸b▸O⟩
  |_,_=>yD
 |_,_=>yD
def RM.D_ty:∀r:RM,r.D=r.ty.D
 |.d _=>rfl
 |.own _ _=>rfl
 |.var _ _=>rfl
def Qq:∀rs:N RM,CZ rs=CsD (rs.map RM.ty)
 |[]=>rfl
 |[m]=>RM.D_ty m
 |m::n::r=>by show(m.D×CZ (n::r))=(m.ty.D×CsD ((n::r).map RM.ty));rw[RM.D_ty m,Qq (n::r)]
def asF(σ:Sg)(v:V Dv)(dom cod:N Ty)(k:(C4 dom->V (CsD cod))->V R):V R:=match v with
 |some (.fn f c)=>(match zbH cf.cs f with
  |some s=>(match zct (s.cod.map RM.ty) cod with
   |some ⟨h⟩=>k λx=>match zco s.dom dom x c with
    |some y=>((Qq s.cod).trans<|wF CsD h)▸s.M y
    |none=>yD
   |none=>yD)
  |none=>yD)
 |some (.fp d c g)=>(match zct d dom,zct c cod with
  |some ⟨h⟩,Z ⟨a⟩=>k<|h▸a▸g
  |_,_=>yD)
 |_=>yD
def KM(σ:Sg):(dom:N AM)->N wr->N PD->(pK dom->V R)->V R
 |[],[],[],k=>k ()
 |.q t::r,[],c::cs,k=>Ty.cast c.t t c.x λy=>KM σ r [] cs λz=>k (y,z)
 |.d t::r,x::xs,cs,k=>Nt (xT cx σ x) t λy=>KM σ r xs cs λz=>k (y,z)
 |.q t::r,x::xs,cs,k=>(match xT cx σ x with
  |some (.q s y)=>Ty.cast s t y λy=>KM σ r xs cs λz=>k (y,z)
  |_=>yD)
 |.fn dom cod::r,x::xs,cs,k=>asF cf σ (xT cx σ x) dom cod λg=>KM σ r xs cs λz=>k (g,z)
 |_,_,_,_=>yD
def ziK:(rs:N RM)->CZ rs->K->N (K×Dv)
 |[],_,_=>[]
 |[.d t],x,i=>[(i,.d t x)]
 |[.own t _],x,i=>[(i,.d (.l t) x)]
 |[.var t _],x,i=>[(i,.d t x)]
 |.d t::r::rs,x,i=>(i,.d t x.1)::ziK (r::rs) x.2 (i+1)
 |.own t _::r::rs,x,i=>(i,.d (.l t) x.1)::ziK (r::rs) x.2 (i+1)
 |.var t _::r::rs,x,i=>(i,.d t x.1)::ziK (r::rs) x.2 (i+1)
def iZ:N RM->ws
 |[_]=>I
 |_=>yL
def zqy(rs:N RM)(x:CZ rs):N (K×Dv):=ziK rs x<|bif iZ rs then 0 else 1
def zbG(σ:Sg):(dom:N Ty)->N wr->(C4 dom->V R)->V R
 |[],[],k=>k ()
 |t::r,x::xs,k=>Nt (xT cx σ x) t λy=>zbG σ r xs λz=>k (y,z)
 |_,_,_=>yD
def zoq:(cod:N Ty)->CsD cod->K->N (K×Dv)
 |[],_,_=>[]
 |[t],x,i=>[(i,.d t x)]
 |t::s::r,x,i=>(i,.d t x.1)::zoq (s::r) x.2 (i+1)
def zrR:N Ty->ws
 |[_]=>I
 |_=>yL
def zsE(σ:Sg)(v:V Dv)(k:PD->V R):V R:=match v with
 |some (.q t x)=>k ⟨t,x⟩
 |some (.vs o _)=>(match JE cx σ o with
  |some (.var t _ z)=>k ⟨t,z⟩
  |_=>yD)
 |some (.vp o t f)=>(match JE cx σ o with
  |some (.var a _ z)=>Ty.cast a t z λz=>k ⟨f.f,f.get z⟩
  |_=>yD)
 |some (.ep o t j f)=>(match JE cx σ o with
  |some (.own a _ xs)=>Ty.cast (.l a) (.l t) xs λxs=>B (f.get<|xer xs j t.z) λy=>k ⟨f.f,y⟩
  |_=>yD)
 |_=>yD
def atI(σ:Sg)(x:wr)(n:K)(k:K->V R):V R:=match pd cx σ x with
 |some ⟨.i,j⟩=>zH j n k
 |some ⟨.u,j⟩=>ixU j n k
 |_=>yD
def bnd(σ:Sg)(x:V wr)(k:V K->V R):V R:=match x with
 |none=>k yD
 |some x=>match pd cx σ x with
  |some ⟨.i,j⟩=>uC j λj=>k<|some j
  |_=>yD
def zvl{α:Type}(xs:N α)(lo hi:V K)(k:N α->V R):V R:=match lo,hi with
 |none,Z h=>ck (h<=X xs)<|B (xs.take h) k
 |some l,yD=>ck (l<=X xs)<|B (xs.drop l) k
 |some l,Z h=>ck (l<=h/\h<=X xs)<|B ((xs.drop l).take<|h-l) k
 |none,yD=>k xs
def zrn(m:K)(lo hi:V K)(k:K->K->V R):V R:=match lo,hi with
 |none,Z h=>ck (h<=m)<|k 0 h
 |some l,yD=>ck (l<=m)<|k l (m-l)
 |some l,Z h=>ck (l<=h/\h<=m)<|k l (h-l)
 |none,yD=>k 0 m
def zqw(σ:Sg)(t:K):K->K->N (K×Dv)
 |0,_=>[]
 |f+1,i=>match get cx σ t i with
  |some d=>(i,d)::zqw σ t f (i+1)
  |none=>[]
def zxt(σ:Sg)(x:wr)(k:N (K×Dv)->V R):V R:=match x with
 |.tmp t=>(match zqw cx σ t 12 1 with
  |[]=>yD
  |l=>k l)
 |_=>yD
def zj3(σ:Sg)(x:wr)(k:N (K×Dv)->V R):V R:=match xT cx σ x with
 |some v=>k [(0,v)]
 |none=>zxt cx σ x k
def zuc(σ:Sg)(x:wr)(i:K)(k:N (K×Dv)->V R):V R:=match x with
 |.tmp t=>(match get cx σ t (i+1)with
  |some v=>k [(0,v)]
  |none=>yD)
 |_=>yD
def zqj(σ:Sg)(x:wr)(k:N (K×Dv)->V R):V R:=match xT cx σ x with
 |some v=>k [(0,v)]
 |none=>yD
def zpj(σ:Sg)(c x y:wr)(k:N (K×Dv)->V R):V R:=match xT cx σ c with
 |some (.kb I)=>zqj cx σ x k
 |some (.kb yL)=>zqj cx σ y k
 |_=>yD
def zx7(b:ws):Dv:=.d .b<|not b
def ztS(σ:Sg)(x:wr)(k:N (K×Dv)->V R):V R:=match xT cx σ x with
 |some (.kb b)=>k [(0,.kb !b)]
 |some (.d .b b)=>k [(0,zx7 b)]
 |_=>yD
def zt3(σ:Sg)(x:wr)(k:N (K×Dv)->V R):V R:=match pd cx σ x with
 |some ⟨.i,a⟩=>ngI a λv=>k [(0,v)]
 |some ⟨.u,a⟩=>ngU a λv=>k [(0,v)]
 |_=>yD
def txD(xs:N K):Dv:=.d .tx xs
def zvr(σ:Sg)(s t:wn)(x:wr)(k:N (K×Dv)->V R):V R:=match Xo cf s,Xo cf t with
 |some ⟨_,.int _,_⟩,Z a=>zvP a.k (pd cx σ x) λv=>k [(0,v)]
 |some ⟨.l .ch,.sl E,_⟩,Z ⟨_,.str,_⟩=>(match Xo cf E with
  |some ⟨_,.int .u8,_⟩=>Nt (xT cx σ x) (.l .ch) λxs=>k [(0,txD xs)]
  |_=>yD)
 |_,_=>yD
def elA(E:wn)(e:Ty):ws:=match Xo cf E with
 |some a=>(Ty.same a.ty e).isSome
 |none=>yL
def zxo(n:K)(e:Ty)(j:K):Fl (Ty.a n e).D:=⟨j*e.n,e,λz=>xer z j e.z,λy z=>xfL z j y⟩
def zgZ(σ:Sg)(t:wn)(x i:wr)(k:N (K×Dv)->V R):V R:=match Xo cf t,xT cx σ x with
 |some ⟨.l e,.sl _,_⟩,Z (.d (.l s) xs)=>Ty.cast (.l s) (.l e) xs λxs=>atI cx σ i (xaD xs) λj=>B (xer xs j e.z) λy=>k [(0,.q e y)]
 |some ⟨.l e,.sl _,_⟩,Z (.ow o)=>(match JE cx σ o with
  |some (.own s _ xs)=>Ty.cast (.l s) (.l e) xs λxs=>atI cx σ i (xaD xs) λj=>k [(0,.ep o e j<|Fl.self e)]
  |_=>yD)
 |some ⟨_,.ar b E,_⟩,Z (.q (.a n e) x)=>kS (xad b n && elA cf E e)<|atI cx σ i n λj=>B (xer x j e.z) λy=>k [(0,.q e y)]
 |some ⟨_,.ar b E,_⟩,Z (.vs o (.a n e))=>kS (xad b n && elA cf E e)<|atI cx σ i n λj=>k [(0,.vp o (.a n e)<|zxo n e j)]
 |_,_=>yD
def ziL(σ:Sg)(t:wn)(x:wr)(i:K)(k:N (K×Dv)->V R):V R:=match Xo cf t,xT cx σ x with
 |some ⟨e,.st n,_⟩,Z (.q s y)=>Ty.cast s e y λy=>(match xy n e i with
  |some f=>k [(0,.q f.f<|f.get y)]
  |none=>yD)
 |some ⟨e,.st n,_⟩,Z (.vs o s)=>(match Ty.same s e,xy n s i with
  |some _,Z f=>k [(0,.vp o s f)]
  |_,_=>yD)
 |some ⟨e,.st n,_⟩,Z (.vp o s g)=>(match Ty.same g.f e,xy n g.f i with
  |some _,Z f=>k [(0,.vp o s<|g.comp f)]
  |_,_=>yD)
 |some ⟨e,.st n,_⟩,Z (.ep o s j g)=>(match Ty.same g.f e,xy n g.f i with
  |some _,Z f=>k [(0,.ep o s j<|g.comp f)]
  |_,_=>yD)
 |_,_=>yD
def zd9(σ:Sg)(t:wn)(x:wr)(i:K)(k:N (K×Dv)->V R):V R:=match Xo cf t,xT cx σ x with
 |some ⟨e,.st n,_⟩,Z (.d s y)=>Ty.cast s e y λy=>(match xy n e i with
  |some f=>k [(0,.d f.f<|f.get y)]
  |none=>yD)
 |_,_=>yD
def zpa(σ:Sg)(t:wn)(x:wr)(k:N (K×Dv)->V R):V R:=match Xo cf t with
 |some a=>zsE cx σ (xT cx σ x) λp=>Ty.cast p.t a.ty p.x λy=>k [(0,.d a.ty y)]
 |none=>yD
def zix(σ:Sg)(t:wn)(x:wr)(lo hi:V wr)(k:N (K×Dv)->V R):V R:=match Xo cf t,xT cx σ x with
 |some ⟨.l e,.sl _,_⟩,Z (.d (.l s) xs)=>Ty.cast (.l s) (.l e) xs λxs=>bnd cx σ lo λlo=>bnd cx σ hi λhi=>zvl (α:=e.D) xs lo hi λys=>k [(0,.d (.l e) ys)]
 |some ⟨.l e,.sl _,_⟩,Z (.ow o)=>(match JE cx σ o with
  |some (.own s _ xs)=>Ty.cast (.l s) (.l e) xs λxs=>bnd cx σ lo λlo=>bnd cx σ hi λhi=>zrn (xaD xs) lo hi λl n=>k [(0,.sv o e l n)]
  |_=>yD)
 |some ⟨_,.str,_⟩,Z (.d .tx xs)=>bnd cx σ lo λlo=>bnd cx σ hi λhi=>zvl (α:=K) xs lo hi λys=>k [(0,.d .tx ys)]
 |_,_=>yD
def zvc(σ:Sg)(t:wn)(x i:wr)(k:N (K×Dv)->V R):V R:=match Xo cf t,xT cx σ x with
 |some ⟨_,.str,_⟩,Z (.d .tx xs)=>atI cx σ i (xaD (α:=K) xs) λj=>B (xer (α:=K) xs j 0) λy=>k [(0,.d .ch y)]
 |_,_=>yD
def zt6(σ:Sg)(E:wn)(x:wr)(k:N (K×Dv)->V R):V R:=match Xo cf E with
 |some a=>Nt (xT cx σ x) a.ty λy=>k [(0,.q a.ty y)]
 |none=>yD
def zpQ(σ:Sg)(n:K)(ty:Ty):N (K×wr)->ty.D->(ty.D->V R)->V R
 |[],z,k=>k z
 |(i,x)::r,z,k=>match xy n ty i with
  |some f=>Nt (xT cx σ x) f.f λy=>zpQ σ n ty r (f.set y z) k
  |none=>yD
def zg6(σ:Sg)(t:wn)(ps:N (K×wr))(k:N (K×Dv)->V R):V R:=match Xo cf t with
 |some ⟨ty,.st n,_⟩=>cnd (xcU (X ps) n||xad n 0) (zpQ cx σ n ty ps ty.z λy=>k [(0,.d ty y)]) (parts cx σ (zly n ty) ps 0 λys=>match p9 n ty ys with
  |some y=>k [(0,.d ty y)]
  |none=>yD)
 |some ⟨.a n e,.ar b E,_⟩=>kS (xad b n && elA cf E e)<|parts cx σ (Tw n e) ps 0 λys=>k [(0,.d (.a n e)<|Pq n e ys)]
 |_=>yD
def zt1(σ:Sg)(t:wn)(n:K)(ps:N (K×wr))(k:N (K×Dv)->V R):V R:=match Xo cf t with
 |some ⟨.l s,.sl _,_⟩=>kS (xfI (n*s.n) 16777216)<|parts cx σ (Tw n s) ps 0 λys=>k [(0,.d (.l s)<|Pq n s ys)]
 |_=>yD
def ztK(σ:Sg)(f:Go.Fn)(first cs:N wr)(k:N (K×Dv)->V R):V R:=match f,first,iG cx σ cs with
 |.func f,[],Z l=>k [(0,.fn f l)]
 |.func f,[x],Z []=>(match xT cx σ x with
  |some (.vs o t)=>k [(0,.bm f o t)]
  |_=>yD)
 |_,_,_=>yD
def zhU(n:K):Dv:=.d .i (n:J)
def zuv(σ:Sg)(x:N wr)(ts:N wn)(k:N (K×Dv)->V R):V R:=match x,ts with
 |[x],[t]=>(match Xo cf t with
  |some ⟨.l _,.sl _,_⟩=>(match xT cx σ x with
   |some .nil=>k [(0,zhU 0)]
   |some (.d (.l _) xs)=>k [(0,zhU<|xaD xs)]
   |some (.ow o)=>(match JE cx σ o with
    |some (.own _ _ xs)=>k [(0,zhU<|xaD xs)]
    |_=>yD)
   |_=>yD)
  |some ⟨_,.str,_⟩=>(match xT cx σ x with
   |some (.d .tx xs)=>k [(0,zhU<|xaD (α:=K) xs)]
   |_=>yD)
  |_=>yD)
 |_,_=>yD
def ztI(x:J):Dv:=.d .i x
def mxI(b:ws)(a c:J)(k:J->V R):V R:=match b with
 |true=>B (max a c) k
 |false=>B (min a c) k
def eMM(b:ws)(σ:Sg)(x:N wr)(k:N (K×Dv)->V R):V R:=match x with
 |[x,y]=>(match pd cx σ x,pd cx σ y with
  |some ⟨.i,a⟩,Z ⟨.i,c⟩=>mxI b a c λz=>k [(0,ztI z)]
  |_,_=>yD)
 |_=>yD
def zv3:wr->ws
 |.func _=>I
 |_=>yL
def zpu(σ:Sg)(c:wr)(a:N wr)(k:N (K×Dv)->V R):V R:=match xT cx σ c with
 |some (.fn f cs)=>(match zbH cf.cs f with
  |some s=>KM cf cx σ s.dom a cs λy=>Y (s.M y) λr=>k<|zqy s.cod r
  |none=>(match gI cf.ex f,a,cs with
   |some b,[x,y,z],[]=>kS (zv3 c)<|exD b (pd cx σ x) (pd cx σ y) (pd cx σ z) k
   |_,_,_=>yD))
 |some (.fp dom cod g)=>zbG cx σ dom a λy=>Y (g y) λr=>k<|zoq cod r<|bif zrR cod then 0 else 1
 |_=>yD
def zgU:V Dv->ws
 |some (.mw _)=>I
 |some (.mv _ _ _)=>I
 |some (.hp _ _)=>I
 |some (.rw _ _)=>I
 |some (.rp _ _ _ _ _)=>I
 |some (.vf _ _ _ _)=>I
 |_=>yL
def ztq:V Dv->ws
 |some (.mv _ _ _)=>I
 |_=>yL
def mkF(σ:Sg)(f:wr):ws:=match xT cx σ f with
 |some (.fn f _)=>(zoZ cf.cl f).isSome
 |_=>yL
def zxI(σ:Sg):Op->ws
 |.load _ x=>zgU<|xT cx σ x
 |.indexAddr _ x _=>zgU<|xT cx σ x
 |.fieldAddr _ x _=>zgU<|xT cx σ x
 |.slice _ x _ _ yD=>zgU<|xT cx σ x
 |.call ⟨.builtin .len,ags,_⟩=>ags.toList.any λx=>zgU<|xT cx σ x
 |.call ⟨.value f,ags,_⟩=>mkF cf cx σ f||ags.toList.any λx=>ztq<|xT cx σ x
 |_=>yL
def ZK{α:Type}(a:N (N α))(r:K):N α:=a.getD r []
def zli{α:Type}(a:N (N α))(ix:N K):N (N α):=ix.map<|ZK a
def zdE(σ:Sg)(t:wn)(x i:wr)(k:N (K×Dv)->V R):V R:=match Xo cf t,xT cx σ x with
 |some ⟨.l (.l e),.sl _,_⟩,Z (.mw o)=>(match JE cx σ o with
  |some (.mat s _ _ a ix)=>atI cx σ i (xaD ix) λj=>k [(0,.hp o j)]
  |_=>yD)
 |some ⟨.l (.l e),.sl _,_⟩,Z (.mv o lo n)=>(match JE cx σ o with
  |some (.mat s _ _ a ix)=>atI cx σ i n λj=>k [(0,.hp o<|lo+j)]
  |_=>yD)
 |some ⟨.l e,.sl _,_⟩,Z (.rw o r)=>(match JE cx σ o with
  |some (.mat s _ _ a ix)=>Ty.cast (.l (.l s)) (.l (.l e)) a λa=>atI cx σ i (xaD<|ZK (α:=e.D) a r) λj=>k [(0,.rp o e r j<|Fl.self e)]
  |_=>yD)
 |_,_=>yD
def znq(n:K)(s:Ty)(i j:K)(k:Fl s.D->V R):V R:=kS (!xad i j) (match xy n s i with
 |some f=>k f
 |none=>yD)
def zhM(σ:Sg)(t:wn)(x:wr)(k:N (K×Dv)->V R):V R:=match Xo cf t,xT cx σ x with
 |some ⟨.l e,.sl _,_⟩,Z (.hp o j)=>(match JE cx σ o with
  |some (.mat s _ _ a ix)=>B (xer ix j 0) λr=>k [(0,.rw o r)]
  |_=>yD)
 |some b,Z (.rp o e r j f)=>(match JE cx σ o with
  |some (.mat s _ _ a ix)=>Ty.cast (.l (.l s)) (.l (.l e)) a λa=>B (f.get<|xer (ZK (α:=e.D) a r) j e.z) λy=>Ty.cast f.f b.ty y λy=>k [(0,.d b.ty y)]
  |_=>yD)
 |some b,Z (.vf o c n0 i)=>(match JE cx σ o with
  |some (.vr s _ _ _ n j z _)=>kS (xad n0 n && (Ty.same c s).isSome)<|znq n s i j λf=>Ty.cast f.f b.ty (f.get z) λy=>k [(0,.d b.ty y)]
  |some (.vh s _ _ _ n j z)=>kS (xad n0 n && (Ty.same c s).isSome)<|znq n s i j λf=>Ty.cast f.f b.ty (f.get z) λy=>k [(0,.d b.ty y)]
  |_=>yD)
 |_,_=>yD
def zcq(σ:Sg)(t:wn)(x:wr)(i:K)(k:N (K×Dv)->V R):V R:=match Xo cf t,xT cx σ x with
 |some ⟨e,.st n,_⟩,Z (.mw o)=>(match JE cx σ o with
  |some (.vr s _ _ _ a _ _ _)=>kS (xad a n && (Ty.same s e).isSome && (xy n e i).isSome)<|k [(0,.vf o e n i)]
  |some (.vh s _ _ _ a _ _)=>kS (xad a n && (Ty.same s e).isSome && (xy n e i).isSome)<|k [(0,.vf o e n i)]
  |_=>yD)
 |_,_=>yD
def zcj(σ:Sg)(t:wn)(x:wr)(lo hi:V wr)(k:N (K×Dv)->V R):V R:=match Xo cf t,xT cx σ x with
 |some ⟨.l (.l e),.sl _,_⟩,Z (.mw o)=>(match JE cx σ o with
  |some (.mat s _ _ a ix)=>bnd cx σ lo λlo=>bnd cx σ hi λhi=>zrn (xaD ix) lo hi λl n=>k [(0,.mv o l n)]
  |_=>yD)
 |_,_=>yD
def zm7(σ:Sg)(x:N wr)(ts:N wn)(k:N (K×Dv)->V R):V R:=match x,ts with
 |[x],[t]=>(match Xo cf t,xT cx σ x with
  |some ⟨.l _,.sl _,_⟩,Z (.mw o)=>(match JE cx σ o with
   |some (.mat _ _ _ _ ix)=>k [(0,zhU<|xaD ix)]
   |_=>yD)
  |some ⟨.l _,.sl _,_⟩,Z (.mv o _ n)=>(match JE cx σ o with
   |some (.mat _ _ _ _ _)=>k [(0,zhU n)]
   |_=>yD)
  |some ⟨.l _,.sl _,_⟩,Z (.rw o r)=>(match JE cx σ o with
   |some (.mat _ _ _ a _)=>k [(0,zhU<|xaD<|ZK a r)]
   |_=>yD)
  |_,_=>yD)
 |_,_=>yD
def KK(σ:Sg):(dom:N AM)->N wr->N PD->(pK dom->V R)->V R
 |[],[],[],k=>k ()
 |.q t::r,[],c::cs,k=>Ty.cast c.t t c.x λy=>KK σ r [] cs λz=>k (y,z)
 |.d t::r,x::xs,cs,k=>(match xT cx σ x with
  |some (.mv o lo n)=>(match JE cx σ o with
   |some (.mat s _ _ a ix)=>Ty.cast (.l (.l s)) t (xdo n<|xdD lo<|zli a ix) λy=>KK σ r xs cs λz=>k (y,z)
   |_=>yD)
  |v=>Nt v t λy=>KK σ r xs cs λz=>k (y,z))
 |.fn dom cod::r,x::xs,cs,k=>asF cf σ (xT cx σ x) dom cod λg=>KK σ r xs cs λz=>k (g,z)
 |_,_,_,_=>yD
def zfN:N RM->ws
 |[]=>I
 |.d .i::r=>zfN r
 |.d .b::r=>zfN r
 |.d .u::r=>zfN r
 |_=>yL
def zio(σ:Sg)(b:wr)(a:N wr)(k:N (K×Dv)->V R):V R:=match xT cx σ b with
 |some (.fn f cs)=>(match zoZ cf.cl f,cs with
  |some s,[]=>zbG cx σ s.dom a λys=>k [(0,.fn s.g<|s.mc ys)]
  |_,cs=>(match zbH cf.cs f with
   |some s=>kS (zfN s.cod)<|KK cf cx σ s.dom a cs λy=>Y (s.M y) λr=>k<|zqy s.cod r
   |none=>yD))
 |_=>yD
def eCo(σ:Sg)(b:Op)(k:N (K×Dv)->V R):V R:=match b with
 |.load t x=>zhM cf cx σ t x k
 |.indexAddr t x i=>zdE cf cx σ t x i k
 |.fieldAddr t x i=>zcq cf cx σ t x i k
 |.slice t x lo hi yD=>zcj cf cx σ t x lo hi k
 |.call ⟨.builtin .len,a,ts⟩=>zm7 cf cx σ a.toList ts.toList k
 |.call ⟨.value f,a,_⟩=>zio cf cx σ f a.toList k
 |_=>yD
def ztV(σ:Sg)(d:Op)(k:N (K×Dv)->V R):V R:=match d with
 |.move x=>zj3 cx σ x k
 |.assign x=>zj3 cx σ x k
 |.extract x i=>zuc cx σ x i k
 |.pick c x y=>zpj cx σ c x y k
 |.unOp .not _ x=>ztS cx σ x k
 |.unOp .neg _ x=>zt3 cx σ x k
 |.binOp b t x y _=>cnd (zrQ<|xT cx σ y) (kS (zrb cf t)<|eqP b (xT cx σ x) λv=>k [(0,v)])<|ztU (isB cf t) b (pd cx σ x) (pd cx σ y) λv=>k [(0,v)]
 |.nilCheck x=>zuV cx σ x k
 |.convert s t x=>zvr cf cx σ s t x k
 |.load t x=>zpa cf cx σ t x k
 |.indexAddr t x i=>zgZ cf cx σ t x i k
 |.fieldAddr t x i=>ziL cf cx σ t x i k
 |.field t x i=>zd9 cf cx σ t x i k
 |.slice t x lo hi yD=>zix cf cx σ t x lo hi k
 |.index t x i=>zvc cf cx σ t x i k
 |.box E x=>zt6 cf cx σ E x k
 |.build t ps=>zg6 cf cx σ t ps.toList k
 |.buildSlice t n ps=>zt1 cf cx σ t n ps.toList k
 |.makeFunc f first cs=>ztK cx σ f first.toList cs.toList k
 |.call ⟨.builtin .len,a,ts⟩=>zuv cf cx σ a.toList ts.toList k
 |.call ⟨.builtin .max,a,_⟩=>eMM cx I σ a.toList k
 |.call ⟨.builtin .min,a,_⟩=>eMM cx yL σ a.toList k
 |.call ⟨.value f,a,_⟩=>zpu cf cx σ f a.toList k
 |_=>yD
def eOp(σ:Sg)(a:Op)(k:N (K×Dv)->V R):V R:=cnd (zxI cf cx σ a) (eCo cf cx σ a k)<|ztV cf cx σ a k
def qd:Dv->V K
 |.ow o=>Z o
 |.vs o _=>Z o
 |.ep o _ _ _=>Z o
 |.sv o _ _ _=>Z o
 |.vp o _ _=>Z o
 |.mw o=>Z o
 |.mv o _ _=>Z o
 |.hp o _=>Z o
 |.rw o _=>Z o
 |.rp o _ _ _ _=>Z o
 |.yd o=>Z o
 |.vf o _ _ _=>Z o
 |.bm _ o _=>Z o
 |_=>yD
def okL(n:K)(l:N (K×Dv)):ws:=l.all λe=>match qd e.2 with
 |some o=>xcU o n
 |none=>I
def zcP(o:K)(x:Od)(v:Dv):Dv:=match v,x with
 |.ow a,.own s _ xs=>bif xad a o then .d (.l s) xs else v
 |.vs a _,.var s _ z=>bif xad a o then .q s z else v
 |.mw a,.mat s _ _ b ix=>bif xad a o then .d (.l (.l s)) (zli b ix)else v
 |.mw a,.vr t _ s _ n i z xs=>bif xad a o then .q t (Ye s (xy n t i) xs z)else v
 |_,_=>v
def TJ(o:K)(x:Od):N (K×K×Dv)->N (K×K×Dv)
 |[]=>[]
 |(t,i,v)::r=>(t,i,zcP o x v)::TJ o x r
def zei(σ:Sg)(o:K):Sg:=match xQ σ.ob o with
 |some x=>⟨σ.nx,TJ o x σ.rg,yJ σ.ob o⟩
 |none=>σ
def frz(σ:Sg)(x:wr):Sg:=match xT cx σ x with
 |some (.ow o)=>zei σ o
 |some (.vs o _)=>zei σ o
 |some (.mw o)=>zei σ o
 |_=>σ
def zrM(σ:Sg):N wr->Sg
 |[]=>σ
 |x::r=>zrM (frz cx σ x) r
def zln(σ:Sg):N AM->N wr->ws
 |[],_=>I
 |.own _ _::r,x::xs=>(match xT cx σ x with
  |some (.ow o)=>σ.ob.any λe=>xad e.1 o
  |_=>yL) && zln σ r xs
 |.var _ _::r,x::xs=>(match xT cx σ x with
  |some (.vs o _)=>σ.ob.any λe=>xad e.1 o
  |_=>yL) && zln σ r xs
 |.d _::r,x::xs=> !ztq (xT cx σ x) && zln σ r xs
 |_::r,_::xs=>zln σ r xs
 |_::r,[]=>zln σ r []
def ziF(σ:Sg)(f:vi)(a:N wr):N QY->V QY
 |[]=>yD
 |s::r=>match xad s.f f && zln cx σ s.dom a with
  |true=>Z s
  |false=>ziF σ f a r
def zv0(d:V vn):ws:=match d with
 |some t=>Bt cf.an.vw t
 |none=>yL
def zhl(d:V vn):ws:=match d with
 |some t=>Bt cf.an.mt t
 |none=>yL
def zyQ:V Dv->ws
 |some (.hp _ _)=>I
 |some (.mw _)=>I
 |_=>yL
def zwA(σ:Sg):V Dv->ws
 |some (.vf o _ _ i)=>(match xQ σ.ob o with
  |some (.vh _ _ _ _ _ j _)=>xad i j
  |_=>yL)
 |_=>yL
def zmO:V Dv->ws
 |some (.mw _)=>I
 |_=>yL
def zuo(σ:Sg)(d:V vn):Op->N wr
 |.build _ ps=>ps.toList.map (·.2)
 |.buildSlice _ _ ps=>(match zhl cf d with
  |true=>[]
  |false=>ps.toList.map (·.2))
 |.store _ a v=>(match zyQ (xT cx σ a)||zwA σ (xT cx σ a),xT cx σ v with
  |false,Z (.ow _)=>[v]
  |_,_=>[])
 |.slice _ x yD (Z _) yD=>(match zmO (xT cx σ x),zv0 cf d with
  |true,yL=>[x]
  |_,_=>[])
 |.box _ v=>[v]
 |.load _ x=>(match xT cx σ x with
  |some (.mw o)=>(match JE cx σ o with
   |some (.vr _ _ _ _ _ _ _ _)=>[x]
   |_=>[])
  |_=>[])
 |.convert _ _ v=>[v]
 |.makeFunc _ _ cs=>cs.toList
 |.slice _ x (Z _) _ _=>(match zv0 cf d with
  |true=>[]
  |false=>[x])
 |.call ⟨.builtin .append,b,_⟩=>(match b.toList.any λx=>zmO (xT cx σ x)with
  |true=>[]
  |false=>b.toList.drop 1)
 |.call ⟨.builtin .copy,b,_⟩=>b.toList.drop 1
 |.call ⟨.value f,b,_⟩=>(match xT cx σ f with
  |some (.fn f _)=>(match ziF cx σ f b.toList cf.cs with
   |some s=>(s.dom.zip b.toList).filterMap λe=>match e.1 with
    |.d _=>(match ztq (xT cx σ e.2)with
     |true=>yD
     |false=>Z e.2)
    |.q _=>Z e.2
    |_=>yD
   |none=>[])
  |some (.fp _ _ _)=>b.toList
  |_=>[])
 |_=>[]
def zgW(σ:Sg)(d:V vn)(mk:K->Dv)(x:Od):Sg:=⟨σ.nx+1,jq σ.rg d [(0,mk σ.nx)],(σ.nx,x)::σ.ob⟩
def Xa(σ:Sg):(dom:N AM)->N wr->N PD->(pK dom->N K->V R)->V R
 |[],[],[],k=>k () []
 |.q t::r,[],c::cs,k=>Ty.cast c.t t c.x λy=>Xa σ r [] cs λz os=>k (y,z) os
 |.d t::r,x::xs,cs,k=>Nt (xT cx σ x) t λy=>Xa σ r xs cs λz os=>k (y,z) os
 |.q t::r,x::xs,cs,k=>(match xT cx σ x with
  |some (.q s y)=>Ty.cast s t y λy=>Xa σ r xs cs λz os=>k (y,z) os
  |_=>yD)
 |.own t E::r,x::xs,cs,k=>(match xT cx σ x with
  |some (.ow o)=>(match xQ σ.ob o with
   |some (.own s a ys)=>kS (xad E a)<|Ty.cast (.l s) (.l t) ys λy=>Xa σ r xs cs λz os=>kS (!Bt os o)<|k (y,z) (o::os)
   |_=>yD)
  |_=>yD)
 |.var t E::r,x::xs,cs,k=>(match xT cx σ x with
  |some (.vs o _)=>(match xQ σ.ob o with
   |some (.var s a y)=>kS (xad E a)<|Ty.cast s t y λy=>Xa σ r xs cs λz os=>kS (!Bt os o)<|k (y,z) (o::os)
   |_=>yD)
  |_=>yD)
 |.fn dom cod::r,x::xs,cs,k=>asF cf σ (xT cx σ x) dom cod λg=>Xa σ r xs cs λz os=>k (g,z) os
 |_,_,_,_=>yD
def Yc:(rs:N RM)->CZ rs->K->K->N (K×Dv)×N (K×Od)
 |[],_,_,_=>([],[])
 |[.d t],x,i,o=>([(i,.d t x)],[])
 |[.own t E],x,i,o=>([(i,.ow o)],[(o,.own t E x)])
 |[.var t E],x,i,o=>([(i,.vs o t)],[(o,.var t E x)])
 |.d t::r::rs,x,i,o=>let y:=Yc (r::rs) x.2 (i+1) o
  ((i,.d t x.1)::y.1,y.2)
 |.own t E::r::rs,x,i,o=>let y:=Yc (r::rs) x.2 (i+1) (o+1)
  ((i,.ow o)::y.1,(o,.own t E x.1)::y.2)
 |.var t E::r::rs,x,i,o=>let y:=Yc (r::rs) x.2 (i+1) (o+1)
  ((i,.vs o t)::y.1,(o,.var t E x.1)::y.2)
def qU(ob:N (K×Od)):N K->N (K×Od)
 |[]=>ob
 |o::r=>yJ (qU ob r) o
def ziB(σ:Sg)(s:Ty)(p v:V Dv)(k:Sg->V R):V R:=match p with
 |some (.vs o _)=>(match xQ σ.ob o with
  |some (.var b E z)=>Ty.cast b s z λz=>Nt v s λy=>k ⟨σ.nx,σ.rg,Zf σ.ob o (.var s E y)⟩
  |_=>yD)
 |some (.vp o a f)=>(match xQ σ.ob o,Ty.same f.f s with
  |some (.var b E z),Z _=>Ty.cast b a z λz=>Nt v f.f λy=>B (f.set y z) λz=>k ⟨σ.nx,σ.rg,Zf σ.ob o (.var a E z)⟩
  |_,_=>yD)
 |some (.ep o a j f)=>(match xQ σ.ob o,Ty.same f.f s with
  |some (.own b E xs),Z _=>Ty.cast (.l b) (.l a) xs λxs=>Nt v f.f λy=>B (xfL xs j<|f.set y<|xer xs j a.z) λxs=>k ⟨σ.nx,σ.rg,Zf σ.ob o (.own a E xs)⟩
  |_,_=>yD)
 |_=>yD
def ziG(σ:Sg)(d:V vn)(E:wn)(k:Sg->V R):V R:=match Xo cf E with
 |some a=>k<|zgW σ d (λo=> .vs o a.ty) (.var a.ty E a.ty.z)
 |none=>yD
def zuU(σ:Sg)(d:V vn)(E:wn)(x:wr)(k:Sg->V R):V R:=match Xo cf E with
 |some a=>Nt (xT cx σ x) a.ty λy=>k<|zgW σ d (λo=> .vs o a.ty) (.var a.ty E y)
 |none=>yD
def zmg(σ:Sg)(d:V vn)(t:wn)(x y:wr)(k:Sg->V R):V R:=match Xo cf t with
 |some ⟨.l s,.sl E,_⟩=>kS (zjT x y) (match Xo cf E,pd cx σ x with
  |some a,Z ⟨.i,n⟩=>Ty.cast a.ty s a.ty.z λz=>uC n λn=>ck (a.B*n<=281474976710656)<|B (sR n z) λxs=>k<|zgW σ d .ow (.own s E xs)
  |_,_=>yD)
 |_=>yD
def zuK(σ:Sg)(d:V vn)(t:wn)(n:K)(ps:N (K×wr))(k:Sg->V R):V R:=match Xo cf t with
 |some ⟨.l s,.sl E,_⟩=>kS (xfI (n*s.n) 16777216)<|parts cx σ (Tw n s) ps 0 λys=>k<|zgW σ d .ow (.own s E<|Pq n s ys)
 |_=>yD
def zih(σ:Sg)(d:V vn)(t:wn)(o:K)(hi:wr)(k:Sg->V R):V R:=match Xo cf t,xQ σ.ob o with
 |some ⟨.l a,.sl _,_⟩,Z (.own s E xs)=>Ty.cast (.l s) (.l a) xs λxs=>bnd cx σ (Z hi) λh=>zvl (α:=a.D) xs yD h λys=>k ⟨σ.nx+1,jq σ.rg d [(0,.ow σ.nx)],(σ.nx,.own a E ys)::yJ σ.ob o⟩
 |_,_=>yD
def zjM(σ:Sg)(d:V vn)(b:wn)(a:ws)(s:Ty)(E:wn)(B:K)(z:s.D)(y:wr)(ob:N (K×Od))(xs:N s.D)(k:Sg->V R):V R:=match pd cx σ y with
 |some ⟨.i,n⟩=>(match Xo cf b with
  |some ⟨_,.int _,_⟩=>uC n λn=>zyI xs n z B λzs=>k ⟨σ.nx+1,jq σ.rg d [(0,.ow σ.nx)],(σ.nx,.own s E zs)::ob⟩
  |_=>yD)
 |_=>(match xT cx σ y with
  |some (.sv o2 t2 lo n)=>(match JE cx ⟨σ.nx,σ.rg,ob⟩ o2 with
   |some (.own c _ zs)=>kS a<|Ty.cast (.l c) (.l t2) zs λzs=>Ty.cast (.l t2) (.l s) (xdo n<|xdD lo zs) λys=>nm ys λys=>zvN (α:=s.D) xs ys B λzs=>k ⟨σ.nx+1,jq σ.rg d [(0,.ow σ.nx)],(σ.nx,.own s E zs)::ob⟩
   |_=>yD)
  |_=>kS a<|Nt (xT cx σ y) (.l s) λys=>zvN (α:=s.D) xs ys B λzs=>k ⟨σ.nx+1,jq σ.rg d [(0,.ow σ.nx)],(σ.nx,.own s E zs)::ob⟩)
def zux(σ:Sg)(d:V vn)(c:N wr)(ts:N wn)(k:Sg->V R):V R:=match c,ts with
 |[x,y],[t,a]=>(match Xo cf t with
  |some ⟨.l s,.sl E,_⟩=>(match Xo cf E with
   |some b=>Ty.cast b.ty s b.ty.z λz=>(match xT cx σ x with
    |some .nil=>zjM cf cx σ d a (xad t a) s E b.B z y σ.ob [] k
    |some (.ow o)=>(match xQ σ.ob o with
     |some (.own e f xs)=>kS (xad f E)<|Ty.cast (.l e) (.l s) xs λxs=>zjM cf cx σ d a (xad t a) s E b.B z y (yJ σ.ob o) xs k
     |_=>yD)
    |_=>yD)
   |none=>yD)
  |_=>yD)
 |_,_=>yD
def zpD(σ:Sg)(d:V vn)(a:N wr)(ts:N wn)(k:Sg->V R):V R:=match a,ts with
 |[x,y],[t,_]=>(match Xo cf t,xT cx σ x with
  |some ⟨.l s,.sl _,_⟩,Z (.ow o)=>(match xQ σ.ob o with
   |some (.own b c xs)=>Ty.cast (.l b) (.l s) xs λxs=>Nt (xT cx σ y) (.l s) λys=>B (cpy (α:=s.D) xs ys) λzs=>k ⟨σ.nx,jq σ.rg d [],Zf σ.ob o (.own s c zs)⟩
   |_=>yD)
  |some ⟨.l s,.sl _,_⟩,Z (.sv o t2 lo n)=>(match xQ σ.ob o,Ty.same t2 s with
   |some (.own b c xs),Z _=>Ty.cast (.l b) (.l s) xs λxs=>Nt (xT cx σ y) (.l s) λys=>B (Bh (α:=s.D) lo n xs ys) λzs=>k ⟨σ.nx,jq σ.rg d [],Zf σ.ob o (.own s c zs)⟩
   |_,_=>yD)
  |_,_=>yD)
 |_,_=>yD
def S6:N K->N (K×Od)->N (K×Od)
 |o::os,e::r=>(o,e.2)::S6 os r
 |_,_=>[]
def EB:K->N RM->ws
 |0,[]=>I
 |0,.own _ _::r=>EB 0 r
 |0,.var _ _::r=>EB 0 r
 |n+1,.d _::r=>EB n r
 |_,_=>yL
def Mj(m:K):K:=bif xad m 1 then 0 else 1
def zo8(σ:Sg)(d:V vn)(s:QY)(a:N wr)(cs:N PD)(k:Sg->V R):V R:=
 Xa cf cx σ s.dom a cs λy os=>Y (s.M y) λr=>
  match s.bk with
  |0=>(let g:=Yc s.cod r (bif iZ s.cod then 0 else 1) σ.nx
   k ⟨σ.nx+X g.2,jq σ.rg d g.1,g.2++qU σ.ob os⟩)
  |b+1=>(let m:=X s.cod-(b+1)
   let g:=Yc s.cod r (Mj m) σ.nx
   kS (EB m s.cod)<|k ⟨σ.nx+X g.2,jq σ.rg d<|g.1.filter λe=>xcU e.1<|Mj m+m,S6 os g.2++qU σ.ob os⟩)
def mE(σ:Sg)(d:V vn)(a:Op)(k:Sg->V R):V R:=eOp cf cx σ a λl=>kS (okL σ.nx l)<|k (σ.put d l)
def zvi(d:V vn):ws:=match d with
 |some t=>Bt cf.an.bx t
 |none=>yL
def zr6(o n:K)(v:Dv):Dv:=match v with
 |.mw p=>bif xad p o then .mw n else v
 |.mv p l m=>bif xad p o then .mv n l m else v
 |.hp p j=>bif xad p o then .hp n j else v
 |.rw p r=>bif xad p o then .rw n r else v
 |.rp p t r j f=>bif xad p o then .rp n t r j f else v
 |v=>v
def zq0(o n:K):N (K×K×Dv)->N (K×K×Dv)
 |[]=>[]
 |(t,i,v)::r=>(t,i,zr6 o n v)::zq0 o n r
def zag(o n:K):N (K×K×Dv)->N (K×K×Dv)
 |[]=>[]
 |(t,i,.mw p)::r=>(t,i,bif xad p o then .mw n else .mw p)::zag o n r
 |(t,i,v)::r=>(t,i,v)::zag o n r
def zf2(o n:K):N (K×K×Dv)->N (K×K×Dv)
 |[]=>[]
 |(t,i,.yd p)::r=>(t,i,bif xad p o then .yd n else .yd p)::zf2 o n r
 |(t,i,v)::r=>(t,i,v)::zf2 o n r
def zvR{α:Type}(a b:N α):N α:=a++b
def zwV{α:Type}(a:N (N α))(r:K)(xs:N α):N (N α):=xfL a r xs
def u5(σ:Sg)(s:Ty)(p v:V Dv)(k:Sg->V R):V R:=match p,v with
 |some (.rp o e r j f),v=>(match xQ σ.ob o,Ty.same f.f s with
  |some (.mat d E E1 a ix),Z _=>Ty.cast (.l (.l d)) (.l (.l e)) a λa=>Nt v f.f λy=>B (zwV (α:=e.D) a r<|xfL (ZK (α:=e.D) a r) j<|f.set y<|xer (ZK (α:=e.D) a r) j e.z) λa=>k ⟨σ.nx,σ.rg,Zf σ.ob o (.mat e E E1 a ix)⟩
  |_,_=>yD)
 |some (.vf o g n0 i),Z (.ow o2)=>kS (!xad o o2)<|(match xQ σ.ob o,xQ σ.ob o2 with
  |some (.vh b E c E1 n j z),Z (.own q t ys)=>kS (xad i j && xad E1 t && (Ty.same s (.l c)).isSome && (xad n0 n && (Ty.same g b).isSome))<|Ty.cast (.l q) (.l c) ys λys=>k ⟨σ.nx+1,zag o σ.nx σ.rg,(σ.nx,.vr b E c E1 n j z ys)::yJ (yJ σ.ob o) o2⟩
  |_,_=>yD)
 |some (.vf o g n0 i),v=>(match xQ σ.ob o with
  |some (.vr b E c E1 n j z ys)=>kS (xad n0 n && (Ty.same g b).isSome)<|znq n b i j λf=>kS (Ty.same f.f s).isSome<|Nt v f.f λy=>B (f.set y z) λz=>k ⟨σ.nx,σ.rg,Zf σ.ob o (.vr b E c E1 n j z ys)⟩
  |some (.vh b E c E1 n j z)=>kS (xad n0 n && (Ty.same g b).isSome)<|znq n b i j λf=>kS (Ty.same f.f s).isSome<|Nt v f.f λy=>B (f.set y z) λz=>k ⟨σ.nx,σ.rg,Zf σ.ob o (.vh b E c E1 n j z)⟩
  |_=>yD)
 |some (.hp o j),Z (.rw u r)=>kS (xad u o)<|(match xQ σ.ob o,s with
  |some (.mat d E E1 a ix),.l _=>B (xfL ix j r) λix=>k ⟨σ.nx,σ.rg,Zf σ.ob o (.mat d E E1 a ix)⟩
  |_,_=>yD)
 |some (.hp o j),Z (.ow o2)=>kS (!xad o o2)<|(match xQ σ.ob o,xQ σ.ob o2,s with
  |some (.mat d E E1 a ix),Z (.own c h ys),.l _=>kS (xad E1 h)<|Ty.cast (.l c) (.l d) ys λys=>B (zvR (α:=N d.D) a [ys]) λm=>B (xfL ix j<|xaD a) λix=>k ⟨σ.nx+1,zq0 o σ.nx σ.rg,(σ.nx,.mat d E E1 m ix)::yJ (yJ σ.ob o) o2⟩
  |_,_,_=>yD)
 |some (.mw o),Z (.dz t2 y n2 i2)=>(match xQ σ.ob o with
  |some (.vr b E c E1 n j z xs)=>kS (xad n2 n && (xad i2 j && (Ty.same s b).isSome))<|Ty.cast t2 b y λy=>k ⟨σ.nx+1,zag o σ.nx σ.rg,(σ.nx,.vr b E c E1 n j y [])::yJ σ.ob o⟩
  |_=>yD)
 |some (.mw o),Z (.ow o2)=>kS (!xad o o2)<|(match xQ σ.ob o,xQ σ.ob o2,s with
  |some (.ho w),Z (.own c h ys),.l _=>k ⟨σ.nx+1,zag o σ.nx σ.rg,(σ.nx,.bo c h w ys)::yJ (yJ σ.ob o) o2⟩
  |_,_,_=>yD)
 |_,_=>yD
def zhP(σ:Sg)(d:V vn)(t:wn)(x y:wr)(k:Sg->V R):V R:=match Xo cf t with
 |some ⟨.l (.l s),.sl E,_⟩=>kS (zjT x y) (match Xo cf E,pd cx σ x with
  |some ⟨.l _,.sl E1,B⟩,Z ⟨.i,n⟩=>uC n λn=>ck (B*n<=281474976710656)<|nm (sR n 0) λix=>k<|zgW σ d .mw (.mat s E E1 [[]] ix)
  |_,_=>yD)
 |_=>yD
def znP(σ:Sg)(d:V vn)(t:wn)(n:K)(ps:N (K×wr))(k:Sg->V R):V R:=match Xo cf t,ps with
 |some ⟨.l (.l s),.sl E,_⟩,[(0,x)]=>kS (xad n 1) (match xT cx σ x with
  |some (.ow o2)=>(match xQ σ.ob o2 with
   |some (.own a E1 ys)=>Ty.cast (.l a) (.l s) ys λys=>k ⟨σ.nx+1,jq σ.rg d [(0,.mw σ.nx)],(σ.nx,.mat s E E1 [ys] [0])::yJ σ.ob o2⟩
   |_=>yD)
  |_=>yD)
 |_,_=>yD
def zhC(d:V vn):V (K×K):=match d with
 |some t=>gI cf.an.vr t
 |none=>yD
def zcc(σ:Sg)(d:V vn)(a:wn)(k:Sg->V R):V R:=match Xo cf a with
 |some ⟨.l s,.sl E,_⟩=>k<|zgW σ d .mw (.bo s E a [])
 |some ⟨ty,.st n,_⟩=>(match zhC cf d with
  |some (i,E1)=>(match xy n ty i with
   |some ⟨_,.l s,_,_⟩=>k<|zgW σ d .mw (.vr ty a s E1 n i ty.z [])
   |_=>yD)
  |none=>yD)
 |_=>yD
def zdH(σ:Sg)(d:V vn)(t:wn)(ps:N (K×wr))(k:Sg->V R):V R:=match Xo cf t,zhC cf d with
 |some ⟨ty,.st n,_⟩,Z (i,_)=>kS (ps.all λp=> !xad p.1 i) (match xy n ty i with
  |some ⟨_,.l _,_,_⟩=>zpQ cx σ n ty ps ty.z λy=>k<|σ.put d [(0,.dz ty y n i)]
  |_=>yD)
 |_,_=>yD
def zh8(σ:Sg)(d:V vn)(t:wn)(o:K)(k:Sg->V R):V R:=match Xo cf t,xQ σ.ob o with
 |some ⟨.l b,.sl _,_⟩,Z (.vr c E a E1 n j z xs)=>kS (Ty.same b a).isSome<|k ⟨σ.nx+1,jq σ.rg d [(0,.ow σ.nx)],(σ.nx,.own a E1 xs)::Zf σ.ob o (.vh c E a E1 n j z)⟩
 |_,_=>yD
def zeB(σ:Sg):V Dv->V K
 |some (.vf o a n0 i)=>(match xQ σ.ob o with
  |some (.vr s _ _ _ n j _ _)=>bif xad i j && (xad n0 n && (Ty.same a s).isSome)then Z o else yD
  |_=>yD)
 |_=>yD
def zho(σ:Sg)(d:V vn)(t:wn)(o:K)(k:Sg->V R):V R:=match Xo cf t,xQ σ.ob o with
 |some ⟨.l _,.sl _,_⟩,Z (.bo s E a xs)=>k ⟨σ.nx+1,jq σ.rg d [(0,.ow σ.nx)],(σ.nx,.own s E xs)::Zf σ.ob o (.ho a)⟩
 |_,_=>yD
def zme(σ:Sg)(d:V vn)(c:N wr)(ts:N wn)(k:Sg->V R):V R:=match c,ts with
 |[x,y],[t,i]=>(match Xo cf t,xT cx σ x,xT cx σ y with
  |some ⟨.l (.l s),.sl E,_⟩,Z (.mw o),Z (.mw p)=>kS (xad t i && !xad o p) (match Xo cf E,xQ σ.ob o,xQ σ.ob p with
   |some ⟨.l _,.sl _,B⟩,Z (.mat e E1 g b ix),Z (.mat j m n a h)=>kS (xad E1 E && (xad m E && xad g n))<|Ty.cast (.l (.l j)) (.l (.l e)) a λa=>
    ck ((xaD ix+xaD h)*B<=140737488355328)<|nm (zvR (α:=N e.D) b a) λf=>nm (ix++h.map (xaD b+ ·)) λq=>k ⟨σ.nx+1,jq σ.rg d [(0,.mw σ.nx)],(σ.nx,.mat e E1 g f q)::yJ (yJ σ.ob o) p⟩
   |_,_,_=>yD)
  |_,_,_=>yD)
 |_,_=>yD
def RI(σ:Sg)(d:V vn)(s:N5)(c:N wr)(k:Sg->V R):V R:=match c with
 |[x,a,p,y]=>(match xT cx σ x,pd cx σ a,pd cx σ p,xT cx σ y with
  |some (.rw o r),Z ⟨.i,a⟩,Z ⟨.i,p⟩,Z (.mv e lo n)=>kS (xad o e) (match xQ σ.ob o with
   |some (.mat f E E1 b ix)=>kS (xad E s.E && xad E1 s.E1)<|Ty.cast (.l (.l f)) (.l (.l s.t)) b λb=>
    Y (s.M b ix r a p lo n) λb=>k ⟨σ.nx+1,zag o σ.nx<|jq σ.rg d [],(σ.nx,.mat s.t E E1 b ix)::yJ σ.ob o⟩
   |_=>yD)
  |_,_,_,_=>yD)
 |_=>yD
def zdR(σ:Sg)(d:V vn)(o:K)(a:N wr)(k:Sg->V R):V R:=match a with
 |[x]=>(match xT cx σ x with
  |some (.ow p)=>kS (!xad o p) (match xQ σ.ob o,xQ σ.ob p with
   |some (.hid t E X Y e c g z),Z (.own s b ys)=>kS (xad b E)<|Ty.cast (.l s) (.l t) ys λys=>
    bd (g ys z) λr=>xfj (λf=>k ⟨σ.nx+1,zf2 o σ.nx<|jq σ.rg d [(0,.kb I)],(σ.nx,.hid t E X Y e c g f)::yJ (Zf σ.ob p (.own t b r.1)) o⟩)
     (λy'=>k ⟨σ.nx+1,zf2 o σ.nx<|jq σ.rg d [(0,.kb yL)],(σ.nx,.hiy Y c y')::yJ (Zf σ.ob p (.own t b r.1)) o⟩) r.2
   |_,_=>yD)
  |_=>yD)
 |_=>yD
inductive CoM
 |no
 |st (t:wn) (x y:wr)
 |ma (t:wn) (x y:wr)
 |lit (t:wn) (n:K) (ps:wL (K×wr))
 |al (E:wn)
 |tk (t:wn) (o:K)
 |tv (t:wn) (o:K)
 |bz (t:wn) (ps:wL (K×wr))
 |ap (ags:wL wr) (ts:wL wn)
 |sk (s:N5) (ags:wL wr)
 |yl (o:K) (ags:wL wr)
def coM(σ:Sg)(d:V vn):Op->CoM
 |.store t x y=>bif zgU (xT cx σ x)then .st t x y else .no
 |.makeSlice t x y=>bif zhl cf d then .ma t x y else .no
 |.buildSlice t n ps=>bif zhl cf d then .lit t n ps else .no
 |.alloc E=>bif zhl cf d||(zhC cf d).isSome then .al E else .no
 |.build t ps=>bif (zhC cf d).isSome then .bz t ps else .no
 |.load t x=>(match xT cx σ x with
  |some (.mw o)=> .tk t o
  |v=>(match zeB σ v with
   |some o=> .tv t o
   |none=> .no))
 |.call ⟨.builtin .append,a,ts⟩=>bif a.toList.any (λx=>zmO<|xT cx σ x)then .ap a ts else .no
 |.call ⟨.value f,a,_⟩=>(match xT cx σ f with
  |some (.yd o)=> .yl o a
  |some (.fn f [])=>(match zoJ cf.ms f with
   |some s=> .sk s a
   |none=> .no)
  |_=> .no)
 |_=> .no
def mCo(σ:Sg)(d:V vn)(c:CoM)(k:Sg->V R)(b:V R):V R:=match c with
 |.no=>b
 |.st t x y=>kS d.isNone (match Xo cf t with
  |some e=>u5 σ e.ty (xT cx σ x) (xT cx σ y) k
  |none=>yD)
 |.ma t x y=>zhP cf cx σ d t x y k
 |.lit t n ps=>znP cf cx σ d t n ps.toList k
 |.al E=>zcc cf σ d E k
 |.tk t o=>zho cf σ d t o k
 |.tv t o=>zh8 cf σ d t o k
 |.bz t ps=>zdH cf cx σ d t ps.toList k
 |.ap a ts=>zme cf cx σ d a.toList ts.toList k
 |.sk s a=>RI cx σ d s a.toList k
 |.yl o a=>zdR cx σ d o a.toList k
def zls(f:vi):N QY->V QY
 |[]=>yD
 |s::r=>match s.f,s.dom,s.cod,s.bk with
  |f',[.var _ _],[.var _ _],1=>bif xad f' f then Z s else zls f r
  |_,_,_,_=>zls f r
def mBm(σ:Sg)(d:V vn)(s:QY)(o:K)(k:Sg->V R):V R:=match s,xQ σ.ob o with
 |⟨_,[.var t E],[.var t2 a],M,_⟩,Z (.var b c y)=>kS (xad E c && (xad a E && (Ty.same t t2).isSome))<|Ty.cast b t y λy=>Y (M (y,())) λz=>k ⟨σ.nx,jq σ.rg d [],Zf σ.ob o (.var t2 a z)⟩
 |_,_=>yD
def ztB(σ:Sg)(d:V vn)(op:Op)(k:Sg->V R):V R:=
 match op with
 |.alloc E=>ziG cf σ d E k
 |.box E x=>cnd (zvi cf d) (zuU cf cx σ d E x k)<|mE cf cx σ d (.box E x) k
 |.store t x y=>kS d.isNone (match Xo cf t with
  |some b=>ziB σ b.ty (xT cx σ x) (xT cx σ y) k
  |none=>yD)
 |.makeSlice t x y=>zmg cf cx σ d t x y k
 |.buildSlice t n ps=>zuK cf cx σ d t n ps.toList k
 |.slice t x yD (Z hi) yD=>(match xT cx σ x with
  |some (.ow o)=>zih cf cx σ d t o hi k
  |_=>mE cf cx σ d (.slice t x yD (Z hi) yD) k)
 |.call ⟨.builtin .append,a,ts⟩=>zux cf cx σ d a.toList ts.toList k
 |.call ⟨.builtin .copy,a,ts⟩=>zpD cf cx σ d a.toList ts.toList k
 |.call ⟨.value f,a,ts⟩=>(match xT cx σ f with
  |some (.fn f' cs)=>(match ziF cx σ f' a.toList cf.cs with
   |some s=>zo8 cf cx σ d s a.toList cs k
   |none=>mE cf cx σ d (.call ⟨.value f,a,ts⟩) k)
  |some (.bm f' o t)=>(match a.toList,zls f' cf.cs with
   |[],Z s=>mBm σ d s o k
   |_,_=>yD)
  |_=>mE cf cx σ d (.call ⟨.value f,a,ts⟩) k)
 |op=>mE cf cx σ d op k
def mOp(σ:Sg)(d:V vn)(a:Op)(k:Sg->V R):V R:=mCo cf cx σ d (coM cf cx σ d a) k<|ztB cf cx σ d a k
def zdp(σ:Sg)(t:vn)(b:ws):Sg:=⟨σ.nx,jq σ.rg (Z t) [(0,.kb b)],σ.ob⟩
def Gh(c:N wT)(o:wT)(σ:Sg)(k:Sg->ws->V R):V R:=match o.guard with
 |none=>k σ I
 |some (j,a)=>match c[j]? with
  |some e=>(match e.dst with
   |some t=>(match get cx σ t 0 with
    |some (.kb b)=>k σ<|b==a
    |some .un=>k σ yL
    |some (.d .b x)=>kS (KS cx.rg t)<|ifB x (k (zdp σ t I)<|true==a) (k (zdp σ t yL)<|false==a)
    |_=>yD)
   |none=>yD)
  |none=>yD
def zbK(o:wT)(σ:Sg)(k:Sg->V R):V R:=match o.op with
 |.pick (.tmp t) _ _=>(match get cx σ t 0 with
  |some (.d .b x)=>kS (KS cx.rg t)<|ifB x (k<|zdp σ t I) (k<|zdp σ t yL)
  |_=>k σ)
 |_=>k σ
def zkC(a:N wT):N wT->Sg->(Sg->V R)->V R
 |[],σ,k=>k σ
 |o::r,σ,k=>kS (vz cx o.dst)<|Gh cx a o σ λσ w=>cnd w
  (zbK cx o σ λσ=>(let σ:=zrM cx σ<|zuo cf cx σ o.dst o.op;mOp cf cx σ o.dst o.op λσ=>zkC a r σ k))
  (zkC a r (σ.put o.dst [(0,.un)]) k)
def dd:N (K×K×Dv)->N (K×K×Dv)
 |[]=>[]
 |e::r=>e::(dd r).filter λf=> !(xad e.1 f.1 && xad e.2.1 f.2.1)
structure Rb where
 a:V K
 c:V K
 rd:N K
 o:K
 x:Od
structure Oi where
 lo:K
 hi:K
 refs:N K
def A7(ts:N vn):N (K×K×Dv)->N K
 |[]=>[]
 |(t,_,v)::r=>(match Bt ts t,qd v with
  |true,Z o=>o::A7 ts r
  |_,_=>A7 ts r)
def Ed:N (K×Dv)->N K
 |[]=>[]
 |(_,v)::r=>(match qd v with
  |some o=>o::Ed r
  |none=>Ed r)
def iQ(ts:N vn):N (K×K×Dv)->N (K×K×Dv)
 |[]=>[]
 |(t,i,v)::r=>(match Bt ts t with
  |true=>(t,i,v)::iQ ts r
  |false=>iQ ts r)
def LK(d:V vn)(rg:N (K×K×Dv)):N (K×Dv):=match d with
 |some t=>rg.filterMap λe=>match xad e.1 t with
  |true=>Z (e.2.1,e.2.2)
  |false=>yD
 |none=>[]
def Aq(os:N K):N Rb->N (K×Od)
 |[]=>[]
 |r::rs=>match r.c,Bt os r.o with
  |none,I=>(r.o,r.x)::Aq os rs
  |_,_=>Aq os rs
def zpB(i:K)(os:N K):N Rb->N Rb
 |[]=>[]
 |r::rs=>(match r.c,Bt os r.o with
  |none,I=>⟨r.a,Z i,r.rd,r.o,r.x⟩
  |_,_=>r)::zpB i os rs
def zpJ(i:K)(os:N K):N Rb->N Rb
 |[]=>[]
 |r::rs=>(match r.c,Bt os r.o with
  |none,I=>⟨r.a,yD,i::r.rd,r.o,r.x⟩
  |_,_=>r)::zpJ i os rs
def zqA(i:K)(ob:N (K×Od)):N Rb:=ob.map λe=>⟨Z i,yD,[],e.1,e.2⟩
def zw1(ob:N (K×Od)):N Rb:=ob.map λe=>⟨yD,yD,[],e.1,e.2⟩
def zgF:N Rb->N (K×Od)
 |[]=>[]
 |r::rs=>match r.c with
  |none=>(r.o,r.x)::zgF rs
  |some _=>zgF rs
def okO(n:K)(ob:N (K×Od)):ws:=ob.all λe=>xcU e.1 n
def zbs(σ:Sg):N K->Sg
 |[]=>σ
 |o::r=>zbs (zei σ o) r
def zoT:N RM->ws
 |[]=>I
 |.own _ _::_=>yL
 |.var _ _::_=>yL
 |_::r=>zoT r
def zsM(σ:Sg)(b:ws)(d:V vn):Op->ws
 |.alloc _=>I
 |.store _ _ _=>I
 |.makeSlice _ _ _=>I
 |.buildSlice _ _ _=> !b
 |.box _ _=>zvi cf d
 |.build _ _=>(zhC cf d).isSome
 |.load _ x=>zmO (xT cx σ x)||(zeB σ<|xT cx σ x).isSome
 |.slice _ x yD (Z _) yD=>(match xT cx σ x with
  |some (.ow _)=>I
  |_=>yL)
 |.call ⟨.builtin .append,_,_⟩=>I
 |.call ⟨.builtin .copy,_,_⟩=>I
 |.call ⟨.value f,a,_⟩=>(match xT cx σ f with
  |some (.fn f' _)=>(match ziF cx σ f' a.toList cf.cs with
   |some s=> !(Sw s.dom)||(!b && !(zoT s.cod))
   |none=>(zoJ cf.ms f').isSome)
  |some (.yd _)=>I
  |some (.bm _ _ _)=>I
  |_=>yL)
 |_=>yL
def fzB(a:N K):V vn->ws
 |some t=>Bt a t
 |none=>yL
def zwi(b:ws)(d:V vn)(τ:Sg):Sg:=match b with
 |true=>zbs τ<|Ed<|LK d τ.rg
 |false=>τ
def ztc(τ:Sg)(d:V vn)(k:N (K×Dv)->K->N (K×Od)->V R):V R:=kS (okL τ.nx (LK d τ.rg) && okO τ.nx τ.ob)<|k (LK d τ.rg) τ.nx τ.ob
def zte(os:N K):Op->N K
 |.move _=>[]
 |.assign _=>[]
 |_=>os
def zlf(a:N wT)(b:N K):N wT->K->Sg->N Rb->N Oi->(Sg->N Rb->N Oi->V R)->V R
 |[],_,σ,rs,is,k=>k σ rs is
 |o::r,i,σ,rs,is,k=>kS (vz cx o.dst)<|Gh cx a o σ λσ w=>cnd w
  (zbK cx o σ λσ=>cnd (zsM cf cx ⟨σ.nx,σ.rg,Aq (A7 (xbr a.toArray o) σ.rg) rs⟩ (fzB b o.dst) o.dst o.op)
   (mOp cf ⟨0,[],cx.ob⟩ ⟨σ.nx,dd<|iQ (xbr a.toArray o)<|σ.rg++cx.rg,Aq (A7 (xbr a.toArray o) σ.rg) rs⟩ o.dst o.op λτ=>
    ztc (zwi (fzB b o.dst) o.dst τ) o.dst λl n ob=>zlf a b r (i+1) ⟨n,jq σ.rg o.dst l,[]⟩ (zpB i (A7 (xbr a.toArray o) σ.rg) rs++zqA i ob) (is++[⟨σ.nx,n,Ed l⟩]) k)
   (eOp cf cx ⟨σ.nx,σ.rg,Aq (zte (A7 (xbr a.toArray o) σ.rg) o.op) rs⟩ o.op λl=>kS (okL σ.nx l)<|zlf a b r (i+1) (σ.put o.dst l) (zpJ i (zte (A7 (xbr a.toArray o) σ.rg) o.op) rs) (is++[⟨σ.nx,σ.nx,Ed l⟩]) k))
  (zlf a b r (i+1) (σ.put o.dst [(0,.un)]) rs (is++[⟨σ.nx,σ.nx,[]⟩]) k)
def inB(a:Oi)(o:K):ws:=xfI a.lo o && xcU o a.hi
def zrl(l:N wT)(i:K)(c:Oi)(rs:N Rb)(b:N (Oi×K)):ws:=
 (rs.all λr=> !inB c r.o||(match r.a with
  |some j=>xad j i||jL l 16 j i
  |none=>yL)) && b.all λJ=>J.1.refs.all λp=> !inB c p||xad J.2 i||jL l 16 J.2 i
def zqZ(l:N wT)(m:K)(rs:N Rb)(is:N Oi):ws:=
 (rs.all λr=>(match r.a with
  |some j=>xcU j m && r.rd.all λi=>jL l 16 i j
  |none=>I) && (match r.c with
  |some k=>xcU k m && (match r.a with
   |some j=>jL l 16 k j
   |none=>I) && r.rd.all λi=>jL l 16 k i
  |none=>I)) &&
 (is.zipIdx.all λJ=>zrl l J.2 J.1 rs is.zipIdx) &&
 (xaE m).all λi=>(xaE m).all λj=>xad i j||(match(yn l i).dst with
  |some t=> !((yn l j).dst==Z t)
  |none=>I)
def ziu(l:N wT):K->K->K
 |0,m=>m
 |f+1,m=>bif xcU 1 m && Q4 l (m-1)then ziu l f (m-1)else m
def zuR(al:N (K×wr)):wr->wr
 |.tmp t=>(match gI al t with
  |some x=>x
  |none=> .tmp t)
 |x=>x
def zwP(al:N (K×wr))(o:wT):N (K×wr):=match o.op,o.dst with
 |.move x,Z d=>(d,zuR al x)::al
 |.assign x,Z d=>(d,zuR al x)::al
 |_,_=>al
def zuL:N wT->N (K×wr)->Sg->Sg
 |[],_,σ=>σ
 |o::r,al,σ=>zuL r (zwP al o)<|zrM cx σ<|(zuo cf cx σ o.dst o.op).map<|zuR al
def zuN(id:K):N K:=match gI cf.an.dz id with
 |some l=>l
 |none=>[]
def zxX(l:N wT):N K:=l.filterMap (·.dst)
def zqs(a:N K)(l:N wT)(m:K)(σ:Sg)(k:Sg->V R):V R:=
 zlf cf cx l a (l.take m) 0 ⟨σ.nx,σ.rg,[]⟩ (zw1 σ.ob) [] λσ rs is=>kS (zqZ l m rs is)<|zkC cf cx l (l.drop m) ⟨σ.nx,dd σ.rg,zgF rs⟩ k
def zv2(id:K):ws:=match gI cf.an.dz id with
 |some _=>I
 |none=>yL
def zt7(id:K)(l:N wT)(a:ws)(σ:Sg)(k:Sg->V R):V R:=
 cnd a
  (let m:=ziu l (X l) (X l)
  kS (Q4 l m)<|cnd (zv2 cf id) (zqs cf cx (zuN cf id) l m (zbs σ<|A7 (zuN cf id) σ.rg) k) (zqs cf cx (zxX<|l.take m) l m (zuL cf cx (l.take m) [] σ) k))
  (zkC cf cx l l σ k)
def Ua:N (K×TF)->Type
 |[]=>wW
 |[a]=>a.2.D
 |a::b::r=>a.2.D×Ua (b::r)
def oo(σ:Sg)(ds:N (K×TF))(t:K)(f:TF)(k:f.D->N K->V R):V R:=match f,k with
 |.d s,k=>Nt (get cx σ t 0) s λy=>k y []
 |.q s,k=>(match get cx σ t 0 with
  |some (.q a x)=>Ty.cast a s x λy=>k y []
  |_=>yD)
 |.own s E,k=>(match get cx σ t 0 with
  |some (.ow o)=>(match xQ σ.ob o with
   |some (.own a b xs)=>kS (xad E b)<|Ty.cast (.l a) (.l s) xs λy=>k y [o]
   |_=>yD)
  |some .nil=>k ([]:N s.D) []
  |_=>yD)
 |.var s E,k=>(match get cx σ t 0 with
  |some (.vs o _)=>(match xQ σ.ob o with
   |some (.var a b z)=>kS (xad E b)<|Ty.cast a s z λy=>k y [o]
   |_=>yD)
  |_=>yD)
 |.mat s E E1,k=>(match get cx σ t 0 with
  |some (.mw o)=>(match xQ σ.ob o with
   |some (.mat a b c e ix)=>kS (xad E b && xad E1 c)<|Ty.cast (.l (.l a)) (.l (.l s)) e λy=>k (y,ix) [o]
   |_=>yD)
  |some .nil=>k (([],[]):N (N s.D)×N K) []
  |_=>yD)
 |.matv s E E1,k=>(match get cx σ t 0 with
  |some (.mv o lo n)=>(match xQ σ.ob o with
   |some (.mat a b c e ix)=>kS (xad E b && xad E1 c)<|Ty.cast (.l (.l a)) (.l (.l s)) e λy=>k ((y,ix),(lo,n)) [o]
   |_=>yD)
  |_=>yD)
 |.row j,k=>(match get cx σ t 0,ds[j]? with
  |some (.rw o r),Z (s,.mat _ _ _)=>(match get cx σ s 0 with
   |some (.mw g)=>kS (xad o g)<|k r []
   |_=>yD)
  |some (.rw o r),Z (s,.matv _ _ _)=>(match get cx σ s 0 with
   |some (.mv g _ _)=>kS (xad o g)<|k r []
   |_=>yD)
  |_,_=>yD)
 |.view j,k=>(match get cx σ t 0,ds[j]? with
  |some (.mv o lo n),Z (s,.mat _ _ _)=>(match get cx σ s 0 with
   |some (.mw g)=>kS (xad o g)<|k (lo,n) []
   |_=>yD)
  |some (.mv o lo n),Z (s,.matv _ _ _)=>(match get cx σ s 0 with
   |some (.mv g _ _)=>kS (xad o g)<|k (lo,n) []
   |_=>yD)
  |_,_=>yD)
 |.vr s E m E1 n i,k=>(match get cx σ t 0 with
  |some (.mw o)=>(match xQ σ.ob o with
   |some (.vr a b h c p u z xs)=>kS (xad E b && (xad E1 c && (xad n p && xad i u)))<|Ty.cast a s z λz=>Ty.cast (.l h) (.l m) xs λxs=>k (z,xs) [o]
   |_=>yD)
  |_=>yD)
 |.bo s E v,k=>(match get cx σ t 0 with
  |some (.mw o)=>(match xQ σ.ob o with
   |some (.bo a b c xs)=>kS (xad E b && xad v c)<|Ty.cast (.l a) (.l s) xs λy=>k y [o]
   |_=>yD)
  |_=>yD)
def RJ(os:N K):N K->ws
 |[]=>I
 |o::r=> !Bt os o && RJ os r
def gat(σ:Sg)(ds:N (K×TF)):(l:N (K×TF))->(Ua l->N K->V R)->V R
 |[],k=>k () []
 |[a],k=>oo cx σ ds a.1 a.2 k
 |a::b::r,k=>oo cx σ ds a.1 a.2 λx o=>gat σ ds (b::r) λy os=>kS (RJ os o)<|k (x,y) (o++os)
def zrw(σ:Sg):N (K×NF)->ws
 |[]=>I
 |(t,f)::r=>(match f,get cx σ t 0 with
  |.kb b,Z (.kb c)=>b==c
  |.nil,Z .nil=>I
  |.ci x,Z (.d .i y)=>eqI x y
  |.cu x,Z (.d .u y)=>eqU x y
  |.al s,Z (.ow o)=>(match get cx σ s 0 with
   |some (.ow a)=>xad o a
   |_=>yL)
  |.al s,Z (.vs o _)=>(match get cx σ s 0 with
   |some (.vs a _)=>xad o a
   |_=>yL)
  |.al s,Z (.mw o)=>(match get cx σ s 0 with
   |some (.mw a)=>xad o a
   |_=>yL)
  |.bm s f,Z (.bm f' o _)=>(match get cx σ s 0 with
   |some (.vs a _)=>xad o a && xad f f'
   |_=>yL)
  |_,_=>yL) && zrw σ r
def zaL(n0 o:K)(f:TF)(x:f.D):Dv×V Od:=match f,x with
 |.d t,x=>(.d t x,yD)
 |.q t,x=>(.q t x,yD)
 |.own t E,x=>(.ow o,Z (.own t E x))
 |.var t E,x=>(.vs o t,Z (.var t E x))
 |.mat t E E1,x=>(.mw o,Z (.mat t E E1 x.1 x.2))
 |.matv t E E1,x=>(.mv o x.2.1 x.2.2,Z (.mat t E E1 x.1.1 x.1.2))
 |.row j,r=>(.rw (n0+j) r,yD)
 |.view j,r=>(.mv (n0+j) r.1 r.2,yD)
 |.bo t E a,x=>(.mw o,Z (.bo t E a x))
 |.vr t E s E1 n i,x=>(.mw o,Z (.vr t E s E1 n i x.1 x.2))
def AB(n0:K):(l:N (K×TF))->Ua l->K->N (K×K×Dv)×N (K×Od)
 |[],_,_=>([],[])
 |[a],x,o=>let v:=zaL n0 o a.2 x
  ([(a.1,0,v.1)],match v.2 with
   |some y=>[(o,y)]
   |none=>[])
 |a::b::r,x,o=>let v:=zaL n0 o a.2 x.1
  let y:=AB n0 (b::r) x.2<|o+1
  ((a.1,0,v.1)::y.1,match v.2 with
   |some q=>(o,q)::y.2
   |none=>y.2)
def zd1(rg:N (K×K×Dv)):N (K×NF)->N (K×K×Dv)
 |[]=>rg
 |(t,f)::r=>(match f with
  |.kb b=>[(t,0,.kb b)]
  |.nil=>[(t,0,.nil)]
  |.ci x=>[(t,0,.d .i x)]
  |.cu x=>[(t,0,.d .u x)]
  |.al s=>(match Br rg s 0 with
   |some v=>[(t,0,v)]
   |none=>[])
  |.bm s f=>(match Br rg s 0 with
   |some (.vs o q)=>[(t,0,.bm f o q)]
   |_=>[]))++zd1 rg r
def eR(sh:Sh)(x:Ua sh.ds)(kp:Sg):Sg:=
 let y:=AB kp.nx sh.ds x kp.nx
 ⟨kp.nx+X sh.ds,zd1 y.1 sh.ns++y.1++kp.rg,y.2++kp.ob⟩
def zl8(σ:Sg):N (K×TF)->Sg
 |[]=>σ
 |(t,.d _)::r=>zl8 (frz cx σ (.tmp t)) r
 |_::r=>zl8 σ r
def Gw(sh:Sh)(σ:Sg)(k:Ua sh.ds->V R):V R:=let σ:=zl8 cx σ sh.ds
 kS (zrw cx σ sh.ns)<|gat cx σ sh.ds sh.ds λx _=>k x
def SmD:N (Tg×Sh)->Type
 |[]=>Empty
 |[a]=>Ua a.2.ds
 |a::b::r=>Ua a.2.ds⊕SmD (b::r)
def zlc:Tg->Tg->ws
 |.n,.n=>I
 |.x i,.x j=>xad i j
 |.r,.r=>I
 |_,_=>yL
def zpk(σ:Sg)(t:Tg):(l:N (Tg×Sh))->(SmD l->V R)->V R
 |[],_=>yD
 |[a],k=>kS (zlc a.1 t)<|Gw cx a.2 σ k
 |a::b::r,k=>cnd (zlc a.1 t) (Gw cx a.2 σ λx=>k (.inl x))<|zpk σ t (b::r) λy=>k (.inr y)
def zfL(kp:Sg)(K:Tg->Sg->V R):(l:N (Tg×Sh))->SmD l->V R
 |[]=>λ_=>yD
 |[a]=>λx=>K a.1<|eR a.2 x kp
 |a::b::r=>λx=>xfj (α:=Ua a.2.ds) (β:=SmD (b::r)) (λx=>K a.1<|eR a.2 x kp) (zfL kp K (b::r)) x
def Td:vP->N K
 |.region _ d _=>d.toList.filterMap (·.dst)
 |.seq a b=>Td a++Td b
 |.cond _ a b=>Td a++Td b
 |.block _ c=>Td c
 |.loop c=>Td c
 |.scope c=>Td c
 |.rangeFunc _ ps a c=>ps.toList++(Td a++Td c)
 |_=>[]
def rid:vP->V K
 |.region i _ _=>Z i
 |.seq a b=>(match rid a with
  |some i=>Z i
  |none=>rid b)
 |.cond _ a b=>(match rid a with
  |some i=>Z i
  |none=>rid b)
 |.block _ c=>rid c
 |.loop c=>rid c
 |.scope c=>rid c
 |.rangeFunc _ _ a c=>(match rid a with
  |some i=>Z i
  |none=>rid c)
 |_=>yD
def zs4:V K->K
 |some i=>i+1
 |none=>0
def zyG(a b:vP):K:=zs4 (rid a)*65536+zs4 (rid b)
def zbc(σ:Sg):N K->N K
 |[]=>[]
 |t::r=>match Br σ.rg t 0 with
  |some v=>(match qd v with
   |some o=>o::zbc σ r
   |none=>zbc σ r)
  |none=>zbc σ r
def zoU(a b:N K)(e:K×K×Dv):ws:= !Bt a e.1 && (match qd e.2.2 with
 |some o=>Bt b o
 |none=>I)
def keep(σ:Sg)(a ro:N K):Sg:=let b:=zbc σ ro
 ⟨σ.nx,σ.rg.filter<|zoU a b,σ.ob.filter λe=>Bt b e.1⟩
def rest(σ:Sg)(a ro:N K):Sg:=let b:=zbc σ ro
 ⟨σ.nx,σ.rg.filter<|λe=> !zoU a b e,σ.ob.filter λe=> !Bt b e.1⟩
def uI(cx kp:Sg):Sg:=⟨kp.nx,kp.rg++cx.rg,kp.ob++cx.ob⟩
def nG:N (K×TF)->ws
 |[]=>I
 |(_,.own _ _)::r=>nG r
 |(_,.var _ _)::r=>nG r
 |(_,.mat _ _ _)::r=>nG r
 |(_,.bo _ _ _)::r=>nG r
 |_=>yL
def LJ:N (K×TF)->K->N (K×K×Dv)
 |[],_=>[]
 |(t,.mat _ _ _)::r,n=>(t,0,.mw n)::LJ r (n+1)
 |(t,.bo _ _ _)::r,n=>(t,0,.mw n)::LJ r (n+1)
 |(t,_)::r,n=>(t,0,.ow n)::LJ r (n+1)
def zbU{a:K×TF}:{l:N (K×TF)}->a.2.D->Ua l->Ua (a::l)
 |[],y,_=>y
 |_::_,y,x=>(y,x)
def AO{a:K×TF}:{l:N (K×TF)}->Ua (a::l)->a.2.D×Ua l
 |[],z=>(z,())
 |_::_,z=>z
def ZB(pt:K)(t:Ty)(E:wn)(ds:N (K×TF)):Sh:=⟨(pt,.own t E)::ds,[]⟩
def zn6(ds:N (K×TF))(t:K):ws:=ds.all λe=> !xad e.1 t
def zms:N (K×TF)->ws
 |[]=>I
 |e::r=>zn6 r e.1 && zms r
def cpR(cx':Sg)(n:K)(sh:Sh):Sg:=⟨n+X sh.ds,LJ sh.ds n++cx'.rg,cx'.ob⟩
def zuX(cp:Sg)(ds:N (K×TF))(t:Ty)(E:wn)(pt:K)(τ:Tg)(q:Tg)(σ:Sg):V (N t.D×(Ua ds⊕Ua ds)):=match q with
 |.n=>Gw cp (ZB pt t E ds) σ λz=>Z ((AO z).1,.inl (AO z).2)
 |.x i=>kS (zlc τ (.x i))<|Gw cp (ZB pt t E ds) σ λz=>Z ((AO z).1,.inr (AO z).2)
 |.r=>kS (zlc τ .r)<|Gw cp (ZB pt t E ds) σ λz=>Z ((AO z).1,.inr (AO z).2)
def zxb(cx':Sg)(n:K)(ds:N (K×TF))(t:Ty)(E:wn)(pt:K)(τ:Tg)
 (b c:Sg->Sg->(Tg->Sg->V (N t.D×(Ua ds⊕Ua ds)))->V (N t.D×(Ua ds⊕Ua ds))) (ys:N t.D) (x:Ua ds):V (N t.D×(Ua ds⊕Ua ds)):=
 b (cpR cx' n<|ZB pt t E ds) (eR (ZB pt t E ds) (zbU (a:=(pt,.own t E)) ys x) ⟨n,[],[]⟩) λq σ=>match q with
  |.n=>c (cpR cx' n<|ZB pt t E ds) σ<|zuX (cpR cx' n<|ZB pt t E ds) ds t E pt τ
  |_=>yD
def zhB{R:Type}(cx σ:Sg)(K:Tg->Sg->V R)(s:Lp)(it:TZ)(y:pK it.dom)(τ:Tg)(pt:zV)(a:N zV)
 (b c:Sg->Sg->(Tg->Sg->V (N it.t.D×(Ua s.hd.ds⊕Ua s.hd.ds)))->V (N it.t.D×(Ua s.hd.ds⊕Ua s.hd.ds))):V R:=
 let kp:=keep σ a s.sg.ro
 let cx':=uI cx kp
 kS (nG s.hd.ds && (zms (ZB pt it.t it.E s.hd.ds).ds && KS cx'.rg pt))<|Gw cx' s.hd (rest σ a s.sg.ro) λx=>
  bd (it.M (X:=Ua s.hd.ds) (Y:=Ua s.hd.ds) y (zxb cx' kp.nx s.hd.ds it.t it.E pt τ b c) x) λr=>xfj (λx=>K .n<|eR s.hd x kp) (λx=>K τ<|eR s.hd x kp) r
def noR:vP->ws
 |.seq a b=>noR a && noR b
 |.cond _ a b=>noR a && noR b
 |.block _ c=>noR c
 |.loop c=>noR c
 |.scope c=>noR c
 |.rangeFunc _ _ _ _=>yL
 |_=>I
end
def Az(cf:Cf):vP->{R:Type}->Sg->Sg->(Tg->Sg->V R)->V R
 |.skip,_,cx,σ,K=>K .n σ
 |.label _,_,cx,σ,K=>K .n σ
 |.exit id,_,cx,σ,K=>K (.x id) σ
 |.ret,_,cx,σ,K=>K .r σ
 |.scope c,_,cx,σ,K=>Az cf c cx σ K
 |.region i h k,_,cx,σ,K=>zt7 cf cx i h.toList k σ λσ=>K .n σ
 |.cond c a b,_,cx,σ,K=>(match xT cx σ c with
  |some (.kb I)=>Az cf a cx σ K
  |some (.kb yL)=>Az cf b cx σ K
  |some (.d .b x)=>ifB x (Az cf a cx σ K)<|Az cf b cx σ K
  |_=>yD)
 |.block id c,_,cx,σ,K=>Az cf c cx σ λt σ=>match t with
  |.x j=>cnd (xad j id) (K .n σ)<|K (.x j) σ
  |t=>K t σ
 |.seq a b,_,cx,σ,K=>
  (match gI cf.an.jn (zyG a b)with
  |none=>Az cf a cx σ λt σ=>(match t with
   |.n=>Az cf b cx σ K
   |t=>K t σ)
  |some s=>
   let e:=Td a
   let kp:=keep σ e s.ro
   Y (Az cf a (uI cx kp) (rest σ e s.ro) λt σ=>zpk (uI cx kp) σ t s.tg Z) λx=>
    zfL kp (λt σ=>match t with
     |.n=>Az cf b cx σ K
     |t=>K t σ) s.tg x)
 |.loop c,_,cx,σ,K=>
  (match(match rid c with
   |some i=>gI cf.an.lp i
   |none=>yD)with
  |none=>yD
  |some s=>
   let e:=Td c
   let kp:=keep σ e s.sg.ro
   let cx':=uI cx kp
   Gw cx' s.hd (rest σ e s.sg.ro) λx=>
    Y (zg (λL x=>Az cf c cx' (eR s.hd x ⟨kp.nx,[],[]⟩) λt σ=>match t with
     |.n=>Gw cx' s.hd σ L
     |t=>zpk cx' σ t s.sg.tg Z) cf.fu x) λx=>zfL kp K s.sg.tg x)
 |.rangeFunc g ps a c,_,cx,σ,K=>
  (match xT cx σ g,(match rid c with
   |some i=>gI cf.an.lp i
   |none=>yD),ps.toList with
  |some (.fn f cs),Z s,[pt]=>(match zra cf.is f,s.sg.tg,s.hd.ns with
   |some it,[(τ,_)],[]=>(match nh it.dom cs with
    |some y=>kS (noR a && noR c)<|zhB cx σ K s it y τ pt (pt::(Td a++Td c)) (λcx σ K=>Az cf a cx σ K) (λcx σ K=>Az cf c cx σ K)
    |none=>yD)
   |_,_,_=>yD)
  |_,_,_=>yD)
 |_,_,_,_,_=>yD
def QE:(dom:N AM)->pK dom->K->N (K×K×Dv)×N (K×Od)
 |[],_,_=>([],[])
 |.d t::r,x,i=>let y:=QE r x.2 (i+1)
  ((i,0,.d t x.1)::y.1,y.2)
 |.q t::r,x,i=>let y:=QE r x.2 (i+1)
  ((i,0,.q t x.1)::y.1,y.2)
 |.own t E::r,x,i=>let y:=QE r x.2 (i+1)
  ((i,0,.ow i)::y.1,(i,.own t E x.1)::y.2)
 |.var t E::r,x,i=>let y:=QE r x.2 (i+1)
  ((i,0,.vs i t)::y.1,(i,.var t E x.1)::y.2)
 |.fn dom cod::r,x,i=>let y:=QE r x.2 (i+1)
  ((i,0,.fp dom cod x.1)::y.1,y.2)
def PZ{R:Type}(cf:Cf)(σ:Sg)(r:qc)(m:RM)(k:m.D->N K->V R):V R:=match r,m,k with
 |.tmp t,.d s,k=>Nt (get ⟨0,[],[]⟩ σ t 0) s λy=>k y []
 |.tmp t,.own s E,k=>oo ⟨0,[],[]⟩ σ [] t (.own s E) k
 |.tmp t,.var s E,k=>oo ⟨0,[],[]⟩ σ [] t (.var s E) k
 |.cell t E,.d s,k=>(match get ⟨0,[],[]⟩ σ t 0,Xo cf E with
  |some (.vs o _),Z a=>(match xQ σ.ob o with
   |some (.var b c z)=>kS (xad E c)<|Ty.cast b a.ty z λz=>Ty.cast a.ty s z λy=>k y [o]
   |_=>yD)
  |_,_=>yD)
 |_,_,_=>yD
def zeP{R:Type}(cf:Cf)(σ:Sg):N qc->(cod:N RM)->(CZ cod->N K->V R)->V R
 |[],[],k=>k () []
 |[v],[m],k=>PZ cf σ v m k
 |v::a::vs,m::m'::ms,k=>PZ cf σ v m λx o=>zeP cf σ (a::vs) (m'::ms) λy os=>kS (RJ os o)<|k (x,y) (o++os)
 |_,_,_=>yD
def okC(N:K):vP->ws
 |.region _ d _=>d.toList.all λo=>kP N o.dst
 |.seq a b=>okC N a && okC N b
 |.cond _ a b=>okC N a && okC N b
 |.block _ c=>okC N c
 |.loop c=>okC N c
 |.scope c=>okC N c
 |.rangeFunc _ ps a c=>(ps.toList.all λp=>xcU p N) && (okC N a && okC N c)
 |_=>I
def nC(σ:Sg):N qc->N RM->Sg
 |.tmp t::vs,.d _::ms=>nC (frz ⟨0,[],[]⟩ σ (.tmp t)) vs ms
 |_::vs,_::ms=>nC σ vs ms
 |_,_=>σ
def zis(cf:Cf)(fn:jP)(dom:N AM)(cod:N RM)(x:pK dom):V (CZ cod):=match fn.body with
 |some c=>kS (okC fn.ntmps c && xfI (X dom) fn.ntmps)<|
  let y:=QE dom x 0
  Az cf c ⟨0,[],[]⟩ ⟨X dom,y.1,y.2⟩ λt σ=>(match t with
   |.r=>zeP cf (nC σ fn.results.toList cod) fn.results.toList cod λy _=>Z y
   |.n=>zeP cf (nC σ fn.results.toList cod) fn.results.toList cod λy _=>Z y
   |_=>yD)
 |none=>yD
def zai:N AM->K->N qc
 |[],_=>[]
 |.own _ _::r,i=> .tmp i::zai r (i+1)
 |.var _ _::r,i=> .tmp i::zai r (i+1)
 |_::r,i=>zai r<|i+1
def RE(a:K->xn):N AM->K->N (K×K×Dv)
 |[],_=>[]
 |.own _ _::r,i=>(i,0,.pin<|a i)::RE a r (i+1)
 |.var _ _::r,i=>(i,0,.pin<|a i)::RE a r (i+1)
 |_::r,i=>RE a r<|i+1
def zqT(cf:Cf)(fn:jP)(dom:N AM)(cod:N RM)(bk:K)(b:K->xn)(x:pK dom):V (CZ cod):=match fn.body with
 |some c=>kS (okC fn.ntmps c && xfI (X dom) fn.ntmps && xad (X fn.results.toList+bk) (X cod) && xad (X (zai dom 0)) bk && xcU 0 bk)<|
  let y:=QE dom x 0
  let a:=fn.results.toList++zai dom 0
  Az cf c ⟨0,RE b dom 0,[]⟩ ⟨X dom,y.1,y.2⟩ λt σ=>(match t with
   |.r=>zeP cf (nC σ a cod) a cod λy _=>Z y
   |.n=>zeP cf (nC σ a cod) a cod λy _=>Z y
   |_=>yD)
 |none=>yD
end
section
def Ah(p:Prop):FF where
 p _ _:=p
 keep h _:=h
 sub h _:=h
def zc3:N PD->N xn->N FF
 |c::cs,v::vs=>fP c.t.rep c.x v::zc3 cs vs
 |_,_=>[]
def tsF:(ts:N Ty)->C4 ts->N xn->N FF
 |[],_,_=>[]
 |t::ts,x,vs=>fV t.rep x.1 (vs.headD wR)::tsF ts x.2 vs.tail
def csF:(ts:N Ty)->CsD ts->N xn->N FF
 |[],_,_=>[]
 |[t],x,vs=>[fV t.rep x<|vs.headD wR]
 |t::s::r,x,vs=>fV t.rep x.1 (vs.headD wR)::csF (s::r) x.2 vs.tail
def ztT(P:ww)(a:vi)(iG:N xn)(b:N FF)(dom cod:N Ty)(g:C4 dom->V (CsD cod)):Prop:=
 Tj P a=I/\∀(x:C4 dom) (r:CsD cod),g x=Z r->∀vs:N xn,X vs=X dom->
  Fn P a (vs++iG).toArray (tsF dom x vs++b) Qa (λus=>csF cod r us) (λus=>X us=X cod)
def fnF(P:ww)(dom cod:N Ty)(g:C4 dom->V (CsD cod))(v:xn):FF where
 p S w:=∃a iG b,v=.func (.func a) #[] iG.toArray/\ztT P a iG b dom cod g/\zK S b w
 keep:=by rintro S w w' ⟨a,iG,b,h1,c,d⟩ k;exact⟨a,iG,b,h1,c,zK.keep k d⟩
 sub:=by rintro S e w ⟨a,iG,b,h1,c,d⟩ k;exact⟨a,iG,b,h1,c,zK.sub k d⟩
def amF(P:ww):(a:AM)->a.D->xn->FF
 |.d t,x,v=>fV t.rep x v
 |.q t,x,v=>fP t.rep x v
 |.own _ _,_,_=>Ah vF
 |.var _ _,_,v=>Ah (∃b,v=.pointer (Z ⟨b,0,yD⟩))
 |.fn dom cod,g,v=>fnF P dom cod g v
def amM:(a:AM)->a.D->xn->N MF
 |.own t E,xs,v=>[mO t.rep E v xs]
 |.var t E,z,v=>[mP t.rep.c E v z]
 |_,_,_=>[]
def YY(P:ww):(dom:N AM)->pK dom->N xn->N FF
 |[],_,_=>[]
 |a::r,x,vs=>amF P a x.1 (vs.headD wR)::YY P r x.2 vs.tail
def W6:(dom:N AM)->pK dom->N xn->N MF
 |[],_,_=>[]
 |a::r,x,vs=>amM a x.1 (vs.headD wR)++W6 r x.2 vs.tail
def rmF:(m:RM)->m.D->xn->N FF
 |.d t,x,v=>[fV t.rep x v]
 |.own _ _,_,_=>[]
 |.var _ _,_,v=>[Ah (∃b,v=.pointer (Z ⟨b,0,yD⟩))]
def rmM:(m:RM)->m.D->xn->N MF
 |.own t E,xs,v=>[mO t.rep E v xs]
 |.var t E,z,v=>[mP t.rep.c E v z]
 |.d _,_,_=>[]
def X4:(rs:N RM)->CZ rs->N xn->N FF
 |[],_,_=>[]
 |[m],x,vs=>rmF m x<|vs.headD wR
 |m::n::r,x,vs=>rmF m x.1 (vs.headD wR)++X4 (n::r) x.2 vs.tail
def Wx:(rs:N RM)->CZ rs->N xn->N MF
 |[],_,_=>[]
 |[m],x,vs=>rmM m x<|vs.headD wR
 |m::n::r,x,vs=>rmM m x.1 (vs.headD wR)++Wx (n::r) x.2 vs.tail
def cR:N AM->N xn->N xn
 |[],_=>[]
 |.own _ _::r,vs=>vs.headD wR::cR r vs.tail
 |.var _ _::r,vs=>vs.headD wR::cR r vs.tail
 |_::r,vs=>cR r vs.tail
def zwz(bk n:K)(us:N xn):xn:=match bk with
 |0=>Qa us
 |b+1=>Qa<|us.take<|n-(b+1)
def zsy(dom:N AM)(vs:N xn)(bk n:K)(us:N xn):Prop:=match bk with
 |0=>X us=n
 |b+1=>X us=n/\us.drop (n-(b+1))=cR dom vs
def xI(P:ww)(s:QY):Prop:=
 Tj P s.f=I/\∀(x:pK s.dom) (r:CZ s.cod),s.M x=Z r->∀vs:N xn,X vs=X s.dom->
  FnG P s.f vs.toArray (W6 s.dom x vs) (YY P s.dom x vs) (zwz s.bk (X s.cod)) (λus=>Wx s.cod r us) (λus=>X4 s.cod r us) (zsy s.dom vs s.bk (X s.cod))
def xI.plain{P:ww}{s:QY}(h:xI P s)(a:s.bk=0){x:pK s.dom}{r:CZ s.cod}(b:s.M x=Z r){vs:N xn}(hl:X vs=X s.dom):
 FnG P s.f vs.toArray (W6 s.dom x vs) (YY P s.dom x vs) Qa (λus=>Wx s.cod r us) (λus=>X4 s.cod r us) (λus=>X us=X s.cod):=by
 have h1:=h.2 x r b vs hl;rw[a]at h1;exact h1
def zo2(P:ww)(t:wn)(i:K):V (K×ws×K):=match P.underlying t with
 |some (.struct fs)=>match fs[i]? with
  |some f=>match tyB P f.type with
   |some (agg,n,_,Z _)=>Z (f.offset,agg,n)
   |_=>yD
  |none=>yD
 |_=>yD
def zox(P:ww)(t:wn)(a:TI):Prop:=match a.k with
 |.int k=>P.underlying t=Z (.int k)
 |.bool=>P.underlying t=Z .bool
 |.str=>P.underlying t=Z .string
 |.sl E=>P.underlying t=Z (.slice E)/\∃e,a.ty=.l e
 |.st n=>a.ty.rep.agg=I/\(∀i f,xy n a.ty i=Z f->ziD P t i=Z f.off)/\
  (∃fs,P.underlying t=Z (.struct fs)/\∃pl:wL (K×K),(∀w,(fs.mapM (λf=>do pure (f.offset,<-qo f.type)):Sem (wL<|K×K)).run P w=.ok pl w)/\
   ∀i f,xy n a.ty i=Z f->pl[i]? =Z (f.off,f.f.n))/\
  ∀i f,xy n a.ty i=Z f->zo2 P t i=Z (f.off,f.f.rep.agg,f.f.n)
 |.ar k E=>a.ty.rep.agg=I/\P.underlying t=Z (.array k E)
 |.pt E=>P.underlying t=Z (.pointer E)
def znj(P:ww)(t:wn)(b:TI):Prop:=
 (∃a,UI P t b.ty.rep.agg b.ty.rep.n b.B a/\a.cells.size=b.ty.rep.n/\(∀S w,b.ty.rep.p S b.ty.z a.cells.toList w)/\(∀s,b.ty=.l s->a=.slice yD 0 0)/\∀n i off s g st,xy n b.ty i=Z ⟨off,.l s,g,st⟩->a.cells.toList[off]? =Z (.slice yD 0 0))/\0<b.B/\0<b.ty.rep.n/\zox P t b
def xm(P:ww)(tt:N (K×TI)):Prop:=∀t a,gI tt t=Z a->znj P t a
def ZX(P:ww)(tt:N (K×TI)):Prop:=∀t s E B,gI tt t=Z ⟨.l s,.sl E,B⟩->∃a,gI tt E=Z a/\a.ty=s
def Fl.ok(t:Ty)(f:Fl t.D):Prop:=∀z:t.D,Sub t.rep.c z f.off f.f.rep (f.get z)<|λy=>f.set y z
def ztH(f:vi)(c:N PD)(v:xn):FF where
 p S w:=∃cs:N xn,v=.func (.func f) #[] cs.toArray/\X cs=X c/\zK S (zc3 c cs) w
 keep:=by rintro S w w' ⟨cs,h1,a,b⟩ k;exact⟨cs,h1,a,zK.keep k b⟩
 sub:=by rintro S d w ⟨cs,h1,a,b⟩ k;exact⟨cs,h1,a,zK.sub k b⟩
def MvV(v0:xn)(lo n:K)(v:xn):Prop:=(∃b m cap,v0=.slice (Z ⟨b,0,yD⟩) m cap/\lo+n<=m/\m<=cap/\cap<=9223372036854775807/\v=.slice (if cap=lo then Z ⟨b,0,yD⟩else Z ⟨b,0+lo*1,yD⟩) n (cap-lo))\/(v0=.slice yD 0 0/\lo=0/\n=0/\v=.slice yD 0 0)
def MvV.old{v0 v:xn}{lo n:K}(h:MvV v0 lo n v):(∃b m cap c,v0=.slice (Z ⟨b,0,yD⟩) m cap/\lo+n<=m/\n<=c/\c<=9223372036854775807/\v=.slice (Z ⟨b,0+lo*1,yD⟩) n c)\/(n=0/\∃e c,c<=9223372036854775807/\v=.slice e 0 c):=by
 rcases h with⟨b,m,cap,h1,d,f,g,a⟩|⟨h1,d,f,g⟩
 ·by_cases hc:cap=lo
  ·rw[S hc]at a;obtain rfl:n=0:=W
   simp_all
  ·rw[ir hc]at a;exact .inl ⟨b,m,cap,cap-lo,h1,d,W,W,a⟩
 ·simp_all
def MvV.same{v0 d v:xn}{lo n m:K}(h:MvV v0 lo n v)(f:MvV d lo n v)(hl:∀a k c,v0=.slice a k c->a.isSome=I->k=m)(p:∀a k c,d=.slice a k c->a.isSome=I->k=m):v0=d:=by
 rcases h with⟨b,k,cap,h1,g,i,j,q⟩|⟨h1,g,i,j⟩<;>rcases f with⟨r,s,e,q1,q2,l,o,t⟩|⟨q1,q2,l,o⟩
 ·grind
 ·simp_all
 ·simp_all
 ·grind
def zyp(F:FF)(p:Prop):FF where
 p S w:=F.p S w/\p
 keep h k:=⟨F.keep h.1 k,h.2⟩
 sub h k:=⟨F.sub h.1 k,h.2⟩
def qk(P:ww)(vs:K->xn):Dv->xn->FF
 |.d t x,v=>fV t.rep x v
 |.q t x,v=>fP t.rep x v
 |.kb b,v=>Ah<|v=.bool b
 |.un,v=>Ah<|v=wR
 |.nil,v=>Ah<|v=.slice yD 0 0
 |.ow o,v=>Ah<|v=vs o
 |.ep o t j f,v=>Ah (Fl.ok t f/\∃b n cap,vs o=.slice (Z ⟨b,0,yD⟩) n cap/\j<n/\v=.pointer (Z ⟨b,0+j*t.rep.n+f.off,yD⟩))
 |.sv o t lo n,v=>Ah<|(∃b m cap c,vs o=.slice (Z ⟨b,0,yD⟩) m cap/\lo+n<=m/\n<=c/\c<=9223372036854775807/\v=.slice (Z ⟨b,0+lo*t.rep.n,yD⟩) n c)\/(n=0/\∃a c,c<=9223372036854775807/\v=.slice a 0 c)
 |.vs o t,v=>Ah (v=vs o/\∃b,vs o=.pointer (Z ⟨b,0,yD⟩))
 |.vp o t f,v=>Ah (Fl.ok t f/\∃b,vs o=.pointer (Z ⟨b,0,yD⟩)/\v=.pointer (Z ⟨b,0+f.off,yD⟩))
 |.fn f c,v=>ztH f c v
 |.fp dom cod g,v=>fnF P dom cod g v
 |.pin u,v=>Ah<|v=u
 |.mw o,v=>Ah<|v=yY (vs o)
 |.mv o lo n,v=>Ah<|MvV (yY<|vs o) lo n v
 |.hp o j,v=>Ah (∃b n cap,yY (vs o)=.slice (Z ⟨b,0,yD⟩) n cap/\j<n/\v=.pointer (Z ⟨b,0+j*1,yD⟩))
 |.rw o r,v=>Ah<|(wm<|vs o)[r]? =Z v
 |.rp o t r j f,v=>Ah (Fl.ok t f/\∃b n cap,(wm<|vs o)[r]? =Z (.slice (Z ⟨b,0,yD⟩) n cap)/\j<n/\v=.pointer (Z ⟨b,0+j*t.rep.n+f.off,yD⟩))
 |.yd o,v=>Ah<|v=.func (.yield<|lOf<|yY<|vs o) #[] #[]
 |.np,v=>Ah<|v=.pointer yD
 |.vf o t n i,v=>Ah (∃b f,yY (vs o)=.pointer (Z ⟨b,0,yD⟩)/\xy n t i=Z f/\v=.pointer (Z ⟨b,0+f.off,yD⟩))
 |.dz t x n i,v=>zyp (fV t.rep x v) (∃f,xy n t i=Z f/\v.cells.toList[f.off]? =Z (.slice yD 0 0))
 |.bm f o t,v=>Ah (v=.func (.func f) #[vs o] #[]/\∃b,vs o=.pointer (Z ⟨b,0,yD⟩))
def qI(P:ww)(vs:K->xn)(d:Dv)(v:xn)(i:K):FF where
 p S w:=match i with
  |0=>(qk P vs d v).p S w
  |i+1=>∃us u,v=.tuple us/\us[i]? =Z u/\(qk P vs d u).p S w
 keep:=by
  intro S w w' h k
  cases i with
  |zero=>exact(qk P vs d v).keep h k
  |succ i=>have⟨us,u,h1,a,b⟩:=h;exact⟨us,u,h1,a,(qk P vs d u).keep b k⟩
 sub:=by
  intro S c w h k
  cases i with
  |zero=>exact(qk P vs d v).sub h k
  |succ i=>have⟨us,u,h1,a,b⟩:=h;exact⟨us,u,h1,a,(qk P vs d u).sub b k⟩
def vrP{α:Type}(s:Ty)(f:V (Fl α)):Prop:=∃(off:K) (g:α->(Ty.l s).D) (st:(Ty.l s).D->α->α),f=Z ⟨off,.l s,g,st⟩
def bH(vs:K->xn)(e:K×Od):MF:=match e.2 with
 |.own t E xs=>mO t.rep E (vs e.1) xs
 |.var t E z=>mP t.rep.c E (vs e.1) z
 |.mat t E E1 a ix=>Ih t.rep E E1 (vs e.1) a ix
 |.bo t E b xs=>mBo t.rep E b (vs e.1) xs
 |.ho b=>mHo b<|vs e.1
 |.vr t E s E1 n i z xs=>mVr (vrP s<|xy n t i) t.rep E (Vb<|xy n t i) (Ye s (xy n t i) []) s.rep E1 (vs e.1) z xs
 |.vh t E s E1 n i z=>mVh (vrP s<|xy n t i) t.rep E (Vb<|xy n t i) (Ye s (xy n t i) []) (vs e.1) z
 |.hid t E X Y f d g x=>PG [mPr<|ze3 Tryz.prog (lOf<|yY<|vs e.1) t.rep E f d g,f x<|(wm<|vs e.1).headD wR]
 |.hiy Y d y=>d y<|(wm<|vs e.1).headD wR
def MS(vs:K->xn)(ob:N (K×Od)):N MF:=ob.map<|bH vs
def RS(P:ww)(vs:K->xn)(env:xt)(rg:N (K×K×Dv)):N FF:=rg.map λe=>qI P vs e.2.2 (env e.1) e.2.1
structure Fr where
 we:xN
 Se:K->Prop
 F:N MF
 G:N FF
structure Bd(cx σ:Sg):Prop where
 o1:∀e∈σ.ob,e.1<σ.nx
 o2:∀e∈cx.ob,e.1<σ.nx
 r1:∀e∈σ.rg,∀o,qd e.2.2=Z o->o<σ.nx
 r2:∀e∈cx.rg,∀o,qd e.2.2=Z o->o<σ.nx
def Wq(P:ww)(fr:Fr)(cx σ:Sg)(env:xt)(w:xN):Prop:=
 Bd cx σ/\∃vs:K->xn,St fr.we fr.Se (MS vs σ.ob++(MS vs cx.ob++fr.F)) (RS P vs env σ.rg++(RS P vs env cx.rg++fr.G)) w
section
variable{P:ww}{vs vs':zV->xn}{env env':xt}
def Ag{d:Dv}(h:∀o,qd d=Z o->vs' o=vs o)(v:xn):qk P vs' d v=qk P vs d v:=by
 cases d<;>simp only[qk]<;>simp only[qd,xao,forall_eq']at h<;>rw[h]
def vc:∀{ob:N (K×Od)},(∀e∈ob,vs' e.1=vs e.1)->MS vs' ob=MS vs ob
 |[],_=>rfl
 |(o,x)::r,h=>by
  have h1:=h (o,x)<|Qh;have a:=vc λe b=>h e<|kE _ b;show bH vs' (o,x)::MS vs' r=bH vs (o,x)::MS vs r;rw[a];cases x<;>simp only[bH]<;>rw[h1]
def Xb:∀{rg:N (K×K×Dv)},(∀e∈rg,∀o,qd e.2.2=Z o->vs' o=vs o)->(∀e∈rg,env' e.1=env e.1)->RS P vs' env' rg=RS P vs env rg
 |[],_,_=>rfl
 |(t,i,d)::r,h,b=>by
  show qI P vs' d (env' t) i::RS P vs' env' r=qI P vs d (env t) i::RS P vs env r;rw[Xb (λe a=>h e<|kE _ a)<|λe a=>b e<|kE _ a,b (t,i,d)<|Qh];unfold qI;simp only[Ag<|h (t,i,d)<|Qh]
theorem YS{S:K->Prop}{w:xN}:∀{Γ:N FF},zK S Γ w↔∀f∈Γ,f.p S w
 |[]=>⟨λ_ f h=>wl h QT,λ_=>xS⟩
 |f::r=>by
  have a:=YS (S:=S) (w:=w) (Γ:=r);constructor
  ·intro h x hx;obtain rfl|hx:=PQ.1 hx
   ·exact h.1
   ·exact a.1 h.2 x hx
  ·intro h;exact⟨h f<|Qh,a.2 λx hx=>h x<|kE _ hx⟩
theorem yr{a b:K}(h:xad a b=I):a=b:=xdn h
theorem tU:∀{rg:N (K×K×Dv)}{t i:K}{d:Dv},Br rg t i=Z d->(t,i,d)∈rg
 |(a,b,e)::r,t,i,d,h=>by
  unfold Br at h;cases c:xad a t && xad b i
  ·rw[c]at h;exact kE _<|tU h
  ·simp_all
def ef{S:K->Prop}{w:xN}{rg:N (K×K×Dv)}(h:zK S (RS P vs env rg) w){t i:K}{d:Dv}(hd:(t,i,d)∈rg):(qI P vs d (env t) i).p S w:=
 YS.1 h _ (xan.2 ⟨(t,i,d),hd,O⟩)
theorem vG:∀{ob:N (K×Od)}{o:K}{x:Od},xQ ob o=Z x->∃i,ob[i]? =Z (o,x)/\(∀y,Zf ob o y=ob.set i (o,y))/\yJ ob o=ob.eraseIdx i
 |(b,e)::r,o,x,h=>by
  unfold xQ at h;cases a:xad b o
  ·rw[a]at h;have⟨i,h1,c,d⟩:=vG h;exact⟨i+1,by simpa using h1,λy=>by unfold Zf;rw[a];simp only[vH,xeR,c y],by unfold yJ;rw[a];simp only[vH,List.eraseIdx_cons_succ,d]⟩
  ·rw[a]at h;simp only[vL,xao]at h;have:=yr a;subst h;subst this;exact⟨0,O,λy=>by unfold Zf;rw[a];rfl,by unfold yJ;rw[a];rfl⟩
theorem aF{ob:N (K×Od)}{i:K}{e:K×Od}{R:N MF}(h:ob[i]? =Z e):(MS vs ob++R)[i]? =Z (bH vs e):=by grind [MS]
theorem NU{ob:N (K×Od)}{i:K}{e a:K×Od}{R:N MF}(h:ob[i]? =Z e):(MS vs ob++R).set i (bH vs a)=MS vs (ob.set i a)++R:=by grind [MS,List.map_set]
theorem zne{α:Type _}{β:Type _}(f:α->β):∀(l:N α) (i:K),(l.eraseIdx i).map f=(l.map f).eraseIdx i
 |[],i=>by simp
 |_::_,0=>rfl
 |a::l,i+1=>by simp only[List.eraseIdx_cons_succ,xch,zne f l i]
theorem rF{ob:N (K×Od)}{i:K}{e:K×Od}{R:N MF}(h:ob[i]? =Z e):(MS vs ob++R).eraseIdx i=MS vs (ob.eraseIdx i)++R:=by grind [MS,zne]
theorem zpo{cx σ:Sg}{o:K}{x:Od}(h:JE cx σ o=Z x):(o,x)∈σ.ob\/(o,x)∈cx.ob:=by grind [JE,vG]
theorem zcv{cx σ:Sg}{t i:K}{d:Dv}(h:get cx σ t i=Z d):(t,i,d)∈σ.rg\/(t,i,d)∈cx.rg:=by grind [get,tU]
def Y3{S:K->Prop}{w:xN}{cx σ:Sg}{o:K}{x:Od}{F:N MF}(a:xd S (MS vs σ.ob++(MS vs cx.ob++F)) w)(h:JE cx σ o=Z x):(bH vs (o,x)).p S w:=by
 refine Y9.1 a _ ?_;obtain h|h:=zpo h
 ·exact pN.2 (.inl<|xan.2 ⟨_,h,O⟩)
 ·exact pN.2 (.inr<|pN.2 (.inl<|xan.2 ⟨_,h,O⟩))
end
def yB{R:Type}{s t:Ty}{x:s.D}{k:t.D->V R}{r:R}(h:Ty.cast s t x k=Z r):∃e:s=t,k (e▸x)=Z r:=by grind [Ty.cast]
def yv{R:Type}{b:ws}{x:V R}{r:R}(h:kS b x=Z r):b=I/\x=Z r:=by grind
end
section
open Go.ChangeShapes Go.WideShapes Go.ChangeAt Go.RowKit
def Jw(P:ww):Ty->wn->Prop
 |.i,T=>P.underlying T=Z (.int .i64)
 |.u,T=>P.underlying T=Z (.int .u64)
 |.b,T=>P.underlying T=Z .bool
 |.l t,T=>∃E,P.underlying T=Z (.slice E)/\P.cellsOf E=t.n/\0<t.n/\Jw P t E
 |.p s t,T=>∃f0 f1:Field,P.underlying T=Z (.struct #[f0,f1])/\P.cellsOf T=s.n+t.n/\f0.offset=0/\f1.offset=s.n/\P.cellsOf f0.type=s.n/\P.cellsOf f1.type=t.n/\Jw P s f0.type/\Jw P t f1.type
 |.ch,T=>P.underlying T=Z (.int .u8)
 |.tx,T=>P.underlying T=Z .string
 |.a _ _,_=>jN
 |.po _,_=>jN
 |.w1 _,_=>jN
def zxv(P:ww)(T:wn):V ((K×wn)×(K×wn)):=match P.underlying T with
 |some (.struct fs)=>match fs.toList with
  |[f0,f1]=>Z ((f0.offset,f0.type),(f1.offset,f1.type))
  |_=>yD
 |_=>yD
def Jw.st{P:ww}{s t:Ty}{T A B:wn}(h:zxv P T=Z ((0,A),(s.n,B)))(hc:P.cellsOf T=s.n+t.n)(b:P.cellsOf A=s.n)(c:P.cellsOf B=t.n)(h1:Jw P s A)(d:Jw P t B):Jw P (.p s t) T:=by
 unfold zxv at h;split at h
 ·next fs e=>
  split at h
  ·next f0 f1 g=>
   simp only[xao,xcZ]at h;have⟨⟨f,a⟩,a3,a4⟩:=h;have:fs= #[f0,f1]:=by cases fs;simp_all
   subst this;exact⟨f0,f1,e,hc,f,a3,by rw[a];exact b,by rw[a4];exact c,by rw[a];exact h1,by rw[a4];exact d⟩
  ·cases h
 ·cases h
def Jw.sl{P:ww}{t:Ty}{T E:wn}(h:P.underlying T=Z (.slice E))(hc:P.cellsOf E=t.n)(hp:0<t.n)(h1:Jw P t E):Jw P (.l t) T:=⟨E,h,hc,hp,h1⟩
def zbR{w:xN}{b n:K}{a:kG}{c:N xn}(h:w.cells? b a n=Z c):X c=n/\∀i v,c[i]? =Z v->w.cell? (a.add i)=Z v:=by
 unfold World.cells? at h;split at h
 ·have:∀(l:N K) (c:N xn),l.mapM (λi=>w.cell?<|a.add i)=Z c->X c=X l/\∀(i j:K) (v:xn),c[i]? =Z v->l[i]? =Z j->w.cell? (a.add j)=Z v:=by
   intro l
   induction l with
   |nil=>intro c hc;simp at hc;subst hc;exact⟨O,λi j v hv=>by simp at hv⟩
   |cons x l g=>
    intro c hc;rw[List.mapM_cons]at hc
    cases d:w.cell? (a.add x)with
    |none=>rw[d]at hc;simp at hc
    |some y=>
     rw[d]at hc
     cases hl:l.mapM (λi=>w.cell?<|a.add i)with
     |none=>rw[hl]at hc;simp at hc
     |some r=>
      rw[hl]at hc;have hc:y::r=c:=by simpa using hc
      subst hc;have⟨h1,e⟩:=g r hl;refine⟨by simp[h1],λi j v hv f=> ?_⟩
      cases i with
      |zero=>simp at hv f;subst hv;subst f;exact d
      |succ i=>exact e i j v (by simpa using hv)<|by simpa using f
  have⟨h1,e⟩:=this _ _ h;refine⟨by simpa using h1,λi v hv=>e i i v hv ?_⟩;grind
 ·cases h
def zkM{w:xN}{a:kG}{v:xn}(h:w.cell? a=Z v):a=⟨a.block,a.off,yD⟩/\a.block<w.heap.size:=by
 unfold World.cell? at h;split at h
 ·next c _ _ d=>
  split at h
  ·cases h
  ·next e=>
   refine⟨?_,(xbd.1 d).1⟩;have⟨b,o,s⟩:=a
   cases s with
   |none=>rfl
   |some x=>simp at e
 ·cases h
def zsA(a:kG):a.add 0=a:=by grind [Addr.add]
section
variable{H:Type}{enc:wn×xn->H}{P:ww}{W:xN}{sp:zV->ws}{held:ws}
theorem zfV{t:Ty}{b o:K}(a:b<W.heap.size):∀(len:K),(∀i,i<len->∃(c:N xn) (z:t.D),W.cells? 0 (⟨b,o+i*t.n,yD⟩:kG) t.n=Z c/\t.rep.p (λ_=>vF) z c W)->
 ∃(xs:N t.D) (cs:N xn),X xs=len/\At W b o cs/\xa t.rep (λ_=>vF) xs cs W
 |0,_=>⟨[],[],O,⟨a,λj v hv=>by simp at hv⟩,O⟩
 |len+1,h=>by
  have⟨xs,cs,h1,e,d⟩:=zfV a len λi hi=>h i Yl;have⟨c,z,f,g⟩:=h len Yl;have⟨l,k⟩:=zbR f;have hl:=d.len;rw[Ty.n_rep]at hl;refine⟨xs++[z],cs++c,by simp[h1],⟨a,λj v hv=> ?_⟩,d.append ⟨c,[],Xn,g,O⟩⟩;rcases xbO j (X cs) with hj|hj
  ·rw[xbb hj]at hv;exact e.2 j v hv
  ·rw[xbv hj]at hv;have:=k _ v hv;rw[jY]at this;grind
def ED:∀(t:Ty) {T:wn}{n:K}{cs:N xn}{x:Yd H×N kW},Jw P t T->DataW.trod enc P W 0 sp held n T cs=Z x->∃z:t.D,t.rep.p (λ_=>vF) z cs W
 |.i,T,n,cs,x,d,h=>by
  obtain⟨v,rfl,_,g⟩:=DataW.trod_int d h;have: -9223372036854775808<=v/\v<=9223372036854775807:=by simpa[Lit.wf,IntKind.min,IntKind.max,IntKind.signed,IntKind.bits]using g
  exact⟨v,O,this.1,this.2⟩
 |.u,T,n,cs,x,d,h=>by
  obtain⟨v,rfl,_,g⟩:=DataW.trod_int d h;have:0<=v/\v<=18446744073709551615:=by simpa[Lit.wf,IntKind.min,IntKind.max,IntKind.signed,IntKind.bits]using g
  obtain⟨k,rfl⟩:=xat this.1;exact⟨k,O,Yl⟩
 |.ch,T,n,cs,x,d,h=>by
  obtain⟨v,rfl,_,g⟩:=DataW.trod_int d h;have:0<=v/\v<=255:=by simpa[Lit.wf,IntKind.min,IntKind.max,IntKind.signed,IntKind.bits]using g
  obtain⟨k,rfl⟩:=xat this.1;exact⟨k,O,Yl⟩
 |.tx,T,n,cs,x,d,h=>by
  obtain⟨s,rfl,_,C⟩:=DataW.trod_string d h;exact⟨xr s,s,O,O,C⟩
 |.b,T,n,cs,x,d,h=>by
  obtain⟨v,rfl,_⟩:=DataW.trod_bool d h;exact⟨v,O⟩
 |.l t,T,n,cs,x,d,h=>by
  have⟨E,j,hc,U,F⟩:=d;rcases DataW.trod_slice j h with⟨rfl,_⟩|⟨a,len,cap,q,rest,m,_,rfl,_,_,Y,hd,hg,r,_,_⟩
  ·exact⟨[],_,O,SlP.nil⟩
  ·rw[hc]at r;have f:∀i,i<len->∃(c:N xn) (z:t.D),W.cells? 0 (a.add<|i*t.n) t.n=Z c/\t.rep.p (λ_=>vF) z c W:=by
    intro i hi;have h1:=r i hi;rw[xaa Yl]at h1;have⟨c,w,y⟩:=Option.bind_eq_some_iff.1 h1;have⟨z,G⟩:=ED t F y;exact⟨c,z,w,G⟩
   obtain h0|h0:=xcb len
   ·subst h0;exact⟨[],_,O,Z a,cap,O,sB _,hd,.inl O⟩
   ·have⟨c,z,h1,w⟩:=f 0 h0;have⟨y,J⟩:=zbR h1;have A:=J 0 (c[0]'Yl) (xaa Yl);rw[xcs,zsA,zsA]at A;have⟨B,L⟩:=zkM A;rw[B]at f;have⟨xs,cs,g1,M,Q⟩:=zfV (t:=t) (b:=a.block) (o:=a.off) L len λi hi=>by
     have:=f i hi;rw[jY]at this;exact this
    refine⟨xs,_,O,Z a,cap,by rw[g1],Yl,hd,.inr ⟨a.block,a.off,cs,by rw[<-B],xS,M,Q⟩⟩
 |.p s t,T,n,cs,x,d,h=>by
  have⟨f0,f1,j,hc,o0,o1,c0,c1,h0,h1⟩:=d;have⟨y0,y1,m,_,hl,g0,g1⟩:=trod_struct2 j h;rw[o0,c0,List.drop_zero]at g0;rw[o1,c1]at g1;have⟨z0,R⟩:=ED s h0 g0;have⟨S,k1⟩:=ED t h1 g1;refine⟨(z0,S),cs.take s.n,(cs.drop s.n).take t.n,?_,R,k1⟩;rw[hc]at hl;have e:(cs.drop s.n).take t.n=cs.drop s.n:=xaQ (by simp;lia);rw[e,xbw]
 |.a _ _,_,_,_,_,d,_=>d.elim
 |.po _,_,_,_,_,d,_=>d.elim
 |.w1 _,_,_,_,_,d,_=>d.elim
def znV{t:Ty}{T:wn}{v:xn}{d:Yd H}{ps:N kW}(a:Jw P t T)(hv:v=t.rep.val v.cells.toList)(h:DataW.Trod enc P W 0 sp held T v d ps):∃z:t.D,(fV t.rep z v).p (λ_=>vF) W:=by
 have⟨n,h⟩:=h;have⟨z,b⟩:=ED t a h;exact⟨z,_,hv,b⟩
end
def zo0{P:ww}{s:QY}(h:xI P s)(c:s.bk=0)(hc:s.cod=[.d .b])(x:pK s.dom)(g:s.M x=Z (hc▸I:CZ s.cod)){vs:N xn}(hl:X vs=X s.dom)(i:W6 s.dom x vs=[]){W:xN}(a:zK (λ_=>vF) (YY P s.dom x vs) W):
 uL P s.f vs.toArray W λe j=>e=.returned (.bool I)/\dN W j:=by
 have⟨f,dom,cod,M,bk⟩:=s;simp only at hc c;subst hc;subst c;have h1:=h.2 x I g vs hl W (λ_=>vF) [] [] W;simp only[i,xbF,xbN]at h1;refine(h1 ⟨yO.refl _ _,λ_ _=>xS,xS,λ_=>vF,λ_ _=>xS,λ_ _=>xS,λm k=>wl k QT,xS,a⟩).mono ?_;rintro e w' ⟨us,l,n,o⟩;have⟨q,_,_,S,_,_,_,_,r⟩:=o;refine⟨?_,q⟩
 match us,n with
 |[u],_=>
  have:u=.bool I:=EW (show(fV zfh I u).p S w' from r.1);rw[l,this];rfl
end
section
open Go.ChangeShapes Go.WideShapes Go.ChangeAt Go.RowKit
section
variable{H:Type}{enc:wn×xn->H}{P:ww}{W:xN}{sp:zV->ws}{held:ws}
def ztw{r:Reach}{b0:K}:∀(t:Ty) {T:wn}{v:xn},Jw P t T->xei P W r b0 T v->v=t.rep.val v.cells.toList
 |.i,T,v,c,h=>by obtain⟨n,rfl⟩:=okWide_int c h;rfl
 |.u,T,v,c,h=>by obtain⟨n,rfl⟩:=okWide_int c h;rfl
 |.ch,T,v,c,h=>by obtain⟨n,rfl⟩:=okWide_int c h;rfl
 |.tx,T,v,c,h=>by
  have c:P.underlying T=Z .string:=c;simp only[xei,c,Cell.okWide]at h;unfold Cell.ok at h;rw[c]at h;cases v<;>simp at h;rfl
 |.b,T,v,c,h=>by
  have c:P.underlying T=Z .bool:=c;simp only[xei,c,Cell.okWide]at h;unfold Cell.ok at h;rw[c]at h;cases v<;>simp at h;rfl
 |.l t,T,v,c,h=>by
  have⟨E,c,_⟩:=c;simp only[xei,c,Cell.okWide]at h;unfold Cell.ok at h;rw[c]at h;cases v<;>simp at h;rfl
 |.p s t,T,v,c,h=>by
  have⟨f0,f1,c,_⟩:=c;simp only[xei,c]at h;obtain⟨cs,rfl,_⟩:=h;show Value.agg cs=Value.agg cs.toList.toArray;simp
 |.a _ _,T,v,c,_=>c.elim
 |.po _,T,v,c,_=>c.elim
 |.w1 _,T,v,c,_=>c.elim
def zn8{r:Reach}{b0:K}{t:Ty}{T:wn}{v:xn}{d:Yd H}{ps:N kW}(a:Jw P t T)(hv:xei P W r b0 T v)(h:DataW.Trod enc P W 0 sp held T v d ps):∃z:t.D,(fV t.rep z v).p (λ_=>vF) W:=
 znV a (ztw t a hv) h
def Ty.ok:(t:Ty)->t.D->Prop
 |.i,(x:J)=> -9223372036854775808<=x/\x<=9223372036854775807
 |.u,(x:K)=>x<18446744073709551616
 |.b,_=>vF
 |.ch,(x:K)=>x<256
 |.tx,xs=>xaD xs<=9223372036854775807/\∀x,List.Mem x xs->x<256
 |.l t,xs=>xaD xs<=9223372036854775807/\∀x,List.Mem x xs->t.ok x
 |.p s t,x=>s.ok x.1/\t.ok x.2
 |.a _ t,xs=>∀x,List.Mem x xs->t.ok x
 |.po _,_=>vF
 |.w1 t,x=>t.ok x
def OC{α:Type}{e:ye α}{S:K->Prop}{w:xN}{q:α->Prop}(b:∀x cs,e.p S x cs w->q x):∀{xs:N α}{cs:N xn},xa e S xs cs w->∀x,List.Mem x xs->q x
 |[],_,_,x,a=>nomatch a
 |y::ys,_,⟨c,r,_,hc,d⟩,x,a=>by
  cases a with
  |head=>exact b _ _ hc
  |tail _ a=>exact OC b d x a
def Gz:∀(t:Ty) {S:K->Prop}{z:t.D}{cs:N xn}{w:xN},t.rep.p S z cs w->t.ok z
 |.i,_,_,_,_,h=>h.2
 |.u,_,_,_,_,h=>h.2
 |.b,_,_,_,_,_=>trivial
 |.ch,_,_,_,_,h=>h.2
 |.tx,_,xs,_,_,h=>by
  have⟨s,_,h1,g⟩:=h;have f:=ky s;have h1:xr s=xs:=h1;refine⟨by show xaD (α:=K) xs<=_;rw[<-h1,f];exact g,λx e=> ?_⟩;have e:x∈xr s:=by rw[h1];exact e
  obtain⟨b,_,rfl⟩:=xan.1 e;exact UInt8.toNat_lt _
 |.l t,S,xs,_,w,h=>by
  have⟨v,_,m,cap,_,h1,g,f⟩:=h;refine⟨PX h1 g,?_⟩;obtain f|⟨b,o,cs,_,_,_,j⟩:=f
  ·have f:xs=([]:N t.D):=f;subst f;exact λx e=>nomatch e
  ·exact OC (λx cs e=>Gz t e) j
 |.p s t,S,z,_,w,h=>by
  have⟨c,d,_,h1,g⟩:=h;exact⟨Gz s h1,Gz t g⟩
 |.a k t,S,xs,_,w,h=>by
  have⟨_,h⟩:=h;exact OC (λx cs e=>Gz t e) h
 |.po _,_,_,_,_,_=>trivial
 |.w1 t,S,z,cs,w,h=>Gz t (S:=S) (cs:=cs) (w:=w) h
def zn0:(dom:N AM)->pK dom->Prop
 |[],_=>vF
 |.d t::r,x=>t.ok x.1/\zn0 r x.2
 |_::r,x=>zn0 r x.2
def zfw(P:ww):N AM->N wn->Prop
 |[],[]=>vF
 |.d t::r,T::Ts=>Jw P t T/\zfw P r Ts
 |_,_=>jN
def zjN:∀{dom:N AM}{Ts:N wn},zfw P dom Ts->X dom=X Ts
 |[],[],_=>rfl
 |.d t::r,T::Ts,h=>by simp[zjN h.2]
 |.d _::_,[],h=>h.elim
 |[],_::_,h=>h.elim
 |.q _::_,_,h=>h.elim
 |.own _ _::_,_,h=>h.elim
 |.var _ _::_,_,h=>h.elim
 |.fn _ _::_,_,h=>h.elim
def znK:∀{dom:N AM}{Ts:N wn},zfw P dom Ts->∀(x:pK dom) (vs:N xn),W6 dom x vs=[]
 |[],_,_,_,_=>rfl
 |.d t::r,T::Ts,h,x,vs=>by show[]++W6 r x.2 vs.tail=[];rw[znK h.2];rfl
 |.d _::_,[],h,_,_=>h.elim
 |.q _::_,_,h,_,_=>h.elim
 |.own _ _::_,_,h,_,_=>h.elim
 |.var _ _::_,_,h,_,_=>h.elim
 |.fn _ _::_,_,h,_,_=>h.elim
def zbd{r:Reach}{b0:K}:∀{dom:N AM}{Ts:N wn}{vs:N xn}{ds:N (Yd H)}{ps:N kW},zfw P dom Ts->(∀(j:K) t v,Ts[j]? =Z t->vs[j]? =Z v->xei P W r b0 t v)->xeD enc P W 0 sp held Ts vs ds ps->
 X vs=X Ts/\∃x:pK dom,zn0 dom x/\zK (λ_=>vF) (YY P dom x vs) W
 |[],[],[],[],_,_,_,_=>⟨O,(),xS,xS⟩
 |.d t::dom,T::Ts,v::vs,d::ds,ps,h,hv,b=>by
  have⟨p,q,h1,c,_⟩:=b;have⟨hl,x,hc,e⟩:=zbd h.2 (λj f g i hd=>hv (j+1) f g (by simpa using i)<|by simpa using hd) c;have⟨z,k⟩:=zn8 h.1 (hv 0 T v O O) h1;have⟨cs,l,a⟩:=k;exact⟨by simp[hl],(z,x),⟨Gz t a,hc⟩,⟨cs,l,a⟩,e⟩
 |[],[],_::_,_,_,_,_,h=>h.elim
 |[],[],[],_::_,_,_,_,h=>h.elim
 |.d _::_,_::_,[],_,_,_,_,h=>h.elim
 |.d _::_,_::_,_::_,[],_,_,_,h=>h.elim
 |.d _::_,[],_,_,_,h,_,_=>h.elim
 |[],_::_,_,_,_,h,_,_=>h.elim
 |.q _::_,_,_,_,_,h,_,_=>h.elim
 |.own _ _::_,_,_,_,_,h,_,_=>h.elim
 |.var _ _::_,_,_,_,_,h,_,_=>h.elim
 |.fn _ _::_,_,_,_,_,h,_,_=>h.elim
def zmF{a:xN}(c:dN W a){p:kW}(hp:p.block<W.heap.size):W.sameAt a p:=by
 cases p with
 |cell b off=>exact World.cell?_of_block<|c.block b hp xS
 |map b=>exact c.block b hp xS
def AK{c:xN}{b:K->ws}(hl:laidOutB P=I):∀{Ts:N wn}{vs:N xn}{ds:N (Yd H)}{ps:N kW},(∀t∈Ts,P.readableRec t=I/\t<P.types.size)->xeD enc P W 0 (λ_=>I) I Ts vs ds ps->
 (∀p∈ps,W.sameAt c p)->(∀p∈ps,b p.block=I)->xeD enc P c 0 b I Ts vs ds ps
 |[],[],[],_,_,h,_,_=>h
 |T::Ts,v::vs,d::ds,ps,e,h,h1,f=>by
  obtain⟨p,q,g1,i,rfl⟩:=h;have g:=e T<|Qh
  exact⟨p,q,Go.WideElems.Trod_stays hl g.1 g.2 g1 (λx a=>h1 x<|pN.2 (.inl a))<|λx a=>f x<|pN.2 (.inl a),
   AK hl (λt j=>e t<|kE _ j) i (λx a=>h1 x<|pN.2 (.inr a)) (λx a=>f x<|pN.2 (.inr a)),O⟩
 |[],[],_::_,_,_,h,_,_=>h.elim
 |[],_::_,_,_,_,h,_,_=>h.elim
 |_::_,[],_,_,_,h,_,_=>h.elim
 |_::_,_::_,[],_,_,h,_,_=>h.elim
end
def zsa{H:Type}{enc:wn×xn->H}{P:ww}{f:jP}{s:ChangeSpec}{c h z:ws}{W:xN}{i:K}{args:wL xn}{ds k:N (Yd H)}{a:N kW}{sg:QY}
 (l:DataW.Whole enc P f.params.toList s.vars c W args.toList ds k a) (r:s.vars=[]) (hi:∀(j:K) t v,f.params[j]? =Z t->args[j]? =Z v->xei P W .any i t v)
 (hl:laidOutB P=I) (A:∀t∈f.params.toList,P.readableRec t=I/\t<P.types.size) (m:zfw P sg.dom f.params.toList) (hc:sg.cod=[.d .b]) (C:xI P sg) (D:∀x,zn0 sg.dom x->sg.M x=Z (hc▸I:CZ sg.cod)) {B:wn} (E:f.resultTypes= #[B]) (F:P.underlying B=Z .bool)
 (n:s.fn H (ds++k)={results:=[.lit (.bool I)],args:=ds}) (G:sg.bk=0:=by rfl):
 uL P sg.f args W λe u=>∃v,e=.returned v/\s.post enc P f c h z yL W args v u:=by
 have⟨p,q,w,o,hn,V,Y⟩:=id l;rw[r]at o
 cases k with
 |cons g k=>exact o.elim
 |nil=>
  have J:q=[]:=o;subst J;have⟨L,x,Q,R⟩:=zbd (vs:=args.toList) m (λj t v S hv=>hi j t v (by simpa using S)<|by simpa using hv) w;refine(zo0 C G hc x (D x Q) (vs:=args.toList) (by rw[L,zjN m]) (znK m x _) R).mono ?_;rintro e u ⟨rfl,y⟩;refine⟨_,O,zm4 (pa:=a) (pv:=[]) l (λb sp hd=> ?_) (λsp T=> ?_) (λsp _=> ?_) Xn y⟩
  ·rw[E,n];exact⟨[],[],shut_bool F _,O,O⟩
  ·rw[n];have U:xeD enc P W 0 (λ_=>I) I f.params.toList args.toList ds a:=by rw[hn,xbN];exact w
   exact AK hl A U (λp hp=>zmF y<|l.lt p hp) T
  ·rw[r,n];rfl
end
section
def zw6:wr->V vn
 |.tmp t=>Z t
 |_=>yD
def y5(a:Op):N vn:=a.operands.toList.filterMap zw6
def Lk(P:ww)(vs:K->xn)(env:xt)(S:K->Prop)(w:xN)(cx σ:Sg)(t:vn):Prop:=
 ∀i d,get cx σ t i=Z d->(qI P vs d (env t) i).p S w
def VD(P:ww)(vs:K->xn)(env:xt)(S:K->Prop)(w:xN)(cx σ:Sg)(x:wr):Prop:=∀t,zw6 x=Z t->Lk P vs env S w cx σ t
def ES(P:ww)(o:wT)(cx σ:Sg)(F:N MF)(l:N (K×Dv)):Prop:=
 ∀(env:xt) (w:xN) (S:K->Prop) (vs:K->xn),(∀k,w.heap.size<=k->S k)->xd S (MS vs σ.ob++(MS vs cx.ob++F)) w->(∀t∈y5 o.op,Lk P vs env S w cx σ t)->
  Yq P o env w (λv w'=>dN w w'/\∀e∈l,(qI P vs e.2 v e.1).p S w')
section
variable{P:ww}{cf:Cf}{cx σ:Sg}{F:zC MF}{vs:zV->xn}{env:xt}{S:zV->Prop}{w:xN}{R:Type}{r:R}
 {d:z7 vn}{ty t yt:wn}{pos:String}{aft:wL Edge}{g:z7 (zV×ws)}{x y:wr}
def yX{a:Op}(h:∀t∈y5 a,Lk P vs env S w cx σ t)(b:x∈a.operands.toList):VD P vs env S w cx σ x:=
 λt c=>h t<|xeS.2 ⟨x,b,c⟩
def zj{v:Dv}(h:xT cx σ x=Z v)(hl:VD P vs env S w cx σ x):(qk P vs v<|ev env x).p S w:=by
 cases x with
 |tmp t=>exact hl t O 0 v h
 |const c=>
  simp only[xT]at h;unfold cv at h;split at h
  ·split at h
   ·next a=>cases h;exact w9 a
   ·cases h
  ·split at h
   ·next x a=>
    cases h;have:(x.toNat:J)=x:=xcV a.1;have b:x.toNat<18446744073709551616:=W
    have:=ui (S:=S) (w:=w) b;rwa[‹(x.toNat:J)=x›]at this
   ·cases h
  ·cases h;exact O
  ·split at h
   ·next x a=>
    cases h;have:(x.toNat:J)=x:=xcV a.1;have b:x.toNat<256:=W
    have:=za6 (S:=S) (w:=w) b;rwa[‹(x.toNat:J)=x›]at this
   ·cases h
  ·split at h
   ·next a=>cases h;exact zgg O a
   ·cases h
  ·cases h;exact O
  ·cases h;exact O
  ·cases h;exact O
  ·cases h
 |global g=>cases h
 |func f=>cases h;exact⟨[],O,O,xS⟩
def zbz{v:Dv}{u:xn}{p:PD}(h:zrg v=Z p)(hv:(qk P vs v u).p S w):(fV p.t.rep p.x u).p S w:=by
 cases v<;>simp only[zrg,xao,vW]at h
 ·subst h;exact hv
 ·subst h;rw[show u=_ from hv];exact Ng
def DP{p:PD}(h:pd cx σ x=Z p)(hl:VD P vs env S w cx σ x):(fV p.t.rep p.x<|ev env x).p S w:=by
 unfold pd at h
 cases hv:xT cx σ x with
 |none=>rw[hv]at h;cases h
 |some v=>rw[hv]at h;exact zbz h<|zj hv hl
def vt{a:J}(h:pd cx σ x=Z ⟨.i,a⟩)(hl:VD P vs env S w cx σ x):ev env x=.int .i64 a/\Um a:=zt8<|DP h hl
def wQ{a:K}(h:pd cx σ x=Z ⟨.u,a⟩)(hl:VD P vs env S w cx σ x):ev env x=.int .u64 (a:J)/\n9 a:=znr<|DP h hl
def J5{a:K}(h:pd cx σ x=Z ⟨.ch,a⟩)(hl:VD P vs env S w cx σ x):ev env x=.int .u8 (a:J)/\a<256:=zwa<|DP h hl
def zlC{a:N K}(h:pd cx σ x=Z ⟨.tx,a⟩)(hl:VD P vs env S w cx σ x):∃s:vI,ev env x=.string s/\xr s=a/\s.size<=9223372036854775807:=zfK<|DP h hl
def zsi{a:ws}(h:pd cx σ x=Z ⟨.b,a⟩)(hl:VD P vs env S w cx σ x):ev env x=.bool a:=EW<|DP h hl
def zpP{v:V Dv}{t:Ty}{k:t.D->V R}(h:Nt v t k=Z r):∃y:t.D,k y=Z r/\∀(P:ww) vs S w (d:Dv) u,v=Z d->(qk P vs d u).p S w->(fV t.rep y u).p S w:=by
 unfold Nt at h;split at h
 ·next=>
  cases t<;>simp only[vW]at h;exact⟨_,h,λP vs S w d u hd a=>by cases hd;rw[show u=_ from a];exact zl4⟩
 ·next=>
  cases t<;>simp only[vW]at h;exact⟨_,h,λP vs S w d u hd a=>by cases hd;rw[show u=_ from a];exact zv1⟩
 ·next s y=>
  cases t<;>simp only[vW]at h;have⟨e,h⟩:=yB h;subst e;exact⟨_,h,λP vs S w d u hd a=>by cases hd;exact zv9 a⟩
 ·next b hv _ _=>
  split at h
  ·next p hp=>
   have⟨e,h⟩:=yB h;subst e;exact⟨_,h,λP vs S w d u hd a=>by cases hd;exact zbz hp a⟩
  ·cases h
 ·cases h
def JX{t:Ty}{k:t.D->V R}(h:Nt (xT cx σ x) t k=Z r):∃y:t.D,k y=Z r/\∀(P:ww) vs env S w,VD P vs env S w cx σ x->(fV t.rep y<|ev env x).p S w:=by
 have⟨y,h1,a⟩:=zpP h;refine⟨y,h1,λP vs env S w hl=> ?_⟩
 cases hv:xT cx σ x with
 |none=>rw[hv]at h;cases h
 |some v=>exact a P vs S w v _ hv<|zj hv hl
def zJ{o:wT}{l:N (K×Dv)}(h:∀env w S vs,(∀t∈y5 o.op,Lk P vs env S w cx σ t)->∃v,(wD (ev env) o).run P w=.ok (.value v) w/\∀e∈l,(qI P vs e.2 v e.1).p S w):ES P o cx σ F l:=by
 intro env w S vs b c hl;have⟨v,h1,a⟩:=h env w S vs hl;exact Yq.of_value h1 ⟨yO.refl _ _,a⟩
def zw{v:xn}{dv:Dv}(h:(qk P vs dv v).p S w):∀e∈[(0,dv)],(qI P vs e.2 v e.1).p S w:=by
 intro e a;rw[xab]at a;subst a;exact h
def ZE{o:wT}{l:N (K×Dv)}(h:∀env w S vs,xd S (MS vs σ.ob++(MS vs cx.ob++F)) w->(∀t∈y5 o.op,Lk P vs env S w cx σ t)->∃(U:Type) (b:U->xn) (a:U->N FF) (ok:U->Prop) (Γ:N FF) (ms:N MF),
 OpE P o env ms Γ b a ok/\xd S ms w/\zK S Γ w/\∀u w',ok u->zK S (a u) w'->∀e∈l,(qI P vs e.2 (b u) e.1).p S w'):ES P o cx σ F l:=by
 intro env w S vs c f hl;have⟨U,b,a,ok,Γ,ms,h1,i,j,k⟩:=h env w S vs f hl;refine(h1 w S c i j).mono ?_;simp_all
def zfm:∀(f i:K) (t:K) (e:K×Dv),e∈zqw cx σ t f i->get cx σ t e.1=Z e.2
 |0,_,_,_,h=>wl h QT
 |f+1,i,t,e,h=>by
  unfold zqw at h;split at h
  ·next d hd=>
   obtain rfl|h:=PQ.1 h
   ·exact hd
   ·exact zfm f (i+1) t e h
  ·simp_all
def znO{a:Op}(b:a=.move x\/a=.assign x){k:N (K×Dv)->V R}(h:zj3 cx σ x k=Z r):∃l,k l=Z r/\ES P ⟨d,a,ty,pos,aft,g⟩ cx σ F l:=by
 have c:∀env w,(wD (ev env) ⟨d,a,ty,pos,aft,g⟩).run P w=.ok (.value<|ev env x) w:=λenv w=>by obtain rfl|rfl:=b<;>exact sX O w
 have f:x∈a.operands.toList:=by obtain rfl|rfl:=b<;>simp[xaz]
 unfold zj3 at h;split at h
 ·next v hv=>exact⟨_,h,zJ λenv w S vs hl=>⟨_,c env w,zw<|zj hv<|yX hl f⟩⟩
 ·unfold zxt at h;split at h
  ·next t j=>
   split at h
   ·cases h
   ·next l0 l m=>
    exact⟨_,h,zJ λenv w S vs hl=>⟨_,c env w,λe i=>yX hl f t O _ _<|zfm _ _ _ _ i⟩⟩
  ·cases h
def zvI{i:K}{k:N (K×Dv)->V R}(h:zuc cx σ x i k=Z r):∃l,k l=Z r/\ES P ⟨d,.extract x i,ty,pos,aft,g⟩ cx σ F l:=by
 unfold zuc at h;split at h
 ·next t=>
  split at h
  ·next v hv=>
   refine⟨_,h,?_⟩;intro env w S vs c e hl;have⟨us,u,h1,a,b⟩:=yX hl (x:=.tmp t) (by simp[xaz]) t O (i+1) v hv;exact Yq.of_value (sX (by simp only[pv,ev,h1];exact a) w) ⟨yO.refl _ _,zw b⟩
  ·cases h
 ·cases h
theorem mv1{k:N (K×Dv)->V R}(h:zqj cx σ x k=Z r):∃v,xT cx σ x=Z v/\k [(0,v)]=Z r:=by grind [zqj]
def zuE{c:wr}{k:N (K×Dv)->V R}(h:zpj cx σ c x y k=Z r):∃l,k l=Z r/\ES P ⟨d,.pick c x y,ty,pos,aft,g⟩ cx σ F l:=by
 unfold zpj at h;split at h
 ·next hc=>
  have⟨v,hv,h⟩:=mv1 h;exact⟨_,h,zJ λenv w S vs hl=>⟨_,zqr (zj hc<|yX hl<|by simp[xaz]) O w,zw<|zj hv<|yX hl<|by simp[xaz]⟩⟩
 ·next hc=>
  have⟨v,hv,h⟩:=mv1 h;exact⟨_,h,zJ λenv w S vs hl=>⟨_,zrK (zj hc<|yX hl<|by simp[xaz]) O w,zw<|zj hv<|yX hl<|by simp[xaz]⟩⟩
 ·cases h
def zwc{k:N (K×Dv)->V R}(h:ztS cx σ x k=Z r):∃l,k l=Z r/\ES P ⟨d,.unOp .not t x,ty,pos,aft,g⟩ cx σ F l:=by
 unfold ztS at h;split at h
 ·next b a=>exact⟨_,h,zJ λenv w S vs hl=>⟨_,zsx (zj a<|yX hl<|by simp[xaz]) w,zw<|by exact O⟩⟩
 ·next b a=>exact⟨_,h,zJ λenv w S vs hl=>⟨_,zsx (EW<|zj a<|yX hl<|by simp[xaz]) w,zw<|by exact Ng⟩⟩
 ·cases h
def zyw{a:J}(h:Um a):xcO.wrap (0-a)=ng a/\Um (ng a):=by
 unfold ng;split
 ·rename_i e;subst e;exact⟨YL,h⟩
 ·have b:Um (0-a):=⟨by have:=h.2;lia,by have:=h.1;lia⟩;exact⟨w_x O b,b⟩
def zxB{k:N (K×Dv)->V R}(h:zt3 cx σ x k=Z r):∃l,k l=Z r/\ES P ⟨d,.unOp .neg t x,ty,pos,aft,g⟩ cx σ F l:=by
 unfold zt3 at h;split at h
 ·next a c=>
  have⟨z,b,h⟩:=x9 h;exact⟨_,h,zJ λenv w S vs hl=>by
   have⟨h1,e⟩:=vt c (yX hl<|by simp[xaz]);have⟨f,i⟩:=zyw e;exact⟨_,ztd h1 (f.trans b.symm) w,zw<|w9<|b▸i⟩⟩
 ·next a c=>
  have⟨z,b,h⟩:=x9 h;exact⟨_,h,zJ λenv w S vs hl=>by
   have⟨h1,e⟩:=wQ c (yX hl<|by simp[xaz]);exact⟨_,ztd h1 (BW b<|zt0 e) w,zw<|ui<|JU b⟩⟩
 ·cases h
theorem kbS{p:Prop}[vU p]{k:N (K×Dv)->V R}(h:(if p then k [(0,.kb I)]else k [(0,.kb yL)])=Z r):k [(0,.kb<|decide p)]=Z r:=by grind
theorem kbN{p:Prop}[vU p]{k:N (K×Dv)->V R}(h:(if p then k [(0,.kb yL)]else k [(0,.kb I)])=Z r):k [(0,.kb (!decide p))]=Z r:=by grind
def zyB{n:qS}{a c:J}{k:N (K×Dv)->V R}(h:arI n a c (λv=>k [(0,v)])=Z r)(e:pd cx σ x=Z ⟨.i,a⟩)(hc:pd cx σ y=Z ⟨.i,c⟩):
 ∃l,k l=Z r/\ES P ⟨d,.binOp n t x y yt,ty,pos,aft,g⟩ cx σ F l:=by
 have f:∀{vs env S w},(∀o∈y5 (.binOp n t x y yt),Lk P vs env S w cx σ o)->VD P vs env S w cx σ x:=λhl=>yX hl (by simp[xaz]);have j:∀{vs env S w},(∀o∈y5 (.binOp n t x y yt),Lk P vs env S w cx σ o)->VD P vs env S w cx σ y:=λhl=>yX hl (by simp[xaz]);cases n<;>simp only[arI,vW]at h
 case add=>have⟨z,b,m,h⟩:=fi h;exact⟨_,h,zJ λenv w S vs hl=>⟨_,RA (vt e<|f hl).1 (vt hc<|j hl).1 (w_x b m) w,zw<|w9 m⟩⟩
 case sub=>have⟨z,b,m,h⟩:=fi h;exact⟨_,h,zJ λenv w S vs hl=>⟨_,zn3 (vt e<|f hl).1 (vt hc<|j hl).1 (w_x b m) w,zw<|w9 m⟩⟩
 case mul=>have⟨z,b,m,h⟩:=fi h;exact⟨_,h,zJ λenv w S vs hl=>⟨_,zsr (vt e<|f hl).1 (vt hc<|j hl).1 (w_x b m) w,zw<|w9 m⟩⟩
 case quo=>have⟨h0,h⟩:=YK h;have⟨z,b,m,h⟩:=fi h;exact⟨_,h,zJ λenv w S vs hl=>⟨_,zs2 (vt e<|f hl).1 (vt hc<|j hl).1 h0 (w_x b m) w,zw<|w9 m⟩⟩
 case rem=>have⟨h0,h⟩:=YK h;have⟨z,b,h⟩:=x9 h;exact⟨_,h,zJ λenv w S vs hl=>⟨_,zsZ (vt e<|f hl).1 (vt hc<|j hl).1 h0 b.symm w,zw<|w9<|zuP (vt e<|f hl).2 b⟩⟩
 case and=>have⟨z,b,h⟩:=x9 h;exact⟨_,h,zJ λenv w S vs hl=>⟨_,ztg (vt e<|f hl).1 (vt hc<|j hl).1 (zqD.trans b.symm) w,zw<|w9<|zpw b<|ztt _ _⟩⟩
 case or=>have⟨z,b,h⟩:=x9 h;exact⟨_,h,zJ λenv w S vs hl=>⟨_,zvZ (vt e<|f hl).1 (vt hc<|j hl).1 (ztk.trans b.symm) w,zw<|w9<|zpw b<|zxz _ _⟩⟩
 case shr=>have⟨h0,h⟩:=YK h;have⟨z,b,h⟩:=x9 h;exact⟨_,h,zJ λenv w S vs hl=>⟨_,NJ (vt e<|f hl).1 (vt hc<|j hl).1 h0 b.symm w,zw<|w9<|znD (vt e<|f hl).2 b⟩⟩
 case shl=>have⟨h0,h⟩:=YK h;have⟨z,b,m,h⟩:=fi h;exact⟨_,h,zJ λenv w S vs hl=>⟨_,zi6 (vt e<|f hl).1 (vt hc<|j hl).1 h0 (w_x b m) w,zw<|w9 m⟩⟩
 case lss=>exact⟨[(0,.kb<|decide<|a<c)],kbS h,zJ λenv w S vs hl=>⟨_,zn4 (vt e<|f hl).1 (vt hc<|j hl).1 w,zw<|by exact O⟩⟩
 case leq=>exact⟨[(0,.kb<|decide<|a<=c)],kbS h,zJ λenv w S vs hl=>⟨_,zn2 (vt e<|f hl).1 (vt hc<|j hl).1 w,zw<|by exact O⟩⟩
 case gtr=>exact⟨[(0,.kb<|decide<|c<a)],kbS h,zJ λenv w S vs hl=>⟨_,znI (vt e<|f hl).1 (vt hc<|j hl).1 w,zw<|by exact O⟩⟩
 case geq=>exact⟨[(0,.kb<|decide<|c<=a)],kbS h,zJ λenv w S vs hl=>⟨_,zmu (vt e<|f hl).1 (vt hc<|j hl).1 w,zw<|by exact O⟩⟩
 case eql=>exact⟨[(0,.kb<|decide<|a=c)],kbS h,zJ λenv w S vs hl=>⟨_,zpC (vt e<|f hl).1 (vt hc<|j hl).1 w,zw<|by exact O⟩⟩
 case neq=>exact⟨[(0,.kb (!decide (a=c)))],kbN h,zJ λenv w S vs hl=>⟨_,zmI (vt e<|f hl).1 (vt hc<|j hl).1 w,zw<|by exact O⟩⟩
def zxY{bo:qS}{a c:K}{k:N (K×Dv)->V R}(h:(match bo with
 |.shr=>zlE .shr a c<|λv=>k [(0,v)]
 |.shl=>zlE .shl a c<|λv=>k [(0,v)]
 |bo=>arU bo a c<|λv=>k [(0,v)])=Z r) (e:pd cx σ x=Z ⟨.u,a⟩) (hc:pd cx σ y=Z ⟨.u,c⟩):
 ∃l,k l=Z r/\ES P ⟨d,.binOp bo t x y yt,ty,pos,aft,g⟩ cx σ F l:=by
 have f:∀{vs env S w},(∀j∈y5 (.binOp bo t x y yt),Lk P vs env S w cx σ j)->VD P vs env S w cx σ x:=λhl=>yX hl (by simp[xaz]);have i:∀{vs env S w},(∀j∈y5 (.binOp bo t x y yt),Lk P vs env S w cx σ j)->VD P vs env S w cx σ y:=λhl=>yX hl (by simp[xaz]);split at h
 ·simp only[zlE]at h;have⟨z,b,h⟩:=x9 h;exact⟨_,h,zJ λenv w S vs hl=>⟨_,NJ (wQ e<|f hl).1 (wQ hc<|i hl).1 (xdd _) (zlH b E7) w,zw<|ui<|Pj (wQ e<|f hl).2 b⟩⟩
 ·simp only[zlE]at h;have⟨z,b,h⟩:=x9 h;exact⟨_,h,zJ λenv w S vs hl=>⟨_,zi6 (wQ e<|f hl).1 (wQ hc<|i hl).1 (xdd _) (BW b zi2) w,zw<|ui<|JU b⟩⟩
 ·next m hd=>
  cases bo<;>simp only[arU,vW]at h
  case add=>have⟨z,b,h⟩:=x9 h;exact⟨_,h,zJ λenv w S vs hl=>⟨_,RA (wQ e<|f hl).1 (wQ hc<|i hl).1 (BW b zqx) w,zw<|ui<|JU b⟩⟩
  case sub=>have⟨z,b,h⟩:=x9 h;exact⟨_,h,zJ λenv w S vs hl=>⟨_,zn3 (wQ e<|f hl).1 (wQ hc<|i hl).1 (BW b<|zrt<|xdp (wQ hc<|i hl).2) w,zw<|ui<|JU b⟩⟩
  case mul=>have⟨z,b,h⟩:=x9 h;exact⟨_,h,zJ λenv w S vs hl=>⟨_,zsr (wQ e<|f hl).1 (wQ hc<|i hl).1 (BW b zrf) w,zw<|ui<|JU b⟩⟩
  case quo=>have⟨h0,h⟩:=YK h;have⟨z,b,h⟩:=x9 h;exact⟨_,h,zJ λenv w S vs hl=>⟨_,zs2 (wQ e<|f hl).1 (wQ hc<|i hl).1 (zxp h0) (BW b<|zlK (wQ e<|f hl).2) w,zw<|ui<|Pj (wQ e<|f hl).2 b⟩⟩
  case rem=>have⟨h0,h⟩:=YK h;have⟨z,b,h⟩:=x9 h;exact⟨_,h,zJ λenv w S vs hl=>⟨_,zsZ (wQ e<|f hl).1 (wQ hc<|i hl).1 (zxp h0) (zlH b zvQ) w,zw<|ui<|ztn (wQ e<|f hl).2 b⟩⟩
  case and=>have⟨z,b,h⟩:=x9 h;exact⟨_,h,zJ λenv w S vs hl=>⟨_,ztg (wQ e<|f hl).1 (wQ hc<|i hl).1 (BW b<|zqm (wQ e<|f hl).2 (wQ hc<|i hl).2) w,zw<|ui<|ztA b<|FH (wQ e<|f hl).2⟩⟩
  case or=>have⟨z,b,h⟩:=x9 h;exact⟨_,h,zJ λenv w S vs hl=>⟨_,zvZ (wQ e<|f hl).1 (wQ hc<|i hl).1 (BW b<|zu1 (wQ e<|f hl).2 (wQ hc<|i hl).2) w,zw<|ui<|ztA b<|NH (wQ e<|f hl).2 (wQ hc<|i hl).2⟩⟩
  case lss=>exact⟨[(0,.kb<|decide<|(a:J)<(c:J))],kbS h,zJ λenv w S vs hl=>⟨_,zn4 (wQ e<|f hl).1 (wQ hc<|i hl).1 w,zw<|by exact O⟩⟩
  case leq=>exact⟨[(0,.kb<|decide<|(a:J)<=(c:J))],kbS h,zJ λenv w S vs hl=>⟨_,zn2 (wQ e<|f hl).1 (wQ hc<|i hl).1 w,zw<|by exact O⟩⟩
  case gtr=>exact⟨[(0,.kb<|decide<|(c:J)<(a:J))],kbS h,zJ λenv w S vs hl=>⟨_,znI (wQ e<|f hl).1 (wQ hc<|i hl).1 w,zw<|by exact O⟩⟩
  case geq=>exact⟨[(0,.kb<|decide<|(c:J)<=(a:J))],kbS h,zJ λenv w S vs hl=>⟨_,zmu (wQ e<|f hl).1 (wQ hc<|i hl).1 w,zw<|by exact O⟩⟩
  case eql=>exact⟨[(0,.kb<|decide<|(a:J)=(c:J))],kbS h,zJ λenv w S vs hl=>⟨_,zpC (wQ e<|f hl).1 (wQ hc<|i hl).1 w,zw<|by exact O⟩⟩
  case neq=>exact⟨[(0,.kb (!decide ((a:J)=(c:J))))],kbN h,zJ λenv w S vs hl=>⟨_,zmI (wQ e<|f hl).1 (wQ hc<|i hl).1 w,zw<|by exact O⟩⟩
def zyd{e:qS}{a:K}{c:J}{k:N (K×Dv)->V R}(h:shU e a c (λv=>k [(0,v)])=Z r)(f:pd cx σ x=Z ⟨.u,a⟩)(hc:pd cx σ y=Z ⟨.i,c⟩):
 ∃l,k l=Z r/\ES P ⟨d,.binOp e t x y yt,ty,pos,aft,g⟩ cx σ F l:=by
 have j:∀{vs env S w},(∀m∈y5 (.binOp e t x y yt),Lk P vs env S w cx σ m)->VD P vs env S w cx σ x:=λhl=>yX hl (by simp[xaz]);have n:∀{vs env S w},(∀m∈y5 (.binOp e t x y yt),Lk P vs env S w cx σ m)->VD P vs env S w cx σ y:=λhl=>yX hl (by simp[xaz]);unfold shU at h;split at h
 ·have⟨h0,h⟩:=YK h;have⟨z,b,h⟩:=x9 h;exact⟨_,h,zJ λenv w S vs hl=>⟨_,NJ (wQ f<|j hl).1 (vt hc<|n hl).1 h0 (zlH b E7) w,zw<|ui<|Pj (wQ f<|j hl).2 b⟩⟩
 ·have⟨h0,h⟩:=YK h;have⟨z,b,h⟩:=x9 h;exact⟨_,h,zJ λenv w S vs hl=>⟨_,zi6 (wQ f<|j hl).1 (vt hc<|n hl).1 h0 (BW b zi2) w,zw<|ui<|JU b⟩⟩
 ·cases h
def zyf{b:qS}{a:J}{c:K}{k:N (K×Dv)->V R}(h:shI b a c (λv=>k [(0,v)])=Z r)(f:pd cx σ x=Z ⟨.i,a⟩)(hc:pd cx σ y=Z ⟨.u,c⟩):
 ∃l,k l=Z r/\ES P ⟨d,.binOp b t x y yt,ty,pos,aft,g⟩ cx σ F l:=by
 have j:∀{vs env S w},(∀m∈y5 (.binOp b t x y yt),Lk P vs env S w cx σ m)->VD P vs env S w cx σ x:=λhl=>yX hl (by simp[xaz]);have n:∀{vs env S w},(∀m∈y5 (.binOp b t x y yt),Lk P vs env S w cx σ m)->VD P vs env S w cx σ y:=λhl=>yX hl (by simp[xaz]);unfold shI at h;split at h
 ·have⟨z,e,h⟩:=x9 h;exact⟨_,h,zJ λenv w S vs hl=>⟨_,NJ (vt f<|j hl).1 (wQ hc<|n hl).1 (xdd _) e.symm w,zw<|w9<|znD (vt f<|j hl).2 e⟩⟩
 ·have⟨z,e,o,h⟩:=fi h;exact⟨_,h,zJ λenv w S vs hl=>⟨_,zi6 (vt f<|j hl).1 (wQ hc<|n hl).1 (xdd _) (w_x e o) w,zw<|w9 o⟩⟩
 ·cases h
def zyg{e:qS}{a c:ws}{j:ws}{k:N (K×Dv)->V R}(h:kS j (eqB e a c<|λv=>k [(0,v)])=Z r)(m:pd cx σ x=Z ⟨.b,a⟩)(hc:pd cx σ y=Z ⟨.b,c⟩)(n:j=I->P.underlying t=Z .bool):
 ∃l,k l=Z r/\ES P ⟨d,.binOp e t x y yt,ty,pos,aft,g⟩ cx σ F l:=by
 have o:∀{vs env S w},(∀f∈y5 (.binOp e t x y yt),Lk P vs env S w cx σ f)->VD P vs env S w cx σ x:=λhl=>yX hl (by simp[xaz]);have p:∀{vs env S w},(∀f∈y5 (.binOp e t x y yt),Lk P vs env S w cx σ f)->VD P vs env S w cx σ y:=λhl=>yX hl (by simp[xaz]);have⟨hd,h⟩:=yv h;unfold eqB at h;split at h
 ·have⟨z,i,h⟩:=x9 h;exact⟨_,h,zJ λenv w S vs hl=>⟨_,zmf (zw4 (n hd) (zsi m<|o hl)<|zsi hc<|p hl) i w,zw Ng⟩⟩
 ·have⟨z,i,h⟩:=x9 h;exact⟨_,h,zJ λenv w S vs hl=>⟨_,zmf (zv6 (n hd) (zsi m<|o hl)<|zsi hc<|p hl) i w,zw Ng⟩⟩
 ·cases h
def zcp(x:J):xfK.wrap x=x%256:=by
 rfl
def zvh{a b:K}:xfK.wrap ((a:J)+(b:J))=(((a+b)%256:K):J):=by rw[zcp];lia
def zuJ{a b:K}(h:b<=256):xfK.wrap ((a:J)-(b:J))=(((a+256-b)%256:K):J):=by rw[zcp];lia
def zmj{n z:K}(h:z=n%256):z<256:=by rw[h];exact xaI _ YL
def zx2{i:qS}{a c:K}{k:N (K×Dv)->V R}(h:arC i a c (λv=>k [(0,v)])=Z r)(e:pd cx σ x=Z ⟨.ch,a⟩)(hc:pd cx σ y=Z ⟨.ch,c⟩):
 ∃l,k l=Z r/\ES P ⟨d,.binOp i t x y yt,ty,pos,aft,g⟩ cx σ F l:=by
 have f:∀{vs env S w},(∀m∈y5 (.binOp i t x y yt),Lk P vs env S w cx σ m)->VD P vs env S w cx σ x:=λhl=>yX hl (by simp[xaz]);have b:∀{vs env S w},(∀m∈y5 (.binOp i t x y yt),Lk P vs env S w cx σ m)->VD P vs env S w cx σ y:=λhl=>yX hl (by simp[xaz]);cases i<;>simp only[arC,vW]at h
 case add=>have⟨z,j,h⟩:=x9 h;exact⟨_,h,zJ λenv w S vs hl=>⟨_,RA (J5 e<|f hl).1 (J5 hc<|b hl).1 (BW j zvh) w,zw<|za6<|zmj j⟩⟩
 case sub=>have⟨z,j,h⟩:=x9 h;exact⟨_,h,zJ λenv w S vs hl=>⟨_,zn3 (J5 e<|f hl).1 (J5 hc<|b hl).1 (BW j<|zuJ<|xdp (J5 hc<|b hl).2) w,zw<|za6<|zmj j⟩⟩
 case lss=>exact⟨[(0,.kb<|decide<|(a:J)<(c:J))],kbS h,zJ λenv w S vs hl=>⟨_,zn4 (J5 e<|f hl).1 (J5 hc<|b hl).1 w,zw<|by exact O⟩⟩
 case leq=>exact⟨[(0,.kb<|decide<|(a:J)<=(c:J))],kbS h,zJ λenv w S vs hl=>⟨_,zn2 (J5 e<|f hl).1 (J5 hc<|b hl).1 w,zw<|by exact O⟩⟩
 case gtr=>exact⟨[(0,.kb<|decide<|(c:J)<(a:J))],kbS h,zJ λenv w S vs hl=>⟨_,znI (J5 e<|f hl).1 (J5 hc<|b hl).1 w,zw<|by exact O⟩⟩
 case geq=>exact⟨[(0,.kb<|decide<|(c:J)<=(a:J))],kbS h,zJ λenv w S vs hl=>⟨_,zmu (J5 e<|f hl).1 (J5 hc<|b hl).1 w,zw<|by exact O⟩⟩
 case eql=>exact⟨[(0,.kb<|decide<|(a:J)=(c:J))],kbS h,zJ λenv w S vs hl=>⟨_,zpC (J5 e<|f hl).1 (J5 hc<|b hl).1 w,zw<|by exact O⟩⟩
 case neq=>exact⟨[(0,.kb (!decide ((a:J)=(c:J))))],kbN h,zJ λenv w S vs hl=>⟨_,zmI (J5 e<|f hl).1 (J5 hc<|b hl).1 w,zw<|by exact O⟩⟩
theorem za0{s u:vI}:(s.toList==u.toList)=decide (xr s=xr u):=by
 rw[ByteArray.toList_eq,ByteArray.toList_eq];unfold xr;by_cases h:s.data.toList=u.data.toList
 ·grind
 ·have a:=λe=>h (List.map_inj_right (λx y=>UInt8.toNat_inj.1)|>.1 e);simp_all
def RH(s u:vI):xr (s++u)=xr s++xr u:=by
 unfold xr;simp
def zmJ{s u:vI}(h:X (xr s)+X (xr u)<=9223372036854775807)(w:xN):(Op.stringOp .add s u).run P w=.ok (.string<|s++u) w:=by
 rw[ky,ky]at h;have a:¬(((s.size+u.size:K):J)>xcO.max):=by
  have:xcO.max=9223372036854775807:=O;lia
 unfold Op.stringOp;simp_all
def zv5{f:qS}{a c:N K}{k:N (K×Dv)->V R}(h:eqT f a c (λv=>k [(0,v)])=Z r)(j:pd cx σ x=Z ⟨.tx,a⟩)(hc:pd cx σ y=Z ⟨.tx,c⟩):
 ∃l,k l=Z r/\ES P ⟨d,.binOp f t x y yt,ty,pos,aft,g⟩ cx σ F l:=by
 have m:∀{vs env S w},(∀n∈y5 (.binOp f t x y yt),Lk P vs env S w cx σ n)->VD P vs env S w cx σ x:=λhl=>yX hl (by simp[xaz]);have o:∀{vs env S w},(∀n∈y5 (.binOp f t x y yt),Lk P vs env S w cx σ n)->VD P vs env S w cx σ y:=λhl=>yX hl (by simp[xaz]);cases f<;>simp only[eqT,vW]at h
 case add=>
  have⟨h0,h⟩:=YK h;have⟨z,q,h⟩:=x9 h;refine⟨_,h,zJ λenv w S vs hl=> ?_⟩;have⟨s,e1,b,_⟩:=zlC j<|m hl;have⟨u,i,e,_⟩:=zlC hc<|o hl;have p:X (xr s)+X (xr u)<=9223372036854775807:=by rw[b,e];exact h0
  refine⟨.string<|s++u,?_,zw<|zgg (by rw[RH,b,e];exact q.symm)<|by rw[<-ky,RH,xak];exact p⟩;simp[wD,e1,i,qZ,binOp_string_add,zmJ (P:=P) p w]
 case eql=>
  refine⟨[(0,.kb<|decide<|a=c)],kbS h,zJ λenv w S vs hl=> ?_⟩;have⟨s,e1,b,_⟩:=zlC j<|m hl;have⟨u,i,e,_⟩:=zlC hc<|o hl;refine⟨.bool<|decide<|a=c,?_,zw<|by exact O⟩;rw[<-b,<-e,<-za0];simp[wD,e1,i,qZ,binOp_string_eql]
 case neq=>
  refine⟨[(0,.kb (!decide (a=c)))],kbN h,zJ λenv w S vs hl=> ?_⟩;have⟨s,e1,b,_⟩:=zlC j<|m hl;have⟨u,i,e,_⟩:=zlC hc<|o hl;refine⟨.bool (!decide (a=c)),?_,zw<|by exact O⟩;rw[<-b,<-e,<-za0];simp[wD,e1,i,qZ,binOp_string_neq]
def bop{e:ws}{f:qS}{k:N (K×Dv)->V R}(h:ztU e f (pd cx σ x) (pd cx σ y) (λv=>k [(0,v)])=Z r)(i:e=I->P.underlying t=Z .bool):
 ∃l,k l=Z r/\ES P ⟨d,.binOp f t x y yt,ty,pos,aft,g⟩ cx σ F l:=by
 unfold ztU at h;split at h
 ·next a c b hc=>exact zyB h b hc
 ·next a c b hc=>exact zxY h b hc
 ·next a c b hc=>exact zyd h b hc
 ·next a c b hc=>exact zyf h b hc
 ·next a c b hc=>exact zyg h b hc i
 ·next a c b hc=>exact zx2 h b hc
 ·next a c b hc=>exact zv5 h b hc
 ·cases h
end
end
section
section
variable{P:ww}{cf:Cf}{cx σ:Sg}{F:zC MF}{vs:zV->xn}{env:xt}{S:zV->Prop}{w:xN}{R:Type}{r:R}
 {d:z7 vn}{ty t yt:wn}{pos:String}{aft:wL Edge}{g:z7 (zV×ws)}{x y:wr}
def UZ{s:wn}{q:Ty}{k:vu}{B:K}(a:xm P cf.tt)(h:Xo cf s=Z ⟨q,.int k,B⟩):P.underlying s=Z (.int k):=(a _ _ h).2.2.2
def jA{s E:wn}{q:Ty}{B:K}(a:xm P cf.tt)(h:Xo cf s=Z ⟨q,.sl E,B⟩):P.underlying s=Z (.slice E):=(a _ _ h).2.2.2.1
def zdf{s:wn}{q:Ty}{B:K}(a:xm P cf.tt)(h:Xo cf s=Z ⟨q,.str,B⟩):P.underlying s=Z .string:=(a _ _ h).2.2.2
def zrp(a:xm P cf.tt):isB cf t=I->P.underlying t=Z .bool:=by
 intro h;unfold isB at h;split at h
 ·next q B b=>exact(a _ _ b).2.2.2
 ·cases h
theorem cZ{s E:wn}{e:Ty}{B:K}(b:xm P cf.tt)(c:ZX P cf.tt)(h:Xo cf s=Z ⟨.l e,.sl E,B⟩):∃bytes a,UI P E e.rep.agg e.rep.n bytes a:=by
 obtain⟨f,h1,rfl⟩:=c _ _ _ _ h;have⟨⟨a,i,_⟩,_⟩:=b _ _ h1;grind
theorem Wc{b:TI}(c:xm P cf.tt)(h:Xo cf t=Z b):∃a,UI P t b.ty.rep.agg b.ty.rep.n b.B a/\a.cells.size=b.ty.rep.n/\∀S w,b.ty.rep.p S b.ty.z a.cells.toList w:=by
 have⟨a,h1,e,f,_⟩:=(c _ _ h).1;grind
def zhF{a:TI}{s:Ty}(e:xm P cf.tt)(h:Xo cf t=Z a)(b:a.ty=.l s):UI P t yL 1 a.B (.slice yD 0 0):=by
 have⟨c,h1,_,_,f⟩:=(e _ _ h).1;rw[f.1 s b,b]at h1;exact h1
def zwo{a:K}(h:a<256):Um (a:J):=by unfold Um;lia
def zwj{a:K}(h:a<256):a<18446744073709551616:=W
def zyq{a:K}(h:a<256):xfK.wrap (a:J)=(a:J):=by rw[zcp];lia
def u_c{a:K}:xfK.wrap (a:J)=((a%256:K):J):=by rw[zcp];lia
def zfo{S:K->Prop}{w:xN}:∀{xs:N K}{cs:N xn},xa eCh S xs cs w->cs=xs.map (λx:K=>Value.int .u8 (x:J))/\∀x∈xs,x<256
 |[],cs,h=>⟨h,λx a=>wl a QT⟩
 |x::xs,cs,⟨c,r,h1,b,e⟩=>by
  have⟨e1,j⟩:=zfo e;have⟨f,i⟩:=b;refine⟨by rw[h1,f,e1];rfl,λy hy=> ?_⟩;obtain rfl|hy:=PQ.1 hy
  ·exact i
  ·simp_all
def zuY{s t E:wn}{xs:N K}{v:xn}{S:K->Prop}{w:xN}(k:P.underlying s=Z (.slice E))(l:P.underlying E=Z (.int .u8))(m:P.underlying t=Z .string)(hv:(fV (eS eCh) xs v).p S w):
 ∃u:vI,(convert s t v).run P w=.ok (.string u) w/\xr u=xs/\u.size<=9223372036854775807:=by
 obtain⟨i,cap,rfl,G,z,h⟩:=wc.1 hv;have e:∀a,i=Z a->(∀x∈xs,x<256)->(∀j (c:j<X xs),w.cell? (a.add j)=Z (.int .u8 ((xs[j]:K):J)))->∃u:vI,(convert s t (.slice i (X xs) cap)).run P w=.ok (.string u) w/\xr u=xs/\u.size<=9223372036854775807:=by
  rintro a rfl f c;have A:(xs.map xeK).map UInt8.toNat=xs:=by
   rw[xcP];conv=>rhs;rw[<-List.map_id xs]
   exact xce λx hc=>UInt8.toNat_ofNat_of_lt'<|f x hc
  have n:=run_convert_bytes_back (P:=P) w s t E a cap (xs.map xeK) k l m (λj hd=>by
   have q:j<X xs:=by simpa using hd
   rw[c j q,List.getElem_map,UInt8.toNat_ofNat_of_lt'<|f _<|xbx q])
  rw[xaV]at n;refine⟨_,n,by unfold xr;simpa using A,?_⟩;rw[<-ky];unfold xr;rw[xaV];simp;unfold qs at z;lia
 obtain rfl|⟨b,o,cs,rfl,_,B,C⟩:=h
 ·cases i with
  |some a=>exact e a O (λx f=>wl f QT)<|λj c=>wl c<|xbf _
  |none=>
   refine⟨ByteArray.empty,?_,O,YL⟩;rw[run_convert_bytes_string w s t E yD _ cap k l m];rfl
 ·have⟨e1,D⟩:=zfo C;refine e _ O D λj c=> ?_;have:=B.2 j (.int .u8 ((xs[j]:K):J)) (by rw[e1,xbZ,xaa c];rfl);rw[jY];exact this
def zwr(f:xm P cf.tt){s t:wn}{k:N (K×Dv)->V R}(h:zvr cf cx σ s t x k=Z r):∃l,k l=Z r/\ES P ⟨d,.convert s t x,ty,pos,aft,g⟩ cx σ F l:=by
 have e:∀{vs env S w},(∀o∈y5 (.convert s t x),Lk P vs env S w cx σ o)->VD P vs env S w cx σ x:=λhl=>yX hl (by simp[xaz]);unfold zvr at h;split at h
 ·next q k1 B p n i=>
  have j:=UZ f n;have⟨v,H,J⟩:=p;unfold zvP at h;split at h
  ·next a c b=>
   simp only at c;subst c;exact⟨_,h,zJ λenv w S vs hl=>⟨_,Ku j (UZ f i) (vt b<|e hl).1 (w64 (vt b<|e hl).2) w,zw<|w9 (vt b<|e hl).2⟩⟩
  ·next a c b=>
   simp only at c;subst c;exact⟨_,h,zJ λenv w S vs hl=>⟨_,Ku j (UZ f i) (wQ b<|e hl).1 (DW (wQ b<|e hl).2) w,zw<|ui (wQ b<|e hl).2⟩⟩
  ·next a c b=>
   simp only at c;subst c;have⟨z,m,h⟩:=x9 h;exact⟨_,h,zJ λenv w S vs hl=>⟨_,Ku j (UZ f i) (vt b<|e hl).1 (BW m<|znN _) w,zw<|ui<|ztA m<|P3 _⟩⟩
  ·next a c b=>
   simp only at c;subst c;have⟨z,m,h⟩:=x9 h;exact⟨_,h,zJ λenv w S vs hl=>⟨_,Ku j (UZ f i) (wQ b<|e hl).1 ((Ry (wQ b<|e hl).2).trans m.symm) w,zw<|w9<|zpw m<|zn7 (wQ b<|e hl).2⟩⟩
  ·next a c b=>
   simp only at c;subst c;exact⟨_,h,zJ λenv w S vs hl=>⟨_,Ku j (UZ f i) (J5 b<|e hl).1 (w64<|zwo (J5 b<|e hl).2) w,zw<|w9<|zwo (J5 b<|e hl).2⟩⟩
  ·next a c b=>
   simp only at c;subst c;exact⟨_,h,zJ λenv w S vs hl=>⟨_,Ku j (UZ f i) (J5 b<|e hl).1 (DW<|zwj (J5 b<|e hl).2) w,zw<|ui<|zwj (J5 b<|e hl).2⟩⟩
  ·next a c b=>
   simp only at c;subst c;exact⟨_,h,zJ λenv w S vs hl=>⟨_,Ku j (UZ f i) (J5 b<|e hl).1 (zyq (J5 b<|e hl).2) w,zw<|za6 (J5 b<|e hl).2⟩⟩
  ·next a c b=>
   simp only at c;subst c;unfold chU at h;have⟨z,m,h⟩:=x9 h;exact⟨_,h,zJ λenv w S vs hl=>⟨_,Ku j (UZ f i) (wQ b<|e hl).1 (BW m u_c) w,zw<|za6<|zmj m⟩⟩
  ·cases h
 ·next E B q L n i=>
  split at h
  ·next M A C=>
   have⟨xs,h,hc⟩:=JX h;refine⟨_,h,zJ λenv w S vs hl=> ?_⟩;have⟨u,h1,D,G⟩:=zuY (jA f n) (UZ f C) (zdf f i)<|hc P vs env S w<|e hl;exact⟨.string u,by simp[wD,h1],zw<|zgg D G⟩
  ·cases h
 ·cases h
def zgN{n:K}{k:K->V R}(h:atI cx σ x n k=Z r):∃j,j<n/\k j=Z r/\∀(P:ww) vs env S w,VD P vs env S w cx σ x->∃ik,ev env x=.int ik (j:J):=by
 unfold atI at h;split at h
 ·next j a=>
  have⟨i,h1,b,h⟩:=zsO h;exact⟨i,b,h,λP vs env S w hl=>⟨.i64,by rw[(vt a hl).1,h1]⟩⟩
 ·next j a=>
  have⟨i,h1,b,h⟩:=zsO h;exact⟨i,b,h,λP vs env S w hl=>⟨.u64,by rw[(wQ a hl).1,h1]⟩⟩
 ·cases h
def gL{x:V wr}{k:V K->V R}(h:bnd cx σ x k=Z r):
 (x=yD/\k yD=Z r)\/∃y j,x=Z y/\k (Z j)=Z r/\∀(P:ww) vs env S w,VD P vs env S w cx σ y->ev env y=.int .i64 (j:J):=by
 unfold bnd at h;split at h
 ·simp_all
 ·next y=>
  split at h
  ·next j a=>
   have⟨i,h1,h⟩:=zks h;exact .inr ⟨y,i,O,h,λP vs env S w hl=>by rw[(vt a hl).1,h1]⟩
  ·cases h
def gf{α:Type}{e:ye α}{E:wn}{xs:N α}{v:xn}(h:(mO e E v xs).p S w)(h0:0<X xs):
 ∃b cap,v=.slice (Z ⟨b,0,yD⟩) (X xs) cap/\(mB (rowT e cap) E b xs).p S w:=by
 have⟨cs,h1,c⟩:=h;rcases h1.2 with⟨rfl,k⟩|⟨g,cap,a,rfl,hc,f,hd,l,i,j⟩
 ·lia
 ·exact⟨g,cap,O,a,f,cs,a.toList.drop<|X xs*e.n,by rw[<-j,xbw],c,by simpa using i⟩
def zoo{s E:wn}{q:Ty}{n B:K}(a:xm P cf.tt)(h:Xo cf s=Z ⟨q,.ar n E,B⟩):P.underlying s=Z (.array n E):=(a _ _ h).2.2.2.2
theorem znJ{E:wn}{e:Ty}(b:xm P cf.tt)(h:elA cf E e=I):∃bytes a,UI P E e.rep.agg e.rep.n bytes a:=by
 unfold elA at h;split at h
 ·next c f=>
  cases i:Ty.same c.ty e with
  |none=>rw[i]at h;cases h
  |some p=>
   have⟨a,j,_⟩:=Wc b f;rw[p.down]at j;grind
 ·cases h
def zuw{n j:K}{e:Ty}(b:j<n):Fl.ok (.a n e) (zxo n e j):=by
 intro z S w cs hp;have c:=hp;have:=Sub.nth n e.rep z j (xer z j e.z) (getD_some e.z<|c.1▸b) S w cs hp;rw[e.n_rep]at this;exact this
def zqS(v:xm P cf.tt)(Y:ZX P cf.tt){k:N (K×Dv)->V R}(h:zgZ cf cx σ t x y k=Z r):∃l,k l=Z r/\ES P ⟨d,.indexAddr t x y,ty,pos,aft,g⟩ cx σ F l:=by
 have H:∀{vs env S w},(∀L∈y5 (.indexAddr t x y),Lk P vs env S w cx σ L)->VD P vs env S w cx σ x:=λhl=>yX hl (by simp[xaz]);have J:∀{vs env S w},(∀L∈y5 (.indexAddr t x y),Lk P vs env S w cx σ L)->VD P vs env S w cx σ y:=λhl=>yX hl (by simp[xaz]);unfold zgZ at h;split at h
 ·next e E B s xs m A=>
  have⟨M,h⟩:=yB h;cases M;have⟨bytes,c,C⟩:=cZ v Y m;have⟨j,i,h,hc⟩:=zgN h;have⟨z,Q,h⟩:=x9 h;refine⟨_,h,ZE λenv w S vs T hl=> ?_⟩;have⟨ik,hd⟩:=hc P vs env S w<|J hl;exact⟨_,_,_,_,[fV (eS e.rep) xs<|ev env x],[],zo4 (e:=e.rep) (xs:=xs) (k:=j) (y:=z) O hd (jA v m) C (zwJ i Q)<|λS w h=>h.1,xS,⟨zj A<|H hl,xS⟩,λu w' _ U=>zw U.1⟩
 ·next e E B o m A=>
  split at h
  ·next s E' xs ho=>
   have⟨M,h⟩:=yB h;cases M;have⟨bytes,c,C⟩:=cZ v Y m;have⟨j,i,h,hc⟩:=zgN h;refine⟨_,h,?_⟩;intro env w S vs hS T hl;have⟨ik,hd⟩:=hc P vs env S w<|J hl;have hm:(mO e.rep E' (vs o) xs).p S w:=Y3 T ho;have⟨b,cap,hv,_⟩:=gf hm<|xaG (sB _) i;have hk:ev env x=vs o:=zj A<|H hl;refine Yq.of_value (MQ (jA v m) C (hk.trans hv) hd i w) ⟨yO.refl _ _,zw ?_⟩;exact⟨λz=>Sub.self e.rep z,b,_,_,hv,i,by simp[Fl.self]⟩
  ·cases h
 ·next q G E B n e xs m A=>
  have⟨D,h⟩:=yv h;rw[Th]at D;have hn:=yr D.1;subst hn;have⟨bytes,c,C⟩:=znJ v D.2;have⟨j,i,h,hc⟩:=zgN h;have⟨z,Q,h⟩:=x9 h;refine⟨_,h,ZE λenv w S vs T hl=> ?_⟩;have⟨ik,hd⟩:=hc P vs env S w<|J hl;have hp:(fP (Ty.a G e).rep xs<|ev env x).p S w:=zj A<|H hl;have⟨_,_,_,_,_,_,hi,_⟩:=id hp;exact⟨_,_,_,_,[fP (Ty.a G e).rep xs<|ev env x],[],zkE (e:=(Ty.a G e).rep) (f:=e.rep) (z:=xs) (z':=z) (zoo v m) C O hd i (Sub.nth G e.rep xs j z<|zwJ (hi▸i) Q)<|λS w h=>h.1,xS,⟨hp,xS⟩,λu w' _ U=>zw U.1⟩
 ·next q G E B o n e m A=>
  have⟨D,h⟩:=yv h;rw[Th]at D;have hn:=yr D.1;subst hn;have⟨bytes,c,C⟩:=znJ v D.2;have⟨j,i,h,hc⟩:=zgN h;refine⟨_,h,zJ λenv w S vs hl=> ?_⟩;have⟨ik,hd⟩:=hc P vs env S w<|J hl;have⟨h1,b,h2⟩:=zj A<|H hl;exact⟨_,zfp (zoo v m) C (h1.trans h2) hd i w,zw ⟨zuw i,b,h2,by rw[e.n_rep];rfl⟩⟩
 ·cases h
def eo:∀{k:K}{t:Ty}{i:K}{f:Fl t.D},xy k t i=Z f->Fl.ok t f
 |0,.w1 t,0,f,h=>by
  simp only[xy,xao]at h;subst h;exact λz=>Sub.wrap t.rep z
 |0,.w1 t,_+1,_,h=>by cases h
 |0,.i,_,_,h=>by cases h
 |0,.u,_,_,h=>by cases h
 |0,.b,_,_,h=>by cases h
 |0,.l _,_,_,h=>by cases h
 |0,.p _ _,_,_,h=>by cases h
 |0,.a _ _,_,_,h=>by cases h
 |0,.ch,_,_,h=>by cases h
 |0,.tx,_,_,h=>by cases h
 |0,.po _,_,_,h=>by cases h
 |1,t,i,f,h=>by
  unfold xy at h;cases c:xad i 0<;>rw[c]at h
  ·cases h
  ·simp only[vL,xao]at h;subst h;exact λz=>Sub.self t.rep z
 |k+2,.p s t,0,f,h=>by
  simp only[xy,xao]at h;subst h;exact λz=>Sub.fst s.rep t.rep z
 |k+2,.p s t,i+1,f,h=>by
  simp only[xy]at h;split at h
  ·next f' e=>
   simp only[xao]at h;subst h;intro z;have:=(Sub.snd s.rep t.rep z).comp<|eo e z.2;rw[s.n_rep]at this;exact this
  ·cases h
 |k+2,.i,i,f,h=>by simp[xy]at h
 |k+2,.u,i,f,h=>by simp[xy]at h
 |k+2,.b,i,f,h=>by simp[xy]at h
 |k+2,.l _,i,f,h=>by simp[xy]at h
 |k+2,.a _ _,i,f,h=>by simp[xy]at h
def Oz:∀{k:K}{t:Ty}{i j:K}{f g:Fl t.D},xy k t i=Z f->xy k t j=Z g->i≠j->
 (∀z x,g.get (f.set x z)=g.get z)/\(∀z x y,g.set y (f.set x z)=f.set x (g.set y z))/\(g.off+g.f.n<=f.off\/f.off+f.f.n<=g.off)
 |0,.w1 _,0,0,_,_,_,_,h=>wl O h
 |0,.w1 _,_+1,_,_,_,h,_,_=>by cases h
 |0,.w1 _,0,_+1,_,_,_,h,_=>by cases h
 |0,.i,_,_,_,_,h,_,_=>by cases h
 |0,.u,_,_,_,_,h,_,_=>by cases h
 |0,.b,_,_,_,_,h,_,_=>by cases h
 |0,.l _,_,_,_,_,h,_,_=>by cases h
 |0,.p _ _,_,_,_,_,h,_,_=>by cases h
 |0,.a _ _,_,_,_,_,h,_,_=>by cases h
 |0,.ch,_,_,_,_,h,_,_=>by cases h
 |0,.tx,_,_,_,_,h,_,_=>by cases h
 |0,.po _,_,_,_,_,h,_,_=>by cases h
 |1,t,i,j,f,g,c,m,hn=>by
  unfold xy at c m;cases o:xad i 0<;>rw[o]at c
  ·cases c
  cases hc:xad j 0<;>rw[hc]at m
  ·cases m
  exact wl ((yr o).trans (yr hc).symm) hn
 |k+2,.p s t,0,0,_,_,_,_,h=>wl O h
 |k+2,.p s t,0,j+1,f,g,c,m,_=>by
  simp only[xy,xao]at c m;subst c;split at m
  ·next v q=>
   simp only[xao]at m;subst m;exact⟨λ_ _=>O,λ_ _ _=>O,.inr<|by simp only;lia⟩
  ·cases m
 |k+2,.p s t,i+1,0,f,g,c,m,_=>by
  simp only[xy,xao]at c m;subst m;split at c
  ·next f' hd=>
   simp only[xao]at c;subst c;exact⟨λ_ _=>O,λ_ _ _=>O,.inl<|by simp only;lia⟩
  ·cases c
 |k+2,.p s t,i+1,j+1,f,g,c,m,hn=>by
  simp only[xy]at c m;split at c
  ·next f' hd=>
   split at m
   ·next v q=>
    simp only[xao]at c m;subst c;subst m;have⟨h1,A,h3⟩:=Oz hd q (λe=>hn<|by rw[e]);exact⟨λz x=>h1 z.2 x,λz x y=>by simp only;rw[A z.2 x y],by obtain h3|h3:=h3;exact .inl (by simp only;lia);exact .inr<|by simp only;lia⟩
   ·cases m
  ·cases c
 |k+2,.i,i,_,f,_,h,_,_=>by simp[xy]at h
 |k+2,.u,i,_,f,_,h,_,_=>by simp[xy]at h
 |k+2,.b,i,_,f,_,h,_,_=>by simp[xy]at h
 |k+2,.l _,i,_,f,_,h,_,_=>by simp[xy]at h
 |k+2,.a _ _,i,_,f,_,h,_,_=>by simp[xy]at h
def QH:∀t:Ty,∃h,Ty.same t t=Z ⟨h⟩
 |.i=>⟨O,O⟩
 |.u=>⟨O,O⟩
 |.b=>⟨O,O⟩
 |.ch=>⟨O,O⟩
 |.tx=>⟨O,O⟩
 |.l t=>by have⟨h,e⟩:=QH t;exact⟨O,by simp only[Ty.same,e]⟩
 |.po t=>by have⟨h,e⟩:=QH t;exact⟨O,by simp only[Ty.same,e]⟩
 |.w1 t=>by have⟨h,e⟩:=QH t;exact⟨O,by simp only[Ty.same,e]⟩
 |.a k t=>by have⟨h,e⟩:=QH t;exact⟨O,by simp only[Ty.same,e,dite_true]⟩
 |.p s t=>by have⟨h,e⟩:=QH s;have⟨f,c⟩:=QH t;exact⟨O,by simp only[Ty.same,e,c]⟩
def az{s t:Ty}(h:(Ty.same s t).isSome=I):s=t:=by
 cases a:Ty.same s t with
 |none=>rw[a]at h;cases h
 |some p=>exact p.down
def Dj{α:Type}{s:Ty}{off:K}{g:α->(Ty.l s).D}{st:(Ty.l s).D->α->α}{xs:N s.D}{z:α}:Ye s (Z ⟨off,.l s,g,st⟩) xs z=st xs z:=by
 have⟨h,e⟩:=QH s;simp only[Ye,e]
theorem zjZ{n i j:K}{t s:Ty}{f:Fl t.D}{hv:N xn}{z:t.D}{r:K}(c:vrP s (xy n t j))(a:xy n t i=Z f)(hn:i≠j):
 Sub (me t.rep (Vb<|xy n t j) (Ye s (xy n t j) []) hv) (z,r) f.off f.f.rep (f.get z) (λy=>(f.set y z,r)):=by
 have⟨off,g,st,b⟩:=c;have⟨h1,h,e⟩:=Oz b a<|Ne.symm hn;rw[b];have hp:∀z,Ye s (Z ⟨off,.l s,g,st⟩) [] z=st ([]:N s.D) z:=λz=>Dj;refine Sub.other ?_ (by rw[f.f.n_rep];exact e);have k:=eo a<|Ye s (Z ⟨off,.l s,g,st⟩) [] z;grind
def zeh:∀{k:K}{t:Ty}{i:K}{f:Fl t.D},xy k t i=Z f->∀x y z,f.set x (f.set y z)=f.set x z
 |0,.w1 t,0,f,h=>by
  simp only[xy,xao]at h;subst h;exact λ_ _ _=>O
 |0,.w1 t,_+1,_,h=>by cases h
 |0,.i,_,_,h=>by cases h
 |0,.u,_,_,h=>by cases h
 |0,.b,_,_,h=>by cases h
 |0,.l _,_,_,h=>by cases h
 |0,.p _ _,_,_,h=>by cases h
 |0,.a _ _,_,_,h=>by cases h
 |0,.ch,_,_,h=>by cases h
 |0,.tx,_,_,h=>by cases h
 |0,.po _,_,_,h=>by cases h
 |1,t,i,f,h=>by
  unfold xy at h;cases c:xad i 0<;>rw[c]at h
  ·cases h
  ·simp only[vL,xao]at h;subst h;exact λ_ _ _=>O
 |k+2,.p s t,0,f,h=>by
  simp only[xy,xao]at h;subst h;exact λ_ _ _=>O
 |k+2,.p s t,i+1,f,h=>by
  simp only[xy]at h;split at h
  ·next f' e=>
   simp only[xao]at h;subst h;intro x y z;simp only;rw[zeh e]
  ·cases h
 |k+2,.i,i,f,h=>by simp[xy]at h
 |k+2,.u,i,f,h=>by simp[xy]at h
 |k+2,.b,i,f,h=>by simp[xy]at h
 |k+2,.l _,i,f,h=>by simp[xy]at h
 |k+2,.a _ _,i,f,h=>by simp[xy]at h
def zsq{S:K->Prop}{w:xN}{n i off:K}{t s:Ty}{g:t.D->(Ty.l s).D}{st:(Ty.l s).D->t.D->t.D}{z:t.D}{cs:N xn}{v:xn}(e:xy n t i=Z ⟨off,.l s,g,st⟩)(h:t.rep.p S z cs w)(hv:cs[off]? =Z v)(h1:v.oneCell'=I):
 (me t.rep off (st ([]:N s.D)) [v]).p S (z,0) cs w:=by
 have⟨b,c,a,e1,m,f,j⟩:=eo e z S w cs h;refine⟨v,O,h1,hv,?_⟩;have k:=j w ([]:N s.D) [.slice yD 0 0] (yO.refl _ _) ⟨_,O,SlP.nil⟩;have hc:X c=1:=(Ty.l s).rep.len f;obtain⟨c0,rfl⟩:=xdi.1 hc;have:cs.set off (.slice yD 0 0)=b++[.slice yD 0 0]++a:=by simp_all
 rw[this];exact k
def zuF{S e:K->Prop}{w:xN}{n i off r:K}{t s:Ty}{g:t.D->(Ty.l s).D}{st:(Ty.l s).D->t.D->t.D}{z:t.D}{cs:N xn}{v:xn}{hv:N xn}{xs:N s.D}(o:xy n t i=Z ⟨off,.l s,g,st⟩)(h:(me t.rep off (st ([]:N s.D)) hv).p S (z,r) cs w)
 (A:hv[r]? =Z v) (B:∀k,S k->e k) (C:(fV (eS s.rep) xs v).p e w):t.rep.p e (st xs z) cs w:=by
 have⟨u,h1,Q,E,f⟩:=h;rw[A]at h1;cases h1;have f:=t.rep.sub f λk _=>B k;have⟨j,c,a,e1,G,H,J⟩:=eo o (st ([]:N s.D) z) e w _ f;have⟨b,L,q⟩:=C;have m:=J w xs b (yO.refl _ _) q;simp only at m G;rw[show st xs (st ([]:N s.D) z)=st xs z from zeh o xs ([]:N s.D) z]at m;have hc:X c=1:=(Ty.l s).rep.len H;have hd:X b=1:=(eS s.rep).len q;obtain⟨c0,rfl⟩:=xdi.1 hc;obtain⟨c1,rfl⟩:=xdi.1 hd;obtain rfl:v=c1:=L;have⟨T,M⟩:=xav.1 E;have:cs=j++[v]++a:=by
  have U:(cs.set off (.slice yD 0 0)).set off v=cs:=by rw[List.set_set,<-M,xcW]
  simp_all
 rw[this];exact m
def zkp{t:Ty}{a:Fl t.D}{c:Fl a.f.D}(b:Fl.ok t a)(hc:Fl.ok a.f c):Fl.ok t (a.comp c):=λz=>(b z).comp<|hc<|a.get z
def zfl{s:wn}{q:Ty}{n B i:K}{f:Fl q.D}(a:xm P cf.tt)(h:Xo cf s=Z ⟨q,.st n,B⟩)(b:xy n q i=Z f):ziD P s i=Z f.off:=(a _ _ h).2.2.2.2.1 i f b
def zxa{c:qS}{v:V Dv}{k:Dv->V R}(h:eqP c v k=Z r):∃dv b,v=Z dv/\zlq c b k=Z r/\∀(P:ww) vs S w u,(qk P vs dv u).p S w->∃p:V kG,u=.pointer p/\p.isNone=b:=by
 unfold eqP at h;split at h
 ·exact⟨_,_,O,h,λP vs S w u a=>⟨yD,a,O⟩⟩
 ·exact⟨_,_,O,h,λP vs S w u ⟨b,o,cs,h1,_⟩=>⟨_,h1,O⟩⟩
 ·exact⟨_,_,O,h,λP vs S w u ⟨h1,b,e⟩=>⟨_,h1.trans e,O⟩⟩
 ·exact⟨_,_,O,h,λP vs S w u a=>zuM a⟩
 ·cases h
def zwn(a:xm P cf.tt)(h:zrb cf t=I):P.underlying t=Z (.pointer<|P.pointee t):=by
 unfold zrb at h;split at h
 ·next q E B b=>
  have:=(a _ _ b).2.2.2;have this:P.underlying t=Z (.pointer E):=this;rw[show P.pointee t=E by simp[Program.pointee,this]];exact this
 ·cases h
def zyx(j:xm P cf.tt){e:qS}{k:N (K×Dv)->V R}(hp:zrb cf t=I)(a:zrQ (xT cx σ y)=I)(h:eqP e (xT cx σ x) (λv=>k [(0,v)])=Z r):
 ∃l,k l=Z r/\ES P ⟨d,.binOp e t x y yt,ty,pos,aft,g⟩ cx σ F l:=by
 have⟨dv,b,m,h,hv⟩:=zxa h;have a:xT cx σ y=Z .np:=by
  unfold zrQ at a;split at a
  ·lia
  ·cases a
 have i:=zwn j hp;have go:∀{env:xt}{w:xN}{S:K->Prop}{vs:K->xn},(∀n∈y5 (.binOp e t x y yt),Lk P vs env S w cx σ n)->∃p:V kG,ev env x=.pointer p/\p.isNone=b/\ev env y=.pointer yD:=λhl=>by
  have⟨p,h1,c⟩:=hv P _ _ _ _ (zj m<|yX hl<|by simp[xaz]);exact⟨p,h1,c,zj a<|yX hl<|by simp[xaz]⟩
 cases e<;>simp only[zlq,vW]at h
 case eql=>
  refine⟨[(0,.kb<|decide<|b=I)],kbS h,zJ λenv w S vs hl=>⟨.bool b,?_,zw<|by simp[qk,Ah]⟩⟩;have⟨p,h1,c,f⟩:=go hl;simp[wD,h1,f,qZ,run_eql_pointer_nil w t p i,c]
 case neq=>
  refine⟨[(0,.kb (!decide (b=I)))],kbN h,zJ λenv w S vs hl=>⟨.bool !b,?_,zw<|by simp[qk,Ah]⟩⟩;have⟨p,h1,c,f⟩:=go hl;simp[wD,h1,f,qZ,run_neq_pointer_nil w t p i,c]
def zwI{k:N (K×Dv)->V R}(h:zuV cx σ x k=Z r):∃l,k l=Z r/\ES P ⟨d,.nilCheck x,ty,pos,aft,g⟩ cx σ F l:=by
 have f:∀{env:xt}{a:kG} (w:xN),ev env x=.pointer (Z a)->(wD (ev env) ⟨d,.nilCheck x,ty,pos,aft,g⟩).run P w=.ok (.value<|ev env x) w:=λw h=>by simp[wD,h]
 unfold zuV at h;split at h
 ·next s y c=>
  refine⟨_,h,zJ λenv w S vs hl=> ?_⟩;have h1:=zj c (yX hl<|by simp[xaz]);have⟨b,o,cs,e,_⟩:=h1;exact⟨_,f w e,zw<|zj c<|yX hl<|by simp[xaz]⟩
 ·next o s c=>
  refine⟨_,h,zJ λenv w S vs hl=> ?_⟩;have⟨h1,b,e⟩:=zj c (yX hl<|by simp[xaz]);exact⟨_,f w<|h1.trans e,zw<|zj c<|yX hl<|by simp[xaz]⟩
 ·next s y c=>
  have⟨y',i,h⟩:=Gx h;refine⟨_,h,zJ λenv w S vs hl=> ?_⟩;have h1:(fV (eO s.rep) y<|ev env x).p S w:=zj c (yX hl<|by simp[xaz]);rw[i]at h1;have e:=zmr h1;have⟨b,o,cs,j,_⟩:=e;exact⟨_,f w j,zw<|zmr h1⟩
 ·cases h
def zqC(A:xm P cf.tt){i:K}{k:N (K×Dv)->V R}(h:ziL cf cx σ t x i k=Z r):∃l,k l=Z r/\ES P ⟨d,.fieldAddr t x i,ty,pos,aft,g⟩ cx σ F l:=by
 have C:∀{vs env S w},(∀D∈y5 (.fieldAddr t x i),Lk P vs env S w cx σ D)->VD P vs env S w cx σ x:=λhl=>yX hl (by simp[xaz]);unfold ziL at h;split at h
 ·next e n B s y p q=>
  have⟨a,h⟩:=yB h;subst a;split at h
  ·next f c=>
   exact⟨_,h,ZE λenv w S vs G hl=>⟨_,_,_,_,[fP s.rep y<|ev env x],[],zqb (e:=s.rep) (z:=y) (zfl A p c) O (eo c y)<|λS w h=>h.1,xS,⟨zj q<|C hl,xS⟩,λu w' _ c=>zw c.1⟩⟩
  ·cases h
 ·next e n B o s p q=>
  split at h
  ·next a f _ c=>
   have⟨a⟩:=a;subst a;refine⟨_,h,zJ λenv w S vs hl=> ?_⟩;have⟨h1,b,v⟩:=zj q<|C hl;exact⟨_,Ei (zfl A p c) (h1.trans v) w,zw ⟨eo c,b,v,O⟩⟩
  ·cases h
 ·next e n B o s g p q=>
  split at h
  ·next a f _ c=>
   have⟨a⟩:=a;subst a;refine⟨_,h,zJ λenv w S vs hl=> ?_⟩;have⟨h0,b,h1,v⟩:=zj q<|C hl;exact⟨_,Ei (zfl A p c) v w,zw ⟨zkp h0<|eo c,b,h1,by simp only[Fl.comp,xcL]⟩⟩
  ·cases h
 ·next e n B o s j g p q=>
  split at h
  ·next a f _ c=>
   have⟨a⟩:=a;subst a;refine⟨_,h,zJ λenv w S vs hl=> ?_⟩;have⟨h0,b,m,cap,h1,v,E⟩:=zj q<|C hl;exact⟨_,Ei (zfl A p c) E w,zw ⟨zkp h0<|eo c,b,m,cap,h1,v,by simp only[Fl.comp,xcL]⟩⟩
  ·cases h
 ·cases h
def zto(T:xm P cf.tt){k:N (K×Dv)->V R}(h:zpa cf cx σ t x k=Z r):∃l,k l=Z r/\ES P ⟨d,.load t x,ty,pos,aft,g⟩ cx σ F l:=by
 have C:∀{vs env S w},(∀U∈y5 (.load t x),Lk P vs env S w cx σ U)->VD P vs env S w cx σ x:=λhl=>yX hl (by simp[xaz]);unfold zpa at h;split at h
 ·next v Y=>
  have⟨M,hd,_⟩:=Wc T Y;unfold zsE at h;split at h
  ·next s y hc=>
   have⟨a,h⟩:=yB h;simp only at a;subst a;exact⟨_,h,ZE λenv w S vs n hl=>⟨_,_,_,_,[fP v.ty.rep y<|ev env x],[],zqk (e:=v.ty.rep) (y:=y) O hd<|λS w h=>h.1,xS,⟨zj hc<|C hl,xS⟩,λu w' _ i=>zw i.1⟩⟩
  ·next o s hc=>
   split at h
   ·next D E z A=>
    have⟨a,h⟩:=yB h;simp only at a;subst a;refine⟨_,h,ZE λenv w S vs n hl=> ?_⟩;have⟨h1,b,G⟩:=zj hc<|C hl;have⟨H,q,J⟩:(mP v.ty.rep.c E (vs o) z).p S w:=Y3 n A;exact⟨_,_,_,_,[],[mB v.ty.rep.c E H z],JR (z':=z) 0 O (h1.trans q) (Sub.self v.ty.rep z) hd,⟨J,xS⟩,xS,λu w' _ i=>zw i.1⟩
   ·cases h
  ·next o s f hc=>
   split at h
   ·next D E z A=>
    have⟨L,h⟩:=yB h;subst L;have⟨a,h⟩:=yB h;simp only at a;have⟨off,ff,get,set⟩:=f;simp only at a;subst a;refine⟨_,h,ZE λenv w S vs n hl=> ?_⟩;have⟨h0,b,h1,G⟩:=zj hc<|C hl;have⟨H,q,J⟩:(mP D.rep.c E (vs o) z).p S w:=Y3 n A;rw[h1]at q;cases q;exact⟨_,_,_,_,[],[mB D.rep.c E b z],JR (z':=get z) 0 O G (by rw[xaF];exact h0 z) hd,⟨J,xS⟩,xS,λu w' _ i=>zw i.1⟩
   ·cases h
  ·next o s j f hc=>
   split at h
   ·next D E xs A=>
    have⟨L,h⟩:=yB h;cases L;have⟨y,hy,h⟩:=x9 h;have⟨a,h⟩:=yB h;simp only at a;have⟨off,ff,get,set⟩:=f;simp only at a;subst a;refine⟨_,h,ZE λenv w S vs n hl=> ?_⟩;have⟨h0,b,m,cap,h1,G,q⟩:=zj hc<|C hl;have Q:(mO s.rep E (vs o) xs).p S w:=Y3 n A;have hg:0<X xs:=by
     have⟨cs,h5,h6⟩:=Q;rcases h5.2 with⟨hv,h7⟩|⟨g',B,a0,hv,_⟩
     ·rw[h1]at hv;cases hv
     ·rw[h1]at hv;cases hv;lia
    have⟨H,B,hv,hb⟩:=gf Q hg;rw[h1]at hv;cases hv;have hi:=(Sub.rowT0 s.rep cap xs j (xs.getD j s.z)<|getD_some s.z G).comp<|h0<|xs.getD j s.z;subst hy;exact⟨_,_,_,_,[],[mB (rowT s.rep cap) E b xs],JR 0 O q hi hd,⟨hb,xS⟩,xS,λu w' _ i=>zw i.1⟩
   ·cases h
  ·cases h
 ·cases h
def zsn{α:Type}(xs:N α):xs=(xs.drop 0).take (X xs-0):=Xn
def zsQ{α:Type}(xs:N α)(l:K):xs.drop l=(xs.drop l).take (X xs-l):=(xaQ Xn).symm
def zmq{i off n:K}{agg:ws}{cs:wL xn}{v:xn}(h:zo2 P t i=Z (off,agg,n))(b:ev env x=.agg cs)(hv:(if agg=I then Value.agg (cs.extract off<|off+n)else cs.getD off wR)=v)(hc:agg=yL->off<cs.size)(w:xN):
 (wD (ev env) ⟨d,.field t x i,ty,pos,aft,g⟩).run P w=.ok (.value v) w:=by
 unfold zo2 at h;split at h
 ·next fs c=>
  split at h
  ·next f e=>
   split at h
   ·next ag o j z k=>
    simp only[xao,xcZ]at h;have⟨h1,l,m⟩:=h;subst h1;subst l;subst m;have a:=UI.of k;have hp:(part f.type cs f.offset).run P w=.ok v w:=by
     unfold part;simp only[xau,zbu a,xai]
     cases ag with
     |true=>
      simp only[wN,xau,wM a,xai,xaO];simp_all
     |false=>
      simp_all
    simp only[wD,b,Instr.field,asAgg,xau,wE c,xai,e,xaO,hp]
   ·cases h
  ·cases h
 ·cases h
def ztR{s:wn}{q:Ty}{n B i:K}{f:Fl q.D}(a:xm P cf.tt)(h:Xo cf s=Z ⟨q,.st n,B⟩)(b:xy n q i=Z f):zo2 P s i=Z (f.off,f.f.rep.agg,f.f.n):=(a _ _ h).2.2.2.2.2.2 i f b
def zpS(j:xm P cf.tt){i:K}{k:N (K×Dv)->V R}(h:zd9 cf cx σ t x i k=Z r):∃l,k l=Z r/\ES P ⟨d,.field t x i,ty,pos,aft,g⟩ cx σ F l:=by
 have z:∀{vs env S w},(∀A∈y5 (.field t x i),Lk P vs env S w cx σ A)->VD P vs env S w cx σ x:=λhl=>yX hl (by simp[xaz]);unfold zd9 at h;split at h
 ·next e n B s y m C=>
  have⟨hi,h⟩:=yB h;subst hi;split at h
  ·next f o=>
   refine⟨_,h,zJ λenv w S vs hl=> ?_⟩;have⟨cs,hv,hp⟩:=zj C<|z hl;have hd:s.rep.agg=I:=(j _ _ m).2.2.2.1;have⟨D,c,p,q,h1,u,_⟩:=eo o y S w cs hp;have v:=f.f.rep.len u;rw[Ty.n_rep]at v;have hv:ev env x=.agg cs.toArray:=by rw[hv];unfold ye.val;rw[hd];rfl
   refine⟨f.f.rep.val c,zmq (ztR j m o) hv ?_ ?_ w,zw ⟨c,O,u⟩⟩
   ·unfold ye.val
    cases hc:f.f.rep.agg with
    |true=>
     simp_all
    |false=>
     simp only[xaj,wP];have b:=f.f.rep.n1 hc;rw[Ty.n_rep]at b;obtain⟨a,rfl⟩:∃a,c=[a]:=by
      match c,v.trans b with
      |[a],_=>exact⟨a,O⟩
     rw[q,<-h1];simp[Array.getD]
   ·intro hc;have b:=f.f.rep.n1 hc;rw[Ty.n_rep]at b;rw[q];simp;lia
  ·cases h
 ·cases h
def nT{α:Type}{e:ye α}{E:wn}{v:xn}{xs:N α}{S:K->Prop}{w:xN}(h:(mO e E v xs).p S w):(v=.slice yD 0 0/\xs=[])\/∃b cap,v=.slice (Z ⟨b,0,yD⟩) (X xs) cap/\X xs<=cap/\cap<=9223372036854775807:=by
 have⟨cs,h1,i⟩:=h;rcases h1.2 with⟨rfl,h0⟩|⟨g,cap,a,rfl,hc,j,c,f,hd,k⟩
 ·simp_all
 ·exact .inr ⟨g,cap,O,c,f⟩
def zdb{α:Type}{e:ye α}{E:wn}{v:xn}{xs:N α}{S:K->Prop}{w:xN}(h:(mO e E v xs).p S w){b m cap l n c:K}(hv:v=.slice (Z ⟨b,0,yD⟩) m cap)(hl:l+n<=m)(q:n<=c)(hc:c<=9223372036854775807):
 SlQ e S ((xs.drop l).take n) (.slice (Z ⟨b,0+l*e.n,yD⟩) n c) w:=by
 have⟨cs,h1,f⟩:=h;rcases h1.2 with⟨h0,_⟩|⟨g,a,i,h0,hi,j,s,u,z,hd⟩
 ·simp_all
 ·rw[hv]at h0;cases h0;have k:X ((xs.drop l).take n)=n:=by simp;lia
  refine⟨Z ⟨b,0+l*e.n,yD⟩,c,by rw[k],W,by unfold qs;lia,.inr ⟨b,0+l*e.n,(cs.drop<|l*e.n).take<|n*e.n,O,?_,(f.drop l).take n⟩⟩;have o:=At.row j;have:=o.take<|X xs*e.n;rw[hd]at this;exact(this.drop<|l*e.n).take<|n*e.n
def R5{t:wn}{c:wn}{ag:ws}{e bytes:K}{a:xn}{b o n cap l h:K}{lo hi:V xn}{w:xN}(f:P.underlying t=Z (.slice c))(i:UI P c ag e bytes a)
 (hl:lo=Z (.int .i64 (l:J))\/(lo=yD/\l=0)) (j:hi=Z (.int .i64 (h:J))\/(hi=yD/\h=n)) (k:l<=h) (hc:h<=cap):
 (xcS t (.slice (Z ⟨b,o,yD⟩) n cap) lo hi yD).run P w=.ok (.slice (if cap=l then Z ⟨b,o,yD⟩else(Z (⟨b,o,yD⟩:kG)).map (·.add (l*e))) (h-l)<|cap-l) w:=by
 have b1:(0:J)<=(l:J)/\(l:J)<=(h:J):=W
 have b2:(0:J)<=(h:J)/\(h:J)<=(cap:J):=W
 unfold xcS;unfold xfC;simp only[xau,wE f,xai];unfold xed
 obtain rfl|⟨rfl,rfl⟩:=hl<;>obtain rfl|⟨rfl,rfl⟩:=j<;>
  simp only[xeo,jp,xau,xaO,xai,iq b1,iq b2,wM i,xaJ]
def zde{t:wn}{b:wn}{ag:ws}{c bytes:K}{a:xn}{lo hi:V xn}{w:xN}(e:P.underlying t=Z (.slice b))(f:UI P b ag c bytes a)
 (hl:lo=Z (.int .i64 ((0:K):J))\/lo=yD) (h:hi=Z (.int .i64 ((0:K):J))\/hi=yD):
 (xcS t (.slice yD 0 0) lo hi yD).run P w=.ok (.slice yD 0 0) w:=by
 unfold xcS;unfold xfC;simp only[xau,wE e,xai];unfold xed
 obtain rfl|rfl:=hl<;>obtain rfl|rfl:=h<;>
  simp[xeo,jp,wM f]
def zdB{m:K}{lo hi:V K}{k:K->K->V R}(h:zrn m lo hi k=Z r):∃l a,l<=a/\a<=m/\k l (a-l)=Z r/\(lo=Z l\/(lo=yD/\l=0))/\(hi=Z a\/(hi=yD/\a=m)):=by
 unfold zrn at h;split at h
 ·next a=>have⟨h1,b⟩:=YK h;exact⟨0,a,sB _,h1,b,.inr ⟨O,O⟩,.inl O⟩
 ·next l=>have⟨h1,b⟩:=YK h;exact⟨l,m,h1,eZ _,b,.inl O,.inr ⟨O,O⟩⟩
 ·next l a=>have⟨h1,b⟩:=YK h;exact⟨l,a,h1.1,h1.2,b,.inl O,.inl O⟩
 ·exact⟨0,m,sB _,eZ _,h,.inr ⟨O,O⟩,.inr ⟨O,O⟩⟩
def zhp{t:wn}{s:vI}{l h:K}{lo hi:V xn}{w:xN}(a:P.underlying t=Z .string)
 (hl:lo=Z (.int .i64 (l:J))\/(lo=yD/\l=0)) (b:hi=Z (.int .i64 (h:J))\/(hi=yD/\h=s.size)) (c:l<=h) (e:h<=s.size):
 (xcS t (.string s) lo hi yD).run P w=.ok (.string<|s.extract l h) w:=by
 have b1:(0:J)<=(l:J)/\(l:J)<=(h:J):=W
 have b2:(0:J)<=(h:J)/\(h:J)<=(s.size:J):=W
 unfold xcS;unfold xfC;simp only[xau,wE a,xai];unfold xed
 obtain rfl|⟨rfl,rfl⟩:=hl<;>obtain rfl|⟨rfl,rfl⟩:=b<;>
  simp[xeo,jp,c,e]
def Rf(s:vI)(l h:K):xr (s.extract l h)=((xr s).drop l).take (h-l):=by simp_all [xr]
def zqJ(Y:xm P cf.tt)(hL:ZX P cf.tt){lo hi:V wr}{k:N (K×Dv)->V R}(h:zix cf cx σ t x lo hi k=Z r):∃l,k l=Z r/\ES P ⟨d,.slice t x lo hi yD,ty,pos,aft,g⟩ cx σ F l:=by
 have hx:∀{vs env S w},(∀G∈y5 (.slice t x lo hi yD),Lk P vs env S w cx σ G)->VD P vs env S w cx σ x:=λhl=>yX hl (by simp[xaz]);have hc:∀{vs env S w z},lo=Z z->(∀G∈y5 (.slice t x lo hi yD),Lk P vs env S w cx σ G)->VD P vs env S w cx σ z:=λe hl=>yX hl (by simp[xaz,e]);have hd:∀{vs env S w z},hi=Z z->(∀G∈y5 (.slice t x lo hi yD),Lk P vs env S w cx σ G)->VD P vs env S w cx σ z:=λe hl=>yX hl (by simp[xaz,e]);unfold zix at h;split at h
 ·next e E B s xs Q he=>
  have⟨hm,h⟩:=yB h;cases hm;have⟨bytes,a0,hk⟩:=cZ Y hL Q
  have A:∀{l m:K}{zs:N e.D},l<=m->m<=xaD xs->zs=(xdD l xs).take (m-l)->(∀vs env S w,(∀G∈y5 (.slice t x lo hi yD),Lk P vs env S w cx σ G)->((lo.map<|ev env)=Z (.int .i64 (l:J))\/(lo=yD/\l=0))/\((hi.map<|ev env)=Z (.int .i64 (m:J))\/(hi=yD/\m=xaD xs)))->
   k [(0,.d (.l e) zs)]=Z r->∃l,k l=Z r/\ES P ⟨d,.slice t x lo hi yD,ty,pos,aft,g⟩ cx σ F l:=by
   intro l m zs h1 a i j C;subst i;refine⟨_,C,ZE λenv w S vs hM hl=> ?_⟩;have⟨h6,U⟩:=j vs env S w hl;exact⟨_,_,_,_,[fV (eS e.rep) xs<|ev env x],[],zfg (e:=e.rep) (xs:=xs) (l:=l) (h:=m) O (jA Y Q) hk h6 U h1 a<|λS w h=>h.1,xS,⟨zj he<|hx hl,xS⟩,λu w' _ hf=>zw hf.1⟩
  rcases gL h with⟨e1,h1⟩|⟨zl,l,e1,h1,T⟩
  ·rcases gL h1 with⟨f,a⟩|⟨zh,m,f,a,H⟩
   ·exact A (l:=0) (m:=xaD xs) (sB _) (eZ _) (zsn (α:=e.D) xs) (λvs env S w hl=>⟨.inr ⟨e1,O⟩,.inr ⟨f,O⟩⟩) a
   ·have⟨i,j⟩:=YK a;have⟨zs,L,C⟩:=x9 j;exact A (l:=0) (m:=m) (sB _) i L (λvs env S w hl=>⟨.inr ⟨e1,O⟩,.inl<|by rw[f];exact wF Z<|H P vs env S w<|hd f hl⟩) C
  ·rcases gL h1 with⟨f,a⟩|⟨zh,m,f,a,H⟩
   ·have⟨i,j⟩:=YK a;have⟨zs,L,C⟩:=x9 j;exact A (l:=l) (m:=xaD xs) i (eZ _) (L.trans<|zsQ (α:=e.D) xs l) (λvs env S w hl=>⟨.inl (by rw[e1];exact wF Z<|T P vs env S w<|hc e1 hl),.inr ⟨f,O⟩⟩) C
   ·have⟨i,j⟩:=YK a;have⟨zs,L,C⟩:=x9 j;exact A (l:=l) (m:=m) i.1 i.2 L (λvs env S w hl=>⟨.inl (by rw[e1];exact wF Z<|T P vs env S w<|hc e1 hl),.inl<|by rw[f];exact wF Z<|H P vs env S w<|hd f hl⟩) C
 ·next e E B o Q he=>
  split at h
  ·next s E' xs ho=>
   have⟨hm,h⟩:=yB h;cases hm;have⟨bytes,a0,hk⟩:=cZ Y hL Q
   have M:∀(l m:K),l<=m->m<=xaD xs->k [(0,.sv o e l<|m-l)]=Z r->(∀vs env S w,(∀G∈y5 (.slice t x lo hi yD),Lk P vs env S w cx σ G)->((lo.map<|ev env)=Z (.int .i64 (l:J))\/(lo=yD/\l=0))/\((hi.map<|ev env)=Z (.int .i64 (m:J))\/(hi=yD/\m=xaD xs)))->
    ∃l,k l=Z r/\ES P ⟨d,.slice t x lo hi yD,ty,pos,aft,g⟩ cx σ F l:=by
    intro l m h1 a C j;refine⟨_,C,λenv w S vs hS hM hl=> ?_⟩;have⟨h6,U⟩:=j vs env S w hl;have hn:ev env x=vs o:=zj he<|hx hl;rcases nT (show(mO e.rep E' (vs o) xs).p S w from Y3 hM ho)with⟨hv,hg⟩|⟨b,cap,hv,hq,hu⟩
    ·refine(zfg (e:=e.rep) (xs:=([]:N e.D)) (l:=l) (h:=m) O (jA Y Q) hk h6 (by rw[hg]at U;exact U) h1 (by rw[hg]at a;exact a) (Γ:=[fV (eS e.rep) ([]:N e.D)<|ev env x]) (λS w h=>h.1) (ms:=[]) w S hS xS ⟨?_,xS⟩).mono ?_
     ·rw[hn,hv];exact wc.2 ⟨yD,0,O,eZ _,sB _,.inl O⟩
     ·rintro v w' ⟨u,rfl,_,hs,hf⟩;refine⟨hs,zw (.inr ?_)⟩;have hw:m=0:=by rw[hg]at a;exact Nat.le_zero.1 a
      have⟨ao,c,q1,q2,q3,_⟩:=wc.1 hf.1;refine⟨W,ao,c,by unfold qs at q3;lia,?_⟩;rw[q1];simp
    ·have hr:=R5 (P:=P) (b:=b) (o:=0) (n:=xaD xs) (cap:=cap) (w:=w) (l:=l) (h:=m) (jA Y Q) hk (h6.imp id λq=>⟨by rw[q.1];rfl,q.2⟩) (U.imp id λq=>⟨by rw[q.1];rfl,q.2⟩) h1<|PX a hq;rw[<-hv,<-hn]at hr;refine Yq.of_value (v:=.slice (if cap=l then Z ⟨b,0,yD⟩else Z ((⟨b,0,yD⟩:kG).add<|l*e.rep.n)) (m-l)<|cap-l) (w':=w) (by simp[wD,hr]) ⟨yO.refl _ _,zw ?_⟩;by_cases hp:cap=l
     ·rw[iq hp];refine .inr ⟨W,Z ⟨b,0,yD⟩,cap-l,W,?_⟩;rw[(W:m-l=0)]
     ·rw[ir hp];exact .inl ⟨b,xaD xs,cap,cap-l,hv,W,W,W,by rw[jY]⟩
   rcases gL h with⟨e1,h1⟩|⟨zl,l,e1,h1,T⟩
   ·rcases gL h1 with⟨f,a⟩|⟨zh,m,f,a,H⟩
    ·exact M 0 (xaD xs) (sB _) (eZ _) a<|λvs env S w hl=>⟨.inr ⟨e1,O⟩,.inr ⟨f,O⟩⟩
    ·have⟨i,j⟩:=YK a;exact M 0 m (sB _) i j<|λvs env S w hl=>⟨.inr ⟨e1,O⟩,.inl<|by rw[f];exact wF Z<|H P vs env S w<|hd f hl⟩
   ·rcases gL h1 with⟨f,a⟩|⟨zh,m,f,a,H⟩
    ·have⟨i,j⟩:=YK a;exact M l (xaD xs) i (eZ _) j<|λvs env S w hl=>⟨.inl (by rw[e1];exact wF Z<|T P vs env S w<|hc e1 hl),.inr ⟨f,O⟩⟩
    ·have⟨i,j⟩:=YK a;exact M l m i.1 i.2 j<|λvs env S w hl=>⟨.inl (by rw[e1];exact wF Z<|T P vs env S w<|hc e1 hl),.inl<|by rw[f];exact wF Z<|H P vs env S w<|hd f hl⟩
  ·cases h
 ·next q B xs Q he=>
  have A:∀{l m:K}{zs:N K},l<=m->m<=xaD xs->zs=(xdD l xs).take (m-l)->(∀vs env S w,(∀G∈y5 (.slice t x lo hi yD),Lk P vs env S w cx σ G)->((lo.map<|ev env)=Z (.int .i64 (l:J))\/(lo=yD/\l=0))/\((hi.map<|ev env)=Z (.int .i64 (m:J))\/(hi=yD/\m=xaD xs)))->
   k [(0,.d .tx zs)]=Z r->∃l,k l=Z r/\ES P ⟨d,.slice t x lo hi yD,ty,pos,aft,g⟩ cx σ F l:=by
   intro l m zs h1 a i j C;refine⟨_,C,zJ λenv w S vs hl=> ?_⟩;have⟨h6,U⟩:=j vs env S w hl;have⟨s,e1,f,e3⟩:=zfK<|zj he<|hx hl;have hj:X (xr s)=s.size:=ky s;rw[f]at hj;have hr:=zhp (P:=P) (s:=s) (l:=l) (h:=m) (w:=w) (zdf Y Q) (h6.imp id λq=>⟨by rw[q.1];rfl,q.2⟩) (U.imp id λq=>⟨by rw[q.1];rfl,by rw[q.2];exact hj⟩) h1 (by rw[<-hj];exact a);rw[<-e1]at hr;refine⟨.string<|s.extract l m,by simp[wD,hr],zw<|zgg (by rw[Rf,f,i]) ?_⟩;rw[<-ky,Rf,f];have a:m<=xaD (α:=K) xs:=a;rw[xap];lia
  rcases gL h with⟨e1,h1⟩|⟨zl,l,e1,h1,T⟩
  ·rcases gL h1 with⟨f,a⟩|⟨zh,m,f,a,H⟩
   ·exact A (l:=0) (m:=xaD (α:=K) xs) (sB _) (eZ _) (zsn (α:=K) xs) (λvs env S w hl=>⟨.inr ⟨e1,O⟩,.inr ⟨f,O⟩⟩) a
   ·have⟨i,j⟩:=YK a;have⟨zs,L,C⟩:=x9 j;exact A (l:=0) (m:=m) (sB _) i L (λvs env S w hl=>⟨.inr ⟨e1,O⟩,.inl<|by rw[f];exact wF Z<|H P vs env S w<|hd f hl⟩) C
  ·rcases gL h1 with⟨f,a⟩|⟨zh,m,f,a,H⟩
   ·have⟨i,j⟩:=YK a;have⟨zs,L,C⟩:=x9 j;exact A (l:=l) (m:=xaD (α:=K) xs) i (eZ _) (L.trans<|zsQ (α:=K) xs l) (λvs env S w hl=>⟨.inl (by rw[e1];exact wF Z<|T P vs env S w<|hc e1 hl),.inr ⟨f,O⟩⟩) C
   ·have⟨i,j⟩:=YK a;have⟨zs,L,C⟩:=x9 j;exact A (l:=l) (m:=m) i.1 i.2 L (λvs env S w hl=>⟨.inl (by rw[e1];exact wF Z<|T P vs env S w<|hc e1 hl),.inl<|by rw[f];exact wF Z<|H P vs env S w<|hd f hl⟩) C
 ·cases h
def zww(i:xm P cf.tt){k:N (K×Dv)->V R}(h:zvc cf cx σ t x y k=Z r):∃l,k l=Z r/\ES P ⟨d,.index t x y,ty,pos,aft,g⟩ cx σ F l:=by
 have m:∀{vs env S w},(∀a∈y5 (.index t x y),Lk P vs env S w cx σ a)->VD P vs env S w cx σ x:=λhl=>yX hl (by simp[xaz]);have n:∀{vs env S w},(∀a∈y5 (.index t x y),Lk P vs env S w cx σ a)->VD P vs env S w cx σ y:=λhl=>yX hl (by simp[xaz]);unfold zvc at h;split at h
 ·next q B xs o hd=>
  have⟨j,p,h,hi⟩:=zgN h;have⟨z,u,h⟩:=x9 h;refine⟨_,h,zJ λenv w S vs hl=> ?_⟩;have⟨s,e1,e,_⟩:=zfK<|zj hd<|m hl;have⟨ik,v⟩:=hi P vs env S w<|n hl;have f:X (xr s)=s.size:=ky s;have b:j<s.size:=by rw[<-f,e];exact p
  have hc:z=(s[j]'b).toNat:=by
   rw[u,<-e];unfold xr;rw[Yh,xbZ,xaa<|by rw[<-f]at b;simpa[xr]using b];rfl
  have c:=run_index_string (P:=P) w t s ik (j:J)<|zdf i o;rw[dif_pos ⟨W,W⟩]at c;refine⟨.int .u8 (z:J),?_,zw<|za6<|by rw[hc];exact UInt8.toNat_lt _⟩;simp only[xaJ]at c;rw[hc];simp[wD,e1,v,c]
 ·cases h
def zvW{E:wn}{k:N (K×Dv)->V R}(h:zt6 cf cx σ E x k=Z r):∃l,k l=Z r/\ES P ⟨d,.box E x,ty,pos,aft,g⟩ cx σ F l:=by
 unfold zt6 at h;split at h
 ·next a e=>
  have⟨y,h,b⟩:=JX h;exact⟨_,h,ZE λenv w S vs f hl=>⟨_,_,_,_,[fV a.ty.rep y<|ev env x],[],zu2 O<|λS w h=>h.1,xS,⟨b P vs env S w (yX hl<|by simp[xaz]),xS⟩,λu w' _ c=>zw c.1⟩⟩
 ·cases h
def zv8(n:xm P cf.tt){a:wL wr}{ts:wL wn}{k:N (K×Dv)->V R}(h:zuv cf cx σ a.toList ts.toList k=Z r):
 ∃l,k l=Z r/\ES P ⟨d,.call ⟨.builtin .len,a,ts⟩,ty,pos,aft,g⟩ cx σ F l:=by
 unfold zuv at h;split at h
 ·next _ _ x t hc hd=>
  obtain rfl:a= #[x]:=by cases a;simp_all
  obtain rfl:ts= #[t]:=by cases ts;simp_all
  have f:∀{vs env S w},(∀v∈y5 (.call ⟨.builtin .len,#[x],#[t]⟩),Lk P vs env S w cx σ v)->VD P vs env S w cx σ x:=λhl=>yX hl (by simp[xaz,xem]);split at h
  ·next e E B j=>
   have c:=jA n j;split at h
   ·next b=>exact⟨_,h,zJ λenv w S vs hl=>⟨_,zgO c (zj b<|f hl) w,zw<|w9 YL⟩⟩
   ·next s xs b=>
    exact⟨_,h,ZE λenv w S vs p hl=>⟨_,_,_,_,[fV (eS s.rep) xs<|ev env x],[],zvp (e:=s.rep) (xs:=xs) c O<|λS w h=>h.1,xS,⟨zj b<|f hl,xS⟩,λu w' m z=>zw<|w9<|zgi m⟩⟩
   ·next o b=>
    split at h
    ·next s A xs C=>
     exact⟨_,h,ZE λenv w S vs p hl=>⟨_,_,_,_,[],[mO s.rep A (vs o) xs],zdK 0 O c<|zj b<|f hl,⟨Y3 p C,xS⟩,xS,λu w' m z=>zw<|w9<|zgi m⟩⟩
    ·cases h
   ·cases h
  ·next q B j=>
   have c:=zdf n j;split at h
   ·next xs b=>
    refine⟨_,h,zJ λenv w S vs hl=> ?_⟩;have⟨s,e1,D,G⟩:=zfK<|zj b<|f hl;have i:X (xr s)=s.size:=ky s;rw[D]at i;have i:xaD (α:=K) xs=s.size:=i;refine⟨.int .i64 ((xaD (α:=K) xs:K):J),?_,zw<|w9 W⟩;rw[i];simp[wD,vS,qR,ut,e1,Builtin.len_,Z7,wE c]
   ·cases h
  ·cases h
 ·cases h
def zwY{b:ws}{e:wL wr}{ts:wL wn}{k:N (K×Dv)->V R}(h:eMM cx b σ e.toList k=Z r):
 ∃l,k l=Z r/\ES P ⟨d,.call ⟨.builtin (if b=I then .max else .min),e,ts⟩,ty,pos,aft,g⟩ cx σ F l:=by
 unfold eMM at h;split at h
 ·next _ x y o=>
  obtain rfl:e= #[x,y]:=by cases e;simp_all
  have i:∀{bl vs env S w},(∀n∈y5 (.call ⟨.builtin bl,#[x,y],ts⟩),Lk P vs env S w cx σ n)->VD P vs env S w cx σ x:=λhl=>yX hl (by simp[xaz,xem]);have j:∀{bl vs env S w},(∀n∈y5 (.call ⟨.builtin bl,#[x,y],ts⟩),Lk P vs env S w cx σ n)->VD P vs env S w cx σ y:=λhl=>yX hl (by simp[xaz,xem]);split at h
  ·next a c m hc=>
   cases b
   ·have h:B (min (α:=J) a c) (λz=>k [(0,ztI z)])=Z r:=h;have⟨z,f,h⟩:=x9 h;exact⟨_,h,zJ λenv w S vs hl=>⟨_,v_i (zwM (vt m<|i hl).1 (vt hc<|j hl).1) f w,zw<|w9<|zpw f<|zxx (vt m<|i hl).2 (vt hc<|j hl).2⟩⟩
   ·have h:B (max (α:=J) a c) (λz=>k [(0,ztI z)])=Z r:=h;have⟨z,f,h⟩:=x9 h;exact⟨_,h,zJ λenv w S vs hl=>⟨_,v_i (zwq (vt m<|i hl).1 (vt hc<|j hl).1) f w,zw<|w9<|zpw f<|zvJ (vt m<|i hl).2 (vt hc<|j hl).2⟩⟩
  ·cases h
 ·cases h
end
end
section
def PH(S:K->Prop)(w:xN):(ts:N Ty)->C4 ts->N (K×xn)->Prop
 |[],_,[]=>vF
 |t::ts,y,(_,v)::r=>(fV t.rep y.1 v).p S w/\PH S w ts y.2 r
 |_,_,_=>jN
def PH.keep{S:K->Prop}{w w':xN}(k:yO S w w'):∀{ts:N Ty}{ys:C4 ts}{ps:N (K×xn)},PH S w ts ys ps->PH S w' ts ys ps
 |[],_,[],h=>trivial
 |t::_,y,(_,v)::_,h=>⟨(fV t.rep y.1 v).keep h.1 k,PH.keep k h.2⟩
 |[],_,_::_,h=>h.elim
 |_::_,_,[],h=>h.elim
def PH.sub{S a:K->Prop}{w:xN}(k:∀k,k<w.heap.size->S k->a k):∀{ts:N Ty}{ys:C4 ts}{ps:N (K×xn)},PH S w ts ys ps->PH a w ts ys ps
 |[],_,[],h=>trivial
 |t::_,y,(_,v)::_,h=>⟨(fV t.rep y.1 v).sub h.1 k,PH.sub k h.2⟩
 |[],_,_::_,h=>h.elim
 |_::_,_,[],h=>h.elim
def phF(ts:N Ty)(ys:C4 ts)(ps:N (K×xn)):FF:=⟨λS w=>PH S w ts ys ps,λh k=>PH.keep k h,λh k=>PH.sub k h⟩
section
variable{P:ww}{cf:Cf}{cx σ:Sg}{F:zC MF}{vs:zV->xn}{env:xt}{S:zV->Prop}{w:xN}{R:Type}{r:R}
 {d:z7 vn}{ty t yt:wn}{pos:String}{aft:wL Edge}{g:z7 (zV×ws)}{x y:wr}
def FI:∀{ts:N Ty}{ps:N (K×wr)}{j:K}{k:C4 ts->V R},parts cx σ ts ps j k=Z r->
 ∃ys,k ys=Z r/\ps.map (·.1)=xfd j (X ps)/\∀(P:ww) vs env S w,(∀x∈ps.map (·.2),VD P vs env S w cx σ x)->PH S w ts ys (ps.map λq:K×wr=>(q.1,ev env q.2))
 |[],[],j,k,h=>⟨(),h,O,λ_ _ _ _ _ _=>xS⟩
 |t::ts,(i,x)::ps,j,k,h=>by
  have⟨a,h⟩:=yv h;have⟨y,h,b⟩:=JX h;have⟨ys,h1,c,e⟩:=FI h;refine⟨(y,ys),h1,?_,λP vs env S w hl=>⟨b P vs env S w<|hl x<|Qh,e P vs env S w λz f=>hl z<|kE _ f⟩⟩;simp only[xch,xar,List.range'_succ,c,yr a]
 |[],_::_,j,k,h=>by simp[parts]at h
 |_::_,[],j,k,h=>by simp[parts]at h
def zs3{i:K}{v:xn}:kT [(i,v)]=v.cells.toList:=by simp[kT]
def zx5{k:K}{s t:Ty}:xy (k+2) (.p s t) 0=Z ⟨0,s,λz=>z.1,λy z=>(y,z.2)⟩:=O
def zyc{k:K}{s t:Ty}{i:K}{f:Fl t.D}(h:xy (k+1) t i=Z f):xy (k+2) (.p s t) (i+1)=Z ⟨s.n+f.off,f.f,λz=>f.get z.2,λy z=>(z.1,f.set y z.2)⟩:=by
 simp only[xy,h]
def zor{pl:wL (K×K)}:∀{k:K}{t:Ty}{o j:K}{ys:C4 (zly k t)}{ps:N (K×xn)}{z:t.D},(∀i f,xy k t i=Z f->pl[j+i]? =Z (o+f.off,f.f.n))->
 ps.map (·.1)=xfd j (X ps)->PH S w (zly k t) ys ps->p9 k t ys=Z z->gX (pl[·]?) ps o/\t.rep.p S z (kT ps) w
 |0,_,_,_,_,_,_,_,_,_,h=>by simp[p9]at h
 |1,t,o,j,ys,[],z,hp,hi,h,c=>h.elim
 |1,t,o,j,ys,[(i,v)],z,hp,hi,h,c=>by
  simp only[p9,xao]at c;subst c;have q:i=j:=by simpa using hi
  subst q;have h0:=hp 0 (Fl.self t) O;have e:=zjn h.1;rw[t.n_rep]at e;refine⟨⟨?_,xS⟩,by rw[zs3];exact Xe h.1⟩;show pl[i]? =_;rw[e];simpa[Fl.self]using h0
 |1,t,o,j,ys,_::_::_,z,hp,hi,h,c=>h.2.elim
 |k+2,.p s t,o,j,ys,[],z,hp,hi,h,c=>h.elim
 |k+2,.p s t,o,j,ys,(i,v)::ps,z,hp,hi,h,c=>by
  unfold p9 at c;split at c
  ·next y A=>
   obtain rfl:=xdc c;simp only[xch,xar,List.range'_succ,xey]at hi;obtain⟨rfl,hi⟩:=hi;have h0:=hp 0 _ zx5;have e:=zjn h.1;rw[s.n_rep]at e;have⟨h1,B⟩:=zor (o:=o+s.n) (j:=i+1) (pl:=pl) (λm f C=>by
    have:=hp (m+1) _<|zyc C;rw[(W:i+1+m=i+(m+1)),this];simp only[xcL]) hi h.2 A
   refine⟨⟨?_,by rw[e];exact h1⟩,?_⟩
   ·show pl[i]? =_;rw[e];simpa using h0
   ·rw[zkA];exact⟨_,_,O,Xe h.1,B⟩
  ·cases c
 |k+2,.i,_,_,_,_,_,_,_,_,h=>by simp[p9]at h
 |k+2,.u,_,_,_,_,_,_,_,_,h=>by simp[p9]at h
 |k+2,.b,_,_,_,_,_,_,_,_,h=>by simp[p9]at h
 |k+2,.l _,_,_,_,_,_,_,_,_,h=>by simp[p9]at h
 |k+2,.a _ _,_,_,_,_,_,_,_,_,h=>by simp[p9]at h
def HB(S:K->Prop)(w:xN)(n:K)(t:Ty):N (K×xn)->t.D->t.D->Prop
 |[],z,z'=>z=z'
 |(i,v)::r,z,z'=>∃(f:Fl t.D) (y:f.f.D),xy n t i=Z f/\(fV f.f.rep y v).p S w/\HB S w n t r (f.set y z) z'
def HB.keep{S:K->Prop}{w w':xN}(k:yO S w w'){n:K}{t:Ty}:∀{vs:N (K×xn)}{z z':t.D},HB S w n t vs z z'->HB S w' n t vs z z'
 |[],_,_,h=>h
 |_::_,_,_,⟨f,y,h1,a,b⟩=>⟨f,y,h1,(fV f.f.rep y _).keep a k,HB.keep k b⟩
def HB.sub{S a:K->Prop}{w:xN}(k:∀k,k<w.heap.size->S k->a k){n:K}{t:Ty}:∀{vs:N (K×xn)}{z z':t.D},HB S w n t vs z z'->HB a w n t vs z z'
 |[],_,_,h=>h
 |_::_,_,_,⟨f,y,h1,b,c⟩=>⟨f,y,h1,(fV f.f.rep y _).sub b k,HB.sub k c⟩
def hbF(n:K)(t:Ty)(vs:N (K×xn))(z z':t.D):FF:=⟨λS w=>HB S w n t vs z z',λh k=>HB.keep k h,λh k=>HB.sub k h⟩
def HB.fill{S:K->Prop}{w:xN}{n:K}{t:Ty}{pl:wL (K×K)}(hp:∀i f,xy n t i=Z f->pl[i]? =Z (f.off,f.f.n)):∀{vs:N (K×xn)}{z z':t.D}{cs:N xn},HB S w n t vs z z'->t.rep.p S z cs w->
 ∃out,xdu (pl[·]?) cs.toArray vs=Z out.toArray/\t.rep.p S z' out w/\∀j g,xy n t j=Z g->(∀p∈vs,p.1≠j)->g.f.n=1->out[g.off]? =cs[g.off]?
 |[],z,z',cs,h,hc=>⟨cs,O,h▸hc,λ_ _ _ _ _=>O⟩
 |(i,v)::r,z,z',cs,⟨f,y,h1,a,o⟩,hc=>by
  have⟨q,c,b,e1,s,e,u⟩:=eo h1 z S w cs hc;have hv:=Xe a;have k:=zjn a;have⟨out,A,B,C⟩:=HB.fill hp o<|u w y v.cells.toList (yO.refl _ _) hv;refine⟨out,?_,B,λj g l m E=> ?_⟩
  ·rw[e1,zlB (by rw[hp i f h1,k,f.f.n_rep]) s<|by rw[f.f.rep.len e,k]];exact A
  ·rw[C j g l (λp hp=>m p<|kE _ hp) E,e1];have⟨_,_,hd⟩:=Oz h1 l<|m (i,v)<|Qh;have l1:X c=f.f.n:=by rw[f.f.rep.len e,f.f.n_rep]
   have G:X v.cells.toList=f.f.n:=by rw[f.f.rep.len hv,f.f.n_rep]
   obtain hd|hd:=hd
   ·rw[xal,xal,xbb W,xbb W]
   ·rw[xbv (by rw[xak];lia),xbv (by rw[xak];lia),xak,xak,l1,G]
def zg0{n:K}{t:Ty}:∀{ps:N (K×wr)}{z:t.D}{k:t.D->V R},zpQ cx σ n t ps z k=Z r->
 ∃z',k z'=Z r/\∀(P:ww) vs env S w,(∀x∈ps.map (·.2),VD P vs env S w cx σ x)->HB S w n t (ps.map λq:K×wr=>(q.1,ev env q.2)) z z'
 |[],z,k,h=>⟨z,h,λ_ _ _ _ _ _=>O⟩
 |(i,x)::ps,z,k,h=>by
  unfold zpQ at h;split at h
  ·next f a=>
   have⟨y,h,b⟩:=JX h;have⟨z',h1,c⟩:=zg0 h;exact⟨z',h1,λP vs env S w hl=>⟨f,y,a,b P vs env S w<|hl x<|Qh,c P vs env S w λz e=>hl z<|kE _ e⟩⟩
  ·cases h
def Ad:∀(n:K) (t:Ty) (ys:C4 (Tw n t)),X (Pq n t ys)=n
 |0,_,_=>rfl
 |n+1,t,ys=>wF (· +1)<|Ad n t ys.2
theorem zc5{t:Ty}:∀{n j:K}{ys:C4 (Tw n t)}{ps:N (K×xn)},ps.map (·.1)=xfd j (X ps)->PH S w (Tw n t) ys ps->
 gX (λi=>Z (i*t.rep.n,t.rep.n)) ps (j*t.rep.n)/\xa t.rep S (Pq n t ys) (kT ps) w
 |0,_,_,[],_,_=>⟨xS,O⟩
 |0,_,_,_::_,_,h=>h.elim
 |n+1,_,_,[],_,h=>h.elim
 |n+1,j,ys,(i,v)::ps,hi,h=>by
  simp only[xch,xar,List.range'_succ,xey]at hi;obtain⟨rfl,hi⟩:=hi;have a:=zjn h.1;have⟨h1,b⟩:=zc5 hi h.2;refine⟨⟨by rw[a],?_⟩,?_⟩
  ·grind
  ·skip;exact⟨_,_,O,Xe h.1,b⟩
def zrL(c:xm P cf.tt){ps:wL (K×wr)}{k:N (K×Dv)->V R}(h:zg6 cf cx σ t ps.toList k=Z r):∃l,k l=Z r/\ES P ⟨d,.build t ps,ty,pos,aft,g⟩ cx σ F l:=by
 unfold zg6 at h;split at h
 ·next e n B m=>
  have⟨p,hd,C,G⟩:=Wc c m;have⟨s,_,⟨fs,Q,pl,T,H⟩,_⟩:=(c _ _ m).2.2.2;simp only at hd C G s H;cases hc:xcU (X ps.toList) n||xad n 0<;>rw[hc]at h
  ·have⟨ys,h,hi,hp⟩:=FI h;split at h
   ·next z Y=>
    refine⟨_,h,ZE λenv w S vs U hl=> ?_⟩;have J:=hp P vs env S w λx v=>yX hl (by simpa[xaz]using v);have L:(ps.toList.map λq:K×wr=>(q.1,ev env q.2)).map (·.1)=xfd 0 (X (ps.toList.map λq:K×wr=>(q.1,ev env q.2))):=by rw[xcP,xaV];exact hi
    have A:=λ(S:K->Prop) (w:xN) (h:PH S w (zly n e) ys (ps.toList.map λq:K×wr=>(q.1,ev env q.2)))=>zor (pl:=pl) (o:=0) (j:=0) (λi f b=>by rw[xaF,xaF];exact H i f b) L h Y;exact⟨_,_,_,_,[phF _ ys (ps.toList.map λq:K×wr=>(q.1,ev env q.2))],[],zee (e:=e.rep) (z:=z) (parts:=ps.toList) (s▸hd) s C O (.inl ⟨fs,Q,pl,T,λS w h=>(A S w h.1).1⟩)<|λS w h=>(A S w h.1).2,xS,⟨J,xS⟩,λu w' _ b=>zw b.1⟩
   ·cases h
  ·have⟨z,h,hH⟩:=zg0 h;refine⟨_,h,ZE λenv w S vs U hl=> ?_⟩;have hb:=hH P vs env S w λx v=>yX hl (by simpa[xaz]using v);exact⟨_,_,_,_,[hbF n e (ps.toList.map λq:K×wr=>(q.1,ev env q.2)) e.z z],[],zbV (e:=e.rep) (z0:=e.z) (z:=z) (parts:=ps.toList) (s▸hd) s G ⟨fs,Q,T⟩ O (λ_=>vF) (λS w h cs _ hc=>by have⟨out,q1,q2,_⟩:=HB.fill H h.1 hc;exact⟨out,q1,q2,xS⟩),xS,⟨hb,xS⟩,λu w' _ b=>zw b.1⟩
 ·next n e D E B m=>
  have⟨M,h⟩:=yv h;rw[Th]at M;have hn:=yr M.1;subst hn;have⟨b2,z2,hu⟩:=znJ c M.2;have⟨ys,h,hi,hp⟩:=FI h;have⟨p,hd,C,G⟩:=Wc c m;refine⟨_,h,ZE λenv w S vs U hl=> ?_⟩;have J:=hp P vs env S w λx v=>yX hl (by simpa[xaz]using v);have L:(ps.toList.map λq:K×wr=>(q.1,ev env q.2)).map (·.1)=xfd 0 (X (ps.toList.map λq:K×wr=>(q.1,ev env q.2))):=by rw[xcP,xaV];exact hi
  have A:=λ(S:K->Prop) (w:xN) (h:PH S w (Tw D e) ys (ps.toList.map λq:K×wr=>(q.1,ev env q.2)))=>zc5 L h;exact⟨_,_,_,_,[phF _ ys (ps.toList.map λq:K×wr=>(q.1,ev env q.2))],[],zee (e:=(Ty.a D e).rep) (z:=Pq D e ys) (parts:=ps.toList) hd O C O (.inr ⟨_,_,_,_,_,_,zoo c m,hu,λS w h=>by have:=(A S w h.1).1;rwa[xcs]at this⟩)<|λS w h=>⟨Ad D e ys,(A S w h.1).2⟩,xS,⟨J,xS⟩,λu w' _ b=>zw b.1⟩
 ·cases h
def znc{s E:wn}{e:Ty}{B:K}(a:xm P cf.tt)(b:ZX P cf.tt)(h:Xo cf s=Z ⟨.l e,.sl E,B⟩):0<e.rep.n:=by
 obtain⟨c,h1,rfl⟩:=b _ _ _ _ h;exact(a _ _ h1).2.2.1
def zxs(b:xm P cf.tt)(f:ZX P cf.tt){n:K}{ps:wL (K×wr)}{k:N (K×Dv)->V R}(h:zt1 cf cx σ t n ps.toList k=Z r):∃l,k l=Z r/\ES P ⟨d,.buildSlice t n ps,ty,pos,aft,g⟩ cx σ F l:=by
 unfold zt1 at h;split at h
 ·next e E B c=>
  have⟨a,h⟩:=yv h;have a:=xbW a;rw[<-e.n_rep]at a;have⟨ys,h,hc,hd⟩:=FI h;have⟨bytes,i,m⟩:=cZ b f c;refine⟨_,h,ZE λenv w S vs z hl=> ?_⟩;have o:=hd P vs env S w λx p=>yX hl (by simpa[xaz]using p);have s:(ps.toList.map λq:K×wr=>(q.1,ev env q.2)).map (·.1)=xfd 0 (X (ps.toList.map λq:K×wr=>(q.1,ev env q.2))):=by rw[xcP,xaV];exact hc
  have j:=λ(S:K->Prop) (w:xN) (h:PH S w (Tw n e) ys (ps.toList.map λq:K×wr=>(q.1,ev env q.2)))=>zc5 s h;exact⟨_,_,_,_,[phF _ ys (ps.toList.map λq:K×wr=>(q.1,ev env q.2))],[],zaC (jA b c) m (znc b f c) (Ad n e ys) a O (λS w h=>by have:=(j S w h.1).1;rwa[xcs]at this)<|λS w h=>(j S w h.1).2,xS,⟨o,xS⟩,λu w' _ v=>zw v.1⟩
 ·cases h
def zhD:∀{xs:N wr}{l:N PD},iG cx σ xs=Z l->X l=X xs/\∀(P:ww) vs env S w,(∀x∈xs,VD P vs env S w cx σ x)->zK S (zc3 l<|xs.map<|ev env) w
 |[],l,h=>by simp only[iG,xao]at h;subst h;exact⟨O,λ_ _ _ _ _ _=>xS⟩
 |x::xs,l,h=>by
  unfold iG at h;split at h
  ·next t y f a b=>
   simp only[xao]at h;subst h;have⟨h1,c⟩:=zhD b;exact⟨by simp[h1],λP vs env S w hl=>⟨zj a<|hl x<|Qh,c P vs env S w λz e=>hl z<|kE _ e⟩⟩
  ·cases h
theorem zw0{f:Go.Fn}{first cs:wL wr}{k:N (K×Dv)->V R}(h:ztK cx σ f first.toList cs.toList k=Z r):∃l,k l=Z r/\ES P ⟨d,.makeFunc f first cs,ty,pos,aft,g⟩ cx σ F l:=by
 unfold ztK at h;split at h
 ·next _ _ _ f' l b hc=>
  obtain rfl:first= #[]:=by cases first;simp_all
  have⟨h1,c⟩:=zhD hc;refine⟨_,h,zJ λenv w S vs hl=>⟨_,zx9 (xs:=cs.toList) O w,zw ?_⟩⟩;exact⟨_,O,by simp[h1],c P vs env S w λx a=>yX hl<|by simpa[xaz]using a⟩
 ·next _ _ _ f' x b hc=>
  split at h
  ·next o t a=>
   obtain rfl:first= #[x]:=by cases first;simp_all
   have h1:=(zhD hc).1;obtain rfl:cs= #[]:=by grind
   refine⟨_,h,zJ λenv w S vs hl=>⟨.func (.func f') #[ev env x] #[],sX (by simp[pv]) w,zw ?_⟩⟩;have⟨e,i⟩:=zj a (yX hl<|by simp[xaz]);exact⟨by rw[e],i⟩
  ·cases h
 ·cases h
end
end
section
section
variable{P:ww}{cf:Cf}{cx σ:Sg}{F:zC MF}{vs:zV->xn}{env:xt}{S:zV->Prop}{w:xN}{R:Type}{r:R}
 {d:z7 vn}{ty t yt:wn}{pos:String}{aft:wL Edge}{g:z7 (zV×ws)}{x y:wr}
def zbX{A B C:Type}(h:B=C)(p:(A×B)=(A×C))(x:A×B):(p▸x:A×C)=(x.1,h▸x.2):=by subst h;rfl
theorem St.sub'{we:xN}{Se:K->Prop}{ms:N MF}{Γ Δ:N FF}{w:xN}(h:St we Se ms Γ w)(a:∀f∈Δ,f∈Γ):St we Se ms Δ w:=by grind [St.weak,YS]
def zwt{t:Ty}{n:RM}{r:N RM}(x:CZ (.d t::n::r)):(Qq (.d t::n::r)▸x:CsD ((RM.d t::n::r).map RM.ty))=((x.1,Qq (n::r)▸x.2):t.D×CsD ((n::r).map RM.ty)):=
 zbX (Qq (n::r)) (Qq (.d t::n::r)) x
def zwK{t:Ty}{E:wn}{n:RM}{r:N RM}(x:CZ (.own t E::n::r)):(Qq (.own t E::n::r)▸x:CsD ((RM.own t E::n::r).map RM.ty))=((x.1,Qq (n::r)▸x.2):(Ty.l t).D×CsD ((n::r).map RM.ty)):=
 zbX (Qq (n::r)) (Qq (.own t E::n::r)) x
theorem zpI{we:xN}{Se:K->Prop}:∀{rs:N RM}{x:CZ rs}{us:N xn}{F:N MF}{G:N FF}{w:xN},noV rs=I->
 St we Se (Wx rs x us++F) (X4 rs x us++G) w->St we Se F (csF (rs.map RM.ty) (Qq rs▸x) us++G) w
 |[],_,_,_,_,_,_,h=>h
 |[.d t],x,us,F,G,w,_,h=>h
 |.var _ _::_,_,_,_,_,_,hv,_=>by cases hv
 |[.own t E],x,us,F,G,w,_,h=>by
  have h:St we Se (mO t.rep E (us.headD wR) x::F) G w:=h;exact zcE 0 h O
 |.d t::n::r,x,us,F,G,w,hv,h=>by
  rw[zwt];have h:St we Se (Wx (n::r) x.2 us.tail++F) (X4 (n::r) x.2 us.tail++(fV t.rep x.1 (us.headD wR)::G)) w:=St.sub' (by simpa[Wx,X4,rmM,rmF]using h) (by simp;rintro f (h|h|h)<;>simp[h]);have:=zpI (rs:=n::r) hv h;exact St.sub' this (by
   intro f hf;obtain hf|hf:=pN.1 hf
   ·obtain rfl|hf:=PQ.1 hf
    ·exact pN.2 (.inr<|Qh)
    ·grind
   ·exact pN.2 (.inr<|kE _ hf))
 |.own t E::n::r,x,us,F,G,w,hv,h=>by
  rw[zwK];have h:St we Se (mO t.rep E (us.headD wR) x.1::(Wx (n::r) x.2 us.tail++F)) (X4 (n::r) x.2 us.tail++G) w:=h;have h:=zcE 0 h O;have h:St we Se (Wx (n::r) x.2 us.tail++F) (X4 (n::r) x.2 us.tail++(fV (eS t.rep) x.1 (us.headD wR)::G)) w:=St.sub' h (by simp;rintro f (h|h|h)<;>simp[h]);have:=zpI (rs:=n::r) hv h;exact St.sub' this (by
   intro f hf;obtain hf|hf:=pN.1 hf
   ·obtain rfl|hf:=PQ.1 hf
    ·exact pN.2 (.inr<|Qh)
    ·exact pN.2 (.inl hf)
   ·exact pN.2 (.inr<|kE _ hf))
def zd7:∀{rs:N RM}{x:CZ rs}{i:K},noV rs=I->ziK rs x i=zoq (rs.map RM.ty) (Qq rs▸x) i
 |[],_,_,_=>rfl
 |[.d _],_,_,_=>rfl
 |[.own _ _],_,_,_=>rfl
 |.var _ _::_,_,_,h=>by cases h
 |.d t::n::r,x,i,h=>by rw[zwt];show(i,Dv.d t x.1)::ziK (n::r) x.2 (i+1)=_;rw[zd7 (rs:=n::r) h];rfl
 |.own t E::n::r,x,i,h=>by rw[zwK];show(i,Dv.d (.l t) x.1)::ziK (n::r) x.2 (i+1)=_;rw[zd7 (rs:=n::r) h];rfl
def zf9:∀rs:N RM,iZ rs=zrR (rs.map RM.ty)
 |[]=>rfl
 |[_]=>rfl
 |_::_::_=>rfl
theorem zmG:∀{ts:N Ty}{x:CsD ts}{i:K}{us:N xn},zK S (csF ts x us) w->X us=X ts->∀e∈zoq ts x i,∃j u,e.1=i+j/\us[j]? =Z u/\(qk P vs e.2 u).p S w
 |[],_,_,_,_,_,e,he=>wl he QT
 |[t],x,i,[],h,hl,e,he=>by cases hl
 |[t],x,i,u::us,h,hl,e,he=>by
  obtain rfl:=xab.1 he;exact⟨0,u,O,O,h.1⟩
 |t::s::r,x,i,[],h,hl,e,he=>by cases hl
 |t::s::r,x,i,u::us,h,hl,e,he=>by
  obtain rfl|he:=PQ.1 he
  ·exact⟨0,u,O,O,h.1⟩
  ·have⟨j,v,h1,a,b⟩:=zmG h.2 (by simpa using hl) e he;grind
def PY:∀{ts:N Ty}{x:CsD ts}{us:N xn},zK S (csF ts x us) w->X us=X ts->∀e∈zoq ts x (bif zrR ts then 0 else 1),(qI P vs e.2 (Qa us) e.1).p S w
 |[],_,_,_,_,e,he=>wl he QT
 |[t],x,[],_,hl,_,_=>by cases hl
 |[t],x,[v],h,hl,e,he=>by
  obtain rfl:=xab.1 he;exact h.1
 |[t],x,_::_::_,_,hl,_,_=>by simp at hl
 |t::s::q,x,[],_,hl,_,_=>by cases hl
 |t::s::q,x,[_],_,hl,_,_=>by simp at hl
 |t::s::q,x,v::v'::us,h,hl,e,he=>by
  obtain⟨j,u,h1,h2,h3⟩:=zmG h hl e he;obtain⟨i,dv⟩:=e;simp only[zrR,vH]at h1;obtain rfl:i=j+1:=W
  exact⟨(v::v'::us).toArray,u,O,by simpa using h2,h3⟩
def Nr:∀{cs:N QY}{f:vi}{s:QY},zbH cs f=Z s->s∈cs/\s.f=f/\Sw s.dom=I/\s.bk=0/\noV s.cod=I
 |c::cs,f,s,h=>by
  unfold zbH at h;cases a:xad c.f f && (Sw c.dom && (xad c.bk 0 && noV c.cod))<;>rw[a]at h
  ·have⟨h1,b⟩:=Nr h;exact⟨kE _ h1,b⟩
  ·simp_all
def ER:∀{dom:N AM}{x:pK dom}{us:N xn},Sw dom=I->W6 dom x us=[]
 |[],_,_,_=>rfl
 |.d _::r,x,us,h=>ER (dom:=r) h
 |.q _::r,x,us,h=>ER (dom:=r) h
 |.fn _ _::r,x,us,h=>ER (dom:=r) h
 |.own _ _::_,_,_,h=>by cases h
 |.var _ _::_,_,_,h=>by cases h
def zcZ:∀{a:N AM}{cs:N PD}{z:pK a},nh a cs=Z z->X cs=X a/\∀{S:K->Prop}{w:xN}{b:N xn},X b=X cs->zK S (zc3 cs b) w->zK S (YY P a z b) w
 |[],[],_,_=>⟨O,λ_ _=>xS⟩
 |.q t::r,c::cs,z,h=>by
  have⟨e,h⟩:=yB h;subst e;split at h
  ·next z' i=>
   obtain rfl:=xdc h;have⟨h1,j⟩:=zcZ i;refine⟨by simp[h1],λ{S w b} hl f=> ?_⟩
   cases b with
   |nil=>cases hl
   |cons v b=>exact⟨f.1,j (by simpa using hl) f.2⟩
  ·cases h
 |[],_::_,_,h=>by simp[nh]at h
 |.q _::_,[],_,h=>by simp[nh]at h
 |.d _::_,_,_,h=>by simp[nh]at h
 |.own _ _::_,_,_,h=>by simp[nh]at h
 |.var _ _::_,_,_,h=>by simp[nh]at h
 |.fn _ _::_,_,_,h=>by simp[nh]at h
def zoy:∀{full:N AM}{dom:N Ty}{x:C4 dom}{cs:N PD}{z:pK full},zco full dom x cs=Z z->X dom+X cs=X full/\
 ∀{S:K->Prop}{w:xN}{us a:N xn},X us=X dom->X a=X cs->zK S (tsF dom x us) w->zK S (zc3 cs a) w->zK S (YY P full z<|us++a) w
 |full,[],x,cs,z,h=>by
  have h:nh full cs=Z z:=by cases full<;>(try cases‹AM›)<;>simpa[zco]using h
  have⟨h1,b⟩:=zcZ (P:=P) h;simp_all
 |.d t::r,s::dom,x,cs,z,h=>by
  have⟨e,h⟩:=yB h;subst e;split at h
  ·next z' f=>
   obtain rfl:=xdc h;have⟨h1,b⟩:=zoy f;refine⟨by simp;lia,λ{S w us a} hl i c j=> ?_⟩
   cases us with
   |nil=>cases hl
   |cons v us=>exact⟨c.1,b (by simpa using hl) i c.2 j⟩
  ·cases h
 |[],_::_,_,_,_,h=>by simp[zco]at h
 |.q _::_,_::_,_,_,_,h=>by simp[zco]at h
 |.own _ _::_,_::_,_,_,_,h=>by simp[zco]at h
 |.var _ _::_,_::_,_,_,_,h=>by simp[zco]at h
 |.fn _ _::_,_::_,_,_,_,h=>by simp[zco]at h
theorem zmS{A B:Type}(h:A=B){o:V A}{r:B}(b:(h▸o:V B)=Z r):∃a:A,o=Z a/\(h▸a:B)=r:=by
 grind
def Cx{s:QY}(a:xI P s)(hn:Sw s.dom=I)(b:s.bk=0)(hv:noV s.cod=I){z:pK s.dom}{q:CZ s.cod}(c:s.M z=Z q){us:N xn}(hl:X us=X s.dom):
 Fn P s.f us.toArray (YY P s.dom z us) Qa (λus=>csF (s.cod.map RM.ty) (Qq s.cod▸q) us) (λus=>X us=X s.cod):=by
 have h:=a.plain b c hl;rw[ER hn]at h;refine FnG.frozen h λu w' we Se e=> ?_;have:=zpI (F:=[]) (G:=[]) hv (by simpa using e);simp_all
def Fn.weakΓ{U:Type}{f:vi}{args:wL xn}{Γ b:N FF}{c:U->xn}{a:U->N FF}{ok:U->Prop}(h:Fn P f args Γ c a ok)(e:∀S w,zK S b w->zK S Γ w):Fn P f args b c a ok:=
 λw Se h1 i=>h w Se h1<|e Se w i
def zmW(m:∀s∈cf.cs,xI P s){v:V Dv}{dom cod:N Ty}{k:(C4 dom->V (CsD cod))->V R}(h:asF cf σ v dom cod k=Z r):
 ∃g,k g=Z r/\∀vs S w (dv:Dv) u,v=Z dv->(qk P vs dv u).p S w->(fnF P dom cod g u).p S w:=by
 unfold asF at h;split at h
 ·next f c=>
  split at h
  ·next s n=>
   have⟨h1,e,o,A,B⟩:=Nr n;have i:=m s h1;split at h
   ·next C _=>
    subst C;refine⟨_,h,λvs S w dv u hd b=> ?_⟩;cases hd;have⟨cs,D,hi,E⟩:=b;refine⟨f,cs,zc3 c cs,D,⟨e▸i.1,λx q a us hl=> ?_⟩,E⟩;simp only at a;split at a
    ·next z G=>
     have⟨M,H,J⟩:=zmS _ a;have⟨hp,K⟩:=zoy (P:=P) G;have j:=Cx i o A B H (us:=us++cs) (by simp;lia);rw[e]at j;subst J;refine(j.weakΓ λS w l=>K hl hi (zK.left l)<|zK.right l).ok_mono λus hn=>by simpa using hn
    ·cases a
   ·cases h
  ·cases h
 ·next Q T U=>
  split at h
  ·next hd hc _ _=>
   subst hd;subst hc;exact⟨_,h,λvs S w dv u L b=>by cases L;exact b⟩
  ·cases h
 ·cases h
end
end
section
def Cb(P:ww)(ex:N (K×ws)):Prop:=∀f b,gI ex f=Z b->∃fn,P.funcs[f]? =Z fn/\(fn.name== "runtime.NumGoroutine")=yL/\fn.body=yD/\(xex fn).isNone=I/\
 (b=I->xeJ fn=Z (λargs=>do
  let(x,y,c)<-xbE "Add64" args
  pure (xcq ((x+y+c)%xba)<|(x+y+c)/xba)))/\
 (b=yL->xeJ fn=Z (λargs=>do
  let(x,y,b)<-xbE "Sub64" args
  pure (xcq ((x+xba-y-b)%xba) (if x<y+b then 1 else 0))))
section
variable{P:ww}{cf:Cf}{cx σ:Sg}{F:zC MF}{vs:zV->xn}{env:xt}{S:zV->Prop}{w:xN}{R:Type}{r:R}
 {d:z7 vn}{ty t yt:wn}{pos:String}{aft:wL Edge}{g:z7 (zV×ws)}{x y:wr}
def zxy{x y z:K}{k:N (K×Dv)->V R}(h:exU I x y z k=Z r):z<=1/\∃p q:K,p=(x+y+z)%18446744073709551616/\q=(x+y+z)/18446744073709551616/\k [(1,.d .u p),(2,.d .u q)]=Z r:=by
 have⟨h1,h⟩:=YK h;have⟨p,hp,h⟩:=x9 h;have⟨q,a,h⟩:=x9 h;simp_all
def zxC{x y z:K}{k:N (K×Dv)->V R}(h:exU yL x y z k=Z r):z<=1/\∃p q:K,p=(x+18446744073709551616-y-z)%18446744073709551616/\q=(if x<y+z then 1 else 0)/\k [(1,.d .u p),(2,.d .u q)]=Z r:=by
 have⟨h1,h⟩:=YK h;have⟨p,hp,h⟩:=x9 h;have⟨q,a,h⟩:=x9 h;simp_all
def Fj(m:∀s∈cf.cs,xI P s):∀{dom:N AM}{xs:N wr}{cs:N PD}{k:pK dom->V R},KM cf cx σ dom xs cs k=Z r->
 ∃z,k z=Z r/\X xs+X cs=X dom/\∀vs env S w,(∀x∈xs,VD P vs env S w cx σ x)->∀a:N xn,X a=X cs->zK S (zc3 cs a) w->zK S (YY P dom z<|xs.map (ev env)++a) w
 |[],[],[],k,h=>⟨(),h,O,λ_ _ _ _ _ _ _ _=>xS⟩
 |.q t::dom,[],c::cs,k,h=>by
  simp only[KM]at h;have⟨e,h⟩:=yB h;subst e;have⟨z,h1,j,l⟩:=Fj m h;refine⟨_,h1,by simp at j⊢;lia,λvs env S w hl a b i=> ?_⟩
  cases a with
  |nil=>cases b
  |cons v a=>exact⟨i.1,l vs env S w hl a (by simpa using b) i.2⟩
 |.d t::dom,x::xs,cs,k,h=>by
  simp only[KM]at h;have⟨y,h,p⟩:=JX h;have⟨z,h1,j,l⟩:=Fj m h;exact⟨_,h1,by simp at j⊢;lia,λvs env S w hl a b i=>⟨p P vs env S w<|hl x<|Qh,l vs env S w (λz n=>hl z<|kE _ n) a b i⟩⟩
 |.q t::dom,x::xs,cs,k,h=>by
  simp only[KM]at h;split at h
  ·next s y u=>
   have⟨e,h⟩:=yB h;subst e;have⟨z,h1,j,l⟩:=Fj m h;exact⟨_,h1,by simp at j⊢;lia,λvs env S w hl a b i=>⟨zj u<|hl x<|Qh,l vs env S w (λz n=>hl z<|kE _ n) a b i⟩⟩
  ·cases h
 |.fn o cod::dom,x::xs,cs,k,h=>by
  simp only[KM]at h;have⟨f,h,A⟩:=zmW m h;have⟨z,h1,j,l⟩:=Fj m h;refine⟨_,h1,by simp at j⊢;lia,λvs env S w hl a b i=>⟨?_,l vs env S w (λz n=>hl z<|kE _ n) a b i⟩⟩
  cases hv:xT cx σ x with
  |none=>rename_i h0;rw[hv]at h0;simp[asF]at h0
  |some v=>exact A vs S w v _ hv<|zj hv<|hl x<|Qh
 |[],_::_,_,_,h=>by simp[KM]at h
 |[],[],_::_,_,h=>by simp[KM]at h
 |.d _::_,[],_,_,h=>by simp[KM]at h
 |.own _ _::_,_,_,_,h=>by simp[KM]at h
 |.fn _ _::_,[],_,_,h=>by simp[KM]at h
 |.q _::_,[],[],_,h=>by simp[KM]at h
def zcL:∀{dom:N Ty}{xs:N wr}{k:C4 dom->V R},zbG cx σ dom xs k=Z r->
 ∃z,k z=Z r/\X xs=X dom/\∀(P:ww) vs env S w,(∀x∈xs,VD P vs env S w cx σ x)->zK S (tsF dom z<|xs.map<|ev env) w
 |[],[],k,h=>⟨(),h,O,λ_ _ _ _ _ _=>xS⟩
 |t::dom,x::xs,k,h=>by
  have⟨y,h,a⟩:=JX h;have⟨z,h1,b,c⟩:=zcL h;exact⟨_,h1,by simp[b],λP vs env S w hl=>⟨a P vs env S w<|hl x<|Qh,c P vs env S w<|λz e=>hl z<|kE _ e⟩⟩
 |[],_::_,_,h=>by simp[zbG]at h
 |_::_,[],_,h=>by simp[zbG]at h
def zua(E:∀s∈cf.cs,xI P s)(Y:Cb P cf.ex){f:wr}{a:wL wr}{ts:wL wn}{k:N (K×Dv)->V R}(h:zpu cf cx σ f a.toList k=Z r):
 ∃l,k l=Z r/\ES P ⟨d,.call ⟨.value f,a,ts⟩,ty,pos,aft,g⟩ cx σ F l:=by
 have G:∀{vs env S w},(∀A∈y5 (.call ⟨.value f,a,ts⟩),Lk P vs env S w cx σ A)->VD P vs env S w cx σ f:=λhl=>yX hl (by simp[xaz,xem]);have i:∀{vs env S w},(∀A∈y5 (.call ⟨.value f,a,ts⟩),Lk P vs env S w cx σ A)->∀x∈a.toList,VD P vs env S w cx σ x:=λhl x u=>yX hl (by simp only[xaz,xem,Array.toList_append,pN];exact .inr u);unfold zpu at h;split at h
 ·next f0 cs hc=>
  split at h
  ·next s hs=>
   have⟨h1,H,h3,h4,J⟩:=Nr hs;have L:=E s h1;have⟨z,h,hd,m⟩:=Fj E h;have⟨q,c,h⟩:=Gx h;refine⟨_,h,ZE λenv w S vs hM hl=> ?_⟩;have⟨j,hv,ht,hu⟩:=zj hc<|G hl;have v:=Cx L h3 h4 J c (us:=a.toList.map (ev env)++j) (by simp at hd⊢;lia);rw[H]at v;refine⟨_,_,_,_,YY P s.dom z<|a.toList.map (ev env)++j,[],FK (asv:=a.toList) (H▸L.1) hv v O<|λS w h=>h,xS,m vs env S w (i hl) j ht hu,λus w' B hn=> ?_⟩;unfold zqy;rw[zd7 J,zf9];exact PY hn<|by simpa using B
  ·split at h
   ·next _ _ _ b x y z C hD=>
    obtain rfl:a= #[x,y,z]:=by cases a;simp_all
    have⟨hw,h⟩:=yv h
    cases f with
    |func f1=>
     simp only[xT,xao,Dv.fn.injEq]at hc;obtain⟨rfl,_⟩:=hc;have⟨fn,e1,M,Q,T,e5,e6⟩:=Y _ _ C;unfold exD at h;split at h
     ·next x' y' z' u U m=>
      cases b
      ·have⟨n,p,q,hp,c,h⟩:=zxC h;refine⟨_,h,zJ λenv w S vs hl=> ?_⟩;have hi:=wQ u (i hl x Xn);have o:=wQ U (i hl y Xn);have D:=wQ m (i hl z Xn);refine⟨_,v_2 (zr3 e1 M Q T (e6 O) hi.1 o.1 D.1 n) hp c w,λe he=> ?_⟩;obtain rfl|he:=PQ.1 he
       ·exact⟨_,_,O,O,ui<|JU hp⟩
       ·obtain rfl:=xab.1 he;exact⟨_,_,O,O,ui<|zrj hi.2 o.2 n c⟩
      ·have⟨n,p,q,hp,c,h⟩:=zxy h;refine⟨_,h,zJ λenv w S vs hl=> ?_⟩;have hi:=wQ u (i hl x Xn);have o:=wQ U (i hl y Xn);have D:=wQ m (i hl z Xn);refine⟨_,v_2 (zrJ e1 M Q T (e5 O) hi.1 o.1 D.1 n) hp c w,λe he=> ?_⟩;obtain rfl|he:=PQ.1 he
       ·exact⟨_,_,O,O,ui<|JU hp⟩
       ·obtain rfl:=xab.1 he;exact⟨_,_,O,O,ui<|zrk hi.2 o.2 n c⟩
     ·cases h
    |_=>simp[zv3]at hw
   ·cases h
 ·next dom cod g' hc=>
  have⟨z,h,hd,m⟩:=zcL h;have⟨q,c,h⟩:=Gx h;refine⟨_,h,ZE λenv w S vs hM hl=> ?_⟩;have⟨a0,iG,FG,hv,⟨C,hA⟩,hB⟩:=zj hc<|G hl;have v:=hA z q c (a.toList.map<|ev env) (by simpa using hd);exact⟨_,_,_,_,tsF dom z (a.toList.map<|ev env)++FG,[],FK (asv:=a.toList) C hv v O<|λS w h=>h,xS,zK.append (m P vs env S w<|i hl) hB,λus w' B hn=>PY hn B⟩
 ·cases h
def zt5(a:xm P cf.tt)(c:ZX P cf.tt)(f:∀s∈cf.cs,xI P s)(i:Cb P cf.ex){e:Op}{k:N (K×Dv)->V R}(h:ztV cf cx σ e k=Z r):∃l,k l=Z r/\ES P ⟨d,e,ty,pos,aft,g⟩ cx σ F l:=by
 unfold ztV at h;split at h
 ·exact znO (.inl O) h
 ·exact znO (.inr O) h
 ·exact zvI h
 ·exact zuE h
 ·exact zwc h
 ·exact zxB h
 ·next j t x y yt=>
  cases hn:zrQ (xT cx σ y)<;>rw[hn]at h
  ·exact bop h<|zrp a
  ·have⟨hp,h⟩:=yv h;exact zyx a hp hn h
 ·exact zwI h
 ·exact zwr a h
 ·exact zto a h
 ·exact zqS a c h
 ·exact zqC a h
 ·exact zpS a h
 ·exact zqJ a c h
 ·exact zww a h
 ·exact zvW h
 ·exact zrL a h
 ·exact zxs a c h
 ·exact zw0 h
 ·exact zv8 a h
 ·exact zwY (b:=I) h
 ·exact zwY (b:=yL) h
 ·exact zua f i h
 ·cases h
end
end
section
def zhc(P:ww)(s:zgn):Prop:=
 Tj P s.f=I/\∀(x:C4 s.dom) (vs:N xn),X vs=X s.dom->Fn P s.f vs.toArray (tsF s.dom x vs) (λv:xn=>v) (λv=>[ztH s.g (s.mc x) v]) (λ_=>vF)
def zhh(P:ww)(s:N5):Prop:=
 Tj P s.f=I/\∀c ix r a p lo n b,s.M c ix r a p lo n=Z b->∀(u d hv:xn),(wm u)[r]? =Z d->MvV (yY u) lo n hv->Um a->Um p->
  ∀we Se F G w,St we Se (Ih s.t.rep s.E s.E1 u c ix::F) G w->uL P s.f #[d,.int .i64 a,.int .i64 p,hv] w λe w'=>∃v g,e=.returned v/\yY g=yY u/\St we Se (Ih s.t.rep s.E s.E1 g b ix::F) G w'
def zoc(P:ww)(s:TZ):Prop:=
 Tj P s.f=I/\∀(x:pK s.dom) (X Y:Type) (a:X->xn->MF) (b:Y->xn->MF) (g:N s.t.D->X->V (N s.t.D×(X⊕Y))) (x0:X) (r:X⊕Y),s.M x g x0=Z r->∀(l:K) (vs:N xn),Wl vs=Wl s.dom->ze3 P l s.t.rep s.E a b g->
  ∀u we Se F G w,St we Se (a x0 u::F) (YY P s.dom x vs++G) w->uL P s.f (.func (.yield l) #[] #[]::vs).toArray w λe w'=>(∃v,e=.returned v)/\∃c,St we Se (xfj (λx=>a x c) (λy=>b y c) r::F) G w'
structure XOK(P:ww)(cf:Cf):Prop where
 ex:Cb P cf.ex
 cl:∀s∈cf.cl,zhc P s
 ms:∀s∈cf.ms,zhh P s
 is:∀s∈cf.is,zoc P s
 pp:P=Tryz.prog
section
variable{P:ww}{cf:Cf}{cx σ:Sg}{F:zC MF}{vs:zV->xn}{env:xt}{S:zV->Prop}{w:xN}{R:Type}{r:R}
 {d:z7 vn}{ty t yt:wn}{pos:String}{aft:wL Edge}{g:z7 (zV×ws)}{x y:wr}
def znC{f:vi}:∀{l:N N5}{s:N5},zoJ l f=Z s->s∈l/\s.f=f
 |c::l,s,h=>by
  unfold zoJ at h;cases a:xad c.f f<;>rw[a]at h
  ·have⟨h1,b⟩:=znC h;exact⟨kE _ h1,b⟩
  ·simp_all
def zm6{f:vi}:∀{l:N zgn}{s:zgn},zoZ l f=Z s->s∈l/\s.f=f
 |c::l,s,h=>by
  unfold zoZ at h;cases a:xad c.f f<;>rw[a]at h
  ·have⟨h1,b⟩:=zm6 h;exact⟨kE _ h1,b⟩
  ·simp_all
def znX{f:vi}:∀{l:N TZ}{s:TZ},zra l f=Z s->s∈l/\s.f=f
 |c::l,s,h=>by
  unfold zra at h;cases a:xad c.f f<;>rw[a]at h
  ·have⟨h1,b⟩:=znX h;exact⟨kE _ h1,b⟩
  ·simp_all
def zcm{α:Type}{e:ye α}{E E1:wn}{u:xn}{a:N (N α)}{ix:N K}(h:(Ih e E E1 u a ix).p S w):X (wm u)=X a/\(mO (XY<|wm u) E (yY u) ix).p S w/\xd S (qf e E1 (wm u) a) w:=⟨h.1.1,h.1.2.1,h.1.2.2⟩
def Hf{α:Type}{e:ye α}{E E1:wn}{u v:xn}{a:N (N α)}{ix:N K}{r:K}(h:(Ih e E E1 u a ix).p S w)(b:(wm u)[r]? =Z v):(mO e E1 v<|ZK a r).p S w/\r<X a:=by
 have⟨h1,_,c⟩:=zcm h;have hl:=(xav.1 b).1;have f:a[r]? =Z (ZK a r):=by
  unfold ZK;simp_all
 exact⟨xd.get c<|UJ b f,W⟩
def zl9(u:xm P cf.tt)(J:ZX P cf.tt){k:N (K×Dv)->V R}(h:zdE cf cx σ t x y k=Z r):∃l,k l=Z r/\ES P ⟨d,.indexAddr t x y,ty,pos,aft,g⟩ cx σ F l:=by
 have L:∀{vs env S w},(∀M∈y5 (.indexAddr t x y),Lk P vs env S w cx σ M)->VD P vs env S w cx σ x:=λhl=>yX hl (by simp[xaz]);have Q:∀{vs env S w},(∀M∈y5 (.indexAddr t x y),Lk P vs env S w cx σ M)->VD P vs env S w cx σ y:=λhl=>yX hl (by simp[xaz]);unfold zdE at h;split at h
 ·next e E B o i v=>
  split at h
  ·next s C E1 a ix D=>
   have⟨bytes,q,A⟩:=cZ u J i;have⟨j,f,h,hc⟩:=zgN h;refine⟨_,h,?_⟩;intro env w S vs U G hl;have⟨ik,hd⟩:=hc P vs env S w<|Q hl;have T:(Ih s.rep C E1 (vs o) a ix).p S w:=Y3 G D;have⟨b,cap,hv,_⟩:=gf (zcm T).2.1<|xaG (sB _) f;have H:ev env x=yY (vs o):=zj v<|L hl;exact Yq.of_value (MQ (jA u i) A (H.trans hv) hd f w) ⟨yO.refl _ _,zw ⟨b,_,_,hv,f,O⟩⟩
  ·cases h
 ·next e E B o lo n i v=>
  split at h
  ·next s C E1 a ix D=>
   have⟨bytes,q,A⟩:=cZ u J i;have⟨j,f,h,hc⟩:=zgN h;refine⟨_,h,?_⟩;intro env w S vs U G hl;have⟨ik,hd⟩:=hc P vs env S w<|Q hl;rcases(zj v (L hl):MvV _ _ _ _).old with⟨b,m,cap,c,q1,q2,q3,q4,Y⟩|⟨q1,_⟩
   ·refine Yq.of_value (MQ (jA u i) A Y hd f w) ⟨yO.refl _ _,zw ⟨b,_,_,q1,W,?_⟩⟩;show Value.pointer (Z ⟨b,0+lo*1+j*1,yD⟩)=Value.pointer (Z ⟨b,0+(lo+j)*1,yD⟩);rw[xaT,xcL]
   ·lia
  ·cases h
 ·next e E B o p i v=>
  split at h
  ·next s C E1 a ix D=>
   have⟨hf,h1⟩:=yB h;cases hf;have⟨bytes,q,A⟩:=cZ u J i;have⟨j,f,h,hc⟩:=zgN h1;refine⟨_,h,?_⟩;intro env w S vs U G hl;have⟨ik,hd⟩:=hc P vs env S w<|Q hl;have T:(Ih e.rep C E1 (vs o) a ix).p S w:=Y3 G D;have H:(wm<|vs o)[p]? =Z (ev env x):=zj v<|L hl;have⟨b,cap,hv,_⟩:=gf (Hf T H).1<|xaG (sB _) f;refine Yq.of_value (MQ (jA u i) A hv hd f w) ⟨yO.refl _ _,zw ⟨λz=>Sub.self e.rep z,b,_,_,by rw[<-hv];exact H,f,by simp[Fl.self]⟩⟩
  ·cases h
 ·cases h
def zyJ{α β:Type}{q:Prop}{e:ye α}{E off:K}{nl:α->α}{s:ye β}{E1:wn}{u:xn}{z:α}{xs:N β}(h:(mVr q e E off nl s E1 u z xs).p S w):
 X (wm u)=1/\q/\∃b,yY u=.pointer (Z ⟨b,0,yD⟩)/\(mB (me e off nl<|wm u) E b (z,0)).p S w:=⟨h.1.1.1,h.1.1.2,h.1.2.1⟩
def zyP{α:Type}{q:Prop}{e:ye α}{E off:K}{nl:α->α}{u:xn}{z:α}(h:(mVh q e E off nl u z).p S w):
 X (wm u)=1/\q/\∃b,yY u=.pointer (Z ⟨b,0,yD⟩)/\(mB (me e off nl<|wm u) E b (z,0)).p S w:=⟨h.1.1.1,h.1.1.2,h.1.2.1⟩
def zjd{n i j:K}{s:Ty}{k:Fl s.D->V R}(h:znq n s i j k=Z r):i≠j/\∃f,xy n s i=Z f/\k f=Z r:=by
 have⟨h1,h⟩:=yv h;split at h
 ·next f a=>
  refine⟨λe=> ?_,f,a,h⟩;simp_all
 ·cases h
def zl1{o:K}{s a:Ty}{E E1 n j:K}{z:s.D}{Y:Od}(e:JE cx σ o=Z Y)(f:(∃xs,Y=.vr s E a E1 n j z xs)\/Y=.vh s E a E1 n j z)(h:xd S (MS vs σ.ob++(MS vs cx.ob++F)) w):
 vrP a (xy n s j)/\∃b,yY (vs o)=.pointer (Z ⟨b,0,yD⟩)/\(mB (me s.rep (Vb<|xy n s j) (Ye a (xy n s j) [])<|wm<|vs o) E b (z,0)).p S w:=by
 have c:=Y3 h e;rcases f with⟨xs,rfl⟩|rfl
 ·exact(zyJ c).2
 ·exact(zyP c).2
def zkv(A:xm P cf.tt){a:TI}{o:K}{s c:Ty}{E E1 n i j:K}{f:Fl s.D}{z:s.D}{Y:Od}{k:N (K×Dv)->V R}(B:Xo cf t=Z a)(hd:xT cx σ x=Z (.vf o s n i))(C:JE cx σ o=Z Y)
 (G:(∃xs,Y=.vr s E c E1 n j z xs)\/Y=.vh s E c E1 n j z) (H:i≠j) (e:xy n s i=Z f) (h:(Ty.cast f.f a.ty (f.get z) λy=>k [(0,.d a.ty y)])=Z r):
 ∃l,k l=Z r/\ES P ⟨d,.load t x,ty,pos,aft,g⟩ cx σ F l:=by
 have⟨m,h⟩:=yB h;have⟨p,J,_⟩:=Wc A B;have hc:=e;have⟨off,T,U,st⟩:=f;simp only at m;subst m;refine⟨_,h,ZE λenv w S vs L hl=> ?_⟩;have⟨hi,b,h1,M⟩:=zl1 C G L;have⟨b',f',q,v,Q⟩:=zj hd (yX hl<|by simp[xaz]);rw[h1]at q;cases q;rw[hc]at v;cases v;exact⟨_,_,_,_,[],[mB (me s.rep (Vb<|xy n s j) (Ye c (xy n s j) [])<|wm<|vs o) E b (z,0)],JR 0 O (Q.trans<|by rw[xaF]) (zjZ hi hc H) J,⟨M,xS⟩,xS,λu w' _ e=>zw e.1⟩
def zpn(A:xm P cf.tt){i:K}{k:N (K×Dv)->V R}(h:zcq cf cx σ t x i k=Z r):∃l,k l=Z r/\ES P ⟨d,.fieldAddr t x i,ty,pos,aft,g⟩ cx σ F l:=by
 have C:∀{vs env S w},(∀G∈y5 (.fieldAddr t x i),Lk P vs env S w cx σ G)->VD P vs env S w cx σ x:=λhl=>yX hl<|by simp[xaz]
 have c:∀{o E E1 n j:K}{s p:Ty}{z:s.D}{Y:Od}{B:K},Xo cf t=Z ⟨s,.st n,B⟩->xT cx σ x=Z (.mw o)->JE cx σ o=Z Y->((∃xs,Y=.vr s E p E1 n j z xs)\/Y=.vh s E p E1 n j z)->(xy n s i).isSome=I->k [(0,.vf o s n i)]=Z r->
  ∃l,k l=Z r/\ES P ⟨d,.fieldAddr t x i,ty,pos,aft,g⟩ cx σ F l:=λq u m H v h=>by
  have⟨f,v⟩:=Option.isSome_iff_exists.1 v;refine⟨_,h,?_⟩;intro env w S vs Q J hl;have⟨_,b,h1,_⟩:=zl1 m H J;have L:ev env x=yY (vs _):=zj u<|C hl;exact Yq.of_value (Ei (zfl A q v) (L.trans h1) w) ⟨yO.refl _ _,zw ⟨b,f,h1,v,O⟩⟩
 unfold zcq at h;split at h
 ·next e n B o q u=>
  split at h
  ·next s E p E1 M j z xs m=>
   have⟨a,h⟩:=yv h;rw[Th,Th]at a;obtain rfl:=yr a.1.1;obtain rfl:=az a.1.2;exact c q u m (.inl ⟨_,O⟩) a.2 h
  ·next s E p E1 M j z m=>
   have⟨a,h⟩:=yv h;rw[Th,Th]at a;obtain rfl:=yr a.1.1;obtain rfl:=az a.1.2;exact c q u m (.inr O) a.2 h
  ·cases h
 ·cases h
def zrs(L:xm P cf.tt){k:N (K×Dv)->V R}(h:zhM cf cx σ t x k=Z r):∃l,k l=Z r/\ES P ⟨d,.load t x,ty,pos,aft,g⟩ cx σ F l:=by
 have hx:∀{vs env S w},(∀t'∈y5 (.load t x),Lk P vs env S w cx σ t')->VD P vs env S w cx σ x:=λhl=>yX hl (by simp[xaz]);unfold zhM at h;split at h
 ·next e E B o j ht H=>
  split at h
  ·next s M E1 a ix A=>
   have⟨J,hi,_⟩:=Wc L ht;have⟨q,U,h⟩:=x9 h;refine⟨_,h,ZE λenv w S vs Y hl=> ?_⟩;have hm:(Ih s.rep M E1 (vs o) a ix).p S w:=Y3 Y A;have⟨b,m,v,h1,Q,h3⟩:=zj H<|hx hl;have⟨a1,a2,a3⟩:=zcm hm;have hn:m=X ix:=by
    have⟨cs,h5,h6⟩:=a2;rcases h5.2 with⟨hv,h7⟩|⟨g',c,a0,hv,_⟩
    ·rw[h1]at hv;cases hv
    ·rw[h1]at hv;cases hv;rfl
   have⟨b',c,hv,hb⟩:=gf a2 W;rw[h1]at hv;cases hv;have hc:=Sub.rowT0 (XY<|wm<|vs o) v ix j (ix.getD j 0)<|getD_some 0 Q;exact⟨_,_,_,_,[],[mB (rowT (XY<|wm<|vs o) v) M b ix],JR 0 O h3 hc hi,⟨hb,xS⟩,xS,λu w' _ C=>zw (by
    have:=zl6 C.1;rw[<-U]at this;exact this)⟩
  ·cases h
 ·next ti o e p j f hd H=>
  split at h
  ·next s M E1 a ix A=>
   have⟨T,h1⟩:=yB h;cases T;have⟨q,U,Q⟩:=x9 h1;have⟨T,h⟩:=yB Q;have⟨J,hi,_⟩:=Wc L hd;have⟨off,ff,gt,st⟩:=f;simp only at T;subst T;refine⟨_,h,ZE λenv w S vs Y hl=> ?_⟩;have hm:(Ih e.rep M E1 (vs o) a ix).p S w:=Y3 Y A;have⟨h0,b,m,cap,h1,Q,h3⟩:=zj H<|hx hl;have hr:=(Hf hm h1).1;have hn:m=X (ZK (α:=e.D) a p):=by
    have⟨cs,h5,h6⟩:=hr;rcases h5.2 with⟨hv,h7⟩|⟨g',c,a0,hv,_⟩
    ·cases hv
    ·cases hv;rfl
   have⟨b',c,hv,hb⟩:=gf hr W;cases hv;have hc:=(Sub.rowT0 e.rep cap (ZK (α:=e.D) a p) j ((ZK (α:=e.D) a p).getD j e.z)<|getD_some e.z W).comp<|h0<|(ZK (α:=e.D) a p).getD j e.z;subst U;exact⟨_,_,_,_,[],[mB (rowT e.rep cap) E1 b<|ZK (α:=e.D) a p],JR 0 O h3 hc hi,⟨hb,xS⟩,xS,λu w' _ C=>zw C.1⟩
  ·cases h
 ·next ti o s0 n0 i hd H=>
  split at h
  ·next s E s1 E1 n j z xs A=>
   have⟨G,h⟩:=yv h;rw[Th]at G;obtain rfl:=yr G.1;obtain rfl:=az G.2;have⟨hj,f,C,h⟩:=zjd h;exact zkv L hd H A (.inl ⟨_,O⟩) hj C h
  ·next s E s1 E1 n j z A=>
   have⟨G,h⟩:=yv h;rw[Th]at G;obtain rfl:=yr G.1;obtain rfl:=az G.2;have⟨hj,f,C,h⟩:=zjd h;exact zkv L hd H A (.inr O) hj C h
  ·cases h
 ·cases h
def zon(H:xm P cf.tt)(hL:ZX P cf.tt){lo hi:V wr}{k:N (K×Dv)->V R}(h:zcj cf cx σ t x lo hi k=Z r):∃l,k l=Z r/\ES P ⟨d,.slice t x lo hi yD,ty,pos,aft,g⟩ cx σ F l:=by
 have hx:∀{vs env S w},(∀C∈y5 (.slice t x lo hi yD),Lk P vs env S w cx σ C)->VD P vs env S w cx σ x:=λhl=>yX hl (by simp[xaz]);have U:∀{vs env S w z},lo=Z z->(∀C∈y5 (.slice t x lo hi yD),Lk P vs env S w cx σ C)->VD P vs env S w cx σ z:=λe hl=>yX hl (by simp[xaz,e]);have hc:∀{vs env S w z},hi=Z z->(∀C∈y5 (.slice t x lo hi yD),Lk P vs env S w cx σ C)->VD P vs env S w cx σ z:=λe hl=>yX hl (by simp[xaz,e]);unfold zcj at h;split at h
 ·next e E B o L hk=>
  split at h
  ·next s E' E1 M ix ho=>
   have⟨bytes,Y,hd⟩:=cZ H hL L
   have u:∀(l m:K),l<=m->m<=X ix->k [(0,.mv o l<|m-l)]=Z r->(∀vs env S w,(∀C∈y5 (.slice t x lo hi yD),Lk P vs env S w cx σ C)->((lo.map<|ev env)=Z (.int .i64 (l:J))\/(lo=yD/\l=0))/\((hi.map<|ev env)=Z (.int .i64 (m:J))\/(hi=yD/\m=X ix)))->
    ∃l,k l=Z r/\ES P ⟨d,.slice t x lo hi yD,ty,pos,aft,g⟩ cx σ F l:=by
    intro l m h1 j h5 h4;refine⟨_,h5,λenv w S vs hS hM hl=> ?_⟩;have⟨h6,Q⟩:=h4 vs env S w hl;have he:ev env x=yY (vs o):=zj hk<|hx hl;have hm:(Ih s.rep E' E1 (vs o) M ix).p S w:=Y3 hM ho;rcases nT (zcm hm).2.1 with⟨hv,hf⟩|⟨b,cap,hv,hg,hn⟩
    ·rw[hf]at j Q;obtain rfl:m=0:=Nat.le_zero.1 j;obtain rfl:l=0:=Nat.le_zero.1 h1;have G:=zde (P:=P) (w:=w) (jA H L) hd (h6.imp id λq=>by rw[q.1];rfl) (Q.imp id λq=>by rw[q.1];rfl);refine Yq.of_value (v:=.slice yD 0 0) (w':=w) (by simp[wD,he.trans hv,G]) ⟨yO.refl _ _,zw (.inr ⟨hv,O,O,O⟩)⟩
    ·have G:=R5 (P:=P) (b:=b) (o:=0) (n:=X ix) (cap:=cap) (w:=w) (l:=l) (h:=m) (jA H L) hd (h6.imp id λq=>⟨by rw[q.1];rfl,q.2⟩) (Q.imp id λq=>⟨by rw[q.1];rfl,q.2⟩) h1<|PX j hg;rw[<-hv,<-he]at G;refine Yq.of_value (v:=.slice (if cap=l then Z ⟨b,0,yD⟩else Z ((⟨b,0,yD⟩:kG).add<|l*1)) (m-l)<|cap-l) (w':=w) (by simp[wD,G,Ty.rep,eS]) ⟨yO.refl _ _,zw ?_⟩;exact .inl ⟨b,X ix,cap,hv,W,hg,W,by rw[jY]⟩
   rcases gL h with⟨e1,h1⟩|⟨zl,l,e1,h1,hj⟩
   ·rcases gL h1 with⟨A,j⟩|⟨zh,m,A,j,T⟩
    ·have⟨a,c,q1,q2,D,f,i⟩:=zdB j;exact u a c q1 q2 D λvs env S w hl=>⟨.inr ⟨e1,(f.resolve_left Xn).2⟩,.inr ⟨A,(i.resolve_left Xn).2⟩⟩
    ·have⟨a,c,q1,q2,D,f,i⟩:=zdB j;obtain i|⟨i,_⟩:=i
     ·cases i;exact u a m q1 q2 D λvs env S w hl=>⟨.inr ⟨e1,(f.resolve_left Xn).2⟩,.inl<|by rw[A];exact wF Z<|T P vs env S w<|hc A hl⟩
     ·cases i
   ·rcases gL h1 with⟨A,j⟩|⟨zh,m,A,j,T⟩
    ·have⟨a,c,q1,q2,D,f,i⟩:=zdB j;obtain f|⟨f,_⟩:=f
     ·cases f;exact u l c q1 q2 D λvs env S w hl=>⟨.inl (by rw[e1];exact wF Z<|hj P vs env S w<|U e1 hl),.inr ⟨A,(i.resolve_left Xn).2⟩⟩
     ·cases f
    ·have⟨a,c,q1,q2,D,f,i⟩:=zdB j;obtain f|⟨f,_⟩:=f
     ·obtain i|⟨i,_⟩:=i
      ·cases f;cases i;exact u l m q1 q2 D λvs env S w hl=>⟨.inl (by rw[e1];exact wF Z<|hj P vs env S w<|U e1 hl),.inl<|by rw[A];exact wF Z<|T P vs env S w<|hc A hl⟩
      ·cases i
     ·cases f
  ·cases h
 ·cases h
def zuT(v:xm P cf.tt){f:wL wr}{ts:wL wn}{k:N (K×Dv)->V R}(h:zm7 cf cx σ f.toList ts.toList k=Z r):
 ∃l,k l=Z r/\ES P ⟨d,.call ⟨.builtin .len,f,ts⟩,ty,pos,aft,g⟩ cx σ F l:=by
 unfold zm7 at h;split at h
 ·next _ _ x t hc hd=>
  obtain rfl:f= #[x]:=by cases f;simp_all
  obtain rfl:ts= #[t]:=by cases ts;simp_all
  have A:∀{vs env S w},(∀J∈y5 (.call ⟨.builtin .len,#[x],#[t]⟩),Lk P vs env S w cx σ J)->VD P vs env S w cx σ x:=λhl=>yX hl (by simp[xaz,xem]);split at h
  ·next e E B o i j=>
   split at h
   ·next s q E1 a ix z=>
    refine⟨_,h,ZE λenv w S vs C hl=> ?_⟩;have D:(Ih s.rep q E1 (vs o) a ix).p S w:=Y3 C z;exact⟨_,_,_,_,[],[mO (XY<|wm<|vs o) q (yY<|vs o) ix],zdK 0 O (jA v i)<|zj j<|A hl,⟨(zcm D).2.1,xS⟩,xS,λu w' G L=>zw<|w9<|zgi G⟩
   ·cases h
  ·next e E B o lo n i j=>
   split at h
   ·next s q E1 a ix z=>
    refine⟨_,h,zJ λenv w S vs hl=> ?_⟩;rcases(zj j (A hl):MvV _ _ _ _).old with⟨b,m,cap,c,q1,q2,H,T,M⟩|⟨q1,U,c,q2,H⟩
    ·exact⟨_,zgO (jA v i) M w,zw<|w9<|zgi W⟩
    ·subst q1;exact⟨_,zgO (jA v i) H w,zw<|w9 YL⟩
   ·cases h
  ·next e E B o p i j=>
   split at h
   ·next s q E1 a ix z=>
    refine⟨_,h,ZE λenv w S vs C hl=> ?_⟩;have D:(Ih s.rep q E1 (vs o) a ix).p S w:=Y3 C z;have Q:(wm<|vs o)[p]? =Z (ev env x):=zj j<|A hl;exact⟨_,_,_,_,[],[mO s.rep E1 (ev env x)<|ZK a p],zdK 0 O (jA v i) O,⟨(Hf D Q).1,xS⟩,xS,λu w' G L=>zw<|w9<|zgi G⟩
   ·cases h
  ·cases h
 ·cases h
def Tru:K->Prop:=λ_=>vF
def ziw(f:FF)(h:f.p S w):f.p Tru w:=f.sub h λ_ _ _=>xS
def Fw(D:∀s∈cf.cs,xI P s):∀{dom:N AM}{xs:N wr}{cs:N PD}{k:pK dom->V R},KK cf cx σ dom xs cs k=Z r->
 ∃z,k z=Z r/\X xs+X cs=X dom/\∀vs env S w,xd S (MS vs σ.ob++(MS vs cx.ob++F)) w->(∀x∈xs,VD P vs env S w cx σ x)->∀a:N xn,X a=X cs->zK S (zc3 cs a) w->zK Tru (YY P dom z<|xs.map (ev env)++a) w
 |[],[],[],k,h=>⟨(),h,O,λ_ _ _ _ _ _ _ _ _=>xS⟩
 |.q t::dom,[],c::cs,k,h=>by
  simp only[KK]at h;have⟨e,h⟩:=yB h;subst e;have⟨z,h1,u,A⟩:=Fw D h;refine⟨_,h1,by simp at u⊢;lia,λvs env S w i hl a j l=> ?_⟩
  cases a with
  |nil=>cases j
  |cons v a=>exact⟨ziw _ l.1,A vs env S w i hl a (by simpa using j) l.2⟩
 |.d t::dom,x::xs,cs,k,h=>by
  simp only[KK]at h;split at h
  ·next o lo n hc=>
   split at h
   ·next s E E1 B ix L=>
    have⟨e,h⟩:=yB h;subst e;have⟨z,h1,u,A⟩:=Fw D h;refine⟨_,h1,by simp at u⊢;lia,λvs env S w i hl a j l=>⟨?_,A vs env S w i (λz G=>hl z<|kE _ G) a j l⟩⟩;have M:(Ih s.rep E E1 (vs o) B ix).p S w:=Y3 i L;have⟨Q,T,a3⟩:=zcm M;have U:(mO (eS s.rep) E (yY<|vs o)<|zli B ix).p Tru w:=by
     have⟨C,q1,q2⟩:=T;refine⟨C,by unfold zli;rw[xaV];exact q1,?_⟩;exact GK Q (λ_ _=>xS) (λ_ _ _ _=>xS) a3 q2
    show(fV (eS<|eS s.rep) (xdo n<|xdD lo<|zli B ix)<|ev env x).p Tru w;rcases(zj hc (hl x<|Qh):MvV _ _ _ _).old with⟨b,m,cap,c,q1,q2,H,Y,q5⟩|⟨q1,J,c,q2,H⟩
    ·have:=zdb U q1 q2 H Y;rw[q5];have⟨J,c',p1,p2,p3,p4⟩:=this;refine wc.2 ⟨J,c',p1,p2,p3,p4.imp id ?_⟩;rintro⟨b',o',C,r1,r2,r3⟩;exact⟨b',o',C,r1,xS,r2,r3⟩
    ·subst q1;rw[H];exact wc.2 ⟨J,c,Xn,Xn,by unfold qs;lia,.inl Xn⟩
   ·cases h
  ·have⟨y,h,hy⟩:=JX h;have⟨z,h1,u,A⟩:=Fw D h;exact⟨_,h1,by simp at u⊢;lia,λvs env S w i hl a j l=>⟨ziw _<|hy P vs env S w<|hl x<|Qh,A vs env S w i (λz G=>hl z<|kE _ G) a j l⟩⟩
 |.fn K cod::dom,x::xs,cs,k,h=>by
  simp only[KK]at h;have⟨f,h,hf⟩:=zmW D h;have⟨z,h1,u,A⟩:=Fw D h;refine⟨_,h1,by simp at u⊢;lia,λvs env S w i hl a j l=>⟨?_,A vs env S w i (λz G=>hl z<|kE _ G) a j l⟩⟩
  cases hv:xT cx σ x with
  |none=>rename_i h0;rw[hv]at h0;simp[asF]at h0
  |some v=>exact ziw _<|hf vs S w v _ hv<|zj hv<|hl x<|Qh
 |[],_::_,_,_,h=>by simp[KK]at h
 |[],[],_::_,_,h=>by simp[KK]at h
 |.d _::_,[],_,_,h=>by simp[KK]at h
 |.own _ _::_,_,_,_,h=>by simp[KK]at h
 |.q _::_,_::_,_,_,h=>by simp[KK]at h
 |.fn _ _::_,[],_,_,h=>by simp[KK]at h
 |.q _::_,[],[],_,h=>by simp[KK]at h
def zcN:∀{rs:N RM}{x:CsD (rs.map RM.ty)}{us:N xn},zfN rs=I->zK Tru (csF (rs.map RM.ty) x us) w->zK S (csF (rs.map RM.ty) x us) w
 |[],_,_,_,_=>trivial
 |[.d .i],x,us,_,h=>⟨h.1,xS⟩
 |[.d .u],x,us,_,h=>⟨h.1,xS⟩
 |[.d .b],x,us,_,h=>⟨h.1,xS⟩
 |.d .i::n::r,x,us,a,h=>⟨h.1,zcN (rs:=n::r) a h.2⟩
 |.d .u::n::r,x,us,a,h=>⟨h.1,zcN (rs:=n::r) a h.2⟩
 |.d .b::n::r,x,us,a,h=>⟨h.1,zcN (rs:=n::r) a h.2⟩
def zru(p:∀s∈cf.cs,xI P s)(H:XOK P cf){f:wr}{a:wL wr}{ts:wL wn}{k:N (K×Dv)->V R}(h:zio cf cx σ f a.toList k=Z r):
 ∃l,k l=Z r/\ES P ⟨d,.call ⟨.value f,a,ts⟩,ty,pos,aft,g⟩ cx σ F l:=by
 have u:∀{vs env S w},(∀i∈y5 (.call ⟨.value f,a,ts⟩),Lk P vs env S w cx σ i)->VD P vs env S w cx σ f:=λhl=>yX hl (by simp[xaz,xem]);have A:∀{vs env S w},(∀i∈y5 (.call ⟨.value f,a,ts⟩),Lk P vs env S w cx σ i)->∀x∈a.toList,VD P vs env S w cx σ x:=λhl x j=>yX hl (by simp only[xaz,xem,Array.toList_append,pN];exact .inr j);unfold zio at h;split at h
 ·next f0 cs B=>
  split at h
  ·next s m=>
   have⟨h1,c⟩:=zm6 m;have⟨C,e⟩:=H.cl s h1;have⟨z,h,hd,n⟩:=zcL h;refine⟨_,h,ZE λenv w S vs D hl=> ?_⟩;have⟨b,hv,o,E⟩:=zj B<|u hl;obtain rfl:b=[]:=xbs.1 o;have hc:=e z (a.toList.map<|ev env) (by simpa using hd);rw[c]at hc C;rw[<-xbN<|a.toList.map<|ev env]at hc;exact⟨_,_,_,_,tsF s.dom z<|a.toList.map (ev env)++[],[],FK (asv:=a.toList) C hv hc O<|λS w h=>h,xS,by rw[xbN];exact n P vs env S w<|A hl,λv w' _ hi=>zw hi.1⟩
  ·split at h
   ·next s m=>
    have⟨h1,c,J,L,G⟩:=Nr m;have e:=p s h1;have⟨hn,h⟩:=yv h;have⟨z,h,hd,n⟩:=Fw (F:=F) p h;have⟨q,M,h⟩:=Gx h;refine⟨_,h,λenv w S vs U D hl=> ?_⟩;have⟨b,hv,o,E⟩:=zj B<|u hl;have hc:=Cx e J L G M (us:=a.toList.map (ev env)++b) (by simp at hd⊢;lia);rw[c]at hc;have Q:=n vs env S w D (A hl) b o E;refine(FK (asv:=a.toList) (ms:=[]) (Γ:=YY P s.dom z<|a.toList.map (ev env)++b) (c▸e.1) hv hc O (λS w h=>h) w Tru (λ_ _=>xS) xS Q).mono ?_;rintro v w' ⟨us,rfl,T,j,hi⟩;refine⟨j,?_⟩;unfold zqy;rw[zd7 G,zf9];exact PY (zcN hn hi)<|by simpa using T
   ·cases h
 ·cases h
def zym(a:xm P cf.tt)(b:ZX P cf.tt)(e:∀s∈cf.cs,xI P s)(f:XOK P cf){c:Op}{k:N (K×Dv)->V R}(h:eCo cf cx σ c k=Z r):∃l,k l=Z r/\ES P ⟨d,c,ty,pos,aft,g⟩ cx σ F l:=by
 unfold eCo at h;split at h
 ·exact zrs a h
 ·exact zl9 a b h
 ·exact zpn a h
 ·exact zon a b h
 ·exact zuT a h
 ·exact zru e f h
 ·cases h
def zsB(b:xm P cf.tt)(c:ZX P cf.tt)(e:∀s∈cf.cs,xI P s)(f:XOK P cf){a:Op}{k:N (K×Dv)->V R}(h:eOp cf cx σ a k=Z r):∃l,k l=Z r/\ES P ⟨d,a,ty,pos,aft,g⟩ cx σ F l:=by
 unfold eOp at h;cases hc:zxI cf cx σ a<;>rw[hc]at h
 ·exact zt5 b c e f.ex h
 ·exact zym b c e f h
end
end
section
section
variable{P:ww}{cf:Cf}{fr:Fr}{cx σ:Sg}{vs vs':zV->xn}{env:xt}{w:xN}{R:Type}{r:R}
 {d:z7 vn}{ty t yt:wn}{pos:String}{aft:wL Edge}{g:z7 (zV×ws)}{x y:wr}
abbrev GS(P:ww)(vs:K->xn)(env:xt)(fr:Fr)(cx σ:Sg):N FF:=RS P vs env σ.rg++(RS P vs env cx.rg++fr.G)
abbrev OS(vs:K->xn)(fr:Fr)(cx:Sg)(ob:N (K×Od)):N MF:=MS vs ob++(MS vs cx.ob++fr.F)
def JJ{S:K->Prop}(h:zK S (GS P vs env fr cx σ) w)(t:vn):Lk P vs env S w cx σ t:=by
 intro i dv hd;obtain hm|hm:=zcv hd
 ·exact ef (zK.left h) hm
 ·exact ef (zK.left<|zK.right h) hm
def zZ{S:K->Prop}(h:zK S (GS P vs env fr cx σ) w)(x:wr):VD P vs env S w cx σ x:=λt _=>JJ h t
def Ao(P:ww)(fr:Fr)(cx σ:Sg)(vs:K->xn)(env:xt)(w:xN):Prop:=Bd cx σ/\St fr.we fr.Se (OS vs fr cx σ.ob) (GS P vs env fr cx σ) w
def B6(P:ww)(fr:Fr)(cx:Sg)(n:K)(vs:K->xn)(σ:Sg)(env:xt)(w:xN):Prop:=∃vs',(∀o,o<n->vs' o=vs o)/\Ao P fr cx σ vs' env w
def B6.rel{n:K}(h:B6 P fr cx n vs σ env w):Wq P fr cx σ env w:=by
 have⟨vs',_,h1,a⟩:=h;exact⟨h1,vs',a⟩
theorem zdN{v:xn}{σ':Sg}{l:N (K×Dv)}{Γl:N FF}(c:Bd cx σ)(hd:vz cx d=I)(i:σ'.rg=jq σ.rg d l)(hn:σ.nx<=σ'.nx)(j:∀o,o<σ.nx->vs' o=vs o)
 (hl:∀e∈l,∀o,qd e.2=Z o->o<σ'.nx) (hi:∀e∈σ'.ob,e.1<σ'.nx) (s:∀S w,zK S Γl w->∀e∈l,(qI P vs' e.2 v e.1).p S w)
 (u:St fr.we fr.Se (OS vs' fr cx σ'.ob) (Γl++GS P vs env fr cx σ) w):Ao P fr cx σ' vs' (put env d v) w:=by
 refine⟨⟨hi,λe he=>xah (c.o2 e he) hn,?_,λe he o a=>xah (c.r2 e he o a) hn⟩,u.weak λS w h=> ?_⟩
 ·intro e he o a;rw[i]at he;unfold jq at he
  cases d with
  |none=>exact xah (c.r1 e he o a) hn
  |some t=>
   obtain he|he:=pN.1 he
   ·grind
   ·exact xah (c.r1 e (xcf.1 he).1 o a) hn
 ·have b:=zK.right h;have h1:zK S (RS P vs' env σ.rg) w:=by rw[Xb (λe he o a=>j o<|c.r1 e he o a)<|λ_ _=>O];exact zK.left b
  have k:zK S (RS P vs' env cx.rg) w:=by rw[Xb (λe he o a=>j o<|c.r2 e he o a)<|λ_ _=>O];exact zK.left<|zK.right b
  have m:=zK.right<|zK.right b
  cases d with
  |none=>
   unfold GS;rw[show σ'.rg=σ.rg from i];exact zK.append h1<|zK.append k m
  |some t=>
   have z:RS P vs' (put env (Z t) v) cx.rg=RS P vs' env cx.rg:=Xb (λ_ _ _ _=>O) λe he=>Ca λn=>by
    simp only[vz,KS,xaS]at hd;have:=hd e he;simp only[xao]at n;rw[n]at this;simp at this
   unfold GS;rw[i,z];refine zK.append (YS.2 λf A=> ?_)<|zK.append k m;obtain⟨e,he,rfl⟩:=xan.1 A;obtain he|he:=pN.1 he
   ·obtain⟨B,hp,rfl⟩:=xan.1 he;simp only[Px];exact s S w (zK.left h) B hp
   ·have⟨C,q⟩:=xcf.1 he;have D:Z t≠Z e.1:=λhc=>by
     simp only[xao]at hc;rw[hc]at q;simp at q
    rw[Ca D];exact ef h1 C
def aU{v:xn}{σ':Sg}{l:N (K×Dv)}{Γl:N FF}(b:Bd cx σ)(hd:vz cx d=I)(c:σ'.rg=jq σ.rg d l)(hn:σ.nx<=σ'.nx)(a:∀o,o<σ.nx->vs' o=vs o)
 (hl:∀e∈l,∀o,qd e.2=Z o->o<σ'.nx) (hc:∀e∈σ'.ob,e.1<σ'.nx) (f:∀S w,zK S Γl w->∀e∈l,(qI P vs' e.2 v e.1).p S w)
 (h:St fr.we fr.Se (OS vs' fr cx σ'.ob) (Γl++GS P vs env fr cx σ) w):B6 P fr cx σ.nx vs σ' (put env d v) w:=⟨vs',a,zdN b hd c hn a hl hc f h⟩
def zrU(P:ww)(vs:K->xn)(v:xn)(l:N (K×Dv)):N FF:=l.map λe=>qI P vs e.2 v e.1
def zf8{n:K}{l:N (K×Dv)}(h:okL n l=I):∀e∈l,∀o,qd e.2=Z o->o<n:=by
 intro e a o b;unfold okL at h;rw[xaS]at h;have:=h e a;simp_all
def ES.mono{o:wT}{l:N (K×Dv)}{F:N MF}(h:ES P o cx σ [] l):ES P o cx σ F l:=by
 intro env w S vs h1 a b;refine h env w S vs h1 (Y9.2 λm hm=>Y9.1 a m ?_) b;obtain hm|hm:=pN.1 hm
 ·simp_all
 ·simp_all
def zsW{o:wT}{l:N (K×Dv)}(h:ES P o cx σ fr.F l)(hd:vz cx o.dst=I)(hl:okL σ.nx l=I)(q:Ao P fr cx σ vs env w):Yq P o env w (λv w'=>B6 P fr cx σ.nx vs (σ.put o.dst l) (put env o.dst v) w'):=by
 have⟨j,h1,s,u,S,z,n,A,b,p⟩:=q;refine(h env w S vs n b λt _=>JJ p t).mono ?_;rintro v w' ⟨a,B⟩;refine aU (σ':=σ.put o.dst l) (Γl:=zrU P vs v l) j hd O (eZ _) (λ_ _=>O) (zf8 hl) j.o1 (λS w C e c=>YS.1 C _<|xan.2 ⟨e,c,O⟩) ?_;refine⟨h1.trans a,s,u,S,z,λk D=>n k<|PX a.size D,A,xd.keep a.to (λm E i hi=>a.block i (xd.lt b m E i hi) xS) b,zK.append (YS.2 λf G=> ?_)<|zK.keep a.to p⟩;obtain⟨e,c,rfl⟩:=xan.1 G;exact B e c
def C3(P:ww)(cx:Sg)(o:wT)(σ:Sg)(k:Sg->V R)(r:R):Prop:=∃σ',k σ'=Z r/\σ.nx<=σ'.nx/\∀(fr:Fr) (vs:K->xn) (env:xt) (w:xN),Ao P fr cx σ vs env w->Yq P o env w (λv w'=>B6 P fr cx σ.nx vs σ' (put env o.dst v) w')
def m_E(hT:xm P cf.tt)(hL:ZX P cf.tt)(hC:∀s∈cf.cs,xI P s)(hX:XOK P cf){op:Op}{k:Sg->V R}(hd:vz cx d=I)(h:mE cf cx σ d op k=Z r):C3 P cx ⟨d,op,ty,pos,aft,g⟩ σ k r:=by
 obtain⟨l,h,ha⟩:=zsB hT hL hC hX h;obtain⟨hl,h⟩:=yv h;exact⟨_,h,eZ _,λfr vs env w hR=>zsW ha.mono hd hl hR⟩
def V8(vs:K->xn)(n:K)(v:xn):K->xn:=λo=>bif xad o n then v else vs o
def wG{n:K}{v:xn}:V8 vs n v n=v:=by simp[V8]
def uX{n o:K}{v:xn}(h:o<n):V8 vs n v o=vs o:=by unfold V8;rw[XO W];rfl
def zm5{n:K}{v:xn}{ob:N (K×Od)}(h:∀e∈ob,e.1<n):MS (V8 vs n v) ob=MS vs ob:=vc λe a=>uX<|h e a
def zcH{v:xn}{ob:N (K×Od)}(a:Bd cx σ)(h:∀e∈ob,e.1<σ.nx):OS (V8 vs σ.nx v) fr cx ob=OS vs fr cx ob:=by
 show MS _ ob++(MS _ cx.ob++_)=_;rw[zm5 h,zm5 a.o2]
theorem cW{v:xn}{mk:K->Dv}{X:Od}{ob:N (K×Od)}(a:Bd cx σ)(hd:vz cx d=I)(b:∀e∈ob,e.1<σ.nx)(i:∀o,qd (mk o)=Z o)(c:∀S w,(qk P (V8 vs σ.nx v) (mk σ.nx) v).p S w)
 (hc:St fr.we fr.Se (bH (V8 vs σ.nx v) (σ.nx,X)::OS vs fr cx ob) (GS P vs env fr cx σ) w):B6 P fr cx σ.nx vs ⟨σ.nx+1,jq σ.rg d [(0,mk σ.nx)],(σ.nx,X)::ob⟩ (put env d v) w:=by
 refine aU (vs':=V8 vs σ.nx v) (Γl:=[]) a hd O (xbG _) (λo f=>uX f) ?_ ?_ ?_ ?_
 ·simp_all
 ·grind
 ·intro S w _ e h;obtain rfl:=xab.1 h;exact c S w
 ·show St _ _ (bH (V8 vs σ.nx v) (σ.nx,X)::OS (V8 vs σ.nx v) fr cx ob) _ _;rw[zcH a b];exact hc
def dB{v:xn}(S:K->Prop)(w:xN):(qk P (V8 vs σ.nx v) (.ow σ.nx) v).p S w:=(wG).symm
def zfs{t:Ty}{b:K}(S:K->Prop)(w:xN):(qk P (V8 vs σ.nx (.pointer<|some ⟨b,0,yD⟩)) (.vs σ.nx t) (.pointer<|some ⟨b,0,yD⟩)).p S w:=⟨wG.symm,b,wG⟩
def fJ{t:Ty}{E:wn}{xs:N t.D}{n:K}{v:xn}:bH (V8 vs n v) (n,.own t E xs)=mO t.rep E v xs:=by simp only[bH,wG]
def zcs{t:Ty}{E:wn}{z:t.D}{n:K}{v:xn}:bH (V8 vs n v) (n,.var t E z)=mP t.rep.c E v z:=by simp only[bH,wG]
def zrP(j:xm P cf.tt){E:wn}{k:Sg->V R}(hd:vz cx d=I)(h:ziG cf σ d E k=Z r):C3 P cx ⟨d,.alloc E,ty,pos,aft,g⟩ σ k r:=by
 unfold ziG at h;split at h
 ·next a l=>
  have⟨f,m,s,hc⟩:=Wc j l;refine⟨_,h,xbG _,λfr vs env w n=> ?_⟩;have⟨i,p⟩:=n;refine(GR (e:=a.ty.rep.c) m hc w p).mono ?_;rintro v w' ⟨b,rfl,_,q⟩;refine cW (mk:=λo=> .vs o a.ty) i hd i.o1 (λ_=>O) (λS w=>zfs S w) ?_;rw[zcs];exact q.toP 0 O
 ·cases h
def zwR{E:wn}{k:Sg->V R}(hd:vz cx d=I)(h:zuU cf cx σ d E x k=Z r):C3 P cx ⟨d,.box E x,ty,pos,aft,g⟩ σ k r:=by
 unfold zuU at h;split at h
 ·next c hc=>
  have⟨y,h,e⟩:=JX h;refine⟨_,h,xbG _,λfr vs env w f=> ?_⟩;have⟨a,i⟩:=f;refine(zrd O (λS w j=>e P vs env S w<|zZ j x) w i).mono ?_;rintro v w' ⟨b,rfl,_,l⟩;refine cW (mk:=λo=> .vs o c.ty) a hd a.o1 (λ_=>O) (λS w=>zfs S w) ?_;rw[zcs];exact l.toP 0 O
 ·cases h
def zjc(h:zjT x y=I):ev env x=ev env y:=by
 unfold zjT at h;split at h
 ·rw[yr h]
 ·simp only[eqI,kR]at h;rw[h]
 ·cases h
def zuj(a:xm P cf.tt){k:Sg->V R}(hd:vz cx d=I)(h:zmg cf cx σ d t x y k=Z r):C3 P cx ⟨d,.makeSlice t x y,ty,pos,aft,g⟩ σ k r:=by
 unfold zmg at h;split at h
 ·next s E B C=>
  have⟨hi,h⟩:=yv h;split at h
  ·next f n i hn=>
   have⟨D,h⟩:=yB h;subst D;have⟨l,hl,L,F⟩:=Wc a i;have⟨j,G,h⟩:=zks h;have⟨m,h⟩:=YK h;have⟨xs,o,h⟩:=x9 h;refine⟨_,h,xbG _,λfr vs env w H=> ?_⟩;have⟨p,q⟩:=H;have⟨S0,_,c⟩:=q.ex;have u:ev env x=.int .i64 (j:J):=by rw[(vt hn<|zZ c x).1,G]
   have A:=(a _ _ i).2.1;refine(zeR (e:=f.ty.rep) (z:=f.ty.z) (xs:=xs) (n:=j) (jA a C) hl u ((zjc hi).symm.trans u) A m F o w q).mono ?_;rintro v w' ⟨b,rfl,_,K⟩;refine cW (vs:=vs) (mk:=.ow) p hd p.o1 (λ_=>O) (λS w=>dB S w) ?_;rw[fJ];have hc:X xs=j:=by rw[o];exact xaR
   have:=K.closeF 0 O (by rw[hc];exact eZ _)<|zol A m;rw[hc]at this;exact this
  ·cases h
 ·cases h
def zwF(f:xm P cf.tt)(j:ZX P cf.tt){n:K}{ps:wL (K×wr)}{k:Sg->V R}(hd:vz cx d=I)(h:zuK cf cx σ d t n ps.toList k=Z r):C3 P cx ⟨d,.buildSlice t n ps,ty,pos,aft,g⟩ σ k r:=by
 unfold zuK at h;split at h
 ·next e E B i=>
  have⟨c,h⟩:=yv h;have c:=xbW c;rw[<-e.n_rep]at c;have⟨ys,h,p,s⟩:=FI h;have⟨bytes,l,u⟩:=cZ f j i;refine⟨_,h,xbG _,λfr vs env w z=> ?_⟩;have⟨m,hi⟩:=z;have hc:(ps.toList.map λq:K×wr=>(q.1,ev env q.2)).map (·.1)=xfd 0 (X (ps.toList.map λq:K×wr=>(q.1,ev env q.2))):=by rw[xcP,xaV];exact p
  have o:=λ(S:K->Prop) (w:xN) (a:zK S (GS P vs env fr cx σ) w)=>zc5 hc<|s P vs env S w λx _=>zZ a x;refine(zpV (jA f i) u (znc f j i) (Ad n e ys) c O (λS w a=>by have:=(o S w a).1;rwa[xcs]at this) (λS w a=>(o S w a).2) w hi).mono ?_;rintro v w' ⟨b,rfl,_,A⟩;refine cW m hd m.o1 (λ_=>O) (λS w=>dB S w) ?_;rw[fJ];exact A
 ·cases h
end
end
section
section
variable{P:ww}{cf:Cf}{fr:Fr}{cx σ:Sg}{vs vs':zV->xn}{env:xt}{w:xN}{R:Type}{r:R}
 {d:z7 vn}{ty t yt:wn}{pos:String}{aft:wL Edge}{g:z7 (zV×ws)}{x y:wr}
theorem UU{ob:N (K×Od)}{o:K}{X Y:Od}(h:xQ ob o=Z X):∀e∈Zf ob o Y,∃a∈ob,a.1=e.1:=by grind [vG]
def Yk:∀{ob:N (K×Od)}{o:K},∀e∈yJ ob o,e∈ob
 |(a,X)::r,o,e,he=>by
  unfold yJ at he;cases b:xad a o<;>rw[b]at he
  ·obtain rfl|he:=PQ.1 he
   ·simp_all
   ·exact kE _<|Yk e he
  ·simp_all
def tI{o:K}{X Y:Od}{v:xn}(b:Bd cx σ)(c:xQ σ.ob o=Z X)(f:St fr.we fr.Se (OS vs fr cx<|Zf σ.ob o Y) (GS P vs env fr cx σ) w):B6 P fr cx σ.nx vs ⟨σ.nx,σ.rg,Zf σ.ob o Y⟩ (put env yD v) w:=by
 refine aU (Γl:=[]) b O O (eZ _) (λ_ _=>O) (λ_ a=>wl a QT) (λe a=> ?_) (λS w _ e a=>wl a QT) f;have⟨h,h1,i⟩:=UU c e a;rw[<-i];exact b.o1 h h1
def set_set{α:Type _}(l:N α)(i:K)(a b:α):(l.set i a).set i b=l.set i b:=Xn
theorem qb{α:Type _}{l:N α}{i:K}{a b:α}(h:l[i]? =Z a):(l.set i b)[i]? =Z b:=by grind
def GI{α:Type _}:∀(l:N α) (i:K) (a:α),(l.set i a).eraseIdx i=l.eraseIdx i
 |[],_,_=>by simp
 |_::_,0,_=>rfl
 |b::l,i+1,a=>by simp[GI l i a]
def FC{α:Type}{e:ye α}{E:wn}{xs:N α}{v:xn}{S:K->Prop}{b n cap:K}(h:(mO e E v xs).p S w)(hv:v=.slice (Z ⟨b,0,yD⟩) n cap):n=X xs:=by
 have⟨cs,c,i⟩:=h;rcases c.2 with⟨h,j⟩|⟨k,a,f,h,_⟩
 ·simp_all
 ·simp_all
def zq9(hT:xm P cf.tt){k:Sg->V R}{u:TI}(hA:Xo cf t=Z u)(h:ziB σ u.ty (xT cx σ x) (xT cx σ y) k=Z r):C3 P cx ⟨yD,.store t x y,ty,pos,aft,g⟩ σ k r:=by
 have⟨U,A,_⟩:=Wc hT hA;unfold ziB at h;split at h
 ·next o _ B=>
  split at h
  ·next L E z l=>
   have⟨hC,h1⟩:=yB h;subst hC;have⟨q,h,C⟩:=JX h1;refine⟨_,h,eZ _,λfr vs env w D=> ?_⟩;have⟨F,hc⟩:=D;have⟨S0,_,e⟩:=hc.ex;have⟨i,hi,hd,Y⟩:=vG l;have a:(OS vs fr cx σ.ob)[i]? =Z (mP u.ty.rep.c E (vs o) z):=aF hi;have⟨b,hv,G⟩:=hc.openP i a;have⟨H,_⟩:=zj B<|zZ e x;refine(Zn (f:=u.ty.rep) (z':=z) (y':=q) (up:=id) i (qb a) (H.trans hv) O (Sub.self u.ty.rep z) A (λS w J=>C P vs env S w<|zZ J y) w G).mono ?_;rintro v w' ⟨_,rfl,_,K⟩;refine tI (vs:=vs) F l ?_;have m:=K.toP i<|qb<|qb a;rw[set_set,set_set,<-hv]at m;rw[hd];show St _ _ (MS vs (σ.ob.set i (o,.var u.ty E q))++_) _ _;rw[<-NU hi];exact m
  ·cases h
 ·next o p f B=>
  split at h
  ·next L E z s l _=>
   have⟨M,h1⟩:=yB h;subst M;have⟨q,N,C⟩:=JX h1;have⟨z2,Q,h⟩:=x9 N;have⟨s⟩:=s;refine⟨_,h,eZ _,λfr vs env w D=> ?_⟩;have⟨F,hc⟩:=D;have⟨S0,_,e⟩:=hc.ex;have⟨i,hi,hd,Y⟩:=vG l;have a:(OS vs fr cx σ.ob)[i]? =Z (mP L.rep.c E (vs o) z):=aF hi;have⟨b,hv,G⟩:=hc.openP i a;have⟨T,b',hl,H⟩:=zj B<|zZ e x;rw[hv]at hl;cases hl;rw[<-s]at A;refine(Zn (f:=f.f.rep) (z':=f.get z) (y':=q) (up:=λy=>f.set y z) i (qb a) H O (by rw[xaF];exact T z) A (λS w J=>C P vs env S w<|zZ J y) w G).mono ?_;rintro v w' ⟨_,rfl,_,K⟩;refine tI (vs:=vs) F l ?_;have m:=K.toP i<|qb<|qb a;rw[set_set,set_set,<-hv,<-Q]at m;rw[hd];show St _ _ (MS vs (σ.ob.set i (o,.var L E z2))++_) _ _;rw[<-NU hi];exact m
  ·cases h
 ·next o p j f B=>
  split at h
  ·next L E xs s l _=>
   have⟨M,h1⟩:=yB h;cases M;have⟨q,N,C⟩:=JX h1;have⟨z2,Q,h⟩:=x9 N;have⟨s⟩:=s;refine⟨_,h,eZ _,λfr vs env w D=> ?_⟩;have⟨F,hc⟩:=D;have⟨S0,_,e⟩:=hc.ex;have⟨i,hi,hd,Y⟩:=vG l;have a:(OS vs fr cx σ.ob)[i]? =Z (mO p.rep E (vs o) xs):=aF hi;have⟨T,b,n,cap,hv,hj,H⟩:=zj B<|zZ e x;have hn:n=xaD xs:=wZ hc a λS hp=>FC hp hv;subst hn;have⟨b',a0,hl,hD,hE,G⟩:=hc.openO i a<|xaG (sB _) hj;rw[hv]at hl;cases hl;rw[<-s]at A;have hz:=(Sub.rowT0 p.rep cap xs j (xer xs j p.z)<|getD_some p.z hj).comp<|T<|xer xs j p.z;refine(Zn (f:=f.f.rep) (y':=q) i (qb a) H O hz A (λS w J=>C P vs env S w<|zZ J y) w G).mono ?_;rintro v w' ⟨_,rfl,_,K⟩;refine tI (vs:=vs) F l ?_;have ht:X (xfL xs j<|f.set q<|xer xs j p.z)=xaD xs:=xbz ..;have m:=K.closeF i (qb<|qb a) (by rw[ht];exact hD) hE;rw[set_set,set_set,ht,<-hv,<-Q]at m;rw[hd];show St _ _ (MS vs (σ.ob.set i (o,.own p E z2))++_) _ _;rw[<-NU hi];exact m
  ·cases h
 ·cases h
end
end
end Go.Proofs.YtdpdofimolhigaaGreat
