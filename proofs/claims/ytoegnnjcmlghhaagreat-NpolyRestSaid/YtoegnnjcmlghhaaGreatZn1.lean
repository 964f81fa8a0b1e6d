/- What a proof needs: rules of walking, mirrors of functions and their plain laws. No condition. -/
import Derived.WalkKit
import Derived.KernelRfl
import Derived.CallsIn
import Derived.OrdersIn
import Derived.TacticsIn
import Derived.RangeFuncIn
import Derived.Laws.AppendOwn
import Derived.Laws.OwnMore
import Derived.Laws.CopyOwn
import Derived.Orders
import Derived.Laws.IdiomCopy
import Derived.Laws.CopyRow
import Derived.Scope
import Derived.Lib.BitFns
import Derived.Test.YtoegnnjcmlghhaaGreatRows
import Derived.ProofKit
import Derived.OpenShut
import Derived.Laws.Pointers
import Derived.Test.YtoegnnjcmlghhaaGreatProg
import Derived.RangeFuncSeq
import Derived.RangeFuncRecord
set_option linter.all false
namespace Go.Proofs.YtoegnnjcmlghhaaGreat
open Bool renaming false->I,true->qR
open Go renaming Value->jp,World->jP,TypeId->ut,Operand->uL,execOp->uT,Program->Z2,undef->XS,Oper->Wd,FuncId->Wf,Tmp->Wn,IntKind->Wr,Code->Wt,resolve->WR,Func->V0,wpListIn->V1,invoke->V3,heap_alloc_new->V4,ResultVar->V5,results->V6,eqGuard->V9,Act->QR,sizeOf->Jp,maxLen->JP,getD_set_ne->Kw,typeInfo->KW,binOp->Ul,BinOp->Us,run_newObj_alloc->Ut,asIntOf->UL,builtin->am,Addr->aC,MemPlace->aM,getD_set_true->aP,Calls->bi,run_loadCells_list->bI,wpAnyIn->bV,run_storeCells_at->ce,PanicEntry->cS,grownCap->eM,zeroValue->fD,newRow->fN,fenced_calm->ge,Ending->gC,size_zeroCells->gS,growslice_fits->gT,asInt->ii,Exit->lm,madeCells->lI,setRow_heap->lW,loadVar->oK,goInt->pU,callFunc->rC,TypeInfo->rO,Deferred->rW,DataW->rX,Fence->Ac
open List renaming length->X
open Nat renaming beq->Q
open Option renaming some->Z,none->wW
open _root_ renaming rfl->O,List->N,Int->J,Nat->K,Option->V,List->wF,Nat->wP,Option->wS,absurd->kW,trivial->ul,Bool->uS,Array->Z5,Unit->Wl,True->Ws,ByteArray->WW,False->UT,Decidable->U8,not_true_eq_false->lC
def FS:=@List.mem_cons_of_mem
def H1:=@List.not_mem_nil
def IR:=@List.mem_cons_self
def Nm:=@Nat.le_refl
def US:=@decide_eq_true_eq
def WD:=@cond_false
def WL:=@Go.wpIn_mono
def WN:=@cond_true
def WS:=@congrFun
def Xs:=@if_true
def Z3:=@Go.run_underlying
def Z4:=@congrArg
def Z9:=@if_false
def cO:=@if_pos
def eL:=@Go.wpIn_region_lit
def iI:=@Go.wpIn_seq
def iP:=@Go.wpListIn_nil
def xaA:=@List.getElem?_eq_some_iff
def xaF:=@List.length_replicate
def xaI:=@Nat.lt_of_le_of_lt
def xaM:=@Nat.zero_add
def xaP:=@List.length_set
def xaQ:=@Nat.mod_lt
def xaV:=@List.all_eq_true
def xaZ:=@Nat.div_lt_iff_lt_mul
def xaa:=@List.getElem?_eq_getElem
def xab:=@List.mem_append
def xae:=@Bool.and_eq_true
def xaf:=@List.mem_singleton
def xag:=@Nat.mul_le_mul_right
def xah:=@Nat.zero_le
def xaj:=@List.length_map
def xal:=@List.mem_cons
def xam:=@Bool.false_eq_true
def xan:=@List.length_take
def xao:=@Nat.le_trans
def xas:=@List.append_assoc
def xat:=@List.mem_map
def xau:=@List.length_append
def xav:=@Option.some.injEq
def xaw:=@List.length_cons
def xbA:=@List.getElem?_eq_none
def xbD:=@Int.natAbs_ediv_le_natAbs
def xbE:=@List.getElem?_cons_zero
def xbF:=@List.getElem?_take
def xbI:=@List.getElem_mem
def xbJ:=@Nat.le_of_ble_eq_true
def xbO:=@List.nil_append
def xbP:=@List.cons_append
def xbR:=@List.length_nil
def xbT:=@List.map_cons
def xbU:=@List.drop_eq_nil_of_le
def xbV:=@Nat.add_zero
def xbW:=@Nat.lt_or_ge
def xbb:=@Int.toNat_natCast
def xbf:=@List.mem_range
def xbo:=@List.append_nil
def xbq:=@List.eq_nil_of_length_eq_zero
def xbu:=@List.mem_of_getElem?
def xbz:=@List.getElem?_append_right
def xcA:=@List.ext_getElem?
def xcF:=@List.length_eq_one_iff
def xcH:=@Nat.one_mul
def xcI:=@Nat.div_le_self
def xcQ:=@Nat.add_assoc
def xcR:=@Prod.mk.injEq
def xcS:=@Bool.not_eq_true'
def xcT:=@List.getElem?_replicate
def xcV:=@Nat.pos_of_ne_zero
def xcX:=@List.getElem?_set_self
def xcn:=@List.length_drop
def xcp:=@Nat.le_mul_of_pos_right
def xct:=@Nat.zero_mul
def xdW:=@Nat.add_comm
def xdX:=@List.map_nil
def xdb:=@Option.getD_some
def xdd:=@List.getElem_of_mem
def xdi:=@List.set_getElem_self
def xdn:=@Nat.mul_pos
def xdo:=@List.pairwise_cons
def xdt:=@List.mem_of_mem_take
def xeH:=@List.take_succ_cons
def xeI:=@Bool.false_or
def xeX:=@Bool.not_true
def xea:=@List.replicate_succ
def xeb:=@Bool.or_eq_true
def xei:=@Nat.le_mul_of_pos_left
def xej:=@List.map_toArray
def xfC:=@List.mem_iff_getElem?
def xfD:=@List.set_append_right
def xfH:=@List.any_eq_true
def xfb:=@List.getElem?_zip_eq_some
def xfh:=@List.getElem?_drop
def xfi:=@List.set_cons_succ
abbrev oL(S T:Type):=(S->Option T)->S->Option T
theorem W{p:Prop}(h:p:=by lia):p:=h
theorem mS{p:Prop}(h:p:=by lia):p:=h
theorem mT{p:Prop}(h:p:=by omega):p:=h
theorem m6{p:Prop}(h:p:=by decide):p:=h
theorem m7{p:Prop}(h:p:=by simp):p:=h
theorem ol{p:Prop}(h:p:=by kernel_rfl):p:=h
open Builtin renaming append_->xcg,copy_->xfP,firstCells->xeQ,lenOf->xfO,zeroCells->xbr
open DataW renaming TrodAll->xeY
open Deferred renaming ofValue->xda
open Extern renaming find->xfe,findNext->xeS
open Extern.MathBitsCarry renaming m64->xbg,pair->xcr,three->xbN
open Fence renaming wide->xcW
open Instr renaming buildSlice->xeM,fill->xdM,slice->xfS,sliceAt->xcZ,sliceBound->xeL,sliceBounds->xeA,sureAddr->xfA
open IntKind renaming i64->xdf,u64->xcv
open Lib renaming bitLen->xfv
open List renaming drop->xdT,drop_eq_getElem_cons->xca,drop_left'->xfR,getElem?_append_left->xbi,mem_of_mem_eraseIdx->xdL,range->xaL,range_succ->xdm,replicate->So,set_append_left->xfL,set_eq_take_append_cons_drop->xek,take->xdH,take_append_drop->xbK,take_of_length_le->xaY
open Nat renaming add_mul->xbl,beq->xak,ble->xfu,blt->xde,eq_of_beq_eq_true->xdF,lt_of_lt_of_le->xac,mod_eq_of_lt->xap,strongRecOn->xdG
open Oper renaming looksAt->xbn
open Option.some renaming inj->xfT
open Region renaming binds->xcu,ready->xel
open Result renaming andThen_ok->xaq
open Sem renaming run_bind->xay,run_pure->xaX
open Sum renaming elim->xfj
open Value renaming bool->xeO,cells->xeG
open _root_.Array renaming getD_eq_getD_getElem?->xbw,getElem?_eq_getElem->xdB,getElem?_eq_some_iff->xbk,length_toList->xfc,mem_toList_iff->xdS,range->xfd,replicate->xdl,toArray_toList->xcC
section
 universe u
def yg{c:Prop}{h:U8 c}{α:Type}{t e:α}(hc:c:=by lia):ite c t e=t:=cO hc
def zF{c:Prop}{h:U8 c}{α:Type}{t e:α}(hc:¬c:=by lia):ite c t e=e:=if_neg hc
def iq{c:Prop}{h:U8 c}(hc:c){α:Sort u}{t e:α}:ite c t e=t:=cO hc
def ir{c:Prop}{h:U8 c}(hc:¬c){α:Sort u}{t e:α}:ite c t e=e:=if_neg hc
structure yL(S:K->Prop)(w w':jP):Prop where
 os:w'.os=w.os
 tape:w'.tape=w.tape
 output:w'.output=w.output
 size:w.heap.size<=w'.heap.size
 block:∀k,k<w.heap.size->S k->w'.heap[k]? =w.heap[k]?
abbrev b7(w w':jP):Prop:=yL (λ_=>Ws) w w'
theorem yL.refl(S:K->Prop)(w:jP):yL S w w:=⟨O,O,O,Nm _,λ_ _ _=>O⟩
def yL.trans{S:K->Prop}{a b c:jP}(h:yL S a b)(k:yL S b c):yL S a c:=
 ⟨k.os.trans h.os,k.tape.trans h.tape,k.output.trans h.output,xao h.size k.size,
  λi hi d=>(k.block i (xac hi h.size) d).trans<|h.block i hi d⟩
def yL.weak{S c:K->Prop}{a b:jP}(h:yL S a b)(e:∀k,k<a.heap.size->c k->S k):yL c a b:=
 ⟨h.os,h.tape,h.output,h.size,λk d f=>h.block k d<|e k d f⟩
def b7.to{S:K->Prop}{a b:jP}(h:b7 a b):yL S a b:=h.weak λ_ _ _=>ul
def b7.behind{S:K->Prop}{we a b:jP}(h:b7 we a)(k:yL S a b)(c:∀i,i<we.heap.size->S i):b7 we b:=
 ⟨k.os.trans h.os,k.tape.trans h.tape,k.output.trans h.output,xao h.size k.size,
  λi hi _=>(k.block i (xac hi h.size)<|c i hi).trans<|h.block i hi ul⟩
def b7.alloc(w:jP)(o:Obj):b7 w (w.alloc o):=
 ⟨O,O,O,m7,λk a _=>RowKit.Below.heap_alloc w o k a⟩
def b7.drawn(w:jP)(n:K):b7 w {w with drawn:=n}:=⟨O,O,O,Nm _,λ_ _ _=>O⟩
structure FF where
 p:(K->Prop)->jP->Prop
 keep:∀{S:K->Prop}{w w':jP},p S w->yL S w w'->p S w'
 sub:∀{S S':K->Prop}{w:jP},p S w->(∀k,k<w.heap.size->S k->S' k)->p S' w
structure MF where
 blk:K->Prop
 p:(K->Prop)->jP->Prop
 keep:∀{S:K->Prop}{w w':jP},p S w->yL S w w'->(∀k,blk k->w'.heap[k]? =w.heap[k]?)->p S w'
 sub:∀{S S':K->Prop}{w:jP},p S w->(∀k,k<w.heap.size->S k->S' k)->p S' w
 lt:∀{S:K->Prop}{w:jP},p S w->∀k,blk k->k<w.heap.size
def zD(S:K->Prop):N FF->jP->Prop
 |[],_=>Ws
 |f::r,w=>f.p S w/\zD S r w
def yV(S:K->Prop):N MF->jP->Prop
 |[],_=>Ws
 |f::r,w=>f.p S w/\yV S r w
def zD.keep{S:K->Prop}{w w':jP}(k:yL S w w'):∀{Γ:N FF},zD S Γ w->zD S Γ w'
 |[],_=>trivial
 |f::_,h=>⟨f.keep h.1 k,zD.keep k h.2⟩
def zD.sub{S a:K->Prop}{w:jP}(b:∀k,k<w.heap.size->S k->a k):∀{Γ:N FF},zD S Γ w->zD a Γ w
 |[],_=>trivial
 |f::_,h=>⟨f.sub h.1 b,zD.sub b h.2⟩
def zD.append{S:K->Prop}{w:jP}:∀{Γ Δ:N FF},zD S Γ w->zD S Δ w->zD S (Γ++Δ) w
 |[],_,_,h=>h
 |_::_,_,h,k=>⟨h.1,zD.append h.2 k⟩
def yV.sub{S a:K->Prop}{w:jP}(b:∀k,k<w.heap.size->S k->a k):∀{Γ:N MF},yV S Γ w->yV a Γ w
 |[],_=>trivial
 |f::_,h=>⟨f.sub h.1 b,yV.sub b h.2⟩
def yV.keep{S:K->Prop}{w w':jP}(k:yL S w w'):∀{Γ:N MF},(∀m∈Γ,∀i,m.blk i->w'.heap[i]? =w.heap[i]?)->yV S Γ w->yV S Γ w'
 |[],_,_=>trivial
 |f::_,a,h=>⟨f.keep h.1 k<|a f<|IR,yV.keep k (λm b=>a m<|FS _ b) h.2⟩
def yV.lt{S:K->Prop}{w:jP}:∀{Γ:N MF},yV S Γ w->∀m∈Γ,∀i,m.blk i->i<w.heap.size
 |_::_,h,m,hm,i,hi=>by
  obtain rfl|hm:=xal.1 hm
  exact m.lt h.1 i hi;exact yV.lt h.2 m hm i hi
def QX:N MF->Prop
 |[]=>Ws
 |m::r=>(∀k,m.blk k->∀m'∈r,¬m'.blk k)/\QX r
def St(we:jP)(Se:K->Prop)(ms:N MF)(Γ:N FF)(w:jP):Prop:=
 b7 we w/\(∀k,we.heap.size<=k->Se k)/\QX ms/\∃S:K->Prop,(∀k,S k->Se k)/\(∀k,w.heap.size<=k->S k)/\(∀m∈ms,∀k,m.blk k->¬S k/\we.heap.size<=k)/\
  yV S ms w/\zD S Γ w
section
variable{we:jP}{Se:wP->Prop}{ms:wF MF}{Γ Δ:wF FF}{w w':jP}
def St.ext(h:St we Se ms Γ w)(x:b7 w w'):St we Se ms Γ w':=by
 have⟨h1,b,c,S,d,e,f,a,g⟩:=h
 exact⟨h1.trans x,b,c,S,d,λk j=>e k<|xao x.size j,f,
  yV.keep x.to (λm l i hi=>x.block i (yV.lt a m l i hi) ul) a,zD.keep x.to g⟩
def St.step(h:St we Se ms Γ w)(x:b7 w w')(n:∀S:K->Prop,(∀k,w.heap.size<=k->S k)->zD S Γ w->zD S Δ w'):St we Se ms Δ w':=by
 have⟨h1,c,d,S,e,a,f,b,g⟩:=h
 exact⟨h1.trans x,c,d,S,e,λk j=>a k<|xao x.size j,f,
  yV.keep x.to (λm l i hi=>x.block i (yV.lt b m l i hi) ul) b,n S a g⟩
theorem St.weak(h:St we Se ms Γ w)(n:∀(S:K->Prop) (w:jP),zD S Γ w->zD S Δ w):St we Se ms Δ w:=
 h.step (yL.refl _ _) λS _=>n S w
def St.ex(h:St we Se ms Γ w):∃S:K->Prop,(∀k,w.heap.size<=k->S k)/\zD S Γ w:=
 let⟨_,_,_,S,_,a,_,_,b⟩:=h;⟨S,a,b⟩
def IQ:∀{ms:N MF} (i:K) (m':MF),QX ms->(∀m,ms[i]? =Z m->m'.blk=m.blk)->QX (ms.set i m')
 |[],_,_,h,_=>by simpa using h
 |m::r,0,m',h,a=>by
  have:=a m O;exact⟨λk b=>h.1 k (by rw[<-this];exact b),h.2⟩
 |m::r,i+1,m',h,a=>by
  refine⟨λk b g c=> ?_,IQ i m' h.2<|λm d=>a m<|by simpa using d⟩;obtain⟨j,f,rfl⟩:=xdd c;rw[List.getElem_set];rw[xaP]at f;split;rename_i e;rw[a r[i] m7];exact h.1 k b _<|xbI _;exact h.1 k b _<|xbI _
theorem yV.get{S:K->Prop}:∀{ms:N MF}{i:K}{m:MF},yV S ms w->ms[i]? =Z m->m.p S w
 |_::_,0,_,h,e=>by simp only[xbE,xav]at e;exact e▸h.1
 |_::_,_+1,_,h,e=>yV.get h.2<|by simpa using e
def ga:∀{ms:N MF}{i:K}{m:MF},QX ms->ms[i]? =Z m->∀k,m.blk k->∀(j:K) (m':MF),j≠i->ms[j]? =Z m'->¬m'.blk k
 |m0::r,0,m,h,e,k,b,j,m',c,a=>by
  simp only[xbE,xav]at e;subst e;obtain⟨j,rfl⟩:∃d,j=d+1:=⟨j-1,W⟩;exact h.1 k b m'<|xbu<|by simpa using a
 |m0::r,i+1,m,h,e,k,b,0,m',c,a=>by
  simp only[xbE,xav]at a;subst a;exact λhc=>h.1 k hc m (xbu<|by simpa using e) b
 |m0::r,i+1,m,h,e,k,b,j+1,m',c,a=>
  ga h.2 (by simpa using e) k b j m' W (by simpa using a)
def Sb{S:K->Prop}{b:K}(x:yL (λk=>k≠b) w w'):∀{ms:N MF} (i:K) (m':MF),(∀k,S k->k≠b)->m'.p S w'->
 (∀(j:K) (m:MF),j≠i->ms[j]? =Z m->¬m.blk b)->yV S ms w->yV S (ms.set i m') w'
 |[],_,_,_,_,_,_=>trivial
 |m::r,0,m',c,f,d,h=>by
  refine⟨f,yV.keep (x.weak λk _ a=>c k a) (λl g k a=> ?_) h.2⟩;obtain⟨j,n,rfl⟩:=xdd g;exact x.block k (yV.lt h.2 _ (xbI _) k a)<|λe=>d (j+1) r[j] W m7<|e▸a
 |m::r,i+1,m',c,f,d,h=>by
  refine⟨m.keep h.1 (x.weak λk _ a=>c k a)<|λk a=>x.block k (m.lt h.1 k a)<|λe=>d 0 m W O<|e▸a,?_⟩;exact Sb x i m' c f (λj l n g=>d (j+1) l W<|by simpa using g) h.2
theorem St.write{i:K}{m m':MF}{b:K}(h:St we Se ms Γ w)(hi:ms[i]? =Z m)(s:m.blk=λk=> @Z K b=Z k)(hd:m'.blk=λk=> @Z K b=Z k)(x:yL (λk=>k≠b) w w')
 (n:∀S:K->Prop,(∀k,S k->k≠b)->m.p S w->zD S Γ w->m'.p S w'):St we Se (ms.set i m') Γ w':=by
 have⟨h1,f,g,S,t,u,l,o,q⟩:=h;have c:m.blk b:=by rw[s]
 have d:∀k,S k->k≠b:=λk a e=>(l m (xbu hi) b c).1<|e▸a;refine⟨h1.behind x (λk a e=>by have:=(l m (xbu hi) b c).2;lia),f,IQ i m' g<|λr f=> ?_,S,t,λk a=>u k<|xao x.size a,?_,?_,?_⟩;simp_all;grind;exact Sb x i m' d (n S d (yV.get o hi) q) (λj r v hc=>ga g hi b c j r v hc) o;exact zD.keep (x.weak λk _ a=>d k a) q
def St.fresh{m:MF}(h:St we Se ms Γ w)(x:b7 w w')(c:m.blk=λk=>Z w.heap.size=Z k)(hd:w.heap.size<w'.heap.size)
 (n:∀S:K->Prop,(∀k,w.heap.size<=k->S k)->zD S Γ w->m.p (λk=>S k/\k≠w.heap.size) w'):St we Se (m::ms) Γ w':=by
 have⟨h1,j,l,S,o,d,e,b,f⟩:=h;have g:∀k,k<w.heap.size->S k->S k/\k≠w.heap.size:=λk a q=>⟨q,W⟩;refine⟨h1.trans x,j,⟨λk a m' hm' hc=> ?_,l⟩,λk=>S k/\k≠w.heap.size,λk a=>o k a.1,λk a=>⟨d k W,W⟩,?_,⟨n S d f,?_⟩,?_⟩;rw[c]at a;cases a;have:=yV.lt b m' hm' _ hc;lia
 intro m' hm' k a;obtain rfl|hm':=xal.1 hm'
 rw[c]at a;cases a;exact⟨λhc=>hc.2 O,h1.size⟩
 exact⟨λhc=>(e m' hm' k a).1 hc.1,(e m' hm' k a).2⟩;exact yV.keep x.to (λm' hm' i hi=>x.block i (yV.lt b m' hm' i hi) ul)<|yV.sub g b;exact zD.keep x.to<|zD.sub g f
def Um:∀{ms:N MF} (i:K),QX ms->QX (ms.eraseIdx i)
 |[],_,h=>by simpa using h
 |_::_,0,h=>h.2
 |m::r,i+1,h=>⟨λk a m' b=>h.1 k a m'<|xdL b,Um i h.2⟩
def br{S:K->Prop}:∀{ms:N MF} (i:K),yV S ms w->yV S (ms.eraseIdx i) w
 |[],_,h=>by simpa using h
 |_::_,0,h=>h.2
 |_::_,i+1,h=>⟨h.1,br i h.2⟩
def St.freeze{i:K}{m:MF}{F:FF}(h:St we Se ms Γ w)(hi:ms[i]? =Z m)
 (n:∀S a:K->Prop,(∀k,S k->a k)->(∀k,m.blk k->a k)->m.p S w->F.p a w):St we Se (ms.eraseIdx i) (F::Γ) w:=by
 have⟨h1,d,e,S,g,l,b,f,o⟩:=h;have q:=xbu hi;refine⟨h1,d,Um i e,λk=>S k\/m.blk k,?_,λk hk=> .inl<|l k hk,?_,yV.sub (λk _ hk=> .inl hk)<|br i f,n S _ (λk hk=> .inl hk) (λk hk=> .inr hk)<|yV.get f hi,zD.sub (λk _ hk=> .inl hk) o⟩;rintro k (hk|hk);exact g k hk;exact d k (b m q k hk).2;intro m' c k hk;refine⟨?_,(b m' (xdL c) k hk).2⟩;rintro(hc|hc);exact(b m' (xdL c) k hk).1 hc;have⟨j,r,hd⟩:=List.mem_eraseIdx_iff_getElem?.1 c;exact ga e hi k hc j m' r hd hk
def St.drop{i:K}(h:St we Se ms Γ w):St we Se (ms.eraseIdx i) Γ w:=by have⟨h1,a,b,S,c,d,e,f,g⟩:=h;exact⟨h1,a,Um i b,S,c,d,λm' j=>e m'<|xdL j,br i f,g⟩
def St.nil(h:zD Se Γ we)(a:∀k,we.heap.size<=k->Se k):St we Se [] Γ we:=
 ⟨yL.refl _ _,a,ul,Se,λ_ h=>h,a,λ_ h=>kW h H1,ul,h⟩
end
abbrev xr:=K->jp
def L:N (K×jp)->xr->xr
 |[],r,t=>r t
 |(k,v)::l,r,t=>bif Q t k then v else L l r t
def put(H:xr):V Wn->jp->xr
 |some d,v=>L [(d,v)] H
 |none,_=>H
def yf(a:QR):xr:=λt=>a.tmps.getD t XS
def ev(H:xr):uL->jp
 |.tmp t=>H t
 |.const v=>v
 |.global g=> .pointer<|some ⟨g,0,wW⟩
 |.func f=> .func (.func f) #[] #[]
def zkW(H:xr):N (K×jp)->N jp
 |[]=>[]
 |(k,_)::l=>H k::zkW H l
def zcq:N (K×jp)->N jp
 |[]=>[]
 |(_,v)::l=>v::zcq l
def aB(H:xr)(l:N (K×jp)):Prop:=zkW H l=zcq l
def zaP{H:xr}{k:K}{v:jp}{l:N (K×jp)}(h:H k=v)(a:aB H l):aB H ((k,v)::l):=by show H k::zkW H l=v::zcq l;rw[h,show zkW H l=zcq l from a]
def rb{H:xr}{k:K}{v:jp}{l:N (K×jp)}(h:aB H ((k,v)::l)):H k=v/\aB H l:=by have h1:=h;exact List.cons.inj h1
def Ud{H:xr}:∀{a:N (K×jp)},aB H a->L a H=H
 |[],_=>rfl
 |(k,v)::l,h=>by
  funext t;have c:=WS (Ud (rb h).2) t;simp only[L];cases b:Q t k
  simp_all;simp only[WN];rw[xdF b];exact(rb h).1.symm
def KX(a:QR):a.eval=ev (yf a):=by funext x;cases x<;>rfl
def Wz{a:QR}{d:V Wn}{v:jp}(h:∀t,d=Z t->t<a.tmps.size):yf (a.put d v)=put (yf a) d v:=by
 cases d with
 |none=>rfl
 |some d=>
  funext t;simp only[yf,Act.put,put,L,xbw];cases b:Q t d
  have:d≠t:=λe=>by subst e;simp at b
  grind;simp_all
def aN(a:QR)(d:V Wn)(v:jp):(a.put d v).tmps.size=a.tmps.size:=by cases d<;>simp[Act.put]
def WO(a:QR)(d:V Wn)(v:jp):(a.put d v).defers=a.defers:=by cases d<;>rfl
abbrev Qs:=lm->xr->jP->Prop
structure Nd where
 n:K
 ds:N rW
 rd:V K
abbrev Nd.of(n:K):Nd:=⟨n,[],wW⟩
abbrev Nd.F(N:Nd):Ac:={xcW with round:=N.rd}
def zdg(N:Nd)(Q:Qs):lm->QR->jP->Prop:=λe a w=>a.tmps.size=N.n/\a.defers=N.ds/\Q e (yf a) w
def Wp(P:Z2)(N:Nd)(c:Wt)(Q:Qs)(H:xr)(w:jP):Prop:=
 ∀a:QR,a.tmps.size=N.n->a.defers=N.ds->yf a=H->c.wpIn N.F 0 P (zdg N Q) a w
def zmN(K:xr->jP->Prop)(Q:Qs):Qs
 |.normal,H,w=>K H w
 |e,H,w=>Q e H w
def zft(id:K)(Q:Qs):Qs
 |.exit a,H,w=>bif xak a id then Q .normal H w else Q (.exit a) H w
 |e,H,w=>Q e H w
def T(P:Z2)(N:Nd)(we:jP)(Se:K->Prop)(ms:wF MF)(Γ:wF FF)(c:Wt)(Q:Qs)(H:xr):Prop:=
 ∀w,St we Se ms Γ w->Wp P N c Q H w
section
variable{P:Z2}{N:Nd}{we:jP}{Se:wP->Prop}{ms:wF MF}{Γ:wF FF}{Q:Qs}{H:xr}
def Bm{x y:Wt}(h:T P N we Se ms Γ x (zmN (Wp P N y Q) Q) H):T P N we Se ms Γ (.seq x y) Q H:=by intro w c a h1 d f;refine iI<|WL (h w c a h1 d f) ?_;intro e g w' ⟨q1,q2,b⟩;cases e<;>first|exact b g q1 q2 O|exact⟨q1,q2,b⟩
def znD(h:∀w,St we Se ms Γ w->Q .normal H w):T P N we Se ms Γ .skip Q H:=
 λw a _ h1 b c=>wpIn_skip ⟨h1,b,c▸h w a⟩
def zlY(h:∀w,St we Se ms Γ w->Q .ret H w):T P N we Se ms Γ .ret Q H:=
 λw a _ h1 b c=>wpIn_ret ⟨h1,b,c▸h w a⟩
def gU{c:uL}{x y:Wt}(hc:ev H c=.bool qR)(h:T P N we Se ms Γ x Q H):T P N we Se ms Γ (.cond c x y) Q H:=
 λw d a h1 e b=>wpIn_cond_true (by rw[KX,b];exact hc)<|h w d a h1 e b
def oJ{c:uL}{x y:Wt}(hc:ev H c=.bool I)(h:T P N we Se ms Γ y Q H):T P N we Se ms Γ (.cond c x y) Q H:=
 λw d a h1 e b=>wpIn_cond_false (by rw[KX,b];exact hc)<|h w d a h1 e b
def znA{c:uL}{x y:Wt}(b:uS)(hc:ev H c=.bool b)(h:b=qR->T P N we Se ms Γ x Q H)(a:b=I->T P N we Se ms Γ y Q H):T P N we Se ms Γ (.cond c x y) Q H:=by
 cases b
 exact oJ hc<|a O;exact gU hc<|h O
def zcX{id:K}{c:Wt}(h:T P N we Se ms Γ c (zft id Q) H):T P N we Se ms Γ (.block id c) Q H:=by
 intro w f a h1 g j;refine wpIn_block<|WL (h w f a h1 g j) ?_;intro e k w' ⟨q1,q2,b⟩
 cases e with
 |exit i=>
  simp only[zft]at b;simp only[Exit.inBlock];cases d:xak i id
  rw[d]at b;rw[ir<|λe=>by subst e;simp at d];exact⟨q1,q2,b⟩;rw[d]at b;rw[iq<|xdF d];exact⟨q1,q2,b⟩
 |_=>exact⟨q1,q2,b⟩
def zab{F:Ac}{n:K}{c:Wt}{Q:lm->QR->jP->Prop}{a:QR}{w:jP}{G:Type}(J:G->QR->jP->Prop)(t:G->K)(h:G)(p:J h a w)
 (round:∀g a w,J g a w->c.wpIn F n P (Exit.then (λo w'=>∃y,J y o w'/\t y<t g) Q) a w):(Code.loop c).wpIn F n P Q a w:=by
 intro b k cs hd u v
 have x:∀n g a w,t g=n->J g a w->
  ∃e o w',Q e o w'/\ArrivesIn (Machine.fenced P F) P (lone (b.atR a (.code c::.inLoop c::k)) cs w) b k cs e o w':=by
  intro n
  induction n using xdG with
  |_ n z=>
   intro g a w hn A;have⟨e,d,f,i,j⟩:=round g a w A b (.inLoop c::k) cs hd u v
   cases e with
   |normal=>
    have⟨m,B,C⟩:=i;have⟨q,r,s,D,hc⟩:=z (t m) (hn▸C) m d f O B;exact⟨q,r,s,D,.of_steps (StepsIn.trans j (.one (ge u v O) stepR_inLoop)) hc⟩
   |exit id=>exact⟨_,d,f,i,.pass O (λ_ _=> .inl m7) j⟩
   |goto l=>exact⟨_,d,f,i,.pass O (λ_ _=> .inl m7) j⟩
   |ret=>exact⟨_,d,f,i,.pass O (λ_ _=> .inl m7) j⟩
   |panic E=>exact⟨_,d,f,i,.pass O (λ_ _=> .inl m7) j⟩
   |outgrown=>exact⟨_,d,f,i,.pass O (λ_ _=> .inl m7) j⟩
 have⟨e,o,w',i,j⟩:=x _ h a w O p;exact⟨e,o,w',i,.of_steps (.one (ge u v O) stepR_loop) j⟩
end
def FnQ{U:Type}(Se:K->Prop)(w:jP)(a:U->jp)(b:U->N FF)(ok:U->Prop):gC->jP->Prop:=
 λe w'=>∃u,e=.returned (a u)/\ok u/\b7 w w'/\zD Se (b u) w'
def Fn{U:Type}(P:Z2)(f:Wf)(args:Z5 jp)(Γ:N FF)(a:U->jp)(b:U->N FF)(ok:U->Prop):Prop:=
 ∀w Se,(∀k,w.heap.size<=k->Se k)->zD Se Γ w->bi P f args w (FnQ Se w a b ok)
def zoQ{U:Type}(P:Z2)(fn:V0)(we:jP)(Se:K->Prop)(b:U->jp)(c:U->N FF)(ok:U->Prop):Qs
 |.ret,H,w|.normal,H,w=>∃u,(∀a:QR,yf a=H->(V6 fn a.tmps).run P w=.ok (b u) w)/\ok u/\b7 we w/\zD Se (c u) w
 |_,_,_=>UT
def cH(args:Z5 jp)(n:K):yf ⟨args++xdl n XS,[]⟩=λt=>args.getD t XS:=by funext t;simp only[yf,xbw,Array.getElem?_append];split;rfl;grind
def Ky:∀(l:N jp) (k:K) (H:xr),(∀j,H (k+j)=l.getD j XS)->aB H ((l.zipIdx k).map λx=>(x.2,x.1))
 |[],_,_,_=>rfl
 |v::l,k,H,h=>zaP (by simpa using h 0)<|Ky l (k+1) H (λj=>by have:=h<|j+1;simpa[xcQ,xdW 1 j]using this)
def zg1{U:Type}{P:Z2}{f:Wf}{args:N jp}{Γ:N FF}{i:U->jp}{k:U->N FF}{ok:U->Prop}{fn:V0}{c:Wt}
 (m:P.funcs[f]? =Z fn) (o:fn.body=Z c) (hn:xfu (X args) fn.ntmps=qR)
 (h:∀we Se rest,T P (Nd.of fn.ntmps) we Se [] Γ c (zoQ P fn we Se i k ok)<|L ((args.zipIdx 0).map λx=>(x.2,x.1)) rest):Fn P f args.toArray Γ i k ok:=by
 intro w Se p a;have hn:=xbJ hn;refine calls_of_wp m o<|(wpIn_wide (n:=0)).1 ?_;have hc:aB (yf ⟨args.toArray++xdl (fn.ntmps-args.toArray.size) XS,[]⟩) ((args.zipIdx 0).map λx=>(x.2,x.1)):=by refine Ky args 0 _ λj=> ?_;rw[cH];simp_all
 refine WL (h w Se _ w (St.nil a p) _ (by simp;lia) O (Ud hc).symm) ?_;intro e l w' ⟨q1,q2,b⟩;cases e<;>simp only[zoQ]at b
 have⟨u,r1,r2,d,g⟩:=b;exact⟨q2,_,r1 l O,u,O,r2,d,g⟩;have⟨u,r1,r2,d,g⟩:=b;exact⟨q2,_,r1 l O,u,O,r2,d,g⟩
section
variable{P:Z2}{we:jP}{Se:wP->Prop}{ms:wF MF}{Γ:wF FF}{H:xr}{U:Type}{wD:U->jp}{ww:U->wF FF}{ok:U->Prop}{fn:V0}
def St.out{Δ:N FF}{w:jP}(h:St we Se ms Γ w)(n:∀(S:K->Prop) (w:jP),zD S Γ w->zD S Δ w):b7 we w/\zD Se Δ w:=by have⟨h1,c,d,S,a,e,f,g,b⟩:=h;exact⟨h1,zD.sub (λk _=>a k)<|n S w b⟩
def zqC{t:Wn}(u:U)(b:fn.results= #[.tmp t])(hv:H t=wD u)(hc:ok u)(n:∀(S:K->Prop) (w:jP),zD S Γ w->zD S (ww u) w):
 ∀w,St we Se ms Γ w->zoQ P fn we Se wD ww ok .ret H w:=by
 intro w c;refine⟨u,λa d=> ?_,hc,c.out n⟩;rw[<-hv,<-d];simp[V6,b,yf]
def CZ(tmps:Z5 jp):V5->Sem jp
 |.tmp t=>pure<|tmps.getD t XS
 |.cell a t=>do oK t (<-asAddr (tmps.getD a XS))
end
end
section
structure zZ(α:Type)where
 n:K
 agg:uS
 n1:agg=I->n=1
 p:(K->Prop)->α->N jp->jP->Prop
 len:∀{S x cs w},p S x cs w->cs.length=n
 one:∀{S x cs w},p S x cs w->∀c∈cs,c.oneCell'=qR
 keep:∀{S x cs w w'},p S x cs w->yL S w w'->p S x cs w'
 sub:∀{S S':K->Prop}{x cs w},p S x cs w->(∀k,k<w.heap.size->S k->S' k)->p S' x cs w
def zZ.val{α:Type}(e:zZ α)(cs:N jp):jp:=if e.agg then .agg cs.toArray else cs.headD XS
def zZ.val_cells{α:Type}(e:zZ α){S:K->Prop}{x:α}{cs:N jp}{w:jP}(h:e.p S x cs w):(e.val cs).cells.toList=cs:=by
 unfold zZ.val;cases a:e.agg
 have hl:=e.len h;rw[e.n1 a]at hl;obtain⟨c,rfl⟩:=xcF.1 hl;have:=e.one h c m7;cases c<;>simp_all [xeG,Value.oneCell']
 rfl
def fV{α:Type}(e:zZ α)(x:α)(v:jp):FF where
 p S w:=∃cs,v=e.val cs/\e.p S x cs w
 keep:=λ⟨cs,h1,a⟩ k=>⟨cs,h1,e.keep a k⟩
 sub:=λ⟨cs,h1,a⟩ k=>⟨cs,h1,e.sub a k⟩
def eI:zZ J where
 n:=1
 agg:=I
 n1 _:=O
 p _ x cs _:=cs=[.int .i64 x]/\ -9223372036854775808<=x/\x<=9223372036854775807
 len h:=by simp[h.1]
 one h:=by intro c hc;rw[h.1]at hc;simp at hc;subst hc;rfl
 keep h _:=h
 sub h _:=h
def eU:zZ K where
 n:=1
 agg:=I
 n1 _:=O
 p _ x cs _:=cs=[.int .u64 (x:J)]/\x<18446744073709551616
 len h:=by simp[h.1]
 one h:=by intro c hc;rw[h.1]at hc;simp at hc;subst hc;rfl
 keep h _:=h
 sub h _:=h
def eB8:zZ UInt8 where
 n:=1
 agg:=I
 n1 _:=O
 p _ x cs _:=cs=[.int .u8 (x.toNat:J)]
 len h:=by simp[h]
 one h:=by intro c hc;rw[h]at hc;simp at hc;subst hc;rfl
 keep h _:=h
 sub h _:=h
def DZ:zZ uS where
 n:=1
 agg:=I
 n1 _:=O
 p _ x cs _:=cs=[.bool x]
 len h:=by simp[h]
 one h:=by intro c hc;rw[h]at hc;simp at hc;subst hc;rfl
 keep h _:=h
 sub h _:=h
def YB{α:Type}{e:zZ α}{S:K->Prop}{x:α}{v:jp}{w:jP}(h:(fV e x v).p S w):e.p S x v.cells.toList w:=by obtain⟨cs,rfl,h⟩:=h;rw[e.val_cells h];exact h
def zpO{α:Type}{e:zZ α}{S:K->Prop}{x:α}{cs:N jp}{w:jP}(h:e.p S x cs w):(fV e x<|e.val cs).p S w:=⟨cs,O,h⟩
def znS{x:J}{v:jp}{S:K->Prop}{w:jP}(h:(fV eI x v).p S w):v=.int .i64 x/\ -9223372036854775808<=x/\x<=9223372036854775807:=by obtain⟨cs,rfl,rfl,h⟩:=h;exact⟨O,h⟩
def zpg{x:K}{v:jp}{S:K->Prop}{w:jP}(h:(fV eU x v).p S w):v=.int .u64 (x:J)/\x<18446744073709551616:=by obtain⟨cs,rfl,rfl,h⟩:=h;exact⟨O,h⟩
def rI{x:uS}{v:jp}{S:K->Prop}{w:jP}(h:(fV DZ x v).p S w):v=.bool x:=by obtain⟨cs,rfl,rfl⟩:=h;rfl
def ve{x:J}{S:K->Prop}{w:jP}(h: -9223372036854775808<=x/\x<=9223372036854775807):(fV eI x (.int .i64 x)).p S w:=⟨_,O,O,h⟩
def kz{x:K}{S:K->Prop}{w:jP}(h:x<18446744073709551616):(fV eU x (.int .u64 (x:J))).p S w:=⟨_,O,O,h⟩
def Cd{x:uS}{S:K->Prop}{w:jP}:(fV DZ x (.bool x)).p S w:=⟨_,O,O⟩
def yW{α:Type}(e:zZ α)(S:K->Prop):N α->N jp->jP->Prop
 |[],cs,_=>cs=[]
 |x::xs,cs,w=>∃c r,cs=c++r/\e.p S x c w/\yW e S xs r w
section
variable{α:Type}{e:zZ α}{S S':wP->Prop}{w w':jP}
def yW.len:∀{xs:N α}{cs:N jp},yW e S xs cs w->X cs=X xs*e.n
 |[],_,h=>by simp[show _=[]from h]
 |x::xs,_,⟨c,r,h,hc,a⟩=>by rw[h,xau,e.len hc,yW.len a,xaw,xbl,xdW];simp
def yW.one:∀{xs:N α}{cs:N jp},yW e S xs cs w->∀c∈cs,c.oneCell'=qR
 |[],_,h=>by simp[show _=[]from h]
 |x::xs,_,⟨c,r,h,hc,a⟩=>by
  intro d hd;rw[h]at hd;obtain hd|hd:=xab.1 hd
  exact e.one hc d hd;exact yW.one a d hd
def yW.keep(k:yL S w w'):∀{xs:N α}{cs:N jp},yW e S xs cs w->yW e S xs cs w'
 |[],_,h=>h
 |_::_,_,⟨c,r,h,hc,a⟩=>⟨c,r,h,e.keep hc k,yW.keep k a⟩
def yW.sub(k:∀k,k<w.heap.size->S k->S' k):∀{xs:N α}{cs:N jp},yW e S xs cs w->yW e S' xs cs w
 |[],_,h=>h
 |_::_,_,⟨c,r,h,hc,a⟩=>⟨c,r,h,e.sub hc k,yW.sub k a⟩
def yW.append:∀{xs ys:N α}{cs ds:N jp},yW e S xs cs w->yW e S ys ds w->yW e S (xs++ys) (cs++ds) w
 |[],_,_,_,h,k=>by rw[show _=[]from h];exact k
 |_::_,_,_,_,⟨c,r,h,hc,a⟩,k=>⟨c,r++_,by rw[h,xas],hc,yW.append a k⟩
def yW.drop:∀{xs:N α}{cs:N jp} (k:K),yW e S xs cs w->yW e S (xs.drop k) (cs.drop<|k*e.n) w
 |[],cs,k,h=>by simp[show cs=[]from h];exact O
 |x::xs,cs,0,h=>by simpa using h
 |x::xs,_,k+1,⟨c,r,h,hc,a⟩=>by
  have:=yW.drop k a;rw[List.drop_succ_cons,h,xbl,xcH,xdW,<-List.drop_drop];rwa[xfR<|e.len hc]
def yW.take:∀{xs:N α}{cs:N jp} (k:K),yW e S xs cs w->yW e S (xs.take k) (cs.take<|k*e.n) w
 |[],cs,k,h=>by simp[show cs=[]from h];exact O
 |x::xs,cs,0,h=>by simp;exact O
 |x::xs,_,k+1,⟨c,r,h,hc,a⟩=>by
  refine⟨c,r.take<|k*e.n,?_,hc,yW.take k a⟩;rw[h,xbl,List.take_append,e.len hc,xaY<|by rw[e.len hc];lia];simp_all
def yW.get{xs:N α}{cs:N jp}{i:K}{x:α}(h:yW e S xs cs w)(b:xs[i]? =Z x):
 ∃c,e.p S x c w/\∀j,j<e.n->cs[i*e.n+j]? =c[j]? :=by
 have hd:=h.drop i;obtain⟨hi,rfl⟩:=xaA.1 b;rw[xca hi]at hd;have⟨c,r,h1,a,f⟩:=hd;refine⟨c,a,λj d=> ?_⟩;rw[<-xfh,h1,xbi<|by rw[e.len a];exact d]
def yW.replicate{x:α}{c:N jp}(h:e.p S x c w):∀n,yW e S (So n x) (So n c).flatten w
 |0=>rfl
 |n+1=>⟨c,_,by simp[xea],h,yW.replicate h n⟩
end
def At(w:jP)(b o:K)(cs:N jp):Prop:=b<w.heap.size/\∀j v,cs[j]? =Z v->w.cell? ⟨b,o+j,wW⟩=Z v
def At.keep{S:K->Prop}{w w':jP}{b o:K}{cs:N jp}(h:At w b o cs)(a:S b)(k:yL S w w'):At w' b o cs:=
 ⟨xac h.1 k.size,λj v hv=>by rw[World.cell?_of_block<|k.block b h.1 a];exact h.2 j v hv⟩
def At.drop{w:jP}{b o:K}{cs:N jp}(h:At w b o cs)(k:K):At w b (o+k) (cs.drop k):=
 ⟨h.1,λj v hv=>by rw[xfh]at hv;have:=h.2 _ v hv;rwa[xcQ]⟩
def At.take{w:jP}{b o:K}{cs:N jp}(h:At w b o cs)(k:K):At w b o (cs.take k):=
 ⟨h.1,λj v hv=>h.2 j v<|by rw[xbF]at hv;split at hv<;>simp_all⟩
def At.row{w:jP}{b:K}{cs:Z5 jp}{t:ut}{fr:K×K}(h:w.heap[b]? =Z (.cells cs t fr)):At w b 0 cs.toList:=
 ⟨(xbk.1 h).1,λj v hv=>by rw[cell_of_row w b (0+j) cs t fr h];simpa using hv⟩
def SlP{α:Type}(e:zZ α)(S:K->Prop)(xs:N α)(v:jp)(w:jP):Prop:=
 ∃a cap,v=.slice a (X xs) cap/\X xs<=cap/\cap<=JP/\(xs=[]\/∃b o cs,a=Z ⟨b,o,wW⟩/\S b/\At w b o cs/\yW e S xs cs w)
def eS{α:Type}(e:zZ α):zZ (N α)where
 n:=1
 agg:=I
 n1 _:=O
 p S xs cs w:=∃v,cs=[v]/\SlP e S xs v w
 len:=λ⟨v,h,_⟩=>by simp[h]
 one:=λ⟨v,h,⟨a,cap,hv,_⟩⟩=>by intro c hc;rw[h]at hc;simp at hc;subst hc;rw[hv];rfl
 keep:=λ⟨v,h,⟨a,cap,h1,f,g,i⟩⟩ k=>⟨v,h,a,cap,h1,f,g,i.imp id λ⟨b,o,cs,j,d,a3,a4⟩=>⟨b,o,cs,j,d,a3.keep d k,a4.keep k⟩⟩
 sub:=λ⟨v,h,⟨a,cap,h1,f,g,i⟩⟩ k=>⟨v,h,a,cap,h1,f,g,i.imp id λ⟨b,o,cs,j,d,a3,a4⟩=>⟨b,o,cs,j,k b a3.1 d,a3,a4.sub k⟩⟩
def wi{α:Type}{e:zZ α}{xs:N α}{v:jp}{S:K->Prop}{w:jP}:(fV (eS e) xs v).p S w↔SlP e S xs v w:=
 ⟨λ⟨_,h1,c,a,b⟩=>by subst a;rw[h1];exact b,λh=>⟨[v],O,v,O,h⟩⟩
def eP{α β:Type}(e:zZ α)(f:zZ β):zZ (α×β)where
 n:=e.n+f.n
 agg:=qR
 n1 h:=by cases h
 p S x cs w:=∃c d,cs=c++d/\e.p S x.1 c w/\f.p S x.2 d w
 len:=λ⟨c,d,h,hc,hd⟩=>by rw[h,xau,e.len hc,f.len hd]
 one:=λ⟨c,d,h,hc,hd⟩ x hx=>by
  rw[h]at hx;obtain hx|hx:=xab.1 hx
  exact e.one hc x hx;exact f.one hd x hx
 keep:=λ⟨c,d,h,hc,hd⟩ k=>⟨c,d,h,e.keep hc k,f.keep hd k⟩
 sub:=λ⟨c,d,h,hc,hd⟩ k=>⟨c,d,h,e.sub hc k,f.sub hd k⟩
def eA{α:Type}(k:K)(e:zZ α):zZ (N α)where
 n:=k*e.n
 agg:=qR
 n1 h:=by cases h
 p S xs cs w:=X xs=k/\yW e S xs cs w
 len:=λ⟨h,a⟩=>by rw[a.len,h]
 one:=λ⟨_,a⟩=>a.one
 keep:=λ⟨h,a⟩ k=>⟨h,a.keep k⟩
 sub:=λ⟨h,a⟩ k=>⟨h,a.sub k⟩
abbrev Zr:=uS×N K
abbrev Qr:=Zr×N K
abbrev d7:=N Zr×N Qr
def fP{α:Type}(e:zZ α)(x:α)(v:jp):FF where
 p S w:=∃b o cs,v=.pointer (Z ⟨b,o,wW⟩)/\S b/\At w b o cs/\e.p S x cs w
 keep:=λ⟨b,o,cs,h1,a,c,d⟩ k=>⟨b,o,cs,h1,a,c.keep a k,e.keep d k⟩
 sub:=λ⟨b,o,cs,h1,a,c,d⟩ k=>⟨b,o,cs,h1,k b c.1 a,c,e.sub d k⟩
structure AH(α:Type)where
 p:(K->Prop)->α->N jp->jP->Prop
 keep:∀{S x cs w w'},p S x cs w->yL S w w'->p S x cs w'
 sub:∀{S S':K->Prop}{x cs w},p S x cs w->(∀k,k<w.heap.size->S k->S' k)->p S' x cs w
def zZ.c{α:Type}(e:zZ α):AH α:=⟨e.p,e.keep,e.sub⟩
def zqk{α:Type}(e:zZ α):AH (N α):=⟨yW e,λh k=>h.keep k,λh k=>h.sub k⟩
def mB{α:Type}(e:AH α)(E:ut)(b:K)(x:α):MF where
 blk k:=Z b=Z k
 p S w:=∃cs:Z5 jp,w.heap[b]? =Z (.cells cs E (0,0))/\e.p S x cs.toList w
 keep:=λ⟨cs,h1,a⟩ k hb=>⟨cs,by rw[hb b O];exact h1,e.keep a k⟩
 sub:=λ⟨cs,h1,a⟩ k=>⟨cs,h1,e.sub a k⟩
 lt:=λ⟨cs,h1,_⟩ k c=>by cases c;exact(xbk.1 h1).1
abbrev mR{α:Type}(e:zZ α)(E:ut)(b:K)(xs:N α):MF:=mB (zqk e) E b xs
def mO{α:Type}(e:zZ α)(E:ut)(v:jp)(xs:N α):MF where
 blk k:=v.ownBlock=Z k
 p S w:=∃cs,w.ownsRow 0 E e.n v (X xs) cs/\yW e S xs cs w
 keep:=λ⟨cs,h1,a⟩ k hb=>by
  refine⟨cs,⟨h1.1,?_⟩,a.keep k⟩;obtain h|⟨g,cap,b,hv,c,d,r⟩:=h1.2
  exact .inl h;exact .inr ⟨g,cap,b,hv,c,by rw[hb g<|by rw[hv];rfl];exact d,r⟩
 sub:=λ⟨cs,h1,a⟩ k=>⟨cs,h1,a.sub k⟩
 lt:=λ⟨cs,h1,_⟩ k f=>(h1.lt k f).2
section
variable{α:Type}{e:zZ α}{E:ut}{S S':wP->Prop}{w:jP}
def SlP.of_at{xs:N α}{b o n cap:K}{cs:N jp}(a:S b)(c:At w b o cs)(d:yW e S xs cs w)(hn:n=X xs)(hc:X xs<=cap)(f:cap<=JP):
 SlP e S xs (.slice (Z ⟨b,o,wW⟩) n cap) w:=⟨_,cap,by rw[hn],hc,f,.inr ⟨b,o,cs,O,a,c,d⟩⟩
def SlP.nil:SlP e S [] (.slice wW 0 0) w:=⟨wW,0,O,Nm _,xah _,.inl O⟩
def zog{x:α}{b:K}(a:∀k,S k->S' k)(d:S' b)(h:(mB e.c E b x).p S w):(fP e x (.pointer<|some ⟨b,0,wW⟩)).p S' w:=by have⟨cs,h1,f⟩:=h;exact⟨b,0,cs.toList,O,d,At.row h1,e.sub f λk _=>a k⟩
def pS{xs:N α}{v:jp}(a:∀k,S k->S' k)(b:∀k,v.ownBlock=Z k->S' k)(h:(mO e E v xs).p S w):(fV (eS e) xs v).p S' w:=by
 have⟨cs,h1,c⟩:=h;refine wi.2 ?_;rcases h1.2 with⟨rfl,h0⟩|⟨g,cap,d,rfl,hd,f,i,j,l,hc⟩
 have:xs=[]:=xbq h0;subst this;exact SlP.nil;refine SlP.of_at (b g O) ((At.row f).take<|X xs*e.n) ?_ O i j;rw[hc];exact c.sub λk _=>a k
end
end
section
def uF(P:Z2)(o:Wd)(H:xr)(w:jP)(K:jp->jP->Prop):Prop:=
 match(uT (ev H) o).run P w with
 |.ok (.value v) w'=>K v w'
 |.ok .skip w'=>K XS w'
 |.ok (.enter f args) w'=>bi P f args w' (λe b=>∃v,e=.returned v/\K v b)
 |.ok (.round l f ts a c) w'=>RoundIn xcW 0 P l f ts a c w' (λe b=>∃v,e=.returned v/\K v b)
 |_=>UT
def zn3{ro:V K}{a:uL->jp}{o:Wd}{P:Z2}{w:jP}(h:∀d w',(uT a o).run P w≠ .ok (.defer d) w')(e:∀r w',(uT a o).run P w≠ .halt r w'):(o.semAt ro a).run P w=(uT a o).run P w:=by
 by_cases hd:∃c,o.op=.defer c;have⟨c,hc⟩:=hd;exfalso
 cases b:(uT a o).run P w with
 |halt r w'=>exact e r w' b
 |ok x w'=>
  unfold uT at b;rw[hc]at b;simp only[xay]at b
  cases f:(WR a c o.type).run P w with
  |halt r w1=>rw[f]at b;simp at b
  |ok d w1=>
   refine h d w' ?_;unfold uT;simp_all
 rw[Oper.semAt_eq _ _ _ λc hc=>hd ⟨c,hc⟩]
def uF.wp{P:Z2}{o:Wd}{a:QR}{w:jP}{K:jp->jP->Prop}{j:QR->jP->Prop}{Q:lm->QR->jP->Prop}{N:Nd}
 (h:uF P o (yf a) w K) (b:∀v w',K v w'->j (a.put o.dst v) w'):o.wpIn N.F 0 P a w j Q:=by
 unfold uF at h;refine⟨λ_ _=>ul,?_⟩;have k:=zn3 (ro:=N.rd) (λd w' e=>by rw[e]at h;exact h) (λr w' e=>by rw[e]at h;exact h);rw[KX];rw[k];generalize(uT (ev<|yf a) o).run P w=r at*
 cases r with
 |ok n w'=>
  cases n<;>simp only at h<;>simp only[Oper.uponIn]
  case value v=>exact b _ _ h
  case skip=>exact b _ _ h
  case enter f args=>exact⟨λe=>by simp[xcW]at e,CallsIn.mono (callsIn_wide.2 h) λe g ⟨v,i,hv⟩=>by subst i;exact b _ _ hv⟩
  case round l f ts s c=>exact⟨λe=>by simp[xcW]at e,RoundIn.mono h λe g ⟨v,i,hv⟩=>by subst i;exact b _ _ hv⟩
 |halt x w'=>exact h.elim
def uF.mono{P:Z2}{o:Wd}{H:xr}{w:jP}{K g:jp->jP->Prop}(h:uF P o H w K)(a:∀v w',K v w'->g v w'):uF P o H w g:=by
 unfold uF at*
 generalize(uT (ev H) o).run P w=r at*
 cases r with
 |ok n w'=>
  cases n<;>simp only at h⊢
  case value v=>exact a _ _ h
  case skip=>exact a _ _ h
  case enter f args=>exact h.mono λe b ⟨v,d,hv⟩=>⟨v,d,a _ _ hv⟩
  case round l f ts s c=>exact h.mono λe b ⟨v,d,hv⟩=>⟨v,d,a _ _ hv⟩
 |halt x w'=>exact h.elim
def uF.of_value{P:Z2}{o:Wd}{H:xr}{w w':jP}{v:jp}{K:jp->jP->Prop}(h:(uT (ev H) o).run P w=.ok (.value v) w')(a:K v w'):uF P o H w K:=by unfold uF;rw[h];exact a
def uF.of_skip{P:Z2}{o:Wd}{H:xr}{w w':jP}{K:jp->jP->Prop}(h:(uT (ev H) o).run P w=.ok .skip w')(a:K XS w'):uF P o H w K:=by unfold uF;rw[h];exact a
def gd(a:Z5 Wd)(H:xr)(j:K):V uS:=
 match(a[j]?).bind (·.dst)with
 |some d=>match H d with
  |.bool b=>Z b
  |_=>wW
 |none=>wW
def xb(b:Z5 Wd)(H:xr)(o:Wd):uS:=
 match o.guard with
 |none=>qR
 |some (j,a)=>gd b H j==Z a
theorem zba(b:Z5 Wd)(a:QR)(j:K):yielded b a.tmps j=gd b (yf a) j:=by
 unfold yielded gd yf
 cases(b[j]?).bind (·.dst)with
 |none=>rfl
 |some d=>
  simp only[Option.bind_some,xbw]
  cases a.tmps[d]? with
  |none=>rfl
  |some v=>cases v<;>rfl
def Vc(b:Z5 Wd)(a:QR)(o:Wd):Region.wanted o (yielded b a.tmps)=xb b (yf a) o:=by grind [Region.wanted,xb,zba]
def ke(N:K):V Wn->uS
 |some d=>xde d N
 |none=>qR
def aK{N:K}{d:V Wn}(h:ke N d=qR):∀t,d=Z t->t<N:=by rintro t rfl;simpa[ke]using h
def WpL(P:Z2)(N:Nd)(b:Z5 Wd)(l:wF Wd)(Q:Qs)(H:xr)(w:jP):Prop:=
 ∀a:QR,a.tmps.size=N.n->a.defers=N.ds->yf a=H->V1 N.F 0 P b (zdg N Q) l a w
def TL(P:Z2)(N:Nd)(we:jP)(Se:K->Prop)(ms:wF MF)(Γ:wF FF)(a:Z5 Wd)(l:wF Wd)(Q:Qs)(H:xr):Prop:=
 ∀w,St we Se ms Γ w->WpL P N a l Q H w
def Oz{U:Type}(P:Z2)(o:Wd)(H:xr)(ms:N MF)(Γ:N FF)(a:U->jp)(b:U->N FF)(ok:U->Prop):Prop:=
 ∀w (S:K->Prop),(∀k,w.heap.size<=k->S k)->yV S ms w->zD S Γ w->uF P o H w (λv w'=>∃u,v=a u/\ok u/\b7 w w'/\zD S (b u) w')
section
variable{P:Z2}{N:Nd}{we:jP}{Se:wP->Prop}{ms:wF MF}{Γ:wF FF}{Q:Qs}{H:xr}{ops:Z5 Wd}{o:Wd}{rest:wF Wd}
def VI{id:K}{l:wF Wd}(h:TL P N we Se ms Γ l.toArray l Q H):T P N we Se ms Γ (.region id l.toArray I) Q H:=
 λw b a h1 c d=>eL<|h w b a h1 c d
def AO(h:∀w,St we Se ms Γ w->Q .normal H w):TL P N we Se ms Γ ops [] Q H:=
 λw a _ h1 b c=>iP ⟨h1,b,c▸h w a⟩
def NB{c:Wt}{a:Qs}(h:T P N we Se ms Γ c a H):TL P N we Se ms Γ ops [] (zmN (Wp P N c a) Q) H:=AO h
def ziH(a:wF (K×jp)){l:wF Wd}(h:aB H a)(k:∀rest,TL P N we Se ms Γ ops l Q<|L a rest):TL P N we Se ms Γ ops l Q H:=by have:=k H;rwa[Ud h]at this
def zrW{p:Prop}{l:wF Wd}(hp:∀(S:K->Prop) (w:jP),zD S Γ w->p)(k:p->TL P N we Se ms Γ ops l Q H):TL P N we Se ms Γ ops l Q H:=
 λw a=>let⟨S,_,h⟩:=a.ex;k (hp S w h) w a
def zgF{p:Prop}{c:Wt}(hp:∀(S:K->Prop) (w:jP),zD S Γ w->p)(k:p->T P N we Se ms Γ c Q H):T P N we Se ms Γ c Q H:=
 λw a=>let⟨S,_,h⟩:=a.ex;k (hp S w h) w a
def oQ(b:xb ops H o=qR)(hd:ke N.n o.dst=qR)
 (h:∀w,St we Se ms Γ w->uF P o H w (λv w'=>WpL P N ops rest Q (put H o.dst v) w')):TL P N we Se ms Γ ops (o::rest) Q H:=by
 intro w c a h1 d e;subst e;unfold V1;rw[iq<|by rw[Vc];exact b];refine(h w c).wp λv w' f=> ?_;exact f _ (by rw[aN];exact h1) (by rw[WO];exact d)<|Wz<|by rw[h1];exact aK hd
def znt(b:xb ops H o=I)(hd:ke N.n o.dst=qR)(k:TL P N we Se ms Γ ops rest Q (put H o.dst XS)):TL P N we Se ms Γ ops (o::rest) Q H:=by intro w c a h1 d e;subst e;unfold V1;rw[ir<|by rw[Vc,b];exact Bool.false_ne_true];exact⟨λ_ _=>ul,k w c _ (by rw[aN];exact h1) (by rw[WO];exact d)<|Wz<|by rw[h1];exact aK hd⟩
def zjJ{U:Type}{b:U->jp}{c:U->wF FF}{ok:U->Prop}(f:xb ops H o=qR)(hd:ke N.n o.dst=qR)
 (h:Oz P o H ms Γ b c ok) (k:∀u,ok u->TL P N we Se ms (c u++Γ) ops rest Q (put H o.dst<|b u)):TL P N we Se ms Γ ops (o::rest) Q H:=by
 refine oQ f hd λw g=> ?_;have⟨h1,j,l,S,p,d,q,a,e⟩:=g;refine(h w S d a e).mono ?_;rintro v w' ⟨u,rfl,r,x,s⟩
 exact k u r w' ⟨h1.trans x,j,l,S,p,λk t=>d k<|xao x.size t,q,
  yV.keep x.to (λm y i hi=>x.block i (yV.lt a m y i hi) ul) a,zD.append s<|zD.keep x.to e⟩
def znP{v:jp}(a:xb ops H o=qR)(hd:ke N.n o.dst=qR)(h:∀w,(uT (ev H) o).run P w=.ok (.value v) w)
 (k:TL P N we Se ms Γ ops rest Q (put H o.dst v)):TL P N we Se ms Γ ops (o::rest) Q H:=
 oQ a hd λw b=>uF.of_value (h w)<|k w b
def OG{ι:Type}(P:Z2)(o:Wd)(H:xr)(we:jP)(Se:K->Prop)(ms:wF MF)(Γ:wF FF)(c:ι->jp)(a:ι->wF MF)(b:ι->wF FF)(ok:ι->Prop):Prop:=
 ∀w,St we Se ms Γ w->uF P o H w (λv w'=>∃i,v=c i/\ok i/\St we Se (a i) (b i) w')
def zl1{ι:Type}{c:ι->jp}{a:ι->wF MF}{b:ι->wF FF}{ok:ι->Prop}(d:xb ops H o=qR)(hd:ke N.n o.dst=qR)(h:OG P o H we Se ms Γ c a b ok)
 (k:∀i,ok i->TL P N we Se (a i) (b i) ops rest Q (put H o.dst<|c i)):TL P N we Se ms Γ ops (o::rest) Q H:=
 oQ d hd λw f=>(h w f).mono λv w' ⟨i,e,hi,g⟩=>e▸k i hi w' g
def SH{U:Type}{b:U->jp}{c:U->wF FF}{ok:U->Prop}(h:Oz P o H ms Γ b c ok):OG P o H we Se ms Γ b (λ_=>ms) (λu=>c u++Γ) ok:=by
 intro w ⟨h1,g,j,S,l,d,n,a,f⟩;refine(h w S d a f).mono ?_;rintro v w' ⟨u,e,p,x,q⟩
 exact⟨u,e,p,h1.trans x,g,j,S,l,λk r=>d k<|xao x.size r,n,
  yV.keep x.to (λm s i hi=>x.block i (yV.lt a m s i hi) ul) a,zD.append q<|zD.keep x.to f⟩
end
def pv(o:Wd)(H:xr):V jp:=
 match o.op with
 |.move x|.assign x=>Z<|ev H x
 |.extract t i=>match ev H t with
  |.tuple vs=>vs[i]?
  |_=>wW
 |.pick c a b=>match ev H c with
  |.bool t=>Z<|bif t then ev H a else ev H b
  |_=>wW
 |.unOp .not _ x=>match ev H x with
  |.bool t=>Z (.bool !t)
  |_=>wW
 |.makeFunc f first d=>Z (.func f (first.map<|ev H)<|d.map<|ev H)
 |_=>wW
def gK{P:Z2}{o:Wd}{H:xr}{v:jp}(h:pv o H=Z v)(w:jP):(uT (ev H) o).run P w=.ok (.value v) w:=by
 unfold pv at h;unfold uT;split at h;simp_all;simp_all;rename_i t i e;simp only[e];split at h
 next vs hv=>simp[hv,Instr.extract,h]
 cases h
 rename_i c a b e;simp only[e];split at h
 next t ht=>cases h;cases t<;>simp[ht,asBool]
 cases h
 rename_i ty x e;simp only[e];split at h
 next t ht=>cases h;simp[ht,Op.unary]
 cases h
 next f a b e=>cases h;simp[e,Instr.makeFunc]
 cases h
def Ib(N:K)(a:Z5 Wd):wF Wd->xr->V xr
 |[],H=>Z H
 |o::r,H=>bif ke N o.dst then(bif xb a H o then(match pv o H with
  |some v=>Ib N a r<|put H o.dst v
  |none=>wW)else(match o.guard with
  |some (j,b)=>bif gd a H j==Z (!b)then Ib N a r (put H o.dst XS)else wW
  |none=>wW))else wW
section
variable{P:Z2}{N:Nd}{we:jP}{Se:wP->Prop}{ms:wF MF}{Γ:wF FF}{Q:Qs}{ops:Z5 Wd}
def og:∀(l:wF Wd) (l':wF Wd) (H b:xr),Ib N.n ops l H=Z b->TL P N we Se ms Γ ops l' Q b->TL P N we Se ms Γ ops (l++l') Q H
 |[],_,H,b,h,k=>by cases h;exact k
 |o::r,l',H,b,h,k=>by
  unfold Ib at h;cases hd:ke N.n o.dst
  simp_all;rw[hd]at h;cases c:xb ops H o
  rw[c]at h;simp only[WD]at h;split at h;rename_i j a e;cases d:(gd ops H j==Z (!a))
  simp_all;rw[d]at h;exact znt c hd<|og r l' _ _ h k;cases h
  rw[c]at h
  cases hp:pv o H with
  |none=>rw[hp]at h;cases h
  |some v=>rw[hp]at h;exact znP c hd (λw=>gK hp w)<|og r l' _ _ h k
def chk(H:V xr)(a:wF (K×jp)):Prop:=match H with
 |some H=>aB H a
 |none=>UT
def HH(n:K)(a:wF (K×jp)){l:wF Wd}{H:xr}(h:chk (Ib N.n ops (l.take n) H) a)(k:∀rest,TL P N we Se ms Γ ops (l.drop n) Q<|L a rest):TL P N we Se ms Γ ops l Q H:=by
 rw[<-xbK n l]
 cases hp:Ib N.n ops (l.take n) H with
 |none=>rw[hp]at h;exact h.elim
 |some b=>
  rw[hp]at h;refine og _ _ _ _ hp ?_;exact ziH a h k
end
structure JN(P:Z2)(t:ut)(agg:uS)(size bytes:K)(zero:jp):Prop where
 und:∃d,P.underlying t=Z d/\(match d with|.struct _|.array _ _=>qR|_=>I)=agg
 info:∃i,P.info? t=Z i/\i.size=size/\i.bytes=bytes/\i.zero=Z zero
def tyB(P:Z2)(t:ut):V (uS×K×K×V jp):=
 match P.underlying t,P.info? t with
 |some d,Z i=>Z ((match d with|.struct _|.array _ _=>qR|_=>I),i.size,i.bytes,i.zero)
 |_,_=>wW
def JN.of{P:Z2}{t:ut}{agg:uS}{size bytes:K}{a:jp}(h:tyB P t=Z (agg,size,bytes,Z a)):JN P t agg size bytes a:=by unfold tyB at h;split at h;rename_i d i hd hi;simp only[xav,xcR]at h;exact⟨⟨d,hd,h.1⟩,i,hi,h.2.1,h.2.2.1,h.2.2.2⟩;cases h
def jy(b o j:K):(⟨b,o,wW⟩:aC).add j=⟨b,o+j,wW⟩:=by unfold Addr.add;split<;>simp_all
def IG{P:Z2}{t:ut}{agg:uS}{size bytes:K}{a:jp}(ht:JN P t agg size bytes a)(w:jP):(isAgg t).run P w=.ok agg w:=by have⟨⟨d,hd,b⟩,_⟩:=ht;unfold isAgg;simp only[xay,Z3 hd];cases d<;>simp_all
def wE{P:Z2}{t:ut}{agg:uS}{size bytes:K}{a:jp}(ht:JN P t agg size bytes a)(w:jP):(Jp t).run P w=.ok size w:=by have⟨_,i,hi,h1,_⟩:=ht;simp[Jp,KW,hi,h1]
def uQ{P:Z2}{t:ut}{agg:uS}{size bytes:K}{a:jp}(ht:JN P t agg size bytes a)(w:jP):(fD t).run P w=.ok a w:=by have⟨_,i,hi,_,_,h1⟩:=ht;simp[fD,KW,hi,h1]
def MO{P:Z2}{α:Type}{e:zZ α}{t:ut}{bytes:K}{a:jp}(ht:JN P t e.agg e.n bytes a){w w0:jP}{b o:K}{cs:N jp}{S:K->Prop}{x:α}
 (hp:e.p S x cs w0) (d:At w b o cs):(oK t ⟨b,o,wW⟩).run P w=.ok (e.val cs) w:=by
 unfold oK;rw[xay,IG ht];cases hd:e.agg
 have hl:=e.len hp;rw[e.n1 hd]at hl;obtain⟨c,rfl⟩:=xcF.1 hl;have:=d.2 0 c O;simp only[xbV]at this;simp[this,zZ.val,hd];have hl:=e.len hp;have hc:=bI (P:=P) w ⟨b,o,wW⟩ cs (λj v hv=>by rw[jy];exact d.2 j v hv);rw[hl]at hc;simp[wE ht,hc,zZ.val,hd]
def fU{P:Z2}{α:Type}{e:zZ α}{t:ut}{bytes:K}{a:jp}(ht:JN P t e.agg e.n bytes a){w:jP}{b o:K}{cs:N jp}{S:K->Prop}{x:α}
 (hp:e.p S x cs w) (c:At w b o cs):(oK t ⟨b,o,wW⟩).run P w=.ok (e.val cs) w:=MO ht hp c
section
variable{P:Z2}{H:xr}{ms:wF MF}{Γ:wF FF}{d:wS Wn}{ty:ut}{wl:String}{wn:Z5 Edge}{g:wS (wP×uS)}
def znC{α:Type}{e:zZ α}{xs:N α}{v:jp}{x:uL}{at_ b:ut}(c:P.underlying at_=Z (.slice b))(f:ev H x=v)(h:∀(S:K->Prop) (w:jP),zD S Γ w->(fV (eS e) xs v).p S w):
 Oz P ⟨d,.call ⟨.builtin .len,#[x],#[at_]⟩,ty,wl,wn,g⟩ H ms Γ (λ_:Wl=> .int .i64 (X xs:J)) (λ_=>[]) (λ_=>X xs<=9223372036854775807):=by
 intro w S _ _ a;have⟨j,cap,hv,hc,i,_⟩:=wi.1<|h S w a;refine uF.of_value ?_ ⟨(),O,xao hc i,yL.refl _ _,ul⟩;simp[uT,WR,V3,am,f,hv,Builtin.len_,pU,Z3 c]
def Py{α:Type}{e:zZ α}{t c:ut}{bytes:K}{a:jp}(ht:P.underlying t=Z (.slice c))(f:JN P c e.agg e.n bytes a){w:jP}{b o n cap k:K}
 (h:k<n) (ik:Wr):(Instr.indexAt t (.slice (Z ⟨b,o,wW⟩) n cap) (.int ik (k:J))).run P w=.ok (.pointer<|some ⟨b,o+k*e.n,wW⟩) w:=by
 unfold Instr.indexAt;have:(0:J)<=k/\(k:J)<n:=W
 simp only[UL,Z3 ht,xay,xaX,xaq,iq this,wE f,jy,xbb]
theorem zhg{α:Type}{e:zZ α}{xs:N α}{v:jp}{x i:uL}{t h:ut}{bytes:K}{a:jp}{k:K}{y:α}{ik:Wr}(q:ev H x=v)(hi:ev H i=.int ik (k:J))
 (ht:P.underlying t=Z (.slice h)) (hd:JN P h e.agg e.n bytes a) (l:xs[k]? =Z y) (r:∀(S:K->Prop) (w:jP),zD S Γ w->(fV (eS e) xs v).p S w):
 Oz P ⟨d,.indexAddr t x i,ty,wl,wn,g⟩ H ms Γ (λp:jp=>p) (λp=>[fP e y p]) (λ_=>Ws):=by
 intro w S _ _ f;have⟨D,cap,hv,h1,E,s⟩:=wi.1<|r S w f;have u:=(xaA.1 l).1;obtain rfl|⟨b,o,cs,rfl,z,m,A⟩:=s
 grind;refine uF.of_value (v:=.pointer<|some ⟨b,o+k*e.n,wW⟩) ?_ ⟨_,O,ul,yL.refl _ _,⟨⟨b,o+k*e.n,?_⟩,ul⟩⟩;simp[uT,q,hi,hv,Py ht hd u];have⟨c,hc,B⟩:=A.get l;refine⟨c,O,z,⟨m.1,λj v hv=> ?_⟩,hc⟩;have C:j<e.n:=by rw[<-e.len hc];exact(xaA.1 hv).1
 rw[xcQ];exact m.2 _ v<|by rw[B j C];exact hv
def zjQ{α:Type}{e:zZ α}{y:α}{p:jp}{x:uL}{t:ut}{bytes:K}{a:jp}(h:ev H x=p)(ht:JN P t e.agg e.n bytes a)
 (i:∀(S:K->Prop) (w:jP),zD S Γ w->(fP e y p).p S w):
 Oz P ⟨d,.load t x,ty,wl,wn,g⟩ H ms Γ (λv:jp=>v) (λv=>[fV e y v]) (λ_=>Ws):=by
 intro w S _ _ c;obtain⟨b,o,cs,rfl,k,j,f⟩:=i S w c;refine uF.of_value ?_ ⟨_,O,ul,yL.refl _ _,⟨⟨cs,O,f⟩,ul⟩⟩;simp[uT,h,Instr.loadAt,xfA,fU ht f j]
def Ry{α:Type}{e:zZ α}{xs:N α}{v:jp}{x:uL}{lo hi:V uL}{t j:ut}{bytes:K}{a:jp}{l h:K}(k:ev H x=v)
 (ht:P.underlying t=Z (.slice j)) (m:JN P j e.agg e.n bytes a) (hl:(lo.map<|ev H)=Z (.int .i64 (l:J))\/(lo=wW/\l=0)) (c:(hi.map<|ev H)=Z (.int .i64 (h:J))\/(hi=wW/\h=X xs))
 (A:l<=h) (B:h<=X xs) (q:∀(S:K->Prop) (w:jP),zD S Γ w->(fV (eS e) xs v).p S w):
 Oz P ⟨d,.slice t x lo hi wW,ty,wl,wn,g⟩ H ms Γ (λp:jp=>p) (λp=>[fV (eS e) ((xs.drop l).take<|h-l) p]) (λ_=>Ws):=by
 intro w S _ _ i;have⟨f,cap,hv,h1,C,r⟩:=wi.1<|q S w i;have b1:(0:J)<=(l:J)/\(l:J)<=(h:J):=W
 have b2:(0:J)<=(h:J)/\(h:J)<=(cap:J):=W
 have s:(xcZ t v (lo.map<|ev H) (hi.map<|ev H) wW).run P w=.ok (.slice (if cap=l then f else f.map (·.add (l*e.n))) (h-l)<|cap-l) w:=by
  unfold xcZ;rw[hv];simp only[xay,Z3 ht,xaq];unfold xfS;simp only[xay,Z3 ht,xaq];unfold xeA
  obtain hl|⟨hl,rfl⟩:=hl<;>obtain c|⟨c,rfl⟩:=c<;>
   simp only[hl,c,xeL,UL,Option.map_none,xay,xaX,xaq,iq b1,iq b2,wE m,xbb]
 refine uF.of_value (w':=w) (v:=.slice (if cap=l then f else f.map (·.add (l*e.n))) (h-l)<|cap-l) ?_ ⟨_,O,ul,yL.refl _ _,⟨?_,ul⟩⟩;simp[uT,k,s];have hd:X ((xs.drop l).take<|h-l)=h-l:=by simp;lia
 refine wi.2 ⟨_,cap-l,by rw[hd],by rw[hd];lia,W,?_⟩;obtain rfl|⟨b,o,cs,rfl,u,y,z⟩:=r
 left;simp;by_cases hc:cap=l;left;have:h-l=0:=W
 simp[this];right;refine⟨b,o+l*e.n,(cs.drop<|l*e.n).take<|(h-l)*e.n,by simp[hc,jy],u,(y.drop _).take _,(z.drop l).take<|h-l⟩
end
end
section
section
variable{P:Z2}{H:xr}{Γ:wF FF}{d:wS Wn}{ty yt t:ut}{wl:String}{wn:Z5 Edge}{g:wS (wP×uS)}{x y:uL}
def w64{x:J}(h: -9223372036854775808<=x/\x<=9223372036854775807):xdf.wrap x=x:=IntWalk.i64_in x h
def zsV(n:K):xcv.wrap (n:J)=((n%18446744073709551616:K):J):=by rfl
theorem sW{n:K}(h:n<18446744073709551616):xcv.wrap (n:J)=(n:J):=by rw[zsV,xap h]
def EC(x:J):xcv.wrap x=x%18446744073709551616:=by rfl
def Bo{c:Us}{k:Wr}{a b:J}{v:jp}(e:ev H x=.int k a)(f:ev H y=.int k b)(hv:∀w,(Ul c t (.int k a) (.int k b)).run P w=.ok v w)(w:jP):
 (uT (ev H) ⟨d,.binOp c t x y yt,ty,wl,wn,g⟩).run P w=.ok (.value v) w:=by
 have:(V9 c t x y (.int k a) (.int k b)).run P w=.ok () w:=by unfold V9;simp_all
 simp only[uT,e,f,xay,this,xaq,hv,xaX]
def zeP{k:Wr}{a b c:J}(e:ev H x=.int k a)(f:ev H y=.int k b)(hc:k.wrap (a+b)=c)(w:jP):
 (uT (ev H) ⟨d,.binOp .add t x y yt,ty,wl,wn,g⟩).run P w=.ok (.value (.int k c)) w:=
 Bo e f (λw=>by simp[Ul,Op.intArith,hc]) w
def zhP{k:Wr}{a b c:J}(e:ev H x=.int k a)(f:ev H y=.int k b)(hc:k.wrap (a-b)=c)(w:jP):
 (uT (ev H) ⟨d,.binOp .sub t x y yt,ty,wl,wn,g⟩).run P w=.ok (.value (.int k c)) w:=
 Bo e f (λw=>by simp[Ul,Op.intArith,hc]) w
def zmi{k:Wr}{a b c:J}(e:ev H x=.int k a)(f:ev H y=.int k b)(hc:k.wrap (a*b)=c)(w:jP):
 (uT (ev H) ⟨d,.binOp .mul t x y yt,ty,wl,wn,g⟩).run P w=.ok (.value (.int k c)) w:=
 Bo e f (λw=>by simp[Ul,Op.intArith,hc]) w
def zl3{k:Wr}{a b c:J}(e:ev H x=.int k a)(f:ev H y=.int k b)(h0:b≠0)(hc:k.wrap (a.tdiv b)=c)(w:jP):
 (uT (ev H) ⟨d,.binOp .quo t x y yt,ty,wl,wn,g⟩).run P w=.ok (.value (.int k c)) w:=
 Bo e f (λw=>by simp[Ul,Op.intDiv,h0,hc]) w
def zmL{k:Wr}{a b c:J}(e:ev H x=.int k a)(f:ev H y=.int k b)(h0:b≠0)(hc:a.tmod b=c)(w:jP):
 (uT (ev H) ⟨d,.binOp .rem t x y yt,ty,wl,wn,g⟩).run P w=.ok (.value (.int k c)) w:=
 Bo e f (λw=>by simp[Ul,Op.intDiv,h0,hc]) w
def zcO{k e:Wr}{a b c:J}(f:ev H x=.int k a)(h:ev H y=.int e b)(h0:0<=b)(hc:a.fdiv (2^(min b.toNat k.bits))=c)(w:jP):
 (uT (ev H) ⟨d,.binOp .shr t x y yt,ty,wl,wn,g⟩).run P w=.ok (.value (.int k c)) w:=by
 have:¬b<0:=W
 simp[uT,f,h,V9,Ul,Op.shift,this,hc]
def zcl{k e:Wr}{a b c:J}(f:ev H x=.int k a)(h:ev H y=.int e b)(h0:0<=b)(hc:k.wrap (a*2^(min b.toNat k.bits))=c)(w:jP):
 (uT (ev H) ⟨d,.binOp .shl t x y yt,ty,wl,wn,g⟩).run P w=.ok (.value (.int k c)) w:=by
 have:¬b<0:=W
 simp[uT,f,h,V9,Ul,Op.shift,this,hc]
def zmq{k:Wr}{a b c:J}(e:ev H x=.int k a)(f:ev H y=.int k b)(hc:k.wrap (((a%2^k.bits).toNat &&& (b%2^k.bits).toNat:K):J)=c)(w:jP):
 (uT (ev H) ⟨d,.binOp .and t x y yt,ty,wl,wn,g⟩).run P w=.ok (.value (.int k c)) w:=
 Bo e f (λw=>by simp[Ul,Op.intBits,hc]) w
def zqI{k:Wr}{a b c:J}(e:ev H x=.int k a)(f:ev H y=.int k b)(hc:k.wrap (((a%2^k.bits).toNat|||(b%2^k.bits).toNat:K):J)=c)(w:jP):
 (uT (ev H) ⟨d,.binOp .or t x y yt,ty,wl,wn,g⟩).run P w=.ok (.value (.int k c)) w:=
 Bo e f (λw=>by simp[Ul,Op.intBits,hc]) w
def zlZ{k:Wr}{a c:J}(b:ev H x=.int k a)(hc:k.wrap (0-a)=c)(w:jP):
 (uT (ev H) ⟨d,.unOp .neg t x,ty,wl,wn,g⟩).run P w=.ok (.value (.int k c)) w:=by
 simp only[uT,b,Op.unary,Op.intArith,hc,xay,xaX,xaq]
def eh{k k':Wr}{src b:ut}{e:TypeDesc}{a c:J}(f:P.underlying src=Z e)(hd:P.underlying b=Z (.int k'))(h:ev H x=.int k a)(hc:k'.wrap a=c)(w:jP):
 (uT (ev H) ⟨d,.convert src b x,ty,wl,wn,g⟩).run P w=.ok (.value (.int k' c)) w:=by
 simp[uT,h,convert,Z3 f,Z3 hd,Conv.intToInt,hc]
def zqf{a b:J}{ts:Z5 ut}(c:ev H x=.int .i64 a)(f:ev H y=.int .i64 b)(w:jP):
 (uT (ev H) ⟨d,.call ⟨.builtin .max,#[x,y],ts⟩,ty,wl,wn,g⟩).run P w=.ok (.value (.int .i64<|max a b)) w:=by
 have e:(if b>a then b else a)=max a b:=W
 simp only[uT,WR,V3,am,xej,xbT,xdX,c,f,Builtin.max_,Builtin.max2,xay,xaX,xaq,List.foldlM_cons,List.foldlM_nil,e]
def zqO{a b:J}{ts:Z5 ut}(c:ev H x=.int .i64 a)(f:ev H y=.int .i64 b)(w:jP):
 (uT (ev H) ⟨d,.call ⟨.builtin .min,#[x,y],ts⟩,ty,wl,wn,g⟩).run P w=.ok (.value (.int .i64<|min a b)) w:=by
 have e:(if b<a then b else a)=min a b:=W
 simp only[uT,WR,V3,am,xej,xbT,xdX,c,f,Builtin.min_,Builtin.min2,xay,xaX,xaq,List.foldlM_cons,List.foldlM_nil,e]
end
end
section
def Ta{α:Type}(l:N α){n:K}(h:X l<=n):l.drop n=[]:=xbU h
section
variable{P:Z2}{N:Nd}{we:jP}{Se:wP->Prop}{ms:wF MF}{Γ:wF FF}{Q:Qs}{H:xr}{ops:Z5 Wd}{rest:wF Wd}
 {d:wS Wn}{ty yt t:ut}{wl:String}{wn:Z5 Edge}{g:wS (wP×uS)}{x y:uL}
def H0{e:Us}{k:Wr}{a b:J}{c:uS}(f:ev H x=.int k a)(h:ev H y=.int k b)
 (hc:∀w,(Ul e t (.int k a) (.int k b)).run P w=.ok (.bool c) w) (w:jP):(uT (ev H) ⟨d,.binOp e t x y yt,ty,wl,wn,g⟩).run P w=.ok (.value (.bool c)) w:=Bo f h hc w
def zfT{k:Wr}{a b:J}(c:ev H x=.int k a)(e:ev H y=.int k b)(w:jP):(uT (ev H) ⟨d,.binOp .lss t x y yt,ty,wl,wn,g⟩).run P w=.ok (.value (.bool<|decide<|a<b)) w:=
 H0 c e (λw=>by simp[Ul,Op.intCmp]) w
def zfc{k:Wr}{a b:J}(c:ev H x=.int k a)(e:ev H y=.int k b)(w:jP):(uT (ev H) ⟨d,.binOp .leq t x y yt,ty,wl,wn,g⟩).run P w=.ok (.value (.bool<|decide<|a<=b)) w:=
 H0 c e (λw=>by simp[Ul,Op.intCmp]) w
def zgp{k:Wr}{a b:J}(c:ev H x=.int k a)(e:ev H y=.int k b)(w:jP):(uT (ev H) ⟨d,.binOp .gtr t x y yt,ty,wl,wn,g⟩).run P w=.ok (.value (.bool<|decide<|b<a)) w:=
 H0 c e (λw=>by simp[Ul,Op.intCmp]) w
def zfz{k:Wr}{a b:J}(c:ev H x=.int k a)(e:ev H y=.int k b)(w:jP):(uT (ev H) ⟨d,.binOp .geq t x y yt,ty,wl,wn,g⟩).run P w=.ok (.value (.bool<|decide<|b<=a)) w:=
 H0 c e (λw=>by simp[Ul,Op.intCmp]) w
def zf5{k:Wr}{a b:J}(c:ev H x=.int k a)(e:ev H y=.int k b)(w:jP):(uT (ev H) ⟨d,.binOp .eql t x y yt,ty,wl,wn,g⟩).run P w=.ok (.value (.bool<|decide<|a=b)) w:=
 H0 c e (λw=>by simp[Ul,Op.intCmp];by_cases h:a=b<;>simp[h]) w
def zjb{k:Wr}{a b:J}(c:ev H x=.int k a)(e:ev H y=.int k b)(w:jP):(uT (ev H) ⟨d,.binOp .neq t x y yt,ty,wl,wn,g⟩).run P w=.ok (.value (.bool (!decide (a=b)))) w:=
 H0 c e (λw=>by simp[Ul,Op.intCmp];by_cases h:a=b<;>simp[h]) w
def eH{a b:uS}(ht:P.underlying t=Z .bool)(w:jP):(Op.equal t (.bool a) (.bool b)).run P w=.ok (a==b) w:=by show(Op.equalIn (9999+1) t (.bool a) (.bool b)).run P w=_;unfold Op.equalIn;simp only[xay,Z3 ht,xaq,xaX]
def zqS{a b:uS}(ht:P.underlying t=Z .bool)(c:ev H x=.bool a)(e:ev H y=.bool b)(w:jP):
 (uT (ev H) ⟨d,.binOp .eql t x y yt,ty,wl,wn,g⟩).run P w=.ok (.value (.bool<|a==b)) w:=by
 have h:(V9 .eql t x y (.bool a) (.bool b)).run P w=.ok () w:=by simp[V9]
 have f:(Ul .eql t (.bool a) (.bool b)).run P w=.ok (.bool<|a==b) w:=by simp only[Ul,xay,eH ht,xaq,xaX]
 simp only[uT,c,e,xay,h,f,xaq,xaX]
def zqg{a b:uS}(ht:P.underlying t=Z .bool)(c:ev H x=.bool a)(e:ev H y=.bool b)(w:jP):
 (uT (ev H) ⟨d,.binOp .neq t x y yt,ty,wl,wn,g⟩).run P w=.ok (.value (.bool (!(a==b)))) w:=by
 have h:(V9 .neq t x y (.bool a) (.bool b)).run P w=.ok () w:=by simp[V9]
 have f:(Ul .neq t (.bool a) (.bool b)).run P w=.ok (.bool (!(a==b))) w:=by simp only[Ul,xay,eH ht,xaq,xaX]
 simp only[uT,c,e,xay,h,f,xaq,xaX]
def Ae(P:Z2)(f:Wf):uS:=match P.funcs[f]? with
 |some fn=> !(fn.name== "runtime.NumGoroutine") && fn.body.isSome
 |none=>I
def qw{f:Wf}(h:Ae P f=qR)(args:Z5 jp)(w:jP):(rC f args).run P w=.ok (.enter f args) w:=by
 unfold Ae at h;unfold rC;split at h;rename_i fn a;simp only[xae,xcS]at h;have b:fn.body.isNone=I:=by simpa using h.2
 simp only[xay,run_program,xaq,a,h.1,b,xam,Z9,xaX];cases h
def zrT{U:Type}{b:U->jp}{h:U->wF FF}{ok:U->Prop}{a:wF FF}{f:Wf}{asv:wF uL}{ts:Z5 ut}{args:wF jp}(i:Ae P f=qR)
 (j:Fn P f args.toArray a b h ok) (k:asv.map (ev H)=args) (l:∀(S:K->Prop) (w:jP),zD S Γ w->zD S a w):
 Oz P ⟨d,.call ⟨.value (.func f),asv.toArray,ts⟩,ty,wl,wn,g⟩ H ms Γ b h ok:=by
 intro w S m _ c;unfold uF;have:(uT (ev H) ⟨d,.call ⟨.value (.func f),asv.toArray,ts⟩,ty,wl,wn,g⟩).run P w=.ok (.enter f args.toArray) w:=by simp[uT,WR,ev,xda,V3,qw i,k]
 rw[this];exact(j w S m<|l S w c).mono λe w' ⟨u,n,o,p,hc⟩=>⟨b u,n,u,O,o,p,hc⟩
def ox{U:Type}{b:U->jp}{i:U->wF FF}{ok:U->Prop}{a:wF FF}{f:Wf}{asv:wF uL}{ts:Z5 ut}{args cG:wF jp}{x:uL}(j:Ae P f=qR)
 (c:ev H x=.func (.func f) #[] cG.toArray) (k:Fn P f (args++cG).toArray a b i ok) (l:asv.map (ev H)=args) (m:∀(S:K->Prop) (w:jP),zD S Γ w->zD S a w):
 Oz P ⟨d,.call ⟨.value x,asv.toArray,ts⟩,ty,wl,wn,g⟩ H ms Γ b i ok:=by
 intro w S n _ h;unfold uF;have:(uT (ev H) ⟨d,.call ⟨.value x,asv.toArray,ts⟩,ty,wl,wn,g⟩).run P w=.ok (.enter f (args++cG).toArray) w:=by simp[uT,WR,c,xda,V3,qw j,l]
 rw[this];exact(k w S n<|m S w h).mono λe w' ⟨u,o,p,c,hc⟩=>⟨b u,o,u,O,p,c,hc⟩
def tW(off:K):∀(c:wF jp) (k:K) (a:Z5 jp),off+k+X c<=a.size->
 ((c.zipIdx k).foldl (λcs (x:jp×K)=>cs.setIfInBounds (off+x.2) x.1) a).toList=a.toList.take (off+k)++c++a.toList.drop (off+k+X c)
 |[],k,a,h=>by simp
 |v::c,k,a,h=>by
  simp only[xaw]at h;rw[List.zipIdx_cons,List.foldl_cons];have:=tW off c (k+1) (a.setIfInBounds (off+k) v) (by simp;lia);rw[this];simp only[Array.toList_setIfInBounds,xaw];have b:off+k<X a.toList:=by simp;lia
  rw[(W:off+(k+1)=off+k+1),xek,iq b];have e1:X (a.toList.take<|off+k)=off+k:=by simp;lia
  rw[List.take_append,List.drop_append,e1];simp only[(W:off+k+1-(off+k)=1),xeH,List.take_zero,(W:off+k+1+X c-(off+k)=X c+1),List.drop_succ_cons];rw[xaY (by rw[e1];lia),Ta (xdH (off+k) a.toList) (by rw[e1];lia),List.drop_drop];simp only[xbO,xas,xbP,xbO];congr 3;congr 1;lia
def jS(parts:wF (K×jp)):wF jp:=parts.flatMap λx=>x.2.cells.toList
def cn(a:K->V (K×K)):wF (K×jp)->K->Prop
 |[],_=>Ws
 |(i,v)::r,off=>a i=Z (off,v.cells.size)/\cn a r (off+v.cells.size)
def oO{c:K->V (K×K)}:∀(parts:wF (K×jp)) (b z:wF jp),cn c parts (X b)->X (jS parts)<=X z->
 xdM c (b++z).toArray parts=Z (b++jS parts++z.drop (X (jS parts))).toArray
 |[],b,z,_,_=>by simp[xdM,jS]
 |(i,v)::r,b,z,⟨h1,e⟩,hl=>by
  simp only[jS,List.flatMap_cons,xau,xfc]at hl;have f:¬(X b+v.cells.size>(b++z).toArray.size):=by simp;lia
  have h:v.cells.zipIdx.foldl (λcs (x:jp×K)=>cs.setIfInBounds (X b+x.2) x.1) (b++z).toArray=((b++v.cells.toList)++z.drop v.cells.size).toArray:=by apply Array.ext';rw[<-Array.foldl_toList,Array.toList_zipIdx,tW (X b) v.cells.toList 0 _<|by simp;lia];simp
  unfold xdM;simp only[h1];rw[ir<|by simp only[ne_eq,lC,decide_false,xeI,US];exact f];have:=oO r (b++v.cells.toList) (z.drop v.cells.size) (by simpa using e) (by simp[jS]at*;lia);refine(Z4 (λa=>xdM c a r) h).trans<|this.trans ?_;simp[jS]
def zd5(i:K)(v:jp)(r:wF (K×jp)):jS ((i,v)::r)=v.cells.toList++jS r:=by simp[jS]
def Rp{α:Type}{e:zZ α}{z:α}{bytes:K}{a:jp}{parts:wF (K×uL)}{vs:wF (K×jp)}(ht:JN P t qR e.n bytes a)(r:e.agg=qR)(s:a.cells.size=e.n)
 (hv:parts.map (λx=>(x.1,ev H x.2))=vs)
 (hc:(∃fs,P.underlying t=Z (.struct fs)/\∃pl:Z5 (K×K),(∀w,(fs.mapM (λf=>do pure (f.offset,<-Jp f.type)):Sem (Z5<|K×K)).run P w=.ok pl w)/\(∀(S:K->Prop) (w:jP),zD S Γ w->cn (pl[·]?) vs 0))\/
  (∃k l n b2 z2 j,P.underlying t=Z (.array k l)/\JN P l j n b2 z2/\(∀(S:K->Prop) (w:jP),zD S Γ w->cn (λi=>Z (i*n,n)) vs 0)))
 (hp:∀(S:K->Prop) (w:jP),zD S Γ w->e.p S z (jS vs) w):
 Oz P ⟨d,.build t parts.toArray,ty,wl,wn,g⟩ H ms Γ (λv:jp=>v) (λv=>[fV e z v]) (λ_=>Ws):=by
 intro w S _ _ c;have o:=hp S w c;have hl:=e.len o;have u:X a.cells.toList=e.n:=by simpa using s
 refine uF.of_value (w':=w) (v:=.agg (jS vs).toArray) ?_ ⟨_,O,ul,yL.refl _ _,⟨⟨jS vs,by simp[zZ.val,r],o⟩,ul⟩⟩;have q:∀b,cn b vs 0->xdM b a.cells vs=Z (jS vs).toArray:=by intro b h;have:=oO vs [] a.cells.toList h (by rw[hl,u];exact Nm _);simp_all
 have hi:parts.toArray.map (λx=>(x.1,ev H x.2))=vs.toArray:=by rw[<-hv];simp
 simp only[uT,xay];have A:(Instr.build t<|parts.toArray.map λx=>(x.1,ev H x.2)).run P w=.ok (.agg (jS vs).toArray) w:=by
  rw[hi];unfold Instr.build;rcases hc with⟨fs,m,pl,hc,hd⟩|⟨k,l,n,b2,z2,j,m,B,hd⟩
  simp only[xay,uQ ht,xaq,Z3 m,hc,q _<|hd S w c,xaX];simp only[xay,uQ ht,xaq,Z3 m,wE B,q _<|hd S w c,xaX]
 rw[A];rfl
def zbT{α:Type}{e:zZ α}{y:α}{v:jp}{S:K->Prop}{w:jP}(h:(fV e y v).p S w):v.cells.size=e.n:=by have:=e.len<|YB h;simpa using this
def Ga{α:Type}{e:zZ α}{c:ut}{zs:wF α}{len bytes:K}{a:jp}{parts:wF (K×uL)}{vs:wF (K×jp)}(ht:P.underlying t=Z (.slice c))(j:JN P c e.agg e.n bytes a)
 (hn:0<e.n) (hd:X zs=len) (s:len*e.n<=16777216) (hv:parts.map (λx=>(x.1,ev H x.2))=vs)
 (m:∀(S:K->Prop) (w:jP),zD S Γ w->cn (λi=>Z (i*e.n,e.n)) vs 0) (hp:∀(S:K->Prop) (w:jP),zD S Γ w->yW e S zs (jS vs) w):
 Oz P ⟨d,.buildSlice t len parts.toArray,ty,wl,wn,g⟩ H ms Γ (λv:jp=>v) (λv=>[fV (eS e) zs v]) (λ_=>Ws):=by
 intro w S o _ h;have k:=hp S w h;have hl:X (jS vs)=len*e.n:=by rw[k.len,hd]
 have x:=b7.alloc w (.cells (jS vs).toArray c);refine uF.of_value (w':=w.alloc (.cells (jS vs).toArray c)) (v:=.slice (Z ⟨w.heap.size,0,wW⟩) len len) ?_ ⟨_,O,ul,x,⟨wi.2 ?_,ul⟩⟩;have hi:parts.toArray.map (λx=>(x.1,ev H x.2))=vs.toArray:=by rw[<-hv];simp
 have hc:xdM (λi=>Z (i*e.n,e.n)) ((xfd<|len*e.n).map (a.cells[·%a.cells.size]!)) vs=Z (jS vs).toArray:=by have:=oO vs [] ((xfd<|len*e.n).map (a.cells[·%a.cells.size]!)).toList (m S w h) (by simp[hl]);rw[xbO,xcC,xbO,xbU (by simp[hl]),xbo]at this;exact this
 have p:(xeM t len<|parts.toArray.map λx=>(x.1,ev H x.2)).run P w=.ok (.slice (Z ⟨w.heap.size,0,wW⟩) len len) (w.alloc (.cells (jS vs).toArray c)):=by
  rw[hi];unfold xeM;simp only[xay,Z3 ht,xaq,wE j,ir (W:¬len*e.n>2^24),fN];by_cases h0:len*e.n=0
  have u:jS vs=[]:=xbq (by rw[hl,h0]);have q:xdM (λi=>Z (i*e.n,e.n)) ((xfd 0).map ((#[]:Z5 jp)[·%(#[]:Z5 jp).size]!)) vs=Z (jS vs).toArray:=by
   have l:∀f:K->jp,(xfd 0).map f= #[]:=λf=>by simp
   rw[<-hc,h0,l,l]
  simp only[h0,Xs];simp only[q,xay,Ut,xaq,xaX];simp only[ir h0,xay,uQ j,xaq,xaX,hc,Ut]
 simp only[uT,xay,p,xaq,xaX];have r:At (w.alloc (.cells (jS vs).toArray c)) w.heap.size 0 (jS vs):=by have:=At.row (b:=w.heap.size) (cs:=(jS vs).toArray) (t:=c) (fr:=(0,0))<|V4 w _;simpa using this
 refine SlP.of_at (o _<|Nm _) r (k.keep x.to) hd.symm W ?_;have:len<=len*e.n:=xcp _ hn;unfold JP;lia
def zm5{α:Type}{e:zZ α}{E:ut}{z:α}{v:jp}(c:ev H x=v)(f:∀(S:K->Prop) (w:jP),zD S Γ w->(fV e z v).p S w):
 Oz P ⟨d,.box E x,ty,wl,wn,g⟩ H ms Γ (λv:jp=>v) (λp=>[fP e z p]) (λ_=>Ws):=by
 intro w S i _ a;have h:=YB<|f S w a;have b:=b7.alloc w (.cells v.cells E);refine uF.of_value (w':=w.alloc (.cells v.cells E)) (v:=.pointer<|some ⟨w.heap.size,0,wW⟩) ?_ ⟨_,O,ul,b,⟨⟨w.heap.size,0,v.cells.toList,O,i _<|Nm _,At.row<|V4 w _,e.keep h b.to⟩,ul⟩⟩;simp[uT,c,Instr.box,newVar,fN]
def Sub{α β:Type}(e:AH α)(x:α)(o:K)(f:zZ β)(i:β)(up:β->α):Prop:=
 ∀(S:K->Prop) (w:jP) (cs:wF jp),e.p S x cs w->∃b c a,cs=b++c++a/\X b=o/\f.p S i c w/\∀(w':jP) y h,yL S w w'->f.p S y h w'->e.p S (up y) (b++h++a) w'
def Sub.self{α:Type}(e:zZ α)(x:α):Sub e.c x 0 e x id:=
 λ_ _ cs h=>⟨[],cs,[],m7,O,h,λ_ y b _ a=>by simpa[zZ.c]using a⟩
def Sub.fst{α β:Type}(e:zZ α)(f:zZ β)(x:α×β):Sub (eP e f).c x 0 e x.1 (λy=>(y,x.2)):=by rintro S w cs ⟨c,d,rfl,hc,hd⟩;exact⟨[],c,d,m7,O,hc,λw' y a k b=>⟨a,d,m7,b,f.keep hd k⟩⟩
def Sub.snd{α β:Type}(e:zZ α)(f:zZ β)(x:α×β):Sub (eP e f).c x e.n f x.2 (λy=>(x.1,y)):=by rintro S w cs ⟨c,d,rfl,hc,hd⟩;exact⟨c,d,[],m7,e.len hc,hd,λw' y a k b=>⟨c,a,m7,e.keep hc k,b⟩⟩
def Sub.nth{α:Type}(k:K)(e:zZ α)(xs:wF α)(i:K)(x:α)(f:xs[i]? =Z x):Sub (eA k e).c xs (i*e.n) e x (λy=>xs.set i y):=by
 rintro S w cs ⟨hl,a⟩;obtain⟨hi,rfl⟩:=xaA.1 f;have hd:=a.drop i;rw[xca hi]at hd;have⟨c,r,h1,h,j⟩:=hd;have o:i*e.n<=X cs:=by rw[a.len];exact xag _ W
 refine⟨cs.take<|i*e.n,c,r,?_,by simp;lia,h,λw' y l b m=>⟨by simpa using hl,?_⟩⟩;rw[xas,<-h1,xbK];show yW e S (xs.set i y) _ w';rw[xek,iq hi,xas];exact((a.keep b).take i).append ⟨l,r,O,m,j.keep b⟩
def Sub.row{α:Type}(e:zZ α)(xs:wF α)(i:K)(x:α)(f:xs[i]? =Z x):Sub (zqk e) xs (i*e.n) e x (λy=>xs.set i y):=by intro S w cs h;have⟨b,c,a,h1,j,k,l⟩:=Sub.nth (X xs) e xs i x f S w cs ⟨O,h⟩;exact⟨b,c,a,h1,j,k,λw' y m o p=>(l w' y m o p).2⟩
def Sub.comp{α β γ:Type}{e:AH α}{x:α}{o n:K}{f:zZ β}{y:β}{g:zZ γ}{z:γ}{up:β->α}{b:γ->β}(h:Sub e x o f y up)(p:Sub f.c y n g z b):
 Sub e x (o+n) g z (λt=>up<|b t):=by
 intro S w cs q;obtain⟨l,c,i,rfl,h1,r,s⟩:=h S w cs q;obtain⟨j,u,a,rfl,v,hd,A⟩:=p S w c r;refine⟨l++j,u,a++i,m7,by simp[h1,v],hd,λw' t m k hc=> ?_⟩;have:=s w' _ _ k<|A w' t m k hc;simp_all
def Cu{c:ut}{ag:uS}{e bytes:K}{a:jp}{b o n cap k:K}{ik:Wr}(ht:P.underlying t=Z (.slice c))(f:JN P c ag e bytes a)
 (h:ev H x=.slice (Z ⟨b,o,wW⟩) n cap) (hi:ev H y=.int ik (k:J)) (i:k<n) (w:jP):
 (uT (ev H) ⟨d,.indexAddr t x y,ty,wl,wn,g⟩).run P w=.ok (.value (.pointer<|some ⟨b,o+k*e,wW⟩)) w:=by
 have:(0:J)<=k/\(k:J)<n:=W
 simp only[uT,h,hi,Instr.indexAt,UL,Z3 ht,xay,xaX,xaq,iq this,wE f,jy,xbb]
def SG{c:ut}{ag:uS}{e bytes:K}{a:jp}{b o n k:K}{ik:Wr}(ht:P.underlying t=Z (.array n c))(f:JN P c ag e bytes a)
 (h:ev H x=.pointer (Z ⟨b,o,wW⟩)) (hi:ev H y=.int ik (k:J)) (i:k<n) (w:jP):
 (uT (ev H) ⟨d,.indexAddr t x y,ty,wl,wn,g⟩).run P w=.ok (.value (.pointer<|some ⟨b,o+k*e,wW⟩)) w:=by
 have:(0:J)<=k/\(k:J)<n:=W
 simp only[uT,h,hi,Instr.indexAt,xfA,UL,Z3 ht,xay,xaX,xaq,iq this,wE f,jy,xbb]
theorem zdN{α β:Type}{e:zZ α}{f:zZ β}{z:α}{z':β}{up:β->α}{p:jp}{l:ut}{ag:uS}{h bytes:K}{a:jp}{n k:K}{ik:Wr}(ht:P.underlying t=Z (.array n l))(hd:JN P l ag h bytes a)
 (r:ev H x=p) (hi:ev H y=.int ik (k:J)) (s:k<n) (hc:Sub e.c z (k*h) f z' up) (u:∀(S:K->Prop) (w:jP),zD S Γ w->(fP e z p).p S w):
 Oz P ⟨d,.indexAddr t x y,ty,wl,wn,g⟩ H ms Γ (λp:jp=>p) (λp=>[fP f z' p]) (λ_=>Ws):=by
 intro w S _ _ i;obtain⟨b,o,cs,rfl,A,m,B⟩:=u S w i;obtain⟨C,c,q,rfl,h1,D,_⟩:=hc S w cs B;refine uF.of_value (SG ht hd r hi s w) ⟨_,O,ul,yL.refl _ _,⟨⟨b,o+k*h,c,O,A,⟨m.1,λj v hv=> ?_⟩,D⟩,ul⟩⟩;rw[xcQ];refine m.2 _ v ?_;grind
def zbp(P:Z2)(t:ut)(i:K):V K:=match P.underlying t with
 |some (.struct fs)=>match fs[i]? with
  |some f=>match P.info? f.type with
   |some a=>if a.size=0 then wW else Z f.offset
   |none=>wW
  |none=>wW
 |_=>wW
def Ri{i off b o:K}(h:zbp P t i=Z off)(w:jP):(Instr.fieldAt t (.pointer<|some ⟨b,o,wW⟩) i).run P w=.ok (.pointer<|some ⟨b,o+off,wW⟩) w:=by
 unfold zbp at h;split at h;rename_i fs a;split at h;rename_i f c;split at h;rename_i e hi;split at h;cases h
 rename_i j;cases h;simp only[Instr.fieldAt,xay,Z3 a,xaq,c,xfA,xaX,fieldPlace,Jp,KW,run_program,hi,ir j,jy]
 cases h
 cases h
 cases h
def r9{i off b o:K}(h:zbp P t i=Z off)(a:ev H x=.pointer (Z ⟨b,o,wW⟩))(w:jP):
 (uT (ev H) ⟨d,.fieldAddr t x i,ty,wl,wn,g⟩).run P w=.ok (.value (.pointer<|some ⟨b,o+off,wW⟩)) w:=by
 simp only[uT,a,xay,Ri h,xaq,xaX]
theorem zgH{α β:Type}{e:zZ α}{f:zZ β}{z:α}{z':β}{up:β->α}{p:jp}{i off:K}(h:zbp P t i=Z off)(m:ev H x=p)(hc:Sub e.c z off f z' up)
 (n:∀(S:K->Prop) (w:jP),zD S Γ w->(fP e z p).p S w):Oz P ⟨d,.fieldAddr t x i,ty,wl,wn,g⟩ H ms Γ (λp:jp=>p) (λp=>[fP f z' p]) (λ_=>Ws):=by
 intro w S _ _ a;obtain⟨b,o,cs,rfl,q,k,r⟩:=n S w a;obtain⟨s,c,l,rfl,h1,u,_⟩:=hc S w cs r;refine uF.of_value (r9 h m w) ⟨_,O,ul,yL.refl _ _,⟨⟨b,o+off,c,O,q,⟨k.1,λj v hv=> ?_⟩,u⟩,ul⟩⟩;rw[xcQ];refine k.2 _ v ?_;grind
theorem St.muts{i:K}{m:MF}{w:jP}(h:St we Se ms Γ w)(hi:ms[i]? =Z m):∃S:K->Prop,m.p S w/\yV S ms w/\zD S Γ w:=by have⟨h1,c,e,S,f,j,k,a,b⟩:=h;exact⟨S,yV.get a hi,a,b⟩
def St.mut{i:K}{m:MF}{w:jP}(h:St we Se ms Γ w)(hi:ms[i]? =Z m):∃S:K->Prop,(∀k,w.heap.size<=k->S k)/\m.p S w/\zD S Γ w/\∀(Δ:wF FF),zD S Δ w->St we Se ms Δ w:=by have⟨h1,e,f,S,j,b,l,c,n⟩:=h;exact⟨S,b,yV.get c hi,n,λΔ a=>⟨h1,e,f,S,j,b,l,c,a⟩⟩
def At.mid{w:jP}{b:K}{cs:Z5 jp}{E:ut}{a c e:wF jp}(h:w.heap[b]? =Z (.cells cs E (0,0)))(f:cs.toList=a++c++e):At w b (X a) c:=by have:=((At.row h).drop (X a)).take (X c);simp_all
def V8{α β:Type}{e:AH α}{E b:K}{z:α}{f:zZ β}{o:K}{z':β}{up:β->α}{bytes:K}{a:jp}(i:K)
 (k:ms[i]? =Z (mB e E b z)) (l:ev H x=.pointer (Z ⟨b,o,wW⟩)) (hc:Sub e z o f z' up) (ht:JN P t f.agg f.n bytes a):
 Oz P ⟨d,.load t x,ty,wl,wn,g⟩ H ms Γ (λv:jp=>v) (λv=>[fV f z' v]) (λ_=>Ws):=by
 intro w S _ m p;have⟨cs,q,hp⟩:=yV.get m k;have⟨r,c,h,hd,h1,j,_⟩:=hc S w cs.toList hp;have s:=h1▸At.mid q hd;refine uF.of_value ?_ ⟨_,O,ul,yL.refl _ _,zpO j,ul⟩;simp[uT,l,Instr.loadAt,xfA,fU ht j s]
def Jf(w:jP)(b:K)(cs:Z5 jp):yL (λk=>k≠b) w (w.setRow b cs):=
 ⟨O,O,O,m7,λk _ a=>setRow_other w b k cs a⟩
def MU{ag:uS}{n bytes:K}{f:jp}(ht:JN P t ag n bytes f){w:jP}{b:K}{cs:Z5 jp}{E:ut}{a c e:wF jp}{v:jp}
 (h:w.heap[b]? =Z (.cells cs E (0,0))) (i:cs.toList=a++c++e) (hc:X c=n) (hv:X v.cells.toList=n) (h1:∀u∈v.cells.toList,u.oneCell'=qR):
 (storeVar t ⟨b,X a,wW⟩ v).run P w=.ok () (w.setRow b (a++v.cells.toList++e).toArray):=by
 unfold storeVar;have hd:cs.size=X (a++c++e):=by rw[<-i];simp
 have j:=ce P b (X a) E v.cells.toList 0 cs w h (by rw[hd,hv];simp;lia) h1;have k:v.cells.size=n:=by simpa using hv
 simp only[xay,wE ht,xaq,k,ne_eq,lC,Z9];refine j.trans ?_;congr 2;rw[i,hv,xbV];congr 2;rw[xas,List.take_left' O];rw[<-hc,<-xau,xfR O]
theorem uV{α β:Type}{e:AH α}{E b:K}{z:α}{f:zZ β}{o:K}{z' y':β}{up:β->α}{bytes:K}{q v:jp}(i:K)(s:ms[i]? =Z (mB e E b z))(G:ev H x=.pointer (Z ⟨b,o,wW⟩))(J:ev H y=v)(u:Sub e z o f z' up)(ht:JN P t f.agg f.n bytes q)
 (hv:∀(S:K->Prop) (w:jP),zD S Γ w->(fV f y' v).p S w):OG P ⟨wW,.store t x y,ty,wl,wn,g⟩ H we Se ms Γ (λ_:Wl=>XS) (λ_=>(ms.set i<|mB e E b<|up y')) (λ_=>Γ) (λ_=>Ws):=by
 intro w A;have⟨S0,_,⟨h,r,L⟩,M,_⟩:=A.mut s;have⟨l,c0,a,hd,hi,B,_⟩:=u S0 w h.toList L;have hn:=YB<|hv S0 w M;have R:(uT (ev H) ⟨wW,.store t x y,ty,wl,wn,g⟩).run P w=.ok .skip (w.setRow b (l++v.cells.toList++a).toArray):=by have:=MU ht r hd (f.len B) (f.len hn)<|f.one hn;rw[hi]at this;simp only[uT,G,J,Instr.storeAt,xfA,xay,xaX,xaq,this]
 refine uF.of_skip R ⟨(),O,ul,A.write s O O (Jf w b _) ?_⟩;rintro S T ⟨cs,C,hp⟩ U;rw[r]at C;cases C;have⟨m,c,j,D,hl,hc,V⟩:=u S w h.toList hp;have e1:m=l:=by
  have h1:m=h.toList.take o:=by rw[D,xas,<-hl,List.take_left' O]
  grind
 have Y:j=a:=by
  have h1:j=h.toList.drop (o+f.n):=by rw[D,<-hl,<-f.len hc,<-xau,xfR O]
  have h2:a=h.toList.drop (o+f.n):=by rw[hd,<-hi,<-f.len B,<-xau,xfR O]
  rw[h1,h2]
 subst e1 Y;have F:yL S w (w.setRow b (m++v.cells.toList++j).toArray):=(Jf w b _).weak λk _ hk=>T k hk;exact⟨_,lW w b h _ E (0,0) r,by simpa using V _ y' _ F (f.keep (YB<|hv S w U) F)⟩
def zb4{α:Type}{e:zZ α}{c:ut}{z:α}{n bytes:K}{zero:jp}{q:uL}{r s:Wr}(ht:P.underlying t=Z (.slice c))(u:JN P c e.agg e.n bytes zero)(hx:ev H x=.int r (n:J))(A:ev H q=.int s (n:J))(hb:bytes*n<=281474976710656)(hn:n<=9223372036854775807)
 (f:∀(S:K->Prop) (w:jP),e.p S z zero.cells.toList w):OG P ⟨d,.makeSlice t x q,ty,wl,wn,g⟩ H we Se ms Γ (λb=>(.slice (Z ⟨b,0,wW⟩) n n)) (λb=>(mR e c b (So n z)::ms)) (λ_=>Γ) (λ_=>Ws):=by
 intro w B;have⟨i,hi,h1,C,D⟩:=u.info;have E:=run_make (P:=P) w t c i zero ht hi D r s (n:J) (n:J) W W (by rw[C,<-Int.natCast_mul];exact Int.ofNat_le.2 hb) W;have hd:X zero.cells.toList=e.n:=e.len<|f (λ_=>Ws) w;have hc:(lI zero.cells<|n*i.size).toList=(So n zero.cells.toList).flatten:=by
  rw[h1];apply xcA;intro j;have hs:zero.cells.size=e.n:=by simpa using hd
  by_cases a:j<n*e.n;have k:0<e.n:=xcV λh0=>by rw[h0]at a;simp at a
  have e1:(lI zero.cells<|n*e.n).toList[j]? =zero.cells.toList[j%e.n]? :=by have o:=xaQ j k;simp[lI,a,hs,o]
  have F:((So n zero.cells.toList).flatten)[j]? =zero.cells.toList[j%e.n]? :=by have:=(yW.replicate (f (λ_=>Ws) w) n).get (i:=j/e.n) (x:=z) (by rw[xcT,iq<|(xaZ k).2 a]);exact flatten_get zero.cells.toList e.n hd k n j a
  rw[e1,F];rw[xbA (by simp[size_madeCells];lia),xbA<|by simp[hd];lia]
 refine uF.of_value (w':=w.alloc (.cells (lI zero.cells<|n*i.size) c)) (v:=.slice (Z ⟨w.heap.size,0,wW⟩) n n) ?_ ⟨_,O,ul,B.fresh (b7.alloc w _) O m7 ?_⟩;simp only[uT,hx,A,xay,E,xaq,xaX,xbb];intro S _ _;refine⟨_,V4 w _,?_⟩;rw[hc];exact yW.replicate (f _ _) n
 where
 flatten_get (l:wF jp) (m:K) (hl:X l=m) (o:0<m):∀(n j:K),j<n*m->((So n l).flatten)[j]? =l[j%m]?
  |0,j,h=>by simp at h
  |n+1,j,h=>by
   rw[xea,List.flatten_cons];by_cases a:j<m;rw[xbi W,xap a];rw[xbz W,hl,flatten_get l m hl o n (j-m) (by rw[xbl]at h;lia),<-Nat.mod_eq_sub_mod W]
section
variable{we:jP}{Se:wP->Prop}{ms:wF MF}{Γ Δ:wF FF}{w w':jP}
theorem St.growM{i:K}{m m':MF}(h:St we Se ms Γ w)(hi:ms[i]? =Z m)(x:yL (λk=>¬m.blk k) w w')(hb:∀k,m'.blk k->m.blk k\/w.heap.size<=k)
 (n:∀S:K->Prop,(∀k,S k->¬m.blk k)->yV S ms w->zD S Γ w->m'.p S w'):St we Se (ms.set i m') Γ w':=by
 have⟨h1,F,z,S,G,J,u,v,A⟩:=h;have s:=xbu hi;have L:∀k,S k->¬m.blk k:=λk a e=>(u m s k e).1 a;have hd:∀k,k<w.heap.size->S k->S k/\¬m'.blk k:=λk a hs=>⟨hs,λe=>by
  obtain h|h:=hb k e
  simp_all;lia⟩
 have B:∀k,(S k/\¬m'.blk k)->¬m.blk k:=λk a=>L k a.1;have C:yL (λk=>S k/\¬m'.blk k) w w':=x.weak λk _ a=>B k a;have D:=λb l=>yV.lt v b l;have other:∀(j:K) (b:MF),j≠i->ms[j]? =Z b->∀k,b.blk k->¬m.blk k/\¬m'.blk k:=λj b o l k a=>by
  have h1:¬m.blk k:=λe=>ga z hi k e j b o l a;refine⟨h1,λe=> ?_⟩;obtain h|h:=hb k e
  exact h1 h;have:=D b (xbu l) k a;lia
 have E:=n _ B (yV.sub hd v)<|zD.sub hd A;refine⟨h1.behind x (λk a e=>by have:=(u m s k e).2;lia),F,?_,λk=>S k/\¬m'.blk k,λk a=>G k a.1,?_,?_,?_,?_⟩;exact c i m' z<|λj b o l k a=>(other j b o l k a).2;exact λk a=>⟨J k<|xao x.size a,λe=>by have:=m'.lt E k e;lia⟩;intro b l k a;obtain⟨j,o,rfl⟩:=xdd l;rw[List.getElem_set]at a;rw[xaP]at o;split at a;refine⟨λhc=>hc.2 a,?_⟩;obtain h|h:=hb k a
 exact(u m s k h).2;have:=h1.size;lia;exact⟨λhc=>(u _ (xbI o) k a).1 hc.1,(u _ (xbI o) k a).2⟩;exact f i m' C E (λj b o l k a=>x.block k (D b (xbu l) k a) (other j b o l k a).1)<|yV.sub hd v;exact zD.keep C<|zD.sub hd A
 where
 c:∀{ms:wF MF} (i:K) (m':MF),QX ms->(∀(j:K) (b:MF),j≠i->ms[j]? =Z b->∀k,b.blk k->¬m'.blk k)->QX (ms.set i m')
  |[],_,_,h,_=>by simpa using h
  |m::r,0,m',h,q=>⟨λk a b l hc=>by
   obtain⟨j,o,rfl⟩:=xdd l;exact q (j+1) r[j] W (by simp[o]) k hc a,h.2⟩
  |m::r,i+1,m',h,q=>by
   refine⟨λk a b l=> ?_,c i m' h.2<|λj b o l=>q (j+1) b W<|by simpa using l⟩;obtain⟨j,o,rfl⟩:=xdd l;rw[List.getElem_set];split;exact q 0 m W O k a;exact h.1 k a _<|xbI _
 f {S:K->Prop}:∀{ms:wF MF} (i:K) (m':MF),yL S w w'->m'.p S w'->(∀(j:K) (b:MF),j≠i->ms[j]? =Z b->∀k,b.blk k->w'.heap[k]? =w.heap[k]?)->yV S ms w->yV S (ms.set i m') w'
  |[],_,_,_,_,_,_=>trivial
  |m::r,0,m',x,s,q,h=>⟨s,yV.keep x (λb l k a=>by
   obtain⟨j,o,rfl⟩:=xdd l;exact q (j+1) r[j] W (by simp[o]) k a) h.2⟩
  |m::r,i+1,m',x,s,q,h=>⟨m.keep h.1 x<|λk a=>q 0 m W O k a,f i m' x s (λj b o l=>q (j+1) b W<|by simpa using l) h.2⟩
theorem St.grow{i:K}{m m':MF}(h:St we Se ms Γ w)(hi:ms[i]? =Z m)(x:yL (λk=>¬m.blk k) w w')(a:∀k,m'.blk k->m.blk k\/w.heap.size<=k)
 (n:∀S:K->Prop,(∀k,S k->¬m.blk k)->m.p S w->zD S Γ w->m'.p S w'):St we Se (ms.set i m') Γ w':=by grind [St.growM,yV.get]
theorem St.conv{i:K}{m m':MF}(h:St we Se ms Γ w)(hi:ms[i]? =Z m)(a:m'.blk=m.blk)(n:∀S:K->Prop,m.p S w->m'.p S w):St we Se (ms.set i m') Γ w:=by grind [St.grow,yL.refl]
theorem St.nilO{α:Type}{e:zZ α}{E:ut}(h:St we Se ms Γ w):St we Se (mO e E (.slice wW 0 0) []::ms) Γ w:=by
 have⟨h1,b,c,S,f,i,n,j,l⟩:=h;refine⟨h1,b,⟨(λ_ a=>by cases a),c⟩,S,f,i,?_,⟨⟨[],World.ownsRow_nil _ _ _ _,O⟩,j⟩,l⟩;intro m hm k a;obtain rfl|hm:=xal.1 hm
 cases a
 grind
end
def Az{α:Type}{e:AH α}{z:α}{ag:uS}{c bytes:K}{a:jp}{E:ut}(ht:JN P E ag c bytes a)
 (f:∀(S:K->Prop) (w:jP),e.p S z a.cells.toList w):OG P ⟨d,.alloc E,ty,wl,wn,g⟩ H we Se ms Γ (λb=>(.pointer<|some ⟨b,0,wW⟩)) (λb=>(mB e E b z::ms)) (λ_=>Γ) (λ_=>Ws):=by
 intro w h;refine uF.of_value ?_ ⟨_,O,ul,h.fresh (b7.alloc w _) O m7 λS _ _=>⟨_,V4 w _,f _ _⟩⟩;simp only[uT,Instr.alloc,xay,uQ ht,xaq,newVar,fN,Ut,xaX]
def zkU{α:Type}{e:zZ α}{z:α}{v:jp}{E:ut}(f:ev H x=v)
 (h:∀(S:K->Prop) (w:jP),zD S Γ w->(fV e z v).p S w):OG P ⟨d,.box E x,ty,wl,wn,g⟩ H we Se ms Γ (λb=>(.pointer<|some ⟨b,0,wW⟩)) (λb=>(mB e.c E b z::ms)) (λ_=>Γ) (λ_=>Ws):=by
 intro w i;refine uF.of_value (w':=w.alloc (.cells v.cells E)) ?_ ⟨_,O,ul,i.fresh (b7.alloc w _) O m7 λS l a=>⟨_,V4 w _,?_⟩⟩;simp only[uT,f,Instr.box,newVar,fN,xay,Ut,xaq,xaX];exact e.keep (e.sub (YB<|h S w a) λk m j=>⟨j,W⟩) (b7.alloc w _).to
def gn(w:jP)(t ty e:ut)(i:rO)(z:jp)(size bytes:K)(ht:P.underlying t=Z (.slice e))(hi:P.info? e=Z i)(r:i.zero=Z z)
 (s:i.size=size) (hn:i.bytes=bytes) (hv:z.cells.size=size) (B:0<size)
 (v:jp) (n:K) (xs:wF jp) (hd:w.ownsRow 0 e size v n xs)
 (a:aC) (m c:K) (b:wF jp) (hl:X b=m*size) (q:∀j u,b[j]? =Z u->w.cell? (a.add j)=Z u) (h1:∀u∈b,u.oneCell'=qR)
 (hp:n+m<=JP) (hc:(n+m)*bytes<=140737488355328):
 ∃o w',(xcg #[t,t] ty #[v,.slice (Z a) m c]).run P w=.ok o w'/\w'.ownsRow 0 e size o (n+m) (xs++b)/\w.grownBy w' v.ownBlock/\
  ∀k,o.ownBlock=Z k->v.ownBlock=Z k\/w.heap.size<=k:=by
 have⟨o,w',h,C,D,_⟩:=run_append_own (P:=P) w 0 t ty e i z size bytes ht hi r s hn hv B v n xs hd a m c b hl q h1 hp hc<|xah _;refine⟨o,w',h,C,D,?_⟩;subst s hn;have M:n+m<=9223372036854775807:=by simp only[JP]at hp;lia
 rcases hd.2 with⟨rfl,rfl⟩|⟨g,cap,p,rfl,R,E,S,T,F,U⟩
 by_cases G:m=0
 subst G;have:=f (w:=w) t ty e i ht hi a c;rw[this]at h;cases h;exact λk l=>by cases l
 have:=run_append_nil (P:=P) w t ty e i z ht hi r a m c b hl q W W (by have hb:=hc;simp only[xaM]at hb;lia);rw[this]at h;cases h;exact λk l=> .inr<|by cases l;exact Nm _
 by_cases A:n+m<=cap;have J:n*i.size+X b<=p.size:=by rw[hl,F,<-xbl];exact xag _ A
 have:=run_append_room (P:=P) w t ty e i ht hi g n cap p E a m c b hl q h1 A J;rw[this]at h;cases h;exact λk l=> .inl l
 have L:∀j u,xs[j]? =Z u->w.cell? ((⟨g,0,wW⟩:aC).add j)=Z u:=hd.cells (g:=g) O;have:=run_append_grow (P:=P) w t ty e i z ht hi r ⟨g,0,wW⟩ n cap xs hd.1 L a m c b hl q W W<|gT W hc;rw[this]at h;cases h;exact λk l=> .inr<|by cases l;exact Nm _
 where
 f {w:jP} (t ty e:ut) (i:rO) (ht:P.underlying t=Z (.slice e)) (hi:P.info? e=Z i) (a:aC) (c:K):
  (xcg #[t,t] ty #[.slice wW 0 0,.slice (Z a) 0 c]).run P w=.ok (.slice wW 0 0) w:=by
  simp[xcg,Z3 ht,Jp,KW,hi,xfO,xeQ,loadCells,loadCellsFrom]
def SlQ{α:Type}(e:zZ α)(S:K->Prop)(xs:wF α)(v:jp)(w:jP):Prop:=
 ∃a cap,v=.slice a (X xs) cap/\X xs<=cap/\cap<=JP/\(xs=[]\/∃b o cs,a=Z ⟨b,o,wW⟩/\At w b o cs/\yW e S xs cs w)
theorem SlQ.of{α:Type}{e:zZ α}{S:K->Prop}{xs:wF α}{v:jp}{w:jP}(h:(fV (eS e) xs v).p S w):SlQ e S xs v w:=by
 have⟨c,cap,h1,f,i,a⟩:=wi.1 h;refine⟨c,cap,h1,f,i,?_⟩;obtain a|⟨b,o,cs,j,k,a3,a4⟩:=a
 simp_all;grind
def cJ{α:Type}{e:zZ α}{z:ut}{xs ys:wF α}{v u:jp}{bytes:K}{zero:jp}(i:K)(ht:P.underlying t=Z (.slice z))(hK:JN P z e.agg e.n bytes zero)(hD:zero.cells.size=e.n)(hn:0<e.n)
 (L:ms[i]? =Z (mO e z v xs)) (hx:ev H x=v) (hy:ev H y=u) (hf:∀(S:K->Prop) (w:jP),yV S ms w->zD S Γ w->SlQ e S ys u w)
 (h4:X xs+X ys<=9223372036854775807) (hb:(X xs+X ys)*bytes<=140737488355328):OG P ⟨d,.call ⟨.builtin .append,#[x,y],#[t,t]⟩,ty,wl,wn,g⟩ H we Se ms Γ (λq=>q) (λq=>(ms.set i<|mO e z q<|xs++ys)) (λ_=>Γ) (λ_=>Ws):=by
 intro w hE;have⟨S,⟨cs,D,he⟩,h7,h8⟩:=hE.muts L;have⟨ao,cap,M,h1,h2,h3⟩:=hf S w h7 h8;have⟨T,hi,i1,i2,i3⟩:=hK.info;have hL:∀q w',(xcg #[t,t] ty #[v,u]).run P w=.ok q w'->(uT (ev H) ⟨d,.call ⟨.builtin .append,#[x,y],#[t,t]⟩,ty,wl,wn,g⟩).run P w=.ok (.value q) w':=λq w' B=>by simp only[uT,WR,V3,am,xej,xbT,xdX,hx,hy,xay,B,xaX,xaq]
 have hz:X xs+X ys<=JP:=by unfold JP;lia
 have E:∃q w',(xcg #[t,t] ty #[v,u]).run P w=.ok q w'/\w.grownBy w' v.ownBlock/\(∀k,q.ownBlock=Z k->v.ownBlock=Z k\/w.heap.size<=k)/\
  ∀S:K->Prop,(∀k,S k->v.ownBlock≠Z k)->yV S ms w->zD S Γ w->(mO e z q<|xs++ys).p S w':=by
  have F:∀(w':jP) (q:jp) (m:wF jp),w.grownBy w' v.ownBlock->w'.ownsRow 0 z e.n q (X xs+X ys) (cs++m)->
   (∀S:K->Prop,yV S ms w->zD S Γ w->yW e S ys m w)->∀S:K->Prop,(∀k,S k->v.ownBlock≠Z k)->yV S ms w->zD S Γ w->(mO e z q<|xs++ys).p S w':=by
   intro w' q m s hd hB S hS hM U;have⟨C,hF,hN⟩:=yV.get hM L;have hO:C=cs:=by
    rcases D.2 with⟨rfl,h0⟩|⟨g,cap,V,rfl,_,hP,_,_,_,hQ⟩
    have a1:=D.1;have a2:=hF.1;rw[h0]at a1 a2;have c1:cs=[]:=xbq (by simpa using a1);have c2:C=[]:=xbq (by simpa using a2);rw[c1,c2];rcases hF.2 with⟨hc,_⟩|⟨g',a0,a3,hR,_,hA,_,_,_,hG⟩
    cases hc
    cases hR;rw[hP]at hA;cases hA;rw[<-hQ,<-hG]
   subst hO;have kk:yL S w w':=⟨s.os,s.tape,s.output,s.size,λk Y hs=>s.block k Y<|λe=>hS k hs e.symm⟩;exact⟨C++m,by rw[xau];exact hd,(hN.keep kk).append<|(hB S hM U).keep kk⟩
  have A:ys=[]->(ao=wW->u=.slice wW 0 cap)->∃q w',(xcg #[t,t] ty #[v,u]).run P w=.ok q w'/\w.grownBy w' v.ownBlock/\(∀k,q.ownBlock=Z k->v.ownBlock=Z k\/w.heap.size<=k)/\
   ∀S:K->Prop,(∀k,S k->v.ownBlock≠Z k)->yV S ms w->zD S Γ w->(mO e z q<|xs++ys).p S w':=by
   intro R hC
   subst R
   cases ao with
   |none=>
    have hT:=hC O
    have B:=f (w:=w) t ty z T e.n ht hi v (X xs) cs D cap
    rw[<-hT]at B
    exact⟨v,w,B,⟨O,O,O,Nm _,λ_ _ _=>O⟩,λk Y=> .inl Y,λS _ hp _=>by simpa using yV.get hp L⟩
   |some a=>
    have⟨q,w',B,hd,s,hl⟩:=gn w t ty z T zero e.n bytes ht hi i3 i1 i2 hD hn v (X xs) cs D a 0 cap [] m7 m7 m7 (by simpa using hz)<|by simpa using hb
    exact⟨q,w',by rw[M];exact B,s,hl,F w' q [] s (by simpa using hd)<|λ_ _ _=>O⟩
  obtain R|⟨b,o,m,rfl,ha,G⟩:=h3
  exact A R<|λh=>by rw[M,h,R];rfl
  have⟨q,w',B,hd,s,hl⟩:=gn w t ty z T zero e.n bytes ht hi i3 i1 i2 hD hn v (X xs) cs D ⟨b,o,wW⟩ (X ys) cap m G.len
   (λj c hc=>by rw[jy];exact ha.2 j c hc) G.one hz hb
  refine⟨q,w',by rw[M];exact B,s,hl,F w' q m s hd λS2 hU hV=> ?_⟩;have⟨a5,a4,hH,_,_,hW⟩:=hf S2 w hU hV;rw[M]at hH;cases hH;obtain rfl|⟨b2,o2,r,hX,hY,hv⟩:=hW
  have:=G.len;rw[xbR,xct]at this;rw[xbq this];rfl
  cases hX;have:r=m:=by
   apply xcA;intro j;by_cases J:j<X m;have e1:=ha.2 j m[j] (by simp[J]);have hI:j<X r:=by rw[hv.len,<-G.len];exact J
   have e2:=hY.2 j r[j] (by simp[hI]);rw[e1]at e2;rw[xaa J,xaa hI,e2];have h5:X r=X m:=by rw[hv.len,<-G.len]
   rw[xbA (l:=m) W,xbA (l:=r) W]
  rw[<-this];exact hv
 have⟨q,w',B,s,hl,hp⟩:=E;exact uF.of_value (hL q w' B) ⟨q,O,ul,hE.growM L ⟨s.os,s.tape,s.output,s.size,λj J hs=>s.block j J<|λe=>hs e.symm⟩ hl hp⟩
 where
 f {w:jP} (t ty e:ut) (i:rO) (size:K) (ht:P.underlying t=Z (.slice e)) (hi:P.info? e=Z i)
  (v:jp) (n:K) (xs:wF jp) (hJ:w.ownsRow 0 e size v n xs) (c:K):
  (xcg #[t,t] ty #[v,.slice wW 0 c]).run P w=.ok v w:=by
  rcases hJ.2 with⟨rfl,rfl⟩|⟨g,cap,V,rfl,_,_,hZ,_⟩
  simp[xcg,Z3 ht,Jp,KW,hi,xfO,xeQ];simp[xcg,Z3 ht,Jp,KW,hi,xfO,xeQ,hZ,storeCells]
def TG{α:Type}{e:zZ α}{b:ut}{xs ys:wF α}{v u:jp}{bytes:K}{a:jp}(i:K)(f:xb ops H ⟨d,.call ⟨.builtin .append,#[x,y],#[t,t]⟩,ty,wl,wn,g⟩=qR)(hd:ke N.n d=qR)
 (ht:P.underlying t=Z (.slice b)) (h:JN P b e.agg e.n bytes a) (hc:a.cells.size=e.n) (hn:0<e.n)
 (j:ms[i]? =Z (mO e b v xs)) (l:ev H x=v) (m:ev H y=u) (o:∀(S:K->Prop) (w:jP),yV S ms w->zD S Γ w->SlQ e S ys u w)
 (p:X xs+X ys<=9223372036854775807) (q:(X xs+X ys)*bytes<=140737488355328)
 (k:∀c,TL P N we Se (ms.set i<|mO e b c<|xs++ys) Γ ops rest Q<|put H d c):TL P N we Se ms Γ ops (⟨d,.call ⟨.builtin .append,#[x,y],#[t,t]⟩,ty,wl,wn,g⟩::rest) Q H:=
 zl1 f hd (cJ i ht h hc hn j l m o p q) λc _=>k c
def zdZ{α:Type}{e:zZ α}{b:ut}{xs ys:wF α}{v u:jp}{bytes:K}{a:jp}(i:K)(f:xb ops H ⟨d,.call ⟨.builtin .append,#[x,y],#[t,t]⟩,ty,wl,wn,g⟩=qR)(hd:ke N.n d=qR)
 (ht:P.underlying t=Z (.slice b)) (j:JN P b e.agg e.n bytes a) (hc:a.cells.size=e.n) (hn:0<e.n)
 (l:ms[i]? =Z (mO e b v xs)) (m:ev H x=v) (o:ev H y=u) (q:∀(S:K->Prop) (w:jP),zD S Γ w->(fV (eS e) ys u).p S w)
 (r:X xs+X ys<=9223372036854775807) (s:(X xs+X ys)*bytes<=140737488355328)
 (k:∀c,TL P N we Se (ms.set i<|mO e b c<|xs++ys) Γ ops rest Q<|put H d c):TL P N we Se ms Γ ops (⟨d,.call ⟨.builtin .append,#[x,y],#[t,t]⟩,ty,wl,wn,g⟩::rest) Q H:=
 TG i f hd ht j hc hn l m o (λS w _ h=>SlQ.of<|q S w h) r s k
def zoK{α:Type}{e:zZ α}{E b:K}{z:α}{w:jP}(i:K)(h:St we Se ms Γ w)(a:ms[i]? =Z (mB e.c E b z)):
 St we Se (ms.eraseIdx i) (fP e z (.pointer<|some ⟨b,0,wW⟩)::Γ) w:=
 h.freeze a λS k f j hp=>zog f (j b O) hp
def Mc{α:Type}{e:zZ α}{E:K}{v:jp}{xs:wF α}{w:jP}(i:K)(h:St we Se ms Γ w)(a:ms[i]? =Z (mO e E v xs)):
 St we Se (ms.eraseIdx i) (fV (eS e) xs v::Γ) w:=
 h.freeze a λS f b c hp=>pS b c hp
def zlJ{α:Type}{e:zZ α}{E b:K}{xs:wF α}{n:K}{w:jP}(i:K)(h:St we Se ms Γ w)(c:ms[i]? =Z (mR e E b xs))(hn:n=X xs)(j:X xs<=9223372036854775807):
 St we Se (ms.set i<|mO e E (.slice (Z ⟨b,0,wW⟩) n n) xs) Γ w:=
 h.conv c O λS ⟨cs,f,a⟩=>by
  subst hn;have hl:cs.size=X xs*e.n:=by have:=yW.len a;simpa using this
  refine⟨cs.toList,⟨by simpa using hl,.inr ⟨b,X xs,cs,O,xah _,f,Nm _,by unfold JP;lia,hl,?_⟩⟩,a⟩;rw[xaY<|by simp[hl]]
end
end
section
def YX{a b:K}(h:a≠b):Q a b=I:=by grind [xdF]
def Dp{a b:K}(h:b<=a):xde a b=I:=by
 cases c:xde a b
 rfl;have:=xbJ c;omega
structure Pr where
 p:(K->Prop)->jp->jP->Prop
 keepS:∀{S:K->Prop}{v:jp}{w w':jP},p S v w->yL S w w'->p S v w'
 sub:∀{S S':K->Prop}{v:jp}{w:jP},p S v w->(∀k,k<w.heap.size->S k->S' k)->p S' v w
def Pr.keep(a:Pr){S:K->Prop}{v:jp}{w w':jP}(h:a.p S v w)(x:b7 w w'):a.p S v w':=a.keepS h x.to
def AV(d:V Wn)(a:Pr)(K:N (Wn×Pr)):N (Wn×Pr):=match d with
 |some d=>(d,a)::K
 |none=>K
def Xv(K:N (Wn×Pr))(i9 H:xr)(S:wP->Prop)(w:jP)(t:Wn):Prop:=match K.find? (λx=>Q x.1 t)with
 |some x=>x.2.p S (H t) w
 |none=>H t=i9 t
def Q0(K:N (Wn×Pr))(i9 H:xr)(S:wP->Prop)(w:jP):N Wn->Prop
 |[]=>Ws
 |t::ts=>Xv K i9 H S w t/\Q0 K i9 H S w ts
def Ob(P:Z2)(a:Z5 Wd)(ms:N MF)(Γ:N FF)(i9:xr)(K:N (Wn×Pr))(o:Wd)(b:Pr):Prop:=
 ∀(S:wP->Prop) (w:jP) (H:xr),(∀k,w.heap.size<=k->S k)->yV S ms w->zD S Γ w->Q0 K i9 H S w (o.looksAt a)->
  (xb a H o=qR->uF P o H w (λv w'=>b7 w w'/\b.p S v w'))/\(xb a H o=I->b.p S XS w)
def Obs(P:Z2)(a:Z5 Wd)(ms:N MF)(Γ:N FF)(i9:xr):N (Wd×Pr)->N (Wn×Pr)->Prop
 |[],_=>Ws
 |(o,b)::r,K=>Ob P a ms Γ i9 K o b/\Obs P a ms Γ i9 r (AV o.dst b K)
def Kof:N (Wd×Pr)->N (Wn×Pr)->N (Wn×Pr)
 |[],K=>K
 |(o,a)::r,K=>Kof r<|AV o.dst a K
def QZ(o:Wd)(i:K):uS:=o.after.toList.any λe=>xcu .any e && Q e.on i
def yb(l:N Wd)(i:K):Wd:=l.getD i default
def TE(l:N Wd)(m:K):uS:=xfu m (X l) && (xaL (X l)).all λj=>
 ((yb l j).after.toList.all λe=> !xcu .any e||xde e.on j) &&
 (bif xde j m then(xaL m).all λi=>Q i j||(match(yb l i).dst with
  |some t=> !((xbn l.toArray<|yb l j).contains t||(yb l j).dst==Z t)||(bif xde i j then QZ (yb l j) i else QZ (yb l i) j)
  |none=>qR)
  else(xaL j).all λk=>QZ (yb l j) k)
def qf(l:N Wd):K->K->K->uS
 |0,i,k=>QZ (yb l i) k
 |f+1,i,k=>QZ (yb l i) k||(yb l i).after.toList.any λe=>xcu .any e && qf l f e.on k
def Vi(l:N Wd)(m:K):uS:=xfu m (X l) && (xaL (X l)).all λj=>
 ((yb l j).after.toList.all λe=> !xcu .any e||xde e.on j) &&
 (bif xde j m then(xaL m).all λi=>Q i j||(match(yb l i).dst with
  |some t=> !((xbn l.toArray<|yb l j).contains t||(yb l j).dst==Z t)||(bif xde i j then QZ (yb l j) i else QZ (yb l i) j)
  |none=>qR)
  else bif Q j m then(xaL m).all λk=>qf l 16 m k else QZ (yb l j) (j-1))
section
variable{l:wF Wd}{m:wP}
def Zc{o:Wd}{i:K}(h:QZ o i=qR):∃e∈o.after,xcu .any e=qR/\e.on=i:=by unfold QZ at h;rw[xfH]at h;simp_all
def Tv(h:TE l m=qR):m<=X l/\
 (∀j,j<X l->∀e∈(yb l j).after,xcu .any e=qR->e.on<j)/\
 (∀j i t,j<m->i<m->i≠j->(yb l i).dst=Z t->(t∈xbn l.toArray (yb l j)\/(yb l j).dst=Z t)->(i<j->QZ (yb l j) i=qR)/\(j<i->QZ (yb l i) j=qR))/\
 (∀j,m<=j->j<X l->∀k,k<j->QZ (yb l j) k=qR):=by
 unfold TE at h;rw[xae,xaV]at h;have⟨h0,h1⟩:=h;have d:=xbJ h0;refine⟨d,λj a e f g=> ?_,λj i t a hi hc ht hl=> ?_,λj hd a k n=> ?_⟩;have:=h1 j<|xbf.2 a;rw[xae,xaV]at this;have:=this.1 e<|xdS.2 f;rw[g]at this;simpa using this;have:=h1 j (xbf.2 mT);rw[xae]at this;have b:=this.2;rw[show xde j m=qR by simpa using a,WN,xaV]at b;have c:=b i<|xbf.2 hi;rw[YX hc,xeI,ht]at c;have o:((xbn l.toArray<|yb l j).contains t||(yb l j).dst==Z t)=qR:=by
  rw[xeb];obtain hl|hl:=hl
  left;simpa using hl;right;simp[hl]
 simp only[o,xeX,xeI]at c;constructor;intro p;rwa[show xde i j=qR by simpa using p,WN]at c;intro q;rwa[Dp mT,WD]at c;have:=h1 j<|xbf.2 a;rw[xae]at this;have b:=this.2;rw[Dp hd,WD,xaV]at b;exact b k<|xbf.2 n
def Y9(h:Vi l m=qR):m<=X l/\
 (∀j,j<X l->∀e∈(yb l j).after,xcu .any e=qR->e.on<j)/\
 (∀j i t,j<m->i<m->i≠j->(yb l i).dst=Z t->(t∈xbn l.toArray (yb l j)\/(yb l j).dst=Z t)->(i<j->QZ (yb l j) i=qR)/\(j<i->QZ (yb l i) j=qR))/\
 (∀j,m<j->j<X l->QZ (yb l j) (j-1)=qR)/\(m<X l->∀k,k<m->qf l 16 m k=qR):=by
 unfold Vi at h;rw[xae,xaV]at h;have⟨h0,h1⟩:=h;have d:=xbJ h0;refine⟨d,λj b e f g=> ?_,λj i t b hi hc ht hl=> ?_,λj q b=> ?_,λn k o=> ?_⟩;have:=h1 j<|xbf.2 b;rw[xae,xaV]at this;have:=this.1 e<|xdS.2 f;rw[g]at this;simpa using this;have:=h1 j (xbf.2 mT);rw[xae]at this;have a:=this.2;rw[show xde j m=qR by simpa using b,WN,xaV]at a;have c:=a i<|xbf.2 hi;rw[YX hc,xeI,ht]at c;have p:((xbn l.toArray<|yb l j).contains t||(yb l j).dst==Z t)=qR:=by
  rw[xeb];obtain hl|hl:=hl
  left;simpa using hl;right;simp[hl]
 simp only[p,xeX,xeI]at c;constructor;intro hd;rwa[show xde i j=qR by simpa using hd,WN]at c;intro r;rwa[Dp mT,WD]at c;have:=h1 j<|xbf.2 b;rw[xae]at this;have a:=this.2;rw[Dp mT,WD,YX mT,WD]at a;exact a;have:=h1 m<|xbf.2 n;rw[xae]at this;have a:=this.2;rw[Dp<|Nm m,WD,Nat.beq_refl,WN,xaV]at a;exact a k<|xbf.2 o
theorem bW{a:Z5 uS}(d:∀i,i<X l->a.getD i I=qR->∀e∈(yb l i).after,xcu .any e=qR->a.getD e.on I=qR)
 (h1:∀j,j<X l->∀e∈(yb l j).after,xcu .any e=qR->e.on<j):∀(f i k:K),i<X l->(∀e∈(yb l i).after,xcu .any e=qR->a.getD e.on I=qR)->qf l f i k=qR->a.getD k I=qR
 |0,i,k,hi,hd,h=>by
  have⟨e,c,g,n⟩:=Zc h;grind
 |f+1,i,k,hi,hd,h=>by
  unfold qf at h;rw[xeb]at h;obtain h|h:=h
  have⟨e,c,g,n⟩:=Zc h;grind;rw[xfH]at h;have⟨e,c,b⟩:=h;rw[xae]at b;have hc:=xdS.1 c;have o:=h1 i hi e hc b.1;exact bW d h1 f e.on k mT (d e.on mT<|hd e hc b.1) b.2
def YU{i:K}(h:i<X l):l.toArray[i]? =Z (yb l i):=by simp[yb,h]
end
def cvt{α:Type}{e:zZ α}{x y:α}{v:jp}{S:K->Prop}{w:jP}(h:x=y)(hp:(fV e x v).p S w):(fV e y v).p S w:=h▸hp
def zf9{α:Type}{e:zZ α}{S:K->Prop}{w:jP}:(fV (eS e) [] (.slice wW 0 0)).p S w:=wi.2 SlP.nil
def getD_some{α:Type}{l:N α}{k:K}(z:α)(h:k<X l):l[k]? =Z (l.getD k z):=by grind
def zpn{α:Type}{e:zZ α}{xs:N α}{v:jp}{S:K->Prop}{w:jP}(h:(fV (eS e) xs v).p S w):X xs<=9223372036854775807:=by have⟨b,cap,hv,hc,a,_⟩:=wi.1 h;exact xao hc a
def yW.all_u{S:K->Prop}{w:jP}:∀{xs:N K}{cs:N jp},yW eU S xs cs w->∀x∈xs,x<18446744073709551616
 |[],_,_=>λx hx=>kW hx H1
 |y::ys,_,⟨c,r,_,hc,a⟩=>λx hx=>by
  obtain rfl|hx:=xal.1 hx
  exact hc.2;exact yW.all_u a x hx
def zn(l:N K):Prop:=∀x∈l,x<18446744073709551616
def zhM{xs:N K}{v:jp}{S:K->Prop}{w:jP}(h:(fV (eS eU) xs v).p S w):zn xs:=by
 have⟨e,cap,hv,hc,f,a⟩:=wi.1 h;obtain rfl|⟨b,o,cs,_,_,_,c⟩:=a
 exact λx d=>kW d H1;exact c.all_u
def se(t:Wn):∀(r:N (Wd×Pr)) (K:N (Wn×Pr)),
 (∃(i:wP) (x:Wd×Pr),r[i]? =Z x/\x.1.dst=Z t/\(∀(a:wP) (b:Wd×Pr),r[a]? =Z b->b.1.dst=Z t->a<=i)/\(Kof r K).find? (λy=>Q y.1 t)=Z (t,x.2))\/
 ((∀(i:wP) (x:Wd×Pr),r[i]? =Z x->x.1.dst≠Z t)/\(Kof r K).find? (λy=>Q y.1 t)=K.find? (λy=>Q y.1 t))
 |[],K=> .inr ⟨λi x h=>by simp at h,O⟩
 |(o,c)::r,K=>by
  rcases se t r (AV o.dst c K)with⟨i,x,h1,f,j,k⟩|⟨h1,f⟩
  refine .inl ⟨i+1,x,by simpa using h1,f,λa b g hd=> ?_,k⟩
  cases a with
  |zero=>omega
  |succ a=>have:=j a b (by simpa using g) hd;omega
  by_cases hd:o.dst=Z t;refine .inl ⟨0,(o,c),O,hd,λa b g l=> ?_,?_⟩;grind;show(Kof r<|AV o.dst c K).find? _=_;rw[f,hd];simp[AV];refine .inr ⟨λi x m=> ?_,?_⟩;grind;show(Kof r<|AV o.dst c K).find? _=_;rw[f]
  cases hc:o.dst with
  |none=>rfl
  |some d=>
   have:Q d t=I:=YX λe=>hd (by rw[hc,e]);simp[AV,this]
def zcs{P:Z2}{a:Z5 Wd}{ms:N MF}{Γ:N FF}{i9:xr}:∀(r:N (Wd×Pr)) (K:N (Wn×Pr)) (i:wP) (x:Wd×Pr),Obs P a ms Γ i9 r K->r[i]? =Z x->Ob P a ms Γ i9 (Kof (r.take i) K) x.1 x.2
 |[],_,_,_,_,h=>by simp at h
 |(o,c)::r,K,0,x,h,b=>by simp at b;subst b;exact h.1
 |(o,c)::r,K,i+1,x,h,b=>by
  have:=zcs r (AV o.dst c K) i x h.2 (by simpa using b);simpa[Kof]using this
def ay{K:N (Wn×Pr)}{i9 H:xr}{S:wP->Prop}{w:jP}:∀(ts:N Wn),(∀t∈ts,Xv K i9 H S w t)->Q0 K i9 H S w ts
 |[],_=>trivial
 |t::ts,h=>⟨h t<|IR,ay ts λu a=>h u<|FS _ a⟩
def AD{a:Z5 uS}{i:K}(hi:i<a.size)(b:a.getD i qR=I):∀(r:N K),
 (r.countP λk=> !(a.setIfInBounds i qR).getD k qR)<=(r.countP λk=> !a.getD k qR)/\
 (i∈r->(r.countP λk=> !(a.setIfInBounds i qR).getD k qR)<(r.countP λk=> !a.getD k qR))
 |[]=>⟨Nm _,λh=>by cases h⟩
 |k::r=>by
  have d:=AD hi b r;rw[List.countP_cons,List.countP_cons];by_cases c:i=k;subst c;have e1:(a.setIfInBounds i qR).getD i qR=qR:=by simp[hi]
  grind;simp_all
section
variable{P:Z2}{N:Nd}{we:jP}{Se:wP->Prop}{ms:wF MF}{Γ:wF FF}{Q:Qs}{i9:xr}{l:wF Wd}{m:wP}
def zqm(hc:TE l m=qR){q:lm->QR->jP->Prop}:∀(c j:K) (b:Z5 uS) (a:QR) (w:jP),m<=j->j<=X l->X l-j<=c->b.size=X l->
 (∀k,k<X l->b.getD k qR=decide (k<j))->V1 N.F 0 P l.toArray q (l.drop j) a w->bV N.F 0 P .any l.toArray q c b a w:=by
 have⟨h0,h1,R,A⟩:=Tv hc;have hd:∀(j:K) (b:Z5 uS),m<=j->j<=X l->b.size=X l->(∀k,k<X l->b.getD k qR=decide (k<j))->∀i,i∈xel .any l.toArray b->i=j:=by
  intro j b hn hp p d i hi;have⟨s,o,n,hv⟩:=mem_ready.1 hi;have ht:i<X l:=by simpa using(xbk.1 n).1
  rw[d i ht]at s;have S:j<=i:=by simpa using s
  rw[YU ht]at n;cases n;obtain g|hge:=xbW j i
  have⟨e,t,u,B⟩:=Zc<|A i mT ht j g;have hl:=hv e t u;rw[B]at hl;have v:=d j mT;have C:j<b.size:=mT
  simp only[xbw,xdB C,xdb]at hl v;rw[hl]at v;simp at v;omega
 intro c
 induction c with
 |zero=>
  intro j b a w hn hp D p d f;have:j=X l:=mT
  subst this;refine⟨?_,by simpa[V1]using f⟩
  cases E:xel .any l.toArray b with
  |nil=>rfl
  |cons i r=>
   have hi:i∈xel .any l.toArray b:=by rw[E];exact IR
   have G:=hd _ b hn hp p d i hi;have⟨s,o,n,_⟩:=mem_ready.1 hi;have:=(xbk.1 n).1;simp at this;omega
 |succ c H=>
  intro j b a w hn hp D p d f;rcases xbW j (X l) with g|hge
  have y:j∈xel .any l.toArray b:=by
   refine mem_ready.2 ⟨by rw[d j g];simp,yb l j,YU g,λe t u=> ?_⟩;have:=h1 j g e t u;have hl:=d e.on mT;have J:e.on<b.size:=mT
   simp only[xbw,xdB J,xdb]at hl⊢;rw[hl];simpa using this
  refine⟨λh=>(by rw[h]at y;cases y),λi hi=> ?_⟩;have:=hd j b hn hp p d i hi;subst this;rw[xca g]at f;have L:l[i]=yb l i:=by simp[yb,g]
  unfold V1 at f;unfold wpOpIn;rw[YU g];simp only[<-L];have next:∀a w,V1 N.F 0 P l.toArray q (l.drop<|i+1) a w->bV N.F 0 P .any l.toArray q c (b.setIfInBounds i true) a w:=λa w h=>
   H (i+1) _ a w mT mT mT (by simpa using p) (λk M=>by
    by_cases z:i=k;subst z;have:i<b.size:=mT
    simp[this];rw[Kw qR z,d k M];simp only[decide_eq_decide];omega) h
  split;rename_i x;rw[iq x]at f;exact Oper.wpIn_mono next f
  rename_i x;rw[ir x]at f;exact⟨f.1,next _ _ f.2⟩;have:j=X l:=mT
  subst this;refine⟨λ_=>by simpa[V1]using f,λi hi=> ?_⟩;have G:=hd _ b hn hp p d i hi;have⟨s,o,n,_⟩:=mem_ready.1 hi;have:=(xbk.1 n).1;simp at this;omega
def lk(hc:Vi l m=qR){q:lm->QR->jP->Prop}:∀(c j:K) (b:Z5 uS) (a:QR) (w:jP),m<=j->j<=X l->X l-j<=c->b.size=X l->
 (∀k,k<X l->b.getD k qR=decide (k<j))->V1 N.F 0 P l.toArray q (l.drop j) a w->bV N.F 0 P .any l.toArray q c b a w:=by
 have⟨h0,h1,R,A,_⟩:=Y9 hc;have hd:∀(j:K) (b:Z5 uS),m<=j->j<=X l->b.size=X l->(∀k,k<X l->b.getD k qR=decide (k<j))->∀i,i∈xel .any l.toArray b->i=j:=by
  intro j b hn hp p d i hi;have⟨s,o,g,hv⟩:=mem_ready.1 hi;have ht:i<X l:=by simpa using(xbk.1 g).1
  rw[d i ht]at s;have S:j<=i:=by simpa using s
  rw[YU ht]at g;cases g;obtain n|hge:=xbW j i
  have⟨e,t,u,B⟩:=Zc<|A i mT ht;have hl:=hv e t u;rw[B]at hl;have v:=d (i-1) mT;have C:i-1<b.size:=mT
  simp only[xbw,xdB C,xdb]at hl v;rw[hl]at v;simp at v;omega;omega
 intro c
 induction c with
 |zero=>
  intro j b a w hn hp D p d f;have:j=X l:=mT
  subst this;refine⟨?_,by simpa[V1]using f⟩
  cases E:xel .any l.toArray b with
  |nil=>rfl
  |cons i r=>
   have hi:i∈xel .any l.toArray b:=by rw[E];exact IR
   have G:=hd _ b hn hp p d i hi;have⟨s,o,g,_⟩:=mem_ready.1 hi;have:=(xbk.1 g).1;simp at this;omega
 |succ c H=>
  intro j b a w hn hp D p d f;rcases xbW j (X l) with n|hge
  have y:j∈xel .any l.toArray b:=by
   refine mem_ready.2 ⟨by rw[d j n];simp,yb l j,YU n,λe t u=> ?_⟩;have:=h1 j n e t u;have hl:=d e.on mT;have J:e.on<b.size:=mT
   simp only[xbw,xdB J,xdb]at hl⊢;rw[hl];simpa using this
  refine⟨λh=>(by rw[h]at y;cases y),λi hi=> ?_⟩;have:=hd j b hn hp p d i hi;subst this;rw[xca n]at f;have L:l[i]=yb l i:=by simp[yb,n]
  unfold V1 at f;unfold wpOpIn;rw[YU n];simp only[<-L];have next:∀a w,V1 N.F 0 P l.toArray q (l.drop<|i+1) a w->bV N.F 0 P .any l.toArray q c (b.setIfInBounds i true) a w:=λa w h=>
   H (i+1) _ a w mT mT mT (by simpa using p) (λk M=>by
    by_cases z:i=k;subst z;have:i<b.size:=mT
    simp[this];rw[Kw qR z,d k M];simp only[decide_eq_decide];omega) h
  split;rename_i x;rw[iq x]at f;exact Oper.wpIn_mono next f
  rename_i x;rw[ir x]at f;exact⟨f.1,next _ _ f.2⟩;have:j=X l:=mT
  subst this;refine⟨λ_=>by simpa[V1]using f,λi hi=> ?_⟩;have G:=hd _ b hn hp p d i hi;have⟨s,o,g,_⟩:=mem_ready.1 hi;have:=(xbk.1 g).1;simp at this;omega
def zhs{id:K}(m:K)(d:wF Pr)(ts:wF Wn)(hm:P.follows .mixedOrders=qR)(hc:Vi l m=qR)(hl:X d=m)(hd:(l.all λo=>ke N.n o.dst)=qR)
 (hY:Obs P l.toArray ms Γ i9 ((l.take m).zip d) [])
 (a3:∀(S:K->Prop) (w:jP) (H:xr),(∀k,w.heap.size<=k->S k)->zD S Γ w->Q0 (Kof ((l.take m).zip d) []) i9 H S w ts->
  ∃s r,zD S s w/\aB H r/\∀rest,TL P N we Se ms s l.toArray (l.drop m) Q<|L r rest):
 T P N we Se ms Γ (.region id l.toArray qR) Q i9:=by
 intro w0 a9 a0 b0 b3 b4;have⟨h0,h1,h2,h3,c0⟩:=Y9 hc;have⟨s1,s2,s3,S,s4,s5,s6,s7,s8⟩:=a9;have mk:∀w' Δ,b7 w0 w'->zD S Δ w'->St we Se ms Δ w':=λw' Δ x c1=>
  ⟨s1.trans x,s2,s3,S,s4,λk f=>s5 k<|xao x.size f,s6,yV.keep x.to (λm hm i hi=>x.block i (yV.lt s7 m hm i hi) ul) s7,c1⟩
 have c8:X ((l.take m).zip d)=m:=by simp;omega
 have hD:∀i,i<m->∃u,((l.take m).zip d)[i]? =Z (yb l i,u):=λi hi=>by
  have hn:i<X l:=mT
  refine⟨d[i]'mT,?_⟩;rw[xfb];refine⟨?_,m7⟩;rw[xbF,iq hi];simp[yb,hn]
 have hp:∀i x,((l.take m).zip d)[i]? =Z x->i<m/\x.1=yb l i:=λi x hx=>by
  have hi:i<m:=by have:=(xaA.1 hx).1;omega
  have⟨u,h⟩:=hD i hi;rw[h]at hx;cases hx;exact⟨hi,O⟩
 refine wpIn_region_any hm ?_
 have c2:∀(g:K) (b:Z5 uS) (a:QR) (w:jP),(xaL (X l)).countP (λk=> !b.getD k qR)<=g->b.size=X l->a.tmps.size=N.n->a.defers=N.ds->b7 w0 w->
  (∀i,m<=i->i<X l->b.getD i qR=I)->
  (∀i,i<X l->b.getD i I=qR->∀e∈(yb l i).after,xcu .any e=qR->b.getD e.on I=qR)->
  (∀t,((∀i,i<m->b.getD i I=qR->(yb l i).dst≠Z t)/\yf a t=i9 t)\/
   ∃i u,i<m/\b.getD i I=qR/\((l.take m).zip d)[i]? =Z (yb l i,u)/\(yb l i).dst=Z t/\(∀J,J<m->b.getD J I=qR->(yb l J).dst=Z t->J<=i)/\u.p S (yf a t) w)->
  bV N.F 0 P .any l.toArray (zdg N Q) g b a w:=by
  intro g
  induction g with
  |zero=>
   intro b a w hN hM b1 b2 x hq hA M;have E:∀k,k<X l->b.getD k qR=qR:=λk f=>by
    have hz:(xaL (X l)).countP (λk=> !b.getD k qR)=0:=mT
    rw[List.countP_eq_zero]at hz;have:=hz k<|xbf.2 f;simpa using this
   have c9:m=X l:=by
    rcases xbW m (X l) with R|hge
    have h5:=hq m (Nm _) R;rw[E m R]at h5;cases h5
    omega
   have hJ:=zD.keep x.to s8;have⟨s,r,f1,f2,f3⟩:=a3 S w (yf a) (λk f=>s5 k<|xao x.size f) hJ (ay ts λt _=>hK hD hp M (λi hi=>by
    have B:=E i mT;rwa[c (by omega:i<b.size)]at B))
   refine lk hc 0 m b a w (Nm _) h0 mT hM (λk f=>by rw[E k f];simp;omega) ?_;exact f3 (yf a) w (mk w s x f1) a b1 b2 (Ud f2).symm
  |succ g ih=>
   intro b a w hN hM b1 b2 x hq hA M;by_cases E:∀k,k<m->b.getD k qR=qR
   have hJ:=zD.keep x.to s8;have⟨s,r,f1,f2,f3⟩:=a3 S w (yf a) (λk f=>s5 k<|xao x.size f) hJ (ay ts λt _=>hK hD hp M (λi hi=>by
    have B:=E i hi;rwa[c (by omega:i<b.size)]at B))
   have hZ:∀k,k<X l->b.getD k qR=decide (k<m):=λk f=>by
    by_cases hR:k<m;rw[E k hR];simp[hR];rw[hq k mT f];simp[hR]
   refine lk hc (g+1) m b a w (Nm _) h0 (xao ?_ hN) hM hZ ?_;rw[show(xaL (X l)).countP (λk=> !b.getD k qR)=(xaL (X l)).countP (λk=> !decide (k<m))from List.countP_congr λk f=>by rw[hZ k<|xbf.1 f]];exact count_ge m (X l);exact f3 (yf a) w (mk w s x f1) a b1 b2 (Ud f2).symm;have h4:∃k,k<m/\b.getD k qR=I:=by
    by_cases hh:∃k,k<m/\b.getD k qR=I;exact hh
    exact kW (λk f=>by
     cases hb:b.getD k qR
     exact kW ⟨k,f,hb⟩ hh;rfl) E
   refine⟨λhr=> ?_,λi hi=> ?_⟩
   exfalso;have⟨k,f,hS,h9⟩:=first_un h4;have:k∈xel .any l.toArray b:=mem_ready.2 ⟨hS,yb l k,YU mT,λe G hb=>by
    have h5:=h1 k mT e G hb;have B:=h9 e.on h5;rwa[c (by omega:e.on<b.size)]at B⟩
   rw[hr]at this;cases this
   have⟨hu,o,ho,hB⟩:=mem_ready.1 hi;have hn:i<X l:=by simpa using(xbk.1 ho).1
   rw[YU hn]at ho;cases ho;have hT:i<m:=by
    obtain h|h:=xbW i m
    exact h;exfalso;by_cases h':m=i;subst h';have⟨k,f,hS⟩:=h4;have B:=bW hA h1 16 m k hn hB<|c0 hn k f;rw[<-c (by omega:k<b.size),hS]at B;cases B
    have⟨e,G,hb,hL⟩:=Zc<|h3 i mT hn;have B:=hB e G hb;rw[hL,<-c (by omega:i-1<b.size),hq (i-1) mT mT]at B;cases B
   have⟨u,a4⟩:=hD i hT;have c3:=zcs _ [] i _ hY a4;have hC:∀t,(t∈xbn l.toArray (yb l i)\/(yb l i).dst=Z t)->∀j,j<m->(yb l j).dst=Z t->j≠i->(b.getD j I=qR↔j<i):=by
    intro t ht j C hG hU;have h7:=h2 i j t hT C hU hG ht;constructor;intro z;obtain h|h:=xbW j i
    exact h;exfalso;have⟨e,G,hb,hL⟩:=Zc (h7.2 mT);have h8:=hA j mT z e G hb;rw[hL,<-c (by omega:i<b.size),hu]at h8;cases h8
    intro D;have⟨e,G,hb,hL⟩:=Zc<|h7.1 D;have h8:=hB e G hb;rwa[hL]at h8
   have a5:b.getD i I=I:=by rw[<-c (by omega:i<b.size)];exact hu
   have hV:Q0 (Kof (((l.take m).zip d).take i) []) i9 (yf a) S w (xbn l.toArray<|yb l i):=by
    refine ay _ λt ht=> ?_;have tk:∀(j:K) (y:Wd×Pr),(((l.take m).zip d).take i)[j]? =Z y->j<i/\((l.take m).zip d)[j]? =Z y:=λj y U=>by
     rw[xbF]at U;split at U;exact⟨by assumption,U⟩;cases U
    unfold Xv;rcases se t (((l.take m).zip d).take i) []with⟨j,y,g1,A,g3,g4⟩|⟨g1,A⟩
    rw[g4];have⟨D,U⟩:=tk j y g1;have⟨V,hW⟩:=hp j y U;rw[hW]at A;have z:=(hC t (.inl ht) j V A mT).2 D;rcases M t with⟨f1,_⟩|⟨k,q,k1,k2,k3,k4,k5,Y⟩
    exact kW A<|f1 j V z;have hX:k=j:=by have a1:=k5 j V z A;have hH:k<i:=(hC t (.inl ht) k k1 k4<|λe=>by subst e;rw[a5]at k2;cases k2).1 k2;have a2:=g3 k (yb l k,q) (by rw[xbF,iq hH];exact k3) k4;omega
    subst hX;rw[k3]at U;cases U;exact Y
    rw[A];simp only[List.find?_nil];rcases M t with⟨_,f2⟩|⟨k,q,k1,k2,k3,k4,k5,Y⟩
    exact f2;exfalso;have hH:k<i:=(hC t (.inl ht) k k1 k4<|λe=>by subst e;rw[a5]at k2;cases k2).1 k2;exact g1 k (yb l k,q) (by rw[xbF,iq hH];exact k3) k4
   have hJ:=zD.keep x.to s8;have hO:=c3 S w (yf a) (λk f=>s5 k<|xao x.size f) (yV.keep x.to (λm hm i hi=>x.block i (yV.lt s7 m hm i hi) ul) s7) hJ hV;have c4:ke N.n (yb l i).dst=qR:=by
    rw[xaV]at hd;refine hd _ ?_;have:yb l i=l[i]:=by simp[yb,hn]
    rw[this];exact xbI _
   have next:∀v w',b7 w w'->u.p S v w'->bV N.F 0 P .any l.toArray (zdg N Q) g (b.setIfInBounds i true) (a.put (yb l i).dst v) w':=by
    intro v w' x' hv;have hP:i<b.size:=mT
    refine ih _ _ w' ?_ (by simpa using hM) (by rw[aN];exact b1) (by rw[WO];exact b2) (x.trans x') (λk c5 f=> ?_) (λk f a6 e G hb=> ?_)<|λt=> ?_;have:=(AD hP hu<|xaL (X l)).2<|xbf.2 hn;omega;rw[Kw qR mT];exact hq k c5 f;by_cases hH:i=k;subst hH;exact aP<|hB e G hb;rw[Kw I hH]at a6;exact aP<|hA k f a6 e G hb;rw[Wz<|by rw[b1];exact aK c4];by_cases hI:(yb l i).dst=Z t;right;refine⟨i,u,hT,by simp[hP],a4,hI,λj C z hG=> ?_,?_⟩;by_cases D:i=j;omega;rw[Kw I D]at z;have:=(hC t (.inr hI) j C hG mT).1 z;omega;rw[hI];simpa[put,L]using hv;have a7:put (yf a) (yb l i).dst v t=yf a t:=by
     cases c6:(yb l i).dst with
     |none=>rfl
     |some dd=>
      have hU:¬t=dd:=λe=>hI (by rw[c6,e]);have:xak t dd=I:=YX hU;simp[put,L,this]
    rw[a7];rcases M t with⟨f1,f2⟩|⟨k,q,k1,k2,k3,k4,k5,Y⟩
    refine .inl ⟨λj C z=> ?_,f2⟩;by_cases D:i=j;subst D;exact hI;rw[Kw I D]at z;exact f1 j C z;refine .inr ⟨k,q,k1,aP k2,k3,k4,λj C z hG=> ?_,q.keep Y x'⟩;by_cases D:i=j;subst D;exact kW hG hI;rw[Kw I D]at z;exact k5 j C z hG
   unfold wpOpIn;rw[YU hn];simp only[Vc];cases hQ:xb l.toArray (yf a) (yb l i)
   simp only[xam,Z9];exact⟨λ_ _=>ul,next undef w (yL.refl _ _) (hO.2 hQ)⟩;simp only[Xs];exact(hO.1 hQ).wp λv w' a8=>next v w' a8.1 a8.2
 refine c2 l.toArray.size _ a0 _ ?_ m7 b0 b3 (b7.drawn w0 _) (λi h' hi=>by simp[hi]) (λi hi R=> ?_)<|λt=> .inl ⟨λi hi R=> ?_,by rw[b4]⟩;exact xao (List.countP_le_length) m7
 have:i<(xdl l.toArray.size I).size:=by simpa using hi
 rw[<-c this]at R;simp[hi]at R;have hn:i<X l:=mT
 have:i<(xdl l.toArray.size I).size:=by simpa using hn
 rw[<-c this]at R;simp[hn]at R
 where
 c {b:Z5 uS}{i:K} (h:i<b.size):b.getD i qR=b.getD i I:=by simp[xbw,xdB h]
 first_un {m:K}{b:Z5 uS} (h:∃k,k<m/\b.getD k qR=I):∃k,k<m/\b.getD k qR=I/\∀j,j<k->b.getD j qR=qR:=by
  have⟨k,f,hu⟩:=h
  induction k using xdG with
  |_ k ih=>
   by_cases hh:∃j,j<k/\b.getD j qR=I;have⟨j,C,c7⟩:=hh;exact ih j C mT c7;refine⟨k,f,hu,λj C=> ?_⟩;cases hb:b.getD j qR
   exact kW ⟨j,C,hb⟩ hh;rfl
 count_ge (m:K):∀n,n-m<=(xaL n).countP (λk=> !decide (k<m))
  |0=>by simp
  |n+1=>by
   have:=count_ge m n;rw[xdm,List.countP_append];by_cases h:n<m;omega;simp[h];omega
 hK {d:wF Pr}{b:Z5 uS}{a:QR}{w:jP}{S:K->Prop}{l:wF Wd}{m:K}{i9:xr} (hD:∀i,i<m->∃u,((l.take m).zip d)[i]? =Z (yb l i,u)) (hp:∀i x,((l.take m).zip d)[i]? =Z x->i<m/\x.1=yb l i)
  (M:∀t,((∀i,i<m->b.getD i I=qR->(yb l i).dst≠Z t)/\yf a t=i9 t)\/
   ∃i u,i<m/\b.getD i I=qR/\((l.take m).zip d)[i]? =Z (yb l i,u)/\(yb l i).dst=Z t/\(∀J,J<m->b.getD J I=qR->(yb l J).dst=Z t->J<=i)/\u.p S (yf a t) w)
  (E:∀i,i<m->b.getD i I=qR) {t:Wn}:Xv (Kof ((l.take m).zip d) []) i9 (yf a) S w t:=by
  unfold Xv;rcases se t ((l.take m).zip d) []with⟨j,y,g1,A,g3,g4⟩|⟨g1,A⟩
  rw[g4];have⟨V,hW⟩:=hp j y g1;rw[hW]at A;rcases M t with⟨f1,_⟩|⟨k,q,k1,k2,k3,k4,k5,Y⟩
  exact kW A<|f1 j V<|E j V;have hX:k=j:=by have a1:=k5 j V (E j V) A;have a2:=g3 k (yb l k,q) k3 k4;omega
  subst hX;rw[k3]at g1;cases g1;exact Y
  rw[A];simp only[List.find?_nil];rcases M t with⟨_,f2⟩|⟨k,q,k1,k2,k3,k4,k5,Y⟩
  exact f2;exact kW k4<|g1 k (yb l k,q) k3
end
end
section
def zdR{we:jP}{Se:K->Prop}{ms a:N MF}{Γ b:N FF}{R:jP->Prop}(c:∀w,St we Se ms Γ w->St we Se a b w)(k:∀w,St we Se a b w->R w):∀w,St we Se ms Γ w->R w:=
 λw h=>k w<|c w h
def zlG{a b:K}:xcv.wrap ((a:J)+(b:J))=(((a+b)%18446744073709551616:K):J):=by rfl
def zkt{a b:K}:xcv.wrap ((a:J)*(b:J))=(((a*b)%18446744073709551616:K):J):=by rfl
def zjt{a b:K}(h:b<=18446744073709551616):xcv.wrap ((a:J)-(b:J))=(((a+18446744073709551616-b)%18446744073709551616:K):J):=by rw[EC];lia
def zo7{a:K}(h:a<18446744073709551616):xcv.wrap (0-(a:J))=(((18446744073709551616-a)%18446744073709551616:K):J):=by rw[EC];lia
def zeb{a b:K}(h:a<18446744073709551616):xcv.wrap ((a:J).tdiv (b:J))=((a/b:K):J):=by exact sW<|xaI (xcI _ _) h
def zri{a b:K}:(a:J).tmod (b:J)=((a%b:K):J):=(Int.ofNat_tmod a b).symm
section
variable{P:Z2}{N:Nd}{we:jP}{Se:wP->Prop}{ms:wF MF}{Γ:wF FF}{Q:Qs}{H:xr}{ops:Z5 Wd}{rest:wF Wd}
 {d:wS Wn}{ty yt t:ut}{wl:String}{wn:Z5 Edge}{g:wS (wP×uS)}{x y:uL}
def Rh{a n cap:K}{b:V aC}(c:P.underlying t=Z (.slice a))(e:ev H x=.slice b n cap)(w:jP):
 (uT (ev H) ⟨d,.call ⟨.builtin .len,#[x],#[t]⟩,ty,wl,wn,g⟩).run P w=.ok (.value (.int .i64 (n:J))) w:=by
 simp[uT,WR,V3,am,e,Builtin.len_,pU,Z3 c]
def LA{α:Type}{e:zZ α}{E c:K}{v:jp}{xs:wF α}(i:K)(f:ms[i]? =Z (mO e E v xs))(a:P.underlying t=Z (.slice c))(b:ev H x=v):
 Oz P ⟨d,.call ⟨.builtin .len,#[x],#[t]⟩,ty,wl,wn,g⟩ H ms Γ (λ_:Wl=> .int .i64 (X xs:J)) (λ_=>[]) (λ_=>X xs<=9223372036854775807):=by
 intro w S _ h _;have⟨cs,h1,l⟩:=yV.get h f;rcases h1.2 with⟨rfl,h0⟩|⟨m,cap,j,rfl,hc,n,hd,k,_⟩
 refine uF.of_value (Rh a b w) ⟨(),by rw[h0],W,yL.refl _ _,ul⟩;exact uF.of_value (Rh a b w) ⟨(),O,by unfold JP at k;lia,yL.refl _ _,ul⟩
end
end
section
def zke{P:Z2}{f:Wf}{fn:V0}{e:Z5 jp->Sem jp}{args:Z5 jp}{w:jP}{v:jp}(a:P.funcs[f]? =Z fn)(hn:(fn.name== "runtime.NumGoroutine")=I)(b:fn.body=wW)
 (h1:(xeS fn).isNone=qR) (c:xfe fn=Z e) (d:(e args).run P w=.ok v w):(rC f args).run P w=.ok (.value v) w:=by simp_all [rC]
section
variable{P:Z2}{H:xr}{d:wS Wn}{ty:ut}{wl:String}{wn:Z5 Edge}{g:wS (wP×uS)}
def zlU{f:Wf}{fn:V0}{e:Z5 jp->Sem jp}{asv:N uL}{ts:Z5 ut}{args:N jp}{v:jp}(a:P.funcs[f]? =Z fn)(hn:(fn.name== "runtime.NumGoroutine")=I)(b:fn.body=wW)
 (h1:(xeS fn).isNone=qR) (c:xfe fn=Z e) (h:asv.map (ev H)=args) (i:∀w,(e args.toArray).run P w=.ok v w) (w:jP):
 (uT (ev H) ⟨d,.call ⟨.value (.func f),asv.toArray,ts⟩,ty,wl,wn,g⟩).run P w=.ok (.value v) w:=by
 have:=zke (P:=P) (args:=args.toArray) (w:=w) a hn b h1 c<|i w;simp[uT,WR,ev,xda,V3,h,this]
def zih(s:String)(x y c:jp):∃z:String,xbN s #[x,y,c]=(do
 let c:=(<-ii c).toNat
 if c>1 then unsupported (.noEntry z)
 pure ((<-ii x).toNat,(<-ii y).toNat,c)):=⟨_,O⟩
def HV(s:String){x y c:K}(hc:c<=1)(w:jP):(xbN s #[.int .u64 (x:J),.int .u64 (y:J),.int .u64 (c:J)]).run P w=.ok (x,y,c) w:=by
 have:¬c>1:=W
 have⟨z,a⟩:=zih s (.int .u64 x) (.int .u64 y) (.int .u64 c);rw[a];simp only[ii,UL,xay,xaX,xaq,xbb,this,Z9]
def zdG{x y c:K}(hc:c<=1)(w:jP):((do
 let(x,y,c)<-xbN "Add64" #[.int .u64 (x:J),.int .u64 (y:J),.int .u64 (c:J)]
 pure (xcr ((x+y+c)%xbg)<|(x+y+c)/xbg):Sem jp)).run P w=
  .ok (.tuple #[.int .u64 (((x+y+c)%18446744073709551616:K):J),.int .u64 (((x+y+c)/18446744073709551616:K):J)]) w:=by
 rw[xay,HV _ hc];rfl
def zdn{x y c:K}(hc:c<=1)(w:jP):((do
 let(x,y,b)<-xbN "Sub64" #[.int .u64 (x:J),.int .u64 (y:J),.int .u64 (c:J)]
 pure (xcr ((x+xbg-y-b)%xbg) (if x<y+b then 1 else 0)):Sem jp)).run P w=
  .ok (.tuple #[.int .u64 (((x+18446744073709551616-y-c)%18446744073709551616:K):J),.int .u64 ((if x<y+c then 1 else 0:K):J)]) w:=by
 rw[xay,HV _ hc];rfl
def zjZ{f:Wf}{fn:V0}{a b c:uL}{ts:Z5 ut}{x y z:K}(e:P.funcs[f]? =Z fn)(hn:(fn.name== "runtime.NumGoroutine")=I)(h:fn.body=wW)
 (h1:(xeS fn).isNone=qR) (i:xfe fn=Z (λargs=>do
  let(x,y,c)<-xbN "Add64" args
  pure (xcr ((x+y+c)%xbg)<|(x+y+c)/xbg)))
 (j:ev H a=.int .u64 (x:J)) (hc:ev H b=.int .u64 (y:J)) (hd:ev H c=.int .u64 (z:J)) (k:z<=1) (w:jP):
 (uT (ev H) ⟨d,.call ⟨.value (.func f),#[a,b,c],ts⟩,ty,wl,wn,g⟩).run P w=
  .ok (.value (.tuple #[.int .u64 (((x+y+z)%18446744073709551616:K):J),.int .u64 (((x+y+z)/18446744073709551616:K):J)])) w:=
 zlU e hn h h1 i (by simp[j,hc,hd]) (λw=>zdG k w) w
def zlf{f:Wf}{fn:V0}{a b c:uL}{ts:Z5 ut}{x y z:K}(e:P.funcs[f]? =Z fn)(hn:(fn.name== "runtime.NumGoroutine")=I)(h:fn.body=wW)
 (h1:(xeS fn).isNone=qR) (i:xfe fn=Z (λargs=>do
  let(x,y,b)<-xbN "Sub64" args
  pure (xcr ((x+xbg-y-b)%xbg) (if x<y+b then 1 else 0))))
 (j:ev H a=.int .u64 (x:J)) (hc:ev H b=.int .u64 (y:J)) (hd:ev H c=.int .u64 (z:J)) (k:z<=1) (w:jP):
 (uT (ev H) ⟨d,.call ⟨.value (.func f),#[a,b,c],ts⟩,ty,wl,wn,g⟩).run P w=
  .ok (.value (.tuple #[.int .u64 (((x+18446744073709551616-y-z)%18446744073709551616:K):J),.int .u64 ((if x<y+z then 1 else 0:K):J)])) w:=
 zlU e hn h h1 i (by simp[j,hc,hd]) (λw=>zdn k w) w
end
def zkN(P:Z2)(w:jP)(H:xr):V5->jp->Prop
 |.tmp t,v=>H t=v
 |.cell a t,v=>∃b,H a=.pointer (Z b)/\(oK t b).run P w=.ok v w
def gW(P:Z2)(w:jP)(H:xr):N V5->N jp->Prop
 |[],[]=>Ws
 |r::rs,v::vs=>zkN P w H r v/\gW P w H rs vs
 |_,_=>UT
def SB(P:Z2)(w:jP)(a:QR):∀(rs:N V5) (vs:N jp),gW P w (yf a) rs vs->(rs.mapM<|CZ a.tmps).run P w=Result.ok vs w
 |[],[],_=>by simp
 |r::rs,v::vs,⟨h1,c⟩=>by
  have f:=SB P w a rs vs c;have h:(CZ a.tmps r).run P w=.ok v w:=by
   cases r with
   |tmp t=>simp only[zkN]at h1;simp[CZ,<-h1,yf]
   |cell x t=>
    have⟨d,e1,e⟩:=h1;have b:a.tmps.getD x XS=.pointer (Z d):=e1;simp only[CZ,b,xay,asAddr,xaX,xaq,e]
  simp_all
 |[],_::_,h=>h.elim
 |_::_,[],h=>h.elim
def ZI:N jp->jp
 |[v]=>v
 |vs=> .tuple vs.toArray
def ZC{P:Z2}{fn:V0}{rs:N V5}{vs:N jp}{w:jP}{a:QR}(b:fn.results=rs.toArray)(h:gW P w (yf a) rs vs):(V6 fn a.tmps).run P w=.ok (ZI vs) w:=by
 have e:V6 fn a.tmps=(do let vs<-fn.results.mapM (CZ a.tmps);pure (if h:vs.size=1 then vs[0]else .tuple vs)):=by rfl
 rw[e,b,Array.mapM_eq_mapM_toList];have:=SB P w a rs vs h;simp only[xay,Sem.run_map,this]
 match vs with
 |[]=>simp[ZI]
 |[v]=>simp[ZI]
 |v::u::r=>simp[ZI]
section
variable{P:Z2}{we:jP}{Se:wP->Prop}{ms:wF MF}{Γ:wF FF}{H:xr}{U:Type}{wD:U->jp}{ww:U->wF FF}{ok:U->Prop}{fn:V0}
def zi3{α:Type}{e:zZ α}{E b:K}{z:α}{w:jP}{bytes:K}{d:jp}{R:Prop}{a:Wn}(i:K)(g:St we Se ms Γ w)(h:ms[i]? =Z (mB e.c E b z))(j:H a=.pointer (Z ⟨b,0,wW⟩))
 (ht:JN P E e.agg e.n bytes d) (k:∀v,St we Se ms (fV e z v::Γ) w->zkN P w H (.cell a E) v->R):R:=by
 have⟨h1,l,m,S,o,p,q,f,r⟩:=g;have⟨cs,s,hp⟩:=yV.get f h;have hc:=At.row s;exact k (e.val cs.toList) ⟨h1,l,m,S,o,p,q,f,⟨cs.toList,O,hp⟩,r⟩ ⟨_,j,fU ht hp hc⟩
end
def FnG{U:Type}(P:Z2)(f:Wf)(args:Z5 jp)(ms:N MF)(Γ:N FF)(a:U->jp)(own:U->N MF)(b:U->N FF)(ok:U->Prop):Prop:=
 ∀we Se F G w,St we Se (ms++F) (Γ++G) w->bi P f args w (λe w'=>∃u,e=.returned (a u)/\ok u/\St we Se (own u++F) (b u++G) w')
section
variable{P:Z2}{N:Nd}{we:jP}{Se:wP->Prop}{ms F:wF MF}{Γ G:wF FF}{Q:Qs}{H:xr}{U:Type}{wD:U->jp}{own:U->wF MF}{ww:U->wF FF}{ok:U->Prop}{fn:V0}
 {ops:Z5 Wd}{rest:wF Wd}{d:wS Wn}{ty:ut}{wl:String}{wn:Z5 Edge}{g:wS (wP×uS)}
def FnG.plain{f:Wf}{args:Z5 jp}(h:FnG P f args [] Γ wD (λ_=>[]) ww ok):Fn P f args Γ wD ww ok:=by intro w Se b a;refine(h w Se [] [] w<|St.nil (by simpa using a) b).mono ?_;rintro e w' ⟨u,h1,c,i⟩;have:=i.out (λS w h=>by simpa using h);exact⟨u,h1,c,this.1,this.2⟩
def FnG.frozen{f:Wf}{args:Z5 jp}{Δ:U->wF FF}(h:FnG P f args [] Γ wD own ww ok)
 (b:∀(u:U) (w':jP) (we:jP) (Se:K->Prop),St we Se (own u) (ww u) w'->St we Se [] (Δ u) w'):Fn P f args Γ wD Δ ok:=by
 intro w Se c a;refine(h w Se [] [] w<|St.nil (by simpa using a) c).mono ?_;rintro e w' ⟨u,h1,i,j⟩;have:=(b u w' w Se<|by simpa using j).out<|λS w h=>h;exact⟨u,h1,i,this.1,this.2⟩
end
def RU:∀{ms:N MF}{i:K}{m:MF},QX ms->ms[i]? =Z m->QX (m::ms.eraseIdx i):=by intro ms i m h e;refine⟨λk b m' a hc=> ?_,?_⟩;rw[List.mem_eraseIdx_iff_getElem?]at a;have⟨j,c,d⟩:=a;exact ga h e k b j m' c d hc;exact Um i h
def St.front{we:jP}{Se:K->Prop}{ms:N MF}{Γ:N FF}{w:jP}{m:MF}(i:K)(h:St we Se ms Γ w)(hi:ms[i]? =Z m):St we Se (m::ms.eraseIdx i) Γ w:=by
 have⟨h1,b,c,S,d,e,f,a,g⟩:=h;refine⟨h1,b,RU c hi,S,d,e,λm' hm'=> ?_,⟨yV.get a hi,br i a⟩,g⟩;obtain rfl|hm':=xal.1 hm'
 grind;exact f m'<|xdL hm'
def ziR{m:K}(h:m<=9223372036854775807):xdf.wrap (m:J)=(m:J):=w64 W
def Ph{P:Z2}{w:jP}(t r ty e:ut)(i:rO)(z:jp)(size bytes:K){ik:Wr}(ht:P.underlying t=Z (.slice e))(hl:P.underlying r=Z (.int ik))(hi:P.info? e=Z i)(s:i.zero=Z z)
 (M:i.size=size) (Q:i.bytes=bytes) (D:z.cells.size=size) (R:∀u∈z.cells.toList,u.oneCell'=qR) (x:0<size)
 (v:jp) (n:K) (xs:N jp) (f:w.ownsRow 0 e size v n xs) (m:K)
 (E:n+m<=JP) (hd:(n+m)*bytes<=140737488355328):
 ∃y w',(xcg #[t,r] ty #[v,.int .i64 (m:J)]).run P w=.ok y w'/\w'.ownsRow 0 e size y (n+m) (xs++(xbr z.cells m).toList)/\w.grownBy w' v.ownBlock/\
  ∀k,y.ownBlock=Z k->v.ownBlock=Z k\/w.heap.size<=k:=by
 subst M;subst Q;have hK:n+m<=9223372036854775807:=by simp only[JP]at E;lia
 have F:(xbr z.cells m).toList.length=m*i.size:=by simp[gS,D]
 have o:X (xs++(xbr z.cells m).toList)=(n+m)*i.size:=by rw[xau,f.1,F,xbl]
 have A:=ziR (m:=m) W;have hn:¬((m:J)<0):=W
 have S:¬((m:J)*(i.bytes:J)>281474976710656):=by
  have h1:m*i.bytes<=(n+m)*i.bytes:=xag _ W;have:((m*i.bytes:K):J)<=140737488355328:=W
  rw[Int.natCast_mul]at this;lia
 have hp:¬(281474976710656<(m:J)*(i.bytes:J)):=S
 have a:∀(old:K),old<n+m->∀(h:V K),
  (w.drew.alloc (.cells (xs.toArray++xbr z.cells m++xbr z.cells (eM w (n+m) old e-(n+m))) e)).ownsRow 0 e i.size
   (.slice (Z ⟨w.heap.size,0,wW⟩) (n+m)<|eM w (n+m) old e) (n+m) (xs++(xbr z.cells m).toList)/\
  w.grownBy (w.drew.alloc (.cells (xs.toArray++xbr z.cells m++xbr z.cells (eM w (n+m) old e-(n+m))) e)) h:=by
  intro old ho h;have T:=grownCap_ge w (n+m) old e;have B:eM w (n+m) old e<=JP:=grownCap_le_maxLen w (n+m) old e E;refine⟨⟨o,.inr ⟨w.heap.size,_,_,O,xah _,V4 w.drew _,T,B,?_,?_⟩⟩,⟨O,O,O,m7,λk b _=>RowKit.Below.heap_alloc w.drew _ k b⟩⟩
  ·simp only[Array.size_append,List.size_toArray,gS,D,f.1,<-xbl];congr 1;lia
  ·simp only[Array.toList_append,xas];rw[<-xas,<-o];exact List.take_left
 rcases f.2 with⟨rfl,rfl⟩|⟨g,cap,c,rfl,U,G,Y,B,hR,hE⟩
 ·have hx:xs=[]:=xbq (by simpa using f.1);subst hx;by_cases d:m=0
  ·subst d;refine⟨.slice wW 0 0,w,?_,by simpa[xbr]using World.ownsRow_nil w 0 e i.size,⟨O,O,O,Nm _,λ_ _ _=>O⟩,λk b=> .inl b⟩;have e0:xdf.wrap 0=0:=m6
   simp[xcg,Z3 ht,Z3 hl,Jp,KW,hi,ii,UL,e0]
  ·have C:¬(9223372036854775807<(m:J)):=W
   have p:=gT (old:=0) (need:=0+m) (bytes:=i.bytes) W hd;have hv:¬(281474976710656<Builtin.nextslicecap m 0*i.bytes):=by simp only[xaM]at p;lia
   have l:=a 0 W<|Value.ownBlock (.slice wW 0 0);refine⟨_,_,?_,l.1,l.2,λk b=> .inr<|by cases b;exact Nm _⟩;simp[xcg,Z3 ht,Z3 hl,Jp,KW,fD,hi,s,ii,UL,A,d,C,hv,hn,hp,Question.forced,run_firstCells_none,fN,eM];intro h0;have:0<m*i.size:=xdn W x;lia
 ·by_cases hc:n+m<=cap
  ·have p:n*i.size+(xbr z.cells m).toList.length<=c.size:=by rw[F,hR,<-xbl];exact xag _ hc
   have h1:∀u∈(xbr z.cells m).toList,u.oneCell'=qR:=by
    intro u H;simp only[xbr,Array.toList_map,xat]at H;obtain⟨j,hj,rfl⟩:=H;have L:j%z.cells.size<z.cells.size:=xaQ _ W;rw[getElem!_pos z.cells _ L];exact R _<|xdS.2<|Array.getElem_mem L
   have q:=ce P g (n*i.size) e (xbr z.cells m).toList 0 c w G (by simpa using p) h1;simp only[xbV]at q
   have hr:(xcg #[t,r] ty #[.slice (Z ⟨g,0,wW⟩) n cap,.int .i64 (m:J)]).run P w=
    .ok (.slice (Z ⟨g,0,wW⟩) (n+m) cap) (w.setRow g (c.toList.take (n*i.size)++(xbr z.cells m).toList++c.toList.drop (n*i.size+(xbr z.cells m).toList.length)).toArray):=by
    by_cases d:m=0
    ·subst d;have e0:xdf.wrap 0=0:=m6
     have ez:(xbr z.cells 0)= #[]:=by simp[xbr]
     rw[ez]at q⊢;simp[xcg,Z3 ht,Z3 hl,Jp,KW,hi,ii,UL,e0,Y,Addr.add_lit,q]
    ·have hS:¬(m=0\/i.size=0):=W
     simp[xcg,Z3 ht,Z3 hl,Jp,KW,fD,hi,s,ii,UL,A,hn,hp,hc,hS,Addr.add_lit,q];intro h0;have:0<m*i.size:=xdn W x;lia
   refine⟨_,_,hr,⟨o,.inr ⟨g,cap,_,O,U,lW w g c _ e _ G,hc,B,?_,?_⟩⟩,⟨O,O,O,m7,λk _ b=>setRow_other w g k _<|λe=>b<|by simp[Value.ownBlock,e]⟩,λk b=> .inl b⟩
   ·simp only[List.size_toArray,xau,xan,xcn,xfc]at p⊢;lia
   ·rw[hE,<-o];exact List.take_left
  ·have hF:∀j u,xs[j]? =Z u->w.cell? ((⟨g,0,wW⟩:aC).add j)=Z u:=f.cells (g:=g) O;have C:¬(9223372036854775807<(n:J)+(m:J)):=W
   have hv:¬(281474976710656<Builtin.nextslicecap (n+m) cap*i.bytes):=by have:=gT (old:=cap) (need:=n+m) (bytes:=i.bytes) W hd;lia
   have l:=a cap W<|Value.ownBlock (.slice (Z ⟨g,0,wW⟩) n cap);have hT:=run_firstCells_some (P:=P) w.drew i.size n ⟨g,0,wW⟩ n cap xs f.1 (by simpa using hF);refine⟨_,_,?_,l.1,l.2,λk b=> .inr<|by cases b;exact Nm _⟩;by_cases d:m=0
   ·subst d;lia
   simp[xcg,Z3 ht,Z3 hl,Jp,KW,fD,hi,s,ii,UL,A,d,C,hv,hn,hp,hc,Question.forced,hT,fN,eM];intro h0;have:0<m*i.size:=xdn W x;lia
def sS{z:Z5 jp}{m:K}(a:z.size=m)(n:K):(xbr z n).toList=(So n z.toList).flatten:=by
 apply xcA;intro j;by_cases b:j<n*m
 ·have c:0<m:=xcV λh0=>by rw[h0]at b;simp at b
  have e1:(xbr z n).toList[j]? =z.toList[j%m]? :=by
   have:=xaQ j c;simp[xbr,a,b,this]
  rw[e1,zb4.flatten_get z.toList m (by simpa using a) c n j b];all_goals exact 0
 ·rw[xbA (by simp[gS,a];lia),xbA<|by simp[a];lia]
section
variable{P:Z2}{N:Nd}{we:jP}{Se:wP->Prop}{ms ms':wF MF}{Γ Γ':wF FF}{Q:Qs}{H:xr}{ops:Z5 Wd}{rest:wF Wd}
 {d:wS Wn}{ty yt t ti:ut}{wl:String}{wn:Z5 Edge}{g:wS (wP×uS)}{x y:uL}
def Tz{α:Type}{e:zZ α}{f:ut}{xs:wF α}{z:α}{n:K}{v:jp}{bytes:K}{a:jp}{ik:Wr}(i:K)(ht:P.underlying t=Z (.slice f))(D:P.underlying ti=Z (.int ik))(hv:JN P f e.agg e.n bytes a)(hd:a.cells.size=e.n)(hn:0<e.n)
 (o:ms[i]? =Z (mO e f v xs)) (E:ev H x=v) (F:ev H y=.int .i64 (n:J)) (q:∀(S:K->Prop) (w:jP),e.p S z a.cells.toList w)
 (hF:X xs+n<=9223372036854775807) (G:(X xs+n)*bytes<=140737488355328):OG P ⟨d,.call ⟨.builtin .append,#[x,y],#[t,ti]⟩,ty,wl,wn,g⟩ H we Se ms Γ (λc=>c) (λc=>(ms.set i<|mO e f c<|xs++So n z)) (λ_=>Γ) (λ_=>Ws):=by
 intro w r;have⟨S,_,⟨cs,l,he⟩,h8,_⟩:=r.mut o;have⟨L,hi,i1,i2,M⟩:=hv.info;have⟨c,w',R,hl,b,T⟩:=Ph (P:=P) t ti ty f L a e.n bytes ht D hi M i1 i2 hd (e.one<|q S w) hn v (X xs) cs l n (by unfold JP;lia) G;refine uF.of_value (w':=w') (v:=c) ?_ ⟨c,O,ul,r.grow o ⟨b.os,b.tape,b.output,b.size,λj U m=>b.block j U<|λe=>m e.symm⟩ T ?_⟩;simp only[uT,WR,V3,am,xej,xbT,xdX,E,F,xay,R,xaX,xaq];intro S V ⟨h,hp,Y⟩ a0;have hB:h=cs:=by
  rcases l.2 with⟨rfl,h0⟩|⟨g,cap,a3,rfl,_,hC,_,_,_,hD⟩
  have s:=l.1;have u:=hp.1;rw[h0]at s u;have c1:cs=[]:=xbq (by simpa using s);have c2:h=[]:=xbq (by simpa using u);rw[c1,c2];rcases hp.2 with⟨hc,_⟩|⟨g',A,B,hE,_,C,_,_,_,hq⟩
  cases hc
  cases hE;rw[hC]at C;cases C;rw[<-hD,<-hq]
 subst hB;have kk:yL S w w':=⟨b.os,b.tape,b.output,b.size,λk hk m=>b.block k hk<|λe=>V k m e.symm⟩;rw[sS hd]at hl;exact⟨_,by rw[xau,xaF];exact hl,(Y.keep kk).append<|yW.replicate (q _ _) n⟩
end
def zD.left{S:K->Prop}{w:jP}:∀{Γ Δ:N FF},zD S (Γ++Δ) w->zD S Γ w
 |[],_,_=>trivial
 |_::_,_,h=>⟨h.1,zD.left h.2⟩
def zD.right{S:K->Prop}{w:jP}:∀{Γ Δ:N FF},zD S (Γ++Δ) w->zD S Δ w
 |[],_,h=>h
 |_::_,_,h=>zD.right h.2
def Fn.ok_mono{U:Type}{P:Z2}{f:Wf}{args:Z5 jp}{Γ:N FF}{g:U->jp}{i:U->N FF}{ok d:U->Prop}(h:Fn P f args Γ g i ok)(j:∀u,ok u->d u):Fn P f args Γ g i d:=
 λw Se h1 k=>(h w Se h1 k).mono λe w' ⟨u,a,b,c⟩=>⟨u,a,j u b,c⟩
end
section
def rowT{α:Type}(e:zZ α)(cap:K):AH (N α)where
 p S xs cs w:=∃c post,cs=c++post/\yW e S xs c w/\X cs=cap*e.n
 keep:=λ⟨c,post,h1,a,b⟩ k=>⟨c,post,h1,a.keep k,b⟩
 sub:=λ⟨c,post,h1,a,b⟩ k=>⟨c,post,h1,a.sub k,b⟩
def Sub.rowT{α:Type}(e:zZ α)(cap:K)(xs:N α)(i:K)(x:α)(j:xs[i]? =Z x):Sub (rowT e cap) xs (i*e.n) e x (λy=>xs.set i y):=by rintro S w cs ⟨c0,a,rfl,k,hl⟩;obtain⟨d,c,b,rfl,l,f,m⟩:=Sub.row e xs i x j S w c0 k;refine⟨d,c,b++a,m7,l,f,λw' y g o h=>⟨d++g++b,a,m7,m w' y g o h,?_⟩⟩;have e1:=e.len f;have p:=e.len h;simp_all
def Sub.rowT0{α:Type}(e:zZ α)(cap:K)(xs:N α)(i:K)(x:α)(a:xs[i]? =Z x):Sub (Go.Proofs.YtoegnnjcmlghhaaGreat.rowT e cap) xs (0+i*e.n) e x (λy=>xs.set i y):=by rw[xaM];exact Sub.rowT e cap xs i x a
section
variable{we:jP}{Se:wP->Prop}{ms:wF MF}{Γ:wF FF}{w:jP}{α:Type}{e:zZ α}{E:ut}{xs:wF α}
theorem wI{i:K}{m:MF}(h:St we Se ms Γ w)(hi:ms[i]? =Z m){p:Prop}(hp:∀S:K->Prop,m.p S w->p):p:=by grind [St.muts]
def St.openO{v:jp}(i:K)(h:St we Se ms Γ w)(c:ms[i]? =Z (mO e E v xs))(hi:0<X xs):
 ∃g cap,v=.slice (Z ⟨g,0,wW⟩) (X xs) cap/\X xs<=cap/\cap<=9223372036854775807/\St we Se (ms.set i<|mB (rowT e cap) E g xs) Γ w:=by
 have:∃g cap,v=.slice (Z ⟨g,0,wW⟩) (X xs) cap/\X xs<=cap/\cap<=9223372036854775807:=wI h c λS ⟨cs,h1,b⟩=>by
  rcases h1.2 with⟨rfl,h0⟩|⟨g,cap,a,rfl,l,d,f,hc,hd,j⟩
  lia;exact⟨g,cap,O,f,hc⟩
 obtain⟨g,cap,rfl,h1,b⟩:=this;refine⟨g,cap,O,h1,b,h.conv c O λS ⟨cs,h1,b⟩=> ?_⟩;rcases h1.2 with⟨h0,_⟩|⟨m,k,a,hv,l,d,f,hc,hd,j⟩
 cases h0
 cases hv;refine⟨a,d,cs,a.toList.drop<|X xs*e.n,?_,b,by simpa using hd⟩;rw[<-j,xbK]
theorem St.closeO{g cap:K}(i n:K)(h:St we Se ms Γ w)(d:ms[i]? =Z (mB (rowT e cap) E g xs))(hn:n<=X xs)(hc:n<=cap)(k:cap<=9223372036854775807):
 St we Se (ms.set i<|mO e E (.slice (Z ⟨g,0,wW⟩) n cap)<|xs.take n) Γ w:=by
 refine h.conv d O λS ⟨cs,f,c,a,h1,b,j⟩=>⟨c.take<|n*e.n,?_,b.take n⟩;have hl:X (xs.take n)=n:=by simp;lia
 have hd:=b.len;have l:n*e.n<=X xs*e.n:=xag _ hn;rw[hl];refine⟨by simp;lia,.inr ⟨g,cap,cs,O,xah _,f,hc,by unfold JP;lia,by simpa using j,?_⟩⟩;grind
def St.closeF{g cap:K}(i:K)(h:St we Se ms Γ w)(a:ms[i]? =Z (mB (rowT e cap) E g xs))(hc:X xs<=cap)(b:cap<=9223372036854775807):
 St we Se (ms.set i<|mO e E (.slice (Z ⟨g,0,wW⟩) (X xs) cap) xs) Γ w:=by
 have:=h.closeO i (X xs) a (Nm _) hc b;simp_all
def St.rowRT{b n:K}(i:K)(h:St we Se ms Γ w)(c:ms[i]? =Z (mR e E b xs))(hn:n=X xs):St we Se (ms.set i<|mB (rowT e n) E b xs) Γ w:=
 h.conv c O λS ⟨cs,d,a⟩=>⟨cs,d,cs.toList,[],m7,a,by rw[hn];exact yW.len a⟩
end
section
variable{P:Z2}{N:Nd}{we:jP}{Se:wP->Prop}{ms:wF MF}{Γ:wF FF}{Q:Qs}{H:xr}{ops:Z5 Wd}{rest:wF Wd}
 {d:wS Wn}{ty yt t t':ut}{wl:String}{wn:Z5 Edge}{g:wS (wP×uS)}{x y:uL}
def RN{e:ut}{ag:uS}{c bytes:K}{a:jp}{b o n cap l h:K}{lo hi:V jp}{w:jP}(ht:P.underlying t=Z (.slice e))(hd:JN P e ag c bytes a)
 (hl:lo=Z (.int .i64 (l:J))\/(lo=wW/\l=0)) (f:hi=Z (.int .i64 (h:J))\/(hi=wW/\h=n)) (j:l<=h) (k:h<=cap) (m:l<cap\/l=0):
 (xcZ t (.slice (Z ⟨b,o,wW⟩) n cap) lo hi wW).run P w=.ok (.slice (Z ⟨b,o+l*c,wW⟩) (h-l)<|cap-l) w:=by
 have b1:(0:J)<=(l:J)/\(l:J)<=(h:J):=W
 have b2:(0:J)<=(h:J)/\(h:J)<=(cap:J):=W
 have i:(xcZ t (.slice (Z ⟨b,o,wW⟩) n cap) lo hi wW).run P w=.ok (.slice (if cap=l then Z ⟨b,o,wW⟩else(Z (⟨b,o,wW⟩:aC)).map (·.add (l*c))) (h-l)<|cap-l) w:=by
  unfold xcZ;simp only[xay,Z3 ht,xaq];unfold xfS;simp only[xay,Z3 ht,xaq];unfold xeA
  obtain rfl|⟨rfl,rfl⟩:=hl<;>obtain rfl|⟨rfl,rfl⟩:=f<;>
   simp only[xeL,UL,xay,xaX,xaq,iq b1,iq b2,wE hd,xbb]
 rw[i];by_cases hc:cap=l;simp_all;simp[hc,jy]
def Tj{c:ut}{ag:uS}{e bytes:K}{a:jp}{b o n cap h:K}{hi:uL}(f:ev H x=.slice (Z ⟨b,o,wW⟩) n cap)(ht:P.underlying t=Z (.slice c))(i:JN P c ag e bytes a)
 (j:ev H hi=.int .i64 (h:J)) (hc:h<=cap) (w:jP):(uT (ev H) ⟨d,.slice t x wW (Z hi) wW,ty,wl,wn,g⟩).run P w=.ok (.value (.slice (Z ⟨b,o,wW⟩) h cap)) w:=by
 have:=RN (b:=b) (o:=o) (n:=n) (w:=w) ht i (.inr ⟨O,O⟩) (.inl O) (xah _) hc (.inr O);simp[uT,f,j,this]
theorem zgB{α:Type}{e:zZ α}{a:ut}{bytes:K}{b:jp}(ht:P.underlying t=Z (.slice a))(c:JN P a e.agg e.n bytes b):OG P ⟨d,.buildSlice t 0 #[],ty,wl,wn,g⟩ H we Se ms Γ (λv=>v) (λv=>(mO e a v []::ms)) (λ_=>Γ) (λ_=>Ws):=by
 intro w hc;have f:(xeM t 0 #[]).run P w=.ok (.slice (Z ⟨w.heap.size,0,wW⟩) 0 0) (w.alloc (.cells #[] a)):=by unfold xeM;simp only[xay,Z3 ht,xaq,wE c,fN];simp[xdM];grind
 refine uF.of_value (w':=w.alloc (.cells #[] a)) (v:=.slice (Z ⟨w.heap.size,0,wW⟩) 0 0) ?_ ⟨_,O,ul,hc.fresh (b7.alloc w _) O m7 λS _ _=>⟨[],?_,O⟩⟩;simp[uT,f];exact⟨m7,.inr ⟨w.heap.size,0,#[],O,xah _,V4 w _,Nm _,xah _,m7,m7⟩⟩
def zhW{α:Type}{e:zZ α}{b:ut}{bytes:K}{a:jp}(c:xb ops H ⟨d,.buildSlice t 0 #[],ty,wl,wn,g⟩=qR)(hd:ke N.n d=qR)
 (ht:P.underlying t=Z (.slice b)) (f:JN P b e.agg e.n bytes a)
 (k:∀v,TL P N we Se (mO e b v []::ms) Γ ops rest Q<|put H d v):TL P N we Se ms Γ ops (⟨d,.buildSlice t 0 #[],ty,wl,wn,g⟩::rest) Q H:=
 zl1 c hd (zgB ht f) λv _=>k v
section
variable{P:Z2}{H:xr}{d:wS Wn}{ty t:ut}{wl:String}{wn:Z5 Edge}{g:wS (wP×uS)}{x y c:uL}{w:jP}{S:wP->Prop}{v:jp}
def zst{f:Go.Fn}{xs:wF uL}{vs:wF jp}(h:xs.map (ev H)=vs)(w:jP):(uT (ev H) ⟨d,.makeFunc f #[] xs.toArray,ty,wl,wn,g⟩).run P w=.ok (.value (.func f #[] vs.toArray)) w:=
 gK (by simp[pv,h]) w
end
def GK(w:jP)(k p ty b:ut)(g o dLen dCap:K)(a:aC)(e f:K)(c:Z5 jp)(t:ut)(cs:wF jp){n m:K}
 (q:P.underlying k=Z (.slice b)) (l:(P.info? b).map (·.size)=Z n) (r:Nat.min e dLen=m)
 (s:w.heap[g]? =Z (.cells c t (0,0))) (hn:X cs=m*n)
 (u:∀j v,cs[j]? =Z v->w.cell? (a.add j)=Z v) (hc:o+X cs<=c.size) (h1:∀v∈cs,v.oneCell'=qR):
 (xfP #[k,p] ty #[.slice (Z ⟨g,o,wW⟩) dLen dCap,.slice (Z a) e f]).run P w=
  .ok (pU m) (w.setRow g (c.toList.take o++cs++c.toList.drop (o+X cs)).toArray):=by
 have hl:=bI (P:=P) w a cs u;have hd:=ce P g o t cs 0 c w s (by simpa using hc) h1
 cases h:P.info? b with
 |none=>simp[h]at l
 |some i=>
  have hi:i.size=n:=by simpa[h]using l
  simp[xfP,Z3 q,xfO,xeQ,Jp,KW,h,hi,r,<-hn,hl,hd]
def Kk(w:jP)(f j ty b:ut)(d a:V aC)(dLen dCap c e:K)(k:P.underlying f=Z (.slice b)){n:K}(l:(P.info? b).map (·.size)=Z n)(hn:Nat.min c dLen=0):
 (xfP #[f,j] ty #[.slice d dLen dCap,.slice a c e]).run P w=.ok (pU 0) w:=by
 cases h:P.info? b with
 |none=>simp[h]at l
 |some i=>
  have hl:=λx=>by simpa using bI (P:=P) w x [] m7
  cases d<;>cases a<;>simp[xfP,Z3 k,xfO,xeQ,Jp,KW,h,hn,storeCells,hl]
def Tc{α:Type}{e:zZ α}{r E b l dLen dCap cap bytes:K}{s u:jp}{xs ys:wF α}(i:K)(ht:P.underlying t=Z (.slice r))(hJ:JN P r e.agg e.n bytes s)(A:ms[i]? =Z (mB (rowT e cap) E b xs))(hx:ev H x=.slice (Z ⟨b,0+l*e.n,wW⟩) dLen dCap)(hy:ev H y=u)
 (hl:l+dLen<=X xs) (T:∀(S:K->Prop) (w:jP),zD S Γ w->(fV (eS e) ys u).p S w):OG P ⟨d,.call ⟨.builtin .copy,#[x,y],#[t,t']⟩,ty,wl,wn,g⟩ H we Se ms Γ (λn:J=>(.int .i64 n)) (λn=>(ms.set i<|mB (rowT e cap) E b<|xs.take l++ys.take (min (X ys) dLen)++xs.drop (l+min (X ys) dLen))) (λ_=>Γ) (λ_=>Ws):=by
 intro w hn;have⟨S0,⟨c,B,c0,h,hz,hA,hK⟩,hT,hL⟩:=hn.muts A;have⟨ao,f,C,h1,h2,D⟩:=wi.1<|T S0 w hL;have⟨ti,hi,i1,i2,i3⟩:=hJ.info;have U:(P.info? r).map (·.size)=Z e.n:=by rw[hi];simp[i1]
 have V:∀v w',(xfP #[t,t'] ty #[.slice (Z ⟨b,0+l*e.n,wW⟩) dLen dCap,u]).run P w=.ok v w'->
  (uT (ev H) ⟨d,.call ⟨.builtin .copy,#[x,y],#[t,t']⟩,ty,wl,wn,g⟩).run P w=.ok (.value v) w':=λv w' o=>by
  simp only[uT,WR,V3,am,xej,xbT,xdX,hx,hy,xay,o,xaX,xaq]
 have⟨m,z⟩:∃m,min (X ys) dLen=m:=⟨_,O⟩;have Y:Nat.min (X ys) dLen=m:=z;have hU:m<=dLen:=by rw[<-z];exact Nat.min_le_right _ _
 have hc:m<=X ys:=by rw[<-z];exact Nat.min_le_left _ _
 have e1:(l+m)*e.n=l*e.n+m*e.n:=xbl _ _ _;have F:l*e.n+m*e.n<=X xs*e.n:=by rw[<-e1];exact xag _ W
 have e3:m*e.n<=X ys*e.n:=xag _ hc;have hV:X c0=X xs*e.n:=hA.len;rw[z];by_cases h0:m=0
 have o:=Kk (P:=P) w t t' ty r (Z ⟨b,0+l*e.n,wW⟩) ao dLen dCap (X ys) f ht U<|Y.trans h0;rw[<-C]at o;refine uF.of_value (V _ _ o) ⟨_,O,ul,?_⟩;rw[h0];simp only[xbV,List.take_zero,xbo,xbK];have:ms.set i (mB (rowT e cap) E b xs)=ms:=by have⟨hW,hM⟩:=xaA.1 A;rw[<-hM,xdi]
 rw[this];exact hn;obtain D|⟨sb,so,cs,rfl,hX,ha,hp⟩:=D
 rw[D]at hc;simp at hc;lia;have hN:X cs=X ys*e.n:=hp.len;have hE:X (cs.take<|m*e.n)=m*e.n:=by rw[xan,hN];lia
 have e4:X c.toList=X c0+X h:=by rw[hz,xau]
 have hF:0+l*e.n+X (cs.take<|m*e.n)<=c.size:=by simp only[xfc]at e4;lia
 have o:=GK (P:=P) w t t' ty r b (0+l*e.n) dLen dCap ⟨sb,so,wW⟩ (X ys) f c E (cs.take<|m*e.n) ht U Y B hE
  (λj v hv=>by rw[jy];exact(ha.take _).2 j v hv) hF (λv hv=>hp.one v<|xdt hv)
 rw[<-C]at o;refine uF.of_value (V _ _ o) ⟨_,O,ul,hn.write A O O (Jf w b _) ?_⟩;rintro S hS ⟨a0,hG,c1,q,hH,hd,hq⟩ h8;rw[B]at hG;cases hG;have⟨a1,G,hI,_,_,L⟩:=wi.1<|T S w h8;rw[C]at hI;cases hI;obtain L|⟨a2,a3,a,hO,hY,hP,hg⟩:=L
 rw[L]at hc;simp at hc;lia
 cases hO;have hQ:a=cs:=by
  have hR:X a=X cs:=by rw[hg.len,hp.len]
  apply xcA;intro j;by_cases M:j<X cs;have e1:=ha.2 j cs[j] (by simp[M]);have F:=hP.2 j a[j] (by simp[hR,M]);rw[e1]at F;rw[xaa M,xaa (by lia:j<X a),F];rw[xbA (l:=cs) W,xbA (l:=a) W]
 subst hQ;have hZ:X c1=X xs*e.n:=hd.len;have R:yL S w (w.setRow b (c.toList.take (0+l*e.n)++a.take (m*e.n)++c.toList.drop (0+l*e.n+X (a.take<|m*e.n))).toArray):=(Jf w b _).weak λk _ hk=>hS k hk;refine⟨_,lW w b c _ E (0,0) B,c1.take (l*e.n)++a.take (m*e.n)++c1.drop ((l+m)*e.n),q,?_,?_,?_⟩;rw[hE,xaM,e1,hH,List.take_append_of_le_length W,List.drop_append_of_le_length W];simp[xas];exact(((hd.keep R).take l).append<|(hg.keep R).take m).append<|(hd.keep R).drop<|l+m;rw[<-hq];simp only[xau,xan,xcn];lia
end
end
section
section
variable{P:Z2}{H:xr}{ms:wF MF}{Γ:wF FF}{d:wS Wn}{ty t yt:ut}{wl:String}{wn:Z5 Edge}{g:wS (wP×uS)}{x y:uL}
def Gu{t E:ut}{a:V aC}{n c:K}(ht:P.underlying t=Z (.slice E))(w:jP):(Op.equal t (.slice a n c) (.slice wW 0 0)).run P w=.ok a.isNone w:=by show(Op.equalIn (9999+1) t (.slice a n c) (.slice wW 0 0)).run P w=_;unfold Op.equalIn;cases a<;>simp only[xay,Z3 ht,xaq,xaX,Option.isNone_some]
def zle{α:Type}{e:zZ α}{xs:N α}{v:jp}{E:ut}(ht:P.underlying t=Z (.slice E))(f:ev H x=v)(h:ev H y=.slice wW 0 0)(i:∀(S:K->Prop) (w:jP),zD S Γ w->(fV (eS e) xs v).p S w):
 Oz P ⟨d,.binOp .eql t x y yt,ty,wl,wn,g⟩ H ms Γ (λu:uS=> .bool u) (λ_=>[]) (λu=>u=qR->xs=[]):=by
 intro w S _ _ b;have⟨a,cap,hv,h1,c,k⟩:=wi.1<|i S w b;have j:(V9 .eql t x y (.slice a (X xs) cap) (.slice wW 0 0)).run P w=.ok () w:=by simp[V9]
 have c:(Ul .eql t (.slice a (X xs) cap) (.slice wW 0 0)).run P w=.ok (.bool a.isNone) w:=by simp only[Ul,xay,Gu ht,xaq,xaX]
 refine uF.of_value ?_ ⟨a.isNone,O,λhn=> ?_,yL.refl _ _,ul⟩;simp only[uT,f,hv,h,xay,j,c,xaq,xaX];simp_all
end
section
variable{P:Z2}{H:xr}{d:wS Wn}{ty t:ut}{wl:String}{wn:Z5 Edge}{g:wS (wP×uS)}{x y c:uL}{w:jP}{S:wP->Prop}{v:jp}{o:Wd}
def zj0(hc:ev H c=.bool qR)(h:ev H x=v)(w:jP):(uT (ev H) ⟨d,.pick c x y,ty,wl,wn,g⟩).run P w=.ok (.value v) w:=gK (by simp[pv,hc,h]) w
def zkM(hc:ev H c=.bool I)(h:ev H y=v)(w:jP):(uT (ev H) ⟨d,.pick c x y,ty,wl,wn,g⟩).run P w=.ok (.value v) w:=gK (by simp[pv,hc,h]) w
end
def kK(x y:J):J:=if x<y then-1 else if y<x then 1 else 0
theorem jb{x y:J}(h:x<y):kK x y= -1:=by simp[kK,h]
theorem qb{x y:J}(h:y<x):kK x y=1:=by grind [kK]
theorem ur{x y:J}(h:x=y):kK x y=0:=by grind [kK]
end
section
section
variable{P:Z2}{N:Nd}{we:jP}{Se:wP->Prop}{ms:wF MF}{Γ:wF FF}{Q:Qs}{i9:xr}{l:wF Wd}
theorem nF{H:xr}{d:V Wn}{v:jp}{t:Wn}(h:d≠Z t):put H d v t=H t:=by
 cases d with
 |none=>rfl
 |some dd=>
  have a:¬t=dd:=λe=>h (by rw[e]);have:xak t dd=I:=YX a;simp[put,L,this]
theorem DA{H:xr}{v:jp}{t:Wn}:put H (Z t) v t=v:=by simp[put,L]
end
end
section
section
variable{P:Z2}{N:Nd}{we:jP}{Se:wP->Prop}{ms F:wF MF}{Γ:wF FF}{H:xr}{U:Type}{wD:U->jp}{own:U->wF MF}{ww:U->wF FF}{ok:U->Prop}{fn:V0}
 {ops:Z5 Wd}{rest:wF Wd}{d:wS Wn}{t ty yt:ut}{wl:String}{wn:Z5 Edge}{g:wS (wP×uS)}{x y:uL}
def zdW{α:Type}{e:zZ α}{b:ut}{xs ys:wF α}{v u:jp}{bytes:K}{a:jp}(i:K)
 (ht:P.underlying t=Z (.slice b)) (f:JN P b e.agg e.n bytes a) (hc:a.cells.size=e.n) (hn:0<e.n)
 (j:ms[i]? =Z (mO e b v xs)) (k:ev H x=v) (l:ev H y=u) (m:∀(S:K->Prop) (w:jP),zD S Γ w->(fV (eS e) ys u).p S w)
 (hd:X xs+X ys<=9223372036854775807) (o:(X xs+X ys)*bytes<=140737488355328):
 OG P ⟨d,.call ⟨.builtin .append,#[x,y],#[t,t]⟩,ty,wl,wn,g⟩ H we Se ms Γ (λc=>c) (λc=>ms.set i<|mO e b c<|xs++ys) (λ_=>Γ) (λ_=>Ws):=
 cJ i ht f hc hn j k l (λS w _ h=>SlQ.of<|m S w h) hd o
end
end
section
abbrev Qp(x:J):Prop:= -9223372036854775808<=x/\x<=9223372036854775807
abbrev mo(x:K):Prop:=x<18446744073709551616
section
variable{α β:Type}
def ck(p:Prop)[U8 p](k:V α):V α:=if p then k else wW
def zf(e:J)(k:J->V α):V α:=if Qp e then k e else wW
def zI(i:J)(n:K)(k:K->V α):V α:=if 0<=i/\i<(n:J)then k i.toNat else wW
def jT(i:J)(k:K->V α):V α:=if 0<=i then k i.toNat else wW
def nm(e:β)(k:β->V α):V α:=k e
def bd(x:V β)(k:β->V α):V α:=match x with
 |some v=>k v
 |none=>wW
def zg(f:(β->V α)->β->V α):K->β->V α
 |0,_=>wW
 |k+1,s=>f (zg f k) s
theorem Ya{p:Prop}[U8 p]{k:V α}{r:α}(h:ck p k=Z r):p/\k=Z r:=by grind [ck]
theorem nQ{e:J}{k:J->V α}{r:α}(h:zf e k=Z r):∃x,x=e/\Qp x/\k x=Z r:=by grind [zf]
theorem zhk{i:J}{n:K}{k:K->V α}{r:α}(h:zI i n k=Z r):∃j:K,i=(j:J)/\j<n/\k j=Z r:=by grind [zI]
theorem zb5{i:J}{k:K->V α}{r:α}(h:jT i k=Z r):∃j:K,i=(j:J)/\k j=Z r:=by grind [jT]
def wX{e:β}{k:β->V α}{r:α}(h:nm e k=Z r):∃x,x=e/\k x=Z r:=⟨e,O,h⟩
def B6{x:V β}{k:β->V α}{r:α}(h:bd x k=Z r):∃v,x=Z v/\k v=Z r:=by
 cases x with
 |none=>cases h
 |some v=>exact⟨v,O,h⟩
def zca{f:(β->V α)->β->V α}{s:β}{r:α}(h:zg f 0 s=Z r):UT:=by cases h
def zbV{f:(β->V α)->β->V α}{k:K}{s:β}{r:α}(h:zg f (k+1) s=Z r):f (zg f k) s=Z r:=h
end
section
variable{α β:Type}
theorem va{p:Prop}[U8 p]{k:V α}(h:p):ck p k=k:=iq h
def y9{p:Prop}[U8 p]{k:V α}(h:p:=by lia):ck p k=k:=cO h
theorem vO{e:J}{k:J->V α}(h:Qp e):zf e k=k e:=iq h
def zb{e:J}{k:J->V α}(h1: -9223372036854775808<=e:=by lia)(a:e<=9223372036854775807:=by lia):zf e k=k e:=cO ⟨h1,a⟩
def DX{i:J}{n:K}{k:K->V α}(h:0<=i/\i<(n:J)):zI i n k=k i.toNat:=iq h
theorem zp{i n:K}{k:K->V α}(h:i<n):zI (i:J) n k=k i:=by rw[DX ⟨W,W⟩];rfl
def yn{i n:K}{k:K->V α}(h:i<n:=by lia):zI (i:J) n k=k i:=zp h
theorem yH{i:K}{k:K->V α}:jT (i:J) k=k i:=by skip;rfl
theorem ze{e:β}{k:β->V α}:nm e k=k e:=O
theorem za{x:V β}{v:β}{k:β->V α}(h:x=Z v):bd x k=k v:=by rw[h];rfl
def ux{f:(β->V α)->β->V α}{k:K}{s:β}:zg f (k+1) s=f (zg f k) s:=O
end
def RJ{n:K}(h:n<=9223372036854775807):Qp (n:J):=⟨W,W⟩
def zrh(x:K):mo (x%18446744073709551616):=xaQ _ m6
def zpk{x e:K}(h:x=e)(a:mo e):mo x:=h▸a
def zgz{x e:J}(h:x=e)(a:Qp e):Qp x:=h▸a
def VH{x e:K}(h:x=e%18446744073709551616):mo x:=h▸zrh e
def zng{a b x:J}(c:Qp a)(h:x=a.tmod b):Qp x:=by
 have h1:=Int.natAbs_tmod a b;have d:=Nat.mod_le a.natAbs b.natAbs;obtain h0|h0:=Int.le_total 0 a
 lia;have:a.tmod b<=0:=by have:=Int.tmod_nonneg b (a:= -a) W;simp_all
 lia
def znT{a b x:K}(c:mo a)(h:x=a%b):mo x:=by have:=Nat.mod_le a b;lia
def zar{a b x:K}(c:mo a)(h:x=a/b):mo x:=by have:=xcI a b;lia
def zqq{a b:J}(c:Qp a)(d:Qp b):Qp (max a b):=by unfold Qp at*;lia
def zrP{a b:J}(c:Qp a)(d:Qp b):Qp (min a b):=by unfold Qp at*;lia
def zrk{α:Type}{l:N α}{k:K}{y z:α}(h:k<X l)(a:y=l.getD k z):l[k]? =Z y:=by rw[a];exact getD_some z h
def sgn(x:K):J:=if x<9223372036854775808 then(x:J)else(x:J)-18446744073709551616
def E4(x:J):K:=(x%18446744073709551616).toNat
def zeW{x:K}(h:mo x):Qp (sgn x):=by unfold sgn mo at*;split<;>constructor<;>lia
def Er(x:J):mo (E4 x):=by unfold E4 mo;lia
def Dr{x:K}(h:mo x):xdf.wrap (x:J)=sgn x:=by
 unfold sgn;split;exact w64 ⟨W,W⟩;rename_i b;have a:xdf.wrap x=xdf.wrap (x-18446744073709551616):=by simp[IntKind.wrap,IntKind.bits]
 rw[a];exact w64 ⟨W,W⟩
def zhR(x:J):xcv.wrap x=((E4 x:K):J):=by rw[EC];unfold E4;lia
def w_x{x c:J}(h:c=x)(a:Qp c):xdf.wrap x=c:=by subst h;exact w64 a
def tV{k:Wr}{x:J}{c n:K}(h:c=n)(a:k.wrap x=(n:J)):k.wrap x=(c:J):=by rw[a,h]
def OpP(P:Z2)(o:Wd)(H:xr)(w:jP)(K:N cS->jP->Prop):Prop:=(∀c,o.op≠ .defer c)/\
 match(uT (ev H) o).run P w with
 |.ok (.enter f args) w'=>bi P f args w' (λe a=>∃b,e=.panicked b/\K b a)
 |.halt (.panic v) w'=>K [{v,recovered:=I}] w'
 |_=>UT
def OpP.wp{P:Z2}{o:Wd}{a:QR}{w:jP}{K:wF cS->jP->Prop}{d:QR->jP->Prop}{Q:lm->QR->jP->Prop}{N:Nd}
 (h:OpP P o (yf a) w K) (c:∀b w',K b w'->Q (.panic b) a w'):o.wpIn N.F 0 P a w d Q:=by
 have⟨hd,h⟩:=h;refine⟨λ_ _=>ul,?_⟩;rw[KX];rw[Oper.semAt_eq _ _ _ hd];generalize(uT (ev<|yf a) o).run P w=r at*
 cases r with
 |ok n w'=>
  cases n<;>simp only at h
  case enter f args=>exact⟨λe=>by simp[xcW]at e,CallsIn.mono (callsIn_wide.2 h) λe g ⟨b,i,hv⟩=>by subst i;exact c _ _ hv⟩
 |halt x w'=>
  cases x<;>simp only at h
  case panic v=>exact c _ _ h
def OpP.mono{P:Z2}{o:Wd}{H:xr}{w:jP}{K a:N cS->jP->Prop}(h:OpP P o H w K)(c:∀b w',K b w'->a b w'):OpP P o H w a:=by
 refine⟨h.1,?_⟩;have h:=h.2;generalize(uT (ev H) o).run P w=r at*
 cases r with
 |ok n w'=>
  cases n<;>simp only at h⊢
  case enter f args=>exact h.mono λe d ⟨v,g,hv⟩=>⟨v,g,c _ _ hv⟩
 |halt x w'=>
  grind
def zkg{P:Z2}{H:xr}{w:jP}{N:Nd}{b:Z5 Wd}{o:Wd}{rest:wF Wd}{Q:Qs}(d:xb b H o=qR)(h:OpP P o H w (λc w'=>Q (.panic c) H w')):WpL P N b (o::rest) Q H w:=by intro a h1 e f;subst f;unfold V1;rw[iq<|by rw[Vc];exact d];exact h.wp λc w' g=>⟨h1,e,g⟩
abbrev PX:=ut×J
def ru(q:PX):N cS:=[{v:=.iface q.1 (.agg #[.int .i64 q.2]),recovered:=I}]
inductive Tg
 |n
 |x (i:K)
 |r
 |p (q:PX)
def tgE:Tg->lm
 |.n=> .normal
 |.x i=> .exit i
 |.r=> .ret
 |.p q=> .panic<|ru q
end
section
section
variable{P:Z2}{N:Nd}{we:jP}{Se:wP->Prop}{ms F:wF MF}{Γ:wF FF}{Q:Qs}{H:xr}{ops:Z5 Wd}{rest:wF Wd}{o:Wd}
 {d:wS Wn}{ty yt t ti t':ut}{wl:String}{wn:Z5 Edge}{g:wS (wP×uS)}{x y:uL}
def v_i{k:Wr}{c z:J}(h:∀w,(uT (ev H) o).run P w=.ok (.value (.int k c)) w)(a:z=c):∀w,(uT (ev H) o).run P w=.ok (.value (.int k z)) w:=by simp_all
def zgX{c z:uS}(h:∀w,(uT (ev H) o).run P w=.ok (.value (.bool c)) w)(a:z=c):∀w,(uT (ev H) o).run P w=.ok (.value (.bool z)) w:=by simp_all
theorem zcE{a:K}{b:J}:(a:J).fdiv (2^(min b.toNat xcv.bits))=((a/2^(min b.toNat 64):K):J):=by have:xcv.bits=64:=O;grind
def zcv{a:K}{b:J}:xcv.wrap ((a:J)*2^(min b.toNat xcv.bits))=((a*2^(min b.toNat 64)%18446744073709551616:K):J):=by rfl
def ziy{a x:J}{k:K}(b:Qp a)(h:x=a.fdiv (2^k)):Qp x:=by
 have hp:(0:J)<2^k:=Int.pow_pos m6;rw[Int.fdiv_eq_ediv_of_nonneg _ W]at h;have c:=xbD a<|2^k;rcases(W:a<0\/0<=a)with h0|h0
 have:=Int.ediv_neg_of_neg_of_pos h0 hp;lia;lia
def zaY(a b:J):J:=sgn<|E4 a &&& E4 b
def orI(a b:J):J:=sgn (E4 a|||E4 b)
theorem rM{a b:K}(c:mo a):mo (a &&& b):=xaI Nat.and_le_left c
theorem CT{a b:K}(c:mo a)(e:mo b):mo (a|||b):=Nat.or_lt_two_pow (n:=64) c e
theorem ziY{a:K}(b:mo a):((a:J)%2^xcv.bits).toNat=a:=by have:2^xcv.bits=18446744073709551616:=O;grind
theorem zlN{a b:K}(c:mo a)(e:mo b):xcv.wrap (((((a:J)%2^xcv.bits).toNat &&& ((b:J)%2^xcv.bits).toNat:K)):J)=((a &&& b:K):J):=by grind [ziY,sW,rM]
theorem znz{a b:K}(c:mo a)(e:mo b):xcv.wrap (((((a:J)%2^xcv.bits).toNat|||((b:J)%2^xcv.bits).toNat:K)):J)=((a|||b:K):J):=by grind [ziY,sW,CT]
def zjR{a b:J}:xdf.wrap (((a%2^xdf.bits).toNat &&& (b%2^xdf.bits).toNat:K):J)=zaY a b:=Dr<|rM<|Er a
def zpi{a b:J}:xdf.wrap (((a%2^xdf.bits).toNat|||(b%2^xdf.bits).toNat:K):J)=orI a b:=Dr<|CT (Er a)<|Er b
def zpp(a b:J):Qp (zaY a b):=zeW<|rM<|Er a
def zqF(a b:J):Qp (orI a b):=zeW<|CT (Er a)<|Er b
def zq1{b:K}(h:b≠0):(b:J)≠0:=W
def zh0{B n:K}(a:0<B)(h:B*n<=281474976710656):n<=9223372036854775807:=by have:=xei n a;lia
def Tl{α:Type}{e:zZ α}{c:ut}{z:α}{xs:wF α}{n bytes:K}{a:jp}{f:uL}{i j:Wr}(ht:P.underlying t=Z (.slice c))(k:JN P c e.agg e.n bytes a)(l:ev H x=.int i (n:J))(m:ev H f=.int j (n:J))(q:0<bytes)(h:bytes*n<=281474976710656)
 (r:∀(S:K->Prop) (w:jP),e.p S z a.cells.toList w) (hc:xs=So n z):OG P ⟨d,.makeSlice t x f,ty,wl,wn,g⟩ H we Se ms Γ (λb=>(.slice (Z ⟨b,0,wW⟩) n n)) (λb=>(mB (rowT e n) c b xs::ms)) (λ_=>Γ) (λ_=>Ws):=by
 subst hc;intro w hd;refine(zb4 ht k l m h (zh0 q h) r w hd).mono ?_;rintro v w' ⟨b,h1,s,u⟩;exact⟨b,h1,s,u.rowRT 0 O m7⟩
end
end
section
def zs5{α:Type}{a x:α}(h:Z a=Z x):a=x:=xfT h
def zoU{x:J}{c n:K}(h:c=n)(a:x=(n:J)):x=(c:J):=by rw[a,h]
def zk5{x y z q:K}(a:mo x)(b:mo y)(c:z<=1)(h:q=(x+y+z)/18446744073709551616):mo q:=by unfold mo at*;lia
def zjS{x y z q:K}(_:mo x)(_:mo y)(_:z<=1)(h:q=if x<y+z then 1 else 0):mo q:=by unfold mo;split at h<;>lia
def v_2{P:Z2}{H:xr}{o:Wd}{k k':Wr}{a b x y:K}(h:∀w,(uT (ev H) o).run P w=.ok (.value (.tuple #[.int k (a:J),.int k' (b:J)])) w)(c:x=a)(d:y=b):
 ∀w,(uT (ev H) o).run P w=.ok (.value (.tuple #[.int k (x:J),.int k' (y:J)])) w:=by subst c;subst d;exact h
def zal{F:Ac}{n:K}{P:Z2}{a:QR}{w:jP}{Q:lm->QR->jP->Prop}{c:Wt}(h:c.wpIn F n P (Exit.noGoto Q) a w):(Code.scope c).wpIn F n P Q a w:=by
 intro b k cs hc o p;have g:∀{cs:N Frame}{k:N Item},step P (lone (b.atR a (.code (.scope c)::k)) cs w)=.next (lone (b.atR a (.code c::.inScope c::k)) cs w):=step_lone_go (by simp[stepG,stepG.exec,Frame.atR]);have r:∀{a:QR}{w:jP}{cs:N Frame}{k:N Item},step P (lone (b.atR a (.inScope c::k)) cs w)=.next (lone (b.atR a k) cs w):=step_lone_go (by simp[stepG,stepG.exec,Frame.atR]);have h0:(lone (b.atR a (.code (.scope c)::k)) cs w).fenced P F:=ge o p O;have⟨e,d,f,i,j⟩:=h b (.inScope c::k) cs hc o p
 cases e with
 |normal=>exact⟨.normal,d,f,i,.head h0 g<|StepsIn.trans j (.one (ge o p O) r)⟩
 |exit id=>exact⟨.exit id,d,f,i,λk' q=> .head h0 g (j.1 k'<|by simp[exitTo,q]),λhd q=>let⟨m,h1,s⟩:=j.2 hd (by simp[exitTo,q]);⟨m,h1,.head h0 g s⟩⟩
 |goto l=>exact i.elim
 |ret=>exact⟨_,d,f,i,.of_steps (.one h0 g) j⟩
 |panic t=>exact⟨_,d,f,i,.of_steps (.one h0 g) j⟩
 |outgrown=>exact⟨_,d,f,i,.of_steps (.one h0 g) j⟩
section
variable{P:Z2}{N:Nd}{we:jP}{Se:wP->Prop}{ms:wF MF}{Γ:wF FF}{Q:Qs}{H:xr}{ops:Z5 Wd}{d:wS Wn}{ty t:ut}{wl:String}{wn:Z5 Edge}{g:wS (wP×uS)}
def plB(P:Z2)(t:ut):V (Z5<|K×K):=match P.underlying t with
 |some (.struct fs)=>(fs.toList.mapM λf=>(P.info? f.type).map λi=>(f.offset,i.size)).map (·.toArray)
 |_=>wW
def Rn(w:jP):∀(l:wF Field) (r:wF (K×K)),(l.mapM λf=>(P.info? f.type).map λi=>(f.offset,i.size))=Z r->(l.mapM (λf=>do pure (f.offset,<-Jp f.type)):Sem (wF<|K×K)).run P w=.ok r w
 |[],r,h=>by simp at h;subst h;simp
 |f::l,r,h=>by
  rw[List.mapM_cons]at h
  cases hi:P.info? f.type with
  |none=>rw[hi]at h;simp at h
  |some i=>
   cases hl:(l.mapM λf=>(P.info? f.type).map λi=>(f.offset,i.size))with
   |none=>rw[hl]at h;simp at h
   |some q=>
    have a:=Rn w l q hl;have b:(Jp f.type).run P w=.ok i.size w:=by simp[Jp,KW,hi]
    simp_all
def zkn{pl:Z5 (K×K)}(h:plB P t=Z pl):∃fs,P.underlying t=Z (.struct fs)/\∀w,(fs.mapM (λf=>do pure (f.offset,<-Jp f.type)):Sem (Z5<|K×K)).run P w=.ok pl w:=by
 unfold plB at h;split at h;rename_i fs a;refine⟨fs,a,λw=> ?_⟩
 cases hl:(fs.toList.mapM λf=>(P.info? f.type).map λi=>(f.offset,i.size))with
 |none=>rw[hl]at h;cases h
 |some q=>
  have:=Rn w fs.toList q hl;rw[Array.mapM_eq_mapM_toList];simp_all
 cases h
theorem zd6{a:K->V (K×K)}{i off:K}{v:jp}{b c e:wF jp}{r:wF (K×jp)}(hp:a i=Z (off,v.cells.size))(f:X b=off)(hc:X c=v.cells.size):
 xdM a (b++c++e).toArray ((i,v)::r)=xdM a (b++v.cells.toList++e).toArray r:=by
 subst f;have h:v.cells.zipIdx.foldl (λcs (x:jp×K)=>cs.setIfInBounds (X b+x.2) x.1) (b++c++e).toArray=(b++v.cells.toList++e).toArray:=by apply Array.ext';rw[<-Array.foldl_toList,Array.toList_zipIdx,tW (X b) v.cells.toList 0 _<|by simp;lia];simp_all
 conv=>lhs;unfold xdM
 grind
def IU{α:Type}{e:zZ α}{z0 z:α}{bytes:K}{a:jp}{parts:wF (K×uL)}{vs:wF (K×jp)}{pl:Z5 (K×K)}(ht:JN P t qR e.n bytes a)(hc:e.agg=qR)
 (c:∀(S:K->Prop) (w:jP),e.p S z0 a.cells.toList w) (hd:∃fs,P.underlying t=Z (.struct fs)/\∀w,(fs.mapM (λf=>do pure (f.offset,<-Jp f.type)):Sem (Z5<|K×K)).run P w=.ok pl w)
 (hv:parts.map (λx=>(x.1,ev H x.2))=vs) (q:wF jp->Prop) (h:∀(S:K->Prop) (w:jP),zD S Γ w->∀cs,cs=a.cells.toList->e.p S z0 cs w->∃out,xdM (pl[·]?) cs.toArray vs=Z out.toArray/\e.p S z out w/\q out):
 Oz P ⟨d,.build t parts.toArray,ty,wl,wn,g⟩ H ms Γ (λv:jp=>v) (λv=>[fV e z v]) (λv=>q v.cells.toList):=by
 intro w S _ _ b;have⟨out,h1,i,j⟩:=h S w b _ O<|c S w;refine uF.of_value (w':=w) (v:=.agg out.toArray) ?_ ⟨_,O,by simpa[xeG]using j,yL.refl _ _,⟨⟨out,by simp[zZ.val,hc],i⟩,ul⟩⟩;have⟨fs,k,l⟩:=hd;have m:parts.toArray.map (λx=>(x.1,ev H x.2))=vs.toArray:=by rw[<-hv];simp
 simp only[uT,xay];have o:(Instr.build t<|parts.toArray.map λx=>(x.1,ev H x.2)).run P w=.ok (.agg out.toArray) w:=by rw[m];unfold Instr.build;simp only[xay,uQ ht,xaq,Z3 k,l,h1,xaX]
 rw[o];rfl
end
end
section
def FX(D:K->uS)(i:K):K->uS:=λk=>D k||Q k i
def pX(D:K->uS)(i:K):FX D i i=qR:=by simp[FX]
def NG{D:K->uS}{i k:K}(h:k≠i):FX D i k=D k:=by simp[FX,YX h]
def zkr{D:K->uS}{i k:K}(h:D k=qR):FX D i k=qR:=by simp[FX,h]
section
variable{P:Z2}{N:Nd}{we:jP}{Se:wP->Prop}{ms:wF MF}{Γ:wF FF}{Q:Qs}{i9:xr}{l:wF Wd}{m:wP}
def znX{id:K}(m:K)(b:(K->uS)->xr->jP->Prop)(hm:P.follows .mixedOrders=qR)(hc:Vi l m=qR)(hd:(l.all λo=>ke N.n o.dst)=qR)
 (hO:∀w,St we Se ms Γ w->b (λ_=>I) i9 w)
 (step:∀(D:K->uS) (i:K) (H:xr) (w:jP),i<m->D i=I->(∀j,D j=qR->j<m)->(∀e∈(yb l i).after,xcu .any e=qR->D e.on=qR)->
  (∀j,D j=qR->∀e∈(yb l j).after,xcu .any e=qR->D e.on=qR)->b D H w->
  (xb l.toArray H (yb l i)=qR->uF P (yb l i) H w (λv w'=>b (FX D i) (put H (yb l i).dst v) w')\/OpP P (yb l i) H w (λS w'=>Q (.panic S) H w'))/\
  (xb l.toArray H (yb l i)=I->b (FX D i) (put H (yb l i).dst XS) w))
 (y:∀(D:K->uS) (H:xr) (w:jP),(∀j,j<m->D j=qR)->(∀j,D j=qR->j<m)->b D H w->WpL P N l.toArray (l.drop m) Q H w):
 T P N we Se ms Γ (.region id l.toArray qR) Q i9:=by
 intro w0 hP a0 hQ hR hS;have⟨h0,h1,h2,h3,hT⟩:=Y9 hc;refine wpIn_region_any hm ?_;have p:∀{c:Z5 uS}{i:K},i<c.size->c.getD i qR=c.getD i I:=λ{c i} h=>by simp_all
 have z:∀{c:Z5 uS}{i:K},c.getD i I=qR->i<c.size:=λ{c i} h=>by
  obtain hp|hge:=xbW i c.size
  exact hp;simp[xbw,Array.getElem?_eq_none hge]at h
 have E:∀(d:K) (c:Z5 uS) (a:QR) (w:jP),(xaL (X l)).countP (λk=> !c.getD k qR)<=d->c.size=X l->a.tmps.size=N.n->a.defers=N.ds->
  (∀i,m<=i->i<X l->c.getD i qR=I)->
  (∀i,i<X l->c.getD i I=qR->∀e∈(yb l i).after,xcu .any e=qR->c.getD e.on I=qR)->
  b (λi=>c.getD i I) (yf a) w->bV N.F 0 P .any l.toArray (zdg N Q) d c a w:=by
  intro d
  induction d with
  |zero=>
   intro c a w U A b1 b2 r hl B;have s:∀k,k<X l->c.getD k qR=qR:=λk f=>by
    have V:(xaL (X l)).countP (λk=> !c.getD k qR)=0:=W
    rw[List.countP_eq_zero]at V;have:=V k<|xbf.2 f;simpa using this
   have hZ:m=X l:=by
    rcases xbW m (X l) with hp|hge
    have C:=r m (Nm _) hp;rw[s m hp]at C;cases C
    lia
   refine lk hc 0 m c a w (Nm _) h0 W A (λk f=>by rw[s k f];simp;lia) ?_;exact y _ _ w (λj g=>by rw[<-p W];exact s j W) (λj g=>by have:=z g;lia) B a b1 b2 O
  |succ d ih=>
   intro c a w U A b1 b2 r hl B;by_cases s:∀k,k<m->c.getD k qR=qR
   have Y:∀k,k<X l->c.getD k qR=decide (k<m):=λk f=>by
    by_cases G:k<m;rw[s k G];simp[G];rw[r k W f];simp[G]
   refine lk hc (d+1) m c a w (Nm _) h0 (xao ?_ U) A Y ?_;rw[show(xaL (X l)).countP (λk=> !c.getD k qR)=(xaL (X l)).countP (λk=> !decide (k<m))from List.countP_congr λk f=>by rw[Y k<|xbf.1 f]];exact zhs.count_ge m [] m (X l);refine y _ _ w (λj g=>by rw[<-p W];exact s j g) (λj g=> ?_) B a b1 b2 O;obtain h|h:=xbW j m
   exact h;have J:=z g;rw[<-p J,r j h W]at g;cases g
   have hH:∃k,k<m/\c.getD k qR=I:=by
    by_cases hh:∃k,k<m/\c.getD k qR=I;exact hh
    exact kW (λk f=>by
     cases q:c.getD k qR
     exact kW ⟨k,f,q⟩ hh;rfl) s
   refine⟨λhr=> ?_,λi hi=> ?_⟩
   exfalso;have⟨k,f,L,hJ⟩:=zhs.first_un m [] hH;have:k∈xel .any l.toArray c:=mem_ready.2 ⟨L,yb l k,YU W,λe x q=>by
    have C:=h1 k W e x q;have t:=hJ e.on C;rwa[p (by lia:e.on<c.size)]at t⟩
   rw[hr]at this;cases this
   have⟨hu,o,M,hn⟩:=mem_ready.1 hi;have u:i<X l:=by simpa using(xbk.1 M).1
   rw[YU u]at M;cases M;have hU:i<m:=by
    obtain h|h:=xbW i m
    exact h;exfalso;by_cases hK:m=i;subst hK;have⟨k,f,L⟩:=hH;have t:=bW hl h1 16 m k u hn<|hT u k f;rw[<-p (by lia:k<c.size),L]at t;cases t
    have⟨e,x,q,hV⟩:=Zc<|h3 i W u;have t:=hn e x q;rw[hV,<-p (by lia:i-1<c.size),r (i-1) W W]at t;cases t
   have R:i<c.size:=W
   have hW:ke N.n (yb l i).dst=qR:=by
    rw[xaV]at hd;refine hd _ ?_;have:yb l i=l[i]:=by simp[yb,u]
    rw[this];exact xbI _
   have hB:∀j,(λi=>c.getD i I) j=qR->j<m:=λj g=>by
    obtain h|h:=xbW j m
    exact h;have J:=z g;have hL:c.getD j I=qR:=g;rw[<-p J,r j h W]at hL;cases hL
   have hs:=step (λi=>c.getD i I) i (yf a) w hU (by rw[<-p R];exact hu) hB hn (λj g=>hl j (by have:=hB j g;lia) g) B;have hM:(λk=>(c.setIfInBounds i qR).getD k I)=FX (λi=>c.getD i I) i:=by funext k;by_cases ht:i=k;subst ht;rw[pX];simp[R];rw[Kw I ht,NG<|λe=>ht e.symm]
   have next:∀v w',b (FX (λi=>c.getD i I) i) (put (yf a) (yb l i).dst v) w'->bV N.F 0 P .any l.toArray (zdg N Q) d (c.setIfInBounds i qR) (a.put (yb l i).dst v) w':=by intro v w' hv;refine ih _ _ w' ?_ (by simpa using A) (by rw[aN];exact b1) (by rw[WO];exact b2) (λk hX f=> ?_) (λk f hN e x q=> ?_) ?_;have:=(AD R hu<|xaL (X l)).2<|xbf.2 u;lia;rw[Kw qR W];exact r k hX f;by_cases ht:i=k;subst ht;exact aP<|hn e x q;rw[Kw I ht]at hN;exact aP<|hl k f hN e x q;rw[Wz (by rw[b1];exact aK hW),hM];exact hv
   unfold wpOpIn;rw[YU u];simp only[Vc];cases hC:xb l.toArray (yf a) (yb l i)
   simp only[xam,Z9];exact⟨λ_ _=>ul,next undef w (hs.2 hC)⟩;simp only[Xs];obtain h|h:=hs.1 hC;exact h.wp λv w' hY=>next v w' hY
   exact h.wp λS w' f=>⟨b1,b2,f⟩
 refine E l.toArray.size _ a0 _ ?_ m7 hQ hR (λi hK hi=>by simp[hi]) (λi hi hp=> ?_) ?_;exact xao (List.countP_le_length) m7
 have:=z hp;rw[<-p this]at hp;simp[hi]at hp;have hf:(λi=>(xdl l.toArray.size I).getD i I)=λ_=>I:=by funext i;simp only[xbw,Array.getElem?_replicate];split<;>rfl
 rw[hf,hS];exact hO _<|hP.ext<|b7.drawn w0 _
end
end
section
def Yw{S:K->Prop}{w:jP}:∀{ms:N MF},yV S ms w↔∀m∈ms,m.p S w
 |[]=>⟨λ_ m h=>kW h H1,λ_=>ul⟩
 |m::r=>by
  have a:=Yw (S:=S) (w:=w) (ms:=r);constructor;intro h x hx;obtain rfl|hx:=xal.1 hx
  exact h.1;exact a.1 h.2 x hx;intro h;exact⟨h m<|IR,a.2 λx hx=>h x<|FS _ hx⟩
def EZ:∀{ms:N MF},QX ms↔ms.Pairwise (λm m'=>∀k,m.blk k->¬m'.blk k)
 |[]=>⟨λ_=>List.Pairwise.nil,λ_=>ul⟩
 |m::r=>by
  rw[xdo];have c:=EZ (ms:=r);exact⟨λh=>⟨λm' a k b=>h.1 k b m' a,c.1 h.2⟩,λh=>⟨λk b m' a=>h.1 m' a k b,c.2 h.2⟩⟩
def St.perm{we:jP}{Se:K->Prop}{ms a:N MF}{Γ:N FF}{w:jP}(h:St we Se ms Γ w)(hp:ms.Perm a):St we Se a Γ w:=by have⟨h1,c,d,S,e,f,g,i,j⟩:=h;refine⟨h1,c,EZ.2<|(hp.pairwise_iff λ{x y} l k n hc=>l k hc n).1<|EZ.1 d,S,e,f,λm b=>g m<|hp.mem_iff.2 b,Yw.2 λm b=>Yw.1 i m<|hp.mem_iff.2 b,j⟩
def zir:jp->V K
 |.pointer (Z ⟨b,_,_⟩)=>Z b
 |_=>wW
def mP{α:Type}(e:AH α)(E:ut)(v:jp)(z:α):MF where
 blk k:=zir v=Z k
 p S w:=∃b,v=.pointer (Z ⟨b,0,wW⟩)/\(mB e E b z).p S w
 keep:=λ⟨b,h1,a⟩ k hb=>⟨b,h1,(mB e E b z).keep a k λi hi=>hb i<|by rw[h1];exact hi⟩
 sub:=λ⟨b,h1,a⟩ k=>⟨b,h1,(mB e E b z).sub a k⟩
 lt:=λ⟨b,h1,a⟩ k c=>(mB e E b z).lt a k<|by rw[h1]at c;exact c
def St.openP{α:Type}{e:AH α}{E:ut}{v:jp}{z:α}{we:jP}{Se:K->Prop}{ms:N MF}{Γ:N FF}{w:jP}(i:K)(h:St we Se ms Γ w)(a:ms[i]? =Z (mP e E v z)):
 ∃b,v=.pointer (Z ⟨b,0,wW⟩)/\St we Se (ms.set i<|mB e E b z) Γ w:=by
 have⟨S,hp,_⟩:=h.muts a;have⟨b,hv,_⟩:=hp;subst hv;exact⟨b,O,h.conv a O λS ⟨d,h1,c⟩=>by cases h1;exact c⟩
def St.toP{α:Type}{e:AH α}{E:ut}{b:K}{z:α}{we:jP}{Se:K->Prop}{ms:N MF}{Γ:N FF}{w:jP}(i:K)(h:St we Se ms Γ w)(a:ms[i]? =Z (mB e E b z)):
 St we Se (ms.set i<|mP e E (.pointer<|some ⟨b,0,wW⟩) z) Γ w:=h.conv a O λS h=>⟨b,O,h⟩
def TV{K:N (Wn×Pr)}{i9 H:xr}{S:wP->Prop}{w w':jP}{t:Wn}(h:Xv K i9 H S w t)(k:yL S w w'):Xv K i9 H S w' t:=by grind [Xv,Pr.keepS]
def zeA{K:N (Wn×Pr)}{i9 H:xr}{S a:wP->Prop}{w:jP}{t:Wn}(h:Xv K i9 H S w t)(k:∀k,k<w.heap.size->S k->a k):Xv K i9 H a w t:=by grind [Xv,Pr.sub]
def Ig(K:N (Wn×Pr))(i9 H:xr)(ts:N Wn):FF where
 p S w:=Q0 K i9 H S w ts
 keep:=λ{S w w'} h k=>by
  induction ts with
  |nil=>trivial
  |cons t ts a=>exact⟨TV h.1 k,a h.2⟩
 sub:=λ{S b w} h k=>by
  induction ts with
  |nil=>trivial
  |cons t ts a=>exact⟨zeA h.1 k,a h.2⟩
structure Res where
 a:V K
 t:Wn
 w:V K
 mf:uS->jp->MF
def Res.done(r:Res)(D:K->uS):uS:=match r.w with
 |some i=>D i
 |none=>I
def Res.here(r:Res)(D:K->uS):uS:=match r.a with
 |some i=>D i
 |none=>qR
def av(rs:N Res)(D:K->uS)(H:xr):N MF:=rs.filterMap λr=>bif r.here D then Z (r.mf (r.done D)<|H r.t)else wW
section
variable{P:Z2}{N:Nd}{we:jP}{Se:wP->Prop}{ms:wF MF}{Γ:wF FF}{Q:Qs}{i9:xr}{l:wF Wd}{m:wP}
def By(L:wF (Wd×Pr))(D:K->uS)(H:xr):FF where
 p S w:=∀i x t,D i=qR->L[i]? =Z x->x.1.dst=Z t->x.2.p S (H t) w
 keep:=λh k i x t h1 a b=>x.2.keepS (h i x t h1 a b) k
 sub:=λh k i x t h1 a b=>x.2.sub (h i x t h1 a b) k
end
section
variable{P:Z2}{N:Nd}{we:jP}{Se:wP->Prop}{ms:wF MF}{Γ:wF FF}{H:xr}{d:wS Wn}{ty t:ut}{wl:String}{wn:Z5 Edge}{g:wS (wP×uS)}
def zgZ{α:Type}{e:zZ α}{c:ut}{zs:wF α}{len bytes:K}{a:jp}{parts:wF (K×uL)}{vs:wF (K×jp)}(ht:P.underlying t=Z (.slice c))(hd:JN P c e.agg e.n bytes a)
 (hn:0<e.n) (hc:X zs=len) (y:len*e.n<=16777216) (hv:parts.map (λx=>(x.1,ev H x.2))=vs)
 (m:∀(S:K->Prop) (w:jP),zD S Γ w->cn (λi=>Z (i*e.n,e.n)) vs 0) (hp:∀(S:K->Prop) (w:jP),zD S Γ w->yW e S zs (jS vs) w):
 OG P ⟨d,.buildSlice t len parts.toArray,ty,wl,wn,g⟩ H we Se ms Γ (λv:jp=>v) (λv=>mO e c v zs::ms) (λ_=>Γ) (λ_=>Ws):=by
 intro w h;have⟨S0,z,b⟩:=h.ex;have hi:=hp S0 w b;have hl:X (jS vs)=len*e.n:=by rw[hi.len,hc]
 have A:len<=9223372036854775807:=by have:len<=len*e.n:=xcp _ hn;lia
 refine uF.of_value (w':=w.alloc (.cells (jS vs).toArray c)) (v:=.slice (Z ⟨w.heap.size,0,wW⟩) len len) ?_ ⟨_,O,ul,?_⟩;have o:parts.toArray.map (λx=>(x.1,ev H x.2))=vs.toArray:=by rw[<-hv];simp
 have j:xdM (λi=>Z (i*e.n,e.n)) ((xfd<|len*e.n).map (a.cells[·%a.cells.size]!)) vs=Z (jS vs).toArray:=by have:=oO vs [] ((xfd<|len*e.n).map (a.cells[·%a.cells.size]!)).toList (m S0 w b) (by simp[hl]);rw[xbO,xcC,xbO,xbU (by simp[hl]),xbo]at this;lia
 have p:(xeM t len<|parts.toArray.map λx=>(x.1,ev H x.2)).run P w=.ok (.slice (Z ⟨w.heap.size,0,wW⟩) len len) (w.alloc (.cells (jS vs).toArray c)):=by
  rw[o];unfold xeM;simp only[xay,Z3 ht,xaq,wE hd,ir (W:¬len*e.n>2^24),fN];by_cases h0:len*e.n=0
  have B:jS vs=[]:=xbq (by rw[hl,h0]);have q:xdM (λi=>Z (i*e.n,e.n)) ((xfd 0).map ((#[]:Z5 jp)[·%(#[]:Z5 jp).size]!)) vs=Z (jS vs).toArray:=by
   have l:∀f:K->jp,(xfd 0).map f= #[]:=λf=>by simp
   rw[<-j,h0,l,l]
  simp only[h0,Xs];simp only[q,xay,Ut,xaq,xaX];simp only[ir h0,xay,uQ hd,xaq,xaX,j,Ut]
 simp only[uT,xay,p,xaq,xaX];have r:St we Se (mR e c w.heap.size zs::ms) Γ (w.alloc (.cells (jS vs).toArray c)):=by refine h.fresh (b7.alloc w _) O m7 ?_;intro S C b;refine⟨_,V4 w _,?_⟩;exact((hp S w b).sub λk s u=>⟨u,Nat.ne_of_lt s⟩).keep (b7.alloc w _).to
 exact zlJ (n:=len) 0 r O hc.symm W
end
def zmo{P:Z2}{H:xr}{d:V Wn}{ty t:ut}{wl:String}{wn:Z5 Edge}{g:V (K×uS)}{x:uL}{b:uS}(h:ev H x=.bool b)(w:jP):
 (uT (ev H) ⟨d,.unOp .not t x,ty,wl,wn,g⟩).run P w=.ok (.value (.bool !b)) w:=gK (by show(match ev H x with|xeO t=>Z (xeO !t)|_=>wW)=_;rw[h]) w
def nz{p:Prop}(h:qR=I):p:=by cases h
def H3{α:Type}(xs ys:N α):N α:=xdH (min (X ys) (X xs)) ys++xdT (min (X ys) (X xs)) xs
def mz{α:Type}(lo n:K)(xs ys:N α):N α:=xdH lo xs++xdH (min (X ys) n) ys++xdT (lo+min (X ys) n) xs
def OU:N K:=(xaL 256).map xfv
end
def z2(S:K->Prop)(w:jP):(eI).p S 0 (xeG (.int .i64 0)).toList w:=⟨O,m6,m6⟩
def z3(S:K->Prop)(w:jP):(eI).p S 0 (xeG (.int .i64 0)).toList w:=⟨O,m6,m6⟩
def z4(S:K->Prop)(w:jP):(DZ).p S I (xeG (.bool I)).toList w:=O
def z5(S:K->Prop)(w:jP):(eB8).p S 0 (xeG (.int .u8 0)).toList w:=O
def z6(S:K->Prop)(w:jP):(eB8).p S 0 (xeG (.int .u8 0)).toList w:=O
def z7(S:K->Prop)(w:jP):((eP eI<|eP eI<|eP DZ eB8)).p S ((0,(0,(I,0)))) (xeG (.agg #[.int .i64 0,.int .i64 0,.bool I,.int .u8 0])).toList w:=⟨_,_,O,⟨O,m6,m6⟩,⟨_,_,O,⟨O,m6,m6⟩,⟨_,_,O,O,O⟩⟩⟩
def z8(S:K->Prop)(w:jP):((eP eI<|eP eI<|eP DZ eB8)).p S ((0,(0,(I,0)))) (xeG (.agg #[.int .i64 0,.int .i64 0,.bool I,.int .u8 0])).toList w:=⟨_,_,O,⟨O,m6,m6⟩,⟨_,_,O,⟨O,m6,m6⟩,⟨_,_,O,O,O⟩⟩⟩
def zrw:JN Tryz.prog 73 I 1 8 (.int .u64 0):=JN.of ol
section
open Go.ChangeShapes Go.WideShapes Go.ChangeAt Go.RowKit
variable{W W':jP}
def P2(a:b7 W W')(b:aM->Prop):W.keptBut W' b:=by
 refine⟨a.os,a.output,λi hi=> ?_⟩;rw[a.block i hi ul]
 cases h:W.heap[i]? with
 |none=>rfl
 |some o=>cases o<;>simp
def zfG{e:Type}{enc:ut×jp->e}{P:Z2}{f:V0}{s:ChangeSpec}{c d j:uS}{args:Z5 jp}{v:jp}{ds g:N (rX e)}{a pa pv:N aM}(i:DataW.Whole enc P f.params.toList s.vars c W args.toList ds g a)(k:∀(b:K) (sp:K->uS) (hd:uS),xeY enc P W' b sp hd f.resultTypes.toList (v.resultList f.resultTypes.size) (s.fn e<|ds++g).results [])(hc:∀sp:K->uS,(∀p∈a,sp p.block=qR)->xeY enc P W' 0 sp qR f.params.toList args.toList (s.fn e<|ds++g).args pa)(l:∀sp:K->uS,(∀p∈a,sp p.block=qR)->DataW.TrodVars enc P W' sp s.vars (s.fn e<|ds++g).vars pv)(n:a=pa++pv)(m:b7 W W'):s.post enc P f c d j I W args v W':=
 ⟨ds,g,a,[],pa,pv,i,k _ _ _,hc _ (λp hp=>by simpa using i.lt p hp),l _ (λp hp=>by simpa using i.lt p hp),P2 m _,λh=>by cases h⟩
end
section
def Fq{S:K->Prop}{w:jP}:∀{A B:N MF},yV S (A++B) w↔yV S A w/\yV S B w
 |[],_=>⟨λh=>⟨ul,h⟩,λh=>h.2⟩
 |a::A,B=>by
  have b:=Fq (S:=S) (w:=w) (A:=A) (B:=B);exact⟨λh=>⟨⟨h.1,(b.1 h.2).1⟩,(b.1 h.2).2⟩,λh=>⟨h.1.1,b.2 ⟨h.1.2,h.2⟩⟩⟩
def tw:∀{A B:N MF},QX (A++B)↔QX A/\QX B/\∀m∈A,∀k,m.blk k->∀m'∈B,¬m'.blk k
 |[],B=>⟨λh=>⟨ul,h,λm hm=>kW hm H1⟩,λh=>h.2.1⟩
 |a::A,B=>by
  have d:=tw (A:=A) (B:=B);constructor;intro h;have⟨h1,c,e⟩:=d.1 h.2;refine⟨⟨λk b m' hm'=>h.1 k b m'<|xab.2 (.inl hm'),h1⟩,c,λm hm k b m' hm'=> ?_⟩;obtain rfl|hm:=xal.1 hm
  exact h.1 k b m'<|xab.2 (.inr hm');grind;rintro⟨⟨h1,c⟩,e,f⟩;refine⟨λk b m' hm'=> ?_,d.2 ⟨c,e,λm hm=>f m<|FS _ hm⟩⟩;obtain hm'|hm':=xab.1 hm'
  simp_all;simp_all
def FP(G:N MF):MF where
 blk k:=∃m∈G,m.blk k
 p S w:=yV S G w/\QX G
 keep:=λh k hb=>⟨yV.keep k (λm a i hi=>hb i ⟨m,a,hi⟩) h.1,h.2⟩
 sub:=λh k=>⟨yV.sub k h.1,h.2⟩
 lt:=λh k ⟨m,a,b⟩=>yV.lt h.1 m a k b
def St.grp{we:jP}{Se:K->Prop}{G ms:N MF}{Γ:N FF}{w:jP}:St we Se (FP G::ms) Γ w↔St we Se (G++ms) Γ w:=by
 constructor;rintro⟨h1,d,c,S,e,f,i,b,g⟩;refine⟨h1,d,tw.2 ⟨b.1.2,c.2,λm hm k a m' h=>c.1 k ⟨m,hm,a⟩ m' h⟩,S,e,f,λm hm k a=> ?_,Fq.2 ⟨b.1.1,b.2⟩,g⟩;obtain hm|hm:=xab.1 hm
 exact i (FP G) (IR) k ⟨m,hm,a⟩;grind;rintro⟨h1,d,c,S,e,f,i,b,g⟩;have⟨j,l,a3⟩:=tw.1 c;have⟨n,o⟩:=Fq.1 b;refine⟨h1,d,⟨λk a m' h=>by have⟨m,hm,a⟩:=a;exact a3 m hm k a m' h,l⟩,S,e,f,λm hm k a=> ?_,⟨⟨n,j⟩,o⟩,g⟩;obtain rfl|hm:=xal.1 hm
 have⟨m,hm,a⟩:=a;grind;grind
def YY(hv:N jp):zZ K where
 n:=1
 agg:=I
 n1 _:=O
 p _ r cs _:=∃u,hv[r]? =Z u/\u.oneCell'=qR/\cs=[u]
 len:=by rintro _ _ _ _ ⟨u,_,_,rfl⟩;rfl
 one:=by rintro _ _ _ _ ⟨u,_,a,rfl⟩ c hc;rw[xaf]at hc;subst hc;exact a
 keep h _:=h
 sub h _:=h
def zc7{hv:N jp}{r:K}{u:jp}{S:K->Prop}{w:jP}(h:hv[r]? =Z u)(h1:u.oneCell'=qR):(fV (YY hv) r u).p S w:=⟨[u],O,u,h,h1,O⟩
def zfV{hv:N jp}{r:K}{v:jp}{S:K->Prop}{w:jP}(h:(fV (YY hv) r v).p S w):hv[r]? =Z v:=by obtain⟨cs,rfl,u,h1,_,rfl⟩:=h;exact h1
def RI{hv b:N jp}{S:K->Prop}{w:jP}:∀{ix:N K}{cs:N jp},yW (YY hv) S ix cs w->yW (YY<|hv++b) S ix cs w
 |[],_,h=>h
 |r::ix,cs,⟨c,q,h1,⟨u,a,d,e⟩,f⟩=>⟨c,q,h1,⟨u,by rw[xbi (xaA.1 a).1];exact a,d,e⟩,RI f⟩
def zcI{hv a:N jp}{E:ut}{v:jp}{ix:N K}{S:K->Prop}{w:jP}(h:(mO (YY hv) E v ix).p S w):(mO (YY<|hv++a) E v ix).p S w:=by have⟨cs,h1,b⟩:=h;exact⟨cs,h1,RI b⟩
def vN{α:Type}(e:zZ α)(E:ut):N jp->N (N α)->N MF
 |u::hv,xs::a=>mO e E u xs::vN e E hv a
 |_,_=>[]
theorem JK{α:Type}{e:zZ α}{E:ut}:∀{hv:N jp}{b:N (N α)}{r:K}{u:jp}{xs:N α},hv[r]? =Z u->b[r]? =Z xs->(vN e E hv b)[r]? =Z (mO e E u xs)
 |u'::hv,c::b,0,u,xs,h1,a=>by
  simp only[xbE,xav]at h1 a;subst h1;subst a;rfl
 |u'::hv,c::b,r+1,u,xs,h1,a=>JK (hv:=hv) (by simpa using h1)<|by simpa using a
 |[],_,r,_,_,h1,_=>by simp at h1
 |_::_,[],r,_,_,_,a=>by simp at a
def Hz{α:Type}{e:zZ α}{E:ut}:∀{hv:N jp}{b:N (N α)}{r:K}{u:jp}{ys:N α},hv[r]? =Z u->(vN e E hv b).set r (mO e E u ys)=vN e E hv (b.set r ys)
 |u'::hv,a::b,0,u,ys,h1=>by
  simp only[xbE,xav]at h1;subst h1;rfl
 |u'::hv,a::b,r+1,u,ys,h1=>by
  show mO e E u' a::(vN e E hv b).set r (mO e E u ys)=mO e E u' a::vN e E hv (b.set r ys);rw[Hz<|by simpa using h1]
 |[],_,r,_,_,h1=>by simp at h1
 |u'::hv,[],r,u,ys,h1=>by cases r<;>rfl
def C5{α:Type}{e:zZ α}{E:ut}{u:jp}{xs:N α}:∀{hv:N jp}{a:N (N α)},X hv=X a->vN e E (hv++[u]) (a++[xs])=vN e E hv a++[mO e E u xs]
 |[],[],_=>rfl
 |u'::hv,b::a,h=>by
  show mO e E u' b::vN e E (hv++[u]) (a++[xs])=_;rw[C5<|by simpa using h];rfl
 |[],_::_,h=>by cases h
 |_::_,[],h=>by cases h
def zkX{α:Type}(e:zZ α)(E E1:ut)(v:jp)(hv:N jp)(a:N (N α))(ix:N K):MF:=FP (mO (YY hv) E v ix::vN e E1 hv a)
section
variable{α:Type}{e:zZ α}{E E1:ut}{v:jp}{hv:wF jp}{ws:wF (wF α)}{ix:wF wP}{we:jP}{Se:wP->Prop}{ms:wF MF}{Γ:wF FF}{w:jP}
theorem zjY{r:K}{u:jp}{xs:N α}(h1:hv[r]? =Z u)(a:ws[r]? =Z xs)(ms:N MF):((mO (YY hv) E v ix::vN e E1 hv ws)++ms)[r+1]? =Z (mO e E1 u xs):=by grind [JK,xbi]
def Re{r:K}{u:jp}{ys:N α}(h1:hv[r]? =Z u)(a:r<X ws)(hl:X hv=X ws)(ms:N MF):((mO (YY hv) E v ix::vN e E1 hv ws)++ms).set (r+1) (mO e E1 u ys)=(mO (YY hv) E v ix::vN e E1 hv (ws.set r ys))++ms:=by have b:=xaa a;have h:=JK (e:=e) (E:=E1) h1 b;have c:=(xaA.1 h).1;rw[xfL _ _ (by simpa using c),xfi,Hz h1]
def St.adopt{u:jp}{ys:N α}(hl:X hv=X ws)(h:St we Se (zkX e E E1 v hv ws ix::mO e E1 u ys::ms) Γ w):St we Se (zkX e E E1 v (hv++[u]) (ws++[ys]) ix::ms) Γ w:=by
 have h1:=St.grp.1 h;have a:St we Se ((mO (YY hv) E v ix::vN e E1 (hv++[u]) (ws++[ys]))++ms) Γ w:=by rw[C5 hl];simp_all
 have b:=a.conv (i:=0) (m':=mO (YY<|hv++[u]) E v ix) O O λS hp=>zcI hp;exact St.grp.2 b
def zfk{S a:K->Prop}(c:∀k,S k->a k)(d:∀m∈vN e E1 hv ws,∀k,m.blk k->a k)(h:yV S (vN e E1 hv ws) w){r:K}{u:jp}{xs:N α}(h1:hv[r]? =Z u)(b:ws[r]? =Z xs):(fV (eS e) xs u).p a w:=
 pS c (λk f=>d _ (xbu<|JK h1 b) k f) (yV.get h<|JK h1 b)
def Ab{S a:K->Prop}(hl:X hv=X ws)(b:∀k,S k->a k)(d:∀m∈vN e E1 hv ws,∀k,m.blk k->a k)(h:yV S (vN e E1 hv ws) w):∀{ix:N K}{cs:N jp},yW (YY hv) S ix cs w->yW (eS e) a (ix.map λr=>ws.getD r []) cs w
 |[],_,h=>h
 |r::ix,cs,⟨c,q,h1,⟨u,f,l,g⟩,i⟩=>by
  have n:=(xaA.1 f).1;have j:ws[r]? =Z (ws.getD r []):=by simp_all
  exact⟨c,q,h1,⟨u,g,wi.1<|zfk b d h f j⟩,Ab hl b d h i⟩
def St.mat_frz(hl:X hv=X ws)(h:St we Se (zkX e E E1 v hv ws ix::ms) Γ w):St we Se ms (fV (eS<|eS e) (ix.map λr=>ws.getD r []) v::Γ) w:=by refine h.freeze (i:=0) O λS c d b hp=> ?_;have⟨⟨⟨cs,h1,f⟩,g⟩,_⟩:=hp;have j:=λm l k a=>b k ⟨m,FS _ l,a⟩;have n:(mO (eS e) E v<|ix.map λr=>ws.getD r []).p c w:=⟨cs,by rw[xaj];exact h1,Ab hl d j g f⟩;exact pS (λk a=>a) (λk a=>b k ⟨_,IR,a⟩) n
end
def mPr(p:Prop):MF where
 blk _:=UT
 p _ _:=p
 keep h _ _:=h
 sub h _:=h
 lt _ _ a:=a.elim
def yR:jp->jp
 |.tuple us=>us.toList.headD XS
 |_=>XS
def wg:jp->N jp
 |.tuple us=>us.toList.tail
 |_=>[]
def aF(v:jp)(hv:N jp):jp:=.tuple (v::hv).toArray
def Bh{α:Type}(e:zZ α)(E E1:ut)(u:jp)(a:N (N α))(ix:N K):MF:=FP (mPr (X (wg u)=X a)::mO (YY<|wg u) E (yR u) ix::vN e E1 (wg u) a)
def mBo{α:Type}(e:zZ α)(E a:ut)(u:jp)(xs:N α):MF:=FP [mPr<|X (wg u)=1,mP (YY<|wg u).c a (yR u) 0,mO e E ((wg u).headD XS) xs]
def mHo(a:ut)(u:jp):MF:=FP [mPr<|X (wg u)=1,mP (YY<|wg u).c a (yR u) 0]
end
section
def oP{α:Type}(e:zZ α)(S:K->Prop):V α->N jp->jP->Prop
 |none,cs,_=>cs=[.pointer wW]
 |some y,cs,w=>∃v,cs=[v]/\(fP e y v).p S w
def eO{α:Type}(e:zZ α):zZ (V α)where
 n:=1
 agg:=I
 n1 _:=O
 p S x cs w:=oP e S x cs w
 len:=by
  intro S x cs w h
  cases x with
  |none=>rw[show cs=_ from h];rfl
  |some y=>obtain⟨v,rfl,_⟩:=h;rfl
 one:=by
  intro S x cs w h c hc
  cases x with
  |none=>rw[show cs=_ from h]at hc;rw[xaf.1 hc];rfl
  |some y=>obtain⟨v,rfl,b,o,d,rfl,_⟩:=h;rw[xaf.1 hc];rfl
 keep:=by
  intro S x cs w w' h k
  cases x with
  |none=>exact h
  |some y=>have⟨v,h1,a⟩:=h;exact⟨v,h1,(fP e y v).keep a k⟩
 sub:=by
  intro S f x cs w h k
  cases x with
  |none=>exact h
  |some y=>have⟨v,h1,a⟩:=h;exact⟨v,h1,(fP e y v).sub a k⟩
section
variable{α:Type}{e:zZ α}{S:wP->Prop}{w:jP}{v:jp}
def zq7(h:(fV (eO e) wW v).p S w):v=.pointer wW:=by obtain⟨cs,rfl,h⟩:=h;rw[show cs=_ from h];rfl
def zp2:(fV (eO e) wW (.pointer wW)).p S w:=⟨[.pointer wW],O,O⟩
def zge{y:α}(h:(fV (eO e) (Z y) v).p S w):(fP e y v).p S w:=by obtain⟨cs,rfl,v,rfl,h⟩:=h;exact h
def zp1{y:α}(h:(fP e y v).p S w):(fV (eO e) (Z y) v).p S w:=⟨[v],O,v,O,h⟩
def zm8{x:V α}(h:(fV (eO e) x v).p S w):∃p,v=.pointer p/\p.isNone=x.isNone:=by
 cases x with
 |none=>exact⟨_,zq7 h,O⟩
 |some y=>have⟨b,o,cs,h1,_⟩:=zge h;exact⟨_,h1,O⟩
end
def eW{α:Type}(e:zZ α):zZ α where
 n:=e.n
 agg:=qR
 n1 h:=by cases h
 p:=e.p
 len:=e.len
 one:=e.one
 keep:=e.keep
 sub:=e.sub
def Sub.wrap{α:Type}(e:zZ α)(x:α):Sub (eW e).c x 0 e x id:=λS w cs h=>Sub.self e x S w cs h
def dj{α:Type}(e:zZ α)(off:K)(nl:α->α)(hv:N jp):AH (α×K)where
 p S z cs w:=∃u,hv[z.2]? =Z u/\u.oneCell'=qR/\cs[off]? =Z u/\e.p S (nl z.1) (cs.set off (.slice wW 0 0)) w
 keep:=λ⟨u,h1,a,b,c⟩ k=>⟨u,h1,a,b,e.keep c k⟩
 sub:=λ⟨u,h1,a,b,c⟩ k=>⟨u,h1,a,b,e.sub c k⟩
def mVr{α β:Type}(q:Prop)(e:zZ α)(E off:K)(nl:α->α)(s:zZ β)(E1:ut)(u:jp)(z:α)(xs:N β):MF:=FP [mPr<|X (wg u)=1/\q,mP (dj e off nl<|wg u) E (yR u) (z,0),mO s E1 ((wg u).headD XS) xs]
def mVh{α:Type}(q:Prop)(e:zZ α)(E off:K)(nl:α->α)(u:jp)(z:α):MF:=FP [mPr<|X (wg u)=1/\q,mP (dj e off nl<|wg u) E (yR u) (z,0)]
def eRw(n:K)(ag:uS)(hn:ag=I->n=1):zZ (V<|N jp)where
 n:=n
 agg:=ag
 n1:=hn
 p _ x cs _:=X cs=n/\(∀c∈cs,c.oneCell'=qR)/\∀l,x=Z l->cs=l
 len h:=h.1
 one h:=h.2.1
 keep h _:=h
 sub h _:=h
section
variable{α β γ:Type}{e:zZ α}{s:zZ β}{g:zZ γ}{off o:wP}{nl:α->α}{hv wt:wF jp}{S:wP->Prop}{w:jP}{cs:wF jp}
theorem znj{z:α×K}(h:(dj e off nl hv).p S z cs w):(eRw e.n e.agg e.n1).p S wW cs w:=by have⟨u,h1,b,d,a⟩:=h;have hl:=e.len a;rw[xaP]at hl;refine⟨hl,λc hc=> ?_,λl hl=>by cases hl⟩;have⟨k,f⟩:=xfC.1 hc;by_cases e1:k=off;simp_all;refine e.one a c<|xfC.2 ⟨k,?_⟩;grind
def zoW{x:α}{v:jp}(h:(fV e x v).p S w):(fV (eRw e.n e.agg e.n1) (Z v.cells.toList) v).p S w:=by obtain⟨cs,rfl,a⟩:=h;refine⟨cs,O,e.len a,e.one a,λl hl=> ?_⟩;cases hl;exact(e.val_cells a).symm
def zju{z:α×K}(h:(dj e off nl hv).p S z cs w):(dj e off nl<|hv++wt).p S z cs w:=by have⟨u,h1,a⟩:=h;exact⟨u,by rw[xbi (xaA.1 h1).1];exact h1,a⟩
def zqP{z:α}{r a:K}(b:hv[r]? =wt[a]?)(h:(dj e off nl hv).p S (z,r) cs w):(dj e off nl wt).p S (z,a) cs w:=by have⟨u,h1,c⟩:=h;exact⟨u,b▸h1,c⟩
def Sub.hole{z:α}{r:K}:Sub (dj e off nl hv) (z,r) off (YY hv) r (λa=>(z,a)):=by
 rintro S w cs ⟨u,h1,c,d,f⟩;have⟨h,i⟩:=xaA.1 d;refine⟨cs.take off,[u],cs.drop<|off+1,?_,by rw[xan];lia,⟨u,h1,c,O⟩,?_⟩;rw[<-i];simp;rintro w' a m k ⟨b,j,l,rfl⟩;have hl:X (cs.take off)=off:=by rw[xan];lia
 refine⟨b,j,l,?_,?_⟩;simp_all;have e1:(cs.take off++[b]++cs.drop (off+1)).set off (.slice wW 0 0)=cs.set off (.slice wW 0 0):=by
  have n:cs.set off (.slice wW 0 0)=cs.take off++ .slice wW 0 0::cs.drop (off+1):=by rw[xek,iq h]
  simp_all
 rw[e1];exact e.keep f k
def Sub.other{z:α}{r:K}{y:γ}{up:γ->α}(h:Sub e.c (nl z) o g y λy=>nl<|up y)(hd:o+g.n<=off\/off+1<=o):Sub (dj e off nl hv) (z,r) o g y (λy=>(up y,r)):=by
 rintro S w cs ⟨u,h1,q,B,C⟩;have⟨a,c,b,f,t,m,v⟩:=h S w _ C;have⟨hc,D⟩:=xaA.1 B;have E:=g.len m;have x:cs=(cs.set off (.slice wW 0 0)).set off u:=by rw[List.set_set,<-D,xdi]
 obtain hd|hd:=hd
 have F:off-X (a++c)<X b:=by have:X (cs.set off (.slice wW 0 0))=X cs:=xaP;rw[f,xau]at this;rw[xau]at this⊢;lia
 have A:X (a++c)<=off:=by rw[xau];lia
 refine⟨a,c,b.set (off-X (a++c)) u,?_,t,m,?_⟩;rw[x,f,xfD _ _ A];intro w' y' d k j;have p:=v w' y' d k j;have G:=g.len j;have hi:X (a++d)=X (a++c):=by rw[xau,xau,E,G]
 refine⟨u,h1,q,?_,?_⟩;rw[xbz W,hi,xcX F];have:(a++d++b.set (off-X (a++c)) u).set off (.slice wW 0 0)=a++d++b:=by
  rw[xfD _ _ W,hi,List.set_set];have hp:b[off-X (a++c)]? =Z (.slice wW 0 0):=by have:=Z4 (λl:N jp=>l[off]?) f;simp only[xcX hc]at this;rw[xbz A]at this;exact this.symm
  have⟨_,hp⟩:=xaA.1 hp;rw[<-hp,xdi]
 rw[this];exact p;have i:off<X a:=W
 refine⟨a.set off u,c,b,?_,by rw[xaP];exact t,m,?_⟩;rw[x,f,xas,xfL _ _ i,xas];intro w' y' d k j;have p:=v w' y' d k j;refine⟨u,h1,q,?_,?_⟩;rw[xas,xbi (by rw[xaP];exact i),xcX i];have:(a.set off u++d++b).set off (.slice wW 0 0)=a++d++b:=by
  rw[xas,xfL _ _ (by rw[xaP];exact i),List.set_set];have hp:a[off]? =Z (.slice wW 0 0):=by have:=Z4 (λl:N jp=>l[off]?) f;simp only[xcX hc]at this;rw[xas,xbi i]at this;exact this.symm
  have⟨_,hp⟩:=xaA.1 hp;rw[<-hp,xdi,xas]
 rw[this];exact p
end
end
section
variable{v:jp}{S:wP->Prop}{w:jP}
def eCh:zZ K where
 n:=1
 agg:=I
 n1 _:=O
 p _ x cs _:=cs=[.int .u8 (x:J)]/\x<256
 len h:=by simp[h.1]
 one h:=by intro c hc;rw[h.1]at hc;simp at hc;subst hc;rfl
 keep h _:=h
 sub h _:=h
def xW(s:WW):N K:=s.data.toList.map UInt8.toNat
def eTx:zZ (N K)where
 n:=1
 agg:=I
 n1 _:=O
 p _ x cs _:=∃s:WW,cs=[.string s]/\xW s=x/\s.size<=9223372036854775807
 len:=by rintro _ _ _ _ ⟨s,rfl,_⟩;rfl
 one:=by rintro _ _ _ _ ⟨s,rfl,_⟩ c hc;simp at hc;subst hc;rfl
 keep h _:=h
 sub h _:=h
def zqb{x:K}(h:(fV eCh x v).p S w):v=.int .u8 (x:J)/\x<256:=by obtain⟨cs,rfl,rfl,h⟩:=h;exact⟨O,h⟩
def La{x:K}(h:x<256):(fV eCh x (.int .u8 (x:J))).p S w:=⟨_,O,O,h⟩
def zby{x:N K}(h:(fV eTx x v).p S w):∃s:WW,v=.string s/\xW s=x/\s.size<=9223372036854775807:=by obtain⟨cs,rfl,s,rfl,h1,a⟩:=h;exact⟨s,O,h1,a⟩
def zcL{s:WW}{x:N K}(h:xW s=x)(a:s.size<=9223372036854775807):(fV eTx x (.string s)).p S w:=⟨_,O,s,O,h,a⟩
def um(s:WW):X (xW s)=s.size:=by simp_all [xW]
inductive Ty
 |i
 |u
 |b
 |l (t:Ty)
 |p (s t:Ty)
 |a (k:K) (t:Ty)
 |ch
 |tx
 |po (t:Ty)
 |w1 (t:Ty)
def Ty.D:Ty->Type
 |.i=>J
 |.u=>K
 |.b=>uS
 |.l t=>N t.D
 |.p s t=>s.D×t.D
 |.a _ t=>N t.D
 |.ch=>K
 |.tx=>N K
 |.po t=>V t.D
 |.w1 t=>t.D
def Ty.rep:(t:Ty)->zZ t.D
 |.i=>eI
 |.u=>eU
 |.b=>DZ
 |.l t=>eS t.rep
 |.p s t=>eP s.rep t.rep
 |.a k t=>eA k t.rep
 |.ch=>eCh
 |.tx=>eTx
 |.po t=>eO t.rep
 |.w1 t=>eW t.rep
def Ty.z:(t:Ty)->t.D
 |.i=>(0:J)
 |.u=>(0:K)
 |.b=>I
 |.l t=>([]:N t.D)
 |.p s t=>(s.z,t.z)
 |.a k t=>So k t.z
 |.ch=>(0:K)
 |.tx=>([]:N K)
 |.po t=>(wW:V t.D)
 |.w1 t=>t.z
def Ty.n:Ty->K
 |.p s t=>s.n+t.n
 |.a k t=>k*t.n
 |.w1 t=>t.n
 |_=>1
def Ty.n_rep:∀t:Ty,t.rep.n=t.n
 |.i=>rfl
 |.u=>rfl
 |.b=>rfl
 |.l _=>rfl
 |.ch=>rfl
 |.tx=>rfl
 |.p s t=>by show s.rep.n+t.rep.n=_;rw[Ty.n_rep s,Ty.n_rep t];rfl
 |.a k t=>by show k*t.rep.n=_;rw[Ty.n_rep t];rfl
 |.po _=>rfl
 |.w1 t=>Ty.n_rep t
def Ty.same:(s t:Ty)->V (PLift<|s=t)
 |.i,.i=>Z ⟨O⟩
 |.u,.u=>Z ⟨O⟩
 |.b,.b=>Z ⟨O⟩
 |.ch,.ch=>Z ⟨O⟩
 |.tx,.tx=>Z ⟨O⟩
 |.l s,.l t=>match Ty.same s t with
  |some ⟨h⟩=>Z ⟨Z4 Ty.l h⟩
  |none=>wW
 |.p s t,.p c d=>match Ty.same s c,Ty.same t d with
  |some ⟨h⟩,Z ⟨e⟩=>Z ⟨h▸e▸O⟩
  |_,_=>wW
 |.a k s,.a k' t=>if f:k=k' then(match Ty.same s t with
  |some ⟨h⟩=>Z ⟨f▸h▸O⟩
  |none=>wW)else wW
 |.po s,.po t=>match Ty.same s t with
  |some ⟨h⟩=>Z ⟨Z4 Ty.po h⟩
  |none=>wW
 |.w1 s,.w1 t=>match Ty.same s t with
  |some ⟨h⟩=>Z ⟨Z4 Ty.w1 h⟩
  |none=>wW
 |_,_=>wW
def Ty.cast{R:Type}(s t:Ty)(x:s.D)(k:t.D->V R):V R:=match Ty.same s t with
 |some ⟨h⟩=>k<|h▸x
 |none=>wW
def ou:N Ty->Type
 |[]=>Wl
 |t::r=>t.D×ou r
def Ia:N Ty->Type
 |[]=>Wl
 |[t]=>t.D
 |t::s::r=>t.D×Ia (s::r)
structure Fl(α:Type)where
 off:K
 f:Ty
 get:α->f.D
 set:f.D->α->α
def Fl.self(t:Ty):Fl t.D:=⟨0,t,id,λy _=>y⟩
def XJ{α:Type}(f:V (Fl α)):K:=match f with
 |some f=>f.off
 |none=>0
def ZL{α:Type}(s:Ty)(f:V (Fl α))(xs:N s.D)(z:α):α:=match f with
 |some ⟨_,.l a,_,st⟩=>(match Ty.same s a with
  |some ⟨h⟩=>st (h▸xs) z
  |none=>z)
 |_=>z
def Fl.comp{α:Type}(a:Fl α)(c:Fl a.f.D):Fl α:=⟨a.off+c.off,c.f,λz=>c.get<|a.get z,λy z=>a.set (c.set y<|a.get z) z⟩
def xu:(k:K)->(t:Ty)->(i:K)->V (Fl t.D)
 |0,.w1 t,0=>Z ⟨0,t,λz=>z,λy _=>y⟩
 |0,_,_=>wW
 |1,t,i=>bif Q i 0 then Z (Fl.self t)else wW
 |k+2,.p s t,0=>Z ⟨0,s,λz=>z.1,λy z=>(y,z.2)⟩
 |k+2,.p s t,i+1=>match xu (k+1) t i with
  |some f=>Z ⟨s.n+f.off,f.f,λz=>f.get z.2,λy z=>(z.1,f.set y z.2)⟩
  |none=>wW
 |_,_,_=>wW
structure PD where
 t:Ty
 x:t.D
def Sl(d:Z2)(l:K){α X Y:Type}(e:zZ α)(E:ut)(b:X->jp->MF)(f:Y->jp->MF)(g:N α->X->V (N α×(X⊕Y))):Prop:=
 ∀ys x a r,g ys x=Z (a,r)->∀(v u:jp) we Se F G w,St we Se (b x u::mO e E v ys::F) G w->
  YieldAt xcW 0 d l #[v] w λq w'=>q=.returned (.bool r.isLeft)/\∃c,St we Se (xfj (λx=>b x c) (λy=>f y c) r::mO e E v a::F) G w'
def lOf:jp->K
 |.int _ x=>x.toNat
 |_=>0
inductive Dv
 |d (t:Ty) (x:t.D)
 |q (t:Ty) (x:t.D)
 |kb (b:uS)
 |un
 |nil
 |ow (o:K)
 |ep (o:K) (t:Ty) (j:K) (f:Fl t.D)
 |sv (o:K) (t:Ty) (lo n:K)
 |vs (o:K) (t:Ty)
 |vp (o:K) (t:Ty) (f:Fl t.D)
 |fn (f:Wf) (c:N PD)
 |fp (dom cod:N Ty) (g:ou dom->V (Ia cod))
 |pin (v:jp)
 |mw (o:K)
 |mv (o lo n:K)
 |hp (o j:K)
 |rw(o r:K)
 |rp (o:K) (t:Ty) (r j:K) (f:Fl t.D)
 |yd (o:K)
 |np
 |vf (o:K) (t:Ty) (n i:K)
 |bm (f:Wf) (o:K) (t:Ty)
 |dz (t:Ty) (x:t.D) (n i:K)
 |ifc (q:PX)
inductive Od
 |own (t:Ty) (E:ut) (xs:N t.D)
 |var (t:Ty) (E:ut) (z:t.D)
 |mat (t:Ty) (E E1:ut) (ws:N (N t.D)) (ix:N K)
 |bo (t:Ty) (E E0:ut) (xs:N t.D)
 |ho (E0:ut)
 |vr (t:Ty) (E:ut) (s:Ty) (E1:ut) (n i:K) (z:t.D) (xs:N s.D)
 |vh (t:Ty) (E:ut) (s:Ty) (E1:ut) (n i:K) (z:t.D)
 |hid (t:Ty) (E:ut) (X Y:Type) (mX:X->jp->MF) (mY:Y->jp->MF) (g:N t.D->X->V (N t.D×(X⊕Y))) (x:X)
 |hiy (Y:Type) (mY:Y->jp->MF) (y:Y)
structure Sg where
 nx:K
 rg:N (K×K×Dv)
 ob:N (K×Od)
def lU:N (K×K×Dv)->K->K->V Dv
 |[],_,_=>wW
 |(a,b,d)::r,t,i=>bif Q a t && Q b i then Z d else lU r t i
def xH:N (K×Od)->K->V Od
 |[],_=>wW
 |(a,x)::r,o=>bif Q a o then Z x else xH r o
def get(cx σ:Sg)(t i:K):V Dv:=match lU σ.rg t i with
 |some d=>Z d
 |none=>lU cx.rg t i
def Qb(cx σ:Sg)(o:K):V Od:=match xH σ.ob o with
 |some d=>Z d
 |none=>xH cx.ob o
def cL(l:N K)(t:K):uS:=l.any<|Q t
def Wq(rg:N (K×K×Dv))(t:K):uS:=rg.all λe=> !Q e.1 t
def zpq(rg:N (K×K×Dv))(t:K):N (K×K×Dv):=rg.filter λe=> !Q e.1 t
def yI:N (K×Od)->K->N (K×Od)
 |[],_=>[]
 |(a,y)::r,o=>bif Q a o then r else(a,y)::yI r o
def kL:N (K×Od)->K->Od->N (K×Od)
 |[],_,_=>[]
 |(a,y)::r,o,x=>bif Q a o then(a,x)::r else(a,y)::kL r o x
def qU(rg:N (K×K×Dv))(d:V Wn)(l:N (K×Dv)):N (K×K×Dv):=match d with
 |some t=>l.map (λe=>(t,e.1,e.2))++zpq rg t
 |none=>rg
def wZ(cx:Sg)(d:V Wn):uS:=match d with
 |some t=>Wq cx.rg t
 |none=>qR
def Sg.put(σ:Sg)(d:V Wn)(l:N (K×Dv)):Sg:=⟨σ.nx,qU σ.rg d l,σ.ob⟩
def cv:jp->V Dv
 |.int .i64 x=>if Qp x then Z (.d .i x)else wW
 |.int .u64 x=>if 0<=x/\x<18446744073709551616 then Z (.d .u x.toNat)else wW
 |.bool b=>Z (.kb b)
 |.int .u8 x=>if 0<=x/\x<256 then Z (.d .ch x.toNat)else wW
 |.string s=>if s.size<=9223372036854775807 then Z (.d .tx<|xW s)else wW
 |.slice wW 0 0=>Z .nil
 |.pointer wW=>Z .np
 |.nilFunc=>Z (.pin .nilFunc)
 |_=>wW
def xG(cx σ:Sg):uL->V Dv
 |.tmp t=>get cx σ t 0
 |.const v=>cv v
 |.func f=>Z (.fn f [])
 |.global _=>wW
inductive TK
 |int (k:Wr)
 |bool
 |str
 |sl (E:ut)
 |st (k:K)
 |ar (k:K) (E:ut)
 |pt (E:ut)
structure TI where
 ty:Ty
 k:TK
 B:K
inductive AM
 |d (t:Ty)
 |q (t:Ty)
 |own (t:Ty) (E:ut)
 |fn (dom cod:N Ty)
 |var (t:Ty) (E:ut)
def AM.D:AM->Type
 |.d t=>t.D
 |.q t=>t.D
 |.own t _=>N t.D
 |.var t _=>t.D
 |.fn dom cod=>ou dom->V (Ia cod)
def aH:N AM->Type
 |[]=>Wl
 |a::r=>a.D×aH r
inductive RM
 |d (t:Ty)
 |own (t:Ty) (E:ut)
 |var (t:Ty) (E:ut)
def RM.D:RM->Type
 |.d t=>t.D
 |.own t _=>N t.D
 |.var t _=>t.D
def aI:N RM->Type
 |[]=>Wl
 |[a]=>a.D
 |a::b::r=>a.D×aI (b::r)
def RM.ty:RM->Ty
 |.d t=>t
 |.own t _=> .l t
 |.var t _=>t
inductive TF
 |d (t:Ty)
 |q (t:Ty)
 |own (t:Ty) (E:ut)
 |var (t:Ty) (E:ut)
 |mat (t:Ty) (E E1:ut)
 |matv (t:Ty) (E E1:ut)
 |row (j:K)
 |view (j:K)
 |bo (t:Ty) (E E0:ut)
 |vr (t:Ty) (E:ut) (s:Ty) (E1:ut) (n i:K)
def TF.D:TF->Type
 |.d t=>t.D
 |.q t=>t.D
 |.own t _=>N t.D
 |.var t _=>t.D
 |.mat t _ _=>N (N t.D)×N K
 |.matv t _ _=>(N (N t.D)×N K)×(K×K)
 |.row _=>K
 |.view _=>K×K
 |.bo t _ _=>N t.D
 |.vr t _ s _ _ _=>t.D×N s.D
def FA:TF->V K
 |.row j=>Z j
 |.view j=>Z j
 |_=>wW
inductive NF
 |kb (b:uS)
 |nil
 |ci (x:J)
 |cu (x:K)
 |al (s:K)
 |bm (s:K) (f:Wf)
structure Sh where
 ds:N (K×TF)
 ns:N (K×NF)
structure Sgm where
 ro:N K
 tg:N (Tg×Sh)
structure Lp where
 hd:Sh
 sg:Sgm
structure An where
 bx:N K
 jn:N (K×Sgm)
 lp:N (K×Lp)
 dz:N (K×N K)
 vw:N K
 mt:N K
 vr:N (K×K×K)
def U2{α:Type}:N (K×α)->K->V α
 |[],_=>wW
 |(k,x)::r,t=>bif Q k t then Z x else U2 r t
end
end Go.Proofs.YtoegnnjcmlghhaaGreat
