/- What a proof needs: rules of walking, mirrors of functions and their plain laws. No condition. -/
import Derived.WalkKit
import Derived.KernelRfl
import Derived.CallsIn
import Derived.OrdersIn
import Derived.TacticsIn
import Derived.RangeFuncIn
import Derived.Laws.AppendOwn
import Derived.Laws.OwnMore
import Derived.Laws.CopyOwn
import Derived.Orders
import Derived.Laws.IdiomCopy
import Derived.Laws.CopyRow
import Derived.Scope
import Derived.Lib.BitFns
import Derived.Test.YtoegnnjcmlghhaaGreatRows
import Derived.ProofKit
import Derived.OpenShut
import Derived.Laws.Pointers
import Derived.Test.YtoegnnjcmlghhaaGreatProg
import Derived.RangeFuncSeq
import Derived.RangeFuncRecord
set_option linter.all false
namespace Go.Proofs.YtoegnnjcmlghhaaGreat
open Bool renaming false->I,true->wT
open Go renaming Value->wW,World->qR,TypeId->kW,Operand->ul,execOp->uP,Program->uS,undef->Z9,Oper->Xs,FuncId->XS,Tmp->Wf,IntKind->Wl,Code->Wn,resolve->WN,Func->WT,wpListIn->WW,invoke->V1,heap_alloc_new->V2,ResultVar->V3,results->V4,eqGuard->V5,Act->V6,sizeOf->V9,maxLen->QR,getD_set_ne->Jp,typeInfo->JP,binOp->Kw,BinOp->KW,run_newObj_alloc->Ul,asIntOf->Us,builtin->UT,Addr->U8,MemPlace->am,getD_set_true->aC,Calls->aM,run_loadCells_list->bi,wpAnyIn->bv,run_storeCells_at->bI,PanicEntry->cE,grownCap->dL,zeroValue->eL,newRow->eM,fenced_calm->eX,Ending->fD,size_zeroCells->fN,growslice_fits->ge,asInt->gC,Exit->iT,madeCells->lm,setRow_heap->lI,loadVar->lW,goInt->mS,callFunc->mT,TypeInfo->ol,Deferred->oK,DataW->oL,Fence->oS
open List renaming length->X
open Nat renaming beq->R
open Option renaming some->Z,none->wS
open _root_ renaming rfl->O,List->N,Int->J,Nat->K,Option->V,List->ww,Nat->wL,Option->wN,absurd->jp,trivial->jP,Bool->ut,Array->Z3,Unit->Wd,True->Wr,ByteArray->WS,False->UP,Decidable->US,not_true_eq_false->li
def FS:=@List.mem_cons_of_mem
def H1:=@List.not_mem_nil
def IR:=@List.mem_cons_self
def Nm:=@Nat.le_refl
def UL:=@decide_eq_true_eq
def WD:=@Go.wpIn_mono
def WF:=@cond_true
def WP:=@congrFun
def Wt:=@cond_false
def Z0:=@Go.run_underlying
def Z2:=@congrArg
def Z4:=@if_true
def Z5:=@if_false
def cS:=@Go.wpIn_region_lit
def ce:=@if_pos
def gS:=@Go.wpIn_seq
def ii:=@Go.wpListIn_nil
def xaD:=@Nat.zero_add
def xaI:=@Nat.lt_of_le_of_lt
def xaN:=@List.length_replicate
def xaP:=@Nat.mod_lt
def xaT:=@List.all_eq_true
def xaX:=@Nat.div_lt_iff_lt_mul
def xaa:=@List.getElem?_eq_getElem
def xab:=@List.mem_append
def xac:=@Nat.mul_le_mul_right
def xad:=@List.mem_singleton
def xae:=@Bool.and_eq_true
def xaf:=@Nat.zero_le
def xai:=@List.mem_cons
def xaj:=@Bool.false_eq_true
def xal:=@Nat.le_trans
def xan:=@List.length_map
def xar:=@List.append_assoc
def xas:=@List.length_take
def xat:=@List.mem_map
def xau:=@List.length_append
def xav:=@Option.some.injEq
def xaw:=@List.length_cons
def xaz:=@List.getElem?_eq_some_iff
def xbD:=@List.getElem?_cons_zero
def xbF:=@Nat.le_of_ble_eq_true
def xbK:=@List.getElem?_take
def xbL:=@List.cons_append
def xbM:=@List.nil_append
def xbP:=@List.map_cons
def xbQ:=@List.drop_eq_nil_of_le
def xbT:=@Nat.add_zero
def xbU:=@Nat.lt_or_ge
def xbV:=@List.length_nil
def xba:=@Int.toNat_natCast
def xbd:=@List.mem_range
def xbe:=@List.length_set
def xbh:=@List.getElem?_eq_none
def xbl:=@List.getElem?_append_right
def xbo:=@List.append_nil
def xbq:=@List.eq_nil_of_length_eq_zero
def xbr:=@Int.natAbs_ediv_le_natAbs
def xbv:=@List.mem_of_getElem?
def xby:=@List.getElem_mem
def xcC:=@Nat.zero_mul
def xcD:=@Nat.div_le_self
def xcL:=@Prod.mk.injEq
def xcM:=@Bool.not_eq_true'
def xcN:=@Nat.one_mul
def xcP:=@Nat.pos_of_ne_zero
def xcS:=@List.length_eq_one_iff
def xcV:=@Nat.add_assoc
def xcZ:=@List.getElem_of_mem
def xch:=@List.length_drop
def xcj:=@Nat.le_mul_of_pos_right
def xcv:=@List.ext_getElem?
def xdA:=@Nat.add_comm
def xdP:=@List.getElem?_replicate
def xdR:=@List.map_nil
def xdT:=@List.replicate_succ
def xdU:=@Bool.or_eq_true
def xdX:=@Nat.le_mul_of_pos_left
def xdY:=@List.getElem?_set_self
def xdZ:=@List.map_toArray
def xde:=@List.set_getElem_self
def xdi:=@List.pairwise_cons
def xdn:=@Option.getD_some
def xdr:=@Nat.mul_pos
def xeC:=@List.take_succ_cons
def xeD:=@Bool.false_or
def xeS:=@Bool.not_true
def xeX:=@List.getElem?_zip_eq_some
def xes:=@List.mem_of_mem_take
def xfB:=@List.mem_iff_getElem?
def xfC:=@List.set_append_right
def xfH:=@List.any_eq_true
def xfg:=@List.getElem?_drop
def xfh:=@List.set_cons_succ
abbrev rX(S T:Type):=(S->Option T)->S->Option T
theorem W{p:Prop}(h:p:=by lia):p:=h
theorem pM{p:Prop}(h:p:=by lia):p:=h
theorem pU{p:Prop}(h:p:=by omega):p:=h
theorem rx{p:Prop}(h:p:=by decide):p:=h
theorem rC{p:Prop}(h:p:=by simp):p:=h
theorem rO{p:Prop}(h:p:=by kernel_rfl):p:=h
open Builtin renaming append_->xcb,copy_->xfP,firstCells->xeN,lenOf->xfO,zeroCells->xbs
open DataW renaming TrodAll->xeT
open Deferred renaming ofValue->xcX
open Extern renaming find->xfb,findNext->xeP
open Extern.MathBitsCarry renaming m64->xbf,pair->xcn,three->xbJ
open Fence renaming wide->xcR
open Instr renaming buildSlice->xeI,fill->xdJ,slice->xfS,sliceAt->xcW,sliceBound->xeH,sliceBounds->xet,sureAddr->xfz
open IntKind renaming i64->xdb,u64->xcs
open Lib renaming bitLen->xfu
open List renaming drop->xdN,drop_eq_getElem_cons->xbX,drop_left'->xfR,getElem?_append_left->xaZ,mem_of_mem_eraseIdx->xdI,range->xaC,range_succ->xcT,replicate->So,set_append_left->xfJ,set_eq_take_append_cons_drop->xec,take->xdB,take_append_drop->xbG,take_of_length_le->xaW
open Nat renaming add_mul->xbk,ble->xft,blt->xda,eq_of_beq_eq_true->xdy,lt_of_lt_of_le->xag,mod_eq_of_lt->xap,strongRecOn->xdz
open Oper renaming looksAt->xbm
open Option.some renaming inj->xfT
open Region renaming binds->xcq,ready->xed
open Result renaming andThen_ok->xao
open Sem renaming run_bind->xay,run_pure->xaV
open Sum renaming elim->xfi
open Value renaming bool->xeK,cells->xeB
open _root_.Array renaming getD_eq_getD_getElem?->xbx,getElem?_eq_getElem->xdu,getElem?_eq_some_iff->xbi,length_toList->xeZ,mem_toList_iff->xdM,range->xfa,replicate->xdh,toArray_toList->xcy
section
 universe u
def yg{c:Prop}{h:US c}{α:Type}{t e:α}(hc:c:=by lia):ite c t e=t:=ce hc
def zG{c:Prop}{h:US c}{α:Type}{t e:α}(hc:¬c:=by lia):ite c t e=e:=if_neg hc
def iq{c:Prop}{h:US c}(hc:c){α:Sort u}{t e:α}:ite c t e=t:=ce hc
def ir{c:Prop}{h:US c}(hc:¬c){α:Sort u}{t e:α}:ite c t e=e:=if_neg hc
structure yJ(S:K->Prop)(w w':qR):Prop where
 os:w'.os=w.os
 tape:w'.tape=w.tape
 output:w'.output=w.output
 size:w.heap.size<=w'.heap.size
 block:∀k,k<w.heap.size->S k->w'.heap[k]? =w.heap[k]?
abbrev dB(w w':qR):Prop:=yJ (λ_=>Wr) w w'
theorem yJ.refl(S:K->Prop)(w:qR):yJ S w w:=⟨O,O,O,Nm _,λ_ _ _=>O⟩
def yJ.trans{S:K->Prop}{a b c:qR}(h:yJ S a b)(k:yJ S b c):yJ S a c:=
 ⟨k.os.trans h.os,k.tape.trans h.tape,k.output.trans h.output,xal h.size k.size,
  λi hi d=>(k.block i (xag hi h.size) d).trans<|h.block i hi d⟩
def yJ.weak{S c:K->Prop}{a b:qR}(h:yJ S a b)(e:∀k,k<a.heap.size->c k->S k):yJ c a b:=
 ⟨h.os,h.tape,h.output,h.size,λk d f=>h.block k d<|e k d f⟩
def dB.to{S:K->Prop}{a b:qR}(h:dB a b):yJ S a b:=h.weak λ_ _ _=>jP
def dB.behind{S:K->Prop}{we a b:qR}(h:dB we a)(k:yJ S a b)(c:∀i,i<we.heap.size->S i):dB we b:=
 ⟨k.os.trans h.os,k.tape.trans h.tape,k.output.trans h.output,xal h.size k.size,
  λi hi _=>(k.block i (xag hi h.size)<|c i hi).trans<|h.block i hi jP⟩
def dB.alloc(w:qR)(o:Obj):dB w (w.alloc o):=
 ⟨O,O,O,rC,λk a _=>RowKit.Below.heap_alloc w o k a⟩
def dB.drawn(w:qR)(n:K):dB w {w with drawn:=n}:=⟨O,O,O,Nm _,λ_ _ _=>O⟩
structure FF where
 p:(K->Prop)->qR->Prop
 keep:∀{S:K->Prop}{w w':qR},p S w->yJ S w w'->p S w'
 sub:∀{S S':K->Prop}{w:qR},p S w->(∀k,k<w.heap.size->S k->S' k)->p S' w
structure MF where
 blk:K->Prop
 p:(K->Prop)->qR->Prop
 keep:∀{S:K->Prop}{w w':qR},p S w->yJ S w w'->(∀k,blk k->w'.heap[k]? =w.heap[k]?)->p S w'
 sub:∀{S S':K->Prop}{w:qR},p S w->(∀k,k<w.heap.size->S k->S' k)->p S' w
 lt:∀{S:K->Prop}{w:qR},p S w->∀k,blk k->k<w.heap.size
def zC(S:K->Prop):N FF->qR->Prop
 |[],_=>Wr
 |f::r,w=>f.p S w/\zC S r w
def yP(S:K->Prop):N MF->qR->Prop
 |[],_=>Wr
 |f::r,w=>f.p S w/\yP S r w
def zC.keep{S:K->Prop}{w w':qR}(k:yJ S w w'):∀{Γ:N FF},zC S Γ w->zC S Γ w'
 |[],_=>trivial
 |f::_,h=>⟨f.keep h.1 k,zC.keep k h.2⟩
def zC.sub{S a:K->Prop}{w:qR}(b:∀k,k<w.heap.size->S k->a k):∀{Γ:N FF},zC S Γ w->zC a Γ w
 |[],_=>trivial
 |f::_,h=>⟨f.sub h.1 b,zC.sub b h.2⟩
def zC.append{S:K->Prop}{w:qR}:∀{Γ Δ:N FF},zC S Γ w->zC S Δ w->zC S (Γ++Δ) w
 |[],_,_,h=>h
 |_::_,_,h,k=>⟨h.1,zC.append h.2 k⟩
def yP.sub{S a:K->Prop}{w:qR}(b:∀k,k<w.heap.size->S k->a k):∀{Γ:N MF},yP S Γ w->yP a Γ w
 |[],_=>trivial
 |f::_,h=>⟨f.sub h.1 b,yP.sub b h.2⟩
def yP.keep{S:K->Prop}{w w':qR}(k:yJ S w w'):∀{Γ:N MF},(∀m∈Γ,∀i,m.blk i->w'.heap[i]? =w.heap[i]?)->yP S Γ w->yP S Γ w'
 |[],_,_=>trivial
 |f::_,a,h=>⟨f.keep h.1 k<|a f<|IR,yP.keep k (λm b=>a m<|FS _ b) h.2⟩
def yP.lt{S:K->Prop}{w:qR}:∀{Γ:N MF},yP S Γ w->∀m∈Γ,∀i,m.blk i->i<w.heap.size
 |_::_,h,m,hm,i,hi=>by
  obtain rfl|hm:=xai.1 hm
  exact m.lt h.1 i hi;exact yP.lt h.2 m hm i hi
def Jm:N MF->Prop
 |[]=>Wr
 |m::r=>(∀k,m.blk k->∀m'∈r,¬m'.blk k)/\Jm r
def St(we:qR)(Se:K->Prop)(ms:N MF)(Γ:N FF)(w:qR):Prop:=
 dB we w/\(∀k,we.heap.size<=k->Se k)/\Jm ms/\∃S:K->Prop,(∀k,S k->Se k)/\(∀k,w.heap.size<=k->S k)/\(∀m∈ms,∀k,m.blk k->¬S k/\we.heap.size<=k)/\
  yP S ms w/\zC S Γ w
section
variable{we:qR}{Se:wL->Prop}{ms:ww MF}{Γ Δ:ww FF}{w w':qR}
def St.ext(h:St we Se ms Γ w)(x:dB w w'):St we Se ms Γ w':=by
 have⟨h1,b,c,S,d,e,f,a,g⟩:=h
 exact⟨h1.trans x,b,c,S,d,λk j=>e k<|xal x.size j,f,
  yP.keep x.to (λm l i hi=>x.block i (yP.lt a m l i hi) jP) a,zC.keep x.to g⟩
def St.step(h:St we Se ms Γ w)(x:dB w w')(n:∀S:K->Prop,(∀k,w.heap.size<=k->S k)->zC S Γ w->zC S Δ w'):St we Se ms Δ w':=by
 have⟨h1,c,d,S,e,a,f,b,g⟩:=h
 exact⟨h1.trans x,c,d,S,e,λk j=>a k<|xal x.size j,f,
  yP.keep x.to (λm l i hi=>x.block i (yP.lt b m l i hi) jP) b,n S a g⟩
theorem St.weak(h:St we Se ms Γ w)(n:∀(S:K->Prop) (w:qR),zC S Γ w->zC S Δ w):St we Se ms Δ w:=
 h.step (yJ.refl _ _) λS _=>n S w
def St.ex(h:St we Se ms Γ w):∃S:K->Prop,(∀k,w.heap.size<=k->S k)/\zC S Γ w:=
 let⟨_,_,_,S,_,a,_,_,b⟩:=h;⟨S,a,b⟩
def MA:∀{ms:N MF} (i:K) (m':MF),Jm ms->(∀m,ms[i]? =Z m->m'.blk=m.blk)->Jm (ms.set i m')
 |[],_,_,h,_=>by simpa using h
 |m::r,0,m',h,a=>by
  have:=a m O;exact⟨λk b=>h.1 k (by rw[<-this];exact b),h.2⟩
 |m::r,i+1,m',h,a=>by
  refine⟨λk b g c=> ?_,MA i m' h.2<|λm d=>a m<|by simpa using d⟩;obtain⟨j,f,rfl⟩:=xcZ c;rw[List.getElem_set];rw[xbe]at f;split;rename_i e;rw[a r[i] rC];exact h.1 k b _<|xby _;exact h.1 k b _<|xby _
theorem yP.get{S:K->Prop}:∀{ms:N MF}{i:K}{m:MF},yP S ms w->ms[i]? =Z m->m.p S w
 |_::_,0,_,h,e=>by simp only[xbD,xav]at e;exact e▸h.1
 |_::_,_+1,_,h,e=>yP.get h.2<|by simpa using e
def gU:∀{ms:N MF}{i:K}{m:MF},Jm ms->ms[i]? =Z m->∀k,m.blk k->∀(j:K) (m':MF),j≠i->ms[j]? =Z m'->¬m'.blk k
 |m0::r,0,m,h,e,k,b,j,m',c,a=>by
  simp only[xbD,xav]at e;subst e;obtain⟨j,rfl⟩:∃d,j=d+1:=⟨j-1,W⟩;exact h.1 k b m'<|xbv<|by simpa using a
 |m0::r,i+1,m,h,e,k,b,0,m',c,a=>by
  simp only[xbD,xav]at a;subst a;exact λhc=>h.1 k hc m (xbv<|by simpa using e) b
 |m0::r,i+1,m,h,e,k,b,j+1,m',c,a=>
  gU h.2 (by simpa using e) k b j m' W (by simpa using a)
def TN{S:K->Prop}{b:K}(x:yJ (λk=>k≠b) w w'):∀{ms:N MF} (i:K) (m':MF),(∀k,S k->k≠b)->m'.p S w'->
 (∀(j:K) (m:MF),j≠i->ms[j]? =Z m->¬m.blk b)->yP S ms w->yP S (ms.set i m') w'
 |[],_,_,_,_,_,_=>trivial
 |m::r,0,m',c,f,d,h=>by
  refine⟨f,yP.keep (x.weak λk _ a=>c k a) (λl g k a=> ?_) h.2⟩;obtain⟨j,n,rfl⟩:=xcZ g;exact x.block k (yP.lt h.2 _ (xby _) k a)<|λe=>d (j+1) r[j] W rC<|e▸a
 |m::r,i+1,m',c,f,d,h=>by
  refine⟨m.keep h.1 (x.weak λk _ a=>c k a)<|λk a=>x.block k (m.lt h.1 k a)<|λe=>d 0 m W O<|e▸a,?_⟩;exact TN x i m' c f (λj l n g=>d (j+1) l W<|by simpa using g) h.2
theorem St.write{i:K}{m m':MF}{b:K}(h:St we Se ms Γ w)(hi:ms[i]? =Z m)(s:m.blk=λk=> @Z K b=Z k)(hd:m'.blk=λk=> @Z K b=Z k)(x:yJ (λk=>k≠b) w w')
 (n:∀S:K->Prop,(∀k,S k->k≠b)->m.p S w->zC S Γ w->m'.p S w'):St we Se (ms.set i m') Γ w':=by
 have⟨h1,f,g,S,t,u,l,o,q⟩:=h;have c:m.blk b:=by rw[s]
 have d:∀k,S k->k≠b:=λk a e=>(l m (xbv hi) b c).1<|e▸a;refine⟨h1.behind x (λk a e=>by have:=(l m (xbv hi) b c).2;lia),f,MA i m' g<|λr f=> ?_,S,t,λk a=>u k<|xal x.size a,?_,?_,?_⟩;simp_all;grind;exact TN x i m' d (n S d (yP.get o hi) q) (λj r v hc=>gU g hi b c j r v hc) o;exact zC.keep (x.weak λk _ a=>d k a) q
def St.fresh{m:MF}(h:St we Se ms Γ w)(x:dB w w')(c:m.blk=λk=>Z w.heap.size=Z k)(hd:w.heap.size<w'.heap.size)
 (n:∀S:K->Prop,(∀k,w.heap.size<=k->S k)->zC S Γ w->m.p (λk=>S k/\k≠w.heap.size) w'):St we Se (m::ms) Γ w':=by
 have⟨h1,j,l,S,o,d,e,b,f⟩:=h;have g:∀k,k<w.heap.size->S k->S k/\k≠w.heap.size:=λk a q=>⟨q,W⟩;refine⟨h1.trans x,j,⟨λk a m' hm' hc=> ?_,l⟩,λk=>S k/\k≠w.heap.size,λk a=>o k a.1,λk a=>⟨d k W,W⟩,?_,⟨n S d f,?_⟩,?_⟩;rw[c]at a;cases a;have:=yP.lt b m' hm' _ hc;lia
 intro m' hm' k a;obtain rfl|hm':=xai.1 hm'
 rw[c]at a;cases a;exact⟨λhc=>hc.2 O,h1.size⟩
 exact⟨λhc=>(e m' hm' k a).1 hc.1,(e m' hm' k a).2⟩;exact yP.keep x.to (λm' hm' i hi=>x.block i (yP.lt b m' hm' i hi) jP)<|yP.sub g b;exact zC.keep x.to<|zC.sub g f
def af:∀{ms:N MF} (i:K),Jm ms->Jm (ms.eraseIdx i)
 |[],_,h=>by simpa using h
 |_::_,0,h=>h.2
 |m::r,i+1,h=>⟨λk a m' b=>h.1 k a m'<|xdI b,af i h.2⟩
def dG{S:K->Prop}:∀{ms:N MF} (i:K),yP S ms w->yP S (ms.eraseIdx i) w
 |[],_,h=>by simpa using h
 |_::_,0,h=>h.2
 |_::_,i+1,h=>⟨h.1,dG i h.2⟩
def St.freeze{i:K}{m:MF}{F:FF}(h:St we Se ms Γ w)(hi:ms[i]? =Z m)
 (n:∀S a:K->Prop,(∀k,S k->a k)->(∀k,m.blk k->a k)->m.p S w->F.p a w):St we Se (ms.eraseIdx i) (F::Γ) w:=by
 have⟨h1,d,e,S,g,l,b,f,o⟩:=h;have q:=xbv hi;refine⟨h1,d,af i e,λk=>S k\/m.blk k,?_,λk hk=> .inl<|l k hk,?_,yP.sub (λk _ hk=> .inl hk)<|dG i f,n S _ (λk hk=> .inl hk) (λk hk=> .inr hk)<|yP.get f hi,zC.sub (λk _ hk=> .inl hk) o⟩;rintro k (hk|hk);exact g k hk;exact d k (b m q k hk).2;intro m' c k hk;refine⟨?_,(b m' (xdI c) k hk).2⟩;rintro(hc|hc);exact(b m' (xdI c) k hk).1 hc;have⟨j,r,hd⟩:=List.mem_eraseIdx_iff_getElem?.1 c;exact gU e hi k hc j m' r hd hk
def St.drop{i:K}(h:St we Se ms Γ w):St we Se (ms.eraseIdx i) Γ w:=by have⟨h1,a,b,S,c,d,e,f,g⟩:=h;exact⟨h1,a,af i b,S,c,d,λm' j=>e m'<|xdI j,dG i f,g⟩
def St.nil(h:zC Se Γ we)(a:∀k,we.heap.size<=k->Se k):St we Se [] Γ we:=
 ⟨yJ.refl _ _,a,jP,Se,λ_ h=>h,a,λ_ h=>jp h H1,jP,h⟩
end
abbrev xj:=K->wW
def L:N (K×wW)->xj->xj
 |[],r,t=>r t
 |(k,v)::l,r,t=>bif R t k then v else L l r t
def put(H:xj):V Wf->wW->xj
 |some d,v=>L [(d,v)] H
 |none,_=>H
def ya(a:V6):xj:=λt=>a.tmps.getD t Z9
def ev(H:xj):ul->wW
 |.tmp t=>H t
 |.const v=>v
 |.global g=> .pointer<|some ⟨g,0,wS⟩
 |.func f=> .func (.func f) #[] #[]
def zkT(H:xj):N (K×wW)->N wW
 |[]=>[]
 |(k,_)::l=>H k::zkT H l
def zdG:N (K×wW)->N wW
 |[]=>[]
 |(_,v)::l=>v::zdG l
def cH(H:xj)(l:N (K×wW)):Prop:=zkT H l=zdG l
def zbm{H:xj}{k:K}{v:wW}{l:N (K×wW)}(h:H k=v)(a:cH H l):cH H ((k,v)::l):=by show H k::zkT H l=v::zdG l;rw[h,show zkT H l=zdG l from a]
def rF{H:xj}{k:K}{v:wW}{l:N (K×wW)}(h:cH H ((k,v)::l)):H k=v/\cH H l:=by have h1:=h;exact List.cons.inj h1
def Ui{H:xj}:∀{a:N (K×wW)},cH H a->L a H=H
 |[],_=>rfl
 |(k,v)::l,h=>by
  funext t;have c:=WP (Ui (rF h).2) t;simp only[L];cases b:R t k
  simp_all;simp only[WF];rw[xdy b];exact(rF h).1.symm
def Uo(a:V6):a.eval=ev (ya a):=by funext x;cases x<;>rfl
def WH{a:V6}{d:V Wf}{v:wW}(h:∀t,d=Z t->t<a.tmps.size):ya (a.put d v)=put (ya a) d v:=by
 cases d with
 |none=>rfl
 |some d=>
  funext t;simp only[ya,Act.put,put,L,xbx];cases b:R t d
  have:d≠t:=λe=>by subst e;simp at b
  grind;simp_all
def cn(a:V6)(d:V Wf)(v:wW):(a.put d v).tmps.size=a.tmps.size:=by cases d<;>simp[Act.put]
def Va(a:V6)(d:V Wf)(v:wW):(a.put d v).defers=a.defers:=by cases d<;>rfl
abbrev Qs:=iT->xj->qR->Prop
structure Nd where
 n:K
 ds:N oK
 rd:V K
abbrev Nd.of(n:K):Nd:=⟨n,[],wS⟩
abbrev Nd.F(N:Nd):oS:={xcR with round:=N.rd}
def zfG(N:Nd)(Q:Qs):iT->V6->qR->Prop:=λe a w=>a.tmps.size=N.n/\a.defers=N.ds/\Q e (ya a) w
def Wp(P:uS)(N:Nd)(c:Wn)(Q:Qs)(H:xj)(w:qR):Prop:=
 ∀a:V6,a.tmps.size=N.n->a.defers=N.ds->ya a=H->c.wpIn N.F 0 P (zfG N Q) a w
def znH(K:xj->qR->Prop)(Q:Qs):Qs
 |.normal,H,w=>K H w
 |e,H,w=>Q e H w
def zgy(id:K)(Q:Qs):Qs
 |.exit a,H,w=>bif R a id then Q .normal H w else Q (.exit a) H w
 |e,H,w=>Q e H w
def T(P:uS)(N:Nd)(we:qR)(Se:K->Prop)(ms:ww MF)(Γ:ww FF)(c:Wn)(Q:Qs)(H:xj):Prop:=
 ∀w,St we Se ms Γ w->Wp P N c Q H w
section
variable{P:uS}{N:Nd}{we:qR}{Se:wL->Prop}{ms:ww MF}{Γ:ww FF}{Q:Qs}{H:xj}
def B6{x y:Wn}(h:T P N we Se ms Γ x (znH (Wp P N y Q) Q) H):T P N we Se ms Γ (.seq x y) Q H:=by intro w c a h1 d f;refine gS<|WD (h w c a h1 d f) ?_;intro e g w' ⟨q1,q2,b⟩;cases e<;>first|exact b g q1 q2 O|exact⟨q1,q2,b⟩
def zn4(h:∀w,St we Se ms Γ w->Q .normal H w):T P N we Se ms Γ .skip Q H:=
 λw a _ h1 b c=>wpIn_skip ⟨h1,b,c▸h w a⟩
def znU(h:∀w,St we Se ms Γ w->Q .ret H w):T P N we Se ms Γ .ret Q H:=
 λw a _ h1 b c=>wpIn_ret ⟨h1,b,c▸h w a⟩
def fY{c:ul}{x y:Wn}(hc:ev H c=.bool wT)(h:T P N we Se ms Γ x Q H):T P N we Se ms Γ (.cond c x y) Q H:=
 λw d a h1 e b=>wpIn_cond_true (by rw[Uo,b];exact hc)<|h w d a h1 e b
def Aj{c:ul}{x y:Wn}(hc:ev H c=.bool I)(h:T P N we Se ms Γ y Q H):T P N we Se ms Γ (.cond c x y) Q H:=
 λw d a h1 e b=>wpIn_cond_false (by rw[Uo,b];exact hc)<|h w d a h1 e b
def zoa{c:ul}{x y:Wn}(b:ut)(hc:ev H c=.bool b)(h:b=wT->T P N we Se ms Γ x Q H)(a:b=I->T P N we Se ms Γ y Q H):T P N we Se ms Γ (.cond c x y) Q H:=by
 cases b
 exact Aj hc<|a O;exact fY hc<|h O
def zd8{id:K}{c:Wn}(h:T P N we Se ms Γ c (zgy id Q) H):T P N we Se ms Γ (.block id c) Q H:=by
 intro w f a h1 g j;refine wpIn_block<|WD (h w f a h1 g j) ?_;intro e k w' ⟨q1,q2,b⟩
 cases e with
 |exit i=>
  simp only[zgy]at b;simp only[Exit.inBlock];cases d:R i id
  rw[d]at b;rw[ir<|λe=>by subst e;simp at d];exact⟨q1,q2,b⟩;rw[d]at b;rw[iq<|xdy d];exact⟨q1,q2,b⟩
 |_=>exact⟨q1,q2,b⟩
def zcu{F:oS}{n:K}{c:Wn}{Q:iT->V6->qR->Prop}{a:V6}{w:qR}{G:Type}(J:G->V6->qR->Prop)(t:G->K)(h:G)(p:J h a w)
 (round:∀g a w,J g a w->c.wpIn F n P (Exit.then (λo w'=>∃y,J y o w'/\t y<t g) Q) a w):(Code.loop c).wpIn F n P Q a w:=by
 intro b k cs hd u v
 have x:∀n g a w,t g=n->J g a w->
  ∃e o w',Q e o w'/\ArrivesIn (Machine.fenced P F) P (lone (b.atR a (.code c::.inLoop c::k)) cs w) b k cs e o w':=by
  intro n
  induction n using xdz with
  |_ n z=>
   intro g a w hn A;have⟨e,d,f,i,j⟩:=round g a w A b (.inLoop c::k) cs hd u v
   cases e with
   |normal=>
    have⟨m,B,C⟩:=i;have⟨q,r,s,D,hc⟩:=z (t m) (hn▸C) m d f O B;exact⟨q,r,s,D,.of_steps (StepsIn.trans j (.one (eX u v O) stepR_inLoop)) hc⟩
   |exit id=>exact⟨_,d,f,i,.pass O (λ_ _=> .inl rC) j⟩
   |goto l=>exact⟨_,d,f,i,.pass O (λ_ _=> .inl rC) j⟩
   |ret=>exact⟨_,d,f,i,.pass O (λ_ _=> .inl rC) j⟩
   |panic E=>exact⟨_,d,f,i,.pass O (λ_ _=> .inl rC) j⟩
   |outgrown=>exact⟨_,d,f,i,.pass O (λ_ _=> .inl rC) j⟩
 have⟨e,o,w',i,j⟩:=x _ h a w O p;exact⟨e,o,w',i,.of_steps (.one (eX u v O) stepR_loop) j⟩
end
def FnQ{U:Type}(Se:K->Prop)(w:qR)(wt:U->wW)(a:U->N FF)(ok:U->Prop):fD->qR->Prop:=
 λe w'=>∃u,e=.returned (wt u)/\ok u/\dB w w'/\zC Se (a u) w'
def Fn{U:Type}(P:uS)(f:XS)(args:Z3 wW)(Γ:N FF)(wt:U->wW)(a:U->N FF)(ok:U->Prop):Prop:=
 ∀w Se,(∀k,w.heap.size<=k->Se k)->zC Se Γ w->aM P f args w (FnQ Se w wt a ok)
def zpT{U:Type}(P:uS)(fn:WT)(we:qR)(Se:K->Prop)(wt:U->wW)(b:U->N FF)(ok:U->Prop):Qs
 |.ret,H,w|.normal,H,w=>∃u,(∀a:V6,ya a=H->(V4 fn a.tmps).run P w=.ok (wt u) w)/\ok u/\dB we w/\zC Se (b u) w
 |_,_,_=>UP
def cY(args:Z3 wW)(n:K):ya ⟨args++xdh n Z9,[]⟩=λt=>args.getD t Z9:=by funext t;simp only[ya,xbx,Array.getElem?_append];split;rfl;grind
def K9:∀(l:N wW) (k:K) (H:xj),(∀j,H (k+j)=l.getD j Z9)->cH H ((l.zipIdx k).map λx=>(x.2,x.1))
 |[],_,_,_=>rfl
 |v::l,k,H,h=>zbm (by simpa using h 0)<|K9 l (k+1) H (λj=>by have:=h<|j+1;simpa[xcV,xdA 1 j]using this)
def zfS{U:Type}{P:uS}{f:XS}{args:N wW}{Γ:N FF}{wt:U->wW}{i:U->N FF}{ok:U->Prop}{fn:WT}{c:Wn}
 (l:P.funcs[f]? =Z fn) (m:fn.body=Z c) (hn:xft (X args) fn.ntmps=wT)
 (h:∀we Se rest,T P (Nd.of fn.ntmps) we Se [] Γ c (zpT P fn we Se wt i ok)<|L ((args.zipIdx 0).map λx=>(x.2,x.1)) rest):Fn P f args.toArray Γ wt i ok:=by
 intro w Se o a;have hn:=xbF hn;refine calls_of_wp l m<|(wpIn_wide (n:=0)).1 ?_;have hc:cH (ya ⟨args.toArray++xdh (fn.ntmps-args.toArray.size) Z9,[]⟩) ((args.zipIdx 0).map λx=>(x.2,x.1)):=by refine K9 args 0 _ λj=> ?_;rw[cY];simp_all
 refine WD (h w Se _ w (St.nil a o) _ (by simp;lia) O (Ui hc).symm) ?_;intro e k w' ⟨q1,q2,b⟩;cases e<;>simp only[zpT]at b
 have⟨u,r1,r2,d,g⟩:=b;exact⟨q2,_,r1 k O,u,O,r2,d,g⟩;have⟨u,r1,r2,d,g⟩:=b;exact⟨q2,_,r1 k O,u,O,r2,d,g⟩
section
variable{P:uS}{we:qR}{Se:wL->Prop}{ms:ww MF}{Γ:ww FF}{H:xj}{U:Type}{wt:U->wW}{ws:U->ww FF}{ok:U->Prop}{fn:WT}
def St.out{Δ:N FF}{w:qR}(h:St we Se ms Γ w)(n:∀(S:K->Prop) (w:qR),zC S Γ w->zC S Δ w):dB we w/\zC Se Δ w:=by have⟨h1,c,d,S,a,e,f,g,b⟩:=h;exact⟨h1,zC.sub (λk _=>a k)<|n S w b⟩
def zsc{t:Wf}(u:U)(b:fn.results= #[.tmp t])(hv:H t=wt u)(hc:ok u)(n:∀(S:K->Prop) (w:qR),zC S Γ w->zC S (ws u) w):
 ∀w,St we Se ms Γ w->zpT P fn we Se wt ws ok .ret H w:=by
 intro w c;refine⟨u,λa d=> ?_,hc,c.out n⟩;rw[<-hv,<-d];simp[V4,b,ya]
def GA(tmps:Z3 wW):V3->Sem wW
 |.tmp t=>pure<|tmps.getD t Z9
 |.cell a t=>do lW t (<-asAddr (tmps.getD a Z9))
end
end
section
structure zT(α:Type)where
 n:K
 agg:ut
 n1:agg=I->n=1
 p:(K->Prop)->α->N wW->qR->Prop
 len:∀{S x cs w},p S x cs w->cs.length=n
 one:∀{S x cs w},p S x cs w->∀c∈cs,c.oneCell'=wT
 keep:∀{S x cs w w'},p S x cs w->yJ S w w'->p S x cs w'
 sub:∀{S S':K->Prop}{x cs w},p S x cs w->(∀k,k<w.heap.size->S k->S' k)->p S' x cs w
def zT.val{α:Type}(e:zT α)(cs:N wW):wW:=if e.agg then .agg cs.toArray else cs.headD Z9
def zT.val_cells{α:Type}(e:zT α){S:K->Prop}{x:α}{cs:N wW}{w:qR}(h:e.p S x cs w):(e.val cs).cells.toList=cs:=by
 unfold zT.val;cases a:e.agg
 have hl:=e.len h;rw[e.n1 a]at hl;obtain⟨c,rfl⟩:=xcS.1 hl;have:=e.one h c rC;cases c<;>simp_all [xeB,Value.oneCell']
 rfl
def fV{α:Type}(e:zT α)(x:α)(v:wW):FF where
 p S w:=∃cs,v=e.val cs/\e.p S x cs w
 keep:=λ⟨cs,h1,a⟩ k=>⟨cs,h1,e.keep a k⟩
 sub:=λ⟨cs,h1,a⟩ k=>⟨cs,h1,e.sub a k⟩
def eI:zT J where
 n:=1
 agg:=I
 n1 _:=O
 p _ x cs _:=cs=[.int .i64 x]/\ -9223372036854775808<=x/\x<=9223372036854775807
 len h:=by simp[h.1]
 one h:=by intro c hc;rw[h.1]at hc;simp at hc;subst hc;rfl
 keep h _:=h
 sub h _:=h
def eU:zT K where
 n:=1
 agg:=I
 n1 _:=O
 p _ x cs _:=cs=[.int .u64 (x:J)]/\x<18446744073709551616
 len h:=by simp[h.1]
 one h:=by intro c hc;rw[h.1]at hc;simp at hc;subst hc;rfl
 keep h _:=h
 sub h _:=h
def eB8:zT UInt8 where
 n:=1
 agg:=I
 n1 _:=O
 p _ x cs _:=cs=[.int .u8 (x.toNat:J)]
 len h:=by simp[h]
 one h:=by intro c hc;rw[h]at hc;simp at hc;subst hc;rfl
 keep h _:=h
 sub h _:=h
def Gv:zT ut where
 n:=1
 agg:=I
 n1 _:=O
 p _ x cs _:=cs=[.bool x]
 len h:=by simp[h]
 one h:=by intro c hc;rw[h]at hc;simp at hc;subst hc;rfl
 keep h _:=h
 sub h _:=h
def Yp{α:Type}{e:zT α}{S:K->Prop}{x:α}{v:wW}{w:qR}(h:(fV e x v).p S w):e.p S x v.cells.toList w:=by obtain⟨cs,rfl,h⟩:=h;rw[e.val_cells h];exact h
def zrp{α:Type}{e:zT α}{S:K->Prop}{x:α}{cs:N wW}{w:qR}(h:e.p S x cs w):(fV e x<|e.val cs).p S w:=⟨cs,O,h⟩
def zqb{x:J}{v:wW}{S:K->Prop}{w:qR}(h:(fV eI x v).p S w):v=.int .i64 x/\ -9223372036854775808<=x/\x<=9223372036854775807:=by obtain⟨cs,rfl,rfl,h⟩:=h;exact⟨O,h⟩
def zom{x:K}{v:wW}{S:K->Prop}{w:qR}(h:(fV eU x v).p S w):v=.int .u64 (x:J)/\x<18446744073709551616:=by obtain⟨cs,rfl,rfl,h⟩:=h;exact⟨O,h⟩
def sO{x:ut}{v:wW}{S:K->Prop}{w:qR}(h:(fV Gv x v).p S w):v=.bool x:=by obtain⟨cs,rfl,rfl⟩:=h;rfl
def w9{x:J}{S:K->Prop}{w:qR}(h: -9223372036854775808<=x/\x<=9223372036854775807):(fV eI x (.int .i64 x)).p S w:=⟨_,O,O,h⟩
def jN{x:K}{S:K->Prop}{w:qR}(h:x<18446744073709551616):(fV eU x (.int .u64 (x:J))).p S w:=⟨_,O,O,h⟩
def Dt{x:ut}{S:K->Prop}{w:qR}:(fV Gv x (.bool x)).p S w:=⟨_,O,O⟩
def yQ{α:Type}(e:zT α)(S:K->Prop):N α->N wW->qR->Prop
 |[],cs,_=>cs=[]
 |x::xs,cs,w=>∃c r,cs=c++r/\e.p S x c w/\yQ e S xs r w
section
variable{α:Type}{e:zT α}{S S':wL->Prop}{w w':qR}
def yQ.len:∀{xs:N α}{cs:N wW},yQ e S xs cs w->X cs=X xs*e.n
 |[],_,h=>by simp[show _=[]from h]
 |x::xs,_,⟨c,r,h,hc,a⟩=>by rw[h,xau,e.len hc,yQ.len a,xaw,xbk,xdA];simp
def yQ.one:∀{xs:N α}{cs:N wW},yQ e S xs cs w->∀c∈cs,c.oneCell'=wT
 |[],_,h=>by simp[show _=[]from h]
 |x::xs,_,⟨c,r,h,hc,a⟩=>by
  intro d hd;rw[h]at hd;obtain hd|hd:=xab.1 hd
  exact e.one hc d hd;exact yQ.one a d hd
def yQ.keep(k:yJ S w w'):∀{xs:N α}{cs:N wW},yQ e S xs cs w->yQ e S xs cs w'
 |[],_,h=>h
 |_::_,_,⟨c,r,h,hc,a⟩=>⟨c,r,h,e.keep hc k,yQ.keep k a⟩
def yQ.sub(k:∀k,k<w.heap.size->S k->S' k):∀{xs:N α}{cs:N wW},yQ e S xs cs w->yQ e S' xs cs w
 |[],_,h=>h
 |_::_,_,⟨c,r,h,hc,a⟩=>⟨c,r,h,e.sub hc k,yQ.sub k a⟩
def yQ.append:∀{xs ys:N α}{cs ds:N wW},yQ e S xs cs w->yQ e S ys ds w->yQ e S (xs++ys) (cs++ds) w
 |[],_,_,_,h,k=>by rw[show _=[]from h];exact k
 |_::_,_,_,_,⟨c,r,h,hc,a⟩,k=>⟨c,r++_,by rw[h,xar],hc,yQ.append a k⟩
def yQ.drop:∀{xs:N α}{cs:N wW} (k:K),yQ e S xs cs w->yQ e S (xs.drop k) (cs.drop<|k*e.n) w
 |[],cs,k,h=>by simp[show cs=[]from h];exact O
 |x::xs,cs,0,h=>by simpa using h
 |x::xs,_,k+1,⟨c,r,h,hc,a⟩=>by
  have:=yQ.drop k a;rw[List.drop_succ_cons,h,xbk,xcN,xdA,<-List.drop_drop];rwa[xfR<|e.len hc]
def yQ.take:∀{xs:N α}{cs:N wW} (k:K),yQ e S xs cs w->yQ e S (xs.take k) (cs.take<|k*e.n) w
 |[],cs,k,h=>by simp[show cs=[]from h];exact O
 |x::xs,cs,0,h=>by simp;exact O
 |x::xs,_,k+1,⟨c,r,h,hc,a⟩=>by
  refine⟨c,r.take<|k*e.n,?_,hc,yQ.take k a⟩;rw[h,xbk,List.take_append,e.len hc,xaW<|by rw[e.len hc];lia];simp_all
def yQ.get{xs:N α}{cs:N wW}{i:K}{x:α}(h:yQ e S xs cs w)(b:xs[i]? =Z x):
 ∃c,e.p S x c w/\∀j,j<e.n->cs[i*e.n+j]? =c[j]? :=by
 have hd:=h.drop i;obtain⟨hi,rfl⟩:=xaz.1 b;rw[xbX hi]at hd;have⟨c,r,h1,a,f⟩:=hd;refine⟨c,a,λj d=> ?_⟩;rw[<-xfg,h1,xaZ<|by rw[e.len a];exact d]
def yQ.replicate{x:α}{c:N wW}(h:e.p S x c w):∀n,yQ e S (So n x) (So n c).flatten w
 |0=>rfl
 |n+1=>⟨c,_,by simp[xdT],h,yQ.replicate h n⟩
end
def At(w:qR)(b o:K)(cs:N wW):Prop:=b<w.heap.size/\∀j v,cs[j]? =Z v->w.cell? ⟨b,o+j,wS⟩=Z v
def At.keep{S:K->Prop}{w w':qR}{b o:K}{cs:N wW}(h:At w b o cs)(a:S b)(k:yJ S w w'):At w' b o cs:=
 ⟨xag h.1 k.size,λj v hv=>by rw[World.cell?_of_block<|k.block b h.1 a];exact h.2 j v hv⟩
def At.drop{w:qR}{b o:K}{cs:N wW}(h:At w b o cs)(k:K):At w b (o+k) (cs.drop k):=
 ⟨h.1,λj v hv=>by rw[xfg]at hv;have:=h.2 _ v hv;rwa[xcV]⟩
def At.take{w:qR}{b o:K}{cs:N wW}(h:At w b o cs)(k:K):At w b o (cs.take k):=
 ⟨h.1,λj v hv=>h.2 j v<|by rw[xbK]at hv;split at hv<;>simp_all⟩
def At.row{w:qR}{b:K}{cs:Z3 wW}{t:kW}{fr:K×K}(h:w.heap[b]? =Z (.cells cs t fr)):At w b 0 cs.toList:=
 ⟨(xbi.1 h).1,λj v hv=>by rw[cell_of_row w b (0+j) cs t fr h];simpa using hv⟩
def SlP{α:Type}(e:zT α)(S:K->Prop)(xs:N α)(v:wW)(w:qR):Prop:=
 ∃a cap,v=.slice a (X xs) cap/\X xs<=cap/\cap<=QR/\(xs=[]\/∃b o cs,a=Z ⟨b,o,wS⟩/\S b/\At w b o cs/\yQ e S xs cs w)
def eS{α:Type}(e:zT α):zT (N α)where
 n:=1
 agg:=I
 n1 _:=O
 p S xs cs w:=∃v,cs=[v]/\SlP e S xs v w
 len:=λ⟨v,h,_⟩=>by simp[h]
 one:=λ⟨v,h,⟨a,cap,hv,_⟩⟩=>by intro c hc;rw[h]at hc;simp at hc;subst hc;rw[hv];rfl
 keep:=λ⟨v,h,⟨a,cap,h1,f,g,i⟩⟩ k=>⟨v,h,a,cap,h1,f,g,i.imp id λ⟨b,o,cs,j,d,a3,a4⟩=>⟨b,o,cs,j,d,a3.keep d k,a4.keep k⟩⟩
 sub:=λ⟨v,h,⟨a,cap,h1,f,g,i⟩⟩ k=>⟨v,h,a,cap,h1,f,g,i.imp id λ⟨b,o,cs,j,d,a3,a4⟩=>⟨b,o,cs,j,k b a3.1 d,a3,a4.sub k⟩⟩
def wg{α:Type}{e:zT α}{xs:N α}{v:wW}{S:K->Prop}{w:qR}:(fV (eS e) xs v).p S w↔SlP e S xs v w:=
 ⟨λ⟨_,h1,c,a,b⟩=>by subst a;rw[h1];exact b,λh=>⟨[v],O,v,O,h⟩⟩
def eP{α β:Type}(e:zT α)(f:zT β):zT (α×β)where
 n:=e.n+f.n
 agg:=wT
 n1 h:=by cases h
 p S x cs w:=∃c d,cs=c++d/\e.p S x.1 c w/\f.p S x.2 d w
 len:=λ⟨c,d,h,hc,hd⟩=>by rw[h,xau,e.len hc,f.len hd]
 one:=λ⟨c,d,h,hc,hd⟩ x hx=>by
  rw[h]at hx;obtain hx|hx:=xab.1 hx
  exact e.one hc x hx;exact f.one hd x hx
 keep:=λ⟨c,d,h,hc,hd⟩ k=>⟨c,d,h,e.keep hc k,f.keep hd k⟩
 sub:=λ⟨c,d,h,hc,hd⟩ k=>⟨c,d,h,e.sub hc k,f.sub hd k⟩
def eA{α:Type}(k:K)(e:zT α):zT (N α)where
 n:=k*e.n
 agg:=wT
 n1 h:=by cases h
 p S xs cs w:=X xs=k/\yQ e S xs cs w
 len:=λ⟨h,a⟩=>by rw[a.len,h]
 one:=λ⟨_,a⟩=>a.one
 keep:=λ⟨h,a⟩ k=>⟨h,a.keep k⟩
 sub:=λ⟨h,a⟩ k=>⟨h,a.sub k⟩
abbrev Zr:=ut×N K
abbrev Qr:=Zr×N K
abbrev v6:=N Zr×N Qr
def fP{α:Type}(e:zT α)(x:α)(v:wW):FF where
 p S w:=∃b o cs,v=.pointer (Z ⟨b,o,wS⟩)/\S b/\At w b o cs/\e.p S x cs w
 keep:=λ⟨b,o,cs,h1,a,c,d⟩ k=>⟨b,o,cs,h1,a,c.keep a k,e.keep d k⟩
 sub:=λ⟨b,o,cs,h1,a,c,d⟩ k=>⟨b,o,cs,h1,k b c.1 a,c,e.sub d k⟩
structure BO(α:Type)where
 p:(K->Prop)->α->N wW->qR->Prop
 keep:∀{S x cs w w'},p S x cs w->yJ S w w'->p S x cs w'
 sub:∀{S S':K->Prop}{x cs w},p S x cs w->(∀k,k<w.heap.size->S k->S' k)->p S' x cs w
def zT.c{α:Type}(e:zT α):BO α:=⟨e.p,e.keep,e.sub⟩
def zrC{α:Type}(e:zT α):BO (N α):=⟨yQ e,λh k=>h.keep k,λh k=>h.sub k⟩
def mB{α:Type}(e:BO α)(E:kW)(b:K)(x:α):MF where
 blk k:=Z b=Z k
 p S w:=∃cs:Z3 wW,w.heap[b]? =Z (.cells cs E (0,0))/\e.p S x cs.toList w
 keep:=λ⟨cs,h1,a⟩ k hb=>⟨cs,by rw[hb b O];exact h1,e.keep a k⟩
 sub:=λ⟨cs,h1,a⟩ k=>⟨cs,h1,e.sub a k⟩
 lt:=λ⟨cs,h1,_⟩ k c=>by cases c;exact(xbi.1 h1).1
abbrev mR{α:Type}(e:zT α)(E:kW)(b:K)(xs:N α):MF:=mB (zrC e) E b xs
def mO{α:Type}(e:zT α)(E:kW)(v:wW)(xs:N α):MF where
 blk k:=v.ownBlock=Z k
 p S w:=∃cs,w.ownsRow 0 E e.n v (X xs) cs/\yQ e S xs cs w
 keep:=λ⟨cs,h1,a⟩ k hb=>by
  refine⟨cs,⟨h1.1,?_⟩,a.keep k⟩;obtain h|⟨g,cap,b,hv,c,d,r⟩:=h1.2
  exact .inl h;exact .inr ⟨g,cap,b,hv,c,by rw[hb g<|by rw[hv];rfl];exact d,r⟩
 sub:=λ⟨cs,h1,a⟩ k=>⟨cs,h1,a.sub k⟩
 lt:=λ⟨cs,h1,_⟩ k f=>(h1.lt k f).2
section
variable{α:Type}{e:zT α}{E:kW}{S S':wL->Prop}{w:qR}
def SlP.of_at{xs:N α}{b o n cap:K}{cs:N wW}(a:S b)(c:At w b o cs)(d:yQ e S xs cs w)(hn:n=X xs)(hc:X xs<=cap)(f:cap<=QR):
 SlP e S xs (.slice (Z ⟨b,o,wS⟩) n cap) w:=⟨_,cap,by rw[hn],hc,f,.inr ⟨b,o,cs,O,a,c,d⟩⟩
def SlP.nil:SlP e S [] (.slice wS 0 0) w:=⟨wS,0,O,Nm _,xaf _,.inl O⟩
def zo6{x:α}{b:K}(a:∀k,S k->S' k)(d:S' b)(h:(mB e.c E b x).p S w):(fP e x (.pointer<|some ⟨b,0,wS⟩)).p S' w:=by have⟨cs,h1,f⟩:=h;exact⟨b,0,cs.toList,O,d,At.row h1,e.sub f λk _=>a k⟩
def rP{xs:N α}{v:wW}(a:∀k,S k->S' k)(b:∀k,v.ownBlock=Z k->S' k)(h:(mO e E v xs).p S w):(fV (eS e) xs v).p S' w:=by
 have⟨cs,h1,c⟩:=h;refine wg.2 ?_;rcases h1.2 with⟨rfl,h0⟩|⟨g,cap,d,rfl,hd,f,i,j,l,hc⟩
 have:xs=[]:=xbq h0;subst this;exact SlP.nil;refine SlP.of_at (b g O) ((At.row f).take<|X xs*e.n) ?_ O i j;rw[hc];exact c.sub λk _=>a k
end
end
section
def ux(P:uS)(o:Xs)(H:xj)(w:qR)(K:wW->qR->Prop):Prop:=
 match(uP (ev H) o).run P w with
 |.ok (.value v) w'=>K v w'
 |.ok .skip w'=>K Z9 w'
 |.ok (.enter f args) w'=>aM P f args w' (λe b=>∃v,e=.returned v/\K v b)
 |.ok (.round l f ts a c) w'=>RoundIn xcR 0 P l f ts a c w' (λe b=>∃v,e=.returned v/\K v b)
 |_=>UP
def zqp{ro:V K}{a:ul->wW}{o:Xs}{P:uS}{w:qR}(h:∀d w',(uP a o).run P w≠ .ok (.defer d) w')(e:∀r w',(uP a o).run P w≠ .halt r w'):(o.semAt ro a).run P w=(uP a o).run P w:=by
 by_cases hd:∃c,o.op=.defer c;have⟨c,hc⟩:=hd;exfalso
 cases b:(uP a o).run P w with
 |halt r w'=>exact e r w' b
 |ok x w'=>
  unfold uP at b;rw[hc]at b;simp only[xay]at b
  cases f:(WN a c o.type).run P w with
  |halt r w1=>rw[f]at b;simp at b
  |ok d w1=>
   refine h d w' ?_;unfold uP;simp_all
 rw[Oper.semAt_eq _ _ _ λc hc=>hd ⟨c,hc⟩]
def ux.wp{P:uS}{o:Xs}{a:V6}{w:qR}{K:wW->qR->Prop}{j:V6->qR->Prop}{Q:iT->V6->qR->Prop}{N:Nd}
 (h:ux P o (ya a) w K) (b:∀v w',K v w'->j (a.put o.dst v) w'):o.wpIn N.F 0 P a w j Q:=by
 unfold ux at h;refine⟨λ_ _=>jP,?_⟩;have k:=zqp (ro:=N.rd) (λd w' e=>by rw[e]at h;exact h) (λr w' e=>by rw[e]at h;exact h);rw[Uo];rw[k];generalize(uP (ev<|ya a) o).run P w=r at*
 cases r with
 |ok n w'=>
  cases n<;>simp only at h<;>simp only[Oper.uponIn]
  case value v=>exact b _ _ h
  case skip=>exact b _ _ h
  case enter f args=>exact⟨λe=>by simp[xcR]at e,CallsIn.mono (callsIn_wide.2 h) λe g ⟨v,i,hv⟩=>by subst i;exact b _ _ hv⟩
  case round l f ts s c=>exact⟨λe=>by simp[xcR]at e,RoundIn.mono h λe g ⟨v,i,hv⟩=>by subst i;exact b _ _ hv⟩
 |halt x w'=>exact h.elim
def ux.mono{P:uS}{o:Xs}{H:xj}{w:qR}{K g:wW->qR->Prop}(h:ux P o H w K)(a:∀v w',K v w'->g v w'):ux P o H w g:=by
 unfold ux at*
 generalize(uP (ev H) o).run P w=r at*
 cases r with
 |ok n w'=>
  cases n<;>simp only at h⊢
  case value v=>exact a _ _ h
  case skip=>exact a _ _ h
  case enter f args=>exact h.mono λe b ⟨v,d,hv⟩=>⟨v,d,a _ _ hv⟩
  case round l f ts s c=>exact h.mono λe b ⟨v,d,hv⟩=>⟨v,d,a _ _ hv⟩
 |halt x w'=>exact h.elim
def ux.of_value{P:uS}{o:Xs}{H:xj}{w w':qR}{v:wW}{K:wW->qR->Prop}(h:(uP (ev H) o).run P w=.ok (.value v) w')(a:K v w'):ux P o H w K:=by unfold ux;rw[h];exact a
def ux.of_skip{P:uS}{o:Xs}{H:xj}{w w':qR}{K:wW->qR->Prop}(h:(uP (ev H) o).run P w=.ok .skip w')(a:K Z9 w'):ux P o H w K:=by unfold ux;rw[h];exact a
def gd(a:Z3 Xs)(H:xj)(j:K):V ut:=
 match(a[j]?).bind (·.dst)with
 |some d=>match H d with
  |.bool b=>Z b
  |_=>wS
 |none=>wS
def yX(b:Z3 Xs)(H:xj)(o:Xs):ut:=
 match o.guard with
 |none=>wT
 |some (j,a)=>gd b H j==Z a
theorem zbg(b:Z3 Xs)(a:V6)(j:K):yielded b a.tmps j=gd b (ya a) j:=by
 unfold yielded gd ya
 cases(b[j]?).bind (·.dst)with
 |none=>rfl
 |some d=>
  simp only[Option.bind_some,xbx]
  cases a.tmps[d]? with
  |none=>rfl
  |some v=>cases v<;>rfl
def W0(b:Z3 Xs)(a:V6)(o:Xs):Region.wanted o (yielded b a.tmps)=yX b (ya a) o:=by grind [Region.wanted,yX,zbg]
def jM(N:K):V Wf->ut
 |some d=>xda d N
 |none=>wT
def cr{N:K}{d:V Wf}(h:jM N d=wT):∀t,d=Z t->t<N:=by rintro t rfl;simpa[jM]using h
def WpL(P:uS)(N:Nd)(b:Z3 Xs)(l:ww Xs)(Q:Qs)(H:xj)(w:qR):Prop:=
 ∀a:V6,a.tmps.size=N.n->a.defers=N.ds->ya a=H->WW N.F 0 P b (zfG N Q) l a w
def TL(P:uS)(N:Nd)(we:qR)(Se:K->Prop)(ms:ww MF)(Γ:ww FF)(a:Z3 Xs)(l:ww Xs)(Q:Qs)(H:xj):Prop:=
 ∀w,St we Se ms Γ w->WpL P N a l Q H w
def PJ{U:Type}(P:uS)(o:Xs)(H:xj)(ms:N MF)(Γ:N FF)(wt:U->wW)(a:U->N FF)(ok:U->Prop):Prop:=
 ∀w (S:K->Prop),(∀k,w.heap.size<=k->S k)->yP S ms w->zC S Γ w->ux P o H w (λv w'=>∃u,v=wt u/\ok u/\dB w w'/\zC S (a u) w')
section
variable{P:uS}{N:Nd}{we:qR}{Se:wL->Prop}{ms:ww MF}{Γ:ww FF}{Q:Qs}{H:xj}{ops:Z3 Xs}{o:Xs}{rest:ww Xs}
def Qi{id:K}{l:ww Xs}(h:TL P N we Se ms Γ l.toArray l Q H):T P N we Se ms Γ (.region id l.toArray I) Q H:=
 λw b a h1 c d=>cS<|h w b a h1 c d
def BS(h:∀w,St we Se ms Γ w->Q .normal H w):TL P N we Se ms Γ ops [] Q H:=
 λw a _ h1 b c=>ii ⟨h1,b,c▸h w a⟩
def Nn{c:Wn}{a:Qs}(h:T P N we Se ms Γ c a H):TL P N we Se ms Γ ops [] (znH (Wp P N c a) Q) H:=BS h
def zgF(a:ww (K×wW)){l:ww Xs}(h:cH H a)(k:∀rest,TL P N we Se ms Γ ops l Q<|L a rest):TL P N we Se ms Γ ops l Q H:=by have:=k H;rwa[Ui h]at this
def zsS{p:Prop}{l:ww Xs}(hp:∀(S:K->Prop) (w:qR),zC S Γ w->p)(k:p->TL P N we Se ms Γ ops l Q H):TL P N we Se ms Γ ops l Q H:=
 λw a=>let⟨S,_,h⟩:=a.ex;k (hp S w h) w a
def zgZ{p:Prop}{c:Wn}(hp:∀(S:K->Prop) (w:qR),zC S Γ w->p)(k:p->T P N we Se ms Γ c Q H):T P N we Se ms Γ c Q H:=
 λw a=>let⟨S,_,h⟩:=a.ex;k (hp S w h) w a
def rY(b:yX ops H o=wT)(hd:jM N.n o.dst=wT)
 (h:∀w,St we Se ms Γ w->ux P o H w (λv w'=>WpL P N ops rest Q (put H o.dst v) w')):TL P N we Se ms Γ ops (o::rest) Q H:=by
 intro w c a h1 d e;subst e;unfold WW;rw[iq<|by rw[W0];exact b];refine(h w c).wp λv w' f=> ?_;exact f _ (by rw[cn];exact h1) (by rw[Va];exact d)<|WH<|by rw[h1];exact cr hd
def zpA(b:yX ops H o=I)(hd:jM N.n o.dst=wT)(k:TL P N we Se ms Γ ops rest Q (put H o.dst Z9)):TL P N we Se ms Γ ops (o::rest) Q H:=by intro w c a h1 d e;subst e;unfold WW;rw[ir<|by rw[W0,b];exact Bool.false_ne_true];exact⟨λ_ _=>jP,k w c _ (by rw[cn];exact h1) (by rw[Va];exact d)<|WH<|by rw[h1];exact cr hd⟩
def zk2{U:Type}{wt:U->wW}{b:U->ww FF}{ok:U->Prop}(e:yX ops H o=wT)(hd:jM N.n o.dst=wT)
 (h:PJ P o H ms Γ wt b ok) (k:∀u,ok u->TL P N we Se ms (b u++Γ) ops rest Q (put H o.dst<|wt u)):TL P N we Se ms Γ ops (o::rest) Q H:=by
 refine rY e hd λw f=> ?_;have⟨h1,g,j,S,l,c,p,a,d⟩:=f;refine(h w S c a d).mono ?_;rintro v w' ⟨u,rfl,q,x,r⟩
 exact k u q w' ⟨h1.trans x,g,j,S,l,λk s=>c k<|xal x.size s,p,
  yP.keep x.to (λm t i hi=>x.block i (yP.lt a m t i hi) jP) a,zC.append r<|zC.keep x.to d⟩
def zox{v:wW}(a:yX ops H o=wT)(hd:jM N.n o.dst=wT)(h:∀w,(uP (ev H) o).run P w=.ok (.value v) w)
 (k:TL P N we Se ms Γ ops rest Q (put H o.dst v)):TL P N we Se ms Γ ops (o::rest) Q H:=
 rY a hd λw b=>ux.of_value (h w)<|k w b
def OG{ι:Type}(P:uS)(o:Xs)(H:xj)(we:qR)(Se:K->Prop)(ms:ww MF)(Γ:ww FF)(wt:ι->wW)(a:ι->ww MF)(b:ι->ww FF)(ok:ι->Prop):Prop:=
 ∀w,St we Se ms Γ w->ux P o H w (λv w'=>∃i,v=wt i/\ok i/\St we Se (a i) (b i) w')
def znW{ι:Type}{wt:ι->wW}{a:ι->ww MF}{b:ι->ww FF}{ok:ι->Prop}(c:yX ops H o=wT)(hd:jM N.n o.dst=wT)(h:OG P o H we Se ms Γ wt a b ok)
 (k:∀i,ok i->TL P N we Se (a i) (b i) ops rest Q (put H o.dst<|wt i)):TL P N we Se ms Γ ops (o::rest) Q H:=
 rY c hd λw d=>(h w d).mono λv w' ⟨i,e,hi,f⟩=>e▸k i hi w' f
def R0{U:Type}{wt:U->wW}{b:U->ww FF}{ok:U->Prop}(h:PJ P o H ms Γ wt b ok):OG P o H we Se ms Γ wt (λ_=>ms) (λu=>b u++Γ) ok:=by
 intro w ⟨h1,f,g,S,j,c,l,a,d⟩;refine(h w S c a d).mono ?_;rintro v w' ⟨u,e,n,x,p⟩
 exact⟨u,e,n,h1.trans x,f,g,S,j,λk q=>c k<|xal x.size q,l,
  yP.keep x.to (λm r i hi=>x.block i (yP.lt a m r i hi) jP) a,zC.append p<|zC.keep x.to d⟩
end
def pv(o:Xs)(H:xj):V wW:=
 match o.op with
 |.move x|.assign x=>Z<|ev H x
 |.extract t i=>match ev H t with
  |.tuple vs=>vs[i]?
  |_=>wS
 |.pick c a b=>match ev H c with
  |.bool t=>Z<|bif t then ev H a else ev H b
  |_=>wS
 |.unOp .not _ x=>match ev H x with
  |.bool t=>Z (.bool !t)
  |_=>wS
 |.makeFunc f first d=>Z (.func f (first.map<|ev H)<|d.map<|ev H)
 |_=>wS
def lY{P:uS}{o:Xs}{H:xj}{v:wW}(h:pv o H=Z v)(w:qR):(uP (ev H) o).run P w=.ok (.value v) w:=by
 unfold pv at h;unfold uP;split at h;simp_all;simp_all;rename_i t i e;simp only[e];split at h
 next vs hv=>simp[hv,Instr.extract,h]
 cases h
 rename_i c a b e;simp only[e];split at h
 next t ht=>cases h;cases t<;>simp[ht,asBool]
 cases h
 rename_i ty x e;simp only[e];split at h
 next t ht=>cases h;simp[ht,Op.unary]
 cases h
 next f a b e=>cases h;simp[e,Instr.makeFunc]
 cases h
def LG(N:K)(a:Z3 Xs):ww Xs->xj->V xj
 |[],H=>Z H
 |o::r,H=>bif jM N o.dst then(bif yX a H o then(match pv o H with
  |some v=>LG N a r<|put H o.dst v
  |none=>wS)else(match o.guard with
  |some (j,b)=>bif gd a H j==Z (!b)then LG N a r (put H o.dst Z9)else wS
  |none=>wS))else wS
section
variable{P:uS}{N:Nd}{we:qR}{Se:wL->Prop}{ms:ww MF}{Γ:ww FF}{Q:Qs}{ops:Z3 Xs}
def pQ:∀(l:ww Xs) (l':ww Xs) (H b:xj),LG N.n ops l H=Z b->TL P N we Se ms Γ ops l' Q b->TL P N we Se ms Γ ops (l++l') Q H
 |[],_,H,b,h,k=>by cases h;exact k
 |o::r,l',H,b,h,k=>by
  unfold LG at h;cases hd:jM N.n o.dst
  simp_all;rw[hd]at h;cases c:yX ops H o
  rw[c]at h;simp only[Wt]at h;split at h;rename_i j a e;cases d:(gd ops H j==Z (!a))
  simp_all;rw[d]at h;exact zpA c hd<|pQ r l' _ _ h k;cases h
  rw[c]at h
  cases hp:pv o H with
  |none=>rw[hp]at h;cases h
  |some v=>rw[hp]at h;exact zox c hd (λw=>lY hp w)<|pQ r l' _ _ h k
def chk(H:V xj)(a:ww (K×wW)):Prop:=match H with
 |some H=>cH H a
 |none=>UP
def Ll(n:K)(a:ww (K×wW)){l:ww Xs}{H:xj}(h:chk (LG N.n ops (l.take n) H) a)(k:∀rest,TL P N we Se ms Γ ops (l.drop n) Q<|L a rest):TL P N we Se ms Γ ops l Q H:=by
 rw[<-xbG n l]
 cases hp:LG N.n ops (l.take n) H with
 |none=>rw[hp]at h;exact h.elim
 |some b=>
  rw[hp]at h;refine pQ _ _ _ _ hp ?_;exact zgF a h k
end
structure J9(P:uS)(t:kW)(agg:ut)(size bytes:K)(zero:wW):Prop where
 und:∃d,P.underlying t=Z d/\(match d with|.struct _|.array _ _=>wT|_=>I)=agg
 info:∃i,P.info? t=Z i/\i.size=size/\i.bytes=bytes/\i.zero=Z zero
def tyB(P:uS)(t:kW):V (ut×K×K×V wW):=
 match P.underlying t,P.info? t with
 |some d,Z i=>Z ((match d with|.struct _|.array _ _=>wT|_=>I),i.size,i.bytes,i.zero)
 |_,_=>wS
def J9.of{P:uS}{t:kW}{agg:ut}{size bytes:K}{a:wW}(h:tyB P t=Z (agg,size,bytes,Z a)):J9 P t agg size bytes a:=by unfold tyB at h;split at h;rename_i d i hd hi;simp only[xav,xcL]at h;exact⟨⟨d,hd,h.1⟩,i,hi,h.2.1,h.2.2.1,h.2.2.2⟩;cases h
def jl(b o j:K):(⟨b,o,wS⟩:U8).add j=⟨b,o+j,wS⟩:=by unfold Addr.add;split<;>simp_all
def L6{P:uS}{t:kW}{agg:ut}{size bytes:K}{a:wW}(ht:J9 P t agg size bytes a)(w:qR):(isAgg t).run P w=.ok agg w:=by have⟨⟨d,hd,b⟩,_⟩:=ht;unfold isAgg;simp only[xay,Z0 hd];cases d<;>simp_all
def wv{P:uS}{t:kW}{agg:ut}{size bytes:K}{a:wW}(ht:J9 P t agg size bytes a)(w:qR):(V9 t).run P w=.ok size w:=by have⟨_,i,hi,h1,_⟩:=ht;simp[V9,JP,hi,h1]
def uD{P:uS}{t:kW}{agg:ut}{size bytes:K}{a:wW}(ht:J9 P t agg size bytes a)(w:qR):(eL t).run P w=.ok a w:=by have⟨_,i,hi,_,_,h1⟩:=ht;simp[eL,JP,hi,h1]
def Oo{P:uS}{α:Type}{e:zT α}{t:kW}{bytes:K}{a:wW}(ht:J9 P t e.agg e.n bytes a){w w0:qR}{b o:K}{cs:N wW}{S:K->Prop}{x:α}
 (hp:e.p S x cs w0) (d:At w b o cs):(lW t ⟨b,o,wS⟩).run P w=.ok (e.val cs) w:=by
 unfold lW;rw[xay,L6 ht];cases hd:e.agg
 have hl:=e.len hp;rw[e.n1 hd]at hl;obtain⟨c,rfl⟩:=xcS.1 hl;have:=d.2 0 c O;simp only[xbT]at this;simp[this,zT.val,hd];have hl:=e.len hp;have hc:=bi (P:=P) w ⟨b,o,wS⟩ cs (λj v hv=>by rw[jl];exact d.2 j v hv);rw[hl]at hc;simp[wv ht,hc,zT.val,hd]
def gV{P:uS}{α:Type}{e:zT α}{t:kW}{bytes:K}{a:wW}(ht:J9 P t e.agg e.n bytes a){w:qR}{b o:K}{cs:N wW}{S:K->Prop}{x:α}
 (hp:e.p S x cs w) (c:At w b o cs):(lW t ⟨b,o,wS⟩).run P w=.ok (e.val cs) w:=Oo ht hp c
section
variable{P:uS}{H:xj}{ms:ww MF}{Γ:ww FF}{d:wN Wf}{ty:kW}{m7:String}{xS:Z3 Edge}{g:wN (wL×ut)}
def zp3{α:Type}{e:zT α}{xs:N α}{v:wW}{x:ul}{at_ b:kW}(c:P.underlying at_=Z (.slice b))(f:ev H x=v)(h:∀(S:K->Prop) (w:qR),zC S Γ w->(fV (eS e) xs v).p S w):
 PJ P ⟨d,.call ⟨.builtin .len,#[x],#[at_]⟩,ty,m7,xS,g⟩ H ms Γ (λ_:Wd=> .int .i64 (X xs:J)) (λ_=>[]) (λ_=>X xs<=9223372036854775807):=by
 intro w S _ _ a;have⟨j,cap,hv,hc,i,_⟩:=wg.1<|h S w a;refine ux.of_value ?_ ⟨(),O,xal hc i,yJ.refl _ _,jP⟩;simp[uP,WN,V1,UT,f,hv,Builtin.len_,mS,Z0 c]
def RH{α:Type}{e:zT α}{t c:kW}{bytes:K}{a:wW}(ht:P.underlying t=Z (.slice c))(f:J9 P c e.agg e.n bytes a){w:qR}{b o n cap k:K}
 (h:k<n) (ik:Wl):(Instr.indexAt t (.slice (Z ⟨b,o,wS⟩) n cap) (.int ik (k:J))).run P w=.ok (.pointer<|some ⟨b,o+k*e.n,wS⟩) w:=by
 unfold Instr.indexAt;have:(0:J)<=k/\(k:J)<n:=W
 simp only[Us,Z0 ht,xay,xaV,xao,iq this,wv f,jl,xba]
theorem ziZ{α:Type}{e:zT α}{xs:N α}{v:wW}{x i:ul}{t h:kW}{bytes:K}{a:wW}{k:K}{y:α}{ik:Wl}(q:ev H x=v)(hi:ev H i=.int ik (k:J))
 (ht:P.underlying t=Z (.slice h)) (hd:J9 P h e.agg e.n bytes a) (l:xs[k]? =Z y) (r:∀(S:K->Prop) (w:qR),zC S Γ w->(fV (eS e) xs v).p S w):
 PJ P ⟨d,.indexAddr t x i,ty,m7,xS,g⟩ H ms Γ (λp:wW=>p) (λp=>[fP e y p]) (λ_=>Wr):=by
 intro w S _ _ f;have⟨D,cap,hv,h1,E,s⟩:=wg.1<|r S w f;have u:=(xaz.1 l).1;obtain rfl|⟨b,o,cs,rfl,z,m,A⟩:=s
 grind;refine ux.of_value (v:=.pointer<|some ⟨b,o+k*e.n,wS⟩) ?_ ⟨_,O,jP,yJ.refl _ _,⟨⟨b,o+k*e.n,?_⟩,jP⟩⟩;simp[uP,q,hi,hv,RH ht hd u];have⟨c,hc,B⟩:=A.get l;refine⟨c,O,z,⟨m.1,λj v hv=> ?_⟩,hc⟩;have C:j<e.n:=by rw[<-e.len hc];exact(xaz.1 hv).1
 rw[xcV];exact m.2 _ v<|by rw[B j C];exact hv
def zlf{α:Type}{e:zT α}{y:α}{p:wW}{x:ul}{t:kW}{bytes:K}{a:wW}(h:ev H x=p)(ht:J9 P t e.agg e.n bytes a)
 (i:∀(S:K->Prop) (w:qR),zC S Γ w->(fP e y p).p S w):
 PJ P ⟨d,.load t x,ty,m7,xS,g⟩ H ms Γ (λv:wW=>v) (λv=>[fV e y v]) (λ_=>Wr):=by
 intro w S _ _ c;obtain⟨b,o,cs,rfl,k,j,f⟩:=i S w c;refine ux.of_value ?_ ⟨_,O,jP,yJ.refl _ _,⟨⟨cs,O,f⟩,jP⟩⟩;simp[uP,h,Instr.loadAt,xfz,gV ht f j]
def Tb{α:Type}{e:zT α}{xs:N α}{v:wW}{x:ul}{lo hi:V ul}{t j:kW}{bytes:K}{a:wW}{l h:K}(k:ev H x=v)
 (ht:P.underlying t=Z (.slice j)) (m:J9 P j e.agg e.n bytes a) (hl:(lo.map<|ev H)=Z (.int .i64 (l:J))\/(lo=wS/\l=0)) (c:(hi.map<|ev H)=Z (.int .i64 (h:J))\/(hi=wS/\h=X xs))
 (A:l<=h) (B:h<=X xs) (q:∀(S:K->Prop) (w:qR),zC S Γ w->(fV (eS e) xs v).p S w):
 PJ P ⟨d,.slice t x lo hi wS,ty,m7,xS,g⟩ H ms Γ (λp:wW=>p) (λp=>[fV (eS e) ((xs.drop l).take<|h-l) p]) (λ_=>Wr):=by
 intro w S _ _ i;have⟨f,cap,hv,h1,C,r⟩:=wg.1<|q S w i;have b1:(0:J)<=(l:J)/\(l:J)<=(h:J):=W
 have b2:(0:J)<=(h:J)/\(h:J)<=(cap:J):=W
 have s:(xcW t v (lo.map<|ev H) (hi.map<|ev H) wS).run P w=.ok (.slice (if cap=l then f else f.map (·.add (l*e.n))) (h-l)<|cap-l) w:=by
  unfold xcW;rw[hv];simp only[xay,Z0 ht,xao];unfold xfS;simp only[xay,Z0 ht,xao];unfold xet
  obtain hl|⟨hl,rfl⟩:=hl<;>obtain c|⟨c,rfl⟩:=c<;>
   simp only[hl,c,xeH,Us,Option.map_none,xay,xaV,xao,iq b1,iq b2,wv m,xba]
 refine ux.of_value (w':=w) (v:=.slice (if cap=l then f else f.map (·.add (l*e.n))) (h-l)<|cap-l) ?_ ⟨_,O,jP,yJ.refl _ _,⟨?_,jP⟩⟩;simp[uP,k,s];have hd:X ((xs.drop l).take<|h-l)=h-l:=by simp;lia
 refine wg.2 ⟨_,cap-l,by rw[hd],by rw[hd];lia,W,?_⟩;obtain rfl|⟨b,o,cs,rfl,u,y,z⟩:=r
 left;simp;by_cases hc:cap=l;left;have:h-l=0:=W
 simp[this];right;refine⟨b,o+l*e.n,(cs.drop<|l*e.n).take<|(h-l)*e.n,by simp[hc,jl],u,(y.drop _).take _,(z.drop l).take<|h-l⟩
end
end
section
section
variable{P:uS}{H:xj}{Γ:ww FF}{d:wN Wf}{ty yt t:kW}{m7:String}{xS:Z3 Edge}{g:wN (wL×ut)}{x y:ul}
def w64{x:J}(h: -9223372036854775808<=x/\x<=9223372036854775807):xdb.wrap x=x:=IntWalk.i64_in x h
def ztw(n:K):xcs.wrap (n:J)=((n%18446744073709551616:K):J):=by rfl
theorem sD{n:K}(h:n<18446744073709551616):xcs.wrap (n:J)=(n:J):=by rw[ztw,xap h]
def Gw(x:J):xcs.wrap x=x%18446744073709551616:=by rfl
def Cc{c:KW}{k:Wl}{a b:J}{v:wW}(e:ev H x=.int k a)(f:ev H y=.int k b)(hv:∀w,(Kw c t (.int k a) (.int k b)).run P w=.ok v w)(w:qR):
 (uP (ev H) ⟨d,.binOp c t x y yt,ty,m7,xS,g⟩).run P w=.ok (.value v) w:=by
 have:(V5 c t x y (.int k a) (.int k b)).run P w=.ok () w:=by unfold V5;simp_all
 simp only[uP,e,f,xay,this,xao,hv,xaV]
def ziv{k:Wl}{a b c:J}(e:ev H x=.int k a)(f:ev H y=.int k b)(hc:k.wrap (a+b)=c)(w:qR):
 (uP (ev H) ⟨d,.binOp .add t x y yt,ty,m7,xS,g⟩).run P w=.ok (.value (.int k c)) w:=
 Cc e f (λw=>by simp[Kw,Op.intArith,hc]) w
def zho{k:Wl}{a b c:J}(e:ev H x=.int k a)(f:ev H y=.int k b)(hc:k.wrap (a-b)=c)(w:qR):
 (uP (ev H) ⟨d,.binOp .sub t x y yt,ty,m7,xS,g⟩).run P w=.ok (.value (.int k c)) w:=
 Cc e f (λw=>by simp[Kw,Op.intArith,hc]) w
def znG{k:Wl}{a b c:J}(e:ev H x=.int k a)(f:ev H y=.int k b)(hc:k.wrap (a*b)=c)(w:qR):
 (uP (ev H) ⟨d,.binOp .mul t x y yt,ty,m7,xS,g⟩).run P w=.ok (.value (.int k c)) w:=
 Cc e f (λw=>by simp[Kw,Op.intArith,hc]) w
def znS{k:Wl}{a b c:J}(e:ev H x=.int k a)(f:ev H y=.int k b)(h0:b≠0)(hc:k.wrap (a.tdiv b)=c)(w:qR):
 (uP (ev H) ⟨d,.binOp .quo t x y yt,ty,m7,xS,g⟩).run P w=.ok (.value (.int k c)) w:=
 Cc e f (λw=>by simp[Kw,Op.intDiv,h0,hc]) w
def znI{k:Wl}{a b c:J}(e:ev H x=.int k a)(f:ev H y=.int k b)(h0:b≠0)(hc:a.tmod b=c)(w:qR):
 (uP (ev H) ⟨d,.binOp .rem t x y yt,ty,m7,xS,g⟩).run P w=.ok (.value (.int k c)) w:=
 Cc e f (λw=>by simp[Kw,Op.intDiv,h0,hc]) w
def zdO{k e:Wl}{a b c:J}(f:ev H x=.int k a)(h:ev H y=.int e b)(h0:0<=b)(hc:a.fdiv (2^(min b.toNat k.bits))=c)(w:qR):
 (uP (ev H) ⟨d,.binOp .shr t x y yt,ty,m7,xS,g⟩).run P w=.ok (.value (.int k c)) w:=by
 have:¬b<0:=W
 simp[uP,f,h,V5,Kw,Op.shift,this,hc]
def zcC{k e:Wl}{a b c:J}(f:ev H x=.int k a)(h:ev H y=.int e b)(h0:0<=b)(hc:k.wrap (a*2^(min b.toNat k.bits))=c)(w:qR):
 (uP (ev H) ⟨d,.binOp .shl t x y yt,ty,m7,xS,g⟩).run P w=.ok (.value (.int k c)) w:=by
 have:¬b<0:=W
 simp[uP,f,h,V5,Kw,Op.shift,this,hc]
def znr{k:Wl}{a b c:J}(e:ev H x=.int k a)(f:ev H y=.int k b)(hc:k.wrap (((a%2^k.bits).toNat &&& (b%2^k.bits).toNat:K):J)=c)(w:qR):
 (uP (ev H) ⟨d,.binOp .and t x y yt,ty,m7,xS,g⟩).run P w=.ok (.value (.int k c)) w:=
 Cc e f (λw=>by simp[Kw,Op.intBits,hc]) w
def zrV{k:Wl}{a b c:J}(e:ev H x=.int k a)(f:ev H y=.int k b)(hc:k.wrap (((a%2^k.bits).toNat|||(b%2^k.bits).toNat:K):J)=c)(w:qR):
 (uP (ev H) ⟨d,.binOp .or t x y yt,ty,m7,xS,g⟩).run P w=.ok (.value (.int k c)) w:=
 Cc e f (λw=>by simp[Kw,Op.intBits,hc]) w
def znK{k:Wl}{a c:J}(b:ev H x=.int k a)(hc:k.wrap (0-a)=c)(w:qR):
 (uP (ev H) ⟨d,.unOp .neg t x,ty,m7,xS,g⟩).run P w=.ok (.value (.int k c)) w:=by
 simp only[uP,b,Op.unary,Op.intArith,hc,xay,xaV,xao]
def iQ{k e:Wl}{src b:kW}{f:TypeDesc}{a c:J}(h:P.underlying src=Z f)(hd:P.underlying b=Z (.int e))(i:ev H x=.int k a)(hc:e.wrap a=c)(w:qR):
 (uP (ev H) ⟨d,.convert src b x,ty,m7,xS,g⟩).run P w=.ok (.value (.int e c)) w:=by
 simp[uP,i,convert,Z0 h,Z0 hd,Conv.intToInt,hc]
def zsA{a b:J}{ts:Z3 kW}(c:ev H x=.int .i64 a)(f:ev H y=.int .i64 b)(w:qR):
 (uP (ev H) ⟨d,.call ⟨.builtin .max,#[x,y],ts⟩,ty,m7,xS,g⟩).run P w=.ok (.value (.int .i64<|max a b)) w:=by
 have e:(if b>a then b else a)=max a b:=W
 simp only[uP,WN,V1,UT,xdZ,xbP,xdR,c,f,Builtin.max_,Builtin.max2,xay,xaV,xao,List.foldlM_cons,List.foldlM_nil,e]
def zrL{a b:J}{ts:Z3 kW}(c:ev H x=.int .i64 a)(f:ev H y=.int .i64 b)(w:qR):
 (uP (ev H) ⟨d,.call ⟨.builtin .min,#[x,y],ts⟩,ty,m7,xS,g⟩).run P w=.ok (.value (.int .i64<|min a b)) w:=by
 have e:(if b<a then b else a)=min a b:=W
 simp only[uP,WN,V1,UT,xdZ,xbP,xdR,c,f,Builtin.min_,Builtin.min2,xay,xaV,xao,List.foldlM_cons,List.foldlM_nil,e]
end
end
section
def RR{α:Type}(l:N α){n:K}(h:X l<=n):l.drop n=[]:=xbQ h
section
variable{P:uS}{N:Nd}{we:qR}{Se:wL->Prop}{ms:ww MF}{Γ:ww FF}{Q:Qs}{H:xj}{ops:Z3 Xs}{rest:ww Xs}
 {d:wN Wf}{ty yt t:kW}{m7:String}{xS:Z3 Edge}{g:wN (wL×ut)}{x y:ul}
def IB{e:KW}{k:Wl}{a b:J}{c:ut}(f:ev H x=.int k a)(h:ev H y=.int k b)
 (hc:∀w,(Kw e t (.int k a) (.int k b)).run P w=.ok (.bool c) w) (w:qR):(uP (ev H) ⟨d,.binOp e t x y yt,ty,m7,xS,g⟩).run P w=.ok (.value (.bool c)) w:=Cc f h hc w
def zkq{k:Wl}{a b:J}(c:ev H x=.int k a)(e:ev H y=.int k b)(w:qR):(uP (ev H) ⟨d,.binOp .lss t x y yt,ty,m7,xS,g⟩).run P w=.ok (.value (.bool<|decide<|a<b)) w:=
 IB c e (λw=>by simp[Kw,Op.intCmp]) w
def zkp{k:Wl}{a b:J}(c:ev H x=.int k a)(e:ev H y=.int k b)(w:qR):(uP (ev H) ⟨d,.binOp .leq t x y yt,ty,m7,xS,g⟩).run P w=.ok (.value (.bool<|decide<|a<=b)) w:=
 IB c e (λw=>by simp[Kw,Op.intCmp]) w
def zi5{k:Wl}{a b:J}(c:ev H x=.int k a)(e:ev H y=.int k b)(w:qR):(uP (ev H) ⟨d,.binOp .gtr t x y yt,ty,m7,xS,g⟩).run P w=.ok (.value (.bool<|decide<|b<a)) w:=
 IB c e (λw=>by simp[Kw,Op.intCmp]) w
def zfV{k:Wl}{a b:J}(c:ev H x=.int k a)(e:ev H y=.int k b)(w:qR):(uP (ev H) ⟨d,.binOp .geq t x y yt,ty,m7,xS,g⟩).run P w=.ok (.value (.bool<|decide<|b<=a)) w:=
 IB c e (λw=>by simp[Kw,Op.intCmp]) w
def zik{k:Wl}{a b:J}(c:ev H x=.int k a)(e:ev H y=.int k b)(w:qR):(uP (ev H) ⟨d,.binOp .eql t x y yt,ty,m7,xS,g⟩).run P w=.ok (.value (.bool<|decide<|a=b)) w:=
 IB c e (λw=>by simp[Kw,Op.intCmp];by_cases h:a=b<;>simp[h]) w
def zhJ{k:Wl}{a b:J}(c:ev H x=.int k a)(e:ev H y=.int k b)(w:qR):(uP (ev H) ⟨d,.binOp .neq t x y yt,ty,m7,xS,g⟩).run P w=.ok (.value (.bool (!decide (a=b)))) w:=
 IB c e (λw=>by simp[Kw,Op.intCmp];by_cases h:a=b<;>simp[h]) w
def gY{a b:ut}(ht:P.underlying t=Z .bool)(w:qR):(Op.equal t (.bool a) (.bool b)).run P w=.ok (a==b) w:=by show(Op.equalIn (9999+1) t (.bool a) (.bool b)).run P w=_;unfold Op.equalIn;simp only[xay,Z0 ht,xao,xaV]
def zr6{a b:ut}(ht:P.underlying t=Z .bool)(c:ev H x=.bool a)(e:ev H y=.bool b)(w:qR):
 (uP (ev H) ⟨d,.binOp .eql t x y yt,ty,m7,xS,g⟩).run P w=.ok (.value (.bool<|a==b)) w:=by
 have h:(V5 .eql t x y (.bool a) (.bool b)).run P w=.ok () w:=by simp[V5]
 have f:(Kw .eql t (.bool a) (.bool b)).run P w=.ok (.bool<|a==b) w:=by simp only[Kw,xay,gY ht,xao,xaV]
 simp only[uP,c,e,xay,h,f,xao,xaV]
def zsi{a b:ut}(ht:P.underlying t=Z .bool)(c:ev H x=.bool a)(e:ev H y=.bool b)(w:qR):
 (uP (ev H) ⟨d,.binOp .neq t x y yt,ty,m7,xS,g⟩).run P w=.ok (.value (.bool (!(a==b)))) w:=by
 have h:(V5 .neq t x y (.bool a) (.bool b)).run P w=.ok () w:=by simp[V5]
 have f:(Kw .neq t (.bool a) (.bool b)).run P w=.ok (.bool (!(a==b))) w:=by simp only[Kw,xay,gY ht,xao,xaV]
 simp only[uP,c,e,xay,h,f,xao,xaV]
def Bq(P:uS)(f:XS):ut:=match P.funcs[f]? with
 |some fn=> !(fn.name== "runtime.NumGoroutine") && fn.body.isSome
 |none=>I
def qb{f:XS}(h:Bq P f=wT)(args:Z3 wW)(w:qR):(mT f args).run P w=.ok (.enter f args) w:=by
 unfold Bq at h;unfold mT;split at h;rename_i fn a;simp only[xae,xcM]at h;have b:fn.body.isNone=I:=by simpa using h.2
 simp only[xay,run_program,xao,a,h.1,b,xaj,Z5,xaV];cases h
def zsW{U:Type}{wt:U->wW}{c:U->ww FF}{ok:U->Prop}{a:ww FF}{f:XS}{asv:ww ul}{ts:Z3 kW}{args:ww wW}(h:Bq P f=wT)
 (i:Fn P f args.toArray a wt c ok) (j:asv.map (ev H)=args) (k:∀(S:K->Prop) (w:qR),zC S Γ w->zC S a w):
 PJ P ⟨d,.call ⟨.value (.func f),asv.toArray,ts⟩,ty,m7,xS,g⟩ H ms Γ wt c ok:=by
 intro w S l _ b;unfold ux;have:(uP (ev H) ⟨d,.call ⟨.value (.func f),asv.toArray,ts⟩,ty,m7,xS,g⟩).run P w=.ok (.enter f args.toArray) w:=by simp[uP,WN,ev,xcX,V1,qb h,j]
 rw[this];exact(i w S l<|k S w b).mono λe w' ⟨u,m,n,o,hc⟩=>⟨wt u,m,u,O,n,o,hc⟩
def sG{U:Type}{wt:U->wW}{h:U->ww FF}{ok:U->Prop}{a:ww FF}{f:XS}{asv:ww ul}{ts:Z3 kW}{args dQ:ww wW}{x:ul}(i:Bq P f=wT)
 (b:ev H x=.func (.func f) #[] dQ.toArray) (j:Fn P f (args++dQ).toArray a wt h ok) (k:asv.map (ev H)=args) (l:∀(S:K->Prop) (w:qR),zC S Γ w->zC S a w):
 PJ P ⟨d,.call ⟨.value x,asv.toArray,ts⟩,ty,m7,xS,g⟩ H ms Γ wt h ok:=by
 intro w S m _ c;unfold ux;have:(uP (ev H) ⟨d,.call ⟨.value x,asv.toArray,ts⟩,ty,m7,xS,g⟩).run P w=.ok (.enter f (args++dQ).toArray) w:=by simp[uP,WN,b,xcX,V1,qb i,k]
 rw[this];exact(j w S m<|l S w c).mono λe w' ⟨u,n,o,b,hc⟩=>⟨wt u,n,u,O,o,b,hc⟩
def AN(off:K):∀(c:ww wW) (k:K) (a:Z3 wW),off+k+X c<=a.size->
 ((c.zipIdx k).foldl (λcs (x:wW×K)=>cs.setIfInBounds (off+x.2) x.1) a).toList=a.toList.take (off+k)++c++a.toList.drop (off+k+X c)
 |[],k,a,h=>by simp
 |v::c,k,a,h=>by
  simp only[xaw]at h;rw[List.zipIdx_cons,List.foldl_cons];have:=AN off c (k+1) (a.setIfInBounds (off+k) v) (by simp;lia);rw[this];simp only[Array.toList_setIfInBounds,xaw];have b:off+k<X a.toList:=by simp;lia
  rw[(W:off+(k+1)=off+k+1),xec,iq b];have e1:X (a.toList.take<|off+k)=off+k:=by simp;lia
  rw[List.take_append,List.drop_append,e1];simp only[(W:off+k+1-(off+k)=1),xeC,List.take_zero,(W:off+k+1+X c-(off+k)=X c+1),List.drop_succ_cons];rw[xaW (by rw[e1];lia),RR (xdB (off+k) a.toList) (by rw[e1];lia),List.drop_drop];simp only[xbM,xar,xbL,xbM];congr 3;congr 1;lia
def jD(parts:ww (K×wW)):ww wW:=parts.flatMap λx=>x.2.cells.toList
def c8(a:K->V (K×K)):ww (K×wW)->K->Prop
 |[],_=>Wr
 |(i,v)::r,off=>a i=Z (off,v.cells.size)/\c8 a r (off+v.cells.size)
def si{c:K->V (K×K)}:∀(parts:ww (K×wW)) (b z:ww wW),c8 c parts (X b)->X (jD parts)<=X z->
 xdJ c (b++z).toArray parts=Z (b++jD parts++z.drop (X (jD parts))).toArray
 |[],b,z,_,_=>by simp[xdJ,jD]
 |(i,v)::r,b,z,⟨h1,e⟩,hl=>by
  simp only[jD,List.flatMap_cons,xau,xeZ]at hl;have f:¬(X b+v.cells.size>(b++z).toArray.size):=by simp;lia
  have h:v.cells.zipIdx.foldl (λcs (x:wW×K)=>cs.setIfInBounds (X b+x.2) x.1) (b++z).toArray=((b++v.cells.toList)++z.drop v.cells.size).toArray:=by apply Array.ext';rw[<-Array.foldl_toList,Array.toList_zipIdx,AN (X b) v.cells.toList 0 _<|by simp;lia];simp
  unfold xdJ;simp only[h1];rw[ir<|by simp only[ne_eq,li,decide_false,xeD,UL];exact f];have:=si r (b++v.cells.toList) (z.drop v.cells.size) (by simpa using e) (by simp[jD]at*;lia);refine(Z2 (λa=>xdJ c a r) h).trans<|this.trans ?_;simp[jD]
def ze4(i:K)(v:wW)(r:ww (K×wW)):jD ((i,v)::r)=v.cells.toList++jD r:=by simp[jD]
def RB{α:Type}{e:zT α}{z:α}{bytes:K}{a:wW}{parts:ww (K×ul)}{vs:ww (K×wW)}(ht:J9 P t wT e.n bytes a)(r:e.agg=wT)(s:a.cells.size=e.n)
 (hv:parts.map (λx=>(x.1,ev H x.2))=vs)
 (hc:(∃fs,P.underlying t=Z (.struct fs)/\∃pl:Z3 (K×K),(∀w,(fs.mapM (λf=>do pure (f.offset,<-V9 f.type)):Sem (Z3<|K×K)).run P w=.ok pl w)/\(∀(S:K->Prop) (w:qR),zC S Γ w->c8 (pl[·]?) vs 0))\/
  (∃k l n b2 z2 j,P.underlying t=Z (.array k l)/\J9 P l j n b2 z2/\(∀(S:K->Prop) (w:qR),zC S Γ w->c8 (λi=>Z (i*n,n)) vs 0)))
 (hp:∀(S:K->Prop) (w:qR),zC S Γ w->e.p S z (jD vs) w):
 PJ P ⟨d,.build t parts.toArray,ty,m7,xS,g⟩ H ms Γ (λv:wW=>v) (λv=>[fV e z v]) (λ_=>Wr):=by
 intro w S _ _ c;have o:=hp S w c;have hl:=e.len o;have u:X a.cells.toList=e.n:=by simpa using s
 refine ux.of_value (w':=w) (v:=.agg (jD vs).toArray) ?_ ⟨_,O,jP,yJ.refl _ _,⟨⟨jD vs,by simp[zT.val,r],o⟩,jP⟩⟩;have q:∀b,c8 b vs 0->xdJ b a.cells vs=Z (jD vs).toArray:=by intro b h;have:=si vs [] a.cells.toList h (by rw[hl,u];exact Nm _);simp_all
 have hi:parts.toArray.map (λx=>(x.1,ev H x.2))=vs.toArray:=by rw[<-hv];simp
 simp only[uP,xay];have A:(Instr.build t<|parts.toArray.map λx=>(x.1,ev H x.2)).run P w=.ok (.agg (jD vs).toArray) w:=by
  rw[hi];unfold Instr.build;rcases hc with⟨fs,m,pl,hc,hd⟩|⟨k,l,n,b2,z2,j,m,B,hd⟩
  simp only[xay,uD ht,xao,Z0 m,hc,q _<|hd S w c,xaV];simp only[xay,uD ht,xao,Z0 m,wv B,q _<|hd S w c,xaV]
 rw[A];rfl
def zdZ{α:Type}{e:zT α}{y:α}{v:wW}{S:K->Prop}{w:qR}(h:(fV e y v).p S w):v.cells.size=e.n:=by have:=e.len<|Yp h;simpa using this
def Ic{α:Type}{e:zT α}{c:kW}{zs:ww α}{len bytes:K}{a:wW}{parts:ww (K×ul)}{vs:ww (K×wW)}(ht:P.underlying t=Z (.slice c))(j:J9 P c e.agg e.n bytes a)
 (hn:0<e.n) (hd:X zs=len) (s:len*e.n<=16777216) (hv:parts.map (λx=>(x.1,ev H x.2))=vs)
 (m:∀(S:K->Prop) (w:qR),zC S Γ w->c8 (λi=>Z (i*e.n,e.n)) vs 0) (hp:∀(S:K->Prop) (w:qR),zC S Γ w->yQ e S zs (jD vs) w):
 PJ P ⟨d,.buildSlice t len parts.toArray,ty,m7,xS,g⟩ H ms Γ (λv:wW=>v) (λv=>[fV (eS e) zs v]) (λ_=>Wr):=by
 intro w S o _ h;have k:=hp S w h;have hl:X (jD vs)=len*e.n:=by rw[k.len,hd]
 have x:=dB.alloc w (.cells (jD vs).toArray c);refine ux.of_value (w':=w.alloc (.cells (jD vs).toArray c)) (v:=.slice (Z ⟨w.heap.size,0,wS⟩) len len) ?_ ⟨_,O,jP,x,⟨wg.2 ?_,jP⟩⟩;have hi:parts.toArray.map (λx=>(x.1,ev H x.2))=vs.toArray:=by rw[<-hv];simp
 have hc:xdJ (λi=>Z (i*e.n,e.n)) ((xfa<|len*e.n).map (a.cells[·%a.cells.size]!)) vs=Z (jD vs).toArray:=by have:=si vs [] ((xfa<|len*e.n).map (a.cells[·%a.cells.size]!)).toList (m S w h) (by simp[hl]);rw[xbM,xcy,xbM,xbQ (by simp[hl]),xbo]at this;exact this
 have p:(xeI t len<|parts.toArray.map λx=>(x.1,ev H x.2)).run P w=.ok (.slice (Z ⟨w.heap.size,0,wS⟩) len len) (w.alloc (.cells (jD vs).toArray c)):=by
  rw[hi];unfold xeI;simp only[xay,Z0 ht,xao,wv j,ir (W:¬len*e.n>2^24),eM];by_cases h0:len*e.n=0
  have u:jD vs=[]:=xbq (by rw[hl,h0]);have q:xdJ (λi=>Z (i*e.n,e.n)) ((xfa 0).map ((#[]:Z3 wW)[·%(#[]:Z3 wW).size]!)) vs=Z (jD vs).toArray:=by
   have l:∀f:K->wW,(xfa 0).map f= #[]:=λf=>by simp
   rw[<-hc,h0,l,l]
  simp only[h0,Z4];simp only[q,xay,Ul,xao,xaV];simp only[ir h0,xay,uD j,xao,xaV,hc,Ul]
 simp only[uP,xay,p,xao,xaV];have r:At (w.alloc (.cells (jD vs).toArray c)) w.heap.size 0 (jD vs):=by have:=At.row (b:=w.heap.size) (cs:=(jD vs).toArray) (t:=c) (fr:=(0,0))<|V2 w _;simpa using this
 refine SlP.of_at (o _<|Nm _) r (k.keep x.to) hd.symm W ?_;have:len<=len*e.n:=xcj _ hn;unfold QR;lia
def zpv{α:Type}{e:zT α}{E:kW}{z:α}{v:wW}(c:ev H x=v)(f:∀(S:K->Prop) (w:qR),zC S Γ w->(fV e z v).p S w):
 PJ P ⟨d,.box E x,ty,m7,xS,g⟩ H ms Γ (λv:wW=>v) (λp=>[fP e z p]) (λ_=>Wr):=by
 intro w S i _ a;have h:=Yp<|f S w a;have b:=dB.alloc w (.cells v.cells E);refine ux.of_value (w':=w.alloc (.cells v.cells E)) (v:=.pointer<|some ⟨w.heap.size,0,wS⟩) ?_ ⟨_,O,jP,b,⟨⟨w.heap.size,0,v.cells.toList,O,i _<|Nm _,At.row<|V2 w _,e.keep h b.to⟩,jP⟩⟩;simp[uP,c,Instr.box,newVar,eM]
def Sub{α β:Type}(e:BO α)(x:α)(o:K)(f:zT β)(i:β)(up:β->α):Prop:=
 ∀(S:K->Prop) (w:qR) (cs:ww wW),e.p S x cs w->∃b c a,cs=b++c++a/\X b=o/\f.p S i c w/\∀(w':qR) y h,yJ S w w'->f.p S y h w'->e.p S (up y) (b++h++a) w'
def Sub.self{α:Type}(e:zT α)(x:α):Sub e.c x 0 e x id:=
 λ_ _ cs h=>⟨[],cs,[],rC,O,h,λ_ y b _ a=>by simpa[zT.c]using a⟩
def Sub.fst{α β:Type}(e:zT α)(f:zT β)(x:α×β):Sub (eP e f).c x 0 e x.1 (λy=>(y,x.2)):=by rintro S w cs ⟨c,d,rfl,hc,hd⟩;exact⟨[],c,d,rC,O,hc,λw' y a k b=>⟨a,d,rC,b,f.keep hd k⟩⟩
def Sub.snd{α β:Type}(e:zT α)(f:zT β)(x:α×β):Sub (eP e f).c x e.n f x.2 (λy=>(x.1,y)):=by rintro S w cs ⟨c,d,rfl,hc,hd⟩;exact⟨c,d,[],rC,e.len hc,hd,λw' y a k b=>⟨c,a,rC,e.keep hc k,b⟩⟩
def Sub.nth{α:Type}(k:K)(e:zT α)(xs:ww α)(i:K)(x:α)(f:xs[i]? =Z x):Sub (eA k e).c xs (i*e.n) e x (λy=>xs.set i y):=by
 rintro S w cs ⟨hl,a⟩;obtain⟨hi,rfl⟩:=xaz.1 f;have hd:=a.drop i;rw[xbX hi]at hd;have⟨c,r,h1,h,j⟩:=hd;have o:i*e.n<=X cs:=by rw[a.len];exact xac _ W
 refine⟨cs.take<|i*e.n,c,r,?_,by simp;lia,h,λw' y l b m=>⟨by simpa using hl,?_⟩⟩;rw[xar,<-h1,xbG];show yQ e S (xs.set i y) _ w';rw[xec,iq hi,xar];exact((a.keep b).take i).append ⟨l,r,O,m,j.keep b⟩
def Sub.row{α:Type}(e:zT α)(xs:ww α)(i:K)(x:α)(f:xs[i]? =Z x):Sub (zrC e) xs (i*e.n) e x (λy=>xs.set i y):=by intro S w cs h;have⟨b,c,a,h1,j,k,l⟩:=Sub.nth (X xs) e xs i x f S w cs ⟨O,h⟩;exact⟨b,c,a,h1,j,k,λw' y m o p=>(l w' y m o p).2⟩
def Sub.comp{α β γ:Type}{e:BO α}{x:α}{o n:K}{f:zT β}{y:β}{g:zT γ}{z:γ}{up:β->α}{b:γ->β}(h:Sub e x o f y up)(p:Sub f.c y n g z b):
 Sub e x (o+n) g z (λt=>up<|b t):=by
 intro S w cs q;obtain⟨l,c,i,rfl,h1,r,s⟩:=h S w cs q;obtain⟨j,u,a,rfl,v,hd,A⟩:=p S w c r;refine⟨l++j,u,a++i,rC,by simp[h1,v],hd,λw' t m k hc=> ?_⟩;have:=s w' _ _ k<|A w' t m k hc;simp_all
def Dq{c:kW}{ag:ut}{e bytes:K}{a:wW}{b o n cap k:K}{ik:Wl}(ht:P.underlying t=Z (.slice c))(f:J9 P c ag e bytes a)
 (h:ev H x=.slice (Z ⟨b,o,wS⟩) n cap) (hi:ev H y=.int ik (k:J)) (i:k<n) (w:qR):
 (uP (ev H) ⟨d,.indexAddr t x y,ty,m7,xS,g⟩).run P w=.ok (.value (.pointer<|some ⟨b,o+k*e,wS⟩)) w:=by
 have:(0:J)<=k/\(k:J)<n:=W
 simp only[uP,h,hi,Instr.indexAt,Us,Z0 ht,xay,xaV,xao,iq this,wv f,jl,xba]
def RA{c:kW}{ag:ut}{e bytes:K}{a:wW}{b o n k:K}{ik:Wl}(ht:P.underlying t=Z (.array n c))(f:J9 P c ag e bytes a)
 (h:ev H x=.pointer (Z ⟨b,o,wS⟩)) (hi:ev H y=.int ik (k:J)) (i:k<n) (w:qR):
 (uP (ev H) ⟨d,.indexAddr t x y,ty,m7,xS,g⟩).run P w=.ok (.value (.pointer<|some ⟨b,o+k*e,wS⟩)) w:=by
 have:(0:J)<=k/\(k:J)<n:=W
 simp only[uP,h,hi,Instr.indexAt,xfz,Us,Z0 ht,xay,xaV,xao,iq this,wv f,jl,xba]
theorem zeH{α β:Type}{e:zT α}{f:zT β}{z:α}{z':β}{up:β->α}{p:wW}{l:kW}{ag:ut}{h bytes:K}{a:wW}{n k:K}{ik:Wl}(ht:P.underlying t=Z (.array n l))(hd:J9 P l ag h bytes a)
 (r:ev H x=p) (hi:ev H y=.int ik (k:J)) (s:k<n) (hc:Sub e.c z (k*h) f z' up) (u:∀(S:K->Prop) (w:qR),zC S Γ w->(fP e z p).p S w):
 PJ P ⟨d,.indexAddr t x y,ty,m7,xS,g⟩ H ms Γ (λp:wW=>p) (λp=>[fP f z' p]) (λ_=>Wr):=by
 intro w S _ _ i;obtain⟨b,o,cs,rfl,A,m,B⟩:=u S w i;obtain⟨C,c,q,rfl,h1,D,_⟩:=hc S w cs B;refine ux.of_value (RA ht hd r hi s w) ⟨_,O,jP,yJ.refl _ _,⟨⟨b,o+k*h,c,O,A,⟨m.1,λj v hv=> ?_⟩,D⟩,jP⟩⟩;rw[xcV];refine m.2 _ v ?_;grind
def za9(P:uS)(t:kW)(i:K):V K:=match P.underlying t with
 |some (.struct fs)=>match fs[i]? with
  |some f=>match P.info? f.type with
   |some a=>if a.size=0 then wS else Z f.offset
   |none=>wS
  |none=>wS
 |_=>wS
def RL{i off b o:K}(h:za9 P t i=Z off)(w:qR):(Instr.fieldAt t (.pointer<|some ⟨b,o,wS⟩) i).run P w=.ok (.pointer<|some ⟨b,o+off,wS⟩) w:=by
 unfold za9 at h;split at h;rename_i fs a;split at h;rename_i f c;split at h;rename_i e hi;split at h;cases h
 rename_i j;cases h;simp only[Instr.fieldAt,xay,Z0 a,xao,c,xfz,xaV,fieldPlace,V9,JP,run_program,hi,ir j,jl]
 cases h
 cases h
 cases h
def sV{i off b o:K}(h:za9 P t i=Z off)(a:ev H x=.pointer (Z ⟨b,o,wS⟩))(w:qR):
 (uP (ev H) ⟨d,.fieldAddr t x i,ty,m7,xS,g⟩).run P w=.ok (.value (.pointer<|some ⟨b,o+off,wS⟩)) w:=by
 simp only[uP,a,xay,RL h,xao,xaV]
theorem ziB{α β:Type}{e:zT α}{f:zT β}{z:α}{z':β}{up:β->α}{p:wW}{i off:K}(h:za9 P t i=Z off)(m:ev H x=p)(hc:Sub e.c z off f z' up)
 (n:∀(S:K->Prop) (w:qR),zC S Γ w->(fP e z p).p S w):PJ P ⟨d,.fieldAddr t x i,ty,m7,xS,g⟩ H ms Γ (λp:wW=>p) (λp=>[fP f z' p]) (λ_=>Wr):=by
 intro w S _ _ a;obtain⟨b,o,cs,rfl,q,k,r⟩:=n S w a;obtain⟨s,c,l,rfl,h1,u,_⟩:=hc S w cs r;refine ux.of_value (sV h m w) ⟨_,O,jP,yJ.refl _ _,⟨⟨b,o+off,c,O,q,⟨k.1,λj v hv=> ?_⟩,u⟩,jP⟩⟩;rw[xcV];refine k.2 _ v ?_;grind
theorem St.muts{i:K}{m:MF}{w:qR}(h:St we Se ms Γ w)(hi:ms[i]? =Z m):∃S:K->Prop,m.p S w/\yP S ms w/\zC S Γ w:=by have⟨h1,c,e,S,f,j,k,a,b⟩:=h;exact⟨S,yP.get a hi,a,b⟩
def St.mut{i:K}{m:MF}{w:qR}(h:St we Se ms Γ w)(hi:ms[i]? =Z m):∃S:K->Prop,(∀k,w.heap.size<=k->S k)/\m.p S w/\zC S Γ w/\∀(Δ:ww FF),zC S Δ w->St we Se ms Δ w:=by have⟨h1,e,f,S,j,b,l,c,n⟩:=h;exact⟨S,b,yP.get c hi,n,λΔ a=>⟨h1,e,f,S,j,b,l,c,a⟩⟩
def At.mid{w:qR}{b:K}{cs:Z3 wW}{E:kW}{a c e:ww wW}(h:w.heap[b]? =Z (.cells cs E (0,0)))(f:cs.toList=a++c++e):At w b (X a) c:=by have:=((At.row h).drop (X a)).take (X c);simp_all
def V7{α β:Type}{e:BO α}{E b:K}{z:α}{f:zT β}{o:K}{z':β}{up:β->α}{bytes:K}{a:wW}(i:K)
 (k:ms[i]? =Z (mB e E b z)) (l:ev H x=.pointer (Z ⟨b,o,wS⟩)) (hc:Sub e z o f z' up) (ht:J9 P t f.agg f.n bytes a):
 PJ P ⟨d,.load t x,ty,m7,xS,g⟩ H ms Γ (λv:wW=>v) (λv=>[fV f z' v]) (λ_=>Wr):=by
 intro w S _ m p;have⟨cs,q,hp⟩:=yP.get m k;have⟨r,c,h,hd,h1,j,_⟩:=hc S w cs.toList hp;have s:=h1▸At.mid q hd;refine ux.of_value ?_ ⟨_,O,jP,yJ.refl _ _,zrp j,jP⟩;simp[uP,l,Instr.loadAt,xfz,gV ht j s]
def J1(w:qR)(b:K)(cs:Z3 wW):yJ (λk=>k≠b) w (w.setRow b cs):=
 ⟨O,O,O,rC,λk _ a=>setRow_other w b k cs a⟩
def Ph{ag:ut}{n bytes:K}{f:wW}(ht:J9 P t ag n bytes f){w:qR}{b:K}{cs:Z3 wW}{E:kW}{a c e:ww wW}{v:wW}
 (h:w.heap[b]? =Z (.cells cs E (0,0))) (i:cs.toList=a++c++e) (hc:X c=n) (hv:X v.cells.toList=n) (h1:∀u∈v.cells.toList,u.oneCell'=wT):
 (storeVar t ⟨b,X a,wS⟩ v).run P w=.ok () (w.setRow b (a++v.cells.toList++e).toArray):=by
 unfold storeVar;have hd:cs.size=X (a++c++e):=by rw[<-i];simp
 have j:=bI P b (X a) E v.cells.toList 0 cs w h (by rw[hd,hv];simp;lia) h1;have k:v.cells.size=n:=by simpa using hv
 simp only[xay,wv ht,xao,k,ne_eq,li,Z5];refine j.trans ?_;congr 2;rw[i,hv,xbT];congr 2;rw[xar,List.take_left' O];rw[<-hc,<-xau,xfR O]
theorem uz{α β:Type}{e:BO α}{E b:K}{z:α}{f:zT β}{o:K}{z' y':β}{up:β->α}{bytes:K}{q v:wW}(i:K)(s:ms[i]? =Z (mB e E b z))(G:ev H x=.pointer (Z ⟨b,o,wS⟩))(J:ev H y=v)(u:Sub e z o f z' up)(ht:J9 P t f.agg f.n bytes q)
 (hv:∀(S:K->Prop) (w:qR),zC S Γ w->(fV f y' v).p S w):OG P ⟨wS,.store t x y,ty,m7,xS,g⟩ H we Se ms Γ (λ_:Wd=>Z9) (λ_=>(ms.set i<|mB e E b<|up y')) (λ_=>Γ) (λ_=>Wr):=by
 intro w A;have⟨S0,_,⟨h,r,L⟩,M,_⟩:=A.mut s;have⟨l,c0,a,hd,hi,B,_⟩:=u S0 w h.toList L;have hn:=Yp<|hv S0 w M;have R:(uP (ev H) ⟨wS,.store t x y,ty,m7,xS,g⟩).run P w=.ok .skip (w.setRow b (l++v.cells.toList++a).toArray):=by have:=Ph ht r hd (f.len B) (f.len hn)<|f.one hn;rw[hi]at this;simp only[uP,G,J,Instr.storeAt,xfz,xay,xaV,xao,this]
 refine ux.of_skip R ⟨(),O,jP,A.write s O O (J1 w b _) ?_⟩;rintro S T ⟨cs,C,hp⟩ U;rw[r]at C;cases C;have⟨m,c,j,D,hl,hc,V⟩:=u S w h.toList hp;have e1:m=l:=by
  have h1:m=h.toList.take o:=by rw[D,xar,<-hl,List.take_left' O]
  grind
 have Y:j=a:=by
  have h1:j=h.toList.drop (o+f.n):=by rw[D,<-hl,<-f.len hc,<-xau,xfR O]
  have h2:a=h.toList.drop (o+f.n):=by rw[hd,<-hi,<-f.len B,<-xau,xfR O]
  rw[h1,h2]
 subst e1 Y;have F:yJ S w (w.setRow b (m++v.cells.toList++j).toArray):=(J1 w b _).weak λk _ hk=>T k hk;exact⟨_,lI w b h _ E (0,0) r,by simpa using V _ y' _ F (f.keep (Yp<|hv S w U) F)⟩
def zdb{α:Type}{e:zT α}{c:kW}{z:α}{n bytes:K}{zero:wW}{q:ul}{r s:Wl}(ht:P.underlying t=Z (.slice c))(u:J9 P c e.agg e.n bytes zero)(hx:ev H x=.int r (n:J))(A:ev H q=.int s (n:J))(hb:bytes*n<=281474976710656)(hn:n<=9223372036854775807)
 (f:∀(S:K->Prop) (w:qR),e.p S z zero.cells.toList w):OG P ⟨d,.makeSlice t x q,ty,m7,xS,g⟩ H we Se ms Γ (λb=>(.slice (Z ⟨b,0,wS⟩) n n)) (λb=>(mR e c b (So n z)::ms)) (λ_=>Γ) (λ_=>Wr):=by
 intro w B;have⟨i,hi,h1,C,D⟩:=u.info;have E:=run_make (P:=P) w t c i zero ht hi D r s (n:J) (n:J) W W (by rw[C,<-Int.natCast_mul];exact Int.ofNat_le.2 hb) W;have hd:X zero.cells.toList=e.n:=e.len<|f (λ_=>Wr) w;have hc:(lm zero.cells<|n*i.size).toList=(So n zero.cells.toList).flatten:=by
  rw[h1];apply xcv;intro j;have hs:zero.cells.size=e.n:=by simpa using hd
  by_cases a:j<n*e.n;have k:0<e.n:=xcP λh0=>by rw[h0]at a;simp at a
  have e1:(lm zero.cells<|n*e.n).toList[j]? =zero.cells.toList[j%e.n]? :=by have o:=xaP j k;simp[lm,a,hs,o]
  have F:((So n zero.cells.toList).flatten)[j]? =zero.cells.toList[j%e.n]? :=by have:=(yQ.replicate (f (λ_=>Wr) w) n).get (i:=j/e.n) (x:=z) (by rw[xdP,iq<|(xaX k).2 a]);exact flatten_get zero.cells.toList e.n hd k n j a
  rw[e1,F];rw[xbh (by simp[size_madeCells];lia),xbh<|by simp[hd];lia]
 refine ux.of_value (w':=w.alloc (.cells (lm zero.cells<|n*i.size) c)) (v:=.slice (Z ⟨w.heap.size,0,wS⟩) n n) ?_ ⟨_,O,jP,B.fresh (dB.alloc w _) O rC ?_⟩;simp only[uP,hx,A,xay,E,xao,xaV,xba];intro S _ _;refine⟨_,V2 w _,?_⟩;rw[hc];exact yQ.replicate (f _ _) n
 where
 flatten_get (l:ww wW) (m:K) (hl:X l=m) (o:0<m):∀(n j:K),j<n*m->((So n l).flatten)[j]? =l[j%m]?
  |0,j,h=>by simp at h
  |n+1,j,h=>by
   rw[xdT,List.flatten_cons];by_cases a:j<m;rw[xaZ W,xap a];rw[xbl W,hl,flatten_get l m hl o n (j-m) (by rw[xbk]at h;lia),<-Nat.mod_eq_sub_mod W]
section
variable{we:qR}{Se:wL->Prop}{ms:ww MF}{Γ Δ:ww FF}{w w':qR}
theorem St.growM{i:K}{m m':MF}(h:St we Se ms Γ w)(hi:ms[i]? =Z m)(x:yJ (λk=>¬m.blk k) w w')(hb:∀k,m'.blk k->m.blk k\/w.heap.size<=k)
 (n:∀S:K->Prop,(∀k,S k->¬m.blk k)->yP S ms w->zC S Γ w->m'.p S w'):St we Se (ms.set i m') Γ w':=by
 have⟨h1,F,z,S,G,J,u,v,A⟩:=h;have s:=xbv hi;have L:∀k,S k->¬m.blk k:=λk a e=>(u m s k e).1 a;have hd:∀k,k<w.heap.size->S k->S k/\¬m'.blk k:=λk a hs=>⟨hs,λe=>by
  obtain h|h:=hb k e
  simp_all;lia⟩
 have B:∀k,(S k/\¬m'.blk k)->¬m.blk k:=λk a=>L k a.1;have C:yJ (λk=>S k/\¬m'.blk k) w w':=x.weak λk _ a=>B k a;have D:=λb l=>yP.lt v b l;have other:∀(j:K) (b:MF),j≠i->ms[j]? =Z b->∀k,b.blk k->¬m.blk k/\¬m'.blk k:=λj b o l k a=>by
  have h1:¬m.blk k:=λe=>gU z hi k e j b o l a;refine⟨h1,λe=> ?_⟩;obtain h|h:=hb k e
  exact h1 h;have:=D b (xbv l) k a;lia
 have E:=n _ B (yP.sub hd v)<|zC.sub hd A;refine⟨h1.behind x (λk a e=>by have:=(u m s k e).2;lia),F,?_,λk=>S k/\¬m'.blk k,λk a=>G k a.1,?_,?_,?_,?_⟩;exact c i m' z<|λj b o l k a=>(other j b o l k a).2;exact λk a=>⟨J k<|xal x.size a,λe=>by have:=m'.lt E k e;lia⟩;intro b l k a;obtain⟨j,o,rfl⟩:=xcZ l;rw[List.getElem_set]at a;rw[xbe]at o;split at a;refine⟨λhc=>hc.2 a,?_⟩;obtain h|h:=hb k a
 exact(u m s k h).2;have:=h1.size;lia;exact⟨λhc=>(u _ (xby o) k a).1 hc.1,(u _ (xby o) k a).2⟩;exact f i m' C E (λj b o l k a=>x.block k (D b (xbv l) k a) (other j b o l k a).1)<|yP.sub hd v;exact zC.keep C<|zC.sub hd A
 where
 c:∀{ms:ww MF} (i:K) (m':MF),Jm ms->(∀(j:K) (b:MF),j≠i->ms[j]? =Z b->∀k,b.blk k->¬m'.blk k)->Jm (ms.set i m')
  |[],_,_,h,_=>by simpa using h
  |m::r,0,m',h,q=>⟨λk a b l hc=>by
   obtain⟨j,o,rfl⟩:=xcZ l;exact q (j+1) r[j] W (by simp[o]) k hc a,h.2⟩
  |m::r,i+1,m',h,q=>by
   refine⟨λk a b l=> ?_,c i m' h.2<|λj b o l=>q (j+1) b W<|by simpa using l⟩;obtain⟨j,o,rfl⟩:=xcZ l;rw[List.getElem_set];split;exact q 0 m W O k a;exact h.1 k a _<|xby _
 f {S:K->Prop}:∀{ms:ww MF} (i:K) (m':MF),yJ S w w'->m'.p S w'->(∀(j:K) (b:MF),j≠i->ms[j]? =Z b->∀k,b.blk k->w'.heap[k]? =w.heap[k]?)->yP S ms w->yP S (ms.set i m') w'
  |[],_,_,_,_,_,_=>trivial
  |m::r,0,m',x,s,q,h=>⟨s,yP.keep x (λb l k a=>by
   obtain⟨j,o,rfl⟩:=xcZ l;exact q (j+1) r[j] W (by simp[o]) k a) h.2⟩
  |m::r,i+1,m',x,s,q,h=>⟨m.keep h.1 x<|λk a=>q 0 m W O k a,f i m' x s (λj b o l=>q (j+1) b W<|by simpa using l) h.2⟩
theorem St.grow{i:K}{m m':MF}(h:St we Se ms Γ w)(hi:ms[i]? =Z m)(x:yJ (λk=>¬m.blk k) w w')(a:∀k,m'.blk k->m.blk k\/w.heap.size<=k)
 (n:∀S:K->Prop,(∀k,S k->¬m.blk k)->m.p S w->zC S Γ w->m'.p S w'):St we Se (ms.set i m') Γ w':=by grind [St.growM,yP.get]
theorem St.conv{i:K}{m m':MF}(h:St we Se ms Γ w)(hi:ms[i]? =Z m)(a:m'.blk=m.blk)(n:∀S:K->Prop,m.p S w->m'.p S w):St we Se (ms.set i m') Γ w:=by grind [St.grow,yJ.refl]
theorem St.nilO{α:Type}{e:zT α}{E:kW}(h:St we Se ms Γ w):St we Se (mO e E (.slice wS 0 0) []::ms) Γ w:=by
 have⟨h1,b,c,S,f,i,n,j,l⟩:=h;refine⟨h1,b,⟨(λ_ a=>by cases a),c⟩,S,f,i,?_,⟨⟨[],World.ownsRow_nil _ _ _ _,O⟩,j⟩,l⟩;intro m hm k a;obtain rfl|hm:=xai.1 hm
 cases a
 grind
end
def Bg{α:Type}{e:BO α}{z:α}{ag:ut}{c bytes:K}{a:wW}{E:kW}(ht:J9 P E ag c bytes a)
 (f:∀(S:K->Prop) (w:qR),e.p S z a.cells.toList w):OG P ⟨d,.alloc E,ty,m7,xS,g⟩ H we Se ms Γ (λb=>(.pointer<|some ⟨b,0,wS⟩)) (λb=>(mB e E b z::ms)) (λ_=>Γ) (λ_=>Wr):=by
 intro w h;refine ux.of_value ?_ ⟨_,O,jP,h.fresh (dB.alloc w _) O rC λS _ _=>⟨_,V2 w _,f _ _⟩⟩;simp only[uP,Instr.alloc,xay,uD ht,xao,newVar,eM,Ul,xaV]
def zmR{α:Type}{e:zT α}{z:α}{v:wW}{E:kW}(f:ev H x=v)
 (h:∀(S:K->Prop) (w:qR),zC S Γ w->(fV e z v).p S w):OG P ⟨d,.box E x,ty,m7,xS,g⟩ H we Se ms Γ (λb=>(.pointer<|some ⟨b,0,wS⟩)) (λb=>(mB e.c E b z::ms)) (λ_=>Γ) (λ_=>Wr):=by
 intro w i;refine ux.of_value (w':=w.alloc (.cells v.cells E)) ?_ ⟨_,O,jP,i.fresh (dB.alloc w _) O rC λS l a=>⟨_,V2 w _,?_⟩⟩;simp only[uP,f,Instr.box,newVar,eM,xay,Ul,xao,xaV];exact e.keep (e.sub (Yp<|h S w a) λk m j=>⟨j,W⟩) (dB.alloc w _).to
def lZ(w:qR)(t ty e:kW)(i:ol)(z:wW)(size bytes:K)(ht:P.underlying t=Z (.slice e))(hi:P.info? e=Z i)(r:i.zero=Z z)
 (s:i.size=size) (hn:i.bytes=bytes) (hv:z.cells.size=size) (B:0<size)
 (v:wW) (n:K) (xs:ww wW) (hd:w.ownsRow 0 e size v n xs)
 (a:U8) (m c:K) (b:ww wW) (hl:X b=m*size) (q:∀j u,b[j]? =Z u->w.cell? (a.add j)=Z u) (h1:∀u∈b,u.oneCell'=wT)
 (hp:n+m<=QR) (hc:(n+m)*bytes<=140737488355328):
 ∃o w',(xcb #[t,t] ty #[v,.slice (Z a) m c]).run P w=.ok o w'/\w'.ownsRow 0 e size o (n+m) (xs++b)/\w.grownBy w' v.ownBlock/\
  ∀k,o.ownBlock=Z k->v.ownBlock=Z k\/w.heap.size<=k:=by
 have⟨o,w',h,C,D,_⟩:=run_append_own (P:=P) w 0 t ty e i z size bytes ht hi r s hn hv B v n xs hd a m c b hl q h1 hp hc<|xaf _;refine⟨o,w',h,C,D,?_⟩;subst s hn;have M:n+m<=9223372036854775807:=by simp only[QR]at hp;lia
 rcases hd.2 with⟨rfl,rfl⟩|⟨g,cap,p,rfl,R,E,S,T,F,U⟩
 by_cases G:m=0
 subst G;have:=f (w:=w) t ty e i ht hi a c;rw[this]at h;cases h;exact λk l=>by cases l
 have:=run_append_nil (P:=P) w t ty e i z ht hi r a m c b hl q W W (by have hb:=hc;simp only[xaD]at hb;lia);rw[this]at h;cases h;exact λk l=> .inr<|by cases l;exact Nm _
 by_cases A:n+m<=cap;have J:n*i.size+X b<=p.size:=by rw[hl,F,<-xbk];exact xac _ A
 have:=run_append_room (P:=P) w t ty e i ht hi g n cap p E a m c b hl q h1 A J;rw[this]at h;cases h;exact λk l=> .inl l
 have L:∀j u,xs[j]? =Z u->w.cell? ((⟨g,0,wS⟩:U8).add j)=Z u:=hd.cells (g:=g) O;have:=run_append_grow (P:=P) w t ty e i z ht hi r ⟨g,0,wS⟩ n cap xs hd.1 L a m c b hl q W W<|ge W hc;rw[this]at h;cases h;exact λk l=> .inr<|by cases l;exact Nm _
 where
 f {w:qR} (t ty e:kW) (i:ol) (ht:P.underlying t=Z (.slice e)) (hi:P.info? e=Z i) (a:U8) (c:K):
  (xcb #[t,t] ty #[.slice wS 0 0,.slice (Z a) 0 c]).run P w=.ok (.slice wS 0 0) w:=by
  simp[xcb,Z0 ht,V9,JP,hi,xfO,xeN,loadCells,loadCellsFrom]
def SlQ{α:Type}(e:zT α)(S:K->Prop)(xs:ww α)(v:wW)(w:qR):Prop:=
 ∃a cap,v=.slice a (X xs) cap/\X xs<=cap/\cap<=QR/\(xs=[]\/∃b o cs,a=Z ⟨b,o,wS⟩/\At w b o cs/\yQ e S xs cs w)
theorem SlQ.of{α:Type}{e:zT α}{S:K->Prop}{xs:ww α}{v:wW}{w:qR}(h:(fV (eS e) xs v).p S w):SlQ e S xs v w:=by
 have⟨c,cap,h1,f,i,a⟩:=wg.1 h;refine⟨c,cap,h1,f,i,?_⟩;obtain a|⟨b,o,cs,j,k,a3,a4⟩:=a
 simp_all;grind
def eC{α:Type}{e:zT α}{z:kW}{xs ys:ww α}{v u:wW}{bytes:K}{zero:wW}(i:K)(ht:P.underlying t=Z (.slice z))(hK:J9 P z e.agg e.n bytes zero)(hD:zero.cells.size=e.n)(hn:0<e.n)
 (L:ms[i]? =Z (mO e z v xs)) (hx:ev H x=v) (hy:ev H y=u) (hf:∀(S:K->Prop) (w:qR),yP S ms w->zC S Γ w->SlQ e S ys u w)
 (h4:X xs+X ys<=9223372036854775807) (hb:(X xs+X ys)*bytes<=140737488355328):OG P ⟨d,.call ⟨.builtin .append,#[x,y],#[t,t]⟩,ty,m7,xS,g⟩ H we Se ms Γ (λq=>q) (λq=>(ms.set i<|mO e z q<|xs++ys)) (λ_=>Γ) (λ_=>Wr):=by
 intro w hE;have⟨S,⟨cs,D,he⟩,h7,h8⟩:=hE.muts L;have⟨ao,cap,M,h1,h2,h3⟩:=hf S w h7 h8;have⟨T,hi,i1,i2,i3⟩:=hK.info;have hL:∀q w',(xcb #[t,t] ty #[v,u]).run P w=.ok q w'->(uP (ev H) ⟨d,.call ⟨.builtin .append,#[x,y],#[t,t]⟩,ty,m7,xS,g⟩).run P w=.ok (.value q) w':=λq w' B=>by simp only[uP,WN,V1,UT,xdZ,xbP,xdR,hx,hy,xay,B,xaV,xao]
 have hz:X xs+X ys<=QR:=by unfold QR;lia
 have E:∃q w',(xcb #[t,t] ty #[v,u]).run P w=.ok q w'/\w.grownBy w' v.ownBlock/\(∀k,q.ownBlock=Z k->v.ownBlock=Z k\/w.heap.size<=k)/\
  ∀S:K->Prop,(∀k,S k->v.ownBlock≠Z k)->yP S ms w->zC S Γ w->(mO e z q<|xs++ys).p S w':=by
  have F:∀(w':qR) (q:wW) (m:ww wW),w.grownBy w' v.ownBlock->w'.ownsRow 0 z e.n q (X xs+X ys) (cs++m)->
   (∀S:K->Prop,yP S ms w->zC S Γ w->yQ e S ys m w)->∀S:K->Prop,(∀k,S k->v.ownBlock≠Z k)->yP S ms w->zC S Γ w->(mO e z q<|xs++ys).p S w':=by
   intro w' q m s hd hB S hS hM U;have⟨C,hF,hN⟩:=yP.get hM L;have hO:C=cs:=by
    rcases D.2 with⟨rfl,h0⟩|⟨g,cap,V,rfl,_,hP,_,_,_,hQ⟩
    have a1:=D.1;have a2:=hF.1;rw[h0]at a1 a2;have c1:cs=[]:=xbq (by simpa using a1);have c2:C=[]:=xbq (by simpa using a2);rw[c1,c2];rcases hF.2 with⟨hc,_⟩|⟨g',a0,a3,hR,_,hA,_,_,_,hG⟩
    cases hc
    cases hR;rw[hP]at hA;cases hA;rw[<-hQ,<-hG]
   subst hO;have kk:yJ S w w':=⟨s.os,s.tape,s.output,s.size,λk Y hs=>s.block k Y<|λe=>hS k hs e.symm⟩;exact⟨C++m,by rw[xau];exact hd,(hN.keep kk).append<|(hB S hM U).keep kk⟩
  have A:ys=[]->(ao=wS->u=.slice wS 0 cap)->∃q w',(xcb #[t,t] ty #[v,u]).run P w=.ok q w'/\w.grownBy w' v.ownBlock/\(∀k,q.ownBlock=Z k->v.ownBlock=Z k\/w.heap.size<=k)/\
   ∀S:K->Prop,(∀k,S k->v.ownBlock≠Z k)->yP S ms w->zC S Γ w->(mO e z q<|xs++ys).p S w':=by
   intro R hC
   subst R
   cases ao with
   |none=>
    have hT:=hC O
    have B:=f (w:=w) t ty z T e.n ht hi v (X xs) cs D cap
    rw[<-hT]at B
    exact⟨v,w,B,⟨O,O,O,Nm _,λ_ _ _=>O⟩,λk Y=> .inl Y,λS _ hp _=>by simpa using yP.get hp L⟩
   |some a=>
    have⟨q,w',B,hd,s,hl⟩:=lZ w t ty z T zero e.n bytes ht hi i3 i1 i2 hD hn v (X xs) cs D a 0 cap [] rC rC rC (by simpa using hz)<|by simpa using hb
    exact⟨q,w',by rw[M];exact B,s,hl,F w' q [] s (by simpa using hd)<|λ_ _ _=>O⟩
  obtain R|⟨b,o,m,rfl,ha,G⟩:=h3
  exact A R<|λh=>by rw[M,h,R];rfl
  have⟨q,w',B,hd,s,hl⟩:=lZ w t ty z T zero e.n bytes ht hi i3 i1 i2 hD hn v (X xs) cs D ⟨b,o,wS⟩ (X ys) cap m G.len
   (λj c hc=>by rw[jl];exact ha.2 j c hc) G.one hz hb
  refine⟨q,w',by rw[M];exact B,s,hl,F w' q m s hd λS2 hU hV=> ?_⟩;have⟨a5,a4,hH,_,_,hW⟩:=hf S2 w hU hV;rw[M]at hH;cases hH;obtain rfl|⟨b2,o2,r,hX,hY,hv⟩:=hW
  have:=G.len;rw[xbV,xcC]at this;rw[xbq this];rfl
  cases hX;have:r=m:=by
   apply xcv;intro j;by_cases J:j<X m;have e1:=ha.2 j m[j] (by simp[J]);have hI:j<X r:=by rw[hv.len,<-G.len];exact J
   have e2:=hY.2 j r[j] (by simp[hI]);rw[e1]at e2;rw[xaa J,xaa hI,e2];have h5:X r=X m:=by rw[hv.len,<-G.len]
   rw[xbh (l:=m) W,xbh (l:=r) W]
  rw[<-this];exact hv
 have⟨q,w',B,s,hl,hp⟩:=E;exact ux.of_value (hL q w' B) ⟨q,O,jP,hE.growM L ⟨s.os,s.tape,s.output,s.size,λj J hs=>s.block j J<|λe=>hs e.symm⟩ hl hp⟩
 where
 f {w:qR} (t ty e:kW) (i:ol) (size:K) (ht:P.underlying t=Z (.slice e)) (hi:P.info? e=Z i)
  (v:wW) (n:K) (xs:ww wW) (hJ:w.ownsRow 0 e size v n xs) (c:K):
  (xcb #[t,t] ty #[v,.slice wS 0 c]).run P w=.ok v w:=by
  rcases hJ.2 with⟨rfl,rfl⟩|⟨g,cap,V,rfl,_,_,hZ,_⟩
  simp[xcb,Z0 ht,V9,JP,hi,xfO,xeN];simp[xcb,Z0 ht,V9,JP,hi,xfO,xeN,hZ,storeCells]
def zb3{α:Type}{e:zT α}{b:kW}{xs ys:ww α}{v u:wW}{bytes:K}{a:wW}(i:K)(f:yX ops H ⟨d,.call ⟨.builtin .append,#[x,y],#[t,t]⟩,ty,m7,xS,g⟩=wT)(hd:jM N.n d=wT)
 (ht:P.underlying t=Z (.slice b)) (h:J9 P b e.agg e.n bytes a) (hc:a.cells.size=e.n) (hn:0<e.n)
 (j:ms[i]? =Z (mO e b v xs)) (l:ev H x=v) (m:ev H y=u) (o:∀(S:K->Prop) (w:qR),yP S ms w->zC S Γ w->SlQ e S ys u w)
 (p:X xs+X ys<=9223372036854775807) (q:(X xs+X ys)*bytes<=140737488355328)
 (k:∀c,TL P N we Se (ms.set i<|mO e b c<|xs++ys) Γ ops rest Q<|put H d c):TL P N we Se ms Γ ops (⟨d,.call ⟨.builtin .append,#[x,y],#[t,t]⟩,ty,m7,xS,g⟩::rest) Q H:=
 znW f hd (eC i ht h hc hn j l m o p q) λc _=>k c
def ze8{α:Type}{e:zT α}{b:kW}{xs ys:ww α}{v u:wW}{bytes:K}{a:wW}(i:K)(f:yX ops H ⟨d,.call ⟨.builtin .append,#[x,y],#[t,t]⟩,ty,m7,xS,g⟩=wT)(hd:jM N.n d=wT)
 (ht:P.underlying t=Z (.slice b)) (j:J9 P b e.agg e.n bytes a) (hc:a.cells.size=e.n) (hn:0<e.n)
 (l:ms[i]? =Z (mO e b v xs)) (m:ev H x=v) (o:ev H y=u) (q:∀(S:K->Prop) (w:qR),zC S Γ w->(fV (eS e) ys u).p S w)
 (r:X xs+X ys<=9223372036854775807) (s:(X xs+X ys)*bytes<=140737488355328)
 (k:∀c,TL P N we Se (ms.set i<|mO e b c<|xs++ys) Γ ops rest Q<|put H d c):TL P N we Se ms Γ ops (⟨d,.call ⟨.builtin .append,#[x,y],#[t,t]⟩,ty,m7,xS,g⟩::rest) Q H:=
 zb3 i f hd ht j hc hn l m o (λS w _ h=>SlQ.of<|q S w h) r s k
def zpq{α:Type}{e:zT α}{E b:K}{z:α}{w:qR}(i:K)(h:St we Se ms Γ w)(a:ms[i]? =Z (mB e.c E b z)):
 St we Se (ms.eraseIdx i) (fP e z (.pointer<|some ⟨b,0,wS⟩)::Γ) w:=
 h.freeze a λS k f j hp=>zo6 f (j b O) hp
def Ou{α:Type}{e:zT α}{E:K}{v:wW}{xs:ww α}{w:qR}(i:K)(h:St we Se ms Γ w)(a:ms[i]? =Z (mO e E v xs)):
 St we Se (ms.eraseIdx i) (fV (eS e) xs v::Γ) w:=
 h.freeze a λS f b c hp=>rP b c hp
def zlZ{α:Type}{e:zT α}{E b:K}{xs:ww α}{n:K}{w:qR}(i:K)(h:St we Se ms Γ w)(c:ms[i]? =Z (mR e E b xs))(hn:n=X xs)(j:X xs<=9223372036854775807):
 St we Se (ms.set i<|mO e E (.slice (Z ⟨b,0,wS⟩) n n) xs) Γ w:=
 h.conv c O λS ⟨cs,f,a⟩=>by
  subst hn;have hl:cs.size=X xs*e.n:=by have:=yQ.len a;simpa using this
  refine⟨cs.toList,⟨by simpa using hl,.inr ⟨b,X xs,cs,O,xaf _,f,Nm _,by unfold QR;lia,hl,?_⟩⟩,a⟩;rw[xaW<|by simp[hl]]
end
end
section
def YM{a b:K}(h:a≠b):R a b=I:=by grind [xdy]
def ET{a b:K}(h:b<=a):xda a b=I:=by
 cases c:xda a b
 rfl;have:=xbF c;omega
structure Pr where
 p:(K->Prop)->wW->qR->Prop
 keepS:∀{S:K->Prop}{v:wW}{w w':qR},p S v w->yJ S w w'->p S v w'
 sub:∀{S S':K->Prop}{v:wW}{w:qR},p S v w->(∀k,k<w.heap.size->S k->S' k)->p S' v w
def Pr.keep(a:Pr){S:K->Prop}{v:wW}{w w':qR}(h:a.p S v w)(x:dB w w'):a.p S v w':=a.keepS h x.to
def BU(d:V Wf)(a:Pr)(K:N (Wf×Pr)):N (Wf×Pr):=match d with
 |some d=>(d,a)::K
 |none=>K
def Xu(K:N (Wf×Pr))(i7 H:xj)(S:wL->Prop)(w:qR)(t:Wf):Prop:=match K.find? (λx=>R x.1 t)with
 |some x=>x.2.p S (H t) w
 |none=>H t=i7 t
def Jl(K:N (Wf×Pr))(i7 H:xj)(S:wL->Prop)(w:qR):N Wf->Prop
 |[]=>Wr
 |t::ts=>Xu K i7 H S w t/\Jl K i7 H S w ts
def Ob(P:uS)(a:Z3 Xs)(ms:N MF)(Γ:N FF)(i7:xj)(K:N (Wf×Pr))(o:Xs)(b:Pr):Prop:=
 ∀(S:wL->Prop) (w:qR) (H:xj),(∀k,w.heap.size<=k->S k)->yP S ms w->zC S Γ w->Jl K i7 H S w (o.looksAt a)->
  (yX a H o=wT->ux P o H w (λv w'=>dB w w'/\b.p S v w'))/\(yX a H o=I->b.p S Z9 w)
def Obs(P:uS)(a:Z3 Xs)(ms:N MF)(Γ:N FF)(i7:xj):N (Xs×Pr)->N (Wf×Pr)->Prop
 |[],_=>Wr
 |(o,b)::r,K=>Ob P a ms Γ i7 K o b/\Obs P a ms Γ i7 r (BU o.dst b K)
def Kof:N (Xs×Pr)->N (Wf×Pr)->N (Wf×Pr)
 |[],K=>K
 |(o,a)::r,K=>Kof r<|BU o.dst a K
def Jq(o:Xs)(i:K):ut:=o.after.toList.any λe=>xcq .any e && R e.on i
def zU(l:N Xs)(i:K):Xs:=l.getD i default
def zaN(l:N Xs)(m:K):ut:=xft m (X l) && (xaC (X l)).all λj=>
 ((zU l j).after.toList.all λe=> !xcq .any e||xda e.on j) &&
 (bif xda j m then(xaC m).all λi=>R i j||(match(zU l i).dst with
  |some t=> !((xbm l.toArray<|zU l j).contains t||(zU l j).dst==Z t)||(bif xda i j then Jq (zU l j) i else Jq (zU l i) j)
  |none=>wT)
  else(xaC j).all λk=>Jq (zU l j) k)
def vQ(l:N Xs):K->K->K->ut
 |0,i,k=>Jq (zU l i) k
 |f+1,i,k=>Jq (zU l i) k||(zU l i).after.toList.any λe=>xcq .any e && vQ l f e.on k
def Vu(l:N Xs)(m:K):ut:=xft m (X l) && (xaC (X l)).all λj=>
 ((zU l j).after.toList.all λe=> !xcq .any e||xda e.on j) &&
 (bif xda j m then(xaC m).all λi=>R i j||(match(zU l i).dst with
  |some t=> !((xbm l.toArray<|zU l j).contains t||(zU l j).dst==Z t)||(bif xda i j then Jq (zU l j) i else Jq (zU l i) j)
  |none=>wT)
  else bif R j m then(xaC m).all λk=>vQ l 16 m k else Jq (zU l j) (j-1))
section
variable{l:ww Xs}{m:wL}
def uV{o:Xs}{i:K}(h:Jq o i=wT):∃e∈o.after,xcq .any e=wT/\e.on=i:=by unfold Jq at h;rw[xfH]at h;simp_all
def zbd(h:zaN l m=wT):m<=X l/\
 (∀j,j<X l->∀e∈(zU l j).after,xcq .any e=wT->e.on<j)/\
 (∀j i t,j<m->i<m->i≠j->(zU l i).dst=Z t->(t∈xbm l.toArray (zU l j)\/(zU l j).dst=Z t)->(i<j->Jq (zU l j) i=wT)/\(j<i->Jq (zU l i) j=wT))/\
 (∀j,m<=j->j<X l->∀k,k<j->Jq (zU l j) k=wT):=by
 unfold zaN at h;rw[xae,xaT]at h;have⟨h0,h1⟩:=h;have d:=xbF h0;refine⟨d,λj a e f g=> ?_,λj i t a hi hc ht hl=> ?_,λj hd a k n=> ?_⟩;have:=h1 j<|xbd.2 a;rw[xae,xaT]at this;have:=this.1 e<|xdM.2 f;rw[g]at this;simpa using this;have:=h1 j (xbd.2 pU);rw[xae]at this;have b:=this.2;rw[show xda j m=wT by simpa using a,WF,xaT]at b;have c:=b i<|xbd.2 hi;rw[YM hc,xeD,ht]at c;have o:((xbm l.toArray<|zU l j).contains t||(zU l j).dst==Z t)=wT:=by
  rw[xdU];obtain hl|hl:=hl
  left;simpa using hl;right;simp[hl]
 simp only[o,xeS,xeD]at c;constructor;intro p;rwa[show xda i j=wT by simpa using p,WF]at c;intro q;rwa[ET pU,Wt]at c;have:=h1 j<|xbd.2 a;rw[xae]at this;have b:=this.2;rw[ET hd,Wt,xaT]at b;exact b k<|xbd.2 n
def Y2(h:Vu l m=wT):m<=X l/\
 (∀j,j<X l->∀e∈(zU l j).after,xcq .any e=wT->e.on<j)/\
 (∀j i t,j<m->i<m->i≠j->(zU l i).dst=Z t->(t∈xbm l.toArray (zU l j)\/(zU l j).dst=Z t)->(i<j->Jq (zU l j) i=wT)/\(j<i->Jq (zU l i) j=wT))/\
 (∀j,m<j->j<X l->Jq (zU l j) (j-1)=wT)/\(m<X l->∀k,k<m->vQ l 16 m k=wT):=by
 unfold Vu at h;rw[xae,xaT]at h;have⟨h0,h1⟩:=h;have d:=xbF h0;refine⟨d,λj b e f g=> ?_,λj i t b hi hc ht hl=> ?_,λj q b=> ?_,λn k o=> ?_⟩;have:=h1 j<|xbd.2 b;rw[xae,xaT]at this;have:=this.1 e<|xdM.2 f;rw[g]at this;simpa using this;have:=h1 j (xbd.2 pU);rw[xae]at this;have a:=this.2;rw[show xda j m=wT by simpa using b,WF,xaT]at a;have c:=a i<|xbd.2 hi;rw[YM hc,xeD,ht]at c;have p:((xbm l.toArray<|zU l j).contains t||(zU l j).dst==Z t)=wT:=by
  rw[xdU];obtain hl|hl:=hl
  left;simpa using hl;right;simp[hl]
 simp only[p,xeS,xeD]at c;constructor;intro hd;rwa[show xda i j=wT by simpa using hd,WF]at c;intro r;rwa[ET pU,Wt]at c;have:=h1 j<|xbd.2 b;rw[xae]at this;have a:=this.2;rw[ET pU,Wt,YM pU,Wt]at a;exact a;have:=h1 m<|xbd.2 n;rw[xae]at this;have a:=this.2;rw[ET<|Nm m,Wt,Nat.beq_refl,WF,xaT]at a;exact a k<|xbd.2 o
theorem dI{a:Z3 ut}(d:∀i,i<X l->a.getD i I=wT->∀e∈(zU l i).after,xcq .any e=wT->a.getD e.on I=wT)
 (h1:∀j,j<X l->∀e∈(zU l j).after,xcq .any e=wT->e.on<j):∀(f i k:K),i<X l->(∀e∈(zU l i).after,xcq .any e=wT->a.getD e.on I=wT)->vQ l f i k=wT->a.getD k I=wT
 |0,i,k,hi,hd,h=>by
  have⟨e,c,g,n⟩:=uV h;grind
 |f+1,i,k,hi,hd,h=>by
  unfold vQ at h;rw[xdU]at h;obtain h|h:=h
  have⟨e,c,g,n⟩:=uV h;grind;rw[xfH]at h;have⟨e,c,b⟩:=h;rw[xae]at b;have hc:=xdM.1 c;have o:=h1 i hi e hc b.1;exact dI d h1 f e.on k pU (d e.on pU<|hd e hc b.1) b.2
def YG{i:K}(h:i<X l):l.toArray[i]? =Z (zU l i):=by simp[zU,h]
end
def cvt{α:Type}{e:zT α}{x y:α}{v:wW}{S:K->Prop}{w:qR}(h:x=y)(hp:(fV e x v).p S w):(fV e y v).p S w:=h▸hp
def zgI{α:Type}{e:zT α}{S:K->Prop}{w:qR}:(fV (eS e) [] (.slice wS 0 0)).p S w:=wg.2 SlP.nil
def getD_some{α:Type}{l:N α}{k:K}(z:α)(h:k<X l):l[k]? =Z (l.getD k z):=by grind
def zpl{α:Type}{e:zT α}{xs:N α}{v:wW}{S:K->Prop}{w:qR}(h:(fV (eS e) xs v).p S w):X xs<=9223372036854775807:=by have⟨b,cap,hv,hc,a,_⟩:=wg.1 h;exact xal hc a
def yQ.all_u{S:K->Prop}{w:qR}:∀{xs:N K}{cs:N wW},yQ eU S xs cs w->∀x∈xs,x<18446744073709551616
 |[],_,_=>λx hx=>jp hx H1
 |y::ys,_,⟨c,r,_,hc,a⟩=>λx hx=>by
  obtain rfl|hx:=xai.1 hx
  exact hc.2;exact yQ.all_u a x hx
def zp(l:N K):Prop:=∀x∈l,x<18446744073709551616
def zgG{xs:N K}{v:wW}{S:K->Prop}{w:qR}(h:(fV (eS eU) xs v).p S w):zp xs:=by
 have⟨e,cap,hv,hc,f,a⟩:=wg.1 h;obtain rfl|⟨b,o,cs,_,_,_,c⟩:=a
 exact λx d=>jp d H1;exact c.all_u
def Aa(t:Wf):∀(r:N (Xs×Pr)) (K:N (Wf×Pr)),
 (∃(i:wL) (x:Xs×Pr),r[i]? =Z x/\x.1.dst=Z t/\(∀(a:wL) (b:Xs×Pr),r[a]? =Z b->b.1.dst=Z t->a<=i)/\(Kof r K).find? (λy=>R y.1 t)=Z (t,x.2))\/
 ((∀(i:wL) (x:Xs×Pr),r[i]? =Z x->x.1.dst≠Z t)/\(Kof r K).find? (λy=>R y.1 t)=K.find? (λy=>R y.1 t))
 |[],K=> .inr ⟨λi x h=>by simp at h,O⟩
 |(o,c)::r,K=>by
  rcases Aa t r (BU o.dst c K)with⟨i,x,h1,f,j,k⟩|⟨h1,f⟩
  refine .inl ⟨i+1,x,by simpa using h1,f,λa b g hd=> ?_,k⟩
  cases a with
  |zero=>omega
  |succ a=>have:=j a b (by simpa using g) hd;omega
  by_cases hd:o.dst=Z t;refine .inl ⟨0,(o,c),O,hd,λa b g l=> ?_,?_⟩;grind;show(Kof r<|BU o.dst c K).find? _=_;rw[f,hd];simp[BU];refine .inr ⟨λi x m=> ?_,?_⟩;grind;show(Kof r<|BU o.dst c K).find? _=_;rw[f]
  cases hc:o.dst with
  |none=>rfl
  |some d=>
   have:R d t=I:=YM λe=>hd (by rw[hc,e]);simp[BU,this]
def zeb{P:uS}{a:Z3 Xs}{ms:N MF}{Γ:N FF}{i7:xj}:∀(r:N (Xs×Pr)) (K:N (Wf×Pr)) (i:wL) (x:Xs×Pr),Obs P a ms Γ i7 r K->r[i]? =Z x->Ob P a ms Γ i7 (Kof (r.take i) K) x.1 x.2
 |[],_,_,_,_,h=>by simp at h
 |(o,c)::r,K,0,x,h,b=>by simp at b;subst b;exact h.1
 |(o,c)::r,K,i+1,x,h,b=>by
  have:=zeb r (BU o.dst c K) i x h.2 (by simpa using b);simpa[Kof]using this
def cB{K:N (Wf×Pr)}{i7 H:xj}{S:wL->Prop}{w:qR}:∀(ts:N Wf),(∀t∈ts,Xu K i7 H S w t)->Jl K i7 H S w ts
 |[],_=>trivial
 |t::ts,h=>⟨h t<|IR,cB ts λu a=>h u<|FS _ a⟩
def AY{a:Z3 ut}{i:K}(hi:i<a.size)(b:a.getD i wT=I):∀(r:N K),
 (r.countP λk=> !(a.setIfInBounds i wT).getD k wT)<=(r.countP λk=> !a.getD k wT)/\
 (i∈r->(r.countP λk=> !(a.setIfInBounds i wT).getD k wT)<(r.countP λk=> !a.getD k wT))
 |[]=>⟨Nm _,λh=>by cases h⟩
 |k::r=>by
  have d:=AY hi b r;rw[List.countP_cons,List.countP_cons];by_cases c:i=k;subst c;have e1:(a.setIfInBounds i wT).getD i wT=wT:=by simp[hi]
  grind;simp_all
section
variable{P:uS}{N:Nd}{we:qR}{Se:wL->Prop}{ms:ww MF}{Γ:ww FF}{Q:Qs}{i7:xj}{l:ww Xs}{m:wL}
def zrz(hc:zaN l m=wT){q:iT->V6->qR->Prop}:∀(c j:K) (b:Z3 ut) (a:V6) (w:qR),m<=j->j<=X l->X l-j<=c->b.size=X l->
 (∀k,k<X l->b.getD k wT=decide (k<j))->WW N.F 0 P l.toArray q (l.drop j) a w->bv N.F 0 P .any l.toArray q c b a w:=by
 have⟨h0,h1,R,A⟩:=zbd hc;have hd:∀(j:K) (b:Z3 ut),m<=j->j<=X l->b.size=X l->(∀k,k<X l->b.getD k wT=decide (k<j))->∀i,i∈xed .any l.toArray b->i=j:=by
  intro j b hn hp p d i hi;have⟨s,o,n,hv⟩:=mem_ready.1 hi;have ht:i<X l:=by simpa using(xbi.1 n).1
  rw[d i ht]at s;have S:j<=i:=by simpa using s
  rw[YG ht]at n;cases n;obtain g|hge:=xbU j i
  have⟨e,t,u,B⟩:=uV<|A i pU ht j g;have hl:=hv e t u;rw[B]at hl;have v:=d j pU;have C:j<b.size:=pU
  simp only[xbx,xdu C,xdn]at hl v;rw[hl]at v;simp at v;omega
 intro c
 induction c with
 |zero=>
  intro j b a w hn hp D p d f;have:j=X l:=pU
  subst this;refine⟨?_,by simpa[WW]using f⟩
  cases E:xed .any l.toArray b with
  |nil=>rfl
  |cons i r=>
   have hi:i∈xed .any l.toArray b:=by rw[E];exact IR
   have G:=hd _ b hn hp p d i hi;have⟨s,o,n,_⟩:=mem_ready.1 hi;have:=(xbi.1 n).1;simp at this;omega
 |succ c H=>
  intro j b a w hn hp D p d f;rcases xbU j (X l) with g|hge
  have y:j∈xed .any l.toArray b:=by
   refine mem_ready.2 ⟨by rw[d j g];simp,zU l j,YG g,λe t u=> ?_⟩;have:=h1 j g e t u;have hl:=d e.on pU;have J:e.on<b.size:=pU
   simp only[xbx,xdu J,xdn]at hl⊢;rw[hl];simpa using this
  refine⟨λh=>(by rw[h]at y;cases y),λi hi=> ?_⟩;have:=hd j b hn hp p d i hi;subst this;rw[xbX g]at f;have L:l[i]=zU l i:=by simp[zU,g]
  unfold WW at f;unfold wpOpIn;rw[YG g];simp only[<-L];have next:∀a w,WW N.F 0 P l.toArray q (l.drop<|i+1) a w->bv N.F 0 P .any l.toArray q c (b.setIfInBounds i true) a w:=λa w h=>
   H (i+1) _ a w pU pU pU (by simpa using p) (λk M=>by
    by_cases z:i=k;subst z;have:i<b.size:=pU
    simp[this];rw[Jp wT z,d k M];simp only[decide_eq_decide];omega) h
  split;rename_i x;rw[iq x]at f;exact Oper.wpIn_mono next f
  rename_i x;rw[ir x]at f;exact⟨f.1,next _ _ f.2⟩;have:j=X l:=pU
  subst this;refine⟨λ_=>by simpa[WW]using f,λi hi=> ?_⟩;have G:=hd _ b hn hp p d i hi;have⟨s,o,n,_⟩:=mem_ready.1 hi;have:=(xbi.1 n).1;simp at this;omega
def mV(hc:Vu l m=wT){q:iT->V6->qR->Prop}:∀(c j:K) (b:Z3 ut) (a:V6) (w:qR),m<=j->j<=X l->X l-j<=c->b.size=X l->
 (∀k,k<X l->b.getD k wT=decide (k<j))->WW N.F 0 P l.toArray q (l.drop j) a w->bv N.F 0 P .any l.toArray q c b a w:=by
 have⟨h0,h1,R,A,_⟩:=Y2 hc;have hd:∀(j:K) (b:Z3 ut),m<=j->j<=X l->b.size=X l->(∀k,k<X l->b.getD k wT=decide (k<j))->∀i,i∈xed .any l.toArray b->i=j:=by
  intro j b hn hp p d i hi;have⟨s,o,g,hv⟩:=mem_ready.1 hi;have ht:i<X l:=by simpa using(xbi.1 g).1
  rw[d i ht]at s;have S:j<=i:=by simpa using s
  rw[YG ht]at g;cases g;obtain n|hge:=xbU j i
  have⟨e,t,u,B⟩:=uV<|A i pU ht;have hl:=hv e t u;rw[B]at hl;have v:=d (i-1) pU;have C:i-1<b.size:=pU
  simp only[xbx,xdu C,xdn]at hl v;rw[hl]at v;simp at v;omega;omega
 intro c
 induction c with
 |zero=>
  intro j b a w hn hp D p d f;have:j=X l:=pU
  subst this;refine⟨?_,by simpa[WW]using f⟩
  cases E:xed .any l.toArray b with
  |nil=>rfl
  |cons i r=>
   have hi:i∈xed .any l.toArray b:=by rw[E];exact IR
   have G:=hd _ b hn hp p d i hi;have⟨s,o,g,_⟩:=mem_ready.1 hi;have:=(xbi.1 g).1;simp at this;omega
 |succ c H=>
  intro j b a w hn hp D p d f;rcases xbU j (X l) with n|hge
  have y:j∈xed .any l.toArray b:=by
   refine mem_ready.2 ⟨by rw[d j n];simp,zU l j,YG n,λe t u=> ?_⟩;have:=h1 j n e t u;have hl:=d e.on pU;have J:e.on<b.size:=pU
   simp only[xbx,xdu J,xdn]at hl⊢;rw[hl];simpa using this
  refine⟨λh=>(by rw[h]at y;cases y),λi hi=> ?_⟩;have:=hd j b hn hp p d i hi;subst this;rw[xbX n]at f;have L:l[i]=zU l i:=by simp[zU,n]
  unfold WW at f;unfold wpOpIn;rw[YG n];simp only[<-L];have next:∀a w,WW N.F 0 P l.toArray q (l.drop<|i+1) a w->bv N.F 0 P .any l.toArray q c (b.setIfInBounds i true) a w:=λa w h=>
   H (i+1) _ a w pU pU pU (by simpa using p) (λk M=>by
    by_cases z:i=k;subst z;have:i<b.size:=pU
    simp[this];rw[Jp wT z,d k M];simp only[decide_eq_decide];omega) h
  split;rename_i x;rw[iq x]at f;exact Oper.wpIn_mono next f
  rename_i x;rw[ir x]at f;exact⟨f.1,next _ _ f.2⟩;have:j=X l:=pU
  subst this;refine⟨λ_=>by simpa[WW]using f,λi hi=> ?_⟩;have G:=hd _ b hn hp p d i hi;have⟨s,o,g,_⟩:=mem_ready.1 hi;have:=(xbi.1 g).1;simp at this;omega
def zke{id:K}(m:K)(d:ww Pr)(ts:ww Wf)(hm:P.follows .mixedOrders=wT)(hc:Vu l m=wT)(hl:X d=m)(hd:(l.all λo=>jM N.n o.dst)=wT)
 (hY:Obs P l.toArray ms Γ i7 ((l.take m).zip d) [])
 (a3:∀(S:K->Prop) (w:qR) (H:xj),(∀k,w.heap.size<=k->S k)->zC S Γ w->Jl (Kof ((l.take m).zip d) []) i7 H S w ts->
  ∃s r,zC S s w/\cH H r/\∀rest,TL P N we Se ms s l.toArray (l.drop m) Q<|L r rest):
 T P N we Se ms Γ (.region id l.toArray wT) Q i7:=by
 intro w0 b0 a0 b3 b4 b5;have⟨h0,h1,h2,h3,b6⟩:=Y2 hc;have⟨s1,s2,s3,S,s4,s5,s6,s7,s8⟩:=b0;have mk:∀w' Δ,dB w0 w'->zC S Δ w'->St we Se ms Δ w':=λw' Δ x b7=>
  ⟨s1.trans x,s2,s3,S,s4,λk f=>s5 k<|xal x.size f,s6,yP.keep x.to (λm hm i hi=>x.block i (yP.lt s7 m hm i hi) jP) s7,b7⟩
 have c5:X ((l.take m).zip d)=m:=by simp;omega
 have hD:∀i,i<m->∃u,((l.take m).zip d)[i]? =Z (zU l i,u):=λi hi=>by
  have hn:i<X l:=pU
  refine⟨d[i]'pU,?_⟩;rw[xeX];refine⟨?_,rC⟩;rw[xbK,iq hi];simp[zU,hn]
 have hp:∀i x,((l.take m).zip d)[i]? =Z x->i<m/\x.1=zU l i:=λi x hx=>by
  have hi:i<m:=by have:=(xaz.1 hx).1;omega
  have⟨u,h⟩:=hD i hi;rw[h]at hx;cases hx;exact⟨hi,O⟩
 refine wpIn_region_any hm ?_
 have b9:∀(g:K) (b:Z3 ut) (a:V6) (w:qR),(xaC (X l)).countP (λk=> !b.getD k wT)<=g->b.size=X l->a.tmps.size=N.n->a.defers=N.ds->dB w0 w->
  (∀i,m<=i->i<X l->b.getD i wT=I)->
  (∀i,i<X l->b.getD i I=wT->∀e∈(zU l i).after,xcq .any e=wT->b.getD e.on I=wT)->
  (∀t,((∀i,i<m->b.getD i I=wT->(zU l i).dst≠Z t)/\ya a t=i7 t)\/
   ∃i u,i<m/\b.getD i I=wT/\((l.take m).zip d)[i]? =Z (zU l i,u)/\(zU l i).dst=Z t/\(∀J,J<m->b.getD J I=wT->(zU l J).dst=Z t->J<=i)/\u.p S (ya a t) w)->
  bv N.F 0 P .any l.toArray (zfG N Q) g b a w:=by
  intro g
  induction g with
  |zero=>
   intro b a w hN hM b1 b2 x hq hA M;have E:∀k,k<X l->b.getD k wT=wT:=λk f=>by
    have hz:(xaC (X l)).countP (λk=> !b.getD k wT)=0:=pU
    rw[List.countP_eq_zero]at hz;have:=hz k<|xbd.2 f;simpa using this
   have c6:m=X l:=by
    rcases xbU m (X l) with U|hge
    have h5:=hq m (Nm _) U;rw[E m U]at h5;cases h5
    omega
   have hJ:=zC.keep x.to s8;have⟨s,r,f1,f2,f3⟩:=a3 S w (ya a) (λk f=>s5 k<|xal x.size f) hJ (cB ts λt _=>hK hD hp M (λi hi=>by
    have B:=E i pU;rwa[c (by omega:i<b.size)]at B))
   refine mV hc 0 m b a w (Nm _) h0 pU hM (λk f=>by rw[E k f];simp;omega) ?_;exact f3 (ya a) w (mk w s x f1) a b1 b2 (Ui f2).symm
  |succ g ih=>
   intro b a w hN hM b1 b2 x hq hA M;by_cases E:∀k,k<m->b.getD k wT=wT
   have hJ:=zC.keep x.to s8;have⟨s,r,f1,f2,f3⟩:=a3 S w (ya a) (λk f=>s5 k<|xal x.size f) hJ (cB ts λt _=>hK hD hp M (λi hi=>by
    have B:=E i hi;rwa[c (by omega:i<b.size)]at B))
   have hZ:∀k,k<X l->b.getD k wT=decide (k<m):=λk f=>by
    by_cases hR:k<m;rw[E k hR];simp[hR];rw[hq k pU f];simp[hR]
   refine mV hc (g+1) m b a w (Nm _) h0 (xal ?_ hN) hM hZ ?_;rw[show(xaC (X l)).countP (λk=> !b.getD k wT)=(xaC (X l)).countP (λk=> !decide (k<m))from List.countP_congr λk f=>by rw[hZ k<|xbd.1 f]];exact count_ge m (X l);exact f3 (ya a) w (mk w s x f1) a b1 b2 (Ui f2).symm;have h4:∃k,k<m/\b.getD k wT=I:=by
    by_cases hh:∃k,k<m/\b.getD k wT=I;exact hh
    exact jp (λk f=>by
     cases hb:b.getD k wT
     exact jp ⟨k,f,hb⟩ hh;rfl) E
   refine⟨λhr=> ?_,λi hi=> ?_⟩
   exfalso;have⟨k,f,hS,h9⟩:=first_un h4;have:k∈xed .any l.toArray b:=mem_ready.2 ⟨hS,zU l k,YG pU,λe G hb=>by
    have h5:=h1 k pU e G hb;have B:=h9 e.on h5;rwa[c (by omega:e.on<b.size)]at B⟩
   rw[hr]at this;cases this
   have⟨hu,o,ho,hB⟩:=mem_ready.1 hi;have hn:i<X l:=by simpa using(xbi.1 ho).1
   rw[YG hn]at ho;cases ho;have hT:i<m:=by
    obtain h|h:=xbU i m
    exact h;exfalso;by_cases h':m=i;subst h';have⟨k,f,hS⟩:=h4;have B:=dI hA h1 16 m k hn hB<|b6 hn k f;rw[<-c (by omega:k<b.size),hS]at B;cases B
    have⟨e,G,hb,hL⟩:=uV<|h3 i pU hn;have B:=hB e G hb;rw[hL,<-c (by omega:i-1<b.size),hq (i-1) pU pU]at B;cases B
   have⟨u,a4⟩:=hD i hT;have c0:=zeb _ [] i _ hY a4;have hC:∀t,(t∈xbm l.toArray (zU l i)\/(zU l i).dst=Z t)->∀j,j<m->(zU l j).dst=Z t->j≠i->(b.getD j I=wT↔j<i):=by
    intro t ht j C hG hU;have h7:=h2 i j t hT C hU hG ht;constructor;intro z;obtain h|h:=xbU j i
    exact h;exfalso;have⟨e,G,hb,hL⟩:=uV (h7.2 pU);have h8:=hA j pU z e G hb;rw[hL,<-c (by omega:i<b.size),hu]at h8;cases h8
    intro D;have⟨e,G,hb,hL⟩:=uV<|h7.1 D;have h8:=hB e G hb;rwa[hL]at h8
   have a5:b.getD i I=I:=by rw[<-c (by omega:i<b.size)];exact hu
   have hV:Jl (Kof (((l.take m).zip d).take i) []) i7 (ya a) S w (xbm l.toArray<|zU l i):=by
    refine cB _ λt ht=> ?_;have tk:∀(j:K) (y:Xs×Pr),(((l.take m).zip d).take i)[j]? =Z y->j<i/\((l.take m).zip d)[j]? =Z y:=λj y V=>by
     rw[xbK]at V;split at V;exact⟨by assumption,V⟩;cases V
    unfold Xu;rcases Aa t (((l.take m).zip d).take i) []with⟨j,y,g1,A,g3,g4⟩|⟨g1,A⟩
    rw[g4];have⟨D,V⟩:=tk j y g1;have⟨Y,hW⟩:=hp j y V;rw[hW]at A;have z:=(hC t (.inl ht) j Y A pU).2 D;rcases M t with⟨f1,_⟩|⟨k,q,k1,k2,k3,k4,k5,k6⟩
    exact jp A<|f1 j Y z;have hX:k=j:=by have a1:=k5 j Y z A;have hH:k<i:=(hC t (.inl ht) k k1 k4<|λe=>by subst e;rw[a5]at k2;cases k2).1 k2;have a2:=g3 k (zU l k,q) (by rw[xbK,iq hH];exact k3) k4;omega
    subst hX;rw[k3]at V;cases V;exact k6
    rw[A];simp only[List.find?_nil];rcases M t with⟨_,f2⟩|⟨k,q,k1,k2,k3,k4,k5,k6⟩
    exact f2;exfalso;have hH:k<i:=(hC t (.inl ht) k k1 k4<|λe=>by subst e;rw[a5]at k2;cases k2).1 k2;exact g1 k (zU l k,q) (by rw[xbK,iq hH];exact k3) k4
   have hJ:=zC.keep x.to s8;have hO:=c0 S w (ya a) (λk f=>s5 k<|xal x.size f) (yP.keep x.to (λm hm i hi=>x.block i (yP.lt s7 m hm i hi) jP) s7) hJ hV;have c1:jM N.n (zU l i).dst=wT:=by
    rw[xaT]at hd;refine hd _ ?_;have:zU l i=l[i]:=by simp[zU,hn]
    rw[this];exact xby _
   have next:∀v w',dB w w'->u.p S v w'->bv N.F 0 P .any l.toArray (zfG N Q) g (b.setIfInBounds i true) (a.put (zU l i).dst v) w':=by
    intro v w' x' hv;have hP:i<b.size:=pU
    refine ih _ _ w' ?_ (by simpa using hM) (by rw[cn];exact b1) (by rw[Va];exact b2) (x.trans x') (λk c2 f=> ?_) (λk f a6 e G hb=> ?_)<|λt=> ?_;have:=(AY hP hu<|xaC (X l)).2<|xbd.2 hn;omega;rw[Jp wT pU];exact hq k c2 f;by_cases hH:i=k;subst hH;exact aC<|hB e G hb;rw[Jp I hH]at a6;exact aC<|hA k f a6 e G hb;rw[WH<|by rw[b1];exact cr c1];by_cases hI:(zU l i).dst=Z t;right;refine⟨i,u,hT,by simp[hP],a4,hI,λj C z hG=> ?_,?_⟩;by_cases D:i=j;omega;rw[Jp I D]at z;have:=(hC t (.inr hI) j C hG pU).1 z;omega;rw[hI];simpa[put,L]using hv;have a7:put (ya a) (zU l i).dst v t=ya a t:=by
     cases c3:(zU l i).dst with
     |none=>rfl
     |some dd=>
      have hU:¬t=dd:=λe=>hI (by rw[c3,e]);have:R t dd=I:=YM hU;simp[put,L,this]
    rw[a7];rcases M t with⟨f1,f2⟩|⟨k,q,k1,k2,k3,k4,k5,k6⟩
    refine .inl ⟨λj C z=> ?_,f2⟩;by_cases D:i=j;subst D;exact hI;rw[Jp I D]at z;exact f1 j C z;refine .inr ⟨k,q,k1,aC k2,k3,k4,λj C z hG=> ?_,q.keep k6 x'⟩;by_cases D:i=j;subst D;exact jp hG hI;rw[Jp I D]at z;exact k5 j C z hG
   unfold wpOpIn;rw[YG hn];simp only[W0];cases hQ:yX l.toArray (ya a) (zU l i)
   simp only[xaj,Z5];exact⟨λ_ _=>jP,next undef w (yJ.refl _ _) (hO.2 hQ)⟩;simp only[Z4];exact(hO.1 hQ).wp λv w' a9=>next v w' a9.1 a9.2
 refine b9 l.toArray.size _ a0 _ ?_ rC b3 b4 (dB.drawn w0 _) (λi h' hi=>by simp[hi]) (λi hi U=> ?_)<|λt=> .inl ⟨λi hi U=> ?_,by rw[b5]⟩;exact xal (List.countP_le_length) rC
 have:i<(xdh l.toArray.size I).size:=by simpa using hi
 rw[<-c this]at U;simp[hi]at U;have hn:i<X l:=pU
 have:i<(xdh l.toArray.size I).size:=by simpa using hn
 rw[<-c this]at U;simp[hn]at U
 where
 c {b:Z3 ut}{i:K} (h:i<b.size):b.getD i wT=b.getD i I:=by simp[xbx,xdu h]
 first_un {m:K}{b:Z3 ut} (h:∃k,k<m/\b.getD k wT=I):∃k,k<m/\b.getD k wT=I/\∀j,j<k->b.getD j wT=wT:=by
  have⟨k,f,hu⟩:=h
  induction k using xdz with
  |_ k ih=>
   by_cases hh:∃j,j<k/\b.getD j wT=I;have⟨j,C,c4⟩:=hh;exact ih j C pU c4;refine⟨k,f,hu,λj C=> ?_⟩;cases hb:b.getD j wT
   exact jp ⟨j,C,hb⟩ hh;rfl
 count_ge (m:K):∀n,n-m<=(xaC n).countP (λk=> !decide (k<m))
  |0=>by simp
  |n+1=>by
   have:=count_ge m n;rw[xcT,List.countP_append];by_cases h:n<m;omega;simp[h];omega
 hK {d:ww Pr}{b:Z3 ut}{a:V6}{w:qR}{S:K->Prop}{l:ww Xs}{m:K}{i7:xj} (hD:∀i,i<m->∃u,((l.take m).zip d)[i]? =Z (zU l i,u)) (hp:∀i x,((l.take m).zip d)[i]? =Z x->i<m/\x.1=zU l i)
  (M:∀t,((∀i,i<m->b.getD i I=wT->(zU l i).dst≠Z t)/\ya a t=i7 t)\/
   ∃i u,i<m/\b.getD i I=wT/\((l.take m).zip d)[i]? =Z (zU l i,u)/\(zU l i).dst=Z t/\(∀J,J<m->b.getD J I=wT->(zU l J).dst=Z t->J<=i)/\u.p S (ya a t) w)
  (E:∀i,i<m->b.getD i I=wT) {t:Wf}:Xu (Kof ((l.take m).zip d) []) i7 (ya a) S w t:=by
  unfold Xu;rcases Aa t ((l.take m).zip d) []with⟨j,y,g1,A,g3,g4⟩|⟨g1,A⟩
  rw[g4];have⟨Y,hW⟩:=hp j y g1;rw[hW]at A;rcases M t with⟨f1,_⟩|⟨k,q,k1,k2,k3,k4,k5,k6⟩
  exact jp A<|f1 j Y<|E j Y;have hX:k=j:=by have a1:=k5 j Y (E j Y) A;have a2:=g3 k (zU l k,q) k3 k4;omega
  subst hX;rw[k3]at g1;cases g1;exact k6
  rw[A];simp only[List.find?_nil];rcases M t with⟨_,f2⟩|⟨k,q,k1,k2,k3,k4,k5,k6⟩
  exact f2;exact jp k4<|g1 k (zU l k,q) k3
end
end
section
def zfv{we:qR}{Se:K->Prop}{ms a:N MF}{Γ b:N FF}{R:qR->Prop}(c:∀w,St we Se ms Γ w->St we Se a b w)(k:∀w,St we Se a b w->R w):∀w,St we Se ms Γ w->R w:=
 λw h=>k w<|c w h
def zli{a b:K}:xcs.wrap ((a:J)+(b:J))=(((a+b)%18446744073709551616:K):J):=by rfl
def zkR{a b:K}:xcs.wrap ((a:J)*(b:J))=(((a*b)%18446744073709551616:K):J):=by rfl
def zk1{a b:K}(h:b<=18446744073709551616):xcs.wrap ((a:J)-(b:J))=(((a+18446744073709551616-b)%18446744073709551616:K):J):=by rw[Gw];lia
def zow{a:K}(h:a<18446744073709551616):xcs.wrap (0-(a:J))=(((18446744073709551616-a)%18446744073709551616:K):J):=by rw[Gw];lia
def zfw{a b:K}(h:a<18446744073709551616):xcs.wrap ((a:J).tdiv (b:J))=((a/b:K):J):=by exact sD<|xaI (xcD _ _) h
def zrX{a b:K}:(a:J).tmod (b:J)=((a%b:K):J):=(Int.ofNat_tmod a b).symm
section
variable{P:uS}{N:Nd}{we:qR}{Se:wL->Prop}{ms:ww MF}{Γ:ww FF}{Q:Qs}{H:xj}{ops:Z3 Xs}{rest:ww Xs}
 {d:wN Wf}{ty yt t:kW}{m7:String}{xS:Z3 Edge}{g:wN (wL×ut)}{x y:ul}
def Rq{a n cap:K}{b:V U8}(c:P.underlying t=Z (.slice a))(e:ev H x=.slice b n cap)(w:qR):
 (uP (ev H) ⟨d,.call ⟨.builtin .len,#[x],#[t]⟩,ty,m7,xS,g⟩).run P w=.ok (.value (.int .i64 (n:J))) w:=by
 simp[uP,WN,V1,UT,e,Builtin.len_,mS,Z0 c]
def NU{α:Type}{e:zT α}{E c:K}{v:wW}{xs:ww α}(i:K)(f:ms[i]? =Z (mO e E v xs))(a:P.underlying t=Z (.slice c))(b:ev H x=v):
 PJ P ⟨d,.call ⟨.builtin .len,#[x],#[t]⟩,ty,m7,xS,g⟩ H ms Γ (λ_:Wd=> .int .i64 (X xs:J)) (λ_=>[]) (λ_=>X xs<=9223372036854775807):=by
 intro w S _ h _;have⟨cs,h1,l⟩:=yP.get h f;rcases h1.2 with⟨rfl,h0⟩|⟨m,cap,j,rfl,hc,n,hd,k,_⟩
 refine ux.of_value (Rq a b w) ⟨(),by rw[h0],W,yJ.refl _ _,jP⟩;exact ux.of_value (Rq a b w) ⟨(),O,by unfold QR at k;lia,yJ.refl _ _,jP⟩
end
end
section
def zlU{P:uS}{f:XS}{fn:WT}{e:Z3 wW->Sem wW}{args:Z3 wW}{w:qR}{v:wW}(a:P.funcs[f]? =Z fn)(hn:(fn.name== "runtime.NumGoroutine")=I)(b:fn.body=wS)
 (h1:(xeP fn).isNone=wT) (c:xfb fn=Z e) (d:(e args).run P w=.ok v w):(mT f args).run P w=.ok (.value v) w:=by simp_all [mT]
section
variable{P:uS}{H:xj}{d:wN Wf}{ty:kW}{m7:String}{xS:Z3 Edge}{g:wN (wL×ut)}
def znh{f:XS}{fn:WT}{e:Z3 wW->Sem wW}{asv:N ul}{ts:Z3 kW}{args:N wW}{v:wW}(a:P.funcs[f]? =Z fn)(hn:(fn.name== "runtime.NumGoroutine")=I)(b:fn.body=wS)
 (h1:(xeP fn).isNone=wT) (c:xfb fn=Z e) (h:asv.map (ev H)=args) (i:∀w,(e args.toArray).run P w=.ok v w) (w:qR):
 (uP (ev H) ⟨d,.call ⟨.value (.func f),asv.toArray,ts⟩,ty,m7,xS,g⟩).run P w=.ok (.value v) w:=by
 have:=zlU (P:=P) (args:=args.toArray) (w:=w) a hn b h1 c<|i w;simp[uP,WN,ev,xcX,V1,h,this]
def zjD(s:String)(x y c:wW):∃z:String,xbJ s #[x,y,c]=(do
 let c:=(<-gC c).toNat
 if c>1 then unsupported (.noEntry z)
 pure ((<-gC x).toNat,(<-gC y).toNat,c)):=⟨_,O⟩
def IM(s:String){x y c:K}(hc:c<=1)(w:qR):(xbJ s #[.int .u64 (x:J),.int .u64 (y:J),.int .u64 (c:J)]).run P w=.ok (x,y,c) w:=by
 have:¬c>1:=W
 have⟨z,a⟩:=zjD s (.int .u64 x) (.int .u64 y) (.int .u64 c);rw[a];simp only[gC,Us,xay,xaV,xao,xba,this,Z5]
def zfi{x y c:K}(hc:c<=1)(w:qR):((do
 let(x,y,c)<-xbJ "Add64" #[.int .u64 (x:J),.int .u64 (y:J),.int .u64 (c:J)]
 pure (xcn ((x+y+c)%xbf)<|(x+y+c)/xbf):Sem wW)).run P w=
  .ok (.tuple #[.int .u64 (((x+y+c)%18446744073709551616:K):J),.int .u64 (((x+y+c)/18446744073709551616:K):J)]) w:=by
 rw[xay,IM _ hc];rfl
def zeO{x y c:K}(hc:c<=1)(w:qR):((do
 let(x,y,b)<-xbJ "Sub64" #[.int .u64 (x:J),.int .u64 (y:J),.int .u64 (c:J)]
 pure (xcn ((x+xbf-y-b)%xbf) (if x<y+b then 1 else 0)):Sem wW)).run P w=
  .ok (.tuple #[.int .u64 (((x+18446744073709551616-y-c)%18446744073709551616:K):J),.int .u64 ((if x<y+c then 1 else 0:K):J)]) w:=by
 rw[xay,IM _ hc];rfl
def zlu{f:XS}{fn:WT}{a b c:ul}{ts:Z3 kW}{x y z:K}(e:P.funcs[f]? =Z fn)(hn:(fn.name== "runtime.NumGoroutine")=I)(h:fn.body=wS)
 (h1:(xeP fn).isNone=wT) (i:xfb fn=Z (λargs=>do
  let(x,y,c)<-xbJ "Add64" args
  pure (xcn ((x+y+c)%xbf)<|(x+y+c)/xbf)))
 (j:ev H a=.int .u64 (x:J)) (hc:ev H b=.int .u64 (y:J)) (hd:ev H c=.int .u64 (z:J)) (k:z<=1) (w:qR):
 (uP (ev H) ⟨d,.call ⟨.value (.func f),#[a,b,c],ts⟩,ty,m7,xS,g⟩).run P w=
  .ok (.value (.tuple #[.int .u64 (((x+y+z)%18446744073709551616:K):J),.int .u64 (((x+y+z)/18446744073709551616:K):J)])) w:=
 znh e hn h h1 i (by simp[j,hc,hd]) (λw=>zfi k w) w
def zlp{f:XS}{fn:WT}{a b c:ul}{ts:Z3 kW}{x y z:K}(e:P.funcs[f]? =Z fn)(hn:(fn.name== "runtime.NumGoroutine")=I)(h:fn.body=wS)
 (h1:(xeP fn).isNone=wT) (i:xfb fn=Z (λargs=>do
  let(x,y,b)<-xbJ "Sub64" args
  pure (xcn ((x+xbf-y-b)%xbf) (if x<y+b then 1 else 0))))
 (j:ev H a=.int .u64 (x:J)) (hc:ev H b=.int .u64 (y:J)) (hd:ev H c=.int .u64 (z:J)) (k:z<=1) (w:qR):
 (uP (ev H) ⟨d,.call ⟨.value (.func f),#[a,b,c],ts⟩,ty,m7,xS,g⟩).run P w=
  .ok (.value (.tuple #[.int .u64 (((x+18446744073709551616-y-z)%18446744073709551616:K):J),.int .u64 ((if x<y+z then 1 else 0:K):J)])) w:=
 znh e hn h h1 i (by simp[j,hc,hd]) (λw=>zeO k w) w
end
def zlX(P:uS)(w:qR)(H:xj):V3->wW->Prop
 |.tmp t,v=>H t=v
 |.cell a t,v=>∃b,H a=.pointer (Z b)/\(lW t b).run P w=.ok v w
def iX(P:uS)(w:qR)(H:xj):N V3->N wW->Prop
 |[],[]=>Wr
 |r::rs,v::vs=>zlX P w H r v/\iX P w H rs vs
 |_,_=>UP
def P3(P:uS)(w:qR)(a:V6):∀(rs:N V3) (vs:N wW),iX P w (ya a) rs vs->(rs.mapM<|GA a.tmps).run P w=Result.ok vs w
 |[],[],_=>by simp
 |r::rs,v::vs,⟨h1,c⟩=>by
  have f:=P3 P w a rs vs c;have h:(GA a.tmps r).run P w=.ok v w:=by
   cases r with
   |tmp t=>simp only[zlX]at h1;simp[GA,<-h1,ya]
   |cell x t=>
    have⟨d,e1,e⟩:=h1;have b:a.tmps.getD x Z9=.pointer (Z d):=e1;simp only[GA,b,xay,asAddr,xaV,xao,e]
  simp_all
 |[],_::_,h=>h.elim
 |_::_,[],h=>h.elim
def Zg:N wW->wW
 |[v]=>v
 |vs=> .tuple vs.toArray
def Zh{P:uS}{fn:WT}{rs:N V3}{vs:N wW}{w:qR}{a:V6}(b:fn.results=rs.toArray)(h:iX P w (ya a) rs vs):(V4 fn a.tmps).run P w=.ok (Zg vs) w:=by
 have e:V4 fn a.tmps=(do let vs<-fn.results.mapM (GA a.tmps);pure (if h:vs.size=1 then vs[0]else .tuple vs)):=by rfl
 rw[e,b,Array.mapM_eq_mapM_toList];have:=P3 P w a rs vs h;simp only[xay,Sem.run_map,this]
 match vs with
 |[]=>simp[Zg]
 |[v]=>simp[Zg]
 |v::u::r=>simp[Zg]
section
variable{P:uS}{we:qR}{Se:wL->Prop}{ms:ww MF}{Γ:ww FF}{H:xj}{U:Type}{wt:U->wW}{ws:U->ww FF}{ok:U->Prop}{fn:WT}
def zjA{α:Type}{e:zT α}{E b:K}{z:α}{w:qR}{bytes:K}{d:wW}{R:Prop}{a:Wf}(i:K)(g:St we Se ms Γ w)(h:ms[i]? =Z (mB e.c E b z))(j:H a=.pointer (Z ⟨b,0,wS⟩))
 (ht:J9 P E e.agg e.n bytes d) (k:∀v,St we Se ms (fV e z v::Γ) w->zlX P w H (.cell a E) v->R):R:=by
 have⟨h1,l,m,S,o,p,q,f,r⟩:=g;have⟨cs,s,hp⟩:=yP.get f h;have hc:=At.row s;exact k (e.val cs.toList) ⟨h1,l,m,S,o,p,q,f,⟨cs.toList,O,hp⟩,r⟩ ⟨_,j,gV ht hp hc⟩
end
def FnG{U:Type}(P:uS)(f:XS)(args:Z3 wW)(ms:N MF)(Γ:N FF)(wt:U->wW)(own:U->N MF)(a:U->N FF)(ok:U->Prop):Prop:=
 ∀we Se F G w,St we Se (ms++F) (Γ++G) w->aM P f args w (λe w'=>∃u,e=.returned (wt u)/\ok u/\St we Se (own u++F) (a u++G) w')
section
variable{P:uS}{N:Nd}{we:qR}{Se:wL->Prop}{ms F:ww MF}{Γ G:ww FF}{Q:Qs}{H:xj}{U:Type}{wt:U->wW}{own:U->ww MF}{ws:U->ww FF}{ok:U->Prop}{fn:WT}
 {ops:Z3 Xs}{rest:ww Xs}{d:wN Wf}{ty:kW}{m7:String}{xS:Z3 Edge}{g:wN (wL×ut)}
def FnG.plain{f:XS}{args:Z3 wW}(h:FnG P f args [] Γ wt (λ_=>[]) ws ok):Fn P f args Γ wt ws ok:=by intro w Se b a;refine(h w Se [] [] w<|St.nil (by simpa using a) b).mono ?_;rintro e w' ⟨u,h1,c,i⟩;have:=i.out (λS w h=>by simpa using h);exact⟨u,h1,c,this.1,this.2⟩
def FnG.frozen{f:XS}{args:Z3 wW}{Δ:U->ww FF}(h:FnG P f args [] Γ wt own ws ok)
 (b:∀(u:U) (w':qR) (we:qR) (Se:K->Prop),St we Se (own u) (ws u) w'->St we Se [] (Δ u) w'):Fn P f args Γ wt Δ ok:=by
 intro w Se c a;refine(h w Se [] [] w<|St.nil (by simpa using a) c).mono ?_;rintro e w' ⟨u,h1,i,j⟩;have:=(b u w' w Se<|by simpa using j).out<|λS w h=>h;exact⟨u,h1,i,this.1,this.2⟩
end
def Tz:∀{ms:N MF}{i:K}{m:MF},Jm ms->ms[i]? =Z m->Jm (m::ms.eraseIdx i):=by intro ms i m h e;refine⟨λk b m' a hc=> ?_,?_⟩;rw[List.mem_eraseIdx_iff_getElem?]at a;have⟨j,c,d⟩:=a;exact gU h e k b j m' c d hc;exact af i h
def St.front{we:qR}{Se:K->Prop}{ms:N MF}{Γ:N FF}{w:qR}{m:MF}(i:K)(h:St we Se ms Γ w)(hi:ms[i]? =Z m):St we Se (m::ms.eraseIdx i) Γ w:=by
 have⟨h1,b,c,S,d,e,f,a,g⟩:=h;refine⟨h1,b,Tz c hi,S,d,e,λm' hm'=> ?_,⟨yP.get a hi,dG i a⟩,g⟩;obtain rfl|hm':=xai.1 hm'
 grind;exact f m'<|xdI hm'
def zjH{m:K}(h:m<=9223372036854775807):xdb.wrap (m:J)=(m:J):=w64 W
def TR{P:uS}{w:qR}(t r ty e:kW)(i:ol)(z:wW)(size bytes:K){ik:Wl}(ht:P.underlying t=Z (.slice e))(hl:P.underlying r=Z (.int ik))(hi:P.info? e=Z i)(s:i.zero=Z z)
 (M:i.size=size) (Q:i.bytes=bytes) (D:z.cells.size=size) (R:∀u∈z.cells.toList,u.oneCell'=wT) (x:0<size)
 (v:wW) (n:K) (xs:N wW) (f:w.ownsRow 0 e size v n xs) (m:K)
 (E:n+m<=QR) (hd:(n+m)*bytes<=140737488355328):
 ∃y w',(xcb #[t,r] ty #[v,.int .i64 (m:J)]).run P w=.ok y w'/\w'.ownsRow 0 e size y (n+m) (xs++(xbs z.cells m).toList)/\w.grownBy w' v.ownBlock/\
  ∀k,y.ownBlock=Z k->v.ownBlock=Z k\/w.heap.size<=k:=by
 subst M;subst Q;have hK:n+m<=9223372036854775807:=by simp only[QR]at E;lia
 have F:(xbs z.cells m).toList.length=m*i.size:=by simp[fN,D]
 have o:X (xs++(xbs z.cells m).toList)=(n+m)*i.size:=by rw[xau,f.1,F,xbk]
 have A:=zjH (m:=m) W;have hn:¬((m:J)<0):=W
 have S:¬((m:J)*(i.bytes:J)>281474976710656):=by
  have h1:m*i.bytes<=(n+m)*i.bytes:=xac _ W;have:((m*i.bytes:K):J)<=140737488355328:=W
  rw[Int.natCast_mul]at this;lia
 have hp:¬(281474976710656<(m:J)*(i.bytes:J)):=S
 have a:∀(old:K),old<n+m->∀(h:V K),
  (w.drew.alloc (.cells (xs.toArray++xbs z.cells m++xbs z.cells (dL w (n+m) old e-(n+m))) e)).ownsRow 0 e i.size
   (.slice (Z ⟨w.heap.size,0,wS⟩) (n+m)<|dL w (n+m) old e) (n+m) (xs++(xbs z.cells m).toList)/\
  w.grownBy (w.drew.alloc (.cells (xs.toArray++xbs z.cells m++xbs z.cells (dL w (n+m) old e-(n+m))) e)) h:=by
  intro old ho h;have T:=grownCap_ge w (n+m) old e;have B:dL w (n+m) old e<=QR:=grownCap_le_maxLen w (n+m) old e E;refine⟨⟨o,.inr ⟨w.heap.size,_,_,O,xaf _,V2 w.drew _,T,B,?_,?_⟩⟩,⟨O,O,O,rC,λk b _=>RowKit.Below.heap_alloc w.drew _ k b⟩⟩;simp only[Array.size_append,List.size_toArray,fN,D,f.1,<-xbk];congr 1;lia;simp only[Array.toList_append,xar];rw[<-xar,<-o];exact List.take_left
 rcases f.2 with⟨rfl,rfl⟩|⟨g,cap,c,rfl,U,G,Y,B,hR,hE⟩
 have hx:xs=[]:=xbq (by simpa using f.1);subst hx;by_cases d:m=0
 subst d;refine⟨.slice wS 0 0,w,?_,by simpa[xbs]using World.ownsRow_nil w 0 e i.size,⟨O,O,O,Nm _,λ_ _ _=>O⟩,λk b=> .inl b⟩;have e0:xdb.wrap 0=0:=rx
 simp[xcb,Z0 ht,Z0 hl,V9,JP,hi,gC,Us,e0];have C:¬(9223372036854775807<(m:J)):=W
 have p:=ge (old:=0) (need:=0+m) (bytes:=i.bytes) W hd;have hv:¬(281474976710656<Builtin.nextslicecap m 0*i.bytes):=by simp only[xaD]at p;lia
 have l:=a 0 W<|Value.ownBlock (.slice wS 0 0);refine⟨_,_,?_,l.1,l.2,λk b=> .inr<|by cases b;exact Nm _⟩;simp[xcb,Z0 ht,Z0 hl,V9,JP,eL,hi,s,gC,Us,A,d,C,hv,hn,hp,Question.forced,run_firstCells_none,eM,dL];intro h0;have:0<m*i.size:=xdr W x;lia;by_cases hc:n+m<=cap;have p:n*i.size+(xbs z.cells m).toList.length<=c.size:=by rw[F,hR,<-xbk];exact xac _ hc
 have h1:∀u∈(xbs z.cells m).toList,u.oneCell'=wT:=by intro u H;simp only[xbs,Array.toList_map,xat]at H;obtain⟨j,hj,rfl⟩:=H;have L:j%z.cells.size<z.cells.size:=xaP _ W;rw[getElem!_pos z.cells _ L];exact R _<|xdM.2<|Array.getElem_mem L
 have q:=bI P g (n*i.size) e (xbs z.cells m).toList 0 c w G (by simpa using p) h1;simp only[xbT]at q
 have hr:(xcb #[t,r] ty #[.slice (Z ⟨g,0,wS⟩) n cap,.int .i64 (m:J)]).run P w=
  .ok (.slice (Z ⟨g,0,wS⟩) (n+m) cap) (w.setRow g (c.toList.take (n*i.size)++(xbs z.cells m).toList++c.toList.drop (n*i.size+(xbs z.cells m).toList.length)).toArray):=by
  by_cases d:m=0
  subst d;have e0:xdb.wrap 0=0:=rx
  have ez:(xbs z.cells 0)= #[]:=by simp[xbs]
  rw[ez]at q⊢;simp[xcb,Z0 ht,Z0 hl,V9,JP,hi,gC,Us,e0,Y,Addr.add_lit,q];have hS:¬(m=0\/i.size=0):=W
  simp[xcb,Z0 ht,Z0 hl,V9,JP,eL,hi,s,gC,Us,A,hn,hp,hc,hS,Addr.add_lit,q];intro h0;have:0<m*i.size:=xdr W x;lia
 refine⟨_,_,hr,⟨o,.inr ⟨g,cap,_,O,U,lI w g c _ e _ G,hc,B,?_,?_⟩⟩,⟨O,O,O,rC,λk _ b=>setRow_other w g k _<|λe=>b<|by simp[Value.ownBlock,e]⟩,λk b=> .inl b⟩;simp only[List.size_toArray,xau,xas,xch,xeZ]at p⊢;lia;rw[hE,<-o];exact List.take_left;have hF:∀j u,xs[j]? =Z u->w.cell? ((⟨g,0,wS⟩:U8).add j)=Z u:=f.cells (g:=g) O;have C:¬(9223372036854775807<(n:J)+(m:J)):=W
 have hv:¬(281474976710656<Builtin.nextslicecap (n+m) cap*i.bytes):=by have:=ge (old:=cap) (need:=n+m) (bytes:=i.bytes) W hd;lia
 have l:=a cap W<|Value.ownBlock (.slice (Z ⟨g,0,wS⟩) n cap);have hT:=run_firstCells_some (P:=P) w.drew i.size n ⟨g,0,wS⟩ n cap xs f.1 (by simpa using hF);refine⟨_,_,?_,l.1,l.2,λk b=> .inr<|by cases b;exact Nm _⟩;by_cases d:m=0
 subst d;lia
 simp[xcb,Z0 ht,Z0 hl,V9,JP,eL,hi,s,gC,Us,A,d,C,hv,hn,hp,hc,Question.forced,hT,eM,dL];intro h0;have:0<m*i.size:=xdr W x;lia
def tQ{z:Z3 wW}{m:K}(a:z.size=m)(n:K):(xbs z n).toList=(So n z.toList).flatten:=by
 apply xcv;intro j;by_cases b:j<n*m
 ·have c:0<m:=xcP λh0=>by rw[h0]at b;simp at b
  have e1:(xbs z n).toList[j]? =z.toList[j%m]? :=by
   have:=xaP j c;simp[xbs,a,b,this]
  rw[e1,zdb.flatten_get z.toList m (by simpa using a) c n j b];all_goals exact 0
 ·rw[xbh (by simp[fN,a];lia),xbh<|by simp[a];lia]
section
variable{P:uS}{N:Nd}{we:qR}{Se:wL->Prop}{ms ms':ww MF}{Γ Γ':ww FF}{Q:Qs}{H:xj}{ops:Z3 Xs}{rest:ww Xs}
 {d:wN Wf}{ty yt t ti:kW}{m7:String}{xS:Z3 Edge}{g:wN (wL×ut)}{x y:ul}
def zbb{α:Type}{e:zT α}{f:kW}{xs:ww α}{z:α}{n:K}{v:wW}{bytes:K}{a:wW}{ik:Wl}(i:K)(ht:P.underlying t=Z (.slice f))(D:P.underlying ti=Z (.int ik))(hv:J9 P f e.agg e.n bytes a)(hd:a.cells.size=e.n)(hn:0<e.n)
 (o:ms[i]? =Z (mO e f v xs)) (E:ev H x=v) (F:ev H y=.int .i64 (n:J)) (q:∀(S:K->Prop) (w:qR),e.p S z a.cells.toList w)
 (hF:X xs+n<=9223372036854775807) (G:(X xs+n)*bytes<=140737488355328):OG P ⟨d,.call ⟨.builtin .append,#[x,y],#[t,ti]⟩,ty,m7,xS,g⟩ H we Se ms Γ (λc=>c) (λc=>(ms.set i<|mO e f c<|xs++So n z)) (λ_=>Γ) (λ_=>Wr):=by
 intro w r;have⟨S,_,⟨cs,l,he⟩,h8,_⟩:=r.mut o;have⟨L,hi,i1,i2,M⟩:=hv.info;have⟨c,w',R,hl,b,T⟩:=TR (P:=P) t ti ty f L a e.n bytes ht D hi M i1 i2 hd (e.one<|q S w) hn v (X xs) cs l n (by unfold QR;lia) G;refine ux.of_value (w':=w') (v:=c) ?_ ⟨c,O,jP,r.grow o ⟨b.os,b.tape,b.output,b.size,λj U m=>b.block j U<|λe=>m e.symm⟩ T ?_⟩;simp only[uP,WN,V1,UT,xdZ,xbP,xdR,E,F,xay,R,xaV,xao];intro S V ⟨h,hp,Y⟩ a0;have hB:h=cs:=by
  rcases l.2 with⟨rfl,h0⟩|⟨g,cap,a3,rfl,_,hC,_,_,_,hD⟩
  have s:=l.1;have u:=hp.1;rw[h0]at s u;have c1:cs=[]:=xbq (by simpa using s);have c2:h=[]:=xbq (by simpa using u);rw[c1,c2];rcases hp.2 with⟨hc,_⟩|⟨g',A,B,hE,_,C,_,_,_,hq⟩
  cases hc
  cases hE;rw[hC]at C;cases C;rw[<-hD,<-hq]
 subst hB;have kk:yJ S w w':=⟨b.os,b.tape,b.output,b.size,λk hk m=>b.block k hk<|λe=>V k m e.symm⟩;rw[tQ hd]at hl;exact⟨_,by rw[xau,xaN];exact hl,(Y.keep kk).append<|yQ.replicate (q _ _) n⟩
end
def zC.left{S:K->Prop}{w:qR}:∀{Γ Δ:N FF},zC S (Γ++Δ) w->zC S Γ w
 |[],_,_=>trivial
 |_::_,_,h=>⟨h.1,zC.left h.2⟩
def zC.right{S:K->Prop}{w:qR}:∀{Γ Δ:N FF},zC S (Γ++Δ) w->zC S Δ w
 |[],_,h=>h
 |_::_,_,h=>zC.right h.2
def Fn.ok_mono{U:Type}{P:uS}{f:XS}{args:Z3 wW}{Γ:N FF}{wt:U->wW}{g:U->N FF}{ok d:U->Prop}(h:Fn P f args Γ wt g ok)(i:∀u,ok u->d u):Fn P f args Γ wt g d:=
 λw Se h1 j=>(h w Se h1 j).mono λe w' ⟨u,a,b,c⟩=>⟨u,a,i u b,c⟩
end
section
def rowT{α:Type}(e:zT α)(cap:K):BO (N α)where
 p S xs cs w:=∃c post,cs=c++post/\yQ e S xs c w/\X cs=cap*e.n
 keep:=λ⟨c,post,h1,a,b⟩ k=>⟨c,post,h1,a.keep k,b⟩
 sub:=λ⟨c,post,h1,a,b⟩ k=>⟨c,post,h1,a.sub k,b⟩
def Sub.rowT{α:Type}(e:zT α)(cap:K)(xs:N α)(i:K)(x:α)(j:xs[i]? =Z x):Sub (rowT e cap) xs (i*e.n) e x (λy=>xs.set i y):=by rintro S w cs ⟨c0,a,rfl,k,hl⟩;obtain⟨d,c,b,rfl,l,f,m⟩:=Sub.row e xs i x j S w c0 k;refine⟨d,c,b++a,rC,l,f,λw' y g o h=>⟨d++g++b,a,rC,m w' y g o h,?_⟩⟩;have e1:=e.len f;have p:=e.len h;simp_all
def Sub.rowT0{α:Type}(e:zT α)(cap:K)(xs:N α)(i:K)(x:α)(a:xs[i]? =Z x):Sub (Go.Proofs.YtoegnnjcmlghhaaGreat.rowT e cap) xs (0+i*e.n) e x (λy=>xs.set i y):=by rw[xaD];exact Sub.rowT e cap xs i x a
section
variable{we:qR}{Se:wL->Prop}{ms:ww MF}{Γ:ww FF}{w:qR}{α:Type}{e:zT α}{E:kW}{xs:ww α}
theorem wE{i:K}{m:MF}(h:St we Se ms Γ w)(hi:ms[i]? =Z m){p:Prop}(hp:∀S:K->Prop,m.p S w->p):p:=by grind [St.muts]
def St.openO{v:wW}(i:K)(h:St we Se ms Γ w)(c:ms[i]? =Z (mO e E v xs))(hi:0<X xs):
 ∃g cap,v=.slice (Z ⟨g,0,wS⟩) (X xs) cap/\X xs<=cap/\cap<=9223372036854775807/\St we Se (ms.set i<|mB (rowT e cap) E g xs) Γ w:=by
 have:∃g cap,v=.slice (Z ⟨g,0,wS⟩) (X xs) cap/\X xs<=cap/\cap<=9223372036854775807:=wE h c λS ⟨cs,h1,b⟩=>by
  rcases h1.2 with⟨rfl,h0⟩|⟨g,cap,a,rfl,l,d,f,hc,hd,j⟩
  lia;exact⟨g,cap,O,f,hc⟩
 obtain⟨g,cap,rfl,h1,b⟩:=this;refine⟨g,cap,O,h1,b,h.conv c O λS ⟨cs,h1,b⟩=> ?_⟩;rcases h1.2 with⟨h0,_⟩|⟨m,k,a,hv,l,d,f,hc,hd,j⟩
 cases h0
 cases hv;refine⟨a,d,cs,a.toList.drop<|X xs*e.n,?_,b,by simpa using hd⟩;rw[<-j,xbG]
theorem St.closeO{g cap:K}(i n:K)(h:St we Se ms Γ w)(d:ms[i]? =Z (mB (rowT e cap) E g xs))(hn:n<=X xs)(hc:n<=cap)(k:cap<=9223372036854775807):
 St we Se (ms.set i<|mO e E (.slice (Z ⟨g,0,wS⟩) n cap)<|xs.take n) Γ w:=by
 refine h.conv d O λS ⟨cs,f,c,a,h1,b,j⟩=>⟨c.take<|n*e.n,?_,b.take n⟩;have hl:X (xs.take n)=n:=by simp;lia
 have hd:=b.len;have l:n*e.n<=X xs*e.n:=xac _ hn;rw[hl];refine⟨by simp;lia,.inr ⟨g,cap,cs,O,xaf _,f,hc,by unfold QR;lia,by simpa using j,?_⟩⟩;grind
def St.closeF{g cap:K}(i:K)(h:St we Se ms Γ w)(a:ms[i]? =Z (mB (rowT e cap) E g xs))(hc:X xs<=cap)(b:cap<=9223372036854775807):
 St we Se (ms.set i<|mO e E (.slice (Z ⟨g,0,wS⟩) (X xs) cap) xs) Γ w:=by
 have:=h.closeO i (X xs) a (Nm _) hc b;simp_all
def St.rowRT{b n:K}(i:K)(h:St we Se ms Γ w)(c:ms[i]? =Z (mR e E b xs))(hn:n=X xs):St we Se (ms.set i<|mB (rowT e n) E b xs) Γ w:=
 h.conv c O λS ⟨cs,d,a⟩=>⟨cs,d,cs.toList,[],rC,a,by rw[hn];exact yQ.len a⟩
end
section
variable{P:uS}{N:Nd}{we:qR}{Se:wL->Prop}{ms:ww MF}{Γ:ww FF}{Q:Qs}{H:xj}{ops:Z3 Xs}{rest:ww Xs}
 {d:wN Wf}{ty yt t t':kW}{m7:String}{xS:Z3 Edge}{g:wN (wL×ut)}{x y:ul}
def RZ{e:kW}{ag:ut}{c bytes:K}{a:wW}{b o n cap l h:K}{lo hi:V wW}{w:qR}(ht:P.underlying t=Z (.slice e))(hd:J9 P e ag c bytes a)
 (hl:lo=Z (.int .i64 (l:J))\/(lo=wS/\l=0)) (f:hi=Z (.int .i64 (h:J))\/(hi=wS/\h=n)) (j:l<=h) (k:h<=cap) (m:l<cap\/l=0):
 (xcW t (.slice (Z ⟨b,o,wS⟩) n cap) lo hi wS).run P w=.ok (.slice (Z ⟨b,o+l*c,wS⟩) (h-l)<|cap-l) w:=by
 have b1:(0:J)<=(l:J)/\(l:J)<=(h:J):=W
 have b2:(0:J)<=(h:J)/\(h:J)<=(cap:J):=W
 have i:(xcW t (.slice (Z ⟨b,o,wS⟩) n cap) lo hi wS).run P w=.ok (.slice (if cap=l then Z ⟨b,o,wS⟩else(Z (⟨b,o,wS⟩:U8)).map (·.add (l*c))) (h-l)<|cap-l) w:=by
  unfold xcW;simp only[xay,Z0 ht,xao];unfold xfS;simp only[xay,Z0 ht,xao];unfold xet
  obtain rfl|⟨rfl,rfl⟩:=hl<;>obtain rfl|⟨rfl,rfl⟩:=f<;>
   simp only[xeH,Us,xay,xaV,xao,iq b1,iq b2,wv hd,xba]
 rw[i];by_cases hc:cap=l;simp_all;simp[hc,jl]
def Tj{c:kW}{ag:ut}{e bytes:K}{a:wW}{b o n cap h:K}{hi:ul}(f:ev H x=.slice (Z ⟨b,o,wS⟩) n cap)(ht:P.underlying t=Z (.slice c))(i:J9 P c ag e bytes a)
 (j:ev H hi=.int .i64 (h:J)) (hc:h<=cap) (w:qR):(uP (ev H) ⟨d,.slice t x wS (Z hi) wS,ty,m7,xS,g⟩).run P w=.ok (.value (.slice (Z ⟨b,o,wS⟩) h cap)) w:=by
 have:=RZ (b:=b) (o:=o) (n:=n) (w:=w) ht i (.inr ⟨O,O⟩) (.inl O) (xaf _) hc (.inr O);simp[uP,f,j,this]
theorem zhY{α:Type}{e:zT α}{a:kW}{bytes:K}{b:wW}(ht:P.underlying t=Z (.slice a))(c:J9 P a e.agg e.n bytes b):OG P ⟨d,.buildSlice t 0 #[],ty,m7,xS,g⟩ H we Se ms Γ (λv=>v) (λv=>(mO e a v []::ms)) (λ_=>Γ) (λ_=>Wr):=by
 intro w hc;have f:(xeI t 0 #[]).run P w=.ok (.slice (Z ⟨w.heap.size,0,wS⟩) 0 0) (w.alloc (.cells #[] a)):=by unfold xeI;simp only[xay,Z0 ht,xao,wv c,eM];simp[xdJ];grind
 refine ux.of_value (w':=w.alloc (.cells #[] a)) (v:=.slice (Z ⟨w.heap.size,0,wS⟩) 0 0) ?_ ⟨_,O,jP,hc.fresh (dB.alloc w _) O rC λS _ _=>⟨[],?_,O⟩⟩;simp[uP,f];exact⟨rC,.inr ⟨w.heap.size,0,#[],O,xaf _,V2 w _,Nm _,xaf _,rC,rC⟩⟩
def zji{α:Type}{e:zT α}{b:kW}{bytes:K}{a:wW}(c:yX ops H ⟨d,.buildSlice t 0 #[],ty,m7,xS,g⟩=wT)(hd:jM N.n d=wT)
 (ht:P.underlying t=Z (.slice b)) (f:J9 P b e.agg e.n bytes a)
 (k:∀v,TL P N we Se (mO e b v []::ms) Γ ops rest Q<|put H d v):TL P N we Se ms Γ ops (⟨d,.buildSlice t 0 #[],ty,m7,xS,g⟩::rest) Q H:=
 znW c hd (zhY ht f) λv _=>k v
section
variable{P:uS}{H:xj}{d:wN Wf}{ty t:kW}{m7:String}{xS:Z3 Edge}{g:wN (wL×ut)}{x y c:ul}{w:qR}{S:wL->Prop}{v:wW}
def ztY{f:Go.Fn}{xs:ww ul}{vs:ww wW}(h:xs.map (ev H)=vs)(w:qR):(uP (ev H) ⟨d,.makeFunc f #[] xs.toArray,ty,m7,xS,g⟩).run P w=.ok (.value (.func f #[] vs.toArray)) w:=
 lY (by simp[pv,h]) w
end
def HJ(w:qR)(k p ty b:kW)(g o dLen dCap:K)(a:U8)(e f:K)(c:Z3 wW)(t:kW)(cs:ww wW){n m:K}
 (q:P.underlying k=Z (.slice b)) (l:(P.info? b).map (·.size)=Z n) (r:Nat.min e dLen=m)
 (s:w.heap[g]? =Z (.cells c t (0,0))) (hn:X cs=m*n)
 (u:∀j v,cs[j]? =Z v->w.cell? (a.add j)=Z v) (hc:o+X cs<=c.size) (h1:∀v∈cs,v.oneCell'=wT):
 (xfP #[k,p] ty #[.slice (Z ⟨g,o,wS⟩) dLen dCap,.slice (Z a) e f]).run P w=
  .ok (mS m) (w.setRow g (c.toList.take o++cs++c.toList.drop (o+X cs)).toArray):=by
 have hl:=bi (P:=P) w a cs u;have hd:=bI P g o t cs 0 c w s (by simpa using hc) h1
 cases h:P.info? b with
 |none=>simp[h]at l
 |some i=>
  have hi:i.size=n:=by simpa[h]using l
  simp[xfP,Z0 q,xfO,xeN,V9,JP,h,hi,r,<-hn,hl,hd]
def KK(w:qR)(f j ty b:kW)(d a:V U8)(dLen dCap c e:K)(k:P.underlying f=Z (.slice b)){n:K}(l:(P.info? b).map (·.size)=Z n)(hn:Nat.min c dLen=0):
 (xfP #[f,j] ty #[.slice d dLen dCap,.slice a c e]).run P w=.ok (mS 0) w:=by
 cases h:P.info? b with
 |none=>simp[h]at l
 |some i=>
  have hl:=λx=>by simpa using bi (P:=P) w x [] rC
  cases d<;>cases a<;>simp[xfP,Z0 k,xfO,xeN,V9,JP,h,hn,storeCells,hl]
def TS{α:Type}{e:zT α}{r E b l dLen dCap cap bytes:K}{s u:wW}{xs ys:ww α}(i:K)(ht:P.underlying t=Z (.slice r))(hJ:J9 P r e.agg e.n bytes s)(A:ms[i]? =Z (mB (rowT e cap) E b xs))(hx:ev H x=.slice (Z ⟨b,0+l*e.n,wS⟩) dLen dCap)(hy:ev H y=u)
 (hl:l+dLen<=X xs) (T:∀(S:K->Prop) (w:qR),zC S Γ w->(fV (eS e) ys u).p S w):OG P ⟨d,.call ⟨.builtin .copy,#[x,y],#[t,t']⟩,ty,m7,xS,g⟩ H we Se ms Γ (λn:J=>(.int .i64 n)) (λn=>(ms.set i<|mB (rowT e cap) E b<|xs.take l++ys.take (min (X ys) dLen)++xs.drop (l+min (X ys) dLen))) (λ_=>Γ) (λ_=>Wr):=by
 intro w hn;have⟨S0,⟨c,B,c0,h,hz,hA,hK⟩,hT,hL⟩:=hn.muts A;have⟨ao,f,C,h1,h2,D⟩:=wg.1<|T S0 w hL;have⟨ti,hi,i1,i2,i3⟩:=hJ.info;have U:(P.info? r).map (·.size)=Z e.n:=by rw[hi];simp[i1]
 have V:∀v w',(xfP #[t,t'] ty #[.slice (Z ⟨b,0+l*e.n,wS⟩) dLen dCap,u]).run P w=.ok v w'->
  (uP (ev H) ⟨d,.call ⟨.builtin .copy,#[x,y],#[t,t']⟩,ty,m7,xS,g⟩).run P w=.ok (.value v) w':=λv w' o=>by
  simp only[uP,WN,V1,UT,xdZ,xbP,xdR,hx,hy,xay,o,xaV,xao]
 have⟨m,z⟩:∃m,min (X ys) dLen=m:=⟨_,O⟩;have Y:Nat.min (X ys) dLen=m:=z;have hU:m<=dLen:=by rw[<-z];exact Nat.min_le_right _ _
 have hc:m<=X ys:=by rw[<-z];exact Nat.min_le_left _ _
 have e1:(l+m)*e.n=l*e.n+m*e.n:=xbk _ _ _;have F:l*e.n+m*e.n<=X xs*e.n:=by rw[<-e1];exact xac _ W
 have e3:m*e.n<=X ys*e.n:=xac _ hc;have hV:X c0=X xs*e.n:=hA.len;rw[z];by_cases h0:m=0
 have o:=KK (P:=P) w t t' ty r (Z ⟨b,0+l*e.n,wS⟩) ao dLen dCap (X ys) f ht U<|Y.trans h0;rw[<-C]at o;refine ux.of_value (V _ _ o) ⟨_,O,jP,?_⟩;rw[h0];simp only[xbT,List.take_zero,xbo,xbG];have:ms.set i (mB (rowT e cap) E b xs)=ms:=by have⟨hW,hM⟩:=xaz.1 A;rw[<-hM,xde]
 rw[this];exact hn;obtain D|⟨sb,so,cs,rfl,hX,ha,hp⟩:=D
 rw[D]at hc;simp at hc;lia;have hN:X cs=X ys*e.n:=hp.len;have hE:X (cs.take<|m*e.n)=m*e.n:=by rw[xas,hN];lia
 have e4:X c.toList=X c0+X h:=by rw[hz,xau]
 have hF:0+l*e.n+X (cs.take<|m*e.n)<=c.size:=by simp only[xeZ]at e4;lia
 have o:=HJ (P:=P) w t t' ty r b (0+l*e.n) dLen dCap ⟨sb,so,wS⟩ (X ys) f c E (cs.take<|m*e.n) ht U Y B hE
  (λj v hv=>by rw[jl];exact(ha.take _).2 j v hv) hF (λv hv=>hp.one v<|xes hv)
 rw[<-C]at o;refine ux.of_value (V _ _ o) ⟨_,O,jP,hn.write A O O (J1 w b _) ?_⟩;rintro S hS ⟨a0,hG,c1,q,hH,hd,hq⟩ h8;rw[B]at hG;cases hG;have⟨a1,G,hI,_,_,L⟩:=wg.1<|T S w h8;rw[C]at hI;cases hI;obtain L|⟨a2,a3,a,hO,hY,hP,hg⟩:=L
 rw[L]at hc;simp at hc;lia
 cases hO;have hQ:a=cs:=by
  have hR:X a=X cs:=by rw[hg.len,hp.len]
  apply xcv;intro j;by_cases M:j<X cs;have e1:=ha.2 j cs[j] (by simp[M]);have F:=hP.2 j a[j] (by simp[hR,M]);rw[e1]at F;rw[xaa M,xaa (by lia:j<X a),F];rw[xbh (l:=cs) W,xbh (l:=a) W]
 subst hQ;have hZ:X c1=X xs*e.n:=hd.len;have R:yJ S w (w.setRow b (c.toList.take (0+l*e.n)++a.take (m*e.n)++c.toList.drop (0+l*e.n+X (a.take<|m*e.n))).toArray):=(J1 w b _).weak λk _ hk=>hS k hk;refine⟨_,lI w b c _ E (0,0) B,c1.take (l*e.n)++a.take (m*e.n)++c1.drop ((l+m)*e.n),q,?_,?_,?_⟩;rw[hE,xaD,e1,hH,List.take_append_of_le_length W,List.drop_append_of_le_length W];simp[xar];exact(((hd.keep R).take l).append<|(hg.keep R).take m).append<|(hd.keep R).drop<|l+m;rw[<-hq];simp only[xau,xas,xch];lia
end
end
section
section
variable{P:uS}{H:xj}{ms:ww MF}{Γ:ww FF}{d:wN Wf}{ty t yt:kW}{m7:String}{xS:Z3 Edge}{g:wN (wL×ut)}{x y:ul}
def Hs{t E:kW}{a:V U8}{n c:K}(ht:P.underlying t=Z (.slice E))(w:qR):(Op.equal t (.slice a n c) (.slice wS 0 0)).run P w=.ok a.isNone w:=by show(Op.equalIn (9999+1) t (.slice a n c) (.slice wS 0 0)).run P w=_;unfold Op.equalIn;cases a<;>simp only[xay,Z0 ht,xao,xaV,Option.isNone_some]
def zlP{α:Type}{e:zT α}{xs:N α}{v:wW}{E:kW}(ht:P.underlying t=Z (.slice E))(f:ev H x=v)(h:ev H y=.slice wS 0 0)(i:∀(S:K->Prop) (w:qR),zC S Γ w->(fV (eS e) xs v).p S w):
 PJ P ⟨d,.binOp .eql t x y yt,ty,m7,xS,g⟩ H ms Γ (λu:ut=> .bool u) (λ_=>[]) (λu=>u=wT->xs=[]):=by
 intro w S _ _ b;have⟨a,cap,hv,h1,c,k⟩:=wg.1<|i S w b;have j:(V5 .eql t x y (.slice a (X xs) cap) (.slice wS 0 0)).run P w=.ok () w:=by simp[V5]
 have c:(Kw .eql t (.slice a (X xs) cap) (.slice wS 0 0)).run P w=.ok (.bool a.isNone) w:=by simp only[Kw,xay,Hs ht,xao,xaV]
 refine ux.of_value ?_ ⟨a.isNone,O,λhn=> ?_,yJ.refl _ _,jP⟩;simp only[uP,f,hv,h,xay,j,c,xao,xaV];simp_all
end
section
variable{P:uS}{H:xj}{d:wN Wf}{ty t:kW}{m7:String}{xS:Z3 Edge}{g:wN (wL×ut)}{x y c:ul}{w:qR}{S:wL->Prop}{v:wW}{o:Xs}
def zmC(hc:ev H c=.bool wT)(h:ev H x=v)(w:qR):(uP (ev H) ⟨d,.pick c x y,ty,m7,xS,g⟩).run P w=.ok (.value v) w:=lY (by simp[pv,hc,h]) w
def zkM(hc:ev H c=.bool I)(h:ev H y=v)(w:qR):(uP (ev H) ⟨d,.pick c x y,ty,m7,xS,g⟩).run P w=.ok (.value v) w:=lY (by simp[pv,hc,h]) w
end
def jE(x y:J):J:=if x<y then-1 else if y<x then 1 else 0
theorem qP{x y:J}(h:x<y):jE x y= -1:=by simp[jE,h]
theorem vK{x y:J}(h:y<x):jE x y=1:=by grind [jE]
theorem kN{x y:J}(h:x=y):jE x y=0:=by grind [jE]
end
section
section
variable{P:uS}{N:Nd}{we:qR}{Se:wL->Prop}{ms:ww MF}{Γ:ww FF}{Q:Qs}{i7:xj}{l:ww Xs}
theorem oZ{H:xj}{d:V Wf}{v:wW}{t:Wf}(h:d≠Z t):put H d v t=H t:=by
 cases d with
 |none=>rfl
 |some dd=>
  have a:¬t=dd:=λe=>h (by rw[e]);have:R t dd=I:=YM a;simp[put,L,this]
theorem ED{H:xj}{v:wW}{t:Wf}:put H (Z t) v t=v:=by simp[put,L]
end
end
section
section
variable{P:uS}{N:Nd}{we:qR}{Se:wL->Prop}{ms F:ww MF}{Γ:ww FF}{H:xj}{U:Type}{wt:U->wW}{own:U->ww MF}{ws:U->ww FF}{ok:U->Prop}{fn:WT}
 {ops:Z3 Xs}{rest:ww Xs}{d:wN Wf}{t ty yt:kW}{m7:String}{xS:Z3 Edge}{g:wN (wL×ut)}{x y:ul}
def zeJ{α:Type}{e:zT α}{b:kW}{xs ys:ww α}{v u:wW}{bytes:K}{a:wW}(i:K)
 (ht:P.underlying t=Z (.slice b)) (f:J9 P b e.agg e.n bytes a) (hc:a.cells.size=e.n) (hn:0<e.n)
 (j:ms[i]? =Z (mO e b v xs)) (k:ev H x=v) (l:ev H y=u) (m:∀(S:K->Prop) (w:qR),zC S Γ w->(fV (eS e) ys u).p S w)
 (hd:X xs+X ys<=9223372036854775807) (o:(X xs+X ys)*bytes<=140737488355328):
 OG P ⟨d,.call ⟨.builtin .append,#[x,y],#[t,t]⟩,ty,m7,xS,g⟩ H we Se ms Γ (λc=>c) (λc=>ms.set i<|mO e b c<|xs++ys) (λ_=>Γ) (λ_=>Wr):=
 eC i ht f hc hn j k l (λS w _ h=>SlQ.of<|m S w h) hd o
end
end
section
abbrev WQ(x:J):Prop:= -9223372036854775808<=x/\x<=9223372036854775807
abbrev n5(x:K):Prop:=x<18446744073709551616
section
variable{α β:Type}
def ck(p:Prop)[US p](k:V α):V α:=if p then k else wS
def zf(e:J)(k:J->V α):V α:=if WQ e then k e else wS
def zD(i:J)(n:K)(k:K->V α):V α:=if 0<=i/\i<(n:J)then k i.toNat else wS
def jt(i:J)(k:K->V α):V α:=if 0<=i then k i.toNat else wS
def nm(e:β)(k:β->V α):V α:=k e
def bd(x:V β)(k:β->V α):V α:=match x with
 |some v=>k v
 |none=>wS
def zg(f:(β->V α)->β->V α):K->β->V α
 |0,_=>wS
 |k+1,s=>f (zg f k) s
theorem ZW{p:Prop}[US p]{k:V α}{r:α}(h:ck p k=Z r):p/\k=Z r:=by grind [ck]
theorem pK{e:J}{k:J->V α}{r:α}(h:zf e k=Z r):∃x,x=e/\WQ x/\k x=Z r:=by grind [zf]
theorem zhc{i:J}{n:K}{k:K->V α}{r:α}(h:zD i n k=Z r):∃j:K,i=(j:J)/\j<n/\k j=Z r:=by grind [zD]
theorem zcX{i:J}{k:K->V α}{r:α}(h:jt i k=Z r):∃j:K,i=(j:J)/\k j=Z r:=by grind [jt]
def wK{e:β}{k:β->V α}{r:α}(h:nm e k=Z r):∃x,x=e/\k x=Z r:=⟨e,O,h⟩
def CA{x:V β}{k:β->V α}{r:α}(h:bd x k=Z r):∃v,x=Z v/\k v=Z r:=by
 cases x with
 |none=>cases h
 |some v=>exact⟨v,O,h⟩
def zdM{f:(β->V α)->β->V α}{s:β}{r:α}(h:zg f 0 s=Z r):UP:=by cases h
def zcV{f:(β->V α)->β->V α}{k:K}{s:β}{r:α}(h:zg f (k+1) s=Z r):f (zg f k) s=Z r:=h
end
section
variable{α β:Type}
theorem xN{p:Prop}[US p]{k:V α}(h:p):ck p k=k:=iq h
def y9{p:Prop}[US p]{k:V α}(h:p:=by lia):ck p k=k:=ce h
theorem yj{e:J}{k:J->V α}(h:WQ e):zf e k=k e:=iq h
def zb{e:J}{k:J->V α}(h1: -9223372036854775808<=e:=by lia)(a:e<=9223372036854775807:=by lia):zf e k=k e:=ce ⟨h1,a⟩
def FO{i:J}{n:K}{k:K->V α}(h:0<=i/\i<(n:J)):zD i n k=k i.toNat:=iq h
theorem zm{i n:K}{k:K->V α}(h:i<n):zD (i:J) n k=k i:=by rw[FO ⟨W,W⟩];rfl
def yn{i n:K}{k:K->V α}(h:i<n:=by lia):zD (i:J) n k=k i:=zm h
theorem yF{i:K}{k:K->V α}:jt (i:J) k=k i:=by skip;rfl
theorem ze{e:β}{k:β->V α}:nm e k=k e:=O
theorem za{x:V β}{v:β}{k:β->V α}(h:x=Z v):bd x k=k v:=by rw[h];rfl
def kQ{f:(β->V α)->β->V α}{k:K}{s:β}:zg f (k+1) s=f (zg f k) s:=O
end
def PT{n:K}(h:n<=9223372036854775807):WQ (n:J):=⟨W,W⟩
def zrF(x:K):n5 (x%18446744073709551616):=xaP _ rx
def zpQ{x e:K}(h:x=e)(a:n5 e):n5 x:=h▸a
def zjG{x e:J}(h:x=e)(a:WQ e):WQ x:=h▸a
def QL{x e:K}(h:x=e%18446744073709551616):n5 x:=h▸zrF e
def zpH{a b x:J}(c:WQ a)(h:x=a.tmod b):WQ x:=by
 have h1:=Int.natAbs_tmod a b;have d:=Nat.mod_le a.natAbs b.natAbs;obtain h0|h0:=Int.le_total 0 a
 lia;have:a.tmod b<=0:=by have:=Int.tmod_nonneg b (a:= -a) W;simp_all
 lia
def zoe{a b x:K}(c:n5 a)(h:x=a%b):n5 x:=by have:=Nat.mod_le a b;lia
def zbF{a b x:K}(c:n5 a)(h:x=a/b):n5 x:=by have:=xcD a b;lia
def zr7{a b:J}(c:WQ a)(d:WQ b):WQ (max a b):=by unfold WQ at*;lia
def zsK{a b:J}(c:WQ a)(d:WQ b):WQ (min a b):=by unfold WQ at*;lia
def zq9{α:Type}{l:N α}{k:K}{y z:α}(h:k<X l)(a:y=l.getD k z):l[k]? =Z y:=by rw[a];exact getD_some z h
def sgn(x:K):J:=if x<9223372036854775808 then(x:J)else(x:J)-18446744073709551616
def Ec(x:J):K:=(x%18446744073709551616).toNat
def zih{x:K}(h:n5 x):WQ (sgn x):=by unfold sgn n5 at*;split<;>constructor<;>lia
def Fa(x:J):n5 (Ec x):=by unfold Ec n5;lia
def Fx{x:K}(h:n5 x):xdb.wrap (x:J)=sgn x:=by
 unfold sgn;split;exact w64 ⟨W,W⟩;rename_i b;have a:xdb.wrap x=xdb.wrap (x-18446744073709551616):=by simp[IntKind.wrap,IntKind.bits]
 rw[a];exact w64 ⟨W,W⟩
def zhi(x:J):xcs.wrap x=((Ec x:K):J):=by rw[Gw];unfold Ec;lia
def w_x{x c:J}(h:c=x)(a:WQ c):xdb.wrap x=c:=by subst h;exact w64 a
def A8{k:Wl}{x:J}{c n:K}(h:c=n)(a:k.wrap x=(n:J)):k.wrap x=(c:J):=by rw[a,h]
def OpP(P:uS)(o:Xs)(H:xj)(w:qR)(K:N cE->qR->Prop):Prop:=(∀c,o.op≠ .defer c)/\
 match(uP (ev H) o).run P w with
 |.ok (.enter f args) w'=>aM P f args w' (λe a=>∃b,e=.panicked b/\K b a)
 |.halt (.panic v) w'=>K [{v,recovered:=I}] w'
 |_=>UP
def OpP.wp{P:uS}{o:Xs}{a:V6}{w:qR}{K:ww cE->qR->Prop}{d:V6->qR->Prop}{Q:iT->V6->qR->Prop}{N:Nd}
 (h:OpP P o (ya a) w K) (c:∀b w',K b w'->Q (.panic b) a w'):o.wpIn N.F 0 P a w d Q:=by
 have⟨hd,h⟩:=h;refine⟨λ_ _=>jP,?_⟩;rw[Uo];rw[Oper.semAt_eq _ _ _ hd];generalize(uP (ev<|ya a) o).run P w=r at*
 cases r with
 |ok n w'=>
  cases n<;>simp only at h
  case enter f args=>exact⟨λe=>by simp[xcR]at e,CallsIn.mono (callsIn_wide.2 h) λe g ⟨b,i,hv⟩=>by subst i;exact c _ _ hv⟩
 |halt x w'=>
  cases x<;>simp only at h
  case panic v=>exact c _ _ h
def OpP.mono{P:uS}{o:Xs}{H:xj}{w:qR}{K a:N cE->qR->Prop}(h:OpP P o H w K)(c:∀b w',K b w'->a b w'):OpP P o H w a:=by
 refine⟨h.1,?_⟩;have h:=h.2;generalize(uP (ev H) o).run P w=r at*
 cases r with
 |ok n w'=>
  cases n<;>simp only at h⊢
  case enter f args=>exact h.mono λe d ⟨v,g,hv⟩=>⟨v,g,c _ _ hv⟩
 |halt x w'=>
  grind
def zmv{P:uS}{H:xj}{w:qR}{N:Nd}{b:Z3 Xs}{o:Xs}{rest:ww Xs}{Q:Qs}(d:yX b H o=wT)(h:OpP P o H w (λc w'=>Q (.panic c) H w')):WpL P N b (o::rest) Q H w:=by intro a h1 e f;subst f;unfold WW;rw[iq<|by rw[W0];exact d];exact h.wp λc w' g=>⟨h1,e,g⟩
abbrev PX:=kW×J
def tF(q:PX):N cE:=[{v:=.iface q.1 (.agg #[.int .i64 q.2]),recovered:=I}]
inductive Tg
 |n
 |x (i:K)
 |r
 |p (q:PX)
def tgE:Tg->iT
 |.n=> .normal
 |.x i=> .exit i
 |.r=> .ret
 |.p q=> .panic<|tF q
end
section
section
variable{P:uS}{N:Nd}{we:qR}{Se:wL->Prop}{ms F:ww MF}{Γ:ww FF}{Q:Qs}{H:xj}{ops:Z3 Xs}{rest:ww Xs}{o:Xs}
 {d:wN Wf}{ty yt t ti t':kW}{m7:String}{xS:Z3 Edge}{g:wN (wL×ut)}{x y:ul}
def v_i{k:Wl}{c z:J}(h:∀w,(uP (ev H) o).run P w=.ok (.value (.int k c)) w)(a:z=c):∀w,(uP (ev H) o).run P w=.ok (.value (.int k z)) w:=by simp_all
def zh9{c z:ut}(h:∀w,(uP (ev H) o).run P w=.ok (.value (.bool c)) w)(a:z=c):∀w,(uP (ev H) o).run P w=.ok (.value (.bool z)) w:=by simp_all
theorem zdB{a:K}{b:J}:(a:J).fdiv (2^(min b.toNat xcs.bits))=((a/2^(min b.toNat 64):K):J):=by have:xcs.bits=64:=O;grind
def zdm{a:K}{b:J}:xcs.wrap ((a:J)*2^(min b.toNat xcs.bits))=((a*2^(min b.toNat 64)%18446744073709551616:K):J):=by rfl
def zkg{a x:J}{k:K}(b:WQ a)(h:x=a.fdiv (2^k)):WQ x:=by
 have hp:(0:J)<2^k:=Int.pow_pos rx;rw[Int.fdiv_eq_ediv_of_nonneg _ W]at h;have c:=xbr a<|2^k;rcases(W:a<0\/0<=a)with h0|h0
 have:=Int.ediv_neg_of_neg_of_pos h0 hp;lia;lia
def zb1(a b:J):J:=sgn<|Ec a &&& Ec b
def orI(a b:J):J:=sgn (Ec a|||Ec b)
theorem rV{a b:K}(c:n5 a):n5 (a &&& b):=xaI Nat.and_le_left c
theorem DM{a b:K}(c:n5 a)(e:n5 b):n5 (a|||b):=Nat.or_lt_two_pow (n:=64) c e
theorem zig{a:K}(b:n5 a):((a:J)%2^xcs.bits).toNat=a:=by have:2^xcs.bits=18446744073709551616:=O;grind
theorem zlS{a b:K}(c:n5 a)(e:n5 b):xcs.wrap (((((a:J)%2^xcs.bits).toNat &&& ((b:J)%2^xcs.bits).toNat:K)):J)=((a &&& b:K):J):=by grind [zig,sD,rV]
theorem zo3{a b:K}(c:n5 a)(e:n5 b):xcs.wrap (((((a:J)%2^xcs.bits).toNat|||((b:J)%2^xcs.bits).toNat:K)):J)=((a|||b:K):J):=by grind [zig,sD,DM]
def zlk{a b:J}:xdb.wrap (((a%2^xdb.bits).toNat &&& (b%2^xdb.bits).toNat:K):J)=zb1 a b:=Fx<|rV<|Fa a
def zn8{a b:J}:xdb.wrap (((a%2^xdb.bits).toNat|||(b%2^xdb.bits).toNat:K):J)=orI a b:=Fx<|DM (Fa a)<|Fa b
def zoD(a b:J):WQ (zb1 a b):=zih<|rV<|Fa a
def zqL(a b:J):WQ (orI a b):=zih<|DM (Fa a)<|Fa b
def zrb{b:K}(h:b≠0):(b:J)≠0:=W
def ziI{B n:K}(a:0<B)(h:B*n<=281474976710656):n<=9223372036854775807:=by have:=xdX n a;lia
def zaz{α:Type}{e:zT α}{c:kW}{z:α}{xs:ww α}{n bytes:K}{a:wW}{f:ul}{i j:Wl}(ht:P.underlying t=Z (.slice c))(k:J9 P c e.agg e.n bytes a)(l:ev H x=.int i (n:J))(m:ev H f=.int j (n:J))(q:0<bytes)(h:bytes*n<=281474976710656)
 (r:∀(S:K->Prop) (w:qR),e.p S z a.cells.toList w) (hc:xs=So n z):OG P ⟨d,.makeSlice t x f,ty,m7,xS,g⟩ H we Se ms Γ (λb=>(.slice (Z ⟨b,0,wS⟩) n n)) (λb=>(mB (rowT e n) c b xs::ms)) (λ_=>Γ) (λ_=>Wr):=by
 subst hc;intro w hd;refine(zdb ht k l m h (ziI q h) r w hd).mono ?_;rintro v w' ⟨b,h1,s,u⟩;exact⟨b,h1,s,u.rowRT 0 O rC⟩
end
end
section
def ztC{α:Type}{a x:α}(h:Z a=Z x):a=x:=xfT h
def zp2{x:J}{c n:K}(h:c=n)(a:x=(n:J)):x=(c:J):=by rw[a,h]
def zmn{x y z q:K}(a:n5 x)(b:n5 y)(c:z<=1)(h:q=(x+y+z)/18446744073709551616):n5 q:=by unfold n5 at*;lia
def zly{x y z q:K}(_:n5 x)(_:n5 y)(_:z<=1)(h:q=if x<y+z then 1 else 0):n5 q:=by unfold n5;split at h<;>lia
def v_2{P:uS}{H:xj}{o:Xs}{k c:Wl}{a b x y:K}(h:∀w,(uP (ev H) o).run P w=.ok (.value (.tuple #[.int k (a:J),.int c (b:J)])) w)(d:x=a)(e:y=b):
 ∀w,(uP (ev H) o).run P w=.ok (.value (.tuple #[.int k (x:J),.int c (y:J)])) w:=by subst d;subst e;exact h
def zbo{F:oS}{n:K}{P:uS}{a:V6}{w:qR}{Q:iT->V6->qR->Prop}{c:Wn}(h:c.wpIn F n P (Exit.noGoto Q) a w):(Code.scope c).wpIn F n P Q a w:=by
 intro b k cs hc o p;have g:∀{cs:N Frame}{k:N Item},step P (lone (b.atR a (.code (.scope c)::k)) cs w)=.next (lone (b.atR a (.code c::.inScope c::k)) cs w):=step_lone_go (by simp[stepG,stepG.exec,Frame.atR]);have r:∀{a:V6}{w:qR}{cs:N Frame}{k:N Item},step P (lone (b.atR a (.inScope c::k)) cs w)=.next (lone (b.atR a k) cs w):=step_lone_go (by simp[stepG,stepG.exec,Frame.atR]);have h0:(lone (b.atR a (.code (.scope c)::k)) cs w).fenced P F:=eX o p O;have⟨e,d,f,i,j⟩:=h b (.inScope c::k) cs hc o p
 cases e with
 |normal=>exact⟨.normal,d,f,i,.head h0 g<|StepsIn.trans j (.one (eX o p O) r)⟩
 |exit id=>exact⟨.exit id,d,f,i,λs q=> .head h0 g (j.1 s<|by simp[exitTo,q]),λhd q=>let⟨m,h1,t⟩:=j.2 hd (by simp[exitTo,q]);⟨m,h1,.head h0 g t⟩⟩
 |goto l=>exact i.elim
 |ret=>exact⟨_,d,f,i,.of_steps (.one h0 g) j⟩
 |panic u=>exact⟨_,d,f,i,.of_steps (.one h0 g) j⟩
 |outgrown=>exact⟨_,d,f,i,.of_steps (.one h0 g) j⟩
section
variable{P:uS}{N:Nd}{we:qR}{Se:wL->Prop}{ms:ww MF}{Γ:ww FF}{Q:Qs}{H:xj}{ops:Z3 Xs}{d:wN Wf}{ty t:kW}{m7:String}{xS:Z3 Edge}{g:wN (wL×ut)}
def plB(P:uS)(t:kW):V (Z3<|K×K):=match P.underlying t with
 |some (.struct fs)=>(fs.toList.mapM λf=>(P.info? f.type).map λi=>(f.offset,i.size)).map (·.toArray)
 |_=>wS
def Tn(w:qR):∀(l:ww Field) (r:ww (K×K)),(l.mapM λf=>(P.info? f.type).map λi=>(f.offset,i.size))=Z r->(l.mapM (λf=>do pure (f.offset,<-V9 f.type)):Sem (ww<|K×K)).run P w=.ok r w
 |[],r,h=>by simp at h;subst h;simp
 |f::l,r,h=>by
  rw[List.mapM_cons]at h
  cases hi:P.info? f.type with
  |none=>rw[hi]at h;simp at h
  |some i=>
   cases hl:(l.mapM λf=>(P.info? f.type).map λi=>(f.offset,i.size))with
   |none=>rw[hl]at h;simp at h
   |some q=>
    have a:=Tn w l q hl;have b:(V9 f.type).run P w=.ok i.size w:=by simp[V9,JP,hi]
    simp_all
def zme{pl:Z3 (K×K)}(h:plB P t=Z pl):∃fs,P.underlying t=Z (.struct fs)/\∀w,(fs.mapM (λf=>do pure (f.offset,<-V9 f.type)):Sem (Z3<|K×K)).run P w=.ok pl w:=by
 unfold plB at h;split at h;rename_i fs a;refine⟨fs,a,λw=> ?_⟩
 cases hl:(fs.toList.mapM λf=>(P.info? f.type).map λi=>(f.offset,i.size))with
 |none=>rw[hl]at h;cases h
 |some q=>
  have:=Tn w fs.toList q hl;rw[Array.mapM_eq_mapM_toList];simp_all
 cases h
theorem zeN{a:K->V (K×K)}{i off:K}{v:wW}{b c e:ww wW}{r:ww (K×wW)}(hp:a i=Z (off,v.cells.size))(f:X b=off)(hc:X c=v.cells.size):
 xdJ a (b++c++e).toArray ((i,v)::r)=xdJ a (b++v.cells.toList++e).toArray r:=by
 subst f;have h:v.cells.zipIdx.foldl (λcs (x:wW×K)=>cs.setIfInBounds (X b+x.2) x.1) (b++c++e).toArray=(b++v.cells.toList++e).toArray:=by apply Array.ext';rw[<-Array.foldl_toList,Array.toList_zipIdx,AN (X b) v.cells.toList 0 _<|by simp;lia];simp_all
 conv=>lhs;unfold xdJ
 grind
def LF{α:Type}{e:zT α}{z0 z:α}{bytes:K}{a:wW}{parts:ww (K×ul)}{vs:ww (K×wW)}{pl:Z3 (K×K)}(ht:J9 P t wT e.n bytes a)(hc:e.agg=wT)
 (c:∀(S:K->Prop) (w:qR),e.p S z0 a.cells.toList w) (hd:∃fs,P.underlying t=Z (.struct fs)/\∀w,(fs.mapM (λf=>do pure (f.offset,<-V9 f.type)):Sem (Z3<|K×K)).run P w=.ok pl w)
 (hv:parts.map (λx=>(x.1,ev H x.2))=vs) (q:ww wW->Prop) (h:∀(S:K->Prop) (w:qR),zC S Γ w->∀cs,cs=a.cells.toList->e.p S z0 cs w->∃out,xdJ (pl[·]?) cs.toArray vs=Z out.toArray/\e.p S z out w/\q out):
 PJ P ⟨d,.build t parts.toArray,ty,m7,xS,g⟩ H ms Γ (λv:wW=>v) (λv=>[fV e z v]) (λv=>q v.cells.toList):=by
 intro w S _ _ b;have⟨out,h1,i,j⟩:=h S w b _ O<|c S w;refine ux.of_value (w':=w) (v:=.agg out.toArray) ?_ ⟨_,O,by simpa[xeB]using j,yJ.refl _ _,⟨⟨out,by simp[zT.val,hc],i⟩,jP⟩⟩;have⟨fs,k,l⟩:=hd;have m:parts.toArray.map (λx=>(x.1,ev H x.2))=vs.toArray:=by rw[<-hv];simp
 simp only[uP,xay];have o:(Instr.build t<|parts.toArray.map λx=>(x.1,ev H x.2)).run P w=.ok (.agg out.toArray) w:=by rw[m];unfold Instr.build;simp only[xay,uD ht,xao,Z0 k,l,h1,xaV]
 rw[o];rfl
end
end
section
def Hc(D:K->ut)(i:K):K->ut:=λk=>D k||R k i
def tW(D:K->ut)(i:K):Hc D i i=wT:=by simp[Hc]
def Pj{D:K->ut}{i k:K}(h:k≠i):Hc D i k=D k:=by simp[Hc,YM h]
def zkC{D:K->ut}{i k:K}(h:D k=wT):Hc D i k=wT:=by simp[Hc,h]
section
variable{P:uS}{N:Nd}{we:qR}{Se:wL->Prop}{ms:ww MF}{Γ:ww FF}{Q:Qs}{i7:xj}{l:ww Xs}{m:wL}
def zpu{id:K}(m:K)(b:(K->ut)->xj->qR->Prop)(hm:P.follows .mixedOrders=wT)(hc:Vu l m=wT)(hd:(l.all λo=>jM N.n o.dst)=wT)
 (hO:∀w,St we Se ms Γ w->b (λ_=>I) i7 w)
 (step:∀(D:K->ut) (i:K) (H:xj) (w:qR),i<m->D i=I->(∀j,D j=wT->j<m)->(∀e∈(zU l i).after,xcq .any e=wT->D e.on=wT)->
  (∀j,D j=wT->∀e∈(zU l j).after,xcq .any e=wT->D e.on=wT)->b D H w->
  (yX l.toArray H (zU l i)=wT->ux P (zU l i) H w (λv w'=>b (Hc D i) (put H (zU l i).dst v) w')\/OpP P (zU l i) H w (λS w'=>Q (.panic S) H w'))/\
  (yX l.toArray H (zU l i)=I->b (Hc D i) (put H (zU l i).dst Z9) w))
 (y:∀(D:K->ut) (H:xj) (w:qR),(∀j,j<m->D j=wT)->(∀j,D j=wT->j<m)->b D H w->WpL P N l.toArray (l.drop m) Q H w):
 T P N we Se ms Γ (.region id l.toArray wT) Q i7:=by
 intro w0 hP a0 hQ hR hS;have⟨h0,h1,h2,h3,hT⟩:=Y2 hc;refine wpIn_region_any hm ?_;have p:∀{c:Z3 ut}{i:K},i<c.size->c.getD i wT=c.getD i I:=λ{c i} h=>by simp_all
 have z:∀{c:Z3 ut}{i:K},c.getD i I=wT->i<c.size:=λ{c i} h=>by
  obtain hp|hge:=xbU i c.size
  exact hp;simp[xbx,Array.getElem?_eq_none hge]at h
 have E:∀(d:K) (c:Z3 ut) (a:V6) (w:qR),(xaC (X l)).countP (λk=> !c.getD k wT)<=d->c.size=X l->a.tmps.size=N.n->a.defers=N.ds->
  (∀i,m<=i->i<X l->c.getD i wT=I)->
  (∀i,i<X l->c.getD i I=wT->∀e∈(zU l i).after,xcq .any e=wT->c.getD e.on I=wT)->
  b (λi=>c.getD i I) (ya a) w->bv N.F 0 P .any l.toArray (zfG N Q) d c a w:=by
  intro d
  induction d with
  |zero=>
   intro c a w U A b1 b2 r hl B;have s:∀k,k<X l->c.getD k wT=wT:=λk f=>by
    have V:(xaC (X l)).countP (λk=> !c.getD k wT)=0:=W
    rw[List.countP_eq_zero]at V;have:=V k<|xbd.2 f;simpa using this
   have hZ:m=X l:=by
    rcases xbU m (X l) with hp|hge
    have C:=r m (Nm _) hp;rw[s m hp]at C;cases C
    lia
   refine mV hc 0 m c a w (Nm _) h0 W A (λk f=>by rw[s k f];simp;lia) ?_;exact y _ _ w (λj g=>by rw[<-p W];exact s j W) (λj g=>by have:=z g;lia) B a b1 b2 O
  |succ d ih=>
   intro c a w U A b1 b2 r hl B;by_cases s:∀k,k<m->c.getD k wT=wT
   have Y:∀k,k<X l->c.getD k wT=decide (k<m):=λk f=>by
    by_cases G:k<m;rw[s k G];simp[G];rw[r k W f];simp[G]
   refine mV hc (d+1) m c a w (Nm _) h0 (xal ?_ U) A Y ?_;rw[show(xaC (X l)).countP (λk=> !c.getD k wT)=(xaC (X l)).countP (λk=> !decide (k<m))from List.countP_congr λk f=>by rw[Y k<|xbd.1 f]];exact zke.count_ge m [] m (X l);refine y _ _ w (λj g=>by rw[<-p W];exact s j g) (λj g=> ?_) B a b1 b2 O;obtain h|h:=xbU j m
   exact h;have J:=z g;rw[<-p J,r j h W]at g;cases g
   have hH:∃k,k<m/\c.getD k wT=I:=by
    by_cases hh:∃k,k<m/\c.getD k wT=I;exact hh
    exact jp (λk f=>by
     cases q:c.getD k wT
     exact jp ⟨k,f,q⟩ hh;rfl) s
   refine⟨λhr=> ?_,λi hi=> ?_⟩
   exfalso;have⟨k,f,L,hJ⟩:=zke.first_un m [] hH;have:k∈xed .any l.toArray c:=mem_ready.2 ⟨L,zU l k,YG W,λe x q=>by
    have C:=h1 k W e x q;have t:=hJ e.on C;rwa[p (by lia:e.on<c.size)]at t⟩
   rw[hr]at this;cases this
   have⟨hu,o,M,hn⟩:=mem_ready.1 hi;have u:i<X l:=by simpa using(xbi.1 M).1
   rw[YG u]at M;cases M;have hU:i<m:=by
    obtain h|h:=xbU i m
    exact h;exfalso;by_cases hK:m=i;subst hK;have⟨k,f,L⟩:=hH;have t:=dI hl h1 16 m k u hn<|hT u k f;rw[<-p (by lia:k<c.size),L]at t;cases t
    have⟨e,x,q,hV⟩:=uV<|h3 i W u;have t:=hn e x q;rw[hV,<-p (by lia:i-1<c.size),r (i-1) W W]at t;cases t
   have R:i<c.size:=W
   have hW:jM N.n (zU l i).dst=wT:=by
    rw[xaT]at hd;refine hd _ ?_;have:zU l i=l[i]:=by simp[zU,u]
    rw[this];exact xby _
   have hB:∀j,(λi=>c.getD i I) j=wT->j<m:=λj g=>by
    obtain h|h:=xbU j m
    exact h;have J:=z g;have hL:c.getD j I=wT:=g;rw[<-p J,r j h W]at hL;cases hL
   have hs:=step (λi=>c.getD i I) i (ya a) w hU (by rw[<-p R];exact hu) hB hn (λj g=>hl j (by have:=hB j g;lia) g) B;have hM:(λk=>(c.setIfInBounds i wT).getD k I)=Hc (λi=>c.getD i I) i:=by funext k;by_cases ht:i=k;subst ht;rw[tW];simp[R];rw[Jp I ht,Pj<|λe=>ht e.symm]
   have next:∀v w',b (Hc (λi=>c.getD i I) i) (put (ya a) (zU l i).dst v) w'->bv N.F 0 P .any l.toArray (zfG N Q) d (c.setIfInBounds i wT) (a.put (zU l i).dst v) w':=by intro v w' hv;refine ih _ _ w' ?_ (by simpa using A) (by rw[cn];exact b1) (by rw[Va];exact b2) (λk hX f=> ?_) (λk f hN e x q=> ?_) ?_;have:=(AY R hu<|xaC (X l)).2<|xbd.2 u;lia;rw[Jp wT W];exact r k hX f;by_cases ht:i=k;subst ht;exact aC<|hn e x q;rw[Jp I ht]at hN;exact aC<|hl k f hN e x q;rw[WH (by rw[b1];exact cr hW),hM];exact hv
   unfold wpOpIn;rw[YG u];simp only[W0];cases hC:yX l.toArray (ya a) (zU l i)
   simp only[xaj,Z5];exact⟨λ_ _=>jP,next undef w (hs.2 hC)⟩;simp only[Z4];obtain h|h:=hs.1 hC;exact h.wp λv w' hY=>next v w' hY
   exact h.wp λS w' f=>⟨b1,b2,f⟩
 refine E l.toArray.size _ a0 _ ?_ rC hQ hR (λi hK hi=>by simp[hi]) (λi hi hp=> ?_) ?_;exact xal (List.countP_le_length) rC
 have:=z hp;rw[<-p this]at hp;simp[hi]at hp;have hf:(λi=>(xdh l.toArray.size I).getD i I)=λ_=>I:=by funext i;simp only[xbx,Array.getElem?_replicate];split<;>rfl
 rw[hf,hS];exact hO _<|hP.ext<|dB.drawn w0 _
end
end
section
def Yv{S:K->Prop}{w:qR}:∀{ms:N MF},yP S ms w↔∀m∈ms,m.p S w
 |[]=>⟨λ_ m h=>jp h H1,λ_=>jP⟩
 |m::r=>by
  have a:=Yv (S:=S) (w:=w) (ms:=r);constructor;intro h x hx;obtain rfl|hx:=xai.1 hx
  exact h.1;exact a.1 h.2 x hx;intro h;exact⟨h m<|IR,a.2 λx hx=>h x<|FS _ hx⟩
def EU:∀{ms:N MF},Jm ms↔ms.Pairwise (λm m'=>∀k,m.blk k->¬m'.blk k)
 |[]=>⟨λ_=>List.Pairwise.nil,λ_=>jP⟩
 |m::r=>by
  rw[xdi];have c:=EU (ms:=r);exact⟨λh=>⟨λm' a k b=>h.1 k b m' a,c.1 h.2⟩,λh=>⟨λk b m' a=>h.1 m' a k b,c.2 h.2⟩⟩
def St.perm{we:qR}{Se:K->Prop}{ms a:N MF}{Γ:N FF}{w:qR}(h:St we Se ms Γ w)(hp:ms.Perm a):St we Se a Γ w:=by have⟨h1,c,d,S,e,f,g,i,j⟩:=h;refine⟨h1,c,EU.2<|(hp.pairwise_iff λ{x y} l k n hc=>l k hc n).1<|EU.1 d,S,e,f,λm b=>g m<|hp.mem_iff.2 b,Yv.2 λm b=>Yv.1 i m<|hp.mem_iff.2 b,j⟩
def zil:wW->V K
 |.pointer (Z ⟨b,_,_⟩)=>Z b
 |_=>wS
def mP{α:Type}(e:BO α)(E:kW)(v:wW)(z:α):MF where
 blk k:=zil v=Z k
 p S w:=∃b,v=.pointer (Z ⟨b,0,wS⟩)/\(mB e E b z).p S w
 keep:=λ⟨b,h1,a⟩ k hb=>⟨b,h1,(mB e E b z).keep a k λi hi=>hb i<|by rw[h1];exact hi⟩
 sub:=λ⟨b,h1,a⟩ k=>⟨b,h1,(mB e E b z).sub a k⟩
 lt:=λ⟨b,h1,a⟩ k c=>(mB e E b z).lt a k<|by rw[h1]at c;exact c
def St.openP{α:Type}{e:BO α}{E:kW}{v:wW}{z:α}{we:qR}{Se:K->Prop}{ms:N MF}{Γ:N FF}{w:qR}(i:K)(h:St we Se ms Γ w)(a:ms[i]? =Z (mP e E v z)):
 ∃b,v=.pointer (Z ⟨b,0,wS⟩)/\St we Se (ms.set i<|mB e E b z) Γ w:=by
 have⟨S,hp,_⟩:=h.muts a;have⟨b,hv,_⟩:=hp;subst hv;exact⟨b,O,h.conv a O λS ⟨d,h1,c⟩=>by cases h1;exact c⟩
def St.toP{α:Type}{e:BO α}{E:kW}{b:K}{z:α}{we:qR}{Se:K->Prop}{ms:N MF}{Γ:N FF}{w:qR}(i:K)(h:St we Se ms Γ w)(a:ms[i]? =Z (mB e E b z)):
 St we Se (ms.set i<|mP e E (.pointer<|some ⟨b,0,wS⟩) z) Γ w:=h.conv a O λS h=>⟨b,O,h⟩
def zaY{K:N (Wf×Pr)}{i7 H:xj}{S:wL->Prop}{w w':qR}{t:Wf}(h:Xu K i7 H S w t)(k:yJ S w w'):Xu K i7 H S w' t:=by grind [Xu,Pr.keepS]
def zeY{K:N (Wf×Pr)}{i7 H:xj}{S a:wL->Prop}{w:qR}{t:Wf}(h:Xu K i7 H S w t)(k:∀k,k<w.heap.size->S k->a k):Xu K i7 H a w t:=by grind [Xu,Pr.sub]
def Lo(K:N (Wf×Pr))(i7 H:xj)(ts:N Wf):FF where
 p S w:=Jl K i7 H S w ts
 keep:=λ{S w w'} h k=>by
  induction ts with
  |nil=>trivial
  |cons t ts a=>exact⟨zaY h.1 k,a h.2⟩
 sub:=λ{S b w} h k=>by
  induction ts with
  |nil=>trivial
  |cons t ts a=>exact⟨zeY h.1 k,a h.2⟩
structure Res where
 a:V K
 t:Wf
 w:V K
 mf:ut->wW->MF
def Res.done(r:Res)(D:K->ut):ut:=match r.w with
 |some i=>D i
 |none=>I
def Res.here(r:Res)(D:K->ut):ut:=match r.a with
 |some i=>D i
 |none=>wT
def av(rs:N Res)(D:K->ut)(H:xj):N MF:=rs.filterMap λr=>bif r.here D then Z (r.mf (r.done D)<|H r.t)else wS
section
variable{P:uS}{N:Nd}{we:qR}{Se:wL->Prop}{ms:ww MF}{Γ:ww FF}{Q:Qs}{i7:xj}{l:ww Xs}{m:wL}
def Cz(L:ww (Xs×Pr))(D:K->ut)(H:xj):FF where
 p S w:=∀i x t,D i=wT->L[i]? =Z x->x.1.dst=Z t->x.2.p S (H t) w
 keep:=λh k i x t h1 a b=>x.2.keepS (h i x t h1 a b) k
 sub:=λh k i x t h1 a b=>x.2.sub (h i x t h1 a b) k
end
section
variable{P:uS}{N:Nd}{we:qR}{Se:wL->Prop}{ms:ww MF}{Γ:ww FF}{H:xj}{d:wN Wf}{ty t:kW}{m7:String}{xS:Z3 Edge}{g:wN (wL×ut)}
def zkh{α:Type}{e:zT α}{c:kW}{zs:ww α}{len bytes:K}{a:wW}{parts:ww (K×ul)}{vs:ww (K×wW)}(ht:P.underlying t=Z (.slice c))(hd:J9 P c e.agg e.n bytes a)
 (hn:0<e.n) (hc:X zs=len) (y:len*e.n<=16777216) (hv:parts.map (λx=>(x.1,ev H x.2))=vs)
 (m:∀(S:K->Prop) (w:qR),zC S Γ w->c8 (λi=>Z (i*e.n,e.n)) vs 0) (hp:∀(S:K->Prop) (w:qR),zC S Γ w->yQ e S zs (jD vs) w):
 OG P ⟨d,.buildSlice t len parts.toArray,ty,m7,xS,g⟩ H we Se ms Γ (λv:wW=>v) (λv=>mO e c v zs::ms) (λ_=>Γ) (λ_=>Wr):=by
 intro w h;have⟨S0,z,b⟩:=h.ex;have hi:=hp S0 w b;have hl:X (jD vs)=len*e.n:=by rw[hi.len,hc]
 have A:len<=9223372036854775807:=by have:len<=len*e.n:=xcj _ hn;lia
 refine ux.of_value (w':=w.alloc (.cells (jD vs).toArray c)) (v:=.slice (Z ⟨w.heap.size,0,wS⟩) len len) ?_ ⟨_,O,jP,?_⟩;have o:parts.toArray.map (λx=>(x.1,ev H x.2))=vs.toArray:=by rw[<-hv];simp
 have j:xdJ (λi=>Z (i*e.n,e.n)) ((xfa<|len*e.n).map (a.cells[·%a.cells.size]!)) vs=Z (jD vs).toArray:=by have:=si vs [] ((xfa<|len*e.n).map (a.cells[·%a.cells.size]!)).toList (m S0 w b) (by simp[hl]);rw[xbM,xcy,xbM,xbQ (by simp[hl]),xbo]at this;lia
 have p:(xeI t len<|parts.toArray.map λx=>(x.1,ev H x.2)).run P w=.ok (.slice (Z ⟨w.heap.size,0,wS⟩) len len) (w.alloc (.cells (jD vs).toArray c)):=by
  rw[o];unfold xeI;simp only[xay,Z0 ht,xao,wv hd,ir (W:¬len*e.n>2^24),eM];by_cases h0:len*e.n=0
  have B:jD vs=[]:=xbq (by rw[hl,h0]);have q:xdJ (λi=>Z (i*e.n,e.n)) ((xfa 0).map ((#[]:Z3 wW)[·%(#[]:Z3 wW).size]!)) vs=Z (jD vs).toArray:=by
   have l:∀f:K->wW,(xfa 0).map f= #[]:=λf=>by simp
   rw[<-j,h0,l,l]
  simp only[h0,Z4];simp only[q,xay,Ul,xao,xaV];simp only[ir h0,xay,uD hd,xao,xaV,j,Ul]
 simp only[uP,xay,p,xao,xaV];have r:St we Se (mR e c w.heap.size zs::ms) Γ (w.alloc (.cells (jD vs).toArray c)):=by refine h.fresh (dB.alloc w _) O rC ?_;intro S C b;refine⟨_,V2 w _,?_⟩;exact((hp S w b).sub λk s u=>⟨u,Nat.ne_of_lt s⟩).keep (dB.alloc w _).to
 exact zlZ (n:=len) 0 r O hc.symm W
end
def zna{P:uS}{H:xj}{d:V Wf}{ty t:kW}{m7:String}{xS:Z3 Edge}{g:V (K×ut)}{x:ul}{b:ut}(h:ev H x=.bool b)(w:qR):
 (uP (ev H) ⟨d,.unOp .not t x,ty,m7,xS,g⟩).run P w=.ok (.value (.bool !b)) w:=lY (by show(match ev H x with|xeK t=>Z (xeK !t)|_=>wS)=_;rw[h]) w
def nz{p:Prop}(h:wT=I):p:=by cases h
def LH{α:Type}(xs ys:N α):N α:=xdB (min (X ys) (X xs)) ys++xdN (min (X ys) (X xs)) xs
def ou{α:Type}(lo n:K)(xs ys:N α):N α:=xdB lo xs++xdB (min (X ys) n) ys++xdN (lo+min (X ys) n) xs
def zaf:N K:=(xaC 256).map xfu
end
section
set_option maxRecDepth 100000
def z2(S:K->Prop)(w:qR):(eI).p S 0 (xeB (.int .i64 0)).toList w:=⟨O,rx,rx⟩
def z3(S:K->Prop)(w:qR):(eI).p S 0 (xeB (.int .i64 0)).toList w:=⟨O,rx,rx⟩
def z4(S:K->Prop)(w:qR):(Gv).p S I (xeB (.bool I)).toList w:=O
def z5(S:K->Prop)(w:qR):(eB8).p S 0 (xeB (.int .u8 0)).toList w:=O
def z6(S:K->Prop)(w:qR):(eB8).p S 0 (xeB (.int .u8 0)).toList w:=O
def z7(S:K->Prop)(w:qR):((eP eI<|eP eI<|eP Gv eB8)).p S ((0,(0,(I,0)))) (xeB (.agg #[.int .i64 0,.int .i64 0,.bool I,.int .u8 0])).toList w:=⟨_,_,O,⟨O,rx,rx⟩,⟨_,_,O,⟨O,rx,rx⟩,⟨_,_,O,O,O⟩⟩⟩
def z8(S:K->Prop)(w:qR):((eP eI<|eP eI<|eP Gv eB8)).p S ((0,(0,(I,0)))) (xeB (.agg #[.int .i64 0,.int .i64 0,.bool I,.int .u8 0])).toList w:=⟨_,_,O,⟨O,rx,rx⟩,⟨_,_,O,⟨O,rx,rx⟩,⟨_,_,O,O,O⟩⟩⟩
def zsk:J9 Tryz.prog 73 I 1 8 (.int .u64 0):=J9.of rO
end
section
open Go.ChangeShapes Go.WideShapes Go.ChangeAt Go.RowKit
variable{W W':qR}
def RJ(a:dB W W')(b:am->Prop):W.keptBut W' b:=by
 refine⟨a.os,a.output,λi hi=> ?_⟩;rw[a.block i hi jP]
 cases h:W.heap[i]? with
 |none=>rfl
 |some o=>cases o<;>simp
def zjQ{e:Type}{enc:kW×wW->e}{P:uS}{f:WT}{s:ChangeSpec}{c d j:ut}{args:Z3 wW}{v:wW}{ds g:N (oL e)}{a pa pv:N am}(i:DataW.Whole enc P f.params.toList s.vars c W args.toList ds g a)(k:∀(b:K) (sp:K->ut) (hd:ut),xeT enc P W' b sp hd f.resultTypes.toList (v.resultList f.resultTypes.size) (s.fn e<|ds++g).results [])(hc:∀sp:K->ut,(∀p∈a,sp p.block=wT)->xeT enc P W' 0 sp wT f.params.toList args.toList (s.fn e<|ds++g).args pa)(l:∀sp:K->ut,(∀p∈a,sp p.block=wT)->DataW.TrodVars enc P W' sp s.vars (s.fn e<|ds++g).vars pv)(n:a=pa++pv)(m:dB W W'):s.post enc P f c d j I W args v W':=
 ⟨ds,g,a,[],pa,pv,i,k _ _ _,hc _ (λp hp=>by simpa using i.lt p hp),l _ (λp hp=>by simpa using i.lt p hp),RJ m _,λh=>by cases h⟩
end
section
def GG{S:K->Prop}{w:qR}:∀{A B:N MF},yP S (A++B) w↔yP S A w/\yP S B w
 |[],_=>⟨λh=>⟨jP,h⟩,λh=>h.2⟩
 |a::A,B=>by
  have b:=GG (S:=S) (w:=w) (A:=A) (B:=B);exact⟨λh=>⟨⟨h.1,(b.1 h.2).1⟩,(b.1 h.2).2⟩,λh=>⟨h.1.1,b.2 ⟨h.1.2,h.2⟩⟩⟩
def AQ:∀{A B:N MF},Jm (A++B)↔Jm A/\Jm B/\∀m∈A,∀k,m.blk k->∀m'∈B,¬m'.blk k
 |[],B=>⟨λh=>⟨jP,h,λm hm=>jp hm H1⟩,λh=>h.2.1⟩
 |a::A,B=>by
  have d:=AQ (A:=A) (B:=B);constructor;intro h;have⟨h1,c,e⟩:=d.1 h.2;refine⟨⟨λk b m' hm'=>h.1 k b m'<|xab.2 (.inl hm'),h1⟩,c,λm hm k b m' hm'=> ?_⟩;obtain rfl|hm:=xai.1 hm
  exact h.1 k b m'<|xab.2 (.inr hm');grind;rintro⟨⟨h1,c⟩,e,f⟩;refine⟨λk b m' hm'=> ?_,d.2 ⟨c,e,λm hm=>f m<|FS _ hm⟩⟩;obtain hm'|hm':=xab.1 hm'
  simp_all;simp_all
def Fo(G:N MF):MF where
 blk k:=∃m∈G,m.blk k
 p S w:=yP S G w/\Jm G
 keep:=λh k hb=>⟨yP.keep k (λm a i hi=>hb i ⟨m,a,hi⟩) h.1,h.2⟩
 sub:=λh k=>⟨yP.sub k h.1,h.2⟩
 lt:=λh k ⟨m,a,b⟩=>yP.lt h.1 m a k b
def St.grp{we:qR}{Se:K->Prop}{G ms:N MF}{Γ:N FF}{w:qR}:St we Se (Fo G::ms) Γ w↔St we Se (G++ms) Γ w:=by
 constructor;rintro⟨h1,d,c,S,e,f,i,b,g⟩;refine⟨h1,d,AQ.2 ⟨b.1.2,c.2,λm hm k a m' h=>c.1 k ⟨m,hm,a⟩ m' h⟩,S,e,f,λm hm k a=> ?_,GG.2 ⟨b.1.1,b.2⟩,g⟩;obtain hm|hm:=xab.1 hm
 exact i (Fo G) (IR) k ⟨m,hm,a⟩;grind;rintro⟨h1,d,c,S,e,f,i,b,g⟩;have⟨j,l,a3⟩:=AQ.1 c;have⟨n,o⟩:=GG.1 b;refine⟨h1,d,⟨λk a m' h=>by have⟨m,hm,a⟩:=a;exact a3 m hm k a m' h,l⟩,S,e,f,λm hm k a=> ?_,⟨⟨n,j⟩,o⟩,g⟩;obtain rfl|hm:=xai.1 hm
 have⟨m,hm,a⟩:=a;grind;grind
def YT(hv:N wW):zT K where
 n:=1
 agg:=I
 n1 _:=O
 p _ r cs _:=∃u,hv[r]? =Z u/\u.oneCell'=wT/\cs=[u]
 len:=by rintro _ _ _ _ ⟨u,_,_,rfl⟩;rfl
 one:=by rintro _ _ _ _ ⟨u,_,a,rfl⟩ c hc;rw[xad]at hc;subst hc;exact a
 keep h _:=h
 sub h _:=h
def zcx{hv:N wW}{r:K}{u:wW}{S:K->Prop}{w:qR}(h:hv[r]? =Z u)(h1:u.oneCell'=wT):(fV (YT hv) r u).p S w:=⟨[u],O,u,h,h1,O⟩
def zf1{hv:N wW}{r:K}{v:wW}{S:K->Prop}{w:qR}(h:(fV (YT hv) r v).p S w):hv[r]? =Z v:=by obtain⟨cs,rfl,u,h1,_,rfl⟩:=h;exact h1
def Tv{hv b:N wW}{S:K->Prop}{w:qR}:∀{ix:N K}{cs:N wW},yQ (YT hv) S ix cs w->yQ (YT<|hv++b) S ix cs w
 |[],_,h=>h
 |r::ix,cs,⟨c,q,h1,⟨u,a,d,e⟩,f⟩=>⟨c,q,h1,⟨u,by rw[xaZ (xaz.1 a).1];exact a,d,e⟩,Tv f⟩
def zcZ{hv a:N wW}{E:kW}{v:wW}{ix:N K}{S:K->Prop}{w:qR}(h:(mO (YT hv) E v ix).p S w):(mO (YT<|hv++a) E v ix).p S w:=by have⟨cs,h1,b⟩:=h;exact⟨cs,h1,Tv b⟩
def vF{α:Type}(e:zT α)(E:kW):N wW->N (N α)->N MF
 |u::hv,xs::a=>mO e E u xs::vF e E hv a
 |_,_=>[]
theorem Ke{α:Type}{e:zT α}{E:kW}:∀{hv:N wW}{b:N (N α)}{r:K}{u:wW}{xs:N α},hv[r]? =Z u->b[r]? =Z xs->(vF e E hv b)[r]? =Z (mO e E u xs)
 |u'::hv,c::b,0,u,xs,h1,a=>by
  simp only[xbD,xav]at h1 a;subst h1;subst a;rfl
 |u'::hv,c::b,r+1,u,xs,h1,a=>Ke (hv:=hv) (by simpa using h1)<|by simpa using a
 |[],_,r,_,_,h1,_=>by simp at h1
 |_::_,[],r,_,_,_,a=>by simp at a
def IQ{α:Type}{e:zT α}{E:kW}:∀{hv:N wW}{b:N (N α)}{r:K}{u:wW}{ys:N α},hv[r]? =Z u->(vF e E hv b).set r (mO e E u ys)=vF e E hv (b.set r ys)
 |u'::hv,a::b,0,u,ys,h1=>by
  simp only[xbD,xav]at h1;subst h1;rfl
 |u'::hv,a::b,r+1,u,ys,h1=>by
  show mO e E u' a::(vF e E hv b).set r (mO e E u ys)=mO e E u' a::vF e E hv (b.set r ys);rw[IQ<|by simpa using h1]
 |[],_,r,_,_,h1=>by simp at h1
 |u'::hv,[],r,u,ys,h1=>by cases r<;>rfl
def E7{α:Type}{e:zT α}{E:kW}{u:wW}{xs:N α}:∀{hv:N wW}{a:N (N α)},X hv=X a->vF e E (hv++[u]) (a++[xs])=vF e E hv a++[mO e E u xs]
 |[],[],_=>rfl
 |u'::hv,b::a,h=>by
  show mO e E u' b::vF e E (hv++[u]) (a++[xs])=_;rw[E7<|by simpa using h];rfl
 |[],_::_,h=>by cases h
 |_::_,[],h=>by cases h
def zmb{α:Type}(e:zT α)(E E1:kW)(v:wW)(hv:N wW)(a:N (N α))(ix:N K):MF:=Fo (mO (YT hv) E v ix::vF e E1 hv a)
section
variable{α:Type}{e:zT α}{E E1:kW}{v:wW}{hv:ww wW}{wn:ww (ww α)}{ix:ww wL}{we:qR}{Se:wL->Prop}{ms:ww MF}{Γ:ww FF}{w:qR}
theorem zmH{r:K}{u:wW}{xs:N α}(h1:hv[r]? =Z u)(a:wn[r]? =Z xs)(ms:N MF):((mO (YT hv) E v ix::vF e E1 hv wn)++ms)[r+1]? =Z (mO e E1 u xs):=by grind [Ke,xaZ]
def Su{r:K}{u:wW}{ys:N α}(h1:hv[r]? =Z u)(a:r<X wn)(hl:X hv=X wn)(ms:N MF):((mO (YT hv) E v ix::vF e E1 hv wn)++ms).set (r+1) (mO e E1 u ys)=(mO (YT hv) E v ix::vF e E1 hv (wn.set r ys))++ms:=by have b:=xaa a;have h:=Ke (e:=e) (E:=E1) h1 b;have c:=(xaz.1 h).1;rw[xfJ _ _ (by simpa using c),xfh,IQ h1]
def St.adopt{u:wW}{ys:N α}(hl:X hv=X wn)(h:St we Se (zmb e E E1 v hv wn ix::mO e E1 u ys::ms) Γ w):St we Se (zmb e E E1 v (hv++[u]) (wn++[ys]) ix::ms) Γ w:=by
 have h1:=St.grp.1 h;have a:St we Se ((mO (YT hv) E v ix::vF e E1 (hv++[u]) (wn++[ys]))++ms) Γ w:=by rw[E7 hl];simp_all
 have b:=a.conv (i:=0) (m':=mO (YT<|hv++[u]) E v ix) O O λS hp=>zcZ hp;exact St.grp.2 b
def zib{S a:K->Prop}(c:∀k,S k->a k)(d:∀m∈vF e E1 hv wn,∀k,m.blk k->a k)(h:yP S (vF e E1 hv wn) w){r:K}{u:wW}{xs:N α}(h1:hv[r]? =Z u)(b:wn[r]? =Z xs):(fV (eS e) xs u).p a w:=
 rP c (λk f=>d _ (xbv<|Ke h1 b) k f) (yP.get h<|Ke h1 b)
def Bw{S a:K->Prop}(hl:X hv=X wn)(b:∀k,S k->a k)(d:∀m∈vF e E1 hv wn,∀k,m.blk k->a k)(h:yP S (vF e E1 hv wn) w):∀{ix:N K}{cs:N wW},yQ (YT hv) S ix cs w->yQ (eS e) a (ix.map λr=>wn.getD r []) cs w
 |[],_,h=>h
 |r::ix,cs,⟨c,q,h1,⟨u,f,l,g⟩,i⟩=>by
  have n:=(xaz.1 f).1;have j:wn[r]? =Z (wn.getD r []):=by simp_all
  exact⟨c,q,h1,⟨u,g,wg.1<|zib b d h f j⟩,Bw hl b d h i⟩
def St.mat_frz(hl:X hv=X wn)(h:St we Se (zmb e E E1 v hv wn ix::ms) Γ w):St we Se ms (fV (eS<|eS e) (ix.map λr=>wn.getD r []) v::Γ) w:=by refine h.freeze (i:=0) O λS c d b hp=> ?_;have⟨⟨⟨cs,h1,f⟩,g⟩,_⟩:=hp;have j:=λm l k a=>b k ⟨m,FS _ l,a⟩;have n:(mO (eS e) E v<|ix.map λr=>wn.getD r []).p c w:=⟨cs,by rw[xan];exact h1,Bw hl d j g f⟩;exact rP (λk a=>a) (λk a=>b k ⟨_,IR,a⟩) n
end
def mPr(p:Prop):MF where
 blk _:=UP
 p _ _:=p
 keep h _ _:=h
 sub h _:=h
 lt _ _ a:=a.elim
def yN:wW->wW
 |.tuple us=>us.toList.headD Z9
 |_=>Z9
def xX:wW->N wW
 |.tuple us=>us.toList.tail
 |_=>[]
def cK(v:wW)(hv:N wW):wW:=.tuple (v::hv).toArray
def B5{α:Type}(e:zT α)(E E1:kW)(u:wW)(a:N (N α))(ix:N K):MF:=Fo (mPr (X (xX u)=X a)::mO (YT<|xX u) E (yN u) ix::vF e E1 (xX u) a)
def mBo{α:Type}(e:zT α)(E a:kW)(u:wW)(xs:N α):MF:=Fo [mPr<|X (xX u)=1,mP (YT<|xX u).c a (yN u) 0,mO e E ((xX u).headD Z9) xs]
def mHo(a:kW)(u:wW):MF:=Fo [mPr<|X (xX u)=1,mP (YT<|xX u).c a (yN u) 0]
end
section
def oP{α:Type}(e:zT α)(S:K->Prop):V α->N wW->qR->Prop
 |none,cs,_=>cs=[.pointer wS]
 |some y,cs,w=>∃v,cs=[v]/\(fP e y v).p S w
def eO{α:Type}(e:zT α):zT (V α)where
 n:=1
 agg:=I
 n1 _:=O
 p S x cs w:=oP e S x cs w
 len:=by
  intro S x cs w h
  cases x with
  |none=>rw[show cs=_ from h];rfl
  |some y=>obtain⟨v,rfl,_⟩:=h;rfl
 one:=by
  intro S x cs w h c hc
  cases x with
  |none=>rw[show cs=_ from h]at hc;rw[xad.1 hc];rfl
  |some y=>obtain⟨v,rfl,b,o,d,rfl,_⟩:=h;rw[xad.1 hc];rfl
 keep:=by
  intro S x cs w w' h k
  cases x with
  |none=>exact h
  |some y=>have⟨v,h1,a⟩:=h;exact⟨v,h1,(fP e y v).keep a k⟩
 sub:=by
  intro S f x cs w h k
  cases x with
  |none=>exact h
  |some y=>have⟨v,h1,a⟩:=h;exact⟨v,h1,(fP e y v).sub a k⟩
section
variable{α:Type}{e:zT α}{S:wL->Prop}{w:qR}{v:wW}
def zrf(h:(fV (eO e) wS v).p S w):v=.pointer wS:=by obtain⟨cs,rfl,h⟩:=h;rw[show cs=_ from h];rfl
def zrI:(fV (eO e) wS (.pointer wS)).p S w:=⟨[.pointer wS],O,O⟩
def ziW{y:α}(h:(fV (eO e) (Z y) v).p S w):(fP e y v).p S w:=by obtain⟨cs,rfl,v,rfl,h⟩:=h;exact h
def zq5{y:α}(h:(fP e y v).p S w):(fV (eO e) (Z y) v).p S w:=⟨[v],O,v,O,h⟩
def zqi{x:V α}(h:(fV (eO e) x v).p S w):∃p,v=.pointer p/\p.isNone=x.isNone:=by
 cases x with
 |none=>exact⟨_,zrf h,O⟩
 |some y=>have⟨b,o,cs,h1,_⟩:=ziW h;exact⟨_,h1,O⟩
end
def eW{α:Type}(e:zT α):zT α where
 n:=e.n
 agg:=wT
 n1 h:=by cases h
 p:=e.p
 len:=e.len
 one:=e.one
 keep:=e.keep
 sub:=e.sub
def Sub.wrap{α:Type}(e:zT α)(x:α):Sub (eW e).c x 0 e x id:=λS w cs h=>Sub.self e x S w cs h
def eH{α:Type}(e:zT α)(off:K)(nl:α->α)(hv:N wW):BO (α×K)where
 p S z cs w:=∃u,hv[z.2]? =Z u/\u.oneCell'=wT/\cs[off]? =Z u/\e.p S (nl z.1) (cs.set off (.slice wS 0 0)) w
 keep:=λ⟨u,h1,a,b,c⟩ k=>⟨u,h1,a,b,e.keep c k⟩
 sub:=λ⟨u,h1,a,b,c⟩ k=>⟨u,h1,a,b,e.sub c k⟩
def mVr{α β:Type}(q:Prop)(e:zT α)(E off:K)(nl:α->α)(s:zT β)(E1:kW)(u:wW)(z:α)(xs:N β):MF:=Fo [mPr<|X (xX u)=1/\q,mP (eH e off nl<|xX u) E (yN u) (z,0),mO s E1 ((xX u).headD Z9) xs]
def mVh{α:Type}(q:Prop)(e:zT α)(E off:K)(nl:α->α)(u:wW)(z:α):MF:=Fo [mPr<|X (xX u)=1/\q,mP (eH e off nl<|xX u) E (yN u) (z,0)]
def eRw(n:K)(ag:ut)(hn:ag=I->n=1):zT (V<|N wW)where
 n:=n
 agg:=ag
 n1:=hn
 p _ x cs _:=X cs=n/\(∀c∈cs,c.oneCell'=wT)/\∀l,x=Z l->cs=l
 len h:=h.1
 one h:=h.2.1
 keep h _:=h
 sub h _:=h
section
variable{α β γ:Type}{e:zT α}{s:zT β}{g:zT γ}{off o:wL}{nl:α->α}{hv wr:ww wW}{S:wL->Prop}{w:qR}{cs:ww wW}
theorem znZ{z:α×K}(h:(eH e off nl hv).p S z cs w):(eRw e.n e.agg e.n1).p S wS cs w:=by have⟨u,h1,b,d,a⟩:=h;have hl:=e.len a;rw[xbe]at hl;refine⟨hl,λc hc=> ?_,λl hl=>by cases hl⟩;have⟨k,f⟩:=xfB.1 hc;by_cases e1:k=off;simp_all;refine e.one a c<|xfB.2 ⟨k,?_⟩;grind
def zpV{x:α}{v:wW}(h:(fV e x v).p S w):(fV (eRw e.n e.agg e.n1) (Z v.cells.toList) v).p S w:=by obtain⟨cs,rfl,a⟩:=h;refine⟨cs,O,e.len a,e.one a,λl hl=> ?_⟩;cases hl;exact(e.val_cells a).symm
def zlb{z:α×K}(h:(eH e off nl hv).p S z cs w):(eH e off nl<|hv++wr).p S z cs w:=by have⟨u,h1,a⟩:=h;exact⟨u,by rw[xaZ (xaz.1 h1).1];exact h1,a⟩
def zq3{z:α}{r a:K}(b:hv[r]? =wr[a]?)(h:(eH e off nl hv).p S (z,r) cs w):(eH e off nl wr).p S (z,a) cs w:=by have⟨u,h1,c⟩:=h;exact⟨u,b▸h1,c⟩
def Sub.hole{z:α}{r:K}:Sub (eH e off nl hv) (z,r) off (YT hv) r (λa=>(z,a)):=by
 rintro S w cs ⟨u,h1,c,d,f⟩;have⟨h,i⟩:=xaz.1 d;refine⟨cs.take off,[u],cs.drop<|off+1,?_,by rw[xas];lia,⟨u,h1,c,O⟩,?_⟩;rw[<-i];simp;rintro w' a m k ⟨b,j,l,rfl⟩;have hl:X (cs.take off)=off:=by rw[xas];lia
 refine⟨b,j,l,?_,?_⟩;simp_all;have e1:(cs.take off++[b]++cs.drop (off+1)).set off (.slice wS 0 0)=cs.set off (.slice wS 0 0):=by
  have n:cs.set off (.slice wS 0 0)=cs.take off++ .slice wS 0 0::cs.drop (off+1):=by rw[xec,iq h]
  simp_all
 rw[e1];exact e.keep f k
def Sub.other{z:α}{r:K}{y:γ}{up:γ->α}(h:Sub e.c (nl z) o g y λy=>nl<|up y)(hd:o+g.n<=off\/off+1<=o):Sub (eH e off nl hv) (z,r) o g y (λy=>(up y,r)):=by
 rintro S w cs ⟨u,h1,q,B,C⟩;have⟨a,c,b,f,t,m,v⟩:=h S w _ C;have⟨hc,D⟩:=xaz.1 B;have E:=g.len m;have x:cs=(cs.set off (.slice wS 0 0)).set off u:=by rw[List.set_set,<-D,xde]
 obtain hd|hd:=hd
 have F:off-X (a++c)<X b:=by have:X (cs.set off (.slice wS 0 0))=X cs:=xbe;rw[f,xau]at this;rw[xau]at this⊢;lia
 have A:X (a++c)<=off:=by rw[xau];lia
 refine⟨a,c,b.set (off-X (a++c)) u,?_,t,m,?_⟩;rw[x,f,xfC _ _ A];intro w' y' d k j;have p:=v w' y' d k j;have G:=g.len j;have hi:X (a++d)=X (a++c):=by rw[xau,xau,E,G]
 refine⟨u,h1,q,?_,?_⟩;rw[xbl W,hi,xdY F];have:(a++d++b.set (off-X (a++c)) u).set off (.slice wS 0 0)=a++d++b:=by
  rw[xfC _ _ W,hi,List.set_set];have hp:b[off-X (a++c)]? =Z (.slice wS 0 0):=by have:=Z2 (λl:N wW=>l[off]?) f;simp only[xdY hc]at this;rw[xbl A]at this;exact this.symm
  have⟨_,hp⟩:=xaz.1 hp;rw[<-hp,xde]
 rw[this];exact p;have i:off<X a:=W
 refine⟨a.set off u,c,b,?_,by rw[xbe];exact t,m,?_⟩;rw[x,f,xar,xfJ _ _ i,xar];intro w' y' d k j;have p:=v w' y' d k j;refine⟨u,h1,q,?_,?_⟩;rw[xar,xaZ (by rw[xbe];exact i),xdY i];have:(a.set off u++d++b).set off (.slice wS 0 0)=a++d++b:=by
  rw[xar,xfJ _ _ (by rw[xbe];exact i),List.set_set];have hp:a[off]? =Z (.slice wS 0 0):=by have:=Z2 (λl:N wW=>l[off]?) f;simp only[xdY hc]at this;rw[xar,xaZ i]at this;exact this.symm
  have⟨_,hp⟩:=xaz.1 hp;rw[<-hp,xde,xar]
 rw[this];exact p
end
end
section
variable{v:wW}{S:wL->Prop}{w:qR}
def eCh:zT K where
 n:=1
 agg:=I
 n1 _:=O
 p _ x cs _:=cs=[.int .u8 (x:J)]/\x<256
 len h:=by simp[h.1]
 one h:=by intro c hc;rw[h.1]at hc;simp at hc;subst hc;rfl
 keep h _:=h
 sub h _:=h
def xU(s:WS):N K:=s.data.toList.map UInt8.toNat
def eTx:zT (N K)where
 n:=1
 agg:=I
 n1 _:=O
 p _ x cs _:=∃s:WS,cs=[.string s]/\xU s=x/\s.size<=9223372036854775807
 len:=by rintro _ _ _ _ ⟨s,rfl,_⟩;rfl
 one:=by rintro _ _ _ _ ⟨s,rfl,_⟩ c hc;simp at hc;subst hc;rfl
 keep h _:=h
 sub h _:=h
def zse{x:K}(h:(fV eCh x v).p S w):v=.int .u8 (x:J)/\x<256:=by obtain⟨cs,rfl,rfl,h⟩:=h;exact⟨O,h⟩
def LL{x:K}(h:x<256):(fV eCh x (.int .u8 (x:J))).p S w:=⟨_,O,O,h⟩
def zdi{x:N K}(h:(fV eTx x v).p S w):∃s:WS,v=.string s/\xU s=x/\s.size<=9223372036854775807:=by obtain⟨cs,rfl,s,rfl,h1,a⟩:=h;exact⟨s,O,h1,a⟩
def zdA{s:WS}{x:N K}(h:xU s=x)(a:s.size<=9223372036854775807):(fV eTx x (.string s)).p S w:=⟨_,O,s,O,h,a⟩
def kL(s:WS):X (xU s)=s.size:=by simp_all [xU]
inductive Ty
 |i
 |u
 |b
 |l (t:Ty)
 |p (s t:Ty)
 |a (k:K) (t:Ty)
 |ch
 |tx
 |po (t:Ty)
 |w1 (t:Ty)
def Ty.D:Ty->Type
 |.i=>J
 |.u=>K
 |.b=>ut
 |.l t=>N t.D
 |.p s t=>s.D×t.D
 |.a _ t=>N t.D
 |.ch=>K
 |.tx=>N K
 |.po t=>V t.D
 |.w1 t=>t.D
def Ty.rep:(t:Ty)->zT t.D
 |.i=>eI
 |.u=>eU
 |.b=>Gv
 |.l t=>eS t.rep
 |.p s t=>eP s.rep t.rep
 |.a k t=>eA k t.rep
 |.ch=>eCh
 |.tx=>eTx
 |.po t=>eO t.rep
 |.w1 t=>eW t.rep
def Ty.z:(t:Ty)->t.D
 |.i=>(0:J)
 |.u=>(0:K)
 |.b=>I
 |.l t=>([]:N t.D)
 |.p s t=>(s.z,t.z)
 |.a k t=>So k t.z
 |.ch=>(0:K)
 |.tx=>([]:N K)
 |.po t=>(wS:V t.D)
 |.w1 t=>t.z
def Ty.n:Ty->K
 |.p s t=>s.n+t.n
 |.a k t=>k*t.n
 |.w1 t=>t.n
 |_=>1
def Ty.n_rep:∀t:Ty,t.rep.n=t.n
 |.i=>rfl
 |.u=>rfl
 |.b=>rfl
 |.l _=>rfl
 |.ch=>rfl
 |.tx=>rfl
 |.p s t=>by show s.rep.n+t.rep.n=_;rw[Ty.n_rep s,Ty.n_rep t];rfl
 |.a k t=>by show k*t.rep.n=_;rw[Ty.n_rep t];rfl
 |.po _=>rfl
 |.w1 t=>Ty.n_rep t
def Ty.same:(s t:Ty)->V (PLift<|s=t)
 |.i,.i=>Z ⟨O⟩
 |.u,.u=>Z ⟨O⟩
 |.b,.b=>Z ⟨O⟩
 |.ch,.ch=>Z ⟨O⟩
 |.tx,.tx=>Z ⟨O⟩
 |.l s,.l t=>match Ty.same s t with
  |some ⟨h⟩=>Z ⟨Z2 Ty.l h⟩
  |none=>wS
 |.p s t,.p c d=>match Ty.same s c,Ty.same t d with
  |some ⟨h⟩,Z ⟨e⟩=>Z ⟨h▸e▸O⟩
  |_,_=>wS
 |.a k s,.a f t=>if g:k=f then(match Ty.same s t with
  |some ⟨h⟩=>Z ⟨g▸h▸O⟩
  |none=>wS)else wS
 |.po s,.po t=>match Ty.same s t with
  |some ⟨h⟩=>Z ⟨Z2 Ty.po h⟩
  |none=>wS
 |.w1 s,.w1 t=>match Ty.same s t with
  |some ⟨h⟩=>Z ⟨Z2 Ty.w1 h⟩
  |none=>wS
 |_,_=>wS
def Ty.cast{R:Type}(s t:Ty)(x:s.D)(k:t.D->V R):V R:=match Ty.same s t with
 |some ⟨h⟩=>k<|h▸x
 |none=>wS
def rm:N Ty->Type
 |[]=>Wd
 |t::r=>t.D×rm r
def IK:N Ty->Type
 |[]=>Wd
 |[t]=>t.D
 |t::s::r=>t.D×IK (s::r)
structure Fl(α:Type)where
 off:K
 f:Ty
 get:α->f.D
 set:f.D->α->α
def Fl.self(t:Ty):Fl t.D:=⟨0,t,id,λy _=>y⟩
def X2{α:Type}(f:V (Fl α)):K:=match f with
 |some f=>f.off
 |none=>0
def Zj{α:Type}(s:Ty)(f:V (Fl α))(xs:N s.D)(z:α):α:=match f with
 |some ⟨_,.l a,_,st⟩=>(match Ty.same s a with
  |some ⟨h⟩=>st (h▸xs) z
  |none=>z)
 |_=>z
def Fl.comp{α:Type}(a:Fl α)(c:Fl a.f.D):Fl α:=⟨a.off+c.off,c.f,λz=>c.get<|a.get z,λy z=>a.set (c.set y<|a.get z) z⟩
def xl:(k:K)->(t:Ty)->(i:K)->V (Fl t.D)
 |0,.w1 t,0=>Z ⟨0,t,λz=>z,λy _=>y⟩
 |0,_,_=>wS
 |1,t,i=>bif R i 0 then Z (Fl.self t)else wS
 |k+2,.p s t,0=>Z ⟨0,s,λz=>z.1,λy z=>(y,z.2)⟩
 |k+2,.p s t,i+1=>match xl (k+1) t i with
  |some f=>Z ⟨s.n+f.off,f.f,λz=>f.get z.2,λy z=>(z.1,f.set y z.2)⟩
  |none=>wS
 |_,_,_=>wS
structure PD where
 t:Ty
 x:t.D
def P6(d:uS)(l:K){α X Y:Type}(e:zT α)(E:kW)(b:X->wW->MF)(f:Y->wW->MF)(g:N α->X->V (N α×(X⊕Y))):Prop:=
 ∀ys x a r,g ys x=Z (a,r)->∀(v u:wW) we Se F G w,St we Se (b x u::mO e E v ys::F) G w->
  YieldAt xcR 0 d l #[v] w λq w'=>q=.returned (.bool r.isLeft)/\∃c,St we Se (xfi (λx=>b x c) (λy=>f y c) r::mO e E v a::F) G w'
def lOf:wW->K
 |.int _ x=>x.toNat
 |_=>0
inductive Dv
 |d (t:Ty) (x:t.D)
 |q (t:Ty) (x:t.D)
 |kb (b:ut)
 |un
 |nil
 |ow (o:K)
 |ep (o:K) (t:Ty) (j:K) (f:Fl t.D)
 |sv (o:K) (t:Ty) (lo n:K)
 |vs (o:K) (t:Ty)
 |vp (o:K) (t:Ty) (f:Fl t.D)
 |fn (f:XS) (c:N PD)
 |fp (dom cod:N Ty) (g:rm dom->V (IK cod))
 |pin (v:wW)
 |mw (o:K)
 |mv (o lo n:K)
 |hp (o j:K)
 |rw(o r:K)
 |rp (o:K) (t:Ty) (r j:K) (f:Fl t.D)
 |yd (o:K)
 |np
 |vf (o:K) (t:Ty) (n i:K)
 |bm (f:XS) (o:K) (t:Ty)
 |dz (t:Ty) (x:t.D) (n i:K)
 |ifc (q:PX)
inductive Od
 |own (t:Ty) (E:kW) (xs:N t.D)
 |var (t:Ty) (E:kW) (z:t.D)
 |mat (t:Ty) (E E1:kW) (wn:N (N t.D)) (ix:N K)
 |bo (t:Ty) (E E0:kW) (xs:N t.D)
 |ho (E0:kW)
 |vr (t:Ty) (E:kW) (s:Ty) (E1:kW) (n i:K) (z:t.D) (xs:N s.D)
 |vh (t:Ty) (E:kW) (s:Ty) (E1:kW) (n i:K) (z:t.D)
 |hid (t:Ty) (E:kW) (X Y:Type) (mX:X->wW->MF) (mY:Y->wW->MF) (g:N t.D->X->V (N t.D×(X⊕Y))) (x:X)
 |hiy (Y:Type) (mY:Y->wW->MF) (y:Y)
structure Sg where
 nx:K
 rg:N (K×K×Dv)
 ob:N (K×Od)
def oi:N (K×K×Dv)->K->K->V Dv
 |[],_,_=>wS
 |(a,b,d)::r,t,i=>bif R a t && R b i then Z d else oi r t i
def xB:N (K×Od)->K->V Od
 |[],_=>wS
 |(a,x)::r,o=>bif R a o then Z x else xB r o
def get(cx σ:Sg)(t i:K):V Dv:=match oi σ.rg t i with
 |some d=>Z d
 |none=>oi cx.rg t i
def QF(cx σ:Sg)(o:K):V Od:=match xB σ.ob o with
 |some d=>Z d
 |none=>xB cx.ob o
def fc(l:N K)(t:K):ut:=l.any<|R t
def Wx(rg:N (K×K×Dv))(t:K):ut:=rg.all λe=> !R e.1 t
def zqh(rg:N (K×K×Dv))(t:K):N (K×K×Dv):=rg.filter λe=> !R e.1 t
def yE:N (K×Od)->K->N (K×Od)
 |[],_=>[]
 |(a,y)::r,o=>bif R a o then r else(a,y)::yE r o
def kj:N (K×Od)->K->Od->N (K×Od)
 |[],_,_=>[]
 |(a,y)::r,o,x=>bif R a o then(a,x)::r else(a,y)::kj r o x
def qI(rg:N (K×K×Dv))(d:V Wf)(l:N (K×Dv)):N (K×K×Dv):=match d with
 |some t=>l.map (λe=>(t,e.1,e.2))++zqh rg t
 |none=>rg
def wM(cx:Sg)(d:V Wf):ut:=match d with
 |some t=>Wx cx.rg t
 |none=>wT
def Sg.put(σ:Sg)(d:V Wf)(l:N (K×Dv)):Sg:=⟨σ.nx,qI σ.rg d l,σ.ob⟩
def cv:wW->V Dv
 |.int .i64 x=>if WQ x then Z (.d .i x)else wS
 |.int .u64 x=>if 0<=x/\x<18446744073709551616 then Z (.d .u x.toNat)else wS
 |.bool b=>Z (.kb b)
 |.int .u8 x=>if 0<=x/\x<256 then Z (.d .ch x.toNat)else wS
 |.string s=>if s.size<=9223372036854775807 then Z (.d .tx<|xU s)else wS
 |.slice wS 0 0=>Z .nil
 |.pointer wS=>Z .np
 |.nilFunc=>Z (.pin .nilFunc)
 |_=>wS
def xA(cx σ:Sg):ul->V Dv
 |.tmp t=>get cx σ t 0
 |.const v=>cv v
 |.func f=>Z (.fn f [])
 |.global _=>wS
inductive TK
 |int (k:Wl)
 |bool
 |str
 |sl (E:kW)
 |st (k:K)
 |ar (k:K) (E:kW)
 |pt (E:kW)
structure TI where
 ty:Ty
 k:TK
 B:K
inductive AM
 |d (t:Ty)
 |q (t:Ty)
 |own (t:Ty) (E:kW)
 |fn (dom cod:N Ty)
 |var (t:Ty) (E:kW)
def AM.D:AM->Type
 |.d t=>t.D
 |.q t=>t.D
 |.own t _=>N t.D
 |.var t _=>t.D
 |.fn dom cod=>rm dom->V (IK cod)
def cj:N AM->Type
 |[]=>Wd
 |a::r=>a.D×cj r
inductive RM
 |d (t:Ty)
 |own (t:Ty) (E:kW)
 |var (t:Ty) (E:kW)
def RM.D:RM->Type
 |.d t=>t.D
 |.own t _=>N t.D
 |.var t _=>t.D
def bZ:N RM->Type
 |[]=>Wd
 |[a]=>a.D
 |a::b::r=>a.D×bZ (b::r)
def RM.ty:RM->Ty
 |.d t=>t
 |.own t _=> .l t
 |.var t _=>t
inductive TF
 |d (t:Ty)
 |q (t:Ty)
 |own (t:Ty) (E:kW)
 |var (t:Ty) (E:kW)
 |mat (t:Ty) (E E1:kW)
 |matv (t:Ty) (E E1:kW)
 |row (j:K)
 |view (j:K)
 |bo (t:Ty) (E E0:kW)
 |vr (t:Ty) (E:kW) (s:Ty) (E1:kW) (n i:K)
def TF.D:TF->Type
 |.d t=>t.D
 |.q t=>t.D
 |.own t _=>N t.D
 |.var t _=>t.D
 |.mat t _ _=>N (N t.D)×N K
 |.matv t _ _=>(N (N t.D)×N K)×(K×K)
 |.row _=>K
 |.view _=>K×K
 |.bo t _ _=>N t.D
 |.vr t _ s _ _ _=>t.D×N s.D
def Gq:TF->V K
 |.row j=>Z j
 |.view j=>Z j
 |_=>wS
inductive NF
 |kb (b:ut)
 |nil
 |ci (x:J)
 |cu (x:K)
 |al (s:K)
 |bm (s:K) (f:XS)
structure Sh where
 ds:N (K×TF)
 ns:N (K×NF)
structure Sgm where
 ro:N K
 tg:N (Tg×Sh)
structure Lp where
 hd:Sh
 sg:Sgm
structure An where
 bx:N K
 jn:N (K×Sgm)
 lp:N (K×Lp)
 dz:N (K×N K)
 vw:N K
 mt:N K
 vr:N (K×K×K)
def aR{α:Type}:N (K×α)->K->V α
 |[],_=>wS
 |(k,x)::r,t=>bif R k t then Z x else aR r t
end
end Go.Proofs.YtoegnnjcmlghhaaGreat
