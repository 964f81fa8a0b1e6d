/- What a proof needs: rules of walking, mirrors of functions and their plain laws. No condition. -/
import Derived.Test.YtmggkmchbdanfaaGreatZf2
import Derived.RangeFuncLeaves
set_option linter.all false
namespace Go.Proofs.YtmggkmchbdanfaaGreat
open Bool renaming true->I,false->wL
open Go renaming Value->wN,World->wP,TypeId->wT,Operand->wW,execOp->jp,Program->jP,Oper->ut,undef->uL,FuncId->Z3,Tmp->Z4,resolve->Wl,Code->Wn,heap_alloc_new->Wt,wpListIn->WF,invoke->WN,run_newObj_alloc->WS,ResultVar->WW,wpIn_mono->V2,Act->V6,Func->QR,results->Jp,Addr->JP,Calls->Ul,newRow->aC,Exit->bV,run_endRound->eL,Loop->eM,DataW->g8
open Go.Proofs.YtmggkmchbdanfaaGreat renaming Zr->M,bd->G,za->Y,nm->C,ze->Q,zf->E
open List renaming length->X,length->i7
open Nat renaming beq->F
open Option renaming some->Z,none->wF
open _root_ renaming rfl->O,List->N,Int->J,Nat->K,Option->V,List->xS,Nat->wr,Option->ww,trivial->wR,absurd->wS,Bool->v6,funext->qR,congrArg->kW,Array->ul,if_true->uP,if_false->uS,True->Z5,cond_false->XS,cond_true->Wd,of_decide_eq_true->Wf,reduceCtorEq->Ws,False->V3,reduceIte->V9,decide_eq_true_eq->Qr,or_false->gC
open Bool renaming and_eq_true->xab,false_eq_true->xar,false_or->xew,not_eq_true'->xcN,not_true->xeL,or_eq_true->xdR
open Deferred renaming ofValue->xcV
open Ending renaming returned->xeI
open Extern renaming find->xeS,findNext->xeF
open Extern.MathBitsCarry renaming m64->xbf,pair->xcq,three->xbJ
open Fence renaming wide->xfK
open List renaming all_eq_true->xaQ,any_eq_true->xfE,append_assoc->xao,append_nil->xbB,cons_append->xbL,filterMap_cons->xaR,filterMap_eq_nil_iff->xek,filter_cons->xfF,getD_eq_getElem?_getD->xaa,getElem?_append_left->xbj,getElem?_append_right->xbz,getElem?_cons_zero->xbZ,getElem?_eq_getElem->xak,getElem?_eq_some_iff->xax,getElem?_map->xcu,getElem?_take->xce,getElem?_zip_eq_some->xeO,length->xaH,length_append->xaq,length_cons->xaw,length_eq_one_iff->xcR,length_eq_zero_iff->xbv,length_map->xaZ,length_replicate->xaT,length_set->xbt,length_take->xas,map_append->xba,map_congr_left->xci,map_cons->xbU,map_nil->xer,mem_append->So,mem_cons->xag,mem_cons_of_mem->UV,mem_cons_self->FS,mem_filter->xbY,mem_filterMap->xea,mem_iff_getElem?->xfw,mem_map->xap,mem_of_getElem?->xby,mem_range->xbd,mem_singleton->xad,nil_append->xbH,not_mem_nil->H1,perm_append_comm->xeb,perm_append_comm_assoc->xdT,perm_middle->xcg,range->xaY,replicate->Nm,set->xfS,take_length->xcJ,take_of_length_le->xaW
open List.Perm renaming append_left->xbo,append_right->xeC,cons->xfv,refl->xdr,swap->xds
open List.cons renaming injEq->xeG
open Nat renaming add_zero->xbO,ble->xfQ,blt->xcX,eq_of_beq_eq_true->xdt,le_add_right->xbw,le_mul_of_pos_right->xcm,le_of_ble_eq_true->xca,le_refl->IR,le_succ->xbD,le_trans->xae,lt_of_lt_of_le->xaj,lt_or_ge->xbS,lt_succ_self->xdj,sub_self->xdb,zero_add->xaJ,zero_le->xac,zero_lt_one->xen
open Op renaming operands->xaB
open Oper renaming looksAt->xbm
open Option.some renaming injEq->xat
open Prod.mk renaming injEq->xdd
open Region renaming binds->xcs
open Result renaming andThen_ok->xal
open Sem renaming run_bind->xay,run_pure->xaO
open Sum renaming elim->xfe
open Value renaming bool->xeB,cells->xfL
open _root_.Array renaming getElem?_eq_some_iff->xbh,length_toList->xev,mem_toList_iff->xdH,replicate->xeE,toArray_toList->xdh
section
section
variable{P:jP}{cf:Cf}{fr:Fr}{cx σ:Sg}{vs vs':wr->wN}{env:y4}{w:wP}{R:Type}{r:R}
 {d:ww Z4}{ty t yt:wT}{pos:String}{aft:ul Edge}{g:ww (wr×v6)}{x y:wW}
def zgw{a b:K}(h:a≠b):F a b=wL:=YG h
def UF:∀{ob:N (K×Od)}{o p:K},p≠o->xy (yx ob o) p=xy ob p
 |[],_,_,_=>rfl
 |(q,X)::r,o,p,h=>by
  unfold yx;cases a:F q o
  ·simp only[XS];unfold xy;rw[UF h]
  ·simp only[Wd];have:=zY a;subst this;conv=>rhs;unfold xy
   rw[zgw<|λe=>h e.symm];rfl
def jI{ob:N (K×Od)}{p:K}:∀{os:N K},bZ os p=wL->xy (vI ob os) p=xy ob p
 |[],_=>rfl
 |o::r,h=>by
  simp only[bZ,List.any_cons,Bool.or_eq_false_iff]at h;unfold vI;rw[UF (λe=>by subst e;simp at h),jI h.2]
def Jj{ob:N (K×Od)}:∀{os:N K},∀e∈vI ob os,e∈ob
 |[],_,h=>h
 |o::r,e,h=>Jj e<|ue e h
def zcI{α:Type _}:∀{l:N α}{i:K}{a:α},l[i]? =Z a->l.Perm (a::l.eraseIdx i)
 |[],_,_,h=>by simp at h
 |b::l,0,a,h=>by simp at h;subst h;exact xdr _
 |b::l,i+1,a,h=>((zcI<|by simpa using h).cons b).trans<|xds _ _ _
def jR{ob:N (K×Od)}{o:K}{X:Od}(h:xy ob o=Z X):(OS vs fr cx ob).Perm (Ki vs (o,X)::OS vs fr cx (yx ob o)):=by
 have⟨i,h1,_,a⟩:=vm h;show(MS vs ob++(MS vs cx.ob++fr.F)).Perm (Ki vs (o,X)::(MS vs (yx ob o)++(MS vs cx.ob++fr.F)));rw[a,<-dq h1];exact zcI<|JJ h1
def KS(C:∀s∈cf.cs,xh P s):∀{dom:N AM}{xs:N wW}{cs:N PD}{k:cj dom->N K->V R},ZU cf cx σ dom xs cs k=Z r->
 ∃z os,k z os=Z r/\i7 xs+i7 cs=i7 dom/\(∀o∈os,∃X,(o,X)∈σ.ob)/\∀vs (fr:Fr) env S w,(∀x,Xd P vs env S w cx σ x)->∀a:N wN,i7 a=i7 cs->zE S (Gh cs a) w->
  zE S (ky P dom z<|xs.map (ev env)++a) w/\(OS vs fr cx σ.ob).Perm (Zo dom z (xs.map (ev env)++a)++OS vs fr cx (vI σ.ob os))/\J6 dom (xs.map (ev env)++a)=os.map vs
 |[],[],[],k,h=>⟨(),[],h,O,λ_ l=>wS l H1,λ_ _ _ _ _ _ _ _ _=>⟨wR,xdr _,O⟩⟩
 |.q t::dom,[],c::cs,k,h=>by
  simp only[ZU]at h;have⟨e,h⟩:=z7 h;subst e;have⟨z,os,h1,n,l,u⟩:=KS C h;refine⟨_,os,h1,by simp at n⊢;lia,l,λvs fr env S w hl a m hc=> ?_⟩
  cases a with
  |nil=>cases m
  |cons v a=>have⟨j,A,B⟩:=u vs fr env S w hl a (by simpa using m) hc.2;exact⟨⟨hc.1,j⟩,A,B⟩
 |.d t::dom,x::xs,cs,k,h=>by
  simp only[ZU]at h;have⟨y,h,M⟩:=VB h;have⟨z,os,h1,n,l,u⟩:=KS C h;exact⟨_,os,h1,by simp at n⊢;lia,l,λvs fr env S w hl a m hc=>by have⟨j,A,B⟩:=u vs fr env S w hl a m hc;exact⟨⟨M P vs env S w<|hl x,j⟩,A,B⟩⟩
 |.q t::dom,x::xs,cs,k,h=>by
  simp only[ZU]at h;split at h
  ·next s y F=>
   have⟨e,h⟩:=z7 h;subst e;have⟨z,os,h1,n,l,u⟩:=KS C h;exact⟨_,os,h1,by simp at n⊢;lia,l,λvs fr env S w hl a m hc=>by have⟨j,A,B⟩:=u vs fr env S w hl a m hc;exact⟨⟨zj F<|hl x,j⟩,A,B⟩⟩
  ·cases h
 |.own t E::dom,x::xs,cs,k,h=>by
  simp only[ZU]at h;split at h
  ·next o F=>
   split at h
   ·next s Q ys hd=>
    have⟨D,G⟩:=z6 h;have D:=zY D;subst D;have⟨e,H⟩:=z7 G;cases e;have⟨z,os,J,n,l,u⟩:=KS C H;have⟨hn,h1⟩:=z6 J;simp only[xcN]at hn;refine⟨_,o::os,h1,by simp at n⊢;lia,λp hp=> ?_,λvs fr env S w hl a m hc=> ?_⟩
    ·obtain rfl|hp:=xag.1 hp
     ·have⟨i,j,_⟩:=vm hd;exact⟨_,xby j⟩
     ·exact l p hp
    have⟨j,A,B⟩:=u vs fr env S w hl a m hc;have hv:ev env x=vs o:=zj F<|hl x;refine⟨⟨wR,j⟩,A.trans ?_,?_⟩
    ·have hp:=jR (vs:=vs) (fr:=fr) (cx:=cx)<|(jI hn).trans hd;refine(xbo _ hp).trans ?_;refine xcg.trans ?_;show List.Perm _ (mO t.rep E (ev env x) _::(Zo dom z (xs.map (ev env)++a)++_));rw[hv];exact xdr _
    ·show ev env x::J6 dom (xs.map (ev env)++a)=vs o::os.map vs;rw[hv,B]
   ·cases h
  ·cases h
 |.var t E::dom,x::xs,cs,k,h=>by
  simp only[ZU]at h;split at h
  ·next o Y F=>
   split at h
   ·next s Q y hd=>
    have⟨D,G⟩:=z6 h;have D:=zY D;subst D;have⟨e,H⟩:=z7 G;subst e;have⟨z,os,J,n,l,u⟩:=KS C H;have⟨hn,h1⟩:=z6 J;simp only[xcN]at hn;refine⟨_,o::os,h1,by simp at n⊢;lia,λp hp=> ?_,λvs fr env S w hl a m hc=> ?_⟩
    ·obtain rfl|hp:=xag.1 hp
     ·have⟨i,j,_⟩:=vm hd;exact⟨_,xby j⟩
     ·exact l p hp
    have⟨j,A,B⟩:=u vs fr env S w hl a m hc;have⟨hv,b,T⟩:=zj F<|hl x;refine⟨⟨⟨b,hv.trans T⟩,j⟩,A.trans ?_,?_⟩
    ·have hp:=jR (vs:=vs) (fr:=fr) (cx:=cx)<|(jI hn).trans hd;refine(xbo _ hp).trans ?_;refine xcg.trans ?_;show List.Perm _ (mP s.rep.c E (ev env x) _::(Zo dom z (xs.map (ev env)++a)++_));rw[hv];exact xdr _
    ·show ev env x::J6 dom (xs.map (ev env)++a)=vs o::os.map vs;rw[hv,B]
   ·cases h
  ·cases h
 |.fn L cod::dom,x::xs,cs,k,h=>by
  simp only[ZU]at h;have⟨f,h,U⟩:=zfx C h;have⟨z,os,h1,n,l,u⟩:=KS C h;refine⟨_,os,h1,by simp at n⊢;lia,l,λvs fr env S w hl a m hc=> ?_⟩;have⟨j,A,B⟩:=u vs fr env S w hl a m hc;refine⟨⟨?_,j⟩,A,B⟩
  cases hv:xo cx σ x with
  |none=>rename_i h0;rw[hv]at h0;simp[asF]at h0
  |some v=>exact U vs S w v _ hv<|zj hv<|hl x
 |[],_::_,_,_,h=>by simp[ZU]at h
 |[],[],_::_,_,h=>by simp[ZU]at h
 |.d _::_,[],_,_,h=>by simp[ZU]at h
 |.own _ _::_,[],_,_,h=>by simp[ZU]at h
 |.var _ _::_,[],_,_,h=>by simp[ZU]at h
 |.fn _ _::_,[],_,_,h=>by simp[ZU]at h
 |.q _::_,[],[],_,h=>by simp[ZU]at h
def lX:N RM->N wN->K->(K->wN)->K->wN
 |[],_,_,vs=>vs
 |.d _::r,us,o,vs=>lX r us.tail o vs
 |.own _ _::r,us,o,vs=>X5 (lX r us.tail (o+1) vs) o<|us.headD uL
 |.var _ _::r,us,o,vs=>X5 (lX r us.tail (o+1) vs) o<|us.headD uL
def Jc:∀{rs:N RM}{us:N wN}{o k:K},k<o->lX rs us o vs k=vs k
 |[],_,_,_,_=>rfl
 |.d _::r,us,o,k,h=>Jc (rs:=r) h
 |.own _ _::r,us,o,k,h=>by
  show X5 _ o _ k=_;rw[jS h,Jc W]
 |.var _ _::r,us,o,k,h=>by
  show X5 _ o _ k=_;rw[jS h,Jc W]
def sC{n o:K}{v:wN}(h:o≠n):X5 vs n v o=vs o:=by unfold X5;rw[YG h];rfl
theorem Kp:∀{rs:N RM}{x:iU rs}{i o:K},(∀e∈(uX rs x i o).2,o<=e.1/\e.1<o+(uX rs x i o).2.length)
 |[],_,_,_,e,he=>wS he H1
 |[.d _],_,_,_,e,he=>wS he H1
 |[.own _ _],_,_,o,e,he=>by
  obtain rfl:=xad.1 he;grind
 |[.var _ _],_,_,o,e,he=>by
  obtain rfl:=xad.1 he;grind
 |.d t::n::r,x,i,o,e,he=>Kp (rs:=n::r) (x:=x.2) (i:=i+1) e he
 |.own t E::n::r,x,i,o,e,he=>by
  have he:e∈(o,Od.own t E x.1)::(uX (n::r) x.2 (i+1)<|o+1).2:=he;have a:(uX (.own t E::n::r) x i o).2.length=(uX (n::r) x.2 (i+1)<|o+1).2.length+1:=O;rw[a];obtain rfl|he:=xag.1 he
  ·lia
  ·have:=Kp (rs:=n::r) (x:=x.2) (i:=i+1) (o:=o+1) e he;lia
 |.var t E::n::r,x,i,o,e,he=>by
  have he:e∈(o,Od.var t E x.1)::(uX (n::r) x.2 (i+1)<|o+1).2:=he;have a:(uX (.var t E::n::r) x i o).2.length=(uX (n::r) x.2 (i+1)<|o+1).2.length+1:=O;rw[a];obtain rfl|he:=xag.1 he
  ·exact⟨IR _,by show o<_;lia⟩
  ·have:=Kp (rs:=n::r) (x:=x.2) (i:=i+1) (o:=o+1) e he;lia
def px:∀{rs:N RM}{x:iU rs}{us:N wN}{i o:K},MS (lX rs us o vs) (uX rs x i o).2=Yj rs x us
 |[],_,_,_,_=>rfl
 |[.d _],_,_,_,_=>rfl
 |[.own t E],x,us,i,o=>by exact kW (λm=>[m])<|JF
 |[.var t E],x,us,i,o=>by exact kW (λm=>[m])<|IZ
 |.var t E::n::r,x,us,i,o=>by
  refine List.cons_eq_cons.2 ⟨IZ,?_⟩;exact(wx λe a=>sC (by have:=Kp e a;lia)).trans px
 |.d t::n::r,x,us,i,o=>by
  show MS (lX (n::r) us.tail o vs) (uX (n::r) x.2 (i+1) o).2=Yj (n::r) x.2 us.tail;exact px
 |.own t E::n::r,x,us,i,o=>by
  refine List.cons_eq_cons.2 ⟨JF,?_⟩;exact(wx λe a=>sC (by have:=Kp e a;lia)).trans px
def eD:∀{rs:N RM}{x:iU rs}{i o:K},∀e∈(uX rs x i o).1,∀p,vn e.2=Z p->p<o+(uX rs x i o).2.length
 |[],_,_,_,e,he=>wS he H1
 |[.d _],_,_,_,e,he=>by
  obtain rfl:=xad.1 he;intro p hp;cases hp
 |[.own _ _],_,_,o,e,he=>by
  obtain rfl:=xad.1 he;intro p hp;cases hp;exact xdj _
 |[.var _ _],_,_,o,e,he=>by
  obtain rfl:=xad.1 he;intro p hp;cases hp;exact xdj _
 |.var t E::n::r,x,i,o,e,he=>by
  have a:(uX (.var t E::n::r) x i o).2.length=(uX (n::r) x.2 (i+1)<|o+1).2.length+1:=O;rw[a];obtain rfl|he:=xag.1 he
  ·intro p hp;cases hp;lia
  ·intro p hp;have:=eD (rs:=n::r) (x:=x.2) (i:=i+1) (o:=o+1) e he p hp;lia
 |.d t::n::r,x,i,o,e,he=>by
  obtain rfl|he:=xag.1 he
  ·intro p hp;cases hp
  ·exact eD (rs:=n::r) (x:=x.2) (i:=i+1) e he
 |.own t E::n::r,x,i,o,e,he=>by
  have a:(uX (.own t E::n::r) x i o).2.length=(uX (n::r) x.2 (i+1)<|o+1).2.length+1:=O;rw[a];obtain rfl|he:=xag.1 he
  ·intro p hp;cases hp;lia
  ·intro p hp;have:=eD (rs:=n::r) (x:=x.2) (i:=i+1) (o:=o+1) e he p hp;lia
def ru:∀{rs:N RM}{x:iU rs}{i o:K},∀e∈(uX rs x i o).1,∀p,vn e.2=Z p->o<=p
 |[],_,_,_,e,he=>wS he H1
 |[.d _],_,_,_,e,he=>by
  obtain rfl:=xad.1 he;intro p hp;cases hp
 |[.own _ _],_,_,o,e,he=>by
  obtain rfl:=xad.1 he;intro p hp;cases hp;exact IR _
 |[.var _ _],_,_,o,e,he=>by
  obtain rfl:=xad.1 he;intro p hp;cases hp;exact IR _
 |.var t E::n::r,x,i,o,e,he=>by
  obtain rfl|he:=xag.1 he
  ·intro p hp;cases hp;exact IR _
  ·intro p hp;have:=ru e he p hp;lia
 |.d t::n::r,x,i,o,e,he=>by
  obtain rfl|he:=xag.1 he
  ·intro p hp;cases hp
  ·exact ru e he
 |.own t E::n::r,x,i,o,e,he=>by
  obtain rfl|he:=xag.1 he
  ·intro p hp;cases hp;exact IR _
  ·intro p hp;have:=ru e he p hp;lia
def Dp:∀{rs:N RM}{x:iU rs}{us:N wN}{i o:K}{S:K->Prop},zE S (Yk rs x us) w->X us=X rs->∀e∈(uX rs x i o).1,∃j u,e.1=i+j/\us[j]? =Z u/\(wV P (lX rs us o vs) e.2 u).p S w
 |[],_,_,_,_,_,_,_,e,he=>wS he H1
 |[m],_,[],_,_,_,_,hl,_,_=>by cases hl
 |[.d _],x,u::us,i,o,S,h,hl,e,he=>by
  obtain rfl:=xad.1 he;exact⟨0,u,O,O,h.1⟩
 |[.own _ _],x,u::us,i,o,S,h,hl,e,he=>by
  obtain rfl:=xad.1 he;exact⟨0,u,O,O,(xK (vs:=vs)).symm⟩
 |[.var _ _],x,u::us,i,o,S,h,hl,e,he=>by
  obtain rfl:=xad.1 he;have h1:=xK (vs:=vs) (n:=o) (v:=u);exact⟨0,u,O,O,h1.symm,by have⟨b,f⟩:=h.1;exact⟨b,h1.trans f⟩⟩
 |.var t E::n::r,x,u::us,i,o,S,h,hl,e,he=>by
  obtain rfl|he:=xag.1 he
  ·have h1:=xK (vs:=lX (n::r) us (o+1) vs) (n:=o) (v:=u);exact⟨0,u,O,O,h1.symm,by have⟨b,f⟩:=h.1;exact⟨b,h1.trans f⟩⟩
  ·have⟨j,v,h1,a,c⟩:=Dp (rs:=n::r) (x:=x.2) (i:=i+1) (o:=o+1) h.2 (by simpa using hl) e he;refine⟨j+1,v,W,by simpa using a,?_⟩;have:wV P (lX (.var t E::n::r) (u::us) o vs) e.2 v=wV P (lX (n::r) us (o+1) vs) e.2 v:=gZ (λp hp=>sC (by have:=ru (rs:=n::r) (x:=x.2) (i:=i+1) (o:=o+1) e he p hp;lia)) v;rw[this];exact c
 |_::n::r,x,[],_,_,_,_,hl,_,_=>by cases hl
 |.d t::n::r,x,u::us,i,o,S,h,hl,e,he=>by
  obtain rfl|he:=xag.1 he
  ·exact⟨0,u,O,O,h.1⟩
  ·have⟨j,v,h1,a,c⟩:=Dp (rs:=n::r) (x:=x.2) (i:=i+1) (o:=o) h.2 (by simpa using hl) e he;exact⟨j+1,v,W,by simpa using a,c⟩
 |.own t E::n::r,x,u::us,i,o,S,h,hl,e,he=>by
  obtain rfl|he:=xag.1 he
  ·exact⟨0,u,O,O,(xK (vs:=lX (n::r) us (o+1) vs)).symm⟩
  ·have⟨j,v,h1,a,c⟩:=Dp (rs:=n::r) (x:=x.2) (i:=i+1) (o:=o+1) h (by simpa using hl) e he;refine⟨j+1,v,W,by simpa using a,?_⟩;have:wV P (lX (.own t E::n::r) (u::us) o vs) e.2 v=wV P (lX (n::r) us (o+1) vs) e.2 v:=gZ (λp hp=>sC (by have:=ru (rs:=n::r) (x:=x.2) (i:=i+1) (o:=o+1) e he p hp;lia)) v;rw[this];exact c
def zfa{f:Z3}{a:N wW}:∀{cs:N X2}{s:X2},zae cx σ f a cs=Z s->s∈cs/\s.f=f
 |c::cs,s,h=>by
  unfold zae at h;split at h
  ·simp_all
  ·have⟨h1,b⟩:=zfa h;exact⟨UV _ h1,b⟩
theorem zds{rs:N RM}{x:iU rs}{us:N wN}{o:K}{S:K->Prop}(h:zE S (Yk rs x us) w)(hl:X us=X rs):∀e∈(uX rs x (bif bu rs then 0 else 1) o).1,(vX P (lX rs us o vs) e.2 (X3 us) e.1).p S w:=by
 intro e c;have⟨j,u,h1,a,b⟩:=Dp (P:=P) (vs:=vs) h hl e c;have⟨i,dv⟩:=e
 match us,hl,a with
 |[],_,a=>simp at a
 |[v],hl,a=>
  obtain rfl:j=0:=by
   obtain _|j:=j
   ·rfl
   ·grind
  obtain⟨m,rfl⟩:=xcR.1 hl.symm;simp only[bu,Wd]at h1;simp only[xbZ,xat]at a;subst h1;subst a;exact b
 |v::f::us,hl,a=>
  have:bu rs=wL:=by
   match rs,hl with
   |[],_=>rfl
   |_::_::_,_=>rfl
  rw[this]at h1;simp only[XS]at h1;obtain rfl:i=j+1:=W
  exact⟨(v::f::us).toArray,u,O,by simpa using a,b⟩
def rm:N RM->N wN->N wN
 |[],_=>[]
 |.d _::r,us=>rm r us.tail
 |.own _ _::r,us=>us.headD uL::rm r us.tail
 |.var _ _::r,us=>us.headD uL::rm r us.tail
def im:∀{rs:N RM}{x:iU rs}{us:N wN}{i o:K},(uX rs x i o).2.map (λe=>lX rs us o vs e.1)=rm rs us
 |[],_,_,_,_=>rfl
 |[.d _],x,us,i,o=>rfl
 |[.own t E],x,us,i,o=>by
  show[X5 vs o (us.headD uL) o]=[us.headD uL];rw[xK]
 |[.var t E],x,us,i,o=>by
  show[X5 vs o (us.headD uL) o]=[us.headD uL];rw[xK]
 |.var t E::n::r,x,us,i,o=>by
  show X5 (lX (n::r) us.tail (o+1) vs) o (us.headD uL) o::(uX (n::r) x.2 (i+1)<|o+1).2.map (λe=>lX (.var t E::n::r) us o vs e.1)=us.headD uL::rm (n::r) us.tail;rw[xK,<-im];congr 1;refine xci λe a=> ?_;exact sC (by have:=Kp e a;lia)
 |.d t::n::r,x,us,i,o=>im (rs:=n::r)
 |.own t E::n::r,x,us,i,o=>by
  show X5 (lX (n::r) us.tail (o+1) vs) o (us.headD uL) o::(uX (n::r) x.2 (i+1)<|o+1).2.map (λe=>lX (.own t E::n::r) us o vs e.1)=us.headD uL::rm (n::r) us.tail;rw[xK,<-im];congr 1;refine xci λe a=> ?_;exact sC (by have:=Kp e a;lia)
def BW:∀{m:K}{rs:N RM}{us:N wN},p9 m rs=I->X us=X rs->rm rs us=us.drop m
 |0,[],us,_,hl=>by
  obtain rfl:=xbv.1 hl;rfl
 |0,.own _ _::r,[],_,hl=>by cases hl
 |0,.own _ _::r,u::us,h,hl=>by
  show u::rm r us=u::us;rw[BW (rs:=r) h<|by simpa using hl];rfl
 |0,.var _ _::r,[],_,hl=>by cases hl
 |0,.var _ _::r,u::us,h,hl=>by
  show u::rm r us=u::us;rw[BW (rs:=r) h<|by simpa using hl];rfl
 |m+1,.d _::r,[],_,hl=>by cases hl
 |m+1,.d _::r,u::us,h,hl=>BW (m:=m) h<|by simpa using hl
 |0,.d _::_,_,h,_=>by cases h
 |_+1,[],_,h,_=>by cases h
 |_+1,.own _ _::_,_,h,_=>by cases h
 |_+1,.var _ _::_,_,h,_=>by cases h
def zbS{vs':K->wN}:∀{os:N K}{ob:N (K×Od)},os.map vs'=ob.map (λe=>vs' e.1)->MS vs' (EZ os ob)=MS vs' ob
 |[],[],_=>rfl
 |[],_::_,h=>by cases h
 |_::_,[],h=>by cases h
 |o::os,(p,X)::ob,h=>by
  simp only[xbU,xeG]at h;show Ki vs' (o,X)::MS vs' (EZ os ob)=Ki vs' (p,X)::MS vs' ob;rw[zbS h.2];cases X<;>simp only[Ki]<;>rw[h.1]
def P3:∀{os:N K}{ob:N (K×Od)},∀e∈EZ os ob,e.1∈os
 |[],_,e,he=>wS he<|by simp[EZ]
 |_::_,[],e,he=>wS he<|by simp[EZ]
 |o::os,p::ob,e,he=>by
  rcases xag.1 (show e∈(o,p.2)::EZ os ob from he)with rfl|he
  ·simp_all
  ·exact UV _<|P3 e he
def TV{rs:N RM}{x:iU rs}{us:N wN}{o m:K}{S:K->Prop}(h:zE S (Yk rs x us) w)(hl:X us=X rs)(z:m<=X us):∀e∈(uX rs x (BJ m) o).1.filter (λe=>xcX e.1<|BJ m+m),(vX P (lX rs us o vs) e.2 (X3<|us.take m) e.1).p S w:=by
 intro e c;have⟨c,f⟩:=xbY.1 c;have f:e.1<BJ m+m:=Nat.blt_eq.mp f;have⟨j,u,h1,n,l⟩:=Dp (P:=P) (vs:=vs) h hl e c;have⟨i,dv⟩:=e;simp only at h1 f;have q:j<m:=W
 have a:(us.take m)[j]? =Z u:=by rw[xce,iq q];exact n
 have b:X (us.take m)=m:=by rw[xas];lia
 generalize us.take m=vs' at*
 match vs',b,a with
 |[],b,a=>simp at a
 |[v],b,a=>
  obtain rfl:m=1:=b.symm;obtain rfl:j=0:=W
  simp only[xbZ,xat]at a;obtain rfl:i=0:=h1;subst a;exact l
 |v::s::k,b,a=>
  have:BJ m=1:=by
   unfold BJ;rw[zgw<|by simp at b;lia];rfl
  rw[this]at h1;obtain rfl:i=j+1:=W
  exact⟨(v::s::k).toArray,u,O,by simpa using a,l⟩
def zbC{f:wW}{f':Z3}{cs:N PD}{s:X2}{c:ul wW}{ts:ul wT}{k:Sg->V R}{z:cj s.dom}{q:iU s.cod}{os:N K}(hd:xU cx d=I)(u:xo cx σ f=Z (.fn f' cs))
 (hp:xh P s) (D:s.f=f') (U:i7 c.toList+i7 cs=i7 s.dom) (hC:∀o∈os,∃X,(o,X)∈σ.ob) (B:∀vs (fr:Fr) env S w,(∀x,Xd P vs env S w cx σ x)->∀a:N wN,i7 a=i7 cs->zE S (Gh cs a) w->
  zE S (ky P s.dom z<|c.toList.map (ev env)++a) w/\(OS vs fr cx σ.ob).Perm (Zo s.dom z (c.toList.map (ev env)++a)++OS vs fr cx (vI σ.ob os))/\J6 s.dom (c.toList.map (ev env)++a)=os.map vs)
 (Y:s.M z=Z q) (h:zjp σ d s os q k=Z r):da P cx ⟨d,.call ⟨.value f,c,ts⟩,ty,pos,aft,g⟩ σ k r:=by
 unfold zjp at h;split at h
 ·next G=>
   refine⟨_,h,xbw _ _,λfr vs env w H=> ?_⟩
   have⟨p,C⟩:=H
   have⟨S0,_,j⟩:=C.ex
   have⟨a,hv,hi,_⟩:=zj u<|zL j f
   have A:=hp.plain G Y (vs:=c.toList.map (ev env)++a)<|by simp at U⊢;lia
   have hl:(jp (ev env) ⟨d,.call ⟨.value f,c,ts⟩,ty,pos,aft,g⟩).run P w=.ok (.enter f' (c.toList.map (ev env)++a).toArray) w:=by simp[jp,Wl,hv,xcV,WN,qd<|D▸hp.1]
   have J:St fr.we fr.Se (Zo s.dom z (c.toList.map (ev env)++a)++OS vs fr cx (vI σ.ob os)) (ky P s.dom z (c.toList.map (ev env)++a)++GS P vs env fr cx σ) w:=by
    refine St.perm (St.weak C λS w n=>zE.append ?_ n) (B vs fr env S0 w (zL j) a hi ?_).2.1
    ·have⟨i,m,E,hc⟩:=zj u<|zL n f;rw[hv]at m;have:a=i:=by simpa using m
     subst this;exact(B vs fr env S w (zL n) a hi hc).1
    ·have⟨i,m,E,hc⟩:=zj u<|zL j f;rw[hv]at m;have:a=i:=by simpa using m
     subst this;exact hc
   unfold ur
   rw[hl]
   rw[D]at A
   refine(A fr.we fr.Se _ _ w J).mono ?_
   rintro e w' ⟨us,he,F,L⟩
   refine⟨X3 us,he,?_⟩
   refine Ka (vs:=vs) (vs':=lX s.cod us σ.nx vs) (l:=(uX s.cod q (bif bu s.cod then 0 else 1) σ.nx).1) (Γl:=Yk s.cod q us) p hd O (xbw _ _) (λo v=>Jc v) eD ?_ (λS w n=>zds n F) ?_
   ·intro e he
    obtain he|he:=So.1 he
    ·exact(Kp e he).2
    ·exact xaj (p.o1 e<|Jj e he)<|xbw _ _
   ·have e1:OS (lX s.cod us σ.nx vs) fr cx ((uX s.cod q (bif bu s.cod then 0 else 1) σ.nx).2++vI σ.ob os)=Yj s.cod q us++OS vs fr cx (vI σ.ob os):=by
     show MS _ (_++_)++(MS _ cx.ob++_)=_;have Q:MS (lX s.cod us σ.nx vs) (vI σ.ob os)=MS vs (vI σ.ob os):=wx λe he=>Jc<|p.o1 e<|Jj e he;have T:MS (lX s.cod us σ.nx vs) cx.ob=MS vs cx.ob:=wx λe he=>Jc<|p.o2 e he;rw[T,show MS (lX s.cod us σ.nx vs) ((uX s.cod q (bif bu s.cod then 0 else 1) σ.nx).2++vI σ.ob os)=MS _ _++MS _ _ from xba,Q,px,xao]
    rw[e1]
    exact L
 ·next b G=>
   have⟨ht,h⟩:=z6 h
   refine⟨_,h,xbw _ _,λfr vs env w H=> ?_⟩
   have⟨p,C⟩:=H
   have⟨S0,_,j⟩:=C.ex
   have⟨a,hv,hi,_⟩:=zj u<|zL j f
   have A:=hp.2 z q Y (c.toList.map (ev env)++a)<|by simp at U⊢;lia
   rw[G]at A
   have hl:(jp (ev env) ⟨d,.call ⟨.value f,c,ts⟩,ty,pos,aft,g⟩).run P w=.ok (.enter f' (c.toList.map (ev env)++a).toArray) w:=by simp[jp,Wl,hv,xcV,WN,qd<|D▸hp.1]
   have hy:J6 s.dom (c.toList.map (ev env)++a)=os.map vs:=by
    have⟨i,m,E,hc⟩:=zj u<|zL j f;rw[hv]at m;have:a=i:=by simpa using m
    subst this;exact(B vs fr env S0 w (zL j) a hi hc).2.2
   have J:St fr.we fr.Se (Zo s.dom z (c.toList.map (ev env)++a)++OS vs fr cx (vI σ.ob os)) (ky P s.dom z (c.toList.map (ev env)++a)++GS P vs env fr cx σ) w:=by
    refine St.perm (St.weak C λS w n=>zE.append ?_ n) (B vs fr env S0 w (zL j) a hi ?_).2.1
    ·have⟨i,m,E,hc⟩:=zj u<|zL n f;rw[hv]at m;have:a=i:=by simpa using m
     subst this;exact(B vs fr env S w (zL n) a hi hc).1
    ·have⟨i,m,E,hc⟩:=zj u<|zL j f;rw[hv]at m;have:a=i:=by simpa using m
     subst this;exact hc
   unfold ur
   rw[hl]
   rw[D]at A
   refine(A fr.we fr.Se _ _ w J).mono ?_
   rintro e w' ⟨us,he,⟨F,hx⟩,L⟩
   refine⟨X3<|us.take<|i7 s.cod-(b+1),he,?_⟩
   have hn:∀o,o<σ.nx->lX s.cod us σ.nx vs o=vs o:=λo v=>Jc v
   have hA:∀o∈os,o<σ.nx:=λo v=>by
    have⟨X,hX⟩:=hC o v;exact p.o1 _ hX
   have hD:MS (lX s.cod us σ.nx vs) (EZ os (uX s.cod q (BJ<|i7 s.cod-(b+1)) σ.nx).2)=Yj s.cod q us:=by
    rw[zbS,px];rw[im,BW ht F,hx,hy];exact xci λo v=>hn o<|hA o v
   refine Ka (vs:=vs) (vs':=lX s.cod us σ.nx vs) (l:=(uX s.cod q (BJ<|i7 s.cod-(b+1)) σ.nx).1.filter λe=>xcX e.1<|BJ (i7 s.cod-(b+1))+(i7 s.cod-(b+1))) (Γl:=Yk s.cod q us) p hd O (xbw _ _) hn (λe he=>eD e (xbY.1 he).1) ?_ (λS w n=>TV n F W) ?_
   ·intro e he
    obtain he|he:=So.1 he
    ·exact xaj (hA _<|P3 e he)<|xbw _ _
    ·exact xaj (p.o1 e<|Jj e he)<|xbw _ _
   ·have e1:OS (lX s.cod us σ.nx vs) fr cx (EZ os (uX s.cod q (BJ<|i7 s.cod-(b+1)) σ.nx).2++vI σ.ob os)=Yj s.cod q us++OS vs fr cx (vI σ.ob os):=by
     show MS _ (_++_)++(MS _ cx.ob++_)=_;have Q:MS (lX s.cod us σ.nx vs) (vI σ.ob os)=MS vs (vI σ.ob os):=wx λe he=>Jc<|p.o1 e<|Jj e he;have T:MS (lX s.cod us σ.nx vs) cx.ob=MS vs cx.ob:=wx λe he=>Jc<|p.o2 e he;rw[T,show MS (lX s.cod us σ.nx vs) (EZ os (uX s.cod q (BJ<|i7 s.cod-(b+1)) σ.nx).2++vI σ.ob os)=MS _ _++MS _ _ from xba,Q,hD,xao]
    rw[e1]
    exact L
def zlV(b:∀s∈cf.cs,xh P s){f:wW}{f':Z3}{cs:N PD}{s:X2}{a:ul wW}{ts:ul wT}{k:Sg->V R}(hd:xU cx d=I)(c:xo cx σ f=Z (.fn f' cs))
 (e:zae cx σ f' a.toList cf.cs=Z s) (h:zlL cf cx σ d s a.toList cs k=Z r):da P cx ⟨d,.call ⟨.value f,a,ts⟩,ty,pos,aft,g⟩ σ k r:=by
 have⟨h1,i⟩:=zfa e;have⟨z,os,h,j,l,m⟩:=KS b h;have⟨q,n,h⟩:=iH h;exact zbC hd c (b s h1) i j l m n h
def ze1{f:Z3}{a:N wW}:∀{l:N BA}{p:BA},ziw cx σ f a l=Z p->p∈l/\p.s.f=f
 |c::l,p,h=>by
  unfold ziw at h;split at h
  ·simp_all
  ·have⟨h1,b⟩:=ze1 h;exact⟨UV _ h1,b⟩
def zlz(P:jP)(cx:Sg)(o:ut)(σ:Sg)(kp:PX->Sg->V R)(r:R):Prop:=∃q σ',kp q σ'=Z r/\σ'.nx=σ.nx/\∀(fr:Fr) (vs:K->wN) (env:y4) (w:wP),cV P fr cx σ vs env w->OpP P o env w (λa w'=>a=OT q/\cV P fr cx σ' vs env w')
def zpb(H:∀s∈cf.cs,xh P s){f:wW}{f':Z3}{cs:N PD}{p:BA}{a:ul wW}{ts:ul wT}{kp:PX->Sg->V R}{k:Sg->V R}(hd:xU cx d=I)(m:xo cx σ f=Z (.fn f' cs))
 (u:POK P p) (v:p.s.f=f') (h:zmu cf cx σ d p a.toList cs kp k=Z r):da P cx ⟨d,.call ⟨.value f,a,ts⟩,ty,pos,aft,g⟩ σ k r\/zlz P cx ⟨d,.call ⟨.value f,a,ts⟩,ty,pos,aft,g⟩ σ kp r:=by
 unfold zmu at h;have⟨z,os,h,hi,J,A⟩:=KS H h;have⟨y,E,h⟩:=iH h
 cases y with
 |inr q=>exact .inl<|zbC (s:=p.n) hd m u.n v hi J A (by show(match p.M z with|some (.inr r)=>Z r|_=>wF)=Z q;rw[E]) h
 |inl q=>
  refine .inr ⟨q,_,h,O,λfr vs env w K=> ?_⟩;have⟨o,F⟩:=K;have⟨S0,_,j⟩:=F.ex;have⟨b,hv,hl,_⟩:=zj m<|zL j f;have G:=(u.2 z (a.toList.map (ev env)++b)<|by simp at hi⊢;lia).2 q E;have hn:(jp (ev env) ⟨d,.call ⟨.value f,a,ts⟩,ty,pos,aft,g⟩).run P w=.ok (.enter f' (a.toList.map (ev env)++b).toArray) w:=by simp[jp,Wl,hv,xcV,WN,qd<|v▸u.1]
  have L:St fr.we fr.Se (Zo p.s.dom z (a.toList.map (ev env)++b)++OS vs fr cx (vI σ.ob os)) (ky P p.s.dom z (a.toList.map (ev env)++b)++GS P vs env fr cx σ) w:=by
   refine St.perm (St.weak F λS w B=>zE.append ?_ B) (A vs fr env S0 w (zL j) b hl ?_).2.1
   ·have⟨i,l,hp,C⟩:=zj m<|zL B f;rw[hv]at l;have:b=i:=by simpa using l
    subst this;exact(A vs fr env S w (zL B) b hl C).1
   ·have⟨i,l,hp,C⟩:=zj m<|zL j f;rw[hv]at l;have:b=i:=by simpa using l
    subst this;exact C
  unfold OpP;rw[hn];rw[v]at G;refine⟨λc hc=>(by cases hc),(G fr.we fr.Se _ _ w L).mono ?_⟩;rintro e w' ⟨D,Q⟩;exact⟨_,D,O,⟨λe D=>o.o1 e<|Jj e D,o.o2,o.r1,o.r2⟩,Q⟩
end
end
section
def St.pr{we:wP}{Se:K->Prop}{ms:N MF}{Γ:N FF}{w:wP}{p:Prop}(hp:p)(h:St we Se ms Γ w):St we Se (mPr p::ms) Γ w:=by
 have⟨h1,b,c,S,d,e,i,f,g⟩:=h;refine⟨h1,b,⟨λk a=>a.elim,c⟩,S,d,e,λm hm k a=> ?_,⟨hp,f⟩,g⟩;obtain rfl|hm:=xag.1 hm
 ·exact a.elim
 ·grind
def St.unpr{we:wP}{Se:K->Prop}{ms:N MF}{Γ:N FF}{w:wP}{p:Prop}(h:St we Se (mPr p::ms) Γ w):p/\St we Se ms Γ w:=
 ⟨wy h (i:=0) O λS hp=>hp,St.drop (i:=0) h⟩
section
variable{P:jP}{cf:Cf}{fr:Fr}{cx σ:Sg}{vs vs':wr->wN}{env:y4}{w:wP}{R:Type}{r:R}
 {d:ww Z4}{ty t yt:wT}{pos:String}{aft:ul Edge}{g:ww (wr×v6)}{x y:wW}
def Jq{d a:Dv}{v:wN}{i:K}{S:K->Prop}(h:(vX P vs d v i).p S w)(b:∀u,(wV P vs d u).p S w->(wV P vs a u).p S w):(vX P vs a v i).p S w:=by
 cases i with
 |zero=>exact b _ h
 |succ i=>have⟨us,u,h1,c,e⟩:=h;exact⟨us,u,h1,c,b _ e⟩
theorem Vp{v u:wN}{mk:K->Dv}{X:Od}{ob:N (K×Od)}(a:Bd cx σ)(hd:xU cx d=I)(b:∀e∈ob,e.1<σ.nx)(i:∀o,vn (mk o)=Z o)(c:∀S w,(wV P (X5 vs σ.nx u) (mk σ.nx) v).p S w)
 (hc:St fr.we fr.Se (Ki (X5 vs σ.nx u) (σ.nx,X)::OS vs fr cx ob) (GS P vs env fr cx σ) w):mI P fr cx σ.nx vs ⟨σ.nx+1,v7 σ.rg d [(0,mk σ.nx)],(σ.nx,X)::ob⟩ (put env d v) w:=by
 refine Ka (vs':=X5 vs σ.nx u) (Γl:=[]) a hd O (xbD _) (λo f=>jS f) ?_ ?_ ?_ ?_
 ·simp_all
 ·grind
 ·intro S w _ e h;obtain rfl:=xad.1 h;exact c S w
 ·show St _ _ (Ki (X5 vs σ.nx u) (σ.nx,X)::OS (X5 vs σ.nx u) fr cx ob) _ _;rw[LK a b];exact hc
def Vn:∀{ob:N (K×Od)}{o:K}{X Y:Od},xy ob o=Z X->xy (kQ ob o Y) o=Z Y/\yx (kQ ob o Y) o=yx ob o
 |(b,e)::r,o,X,Y,h=>by
  unfold xy at h;unfold kQ;cases a:F b o<;>rw[a]at h
  ·obtain⟨h1,c⟩:=Vn h;constructor
   ·simp only[XS];unfold xy;rw[a];exact h1
   ·simp only[XS];unfold yx;rw[a];simp only[XS,c]
  ·constructor
   ·simp only[Wd];unfold xy;rw[a];rfl
   ·simp only[Wd];unfold yx;rw[a];rfl
def jG{o:K}{X:Od}{Γ:N FF}(a:xy σ.ob o=Z X)(h:St fr.we fr.Se (OS vs fr cx σ.ob) Γ w):St fr.we fr.Se (Ki vs (o,X)::OS vs fr cx (yx σ.ob o)) Γ w:=h.perm<|jR a
def Cd{ob:N (K×Od)}{o:K}{X Y:Od}{Γ:N FF}(a:xy ob o=Z X)(h:St fr.we fr.Se (Ki vs (o,Y)::OS vs fr cx (yx ob o)) Γ w):St fr.we fr.Se (OS vs fr cx<|kQ ob o Y) Γ w:=by
 obtain⟨h1,b⟩:=Vn a;have:=jR (vs:=vs) (fr:=fr) (cx:=cx) h1;rw[b]at this;exact h.perm this.symm
def gN{o o2:K}{X Y:Od}{Γ:N FF}(a:F o o2=wL)(b:xy σ.ob o=Z X)(c:xy σ.ob o2=Z Y)(h:St fr.we fr.Se (OS vs fr cx σ.ob) Γ w):
 St fr.we fr.Se (Ki vs (o,X)::Ki vs (o2,Y)::OS vs fr cx (yx (yx σ.ob o) o2)) Γ w:=by
 have h1:xy (yx σ.ob o) o2=Z Y:=by rw[UF<|λe=>by subst e;simp at a];exact c
 exact(h.perm<|jR b).perm<|(jR h1).cons _
def moU{o:K}{u:wN}{X:Od}:Ki (X5 vs o u) (o,X)=Ki (λ_=>u) (0,X):=by
 cases X<;>simp only[Ki,xK]
def zpQ{S:K->Prop}{w:wP}:(YO [.slice wF 0 0]).p S 0 (xfL (.slice wF 0 0)).toList w:=⟨_,O,O,O⟩
def zjK(a:yZ P cf.tt){k:Sg->V R}(hd:xU cx d=I)(h:Tb cf cx σ d t x y k=Z r):da P cx ⟨d,.makeSlice t x y,ty,pos,aft,g⟩ σ k r:=by
 unfold Tb at h;split at h
 ·next s E B C=>
  have⟨hi,h⟩:=z6 h;split at h
  ·next M E1 Q n f hn=>
   have⟨j,F,h⟩:=zby h;have⟨i,h⟩:=Zm h;have⟨xs,l,h⟩:=xI h;have G:=Tm a f O;refine⟨_,h,xbD _,λfr vs env w H=> ?_⟩;have⟨m,o⟩:=H;have⟨S0,_,c⟩:=o.ex;have q:ev env x=.int .i64 (j:J):=by rw[(wY hn<|zL c x).1,F]
   have A:=(a _ _ f).2.1;refine(P8 (e:=YO [.slice wF 0 0]) (z:=0) (xs:=xs) (n:=j) (vV a C) G q ((zcz hi).symm.trans q) A i (λ_ _=>zpQ) l w o).mono ?_;rintro v w' ⟨b,rfl,_,K⟩;have hc:X xs=j:=by rw[l];exact xaT
   have h1:=K.closeF 0 O (by rw[hc];exact IR _)<|zht A i;rw[hc]at h1;refine Vp (vs:=vs) (mk:=.mw) (u:=K6 (.slice (Z ⟨b,0,wF⟩) j j) [.slice wF 0 0]) m hd m.o1 (λ_=>O) (λS w=>by simp only[wV,xK];rfl) ?_;rw[moU];refine St.grp.2<|St.pr (p:=X ([.slice wF 0 0]:N wN)=X ([[]]:N (N s.D))) O ?_;have L:=St.nilO (e:=s.rep) (E:=E1) h1;exact L.perm<|xds ..
  ·cases h
 ·cases h
def zl7{a:V JP}{n c:K}:(Value.slice a n c).oneCell'=I/\(Value.slice a n c).cells= #[.slice a n c]:=⟨O,O⟩
def Ey{α:Type}{e:zV α}{E:wT}{v:wN}{xs:N α}{S:K->Prop}(h:(mO e E v xs).p S w):v.oneCell'=I/\v.cells= #[v]:=by
 rcases eC h with⟨rfl,_⟩|⟨b,cap,rfl,_⟩<;>exact zl7
def znQ(c:yZ P cf.tt)(o:uz P cf.tt){n:K}{ps:ul (K×wW)}{k:Sg->V R}(hd:xU cx d=I)(h:zil cf cx σ d t n ps.toList k=Z r):da P cx ⟨d,.buildSlice t n ps,ty,pos,aft,g⟩ σ k r:=by
 unfold zil at h;split at h
 ·next s E B x f q=>
  have⟨hn,h⟩:=z6 h;have hn:=zY hn;subst hn;split at h
  ·next o2 z=>
   split at h
   ·next L E1 ys hc=>
    have⟨hi,h⟩:=z7 h;cases hi;have⟨bytes,j,A⟩:=K0 c o f;refine⟨_,h,xbD _,λfr vs env w C=> ?_⟩;have⟨l,a⟩:=C;have⟨S0,_,b⟩:=a.ex;have F:ev env x=vs o2:=zj z<|zL b x;have⟨q1,q2⟩:=wy (jG hc a) (i:=0) (m:=mO s.rep E1 (vs o2) ys) O λS hp=>Ey hp;have hl:jN [(0,vs o2)]=[vs o2]:=by rw[zlR,q2]
    refine(zez (e:=YO [vs o2]) (zs:=[0]) (len:=1) (parts:=ps.toList) (vs:=[(0,vs o2)]) (vV c f) A (xen) O (by show 1*1<=_;lia) (by rw[q];simp[F]) (λS w G=>⟨by rw[q2];rfl,wR⟩) (λS w G=> ?_) w<|jG hc a).mono ?_
    ·rw[hl];exact⟨[vs o2],[],O,⟨_,O,q1,O⟩,O⟩
    rintro v w' ⟨M,rfl,_,H⟩;refine Vp (vs:=vs) (mk:=.mw) (u:=K6 v [vs o2]) l hd (λe J=>l.o1 e<|ue e J) (λ_=>O) (λS w=>by simp only[wV,xK];rfl) ?_;rw[moU];exact St.grp.2<|St.pr (p:=X ([vs o2]:N wN)=X ([ys]:N (N s.D))) O H
   ·cases h
  ·cases h
 ·cases h
def zgc(F:yZ P cf.tt){m:wT}{k:Sg->V R}(hd:xU cx d=I)(h:NX cf σ d m k=Z r):da P cx ⟨d,.alloc m,ty,pos,aft,g⟩ σ k r:=by
 unfold NX at h;split at h
 ·next s E B o=>
  have K:=Tm F o O;refine⟨_,h,xbD _,λfr vs env w q=> ?_⟩;have⟨f,A⟩:=q;refine(tQ (e:=(YO [.slice wF 0 0]).c) (z:=0) K (λS w=>zpQ (S:=S) (w:=w)) w A).mono ?_;rintro v w' ⟨b,rfl,_,C⟩;refine Vp (vs:=vs) (mk:=.mw) (u:=K6 (.pointer<|some ⟨b,0,wF⟩) [.slice wF 0 0]) f hd f.o1 (λ_=>O) (λS w=>by simp only[wV,xK];rfl) ?_;rw[moU];refine St.grp.2<|St.pr (p:=X ([.slice wF 0 0]:N wN)=1) O ?_;exact(St.nilO (e:=s.rep) (E:=E)<|C.toP 0 O).perm<|xds ..
 ·next a n B o=>
  split at h
  ·next i E1 hi=>
   split at h
   ·next off s L st j=>
    have⟨G,H,Q,hc,_,J⟩:=(F _ _ o).1;simp only at H hc J;refine⟨_,h,xbD _,λfr vs env w q=> ?_⟩;have⟨f,A⟩:=q;refine(tQ (e:=UM a.rep off (st ([]:N s.D)) [.slice wF 0 0]) (z:=(a.z,0)) H (λS w=>zft j (hc S w) (J _ _ _ _ _ _ j) O) w A).mono ?_;rintro v w' ⟨b,rfl,_,C⟩;refine Vp (vs:=vs) (mk:=.mw) (u:=K6 (.pointer<|some ⟨b,0,wF⟩) [.slice wF 0 0]) f hd f.o1 (λ_=>O) (λS w=>by simp only[wV,xK];rfl) ?_;rw[moU];refine St.grp.2<|St.pr (p:=X ([.slice wF 0 0]:N wN)=1/\vrP s (xe n a i)) ⟨O,_,_,_,j⟩ ?_;have M:=(St.nilO (e:=s.rep) (E:=E1)<|C.toP 0 O).perm<|xds ..;show St _ _ (mP (UM a.rep (YL<|xe n a i) (uj s (xe n a i) []) [.slice wF 0 0]) m _ (a.z,0)::mO s.rep E1 (.slice wF 0 0) []::_) _ _;rw[j];have hp:uj s (Z ⟨off,.l s,L,st⟩) ([]:N s.D)=st ([]:N s.D):=qR λz=>ig;rw[hp];exact M
   ·cases h
  ·cases h
 ·cases h
def zkq{ms:N MF}{Γ:N FF}{we:wP}{Se:K->Prop}{α:Type}{e:o6 α}{z:α}{v:wN}{E:wT}(c:ev env x=v)(f:∀(S:K->Prop) (w:wP),zE S Γ w->e.p S z v.cells.toList w):
 OG P ⟨d,.box E x,ty,pos,aft,g⟩ env we Se ms Γ (λb=>(.pointer<|some ⟨b,0,wF⟩)) (λb=>(mB e E b z::ms)) (λ_=>Γ) (λ_=>Z5):=by
 intro w h;refine ur.of_value (w':=w.alloc (.cells v.cells E)) ?_ ⟨_,O,wR,h.fresh (J4.alloc w _) O iP λS j a=>⟨_,Wt w _,?_⟩⟩
 ·simp only[jp,c,Instr.box,newVar,aC,xay,WS,xal,xaO]
 ·exact e.keep (e.sub (f S w a) λk l i=>⟨i,W⟩) (J4.alloc w _).to
def znb(M:yZ P cf.tt){m:wT}{k:Sg->V R}(hd:xU cx d=I)(h:zfz cf cx σ d m x k=Z r):da P cx ⟨d,.box m x,ty,pos,aft,g⟩ σ k r:=by
 unfold zfz at h;split at h
 ·next a n B i E1 t2 y n2 i2 Q hc C=>
  split at h
  ·next off s F st c=>
   have⟨j,h⟩:=z6 h;rw[xab,xab]at j;obtain rfl:=zY j.1;obtain rfl:=zY j.2.1;obtain rfl:=Qa j.2.2;have⟨T,h⟩:=z7 h;refine⟨_,h,xbD _,λfr vs env w G=> ?_⟩;have⟨q,H⟩:=G;refine(zkq (e:=UM a.rep off (st ([]:N s.D)) [.slice wF 0 0]) (z:=(y,0)) O (λS w J=> ?_) w H).mono ?_
   ·have K:=zj C<|zL J x;have⟨h1,f,A,o⟩:=K;rw[c]at A;cases A;exact zft c (uY h1) o O
   rintro v w' ⟨b,rfl,_,L⟩;refine Vp (vs:=vs) (mk:=.mw) (u:=K6 (.pointer<|some ⟨b,0,wF⟩) [.slice wF 0 0]) q hd q.o1 (λ_=>O) (λS w=>by simp only[wV,xK];rfl) ?_;rw[moU];refine St.grp.2<|St.pr (p:=X ([.slice wF 0 0]:N wN)=1/\vrP s (xe _ a _)) ⟨O,_,_,_,c⟩ ?_;have o:=(St.nilO (e:=s.rep) (E:=E1)<|L.toP 0 O).perm<|xds ..;show St _ _ (mP (UM a.rep (YL<|xe _ a _) (uj s (xe _ a _) []) [.slice wF 0 0]) m _ (y,0)::mO s.rep E1 (.slice wF 0 0) []::_) _ _;rw[c];have hp:uj s (Z ⟨off,.l s,F,st⟩) ([]:N s.D)=st ([]:N s.D):=qR λz=>ig;rw[hp];exact o
  ·cases h
 ·cases h
theorem zjT{v:V Dv}{o:K}(h:Py σ v=Z o):∃t n i E b E1 z xs,v=Z (.vf o t n i)/\xy σ.ob o=Z (.vr t E b E1 n i z xs):=by
 unfold Py at h;split at h
 ·next e c n0 i=>
  split at h
  ·next s E b E1 n j z xs f=>
   cases a:F i j && (F n0 n && (Ty.same c s).isSome)<;>rw[a]at h
   ·cases h
   ·cases h;rw[xab,xab]at a;obtain rfl:=zY a.1;obtain rfl:=zY a.2.1;obtain rfl:=Qa a.2.2;grind
  ·cases h
 ·cases h
def C2{hv:N wN}(h:X hv=1):hv=[hv.headD uL]:=by
 match hv,h with
 |[a],_=>rfl
theorem zkp(C:yZ P cf.tt){o:K}{k:Sg->V R}(hd:xU cx d=I)(D:xo cx σ x=Z (.mw o))(h:zaT cf σ d t o k=Z r):da P cx ⟨d,.load t x,ty,pos,aft,g⟩ σ k r:=by
 unfold zaT at h;split at h
 ·next q E' B s E a xs F i=>
  have⟨l,G,_⟩:=Z8 C F;refine⟨_,h,xbD _,λfr vs env w H=> ?_⟩;have⟨m,hc⟩:=H;have⟨S0,_,j⟩:=hc.ex;have hi:ev env x=yC (vs o):=zj D<|zL j x;have⟨n,h1⟩:=St.unpr<|St.grp.1<|jG i hc;have⟨b,v,J⟩:=h1.openP 0 O;refine(O0 (XG (e:=(YO<|xM<|vs o).c) (f:=YO<|xM<|vs o) (z':=0) (up:=id) 0 O (hi.trans v) (Sub.self (YO<|xM<|vs o) 0) G) w J).mono ?_;rintro u w' ⟨_,rfl,_,z⟩;have⟨S1,_,L⟩:=z.ex;have hu:=zcS L.1;have hl:=C2 n;have M:u=(xM<|vs o).headD uL:=by grind
  have A:=(z.weak (Δ:=GS P vs env fr cx σ) λS w h=>h.2).toP 0 O;rw[<-v]at A;refine Vp (vs:=vs) (mk:=.ow) (u:=u) m hd (λe N=> ?_) (λ_=>O) (λS w=>Q8 S w) ?_
  ·have⟨Q,g1,T⟩:=J7 i e N;rw[<-T];exact m.o1 Q g1
  ·rw[JF,M];have U:St fr.we fr.Se (mO s.rep E ((xM<|vs o).headD uL) xs::(Ki vs (o,.ho a)::OS vs fr cx (yx σ.ob o))) (GS P vs env fr cx σ) w':=by
    have h5:St fr.we fr.Se (mP (YO<|xM<|vs o).c a (yC<|vs o) 0::mO s.rep E ((xM<|vs o).headD uL) xs::OS vs fr cx (yx σ.ob o)) (GS P vs env fr cx σ) w':=A;have h6:=St.pr (p:=X (xM<|vs o)=1) n h5;have h7:St fr.we fr.Se ([mPr<|X (xM<|vs o)=1,mP (YO<|xM<|vs o).c a (yC<|vs o) 0]++mO s.rep E ((xM<|vs o).headD uL) xs::OS vs fr cx (yx σ.ob o)) (GS P vs env fr cx σ) w':=h6;exact(St.grp.2 h7).perm<|xds ..
   have hp:=jR (vs:=vs) (fr:=fr) (cx:=cx) (Vn (Y:=.ho a) i).1;rw[(Vn (Y:=.ho a) i).2]at hp;exact U.perm<|hp.symm.cons _
 ·cases h
def zfX(c:yZ P cf.tt){ps:ul (K×wW)}{k:Sg->V R}(hd:xU cx d=I)(h:NI cf cx σ d t ps.toList k=Z r):da P cx ⟨d,.build t ps,ty,pos,aft,g⟩ σ k r:=by
 unfold NI at h;split at h
 ·next e n B i _ f hv=>
  have⟨j,l,v,m,_,hi⟩:=(c _ _ f).1;have⟨a,_,⟨fs,A,pl,C,o⟩,_⟩:=(c _ _ f).2.2.2;simp only at l v m hi a o;have⟨hn,h⟩:=z6 h;split at h
  ·next off s U st b=>
   have⟨z,h,D⟩:=zaJ h;have E:∀F,ES P ⟨d,.build t ps,ty,pos,aft,g⟩ cx σ F [(0,.dz e z n i)]:=λF=>kj λenv w S vs Y hl=>by
    have G:=D P vs env S w λx H=>yA hl (by simpa[xaB]using H);refine⟨_,_,_,_,[hbF n e (ps.toList.map λq:K×wW=>(q.1,ev env q.2)) e.z z],[],Hs (e:=e.rep) (z0:=e.z) (z:=z) (parts:=ps.toList) (a▸l) a m ⟨fs,A,C⟩ O (λout=>out[off]? =Z (.slice wF 0 0))<|λS w h cs J hc=> ?_,wR,⟨G,wR⟩,λu w' L M=>zt ⟨M.1,_,b,L⟩⟩;have⟨out,q1,q2,N⟩:=HB.fill o h.1 hc;refine⟨out,q1,q2,?_⟩;rw[N i _ b (λp hp=> ?_) O,J]
    ·exact hi _ _ _ _ _ _ b
    ·obtain⟨q,Q,rfl⟩:=xap.1 hp;have:=xaQ.1 hn q Q;intro e1;simp only at e1;rw[e1]at this;simp at this
   exact⟨_,h,IR _,λfr vs env w T=>zlc (E _).mono hd (by rfl) T⟩
  ·cases h
 ·cases h
def zjM(N:yZ P cf.tt){o:K}{k:Sg->V R}(hd:xU cx d=I)(hi:Py σ (xo cx σ x)=Z o)(h:zaN cf σ d t o k=Z r):da P cx ⟨d,.load t x,ty,pos,aft,g⟩ σ k r:=by
 have⟨t0,n0,i,m,c,a,z',l,hn,s⟩:=zjT hi;unfold zaN at h;split at h
 ·next s0 q B s1 E s2 E1 n j z xs Q v=>
  rw[s]at v;simp only[xat,Od.vr.injEq]at v;obtain⟨rfl,rfl,rfl,rfl,rfl,rfl,T,U⟩:=v;cases T;cases U;have⟨hg,h⟩:=z6 h;have⟨C,hr,_⟩:=Z8 N Q;refine⟨_,h,xbD _,λfr vs env w hR=> ?_⟩;have⟨D,F⟩:=hR;have⟨S0,_,A⟩:=F.ex;have⟨b',f,G,hf,hv⟩:=zj hn<|zL A x;have⟨⟨hc,hw⟩,h1⟩:=St.unpr<|St.grp.1<|jG s F;have⟨b,H,h2⟩:=h1.openP 0 O;rw[H]at G;cases G;have hl:YL (xe n0 t0 i)=f.off:=by rw[hf];rfl
  have hm:ev env x=.pointer (Z ⟨b',YL<|xe n0 t0 i,wF⟩):=by rw[hl];exact hv.trans<|by rw[xaJ]
  refine(O0 (XG (e:=UM t0.rep (YL<|xe n0 t0 i) (uj c (xe n0 t0 i) [])<|xM<|vs o) (f:=YO<|xM<|vs o) (z':=0) (up:=λr=>(z',r)) 0 O hm Sub.hole hr) w h2).mono ?_;rintro u w' ⟨_,rfl,_,J⟩;have⟨S1,_,hx⟩:=J.ex;have L:=zcS hx.1;have hy:=C2 hc;have hA:u=(xM<|vs o).headD uL:=by
   rw[hy]at L;simpa using L.symm
  have M:=(J.weak (Δ:=GS P vs env fr cx σ) λS w h=>h.2).toP 0 O;rw[<-H]at M;refine Vp (vs:=vs) (mk:=.ow) (u:=u) D hd (λe he=> ?_) (λ_=>O) (λS w=>Q8 S w) ?_
  ·have⟨e',g1,g2⟩:=J7 s e he;rw[<-g2];exact D.o1 e' g1
  ·rw[JF,hA];have h4:St fr.we fr.Se (mO c.rep a ((xM<|vs o).headD uL) l::(Ki vs (o,.vh t0 m c a n0 i z')::OS vs fr cx (yx σ.ob o))) (GS P vs env fr cx σ) w':=by
    have h5:St fr.we fr.Se (mP (UM t0.rep (YL<|xe n0 t0 i) (uj c (xe n0 t0 i) [])<|xM<|vs o) m (yC<|vs o) (z',0)::mO c.rep a ((xM<|vs o).headD uL) l::OS vs fr cx (yx σ.ob o)) (GS P vs env fr cx σ) w':=M;have h6:=St.pr (p:=X (xM<|vs o)=1/\vrP c (xe n0 t0 i)) ⟨hc,hw⟩ h5;have h7:St fr.we fr.Se ([mPr<|X (xM<|vs o)=1/\vrP c (xe n0 t0 i),mP (UM t0.rep (YL<|xe n0 t0 i) (uj c (xe n0 t0 i) [])<|xM<|vs o) m (yC<|vs o) (z',0)]++mO c.rep a ((xM<|vs o).headD uL) l::OS vs fr cx (yx σ.ob o)) (GS P vs env fr cx σ) w':=h6;exact(St.grp.2 h7).perm<|xds ..
   have hp:=jR (vs:=vs) (fr:=fr) (cx:=cx) (Vn (Y:=.vh t0 m c a n0 i z') s).1;rw[(Vn (Y:=.vh t0 m c a n0 i z') s).2]at hp;exact h4.perm<|hp.symm.cons _
 ·cases h
structure zio(a b:wN):Prop where
 out:yC b=yC a
 hv:∀(r:K) (v:wN),(xM a)[r]? =Z v->(xM b)[r]? =Z v
def zgQ{o n:K}(c:zio (vs o) (vs n)){dv:Dv}{v:wN}{S:K->Prop}(h:(wV P vs dv v).p S w):(wV P vs (zj3 o n dv) v).p S w:=by
 cases dv with
 |mw p=>
  show(wV P vs (bif F p o then .mw n else .mw p) v).p S w;cases a:F p o
  ·exact h
  ·obtain rfl:=zY a;exact(show v=yC (vs p)from h).trans c.out.symm
 |mv p l m=>
  show(wV P vs (bif F p o then .mv n l m else .mv p l m) v).p S w;cases a:F p o
  ·exact h
  ·obtain rfl:=zY a;simp only[wV,Wd]at h⊢;rw[c.out];exact h
 |hp p j=>
  show(wV P vs (bif F p o then .hp n j else .hp p j) v).p S w;cases a:F p o
  ·exact h
  ·obtain rfl:=zY a;simp only[wV,Wd]at h⊢;rw[c.out];exact h
 |rw p r=>
  show(wV P vs (bif F p o then .rw n r else .rw p r) v).p S w;cases a:F p o
  ·exact h
  ·obtain rfl:=zY a;exact c.hv _ _ h
 |rp p t r j f=>
  show(wV P vs (bif F p o then .rp n t r j f else .rp p t r j f) v).p S w;cases a:F p o
  ·exact h
  ·obtain rfl:=zY a;have⟨h1,b,m,cap,e,i,k⟩:=h;exact⟨h1,b,m,cap,c.hv _ _ e,i,k⟩
 |_=>exact h
theorem zfB{o n p:K}{v:Dv}(h:vn (zj3 o n v)=Z p):vn v=Z p\/p=n:=by
 cases v with
 |mw q=>
  have h:vn (bif F q o then Dv.mw n else .mw q)=Z p:=h;cases a:F q o<;>rw[a]at h
  ·grind
  ·cases h;exact .inr O
 |mv q l m=>
  have h:vn (bif F q o then Dv.mv n l m else .mv q l m)=Z p:=h;cases a:F q o<;>rw[a]at h
  ·grind
  ·cases h;exact .inr O
 |hp q j=>
  have h:vn (bif F q o then Dv.hp n j else .hp q j)=Z p:=h;cases a:F q o<;>rw[a]at h
  ·grind
  ·cases h;exact .inr O
 |rw q r=>
  have h:vn (bif F q o then Dv.rw n r else .rw q r)=Z p:=h;cases a:F q o<;>rw[a]at h
  ·grind
  ·cases h;exact .inr O
 |rp q t r j f=>
  have h:vn (bif F q o then Dv.rp n t r j f else .rp q t r j f)=Z p:=h;cases a:F q o<;>rw[a]at h
  ·exact .inl h
  ·cases h;exact .inr O
 |_=>exact .inl h
theorem SK{o n:K}:∀{rg:N (K×K×Dv)},∀e∈zje o n rg,∃a∈rg,e=(a.1,a.2.1,zj3 o n a.2.2)
 |[],e,he=>wS he H1
 |(t,i,v)::rg,e,he=>by
  obtain rfl|he:=xag.1 he
  ·simp_all
  ·have⟨a,h1,b⟩:=SK e he;grind
theorem PJ{o n:K}:∀{rg:N (K×K×Dv)},∀e∈EY o n rg,e∈rg\/∃a∈rg,∃p,a.2.2=.mw p/\e=(a.1,a.2.1,bif F p o then .mw n else .mw p)
 |[],e,he=>wS he H1
 |(t,i,v)::rg,e,he=>by
  have b:∀e∈EY o n rg,e∈(t,i,v)::rg\/∃a∈(t,i,v)::rg,∃p,a.2.2=.mw p/\e=(a.1,a.2.1,bif F p o then .mw n else .mw p):=λe he=>by
   obtain h|⟨a,h1,p,c,f⟩:=PJ e he
   ·simp_all
   ·grind
  cases v with
  |mw p=>
   rcases xag.1 (show e∈(t,i,bif F p o then Dv.mw n else .mw p)::EY o n rg from he)with rfl|he
   ·simp_all
   ·grind
  |_=>
   obtain rfl|he:=xag.1 he
   ·exact .inl<|FS
   ·exact b e he
theorem iB{u v:wN}{o:K}{X:Od}{ob:N (K×Od)}{rg:N (K×K×Dv)}(m:Bd cx σ)(hd:xU cx d=I)(hc:∀e∈ob,e.1<σ.nx)
 (n:∀e∈rg,∃a∈v7 σ.rg d [],e.1=a.1/\e.2.1=a.2.1/\(∀p,vn e.2.2=Z p->vn a.2.2=Z p\/p=σ.nx)/\∀v S w,(wV P (X5 vs σ.nx u) a.2.2 v).p S w->(wV P (X5 vs σ.nx u) e.2.2 v).p S w)
 (q:St fr.we fr.Se (Ki (X5 vs σ.nx u) (σ.nx,X)::OS vs fr cx ob) (GS P vs env fr cx σ) w):mI P fr cx σ.nx vs ⟨σ.nx+1,rg,(σ.nx,X)::ob⟩ (put env d v) w:=by
 have⟨c,hi⟩:cV P fr cx ⟨σ.nx+1,v7 σ.rg d [],(σ.nx,X)::ob⟩ (X5 vs σ.nx u) (put env d v) w:=by
  refine LX (σ':=⟨σ.nx+1,v7 σ.rg d [],(σ.nx,X)::ob⟩) (l:=[]) (vs:=vs) (vs':=X5 vs σ.nx u) (Γl:=[]) m hd O (xbD _) (λo j=>jS j) (λ_ b=>wS b H1) ?_ (λS w _ e b=>wS b H1) ?_
  ·grind
  ·show St _ _ (Ki (X5 vs σ.nx u) (σ.nx,X)::OS (X5 vs σ.nx u) fr cx ob) _ _;rw[LK m hc];exact q
 refine⟨X5 vs σ.nx u,λo j=>jS j,⟨c.o1,c.o2,λe b p hp=> ?_,c.r2⟩,hi.weak λS w h=>zE.append (jW.2 λf s=> ?_)<|zE.right h⟩
 ·have⟨a,h1,_,_,k,_⟩:=n e b;obtain h|rfl:=k p hp
  ·exact c.r1 a h1 p h
  ·simp_all
 ·obtain⟨e,b,rfl⟩:=xap.1 s;have⟨a,h1,k,z,_,A⟩:=n e b;have B:=UB (zE.left h) (t:=a.1) (i:=a.2.1) (d:=a.2.2) h1;rw[k,z];exact Jq B λu C=>A u S w C
def zjF{u:wN}{o:K}(b:zio (X5 vs σ.nx u o) (X5 vs σ.nx u σ.nx)):∀e∈zje o σ.nx σ.rg,∃a∈v7 σ.rg wF [],e.1=a.1/\e.2.1=a.2.1/\(∀p,vn e.2.2=Z p->vn a.2.2=Z p\/p=σ.nx)/\∀v S w,(wV P (X5 vs σ.nx u) a.2.2 v).p S w->(wV P (X5 vs σ.nx u) e.2.2 v).p S w:=by
 intro e c;obtain⟨a,h1,rfl⟩:=SK e c;exact⟨a,h1,O,O,λp hp=>zfB hp,λv S w h=>zgQ b h⟩
def ga{u:wN}{o:K}{rg:N (K×K×Dv)}(hr:yC (X5 vs σ.nx u σ.nx)=yC (X5 vs σ.nx u o)):∀e∈EY o σ.nx rg,∃e'∈rg,e.1=e'.1/\e.2.1=e'.2.1/\(∀p,vn e.2.2=Z p->vn e'.2.2=Z p\/p=σ.nx)/\∀v S w,(wV P (X5 vs σ.nx u) e'.2.2 v).p S w->(wV P (X5 vs σ.nx u) e.2.2 v).p S w:=by
 intro e he;rcases PJ e he with h|⟨e',h1,p,h2,rfl⟩
 ·exact⟨e,h,O,O,λp hp=> .inl hp,λv S w h=>h⟩
 ·refine⟨e',h1,O,O,λq hq=> ?_,λv S w h=> ?_⟩
  ·skip;cases hb:F p o
   ·simp_all
   ·simp only[hb]at hq;cases hq;exact .inr O
  ·rw[h2]at h;cases hb:F p o
   ·exact h
   ·have hp:=zY hb;subst hp;exact h.trans hr.symm
end
end
section
section
variable{P:jP}{cf:Cf}{fr:Fr}{cx σ:Sg}{vs vs':wr->wN}{env:y4}{w:wP}{R:Type}{r:R}
 {d:ww Z4}{ty t yt:wT}{pos:String}{aft:ul Edge}{g:ww (wr×v6)}{x y:wW}
def Tf{α:Type}{a:N (N α)}{r:K}(h:r<X a):a[r]? =Z (uF a r):=by simp_all [uF]
def fZ{o:K}{s:Ty}{E E1:wT}{a:N (N s.D)}{ix:N K}{ms:N MF}{Γ:N FF}(h:St fr.we fr.Se (Ki vs (o,.mat s E E1 a ix)::ms) Γ w):
 X (xM<|vs o)=X a/\St fr.we fr.Se ((mO (YO<|xM<|vs o) E (yC<|vs o) ix::vG s.rep E1 (xM<|vs o) a)++ms) Γ w:=St.unpr<|St.grp.1 h
def OE{u:wN}{s:Ty}{E E1:wT}{a:N (N s.D)}{ix:N K}{ms:N MF}{Γ:N FF}(hl:X (xM u)=X a)(h:St fr.we fr.Se ((mO (YO<|xM u) E (yC u) ix::vG s.rep E1 (xM u) a)++ms) Γ w):
 St fr.we fr.Se (Aq s.rep E E1 u a ix::ms) Γ w:=St.grp.2<|St.pr hl h
def zqh{k:Sg->V R}{s:TI}(H:yZ P cf.tt)(J:Zx cf t=Z s){o p j:K}{e:Ty}{f:Fl e.D}(u:xo cx σ x=Z (.rp o e p j f))(h:kO σ s.ty (xo cx σ x) (xo cx σ y) k=Z r):
 da P cx ⟨wF,.store t x y,ty,pos,aft,g⟩ σ k r:=by
 have⟨A,hd,_⟩:=Z8 H J;rw[u]at h;simp only[kO]at h;split at h
 ·next s' E E1 a ix c l _=>
  have⟨L,h1⟩:=z7 h;cases L;have⟨q,M,N⟩:=VB h1;have⟨Q,T,h⟩:=xI M;have⟨c⟩:=c;refine⟨_,h,IR _,λfr vs env w U=> ?_⟩;have⟨Y,B⟩:=U;have⟨S0,_,n⟩:=B.ex;have⟨hu,b,m,cap,hv,hj,hw⟩:=zj u<|zL n x;have C:=jG l B;have⟨hn,hp⟩:m=X (uF (α:=e.D) a p)/\p<X a:=wy C (i:=0) O λS hp=>⟨sr (sB (show(Aq e.rep E E1 (vs o) a ix).p S w from hp) hv).1 O,(sB (show(Aq e.rep E E1 (vs o) a ix).p S w from hp) hv).2⟩;have⟨hl,hg⟩:=fZ C;have hi:=zjr (e:=e.rep) (E:=E) (E1:=E1) (v:=yC<|vs o) (ix:=ix) hv (Tf (α:=e.D) hp)<|OS vs fr cx<|yx σ.ob o;have⟨b',F,hy,hA,hC,hs⟩:=hg.openO (p+1) hi W;cases hy;rw[<-c]at hd;have hk:=(Sub.rowT0 e.rep cap (uF (α:=e.D) a p) j ((uF (α:=e.D) a p).getD j e.z)<|getD_some e.z W).comp<|hu<|(uF (α:=e.D) a p).getD j e.z;refine(uk (f:=f.f.rep) (y':=q) (p+1) (vB hi) hw O hk hd (λS w ha=>N P vs env S w<|zL ha y) w hs).mono ?_;rintro v w' ⟨_,rfl,_,hD⟩;refine iw (vs:=vs) Y l<|Cd l ?_;have hc:X (xfS (uF (α:=e.D) a p) j<|f.set q<|(uF (α:=e.D) a p).getD j e.z)=X (uF (α:=e.D) a p):=xbt ..;have G:=hD.closeF (p+1) (vB<|vB hi) (by rw[hc];exact hA) hC;rw[set_set,set_set,hc,PQ hv hp hl]at G;rw[T];exact OE (by rw[show(zpk (α:=e.D) a p _).length=X a from xbt ..];exact hl) G
 ·cases h
def zo3{k:Sg->V R}{s:TI}(G:yZ P cf.tt)(H:Zx cf t=Z s){o j a p:K}(u:xo cx σ x=Z (.hp o j))(l:xo cx σ y=Z (.rw a p))(h:kO σ s.ty (xo cx σ x) (xo cx σ y) k=Z r):
 da P cx ⟨wF,.store t x y,ty,pos,aft,g⟩ σ k r:=by
 have⟨z,hc,_⟩:=Z8 G H;rw[u,l]at h;simp only[kO]at h;have⟨J,h⟩:=z6 h;obtain rfl:=zY J;split at h
 ·next A E E1 c ix q n L=>
  have⟨iz,M,h⟩:=xI h;refine⟨_,h,IR _,λfr vs env w N=> ?_⟩;have⟨Q,hd⟩:=N;have⟨S0,_,e⟩:=hd.ex;have⟨b,m,cap,hv,hj,T⟩:=zj u<|zL e x;have U:(xM<|vs a)[p]? =Z (ev env y):=zj l<|zL e y;have B:=jG n hd;have⟨hn,Y⟩:m=X ix/\(ev env y).oneCell'=true:=wy B (i:=0) O λS hp=>⟨sr (NG (show(Aq A.rep E E1 (vs a) c ix).p S w from hp)).2.1 hv,(Ey (sB (show(Aq A.rep E E1 (vs a) c ix).p S w from hp) U).1).1⟩;have⟨hl,hg⟩:=fZ B;have⟨b',C,hi,hA,hC,hs⟩:=hg.openO 0 O W;rw[hv]at hi;cases hi;have hk:=Sub.rowT0 (YO<|xM<|vs a) cap ix j (ix.getD j 0) (getD_some 0 W);rw[L]at hc;refine(uk (f:=YO<|xM<|vs a) (y':=p) 0 O T O hk hc (λS w ha=> ?_) w hs).mono ?_
  ·exact zbs (zj l<|zL ha y) Y
  rintro v w' ⟨_,rfl,_,hD⟩;refine iw (vs:=vs) Q n<|Cd n ?_;have D:X (ix.set j p)=X ix:=xbt ..;have F:=hD.closeF 0 O (by rw[D];exact hA) hC;rw[D,<-hv]at F;rw[M];exact OE hl F
 ·cases h
theorem zkI{u:wN}{o:K}{hv:N wN}(c:xM u=xM (vs o)++hv)(a:yC u=yC (vs o))(b:o<σ.nx):zio (X5 vs σ.nx u o) (X5 vs σ.nx u σ.nx):=by
 rw[jS b,xK];refine⟨a,λr v h=> ?_⟩;grind
def n6{o:K}{X:Od}(a:Bd cx σ)(h:xy σ.ob o=Z X):o<σ.nx:=by
 have⟨i,h1,_⟩:=vm h;exact a.o1 _<|xby h1
def rb(a:Bd cx σ){o p:K}:∀e∈yx (yx σ.ob o) p,e.1<σ.nx:=λe b=>a.o1 e<|ue e<|ue e b
def zpF{k:Sg->V R}{s:TI}(L:yZ P cf.tt)(M:Zx cf t=Z s){o j o2:K}(z:xo cx σ x=Z (.hp o j))(A:xo cx σ y=Z (.ow o2))(h:kO σ s.ty (xo cx σ x) (xo cx σ y) k=Z r):
 da P cx ⟨wF,.store t x y,ty,pos,aft,g⟩ σ k r:=by
 have⟨B,hd,_⟩:=Z8 L M;rw[z,A]at h;simp only[kO]at h;have⟨C,h⟩:=z6 h;rw[xcN]at C;split at h
 ·next l E E1 a ix s2 E2 ys q D N Q=>
  have⟨T,h0⟩:=z6 h;obtain rfl:=zY T;have⟨U,h1⟩:=z7 h0;cases U;have⟨Y,hz,h2⟩:=xI h1;have⟨iz,hi,h3⟩:=xI h2;refine⟨_,h3,xbD _,λfr vs env w hR=> ?_⟩;have⟨n,F⟩:=hR;have⟨S0,_,c⟩:=F.ex;have⟨b,m,cap,hv,hj,hC⟩:=zj z<|zL c x;have hD:ev env y=vs o2:=zj A<|zL c y;have e:=gN C D N F;have hn:m=X ix:=wy e (i:=0) O λS hp=>sr (NG (show(Aq l.rep E E1 (vs o) a ix).p S w from hp)).2.1 hv;have⟨hk,_⟩:(vs o2).oneCell'=true/\_:=wy e (i:=1) (m:=mO l.rep E1 (vs o2) ys) O λS hp=>Ey hp;have hl:=(fZ e).1
  have hg:St fr.we fr.Se ((mO (YO<|xM (vs o)++[vs o2]) E (yC<|vs o) ix::vG l.rep E1 (xM (vs o)++[vs o2]) (a++[ys]))++OS vs fr cx (yx (yx σ.ob o) o2)) (GS P vs env fr cx σ) w:=
   St.grp.1 (St.adopt hl<|St.grp.2 (fZ e).2)
  have⟨b',G,H,hF,hG,hs⟩:=hg.openO 0 O W;rw[hv]at H;cases H;have hq:=Sub.rowT0 (YO<|xM (vs o)++[vs o2]) cap ix j (ix.getD j 0) (getD_some 0 W);rw[Q]at hd;refine(uk (f:=YO<|xM (vs o)++[vs o2]) (y':=X a) 0 O hC hD hq hd (λS w ha=>zbs (by rw[<-hl];simp) hk) w hs).mono ?_;rintro v w' ⟨_,rfl,_,hH⟩;have hc:X (ix.set j (X a))=X ix:=xbt ..;have J:=hH.closeF 0 O (by rw[hc];exact hF) hG;rw[hc,<-hv]at J;refine iB (o:=o) (u:=K6 (yC<|vs o)<|xM (vs o)++[vs o2]) n O (rb n) (zjF<|zkI O O<|n6 n D) ?_;rw[moU,hi,hz];refine OE (u:=K6 (yC<|vs o)<|xM (vs o)++[vs o2]) (by show(xM (vs o)++[vs o2]).length=X (a++[ys]);simp[hl]) J
 ·cases h
def zpB{k:Sg->V R}{C:TI}(Q:yZ P cf.tt)(T:Zx cf t=Z C){o o2:K}(D:xo cx σ x=Z (.mw o))(E:xo cx σ y=Z (.ow o2))(h:kO σ C.ty (xo cx σ x) (xo cx σ y) k=Z r):
 da P cx ⟨wF,.store t x y,ty,pos,aft,g⟩ σ k r:=by
 have⟨F,hc,_⟩:=Z8 Q T;rw[D,E]at h;simp only[kO]at h;have⟨hd,h⟩:=z6 h;rw[xcN]at hd;split at h
 ·next a n s ys q G U Y=>
  refine⟨_,h,xbD _,λfr vs env w hR=> ?_⟩;have⟨z,H⟩:=hR;have⟨S0,_,j⟩:=H.ex;have hn:ev env x=yC (vs o):=zj D<|zL j x;have hq:ev env y=vs o2:=zj E<|zL j y;have J:=gN hd G U H;have⟨hg,_⟩:(vs o2).oneCell'=true/\_:=wy J (i:=1) (m:=mO n.rep s (vs o2) ys) O λS hp=>Ey hp;have⟨hl,h1⟩:=St.unpr<|St.grp.1 J;have h1:St fr.we fr.Se (mP (YO<|xM<|vs o).c a (yC<|vs o) 0::mO n.rep s (vs o2) ys::OS vs fr cx (yx (yx σ.ob o) o2)) (GS P vs env fr cx σ) w:=h1;have⟨b,L,h2⟩:=h1.openP 0 O;have hi:=C2 hl;have h3:=h2.conv (i:=0) (m:=mB (YO<|xM<|vs o).c a b 0) (m':=mB (YO<|xM (vs o)++[vs o2]).c a b 0) O O λS hp=>by
   have⟨cs,g1,u,l,A,B⟩:=hp;exact⟨cs,g1,u,by rw[xbj (xax.1 l).1];exact l,A,B⟩
  rw[Y]at hc;refine(uk (e:=(YO<|xM (vs o)++[vs o2]).c) (f:=YO<|xM (vs o)++[vs o2]) (z':=0) (y':=1) (up:=id) 0 O (hn.trans L) hq (Sub.self (YO<|xM (vs o)++[vs o2]) 0) hc (λS w ha=>zbs (by rw[hi];rfl) hg) w h3).mono ?_;rintro v w' ⟨_,rfl,_,hr⟩;have h4:St fr.we fr.Se (mB (YO<|xM (vs o)++[vs o2]).c a b 1::mO n.rep s (vs o2) ys::OS vs fr cx (yx (yx σ.ob o) o2)) (GS P vs env fr cx σ) w':=hr;have h5:=h4.conv (i:=0) (m:=mB (YO<|xM (vs o)++[vs o2]).c a b 1) (m':=mB (YO [vs o2]).c a b 0) O O λS hp=>by
   have⟨cs,g1,u,l,A,B⟩:=hp;refine⟨cs,g1,u,?_,A,B⟩;rw[hi]at l;exact l
  have M:=h5.toP 0 O;rw[<-L]at M;have h7:St fr.we fr.Se (mP (YO [vs o2]).c a (yC<|vs o) 0::mO n.rep s (vs o2) ys::OS vs fr cx (yx (yx σ.ob o) o2)) (GS P vs env fr cx σ) w':=M;refine iB (o:=o) (u:=K6 (yC<|vs o) [vs o2]) z O (rb z) (ga<|by rw[xK,jS<|n6 z G];rfl) ?_
  ·rw[moU];exact St.grp.2<|St.pr (p:=X ([vs o2]:N wN)=1) O h7
 ·cases h
def zpw{k:Sg->V R}{B:TI}(T:yZ P cf.tt)(U:Zx cf t=Z B){o o2 a n0 i}(C:xo cx σ x=Z (.vf o a n0 i))(D:xo cx σ y=Z (.ow o2))(h:kO σ B.ty (xo cx σ x) (xo cx σ y) k=Z r):
 da P cx ⟨wF,.store t x y,ty,pos,aft,g⟩ σ k r:=by
 have⟨F,hc,_⟩:=Z8 T U;rw[C,D]at h;simp only[kO]at h;have⟨hd,h⟩:=z6 h;rw[xcN]at hd;split at h
 ·next s1 E c E1 n j z s3 E3 ys G Y=>
  have⟨H,h0⟩:=z6 h;rw[xab,xab,xab,xab]at H;have⟨⟨⟨g1,q⟩,g3⟩,g4,g5⟩:=H;obtain rfl:=zY g1;obtain rfl:=zY q;obtain rfl:=zY g4;obtain rfl:=Qa g5;have ht:=Qa g3;have⟨hu,hv⟩:=z7 h0;cases hu;refine⟨_,hv,xbD _,λfr vs env w hR=> ?_⟩;have⟨A,J⟩:=hR;have⟨S0,_,s⟩:=J.ex;have⟨l,f,hi,hf,hw⟩:=zj C<|zL s x;have hz:ev env y=vs o2:=zj D<|zL s y;have K:=gN hd G Y J;have⟨hk,_⟩:(vs o2).oneCell'=true/\_:=wy K (i:=1) (m:=mO c.rep E1 (vs o2) ys) O λS hp=>Ey hp;have⟨⟨hl,hA⟩,h1⟩:=St.unpr<|St.grp.1 K;have h1:St fr.we fr.Se (mP (UM a.rep (YL<|xe n0 a i) (uj c (xe n0 a i) [])<|xM<|vs o) E (yC<|vs o) (z,0)::mO c.rep E1 (vs o2) ys::OS vs fr cx (yx (yx σ.ob o) o2)) (GS P vs env fr cx σ) w:=h1;have⟨b,L,h2⟩:=h1.openP 0 O;have M:=C2 hl;obtain rfl:l=b:=by rw[L]at hi;cases hi;rfl
  have hn:YL (xe n0 a i)=f.off:=by rw[hf];rfl
  have hq:ev env x=.pointer (Z ⟨l,YL<|xe n0 a i,wF⟩):=by rw[hn];exact hw.trans<|by rw[xaJ]
  have h3:=h2.conv (i:=0) (m:=mB (UM a.rep (YL<|xe n0 a i) (uj c (xe n0 a i) [])<|xM<|vs o) E l (z,0)) (m':=mB (UM a.rep (YL<|xe n0 a i) (uj c (xe n0 a i) [])<|xM (vs o)++[vs o2]) E l (z,0)) O O λS hp=>by
   have⟨cs,g1,q⟩:=hp;exact⟨cs,g1,ziN q⟩
  rw[ht]at hc;refine(uk (e:=UM a.rep (YL<|xe n0 a i) (uj c (xe n0 a i) [])<|xM (vs o)++[vs o2]) (f:=YO<|xM (vs o)++[vs o2]) (z':=0) (y':=1) (up:=λr=>(z,r)) 0 O hq hz Sub.hole hc (λS w ha=>zbs (by rw[M];rfl) hk) w h3).mono ?_;rintro v w' ⟨_,rfl,_,hC⟩;have h4:St fr.we fr.Se (mB (UM a.rep (YL<|xe n0 a i) (uj c (xe n0 a i) [])<|xM (vs o)++[vs o2]) E l (z,1)::mO c.rep E1 (vs o2) ys::OS vs fr cx (yx (yx σ.ob o) o2)) (GS P vs env fr cx σ) w':=hC;have h5:=h4.conv (i:=0) (m:=mB (UM a.rep (YL<|xe n0 a i) (uj c (xe n0 a i) [])<|xM (vs o)++[vs o2]) E l (z,1)) (m':=mB (UM a.rep (YL<|xe n0 a i) (uj c (xe n0 a i) []) [vs o2]) E l (z,0)) O O λS hp=>by
   have⟨cs,g1,q⟩:=hp;exact⟨cs,g1,zpI (by rw[M];rfl) q⟩
  have Q:=h5.toP 0 O;rw[<-L]at Q;have h7:St fr.we fr.Se (mP (UM a.rep (YL<|xe n0 a i) (uj c (xe n0 a i) []) [vs o2]) E (yC<|vs o) (z,0)::mO c.rep E1 (vs o2) ys::OS vs fr cx (yx (yx σ.ob o) o2)) (GS P vs env fr cx σ) w':=Q;refine iB (o:=o) (u:=K6 (yC<|vs o) [vs o2]) A O (rb A) (ga<|by rw[xK,jS<|n6 A G];rfl) ?_
  ·rw[moU];exact St.grp.2<|St.pr (p:=X ([vs o2]:N wN)=1/\vrP c (xe n0 a i)) ⟨O,hA⟩ h7
 ·cases h
def zit{k:Sg->V R}{u:TI}(M:yZ P cf.tt)(Q:Zx cf t=Z u){o n i j E:K}{s a:Ty}{z:s.D}{f:Fl s.D}{X:s.D->Od}{rest:wN->N MF}
 (A:∀vs z,Ki vs (o,X z)=E4 (mPr (i7 (xM<|vs o)=1/\vrP a (xe n s j))::mP (UM s.rep (YL<|xe n s j) (uj a (xe n s j) [])<|xM<|vs o) E (yC<|vs o) (z,0)::rest (vs o)))
 (T:xo cx σ x=Z (.vf o s n i)) (c:xy σ.ob o=Z (X z)) (hn:i≠j) (B:xe n s i=Z f) (h:jb (Ty.same f.f u.ty).isSome (BO (xo cx σ y) f.f λy=>C (f.set y z) λz=>k ⟨σ.nx,σ.rg,kQ σ.ob o<|X z⟩)=Z r):
 da P cx ⟨wF,.store t x y,ty,pos,aft,g⟩ σ k r:=by
 have⟨F,hc,_⟩:=Z8 M Q;have⟨U,h⟩:=z6 h;have hp:=Qa U;have⟨q,l,Y⟩:=VB h;have⟨z2,hr,h⟩:=xI l;refine⟨_,h,IR _,λfr vs env w hR=> ?_⟩;have⟨hB,hd⟩:=hR;have⟨S0,_,m⟩:=hd.ex;have h0:=jG c hd;rw[A]at h0;have⟨⟨hl,G⟩,h1⟩:=St.unpr<|St.grp.1 h0;have⟨b,H,l⟩:=h1.openP 0 O;have⟨b',f',hi,J,hs⟩:=zj T<|zL m x;obtain rfl:b'=b:=by rw[H]at hi;cases hi;rfl
 rw[B]at J;cases J;rw[<-hp]at hc;refine(uk (e:=UM s.rep (YL<|xe n s j) (uj a (xe n s j) [])<|xM<|vs o) (f:=f.f.rep) (z':=f.get z) (y':=q) (up:=λy=>(f.set y z,0)) 0 O (hs.trans<|by rw[xaJ]) O (zcQ G B hn) hc (λS w ha=>Y P vs env S w<|zL ha y) w l).mono ?_;rintro v w' ⟨_,rfl,_,ht⟩;refine iw (vs:=vs) hB c<|Cd c ?_;have L:=ht.toP 0 O;rw[<-H]at L;rw[A,hr];exact St.grp.2<|St.pr (p:=i7 (xM<|vs o)=1/\vrP a (xe n s j)) ⟨hl,G⟩ L
def zor{k:Sg->V R}{H:TI}(Y:yZ P cf.tt)(hm:Zx cf t=Z H){o n2 i2:K}{t2:Ty}{s:t2.D}(J:xo cx σ x=Z (.mw o))(A:xo cx σ y=Z (.dz t2 s n2 i2))(h:kO σ H.ty (xo cx σ x) (xo cx σ y) k=Z r):
 da P cx ⟨wF,.store t x y,ty,pos,aft,g⟩ σ k r:=by
 have⟨L,hd,_⟩:=Z8 Y hm;rw[J,A]at h;simp only[kO]at h;split at h
 ·next s1 E a E1 n j z xs M=>
  have⟨B,h0⟩:=z6 h;rw[xab,xab]at B;obtain rfl:=zY B.1;obtain rfl:=zY B.2.1;have hn:=Qa B.2.2;have⟨hq,hr⟩:=z7 h0;subst hq;refine⟨_,hr,xbD _,λfr vs env w hR=> ?_⟩;have⟨C,hi⟩:=hR;have⟨S0,_,q⟩:=hi.ex;have hs:ev env x=yC (vs o):=zj J<|zL q x;have⟨_,f,Q,hj⟩:=zj A<|zL q y;have⟨⟨hl,ht⟩,h1⟩:=St.unpr<|St.grp.1<|jG M hi;have h1:St fr.we fr.Se (mP (UM t2.rep (YL<|xe n2 t2 i2) (uj a (xe n2 t2 i2) [])<|xM<|vs o) E (yC<|vs o) (z,0)::mO a.rep E1 ((xM<|vs o).headD uL) xs::OS vs fr cx (yx σ.ob o)) (GS P vs env fr cx σ) w:=h1;have h1:St fr.we fr.Se (mP (UM t2.rep (YL<|xe n2 t2 i2) (uj a (xe n2 t2 i2) [])<|xM<|vs o) E (yC<|vs o) (z,0)::OS vs fr cx (yx σ.ob o)) (GS P vs env fr cx σ) w:=St.drop (i:=1) h1;have⟨b,T,h2⟩:=h1.openP 0 O;have h3:=h2.conv (i:=0) (m:=mB (UM t2.rep (YL<|xe n2 t2 i2) (uj a (xe n2 t2 i2) [])<|xM<|vs o) E b (z,0)) (m':=mB (eRw t2.rep.n t2.rep.agg t2.rep.n1).c E b wF) O O λS hp=>by
   have⟨cs,g1,F⟩:=hp;exact⟨cs,g1,zlU F⟩
  rw[hn]at hd;refine(uk (e:=(eRw t2.rep.n t2.rep.agg t2.rep.n1).c) (f:=eRw t2.rep.n t2.rep.agg t2.rep.n1) (z':=wF) (y':=Z (ev env y).cells.toList) (up:=id) 0 O (hs.trans T) O (Sub.self _ _) hd (λS w G=>zm6 (zj A<|zL G y).1) w h3).mono ?_;rintro v w' ⟨_,rfl,_,hu⟩;have h4:St fr.we fr.Se (mB (eRw t2.rep.n t2.rep.agg t2.rep.n1).c E b (Z (ev env y).cells.toList)::OS vs fr cx (yx σ.ob o)) (GS P vs env fr cx σ) w':=hu;have⟨off,gt,st,hc⟩:=ht;rw[hc]at Q;cases Q;have h5:=h4.grow (i:=0) (m:=mB (eRw t2.rep.n t2.rep.agg t2.rep.n1).c E b<|some (ev env y).cells.toList) (m':=mB (UM t2.rep off (st ([]:N a.D)) [.slice wF 0 0]) E b (s,0)) O (yv.refl _ _) (λk hk=> .inl hk) λS _ hp G=>by
   have⟨cs,g1,_,_,F⟩:=hp;refine⟨cs,g1,?_⟩;rw[F _ O];exact zft hc (uY (zj A<|zL G y).1) hj O
  have U:=h5.toP 0 O;rw[<-T]at U;have h7:St fr.we fr.Se (mP (UM t2.rep off (st ([]:N a.D)) [.slice wF 0 0]) E (yC<|vs o) (s,0)::mO a.rep E1 (.slice wF 0 0) []::OS vs fr cx (yx σ.ob o)) (GS P vs env fr cx σ) w':=(St.nilO (e:=a.rep) (E:=E1) U).perm<|xds ..;refine iB (o:=o) (u:=K6 (yC<|vs o) [.slice wF 0 0]) C O (λe he=>C.o1 e<|ue e he) (ga<|by rw[xK,jS<|n6 C M];rfl) ?_
  ·rw[moU];refine St.grp.2<|St.pr (p:=X ([.slice wF 0 0]:N wN)=1/\vrP a (xe n2 t2 i2)) ⟨O,_,_,_,hc⟩ ?_;show St _ _ (mP (UM t2.rep (YL<|xe n2 t2 i2) (uj a (xe n2 t2 i2) []) [.slice wF 0 0]) E (yC<|vs o) (s,0)::mO a.rep E1 (.slice wF 0 0) []::_) _ _;rw[hc,show uj a (Z ⟨off,.l a,gt,st⟩) ([]:N a.D)=st ([]:N a.D)from qR λz=>ig];exact h7
 ·cases h
def zii(c:yZ P cf.tt){k:Sg->V R}{C:TI}(l:Zx cf t=Z C)(h:kO σ C.ty (xo cx σ x) (xo cx σ y) k=Z r):da P cx ⟨wF,.store t x y,ty,pos,aft,g⟩ σ k r:=by
 have h0:=h;unfold kO at h;split at h
 ·next o e r j f a=>exact zqh c l a h0
 ·next o q n0 i o2 a b=>exact zpw c l a b h0
 ·next o q n0 i a _=>
  split at h
  ·next D E p E1 n j z ys s=>
   have⟨m,h1⟩:=z6 h;rw[xab]at m;obtain rfl:=zY m.1;obtain rfl:=Qa m.2;have⟨v,f,A,B⟩:=zcM h1;exact zit c l (X:=λz=> .vr q E p E1 n0 j z ys) (rest:=λu=>[mO p.rep E1 ((xM u).headD uL) ys]) (λ_ _=>O) a s v A B
  ·next D E p E1 n j z s=>
   have⟨m,h1⟩:=z6 h;rw[xab]at m;obtain rfl:=zY m.1;obtain rfl:=Qa m.2;have⟨v,f,A,B⟩:=zcM h1;exact zit c l (X:=λz=> .vh q E p E1 n0 j z) (rest:=λ_=>[]) (λ_ _=>O) a s v A B
  ·cases h
 ·next o j F r a b=>exact zo3 c l a b h0
 ·next o j o2 a b=>exact zpF c l a b h0
 ·next o t2 G n2 i2 a b=>exact zor c l a b h0
 ·next o o2 a b=>exact zpB c l a b h0
 ·cases h
def sG:∀{ob:N (K×Od)}{o p:K},o≠p->yx (yx ob o) p=yx (yx ob p) o
 |[],_,_,_=>rfl
 |(q,X)::r,o,p,h=>by
  have b:=sG (ob:=r) h;cases h1:F q o
  ·cases a:F q p
   ·simp only[yx,h1,a,XS];rw[b]
   ·simp only[yx,h1,a,XS,Wd]
  ·cases a:F q p
   ·simp only[yx,h1,a,XS,Wd]
   ·simp_all
def HS{S:K->Prop}{w:wP}{hv a:N wN}:∀{ix:N K}{cs:N wN},yP (YO a) S ix cs w->yP (YO<|hv++a) S (ix.map (X hv+ ·)) cs w
 |[],_,h=>h
 |r::ix,cs,⟨c,q,h1,⟨u,b,e,f⟩,i⟩=>⟨c,q,h1,⟨u,by show(hv++a)[X hv+r]? =Z u;rw[xbz<|xbw _ _,Nat.add_sub_cancel_left];exact b,e,f⟩,HS i⟩
def Iu{α:Type}{e:zV α}{E:wT}:∀{hv c:N wN}{a b:N (N α)},X hv=X a->vG e E (hv++c) (a++b)=vG e E hv a++vG e E c b
 |[],_,[],_,_=>rfl
 |u::hv,c,xs::a,b,h=>by
  show mO e E u xs::vG e E (hv++c) (a++b)=mO e E u xs::(vG e E hv a++vG e E c b);rw[Iu<|by simpa using h]
 |[],_,_::_,_,h=>by cases h
 |_::_,_,[],_,h=>by cases h
def znU(H:yZ P cf.tt){z:ul wW}{ts:ul wT}{k:Sg->V R}(hd:xU cx d=I)(h:zix cf cx σ d z.toList ts.toList k=Z r):
 da P cx ⟨d,.call ⟨.builtin .append,z,ts⟩,ty,pos,aft,g⟩ σ k r:=by
 unfold zix at h;split at h
 ·next _ _ x y t t' hS hU=>
  obtain rfl:z= #[x,y]:=by cases z;simp_all
  obtain rfl:ts= #[t,t']:=by cases ts;simp_all
  split at h
  ·next s E B o p ht hx hy=>
   have⟨F,D⟩:=z6 h;rw[xab]at F;have⟨hC,hl⟩:=F;obtain rfl:=zY hC;rw[xcN]at hl;clear h;split at D
   ·next q1 q2 T A E1 C a ix s2 f F2 j q hn ho hp=>
    have⟨F,h1⟩:=z6 D;simp only[xab]at F;have⟨J,K,L⟩:=F;have J:=zY J;have K:=zY K;have L:=zY L;subst J;subst K;subst L;have⟨hD,h2⟩:=z7 h1;cases hD;have⟨U,h3⟩:=Zm h2;have⟨a0,hz,h4⟩:=xI h3;have⟨iz,hi,h5⟩:=xI h4;have hE:=Tm H hn O;have hc:=(H _ _ hn).2.1;refine⟨_,h5,xbD _,λfr vs env w hR=> ?_⟩;have⟨Y,hr⟩:=hR;have⟨S0,_,G⟩:=hr.ex;have hG:ev env x=yC (vs o):=zj hx<|zL G x;have hH:ev env y=yC (vs p):=zj hy<|zL G y;have hI:=gN hl ho hp hr;have⟨M,hJ⟩:=fZ hI;have hu:St fr.we fr.Se (Ki vs (p,.mat A f C j q)::((mO (YO<|xM<|vs o) f (yC<|vs o) ix::vG A.rep C (xM<|vs o) a)++OS vs fr cx (yx (yx σ.ob o) p))) (GS P vs env fr cx σ) w:=hJ.perm xcg;have⟨hK,hL⟩:=fZ hu;have hN:St fr.we fr.Se (mO (YO<|xM<|vs o) f (yC<|vs o) ix::mO (YO<|xM<|vs p) f (yC<|vs p) q::(vG A.rep C (xM<|vs o) a++vG A.rep C (xM<|vs p) j++OS vs fr cx (yx (yx σ.ob o) p))) (GS P vs env fr cx σ) w:=by
     refine hL.perm ?_;simp only[xbL,xao];refine(xfv _ xcg).trans<|(xds ..).trans ?_;refine xfv _<|xfv _ ?_;exact(xdT ..)
    have hO:=hN.conv (i:=0) (m:=mO (YO<|xM<|vs o) f (yC<|vs o) ix) (m':=mO (YO<|xM (vs o)++xM (vs p)) f (yC<|vs o) ix) O O λS hq=>zcC hq;have N8:∀m,m*T<=140737488355328->m<=9223372036854775807:=λm hm=>by
     have hc:0<T:=hc;have:=xcm m hc;lia
    have Q:X (q.map (xaH a+ ·))=X q:=xaZ _;refine(aO (e:=YO<|xM (vs o)++xM (vs p)) (ys:=q.map (xaH a+ ·)) 0 (vV H ht) hE O xen O hG hH (λS w hM ha=> ?_) (N8 _<|by rw[Q];exact U) (by rw[Q];exact U) w hO).mono ?_
    ·have hm:(mO (YO<|xM<|vs p) f (yC<|vs p) q).p S w:=hM.2.1;have hw:(mO (YO<|xM (vs o)++xM (vs p)) f (yC<|vs p) (q.map (xaH a+ ·))).p S w:=by
      have⟨cs,a1,a2⟩:=hm;refine⟨cs,by rw[Q];exact a1,?_⟩;rw[<-M];exact HS a2
     rcases eC hw with⟨hv,hA⟩|⟨b,cap,hv,hP,hQ⟩
     ·rw[hv,hA];exact⟨wF,0,O,IR _,xac _,.inl O⟩
     ·have D:=MW hw hv (l:=0) (n:=X (q.map (xaH a+ ·))) (c:=cap) W hP hQ;rw[List.drop_zero,xcJ]at D;rw[hv];simpa using D
    rintro v w' ⟨v',rfl,_,hs⟩;refine Vp (vs:=vs) (mk:=.mw) (u:=K6 v<|xM (vs o)++xM (vs p)) Y hd (rb Y) (λ_=>O) (λS w=>by simp only[wV,xK];rfl) ?_;rw[moU,hz,hi];have h7:St fr.we fr.Se (mO (YO<|xM (vs o)++xM (vs p)) f v (ix++q.map (xaH a+ ·))::mO (YO<|xM<|vs p) f (yC<|vs p) q::(vG A.rep C (xM<|vs o) a++vG A.rep C (xM<|vs p) j++OS vs fr cx (yx (yx σ.ob o) p))) (GS P vs env fr cx σ) w':=hs;have h8:=St.drop (i:=1) h7;refine OE (u:=K6 v<|xM (vs o)++xM (vs p)) (by show(xM (vs o)++xM (vs p)).length=X (a++j);simp[M,hK]) ?_;show St _ _ ((mO (YO<|xM (vs o)++xM (vs p)) f v _::vG A.rep C (xM (vs o)++xM (vs p)) (a++j))++_) _ _;rw[Iu M];exact h8
   ·cases D
  ·cases h
 ·cases h
def zdl(H:Cx P cf){s:Er}{f:wW}{c:ul wW}{ts:ul wT}{k:Sg->V R}(hd:xU cx d=I)(J:xo cx σ f=Z (.fn s.f []))(K:s∈cf.ms)(h:CT cx σ d s c.toList k=Z r):
 da P cx ⟨d,.call ⟨.value f,c,ts⟩,ty,pos,aft,g⟩ σ k r:=by
 have⟨L,M⟩:=H.ms s K;unfold CT at h;split at h
 ·next _ x a p y hF=>
  obtain rfl:c= #[x,a,p,y]:=by cases c;simp_all
  split at h
  ·next o r0 av pv o' lo n N Q hp S=>
   have⟨T,j⟩:=z6 h;obtain rfl:=zY T;clear h;split at j
   ·next s1 E E1 l ix A=>
    have⟨m,h1⟩:=z6 j;rw[xab]at m;have B:=zY m.1;have hi:=zY m.2;have⟨U,Y⟩:=z7 h1;cases U;have⟨i,hz,h3⟩:=iH Y;refine⟨_,h3,xbD _,λfr vs env w hR=> ?_⟩;have⟨q,C⟩:=hR;have⟨S0,_,b⟩:=C.ex;have hw:(xM<|vs o)[r0]? =Z (ev env x):=zj N<|zL b x;have D:=wY Q<|zL b a;have hl:=wY hp<|zL b p;have hA:SU (yC<|vs o) lo n (ev env y):=zj S<|zL b y;have⟨z,hv,hC,hG⟩:=zj J<|zL b f;obtain rfl:z=[]:=xbv.1 hC;have F:=jG A C;rw[B,hi]at F;have hc:=M l ix r0 av pv lo n i hz (vs o) (ev env x) (ev env y) hw hA D.2 hl.2 fr.we fr.Se _ _ w F;have hn:(jp (ev env) ⟨d,.call ⟨.value f,#[x,a,p,y],ts⟩,ty,pos,aft,g⟩).run P w=.ok (.enter s.f #[ev env x,.int .i64 av,.int .i64 pv,ev env y]) w:=by simp[jp,Wl,hv,xcV,WN,qd L,D.1,hl.1]
    unfold ur;rw[hn];refine hc.mono ?_;rintro e w' ⟨v,G,rfl,hu,hD⟩;refine⟨v,O,iB (o:=o) (u:=G) q hd (λe he=>q.o1 e<|ue e he) (ga<|by rw[xK,jS<|n6 q A];exact hu) ?_⟩;rw[moU];show St _ _ (Aq s.t.rep E E1 G i ix::_) _ _;rw[B,hi];exact hD
   ·cases j
  ·cases h
 ·cases h
def zkz(A:Cx P cf){s:GK}{f:wW}{b:ul wW}{ts:ul wT}{k:Sg->V R}(hd:xU cx d=I)(B:xo cx σ f=Z (.fn s.f []))(C:s∈cf.vg)(h:za3 cx σ d s b.toList k=Z r):
 da P cx ⟨d,.call ⟨.value f,b,ts⟩,ty,pos,aft,g⟩ σ k r:=by
 have⟨D,E⟩:=A.vg s C;unfold za3 at h;split at h
 ·next _ x xs hr=>
  obtain rfl:b=(x::xs).toArray:=by cases b;simp_all
  split at h
  ·next o F=>
   split at h
   ·next t1 E1 s1 F1 n1 i1 z ys n=>
    have⟨p,h1⟩:=z6 h;simp only[xab]at p;have⟨g1,c,i,j⟩:=p;have g1:=zY g1;have c:=zY c;have i:=zY i;have j:=zY j;have⟨e1,G⟩:=z7 h1;subst e1;have⟨H,J⟩:=z7 G;cases H;have⟨y,K,hc,L⟩:=Cw J;have⟨q,M,N⟩:=iH K;subst g1 c i j;refine⟨_,N,xbD _,λfr vs env w Q=> ?_⟩;have⟨l,hi⟩:=Q;have⟨S0,_,a⟩:=hi.ex;have hl:ev env x=yC (vs o):=zj F<|zL a x;have⟨m,hv,T,ht⟩:=zj B<|zL a f;obtain rfl:m=[]:=xbv.1 T;have hn:St fr.we fr.Se (vrD s z ys (vs o)::OS vs fr cx (yx σ.ob o)) (tsF s.dom y (xs.map<|ev env)++GS P vs env fr cx σ) w:=(jG n hi).weak λS w a=>zE.append (L P vs env S w λx _=>zL a x) a;have U:=E z ys y q M (vs o) (xs.map<|ev env) (by simpa using hc) fr.we fr.Se _ _ w hn;have Y:(jp (ev env) ⟨d,.call ⟨.value f,(x::xs).toArray,ts⟩,ty,pos,aft,g⟩).run P w=.ok (.enter s.f (yC (vs o)::xs.map (ev env)).toArray) w:=by simp[jp,Wl,hv,xcV,WN,qd D,hl]
    unfold ur;rw[Y];refine U.mono ?_;rintro e w' ⟨v,u',rfl,hu,hp⟩;refine⟨v,O,iB (o:=o) (u:=u') l hd (λe he=>l.o1 e<|ue e he) (ga<|by rw[xK,jS<|n6 l n];exact hu) ?_⟩;rw[moU];exact hp
   ·cases h
  ·cases h
 ·cases h
theorem E7{o n:K}:∀{rg:N (K×K×Dv)},∀e∈N9 o n rg,e∈rg\/∃a∈rg,∃p,a.2.2=.yd p/\e=(a.1,a.2.1,bif F p o then .yd n else .yd p)
 |[],e,he=>wS he H1
 |(t,i,v)::rg,e,he=>by
  have b:∀e∈N9 o n rg,e∈(t,i,v)::rg\/∃a∈(t,i,v)::rg,∃p,a.2.2=.yd p/\e=(a.1,a.2.1,bif F p o then .yd n else .yd p):=λe he=>by
   obtain h|⟨a,h1,p,c,f⟩:=E7 e he
   ·simp_all
   ·grind
  cases v with
  |yd p=>
   rcases xag.1 (show e∈(t,i,bif F p o then Dv.yd n else .yd p)::N9 o n rg from he)with rfl|he
   ·simp_all
   ·exact b e he
  |_=>
   obtain rfl|he:=xag.1 he
   ·exact .inl<|FS
   ·exact b e he
def zfA(hX:Cx P cf){o:K}{f:wW}{m:ul wW}{ts:ul wT}{k:Sg->V R}(hd:xU cx d=I)(hf:xo cx σ f=Z (.yd o))(h:L3 cx σ d o m.toList k=Z r):
 da P cx ⟨d,.call ⟨.value f,m,ts⟩,ty,pos,aft,g⟩ σ k r:=by
 unfold L3 at h;split at h
 ·next _ x hC=>
  obtain rfl:m= #[x]:=by cases m;simp_all
  split at h
  ·next p hx=>
   have⟨hi,h⟩:=z6 h;rw[xcN]at hi;split at h
   ·next t E X Y mX mY gg z s a ys D hp=>
    have⟨hE,h1⟩:=z6 h;have hE:=zY hE;subst hE;have⟨hm,H⟩:=z7 h1;cases hm;have⟨q,hq,T⟩:=iH H
    have n:∀(fr:Fr) (vs:K->wN) (env:y4) (w:wP),cV P fr cx σ vs env w->ur P ⟨d,.call ⟨.value f,#[x],ts⟩,ty,pos,aft,g⟩ env w λv w'=>v=.bool q.2.isLeft/\Bd cx σ/\Oq P (lOf<|yC<|vs o) t.rep a mX mY gg/\
     ∃c,St fr.we fr.Se (xfe (λx=>mX x c) (λy=>mY y c) q.2::mO t.rep a (vs p) q.1::OS vs fr cx (yx (yx σ.ob o) p)) (GS P vs env fr cx σ) w':=by
     intro fr vs env w A;have⟨j,hj⟩:=A;have⟨S0,_,J⟩:=hj.ex;have hn:ev env x=vs p:=zj hx<|zL J x;have ht:ev env f=.func (.yield<|lOf<|yC<|vs o) #[] #[]:=zj hf<|zL J f;have hv:=gN hi D hp hj;have⟨G,h4⟩:=St.unpr<|St.grp.1 hv;rw[<-hX.pp]at G;have h4:St fr.we fr.Se (mX z ((xM<|vs o).headD uL)::mO t.rep a (vs p) ys::OS vs fr cx (yx (yx σ.ob o) p)) (GS P vs env fr cx σ) w:=h4;have⟨fn,tmps,a0,a1,hy,A⟩:=G ys z q.1 q.2 hq (vs p) _ _ _ _ _ w h4;have hk:(jp (ev env) ⟨d,.call ⟨.value f,#[x],ts⟩,ty,pos,aft,g⟩).run P w=.ok (.round (lOf<|yC<|vs o) fn tmps a0 a1) w:=by
      rw[<-hn]at hy;simp[jp,Wl,ht,xcV,WN,hy]
     unfold ur;rw[hk];exact A.mono λe w' ⟨U,h6⟩=>⟨_,U,O,j,G,h6⟩
    have L:∀(B:Od) (b:v6) (c:wN) (vs:K->wN) (fr:Fr) (env:y4) (w':wP),Bd cx σ->St fr.we fr.Se (Ki (X5 vs σ.nx<|K6 (yC<|vs o) [c]) (σ.nx,B)::mO t.rep a (vs p) q.1::OS vs fr cx (yx (yx σ.ob o) p)) (GS P vs env fr cx σ) w'->
     mI P fr cx σ.nx vs ⟨σ.nx+1,N9 o σ.nx<|v7 σ.rg d [(0,.kb b)],(σ.nx,B)::yx (kQ σ.ob p (.own t a q.1)) o⟩ (put env d (.bool b)) w':=by
     intro B b c vs fr env w' j C;have hc:p≠o:=λe=>by subst e;simp at hi
     have hw:=n6 j D;have hD:xy (yx σ.ob o) p=Z (.own t a ys):=by rw[UF hc];exact hp
     have hz:St fr.we fr.Se (Ki (X5 vs σ.nx<|K6 (yC<|vs o) [c]) (σ.nx,B)::OS vs fr cx (yx (kQ σ.ob p (.own t a q.1)) o)) (GS P vs env fr cx σ) w':=by
      have h7:=jR (vs:=vs) (fr:=fr) (cx:=cx) (ob:=yx (kQ σ.ob p (.own t a q.1)) o) (o:=p) (X:=.own t a q.1) (by rw[UF hc];exact(Vn hp).1);have h8:yx (yx (kQ σ.ob p (.own t a q.1)) o) p=yx (yx σ.ob o) p:=by rw[sG<|λe=>hc e.symm,(Vn hp).2,sG<|λe=>hc e]
      rw[h8]at h7;exact C.perm<|h7.symm.cons _
     have⟨M,hA⟩:cV P fr cx ⟨σ.nx+1,v7 σ.rg d [(0,.kb b)],(σ.nx,B)::yx (kQ σ.ob p (.own t a q.1)) o⟩ (X5 vs σ.nx<|K6 (yC<|vs o) [c]) (put env d (.bool b)) w':=by
      have hl:∀e∈yx (kQ σ.ob p (.own t a q.1)) o,e.1<σ.nx:=λe he=>by
       have⟨e1,g1,g2⟩:=J7 hp e<|ue e he;rw[<-g2];exact j.o1 e1 g1
      refine LX (σ':=⟨σ.nx+1,v7 σ.rg d [(0,.kb b)],(σ.nx,B)::yx (kQ σ.ob p (.own t a q.1)) o⟩) (l:=[(0,.kb b)]) (vs:=vs) (Γl:=[]) j hd O (xbD _) (λo D=>jS D) (λe he p hp=> ?_) (λe he=> ?_) (λS w _ e he=> ?_) ?_
      ·obtain rfl:=xad.1 he;cases hp
      ·obtain rfl|he:=xag.1 he
       ·exact xdj _
       ·exact Nat.lt_succ_of_lt<|hl e he
      ·obtain rfl:=xad.1 he;exact O
      ·show St _ _ (Ki (X5 vs σ.nx _) (σ.nx,B)::OS (X5 vs σ.nx _) fr cx (yx (kQ σ.ob p (.own t a q.1)) o)) _ _;rw[LK j hl];exact hz
     refine⟨_,λo D=>jS D,⟨M.o1,M.o2,λe he r hr=> ?_,M.r2⟩,hA.weak λS w h=>zE.append (jW.2 λf hf=> ?_)<|zE.right h⟩
     ·obtain h|⟨N,h1,r',H,rfl⟩:=E7 e he
      ·exact M.r1 e h r hr
      ·cases hb:F r' o<;>simp only[hb,Wd,XS]at hr
       ·exact M.r1 N h1 r<|by rw[H];exact hr
       ·cases hr;exact xdj _
     ·obtain⟨e,he,rfl⟩:=xap.1 hf;obtain h'|⟨N,h1,r',H,rfl⟩:=E7 e he
      ·exact UB (zE.left h) h'
      ·have U:=UB (zE.left h) (t:=N.1) (i:=N.2.1) (d:=N.2.2) h1;rw[H]at U;refine Jq U λu Q=> ?_;cases hb:F r' o
       ·exact Q
       ·have Q:u=.func (.yield<|lOf<|yC<|X5 vs σ.nx (K6 (yC<|vs o) [c]) r') #[] #[]:=Q;rw[zY hb,jS hw]at Q;show u=.func (.yield<|lOf<|yC<|X5 vs σ.nx (K6 (yC<|vs o) [c]) σ.nx) #[] #[];rw[xK];exact Q
    cases hg:q.2 with
    |inl z'=>
     rw[hg]at T;refine⟨_,T,xbD _,λfr vs env w A=>(n fr vs env w A).mono ?_⟩;rintro v w' ⟨rfl,j,G,c,C⟩;rw[hg]at C⊢;refine L _ I c vs fr env w' j ?_;rw[moU];refine St.grp.2 ?_;rw[<-hX.pp];exact St.pr G C
    |inr y'=>
     rw[hg]at T;refine⟨_,T,xbD _,λfr vs env w A=>(n fr vs env w A).mono ?_⟩;rintro v w' ⟨rfl,j,G,c,C⟩;rw[hg]at C⊢;refine L _ wL c vs fr env w' j ?_;rw[moU];exact C
   ·cases h
  ·cases h
 ·cases h
end
end
section
section
variable{P:jP}{cf:Cf}{fr:Fr}{cx σ:Sg}{vs vs':wr->wN}{env:y4}{w:wP}{R:Type}{r:R}
 {d:ww Z4}{ty t yt:wT}{pos:String}{aft:ul Edge}{g:ww (wr×v6)}{x y:wW}
def Pv{o:K}{s:Ty}{E:wT}{xs:N s.D}{S:K->Prop}(a:(fV (eS s.rep) xs<|vs o).p S w):∀{rg:N (K×K×Dv)},zE S (RS P vs env rg) w->zE S (RS P vs env<|FW o (.own s E xs) rg) w
 |[],_=>trivial
 |(t,i,v)::rg,h=>by
  refine⟨?_,Pv a h.2⟩;have h1:=h.1;cases v<;>try exact h1
  rename_i b;unfold Ld;cases c:F b o<;>simp only[c]
  ·exact h1
  ·have:=zY c;subst this;refine Jq h1 λu e=> ?_;rw[show u=vs b from e];exact a
def RH{o:K}{s:Ty}{E:wT}{z:s.D}{S:K->Prop}(a:(fP s.rep z<|vs o).p S w):∀{rg:N (K×K×Dv)},zE S (RS P vs env rg) w->zE S (RS P vs env<|FW o (.var s E z) rg) w
 |[],_=>trivial
 |(t,i,v)::rg,h=>by
  refine⟨?_,RH a h.2⟩;have h1:=h.1;cases v<;>try exact h1
  rename_i b f;unfold Ld;cases c:F b o<;>simp only[c]
  ·exact h1
  ·have:=zY c;subst this;refine Jq h1 λu e=> ?_;rw[show u=vs b from e.1];exact a
def Sk{o:K}{s:Ty}{E E1:wT}{a:N (N s.D)}{ix:N K}{S:K->Prop}(b:(fV (eS<|eS s.rep) (zdf a ix)<|yC<|vs o).p S w):∀{rg:N (K×K×Dv)},zE S (RS P vs env rg) w->zE S (RS P vs env<|FW o (.mat s E E1 a ix) rg) w
 |[],_=>trivial
 |(t,i,v)::rg,h=>by
  refine⟨?_,Sk b h.2⟩;have h1:=h.1;cases v<;>try exact h1
  rename_i c;unfold Ld;cases e:F c o<;>simp only[e]
  ·exact h1
  ·have:=zY e;subst this;refine Jq h1 λu f=> ?_;rw[show u=yC (vs c)from f];exact b
def zbY{o:K}{t s:Ty}{E E1 n i:K}{z:t.D}{xs:N s.D}{S:K->Prop}(a:(fP t.rep (uj s (xe n t i) xs z)<|yC<|vs o).p S w):∀{rg:N (K×K×Dv)},zE S (RS P vs env rg) w->zE S (RS P vs env<|FW o (.vr t E s E1 n i z xs) rg) w
 |[],_=>trivial
 |(u,j,v)::rg,h=>by
  refine⟨?_,zbY a h.2⟩;have h1:=h.1;cases v<;>try exact h1
  rename_i b;unfold Ld;cases c:F b o<;>simp only[c]
  ·exact h1
  ·have:=zY c;subst this;refine Jq h1 λu e=> ?_;rw[show u=yC (vs b)from e];exact a
def UJ{o:K}{X:Od}(a:∀v,Ld o X v=v):∀{rg:N (K×K×Dv)},FW o X rg=rg
 |[]=>rfl
 |(t,i,v)::rg=>by
  show(t,i,Ld o X v)::FW o X rg=_;rw[a,UJ a]
def zeA{o p:K}{X:Od}{v:Dv}(h:vn (Ld o X v)=Z p):vn v=Z p:=by
 unfold Ld at h;split at h
 ·next a s E xs=>
  cases b:F a o<;>rw[b]at h
  ·exact h
  ·cases h
 ·next a e s E z=>
  cases b:F a o<;>rw[b]at h
  ·exact h
  ·cases h
 ·next a s E E1 c ix=>
  cases b:F a o<;>rw[b]at h
  ·exact h
  ·cases h
 ·next a t E s E1 n i z xs=>
  cases b:F a o<;>rw[b]at h
  ·exact h
  ·cases h
 ·exact h
theorem OQ{o:K}{X:Od}:∀{rg:N (K×K×Dv)},∀e∈FW o X rg,∀p,vn e.2.2=Z p->∃a∈rg,vn a.2.2=Z p
 |[],e,he=>wS he H1
 |(t,i,v)::rg,e,he=>by
  intro p hp;obtain rfl|he:=xag.1 he
  ·refine⟨(t,i,v),FS,?_⟩;exact zeA hp
  ·have⟨a,h1,b⟩:=OQ e he p hp;grind
theorem Im{o:K}(h:cV P fr cx σ vs env w):cV P fr cx (Pb σ o) vs env w:=by
 unfold Pb;split
 ·next X ho=>
  have⟨m,hc⟩:=h;have⟨i,hi,_,hd⟩:=vm ho;have H:Bd cx ⟨σ.nx,FW o X σ.rg,yx σ.ob o⟩:=⟨λe A=>m.o1 e<|ue e A,m.o2,λe A p hp=>by have⟨J,h1,f⟩:=OQ e A p hp;exact m.r1 J h1 p f,m.r2⟩;refine⟨H,?_⟩
  cases X with
  |own s E xs=>
   have q:(OS vs fr cx σ.ob)[i]? =Z (mO s.rep E (vs o) xs):=JJ hi;have:=Nh i hc q;rw[dq hi,<-hd]at this;exact this.weak λS w a=>zE.append (Pv a.1<|zE.left a.2)<|zE.right a.2
  |var s E z=>
   have q:(OS vs fr cx σ.ob)[i]? =Z (mP s.rep.c E (vs o) z):=JJ hi;have⟨b,hv,u⟩:=hc.openP i q;have:=zl3 (e:=s.rep) i u<|vB q;rw[sX,dq hi,<-hd,<-hv]at this;exact this.weak λS w a=>zE.append (RH a.1<|zE.left a.2)<|zE.right a.2
  |mat s E E1 B ix=>
   have h1:=jG ho hc;have f:St fr.we fr.Se (ziS s.rep E E1 (yC<|vs o) (xM<|vs o) B ix::OS vs fr cx (yx σ.ob o)) (GS P vs env fr cx σ) w:=St.grp.2 (fZ h1).2;exact(f.mat_frz (fZ h1).1).weak λS w a=>zE.append (Sk a.1<|zE.left a.2)<|zE.right a.2
  |vr t E s E1 n i z xs=>
   have h1:=jG ho hc;have f:=h1.freeze (i:=0) (F:=fP t.rep (uj s (xe n t i) xs z)<|yC<|vs o) O λS V u C hp=>by
    have⟨⟨⟨hl,L⟩,⟨b,hv,cs,g1,j⟩,hn,_⟩,_⟩:=hp;have j:(UM t.rep (YL<|xe n t i) (uj s (xe n t i) [])<|xM<|vs o).p S (z,0) cs.toList w:=j;refine⟨b,0,cs.toList,hv,C b ⟨_,UV _<|FS,by show zey (yC<|vs o)=Z b;rw[hv];rfl⟩,At.row g1,?_⟩;have⟨off,M,st,G⟩:=L;rw[G]at j⊢;rw[show uj s (Z ⟨off,.l s,M,st⟩) ([]:N s.D)=st ([]:N s.D)from qR λz=>ig]at j;rw[ig];exact zmp G j (by rw[C2 hl];rfl) u<|rI u (λk Q=>C k ⟨_,UV _<|UV _<|FS,Q⟩) hn
   exact f.weak λS w a=>zE.append (zbY a.1<|zE.left a.2)<|zE.right a.2
  |vh t E s E1 n i z=>
   rw[UJ<|λv=>by cases v<;>rfl];exact St.drop (i:=0)<|jG ho hc
  |bo s E T xs=>
   rw[UJ<|λv=>by cases v<;>rfl];exact St.drop (i:=0)<|jG ho hc
  |ho T=>
   rw[UJ<|λv=>by cases v<;>rfl];exact St.drop (i:=0)<|jG ho hc
  |hid t E X Y mX U g x=>
   rw[UJ<|λv=>by cases v<;>rfl];exact St.drop (i:=0)<|jG ho hc
  |hiy Y U y=>
   rw[UJ<|λv=>by cases v<;>rfl];exact St.drop (i:=0)<|jG ho hc
 ·exact h
theorem zf1(x:wW)(h:cV P fr cx σ vs env w):cV P fr cx (frz cx σ x) vs env w:=by grind [frz,Im]
def NC(x:wW)(h:Z1 P fr cx σ env w):Z1 P fr cx (frz cx σ x) env w:=by
 have⟨a,vs,b⟩:=h;have⟨h1,c⟩:=zf1 x ⟨a,b⟩;exact⟨h1,vs,c⟩
def Ez:∀(l:N wW) {σ:Sg},Z1 P fr cx σ env w->Z1 P fr cx (zjh cx σ l) env w
 |[],_,h=>h
 |x::r,_,h=>Ez r<|NC x h
def zao{f:Z3}:∀{cs:N X2}{s:X2},zde f cs=Z s->s∈cs/\s.f=f/\s.bk=1
 |c::cs,s,h=>by
  unfold zde at h;split at h
  ·next h1 i j k=>
   cases e:F c.f f<;>rw[e]at h
   ·have⟨a,b⟩:=zao h;exact⟨UV _ a,b⟩
   ·simp_all
  ·have⟨a,b⟩:=zao h;exact⟨UV _ a,b⟩
def zqQ(B:∀s∈cf.cs,xh P s){f:wW}{f':Z3}{o:K}{C:Ty}{s:X2}{a:ul wW}{ts:ul wT}{k:Sg->V R}(hd:xU cx d=I)(D:xo cx σ f=Z (.bm f' o C))(ht:a.toList=[])
 (F:zde f' cf.cs=Z s) (h:mBm σ d s o k=Z r):da P cx ⟨d,.call ⟨.value f,a,ts⟩,ty,pos,aft,g⟩ σ k r:=by
 have⟨h1,j,G⟩:=zao F;have hc:=B s h1;unfold mBm at h;split at h
 ·next f0 t E t2 q M bk H E' y m=>
  have⟨u,J⟩:=z6 h;have⟨hn,L⟩:=z7 J;subst hn;have⟨z,N,Q⟩:=iH L;rw[xab,xab]at u;obtain rfl:=zY u.1;obtain rfl:bk=1:=G;obtain rfl:a= #[]:=by cases a;simp_all
  refine⟨_,Q,IR _,λfr vs env w T=> ?_⟩;have⟨v,hi⟩:=T;have⟨S0,_,n⟩:=hi.ex;have⟨hv,b,U⟩:=zj D<|zL n f;have A:=hc.2 (y,()) z N [vs o] O;have Y:(jp (ev env) ⟨d,.call ⟨.value f,#[],ts⟩,ty,pos,aft,g⟩).run P w=.ok (.enter f' #[vs o]) w:=by simp[jp,Wl,hv,xcV,WN,qd<|j▸hc.1]
  have hl:St fr.we fr.Se (mP H.rep.c E (vs o) y::OS vs fr cx (yx σ.ob o)) (cQ (∃b,vs o=.pointer (Z ⟨b,0,wF⟩))::GS P vs env fr cx σ) w:=(jG m hi).weak λS w p=>⟨⟨b,U⟩,p⟩;unfold ur;rw[Y];rw[show f0=f' from j]at A;refine(A fr.we fr.Se _ _ w hl).mono ?_;rintro e w' ⟨us,i,⟨hu,hp⟩,hq⟩;obtain rfl:us=[vs o]:=hp;refine⟨_,i,?_⟩;refine Ka (σ':=⟨σ.nx,v7 σ.rg d [],kQ σ.ob o (.var t2 q z)⟩) (d:=d) (l:=[]) (vs:=vs) (vs':=vs) (Γl:=[]) v hd O (IR _) (λ_ _=>O) (λ_ i=>wS i H1) (λe i=> ?_) (λS w _ e i=>wS i H1) ?_
  ·have⟨e',h1,j⟩:=J7 m e i;rw[<-j];exact v.o1 e' h1
  ·refine Cd m ?_;have hr:St fr.we fr.Se (mP t2.rep.c q (vs o) z::OS vs fr cx (yx σ.ob o)) (cQ (∃b,vs o=.pointer (Z ⟨b,0,wF⟩))::GS P vs env fr cx σ) w':=hq;exact hr.weak λS w p=>p.2
 ·cases h
def zlX(a:yZ P cf.tt)(b:uz P cf.tt)(c:∀s∈cf.cs,xh P s)(e:Cx P cf){l:Op}{k:Sg->V R}(hd:xU cx d=I)(h:zmc cf cx σ d l k=Z r):
 da P cx ⟨d,l,ty,pos,aft,g⟩ σ k r:=by
 unfold zmc at h;split at h
 ·exact zkk a hd h
 ·next E x=>
  cases m:zmR cf d<;>rw[m]at h
  ·exact m_E a b c e hd h
  ·exact zpl hd h
 ·next t x y=>
  have⟨hn,h⟩:=z6 h;have hn:d=wF:=by simpa using hn
  subst hn;split at h
  ·next u hc=>exact zkS a hc h
  ·cases h
 ·exact zl0 a hd h
 ·exact zqd a b hd h
 ·next t x hi=>
  split at h
  ·next o n=>exact zjf a b hd n h
  ·exact m_E a b c e hd h
 ·exact zp5 a hd h
 ·exact zmV a b hd h
 ·next f p ts=>
  split at h
  ·next f' cs i=>
   split at h
   ·next s j=>exact zlV c hd i j h
   ·exact m_E a b c e hd h
  ·next f' o t i=>
   split at h
   ·next s q j=>exact zqQ c hd i q j h
   ·cases h
  ·exact m_E a b c e hd h
 ·exact m_E a b c e hd h
def zqq(b:yZ P cf.tt)(p:uz P cf.tt)(q:∀s∈cf.cs,xh P s)(e:Cx P cf){j:Op}{k:Sg->V R}(hd:xU cx d=I)(h:mOp cf cx σ d j k=Z r):
 da P cx ⟨d,j,ty,pos,aft,g⟩ σ k r:=by
 unfold mOp at h
 cases hc:coM cf cx σ d j with
 |no=>rw[hc]at h;exact zlX b p q e hd h
 |_=>
  rw[hc]at h;simp only[mCo]at h;unfold coM at hc;split at hc
  ·next t x y=>
   cases a:OX (xo cx σ x)<;>rw[a]at hc<;>cases hc
   all_goals
    have⟨hn,h⟩:=z6 h
    have hn:d=wF:=by simpa using hn
    subst hn
    split at h
    ·next A u=>exact zii b u h
    ·cases h
  ·next t x y=>
   cases a:Th cf d<;>rw[a]at hc<;>cases hc;all_goals exact zjK b hd h
  ·next t n ps=>
   cases a:Th cf d<;>rw[a]at hc<;>cases hc;all_goals exact znQ b p hd h
  ·next E=>
   cases a:Th cf d||(Fx cf d).isSome<;>rw[a]at hc<;>cases hc
   all_goals exact zgc b hd h
  ·next t ps=>
   cases a:(Fx cf d).isSome<;>rw[a]at hc<;>cases hc;all_goals exact zfX b hd h
  ·next E x=>
   cases a:(Fx cf d).isSome<;>rw[a]at hc<;>cases hc;all_goals exact znb b hd h
  ·next t x=>
   split at hc
   ·next o v=>cases hc<;>exact zkp b hd v h
   ·split at hc
    ·next o B z=>cases hc<;>exact zjM b hd z h
    ·cases hc
  ·next c ts=>
   cases a:c.toList.any (λx=>zfj<|xo cx σ x)<;>rw[a]at hc<;>cases hc;all_goals exact znU b hd h
  ·next f c ts=>
   split at hc
   ·next o i=>cases hc<;>exact zfA e hd i h
   ·next f' i=>
    split at hc
    ·next s l=>
     have⟨h1,m⟩:=zgi l;subst m;cases hc<;>exact zdl e hd i h1 h
    ·split at hc
     ·next s l=>
      have⟨h1,m⟩:=zhJ l;subst m;cases hc<;>exact zkz e hd i h1 h
     ·cases hc
   ·cases hc
  ·cases hc
def zeS(n:yZ P cf.tt)(o:uz P cf.tt)(i:∀s∈cf.cs,xh P s)(j:Cx P cf){b:Op}{kp:PX->Sg->V R}{k:Sg->V R}(hd:xU cx d=I)(h:zkv cf cx σ d b kp k=Z r):
 da P cx ⟨d,b,ty,pos,aft,g⟩ σ k r\/zlz P cx ⟨d,b,ty,pos,aft,g⟩ σ kp r:=by
 unfold zkv at h;split at h
 ·next p u cs hp=>
  unfold zjX at hp;split at hp
  ·next f l ts=>
   split at hp
   ·next f' v z=>
    split at hp
    ·next G A=>
     cases hp;have⟨h1,B⟩:=ze1 A;exact zpb i hd z (j.ps _ h1) B h
    ·cases hp
   ·cases hp
  ·cases hp
 ·split at h
  ·next x a=>
   unfold zp9 at a;split at a
   ·next H=>
    cases a;split at h
    ·next q C=>
     refine .inr ⟨q,σ,h,O,λfr vs env w D=> ?_⟩;have⟨E,m⟩:=D;have⟨S0,_,e⟩:=m.ex;have hv:ev env x=.iface q.1 (.agg #[.int .i64 q.2]):=zj C<|zL e x;refine⟨λc hc=>(by cases hc),?_⟩;have F:(jp (ev env) ⟨d,.panic x,ty,pos,aft,g⟩).run P w=.halt (.panic (.iface q.1 (.agg #[.int .i64 q.2]))) w:=by simp[jp,Instr.panic,hv,goPanic]
     rw[F];exact⟨O,E,m⟩
    ·cases h
   ·cases a
  ·exact .inl<|zqq n o i j hd h
theorem zhB{t:Z4}:put env (Z t) (env t)=env:=by grind [Ed,nM]
def pV{t:Z4}{b:v6}(hn:Y5 cx.rg t=I)(hv:env t=.bool b)(h:Z1 P fr cx σ env w):Z1 P fr cx (Nk σ t b) env w:=by
 have⟨c,vs,f⟩:=h
 have:=mI.rel<|Ka (d:=Z t) (σ':=Nk σ t b) (Γl:=[]) c hn O (IR _) (λ_ _=>O)
  (λe a o i=>by obtain rfl:=xad.1 a;cases i) c.o1 (λS w _ e a=>by obtain rfl:=xad.1 a;exact hv) f
 rwa[zhB]at this
def oz{t:Z4}{x:v6}{S:K->Prop}(h:get cx σ t 0=Z (.d .b x))(hl:Lk P vs env S w cx σ t):env t=.bool x:=rN<|hl 0 _ h
def RV{b:v6}{a c:V R}(h:ifB b a c=Z r):(b=I/\a=Z r)\/(b=wL/\c=Z r):=by
 cases b
 ·exact .inr ⟨O,h⟩
 ·exact .inl ⟨O,h⟩
theorem zjv{c:N ut}{o:ut}{k:Sg->v6->V R}(h:nF cx c o σ k=Z r)(p:Z1 P fr cx σ env w):∃σ' b,k σ' b=Z r/\Z1 P fr cx σ' env w/\yV c.toArray env o=b:=by
 have f:=p;have⟨q,vs,hd⟩:=p;have⟨S,_,e⟩:=hd.ex;unfold nF at h;split at h
 ·next n=>exact⟨σ,I,h,f,by unfold yV;rw[n]⟩
 ·next j a n=>
  split at h
  ·next s u=>
   split at h
   ·next t z=>
    have hc:∀{v},env t=v->gd c.toArray env j=(match v with|.bool b=>Z b|_=>wF):=by
     rintro v rfl;unfold gd;grind
    have m:yV c.toArray env o=(gd c.toArray env j==Z a):=by unfold yV;rw[n]
    split at h
    ·next b i=>
     have hv:env t=.bool b:=X6 e t 0 _ i;refine⟨σ,_,h,f,?_⟩;rw[m,hc hv];cases b<;>cases a<;>rfl
    ·next i=>
     have hv:env t=uL:=X6 e t 0 _ i;refine⟨σ,_,h,f,?_⟩;rw[m,hc hv];rfl
    ·next x i=>
     have⟨hn,h⟩:=z6 h;have hv:env t=.bool x:=oz i<|X6 e t;rcases RV h with⟨l,h⟩|⟨l,h⟩
     ·exact⟨_,_,h,pV hn (hv.trans<|kW xeB l) f,by rw[m,hc<|hv.trans<|kW xeB l];cases a<;>rfl⟩
     ·exact⟨_,_,h,pV hn (hv.trans<|kW xeB l) f,by rw[m,hc<|hv.trans<|kW xeB l];cases a<;>rfl⟩
    ·cases h
   ·cases h
  ·cases h
theorem zmL{o:ut}{k:Sg->V R}(h:DU cx o σ k=Z r)(c:Z1 P fr cx σ env w):∃σ',k σ'=Z r/\Z1 P fr cx σ' env w:=by
 have e:=c;have⟨i,vs,hc⟩:=c;have⟨S,_,a⟩:=hc.ex;unfold DU at h;split at h
 ·next t _ _ _=>
  split at h
  ·next x f=>
   have⟨hn,h⟩:=z6 h;have hv:=oz f<|X6 a t;rcases RV h with⟨b,h⟩|⟨b,h⟩
   ·exact⟨_,h,pV hn (hv.trans<|kW xeB b) e⟩
   ·exact⟨_,h,pV hn (hv.trans<|kW xeB b) e⟩
  ·grind
 ·grind
def zmy{N:Nd}{b:ul ut}{o:ut}{rest:xS ut}{Q:Qs}(c:yV b env o=I)(hd:jL N.n o.dst=I)(h:ur P o env w (λv w'=>WpL P N b rest Q (put env o.dst v) w')):WpL P N b (o::rest) Q env w:=by
 intro a h1 e f;subst f;unfold WF;rw[iq<|by rw[Wy];exact c];refine h.wp λv w' i=> ?_;exact i _ (by rw[UU];exact h1) (by rw[X7];exact e)<|Wz<|by rw[h1];exact aa hd
def zjV{N:Nd}{b:ul ut}{o:ut}{rest:xS ut}{Q:Qs}(c:yV b env o=wL)(hd:jL N.n o.dst=I)(h:WpL P N b rest Q (put env o.dst uL) w):WpL P N b (o::rest) Q env w:=by
 intro a h1 e f;subst f;unfold WF;rw[ir<|by rw[Wy,c];exact Bool.false_ne_true];exact⟨λ_ _=>wR,h _ (by rw[UU];exact h1) (by rw[X7];exact e)<|Wz<|by rw[h1];exact aa hd⟩
def zmb(hd:xU cx d=I)(h:Z1 P fr cx σ env w):Z1 P fr cx (σ.put d [(0,.un)]) (put env d uL) w:=by
 have⟨b,vs,c⟩:=h;exact(Ka (σ':=σ.put d [(0,.un)]) (Γl:=[]) b hd O (IR _) (λ_ _=>O) (λe a o f=>by obtain rfl:=xad.1 a;cases f) b.o1 (λS w _ e a=>by obtain rfl:=xad.1 a;exact O) c).rel
def lU(cx:Sg)(a b:y4):Prop:=∀e∈cx.rg,b e.1=a e.1
def lU.refl{a:y4}:lU cx a a:=λ_ _=>O
def lU.trans{a b c:y4}(h:lU cx a b)(k:lU cx b c):lU cx a c:=λe f=>(k e f).trans<|h e f
def lU.put{a b:y4}{v:wN}(hd:xU cx d=I)(h:lU cx a b):lU cx a (put b d v):=λe c=>by
 rw[nM λf=> ?_]
 ·exact h e c
 ·subst f;simp only[xU,Y5,xaQ]at hd;have:=hd e c;simp at this
def Fh(j:yZ P cf.tt)(m:uz P cf.tt)(p:∀s∈cf.cs,xh P s)(u:Cx P cf){N:Nd}{e:xS ut}{Q:Qs}{kp:PX->Sg->V R}{k:Sg->V R}{env0:y4}
 (z:∀σ',k σ'=Z r->∀env w,lU cx env0 env->Z1 P fr cx σ' env w->Q .normal env w) (A:∀q σ',kp q σ'=Z r->∀env w,lU cx env0 env->Z1 P fr cx σ' env w->Q (.panic<|OT q) env w):
 ∀{l:xS ut}{σ:Sg}{env:y4}{w:wP},lU cx env0 env->(l.all λo=>jL N.n o.dst)=I->zdI cf cx e kp l σ k=Z r->Z1 P fr cx σ env w->WpL P N e.toArray l Q env w
 |[],σ,env,w,f,_,h,c=>λa h1 H J=>wpListIn_nil ⟨h1,H,J▸z σ h env w f c⟩
 |o::l,σ,env,w,f,i,h,c=>by
  simp only[List.all_cons,xab]at i;have⟨hd,h⟩:=z6 h;have⟨K,b,h,c,B⟩:=zjv h c;cases b
  ·exact zjV B i.1<|Fh j m p u z A (f.put hd) i.2 h<|zmb hd c
  ·have⟨C,h,c⟩:=zmL h c;have c:=Ez (znz cf cx C o.dst o.op) c;have⟨F,vs,G⟩:=c;rcases zeS j m p u hd h with⟨σ',D,_,E⟩|⟨q,σ',D,_,E⟩
   ·exact zmy B i.1<|(E fr vs env w ⟨F,G⟩).mono λv w' hc=>Fh j m p u z A (f.put hd) i.2 D hc.rel
   ·refine zjN B<|(E fr vs env w ⟨F,G⟩).mono ?_;rintro S w' ⟨rfl,L,M⟩;exact A q σ' D env w' f ⟨L,vs,M⟩
end
end
section
section
variable{P:jP}{cf:Cf}{fr:Fr}{cx σ σ0:Sg}{vs vs':wr->wN}{env env0:y4}{w:wP}{R:Type}{r:R}
 {d:ww Z4}{ty t yt:wT}{pos:String}{aft:ul Edge}{g:ww (wr×v6)}{x y:wW}
theorem RA:∀{a b:N (K×K×Dv)}{t i:K},(∀e∈a,e.1≠t)->lN (a++b) t i=lN b t i
 |[],_,_,_,_=>rfl
 |(c,f,d)::a,b,t,i,h=>by
  show(bif F c t && F f i then Z d else lN (a++b) t i)=_;rw[YG<|h (c,f,d)<|FS];exact RA λe j=>h e<|UV _ j
theorem zeq{rg:N (K×K×Dv)}{t a i:K}(h:a≠t):lN (zn4 rg t) a i=lN rg a i:=by
 induction rg with
 |nil=>rfl
 |cons e rg b=>
  have⟨s,j,d⟩:=e;unfold zn4 at b⊢;rw[xfF];cases c:F s t
  ·simp only[Bool.not_false,uP];unfold lN;rw[b]
  ·simp only[xeL,xar,uS];rw[b];have:=zY c;subst this;conv=>rhs;unfold lN
   rw[YG<|λe=>h e.symm];rfl
theorem TJ{rg:N (K×K×Dv)}{t a i:K}{l:N (K×Dv)}(h:a≠t):lN (v7 rg (Z t) l) a i=lN rg a i:=by grind [v7,RA,zeq]
def zkW{t a i:K}{l:N (K×Dv)}{n:K}{ob:N (K×Od)}{dv:Dv}(hn:Y5 cx.rg t=I)(h:get cx ⟨n,v7 σ.rg (Z t) l,ob⟩ a i=Z dv):(a=t/\(i,dv)∈l)\/(a≠t/\get cx σ a i=Z dv):=by
 by_cases b:a=t
 ·subst b;obtain hm|hm:=NR h
  ·have hm:=hm;obtain hm|hm:=So.1 hm
   ·simp_all
   ·have:=(xbY.1 hm).2;simp at this
  ·simp only[Y5,xaQ]at hn;have:=hn _ hm;simp at this
 ·right;refine⟨b,?_⟩;unfold get at h⊢;rw[show lN (v7 σ.rg (Z t) l) a i=lN σ.rg a i from TJ b]at h;exact h
def zg8{t:K}{l:N (K×Dv)}{n:K}{ob:N (K×Od)}{S:K->Prop}(hn:Y5 cx.rg t=I){a:K}(h1:a=t->∀e∈l,(vX P vs e.2 (env t) e.1).p S w)(b:a≠t->Lk P vs env S w cx σ a):Lk P vs env S w cx ⟨n,v7 σ.rg (Z t) l,ob⟩ a:=by
 intro i dv hd;rcases zkW hn hd with⟨rfl,h⟩|⟨c,f⟩
 ·simp_all
 ·exact b c i dv f
def gj{l:N (K×Dv)}(a:Bd cx σ)(hl:∀e∈l,∀o,vn e.2=Z o->o<σ.nx):Bd cx (σ.put d l):=by
 refine⟨a.o1,a.o2,λe he o b=> ?_,a.r2⟩
 cases d with
 |none=>exact a.r1 e he o b
 |some t=>
  obtain he|he:=So.1 he
  ·obtain⟨c,f,rfl⟩:=xap.1 he;exact hl c f o b
  ·exact a.r1 e (xbY.1 he).1 o b
def Cb{t a:K}{x b:v6}{S:K->Prop}(hn:Y5 cx.rg t=I)(c:get cx σ t 0=Z (.d .b x))(f:x=b)(h:Lk P vs env S w cx σ a):Lk P vs env S w cx (Nk σ t b) a:=by
 refine zg8 hn (λe j i=> ?_)<|λ_=>h;subst e;obtain rfl:=xad.1 i;exact(oz c h).trans<|kW xeB f
def OV{a:N ut}{o:ut}{k:Sg->v6->V R}(h:nF cx a o σ k=Z r)(l:Bd cx σ):∃σ' b,k σ' b=Z r/\σ'.ob=σ.ob/\σ'.nx=σ.nx/\Bd cx σ'/\
 (∀(P:jP) vs env S w t,Lk P vs env S w cx σ t->Lk P vs env S w cx σ' t)/\(∀(P:jP) vs env S w,(∀t∈xbm a.toArray o,Lk P vs env S w cx σ t)->yV a.toArray env o=b):=by
 unfold nF at h;split at h
 ·next p=>exact⟨σ,I,h,O,O,l,λ_ _ _ _ _ _ h=>h,λP vs env S w _=>by unfold yV;rw[p]⟩
 ·next j c p=>
  split at h
  ·next B q=>
   split at h
   ·next t s=>
    have m:t∈xbm a.toArray o:=by
     unfold xbm;simp_all
    have hc:∀{env:y4}{v},env t=v->gd a.toArray env j=(match v with|.bool b=>Z b|_=>wF):=by
     rintro env v rfl;unfold gd;simp only[List.getElem?_toArray,q,Option.bind_some,s];rfl
    have n:∀env,yV a.toArray env o=(gd a.toArray env j==Z c):=λenv=>by unfold yV;rw[p]
    split at h
    ·next b f=>
     refine⟨σ,_,h,O,O,l,λ_ _ _ _ _ _ h=>h,λP vs env S w hl=> ?_⟩;have hv:env t=.bool b:=hl t m 0 _ f;rw[n,hc hv];cases b<;>cases c<;>rfl
    ·next f=>
     refine⟨σ,_,h,O,O,l,λ_ _ _ _ _ _ h=>h,λP vs env S w hl=> ?_⟩;have hv:env t=uL:=hl t m 0 _ f;rw[n,hc hv];rfl
    ·next x f=>
     have⟨hn,h⟩:=z6 h;have hd:∀b,Bd cx (Nk σ t b):=λb=>gj (d:=Z t) l λe u o z=>by obtain rfl:=xad.1 u;cases z
     rcases RV h with⟨i,h⟩|⟨i,h⟩
     ·refine⟨_,_,h,O,O,hd _,λP vs env S w A hl=>Cb hn f i hl,λP vs env S w hl=> ?_⟩;have hv:=(oz f<|hl t m).trans<|kW xeB i;rw[n,hc hv];cases c<;>rfl
     ·refine⟨_,_,h,O,O,hd _,λP vs env S w A hl=>Cb hn f i hl,λP vs env S w hl=> ?_⟩;have hv:=(oz f<|hl t m).trans<|kW xeB i;rw[n,hc hv];cases c<;>rfl
    ·cases h
   ·cases h
  ·cases h
theorem zco{o:ut}{k:Sg->V R}(h:DU cx o σ k=Z r)(i:Bd cx σ):∃σ',k σ'=Z r/\σ'.ob=σ.ob/\σ'.nx=σ.nx/\Bd cx σ'/\(∀(P:jP) vs env S w t,Lk P vs env S w cx σ t->Lk P vs env S w cx σ' t):=by
 unfold DU at h;split at h
 ·next t _ _ _=>
  split at h
  ·next x c=>
   have⟨hn,h⟩:=z6 h;have f:∀b,Bd cx (Nk σ t b):=λb=>gj i λe j o l=>by obtain rfl:=xad.1 j;cases l
   rcases RV h with⟨a,h⟩|⟨a,h⟩
   ·exact⟨_,h,O,O,f _,λP vs env S w m hl=>Cb hn c a hl⟩
   ·exact⟨_,h,O,O,f _,λP vs env S w m hl=>Cb hn c a hl⟩
  ·grind
 ·grind
def prL(P:jP)(vs:K->wN)(l:N (K×Dv)):Pr where
 p S v w:=∀e∈l,(vX P vs e.2 v e.1).p S w
 keepS h k:=λe a=>(vX P vs e.2 _ e.1).keep (h e a) k
 sub h k:=λe a=>(vX P vs e.2 _ e.1).sub (h e a) k
def za6(P:jP)(vs:wr->wN)(Γ:N FF)(env0:y4)(cx σ:Sg)(K:N (Z4×Pr)):Prop:=∀(env:y4) (S:wr->Prop) (w:wP),zE S Γ w->∀t,Y4 K env0 env S w t->Lk P vs env S w cx σ t
def zkQ(cx:Sg)(K:N (Z4×Pr)):Prop:=∀e∈K,Y5 cx.rg e.1=I
def Wb{K:N (Z4×Pr)}{S:wr->Prop}:∀{ts:N Z4},Vk K env0 env S w ts->∀t∈ts,Y4 K env0 env S w t
 |[],_,_,h=>wS h H1
 |_::_,h,t,ht=>by
  obtain rfl|ht:=xag.1 ht
  ·exact h.1
  ·exact Wb h.2 t ht
def EV{Γ:N FF}{K:N (Z4×Pr)}{c:Pr}{l:N (wr×Dv)}{o:ut}(hd:xU cx o.dst=I)(h:za6 P vs Γ env0 cx σ K)(i:∀S v w,c.p S v w->∀e∈l,(vX P vs e.2 v e.1).p S w):za6 P vs Γ env0 cx (σ.put o.dst l) (iQ o.dst c K):=by
 intro env S w b t a
 cases f:o.dst with
 |none=>
  rw[f]at a;exact h env S w b t a
 |some s=>
  rw[f]at a hd;refine zg8 hd (λe=> ?_)<|λj=> ?_
  ·subst e;unfold Y4 iQ at a;simp_all
  ·refine h env S w b t ?_;unfold Y4 iQ at a;rw[List.find?_cons,YG<|λe=>j e.symm]at a;exact a
def Oz{K:N (Z4×Pr)}{a:Pr}{d:V Z4}(hd:xU cx d=I)(h:zkQ cx K):zkQ cx (iQ d a K):=by
 cases d with
 |none=>exact h
 |some s=>
  intro e he;obtain rfl|he:=xag.1 he
  ·exact hd
  ·exact h e he
theorem zaU(q:yZ P cf.tt)(u:uz P cf.tt)(z:∀s∈cf.cs,xh P s)(A:Cx P cf){f:N ut}{k:Sg->V R}{Γ:N FF}:∀{os:N ut}{σ:Sg}{K:N (Z4×Pr)},zeQ cf cx f os σ k=Z r->
 za6 P vs Γ env0 cx σ K->zkQ cx K->σ.ob=σ0.ob->Bd cx σ->∃(c:N Pr) (σ':Sg),X c=X os/\Obs P f.toArray (OS vs fr cx σ0.ob) Γ env0 (os.zip c) K/\k σ'=Z r/\za6 P vs Γ env0 cx σ' (SJ (os.zip c) K)/\zkQ cx (SJ (os.zip c) K)/\σ'.ob=σ0.ob/\Bd cx σ'
 |[],σ,K,h,hi,hn,n,B=>⟨[],σ,O,wR,h,hi,hn,n,B⟩
 |o::os,σ,K,h,hi,hn,n,B=>by
  unfold zeQ at h;have⟨hd,h⟩:=z6 h;have⟨C,b,h,T,hx,U,Y,hq⟩:=OV h B;have hw:∀{env:y4}{S:wr->Prop}{w:wP},zE S Γ w->Vk K env0 env S w (o.looksAt f.toArray)->yV f.toArray env o=b:=λ{env S w} a m=>hq P vs env S w λt i=>hi env S w a t<|Wb m t i;cases b
  ·have D:za6 P vs Γ env0 cx (C.put o.dst [(0,.un)]) (iQ o.dst (prV uL) K):=EV hd (λenv S w a t i=>Y P vs env S w t<|hi env S w a t i) λS v w hv e E=>by obtain rfl:=xad.1 E;exact hv
   have⟨c,σ',h1,G,H,J,L,M,Q⟩:=zaU q u z A (os:=os) h D (Oz hd hn) (T.trans n) (gj U λe E p hp=>by obtain rfl:=xad.1 E;cases hp);refine⟨prV uL::c,σ',by simp[h1],⟨λS w env hS hM a m=>⟨λhc=> ?_,λ_=>O⟩,G⟩,H,J,L,M,Q⟩;grind
  ·have⟨j,h,hr,hy,hs,hj⟩:=zco h U;have⟨l,h,hu⟩:=zhG (P:=P) (d:=o.dst) (ty:=o.type) (pos:=o.pos) (aft:=o.after) (g:=o.guard) (F:=fr.F) q u z A h;have⟨hl,h⟩:=z6 h;have hk:∀env S w t,Lk P vs env S w cx σ t->Lk P vs env S w cx j t:=λenv S w t i=>hj P vs env S w t<|Y P vs env S w t i;have D:za6 P vs Γ env0 cx (j.put o.dst l) (iQ o.dst (prL P vs l) K):=EV hd (λenv S w a t i=>hk env S w t<|hi env S w a t i) λS v w hv=>hv;have hm:j.ob=σ0.ob:=hr.trans<|T.trans n;have⟨c,σ',h1,G,H,J,L,M,Q⟩:=zaU q u z A (os:=os) h D (Oz hd hn) hm<|gj hs<|H3 hl;refine⟨prL P vs l::c,σ',by simp[h1],⟨λS w env hS hM a m=>⟨λhc=> ?_,λhc=> ?_⟩,G⟩,H,J,L,M,Q⟩
   ·refine hu env w S vs hS (by rw[hm];exact hM) λt i=>hk env S w t<|hi env S w a t<|Wb m t ?_;exact So.2 (.inl i)
   ·rw[hw a m]at hc;cases hc
end
end
def Lj{l:N ut}{D:K->v6}(hd:∀j,D j=I->∀e∈(zW l j).after,xcs .any e=I->D e.on=I):∀(f j i:K),D j=I->vS l f j i=I->D i=I
 |0,j,i,c,h=>by
  obtain⟨e,b,a,rfl⟩:=uK h;grind
 |f+1,j,i,c,h=>by
  unfold vS at h;rw[xdR]at h;obtain h|h:=h
  ·obtain⟨e,b,a,rfl⟩:=uK h;grind
  ·rw[xfE]at h;have⟨e,b,a⟩:=h;rw[xab]at a;exact Lj hd f e.on i (hd j c e (xdH.1 b) a.1) a.2
section
def QD(al:Rb->v6)(rs:N Rb):N (K×Od):=rs.filterMap λr=>if al r=I then Z (r.o,r.x)else wF
def sy(i:K)(rs:N Rb):N (K×Od):=rs.filterMap λr=>if r.c=Z i then Z (r.o,r.x)else wF
def Dd(i:K)(rs:N Rb):N (K×Od):=rs.filterMap λr=>if r.a=Z i then Z (r.o,r.x)else wF
def iA(i:K)(rs:N Rb):N (K×Od):=rs.filterMap λr=>if i∈r.rd then Z (r.o,r.x)else wF
def Ry{al b:Rb->v6}{i:K}:∀{rs:N Rb},(∀r∈rs,(r.c=Z i/\i∉r.rd/\r.a≠Z i/\al r=I/\b r=wL)\/(r.a=Z i/\r.c≠Z i/\i∉r.rd/\al r=wL/\b r=I)\/
 (i∈r.rd/\r.c≠Z i/\r.a≠Z i/\al r=I/\b r=I)\/(r.c≠Z i/\r.a≠Z i/\i∉r.rd/\al r=b r))->
 ∃rest,(∀e∈rest,∃r∈rs,e=(r.o,r.x)/\al r=I/\b r=I)/\(QD al rs).Perm (sy i rs++(iA i rs++rest))/\(QD b rs).Perm (Dd i rs++(iA i rs++rest))
 |[],_=>⟨[],λe he=>wS he H1,xdr _,xdr _⟩
 |r::rs,h=>by
  have⟨rest,h1,f,d⟩:=Ry (rs:=rs) λq m=>h q<|UV _ m;have k:∀e∈rest,∃q∈r::rs,e=(q.o,q.x)/\al q=I/\b q=I:=λe he=>by grind
  rcases h r (FS)with⟨g,j,a3,a4,a5⟩|⟨g,j,a3,a4,a5⟩|⟨g,j,a3,a4,a5⟩|⟨g,j,a3,a4⟩
  ·refine⟨rest,k,?_,?_⟩
   ·simp only[QD,sy,iA,xaR,g,j,a4,uP,uS,V9]at f⊢;simp_all
   ·simp only[QD,Dd,iA,xaR,a3,j,a5,uS,V9,xar]at d⊢;exact d
  ·refine⟨rest,k,?_,?_⟩
   ·simp only[QD,sy,iA,xaR,j,a3,a4,uS,V9,xar]at f⊢;exact f
   ·simp only[QD,Dd,iA,xaR,g,a3,a5,uP,uS,V9]at d⊢;exact d.cons _
  ·refine⟨rest,k,?_,?_⟩
   ·simp only[QD,sy,iA,xaR,g,j,a4,uP,uS,V9]at f⊢;exact(f.cons _).trans xcg.symm
   ·simp only[QD,Dd,iA,xaR,g,a3,a5,uP,uS,V9]at d⊢;exact(d.cons _).trans xcg.symm
  ·cases l:al r with
   |false=>
    rw[l]at a4;refine⟨rest,k,?_,?_⟩
    ·simp only[QD,sy,iA,xaR,g,a3,l,uS,V9,xar]at f⊢;exact f
    ·simp only[QD,Dd,iA,xaR,j,a3,<-a4,uS,V9,xar]at d⊢;exact d
   |true=>
    rw[l]at a4;refine⟨(r.o,r.x)::rest,λe he=> ?_,?_,?_⟩
    ·obtain rfl|he:=xag.1 he
     ·exact⟨r,FS,O,l,a4.symm⟩
     ·exact k e he
    ·simp only[QD,sy,iA,xaR,g,a3,l,uP,uS,V9]at f⊢;rw[<-xao]at f⊢;exact(f.cons _).trans xcg.symm
    ·simp only[QD,Dd,iA,xaR,j,a3,<-a4,uP,uS,V9]at d⊢;rw[<-xao]at d⊢;exact(d.cons _).trans xcg.symm
def KV(P:jP)(vs:K->wN)(KL:N (Z4×N (K×Dv))):N (Z4×Pr):=KL.map λe=>(e.1,prL P vs e.2)
def GA(d:V Z4)(l:N (K×Dv))(KL:N (Z4×N (K×Dv))):N (Z4×N (K×Dv)):=match d with
 |some t=>(t,l)::KL
 |none=>KL
def UG:N (ut×N (wr×Dv))->N (Z4×N (wr×Dv))->N (Z4×N (wr×Dv))
 |[],K=>K
 |(o,l)::r,K=>UG r<|GA o.dst l K
def OL(P:jP)(vs:K->wN)(L:N (ut×N (K×Dv))):N (ut×Pr):=L.map λe=>(e.1,prL P vs e.2)
section
variable{P:jP}{vs:wr->wN}
def zgx{d:V Z4}{l:N (K×Dv)}{KL:N (Z4×N (K×Dv))}:KV P vs (GA d l KL)=iQ d (prL P vs l) (KV P vs KL):=by cases d<;>rfl
def zhX:∀(L:N (ut×N (K×Dv))) (KL:N (Z4×N (K×Dv))),KV P vs (UG L KL)=SJ (OL P vs L) (KV P vs KL)
 |[],KL=>rfl
 |(o,l)::r,KL=>by
  show KV P vs (UG r<|GA o.dst l KL)=SJ (OL P vs r) (iQ o.dst (prL P vs l)<|KV P vs KL);rw[zhX r,zgx]
end
def ObB(P:jP)(b:ul ut)(we:wP)(Se:K->Prop)(mE:N MF)(Γ:N FF)(env0:y4)(vs:K->wN)(n0:K)(rs:N Rb)(KL:N (Z4×N (K×Dv)))(i:K)(o:ut)(L:N (K×Dv))(a:Oi):Prop:=
 n0<=a.lo/\a.lo<=a.hi/\(∀e∈L,∀p,vn e.2=Z p->p<a.hi/\p∈a.refs)/\(∀e∈Dd i rs,e.1<a.hi)/\
 ∀vs',(∀p,p<n0->vs' p=vs p)->∀(env:y4) (F:N MF) (G:N FF) (w:wP),St we Se (MS vs' (sy i rs++iA i rs)++(mE++F)) (If (KV P vs' KL) env0 env (o.looksAt b)::(Γ++G)) w->
  (yV b env o=I->ur P o env w (λv w'=>∃vs2,(∀p,p<a.lo->vs2 p=vs' p)/\St we Se (MS vs2 (Dd i rs)++(MS vs' (iA i rs)++(mE++F))) (znE P vs2 v L++(Γ++G)) w'))/\
  (yV b env o=wL->sy i rs=[]/\Dd i rs=[]/\∀S w,zE S (znE P vs' uL L) w)
structure zqS(l:N ut)(m:K)(rs:N Rb)(is:N Oi):Prop where
 a:∀r∈rs,∀j,r.a=Z j->j<m/\∀i∈r.rd,vS l 16 i j=I
 c:∀r∈rs,∀k,r.c=Z k->k<m/\(∀j,r.a=Z j->vS l 16 k j=I)/\∀i∈r.rd,vS l 16 k i=I
 n:∀i b,is[i]? =Z b->∀r∈rs,b.lo<=r.o->r.o<b.hi->∃j,r.a=Z j/\(j=i\/vS l 16 j i=I)
 f:∀i b j J,is[i]? =Z b->is[j]? =Z J->∀p∈J.refs,b.lo<=p->p<b.hi->j=i\/vS l 16 j i=I
 uniq:∀i j t,i<m->j<m->i≠j->(zW l i).dst=Z t->(zW l j).dst≠Z t
def zdj{l:N ut}{m:K}{rs:N Rb}{is:N Oi}(h:zi9 l m rs is=I):zqS l m rs is:=by
 unfold zi9 at h;rw[xab,xab]at h;have⟨⟨f,hn⟩,n⟩:=h;have g:∀i a,is[i]? =Z a->zi5 l i a rs is.zipIdx=I:=λi a hi=>xaQ.1 hn (a,i)<|List.mem_zipIdx_iff_getElem?.2 hi;have c:∀(a:Oi) (p:K),a.lo<=p->p<a.hi->inB a p=I:=λa p h1 e=>by
  unfold inB;simp_all
 refine⟨λr d j b=> ?_,λr d k o=> ?_,λi a hi r d h1 e=> ?_,λi a j J hi b p hp h1 e=> ?_,λi j t hi b hc hd q=> ?_⟩
 ·have:=xaQ.1 f r d;simp_all
 ·have:=xaQ.1 f r d;rw[xab]at this;have:=this.2;rw[o]at this;simp only[xab,xaQ]at this;refine⟨by have:=xca this.1.1;lia,λj b=> ?_,this.2⟩;have:=this.1.2;rw[b]at this;exact this
 ·have:=g i a hi;unfold zi5 at this;rw[xab]at this;have:=xaQ.1 this.1 r d;rw[c a _ h1 e,xeL,xew]at this;split at this
  ·next j b=>
   rw[xdR]at this;exact⟨j,b,this.imp zY id⟩
  ·cases this
 ·have:=g i a hi;unfold zi5 at this;rw[xab]at this;have:=xaQ.1 this.2 (J,j)<|List.mem_zipIdx_iff_getElem?.2 b;have:=xaQ.1 this p hp;rw[c a _ h1 e,xeL,xew,xdR]at this;exact this.imp zY id
 ·have:=xaQ.1 (xaQ.1 n i<|xbd.2 hi) j<|xbd.2 b;rw[YG hc,xew,hd]at this;simp[q]at this
end
section
section
variable{P:jP}{N:Nd}{we:wP}{Se:wr->Prop}{ms:xS MF}{Γ:xS FF}{Q:Qs}{env0:y4}{l:xS ut}{m:wr}
def zcm{Lp:xS (ut×Pr)}(hc:∀i,i<m->∃b,Lp[i]? =Z (zW l i,b))(h:∀(i:K) (x:ut×Pr),Lp[i]? =Z x->i<m/\x.1=zW l i){D:K->v6}{env:y4}{S:K->Prop}{w:wP}{i:K}{t:Z4}
 (hd:∀t,(∀i,i<m->D i=I->(zW l i).dst≠Z t)->env t=env0 t) (k:(Bw Lp D env).p S w) (r:i<=m) (e:∀j,j<m->(zW l j).dst=Z t->(D j=I↔j<i)):Y4 (SJ (Lp.take i) []) env0 env S w t:=by
 unfold Y4;rcases pA t (Lp.take i) []with⟨j,y,g1,a,s,n⟩|⟨g1,a⟩
 ·rw[n];rw[xce]at g1;split at g1
  ·next c=>
   have⟨o,q⟩:=h j y g1;exact k j y t ((e j o<|q▸a).2 c) g1 a
  ·cases g1
 ·rw[a];refine hd t λj f hi g=> ?_;have c:=(e j f g).1 hi;have⟨b,d⟩:=hc j f;exact g1 j (zW l j,b) (by rw[xce,iq c];exact d) g
def zgf(hc:W0 l m=I){Lp:xS (ut×Pr)}(o:∀i,i<m->∃q,Lp[i]? =Z (zW l i,q))(hd:∀(i:K) (x:ut×Pr),Lp[i]? =Z x->i<m/\x.1=zW l i){D:K->v6}{env:y4}{S:K->Prop}{w:wP}{i:K}
 (hp:i<m) (hn:D i=wL) (r:∀e∈(zW l i).after,xcs .any e=I->D e.on=I) (s:∀j,D j=I->∀e∈(zW l j).after,xcs .any e=I->D e.on=I)
 (u:∀t,(∀i,i<m->D i=I->(zW l i).dst≠Z t)->env t=env0 t) (v:(Bw Lp D env).p S w):Vk (SJ (Lp.take i) []) env0 env S w (xbm l.toArray<|zW l i):=by
 have⟨h0,h1,y,B,C⟩:=Zf hc;have hv:i<X l:=W
 have hi:∀t,t∈xbm l.toArray (zW l i)->∀j,j<m->(zW l j).dst=Z t->j≠i->(D j=I↔j<i):=by
  intro t c j d f z;have n:=y i j t hp d z f (.inl c);constructor
  ·intro A;obtain h|h:=xbS j i
   ·exact h
   ·exfalso;have⟨e,g,k,hl⟩:=uK (n.2 W);have a:=s j A e g k;rw[hl,hn]at a;cases a
  ·intro b;have⟨e,g,k,hl⟩:=uK<|n.1 b;have a:=r e g k;rwa[hl]at a
 exact UK _ λt c=>zcm o hd u v W λj d f=>by
  by_cases b:j=i
  ·subst b;rw[hn];simp
  ·exact hi t c j d f b
def UX(D:K->v6)(r:Rb):v6:=(match r.a with
 |none=>I
 |some j=>D j) && !(match r.c with
 |none=>wL
 |some k=>D k)
def Tk{D:K->v6}{i:K}(c:∀e∈(zW l i).after,xcs .any e=I->D e.on=I)(hc:∀j,D j=I->∀e∈(zW l j).after,xcs .any e=I->D e.on=I):∀(f j:K),vS l f i j=I->D j=I
 |0,j,h=>by
  obtain⟨e,b,a,rfl⟩:=uK h;simp_all
 |f+1,j,h=>by
  unfold vS at h;rw[xdR]at h;obtain h|h:=h
  ·obtain⟨e,b,a,rfl⟩:=uK h;simp_all
  ·rw[xfE]at h;have⟨e,b,a⟩:=h;rw[xab]at a;exact Lj hc f e.on j (c e (xdH.1 b) a.1) a.2
theorem Ix{al a:Rb->v6}:∀{rs:xS Rb},(∀r∈rs,al r=a r)->QD al rs=QD a rs
 |[],_=>rfl
 |r::rs,h=>by
  have b:=Ix λq c=>h q<|UV _ c;unfold QD at b⊢;grind
def St.mid{we:wP}{Se:K->Prop}{A B:xS MF}{m:MF}{Γ:xS FF}{w:wP}(h:St we Se (A++m::B) Γ w):St we Se (m::(A++B)) Γ w:=St.perm h xcg
def St.dropM{we:wP}{Se:K->Prop}{Γ:xS FF}{w:wP}:∀{A B C:xS MF},St we Se (A++(B++C)) Γ w->St we Se (A++C) Γ w
 |A,[],C,h=>h
 |A,b::B,C,h=>St.dropM<|St.drop (i:=0)<|St.mid h
def isD(l:xS ut)(b:V K)(j:K):v6:=match b with
 |some a=>F j a||vS l 16 j a
 |none=>wL
def KI(r:Rb):v6:=r.a.isNone && r.c.isNone
def ObP(P:jP)(a:ul ut)(we:wP)(Se:K->Prop)(mE:xS MF)(Γ:xS FF)(env0:y4)(vs:K->wN)(n0:K)(q:PX)(rs:xS Rb)(KL:xS (Z4×xS (K×Dv)))(i:K)(o:ut):Prop:=
 ∀vs',(∀p,p<n0->vs' p=vs p)->∀(env:y4) (F:xS MF) (G:xS FF) (w:wP),St we Se (MS vs' (sy i rs)++(mE++F)) (If (KV P vs' KL) env0 env (o.looksAt a)::(Γ++G)) w->
  yV a env o=I/\OpP P o env w (λb w'=>b=OT q/\St we Se (mE++F) (Γ++G) w')
theorem n9{p:Rb->v6}{r:Rb}{rs:xS Rb}:QD p (r::rs)=bif p r then(r.o,r.x)::QD p rs else QD p rs:=by
 unfold QD;grind
def DW{p q:Rb->v6}:∀{rs:xS Rb},(∀r∈rs,p r=I->q r=I)->(QD q rs).Perm (QD p rs++QD (λr=>q r && !p r) rs)
 |[],_=>xdr _
 |r::rs,h=>by
  have a:=DW λq b=>h q<|UV _ b;rw[n9,n9,n9]
  cases hp:p r with
  |false=>
   cases b:q r with
   |false=>exact a
   |true=>exact(xfv _ a).trans xcg.symm
  |true=>
   simp_all
def zma{i:K}:∀{rs:xS Rb},sy i rs=QD (λr=>decide<|r.c=Z i) rs
 |rs=>by unfold sy QD;simp only[Qr]
theorem zdc{D:K->v6}{i:K}{rs:xS Rb}(d:D i=wL)(hc:∀r∈rs,r.c=Z i->UX D r=I)(b:∀r∈rs,KI r=I->UX D r=I/\r.c≠Z i):
 (QD (UX D) rs).Perm (sy i rs++(QD KI rs++QD (λr=> !decide (r.c=Z i) && UX D r && !KI r) rs)):=by
 rw[zma];refine(DW λr a h=>hc r a<|Wf h).trans<|xbo _ ?_;have:=DW (p:=KI) (q:=λr=> !decide (r.c=Z i) && UX D r) (rs:=rs) λr a h=>by simp[(b r a h).1,(b r a h).2]
 grind
def zkJ{id:K}{mE:xS MF}(C:V K)(q:PX)(m:K)(Ls:xS (xS<|K×Dv))(is:xS Oi)(rs:xS Rb)(ts:xS Z4)(vs:K->wN)(n0:K)(hm:P.follows .mixedOrders=I)(hc:W0 l m=I)(hl:X Ls=m)(b2:X is=m)(F:zi9 l m rs is=I)
 (c6:MS vs (QD (λr=>r.a.isNone) rs)++mE=ms) (hd:(l.all λo=>jL N.n o.dst)=I) (hO:∀s,C=Z s->s<m)
 (hP:∀i x b,((l.take m).zip Ls)[i]? =Z x->is[i]? =Z b->isD l C i=wL->ObB P l.toArray we Se mE Γ env0 vs n0 rs (UG (((l.take m).zip Ls).take i) []) i x.1 x.2 b)
 (h4:∀s x,C=Z s->((l.take m).zip Ls)[s]? =Z x->iA s rs=[]/\ObP P l.toArray we Se mE Γ env0 vs n0 q rs (UG (((l.take m).zip Ls).take s) []) s x.1)
 (b3:C.isSome=I->∀(env:y4) (w:wP) (vs':K->wN),(∀p,p<n0->vs' p=vs p)->(∀t,(∀i,i<m->(zW l i).dst≠Z t)->env t=env0 t)->St we Se (MS vs' (QD KI rs)++mE) Γ w->Q (.panic<|OT q) env w)
 (b4:C=wF->∀(env:y4) (w:wP) (vs':K->wN),(∀p,p<n0->vs' p=vs p)->St we Se (MS vs' (QD (λr=>r.c.isNone) rs)++mE) (If (KV P vs'<|UG ((l.take m).zip Ls) []) env0 env ts::Γ) w->WpL P N l.toArray (l.drop m) Q env w):
 T P N we Se ms Γ (.region id l.toArray I) Q env0:=by
 have⟨h0,h1,h2,h3,g9⟩:=Zf hc;have hp:=zdj F;have⟨L,hL⟩:∃L,L=(l.take m).zip Ls:=⟨_,O⟩;rw[<-hL]at hP h4 b4;have i1:X L=m:=by rw[hL];simp;lia
 have hQ:∀i,i<m->∃x,L[i]? =Z (zW l i,x):=λi hi=>by
  have b2:i<X l:=xaj hi h0;have c0:i<X Ls:=hl.symm▸hi;refine⟨Ls[i]'(c0),?_⟩;rw[hL,xeO];refine⟨?_,iP⟩;rw[xce,iq hi];simp[zW,b2]
 have hR:∀i x,L[i]? =Z x->i<m/\x.1=zW l i:=λi x F=>by
  have hi:i<m:=by have:=(xax.1 F).1;lia
  have⟨Φ,h⟩:=hQ i hi;rw[h]at F;cases F;exact⟨hi,O⟩
 have a0:∀vs' i,i<m->∃Φ,(OL P vs' L)[i]? =Z (zW l i,Φ):=λvs' i hi=>by
  have⟨x,h⟩:=hQ i hi;exact⟨_,by rw[OL,xcu,h];rfl⟩
 have G:∀vs' (i:K) (x:ut×Pr),(OL P vs' L)[i]? =Z x->i<m/\x.1=zW l i:=λvs' i x F=>by
  rw[OL,xcu]at F
  cases Y:L[i]? with
  |none=>rw[Y]at F;cases F
  |some y=>rw[Y]at F;cases F;exact hR i y Y
 refine zl5 m (λD env w=>(∀j,D j=I->isD l C j=wL)/\(∀t,(∀i,i<m->D i=I->(zW l i).dst≠Z t)->env t=env0 t)/\∃vs',(∀p,p<n0->vs' p=vs p)/\St we Se (MS vs' (QD (UX D) rs)++mE) (Γ++[Bw (OL P vs' L) D env]) w) hm hc hd ?_ ?_ ?_
 ·intro w hw;refine⟨λ_ u=>(by cases u),λt _=>O,vs,λ_ _=>O,?_⟩;have:UX (λ_=>wL)=λr=>r.a.isNone:=by
   funext r;unfold UX;cases r.a<;>cases r.c<;>rfl
  rw[this,c6];exact hw.weak λS w h=>zE.append h ⟨λi x t hi=>(by cases hi),wR⟩
 ·rintro D i env w hY hq c4 hS hC ⟨hT,hu,vs',hM,hU⟩;have g8:i<X l:=W
  have⟨x,h7⟩:=hQ i hY;have⟨b,hI⟩:∃b,is[i]? =some b:=⟨_,xak W⟩;have hb:∀j,vS l 16 i j=I->D j=I:=λj u=>Tk hS hC 16 j u;have hZ:∀k,D k=I->vS l 16 k i≠I:=λk hk B=>by
   have:=Lj hC 16 k i hk B;rw[hq]at this;cases this
  have hH:∀S:K->Prop,∀w:wP,(Bw (OL P vs' L) D env).p S w->Vk (KV P vs'<|UG (L.take i) []) env0 env S w (xbm l.toArray<|zW l i):=λS w h8=>by
   rw[zhX];have:=zgf hc (a0 vs') (G vs') hY hq hS hC hu h8;rw[show OL P vs' (L.take i)=(OL P vs' L).take i by unfold OL;rw[List.map_take]];exact this
  by_cases hD:isD l C i=I
  ·obtain⟨s,rfl⟩:∃s,C=some s:=by cases C with
    |none=>cases hD
    |some s=>exact⟨s,O⟩
   have c7:isD l (Z s) s=I:=by simp[isD]
   have e0:i=s:=by
    simp only[isD,xdR]at hD;obtain h|h:=hD
    ·exact zY h
    ·exact wS (hT s<|hb s h)<|by rw[c7];exact Bool.noConfusion
   subst e0;have⟨i2,hN⟩:=h4 i _ O h7;have e2:∀r∈rs,r.c=Z i->UX D r=I:=λr B E=>by
    unfold UX;rw[E];simp only[hq,Bool.not_false,Bool.and_true]
    cases U:r.a with
    |none=>rfl
    |some j=>exact hb j<|(hp.c r B i E).2.1 j U
   have hO:=zdc (D:=D) (i:=i) hq e2 (λr B h=>by
    simp only[KI,xab,Option.isNone_iff_eq_none]at h;refine⟨?_,by rw[h.2];exact λe=>by cases e⟩;unfold UX;rw[h.1,h.2];rfl)
   have hv:St we Se (MS vs' (sy i rs)++(mE++(MS vs' (QD KI rs)++MS vs' (QD (λr=> !decide (r.c=Z i) && UX D r && !KI r) rs)))) (If (KV P vs'<|UG (L.take i) []) env0 env (xbm l.toArray<|zW l i)::(Γ++[Bw (OL P vs' L) D env])) w:=by
    refine St.weak (hU.perm ?_) λS w h=>⟨hH S w (zE.right (Γ:=Γ) h).1,h⟩;have e1:(MS vs'<|QD (UX D) rs).Perm (MS vs' (sy i rs)++(MS vs' (QD KI rs)++MS vs' (QD (λr=> !decide (r.c=Z i) && UX D r && !KI r) rs))):=by
     unfold MS;rw[<-xba,<-xba];exact hO.map _
    refine(xeC mE e1).trans ?_;rw[xao];exact xbo _ xeb
   have⟨e4,e5⟩:=hN vs' hM env _ [Bw (OL P vs' L) D env] w hv;refine⟨λ_=> .inr<|e5.mono λch w' ⟨e6,hs⟩=> ?_,λhw=>(by rw[e4]at hw;cases hw)⟩;subst e6;refine b3 O env w' vs' hM (λt ht=>hu t λj u _=>ht j u) ?_;refine St.weak (Γ:=Γ++[Bw (OL P vs' L) D env]) ?_ λS w h=>zE.left h;have h1:St we Se ([]++(MS vs' (QD (λr=> !decide (r.c=Z i) && UX D r && !KI r) rs)++(MS vs' (QD KI rs)++mE))) (Γ++[Bw (OL P vs' L) D env]) w':=by
    refine hs.perm ?_;rw[xbH,<-xao,<-xao];exact(xeb.trans<|xbo _ xeb).trans<|List.Perm.of_eq (xao ..).symm
   exact St.dropM (A:=[]) h1
  have hD:isD l C i=wL:=by simpa using hD
  have⟨o1,o2,o3,o4,hN⟩:=hP i _ b h7 hI hD
  have h5:∀r∈rs,(r.c=Z i/\i∉r.rd/\r.a≠Z i/\UX D r=I/\UX (FI D i) r=wL)\/(r.a=Z i/\r.c≠Z i/\i∉r.rd/\UX D r=wL/\UX (FI D i) r=I)\/
   (i∈r.rd/\r.c≠Z i/\r.a≠Z i/\UX D r=I/\UX (FI D i) r=I)\/(r.c≠Z i/\r.a≠Z i/\i∉r.rd/\UX D r=UX (FI D i) r):=by
   intro r B;have hE:vS l 16 i i≠I:=λh=>by have:=hb i h;rw[hq]at this;cases this
   have hA:∀j,j≠i->FI D i j=D j:=λj u=>NV u;by_cases E:r.c=Z i
   ·have⟨c1,c2,c3⟩:=hp.c r B i E;have hB:i∉r.rd:=λh=>hE<|c3 i h;have H:r.a≠Z i:=λh=>hE<|c2 i h;refine .inl ⟨E,hB,H,?_,?_⟩
    ·unfold UX;rw[E];simp only[hq,Bool.not_false,Bool.and_true]
     cases U:r.a with
     |none=>rfl
     |some j=>exact hb j<|c2 j U
    ·unfold UX;rw[E];simp only[se,xeL,Bool.and_false]
   ·by_cases H:r.a=Z i
    ·have⟨a1,a2⟩:=hp.a r B i H;have hB:i∉r.rd:=λh=>hE<|a2 i h;refine .inr (.inl ⟨H,E,hB,?_,?_⟩)
     ·unfold UX;rw[H];simp only[hq,Bool.false_and]
     ·unfold UX;rw[H];simp only[se,Bool.true_and]
      cases hn:r.c with
      |none=>rfl
      |some k=>
       simp only;rw[hA k<|λe=>E<|by rw[hn,e]]
       cases h9:D k with
       |false=>rfl
       |true=>exact wS ((hp.c r B k hn).2.1 i H)<|hZ k h9
    ·have h':∀k,r.c=Z k->i∈r.rd->D k=wL:=λk hk hi=>by
      cases h9:D k with
      |false=>rfl
      |true=>exact wS ((hp.c r B k hk).2.2 i hi)<|hZ k h9
     have hV:UX (FI D i) r=UX D r:=by
      unfold UX
      cases U:r.a with
      |none=>
       cases hn:r.c with
       |none=>rfl
       |some k=>simp only;rw[hA k<|λe=>E<|by rw[hn,e]]
      |some j=>
       cases hn:r.c with
       |none=>simp only;rw[hA j<|λe=>H<|by rw[U,e]]
       |some k=>simp only;rw[hA j (λe=>H<|by rw[U,e]),hA k<|λe=>E<|by rw[hn,e]]
     by_cases hB:i∈r.rd
     ·have:UX D r=I:=by
       unfold UX;have e1:(match r.c with|none=>wL|some k=>D k)=wL:=by
        cases hn:r.c with
        |none=>rfl
        |some k=>exact h' k hn hB
       rw[e1];simp only[Bool.not_false,Bool.and_true]
       cases U:r.a with
       |none=>rfl
       |some j=>exact hb j<|(hp.a r B j U).2 i hB
      exact .inr (.inr (.inl ⟨hB,E,H,this,hV.trans this⟩))
     ·exact .inr (.inr (.inr ⟨E,H,hB,hV.symm⟩))
  have⟨rest,a5,p1,p2⟩:=Ry h5;have hv:St we Se (MS vs' (sy i rs++iA i rs)++(mE++MS vs' rest)) (If (KV P vs'<|UG (L.take i) []) env0 env (xbm l.toArray<|zW l i)::(Γ++[Bw (OL P vs' L) D env])) w:=by
   refine St.weak (hU.perm ?_) λS w h=>⟨hH S w (zE.right (Γ:=Γ) h).1,h⟩;have e1:(MS vs'<|QD (UX D) rs).Perm (MS vs' (sy i rs++iA i rs)++MS vs' rest):=by
    unfold MS;rw[<-xba,xao];exact p1.map _
   refine(xeC mE e1).trans ?_;rw[xao];exact xbo _ xeb
  have hN:=hN vs' hM env (MS vs' rest) [Bw (OL P vs' L) D env] w hv;have h6:∀(v:wN) (t:Z4),(∀i',i'<m->FI D i i'=I->(zW l i').dst≠Z t)->put env (zW l i).dst v t=env0 t:=λv t ht=>by
   rw[nM<|ht i hY<|se D i];exact hu t λj u e7=>ht j u<|zjk e7
  have M:∀(v:wN) (w':wP) (vs2:K->wN),(∀p,p<b.lo->vs2 p=vs' p)->St we Se (MS vs2 (Dd i rs)++(MS vs' (iA i rs)++(mE++MS vs' rest))) (znE P vs2 v x++(Γ++[Bw (OL P vs' L) D env])) w'->
   ∃g,(∀p,p<n0->g p=vs p)/\St we Se (MS g (QD (UX<|FI D i) rs)++mE) (Γ++[Bw (OL P g L) (FI D i)<|put env (zW l i).dst v]) w':=by
   intro v w' vs2 a9 hs;have e3:∃g:K->wN,g=λp=>if b.lo<=p/\p<b.hi then vs2 p else vs' p:=⟨_,O⟩;have⟨g,e3⟩:=e3;have hW:∀p,p<b.hi->g p=vs2 p:=λp hp=>by
    rw[e3];simp only;split
    ·rfl
    ·next hc=>exact(a9 p W).symm
   have hF:∀p,¬(b.lo<=p/\p<b.hi)->g p=vs' p:=λp hp=>by
    rw[e3];exact ir hp
   refine⟨g,λp hp=>(hF p W).trans<|hM p hp,?_⟩;have hG:∀r∈rs,UX D r=I->g r.o=vs' r.o:=λr B hG=>hF r.o λ⟨g1,g2⟩=>by
    have⟨j,u,hji⟩:=hp.n i b hI r B g1 g2;unfold UX at hG;rw[u,xab]at hG;obtain rfl|hji:=hji
    ·have:=hG.1;simp only at this;rw[hq]at this;cases this
    ·exact hZ j hG.1 hji
   have m1:MS g (Dd i rs)=MS vs2 (Dd i rs):=wx λe R=>hW e.1<|o4 e R;have m2:MS g (iA i rs)=MS vs' (iA i rs):=wx λe R=>by
    have⟨r,B,b0⟩:=xea.1 R;split at b0
    ·next hi=>
     cases b0;rcases h5 r B with⟨a1,a2,_⟩|⟨a1,a2,a3,_⟩|⟨a1,a2,a3,a4,_⟩|⟨a1,a2,a3,_⟩
     ·exact wS hi a2
     ·exact wS hi a3
     ·exact hG r B a4
     ·exact wS hi a3
    ·cases b0
   have m3:MS g rest=MS vs' rest:=wx λe R=>by
    obtain⟨r,B,rfl,h1,_⟩:=a5 e R;exact hG r B h1
   have hO:(MS g (QD (UX<|FI D i) rs)++mE).Perm (MS vs2 (Dd i rs)++(MS vs' (iA i rs)++(mE++MS vs' rest))):=by
    rw[<-m1,<-m2,<-m3];have e1:(MS g<|QD (UX<|FI D i) rs).Perm (MS g (Dd i rs)++(MS g (iA i rs)++MS g rest)):=by
     unfold MS;rw[<-xba,<-xba];exact p2.map _
    refine(xeC mE e1).trans ?_;rw[xao,xao];exact xbo _<|xbo _ xeb
   refine St.weak (hs.perm hO.symm) λS w2 h=> ?_;have c5:=zE.right h;refine zE.append (zE.left c5) ⟨?_,wR⟩;have h8:=(zE.right c5).1;intro j y t u Y ht;rw[OL,xcu]at Y
   cases hz:L[j]? with
   |none=>rw[hz]at Y;cases Y
   |some z=>
    rw[hz]at Y;cases Y;have⟨e8,g0⟩:=hR j z hz;by_cases hji:j=i
    ·subst hji;rw[h7]at hz;cases hz;have g4:(zW l j).dst=Z t:=ht;show(prL P g x).p S (put env (zW l j).dst v t) w2;rw[g4,Ed];intro e R;have:=jW.1 (zE.left h) _<|xap.2 ⟨e,R,O⟩;have b1:vX P g e.2 v e.1=vX P vs2 e.2 v e.1:=by
      unfold vX;simp only[gZ (P:=P) (vs':=g) (vs:=vs2) (d:=e.2) λo ho=>hW o (o3 e R o ho).1]
     rw[b1];exact this
    ·rw[NV hji]at u;have g5:(zW l i).dst≠Z t:=hp.uniq j i t e8 hY hji<|g0▸ht;show(prL P g z.2).p S (put env (zW l i).dst v t) w2;rw[nM g5];intro e R;have:=h8 j (z.1,prL P vs' z.2) t u (by rw[OL,xcu,hz];rfl) ht;have:=this e R;have⟨J,hJ⟩:∃J,is[j]? =some J:=⟨_,xak W⟩;have⟨_,_,q3,_,_⟩:=hP j _ J hz hJ<|hT j u;have b1:vX P g e.2 (env t) e.1=vX P vs' e.2 (env t) e.1:=by
      unfold vX;simp only[gZ (P:=P) (vs':=g) (vs:=vs') (d:=e.2) λo ho=>hF o λ⟨g1,g2⟩=>by
       rcases hp.f i b j J hI hJ o (q3 e R o ho).2 g1 g2 with h|h
       ·exact hji h
       ·exact hZ j u h]
     rw[b1];exact this
  have hX:∀j,FI D i j=I->isD l C j=wL:=λj u=>by
   by_cases h:j=i
   ·rw[h];exact hD
   ·rw[NV h]at u;exact hT j u
  refine⟨λhw=> .inl<|(hN.1 hw).mono λv w' ⟨vs2,a9,hs⟩=>⟨hX,h6 v,M v w' vs2 a9 hs⟩,λhw=>⟨hX,h6 uL,?_⟩⟩;have⟨g1,g2,g3⟩:=hN.2 hw;refine M uL w vs' (λ_ _=>O) ?_;rw[g1,xbH]at hv;rw[g2];refine St.weak (show St we Se (MS vs' []++(MS vs' (iA i rs)++(mE++MS vs' rest))) _ w from hv) λS w h=>zE.append (g3 S w) h.2
 ·rintro D env w hK c4 ⟨hT,hu,vs',hM,hU⟩;have g6:C=wF:=by
   cases C with
   |none=>rfl
   |some s=>exact wS (hT s<|hK s<|hO s O)<|by simp[isD]
  refine b4 g6 env w vs' hM ?_;have g7:QD (UX D) rs=QD (λr=>r.c.isNone) rs:=by
   refine Ix λr B=> ?_;have:UX D r=r.c.isNone:=by
    unfold UX;have e1:(match r.a with|none=>I|some j=>D j)=I:=by
     cases U:r.a with
     |none=>rfl
     |some j=>exact hK j (hp.a r B j U).1
    rw[e1]
    cases hn:r.c with
    |none=>rfl
    |some k=>simp only[hK k (hp.c r B k hn).1];rfl
   exact this
  rw[g7]at hU;refine hU.weak λS w h=>⟨?_,zE.left h⟩;refine UK ts λt _=> ?_;have:=zcm (i:=m) (t:=t) (a0 vs') (G vs') hu (zE.right (Γ:=Γ) h).1 (IR m) λj u _=>⟨λ_=>u,λ_=>hK j u⟩;rw[zhX];rwa[xaW<|by unfold OL;rw[xaZ];lia]at this
end
end
section
section
variable{P:jP}{cf:Cf}{fr:Fr}{cx σ σ0:Sg}{vs vs':wr->wN}{env env0:y4}{w:wP}{R:Type}{r:R}
def fS:∀{rg:N (K×K×Dv)}{e:K×K×Dv},e∈dd rg->e∈rg
 |a::r,e,h=>by
  obtain rfl|h:=xag.1 h
  ·simp_all
  ·exact UV _<|fS (xbY.1 h).1
def Ma:∀{rg:N (K×K×Dv)}{e:K×K×Dv},e∈dd rg->lN rg e.1 e.2.1=Z e.2.2
 |(t,i,d)::r,e,h=>by
  obtain rfl|h:=xag.1 h
  ·unfold lN;simp
  ·have⟨h1,a⟩:=xbY.1 h;unfold lN;simp only[xcN]at a;rw[a];exact Ma h1
def EB:∀(ts:N K),KC env (ts.map λt=>(t,env t))
 |[]=>rfl
 |t::ts=>DB O<|EB ts
def Ng{rest:y4}:∀{ts:N K}{t:K},t∈ts->L (ts.map λt=>(t,env t)) rest t=env t
 |s::ts,t,h=>by
  simp only[xbU,L];cases a:F t s
  ·simp only[XS];obtain rfl|h:=xag.1 h
   ·simp at a
   ·exact Ng h
  ·simp_all
def PE:∀(l:N ut) (al:N (K×wW)) {σ:Sg},Z1 P fr cx σ env w->Z1 P fr cx (zku cf cx l al σ) env w
 |[],_,_,h=>h
 |o::r,al,σ,h=>PE r _<|Ez _ h
theorem zcj{N:K}{l:xS ut}(h:(l.all λo=>jL N o.dst)=I)(m:K):((l.drop m).all λo=>jL N o.dst)=I:=by grind
def nN:∀(l:N K) {σ:Sg},cV P fr cx σ vs env w->cV P fr cx (Eh σ l) vs env w
 |[],_,h=>h
 |o::r,_,h=>nN r<|Im h
theorem O1:∀(l:N K) (σ:Sg),(Eh σ l).nx=σ.nx
 |[],_=>rfl
 |o::r,σ=>by
  show(Eh (Pb σ o) r).nx=_;rw[O1 r];unfold Pb;grind
structure RX1(i:K)(r r':Rb):Prop where
 a:r'.a=r.a
 o:r'.o=r.o
 x:r'.x=r.x
 c1:∀k,r.c=Z k->r'.c=Z k
 c2:r.c=wF->∀k,r'.c=Z k->i<=k
 d1:∀j∈r.rd,j∈r'.rd
 d2:∀j∈r'.rd,j∈r.rd\/i<=j
def RX(i:K):N Rb->N Rb->Prop
 |[],b=>∀r∈b,(∃j,r.a=Z j/\i<=j)/\(∀k,r.c=Z k->i<=k)/\∀j∈r.rd,i<=j
 |_::_,[]=>V3
 |r::rs,d::b=>RX1 i r d/\RX i rs b
def Br(i:K)(rs:N Rb):Prop:=∀r∈rs,(∀j,r.a=Z j->j<i)/\(∀k,r.c=Z k->k<i)/\∀j∈r.rd,j<i
def RX.refl(i:K):∀rs:N Rb,RX i rs rs
 |[]=>λr b=>wS b H1
 |r::rs=>⟨⟨O,O,O,λ_ h=>h,λh k a=>(by rw[h]at a;cases a),λ_ h=>h,λ_ h=> .inl h⟩,RX.refl i rs⟩
theorem TH{i:K}{a:N Rb}(h:RX (i+1) [] a):RX i [] a/\sy i a=[]/\Dd i a=[]/\iA i a=[]:=by
 refine⟨λr b=> ?_,?_,?_,?_⟩
 ·have⟨⟨j,h1,c⟩,d,f⟩:=h r b;grind
 ·refine xek.2 λr b=>ir λe=> ?_;have:=(h r b).2.1 i e;lia
 ·refine xek.2 λr b=>ir λe=> ?_;have⟨j,h1,c⟩:=(h r b).1;grind
 ·refine xek.2 λr b=>ir λe=> ?_;have:=(h r b).2.2 i e;lia
theorem RX1.step{i:K}{r r1 e:Rb}(h:RX1 (i+1) r1 e)(f:r1.a=r.a)(g:r1.o=r.o)(l:r1.x=r.x)(hc:∀k,r.c=Z k->r1.c=Z k)(m:r.c=wF->∀k,r1.c=Z k->k=i)(hd:∀j∈r.rd,j∈r1.rd)(n:∀j∈r1.rd,j∈r.rd\/j=i):RX1 i r e:={
 a:=h.a.trans f
 o:=h.o.trans g
 x:=h.x.trans l
 c1:=λk b=>h.c1 k<|hc k b
 c2:=λhn k b=>by
  cases h1:r1.c with
  |none=>have:=h.c2 h1 k b;lia
  |some q=>
   have:=h.c1 q h1;simp_all
 d1:=λj d=>h.d1 j<|hd j d
 d2:=λj d=>by
  obtain h1|h1:=h.d2 j d
  ·grind
  ·exact .inr<|by lia}
theorem LZ{i:K}:∀{rs b:N Rb},Br i rs->RX (i+1) rs b->RX i rs b/\sy i b=[]/\Dd i b=[]/\iA i b=[]
 |[],b,_,h=>TH h
 |r::rs,[],_,h=>h.elim
 |r::rs,d::b,f,⟨h1,n⟩=>by
  have⟨g1,g,j,l⟩:=LZ (λq o=>f q<|UV _ o) n;have⟨q1,q2,t⟩:=f r<|FS;have e1:d.c≠Z i:=λe=>by
   cases hc:r.c with
   |none=>have:=h1.c2 hc i e;lia
   |some k=>have:=h1.c1 k hc;rw[e]at this;cases this;have:=q2 i hc;lia
  have p:d.a≠Z i:=λe=>by rw[h1.a]at e;have:=q1 i e;lia
  have s:i∉d.rd:=λe=>by
   obtain h|h:=h1.d2 i e
   ·grind
   ·lia
  refine⟨⟨h1.step O O O (λ_ h=>h) (λhn k m=>(by rw[hn]at m;cases m)) (λ_ h=>h)<|λ_ h=> .inl h,g1⟩,?_,?_,?_⟩
  ·unfold sy at g⊢;rw[xaR,ir e1];exact g
  ·unfold Dd at j⊢;rw[xaR,ir p];exact j
  ·unfold iA at l⊢;rw[xaR,ir s];exact l
def zeR{i:K}{os:N K}:∀{rs b:N Rb},Br i rs->RX (i+1) (zfQ i os rs) b->RX i rs b/\sy i b=[]/\Dd i b=[]/\∀e∈dI os rs,e∈iA i b
 |[],b,_,h=>by
  have⟨g1,d,f,_⟩:=TH h;exact⟨g1,d,f,λe he=>wS he H1⟩
 |r::rs,[],_,h=>h.elim
 |r::rs,g::b,t,⟨h1,z⟩=>by
  have⟨g1,d,f,l⟩:=zeR (rs:=rs) (λq A=>t q<|UV _ A) z;have⟨q1,q2,E⟩:=t r<|FS;have⟨r1,p⟩:∃r1,r1=(match r.c,bZ os r.o with|none,true=>(⟨r.a,wF,i::r.rd,r.o,r.x⟩:Rb)|_,_=>r):=⟨_,O⟩;have h1:RX1 (i+1) r1 g:=by rw[p];exact h1
  have k1:r1.a=r.a/\r1.o=r.o/\r1.x=r.x/\r1.c=r.c/\(∀j∈r.rd,j∈r1.rd)/\(∀j∈r1.rd,j∈r.rd\/j=i):=by
   rw[p];split
   ·simp_all
   ·simp_all
  have⟨u,v,y,m,B,s⟩:=k1;have e1:g.c≠Z i:=λe=>by
   cases hc:r.c with
   |none=>have:=h1.c2 (m.trans hc) i e;lia
   |some k=>have:=h1.c1 k<|m.trans hc;rw[e]at this;cases this;have:=q2 i hc;lia
  have C:g.a≠Z i:=λe=>by rw[h1.a,u]at e;have:=q1 i e;lia
  refine⟨⟨h1.step u v y (λk n=>m.trans n) (λhn k n=>by rw[m,hn]at n;cases n) B s,g1⟩,?_,?_,?_⟩
  ·unfold sy at d⊢;rw[xaR,ir e1];exact d
  ·unfold Dd at f⊢;rw[xaR,ir C];exact f
  ·intro e he;unfold dI at he;unfold iA at l⊢;rw[xaR];split at he
   ·next hc D=>
    have hi:i∈g.rd:=h1.d1 i (by rw[p,hc,D];exact FS);rw[iq hi];obtain rfl|he:=xag.1 he
    ·rw[h1.o,h1.x,v,y];exact FS
    ·exact UV _<|l e he
   ·split
    ·exact l e he
    ·exact UV _<|l e he
def zhA{i:K}:∀{ob:N (K×Od)}{b:N Rb},RX (i+1) (zdU i ob) b->RX i [] b/\sy i b=[]/\Dd i b=ob/\iA i b=[]
 |[],b,h=>TH h
 |e::ob,[],h=>h.elim
 |e::ob,d::b,⟨h1,n⟩=>by
  have⟨g1,f,g,l⟩:=zhA n;have e1:d.c≠Z i:=λe=>by have:=h1.c2 O i e;lia
  have m:=h1.a;have p:i∉d.rd:=λe=>by
   obtain h|h:=h1.d2 i e
   ·cases h
   ·lia
  refine⟨λr hr=> ?_,?_,?_,?_⟩
  ·obtain rfl|hr:=xag.1 hr
   ·exact⟨⟨i,m,IR _⟩,λk q=>by have:=h1.c2 O k q;lia,λj s=>by
     obtain h|h:=h1.d2 j s
     ·cases h
     ·lia⟩
   ·exact g1 r hr
  ·unfold sy at f⊢;rw[xaR,ir e1];exact f
  ·unfold Dd at g⊢;rw[xaR,iq m,g,h1.o,h1.x]
  ·unfold iA at l⊢;rw[xaR,ir p];exact l
def Tz{i:K}{os:N K}{ob:N (K×Od)}:∀{rs b:N Rb},Br i rs->RX (i+1) (zaX i os rs++zdU i ob) b->RX i rs b/\sy i b=dI os rs/\Dd i b=ob/\iA i b=[]
 |[],b,_,h=>zhA h
 |r::rs,[],_,h=>h.elim
 |r::rs,d::b,n,⟨h1,A⟩=>by
  have⟨g1,B,p,s⟩:=Tz (rs:=rs) (λq C=>n q<|UV _ C) A;have⟨q1,q2,D⟩:=n r<|FS;have⟨r1,f⟩:∃r1,r1=(match r.c,bZ os r.o with|none,true=>(⟨r.a,Z i,r.rd,r.o,r.x⟩:Rb)|_,_=>r):=⟨_,O⟩;have h1:RX1 (i+1) r1 d:=by rw[f];exact h1
  have k1:r1.a=r.a/\r1.o=r.o/\r1.x=r.x/\r1.rd=r.rd/\(∀k,r.c=Z k->r1.c=Z k)/\(r.c=wF->∀k,r1.c=Z k->k=i):=by
   rw[f];split
   ·simp_all
   ·exact⟨O,O,O,O,λ_ h=>h,λhn k t=>(by rw[hn]at t;cases t)⟩
  have⟨u,v,y,l,E,m⟩:=k1;have F:d.a≠Z i:=λe=>by rw[h1.a,u]at e;have:=q1 i e;lia
  have G:i∉d.rd:=λe=>by
   obtain h|h:=h1.d2 i e
   ·rw[l]at h;have:=D i h;lia
   ·lia
  refine⟨⟨h1.step u v y E m (λj g=>by rw[l];exact g) (λj g=>by rw[l]at g;exact .inl g),g1⟩,?_,?_,?_⟩
  ·have no:r1=r->d.c≠Z i:=λH e=>by
    rw[H]at h1
    cases hc:r.c with
    |none=>have:=h1.c2 hc i e;lia
    |some k=>have:=h1.c1 k hc;rw[e]at this;cases this;have:=q2 i hc;lia
   have hv:dI os (r::rs)=(match r.c,bZ os r.o with|none,I=>(r.o,r.x)::dI os rs|_,_=>dI os rs):=O;have hd:sy i (d::b)=if d.c=Z i then(d.o,d.x)::sy i b else sy i b:=by
    unfold sy;rw[xaR];split<;>next h=>split at h<;>simp_all
   rw[hd,hv,B]
   cases hc:r.c with
   |some k=>
    rw[ir<|no<|by rw[f,hc]]
   |none=>
    cases z:bZ os r.o with
    |false=>rw[ir<|no<|by rw[f,hc,z]]
    |true=>
     have:d.c=Z i:=h1.c1 i (by rw[f,hc,z]);rw[iq this,h1.o,h1.x,v,y]
  ·unfold Dd at p⊢;rw[xaR,ir F];exact p
  ·unfold iA at s⊢;rw[xaR,ir G];exact s
def zhV{i:K}:∀{ob:N (K×Od)}{b:N Rb},RX i (zpj ob) b->QD (λr=>r.a.isNone) b=ob
 |[],b,h=>xek.2 λr d=>by
  have⟨⟨j,h1,_⟩,_⟩:=h r d;simp[h1]
 |e::ob,[],h=>h.elim
 |e::ob,f::b,⟨h1,g⟩=>by
  have c:=zhV g;unfold QD at c⊢;have:f.a=wF:=h1.a;simp only[xaR,this,Option.isNone_none,uP];rw[c,h1.o,h1.x]
theorem zjj{i:K}{os:N K}{rs:N Rb}(h:Br i rs):Br (i+1) (zfQ i os rs):=by
 induction rs with
 |nil=>exact λr a=>wS a H1
 |cons r rs b=>
  intro q hq;obtain rfl|hq:=xag.1 hq
  ·have⟨q1,q2,c⟩:=h r<|FS;split
   ·grind
   ·grind
  ·exact b (λq hq=>h q<|UV _ hq) q hq
theorem zcK{i:K}{os:N K}{rs:N Rb}(h:Br i rs):Br (i+1) (zaX i os rs):=by
 induction rs with
 |nil=>exact λr a=>wS a H1
 |cons r rs b=>
  intro q hq;obtain rfl|hq:=xag.1 hq
  ·have⟨q1,q2,c⟩:=h r<|FS;split
   ·grind
   ·grind
  ·exact b (λq hq=>h q<|UV _ hq) q hq
def zkx{i:K}{ob:N (K×Od)}{rs:N Rb}(h:Br (i+1) rs):Br (i+1) (rs++zdU i ob):=λq hq=>by
 obtain hq|hq:=So.1 hq
 ·exact h q hq
 ·obtain⟨e,_,rfl⟩:=xap.1 hq;simp_all
theorem zh0{i:K}{rs:N Rb}(h:Br i rs):Br (i+1) rs:=λr a=>by
 have⟨q1,q2,b⟩:=h r a;grind
theorem zpW{i n:K}{os:N K}{rs:N Rb}(h:∀r∈rs,r.o<n):∀r∈zfQ i os rs,r.o<n:=by
 induction rs with
 |nil=>exact λr a=>wS a H1
 |cons r rs b=>
  intro q hq;obtain rfl|hq:=xag.1 hq
  ·grind
  ·simp_all
theorem zlh{i n:K}{os:N K}{rs:N Rb}(h:∀r∈rs,r.o<n):∀r∈zaX i os rs,r.o<n:=by
 induction rs with
 |nil=>exact λr a=>wS a H1
 |cons r rs b=>
  intro q hq;obtain rfl|hq:=xag.1 hq
  ·grind
  ·simp_all
theorem zgW{n:K}{os:N K}:∀{rs:N Rb},(∀r∈rs,r.o<n)->∀e∈dI os rs,e.1<n
 |[],_,e,a=>wS a H1
 |r::rs,h,e,a=>by
  have c:=zgW (os:=os) λq b=>h q<|UV _ b;unfold dI at a;split at a
  ·grind
  ·grind
def zbZ:∀(rs:N Rb),Rz rs=QD (λr=>r.c.isNone) rs
 |[]=>rfl
 |r::rs=>by
  have a:=zbZ rs;unfold QD at a⊢;unfold Rz
  cases hc:r.c with
  |none=>simp only[xaR,hc,Option.isNone_none,uP];rw[a]
  |some k=>simp only[xaR,hc];exact a
def bJ{ts:N Z4}:∀{rg:N (K×K×Dv)}{e:K×K×Dv},e∈aK ts rg->e∈rg/\bZ ts e.1=I
 |(t,i,v)::r,e,h=>by
  unfold aK at h;split at h
  ·next b=>
   obtain rfl|h:=xag.1 h
   ·simp_all
   ·have⟨h1,a⟩:=bJ h;exact⟨UV _ h1,a⟩
  ·have⟨h1,a⟩:=bJ h;exact⟨UV _ h1,a⟩
def nT{ts:N Z4}{t i:K}(a:bZ ts t=I):∀{rg:N (K×K×Dv)},lN (aK ts rg) t i=lN rg t i
 |[]=>rfl
 |(c,d,v)::r=>by
  unfold aK;split
  ·unfold lN;rw[nT a]
  ·next b=>
   rw[nT a];conv=>rhs;unfold lN
   rw[YG<|λe=>by rw[e,a]at b;cases b];rfl
def zb5{t i:K}:∀{a b:N (K×K×Dv)},lN (a++b) t i=match lN a t i with|some d=>Z d|none=>lN b t i
 |[],b=>rfl
 |(c,e,v)::a,b=>by
  show(bif F c t && F e i then Z v else lN (a++b) t i)=(match(bif F c t && F e i then Z v else lN a t i)with|some d=>Z d|none=>lN b t i);cases f:F c t && F e i
  ·simp only[XS];exact zb5
  ·rfl
theorem zkh{l:N K}{t:K}(h:bZ l t=I):t∈l:=by grind [bZ,zY]
def sZ:∀{l:N (K×Dv)}{e:K×Dv}{p:K},e∈l->vn e.2=Z p->p∈sj l
 |(i,v)::r,e,p,h,hp=>by
  unfold sj;obtain rfl|h:=xag.1 h
  ·simp_all
  ·have:=sZ h hp;split
   ·simp_all
   ·lia
theorem zhC{d:V Z4}{rg:N (K×K×Dv)}{e:K×Dv}(h:e∈AQ d rg):∃t,d=Z t/\(t,e.1,e.2)∈rg:=by
 unfold AQ at h;split at h
 ·next t=>
  have⟨q,c,a⟩:=xea.1 h;split at a
  ·next b=>
   rw[<-zY b];grind
  ·cases a
 ·cases h
def zbk(P:jP)(vs:K->wN)(n0:K)(Γ:N FF)(env0:y4)(cx σ:Sg)(KL:N (Z4×N (K×Dv))):Prop:=∀vs',(∀p,p<n0->vs' p=vs p)->za6 P vs' Γ env0 cx σ (KV P vs' KL)
def zcs(cx:Sg)(KL:N (Z4×N (K×Dv))):Prop:=∀e∈KL,Y5 cx.rg e.1=I
def ai{KL:N (Z4×N (K×Dv))}{l:N (K×Dv)}{d:V Z4}(hd:xU cx d=I)(h:zcs cx KL):zcs cx (GA d l KL):=by
 cases d with
 |none=>exact h
 |some s=>
  intro e he;obtain rfl|he:=xag.1 he
  ·exact hd
  ·exact h e he
def eY{n0:K}{Γ:N FF}{KL:N (Z4×N (K×Dv))}{l:N (K×Dv)}{o:ut}(hd:xU cx o.dst=I)(h:zbk P vs n0 Γ env0 cx σ KL):zbk P vs n0 Γ env0 cx (σ.put o.dst l) (GA o.dst l KL):=λvs' hv=>by
 rw[zgx];exact EV hd (h vs' hv) λS v w hv=>hv
def PnR(c:V (K×PX))(i n:K)(a:V (K×PX)):Prop:=a=c\/(c=wF/\∃b q,a=Z (b,q)/\i<=b/\b<i+n)
def PnR.up{b a:V (K×PX)}{i n:K}(h:PnR b (i+1) n a):PnR b i (n+1) a:=by
 obtain h|⟨h,c,q,h1,d,e⟩:=h
 ·exact .inl h
 ·exact .inr ⟨h,c,q,h1,W,W⟩
theorem PnR.ne{c a:V (K×PX)}{i n:K}(h:PnR c (i+1) n a)(hi:∀b q,c=Z (b,q)->b<i)(q:PX):a≠Z (i,q):=λe=>by
 obtain h|⟨h,b,d,h1,f,g⟩:=h
 ·grind
 ·grind
def PnR.of_some{a:V (K×PX)}{e:K×PX}{i n:K}(h:PnR (Z e) i n a):a=Z e:=by
 obtain h|⟨h,_⟩:=h
 ·exact h
 ·cases h
def zmr(P:jP)(a:N ut)(we:wP)(Se:K->Prop)(mE:N MF)(Γ:N FF)(env0:y4)(vs:K->wN)(n0:K)(b:V (K×PX))(rs:N Rb):N ((ut×N (K×Dv))×Oi)->K->N (Z4×N (K×Dv))->Prop
 |[],_,_=>Z5
 |((o,L),c)::r,i,KL=>(isD a (b.map (·.1)) i=wL->ObB P a.toArray we Se mE Γ env0 vs n0 rs KL i o L c)/\(∀q,b=Z (i,q)->iA i rs=[]/\ObP P a.toArray we Se mE Γ env0 vs n0 q rs KL i o)/\zmr P a we Se mE Γ env0 vs n0 b rs r (i+1) (GA o.dst L KL)
def Cy{P:jP}{a:N ut}{we:wP}{Se:K->Prop}{mE:N MF}{Γ:N FF}{env0:y4}{vs:K->wN}{n0:K}{c:V (K×PX)}{rs:N Rb}:∀(r:N (ut×N (K×Dv))) (is:N Oi) (n:K) (KL:N (Z4×N (K×Dv))) (i:K) (x:ut×N (K×Dv)) (e:Oi),
 zmr P a we Se mE Γ env0 vs n0 c rs (r.zip is) n KL->r[i]? =Z x->is[i]? =Z e->(isD a (c.map (·.1)) (n+i)=wL->ObB P a.toArray we Se mE Γ env0 vs n0 rs (UG (r.take i) KL) (n+i) x.1 x.2 e)/\∀q,c=Z (n+i,q)->iA (n+i) rs=[]/\ObP P a.toArray we Se mE Γ env0 vs n0 q rs (UG (r.take i) KL) (n+i) x.1
 |[],_,_,_,_,_,_,h,b,_=>by simp at b
 |_::_,[],_,_,_,_,_,_,_,h=>by simp at h
 |(o,L)::r,d::is,n,KL,0,x,e,h,b,hc=>by simp at b hc;subst b;subst hc;exact⟨h.1,h.2.1⟩
 |(o,L)::r,d::is,n,KL,i+1,x,e,h,b,hc=>by
  have:=Cy r is (n+1) (GA o.dst L KL) i x e h.2.2 (by simpa using b) (by simpa using hc);rw[(W:n+1+i=n+(i+1))]at this;simpa[UG]using this
def sQ(hT:yZ P cf.tt)(hL:uz P cf.tt)(hC:∀s∈cf.cs,xh P s)(hX:Cx P cf){u:N ut}{fz:N K}{k:V (K×PX)->Sg->N Rb->N Oi->V R}{Γ:N FF}{n0:K}(hE:∀e∈cx.ob,e.1<n0):∀{os:N ut}{i:K}{L:V (K×PX)}{σ:Sg}{rs:N Rb}{is:N Oi}{KL:N (Z4×N (K×Dv))},
 P9 cf cx u fz L os i σ rs is k=Z r->(∀E q,L=Z (E,q)->E<i)->zbk P vs n0 Γ env0 cx σ KL->zcs cx KL->σ.ob=[]->Bd cx σ->(∀r∈rs,r.o<σ.nx)->Br i rs->n0<=σ.nx->
 ∃(x:V (K×PX)) (Ls:N (N<|K×Dv)) (z:N Oi) (σ':Sg) (y:N Rb),PnR L i (X os) x/\X Ls=X os/\X z=X os/\k x σ' y (is++z)=Z r/\RX i rs y/\
  zmr P u fr.we fr.Se (MS vs cx.ob++fr.F) Γ env0 vs n0 x y ((os.zip Ls).zip z) i KL/\zbk P vs n0 Γ env0 cx σ' (UG (os.zip Ls) KL)/\zcs cx (UG (os.zip Ls) KL)/\σ'.ob=[]/\Bd cx σ'/\(∀r∈y,r.o<σ'.nx)/\n0<=σ'.nx
 |[],i,L,σ,rs,is,KL,h,hG,hi,hn,ho,hB,hr,M,h0=>⟨L,[],[],σ,rs,.inl O,O,O,by rw[xbB];exact h,RX.refl _ _,wR,hi,hn,ho,hB,hr,h0⟩
 |o::os,i,L,σ,rs,is,KL,h,hG,hi,hn,ho,hB,hr,M,h0=>by
  unfold P9 at h;have⟨hd,h⟩:=z6 h;have hF:∀E q,L=Z (E,q)->E<i+1:=λE q e=>Nat.lt_succ_of_lt<|hG E q e;cases hI:zli u L i<;>rw[hI]at h
  case true=>
   obtain⟨E,q0,rfl⟩:∃E q0,L=some (E,q0):=by
    cases L with
    |none=>cases hI
    |some e=>exact⟨e.1,e.2,O⟩
   have⟨x,Ls,z,σ',y,D,h1,Y,h3,h4,h5,h6,h7,h8,h9,hj,hu⟩:=sQ hT hL hC hX hE (os:=os) h hF (eY (l:=[]) hd hi) (ai hd hn) ho (gj hB λe he=>wS he H1) hr (zh0 M) h0;have⟨g1,g2,T,g4⟩:=LZ M h4;have hJ:x=Z (E,q0):=D.of_some;refine⟨x,[]::Ls,⟨σ.nx,σ.nx,[]⟩::z,σ',y,D.up,by simp[h1],by simp[Y],by rw[<-h3];simp,g1,⟨λhD=> ?_,λq hq=>wS hq<|D.ne hG q,h5⟩,h6,h7,h8,h9,hj,hu⟩;exfalso;rw[hJ]at hD;have hI:vS u 16 i E=I:=hI;simp[isD,hI]at hD
  simp only[GI]at h;have⟨H,b,h,hV,hN,h',hS,a2⟩:=OV h hB;have hA:∀{vs' env S w},(∀p,p<n0->vs' p=vs p)->zE S Γ w->Vk (KV P vs' KL) env0 env S w (xbm u.toArray o)->∀t∈xbm u.toArray o,Lk P vs' env S w cx σ t:=λ{vs' env S w} hv a J t B=>hi vs' hv env S w a t<|Wb J t B;cases b
  ·have b3:zbk P vs n0 Γ env0 cx (H.put o.dst [(0,.un)]) (GA o.dst [(0,.un)] KL):=eY hd λvs' hv env S w a t B=>hS P vs' env S w t<|hi vs' hv env S w a t B;have⟨x,Ls,z,σ',y,D,h1,Y,h3,h4,h5,h6,h7,h8,h9,hj,hu⟩:=sQ hT hL hC hX hE (os:=os) h hF b3 (ai hd hn) (hV.trans ho) (gj h' λe he p hp=>by obtain rfl:=xad.1 he;cases hp) (λr hy=>by show r.o<H.nx;rw[hN];exact hr r hy) (zh0 M) (by show n0<=H.nx;rw[hN];exact h0);have⟨g1,g2,T,g4⟩:=LZ M h4;refine⟨x,[(0,.un)]::Ls,⟨H.nx,H.nx,[]⟩::z,σ',y,D.up,by simp[h1],by simp[Y],by rw[<-h3];simp,g1,⟨λ_=>⟨(by show n0<=H.nx;rw[hN];exact h0),IR _,λe he p hp=>(by obtain rfl:=xad.1 he;cases hp),λe he=>(by rw[T]at he;cases he),λvs' hv env F G w C=>⟨λhw=> ?_,λ_=>⟨g2,T,λS w=>⟨O,wR⟩⟩⟩⟩,λq hq=>wS hq<|D.ne hG q,h5⟩,h6,h7,h8,h9,hj,hu⟩;exfalso;have⟨S,_,a⟩:=C.ex;have:=a2 P vs' env S w λt B=>hA hv (zE.left a.2) a.1 t B;rw[hw]at this;cases this
  ·have⟨c,h,a3,b4,hz,a4⟩:=zco h h';have hW:∀vs' env S w t,Lk P vs' env S w cx σ t->Lk P vs' env S w cx c t:=λvs' env S w t B=>a4 P vs' env S w t<|hS P vs' env S w t B;have hY:zbk P vs n0 Γ env0 cx c KL:=λvs' hv env S w a t B=>hW vs' env S w t<|hi vs' hv env S w a t B;have U:c.nx=σ.nx:=b4.trans hN;have hP:∀{vs' env S w},(∀p,p<n0->vs' p=vs p)->zE S Γ w->Vk (KV P vs' KL) env0 env S w (xbm u.toArray o)->yV u.toArray env o=I:=λ{vs' env S w} hv a J=>a2 P vs' env S w λt B=>hA hv a J t B;generalize hH:xbm u.toArray o=ts at h hA hP;generalize e2:cy ts c.rg=Q at h;generalize e3:fzB fz o.dst=bz at h;cases hM:(zlj cf cx ⟨c.nx,c.rg,dI Q rs⟩ bz o.dst o.op||(zjX cf cx c o.op).isSome)<;>rw[hM]at h
   ·simp only[GI]at h;have⟨l,h,c0⟩:=zhG (P:=P) (d:=o.dst) (ty:=o.type) (pos:=o.pos) (aft:=o.after) (g:=o.guard) (F:=[]) hT hL hC hX h;have⟨hl,h⟩:=z6 h;have⟨x,Ls,z,σ',y,D,h1,Y,h3,h4,h5,h6,h7,h8,h9,hj,hu⟩:=sQ hT hL hC hX hE (os:=os) h hF (eY hd hY) (ai hd hn) (a3.trans<|hV.trans ho) (gj hz<|H3 hl) (zpW λr hy=>by show r.o<c.nx;rw[U];exact hr r hy) (zjj M) (by show n0<=c.nx;rw[U];exact h0);have⟨g1,g2,T,g4⟩:=zeR M h4;refine⟨x,l::Ls,⟨c.nx,c.nx,sj l⟩::z,σ',y,D.up,by simp[h1],by simp[Y],by rw[<-h3];simp,g1,⟨λ_=>⟨(by show n0<=c.nx;rw[U];exact h0),IR _,λe he p hp=>⟨H3 hl e he p hp,sZ he hp⟩,λe he=>(by rw[T]at he;cases he),λvs' hv env F G w C=>⟨λ_=> ?_,λhw=> ?_⟩⟩,λq hq=>wS hq<|D.ne hG q,h5⟩,h6,h7,h8,h9,hj,hu⟩
    ·rw[g2]at C;rw[T];have⟨k1,k2,k3,S,k4,k5,k6,k7,k8⟩:=C;have hK:MS vs' cx.ob=MS vs cx.ob:=wx λe he=>hv _<|hE e he;refine(c0 env w S vs' (k2.at k1 k5) (Yi.2 λmf hmf=> ?_) λt B=> ?_).mono ?_
     ·obtain hmf|hmf:=So.1 hmf
      ·obtain⟨e,he,rfl⟩:=xap.1 hmf;exact Yi.1 k7 _<|So.2 (.inl<|xap.2 ⟨e,g4 e he,O⟩)
      ·rw[xbB]at hmf;have hmf:mf∈MS vs' cx.ob:=hmf;rw[hK]at hmf;exact Yi.1 k7 _<|So.2 (.inr<|So.2 (.inl<|So.2 (.inl hmf)))
     ·have J:Vk (KV P vs' KL) env0 env S w (xbm u.toArray o):=k8.1;exact hW vs' env S w t<|hA hv (zE.left k8.2) (hH▸J) t<|hH▸So.2 (.inl B)
     ·rintro v w' ⟨hx,hf⟩;refine⟨vs',λ_ _=>O,k1.trans hx,k2,k3,S,k4,λk hk=>k5 k<|xae hx.size hk,k6,yT.keep hx.to (λm hm i hi=>hx.block i (yT.lt k7 m hm i hi) wR) k7,zE.append (jW.2 λf c1=> ?_)<|zE.keep hx.to k8.2⟩;obtain⟨e,he,rfl⟩:=xap.1 c1;exact hf e he
    ·exfalso;have⟨S,_,a⟩:=C.ex;have J:Vk (KV P vs' KL) env0 env S w (xbm u.toArray o):=a.1;have:=hP hv (zE.left a.2)<|hH▸J;rw[hw]at this;cases this
   ·simp only[GI]at h;have hK:∀{vs2:K->wN},(∀p,p<n0->vs2 p=vs p)->MS vs2 cx.ob=MS vs cx.ob:=λhv=>wx λe he=>hv _<|hE e he
    have hU:∀{vs':K->wN}{env:y4}{F:N MF}{G:N FF}{w:wP},(∀p,p<n0->vs' p=vs p)->St fr.we fr.Se (MS vs' (dI Q rs)++((MS vs cx.ob++fr.F)++F)) (If (KV P vs' KL) env0 env (xbm u.toArray o)::(Γ++G)) w->
     cV P ⟨fr.we,fr.Se,fr.F++F,Γ++G⟩ ⟨0,[],cx.ob⟩ ⟨c.nx,dd<|aK ts<|c.rg++cx.rg,dI Q rs⟩ vs' env w:=by
     intro vs' env F G w hv C;refine⟨⟨λe he=>zgW (λr hy=>by rw[U];exact hr r hy) e he,hz.o2,λe he p hp=> ?_,λe he=>wS he H1⟩,?_⟩
     ·have:=(bJ<|fS he).1;obtain h|h:=So.1 this
      ·exact hz.r1 e h p hp
      ·exact hz.r2 e h p hp
     ·show St fr.we fr.Se (MS vs' (dI Q rs)++(MS vs' cx.ob++(fr.F++F))) (RS P vs' env (dd<|aK ts<|c.rg++cx.rg)++([]++(Γ++G))) w;rw[hK hv,<-xao<|MS vs cx.ob];refine C.weak λS w a=>zE.append (jW.2 λf hf=> ?_) a.2;obtain⟨e,he,rfl⟩:=xap.1 hf;have J:Vk (KV P vs' KL) env0 env S w (xbm u.toArray o):=a.1;have a5:=(bJ<|fS he).2;have a9:=Ma he;rw[nT a5,zb5]at a9;exact hW vs' env S w e.1 (hA hv (zE.left a.2) (hH▸J) e.1<|zkh a5) e.2.1 e.2.2 a9
    rcases zeS (P:=P) (cx:=⟨0,[],cx.ob⟩) (d:=o.dst) (ty:=o.type) (pos:=o.pos) (aft:=o.after) (g:=o.guard) hT hL hC hX (by cases o.dst<;>rfl) h with⟨τ,h,c2,hm⟩|⟨q,b0,h,_,hm⟩;rotate_left
    ·cases L with
     |some e=>cases h
     |none=>
      have⟨x,Ls,z,σ',y,D,h1,Y,h3,h4,h5,h6,h7,h8,h9,hj,hu⟩:=sQ hT hL hC hX hE (os:=os) h (λE q e=>by cases e;lia) (eY (l:=[]) hd hY) (ai hd hn) (a3.trans<|hV.trans ho) (gj hz λe he=>wS he H1) (zlh λr hy=>by show r.o<c.nx;rw[U];exact hr r hy) (zcK M) (by show n0<=c.nx;rw[U];exact h0);have c3:RX (i+1) (zaX i Q rs++zdU i []) y:=by rw[show zdU i []=[]from O,xbB];exact h4
      have⟨g1,g2,T,g4⟩:=Tz M c3;have hJ:x=Z (i,q):=D.of_some;refine⟨x,[]::Ls,⟨c.nx,c.nx,[]⟩::z,σ',y,.inr ⟨O,i,q,hJ,IR _,iP⟩,by simp[h1],by simp[Y],by rw[<-h3];simp,g1,⟨λhD=> ?_,λq' hq=>⟨g4,?_⟩,h5⟩,h6,h7,h8,h9,hj,hu⟩
      ·exfalso;rw[hJ]at hD;simp[isD]at hD
      ·rw[hJ]at hq;cases hq;intro vs' hv env F G w C;rw[g2]at C;have⟨S,_,a⟩:=C.ex;have J:Vk (KV P vs' KL) env0 env S w (xbm u.toArray o):=a.1;refine⟨hP hv (zE.left a.2)<|hH▸J,(hm _ vs' env w<|hU hv C).mono ?_⟩;rintro ch w' ⟨c4,_,hs⟩;refine⟨c4,?_⟩;have hs:St fr.we fr.Se ([]++(MS vs' b0.ob++(MS vs' cx.ob++(fr.F++F)))) (RS P vs' env b0.rg++([]++(Γ++G))) w':=hs;have hs:=St.dropM (A:=[]) hs;rw[hK hv,<-xao<|MS vs cx.ob]at hs;exact St.weak (show St fr.we fr.Se (MS vs cx.ob++fr.F++F) _ w' from hs) λS w a=>zE.right a
    have⟨j,a0⟩:∃j,j=zqr bz o.dst τ:=⟨_,O⟩;simp only at h;rw[<-a0]at h;have b1:j.nx=τ.nx:=by rw[a0];cases bz<;>first|rfl|exact O1 _ _
    have hZ:∀{a1:Fr}{vs2:K->wN}{env w},cV P a1 ⟨0,[],cx.ob⟩ τ vs2 env w->cV P a1 ⟨0,[],cx.ob⟩ j vs2 env w:=λ{a1 vs2 env w} hq=>by rw[a0];cases bz<;>first|exact hq|exact nN _ hq
    unfold zlI at h;have⟨hl,h⟩:=z6 h;rw[xab]at hl;have⟨hl,hQ⟩:=hl;have hQ:∀e∈j.ob,e.1<j.nx:=λe he=>by
     have:=xaQ.1 hQ e he;have:=xca this;lia
    have hc:c.nx<=j.nx:=by rw[b1];exact c2
    have c5:zbk P vs n0 Γ env0 cx ⟨j.nx,v7 c.rg o.dst<|AQ o.dst j.rg,[]⟩ (GA o.dst (AQ o.dst j.rg) KL):=λvs' hv=>eY (l:=AQ o.dst j.rg) hd hY vs' hv;have c6:Bd cx ⟨j.nx,v7 c.rg o.dst<|AQ o.dst j.rg,[]⟩:=by
     refine⟨λe he=>wS he H1,λe he=>xaj (hz.o2 e he) hc,λe he p hp=> ?_,λe he p hp=>xaj (hz.r2 e he p hp) hc⟩;have he:e∈v7 c.rg o.dst (AQ o.dst j.rg):=he;unfold v7 at he;split at he
     ·obtain he|he:=So.1 he
      ·obtain⟨e',c7,rfl⟩:=xap.1 he;exact H3 hl e' c7 p hp
      ·exact xaj (hz.r1 e (xbY.1 he).1 p hp) hc
     ·exact xaj (hz.r1 e he p hp) hc
    have⟨x,Ls,z,σ',y,D,h1,Y,h3,h4,h5,h6,h7,h8,h9,hj,hu⟩:=sQ hT hL hC hX hE (os:=os) h hF c5 (ai hd hn) O c6 (λq hq=>by
     obtain hq|hq:=So.1 hq
     ·exact xaj (zlh (n:=c.nx) (λr hy=>by rw[U];exact hr r hy) q hq) hc
     ·obtain⟨e,he,rfl⟩:=xap.1 hq;exact hQ e he) (zkx (zcK M)) (xae (by rw[U];exact h0) hc)
    have⟨g1,g2,T,g4⟩:=Tz M h4;refine⟨x,AQ o.dst j.rg::Ls,⟨c.nx,j.nx,sj<|AQ o.dst j.rg⟩::z,σ',y,D.up,by simp[h1],by simp[Y],by rw[<-h3];simp,g1,⟨λ_=>⟨(by show n0<=c.nx;rw[U];exact h0),hc,λe he p hp=>⟨H3 hl e he p hp,sZ he hp⟩,λe he=>hQ e (by rw[T]at he;exact he),λvs' hv env F G w C=>⟨λ_=> ?_,λhw=> ?_⟩⟩,λq hq=>wS hq<|D.ne hG q,h5⟩,h6,h7,h8,h9,hj,hu⟩
    ·rw[g2,g4,xbB]at C;rw[T,g4];refine(hm _ vs' env w<|hU hv C).mono ?_;rintro v w' ⟨vs2,b2,e0⟩;have⟨_,hR⟩:=hZ e0;refine⟨vs2,b2,?_⟩;have hR:St fr.we fr.Se (MS vs2 j.ob++(MS vs2 cx.ob++(fr.F++F))) (RS P vs2 (put env o.dst v) j.rg++([]++(Γ++G))) w':=hR;rw[hK (vs2:=vs2)<|λp hp=>(b2 p<|xaj hp (by show n0<=c.nx;rw[U];exact h0)).trans<|hv p hp,<-xao<|MS vs cx.ob]at hR;refine St.weak (show St fr.we fr.Se (MS vs2 j.ob++(MS vs' []++(MS vs cx.ob++fr.F++F))) _ w' from hR) λS w a=>zE.append (jW.2 λf hf=> ?_)<|zE.right a;obtain⟨e,he,rfl⟩:=xap.1 hf;have⟨t,B,e1⟩:=zhC he;have:=UB (zE.left a) e1;rw[B,Ed]at this;exact this
    ·exfalso;have⟨S,_,a⟩:=C.ex;have J:Vk (KV P vs' KL) env0 env S w (xbm u.toArray o):=a.1;have:=hP hv (zE.left a.2)<|hH▸J;rw[hw]at this;cases this
def qOf:V (K×PX)->PX
 |some e=>e.2
 |none=>(0,0)
def P1{o:ut}{x:N (wr×Dv)}{t:Z4}:∀{L:N (ut×N (wr×Dv))}{K:N (Z4×N (wr×Dv))},(o,x)∈L->o.dst=Z t->∃y,(t,y)∈UG L K
 |(f,g)::L,K,h,b=>by
  obtain h|h:=xag.1 h
  ·cases h;have:∀{L:N (ut×N (wr×Dv))}{K:N (Z4×N (wr×Dv))}{e},e∈K->e∈UG L K:=by
    intro L
    induction L with
    |nil=>exact λh=>h
    |cons a L d=>
     intro K e c;refine d ?_
     cases i:a.1.dst with
     |none=>exact c
     |some s=>exact UV _ c
   exact⟨x,show(t,x)∈UG L (GA o.dst x K)from this<|by rw[b];exact FS⟩
  ·exact P1 (L:=L) h b
def zkE{l:N K}{t:K}(h:t∈l):bZ l t=I:=by
 unfold bZ;simp_all
def zd0{l:N ut}{i m:K}(hi:i<m)(b:m<=X l):zW l i∈l.take m:=by
 have a:i<X l:=W
 rw[show zW l i=l[i]by simp[zW,a]];exact xby<|by rw[xce,iq hi];exact xak a
def CZ:∀(rs:N Rb),IG rs=QD KI rs
 |[]=>rfl
 |r::rs=>by
  rw[n9];unfold IG KI;rw[CZ rs];cases r.a<;>cases r.c<;>rfl
def znx(hm:P.follows .mixedOrders=I)(hT:yZ P cf.tt)(hL:uz P cf.tt)(hC:∀s∈cf.cs,xh P s)(hX:Cx P cf){N:Nd}{id m:wr}{l:xS ut}{Q:Qs}{kp:PX->Sg->V R}{k:Sg->V R}
 (hP:∀q σ',kp q σ'=Z r->∀z w,lU cx env z->Z1 P fr cx σ' z w->Q (.panic<|OT q) z w) (hK:∀σ',k σ'=Z r->∀z w,lU cx env z->Z1 P fr cx σ' z w->Q .normal z w) (hN:(l.all λo=>jL N.n o.dst)=I) (hc:W0 l m=I) (h:zn1 cf cx id l m σ kp k=Z r) (hR:Z1 P fr cx σ env w):Wp P N (.region id l.toArray I) Q env w:=by
 unfold zn1 at h;simp only at h;have⟨hQ,vs,hD⟩:=hR;have⟨C,hE⟩:=nN (cy (zlW cf id) σ.rg) ⟨hQ,hD⟩;generalize Eh σ (cy (zlW cf id) σ.rg)=σ0 at h C hE;have h':m<=X l:=(Zf hc).1
 have⟨B,Ls,is,σ',rs,hS,h1,h2,L,h4,h5,hF,hA,a0,Y,hG,hU⟩:=sQ (P:=P) (fr:=fr) (vs:=vs) (env0:=env) (Γ:=GS P vs env fr cx σ0) (n0:=σ0.nx) (KL:=[]) hT hL hC hX C.o2 h (λ_ _ e=>by cases e)
  (λvs' hv z S w' A t D i dv hd=>by
   have D:z t=env t:=D;rw[D];have hg:get cx σ0 t i=Z dv:=hd;have:=X6 A t i dv hg;have hV:vX P vs' dv (env t) i=vX P vs dv (env t) i:=by
    unfold vX;simp only[gZ (P:=P) (vs':=vs') (vs:=vs) (d:=dv) λo E=>hv o (by
     obtain hm|hm:=NR hg
     ·exact C.r1 _ hm o E
     ·exact C.r2 _ hm o E)]
   rw[hV];exact this) (λ_ u=>wS u H1) O ⟨λ_ u=>wS u H1,C.o2,C.r1,C.r2⟩ (λq H=>by
    obtain⟨e,u,rfl⟩:=xap.1 H;exact C.o1 e u) (λq H=>by
    obtain⟨e,u,rfl⟩:=xap.1 H;exact⟨λj hj=>(by cases hj),λj hj=>(by cases hj),λj hj=>wS hj H1⟩) (IR _)
 simp only[xbH]at L;have⟨hx,L⟩:=z6 L;have hW:=zhV h4;have hH:∀i x g,((l.take m).zip Ls)[i]? =Z x->is[i]? =Z g->isD l (B.map (·.1)) i=wL->ObB P l.toArray fr.we fr.Se (MS vs cx.ob++fr.F) (GS P vs env fr cx σ0) env vs σ0.nx rs (UG (((l.take m).zip Ls).take i) []) i x.1 x.2 g:=λi x g a b c=>by
  have:=(Cy _ is 0 [] i x g h5 a b).1;rw[xaJ]at this;exact this c
 have hI:∀i0 q,B=Z (i0,q)->i0<m:=λi0 q e=>by
  obtain h|⟨_,i1,q1,g1,g2,g3⟩:=hS
  ·rw[h]at e;cases e
  ·rw[e]at g1;cases g1;rw[xas]at g3;lia
 refine zkJ (we:=fr.we) (Se:=fr.Se) (ms:=OS vs fr cx σ0.ob) (mE:=MS vs cx.ob++fr.F) (B.map (·.1)) (qOf B) m Ls is rs (σ'.rg.map (·.1)++cx.rg.map (·.1)) vs σ0.nx hm hc (by rw[h1,xas];lia) (by rw[h2,xas];lia) hx (by rw[hW]) hN (λi0 e=>by
  cases B with
  |none=>cases e
  |some M=>cases e;exact hI _ _ O) hH (λi0 x e hY=> ?_) (λhB v w1 vs' hl hJ hn=> ?_) (λhB=> ?_) w hE
 ·cases B with
  |none=>cases e
  |some M=>
   have⟨i1,q1⟩:=M;cases e;have a1:=hI _ _ O;have:=(Cy _ is 0 [] i1 x (is[i1]'(by rw[h2,xas];lia)) h5 hY<|xak _).2 q1;rw[xaJ]at this;exact this O
 ·cases B with
  |none=>cases hB
  |some M=>
   have⟨i1,q1⟩:=M;have hM:∀i,i<m->∀t,(zW l i).dst=Z t->Y5 cx.rg t=I:=λi hi t D=>by
    have hZ:i<X l:=W
    have⟨x,h0⟩:∃x,((l.take m).zip Ls)[i]? =some (zW l i,x):=⟨Ls[i]'(by rw[h1,xas];lia),by
     rw[xeO];refine⟨?_,iP⟩;rw[xce,iq hi];simp[zW,hZ]⟩
    have⟨y,hy⟩:=P1 (K:=[]) (xby h0) D;exact hA _ hy
   have hu:∀e0∈cx.rg,v e0.1=env e0.1:=λe0 T=>hJ e0.1 λi hi hd=>by
    have:=hM i hi _ hd;simp only[Y5,xaQ]at this;have:=this e0 T;simp at this
   have hw:∀e∈σ0.rg.filter (λe=> !bZ (zjz<|l.take m) e.1),e∈σ0.rg/\v e.1=env e.1:=λe u=>by
    have⟨u,U⟩:=xbY.1 u;refine⟨u,hJ e.1 λi hi hd=> ?_⟩;have:bZ (zjz<|l.take m) e.1=I:=zkE<|xea.2 ⟨zW l i,zd0 hi W,hd⟩;rw[this]at U;cases U
   refine hP q1 _ L v w1 hu ⟨⟨λe u=> ?_,Y.o2,λe u p hp=> ?_,Y.r2⟩,vs',?_⟩
   ·rw[CZ]at u;have⟨q,H,u⟩:=xea.1 u;split at u
    ·cases u;exact hG q H
    ·cases u
   ·exact xaj (C.r1 e (hw e u).1 p hp) hU
   ·show St fr.we fr.Se (MS vs' (IG rs)++(MS vs' cx.ob++fr.F)) (RS P vs' v (σ0.rg.filter<|λe=> !bZ (zjz<|l.take m) e.1)++(RS P vs' v cx.rg++fr.G)) w1;rw[CZ,wx (ob:=cx.ob) λe u=>hl _<|C.o2 e u];refine hn.weak λS w2 A=>zE.append ?_<|zE.append ?_<|zE.right<|zE.right A
    ·rw[qJ (vs:=vs) (env:=env) (λe u o E=>hl o<|C.r1 e (hw e u).1 o E) λe u=>(hw e u).2];refine jW.2 λf J=> ?_;obtain⟨e,u,rfl⟩:=xap.1 J;exact jW.1 (zE.left A) _<|xap.2 ⟨e,(hw e u).1,O⟩
    ·rw[qJ (vs:=vs) (env:=env) (λe u o E=>hl o<|C.r2 e u o E) λe u=>hu e u];exact zE.left<|zE.right A
 obtain rfl:B=none:=by cases B with
  |none=>rfl
  |some e=>cases hB
 simp only at L;intro v w1 vs' hl hn;have hz:Rz rs=QD (λr=>r.c.isNone) rs:=zbZ rs;have hO:∀e∈Rz rs,e.1<σ'.nx:=λe u=>by
  rw[hz]at u;have⟨q,H,u⟩:=xea.1 u;split at u
  ·cases u;exact hG q H
  ·cases u
 have⟨S1,_,h6⟩:=hn.ex;have hu:lU cx env v:=λe0 T=>by
  have h1:=Wb h6.1 e0.1<|So.2 (.inr<|xap.2 ⟨e0,T,O⟩);unfold Y4 at h1;have J:(KV P vs'<|UG ((l.take m).zip Ls) []).find? (λx=>F x.1 e0.1)=wF:=by
   rw[List.find?_eq_none];intro e u U;obtain⟨e1,h7,rfl⟩:=xap.1 u;have:=hA e1 h7;simp only[Y5,xaQ]at this;have:=this e0 T;rw[zY U]at this;simp at this
  rw[J]at h1;exact h1
 refine Fh (P:=P) (fr:=fr) hT hL hC hX hK hP hu (zcj hN m) L ⟨⟨hO,Y.o2,λe u=>Y.r1 e<|fS u,Y.r2⟩,vs',?_⟩;show St fr.we fr.Se (MS vs' (Rz rs)++(MS vs' cx.ob++fr.F)) (RS P vs' v (dd σ'.rg)++(RS P vs' v cx.rg++fr.G)) w1;rw[hz,wx (ob:=cx.ob) λe u=>hl _<|C.o2 e u];refine hn.weak λS w2 A=> ?_;have hk:=Wb A.1;have h8:∀t∈cx.rg.map (·.1),v t=env t:=λt D=>by
  have h1:=hk t<|So.2 (.inr D);unfold Y4 at h1;have J:(KV P vs'<|UG ((l.take m).zip Ls) []).find? (λx=>F x.1 t)=wF:=by
   rw[List.find?_eq_none];intro e u U;obtain⟨e0,T,rfl⟩:=xap.1 u;have:=hA e0 T;obtain⟨M,h9,rfl⟩:=xap.1 D;simp only[Y5,xaQ]at this;have:=this M h9;rw[zY U]at this;simp at this
  rw[J]at h1;exact h1
 refine zE.append ?_<|zE.append ?_<|zE.right<|zE.right A.2
 ·refine jW.2 λf J=> ?_;obtain⟨e,u,rfl⟩:=xap.1 J;have hg:get cx σ' e.1 e.2.1=Z e.2.2:=by unfold get;rw[Ma u]
  exact hF vs' hl v S w2 A.2 e.1 (hk e.1<|So.2 (.inl<|xap.2 ⟨e,fS u,O⟩)) _ _ hg
 ·rw[qJ (vs:=vs) (env:=env) (λe u o E=>hl o<|C.r2 e u o E) λe u=>h8 e.1<|xap.2 ⟨e,u,O⟩];exact zE.left<|zE.right A.2
def zep(M:P.follows .mixedOrders=I)(v:yZ P cf.tt)(y:uz P cf.tt)(z:∀s∈cf.cs,xh P s)(A:Cx P cf){N:Nd}{id:wr}{l:xS ut}{g:v6}{Q:Qs}{kp:PX->Sg->V R}{k:Sg->V R}
 (D:∀q σ',kp q σ'=Z r->∀c w,lU cx env c->Z1 P fr cx σ' c w->Q (.panic<|OT q) c w) (E:∀σ',k σ'=Z r->∀c w,lU cx env c->Z1 P fr cx σ' c w->Q .normal c w) (B:(l.all λo=>jL N.n o.dst)=I) (h:znu cf cx id l g σ kp k=Z r) (H:Z1 P fr cx σ env w):Wp P N (.region id l.toArray g) Q env w:=by
 unfold znu at h;cases g
 ·exact λa h1 h2 h3=>wpIn_region_lit<|Fh v y z A E D lU.refl B h H a h1 h2 h3
 ·simp only[GI]at h;have⟨hc,h⟩:=z6 h;generalize S8 l (X l) (X l)=m at hc h;cases hw:zoO cf id<;>rw[hw]at h
  case true=>exact znx M v y z A D E B hc h H
  simp only at h;have hi:=PE (cf:=cf) (l.take m) [] H;generalize zku cf cx (l.take m) [] σ=σ0 at h hi;have⟨hB,vs,hr⟩:=hi;have hy:m<=X l:=(Zf hc).1
  have⟨u,σ',hl,hj,h,hn,hs,hu,C⟩:=zaU (P:=P) (fr:=fr) (vs:=vs) (env0:=env) (σ0:=σ0) (Γ:=GS P vs env fr cx σ0) (K:=[]) v y z A h
   (λc S w' j t p i dv hd=>by
    have p:c t=env t:=p;rw[p];exact X6 j t i dv hd) (λ_ d=>wS d H1) O hB
  refine zbl (we:=fr.we) (Se:=fr.Se) (ms:=OS vs fr cx σ0.ob) (Γ:=GS P vs env fr cx σ0) m u (σ'.rg.map (·.1)++cx.rg.map (·.1)) M hc (by rw[hl,xas];lia) B hj ?_ w hr;intro S w1 b hS j hh;have T:=Wb hh;have U:∀t∈cx.rg.map (·.1),b t=env t:=λt p=>by
   have h1:=T t<|So.2 (.inr p);unfold Y4 at h1;have J:(SJ ((l.take m).zip u) []).find? (λx=>F x.1 t)=wF:=by
    rw[List.find?_eq_none];intro e d hb;have:=hs e d;obtain⟨e',hv,rfl⟩:=xap.1 p;simp only[Y5,xaQ]at this;have:=this e' hv;rw[zY hb]at this;simp at this
   rw[J]at h1;exact h1
  have hd:zE S (RS P vs b<|dd σ'.rg) w1:=jW.2 λf J=>by
   obtain⟨e,d,rfl⟩:=xap.1 J;have hg:get cx σ' e.1 e.2.1=Z e.2.2:=by unfold get;rw[Ma d]
   exact hn b S w1 j e.1 (T e.1<|So.2 (.inl<|xap.2 ⟨e,fS d,O⟩)) _ _ hg
  have hx:zE S (RS P vs b cx.rg) w1:=by
   rw[qJ (env:=env) (λ_ _ _ _=>O) λe d=>U e.1<|xap.2 ⟨e,d,O⟩];exact zE.left<|zE.right j
  refine⟨GS P vs b fr cx ⟨σ'.nx,dd σ'.rg,σ'.ob⟩,(σ'.rg.map (·.1)++cx.rg.map (·.1)).map λt=>(t,b t),zE.append hd<|zE.append hx<|zE.right<|zE.right j,EB _,λrest w2 hp=> ?_⟩;refine Fh (P:=P) (fr:=fr) v y z A E D (λe0 Y=>(Ng<|So.2 (.inr<|xap.2 ⟨e0,Y,O⟩)).trans<|U e0.1<|xap.2 ⟨e0,Y,O⟩) (zcj B m) h ⟨⟨C.o1,C.o2,λe d=>C.r1 e<|fS d,C.r2⟩,vs,?_⟩;have e1:RS P vs (L ((σ'.rg.map (·.1)++cx.rg.map (·.1)).map λt=>(t,b t)) rest) (dd σ'.rg)=RS P vs b (dd σ'.rg):=qJ (λ_ _ _ _=>O) λe d=>Ng<|So.2 (.inl<|xap.2 ⟨e,fS d,O⟩);have e2:RS P vs (L ((σ'.rg.map (·.1)++cx.rg.map (·.1)).map λt=>(t,b t)) rest) cx.rg=RS P vs b cx.rg:=qJ (λ_ _ _ _=>O) λe d=>Ng<|So.2 (.inr<|xap.2 ⟨e,d,O⟩);show St _ _ (OS vs fr cx σ'.ob) (RS P vs _ (dd σ'.rg)++(RS P vs _ cx.rg++fr.G)) w2;rw[e1,e2,hu];exact hp
end
end
section
section
variable{P:jP}{cf:Cf}{fr:Fr}{cx kp σ:Sg}{vs vs':wr->wN}{env env0:y4}{w:wP}{R:Type}{r:R}
def zna(u:wN)(r:K):V wN:=(xM u)[r]?
def tfF:(f:TF)->f.D->(K->wN)->wN->wN->FF
 |.d t,x,_,_,v=>fV t.rep x v
 |.q t,x,_,_,v=>fP t.rep x v
 |.own _ _,_,_,u,v=>cQ<|v=u
 |.var _ _,_,_,u,v=>cQ (v=u/\∃b,v=.pointer (Z ⟨b,0,wF⟩))
 |.mat _ _ _,_,_,u,v=>cQ<|v=yC u
 |.matv _ _ _,x,_,u,v=>cQ<|SU (yC u) x.2.1 x.2.2 v
 |.row j,r,U,_,v=>cQ<|zna (U j) r=Z v
 |.view j,r,U,_,v=>cQ<|SU (yC<|U j) r.1 r.2 v
 |.bo _ _ _,_,_,u,v=>cQ<|v=yC u
 |.vr _ _ _ _ _ _,_,_,u,v=>cQ<|v=yC u
def tfM:(f:TF)->f.D->wN->N MF
 |.own t E,xs,u=>[mO t.rep E u xs]
 |.var t E,z,u=>[mP t.rep.c E u z]
 |.mat t E E1,x,u=>[Aq t.rep E E1 u x.1 x.2]
 |.matv t E E1,x,u=>[Aq t.rep E E1 u x.1.1 x.1.2]
 |.bo t E a,xs,u=>[mBo t.rep E a u xs]
 |.vr t E s E1 n i,x,u=>[mVr (vrP s<|xe n t i) t.rep E (YL<|xe n t i) (uj s (xe n t i) []) s.rep E1 u x.1 x.2]
 |_,_,_=>[]
def dsF(U:K->wN)(env:y4):(l:N (K×TF))->Jn l->K->N FF
 |[],_,_=>[]
 |[a],x,i=>[tfF a.2 x U (U i)<|env a.1]
 |a::b::r,x,i=>tfF a.2 x.1 U (U i) (env a.1)::dsF U env (b::r) x.2 (i+1)
def Qy(U:K->wN):(l:N (K×TF))->Jn l->K->N MF
 |[],_,_=>[]
 |[a],x,i=>tfM a.2 x<|U i
 |a::b::r,x,i=>tfM a.2 x.1 (U i)++Qy U (b::r) x.2 (i+1)
def XZ(f:TF)(dv:V Dv)(vs:K->wN)(v:wN):wN:=match f,dv with
 |.mat _ _ _,Z .nil=>K6 v []
 |.mat _ _ _,Z (.mw o)=>vs o
 |.matv _ _ _,Z (.mv o _ _)=>vs o
 |.bo _ _ _,Z (.mw o)=>vs o
 |.vr _ _ _ _ _ _,Z (.mw o)=>vs o
 |_,_=>v
def UQ(cx σ:Sg)(ds:N (K×TF))(vs:K->wN)(env:y4)(j:K):wN:=match ds[j]? with
 |some (t,f)=>XZ f (get cx σ t 0) vs<|env t
 |none=>uL
def MG:∀{os l:N K},C5 os l=I->∀o∈l,bZ os o=wL
 |os,o::r,h,p,hp=>by
  simp only[C5,xab,xcN]at h;obtain rfl|hp:=xag.1 hp
  ·exact h.1
  ·exact MG h.2 p hp
def Mb{ds:N (K×TF)}{t:K}{f:TF}{k:f.D->N K->V R}(h:dZ cx σ ds t f k=Z r):∃x os,k x os=Z r/\(∀j,CU f=Z j->j<X ds)/\
 (∀(P:jP) vs env S w,(∀t,Lk P vs env S w cx σ t)->(tfF f x (UQ cx σ ds vs env) (XZ f (get cx σ t 0) vs<|env t)<|env t).p S w)/\
 (∀(P:jP) vs (fr:Fr) env (A:N MF) (Γ:N FF) w (g:N K),(∀S w,zE S Γ w->Lk P vs env S w cx σ t)->(∀o∈os,bZ g o=wL)->St fr.we fr.Se (A++OS vs fr cx (vI σ.ob g)) Γ w->
  St fr.we fr.Se (tfM f x (XZ f (get cx σ t 0) vs<|env t)++(A++OS vs fr cx (vI σ.ob<|os++g))) Γ w):=by
 have Q:∀{f:TF},(∀j,CU f≠Z j)->∀j,CU f=Z j->j<X ds:=λh j e=>wS e<|h j
 cases f with
 |d s=>
  have⟨y,h,hy⟩:=zfn h;refine⟨y,[],h,Q (λj e=>by cases e),λP vs env S w hl=> ?_,λP vs fr env A Γ w g _ _ h=>h⟩
  cases a:get cx σ t 0 with
  |none=>rename_i h0;simp only[dZ]at h0;rw[a]at h0;cases h0
  |some v=>exact hy P vs S w v _ a<|hl t 0 v a
 |q s=>
  simp only[dZ]at h;split at h
  ·next T x a=>
   have⟨e,h⟩:=z7 h;subst e;exact⟨_,[],h,Q (λj e=>by cases e),λP vs env S w hl=>hl t 0 _ a,λP vs fr env A Γ w g _ _ h=>h⟩
  ·cases h
 |own s E=>
  simp only[dZ]at h;split at h
  ·next o a=>
   split at h
   ·next T E' xs J=>
    have⟨l,h1⟩:=z6 h;have l:=zY l;subst l;have⟨e,C⟩:=z7 h1;cases e;refine⟨_,[o],C,Q (λj e=>by cases e),λ_ _ _ _ _ _=>by simp only[a,XZ];exact O,λP vs fr env A Γ w g hl hn m=> ?_⟩;have hp:=jR (vs:=vs) (fr:=fr) (cx:=cx)<|(jI<|hn o<|FS).trans J;have B:=St.mid<|St.perm m<|xbo _ hp;have⟨S,_,G⟩:=m.ex;have hv:env t=vs o:=hl S w G 0 _ a;simp only[a,XZ];show St _ _ (mO s.rep E (env t) _::(A++_)) _ _;rw[hv];exact B
   ·cases h
  ·next a=>
   refine⟨_,[],h,Q (λj e=>by cases e),λ_ _ _ _ _ _=>by simp only[a,XZ];exact O,λP vs fr env A Γ w g hl hn m=> ?_⟩;have⟨S,_,G⟩:=m.ex;have hv:env t=.slice wF 0 0:=hl S w G 0 _ a;simp only[a,XZ];show St _ _ (mO s.rep E (env t) _::(A++_)) _ _;rw[hv];exact m.nilO
  ·cases h
 |var s E=>
  simp only[dZ]at h;split at h
  ·next o s0 a=>
   split at h
   ·next T E' z J=>
    have⟨l,h1⟩:=z6 h;have l:=zY l;subst l;have⟨e,C⟩:=z7 h1;subst e;refine⟨_,[o],C,Q (λj e=>by cases e),λP vs env S w hl=> ?_,λP vs fr env A Γ w g hl hn m=> ?_⟩
    ·have⟨B,b,h4⟩:=hl t 0 _ a;simp only[a,XZ];exact⟨O,b,B.trans h4⟩
    ·have hp:=jR (vs:=vs) (fr:=fr) (cx:=cx)<|(jI<|hn o<|FS).trans J;have B:=St.mid<|St.perm m<|xbo _ hp;have⟨S,_,G⟩:=m.ex;have hv:env t=vs o:=(hl S w G 0 _ a).1;simp only[a,XZ];show St _ _ (mP T.rep.c E (env t) _::(A++_)) _ _;rw[hv];exact B
   ·cases h
  ·cases h
 |mat s E E1=>
  simp only[dZ]at h;split at h
  ·next o a=>
   split at h
   ·next T E' F' a0 ix J=>
    have⟨l,h1⟩:=z6 h;rw[xab]at l;have hc:=zY l.1;have hd:=zY l.2;subst hc;subst hd;have⟨e,C⟩:=z7 h1;cases e;refine⟨_,[o],C,Q (λj e=>by cases e),λP vs env S w hl=> ?_,λP vs fr env A Γ w g hl hn m=> ?_⟩
    ·simp only[a,XZ];exact hl t 0 _ a
    ·have hp:=jR (vs:=vs) (fr:=fr) (cx:=cx)<|(jI<|hn o<|FS).trans J;simp only[a,XZ];have B:=St.mid<|St.perm m<|xbo _ hp;exact B
   ·cases h
  ·next a=>
   refine⟨_,[],h,Q (λj e=>by cases e),λP vs env S w hl=>by simp only[a,XZ];exact O,λP vs fr env A Γ w g hl hn m=> ?_⟩;have⟨S,_,G⟩:=m.ex;have hv:env t=.slice wF 0 0:=hl S w G 0 _ a;simp only[a,XZ];refine OE (u:=K6 (env t) []) O ?_;show St _ _ (mO (YO []) E (env t) []::(A++_)) _ _;rw[hv];exact m.nilO
  ·cases h
 |matv s E E1=>
  simp only[dZ]at h;split at h
  ·next o lo n a=>
   split at h
   ·next T E' F' a0 ix J=>
    have⟨l,h1⟩:=z6 h;rw[xab]at l;have hc:=zY l.1;have hd:=zY l.2;subst hc;subst hd;have⟨e,C⟩:=z7 h1;cases e;refine⟨_,[o],C,Q (λj e=>by cases e),λP vs env S w hl=> ?_,λP vs fr env A Γ w g hl hn m=> ?_⟩
    ·simp only[a,XZ];exact hl t 0 _ a
    ·have hp:=jR (vs:=vs) (fr:=fr) (cx:=cx)<|(jI<|hn o<|FS).trans J;simp only[a,XZ];have B:=St.mid<|St.perm m<|xbo _ hp;exact B
   ·cases h
  ·cases h
 |row j=>
  simp only[dZ]at h
  have L:∀(o H p:K),j<X ds->get cx σ t 0=Z (.rw o p)->F o H=I->k p []=Z r->(∀vs env,UQ cx σ ds vs env j=vs H)->∃(x:K) (os:N K),k x os=Z r/\(∀i,CU (TF.row j)=Z i->i<X ds)/\
   (∀(P:jP) vs env S w,(∀t,Lk P vs env S w cx σ t)->(tfF (.row j) x (UQ cx σ ds vs env) (XZ (.row j) (get cx σ t 0) vs<|env t)<|env t).p S w)/\
   (∀(P:jP) vs (fr:Fr) env (A:N MF) (Γ:N FF) w (g:N K),(∀S w,zE S Γ w->Lk P vs env S w cx σ t)->(∀o∈os,bZ g o=wL)->St fr.we fr.Se (A++OS vs fr cx (vI σ.ob g)) Γ w->
    St fr.we fr.Se (tfM (.row j) x (XZ (.row j) (get cx σ t 0) vs<|env t)++(A++OS vs fr cx (vI σ.ob<|os++g))) Γ w):=by
   intro o H p he a C B h4;refine⟨p,[],B,λi e=>by cases e;exact he,λP vs env S w hl=> ?_,λP vs fr env A Γ w g _ _ h=>h⟩;have h5:(xM<|vs o)[p]? =Z (env t):=hl t 0 _ a;rw[zY C]at h5;show zna (UQ cx σ ds vs env j) p=Z (env t);rw[h4];exact h5
  split at h
  ·next o p s _ _ _ a M=>
   split at h
   ·next H U=>
    have⟨Y,h⟩:=z6 h;exact L o H p (xax.1 M).1 a Y h λvs env=>by unfold UQ;rw[M];simp only[U,XZ]
   ·cases h
  ·next o p s _ _ _ a M=>
   split at h
   ·next H lo n U=>
    have⟨Y,h⟩:=z6 h;exact L o H p (xax.1 M).1 a Y h λvs env=>by unfold UQ;rw[M];simp only[U,XZ]
   ·cases h
  ·cases h
 |view j=>
  simp only[dZ]at h
  have L:∀(o H p q:K),j<X ds->get cx σ t 0=Z (.mv o p q)->F o H=I->k (p,q) []=Z r->(∀vs env,UQ cx σ ds vs env j=vs H)->∃(x:K×K) (os:N K),k x os=Z r/\(∀i,CU (TF.view j)=Z i->i<X ds)/\
   (∀(P:jP) vs env S w,(∀t,Lk P vs env S w cx σ t)->(tfF (.view j) x (UQ cx σ ds vs env) (XZ (.view j) (get cx σ t 0) vs<|env t)<|env t).p S w)/\
   (∀(P:jP) vs (fr:Fr) env (A:N MF) (Γ:N FF) w (g:N K),(∀S w,zE S Γ w->Lk P vs env S w cx σ t)->(∀o∈os,bZ g o=wL)->St fr.we fr.Se (A++OS vs fr cx (vI σ.ob g)) Γ w->
    St fr.we fr.Se (tfM (.view j) x (XZ (.view j) (get cx σ t 0) vs<|env t)++(A++OS vs fr cx (vI σ.ob<|os++g))) Γ w):=by
   intro o H p q he a C B h4;refine⟨(p,q),[],B,λi e=>by cases e;exact he,λP vs env S w hl=> ?_,λP vs fr env A Γ w g _ _ h=>h⟩;have h5:SU (yC<|vs o) p q (env t):=hl t 0 _ a;rw[zY C]at h5;show SU (yC<|UQ cx σ ds vs env j) p q (env t);rw[h4];exact h5
  split at h
  ·next o p q s _ _ _ a M=>
   split at h
   ·next H U=>
    have⟨Y,h⟩:=z6 h;exact L o H p q (xax.1 M).1 a Y h λvs env=>by unfold UQ;rw[M];simp only[U,XZ]
   ·cases h
  ·next o p q s _ _ _ a M=>
   split at h
   ·next H lo n U=>
    have⟨Y,h⟩:=z6 h;exact L o H p q (xax.1 M).1 a Y h λvs env=>by unfold UQ;rw[M];simp only[U,XZ]
   ·cases h
  ·cases h
 |bo s E E0=>
  simp only[dZ]at h;split at h
  ·next o a=>
   split at h
   ·next T E' F' xs J=>
    have⟨l,h1⟩:=z6 h;rw[xab]at l;have hc:=zY l.1;have hd:=zY l.2;subst hc;subst hd;have⟨e,C⟩:=z7 h1;cases e;refine⟨_,[o],C,Q (λj e=>by cases e),λP vs env S w hl=> ?_,λP vs fr env A Γ w g hl hn m=> ?_⟩
    ·simp only[a,XZ];exact hl t 0 _ a
    ·have hp:=jR (vs:=vs) (fr:=fr) (cx:=cx)<|(jI<|hn o<|FS).trans J;simp only[a,XZ];have B:=St.mid<|St.perm m<|xbo _ hp;exact B
   ·cases h
  ·cases h
 |vr s E s2 E1 n i=>
  simp only[dZ]at h;split at h
  ·next o a=>
   split at h
   ·next T E' a1 F' n' i' z xs J=>
    have⟨l,h1⟩:=z6 h;rw[xab,xab,xab]at l;have⟨e1,C⟩:=z7 h1;have⟨e2,B⟩:=z7 C;have hc:=zY l.1;have hd:=zY l.2.1;have hf:=zY l.2.2.1;have hi:=zY l.2.2.2;subst hc;subst hd;subst hf;subst hi;subst e1;cases e2;refine⟨_,[o],B,Q (λj e=>by cases e),λP vs env S w hl=> ?_,λP vs fr env A Γ w g hl hn m=> ?_⟩
    ·simp only[a,XZ];exact hl t 0 _ a
    ·have hp:=jR (vs:=vs) (fr:=fr) (cx:=cx)<|(jI<|hn o<|FS).trans J;simp only[a,XZ];have B:=St.mid<|St.perm m<|xbo _ hp;exact B
   ·cases h
  ·cases h
def Cn{ds:N (K×TF)}{i:K}{t:K}{f:TF}{env:y4}(h:ds[i]? =Z (t,f)):UQ cx σ ds vs env i=XZ f (get cx σ t 0) vs (env t):=by unfold UQ;rw[h]
def zlH{ds:N (K×TF)}:∀{l:N (K×TF)}{i:K}{k:Jn l->N K->V R},(∀j a,l[j]? =Z a->ds[i+j]? =Z a)->gat cx σ ds l k=Z r->∃x os,k x os=Z r/\(∀a∈l,∀j,CU a.2=Z j->j<X ds)/\
 (∀(P:jP) vs env S w,(∀t,Lk P vs env S w cx σ t)->zE S (dsF (UQ cx σ ds vs env) env l x i) w)/\
 (∀(P:jP) vs (fr:Fr) env (Γ:N FF) w,(∀S w,zE S Γ w->∀t,Lk P vs env S w cx σ t)->St fr.we fr.Se (OS vs fr cx σ.ob) Γ w->St fr.we fr.Se (Qy (UQ cx σ ds vs env) l x i++OS vs fr cx (vI σ.ob os)) Γ w)
 |[],i,k,_,h=>⟨(),[],h,λ_ h=>wS h H1,λ_ _ _ _ _ _=>wR,λ_ _ _ _ _ _ _ h=>h⟩
 |[a],i,k,hd,h=>by
  have⟨x,os,h1,h0,g,m⟩:=Mb (h:dZ cx σ ds a.1 a.2 k=Z r);have f:ds[i]? =Z (a.1,a.2):=hd 0 a O;refine⟨x,os,h1,λb z j e=> ?_,λP vs env S w hl=>⟨?_,wR⟩,λP vs fr env Γ w hl n=> ?_⟩
  ·simp_all
  ·rw[Cn f];exact g P vs env S w hl
  ·have:=m P vs fr env [] Γ w [] (λS w d=>hl S w d a.1) (λ_ _=>O) n;rw[xbB]at this;show St _ _ (tfM a.2 x (UQ cx σ ds vs env i)++_) _ _;rw[Cn f];exact this
 |a::b::l,i,k,hd,h=>by
  have⟨x,o,h1,h0,g,m⟩:=Mb (h:dZ cx σ ds a.1 a.2 _=Z r);have⟨y,os,p,q,s,u⟩:=zlH (l:=b::l) (i:=i+1) (λj c v=>by
   have:=hd (j+1) c (by simpa using v);rw[(W:i+1+j=i+(j+1))];exact this) h1
  have⟨hn,p⟩:=z6 p;have f:ds[i]? =Z (a.1,a.2):=hd 0 a O;refine⟨(x,y),o++os,p,λc hc j e=> ?_,λP vs env S w hl=>⟨?_,s P vs env S w hl⟩,λP vs fr env Γ w hl n=> ?_⟩
  ·obtain rfl|hc:=xag.1 hc
   ·exact h0 j e
   ·exact q c hc j e
  ·rw[Cn f];exact g P vs env S w hl
  ·have:=m P vs fr env (Qy (UQ cx σ ds vs env) (b::l) y<|i+1) Γ w os (λS w d=>hl S w d a.1) (MG hn)<|u P vs fr env Γ w hl n;show St _ _ ((tfM a.2 x (UQ cx σ ds vs env i)++Qy (UQ cx σ ds vs env) (b::l) y (i+1))++_) _ _;rw[Cn f,xao];exact this
def nvs(vs:K->wN)(U:K->wN)(n:K):K->wN:=λk=>if k<n then vs k else U (k-n)
theorem Td{n0:K}:∀{l:N (K×TF)}{x:Jn l}{o:K},∀e∈(lV n0 l x o).2,o<=e.1/\e.1<o+X l
 |[],_,_,e,a=>wS a H1
 |[(t,f)],x,o,e,a=>by
  cases f<;>simp only[lV]at a<;>first|exact wS a H1|(obtain rfl:=xad.1 a;exact⟨IR _,xdj _⟩)
 |(t,f)::b::l,x,o,e,a=>by
  have c:∀e∈(lV n0 (b::l) x.2<|o+1).2,o<=e.1/\e.1<o+X ((t,f)::b::l):=λe a=>by
   have:=Td e a;grind
  cases f<;>simp only[lV]at a<;>first
   |exact c e a
   |exact(xag.1 a).elim (λa=>by subst a;exact⟨IR _,by simp only[xaw];lia⟩)<|λa=>c e a
def SD{n0 o p n:K}{f:TF}{x:f.D}(hn:∀j,CU f=Z j->j<n)(h:vn (GH n0 o f x).1=Z p):p=o\/p<n0+n:=by
 cases f<;>simp only[GH,vn,xat,Ws]at h
 ·lia
 ·lia
 ·lia
 ·lia
 ·next j=>have:=hn j O;exact .inr W
 ·next j=>have:=hn j O;exact .inr W
 ·lia
 ·lia
def NY{n0 n:K}:∀{l:N (K×TF)}{x:Jn l}{o:K},(∀a∈l,∀j,CU a.2=Z j->j<n)->∀e∈(lV n0 l x o).1,∀p,vn e.2.2=Z p->p<o+X l\/p<n0+n
 |[],_,_,_,e,he=>wS he H1
 |[(t,f)],x,o,hn,e,he=>by
  intro p hp;obtain rfl:=xad.1 (show e∈[(t,0,(GH n0 o f x).1)]from he);rcases SD (hn _<|FS) hp with rfl|h
  ·simp_all
  ·lia
 |(t,f)::b::l,x,o,hn,e,he=>by
  intro p hp;have he:e=(t,0,(GH n0 o f x.1).1)\/e∈(lV n0 (b::l) x.2<|o+1).1:=xag.1 he;obtain rfl|he:=he
  ·rcases SD (hn _<|FS) hp with rfl|h
   ·simp_all
   ·lia
  ·rcases NY (λa c=>hn a<|UV _ c) e he p hp with h|h
   ·simp only[xaw]at h⊢;exact .inl W
   ·exact .inr h
theorem NT{U:K->wN}{n0:K}:∀{l:N (K×TF)}{x:Jn l}{o i:K},(∀j,j<X l->vs (o+j)=U (i+j))->MS vs (lV n0 l x o).2=Qy U l x i
 |[],_,_,_,_=>rfl
 |[(t,f)],x,o,i,h=>by
  have h0:vs o=U i:=h 0 iP;cases f<;>simp only[lV,GH,MS,xbU,xer,Ki,Qy,tfM,h0]<;>rfl
 |(t,f)::b::l,x,o,i,h=>by
  have h0:vs o=U i:=h 0 iP;have a:MS vs (lV n0 (b::l) x.2<|o+1).2=Qy U (b::l) x.2 (i+1):=NT λj c=>by
   have:=h (j+1) (by simpa using c);grind
  unfold MS at a;cases f<;>simp only[lV,GH,MS,xbU,Ki,Qy,h0,a]<;>rfl
def H9{U:K->wN}{n0 n:K}{f:TF}{x:f.D}{o t:K}{u:wN}{S:K->Prop}(hv:vs o=u)(hn:∀j,CU f=Z j->j<n)(a:∀j,j<n->vs (n0+j)=U j)(h:(tfF f x U u<|env t).p S w):(vX P vs (GH n0 o f x).1 (env t) 0).p S w:=by
 subst hv;cases f
 ·exact h
 ·exact h
 ·exact h
 ·have⟨h1,b,c⟩:=h;exact⟨h1,b,h1.symm.trans c⟩
 ·exact h
 ·exact h
 ·next j=>
  show zna (vs<|n0+j) x=Z (env t);rw[a j<|hn j O];exact h
 ·next j=>
  show SU (yC<|vs<|n0+j) x.1 x.2 (env t);rw[a j<|hn j O];exact h
 ·exact h
 ·exact h
def zbc{U:K->wN}{n0 n:K}(d:∀j,j<n->vs (n0+j)=U j):∀{l:N (K×TF)}{x:Jn l}{o i:K}{S:K->Prop},(∀a∈l,∀j,CU a.2=Z j->j<n)->(∀j,j<X l->vs (o+j)=U (i+j))->zE S (dsF U env l x i) w->zE S (RS P vs env (lV n0 l x o).1) w
 |[],_,_,_,_,_,_,_=>trivial
 |[(t,f)],x,o,i,S,hn,h,c=>⟨H9 (h 0 iP) (hn _<|FS) d c.1,wR⟩
 |(t,f)::b::l,x,o,i,S,hn,h,c=>⟨H9 (h 0 iP) (hn _<|FS) d c.1,zbc d (λa e=>hn a<|UV _ e) (λj g=>by
  have:=h (j+1) (by simpa using g);rw[(W:o+1+j=o+(j+1)),(W:i+1+j=i+(j+1))];exact this) c.2⟩
theorem zin:∀{ns:N (K×NF)},zi2 cx σ ns=I->∀t f,(t,f)∈ns->(match f,get cx σ t 0 with
 |.kb b,Z (.kb c)=>b==c
 |.nil,Z .nil=>I
 |.ci x,Z (.d .i y)=>eqI x y
 |.cu x,Z (.d .u y)=>eqU x y
 |.al s,Z (.ow o)=>(match get cx σ s 0 with
  |some (.ow a)=>F o a
  |_=>wL)
 |.al s,Z (.vs o _)=>(match get cx σ s 0 with
  |some (.vs a _)=>F o a
  |_=>wL)
 |.al s,Z (.mw o)=>(match get cx σ s 0 with
  |some (.mw a)=>F o a
  |_=>wL)
 |.bm s f,Z (.bm f' o _)=>(match get cx σ s 0 with
  |some (.vs a _)=>F o a && F f f'
  |_=>wL)
 |_,_=>wL)=I
 |(e,f')::r,h,t,f,hm=>by
  unfold zi2 at h;rw[xab]at h;obtain g|hm:=xag.1 hm
  ·grind
  ·exact zin h.2 t f hm
def zbN{rg:N (K×K×Dv)}{S:K->Prop}(a:zE S (RS P vs env rg) w):∀{ns:N (K×NF)},(∀t f,(t,f)∈ns->match f with
 |.kb b=>env t=.bool b
 |.nil=>env t=.slice wF 0 0
 |.ci x=>(fV eI x<|env t).p S w
 |.cu x=>(fV eU x<|env t).p S w
 |.al s=>env t=env s
 |.bm s f=>env t=.func (.func f) #[env s] #[])->zE S (RS P vs env (Mw rg ns)) w
 |[],_=>a
 |(t,f)::r,h=>by
  have c:=zbN a (ns:=r) λt f d=>h t f<|UV _ d;have h0:=h t f<|FS;unfold Mw;show zE S (RS P vs env<|_++_) w;rw[show RS P vs env (_++Mw rg r)=RS P vs env _++RS P vs env (Mw rg r)from xba];refine zE.append ?_ c;cases f
  ·exact⟨h0,wR⟩
  ·exact⟨h0,wR⟩
  ·exact⟨h0,wR⟩
  ·exact⟨h0,wR⟩
  ·next s=>
   simp only;split
   ·next v hv=>
    have:=UB a<|gM hv;have h0:env t=env s:=h0;refine⟨?_,wR⟩;simp_all
   ·trivial
  ·next s f=>
   simp only;split
   ·next o q hv=>
    have⟨h1,e⟩:=UB a<|gM hv;have h0:env t=.func (.func f) #[env s] #[]:=h0;exact⟨⟨by rw[h0,h1],e⟩,wR⟩
   ·trivial
def Ri{rg:N (K×K×Dv)}{n:K}(a:∀e∈rg,∀p,vn e.2.2=Z p->p<n):∀{ns:N (K×NF)},∀e∈Mw rg ns,∀p,vn e.2.2=Z p->p<n
 |[],e,he=>a e he
 |(t,f)::r,e,he=>by
  intro p hp;unfold Mw at he;obtain he|he:=So.1 he
  ·cases f
   ·obtain rfl:=xad.1 he;cases hp
   ·obtain rfl:=xad.1 he;cases hp
   ·obtain rfl:=xad.1 he;cases hp
   ·obtain rfl:=xad.1 he;cases hp
   ·simp only at he;split at he
    ·next v hv=>
     obtain rfl:=xad.1 he;exact a _ (gM hv) p hp
    ·simp_all
   ·simp only at he;split at he
    ·next o q hv=>
     obtain rfl:=xad.1 he;cases hp;exact a _ (gM hv) _ O
    ·exact wS he H1
  ·exact Ri a e he p hp
def uV:∀(l:N (K×TF)) {σ:Sg},Z1 P fr cx σ env w->Z1 P fr cx (zhP cx σ l) env w
 |[],_,h=>h
 |(t,.d _)::r,_,h=>uV r<|NC _ h
 |(t,.q _)::r,_,h=>uV r h
 |(t,.own _ _)::r,_,h=>uV r h
 |(t,.var _ _)::r,_,h=>uV r h
 |(t,.mat _ _ _)::r,_,h=>uV r h
 |(t,.matv _ _ _)::r,_,h=>uV r h
 |(t,.row _)::r,_,h=>uV r h
 |(t,.view _)::r,_,h=>uV r h
 |(t,.bo _ _ _)::r,_,h=>uV r h
 |(t,.vr _ _ _ _ _ _)::r,_,h=>uV r h
end
end
section
section
variable{P:jP}{cf:Cf}{fr:Fr}{cx kp σ:Sg}{vs vs':wr->wN}{env env0:y4}{w:wP}{R:Type}{r:R}{N:Nd}{Q:Qs}
def dM{a b:xS (K×K×Dv)}:RS P vs env (a++b)=RS P vs env a++RS P vs env b:=xba
def mg{sh:Sh}{k:Jn sh.ds->V R}(h:aG (qW cx kp) sh σ k=Z r)(z:Bd cx kp):∃x,k x=Z r/\∀(fr:Fr) env w,Z1 P fr (qW cx kp) σ env w->Z1 P fr cx (Kh sh x kp) env w:=by
 unfold aG at h;simp only at h;have⟨K,h⟩:=z6 h;have⟨x,os,h1,h0,L,u⟩:=zlH (ds:=sh.ds) (i:=0) (λj a D=>by rw[xaJ];exact D) h;refine⟨x,h1,λfr env w M=> ?_⟩;have T:=uV sh.ds M;generalize zhP (qW cx kp) σ sh.ds=g at*
 have⟨hB,vs,Y⟩:=T;have hf:=u P vs fr env (GS P vs env fr (qW cx kp) g) w (λS w q=>X6 q) Y;have hi:=St.dropM hf;generalize hu:UQ (qW cx kp) g sh.ds vs env=U at*
 have hc:∀o,o<kp.nx->nvs vs U kp.nx o=vs o:=λo ho=>iq ho;have hd:∀j,j<X sh.ds->nvs vs U kp.nx (kp.nx+j)=U (0+j):=λj D=>by
  unfold nvs;rw[zA,(W:kp.nx+j-kp.nx=j),xaJ]
 have hv:=λe he=>Td (n0:=kp.nx) (l:=sh.ds) (x:=x) (o:=kp.nx) e he;have E:∀e∈(lV kp.nx sh.ds x kp.nx).1,∀p,vn e.2.2=Z p->p<kp.nx+X sh.ds:=λe he p hp=>by
  rcases NY (n0:=kp.nx) (n:=X sh.ds) (l:=sh.ds) (x:=x) (o:=kp.nx) h0 e he p hp with h|h<;>exact h
 refine⟨⟨λe he=> ?_,λe he=> ?_,λe he p hp=> ?_,λe he p hp=> ?_⟩,nvs vs U kp.nx,?_⟩
 ·obtain he|he:=So.1 he
  ·exact(hv e he).2
  ·exact xaj (z.o1 e he)<|xbw _ _
 ·exact xaj (z.o2 e he)<|xbw _ _
 ·obtain he|he:=So.1 he
  ·obtain he|he:=So.1 he
   ·exact Ri (λe he p hp=>E e he p hp) e he p hp
   ·exact E e he p hp
  ·exact xaj (z.r1 e he p hp)<|xbw _ _
 ·exact xaj (z.r2 e he p hp)<|xbw _ _
 ·have e1:OS (nvs vs U kp.nx) fr cx ((lV kp.nx sh.ds x kp.nx).2++kp.ob)=Qy U sh.ds x 0++(MS vs (kp.ob++cx.ob)++fr.F):=by
   show MS _ (_++kp.ob)++(MS _ cx.ob++_)=_
   rw[show MS (nvs vs U kp.nx) ((lV kp.nx sh.ds x kp.nx).2++kp.ob)=MS _ _++MS _ _ from xba,NT hd,wx λe he=>hc _<|z.o1 e he,wx (ob:=cx.ob) λe he=>hc _<|z.o2 e he,
    show MS vs (kp.ob++cx.ob)=MS _ _++MS _ _ from xba,xao,xao]
  show St _ _ (OS (nvs vs U kp.nx) fr cx<|(lV kp.nx sh.ds x kp.nx).2++kp.ob) _ _;rw[e1];refine hi.weak λS w q=> ?_;have hl:∀t,Lk P vs env S w (qW cx kp) g t:=X6 q;have H:zE S (RS P (nvs vs U kp.nx) env (lV kp.nx sh.ds x kp.nx).1) w:=zbc (U:=U) (n:=X sh.ds) (λj D=>by rw[hd j D,xaJ]) h0 hd (by rw[<-hu];exact L P vs env S w hl);have J:zE S (RS P vs env kp.rg++RS P vs env cx.rg) w:=by
   have:=zE.left<|zE.right q;rwa[show RS P vs env (qW cx kp).rg=RS P vs env kp.rg++RS P vs env cx.rg from xba]at this
  have hn:=zbN H (ns:=sh.ns) λt f hm=>by
   have d:=zin K t f hm;cases f
   ·split at d<;>simp_all
    next b c u=>exact hl t 0 _ u
   ·split at d<;>simp_all
    next u=>exact hl t 0 _ u
   ·split at d<;>simp_all
    next a b u=>
    have:=hl t 0 _ u;simp only[eqI,Qr]at d;rw[d];exact this
   ·split at d<;>simp_all
    next a b u=>
    have:=hl t 0 _ u;simp only[eqU,Qr]at d;rw[d];exact this
   ·next s=>
    cases y:get (qW cx kp) g t 0 with
    |none=>rw[y]at d;cases d
    |some v=>
     rw[y]at d;cases v<;>simp only[xar]at d
     ·next o=>
      cases m:get (qW cx kp) g s 0 with
      |none=>rw[m]at d;cases d
      |some A=>
       rw[m]at d;cases A<;>simp only[xar]at d;have B:env t=vs o:=hl t 0 _ y;have C:=hl s 0 _ m;have:=zY d;subst this;exact B.trans (show env s=_ from C).symm
     ·next o _=>
      cases m:get (qW cx kp) g s 0 with
      |none=>rw[m]at d;cases d
      |some A=>
       rw[m]at d;cases A<;>simp only[xar]at d;have B:env t=vs o:=(hl t 0 _ y).1;have C:=(hl s 0 _ m).1;have:=zY d;subst this;exact B.trans C.symm
     ·next o=>
      cases m:get (qW cx kp) g s 0 with
      |none=>rw[m]at d;cases d
      |some A=>
       rw[m]at d;cases A<;>simp only[xar]at d;have B:env t=yC (vs o):=hl t 0 _ y;have C:=hl s 0 _ m;have:=zY d;subst this;exact B.trans (show env s=_ from C).symm
   ·next s f=>
    cases y:get (qW cx kp) g t 0 with
    |none=>rw[y]at d;cases d
    |some v=>
     rw[y]at d;cases v<;>simp only[xar]at d
     next f' o _=>
     cases m:get (qW cx kp) g s 0 with
     |none=>rw[m]at d;cases d
     |some A=>
      rw[m]at d;cases A<;>simp only[xar]at d;rw[xab]at d;have B:=(hl t 0 _ y).1;have C:=(hl s 0 _ m).1;have e1:=zY d.1;have e2:=zY d.2;subst e1;subst e2;show env t=.func (.func f) #[env s] #[];rw[C];exact B
  show zE S (RS P _ env ((Mw (lV kp.nx sh.ds x kp.nx).1 sh.ns++(lV kp.nx sh.ds x kp.nx).1)++kp.rg)++(RS P _ env cx.rg++fr.G)) w;refine zE.append ?_<|zE.append ?_<|zE.right<|zE.right q
  ·rw[dM,dM];refine zE.append (zE.append hn H) ?_;rw[qJ (λe he p hp=>hc _<|z.r1 e he p hp)<|λ_ _=>O];exact zE.left J
  ·rw[qJ (λe he p hp=>hc _<|z.r2 e he p hp)<|λ_ _=>O];exact zE.right J
def zfs{a t:Tg}(hp:∀q,t≠ .p q)(h:Tn a t=I):a=t:=by
 cases a<;>cases t<;>first|rfl|cases h|skip
 ·rw[zY (show F _ _=I from h)]
 ·simp_all
def zlN{t:Tg}(e:Bd cx kp){a:Tg×Sh}{k:zav a->V R}(b:Tn a.1 t=I)(h:zl2 (qW cx kp) σ t a k=Z r):∃(y:zav a) (d:Sg),k y=Z r/\(∀{f:Type} (K:Tg->Sg->V f),zhb kp K a y=K t d)/\∀(fr:Fr) env w,Z1 P fr (qW cx kp) σ env w->Z1 P fr cx d env w:=by
 obtain⟨τ,sh⟩:=a
 cases τ with
 |p q0=>
  cases t with
  |p q=>
   obtain⟨x,h1,c⟩:=mg (show aG (qW cx kp) sh σ (λx=>k (q,x))=Z r from h) e;exact⟨(q,x),_,h1,λK=>O,c⟩
  |n=>cases b
  |x i=>cases b
  |r=>cases b
 |n=>
  obtain⟨x,h1,c⟩:=mg (show aG (qW cx kp) sh σ k=Z r from h) e
  cases t with
  |n=>exact⟨x,_,h1,λK=>O,c⟩
  |_=>cases b
 |x i=>
  obtain⟨x,h1,c⟩:=mg (show aG (qW cx kp) sh σ k=Z r from h) e
  cases t with
  |x j=>
   obtain rfl:i=j:=zY b;exact⟨x,_,h1,λK=>O,c⟩
  |_=>cases b
 |r=>
  obtain⟨x,h1,c⟩:=mg (show aG (qW cx kp) sh σ k=Z r from h) e
  cases t with
  |r=>exact⟨x,_,h1,λK=>O,c⟩
  |_=>cases b
def Sx{t:Tg}(g:Bd cx kp):∀{l:xS (Tg×Sh)}{k:SmD l->V R},zgE (qW cx kp) σ t l k=Z r->∃(y:SmD l) (c:Sg),k y=Z r/\(∀{i:Type} (K:Tg->Sg->V i),Rp kp K l y=K t c)/\∀(fr:Fr) env w,Z1 P fr (qW cx kp) σ env w->Z1 P fr cx c env w
 |[],k,h=>by cases h
 |[a],k,h=>by
  obtain⟨f,h⟩:=z6 h;obtain⟨y,c,h1,d,e⟩:=zlN g f h;exact⟨y,c,h1,λK=>d K,e⟩
 |a::b::l,k,h=>by
  unfold zgE at h;cases f:Tn a.1 t<;>rw[f]at h
  ·obtain⟨y,c,h1,d,e⟩:=Sx g h;exact⟨.inr y,c,h1,λK=>d K,e⟩
  ·obtain⟨y,c,h1,d,e⟩:=zlN g f h;exact⟨.inl y,c,h1,λK=>d K,e⟩
abbrev Qd:=bV->xS K->y4->wP->Prop
def qy(D:K):MF where
 blk k:=k=D
 p _ w:=w.heap[D]? =Z (.deferred<|some [])
 keep h _ a:=(a D O).trans h
 sub h _:=h
 lt h k b:=by subst b;exact(xbh.1 h).1
def mkD(D:K):Deferred:={target:=.collected D,args:= #[]}
def Nd.wd(N:Nd)(Ds:xS K):Nd:=⟨N.n,Ds.map mkD++N.ds,N.rd⟩
def Fr.wd(fr:Fr)(Ds:xS K):Fr:=⟨fr.we,fr.Se,Ds.map qy++fr.F,fr.G⟩
def zls(N:Nd)(Q:Qd):bV->V6->wP->Prop:=λe a w=>a.tmps.size=N.n/\∃Ds:xS K,a.defers=Ds.map mkD++N.ds/\Q e Ds (yR a) w
def LG(P:jP)(N:Nd)(c:Wn)(Q:Qd)(Ds:xS K)(env:y4)(w:wP):Prop:=
 ∀a:V6,a.tmps.size=N.n->a.defers=Ds.map mkD++N.ds->yR a=env->c.wpIn N.F 0 P (zls N Q) a w
section
variable{N:Nd}{Q Q':Qd}{Ds:xS wr}
def znL{c:Wn}(h:Wp P (N.wd Ds) c (λe env w=>Q e Ds env w) env w):LG P N c Q Ds env w:=λa h1 b d=>V2 (h a h1 b d) λe g w' ⟨q1,q2,f⟩=>⟨q1,Ds,q2,f⟩
def zlD(K:xS wr->y4->wP->Prop)(Q:Qd):Qd
 |.normal,Ds,env,w=>K Ds env w
 |e,Ds,env,w=>Q e Ds env w
def ND(id:K)(Q:Qd):Qd
 |.exit a,Ds,env,w=>bif F a id then Q .normal Ds env w else Q (.exit a) Ds env w
 |e,Ds,env,w=>Q e Ds env w
def zpS(Q:Qd):Qd
 |.goto _,_,_,_=>V3
 |e,Ds,env,w=>Q e Ds env w
def BP{x y:Wn}(h:LG P N x (zlD (LG P N y Q) Q) Ds env w):LG P N (.seq x y) Q Ds env w:=by
 intro a h1 d f;refine wpIn_seq<|V2 (h a h1 d f) ?_;intro e g w' ⟨q1,b,q2,c⟩;cases e<;>first|exact c g q1 q2 O|exact⟨q1,b,q2,c⟩
def zgX{c:Wn}(h:LG P N c Q Ds env w)(d:∀e Ds env w,Q e Ds env w->Q' e Ds env w):LG P N c Q' Ds env w:=
 λa h1 f g=>V2 (h a h1 f g) λe j w' ⟨q1,b,q2,i⟩=>⟨q1,b,q2,d e _ _ _ i⟩
def HO{id:K}{c:Wn}(h:LG P N c (ND id Q) Ds env w):LG P N (.block id c) Q Ds env w:=by
 intro a h1 g j;refine wpIn_block<|V2 (h a h1 g j) ?_;intro e k w' ⟨q1,b,q2,d⟩
 cases e with
 |exit i=>
  simp only[ND]at d;simp only[Exit.inBlock];cases f:F i id
  ·rw[f]at d;rw[ir<|λe=>by subst e;simp at f];exact⟨q1,b,q2,d⟩
  ·rw[f]at d;rw[iq<|xdt f];exact⟨q1,b,q2,d⟩
 |_=>exact⟨q1,b,q2,d⟩
def zdR{c:Wn}(h:LG P N c (zpS Q) Ds env w):LG P N (.scope c) Q Ds env w:=by
 intro a h1 f g;refine TU<|V2 (h a h1 f g) ?_;intro e i w' ⟨q1,b,q2,d⟩;cases e<;>first|exact⟨q1,b,q2,d⟩|exact d.elim
def PW{c:Wn}{G:Type}(q:G->xS K->y4->wP->Prop)(j:G->K)(d:G)(f:q d Ds env w)(round:∀g Ds env w,q g Ds env w->LG P N c (zlD (λb h w'=>∃i,q i b h w'/\j i<j g) Q) Ds env w):LG P N (.loop c) Q Ds env w:=by
 intro a h1 k m;refine zbe (λg a w=>a.tmps.size=N.n/\∃Ds:xS K,a.defers=Ds.map mkD++N.ds/\q g Ds (yR a) w) j d ⟨h1,Ds,k,m▸f⟩ ?_;intro g a w ⟨h1,Ds,k,o⟩;refine V2 (round g Ds (yR a) w o a h1 k O) ?_;intro e p w' ⟨q1,b,q2,l⟩
 cases e with
 |normal=>have⟨i,o1,o2⟩:=l;exact⟨i,⟨q1,b,q2,o1⟩,o2⟩
 |_=>exact⟨q1,b,q2,l⟩
def DC{c:wW}{x y:Wn}(hc:ev env c=.bool I)(h:LG P N x Q Ds env w):LG P N (.cond c x y) Q Ds env w:=
 λa h1 d b=>wpIn_cond_true (by rw[a7,b];exact hc)<|h a h1 d b
def Dc{c:wW}{x y:Wn}(hc:ev env c=.bool wL)(h:LG P N y Q Ds env w):LG P N (.cond c x y) Q Ds env w:=
 λa h1 d b=>wpIn_cond_false (by rw[a7,b];exact hc)<|h a h1 d b
end
def HN{α:Type _}(p:α->v6):∀l:xS α,l.Perm ((l.filter λa=> !p a)++l.filter p)
 |[]=>xdr _
 |a::l=>by
  have b:=HN p l;rw[xfF,xfF];cases hp:p a
  ·simpa using b.cons a
  ·simp only[xeL,xar,uS,uP];exact(b.cons a).trans xcg.symm
def FA{ag ro:xS K}(h:Z1 P fr cx σ env w):Bd cx (keep σ ag ro)/\Z1 P fr (qW cx<|keep σ ag ro) (rest σ ag ro) env w:=by
 have⟨a,vs,c⟩:=h;have b:Bd cx (keep σ ag ro):=⟨λe he=>a.o1 e (xbY.1 he).1,a.o2,λe he=>a.r1 e (xbY.1 he).1,a.r2⟩;refine⟨b,⟨λe he=>a.o1 e (xbY.1 he).1,λe he=> ?_,λe he=>a.r1 e (xbY.1 he).1,λe he=> ?_⟩,vs,?_⟩
 ·obtain he|he:=So.1 he
  ·exact b.o1 e he
  ·exact b.o2 e he
 ·obtain he|he:=So.1 he
  ·exact b.r1 e he
  ·exact b.r2 e he
 ·have hp:(OS vs fr cx σ.ob).Perm (OS vs fr (qW cx<|keep σ ag ro) (rest σ ag ro).ob):=by
   show List.Perm (MS vs σ.ob++(MS vs cx.ob++fr.F)) (MS vs (rest σ ag ro).ob++(MS vs ((keep σ ag ro).ob++cx.ob)++fr.F));have e:MS vs (rest σ ag ro).ob++(MS vs ((keep σ ag ro).ob++cx.ob)++fr.F)=(MS vs (rest σ ag ro).ob++MS vs (keep σ ag ro).ob)++(MS vs cx.ob++fr.F):=by
    rw[show MS vs ((keep σ ag ro).ob++cx.ob)=MS _ _++MS _ _ from xba];simp_all
   rw[e];refine xeC _ ?_;have:=(HN (λe:K×Od=>bZ (IH σ ro) e.1) σ.ob).map<|Ki vs;rw[xba]at this;exact this
  refine(St.perm c hp).sub' ?_;intro f hf;obtain hf|hf:=So.1 hf
  ·obtain⟨e,he,rfl⟩:=xap.1 hf;exact So.2 (.inl<|xap.2 ⟨e,(xbY.1 he).1,O⟩)
  ·obtain hf|hf:=So.1 hf
   ·obtain⟨e,he,rfl⟩:=xap.1 hf;obtain he|he:=So.1 he
    ·exact So.2 (.inl<|xap.2 ⟨e,(xbY.1 he).1,O⟩)
    ·exact So.2 (.inr<|So.2 (.inl<|xap.2 ⟨e,he,O⟩))
   ·exact So.2 (.inr<|So.2 (.inr hf))
end
end
section
def cW(l:K)(r:eM):MF where
 blk k:=k=l
 p _ w:=w.heap[l]? =Z (.loop r)
 keep h _ a:=(a l O).trans h
 sub h _:=h
 lt h k b:=by subst b;exact(xbh.1 h).1
def mFF(Γ:N FF):MF where
 blk _:=V3
 p S w:=zE S Γ w
 keep h k _:=zE.keep k h
 sub h k:=zE.sub k h
 lt _ _ a:=a.elim
section
variable{we:wP}{Se:wr->Prop}{ms:xS MF}{Γ Δ:xS FF}{w:wP}
theorem St.ffIn(h:St we Se ms (Δ++Γ) w):St we Se (mFF Δ::ms) Γ w:=by
 have⟨h1,c,d,S,e,f,i,g,b⟩:=h;refine⟨h1,c,⟨λk a=>a.elim,d⟩,S,e,f,λm hm k a=> ?_,⟨zE.left b,g⟩,zE.right b⟩;obtain rfl|hm:=xag.1 hm
 ·exact a.elim
 ·grind
def St.ffOut(h:St we Se (mFF Δ::ms) Γ w):St we Se ms (Δ++Γ) w:=by
 have⟨h1,b,c,S,d,e,f,a,g⟩:=h;exact⟨h1,b,c.2,S,d,e,λm i=>f m<|UV _ i,a.2,zE.append a.1 g⟩
theorem St.putObj{l:K}{m m':MF}{o:Obj}(h:St we Se (m::ms) Γ w)(b:∀k,m.blk k↔k=l)(n:∀k,m'.blk k->k=l)(hp:∀S w',w'.heap[l]? =Z o->m'.p S w'):St we Se (m'::ms) Γ (w.putObj l o):=by
 have⟨h1,q,d,S,r,s,t,i,u⟩:=h;have hl:=t m (FS) l<|(b l).2 O;have v:=yT.lt i m (FS) l<|(b l).2 O;have hd:(w.putObj l o).heap.size=w.heap.size:=World.putObj_size;have f:∀k,k≠l->(w.putObj l o).heap[k]? =w.heap[k]? :=λk a=>World.putObj_heap_other a;have a:yv S w (w.putObj l o):=⟨O,O,O,Nat.le_of_eq hd.symm,λk _ g=>f k λe=>hl.1<|e▸g⟩;have x:J4 we (w.putObj l o):=⟨h1.os,h1.tape,h1.output,xae h1.size<|Nat.le_of_eq hd.symm,λk a g=>(f k λe=>by lia).trans<|h1.block k a g⟩;refine⟨x,q,⟨λk a c hc=>d.1 k ((b k).2<|n k a) c hc,d.2⟩,S,r,λk a=>s k (by rw[hd]at a;exact a),λc hc k j=> ?_,⟨hp S _<|World.putObj_heap_same v,yT.keep a (λc hc k j=>f k λe=> ?_) i.2⟩,zE.keep a u⟩
 ·grind
 ·subst e;exact d.1 k ((b k).2 O) c hc j
theorem St.allocObj{o:Obj}{m:MF}(h:St we Se ms Γ w)(f:∀k,m.blk k->k=w.heap.size)(hp:∀S w',w'.heap[w.heap.size]? =Z o->m.p S w'):St we Se (m::ms) Γ (w.alloc o):=by
 have⟨h1,j,l,S,n,q,g,i,r⟩:=h;have s:(w.alloc o).heap.size=w.heap.size+1:=World.size_alloc ..;have wV:∀k,k<w.heap.size->(w.alloc o).heap[k]? =w.heap[k]? :=λk a=>by
  show(w.heap.push o)[k]? =_;grind
 have hd:(w.alloc o).heap[w.heap.size]? =Z o:=World.alloc_heap_new w o;let e:K->Prop:=λk=>S k/\k≠w.heap.size
 have a:yv e w (w.alloc o):=⟨O,O,O,W,λk a _=>wV k a⟩;have hc:∀k,k<w.heap.size->S k->e k:=λk a b=>⟨b,W⟩;refine⟨⟨h1.os,h1.tape,h1.output,by have:=h1.size;lia,λk a b=>(wV k<|xaj a h1.size).trans<|h1.block k a b⟩,j,⟨λk a d hm2 c=> ?_,l⟩,e,λk a=>n k a.1,λk a=>⟨q k W,W⟩,λd hm2 k c=> ?_,⟨hp _ _ hd,yT.keep a (λd hm2 k c=>wV k<|yT.lt i d hm2 k c)<|yT.sub hc i⟩,zE.keep a<|zE.sub hc r⟩
 ·grind
 ·obtain rfl|hm2:=xag.1 hm2
  ·exact⟨λb=>b.2<|f k c,by have:=f k c;have:=h1.size;lia⟩
  ·exact⟨λb=>(g d hm2 k c).1 b.1,(g d hm2 k c).2⟩
end
section
variable{P:jP}{cf:Cf}{fr:Fr}{cx kp σ:Sg}{vs vs':wr->wN}{env env':y4}{w:wP}
def MH{cx σ:Sg}(h:Bd cx σ):Bd (qW cx σ) ⟨σ.nx,[],[]⟩where
 o1:=λ_ he=>wS he H1
 o2:=λe he=>by
  obtain he|he:=So.1 he
  ·exact h.o1 e he
  ·exact h.o2 e he
 r1:=λ_ he=>wS he H1
 r2:=λe he=>by
  obtain he|he:=So.1 he
  ·exact h.r1 e he
  ·exact h.r2 e he
def tL(f:TF)(v u:wN):Prop:=match f with
 |.own _ _=>v=u
 |.var _ _=>v=u/\∃b,v=.pointer (Z ⟨b,0,wF⟩)
 |.mat _ _ _=>v=yC u
 |.bo _ _ _=>v=yC u
 |_=>V3
def KA(ds:N (K×TF))(env:y4)(U:K->wN):Prop:=∀(j t:K) (f:TF),ds[j]? =Z (t,f)->tL f (env t) (U j)
def LN:∀{ds:N (K×TF)},cU ds=I->∀(j t:K) (f:TF),ds[j]? =Z (t,f)->(∃s E,f=.own s E)\/(∃s E,f=.var s E)\/(∃s E F,f=.mat s E F)\/(∃s E F,f=.bo s E F)
 |[],_,j,t,f,h=>by simp at h
 |(b,f')::ds,a,0,t,f,h=>by
  simp only[xbZ,xat,xdd]at h;obtain⟨rfl,rfl⟩:=h;cases f'<;>simp only[cU,xar]at a
  ·simp_all
  ·simp_all
  ·simp_all
  ·simp_all
 |(b,f')::ds,a,j+1,t,f,h=>by
  refine LN (ds:=ds) ?_ j t f (by simpa using h);cases f'<;>simp only[cU,xar]at a<;>exact a
def RB{ds:N (K×TF)}(b:cU ds=I):∀a∈ds,∀j,CU a.2=Z j->j<X ds:=λa c j e=>by
 have⟨i,hi⟩:=xfw.1 c;rcases LN b i a.1 a.2 hi with⟨_,_,h⟩|⟨_,_,h⟩|⟨_,_,_,h⟩|⟨_,_,_,h⟩<;>rw[h]at e<;>cases e
def zcu{U:K->wN}{S:K->Prop}:∀{ds:N (K×TF)}{x:Jn ds}{i:K},(∀(j t:K) (f:TF),ds[j]? =Z (t,f)->tL f (env t) (U<|i+j))->zE S (dsF U env ds x i) w
 |[],_,_,_=>trivial
 |[(t,f)],x,i,h=>by
  have h0:=h 0 t f O;refine⟨?_,wR⟩;cases f<;>first|exact h0|exact h0.elim
 |(t,f)::b::l,x,i,h=>by
  have h0:=h 0 t f O;refine⟨?_,zcu λj t f a=>by
   have:=h (j+1) t f (by simpa using a);rw[(W:i+1+j=i+(j+1))];exact this⟩
  cases f<;>first|exact h0|exact h0.elim
def zfp{n0:K}:∀{ds:N (K×TF)}{x:Jn ds}{o j t:K}{f:TF},ds[j]? =Z (t,f)->∃y:f.D,(t,0,(GH n0 (o+j) f y).1)∈(lV n0 ds x o).1
 |[],_,_,_,_,_,h=>by simp at h
 |[(a,f')],x,o,0,t,f,h=>by
  obtain⟨rfl,rfl⟩:=h;exact⟨x,FS⟩
 |[(a,f')],x,o,j+1,t,f,h=>by simp at h
 |(a,f')::b::l,x,o,0,t,f,h=>by
  obtain⟨rfl,rfl⟩:=h;exact⟨x.1,FS⟩
 |(a,f')::b::l,x,o,j+1,t,f,h=>by
  obtain⟨y,c⟩:=zfp (by simpa using h);rw[(W:o+1+j=o+(j+1))]at c;exact⟨y,UV _ c⟩
def zhl{ds:N (K×TF)}{x:Jn ds}{n:K}{S:K->Prop}(c:cU ds=I)(h:zE S (RS P vs env (lV n ds x n).1) w):KA ds env λj=>vs (n+j):=by
 intro j t f a;obtain⟨y,d⟩:=zfp a;have:=UB h d;rcases LN c j t f a with⟨_,_,rfl⟩|⟨_,_,rfl⟩|⟨_,_,_,rfl⟩|⟨_,_,_,rfl⟩
 ·exact this
 ·obtain⟨h1,b,e⟩:=this;exact⟨h1,b,h1.trans e⟩
 ·exact this
 ·exact this
def zlO{ds:N (K×TF)}{x:Jn ds}(b:cU ds=I)(o1:∀e∈kp.ob,e.1<kp.nx+X ds)(o2:∀e∈cx.ob,e.1<kp.nx+X ds)(r1:∀e∈kp.rg,∀o,vn e.2.2=Z o->o<kp.nx+X ds)(r2:∀e∈cx.rg,∀o,vn e.2.2=Z o->o<kp.nx+X ds):Bd cx (Kh ⟨ds,[]⟩ x kp):=by
 refine⟨λe he=> ?_,o2,λe he p hp=> ?_,r2⟩
 ·obtain he|he:=So.1 he
  ·exact(Td e he).2
  ·exact o1 e he
 ·have a:∀e∈(lV kp.nx ds x kp.nx).1,∀p,vn e.2.2=Z p->p<kp.nx+X ds:=λe he p hp=>by
   rcases NY (RB b) e he p hp with h|h<;>exact h
  obtain he|he:=So.1 he
  ·obtain he|he:=So.1 he
   ·exact a e he p hp
   ·exact a e he p hp
  ·exact r1 e he p hp
def zeP{ds:N (K×TF)}{x:Jn ds}(d:cU ds=I)(hc:KA ds env λj=>vs<|kp.nx+j)(e:Bd cx (Kh ⟨ds,[]⟩ x kp))
 (hd:St fr.we fr.Se (Qy (λj=>vs<|kp.nx+j) ds x 0++(MS vs kp.ob++(MS vs cx.ob++fr.F))) (RS P vs env kp.rg++(RS P vs env cx.rg++fr.G)) w):Z1 P fr cx (Kh ⟨ds,[]⟩ x kp) env w:=by
 refine⟨e,vs,?_⟩;have b:∀j,j<X ds->vs (kp.nx+j)=(λj=>vs<|kp.nx+j) (0+j):=λj _=>by simp only[xaJ]
 have e1:OS vs fr cx (Kh ⟨ds,[]⟩ x kp).ob=Qy (λj=>vs<|kp.nx+j) ds x 0++(MS vs kp.ob++(MS vs cx.ob++fr.F)):=by
  show MS vs ((lV kp.nx ds x kp.nx).2++kp.ob)++(MS vs cx.ob++fr.F)=_;rw[show MS vs ((lV kp.nx ds x kp.nx).2++kp.ob)=MS vs (lV kp.nx ds x kp.nx).2++MS vs kp.ob from xba,NT (U:=λj=>vs<|kp.nx+j) b,xao]
 show St _ _ (OS vs fr cx (Kh ⟨ds,[]⟩ x kp).ob) _ _;rw[e1];refine hd.weak λS w a=> ?_;have c:zE S (RS P vs env (lV kp.nx ds x kp.nx).1) w:=zbc (λj _=>O) (RB d) b (zcu λj t f g=>by rw[xaJ];exact hc j t f g);show zE S (RS P vs env (((lV kp.nx ds x kp.nx).1++(lV kp.nx ds x kp.nx).1)++kp.rg)++(RS P vs env cx.rg++fr.G)) w;rw[dM,dM];exact zE.append (zE.append (zE.append c c)<|zE.left a)<|zE.right a
def zb4{ds:N (K×TF)}{x:Jn ds}{n:K}(d:cU ds=I)(e:Z1 P fr cx (Kh ⟨ds,[]⟩ x ⟨n,[],[]⟩) env w):∃vs,KA ds env (λj=>vs<|n+j)/\Bd cx (Kh ⟨ds,[]⟩ x ⟨n,[],[]⟩)/\St fr.we fr.Se (Qy (λj=>vs<|n+j) ds x 0++(MS vs cx.ob++fr.F)) (RS P vs env cx.rg++fr.G) w:=by
 have⟨f,vs,b⟩:=e;have⟨S,_,a⟩:=b.ex;have h1:zE S (RS P vs env<|((lV n ds x n).1++(lV n ds x n).1)++[]) w:=zE.left a;rw[dM,dM]at h1;refine⟨vs,zhl d<|zE.right<|zE.left h1,f,?_⟩;have e1:OS vs fr cx (Kh ⟨ds,[]⟩ x ⟨n,[],[]⟩).ob=Qy (λj=>vs<|n+j) ds x 0++(MS vs cx.ob++fr.F):=by
  show MS vs ((lV n ds x n).2++[])++(MS vs cx.ob++fr.F)=_;rw[xbB,NT (U:=λj=>vs<|n+j) (i:=0) λj _=>by simp only[xaJ]]
 have c:St fr.we fr.Se (OS vs fr cx (Kh ⟨ds,[]⟩ x ⟨n,[],[]⟩).ob) (GS P vs env fr cx<|Kh ⟨ds,[]⟩ x ⟨n,[],[]⟩) w:=b;rw[e1]at c;exact c.weak λS w h=>zE.right h
def SQ{U:K->wN}{a:K×TF}:∀{l:N (K×TF)}{y:a.2.D}{x:Jn l}{i:K},Qy U (a::l) (Ij y x) i=tfM a.2 y (U i)++Qy U l x (i+1)
 |[],y,x,i=>by show tfM a.2 y (U i)=_++[];rw[xbB]
 |_::_,y,x,i=>rfl
def gJ{U V:K->wN}:∀{l:N (K×TF)}{x:Jn l}{i k:K},(∀j,j<X l->U (i+j)=V (k+j))->Qy U l x i=Qy V l x k
 |[],_,_,_,_=>rfl
 |[a],x,i,k,h=>by
  have h0:U i=V k:=h 0 iP;show tfM a.2 x (U i)=tfM a.2 x (V k);rw[h0]
 |a::b::l,x,i,k,h=>by
  have h0:U i=V k:=h 0 iP;show tfM a.2 x.1 (U i)++Qy U (b::l) x.2 (i+1)=tfM a.2 x.1 (V k)++Qy V (b::l) x.2 (k+1);rw[h0,gJ (k:=k+1) λj c=>by
   have:=h (j+1) (by simpa using c);rw[(W:i+1+j=i+(j+1)),(W:k+1+j=k+(j+1))];exact this]
def zeK{a:K×TF}:∀{l:N (K×TF)} (z:Jn (a::l)),z=Ij (mq z).1 (mq z).2
 |[],_=>rfl
 |_::_,_=>rfl
def Nt{we:wP}{Se:K->Prop}{A B:N MF}{G:N FF}{l:K}{m m':MF}{o:Obj}(h:Z1 P ⟨we,Se,A++m::B,G⟩ cx σ env w)(a:∀k,m.blk k↔k=l)(b:∀k,m'.blk k->k=l)(hp:∀S w',w'.heap[l]? =Z o->m'.p S w'):Z1 P ⟨we,Se,A++m'::B,G⟩ cx σ env (w.putObj l o):=by
 have⟨c,vs,hc⟩:=h;refine⟨c,vs,?_⟩;have h1:St we Se ((MS vs σ.ob++(MS vs cx.ob++A))++m::B) (GS P vs env ⟨we,Se,A++m::B,G⟩ cx σ) w:=by simp_all
 have d:=St.putObj (St.mid h1) a b hp;have e:=d.perm xcg.symm;simp_all
theorem zib{n:K}{S:K->Prop}:∀{ds:N (K×TF)}{i:K},cU ds=I->(∀(j t:K) (f:TF),ds[j]? =Z (t,f)->tL f (env t) (vs<|n+(i+j)))->zE S (RS P vs env<|Bh ds<|n+i) w
 |[],_,_,_=>trivial
 |(t,f)::r,i,a,h=>by
  have h0:=h 0 t f O;have b:cU r=I->zE S (RS P vs env<|Bh r<|n+i+1) w:=λa=>zib a λj t f c=>by
   have:=h (j+1) t f (by simpa using c);grind
  cases f<;>simp only[cU,xar]at a
  ·exact⟨h0,b a⟩
  ·exact⟨h0.1,b a⟩
  ·exact⟨h0,b a⟩
  ·exact⟨h0,b a⟩
theorem PS:∀{ds:N (K×TF)}{n:K},∀e∈Bh ds n,∀o,vn e.2.2=Z o->o<n+X ds
 |[],_,e,he=>wS he H1
 |(t,f)::r,n,e,he=>by
  intro o a;have b:e∈Bh r (n+1)->o<n+X ((t,f)::r):=λhe=>by
   have:=PS e he o a;grind
  cases f<;>obtain rfl|he:=xag.1 he<;>first|exact b he|(cases a;simp only[xaw];lia)
def DI:∀{ds:N (K×TF)}{n j t:K}{f:TF},ds[j]? =Z (t,f)->∃e∈Bh ds n,e.1=t
 |[],_,_,_,_,h=>by simp at h
 |(a,f')::r,n,0,t,f,h=>by
  obtain⟨rfl,rfl⟩:=h;cases f'<;>exact⟨_,FS,O⟩
 |(a,f')::r,n,j+1,t,f,h=>by
  obtain⟨e,b,h1⟩:=DI (by simpa using h);cases f'<;>exact⟨e,UV _ b,h1⟩
def zj7{a:K×TF}{ds:N (K×TF)}(h:zhj (a::ds)=I){j t:K}{f:TF}(b:ds[j]? =Z (t,f)):t≠a.1:=by
 simp only[zhj,zh7,xab,xaQ]at h;have:=h.1 (t,f)<|xby b;intro e;simp_all
end
end
section
def Hp(P:jP)(cf:Cf)(n:wr)(c:Wn):Prop:=∀{R:Type}{r:R}{fr:Fr}{cx σ:Sg}{K:Tg->Sg->V R}{Q:Qd}{N:Nd},N.n=n->(N.rd=wF\/Lo c=I)->iR cf c cx σ K=Z r->∀{Ds:xS wr}{env:y4}{w:wP},
 (∀t σ',K t σ'=Z r->∀b a w',lU cx env a->Z1 P (fr.wd b) cx σ' a w'->Q (tgE t) b a w')->Z1 P (fr.wd Ds) cx σ env w->LG P N c Q Ds env w
def zoG:wN->N wN
 |.tuple us=>us.toList
 |_=>[]
def XF(u:wN)(k:K):wN:=(zoG u).getD k uL
def OI(vs:K->wN)(m:K):wN:=.tuple ((xaY m).map vs).toArray
def zjS{vs:K->wN}{m k:K}(h:k<m):XF (OI vs m) k=vs k:=by
 simp[XF,OI,zoG,h]
def tgC:Tg->Wn
 |.n=> .skip
 |.x i=> .exit i
 |.r=> .ret
 |.p _=> .skip
section
variable{P:jP}{cf:Cf}{fr:Fr}{cx cx' kp σ:Sg}{vs vs':wr->wN}{env env':y4}{w:wP}{we:wP}{Se:wr->Prop}{F:xS MF}{G:xS FF}{n D l:wr}{ds:xS (wr×TF)}{x:Jn ds}{u:wN}{rc:eM}
def zd1(P:jP)(env:y4)(cx':Sg)(n:K)(ds:N (K×TF))(D l:K)(rc:eM)(x:Jn ds)(u:wN):MF:=
 E4 (mPr (KA ds env λj=>XF u<|n+j)::mFF (RS P (XF u) env cx'.rg)::cW l rc::qy D::(Qy (λj=>XF u<|n+j) ds x 0++MS (XF u) cx'.ob))
def zcH(h:St we Se (zd1 P env cx' n ds D l rc x u::F) G w):KA ds env (λj=>XF u<|n+j)/\St we Se (cW l rc::qy D::(Qy (λj=>XF u<|n+j) ds x 0++(MS (XF u) cx'.ob++F))) (RS P (XF u) env cx'.rg++G) w:=by
 have⟨h1,a⟩:=St.unpr<|St.grp.1 h;have b:=St.ffOut (show St we Se (mFF (RS P (XF u) env cx'.rg)::(cW l rc::qy D::(Qy (λj=>XF u<|n+j) ds x 0++MS (XF u) cx'.ob)++F)) G w from a);simp_all
def zhz(d:KA ds env λj=>vs<|n+j)(a:∀e∈cx'.ob,e.1<n)(g:∀e∈cx'.rg,∀o,vn e.2.2=Z o->o<n)(h:St we Se (cW l rc::qy D::(Qy (λj=>vs<|n+j) ds x 0++(MS vs cx'.ob++F))) (RS P vs env cx'.rg++G) w):
 St we Se (zd1 P env cx' n ds D l rc x (OI vs<|n+X ds)::F) G w:=by
 have e0:∀k,k<n+X ds->XF (OI vs<|n+X ds) k=vs k:=λk i=>zjS i;have e1:RS P (XF<|OI vs<|n+X ds) env cx'.rg=RS P vs env cx'.rg:=qJ (λe b o a=>e0 o (by have:=g e b o a;lia)) λ_ _=>O;have m:MS (XF<|OI vs<|n+X ds) cx'.ob=MS vs cx'.ob:=wx λe b=>e0 e.1 (by have:=a e b;lia);have p:Qy (λj=>XF (OI vs<|n+X ds)<|n+j) ds x 0=Qy (λj=>vs<|n+j) ds x 0:=gJ λj c=>e0 _ W;refine St.grp.2<|St.pr ?_ ?_
 ·intro j t f c;have:=(xax.1 c).1;show tL f (env t) (XF (OI vs<|n+X ds)<|n+j);rw[e0 _ W];exact d j t f c
 ·have q:St we Se (mFF (RS P vs env cx'.rg)::(cW l rc::qy D::(Qy (λj=>vs<|n+j) ds x 0++MS vs cx'.ob)++F)) G w:=St.ffIn (by simpa only[xbL,xao]using h);simp_all
def N4{m:MF}{p:Prop}(h:Z1 P fr cx σ env w)(a:m∈fr.F)(hp:∀S,m.p S w->p):p:=by
 have⟨_,vs,_,_,_,S,_,_,_,b,_⟩:=h;exact hp S<|Yi.1 b m<|So.2 (.inr<|So.2 (.inr a))
def zjJ{it:Gf}{pt:wr}{τ:Tg}{a c:Wn}{N:wr}{fn:Z3}{tmps:ul wN}(hA:Hp P cf N a)(hC:Hp P cf N c)(hV:Lo a=I)(hW:Lo c=I)(c6:pt<N)(hX:tmps.size=N)(hN:yR ⟨tmps,[]⟩=env)(hm:cU ds=I)
 (hY:zhj (uA pt it.t it.E ds).ds=I) (hH:Y5 cx'.rg pt=I) (ho:∀e∈cx'.ob,e.1<n) (hr:∀e∈cx'.rg,∀o,vn e.2.2=Z o->o<n):
 Oq P l it.t.rep it.E (λx u=>zd1 P env cx' n ds D l {state:=.ready,pending:=wF,fn:=fn,tmps:=tmps,params:= #[pt],assign:=a,body:=c,defers:=D} x u)
  (λx u=>zd1 P env cx' n ds D l {state:=.done,pending:=Z<|tgC τ,fn:=fn,tmps:=tmps,params:= #[pt],assign:=a,body:=c,defers:=D} x u)
  (zot cx' n ds it.t it.E pt τ (λcx σ K=>iR cf a cx σ K) λcx σ K=>iR cf c cx σ K):=by
 have⟨J,hi⟩:∃J:eM,J={state:=.ready,pending:=wF,fn:=fn,tmps:=tmps,params:= #[pt],assign:=a,body:=c,defers:=D}:=⟨_,O⟩;have⟨L,hF⟩:∃L:eM,L={J with state:=.busy}:=⟨_,O⟩;rw[<-hi];intro ys x Y q hq v u we Se F G w hZ;have⟨h0,h1⟩:=zcH hZ;have hl:w.heap[l]? =Z (.loop J):=wy h1 (i:=0) O λS hp=>hp;have hy:=run_yield (P:=P) (args:= #[v]) hl (by rw[hi];rfl);refine⟨fn,tmps.setIfInBounds pt v,a,c,by rw[hi]at hy;simpa using hy,roundIn_of_wpIn wR ?_⟩;have⟨sh,hw⟩:∃sh,sh=uA pt it.t it.E ds:=⟨_,O⟩;have c5:X sh.ds=X ds+1:=by rw[hw];rfl
 have hG:cU sh.ds=I:=by rw[hw];exact hm
 have⟨cp,M⟩:∃cp,cp=cpR cx' n sh:=⟨_,O⟩;have hO:∀{j t:wr}{f:TF},ds[j]? =Z (t,f)->t≠pt:=λT=>zj7 (a:=(pt,.own it.t it.E)) hY T;have⟨b,hn⟩:∃b,b=put env (some pt) v:=⟨_,O⟩;have a4:b pt=v:=by rw[hn];exact Ed
 have a3:∀t,t≠pt->b t=env t:=λt ht=>by rw[hn];exact nM<|λe=>ht<|by cases e;rfl
 have a5:∀e∈cx'.rg,b e.1=env e.1:=λe he=>a3 e.1 λh=>by
  simp only[Y5,xaQ]at hH;have:=hH e he;rw[h]at this;simp at this
 have⟨g,hx⟩:∃g:wr->wN,g=λk=>if k<n then XF u k else if k=n then v else XF u (k-1):=⟨_,O⟩;have a9:∀k,k<n->g k=XF u k:=λk hk=>by rw[hx];exact iq hk
 have b3:g n=v:=by rw[hx];simp
 have b0:∀j,g (n+(j+1))=XF u (n+j):=λj=>by
  rw[hx];simp only;rw[zA,zA,(W:n+(j+1)-1=n+j)]
 have hI:KA sh.ds b λj=>g (n+j):=by
  rw[hw];intro j t f T
  cases j with
  |zero=>
   simp only[uA,xbZ,xat,xdd]at T;obtain⟨rfl,rfl⟩:=T;show b pt=g (n+0);rw[a4,xbO,b3]
  |succ j=>
   have T:ds[j]? =Z (t,f):=by simpa[uA]using T
   show tL f (b t) (g<|n+(j+1));rw[b0,a3 t<|hO T];exact h0 j t f T
 have hB:Bd cp ⟨n+X sh.ds,[],[]⟩:=by
  rw[M];refine⟨λ_ he=>wS he H1,λe he=> ?_,λ_ he=>wS he H1,λe he o hd=> ?_⟩
  ·have:=ho e he;show e.1<n+_;lia
  ·show o<n+_;rcases So.1 (show e∈Bh sh.ds n++cx'.rg from he)with he|he
   ·exact PS e he o hd
   ·have:=hr e he o hd;lia
 have h9:Z1 P (Fr.wd ⟨we,Se,cW l J::qy D::F,G⟩ []) cp (Kh sh (hw▸Ij (a:=(pt,.own it.t it.E)) ys x) ⟨n,[],[]⟩) b w:=by
  subst hw;refine zeP (vs:=g) (kp:=⟨n,[],[]⟩) hG hI (zlO hG (λ_ he=>wS he H1) (λe he=>hB.o2 e he) (λ_ he=>wS he H1) λe he o hd=>hB.r2 e he o hd) ?_;have e1:Qy (λj=>g<|n+j) (uA pt it.t it.E ds).ds (Ij (a:=(pt,.own it.t it.E)) ys x) 0=mO it.t.rep it.E v ys::Qy (λj=>XF u<|n+j) ds x 0:=by
   refine(SQ (U:=λj=>g<|n+j) (a:=(pt,.own it.t it.E)) (l:=ds) (y:=ys) (x:=x) (i:=0)).trans ?_;show mO it.t.rep it.E (g<|n+0) ys::Qy _ ds x (0+1)=_;rw[xbO,b3,gJ (U:=λj=>g<|n+j) (V:=λj=>XF u<|n+j) (i:=0+1) (k:=0) λj _=>by
    show g (n+(0+1+j))=XF u (n+(0+j));rw[(W:0+1+j=j+1),b0,xaJ]]
  have e2:MS g cp.ob=MS (XF u) cx'.ob:=by rw[M];exact wx λe he=>a9 _<|ho e he
  show St we Se (Qy (λj=>g<|n+j) (uA pt it.t it.E ds).ds (Ij (a:=(pt,.own it.t it.E)) ys x) 0++([]++(MS g cp.ob++([]++(cW l J::qy D::F))))) ([]++(RS P g b cp.rg++G)) w;rw[e1,e2];have h2:St we Se (mO it.t.rep it.E v ys::Qy (λj=>XF u<|n+j) ds x 0++([]++(MS (XF u) cx'.ob++([]++(cW l J::qy D::F))))) (RS P (XF u) env cx'.rg++G) w:=by
   refine h1.perm ?_;simp only[xbH,xbL];have p1:(cW l J::qy D::(Qy (λj=>XF u<|n+j) ds x 0++(MS (XF u) cx'.ob++mO it.t.rep it.E v ys::F))).Perm (mO it.t.rep it.E v ys::(cW l J::qy D::(Qy (λj=>XF u<|n+j) ds x 0++(MS (XF u) cx'.ob++F)))):=by
    have:=xcg (a:=mO it.t.rep it.E v ys) (l₁:=cW l J::qy D::(Qy (λj=>XF u<|n+j) ds x 0++MS (XF u) cx'.ob)) (l₂:=F);simpa only[xbL,xao]using this
   refine p1.trans<|xfv _ ?_;have p2:([cW l J,qy D]++((Qy (λj=>XF u<|n+j) ds x 0++MS (XF u) cx'.ob)++F)).Perm ((Qy (λj=>XF u<|n+j) ds x 0++MS (XF u) cx'.ob)++([cW l J,qy D]++F)):=xdT ..;simpa only[xbL,xao,xbH]using p2
  refine h2.weak (Δ:=RS P g b cp.rg++G) λS w ha=>zE.append ?_<|zE.right ha;rw[M];show zE S (RS P g b<|Bh (uA pt it.t it.E ds).ds n++cx'.rg) w;rw[dM];refine zE.append (zib (i:=0) hG λj t f T=>by rw[xaJ];exact hI j t f T) ?_;rw[qJ (vs:=XF u) (env:=env) (λe he o hd=>a9 o<|hr e he o hd) a5];exact zE.left ha
 have⟨N1,hf⟩:∃N1:Nd,N1=⟨N,[],some l⟩:=⟨_,O⟩;have hP:(⟨tmps.setIfInBounds pt v,[]⟩:V6).tmps.size=N1.n:=by rw[hf];simpa using hX
 have hQ:yR ⟨tmps.setIfInBounds pt v,[]⟩=b:=by
  have:=Wz (a:=⟨tmps,[]⟩) (d:=Z pt) (v:=v) (λt ht=>by cases ht;show pt<tmps.size;lia);rw[hn,<-hN];exact this
 subst hw
 have h':=hA (N:=N1) (fr:=⟨we,Se,cW l J::qy D::F,G⟩) (Ds:=[]) (by rw[hf]) (.inr hV) (show iR cf a cp _ _=Z (Y,q)from by rw[M];exact hq)
  (Q:=λe a0 env' w'=>e=.normal/\∃σ',iR cf c cp σ' (znd cp ds it.t it.E pt τ)=Z (Y,q)/\lU cp b env'/\Z1 P (Fr.wd ⟨we,Se,cW l J::qy D::F,G⟩ a0) cp σ' env' w')
  (λt σ' hk a0 env' w' hs hR=>by
   cases t with
   |n=>exact⟨O,σ',by rw[M];exact hk,hs,hR⟩
   |x i=>cases hk
   |r=>cases hk
   |p q=>cases hk) h9
 have hS:=h' ⟨tmps.setIfInBounds pt v,[]⟩ hP (by rw[hf];rfl) hQ;rw[hf]at hS;refine V2 hS ?_;rintro e a1 w1 ⟨q1,a0,q2,rfl,σ',hk,hs,hR⟩;have b4:w1.heap[l]? =Z (.loop J):=N4 hR (m:=cW l J) (So.2 (.inr<|FS)) λS hp=>hp;refine⟨w1.putObj l (.loop L),by rw[hF];exact run_beginRound b4 (by rw[hi]),?_⟩;have c0:Z1 P (Fr.wd ⟨we,Se,cW l L::qy D::F,G⟩ a0) cp σ' (yR a1) (w1.putObj l (.loop L)):=Nt (A:=a0.map qy) (m:=cW l J) (m':=cW l L) (B:=qy D::F) hR (λk=>Iff.rfl) (λk h=>h) λS w' h=>h
 have c1:=hC (N:=N1) (fr:=⟨we,Se,cW l L::qy D::F,G⟩) (Ds:=a0) (by rw[hf]) (.inr hW) hk
  (Q:=λe C env' w'=>∃t H,e=tgE t/\znd cp ds it.t it.E pt τ t H=Z (Y,q)/\lU cp (yR a1) env'/\Z1 P (Fr.wd ⟨we,Se,cW l L::qy D::F,G⟩ C) cp H env' w')
  (λt H hk C env' w' hs hR=>⟨t,H,O,hk,hs,hR⟩) c0
 have hT:=c1 a1 (by rw[hf];exact q1) (by rw[hf];exact q2) O;rw[hf]at hT;refine V2 hT ?_;rintro e a2 w2 ⟨p1,C,p2,t,H,rfl,hc,c2,hu⟩;have hL:w2.heap[l]? =Z (.loop L):=N4 hu (m:=cW l L) (So.2 (.inr<|FS)) λS hp=>hp;have hM:=hs.trans c2
 have R:∀(z:Jn (uA pt it.t it.E ds).ds) (rc:eM),Z1 P (Fr.wd ⟨we,Se,cW l L::qy D::F,G⟩ C) cp (Kh (uA pt it.t it.E ds) z ⟨n+(uA pt it.t it.E ds).ds.length,[],[]⟩) (yR a2) w2->
  ∃u',St we Se (zd1 P env cx' n ds D l rc (mq z).2 u'::mO it.t.rep it.E v (mq z).1::F) G (w2.putObj l (.loop rc)):=by
  intro z rc hv;have c3:=Nt (A:=C.map qy) (m:=cW l L) (m':=cW l rc) (B:=qy D::F) hv (λk=>Iff.rfl) (λk h=>h) (o:=.loop rc) λS w' h=>h;have⟨vs2,hD,c7,hJ⟩:=zb4 (ds:=(uA pt it.t it.E ds).ds) hG c3;have⟨m,c4⟩:∃m,m=n+(uA pt it.t it.E ds).ds.length:=⟨_,O⟩;rw[<-c4]at hD hJ;have z0:vs2 m=v:=by
   have h2:yR a2 pt=vs2 (m+0):=hD 0 pt (.own it.t it.E) O;have⟨e,he,h3⟩:=DI (ds:=(uA pt it.t it.E ds).ds) (n:=n) (j:=0) (t:=pt) (f:=.own it.t it.E) O;have h4:=hM e (by rw[M];exact So.2 (.inl he));rw[h3,a4]at h4;rw[xbO]at h2;exact h2.symm.trans h4
  have⟨s,hK⟩:∃s:wr->wN,s=λk=>if k<n then vs2 k else vs2 (m+1+(k-n)):=⟨_,O⟩;have b1:∀k,k<n->s k=vs2 k:=λk hk=>by rw[hK];exact iq hk
  have b2:∀j,s (n+j)=vs2 (m+(j+1)):=λj=>by
   rw[hK];simp only;rw[zA,(W:m+1+(n+j-n)=m+(j+1))]
  have hU:KA ds env λj=>s (n+j):=by
   intro j t f T;have h2:=hD (j+1) t f (by simpa[uA]using T);have⟨e,he,h3⟩:=DI (ds:=(uA pt it.t it.E ds).ds) (n:=n) (j:=j+1) (t:=t) (f:=f) (by simpa[uA]using T);have h4:=hM e (by rw[M];exact So.2 (.inl he));rw[h3,a3 t<|hO T]at h4;show tL f (env t) (s<|n+j);rw[b2,<-h4];exact h2
  refine⟨_,zhz (F:=mO it.t.rep it.E v (mq z).1::F) hU ho hr ?_⟩;have e1:Qy (λj=>vs2<|m+j) (uA pt it.t it.E ds).ds z 0=mO it.t.rep it.E v (mq z).1::Qy (λj=>s<|n+j) ds (mq z).2 0:=by
   refine(kW (λz=>Qy (λj=>vs2<|m+j) (uA pt it.t it.E ds).ds z 0)<|zeK (a:=(pt,.own it.t it.E)) (l:=ds) z).trans ?_;refine(SQ (U:=λj=>vs2<|m+j) (a:=(pt,.own it.t it.E)) (l:=ds) (y:=(mq (a:=(pt,.own it.t it.E)) z).1) (x:=(mq (a:=(pt,.own it.t it.E)) z).2) (i:=0)).trans ?_;show mO it.t.rep it.E (vs2<|m+0) (mq z).1::Qy _ ds (mq z).2 (0+1)=_;rw[xbO,z0,gJ (U:=λj=>vs2<|m+j) (V:=λj=>s<|n+j) (i:=0+1) (k:=0) λj _=>by
    show vs2 (m+(0+1+j))=s (n+(0+j));rw[(W:0+1+j=j+1),xaJ,b2]]
  have e2:MS vs2 cp.ob=MS s cx'.ob:=by rw[M];exact wx λe he=>(b1 _<|ho e he).symm
  have h5:St we Se (Qy (λj=>vs2<|m+j) (uA pt it.t it.E ds).ds z 0++(MS vs2 cp.ob++(C.map qy++cW l rc::qy D::F))) (RS P vs2 (yR a2) cp.rg++G) (w2.putObj l (.loop rc)):=hJ;rw[e1,e2]at h5;have h6:St we Se ((mO it.t.rep it.E v (mq z).1::Qy (λj=>s<|n+j) ds (mq z).2 0++MS s cx'.ob)++(cW l rc::qy D::F)) (RS P vs2 (yR a2) cp.rg++G) (w2.putObj l (.loop rc)):=St.dropM (B:=C.map qy) (by simpa only[xao]using h5);have h7:St we Se (cW l rc::qy D::(Qy (λj=>s<|n+j) ds (mq z).2 0++(MS s cx'.ob++(mO it.t.rep it.E v (mq z).1::F)))) (RS P vs2 (yR a2) cp.rg++G) (w2.putObj l (.loop rc)):=by
   refine h6.perm ?_;have p1:((Qy (λj=>s<|n+j) ds (mq z).2 0++MS s cx'.ob)++([cW l rc,qy D]++F)).Perm ([cW l rc,qy D]++((Qy (λj=>s<|n+j) ds (mq z).2 0++MS s cx'.ob)++F)):=xdT ..;have p2:=xcg (a:=mO it.t.rep it.E v (mq z).1) (l₁:=cW l rc::qy D::(Qy (λj=>s<|n+j) ds (mq z).2 0++MS s cx'.ob)) (l₂:=F);have p3:=(p1.cons<|mO it.t.rep it.E v (mq z).1).trans (by simpa only[xbL,xao,xbH]using p2.symm);simpa only[xbL,xao,xbH]using p3
  refine h7.weak λS w ha=>zE.append ?_<|zE.right ha;have h8:zE S (RS P vs2 (yR a2)<|Bh (uA pt it.t it.E ds).ds n++cx'.rg) w:=by
   have:=zE.left ha;rw[M]at this;exact this
  rw[dM]at h8;rw[qJ (vs:=vs2) (env:=yR a2) (λe he o hd=>b1 o<|hr e he o hd) λe he=> ?_]
  ·exact zE.right h8
  ·have h4:=hM e (by rw[M];exact So.2 (.inr he));rw[a5 e he]at h4;exact h4.symm
 cases t with
 |n=>
  have⟨z,hz,hg⟩:=mg (P:=P) (cx:=cp) (kp:=⟨n+(uA pt it.t it.E ds).ds.length,[],[]⟩) (show aG (qW cp ⟨n+(uA pt it.t it.E ds).ds.length,[],[]⟩) (uA pt it.t it.E ds) H (λz=>Z ((mq z).1,Sum.inl (mq z).2))=Z (Y,q)from by rw[M]at hc⊢;exact hc) hB;cases hz;have hv:=hg (Fr.wd ⟨we,Se,cW l L::qy D::F,G⟩ C) (yR a2) w2 (by rw[M]at hu⊢;exact hu);refine⟨_,_,eL wF hL,O,?_⟩;have hE:({L with state:=if(wF:ww Wn).isNone then .ready else .done,pending:=wF}:eM)=J:=by rw[hF,hi];rfl
  rw[hE];exact R z J hv
 |x i=>
  have⟨ht,hc⟩:=z6 hc;have⟨z,hz,hg⟩:=mg (P:=P) (cx:=cp) (kp:=⟨n+(uA pt it.t it.E ds).ds.length,[],[]⟩) (show aG (qW cp ⟨n+(uA pt it.t it.E ds).ds.length,[],[]⟩) (uA pt it.t it.E ds) H (λz=>Z ((mq z).1,Sum.inr (mq z).2))=Z (Y,q)from by rw[M]at hc⊢;exact hc) hB;cases hz;have hv:=hg (Fr.wd ⟨we,Se,cW l L::qy D::F,G⟩ C) (yR a2) w2 (by rw[M]at hu⊢;exact hu);refine⟨_,_,eL (Z (.exit i)) hL,O,?_⟩;have hE:({L with state:=if(Z<|Code.exit i).isNone then .ready else .done,pending:=Z (.exit i)}:eM)={state:=.done,pending:=Z<|tgC τ,fn:=fn,tmps:=tmps,params:= #[pt],assign:=a,body:=c,defers:=D}:=by rw[hF,hi,zfs (λ_ e=>by cases e) ht];rfl
  rw[hE];exact R z _ hv
 |r=>
  have⟨ht,hc⟩:=z6 hc;have⟨z,hz,hg⟩:=mg (P:=P) (cx:=cp) (kp:=⟨n+(uA pt it.t it.E ds).ds.length,[],[]⟩) (show aG (qW cp ⟨n+(uA pt it.t it.E ds).ds.length,[],[]⟩) (uA pt it.t it.E ds) H (λz=>Z ((mq z).1,Sum.inr (mq z).2))=Z (Y,q)from by rw[M]at hc⊢;exact hc) hB;cases hz;have hv:=hg (Fr.wd ⟨we,Se,cW l L::qy D::F,G⟩ C) (yR a2) w2 (by rw[M]at hu⊢;exact hu);refine⟨_,_,eL (Z .ret) hL,O,?_⟩;have hE:({L with state:=if(Z Code.ret).isNone then .ready else .done,pending:=Z .ret}:eM)={state:=.done,pending:=Z<|tgC τ,fn:=fn,tmps:=tmps,params:= #[pt],assign:=a,body:=c,defers:=D}:=by rw[hF,hi,zfs (λ_ e=>by cases e) ht];rfl
  rw[hE];exact R z _ hv
 |p q=>cases hc
end
end
section
section
variable{P:jP}{cf:Cf}{fr:Fr}{cx σ:Sg}{env:y4}{w:wP}{R:Type}{r:R}
def zj4(hX:Cx P cf){g:wW}{a c:Wn}{N:Nd}{K:Tg->Sg->V R}{Q:Qd}{s:Lp}{it:Gf}{y:cj it.dom}{τ:Tg}{pt:wr}{ags:xS wr}{cs:xS PD}{Ds:xS wr}
 (hA:Hp P cf N.n a) (hC:Hp P cf N.n c) (hQ:Lo a=I) (hS:Lo c=I) (hT:N.rd=wF) (hU:pt<N.n) (hg:xo cx σ g=Z (.fn it.f cs)) (hV:it∈cf.is) (hy:cF it.dom cs=Z y) (hv:s.hd.ns=[])
 (h:zaB cx σ K s it y τ pt ags (λcx σ K=>iR cf a cx σ K) (λcx σ K=>iR cf c cx σ K)=Z r)
 (hK:∀t σ',K t σ'=Z r->∀Ds' env' w',lU cx env env'->Z1 P (fr.wd Ds') cx σ' env' w'->Q (tgE t) Ds' env' w') (hR:Z1 P (fr.wd Ds) cx σ env w):LG P N (.rangeFunc g #[pt] a c) Q Ds env w:=by
 obtain⟨⟨ds,ns⟩,sg⟩:=s;simp only at hv;subst hv;obtain⟨h9,hx⟩:=Lg hy;obtain⟨hB,vs,hz⟩:=hR;obtain⟨S0,_,hΓ⟩:=hz.ex;obtain⟨cvs,hD,h8,h'⟩:=zj hg<|zL hΓ g;have hY:Z1 P ⟨fr.we,fr.Se,Ds.map qy++fr.F,ky P it.dom y cvs++fr.G⟩ cx σ env w:=⟨hB,vs,hz.weak λS w ha=>zE.append (zE.left ha) (zE.append (zE.left<|zE.right ha) (zE.append (by
  obtain⟨cvs',hE,hZ,hF⟩:=zj hg<|zL ha g;rw[hD]at hE;have:cvs=cvs':=by simpa using hE
  subst this;exact hx hZ hF) (zE.right (zE.right ha))))⟩
 unfold zaB at h;simp only at h;obtain⟨hi,h⟩:=z6 h;simp only[xab]at hi;obtain⟨hm,⟨hG,h0⟩,hl⟩:=hi;obtain⟨hc,hH⟩:=FA (ag:=ags) (ro:=sg.ro) hY;obtain⟨kp,h5⟩:∃kp,kp=keep σ ags sg.ro:=⟨_,O⟩;rw[<-h5]at h hc hH hl;obtain⟨x0,h1,h2⟩:=mg (P:=P) (cx:=qW cx kp) (kp:=⟨kp.nx,[],[]⟩) h<|MH hc;obtain⟨r',h3,h4⟩:=iH h1;obtain⟨vs0,hI,hB0,hJ⟩:=zb4 (ds:=ds) hm<|h2 _ env w hH;obtain⟨hb,hL⟩:=hX.is it hV;have ho:∀e∈(qW cx kp).ob,e.1<kp.nx:=λe he=>by
  rcases So.1 he with he|he
  ·exact hc.o1 e he
  ·exact hc.o2 e he
 have hr:∀e∈(qW cx kp).rg,∀o,vn e.2.2=Z o->o<kp.nx:=λe he o hf=>by
  rcases So.1 he with he|he
  ·exact hc.r1 e he o hf
  ·exact hc.r2 e he o hf
 intro a0 g1 g2 g3;refine wpIn_rangeFunc ?_;intro fn hfn;rw[show N.F.round=wF from hT];obtain⟨rR,hj⟩:∃rR:eM,rR={state:=.ready,pending:=wF,fn:=fn,tmps:=a0.tmps,params:= #[pt],assign:=a,body:=c,defers:=w.heap.size}:=⟨_,O⟩;obtain⟨rD,hn⟩:∃rD:eM,rD={state:=.done,pending:=Z<|tgC τ,fn:=fn,tmps:=a0.tmps,params:= #[pt],assign:=a,body:=c,defers:=w.heap.size}:=⟨_,O⟩;have hM:=run_enterLoop_outer (P:=P) (w:=w) fn a0.tmps #[pt] a c;rw[<-hj]at hM;have hW:St fr.we fr.Se (cW (w.heap.size+1) rR::qy w.heap.size::(Qy (λj=>vs0<|kp.nx+j) ds x0 0++(MS vs0 (qW cx kp).ob++(Ds.map qy++fr.F)))) (RS P vs0 env (qW cx kp).rg++(ky P it.dom y cvs++fr.G)) ((w.alloc (.deferred<|some [])).alloc (.loop rR)):=by
  have q1:=St.allocObj (o:=.deferred<|some []) (m:=qy w.heap.size) hJ (λk hk=>hk)<|λS w' hw=>hw;have hN:(w.alloc (.deferred<|some [])).heap.size=w.heap.size+1:=World.size_alloc ..;refine St.allocObj (o:=.loop rR) (m:=cW (w.heap.size+1) rR) q1 (λk hk=>by rw[hN];exact hk)<|λS w' hw=> ?_;rw[hN]at hw;exact hw
 have h6:=zhz (x:=x0) hI ho hr hW;have hO:=zjJ (P:=P) (cf:=cf) (cx':=qW cx kp) (env:=env) (n:=kp.nx) (D:=w.heap.size) (l:=w.heap.size+1) (ds:=ds) (it:=it) (pt:=pt) (τ:=τ) (a:=a) (c:=c) (N:=N.n) (fn:=fn) (tmps:=a0.tmps) hA hC hQ hS hU g1 g3 hm h0 hl ho hr;rw[<-hj,<-hn]at hO;have hq:=hL y _ _ _ _ _ x0 r' h3 (w.heap.size+1) cvs (by lia) hO _ fr.we fr.Se _ fr.G _ h6
 have close:∀(rc:eM) (x:Jn ds) (u':wN) (w3:wP),St fr.we fr.Se (zd1 P env (qW cx kp) kp.nx ds w.heap.size (w.heap.size+1) rc x u'::(Ds.map qy++fr.F)) fr.G w3->
  w3.heap[w.heap.size+1]? =Z (.loop rc)/\∀o,Z1 P (fr.wd (w.heap.size::Ds)) cx (Kh ⟨ds,[]⟩ x kp) env (w3.putObj (w.heap.size+1) (.loop o)):=by
  intro rc x u' w3 hs;obtain⟨h7,q1⟩:=zcH hs;refine⟨wy q1 (i:=0) O λS hp=>hp,λo=> ?_⟩;have q2:=St.putObj (m':=cW (w.heap.size+1) o) (o:=.loop o) q1 (λk=>Iff.rfl) (λk hk=>hk)<|λS w' hw=>hw;have q3:St fr.we fr.Se ([qy w.heap.size]++(Qy (λj=>XF u'<|kp.nx+j) ds x 0++(MS (XF u') (qW cx kp).ob++(Ds.map qy++fr.F)))) (RS P (XF u') env (qW cx kp).rg++fr.G) (w3.putObj (w.heap.size+1) (.loop o)):=St.drop (i:=0) q2;refine zeP (vs:=XF u') hm h7 (zlO hm (λe he=>xaj (hc.o1 e he)<|xbw _ _) (λe he=>xaj (hc.o2 e he)<|xbw _ _) (λe he o hf=>xaj (hc.r1 e he o hf)<|xbw _ _) λe he o hf=>xaj (hc.r2 e he o hf)<|xbw _ _) ?_;have e1:MS (XF u') (qW cx kp).ob=MS (XF u') kp.ob++MS (XF u') cx.ob:=xba;have e2:RS P (XF u') env (qW cx kp).rg=RS P (XF u') env kp.rg++RS P (XF u') env cx.rg:=xba;rw[e1,e2]at q3;have q4:St fr.we fr.Se ((Qy (λj=>XF u'<|kp.nx+j) ds x 0++(MS (XF u') kp.ob++MS (XF u') cx.ob))++([qy w.heap.size]++(Ds.map qy++fr.F))) ((RS P (XF u') env kp.rg++RS P (XF u') env cx.rg)++fr.G) (w3.putObj (w.heap.size+1) (.loop o)):=by
   refine q3.perm ?_;rw[<-xao<|Qy _ _ _ _];exact xdT ..
  show St fr.we fr.Se (Qy _ ds x 0++(MS (XF u') kp.ob++(MS (XF u') cx.ob++((qy w.heap.size::Ds.map qy)++fr.F)))) (RS P (XF u') env kp.rg++(RS P (XF u') env cx.rg++fr.G)) _;simpa only[xao,xbL,xbH]using q4
 refine⟨w.heap.size+1,[mkD w.heap.size],((w.alloc (.deferred<|some [])).alloc (.loop rR)),{target:=.fn (.func it.f) cvs.toArray,args:= #[.func (.yield<|w.heap.size+1) #[] #[]]},((w.alloc (.deferred<|some [])).alloc (.loop rR)),it.f,#[.func (.yield<|w.heap.size+1) #[] #[]]++cvs.toArray,((w.alloc (.deferred<|some [])).alloc (.loop rR)),hM,?_,λ_ _=>wR,?_,λe=>by simp[Nd.F,xfK]at e,?_⟩
 ·have:a0.eval g=.func (.func it.f) #[] cvs.toArray:=by rw[a7,g3];exact hD
  simp only[Wl,this];simp[go_sem]
 ·simp[WN,go_sem,qd hb]
 ·have ht:(#[.func (.yield<|w.heap.size+1) #[] #[]]++cvs.toArray:ul wN)=(Value.func (.yield<|w.heap.size+1) #[] #[]::cvs).toArray:=by simp
  rw[ht];refine CallsIn.mono (callsIn_wide.2 hq) ?_;rintro e w3 ⟨⟨v,rfl⟩,u',hs⟩
  cases hP:r' with
  |inl x=>
   rw[hP]at hs h4;obtain⟨hu,hd⟩:=close rR x u' w3 hs;refine⟨wF,_,by have:=run_endLoop (P:=P) hu (by rw[hj];simp);rw[hj]at this;exact this,?_⟩;exact⟨g1,w.heap.size::Ds,by show[mkD w.heap.size]++a0.defers=_;rw[g2];rfl,hK .n _ h4 _ _ _ (by rw[<-g3];exact lU.refl)<|by rw[<-g3]at hd;exact hd _⟩
  |inr x=>
   rw[hP]at hs h4;obtain⟨hu,hd⟩:=close rD x u' w3 hs;refine⟨Z<|tgC τ,_,by have:=run_endLoop (P:=P) hu (by rw[hn];simp);rw[hn]at this;exact this,?_⟩;have fin:∀o,zls N Q (tgE τ) {a0 with defers:=[mkD w.heap.size]++a0.defers} (w3.putObj (w.heap.size+1) (.loop o)):=λo=>⟨g1,w.heap.size::Ds,by show[mkD w.heap.size]++a0.defers=_;rw[g2];rfl,hK τ _ h4 _ _ _ (by rw[<-g3];exact lU.refl)<|by rw[<-g3]at hd;exact hd _⟩
   cases τ with
   |n=>exact wpIn_skip<|fin _
   |x i=>exact wpIn_exit<|fin _
   |r=>exact wpIn_ret<|fin _
   |p q=>cases hG
end
end
section
section
variable{P:jP}{cf:Cf}
def X4(D:P.follows .mixedOrders=I)(E:yZ P cf.tt)(H:uz P cf.tt)(J:∀s∈cf.cs,xh P s)(C:Cx P cf){n:wr}:∀(c:Wn),TB n c=I->Hp P cf n c
 |.skip,_,R,r,fr,cx,σ,K,Q,N,z,B,h,Ds,env,w,o,i=>λ_ h1 L T=>wpIn_skip ⟨h1,Ds,L,T▸o .n σ h Ds env w lU.refl i⟩
 |.label _,_,R,r,fr,cx,σ,K,Q,N,z,B,h,Ds,env,w,o,i=>λ_ h1 L T=>wpIn_label ⟨h1,Ds,L,T▸o .n σ h Ds env w lU.refl i⟩
 |.exit id,_,R,r,fr,cx,σ,K,Q,N,z,B,h,Ds,env,w,o,i=>λ_ h1 L T=>wpIn_exit ⟨h1,Ds,L,T▸o (.x id) σ h Ds env w lU.refl i⟩
 |.ret,_,R,r,fr,cx,σ,K,Q,N,z,B,h,Ds,env,w,o,i=>λ_ h1 L T=>wpIn_ret ⟨h1,Ds,L,T▸o .r σ h Ds env w lU.refl i⟩
 |.scope c,v,R,r,fr,cx,σ,K,Q,N,z,B,h,Ds,env,w,o,i=>by
  refine zdR<|X4 D E H J C c v (K:=K) z B h (λt σ' u l d w' A i=> ?_) i;have:=o t σ' u l d w' A i;cases t<;>exact this
 |.region id a5 dr,v,R,r,fr,cx,σ,K,Q,N,z,B,h,Ds,env,w,o,i=>by
  subst z;refine znL ?_;have:=zep (id:=id) (N:=N.wd Ds) (fr:=fr.wd Ds) D E H J C (Q:=λe env w=>Q e Ds env w) (kp:=λq σ=>K (.p q) σ) (k:=λσ=>K .n σ) (λq σ' u d w' A i=>o (.p q) σ' u Ds d w' A i) (λσ' u d w' A i=>o .n σ' u Ds d w' A i) v h i;rwa[xdh]at this
 |.cond c a b,v,R,r,fr,cx,σ,K,Q,N,z,B,h,Ds,env,w,o,i=>by
  have v:=(xab _ _).mp v;have hd:N.rd=wF\/Lo a=I:=B.imp id λh=>((xab _ _).mp h).1;have hf:N.rd=wF\/Lo b=I:=B.imp id λh=>((xab _ _).mp h).2;simp only[iR]at h;have⟨hB,vs,ht⟩:=i;have i:Z1 P (fr.wd Ds) cx σ env w:=⟨hB,vs,ht⟩;have⟨S,_,a0⟩:=ht.ex;split at h
  ·next hv=>exact DC (zj hv<|zL a0 c)<|X4 D E H J C a v.1 z hd h o i
  ·next hv=>exact Dc (zj hv<|zL a0 c)<|X4 D E H J C b v.2 z hf h o i
  ·next x hv=>
   have hx:ev env c=.bool x:=rN<|zj hv<|zL a0 c;rcases RV h with⟨rfl,h⟩|⟨rfl,h⟩
   ·exact DC hx<|X4 D E H J C a v.1 z hd h o i
   ·exact Dc hx<|X4 D E H J C b v.2 z hf h o i
  ·cases h
 |.block id c,v,R,r,fr,cx,σ,K,Q,N,z,B,h,Ds,env,w,o,i=>by
  refine HO (X4 D E H J C c v (K:=λt σ=>match t with
   |.x j=>GI (F j id) (K .n σ)<|K (.x j) σ
   |t=>K t σ) z B h (λt σ' u l d w' A i=> ?_) i)
  cases t with
  |n=>exact o .n σ' u l d w' A i
  |r=>exact o .r σ' u l d w' A i
  |p q=>exact o (.p q) σ' u l d w' A i
  |x j=>
   simp only at u;show ND id Q (.exit j) l d w';simp only[ND];cases hb:F j id<;>rw[hb]at u
   ·exact o (.x j) σ' u l d w' A i
   ·exact o .n σ' u l d w' A i
 |.seq a b,v,R,r,fr,cx,σ,K,Q,N,z,B,h,Ds,env,w,o,i=>by
  have v:=(xab _ _).mp v;have hd:N.rd=wF\/Lo a=I:=B.imp id λh=>((xab _ _).mp h).1;have hf:N.rd=wF\/Lo b=I:=B.imp id λh=>((xab _ _).mp h).2;simp only[iR]at h;split at h
  ·refine BP<|X4 D E H J C a v.1 z hd h (λt σ' u l d w' A i=> ?_) i
   cases t with
   |n=>exact X4 D E H J C b v.2 z hf u (λt a1 hj a2 M w2 hn hp=>o t a1 hj a2 M w2 (A.trans hn) hp) i
   |x j=>exact o (.x j) σ' u l d w' A i
   |r=>exact o .r σ' u l d w' A i
   |p q=>exact o (.p q) σ' u l d w' A i
  ·next s A=>
   have⟨x,h1,L⟩:=iH h;have⟨hc,hq⟩:=FA (ag:=FH a) (ro:=s.ro) i
   refine BP (zgX (X4 D E H J C a v.1 (Q:=λe Ds d w=>∃t m,e=tgE t/\(match t with
    |.n=>iR cf b cx m K
    |t=>K t m)=Z r/\lU cx env d/\Z1 P (fr.wd Ds) cx m d w) z hd h1 (λt σ' u l d w' A i=> ?_) hq) ?_)
   ·have⟨y,m,e1,U,Y⟩:=Sx (P:=P) hc u;cases e1
    have e4:=(U λt σ=>match t with
     |.n=>iR cf b cx σ K
     |t=>K t σ).symm.trans L
    exact⟨t,m,O,by cases t<;>exact e4,λe he=>A e<|So.2 (.inr he),Y _ d w' i⟩
   ·rintro e l d w' ⟨t,m,rfl,u,hi,i⟩
    cases t with
    |n=>exact X4 D E H J C b v.2 z hf u (λt a1 hj a2 M w2 hn hp=>o t a1 hj a2 M w2 (hi.trans hn) hp) i
    |x j=>exact o (.x j) m u l d w' hi i
    |r=>exact o .r m u l d w' hi i
    |p q=>exact o (.p q) m u l d w' hi i
 |.loop c,v,R,r,fr,cx,σ,K,Q,N,z,B,h,Ds,env,w,o,i=>by
  simp only[iR]at h;split at h
  ·cases h
  ·next s A=>
   have⟨hc,hq⟩:=FA (ag:=FH c) (ro:=s.sg.ro) i;have⟨x,h1,L⟩:=mg (P:=P) (cx:=qW cx<|keep σ (FH c) s.sg.ro) (kp:=⟨(keep σ (FH c) s.sg.ro).nx,[],[]⟩) h<|MH hc;have⟨s0,T,h4⟩:=iH h1;refine PW (G:=wr×Jn s.hd.ds) (λg Ds d w=>zg _ g.1 g.2=Z s0/\lU cx env d/\Z1 P (fr.wd Ds) (qW cx<|keep σ (FH c) s.sg.ro) (Kh s.hd g.2 ⟨(keep σ (FH c) s.sg.ro).nx,[],[]⟩) d w) (λg=>g.1) (cf.fu,x) ⟨T,lU.refl,L _ env w hq⟩ ?_;rintro⟨n',x⟩ Ds a4 w ⟨hl,hA,i⟩
   cases n' with
   |zero=>exact(zcL hl).elim
   |succ n'=>
    refine X4 D E H J C c v z B (zbB hl) (λt σ' u l d w' A i=> ?_) i;have hu:lU cx env d:=hA.trans λe he=>A e<|So.2 (.inr he);have a3:(∀(y:SmD s.sg.tg) (m:Sg),Z y=Z s0->(∀{R':Type} (K:Tg->Sg->V R'),Rp (keep σ (FH c) s.sg.ro) K s.sg.tg y=K t m)->Z1 P (fr.wd l) cx m d w'->Q (tgE t) l d w'):=λy m e1 U Y=>by
     cases e1;exact o t m (by rw[<-h4];exact(U K).symm) l d w' hu Y
    cases t with
    |n=>
     have⟨x',h5,h6⟩:=mg (P:=P) (cx:=qW cx<|keep σ (FH c) s.sg.ro) (kp:=⟨(keep σ (FH c) s.sg.ro).nx,[],[]⟩) u<|MH hc;exact⟨(n',x'),⟨h5,hu,h6 _ d w' i⟩,xdj n'⟩
    |x j=>
     have⟨y,m,e1,U,Y⟩:=Sx (P:=P) hc u;exact a3 y m e1 U<|Y _ d w' i
    |r=>
     have⟨y,m,e1,U,Y⟩:=Sx (P:=P) hc u;exact a3 y m e1 U<|Y _ d w' i
    |p q=>
     have⟨y,m,e1,U,Y⟩:=Sx (P:=P) hc u;exact a3 y m e1 U<|Y _ d w' i
 |.rangeFunc g ps a c,v,R,r,fr,cx,σ,K,Q,N,z,B,h,Ds,env,w,o,i=>by
  have v:=(xab _ _).mp v;have hw:=(xab _ _).mp v.2;simp only[iR]at h;split at h
  ·next f cs s pt hg A hI=>
   split at h
   ·next it τ sh hD hJ hE=>
    split at h
    ·next y hy=>
     have⟨hr,h⟩:=z6 h;rw[xab]at hr;have⟨hF,hG⟩:=ze5 hD;subst hG;have hz:ps= #[pt]:=by cases ps;simp_all
     subst hz;have hH:pt<n:=by
      have:=v.1;simpa using this
     subst z;exact zj4 C (X4 D E H J C a hw.1) (X4 D E H J C c hw.2) hr.1 hr.2 (B.resolve_right<|by simp[Lo]) hH hg hF hy hE h o i
    ·cases h
   ·cases h
  ·cases h
 |.refuse _,_,R,r,fr,cx,σ,K,Q,N,z,B,h,_,_,_,_,_=>by cases h
 |.goto _,_,R,r,fr,cx,σ,K,Q,N,z,B,h,_,_,_,_,_=>by cases h
end
end
section
def jM:N K->wP->wP
 |[],w=>w
 |D::Ds,w=>jM Ds<|w.putObj D (.deferred wF)
def DP:N K->wP->Prop
 |[],_=>Z5
 |D::Ds,w=>w.heap[D]? =Z (.deferred<|some [])/\DP Ds (w.putObj D (.deferred wF))
def mTk(D:K):MF where
 blk k:=k=D
 p _ w:=w.heap[D]? =Z (.deferred wF)
 keep h _ a:=(a D O).trans h
 sub h _:=h
 lt h k b:=by subst b;exact(xbh.1 h).1
section
variable{P:jP}{cf:Cf}{fr:Fr}{cx σ:Sg}{env:y4}
def JS:∀{Ds:N K}{w:wP},Z1 P (fr.wd Ds) cx σ env w->DP Ds w/\Z1 P fr cx σ env (jM Ds w)
 |[],w,h=>⟨wR,h⟩
 |D::Ds,w,h=>by
  have h1:=N4 h (FS) λS hp=>hp;have c:=Nt (A:=[]) (m':=mTk D) h (λk=>Iff.rfl) (λk h=>h) λS w' h=>h;have d:Z1 P (fr.wd Ds) cx σ env (w.putObj D (.deferred wF)):=by
   have⟨e,vs,f⟩:=c;refine⟨e,vs,?_⟩;have a:St fr.we fr.Se ((MS vs σ.ob++MS vs cx.ob)++([mTk D]++(Ds.map qy++fr.F))) (RS P vs env σ.rg++(RS P vs env cx.rg++fr.G)) (w.putObj D (.deferred wF)):=by simp_all
   have b:=St.dropM a;show St fr.we fr.Se (MS vs σ.ob++(MS vs cx.ob++(Ds.map qy++fr.F))) (RS P vs env σ.rg++(RS P vs env cx.rg++fr.G)) _;simp_all
  have⟨a,b⟩:=JS d;exact⟨⟨h1,a⟩,b⟩
def eo{F:Fence}{n:K}{fn:QR}{tmps:ul wN}{Q:Ending->wP->Prop}:∀{Ds:N K}{w:wP},DP Ds w->(∃v,(Jp fn tmps).run P (jM Ds w)=.ok v (jM Ds w)/\Q (.returned v) (jM Ds w))->LeavesInM F n P fn tmps Q (Ds.map mkD) .returning w
 |[],w,_,h=>h
 |D::Ds,w,a,h=>⟨iP,.inl ⟨D,_,O,run_takeDeferred a.1,eo a.2 h⟩⟩
def U4{f:Z3}{fn:QR}{c:Wn}{args:N wN}{w:wP}{Q:Ending->wP->Prop}(i:P.funcs[f]? =Z fn)(k:fn.body=Z c)(hn:xfQ (X args) fn.ntmps=I)
 (h:∀rest,LG P (Nd.of fn.ntmps) c (λe Ds env w=>(e=.normal\/e=.ret)/\DP Ds w/\∀a:V6,yR a=env->∃v,(Jp fn a.tmps).run P (jM Ds w)=.ok v (jM Ds w)/\Q (.returned v) (jM Ds w)) [] (L ((args.zipIdx 0).map λx=>(x.2,x.1)) rest) w):
 Ul P f args.toArray w Q:=by
 have hn:=xca hn;refine callsIn_wide.1<|callsIn_of_wp_marks (n:=0) i k wR ?_;have l:KC (yR ⟨args.toArray++xeE (fn.ntmps-args.toArray.size) uL,[]⟩) ((args.zipIdx 0).map λx=>(x.2,x.1)):=by
  refine nk args 0 _ λj=> ?_;rw[Dr];simp_all
 refine V2 (h _ _ (by simp;lia) O (a8 l).symm) ?_;rintro e b w' ⟨q1,Ds,q2,m,d,hv⟩;have⟨v,h1,g⟩:=hv b O;obtain rfl|rfl:=m
 ·show LeavesInM _ _ P fn b.tmps Q b.defers .returning w';rw[q2,xbB];exact eo d ⟨v,h1,g⟩
 ·show LeavesInM _ _ P fn b.tmps Q b.defers .returning w';rw[q2,xbB];exact eo d ⟨v,h1,g⟩
end
end
section
section
variable{P:jP}{cf:Cf}{fr:Fr}{σ:Sg}{vs:wr->wN}{env:y4}{w:wP}{R:Type}{r:R}
theorem OW{rest:y4}:∀{l:N wN}{i j:K}{v:wN},l[j]? =Z v->L ((l.zipIdx i).map λx=>(x.2,x.1)) rest (i+j)=v
 |a::l,i,0,v,h=>by
  simp only[xbZ,xat]at h;simp[L,h]
 |a::l,i,j+1,v,h=>by
  simp only[List.zipIdx_cons,xbU,L];rw[zgw (W:i+(j+1)≠i)];have:=OW (rest:=rest) (i:=i+1) (by simpa using h);grind
theorem zaG:∀{dom:N AM}{x:cj dom}{i:K}{l:N wN},X l=X dom->(∀j v,l[j]? =Z v->vs (i+j)=v)->MS vs (WI dom x i).2=Zo dom x l
 |[],_,_,_,_,_=>rfl
 |a::dom,x,i,[],hl,_=>by cases hl
 |a::dom,x,i,v::l,hl,h=>by
  have b:MS vs (WI dom x.2<|i+1).2=Zo dom x.2 l:=zaG (by simpa using hl) λj v d=>by
   have:=h (j+1) v (by simpa using d);grind
  have h0:=h 0 v O
  cases a with
  |own t E=>
   show mO t.rep E (vs i) x.1::MS vs (WI dom x.2<|i+1).2=mO t.rep E v x.1::Zo dom x.2 l;grind
  |var t E=>
   show mP t.rep.c E (vs i) x.1::MS vs (WI dom x.2<|i+1).2=mP t.rep.c E v x.1::Zo dom x.2 l;grind
  |_=>exact b
def zag{S:K->Prop}:∀{dom:N AM}{x:cj dom}{i:K}{l:N wN},X l=X dom->(∀j v,l[j]? =Z v->vs (i+j)=v/\env (i+j)=v)->zE S (ky P dom x l) w->zE S (RS P vs env (WI dom x i).1) w
 |[],_,_,_,_,_,_=>trivial
 |a::dom,x,i,[],hl,_,_=>by cases hl
 |a::dom,x,i,v::l,hl,h,k=>by
  have c:=zag (by simpa using hl) (λj v m=>by
   have:=h (j+1) v (by simpa using m);rw[(W:i+1+j=i+(j+1))];exact this) k.2
  have h0:vs i=v/\env i=v:=h 0 v O;have g:=k.1
  cases a with
  |d t=>exact⟨show(fV t.rep x.1<|env i).p S w by rw[h0.2];exact g,c⟩
  |q t=>exact⟨show(fP t.rep x.1<|env i).p S w by rw[h0.2];exact g,c⟩
  |own t E=>exact⟨show env i=vs i by rw[h0.1,h0.2],c⟩
  |var t E=>
   have⟨b,n⟩:=g;exact⟨⟨show env i=vs i by rw[h0.1,h0.2],b,h0.1.trans n⟩,c⟩
  |fn e f=>exact⟨show(fnF P e f x.1<|env i).p S w by rw[h0.2];exact g,c⟩
theorem Ti:∀{dom:N AM}{x:cj dom}{i:K},∀e∈(WI dom x i).2,e.1<i+X dom
 |[],_,_,e,he=>wS he H1
 |a::dom,x,i,e,he=>by
  have b:∀e∈(WI dom x.2<|i+1).2,e.1<i+X (a::dom):=λe he=>by
   have:=Ti e he;grind
  cases a with
  |own t E=>
   rcases xag.1 (show e∈(i,Od.own t E x.1)::(WI dom x.2<|i+1).2 from he)with rfl|he
   ·simp_all
   ·grind
  |var t E=>
   rcases xag.1 (show e∈(i,Od.var t E x.1)::(WI dom x.2<|i+1).2 from he)with rfl|he
   ·simp_all
   ·grind
  |_=>exact b e he
theorem L5:∀{dom:N AM}{x:cj dom}{i:K},∀e∈(WI dom x i).1,∀p,vn e.2.2=Z p->p<i+X dom
 |[],_,_,e,he=>wS he H1
 |a::dom,x,i,e,he=>by
  intro p hp;have b:∀e∈(WI dom x.2<|i+1).1,∀p,vn e.2.2=Z p->p<i+X (a::dom):=λe he p hp=>by
   have:=L5 e he p hp;grind
  cases a with
  |own t E=>
   rcases xag.1 (show e∈(i,0,Dv.ow i)::(WI dom x.2<|i+1).1 from he)with rfl|he
   ·cases hp;simp only[xaw];lia
   ·grind
  |var t E=>
   rcases xag.1 (show e∈(i,0,Dv.vs i t)::(WI dom x.2<|i+1).1 from he)with rfl|he
   ·cases hp;simp only[xaw];lia
   ·grind
  |d t=>
   rcases xag.1 (show e∈(i,0,Dv.d t x.1)::(WI dom x.2<|i+1).1 from he)with rfl|he
   ·cases hp
   ·exact b e he p hp
  |q t=>
   rcases xag.1 (show e∈(i,0,Dv.q t x.1)::(WI dom x.2<|i+1).1 from he)with rfl|he
   ·cases hp
   ·exact b e he p hp
  |fn d c=>
   rcases xag.1 (show e∈(i,0,Dv.fp d c x.1)::(WI dom x.2<|i+1).1 from he)with rfl|he
   ·cases hp
   ·exact b e he p hp
def U7:∀(l:N WW) (ms:N RM) {σ:Sg},Z1 P fr ⟨0,[],[]⟩ σ env w->Z1 P fr ⟨0,[],[]⟩ (cT σ l ms) env w
 |[],_,_,h=>by unfold cT;exact h
 |.tmp t::l,[],_,h=>by unfold cT;exact h
 |.tmp t::l,.d _::ms,_,h=>by unfold cT;exact U7 l ms<|NC _ h
 |.tmp t::l,.own _ _::ms,_,h=>by unfold cT;exact U7 l ms h
 |.tmp t::l,.var _ _::ms,_,h=>by unfold cT;exact U7 l ms h
 |.cell t E::l,[],_,h=>by unfold cT;exact h
 |.cell t E::l,m::ms,_,h=>by unfold cT;exact U7 l ms h
def zfm(H:yZ P cf.tt){p:WW}{m:RM}{k:m.D->N K->V R}(h:Eg cf σ p m k=Z r):∃x os,k x os=Z r/\
 ∀vs (fr:Fr) env (A:N MF) (Γ:N FF) w (f:N K),(∀S w,zE S Γ w->∀t,Lk P vs env S w ⟨0,[],[]⟩ σ t)->(∀o∈os,bZ f o=wL)->St fr.we fr.Se (A++OS vs fr ⟨0,[],[]⟩ (vI σ.ob f)) Γ w->
  ∃v,zjG P w env p v/\St fr.we fr.Se (rmM m x v++(A++OS vs fr ⟨0,[],[]⟩ (vI σ.ob<|os++f))) (rmF m x v++Γ) w:=by
 cases p with
 |tmp t=>
  cases m with
  |d s=>
   simp only[Eg]at h;have hc:=h;have⟨y,h,J⟩:=zfn h;refine⟨y,[],h,λvs fr env A Γ w f hl _ g=>⟨env t,O,?_⟩⟩;refine g.weak λS w a=>⟨?_,a⟩
   cases l:get ⟨0,[],[]⟩ σ t 0 with
   |none=>rw[l]at hc;cases hc
   |some v=>exact J P vs S w v _ l<|hl S w a t 0 v l
  |own s E=>
   simp only[Eg]at h;have⟨x,os,h1,_,n,j⟩:=Mb h;refine⟨x,os,h1,λvs fr env A Γ w f hl hn g=>⟨env t,O,?_⟩⟩;exact j P vs fr env A Γ w f (λS w a=>hl S w a t) hn g
  |var s E=>
   simp only[Eg]at h;have⟨x,os,h1,_,n,j⟩:=Mb h;refine⟨x,os,h1,λvs fr env A Γ w f hl hn g=>⟨env t,O,?_⟩⟩;have q:=j P vs fr env A Γ w f (λS w a=>hl S w a t) hn g;exact q.weak λS w a=>⟨(n P vs env S w<|hl S w a).2,a⟩
 |cell t E=>
  cases m with
  |own s B=>simp only[Eg]at h;cases h
  |var s B=>simp only[Eg]at h;cases h
  |d s=>
   simp only[Eg]at h;split at h
   ·next o s0 C l L=>
    split at h
    ·next s' B z M=>
     have⟨u,h1⟩:=z6 h;have u:=zY u;subst u;have⟨e,n⟩:=z7 h1;cases e;have⟨e,j⟩:=z7 n;cases e;refine⟨_,[o],j,λvs fr env A Γ w f hl hn g=> ?_⟩;have hp:=jR (vs:=vs) (fr:=fr) (cx:=⟨0,[],[]⟩)<|(jI<|hn o<|FS).trans M;have j:=St.mid<|St.perm g<|xbo _ hp;have⟨S,_,a⟩:=g.ex;have⟨hv,b,F⟩:=hl S w a t 0 _ l;have⟨⟨G,Q,_⟩,_⟩:=H E C L;have q:St fr.we fr.Se (mP C.ty.rep.c E (vs o) z::(A++OS vs fr ⟨0,[],[]⟩ (yx (vI σ.ob f) o))) Γ w:=j;have⟨b',hd,T⟩:=q.openP 0 O;rw[F]at hd;cases hd;refine zfV 0 T O (hv.trans F) Q λv U Y=>⟨v,Y,?_⟩;exact St.drop (i:=0) U
    ·cases h
   ·cases h
def zbd(e:yZ P cf.tt):∀{a:N WW}{cod:N RM}{k:iU cod->N K->V R},Pk cf σ a cod k=Z r->∃x os,k x os=Z r/\
 ∀vs (fr:Fr) env (Γ:N FF) w,(∀S w,zE S Γ w->∀t,Lk P vs env S w ⟨0,[],[]⟩ σ t)->St fr.we fr.Se (OS vs fr ⟨0,[],[]⟩ σ.ob) Γ w->
  ∃us,X us=X cod/\fh P w env a us/\St fr.we fr.Se (Yj cod x us++OS vs fr ⟨0,[],[]⟩ (vI σ.ob os)) (Yk cod x us++Γ) w
 |[],[],k,h=>⟨(),[],h,λvs fr env Γ w _ b=>⟨[],O,wR,b⟩⟩
 |[v],[m],k,h=>by
  have⟨x,os,h1,f⟩:=zfm e (h:Eg cf σ v m k=Z r);refine⟨x,os,h1,λvs fr env Γ w hl b=> ?_⟩;have⟨u,c,d⟩:=f vs fr env [] Γ w [] hl (λ_ _=>O) b;rw[xbB]at d;exact⟨[u],O,⟨c,wR⟩,d⟩
 |v::q::a,m::m'::ms,k,h=>by
  have⟨x,o,h1,f⟩:=zfm e (h:Eg cf σ v m _=Z r);have⟨y,os,c,d⟩:=zbd e h1;have⟨hn,c⟩:=z6 c;refine⟨(x,y),o++os,c,λvs fr env Γ w hl b=> ?_⟩;have⟨us,i,j,l⟩:=d vs fr env Γ w hl b;have⟨u,n,p⟩:=f vs fr env (Yj (m'::ms) y us) (Yk (m'::ms) y us++Γ) w os (λS w g=>hl S w<|zE.right g) (MG hn) l;refine⟨u::us,by simpa using i,⟨n,j⟩,?_⟩;show St _ _ ((rmM m x u++Yj (m'::ms) y us)++_) ((rmF m x u++Yk (m'::ms) y us)++Γ) w;rw[xao,xao];exact p
 |[],_::_,_,h=>by cases h
 |[_],[],_,h=>by cases h
 |[_],_::_::_,_,h=>by cases h
 |_::_::_,[],_,h=>by cases h
 |_::_::_,[_],_,h=>by cases h
def zac(D:P.follows .mixedOrders=I)(C:yZ P cf.tt)(E:uz P cf.tt)(H:∀s∈cf.cs,xh P s)(J:Cx P cf){s:X2}{fn:QR}
 (K:P.funcs[s.f]? =Z fn) (L:BS P s.f=I) (g:s.bk=0) (Q:∀x r,s.M x=Z r->zar cf fn s.dom s.cod x=Z r):xh P s:=by
 refine⟨L,λx r h vs hd=> ?_⟩;rw[g];show FnG P s.f vs.toArray (Zo s.dom x vs) (ky P s.dom x vs) X3 (λus=>Yj s.cod r us) (λus=>Yk s.cod r us) (λus=>X us=X s.cod);have h:=Q x r h;unfold zar at h;split at h
 ·next c hc=>
  have⟨l,h⟩:=z6 h;rw[xab]at l;intro we Se F G w m;refine U4 K hc (by rw[hd];exact l.2) λrest=> ?_;refine X4 (fr:=⟨we,Se,F,G⟩) (N:=Nd.of fn.ntmps) D C E H J c l.1 O (.inl O) h (λt σ' g Ds env w _ z=> ?_) ?_
  ·have⟨hi,z⟩:=JS z
   have i:Pk cf (cT σ' fn.results.toList s.cod) fn.results.toList s.cod (λy _=>Z y)=Z r->∀a:V6,yR a=env->
    ∃v,(Jp fn a.tmps).run P (jM Ds w)=.ok v (jM Ds w)/\∃u:xS wN,xeI v=.returned (X3 u)/\X u=X s.cod/\St we Se (Yj s.cod r u++F) (Yk s.cod r u++G) (jM Ds w):=λh a T=>by
    have hl:=U7 fn.results.toList s.cod z;generalize cT σ' fn.results.toList s.cod=A at h hl;have⟨hB,vs,m⟩:=hl;have⟨y,os,e1,U⟩:=zbd C h;cases e1;have⟨us,h1,V,Y⟩:=U vs ⟨we,Se,F,G⟩ env _ _ (λS w b t=>X6 b t) m;refine⟨_,VI (rs:=fn.results.toList) (by rw[xdh])<|T▸V,us,O,h1,?_⟩;exact(St.dropM (B:=MS vs<|vI A.ob os) Y).weak λS w b=>zE.append (zE.left b)<|zE.right<|zE.right b
   cases t with
   |n=>exact⟨.inl O,hi,i g⟩
   |r=>exact⟨.inr O,hi,i g⟩
   |x j=>cases g
   |p q=>cases g
  ·have e0:∀j v,vs[j]? =Z v->vs.getD (0+j) uL=v:=λj v k=>by rw[xaJ,xaa,k];rfl
   refine⟨⟨λe d=> ?_,λ_ d=>wS d H1,λe d p hp=> ?_,λ_ d=>wS d H1⟩,λo=>vs.getD o uL,?_⟩
   ·have:=Ti e d;simpa using this
   ·have:=L5 e d p hp;simpa using this
   ·have e1:MS (λo=>vs.getD o uL) (WI s.dom x 0).2=Zo s.dom x vs:=zaG hd e0;show St we Se (MS _ (WI s.dom x 0).2++([]++F)) _ w;rw[e1];exact m.weak λS w b=>zE.append (zag hd (λj v k=>⟨e0 j v k,OW k⟩)<|zE.left b)<|zE.right b
 ·cases h
theorem zeH{S:K->Prop}{b:K->wN}:∀{dom:N AM}{i:K},(∀j,j<X dom->env (i+j)=b (i+j))->zE S (RS P vs env<|Ei b dom i) w
 |[],_,_=>trivial
 |a::dom,i,h=>by
  have c:zE S (RS P vs env<|Ei b dom<|i+1) w:=zeH λj d=>by
   have:=h (j+1) (by simp only[xaw];lia);grind
  cases a with
  |own t E=>exact⟨h 0 iP,c⟩
  |var t E=>exact⟨h 0 iP,c⟩
  |_=>exact c
def gK{S:K->Prop}{l:N wN}:∀{dom:N AM}{i:K}{us:N wN},zE S (RS P vs env<|Ei (λo=>l.getD o uL) dom i) w->fh P w env (Gn dom i) us->us=J6 dom (l.drop i)
 |[],_,[],_,_=>rfl
 |[],_,_::_,_,h=>h.elim
 |a::dom,i,us,b,h=>by
  have e0:(l.drop i).headD uL=l.getD i uL:=by simp_all
  have e1:(l.drop i).tail=l.drop (i+1):=by rw[List.tail_drop]
  cases a with
  |own t E=>
   cases us with
   |nil=>exact h.elim
   |cons u us=>
    have h1:env i=u:=h.1;have f:env i=l.getD i uL:=b.1;have e:=gK (dom:=dom) (i:=i+1) b.2 h.2;show u::us=(l.drop i).headD uL::J6 dom (l.drop i).tail;simp_all
  |var t E=>
   cases us with
   |nil=>exact h.elim
   |cons u us=>
    have h1:env i=u:=h.1;have f:env i=l.getD i uL:=b.1;have e:=gK (dom:=dom) (i:=i+1) b.2 h.2;show u::us=(l.drop i).headD uL::J6 dom (l.drop i).tail;simp_all
  |d t=>
   have e:=gK (dom:=dom) (i:=i+1) b h;show us=J6 dom (l.drop i).tail;simp_all
  |q t=>
   have e:=gK (dom:=dom) (i:=i+1) b h;show us=J6 dom (l.drop i).tail;rw[e1];exact e
  |fn d c=>
   have e:=gK (dom:=dom) (i:=i+1) b h;show us=J6 dom (l.drop i).tail;rw[e1];exact e
def C8:∀{a b:N WW}{us:N wN},fh P w env (a++b) us->fh P w env a (us.take (X a))/\fh P w env b (us.drop (X a))
 |[],b,us,h=>⟨wR,h⟩
 |r::a,b,[],h=>h.elim
 |r::a,b,u::us,h=>by
  have⟨h1,c⟩:=C8 h.2;exact⟨⟨h.1,h1⟩,c⟩
def gW{b:K->wN}:∀{dom:N AM}{i:K},∀e∈Ei b dom i,vn e.2.2=wF
 |[],_,e,he=>wS he H1
 |a::dom,i,e,he=>by
  cases a with
  |own t E=>
   rcases xag.1 (show e∈(i,0,Dv.pin<|b i)::Ei b dom (i+1)from he)with rfl|he
   ·rfl
   ·exact gW e he
  |var t E=>
   rcases xag.1 (show e∈(i,0,Dv.pin<|b i)::Ei b dom (i+1)from he)with rfl|he
   ·rfl
   ·exact gW e he
  |d t=>exact gW (dom:=dom) e he
  |q t=>exact gW (dom:=dom) e he
  |fn d c=>exact gW (dom:=dom) e he
def zmm(hm:P.follows .mixedOrders=I)(E:yZ P cf.tt)(hL:uz P cf.tt)(hC:∀s∈cf.cs,xh P s)(hX:Cx P cf){s:X2}{fn:QR}
 (hf:P.funcs[s.f]? =Z fn) (hb:BS P s.f=I) (hM:∀pn x r,s.M x=Z r->zkB cf fn s.dom s.cod s.bk pn x=Z r):xh P s:=by
 refine⟨hb,λx r h vs hd=> ?_⟩;have h:=hM (λo=>vs.getD o uL) x r h;unfold zkB at h;split at h
 ·next c hc=>
  have⟨H,h⟩:=z6 h;simp only[xab]at H;have⟨⟨⟨⟨hx,hy⟩,J⟩,hE⟩,Q⟩:=H;have J:=zY J;have Q:0<s.bk:=Nat.blt_eq.mp Q;have⟨b,hz⟩:∃b,s.bk=b+1:=⟨s.bk-1,W⟩;rw[hz];intro we Se F G w hl;refine U4 hf hc (by rw[hd];exact hy) λrest=> ?_;have e0:∀j v,vs[j]? =Z v->vs.getD (0+j) uL=v:=λj v m=>by simp_all
  refine X4 (fr:=⟨we,Se,F,G⟩) (N:=Nd.of fn.ntmps) hm E hL hC hX c hx O (.inl O) h (λt σ' z Ds env w _ C=> ?_) ?_
  ·have⟨T,C⟩:=JS C
   have i:Pk cf (cT σ' (fn.results.toList++Gn s.dom 0) s.cod) (fn.results.toList++Gn s.dom 0) s.cod (λy _=>Z y)=Z r->∀a:V6,yR a=env->
    ∃v,(Jp fn a.tmps).run P (jM Ds w)=.ok v (jM Ds w)/\∃u:xS wN,xeI v=.returned (znr (b+1) (X s.cod) u)/\zif s.dom vs (b+1) (X s.cod) u/\St we Se (Yj s.cod r u++F) (Yk s.cod r u++G) (jM Ds w):=λh a A=>by
    have⟨U,k,hi⟩:=C;have⟨S0,_,hA⟩:=hi.ex;have hu:zE S0 (RS P k env<|Ei (λo=>vs.getD o uL) s.dom 0) _:=zE.left<|zE.right hA;have hD:Z1 P ⟨we,Se,F,G⟩ ⟨0,[],[]⟩ σ' env (jM Ds w):=⟨⟨U.o1,λ_ g=>wS g H1,U.r1,λ_ g=>wS g H1⟩,k,hi.weak λS w A=>zE.append (zE.left A)<|zE.right<|zE.right A⟩;have hv:=U7 (fn.results.toList++Gn s.dom 0) s.cod hD;generalize cT σ' (fn.results.toList++Gn s.dom 0) s.cod=D at h hv;have⟨hB,l,hl⟩:=hv;have⟨y,os,e1,e2⟩:=zbd E h;cases e1;have⟨us,h1,h2,h3⟩:=e2 l ⟨we,Se,F,G⟩ env _ _ (λS w d t=>X6 d t) hl;have⟨h4,h5⟩:=C8 h2;have hn:X s.cod-(b+1)=X fn.results.toList:=W
    have V:=gK hu h5;rw[List.drop_zero]at V;refine⟨_,VI (rs:=fn.results.toList) (by rw[xdh])<|A▸h4,us,?_,⟨h1,by rw[hn];exact V⟩,?_⟩
    ·show xeI _=.returned (X3<|us.take<|X s.cod-(b+1));rw[hn]
    ·exact(St.dropM (B:=MS l<|vI D.ob os) h3).weak λS w d=>zE.append (zE.left d)<|zE.right<|zE.right d
   cases t with
   |n=>exact⟨.inl O,T,i z⟩
   |r=>exact⟨.inr O,T,i z⟩
   |x j=>cases z
   |p q=>cases z
  ·refine⟨⟨λe g=> ?_,λ_ g=>wS g H1,λe g p hp=> ?_,λe g p hp=> ?_⟩,λo=>vs.getD o uL,?_⟩
   ·have:=Ti e g;simpa using this
   ·have:=L5 e g p hp;simpa using this
   ·rw[gW e g]at hp;cases hp
   ·have e1:MS (λo=>vs.getD o uL) (WI s.dom x 0).2=Zo s.dom x vs:=zaG hd e0;show St we Se (MS _ (WI s.dom x 0).2++([]++F)) _ w;rw[e1];refine hl.weak λS w d=>zE.append (zag hd (λj v m=>⟨e0 j v m,OW m⟩)<|zE.left d)<|zE.append (zeH λj m=> ?_)<|zE.right d;have Y:vs[j]? =Z (vs[j]'W):=xak W;show L _ _ (0+j)=vs.getD (0+j) uL;rw[e0 j _ Y];exact OW Y
 ·cases h
end
end
section
section
variable{P:jP}
def zc:Ty->N wN
 |.i=>[.int .i64 0]
 |.u=>[.int .u64 0]
 |.b=>[.bool wL]
 |.ch=>[.int .u8 0]
 |.tx=>[.string ByteArray.empty]
 |.l _=>[.slice wF 0 0]
 |.p s t=>zc s++zc t
 |.a k t=>(Nm k<|zc t).flatten
 |.po _=>[.pointer wF]
 |.tr=>[.pointer wF]
 |.er=>[.nilIface]
 |.w1 t=>zc t
def zcF{α:Type}{e:zV α}{S:K->Prop}{w:wP}{x:α}{c:N wN}(h:e.p S x c w):∀k,yP e S (Nm k x) (Nm k c).flatten w
 |0=>rfl
 |k+1=>⟨c,_,O,h,zcF h k⟩
def zdQ(S:K->Prop)(w:wP):∀t:Ty,t.rep.p S t.z (zc t) w
 |.i=>⟨O,show(-9223372036854775808:J)<=0 by decide,show 0<=9223372036854775807 by decide⟩
 |.u=>⟨O,show 0<18446744073709551616 by decide⟩
 |.b=>rfl
 |.ch=>⟨O,show 0<256 by decide⟩
 |.tx=>⟨ByteArray.empty,O,O,by decide⟩
 |.l _=>⟨_,O,SlP.nil⟩
 |.p s t=>⟨_,_,O,zdQ S w s,zdQ S w t⟩
 |.a k t=>⟨xaT,zcF (zdQ S w t) k⟩
 |.po _=>rfl
 |.tr=>rfl
 |.er=> .inl ⟨O,O⟩
 |.w1 t=>zdQ S w t
def zne(t:Ty):X (zc t)=t.n:=by
 have:=t.rep.len<|zdQ (λ_=>Z5) default t;rw[this,t.n_rep]
def zgU:∀{k:K}{t:Ty}{i:K}{f:Fl t.D},xe k t i=Z f->∃d c,zc t=d++zc f.f++c/\X d=f.off
 |0,.w1 t,0,f,h=>by
  simp only[xe,xat]at h;subst h;exact⟨[],[],by simp[zc],O⟩
 |0,.w1 t,_+1,_,h=>by cases h
 |0,.i,_,_,h=>by cases h
 |0,.u,_,_,h=>by cases h
 |0,.b,_,_,h=>by cases h
 |0,.l _,_,_,h=>by cases h
 |0,.p _ _,_,_,h=>by cases h
 |0,.a _ _,_,_,h=>by cases h
 |0,.ch,_,_,h=>by cases h
 |0,.tx,_,_,h=>by cases h
 |0,.po _,_,_,h=>by cases h
 |0,.tr,_,_,h=>by cases h
 |0,.er,_,_,h=>by cases h
 |1,t,i,f,h=>by
  unfold xe at h;cases e:F i 0<;>rw[e]at h
  ·cases h
  ·simp only[Wd,xat]at h;subst h;exact⟨[],[],by simp[Fl.self],O⟩
 |k+2,.p s t,0,f,h=>by
  simp only[xe,xat]at h;subst h;exact⟨[],zc t,by simp[zc],O⟩
 |k+2,.p s t,i+1,f,h=>by
  simp only[xe]at h;split at h
  ·next f' g=>
   simp only[xat]at h;subst h;have⟨d,c,h1,j⟩:=zgU g;refine⟨zc s++d,c,?_,by rw[xaq,zne,j]⟩;simp only[zc];rw[h1];simp only[xao]
  ·cases h
 |k+2,.i,i,f,h=>by simp[xe]at h
 |k+2,.u,i,f,h=>by simp[xe]at h
 |k+2,.b,i,f,h=>by simp[xe]at h
 |k+2,.l _,i,f,h=>by simp[xe]at h
 |k+2,.a _ _,i,f,h=>by simp[xe]at h
def zlf(P:jP)(t n:K):(N (V K)×N (V<|K×v6×K))×V (N<|V<|K×K):=(((xaY<|n+(1-n)).map λi=>TA P t i,(xaY<|n+(1-n)).map λi=>zgu P t i),match plB P t with
 |some a=>Z<|a.toList.map Z
 |none=>wF)
def zeT(ty:Ty)(n:K):(N (V K)×N (V<|K×v6×K))×V (N<|V<|K×K):=(((xaY<|n+(1-n)).map λi=>(xe n ty i).map (·.off),(xaY<|n+(1-n)).map λi=>(xe n ty i).map λf=>(f.off,f.f.rep.agg,f.f.n)),Z<|(xaY<|n+(1-n)).map λi=>(xe n ty i).map λf=>(f.off,f.f.n))
def SN(P:jP)(t:wT)(a:TI):Prop:=match a.k with
 |.int k=>P.underlying t=Z (.int k)
 |.bool=>P.underlying t=Z .bool
 |.str=>P.underlying t=Z .string
 |.sl E=>P.underlying t=Z (.slice E)/\∃e,a.ty=.l e
 |.st n=>a.ty.rep.agg=I/\zlf P t n=zeT a.ty n
 |.ar k E=>a.ty.rep.agg=I/\P.underlying t=Z (.array k E)
 |.pt E=>P.underlying t=Z (.pointer E)
 |.ie=>P.underlying t=Z (.interface<|P.methodsAt t)
def zcO:∀{n:K}{t:Ty}{i:K}{f:Fl t.D},0<n->xe n t i=Z f->i<n
 |0,_,_,_,h0,h=>wS h0<|Nat.lt_irrefl 0
 |1,t,i,f,_,h=>by
  simp only[xe]at h;cases c:F i 0<;>rw[c]at h
  ·cases h
  ·simp_all
 |n+2,.p s t,0,f,_,h=>Nat.succ_pos _
 |n+2,.p s t,i+1,f,_,h=>by
  simp only[xe]at h;split at h
  ·next f' d=>exact Nat.succ_lt_succ<|zcO (Nat.succ_pos _) d
  ·cases h
 |n+2,.i,_,_,_,h=>by simp[xe]at h
 |n+2,.u,_,_,_,h=>by simp[xe]at h
 |n+2,.b,_,_,_,h=>by simp[xe]at h
 |n+2,.l _,_,_,_,h=>by simp[xe]at h
 |n+2,.a _ _,_,_,_,h=>by simp[xe]at h
 |n+2,.ch,_,_,_,h=>by simp[xe]at h
 |n+2,.tx,_,_,_,h=>by simp[xe]at h
 |n+2,.po _,_,_,_,h=>by simp[xe]at h
 |n+2,.tr,_,_,_,h=>by simp[xe]at h
 |n+2,.er,_,_,_,h=>by simp[xe]at h
 |n+2,.w1 _,_,_,_,h=>by simp[xe]at h
def TM{n:K}{t:Ty}{i:K}{f:Fl t.D}(h:xe n t i=Z f):i<n+(1-n):=by
 cases n with
 |zero=>
  cases t<;>cases i<;>first
   |exact xen
   |cases h
 |succ n=>have:=zcO (Nat.succ_pos n) h;lia
def zgJ.of{t:wT}{d:TI}(h:SN P t d):zgJ P t d:=by
 unfold SN at h;unfold zgJ;split at h
 ·simp_all
 ·simp_all
 ·simp_all
 ·simp_all
 ·next n h0=>
  simp only[h0];have⟨h1,h⟩:=h;have e:=kW (λq=>q.1.1) h;have g:=kW (λq=>q.1.2) h;have c:=kW Prod.snd h;simp only[zlf,zeT]at e g c;refine⟨h1,λi f b=> ?_,?_,λi f b=> ?_⟩;rotate_left 2
  ·have:=kW (λl:N (V<|K×v6×K)=>l[i]?) g;simp only[xcu,List.getElem?_range<|TM b,Option.map_some,b]at this;simpa using this
  ·have:=kW (λl:N (V K)=>l[i]?) e;simp only[xcu,List.getElem?_range<|TM b,Option.map_some,b]at this;simpa using this
  ·cases hp:plB P t with
   |none=>
    rw[hp]at c;cases c
   |some a=>
    rw[hp]at c;simp only[xat]at c;have⟨fs,k,m⟩:=ziR hp;refine⟨fs,k,a,m,λi f b=> ?_⟩;have:=kW (λl:N (V<|K×K)=>l[i]?) c;simp only[xcu,List.getElem?_range<|TM b,Option.map_some,b]at this;rw[<-Array.getElem?_toList]
    cases j:a.toList[i]? with
    |none=>rw[j]at this;cases this
    |some q=>rw[j]at this;simpa using this
 ·next h0=>simp only[h0];exact h
 ·next h0=>simp only[h0];exact h
 ·next h0=>simp only[h0];exact h
def zff.of{t:wT}{a:TI}(h1:tyB P t=Z (a.ty.rep.agg,a.ty.n,a.B,Z<|a.ty.rep.val<|zc a.ty))(c:(xcX 0 a.B && xcX 0 a.ty.n)=I)(f:SN P t a):zff P t a:=by
 rw[xab]at c;have b:=λS w=>zdQ S w a.ty;refine⟨⟨_,(by rw[Ty.n_rep];exact Ja.of h1),?_,λS w=> ?_,(λs h=>by rw[h];rfl),λn i off s g st j=> ?_⟩,xca c.1,(by rw[Ty.n_rep];exact xca c.2),zgJ.of f⟩
 ·rw[<-xev,zV.val_cells _<|b (λ_=>Z5) default,a.ty.rep.len<|b (λ_=>Z5) default]
 ·rw[zV.val_cells _<|b S w];exact b S w
 ·rw[zV.val_cells _<|b (λ_=>Z5) default];have⟨k,d,l,e⟩:=zgU j;rw[l,xao,xbz (by simp only at e;lia),e,xdb];rfl
def yZ.nil:yZ P []:=λ_ _ h=>by cases h
def yZ.cons{t:wT}{c:TI}{tt:N (K×TI)}(h:zff P t c)(k:yZ P tt):yZ P ((t,c)::tt):=by
 intro d a b;unfold Uc at b;cases e:F t d<;>rw[e]at b
 ·exact k d a b
 ·simp_all
def yZ.add{t:wT}{a:TI}{tt:N (K×TI)}(h1:tyB P t=Z (a.ty.rep.agg,a.ty.n,a.B,Z<|a.ty.rep.val<|zc a.ty))(b:(xcX 0 a.B && xcX 0 a.ty.n)=I)(c:SN P t a)(k:yZ P tt):yZ P ((t,a)::tt):=yZ.cons (zff.of h1 b c) k
def elB(tt:N (K×TI)):N (K×TI)->v6
 |[]=>I
 |(_,⟨.l s,.sl E,_⟩)::r=>(match Uc tt E with
  |some a=>(Ty.same a.ty s).isSome
  |none=>wL) && elB tt r
 |_::r=>elB tt r
def uz.of'{tt:N (K×TI)}:∀{l:N (K×TI)},elB tt l=I->∀t s E B,Uc l t=Z ⟨.l s,.sl E,B⟩->∃a,Uc tt E=Z a/\a.ty=s
 |[],_,_,_,_,_,h=>by cases h
 |(c,d)::r,h,t,s,E,B,b=>by
  have e:elB tt r=I:=by
   unfold elB at h;split at h
   ·simp_all
   ·simp_all
   ·simp_all
  unfold Uc at b;cases f:F c t<;>rw[f]at b
  ·exact uz.of' e t s E B b
  ·cases b;unfold elB at h;simp only[xab]at h;have h:=h.1;split at h
   ·next a g=>
    refine⟨a,g,?_⟩
    cases i:Ty.same a.ty s with
    |none=>rw[i]at h;cases h
    |some p=>exact p.down
   ·cases h
def uz.of{tt:N (K×TI)}(h:elB tt tt=I):uz P tt:=λt s E B=>uz.of' h t s E B
def nK.nil:nK P []:=λ_ _ h=>by cases h
def nK.add{f:K}{b:v6}{ex:N (K×v6)}{fn:QR}(h0:P.funcs[f]? =Z fn)(h1:(fn.name== "runtime.NumGoroutine")=wL)(g:fn.body=wF)(h:(xeF fn).isNone=I)
 (i:b=I->xeS fn=Z (λargs=>do
  let(x,y,c)<-xbJ "Add64" args
  pure (xcq ((x+y+c)%xbf)<|(x+y+c)/xbf)))
 (j:b=wL->xeS fn=Z (λargs=>do
  let(x,y,b)<-xbJ "Sub64" args
  pure (xcq ((x+xbf-y-b)%xbf) (if x<y+b then 1 else 0)))) (k:nK P ex):nK P ((f,b)::ex):=by
 intro f' d a;unfold Uc at a;cases e:F f f'<;>rw[e]at a
 ·exact k f' d a
 ·simp_all
def cN:∀s∈([]:N X2),xh P s:=λ_ h=>wS h H1
theorem cC{s:X2}{l:N X2}(h:xh P s)(k:∀s∈l,xh P s):∀q∈s::l,xh P q:=by grind
def sg0{s:X2}(a:BS P s.f=I)(b:∀x,s.M x=wF):xh P s:=⟨a,λx r h=>by rw[b x]at h;cases h⟩
def Cx.of{tt:N (K×TI)}{ex:N (K×v6)}{cs:N X2}{an:An}{fu:K}(a:nK P ex)(hp:P=Tryz.prog):Cx P ⟨tt,cs,an,fu,ex,[],[],[],[],[]⟩:=⟨a,λ_ h=>wS h H1,λ_ h=>wS h H1,λ_ h=>wS h H1,hp,λ_ h=>wS h H1,λ_ h=>wS h H1⟩
def sgP(a:P.follows .mixedOrders=I){tt:N (K×TI)}{ex:N (K×v6)}(b:yZ P tt)(c:uz P tt)(d:nK P ex)(hp:P=Tryz.prog){cs:N X2}(an:An){fu:K}{s:X2}{fn:QR}(e:P.funcs[s.f]? =Z fn)(g:∀s∈cs,xh P s)(i:BS P s.f=I)(j:s.bk=0)(k:∀x,zar ⟨tt,cs,an,fu,ex,[],[],[],[],[]⟩ fn s.dom s.cod x=s.M x):xh P s:=
 zac (cf:=⟨tt,cs,an,fu,ex,[],[],[],[],[]⟩) a b c g (.of d hp) e i j λx r h=>(k x).trans h
def sgG(b:P.follows .mixedOrders=I){tt:N (K×TI)}{ex:N (K×v6)}(c:yZ P tt)(d:uz P tt)(e:nK P ex)(hp:P=Tryz.prog){cs:N X2}(an:An){fu:K}{s:X2}{fn:QR}(g:P.funcs[s.f]? =Z fn)(i:∀s∈cs,xh P s)(j:BS P s.f=I)(k:∀a x,zkB ⟨tt,cs,an,fu,ex,[],[],[],[],[]⟩ fn s.dom s.cod s.bk a x=s.M x):xh P s:=
 zmm (cf:=⟨tt,cs,an,fu,ex,[],[],[],[],[]⟩) b c d i (.of e hp) g j λa x r h=>(k a x).trans h
end
end
section
def zhi:(dom:N Ty)->mV dom->K->N (K×K×Dv)
 |[],_,_=>[]
 |t::r,x,i=>(i,0,.d t x.1)::zhi r x.2 (i+1)
def zjd(g:Z3)(t:K)(σ:Sg):V (N PD):=match get ⟨0,[],[]⟩ σ t 0 with
 |some (.fn f cs)=>jb (F f g)<|some cs
 |_=>wF
def zqc(cf:Cf)(fn:QR)(dom:N Ty)(g:Z3)(x:mV dom):V (N PD):=match fn.body,fn.results.toList with
 |some c,[.tmp t]=>jb (TB fn.ntmps c && xfQ (X dom) fn.ntmps)<|iR cf c ⟨0,[],[]⟩ ⟨0,zhi dom x 0,[]⟩ λq σ=>match q with
  |.r=>zjd g t σ
  |.n=>zjd g t σ
  |_=>wF
 |_,_=>wF
def zkc(t:Ty)(E E1:wT)(ix:N K)(lo n:K)(σ:Sg):V (N<|N t.D):=match get ⟨0,[],[]⟩ σ 3 0 with
 |some (.mv o a d)=>(match xy σ.ob o with
  |some (.mat e f g b c)=>jb (F E f && F E1 g)<|Ty.cast (.l (.l e)) (.l (.l t)) b λy=>ck (a=lo/\d=n/\c=ix)<|some y
  |_=>wF)
 |_=>wF
def zn9(cf:Cf)(fn:QR)(t:Ty)(E E1:wT)(e:wN)(b:N (N t.D))(ix:N K)(r:K)(a p:J)(lo n:K):V (N<|N t.D):=match fn.body,fn.results.toList with
 |some c,[]=>jb (TB fn.ntmps c && xfQ 4 fn.ntmps)<|iR cf c ⟨0,[(3,0,.pin e)],[]⟩ ⟨1,[(0,0,.rw 0 r),(1,0,.d .i a),(2,0,.d .i p),(3,0,.mv 0 lo n)],[(0,.mat t E E1 b ix)]⟩ λq σ=>match q with
  |.r=>zkc t E E1 ix lo n σ
  |.n=>zkc t E E1 ix lo n σ
  |_=>wF
 |_,_=>wF
section
variable{P:jP}{cf:Cf}{env:y4}{w:wP}
def zcq{S:K->Prop}{vs:K->wN}:∀{dom:N Ty}{x:mV dom}{i:K}{l:N wN},X l=X dom->(∀j v,l[j]? =Z v->env (i+j)=v)->zE S (tsF dom x l) w->zE S (RS P vs env<|zhi dom x i) w
 |[],_,_,_,_,_,_=>trivial
 |a::dom,x,i,[],hl,_,_=>by cases hl
 |a::dom,x,i,v::l,hl,h,b=>by
  have c:zE S (RS P vs env<|zhi dom x.2<|i+1) w:=zcq (by simpa using hl) (λj v d=>by
   have:=h (j+1) v (by simpa using d);rw[(W:i+1+j=i+(j+1))];exact this) b.2
  have h0:env i=v:=h 0 v O;have e:=b.1;exact⟨show(fV a.rep x.1<|env i).p S w by rw[h0];exact e,c⟩
def OJ:∀{dom:N Ty}{x:mV dom}{i:K},∀e∈zhi dom x i,vn e.2.2=wF
 |[],_,_,e,he=>wS he H1
 |a::dom,x,i,e,he=>by
  obtain rfl|he:=xag.1 he
  ·rfl
  ·exact OJ e he
def zmz(o:P.follows .mixedOrders=I)(y:yZ P cf.tt)(z:uz P cf.tt)(D:∀s∈cf.cs,xh P s)(E:Cx P cf){s:PY}{fn:QR}
 (H:P.funcs[s.f]? =Z fn) (J:BS P s.f=I) (K:∀x,zqc cf fn s.dom s.g x=Z (s.mc x)):zaA P s:=by
 refine⟨J,λx vs hd=>FnG.plain ?_⟩;have h:=K x;unfold zqc at h;split at h
 ·next c t hc L=>
  have⟨l,h⟩:=z6 h;rw[xab]at l;intro we Se F G w M;refine U4 H hc (by rw[hd];exact l.2) λrest=> ?_;refine X4 (fr:=⟨we,Se,F,G⟩) (N:=Nd.of fn.ntmps) o y z D E c l.1 O (.inl O) h (λq σ' k Ds env w _ m=> ?_) ?_
  ·have⟨hl,m⟩:=JS m
   have i:zjd s.g t σ'=Z (s.mc x)->∀a:V6,yR a=env->
    ∃v,(Jp fn a.tmps).run P (jM Ds w)=.ok v (jM Ds w)/\∃u:wN,xeI v=.returned u/\Z5/\St we Se ([]++F) ([zms s.g (s.mc x) u]++G) (jM Ds w):=λh a Q=>by
    unfold zjd at h;split at h
    ·next f cs R=>
     have⟨hi,h1⟩:=z6 h;have hi:=zY hi;subst hi;cases h1;have⟨Y,vs',hn⟩:=m;have T:St we Se (MS vs' σ'.ob++F) (RS P vs' env σ'.rg++([]++G)) (jM Ds w):=hn;refine⟨_,VI (rs:=[.tmp t]) (vs:=[env t]) (by rw[<-L,xdh])<|Q▸⟨O,wR⟩,env t,O,wR,?_⟩;have U:=St.dropM (A:=[]) (B:=MS vs' σ'.ob) (C:=F) (by simpa using T);refine U.weak λS w b=>⟨?_,?_⟩
     ·exact X6 (fr:=⟨we,Se,F,G⟩) (cx:=⟨0,[],[]⟩) (show zE S (GS P vs' env ⟨we,Se,F,G⟩ ⟨0,[],[]⟩ σ') w from b) t 0 _ R
     ·exact zE.right b
    ·cases h
   cases q with
   |n=>exact⟨.inl O,hl,i k⟩
   |r=>exact⟨.inr O,hl,i k⟩
   |x j=>cases k
   |p q=>cases k
  ·refine⟨⟨λ_ d=>wS d H1,λ_ d=>wS d H1,λe d p hp=> ?_,λ_ d=>wS d H1⟩,λ_=>uL,?_⟩
   ·rw[OJ e d]at hp;cases hp
   ·show St we Se ([]++([]++F)) _ w;exact M.weak λS w b=>zE.append (zcq hd (λj v V=>OW V)<|zE.left b)<|zE.right b
 ·cases h
def zfH{α:Type}{e:zV α}{E E1:wT}{u:wN}{d:N (N α)}{ix:N K}{S:K->Prop}(h:(Aq e E E1 u d ix).p S w):∀a k c,yC u=.slice a k c->a.isSome=I->k=X ix:=by
 rcases eC (NG h).2.1 with⟨hv,_⟩|⟨b,cap,hv,_⟩
 ·simp_all
 ·simp_all
def zkX{cx σ:Sg}{t i:K}{d:Dv}(h:get ⟨0,[],[]⟩ σ t i=Z d):get cx σ t i=Z d:=by
 unfold get at h⊢;split at h
 ·exact h
 ·cases h
def zmX(V:P.follows .mixedOrders=I)(Y:yZ P cf.tt)(hL:uz P cf.tt)(hC:∀s∈cf.cs,xh P s)(hX:Cx P cf){s:Er}{fn:QR}
 (hf:P.funcs[s.f]? =Z fn) (hb:BS P s.f=I) (hM:∀pn b ix r a p lo n z,s.M b ix r a p lo n=Z z->zn9 cf fn s.t s.E s.E1 pn b ix r a p lo n=Z z):S9 P s:=by
 refine⟨hb,λb ix r a p lo n z hz u hr hv hx hl hy hA we Se F G w hn=> ?_⟩;have h:=hM hv b ix r a p lo n z hz;unfold zn9 at h;split at h
 ·next c hc hD=>
  have⟨m,h⟩:=z6 h;rw[xab]at m;have hi:∀a k c,yC u=.slice a k c->a.isSome=I->k=X ix:=wy hn (i:=0) O λS hp=>zfH hp;refine U4 (args:=[hr,.int .i64 a,.int .i64 p,hv]) hf hc m.2 λrest=> ?_;refine X4 (fr:=⟨we,Se,F,G⟩) (N:=Nd.of fn.ntmps) V Y hL hC hX c m.1 O (.inl O) h (λq σ' B Ds env w _ D=> ?_) ?_
  ·have⟨Q,D⟩:=JS D
   have y:zkc s.t s.E s.E1 ix lo n σ'=Z z->∀a:V6,yR a=env->
    ∃v,(Jp fn a.tmps).run P (jM Ds w)=.ok v (jM Ds w)/\∃v' R,xeI v=.returned v'/\yC R=yC u/\St we Se (Aq s.t.rep s.E s.E1 R z ix::F) G (jM Ds w):=λh a ha=>by
    unfold zkc at h;split at h
    ·next o H n' hg=>
     split at h
     ·next t' E' F' A g m=>
      have⟨J,h1⟩:=z6 h;rw[xab]at J;have hF:=zY J.1;have hG:=zY J.2;subst hF hG;have⟨e,C⟩:=z7 h1;cases e;obtain⟨⟨rfl,rfl,rfl⟩,K⟩:=Zm C;cases K;have⟨hB,vs',hd⟩:=D;have⟨S0,_,T⟩:=hd.ex;have hu:env 3=hv:=(zE.left<|zE.right T).1;have U:SU (yC<|vs' o) H n' (env 3):=X6 T 3 0 _<|zkX hg;rw[hu]at U;have C:St we Se (Aq s.t.rep s.E s.E1 (vs' o) A g::OS vs' ⟨we,Se,F,G⟩ ⟨0,[(3,0,.pin hv)],[]⟩ (yx σ'.ob o)) (GS P vs' env ⟨we,Se,F,G⟩ ⟨0,[(3,0,.pin hv)],[]⟩ σ') (jM Ds w):=jG m hd;have hj:∀a k c,yC (vs' o)=.slice a k c->a.isSome=I->k=X g:=wy C (i:=0) O λS hp=>zfH hp;refine⟨_,VI (rs:=[]) (vs:=[]) (by rw[<-hD,xdh]) wR,_,vs' o,O,U.same hl hj hi,?_⟩;have K:St we Se ([Aq s.t.rep s.E s.E1 (vs' o) A g]++(MS vs' (yx σ'.ob o)++F)) (GS P vs' env ⟨we,Se,F,G⟩ ⟨0,[(3,0,.pin hv)],[]⟩ σ') (jM Ds w):=C;exact(St.dropM K).weak λS w l=>zE.right<|zE.right l
     ·cases h
    ·cases h
   cases q with
   |n=>exact⟨.inl O,Q,y B⟩
   |r=>exact⟨.inr O,Q,y B⟩
   |x j=>cases B
   |p q=>cases B
  ·refine⟨⟨λe d=> ?_,λ_ d=>wS d H1,λe d q L=> ?_,λe d q L=> ?_⟩,λ_=>u,?_⟩
   ·obtain rfl:=xad.1 d;exact xen
   ·simp only[xag,H1,gC]at d;obtain rfl|rfl|rfl|rfl:=d<;>cases L<;>exact xen
   ·obtain rfl:=xad.1 d;cases L
   ·refine hn.weak λS w l=>⟨hx,wB hy,wB hA,hl,O,l⟩
 ·cases h
end
end
end Go.Proofs.YtmggkmchbdanfaaGreat
