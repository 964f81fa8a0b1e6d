/- What a proof needs: rules of walking, mirrors of functions and their plain laws. No condition. -/
import Derived.Test.YtoegnnjcmlghhaaGreatZf4
set_option linter.all false
namespace Go.Proofs.YtoegnnjcmlghhaaGreat
open Bool renaming false->I,true->wF
open Go renaming Value->wN,World->wP,Code->Wn,results->V9,Func->QR,Act->Jp,Calls->Us
open Go.Proofs.YtoegnnjcmlghhaaGreat renaming Zr->M,bd->Y,za->U,nm->B,cC->D,ze->Q,zt->A
open List renaming length->X,length->i0
open Nat renaming beq->E
open Option renaming some->Z,none->wL
open _root_ renaming rfl->O,List->N,Int->J,Nat->K,Option->V,List->xS,Int->wl,Nat->wr,Option->ww,absurd->wR,trivial->wS,Bool->wW,congrArg->kW,if_false->ut,if_true->uL,decide_eq_false->uT,decide_eq_true->Z3,Unit->Z4,True->XS,or_false->UL,if_pos->UT,true_and->eL
open And renaming intro->xfF
open Bool renaming false_eq_true->xak
open Classical renaming byContradiction->xae
open Ending renaming returned->xeG
open Int renaming emod_lt_of_pos->xdI,emod_nonneg->xcT,eq_ofNat_of_zero_le->xaA,fdiv->xfV,mul_add->xfx,natAbs_mul->xcC,natAbs_neg->xfC,natCast_add->xeD,natCast_nonneg->xdm,pow_succ->xbY,tdiv->xct,tmod->xca,toNat_natCast->xbc
open Lib renaming bitLen->xeZ
open List renaming append_assoc->xaf,cons_append->xbF,drop->xdM,drop_eq_getElem_cons->xbT,drop_eq_nil_of_le->xcd,eq_nil_of_length_eq_zero->xbm,ext_getElem?->xcH,getD_cons_succ->xdu,getD_eq_getElem?_getD->H1,getElem?_eq_getElem->xah,getElem?_eq_none->xbD,getElem_mem->xbE,length_append->xap,length_cons->xau,length_drop->xbR,length_eq_zero_iff->xbs,length_nil->xbH,length_range->xep,length_replicate->xaZ,length_set->xbC,length_take->xax,mem_append->So,mem_cons->xaa,mem_cons_of_mem->UV,mem_cons_self->FS,mem_map->xat,mem_of_mem_drop->xeO,mem_of_mem_take->xel,mem_or_eq_of_mem_set->xej,mem_singleton->xad,nil_append->xby,not_mem_nil->IR,range->xaH,range_succ->xdl,replicate->xac,replicate_succ->xds,set_append_right->xdD,set_cons_succ->xfg,take->xdB,take_add_one->xeL,take_append_drop->xbv,take_length->xcw,take_of_length_le->xaQ,take_succ_cons->xes
open List.cons renaming injEq->xeF
open Nat renaming add_assoc->xcU,add_comm->xdA,add_mul->xbb,add_mul_div_left->xcm,add_mul_mod_self_left->xbV,add_sub_cancel->xfi,add_zero->xbK,div_add_mod->xbt,div_div_eq_div_mul->xaE,div_eq_of_lt->xbg,div_le_self->xcp,div_lt_iff_lt_mul->xaX,div_mul_le_self->xcS,div_one->xdK,eq_zero_of_not_pos->xfq,eq_zero_or_pos->xcB,le_antisymm->xcR,le_div_iff_mul_le->xcD,le_max_left->xeo,le_max_right->xdY,le_mul_of_pos_left->xdV,le_of_lt->xda,le_of_not_lt->xbu,le_refl->Nm,le_succ->xbN,le_trans->xal,lt_of_le_of_lt->xaK,lt_of_lt_of_le->xao,lt_of_not_le->xdf,lt_or_ge->xbW,lt_succ_self->xbS,lt_trans->xfb,min_eq_left->xce,mod_add_div->xen,mod_eq_of_lt->xam,mod_lt->xaS,mul_add->xbk,mul_assoc->xaP,mul_comm->xaO,mul_div_cancel->xfj,mul_div_mul_right->xfG,mul_le_mul->xbo,mul_le_mul_left->xaD,mul_le_mul_right->xan,mul_left_comm->xdv,mul_lt_mul''->xdL,mul_lt_mul_of_pos_right->xbX,mul_mod_mul_right->xeb,mul_one->xdU,mul_zero->xcK,not_lt_zero->xbn,one_mul->xcy,pos_of_ne_zero->xco,pow_add->xbz,pow_le_pow_right->xav,pow_lt_pow_right->xeP,pow_mul->xcz,pow_pos->xaU,pow_succ->xbf,pow_succ'->xdO,pow_zero->xeH,strongRecOn->xdz,sub_le->xfa,sub_self->xcQ,zero_add->xaJ,zero_le->xai,zero_lt_one->xdS,zero_mod->xfW,zero_mul->xcu
open Option.some renaming inj->xdC
open Prod.mk renaming injEq->xcO
open Sum renaming elim->xfB
section
set_option maxRecDepth 100000
section
open Go.Proofs.Tryz
variable(fu:wr)
def Xd:z7 ⟨87,[.d (.po (.w1 (.p yr (.l (.p A yz)))))],[.d .b],λx=>qy fu x.1,0⟩:=sq fu wy func87<|cN
def wJ:z7 ⟨136,[.d yz],[.d yz],λx=>wx fu x.1,0⟩:=sq fu ⟨[],[],[(1,q1 [(0,.d yz)] 0 [(0,.d yz)])],[],[],[],[]⟩ func136<|cN
def xa:z7 ⟨136,[.own .u 73],[.own .u 73],λx=>xq fu x.1,0⟩:=sq fu ⟨[],[],[(1,q1 [(0,.own .u 73)] 0 [(0,.own .u 73)])],[],[],[],[]⟩ func136<|cN
set_option maxRecDepth 100000 in
set_option maxHeartbeats 1000000 in
def VO(l:N K)(v0:wN)(c:X l<=17592186044416):Fn Tryz.prog 190 [v0].toArray [fV (eS eU) (l) v0] (λu:wN=>u) (λu=>[fV (eS eU) (l) u]) (λ_=>XS):=by
 refine NT func190 O O λwe Se rest=> ?_;refine zei (λS w h=>zlw h.1) λhc=> ?_;refine zei (λS w h=>zeI h.1) λhd=> ?_;refine Vi ?_;refine vy ?_;refine GF 1 [(0,v0)] O λrest=> ?_;refine ks ?_;refine Vi ?_;refine Vi ?_;refine vy ?_;refine GF 1 [(0,v0),(3,v0)] O λrest=> ?_;refine zjn O O (zjr (e:=eU) (xs:=l) Tryz.underlying42 O O<|λS w h=>h.1) λq1 d=> ?_;refine GF 0 [(0,v0),(4,.bool<|q1)] O λrest=> ?_;refine ks ?_;refine zm2 (q1) O (λb=> ?_)<|λb=> ?_
 ·refine Vi ?_;refine vy ?_;refine GF 1 [(2,.slice wL 0 0)] O λrest=> ?_;refine ks ?_;refine zau ?_;exact zhX (.slice wL 0 0:wN) Tryz.results190 O wS<|λS w h=>⟨(cvt (show([])=(l)from by first|rfl|simp_all) zet),wS⟩
 ·refine Ie ?_;refine Vi ?_;refine vy ?_;refine zdK (e:=eU) O O Tryz.underlying42 zom λv1=> ?_;refine GF 1 [(5,v1),(6,v0)] O λrest=> ?_;refine zci (e:=eU) (xs:=[]) (ys:=l) 0 O O Tryz.underlying42 zom O gS O O O (λS w h=>h.1) (by first|lia|(simp only[xbH,xap,xaZ,xau,xax,xbR];lia)|(simp;lia)) (by first|lia|(simp only[xbH,xap,xaZ,xau,xax,xbR];lia)|(simp;lia)) λa=> ?_;show TL _ _ _ _ [mO eU 73 a<|[]++l] _ _ _ _ _;refine GF 1 [(2,a)] O λrest=> ?_;refine ks ?_;refine zau ?_;refine zcD (λw h=>MC 0 h O) ?_;exact zhX a Tryz.results190 O wS<|λS w h=>⟨(cvt (show([]++l)=(l)from by first|rfl|simp_all) h.1),wS⟩
def Vr(a0:N K)(a:wN)(r0:N K)(H:wc fu a0=Z r0):Fn Tryz.prog 190 [a].toArray [fV (eS eU) (a0) a] (λu:wN=>u) (λu=>[fV (eS eU) (r0) u]) (λ_=>XS):=by
 have⟨b,H⟩:=u9 H;obtain rfl:=zkS H;exact VO a0 a b
def VL:z7 ⟨190,[.d yz],[.d yz],λx=>wc fu x.1,0⟩:=zlH (s:=yz) (t:=yz) g8 λx r v h=>Vr fu x v r h
def iG:z7 ⟨157,[.d yz],[.d yz],λx=>Yc fu x.1,0⟩:=sq fu wy func157<|D (xa fu)<|D (wJ fu)<|D (VL fu)<|cN
def qt:z7 ⟨108,[.d .b,.d yz],[.d A],λx=>xg fu x.1 x.2.1,0⟩:=sq fu wy func108<|D (iG fu)<|cN
def Yk:z7 ⟨135,[.d A],[.d A],λx=>vE fu x.1,0⟩:=sq fu wy func135<|D (qt fu)<|cN
def vm:z7 ⟨98,[.d A],[.d .i],λx=>xv fu x.1,0⟩:=sq fu ⟨[1],[],[],[],[],[],[]⟩ func98<|D (Yk fu)<|cN
def Eb:z7 ⟨134,[.d .i,.d A],[.d A],λx=>Je fu x.1 x.2.1,0⟩:=sq fu wy func134<|D (Yk fu)<|cN
def xp:z7 ⟨127,[.d yr,.fn [.i,A] [A]],[.own A 44],λx=>zH fu x.1<|λz0 a=>x.2.1 (z0,a,()),0⟩:=sq fu ⟨[],[(262149,⟨[5],[(.n,⟨[(11,.d yr),(12,.d .i),(14,.d .b)],[]⟩)]⟩)],[(3,q1 [(13,.d .i),(5,.own A 44)] 0 [(5,.own A 44)])],[],[],[],[]⟩ func127<|cN
def yY:z7 ⟨88,[.d yr],[.own A 44],λx=>zM fu x.1,0⟩:=sq fu ⟨[],[],[(1,q1 [(0,.d yr)] 0 [(0,.d yr)])],[],[],[],[]⟩ func88<|D (vm fu)<|D (Eb fu)<|D (xp fu)<|cN
def oJ:z7 ⟨43,[.d (.po (.w1 (.p yr (.l (.p A yz)))))],[.own A 44],λx=>kV fu x.1,0⟩:=sq fu wy func43<|D (yY fu)<|D (Xd fu)<|cN
def Dj:z7 ⟨184,[.d yz,.d .i],[.d .u],λx=>WG fu x.1 x.2.1,0⟩:=sq fu wy func184<|cN
def Rs:z7 ⟨183,[.d .i,.d .u,.q yz,.q yz],[.d .u,.d .u],λx=>bO fu x.1 x.2.1 x.2.2.1 x.2.2.2.1,0⟩:=sq fu wy func183<|D (Dj fu)<|cN
def Zw:z7 ⟨182,[.d .i,.fn [.i,.u] [.u,.u]],[.own .u 73,.d .u],λx=>vG fu x.1<|λz0 a=>x.2.1 (z0,a,()),0⟩:=sq fu ⟨[],[],[(4,q1 [(7,.d .u),(13,.d .i),(6,.own .u 73)] 0 [(7,.d .u),(6,.own .u 73)])],[],[],[],[]⟩ func182<|cN
def rF:z7 ⟨139,[.d yz,.d yz],[.own .u 73],λx=>Zj fu x.1 x.2.1,0⟩:=sq fu wy func139<|D (xa fu)<|D (wJ fu)<|D (Zw fu)<|D (Rs fu)<|cN
def N3:z7 ⟨225,[.d .i,.d .u,.q yz,.q yz],[.d .u,.d .u],λx=>dG fu x.1 x.2.1 x.2.2.1 x.2.2.2.1,0⟩:=sq fu wy func225<|D (Dj fu)<|cN
def rI:z7 ⟨181,[.d yz,.d yz],[.own .u 73,.d .i],λx=>QE fu x.1 x.2.1,0⟩:=sq fu wy func181<|D (xa fu)<|D (wJ fu)<|D (N3 fu)<|D (Zw fu)<|cN
def Cz:z7 ⟨138,[.d yz,.d yz],[.own .u 73],λx=>X7 fu x.1 x.2.1,0⟩:=sq fu wy func138<|D (rI fu)<|cN
def sY:z7 ⟨140,[.d yz,.d .i],[.own .u 73],λx=>Yp fu x.1 x.2.1,0⟩:=sq fu wy func140<|cN
def J0:z7 ⟨224,[.d .u,.d .u],[.d .u,.d .u],λx=>qC fu x.1 x.2.1,0⟩:=sq fu wy func224<|cN
def Pk:z7 ⟨223,[.d .i,.d .u,.q yz,.q .u],[.d .u,.d .u],λx=>dJ fu x.1 x.2.1 x.2.2.1 x.2.2.2.1,0⟩:=sq fu wy func223<|D (J0 fu)<|cN
def FV:z7 ⟨179,[.d yz,.d .u],[.own .u 73],λx=>QG fu x.1 x.2.1,0⟩:=sq fu wy func179<|D (Zw fu)<|D (Pk fu)<|cN
def LX:z7 ⟨137,[.d yz,.d yz],[.own .u 73],λx=>Qa fu x.1 x.2.1,0⟩:=sq fu ⟨[],[(262149,⟨[5],[(.n,⟨[(0,.d yz),(18,.d yz),(19,.d .i),(21,.d .b)],[]⟩)]⟩),(524297,⟨[5,27],[(.n,⟨[(0,.d yz),(6,.d .i),(18,.d yz),(19,.d .i),(20,.d .i),(28,.d .i),(30,.d .b)],[]⟩)]⟩)],[(3,q1 [(20,.d .i),(5,.own .u 73)] 0 [(5,.own .u 73)]),(7,q1 [(8,.d .u),(29,.d .i),(5,.own .u 73),(27,.own .u 73)] 2 [(5,.own .u 73)])],[],[],[],[]⟩ func137<|D (xa fu)<|D (wJ fu)<|D (FV fu)<|cN
def zda:WZ:=⟨90,[.d yz,.d yz],[.own .u 73],λx=>Zb fu x.1 x.2.1,0⟩
def Uh:∀fu:K,z7 (zda fu)
 |0=>sg0 g8 λ_=>O
 |fu+1=>sq fu wy func90<|D (xa fu)<|D (wJ fu)<|D (LX fu)<|D (Cz fu)<|D (rF fu)<|D (sY fu)<|D (Uh fu)<|cN
def Av:z7 ⟨234,[.d .i],[.d .b],λx=>ZV fu x.1,0⟩:=sq fu wy func234<|cN
def ov:z7 ⟨195,[.d .i,.d .i],[.d .i],λx=>ue fu x.1 x.2.1,0⟩:=sq fu wy func195<|D (Av fu)<|cN
def iZ:z7 ⟨235,[.d .u],[.d .b],λx=>jW fu x.1,0⟩:=sq fu wy func235<|cN
def eC:z7 ⟨196,[.d .u,.d .u],[.d .i],λx=>qD fu x.1 x.2.1,0⟩:=sq fu wy func196<|D (iZ fu)<|cN
def ru:z7 ⟨160,[.d yz,.d yz],[.d .i],λx=>XU fu x.1 x.2.1,0⟩:=sq fu ⟨[],[],[(5,⟨⟨[(5,.d .i)],[]⟩,⟨[],[(.x 0,⟨[],[]⟩),(.r,⟨[(4,.d .i)],[]⟩)]⟩⟩)],[],[],[],[]⟩ func160<|D (xa fu)<|D (wJ fu)<|D (ov fu)<|D (eC fu)<|cN
def MV:z7 ⟨264,[.d .i,.d .u,.q yz,.q .i],[.d .u,.d .u],λx=>db fu x.1 x.2.1 x.2.2.1 x.2.2.2.1,0⟩:=sq fu wy func264<|cN
def re:z7 ⟨218,[.d yz,.d .i],[.own .u 73,.d .i],λx=>X8 fu x.1 x.2.1,0⟩:=sq fu ⟨[],[],[],[(4,[23])],[],[],[]⟩ func218<|D (MV fu)<|D (sY fu)<|D (xa fu)<|D (wJ fu)<|D (Zw fu)<|cN
def Ow:z7 ⟨265,[.d .i,.d .u,.q yz,.q .i],[.d .u,.d .u],λx=>dN fu x.1 x.2.1 x.2.2.1 x.2.2.2.1,0⟩:=sq fu wy func265<|D (Dj fu)<|cN
def FB:z7 ⟨220,[.d yz,.d .i],[.own .u 73],λx=>KU fu x.1 x.2.1,0⟩:=sq fu ⟨[2,3],[],[],[],[],[],[]⟩ func220<|D (xa fu)<|D (wJ fu)<|D (Ow fu)<|D (Zw fu)<|cN
set_option maxRecDepth 100000 in
set_option maxHeartbeats 1000000 in
def nQ(fu:K)(a0:K)(b:aB a0)(r0:J)(H:xO fu a0=Z r0):Fn Tryz.prog 263 [uv a0].toArray [] (λ_:Z4=>iv<|r0) (λ_=>[]) (λ_=>Jx r0):=by
 unfold xO at H;refine NT func263 O O λwe Se rest=>Vi<|vy<|YN 1 [(2,iv 0)] O<|ks<|Vi ?_
 have⟨B,d,e⟩:=r8 H;refine T_X [(.n,JQ we Se (G:=K×J) (λ(d1,i1)=>(⟨[],[],[(0,uv d1),(2,iv<|i1)]⟩:Inv))<|λ(d1,i1)=>(d1,i1)=B/\aB d1/\Jx i1)] ?_ ⟨?_,wS⟩
 ·replace H:=d
  refine Vi<|vy<|YN 1 [(3,uv a0)] O<|Te O O O O (λh1=> ?_) (λh1=> ?_)
  ·replace H:=zmF h1 H
   refine ks<|Ka O<|Vi<|vy<|YN 1 [(5,uv a0)] O ?_
   have⟨f,r,H⟩:=xJ H
   refine Zp O O (C8 (c:=(f:J)) O O (xdm _)<|zcu r<|pA (a:=a0))<|YN 1 [(0,uv f)] O<|ks<|vy<|YN 1 [(2,iv 32)] O<|ks ?_
   exact zbX (f,32) (xfF (xdC H)<|xfF (BT b r) (gS:Jx (32))) O<|λw h=>St.weak h<|λS w h=>wS
  replace H:=zmT h1 H
  refine ks<|Qy O<|Ie ?_
  exact zbX (a0,0) (xfF (xdC H)<|xfF b (gS:Jx (0))) O<|λw h=>St.weak h<|λS w h=>wS
 refine zfM ?_;rintro⟨d1,i1⟩ ⟨g,hi,hn⟩ rest;subst g;replace H:=e;clear d;refine zkj O<|Vi ?_
 have⟨C,d,e⟩:=r8 H;refine T_X [(.n,JQ we Se (G:=K×J) (λ(d2,i2)=>(⟨[],[],[(0,uv d2),(2,iv<|i2)]⟩:Inv))<|λ(d2,i2)=>(d2,i2)=C/\aB d2/\Jx i2)] ?_ ⟨?_,wS⟩
 ·replace H:=d
  refine Vi<|vy<|YN 1 [(7,uv d1)] O<|Te O O O O (λi=> ?_) (λi=> ?_)
  ·replace H:=zmF i H
   refine ks<|Ka O<|Vi<|vy<|YN 1 [(9,uv d1)] O ?_
   have⟨j,s,H⟩:=xJ H
   refine Zp O O (C8 (c:=(j:J)) O O (xdm _)<|zcu s<|pA (a:=d1))<|YN 1 [(0,uv j)] O<|ks<|vy<|YN 1 [(11,iv<|i1)] O ?_
   have⟨k,D,t,H⟩:=QQ H
   refine Zp O O (BY (c:=k) O O<|w_x D t)<|YN 1 [(2,iv<|k)] O<|ks ?_
   exact zbX (j,k) (xfF (xdC H)<|xfF (BT hi s) t) O<|λw h=>St.weak h<|λS w h=>wS
  replace H:=zmT i H
  refine ks<|Qy O<|Ie ?_
  exact zbX (d1,i1) (xfF (xdC H)<|xfF hi hn) O<|λw h=>St.weak h<|λS w h=>wS
 refine zfM ?_;rintro⟨d2,i2⟩ ⟨g,Q,hv⟩ rest;subst g;replace H:=e;clear d;refine zkj O<|Vi<|Vi<|vy<|YN 1 [(13,uv d2)] O<|Te O O O O (λl=> ?_) (λl=> ?_)
 ·replace H:=zmF l H
  refine ks<|Ka O<|Vi<|vy<|YN 1 [(15,uv d2)] O ?_
  have⟨m,hp,H⟩:=xJ H
  refine Zp O O (C8 (c:=(m:J)) O O (xdm _)<|zcu hp<|pA (a:=d2))<|YN 1 [(0,uv m)] O<|ks<|vy<|YN 1 [(17,iv<|i2)] O ?_
  have⟨o,E,F,H⟩:=QQ H
  refine Zp O O (BY (c:=o) O O<|w_x E F)<|YN 1 [(2,iv<|o)] O<|ks<|Vi<|vy<|YN 2 [(20,uv m),(19,iv<|o)] O ?_
  have⟨L,p,H⟩:=xJ H
  refine Zp O O (Vw (c:=(L:J)) Tryz.underlying73 Tryz.underlying5 O<|iU p<|wu8 _) ?_
  have⟨u,hl,H⟩:=xJ H
  refine Zp O O (zeC (z:=u) Tryz.underlying9 O g8 O (Lf p) hl)<|Zp O O (Vw (c:=(u:J)) Tryz.underlying5 Tryz.underlying3 O<|w64<|b_r<|GL (Lf p) hl) ?_
  have⟨v,M,hc,H⟩:=QQ H
  refine Zp O O (BY (c:=v) O O<|w_x M hc)<|YN 1 [(2,iv<|v)] O<|ks<|zau ?_
  obtain rfl:=zkS H
  exact zhX () Tryz.results263 O hc<|λS w h=>wS
 replace H:=zmT l H;refine ks<|Qy O<|Ie<|Vi<|vy<|YN 2 [(20,uv d2),(19,iv<|i2)] O ?_
 have⟨N,q,H⟩:=xJ H;refine Zp O O (Vw (c:=(N:J)) Tryz.underlying73 Tryz.underlying5 O<|iU q<|wu8 _) ?_;have⟨x,y,H⟩:=xJ H;refine Zp O O (zeC (z:=x) Tryz.underlying9 O g8 O (Lf q) y)<|Zp O O (Vw (c:=(x:J)) Tryz.underlying5 Tryz.underlying3 O<|w64<|b_r<|GL (Lf q) y) ?_
 have⟨A,P,hd,H⟩:=QQ H;refine Zp O O (BY (c:=A) O O<|w_x P hd)<|YN 1 [(2,iv<|A)] O<|ks<|zau ?_
 obtain rfl:=zkS H;exact zhX () Tryz.results263 O hd<|λS w h=>wS
def Xe:z7 ⟨263,[.d .u],[.d .i],λx=>xO fu x.1,0⟩:=zmc g8 λx r a h=>nQ fu x a r h
def ur:z7 ⟨217,[.d .u],[.d .i],λx=>xE fu x.1,0⟩:=sq fu wy func217<|D (Xe fu)<|cN
def Kb:z7 ⟨197,[.d .u,.d .u,.d .u],[.d .u,.d .u],λx=>qA fu x.1 x.2.1 x.2.2.1,0⟩:=sq fu ⟨[],[],[(17,q1 [(15,.d .u),(16,.d .u)] 0 [(15,.d .u)]),(24,q1 [(16,.d .u),(18,.d .u)] 2 [(18,.d .u)])],[],[],[],[]⟩ func197<|D (ur fu)<|cN
def O3:z7 ⟨219,[.d .u,.d .u,.d .u,.d .u,.d .u],[.d .u],λx=>JJ fu x.1 x.2.1 x.2.2.1 x.2.2.2.1 x.2.2.2.2.1,0⟩:=sq fu ⟨[],[],[(4,⟨⟨[(11,.d .u),(12,.d .u)],[]⟩,⟨[],[(.r,⟨[(10,.d .u)],[]⟩)]⟩⟩)],[],[],[],[]⟩ func219<|D (J0 fu)<|D (Kb fu)<|cN
def tc:z7 ⟨161,[.d yz,.d .u],[.own .u 73,.d .u],λx=>Vc fu x.1 x.2.1,0⟩:=sq fu ⟨[],[],[(3,q1 [(7,.d .u),(8,.d .i),(6,.own .u 73)] 0 [(7,.d .u),(6,.own .u 73)])],[],[],[],[]⟩ func161<|D (xa fu)<|D (wJ fu)<|D (Kb fu)<|cN
def GR:z7 ⟨173,[.d yz,.d yz],[.own .u 73,.d yz,.d .i],λx=>Ug fu x.1 x.2.1,0⟩:=sq fu ⟨[],[(196612,⟨[],[(.n,⟨[(23,.d .b)],[]⟩)]⟩),(327686,⟨[],[(.n,⟨[(27,.d .b)],[]⟩)]⟩)],[(16,q1 [(10,.d yz),(16,.d .i),(12,.own .u 73),(15,.own .u 73)] 1 [(12,.own .u 73),(15,.own .u 73)]),(20,⟨⟨[(9,.d .i),(14,.d .i),(17,.d .u),(18,.d yz)],[]⟩,⟨[12,15],[(.x 3,⟨[(9,.d .i),(14,.d .i),(17,.d .u),(18,.d yz)],[]⟩)]⟩⟩)],[(23,[149])],[129],[],[]⟩ func173<|D (ru fu)<|D (tc fu)<|D (xa fu)<|D (wJ fu)<|D (Cz fu)<|D (FV fu)<|D (ur fu)<|D (re fu)<|D (O3 fu)<|D (FB fu)<|D (iG fu)<|cN
def iY:z7 ⟨141,[.d A,.d A],[.d A,.d A,.d .i],λx=>X4 fu x.1 x.2.1,0⟩:=sq fu ⟨[],[(327688,⟨[4,5],[(.n,⟨[(7,.own .u 73),(8,.d yz)],[]⟩)]⟩)],[],[],[],[],[]⟩ func141<|D (rF fu)<|D (qt fu)<|D (GR fu)<|D (rI fu)<|cN
def qv:z7 ⟨91,[.d A,.d A],[.d A,.d .i],λx=>xY fu x.1 x.2.1,0⟩:=sq fu ⟨[],[(196612,⟨[4,6,7],[(.n,⟨[(16,.d .b)],[]⟩)]⟩)],[],[],[],[],[]⟩ func91<|D (vm fu)<|D (iY fu)<|cN
def iA:z7 ⟨130,[.d A,.d A],[.d A],λx=>XP fu x.1 x.2.1,0⟩:=sq fu ⟨[],[],[(2,⟨⟨[(5,.d yz),(6,.d yz)],[]⟩,⟨[4],[(.x 0,⟨[(5,.d yz)],[]⟩)]⟩⟩)],[],[],[],[]⟩ func130<|D (qt fu)<|D (iG fu)<|D (GR fu)<|cN
def Q7:z7 ⟨131,[.d A],[.d A],λx=>jR fu x.1,0⟩:=sq fu wy func131<|D (qt fu)<|cN
def UY:z7 ⟨83,[.d A,.d A],[.d (.p A yz),.d .i],λx=>Z6 fu x.1 x.2.1,0⟩:=sq fu wy func83<|D (vm fu)<|D (qv fu)<|D (Q7 fu)<|D (iA fu)<|cN
def xj:z7 ⟨65,[.d .i],[.d A],λx=>zS fu x.1,0⟩:=sq fu wy func65<|D (qt fu)<|cN
def pO:z7 ⟨24,[.d .i],[.d (.p A yz)],λx=>Xh fu x.1,0⟩:=sq fu wy func24<|D (xj fu)<|cN
def rK:z7 ⟨146,[.d (.p A yz)],[.d A],λx=>QD fu x.1,0⟩:=sq fu wy func146<|D (Yk fu)<|cN
def Z7:z7 ⟨96,[.d (.p A yz)],[.d (.p A yz)],λx=>wV fu x.1,0⟩:=sq fu ⟨[],[],[],[(1,[])],[],[],[]⟩ func96<|D (pO fu)<|D (rK fu)<|D (UY fu)<|cN
def yP:z7 ⟨92,[.d A,.d A],[.d A],λx=>zF fu x.1 x.2.1,0⟩:=sq fu wy func92<|D (Uh fu)<|D (qt fu)<|cN
def eR:z7 ⟨49,[.d (.p A yz),.d (.p A yz)],[.d (.p A yz)],λx=>Uk fu x.1 x.2.1,0⟩:=sq fu ⟨[2,3],[],[],[],[],[],[]⟩ func49<|D (Z7 fu)<|D (Uh fu)<|D (yP fu)<|cN
def CK:z7 ⟨51,[.d (.p A yz)],[.d .i],λx=>lN fu x.1,0⟩:=sq fu wy func51<|D (Z7 fu)<|D (vm fu)<|cN
def Fh:z7 ⟨191,[.d (.p A yz),.d (.p A yz),.fn [A,A] [A]],[.d (.p A yz)],λx=>gu fu x.1 x.2.1<|λz0 a=>x.2.2.1 (z0,a,()),0⟩:=sq fu ⟨[3,4],[],[],[(2,[])],[],[],[]⟩ func191<|D (Z7 fu)<|D (rK fu)<|D (yP fu)<|D (Uh fu)<|cN
def uX:z7 ⟨194,[.d A,.d A],[.d A],λx=>vt fu x.1 x.2.1,0⟩:=sq fu ⟨[2,3],[(262150,⟨[4],[(.n,⟨[(2,.var A 44),(3,.var A 44)],[]⟩)]⟩)],[],[],[],[],[]⟩ func194<|D (ru fu)<|D (rF fu)<|D (qt fu)<|D (rI fu)<|cN
def XB:z7 ⟨193,[.d A,.d A],[.d A],λx=>vT fu x.1 x.2.1,0⟩:=sq fu wy func193<|D (uX fu)<|D (Q7 fu)<|cN
def Dp:z7 ⟨192,[.d A,.d A,.q .b],[.d A],λx=>dm fu x.1 x.2.1 x.2.2.1,0⟩:=sq fu wy func192<|D (XB fu)<|D (uX fu)<|cN
def oE:z7 ⟨159,[.d (.p A yz),.d (.p A yz),.d .b],[.d (.p A yz)],λx=>aE fu x.1 x.2.1 x.2.2.1,0⟩:=sq fu wy func159<|D (Dp fu)<|D (Fh fu)<|cN
def Gv:z7 ⟨113,[.d (.p A yz),.d (.p A yz)],[.d (.p A yz)],λx=>sM fu x.1 x.2.1,0⟩:=sq fu wy func113<|D (oE fu)<|cN
def Zn:z7 ⟨89,[.d (.p yr (.l (.p A yz))),.d (.l (.p A yz))],[.own (.p A yz) 46],λx=>w9 fu x.1 x.2.1,0⟩:=sq fu ⟨[],[(262149,⟨[5],[(.n,⟨[(2,.q (.p yr (.l (.p A yz)))),(15,.d (.l (.p A yz))),(16,.d .i),(18,.d .b)],[]⟩)]⟩),(851982,⟨[5,10],[(.n,⟨[(2,.q (.p yr (.l (.p A yz)))),(8,.d .i),(45,.d .b)],[]⟩)]⟩),(983056,⟨[5,10],[(.n,⟨[(2,.q (.p yr (.l (.p A yz)))),(8,.d .i),(9,.d .i),(46,.d .i),(48,.d .b)],[]⟩)]⟩)],[(3,q1 [(17,.d .i),(5,.own (.p A yz) 46)] 0 [(5,.own (.p A yz) 46)]),(9,⟨⟨[(5,.own (.p A yz) 46),(9,.d .i)],[]⟩,⟨[],[(.x 2,⟨[(5,.own (.p A yz) 46)],[]⟩),(.r,⟨[(4,.own (.p A yz) 46)],[]⟩)]⟩⟩),(14,q1 [(47,.d .i),(5,.own (.p A yz) 46),(10,.var (.p A yz) 46)] 4 [(5,.own (.p A yz) 46)])],[],[],[],[]⟩ func89<|D (Z7 fu)<|D (eR fu)<|D (CK fu)<|D (Gv fu)<|cN
def GI:z7 ⟨145,[.d (.p A yz),.d (.p A yz)],[.d (.p A yz)],λx=>rM fu x.1 x.2.1,0⟩:=sq fu wy func145<|D (oE fu)<|cN
def cr:z7 ⟨95,[.d (.p yr (.l (.p A yz))),.d (.l (.p A yz)),.d (.l (.p A yz))],[.own (.p A yz) 46],λx=>uW fu x.1 x.2.1 x.2.2.1,0⟩:=sq fu ⟨[],[(327686,⟨[2,7],[(.n,⟨[(3,.q (.p yr (.l (.p A yz)))),(24,.d (.l (.p A yz))),(25,.d .i),(27,.d .b)],[]⟩)]⟩),(524297,⟨[2,7,9],[(.n,⟨[(3,.q (.p yr (.l (.p A yz)))),(8,.d .i),(24,.d (.l (.p A yz))),(25,.d .i),(26,.d .i),(32,.d .i),(34,.d .b)],[]⟩)]⟩)],[(4,q1 [(26,.d .i),(2,.own (.p A yz) 46),(7,.own (.p A yz) 46)] 0 [(7,.own (.p A yz) 46)]),(7,⟨⟨[(33,.d .i),(2,.own (.p A yz) 46),(7,.own (.p A yz) 46),(9,.var (.p A yz) 46)],[(31,.al 2)]⟩,⟨[],[(.x 2,⟨[(2,.own (.p A yz) 46),(7,.own (.p A yz) 46)],[]⟩)]⟩⟩)],[],[],[],[]⟩ func95<|D (Zn fu)<|D (GI fu)<|D (eR fu)<|cN
def rm:z7 ⟨99,[.d (.p yr (.l (.p A yz))),.d (.l (.p A yz)),.d (.l (.p A yz)),.d .i],[.own (.p A yz) 46],λx=>K7 fu x.1 x.2.1 x.2.2.1 x.2.2.2.1,0⟩:=sq fu ⟨[],[(327686,⟨[9],[(.n,⟨[(3,.d .i),(4,.q (.p yr (.l (.p A yz)))),(21,.d (.l (.p A yz))),(22,.d .i),(24,.d .b)],[]⟩)]⟩)],[(4,q1 [(23,.d .i),(9,.own (.p A yz) 46)] 0 [(9,.own (.p A yz) 46)])],[],[],[],[]⟩ func99<|D (pO fu)<|D (eR fu)<|D (GI fu)<|D (Zn fu)<|cN
def IV:z7 ⟨147,[.d (.l (.p A yz))],[.d (.l (.p A yz))],λx=>UJ fu x.1,0⟩:=sq fu ⟨[],[],[(1,q1 [(0,.d (.l (.p A yz)))] 0 [(0,.d (.l (.p A yz)))])],[],[],[],[]⟩ func147<|D (CK fu)<|cN
def FO:z7 ⟨101,[.d (.p A yz),.d (.p A yz)],[.d (.p A yz),.d .i],λx=>p9 fu x.1 x.2.1,0⟩:=sq fu ⟨[2,3],[],[],[],[],[],[]⟩ func101<|D (Z7 fu)<|D (rK fu)<|D (UY fu)<|D (yP fu)<|cN
def sU:z7 ⟨100,[.d (.l (.p A yz)),.d (.l (.p A yz))],[.d (.l (.p A yz)),.d (.l (.p A yz))],λx=>K1 fu x.1 x.2.1,0⟩:=sq fu ⟨[],[(589834,⟨[6,7],[(.n,⟨[(8,.d .i),(50,.d (.l (.p A yz))),(51,.d .i),(53,.d .b)],[]⟩)]⟩)],[(4,q1 [(8,.d .i),(6,.own (.p A yz) 46),(7,.own (.p A yz) 46)] 0 [(6,.own (.p A yz) 46),(7,.own (.p A yz) 46)]),(8,q1 [(1,.d (.l (.p A yz))),(52,.d .i),(6,.own (.p A yz) 46),(7,.own (.p A yz) 46)] 2 [(1,.d (.l (.p A yz))),(6,.own (.p A yz) 46),(7,.own (.p A yz) 46)])],[(6,[])],[],[],[]⟩ func100<|D (eR fu)<|D (IV fu)<|D (FO fu)<|D (Gv fu)<|cN
def mr:z7 ⟨54,[.d (.po (.w1 (.p yr (.l (.p A yz))))),.d (.l (.p A yz))],[.own (.p A yz) 46,.d .i],λx=>JB fu x.1 x.2.1,0⟩:=sq fu ⟨[],[],[(8,q1 [(6,.d (.l (.p A yz))),(7,.d (.l (.p A yz))),(8,.d (.l (.p A yz))),(9,.d (.l (.p A yz)))] 0 [(7,.d (.l (.p A yz))),(9,.d (.l (.p A yz)))])],[(11,[])],[],[],[]⟩ func54<|D (rm fu)<|D (sU fu)<|D (FO fu)<|D (Xd fu)<|D (pO fu)<|D (Zn fu)<|D (cr fu)<|cN
def EF:z7 ⟨94,[.d A,.d .i],[.d A],λx=>Kv fu x.1 x.2.1,0⟩:=sq fu ⟨[],[],[(3,⟨⟨[(8,.d .i),(5,.var A 44)],[]⟩,⟨[4],[(.x 0,⟨[(5,.var A 44)],[]⟩)]⟩⟩)],[],[],[],[]⟩ func94<|D (xj fu)<|D (yP fu)<|cN
def ah:z7 ⟨142,[.d A,.d .i],[.d A],λx=>wC fu x.1 x.2.1,0⟩:=sq fu ⟨[],[],[(3,⟨⟨[(8,.d .i),(5,.var A 44)],[]⟩,⟨[4],[(.x 0,⟨[(5,.var A 44)],[]⟩)]⟩⟩)],[],[],[],[]⟩ func142<|D (xj fu)<|D (yP fu)<|cN
def AO:z7 ⟨266,[.d .i,.d A,.q A],[.d A],λx=>VE fu x.1 x.2.1 x.2.2.1,0⟩:=sq fu wy func266<|D (yP fu)<|cN
def Wi:z7 ⟨227,[.d yr,.d A],[.own A 44],λx=>vI fu x.1 x.2.1,0⟩:=sq fu wy func227<|D (yY fu)<|D (AO fu)<|D (xp fu)<|cN
def EG:z7 ⟨312,[.d .i,.d A,.q yr],[.d A],λx=>kM fu x.1 x.2.1 x.2.2.1,0⟩:=sq fu wy func312<|D (uX fu)<|cN
def tC:z7 ⟨267,[.d yr,.d yr],[.own A 44],λx=>vJ fu x.1 x.2.1,0⟩:=sq fu ⟨[3],[],[],[],[],[],[]⟩ func267<|D (EG fu)<|D (yY fu)<|D (xp fu)<|cN
def te:z7 ⟨228,[.d yr,.d yr],[.own A 44],λx=>jK fu x.1 x.2.1,0⟩:=sq fu wy func228<|D (tC fu)<|D (xj fu)<|D (Wi fu)<|cN
def gk:z7 ⟨185,[.d yr,.d yr],[.own A 44,.own A 44,.d .i],λx=>kI fu x.1 x.2.1,0⟩:=sq fu ⟨[],[],[(9,⟨⟨[(1,.d yr),(9,.own A 44),(11,.d .i),(10,.own A 44)],[]⟩,⟨[8],[(.x 0,⟨[(9,.own A 44),(10,.own A 44)],[]⟩)]⟩⟩)],[(12,[]),(13,[1])],[],[],[]⟩ func185<|D (Wi fu)<|D (te fu)<|D (ah fu)<|D (yY fu)<|D (qv fu)<|cN
def gX:z7 ⟨143,[.d yr],[.d .i],λx=>xu fu x.1,0⟩:=sq fu wy func143<|cN
def dQ:WZ:=⟨216,[.d yr,.d yr],[.own A 44,.d .i],λx=>xR fu x.1 x.2.1,0⟩
def Vh:z7 (dQ fu):=sq fu ⟨[],[(327687,⟨[1,6],[(.n,⟨[],[]⟩),(.r,⟨[],[(4,.nil),(5,.ci 4)]⟩)]⟩),(1048593,⟨[1,6,7,9],[(.n,⟨[(8,.d .i),(71,.d .i),(73,.d .b)],[]⟩)]⟩)],[(8,⟨⟨[(8,.d .i),(1,.own A 44),(6,.own A 44),(7,.own A 44)],[]⟩,⟨[],[(.x 0,⟨[(6,.own A 44),(7,.own A 44)],[]⟩),(.r,⟨[(5,.d .i)],[(4,.nil)]⟩)]⟩⟩),(15,⟨⟨[(72,.d .i),(1,.own A 44),(6,.own A 44),(7,.own A 44),(9,.var A 44)],[(70,.al 1)]⟩,⟨[],[(.x 2,⟨[(1,.own A 44),(6,.own A 44),(7,.own A 44)],[]⟩)]⟩⟩)],[(10,[])],[],[],[]⟩ func216<|D (yY fu)<|D (XB fu)<|D (qv fu)<|D (yP fu)<|cN
def IC:z7 ⟨186,[.d yr,.d A],[.own A 44],λx=>o6 fu x.1 x.2.1,0⟩:=sq fu wy func186<|D (Vh fu)<|cN
def Ue:z7 ⟨144,[.var (.p yr (.p yr (.p A (.p A .b)))) 152],[.var (.p yr (.p yr (.p A (.p A .b)))) 152],λx=>Yj fu x.1,1⟩:=sgb (fu:=fu) ⟨[],[(131075,⟨[],[(.n,⟨[(0,.var (.p yr (.p yr (.p A (.p A .b)))) 152)],[]⟩)]⟩),(393223,⟨[0],[(.n,⟨[(92,.d .b)],[]⟩)]⟩)],[],[(3,[]),(6,[])],[],[],[]⟩ func144 (D (ah fu)<|D (gX fu)<|D (gk fu)<|D (IC fu)<|D (qv fu)<|D (yP fu)<|cN) g8 λa x=>by kernel_rfl
def ZL:z7 ⟨126,[.d yr],[.d A],λx=>x9 fu x.1,0⟩:=sq fu ⟨[],[(327686,⟨[0,2,3],[(.n,⟨[(10,.d .i),(12,.d .b)],[]⟩)]⟩)],[(4,⟨⟨[(11,.d .i),(0,.own A 44),(2,.var A 44),(3,.var A 44)],[(9,.al 0)]⟩,⟨[],[(.x 0,⟨[(0,.own A 44),(2,.var A 44),(3,.var A 44)],[]⟩)]⟩⟩)],[],[],[],[]⟩ func126<|D (yY fu)<|D (xj fu)<|D (iA fu)<|D (Q7 fu)<|cN
def Da:z7 ⟨128,[.d .i,.d A,.q A],[.d A],λx=>Jf fu x.1 x.2.1 x.2.2.1,0⟩:=sq fu wy func128<|D (qv fu)<|cN
def UO:WZ:=⟨81,[.d yr],[.own A 44],λx=>xk fu x.1,0⟩
def kj:z7 (UO fu):=sq fu wy func81<|D (yY fu)<|D (Da fu)<|D (ZL fu)<|D (xp fu)<|cN
def rN:z7 ⟨93,[.d yr,.d yr],[.d A,.d .i],λx=>Uu fu x.1 x.2.1,0⟩:=sq fu ⟨[53],[(196612,⟨[0,1,4],[(.n,⟨[(15,.d .b)],[]⟩)]⟩),(589836,⟨[],[(.n,⟨[(4,.var A 44),(6,.var A 44),(7,.var (.p yr (.p yr (.p A (.p A .b)))) 152)],[]⟩)]⟩),(589834,⟨[4,6,7],[(.n,⟨[(0,.d yr),(1,.d yr),(58,.d .b)],[]⟩)]⟩),(1179669,⟨[],[(.n,⟨[(4,.var A 44),(6,.var A 44),(7,.var (.p yr (.p yr (.p A (.p A .b)))) 152),(9,.var A 44)],[]⟩)]⟩),(1245204,⟨[4,6,7,9],[(.n,⟨[(121,.d .b)],[]⟩)]⟩)],[(12,⟨⟨[(7,.var (.p yr (.p yr (.p A (.p A .b)))) 152)],[(8,.bm 7 144)]⟩,⟨[4,6],[(.x 1,⟨[(7,.var (.p yr (.p yr (.p A (.p A .b)))) 152)],[]⟩)]⟩⟩)],[(9,[]),(16,[]),(19,[])],[],[],[]⟩ func93<|D (xj fu)<|D (Q7 fu)<|D (ah fu)<|D (gX fu)<|D (Ue fu)<|D (kj fu)<|D (yY fu)<|D (qv fu)<|D (yP fu)<|D (ZL fu)<|cN
def dZ:z7 ⟨46,[.d (.po (.w1 (.p yr (.l (.p A yz))))),.d (.l (.p A yz))],[.d (.p A yz),.d .i],λx=>WO fu x.1 x.2.1,0⟩:=sq fu ⟨[],[(458760,⟨[1,4,6],[(.n,⟨[(0,.d (.po (.w1 (.p yr (.l (.p A yz)))))),(29,.d .i),(31,.d .b)],[]⟩)]⟩),(851982,⟨[1,4,9],[(.n,⟨[(0,.d (.po (.w1 (.p yr (.l (.p A yz)))))),(43,.d .i),(45,.d .b)],[]⟩)]⟩)],[(6,⟨⟨[(6,.own .u 73),(30,.d .i),(1,.own (.p A yz) 46),(4,.var (.p A yz) 46)],[(28,.al 1)]⟩,⟨[],[(.x 0,⟨[(6,.own .u 73),(1,.own (.p A yz) 46),(4,.var (.p A yz) 46)],[]⟩)]⟩⟩),(12,⟨⟨[(6,.d yz),(44,.d .i),(1,.own (.p A yz) 46),(4,.var (.p A yz) 46),(9,.own A 44)],[(42,.al 1)]⟩,⟨[],[(.x 2,⟨[(6,.d yz),(1,.own (.p A yz) 46),(4,.var (.p A yz) 46),(9,.own A 44)],[]⟩)]⟩⟩)],[(14,[6])],[],[],[]⟩ func46<|D (UY fu)<|D (Xd fu)<|D (Zn fu)<|D (Uh fu)<|D (qv fu)<|D (yP fu)<|D (rN fu)<|D (EF fu)<|cN
def py:z7 ⟨97,[.d yz,.d yz],[.d .b],λx=>YI fu x.1 x.2.1,0⟩:=sq fu ⟨[],[],[(4,⟨⟨[(5,.d .i)],[]⟩,⟨[],[(.x 0,⟨[],[]⟩),(.r,⟨[],[(4,.kb I)]⟩)]⟩⟩)],[],[],[],[]⟩ func97<|cN
def ox:z7 ⟨86,[.d A,.d A],[.d .b],λx=>YP fu x.1 x.2.1,0⟩:=sq fu wy func86<|D (py fu)<|cN
def Mr:z7 ⟨50,[.d (.p A yz),.d (.p A yz)],[.d .b],λx=>oz fu x.1 x.2.1,0⟩:=sq fu wy func50<|D (py fu)<|D (ox fu)<|cN
def Mj:z7 ⟨23,[.d (.l (.p A yz)),.d (.l (.p A yz))],[.d .b],λx=>n6 fu x.1 x.2.1,0⟩:=sq fu ⟨[],[],[(4,⟨⟨[(5,.d .i)],[]⟩,⟨[],[(.x 0,⟨[],[]⟩),(.r,⟨[],[(4,.kb I)]⟩)]⟩⟩)],[],[],[],[]⟩ func23<|D (Mr fu)<|cN
def LU:z7 ⟨55,[.d (.l (.p A yz)),.d (.l (.p A yz))],[.d .b],λx=>nN fu x.1 x.2.1,0⟩:=sq fu wy func55<|D (Mj fu)<|cN
def IG:z7 ⟨172,[.d yr,.d yr],[.d .i],λx=>YE fu x.1 x.2.1,0⟩:=sq fu ⟨[],[],[(3,q1 [(5,.d .i),(6,.own A 44),(7,.d .i)] 0 [(5,.d .i)])],[],[],[],[]⟩ func172<|D (Vh fu)<|cN
def Ji:z7 ⟨247,[.d .i],[.d .b],λx=>uq fu x.1,0⟩:=sq fu ⟨[],[(131075,⟨[],[(.n,⟨[(3,.d .b)],[]⟩)]⟩)],[(3,q1 [(3,.d .b),(4,.d .i)] 0 [(3,.d .b)])],[],[],[],[]⟩ func247<|cN
def UI:z7 ⟨241,[.d yz],[.d .i],λx=>uR fu x.1,0⟩:=sq fu wy func241<|D (xa fu)<|D (wJ fu)<|D (Xe fu)<|cN
def S7:z7 ⟨248,[.d A,.d .i],[.d A,.d .i],λx=>UB fu x.1 x.2.1,0⟩:=sq fu ⟨[],[(131075,⟨[4],[(.n,⟨[(8,.d .b)],[]⟩)]⟩)],[(7,⟨⟨[(1,.d .i),(7,.var A 44),(6,.var A 44)],[]⟩,⟨[4],[(.x 1,⟨[(6,.var A 44)],[]⟩)]⟩⟩)],[],[],[],[]⟩ func248<|D (xj fu)<|D (UI fu)<|D (yP fu)<|D (Yk fu)<|cN
def QV:z7 ⟨210,[.d .i,.d .i],[.d A,.d .i],λx=>v7 fu x.1 x.2.1,0⟩:=sq fu wy func210<|D (S7 fu)<|D (xj fu)<|D (Ji fu)<|cN
def cY:z7 ⟨339,[.d yr,.d A,.fn [A,A] [A,.i]],[.own A 44,.d .i],λx=>qd fu x.1 x.2.1<|λz0 a=>x.2.2.1 (z0,a,()),0⟩:=sq fu ⟨[],[(393223,⟨[8],[(.n,⟨[(4,.q A),(17,.d yr),(18,.d .i),(20,.d .b)],[]⟩)]⟩)],[(5,q1 [(19,.d .i),(8,.own A 44)] 0 [(8,.own A 44)])],[],[],[],[]⟩ func339<|D (yY fu)<|D (vm fu)<|cN
def Qh:z7 ⟨315,[.d A,.d A],[.d A,.d .i],λx=>qG fu x.1 x.2.1,0⟩:=sq fu wy func315<|D (vm fu)<|D (iY fu)<|cN
def mW:z7 ⟨298,[.d yr,.d A],[.own A 44,.d .i],λx=>Xn fu x.1 x.2.1,0⟩:=sq fu wy func298<|D (Qh fu)<|D (cY fu)<|cN
def QA:z7 ⟨256,[.d yr,.d A],[.own A 44],λx=>xl fu x.1 x.2.1,0⟩:=sq fu wy func256<|D (mW fu)<|cN
def qP:z7 ⟨287,[.d .i],[.d .i],λx=>w7 fu x.1,0⟩:=sq fu wy func287<|D (Ji fu)<|cN
def eE:z7 ⟨319,[.d .i,.d .i],[.d .i],λx=>u6 fu x.1 x.2.1,0⟩:=sq fu wy func319<|cN
def Dd:WZ:=⟨331,[.d .i,.d .i],[.d .i,.d .i],λx=>Vk fu x.1 x.2.1,0⟩
def Db:z7 (Dd fu):=sq fu ⟨[],[],[(5,⟨⟨[(7,.d .i),(8,.d .i),(9,.d .i),(10,.d .i)],[]⟩,⟨[],[(.x 0,⟨[(10,.d .i)],[]⟩),(.r,⟨[],[(4,.ci 0),(5,.ci 3)]⟩)]⟩⟩)],[],[],[],[]⟩ func331<|D (eE fu)<|D (qP fu)<|cN
def xV:z7 ⟨288,[.d y5,.d .i],[.own .i 3],λx=>yb fu x.1 x.2.1,0⟩:=sq fu ⟨[],[],[(3,q1 [(13,.d .i),(5,.own .i 3)] 0 [(5,.own .i 3)]),(7,q1 [(5,.own .i 3)] 2 [(5,.own .i 3)])],[],[],[],[]⟩ func288<|D (eE fu)<|cN
def VC:z7 ⟨289,[.d y5,.d y5,.d .i],[.own .i 3,.own .i 3],λx=>xF fu x.1 x.2.1 x.2.2.1,0⟩:=sq fu ⟨[],[(851982,⟨[8,12],[(.n,⟨[(9,.d .i),(13,.d .i),(61,.d y5),(62,.d .i),(64,.d .b)],[]⟩)]⟩)],[(7,q1 [(9,.d .i),(8,.own .i 3),(12,.own .i 3)] 0 [(8,.own .i 3),(12,.own .i 3)]),(12,q1 [(1,.d y5),(2,.d .i),(10,.d .i),(63,.d .i),(8,.own .i 3),(12,.own .i 3)] 2 [(1,.d y5),(2,.d .i),(10,.d .i),(8,.own .i 3),(12,.own .i 3)])],[],[],[],[]⟩ func289<|D (xV fu)<|D (Db fu)<|cN
def ZZ:z7 ⟨332,[.d y5,.d y5,.d .i],[.own .i 3],λx=>wH fu x.1 x.2.1 x.2.2.1,0⟩:=sq fu ⟨[],[(262149,⟨[7],[(.n,⟨[(1,.d y5),(2,.d .i),(18,.d y5),(19,.d .i),(21,.d .b)],[]⟩)]⟩),(458760,⟨[7],[(.n,⟨[(1,.d y5),(2,.d .i),(8,.d .i),(9,.d .i),(18,.d y5),(19,.d .i),(20,.d .i),(25,.d y5),(26,.d .i),(28,.d .b)],[]⟩)]⟩)],[(3,q1 [(20,.d .i),(7,.own .i 3)] 0 [(7,.own .i 3)]),(6,q1 [(27,.d .i),(7,.own .i 3)] 2 [(7,.own .i 3)])],[],[],[],[]⟩ func332<|D (xV fu)<|cN
def bN:z7 ⟨369,[.d y5,.d y5,.d .i,.d .i],[.own .i 3],λx=>Yo fu x.1 x.2.1 x.2.2.1 x.2.2.2.1,0⟩:=sq fu ⟨[],[(327686,⟨[9],[(.n,⟨[(2,.d .i),(3,.d .i),(21,.d y5),(22,.d .i),(24,.d .b)],[]⟩)]⟩)],[(4,q1 [(23,.d .i),(9,.own .i 3)] 0 [(9,.own .i 3)])],[],[],[],[]⟩ func369<|D (xV fu)<|cN
def Mo:z7 ⟨335,[.d (.a 3 y5),.d (.a 3 y5),.d .i],[.d (.a 3 y5)],λx=>YK fu x.1 x.2.1 x.2.2.1,0⟩:=sq fu ⟨[3],[(262149,⟨[3,6],[(.n,⟨[(2,.d .i),(4,.q (.a 3 y5)),(20,.d .b)],[]⟩)]⟩)],[(3,⟨⟨[(7,.d y5),(19,.d .i),(3,.var (.a 3 y5) 301),(6,.var (.a 3 y5) 301)],[]⟩,⟨[8],[(.x 0,⟨[(3,.var (.a 3 y5) 301),(6,.var (.a 3 y5) 301)],[]⟩)]⟩⟩)],[],[],[],[]⟩ func335<|D (VC fu)<|D (ZZ fu)<|D (bN fu)<|cN
def bU:z7 ⟨336,[.d y5,.d .i,.d .i],[.own .i 3],λx=>vU fu x.1 x.2.1 x.2.2.1,0⟩:=sq fu wy func336<|D (Db fu)<|D (ZZ fu)<|cN
def eD:z7 ⟨296,[.d y5,.d y5,.d .i],[.d y5,.d y5,.d y5,.d .i],λx=>uH fu x.1 x.2.1 x.2.2.1,0⟩:=sq fu ⟨[],[(589834,⟨[11],[(.n,⟨[(44,.d .b)],[]⟩)]⟩)],[(5,q1 [(11,.var (.a 3 y5) 301),(12,.var (.a 3 y5) 301)] 0 [(11,.var (.a 3 y5) 301)]),(11,q1 [(51,.d .i),(11,.var (.a 3 y5) 301)] 2 [(11,.var (.a 3 y5) 301)])],[],[],[],[]⟩ func296<|D (xV fu)<|D (bU fu)<|D (Mo fu)<|D (qP fu)<|cN
def b8:z7 ⟨291,[.d y5,.d y5,.d .i],[.d y5,.d .i],λx=>jO fu x.1 x.2.1 x.2.2.1,0⟩:=sq fu wy func291<|D (eD fu)<|cN
def JY:z7 ⟨292,[.d y5,.d y5,.d .i],[.own .i 3,.d .i],λx=>jH fu x.1 x.2.1 x.2.2.1,0⟩:=sq fu wy func292<|D (xV fu)<|D (ZZ fu)<|D (qP fu)<|cN
def tE:z7 ⟨333,[.d y5,.d y5,.d .i],[.own .i 3,.d .i],λx=>Vm fu x.1 x.2.1 x.2.2.1,0⟩:=sq fu wy func333<|D (xV fu)<|D (bN fu)<|D (qP fu)<|cN
def Dq:z7 ⟨294,[.d y5,.d y5,.d .i],[.d .b],λx=>Y9 fu x.1 x.2.1 x.2.2.1,0⟩:=sq fu wy func294<|D (tE fu)<|cN
def BG:z7 ⟨290,[.d y5,.d .i],[.d .b],λx=>YZ fu x.1 x.2.1,0⟩:=sq fu ⟨[],[],[(2,⟨⟨[(9,.d .i)],[]⟩,⟨[],[(.x 0,⟨[],[]⟩),(.r,⟨[],[(4,.kb I)]⟩)]⟩⟩)],[],[],[],[]⟩ func290<|cN
def Uc:z7 ⟨293,[.d (.l y5),.d .i],[.own .i 3],λx=>vQ fu x.1 x.2.1,0⟩:=sq fu ⟨[],[],[(3,q1 [(5,.own .i 3),(11,.d .i)] 0 [(5,.own .i 3)])],[],[],[],[]⟩ func293<|D (JY fu)<|cN
def HD:z7 ⟨316,[.d A],[.d .i,.d .b],λx=>Qu fu x.1,0⟩:=sq fu ⟨[1],[(196612,⟨[1],[(.n,⟨[(6,.d .b)],[]⟩)]⟩),(327686,⟨[1],[(.n,⟨[(11,.d .b)],[]⟩)]⟩),(458760,⟨[1],[(.n,⟨[(16,.d .b)],[]⟩)]⟩)],[],[],[],[],[]⟩ func316<|D (Yk fu)<|cN
def NR:z7 ⟨274,[.d A,.d .i],[.d .i,.d .i],λx=>JO fu x.1 x.2.1,0⟩:=sq fu ⟨[],[],[],[(1,[])],[],[],[]⟩ func274<|D (xj fu)<|D (Qh fu)<|D (HD fu)<|cN
def Fx:z7 ⟨273,[.d .i,.d A,.q .i],[.d .i],λx=>WA fu x.1 x.2.1 x.2.2.1,0⟩:=sq fu wy func273<|D (NR fu)<|cN
def Kq:z7 ⟨272,[.d yr,.fn [.i,A] [.i]],[.own .i 3],λx=>qS fu x.1<|λz0 a=>x.2.1 (z0,a,()),0⟩:=sq fu ⟨[],[(262149,⟨[5],[(.n,⟨[(11,.d yr),(12,.d .i),(14,.d .b)],[]⟩)]⟩)],[(3,q1 [(13,.d .i),(5,.own .i 3)] 0 [(5,.own .i 3)])],[],[],[],[]⟩ func272<|cN
def WV:z7 ⟨244,[.d yr,.d .i],[.own .i 3,.d .i],λx=>uO fu x.1 x.2.1,0⟩:=sq fu ⟨[],[],[(4,q1 [(6,.own .i 3)] 0 [(6,.own .i 3)])],[],[],[],[]⟩ func244<|D (Kq fu)<|D (Fx fu)<|cN
def Eh:z7 ⟨254,[.d yr,.d (.l y5),.d .i],[.d .b],λx=>vi fu x.1 x.2.1 x.2.2.1,0⟩:=sq fu ⟨[],[(393223,⟨[7],[(.n,⟨[(0,.d yr),(1,.d (.l y5)),(2,.d .i),(40,.d (.l y5)),(41,.d .i),(43,.d .b)],[]⟩)]⟩)],[(5,⟨⟨[(42,.d .i),(7,.own .i 3)],[]⟩,⟨[],[(.x 0,⟨[(7,.own .i 3)],[]⟩),(.r,⟨[],[(6,.kb I)]⟩)]⟩⟩),(10,⟨⟨[(62,.d .i)],[]⟩,⟨[7],[(.x 2,⟨[],[]⟩),(.r,⟨[],[(6,.kb I)]⟩)]⟩⟩)],[],[],[],[]⟩ func254<|D (BG fu)<|D (b8 fu)<|D (JY fu)<|D (Uc fu)<|D (Dq fu)<|D (WV fu)<|cN
def sN:z7 ⟨338,[.d yr,.d yr,.d A],[.d yr,.own A 44],λx=>ji fu x.1 x.2.1 x.2.2.1,0⟩:=sq fu ⟨[],[(589834,⟨[8,9],[(.n,⟨[(10,.d .i),(47,.d yr),(48,.d .i),(50,.d .b)],[]⟩)]⟩)],[(4,q1 [(10,.d .i),(8,.own A 44),(9,.own A 44)] 0 [(8,.own A 44),(9,.own A 44)]),(8,q1 [(1,.d yr),(5,.q A),(49,.d .i),(8,.own A 44),(9,.own A 44)] 2 [(1,.d yr),(5,.q A),(8,.own A 44),(9,.own A 44)])],[(6,[])],[],[],[]⟩ func338<|D (QA fu)<|D (XB fu)<|D (Qh fu)<|D (yP fu)<|cN
def tD:z7 ⟨337,[.d yr,.d yr],[.own A 44],λx=>wu fu x.1 x.2.1,0⟩:=sq fu ⟨[],[(262149,⟨[5],[(.n,⟨[(1,.d yr),(16,.d yr),(17,.d .i),(19,.d .b)],[]⟩)]⟩),(458760,⟨[5,7],[(.n,⟨[(1,.d yr),(6,.d .i),(16,.d yr),(17,.d .i),(18,.d .i),(23,.d yr),(24,.d .i),(26,.d .b)],[]⟩)]⟩)],[(3,q1 [(18,.d .i),(5,.own A 44)] 0 [(5,.own A 44)]),(6,q1 [(25,.d .i),(5,.own A 44),(7,.var A 44)] 2 [(5,.own A 44)])],[],[],[],[]⟩ func337<|D (yY fu)<|D (uX fu)<|D (yP fu)<|cN
def CG:z7 ⟨149,[.d .i,.d .i],[.d A],λx=>Xf fu x.1 x.2.1,0⟩:=sq fu wy func149<|D (xj fu)<|cN
def KO:z7 ⟨148,[.d y5,.fn [.i,.i] [A]],[.own A 44],λx=>qX fu x.1<|λz0 a=>x.2.1 (z0,a,()),0⟩:=sq fu ⟨[],[],[(3,q1 [(13,.d .i),(5,.own A 44)] 0 [(5,.own A 44)])],[],[],[],[]⟩ func148<|cN
def nJ:z7 ⟨102,[.d y5],[.own A 44],λx=>qF fu x.1,0⟩:=sq fu wy func102<|D (yY fu)<|D (KO fu)<|D (CG fu)<|cN
def DP:z7 ⟨56,[.d y5],[.own A 44],λx=>QI fu x.1,0⟩:=sq fu wy func56<|D (nJ fu)<|cN
def sK:z7 ⟨297,[.d (.a 4 yr),.d yr,.d A],[.d (.a 4 yr)],λx=>jr fu x.1 x.2.1 x.2.2.1,0⟩:=sq fu wy func297<|D (QA fu)<|D (te fu)<|D (tC fu)<|D (tD fu)<|D (sN fu)<|D (DP fu)<|cN
def sJ:z7 ⟨370,[.d (.p A (.p A A)),.d A,.d (.p A (.p A A))],[.d (.p A (.p A A))],λx=>Zm fu x.1 x.2.1 x.2.2.1,0⟩:=sq fu wy func370<|D (XB fu)<|D (yP fu)<|cN
def Ey:z7 ⟨334,[.d A,.d A],[.d A,.d A,.d A],λx=>Wc fu x.1 x.2.1,0⟩:=sq fu ⟨[],[(393224,⟨[4,5,6],[(.n,⟨[(7,.var (.p A (.p A A)) 335)],[]⟩)]⟩),(524298,⟨[4,5,6],[(.n,⟨[(7,.var (.p A (.p A A)) 335)],[]⟩)]⟩)],[(2,⟨⟨[(7,.var (.p A (.p A A)) 335),(8,.var (.p A (.p A A)) 335)],[]⟩,⟨[4,5,6],[(.x 0,⟨[(7,.var (.p A (.p A A)) 335)],[]⟩)]⟩⟩)],[(1,[]),(9,[])],[],[],[]⟩ func334<|D (xj fu)<|D (vm fu)<|D (Q7 fu)<|D (qt fu)<|D (iY fu)<|D (sJ fu)<|cN
def HN:z7 ⟨295,[.d yr,.d A],[.own A 44],λx=>Ql fu x.1 x.2.1,0⟩:=sq fu ⟨[],[],[],[(1,[])],[],[],[]⟩ func295<|D (QA fu)<|D (Wi fu)<|D (Ey fu)<|cN
def EC:WZ:=⟨255,[.d yr,.d (.l y5),.d .i,.d .i,.d A],[.own yr 22],λx=>vL fu x.1 x.2.1 x.2.2.1 x.2.2.2.1 x.2.2.2.2.1,0⟩
def gK:∀fu:K,z7 (EC fu)
 |0=>sg0 g8 λ_=>O
 |fu+1=>sq fu ⟨[],[],[(10,q1 [(22,.d .i),(21,.var (.a 4 yr) 273)] 0 [(21,.var (.a 4 yr) 273)])],[(14,[])],[],[],[]⟩ func255<|D (JY fu)<|D (Uc fu)<|D (nJ fu)<|D (HN fu)<|D (eD fu)<|D (sK fu)<|D (QV fu)<|D (WV fu)<|D (gK fu)<|cN
def gJ:z7 ⟨212,[.d yr,.d (.l y5),.d .i,.d .i],[.own yr 22,.d .i],λx=>qT fu x.1 x.2.1 x.2.2.1 x.2.2.2.1,0⟩:=sq fu wy func212<|D (QA fu)<|D (QV fu)<|D (yY fu)<|D (Eh fu)<|D (gK fu)<|cN
def Ix:z7 ⟨300,[.d yr,.d yr,.d A],[.d yr,.d .i],λx=>Qo fu x.1 x.2.1 x.2.2.1,0⟩:=sq fu wy func300<|D (tD fu)<|D (mW fu)<|cN
def Jg:z7 ⟨246,[.d A,.d A],[.d .i],λx=>jQ fu x.1 x.2.1,0⟩:=sq fu wy func246<|D (XB fu)<|D (vm fu)<|cN
def LH:z7 ⟨340,[.d A,.d A],[.d A,.d .i],λx=>YC fu x.1 x.2.1,0⟩:=sq fu wy func340<|D (XB fu)<|D (uX fu)<|D (Qh fu)<|D (Jg fu)<|cN
def Fv:z7 ⟨301,[.d yr,.d A],[.own A 44,.d .i],λx=>WB fu x.1 x.2.1,0⟩:=sq fu wy func301<|D (cY fu)<|D (LH fu)<|cN
def Zq:WZ:=⟨258,[.d yr,.d tzQ,.own .i 3,.d A],[.d yr,.own .i 3],λx=>q9 fu x.1 x.2.1 x.2.2.1 x.2.2.2.1,1⟩
def fZ:z7 (Zq fu):=sgb (fu:=fu) ⟨[],[(262149,⟨[2],[(.n,⟨[(1,.d tzQ),(7,.q A),(18,.d .i),(20,.d .b)],[]⟩)]⟩)],[(3,⟨⟨[(9,.d yr),(19,.d .i),(2,.own .i 3)],[(17,.al 2)]⟩,⟨[],[(.x 0,⟨[(9,.d yr),(2,.own .i 3)],[]⟩)]⟩⟩)],[],[],[],[]⟩ func258 (D (kj fu)<|D (Ix fu)<|D (Fv fu)<|cN) g8 λa x=>by kernel_rfl
def XR:E5:=⟨299,[.q .i,.q .i],.i,3,λx _ _ g x0=>wX fu x.1 x.2.1 g x0⟩
def anC:An:=⟨[],[],[(2,⟨⟨[(4,.own .i 3),(12,.d .i)],[]⟩,⟨[0],[(.x 0,⟨[(4,.own .i 3)],[]⟩)]⟩⟩),(8,⟨⟨[(6,.d .i)],[]⟩,⟨[0,4],[(.x 4,⟨[(6,.d .i)],[]⟩)]⟩⟩),(13,⟨⟨[(7,.d .i),(4,.own .i 3)],[]⟩,⟨[0],[(.x 6,⟨[(4,.own .i 3)],[]⟩)]⟩⟩)],[],[],[],[]⟩
def zkG:Wn->Wn|.seq a _=>a|c=>c
def GY:Wn->Wn|.seq _ b=>b|c=>c
def kIn:Wn->Wn|.block _ c=>c|.loop c=>c|c=>c
def FA(f:QR):Wn:=match f.body with|some c=>c|none=> .skip
noncomputable def kA:Wn:=zkG<|FA f299
noncomputable def kB:Wn:=zkG<|GY<|FA f299
noncomputable def kC:Wn:=kIn<|kIn<|GY<|GY<|FA f299
section
variable{X Y R:Type}{mX:X->wN->MF}{mY:Y->wN->MF}{g:xS wl->X->ww (xS wl×(X⊕Y))}{n all:wl}
def cfC:Cf:=⟨tt,[],anC,fu,ex,[],[],[]⟩
def S0(mX:X->wN->MF)(mY:Y->wN->MF)(g:N J->X->V (N J×(X⊕Y)))(n all:J)(x0:X):Sg:=⟨1,[(0,0,.yd 0),(1,0,.q .i n),(2,0,.q .i all)],[(0,.hid .i 3 X Y mX mY g x0)]⟩
def S1(mX:X->wN->MF)(mY:Y->wN->MF)(g:N J->X->V (N J×(X⊕Y)))(n all:J)(x0:X)(xs:N J):Sg:=⟨2,[(4,0,.ow 1),(9,0,.ow 1),(8,0,.d .i n),(0,0,.yd 0),(1,0,.q .i n),(2,0,.q .i all)],[(1,.own .i 3 xs),(0,.hid .i 3 X Y mX mY g x0)]⟩
def S2(mX:X->wN->MF)(mY:Y->wN->MF)(g:N J->X->V (N J×(X⊕Y)))(n all:J)(x0:X)(xs ys:N J):Sg:=⟨3,[(4,0,.ow 2),(4,0,.ow 2),(11,0,.d .i (i0 xs:J)),(8,0,.d .i n),(0,0,.yd 0),(1,0,.q .i n),(2,0,.q .i all)],[(2,.own .i 3 ys),(0,.hid .i 3 X Y mX mY g x0)]⟩
def Sn(mX:X->wN->MF)(mY:Y->wN->MF)(g:N J->X->V (N J×(X⊕Y)))(n all:J)(x:X)(xs:N J)(b a c y x0:J):Sg:=
 ⟨5,[(4,0,.ow 4),(4,0,.ow 4),(51,0,.d .i b),(50,0,.d .i a),(48,0,.d .i c),(47,0,.d .i y),(45,0,.d .i a),(43,0,.kb I),(42,0,.d .i a),(6,0,.d .i a),(6,0,.d .i a),(25,0,.d .i x0),(24,0,.d .i n),(23,0,.kb I),(22,0,.kb wF),(20,0,.yd 2),(0,0,.yd 2),(1,0,.q .i n),(2,0,.q .i all)],[(4,.own .i 3 xs),(2,.hid .i 3 X Y mX mY g x)]⟩
def Sr(mX:X->wN->MF)(mY:Y->wN->MF)(g:N J->X->V (N J×(X⊕Y)))(n all:J)(x:X)(x0 a:J)(xs:N J):Sg:=
 ⟨4,[(43,0,.kb wF),(42,0,.d .i a),(6,0,.d .i a),(6,0,.d .i a),(25,0,.d .i x0),(24,0,.d .i n),(23,0,.kb I),(22,0,.kb wF),(21,0,.ow 1),(20,0,.yd 2),(4,0,.ow 1),(0,0,.yd 2),(1,0,.q .i n),(2,0,.q .i all)],[(2,.hid .i 3 X Y mX mY g x),(1,.own .i 3 xs)]⟩
def Sy(mY:Y->wN->MF)(n all:J)(y:Y)(xs:N J):Sg:=
 ⟨3,[(23,0,.kb wF),(22,0,.kb I),(21,0,.ow 1),(20,0,.yd 2),(4,0,.ow 1),(0,0,.yd 2),(1,0,.q .i n),(2,0,.q .i all)],[(2,.hiy Y mY y),(1,.own .i 3 xs)]⟩
def zql(x0:X)(K:Tg->Sg->V R):den (cfC fu) kA ⟨0,[],[]⟩ (S0 mX mY g n all x0) K=jh n λm=>ck (8*m<=281474976710656)<|B (xac m 0) λxs=>K .n (S1 mX mY g n all x0 xs):=g8
def zpD(x0:X)(xs:N J)(K:Tg->Sg->V R):den (cfC fu) kB ⟨0,[],[]⟩ (S1 mX mY g n all x0 xs) K=bd (zg (λL (z:N J×J)=>
 if z.2<(i0 xs:J)then
  zD z.2 (i0 z.1) λj=>
  B (z.1.set j z.2) λxs=>
  Q (z.2+1) λi=>L (xs,i)
 else Z z.1) fu (xs,0)) λys=>K .n (S2 mX mY g n all x0 xs ys):=g8
def zpL(x:X)(xs:N J)(K:Tg->Sg->V R):den (cfC fu) kC ⟨0,[],[]⟩ (chS 3 mX mY g n all x xs) K=
 vP fu n all g x xs (λx xs a b c d e=>K .n<|Sn mX mY g n all x xs a b c d e) (λx a b xs=>K .r<|Sr mX mY g n all x a b xs) λy xs=>K .r (Sy mY n all y xs):=g8
def zjj(g:xS J->X->V (xS J×(X⊕Y)))(x0:X)(r:X⊕Y)(l:wr)(v1 E u:wN)(we:wP)(Se:wr->Prop)(F:xS MF)(G:xS FF)(w:wP)(hY:Oh Tryz.prog l eI 3 mX mY g)
 (hi:St we Se (mX x0 u::F) (Zo Tryz.prog [.q .i,.q .i] (n,all,()) [v1,E]++G) w) (hM:wX fu n all g x0=Z r):
 Us Tryz.prog 299 #[.func (.yield l) #[] #[],v1,E] w λe w'=>(∃v,e=.returned v)/\∃C,St we Se (xfB (λx=>mX x C) (λy=>mY y C) r::F) G w':=by
 have hX:En Tryz.prog (cfC fu):=.of RP O;have hD:∀c,okC 66 c=wF->Gr Tryz.prog (cfC fu) 66 c:=λc h=>Xy Sl TM Tu cN hX c h;refine Ua (args:=[.func (.yield l) #[] #[],v1,E]) (c:=FA f299) func299 O g8 λrest=> ?_;have hj:Yn Tryz.prog (Fr.wd ⟨we,Se,F,G⟩ []) ⟨0,[],[]⟩ (S0 mX mY g n all x0) (L ((([Value.func (.yield l) #[] #[],v1,E]:xS wN).zipIdx 0).map λx=>(x.2,x.1)) rest) w:=by
  refine⟨⟨λe D=> ?_,λ_ D=>wR D IR,λe D q hq=> ?_,λ_ D=>wR D IR⟩,λ_=>K9 (.int .i64 (l:J)) [u],?_⟩
  ·obtain rfl:=xad.1 D;exact xdS
  ·simp only[S0,xaa,IR,UL]at D;obtain rfl|rfl|rfl:=D<;>cases hq<;>exact xdS
  ·have h1:St we Se (Jt (λ_=>K9 (.int .i64 (l:J)) [u]) (0,.hid .i 3 X Y mX mY g x0)::F) (Zo Tryz.prog [.q .i,.q .i] (n,all,()) [v1,E]++G) w:=St.grp.2<|St.pr hY hi;exact h1.weak λS w T=>⟨O,T.1,T.2.1,T.2.2⟩
 have⟨f2,hf⟩:∃f2:xS J->V (X⊕Y),f2=λxs=>zg (λL (q:X×xS J)=>vP fu n all g q.1 q.2 (λx xs _ _ _ _ _=>L (x,xs)) (λx _ _ _=>Z (.inl x)) λy _=>Z (.inr y)) fu (x0,xs):=⟨_,O⟩;have⟨f1,hg⟩:∃f1:xS J->V (X⊕Y),f1=λxs=>bd (zg (λL (z:xS J×J)=>
  if z.2<(i0 xs:J)then
   zD z.2 (i0 z.1) λj=>
   B (z.1.set j z.2) λxs=>
   Q (z.2+1) λi=>L (xs,i)
  else Z z.1) fu (xs,0)) f2:=⟨_,O⟩
 have hm:(jh n λm=>ck (8*m<=281474976710656)<|B (xac m 0) f1)=Z r:=by rw[hg,hf];exact hM
 refine Bf (x:=kA) (y:=GY<|FA f299) ?_;have⟨K,k1,k2⟩:=zd8 (λxs:xS J=>(Tg.n,S1 mX mY g n all x0 xs)) f1 (λi j h=>by
  have f:Od.own .i 3 i=Od.own .i 3 j:=by simpa[S1]using h
  cases f;rfl)
 have k1:∀xs,K .n (S1 mX mY g n all x0 xs)=f1 xs:=k1;refine hD kA g8 (N:=Nd.of 66) (K:=K) O (.inl O) (r:=r) ((zql fu x0 K).trans<|by simp only[k1];exact hm) (λt σ' H Ds env w _ s=> ?_) hj;have⟨xs,e1,e2⟩:=k2 _ _ _ H;cases e1;refine Bf (x:=kB) (y:=GY<|GY<|FA f299) ?_;have⟨K,k1,k2⟩:=zd8 (λys:xS J=>(Tg.n,S2 mX mY g n all x0 xs ys)) f2 (λi j h=>by
  have f:Od.own .i 3 i=Od.own .i 3 j:=by simpa[S2]using h
  cases f;rfl)
 have k1:∀ys,K .n (S2 mX mY g n all x0 xs ys)=f2 ys:=k1;refine hD kB g8 (N:=Nd.of 66) (K:=K) O (.inl O) (r:=r) ((zpD fu x0 xs K).trans<|by simp only[k1];rw[hg]at e2;exact e2) (λt σ' H Ds env w _ s=> ?_) s;have⟨ys,e3,e4⟩:=k2 _ _ _ H;cases e3;have hn:Yn Tryz.prog (Fr.wd ⟨we,Se,F,G⟩ Ds) ⟨0,[],[]⟩ (chS 3 mX mY g n all x0 ys) env w:=zj0 (o:=0) (p:=2) O O O O O O O s;refine GZ (id:=2) (c:=.loop kC) ?_;have⟨body,hc⟩:∃body:((X×xS J)->V (X⊕Y))->(X×xS J)->V (X⊕Y),body=λL q=>vP fu n all g q.1 q.2 (λx xs _ _ _ _ _=>L (x,xs)) (λx _ _ _=>Z (.inl x)) λy _=>Z (.inr y):=⟨_,O⟩;refine O6 (G:=wr×(X×xS J)) (λq Ds env w=>zg body q.1 q.2=Z r/\Yn Tryz.prog (Fr.wd ⟨we,Se,F,G⟩ Ds) ⟨0,[],[]⟩ (chS 3 mX mY g n all q.2.1 q.2.2) env w) (λq=>q.1) (fu,(x0,ys)) ⟨by rw[hc];rw[hf]at e4;exact e4,hn⟩ ?_;rintro⟨k,x,xs⟩ Ds env w ⟨hl,s⟩
 cases k with
 |zero=>exact(zaE hl).elim
 |succ k=>
  have hl:=zbC hl
  have⟨K,k1,k2⟩:=zd8 (ι:=(X×xS J×J×J×J×J×J)⊕((X×J×J×xS J)⊕(Y×xS J)))
   (λq=>match q with
    |.inl (x,xs,a,b,c,d,e)=>(Tg.n,Sn mX mY g n all x xs a b c d e)
    |.inr (.inl (x,a,b,xs))=>(Tg.r,Sr mX mY g n all x a b xs)
    |.inr (.inr (y,xs))=>(Tg.r,Sy mY n all y xs))
   (λq=>match q with
    |.inl (x,xs,_,_,_,_,_)=>zg body k (x,xs)
    |.inr (.inl (x,_,_,_))=>Z (.inl x)
    |.inr (.inr (y,_))=>Z (.inr y)) (λi j h=>by
   rcases i with⟨x,xs,a,b,c,d,e⟩|⟨x,a,b,xs⟩|⟨y,xs⟩<;>rcases j with⟨U,A,a',b',c',d',e'⟩|⟨U,a',b',A⟩|⟨y',A⟩
   ·have f:=kW (λq:Tg×Sg=>q.2.ob) h
    simp only[Sn,xeF,xcO,eL,and_true]at f
    have⟨M,h4⟩:=f
    cases M;cases h4;rfl
   ·cases kW Prod.fst h
   ·cases kW Prod.fst h
   ·cases kW Prod.fst h
   ·have f:=kW (λq:Tg×Sg=>q.2.ob) h
    simp only[Sr,xeF,xcO,eL,and_true]at f
    have⟨M,h4⟩:=f
    cases M;rfl
   ·exact wR (kW (λq:Tg×Sg=>q.2.nx) h)<|by simp[Sr,Sy]
   ·cases kW Prod.fst h
   ·exact wR (kW (λq:Tg×Sg=>q.2.nx) h)<|by simp[Sr,Sy]
   ·have f:=kW (λq:Tg×Sg=>q.2.ob) h
    simp only[Sy,xeF,xcO,eL,and_true]at f
    have⟨M,h4⟩:=f
    cases M;rfl)
  have q1:∀x xs a b c d e,K .n (Sn mX mY g n all x xs a b c d e)=zg body k (x,xs):=λx xs a b c d e=>k1 (.inl (x,xs,a,b,c,d,e));have q2:∀x a b xs,K .r (Sr mX mY g n all x a b xs)=Z (.inl x):=λx a b xs=>k1 (.inr (.inl (x,a,b,xs)));have q3:∀y xs,K .r (Sy mY n all y xs)=Z (.inr y):=λy xs=>k1 (.inr (.inr (y,xs)));refine hD kC g8 (N:=Nd.of 66) (K:=K) O (.inl O) (r:=r) ((zpL fu x xs K).trans<|by simp only[q1,q2,q3];rw[hc]at hl⊢;exact hl) (λt σ' H Ds env w _ s=> ?_) s;have⟨i,e5,e6⟩:=k2 _ _ _ H
  have P:∀(t:Tg) (env:y8) (w:wP),(∃C,St we Se (xfB (λx=>mX x C) (λy=>mY y C) r::F) G<|qZ Ds w)->CF Ds w->∀a:Jp,yK a=env->
   ∃v,(V9 f299 a.tmps).run Tryz.prog (qZ Ds w)=.ok v (qZ Ds w)/\(∃v',xeG v=.returned v')/\∃C,St we Se (xfB (λx=>mX x C) (λy=>mY y C) r::F) G (qZ Ds w):=λt env w h1 f a T=>⟨_,WY (rs:=[]) (vs:=[]) O wS,⟨_,O⟩,h1⟩
  rcases i with⟨U,A,a,b,c,d,e⟩|⟨U,a,b,A⟩|⟨y',A⟩
  ·cases e5;exact⟨(k,(U,A)),⟨e6,zj0 (o:=2) (p:=4) O O O O O O O s⟩,xbS k⟩
  ·cases e5;cases e6;have⟨hd,s⟩:=QM s;exact⟨.inr O,hd,P .r _ _ (zlK (o:=2) O s) hd⟩
  ·cases e5;cases e6;have⟨hd,s⟩:=QM s;exact⟨.inr O,hd,P .r _ _ (zlT (o:=2) O s) hd⟩
end
def ry:zfX Tryz.prog (XR fu):=by
 refine⟨g8,?_⟩;rintro⟨n,a,_⟩ X Y f h g x0 r b l vs c d u we Se F G w hc
 match vs,c with
 |[v1,e],_=>exact zjj fu g x0 r l v1 e u we Se F G w d hc b
def YW:PF:=⟨257,[.i,.i],299,λx=>[⟨.i,x.2.1⟩,⟨.i,x.1⟩]⟩
def BF:Ss Tryz.prog YW:=zmI (s:=YW) (cf:=⟨tt,[],wy,0,ex,[],[],[]⟩) Sl TM Tu cN (.of RP O) func257 g8 λx=>by kernel_rfl
def Y7:z7 ⟨341,[.d y5,.d .i],[.d .i],λx=>Xm fu x.1 x.2.1,0⟩:=sq fu ⟨[],[],[(2,⟨⟨[(8,.d .i)],[]⟩,⟨[],[(.x 0,⟨[],[]⟩),(.r,⟨[(4,.d .i)],[]⟩)]⟩⟩)],[],[],[],[]⟩ func341<|cN
def Jv:z7 ⟨341,[.own .i 3,.d .i],[.d .i,.own .i 3],λx=>qo fu x.1 x.2.1,1⟩:=sgb (fu:=fu) ⟨[],[],[(2,⟨⟨[(8,.d .i)],[]⟩,⟨[0],[(.x 0,⟨[],[]⟩),(.r,⟨[(4,.d .i)],[]⟩)]⟩⟩)],[],[],[],[]⟩ func341 (cN) g8 λa x=>by kernel_rfl
def Ju:z7 ⟨302,[.d y5,.d .i],[.d .b],λx=>Jr fu x.1 x.2.1,0⟩:=sq fu wy func302<|D (Y7 fu)<|cN
def VI:z7 ⟨302,[.own .i 3,.d .i],[.d .b,.own .i 3],λx=>wb fu x.1 x.2.1,1⟩:=sgb (fu:=fu) wy func302 (D (Jv fu)<|D (Y7 fu)<|cN) g8 λa x=>by kernel_rfl
def qk:WZ:=⟨259,[.d tzQ,.own .i 3],[.d tzQ,.own .i 3],λx=>xL fu x.1 x.2.1,1⟩
def Jw:z7 (qk fu):=sgb (fu:=fu) ⟨[],[(262149,⟨[1,5],[(.n,⟨[(8,.d tzQ),(9,.d .i),(11,.d .b)],[]⟩)]⟩)],[(3,q1 [(5,.own yr 22),(10,.d .i),(1,.own .i 3)] 0 [(5,.own yr 22),(1,.own .i 3)])],[],[],[],[]⟩ func259 (D (VI fu)<|D (Ju fu)<|cN) g8 λa x=>by kernel_rfl
def gG:WZ:=⟨213,[.d yr,.d tzQ,.d A],[.own yr 22],λx=>Zz fu x.1 x.2.1 x.2.2.1,0⟩
def ED:z7 (gG fu):=Tl (s:=gG fu) (cf:=⟨tt,[Zq fu,dQ fu,qk fu,UO fu],⟨[3,4],[],[(3,q1 [(3,.var yr 22),(4,.var tzQ 105),(7,.bo yr 22 105),(8,.d .i)] 0 [(3,.var yr 22),(4,.var tzQ 105),(7,.bo yr 22 105)]),(6,q1 [(3,.var yr 22),(4,.var tzQ 105),(7,.bo yr 22 105)] 1 [])],[(13,[56,57])],[],[7],[]⟩,fu,ex,[],[YW],[XR fu]⟩) Sl TM Tu (D (fZ fu)<|D (Vh fu)<|D (Jw fu)<|D (kj fu)<|cN) ⟨RP,λs h=>by obtain rfl:=xad.1 h;exact BF,λ_ h=>wR h IR,λs h=>by obtain rfl:=xad.1 h;exact ry fu,O⟩ func213 g8 O λx r h=>(id g8:TP ⟨tt,[Zq fu,dQ fu,qk fu,UO fu],⟨[3,4],[],[(3,q1 [(3,.var yr 22),(4,.var tzQ 105),(7,.bo yr 22 105),(8,.d .i)] 0 [(3,.var yr 22),(4,.var tzQ 105),(7,.bo yr 22 105)]),(6,q1 [(3,.var yr 22),(4,.var tzQ 105),(7,.bo yr 22 105)] 1 [])],[(13,[56,57])],[],[7],[]⟩,fu,ex,[],[YW],[XR fu]⟩ f213 [.d yr,.d tzQ,.d A] [.own yr 22] x=Zz fu x.1 x.2.1 x.2.2.1).trans h
def Lv:z7 ⟨262,[.d yr,.d yr],[.d .b],λx=>YD fu x.1 x.2.1,0⟩:=sq fu ⟨[],[],[(5,⟨⟨[(5,.d .i)],[]⟩,⟨[0,1],[(.x 0,⟨[],[]⟩),(.r,⟨[(4,.d .b)],[]⟩)]⟩⟩)],[],[],[],[]⟩ func262<|D (yY fu)<|D (Jg fu)<|cN
def DY:z7 ⟨215,[.d yr,.d yr],[.d .i],λx=>jA fu x.1 x.2.1,0⟩:=sq fu wy func215<|D (Lv fu)<|cN
def NA:z7 ⟨270,[.d A,.d .i],[.d A,.d .i],λx=>J8 fu x.1 x.2.1,0⟩:=sq fu ⟨[],[],[(6,⟨⟨[(4,.var A 44),(6,.var A 44),(9,.var A 44)],[]⟩,⟨[],[(.r,⟨[(4,.var A 44)],[(5,.ci 0)]⟩)]⟩⟩),(11,⟨⟨[(1,.d .i),(2,.q A),(52,.d .i),(11,.var A 44)],[]⟩,⟨[4,6,9,10],[(.x 2,⟨[(1,.d .i),(2,.q A),(11,.var A 44)],[]⟩)]⟩⟩)],[],[],[],[]⟩ func270<|D (xj fu)<|D (vm fu)<|D (uX fu)<|D (qt fu)<|D (yP fu)<|D (UI fu)<|D (Jg fu)<|D (re fu)<|D (FB fu)<|cN
def my:z7 ⟨203,[.d yr],[.d .i],λx=>Xi fu x.1,0⟩:=sq fu wy func203<|D (yY fu)<|cN
def Qj:z7 ⟨240,[.d yr],[.d A,.d .i],λx=>ve fu x.1,0⟩:=sq fu ⟨[],[(524297,⟨[0,2,5],[(.n,⟨[(22,.d .i),(24,.d .b)],[]⟩)]⟩)],[(7,⟨⟨[(23,.d .i),(0,.own A 44),(2,.var A 44),(5,.var A 44)],[(21,.al 0)]⟩,⟨[],[(.x 0,⟨[(0,.own A 44),(2,.var A 44),(5,.var A 44)],[]⟩)]⟩⟩)],[],[],[],[]⟩ func240<|D (xj fu)<|D (uX fu)<|D (Yk fu)<|D (my fu)<|D (NA fu)<|D (yY fu)<|D (re fu)<|D (yP fu)<|cN
def Fq:z7 ⟨209,[.d yr,.d .i],[.d .i],λx=>Wa fu x.1 x.2.1,0⟩:=sq fu ⟨[],[],[(5,⟨⟨[(9,.d .i),(8,.var A 44)],[]⟩,⟨[5,7],[(.x 0,⟨[(9,.d .i)],[]⟩)]⟩⟩)],[(2,[])],[],[],[]⟩ func209<|D (Qj fu)<|D (xj fu)<|D (yP fu)<|D (Jg fu)<|cN
def Iq:z7 ⟨207,[.d yr],[.d .b],λx=>V8 fu x.1,0⟩:=sq fu ⟨[],[],[],[(2,[])],[],[],[]⟩ func207<|D (Qj fu)<|D (xj fu)<|D (yP fu)<|D (UI fu)<|cN
def Dh:z7 ⟨279,[.d y5,.d y5],[.d .i],λx=>vk fu x.1 x.2.1,0⟩:=sq fu ⟨[],[],[(4,⟨⟨[(5,.d .i)],[]⟩,⟨[],[(.x 0,⟨[],[]⟩),(.r,⟨[(4,.d .i)],[]⟩)]⟩⟩)],[],[],[],[]⟩ func279<|cN
def XV:WZ:=⟨373,[.d y5,.q .i],[.d .b],λx=>jv fu x.1 x.2.1,0⟩
def rL:z7 (XV fu):=sq fu wy func373<|cN
def UR:WZ:=⟨372,[.d y5,.d .i],[.own .i 3],λx=>YQ fu x.1 x.2.1,0⟩
def L3:z7 (UR fu):=sq fu ⟨[],[],[(3,q1 [(13,.d .i),(5,.own .i 3)] 0 [(5,.own .i 3)])],[],[],[],[]⟩ func372<|D (eE fu)<|cN
def UA:WZ:=⟨349,[.d (.l y5),.d .i],[.d .i],λx=>Xl fu x.1 x.2.1,0⟩
def oc:z7 (UA fu):=sq fu ⟨[],[(393223,⟨[],[(.n,⟨[(0,.d (.l y5)),(17,.d (.l y5)),(18,.d .i),(20,.d .b)],[]⟩)]⟩)],[(5,⟨⟨[(19,.d .i)],[]⟩,⟨[],[(.x 0,⟨[],[]⟩),(.r,⟨[],[(4,.ci 1)]⟩)]⟩⟩)],[],[],[],[]⟩ func349<|D (qP fu)<|cN
def We:Ck:=⟨374,.i,125,3,λxss ix r a p lo n=>vN fu xss ix r a p lo n⟩
def EP(b:wN)(xss:N (N J))(ix:N K)(r:K)(a p:J)(lo n:K):zlj ⟨tt,[],(⟨[],[],[(1,q1 [(3,.matv .i 125 3),(13,.view 0),(0,.row 0),(15,.d .i)] 0 [(3,.matv .i 125 3)]),(5,q1 [(3,.matv .i 125 3),(13,.view 0),(0,.row 0),(23,.row 0),(9,.row 0),(25,.d .i)] 2 [(3,.matv .i 125 3),(13,.view 0),(0,.row 0)])],[],[],[],[]⟩:An),fu,ex,[],[],[]⟩ f374 .i 125 3 b xss ix r a p lo n=vN fu xss ix r a p lo n:=g8
def Eu:Sa Tryz.prog (We fu):=zmR (s:=We fu) (cf:=⟨tt,[],(⟨[],[],[(1,q1 [(3,.matv .i 125 3),(13,.view 0),(0,.row 0),(15,.d .i)] 0 [(3,.matv .i 125 3)]),(5,q1 [(3,.matv .i 125 3),(13,.view 0),(0,.row 0),(23,.row 0),(9,.row 0),(25,.d .i)] 2 [(3,.matv .i 125 3),(13,.view 0),(0,.row 0)])],[],[],[],[]⟩:An),fu,ex,[],[],[]⟩) Sl TM Tu cN (.of RP O) func374 g8 λb xss ix r a p lo n z h=>(EP fu b xss ix r a p lo n).trans h
def qb:WZ:=⟨286,[.d (.l y5),.fn [y5] [.b]],[.d .i],λx=>yO fu x.1<|λz0=>x.2.1 (z0,()),0⟩
def uM:z7 (qb fu):=sq fu ⟨[],[],[(2,⟨⟨[(8,.d .i)],[]⟩,⟨[],[(.x 0,⟨[],[]⟩),(.r,⟨[(4,.d .i)],[]⟩)]⟩⟩)],[],[],[],[]⟩ func286<|cN
def dD:WZ:=⟨350,[.d (.l y5),.d .i],[.d (.l y5),.d .i],λx=>uU fu x.1 x.2.1,0⟩
def By:z7 (dD fu):=Tl (s:=dD fu) (cf:=⟨tt,[UA fu,UR fu,qb fu,Dd fu,XV fu],⟨[],[],[(6,q1 [(7,.mat .i 125 3),(25,.d .i)] 0 [(7,.mat .i 125 3)]),(12,q1 [(7,.mat .i 125 3),(10,.d .i),(11,.var .i 3)] 2 [(7,.mat .i 125 3),(10,.d .i)]),(19,q1 [(7,.mat .i 125 3),(90,.row 0),(92,.d .i)] 4 [(7,.mat .i 125 3)])],[(16,[]),(23,[]),(24,[])],[52,117,128],[33],[]⟩,fu,ex,[We fu],[],[]⟩) Sl TM Tu (D (oc fu)<|D (L3 fu)<|D (uM fu)<|D (Db fu)<|D (rL fu)<|cN) ⟨RP,λ_ h=>wR h IR,λs h=>by obtain rfl:=xad.1 h;exact Eu fu,λ_ h=>wR h IR,O⟩ func350 g8 O λx r h=>(id g8:TP ⟨tt,[UA fu,UR fu,qb fu,Dd fu,XV fu],⟨[],[],[(6,q1 [(7,.mat .i 125 3),(25,.d .i)] 0 [(7,.mat .i 125 3)]),(12,q1 [(7,.mat .i 125 3),(10,.d .i),(11,.var .i 3)] 2 [(7,.mat .i 125 3),(10,.d .i)]),(19,q1 [(7,.mat .i 125 3),(90,.row 0),(92,.d .i)] 4 [(7,.mat .i 125 3)])],[(16,[]),(23,[]),(24,[])],[52,117,128],[33],[]⟩,fu,ex,[We fu],[],[]⟩ f350 [.d (.l y5),.d .i] [.d (.l y5),.d .i] x=uU fu x.1 x.2.1).trans h
def Fg:z7 ⟨376,[.d .i],[.d .b],λx=>ZH fu x.1,0⟩:=sq fu wy func376<|cN
def Vu:z7 ⟨375,[.d y5,.fn [.i] [.b]],[.d .i],λx=>xr fu x.1<|λz0=>x.2.1 (z0,()),0⟩:=sq fu ⟨[],[],[(2,⟨⟨[(8,.d .i)],[]⟩,⟨[],[(.x 0,⟨[],[]⟩),(.r,⟨[(4,.d .i)],[]⟩)]⟩⟩)],[],[],[],[]⟩ func375<|cN
def tu:z7 ⟨353,[.d y5],[.d .i],λx=>Vg fu x.1,0⟩:=sq fu wy func353<|D (Fg fu)<|D (Vu fu)<|cN
def Fu:z7 ⟨352,[.d y5,.q .i],[.d .b],λx=>qN fu x.1 x.2.1,0⟩:=sq fu wy func352<|D (tu fu)<|cN
def W3:z7 ⟨351,[.d (.l y5),.fn [y5] [.b]],[.d .b],λx=>xN fu x.1<|λz0=>x.2.1 (z0,()),0⟩:=sq fu wy func351<|D (uM fu)<|cN
def NY:z7 ⟨324,[.d (.l y5),.d .i,.d .i],[.own y5 125,.d .i],λx=>W5 fu x.1 x.2.1 x.2.2.1,0⟩:=sq fu ⟨[],[(131076,⟨[],[(.n,⟨[],[]⟩),(.r,⟨[],[(6,.nil),(7,.ci 1)]⟩)]⟩),(458760,⟨[10],[(.n,⟨[(1,.d .i),(2,.d .i),(8,.d (.l y5)),(46,.d .i),(48,.d .b)],[]⟩)]⟩),(851982,⟨[10,12],[(.n,⟨[(1,.d .i),(2,.d .i),(8,.d (.l y5)),(11,.q .i),(46,.d .i),(47,.d .i),(58,.d (.l y5)),(59,.d .i),(61,.d .b)],[]⟩)]⟩)],[(6,q1 [(10,.own y5 125),(47,.d .i)] 0 [(10,.own y5 125)]),(12,q1 [(60,.d .i),(10,.own y5 125),(12,.own .i 3)] 2 [(10,.own y5 125),(12,.own .i 3)])],[],[],[],[]⟩ func324<|D (Fu fu)<|D (tu fu)<|D (eE fu)<|D (oc fu)<|D (By fu)<|D (W3 fu)<|cN
def cG:z7 ⟨253,[.d y5,.d y5,.d .i],[.own .i 3,.own .i 3,.d .i],λx=>jN fu x.1 x.2.1 x.2.2.1,0⟩:=sq fu wy func253<|D (xV fu)<|D (VC fu)<|D (qP fu)<|cN
def c8:z7 ⟨323,[.d y5,.d A,.d y5,.d .i],[.own .i 3,.d .i],λx=>u7 fu x.1 x.2.1 x.2.2.1 x.2.2.2.1,0⟩:=sq fu ⟨[],[],[(9,⟨⟨[(11,.own .i 3),(13,.d y5),(14,.d .i)],[]⟩,⟨[10,12],[(.x 0,⟨[(11,.own .i 3)],[]⟩)]⟩⟩)],[],[],[],[]⟩ func323<|D (xV fu)<|D (VC fu)<|D (vm fu)<|D (ZZ fu)<|D (UI fu)<|D (qP fu)<|cN
def HJ:z7 ⟨277,[.d y5,.d .i],[.own y5 125],λx=>Y4 fu x.1 x.2.1,0⟩:=sq fu ⟨[],[],[(4,q1 [(6,.mat .i 125 3),(23,.d .i)] 0 [(6,.mat .i 125 3)]),(11,q1 [(6,.mat .i 125 3),(10,.d y5),(8,.d y5),(43,.d .i)] 2 [(6,.mat .i 125 3)]),(14,q1 [(6,.mat .i 125 3),(48,.d .i)] 4 [(6,.mat .i 125 3)])],[],[],[20],[]⟩ func277<|D (xj fu)<|D (c8 fu)<|D (JY fu)<|D (cG fu)<|D (NY fu)<|cN
def zb4:z7 ⟨322,[.d y5,.d y5,.d .i],[.own .i 3],λx=>fi fu x.1 x.2.1 x.2.2.1,0⟩:=sq fu wy func322<|D (cG fu)<|cN
def Sj:z7 ⟨320,[.d y5,.d y5,.d .i],[.d y5],λx=>ax fu x.1 x.2.1 x.2.2.1,0⟩:=sq fu wy func320<|D (b8 fu)<|cN
def Al:z7 ⟨318,[.d .i,.q y5,.q .i],[.d .i],λx=>ZW fu x.1 x.2.1 x.2.2.1,0⟩:=sq fu wy func318<|D (eE fu)<|cN
def Nj:z7 ⟨348,[.d y5,.d y5,.d .i],[.own .i 3,.d .i],λx=>JS fu x.1 x.2.1 x.2.2.1,0⟩:=sq fu wy func348<|D (xV fu)<|D (bN fu)<|D (qP fu)<|cN
def LL:z7 ⟨321,[.d y5,.d .i,.d y5,.d .i],[.own .i 3],λx=>Qb fu x.1 x.2.1 x.2.2.1 x.2.2.2.1,0⟩:=sq fu wy func321<|D (xj fu)<|D (c8 fu)<|D (Nj fu)<|D (tE fu)<|cN
def Fm:z7 ⟨276,[.d y5,.d (.l y5),.d .i,.d y5],[.own y5 125],λx=>X9 fu x.1 x.2.1 x.2.2.1 x.2.2.2.1,0⟩:=sq fu ⟨[],[(524297,⟨[10],[(.n,⟨[(11,.d .i),(28,.d (.l y5)),(29,.d .i),(31,.d .b)],[]⟩)]⟩),(983056,⟨[10],[(.n,⟨[(1,.d (.l y5)),(6,.q .i),(7,.q y5),(11,.d .i),(13,.d y5),(28,.d (.l y5)),(29,.d .i),(30,.d .i),(73,.d .b)],[]⟩)]⟩)],[(4,q1 [(10,.own y5 125),(11,.d .i)] 0 [(10,.own y5 125)]),(7,⟨⟨[(1,.d (.l y5)),(6,.q .i),(7,.q y5),(10,.own y5 125),(30,.d .i)],[]⟩,⟨[],[(.x 0,⟨[(10,.own y5 125)],[]⟩),(.x 2,⟨[(1,.d (.l y5)),(6,.q .i),(7,.q y5),(10,.own y5 125)],[]⟩)]⟩⟩),(10,⟨⟨[(10,.own y5 125),(14,.d .i)],[]⟩,⟨[],[(.x 0,⟨[(10,.own y5 125)],[]⟩),(.x 4,⟨[(10,.own y5 125)],[]⟩)]⟩⟩)],[],[],[],[]⟩ func276<|D (Sj fu)<|D (LL fu)<|D (zb4 fu)<|D (Al fu)<|cN
def gL:z7 ⟨347,[.d y5,.d .i],[.own .i 3,.d .i],λx=>qW fu x.1 x.2.1,0⟩:=sq fu wy func347<|D (xV fu)<|D (bU fu)<|D (qP fu)<|cN
def Mz:z7 ⟨317,[.d y5,.d .i],[.own .i 3,.d .i],λx=>ae fu x.1 x.2.1,0⟩:=sq fu wy func317<|D (gL fu)<|cN
def EN:z7 ⟨314,[.d y5,.d .i],[.own .i 3,.d .i],λx=>Wq fu x.1 x.2.1,0⟩:=sq fu ⟨[],[(458760,⟨[7,17],[(.n,⟨[(1,.d .i),(18,.d .i),(20,.d .b)],[]⟩)]⟩)],[(6,q1 [(7,.own .i 3),(19,.d .i),(17,.own .i 3)] 0 [(7,.own .i 3)])],[],[],[],[]⟩ func314<|D (xV fu)<|D (qP fu)<|cN
def Ly:z7 ⟨313,[.d y5,.d .i],[.own .i 3,.d .i],λx=>Qx fu x.1 x.2.1,0⟩:=sq fu wy func313<|D (gL fu)<|cN
def Gi:z7 ⟨271,[.d y5,.d .i],[.d .b,.d .i],λx=>Yw fu x.1 x.2.1,0⟩:=sq fu wy func271<|D (Ly fu)<|D (EN fu)<|D (b8 fu)<|cN
def Fc:z7 ⟨275,[.d y5,.d .i],[.d y5,.d .i],λx=>kK fu x.1 x.2.1,0⟩:=sq fu wy func275<|D (Mz fu)<|D (Gi fu)<|cN
def aQ:z7 ⟨261,[.d .u],[.d .i],λx=>kt fu x.1,0⟩:=sq fu wy func261<|D (Xe fu)<|cN
def Zv:z7 ⟨354,[.own y5 125,.d .i,.d .i,.fn [y5,y5] [.i]],[.own y5 125],λx=>vz fu x.1 x.2.1 x.2.2.1<|λz0 a=>x.2.2.2.1 (z0,a,()),1⟩:=sgb (fu:=fu) ⟨[],[],[(1,q1 [(8,.d .i),(0,.own y5 125)] 0 [(0,.own y5 125)]),(4,q1 [(1,.d .i),(2,.d .i),(9,.d .i),(0,.own y5 125)] 2 [(1,.d .i),(2,.d .i),(0,.own y5 125)])],[(6,[])],[],[],[]⟩ func354 (cN) g8 λb x=>by kernel_rfl
def X5:WZ:=⟨325,[.own y5 125,.d .i,.d .i,.d .i,.fn [y5,y5] [.i]],[.own y5 125],λx=>jk fu x.1 x.2.1 x.2.2.1 x.2.2.2.1<|λz0 a=>x.2.2.2.2.1 (z0,a,()),1⟩
def jm:∀fu:K,z7 (X5 fu)
 |0=>sg0 g8 λ_=>O
 |fu+1=>sgb (fu:=fu) ⟨[],[],[(2,⟨⟨[(1,.d .i),(2,.d .i),(3,.d .i),(0,.own y5 125)],[(10,.kb wF),(11,.kb wF)]⟩,⟨[],[(.r,⟨[(0,.own y5 125)],[]⟩)]⟩⟩)],[],[],[],[]⟩ func325 (D (Zv fu)<|D (jm fu)<|cN) g8 λa x=>by kernel_rfl
def Vs:z7 ⟨278,[.own y5 125,.fn [y5,y5] [.i]],[.own y5 125],λx=>xZ fu x.1<|λz0 a=>x.2.1 (z0,a,()),1⟩:=sgb (fu:=fu) wy func278 (D (jm fu)<|D (aQ fu)<|cN) g8 λb x=>by kernel_rfl
def Hz:z7 ⟨245,[.d y5,.d .i,.d y5],[.own y5 125,.d .i],λx=>Xk fu x.1 x.2.1 x.2.2.1,0⟩:=sq fu wy func245<|D (Fc fu)<|D (Fm fu)<|D (HJ fu)<|D (Vs fu)<|D (Dh fu)<|cN
def H4:z7 ⟨242,[.d .i],[.d .i,.d .i],λx=>wB fu x.1,0⟩:=sq fu ⟨[],[],[(4,q1 [(0,.d .i)] 0 [(0,.d .i)])],[],[],[],[]⟩ func242<|D (Ji fu)<|cN
def LO:z7 ⟨243,[.d yr,.d .i],[.d .b,.d .i],λx=>Qn fu x.1 x.2.1,0⟩:=sq fu wy func243<|D (Gi fu)<|D (Qj fu)<|D (WV fu)<|D (Ji fu)<|D (yY fu)<|cN
def Ln:z7 ⟨208,[.d yr,.d y5],[.d .i,.own y5 125],λx=>V7 fu x.1 x.2.1,0⟩:=sq fu ⟨[],[],[(4,q1 [(6,.d .i),(7,.d .i),(8,.own y5 125),(9,.d .i),(10,.d .i)] 0 [(6,.d .i),(8,.own y5 125)])],[],[],[],[]⟩ func208<|D (H4 fu)<|D (LO fu)<|D (WV fu)<|D (Hz fu)<|cN
def BZ:z7 ⟨281,[.d .i],[.d A],λx=>cd fu x.1,0⟩:=sq fu ⟨[],[(262149,⟨[2,3],[(.n,⟨[(0,.d .i),(6,.d .i),(8,.d .b)],[]⟩)]⟩)],[(3,q1 [(7,.d .i),(2,.var A 44),(3,.var A 44)] 0 [(2,.var A 44),(3,.var A 44)])],[(5,[])],[],[],[]⟩ func281<|D (xj fu)<|D (qv fu)<|D (yP fu)<|cN
def Fa:z7 ⟨280,[.d A,.d .i],[.d A],λx=>ZF fu x.1 x.2.1,0⟩:=sq fu ⟨[2],[],[(2,⟨⟨[(1,.d .i),(2,.var A 44),(5,.var A 44)],[]⟩,⟨[4],[(.x 0,⟨[(5,.var A 44)],[]⟩)]⟩⟩)],[],[],[],[]⟩ func280<|D (xj fu)<|D (yP fu)<|cN
def EZ:z7 ⟨362,[.d yr,.d yr],[.d A],λx=>gx fu x.1 x.2.1,0⟩:=sq fu ⟨[],[(262149,⟨[4,5],[(.n,⟨[(1,.d yr),(9,.d yr),(10,.d .i),(12,.d .b)],[]⟩)]⟩)],[(3,q1 [(11,.d .i),(4,.var A 44),(5,.var A 44)] 0 [(4,.var A 44),(5,.var A 44)])],[],[],[],[]⟩ func362<|D (xj fu)<|D (uX fu)<|D (yP fu)<|cN
def Ff:z7 ⟨326,[.d yr,.d yr],[.d A,.d .i],λx=>gA fu x.1 x.2.1,0⟩:=sq fu wy func326<|D (EZ fu)<|cN
def Ca:z7 ⟨282,[.d yr],[.d A],λx=>bH fu x.1,0⟩:=sq fu wy func282<|D (Ff fu)<|cN
def My:z7 ⟨249,[.d yr,.d .i,.d .i],[.d .i,.d .i],λx=>mx fu x.1 x.2.1 x.2.2.1,0⟩:=sq fu ⟨[],[],[(13,⟨⟨[(16,.d .i),(15,.var A 44)],[]⟩,⟨[8,13,14],[(.x 0,⟨[],[]⟩),(.r,⟨[(6,.d .i)],[(7,.ci 0)]⟩)]⟩⟩)],[],[],[],[]⟩ func249<|D (xj fu)<|D (Qj fu)<|D (kj fu)<|D (Jg fu)<|D (Ji fu)<|D (Fa fu)<|D (BZ fu)<|D (Ca fu)<|D (yP fu)<|cN
def AG:z7 ⟨252,[.d y5,.q y5,.q .i],[.d .b],λx=>tU fu x.1 x.2.1 x.2.2.1,0⟩:=sq fu wy func252<|D (cG fu)<|cN
def EA:z7 ⟨211,[.d yr,.d (.l y5),.d .i],[.own yr 22,.d yr,.d (.l y5)],λx=>Wu fu x.1 x.2.1 x.2.2.1,0⟩:=sq fu ⟨[],[],[(2,⟨⟨[(0,.d yr),(1,.d (.l y5))],[(9,.nil)]⟩,⟨[],[(.x 0,⟨[(0,.d yr),(1,.d (.l y5))],[(9,.nil)]⟩)]⟩⟩)],[],[],[],[]⟩ func211<|D (gJ fu)<|D (WV fu)<|D (Vh fu)<|D (My fu)<|D (AG fu)<|cN
def kN:z7 ⟨303,[.own yr 22,.d .i,.d .i,.fn [yr,yr] [.i]],[.own yr 22],λx=>wQ fu x.1 x.2.1 x.2.2.1<|λz0 a=>x.2.2.2.1 (z0,a,()),1⟩:=sgb (fu:=fu) ⟨[],[],[(1,q1 [(8,.d .i),(0,.own yr 22)] 0 [(0,.own yr 22)]),(4,q1 [(1,.d .i),(2,.d .i),(9,.d .i),(0,.own yr 22)] 2 [(1,.d .i),(2,.d .i),(0,.own yr 22)])],[(6,[])],[],[],[]⟩ func303 (cN) g8 λb x=>by kernel_rfl
def Ya:WZ:=⟨260,[.own yr 22,.d .i,.d .i,.d .i,.fn [yr,yr] [.i]],[.own yr 22],λx=>vV fu x.1 x.2.1 x.2.2.1 x.2.2.2.1<|λz0 a=>x.2.2.2.2.1 (z0,a,()),1⟩
def v8:∀fu:K,z7 (Ya fu)
 |0=>sg0 g8 λ_=>O
 |fu+1=>sgb (fu:=fu) ⟨[],[],[(2,⟨⟨[(1,.d .i),(2,.d .i),(3,.d .i),(0,.own yr 22)],[(10,.kb wF),(11,.kb wF)]⟩,⟨[],[(.r,⟨[(0,.own yr 22)],[]⟩)]⟩⟩)],[],[],[],[]⟩ func260 (D (v8 fu)<|D (kN fu)<|cN) g8 λa x=>by kernel_rfl
def Zs:z7 ⟨214,[.own yr 22,.fn [yr,yr] [.i]],[.own yr 22],λx=>yC fu x.1<|λz0 a=>x.2.1 (z0,a,()),1⟩:=sgb (fu:=fu) wy func214 (D (v8 fu)<|D (aQ fu)<|cN) g8 λb x=>by kernel_rfl
def LF:z7 ⟨171,[.d yr,.d y5],[.own yr 22,.d .b],λx=>Qc fu x.1 x.2.1,0⟩:=sq fu wy func171<|D (Iq fu)<|D (Ln fu)<|D (Fq fu)<|D (QV fu)<|D (EA fu)<|D (gJ fu)<|D (ED fu)<|D (Zs fu)<|D (DY fu)<|cN
def Tq:z7 ⟨205,[.d yr,.d yr],[.own A 44],λx=>XH fu x.1 x.2.1,0⟩:=sq fu ⟨[],[],[(3,⟨⟨[(6,.d yr),(7,.own A 44)],[]⟩,⟨[5],[(.x 0,⟨[(6,.d yr)],[]⟩)]⟩⟩)],[],[],[],[]⟩ func205<|D (iA fu)<|D (Wi fu)<|D (kj fu)<|D (gk fu)<|D (ZL fu)<|cN
def AN:z7 ⟨239,[.d .i,.d A],[.d A],λx=>Vo fu x.1 x.2.1,0⟩:=sq fu wy func239<|D (xj fu)<|D (yP fu)<|cN
def E7:z7 ⟨206,[.d yr],[.own A 44],λx=>Wy fu x.1,0⟩:=sq fu wy func206<|D (yY fu)<|D (AN fu)<|D (xp fu)<|cN
def zcg:z7 ⟨204,[.d yr,.d yr],[.own A 44],λx=>rV fu x.1 x.2.1,0⟩:=sq fu wy func204<|D (Vh fu)<|cN
def CZ:z7 ⟨170,[.d yr],[.own A 44,.d .i],λx=>xU fu x.1,0⟩:=sq fu wy func170<|D (my fu)<|D (zcg fu)<|D (Tq fu)<|D (E7 fu)<|D (kj fu)<|cN
def BC:z7 ⟨129,[.d yr,.d y5],[.d A,.own (.p yr .i) 61,.d .i],λx=>xc fu x.1 x.2.1,0⟩:=sq fu ⟨[],[(655371,⟨[4,11,32],[(.n,⟨[(0,.d yr),(33,.d .i),(35,.d .b)],[]⟩)]⟩)],[(9,q1 [(11,.own (.p yr .i) 61),(34,.d .i),(4,.var A 44),(32,.own yr 22)] 0 [(11,.own (.p yr .i) 61),(4,.var A 44)])],[],[],[],[]⟩ func129<|D (CZ fu)<|D (LF fu)<|D (IG fu)<|D (ZL fu)<|cN
def iM:z7 ⟨82,[.d yr],[.d .b,.d .i],λx=>vX fu x.1,0⟩:=sq fu wy func82<|D (BC fu)<|cN
def tG:z7 ⟨40,[.d yr],[.d (.po (.w1 (.p yr (.l (.p A yz))))),.d .i],λx=>jG fu x.1,0⟩:=sq fu ⟨[],[(917519,⟨[6],[(.n,⟨[(0,.d yr),(32,.d yr),(33,.d .i),(35,.d .b)],[]⟩)]⟩)],[(13,q1 [(34,.d .i),(6,.vr (.p yr (.l (.p A yz))) 101 (.p A yz) 46 2 1)] 1 [(6,.vr (.p yr (.l (.p A yz))) 101 (.p A yz) 46 2 1)])],[(15,[])],[],[],[(6,1,46),(31,1,46)]⟩ func40<|D (kj fu)<|D (iM fu)<|D (UY fu)<|cN
def Vd:z7 ⟨198,[.own .ch 5],[.own .ch 5],λx=>jM fu x.1,1⟩:=sgb (fu:=fu) ⟨[],[],[(1,q1 [(2,.d .i),(3,.d .i),(0,.own .ch 5)] 0 [(0,.own .ch 5)])],[(3,[])],[],[],[]⟩ func198 (cN) g8 λa x=>by kernel_rfl
def HV:z7 ⟨162,[.d .u,.d .b],[.d .tx],λx=>U3 fu x.1 x.2.1,0⟩:=sq fu ⟨[],[],[(2,q1 [(0,.d .u),(5,.own .ch 5)] 0 [(5,.own .ch 5)])],[],[],[],[]⟩ func162<|D (Vd fu)<|cN
def Yz:z7 ⟨163,[.own .tx 9],[.own .tx 9],λx=>qh fu x.1,1⟩:=sgb (fu:=fu) ⟨[],[],[(1,q1 [(2,.d .i),(3,.d .i),(0,.own .tx 9)] 0 [(0,.own .tx 9)])],[(3,[])],[],[],[]⟩ func163 (cN) g8 λa x=>by kernel_rfl
def CM:z7 ⟨164,[.d (.l .tx),.d .tx],[.d .tx],λx=>du fu x.1 x.2.1,0⟩:=zgl g8 Tryz.strings_Join_none Tryz.strings_Join
def CP:z7 ⟨117,[.d yz],[.d .tx],λx=>aq fu x.1,0⟩:=sq fu ⟨[],[],[(3,q1 [(0,.d yz),(3,.own .tx 9)] 0 [(3,.own .tx 9)])],[],[],[],[]⟩ func117<|D (tc fu)<|D (HV fu)<|D (Yz fu)<|D (CM fu)<|D (xa fu)<|D (wJ fu)<|cN
def N5:z7 ⟨115,[.d (.p A yz)],[.d A,.d .b],λx=>tI fu x.1,0⟩:=sq fu ⟨[1],[],[],[],[],[],[]⟩ func115<|D (Z7 fu)<|D (ru fu)<|cN
def PE:z7 ⟨116,[.d A],[.d .tx],λx=>cL fu x.1,0⟩:=sq fu wy func116<|D (vm fu)<|D (CP fu)<|cN
def Su:z7 ⟨77,[.d (.p A yz)],[.d .tx],λx=>Dt fu x.1,0⟩:=sq fu ⟨[1],[],[],[],[],[],[]⟩ func77<|D (Z7 fu)<|D (N5 fu)<|D (PE fu)<|D (CP fu)<|cN
def Er:z7 ⟨37,[],[.d .b],λx=>Kx fu,0⟩:=sq fu wy func37<|D (tG fu)<|D (Su fu)<|D (dZ fu)<|D (mr fu)<|D (LU fu)<|D (DP fu)<|D (pO fu)<|cN
def PA:z7 ⟨39,[.d yr],[.d .b],λx=>J1 fu x.1,0⟩:=sq fu ⟨[],[],[(4,⟨⟨[(3,.d .i)],[]⟩,⟨[],[(.x 0,⟨[],[]⟩),(.r,⟨[],[(2,.kb I)]⟩)]⟩⟩)],[],[],[],[]⟩ func39<|cN
def o8:z7 ⟨165,[.d yz],[.own .u 73],λx=>Xb fu x.1,0⟩:=sq fu ⟨[],[],[(2,q1 [(3,.d .i)] 0 [(3,.d .i)])],[],[],[],[]⟩ func165<|cN
def vC:z7 ⟨119,[.d A],[.d A],λx=>yX fu x.1,0⟩:=sq fu wy func119<|D (o8 fu)<|cN
def OT:z7 ⟨169,[.d A],[.d A],λx=>Vf fu x.1,0⟩:=sq fu wy func169<|D (vC fu)<|cN
def iB:z7 ⟨230,[.d yz,.d .i],[.d .u],λx=>vY fu x.1 x.2.1,0⟩:=sq fu wy func230<|cN
def dc:z7 ⟨238,[.d yz],[.d yz],λx=>Ym fu x.1,0⟩:=sq fu ⟨[],[],[(2,q1 [(3,.d .i)] 0 [(3,.d .i)])],[],[],[],[]⟩ func238<|cN
def Y0:z7 ⟨229,[.d yz],[.d yz],λx=>xy fu x.1,0⟩:=sq fu ⟨[],[],[(3,q1 [(3,.own .u 73),(4,.d .i)] 0 [(3,.own .u 73)])],[],[],[],[]⟩ func229<|D (dc fu)<|cN
def Wk:z7 ⟨231,[.d yz],[.own .u 73],λx=>vK fu x.1,0⟩:=sq fu ⟨[],[],[(3,q1 [(3,.own .u 73),(4,.d .i)] 0 [(3,.own .u 73)])],[],[],[],[]⟩ func231<|D (o8 fu)<|cN
def tm:z7 ⟨187,[.d yz,.d yz],[.own .u 73],λx=>WH fu x.1 x.2.1,0⟩:=sq fu ⟨[],[],[(6,q1 [(7,.own .u 73),(8,.d .u),(9,.d .i)] 0 [(7,.own .u 73)])],[],[],[],[]⟩ func187<|D (Y0 fu)<|D (iB fu)<|D (Wk fu)<|cN
def aZ:z7 ⟨232,[.d yz,.d yz],[.d .i],λx=>ku fu x.1 x.2.1,0⟩:=sq fu ⟨[],[],[(2,⟨⟨[(5,.d .i)],[]⟩,⟨[],[(.x 0,⟨[],[]⟩),(.r,⟨[(4,.d .i)],[]⟩)]⟩⟩)],[],[],[],[]⟩ func232<|D (iB fu)<|cN
def pB:z7 ⟨233,[.d yz,.d yz],[.d yz],λx=>YO fu x.1 x.2.1,0⟩:=sq fu ⟨[],[],[(4,q1 [(5,.own .u 73),(6,.d .u),(7,.d .i)] 0 [(5,.own .u 73)])],[],[],[],[]⟩ func233<|D (iB fu)<|D (dc fu)<|cN
def Pn:z7 ⟨202,[.d yz,.d yz],[.own .u 73,.own .u 73,.d .i],λx=>J6 fu x.1 x.2.1,0⟩:=sq fu ⟨[],[(1245204,⟨[9],[(.n,⟨[(72,.d .b)],[]⟩)]⟩)],[(8,q1 [(10,.d yz),(11,.d .i),(9,.own .u 73)] 0 [(10,.d yz),(9,.own .u 73)]),(13,⟨⟨[(7,.d yz),(8,.d yz),(12,.own .u 73),(13,.d .u),(14,.d .i)],[]⟩,⟨[9],[(.x 2,⟨[(7,.d yz),(8,.d yz),(12,.own .u 73),(13,.d .u)],[]⟩)]⟩⟩)],[],[],[],[]⟩ func202<|D (Y0 fu)<|D (Wk fu)<|D (aZ fu)<|D (pB fu)<|D (dc fu)<|cN
def tw:z7 ⟨188,[.d yz,.d yz],[.own .u 73,.d .i],λx=>Yu fu x.1 x.2.1,0⟩:=sq fu wy func188<|D (aZ fu)<|D (pB fu)<|D (Y0 fu)<|D (Wk fu)<|cN
def sX:z7 ⟨166,[.d A,.d A],[.d A,.d A,.d .i],λx=>W9 fu x.1 x.2.1,0⟩:=sq fu ⟨[],[(327688,⟨[4,5],[(.n,⟨[(7,.own .u 73),(8,.own .u 73)],[]⟩)]⟩)],[],[],[],[],[]⟩ func166<|D (Pn fu)<|D (tm fu)<|D (tw fu)<|D (vC fu)<|cN
def Xg:z7 ⟨118,[.d A],[.d .i],λx=>qK fu x.1,0⟩:=sq fu wy func118<|D (vC fu)<|cN
def Pf:z7 ⟨124,[.d A,.d A],[.d A],λx=>JE fu x.1 x.2.1,0⟩:=sq fu ⟨[],[],[(3,⟨⟨[(5,.var A 44),(6,.var A 44)],[]⟩,⟨[4],[(.x 0,⟨[(5,.var A 44)],[]⟩)]⟩⟩)],[],[],[],[]⟩ func124<|D (OT fu)<|D (sX fu)<|D (Xg fu)<|cN
def td:z7 ⟨125,[.d A],[.d A],λx=>W7 fu x.1,0⟩:=sq fu wy func125<|D (vC fu)<|cN
def Jl:z7 ⟨112,[.d .i],[.d A],λx=>uA fu x.1,0⟩:=sq fu wy func112<|D (vC fu)<|cN
def qI:z7 ⟨78,[.d yr],[.own A 44],λx=>xI fu x.1,0⟩:=sq fu ⟨[],[],[(2,q1 [(3,.d .i)] 0 [(3,.d .i)]),(6,q1 [(4,.own A 44),(5,.d .i)] 2 [(4,.own A 44)])],[],[],[],[]⟩ func78<|D (Xg fu)<|D (vC fu)<|cN
def tW:z7 ⟨80,[.d yr],[.d A],λx=>ZN fu x.1,0⟩:=sq fu ⟨[],[],[(4,⟨⟨[(5,.d .i),(4,.var A 44)],[]⟩,⟨[2,3],[(.x 0,⟨[(4,.var A 44)],[]⟩)]⟩⟩)],[],[],[],[]⟩ func80<|D (Jl fu)<|D (Pf fu)<|D (td fu)<|D (qI fu)<|cN
def Ft:z7 ⟨120,[.d A,.d A],[.d A,.d .i],λx=>WE fu x.1 x.2.1,0⟩:=sq fu wy func120<|D (Xg fu)<|D (sX fu)<|cN
def JC:z7 ⟨154,[.d A,.d A],[.d A],λx=>uF fu x.1 x.2.1,0⟩:=sq fu wy func154<|D (tm fu)<|D (tw fu)<|D (vC fu)<|cN
def Tm:z7 ⟨167,[.d yr,.d .i],[.d A],λx=>Q8 fu x.1 x.2.1,0⟩:=sq fu wy func167<|cN
def cK:z7 ⟨121,[.d yr,.d yr],[.own A 44],λx=>Yh fu x.1 x.2.1,0⟩:=sq fu ⟨[],[],[(3,q1 [(5,.own A 44),(6,.d .i)] 0 [(5,.own A 44)])],[],[],[],[]⟩ func121<|D (JC fu)<|D (qI fu)<|D (Tm fu)<|cN
def Ox:z7 ⟨189,[.d yz,.d yz],[.own .u 73],λx=>JZ fu x.1 x.2.1,0⟩:=sq fu ⟨[],[],[(5,q1 [(8,.d .i),(7,.own .u 73)] 0 [(7,.own .u 73)]),(9,q1 [(5,.d yz),(6,.d yz),(9,.d .u),(10,.d .i),(7,.own .u 73)] 2 [(5,.d yz),(6,.d yz),(9,.d .u),(7,.own .u 73)])],[],[],[],[]⟩ func189<|D (Y0 fu)<|D (Wk fu)<|cN
def cc:z7 ⟨155,[.d A,.d A],[.d A],λx=>ux fu x.1 x.2.1,0⟩:=sq fu wy func155<|D (Ox fu)<|D (vC fu)<|cN
def tF:z7 ⟨123,[.d yr,.d yr],[.own A 44],λx=>W2 fu x.1 x.2.1,0⟩:=sq fu ⟨[],[],[(3,q1 [(6,.d .i),(5,.own A 44)] 0 [(5,.own A 44)]),(6,q1 [(0,.d yr),(1,.d yr),(7,.d .i),(5,.own A 44)] 2 [(0,.d yr),(1,.d yr),(5,.own A 44)])],[],[],[],[]⟩ func123<|D (JC fu)<|D (cc fu)<|D (qI fu)<|cN
def Fi:z7 ⟨168,[.d yr,.d A],[.own A 44],λx=>Wx fu x.1 x.2.1,0⟩:=sq fu ⟨[],[],[(3,q1 [(5,.own A 44),(6,.d .i)] 0 [(5,.own A 44)])],[],[],[],[]⟩ func168<|D (cc fu)<|D (qI fu)<|cN
def RF:z7 ⟨122,[.d yr,.d yr],[.own A 44],λx=>J2 fu x.1 x.2.1,0⟩:=sq fu wy func122<|D (Jl fu)<|D (cK fu)<|D (Fi fu)<|cN
def b7:z7 ⟨79,[.d yr,.d yr],[.own A 44,.d .i],λx=>jL fu x.1 x.2.1,0⟩:=sq fu ⟨[],[],[(6,⟨⟨[(6,.d yr),(7,.own A 44),(8,.own A 44)],[]⟩,⟨[],[(.x 0,⟨[(8,.own A 44)],[]⟩),(.r,⟨[],[(4,.nil),(5,.ci 4)]⟩)]⟩⟩)],[(8,[])],[],[],[]⟩ func79<|D (qI fu)<|D (Ft fu)<|D (cK fu)<|D (RF fu)<|D (tF fu)<|cN
def UC:z7 ⟨38,[.d yr],[.own A 44],λx=>Zc fu x.1,0⟩:=sq fu wy func38<|D (tW fu)<|D (qI fu)<|D (b7 fu)<|cN
def n4:z7 ⟨42,[.d yr,.d yr],[.d .b],λx=>YG fu x.1 x.2.1,0⟩:=sq fu ⟨[],[],[(4,⟨⟨[(5,.d .i)],[]⟩,⟨[],[(.x 0,⟨[],[]⟩),(.r,⟨[],[(4,.kb I)]⟩)]⟩⟩)],[],[],[],[]⟩ func42<|D (ox fu)<|cN
def Nq:z7 ⟨222,[.d A,.d A],[.d A],λx=>JN fu x.1 x.2.1,0⟩:=sq fu wy func222<|D (JC fu)<|D (td fu)<|cN
def O7:z7 ⟨178,[.d A,.d A],[.d .i],λx=>Kd fu x.1 x.2.1,0⟩:=sq fu wy func178<|D (Xg fu)<|D (Nq fu)<|cN
def Mw:z7 ⟨133,[.d yr,.d yr],[.d .b],λx=>Qk fu x.1 x.2.1,0⟩:=sq fu ⟨[],[],[(6,⟨⟨[(7,.d .i)],[]⟩,⟨[5,6],[(.x 0,⟨[],[]⟩),(.r,⟨[(4,.d .b)],[]⟩)]⟩⟩)],[],[],[],[]⟩ func133<|D (O7 fu)<|D (qI fu)<|cN
def NG:z7 ⟨85,[.d (.l (.p yr .i)),.d yr,.d .i],[.own (.p yr .i) 61],λx=>JA fu x.1 x.2.1 x.2.2.1,0⟩:=sq fu ⟨[],[(327686,⟨[],[(.n,⟨[(36,.d .b)],[]⟩)]⟩)],[(2,q1 [(7,.d .i)] 0 [(7,.d .i)])],[(8,[60])],[],[],[]⟩ func85<|D (n4 fu)<|D (Mw fu)<|cN
def Iz:z7 ⟨174,[.d yr,.d A],[.d A],λx=>Qf fu x.1 x.2.1,0⟩:=sq fu ⟨[],[],[(3,⟨⟨[(6,.d .i),(5,.var A 44)],[]⟩,⟨[4],[(.x 0,⟨[(5,.var A 44)],[]⟩)]⟩⟩)],[],[],[],[]⟩ func174<|D (Jl fu)<|D (JC fu)<|D (cc fu)<|cN
def C3:z7 ⟨175,[.d y5],[.own A 44],λx=>uV fu x.1,0⟩:=sq fu ⟨[],[],[(3,q1 [(3,.own A 44),(4,.d .i)] 0 [(3,.own A 44)])],[],[],[],[]⟩ func175<|D (Jl fu)<|D (qI fu)<|cN
def Fj:z7 ⟨221,[.d A],[.d .i,.d .b],λx=>kJ fu x.1,0⟩:=sq fu wy func221<|D (vC fu)<|cN
def sj:z7 ⟨176,[.d A],[.own .i 3],λx=>Zl fu x.1,0⟩:=sq fu ⟨[],[(720908,⟨[5],[(.n,⟨[(3,.d .i),(49,.d .b)],[]⟩)]⟩)],[(6,q1 [(5,.own .i 3),(6,.d .i)] 0 [(5,.own .i 3)])],[],[],[],[]⟩ func176<|D (Fj fu)<|cN
def AB:z7 ⟨177,[.d y5,.d y5],[.own A 44,.d .b],λx=>ZI fu x.1 x.2.1,0⟩:=sq fu ⟨[],[],[(3,⟨⟨[(7,.d .i),(6,.own .i 3)],[]⟩,⟨[],[(.x 0,⟨[(6,.own .i 3)],[]⟩),(.r,⟨[],[(4,.nil),(5,.kb I)]⟩)]⟩⟩),(6,⟨⟨[(0,.d y5),(8,.d .i),(6,.own .i 3)],[]⟩,⟨[],[(.x 2,⟨[(0,.d y5),(6,.own .i 3)],[]⟩),(.r,⟨[],[(4,.nil),(5,.kb I)]⟩)]⟩⟩),(14,⟨⟨[(10,.own A 44),(11,.d .i)],[]⟩,⟨[6],[(.x 4,⟨[(10,.own A 44)],[]⟩)]⟩⟩)],[],[],[],[]⟩ func177<|D (cK fu)<|D (tF fu)<|D (C3 fu)<|cN
def MA:z7 ⟨132,[.d yr,.d .i,.d .i],[.d yr,.d .b],λx=>Qz fu x.1 x.2.1 x.2.2.1,0⟩:=sq fu ⟨[],[(589835,⟨[8,9],[(.n,⟨[(0,.d yr),(1,.d .i),(2,.d .i),(12,.d .i)],[]⟩)]⟩)],[(5,⟨⟨[(8,.own .i 3),(9,.own y5 125),(10,.d .i),(11,.d .i)],[]⟩,⟨[],[(.x 0,⟨[(8,.own .i 3),(9,.own y5 125),(10,.d .i)],[]⟩),(.r,⟨[(6,.own A 44),(7,.d .b)],[]⟩)]⟩⟩),(20,⟨⟨[(8,.d y5),(15,.d .i),(9,.own y5 125)],[]⟩,⟨[],[(.x 2,⟨[],[]⟩),(.r,⟨[(6,.d yr)],[(7,.kb wF)]⟩)]⟩⟩),(24,⟨⟨[(0,.d yr),(10,.d .i),(16,.own .i 3),(17,.d .i),(18,.d .i)],[]⟩,⟨[9],[(.x 4,⟨[(0,.d yr),(10,.d .i),(16,.own .i 3)],[]⟩)]⟩⟩)],[],[],[],[]⟩ func132<|D (UC fu)<|D (Iz fu)<|D (C3 fu)<|D (Jl fu)<|D (sj fu)<|D (AB fu)<|D (b7 fu)<|D (Xg fu)<|cN
def BH:WZ:=⟨84,[.d yr,.d .i],[.own yr 22,.d .b],λx=>jB fu x.1 x.2.1,0⟩
def cV:∀fu:K,z7 (BH fu)
 |0=>sg0 g8 λ_=>O
 |fu+1=>sq fu ⟨[],[],[(2,⟨⟨[(6,.d .i)],[]⟩,⟨[],[(.x 0,⟨[],[]⟩),(.r,⟨[(4,.own yr 22),(5,.d .b)],[]⟩)]⟩⟩)],[],[],[],[]⟩ func84<|D (MA fu)<|D (cV fu)<|D (b7 fu)<|cN
def tQ:z7 ⟨41,[.d yr,.d .i],[.own (.p yr .i) 61,.d .b],λx=>ZX fu x.1 x.2.1,0⟩:=sq fu ⟨[],[],[(7,⟨⟨[(9,.own (.p yr .i) 61),(10,.d .i)],[]⟩,⟨[7],[(.x 0,⟨[(9,.own (.p yr .i) 61)],[]⟩)]⟩⟩)],[],[],[],[]⟩ func41<|D (cV fu)<|D (NG fu)<|D (UC fu)<|cN
end
end
section
set_option maxRecDepth 100000
section
open Go.Proofs.Tryz
variable(fu:wr)
def iX:z7 ⟨8,[.d yr],[.d .b],λx=>jX fu x.1,0⟩:=sq fu ⟨[],[(720909,⟨[5],[(.n,⟨[],[]⟩),(.r,⟨[(2,.d .b)],[]⟩)]⟩),(1376278,⟨[8],[(.n,⟨[(10,.d .b)],[]⟩)]⟩)],[(5,⟨⟨[(4,.d .i)],[]⟩,⟨[],[(.x 0,⟨[],[]⟩),(.r,⟨[(2,.d .b)],[]⟩)]⟩⟩)],[],[],[],[]⟩ func8<|D (Er fu)<|D (UC fu)<|D (PA fu)<|D (tG fu)<|D (tQ fu)<|D (n4 fu)<|D (oJ fu)<|cN
end
end
section
variable{x k:wr}{r a b l:xS wr}
def nv:N K->K
 |[]=>0
 |x::r=>x+18446744073709551616*nv r
def wO:K->K->N K
 |0,_=>[]
 |k+1,n=>n%18446744073709551616::wO k (n/18446744073709551616)
def lJ:K->K->N K
 |0,_=>[]
 |f+1,n=>if n=0 then[]else n%18446744073709551616::lJ f (n/18446744073709551616)
def yB(n:K):N K:=lJ n n
def Fz:N K->N K
 |[]=>[]
 |x::r=>match Fz r with
  |[]=>if x=0 then[]else[x]
  |y::s=>x::y::s
def zm.nil:zm []:=λx c=>wR c IR
def zm.cons(h:x<18446744073709551616)(c:zm r):zm (x::r):=λy hy=>by
 obtain rfl|hy:=xaa.1 hy
 ·exact h
 ·exact c y hy
def zm.head(h:zm (x::r)):x<18446744073709551616:=h x<|FS
def zm.tail(h:zm (x::r)):zm r:=λy c=>h y<|UV _ c
def zm.append(c:zm a)(d:zm b):zm (a++b):=λx e=>by
 obtain h|h:=So.1 e
 ·exact c x h
 ·exact d x h
theorem zm.take{a:N K}(h:zm a)(k:K):zm (a.take k):=λx c=>h x<|xel c
theorem zm.drop{a:N K}(h:zm a)(k:K):zm (a.drop k):=λx c=>h x<|xeO c
theorem zm.getD{a:N K}(h:zm a)(k:K):a.getD k 0<18446744073709551616:=by
 rw[H1];by_cases c:k<X a
 ·rw[xah c];exact h _<|xbE c
 ·rw[xbD W];exact Nat.zero_lt_succ _
def zm.replicate(k:K):zm (xac k 0):=λx c=>by rw[List.eq_of_mem_replicate c];exact Nat.zero_lt_succ _
def Dr:nv []=0:=O
def jV(x:K)(r:N K):nv (x::r)=x+18446744073709551616*nv r:=O
def kE:∀(a b:N K),nv (a++b)=nv a+18446744073709551616^X a*nv b
 |[],b=>by simp[nv]
 |x::a,b=>by
  rw[xbF,jV,kE a b,jV,xau,xbf,xbk];rw[xaO (18446744073709551616^X a) 18446744073709551616,xaP,xcU]
def Qi:∀k,nv (xac k 0)=0
 |0=>rfl
 |k+1=>by rw[xds,jV,Qi k]
theorem vH:∀{l:N K},zm l->nv l<18446744073709551616^X l
 |[],_=>by simp[nv]
 |x::r,h=>by
  have h1:=h.head;have c:=vH h.tail;rw[jV,xau,xbf];lia
theorem oC(l:N K)(x:K):nv (l++[x])=nv l+18446744073709551616^X l*x:=by
 rw[kE,jV,Dr];simp
def zX:∀k n,X (wO k n)=k
 |0,_=>rfl
 |k+1,n=>by rw[wO,xau,zX]
def wj:∀k n,zm (wO k n)
 |0,_=>zm.nil
 |k+1,n=>zm.cons (xaS _ gS)<|wj k _
def kq:∀k n,nv (wO k n)=n%18446744073709551616^k
 |0,n=>by simp[wO,nv,Nat.mod_one]
 |k+1,n=>by rw[wO,jV,kq k,xbf,xaO<|18446744073709551616^k,Nat.mod_mul]
def eY:∀{l:N K},zm l->wO (X l) (nv l)=l
 |[],_=>rfl
 |x::r,h=>by
  have h1:=h.head;rw[xau,wO,jV,xbV,xam h1,xcm _ _ gS,xbg h1,xaJ,eY h.tail]
def sE(c:zm a)(d:zm b)(hl:X a=X b)(h:nv a=nv b):a=b:=by
 rw[<-eY c,<-eY d,hl,h]
def Ha:∀k,wO k 0=xac k 0
 |0=>rfl
 |k+1=>by rw[wO,xfW,Nat.zero_div,Ha k,xds]
def Uq:∀k n,wO (k+1) n=wO k n++[n/18446744073709551616^k%18446744073709551616]
 |0,n=>by simp[wO]
 |k+1,n=>by rw[wO,Uq k,wO,xbF,xaE,<-xdO]
def CC:∀f n,zm (lJ f n)
 |0,_=>zm.nil
 |f+1,n=>by
  rw[lJ];split
  ·exact zm.nil
  ·exact zm.cons (xaS _ gS)<|CC f _
theorem zu(n:K):zm (yB n):=CC n n
def zbN:∀f n,n<=f->nv (lJ f n)=n
 |0,n,h=>by rw[lJ,Dr];lia
 |f+1,n,h=>by
  rw[lJ];split
  ·rename_i h0;rw[Dr,h0]
  ·rename_i h0;have c:n/18446744073709551616<=f:=by
    have:=Nat.div_lt_self (n:=n) (k:=18446744073709551616) W gS;lia
   rw[jV,zbN f _ c,xen]
theorem yg(n:K):nv (yB n)=n:=zbN n n<|Nm _
def zbE:∀f f' n,n<=f->n<=f'->lJ f n=lJ f' n
 |0,f',n,h,c=>by
  have:n=0:=W
  subst this;cases f'<;>simp[lJ]
 |f+1,0,n,h,c=>by
  have:n=0:=W
  subst this;simp[lJ]
 |f+1,f'+1,n,h,c=>by
  rw[lJ,lJ];split
  ·rfl
  ·rename_i h0;have:=Nat.div_lt_self (n:=n) (k:=18446744073709551616) W gS;rw[zbE f f' _ W W]
theorem bu:yB 0=[]:=O
theorem mm{n:K}(h:0<n):yB n=n%18446744073709551616::yB (n/18446744073709551616):=by
 have e:yB n=lJ ((n-1)+1) n:=by unfold yB;congr 1;lia
 have:=Nat.div_lt_self (n:=n) (k:=18446744073709551616) h gS;rw[e,lJ,zB];congr 1;exact zbE _ _ _ W W
theorem FM{n:K}(h0:0<n)(h:n<18446744073709551616):yB n=[n]:=by grind [mm,bu,xam,xbg]
theorem Mb{n:K}:yB n=[]↔n=0:=by
 constructor
 ·intro h;rw[<-yg n,h];rfl
 ·rintro rfl;rfl
theorem vD{n:K}(h:0<n):0<X (yB n):=by rw[mm h,xau];lia
def zL:∀(k n:K),X (yB n)<=k↔n<18446744073709551616^k
 |0,n=>by rw[Nat.le_zero,xbs,Mb];simp;
 |k+1,n=>by
  by_cases h:n=0
  ·subst h;simp[bu];exact xaU gS
  ·rw[mm W,xau,Nat.add_le_add_iff_right,zL k,xaX gS,xbf]
def zeQ{n:K}(h:0<n):(yB n).getD (X (yB n)-1) 0≠0:=by
 intro h0;have hp:=vD h;have e:=eY<|zu n;rw[yg]at e;have⟨k,c⟩:∃k,X (yB n)=k+1:=⟨X (yB n)-1,W⟩;have h1:=(zL k n).2;rw[c,Uq]at e;rw[<-e]at h0;rw[(gT:X (wO k n++[n/18446744073709551616^k%18446744073709551616])-1=X (wO k n))]at h0;simp at h0;have d:n<18446744073709551616^(k+1):=(zL (k+1) n).1 W;have f:n/18446744073709551616^k<18446744073709551616:=by rw[xaX<|xaU gS];rwa[xbf,xaO]at d
 rw[xam f]at h0;have g:n<18446744073709551616^k:=by
  obtain h|h:=Nat.div_eq_zero_iff.1 h0
  ·have:=xaU (n:=k) (gS:0<18446744073709551616);lia
  ·exact h
 have:=h1 g;lia
def gV:∀(l:N K) (k:K),k+1=X l->l.getD k 0≠0->Fz l=l
 |[],_,h,_=>by simp at h
 |[x],0,_,h=>by simp at h;simp[Fz,h]
 |[x],k+1,h,_=>by simp at h
 |x::y::r,0,h,_=>by simp at h
 |x::y::r,k+1,h,h0=>by
  have:=gV (y::r) k (by simpa using h) (by simpa using h0);simp only[Fz]at this⊢;rw[this]
def NI:∀{l:N K},zm l->Fz l=yB (nv l)
 |[],_=>rfl
 |x::r,h=>by
  have e:=NI h.tail;have c:=h.head;rw[Fz,e,jV];by_cases f:nv r=0
  ·rw[f,bu];by_cases h0:x=0
   ·simp[h0,bu]
   ·simp only[h0,ut,xcK,xbK];rw[FM W c]
  ·have e1:=mm (n:=nv r) W;have d:=mm (n:=x+18446744073709551616*nv r) W;rw[xbV,xam c,xcm _ _ gS,xbg c,xaJ]at d;rw[d,e1]
theorem Om(hl:zm l)(h:l=[]\/l.getD (X l-1) 0≠0):yB (nv l)=l:=by
 rw[<-NI hl];obtain rfl|h:=h
 ·rfl
 ·cases hn:X l with
  |zero=>rw[xbm hn];rfl
  |succ k=>exact gV l k hn.symm<|by rw[hn]at h;exact h
def AQ(hl:zm l)(k:K):nv (l.take k)=nv l%18446744073709551616^k:=by
 by_cases c:k<=X l
 ·have e:=kE (l.take k)<|l.drop k;rw[xbv,xax,xce c]at e;have:=vH<|hl.take k;rw[xax,xce c]at this;rw[e,xbV,xam this]
 ·rw[xaQ W,xam];exact xao (vH hl)<|xav gS W
def Lg(hl:zm l)(k:K):nv (l.drop k)=nv l/18446744073709551616^k:=by
 by_cases c:k<=X l
 ·have e:=kE (l.take k)<|l.drop k;rw[xbv,xax,xce c]at e;have:=vH<|hl.take k;rw[xax,xce c]at this;rw[e,xcm _ _ (xaU gS),xbg this,xaJ]
 ·rw[xcd W,Dr,xbg];exact xao (vH hl)<|xav gS W
def Kg:∀{l:N K},zm l->∀k,l.getD k 0=nv l/18446744073709551616^k%18446744073709551616
 |[],_,k=>by simp[nv]
 |x::r,h,0=>by rw[List.getD_cons_zero,jV,xeH,xdK,xbV,xam h.head]
 |x::r,h,k+1=>by rw[xdu,Kg h.tail k,jV,xdO,<-xaE,xcm _ _ gS,xbg h.head,xaJ]
def zjf{α:Type}{l:N α}{n:K}{z x:α}(hl:X l=k)(d:k<n):(l++xac (n-k) z).set k x=(l++[x])++xac (n-(k+1)) z:=by
 have⟨m,c⟩:∃m,n-k=m+1:=⟨n-k-1,W⟩;rw[c,xds,xdD _ _ W,hl,xcQ,List.set_cons_zero,xaf];congr 2;rw[(W:n-(k+1)=m)];rfl
def wU(step:K->K->K×K):K->N K×K
 |0=>([],0)
 |k+1=>((wU step k).1++[(step k (wU step k).2).1],(step k (wU step k).2).2)
theorem wq(step:K->K->K×K):∀k,(wU step k).1.length=k
 |0=>rfl
 |k+1=>by rw[wU,xap,wq step k];rfl
def Aa(a b:N K)(k c:K):K×K:=((a.getD k 0+b.getD k 0+c)%18446744073709551616,(a.getD k 0+b.getD k 0+c)/18446744073709551616)
theorem Sd{c:K}(d:zm a)(e:zm b)(hc:c<=1):(Aa a b k c).2<=1:=by grind [Aa,zm.getD]
theorem qu(l:N K):∀k,nv (l.take<|k+1)=nv (l.take k)+18446744073709551616^k*l.getD k 0:=by
 induction l with
 |nil=>intro k;simp[nv]
 |cons x r c=>
  intro k
  cases k with
  |zero=>simp[nv]
  |succ k=>
   rw[xes,jV,c k,xes,jV,xdu,xbf,xbk];rw[xaO (18446744073709551616^k) 18446744073709551616,xaP,xcU]
theorem Bx(a b:N K):∀k,nv (wU (Aa a b) k).1+18446744073709551616^k*(wU (Aa a b) k).2=nv (a.take k)+nv (b.take k)/\zm (wU (Aa a b) k).1
 |0=>⟨by simp[wU,nv],zm.nil⟩
 |k+1=>by
  have⟨f,d⟩:=Bx a b k;rw[wU,qu,qu,oC,wq];refine⟨?_,d.append<|zm.cons (xaS _ gS) zm.nil⟩;generalize hc:(wU (Aa a b) k).2=c at*
  simp only[Aa];have e:=xen (a.getD k 0+b.getD k 0+c) 18446744073709551616;generalize(a.getD k 0+b.getD k 0+c)%18446744073709551616=r at*
  generalize(a.getD k 0+b.getD k 0+c)/18446744073709551616=q at*
  rw[xbf];generalize 18446744073709551616^k=p at*
  have g:p*r+p*18446744073709551616*q=p*(a.getD k 0)+p*(b.getD k 0)+p*c:=by rw[xaP,<-xbk,e,xbk,xbk]
  lia
theorem zfQ{n:K}(c:X a<=n)(d:X b<=n):nv ((wU (Aa a b) n).1++[(wU (Aa a b) n).2])=nv a+nv b:=by grind [oC,wq,Bx,xaQ]
end
section
variable{x y k m j i:wr}{l a b o o0 r:xS wr}
def BL(h:X (yB x)<X (yB y)):x<y:=by
 have h1:=(zL (X (yB x)) x).1<|Nm _;have d:¬y<18446744073709551616^X (yB x):=λc=>by have:=(zL _ y).2 c;lia
 lia
theorem Ja(x B k:K)(c:0<B):x/B^k=B*(x/B^(k+1))+x/B^k%B:=by grind [xbt,xaE,xbf]
def zfw(h:x/18446744073709551616^(k+1)=y/18446744073709551616^(k+1))(hd:x/18446744073709551616^k%18446744073709551616<y/18446744073709551616^k%18446744073709551616):x<y:=by
 have h1:=Ja x 18446744073709551616 k gS;have e:=Ja y 18446744073709551616 k gS;refine xdf λd=> ?_;have f:=Nat.div_le_div_right (c:=18446744073709551616^k) d;lia
theorem zla(h:x/18446744073709551616^(k+1)=y/18446744073709551616^(k+1))(hd:x/18446744073709551616^k%18446744073709551616=y/18446744073709551616^k%18446744073709551616):
 x/18446744073709551616^k=y/18446744073709551616^k:=by grind [Ja]
theorem ZA(n k:K):(yB n).getD k 0=n/18446744073709551616^k%18446744073709551616:=by rw[Kg<|zu n,yg]
def zev(h:X (yB x)=X (yB y)):x/18446744073709551616^X (yB x)=y/18446744073709551616^X (yB x):=by
 rw[xbg<|(zL _ x).1<|Nm _,xbg<|(zL _ y).1 W]
theorem xd(h:zm l):X (yB<|nv l)<=X l:=(zL _ _).2<|vH h
theorem zd0(c:0<m)(h:x/18446744073709551616^m=y/18446744073709551616^m)(hd:(yB x).getD (m-1) 0=(yB y).getD (m-1) 0):x/18446744073709551616^(m-1)=y/18446744073709551616^(m-1):=by grind [zla,ZA]
def zh5(h:X (yB x)≠X (yB y)):jt (X (yB x):K) (X (yB y):K)=jt x y:=by
 obtain h|h:=Nat.lt_or_gt_of_ne h
 ·have:=BL h;rw[qe W,qe W]
 ·have:=BL h;rw[vo W,vo W]
def zdg(d:0<m)(h:x/18446744073709551616^m=y/18446744073709551616^m)(hd:(yB x).getD (m-1) 0≠(yB y).getD (m-1) 0):
 jt ((yB x).getD (m-1) 0:K) ((yB y).getD (m-1) 0:K)=jt x y:=by
 rw[(W:m=m-1+1)]at h;obtain hd|hd:=Nat.lt_or_gt_of_ne hd
 ·have c:=hd;rw[ZA,ZA]at c;have:=zfw h c;rw[qe W,qe W]
 ·have c:=hd;rw[ZA,ZA]at c;have:=zfw h.symm c;rw[vo W,vo W]
def Ub(a b:N K)(k c:K):K×K:=((a.getD k 0+18446744073709551616-b.getD k 0-c)%18446744073709551616,if a.getD k 0<b.getD k 0+c then 1 else 0)
def CV(a b:N K)(k c:K):(Ub a b k c).2<=1:=by
 simp only[Ub];split<;>lia
def NQ{a b:N K}(d:zm a)(f:zm b):∀k,nv (wU (Ub a b) k).1+nv (b.take k)=nv (a.take k)+18446744073709551616^k*(wU (Ub a b) k).2/\zm (wU (Ub a b) k).1/\(wU (Ub a b) k).2<=1
 |0=>⟨by simp[wU,nv],zm.nil,xai _⟩
 |k+1=>by
  have⟨h,g,n⟩:=NQ d f k;rw[wU,qu,qu,oC,wq];refine⟨?_,g.append<|zm.cons (xaS _ gS) zm.nil,CV a b k _⟩;generalize hc:(wU (Ub a b) k).2=c at*
  simp only[Ub];have h1:=d.getD k;have s:=f.getD k;generalize a.getD k 0=x at*
  generalize b.getD k 0=y at*
  rw[xbf];generalize 18446744073709551616^k=p at*
  have e:(x+18446744073709551616-y-c)%18446744073709551616+y+c=x+18446744073709551616*(if x<y+c then 1 else 0):=by split<;>lia
  generalize(x+18446744073709551616-y-c)%18446744073709551616=r at*
  generalize(if x<y+c then 1 else 0:K)=q at*
  have t:p*r+p*y+p*c=p*x+p*18446744073709551616*q:=by rw[xaP,<-xbk,<-xbk,e,xbk]
  lia
def BM{n:K}(c:zm a)(d:zm b)(hc:X a<=n)(hd:X b<=n):
 nv (wU (Ub a b) n).1+nv b=nv a+18446744073709551616^n*(wU (Ub a b) n).2/\zm (wU (Ub a b) n).1/\(wU (Ub a b) n).2<=1:=by
 have:=NQ c d n;rwa[xaQ hc,xaQ hd]at this
def Hq{n:K}(c:zm a)(d:zm b)(hc:X a<=n)(hd:X b<=n):0<(wU (Ub a b) n).2↔nv a<nv b:=by
 have⟨h1,e,g⟩:=BM c d hc hd;have f:=vH e;rw[wq]at f;constructor
 ·intro h;have:(wU (Ub a b) n).2=1:=W
  rw[this,xdU]at h1;lia
 ·intro h;refine xco λh0=> ?_;rw[h0,xcK]at h1;lia
def zc3{n:K}(c:zm a)(d:zm b)(hc:X a<=n)(hd:X b<=n)(h:¬nv a<nv b):nv (wU (Ub a b) n).1=nv a-nv b:=by
 have⟨h1,e,f⟩:=BM c d hc hd;have:¬0<(wU (Ub a b) n).2:=λhp=>h<|(Hq c d hc hd).1 hp;have:(wU (Ub a b) n).2=0:=W
 rw[this,xcK]at h1;lia
def UG(a:N K)(x:K)(k c:K):K×K:=((a.getD k 0*x+c)%18446744073709551616,(a.getD k 0*x+c)/18446744073709551616)
def pF{a c:K}(d:a<18446744073709551616)(e:x<18446744073709551616)(hc:c<18446744073709551616):(a*x+c)/18446744073709551616<18446744073709551616:=by
 have:a*x<=18446744073709551615*18446744073709551615:=xbo W W;lia
def SJ{c:K}(d:zm a)(e:x<18446744073709551616)(hc:c<18446744073709551616):(UG a x k c).2<18446744073709551616:=pF (d.getD k) e hc
def Rm(a:N K)(x:K):∀k,nv (wU (UG a x) k).1+18446744073709551616^k*(wU (UG a x) k).2=nv (a.take k)*x/\zm (wU (UG a x) k).1
 |0=>⟨by simp[wU,nv],zm.nil⟩
 |k+1=>by
  have⟨f,d⟩:=Rm a x k;rw[wU,qu,oC,wq];refine⟨?_,d.append<|zm.cons (xaS _ gS) zm.nil⟩;generalize hc:(wU (UG a x) k).2=c at*
  simp only[UG];have e:=xen (a.getD k 0*x+c) 18446744073709551616;generalize(a.getD k 0*x+c)%18446744073709551616=r at*
  generalize(a.getD k 0*x+c)/18446744073709551616=q at*
  rw[xbf];generalize 18446744073709551616^k=p at*
  have g:p*r+p*18446744073709551616*q=p*(a.getD k 0*x)+p*c:=by rw[xaP,<-xbk,e,xbk]
  rw[xbb,xaP p (a.getD k 0) x];lia
def Rj(hc:(wU (UG a x) (X a)).2<18446744073709551616):(wU (UG a x) (X a)).1++[(wU (UG a x) (X a)).2]=wO (X a+1) (nv a*x):=by
 have⟨h1,c⟩:=Rm a x (X a);have hl:zm ((wU (UG a x) (X a)).1++[(wU (UG a x) (X a)).2]):=c.append<|zm.cons hc zm.nil;have hn:nv ((wU (UG a x) (X a)).1++[(wU (UG a x) (X a)).2])=nv a*x:=by rw[oC,wq,h1,xaQ<|Nm _]
 have:=eY hl;rw[hn,xap,wq]at this;exact this.symm
def C9(c:zm a)(d:x<18446744073709551616):nv a*x<18446744073709551616^(X a+1):=by
 have:=vH c;rw[xbf]
 calc nv a*x<=nv a*18446744073709551616:=xaD _ W
  _<_:=xbX this gS
theorem zed:∀(o:N K) (j v:K),j<X o->nv (o.set j v)+18446744073709551616^j*o.getD j 0=nv o+18446744073709551616^j*v
 |[],j,v,h=>by simp at h
 |x::r,0,v,h=>by simp[nv];lia
 |x::r,j+1,v,h=>by
  have c:=zed r j v (by simpa using h);rw[xfg,jV,jV,xdu,xbf,xaO<|18446744073709551616^j,xaP,xaP];lia
def zm.set{o:N K}(h:zm o)(j:K){v:K}(hv:v<18446744073709551616):zm (o.set j v):=λx c=>by
 obtain h1|h1:=xej c
 ·exact h x h1
 ·rw[h1];exact hv
theorem zfc{c:K}(d:j+i<X o)(h:nv o+18446744073709551616^(j+i)*c=nv o0+18446744073709551616^j*nv (r.take i)):
 nv (o.set (j+i)<|(o.getD (j+i) 0+r.getD i 0+c)%18446744073709551616)+18446744073709551616^(j+(i+1))*((o.getD (j+i) 0+r.getD i 0+c)/18446744073709551616)=nv o0+18446744073709551616^j*nv (r.take<|i+1):=by grind [zed,qu,xbk,xaP,xbz,xen,xbf]
def Qm(c:zm a)(d:zm b):nv a*nv (b.take k)<18446744073709551616^(X a+k):=by
 have h1:=vH c;have e:=vH<|d.take k;have f:18446744073709551616^X (b.take k)<=18446744073709551616^k:=xav gS (by rw[xax];lia);rw[xbz];exact xdL h1 W
def zij{c:K}(h:nv o+18446744073709551616^(j+X r)*c=nv o0+18446744073709551616^j*nv r)(hn:nv o0+18446744073709551616^j*nv r<18446744073709551616^(j+X r)):
 c=0/\nv o=nv o0+18446744073709551616^j*nv r:=by
 have hc:c=0:=by
  refine xfq λhp=> ?_;have:18446744073709551616^(j+X r)*1<=18446744073709551616^(j+X r)*c:=xaD _ hp;lia
 subst hc;exact⟨O,by rw[xcK,xbK]at h;exact h⟩
def Oc{p:N K}{c:K}(d:zm a)(f:zm b)(hi:¬i<X a+1)(hd:i<=X a+1)(g:nv o=nv a*nv (b.take k))(hp:nv p+18446744073709551616^(k+i)*c=nv o+18446744073709551616^k*nv ((wO (X a+1)<|nv a*b.getD k 0).take i)):nv p=nv a*nv (b.take<|k+1):=by
 obtain rfl:i=X a+1:=W
 have hl:=zX (X a+1)<|nv a*b.getD k 0;rw[xaQ W]at hp;have h:nv (wO (X a+1)<|nv a*b.getD k 0)=nv a*b.getD k 0:=by rw[kq,xam<|C9 d<|f.getD k]
 have e:nv o+18446744073709551616^k*nv (wO (X a+1)<|nv a*b.getD k 0)=nv a*nv (b.take<|k+1):=by rw[h,g,qu,xbk,xdv]
 have hc:nv o+18446744073709551616^k*nv (wO (X a+1)<|nv a*b.getD k 0)<18446744073709551616^(k+X (wO (X a+1)<|nv a*b.getD k 0)):=by
  rw[e,hl,(W:k+(X a+1)=X a+(k+1))];exact Qm d f
 generalize wO (X a+1) (nv a*b.getD k 0)=r at*
 rw[<-hl]at hp;rw[(zij hp hc).2,e]
def m32{a b:K}(c:a<4294967296)(d:b<4294967296):a*b<=18446744065119617025:=xbo (W:a<=4294967295) (W:b<=4294967295)
def ziL(c:x<18446744073709551616)(d:y<18446744073709551616):(x%4294967296)*(y%4294967296)<=18446744065119617025/\(x/2^32)*(y%4294967296)<=18446744065119617025/\
 (x%4294967296)*(y/2^32)<=18446744065119617025/\(x/2^32)*(y/2^32)<=18446744065119617025:=
 ⟨m32 W W,m32 W W,m32 W W,m32 W W⟩
def zdJ(x y:K):x*y=18446744073709551616*((x/2^32)*(y/2^32))+4294967296*((x/2^32)*(y%4294967296))+4294967296*((x%4294967296)*(y/2^32))+(x%4294967296)*(y%4294967296):=by
 have h1:x=4294967296*(x/2^32)+x%4294967296:=W
 have d:y=4294967296*(y/2^32)+y%4294967296:=W
 generalize x/2^32=e at*
 generalize y/2^32=c at*
 generalize x%4294967296=x0 at*
 generalize y%4294967296=f at*
 subst h1 d;rw[xbb,xbk,xbk,xaP,xaP,xdv e 4294967296 c,xdv x0 4294967296 c];lia
def uz(c:X (yB x)<=k)(d:X (yB y)<=k):X (yB<|x+y)<=k+1:=by
 rw[zL]at*
 rw[xbf];lia
def zpK{x0 c f d P:K}:x0*f+P*((x0+c)*(f+d)-x0*f-c*d)+P*P*(c*d)=(x0+P*c)*(f+P*d):=by
 have e:(x0+c)*(f+d)-x0*f-c*d=x0*d+c*f:=by rw[xbb,xbk,xbk];lia
 rw[e,xbb,xbk,xbk,xbk];have e1:x0*(P*d)=P*(x0*d):=xdv ..;have g:P*c*f=P*(c*f):=xaP ..;have h:P*c*(P*d)=P*P*(c*d):=by rw[xaP,xdv c,<-xaP]
 rw[e1,g,h];lia
theorem zie(x0 d c e:K):x0*c<=(x0+d)*(c+e)/\d*e<=(x0+d)*(c+e)-x0*c:=by grind [xbb,xbk]
def Oj(h:K):l.take (min h (X l))=l.take h:=by
 rw[Nat.min_def];split
 ·rfl
 ·rw[xaQ<|Nm _,xaQ W]
def Px(h:K):l.drop (min h (X l))=l.drop h:=by
 rw[Nat.min_def];split
 ·rfl
 ·rw[xcd<|Nm _,xcd W]
def Dx(n:K)(l:N K):nv (xac n 0++l)=18446744073709551616^n*nv l:=by simp_all [kE,Qi]
def Ho(h:K):nv (l.take h)+18446744073709551616^h*nv (l.drop h)=nv l:=by
 by_cases c:h<=X l
 ·have e:=kE (l.take h)<|l.drop h;rw[xbv,xax,xce c]at e;exact e.symm
 ·rw[xcd W,xaQ W,Dr,xcK,xbK]
theorem ziQ{A B:N K}(h:K):nv (A.take h)*nv (B.take h)+18446744073709551616^h*((nv (A.take h)+nv (A.drop h))*(nv (B.take h)+nv (B.drop h))-nv (A.take h)*nv (B.take h)-nv (A.drop h)*nv (B.drop h))+
 18446744073709551616^(2*h)*(nv (A.drop h)*nv (B.drop h))=nv A*nv B:=by
 have:= @zpK (nv<|A.take h) (nv<|A.drop h) (nv<|B.take h) (nv<|B.drop h)<|18446744073709551616^h;rw[Ho,Ho]at this;rw[Nat.two_mul,xbz];exact this
def Yl(c:X (yB x)<=j)(d:X (yB y)<=k):X (yB<|x*y)<=j+k:=by
 rw[zL]at*
 rw[xbz];exact xdL c d
def O9(q:K)(c:X (yB x)<=k):X (yB<|18446744073709551616^q*x)<=q+k:=by
 rw[zL]at*
 rw[xbz];exact Nat.mul_lt_mul_of_pos_left c<|xaU gS
def Q6(h:x<=y):X (yB x)<=X (yB y):=by
 have:=(zL (X (yB y)) y).1<|Nm _;exact(zL _ x).2 W
theorem zfm(a b h:K){x0 c d e:K}(f:x0=nv ((yB a).take h))(hc:c=nv ((yB a).drop h))(hd:d=nv ((yB b).take h))(g:e=nv ((yB b).drop h)):
 x0*d+18446744073709551616^h*((x0+c)*(d+e)-x0*d-c*e)+18446744073709551616^(2*h)*(c*e)=a*b:=by grind [ziQ,yg]
end
section
variable{a b:xS wr}{k fu x:wr}
def zA{α β:Type}{f:(β->V α)->β->V α}(i:β->Prop)(m:β->K)(r:α)
 (step:∀s L,i s->(∀c,i c->m c<m s->L c=Z r)->f L s=Z r):∀(n:K) (s:β),i s->m s<n->zg f n s=Z r
 |0,s,_,h=>wR h<|xbn _
 |n+1,s,d,h=>step s _ d λc e g=>zA i m r step n c e gC
def zgy(h:zm a):a.take (X (yB<|nv a))=yB (nv a):=by
 refine sE (h.take _) (zu _) (by rw[xax];have:=xd h;omega) ?_;rw[AQ h,yg];exact xam<|(zL _ _).1<|Nm _
def ny(c:k+1<=X a)(h0:a.getD k 0=0):nv (a.take k)=nv (a.take<|k+1):=by
 rw[qu,h0];simp
theorem nP(h:zm a)(c:k+1<=X a)(h0:a.getD k 0≠0):yB (nv<|a.take<|k+1)=a.take (k+1):=by grind [Om,zm.take]
theorem xm(h:zm a)(hl:X a<=17592186044416)(d:X a<fu):xq fu a=Z (yB<|nv a):=by
 unfold xq;rw[U (v:=yB<|nv a)];refine zA (λl=>zm l/\nv l=nv a/\X l<=17592186044416) (λl=>X l) _ ?_ _ _ ⟨h,O,hl⟩ d;rintro l L ⟨c,hn,g⟩ e;unfold JL;by_cases h0:0<(X l:J)
 ·have⟨k,f⟩:∃k,X l=k+1:=⟨X l-1,gC⟩;have e1:(X l:J)-1=(k:J):=gC
  rw[iq h0,e1,zb,zY,zf];by_cases h1:l.getD k 0=0
  ·rw[iq (by rw[h1]),zb,yR,yV,zf];refine e _ ⟨c.take _,?_,by rw[xax];omega⟩ (by rw[xax];omega);rw[ny gC h1,<-f,xcw,hn]
  ·rw[zB,<-hn];have:=nP c (k:=k) gC h1;grind
 ·rw[ir h0,<-hn];have:l=[]:=xbs.1 gC;rw[this];rfl
theorem xW(h:zm a)(hl:X a<=17592186044416)(c:X a<fu):wx fu a=Z (yB<|nv a):=by
 have:=xm h hl c;assumption
theorem Wj(h:zm a)(hl:X a<=17592186044416:=by omega)(c:X a<fu:=by omega):Yc fu a=Z (yB<|nv a):=by grind [Yc,wc,U,xW,xB,xd]
theorem a6(h:zm a)(hl:X a<=17592186044416)(g:X a<fu):Xb fu a=Z (yB<|nv a):=by
 unfold Xb;have e:=xd h;rw[U (v:=(X (yB<|nv a):J)),yR,xB e,zf,zgy h,xB (by simp;omega),zf];rfl;refine zA (λi:J=>0<=i/\i<=X a/\nv (a.take i.toNat)=nv a) (λi=>i.toNat) _ ?_ _ _ ⟨gC,gC,gT⟩ gC;rintro i L ⟨h0,h1,hn⟩ f;obtain⟨k,rfl⟩:=xaA h0;unfold dp;simp only[xbc]at*
 by_cases d:0<(k:J)
 ·obtain⟨j,rfl⟩:∃j,k=j+1:=⟨k-1,gC⟩;have e1:((j+1:K):J)-1=(j:J):=gC
  rw[iq d,e1,zb,zY,zf];by_cases c:a.getD j 0=0
  ·rw[iq (by rw[c]),zb];refine f _ ⟨gC,gC,?_⟩ gC;rw[xbc,ny gC c,hn]
  ·rw[zB,<-hn,nP h gC c,xax];grind
 ·rw[ir d,<-hn];have:k=0:=gC
  subst this;rfl
def C6(x:K):x &&& 4294967295=x%4294967296:=Nat.and_two_pow_sub_one_eq_mod x 32
def DV:min (((32:K):J)).toNat 64=32:=gS
def WU{y:K}(c:x<18446744073709551616)(d:y<18446744073709551616):qC fu x y=Z (x*y/18446744073709551616,x*y%18446744073709551616):=by
 unfold qC;simp only[nm,C6,DV];have⟨b1,b2,b3,f⟩:=ziL c d;have e:=zdJ x y;generalize g:(x%4294967296)*(y%4294967296)=A at*
 generalize h:(x/2^32)*(y%4294967296)=B at*
 generalize i:(x%4294967296)*(y/2^32)=C at*
 generalize j:(x/2^32)*(y/2^32)=D at*
 have l:x*y<18446744073709551616*18446744073709551616:=xdL c d;generalize x*y=z at*
 congr 2;omega
def jC{n:K}{f:J->K->V (K×K)}{step:K->K->K×K}(hn:n<=17179869184)(c:n<fu)(h:∀k,k<n->f (k:J) (wU step k).2=Z (step k (wU step k).2)):vG fu n f=Z (wU step n):=by
 unfold vG;rw[yR,yV,zf,U (v:=((wU step n).2,(wU step n).1))];refine zA (λs:K×J×N K=>∃k:K,k<=n/\s=((wU step k).2,(k:J),(wU step k).1++xac (n-k) 0)) (λs=>n-s.2.1.toNat) _ ?_ _ _ ⟨0,gC,O⟩ (by simpa using c);rintro s L ⟨k,e,rfl⟩ d;unfold aO;simp only[xaZ];by_cases h1:(k:J)<(n:J)
 ·have hl:(wU step k).1.length=k:=wq step k;rw[iq h1,U (h k gC),zo (by simp[hl];omega),zf,zb];refine d _ ⟨k+1,gC,?_⟩ (by show n-((k:J)+1).toNat<n-((k:J)).toNat;omega);rw[zjf hl gC];rfl
 ·rw[ir h1];obtain rfl:k=n:=gC
  simp
theorem WQ(a:N K)(hl:X a<=9223372036854775807):WG fu a (k:J)=Z (a.getD k 0):=by grind [WG,zo,zf]
def Zk(c:zm a)(d:zm b)(hd:X a<=8589934592:=by omega)(g:X b<=8589934592:=by omega)(h:max (X a) (X b)+1<fu:=by omega):
 Zj fu a b=Z (yB<|nv a+nv b):=by
 unfold Zj;have e:max (X a:J) (X b)=((max (X a) (X b):K):J):=gC
 have hc:∀k,(wU (Aa a b) k).2<=1:=by
  intro k
  induction k with
  |zero=>exact xai _
  |succ k f=>exact Sd c d f
 rw[zf,e,U<|jC (step:=Aa a b) gC gC ?_]
 ·have hl:=wq (Aa a b)<|max (X a) (X b);show ck _ _=_;rw[xB (by simp;omega),zf,U (xm ?_ (by simp;omega)<|by simp;omega),zfQ gC gC];exact(Bx a b _).2.append<|zm.cons (by have:=hc<|max (X a) (X b);omega) zm.nil
 ·intro k i;unfold bO;rw[U (WQ a gC),U (WQ b gC),xB<|hc k];rfl
theorem Qw(c:zm a)(d:zm b)(hd:X a<=8589934592)(g:X b<=8589934592)(i:max (X a) (X b)+1<fu):
 QE fu a b=Z (if nv a<nv b then([],1)else(yB<|nv a-nv b,0)):=by
 unfold QE;have e:max (X a:J) (X b)=((max (X a) (X b):K):J):=gC
 have hc:∀k,(wU (Ub a b) k).2<=1:=by
  intro k
  cases k with
  |zero=>exact xai _
  |succ k=>exact CV a b k _
 rw[zf,e,U<|jC (step:=Ub a b) gC gC ?_]
 ·have hl:=wq (Ub a b)<|max (X a) (X b);have f:=Hq c d (xeo (X a) (X b))<|xdY (X a) (X b);simp only;by_cases h:nv a<nv b
  ·simp_all
  ·rw[ir (by intro h1;exact h<|f.1 gC),ir h,U (xm (BM c d (xeo (X a) (X b))<|xdY (X a) (X b)).2.1 gC gC),zc3 c d (xeo _ _) (xdY _ _) h]
 ·intro k j;unfold dG;rw[U (WQ a gC),U (WQ b gC),xB<|hc k];rfl
theorem KJ(c:zm a)(d:zm b)(hc:X a<=8589934592)(hd:X b<=8589934592)(e:max (X a) (X b)+1<fu)(h:nv b<=nv a):
 X7 fu a b=Z (yB<|nv a-nv b):=by grind [X7,U,Qw]
def Tx{a:N K}{x:K}(c:zm a)(d:x<18446744073709551616):∀k,(wU (UG a x) k).2<18446744073709551616
 |0=>Nat.zero_lt_succ _
 |k+1=>SJ c d<|Tx c d k
theorem zck{a c:K}(d:a<18446744073709551616)(e:x<18446744073709551616)(hc:c<18446744073709551616):
 ((a*x%18446744073709551616+c)%18446744073709551616,(a*x/18446744073709551616+(a*x%18446744073709551616+c)/18446744073709551616)%18446744073709551616)=((a*x+c)%18446744073709551616,(a*x+c)/18446744073709551616):=by
 have:=pF d e hc;grind
def ai(c:zm a)(d:x<18446744073709551616)(hc:X a<=8589934592:=by omega)(e:X a<fu:=by omega):QG fu a x=Z (wO (X a+1)<|nv a*x):=by
 unfold QG;rw[U<|jC (step:=UG a x) gC e ?_]
 ·have hl:=wq (UG a x) (X a);simp only;rw[xB (by simp;omega),zf,Rj<|Tx c d _]
 ·intro k f;unfold dJ;rw[zo f,zf,U<|WU (c.getD k) d];exact kW Z<|zck (c.getD k) d<|Tx c d k
theorem QW{n:K}(hn:n<=1099511627776:=by omega)(hl:X a<=1099511627776:=by omega):Yp fu a (n:J)=Z (xac n 0++a):=by grind [Yp,yR,xB,zf]
def IJ{n:K}{t3 t4 t6:N K}{i2:J}(d:zm a)(f:zm b)(v:k<X b)(hn:n=X a+X b+1)(w:n<=17179869184)(g:t6=wO (X a+1) (nv a*b.getD k 0))(m:X a+1<fu):
 zg (Q9 fu (k:J) t3 t4 i2 t6) fu (0,0,wO n<|nv a*nv (b.take k),t6)=Z (wO n<|nv a*nv (b.take<|k+1)):=by
 have hl:X t6=X a+1:=by rw[g,zX]
 have q:zm t6:=g▸wj _ _;have t:nv a*nv (b.take k)<18446744073709551616^n:=xao (Qm d f) (xav gS gC);have h0:nv (wO n<|nv a*nv (b.take k))=nv a*nv (b.take k):=by rw[kq,xam t]
 refine zA (λs:K×J×N K×N K=>∃(c i:K) (o:N K),s=(c,(i:J),o,t6)/\i<=X t6/\c<=1/\zm o/\X o=n/\nv o+18446744073709551616^(k+i)*c=nv a*nv (b.take k)+18446744073709551616^k*nv (t6.take i))
  (λs=>X a+1-s.2.1.toNat) _ ?_ _ _ ⟨0,0,_,O,gC,gC,wj _ _,zX _ _,by rw[h0];simp[nv]⟩ (by simpa using m)
 rintro s L ⟨c,i,o,rfl,hi,hc,hd,h,l⟩ u;unfold Q9;simp only;by_cases h1:i<X t6
 ·rw[zT,U O];simp only[uL];have e:(k:J)+(i:J)=((k+i:K):J):=gC
  rw[zo h1,zf,e,zb,zb,zY,zf,xB hc,zf,zf,zY,zf,zb];refine u _ ⟨_,i+1,_,O,gC,?_,hd.set _ (xaS _ gS),by rw[xbC,h],?_⟩ (by show X a+1-((i:J)+1).toNat<X a+1-(i:J).toNat;omega)
  ·have:=hd.getD<|k+i;have:=q.getD i;omega
  ·have:=zfc (o:=o) (o0:=wO n<|nv a*nv (b.take k)) (r:=t6) (j:=k) (i:=i) (c:=c) gC (by rw[h0];exact l);rw[h0]at this;exact this
 ·rw[zB,U O];simp only[xak,ut];subst g;refine kW Z<|sE hd (wj _ _) (by rw[h,zX]) ?_;rw[Oc d f (k:=k) (i:=i) (c:=c) (p:=o) (o:=wO n<|nv a*nv (b.take k)) gC gC h0 (by rw[h0];exact l),kq,xam];exact xao (Qm d f)<|xav gS gC
theorem Aj(c:zm a)(d:zm b)(hc:X a<=4294967296)(hd:X b<=4294967296)(h:X a+X b+1<fu):
 Qa fu a b=Z (yB<|nv a*nv b):=by
 unfold Qa;have e1:(X a:J)+(X b:J)=((X a+X b:K):J):=gC
 have e:((X a+X b:K):J)+1=((X a+X b+1:K):J):=gC
 have f:nv a*nv b<18446744073709551616^(X a+X b+1):=by
  have:=Qm (k:=X b) c d;grind
 rw[e1,zb,e,zb,yR,yV,zf,U (v:=wO (X a+X b+1)<|nv a*nv b)]
 ·rw[U (xm (wj _ _) (by rw[zX];omega)<|by rw[zX];omega),kq,xam f]
 ·refine zA (λs:J×N K=>∃k:K,k<=X b/\s=((k:J),wO (X a+X b+1)<|nv a*nv (b.take k))) (λs=>X b-s.1.toNat) _ ?_ _ _ ⟨0,gC,by simp[nv,Ha]⟩ (by simp;omega);rintro s L ⟨k,i,rfl⟩ g;unfold bn;simp only;by_cases h1:k<X b
  ·rw[zT,U O];simp only[uL];rw[zo h1,zf,U (ai c (d.getD k) gC gC),U (IJ c d h1 O gC O gC),zb];exact g _ ⟨k+1,gC,O⟩ (by show X b-((k:J)+1).toNat<X b-(k:J).toNat;omega)
  ·rw[zB,U O];simp only[xak,ut];obtain rfl:k=X b:=gC
   rw[xcw]
end
def S5(n:K):xct (n:J) 2=((n/2:K):J):=O
def cz(x h:K):X (yB<|nv<|(yB x).take h)<=h:=by grind [xd,zm.take,zu]
def dM(x h:K):X (yB<|nv<|(yB x).drop h)<=X (yB x)-h:=by grind [xd,zm.drop,zu]
def Qg:∀{fu:wr}{a b:N wr},zm a->zm b->X a<=1073741824->X b<=1073741824->4*(X a+X b)+64<=fu->Zb fu a b=Z (yB<|nv a*nv b)
 |0,a,b,_,_,_,_,R=>by lia
 |fu+1,a,b,C,D,hk,hl,R=>by
  have h1:=xd C;have h2:=xd D;show Y _ _=_;rw[U (xW C W W),U<|xW D W W];have eA:nv (yB<|nv a)=nv a:=yg _;have S:nv (yB<|nv b)=nv b:=yg _;generalize hx:nv a=x at*
  generalize hy:nv b=y at*
  generalize hp:X (yB x)=p at*
  generalize s:X (yB y)=q at*
  have e1:min (p:J) (q:J)=((min p q:wr):J):=W
  rw[zf,e1];by_cases u:((min p q:wr):J)<8
  ·rw[iq u,U (Aj (zu x) (zu y) W W W),eA,S]
  ·rw[ir u];have E:max (p:J) (q:J)=((max p q:wr):J):=W
   rw[zf,E,S5,zb];have⟨h,F⟩:∃h,h=max p q/2:=⟨_,O⟩;have G:∀l:wr,min (h:J) (l:J)=((min h l:wr):J):=by intro l;lia
   rw[<-F];simp only[B,G,yR];rw[xB gS,yV];have H:(yB x).take (min h p)=(yB x).take h:=by rw[<-hp];exact Oj h
   have L:(yB x).drop (min h p)=(yB x).drop h:=by rw[<-hp];exact Px h
   have ty:(yB y).take (min h q)=(yB y).take h:=by rw[<-s];exact Oj h
   have dy:(yB y).drop (min h q)=(yB y).drop h:=by rw[<-s];exact Px h
   rw[H,ty,L,dy];have v:=cz x h;have w:=cz y h;have f:X ((yB x).drop h)=p-h:=by rw[xbR,hp]
   have g:X ((yB y).drop h)=q-h:=by rw[xbR,s]
   have i:=dM x h;have o:=dM y h;rw[U (xW ((zu x).take h) (by rw[xax];lia)<|by rw[xax];lia),yV,yV,U (xW ((zu y).take h) (by rw[xax];lia)<|by rw[xax];lia),yV];have M:=(zu x).drop h;have⟨m,T⟩:∃m,m=max p q:=⟨_,O⟩;have f1:p<=m:=W
   have f2:q<=m:=W
   have f3:m+8<=p+q:=W
   have f4:2*h<=m:=W
   have f5:m<=2*h+1:=W
   clear F T u e1 E G H ty L dy;have g1:p-h<=m-h:=W
   have A:q-h<=m-h:=W
   have g3:h<=m-h:=W
   replace i:=xal i<|hp.symm▸g1;replace o:=xal o<|s.symm▸A;have V:X ((yB x).drop h)<=m-h:=f▸g1;have a0:X ((yB y).drop h)<=m-h:=g▸A;clear f g g1 A;have P:=(zu y).drop h;generalize he:nv ((yB x).take h)=x0 at*
   generalize hg:nv ((yB y).take h)=c at*
   generalize hi:(yB x).drop h=dX at*
   generalize hj:(yB y).drop h=dY at*
   generalize hc:nv dX=d at*
   generalize hd:nv dY=e at*
   have s1:=uz (x:=x0) (y:=d) (k:=m-h) W W;have s2:=uz (x:=c) (y:=e) (k:=m-h) W W;have r:=zie x0 d c e;rw[U<|Qg (fu:=fu) (zu x0) (zu c) W W W];rw[U<|Qg (fu:=fu) M P W W W];rw[U<|Zk (zu x0) M,U<|Zk (zu c) P];rw[hc,hd,yg,yg];rw[U (Qg (fu:=fu) (zu<|x0+d) (zu<|c+e) W W W),yg,yg];have l3:=Yl s1 s2;have l1:=Yl v w;have l2:=Yl (x:=d) (y:=e) (j:=m-h) (k:=m-h) W W;have l4:=Q6<|xfa ((x0+d)*(c+e))<|x0*c;have l5:=Q6<|xfa ((x0+d)*(c+e)-x0*c)<|d*e;rw[U (KJ (zu<|(x0+d)*(c+e)) (zu<|x0*c) W W W<|by rw[yg,yg];exact r.1),yg,yg];rw[U (KJ (zu<|(x0+d)*(c+e)-x0*c) (zu<|d*e) W W W<|by rw[yg,yg];exact r.2),yg,yg];have Q:∀n z:wr,zm (xac n 0++yB z):=λn z=>(zm.replicate n).append<|zu z;have ml:∀n z:wr,X (xac n 0++yB z)=n+X (yB z):=λn z=>by rw[xap,xaZ]
   rw[U<|QW,U (Zk (zu _) (Q _ _) W (by rw[ml];lia)<|by rw[ml];lia),yg,Dx,yg];have e4:2*(h:J)=((2*h:wr):J):=W
   rw[e4,zb,U<|QW];have t:=O9 h<|xal l5<|xal l4 l3;have l7:=uz (x:=x0*c) (y:=18446744073709551616^h*((x0+d)*(c+e)-x0*c-d*e)) (k:=3*(p+q)) (by clear t;lia) (xal t<|by clear t;lia);have K:=zfm x y h he.symm (by rw[hi,hc]) hg.symm (by rw[hj,hd]);generalize 18446744073709551616^h*((x0+d)*(c+e)-x0*c-d*e)=z1 at*
   generalize hz:x0*c+z1=z at*
   clear t;rw[U (Zk (zu z) (Q (2*h)<|d*e) (by clear K;lia) (by rw[ml];clear K;lia)<|by rw[ml];clear K;lia),yg,Dx,yg,K]
section
variable{k fu:wr}{a:xS wr}
def blf:K->K->K
 |0,_=>0
 |f+1,n=>if n=0 then 0 else blf f (n/2)+1
def bl(n:K):K:=blf n n
def zfy:∀f f' n,n<=f->n<=f'->blf f n=blf f' n
 |0,f',n,h,b=>by
  obtain rfl:n=0:=W
  cases f'<;>rfl
 |f+1,0,n,h,b=>by
  obtain rfl:n=0:=W
  rfl
 |f+1,f'+1,n,h,b=>by
  unfold blf;split
  ·rfl
  ·rw[zfy f f' (n/2) W W]
def de{n:K}(h:0<n:=by lia):bl n=bl (n/2)+1:=by
 obtain⟨m,rfl⟩:∃m,n=m+1:=⟨n-1,W⟩;show(if m+1=0 then 0 else blf m ((m+1)/2)+1)=_;rw[zfy m ((m+1)/2) ((m+1)/2) W<|Nm _];rfl
def dC:∀(k:K) {n:K},2^k<=n->bl n=bl (n/2^k)+k
 |0,n,h=>by simp
 |k+1,n,h=>by
  have b:=Nat.two_pow_pos k;rw[de,dC k W,xaE,xbf,xaO 2];lia
theorem JD{n:K}(h:n<2^k):bl n<=k:=by
 induction k generalizing n with
 |zero=>
  obtain rfl:n=0:=W
  exact Nm _
 |succ k b=>
  obtain rfl|h0:=xcB n
  ·grind
  ·rw[de h0];grind
theorem B7(n:K):n<2^bl n:=by
 induction n using xdz with
 |ind n b=>
  obtain rfl|h0:=xcB n
  ·decide
  ·rw[de h0];grind
def GN:∀{n:K},n<256->xeZ n=bl n:=by decide+kernel
theorem qJ{x:K}(q:x<18446744073709551616):xO fu x=Z ((bl x:K):J):=by
 unfold xO;have f:min (16:J).toNat 64=16:=gS
 have o:min (8:J).toNat 64=8:=gS
 have g:min (32:J).toNat 64=32:=gS
 simp only[B,g,f,o];have c:∀(d:K) (i:J),d<65536->0<=i->i<=48->(if(256:J)<=(d:J)then Q (i+8) λj=>Q (j+((xeZ (d/2^8%256):K):J)) λl=>Z l else Q (i+((xeZ (d%256):K):J)) λm=>Z m)=Z (i+((bl d:K):J)):=by
  intro d i hd h0 h1;by_cases h:256<=d
  ·have b:=JD (n:=d/2^8) (k:=8) W;rw[zT,zb,xam W,GN W,zb,dC 8 (n:=d) W];grind
  ·have b:=JD (n:=d) (k:=8) W;rw[zB,xam W,GN W,zb]
 have e:∀(d:K) (i:J),d<4294967296->0<=i->i<=32->(Y (if(65536:J)<=(d:J)then Q (i+16) λp=>Z (d/2^16,p)else Z (d,i)) λ(d2,i2)=>if(256:J)<=(d2:J)then Q (i2+8) λj=>Q (j+((xeZ (d2/2^8%256):K):J)) λl=>Z l else Q (i2+((xeZ (d2%256):K):J)) λm=>Z m)=Z (i+((bl d:K):J)):=by
  intro d i hd h0 h1;by_cases h:65536<=d
  ·rw[zT,zb,U O];simp only;rw[c _ _ W W W,dC 16 (n:=d) W];congr 1;lia
  ·rw[zB,U O];exact c _ _ W W W
 by_cases h:4294967296<=x
 ·rw[zT,U O];simp only;rw[e _ _ W W W,dC 32 (n:=x) W];congr 1;lia
 ·rw[zB,U O];simp only;rw[e _ _ W W W];congr 1;lia
def OM{n:K}(h:0<n):bl n=64*(X (yB n)-1)+bl ((yB n).getD (X (yB n)-1) 0):=by
 have⟨k,b⟩:∃k,X (yB n)=k+1:=⟨X (yB n)-1,by have:=vD h;lia⟩;have h1:=(zL (k+1) n).1 W;have d:¬n<18446744073709551616^k:=λh=>by have:=(zL k n).2 h;lia
 rw[b,ZA,(W:k+1-1=k)];have e:18446744073709551616^k=2^(64*k):=by rw[xcz]
 have c:n/18446744073709551616^k<18446744073709551616:=by rw[xaX<|xaU gS];rw[xbf,xaO]at h1;exact h1
 rw[xam c,e,dC (64*k)<|by skip;lia];lia
def zgE(h:zm a)(b:X a<=k):bl (nv a)<=64*k:=by
 refine JD ?_;rw[xcz];exact xao (vH h)<|xav gS b
def WC(h:zm a)(hl:X a<=1099511627776)(d:X a<fu):uR fu a=Z ((bl (nv a):K):J):=by
 unfold uR;rw[U<|xW h (xal hl gS) d];have f:=zgE h hl;rcases xcB (nv a)with h0|h0
 ·rw[h0];rfl
 ·have h1:=vD h0;have b:=(zu<|nv a).getD<|X (yB<|nv a)-1;have e:=OM h0;have⟨k,c⟩:∃k,X (yB<|nv a)=k+1:=⟨X (yB<|nv a)-1,W⟩;rw[c]at e b;simp only[xfi]at e b;have e1:((k+1:K):J)-1=k:=W
  rw[c,e1,zb,zb,zb,zY,zf,U<|qJ b,zb,e];rfl
end
section
variable{x k fu:wr}{r a b l d:xS wr}
def nw:N K->K
 |[]=>0
 |x::r=>x+4294967296*nw r
def ki:K->K->N K
 |0,_=>[]
 |k+1,n=>n%4294967296::ki k (n/4294967296)
def oT:K->K->N K
 |0,_=>[]
 |f+1,n=>if n=0 then[]else n%4294967296::oT f (n/4294967296)
def Va(n:K):N K:=oT n n
def FQ:N K->N K
 |[]=>[]
 |x::r=>match FQ r with
  |[]=>if x=0 then[]else[x]
  |y::s=>x::y::s
def xf(l:N K):Prop:=∀x∈l,x<4294967296
def xf.nil:xf []:=λx c=>wR c IR
def xf.cons(h:x<4294967296)(c:xf r):xf (x::r):=λy hy=>by
 obtain rfl|hy:=xaa.1 hy
 ·exact h
 ·exact c y hy
def xf.head(h:xf (x::r)):x<4294967296:=h x<|FS
def xf.tail(h:xf (x::r)):xf r:=λy c=>h y<|UV _ c
def xf.append(c:xf a)(e:xf b):xf (a++b):=λx f=>by
 obtain h|h:=So.1 f
 ·exact c x h
 ·exact e x h
theorem xf.take{a:N K}(h:xf a)(k:K):xf (a.take k):=λx c=>h x<|xel c
def xf.getD{a:N K}(h:xf a)(k:K):a.getD k 0<4294967296:=by
 rw[H1];by_cases c:k<X a
 ·rw[xah c];exact h _<|xbE c
 ·simp_all
def IH:nw []=0:=O
def kh(x:K)(r:N K):nw (x::r)=x+4294967296*nw r:=O
theorem fF:∀(a b:N K),nw (a++b)=nw a+4294967296^X a*nw b
 |[],b=>by simp[nw]
 |x::a,b=>by
  rw[xbF,kh,fF a b,kh];grind
def IM:∀k,nw (xac k 0)=0
 |0=>rfl
 |k+1=>by rw[xds,kh,IM k]
def VS:∀{l:N K},xf l->nw l<4294967296^X l
 |[],_=>by simp[nw]
 |x::r,h=>by
  have h1:=h.head;have c:=VS h.tail;rw[kh,xau];omega
theorem Bm(l:N K)(x:K):nw (l++[x])=nw l+4294967296^X l*x:=by
 rw[fF,kh,IH];simp
theorem yQ:∀k n,X (ki k n)=k
 |0,_=>rfl
 |k+1,n=>by rw[ki,xau,yQ]
theorem qs:∀k n,xf (ki k n)
 |0,_=>xf.nil
 |k+1,n=>xf.cons (xaS _ gS)<|qs k _
theorem YA:∀k n,nw (ki k n)=n%4294967296^k
 |0,n=>by simp[ki,nw,Nat.mod_one]
 |k+1,n=>by rw[ki,kh,YA k,xbf,xaO<|4294967296^k,Nat.mod_mul]
def U9:∀{l:N K},xf l->ki (X l) (nw l)=l
 |[],_=>rfl
 |x::r,h=>by
  have h1:=h.head;rw[xau,ki,kh,xbV,xam h1,xcm _ _ gS,xbg h1,xaJ,U9 h.tail]
def DH(c:xf a)(e:xf b)(hl:X a=X b)(h:nw a=nw b):a=b:=by
 rw[<-U9 c,<-U9 e,hl,h]
def rk:∀k,ki k 0=xac k 0
 |0=>rfl
 |k+1=>by rw[ki,rk k,xds]
def sQ:∀k n,ki (k+1) n=ki k n++[n/4294967296^k%4294967296]
 |0,n=>by simp[ki]
 |k+1,n=>by rw[ki,sQ k,ki,xbF,xaE,<-xdO]
def Gm:∀(k n i:K),i<k->(ki k n).getD i 0=n/4294967296^i%4294967296
 |0,_,_,h=>by omega
 |k+1,n,0,_=>by simp[ki]
 |k+1,n,i+1,h=>by rw[ki,xdu,Gm k _ i gC,xaE,<-xdO]
def FR:∀f n,xf (oT f n)
 |0,_=>xf.nil
 |f+1,n=>by
  rw[oT];split
  ·exact xf.nil
  ·exact xf.cons (xaS _ gS)<|FR f _
def vS(n:K):xf (Va n):=FR n n
def zbA:∀f n,n<=f->nw (oT f n)=n
 |0,n,h=>by rw[oT,IH];omega
 |f+1,n,h=>by
  rw[oT];split
  ·rename_i h0;rw[IH,h0]
  ·rename_i h0;have c:n/4294967296<=f:=gC
   rw[kh,zbA f _ c,xen]
def qm(n:K):nw (Va n)=n:=zbA n n<|Nm _
def zaG:∀f f' n,n<=f->n<=f'->oT f n=oT f' n
 |0,f',n,h,c=>by
  have:n=0:=gC
  subst this;cases f'<;>simp[oT]
 |f+1,0,n,h,c=>by
  have:n=0:=gC
  subst this;rfl
 |f+1,f'+1,n,h,c=>by
  rw[oT,oT];split
  ·rfl
  ·rename_i h0;rw[zaG f f' _ gC gC]
theorem dw:Va 0=[]:=O
theorem o9{n:K}(h:0<n):Va n=n%4294967296::Va (n/4294967296):=by
 have e:Va n=oT ((n-1)+1) n:=by unfold Va;congr 1;omega
 rw[e,oT,zB];congr 1;exact zaG _ _ _ gC gC
theorem zcr{n:K}(h0:0<n)(h:n<4294967296):Va n=[n]:=by grind [o9,dw]
def zhT{n:K}:Va n=[]↔n=0:=by
 constructor
 ·intro h;rw[<-qm n,h];rfl
 ·rintro rfl;rfl
def Nb{n:K}(h:0<n):0<X (Va n):=by rw[o9 h,xau];omega
def w6:∀(k n:K),X (Va n)<=k↔n<4294967296^k
 |0,n=>by rw[Nat.le_zero,xbs,zhT];simp
 |k+1,n=>by
  by_cases h:n=0
  ·subst h;simp[dw];exact xaU gS
  ·rw[o9 gC,xau,Nat.add_le_add_iff_right,w6 k,xaX gS,xbf]
def gi:∀(l:N K) (k:K),k+1=X l->l.getD k 0≠0->FQ l=l
 |[],_,h,_=>by simp at h
 |[x],0,_,h=>by simp at h;simp[FQ,h]
 |[x],k+1,h,_=>by simp at h
 |x::y::r,0,h,_=>by simp at h
 |x::y::r,k+1,h,h0=>by
  have:=gi (y::r) k (by simpa using h) (by simpa using h0);simp only[FQ]at this⊢;rw[this]
theorem zki(l:N K)(k:K)(h:k+1=X l)(h0:l.getD k 0=0):l=l.take k++[0]:=by grind [xbv,xbT]
theorem Nc:∀{l:N K},xf l->FQ l=Va (nw l)
 |[],_=>rfl
 |x::r,h=>by
  have c:=Nc h.tail;have e:=h.head;rw[FQ,c,kh];by_cases f:nw r=0
  ·rw[f,dw];by_cases h0:x=0
   ·simp[h0,dw]
   ·simp only[h0,ut,xcK,xbK];rw[zcr gC e]
  ·have e1:=o9 (n:=nw r) gC;have g:=o9 (n:=x+4294967296*nw r) gC;grind
theorem Pc(hl:xf l)(h:l=[]\/l.getD (X l-1) 0≠0):Va (nw l)=l:=by
 rw[<-Nc hl];obtain rfl|h:=h
 ·rfl
 ·cases hn:X l with
  |zero=>rw[xbm hn];rfl
  |succ k=>exact gi l k hn.symm<|by rw[hn]at h;exact h
def Ld(hl:xf l)(k:K):nw (l.take k)=nw l%4294967296^k:=by
 by_cases c:k<=X l
 ·have e:=fF (l.take k)<|l.drop k;rw[xbv,xax,xce c]at e;have:=VS<|hl.take k;rw[xax,xce c]at this;rw[e,xbV,xam this]
 ·rw[xaQ gC,xam];exact xao (VS hl)<|xav gS gC
def zbF(hl:xf l)(k:K):nw (l.drop k)=nw l/4294967296^k:=by
 by_cases c:k<=X l
 ·have e:=fF (l.take k)<|l.drop k;rw[xbv,xax,xce c]at e;have:=VS<|hl.take k;rw[xax,xce c]at this;rw[e,xcm _ _ (xaU gS),xbg this,xaJ]
 ·rw[xcd gC,IH,xbg];exact xao (VS hl)<|xav gS gC
def ab:∀{l:N K},xf l->∀k,l.getD k 0=nw l/4294967296^k%4294967296
 |[],_,k=>by simp[nw]
 |x::r,h,0=>by rw[List.getD_cons_zero,kh,xdK,xbV,xam h.head]
 |x::r,h,k+1=>by rw[xdu,ab h.tail k,kh,xdO,<-xaE,xcm _ _ gS,xbg h.head,xaJ]
def ze2(h:xf a):a.take (X (Va<|nw a))=Va (nw a):=by
 have c:=(w6 _ _).2<|VS h;refine DH (h.take _) (vS _) (by rw[xax];omega) ?_;rw[Ld h,qm];exact xam<|(w6 _ _).1<|Nm _
theorem CW(k:K):(4294967296:K)^(2*k)=18446744073709551616^k:=by grind [xcz]
def zdY(k:K):(4294967296:K)^(2*k+1)=18446744073709551616^k*4294967296:=by
 rw[xbf,CW]
theorem jY(l:N K):∀k,nw (l.take<|k+1)=nw (l.take k)+4294967296^k*l.getD k 0:=by
 induction l with
 |nil=>intro k;simp[nw]
 |cons x r c=>
  intro k
  cases k with
  |zero=>simp[nw]
  |succ k=>
   rw[xes,kh,c k,xes,kh,xdu,xbf,xbk];rw[xaO (4294967296^k) 4294967296,xaP,xcU]
def Im(c:k+1<=X a)(h0:a.getD k 0=0):nw (a.take k)=nw (a.take<|k+1):=by
 rw[jY,h0];simp
theorem Mq(h:xf a)(c:k+1<=X a)(h0:a.getD k 0≠0):Va (nw<|a.take<|k+1)=a.take (k+1):=by grind [Pc,xf.take]
def zcH(h:xf l):X (Va<|nw l)<=X l:=(w6 _ _).2<|VS h
theorem H6:∀(o:N K) (j v:K),j<X o->nw (o.set j v)+4294967296^j*o.getD j 0=nw o+4294967296^j*v
 |[],j,v,h=>by simp at h
 |x::r,0,v,h=>by simp[nw];omega
 |x::r,j+1,v,h=>by
  have c:=H6 r j v (by simpa using h);rw[xfg,kh,kh,xdu,xbf,xaO<|4294967296^j,xaP,xaP];omega
def xf.set{o:N K}(h:xf o)(j:K){v:K}(hv:v<4294967296):xf (o.set j v):=λx c=>by
 obtain h1|h1:=xej c
 ·exact h x h1
 ·omega
theorem Q1(h:xf a)(hl:X a<=1099511627776)(m:X a<fu):Ym fu a=Z (Va<|nw a):=by
 unfold Ym;have f:=zcH h;rw[U (v:=(X (Va<|nw a):J)),yR,xB f,zf,ze2 h];refine zA (λi:J=>0<=i/\i<=X a/\nw (a.take i.toNat)=nw a) (λi=>i.toNat) _ ?_ _ _ ⟨gC,gC,gT⟩ gC;rintro i L ⟨h0,h1,hn⟩ g;obtain⟨k,rfl⟩:=xaA h0;unfold gZ;simp only[xbc]at*
 by_cases e:0<(k:J)
 ·obtain⟨j,rfl⟩:∃j,k=j+1:=⟨k-1,gC⟩;have e1:((j+1:K):J)-1=(j:J):=gC
  rw[iq e,e1,zb,zY,zf];by_cases c:a.getD j 0=0
  ·rw[iq (by rw[c]),zb];refine g _ ⟨gC,gC,?_⟩ gC;rw[xbc,Im gC c,hn]
  ·rw[zB,<-hn,Mq h gC c,xax];grind
 ·rw[ir e,<-hn];have:k=0:=gC
  subst this;rfl
def zeb(h:zm a)(c:k<X a):ki (2*k) (nv a)++[a.getD k 0 &&& 4294967295,a.getD k 0/2^32]=ki (2*(k+1)) (nv a):=by
 rw[(gC:2*(k+1)=(2*k+1)+1),sQ,sQ,xaf,Kg h,C6];congr 1;rw[zdY,CW,<-xaE];congr 1
 ·omega
 ·congr 1;omega
theorem MM(h:zm a)(hl:X a<=4294967296)(e:2*X a<fu):zg (XL fu a) fu ([],0)=Z (ki (2*X a)<|nv a):=by
 refine zA (λs:N K×J=>∃k:K,k<=X a/\s=(ki (2*k)<|nv a,(k:J))) (λs=>X a-s.2.toNat) _ ?_ _ _ ⟨0,gC,O⟩ (by show X a-0<fu;omega);rintro s L ⟨k,f,rfl⟩ c;unfold XL;simp only;by_cases h1:k<X a
 ·rw[zT,zo h1,zf,zf,zo h1,zf,zf,DV,xB (by simp only[yQ,xau,xbH];omega),zf,zb,zeb h h1];exact c _ ⟨k+1,gC,O⟩ (by show X a-((k:J)+1).toNat<X a-(k:J).toNat;omega)
 ·grind
theorem xQ(h:zm a)(hl:X a<=4294967296:=by omega)(c:2*X a<fu:=by omega):xy fu a=Z (Va<|nv a):=by grind [xy,CW,vH,U,MM,Q1,qs,yQ,YA,xam]
def zdf(h:xf d)(k:K):d.getD (2*k) 0+d.getD (2*k+1) 0*2^32=nw d/18446744073709551616^k%18446744073709551616:=by
 rw[ab h,ab h,zdY,<-xaE,CW];omega
def zaf{n:K}(h:xf d)(hl:X d<=4294967296)(hn:n=(X d+1)/2)(j:X d+1<fu):zg (Vx fu d) fu ([],0)=Z (wO n<|nw d):=by
 refine zA (λs:N K×J=>∃k:K,k<=n/\s=(wO k<|nw d,2*(k:J))) (λs=>2*n-s.2.toNat) _ ?_ _ _ ⟨0,gC,O⟩ (by show 2*n-0<fu;omega);rintro s L ⟨k,m,rfl⟩ c;unfold Vx;simp only;have f:2*(k:J)=((2*k:K):J):=gC
 have hp:=zdf h k;by_cases h1:2*k<X d
 ·have d0:=h.getD<|2*k;have d1:=h.getD<|2*k+1;rw[f,zT,zo h1,zf,zb];have g:((2*k:K):J)+1=((2*k+1:K):J):=gC
  have e:((2*k:K):J)+2=2*((k+1:K):J):=gC
  by_cases i:2*k+1<X d
  ·rw[zT,zb,g,zo i,zf,DV,zf,zf,xB (by simp only[zX,xau,xbH];omega),zf,zb,e];refine c _ ⟨k+1,gC,?_⟩ (by show 2*n-(2*((k+1:K):J)).toNat<2*n-(((2*k:K):J)).toNat;omega);rw[Uq,<-hp,xam gC,xam gC]
  ·rw[zB,xB (by simp only[zX,xau,xbH];omega),zf,zb,e];refine c _ ⟨k+1,gC,?_⟩ (by show 2*n-(2*((k+1:K):J)).toNat<2*n-(((2*k:K):J)).toNat;omega);have z:d.getD (2*k+1) 0=0:=by rw[H1,xbD gC];rfl
   rw[z,xcu,xbK]at hp;rw[Uq,<-hp]
 ·rw[zB];obtain rfl:k=n:=gC
  rfl
def ju(h:xf d)(hl:X d<=4294967296)(c:X d+1<fu):vK fu d=Z (yB<|nw d):=by
 unfold vK;have⟨n,hn⟩:∃n,n=(X d+1)/2:=⟨_,O⟩;have e:nw d<18446744073709551616^n:=by
  rw[<-CW];exact xao (VS h)<|xav gS gC
 rw[U<|zaf h hl hn c,U (a6 (wj _ _) (by rw[zX];omega)<|by rw[zX];omega),kq,xam e]
end
section
variable{o y x a b:xS wr}{i m fu:wr}
theorem zcf{T k x c:K}(d:i+k<X o)(h:nw o+4294967296^(i+k)*c=T+4294967296^i*(x*nw (y.take k))):
 nw (o.set (i+k)<|(x*y.getD k 0+o.getD (i+k) 0+c)%4294967296)+4294967296^(i+(k+1))*((x*y.getD k 0+o.getD (i+k) 0+c)/4294967296)=T+4294967296^i*(x*nw (y.take<|k+1)):=by grind [H6,jY,xbk,xdv,xaP,xen]
def zcN(c:xf o){j v:K}(d:j<m)(hv:v<4294967296)(h:nw o<4294967296^m):nw (o.set j v)<4294967296^m:=by
 have e:(o.set j v).drop m=o.drop m:=List.drop_set_of_lt d;have h1:=zbF (c.set j hv) m;have f:=zbF c m;rw[e,f,xbg h]at h1;have hp:0<4294967296^m:=xaU gS;rcases xbW (nw<|o.set j v) (4294967296^m)with h3|h3
 ·exact h3
 ·have:=Nat.div_pos h3 hp;lia
def TR(c:xf o)(h:nw o<4294967296^m):o.getD m 0=0:=by
 rw[ab c,xbg h]
def zfI{x y o c:K}(d:x<4294967296)(e:y<4294967296)(f:o<4294967296)(hc:c<4294967296):x*y+o+c<18446744073709551616:=by
 have:x*y<=4294967295*4294967295:=xbo W W;lia
def Ll{n:K}{o0:N K}(j:xf x)(l:xf y)(hi:i<X x)(hn:n=X x+X y)(w:n<=4294967296)(h0:xf o0)(p:X o0=n)(q:nw o0=nw (x.take i)*nw y)(hl:nw o0<4294967296^(i+X y))(A:X y<fu):
 zg (KE fu (i:J)) fu (x,y,0,0,o0)=Z (x,y,nw (x.take<|i+1)*nw y/4294967296^(i+X y),ki n<|nw (x.take<|i+1)*nw y%4294967296^(i+X y)):=by
 refine zA (λs:N K×N K×K×J×N K=>∃(c k:K) (o:N K),s=(x,y,c,(k:J),o)/\k<=X y/\c<4294967296/\xf o/\X o=n/\nw o<4294967296^(i+X y)/\nw o+4294967296^(i+k)*c=nw o0+4294967296^i*(x.getD i 0*nw (y.take k)))
  (λs=>X y-s.2.2.2.1.toNat) _ ?_ _ _ ⟨0,0,o0,O,W,W,h0,p,hl,by simp[nw]⟩ (by show X y-0<fu;lia)
 rintro s L ⟨c,k,o,rfl,B,hc,d,h,hd,f⟩ r;unfold KE;simp only;by_cases h1:k<X y
 ·have e:(i:J)+(k:J)=((i+k:K):J):=W
  have bx:=j.getD i;have g:=l.getD k;have t:=d.getD<|i+k;have C:=zfI bx g t hc;rw[zT,zo hi,zf,zo h1,zf,zf,e,zb,zY,zf,zf,zf,zb,zf,C6,zY,zf,zf,DV,zb];have u:((x.getD i 0*y.getD k 0%18446744073709551616+o.getD (i+k) 0)%18446744073709551616+c)%18446744073709551616=x.getD i 0*y.getD k 0+o.getD (i+k) 0+c:=by
   generalize x.getD i 0*y.getD k 0=z at*
   lia
  rw[u];refine r _ ⟨_,k+1,_,O,W,?_,d.set _ (xaS _ gS),by rw[xbC,h],zcN d W (xaS _ gS) hd,zcf W f⟩ (by show X y-((k:J)+1).toNat<X y-(k:J).toNat;lia);generalize x.getD i 0*y.getD k 0+o.getD (i+k) 0+c=z at*
  lia
 ·rw[zB];obtain rfl:k=X y:=W
  rw[xcw,q]at f;have v:nw (x.take<|i+1)*nw y=nw (x.take i)*nw y+4294967296^i*(x.getD i 0*nw y):=by rw[jY,xbb,xaP]
  rw[<-v]at f;have hp:0<4294967296^(i+X y):=xaU gS;rw[<-f,xcm _ _ hp,xbg hd,xbV,xam hd,xaJ];have:=U9 d;rw[h]at this;rw[this]
def Sv(c:xf x)(k:K):nw (x.take k)<4294967296^k:=by
 rw[Ld c];exact xaS _<|xaU gS
def se(c:xf x)(d:xf y)(k:K):nw (x.take k)*nw y<4294967296^(k+X y):=by
 rw[xbz];exact xdL (Sv c k)<|VS d
def RA{n:K}(c:xf x)(d:xf y)(hn:n=X x+X y)(h:n<=4294967296)(t:n<fu):
 zg (KF fu x y) fu (0,ki n 0)=Z (ki n<|nw x*nw y):=by
 refine zA (λs:J×N K=>∃k:K,k<=X x/\s=((k:J),ki n<|nw (x.take k)*nw y)) (λs=>X x-s.1.toNat) _ ?_ _ _ ⟨0,W,by simp[nw]⟩ (by show X x-0<fu;lia);rintro s L ⟨k,u,rfl⟩ j;unfold KF;simp only;by_cases h1:k<X x
 ·have l:=se c d k;have hc:=se c d<|k+1;have hi:4294967296^(k+X y)<=4294967296^n:=xav gS W;have hv:nw (ki n<|nw (x.take k)*nw y)=nw (x.take k)*nw y:=by rw[YA,xam W]
  have e:(k:J)+(X y:J)=((k+X y:K):J):=W
  rw[zT,U<|Ll (n:=n) c d h1 hn h (qs _ _) (yQ _ _) hv (by rw[hv];exact l) W];simp only;rw[e,zb,zo (by rw[yQ];lia),zf,zb];refine j _ ⟨k+1,W,?_⟩ (by show X x-((k:J)+1).toNat<X x-(k:J).toNat;lia);have p:nw (x.take<|k+1)*nw y/4294967296^(k+X y)<4294967296:=by
   rw[xaX<|xaU gS];rw[(W:k+1+X y=(k+X y)+1),xbf,xaO<|4294967296^(k+X y)]at hc;exact hc
  have hp:0<4294967296^(k+X y):=xaU gS;generalize nw (x.take<|k+1)*nw y=S at*
  have q:=xaS S hp;have f:nw (ki n<|S%4294967296^(k+X y))=S%4294967296^(k+X y):=by rw[YA,xam W]
  have r:=TR (qs n<|S%4294967296^(k+X y)) (m:=k+X y) (by rw[f];exact q);have g:=H6 (ki n<|S%4294967296^(k+X y)) (k+X y) (S/4294967296^(k+X y)) (by rw[yQ];lia);rw[r,f,xcK,xbK,xen]at g;have hd:=U9<|(qs n<|S%4294967296^(k+X y)).set (k+X y) p;rw[g,xbC,yQ]at hd;rw[hd];rfl
 ·rw[zB];obtain rfl:k=X x:=W
  rw[xcw]
def W0(h:zm a):X (Va<|nv a)<=2*X a:=by
 rw[w6,CW];exact vH h
def B4(c:zm a)(d:zm b)(hd:X a<=268435456)(j:X b<=268435456)(k:2*(X a+X b)+1<fu):
 JZ fu a b=Z (yB<|nv a*nv b):=by
 unfold JZ;have l1:=W0 c;have l:=W0 d;rw[U<|xQ c,U<|xQ d];have e1:nw (Va<|nv a)=nv a:=qm _;have h:nw (Va<|nv b)=nv b:=qm _;have f:=vS<|nv a;have g:=vS<|nv b;generalize Va (nv a)=x at*
 generalize Va (nv b)=y at*
 have e:X x+X y=((X x+X y:K):J):=W
 have hc:nv a*nv b<4294967296^(X x+X y):=by
  have:=se f g (X x);simp_all
 rw[e,zb,yR,yV,zf,<-rk,U (RA f g O W W),e1,h,U (ju (qs _ _) (by rw[yQ];lia)<|by rw[yQ];lia),YA,xam hc]
theorem a7(f:X a<=1099511627776)(g:X a<fu):YI fu a b=Z (decide<|a=b):=by
 unfold YI;by_cases hl:X a=X b
 ·rw[zT,U (v:=if a=b then .inl ()else .inr ())]
  ·grind
  ·refine zA (λi:J=>∃k:K,i=(k:J)/\k<=X a/\a.take k=b.take k) (λi=>X a-i.toNat) _ ?_ _ _ ⟨0,O,W,O⟩ (by show X a-0<fu;lia);rintro i L ⟨k,rfl,j,c⟩ d;unfold dq;by_cases h1:k<X a
   ·rw[zT,zo h1,zf,zY,zf];by_cases e:a.getD k 0=b.getD k 0
    ·rw[zT,zb];refine d _ ⟨k+1,W,W,?_⟩ (by show X a-((k:J)+1).toNat<X a-(k:J).toNat;lia);rw[xeL,xeL,c,getD_some 0 h1,getD_some 0 (by lia:k<X b),e]
    ·grind
   ·rw[zB];obtain rfl:k=X a:=W
    rw[xcw,xaQ W]at c;rw[iq c]
 ·rw[zB,uT<|λh=>hl<|by rw[h]]
end
section
variable{fu:wr}{a b:Zr}{x:wl}
def zv(z:M):J:=if z.1=wF then-((nv z.2:K):J)else((nv z.2:K):J)
def yp(x:J):M:=(decide<|x<0,yB x.natAbs)
theorem zn(x:J):zv (yp x)=x:=by grind [yp,zv,yg]
def yG(x:J):zm (yp x).2:=zu _
theorem vO(z:M):(zv z).natAbs=nv z.2:=by unfold zv;split<;>omega
theorem zfp(s:wW)(n:K):(if s=wF then if 0<((X (yB n):K):J)then Z (wF,yB n)else Z (I,yB n)else Z (I,yB n))=Z (yp (if s=wF then-(n:J)else(n:J))):=by grind [yp,Mb,vD]
theorem yD{s:wW}{a:N K}(h:zm a)(hl:X a<=17592186044416)(c:X a<fu):xg fu s a=Z (yp (if s=wF then-((nv a:K):J)else((nv a:K):J))):=by
 unfold xg;rw[U<|Wj h hl c];exact zfp s _
theorem Vq{z:M}(h:zm z.2)(hl:X z.2<=17592186044416)(c:X z.2<fu):yX fu z=Z (yp<|zv z):=by
 unfold yX;rw[U<|a6 h hl c];exact zfp z.1 _
def bT{z:M}(h:zm z.2)(hl:X z.2<=17592186044416)(c:X z.2<fu):vE fu z=Z (yp<|zv z):=by
 unfold vE;rw[U<|yD h hl c];rfl
theorem BR(h0:0<=x)(h:x<18446744073709551616):((DE x:K):J)=x:=by unfold DE;omega
theorem bZ{x:K}(h:x<18446744073709551616):zm [x]:=zm.cons h zm.nil
theorem pW(x:K):nv [x]=x:=by simp[nv]
theorem UD(h:Jx x)(c:1<fu:=by omega):zS fu x=Z (yp x):=by grind [zS,DE,zf,U,yD,bZ,pW]
theorem ZB(h: -9223372036854775807<=x/\x<=9223372036854775807)(c:1<fu:=by omega):uA fu x=Z (yp x):=by grind [uA,zv,BR,lu,zf,U,Vq,bZ,pW]
theorem zaB(a b:M):(if(!(a.1==b.1))=wF then-((nv a.2*nv b.2:K):J)else((nv a.2*nv b.2:K):J))=zv a*zv b:=by grind [zv]
def gm(c:zm a.2)(d:zm b.2)(hc:X a.2<=1073741824)(hd:X b.2<=1073741824)(e:4*(X a.2+X b.2)+64<=fu):zF fu a b=Z (yp<|zv a*zv b):=by
 unfold zF;have hl:=Yl (xd c)<|xd d;rw[zf,U<|Qg c d hc hd e,U (yD (zu _) gC gC),yg,<-zaB]
def Dw(c:zm a.2)(d:zm b.2)(hc:X a.2<=268435456)(hd:X b.2<=268435456)(e:2*(X a.2+X b.2)+1<fu):ux fu a b=Z (yp<|zv a*zv b):=by
 unfold ux;have hl:=Yl (xd c)<|xd d;rw[zf,U<|B4 c d hc hd e,U<|Vq (zu _) (by show(yB _).length<=_;omega) (by show(yB _).length<_;omega)];rw[<-zaB];show Z (yp (if _ then-((nv (yB _):K):J)else((nv (yB _):K):J)))=_;rw[yg]
def AK(hl:X a.2<=1099511627776)(c:X a.2<fu):YP fu a b=Z (decide<|a=b):=by
 have⟨s,a⟩:=a;have⟨t,b⟩:=b;unfold YP;rw[zf];cases s<;>cases t
 ·simp only;rw[U<|a7 hl c];simp
 ·simp
 ·simp
 ·simp only;rw[U<|a7 hl c];simp
theorem zhK{a:J}{e b:K}(h:bl a.natAbs*e<=b*64):X (yB (a^e).natAbs)<=b+1:=by
 rw[zL,Int.natAbs_pow];have h1:a.natAbs^e<=(2^bl a.natAbs)^e:=Nat.pow_le_pow_left (xda<|B7 _) e;rw[<-xcz]at h1;have c:2^(bl a.natAbs*e)<=2^(64*b):=xav gS gC;rw[xcz 2 64 b]at c;grind
theorem zgd(i:K)(h:i<=65536):SV (i:J) 1=((i%2:K):J):=by grind [SV,sgn,DE]
theorem zle(i:K):xfV (i:J) (2^(min (((1:K):J)).toNat 64))=((i/2:K):J):=by grind
def zcJ{n:K}{a:J}(hn:n<=65536)(l:bl a.natAbs*n<=262144)(r:65600<fu):
 zg (aw fu) fu ((n:J),yp a,yp 1)=Z (yp<|a^n):=by
 have hc:∀e,e<=n->X (yB (a^e).natAbs)<=4097:=λe g=>zhK (b:=4096)<|xal (xaD _ g) l;refine zA (λs:J×M×M=>∃i d e:K,s=((i:J),yp<|a^d,yp<|a^e)/\e+d*i=n/\(0<i->d<=n)/\0<d) (λs=>s.1.toNat) _ ?_ _ _ ⟨n,1,0,by simp[xbY],gC,gC,gC⟩ (by show((n:J)).toNat<fu;omega);rintro s L ⟨i,d,e,rfl,g,hd,hi⟩ h;unfold aw;simp only;have c:∀p q,p<=n->q<=n->zF fu (yp<|a^p) (yp<|a^q)=Z (yp<|a^(p+q)):=by
  intro p q hp m;have h1:=hc p hp;have k:=hc q m;rw[gm (yG _) (yG _) (by show(yB _).length<=_;omega) (by show(yB _).length<=_;omega) (by show 4*(X (yB _)+X (yB _))+64<=fu;omega),zn,zn,Int.pow_add]
 by_cases h0:0<i
 ·have f:=hd h0;have t:i<=n:=by
   have:=xdV i hi;omega
  have j:d*i=d*(i/2)*2+d*(i%2):=by rw[xaP,<-xbk];congr 1;omega
  rw[zT,zf,zgd i gC];by_cases h1:i%2=1
  ·rw[zT];rw[h1,xdU]at j;rw[U<|c e d gC f];by_cases k:1<i
   ·have o:d*1<=d*(i/2):=xaD d gC;rw[zT,U<|c d d f f,zf,zle];refine h _ ⟨i/2,d+d,e+d,O,?_,gC,gC⟩ (by show((i/2:K):J).toNat<(i:J).toNat;omega);rw[xbb];omega
   ·rw[zB,zf,zle];refine h _ ⟨i/2,d,e+d,O,?_,gC,gC⟩ (by show((i/2:K):J).toNat<(i:J).toNat;omega);rw[(gC:i/2=0),xcK]at j⊢;omega
  ·rw[zB];rw[(gC:i%2=0),xcK,xbK]at j;by_cases k:1<i
   ·have o:d*1<=d*(i/2):=xaD d gC;rw[zT,U<|c d d f f,zf,zle];refine h _ ⟨i/2,d+d,e,O,?_,gC,gC⟩ (by show((i/2:K):J).toNat<(i:J).toNat;omega);rw[xbb];omega
   ·omega
 ·rw[zB];obtain rfl:i=0:=gC
  rw[xcK,xbK]at g;rw[g]
theorem EU{n:K}{z:M}(h:zm z.2)(hl:X z.2<=1000000)(hn:n<=65536)(d:1000100<fu):
 UB fu z (n:J)=Z (if 262144<bl (nv z.2)*n then((I,[]),6)else(yp<|zv z^n,0)):=by
 unfold UB;have c:=zgE h hl;have f:=xbo c hn;have e:((bl (nv z.2):K):J)*n=((bl (nv z.2)*n:K):J):=gT
 rw[zB,zB,U O];simp only[xak,ut];rw[U (WC h gC gC),zb];by_cases h1:262144<bl (nv z.2)*n
 ·grind
 ·rw[zB,ir h1,U (UD gS gC),U (bT h gC gC),U<|zcJ hn (by rw[vO];omega) gC]
end
section
variable{d fu:wr}{p:wl}
def jx(p:K):Prop:=∀d,2<=d->d*d<=p->p%d≠0
open Classical in
noncomputable def vF(p:J):wW:=decide<|2<=p/\p<=65521/\jx p.toNat
open Classical in
def zan{p:J}(h:2<=p/\p<=65521/\jx p.toNat):vF p=wF:=by unfold vF;exact Z3 h
open Classical in
def GB{p:J}(h:¬(2<=p/\p<=65521/\jx p.toNat)):vF p=I:=by unfold vF;exact uT h
def zbI(d:K):(d:J)*(d:J)=((d*d:K):J):=gT
def zj3{p:K}(h:p<=65521)(hd:d<=300:=by lia):d*d<=90000:=xal (xbo hd hd) gS
def zjZ{p:K}(h:p<=65521)(hd:d*d<=p):d<256:=by
 obtain h1|h1:=xbW d 256
 ·exact h1
 ·have:=xbo h1 h1;lia
def TX{p:K}(h:p<=65521)(m:400<fu):(jx p->zg (Zf fu (p:J)) fu (wF,2)=Z wF)/\(¬jx p->zg (Zf fu (p:J)) fu (wF,2)=Z I):=by
 constructor
 ·intro hn;refine zA (λi:wW×J=>∃d:K,i=(wF,(d:J))/\2<=d/\d<=256) (λi=>300-i.2.toNat) _ ?_ _ _ ⟨2,O,W,W⟩ (by show 300-2<fu;lia);rintro i L ⟨d,rfl,j,c⟩ f;unfold Zf;simp only[uL];have k:=zj3 h (d:=d);rw[zbI,zb];by_cases a:d*d<=p
  ·have b:=hn d j a;have:=zjZ h a;have e:xca (p:J) (d:J)=((p%d:K):J):=O;rw[zT,yV,zf,e,zB,zb];exact f _ ⟨d+1,O,W,W⟩ (by show 300-((d:J)+1).toNat<300-(d:J).toNat;lia)
  ·rw[zB]
 ·intro hn;have⟨d0,g⟩:=Classical.not_forall.1 hn;have⟨hc,g⟩:=Classical.not_imp.1 g;have⟨a,b⟩:=Classical.not_imp.1 g;have b:p%d0=0:=Classical.not_not.1 b;have n:=zjZ h a;refine zA (λi:wW×J=>∃d:K,i=(wF,(d:J))/\2<=d/\d<=d0) (λi=>300-i.2.toNat) _ ?_ _ _ ⟨2,O,W,W⟩ (by show 300-2<fu;lia);rintro i L ⟨d,rfl,j,c⟩ f;unfold Zf;simp only[uL];have k:=zj3 h (d:=d);have hd:=xbo c c;rw[zbI,zb];have e:xca (p:J) (d:J)=((p%d:K):J):=O;rw[zT,yV,zf,e];by_cases l:p%d=0
  ·rw[zT]
  ·rw[zB,zb];refine f _ ⟨d+1,O,W,?_⟩ (by show 300-((d:J)+1).toNat<300-(d:J).toNat;lia);obtain h8|h8:=xbW d d0
   ·exact h8
   ·exact wR (by rw[(W:d=d0)];exact b) l
theorem Wo(f:400<fu):uq fu p=Z (vF p):=by
 unfold uq;have e:zg (Zf fu p) fu (I,2)=Z I:=by
  obtain⟨k,rfl⟩:∃k,fu=k+1:=⟨fu-1,W⟩;rfl
 by_cases a:2<=p
 ·rw[iq a];by_cases b:p<=65521
  ·rw[iq b,U O];obtain⟨q,rfl⟩:=xaA (by lia:0<=p);have⟨l1,g⟩:=TX (p:=q) W f;by_cases c:jx q
   ·rw[U<|l1 c,zan ⟨a,b,c⟩]
   ·rw[U<|g c,GB (p:=q)<|λh=>c h.2.2]
  ·rw[ir b,U O,U e];rw[GB<|λh=>b h.2.1]
 ·rw[ir a,U O,U e];rw[GB<|λh=>a h.1]
noncomputable def oH(p k:J):M×J:=if vF p=wF/\1<=k/\k<=1000 then(yp<|p^k.toNat,0)else((I,[]),1)
def zz(h:vF p=wF):2<=p/\p<=65521:=by
 refine xae λhn=> ?_;rw[GB<|λh=>hn ⟨h.1,h.2.1⟩]at h;cases h
def zlh(h:vF p=wF):bl (nv (yp p).2)<=16:=by
 have:=zz h;refine JD ?_;show nv (yB p.natAbs)<_;rw[yg];lia
def zjy{x:J}(h:x.natAbs<18446744073709551616):(yp x).2.length<=1:=by
 show(yB _).length<=1;rw[zL];lia
theorem k9{k:J}(c:3000000<fu):v7 fu p k=Z (oH p k):=by
 unfold v7 oH;rw[U<|Wo W];by_cases h1:vF p=wF
 ·have e:=zz h1;rw[ir<|by simp[h1]];by_cases a:k<1
  ·grind
  ·rw[ir a];by_cases b:1000<k
   ·simp_all
   ·obtain⟨n,rfl⟩:=xaA (by lia:0<=k);have hl:=zjy (x:=p) W;have f:bl (nv (yp p).2)*n<=16*1000:=xbo (zlh h1) W;rw[ir b,UT ⟨h1,W,W⟩,U<|UD ⟨W,W⟩,U (EU (yG p) W W W),zB,zn];rfl
 ·simp_all
end
section
variable{fu k j:wr}{a b:Zr}{x y:wl}
theorem dH{a b:J}:ue fu a b=Z (jt a b):=by grind [ue,ZV,U,qe,vo,jU]
theorem K8{a b:K}:qD fu a b=Z (jt a b):=by grind [qD,jW,U,qe,vo,jU]
theorem aG{a b:N K}(f:zm a)(g:zm b)(n:X a<=1000000:=by lia)(o:X b<=1000000:=by lia)(p:2000000<fu:=by lia):XU fu a b=Z (jt (nv a:K) (nv b:K)):=by
 unfold XU;have h1:=xd f;have q:=xd g;rw[U (xW f W W),U<|xW g W W];generalize nv a=x at*
 generalize nv b=y at*
 by_cases h:X (yB x)=X (yB y)
 ·rw[zT,zb];by_cases hc:x=y
  ·subst hc;rw[U (v:=.inl ())]
   ·rw[jU O]
   ·refine zA (λi:J=>∃m:K,i=(m:J)-1/\m<=X (yB x)) (λi=>(i+1).toNat) _ ?_ _ _ ⟨_,O,Nm _⟩ W;rintro i L ⟨m,rfl,l⟩ d;unfold cJ;by_cases h0:m=0
    ·rw[zB]
    ·have e:(m:J)-1=((m-1:K):J):=W
     rw[zT,e,zY,zf,zY,zf,iq O,zb];exact d _ ⟨m-1,O,W⟩ W
  ·rw[U (v:=.inr<|jt x y)];refine zA (λi:J=>∃m:K,i=(m:J)-1/\m<=X (yB x)/\x/18446744073709551616^m=y/18446744073709551616^m) (λi=>(i+1).toNat) _ ?_ _ _ ⟨_,O,Nm _,zev h⟩ W;rintro i L ⟨m,rfl,l,c⟩ d;unfold cJ;by_cases h0:m=0
   ·subst h0;rw[xeH,xdK,xdK]at c;exact wR c hc
   ·have e:(m:J)-1=((m-1:K):J):=W
    rw[zT,e,zY,zf,zY,zf];by_cases hd:(yB x).getD (m-1) 0=(yB y).getD (m-1) 0
    ·rw[iq (by rw[hd]),zb];exact d _ ⟨m-1,O,W,zd0 W c hd⟩ W
    ·rw[zB,zY,zf,zY,zf,U K8,zdg W c hd]
 ·rw[zB,U dH,zh5 h]
def U7(z:M):Prop:=zm z.2/\X z.2<=100000
def Bz(k:K)(x:J):Prop:=x.natAbs<18446744073709551616^k
def Bz.ok(h:Bz k x)(c:k<=100000):U7 (yp x):=⟨yG x,xal ((zL _ _).2 h) c⟩
theorem Bz.of{z:M}(h:zm z.2):Bz (X z.2) (zv z):=by grind [Bz,vO,vH]
def Bz.mono(h:Bz j x)(c:j<=k):Bz k x:=xao h<|xav gS c
def U7.bz{z:M}(h:U7 z):Bz 100000 (zv z):=(Bz.of h.1).mono h.2
theorem Bz.neg(h:Bz k x):Bz k (-x):=by unfold Bz at*;rw[xfC];exact h
theorem Bz.add(c:Bz k x)(d:Bz k y):Bz (k+1) (x+y):=by grind [Bz]
theorem Bz.sub(c:Bz k x)(d:Bz k y):Bz (k+1) (x-y):=by grind [Bz.add,Bz.neg]
def Bz.mul(c:Bz j x)(d:Bz k y):Bz (j+k) (x*y):=by unfold Bz at*;rw[xcC,xbz];exact xdL c d
def Bz.le(c:Bz k y)(h:x.natAbs<=y.natAbs):Bz k x:=xaK h c
theorem xT(z:M):(z.1=wF/\zv z= -((nv z.2:K):J))\/(z.1=I/\zv z=((nv z.2:K):J)):=by grind [zv]
theorem ZT{z:M}(h:U7 z)(c:3000000<=fu):vE fu z=Z (yp<|zv z):=bT h.1 (by have:=h.2;lia) (by have:=h.2;lia)
def KI{z:M}(h:U7 z)(d:3000000<=fu):jR fu z=Z (yp (-zv z)):=by
 unfold jR;have:=h.2;rw[U<|yD h.1 W W];rcases xT z with⟨h1,c⟩|⟨h1,c⟩<;>rw[h1,c]<;>simp
theorem qL(e:U7 a)(f:U7 b)(o:3000000<=fu):vt fu a b=Z (yp<|zv a+zv b):=by
 unfold vt;have l:=e.2;have m:=f.2;have p:X (yB<|nv a.2+nv b.2)<=100001:=uz (xal (xd e.1) l)<|xal (xd f.1) m;rw[zf];by_cases i:a.1=b.1
 ·rw[iq (by simp[i]),U<|Zk e.1 f.1,U (yD (zu _) W W),yg];rcases xT a with⟨h1,c⟩|⟨h1,c⟩<;>rcases xT b with⟨g,d⟩|⟨g,d⟩
  ·grind
  ·simp_all
  ·rw[h1,g]at i;cases i
  ·rw[h1,c,d,ir gS];congr 2
 ·rw[ir<|by simp[i]];rw[U<|aG e.1 f.1];by_cases hc:nv a.2<nv b.2
  ·have hd:X (yB<|nv b.2-nv a.2)<=100000:=xal (Q6<|xfa _ _)<|xal (xd f.1) m;rw[qe W,iq gS,U O];simp only;rw[U (Qw f.1 e.1 W W W),zB];simp only;rw[U (yD (zu _) W W),yg];rcases xT a with⟨h1,c⟩|⟨h1,c⟩<;>rcases xT b with⟨g,d⟩|⟨g,d⟩<;>rw[g,c,d]<;>simp_all
   ·congr 1;lia
   ·congr 1;lia
  ·have hd:X (yB<|nv a.2-nv b.2)<=100000:=xal (Q6<|xfa _ _)<|xal (xd e.1) l;have n:¬jt ((nv a.2:K):J) ((nv b.2:K):J)<0:=by
    rcases xbW (nv b.2) (nv a.2)with h|h
    ·rw[vo W];decide
    ·rw[jU W];decide
   rw[ir n,U O];simp only;rw[U (Qw e.1 f.1 W W W),zB];simp only;rw[U (yD (zu _) W W),yg];rcases xT a with⟨h1,c⟩|⟨h1,c⟩<;>rcases xT b with⟨g,d⟩|⟨g,d⟩<;>rw[h1,c,d]<;>simp_all
   ·congr 1;lia
   ·congr 1;lia
def qO(e:U7 a)(c:U7 b)(d:3000000<=fu):vT fu a b=Z (yp<|zv a-zv b):=by
 unfold vT;have h1:=(Bz.neg c.bz).ok<|Nm _;rw[U<|KI c d,U<|qL e h1 d,zn];congr 2
theorem eK:0<(((yp x).2.length:K):J)↔x≠0:=by grind [yp,Mb,vD]
theorem Wh(x:J):(yp x).1=wF↔x<0:=by unfold yp;simp
theorem xn{z:M}(h:U7 z)(c:3000000<=fu):xv fu z=Z (jt (zv z) 0):=by grind [xv,U,ZT,Wh,lu,qe,eK,jU,vo]
theorem PG(x y:J):jt (x-y) 0=jt x y:=by grind [qe,jU,vo]
def ZC(c:U7 a)(d:U7 b)(e:3000000<=fu)(hl:X a.2<=99999:=by lia)(hc:X b.2<=99999:=by lia):jQ fu a b=Z (jt (zv a)<|zv b):=by
 unfold jQ;have h1:=((Bz.of c.1).mono hl).sub<|(Bz.of d.1).mono hc;rw[U<|qO c d e,U<|xn (h1.ok<|Nm _) e,zn,PG]
def yv(c:U7 a)(d:U7 b)(e:3000000<=fu):zF fu a b=Z (yp<|zv a*zv b):=by
 have:=c.2;have:=d.2;exact gm c.1 d.1 W W W
def ym(h:Jx x)(c:3000000<=fu):zS fu x=Z (yp x):=UD h
end
section
variable{fu k B i:wr}{a x y t:xS wr}{b:Zr}
theorem xG:vY fu a (k:J)=Z (a.getD k 0):=by grind [vY,zo,zf]
def zbP{x y:K}(d:0<B)(h:x/B^(k+1)=y/B^(k+1))(hd:x/B^k%B<y/B^k%B):x<y:=by
 have h1:=Ja x B k d;have f:=Ja y B k d;rw[h]at h1;refine xdf λe=> ?_;have:=Nat.div_le_div_right (c:=B^k) e;omega
theorem ziE{x y:K}(c:0<B)(h:x/B^(k+1)=y/B^(k+1))(hd:x/B^k%B=y/B^k%B):x/B^k=y/B^k:=by grind [Ja]
theorem QP{b:N K}(h:xf a)(j:xf b)(n:X a<=1000000)(o:X b<=1000000)(p:2000000<fu):ku fu a b=Z (jt (nw a:K) (nw b:K)):=by
 unfold ku;have e1:max (X a:J) (X b:J)=((max (X a) (X b):K):J):=gC
 rw[zf,e1,zb];have t0:nw a/4294967296^(max (X a) (X b))=nw b/4294967296^(max (X a) (X b)):=by
  have h1:nw a<4294967296^(max (X a) (X b)):=xao (VS h)<|xav gS<|xeo _ _;have d:nw b<4294967296^(max (X a) (X b)):=xao (VS j)<|xav gS<|xdY _ _;rw[xbg h1,xbg d]
 have g1:∀k,a.getD k 0=nw a/4294967296^k%4294967296:=ab h;have c:∀k,b.getD k 0=nw b/4294967296^k%4294967296:=ab j;by_cases hc:nw a=nw b
 ·rw[U (v:=.inl ())]
  ·rw[hc,jU O]
  ·refine zA (λi:J=>∃m:K,i=(m:J)-1/\m<=max (X a) (X b)) (λi=>(i+1).toNat) _ ?_ _ _ ⟨_,O,Nm _⟩ gC;rintro i L ⟨m,rfl,l⟩ f;unfold YL;by_cases h0:m=0
   ·rw[zB]
   ·have e:(m:J)-1=((m-1:K):J):=gC
    rw[zT,e,U xG,U xG,g1,c,hc,zB,U xG,U xG,g1,c,hc,zB,zb];exact f _ ⟨m-1,O,gC⟩ gC
 ·rw[U (v:=.inr<|jt (nw a:K) (nw b:K))];refine zA (λi:J=>∃m:K,i=(m:J)-1/\m<=max (X a) (X b)/\nw a/4294967296^m=nw b/4294967296^m) (λi=>(i+1).toNat) _ ?_ _ _ ⟨_,O,Nm _,t0⟩ gC;rintro i L ⟨m,rfl,l,g⟩ f;unfold YL;by_cases h0:m=0
  ·subst h0;rw[xeH,xdK,xdK]at g;exact wR g hc
  ·have e:(m:J)-1=((m-1:K):J):=gC
   have hd:nw a/4294967296^(m-1+1)=nw b/4294967296^(m-1+1):=by rw[(gC:m-1+1=m)];exact g
   rw[zT,e,U xG,U xG];by_cases h1:a.getD (m-1) 0<b.getD (m-1) 0
   ·rw[zT,qe];rw[g1,c]at h1;have:=zbP gS hd h1;omega
   ·rw[zB,U xG,U xG];by_cases d:b.getD (m-1) 0<a.getD (m-1) 0
    ·rw[zT,vo];rw[g1,c]at d;have:=zbP gS hd.symm d;omega
    ·rw[zB,zb];refine f _ ⟨m-1,O,gC,ziE gS hd ?_⟩ gC;rw[<-g1,<-c];omega
theorem Ml{c:K}(d:X t=i)(h:nw t+4294967296^i*c=nw (x.take i)+nw (y.take i)):
 nw (t++[(x.getD i 0+y.getD i 0+c)%4294967296])+4294967296^(i+1)*((x.getD i 0+y.getD i 0+c)/4294967296)=nw (x.take<|i+1)+nw (y.take<|i+1):=by grind [Bm,jY,xbt]
theorem dn{b:N K}(e:zm a)(f:zm b)(r:X a<=200000)(u:X b<=200000)(w:2000000<fu):WH fu a b=Z (yB<|nv a+nv b):=by
 unfold WH;rw[U (xQ e gC gC),U<|xQ f gC gC];have l1:=W0 e;have z:=W0 f;have g:=vS<|nv a;have j:=vS<|nv b;have v1:=qm<|nv a;have m:=qm<|nv b;generalize Va (nv a)=x at*
 generalize Va (nv b)=y at*
 have⟨n,hn⟩:∃n,n=max (X x) (X y)+1:=⟨_,O⟩;have hd:nw x+nw y<4294967296^n:=by
  have h1:nw x<4294967296^(max (X x) (X y)):=xao (VS g)<|xav gS<|xeo _ _;have A:nw y<4294967296^(max (X x) (X y)):=xao (VS j)<|xav gS<|xdY _ _;rw[hn,xbf];omega
 rw[U (v:=ki n<|nw x+nw y)]
 ·rw[U (ju (qs _ _) (by rw[yQ];omega)<|by rw[yQ];omega),YA,xam hd,v1,m]
 ·refine zA (λs:N K×K×J=>∃(t:N K) (c i:K),s=(t,c,(i:J))/\i<=n/\X t=i/\xf t/\c<=1/\nw t+4294967296^i*c=nw (x.take i)+nw (y.take i)) (λs=>n-s.2.2.toNat) _ ?_ _ _ ⟨[],0,0,O,gC,O,xf.nil,gC,by simp[nw]⟩ (by show n-0<fu;omega);rintro s L ⟨t,c,i,rfl,hi,d,l,hc,hv⟩ o;unfold gB;simp only;have e1:max (X x:J) (X y:J)=((max (X x) (X y):K):J):=gC
  rw[zf,e1,zb];by_cases h1:i<n
  ·have b1:=g.getD i;have b2:=j.getD i;have p:((x.getD i 0+y.getD i 0)%18446744073709551616+c)%18446744073709551616=x.getD i 0+y.getD i 0+c:=gC
   rw[zT,U xG,U xG,zf,zf,zf,C6,p,xB (by simp[d];omega),zf,zf,DV,zb];refine o _ ⟨_,_,i+1,O,gC,by simp[d],l.append<|xf.cons (xaS _ gS) xf.nil,gC,Ml d hv⟩ (by show n-((i:J)+1).toNat<n-(i:J).toNat;omega)
  ·rw[zB];obtain rfl:i=n:=gC
   rw[xaQ gC,xaQ gC]at hv;have hp:0<4294967296^i:=xaU gS;have q:c=0:=by
    obtain h|h:=xcB c
    ·exact h
    ·have:4294967296^i*1<=4294967296^i*c:=xaD _ h;omega
   subst q;rw[xcK,xbK]at hv;rw[<-hv,<-d,U9 l]
theorem EV{b D:K}(c:X t=i)(d:D+y.getD i 0+b=x.getD i 0+4294967296)(h:nw t+nw (y.take i)=nw (x.take i)+4294967296^i*b)(e:D<8589934592):
 nw (t++[D%4294967296])+nw (y.take<|i+1)=nw (x.take<|i+1)+4294967296^(i+1)*(1-D/4294967296):=by
 rw[Bm,c,jY,jY,xbf];have hd:D/4294967296=0\/D/4294967296=1:=gC
 have e1:4294967296^i*(D%4294967296)+4294967296^i*y.getD i 0+4294967296^i*b+4294967296^i*4294967296*(D/4294967296)=4294967296^i*x.getD i 0+4294967296^i*4294967296:=by
  rw[xaP,<-xbk,<-xbk,<-xbk,<-xbk];grind
 grind
def aN(f:xf x)(g:xf y)(hl:X x<=1000000)(r:2000000<fu)(h:nw y<=nw x):YO fu x y=Z (Va<|nw x-nw y):=by
 unfold YO;have u:=VS f;have j:nw (y.take (X x))=nw y:=by rw[Ld g,xam gC]
 have d:∃t,xf t/\X t=X x/\nw t=nw x-nw y/\zg (Jm fu x y) fu ([],0,0)=Z t:=by
  refine⟨ki (X x)<|nw x-nw y,qs _ _,yQ _ _,by rw[YA,xam gC],?_⟩;refine zA (λs:N K×K×J=>∃(t:N K) (b i:K),s=(t,b,(i:J))/\i<=X x/\X t=i/\xf t/\b<=1/\nw t+nw (y.take i)=nw (x.take i)+4294967296^i*b) (λs=>X x-s.2.2.toNat) _ ?_ _ _ ⟨[],0,0,O,gC,O,xf.nil,gC,by simp[nw]⟩ (by show X x-0<fu;omega);rintro s L ⟨t,b,i,rfl,hi,c,e,v,hv⟩ l;unfold Jm;simp only;by_cases h1:i<X x
  ·have b1:=f.getD i;have b2:=g.getD i;have⟨D,hd⟩:∃D,D=x.getD i 0+4294967296-y.getD i 0-b:=⟨_,O⟩;have m:(((x.getD i 0+4294967296)%18446744073709551616+18446744073709551616-y.getD i 0)%18446744073709551616+18446744073709551616-b)%18446744073709551616=D:=gC
   have n:(1+18446744073709551616-D/2^32)%18446744073709551616=1-D/4294967296:=gC
   rw[zT,U xG,zf,U xG,zf,zf,zf,C6,m,xB (by simp[c];omega),zf,zf,DV,zf,n,zb];exact l _ ⟨_,_,i+1,O,gC,by simp[c],e.append<|xf.cons (xaS _ gS) xf.nil,gC,EV c gC hv gC⟩ (by show X x-((i:J)+1).toNat<X x-(i:J).toNat;omega)
  ·rw[zB];obtain rfl:i=X x:=gC
   rw[j,xcw]at hv;have o:=VS e;rw[c]at o;have hc:b=0:=by
    obtain h|h:=xcB b
    ·exact h
    ·have:4294967296^X x*1<=4294967296^X x*b:=xaD _ h;omega
   subst hc;rw[xcK,xbK]at hv;rw[(gC:nw x-nw y=nw t),<-c,U9 e]
 have⟨t,k1,k2,p,q⟩:=d;rw[U q,U (Q1 k1 gC gC),p]
def Q3{b:N K}(c:zm a)(d:zm b)(hd:X a<=200000)(j:X b<=200000)(e:2000000<fu):
 Yu fu a b=Z (if nv a<nv b then([],1)else(yB<|nv a-nv b,0)):=by
 unfold Yu;rw[U (xQ c gC gC),U<|xQ d gC gC];have l1:=W0 c;have l:=W0 d;have f:=vS<|nv a;have g:=vS<|nv b;rw[U<|QP f g gC gC e,qm,qm];by_cases h:nv a<nv b
 ·rw[qe gC,iq gS,iq h]
 ·have hc:¬jt ((nv a:K):J) ((nv b:K):J)<0:=by
   rcases xbW (nv b) (nv a)with h|h
   ·rw[vo gC];decide
   ·rw[jU gC];decide
  have m:X (Va<|nv a-nv b)<=2*X a:=by
   rw[w6,CW];exact xaK (xfa _ _)<|vH c
  rw[ir hc,ir h,U (aN f g gC e<|by rw[qm,qm];omega),qm,qm,U (ju (vS _) gC gC),qm]
def yM{z:M}(h:zm z.2)(hl:X z.2<=200000)(c:3000000<=fu):yX fu z=Z (yp<|zv z):=Vq h gC gC
def DI(s:wW)(n:K):zv (s,yB n)=if s=wF then-(n:J)else(n:J):=by unfold zv;rw[yg]
def dK{z:M}(h:U7 z)(c:3000000<=fu):W7 fu z=Z (yp (-zv z)):=by
 unfold W7;have:=h.2;rw[U<|yM (z:=(!z.1,z.2)) h.1 (by show X z.2<=_;omega) c];rcases xT z with⟨h1,d⟩|⟨h1,d⟩
 ·skip;unfold zv;simp[h1]
 ·skip;unfold zv;simp[h1]
theorem YU{a:M}(g:U7 a)(h:U7 b)(j:3000000<=fu):uF fu a b=Z (yp<|zv a+zv b):=by
 unfold uF;have l:=g.2;have m:=h.2;have n:X (yB<|nv a.2+nv b.2)<=100001:=uz (xal (xd g.1) l)<|xal (xd h.1) m;rw[zf];by_cases d:a.1=b.1
 ·rw[iq (by simp[d]),U (dn g.1 h.1 gC gC gC),U<|yM (z:=(a.1,yB<|nv a.2+nv b.2)) (zu _) (by show(yB _).length<=_;omega) j,DI];rcases xT a with⟨h1,e⟩|⟨h1,e⟩<;>rcases xT b with⟨c,f⟩|⟨c,f⟩
  ·grind
  ·simp_all
  ·simp_all
  ·rw[h1,e,f,ir gS];congr 2
 ·rw[ir (by simp[d]),U<|Q3 g.1 h.1 gC gC gC];by_cases hc:nv a.2<nv b.2
  ·have hd:X (yB<|nv b.2-nv a.2)<=100000:=xal (Q6<|xfa _ _)<|xal (xd h.1) m;rw[iq hc];simp only;rw[ir gS,U (Q3 h.1 g.1 gC gC gC),zB];simp only;rw[U<|yM (z:=(b.1,yB<|nv b.2-nv a.2)) (zu _) (by show(yB _).length<=_;omega) j,DI];rcases xT a with⟨h1,e⟩|⟨h1,e⟩<;>rcases xT b with⟨c,f⟩|⟨c,f⟩
   ·rw[h1,c]at d;exact wR O d
   ·rw[c,e,f,ir gS];congr 2;omega
   ·rw[c,e,f,iq O];congr 2;omega
   ·rw[h1,c]at d;exact wR O d
  ·have hd:X (yB<|nv a.2-nv b.2)<=100000:=xal (Q6<|xfa _ _)<|xal (xd g.1) l;rw[ir hc];simp only;rw[iq wS,U<|yM (z:=(a.1,yB<|nv a.2-nv b.2)) (zu _) (by show(yB _).length<=_;omega) j,DI];rcases xT a with⟨h1,e⟩|⟨h1,e⟩<;>rcases xT b with⟨c,f⟩|⟨c,f⟩
   ·rw[h1,c]at d;exact wR O d
   ·rw[h1,e,f,iq O];congr 2;omega
   ·rw[h1,e,f,ir gS];congr 2;omega
   ·rw[h1,c]at d;exact wR O d
def DM{a:M}(e:U7 a)(c:U7 b)(d:3000000<=fu):JN fu a b=Z (yp<|zv a-zv b):=by
 unfold JN;have h1:=(Bz.neg c.bz).ok<|Nm _;rw[U<|dK c d,U<|YU e h1 d,zn];congr 2
def kv{z:M}(h:U7 z)(d:3000000<=fu):qK fu z=Z (jt (zv z) 0):=by
 unfold qK;have:=h.2;rw[U<|yM h.1 gC d];by_cases h1:zv z<0
 ·rw[iq<|(Wh _).2 h1,qe h1]
 ·rw[ir<|λe=>h1<|(Wh _).1 e];by_cases c:zv z=0
  ·rw[ir<|λe=>eK.1 e c,jU c]
  ·rw[iq<|eK.2 c,vo gC]
def Ee{a:M}(c:U7 a)(d:U7 b)(e:3000000<=fu)(hl:X a.2<=99999)(hc:X b.2<=99999):Kd fu a b=Z (jt (zv a)<|zv b):=by
 unfold Kd;have h1:=((Bz.of c.1).mono hl).sub<|(Bz.of d.1).mono hc;rw[U<|DM c d e,U<|kv (h1.ok<|Nm _) e,zn,PG]
def VG{a:M}(c:U7 a)(d:U7 b)(e:3000000<=fu):ux fu a b=Z (yp<|zv a*zv b):=by
 have:=c.2;have:=d.2;exact Dw c.1 d.1 gC gC gC
end
section
variable{b v1 v0 u w q r fu x y s lo:wr}
theorem zhi(a:q*v1+r=u)(h:q*v0<=b*r+w):q*(v1*b+v0)<=u*b+w:=by grind [xbk,xaP,xbb,xaO]
theorem zcT(a:q*v1+r=u)(h:b*r+w<q*v0):u*b+w<q*(v1*b+v0):=by grind [xbk,xaP,xbb,xaO]
def r7(hv:0<v1*b+v0)(a:q*v1+r=u)(hc:(u*b+w)/(v1*b+v0)<=q:=by lia)(h:q*v0<=b*r+w:=by lia):q=(u*b+w)/(v1*b+v0):=
 xcR ((xcD hv).2<|zhi a h) hc
theorem zhj(hv:0<v1*b+v0)(a:q*v1+r=u)(h:b*r+w<q*v0):(u*b+w)/(v1*b+v0)<=q-1/\0<q/\(q-1)*v1+(r+v1)=u:=by
 have h0:0<q:=by
  obtain h0|h0:=xcB q
  ·simp_all
  ·exact h0
 have h1:=(xaX hv).2<|zcT a h;obtain⟨p,rfl⟩:∃p,q=p+1:=⟨q-1,W⟩;grind
theorem Tn(a:u<v1*b+v0)(c:v0<b)(hc:q*v1+r=u)(d:b<=r):q<b:=by
 refine xdf λh=> ?_;have:b*v1<=q*v1:=xan _ h;grind
def SF(a:q<b)(c:v0<b)(d:b<=r):q*v0<=b*r+w:=by
 have h1:=xbo (xda a)<|xda c;have e:b*b<=b*r:=xaD _ d;lia
theorem UF(a:u<v1*b+v0)(c:w<b:=by lia):(u*b+w)/(v1*b+v0)<b:=by
 have hv:0<v1*b+v0:=W
 rw[xaX hv];have:(u+1)*b<=(v1*b+v0)*b:=xan _ a;grind
def DX{β:Type}(mk:K->K->β)(ms:β->K)(hc:∀q r,ms (mk q r)=2-r/2147483648){f:(β->V K)->β->V K}(h1:2147483648<=v1)(C:v1<4294967296)(h0:v0<4294967296)(g:u<v1*4294967296+v0)(m:w<4294967296)(D:10<fu)(n:∀(q r:K) (L:β->V K),q<18446744073709551616->r<4294967296->q*v0<18446744073709551616\/4294967296<=q->
 f L (mk q r)=if 4294967296<=q then(if 4294967296<=r+v1 then Z (q-1)else L (mk (q-1)<|r+v1))else if 4294967296*r+w<q*v0 then(if 4294967296<=r+v1 then Z (q-1)else L (mk (q-1)<|r+v1))else Z q):
 zg f fu (mk (u/v1)<|u%v1)=Z ((u*4294967296+w)/(v1*4294967296+v0)):=by
 have hv:0<v1*4294967296+v0:=W
 have E:=UF g m;have hi:u/v1<18446744073709551616:=by
  rw[xaX W];lia
 refine zA (λs:β=>∃q r,s=mk q r/\q<18446744073709551616/\r<4294967296/\q*v1+r=u/\(u*4294967296+w)/(v1*4294967296+v0)<=q) ms _ ?_ _ _ ⟨_,_,O,hi,?_,?_,?_⟩<|by rw[hc];lia
 ·rintro s L ⟨q,r,rfl,o,t,i,v⟩ k;have z:q*v0<18446744073709551616\/4294967296<=q:=by
   obtain h|h:=xbW q 4294967296
   ·left;exact xdL (a:=q) (b:=v0) (c:=4294967296) (d:=4294967296) h h0
   ·exact .inr h
  rw[n q r L o t z];by_cases l:4294967296<=q
  ·rw[iq l];have hd:(q-1)*v1+(r+v1)=u:=by
    obtain⟨p,rfl⟩:∃p,q=p+1:=⟨q-1,W⟩;rw[xbb]at i;simp only[xfi];lia
   by_cases e:4294967296<=r+v1
   ·rw[iq e,<-r7 hv hd W<|SF (Tn g h0 hd e) h0 e]
   ·rw[ir e];exact k _ ⟨_,_,O,W,W,hd,W⟩<|by rw[hc,hc];lia
  ·rw[ir l];by_cases j:4294967296*r+w<q*v0
   ·have⟨d1,d2,d3⟩:=zhj hv i j;rw[iq j];by_cases e:4294967296<=r+v1
    ·rw[iq e,<-r7 hv d3 d1<|SF (Tn g h0 d3 e) h0 e]
    ·rw[ir e];exact k _ ⟨_,_,O,W,W,d3,d1⟩<|by rw[hc,hc];lia
   ·rw[ir j,<-r7 hv i v]
 ·have:=xaS u (W:0<v1);lia
 ·rw[xaO];exact xbt u v1
 ·rw[xcD W];have B:(u*4294967296+w)/(v1*4294967296+v0)*(v1*4294967296+v0)<=u*4294967296+w:=xcS _ _;generalize(u*4294967296+w)/(v1*4294967296+v0)=Q at*
  rw[xbk,<-xaP]at B;generalize Q*v1=A at*
  lia
theorem Mv(h:y<2^s):x*2^s|||y=x*2^s+y:=by grind [xaO,Nat.two_pow_add_eq_or_of_lt]
def P7(h0:0<y)(h:y<18446744073709551616):bl y<=64/\9223372036854775808<=y*2^(64-bl y)/\y*2^(64-bl y)<18446744073709551616:=by
 have h1:=JD (k:=64) (by simpa using h);have a:=B7 y;refine⟨h1,?_,?_⟩
 ·have hp:1<=bl y:=by rw[de h0];lia
  have c:2^(bl y-1)<=y:=by
   refine xbu λhc=> ?_;have:=JD hc;lia
  have e:9223372036854775808=2^(bl y-1)*2^(64-bl y):=by rw[<-xbz,(W:bl y-1+(64-bl y)=63)]
  rw[e];exact xan _ c
 ·have e:18446744073709551616=2^bl y*2^(64-bl y):=by rw[<-xbz,(W:bl y+(64-bl y)=64)]
  rw[e];exact xbX a<|xaU gS
def OE(a:lo<18446744073709551616)(c:s<=64):lo*2^s=lo/2^(64-s)*18446744073709551616+lo*2^s%18446744073709551616/\lo/2^(64-s)<2^s:=by
 have e:18446744073709551616=2^(64-s)*2^s:=by rw[<-xbz,(W:64-s+s=64)]
 have hp:0<2^s:=xaU gS;have d:lo*2^s/18446744073709551616=lo/2^(64-s):=by rw[e,xfG _ _ hp]
 refine⟨W,?_⟩;rw[xaX (xaU gS),xaO,<-e];exact a
theorem ib{w1 w0:K}(a:0<y)(c:0<b)(d:w0<b):((x*b+w1)*b+w0)/y=(x*b+w1)/y*b+((x*b+w1)%y*b+w0)/y/\((x*b+w1)*b+w0)%y=((x*b+w1)%y*b+w0)%y:=by
 generalize x*b+w1=X;have h:=xbt X y;have e:X*b+w0=X%y*b+w0+y*(X/y*b):=by grind
 rw[e];constructor
 ·rw[xcm _ _ a];lia
 ·simp_all
def znB{a:K}(c:a<4294967296)(d:b<4294967296):(a*4294967296%18446744073709551616+b)%18446744073709551616=a*4294967296+b:=W
theorem jJ(a:x<18446744073709551616):xE fu x=Z ((64-bl x:K):J):=by
 unfold xE;have h:=JD (k:=64) (by simpa using a);rw[U<|qJ a,zb];grind
def WK{hi:K}(hn:lo<18446744073709551616)(G:y<18446744073709551616)(Q:hi<y)(H:10<fu):
 qA fu hi lo y=Z ((hi*18446744073709551616+lo)/y,(hi*18446744073709551616+lo)%y):=by
 unfold qA;rw[zB,zB];by_cases h0:hi=0
 ·subst h0;rw[iq O,yV,zf,yV,zf,xcu,xaJ]
 ·rw[zB,U<|jJ G];have⟨n1,n2,l⟩:=P7 (y:=y) W G;have⟨s,R⟩:∃s,s=64-bl y:=⟨_,O⟩;rw[<-R]at n2 l⊢;have S:s<=64:=W
  have T:DE (s:J)=s:=by have:=BR (x:=(s:J)) W W;lia
  have em:min (s:J).toNat 64=s:=W
  have e8:(64+18446744073709551616-s)%18446744073709551616=64-s:=W
  have n:min (((64-s:K):K):J).toNat 64=64-s:=W
  have⟨Y,c⟩:∃Y,Y=y*2^s:=⟨_,O⟩;rw[<-c]at n2 l;have⟨w1,w2⟩:=OE hn S;have hp:0<2^s:=xaU gS;have hx:hi*2^s+2^s<=Y:=by
   have:(hi+1)*2^s<=y*2^s:=xan _ Q;rw[xbb,xcy]at this;rw[c];exact this
  simp only[nm,T,em,e8,n,C6,DV];rw[<-c,xam l,xam (W:hi*2^s<18446744073709551616),Mv w2];have⟨u,o⟩:∃u,u=hi*2^s+lo/2^(64-s):=⟨_,O⟩;have⟨t,p⟩:∃t,t=lo*2^s%18446744073709551616:=⟨_,O⟩;have hv:t<18446744073709551616:=by rw[p];exact xaS _ gS
  rw[<-o,<-p];have hd:u<Y:=W
  have ho:(hi*18446744073709551616+lo)*2^s=u*18446744073709551616+t:=by
   rw[xbb,w1,o,<-p,xbb,Nat.mul_right_comm];lia
  have e:Y=Y/4294967296*4294967296+Y%4294967296:=W
  have M:2147483648<=Y/4294967296:=W
  have N:Y/4294967296<4294967296:=W
  have a0:Y%4294967296<4294967296:=W
  have step:∀{u w:K},u<Y->w<4294967296->(u*4294967296+w)/(Y/4294967296*4294967296+Y%4294967296)=(u*4294967296+w)/Y:=by intro u w _ _;rw[<-e]
  have ew:Y/2^32=Y/4294967296:=O;have et:t/2^32=t/4294967296:=O;rw[ew,et,yV];have f:∀{u:K},u<Y->(u+18446744073709551616-u/(Y/4294967296)*(Y/4294967296)%18446744073709551616)%18446744073709551616=u%(Y/4294967296):=by
   intro u o;have h1:=xbt u<|Y/4294967296;rw[xaO]at h1;have v:u/(Y/4294967296)*(Y/4294967296)<=u:=W
   rw[xam (W:u/(Y/4294967296)*(Y/4294967296)<18446744073709551616)];lia
  have body:∀{q r w:K},q<18446744073709551616->r<4294967296->w<4294967296->(q*(Y%4294967296)<18446744073709551616\/4294967296<=q)->∀(A B C:V K),(4294967296<=r+Y/4294967296->A=Z (q-1))->(¬4294967296<=r+Y/4294967296->A=B)->C=Z q->
   (if((4294967296:K):J)<=(q:J)then A else if(((4294967296*r%18446744073709551616+w)%18446744073709551616:K):J)<((q*(Y%4294967296)%18446744073709551616:K):J)then A else C)=
   if 4294967296<=q then(if 4294967296<=r+Y/4294967296 then Z (q-1)else B)else if 4294967296*r+w<q*(Y%4294967296)then(if 4294967296<=r+Y/4294967296 then Z (q-1)else B)else Z q:=by
   intro q r w d k hw g A B C h1 v h3;have hA:A=if 4294967296<=r+Y/4294967296 then Z (q-1)else B:=by
    split
    ·next h=>exact h1 h
    ·next h=>exact v h
   rw[<-hA,h3];by_cases z:4294967296<=q
   ·rw[zT,iq z]
   ·have e3:(q*(Y%4294967296))%18446744073709551616=q*(Y%4294967296):=xam<|g.resolve_right z;have e4:(4294967296*r%18446744073709551616+w)%18446744073709551616=4294967296*r+w:=W
    rw[zB,ir z,e3,e4];by_cases P:4294967296*r+w<q*(Y%4294967296)
    ·rw[zT,iq P]
    ·rw[zB,ir P]
  have L0:zg (jg fu (Y/4294967296) (Y%4294967296)<|t/4294967296) fu (u/(Y/4294967296),u%(Y/4294967296))=Z ((u*4294967296+t/4294967296)/Y):=by
   rw[<-step hd (by lia:t/4294967296<4294967296)];refine DX (λq r=>(q,r)) (λs=>2-s.2/2147483648) (λ_ _=>O) (w:=t/4294967296) M N a0 (by rw[<-e];exact hd) W H ?_;intro q r L d k g;have e1:(r+Y/4294967296)%18446744073709551616=r+Y/4294967296:=W
   by_cases hc:q=0
   ·subst hc;unfold jg;simp only[nm,xcu,xfW];rw[zB,zB,zB,zB]
   have D:(q+18446744073709551616-1)%18446744073709551616=q-1:=W
   refine Eq.trans ?_<|body d k W g (if 4294967296<=r+Y/4294967296 then Z (q-1)else L (q-1,r+Y/4294967296)) _ _ (λh=>iq h) (λh=>ir h) O;unfold jg;simp only[nm,e1,D];have E:∀(X:V K),(if((4294967296:K):J)<=((r+Y/4294967296:K):J)then Z (q-1)else X)=if 4294967296<=r+Y/4294967296 then Z (q-1)else X:=by
    intro X;by_cases h:4294967296<=r+Y/4294967296
    ·rw[zT,iq h]
    ·rw[zB,ir h]
   rw[E]
  have i:∀{x q:K},x/Y=q->∀{m:K},m=x%18446744073709551616->(m+18446744073709551616-q*Y%18446744073709551616)%18446744073709551616=x%Y:=by
   intro x q d m hm;have h1:=xbt x Y;rw[d,xaO]at h1;have v:=xaS x (W:0<Y);lia
  rw[f hd,U L0,i O (x:=u*4294967296+t/4294967296) W];have⟨a,F⟩:∃a,a=(u*4294967296+t/4294967296)%Y:=⟨_,O⟩;have j:a<Y:=by rw[F];exact xaS _ W
  rw[<-F,yV,f j];have L1:zg (ja fu (Y/4294967296) (Y%4294967296)<|t%4294967296) fu (a%(Y/4294967296),a/(Y/4294967296))=Z ((a*4294967296+t%4294967296)/Y):=by
   rw[<-step j (by lia:t%4294967296<4294967296)];refine DX (λq r=>(r,q)) (λs=>2-s.1/2147483648) (λ_ _=>O) (w:=t%4294967296) M N a0 (by rw[<-e];exact j) W H ?_;intro q r L d k g;have e1:(r+Y/4294967296)%18446744073709551616=r+Y/4294967296:=W
   by_cases hc:q=0
   ·subst hc;unfold ja;simp only[nm,xcu,xfW];rw[zB,zB,zB,zB]
   have D:(q+18446744073709551616-1)%18446744073709551616=q-1:=W
   refine Eq.trans ?_<|body d k W g (if 4294967296<=r+Y/4294967296 then Z (q-1)else L (r+Y/4294967296,q-1)) _ _ (λh=>iq h) (λh=>ir h) O;unfold ja;simp only[nm,e1,D];have E:∀(X:V K),(if((4294967296:K):J)<=((r+Y/4294967296:K):J)then Z (q-1)else X)=if 4294967296<=r+Y/4294967296 then Z (q-1)else X:=by
    intro X;by_cases h:4294967296<=r+Y/4294967296
    ·rw[zT,iq h]
    ·rw[zB,ir h]
   rw[E]
  rw[U L1,i O (x:=a*4294967296+t%4294967296) W];have hl:=UF (b:=4294967296) (v1:=Y/4294967296) (v0:=Y%4294967296) (u:=u) (w:=t/4294967296) (by rw[<-e];exact hd);rw[step hd W]at hl;have hc:=UF (b:=4294967296) (v1:=Y/4294967296) (v0:=Y%4294967296) (u:=a) (w:=t%4294967296) (by rw[<-e];exact j);rw[step j W]at hc;have⟨k1,k2⟩:=ib (x:=u) (b:=4294967296) (y:=Y) (w1:=t/4294967296) (w0:=t%4294967296) W gS W;rw[<-F]at k1 k2;have eU:(u*4294967296+t/4294967296)*4294967296+t%4294967296=(hi*18446744073709551616+lo)*2^s:=by rw[ho];lia
  rw[eU,c,xfG _ _ hp,<-c]at k1;rw[eU,c,xeb,<-c]at k2;rw[k1,<-k2,xfj _ hp];rw[znB hl hc]
end
section
variable{x fu s:wr}{a:xS wr}
def zav{m:K}{l:N K}:(xac (m+1) 0++l).set m x=xac m 0++(x::l):=by
 rw[List.replicate_succ'];simp_all
def Hk(k n:K):wO (k+1) n=n%18446744073709551616::wO k (n/18446744073709551616):=O
def nV{q r:K}(h:r<18446744073709551616):(q*18446744073709551616+r)%18446744073709551616=r/\(q*18446744073709551616+r)/18446744073709551616=q:=W
theorem sI(A m:K):A/18446744073709551616^m=A/18446744073709551616^(m+1)*18446744073709551616+A/18446744073709551616^m%18446744073709551616:=by grind [Ja]
def CT(c:zm a)(i:x<18446744073709551616)(h0:0<x)(hl:X a<=1000000)(o:2000000<fu):Vc fu a x=Z (yB<|nv a/x,nv a%x):=by
 unfold Vc;rw[yR,yV,zf,zb];have f:=vH c;have d:zg (Kh fu a x) fu (0,(X a:J)-1,xac (X a) 0)=Z (nv a%x,wO (X a)<|nv a/x):=by
  refine zA (λs:K×J×N K=>∃m:K,m<=X a/\s=(nv a/18446744073709551616^m%x,(m:J)-1,xac m 0++wO (X a-m) (nv a/18446744073709551616^m/x))) (λs=>(s.2.1+1).toNat) _ ?_ _ _ ⟨X a,Nm _,?_⟩ (by show((X a:J)-1+1).toNat<fu;lia)
  ·rintro s L ⟨m,p,rfl⟩ j;unfold Kh;simp only
   cases m with
   |zero=>
    simp_all
   |succ m=>
    have e:((m+1:K):J)-1=(m:J):=W
    have hc:=c.getD m;have hd:nv a/18446744073709551616^(m+1)%x<x:=xaS _ h0;have k:a.getD m 0=nv a/18446744073709551616^m%18446744073709551616:=Kg c m;have g:=sI (nv a) m;rw[<-k]at g;rw[zT,e,zY,zf,U<|WK hc i hd W];have⟨k1,k2⟩:=ib (x:=0) (b:=18446744073709551616) (y:=x) (w1:=nv a/18446744073709551616^(m+1)) (w0:=a.getD m 0) h0 gS hc;rw[xcu,xaJ,<-g]at k1 k2;rw[zo (by simp;lia),zf,zb,zav,<-k2];refine j _ ⟨m,W,?_⟩ (by show((m:J)-1+1).toNat<(((m+1:K):J)-1+1).toNat;lia);have h:(nv a/18446744073709551616^(m+1)%x*18446744073709551616+a.getD m 0)/x<18446744073709551616:=by
     rw[xaX h0];have:(nv a/18446744073709551616^(m+1)%x+1)*18446744073709551616<=x*18446744073709551616:=xan _ hd;rw[xaO 18446744073709551616 x];lia
    have l:X a-m=(X a-(m+1))+1:=W
    rw[k1,l,Hk];congr 3;rw[(nV h).1,(nV h).2]
  ·rw[xbg f,Nat.zero_div,xfW,xcQ];simp[wO]
 rw[U d];have n:nv a/x<18446744073709551616^X a:=xaK (xcp _ _) f;simp only;rw[U (xm (wj _ _) (by rw[zX];lia)<|by rw[zX];lia),kq,xam n]
def GG(b:s<=64):(18446744073709551616:K)=2^(64-s)*2^s:=by rw[<-xbz,(W:64-s+s=64)]
theorem O1{y c:K}(f:y<18446744073709551616)(d:s<64)(hc:c<2^s):y*2^s%18446744073709551616|||c=(y*2^s+c)%18446744073709551616/\y/2/2^(63-s)=(y*2^s+c)/18446744073709551616/\(y*2^s+c)/18446744073709551616<2^s:=by
 have⟨w1,h⟩:=OE f<|xda d;have hp:0<2^s:=xaU gS;have e:=GG<|xda d;have b:y*2^s%18446744073709551616=y%2^(64-s)*2^s:=by rw[e,xeb]
 have h1:y%2^(64-s)*2^s+2^s<=18446744073709551616:=by
  rw[e];have:=xan (2^s)<|xaS y<|xaU (n:=64-s) (gS:0<2);grind
 have g:y/2/2^(63-s)=y/2^(64-s):=by rw[xaE,(ge:64-s=63-s+1),xbf,xaO 2]
 refine⟨?_,?_,?_⟩
 ·rw[b,Mv hc];rw[b]at w1;generalize y%2^(64-s)*2^s=A at*
  generalize y*2^s=i at*
  generalize y/2^(64-s)=W at*
  lia
 ·rw[g];rw[b]at w1;generalize y%2^(64-s)*2^s=A at*
  generalize y*2^s=i at*
  generalize y/2^(64-s)=W at*
  lia
 ·rw[b]at w1;generalize y%2^(64-s)*2^s=A at*
  generalize y*2^s=i at*
  generalize y/2^(64-s)=W at*
  lia
def lL{a:N K}{s:K}(b:zm a)(c:s<64):∀k,(wU (UG a<|2^s) k).2<2^s
 |0=>xaU gS
 |k+1=>(O1 (b.getD k) c<|lL b c k).2.2
def Gf:(2:K)^64=18446744073709551616:=gS
def Qq{n:K}(b:zm a)(hl:X a<=1000000:=by lia)(hn:n<=262144:=by lia)(j:2000000<fu:=by lia):X8 fu a (n:J)=Z (yB<|nv a*2^n,0):=by
 unfold X8;have⟨s,l⟩:∃s,s=n%64:=⟨_,O⟩;have hd:s<64:=W
 rw[zB,zB,U<|jC (step:=UG a<|2^s) W W ?_]
 ·have m:=lL b hd (X a);have d:2^s<18446744073709551616:=by rw[<-Gf];exact xeP gS hd
  have e1:xct (n:J) 64=((n/64:K):J):=O;simp only;rw[xB (by have:=wq (UG a<|2^s) (X a);simp[this];lia),zf,xB gS,e1,zb,Rj W];rw[U (QW W<|by rw[zX];lia),U (xm ((zm.replicate _).append<|wj _ _) (by simp[zX];lia)<|by simp[zX];lia),Dx,kq,xam<|C9 b d];congr 3;rw[<-Gf,<-xcz,xaO<|2^_,xaP,<-xbz];congr 2;lia
 ·intro k c;have hc:=lL b hd k;have⟨l1,e,o⟩:=O1 (b.getD k) hd hc;unfold db;have e1:xca (n:J) 64=((n%64:K):J):=O;have f:min (((1:K):J)).toNat 64=1:=gS
  have g:min ((n%64:K):J).toNat 64=s:=W
  have h:(63:J)-((n%64:K):J)=((63-s:K):J):=W
  have i:min ((63-s:K):J).toNat 64=63-s:=W
  rw[zo c,zf,xB gS,zf,e1,yV,zf,g,zf,zo c,zf,zf,f,xB gS,zf,h,zb,yV,zf,i,l1];rw[show(2:K)^1=2 from O,e];rfl
def Ga{step:K->K->K×K}{X:K}(h:∀k,step k 0=(X/18446744073709551616^k%18446744073709551616,0)):∀n,wU step n=(wO n X,0)
 |0=>rfl
 |n+1=>by
  have b:=Ga h n;unfold wU;rw[b,h,Uq]
def zgZ{A k:K}(f:s<64):A/18446744073709551616^k%18446744073709551616/2^s|||A/18446744073709551616^(k+1)%18446744073709551616*2%18446744073709551616*2^(63-s)%18446744073709551616=A/2^s/18446744073709551616^k%18446744073709551616:=by
 have e:=GG<|xda f;have hp:0<2^s:=xaU gS;have j:0<2^(64-s):=xaU gS;have h1:=sI A k;have e0:A/18446744073709551616^(k+1)=A/18446744073709551616^k/18446744073709551616:=by rw[xbf,xaE]
 rw[xaE,xaO<|2^s,<-xaE];rw[e0]at h1⊢;generalize A/18446744073709551616^k=X at*
 have e1:X/18446744073709551616%18446744073709551616*2%18446744073709551616*2^(63-s)%18446744073709551616=X/18446744073709551616%2^s*2^(64-s):=by
  rw[Nat.mod_mul_mod,xaP,<-xdO,(W:(63-s).succ=64-s)];rw[Nat.mod_mul_mod];generalize X/18446744073709551616=V;conv=>lhs;rw[e,xaO (2^(64-s))<|2^s]
  rw[xeb]
 have g:X%18446744073709551616/2^s<2^(64-s):=by
  rw[xaX hp,<-e];exact xaS _ gS
 rw[e1,Nat.or_comm,Mv g];have b:X/2^s=X/18446744073709551616*2^(64-s)+X%18446744073709551616/2^s:=by
  have c:=xbt X 18446744073709551616;have h:X=X%18446744073709551616+2^s*(X/18446744073709551616*2^(64-s)):=by
   have:2^s*(X/18446744073709551616*2^(64-s))=18446744073709551616*(X/18446744073709551616):=by rw[e,xaO<|X/_,<-xaP,xaO<|2^s]
   lia
  conv=>lhs;rw[h]
  rw[xcm _ _ hp];lia
 rw[b];have d:X/18446744073709551616*2^(64-s)=X/18446744073709551616%2^s*2^(64-s)+18446744073709551616*(X/18446744073709551616/2^s):=by
  have c:=xbt (X/18446744073709551616)<|2^s;conv=>lhs;rw[<-c]
  rw[xbb,e,xaO (2^(64-s))<|2^s,xaP,xaP,xaO (2^(64-s))<|_/_];lia
 have l:X/18446744073709551616%2^s*2^(64-s)+2^(64-s)<=18446744073709551616:=by
  generalize X/18446744073709551616=V;rw[e,xaO (2^(64-s))<|2^s];have:=xan (2^(64-s))<|xaS V hp;rw[Nat.succ_mul]at this;exact this
 have i:X/18446744073709551616%2^s*2^(64-s)+X%18446744073709551616/2^s<18446744073709551616:=by
  clear d b e1 e0 h1;generalize X/18446744073709551616%2^s*2^(64-s)=m at*
  generalize X%18446744073709551616/2^s=V at*
  lia
 rw[d,Nat.add_right_comm,xbV,xam i]
theorem mi{n:K}(b:zm a)(hl:i0 a<=1000000)(hn:n<=1000000000)(q:2000000<fu):KU fu a (n:J)=Z (yB<|nv a/2^n):=by
 unfold KU;have e0:max (n:J) 0=(n:J):=W
 have e1:xct (n:J) 64=((n/64:K):J):=O;have e:xca (n:J) 64=((n%64:K):J):=O;have f:=vH b;have hc:2^n=18446744073709551616^(n/64)*2^(n%64):=by
  rw[<-Gf,<-xcz,<-xbz];grind
 rw[zf,e0,xB gS,e1,zb];by_cases h:i0 a<=n/64
 ·rw[zT];have:nv a/2^n=0:=by rw[hc,<-xaE,xbg<|xao f<|xav gS h,Nat.zero_div]
  rw[this];rfl
 ·rw[zB,xB gS,zb,yR,yV,zf,xB gS,zf,e];have hd:=b.drop<|n/64;have hv:nv (a.drop<|n/64)=nv a/18446744073709551616^(n/64):=Lg b _;have⟨D,c⟩:∃D,D=a.drop (n/64):=⟨_,O⟩;rw[<-c]at hd hv⊢;have r:i0 D<=1000000:=by rw[c,xbR];lia
  have⟨s,d⟩:∃s,s=n%64:=⟨_,O⟩;have g:s<64:=W
  have qU:=Ga (step:=λk _=>(nv D/2^s/18446744073709551616^k%18446744073709551616,0)) (X:=nv D/2^s)<|λ_=>O;rw[<-d,U<|jC (step:=λk _=>(nv D/2^s/18446744073709551616^k%18446744073709551616,0)) W W ?_]
  ·rw[qU];simp only;rw[U (xm (wj _ _) (by rw[zX];lia)<|by rw[zX];lia),kq,xam<|xaK (xcp _ _)<|vH hd,hv,hc,<-xaE,d]
  ·intro k i;rw[qU];unfold dN;have j:min (((1:K):J)).toNat 64=1:=gS
   have l:min (s:J).toNat 64=s:=W
   have m:(63:J)-(s:J)=((63-s:K):J):=W
   have o:min ((63-s:K):J).toNat 64=63-s:=W
   have p:(k:J)+1=((k+1:K):J):=W
   rw[zo i,zf,yV,zf,l,p,zb,U (WQ D W),zf,j,m,zb,yV,zf,o,zf,Kg hd,Kg hd,show(2:K)^1=2 from O,zgZ g]
end
section
variable{fu u v1 v0 v d x:wr}
def S9{w:K}(h1:9223372036854775808<=v1)(j:v1<18446744073709551616)(h0:v0<18446744073709551616)(f:u<v1*18446744073709551616+v0)(k:w<18446744073709551616)(b:u/v1<18446744073709551616)(l:10<fu):
 zg (Ko fu w v1 v0) fu (u/v1,u%v1)=Z ((u*18446744073709551616+w)/(v1*18446744073709551616+v0)):=by
 have hv:0<v1*18446744073709551616+v0:=W
 refine zA (λs:K×K=>∃q r,s=(q,r)/\q<18446744073709551616/\r<18446744073709551616/\q*v1+r=u/\(u*18446744073709551616+w)/(v1*18446744073709551616+v0)<=q) (λs=>2-s.2/9223372036854775808) _ ?_ _ _ ⟨_,_,O,b,?_,?_,?_⟩ (by show 2-u%v1/9223372036854775808<fu;lia)
 ·rintro s L ⟨q,r,rfl,b,m,c,hc⟩ g;have n:q*v0<18446744073709551616*18446744073709551616:=xdL b h0;have a:∀(hd:18446744073709551616*r+w<q*v0),(if((0:K):J)<(((r+v1+0)/18446744073709551616:K):J)then Z ((q+18446744073709551616-1)%18446744073709551616)else L ((q+18446744073709551616-1)%18446744073709551616,(r+v1+0)%18446744073709551616))=Z ((u*18446744073709551616+w)/(v1*18446744073709551616+v0)):=by
   intro hd;have⟨d1,d2,d3⟩:=zhj hv c hd;have h:(q+18446744073709551616-1)%18446744073709551616=q-1:=W
   rw[h];by_cases e:18446744073709551616<=r+v1
   ·rw[zT,<-r7 hv d3 d1<|SF (Tn f h0 d3 e) h0 e]
   ·rw[zB];exact g _ ⟨_,_,O,W,W,by rw[(W:(r+v1+0)%18446744073709551616=r+v1)];exact d3,d1⟩ (by show 2-(r+v1+0)%18446744073709551616/9223372036854775808<2-r/9223372036854775808;lia)
  unfold Ko;simp only;rw[U<|WU b h0];simp only[B];by_cases c1:q*v0/18446744073709551616<r
  ·rw[zT,<-r7 hv c hc]
  ·rw[zB];by_cases c2:q*v0/18446744073709551616=r
   ·rw[zT];by_cases o:q*v0%18446744073709551616<=w
    ·rw[zT,<-r7 hv c hc]
    ·rw[zB,yV];exact a W
   ·rw[zB,yV];exact a W
 ·have:=xaS u (W:0<v1);lia
 ·rw[xaO];exact xbt u v1
 ·rw[xcD W];have i:(u*18446744073709551616+w)/(v1*18446744073709551616+v0)*(v1*18446744073709551616+v0)<=u*18446744073709551616+w:=xcS _ _;generalize(u*18446744073709551616+w)/(v1*18446744073709551616+v0)=Q at*
  rw[xbk,<-xaP]at i;generalize Q*v1=A at*
  lia
def Cu{a b c:K}(h1:9223372036854775808<=v1)(e:v1<18446744073709551616)(h0:v0<18446744073709551616)(b1:b<18446744073709551616)(b0:c<18446744073709551616)(f:10<fu):
 JJ fu a b c v1 v0=Z (if v1<=a then 18446744073709551615 else((a*18446744073709551616+b)*18446744073709551616+c)/(v1*18446744073709551616+v0)):=by
 unfold JJ;by_cases h:v1<=a
 ·simp_all
 ·have g:(a*18446744073709551616+b)/v1<18446744073709551616:=by
   rw[xaX W];lia
  rw[zB,ir h,U<|WK b1 e W f];simp only;rw[U<|S9 h1 e h0 ?_ b0 g f];lia
def zjV{q:K}(hd:0<d)(hv:0<v/d)(h:q*v<=u):q<=u/d/(v/d):=by
 refine(xcD hv).2<|(xcD hd).2 ?_;refine xal ?_ h;rw[xaP];exact xaD _<|xcS v d
def zjd{B:K}(hd:0<d)(a:x*(v/d)<=u/d)(b:x<=B)(hv:B*d<=v):x*v<=u+v:=by
 have h1:x*v<=x*(v/d*d+d):=xaD _ (by have h:=xbt v d;have:=xaS v hd;rw[xaO d]at h;lia);have c:x*(v/d*d+d)=x*(v/d)*d+x*d:=by rw[xbk,xaP]
 have e:=xal (xan _ a)<|xcS u d;have f:x*d<=B*d:=xan _ b;lia
def Th{U V D:K}(b:0<D)(e:9223372036854775808*(18446744073709551616*D)<=V)(m:V<18446744073709551616*(18446744073709551616*D))(f:U<V*18446744073709551616)(a:x=if V/D/18446744073709551616<=U/D/18446744073709551616/18446744073709551616 then 18446744073709551615 else U/D/(V/D)):U/V<=x/\x<=U/V+1/\x<18446744073709551616:=by
 have hc:0<V:=W
 have n:U/V<18446744073709551616:=by rw[xaX hc,xaO];exact f
 have o:9223372036854775808*18446744073709551616<=V/D:=by rw[xcD b,xaP];exact e
 have up:∀{x:K},x*V<=U+V->x<=U/V+1:=λ{x} h=>by
  have:x<=(U+V)/V:=(xcD hc).2 h;simp_all
 by_cases h:V/D/18446744073709551616<=U/D/18446744073709551616/18446744073709551616
 ·rw[iq h]at a;subst a;refine⟨W,up ?_,gS⟩;have e1:V/D/18446744073709551616=V/(D*18446744073709551616):=xaE ..;have g:U/D/18446744073709551616/18446744073709551616=U/(D*18446744073709551616*18446744073709551616):=by rw[xaE,xaE,<-xaP]
  rw[e1,g]at h;have i:0<D*18446744073709551616:=W
  have k1:=xcS U<|D*18446744073709551616*18446744073709551616;have k2:V<(V/(D*18446744073709551616)+1)*(D*18446744073709551616):=by
   have h1:=xbt V<|D*18446744073709551616;have p:=xaS V i;rw[xbb,xcy,xaO];lia
  have j:V/(D*18446744073709551616)*(D*18446744073709551616*18446744073709551616)<=U:=xal (xan _ h) k1;rw[<-xaP]at j;have k:18446744073709551615*V<=18446744073709551615*((V/(D*18446744073709551616)+1)*(D*18446744073709551616)):=xaD _<|xda k2;rw[xbb,xcy]at k;generalize V/(D*18446744073709551616)*(D*18446744073709551616)=A at*
  lia
 ·rw[ir h]at a;have hd:x<=18446744073709551616:=by
   rw[a];have c:U/D/18446744073709551616/18446744073709551616<V/D/18446744073709551616:=xdf h;have h1:U/D<(V/D)*18446744073709551616+18446744073709551616*18446744073709551616:=W
   have:U/D<=18446744073709551616*(V/D)+(V/D):=W
   refine Nat.le_of_lt_succ<|(xaX W).2 ?_;rw[Nat.succ_mul];lia
  have l:U/V<=x:=by
   rw[a];exact zjV b W<|xcS U V
  have c:x<18446744073709551616:=by
   rw[a,xaX W];have c:U/D/18446744073709551616/18446744073709551616<V/D/18446744073709551616:=xdf h;lia
  refine⟨l,up<|zjd b (B:=18446744073709551616) ?_ hd ?_,c⟩
  ·rw[a];exact xcS _ _
  ·lia
end
section
variable{fu V k y:wr}{s:wl}{v t:xS wr}
def EW{n P x0:K}(hv:zm v)(a:X v=n)(b:nv v=V)(d:zm t)(p:X t=n+1)(e:nv t=P)(hd:0<V)(h1:P/V<=x0)(f:x0<=P/V+1)(g:x0<18446744073709551616)(hn:n<=500000)(r:2000000<fu):
 zg (bF fu v) fu (s,(n:J),x0,t)=Z (s,(n:J),P/V,t):=by
 have i:V<18446744073709551616^n:=by rw[<-b,<-a];exact vH hv
 refine zA (λq:J×J×K×N K=>∃x,q=(s,(n:J),x,t)/\P/V<=x/\x<=P/V+1/\x<18446744073709551616) (λq=>q.2.2.1-P/V) _ ?_ _ _ ⟨x0,O,h1,f,g⟩ (by show x0-P/V<fu;lia);rintro q L ⟨x,rfl,g1,u,j⟩ l;unfold bF;simp only;have m:V*x<18446744073709551616^(n+1):=by
  rw[xbf]
  calc V*x<=V*18446744073709551616:=xaD _ W
   _<_:=xbX i gS
 rw[U<|ai hv j,U (aG (wj _ _) d<|by rw[zX];lia),kq,b,a,xam m,e];have w:=xbt P V;have hl:=xaS P hd;by_cases h:x=P/V
 ·have z:V*x<=P:=by rw[h];lia
  have o:¬(0:J)<jt ((V*x:K):J) (P:J):=by
   rcases xbW (V*x) P with hh|hh
   ·rw[qe W];decide
   ·rw[jU W];decide
  rw[ir o,h]
 ·have c:x=P/V+1:=W
  have hi:P<V*x:=by rw[c,xbk,xdU];lia
  have A:0<x:=by rw[c];exact Nat.succ_pos _
  have hc:(P:J)<((V*x:K):J):=Int.ofNat_lt.2 hi;rw[vo hc,iq gS,zf,(W:(x+18446744073709551616-1)%18446744073709551616=x-1)];exact l _ ⟨x-1,O,W,W,W⟩ (by show x-1-P/V<x-P/V;lia)
def zgm{j:K}(a:zm t)(hl:X t<=k)(b:k<=j):(t++xac j 0).take k=wO k (nv t):=by
 refine sE ((a.append<|zm.replicate _).take _) (wj _ _) (by rw[zX,xax,xap,xaZ];lia) ?_;rw[AQ<|a.append<|zm.replicate _,kE,Qi,xcK,xbK,kq]
def zcb{n e a:K}{L:N K×J×N K×N K->ww (N K×N K)}(hv:zm v)(hl:X v=n)(o:nv v=V)(hR:2<=n)(hc:9223372036854775808*18446744073709551616^(n-1)<=V)(f:zm t)(hS:X t=e+n)(hk:k<e)(hb:e+n<=500000)(hf:2000000<fu)(hT:nv t=a/18446744073709551616^(k+1)%V*18446744073709551616^(k+1)+a%18446744073709551616^(k+1)):
 ∃q,zm q/\X q=e+n/\nv q=a/18446744073709551616^k%V*18446744073709551616^k+a%18446744073709551616^k/\
  W4 fu s v L (v,(k:J),t,xac (k+1) 0++wO (e-(k+1)) (a/18446744073709551616^(k+1)/V))=L (v,(k:J)-1,q,xac k 0++wO (e-k) (a/18446744073709551616^k/V)):=by
 have hd:V<18446744073709551616^n:=by rw[<-o,<-hl];exact vH hv
 have M:0<18446744073709551616^k:=xaU gS;have h:0<V:=by
  have:0<18446744073709551616^(n-1):=xaU gS;lia
 have⟨T,hn⟩:∃T,T=a/18446744073709551616^(k+1)%V:=⟨_,O⟩;have⟨g,z⟩:∃g,g=a/18446744073709551616^k%18446744073709551616:=⟨_,O⟩;have hp:g<18446744073709551616:=by rw[z];exact xaS _ gS
 have hI:T<V:=by rw[hn];exact xaS _ h
 have⟨P,Q⟩:∃P,P=T*18446744073709551616+g:=⟨_,O⟩;have R:=sI a k;rw[<-z]at R;have⟨k1,k2⟩:=ib (x:=0) (b:=18446744073709551616) (y:=V) (w1:=a/18446744073709551616^(k+1)) (w0:=g) h gS hp;rw[xcu,xaJ,<-R,<-hn,<-Q]at k1 k2;have hy:a%18446744073709551616^(k+1)=g*18446744073709551616^k+a%18446744073709551616^k:=by rw[xbf,Nat.mod_mul,z,xaO];lia
 have r:P<V*18446744073709551616:=by
  have:(T+1)*18446744073709551616<=V*18446744073709551616:=xan _ hI;lia
 have S:nv t=P*18446744073709551616^k+a%18446744073709551616^k:=by rw[hT,<-hn,hy,Q,xbb,xbf,xaO<|18446744073709551616^k,xaP];lia
 have hB:=xaS a M;have A:nv t/18446744073709551616^k=P:=by rw[S,xdA,Nat.add_mul_div_right _ _ M,xbg hB,xaJ]
 have hJ:nv t%18446744073709551616^k=a%18446744073709551616^k:=by rw[S,xdA,Nat.add_mul_mod_self_right,Nat.mod_mod]
 have⟨D,u⟩:∃D,D=18446744073709551616^(n-2):=⟨_,O⟩;have hK:0<D:=by rw[u];exact xaU gS
 have c:18446744073709551616^(n-1)=18446744073709551616*D:=by rw[u,<-xdO,(W:(n-2).succ=n-1)]
 have Y:18446744073709551616^n=18446744073709551616*(18446744073709551616*D):=by rw[<-c,<-xdO,(W:(n-1).succ=n)]
 rw[c]at hc;have B:=hd;rw[Y]at B;have C:∀j,t.getD (k+j) 0=P/18446744073709551616^j%18446744073709551616:=λj=>by rw[Kg f,xbz,<-xaE,A]
 have gv:∀j,v.getD j 0=V/18446744073709551616^j%18446744073709551616:=λj=>by rw[Kg hv,o]
 have i:P/18446744073709551616^n=P/D/18446744073709551616/18446744073709551616:=by rw[Y,xaE,xaE];congr 1;lia
 have m:P/18446744073709551616^(n-1)=P/D/18446744073709551616:=by rw[c,xaE,xaO D]
 have d:V/18446744073709551616^(n-1)=V/D/18446744073709551616:=by rw[c,xaE,xaO D]
 have hL:P/D/18446744073709551616/18446744073709551616<18446744073709551616:=by
  rw[<-i,xaX (xaU gS),xaO];exact xfb r<|xbX hd gS
 have hC:V/D/18446744073709551616<18446744073709551616:=by
  rw[<-d,xaX (xaU gS),c];exact B
 have hr:9223372036854775808<=V/D/18446744073709551616:=by
  rw[<-d,xcD (xaU gS),c];exact hc
 have m1:t.getD (k+n) 0=P/D/18446744073709551616/18446744073709551616:=by rw[C,i,xam hL]
 have m2:t.getD (k+n-1) 0=P/D/18446744073709551616%18446744073709551616:=by rw[(W:k+n-1=k+(n-1)),C,m]
 have m3:t.getD (k+n-2) 0=P/D%18446744073709551616:=by rw[(W:k+n-2=k+(n-2)),C,<-u]
 have m4:v.getD (n-1) 0=V/D/18446744073709551616:=by rw[gv,d,xam hC]
 have m5:v.getD (n-2) 0=V/D%18446744073709551616:=by rw[gv,<-u]
 have eg:((P/D/18446744073709551616/18446744073709551616*18446744073709551616+P/D/18446744073709551616%18446744073709551616)*18446744073709551616+P/D%18446744073709551616)/(V/D/18446744073709551616*18446744073709551616+V/D%18446744073709551616)=P/D/(V/D):=by
  generalize P/D=p;generalize V/D=w;rw[(W:(p/18446744073709551616/18446744073709551616*18446744073709551616+p/18446744073709551616%18446744073709551616)*18446744073709551616+p%18446744073709551616=p),(W:w/18446744073709551616*18446744073709551616+w%18446744073709551616=w)]
 have⟨x0,hE⟩:∃x0,x0=if V/D/18446744073709551616<=P/D/18446744073709551616/18446744073709551616 then 18446744073709551615 else P/D/(V/D):=⟨_,O⟩;have⟨n1,n2,n3⟩:=Th hK hc B r hE;have hF:zm (xdB (k+n+1-k)<|xdM k t):=(f.drop k).take _;have E:X (xdB (k+n+1-k)<|xdM k t)=n+1:=by rw[xax,xbR];lia
 have F:P<18446744073709551616^(n+1):=by
  rw[xbf];exact xfb r<|xbX hd gS
 have hi:nv (xdB (k+n+1-k)<|xdM k t)=P:=by rw[AQ<|f.drop k,Lg f,A,(W:k+n+1-k=n+1),xam F]
 have G:P/V<18446744073709551616:=by rw[xaX h,xaO];exact r
 have hG:V*(P/V)<=P:=Nat.mul_div_le P V;have hH:nv (wO (n+1)<|V*(P/V))=V*(P/V):=by rw[kq,xam W]
 have hM:P-V*(P/V)=P%V:=by have:=xbt P V;lia
 have hO:=xaS P h;have hQ:X (yB<|P%V)<=n:=(zL _ _).2 W;refine⟨xdB k t++wO (n+1) (P%V)++xdM (k+(n+1)) t,((f.take _).append<|wj _ _).append<|f.drop _,?_,?_,?_⟩
 ·rw[xap,xap,xax,zX,xbR];lia
 ·have hz:nv (xdM (k+(n+1)) t)=0:=by rw[Lg f,xbz,<-xaE,A,xbg F]
  have hN:P%V<18446744073709551616^(n+1):=xaK (Nat.mod_le _ _) F;rw[kE,hz,xcK,xbK,kE,AQ f,hJ,kq,xam hN,xax,(W:min k (X t)=k),<-k2,xaO];lia
 ·unfold W4;simp only;have c1:(k:J)+(X v:J)=((k+n:K):J):=W
  have c2:((k+n:K):J)-1=((k+n-1:K):J):=W
  have c3:((k+n:K):J)-2=((k+n-2:K):J):=W
  have c4:(X v:J)-1=((n-1:K):J):=W
  have c5:(X v:J)-2=((n-2:K):J):=W
  have c6:((k+n:K):J)+1=((k+n+1:K):J):=W
  rw[zT,c1,zb,zY,zf,zb,c2,zb,zY,zf,zb,c3,zb,zY,zf,c4,zb,zY,zf,c5,zb,zY,zf];rw[m1,m2,m3,m4,m5,U (Cu hr hC (xaS _ gS) (xaS _ gS) (xaS _ gS) W),eg,<-hE];rw[zb,c6,zb,yR,yR,xB ⟨W,W⟩,zf,xB (by rw[E];simp;lia),zf,xby];rw[hl,U<|EW hv hl o hF E hi h n1 n2 n3 W hf];simp only;have c7:(n:J)+1=((n+1:K):J):=W
  rw[zo (by simp;lia),zf,zav,yR,yV,U<|ai hv G,hl,o,U (KJ hF (wj _ _) W (by rw[zX];lia) (by rw[E,zX];lia)<|by rw[hi,hH];exact hG),hi,hH,hM];rw[c7,zb,yR,yV,zf,zb,yR,xB gT,zf,zgm (zu _) W<|Nm _,yg,zf,zb];have H:gW k (X t-k) t (wO (n+1)<|P%V)=xdB k t++wO (n+1) (P%V)++xdM (k+(n+1)) t:=by
   unfold gW;rw[zX,(W:min (n+1) (X t-k)=n+1),xaQ (l:=wO (n+1)<|P%V)<|by rw[zX];exact Nm _]
  rw[H];have e2:e-k=(e-(k+1))+1:=W
  have e3:wO (e-k) (a/18446744073709551616^k/V)=P/V::wO (e-(k+1)) (a/18446744073709551616^(k+1)/V):=by rw[e2,Hk,k1,(nV G).1,(nV G).2]
  rw[e3]
theorem SP(h:0<y):2^(bl y-1)<=y:=by
 refine xbu λa=> ?_;have h1:=JD a;grind
theorem zjI{n s:K}(a:0<y)(hn:n=X (yB y))(f:s=64-bl ((yB y).getD (n-1) 0)):s<=63/\9223372036854775808*18446744073709551616^(n-1)<=y*2^s/\y*2^s<18446744073709551616^n/\X (yB<|y*2^s)=n:=by
 have hc:=vD a;have c:=OM a;rw[<-hn]at c;have g:(yB y).getD (n-1) 0≠0:=by rw[hn];exact zeQ a
 have d:=(zu y).getD<|n-1;have⟨b1,_,_⟩:=P7 (y:=(yB y).getD (n-1) 0) W d;have b2:1<=bl ((yB y).getD (n-1) 0):=by rw[de];lia
 have e1:18446744073709551616^n=2^bl y*2^s:=by
  rw[<-Gf,<-xcz,<-xbz];grind
 have e:9223372036854775808*18446744073709551616^(n-1)=2^(bl y-1)*2^s:=by
  rw[<-Gf,<-xcz,<-xbz,(gS:(9223372036854775808:K)=2^63),<-xbz];grind
 have g1:9223372036854775808*18446744073709551616^(n-1)<=y*2^s:=by rw[e];exact xan _<|SP a
 have b:y*2^s<18446744073709551616^n:=by rw[e1];exact xbX (B7 y)<|xaU gS
 refine⟨W,g1,b,xcR ((zL _ _).2 b)<|xbu λh=> ?_⟩;have:=(zL (n-1)<|y*2^s).1 W;have hp:0<18446744073709551616^(n-1):=xaU gS;lia
def mI{a b:N K}(r:zm a)(u:zm b)(hC:X a<=200000)(hD:X b<=200000)(hf:3000000<=fu):
 Ug fu a b=Z (if nv b=0 then([],[],3)else(yB<|nv a/nv b,yB<|nv a%nv b,0)):=by
 unfold Ug;have h1:=xd r;have h2:=xd u;rw[za (xW r W W),za<|xW u W W];generalize nv a=x at*
 generalize nv b=y at*
 by_cases h0:y=0
 ·subst h0;rw[iq O];rfl
 ·have hE:=vD (n:=y) W;rw[zB,za O,ir h0];simp only[xak,ut];rw[za<|aG (zu x)<|zu y,yg,yg];by_cases w:x<y
  ·rw[qe W,iq gS,za O];simp only[uL];rw[za<|Wj<|zu x,yg,xbg w,xam w];rfl
  ·have hv:¬jt (x:J) (y:J)<0:=by
    obtain h|h:=xbW y x
    ·rw[vo W];decide
    ·rw[jU W];decide
   rw[ir hv,za O];simp only[xak,ut];have⟨n,hn⟩:∃n,n=X (yB y):=⟨_,O⟩;have hi:=(zu y).getD<|n-1;by_cases hA:n=1
   ·have M:(yB y).getD 0 0=y:=by
     rw[ZA,xeH,xdK,xam];have:=(zL 1 y).1 W;simpa using this
    have P:y<18446744073709551616:=by have:=(zL 1 y).1 W;simpa using this
    rw[zT,show(0:J)=((0:K):J)from O,zY,zf,M,za (CT (zu x) P W W W),yg];simp only;have Q:=xaS x (W:0<y);rw[za (xm (bZ W) gT<|by simp;lia),pW]
   ·have⟨s,z⟩:∃s,s=64-bl ((yB y).getD (n-1) 0):=⟨_,O⟩;have⟨f,v1,A,v3⟩:=zjI W hn z;have⟨V,g⟩:∃V,V=y*2^s:=⟨_,O⟩;have⟨U,e⟩:∃U,U=x*2^s:=⟨_,O⟩;have⟨d,R⟩:∃d,d=X (yB x):=⟨_,O⟩;have hB:n<=d:=by rw[hn,R];exact Q6 W
    have B:x<18446744073709551616^d:=(zL d x).1 W;have hl:2^s<=9223372036854775808:=by
     rw[(gS:(9223372036854775808:K)=2^63)];exact xav gS f
    have S:U<18446744073709551616^(d+1):=by
     rw[e,xbf];exact xao (xbX B<|xaU gS)<|xaD _ W
    have hF:X (yB U)<=d+1:=(zL _ _).2 S;rw[<-g]at v1 A v3;have e1:(((X (yB y):K):J))-1=((n-1:K):J):=W
    rw[zB,e1,zb,zY,zf,za<|jJ hi,<-z,za<|Qq<|zu y,yg,<-g];simp only;rw[za<|Qq<|zu x,yg,<-e];simp only;have T:(((X (yB x):K):J))+1=((d+1:K):J):=W
    have Y:((d+1:K):J)-((X (yB U):K):J)=((d+1-X (yB U):K):J):=W
    rw[T,zb,Y,zb,yR,yV,zf];have⟨t8,hc⟩:∃t8,t8=yB U++xac (d+1-X (yB U)) 0:=⟨_,O⟩;have i:zm t8:=by rw[hc];exact(zu U).append<|zm.replicate _
    have a0:X t8=d+1:=by rw[hc,xap,xaZ];lia
    have j:nv t8=U:=by rw[hc,kE,Qi,xcK,xbK,yg]
    have⟨c,hG⟩:∃c,c=d+1-n:=⟨_,O⟩;have e4:(X t8:J)-((X (yB V):K):J)=(c:J):=W
    rw[<-hc,e4,zb,yR,yV,zf,xaZ,zb];have C:0<V:=by
     have:0<18446744073709551616^(n-1):=xaU gS;lia
    have hz:0<18446744073709551616^c:=xaU gS;have D:U<18446744073709551616^c*V:=by
     have k1:18446744073709551616^c*(9223372036854775808*18446744073709551616^(n-1))<=18446744073709551616^c*V:=xaD _ v1;have k2:18446744073709551616^c*(9223372036854775808*18446744073709551616^(n-1))=18446744073709551616^d*9223372036854775808:=by
      rw[xaO 9223372036854775808,<-xaP,<-xbz];congr 2;lia
     have k3:U<18446744073709551616^d*9223372036854775808:=by
      rw[e];exact xao (xbX B<|xaU gS)<|xaD _ hl
     lia
    have E:U/18446744073709551616^c<V:=by rw[xaX hz,xaO];exact D
    have l:∃t,zm t/\X t=c+n/\nv t=U%V/\zg (W4 fu (s:J)<|yB V) fu (yB V,(c:J)-1,t8,xac c 0)=Z (t,wO c<|U/V):=by
     refine⟨wO (c+n)<|U%V,wj _ _,zX _ _,?_,?_⟩
     ·rw[kq,xam];have h5:=xaS U C;exact xao (xfb h5 A)<|xav gS W
     ·refine zA (λq:N K×J×N K×N K=>∃(m:K) (t:N K),m<=c/\zm t/\X t=c+n/\nv t=U/18446744073709551616^m%V*18446744073709551616^m+U%18446744073709551616^m/\q=(yB V,(m:J)-1,t,xac m 0++wO (c-m) (U/18446744073709551616^m/V))) (λq=>(q.2.1+1).toNat) _ ?_ _ _ ⟨c,t8,Nm _,i,W,?_,?_⟩ (by show((c:J)-1+1).toNat<fu;lia)
      ·rintro q L ⟨m,t,Q,F,G,hd,rfl⟩ ih
       cases m with
       |zero=>
        unfold W4;simp only;rw[zB];rw[xeH,xdU,Nat.mod_one,xbK,xdK]at hd;have:=eY F;rw[G,hd]at this;rw[this];simp
       |succ m=>
        have⟨t',g1,H,o,p⟩:=zcb (fu:=fu) (k:=m) (s:=(s:J)) (L:=L) (zu V) v3 (yg V) W v1 F G W W W hd;rw[(W:((m+1:K):J)-1=(m:J)),p];exact ih _ ⟨m,t',W,g1,H,o,O⟩ (by show((m:J)-1+1).toNat<(((m+1:K):J)-1+1).toNat;lia)
      ·rw[j,xam E,xaO];exact(xbt U _).symm
      ·rw[xbg E,xcQ];simp[wO]
    have⟨t,g1,H,o,p⟩:=l;rw[za p];simp only;have he:U/V<18446744073709551616^c:=by rw[xaX C];exact D
    have hp:0<2^s:=xaU gS;rw[za (xm (wj _ _) (by rw[zX];lia)<|by rw[zX];lia),kq,xam he,za (mi g1 W W W),o];rw[e,g,xfG _ _ hp,xeb,xfj _ hp]
end
section
variable{x:xS wr}{i d0 fu U y j r:wr}
theorem Ij{t:N K}{c:K}(a:X t=i)(h:nw t+4294967296^i*c=2*nw (x.take i)+d0):
 nw (t++[(x.getD i 0*2+c)%4294967296])+4294967296^(i+1)*((x.getD i 0*2+c)/4294967296)=2*nw (x.take<|i+1)+d0:=by
 rw[Bm,jY];have:=xbt (x.getD i 0*2+c) 4294967296;grind
def zjR{t1 t2:N K}(g:xf x)(hl:X x<=1000000)(hd:d0<=1)(v:2000000<fu):
 ∃t d,zg (Ki fu x) fu (t1,t2,[],d0,0)=Z (t1,t2,t,d)/\xf (t++[d])/\X t=X x/\nw (t++[d])=2*nw x+d0:=by
 have w:=VS g;have⟨T,f⟩:∃T,T=ki (X x+1) (2*nw x+d0):=⟨_,O⟩;have n:2*nw x+d0<4294967296^(X x+1):=by rw[xbf];lia
 have o:X T=X x+1:=by rw[f,yQ]
 have h:nw T=2*nw x+d0:=by rw[f,YA,xam n]
 have k:xf T:=by rw[f];exact qs _ _
 have l:T=T.take (X x)++[T.getD (X x) 0]:=by
  have e:=(xbv (X x) T).symm;have b:T.drop (X x)=[T.getD (X x) 0]:=by
   rw[xbT W,xcd W,H1,xah W];rfl
  rw[b]at e;exact e
 refine⟨T.take (X x),T.getD (X x) 0,?_,by rw[<-l];exact k,by rw[xax];lia,by rw[<-l];exact h⟩;refine zA (λs:N K×N K×N K×K×J=>∃(t:N K) (c i:K),s=(t1,t2,t,c,(i:J))/\i<=X x/\X t=i/\xf t/\c<=1/\nw t+4294967296^i*c=2*nw (x.take i)+d0) (λs=>X x-s.2.2.2.2.toNat) _ ?_ _ _ ⟨[],d0,0,O,W,O,xf.nil,hd,by simp[nw]⟩ (by show X x-0<fu;lia);rintro s L ⟨t,c,i,rfl,hi,a,m,hc,hv⟩ p;unfold Ki;simp only;by_cases h1:i<X x
 ·have b1:=g.getD i;have b:(x.getD i 0*2%18446744073709551616+c)%18446744073709551616=x.getD i 0*2+c:=W
  have q:x.getD i 0/2^(min (((31:K)):J).toNat 64)=(x.getD i 0*2+c)/4294967296:=by
   rw[(gS:min (((31:K)):J).toNat 64=31)];lia
  rw[zT,zo h1,zf,zf,zf,b,zf,C6,xB (by simp[a];lia),zf,zo h1,zf,zf,q,zb];exact p _ ⟨_,_,i+1,O,W,by simp[a],m.append<|xf.cons (xaS _ gS) xf.nil,W,Ij a hv⟩ (by show X x-((i:J)+1).toNat<X x-(i:J).toNat;lia)
 ·rw[zB];obtain rfl:i=X x:=W
  rw[xcw]at hv;have u:xf (t++[c]):=m.append<|xf.cons W xf.nil;have:T=t++[c]:=by
   refine DH k u (by simp[a,o]) ?_;rw[h,Bm,a,hv]
  have e1:T.take (X x)=t:=by rw[this,<-a];simp
  have b:T.getD (X x) 0=c:=by rw[this,<-a];simp[H1]
  rw[e1,b]
theorem zmM(b:0<y):(y<=2*(U/2^(i+1)%y)+U/2^i%2->U/2^i/y=2*(U/2^(i+1)/y)+1/\U/2^i%y=2*(U/2^(i+1)%y)+U/2^i%2-y)/\(2*(U/2^(i+1)%y)+U/2^i%2<y->U/2^i/y=2*(U/2^(i+1)/y)/\U/2^i%y=2*(U/2^(i+1)%y)+U/2^i%2):=by
 have d:U/2^(i+1)=U/2^i/2:=by rw[xbf,xaE]
 rw[d];generalize U/2^i=V;have h1:=xbt (V/2) y;have e:=xaS (V/2) b;generalize V/2/y=q at*
 generalize V/2%y=r at*
 have a:∀Q R,V=y*Q+R->R<y->V/y=Q/\V%y=R:=λQ R h c=>by
  rw[h];exact⟨by rw[Nat.mul_add_div b,xbg c,xbK],by rw[Nat.mul_add_mod,xam c]⟩
 refine⟨λh=>a _ _ ?_ W,λh=>a _ _ ?_ W⟩
 ·grind
 ·grind
def zpC(x:K):x &&& 1=x%2:=Nat.and_two_pow_sub_one_eq_mod x 1
def zcW(a:r<32):U/4294967296^j%4294967296/2^r%2=U/2^(32*j+r)%2:=by
 rw[xbz,xcz,(gS:2^32=4294967296),<-xaE];rw[show 4294967296=2^r*2^(32-r)by rw[<-xbz,(W:r+(32-r)=32)],Nat.mod_mul_right_div_self,show 2^(32-r)=2*2^(31-r)by rw[<-xdO,(W:(31-r).succ=32-r)],Nat.mod_mul_right_mod]
def zmK{Q:K}(d:r<32):(Q*2^(32*j+r+1)/4294967296^j%4294967296)|||1*2^r%18446744073709551616=Q*2^(32*j+r+1)/4294967296^j%4294967296+2^r/\Q*2^(32*j+r+1)/4294967296^j%4294967296+2^r<4294967296:=by
 have e1:Q*2^(32*j+r+1)/4294967296^j=Q*2^(r+1):=by rw[xcU,xbz,xcz,(gS:(2:K)^32=4294967296),xdv,Nat.mul_div_cancel_left _<|xaU gS]
 have b:Q*2^(r+1)%4294967296=Q%2^(31-r)*2^(r+1):=by rw[show(4294967296:K)=2^(31-r)*2^(r+1)by rw[<-xbz,(W:31-r+(r+1)=32)],xeb]
 have h1:2^r<2^(r+1):=xeP gS W;have e:2^r<=2147483648:=by
  rw[(gS:(2147483648:K)=2^31)];exact xav gS W
 rw[e1,b,xcy,xam (a:=2^r) W,Mv h1];refine⟨O,?_⟩;have c:(Q%2^(31-r)+1)*2^(r+1)<=2^(31-r)*2^(r+1):=xan _ (xaS _<|xaU gS);rw[<-xbz,(W:31-r+(r+1)=32),xbb,xcy]at c;lia
def zgv(k:0<y)(Y:X (Va U)<=80000)(A:X (Va y)<=80000)(hf:3000000<=fu):
 zg (Kl fu (Va y)<|Va U) fu ([],32*((X (Va U):K):J)-1,xac (X (Va U)) 0)=Z (Va<|U%y,ki (X (Va U))<|U/y):=by
 have⟨n,hn⟩:∃n,n=X (Va U):=⟨_,O⟩;have c:U<2^(32*n):=by
  rw[xcz,(gS:(2:K)^32=4294967296)];exact(w6 _ _).1 W
 rw[<-hn];refine zA (λs:N K×J×N K=>∃(m:K),m<=32*n/\s=(Va<|U/2^m%y,(m:J)-1,ki n<|U/2^m/y*2^m)) (λs=>(s.2.1+1).toNat) _ ?_ _ _ ⟨32*n,Nm _,?_⟩ (by show(32*(n:J)-1+1).toNat<fu;lia)
 ·rintro s L ⟨m,hm,rfl⟩ l;unfold Kl;simp only
  cases m with
  |zero=>rw[zB,xeH,xdK,xdU]
  |succ i=>
   have⟨j,B⟩:∃j,j=i/32:=⟨_,O⟩;have⟨r,C⟩:∃r,r=i%32:=⟨_,O⟩;have hd:r<32:=W
   have hi:i=32*j+r:=W
   have D:((i+1:K):J)-1=(i:J):=W
   have E:xct (i:J) (32:J)=(j:J):=by rw[B];rfl
   have F:xca (i:J) (32:J)=(r:J):=by rw[C];rfl
   have b:j<n:=W
   have a:min (r:J).toNat 64=r:=W
   have hv:(Va U).getD j 0=U/4294967296^j%4294967296:=by rw[ab<|vS U,qm]
   have G:(Va U).getD j 0/2^r%2=U/2^i%2:=by rw[hv,zcW hd,<-hi]
   have o:=xaS (U/2^(i+1)) k;have⟨R,e⟩:∃R,R=U/2^(i+1)%y:=⟨_,O⟩;rw[<-e]at o;have H:y<4294967296^X (Va y):=(w6 _ _).1<|Nm _;have hA:X (Va R)<=80000:=xal ((w6 (X (Va y)) R).2<|xfb o H) A;have hl:X (Va<|2*R+U/2^i%2)<=1000000:=by
    refine xal ((w6 (X (Va y)+1) _).2 ?_) (W:X (Va y)+1<=1000000);rw[xbf];lia
   have⟨t,d,g1,M,f,p⟩:=zjR (fu:=fu) (d0:=U/2^i%2) (t1:=Va y) (t2:=Va U) (vS R) W W W;rw[qm]at p;have⟨q,u⟩:=zmM (U:=U) (i:=i) k;rw[<-e]at q u;have P:U/2^(i+1)/y*2^(i+1)<4294967296^n:=by
    rw[show(4294967296:K)^n=2^(32*n)by rw[xcz,(gS:(2:K)^32=4294967296)]];refine xaK ?_ c;exact xal (xan _<|xcp _ _)<|xcS _ _
   have v:2*(U/2^(i+1)/y)*2^i=U/2^(i+1)/y*2^(i+1):=by rw[xbf,xaO<|2^i,<-xaP,xaO 2]
   rw[D,<-e,zT,xB gS,E,zb,zY,zf,xB gS,F,zf,yV,zf,a,zf,zpC,G];rw[za g1];simp only;rw[xB (by simp[f];lia),zf,za (Q1 M (by simp[f];lia)<|by simp[f];lia),p,za (QP (fu:=fu) (vS _) (vS y) ?_ W W),qm,qm];by_cases hc:y<=2*R+U/2^i%2
   ·have⟨w1,g⟩:=q hc;have S:(0:J)<=jt ((2*R+U/2^i%2:K):J) (y:J):=by
     rcases xbW y (2*R+U/2^i%2)with h|h
     ·rw[vo<|Int.ofNat_lt.2 h];decide
     ·rw[jU<|by rw[xcR h hc]];decide
    have⟨o1,o2⟩:=zmK (Q:=U/2^(i+1)/y) (j:=j) hd;rw[<-hi]at o1 o2;have w:(ki n<|U/2^(i+1)/y*2^(i+1)).getD j 0=U/2^(i+1)/y*2^(i+1)/4294967296^j%4294967296:=Gm _ _ _ b;have hp:(ki n<|U/2^(i+1)/y*2^(i+1)).set j (U/2^(i+1)/y*2^(i+1)/4294967296^j%4294967296+2^r)=ki n (U/2^i/y*2^i):=by
     refine DH ((qs _ _).set j o2) (qs _ _) (by rw[xbC,yQ,yQ]) ?_;have h1:=H6 (ki n<|U/2^(i+1)/y*2^(i+1)) j (U/2^(i+1)/y*2^(i+1)/4294967296^j%4294967296+2^r) (by rw[yQ];exact b);rw[w,YA,xam P,xbk]at h1;have h2:4294967296^j*2^r=2^i:=by rw[hi,xbz,xcz,(gS:(2:K)^32=4294967296)]
     have T:U/2^i/y*2^i=U/2^(i+1)/y*2^(i+1)+2^i:=by rw[w1,xbb,xcy,v]
     have V:U/2^i/y*2^i<4294967296^n:=by
      rw[show(4294967296:K)^n=2^(32*n)by rw[xcz,(gS:(2:K)^32=4294967296)]];refine xaK ?_ c;exact xal (xan _<|xcp _ _)<|xcS _ _
     rw[YA,xam V,T];lia
    rw[iq S,za O,iq O,za (aN (fu:=fu) (vS _) (vS y) hl W<|by rw[qm,qm];exact hc),qm,qm];rw[xB gS,zb,xB gS,zb,zo (by rw[yQ];exact b),zf,xB gS,zf,yV,a,zf,zf,w,o1,zo (by rw[yQ];exact b),zf,hp,zb,<-g];exact l _ ⟨i,W,O⟩ (by show((i:J)-1+1).toNat<(((i+1:K):J)-1+1).toNat;lia)
   ·have z:=xdf hc;have⟨w1,g⟩:=u z;rw[qe<|Int.ofNat_lt.2 z,ir gS,za O];simp only[xak,ut];rw[zb,<-g,<-v,<-w1];exact l _ ⟨i,W,O⟩ (by show((i:J)-1+1).toNat<(((i+1:K):J)-1+1).toNat;lia)
   ·exact hl
 ·rw[xbg c,xfW,Nat.zero_div,xcu,rk,dw,(W:(32:J)*(n:J)-1=((32*n:K):J)-1)]
def DZ{a b:N K}(c:zm a)(d:zm b)(hd:X a<=40000)(h:X b<=40000)(e:3000000<=fu):
 J6 fu a b=Z (if nv b=0 then([],[],3)else(yB<|nv a/nv b,yB<|nv a%nv b,0)):=by
 unfold J6;have l1:=W0 c;have k:=W0 d;have f:=xQ (fu:=fu) c;rw[za<|xQ d];generalize nv a=U at*
 generalize nv b=y at*
 by_cases h0:y=0
 ·subst h0;rfl
 ·have l:=Nb (n:=y) W;have hc:U<4294967296^X (Va U):=(w6 _ _).1<|Nm _;have hi:X (Va<|U%y)<=X (Va y):=(w6 _ _).2<|xfb (xaS _ W)<|(w6 _ _).1<|Nm _;rw[zB,ir h0,za f,yR,yV,zf,zb,zb,za<|zgv W W W e];simp only;have g:U/y<4294967296^X (Va U):=xaK (xcp _ _) hc;rw[za (ju (qs _ _) (by rw[yQ];lia)<|by rw[yQ];lia),YA,xam g,za (ju (vS _) W W),qm]
end
section
variable{k fu:wr}{x y:wl}{a b m:Zr}
def a8(z:M):Prop:=zm z.2/\X z.2<=40000
theorem a8.ok{z:M}(h:a8 z):U7 z:=⟨h.1,xal h.2 gS⟩
def Bz.okS(h:Bz k x)(c:k<=40000):a8 (yp x):=⟨yG x,xal ((zL _ _).2 h) c⟩
def Bz.len(h:Bz k x):(yp x).2.length<=k:=(zL _ _).2 h
theorem zaL{q r:J}(c:y≠0)(h:y*q+r=x)(h0:0<=r:=by lia)(h1:r<(y.natAbs:J):=by lia):x/y=q/\x%y=r:=by grind [Int.ediv_emod_unique',Int.ediv_emod_unique]
def Lj(x y:J):M×M×J:=if y=0 then((I,[]),(I,[]),3)else(yp<|x/y,yp<|x%y,0)
theorem Ny{q0 r0:K}(n:nv b.2≠0)(j:q0=nv a.2/nv b.2)(f:r0=nv a.2%nv b.2):
 (¬(a.1=wF/\0<r0)->zv a/zv b=(if(!(a.1==b.1))=wF then-(q0:J)else(q0:J))/\zv a%zv b=(r0:J))/\
 (a.1=wF/\0<r0->zv a/zv b=(if(!(a.1==b.1))=wF then-((q0+1:K):J)else((q0+1:K):J))/\zv a%zv b=((nv b.2-r0:K):J)):=by
 have hd:=xbt (nv a.2)<|nv b.2;have l:=xaS (nv a.2) (W:0<nv b.2);rw[<-j,<-f]at hd;rw[<-f]at l;have g:zv b≠0:=by have:=vO b;lia
 have o:=vO b;have hc:((nv b.2:K):J)*(q0:J)+(r0:J)=((nv a.2:K):J):=by rw[<-hd];simp
 refine⟨λh=> ?_,λh=> ?_⟩
 ·refine zaL g ?_;rcases xT a with⟨h1,e⟩|⟨h1,e⟩<;>rcases xT b with⟨c,d⟩|⟨c,d⟩<;>rw[h1,c,e,d]
  ·grind
  ·grind
  ·rw[iq gS,Int.neg_mul_neg];lia
  ·rw[ir gS];lia
 ·refine zaL g ?_;have⟨h1,hp⟩:=h;have e1:((nv b.2-r0:K):J)=((nv b.2:K):J)-(r0:J):=W
  have i:((nv b.2:K):J)*(((q0+1:K)):J)=((nv b.2:K):J)*(q0:J)+((nv b.2:K):J):=by rw[xeD,xfx];simp
  rcases xT a with⟨_,e⟩|⟨h,_⟩
  ·rcases xT b with⟨c,d⟩|⟨c,d⟩<;>rw[h1,c,e,d,e1]
   ·rw[ir gS,Int.neg_mul,i];lia
   ·rw[iq gS,Int.mul_neg,i];lia
  ·rw[h1]at h;cases h
theorem Bk:zv b=0↔nv b.2=0:=by
 have:=vO b;lia
theorem KK(d:a8 a)(c:a8 b)(j:3000000<=fu):X4 fu a b=Z (Lj (zv a)<|zv b):=by
 unfold X4 Lj;have l:=d.2;have i:=c.2;rw[U<|mI d.1 c.1 W W j];by_cases h0:nv b.2=0
 ·rw[iq h0,iq<|Bk.2 h0];rfl
 ·rw[ir h0,ir<|λh=>h0<|Bk.1 h];simp only[uL];have⟨q0,e⟩:∃q0,q0=nv a.2/nv b.2:=⟨_,O⟩;have⟨r0,f⟩:∃r0,r0=nv a.2%nv b.2:=⟨_,O⟩;have n:X (yB q0)<=40000:=by
   refine xal ((zL (X a.2) q0).2 ?_) l;rw[e];exact xaK (xcp _ _)<|vH d.1
  have hd:r0<nv b.2:=by rw[f];exact xaS _ W
  have q:X (yB r0)<=40000:=xal ((zL (X b.2) r0).2<|xfb hd<|vH c.1) i;have o:X (yB<|nv b.2-r0)<=40000:=xal ((zL (X b.2) _).2<|xaK (xfa _ _)<|vH c.1) i;have⟨k1,k2⟩:=Ny h0 e f;rw[<-e,<-f];have p:X (yB<|q0+1)<=40001:=uz (y:=1) n gS;by_cases hc:a.1=wF/\0<r0
  ·have⟨w1,g⟩:=k2 hc;have:=vD hc.2;rw[iq hc.1,zT,U (v:=(yB<|q0+1,yB<|nv b.2-r0))]
   ·rw[w1,g];simp only;rw[zf,U (yD (zu _) W W),U (yD (zu _) W W),yg,yg];rfl
   ·rw[U (Zk (zu _) (bZ gS) W gT<|by simp;lia),yg,pW,U (Qw c.1 (zu _) W W W),yg,zB]
  ·have⟨w1,g⟩:=k1 hc;rw[U (v:=(yB q0,yB r0))]
   ·rw[w1,g];simp only;rw[zf,U (yD (zu _) W W),U (yD (zu _) W W),yg,yg];rfl
   ·by_cases h1:a.1=wF
    ·have:r0=0:=xfq λhp=>hc ⟨h1,hp⟩;subst this;rw[iq h1,ir gS]
    ·rw[ir h1]
def cW(e:a8 a)(c:a8 b)(d:3000000<=fu):W9 fu a b=Z (Lj (zv a)<|zv b):=by
 unfold W9 Lj;have l:=e.2;have j:=c.2;rw[U<|DZ e.1 c.1 W W d];by_cases h0:nv b.2=0
 ·rw[iq h0,iq<|Bk.2 h0];rfl
 ·rw[ir h0,ir<|λh=>h0<|Bk.1 h];simp only[uL];have⟨q0,f⟩:∃q0,q0=nv a.2/nv b.2:=⟨_,O⟩;have⟨r0,g⟩:∃r0,r0=nv a.2%nv b.2:=⟨_,O⟩;have n:X (yB q0)<=40000:=by
   refine xal ((zL (X a.2) q0).2 ?_) l;rw[f];exact xaK (xcp _ _)<|vH e.1
  have hd:r0<nv b.2:=by rw[g];exact xaS _ W
  have q:X (yB r0)<=40000:=xal ((zL (X b.2) r0).2<|xfb hd<|vH c.1) j;have o:X (yB<|nv b.2-r0)<=40000:=xal ((zL (X b.2) _).2<|xaK (xfa _ _)<|vH c.1) j;have⟨k1,k2⟩:=Ny h0 f g;rw[<-f,<-g];have p:X (yB<|q0+1)<=40001:=uz (y:=1) n gS;by_cases hc:a.1=wF/\0<r0
  ·have⟨w1,i⟩:=k2 hc;have:=vD hc.2;rw[iq hc.1,zT,U (v:=(yB<|q0+1,yB<|nv b.2-r0))]
   ·rw[w1,i];simp only;rw[zf,U<|yM (zu _) (by show(yB _).length<=_;lia) d,U<|yM (zu _) (by show(yB _).length<=_;lia) d,DI,DI];rfl
   ·rw[U (dn (zu _) (bZ gS) W gT W),yg,pW,U (Q3 c.1 (zu _) W W W),yg,zB]
  ·have⟨w1,i⟩:=k1 hc;rw[U (v:=(yB q0,yB r0))]
   ·rw[w1,i];simp only;rw[zf,U<|yM (zu _) (by show(yB _).length<=_;lia) d,U<|yM (zu _) (by show(yB _).length<=_;lia) d,DI,DI];rfl
   ·by_cases h1:a.1=wF
    ·have:r0=0:=xfq λhp=>hc ⟨h1,hp⟩;subst this;rw[iq h1,ir gS]
    ·rw[ir h1]
def Gb(x m:J):M×J:=if m<=0 then((I,[]),1)else(yp<|x%m,0)
def near(x m:J):J:=if m<x%m+x%m then x%m-m else x%m
def zgO(x m:J):M×J:=if m<=0 then((I,[]),1)else(yp<|near x m,0)
theorem Bz.emod{m:J}(c:Bz k m)(h0:0<m):Bz k (x%m):=by
 have h1:=xcT x (W:m≠0);have d:=xdI x h0;exact c.le W
theorem Bz.near{k:K}{x m:J}(c:Bz k m)(h0:0<m):Bz k (near x m):=by
 have h1:=xcT x (W:m≠0);have d:=xdI x h0;refine c.le ?_;unfold Go.Proofs.YtoegnnjcmlghhaaGreat.near;lia
theorem Lb:jt x 0<=0↔x<=0:=by grind [qe,jU,vo]
theorem OJ:0<jt x y↔y<x:=by grind [qe,jU,vo]
theorem xi:jt x y=0↔x=y:=by grind [qe,jU,vo]
theorem ZJ(c:a8 a)(d:a8 m)(e:3000000<=fu):qG fu a m=Z (Gb (zv a)<|zv m):=by grind [qG,Lj,Gb,U,xn,a8.ok,Lb,KK]
def AJ(g:a8 a)(d:a8 m)(f:3000000<=fu):YC fu a m=Z (zgO (zv a)<|zv m):=by
 unfold YC zgO;rw[U<|ZJ g d f];unfold Gb;by_cases h:zv m<=0
 ·simp_all
 ·have c:Bz 40000 (zv a%zv m):=Bz.emod ((Bz.of d.1).mono d.2) W;rw[ir h,ir h];simp only[uL];have hl:=d.2;have i:=(c.add c).ok W;have j:=(c.add c).len;rw[U<|qL (c.okS W).ok (c.okS W).ok f,zn,U<|ZC i d.ok f,zn];unfold near;by_cases hc:zv m<zv a%zv m+zv a%zv m
  ·rw[iq<|OJ.2 hc,iq hc,U<|qO (c.okS W).ok d.ok f,zn]
  ·rw[ir<|λe=>hc<|OJ.1 e,ir hc]
end
section
variable{f g:wr->wl}{j m k fu:wr}{p:xS Zr}
def zi(n:K)(f:K->J):N M:=(xaH n).map λk=>yp<|f k
def cf(p:N M)(k:K):J:=zv<|p.getD k (I,[])
def dg(f:K->J):K->K
 |0=>0
 |n+1=>if f n=0 then dg f n else n+1
def wk(n:K)(f:K->J):N M:=zi (dg f n) f
def yH(k:K)(p:N M):Prop:=∀z∈p,zm z.2/\X z.2<=k
def Y8(f:K->J)(j:K)(v:J):K->J:=λk=>if k=j then v else f k
theorem Z8(p:N M)(k:K):zv (p.getD k (I,[]))=cf p k:=O
theorem yc(n:K)(f:K->J):X (zi n f)=n:=by unfold zi;simp
theorem ZY{n:K}(h:j<n):(zi n f).getD j (I,[])=yp (f j):=by simp_all [zi]
theorem y6{n:K}(h:∀k,k<n->f k=g k):zi n f=zi n g:=by simp_all [zi]
theorem U2{n:K}{v:J}:(zi n f).set j (yp v)=zi n (Y8 f j v):=by
 refine xcH λi=> ?_;unfold zi Y8;by_cases h:j=i
 ·grind
 ·grind
theorem zeG:yp 0=(I,[]):=O
theorem az(n:K):xac n (I,[])=zi n (λ_=>0):=by grind [zi,zeG,List.map_const',xep]
theorem mN{n:K}:zi n f++[yp<|f n]=zi (n+1) f:=by grind [zi,xdl]
theorem Ph{n:K}(h:j<n):cf (zi n f) j=f j:=by unfold cf;rw[ZY h,zn]
theorem zW(h:X p<=j):cf p j=0:=by
 unfold cf;rw[H1,xbD h];rfl
theorem Jz{n:K}(h:∀k,n<=k->f k=0)(j:K):cf (zi n f) j=f j:=by grind [Ph,zW,yc]
theorem qg(f:K->J):∀n,dg f n<=n
 |0=>Nm _
 |n+1=>by unfold dg;split;exact xal (qg f n)<|xbN _;exact Nm _
theorem Vy(f:K->J):∀n k,dg f n<=k->k<n->f k=0
 |0,k,_,h=>wR h<|xbn _
 |n+1,k,h1,a=>by
  unfold dg at h1;split at h1
  ·rename_i h0;by_cases b:k=n
   ·simp_all
   ·exact Vy f n k h1 W
  ·lia
theorem Vv(f:K->J):∀n,dg f n≠0->f (dg f n-1)≠0
 |0,h=>wR O h
 |n+1,h=>by
  unfold dg at h⊢;split
  ·rename_i h0;rw[iq h0]at h;exact Vv f n h
  ·simp_all
theorem J5{n d:K}(h1:d<=n)(b:∀k,d<=k->k<n->f k=0)(h3:d=0\/f (d-1)≠0):dg f n=d:=by
 have a:=qg f n;rcases Nat.lt_trichotomy (dg f n) d with h|h|h
 ·obtain h3|h3:=h3
  ·lia
  ·exact wR (Vy f n (d-1) W W) h3
 ·exact h
 ·exact wR (b (dg f n-1) W W)<|Vv f n W
theorem YM{n:K}(b:∀k,n<=k->f k=0)(c:∀k,m<=k->g k=0)(h:∀k,f k=g k):wk n f=wk m g:=by
 have e:dg f n=dg g m:=by
  refine J5 ?_ ?_ ?_
  ·refine xbu λd=> ?_;have:=Vv g m W;grind
  ·intro k h1 i;rw[h];by_cases a:k<m
   ·exact Vy g m k h1 a
   ·simp_all
  ·by_cases h0:dg g m=0
   ·lia
   ·right;rw[h];exact Vv g m h0
 unfold wk;rw[e];exact y6 λk _=>h k
theorem xw(n:K)(f:K->J):X (wk n f)=dg f n:=yc _ _
def jo{n:K}(h:∀k,n<=k->f k=0)(j:K):cf (wk n f) j=f j:=by
 refine Jz (λk a=> ?_) j;by_cases hn:k<n
 ·exact Vy f n k a hn
 ·simp_all
def yH.get(h:yH k p)(j:K):zm (p.getD j (I,[])).2/\(p.getD j (I,[])).2.length<=k:=by
 rw[H1];by_cases a:j<X p
 ·rw[xah a];exact h _<|xbE a
 ·rw[xbD W];exact⟨zm.nil,xai _⟩
theorem yH.okZ(h:yH k p)(a:k<=100000)(j:K):U7 (p.getD j (I,[])):=⟨(h.get j).1,xal (h.get j).2 a⟩
def yH.okS(h:yH k p)(a:k<=40000)(j:K):a8 (p.getD j (I,[])):=⟨(h.get j).1,xal (h.get j).2 a⟩
theorem yH.bz(h:yH k p)(j:K):Bz k (cf p j):=(Bz.of (h.get j).1).mono (h.get j).2
def yH.mono(h:yH j p)(b:j<=k):yH k p:=λz a=>⟨(h z a).1,xal (h z a).2 b⟩
theorem Bz.zero(k:K):Bz k 0:=xaU gS
def Yf{n:K}(h:∀j,Bz k<|f j):yH k (zi n f):=λz a=>by
 obtain⟨j,_,rfl⟩:=xat.1 a;exact⟨yG _,(h j).len⟩
def A7{a:J->M->V M}(hl:X p<=1000000)(l:2000000<fu)(h:∀j:K,j<X p->a (j:J) (p.getD j (I,[]))=Z (yp<|g j)):
 zH fu p a=Z (zi (X p) g):=by
 unfold zH;rw[yR,yV,zf,az,U];refine zA (λs:J×N M=>∃i:K,i<=X p/\s=((i:J),zi (X p) (λk=>if k<i then g k else 0))) (λs=>X p-s.1.toNat) _ ?_ _ _ ⟨0,xai _,by rw[y6 (g:=λk=>if k<0 then g k else 0)<|λk _=>by rw[zB]];rfl⟩ (by show X p-0<fu;lia);rintro s L ⟨i,hi,rfl⟩ c;unfold w5;simp only;by_cases h1:i<X p
 ·rw[zT,U O];simp only[uL];rw[zo h1,zf,U<|h i h1,zo (by rw[yc];exact h1),zf,U2,zb];refine c _ ⟨i+1,W,?_⟩ (by show X p-((i:J)+1).toNat<X p-(i:J).toNat;lia);congr 1;refine y6 λk d=> ?_;unfold Y8;by_cases e:k=i
  ·rw[iq e,zT,e]
  ·rw[ir e];show(if k<i then g k else 0)=_;by_cases b:k<i
   ·rw[iq b,zT]
   ·rw[ir b,zB]
 ·rw[zB,U O];simp only[xak,ut];congr 1;exact y6 λk d=>by rw[zT]
def oj(h:f m=0):dg f (m+1)=dg f m:=by conv=>lhs;unfold dg;rw[iq h]
def cn(h:f m≠0):dg f (m+1)=m+1:=by conv=>lhs;unfold dg;rw[ir h]
theorem Hd(h:j<m):(p.take m).getD j (I,[])=p.getD j (I,[]):=by grind
theorem zI(h:yH k p)(c:k<=100000)(hl:X p<=1000000)(d:3000000<=fu):zM fu p=Z (wk (X p)<|cf p):=by
 unfold zM;have hd:=qg (cf p) (X p);rw[U (v:=p.take<|dg (cf p) (X p))]
 ·have a:X (p.take<|dg (cf p) (X p))=dg (cf p) (X p):=by rw[xax];lia
  rw[U<|A7 (g:=cf p) W W ?_,a]
  ·rfl
  ·intro j i;rw[a]at i;unfold Je;rw[Hd i,U<|ZT (h.okZ c j) d];rfl
 ·refine zA (λt:N M=>∃m,m<=X p/\t=p.take m/\dg (cf p) m=dg (cf p) (X p)) (λt=>X t) _ ?_ _ _ ⟨X p,Nm _,xcw.symm,O⟩ W;rintro t L ⟨m,n,rfl,b⟩ l;have a:X (p.take m)=m:=by rw[xax];lia
  unfold bC
  cases m with
  |zero=>
   rw[zB,<-b];rfl
  |succ m=>
   rw[zT,a,(W:((m+1:K):J)-1=(m:J)),zb,zY,zf,Hd W,U<|xn (h.okZ c m) d,Z8];by_cases h0:cf p m=0
   ·rw[iq<|xi.2 h0,zb,yR,yV,zf,List.take_take,(W:min m (m+1)=m)];exact l _ ⟨m,W,O,by rw[<-oj h0,b]⟩<|by rw[a,xax];lia
   ·rw[ir<|λe=>h0<|xi.1 e,<-b,cn h0]
theorem y9(h:yH k p)(d:k<=100000)(hl:X p<=1000000)(c:3000000<=fu):xI fu p=Z (wk (X p)<|cf p):=by
 unfold xI;have hd:=qg (cf p) (X p);rw[U (v:=((dg (cf p) (X p):K):J))]
 ·rw[U (v:=wk (X p)<|cf p)];unfold wk;refine zA (λs:N M×J=>∃i:K,i<=dg (cf p) (X p)/\s=(zi i<|cf p,(i:J))) (λs=>X p-s.2.toNat) _ ?_ _ _ ⟨0,xai _,O⟩ (by show X p-0<fu;lia);rintro s L ⟨i,hi,rfl⟩ a;unfold cm;simp only;by_cases h1:i<dg (cf p) (X p)
  ·rw[zT,zY,zf,U<|yM (h.get i).1 (by have:=(h.get i).2;lia) c,xB (by rw[yc];simp;lia),zf,zb];exact a _ ⟨i+1,W,by rw[<-mN];rfl⟩ (by show X p-((i:J)+1).toNat<X p-(i:J).toNat;lia)
  ·grind
 ·refine zA (λi:J=>∃m:K,i=(m:J)/\m<=X p/\dg (cf p) m=dg (cf p) (X p)) (λi=>i.toNat) _ ?_ _ _ ⟨X p,O,Nm _,O⟩ W;rintro i L ⟨m,rfl,l,b⟩ a;unfold c9
  cases m with
  |zero=>rw[zB,<-b];rfl
  |succ m=>
   rw[zT,(W:((m+1:K):J)-1=(m:J)),zb,zY,zf,U<|kv (h.okZ d m) c,Z8];by_cases h0:cf p m=0
   ·rw[iq<|xi.2 h0,zb];exact a _ ⟨m,O,W,by rw[<-oj h0,b]⟩ W
   ·rw[ir<|λe=>h0<|xi.1 e,<-b,cn h0]
end
end Go.Proofs.YtoegnnjcmlghhaaGreat
