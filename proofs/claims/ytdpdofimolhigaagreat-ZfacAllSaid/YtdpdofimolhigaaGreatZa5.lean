/- What a proof needs: rules of walking, mirrors of functions and their plain laws. No condition. -/
import Derived.Test.YtdpdofimolhigaaGreatZa4
set_option linter.all false
namespace Go.Proofs.YtdpdofimolhigaaGreat
open Bool renaming true->I,false->yL
open Go renaming Value->xn,World->xN,Code->vP,Func->jP,Act->kg,results->kw,Calls->uL
open Go.Proofs.YtdpdofimolhigaaGreat renaming Zr->G,bd->Y,za->U,nm->B,cC->D,ze->Q,zf->E,iq->S
open List renaming length->X,length->Wl
open Option renaming some->Z,none->yD
open _root_ renaming rfl->O,List->N,Int->J,Nat->K,Option->V,List->zC,Int->zI,Nat->zV,Option->z7,trivial->xS,absurd->wl,Bool->ws,congrArg->wF,if_true->wN,if_false->wP,decide_eq_false->wS,decide_eq_true->wU,Unit->wW,True->vF,or_false->uS,if_pos->Zc
open And renaming intro->xfn
open Bool renaming false_eq_true->xaj
open Classical renaming byContradiction->xac,not_forall->xfx,not_imp->xff
open Ending renaming returned->xez
open Int renaming emod_lt_of_pos->xdw,emod_nonneg->xcJ,eq_ofNat_of_zero_le->xat,fdiv->xfF,mul_add->xfg,natAbs_mul->xcK,natCast_add->xeT,natCast_nonneg->xdd,pow_succ->xbo,tdiv->xbQ,tmod->xbn,toNat_natCast->xaJ
open Lib renaming bitLen->xeM
open List renaming append_assoc->xal,cons_append->xbJ,drop->xdD,drop_eq_getElem_cons->xbK,drop_eq_nil_of_le->xbS,eq_nil_of_length_eq_zero->xbk,ext_getElem?->xcC,getD_cons_succ->xdk,getD_eq_getElem?_getD->Yh,getElem?_eq_getElem->xaa,getElem?_eq_none->xbB,getElem_mem->xbx,length_append->xak,length_cons->xar,length_drop->xca,length_eq_zero_iff->xbs,length_nil->xbA,length_range->xeg,length_replicate->xaR,length_set->xbz,length_take->xap,mem_append->pN,mem_cons->PQ,mem_cons_of_mem->kE,mem_cons_self->Qh,mem_map->xan,mem_of_mem_drop->xfw,mem_of_mem_take->xec,mem_or_eq_of_mem_set->xeb,mem_singleton->xab,nil_append->xbF,not_mem_nil->QT,range->xaE,range_succ->xdb,replicate->sR,replicate_succ->xdM,set_append_right->xfm,set_cons_succ->xeR,take->xdo,take_add_one->xeE,take_append_drop->xbw,take_length->xcA,take_of_length_le->xaQ,take_succ_cons->xek
open List.cons renaming injEq->xey
open Nat renaming add_assoc->xcL,add_comm->xdI,add_mul->xaT,add_mul_div_left->xcu,add_mul_mod_self_left->xbY,add_sub_cancel->xdv,add_zero->xbM,div_add_mod->xbj,div_div_eq_div_mul->xaB,div_eq_of_lt->xbc,div_le_self->xcd,div_lt_iff_lt_mul->xaM,div_mul_le_self->xcI,div_one->xdz,eq_zero_of_not_pos->xfa,eq_zero_or_pos->xcb,le_antisymm->xcH,le_div_iff_mul_le->xcn,le_max_left->xdP,le_max_right->xdB,le_mul_of_pos_left->xdj,le_of_lt->xdp,le_of_not_lt->xbl,le_refl->eZ,le_succ->xbG,le_trans->PX,lt_of_le_of_lt->xaG,lt_of_lt_of_le->xah,lt_of_not_le->xcT,lt_or_ge->xbO,lt_succ_self->xdy,lt_trans->xeO,min_eq_left->xcg,mod_add_div->xef,mod_eq_of_lt->xag,mod_lt->xaI,mul_add->xbV,mul_assoc->xbe,mul_comm->xaH,mul_div_cancel->xeu,mul_div_mul_right->xfo,mul_le_mul->xbp,mul_le_mul_left->xas,mul_le_mul_right->xaf,mul_left_comm->xfe,mul_lt_mul''->xdA,mul_lt_mul_of_pos_right->xbP,mul_mod_mul_right->xdV,mul_one->xdl,mul_zero->xcG,not_lt_zero->xbf,one_mul->xbL,pow_add->xbq,pow_le_pow_right->xam,pow_lt_pow_right->xdE,pow_mul->xbT,pow_pos->xaP,pow_succ->xbi,pow_succ'->xdH,pow_zero->xeA,strongRecOn->xcY,sub_le->xeN,sub_self->xcX,zero_add->xaF,zero_le->sB,zero_lt_one->xdN,zero_mul->xcs
open Option.some renaming inj->xdc
open Prod.mk renaming injEq->xcZ
open Sum renaming elim->xfj
section
set_option maxRecDepth 100000
section
open Go.Proofs.Tryz
variable(fu:zV)
def ll:yg ⟨45,[.d kv],[.own .u 72],λx=>YF fu x.1,0⟩:=sq fu ⟨[],[],[(2,q1 [(3,.d .i)] 0 [(3,.d .i)])],[],[],[],[]⟩ func45<|cN
def qM:yg ⟨43,[.d zO],[.d zO],λx=>xj fu x.1,0⟩:=sq fu wJ func43<|D (ll fu)<|cN
def kK:yg ⟨20,[.d .i],[.d zO],λx=>wg fu x.1,0⟩:=sq fu wJ func20<|D (qM fu)<|cN
def uK:yg ⟨68,[.d zO],[.d .i],λx=>qe fu x.1,0⟩:=sq fu wJ func68<|D (qM fu)<|cN
def wa:yg ⟨29,[.d xc],[.own zO 30],λx=>yZ fu x.1,0⟩:=sq fu ⟨[],[],[(2,q1 [(3,.d .i)] 0 [(3,.d .i)]),(6,q1 [(4,.own zO 30),(5,.d .i)] 2 [(4,.own zO 30)])],[],[],[],[]⟩ func29<|D (qM fu)<|D (uK fu)<|cN
def Cy:yg ⟨15,[.d yP],[.own zO 30],λx=>kN fu x.1,0⟩:=sq fu ⟨[],[],[(3,q1 [(3,.own zO 30),(4,.d .i)] 0 [(3,.own zO 30)])],[],[],[],[]⟩ func15<|D (kK fu)<|D (wa fu)<|cN
def zcz:yg ⟨28,[.d kv,.d kv],[.d .b],λx=>K8 fu x.1 x.2.1,0⟩:=sq fu ⟨[],[],[(4,⟨⟨[(5,.d .i)],[]⟩,⟨[],[(.x 0,⟨[],[]⟩),(.r,⟨[],[(4,.kb yL)]⟩)]⟩⟩)],[],[],[],[]⟩ func28<|cN
def DA:yg ⟨9,[.d zO,.d zO],[.d .b],λx=>WV fu x.1 x.2.1,0⟩:=sq fu wJ func9<|D (zcz fu)<|cN
def Dn:yg ⟨35,[.d xc,.d xc],[.d .b],λx=>Vd fu x.1 x.2.1,0⟩:=sq fu ⟨[],[],[(4,⟨⟨[(5,.d .i)],[]⟩,⟨[],[(.x 0,⟨[],[]⟩),(.r,⟨[],[(4,.kb yL)]⟩)]⟩⟩)],[],[],[],[]⟩ func35<|D (DA fu)<|cN
def DQ:yg ⟨12,[.d (.l (.p xc .i)),.d (.l (.p xc .i))],[.d .b],λx=>W7 fu x.1 x.2.1,0⟩:=sq fu ⟨[],[],[(4,⟨⟨[(5,.d .i)],[]⟩,⟨[],[(.x 0,⟨[],[]⟩),(.r,⟨[],[(4,.kb yL)]⟩)]⟩⟩)],[],[],[],[]⟩ func12<|D (Dn fu)<|cN
def NQ:yg ⟨272,[.d kv,.d .i],[.d .u],λx=>JL fu x.1 x.2.1,0⟩:=sq fu wJ func272<|cN
def zfn:yg ⟨276,[.d .i,.d .u,.q kv,.q kv],[.d .u,.d .u],λx=>rQ fu x.1 x.2.1 x.2.2.1 x.2.2.2.1,0⟩:=sq fu wJ func276<|D (NQ fu)<|cN
def Xp:yg ⟨230,[.d .i,.fn [.i,.u] [.u,.u]],[.own .u 72,.d .u],λx=>qW fu x.1<|λz0 a=>x.2.1 (z0,a,()),0⟩:=sq fu ⟨[],[],[(4,q1 [(7,.d .u),(13,.d .i),(6,.own .u 72)] 0 [(7,.d .u),(6,.own .u 72)])],[],[],[],[]⟩ func230<|cN
def vq:yg ⟨77,[.d kv],[.d kv],λx=>wY fu x.1,0⟩:=sq fu ⟨[],[],[(1,q1 [(0,.d kv)] 0 [(0,.d kv)])],[],[],[],[]⟩ func77<|cN
def xq:yg ⟨77,[.own .u 72],[.own .u 72],λx=>xD fu x.1,0⟩:=sq fu ⟨[],[],[(1,q1 [(0,.own .u 72)] 0 [(0,.own .u 72)])],[],[],[],[]⟩ func77<|cN
def HA:yg ⟨225,[.d kv,.d kv],[.own .u 72],λx=>YO fu x.1 x.2.1,0⟩:=sq fu wJ func225<|D (zfn fu)<|D (xq fu)<|D (vq fu)<|D (Xp fu)<|cN
def Mq:yg ⟨305,[.d .i],[.d .b],λx=>XL fu x.1,0⟩:=sq fu wJ func305<|cN
def EF:yg ⟨266,[.d .i,.d .i],[.d .i],λx=>ZG fu x.1 x.2.1,0⟩:=sq fu wJ func266<|D (Mq fu)<|cN
def BS:yg ⟨306,[.d .u],[.d .b],λx=>uR fu x.1,0⟩:=sq fu wJ func306<|cN
def pF:yg ⟨267,[.d .u,.d .u],[.d .i],λx=>jZ fu x.1 x.2.1,0⟩:=sq fu wJ func267<|D (BS fu)<|cN
def zaQ:yg ⟨212,[.d kv,.d kv],[.d .i],λx=>UM fu x.1 x.2.1,0⟩:=sq fu ⟨[],[],[(5,⟨⟨[(5,.d .i)],[]⟩,⟨[],[(.x 0,⟨[],[]⟩),(.r,⟨[(4,.d .i)],[]⟩)]⟩⟩)],[],[],[],[]⟩ func212<|D (EF fu)<|D (pF fu)<|D (xq fu)<|D (vq fu)<|cN
set_option maxRecDepth 100000 in
set_option maxHeartbeats 1000000 in
def Ks(l:N K)(v0:xn)(hd:X l<=17592186044416):Fn Tryz.prog 211 [v0].toArray [fV (eS eU) (l) v0] (λu:xn=>u) (λu=>[fV (eS eU) (l) u]) (λ_=>vF):=by
 refine zeX func211 O O λwe Se rest=> ?_;refine znB (λS w h=>ztC h.1) λc=> ?_;refine znB (λS w h=>zpG h.1) λhc=> ?_;refine Jy ?_;refine qG ?_;refine zbJ 1 [(0,v0)] O λrest=> ?_;refine uQ ?_;refine Jy ?_;refine Jy ?_;refine qG ?_;refine zbJ 1 [(0,v0),(3,v0)] O λrest=> ?_;refine zqo O O (zrE (e:=eU) (xs:=l) Tryz.underlying28 O O<|λS w h=>h.1) λq1 d=> ?_;refine zbJ 0 [(0,v0),(4,.bool<|q1)] O λrest=> ?_;refine uQ ?_;refine zuS (q1) O (λb=> ?_)<|λb=> ?_
 ·refine Jy ?_;refine qG ?_;refine zbJ 1 [(2,.slice yD 0 0)] O λrest=> ?_;refine uQ ?_;refine zjW ?_;exact zqE (.slice yD 0 0:xn) Tryz.results211 O xS<|λS w h=>⟨(cvt (show([])=(l)from by first|rfl|simp_all) zl4),xS⟩
 ·refine zdk ?_;refine Jy ?_;refine qG ?_;refine zoE (e:=eU) O O Tryz.underlying28 zwD λv1=> ?_;refine zbJ 1 [(5,v1),(6,v0)] O λrest=> ?_;refine zk0 (e:=eU) (xs:=[]) (ys:=l) 0 O O Tryz.underlying28 zwD O YL O O O (λS w h=>h.1) (by first|lia|(simp only[xbA,xak,xaR,xar,xap,xca];lia)|(simp;lia)) (by first|lia|(simp only[xbA,xak,xaR,xar,xap,xca];lia)|(simp;lia)) λa=> ?_;show TL _ _ _ _ [mO eU 72 a<|[]++l] _ _ _ _ _;refine zbJ 1 [(2,a)] O λrest=> ?_;refine uQ ?_;refine zjW ?_;refine zkV (λw h=>zcE 0 h O) ?_;exact zqE a Tryz.results211 O xS<|λS w h=>⟨(cvt (show([]++l)=(l)from by first|rfl|simp_all) h.1),xS⟩
def Ky(a0:N K)(a:xn)(r0:N K)(H:wC fu a0=Z r0):Fn Tryz.prog 211 [a].toArray [fV (eS eU) (a0) a] (λu:xn=>u) (λu=>[fV (eS eU) (r0) u]) (λ_=>vF):=by
 have⟨b,H⟩:=YK H;obtain rfl:=zuW H;exact Ks a0 a b
def KA:yg ⟨211,[.d kv],[.d kv],λx=>wC fu x.1,0⟩:=zu0 (s:=kv) (t:=kv) Xs λx r v h=>Ky fu x v r h
def BU:yg ⟨128,[.d kv],[.d kv],λx=>XT fu x.1,0⟩:=sq fu wJ func128<|D (KA fu)<|D (xq fu)<|D (vq fu)<|cN
def zgp:yg ⟨231,[.d .i,.d .u,.q kv,.q .i],[.d .u,.d .u],λx=>pQ fu x.1 x.2.1 x.2.2.1 x.2.2.2.1,0⟩:=sq fu wJ func231<|cN
def IE:yg ⟨229,[.d kv,.d .i],[.own .u 72],λx=>Wb fu x.1 x.2.1,0⟩:=sq fu wJ func229<|cN
def HZ:yg ⟨168,[.d kv,.d .i],[.own .u 72,.d .i],λx=>Qf fu x.1 x.2.1,0⟩:=sq fu ⟨[],[],[],[(4,[23])],[],[],[]⟩ func168<|D (xq fu)<|D (vq fu)<|D (IE fu)<|D (Xp fu)<|D (zgp fu)<|cN
def zeW:yg ⟨271,[.d .i,.d .u,.q kv,.q .i],[.d .u,.d .u],λx=>sn fu x.1 x.2.1 x.2.2.1 x.2.2.2.1,0⟩:=sq fu wJ func271<|D (NQ fu)<|cN
def zbB:yg ⟨217,[.d kv,.d .i],[.own .u 72],λx=>gw fu x.1 x.2.1,0⟩:=sq fu ⟨[2,3],[],[],[],[],[],[]⟩ func217<|D (xq fu)<|D (vq fu)<|D (Xp fu)<|D (zeW fu)<|cN
set_option maxRecDepth 100000 in
set_option maxHeartbeats 1000000 in
def Fi(fu:K)(a0:K)(b:n9 a0)(r0:J)(H:wi fu a0=Z r0):Fn Tryz.prog 169 [uv a0].toArray [] (λ_:wW=>iv<|r0) (λ_=>[]) (λ_=>Um r0):=by
 unfold wi at H;refine zeX func169 O O λwe Se rest=>Jy<|qG<|VJ 1 [(2,iv 0)] O<|uQ<|Jy ?_
 have⟨B,d,e⟩:=Gx H;refine T_X [(.n,JQ we Se (G:=K×J) (λ(d1,i1)=>(⟨[],[],[(0,uv d1),(2,iv<|i1)]⟩:Inv))<|λ(d1,i1)=>(d1,i1)=B/\n9 d1/\Um i1)] ?_ ⟨?_,xS⟩
 ·replace H:=d
  refine Jy<|qG<|VJ 1 [(3,uv a0)] O<|zhk O O O O (λh1=> ?_) (λh1=> ?_)
  ·replace H:=zt4 h1 H
   refine uQ<|c9 O<|Jy<|qG<|VJ 1 [(5,uv a0)] O ?_
   have⟨f,q,H⟩:=x9 H
   refine Y0 O O (NJ (c:=(f:J)) O O (xdd _)<|zlH q<|E7 (a:=a0))<|VJ 1 [(0,uv f)] O<|uQ<|qG<|VJ 1 [(2,iv 32)] O<|uQ ?_
   exact zkm (f,32) (xfn (xdc H)<|xfn (Pj b q) (YL:Um (32))) O<|λw h=>St.weak h<|λS w h=>xS
  replace H:=zty h1 H
  refine uQ<|Uf O<|zdk ?_
  exact zkm (a0,0) (xfn (xdc H)<|xfn b (YL:Um (0))) O<|λw h=>St.weak h<|λS w h=>xS
 refine zog ?_;rintro⟨d1,i1⟩ ⟨g,r,C⟩ rest;subst g;replace H:=e;clear d;refine zsz O<|Jy ?_
 have⟨D,d,e⟩:=Gx H;refine T_X [(.n,JQ we Se (G:=K×J) (λ(d2,i2)=>(⟨[],[],[(0,uv d2),(2,iv<|i2)]⟩:Inv))<|λ(d2,i2)=>(d2,i2)=D/\n9 d2/\Um i2)] ?_ ⟨?_,xS⟩
 ·replace H:=d
  refine Jy<|qG<|VJ 1 [(7,uv d1)] O<|zhk O O O O (λi=> ?_) (λi=> ?_)
  ·replace H:=zt4 i H
   refine uQ<|c9 O<|Jy<|qG<|VJ 1 [(9,uv d1)] O ?_
   have⟨j,hi,H⟩:=x9 H
   refine Y0 O O (NJ (c:=(j:J)) O O (xdd _)<|zlH hi<|E7 (a:=d1))<|VJ 1 [(0,uv j)] O<|uQ<|qG<|VJ 1 [(11,iv<|i1)] O ?_
   have⟨k,hn,s,H⟩:=fi H
   refine Y0 O O (RA (c:=k) O O<|w_x hn s)<|VJ 1 [(2,iv<|k)] O<|uQ ?_
   exact zkm (j,k) (xfn (xdc H)<|xfn (Pj r hi) s) O<|λw h=>St.weak h<|λS w h=>xS
  replace H:=zty i H
  refine uQ<|Uf O<|zdk ?_
  exact zkm (d1,i1) (xfn (xdc H)<|xfn r C) O<|λw h=>St.weak h<|λS w h=>xS
 refine zog ?_;rintro⟨d2,i2⟩ ⟨g,Q,R⟩ rest;subst g;replace H:=e;clear d;refine zsz O<|Jy<|Jy<|qG<|VJ 1 [(13,uv d2)] O<|zhk O O O O (λl=> ?_) (λl=> ?_)
 ·replace H:=zt4 l H
  refine uQ<|c9 O<|Jy<|qG<|VJ 1 [(15,uv d2)] O ?_
  have⟨m,E,H⟩:=x9 H
  refine Y0 O O (NJ (c:=(m:J)) O O (xdd _)<|zlH E<|E7 (a:=d2))<|VJ 1 [(0,uv m)] O<|uQ<|qG<|VJ 1 [(17,iv<|i2)] O ?_
  have⟨o,hp,F,H⟩:=fi H
  refine Y0 O O (RA (c:=o) O O<|w_x hp F)<|VJ 1 [(2,iv<|o)] O<|uQ<|Jy<|qG<|VJ 2 [(20,uv m),(19,iv<|o)] O ?_
  have⟨L,hd,H⟩:=x9 H
  refine Y0 O O (Ku (c:=(L:J)) Tryz.underlying72 Tryz.underlying5 O<|BW hd<|wu8 _) ?_
  have⟨t,u,H⟩:=x9 H
  refine Y0 O O (zoK (z:=t) Tryz.underlying9 O Xs O (zd8 hd) u)<|Y0 O O (Ku (c:=(t:J)) Tryz.underlying5 Tryz.underlying3 O<|w64<|b_r<|zbh (zd8 hd) u) ?_
  have⟨v,M,x,H⟩:=fi H
  refine Y0 O O (RA (c:=v) O O<|w_x M x)<|VJ 1 [(2,iv<|v)] O<|uQ<|zjW ?_
  obtain rfl:=zuW H
  exact zqE () Tryz.results169 O x<|λS w h=>xS
 replace H:=zty l H;refine uQ<|Uf O<|zdk<|Jy<|qG<|VJ 2 [(20,uv d2),(19,iv<|i2)] O ?_
 have⟨N,p,H⟩:=x9 H;refine Y0 O O (Ku (c:=(N:J)) Tryz.underlying72 Tryz.underlying5 O<|BW p<|wu8 _) ?_;have⟨y,hl,H⟩:=x9 H;refine Y0 O O (zoK (z:=y) Tryz.underlying9 O Xs O (zd8 p) hl)<|Y0 O O (Ku (c:=(y:J)) Tryz.underlying5 Tryz.underlying3 O<|w64<|b_r<|zbh (zd8 p) hl) ?_
 have⟨A,P,hc,H⟩:=fi H;refine Y0 O O (RA (c:=A) O O<|w_x P hc)<|VJ 1 [(2,iv<|A)] O<|uQ<|zjW ?_
 obtain rfl:=zuW H;exact zqE () Tryz.results169 O hc<|λS w h=>xS
def WJ:yg ⟨169,[.d .u],[.d .i],λx=>wi fu x.1,0⟩:=zt2 Xs λx r a h=>Fi fu x a r h
def Yb:yg ⟨213,[.d .u],[.d .i],λx=>xL fu x.1,0⟩:=sq fu wJ func213<|D (WJ fu)<|cN
def c8:yg ⟨138,[.d .u,.d .u,.d .u],[.d .u,.d .u],λx=>kf fu x.1 x.2.1 x.2.2.1,0⟩:=sq fu ⟨[],[],[(17,q1 [(15,.d .u),(16,.d .u)] 0 [(15,.d .u)]),(24,q1 [(16,.d .u),(18,.d .u)] 2 [(18,.d .u)])],[],[],[],[]⟩ func138<|D (Yb fu)<|cN
def cJ:yg ⟨268,[.d .u,.d .u],[.d .u,.d .u],λx=>jV fu x.1 x.2.1,0⟩:=sq fu wJ func268<|cN
def zfS:yg ⟨214,[.d .u,.d .u,.d .u,.d .u,.d .u],[.d .u],λx=>cD fu x.1 x.2.1 x.2.2.1 x.2.2.2.1 x.2.2.2.2.1,0⟩:=sq fu ⟨[],[],[(4,⟨⟨[(11,.d .u),(12,.d .u)],[]⟩,⟨[],[(.r,⟨[(10,.d .u)],[]⟩)]⟩⟩)],[],[],[],[]⟩ func214<|D (c8 fu)<|D (cJ fu)<|cN
def ze5:yg ⟨277,[.d .i,.d .u,.q kv,.q kv],[.d .u,.d .u],λx=>oh fu x.1 x.2.1 x.2.2.1 x.2.2.2.1,0⟩:=sq fu wJ func277<|D (NQ fu)<|cN
def Hh:yg ⟨226,[.d kv,.d kv],[.own .u 72,.d .i],λx=>UH fu x.1 x.2.1,0⟩:=sq fu wJ func226<|D (xq fu)<|D (vq fu)<|D (ze5 fu)<|D (Xp fu)<|cN
def PE:yg ⟨216,[.d kv,.d kv],[.own .u 72],λx=>Qx fu x.1 x.2.1,0⟩:=sq fu wJ func216<|D (Hh fu)<|cN
def zeC:yg ⟨270,[.d .i,.d .u,.q kv,.q .u],[.d .u,.d .u],λx=>rf fu x.1 x.2.1 x.2.2.1 x.2.2.2.1,0⟩:=sq fu wJ func270<|D (cJ fu)<|cN
def zaV:yg ⟨215,[.d kv,.d .u],[.own .u 72],λx=>UO fu x.1 x.2.1,0⟩:=sq fu wJ func215<|D (zeC fu)<|D (Xp fu)<|cN
def H7:yg ⟨78,[.d kv,.d .u],[.own .u 72,.d .u],λx=>JK fu x.1 x.2.1,0⟩:=sq fu ⟨[],[],[(3,q1 [(7,.d .u),(8,.d .i),(6,.own .u 72)] 0 [(7,.d .u),(6,.own .u 72)])],[],[],[],[]⟩ func78<|D (c8 fu)<|D (xq fu)<|D (vq fu)<|cN
def zbj:yg ⟨129,[.d kv,.d kv],[.own .u 72,.d kv,.d .i],λx=>gx fu x.1 x.2.1,0⟩:=sq fu ⟨[],[(196612,⟨[],[(.n,⟨[(23,.d .b)],[]⟩)]⟩),(327686,⟨[],[(.n,⟨[(27,.d .b)],[]⟩)]⟩)],[(16,q1 [(10,.d kv),(16,.d .i),(12,.own .u 72),(15,.own .u 72)] 1 [(12,.own .u 72),(15,.own .u 72)]),(20,⟨⟨[(9,.d .i),(14,.d .i),(17,.d .u),(18,.d kv)],[]⟩,⟨[12,15],[(.x 3,⟨[(9,.d .i),(14,.d .i),(17,.d .u),(18,.d kv)],[]⟩)]⟩⟩)],[(23,[149])],[129],[],[]⟩ func129<|D (BU fu)<|D (HZ fu)<|D (xq fu)<|D (vq fu)<|D (H7 fu)<|D (zaQ fu)<|D (Yb fu)<|D (zfS fu)<|D (zaV fu)<|D (PE fu)<|D (zbB fu)<|cN
def j9:yg ⟨127,[.d .b,.d kv],[.d zO],λx=>xw fu x.1 x.2.1,0⟩:=sq fu wJ func127<|D (BU fu)<|cN
def CM:yg ⟨161,[.d zO,.d zO],[.d zO,.d zO,.d .i],λx=>Qt fu x.1 x.2.1,0⟩:=sq fu ⟨[],[(327688,⟨[4,5],[(.n,⟨[(7,.own .u 72),(8,.d kv)],[]⟩)]⟩)],[],[],[],[],[]⟩ func161<|D (zbj fu)<|D (Hh fu)<|D (HA fu)<|D (j9 fu)<|cN
def J0:yg ⟨76,[.d zO],[.d zO],λx=>ki fu x.1,0⟩:=sq fu wJ func76<|D (j9 fu)<|cN
def j7:yg ⟨37,[.d zO],[.d .i],λx=>wo fu x.1,0⟩:=sq fu ⟨[1],[],[],[],[],[],[]⟩ func37<|D (J0 fu)<|cN
def Ug:yg ⟨97,[.d zO,.d zO],[.d zO,.d .i],λx=>uY fu x.1 x.2.1,0⟩:=sq fu ⟨[],[(196612,⟨[4,6,7],[(.n,⟨[(16,.d .b)],[]⟩)]⟩)],[],[],[],[],[]⟩ func97<|D (CM fu)<|D (j7 fu)<|cN
def zcI:yg ⟨228,[.d kv,.d kv],[.own .u 72],λx=>K9 fu x.1 x.2.1,0⟩:=sq fu ⟨[],[(262149,⟨[5],[(.n,⟨[(0,.d kv),(18,.d kv),(19,.d .i),(21,.d .b)],[]⟩)]⟩),(524297,⟨[5,27],[(.n,⟨[(0,.d kv),(6,.d .i),(18,.d kv),(19,.d .i),(20,.d .i),(28,.d .i),(30,.d .b)],[]⟩)]⟩)],[(3,q1 [(20,.d .i),(5,.own .u 72)] 0 [(5,.own .u 72)]),(7,q1 [(8,.d .u),(29,.d .i),(5,.own .u 72),(27,.own .u 72)] 2 [(5,.own .u 72)])],[],[],[],[]⟩ func228<|D (xq fu)<|D (vq fu)<|D (zaV fu)<|cN
def zkK:QY:=⟨165,[.d kv,.d kv],[.own .u 72],λx=>UR fu x.1 x.2.1,0⟩
def zbQ:∀fu:K,yg (zkK fu)
 |0=>sg0 Xs λ_=>O
 |fu+1=>sq fu wJ func165<|D (HA fu)<|D (zcI fu)<|D (zbQ fu)<|D (IE fu)<|D (xq fu)<|D (vq fu)<|D (PE fu)<|cN
def wh:yg ⟨101,[.d zO,.d zO],[.d zO],λx=>yi fu x.1 x.2.1,0⟩:=sq fu wJ func101<|D (zbQ fu)<|D (j9 fu)<|cN
def XX:yg ⟨166,[.d zO,.d zO],[.d zO],λx=>jm fu x.1 x.2.1,0⟩:=sq fu ⟨[2,3],[(262150,⟨[4],[(.n,⟨[(2,.var zO 30),(3,.var zO 30)],[]⟩)]⟩)],[],[],[],[],[]⟩ func166<|D (HA fu)<|D (Hh fu)<|D (zaQ fu)<|D (j9 fu)<|cN
def B9:yg ⟨67,[.d zO],[.d zO],λx=>XR fu x.1,0⟩:=sq fu wJ func67<|D (j9 fu)<|cN
def U6:yg ⟨125,[.d zO,.d zO],[.d zO],λx=>kt fu x.1 x.2.1,0⟩:=sq fu wJ func125<|D (B9 fu)<|D (XX fu)<|cN
def PF:yg ⟨126,[.d .i,.d zO],[.d zO],λx=>bh fu x.1 x.2.1,0⟩:=sq fu wJ func126<|D (J0 fu)<|cN
def xG:yg ⟨95,[.d xc,.fn [.i,zO] [zO]],[.own zO 30],λx=>zM fu x.1<|λz0 a=>x.2.1 (z0,a,()),0⟩:=sq fu ⟨[],[(262149,⟨[5],[(.n,⟨[(11,.d xc),(12,.d .i),(14,.d .b)],[]⟩)]⟩)],[(3,q1 [(13,.d .i),(5,.own zO 30)] 0 [(5,.own zO 30)])],[],[],[],[]⟩ func95<|cN
def xC:yg ⟨64,[.d xc],[.own zO 30],λx=>ya fu x.1,0⟩:=sq fu ⟨[],[],[(1,q1 [(0,.d xc)] 0 [(0,.d xc)])],[],[],[],[]⟩ func64<|D (j7 fu)<|D (PF fu)<|D (xG fu)<|cN
def ov:QY:=⟨63,[.d xc,.d xc],[.own zO 30,.d .i],λx=>wV fu x.1 x.2.1,0⟩
def cB:yg (ov fu):=sq fu ⟨[],[(327687,⟨[1,6],[(.n,⟨[],[]⟩),(.r,⟨[],[(4,.nil),(5,.ci 4)]⟩)]⟩),(1048593,⟨[1,6,7,9],[(.n,⟨[(8,.d .i),(71,.d .i),(73,.d .b)],[]⟩)]⟩)],[(8,⟨⟨[(8,.d .i),(1,.own zO 30),(6,.own zO 30),(7,.own zO 30)],[]⟩,⟨[],[(.x 0,⟨[(6,.own zO 30),(7,.own zO 30)],[]⟩),(.r,⟨[(5,.d .i)],[(4,.nil)]⟩)]⟩⟩),(15,⟨⟨[(72,.d .i),(1,.own zO 30),(6,.own zO 30),(7,.own zO 30),(9,.var zO 30)],[(70,.al 1)]⟩,⟨[],[(.x 2,⟨[(1,.own zO 30),(6,.own zO 30),(7,.own zO 30)],[]⟩)]⟩⟩)],[(10,[])],[],[],[]⟩ func63<|D (xC fu)<|D (Ug fu)<|D (U6 fu)<|D (wh fu)<|cN
def zc0:yg ⟨26,[.d xc,.d xc],[.d .i],λx=>Vy fu x.1 x.2.1,0⟩:=sq fu ⟨[],[],[(3,q1 [(5,.d .i),(6,.own zO 30),(7,.d .i)] 0 [(5,.d .i)])],[],[],[],[]⟩ func26<|D (cB fu)<|cN
def UW:yg ⟨109,[.d .i],[.d .b],λx=>ZY fu x.1,0⟩:=sq fu ⟨[],[(131075,⟨[],[(.n,⟨[(3,.d .b)],[]⟩)]⟩)],[(3,q1 [(3,.d .b),(4,.d .i)] 0 [(3,.d .b)])],[],[],[],[]⟩ func109<|cN
def x8:yg ⟨65,[.d .i],[.d zO],λx=>yC fu x.1,0⟩:=sq fu wJ func65<|D (j9 fu)<|cN
def iM:yg ⟨103,[.d kv],[.d .i],λx=>ZW fu x.1,0⟩:=sq fu wJ func103<|D (WJ fu)<|D (xq fu)<|D (vq fu)<|cN
def zhR:yg ⟨110,[.d zO,.d .i],[.d zO,.d .i],λx=>ia fu x.1 x.2.1,0⟩:=sq fu ⟨[],[(131075,⟨[4],[(.n,⟨[(8,.d .b)],[]⟩)]⟩)],[(7,⟨⟨[(1,.d .i),(7,.var zO 30),(6,.var zO 30)],[]⟩,⟨[4],[(.x 1,⟨[(6,.var zO 30)],[]⟩)]⟩⟩)],[],[],[],[]⟩ func110<|D (x8 fu)<|D (J0 fu)<|D (wh fu)<|D (iM fu)<|cN
def bu:yg ⟨57,[.d .i,.d .i],[.d zO,.d .i],λx=>jy fu x.1 x.2.1,0⟩:=sq fu wJ func57<|D (x8 fu)<|D (UW fu)<|D (zhR fu)<|cN
def nJ:yg ⟨258,[.d xc,.d zO,.fn [zO,zO] [zO,.i]],[.own zO 30,.d .i],λx=>jv fu x.1 x.2.1<|λz0 a=>x.2.2.1 (z0,a,()),0⟩:=sq fu ⟨[],[(393223,⟨[8],[(.n,⟨[(4,.q zO),(17,.d xc),(18,.d .i),(20,.d .b)],[]⟩)]⟩)],[(5,q1 [(19,.d .i),(8,.own zO 30)] 0 [(8,.own zO 30)])],[],[],[],[]⟩ func258<|D (xC fu)<|D (j7 fu)<|cN
def UB:yg ⟨234,[.d zO,.d zO],[.d zO,.d .i],λx=>jX fu x.1 x.2.1,0⟩:=sq fu wJ func234<|D (CM fu)<|D (j7 fu)<|cN
def Ey:yg ⟨197,[.d xc,.d zO],[.own zO 30,.d .i],λx=>VK fu x.1 x.2.1,0⟩:=sq fu wJ func197<|D (nJ fu)<|D (UB fu)<|cN
def KX:yg ⟨118,[.d xc,.d zO],[.own zO 30],λx=>xB fu x.1 x.2.1,0⟩:=sq fu wJ func118<|D (Ey fu)<|cN
def kI:yg ⟨186,[.d .i],[.d .i],λx=>vC fu x.1,0⟩:=sq fu wJ func186<|D (UW fu)<|cN
def sw:yg ⟨238,[.d .i,.d .i],[.d .i],λx=>Ys fu x.1 x.2.1,0⟩:=sq fu wJ func238<|cN
def N9:QY:=⟨250,[.d .i,.d .i],[.d .i,.d .i],λx=>JW fu x.1 x.2.1,0⟩
def Ov:yg (N9 fu):=sq fu ⟨[],[],[(5,⟨⟨[(7,.d .i),(8,.d .i),(9,.d .i),(10,.d .i)],[]⟩,⟨[],[(.x 0,⟨[(10,.d .i)],[]⟩),(.r,⟨[],[(4,.ci 0),(5,.ci 3)]⟩)]⟩⟩)],[],[],[],[]⟩ func250<|D (kI fu)<|D (sw fu)<|cN
def wy:yg ⟨187,[.d yP,.d .i],[.own .i 3],λx=>yq fu x.1 x.2.1,0⟩:=sq fu ⟨[],[],[(3,q1 [(13,.d .i),(5,.own .i 3)] 0 [(5,.own .i 3)]),(7,q1 [(5,.own .i 3)] 2 [(5,.own .i 3)])],[],[],[],[]⟩ func187<|D (sw fu)<|cN
def Kz:yg ⟨188,[.d yP,.d yP,.d .i],[.own .i 3,.own .i 3],λx=>xU fu x.1 x.2.1 x.2.2.1,0⟩:=sq fu ⟨[],[(851982,⟨[8,12],[(.n,⟨[(9,.d .i),(13,.d .i),(61,.d yP),(62,.d .i),(64,.d .b)],[]⟩)]⟩)],[(7,q1 [(9,.d .i),(8,.own .i 3),(12,.own .i 3)] 0 [(8,.own .i 3),(12,.own .i 3)]),(12,q1 [(1,.d yP),(2,.d .i),(10,.d .i),(63,.d .i),(8,.own .i 3),(12,.own .i 3)] 2 [(1,.d yP),(2,.d .i),(10,.d .i),(8,.own .i 3),(12,.own .i 3)])],[],[],[],[]⟩ func188<|D (Ov fu)<|D (wy fu)<|cN
def Xr:yg ⟨251,[.d yP,.d yP,.d .i],[.own .i 3],λx=>vm fu x.1 x.2.1 x.2.2.1,0⟩:=sq fu ⟨[],[(262149,⟨[7],[(.n,⟨[(1,.d yP),(2,.d .i),(18,.d yP),(19,.d .i),(21,.d .b)],[]⟩)]⟩),(458760,⟨[7],[(.n,⟨[(1,.d yP),(2,.d .i),(8,.d .i),(9,.d .i),(18,.d yP),(19,.d .i),(20,.d .i),(25,.d yP),(26,.d .i),(28,.d .b)],[]⟩)]⟩)],[(3,q1 [(20,.d .i),(7,.own .i 3)] 0 [(7,.own .i 3)]),(6,q1 [(27,.d .i),(7,.own .i 3)] 2 [(7,.own .i 3)])],[],[],[],[]⟩ func251<|D (wy fu)<|cN
def rm:yg ⟨302,[.d yP,.d yP,.d .i,.d .i],[.own .i 3],λx=>Wo fu x.1 x.2.1 x.2.2.1 x.2.2.2.1,0⟩:=sq fu ⟨[],[(327686,⟨[9],[(.n,⟨[(2,.d .i),(3,.d .i),(21,.d yP),(22,.d .i),(24,.d .b)],[]⟩)]⟩)],[(4,q1 [(23,.d .i),(9,.own .i 3)] 0 [(9,.own .i 3)])],[],[],[],[]⟩ func302<|D (wy fu)<|cN
def zdh:yg ⟨254,[.d (.a 3 yP),.d (.a 3 yP),.d .i],[.d (.a 3 yP)],λx=>WH fu x.1 x.2.1 x.2.2.1,0⟩:=sq fu ⟨[3],[(262149,⟨[3,6],[(.n,⟨[(2,.d .i),(4,.q (.a 3 yP)),(20,.d .b)],[]⟩)]⟩)],[(3,⟨⟨[(7,.d yP),(19,.d .i),(3,.var (.a 3 yP) 219),(6,.var (.a 3 yP) 219)],[]⟩,⟨[8],[(.x 0,⟨[(3,.var (.a 3 yP) 219),(6,.var (.a 3 yP) 219)],[]⟩)]⟩⟩)],[],[],[],[]⟩ func254<|D (Xr fu)<|D (Kz fu)<|D (rm fu)<|cN
def pJ:yg ⟨255,[.d yP,.d .i,.d .i],[.own .i 3],λx=>jz fu x.1 x.2.1 x.2.2.1,0⟩:=sq fu wJ func255<|D (Ov fu)<|D (Xr fu)<|cN
def n8:yg ⟨195,[.d yP,.d yP,.d .i],[.d yP,.d yP,.d yP,.d .i],λx=>ZP fu x.1 x.2.1 x.2.2.1,0⟩:=sq fu ⟨[],[(589834,⟨[11],[(.n,⟨[(44,.d .b)],[]⟩)]⟩)],[(5,q1 [(11,.var (.a 3 yP) 219),(12,.var (.a 3 yP) 219)] 0 [(11,.var (.a 3 yP) 219)]),(11,q1 [(51,.d .i),(11,.var (.a 3 yP) 219)] 2 [(11,.var (.a 3 yP) 219)])],[],[],[],[]⟩ func195<|D (kI fu)<|D (wy fu)<|D (zdh fu)<|D (pJ fu)<|cN
def o8:yg ⟨190,[.d yP,.d yP,.d .i],[.d yP,.d .i],λx=>uE fu x.1 x.2.1 x.2.2.1,0⟩:=sq fu wJ func190<|D (n8 fu)<|cN
def cj:yg ⟨191,[.d yP,.d yP,.d .i],[.own .i 3,.d .i],λx=>uG fu x.1 x.2.1 x.2.2.1,0⟩:=sq fu wJ func191<|D (kI fu)<|D (wy fu)<|D (Xr fu)<|cN
def Iu:yg ⟨252,[.d yP,.d yP,.d .i],[.own .i 3,.d .i],λx=>JH fu x.1 x.2.1 x.2.2.1,0⟩:=sq fu wJ func252<|D (kI fu)<|D (wy fu)<|D (rm fu)<|cN
def SI:yg ⟨193,[.d yP,.d yP,.d .i],[.d .b],λx=>WY fu x.1 x.2.1 x.2.2.1,0⟩:=sq fu wJ func193<|D (Iu fu)<|cN
def NR:yg ⟨189,[.d yP,.d .i],[.d .b],λx=>Vm fu x.1 x.2.1,0⟩:=sq fu ⟨[],[],[(2,⟨⟨[(9,.d .i)],[]⟩,⟨[],[(.x 0,⟨[],[]⟩),(.r,⟨[],[(4,.kb yL)]⟩)]⟩⟩)],[],[],[],[]⟩ func189<|cN
def gu:yg ⟨192,[.d (.l yP),.d .i],[.own .i 3],λx=>jc fu x.1 x.2.1,0⟩:=sq fu ⟨[],[],[(3,q1 [(5,.own .i 3),(11,.d .i)] 0 [(5,.own .i 3)])],[],[],[],[]⟩ func192<|D (cj fu)<|cN
def zcx:yg ⟨235,[.d zO],[.d .i,.d .b],λx=>Uw fu x.1,0⟩:=sq fu ⟨[1],[(196612,⟨[1],[(.n,⟨[(6,.d .b)],[]⟩)]⟩),(327686,⟨[1],[(.n,⟨[(11,.d .b)],[]⟩)]⟩),(458760,⟨[1],[(.n,⟨[(16,.d .b)],[]⟩)]⟩)],[],[],[],[],[]⟩ func235<|D (J0 fu)<|cN
def ze4:yg ⟨173,[.d zO,.d .i],[.d .i,.d .i],λx=>cm fu x.1 x.2.1,0⟩:=sq fu ⟨[],[],[],[(1,[])],[],[],[]⟩ func173<|D (x8 fu)<|D (UB fu)<|D (zcx fu)<|cN
def TW:yg ⟨172,[.d .i,.d zO,.q .i],[.d .i],λx=>Jh fu x.1 x.2.1 x.2.2.1,0⟩:=sq fu wJ func172<|D (ze4 fu)<|cN
def eG:yg ⟨171,[.d xc,.fn [.i,zO] [.i]],[.own .i 3],λx=>kL fu x.1<|λz0 a=>x.2.1 (z0,a,()),0⟩:=sq fu ⟨[],[(262149,⟨[5],[(.n,⟨[(11,.d xc),(12,.d .i),(14,.d .b)],[]⟩)]⟩)],[(3,q1 [(13,.d .i),(5,.own .i 3)] 0 [(5,.own .i 3)])],[],[],[],[]⟩ func171<|cN
def J3:yg ⟨106,[.d xc,.d .i],[.own .i 3,.d .i],λx=>Yr fu x.1 x.2.1,0⟩:=sq fu ⟨[],[],[(4,q1 [(6,.own .i 3)] 0 [(6,.own .i 3)])],[],[],[],[]⟩ func106<|D (eG fu)<|D (TW fu)<|cN
def Sx:yg ⟨116,[.d xc,.d (.l yP),.d .i],[.d .b],λx=>qj fu x.1 x.2.1 x.2.2.1,0⟩:=sq fu ⟨[],[(393223,⟨[7],[(.n,⟨[(0,.d xc),(1,.d (.l yP)),(2,.d .i),(40,.d (.l yP)),(41,.d .i),(43,.d .b)],[]⟩)]⟩)],[(5,⟨⟨[(42,.d .i),(7,.own .i 3)],[]⟩,⟨[],[(.x 0,⟨[(7,.own .i 3)],[]⟩),(.r,⟨[],[(6,.kb yL)]⟩)]⟩⟩),(10,⟨⟨[(62,.d .i)],[]⟩,⟨[7],[(.x 2,⟨[],[]⟩),(.r,⟨[],[(6,.kb yL)]⟩)]⟩⟩)],[],[],[],[]⟩ func116<|D (gu fu)<|D (SI fu)<|D (J3 fu)<|D (NR fu)<|D (o8 fu)<|D (cj fu)<|cN
def GX:yg ⟨257,[.d xc,.d xc,.d zO],[.d xc,.own zO 30],λx=>uj fu x.1 x.2.1 x.2.2.1,0⟩:=sq fu ⟨[],[(589834,⟨[8,9],[(.n,⟨[(10,.d .i),(47,.d xc),(48,.d .i),(50,.d .b)],[]⟩)]⟩)],[(4,q1 [(10,.d .i),(8,.own zO 30),(9,.own zO 30)] 0 [(8,.own zO 30),(9,.own zO 30)]),(8,q1 [(1,.d xc),(5,.q zO),(49,.d .i),(8,.own zO 30),(9,.own zO 30)] 2 [(1,.d xc),(5,.q zO),(8,.own zO 30),(9,.own zO 30)])],[(6,[])],[],[],[]⟩ func257<|D (UB fu)<|D (U6 fu)<|D (wh fu)<|D (KX fu)<|cN
def zao:yg ⟨279,[.d .i,.d zO,.q xc],[.d zO],λx=>Zo fu x.1 x.2.1 x.2.2.1,0⟩:=sq fu wJ func279<|D (XX fu)<|cN
def Il:yg ⟨227,[.d xc,.d xc],[.own zO 30],λx=>q6 fu x.1 x.2.1,0⟩:=sq fu ⟨[3],[],[],[],[],[],[]⟩ func227<|D (xC fu)<|D (xG fu)<|D (zao fu)<|cN
def H4:yg ⟨256,[.d xc,.d xc],[.own zO 30],λx=>w5 fu x.1 x.2.1,0⟩:=sq fu ⟨[],[(262149,⟨[5],[(.n,⟨[(1,.d xc),(16,.d xc),(17,.d .i),(19,.d .b)],[]⟩)]⟩),(458760,⟨[5,7],[(.n,⟨[(1,.d xc),(6,.d .i),(16,.d xc),(17,.d .i),(18,.d .i),(23,.d xc),(24,.d .i),(26,.d .b)],[]⟩)]⟩)],[(3,q1 [(18,.d .i),(5,.own zO 30)] 0 [(5,.own zO 30)]),(6,q1 [(25,.d .i),(5,.own zO 30),(7,.var zO 30)] 2 [(5,.own zO 30)])],[],[],[],[]⟩ func256<|D (xC fu)<|D (wh fu)<|D (XX fu)<|cN
def O3:yg ⟨75,[.d .i,.d .i],[.d zO],λx=>WM fu x.1 x.2.1,0⟩:=sq fu wJ func75<|D (x8 fu)<|cN
def eC:yg ⟨74,[.d yP,.fn [.i,.i] [zO]],[.own zO 30],λx=>kD fu x.1<|λz0 a=>x.2.1 (z0,a,()),0⟩:=sq fu ⟨[],[],[(3,q1 [(13,.d .i),(5,.own zO 30)] 0 [(5,.own zO 30)])],[],[],[],[]⟩ func74<|cN
def C8:yg ⟨36,[.d yP],[.own zO 30],λx=>jW fu x.1,0⟩:=sq fu wJ func36<|D (xC fu)<|D (eC fu)<|D (O3 fu)<|cN
def Oy:yg ⟨13,[.d yP],[.own zO 30],λx=>QM fu x.1,0⟩:=sq fu wJ func13<|D (C8 fu)<|cN
def IQ:yg ⟨164,[.d .i,.d zO,.q zO],[.d zO],λx=>Ka fu x.1 x.2.1 x.2.2.1,0⟩:=sq fu wJ func164<|D (wh fu)<|cN
def Jc:yg ⟨99,[.d xc,.d zO],[.own zO 30],λx=>qQ fu x.1 x.2.1,0⟩:=sq fu wJ func99<|D (xC fu)<|D (IQ fu)<|D (xG fu)<|cN
def If:yg ⟨163,[.d xc,.d xc],[.own zO 30],λx=>uF fu x.1 x.2.1,0⟩:=sq fu wJ func163<|D (x8 fu)<|D (Jc fu)<|D (Il fu)<|cN
def FT:yg ⟨196,[.d (.a 4 xc),.d xc,.d zO],[.d (.a 4 xc)],λx=>ur fu x.1 x.2.1 x.2.2.1,0⟩:=sq fu wJ func196<|D (H4 fu)<|D (GX fu)<|D (If fu)<|D (Il fu)<|D (Oy fu)<|D (KX fu)<|cN
def Gb:yg ⟨303,[.d (.p zO (.p zO zO)),.d zO,.d (.p zO (.p zO zO))],[.d (.p zO (.p zO zO))],λx=>YM fu x.1 x.2.1 x.2.2.1,0⟩:=sq fu wJ func303<|D (U6 fu)<|D (wh fu)<|cN
def zas:yg ⟨253,[.d zO,.d zO],[.d zO,.d zO,.d zO],λx=>Jo fu x.1 x.2.1,0⟩:=sq fu ⟨[],[(393224,⟨[4,5,6],[(.n,⟨[(7,.var (.p zO (.p zO zO)) 258)],[]⟩)]⟩),(524298,⟨[4,5,6],[(.n,⟨[(7,.var (.p zO (.p zO zO)) 258)],[]⟩)]⟩)],[(2,⟨⟨[(7,.var (.p zO (.p zO zO)) 258),(8,.var (.p zO (.p zO zO)) 258)],[]⟩,⟨[4,5,6],[(.x 0,⟨[(7,.var (.p zO (.p zO zO)) 258)],[]⟩)]⟩⟩)],[(1,[]),(9,[])],[],[],[]⟩ func253<|D (x8 fu)<|D (CM fu)<|D (B9 fu)<|D (j7 fu)<|D (Gb fu)<|D (j9 fu)<|cN
def zc7:yg ⟨194,[.d xc,.d zO],[.own zO 30],λx=>UC fu x.1 x.2.1,0⟩:=sq fu ⟨[],[],[],[(1,[])],[],[],[]⟩ func194<|D (Jc fu)<|D (zas fu)<|D (KX fu)<|cN
def zaw:QY:=⟨117,[.d xc,.d (.l yP),.d .i,.d .i,.d zO],[.own xc 22],λx=>qX fu x.1 x.2.1 x.2.2.1 x.2.2.2.1 x.2.2.2.2.1,0⟩
def AE:∀fu:K,yg (zaw fu)
 |0=>sg0 Xs λ_=>O
 |fu+1=>sq fu ⟨[],[],[(10,q1 [(22,.d .i),(21,.var (.a 4 xc) 183)] 0 [(21,.var (.a 4 xc) 183)])],[(14,[])],[],[],[]⟩ func117<|D (gu fu)<|D (zc7 fu)<|D (n8 fu)<|D (C8 fu)<|D (FT fu)<|D (J3 fu)<|D (AE fu)<|D (bu fu)<|D (cj fu)<|cN
def AF:yg ⟨59,[.d xc,.d (.l yP),.d .i,.d .i],[.own xc 22,.d .i],λx=>kn fu x.1 x.2.1 x.2.2.1 x.2.2.2.1,0⟩:=sq fu wJ func59<|D (xC fu)<|D (Sx fu)<|D (AE fu)<|D (KX fu)<|D (bu fu)<|cN
def zdW:yg ⟨199,[.d xc,.d xc,.d zO],[.d xc,.d .i],λx=>Ue fu x.1 x.2.1 x.2.2.1,0⟩:=sq fu wJ func199<|D (H4 fu)<|D (Ey fu)<|cN
def bC:yg ⟨108,[.d zO,.d zO],[.d .i],λx=>uU fu x.1 x.2.1,0⟩:=sq fu wJ func108<|D (j7 fu)<|D (U6 fu)<|cN
def zc8:yg ⟨259,[.d zO,.d zO],[.d zO,.d .i],λx=>Vz fu x.1 x.2.1,0⟩:=sq fu wJ func259<|D (UB fu)<|D (bC fu)<|D (U6 fu)<|D (XX fu)<|cN
def zaA:yg ⟨200,[.d xc,.d zO],[.own zO 30,.d .i],λx=>Q5 fu x.1 x.2.1,0⟩:=sq fu wJ func200<|D (nJ fu)<|D (zc8 fu)<|cN
def Oo:yg ⟨66,[.d zO,.d zO],[.d zO],λx=>aw fu x.1 x.2.1,0⟩:=sq fu ⟨[],[],[(2,⟨⟨[(5,.d kv),(6,.d kv)],[]⟩,⟨[4],[(.x 0,⟨[(5,.d kv)],[]⟩)]⟩⟩)],[],[],[],[]⟩ func66<|D (BU fu)<|D (zbj fu)<|D (j9 fu)<|cN
def Kq:yg ⟨27,[.d xc],[.d zO],λx=>qy fu x.1,0⟩:=sq fu ⟨[],[(327686,⟨[0,2,3],[(.n,⟨[(10,.d .i),(12,.d .b)],[]⟩)]⟩)],[(4,⟨⟨[(11,.d .i),(0,.own zO 30),(2,.var zO 30),(3,.var zO 30)],[(9,.al 0)]⟩,⟨[],[(.x 0,⟨[(0,.own zO 30),(2,.var zO 30),(3,.var zO 30)],[]⟩)]⟩⟩)],[],[],[],[]⟩ func27<|D (xC fu)<|D (x8 fu)<|D (Oo fu)<|D (B9 fu)<|cN
def Ra:yg ⟨96,[.d .i,.d zO,.q zO],[.d zO],λx=>aO fu x.1 x.2.1 x.2.2.1,0⟩:=sq fu wJ func96<|D (Ug fu)<|cN
def lA:QY:=⟨50,[.d xc],[.own zO 30],λx=>vd fu x.1,0⟩
def WC:yg (lA fu):=sq fu wJ func50<|D (xC fu)<|D (Kq fu)<|D (Ra fu)<|D (xG fu)<|cN
def Y2:QY:=⟨120,[.d xc,.d tzQ,.own .i 3,.d zO],[.d xc,.own .i 3],λx=>kV fu x.1 x.2.1 x.2.2.1 x.2.2.2.1,1⟩
def Aw:yg (Y2 fu):=sgb (fu:=fu) ⟨[],[(262149,⟨[2],[(.n,⟨[(1,.d tzQ),(7,.q zO),(18,.d .i),(20,.d .b)],[]⟩)]⟩)],[(3,⟨⟨[(9,.d xc),(19,.d .i),(2,.own .i 3)],[(17,.al 2)]⟩,⟨[],[(.x 0,⟨[(9,.d xc),(2,.own .i 3)],[]⟩)]⟩⟩)],[],[],[],[]⟩ func120 (D (zaA fu)<|D (WC fu)<|D (zdW fu)<|cN) Xs λa x=>by kernel_rfl
def Qg:TZ:=⟨198,[.q .i,.q .i],.i,3,λx _ _ g x0=>vB fu x.1 x.2.1 g x0⟩
def anC:An:=⟨[],[],[(2,⟨⟨[(4,.own .i 3),(12,.d .i)],[]⟩,⟨[0],[(.x 0,⟨[(4,.own .i 3)],[]⟩)]⟩⟩),(8,⟨⟨[(6,.d .i)],[]⟩,⟨[0,4],[(.x 4,⟨[(6,.d .i)],[]⟩)]⟩⟩),(13,⟨⟨[(7,.d .i),(4,.own .i 3)],[]⟩,⟨[0],[(.x 6,⟨[(4,.own .i 3)],[]⟩)]⟩⟩)],[],[],[],[]⟩
def zsY:vP->vP|.seq a _=>a|c=>c
def za2:vP->vP|.seq _ b=>b|c=>c
def kIn:vP->vP|.block _ c=>c|.loop c=>c|c=>c
def zbn(f:jP):vP:=match f.body with|some c=>c|none=> .skip
noncomputable def kA:vP:=zsY<|zbn f198
noncomputable def kB:vP:=zsY<|za2<|zbn f198
noncomputable def kC:vP:=kIn<|kIn<|za2<|za2<|zbn f198
section
variable{X Y R:Type}{mX:X->xn->MF}{mY:Y->xn->MF}{g:zC zI->X->z7 (zC zI×(X⊕Y))}{n all:zI}
def cfC:Cf:=⟨tt,[],anC,fu,ex,[],[],[]⟩
def S0(mX:X->xn->MF)(mY:Y->xn->MF)(g:N J->X->V (N J×(X⊕Y)))(n all:J)(x0:X):Sg:=⟨1,[(0,0,.yd 0),(1,0,.q .i n),(2,0,.q .i all)],[(0,.hid .i 3 X Y mX mY g x0)]⟩
def S1(mX:X->xn->MF)(mY:Y->xn->MF)(g:N J->X->V (N J×(X⊕Y)))(n all:J)(x0:X)(xs:N J):Sg:=⟨2,[(4,0,.ow 1),(9,0,.ow 1),(8,0,.d .i n),(0,0,.yd 0),(1,0,.q .i n),(2,0,.q .i all)],[(1,.own .i 3 xs),(0,.hid .i 3 X Y mX mY g x0)]⟩
def S2(mX:X->xn->MF)(mY:Y->xn->MF)(g:N J->X->V (N J×(X⊕Y)))(n all:J)(x0:X)(xs ys:N J):Sg:=⟨3,[(4,0,.ow 2),(4,0,.ow 2),(11,0,.d .i (Wl xs:J)),(8,0,.d .i n),(0,0,.yd 0),(1,0,.q .i n),(2,0,.q .i all)],[(2,.own .i 3 ys),(0,.hid .i 3 X Y mX mY g x0)]⟩
def Sn(mX:X->xn->MF)(mY:Y->xn->MF)(g:N J->X->V (N J×(X⊕Y)))(n all:J)(x:X)(xs:N J)(b a c y x0:J):Sg:=
 ⟨5,[(4,0,.ow 4),(4,0,.ow 4),(51,0,.d .i b),(50,0,.d .i a),(48,0,.d .i c),(47,0,.d .i y),(45,0,.d .i a),(43,0,.kb yL),(42,0,.d .i a),(6,0,.d .i a),(6,0,.d .i a),(25,0,.d .i x0),(24,0,.d .i n),(23,0,.kb yL),(22,0,.kb I),(20,0,.yd 2),(0,0,.yd 2),(1,0,.q .i n),(2,0,.q .i all)],[(4,.own .i 3 xs),(2,.hid .i 3 X Y mX mY g x)]⟩
def Sr(mX:X->xn->MF)(mY:Y->xn->MF)(g:N J->X->V (N J×(X⊕Y)))(n all:J)(x:X)(x0 a:J)(xs:N J):Sg:=
 ⟨4,[(43,0,.kb I),(42,0,.d .i a),(6,0,.d .i a),(6,0,.d .i a),(25,0,.d .i x0),(24,0,.d .i n),(23,0,.kb yL),(22,0,.kb I),(21,0,.ow 1),(20,0,.yd 2),(4,0,.ow 1),(0,0,.yd 2),(1,0,.q .i n),(2,0,.q .i all)],[(2,.hid .i 3 X Y mX mY g x),(1,.own .i 3 xs)]⟩
def Sy(mY:Y->xn->MF)(n all:J)(y:Y)(xs:N J):Sg:=
 ⟨3,[(23,0,.kb I),(22,0,.kb yL),(21,0,.ow 1),(20,0,.yd 2),(4,0,.ow 1),(0,0,.yd 2),(1,0,.q .i n),(2,0,.q .i all)],[(2,.hiy Y mY y),(1,.own .i 3 xs)]⟩
def zyz(x0:X)(K:Tg->Sg->V R):Az (cfC fu) kA ⟨0,[],[]⟩ (S0 mX mY g n all x0) K=uC n λm=>ck (8*m<=281474976710656)<|B (sR m 0) λxs=>K .n (S1 mX mY g n all x0 xs):=Xs
def zyH(x0:X)(xs:N J)(K:Tg->Sg->V R):Az (cfC fu) kB ⟨0,[],[]⟩ (S1 mX mY g n all x0 xs) K=bd (zg (λL (z:N J×J)=>
 if z.2<(Wl xs:J)then
  zH z.2 (Wl z.1) λj=>
  B (z.1.set j z.2) λxs=>
  E (z.2+1) λi=>L (xs,i)
 else Z z.1) fu (xs,0)) λys=>K .n (S2 mX mY g n all x0 xs ys):=Xs
def zyo(x:X)(xs:N J)(K:Tg->Sg->V R):Az (cfC fu) kC ⟨0,[],[]⟩ (chS 3 mX mY g n all x xs) K=
 jd fu n all g x xs (λx xs a b c d e=>K .n<|Sn mX mY g n all x xs a b c d e) (λx a b xs=>K .r<|Sr mX mY g n all x a b xs) λy xs=>K .r (Sy mY n all y xs):=Xs
def zsj(g:zC J->X->V (zC J×(X⊕Y)))(x0:X)(r:X⊕Y)(l:zV)(v1 H u:xn)(we:xN)(Se:zV->Prop)(F:zC MF)(G:zC FF)(w:xN)(hY:ze3 Tryz.prog l eI 3 mX mY g)
 (hg:St we Se (mX x0 u::F) (YY Tryz.prog [.q .i,.q .i] (n,all,()) [v1,H]++G) w) (hM:vB fu n all g x0=Z r):
 uL Tryz.prog 198 #[.func (.yield l) #[] #[],v1,H] w λe w'=>(∃v,e=.returned v)/\∃C,St we Se (xfj (λx=>mX x C) (λy=>mY y C) r::F) G w':=by
 have hX:XOK Tryz.prog (cfC fu):=.of ziE O;have hD:∀c,okC 66 c=I->za7 Tryz.prog (cfC fu) 66 c:=λc h=>Qb zhJ zij zgX cN hX c h;refine ga (args:=[.func (.yield l) #[] #[],v1,H]) (c:=zbn f198) func198 O Xs λrest=> ?_;have hi:Wq Tryz.prog (Fr.wd ⟨we,Se,F,G⟩ []) ⟨0,[],[]⟩ (S0 mX mY g n all x0) (L ((([Value.func (.yield l) #[] #[],v1,H]:zC xn).zipIdx 0).map λx=>(x.2,x.1)) rest) w:=by
  refine⟨⟨λe D=> ?_,λ_ D=>wl D QT,λe D q hq=> ?_,λ_ D=>wl D QT⟩,λ_=>gN (.int .i64 (l:J)) [u],?_⟩
  ·obtain rfl:=xab.1 D;exact xdN
  ·simp only[S0,PQ,QT,uS]at D;obtain rfl|rfl|rfl:=D<;>cases hq<;>exact xdN
  ·have h1:St we Se (bH (λ_=>gN (.int .i64 (l:J)) [u]) (0,.hid .i 3 X Y mX mY g x0)::F) (YY Tryz.prog [.q .i,.q .i] (n,all,()) [v1,H]++G) w:=St.grp.2<|St.pr hY hg;exact h1.weak λS w T=>⟨O,T.1,T.2.1,T.2.2⟩
 have⟨f2,hd⟩:∃f2:zC J->V (X⊕Y),f2=λxs=>zg (λL (q:X×zC J)=>jd fu n all g q.1 q.2 (λx xs _ _ _ _ _=>L (x,xs)) (λx _ _ _=>Z (.inl x)) λy _=>Z (.inr y)) fu (x0,xs):=⟨_,O⟩;have⟨f1,hf⟩:∃f1:zC J->V (X⊕Y),f1=λxs=>bd (zg (λL (z:zC J×J)=>
  if z.2<(Wl xs:J)then
   zH z.2 (Wl z.1) λj=>
   B (z.1.set j z.2) λxs=>
   E (z.2+1) λi=>L (xs,i)
  else Z z.1) fu (xs,0)) f2:=⟨_,O⟩
 have hj:(uC n λm=>ck (8*m<=281474976710656)<|B (sR m 0) f1)=Z r:=by rw[hf,hd];exact hM
 refine MB (x:=kA) (y:=za2<|zbn f198) ?_;have⟨K,k1,k2⟩:=zm2 (λxs:zC J=>(Tg.n,S1 mX mY g n all x0 xs)) f1 (λi j h=>by
  have f:Od.own .i 3 i=Od.own .i 3 j:=by simpa[S1]using h
  cases f;rfl)
 have k1:∀xs,K .n (S1 mX mY g n all x0 xs)=f1 xs:=k1;refine hD kA Xs (N:=Nd.of 66) (K:=K) O (.inl O) (r:=r) ((zyz fu x0 K).trans<|by simp only[k1];exact hj) (λt σ' M Ds env w _ s=> ?_) hi;have⟨xs,e1,e2⟩:=k2 _ _ _ M;cases e1;refine MB (x:=kB) (y:=za2<|za2<|zbn f198) ?_;have⟨K,k1,k2⟩:=zm2 (λys:zC J=>(Tg.n,S2 mX mY g n all x0 xs ys)) f2 (λi j h=>by
  have f:Od.own .i 3 i=Od.own .i 3 j:=by simpa[S2]using h
  cases f;rfl)
 have k1:∀ys,K .n (S2 mX mY g n all x0 xs ys)=f2 ys:=k1;refine hD kB Xs (N:=Nd.of 66) (K:=K) O (.inl O) (r:=r) ((zyH fu x0 xs K).trans<|by simp only[k1];rw[hf]at e2;exact e2) (λt σ' M Ds env w _ s=> ?_) s;have⟨ys,e3,e4⟩:=k2 _ _ _ M;cases e3;have hm:Wq Tryz.prog (Fr.wd ⟨we,Se,F,G⟩ Ds) ⟨0,[],[]⟩ (chS 3 mX mY g n all x0 ys) env w:=zs1 (o:=0) (p:=2) O O O O O O O s;refine zba (id:=2) (c:=.loop kC) ?_;have⟨body,hb⟩:∃body:((X×zC J)->V (X⊕Y))->(X×zC J)->V (X⊕Y),body=λL q=>jd fu n all g q.1 q.2 (λx xs _ _ _ _ _=>L (x,xs)) (λx _ _ _=>Z (.inl x)) λy _=>Z (.inr y):=⟨_,O⟩;refine zf0 (G:=zV×(X×zC J)) (λq Ds env w=>zg body q.1 q.2=Z r/\Wq Tryz.prog (Fr.wd ⟨we,Se,F,G⟩ Ds) ⟨0,[],[]⟩ (chS 3 mX mY g n all q.2.1 q.2.2) env w) (λq=>q.1) (fu,(x0,ys)) ⟨by rw[hb];rw[hd]at e4;exact e4,hm⟩ ?_;rintro⟨k,x,xs⟩ Ds env w ⟨hl,s⟩
 cases k with
 |zero=>exact(zkr hl).elim
 |succ k=>
  have hl:=zkb hl
  have⟨K,k1,k2⟩:=zm2 (ι:=(X×zC J×J×J×J×J×J)⊕((X×J×J×zC J)⊕(Y×zC J)))
   (λq=>match q with
    |.inl (x,xs,a,b,c,d,e)=>(Tg.n,Sn mX mY g n all x xs a b c d e)
    |.inr (.inl (x,a,b,xs))=>(Tg.r,Sr mX mY g n all x a b xs)
    |.inr (.inr (y,xs))=>(Tg.r,Sy mY n all y xs))
   (λq=>match q with
    |.inl (x,xs,_,_,_,_,_)=>zg body k (x,xs)
    |.inr (.inl (x,_,_,_))=>Z (.inl x)
    |.inr (.inr (y,_))=>Z (.inr y)) (λi j h=>by
   rcases i with⟨x,xs,a,b,c,d,e⟩|⟨x,a,b,xs⟩|⟨y,xs⟩<;>rcases j with⟨U,A,a',b',c',d',e'⟩|⟨U,a',b',A⟩|⟨y',A⟩
   ·have f:=wF (λq:Tg×Sg=>q.2.ob) h
    simp only[Sn,xey,xcZ,true_and,and_true]at f
    have⟨P,h4⟩:=f
    cases P;cases h4;rfl
   ·cases wF Prod.fst h
   ·cases wF Prod.fst h
   ·cases wF Prod.fst h
   ·have f:=wF (λq:Tg×Sg=>q.2.ob) h
    simp only[Sr,xey,xcZ,true_and,and_true]at f
    have⟨P,h4⟩:=f
    cases P;rfl
   ·exact wl (wF (λq:Tg×Sg=>q.2.nx) h)<|by simp[Sr,Sy]
   ·cases wF Prod.fst h
   ·exact wl (wF (λq:Tg×Sg=>q.2.nx) h)<|by simp[Sr,Sy]
   ·have f:=wF (λq:Tg×Sg=>q.2.ob) h
    simp only[Sy,xey,xcZ,true_and,and_true]at f
    have⟨P,h4⟩:=f
    cases P;rfl)
  have q1:∀x xs a b c d e,K .n (Sn mX mY g n all x xs a b c d e)=zg body k (x,xs):=λx xs a b c d e=>k1 (.inl (x,xs,a,b,c,d,e));have q2:∀x a b xs,K .r (Sr mX mY g n all x a b xs)=Z (.inl x):=λx a b xs=>k1 (.inr (.inl (x,a,b,xs)));have q3:∀y xs,K .r (Sy mY n all y xs)=Z (.inr y):=λy xs=>k1 (.inr (.inr (y,xs)));refine hD kC Xs (N:=Nd.of 66) (K:=K) O (.inl O) (r:=r) ((zyo fu x xs K).trans<|by simp only[q1,q2,q3];rw[hb]at hl⊢;exact hl) (λt σ' M Ds env w _ s=> ?_) s;have⟨i,e5,e6⟩:=k2 _ _ _ M
  have Q:∀(t:Tg) (env:xt) (w:xN),(∃C,St we Se (xfj (λx=>mX x C) (λy=>mY y C) r::F) G<|kO Ds w)->OI Ds w->∀a:kg,xf a=env->
   ∃v,(kw f198 a.tmps).run Tryz.prog (kO Ds w)=.ok v (kO Ds w)/\(∃v',xez v=.returned v')/\∃C,St we Se (xfj (λx=>mX x C) (λy=>mY y C) r::F) G (kO Ds w):=λt env w h1 f a T=>⟨_,JA (rs:=[]) (vs:=[]) O xS,⟨_,O⟩,h1⟩
  rcases i with⟨U,A,a,b,c,d,e⟩|⟨U,a,b,A⟩|⟨y',A⟩
  ·cases e5;exact⟨(k,(U,A)),⟨e6,zs1 (o:=2) (p:=4) O O O O O O O s⟩,xdy k⟩
  ·cases e5;cases e6;have⟨hc,s⟩:=aY s;exact⟨.inr O,hc,Q .r _ _ (zu7 (o:=2) O s) hc⟩
  ·cases e5;cases e6;have⟨hc,s⟩:=aY s;exact⟨.inr O,hc,Q .r _ _ (zvg (o:=2) O s) hc⟩
end
def Gy:zoc Tryz.prog (Qg fu):=by
 refine⟨Xs,?_⟩;rintro⟨n,a,_⟩ X Y h i g x0 r b l vs c d u we Se F G w e
 match vs,c with
 |[v1,f],_=>exact zsj fu g x0 r l v1 f u we Se F G w d e b
def VY:zgn:=⟨119,[.i,.i],198,λx=>[⟨.i,x.2.1⟩,⟨.i,x.1⟩]⟩
def N8:zhc Tryz.prog VY:=ztP (s:=VY) (cf:=⟨tt,[],wJ,0,ex,[],[],[]⟩) zhJ zij zgX cN (.of ziE O) func119 Xs λx=>by kernel_rfl
def Vc:yg ⟨260,[.d yP,.d .i],[.d .i],λx=>Vj fu x.1 x.2.1,0⟩:=sq fu ⟨[],[],[(2,⟨⟨[(8,.d .i)],[]⟩,⟨[],[(.x 0,⟨[],[]⟩),(.r,⟨[(4,.d .i)],[]⟩)]⟩⟩)],[],[],[],[]⟩ func260<|cN
def bF:yg ⟨260,[.own .i 3,.d .i],[.d .i,.own .i 3],λx=>jK fu x.1 x.2.1,1⟩:=sgb (fu:=fu) ⟨[],[],[(2,⟨⟨[(8,.d .i)],[]⟩,⟨[0],[(.x 0,⟨[],[]⟩),(.r,⟨[(4,.d .i)],[]⟩)]⟩⟩)],[],[],[],[]⟩ func260 (cN) Xs λa x=>by kernel_rfl
def bN:yg ⟨201,[.d yP,.d .i],[.d .b],λx=>YZ fu x.1 x.2.1,0⟩:=sq fu wJ func201<|D (Vc fu)<|cN
def J9:yg ⟨201,[.own .i 3,.d .i],[.d .b,.own .i 3],λx=>wA fu x.1 x.2.1,1⟩:=sgb (fu:=fu) wJ func201 (D (bF fu)<|D (Vc fu)<|cN) Xs λa x=>by kernel_rfl
def jJ:QY:=⟨121,[.d tzQ,.own .i 3],[.d tzQ,.own .i 3],λx=>wb fu x.1 x.2.1,1⟩
def bT:yg (jJ fu):=sgb (fu:=fu) ⟨[],[(262149,⟨[1,5],[(.n,⟨[(8,.d tzQ),(9,.d .i),(11,.d .b)],[]⟩)]⟩)],[(3,q1 [(5,.own xc 22),(10,.d .i),(1,.own .i 3)] 0 [(5,.own xc 22),(1,.own .i 3)])],[],[],[],[]⟩ func121 (D (J9 fu)<|D (bN fu)<|cN) Xs λa x=>by kernel_rfl
def BC:QY:=⟨60,[.d xc,.d tzQ,.d zO],[.own xc 22],λx=>Y8 fu x.1 x.2.1 x.2.2.1,0⟩
def zam:yg (BC fu):=zhv (s:=BC fu) (cf:=⟨tt,[Y2 fu,ov fu,jJ fu,lA fu],⟨[3,4],[],[(3,q1 [(3,.var xc 22),(4,.var tzQ 56),(7,.bo xc 22 56),(8,.d .i)] 0 [(3,.var xc 22),(4,.var tzQ 56),(7,.bo xc 22 56)]),(6,q1 [(3,.var xc 22),(4,.var tzQ 56),(7,.bo xc 22 56)] 1 [])],[(13,[56,57])],[],[7],[]⟩,fu,ex,[],[VY],[Qg fu]⟩) zhJ zij zgX (D (Aw fu)<|D (cB fu)<|D (bT fu)<|D (WC fu)<|cN) ⟨ziE,λs h=>by obtain rfl:=xab.1 h;exact N8,λ_ h=>wl h QT,λs h=>by obtain rfl:=xab.1 h;exact Gy fu,O⟩ func60 Xs O λx r h=>(id Xs:zis ⟨tt,[Y2 fu,ov fu,jJ fu,lA fu],⟨[3,4],[],[(3,q1 [(3,.var xc 22),(4,.var tzQ 56),(7,.bo xc 22 56),(8,.d .i)] 0 [(3,.var xc 22),(4,.var tzQ 56),(7,.bo xc 22 56)]),(6,q1 [(3,.var xc 22),(4,.var tzQ 56),(7,.bo xc 22 56)] 1 [])],[(13,[56,57])],[],[7],[]⟩,fu,ex,[],[VY],[Qg fu]⟩ f60 [.d xc,.d tzQ,.d zO] [.own xc 22] x=Y8 fu x.1 x.2.1 x.2.2.1).trans h
def zdQ:yg ⟨124,[.d xc,.d xc],[.d .b],λx=>WK fu x.1 x.2.1,0⟩:=sq fu ⟨[],[],[(5,⟨⟨[(5,.d .i)],[]⟩,⟨[0,1],[(.x 0,⟨[],[]⟩),(.r,⟨[(4,.d .b)],[]⟩)]⟩⟩)],[],[],[],[]⟩ func124<|D (xC fu)<|D (bC fu)<|cN
def OU:yg ⟨62,[.d xc,.d xc],[.d .i],λx=>uz fu x.1 x.2.1,0⟩:=sq fu wJ func62<|D (zdQ fu)<|cN
def zfZ:yg ⟨167,[.d zO,.d .i],[.d zO,.d .i],λx=>cy fu x.1 x.2.1,0⟩:=sq fu ⟨[],[],[(6,⟨⟨[(4,.var zO 30),(6,.var zO 30),(9,.var zO 30)],[]⟩,⟨[],[(.r,⟨[(4,.var zO 30)],[(5,.ci 0)]⟩)]⟩⟩),(11,⟨⟨[(1,.d .i),(2,.q zO),(52,.d .i),(11,.var zO 30)],[]⟩,⟨[4,6,9,10],[(.x 2,⟨[(1,.d .i),(2,.q zO),(11,.var zO 30)],[]⟩)]⟩⟩)],[],[],[],[]⟩ func167<|D (x8 fu)<|D (j7 fu)<|D (XX fu)<|D (iM fu)<|D (HZ fu)<|D (wh fu)<|D (bC fu)<|D (zbB fu)<|D (j9 fu)<|cN
def E9:yg ⟨49,[.d xc],[.d .i],λx=>W5 fu x.1,0⟩:=sq fu wJ func49<|D (xC fu)<|cN
def Ux:yg ⟨102,[.d xc],[.d zO,.d .i],λx=>vV fu x.1,0⟩:=sq fu ⟨[],[(524297,⟨[0,2,5],[(.n,⟨[(22,.d .i),(24,.d .b)],[]⟩)]⟩)],[(7,⟨⟨[(23,.d .i),(0,.own zO 30),(2,.var zO 30),(5,.var zO 30)],[(21,.al 0)]⟩,⟨[],[(.x 0,⟨[(0,.own zO 30),(2,.var zO 30),(5,.var zO 30)],[]⟩)]⟩⟩)],[],[],[],[]⟩ func102<|D (xC fu)<|D (x8 fu)<|D (wh fu)<|D (XX fu)<|D (zfZ fu)<|D (HZ fu)<|D (J0 fu)<|D (E9 fu)<|cN
def zaJ:yg ⟨56,[.d xc,.d .i],[.d .i],λx=>Q6 fu x.1 x.2.1,0⟩:=sq fu ⟨[],[],[(5,⟨⟨[(9,.d .i),(8,.var zO 30)],[]⟩,⟨[5,7],[(.x 0,⟨[(9,.d .i)],[]⟩)]⟩⟩)],[(2,[])],[],[],[]⟩ func56<|D (x8 fu)<|D (bC fu)<|D (wh fu)<|D (Ux fu)<|cN
def zcw:yg ⟨54,[.d xc],[.d .b],λx=>Uu fu x.1,0⟩:=sq fu ⟨[],[],[],[(2,[])],[],[],[]⟩ func54<|D (x8 fu)<|D (wh fu)<|D (Ux fu)<|D (iM fu)<|cN
def Rh:yg ⟨178,[.d yP,.d yP],[.d .i],λx=>qg fu x.1 x.2.1,0⟩:=sq fu ⟨[],[],[(4,⟨⟨[(5,.d .i)],[]⟩,⟨[],[(.x 0,⟨[],[]⟩),(.r,⟨[(4,.d .i)],[]⟩)]⟩⟩)],[],[],[],[]⟩ func178<|cN
def Qe:QY:=⟨309,[.d yP,.q .i],[.d .b],λx=>uu fu x.1 x.2.1,0⟩
def HJ:yg (Qe fu):=sq fu wJ func309<|cN
def lL:QY:=⟨308,[.d yP,.d .i],[.own .i 3],λx=>W3 fu x.1 x.2.1,0⟩
def zcC:yg (lL fu):=sq fu ⟨[],[],[(3,q1 [(13,.d .i),(5,.own .i 3)] 0 [(5,.own .i 3)])],[],[],[],[]⟩ func308<|D (sw fu)<|cN
def lj:QY:=⟨282,[.d (.l yP),.d .i],[.d .i],λx=>Vk fu x.1 x.2.1,0⟩
def Dc:yg (lj fu):=sq fu ⟨[],[(393223,⟨[],[(.n,⟨[(0,.d (.l yP)),(17,.d (.l yP)),(18,.d .i),(20,.d .b)],[]⟩)]⟩)],[(5,⟨⟨[(19,.d .i)],[]⟩,⟨[],[(.x 0,⟨[],[]⟩),(.r,⟨[],[(4,.ci 1)]⟩)]⟩⟩)],[],[],[],[]⟩ func282<|D (kI fu)<|cN
def QX:N5:=⟨310,.i,23,3,λb ix r a p lo n=>qY fu b ix r a p lo n⟩
def TB(c:xn)(b:N (N J))(ix:N K)(r:K)(a p:J)(lo n:K):zuA ⟨tt,[],(⟨[],[],[(1,q1 [(3,.matv .i 23 3),(13,.view 0),(0,.row 0),(15,.d .i)] 0 [(3,.matv .i 23 3)]),(5,q1 [(3,.matv .i 23 3),(13,.view 0),(0,.row 0),(23,.row 0),(9,.row 0),(25,.d .i)] 2 [(3,.matv .i 23 3),(13,.view 0),(0,.row 0)])],[],[],[],[]⟩:An),fu,ex,[],[],[]⟩ f310 .i 23 3 c b ix r a p lo n=qY fu b ix r a p lo n:=Xs
def zau:zhh Tryz.prog (QX fu):=zuk (s:=QX fu) (cf:=⟨tt,[],(⟨[],[],[(1,q1 [(3,.matv .i 23 3),(13,.view 0),(0,.row 0),(15,.d .i)] 0 [(3,.matv .i 23 3)]),(5,q1 [(3,.matv .i 23 3),(13,.view 0),(0,.row 0),(23,.row 0),(9,.row 0),(25,.d .i)] 2 [(3,.matv .i 23 3),(13,.view 0),(0,.row 0)])],[],[],[],[]⟩:An),fu,ex,[],[],[]⟩) zhJ zij zgX cN (.of ziE O) func310 Xs λc b ix r a p lo n z h=>(TB fu c b ix r a p lo n).trans h
def jl:QY:=⟨185,[.d (.l yP),.fn [yP] [.b]],[.d .i],λx=>xg fu x.1<|λz0=>x.2.1 (z0,()),0⟩
def Yt:yg (jl fu):=sq fu ⟨[],[],[(2,⟨⟨[(8,.d .i)],[]⟩,⟨[],[(.x 0,⟨[],[]⟩),(.r,⟨[(4,.d .i)],[]⟩)]⟩⟩)],[],[],[],[]⟩ func185<|cN
def sE:QY:=⟨283,[.d (.l yP),.d .i],[.d (.l yP),.d .i],λx=>ZU fu x.1 x.2.1,0⟩
def Sb:yg (sE fu):=zhv (s:=sE fu) (cf:=⟨tt,[lj fu,lL fu,jl fu,N9 fu,Qe fu],⟨[],[],[(6,q1 [(7,.mat .i 23 3),(25,.d .i)] 0 [(7,.mat .i 23 3)]),(12,q1 [(7,.mat .i 23 3),(10,.d .i),(11,.var .i 3)] 2 [(7,.mat .i 23 3),(10,.d .i)]),(19,q1 [(7,.mat .i 23 3),(90,.row 0),(92,.d .i)] 4 [(7,.mat .i 23 3)])],[(16,[]),(23,[]),(24,[])],[52,117,128],[33],[]⟩,fu,ex,[QX fu],[],[]⟩) zhJ zij zgX (D (Dc fu)<|D (zcC fu)<|D (Yt fu)<|D (Ov fu)<|D (HJ fu)<|cN) ⟨ziE,λ_ h=>wl h QT,λs h=>by obtain rfl:=xab.1 h;exact zau fu,λ_ h=>wl h QT,O⟩ func283 Xs O λx r h=>(id Xs:zis ⟨tt,[lj fu,lL fu,jl fu,N9 fu,Qe fu],⟨[],[],[(6,q1 [(7,.mat .i 23 3),(25,.d .i)] 0 [(7,.mat .i 23 3)]),(12,q1 [(7,.mat .i 23 3),(10,.d .i),(11,.var .i 3)] 2 [(7,.mat .i 23 3),(10,.d .i)]),(19,q1 [(7,.mat .i 23 3),(90,.row 0),(92,.d .i)] 4 [(7,.mat .i 23 3)])],[(16,[]),(23,[]),(24,[])],[52,117,128],[33],[]⟩,fu,ex,[QX fu],[],[]⟩ f283 [.d (.l yP),.d .i] [.d (.l yP),.d .i] x=ZU fu x.1 x.2.1).trans h
def TA:yg ⟨312,[.d .i],[.d .b],λx=>Xd fu x.1,0⟩:=sq fu wJ func312<|cN
def Ke:yg ⟨311,[.d yP,.fn [.i] [.b]],[.d .i],λx=>xF fu x.1<|λz0=>x.2.1 (z0,()),0⟩:=sq fu ⟨[],[],[(2,⟨⟨[(8,.d .i)],[]⟩,⟨[],[(.x 0,⟨[],[]⟩),(.r,⟨[(4,.d .i)],[]⟩)]⟩⟩)],[],[],[],[]⟩ func311<|cN
def H6:yg ⟨286,[.d yP],[.d .i],λx=>J4 fu x.1,0⟩:=sq fu wJ func286<|D (TA fu)<|D (Ke fu)<|cN
def TD:yg ⟨285,[.d yP,.q .i],[.d .b],λx=>kH fu x.1 x.2.1,0⟩:=sq fu wJ func285<|D (H6 fu)<|cN
def J6:yg ⟨284,[.d (.l yP),.fn [yP] [.b]],[.d .b],λx=>wq fu x.1<|λz0=>x.2.1 (z0,()),0⟩:=sq fu wJ func284<|D (Yt fu)<|cN
def zeo:yg ⟨243,[.d (.l yP),.d .i,.d .i],[.own yP 23,.d .i],λx=>Ju fu x.1 x.2.1 x.2.2.1,0⟩:=sq fu ⟨[],[(131076,⟨[],[(.n,⟨[],[]⟩),(.r,⟨[],[(6,.nil),(7,.ci 1)]⟩)]⟩),(458760,⟨[10],[(.n,⟨[(1,.d .i),(2,.d .i),(8,.d (.l yP)),(46,.d .i),(48,.d .b)],[]⟩)]⟩),(851982,⟨[10,12],[(.n,⟨[(1,.d .i),(2,.d .i),(8,.d (.l yP)),(11,.q .i),(46,.d .i),(47,.d .i),(58,.d (.l yP)),(59,.d .i),(61,.d .b)],[]⟩)]⟩)],[(6,q1 [(10,.own yP 23),(47,.d .i)] 0 [(10,.own yP 23)]),(12,q1 [(60,.d .i),(10,.own yP 23),(12,.own .i 3)] 2 [(10,.own yP 23),(12,.own .i 3)])],[],[],[],[]⟩ func243<|D (sw fu)<|D (Dc fu)<|D (Sb fu)<|D (J6 fu)<|D (TD fu)<|D (H6 fu)<|cN
def sN:yg ⟨115,[.d yP,.d yP,.d .i],[.own .i 3,.own .i 3,.d .i],λx=>uD fu x.1 x.2.1 x.2.2.1,0⟩:=sq fu wJ func115<|D (kI fu)<|D (wy fu)<|D (Kz fu)<|cN
def rq:yg ⟨242,[.d yP,.d zO,.d yP,.d .i],[.own .i 3,.d .i],λx=>ZT fu x.1 x.2.1 x.2.2.1 x.2.2.2.1,0⟩:=sq fu ⟨[],[],[(9,⟨⟨[(11,.own .i 3),(13,.d yP),(14,.d .i)],[]⟩,⟨[10,12],[(.x 0,⟨[(11,.own .i 3)],[]⟩)]⟩⟩)],[],[],[],[]⟩ func242<|D (j7 fu)<|D (iM fu)<|D (Xr fu)<|D (kI fu)<|D (wy fu)<|D (Kz fu)<|cN
def zdM:yg ⟨176,[.d yP,.d .i],[.own yP 23],λx=>VV fu x.1 x.2.1,0⟩:=sq fu ⟨[],[],[(4,q1 [(6,.mat .i 23 3),(23,.d .i)] 0 [(6,.mat .i 23 3)]),(11,q1 [(6,.mat .i 23 3),(10,.d yP),(8,.d yP),(43,.d .i)] 2 [(6,.mat .i 23 3)]),(14,q1 [(6,.mat .i 23 3),(48,.d .i)] 4 [(6,.mat .i 23 3)])],[],[],[20],[]⟩ func176<|D (x8 fu)<|D (rq fu)<|D (cj fu)<|D (sN fu)<|D (zeo fu)<|cN
def zkH:yg ⟨241,[.d yP,.d yP,.d .i],[.own .i 3],λx=>Aa fu x.1 x.2.1 x.2.2.1,0⟩:=sq fu wJ func241<|D (sN fu)<|cN
def zh0:yg ⟨239,[.d yP,.d yP,.d .i],[.d yP],λx=>iu fu x.1 x.2.1 x.2.2.1,0⟩:=sq fu wJ func239<|D (o8 fu)<|cN
def IL:yg ⟨237,[.d .i,.q yP,.q .i],[.d .i],λx=>XJ fu x.1 x.2.1 x.2.2.1,0⟩:=sq fu wJ func237<|D (sw fu)<|cN
def ze0:yg ⟨281,[.d yP,.d yP,.d .i],[.own .i 3,.d .i],λx=>dK fu x.1 x.2.1 x.2.2.1,0⟩:=sq fu wJ func281<|D (kI fu)<|D (wy fu)<|D (rm fu)<|cN
def zcR:yg ⟨240,[.d yP,.d .i,.d yP,.d .i],[.own .i 3],λx=>Uq fu x.1 x.2.1 x.2.2.1 x.2.2.2.1,0⟩:=sq fu wJ func240<|D (x8 fu)<|D (ze0 fu)<|D (rq fu)<|D (Iu fu)<|cN
def zah:yg ⟨175,[.d yP,.d (.l yP),.d .i,.d yP],[.own yP 23],λx=>Q3 fu x.1 x.2.1 x.2.2.1 x.2.2.2.1,0⟩:=sq fu ⟨[],[(524297,⟨[10],[(.n,⟨[(11,.d .i),(28,.d (.l yP)),(29,.d .i),(31,.d .b)],[]⟩)]⟩),(983056,⟨[10],[(.n,⟨[(1,.d (.l yP)),(6,.q .i),(7,.q yP),(11,.d .i),(13,.d yP),(28,.d (.l yP)),(29,.d .i),(30,.d .i),(73,.d .b)],[]⟩)]⟩)],[(4,q1 [(10,.own yP 23),(11,.d .i)] 0 [(10,.own yP 23)]),(7,⟨⟨[(1,.d (.l yP)),(6,.q .i),(7,.q yP),(10,.own yP 23),(30,.d .i)],[]⟩,⟨[],[(.x 0,⟨[(10,.own yP 23)],[]⟩),(.x 2,⟨[(1,.d (.l yP)),(6,.q .i),(7,.q yP),(10,.own yP 23)],[]⟩)]⟩⟩),(10,⟨⟨[(10,.own yP 23),(14,.d .i)],[]⟩,⟨[],[(.x 0,⟨[(10,.own yP 23)],[]⟩),(.x 4,⟨[(10,.own yP 23)],[]⟩)]⟩⟩)],[],[],[],[]⟩ func175<|D (zcR fu)<|D (zkH fu)<|D (IL fu)<|D (zh0 fu)<|cN
def BN:yg ⟨280,[.d yP,.d .i],[.own .i 3,.d .i],λx=>vQ fu x.1 x.2.1,0⟩:=sq fu wJ func280<|D (kI fu)<|D (wy fu)<|D (pJ fu)<|cN
def zbZ:yg ⟨236,[.d yP,.d .i],[.own .i 3,.d .i],λx=>iU fu x.1 x.2.1,0⟩:=sq fu wJ func236<|D (BN fu)<|cN
def zav:yg ⟨233,[.d yP,.d .i],[.own .i 3,.d .i],λx=>Jr fu x.1 x.2.1,0⟩:=sq fu ⟨[],[(458760,⟨[7,17],[(.n,⟨[(1,.d .i),(18,.d .i),(20,.d .b)],[]⟩)]⟩)],[(6,q1 [(7,.own .i 3),(19,.d .i),(17,.own .i 3)] 0 [(7,.own .i 3)])],[],[],[],[]⟩ func233<|D (kI fu)<|D (wy fu)<|cN
def zdx:yg ⟨232,[.d yP,.d .i],[.own .i 3,.d .i],λx=>WO fu x.1 x.2.1,0⟩:=sq fu wJ func232<|D (BN fu)<|cN
def zaS:yg ⟨170,[.d yP,.d .i],[.d .b,.d .i],λx=>Zq fu x.1 x.2.1,0⟩:=sq fu wJ func170<|D (zdx fu)<|D (zav fu)<|D (o8 fu)<|cN
def zal:yg ⟨174,[.d yP,.d .i],[.d yP,.d .i],λx=>Zp fu x.1 x.2.1,0⟩:=sq fu wJ func174<|D (zaS fu)<|D (zbZ fu)<|cN
def mU:yg ⟨123,[.d .u],[.d .i],λx=>Zj fu x.1,0⟩:=sq fu wJ func123<|D (WJ fu)<|cN
def Y5:yg ⟨287,[.own yP 23,.d .i,.d .i,.fn [yP,yP] [.i]],[.own yP 23],λx=>qE fu x.1 x.2.1 x.2.2.1<|λz0 a=>x.2.2.2.1 (z0,a,()),1⟩:=sgb (fu:=fu) ⟨[],[],[(1,q1 [(8,.d .i),(0,.own yP 23)] 0 [(0,.own yP 23)]),(4,q1 [(1,.d .i),(2,.d .i),(9,.d .i),(0,.own yP 23)] 2 [(1,.d .i),(2,.d .i),(0,.own yP 23)])],[(6,[])],[],[],[]⟩ func287 (cN) Xs λb x=>by kernel_rfl
def Qk:QY:=⟨244,[.own yP 23,.d .i,.d .i,.d .i,.fn [yP,yP] [.i]],[.own yP 23],λx=>uw fu x.1 x.2.1 x.2.2.1 x.2.2.2.1<|λz0 a=>x.2.2.2.2.1 (z0,a,()),1⟩
def uh:∀fu:K,yg (Qk fu)
 |0=>sg0 Xs λ_=>O
 |fu+1=>sgb (fu:=fu) ⟨[],[],[(2,⟨⟨[(1,.d .i),(2,.d .i),(3,.d .i),(0,.own yP 23)],[(10,.kb I),(11,.kb I)]⟩,⟨[],[(.r,⟨[(0,.own yP 23)],[]⟩)]⟩⟩)],[],[],[],[]⟩ func244 (D (uh fu)<|D (Y5 fu)<|cN) Xs λa x=>by kernel_rfl
def Km:yg ⟨177,[.own yP 23,.fn [yP,yP] [.i]],[.own yP 23],λx=>wH fu x.1<|λz0 a=>x.2.1 (z0,a,()),1⟩:=sgb (fu:=fu) wJ func177 (D (mU fu)<|D (uh fu)<|cN) Xs λb x=>by kernel_rfl
def zdj:yg ⟨107,[.d yP,.d .i,.d yP],[.own yP 23,.d .i],λx=>WB fu x.1 x.2.1 x.2.2.1,0⟩:=sq fu wJ func107<|D (zal fu)<|D (zah fu)<|D (zdM fu)<|D (Km fu)<|D (Rh fu)<|cN
def zdi:yg ⟨104,[.d .i],[.d .i,.d .i],λx=>vb fu x.1,0⟩:=sq fu ⟨[],[],[(4,q1 [(0,.d .i)] 0 [(0,.d .i)])],[],[],[],[]⟩ func104<|D (UW fu)<|cN
def zcF:yg ⟨105,[.d xc,.d .i],[.d .b,.d .i],λx=>Ui fu x.1 x.2.1,0⟩:=sq fu wJ func105<|D (xC fu)<|D (Ux fu)<|D (zaS fu)<|D (J3 fu)<|D (UW fu)<|cN
def zd5:yg ⟨55,[.d xc,.d yP],[.d .i,.own yP 23],λx=>UE fu x.1 x.2.1,0⟩:=sq fu ⟨[],[],[(4,q1 [(6,.d .i),(7,.d .i),(8,.own yP 23),(9,.d .i),(10,.d .i)] 0 [(6,.d .i),(8,.own yP 23)])],[],[],[],[]⟩ func55<|D (zdi fu)<|D (zcF fu)<|D (J3 fu)<|D (zdj fu)<|cN
def Oh:yg ⟨180,[.d .i],[.d zO],λx=>sY fu x.1,0⟩:=sq fu ⟨[],[(262149,⟨[2,3],[(.n,⟨[(0,.d .i),(6,.d .i),(8,.d .b)],[]⟩)]⟩)],[(3,q1 [(7,.d .i),(2,.var zO 30),(3,.var zO 30)] 0 [(2,.var zO 30),(3,.var zO 30)])],[(5,[])],[],[],[]⟩ func180<|D (x8 fu)<|D (wh fu)<|D (Ug fu)<|cN
def zar:yg ⟨179,[.d zO,.d .i],[.d zO],λx=>Xf fu x.1 x.2.1,0⟩:=sq fu ⟨[2],[],[(2,⟨⟨[(1,.d .i),(2,.var zO 30),(5,.var zO 30)],[]⟩,⟨[4],[(.x 0,⟨[(5,.var zO 30)],[]⟩)]⟩⟩)],[],[],[],[]⟩ func179<|D (x8 fu)<|D (wh fu)<|cN
def TM:yg ⟨295,[.d xc,.d xc],[.d zO],λx=>Bc fu x.1 x.2.1,0⟩:=sq fu ⟨[],[(262149,⟨[4,5],[(.n,⟨[(1,.d xc),(9,.d xc),(10,.d .i),(12,.d .b)],[]⟩)]⟩)],[(3,q1 [(11,.d .i),(4,.var zO 30),(5,.var zO 30)] 0 [(4,.var zO 30),(5,.var zO 30)])],[],[],[],[]⟩ func295<|D (x8 fu)<|D (wh fu)<|D (XX fu)<|cN
def TU:yg ⟨245,[.d xc,.d xc],[.d zO,.d .i],λx=>A8 fu x.1 x.2.1,0⟩:=sq fu wJ func245<|D (TM fu)<|cN
def SE:yg ⟨181,[.d xc],[.d zO],λx=>ri fu x.1,0⟩:=sq fu wJ func181<|D (TU fu)<|cN
def zck:yg ⟨111,[.d xc,.d .i,.d .i],[.d .i,.d .i],λx=>EJ fu x.1 x.2.1 x.2.2.1,0⟩:=sq fu ⟨[],[],[(13,⟨⟨[(16,.d .i),(15,.var zO 30)],[]⟩,⟨[8,13,14],[(.x 0,⟨[],[]⟩),(.r,⟨[(6,.d .i)],[(7,.ci 0)]⟩)]⟩⟩)],[],[],[],[]⟩ func111<|D (x8 fu)<|D (wh fu)<|D (Ux fu)<|D (bC fu)<|D (UW fu)<|D (WC fu)<|D (zar fu)<|D (Oh fu)<|D (SE fu)<|cN
def LX:yg ⟨114,[.d yP,.q yP,.q .i],[.d .b],λx=>LZ fu x.1 x.2.1 x.2.2.1,0⟩:=sq fu wJ func114<|D (sN fu)<|cN
def zab:yg ⟨58,[.d xc,.d (.l yP),.d .i],[.own xc 22,.d xc,.d (.l yP)],λx=>Q9 fu x.1 x.2.1 x.2.2.1,0⟩:=sq fu ⟨[],[],[(2,⟨⟨[(0,.d xc),(1,.d (.l yP))],[(9,.nil)]⟩,⟨[],[(.x 0,⟨[(0,.d xc),(1,.d (.l yP))],[(9,.nil)]⟩)]⟩⟩)],[],[],[],[]⟩ func58<|D (J3 fu)<|D (zck fu)<|D (LX fu)<|D (AF fu)<|D (cB fu)<|cN
def Zz:yg ⟨202,[.own xc 22,.d .i,.d .i,.fn [xc,xc] [.i]],[.own xc 22],λx=>vA fu x.1 x.2.1 x.2.2.1<|λz0 a=>x.2.2.2.1 (z0,a,()),1⟩:=sgb (fu:=fu) ⟨[],[],[(1,q1 [(8,.d .i),(0,.own xc 22)] 0 [(0,.own xc 22)]),(4,q1 [(1,.d .i),(2,.d .i),(9,.d .i),(0,.own xc 22)] 2 [(1,.d .i),(2,.d .i),(0,.own xc 22)])],[(6,[])],[],[],[]⟩ func202 (cN) Xs λb x=>by kernel_rfl
def XP:QY:=⟨122,[.own xc 22,.d .i,.d .i,.d .i,.fn [xc,xc] [.i]],[.own xc 22],λx=>jt fu x.1 x.2.1 x.2.2.1 x.2.2.2.1<|λz0 a=>x.2.2.2.2.1 (z0,a,()),1⟩
def jk:∀fu:K,yg (XP fu)
 |0=>sg0 Xs λ_=>O
 |fu+1=>sgb (fu:=fu) ⟨[],[],[(2,⟨⟨[(1,.d .i),(2,.d .i),(3,.d .i),(0,.own xc 22)],[(10,.kb I),(11,.kb I)]⟩,⟨[],[(.r,⟨[(0,.own xc 22)],[]⟩)]⟩⟩)],[],[],[],[]⟩ func122 (D (Zz fu)<|D (jk fu)<|cN) Xs λa x=>by kernel_rfl
def Y4:yg ⟨61,[.own xc 22,.fn [xc,xc] [.i]],[.own xc 22],λx=>yV fu x.1<|λz0 a=>x.2.1 (z0,a,()),1⟩:=sgb (fu:=fu) wJ func61 (D (jk fu)<|D (mU fu)<|cN) Xs λb x=>by kernel_rfl
def zcM:yg ⟨25,[.d xc,.d yP],[.own xc 22,.d .b],λx=>KY fu x.1 x.2.1,0⟩:=sq fu wJ func25<|D (zcw fu)<|D (zd5 fu)<|D (zaJ fu)<|D (bu fu)<|D (zab fu)<|D (AF fu)<|D (zam fu)<|D (Y4 fu)<|D (OU fu)<|cN
def zdZ:yg ⟨162,[.d zO,.d .i],[.d zO],λx=>Ud fu x.1 x.2.1,0⟩:=sq fu ⟨[],[],[(3,⟨⟨[(8,.d .i),(5,.var zO 30)],[]⟩,⟨[4],[(.x 0,⟨[(5,.var zO 30)],[]⟩)]⟩⟩)],[],[],[],[]⟩ func162<|D (x8 fu)<|D (wh fu)<|cN
def TQ:yg ⟨98,[.d xc,.d xc],[.own zO 30,.own zO 30,.d .i],λx=>Xj fu x.1 x.2.1,0⟩:=sq fu ⟨[],[],[(9,⟨⟨[(1,.d xc),(9,.own zO 30),(11,.d .i),(10,.own zO 30)],[]⟩,⟨[8],[(.x 0,⟨[(9,.own zO 30),(10,.own zO 30)],[]⟩)]⟩⟩)],[(12,[]),(13,[1])],[],[],[]⟩ func98<|D (xC fu)<|D (Ug fu)<|D (zdZ fu)<|D (Jc fu)<|D (If fu)<|cN
def zhI:yg ⟨52,[.d xc,.d xc],[.own zO 30],λx=>Qi fu x.1 x.2.1,0⟩:=sq fu ⟨[],[],[(3,⟨⟨[(6,.d xc),(7,.own zO 30)],[]⟩,⟨[5],[(.x 0,⟨[(6,.d xc)],[]⟩)]⟩⟩)],[],[],[],[]⟩ func52<|D (Oo fu)<|D (Jc fu)<|D (TQ fu)<|D (WC fu)<|D (Kq fu)<|cN
def Mo:yg ⟨100,[.d .i,.d zO],[.d zO],λx=>Kv fu x.1 x.2.1,0⟩:=sq fu wJ func100<|D (x8 fu)<|D (wh fu)<|cN
def zaI:yg ⟨53,[.d xc],[.own zO 30],λx=>Ji fu x.1,0⟩:=sq fu wJ func53<|D (xC fu)<|D (Mo fu)<|D (xG fu)<|cN
def zkX:yg ⟨51,[.d xc,.d xc],[.own zO 30],λx=>GL fu x.1 x.2.1,0⟩:=sq fu wJ func51<|D (cB fu)<|cN
def SY:yg ⟨24,[.d xc],[.own zO 30,.d .i],λx=>jo fu x.1,0⟩:=sq fu wJ func24<|D (E9 fu)<|D (WC fu)<|D (zkX fu)<|D (zhI fu)<|D (zaI fu)<|cN
def U9:yg ⟨7,[.d xc,.d yP],[.d zO,.own (.p xc .i) 42,.d .i],λx=>xE fu x.1 x.2.1,0⟩:=sq fu ⟨[],[(655371,⟨[4,11,32],[(.n,⟨[(0,.d xc),(33,.d .i),(35,.d .b)],[]⟩)]⟩)],[(9,q1 [(11,.own (.p xc .i) 42),(34,.d .i),(4,.var zO 30),(32,.own xc 22)] 0 [(11,.own (.p xc .i) 42),(4,.var zO 30)])],[],[],[],[]⟩ func7<|D (SY fu)<|D (zcM fu)<|D (zc0 fu)<|D (Kq fu)<|cN
def aQ:yg ⟨8,[.d xc],[.d .b,.d .i],λx=>wK fu x.1,0⟩:=sq fu wJ func8<|D (U9 fu)<|cN
def JB:yg ⟨139,[.own .ch 5],[.own .ch 5],λx=>uA fu x.1,1⟩:=sgb (fu:=fu) ⟨[],[],[(1,q1 [(2,.d .i),(3,.d .i),(0,.own .ch 5)] 0 [(0,.own .ch 5)])],[(3,[])],[],[],[]⟩ func139 (cN) Xs λa x=>by kernel_rfl
def zdA:yg ⟨79,[.d .u,.d .b],[.d .tx],λx=>im fu x.1 x.2.1,0⟩:=sq fu ⟨[],[],[(2,q1 [(0,.d .u),(5,.own .ch 5)] 0 [(5,.own .ch 5)])],[],[],[],[]⟩ func79<|D (JB fu)<|cN
def Wy:yg ⟨80,[.own .tx 9],[.own .tx 9],λx=>jI fu x.1,1⟩:=sgb (fu:=fu) ⟨[],[],[(1,q1 [(2,.d .i),(3,.d .i),(0,.own .tx 9)] 0 [(0,.own .tx 9)])],[(3,[])],[],[],[]⟩ func80 (cN) Xs λa x=>by kernel_rfl
def O9:yg ⟨81,[.d (.l .tx),.d .tx],[.d .tx],λx=>sr fu x.1 x.2.1,0⟩:=zn9 Xs Tryz.strings_Join_none Tryz.strings_Join
def zhO:yg ⟨38,[.d kv],[.d .tx],λx=>B7 fu x.1,0⟩:=sq fu ⟨[],[],[(3,q1 [(0,.d kv),(3,.own .tx 9)] 0 [(3,.own .tx 9)])],[],[],[],[]⟩ func38<|D (xq fu)<|D (vq fu)<|D (H7 fu)<|D (zdA fu)<|D (Wy fu)<|D (O9 fu)<|cN
def zfu:yg ⟨14,[.d zO],[.d .tx],λx=>Ix fu x.1,0⟩:=sq fu wJ func14<|D (j7 fu)<|D (zhO fu)<|cN
def Tq:yg ⟨4,[],[.d .b],λx=>eE fu,0⟩:=sq fu wJ func4<|D (U9 fu)<|D (aQ fu)<|D (DQ fu)<|D (Oy fu)<|D (zfu fu)<|D (Cy fu)<|cN
def zaz:yg ⟨5,[.d .i,.d .i,.d xc],[.d .b],λx=>Xc fu x.1 x.2.1 x.2.2.1,0⟩:=sq fu ⟨[],[],[(4,⟨⟨[(7,.d .i)],[]⟩,⟨[],[(.x 0,⟨[],[]⟩),(.r,⟨[],[(6,.kb yL)]⟩)]⟩⟩)],[],[],[],[]⟩ func5<|cN
def zeD:yg ⟨69,[.d zO],[.d zO],λx=>JY fu x.1,0⟩:=sq fu wJ func69<|D (qM fu)<|cN
def Cc:yg ⟨145,[.d kv,.d .i],[.d .u],λx=>ju fu x.1 x.2.1,0⟩:=sq fu wJ func145<|cN
def sW:yg ⟨149,[.d kv],[.d kv],λx=>Wj fu x.1,0⟩:=sq fu ⟨[],[],[(2,q1 [(3,.d .i)] 0 [(3,.d .i)])],[],[],[],[]⟩ func149<|cN
def Vg:yg ⟨88,[.d kv],[.d kv],λx=>xR fu x.1,0⟩:=sq fu ⟨[],[],[(3,q1 [(3,.own .u 72),(4,.d .i)] 0 [(3,.own .u 72)])],[],[],[],[]⟩ func88<|D (sW fu)<|cN
def Jd:yg ⟨89,[.d kv],[.own .u 72],λx=>qT fu x.1,0⟩:=sq fu ⟨[],[],[(3,q1 [(3,.own .u 72),(4,.d .i)] 0 [(3,.own .u 72)])],[],[],[],[]⟩ func89<|D (ll fu)<|cN
def Ia:yg ⟨84,[.d kv,.d kv],[.own .u 72],λx=>Jt fu x.1 x.2.1,0⟩:=sq fu ⟨[],[],[(6,q1 [(7,.own .u 72),(8,.d .u),(9,.d .i)] 0 [(7,.own .u 72)])],[],[],[],[]⟩ func84<|D (Vg fu)<|D (Cc fu)<|D (Jd fu)<|cN
def mb:yg ⟨146,[.d kv,.d kv],[.d .i],λx=>Zh fu x.1 x.2.1,0⟩:=sq fu ⟨[],[],[(2,⟨⟨[(5,.d .i)],[]⟩,⟨[],[(.x 0,⟨[],[]⟩),(.r,⟨[(4,.d .i)],[]⟩)]⟩⟩)],[],[],[],[]⟩ func146<|D (Cc fu)<|cN
def EG:yg ⟨147,[.d kv,.d kv],[.d kv],λx=>Va fu x.1 x.2.1,0⟩:=sq fu ⟨[],[],[(4,q1 [(5,.own .u 72),(6,.d .u),(7,.d .i)] 0 [(5,.own .u 72)])],[],[],[],[]⟩ func147<|D (Cc fu)<|D (sW fu)<|cN
def zfJ:yg ⟨130,[.d kv,.d kv],[.own .u 72,.own .u 72,.d .i],λx=>dj fu x.1 x.2.1,0⟩:=sq fu ⟨[],[(1245204,⟨[9],[(.n,⟨[(72,.d .b)],[]⟩)]⟩)],[(8,q1 [(10,.d kv),(11,.d .i),(9,.own .u 72)] 0 [(10,.d kv),(9,.own .u 72)]),(13,⟨⟨[(7,.d kv),(8,.d kv),(12,.own .u 72),(13,.d .u),(14,.d .i)],[]⟩,⟨[9],[(.x 2,⟨[(7,.d kv),(8,.d kv),(12,.own .u 72),(13,.d .u)],[]⟩)]⟩⟩)],[],[],[],[]⟩ func130<|D (mb fu)<|D (EG fu)<|D (sW fu)<|D (Vg fu)<|D (Jd fu)<|cN
def IF:yg ⟨85,[.d kv,.d kv],[.own .u 72,.d .i],λx=>X6 fu x.1 x.2.1,0⟩:=sq fu wJ func85<|D (Vg fu)<|D (Jd fu)<|D (mb fu)<|D (EG fu)<|cN
def oz:yg ⟨70,[.d zO,.d zO],[.d zO,.d zO,.d .i],λx=>Wv fu x.1 x.2.1,0⟩:=sq fu ⟨[],[(327688,⟨[4,5],[(.n,⟨[(7,.own .u 72),(8,.own .u 72)],[]⟩)]⟩)],[],[],[],[],[]⟩ func70<|D (zfJ fu)<|D (qM fu)<|D (Ia fu)<|D (IF fu)<|cN
def Iz:yg ⟨30,[.d zO,.d zO],[.d zO],λx=>JS fu x.1 x.2.1,0⟩:=sq fu ⟨[],[],[(3,⟨⟨[(5,.var zO 30),(6,.var zO 30)],[]⟩,⟨[4],[(.x 0,⟨[(5,.var zO 30)],[]⟩)]⟩⟩)],[],[],[],[]⟩ func30<|D (uK fu)<|D (zeD fu)<|D (oz fu)<|cN
def H3:yg ⟨31,[.d zO],[.d zO],λx=>J2 fu x.1,0⟩:=sq fu wJ func31<|D (qM fu)<|cN
def Kj:yg ⟨10,[.d xc],[.d zO],λx=>qB fu x.1,0⟩:=sq fu ⟨[],[],[(4,⟨⟨[(5,.d .i),(4,.var zO 30)],[]⟩,⟨[2,3],[(.x 0,⟨[(4,.var zO 30)],[]⟩)]⟩⟩)],[],[],[],[]⟩ func10<|D (kK fu)<|D (wa fu)<|D (Iz fu)<|D (H3 fu)<|cN
def TE:yg ⟨131,[.d zO,.d zO],[.d zO,.d .i],λx=>Jb fu x.1 x.2.1,0⟩:=sq fu wJ func131<|D (uK fu)<|D (oz fu)<|cN
def X5:yg ⟨40,[.d zO,.d zO],[.d zO],λx=>vj fu x.1 x.2.1,0⟩:=sq fu wJ func40<|D (qM fu)<|D (Ia fu)<|D (IF fu)<|cN
def zib:yg ⟨218,[.d xc,.d .i],[.d zO],λx=>U4 fu x.1 x.2.1,0⟩:=sq fu wJ func218<|cN
def b8:yg ⟨132,[.d xc,.d xc],[.own zO 30],λx=>Yi fu x.1 x.2.1,0⟩:=sq fu ⟨[],[],[(3,q1 [(5,.own zO 30),(6,.d .i)] 0 [(5,.own zO 30)])],[],[],[],[]⟩ func132<|D (X5 fu)<|D (zib fu)<|D (wa fu)<|cN
def H8:yg ⟨44,[.d kv,.d kv],[.own .u 72],λx=>Wm fu x.1 x.2.1,0⟩:=sq fu ⟨[],[],[(5,q1 [(8,.d .i),(7,.own .u 72)] 0 [(7,.own .u 72)]),(9,q1 [(5,.d kv),(6,.d kv),(9,.d .u),(10,.d .i),(7,.own .u 72)] 2 [(5,.d kv),(6,.d kv),(9,.d .u),(7,.own .u 72)])],[],[],[],[]⟩ func44<|D (Vg fu)<|D (Jd fu)<|cN
def Yy:yg ⟨19,[.d zO,.d zO],[.d zO],λx=>wk fu x.1 x.2.1,0⟩:=sq fu wJ func19<|D (qM fu)<|D (H8 fu)<|cN
def rA:yg ⟨134,[.d xc,.d xc],[.own zO 30],λx=>X3 fu x.1 x.2.1,0⟩:=sq fu ⟨[],[],[(3,q1 [(6,.d .i),(5,.own zO 30)] 0 [(5,.own zO 30)]),(6,q1 [(0,.d xc),(1,.d xc),(7,.d .i),(5,.own zO 30)] 2 [(0,.d xc),(1,.d xc),(5,.own zO 30)])],[],[],[],[]⟩ func134<|D (X5 fu)<|D (Yy fu)<|D (wa fu)<|cN
def eT:yg ⟨144,[.d xc,.d zO],[.own zO 30],λx=>v8 fu x.1 x.2.1,0⟩:=sq fu ⟨[],[],[(3,q1 [(5,.own zO 30),(6,.d .i)] 0 [(5,.own zO 30)])],[],[],[],[]⟩ func144<|D (Yy fu)<|D (wa fu)<|cN
def IC:yg ⟨133,[.d xc,.d xc],[.own zO 30],λx=>Jv fu x.1 x.2.1,0⟩:=sq fu wJ func133<|D (eT fu)<|D (b8 fu)<|D (kK fu)<|cN
def cz:yg ⟨71,[.d xc,.d xc],[.own zO 30,.d .i],λx=>q7 fu x.1 x.2.1,0⟩:=sq fu ⟨[],[],[(6,⟨⟨[(6,.d xc),(7,.own zO 30),(8,.own zO 30)],[]⟩,⟨[],[(.x 0,⟨[(8,.own zO 30)],[]⟩),(.r,⟨[],[(4,.nil),(5,.ci 4)]⟩)]⟩⟩)],[(8,[])],[],[],[]⟩ func71<|D (TE fu)<|D (b8 fu)<|D (IC fu)<|D (rA fu)<|D (wa fu)<|cN
def Uy:yg ⟨32,[.d xc],[.own zO 30],λx=>vY fu x.1,0⟩:=sq fu wJ func32<|D (Kj fu)<|D (wa fu)<|D (cz fu)<|cN
def zew:yg ⟨87,[.d zO,.d zO],[.d zO],λx=>cM fu x.1 x.2.1,0⟩:=sq fu wJ func87<|D (X5 fu)<|D (H3 fu)<|cN
def oH:yg ⟨42,[.d zO,.d zO],[.d .i],λx=>Yf fu x.1 x.2.1,0⟩:=sq fu wJ func42<|D (uK fu)<|D (zew fu)<|cN
def zcd:yg ⟨73,[.d xc,.d xc],[.d .b],λx=>KU fu x.1 x.2.1,0⟩:=sq fu ⟨[],[],[(6,⟨⟨[(7,.d .i)],[]⟩,⟨[5,6],[(.x 0,⟨[],[]⟩),(.r,⟨[(4,.d .b)],[]⟩)]⟩⟩)],[],[],[],[]⟩ func73<|D (oH fu)<|D (wa fu)<|cN
def zeq:yg ⟨34,[.d (.l (.p xc .i)),.d xc,.d .i],[.own (.p xc .i) 42],λx=>dh fu x.1 x.2.1 x.2.2.1,0⟩:=sq fu ⟨[],[(327686,⟨[],[(.n,⟨[(36,.d .b)],[]⟩)]⟩)],[(2,q1 [(7,.d .i)] 0 [(7,.d .i)])],[(8,[60])],[],[],[]⟩ func34<|D (zcd fu)<|D (Dn fu)<|cN
def zb8:yg ⟨135,[.d xc,.d zO],[.d zO],λx=>K7 fu x.1 x.2.1,0⟩:=sq fu ⟨[],[],[(3,⟨⟨[(6,.d .i),(5,.var zO 30)],[]⟩,⟨[4],[(.x 0,⟨[(5,.var zO 30)],[]⟩)]⟩⟩)],[],[],[],[]⟩ func135<|D (X5 fu)<|D (Yy fu)<|D (kK fu)<|cN
def Bp:yg ⟨151,[.d zO],[.d .i,.d .b],λx=>q8 fu x.1,0⟩:=sq fu wJ func151<|D (qM fu)<|cN
def Hy:yg ⟨136,[.d zO],[.own .i 3],λx=>YN fu x.1,0⟩:=sq fu ⟨[],[(720908,⟨[5],[(.n,⟨[(3,.d .i),(49,.d .b)],[]⟩)]⟩)],[(6,q1 [(5,.own .i 3),(6,.d .i)] 0 [(5,.own .i 3)])],[],[],[],[]⟩ func136<|D (Bp fu)<|cN
def IX:yg ⟨137,[.d yP,.d yP],[.own zO 30,.d .b],λx=>Xv fu x.1 x.2.1,0⟩:=sq fu ⟨[],[],[(3,⟨⟨[(7,.d .i),(6,.own .i 3)],[]⟩,⟨[],[(.x 0,⟨[(6,.own .i 3)],[]⟩),(.r,⟨[],[(4,.nil),(5,.kb yL)]⟩)]⟩⟩),(6,⟨⟨[(0,.d yP),(8,.d .i),(6,.own .i 3)],[]⟩,⟨[],[(.x 2,⟨[(0,.d yP),(6,.own .i 3)],[]⟩),(.r,⟨[],[(4,.nil),(5,.kb yL)]⟩)]⟩⟩),(14,⟨⟨[(10,.own zO 30),(11,.d .i)],[]⟩,⟨[6],[(.x 4,⟨[(10,.own zO 30)],[]⟩)]⟩⟩)],[],[],[],[]⟩ func137<|D (b8 fu)<|D (rA fu)<|D (Cy fu)<|cN
def zch:yg ⟨72,[.d xc,.d .i,.d .i],[.d xc,.d .b],λx=>Uj fu x.1 x.2.1 x.2.2.1,0⟩:=sq fu ⟨[],[(589835,⟨[8,9],[(.n,⟨[(0,.d xc),(1,.d .i),(2,.d .i),(12,.d .i)],[]⟩)]⟩)],[(5,⟨⟨[(8,.own .i 3),(9,.own yP 23),(10,.d .i),(11,.d .i)],[]⟩,⟨[],[(.x 0,⟨[(8,.own .i 3),(9,.own yP 23),(10,.d .i)],[]⟩),(.r,⟨[(6,.own zO 30),(7,.d .b)],[]⟩)]⟩⟩),(20,⟨⟨[(8,.d yP),(15,.d .i),(9,.own yP 23)],[]⟩,⟨[],[(.x 2,⟨[],[]⟩),(.r,⟨[(6,.d xc)],[(7,.kb I)]⟩)]⟩⟩),(24,⟨⟨[(0,.d xc),(10,.d .i),(16,.own .i 3),(17,.d .i),(18,.d .i)],[]⟩,⟨[9],[(.x 4,⟨[(0,.d xc),(10,.d .i),(16,.own .i 3)],[]⟩)]⟩⟩)],[],[],[],[]⟩ func72<|D (Uy fu)<|D (uK fu)<|D (zb8 fu)<|D (Hy fu)<|D (IX fu)<|D (cz fu)<|D (Cy fu)<|D (kK fu)<|cN
def SX:QY:=⟨33,[.d xc,.d .i],[.own xc 22,.d .b],λx=>uq fu x.1 x.2.1,0⟩
def pZ:∀fu:K,yg (SX fu)
 |0=>sg0 Xs λ_=>O
 |fu+1=>sq fu ⟨[],[],[(2,⟨⟨[(6,.d .i)],[]⟩,⟨[],[(.x 0,⟨[],[]⟩),(.r,⟨[(4,.own xc 22),(5,.d .b)],[]⟩)]⟩⟩)],[],[],[],[]⟩ func33<|D (zch fu)<|D (pZ fu)<|D (cz fu)<|cN
def Lj:yg ⟨11,[.d xc,.d .i],[.own (.p xc .i) 42,.d .b],λx=>Xx fu x.1 x.2.1,0⟩:=sq fu ⟨[],[],[(7,⟨⟨[(9,.own (.p xc .i) 42),(10,.d .i)],[]⟩,⟨[7],[(.x 0,⟨[(9,.own (.p xc .i) 42)],[]⟩)]⟩⟩)],[],[],[],[]⟩ func11<|D (Uy fu)<|D (pZ fu)<|D (zeq fu)<|cN
def Fv:yg ⟨21,[.d kv],[.d .i],λx=>WI fu x.1,0⟩:=sq fu ⟨[],[],[(6,⟨⟨[(4,.d .i),(5,.d .u)],[]⟩,⟨[3],[(.x 0,⟨[(4,.d .i)],[]⟩)]⟩⟩)],[],[],[],[]⟩ func21<|D (ll fu)<|cN
def BY:yg ⟨46,[.d .i],[.d .b],λx=>Qp fu x.1,0⟩:=sq fu ⟨[],[],[(4,⟨⟨[(3,.d .i)],[]⟩,⟨[],[(.x 0,⟨[],[]⟩),(.r,⟨[],[(2,.kb yL)]⟩)]⟩⟩)],[],[],[],[]⟩ func46<|cN
def zdu:yg ⟨22,[.d .i],[.d .i,.d .i],λx=>YX fu x.1,0⟩:=sq fu ⟨[],[],[(4,⟨⟨[(4,.d .i)],[]⟩,⟨[],[(.r,⟨[(2,.d .i)],[(3,.ci 0)]⟩)]⟩⟩)],[],[],[],[]⟩ func22<|D (BY fu)<|cN
def Tz:yg ⟨148,[.d .i],[.own .u 72],λx=>eK fu x.1,0⟩:=sq fu wJ func148<|cN
def zft:yg ⟨86,[.d kv,.d .i],[.own .u 72,.d .i],λx=>dC fu x.1 x.2.1,0⟩:=sq fu wJ func86<|D (Tz fu)<|D (H8 fu)<|cN
def zdn:yg ⟨41,[.d zO,.d .i],[.d zO,.d .i],λx=>Ub fu x.1 x.2.1,0⟩:=sq fu ⟨[],[],[(5,q1 [(7,.d .i),(4,.var zO 30),(6,.var zO 30)] 0 [(4,.var zO 30),(6,.var zO 30)]),(11,⟨⟨[(1,.d .i),(2,.q zO),(12,.d .i),(11,.var zO 30)],[]⟩,⟨[4,6,10],[(.x 2,⟨[(1,.d .i),(2,.q zO),(11,.var zO 30)],[]⟩)]⟩⟩)],[],[],[],[]⟩ func41<|D (uK fu)<|D (X5 fu)<|D (oH fu)<|D (Yy fu)<|D (kK fu)<|D (Fv fu)<|D (zft fu)<|cN
def Jm:yg ⟨16,[.d xc],[.d .i],λx=>kM fu x.1,0⟩:=sq fu wJ func16<|D (wa fu)<|cN
def zay:yg ⟨18,[.d xc],[.d zO,.d .i],λx=>Je fu x.1,0⟩:=sq fu ⟨[],[(786446,⟨[2,5,6],[(.n,⟨[(8,.var zO 30)],[]⟩)]⟩)],[(7,⟨⟨[(7,.d .i),(6,.var zO 30)],[]⟩,⟨[2,5],[(.x 0,⟨[(6,.var zO 30)],[]⟩)]⟩⟩),(14,⟨⟨[(10,.d .i),(8,.var zO 30)],[]⟩,⟨[2,5,6],[(.x 2,⟨[(8,.var zO 30)],[]⟩)]⟩⟩)],[],[],[],[]⟩ func18<|D (X5 fu)<|D (zdn fu)<|D (oH fu)<|D (Jm fu)<|D (Yy fu)<|D (kK fu)<|D (wa fu)<|cN
def zan:yg ⟨83,[.d xc],[.own zO 30],λx=>Q7 fu x.1,0⟩:=sq fu ⟨[],[],[(3,q1 [(3,.own zO 30),(4,.d .i)] 0 [(3,.own zO 30)])],[],[],[],[]⟩ func83<|D (Yy fu)<|D (kK fu)<|D (wa fu)<|cN
def S8:yg ⟨143,[.d xc,.d xc],[.own zO 30,.own zO 30,.d .i],λx=>Yp fu x.1 x.2.1,0⟩:=sq fu ⟨[],[],[(8,⟨⟨[(7,.d xc),(8,.own zO 30),(9,.own zO 30),(11,.d .i)],[]⟩,⟨[10],[(.x 0,⟨[(8,.own zO 30),(9,.own zO 30),(11,.d .i)],[]⟩)]⟩⟩),(14,⟨⟨[(8,.own zO 30),(9,.own zO 30),(11,.d .i)],[]⟩,⟨[10],[(.x 2,⟨[(8,.own zO 30),(9,.own zO 30)],[]⟩)]⟩⟩)],[],[],[],[]⟩ func143<|D (b8 fu)<|D (IC fu)<|D (rA fu)<|D (eT fu)<|D (wa fu)<|cN
def zfM:yg ⟨82,[.d xc,.d xc],[.own zO 30],λx=>J1 fu x.1 x.2.1,0⟩:=sq fu ⟨[],[],[(4,⟨⟨[(6,.d xc),(7,.own zO 30)],[]⟩,⟨[5],[(.x 0,⟨[(6,.d xc)],[]⟩)]⟩⟩)],[],[],[],[]⟩ func82<|D (Uy fu)<|D (Kj fu)<|D (S8 fu)<|D (eT fu)<|D (Iz fu)<|cN
def L6:yg ⟨39,[.d xc],[.own zO 30],λx=>XD fu x.1,0⟩:=sq fu wJ func39<|D (Uy fu)<|D (zfM fu)<|D (zan fu)<|D (cz fu)<|cN
def Lz:yg ⟨17,[.d xc],[.own zO 30,.d .i],λx=>Xy fu x.1,0⟩:=sq fu wJ func17<|D (Jm fu)<|D (L6 fu)<|cN
def Zs:yg ⟨152,[.d .i],[.d .i],λx=>w7 fu x.1,0⟩:=sq fu wJ func152<|D (BY fu)<|cN
def Ig:yg ⟨221,[.d .i,.d .i],[.d .i],λx=>JV fu x.1 x.2.1,0⟩:=sq fu wJ func221<|cN
def ks:yg ⟨153,[.d yP,.d .i],[.own .i 3],λx=>yI fu x.1 x.2.1,0⟩:=sq fu ⟨[],[],[(3,q1 [(5,.own .i 3),(6,.d .i)] 0 [(5,.own .i 3)]),(7,⟨⟨[(7,.d .i)],[]⟩,⟨[5],[(.x 2,⟨[(7,.d .i)],[]⟩)]⟩⟩)],[],[],[],[]⟩ func153<|D (Ig fu)<|cN
def ey:yg ⟨154,[.d yP,.d yP,.d .i],[.own .i 3],λx=>xH fu x.1 x.2.1 x.2.2.1,0⟩:=sq fu ⟨[],[],[(5,q1 [(10,.d .i),(7,.own .i 3),(8,.own .i 3),(9,.own .i 3)] 0 [(9,.own .i 3)]),(8,⟨⟨[(2,.d .i),(11,.d .i),(9,.own .i 3)],[]⟩,⟨[7,8],[(.x 2,⟨[(2,.d .i),(9,.own .i 3)],[]⟩)]⟩⟩)],[],[],[],[]⟩ func154<|D (ks fu)<|cN
def zez:yg ⟨222,[.d .i,.d .i,.d .i],[.d .i,.d .i],λx=>dE fu x.1 x.2.1 x.2.2.1,0⟩:=sq fu ⟨[],[],[(6,q1 [(8,.d .i),(9,.d .i),(10,.d .i)] 0 [(8,.d .i)])],[],[],[],[]⟩ func222<|D (Zs fu)<|D (Ig fu)<|cN
def Kp:yg ⟨155,[.d .i,.d .i],[.d .i],λx=>qA fu x.1 x.2.1,0⟩:=sq fu wJ func155<|D (zez fu)<|cN
def AU:yg ⟨92,[.d yP,.d .i],[.own .i 3,.d .i],λx=>w8 fu x.1 x.2.1,0⟩:=sq fu wJ func92<|D (Zs fu)<|D (ks fu)<|D (ey fu)<|D (Kp fu)<|cN
def zdg:yg ⟨93,[.d yP,.d yP],[.d .b],λx=>YA fu x.1 x.2.1,0⟩:=sq fu ⟨[],[],[(4,⟨⟨[(5,.d .i)],[]⟩,⟨[],[(.x 0,⟨[],[]⟩),(.r,⟨[],[(4,.kb yL)]⟩)]⟩⟩)],[],[],[],[]⟩ func93<|cN
def zae:yg ⟨156,[.d yP,.d .i],[.own .i 3,.d .i],λx=>Jg fu x.1 x.2.1,0⟩:=sq fu ⟨[],[],[(6,⟨⟨[(7,.own .i 3),(8,.d .i)],[]⟩,⟨[6],[(.x 0,⟨[(7,.own .i 3)],[]⟩)]⟩⟩)],[],[],[],[]⟩ func156<|D (Zs fu)<|D (ks fu)<|cN
def zhg:yg ⟨307,[.d yP,.d .i],[.d .i],λx=>bf fu x.1 x.2.1,0⟩:=sq fu wJ func307<|cN
def IA:yg ⟨275,[.d yP,.d yP,.d .i,.d .i],[.own .i 3],λx=>Wh fu x.1 x.2.1 x.2.2.1 x.2.2.2.1,0⟩:=sq fu ⟨[],[],[(5,q1 [(9,.d yP),(10,.d yP),(11,.own .i 3),(12,.d .i)] 0 [(11,.own .i 3)])],[],[],[],[]⟩ func275<|D (ks fu)<|D (zhg fu)<|cN
def Iw:yg ⟨224,[.d yP,.d yP,.d .i],[.own .i 3,.own .i 3,.d .i],λx=>Yg fu x.1 x.2.1 x.2.2.1,0⟩:=sq fu ⟨[],[],[(9,q1 [(10,.own .i 3),(9,.own .i 3),(11,.own .i 3)] 0 [(10,.own .i 3),(11,.own .i 3)]),(15,⟨⟨[(2,.d .i),(12,.d .i),(15,.own .i 3),(16,.d .i)],[]⟩,⟨[9,10,11],[(.x 2,⟨[(2,.d .i),(12,.d .i),(15,.own .i 3)],[]⟩)]⟩⟩),(19,⟨⟨[(15,.own .i 3),(17,.d .i)],[]⟩,⟨[9,10,11],[(.x 4,⟨[(15,.own .i 3)],[]⟩)]⟩⟩)],[],[],[],[]⟩ func224<|D (Zs fu)<|D (ks fu)<|D (Kp fu)<|D (IA fu)<|cN
def Pk:yg ⟨223,[.d yP,.d yP,.d .i],[.d yP,.d yP,.own .i 3,.d .i],λx=>Vq fu x.1 x.2.1 x.2.2.1,0⟩:=sq fu ⟨[],[],[(5,q1 [(10,.own yP 23),(11,.own yP 23)] 0 [(10,.own yP 23)]),(9,⟨⟨[(2,.d .i),(15,.own yP 23),(16,.d .i)],[]⟩,⟨[10,11],[(.x 2,⟨[(2,.d .i),(15,.own yP 23)],[]⟩)]⟩⟩)],[],[],[],[]⟩ func223<|D (Iw fu)<|D (IA fu)<|D (Zs fu)<|D (ks fu)<|D (ey fu)<|D (Kp fu)<|cN
def Iq:yg ⟨158,[.d yP,.d yP,.d .i],[.d yP,.d .i],λx=>X9 fu x.1 x.2.1 x.2.2.1,0⟩:=sq fu wJ func158<|D (Pk fu)<|cN
def R0:yg ⟨159,[.d yP,.d yP,.d .i],[.own .i 3],λx=>aI fu x.1 x.2.1 x.2.2.1,0⟩:=sq fu wJ func159<|D (Iw fu)<|cN
def zdY:yg ⟨157,[.d yP,.d .i],[.own .i 3],λx=>Uz fu x.1 x.2.1,0⟩:=sq fu ⟨[],[],[(3,q1 [(5,.own .i 3),(6,.d .i)] 0 [(5,.own .i 3)])],[],[],[],[]⟩ func157<|cN
def Lv:yg ⟨160,[.d yP,.d yP,.d .i],[.d yP],λx=>XE fu x.1 x.2.1 x.2.2.1,0⟩:=sq fu ⟨[],[],[(2,q1 [(0,.d yP),(7,.d yP)] 0 [(0,.d yP)])],[],[],[],[]⟩ func160<|D (Iq fu)<|D (R0 fu)<|cN
def IG:QY:=⟨94,[.d yP,.d .i],[.own .i 3],λx=>vk fu x.1 x.2.1,0⟩
def mh:∀fu:K,yg (IG fu)
 |0=>sg0 Xs λ_=>O
 |fu+1=>sq fu wJ func94<|D (Lv fu)<|D (AU fu)<|D (mh fu)<|D (ey fu)<|D (zae fu)<|D (zdY fu)<|D (Iq fu)<|D (R0 fu)<|cN
def TH:yg ⟨91,[.d yP,.d .i],[.d .i],λx=>dP fu x.1 x.2.1,0⟩:=sq fu wJ func91<|D (Zs fu)<|D (ks fu)<|cN
def zid:yg ⟨48,[.d yP,.d .i],[.d .b,.d .i],λx=>lU fu x.1 x.2.1,0⟩:=sq fu wJ func48<|D (TH fu)<|D (AU fu)<|D (zdg fu)<|D (mh fu)<|cN
def zcA:yg ⟨150,[.d zO,.d zO],[.d zO,.d .i],λx=>UG fu x.1 x.2.1,0⟩:=sq fu wJ func150<|D (uK fu)<|D (oz fu)<|cN
def zgm:yg ⟨90,[.d zO,.d .i],[.d .i,.d .i],λx=>cd fu x.1 x.2.1,0⟩:=sq fu ⟨[],[],[],[(1,[])],[],[],[]⟩ func90<|D (kK fu)<|D (zcA fu)<|D (Bp fu)<|cN
def zfB:yg ⟨47,[.d xc,.d .i],[.own .i 3,.d .i],λx=>dJ fu x.1 x.2.1,0⟩:=sq fu ⟨[],[],[(5,q1 [(6,.own .i 3),(7,.d .i)] 0 [(6,.own .i 3)]),(10,⟨⟨[(10,.d .i)],[]⟩,⟨[6],[(.x 2,⟨[(10,.d .i)],[]⟩)]⟩⟩)],[],[],[],[]⟩ func47<|D (zgm fu)<|cN
def zd6:yg ⟨23,[.d xc,.d .i],[.d .b,.d .i],λx=>KZ fu x.1 x.2.1,0⟩:=sq fu wJ func23<|D (BY fu)<|D (zfB fu)<|D (Jm fu)<|D (zid fu)<|D (wa fu)<|cN
def zat:yg ⟨6,[.d xc],[.d .i],λx=>kJ fu x.1,0⟩:=sq fu ⟨[],[(524298,⟨[6,8],[(.n,⟨[],[]⟩),(.r,⟨[],[(2,.ci 6)]⟩)]⟩)],[(10,⟨⟨[(9,.d .i),(10,.d .i)],[]⟩,⟨[6,8],[(.x 0,⟨[],[]⟩),(.r,⟨[],[(2,.ci 0)]⟩)]⟩⟩)],[(6,[])],[],[],[]⟩ func6<|D (Jm fu)<|D (Lz fu)<|D (zay fu)<|D (Yy fu)<|D (kK fu)<|D (Fv fu)<|D (zdu fu)<|D (zd6 fu)<|cN
def IZ:yg ⟨3,[.d xc,.d yP],[.d .b],λx=>XI fu x.1 x.2.1,0⟩:=sq fu wJ func3<|D (Tq fu)<|D (zaz fu)<|D (zat fu)<|D (U9 fu)<|D (aQ fu)<|D (DA fu)<|D (Kj fu)<|D (Lj fu)<|D (DQ fu)<|cN
end
end
section
variable{x k:zV}{r a b l:zC zV}
def nv:N K->K
 |[]=>0
 |x::r=>x+18446744073709551616*nv r
def v7:K->K->N K
 |0,_=>[]
 |k+1,n=>n%18446744073709551616::v7 k (n/18446744073709551616)
def Db:K->K->N K
 |0,_=>[]
 |f+1,n=>if n=0 then[]else n%18446744073709551616::Db f (n/18446744073709551616)
def yN(n:K):N K:=Db n n
def za8:N K->N K
 |[]=>[]
 |x::r=>match za8 r with
  |[]=>if x=0 then[]else[x]
  |y::s=>x::y::s
def zn.nil:zn []:=λx c=>wl c QT
def zn.cons(h:x<18446744073709551616)(c:zn r):zn (x::r):=λy hy=>by
 obtain rfl|hy:=PQ.1 hy
 ·exact h
 ·exact c y hy
def zn.head(h:zn (x::r)):x<18446744073709551616:=h x<|Qh
def zn.tail(h:zn (x::r)):zn r:=λy c=>h y<|kE _ c
def zn.append(c:zn a)(d:zn b):zn (a++b):=λx e=>by
 obtain h|h:=pN.1 e
 ·exact c x h
 ·exact d x h
theorem zn.take{a:N K}(h:zn a)(k:K):zn (a.take k):=λx c=>h x<|xec c
theorem zn.drop{a:N K}(h:zn a)(k:K):zn (a.drop k):=λx c=>h x<|xfw c
theorem zn.getD{a:N K}(h:zn a)(k:K):a.getD k 0<18446744073709551616:=by
 rw[Yh];by_cases c:k<X a
 ·rw[xaa c];exact h _<|xbx c
 ·simp_all
def zn.replicate(k:K):zn (sR k 0):=λx c=>by rw[List.eq_of_mem_replicate c];exact Nat.zero_lt_succ _
def Ri:nv []=0:=O
def u7(x:K)(r:N K):nv (x::r)=x+18446744073709551616*nv r:=O
theorem Zt:∀(a b:N K),nv (a++b)=nv a+18446744073709551616^X a*nv b
 |[],b=>by simp[nv]
 |x::a,b=>by
  rw[xbJ,u7,Zt a b,u7];grind
def WZ:∀k,nv (sR k 0)=0
 |0=>rfl
 |k+1=>by rw[xdM,u7,WZ k]
theorem q9:∀{l:N K},zn l->nv l<18446744073709551616^X l
 |[],_=>by simp[nv]
 |x::r,h=>by
  have h1:=h.head;have c:=q9 h.tail;rw[u7,xar];lia
theorem Fh(l:N K)(x:K):nv (l++[x])=nv l+18446744073709551616^X l*x:=by
 rw[Zt,u7,Ri];simp
def yj:∀k n,X (v7 k n)=k
 |0,_=>rfl
 |k+1,n=>by rw[v7,xar,yj]
def wI:∀k n,zn (v7 k n)
 |0,_=>zn.nil
 |k+1,n=>zn.cons (xaI _ YL)<|wI k _
def u6:∀k n,nv (v7 k n)=n%18446744073709551616^k
 |0,n=>by simp[v7,nv,Nat.mod_one]
 |k+1,n=>by rw[v7,u7,u6 k,xbi,xaH<|18446744073709551616^k,Nat.mod_mul]
def th:∀{l:N K},zn l->v7 (X l) (nv l)=l
 |[],_=>rfl
 |x::r,h=>by
  have h1:=h.head;rw[xar,v7,u7,xbY,xag h1,xcu _ _ YL,xbc h1,xaF,th h.tail]
def GH(c:zn a)(d:zn b)(hl:X a=X b)(h:nv a=nv b):a=b:=by
 rw[<-th c,<-th d,hl,h]
def zbw:∀k,v7 k 0=sR k 0
 |0=>rfl
 |k+1=>by rw[v7,zbw k,xdM]
def gk:∀k n,v7 (k+1) n=v7 k n++[n/18446744073709551616^k%18446744073709551616]
 |0,n=>by simp[v7]
 |k+1,n=>by rw[v7,gk k,v7,xbJ,xaB,<-xdH]
def OA:∀f n,zn (Db f n)
 |0,_=>zn.nil
 |f+1,n=>by
  rw[Db];split
  ·exact zn.nil
  ·exact zn.cons (xaI _ YL)<|OA f _
theorem zz(n:K):zn (yN n):=OA n n
def ziW:∀f n,n<=f->nv (Db f n)=n
 |0,n,h=>by rw[Db,Ri];lia
 |f+1,n,h=>by
  rw[Db];split
  ·rename_i h0;rw[Ri,h0]
  ·rename_i h0;have c:n/18446744073709551616<=f:=W
   rw[u7,ziW f _ c,xef]
theorem ym(n:K):nv (yN n)=n:=ziW n n<|eZ _
def zjz:∀f f' n,n<=f->n<=f'->Db f n=Db f' n
 |0,f',n,h,c=>by
  have:n=0:=W
  subst this;cases f'<;>simp[Db]
 |f+1,0,n,h,c=>by
  have:n=0:=W
  subst this;rfl
 |f+1,f'+1,n,h,c=>by
  rw[Db,Db];split
  ·rfl
  ·rename_i h0;rw[zjz f f' _ W W]
theorem gn:yN 0=[]:=O
theorem FJ{n:K}(h:0<n):yN n=n%18446744073709551616::yN (n/18446744073709551616):=by
 have e:yN n=Db ((n-1)+1) n:=by unfold yN;congr 1;lia
 rw[e,Db,zA];congr 1;exact zjz _ _ _ W W
theorem zaP{n:K}(h0:0<n)(h:n<18446744073709551616):yN n=[n]:=by grind [FJ,gn]
theorem zcT{n:K}:yN n=[]↔n=0:=by
 constructor
 ·intro h;rw[<-ym n,h];rfl
 ·rintro rfl;rfl
theorem qi{n:K}(h:0<n):0<X (yN n):=by rw[FJ h,xar];lia
def zN:∀(k n:K),X (yN n)<=k↔n<18446744073709551616^k
 |0,n=>by rw[Nat.le_zero,xbs,zcT];simp;
 |k+1,n=>by
  by_cases h:n=0
  ·subst h;simp[gn];exact xaP YL
  ·rw[FJ W,xar,Nat.add_le_add_iff_right,zN k,xaM YL,xbi]
def zmd{n:K}(h:0<n):(yN n).getD (X (yN n)-1) 0≠0:=by
 intro h0;have hp:=qi h;have e:=th<|zz n;rw[ym]at e;have⟨k,c⟩:∃k,X (yN n)=k+1:=⟨X (yN n)-1,W⟩;have h1:=(zN k n).2;rw[c,gk]at e;rw[<-e]at h0;simp at h0;have d:=(zN (k+1) n).1 W;have f:n/18446744073709551616^k<18446744073709551616:=by rw[xaM<|xaP YL];rwa[xbi,xaH]at d
 rw[xag f]at h0;have g:n<18446744073709551616^k:=by
  obtain h|h:=Nat.div_eq_zero_iff.1 h0
  ·lia
  ·exact h
 lia
def AZ:∀(l:N K) (k:K),k+1=X l->l.getD k 0≠0->za8 l=l
 |[],_,h,_=>by simp at h
 |[x],0,_,h=>by simp at h;simp[za8,h]
 |[x],k+1,h,_=>by simp at h
 |x::y::r,0,h,_=>by simp at h
 |x::y::r,k+1,h,h0=>by
  have:=AZ (y::r) k (by simpa using h) (by simpa using h0);simp only[za8]at this⊢;rw[this]
theorem zgj:∀{l:N K},zn l->za8 l=yN (nv l)
 |[],_=>rfl
 |x::r,h=>by
  have c:=zgj h.tail;have d:=h.head;rw[za8,c,u7];by_cases e:nv r=0
  ·rw[e,gn];by_cases h0:x=0
   ·simp[h0,gn]
   ·simp only[h0,wP,xcG,xbM];rw[zaP W d]
  ·have e1:=FJ (n:=nv r) W;have f:=FJ (n:=x+18446744073709551616*nv r) W;grind
theorem zfb(hl:zn l)(h:l=[]\/l.getD (X l-1) 0≠0):yN (nv l)=l:=by
 rw[<-zgj hl];obtain rfl|h:=h
 ·rfl
 ·cases hn:X l with
  |zero=>rw[xbk hn];rfl
  |succ k=>exact AZ l k hn.symm<|by rw[hn]at h;exact h
def NI(hl:zn l)(k:K):nv (l.take k)=nv l%18446744073709551616^k:=by
 by_cases c:k<=X l
 ·have e:=Zt (l.take k)<|l.drop k;rw[xbw,xap,xcg c]at e;have:=q9<|hl.take k;rw[xap,xcg c]at this;rw[e,xbY,xag this]
 ·rw[xaQ W,xag];exact xah (q9 hl)<|xam YL W
def zea(hl:zn l)(k:K):nv (l.drop k)=nv l/18446744073709551616^k:=by
 by_cases c:k<=X l
 ·have e:=Zt (l.take k)<|l.drop k;rw[xbw,xap,xcg c]at e;have:=q9<|hl.take k;rw[xap,xcg c]at this;rw[e,xcu _ _ (xaP YL),xbc this,xaF]
 ·rw[xbS W,Ri,xbc];exact xah (q9 hl)<|xam YL W
def b7:∀{l:N K},zn l->∀k,l.getD k 0=nv l/18446744073709551616^k%18446744073709551616
 |[],_,k=>by simp[nv]
 |x::r,h,0=>by rw[List.getD_cons_zero,u7,xdz,xbY,xag h.head]
 |x::r,h,k+1=>by rw[xdk,b7 h.tail k,u7,xdH,<-xaB,xcu _ _ YL,xbc h.head,xaF]
theorem zqi{α:Type}{l:N α}{n:K}{z x:α}(hl:X l=k)(c:k<n):(l++sR (n-k) z).set k x=(l++[x])++sR (n-(k+1)) z:=by
 have⟨m,d⟩:∃m,n-k=m+1:=⟨n-k-1,W⟩;rw[xfm _ _ W,hl];grind
def qq(step:K->K->K×K):K->N K×K
 |0=>([],0)
 |k+1=>((qq step k).1++[(step k (qq step k).2).1],(step k (qq step k).2).2)
theorem wX(step:K->K->K×K):∀k,(qq step k).1.length=k
 |0=>rfl
 |k+1=>by rw[qq,xak,wX step k];rfl
def Mh(a b:N K)(k c:K):K×K:=((a.getD k 0+b.getD k 0+c)%18446744073709551616,(a.getD k 0+b.getD k 0+c)/18446744073709551616)
theorem ziA{c:K}(d:zn a)(e:zn b)(hc:c<=1):(Mh a b k c).2<=1:=by grind [Mh,zn.getD]
theorem kj(l:N K):∀k,nv (l.take<|k+1)=nv (l.take k)+18446744073709551616^k*l.getD k 0:=by
 induction l with
 |nil=>intro k;simp[nv]
 |cons x r c=>
  intro k
  cases k with
  |zero=>simp[nv]
  |succ k=>
   rw[xek,u7,c k,xek,u7,xdk,xbi,xbV];rw[xaH (18446744073709551616^k) 18446744073709551616,xbe,xcL]
theorem N4(a b:N K):∀k,nv (qq (Mh a b) k).1+18446744073709551616^k*(qq (Mh a b) k).2=nv (a.take k)+nv (b.take k)/\zn (qq (Mh a b) k).1
 |0=>⟨by simp[qq,nv],zn.nil⟩
 |k+1=>by
  have⟨f,d⟩:=N4 a b k;rw[qq,kj,kj,Fh,wX];refine⟨?_,d.append<|zn.cons (xaI _ YL) zn.nil⟩;generalize hc:(qq (Mh a b) k).2=c at*
  simp only[Mh];have e:=xef (a.getD k 0+b.getD k 0+c) 18446744073709551616;grind
theorem zny{n:K}(c:X a<=n)(d:X b<=n):nv ((qq (Mh a b) n).1++[(qq (Mh a b) n).2])=nv a+nv b:=by grind [Fh,wX,N4,xaQ]
end
section
variable{x y k m j i:zV}{l a b o o0 r:zC zV}
def P4(h:X (yN x)<X (yN y)):x<y:=by
 have h1:=(zN (X (yN x)) x).1<|eZ _;have d:¬y<18446744073709551616^X (yN x):=λc=>by have:=(zN _ y).2 c;lia
 lia
theorem aj(x B k:K)(c:0<B):x/B^k=B*(x/B^(k+1))+x/B^k%B:=by grind [xbj,xaB]
def zpZ(h:x/18446744073709551616^(k+1)=y/18446744073709551616^(k+1))(hd:x/18446744073709551616^k%18446744073709551616<y/18446744073709551616^k%18446744073709551616):x<y:=by
 have h1:=aj x 18446744073709551616 k YL;have e:=aj y 18446744073709551616 k YL;refine xcT λd=> ?_;have f:=Nat.div_le_div_right (c:=18446744073709551616^k) d;lia
theorem ztv(h:x/18446744073709551616^(k+1)=y/18446744073709551616^(k+1))(hd:x/18446744073709551616^k%18446744073709551616=y/18446744073709551616^k%18446744073709551616):
 x/18446744073709551616^k=y/18446744073709551616^k:=by grind [aj]
theorem Xi(n k:K):(yN n).getD k 0=n/18446744073709551616^k%18446744073709551616:=by rw[b7<|zz n,ym]
def zmy(h:X (yN x)=X (yN y)):x/18446744073709551616^X (yN x)=y/18446744073709551616^X (yN x):=by
 rw[xbc<|(zN _ x).1<|eZ _,xbc<|(zN _ y).1 W]
theorem xk(h:zn l):X (yN<|nv l)<=X l:=(zN _ _).2<|q9 h
theorem zop(c:0<m)(h:x/18446744073709551616^m=y/18446744073709551616^m)(hd:(yN x).getD (m-1) 0=(yN y).getD (m-1) 0):x/18446744073709551616^(m-1)=y/18446744073709551616^(m-1):=by grind [ztv,Xi]
def zq7(h:X (yN x)≠X (yN y)):ke (X (yN x):K) (X (yN y):K)=ke x y:=by
 obtain h|h:=Nat.lt_or_gt_of_ne h
 ·have:=P4 h;rw[qN W,qN W]
 ·have:=P4 h;rw[qu W,qu W]
def zk8(d:0<m)(h:x/18446744073709551616^m=y/18446744073709551616^m)(hd:(yN x).getD (m-1) 0≠(yN y).getD (m-1) 0):
 ke ((yN x).getD (m-1) 0:K) ((yN y).getD (m-1) 0:K)=ke x y:=by
 rw[(W:m=m-1+1)]at h;obtain hd|hd:=Nat.lt_or_gt_of_ne hd
 ·have c:=hd;rw[Xi,Xi]at c;have:=zpZ h c;rw[qN W,qN W]
 ·have c:=hd;rw[Xi,Xi]at c;have:=zpZ h.symm c;rw[qu W,qu W]
def nD(a b:N K)(k c:K):K×K:=((a.getD k 0+18446744073709551616-b.getD k 0-c)%18446744073709551616,if a.getD k 0<b.getD k 0+c then 1 else 0)
def Ox(a b:N K)(k c:K):(nD a b k c).2<=1:=by
 simp only[nD];split<;>lia
theorem zfc{a b:N K}(d:zn a)(f:zn b):∀k,nv (qq (nD a b) k).1+nv (b.take k)=nv (a.take k)+18446744073709551616^k*(qq (nD a b) k).2/\zn (qq (nD a b) k).1/\(qq (nD a b) k).2<=1
 |0=>⟨by simp[qq,nv],zn.nil,sB _⟩
 |k+1=>by
  have⟨h,g,n⟩:=zfc d f k;rw[qq,kj,kj,Fh,wX];refine⟨?_,g.append<|zn.cons (xaI _ YL) zn.nil,Ox a b k _⟩;generalize hc:(qq (nD a b) k).2=c at*
  simp only[nD];have h1:=d.getD k;have p:=f.getD k;generalize a.getD k 0=x at*
  generalize b.getD k 0=y at*
  have e:(x+18446744073709551616-y-c)%18446744073709551616+y+c=x+18446744073709551616*(if x<y+c then 1 else 0):=by grind
  grind
def PN{n:K}(c:zn a)(d:zn b)(hc:X a<=n)(hd:X b<=n):
 nv (qq (nD a b) n).1+nv b=nv a+18446744073709551616^n*(qq (nD a b) n).2/\zn (qq (nD a b) n).1/\(qq (nD a b) n).2<=1:=by
 have:=zfc c d n;rwa[xaQ hc,xaQ hd]at this
theorem za3{n:K}(c:zn a)(d:zn b)(hc:X a<=n)(hd:X b<=n):0<(qq (nD a b) n).2↔nv a<nv b:=by
 have⟨h1,e,g⟩:=PN c d hc hd;have f:=q9 e;rw[wX]at f;constructor
 ·grind
 ·grind
theorem zkL{n:K}(c:zn a)(d:zn b)(hc:X a<=n)(hd:X b<=n)(h:¬nv a<nv b):nv (qq (nD a b) n).1=nv a-nv b:=by
 have⟨h1,e,f⟩:=PN c d hc hd;have:¬0<(qq (nD a b) n).2:=λhp=>h<|(za3 c d hc hd).1 hp;grind
def rK(a:N K)(x:K)(k c:K):K×K:=((a.getD k 0*x+c)%18446744073709551616,(a.getD k 0*x+c)/18446744073709551616)
def EZ{a c:K}(d:a<18446744073709551616)(e:x<18446744073709551616)(hc:c<18446744073709551616):(a*x+c)/18446744073709551616<18446744073709551616:=by
 have:a*x<=18446744073709551615*18446744073709551615:=xbp W W;lia
def zik{c:K}(d:zn a)(e:x<18446744073709551616)(hc:c<18446744073709551616):(rK a x k c).2<18446744073709551616:=EZ (d.getD k) e hc
theorem zgA(a:N K)(x:K):∀k,nv (qq (rK a x) k).1+18446744073709551616^k*(qq (rK a x) k).2=nv (a.take k)*x/\zn (qq (rK a x) k).1
 |0=>⟨by simp[qq,nv],zn.nil⟩
 |k+1=>by
  have⟨f,d⟩:=zgA a x k;rw[qq,kj,Fh,wX];refine⟨?_,d.append<|zn.cons (xaI _ YL) zn.nil⟩;generalize hc:(qq (rK a x) k).2=c at*
  simp only[rK];have e:=xef (a.getD k 0*x+c) 18446744073709551616;grind
def zgM(hc:(qq (rK a x) (X a)).2<18446744073709551616):(qq (rK a x) (X a)).1++[(qq (rK a x) (X a)).2]=v7 (X a+1) (nv a*x):=by
 have⟨h1,c⟩:=zgA a x (X a);have hl:=c.append<|zn.cons hc zn.nil;have hn:nv ((qq (rK a x) (X a)).1++[(qq (rK a x) (X a)).2])=nv a*x:=by rw[Fh,wX,h1,xaQ<|eZ _]
 have:=th hl;rw[xak,wX]at this;simp_all
def SJ(c:zn a)(d:x<18446744073709551616):nv a*x<18446744073709551616^(X a+1):=by
 have:=q9 c
 calc nv a*x<=nv a*18446744073709551616:=xas _ W
  _<_:=xbP this YL
theorem zhs:∀(o:N K) (j v:K),j<X o->nv (o.set j v)+18446744073709551616^j*o.getD j 0=nv o+18446744073709551616^j*v
 |[],j,v,h=>by simp at h
 |x::r,0,v,h=>by simp[nv];lia
 |x::r,j+1,v,h=>by
  have c:=zhs r j v (by simpa using h);rw[xeR,u7,u7,xdk,xbi,xaH<|18446744073709551616^j,xbe,xbe];lia
def zn.set{o:N K}(h:zn o)(j:K){v:K}(hv:v<18446744073709551616):zn (o.set j v):=λx c=>by
 obtain h1|h1:=xeb c
 ·exact h x h1
 ·lia
theorem zni{c:K}(d:j+i<X o)(h:nv o+18446744073709551616^(j+i)*c=nv o0+18446744073709551616^j*nv (r.take i)):
 nv (o.set (j+i)<|(o.getD (j+i) 0+r.getD i 0+c)%18446744073709551616)+18446744073709551616^(j+(i+1))*((o.getD (j+i) 0+r.getD i 0+c)/18446744073709551616)=nv o0+18446744073709551616^j*nv (r.take<|i+1):=by grind [zhs,kj,xbV,xbe,xbq,xef]
def Ur(c:zn a)(d:zn b):nv a*nv (b.take k)<18446744073709551616^(X a+k):=by
 have h1:=q9 c;have e:=q9<|d.take k;have f:18446744073709551616^X (b.take k)<=18446744073709551616^k:=xam YL (by rw[xap];lia);rw[xbq];exact xdA h1 W
def zqn{c:K}(h:nv o+18446744073709551616^(j+X r)*c=nv o0+18446744073709551616^j*nv r)(hn:nv o0+18446744073709551616^j*nv r<18446744073709551616^(j+X r)):
 c=0/\nv o=nv o0+18446744073709551616^j*nv r:=by
 have hc:c=0:=by
  refine xfa λhp=> ?_;have:18446744073709551616^(j+X r)*1<=18446744073709551616^(j+X r)*c:=xas _ hp;lia
 simp_all
def zgu{p:N K}{c:K}(d:zn a)(f:zn b)(hi:¬i<X a+1)(hd:i<=X a+1)(g:nv o=nv a*nv (b.take k))(hp:nv p+18446744073709551616^(k+i)*c=nv o+18446744073709551616^k*nv ((v7 (X a+1)<|nv a*b.getD k 0).take i)):nv p=nv a*nv (b.take<|k+1):=by
 obtain rfl:i=X a+1:=W
 have hl:=yj (X a+1)<|nv a*b.getD k 0;rw[xaQ W]at hp;have h:nv (v7 (X a+1)<|nv a*b.getD k 0)=nv a*b.getD k 0:=by rw[u6,xag<|SJ d<|f.getD k]
 have e:nv o+18446744073709551616^k*nv (v7 (X a+1)<|nv a*b.getD k 0)=nv a*nv (b.take<|k+1):=by rw[h,g,kj,xbV,xfe]
 have hc:nv o+18446744073709551616^k*nv (v7 (X a+1)<|nv a*b.getD k 0)<18446744073709551616^(k+X (v7 (X a+1)<|nv a*b.getD k 0)):=by
  rw[e,hl,(W:k+(X a+1)=X a+(k+1))];exact Ur d f
 generalize v7 (X a+1) (nv a*b.getD k 0)=r at*
 rw[<-hl]at hp;rw[(zqn hp hc).2,e]
def m32{a b:K}(c:a<4294967296)(d:b<4294967296):a*b<=18446744065119617025:=xbp (W:a<=4294967295) (W:b<=4294967295)
def zqu(c:x<18446744073709551616)(d:y<18446744073709551616):(x%4294967296)*(y%4294967296)<=18446744065119617025/\(x/2^32)*(y%4294967296)<=18446744065119617025/\
 (x%4294967296)*(y/2^32)<=18446744065119617025/\(x/2^32)*(y/2^32)<=18446744065119617025:=
 ⟨m32 W W,m32 W W,m32 W W,m32 W W⟩
theorem zot(x y:K):x*y=18446744073709551616*((x/2^32)*(y/2^32))+4294967296*((x/2^32)*(y%4294967296))+4294967296*((x%4294967296)*(y/2^32))+(x%4294967296)*(y%4294967296):=by
 have h1:x=4294967296*(x/2^32)+x%4294967296:=W
 have c:y=4294967296*(y/2^32)+y%4294967296:=W
 grind
def Ym(c:X (yN x)<=k)(d:X (yN y)<=k):X (yN<|x+y)<=k+1:=by
 rw[zN]at*
 lia
theorem zyt{x0 c d f P:K}:x0*d+P*((x0+c)*(d+f)-x0*d-c*f)+P*P*(c*f)=(x0+P*c)*(d+P*f):=by
 have e:(x0+c)*(d+f)-x0*d-c*f=x0*f+c*d:=by grind
 grind
theorem zq8(x0 d c e:K):x0*c<=(x0+d)*(c+e)/\d*e<=(x0+d)*(c+e)-x0*c:=by grind
theorem zgJ(h:K):l.take (min h (X l))=l.take h:=by
 rw[Nat.min_def];split
 ·rfl
 ·grind
def zfF(h:K):l.drop (min h (X l))=l.drop h:=by
 rw[Nat.min_def];split
 ·rfl
 ·rw[xbS<|eZ _,xbS W]
def Om(n:K)(l:N K):nv (sR n 0++l)=18446744073709551616^n*nv l:=by simp_all [Zt,WZ]
def zbl(h:K):nv (l.take h)+18446744073709551616^h*nv (l.drop h)=nv l:=by
 by_cases c:h<=X l
 ·have e:=Zt (l.take h)<|l.drop h;simp_all
 ·rw[xbS W,xaQ W,Ri,xcG,xbM]
theorem zqL{A B:N K}(h:K):nv (A.take h)*nv (B.take h)+18446744073709551616^h*((nv (A.take h)+nv (A.drop h))*(nv (B.take h)+nv (B.drop h))-nv (A.take h)*nv (B.take h)-nv (A.drop h)*nv (B.drop h))+
 18446744073709551616^(2*h)*(nv (A.drop h)*nv (B.drop h))=nv A*nv B:=by
 have:= @zyt (nv<|A.take h) (nv<|A.drop h) (nv<|B.take h) (nv<|B.drop h)<|18446744073709551616^h;rw[zbl,zbl]at this;rw[Nat.two_mul,xbq];exact this
def Wg(c:X (yN x)<=j)(d:X (yN y)<=k):X (yN<|x*y)<=j+k:=by
 rw[zN]at*
 rw[xbq];exact xdA c d
def zgr(q:K)(c:X (yN x)<=k):X (yN<|18446744073709551616^q*x)<=q+k:=by
 rw[zN]at*
 rw[xbq];exact Nat.mul_lt_mul_of_pos_left c<|xaP YL
def a7(h:x<=y):X (yN x)<=X (yN y):=by
 have:=(zN (X (yN y)) y).1<|eZ _;exact(zN _ x).2 W
theorem zoi(a b h:K){x0 c d e:K}(f:x0=nv ((yN a).take h))(g:c=nv ((yN a).drop h))(hc:d=nv ((yN b).take h))(hd:e=nv ((yN b).drop h)):
 x0*d+18446744073709551616^h*((x0+c)*(d+e)-x0*d-c*e)+18446744073709551616^(2*h)*(c*e)=a*b:=by grind [zqL,ym]
end
section
variable{a b:zC zV}{k fu x:zV}
def zt{α β:Type}{f:(β->V α)->β->V α}(i:β->Prop)(m:β->K)(r:α)
 (step:∀s L,i s->(∀c,i c->m c<m s->L c=Z r)->f L s=Z r):∀(n:K) (s:β),i s->m s<n->zg f n s=Z r
 |0,s,_,h=>wl h<|xbf _
 |n+1,s,d,h=>step s _ d λc e g=>zt i m r step n c e YD
def zph(h:zn a):a.take (X (yN<|nv a))=yN (nv a):=by
 refine GH (h.take _) (zz _) (by rw[xap];have:=xk h;omega) ?_;rw[NI h,ym];exact xag<|(zN _ _).1<|eZ _
def C6(c:k+1<=X a)(h0:a.getD k 0=0):nv (a.take k)=nv (a.take<|k+1):=by
 rw[kj,h0];simp
theorem Fb(h:zn a)(c:k+1<=X a)(h0:a.getD k 0≠0):yN (nv<|a.take<|k+1)=a.take (k+1):=by grind [zfb,zn.take]
theorem xA(h:zn a)(hl:X a<=17592186044416)(d:X a<fu):xD fu a=Z (yN<|nv a):=by
 unfold xD;rw[U (v:=yN<|nv a)];refine zt (λl=>zn l/\nv l=nv a/\X l<=17592186044416) (λl=>X l) _ ?_ _ _ ⟨h,O,hl⟩ d;rintro l L ⟨c,hn,g⟩ e;unfold dH;by_cases h0:0<(X l:J)
 ·have⟨k,f⟩:∃k,X l=k+1:=⟨X l-1,YD⟩;have e1:(X l:J)-1=(k:J):=YD
  rw[S h0,e1,zb,yc,Q];by_cases h1:l.getD k 0=0
  ·rw[S (by rw[h1]),zb,yU,yM,Q];refine e _ ⟨c.take _,?_,by rw[xap];omega⟩ (by rw[xap];omega);rw[C6 YD h1,<-f,xcA,hn]
  ·rw[zA,<-hn];have:=Fb c (k:=k) YD h1;grind
 ·rw[ir h0,<-hn];have:l=[]:=xbs.1 YD;rw[this];rfl
theorem wx(h:zn a)(hl:X a<=17592186044416)(c:X a<fu):wY fu a=Z (yN<|nv a):=by
 have:=xA h hl c;assumption
theorem QW(h:zn a)(hl:X a<=17592186044416:=by omega)(c:X a<fu:=by omega):XT fu a=Z (yN<|nv a):=by grind [XT,wC,U,wx,xi,xk]
theorem Kc(h:zn a)(hl:X a<=17592186044416)(g:X a<fu):YF fu a=Z (yN<|nv a):=by
 unfold YF;have e:=xk h;rw[U (v:=(X (yN<|nv a):J)),yU,xi e,Q,zph h,xi (by simp;omega),Q];rfl;refine zt (λi:J=>0<=i/\i<=X a/\nv (a.take i.toNat)=nv a) (λi=>i.toNat) _ ?_ _ _ ⟨YD,YD,Xn⟩ YD;rintro i L ⟨h0,h1,hn⟩ f;obtain⟨k,rfl⟩:=xat h0;unfold o9;simp only[xaJ]at*
 by_cases d:0<(k:J)
 ·obtain⟨j,rfl⟩:∃j,k=j+1:=⟨k-1,YD⟩;have e1:((j+1:K):J)-1=(j:J):=YD
  rw[S d,e1,zb,yc,Q];by_cases c:a.getD j 0=0
  ·rw[S (by rw[c]),zb];refine f _ ⟨YD,YD,?_⟩ YD;rw[xaJ,C6 YD c,hn]
  ·rw[zA,<-hn,Fb h YD c,xap];grind
 ·rw[ir d,<-hn];have:k=0:=YD
  subst this;rfl
def R4(x:K):x &&& 4294967295=x%4294967296:=Nat.and_two_pow_sub_one_eq_mod x 32
def SZ:min (((32:K):J)).toNat 64=32:=YL
def Jx{y:K}(c:x<18446744073709551616)(d:y<18446744073709551616):jV fu x y=Z (x*y/18446744073709551616,x*y%18446744073709551616):=by
 unfold jV;simp only[nm,R4,SZ];have⟨b1,b2,b3,f⟩:=zqu c d;have e:=zot x y;generalize g:(x%4294967296)*(y%4294967296)=A at*
 generalize h:(x/2^32)*(y%4294967296)=B at*
 generalize i:(x%4294967296)*(y/2^32)=C at*
 generalize j:(x/2^32)*(y/2^32)=D at*
 have l:x*y<18446744073709551616*18446744073709551616:=xdA c d;generalize x*y=z at*
 congr 2;omega
def uf{n:K}{f:J->K->V (K×K)}{step:K->K->K×K}(hn:n<=17179869184)(c:n<fu)(h:∀k,k<n->f (k:J) (qq step k).2=Z (step k (qq step k).2)):qW fu n f=Z (qq step n):=by
 unfold qW;rw[yU,yM,Q,U (v:=((qq step n).2,(qq step n).1))];refine zt (λs:K×J×N K=>∃k:K,k<=n/\s=((qq step k).2,(k:J),(qq step k).1++sR (n-k) 0)) (λs=>n-s.2.1.toNat) _ ?_ _ _ ⟨0,YD,O⟩ (by simpa using c);rintro s L ⟨k,e,rfl⟩ d;unfold lV;simp only[xaR];by_cases h1:(k:J)<(n:J)
 ·have hl:(qq step k).1.length=k:=wX step k;rw[S h1,U (h k YD),zo (by simp[hl];omega),Q,zb];refine d _ ⟨k+1,YD,?_⟩ (by show n-((k:J)+1).toNat<n-((k:J)).toNat;omega);rw[zqi hl YD];rfl
 ·rw[ir h1];obtain rfl:k=n:=YD
  simp
theorem Jz(a:N K)(hl:X a<=9223372036854775807):JL fu a (k:J)=Z (a.getD k 0):=by grind [JL,zo,Q]
def YW(c:zn a)(d:zn b)(hd:X a<=8589934592:=by omega)(g:X b<=8589934592:=by omega)(h:max (X a) (X b)+1<fu:=by omega):
 YO fu a b=Z (yN<|nv a+nv b):=by
 unfold YO;have e:max (X a:J) (X b)=((max (X a) (X b):K):J):=YD
 have hc:∀k,(qq (Mh a b) k).2<=1:=by
  intro k
  induction k with
  |zero=>exact sB _
  |succ k f=>exact ziA c d f
 rw[Q,e,U<|uf (step:=Mh a b) YD YD ?_]
 ·have hl:=wX (Mh a b)<|max (X a) (X b);show ck _ _=_;rw[xi (by simp;omega),Q,U (xA ?_ (by simp;omega)<|by simp;omega),zny YD YD];exact(N4 a b _).2.append<|zn.cons (by have:=hc<|max (X a) (X b);omega) zn.nil
 ·intro k i;unfold rQ;rw[U (Jz a YD),U (Jz b YD),xi<|hc k];rfl
theorem Uo(c:zn a)(d:zn b)(hd:X a<=8589934592)(g:X b<=8589934592)(i:max (X a) (X b)+1<fu):
 UH fu a b=Z (if nv a<nv b then([],1)else(yN<|nv a-nv b,0)):=by
 unfold UH;have e:max (X a:J) (X b)=((max (X a) (X b):K):J):=YD
 have hc:∀k,(qq (nD a b) k).2<=1:=by
  intro k
  cases k with
  |zero=>exact sB _
  |succ k=>exact Ox a b k _
 rw[Q,e,U<|uf (step:=nD a b) YD YD ?_]
 ·have hl:=wX (nD a b)<|max (X a) (X b);have f:=za3 c d (xdP (X a) (X b))<|xdB (X a) (X b);simp only;by_cases h:nv a<nv b
  ·simp_all
  ·rw[ir (by intro h1;exact h<|f.1 YD),ir h,U (xA (PN c d (xdP (X a) (X b))<|xdB (X a) (X b)).2.1 YD YD),zkL c d (xdP _ _) (xdB _ _) h]
 ·intro k j;unfold oh;rw[U (Jz a YD),U (Jz b YD),xi<|hc k];rfl
theorem fG(c:zn a)(d:zn b)(hc:X a<=8589934592)(hd:X b<=8589934592)(e:max (X a) (X b)+1<fu)(h:nv b<=nv a):
 Qx fu a b=Z (yN<|nv a-nv b):=by grind [Qx,U,Uo]
def zhE{a:N K}{x:K}(c:zn a)(d:x<18446744073709551616):∀k,(qq (rK a x) k).2<18446744073709551616
 |0=>Nat.zero_lt_succ _
 |k+1=>zik c d<|zhE c d k
theorem zlx{a c:K}(d:a<18446744073709551616)(e:x<18446744073709551616)(hc:c<18446744073709551616):
 ((a*x%18446744073709551616+c)%18446744073709551616,(a*x/18446744073709551616+(a*x%18446744073709551616+c)/18446744073709551616)%18446744073709551616)=((a*x+c)%18446744073709551616,(a*x+c)/18446744073709551616):=by
 have:=EZ d e hc;grind
def iW(c:zn a)(d:x<18446744073709551616)(g:X a<=8589934592:=by omega)(e:X a<fu:=by omega):UO fu a x=Z (v7 (X a+1)<|nv a*x):=by
 unfold UO;rw[U<|uf (step:=rK a x) YD e ?_]
 ·have hl:=wX (rK a x) (X a);simp only;rw[xi (by simp;omega),Q,zgM<|zhE c d _]
 ·intro k f;unfold rf;rw[zo f,Q,U<|Jx (c.getD k) d];exact wF Z<|zlx (c.getD k) d<|zhE c d k
theorem aE{n:K}(hn:n<=1099511627776:=by omega)(hl:X a<=1099511627776:=by omega):Wb fu a (n:J)=Z (sR n 0++a):=by grind [Wb,yU,xi,Q]
def zdz{n:K}{t3 t4 t6:N K}{i2:J}(d:zn a)(f:zn b)(v:k<X b)(hn:n=X a+X b+1)(w:n<=17179869184)(g:t6=v7 (X a+1) (nv a*b.getD k 0))(m:X a+1<fu):
 zg (ay fu (k:J) t3 t4 i2 t6) fu (0,0,v7 n<|nv a*nv (b.take k),t6)=Z (v7 n<|nv a*nv (b.take<|k+1)):=by
 have hl:X t6=X a+1:=by rw[g,yj]
 have q:zn t6:=g▸wI _ _;have t:nv a*nv (b.take k)<18446744073709551616^n:=xah (Ur d f) (xam YL YD);have h0:nv (v7 n<|nv a*nv (b.take k))=nv a*nv (b.take k):=by rw[u6,xag t]
 refine zt (λs:K×J×N K×N K=>∃(c i:K) (o:N K),s=(c,(i:J),o,t6)/\i<=X t6/\c<=1/\zn o/\X o=n/\nv o+18446744073709551616^(k+i)*c=nv a*nv (b.take k)+18446744073709551616^k*nv (t6.take i))
  (λs=>X a+1-s.2.1.toNat) _ ?_ _ _ ⟨0,0,_,O,YD,YD,wI _ _,yj _ _,by rw[h0];simp[nv]⟩ (by simpa using m)
 rintro s L ⟨c,i,o,rfl,hi,hc,hd,h,l⟩ u;unfold ay;simp only;by_cases h1:i<X t6
 ·rw[zS,U O];simp only[wN];have e:(k:J)+(i:J)=((k+i:K):J):=YD
  rw[zo h1,Q,e,zb,zb,yc,Q,xi hc,Q,Q,yc,Q,zb];refine u _ ⟨_,i+1,_,O,YD,?_,hd.set _ (xaI _ YL),by rw[xbz,h],?_⟩ (by show X a+1-((i:J)+1).toNat<X a+1-(i:J).toNat;omega)
  ·have:=hd.getD<|k+i;have:=q.getD i;omega
  ·have:=zni (o:=o) (o0:=v7 n<|nv a*nv (b.take k)) (r:=t6) (j:=k) (i:=i) (c:=c) YD (by rw[h0];exact l);rw[h0]at this;exact this
 ·rw[zA,U O];simp only[xaj,wP];subst g;refine wF Z<|GH hd (wI _ _) (by rw[h,yj]) ?_;rw[zgu d f (k:=k) (i:=i) (c:=c) (p:=o) (o:=v7 n<|nv a*nv (b.take k)) YD YD h0 (by rw[h0];exact l),u6,xag];exact xah (Ur d f)<|xam YL YD
theorem La(c:zn a)(d:zn b)(hc:X a<=4294967296)(hd:X b<=4294967296)(h:X a+X b+1<fu):
 K9 fu a b=Z (yN<|nv a*nv b):=by
 unfold K9;have e1:(X a:J)+(X b:J)=((X a+X b:K):J):=YD
 have e:((X a+X b:K):J)+1=((X a+X b+1:K):J):=YD
 have f:nv a*nv b<18446744073709551616^(X a+X b+1):=by
  have:=Ur (k:=X b) c d;grind
 rw[e1,zb,e,zb,yU,yM,Q,U (v:=v7 (X a+X b+1)<|nv a*nv b)]
 ·rw[U (xA (wI _ _) (by rw[yj];omega)<|by rw[yj];omega),u6,xag f]
 ·refine zt (λs:J×N K=>∃k:K,k<=X b/\s=((k:J),v7 (X a+X b+1)<|nv a*nv (b.take k))) (λs=>X b-s.1.toNat) _ ?_ _ _ ⟨0,YD,by simp[nv,zbw]⟩ (by simp;omega);rintro s L ⟨k,i,rfl⟩ g;unfold py;simp only;by_cases h1:k<X b
  ·rw[zS,U O];simp only[wN];rw[zo h1,Q,U (iW c (d.getD k) YD YD),U (zdz c d h1 O YD O YD),zb];exact g _ ⟨k+1,YD,O⟩ (by show X b-((k:J)+1).toNat<X b-(k:J).toNat;omega)
  ·rw[zA,U O];simp only[xaj,wP];obtain rfl:k=X b:=YD
   rw[xcA]
end
def zh9(n:K):xbQ (n:J) 2=((n/2:K):J):=O
def r8(x h:K):X (yN<|nv<|(yN x).take h)<=h:=by grind [xk,zn.take,zz]
def oe(x h:K):X (yN<|nv<|(yN x).drop h)<=X (yN x)-h:=by grind [xk,zn.drop,zz]
def Uc:∀{fu:zV}{a b:N zV},zn a->zn b->X a<=1073741824->X b<=1073741824->4*(X a+X b)+64<=fu->UR fu a b=Z (yN<|nv a*nv b)
 |0,a,b,_,_,_,_,T=>by lia
 |fu+1,a,b,C,D,hk,hl,T=>by
  have h1:=xk C;have h2:=xk D;show Y _ _=_;rw[U (wx C W W),U<|wx D W W];have eA:nv (yN<|nv a)=nv a:=ym _;have V:nv (yN<|nv b)=nv b:=ym _;generalize hx:nv a=x at*
  generalize hy:nv b=y at*
  generalize hp:X (yN x)=p at*
  generalize s:X (yN y)=q at*
  have e1:min (p:J) (q:J)=((min p q:zV):J):=W
  rw[Q,e1];by_cases u:((min p q:zV):J)<8
  ·rw[S u,U (La (zz x) (zz y) W W W),eA,V]
  ·rw[ir u];have E:max (p:J) (q:J)=((max p q:zV):J):=W
   rw[Q,E,zh9,zb];have⟨h,F⟩:∃h,h=max p q/2:=⟨_,O⟩;have G:∀l:zV,min (h:J) (l:J)=((min h l:zV):J):=by intro l;lia
   rw[<-F];simp only[B,G,yU];rw[xi YL,yM];have H:(yN x).take (min h p)=(yN x).take h:=by rw[<-hp];exact zgJ h
   have L:(yN x).drop (min h p)=(yN x).drop h:=by rw[<-hp];exact zfF h
   have ty:(yN y).take (min h q)=(yN y).take h:=by rw[<-s];exact zgJ h
   have dy:(yN y).drop (min h q)=(yN y).drop h:=by rw[<-s];exact zfF h
   rw[H,ty,L,dy];have v:=r8 x h;have w:=r8 y h;have f:X ((yN x).drop h)=p-h:=by rw[xca,hp]
   have g:X ((yN y).drop h)=q-h:=by rw[xca,s]
   have i:=oe x h;have o:=oe y h;rw[U (wx ((zz x).take h) (by rw[xap];lia)<|by rw[xap];lia),yM,yM,U (wx ((zz y).take h) (by rw[xap];lia)<|by rw[xap];lia),yM];have M:=(zz x).drop h;have⟨m,hm⟩:∃m,m=max p q:=⟨_,O⟩;have f1:p<=m:=W
   have f2:q<=m:=W
   have f3:m+8<=p+q:=W
   have f4:2*h<=m:=W
   have f5:m<=2*h+1:=W
   clear F hm u e1 E G H ty L dy;have g1:p-h<=m-h:=W
   have A:q-h<=m-h:=W
   have g3:h<=m-h:=W
   replace i:=PX i<|hp.symm▸g1;replace o:=PX o<|s.symm▸A;have a0:X ((yN x).drop h)<=m-h:=f▸g1;have a1:X ((yN y).drop h)<=m-h:=g▸A;clear f g g1 A;have P:=(zz y).drop h;generalize he:nv ((yN x).take h)=x0 at*
   generalize hg:nv ((yN y).take h)=c at*
   generalize hi:(yN x).drop h=dX at*
   generalize hj:(yN y).drop h=dY at*
   generalize hc:nv dX=d at*
   generalize hd:nv dY=e at*
   have s1:=Ym (x:=x0) (y:=d) (k:=m-h) W W;have s2:=Ym (x:=c) (y:=e) (k:=m-h) W W;have r:=zq8 x0 d c e;rw[U<|Uc (fu:=fu) (zz x0) (zz c) W W W];rw[U<|Uc (fu:=fu) M P W W W];rw[U<|YW (zz x0) M,U<|YW (zz c) P];rw[hc,hd,ym,ym];rw[U (Uc (fu:=fu) (zz<|x0+d) (zz<|c+e) W W W),ym,ym];have l3:=Wg s1 s2;have l1:=Wg v w;have l2:=Wg (x:=d) (y:=e) (j:=m-h) (k:=m-h) W W;have l4:=a7<|xeN ((x0+d)*(c+e))<|x0*c;have l5:=a7<|xeN ((x0+d)*(c+e)-x0*c)<|d*e;rw[U (fG (zz<|(x0+d)*(c+e)) (zz<|x0*c) W W W<|by rw[ym,ym];exact r.1),ym,ym];rw[U (fG (zz<|(x0+d)*(c+e)-x0*c) (zz<|d*e) W W W<|by rw[ym,ym];exact r.2),ym,ym];have R:∀n z:zV,zn (sR n 0++yN z):=λn z=>(zn.replicate n).append<|zz z;have ml:∀n z:zV,X (sR n 0++yN z)=n+X (yN z):=λn z=>by rw[xak,xaR]
   rw[U<|aE,U (YW (zz _) (R _ _) W (by rw[ml];lia)<|by rw[ml];lia),ym,Om,ym];have e4:2*(h:J)=((2*h:zV):J):=W
   rw[e4,zb,U<|aE];have t:=zgr h<|PX l5<|PX l4 l3;have l7:=Ym (x:=x0*c) (y:=18446744073709551616^h*((x0+d)*(c+e)-x0*c-d*e)) (k:=3*(p+q)) (by clear t;lia) (PX t<|by clear t;lia);have K:=zoi x y h he.symm (by rw[hi,hc]) hg.symm (by rw[hj,hd]);generalize 18446744073709551616^h*((x0+d)*(c+e)-x0*c-d*e)=z1 at*
   generalize hz:x0*c+z1=z at*
   clear t;rw[U (YW (zz z) (R (2*h)<|d*e) (by clear K;lia) (by rw[ml];clear K;lia)<|by rw[ml];clear K;lia),ym,Om,ym,K]
section
variable{k fu:zV}{a:zC zV}
def blf:K->K->K
 |0,_=>0
 |f+1,n=>if n=0 then 0 else blf f (n/2)+1
def bl(n:K):K:=blf n n
def zng:∀f f' n,n<=f->n<=f'->blf f n=blf f' n
 |0,f',n,h,b=>by
  obtain rfl:n=0:=W
  cases f'<;>rfl
 |f+1,0,n,h,b=>by
  obtain rfl:n=0:=W
  rfl
 |f+1,f'+1,n,h,b=>by
  unfold blf;split
  ·rfl
  ·rw[zng f f' (n/2) W W]
def zrY:bl 0=0:=O
def iB{n:K}(h:0<n:=by lia):bl n=bl (n/2)+1:=by
 obtain⟨m,rfl⟩:∃m,n=m+1:=⟨n-1,W⟩;show(if m+1=0 then 0 else blf m ((m+1)/2)+1)=_;rw[zng m ((m+1)/2) ((m+1)/2) W<|eZ _];rfl
def sy:∀(k:K) {n:K},2^k<=n->bl n=bl (n/2^k)+k
 |0,n,h=>by simp
 |k+1,n,h=>by
  have b:=Nat.two_pow_pos k;rw[iB,sy k W,xaB,xbi,xaH 2];lia
theorem ah{n:K}(h:n<2^k):bl n<=k:=by
 induction k generalizing n with
 |zero=>
  obtain rfl:n=0:=W
  exact eZ _
 |succ k b=>
  obtain rfl|h0:=xcb n
  ·grind
  ·rw[iB h0];grind
theorem IB(n:K):n<2^bl n:=by
 induction n using xcY with
 |ind n b=>
  obtain rfl|h0:=xcb n
  ·decide
  ·rw[iB h0];grind
def zbq:∀{n:K},n<256->xeM n=bl n:=by decide+kernel
theorem kh{x:K}(q:x<18446744073709551616):wi fu x=Z ((bl x:K):J):=by
 unfold wi;have f:min (16:J).toNat 64=16:=YL
 have o:min (8:J).toNat 64=8:=YL
 have g:min (32:J).toNat 64=32:=YL
 simp only[B,g,f,o];have c:∀(d:K) (i:J),d<65536->0<=i->i<=48->(if(256:J)<=(d:J)then E (i+8) λj=>E (j+((xeM (d/2^8%256):K):J)) λl=>Z l else E (i+((xeM (d%256):K):J)) λm=>Z m)=Z (i+((bl d:K):J)):=by
  intro d i hd h0 h1;by_cases h:256<=d
  ·have b:=ah (n:=d/2^8) (k:=8) W;rw[zS,zb,xag W,zbq W,zb,sy 8 (n:=d) W];grind
  ·have b:=ah (n:=d) (k:=8) W;rw[zA,xag W,zbq W,zb]
 have e:∀(d:K) (i:J),d<4294967296->0<=i->i<=32->(Y (if(65536:J)<=(d:J)then E (i+16) λp=>Z (d/2^16,p)else Z (d,i)) λ(d2,i2)=>if(256:J)<=(d2:J)then E (i2+8) λj=>E (j+((xeM (d2/2^8%256):K):J)) λl=>Z l else E (i2+((xeM (d2%256):K):J)) λm=>Z m)=Z (i+((bl d:K):J)):=by
  intro d i hd h0 h1;by_cases h:65536<=d
  ·rw[zS,zb,U O];simp only;rw[c _ _ W W W,sy 16 (n:=d) W];congr 1;lia
  ·rw[zA,U O];exact c _ _ W W W
 by_cases h:4294967296<=x
 ·rw[zS,U O];simp only;rw[e _ _ W W W,sy 32 (n:=x) W];congr 1;lia
 ·rw[zA,U O];simp only;rw[e _ _ W W W];congr 1;lia
def OZ{n:K}(h:0<n):bl n=64*(X (yN n)-1)+bl ((yN n).getD (X (yN n)-1) 0):=by
 have⟨k,b⟩:∃k,X (yN n)=k+1:=⟨X (yN n)-1,by have:=qi h;lia⟩;have h1:=(zN (k+1) n).1 W;have d:¬n<18446744073709551616^k:=λh=>by have:=(zN k n).2 h;lia
 rw[b,Xi,(W:k+1-1=k)];have e:18446744073709551616^k=2^(64*k):=by rw[xbT]
 have c:n/18446744073709551616^k<18446744073709551616:=by rw[xaM<|xaP YL];rw[xbi,xaH]at h1;exact h1
 rw[xag c,e,sy (64*k)<|by skip;lia];lia
def zh1(h:zn a)(b:X a<=k):bl (nv a)<=64*k:=by
 refine ah ?_;rw[xbT];exact xah (q9 h)<|xam YL b
def Ja(h:zn a)(hl:X a<=1099511627776)(d:X a<fu):ZW fu a=Z ((bl (nv a):K):J):=by
 unfold ZW;rw[U<|wx h (PX hl YL) d];have f:=zh1 h hl;rcases xcb (nv a)with h0|h0
 ·rw[h0];rfl
 ·have h1:=qi h0;have b:=(zz<|nv a).getD<|X (yN<|nv a)-1;have e:=OZ h0;have⟨k,c⟩:∃k,X (yN<|nv a)=k+1:=⟨X (yN<|nv a)-1,W⟩;rw[c]at e b;simp only[xdv]at e b;have e1:((k+1:K):J)-1=k:=W
  rw[c,e1,zb,zb,zb,yc,Q,U<|kh b,zb,e];rfl
def nj(h:zn a)(hl:X a<=17179869184)(j:X a+64<fu):WI fu a=Z ((bl (nv a):K):J):=by
 unfold WI;rw[U<|Kc h (PX hl YL) W];have l:=xk h;have m:=zh1 h hl;rcases xcb (nv a)with h0|h0
 ·rw[h0,gn];rfl
 ·have h1:=qi h0;have b:=(zz<|nv a).getD<|X (yN<|nv a)-1;have e:=OZ h0;have⟨k,c⟩:∃k,X (yN<|nv a)=k+1:=⟨X (yN<|nv a)-1,W⟩;rw[c]at e b;simp only[xdv]at e b;have e1:((k+1:K):J)-1=(k:J):=W
  rw[c,zA,e1,zb,zb,zb,yc,Q];generalize(yN<|nv a).getD k 0=y at*
  have hc:=ah (n:=y) (k:=64) b;rw[U (v:=((bl (nv a):K):J))];refine zt (λs:J×K=>0<=s.1/\s.1+((bl s.2:K):J)=((bl (nv a):K):J)) (λs=>bl s.2) _ ?_ _ _ ⟨by show(0:J)<=64*(k:J);lia,by show(64:J)*(k:J)+((bl y:K):J)=_;lia⟩ (by show bl y<fu;lia);rintro⟨i,d⟩ L ⟨hi,hd⟩ f;unfold sx;simp only at*
  by_cases g:0<d
  ·have hp:=iB g;rw[zS,zb,Q];exact f (i+1,d/2) ⟨by show(0:J)<=i+1;lia,by show i+1+((bl (d/2):K):J)=_;lia⟩ (by show bl (d/2)<bl d;lia)
  ·obtain rfl:d=0:=W
   rw[zA,<-hd,zrY];simp
end
section
variable{x k fu:zV}{r a b l d:zC zV}
def nw:N K->K
 |[]=>0
 |x::r=>x+4294967296*nw r
def uM:K->K->N K
 |0,_=>[]
 |k+1,n=>n%4294967296::uM k (n/4294967296)
def Dk:K->K->N K
 |0,_=>[]
 |f+1,n=>if n=0 then[]else n%4294967296::Dk f (n/4294967296)
def Js(n:K):N K:=Dk n n
def zbk:N K->N K
 |[]=>[]
 |x::r=>match zbk r with
  |[]=>if x=0 then[]else[x]
  |y::s=>x::y::s
def xv(l:N K):Prop:=∀x∈l,x<4294967296
def xv.nil:xv []:=λx c=>wl c QT
def xv.cons(h:x<4294967296)(c:xv r):xv (x::r):=λy hy=>by
 obtain rfl|hy:=PQ.1 hy
 ·exact h
 ·exact c y hy
def xv.head(h:xv (x::r)):x<4294967296:=h x<|Qh
def xv.tail(h:xv (x::r)):xv r:=λy c=>h y<|kE _ c
def xv.append(c:xv a)(e:xv b):xv (a++b):=λx f=>by
 obtain h|h:=pN.1 f
 ·exact c x h
 ·exact e x h
theorem xv.take{a:N K}(h:xv a)(k:K):xv (a.take k):=λx c=>h x<|xec c
def xv.getD{a:N K}(h:xv a)(k:K):a.getD k 0<4294967296:=by
 rw[Yh];by_cases c:k<X a
 ·rw[xaa c];exact h _<|xbx c
 ·simp_all
def zb1:nw []=0:=O
def uJ(x:K)(r:N K):nw (x::r)=x+4294967296*nw r:=O
theorem td:∀(a b:N K),nw (a++b)=nw a+4294967296^X a*nw b
 |[],b=>by simp[nw]
 |x::a,b=>by
  rw[xbJ,uJ,td a b,uJ];grind
def zdU:∀k,nw (sR k 0)=0
 |0=>rfl
 |k+1=>by rw[xdM,uJ,zdU k]
def KN:∀{l:N K},xv l->nw l<4294967296^X l
 |[],_=>by simp[nw]
 |x::r,h=>by
  have h1:=h.head;have c:=KN h.tail;rw[uJ,xar];omega
theorem Nq(l:N K)(x:K):nw (l++[x])=nw l+4294967296^X l*x:=by
 rw[td,uJ,zb1];simp
theorem xh:∀k n,X (uM k n)=k
 |0,_=>rfl
 |k+1,n=>by rw[uM,xar,xh]
theorem jU:∀k n,xv (uM k n)
 |0,_=>xv.nil
 |k+1,n=>xv.cons (xaI _ YL)<|jU k _
theorem VG:∀k n,nw (uM k n)=n%4294967296^k
 |0,n=>by simp[uM,nw,Nat.mod_one]
 |k+1,n=>by rw[uM,uJ,VG k,xbi,xaH<|4294967296^k,Nat.mod_mul]
def lK:∀{l:N K},xv l->uM (X l) (nw l)=l
 |[],_=>rfl
 |x::r,h=>by
  have h1:=h.head;rw[xar,uM,uJ,xbY,xag h1,xcu _ _ YL,xbc h1,xaF,lK h.tail]
def Si(c:xv a)(e:xv b)(hl:X a=X b)(h:nw a=nw b):a=b:=by
 rw[<-lK c,<-lK e,hl,h]
def HH:∀k,uM k 0=sR k 0
 |0=>rfl
 |k+1=>by rw[uM,HH k,xdM]
def Gk:∀k n,uM (k+1) n=uM k n++[n/4294967296^k%4294967296]
 |0,n=>by simp[uM]
 |k+1,n=>by rw[uM,Gk k,uM,xbJ,xaB,<-xdH]
def zaT:∀(k n i:K),i<k->(uM k n).getD i 0=n/4294967296^i%4294967296
 |0,_,_,h=>by omega
 |k+1,n,0,_=>by simp[uM]
 |k+1,n,i+1,h=>by rw[uM,xdk,zaT k _ i YD,xaB,<-xdH]
def zaX:∀f n,xv (Dk f n)
 |0,_=>xv.nil
 |f+1,n=>by
  rw[Dk];split
  ·exact xv.nil
  ·exact xv.cons (xaI _ YL)<|zaX f _
def jr(n:K):xv (Js n):=zaX n n
def zjw:∀f n,n<=f->nw (Dk f n)=n
 |0,n,h=>by rw[Dk,zb1];omega
 |f+1,n,h=>by
  rw[Dk];split
  ·rename_i h0;rw[zb1,h0]
  ·rename_i h0;have c:n/4294967296<=f:=YD
   rw[uJ,zjw f _ c,xef]
def jM(n:K):nw (Js n)=n:=zjw n n<|eZ _
def ziX:∀f f' n,n<=f->n<=f'->Dk f n=Dk f' n
 |0,f',n,h,c=>by
  have:n=0:=YD
  subst this;cases f'<;>simp[Dk]
 |f+1,0,n,h,c=>by
  have:n=0:=YD
  subst this;rfl
 |f+1,f'+1,n,h,c=>by
  rw[Dk,Dk];split
  ·rfl
  ·rename_i h0;rw[ziX f f' _ YD YD]
theorem pj:Js 0=[]:=O
theorem Ff{n:K}(h:0<n):Js n=n%4294967296::Js (n/4294967296):=by
 have e:Js n=Dk ((n-1)+1) n:=by unfold Js;congr 1;omega
 rw[e,Dk,zA];congr 1;exact ziX _ _ _ YD YD
theorem zlk{n:K}(h0:0<n)(h:n<4294967296):Js n=[n]:=by grind [Ff,pj]
def zqQ{n:K}:Js n=[]↔n=0:=by
 constructor
 ·intro h;rw[<-jM n,h];rfl
 ·rintro rfl;rfl
def zgH{n:K}(h:0<n):0<X (Js n):=by rw[Ff h,xar];omega
def vK:∀(k n:K),X (Js n)<=k↔n<4294967296^k
 |0,n=>by rw[Nat.le_zero,xbs,zqQ];simp
 |k+1,n=>by
  by_cases h:n=0
  ·subst h;simp[pj];exact xaP YL
  ·rw[Ff YD,xar,Nat.add_le_add_iff_right,vK k,xaM YL,xbi]
def AH:∀(l:N K) (k:K),k+1=X l->l.getD k 0≠0->zbk l=l
 |[],_,h,_=>by simp at h
 |[x],0,_,h=>by simp at h;simp[zbk,h]
 |[x],k+1,h,_=>by simp at h
 |x::y::r,0,h,_=>by simp at h
 |x::y::r,k+1,h,h0=>by
  have:=AH (y::r) k (by simpa using h) (by simpa using h0);simp only[zbk]at this⊢;rw[this]
theorem zsv(l:N K)(k:K)(h:k+1=X l)(h0:l.getD k 0=0):l=l.take k++[0]:=by grind [xbw,xbK]
theorem zev:∀{l:N K},xv l->zbk l=Js (nw l)
 |[],_=>rfl
 |x::r,h=>by
  have c:=zev h.tail;have e:=h.head;rw[zbk,c,uJ];by_cases f:nw r=0
  ·rw[f,pj];by_cases h0:x=0
   ·simp[h0,pj]
   ·simp only[h0,wP,xcG,xbM];rw[zlk YD e]
  ·have e1:=Ff (n:=nw r) YD;have g:=Ff (n:=x+4294967296*nw r) YD;grind
theorem zgb(hl:xv l)(h:l=[]\/l.getD (X l-1) 0≠0):Js (nw l)=l:=by
 rw[<-zev hl];obtain rfl|h:=h
 ·rfl
 ·cases hn:X l with
  |zero=>rw[xbk hn];rfl
  |succ k=>exact AH l k hn.symm<|by rw[hn]at h;exact h
def zd2(hl:xv l)(k:K):nw (l.take k)=nw l%4294967296^k:=by
 by_cases c:k<=X l
 ·have e:=td (l.take k)<|l.drop k;rw[xbw,xap,xcg c]at e;have:=KN<|hl.take k;rw[xap,xcg c]at this;rw[e,xbY,xag this]
 ·rw[xaQ YD,xag];exact xah (KN hl)<|xam YL YD
def zkc(hl:xv l)(k:K):nw (l.drop k)=nw l/4294967296^k:=by
 by_cases c:k<=X l
 ·have e:=td (l.take k)<|l.drop k;rw[xbw,xap,xcg c]at e;have:=KN<|hl.take k;rw[xap,xcg c]at this;rw[e,xcu _ _ (xaP YL),xbc this,xaF]
 ·rw[xbS YD,zb1,xbc];exact xah (KN hl)<|xam YL YD
def ig:∀{l:N K},xv l->∀k,l.getD k 0=nw l/4294967296^k%4294967296
 |[],_,k=>by simp[nw]
 |x::r,h,0=>by rw[List.getD_cons_zero,uJ,xdz,xbY,xag h.head]
 |x::r,h,k+1=>by rw[xdk,ig h.tail k,uJ,xdH,<-xaB,xcu _ _ YL,xbc h.head,xaF]
def zoa(h:xv a):a.take (X (Js<|nw a))=Js (nw a):=by
 have c:=(vK _ _).2<|KN h;refine Si (h.take _) (jr _) (by rw[xap];omega) ?_;rw[zd2 h,jM];exact xag<|(vK _ _).1<|eZ _
theorem P7(k:K):(4294967296:K)^(2*k)=18446744073709551616^k:=by grind [xbT]
def znL(k:K):(4294967296:K)^(2*k+1)=18446744073709551616^k*4294967296:=by
 rw[xbi,P7]
theorem u9(l:N K):∀k,nw (l.take<|k+1)=nw (l.take k)+4294967296^k*l.getD k 0:=by
 induction l with
 |nil=>intro k;simp[nw]
 |cons x r c=>
  intro k
  cases k with
  |zero=>simp[nw]
  |succ k=>
   rw[xek,uJ,c k,xek,uJ,xdk,xbi,xbV];rw[xaH (4294967296^k) 4294967296,xbe,xcL]
def zdJ(c:k+1<=X a)(h0:a.getD k 0=0):nw (a.take k)=nw (a.take<|k+1):=by
 rw[u9,h0];simp
theorem zdy(h:xv a)(c:k+1<=X a)(h0:a.getD k 0≠0):Js (nw<|a.take<|k+1)=a.take (k+1):=by grind [zgb,xv.take]
def zlD(h:xv l):X (Js<|nw l)<=X l:=(vK _ _).2<|KN h
theorem zdo:∀(o:N K) (j v:K),j<X o->nw (o.set j v)+4294967296^j*o.getD j 0=nw o+4294967296^j*v
 |[],j,v,h=>by simp at h
 |x::r,0,v,h=>by simp[nw];omega
 |x::r,j+1,v,h=>by
  have c:=zdo r j v (by simpa using h);rw[xeR,uJ,uJ,xdk,xbi,xaH<|4294967296^j,xbe,xbe];omega
def xv.set{o:N K}(h:xv o)(j:K){v:K}(hv:v<4294967296):xv (o.set j v):=λx c=>by
 obtain h1|h1:=xeb c
 ·exact h x h1
 ·omega
theorem ai(h:xv a)(hl:X a<=1099511627776)(m:X a<fu):Wj fu a=Z (Js<|nw a):=by
 unfold Wj;have f:=zlD h;rw[U (v:=(X (Js<|nw a):J)),yU,xi f,Q,zoa h];refine zt (λi:J=>0<=i/\i<=X a/\nw (a.take i.toNat)=nw a) (λi=>i.toNat) _ ?_ _ _ ⟨YD,YD,Xn⟩ YD;rintro i L ⟨h0,h1,hn⟩ g;obtain⟨k,rfl⟩:=xat h0;unfold AA;simp only[xaJ]at*
 by_cases e:0<(k:J)
 ·obtain⟨j,rfl⟩:∃j,k=j+1:=⟨k-1,YD⟩;have e1:((j+1:K):J)-1=(j:J):=YD
  rw[S e,e1,zb,yc,Q];by_cases c:a.getD j 0=0
  ·rw[S (by rw[c]),zb];refine g _ ⟨YD,YD,?_⟩ YD;rw[xaJ,zdJ YD c,hn]
  ·rw[zA,<-hn,zdy h YD c,xap];grind
 ·rw[ir e,<-hn];have:k=0:=YD
  subst this;rfl
def zmD(h:zn a)(c:k<X a):uM (2*k) (nv a)++[a.getD k 0 &&& 4294967295,a.getD k 0/2^32]=uM (2*(k+1)) (nv a):=by
 rw[(YD:2*(k+1)=(2*k+1)+1),Gk,Gk,xal,b7 h,R4];congr 1;rw[znL,P7,<-xaB];congr 1
 ·omega
 ·congr 1;omega
theorem zeF(h:zn a)(hl:X a<=4294967296)(e:2*X a<fu):zg (Qm fu a) fu ([],0)=Z (uM (2*X a)<|nv a):=by
 refine zt (λs:N K×J=>∃k:K,k<=X a/\s=(uM (2*k)<|nv a,(k:J))) (λs=>X a-s.2.toNat) _ ?_ _ _ ⟨0,YD,O⟩ (by show X a-0<fu;omega);rintro s L ⟨k,f,rfl⟩ c;unfold Qm;simp only;by_cases h1:k<X a
 ·rw[zS,zo h1,Q,Q,zo h1,Q,Q,SZ,xi (by simp only[xh,xar,xbA];omega),Q,zb,zmD h h1];exact c _ ⟨k+1,YD,O⟩ (by show X a-((k:J)+1).toNat<X a-(k:J).toNat;omega)
 ·grind
theorem wj(h:zn a)(hl:X a<=4294967296:=by omega)(c:2*X a<fu:=by omega):xR fu a=Z (Js<|nv a):=by grind [xR,P7,q9,U,zeF,ai,jU,xh,VG,xag]
def zlA(h:xv d)(k:K):d.getD (2*k) 0+d.getD (2*k+1) 0*2^32=nw d/18446744073709551616^k%18446744073709551616:=by
 rw[ig h,ig h,znL,<-xaB,P7];omega
def zir{n:K}(h:xv d)(hl:X d<=4294967296)(hn:n=(X d+1)/2)(j:X d+1<fu):zg (Kx fu d) fu ([],0)=Z (v7 n<|nw d):=by
 refine zt (λs:N K×J=>∃k:K,k<=n/\s=(v7 k<|nw d,2*(k:J))) (λs=>2*n-s.2.toNat) _ ?_ _ _ ⟨0,YD,O⟩ (by show 2*n-0<fu;omega);rintro s L ⟨k,m,rfl⟩ c;unfold Kx;simp only;have f:2*(k:J)=((2*k:K):J):=YD
 have hp:=zlA h k;by_cases h1:2*k<X d
 ·have d0:=h.getD<|2*k;have d1:=h.getD<|2*k+1;rw[f,zS,zo h1,Q,zb];have g:((2*k:K):J)+1=((2*k+1:K):J):=YD
  have e:((2*k:K):J)+2=2*((k+1:K):J):=YD
  by_cases i:2*k+1<X d
  ·rw[zS,zb,g,zo i,Q,SZ,Q,Q,xi (by simp only[yj,xar,xbA];omega),Q,zb,e];refine c _ ⟨k+1,YD,?_⟩ (by show 2*n-(2*((k+1:K):J)).toNat<2*n-(((2*k:K):J)).toNat;omega);rw[gk,<-hp,xag YD,xag YD]
  ·rw[zA,xi (by simp only[yj,xar,xbA];omega),Q,zb,e];refine c _ ⟨k+1,YD,?_⟩ (by show 2*n-(2*((k+1:K):J)).toNat<2*n-(((2*k:K):J)).toNat;omega);have z:d.getD (2*k+1) 0=0:=by rw[Yh,xbB YD];rfl
   rw[z,xcs,xbM]at hp;rw[gk,<-hp]
 ·rw[zA];obtain rfl:k=n:=YD
  rfl
def uo(h:xv d)(hl:X d<=4294967296)(c:X d+1<fu):qT fu d=Z (yN<|nw d):=by
 unfold qT;have⟨n,hn⟩:∃n,n=(X d+1)/2:=⟨_,O⟩;have e:nw d<18446744073709551616^n:=by
  rw[<-P7];exact xah (KN h)<|xam YL YD
 rw[U<|zir h hl hn c,U (Kc (wI _ _) (by rw[yj];omega)<|by rw[yj];omega),u6,xag e]
end
section
variable{o y x a b:zC zV}{i m fu:zV}
theorem zlz{T k x c:K}(d:i+k<X o)(h:nw o+4294967296^(i+k)*c=T+4294967296^i*(x*nw (y.take k))):
 nw (o.set (i+k)<|(x*y.getD k 0+o.getD (i+k) 0+c)%4294967296)+4294967296^(i+(k+1))*((x*y.getD k 0+o.getD (i+k) 0+c)/4294967296)=T+4294967296^i*(x*nw (y.take<|k+1)):=by grind [zdo,u9,xbV,xfe,xbe,xef]
def zkB(c:xv o){j v:K}(d:j<m)(hv:v<4294967296)(h:nw o<4294967296^m):nw (o.set j v)<4294967296^m:=by
 have e:(o.set j v).drop m=o.drop m:=List.drop_set_of_lt d;have h1:=zkc (c.set j hv) m;have f:=zkc c m;rw[e,f,xbc h]at h1;have hp:0<4294967296^m:=xaP YL;rcases xbO (nw<|o.set j v) (4294967296^m)with h3|h3
 ·exact h3
 ·have:=Nat.div_pos h3 hp;lia
def zg7(c:xv o)(h:nw o<4294967296^m):o.getD m 0=0:=by
 rw[ig c,xbc h]
def zmH{x y o c:K}(d:x<4294967296)(e:y<4294967296)(f:o<4294967296)(hc:c<4294967296):x*y+o+c<18446744073709551616:=by
 have:x*y<=4294967295*4294967295:=xbp W W;lia
def zb0{n:K}{o0:N K}(j:xv x)(l:xv y)(hi:i<X x)(hn:n=X x+X y)(w:n<=4294967296)(h0:xv o0)(p:X o0=n)(q:nw o0=nw (x.take i)*nw y)(hl:nw o0<4294967296^(i+X y))(A:X y<fu):
 zg (dR fu (i:J)) fu (x,y,0,0,o0)=Z (x,y,nw (x.take<|i+1)*nw y/4294967296^(i+X y),uM n<|nw (x.take<|i+1)*nw y%4294967296^(i+X y)):=by
 refine zt (λs:N K×N K×K×J×N K=>∃(c k:K) (o:N K),s=(x,y,c,(k:J),o)/\k<=X y/\c<4294967296/\xv o/\X o=n/\nw o<4294967296^(i+X y)/\nw o+4294967296^(i+k)*c=nw o0+4294967296^i*(x.getD i 0*nw (y.take k)))
  (λs=>X y-s.2.2.2.1.toNat) _ ?_ _ _ ⟨0,0,o0,O,W,W,h0,p,hl,by simp[nw]⟩ (by show X y-0<fu;lia)
 rintro s L ⟨c,k,o,rfl,B,hc,d,h,hd,f⟩ r;unfold dR;simp only;by_cases h1:k<X y
 ·have e:(i:J)+(k:J)=((i+k:K):J):=W
  have bx:=j.getD i;have g:=l.getD k;have t:=d.getD<|i+k;have C:=zmH bx g t hc;rw[zS,zo hi,Q,zo h1,Q,Q,e,zb,yc,Q,Q,Q,zb,Q,R4,yc,Q,Q,SZ,zb];have u:((x.getD i 0*y.getD k 0%18446744073709551616+o.getD (i+k) 0)%18446744073709551616+c)%18446744073709551616=x.getD i 0*y.getD k 0+o.getD (i+k) 0+c:=by
   generalize x.getD i 0*y.getD k 0=z at*
   lia
  rw[u];refine r _ ⟨_,k+1,_,O,W,?_,d.set _ (xaI _ YL),by rw[xbz,h],zkB d W (xaI _ YL) hd,zlz W f⟩ (by show X y-((k:J)+1).toNat<X y-(k:J).toNat;lia);generalize x.getD i 0*y.getD k 0+o.getD (i+k) 0+c=z at*
  lia
 ·rw[zA];obtain rfl:k=X y:=W
  rw[xcA,q]at f;have v:nw (x.take<|i+1)*nw y=nw (x.take i)*nw y+4294967296^i*(x.getD i 0*nw y):=by rw[u9,xaT,xbe]
  rw[<-v]at f;have hp:0<4294967296^(i+X y):=xaP YL;rw[<-f,xcu _ _ hp,xbc hd,xbY,xag hd,xaF];have:=lK d;rw[h]at this;rw[this]
def zhG(c:xv x)(k:K):nw (x.take k)<4294967296^k:=by
 rw[zd2 c];exact xaI _<|xaP YL
def FV(c:xv x)(d:xv y)(k:K):nw (x.take k)*nw y<4294967296^(k+X y):=by
 rw[xbq];exact xdA (zhG c k)<|KN d
def zgI{n:K}(c:xv x)(d:xv y)(hn:n=X x+X y)(h:n<=4294967296)(t:n<fu):
 zg (e9 fu x y) fu (0,uM n 0)=Z (uM n<|nw x*nw y):=by
 refine zt (λs:J×N K=>∃k:K,k<=X x/\s=((k:J),uM n<|nw (x.take k)*nw y)) (λs=>X x-s.1.toNat) _ ?_ _ _ ⟨0,W,by simp[nw]⟩ (by show X x-0<fu;lia);rintro s L ⟨k,u,rfl⟩ j;unfold e9;simp only;by_cases h1:k<X x
 ·have l:=FV c d k;have hc:=FV c d<|k+1;have hi:4294967296^(k+X y)<=4294967296^n:=xam YL W;have hv:nw (uM n<|nw (x.take k)*nw y)=nw (x.take k)*nw y:=by rw[VG,xag W]
  have e:(k:J)+(X y:J)=((k+X y:K):J):=W
  rw[zS,U<|zb0 (n:=n) c d h1 hn h (jU _ _) (xh _ _) hv (by rw[hv];exact l) W];simp only;rw[e,zb,zo (by rw[xh];lia),Q,zb];refine j _ ⟨k+1,W,?_⟩ (by show X x-((k:J)+1).toNat<X x-(k:J).toNat;lia);have p:nw (x.take<|k+1)*nw y/4294967296^(k+X y)<4294967296:=by
   rw[xaM<|xaP YL];rw[(W:k+1+X y=(k+X y)+1),xbi,xaH<|4294967296^(k+X y)]at hc;exact hc
  have hp:0<4294967296^(k+X y):=xaP YL;generalize nw (x.take<|k+1)*nw y=S at*
  have q:=xaI S hp;have f:nw (uM n<|S%4294967296^(k+X y))=S%4294967296^(k+X y):=by rw[VG,xag W]
  have r:=zg7 (jU n<|S%4294967296^(k+X y)) (m:=k+X y) (by rw[f];exact q);have g:=zdo (uM n<|S%4294967296^(k+X y)) (k+X y) (S/4294967296^(k+X y)) (by rw[xh];lia);rw[r,f,xcG,xbM,xef]at g;have hd:=lK<|(jU n<|S%4294967296^(k+X y)).set (k+X y) p;rw[g,xbz,xh]at hd;rw[hd];rfl
 ·rw[zA];obtain rfl:k=X x:=W
  rw[xcA]
def JO(h:zn a):X (Js<|nv a)<=2*X a:=by
 rw[vK,P7];exact q9 h
def si(c:zn a)(d:zn b)(hd:X a<=268435456)(j:X b<=268435456)(k:2*(X a+X b)+1<fu):
 Wm fu a b=Z (yN<|nv a*nv b):=by
 unfold Wm;have l1:=JO c;have l:=JO d;rw[U<|wj c,U<|wj d];have e1:nw (Js<|nv a)=nv a:=jM _;have h:nw (Js<|nv b)=nv b:=jM _;have f:=jr<|nv a;have g:=jr<|nv b;generalize Js (nv a)=x at*
 generalize Js (nv b)=y at*
 have e:X x+X y=((X x+X y:K):J):=W
 have hc:nv a*nv b<4294967296^(X x+X y):=by
  have:=FV f g (X x);simp_all
 rw[e,zb,yU,yM,Q,<-HH,U (zgI f g O W W),e1,h,U (uo (jU _ _) (by rw[xh];lia)<|by rw[xh];lia),VG,xag hc]
theorem mz(f:X a<=1099511627776)(g:X a<fu):K8 fu a b=Z (decide<|a=b):=by
 unfold K8;by_cases hl:X a=X b
 ·rw[zS,U (v:=if a=b then .inl ()else .inr ())]
  ·grind
  ·refine zt (λi:J=>∃k:K,i=(k:J)/\k<=X a/\a.take k=b.take k) (λi=>X a-i.toNat) _ ?_ _ _ ⟨0,O,W,O⟩ (by show X a-0<fu;lia);rintro i L ⟨k,rfl,j,c⟩ d;unfold pB;by_cases h1:k<X a
   ·rw[zS,zo h1,Q,yc,Q];by_cases e:a.getD k 0=b.getD k 0
    ·rw[zS,zb];refine d _ ⟨k+1,W,W,?_⟩ (by show X a-((k:J)+1).toNat<X a-(k:J).toNat;lia);rw[xeE,xeE,c,getD_some 0 h1,getD_some 0 (by lia:k<X b),e]
    ·grind
   ·rw[zA];obtain rfl:k=X a:=W
    rw[xcA,xaQ W]at c;rw[S c]
 ·rw[zA,wS<|λh=>hl<|by rw[h]]
end
section
variable{fu:zV}{a b:Zr}{x:zI}
def zv(z:G):J:=if z.1=I then-((nv z.2:K):J)else((nv z.2:K):J)
def yf(x:J):G:=(decide<|x<0,yN x.natAbs)
theorem zm(x:J):zv (yf x)=x:=by grind [yf,zv,ym]
def yx(x:J):zn (yf x).2:=zz _
theorem jT(z:G):(zv z).natAbs=nv z.2:=by unfold zv;split<;>omega
theorem zoR(s:ws)(n:K):(if s=I then if 0<((X (yN n):K):J)then Z (I,yN n)else Z (yL,yN n)else Z (yL,yN n))=Z (yf (if s=I then-(n:J)else(n:J))):=by grind [yf,zcT,qi]
theorem yW{s:ws}{a:N K}(h:zn a)(hl:X a<=17592186044416)(c:X a<fu):xw fu s a=Z (yf (if s=I then-((nv a:K):J)else((nv a:K):J))):=by
 unfold xw;rw[U<|QW h hl c];exact zoR s _
theorem Ko{z:G}(h:zn z.2)(hl:X z.2<=17592186044416)(c:X z.2<fu):xj fu z=Z (yf<|zv z):=by
 unfold xj;rw[U<|Kc h hl c];exact zoR z.1 _
def sS{z:G}(h:zn z.2)(hl:X z.2<=17592186044416)(c:X z.2<fu):ki fu z=Z (yf<|zv z):=by
 unfold ki;rw[U<|yW h hl c];rfl
theorem Pf(h0:0<=x)(h:x<18446744073709551616):((NY x:K):J)=x:=by unfold NY;omega
theorem pz{x:K}(h:x<18446744073709551616):zn [x]:=zn.cons h zn.nil
theorem Ph(x:K):nv [x]=x:=by simp[nv]
theorem lk(h:Um x)(c:1<fu:=by omega):yC fu x=Z (yf x):=by grind [yC,NY,Q,U,yW,pz,Ph]
theorem xX(h: -9223372036854775807<=x/\x<=9223372036854775807)(c:1<fu:=by omega):wg fu x=Z (yf x):=by grind [wg,zv,Pf,fT,Gv,Q,U,Ko,pz,Ph]
theorem zkt(a b:G):(if(!(a.1==b.1))=I then-((nv a.2*nv b.2:K):J)else((nv a.2*nv b.2:K):J))=zv a*zv b:=by grind [zv]
def Be(c:zn a.2)(d:zn b.2)(hc:X a.2<=1073741824)(hd:X b.2<=1073741824)(e:4*(X a.2+X b.2)+64<=fu):yi fu a b=Z (yf<|zv a*zv b):=by
 unfold yi;have hl:=Wg (xk c)<|xk d;rw[Q,U<|Uc c d hc hd e,U (yW (zz _) YD YD),ym,<-zkt]
def Og(c:zn a.2)(d:zn b.2)(hc:X a.2<=268435456)(hd:X b.2<=268435456)(e:2*(X a.2+X b.2)+1<fu):wk fu a b=Z (yf<|zv a*zv b):=by
 unfold wk;have hl:=Wg (xk c)<|xk d;rw[Q,U<|si c d hc hd e,U<|Ko (zz _) (by show(yN _).length<=_;omega) (by show(yN _).length<_;omega)];rw[<-zkt];show Z (yf (if _ then-((nv (yN _):K):J)else((nv (yN _):K):J)))=_;rw[ym]
def my(hl:X a.2<=1099511627776:=by omega)(c:X a.2<fu:=by omega):WV fu a b=Z (decide<|a=b):=by
 have⟨s,a⟩:=a;have⟨t,b⟩:=b;unfold WV;rw[Q];cases s<;>cases t
 ·simp only;rw[U<|mz hl c];simp
 ·simp
 ·simp
 ·simp only;rw[U<|mz hl c];simp
theorem zqR{a:J}{e b:K}(h:bl a.natAbs*e<=b*64):X (yN (a^e).natAbs)<=b+1:=by
 rw[zN,Int.natAbs_pow];have h1:a.natAbs^e<=(2^bl a.natAbs)^e:=Nat.pow_le_pow_left (xdp<|IB _) e;rw[<-xbT]at h1;have c:2^(bl a.natAbs*e)<=2^(64*b):=xam YL YD;rw[xbT 2 64 b]at c;grind
theorem zma(i:K)(h:i<=65536):ziI (i:J) 1=((i%2:K):J):=by grind [ziI,sgn,NY]
theorem zuI(i:K):xfF (i:J) (2^(min (((1:K):J)).toNat 64))=((i/2:K):J):=by grind
def zkz{n:K}{a:J}(hn:n<=65536)(l:bl a.natAbs*n<=262144)(r:65600<fu):
 zg (lu fu) fu ((n:J),yf a,yf 1)=Z (yf<|a^n):=by
 have hc:∀e,e<=n->X (yN (a^e).natAbs)<=4097:=λe g=>zqR (b:=4096)<|PX (xas _ g) l;refine zt (λs:J×G×G=>∃i d e:K,s=((i:J),yf<|a^d,yf<|a^e)/\e+d*i=n/\(0<i->d<=n)/\0<d) (λs=>s.1.toNat) _ ?_ _ _ ⟨n,1,0,by simp[xbo],YD,YD,YD⟩ (by show((n:J)).toNat<fu;omega);rintro s L ⟨i,d,e,rfl,g,hd,hi⟩ h;unfold lu;simp only;have c:∀p q,p<=n->q<=n->yi fu (yf<|a^p) (yf<|a^q)=Z (yf<|a^(p+q)):=by
  intro p q hp m;have h1:=hc p hp;have k:=hc q m;rw[Be (yx _) (yx _) (by show(yN _).length<=_;omega) (by show(yN _).length<=_;omega) (by show 4*(X (yN _)+X (yN _))+64<=fu;omega),zm,zm,Int.pow_add]
 by_cases h0:0<i
 ·have f:=hd h0;have t:i<=n:=by
   have:=xdj i hi;omega
  have j:d*i=d*(i/2)*2+d*(i%2):=by rw[xbe,<-xbV];congr 1;omega
  rw[zS,Q,zma i YD];by_cases h1:i%2=1
  ·rw[zS];rw[h1,xdl]at j;rw[U<|c e d YD f];by_cases k:1<i
   ·have o:d*1<=d*(i/2):=xas d YD;rw[zS,U<|c d d f f,Q,zuI];refine h _ ⟨i/2,d+d,e+d,O,?_,YD,YD⟩ (by show((i/2:K):J).toNat<(i:J).toNat;omega);rw[xaT];omega
   ·rw[zA,Q,zuI];refine h _ ⟨i/2,d,e+d,O,?_,YD,YD⟩ (by show((i/2:K):J).toNat<(i:J).toNat;omega);rw[(YD:i/2=0),xcG]at j⊢;omega
  ·rw[zA];rw[(YD:i%2=0),xcG,xbM]at j;by_cases k:1<i
   ·have o:d*1<=d*(i/2):=xas d YD;rw[zS,U<|c d d f f,Q,zuI];refine h _ ⟨i/2,d+d,e,O,?_,YD,YD⟩ (by show((i/2:K):J).toNat<(i:J).toNat;omega);rw[xaT];omega
   ·omega
 ·rw[zA];obtain rfl:i=0:=YD
  rw[xcG,xbM]at g;rw[g]
theorem zac{n:K}{z:G}(h:zn z.2)(hl:X z.2<=1000000)(hn:n<=65536)(d:1000100<fu):
 ia fu z (n:J)=Z (if 262144<bl (nv z.2)*n then((yL,[]),6)else(yf<|zv z^n,0)):=by
 unfold ia;have c:=zh1 h hl;have f:=xbp c hn;have e:((bl (nv z.2):K):J)*n=((bl (nv z.2)*n:K):J):=Xn
 rw[zA,zA,U O];simp only[xaj,wP];rw[U (Ja h YD YD),zb];by_cases h1:262144<bl (nv z.2)*n
 ·grind
 ·rw[zA,ir h1,U (lk YL YD),U (sS h YD YD),U<|zkz hn (by rw[jT];omega) YD]
end
section
variable{d fu:zV}{p:zI}
def kQ(p:K):Prop:=∀d,2<=d->d*d<=p->p%d≠0
open Classical in
noncomputable def wB(p:J):ws:=decide<|2<=p/\p<=65521/\kQ p.toNat
open Classical in
theorem zj7{p:J}(h:2<=p/\p<=65521/\kQ p.toNat):wB p=I:=by unfold wB;exact wU h
open Classical in
theorem O5{p:J}(h:¬(2<=p/\p<=65521/\kQ p.toNat)):wB p=yL:=by unfold wB;exact wS h
def MH(d:K):(d:J)*(d:J)=((d*d:K):J):=Xn
def zjL{p:K}(h:p<=65521)(hd:d<=300:=by lia):d*d<=90000:=PX (xbp hd hd) YL
def zjI{p:K}(h:p<=65521)(hd:d*d<=p):d<256:=by
 obtain h1|h1:=xbO d 256
 ·exact h1
 ·have:=xbp h1 h1;lia
def zhd{p:K}(h:p<=65521)(m:400<fu):(kQ p->zg (YR fu (p:J)) fu (I,2)=Z I)/\(¬kQ p->zg (YR fu (p:J)) fu (I,2)=Z yL):=by
 constructor
 ·intro hn;refine zt (λi:ws×J=>∃d:K,i=(I,(d:J))/\2<=d/\d<=256) (λi=>300-i.2.toNat) _ ?_ _ _ ⟨2,O,W,W⟩ (by show 300-2<fu;lia);rintro i L ⟨d,rfl,j,c⟩ f;unfold YR;simp only[wN];have k:=zjL h (d:=d);rw[MH,zb];by_cases a:d*d<=p
  ·have b:=hn d j a;have:=zjI h a;have e:xbn (p:J) (d:J)=((p%d:K):J):=O;rw[zS,yM,Q,e,zA,zb];exact f _ ⟨d+1,O,W,W⟩ (by show 300-((d:J)+1).toNat<300-(d:J).toNat;lia)
  ·rw[zA]
 ·intro hn;have⟨d0,g⟩:=xfx.1 hn;have⟨n,g⟩:=xff.1 g;have⟨a,b⟩:=xff.1 g;have b:p%d0=0:=Classical.not_not.1 b;have o:=zjI h a;refine zt (λi:ws×J=>∃d:K,i=(I,(d:J))/\2<=d/\d<=d0) (λi=>300-i.2.toNat) _ ?_ _ _ ⟨2,O,W,W⟩ (by show 300-2<fu;lia);rintro i L ⟨d,rfl,j,c⟩ f;unfold YR;simp only[wN];have k:=zjL h (d:=d);have hc:=xbp c c;rw[MH,zb];have e:xbn (p:J) (d:J)=((p%d:K):J):=O;rw[zS,yM,Q,e];by_cases l:p%d=0
  ·rw[zS]
  ·rw[zA,zb];refine f _ ⟨d+1,O,W,?_⟩ (by show 300-((d:J)+1).toNat<300-(d:J).toNat;lia);obtain h8|h8:=xbO d d0
   ·exact h8
   ·exact wl (by rw[(W:d=d0)];exact b) l
theorem znT{p:K}(h:p<=65521)(m:400<fu):(kQ p->zg (Vo fu (p:J)) fu 2=Z (.inl ()))/\(¬kQ p->zg (Vo fu (p:J)) fu 2=Z (.inr ())):=by
 constructor
 ·intro hn;refine zt (λi:J=>∃d:K,i=(d:J)/\2<=d/\d<=256) (λi=>300-i.toNat) _ ?_ _ _ ⟨2,O,W,W⟩ (by show 300-2<fu;lia);rintro i L ⟨d,rfl,j,c⟩ f;unfold Vo;have k:=zjL h (d:=d);rw[MH,zb];by_cases a:d*d<=p
  ·have b:=hn d j a;have:=zjI h a;have e:xbn (p:J) (d:J)=((p%d:K):J):=O;rw[zS,yM,Q,e,zA,zb];exact f _ ⟨d+1,W,W,W⟩ (by show 300-((d:J)+1).toNat<300-(d:J).toNat;lia)
  ·grind
 ·intro hn;have⟨d0,g⟩:=xfx.1 hn;have⟨n,g⟩:=xff.1 g;have⟨a,b⟩:=xff.1 g;have b:p%d0=0:=Classical.not_not.1 b;have o:=zjI h a;refine zt (λi:J=>∃d:K,i=(d:J)/\2<=d/\d<=d0) (λi=>300-i.toNat) _ ?_ _ _ ⟨2,O,W,W⟩ (by show 300-2<fu;lia);rintro i L ⟨d,rfl,j,c⟩ f;unfold Vo;have k:=zjL h (d:=d);have hc:=xbp c c;rw[MH,zb];have e:xbn (p:J) (d:J)=((p%d:K):J):=O;rw[zS,yM,Q,e];by_cases l:p%d=0
  ·rw[zS]
  ·rw[zA,zb];refine f _ ⟨d+1,W,W,?_⟩ (by show 300-((d:J)+1).toNat<300-(d:J).toNat;lia);obtain h8|h8:=xbO d d0
   ·exact h8
   ·exact wl (by rw[(W:d=d0)];exact b) l
theorem Jj(f:400<fu):ZY fu p=Z (wB p):=by
 unfold ZY;have e:zg (YR fu p) fu (yL,2)=Z yL:=by
  obtain⟨k,rfl⟩:∃k,fu=k+1:=⟨fu-1,W⟩;rfl
 by_cases a:2<=p
 ·rw[S a];by_cases b:p<=65521
  ·rw[S b,U O];obtain⟨q,rfl⟩:=xat (by lia:0<=p);have⟨l1,g⟩:=zhd (p:=q) W f;by_cases c:kQ q
   ·rw[U<|l1 c,zj7 ⟨a,b,c⟩]
   ·rw[U<|g c,O5 (p:=q)<|λh=>c h.2.2]
  ·rw[ir b,U O,U e];rw[O5<|λh=>b h.2.1]
 ·rw[ir a,U O,U e];rw[O5<|λh=>a h.1]
theorem eh(a:400<fu):Qp fu p=Z (wB p):=by grind [Qp,O5,znT,U,zj7]
noncomputable def En(p k:J):G×J:=if wB p=I/\1<=k/\k<=1000 then(yf<|p^k.toNat,0)else((yL,[]),1)
def zp(h:wB p=I):2<=p/\p<=65521:=by
 refine xac λhn=> ?_;rw[O5<|λh=>hn ⟨h.1,h.2.1⟩]at h;cases h
def zuZ(h:wB p=I):bl (nv (yf p).2)<=16:=by
 have:=zp h;refine ah ?_;show nv (yN p.natAbs)<_;rw[ym];lia
def zrD{x:J}(h:x.natAbs<18446744073709551616):(yf x).2.length<=1:=by
 show(yN _).length<=1;rw[zN];lia
theorem ZH{k:J}(c:3000000<fu):jy fu p k=Z (En p k):=by
 unfold jy En;rw[U<|Jj W];by_cases h1:wB p=I
 ·have e:=zp h1;rw[ir<|by simp[h1]];by_cases a:k<1
  ·grind
  ·rw[ir a];by_cases b:1000<k
   ·simp_all
   ·obtain⟨n,rfl⟩:=xat (by lia:0<=k);have hl:=zrD (x:=p) W;have f:bl (nv (yf p).2)*n<=16*1000:=xbp (zuZ h1) W;rw[ir b,Zc ⟨h1,W,W⟩,U<|lk ⟨W,W⟩,U (zac (yx p) W W W),zA,zm];rfl
 ·simp_all
end
section
variable{fu k j:zV}{a b:Zr}{x y:zI}
theorem n5{a b:J}:ZG fu a b=Z (ke a b):=by grind [ZG,XL,U,qN,qu,ua]
theorem gF{a b:K}:jZ fu a b=Z (ke a b):=by grind [jZ,uR,U,qN,qu,ua]
theorem iY{a b:N K}(f:zn a)(g:zn b)(n:X a<=1000000:=by lia)(o:X b<=1000000:=by lia)(p:2000000<fu:=by lia):UM fu a b=Z (ke (nv a:K) (nv b:K)):=by
 unfold UM;have h1:=xk f;have q:=xk g;rw[U (wx f W W),U<|wx g W W];generalize nv a=x at*
 generalize nv b=y at*
 by_cases h:X (yN x)=X (yN y)
 ·rw[zS,zb];by_cases hc:x=y
  ·subst hc;rw[U (v:=.inl ())]
   ·rw[ua O]
   ·refine zt (λi:J=>∃m:K,i=(m:J)-1/\m<=X (yN x)) (λi=>(i+1).toNat) _ ?_ _ _ ⟨_,O,eZ _⟩ W;rintro i L ⟨m,rfl,l⟩ d;unfold sJ;by_cases h0:m=0
    ·rw[zA]
    ·have e:(m:J)-1=((m-1:K):J):=W
     rw[zS,e,yc,Q,yc,Q,S O,zb];exact d _ ⟨m-1,O,W⟩ W
  ·rw[U (v:=.inr<|ke x y)];refine zt (λi:J=>∃m:K,i=(m:J)-1/\m<=X (yN x)/\x/18446744073709551616^m=y/18446744073709551616^m) (λi=>(i+1).toNat) _ ?_ _ _ ⟨_,O,eZ _,zmy h⟩ W;rintro i L ⟨m,rfl,l,c⟩ d;unfold sJ;by_cases h0:m=0
   ·subst h0;rw[xeA,xdz,xdz]at c;exact wl c hc
   ·have e:(m:J)-1=((m-1:K):J):=W
    rw[zS,e,yc,Q,yc,Q];by_cases hd:(yN x).getD (m-1) 0=(yN y).getD (m-1) 0
    ·rw[S (by rw[hd]),zb];exact d _ ⟨m-1,O,W,zop W c hd⟩ W
    ·rw[zA,yc,Q,yc,Q,U gF,zk8 W c hd]
 ·rw[zA,U n5,zq7 h]
def iw(z:G):Prop:=zn z.2/\X z.2<=100000
def Bz(k:K)(x:J):Prop:=x.natAbs<18446744073709551616^k
def Bz.ok(h:Bz k x)(c:k<=100000):iw (yf x):=⟨yx x,PX ((zN _ _).2 h) c⟩
theorem Bz.of{z:G}(h:zn z.2):Bz (X z.2) (zv z):=by grind [Bz,jT,q9]
def Bz.mono(h:Bz j x)(c:j<=k):Bz k x:=xah h<|xam YL c
def iw.bz{z:G}(h:iw z):Bz 100000 (zv z):=(Bz.of h.1).mono h.2
theorem Bz.neg(h:Bz k x):Bz k (-x):=by unfold Bz at*;rw[Int.natAbs_neg];exact h
theorem Bz.add(c:Bz k x)(d:Bz k y):Bz (k+1) (x+y):=by grind [Bz]
theorem Bz.sub(c:Bz k x)(d:Bz k y):Bz (k+1) (x-y):=by grind [Bz.add,Bz.neg]
def Bz.mul(c:Bz j x)(d:Bz k y):Bz (j+k) (x*y):=by unfold Bz at*;rw[xcK,xbq];exact xdA c d
def Bz.le(c:Bz k y)(h:x.natAbs<=y.natAbs):Bz k x:=xaG h c
theorem wv(z:G):(z.1=I/\zv z= -((nv z.2:K):J))\/(z.1=yL/\zv z=((nv z.2:K):J)):=by grind [zv]
theorem XH{z:G}(h:iw z)(c:3000000<=fu):ki fu z=Z (yf<|zv z):=sS h.1 (by have:=h.2;lia) (by have:=h.2;lia)
def Ba{z:G}(h:iw z)(d:3000000<=fu):XR fu z=Z (yf (-zv z)):=by
 unfold XR;have:=h.2;rw[U<|yW h.1 W W];rcases wv z with⟨h1,c⟩|⟨h1,c⟩<;>rw[h1,c]<;>simp
theorem ku(e:iw a)(f:iw b)(o:3000000<=fu):jm fu a b=Z (yf<|zv a+zv b):=by
 unfold jm;have l:=e.2;have m:=f.2;have p:X (yN<|nv a.2+nv b.2)<=100001:=Ym (PX (xk e.1) l)<|PX (xk f.1) m;rw[Q];by_cases i:a.1=b.1
 ·rw[S (by simp[i]),U<|YW e.1 f.1,U (yW (zz _) W W),ym];rcases wv a with⟨h1,c⟩|⟨h1,c⟩<;>rcases wv b with⟨g,d⟩|⟨g,d⟩
  ·grind
  ·simp_all
  ·rw[h1,g]at i;cases i
  ·rw[h1,c,d,ir YL];congr 2
 ·rw[ir<|by simp[i]];rw[U<|iY e.1 f.1];by_cases hc:nv a.2<nv b.2
  ·have hd:X (yN<|nv b.2-nv a.2)<=100000:=PX (a7<|xeN _ _)<|PX (xk f.1) m;rw[qN W,S YL,U O];simp only;rw[U (Uo f.1 e.1 W W W),zA];simp only;rw[U (yW (zz _) W W),ym];rcases wv a with⟨h1,c⟩|⟨h1,c⟩<;>rcases wv b with⟨g,d⟩|⟨g,d⟩<;>rw[g,c,d]<;>simp_all
   ·congr 1;lia
   ·congr 1;lia
  ·have hd:X (yN<|nv a.2-nv b.2)<=100000:=PX (a7<|xeN _ _)<|PX (xk e.1) l;have n:¬ke ((nv a.2:K):J) ((nv b.2:K):J)<0:=by
    rcases xbO (nv b.2) (nv a.2)with h|h
    ·rw[qu W];decide
    ·rw[ua W];decide
   rw[ir n,U O];simp only;rw[U (Uo e.1 f.1 W W W),zA];simp only;rw[U (yW (zz _) W W),ym];rcases wv a with⟨h1,c⟩|⟨h1,c⟩<;>rcases wv b with⟨g,d⟩|⟨g,d⟩<;>rw[h1,c,d]<;>simp_all
   ·congr 1;lia
   ·congr 1;lia
def kF(e:iw a)(c:iw b)(d:3000000<=fu):kt fu a b=Z (yf<|zv a-zv b):=by
 unfold kt;have h1:=(Bz.neg c.bz).ok<|eZ _;rw[U<|Ba c d,U<|ku e h1 d,zm];congr 2
theorem tW:0<(((yf x).2.length:K):J)↔x≠0:=by grind [yf,zcT,qi]
theorem K6(x:J):(yf x).1=I↔x<0:=by unfold yf;simp
theorem xM{z:G}(h:iw z)(c:3000000<=fu):wo fu z=Z (ke (zv z) 0):=by grind [wo,U,XH,K6,fT,qN,tW,ua,qu]
theorem zgL(x y:J):ke (x-y) 0=ke x y:=by grind [qN,ua,qu]
def Xl(c:iw a)(d:iw b)(e:3000000<=fu)(hl:X a.2<=99999:=by lia)(hc:X b.2<=99999:=by lia):uU fu a b=Z (ke (zv a)<|zv b):=by
 unfold uU;have h1:=((Bz.of c.1).mono hl).sub<|(Bz.of d.1).mono hc;rw[U<|kF c d e,U<|xM (h1.ok<|eZ _) e,zm,zgL]
def yK(c:iw a)(d:iw b)(e:3000000<=fu):yi fu a b=Z (yf<|zv a*zv b):=by
 have:=c.2;have:=d.2;exact Be c.1 d.1 W W W
def yE(h:Um x)(c:3000000<=fu):yC fu x=Z (yf x):=lk h
end
section
variable{fu k B i:zV}{a x y t:zC zV}{b:Zr}
theorem xY:ju fu a (k:J)=Z (a.getD k 0):=by grind [ju,zo,Q]
def zjp{x y:K}(d:0<B)(h:x/B^(k+1)=y/B^(k+1))(hd:x/B^k%B<y/B^k%B):x<y:=by
 have h1:=aj x B k d;have f:=aj y B k d;rw[h]at h1;refine xcT λe=> ?_;have:=Nat.div_le_div_right (c:=B^k) e;omega
theorem zq5{x y:K}(c:0<B)(h:x/B^(k+1)=y/B^(k+1))(hd:x/B^k%B=y/B^k%B):x/B^k=y/B^k:=by grind [aj]
theorem bj{b:N K}(h:xv a)(j:xv b)(n:X a<=1000000)(o:X b<=1000000)(p:2000000<fu):Zh fu a b=Z (ke (nw a:K) (nw b:K)):=by
 unfold Zh;have e1:max (X a:J) (X b:J)=((max (X a) (X b):K):J):=YD
 rw[Q,e1,zb];have t0:nw a/4294967296^(max (X a) (X b))=nw b/4294967296^(max (X a) (X b)):=by
  have h1:nw a<4294967296^(max (X a) (X b)):=xah (KN h)<|xam YL<|xdP _ _;have d:nw b<4294967296^(max (X a) (X b)):=xah (KN j)<|xam YL<|xdB _ _;rw[xbc h1,xbc d]
 have g1:∀k,a.getD k 0=nw a/4294967296^k%4294967296:=ig h;have c:∀k,b.getD k 0=nw b/4294967296^k%4294967296:=ig j;by_cases hc:nw a=nw b
 ·rw[U (v:=.inl ())]
  ·rw[hc,ua O]
  ·refine zt (λi:J=>∃m:K,i=(m:J)-1/\m<=max (X a) (X b)) (λi=>(i+1).toNat) _ ?_ _ _ ⟨_,O,eZ _⟩ YD;rintro i L ⟨m,rfl,l⟩ f;unfold VC;by_cases h0:m=0
   ·rw[zA]
   ·have e:(m:J)-1=((m-1:K):J):=YD
    rw[zS,e,U xY,U xY,g1,c,hc,zA,U xY,U xY,g1,c,hc,zA,zb];exact f _ ⟨m-1,O,YD⟩ YD
 ·rw[U (v:=.inr<|ke (nw a:K) (nw b:K))];refine zt (λi:J=>∃m:K,i=(m:J)-1/\m<=max (X a) (X b)/\nw a/4294967296^m=nw b/4294967296^m) (λi=>(i+1).toNat) _ ?_ _ _ ⟨_,O,eZ _,t0⟩ YD;rintro i L ⟨m,rfl,l,g⟩ f;unfold VC;by_cases h0:m=0
  ·subst h0;rw[xeA,xdz,xdz]at g;exact wl g hc
  ·have e:(m:J)-1=((m-1:K):J):=YD
   have hd:nw a/4294967296^(m-1+1)=nw b/4294967296^(m-1+1):=by rw[(YD:m-1+1=m)];exact g
   rw[zS,e,U xY,U xY];by_cases h1:a.getD (m-1) 0<b.getD (m-1) 0
   ·rw[zS,qN];rw[g1,c]at h1;have:=zjp YL hd h1;omega
   ·rw[zA,U xY,U xY];by_cases d:b.getD (m-1) 0<a.getD (m-1) 0
    ·rw[zS,qu];rw[g1,c]at d;have:=zjp YL hd.symm d;omega
    ·rw[zA,zb];refine f _ ⟨m-1,O,YD,zq5 YL hd ?_⟩ YD;rw[<-g1,<-c];omega
theorem zcg{c:K}(d:X t=i)(h:nw t+4294967296^i*c=nw (x.take i)+nw (y.take i)):
 nw (t++[(x.getD i 0+y.getD i 0+c)%4294967296])+4294967296^(i+1)*((x.getD i 0+y.getD i 0+c)/4294967296)=nw (x.take<|i+1)+nw (y.take<|i+1):=by grind [Nq,u9,xbj]
theorem ou{b:N K}(e:zn a)(f:zn b)(r:X a<=200000)(u:X b<=200000)(w:2000000<fu):Jt fu a b=Z (yN<|nv a+nv b):=by
 unfold Jt;rw[U (wj e YD YD),U<|wj f YD YD];have l1:=JO e;have z:=JO f;have g:=jr<|nv a;have j:=jr<|nv b;have v1:=jM<|nv a;have m:=jM<|nv b;generalize Js (nv a)=x at*
 generalize Js (nv b)=y at*
 have⟨n,hn⟩:∃n,n=max (X x) (X y)+1:=⟨_,O⟩;have hd:nw x+nw y<4294967296^n:=by
  have h1:nw x<4294967296^(max (X x) (X y)):=xah (KN g)<|xam YL<|xdP _ _;have A:nw y<4294967296^(max (X x) (X y)):=xah (KN j)<|xam YL<|xdB _ _;rw[hn,xbi];omega
 rw[U (v:=uM n<|nw x+nw y)]
 ·rw[U (uo (jU _ _) (by rw[xh];omega)<|by rw[xh];omega),VG,xag hd,v1,m]
 ·refine zt (λs:N K×K×J=>∃(t:N K) (c i:K),s=(t,c,(i:J))/\i<=n/\X t=i/\xv t/\c<=1/\nw t+4294967296^i*c=nw (x.take i)+nw (y.take i)) (λs=>n-s.2.2.toNat) _ ?_ _ _ ⟨[],0,0,O,YD,O,xv.nil,YD,by simp[nw]⟩ (by show n-0<fu;omega);rintro s L ⟨t,c,i,rfl,hi,d,l,hc,hv⟩ o;unfold BA;simp only;have e1:max (X x:J) (X y:J)=((max (X x) (X y):K):J):=YD
  rw[Q,e1,zb];by_cases h1:i<n
  ·have b1:=g.getD i;have b2:=j.getD i;have p:((x.getD i 0+y.getD i 0)%18446744073709551616+c)%18446744073709551616=x.getD i 0+y.getD i 0+c:=YD
   rw[zS,U xY,U xY,Q,Q,Q,R4,p,xi (by simp[d];omega),Q,Q,SZ,zb];refine o _ ⟨_,_,i+1,O,YD,by simp[d],l.append<|xv.cons (xaI _ YL) xv.nil,YD,zcg d hv⟩ (by show n-((i:J)+1).toNat<n-(i:J).toNat;omega)
  ·rw[zA];obtain rfl:i=n:=YD
   rw[xaQ YD,xaQ YD]at hv;have hp:0<4294967296^i:=xaP YL;have q:c=0:=by
    obtain h|h:=xcb c
    ·exact h
    ·have:4294967296^i*1<=4294967296^i*c:=xas _ h;omega
   subst q;rw[xcG,xbM]at hv;rw[<-hv,<-d,lK l]
theorem TN{b D:K}(c:X t=i)(d:D+y.getD i 0+b=x.getD i 0+4294967296)(h:nw t+nw (y.take i)=nw (x.take i)+4294967296^i*b)(e:D<8589934592):
 nw (t++[D%4294967296])+nw (y.take<|i+1)=nw (x.take<|i+1)+4294967296^(i+1)*(1-D/4294967296):=by
 rw[Nq,c,u9,u9,xbi];have hd:D/4294967296=0\/D/4294967296=1:=YD
 have e1:4294967296^i*(D%4294967296)+4294967296^i*y.getD i 0+4294967296^i*b+4294967296^i*4294967296*(D/4294967296)=4294967296^i*x.getD i 0+4294967296^i*4294967296:=by
  rw[xbe,<-xbV,<-xbV,<-xbV,<-xbV];grind
 grind
def mH(f:xv x)(g:xv y)(hl:X x<=1000000)(r:2000000<fu)(h:nw y<=nw x):Va fu x y=Z (Js<|nw x-nw y):=by
 unfold Va;have u:=KN f;have j:nw (y.take (X x))=nw y:=by rw[zd2 g,xag YD]
 have d:∃t,xv t/\X t=X x/\nw t=nw x-nw y/\zg (bn fu x y) fu ([],0,0)=Z t:=by
  refine⟨uM (X x)<|nw x-nw y,jU _ _,xh _ _,by rw[VG,xag YD],?_⟩;refine zt (λs:N K×K×J=>∃(t:N K) (b i:K),s=(t,b,(i:J))/\i<=X x/\X t=i/\xv t/\b<=1/\nw t+nw (y.take i)=nw (x.take i)+4294967296^i*b) (λs=>X x-s.2.2.toNat) _ ?_ _ _ ⟨[],0,0,O,YD,O,xv.nil,YD,by simp[nw]⟩ (by show X x-0<fu;omega);rintro s L ⟨t,b,i,rfl,hi,c,e,v,hv⟩ l;unfold bn;simp only;by_cases h1:i<X x
  ·have b1:=f.getD i;have b2:=g.getD i;have⟨D,hd⟩:∃D,D=x.getD i 0+4294967296-y.getD i 0-b:=⟨_,O⟩;have m:(((x.getD i 0+4294967296)%18446744073709551616+18446744073709551616-y.getD i 0)%18446744073709551616+18446744073709551616-b)%18446744073709551616=D:=YD
   have n:(1+18446744073709551616-D/2^32)%18446744073709551616=1-D/4294967296:=YD
   rw[zS,U xY,Q,U xY,Q,Q,Q,R4,m,xi (by simp[c];omega),Q,Q,SZ,Q,n,zb];exact l _ ⟨_,_,i+1,O,YD,by simp[c],e.append<|xv.cons (xaI _ YL) xv.nil,YD,TN c YD hv YD⟩ (by show X x-((i:J)+1).toNat<X x-(i:J).toNat;omega)
  ·rw[zA];obtain rfl:i=X x:=YD
   rw[j,xcA]at hv;have o:=KN e;rw[c]at o;have hc:b=0:=by
    obtain h|h:=xcb b
    ·exact h
    ·have:4294967296^X x*1<=4294967296^X x*b:=xas _ h;omega
   subst hc;rw[xcG,xbM]at hv;rw[(YD:nw x-nw y=nw t),<-c,lK e]
 have⟨t,k1,k2,p,q⟩:=d;rw[U q,U (ai k1 YD YD),p]
def ae{b:N K}(c:zn a)(d:zn b)(hd:X a<=200000)(j:X b<=200000)(e:2000000<fu):
 X6 fu a b=Z (if nv a<nv b then([],1)else(yN<|nv a-nv b,0)):=by
 unfold X6;rw[U (wj c YD YD),U<|wj d YD YD];have l1:=JO c;have l:=JO d;have f:=jr<|nv a;have g:=jr<|nv b;rw[U<|bj f g YD YD e,jM,jM];by_cases h:nv a<nv b
 ·rw[qN YD,S YL,S h]
 ·have hc:¬ke ((nv a:K):J) ((nv b:K):J)<0:=by
   rcases xbO (nv b) (nv a)with h|h
   ·rw[qu YD];decide
   ·rw[ua YD];decide
  have m:X (Js<|nv a-nv b)<=2*X a:=by
   rw[vK,P7];exact xaG (xeN _ _)<|q9 c
  rw[ir hc,ir h,U (mH f g YD e<|by rw[jM,jM];omega),jM,jM,U (uo (jr _) YD YD),jM]
def y6{z:G}(h:zn z.2)(hl:X z.2<=200000)(c:3000000<=fu):xj fu z=Z (yf<|zv z):=Ko h YD YD
def RY(s:ws)(n:K):zv (s,yN n)=if s=I then-(n:J)else(n:J):=by unfold zv;rw[ym]
def rk{z:G}(h:iw z)(c:3000000<=fu):J2 fu z=Z (yf (-zv z)):=by
 unfold J2;have:=h.2;rw[U<|y6 (z:=(!z.1,z.2)) h.1 (by show X z.2<=_;omega) c];rcases wv z with⟨h1,d⟩|⟨h1,d⟩
 ·skip;unfold zv;simp[h1]
 ·skip;unfold zv;simp[h1]
theorem qp{a:G}(g:iw a)(h:iw b)(j:3000000<=fu):vj fu a b=Z (yf<|zv a+zv b):=by
 unfold vj;have l:=g.2;have m:=h.2;have n:X (yN<|nv a.2+nv b.2)<=100001:=Ym (PX (xk g.1) l)<|PX (xk h.1) m;rw[Q];by_cases d:a.1=b.1
 ·rw[S (by simp[d]),U (ou g.1 h.1 YD YD YD),U<|y6 (z:=(a.1,yN<|nv a.2+nv b.2)) (zz _) (by show(yN _).length<=_;omega) j,RY];rcases wv a with⟨h1,e⟩|⟨h1,e⟩<;>rcases wv b with⟨c,f⟩|⟨c,f⟩
  ·grind
  ·simp_all
  ·simp_all
  ·rw[h1,e,f,ir YL];congr 2
 ·rw[ir (by simp[d]),U<|ae g.1 h.1 YD YD YD];by_cases hc:nv a.2<nv b.2
  ·have hd:X (yN<|nv b.2-nv a.2)<=100000:=PX (a7<|xeN _ _)<|PX (xk h.1) m;rw[S hc];simp only;rw[ir YL,U (ae h.1 g.1 YD YD YD),zA];simp only;rw[U<|y6 (z:=(b.1,yN<|nv b.2-nv a.2)) (zz _) (by show(yN _).length<=_;omega) j,RY];rcases wv a with⟨h1,e⟩|⟨h1,e⟩<;>rcases wv b with⟨c,f⟩|⟨c,f⟩
   ·rw[h1,c]at d;exact wl O d
   ·rw[c,e,f,ir YL];congr 2;omega
   ·rw[c,e,f,S O];congr 2;omega
   ·rw[h1,c]at d;exact wl O d
  ·have hd:X (yN<|nv a.2-nv b.2)<=100000:=PX (a7<|xeN _ _)<|PX (xk g.1) l;rw[ir hc];simp only;rw[S xS,U<|y6 (z:=(a.1,yN<|nv a.2-nv b.2)) (zz _) (by show(yN _).length<=_;omega) j,RY];rcases wv a with⟨h1,e⟩|⟨h1,e⟩<;>rcases wv b with⟨c,f⟩|⟨c,f⟩
   ·rw[h1,c]at d;exact wl O d
   ·rw[h1,e,f,S O];congr 2;omega
   ·rw[h1,e,f,ir YL];congr 2;omega
   ·rw[h1,c]at d;exact wl O d
def O0{a:G}(e:iw a)(c:iw b)(d:3000000<=fu):cM fu a b=Z (yf<|zv a-zv b):=by
 unfold cM;have h1:=(Bz.neg c.bz).ok<|eZ _;rw[U<|rk c d,U<|qp e h1 d,zm];congr 2
theorem qx{z:G}(h:iw z)(d:3000000<=fu):qe fu z=Z (ke (zv z) 0):=by
 unfold qe;have:=h.2;rw[U<|y6 h.1 YD d];by_cases h1:zv z<0
 ·rw[S<|(K6 _).2 h1,qN h1]
 ·rw[ir<|λe=>h1<|(K6 _).1 e];by_cases c:zv z=0
  ·rw[ir<|λe=>tW.1 e c,ua c]
  ·rw[S<|tW.2 c,qu YD]
def aW{a:G}(c:iw a)(d:iw b)(e:3000000<=fu)(hl:X a.2<=99999)(hc:X b.2<=99999):Yf fu a b=Z (ke (zv a)<|zv b):=by
 unfold Yf;have h1:=((Bz.of c.1).mono hl).sub<|(Bz.of d.1).mono hc;rw[U<|O0 c d e,U<|qx (h1.ok<|eZ _) e,zm,zgL]
def xV{a:G}(c:iw a)(d:iw b)(e:3000000<=fu:=by omega):wk fu a b=Z (yf<|zv a*zv b):=by
 have:=c.2;have:=d.2;exact Og c.1 d.1 YD YD YD
end
section
variable{b v1 v0 u w q r fu x y s lo:zV}
theorem znZ(a:q*v1+r=u)(h:q*v0<=b*r+w):q*(v1*b+v0)<=u*b+w:=by grind [xbV,xbe,xaT,xaH]
theorem zkO(a:q*v1+r=u)(h:b*r+w<q*v0):u*b+w<q*(v1*b+v0):=by grind [xbV,xbe,xaT,xaH]
def H2(hv:0<v1*b+v0)(a:q*v1+r=u)(c:(u*b+w)/(v1*b+v0)<=q:=by lia)(h:q*v0<=b*r+w:=by lia):q=(u*b+w)/(v1*b+v0):=
 xcH ((xcn hv).2<|znZ a h) c
theorem zmQ(hv:0<v1*b+v0)(a:q*v1+r=u)(h:b*r+w<q*v0):(u*b+w)/(v1*b+v0)<=q-1/\0<q/\(q-1)*v1+(r+v1)=u:=by
 have h0:0<q:=by
  obtain h0|h0:=xcb q
  ·simp_all
  ·exact h0
 have h1:=(xaM hv).2<|zkO a h;obtain⟨p,rfl⟩:∃p,q=p+1:=⟨q-1,W⟩;grind
theorem ziN(a:u<v1*b+v0)(c:v0<b)(d:q*v1+r=u)(e:b<=r):q<b:=by
 refine xcT λh=> ?_;have:b*v1<=q*v1:=xaf _ h;grind
def zie(a:q<b)(c:v0<b)(d:b<=r):q*v0<=b*r+w:=by
 have h1:=xbp (xdp a)<|xdp c;have e:b*b<=b*r:=xas _ d;lia
theorem lQ(a:u<v1*b+v0)(c:w<b:=by lia):(u*b+w)/(v1*b+v0)<b:=by
 have hv:0<v1*b+v0:=W
 rw[xaM hv];have:(u+1)*b<=(v1*b+v0)*b:=xaf _ a;grind
def NK{β:Type}(mk:K->K->β)(ms:β->K)(hc:∀q r,ms (mk q r)=2-r/2147483648){f:(β->V K)->β->V K}(h1:2147483648<=v1)(C:v1<4294967296)(h0:v0<4294967296)(g:u<v1*4294967296+v0)(m:w<4294967296)(D:10<fu)(n:∀(q r:K) (L:β->V K),q<18446744073709551616->r<4294967296->q*v0<18446744073709551616\/4294967296<=q->
 f L (mk q r)=if 4294967296<=q then(if 4294967296<=r+v1 then Z (q-1)else L (mk (q-1)<|r+v1))else if 4294967296*r+w<q*v0 then(if 4294967296<=r+v1 then Z (q-1)else L (mk (q-1)<|r+v1))else Z q):
 zg f fu (mk (u/v1)<|u%v1)=Z ((u*4294967296+w)/(v1*4294967296+v0)):=by
 have hv:0<v1*4294967296+v0:=W
 have E:=lQ g m;have hi:u/v1<18446744073709551616:=by
  rw[xaM W];lia
 refine zt (λs:β=>∃q r,s=mk q r/\q<18446744073709551616/\r<4294967296/\q*v1+r=u/\(u*4294967296+w)/(v1*4294967296+v0)<=q) ms _ ?_ _ _ ⟨_,_,O,hi,?_,?_,?_⟩<|by rw[hc];lia
 ·rintro s L ⟨q,r,rfl,o,t,i,v⟩ k;have z:q*v0<18446744073709551616\/4294967296<=q:=by
   obtain h|h:=xbO q 4294967296
   ·left;exact xdA (a:=q) (b:=v0) (c:=4294967296) (d:=4294967296) h h0
   ·exact .inr h
  rw[n q r L o t z];by_cases l:4294967296<=q
  ·rw[S l];have hd:(q-1)*v1+(r+v1)=u:=by
    obtain⟨p,rfl⟩:∃p,q=p+1:=⟨q-1,W⟩;rw[xaT]at i;simp only[xdv];lia
   by_cases e:4294967296<=r+v1
   ·rw[S e,<-H2 hv hd W<|zie (ziN g h0 hd e) h0 e]
   ·rw[ir e];exact k _ ⟨_,_,O,W,W,hd,W⟩<|by rw[hc,hc];lia
  ·rw[ir l];by_cases j:4294967296*r+w<q*v0
   ·have⟨d1,d2,d3⟩:=zmQ hv i j;rw[S j];by_cases e:4294967296<=r+v1
    ·rw[S e,<-H2 hv d3 d1<|zie (ziN g h0 d3 e) h0 e]
    ·rw[ir e];exact k _ ⟨_,_,O,W,W,d3,d1⟩<|by rw[hc,hc];lia
   ·rw[ir j,<-H2 hv i v]
 ·have:=xaI u (W:0<v1);lia
 ·rw[xaH];exact xbj u v1
 ·rw[xcn W];have B:(u*4294967296+w)/(v1*4294967296+v0)*(v1*4294967296+v0)<=u*4294967296+w:=xcI _ _;generalize(u*4294967296+w)/(v1*4294967296+v0)=Q at*
  rw[xbV,<-xbe]at B;generalize Q*v1=A at*
  lia
theorem zdI(h:y<2^s):x*2^s|||y=x*2^s+y:=by grind [xaH,Nat.two_pow_add_eq_or_of_lt]
def zep(h0:0<y)(h:y<18446744073709551616):bl y<=64/\9223372036854775808<=y*2^(64-bl y)/\y*2^(64-bl y)<18446744073709551616:=by
 have h1:=ah (k:=64) (by simpa using h);have a:=IB y;refine⟨h1,?_,?_⟩
 ·have hp:1<=bl y:=by rw[iB h0];lia
  have c:2^(bl y-1)<=y:=by
   refine xbl λd=> ?_;have:=ah d;lia
  have e:9223372036854775808=2^(bl y-1)*2^(64-bl y):=by rw[<-xbq,(W:bl y-1+(64-bl y)=63)]
  rw[e];exact xaf _ c
 ·have e:18446744073709551616=2^bl y*2^(64-bl y):=by rw[<-xbq,(W:bl y+(64-bl y)=64)]
  rw[e];exact xbP a<|xaP YL
def ze7(a:lo<18446744073709551616)(c:s<=64):lo*2^s=lo/2^(64-s)*18446744073709551616+lo*2^s%18446744073709551616/\lo/2^(64-s)<2^s:=by
 have e:18446744073709551616=2^(64-s)*2^s:=by rw[<-xbq,(W:64-s+s=64)]
 have hp:0<2^s:=xaP YL;have d:lo*2^s/18446744073709551616=lo/2^(64-s):=by rw[e,xfo _ _ hp]
 refine⟨W,?_⟩;rw[xaM (xaP YL),xaH,<-e];exact a
theorem CJ{w1 w0:K}(a:0<y)(c:0<b)(d:w0<b):((x*b+w1)*b+w0)/y=(x*b+w1)/y*b+((x*b+w1)%y*b+w0)/y/\((x*b+w1)*b+w0)%y=((x*b+w1)%y*b+w0)%y:=by
 generalize x*b+w1=X;have h:=xbj X y;have e:X*b+w0=X%y*b+w0+y*(X/y*b):=by grind
 rw[e];constructor
 ·rw[xcu _ _ a];lia
 ·simp_all
def zxu{a:K}(c:a<4294967296)(d:b<4294967296):(a*4294967296%18446744073709551616+b)%18446744073709551616=a*4294967296+b:=W
theorem uB(a:x<18446744073709551616):xL fu x=Z ((64-bl x:K):J):=by
 unfold xL;have h:=ah (k:=64) (by simpa using a);rw[U<|kh a,zb];grind
def JD{hi:K}(hn:lo<18446744073709551616)(G:y<18446744073709551616)(R:hi<y)(H:10<fu):
 kf fu hi lo y=Z ((hi*18446744073709551616+lo)/y,(hi*18446744073709551616+lo)%y):=by
 unfold kf;rw[zA,zA];by_cases h0:hi=0
 ·subst h0;rw[S O,yM,Q,yM,Q,xcs,xaF]
 ·rw[zA,U<|uB G];have⟨n1,n2,l⟩:=zep (y:=y) W G;have⟨s,T⟩:∃s,s=64-bl y:=⟨_,O⟩;rw[<-T]at n2 l⊢;have hk:s<=64:=W
  have eu:NY (s:J)=s:=by have:=Pf (x:=(s:J)) W W;lia
  have em:min (s:J).toNat 64=s:=W
  have e8:(64+18446744073709551616-s)%18446744073709551616=64-s:=W
  have n:min (((64-s:K):K):J).toNat 64=64-s:=W
  have⟨Y,c⟩:∃Y,Y=y*2^s:=⟨_,O⟩;rw[<-c]at n2 l;have⟨w1,w2⟩:=ze7 hn hk;have hp:0<2^s:=xaP YL;have hx:hi*2^s+2^s<=Y:=by
   have:(hi+1)*2^s<=y*2^s:=xaf _ R;rw[xaT,xbL]at this;rw[c];exact this
  simp only[nm,eu,em,e8,n,R4,SZ];rw[<-c,xag l,xag (W:hi*2^s<18446744073709551616),zdI w2];have⟨u,o⟩:∃u,u=hi*2^s+lo/2^(64-s):=⟨_,O⟩;have⟨t,p⟩:∃t,t=lo*2^s%18446744073709551616:=⟨_,O⟩;have hv:t<18446744073709551616:=by rw[p];exact xaI _ YL
  rw[<-o,<-p];have hd:u<Y:=W
  have ho:(hi*18446744073709551616+lo)*2^s=u*18446744073709551616+t:=by
   rw[xaT,w1,o,<-p,xaT,Nat.mul_right_comm];lia
  have e:Y=Y/4294967296*4294967296+Y%4294967296:=W
  have M:2147483648<=Y/4294967296:=W
  have N:Y/4294967296<4294967296:=W
  have a0:Y%4294967296<4294967296:=W
  have step:∀{u w:K},u<Y->w<4294967296->(u*4294967296+w)/(Y/4294967296*4294967296+Y%4294967296)=(u*4294967296+w)/Y:=by intro u w _ _;rw[<-e]
  have ew:Y/2^32=Y/4294967296:=O;have et:t/2^32=t/4294967296:=O;rw[ew,et,yM];have f:∀{u:K},u<Y->(u+18446744073709551616-u/(Y/4294967296)*(Y/4294967296)%18446744073709551616)%18446744073709551616=u%(Y/4294967296):=by
   intro u o;have h1:=xbj u<|Y/4294967296;rw[xaH]at h1;have v:u/(Y/4294967296)*(Y/4294967296)<=u:=W
   rw[xag (W:u/(Y/4294967296)*(Y/4294967296)<18446744073709551616)];lia
  have body:∀{q r w:K},q<18446744073709551616->r<4294967296->w<4294967296->(q*(Y%4294967296)<18446744073709551616\/4294967296<=q)->∀(A B C:V K),(4294967296<=r+Y/4294967296->A=Z (q-1))->(¬4294967296<=r+Y/4294967296->A=B)->C=Z q->
   (if((4294967296:K):J)<=(q:J)then A else if(((4294967296*r%18446744073709551616+w)%18446744073709551616:K):J)<((q*(Y%4294967296)%18446744073709551616:K):J)then A else C)=
   if 4294967296<=q then(if 4294967296<=r+Y/4294967296 then Z (q-1)else B)else if 4294967296*r+w<q*(Y%4294967296)then(if 4294967296<=r+Y/4294967296 then Z (q-1)else B)else Z q:=by
   intro q r w d k hw g A B C h1 v h3;have hA:A=if 4294967296<=r+Y/4294967296 then Z (q-1)else B:=by
    split
    ·next h=>exact h1 h
    ·next h=>exact v h
   rw[<-hA,h3];by_cases z:4294967296<=q
   ·rw[zS,S z]
   ·have e3:(q*(Y%4294967296))%18446744073709551616=q*(Y%4294967296):=xag<|g.resolve_right z;have e4:(4294967296*r%18446744073709551616+w)%18446744073709551616=4294967296*r+w:=W
    rw[zA,ir z,e3,e4];by_cases P:4294967296*r+w<q*(Y%4294967296)
    ·rw[zS,S P]
    ·rw[zA,ir P]
  have L0:zg (kY fu (Y/4294967296) (Y%4294967296)<|t/4294967296) fu (u/(Y/4294967296),u%(Y/4294967296))=Z ((u*4294967296+t/4294967296)/Y):=by
   rw[<-step hd (by lia:t/4294967296<4294967296)];refine NK (λq r=>(q,r)) (λs=>2-s.2/2147483648) (λ_ _=>O) (w:=t/4294967296) M N a0 (by rw[<-e];exact hd) W H ?_;intro q r L d k g;have e1:(r+Y/4294967296)%18446744073709551616=r+Y/4294967296:=W
   by_cases hc:q=0
   ·subst hc;unfold kY;simp only[nm,xcs,Nat.zero_mod];rw[zA,zA,zA,zA]
   have D:(q+18446744073709551616-1)%18446744073709551616=q-1:=W
   refine Eq.trans ?_<|body d k W g (if 4294967296<=r+Y/4294967296 then Z (q-1)else L (q-1,r+Y/4294967296)) _ _ (λh=>S h) (λh=>ir h) O;unfold kY;simp only[nm,e1,D];have E:∀(X:V K),(if((4294967296:K):J)<=((r+Y/4294967296:K):J)then Z (q-1)else X)=if 4294967296<=r+Y/4294967296 then Z (q-1)else X:=by
    intro X;by_cases h:4294967296<=r+Y/4294967296
    ·rw[zS,S h]
    ·rw[zA,ir h]
   rw[E]
  have i:∀{x q:K},x/Y=q->∀{m:K},m=x%18446744073709551616->(m+18446744073709551616-q*Y%18446744073709551616)%18446744073709551616=x%Y:=by
   intro x q d m hm;have h1:=xbj x Y;rw[d,xaH]at h1;have v:=xaI x (W:0<Y);lia
  rw[f hd,U L0,i O (x:=u*4294967296+t/4294967296) W];have⟨a,F⟩:∃a,a=(u*4294967296+t/4294967296)%Y:=⟨_,O⟩;have j:a<Y:=by rw[F];exact xaI _ W
  rw[<-F,yM,f j];have L1:zg (k9 fu (Y/4294967296) (Y%4294967296)<|t%4294967296) fu (a%(Y/4294967296),a/(Y/4294967296))=Z ((a*4294967296+t%4294967296)/Y):=by
   rw[<-step j (by lia:t%4294967296<4294967296)];refine NK (λq r=>(r,q)) (λs=>2-s.1/2147483648) (λ_ _=>O) (w:=t%4294967296) M N a0 (by rw[<-e];exact j) W H ?_;intro q r L d k g;have e1:(r+Y/4294967296)%18446744073709551616=r+Y/4294967296:=W
   by_cases hc:q=0
   ·subst hc;unfold k9;simp only[nm,xcs,Nat.zero_mod];rw[zA,zA,zA,zA]
   have D:(q+18446744073709551616-1)%18446744073709551616=q-1:=W
   refine Eq.trans ?_<|body d k W g (if 4294967296<=r+Y/4294967296 then Z (q-1)else L (r+Y/4294967296,q-1)) _ _ (λh=>S h) (λh=>ir h) O;unfold k9;simp only[nm,e1,D];have E:∀(X:V K),(if((4294967296:K):J)<=((r+Y/4294967296:K):J)then Z (q-1)else X)=if 4294967296<=r+Y/4294967296 then Z (q-1)else X:=by
    intro X;by_cases h:4294967296<=r+Y/4294967296
    ·rw[zS,S h]
    ·rw[zA,ir h]
   rw[E]
  rw[U L1,i O (x:=a*4294967296+t%4294967296) W];have hl:=lQ (b:=4294967296) (v1:=Y/4294967296) (v0:=Y%4294967296) (u:=u) (w:=t/4294967296) (by rw[<-e];exact hd);rw[step hd W]at hl;have hc:=lQ (b:=4294967296) (v1:=Y/4294967296) (v0:=Y%4294967296) (u:=a) (w:=t%4294967296) (by rw[<-e];exact j);rw[step j W]at hc;have⟨k1,k2⟩:=CJ (x:=u) (b:=4294967296) (y:=Y) (w1:=t/4294967296) (w0:=t%4294967296) W YL W;rw[<-F]at k1 k2;have eU:(u*4294967296+t/4294967296)*4294967296+t%4294967296=(hi*18446744073709551616+lo)*2^s:=by rw[ho];lia
  rw[eU,c,xfo _ _ hp,<-c]at k1;rw[eU,c,xdV,<-c]at k2;rw[k1,<-k2,xeu _ hp];rw[zxu hl hc]
end
section
variable{x fu s:zV}{a:zC zV}
def zjA{m:K}{l:N K}:(sR (m+1) 0++l).set m x=sR m 0++(x::l):=by
 rw[List.replicate_succ'];simp_all
def za1(k n:K):v7 (k+1) n=n%18446744073709551616::v7 k (n/18446744073709551616):=O
def Dq{q r:K}(h:r<18446744073709551616):(q*18446744073709551616+r)%18446744073709551616=r/\(q*18446744073709551616+r)/18446744073709551616=q:=W
theorem GY(A m:K):A/18446744073709551616^m=A/18446744073709551616^(m+1)*18446744073709551616+A/18446744073709551616^m%18446744073709551616:=by grind [aj]
def S9(c:zn a)(j:x<18446744073709551616)(h0:0<x)(hl:X a<=1000000)(o:2000000<fu):JK fu a x=Z (yN<|nv a/x,nv a%x):=by
 unfold JK;rw[yU,yM,Q,zb];have f:=q9 c;have d:zg (eN fu a x) fu (0,(X a:J)-1,sR (X a) 0)=Z (nv a%x,v7 (X a)<|nv a/x):=by
  refine zt (λs:K×J×N K=>∃m:K,m<=X a/\s=(nv a/18446744073709551616^m%x,(m:J)-1,sR m 0++v7 (X a-m) (nv a/18446744073709551616^m/x))) (λs=>(s.2.1+1).toNat) _ ?_ _ _ ⟨X a,eZ _,?_⟩ (by show((X a:J)-1+1).toNat<fu;lia)
  ·rintro s L ⟨m,p,rfl⟩ k;unfold eN;simp only
   cases m with
   |zero=>
    simp_all
   |succ m=>
    have e:((m+1:K):J)-1=(m:J):=W
    have g:=c.getD m;have hd:nv a/18446744073709551616^(m+1)%x<x:=xaI _ h0;have l:a.getD m 0=nv a/18446744073709551616^m%18446744073709551616:=b7 c m;have h:=GY (nv a) m;rw[<-l]at h;rw[zS,e,yc,Q,U<|JD g j hd W];have⟨k1,k2⟩:=CJ (x:=0) (b:=18446744073709551616) (y:=x) (w1:=nv a/18446744073709551616^(m+1)) (w0:=a.getD m 0) h0 YL g;rw[xcs,xaF,<-h]at k1 k2;rw[zo (by simp;lia),Q,zb,zjA,<-k2];refine k _ ⟨m,W,?_⟩ (by show((m:J)-1+1).toNat<(((m+1:K):J)-1+1).toNat;lia);have i:(nv a/18446744073709551616^(m+1)%x*18446744073709551616+a.getD m 0)/x<18446744073709551616:=by
     rw[xaM h0];have:(nv a/18446744073709551616^(m+1)%x+1)*18446744073709551616<=x*18446744073709551616:=xaf _ hd;rw[xaH 18446744073709551616 x];lia
    have n:X a-m=(X a-(m+1))+1:=W
    rw[k1,n,za1];congr 3;rw[(Dq i).1,(Dq i).2]
  ·rw[xbc f,Nat.zero_div,Nat.zero_mod,xcX];simp[v7]
 rw[U d];have hc:nv a/x<18446744073709551616^X a:=xaG (xcd _ _) f;simp only;rw[U (xA (wI _ _) (by rw[yj];lia)<|by rw[yj];lia),u6,xag hc]
def zbD(b:s<=64):(18446744073709551616:K)=2^(64-s)*2^s:=by rw[<-xbq,(W:64-s+s=64)]
theorem zeT{y c:K}(f:y<18446744073709551616)(d:s<64)(hc:c<2^s):y*2^s%18446744073709551616|||c=(y*2^s+c)%18446744073709551616/\y/2/2^(63-s)=(y*2^s+c)/18446744073709551616/\(y*2^s+c)/18446744073709551616<2^s:=by
 have⟨w1,h⟩:=ze7 f<|xdp d;have hp:0<2^s:=xaP YL;have e:=zbD<|xdp d;have b:y*2^s%18446744073709551616=y%2^(64-s)*2^s:=by rw[e,xdV]
 have h1:y%2^(64-s)*2^s+2^s<=18446744073709551616:=by
  rw[e];have:=xaf (2^s)<|xaI y<|xaP (n:=64-s) (YL:0<2);grind
 have g:y/2/2^(63-s)=y/2^(64-s):=by rw[xaB,(Yl:64-s=63-s+1),xbi,xaH 2]
 refine⟨?_,?_,?_⟩
 ·rw[b,zdI hc];rw[b]at w1;generalize y%2^(64-s)*2^s=A at*
  generalize y*2^s=i at*
  generalize y/2^(64-s)=W at*
  lia
 ·rw[g];rw[b]at w1;generalize y%2^(64-s)*2^s=A at*
  generalize y*2^s=i at*
  generalize y/2^(64-s)=W at*
  lia
 ·rw[b]at w1;generalize y%2^(64-s)*2^s=A at*
  generalize y*2^s=i at*
  generalize y/2^(64-s)=W at*
  lia
def Cr{a:N K}{s:K}(b:zn a)(c:s<64):∀k,(qq (rK a<|2^s) k).2<2^s
 |0=>xaP YL
 |k+1=>(zeT (b.getD k) c<|Cr b c k).2.2
def zaO:(2:K)^64=18446744073709551616:=YL
def UA{n:K}(b:zn a)(hl:X a<=1000000:=by lia)(hn:n<=262144:=by lia)(j:2000000<fu:=by lia):Qf fu a (n:J)=Z (yN<|nv a*2^n,0):=by
 unfold Qf;have⟨s,l⟩:∃s,s=n%64:=⟨_,O⟩;have c:s<64:=W
 rw[zA,zA,U<|uf (step:=rK a<|2^s) W W ?_]
 ·have m:=Cr b c (X a);have hd:2^s<18446744073709551616:=by rw[<-zaO];exact xdE YL c
  have e1:xbQ (n:J) 64=((n/64:K):J):=O;simp only;rw[xi (by have:=wX (rK a<|2^s) (X a);simp[this];lia),Q,xi YL,e1,zb,zgM W];rw[U (aE W<|by rw[yj];lia),U (xA ((zn.replicate _).append<|wI _ _) (by simp[yj];lia)<|by simp[yj];lia),Om,u6,xag<|SJ b hd];congr 3;rw[<-zaO,<-xbT,xaH<|2^_,xbe,<-xbq];congr 2;lia
 ·intro k d;have hc:=Cr b c k;have⟨l1,e,o⟩:=zeT (b.getD k) c hc;unfold pQ;have e1:xbn (n:J) 64=((n%64:K):J):=O;have f:min (((1:K):J)).toNat 64=1:=YL
  have g:min ((n%64:K):J).toNat 64=s:=W
  have h:(63:J)-((n%64:K):J)=((63-s:K):J):=W
  have i:min ((63-s:K):J).toNat 64=63-s:=W
  rw[zo d,Q,xi YL,Q,e1,yM,Q,g,Q,zo d,Q,Q,f,xi YL,Q,h,zb,yM,Q,i,l1];rw[show(2:K)^1=2 from O,e];rfl
def zaW{step:K->K->K×K}{X:K}(h:∀k,step k 0=(X/18446744073709551616^k%18446744073709551616,0)):∀n,qq step n=(v7 n X,0)
 |0=>rfl
 |n+1=>by
  have b:=zaW h n;unfold qq;rw[b,h,gk]
def zl2{A k:K}(f:s<64):A/18446744073709551616^k%18446744073709551616/2^s|||A/18446744073709551616^(k+1)%18446744073709551616*2%18446744073709551616*2^(63-s)%18446744073709551616=A/2^s/18446744073709551616^k%18446744073709551616:=by
 have e:=zbD<|xdp f;have hp:0<2^s:=xaP YL;have j:0<2^(64-s):=xaP YL;have h1:=GY A k;have e0:A/18446744073709551616^(k+1)=A/18446744073709551616^k/18446744073709551616:=by rw[xbi,xaB]
 rw[xaB,xaH<|2^s,<-xaB];rw[e0]at h1⊢;generalize A/18446744073709551616^k=X at*
 have e1:X/18446744073709551616%18446744073709551616*2%18446744073709551616*2^(63-s)%18446744073709551616=X/18446744073709551616%2^s*2^(64-s):=by
  rw[Nat.mod_mul_mod,xbe,<-xdH,(W:(63-s).succ=64-s)];rw[Nat.mod_mul_mod];generalize X/18446744073709551616=V;conv=>lhs;rw[e,xaH (2^(64-s))<|2^s]
  rw[xdV]
 have g:X%18446744073709551616/2^s<2^(64-s):=by
  rw[xaM hp,<-e];exact xaI _ YL
 rw[e1,Nat.or_comm,zdI g];have b:X/2^s=X/18446744073709551616*2^(64-s)+X%18446744073709551616/2^s:=by
  have c:=xbj X 18446744073709551616;have h:X=X%18446744073709551616+2^s*(X/18446744073709551616*2^(64-s)):=by
   have:2^s*(X/18446744073709551616*2^(64-s))=18446744073709551616*(X/18446744073709551616):=by rw[e,xaH<|X/_,<-xbe,xaH<|2^s]
   lia
  conv=>lhs;rw[h]
  rw[xcu _ _ hp];lia
 rw[b];have d:X/18446744073709551616*2^(64-s)=X/18446744073709551616%2^s*2^(64-s)+18446744073709551616*(X/18446744073709551616/2^s):=by
  have c:=xbj (X/18446744073709551616)<|2^s;conv=>lhs;rw[<-c]
  rw[xaT,e,xaH (2^(64-s))<|2^s,xbe,xbe,xaH (2^(64-s))<|_/_];lia
 have l:X/18446744073709551616%2^s*2^(64-s)+2^(64-s)<=18446744073709551616:=by
  generalize X/18446744073709551616=V;rw[e,xaH (2^(64-s))<|2^s];have:=xaf (2^(64-s))<|xaI V hp;rw[Nat.succ_mul]at this;exact this
 have i:X/18446744073709551616%2^s*2^(64-s)+X%18446744073709551616/2^s<18446744073709551616:=by
  clear d b e1 e0 h1;generalize X/18446744073709551616%2^s*2^(64-s)=m at*
  generalize X%18446744073709551616/2^s=V at*
  lia
 rw[d,Nat.add_right_comm,xbY,xag i]
theorem Ea{n:K}(b:zn a)(hl:Wl a<=1000000)(hn:n<=1000000000)(q:2000000<fu):gw fu a (n:J)=Z (yN<|nv a/2^n):=by
 unfold gw;have e0:max (n:J) 0=(n:J):=W
 have e1:xbQ (n:J) 64=((n/64:K):J):=O;have f:xbn (n:J) 64=((n%64:K):J):=O;have g:=q9 b;have c:2^n=18446744073709551616^(n/64)*2^(n%64):=by
  rw[<-zaO,<-xbT,<-xbq];grind
 rw[Q,e0,xi YL,e1,zb];by_cases h:Wl a<=n/64
 ·rw[zS];have:nv a/2^n=0:=by rw[c,<-xaB,xbc<|xah g<|xam YL h,Nat.zero_div]
  rw[this];rfl
 ·rw[zA,xi YL,zb,yU,yM,Q,xi YL,Q,f];have hd:=b.drop<|n/64;have hv:nv (a.drop<|n/64)=nv a/18446744073709551616^(n/64):=zea b _;have⟨D,d⟩:∃D,D=a.drop (n/64):=⟨_,O⟩;rw[<-d]at hd hv⊢;have r:Wl D<=1000000:=by rw[d,xca];lia
  have⟨s,e⟩:∃s,s=n%64:=⟨_,O⟩;have hc:s<64:=W
  have kT:=zaW (step:=λk _=>(nv D/2^s/18446744073709551616^k%18446744073709551616,0)) (X:=nv D/2^s)<|λ_=>O;rw[<-e,U<|uf (step:=λk _=>(nv D/2^s/18446744073709551616^k%18446744073709551616,0)) W W ?_]
  ·rw[kT];simp only;rw[U (xA (wI _ _) (by rw[yj];lia)<|by rw[yj];lia),u6,xag<|xaG (xcd _ _)<|q9 hd,hv,c,<-xaB,e]
  ·intro k i;rw[kT];unfold sn;have j:min (((1:K):J)).toNat 64=1:=YL
   have l:min (s:J).toNat 64=s:=W
   have m:(63:J)-(s:J)=((63-s:K):J):=W
   have o:min ((63-s:K):J).toNat 64=63-s:=W
   have p:(k:J)+1=((k+1:K):J):=W
   rw[zo i,Q,yM,Q,l,p,zb,U (Jz D W),Q,j,m,zb,yM,Q,o,Q,b7 hd,b7 hd,show(2:K)^1=2 from O,zl2 hc]
end
section
variable{fu u v1 v0 v d x:zV}
def zhq{w:K}(h1:9223372036854775808<=v1)(j:v1<18446744073709551616)(h0:v0<18446744073709551616)(f:u<v1*18446744073709551616+v0)(k:w<18446744073709551616)(b:u/v1<18446744073709551616)(l:10<fu):
 zg (fI fu w v1 v0) fu (u/v1,u%v1)=Z ((u*18446744073709551616+w)/(v1*18446744073709551616+v0)):=by
 have hv:0<v1*18446744073709551616+v0:=W
 refine zt (λs:K×K=>∃q r,s=(q,r)/\q<18446744073709551616/\r<18446744073709551616/\q*v1+r=u/\(u*18446744073709551616+w)/(v1*18446744073709551616+v0)<=q) (λs=>2-s.2/9223372036854775808) _ ?_ _ _ ⟨_,_,O,b,?_,?_,?_⟩ (by show 2-u%v1/9223372036854775808<fu;lia)
 ·rintro s L ⟨q,r,rfl,b,m,c,e⟩ g;have n:q*v0<18446744073709551616*18446744073709551616:=xdA b h0;have a:∀(hc:18446744073709551616*r+w<q*v0),(if((0:K):J)<(((r+v1+0)/18446744073709551616:K):J)then Z ((q+18446744073709551616-1)%18446744073709551616)else L ((q+18446744073709551616-1)%18446744073709551616,(r+v1+0)%18446744073709551616))=Z ((u*18446744073709551616+w)/(v1*18446744073709551616+v0)):=by
   intro hc;have⟨d1,d2,d3⟩:=zmQ hv c hc;have h:(q+18446744073709551616-1)%18446744073709551616=q-1:=W
   rw[h];by_cases hd:18446744073709551616<=r+v1
   ·rw[zS,<-H2 hv d3 d1<|zie (ziN f h0 d3 hd) h0 hd]
   ·rw[zA];exact g _ ⟨_,_,O,W,W,by rw[(W:(r+v1+0)%18446744073709551616=r+v1)];exact d3,d1⟩ (by show 2-(r+v1+0)%18446744073709551616/9223372036854775808<2-r/9223372036854775808;lia)
  unfold fI;simp only;rw[U<|Jx b h0];simp only[B];by_cases c1:q*v0/18446744073709551616<r
  ·rw[zS,<-H2 hv c e]
  ·rw[zA];by_cases c2:q*v0/18446744073709551616=r
   ·rw[zS];by_cases o:q*v0%18446744073709551616<=w
    ·rw[zS,<-H2 hv c e]
    ·rw[zA,yM];exact a W
   ·rw[zA,yM];exact a W
 ·have:=xaI u (W:0<v1);lia
 ·rw[xaH];exact xbj u v1
 ·rw[xcn W];have i:(u*18446744073709551616+w)/(v1*18446744073709551616+v0)*(v1*18446744073709551616+v0)<=u*18446744073709551616+w:=xcI _ _;generalize(u*18446744073709551616+w)/(v1*18446744073709551616+v0)=Q at*
  rw[xbV,<-xbe]at i;generalize Q*v1=A at*
  lia
def SS{a b c:K}(h1:9223372036854775808<=v1)(e:v1<18446744073709551616)(h0:v0<18446744073709551616)(b1:b<18446744073709551616)(b0:c<18446744073709551616)(f:10<fu):
 cD fu a b c v1 v0=Z (if v1<=a then 18446744073709551615 else((a*18446744073709551616+b)*18446744073709551616+c)/(v1*18446744073709551616+v0)):=by
 unfold cD;by_cases h:v1<=a
 ·simp_all
 ·have g:(a*18446744073709551616+b)/v1<18446744073709551616:=by
   rw[xaM W];lia
  rw[zA,ir h,U<|JD b1 e W f];simp only;rw[U<|zhq h1 e h0 ?_ b0 g f];lia
def zrX{q:K}(hd:0<d)(hv:0<v/d)(h:q*v<=u):q<=u/d/(v/d):=by
 refine(xcn hv).2<|(xcn hd).2 ?_;refine PX ?_ h;rw[xbe];exact xas _<|xcI v d
def zsb{B:K}(hd:0<d)(a:x*(v/d)<=u/d)(b:x<=B)(hv:B*d<=v):x*v<=u+v:=by
 have h1:x*v<=x*(v/d*d+d):=xas _ (by have h:=xbj v d;have:=xaI v hd;rw[xaH d]at h;lia);have c:x*(v/d*d+d)=x*(v/d)*d+x*d:=by rw[xbV,xbe]
 have e:=PX (xaf _ a)<|xcI u d;have f:x*d<=B*d:=xaf _ b;lia
def zh2{U V D:K}(b:0<D)(f:9223372036854775808*(18446744073709551616*D)<=V)(m:V<18446744073709551616*(18446744073709551616*D))(g:U<V*18446744073709551616)(a:x=if V/D/18446744073709551616<=U/D/18446744073709551616/18446744073709551616 then 18446744073709551615 else U/D/(V/D)):U/V<=x/\x<=U/V+1/\x<18446744073709551616:=by
 have e:0<V:=W
 have n:U/V<18446744073709551616:=by rw[xaM e,xaH];exact g
 have o:9223372036854775808*18446744073709551616<=V/D:=by rw[xcn b,xbe];exact f
 have up:∀{x:K},x*V<=U+V->x<=U/V+1:=λ{x} h=>by
  have:x<=(U+V)/V:=(xcn e).2 h;simp_all
 by_cases h:V/D/18446744073709551616<=U/D/18446744073709551616/18446744073709551616
 ·rw[S h]at a;subst a;refine⟨W,up ?_,YL⟩;have e1:V/D/18446744073709551616=V/(D*18446744073709551616):=xaB ..;have i:U/D/18446744073709551616/18446744073709551616=U/(D*18446744073709551616*18446744073709551616):=by rw[xaB,xaB,<-xbe]
  rw[e1,i]at h;have j:0<D*18446744073709551616:=W
  have k1:=xcI U<|D*18446744073709551616*18446744073709551616;have k2:V<(V/(D*18446744073709551616)+1)*(D*18446744073709551616):=by
   have h1:=xbj V<|D*18446744073709551616;have p:=xaI V j;rw[xaT,xbL,xaH];lia
  have k:V/(D*18446744073709551616)*(D*18446744073709551616*18446744073709551616)<=U:=PX (xaf _ h) k1;rw[<-xbe]at k;have l:18446744073709551615*V<=18446744073709551615*((V/(D*18446744073709551616)+1)*(D*18446744073709551616)):=xas _<|xdp k2;rw[xaT,xbL]at l;generalize V/(D*18446744073709551616)*(D*18446744073709551616)=A at*
  lia
 ·rw[ir h]at a;have hc:x<=18446744073709551616:=by
   rw[a];have c:U/D/18446744073709551616/18446744073709551616<V/D/18446744073709551616:=xcT h;have h1:U/D<(V/D)*18446744073709551616+18446744073709551616*18446744073709551616:=W
   have:U/D<=18446744073709551616*(V/D)+(V/D):=W
   refine Nat.le_of_lt_succ<|(xaM W).2 ?_;rw[Nat.succ_mul];lia
  have hd:U/V<=x:=by
   rw[a];exact zrX b W<|xcI U V
  have c:x<18446744073709551616:=by
   rw[a,xaM W];have c:U/D/18446744073709551616/18446744073709551616<V/D/18446744073709551616:=xcT h;lia
  refine⟨hd,up<|zsb b (B:=18446744073709551616) ?_ hc ?_,c⟩
  ·rw[a];exact xcI _ _
  ·lia
end
section
variable{fu V k y:zV}{s:zI}{v t:zC zV}
def zak{n P x0:K}(hv:zn v)(a:X v=n)(b:nv v=V)(d:zn t)(hi:X t=n+1)(e:nv t=P)(hc:0<V)(h1:P/V<=x0)(f:x0<=P/V+1)(g:x0<18446744073709551616)(hn:n<=500000)(r:2000000<fu):
 zg (pk fu v) fu (s,(n:J),x0,t)=Z (s,(n:J),P/V,t):=by
 have hd:V<18446744073709551616^n:=by rw[<-b,<-a];exact q9 hv
 refine zt (λq:J×J×K×N K=>∃x,q=(s,(n:J),x,t)/\P/V<=x/\x<=P/V+1/\x<18446744073709551616) (λq=>q.2.2.1-P/V) _ ?_ _ _ ⟨x0,O,h1,f,g⟩ (by show x0-P/V<fu;lia);rintro q L ⟨x,rfl,g1,u,i⟩ j;unfold pk;simp only;have l:V*x<18446744073709551616^(n+1):=by
  rw[xbi]
  calc V*x<=V*18446744073709551616:=xas _ W
   _<_:=xbP hd YL
 rw[U<|iW hv i,U (iY (wI _ _) d<|by rw[yj];lia),u6,b,a,xag l,e];have w:=xbj P V;have z:=xaI P hc;by_cases h:x=P/V
 ·have hl:V*x<=P:=by rw[h];lia
  have m:¬(0:J)<ke ((V*x:K):J) (P:J):=by
   rcases xbO (V*x) P with hh|hh
   ·rw[qN W];decide
   ·rw[ua W];decide
  rw[ir m,h]
 ·have c:x=P/V+1:=W
  have o:P<V*x:=by rw[c,xbV,xdl];lia
  have A:0<x:=by rw[c];exact Nat.succ_pos _
  have p:(P:J)<((V*x:K):J):=Int.ofNat_lt.2 o;rw[qu p,S YL,Q,(W:(x+18446744073709551616-1)%18446744073709551616=x-1)];exact j _ ⟨x-1,O,W,W,W⟩ (by show x-1-P/V<x-P/V;lia)
def zoX{j:K}(a:zn t)(hl:X t<=k)(b:k<=j):(t++sR j 0).take k=v7 k (nv t):=by
 refine GH ((a.append<|zn.replicate _).take _) (wI _ _) (by rw[yj,xap,xak,xaR];lia) ?_;rw[NI<|a.append<|zn.replicate _,Zt,WZ,xcG,xbM,u6]
def zle{n e a:K}{L:N K×J×N K×N K->z7 (N K×N K)}(hv:zn v)(hl:X v=n)(o:nv v=V)(hQ:2<=n)(hc:9223372036854775808*18446744073709551616^(n-1)<=V)(f:zn t)(hR:X t=e+n)(hk:k<e)(hb:e+n<=500000)(hf:2000000<fu)(hT:nv t=a/18446744073709551616^(k+1)%V*18446744073709551616^(k+1)+a%18446744073709551616^(k+1)):
 ∃q,zn q/\X q=e+n/\nv q=a/18446744073709551616^k%V*18446744073709551616^k+a%18446744073709551616^k/\
  JM fu s v L (v,(k:J),t,sR (k+1) 0++v7 (e-(k+1)) (a/18446744073709551616^(k+1)/V))=L (v,(k:J)-1,q,sR k 0++v7 (e-k) (a/18446744073709551616^k/V)):=by
 have hd:V<18446744073709551616^n:=by rw[<-o,<-hl];exact q9 hv
 have M:0<18446744073709551616^k:=xaP YL;have h:0<V:=by
  have:0<18446744073709551616^(n-1):=xaP YL;lia
 have⟨T,hn⟩:∃T,T=a/18446744073709551616^(k+1)%V:=⟨_,O⟩;have⟨g,z⟩:∃g,g=a/18446744073709551616^k%18446744073709551616:=⟨_,O⟩;have hp:g<18446744073709551616:=by rw[z];exact xaI _ YL
 have hH:T<V:=by rw[hn];exact xaI _ h
 have⟨P,R⟩:∃P,P=T*18446744073709551616+g:=⟨_,O⟩;have S:=GY a k;rw[<-z]at S;have⟨k1,k2⟩:=CJ (x:=0) (b:=18446744073709551616) (y:=V) (w1:=a/18446744073709551616^(k+1)) (w0:=g) h YL hp;rw[xcs,xaF,<-S,<-hn,<-R]at k1 k2;have hx:a%18446744073709551616^(k+1)=g*18446744073709551616^k+a%18446744073709551616^k:=by rw[xbi,Nat.mod_mul,z,xaH];lia
 have r:P<V*18446744073709551616:=by
  have:(T+1)*18446744073709551616<=V*18446744073709551616:=xaf _ hH;lia
 have Y:nv t=P*18446744073709551616^k+a%18446744073709551616^k:=by rw[hT,<-hn,hx,R,xaT,xbi,xaH<|18446744073709551616^k,xbe];lia
 have hA:=xaI a M;have A:nv t/18446744073709551616^k=P:=by rw[Y,xdI,Nat.add_mul_div_right _ _ M,xbc hA,xaF]
 have hI:nv t%18446744073709551616^k=a%18446744073709551616^k:=by rw[Y,xdI,Nat.add_mul_mod_self_right,Nat.mod_mod]
 have⟨D,u⟩:∃D,D=18446744073709551616^(n-2):=⟨_,O⟩;have hJ:0<D:=by rw[u];exact xaP YL
 have c:18446744073709551616^(n-1)=18446744073709551616*D:=by rw[u,<-xdH,(W:(n-2).succ=n-1)]
 have en:18446744073709551616^n=18446744073709551616*(18446744073709551616*D):=by rw[<-c,<-xdH,(W:(n-1).succ=n)]
 rw[c]at hc;have B:=hd;rw[en]at B;have C:∀j,t.getD (k+j) 0=P/18446744073709551616^j%18446744073709551616:=λj=>by rw[b7 f,xbq,<-xaB,A]
 have gv:∀j,v.getD j 0=V/18446744073709551616^j%18446744073709551616:=λj=>by rw[b7 hv,o]
 have i:P/18446744073709551616^n=P/D/18446744073709551616/18446744073709551616:=by rw[en,xaB,xaB];congr 1;lia
 have m:P/18446744073709551616^(n-1)=P/D/18446744073709551616:=by rw[c,xaB,xaH D]
 have d:V/18446744073709551616^(n-1)=V/D/18446744073709551616:=by rw[c,xaB,xaH D]
 have hK:P/D/18446744073709551616/18446744073709551616<18446744073709551616:=by
  rw[<-i,xaM (xaP YL),xaH];exact xeO r<|xbP hd YL
 have hB:V/D/18446744073709551616<18446744073709551616:=by
  rw[<-d,xaM (xaP YL),c];exact B
 have hr:9223372036854775808<=V/D/18446744073709551616:=by
  rw[<-d,xcn (xaP YL),c];exact hc
 have m1:t.getD (k+n) 0=P/D/18446744073709551616/18446744073709551616:=by rw[C,i,xag hK]
 have m2:t.getD (k+n-1) 0=P/D/18446744073709551616%18446744073709551616:=by rw[(W:k+n-1=k+(n-1)),C,m]
 have m3:t.getD (k+n-2) 0=P/D%18446744073709551616:=by rw[(W:k+n-2=k+(n-2)),C,<-u]
 have m4:v.getD (n-1) 0=V/D/18446744073709551616:=by rw[gv,d,xag hB]
 have m5:v.getD (n-2) 0=V/D%18446744073709551616:=by rw[gv,<-u]
 have eg:((P/D/18446744073709551616/18446744073709551616*18446744073709551616+P/D/18446744073709551616%18446744073709551616)*18446744073709551616+P/D%18446744073709551616)/(V/D/18446744073709551616*18446744073709551616+V/D%18446744073709551616)=P/D/(V/D):=by
  generalize P/D=p;generalize V/D=w;rw[(W:(p/18446744073709551616/18446744073709551616*18446744073709551616+p/18446744073709551616%18446744073709551616)*18446744073709551616+p%18446744073709551616=p),(W:w/18446744073709551616*18446744073709551616+w%18446744073709551616=w)]
 have⟨x0,hC⟩:∃x0,x0=if V/D/18446744073709551616<=P/D/18446744073709551616/18446744073709551616 then 18446744073709551615 else P/D/(V/D):=⟨_,O⟩;have⟨n1,n2,n3⟩:=zh2 hJ hc B r hC;have hE:zn (xdo (k+n+1-k)<|xdD k t):=(f.drop k).take _;have E:X (xdo (k+n+1-k)<|xdD k t)=n+1:=by rw[xap,xca];lia
 have F:P<18446744073709551616^(n+1):=by
  rw[xbi];exact xeO r<|xbP hd YL
 have hi:nv (xdo (k+n+1-k)<|xdD k t)=P:=by rw[NI<|f.drop k,zea f,A,(W:k+n+1-k=n+1),xag F]
 have G:P/V<18446744073709551616:=by rw[xaM h,xaH];exact r
 have hF:V*(P/V)<=P:=Nat.mul_div_le P V;have hG:nv (v7 (n+1)<|V*(P/V))=V*(P/V):=by rw[u6,xag W]
 have hL:P-V*(P/V)=P%V:=by have:=xbj P V;lia
 have hN:=xaI P h;have hO:X (yN<|P%V)<=n:=(zN _ _).2 W;refine⟨xdo k t++v7 (n+1) (P%V)++xdD (k+(n+1)) t,((f.take _).append<|wI _ _).append<|f.drop _,?_,?_,?_⟩
 ·rw[xak,xak,xap,yj,xca];lia
 ·have hz:nv (xdD (k+(n+1)) t)=0:=by rw[zea f,xbq,<-xaB,A,xbc F]
  have hM:P%V<18446744073709551616^(n+1):=xaG (Nat.mod_le _ _) F;rw[Zt,hz,xcG,xbM,Zt,NI f,hI,u6,xag hM,xap,(W:min k (X t)=k),<-k2,xaH];lia
 ·unfold JM;simp only;have c1:(k:J)+(X v:J)=((k+n:K):J):=W
  have c2:((k+n:K):J)-1=((k+n-1:K):J):=W
  have c3:((k+n:K):J)-2=((k+n-2:K):J):=W
  have c4:(X v:J)-1=((n-1:K):J):=W
  have c5:(X v:J)-2=((n-2:K):J):=W
  have c6:((k+n:K):J)+1=((k+n+1:K):J):=W
  rw[zS,c1,zb,yc,Q,zb,c2,zb,yc,Q,zb,c3,zb,yc,Q,c4,zb,yc,Q,c5,zb,yc,Q];rw[m1,m2,m3,m4,m5,U (SS hr hB (xaI _ YL) (xaI _ YL) (xaI _ YL) W),eg,<-hC];rw[zb,c6,zb,yU,yU,xi ⟨W,W⟩,Q,xi (by rw[E];simp;lia),Q,xbF];rw[hl,U<|zak hv hl o hE E hi h n1 n2 n3 W hf];simp only;have c7:(n:J)+1=((n+1:K):J):=W
  rw[zo (by simp;lia),Q,zjA,yU,yM,U<|iW hv G,hl,o,U (fG hE (wI _ _) W (by rw[yj];lia) (by rw[E,yj];lia)<|by rw[hi,hG];exact hF),hi,hG,hL];rw[c7,zb,yU,yM,Q,zb,yU,xi Xn,Q,zoX (zz _) W<|eZ _,ym,Q,zb];have H:Bh k (X t-k) t (v7 (n+1)<|P%V)=xdo k t++v7 (n+1) (P%V)++xdD (k+(n+1)) t:=by
   unfold Bh;rw[yj,(W:min (n+1) (X t-k)=n+1),xaQ (l:=v7 (n+1)<|P%V)<|by rw[yj];exact eZ _]
  rw[H];have e2:e-k=(e-(k+1))+1:=W
  have e3:v7 (e-k) (a/18446744073709551616^k/V)=P/V::v7 (e-(k+1)) (a/18446744073709551616^(k+1)/V):=by rw[e2,za1,k1,(Dq G).1,(Dq G).2]
  rw[e3]
theorem zhA(h:0<y):2^(bl y-1)<=y:=by
 refine xbl λa=> ?_;have h1:=ah a;grind
theorem zrq{n s:K}(a:0<y)(hn:n=X (yN y))(f:s=64-bl ((yN y).getD (n-1) 0)):s<=63/\9223372036854775808*18446744073709551616^(n-1)<=y*2^s/\y*2^s<18446744073709551616^n/\X (yN<|y*2^s)=n:=by
 have hc:=qi a;have c:=OZ a;rw[<-hn]at c;have g:(yN y).getD (n-1) 0≠0:=by rw[hn];exact zmd a
 have d:=(zz y).getD<|n-1;have⟨b1,_,_⟩:=zep (y:=(yN y).getD (n-1) 0) W d;have b2:1<=bl ((yN y).getD (n-1) 0):=by rw[iB];lia
 have e1:18446744073709551616^n=2^bl y*2^s:=by
  rw[<-zaO,<-xbT,<-xbq];grind
 have e:9223372036854775808*18446744073709551616^(n-1)=2^(bl y-1)*2^s:=by
  rw[<-zaO,<-xbT,<-xbq,(YL:(9223372036854775808:K)=2^63),<-xbq];grind
 have g1:9223372036854775808*18446744073709551616^(n-1)<=y*2^s:=by rw[e];exact xaf _<|zhA a
 have b:y*2^s<18446744073709551616^n:=by rw[e1];exact xbP (IB y)<|xaP YL
 refine⟨W,g1,b,xcH ((zN _ _).2 b)<|xbl λh=> ?_⟩;have:=(zN (n-1)<|y*2^s).1 W;have hp:0<18446744073709551616^(n-1):=xaP YL;lia
def C9{a b:N K}(r:zn a)(u:zn b)(hC:X a<=200000)(hD:X b<=200000)(hf:3000000<=fu):
 gx fu a b=Z (if nv b=0 then([],[],3)else(yN<|nv a/nv b,yN<|nv a%nv b,0)):=by
 unfold gx;have h1:=xk r;have h2:=xk u;rw[za (wx r W W),za<|wx u W W];generalize nv a=x at*
 generalize nv b=y at*
 by_cases h0:y=0
 ·subst h0;rw[S O];rfl
 ·have hE:=qi (n:=y) W;rw[zA,za O,ir h0];simp only[xaj,wP];rw[za<|iY (zz x)<|zz y,ym,ym];by_cases w:x<y
  ·rw[qN W,S YL,za O];simp only[wN];rw[za<|QW<|zz x,ym,xbc w,xag w];rfl
  ·have hv:¬ke (x:J) (y:J)<0:=by
    obtain h|h:=xbO y x
    ·rw[qu W];decide
    ·rw[ua W];decide
   rw[ir hv,za O];simp only[xaj,wP];have⟨n,hn⟩:∃n,n=X (yN y):=⟨_,O⟩;have hi:=(zz y).getD<|n-1;by_cases hA:n=1
   ·have M:(yN y).getD 0 0=y:=by
     rw[Xi,xeA,xdz,xag];have:=(zN 1 y).1 W;simpa using this
    have P:y<18446744073709551616:=by have:=(zN 1 y).1 W;simpa using this
    rw[zS,show(0:J)=((0:K):J)from O,yc,Q,M,za (S9 (zz x) P W W W),ym];simp only;have R:=xaI x (W:0<y);rw[za (xA (pz W) Xn<|by simp;lia),Ph]
   ·have⟨s,z⟩:∃s,s=64-bl ((yN y).getD (n-1) 0):=⟨_,O⟩;have⟨f,v1,A,v3⟩:=zrq W hn z;have⟨V,g⟩:∃V,V=y*2^s:=⟨_,O⟩;have⟨U,e⟩:∃U,U=x*2^s:=⟨_,O⟩;have⟨d,T⟩:∃d,d=X (yN x):=⟨_,O⟩;have hB:n<=d:=by rw[hn,T];exact a7 W
    have B:x<18446744073709551616^d:=(zN d x).1 W;have hl:2^s<=9223372036854775808:=by
     rw[(YL:(9223372036854775808:K)=2^63)];exact xam YL f
    have Y:U<18446744073709551616^(d+1):=by
     rw[e,xbi];exact xah (xbP B<|xaP YL)<|xas _ W
    have hF:X (yN U)<=d+1:=(zN _ _).2 Y;rw[<-g]at v1 A v3;have e1:(((X (yN y):K):J))-1=((n-1:K):J):=W
    rw[zA,e1,zb,yc,Q,za<|uB hi,<-z,za<|UA<|zz y,ym,<-g];simp only;rw[za<|UA<|zz x,ym,<-e];simp only;have e2:(((X (yN x):K):J))+1=((d+1:K):J):=W
    have e3:((d+1:K):J)-((X (yN U):K):J)=((d+1-X (yN U):K):J):=W
    rw[e2,zb,e3,zb,yU,yM,Q];have⟨t8,hc⟩:∃t8,t8=yN U++sR (d+1-X (yN U)) 0:=⟨_,O⟩;have i:zn t8:=by rw[hc];exact(zz U).append<|zn.replicate _
    have a0:X t8=d+1:=by rw[hc,xak,xaR];lia
    have j:nv t8=U:=by rw[hc,Zt,WZ,xcG,xbM,ym]
    have⟨c,hG⟩:∃c,c=d+1-n:=⟨_,O⟩;have e4:(X t8:J)-((X (yN V):K):J)=(c:J):=W
    rw[<-hc,e4,zb,yU,yM,Q,xaR,zb];have C:0<V:=by
     have:0<18446744073709551616^(n-1):=xaP YL;lia
    have hz:0<18446744073709551616^c:=xaP YL;have D:U<18446744073709551616^c*V:=by
     have k1:18446744073709551616^c*(9223372036854775808*18446744073709551616^(n-1))<=18446744073709551616^c*V:=xas _ v1;have k2:18446744073709551616^c*(9223372036854775808*18446744073709551616^(n-1))=18446744073709551616^d*9223372036854775808:=by
      rw[xaH 9223372036854775808,<-xbe,<-xbq];congr 2;lia
     have k3:U<18446744073709551616^d*9223372036854775808:=by
      rw[e];exact xah (xbP B<|xaP YL)<|xas _ hl
     lia
    have E:U/18446744073709551616^c<V:=by rw[xaM hz,xaH];exact D
    have l:∃t,zn t/\X t=c+n/\nv t=U%V/\zg (JM fu (s:J)<|yN V) fu (yN V,(c:J)-1,t8,sR c 0)=Z (t,v7 c<|U/V):=by
     refine⟨v7 (c+n)<|U%V,wI _ _,yj _ _,?_,?_⟩
     ·rw[u6,xag];have h5:=xaI U C;exact xah (xeO h5 A)<|xam YL W
     ·refine zt (λq:N K×J×N K×N K=>∃(m:K) (t:N K),m<=c/\zn t/\X t=c+n/\nv t=U/18446744073709551616^m%V*18446744073709551616^m+U%18446744073709551616^m/\q=(yN V,(m:J)-1,t,sR m 0++v7 (c-m) (U/18446744073709551616^m/V))) (λq=>(q.2.1+1).toNat) _ ?_ _ _ ⟨c,t8,eZ _,i,W,?_,?_⟩ (by show((c:J)-1+1).toNat<fu;lia)
      ·rintro q L ⟨m,t,R,F,G,hd,rfl⟩ ih
       cases m with
       |zero=>
        unfold JM;simp only;rw[zA];rw[xeA,xdl,Nat.mod_one,xbM,xdz]at hd;have:=th F;rw[G,hd]at this;rw[this];simp
       |succ m=>
        have⟨t',g1,H,o,p⟩:=zle (fu:=fu) (k:=m) (s:=(s:J)) (L:=L) (zz V) v3 (ym V) W v1 F G W W W hd;rw[(W:((m+1:K):J)-1=(m:J)),p];exact ih _ ⟨m,t',W,g1,H,o,O⟩ (by show((m:J)-1+1).toNat<(((m+1:K):J)-1+1).toNat;lia)
      ·rw[j,xag E,xaH];exact(xbj U _).symm
      ·rw[xbc E,xcX];simp[v7]
    have⟨t,g1,H,o,p⟩:=l;rw[za p];simp only;have he:U/V<18446744073709551616^c:=by rw[xaM C];exact D
    have hp:0<2^s:=xaP YL;rw[za (xA (wI _ _) (by rw[yj];lia)<|by rw[yj];lia),u6,xag he,za (Ea g1 W W W),o];rw[e,g,xfo _ _ hp,xdV,xeu _ hp]
end
section
variable{x:zC zV}{i d0 fu U y j r:zV}
theorem zcS{t:N K}{c:K}(a:X t=i)(h:nw t+4294967296^i*c=2*nw (x.take i)+d0):
 nw (t++[(x.getD i 0*2+c)%4294967296])+4294967296^(i+1)*((x.getD i 0*2+c)/4294967296)=2*nw (x.take<|i+1)+d0:=by
 rw[Nq,u9];have:=xbj (x.getD i 0*2+c) 4294967296;grind
def zqp{t1 t2:N K}(g:xv x)(hl:X x<=1000000)(hd:d0<=1)(v:2000000<fu):
 ∃t d,zg (dU fu x) fu (t1,t2,[],d0,0)=Z (t1,t2,t,d)/\xv (t++[d])/\X t=X x/\nw (t++[d])=2*nw x+d0:=by
 have w:=KN g;have⟨T,f⟩:∃T,T=uM (X x+1) (2*nw x+d0):=⟨_,O⟩;have n:2*nw x+d0<4294967296^(X x+1):=by rw[xbi];lia
 have o:X T=X x+1:=by rw[f,xh]
 have h:nw T=2*nw x+d0:=by rw[f,VG,xag n]
 have k:xv T:=by rw[f];exact jU _ _
 have l:T=T.take (X x)++[T.getD (X x) 0]:=by
  have e:=(xbw (X x) T).symm;have b:T.drop (X x)=[T.getD (X x) 0]:=by
   rw[xbK W,xbS W,Yh,xaa W];rfl
  rw[b]at e;exact e
 refine⟨T.take (X x),T.getD (X x) 0,?_,by rw[<-l];exact k,by rw[xap];lia,by rw[<-l];exact h⟩;refine zt (λs:N K×N K×N K×K×J=>∃(t:N K) (c i:K),s=(t1,t2,t,c,(i:J))/\i<=X x/\X t=i/\xv t/\c<=1/\nw t+4294967296^i*c=2*nw (x.take i)+d0) (λs=>X x-s.2.2.2.2.toNat) _ ?_ _ _ ⟨[],d0,0,O,W,O,xv.nil,hd,by simp[nw]⟩ (by show X x-0<fu;lia);rintro s L ⟨t,c,i,rfl,hi,a,m,hc,hv⟩ p;unfold dU;simp only;by_cases h1:i<X x
 ·have b1:=g.getD i;have b:(x.getD i 0*2%18446744073709551616+c)%18446744073709551616=x.getD i 0*2+c:=W
  have q:x.getD i 0/2^(min (((31:K)):J).toNat 64)=(x.getD i 0*2+c)/4294967296:=by
   rw[(YL:min (((31:K)):J).toNat 64=31)];lia
  rw[zS,zo h1,Q,Q,Q,b,Q,R4,xi (by simp[a];lia),Q,zo h1,Q,Q,q,zb];exact p _ ⟨_,_,i+1,O,W,by simp[a],m.append<|xv.cons (xaI _ YL) xv.nil,W,zcS a hv⟩ (by show X x-((i:J)+1).toNat<X x-(i:J).toNat;lia)
 ·rw[zA];obtain rfl:i=X x:=W
  rw[xcA]at hv;have u:xv (t++[c]):=m.append<|xv.cons W xv.nil;have:T=t++[c]:=by
   refine Si k u (by simp[a,o]) ?_;rw[h,Nq,a,hv]
  have e1:T.take (X x)=t:=by rw[this,<-a];simp
  have b:T.getD (X x) 0=c:=by rw[this,<-a];simp[Yh]
  rw[e1,b]
theorem zur(b:0<y):(y<=2*(U/2^(i+1)%y)+U/2^i%2->U/2^i/y=2*(U/2^(i+1)/y)+1/\U/2^i%y=2*(U/2^(i+1)%y)+U/2^i%2-y)/\(2*(U/2^(i+1)%y)+U/2^i%2<y->U/2^i/y=2*(U/2^(i+1)/y)/\U/2^i%y=2*(U/2^(i+1)%y)+U/2^i%2):=by
 have d:U/2^(i+1)=U/2^i/2:=by rw[xbi,xaB]
 rw[d];generalize U/2^i=V;have h1:=xbj (V/2) y;have e:=xaI (V/2) b;generalize V/2/y=q at*
 generalize V/2%y=r at*
 have a:∀Q R,V=y*Q+R->R<y->V/y=Q/\V%y=R:=λQ R h c=>by
  rw[h];exact⟨by rw[Nat.mul_add_div b,xbc c,xbM],by rw[Nat.mul_add_mod,xag c]⟩
 refine⟨λh=>a _ _ ?_ W,λh=>a _ _ ?_ W⟩
 ·grind
 ·grind
def zyO(x:K):x &&& 1=x%2:=Nat.and_two_pow_sub_one_eq_mod x 1
def zld(a:r<32):U/4294967296^j%4294967296/2^r%2=U/2^(32*j+r)%2:=by
 rw[xbq,xbT,(YL:2^32=4294967296),<-xaB];rw[show 4294967296=2^r*2^(32-r)by rw[<-xbq,(W:r+(32-r)=32)],Nat.mod_mul_right_div_self,show 2^(32-r)=2*2^(31-r)by rw[<-xdH,(W:(31-r).succ=32-r)],Nat.mod_mul_right_mod]
def zuu{Q:K}(d:r<32):(Q*2^(32*j+r+1)/4294967296^j%4294967296)|||1*2^r%18446744073709551616=Q*2^(32*j+r+1)/4294967296^j%4294967296+2^r/\Q*2^(32*j+r+1)/4294967296^j%4294967296+2^r<4294967296:=by
 have e1:Q*2^(32*j+r+1)/4294967296^j=Q*2^(r+1):=by rw[xcL,xbq,xbT,(YL:(2:K)^32=4294967296),xfe,Nat.mul_div_cancel_left _<|xaP YL]
 have b:Q*2^(r+1)%4294967296=Q%2^(31-r)*2^(r+1):=by rw[show(4294967296:K)=2^(31-r)*2^(r+1)by rw[<-xbq,(W:31-r+(r+1)=32)],xdV]
 have h1:2^r<2^(r+1):=xdE YL W;have e:2^r<=2147483648:=by
  rw[(YL:(2147483648:K)=2^31)];exact xam YL W
 rw[e1,b,xbL,xag (a:=2^r) W,zdI h1];refine⟨O,?_⟩;have c:(Q%2^(31-r)+1)*2^(r+1)<=2^(31-r)*2^(r+1):=xaf _ (xaI _<|xaP YL);rw[<-xbq,(W:31-r+(r+1)=32),xaT,xbL]at c;lia
def znh(k:0<y)(hu:X (Js U)<=80000)(A:X (Js y)<=80000)(hf:3000000<=fu):
 zg (eD fu (Js y)<|Js U) fu ([],32*((X (Js U):K):J)-1,sR (X (Js U)) 0)=Z (Js<|U%y,uM (X (Js U))<|U/y):=by
 have⟨n,hn⟩:∃n,n=X (Js U):=⟨_,O⟩;have c:U<2^(32*n):=by
  rw[xbT,(YL:(2:K)^32=4294967296)];exact(vK _ _).1 W
 rw[<-hn];refine zt (λs:N K×J×N K=>∃(m:K),m<=32*n/\s=(Js<|U/2^m%y,(m:J)-1,uM n<|U/2^m/y*2^m)) (λs=>(s.2.1+1).toNat) _ ?_ _ _ ⟨32*n,eZ _,?_⟩ (by show(32*(n:J)-1+1).toNat<fu;lia)
 ·rintro s L ⟨m,hm,rfl⟩ l;unfold eD;simp only
  cases m with
  |zero=>rw[zA,xeA,xdz,xdl]
  |succ i=>
   have⟨j,B⟩:∃j,j=i/32:=⟨_,O⟩;have⟨r,C⟩:∃r,r=i%32:=⟨_,O⟩;have hd:r<32:=W
   have hi:i=32*j+r:=W
   have D:((i+1:K):J)-1=(i:J):=W
   have E:xbQ (i:J) (32:J)=(j:J):=by rw[B];rfl
   have F:xbn (i:J) (32:J)=(r:J):=by rw[C];rfl
   have b:j<n:=W
   have a:min (r:J).toNat 64=r:=W
   have G:(Js U).getD j 0=U/4294967296^j%4294967296:=by rw[ig<|jr U,jM]
   have H:(Js U).getD j 0/2^r%2=U/2^i%2:=by rw[G,zld hd,<-hi]
   have o:=xaI (U/2^(i+1)) k;have⟨R,e⟩:∃R,R=U/2^(i+1)%y:=⟨_,O⟩;rw[<-e]at o;have hv:y<4294967296^X (Js y):=(vK _ _).1<|eZ _;have hz:X (Js R)<=80000:=PX ((vK (X (Js y)) R).2<|xeO o hv) A;have hl:X (Js<|2*R+U/2^i%2)<=1000000:=by
    refine PX ((vK (X (Js y)+1) _).2 ?_) (W:X (Js y)+1<=1000000);rw[xbi];lia
   have⟨t,d,g1,M,f,p⟩:=zqp (fu:=fu) (d0:=U/2^i%2) (t1:=Js y) (t2:=Js U) (jr R) W W W;rw[jM]at p;have⟨q,u⟩:=zur (U:=U) (i:=i) k;rw[<-e]at q u;have P:U/2^(i+1)/y*2^(i+1)<4294967296^n:=by
    rw[show(4294967296:K)^n=2^(32*n)by rw[xbT,(YL:(2:K)^32=4294967296)]];refine xaG ?_ c;exact PX (xaf _<|xcd _ _)<|xcI _ _
   have v:2*(U/2^(i+1)/y)*2^i=U/2^(i+1)/y*2^(i+1):=by rw[xbi,xaH<|2^i,<-xbe,xaH 2]
   rw[D,<-e,zS,xi YL,E,zb,yc,ze,xi YL,F,ze,yM,ze,a,ze,zyO,H];rw[za g1];simp only;rw[xi (by simp[f];lia),ze,za (ai M (by simp[f];lia)<|by simp[f];lia),p,za (bj (fu:=fu) (jr _) (jr y) ?_ W W),jM,jM];by_cases hc:y<=2*R+U/2^i%2
   ·have⟨w1,g⟩:=q hc;have T:(0:J)<=ke ((2*R+U/2^i%2:K):J) (y:J):=by
     rcases xbO y (2*R+U/2^i%2)with h|h
     ·rw[qu<|Int.ofNat_lt.2 h];decide
     ·rw[ua<|by rw[xcH h hc]];decide
    have⟨o1,o2⟩:=zuu (Q:=U/2^(i+1)/y) (j:=j) hd;rw[<-hi]at o1 o2;have w:(uM n<|U/2^(i+1)/y*2^(i+1)).getD j 0=U/2^(i+1)/y*2^(i+1)/4294967296^j%4294967296:=zaT _ _ _ b;have hp:(uM n<|U/2^(i+1)/y*2^(i+1)).set j (U/2^(i+1)/y*2^(i+1)/4294967296^j%4294967296+2^r)=uM n (U/2^i/y*2^i):=by
     refine Si ((jU _ _).set j o2) (jU _ _) (by rw[xbz,xh,xh]) ?_;have h1:=zdo (uM n<|U/2^(i+1)/y*2^(i+1)) j (U/2^(i+1)/y*2^(i+1)/4294967296^j%4294967296+2^r) (by rw[xh];exact b);rw[w,VG,xag P,xbV]at h1;have h2:4294967296^j*2^r=2^i:=by rw[hi,xbq,xbT,(YL:(2:K)^32=4294967296)]
     have V:U/2^i/y*2^i=U/2^(i+1)/y*2^(i+1)+2^i:=by rw[w1,xaT,xbL,v]
     have Y:U/2^i/y*2^i<4294967296^n:=by
      rw[show(4294967296:K)^n=2^(32*n)by rw[xbT,(YL:(2:K)^32=4294967296)]];refine xaG ?_ c;exact PX (xaf _<|xcd _ _)<|xcI _ _
     rw[VG,xag Y,V];lia
    rw[S T,za O,S O,za (mH (fu:=fu) (jr _) (jr y) hl W<|by rw[jM,jM];exact hc),jM,jM];rw[xi YL,zb,xi YL,zb,zo (by rw[xh];exact b),ze,xi YL,ze,yM,a,ze,ze,w,o1,zo (by rw[xh];exact b),ze,hp,zb,<-g];exact l _ ⟨i,W,O⟩ (by show((i:J)-1+1).toNat<(((i+1:K):J)-1+1).toNat;lia)
   ·have z:=xcT hc;have⟨w1,g⟩:=u z;rw[qN<|Int.ofNat_lt.2 z,ir YL,za O];simp only[xaj,wP];rw[zb,<-g,<-v,<-w1];exact l _ ⟨i,W,O⟩ (by show((i:J)-1+1).toNat<(((i+1:K):J)-1+1).toNat;lia)
   ·exact hl
 ·rw[xbc c,Nat.zero_mod,Nat.zero_div,xcs,HH,pj,(W:(32:J)*(n:J)-1=((32*n:K):J)-1)]
def Ta{a b:N K}(c:zn a)(d:zn b)(hd:X a<=40000)(h:X b<=40000)(e:3000000<=fu):
 dj fu a b=Z (if nv b=0 then([],[],3)else(yN<|nv a/nv b,yN<|nv a%nv b,0)):=by
 unfold dj;have l1:=JO c;have k:=JO d;have f:=wj (fu:=fu) c;rw[za<|wj d];generalize nv a=U at*
 generalize nv b=y at*
 by_cases h0:y=0
 ·subst h0;rfl
 ·have l:=zgH (n:=y) W;have hc:U<4294967296^X (Js U):=(vK _ _).1<|eZ _;have hi:X (Js<|U%y)<=X (Js y):=(vK _ _).2<|xeO (xaI _ W)<|(vK _ _).1<|eZ _;rw[zA,ir h0,za f,yU,yM,Q,zb,zb,za<|znh W W W e];simp only;have g:U/y<4294967296^X (Js U):=xaG (xcd _ _) hc;rw[za (uo (jU _ _) (by rw[xh];lia)<|by rw[xh];lia),VG,xag g,za (uo (jr _) W W),jM]
end
section
variable{k fu:zV}{x y:zI}{a b m:Zr}
def mI(z:G):Prop:=zn z.2/\X z.2<=40000
theorem mI.ok{z:G}(h:mI z):iw z:=⟨h.1,PX h.2 YL⟩
def Bz.okS(h:Bz k x)(c:k<=40000):mI (yf x):=⟨yx x,PX ((zN _ _).2 h) c⟩
def Bz.len(h:Bz k x):(yf x).2.length<=k:=(zN _ _).2 h
theorem zjH{q r:J}(c:y≠0)(h:y*q+r=x)(h0:0<=r:=by lia)(h1:r<(y.natAbs:J):=by lia):x/y=q/\x%y=r:=by grind [Int.ediv_emod_unique',Int.ediv_emod_unique]
def zaD(x y:J):G×G×J:=if y=0 then((yL,[]),(yL,[]),3)else(yf<|x/y,yf<|x%y,0)
theorem zfG{q0 r0:K}(n:nv b.2≠0)(j:q0=nv a.2/nv b.2)(f:r0=nv a.2%nv b.2):
 (¬(a.1=I/\0<r0)->zv a/zv b=(if(!(a.1==b.1))=I then-(q0:J)else(q0:J))/\zv a%zv b=(r0:J))/\
 (a.1=I/\0<r0->zv a/zv b=(if(!(a.1==b.1))=I then-((q0+1:K):J)else((q0+1:K):J))/\zv a%zv b=((nv b.2-r0:K):J)):=by
 have hd:=xbj (nv a.2)<|nv b.2;have l:=xaI (nv a.2) (W:0<nv b.2);rw[<-j,<-f]at hd;rw[<-f]at l;have g:zv b≠0:=by have:=jT b;lia
 have o:=jT b;have hc:((nv b.2:K):J)*(q0:J)+(r0:J)=((nv a.2:K):J):=by rw[<-hd];simp
 refine⟨λh=> ?_,λh=> ?_⟩
 ·refine zjH g ?_;rcases wv a with⟨h1,e⟩|⟨h1,e⟩<;>rcases wv b with⟨c,d⟩|⟨c,d⟩<;>rw[h1,c,e,d]
  ·grind
  ·grind
  ·rw[S YL,Int.neg_mul_neg];lia
  ·rw[ir YL];lia
 ·refine zjH g ?_;have⟨h1,hp⟩:=h;have e1:((nv b.2-r0:K):J)=((nv b.2:K):J)-(r0:J):=W
  have i:((nv b.2:K):J)*(((q0+1:K)):J)=((nv b.2:K):J)*(q0:J)+((nv b.2:K):J):=by rw[xeT,xfg];simp
  rcases wv a with⟨_,e⟩|⟨h,_⟩
  ·rcases wv b with⟨c,d⟩|⟨c,d⟩<;>rw[h1,c,e,d,e1]
   ·rw[ir YL,Int.neg_mul,i];lia
   ·rw[S YL,Int.mul_neg,i];lia
  ·rw[h1]at h;cases h
theorem MJ:zv b=0↔nv b.2=0:=by
 have:=jT b;lia
theorem fH(d:mI a)(c:mI b)(j:3000000<=fu):Qt fu a b=Z (zaD (zv a)<|zv b):=by
 unfold Qt zaD;have l:=d.2;have i:=c.2;rw[U<|C9 d.1 c.1 W W j];by_cases h0:nv b.2=0
 ·rw[S h0,S<|MJ.2 h0];rfl
 ·rw[ir h0,ir<|λh=>h0<|MJ.1 h];simp only[wN];have⟨q0,e⟩:∃q0,q0=nv a.2/nv b.2:=⟨_,O⟩;have⟨r0,f⟩:∃r0,r0=nv a.2%nv b.2:=⟨_,O⟩;have n:X (yN q0)<=40000:=by
   refine PX ((zN (X a.2) q0).2 ?_) l;rw[e];exact xaG (xcd _ _)<|q9 d.1
  have hd:r0<nv b.2:=by rw[f];exact xaI _ W
  have lr:X (yN r0)<=40000:=PX ((zN (X b.2) r0).2<|xeO hd<|q9 c.1) i;have o:X (yN<|nv b.2-r0)<=40000:=PX ((zN (X b.2) _).2<|xaG (xeN _ _)<|q9 c.1) i;have⟨k1,k2⟩:=zfG h0 e f;rw[<-e,<-f];have p:X (yN<|q0+1)<=40001:=Ym (y:=1) n YL;by_cases hc:a.1=I/\0<r0
  ·have⟨w1,g⟩:=k2 hc;have:=qi hc.2;rw[S hc.1,zS,U (v:=(yN<|q0+1,yN<|nv b.2-r0))]
   ·rw[w1,g];simp only;rw[Q,U (yW (zz _) W W),U (yW (zz _) W W),ym,ym];rfl
   ·rw[U (YW (zz _) (pz YL) W Xn<|by simp;lia),ym,Ph,U (Uo c.1 (zz _) W W W),ym,zA]
  ·have⟨w1,g⟩:=k1 hc;rw[U (v:=(yN q0,yN r0))]
   ·rw[w1,g];simp only;rw[Q,U (yW (zz _) W W),U (yW (zz _) W W),ym,ym];rfl
   ·by_cases h1:a.1=I
    ·have:r0=0:=xfa λhp=>hc ⟨h1,hp⟩;subst this;rw[S h1,ir YL]
    ·rw[ir h1]
theorem aX(e:mI a)(c:mI b)(d:3000000<=fu):Wv fu a b=Z (zaD (zv a)<|zv b):=by
 unfold Wv zaD;have l:=e.2;have j:=c.2;rw[U<|Ta e.1 c.1 W W d];by_cases h0:nv b.2=0
 ·rw[S h0,S<|MJ.2 h0];rfl
 ·rw[ir h0,ir<|λh=>h0<|MJ.1 h];simp only[wN];have⟨q0,f⟩:∃q0,q0=nv a.2/nv b.2:=⟨_,O⟩;have⟨r0,g⟩:∃r0,r0=nv a.2%nv b.2:=⟨_,O⟩;have n:X (yN q0)<=40000:=by
   refine PX ((zN (X a.2) q0).2 ?_) l;rw[f];exact xaG (xcd _ _)<|q9 e.1
  have hd:r0<nv b.2:=by rw[g];exact xaI _ W
  have lr:X (yN r0)<=40000:=PX ((zN (X b.2) r0).2<|xeO hd<|q9 c.1) j;have o:X (yN<|nv b.2-r0)<=40000:=PX ((zN (X b.2) _).2<|xaG (xeN _ _)<|q9 c.1) j;have⟨k1,k2⟩:=zfG h0 f g;rw[<-f,<-g];have p:X (yN<|q0+1)<=40001:=Ym (y:=1) n YL;by_cases hc:a.1=I/\0<r0
  ·have⟨w1,i⟩:=k2 hc;have:=qi hc.2;rw[S hc.1,zS,U (v:=(yN<|q0+1,yN<|nv b.2-r0))]
   ·rw[w1,i];simp only;rw[Q,U<|y6 (zz _) (by show(yN _).length<=_;lia) d,U<|y6 (zz _) (by show(yN _).length<=_;lia) d,RY,RY];rfl
   ·rw[U (ou (zz _) (pz YL) W Xn W),ym,Ph,U (ae c.1 (zz _) W W W),ym,zA]
  ·have⟨w1,i⟩:=k1 hc;rw[U (v:=(yN q0,yN r0))]
   ·rw[w1,i];simp only;rw[Q,U<|y6 (zz _) (by show(yN _).length<=_;lia) d,U<|y6 (zz _) (by show(yN _).length<=_;lia) d,RY,RY];rfl
   ·by_cases h1:a.1=I
    ·have:r0=0:=xfa λhp=>hc ⟨h1,hp⟩;subst this;rw[S h1,ir YL]
    ·rw[ir h1]
def Ee(x m:J):G×J:=if m<=0 then((yL,[]),1)else(yf<|x%m,0)
def near(x m:J):J:=if m<x%m+x%m then x%m-m else x%m
def zp4(x m:J):G×J:=if m<=0 then((yL,[]),1)else(yf<|near x m,0)
theorem Bz.emod{m:J}(c:Bz k m)(h0:0<m):Bz k (x%m):=by
 have h1:=xcJ x (W:m≠0);have d:=xdw x h0;exact c.le W
theorem Bz.near{k:K}{x m:J}(c:Bz k m)(h0:0<m):Bz k (near x m):=by
 have h1:=xcJ x (W:m≠0);have d:=xdw x h0;refine c.le ?_;unfold Go.Proofs.YtdpdofimolhigaaGreat.near;lia
theorem Nk:ke x 0<=0↔x<=0:=by grind [qN,ua,qu]
theorem E8:0<ke x y↔y<x:=by grind [qN,ua,qu]
theorem xK:ke x y=0↔x=y:=by grind [qN,ua,qu]
theorem XG(c:mI a)(d:mI m)(e:3000000<=fu):jX fu a m=Z (Ee (zv a)<|zv m):=by grind [jX,zaD,Ee,U,xM,mI.ok,Nk,fH]
theorem Lu(c:mI a)(d:mI m)(e:3000000<=fu):UG fu a m=Z (Ee (zv a)<|zv m):=by grind [UG,zaD,Ee,U,qx,mI.ok,Nk,aX]
def L4(g:mI a)(d:mI m)(f:3000000<=fu):Vz fu a m=Z (zp4 (zv a)<|zv m):=by
 unfold Vz zp4;rw[U<|XG g d f];unfold Ee;by_cases h:zv m<=0
 ·simp_all
 ·have c:Bz 40000 (zv a%zv m):=Bz.emod ((Bz.of d.1).mono d.2) W;rw[ir h,ir h];simp only[wN];have hl:=d.2;have i:=(c.add c).ok W;have j:=(c.add c).len;rw[U<|ku (c.okS W).ok (c.okS W).ok f,zm,U<|Xl i d.ok f,zm];unfold near;by_cases hc:zv m<zv a%zv m+zv a%zv m
  ·rw[S<|E8.2 hc,S hc,U<|kF (c.okS W).ok d.ok f,zm]
  ·rw[ir<|λe=>hc<|E8.1 e,ir hc]
end
section
variable{f g:zV->zI}{j m k fu:zV}{p:zC Zr}
def zi(n:K)(f:K->J):N G:=(xaE n).map λk=>yf<|f k
def cf(p:N G)(k:K):J:=zv<|p.getD k (yL,[])
def dg(f:K->J):K->K
 |0=>0
 |n+1=>if f n=0 then dg f n else n+1
def xW(n:K)(f:K->J):N G:=zi (dg f n) f
def yQ(k:K)(p:N G):Prop:=∀z∈p,zn z.2/\X z.2<=k
def Xg(f:K->J)(j:K)(v:J):K->J:=λk=>if k=j then v else f k
theorem YV(p:N G)(k:K):zv (p.getD k (yL,[]))=cf p k:=O
theorem yh(n:K)(f:K->J):X (zi n f)=n:=by unfold zi;simp
theorem XC{n:K}(h:j<n):(zi n f).getD j (yL,[])=yf (f j):=by simp_all [zi]
theorem xp{n:K}(h:∀k,k<n->f k=g k):zi n f=zi n g:=by simp_all [zi]
theorem iC{n:K}{v:J}:(zi n f).set j (yf v)=zi n (Xg f j v):=by
 refine xcC λi=> ?_;unfold zi Xg;by_cases h:j=i
 ·grind
 ·grind
theorem znk:yf 0=(yL,[]):=O
theorem gY(n:K):sR n (yL,[])=zi n (λ_=>0):=by grind [zi,znk,List.map_const',xeg]
theorem te{n:K}:zi n f++[yf<|f n]=zi (n+1) f:=by grind [zi,xdb]
theorem zeY{n:K}(h:j<n):cf (zi n f) j=f j:=by unfold cf;rw[XC h,zm]
theorem zY(h:X p<=j):cf p j=0:=by
 unfold cf;rw[Yh,xbB h];rfl
theorem cn{n:K}(h:∀k,n<=k->f k=0)(j:K):cf (zi n f) j=f j:=by grind [zeY,zY,yh]
theorem qH(f:K->J):∀n,dg f n<=n
 |0=>eZ _
 |n+1=>by unfold dg;split;exact PX (qH f n)<|xbG _;exact eZ _
theorem Kf(f:K->J):∀n k,dg f n<=k->k<n->f k=0
 |0,k,_,h=>wl h<|xbf _
 |n+1,k,h1,a=>by
  unfold dg at h1;split at h1
  ·rename_i h0;by_cases b:k=n
   ·simp_all
   ·exact Kf f n k h1 W
  ·lia
theorem Kh(f:K->J):∀n,dg f n≠0->f (dg f n-1)≠0
 |0,h=>wl O h
 |n+1,h=>by
  unfold dg at h⊢;split
  ·rename_i h0;rw[S h0]at h;exact Kh f n h
  ·simp_all
theorem dw{n d:K}(h1:d<=n)(b:∀k,d<=k->k<n->f k=0)(h3:d=0\/f (d-1)≠0):dg f n=d:=by
 have a:=qH f n;rcases Nat.lt_trichotomy (dg f n) d with h|h|h
 ·obtain h3|h3:=h3
  ·lia
  ·exact wl (Kf f n (d-1) W W) h3
 ·exact h
 ·exact wl (b (dg f n-1) W W)<|Kh f n W
theorem VM{n:K}(b:∀k,n<=k->f k=0)(c:∀k,m<=k->g k=0)(h:∀k,f k=g k):xW n f=xW m g:=by
 have e:dg f n=dg g m:=by
  refine dw ?_ ?_ ?_
  ·refine xbl λd=> ?_;have:=Kh g m W;grind
  ·intro k h1 i;rw[h];by_cases a:k<m
   ·exact Kf g m k h1 a
   ·simp_all
  ·by_cases h0:dg g m=0
   ·lia
   ·right;rw[h];exact Kh g m h0
 unfold xW;rw[e];exact xp λk _=>h k
theorem xJ(n:K)(f:K->J):X (xW n f)=dg f n:=yh _ _
def kz{n:K}(h:∀k,n<=k->f k=0)(j:K):cf (xW n f) j=f j:=by
 refine cn (λk a=> ?_) j;by_cases hn:k<n
 ·exact Kf f n k a hn
 ·simp_all
def yQ.get(h:yQ k p)(j:K):zn (p.getD j (yL,[])).2/\(p.getD j (yL,[])).2.length<=k:=by
 rw[Yh];by_cases a:j<X p
 ·rw[xaa a];exact h _<|xbx a
 ·rw[xbB W];exact⟨zn.nil,sB _⟩
theorem yQ.okZ(h:yQ k p)(a:k<=100000)(j:K):iw (p.getD j (yL,[])):=⟨(h.get j).1,PX (h.get j).2 a⟩
def yQ.okS(h:yQ k p)(a:k<=40000)(j:K):mI (p.getD j (yL,[])):=⟨(h.get j).1,PX (h.get j).2 a⟩
theorem yQ.bz(h:yQ k p)(j:K):Bz k (cf p j):=(Bz.of (h.get j).1).mono (h.get j).2
def yQ.mono(h:yQ j p)(b:j<=k):yQ k p:=λz a=>⟨(h z a).1,PX (h z a).2 b⟩
theorem Bz.zero(k:K):Bz k 0:=xaP YL
def Y6{n:K}(h:∀j,Bz k<|f j):yQ k (zi n f):=λz a=>by
 obtain⟨j,_,rfl⟩:=xan.1 a;exact⟨yx _,(h j).len⟩
def MY{a:J->G->V G}(hl:X p<=1000000)(l:2000000<fu)(h:∀j:K,j<X p->a (j:J) (p.getD j (yL,[]))=Z (yf<|g j)):
 zM fu p a=Z (zi (X p) g):=by
 unfold zM;rw[yU,yM,Q,gY,U];refine zt (λs:J×N G=>∃i:K,i<=X p/\s=((i:J),zi (X p) (λk=>if k<i then g k else 0))) (λs=>X p-s.1.toNat) _ ?_ _ _ ⟨0,sB _,by rw[xp (g:=λk=>if k<0 then g k else 0)<|λk _=>by rw[zA]];rfl⟩ (by show X p-0<fu;lia);rintro s L ⟨i,hi,rfl⟩ c;unfold vJ;simp only;by_cases h1:i<X p
 ·rw[zS,U O];simp only[wN];rw[zo h1,Q,U<|h i h1,zo (by rw[yh];exact h1),Q,iC,zb];refine c _ ⟨i+1,W,?_⟩ (by show X p-((i:J)+1).toNat<X p-(i:J).toNat;lia);congr 1;refine xp λk d=> ?_;unfold Xg;by_cases e:k=i
  ·rw[S e,zS,e]
  ·rw[ir e];show(if k<i then g k else 0)=_;by_cases b:k<i
   ·rw[S b,zS]
   ·rw[ir b,zA]
 ·rw[zA,U O];simp only[xaj,wP];congr 1;exact xp λk d=>by rw[zS]
def fZ(h:f m=0):dg f (m+1)=dg f m:=by conv=>lhs;unfold dg;rw[S h]
def a8(h:f m≠0):dg f (m+1)=m+1:=by conv=>lhs;unfold dg;rw[ir h]
theorem zbE(h:j<m):(p.take m).getD j (yL,[])=p.getD j (yL,[]):=by grind
theorem zP(h:yQ k p)(c:k<=100000)(hl:X p<=1000000)(d:3000000<=fu):ya fu p=Z (xW (X p)<|cf p):=by
 unfold ya;have hd:=qH (cf p) (X p);rw[U (v:=p.take<|dg (cf p) (X p))]
 ·have a:X (p.take<|dg (cf p) (X p))=dg (cf p) (X p):=by rw[xap];lia
  rw[U<|MY (g:=cf p) W W ?_,a]
  ·rfl
  ·intro j i;rw[a]at i;unfold bh;rw[zbE i,U<|XH (h.okZ c j) d];rfl
 ·refine zt (λt:N G=>∃m,m<=X p/\t=p.take m/\dg (cf p) m=dg (cf p) (X p)) (λt=>X t) _ ?_ _ _ ⟨X p,eZ _,xcA.symm,O⟩ W;rintro t L ⟨m,n,rfl,b⟩ l;have a:X (p.take m)=m:=by rw[xap];lia
  unfold o5
  cases m with
  |zero=>
   rw[zA,<-b];rfl
  |succ m=>
   rw[zS,a,(W:((m+1:K):J)-1=(m:J)),zb,yc,Q,zbE W,U<|xM (h.okZ c m) d,YV];by_cases h0:cf p m=0
   ·rw[S<|xK.2 h0,zb,yU,yM,Q,List.take_take,(W:min m (m+1)=m)];exact l _ ⟨m,W,O,by rw[<-fZ h0,b]⟩<|by rw[a,xap];lia
   ·rw[ir<|λe=>h0<|xK.1 e,<-b,a8 h0]
theorem yw(h:yQ k p)(d:k<=100000)(hl:X p<=1000000)(c:3000000<=fu):yZ fu p=Z (xW (X p)<|cf p):=by
 unfold yZ;have hd:=qH (cf p) (X p);rw[U (v:=((dg (cf p) (X p):K):J))]
 ·rw[U (v:=xW (X p)<|cf p)];unfold xW;refine zt (λs:N G×J=>∃i:K,i<=dg (cf p) (X p)/\s=(zi i<|cf p,(i:J))) (λs=>X p-s.2.toNat) _ ?_ _ _ ⟨0,sB _,O⟩ (by show X p-0<fu;lia);rintro s L ⟨i,hi,rfl⟩ a;unfold se;simp only;by_cases h1:i<dg (cf p) (X p)
  ·rw[zS,yc,Q,U<|y6 (h.get i).1 (by have:=(h.get i).2;lia) c,xi (by rw[yh];simp;lia),Q,zb];exact a _ ⟨i+1,W,by rw[<-te];rfl⟩ (by show X p-((i:J)+1).toNat<X p-(i:J).toNat;lia)
  ·grind
 ·refine zt (λi:J=>∃m:K,i=(m:J)/\m<=X p/\dg (cf p) m=dg (cf p) (X p)) (λi=>i.toNat) _ ?_ _ _ ⟨X p,O,eZ _,O⟩ W;rintro i L ⟨m,rfl,l,b⟩ a;unfold nK
  cases m with
  |zero=>rw[zA,<-b];rfl
  |succ m=>
   rw[zS,(W:((m+1:K):J)-1=(m:J)),zb,yc,Q,U<|qx (h.okZ d m) c,YV];by_cases h0:cf p m=0
   ·rw[S<|xK.2 h0,zb];exact a _ ⟨m,O,W,by rw[<-fZ h0,b]⟩ W
   ·rw[ir<|λe=>h0<|xK.1 e,<-b,a8 h0]
end
end Go.Proofs.YtdpdofimolhigaaGreat
