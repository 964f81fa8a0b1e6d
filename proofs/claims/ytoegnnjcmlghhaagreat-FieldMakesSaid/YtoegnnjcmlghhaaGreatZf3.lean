/- What a proof needs: rules of walking, mirrors of functions and their plain laws. No condition. -/
import Derived.Test.YtoegnnjcmlghhaaGreatZf2
import Derived.RangeFuncLeaves
set_option linter.all false
namespace Go.Proofs.YtoegnnjcmlghhaaGreat
open Bool renaming false->I,true->wF
open Go renaming Value->wN,World->wP,TypeId->wT,Operand->v6,Program->jp,execOp->jP,run_underlying->kw,undef->uP,Oper->uS,FuncId->Z5,Tmp->Z9,Code->Wn,resolve->Wr,wpListIn->Ww,maxLen->WP,wpIn_mono->WT,invoke->V1,asIntOf->V4,Func->QR,Act->Jp,Addr->JP,builtin->Ul,Exit->bI,Loop->ce,goInt->eM
open Go.Proofs.YtoegnnjcmlghhaaGreat renaming Zr->M,bd->Y,za->U,nm->B,ze->Q
open List renaming length->X,length->i0
open Nat renaming beq->E
open Option renaming some->Z,none->wL
open _root_ renaming rfl->O,List->N,Int->J,Nat->K,Option->V,List->xS,Nat->wr,Option->ww,absurd->wR,trivial->wS,Bool->wW,funext->qR,congrArg->kW,Array->ul,if_false->ut,if_true->uL,cond_true->Z0,cond_false->Z2,True->XS,reduceCtorEq->Ws,decide_eq_true_eq->WW,reduceIte->V5,False->V6
open Bool renaming and_eq_true->xab,false_eq_true->xak,false_or->xet,not_eq_true'->xcV,not_false->xeQ,not_true->xcW,or_eq_true->xdQ
open Deferred renaming ofValue->xdJ
open Instr renaming slice->xfP,sliceAt->xde,sliceBound->xev,sliceBounds->xem
open List renaming all_eq_true->xaN,any_eq_true->xeR,append_assoc->xaf,append_nil->xbP,cons_append->xbF,drop->xdM,ext_getElem?->xcH,filterMap_cons->xaM,filterMap_eq_nil_iff->xek,filter_cons->xfK,getD->xex,getElem?_append_left->xaR,getElem?_append_right->xbj,getElem?_cons_zero->xbB,getElem?_eq_getElem->xah,getElem?_eq_some_iff->xaq,getElem?_map->xcg,getElem?_take->xcA,length->xaF,length_append->xap,length_cons->xau,length_drop->xbR,length_eq_one_iff->xcN,length_eq_zero_iff->xbs,length_map->xbd,length_replicate->xaZ,length_set->xbC,length_take->xax,map_append->xaW,map_congr_left->xci,map_cons->xcb,map_nil->xeC,map_toArray->xdX,mem_append->So,mem_cons->xaa,mem_cons_of_mem->UV,mem_cons_self->FS,mem_filter->xcj,mem_filterMap->xfh,mem_iff_getElem?->xfE,mem_map->xat,mem_of_getElem?->xbq,mem_of_mem_drop->xeO,mem_or_eq_of_mem_set->xej,mem_range->xbe,mem_singleton->xad,nil_append->xby,not_mem_nil->IR,perm_append_comm_assoc->xdT,perm_middle->xcn,set->xgb,set_getElem_self->xdk,singleton_append->xfD,take->xdB,take_length->xcw,take_of_length_le->xaQ
open List.Perm renaming append_left->xbL,append_right->xfp,refl->xdy,swap->xdP
open List.cons renaming injEq->xeF
open Nat renaming add_sub_cancel_left->xff,beq->xaj,blt->xdh,eq_of_beq_eq_true->xcP,eq_zero_or_pos->xcB,le_add_right->xbM,le_mul_of_pos_right->xcf,le_of_ble_eq_true->xbJ,le_refl->Nm,le_succ->xbN,le_trans->xal,lt_of_le_of_lt->xaK,lt_of_lt_of_le->xao,lt_or_ge->xbW,lt_succ_of_lt->xfw,lt_succ_self->xbS,zero_add->xaJ,zero_le->xai,zero_lt_one->xdS
open Op renaming operands->xaC
open Oper renaming looksAt->xbA
open Option.some renaming injEq->xar
open Prod.mk renaming injEq->xcO
open Region renaming binds->xcv
open Result renaming andThen_ok->xag
open Sem renaming run_bind->xay,run_pure->xaG
open Sum renaming elim->xfB
open Value renaming bool->xey,cells->xfs
open _root_.Array renaming getElem?_eq_some_iff->xbi,mem_toList_iff->xdo
section
section
variable{P:jp}{cf:Cf}{fr:Fr}{cx σ:Sg}{vs vs':wr->wN}{env:y8}{w:wP}{R:Type}{r:R}
 {d:ww Z9}{ty t yt:wT}{pos:String}{aft:ul Edge}{g:ww (wr×wW)}{x y:v6}
theorem QU{ob:N (K×Od)}{o:K}{X Y:Od}(h:xz ob o=Z X):∀e∈jE ob o Y,∃a∈ob,a.1=e.1:=by grind [w8,xej,xbq]
def um:∀{ob:N (K×Od)}{o:K},∀e∈yu ob o,e∈ob
 |(a,X)::r,o,e,he=>by
  unfold yu at he;cases b:E a o<;>rw[b]at he
  ·obtain rfl|he:=xaa.1 he
   ·exact FS
   ·exact UV _<|um e he
  ·exact UV _ he
def fM{o:K}{X Y:Od}{v:wN}(b:Bd cx σ)(c:xz σ.ob o=Z X)(f:St fr.we fr.Se (OS vs fr cx<|jE σ.ob o Y) (GS P vs env fr cx σ) w):lS P fr cx σ.nx vs ⟨σ.nx,σ.rg,jE σ.ob o Y⟩ (put env wL v) w:=by
 refine Jn (σ':=⟨σ.nx,σ.rg,jE σ.ob o Y⟩) (d:=wL) (l:=[]) (vs:=vs) (vs':=vs) (Γl:=[]) b O O (Nm _) (λ_ _=>O) (λ_ a=>wR a IR) (λe a=> ?_) (λS w _ e a=>wR a IR) f;have⟨h,h1,i⟩:=QU c e a;rw[<-i];exact b.o1 h h1
def set_set{α:Type _}(l:N α)(i:K)(a b:α):(l.set i a).set i b=l.set i b:=gT
theorem vc{α:Type _}{l:N α}{i:K}{a b:α}(h:l[i]? =Z a):(l.set i b)[i]? =Z b:=by grind [xaq]
def rn{α:Type _}:∀(l:N α) (i:K) (a:α),(l.set i a).eraseIdx i=l.eraseIdx i
 |[],_,_=>by simp
 |_::_,0,_=>rfl
 |b::l,i+1,a=>by simp[rn l i a]
def nL{α:Type}{e:zV α}{E:wT}{xs:N α}{v:wN}{S:K->Prop}{b n cap:K}(h:(mO e E v xs).p S w)(hv:v=.slice (Z ⟨b,0,wL⟩) n cap):n=X xs:=by
 have⟨cs,c,i⟩:=h;rcases c.2 with⟨h,j⟩|⟨k,a,f,h,_⟩
 ·rw[hv]at h;cases h
 ·rw[hv]at h;cases h;rfl
def ziZ(hT:yZ P cf.tt){k:Sg->V R}{s:TI}(hC:ZG cf t=Z s)(h:S6 σ s.ty (xC cx σ x) (xC cx σ y) k=Z r):lY P cx ⟨wL,.store t x y,ty,pos,aft,g⟩ σ k r:=by
 have⟨U,u,_⟩:=Yt hT hC;unfold S6 at h;split at h
 ·next o _ A=>
  split at h
  ·next L E z l=>
   have⟨hD,h1⟩:=yj h;subst hD;have⟨q,h,B⟩:=WM h1;refine⟨_,h,Nm _,λfr vs env w C=> ?_⟩;have⟨D,hd⟩:=C;have⟨S0,_,e⟩:=hd.ex;have⟨i,hi,F,Y⟩:=w8 l;have a:(OS vs fr cx σ.ob)[i]? =Z (mP s.ty.rep.c E (vs o) z):=QS hi;have⟨b,hv,G⟩:=hd.openP i a;have⟨H,_⟩:=zj A<|zU e x;refine(kH (f:=s.ty.rep) (z':=z) (y':=q) (up:=id) i (vc a) (H.trans hv) O (Sub.self s.ty.rep z) u (λS w J=>B P vs env S w<|zU J y) w G).mono ?_;rintro v w' ⟨_,rfl,_,hl⟩;refine fM (vs:=vs) D l ?_;have m:=hl.toP i<|vc<|vc a;rw[set_set,set_set,<-hv]at m;rw[F];show St _ _ (MS vs (σ.ob.set i (o,.var s.ty E q))++_) _ _;rw[<-B2 hi];exact m
  ·cases h
 ·next o p f A=>
  split at h
  ·next L E z hc l _=>
   have⟨M,h1⟩:=yj h;subst M;have⟨q,N,B⟩:=WM h1;have⟨z2,Q,h⟩:=xJ N;have⟨hc⟩:=hc;refine⟨_,h,Nm _,λfr vs env w C=> ?_⟩;have⟨D,hd⟩:=C;have⟨S0,_,e⟩:=hd.ex;have⟨i,hi,F,Y⟩:=w8 l;have a:(OS vs fr cx σ.ob)[i]? =Z (mP L.rep.c E (vs o) z):=QS hi;have⟨b,hv,G⟩:=hd.openP i a;have⟨T,b',K,H⟩:=zj A<|zU e x;rw[hv]at K;cases K;rw[<-hc]at u;refine(kH (f:=f.f.rep) (z':=f.get z) (y':=q) (up:=λy=>f.set y z) i (vc a) H O (by rw[xaJ];exact T z) u (λS w J=>B P vs env S w<|zU J y) w G).mono ?_;rintro v w' ⟨_,rfl,_,hl⟩;refine fM (vs:=vs) D l ?_;have m:=hl.toP i<|vc<|vc a;rw[set_set,set_set,<-hv,<-Q]at m;rw[F];show St _ _ (MS vs (σ.ob.set i (o,.var L E z2))++_) _ _;rw[<-B2 hi];exact m
  ·cases h
 ·next o p j f A=>
  split at h
  ·next L E xs hc l _=>
   have⟨M,h1⟩:=yj h;cases M;have⟨q,N,B⟩:=WM h1;have⟨z2,Q,h⟩:=xJ N;have⟨hc⟩:=hc;refine⟨_,h,Nm _,λfr vs env w C=> ?_⟩;have⟨D,hd⟩:=C;have⟨S0,_,e⟩:=hd.ex;have⟨i,hi,F,Y⟩:=w8 l;have a:(OS vs fr cx σ.ob)[i]? =Z (mO p.rep E (vs o) xs):=QS hi;have⟨T,b,n,cap,hv,hj,H⟩:=zj A<|zU e x;have hn:n=xaF xs:=wo hd a λS hp=>nL hp hv;subst hn;have⟨b',a0,K,hE,hF,G⟩:=hd.openO i a<|xaK (xai _) hj;rw[hv]at K;cases K;rw[<-hc]at u;have hA:=(Sub.rowT0 p.rep cap xs j (xex xs j p.z)<|getD_some p.z hj).comp<|T<|xex xs j p.z;refine(kH (f:=f.f.rep) (y':=q) i (vc a) H O hA u (λS w J=>B P vs env S w<|zU J y) w G).mono ?_;rintro v w' ⟨_,rfl,_,hl⟩;refine fM (vs:=vs) D l ?_;have hu:X (xgb xs j<|f.set q<|xex xs j p.z)=xaF xs:=xbC ..;have m:=hl.closeF i (vc<|vc a) (by rw[hu];exact hE) hF;rw[set_set,set_set,hu,<-hv,<-Q]at m;rw[F];show St _ _ (MS vs (σ.ob.set i (o,.own p E z2))++_) _ _;rw[<-B2 hi];exact m
  ·cases h
 ·cases h
end
end
section
section
variable{P:jp}{cf:Cf}{fr:Fr}{cx σ:Sg}{vs vs':wr->wN}{env:y8}{w:wP}{R:Type}{r:R}
 {d:ww Z9}{ty t yt:wT}{pos:String}{aft:ul Edge}{g:ww (wr×wW)}{x y:v6}
def zf0{b:wT}{ag:wW}{f bytes:K}{a:wN}{hi:v6}(h:ev env x=.slice wL 0 0)(c:P.underlying t=Z (.slice b))(hc:QF P b ag f bytes a)
 (i:ev env hi=.int .i64 ((0:K):J)) (w:wP):(jP (ev env) ⟨d,.slice t x wL (Z hi) wL,ty,pos,aft,g⟩).run P w=.ok (.value (.slice wL 0 0)) w:=by
 have b1:(0:J)<=((0:K):J)/\((0:K):J)<=((0:K):J):=W
 have e:(xde t (.slice wL 0 0) wL (Z (.int .i64 ((0:K):J))) wL).run P w=.ok (.slice wL 0 0) w:=by
  unfold xde;simp only[xay,kw c,xag];unfold xfP;simp only[xay,kw c,xag];unfold xem;simp[xev,V4,xay,xaG,xag,wh hc]
 simp[jP,h,i]at e⊢;simp[e]
def zk1{i o:K}{X:Od}{Y:MF}(hi:σ.ob[i]? =Z (o,X))(a:yu σ.ob o=σ.ob.eraseIdx i){Γ:N FF}(h:St fr.we fr.Se ((OS vs fr cx σ.ob).set i Y) Γ w):St fr.we fr.Se (Y::OS vs fr cx (yu σ.ob o)) Γ w:=by
 have:=St.front i h<|vc<|QS hi;rw[rn,bS hi,<-a]at this;exact this
def zis(l:yZ P cf.tt)(Q:ug P cf.tt){o:K}{hi:v6}{k:Sg->V R}(hd:wA cx d=wF)(T:xC cx σ x=Z (.ow o))(h:SK cf cx σ d t o hi k=Z r):
 lY P cx ⟨d,.slice t x wL (Z hi) wL,ty,pos,aft,g⟩ σ k r:=by
 unfold SK at h;split at h
 ·next n E1 B s E xs p U=>
  have⟨Y,h1⟩:=yj h;cases Y;rcases K4 h1 with⟨e,_⟩|⟨z,m,e,h2,hz⟩
  ·cases e
  ·cases e;have⟨q,h3⟩:=u9 h2;have⟨ys,F,h4⟩:=xJ h3;have⟨bytes,G,u⟩:=JI l Q p;refine⟨_,h4,xbN _,λfr vs env w hR=> ?_⟩;have⟨H,c⟩:=hR;have⟨S0,_,f⟩:=c.ex;have A:ev env x=vs o:=zj T<|zU f x;have C:=hz P vs env S0 w<|zU f hi;have⟨i,hl,hF,hn⟩:=w8 U;have hc:(OS vs fr cx σ.ob)[i]? =Z (mO n.rep E (vs o) xs):=QS hl
   have a:∀v,(jP (ev env) ⟨d,.slice t x wL (Z hi) wL,ty,pos,aft,g⟩).run P w=.ok (.value v) w->St fr.we fr.Se ((OS vs fr cx σ.ob).set i<|mO n.rep E v ys) (GS P vs env fr cx σ) w->
    uB P ⟨d,.slice t x wL (Z hi) wL,ty,pos,aft,g⟩ env w (λv w'=>lS P fr cx σ.nx vs ⟨σ.nx+1,vv σ.rg d [(0,.ow σ.nx)],(σ.nx,.own n E ys)::yu σ.ob o⟩ (put env d v) w'):=by
    intro v hp D;refine uB.of_value hp<|J9 (vs:=vs) (mk:=.ow) H hd (λe he=>H.o1 e<|um e he) (λ_=>O) (λS w=>JW S w) ?_;rw[Kj];exact zk1 hl hn D
   rcases xcB (xaF xs)with h0|h0
   ·have hy:m=0:=by have:m<=xaF xs:=q;lia
    subst hy;have hA:ys=xs:=by rw[F];exact(xbs.1 h0).symm▸O
    subst hA;have J:(OS vs fr cx σ.ob).set i (mO n.rep E (vs o) ys)=OS vs fr cx σ.ob:=by
     apply xcH;intro j;rw[List.getElem?_set];split
     ·next hC=>
      subst hC;split
      ·exact hc.symm
      ·next hD=>exact wR (xaq.1 hc).1 hD
     ·rfl
    have hv:vs o=.slice wL 0 0\/∃b cap,vs o=.slice (Z ⟨b,0,wL⟩) 0 cap:=wo c hc λS ⟨cs,h5,_⟩=>by
     rcases h5.2 with⟨h,_⟩|⟨b,cap,a0,h,_⟩
     ·exact .inl h
     ·rw[h0]at h;exact .inr ⟨b,cap,h⟩
    obtain hv|⟨b,cap,hv⟩:=hv
    ·exact a _ (zf0 (A.trans hv) (vR l p) u C w)<|by rw[<-hv,J];exact c
    ·exact a _ (NX (A.trans hv) (vR l p) u C (xai _) w)<|by rw[<-hv,J];exact c
   ·have⟨b,cap,hv,L,hE,D⟩:=c.openO i hc h0;have M:=D.closeO i m (vc hc) q (xal q L) hE;rw[set_set]at M;exact a _ (NX (A.trans hv) (vR l p) u C (xal q L) w)<|by rw[F];exact M
 ·cases h
def zd9(H:yZ P cf.tt){J:wT}{f:wW}{a:TI}{E:wT}{ob:N (K×Od)}{xs:N a.ty.D}{k:Sg->V R}(L:P.underlying t=Z (.slice E))(M:ZG cf E=Z a)(hd:wA cx d=wF)
 (he:f=wF->t=J) (h:zbd cf cx σ d J f a.ty E a.B a.ty.z y ob xs k=Z r):
 ∃σ',k σ'=Z r/\σ.nx<=σ'.nx/\∀(fr:Fr) (vs:K->wN) (env:y8) (w:wP) (u:wN),Bd cx σ->(∀e∈ob,e.1<σ.nx)->ev env x=u->St fr.we fr.Se (mO a.ty.rep E u xs::OS vs fr cx ob) (GS P vs env fr cx σ) w->
  uB P ⟨d,.call ⟨.builtin .append,#[x,y],#[t,J]⟩,ty,pos,aft,g⟩ env w (λv w'=>lS P fr cx σ.nx vs σ' (put env d v) w'):=by
 have⟨a0,hl,Q,hu⟩:=Yt H M;have hr:=(H _ _ M).2.1;have hn:=(H _ _ M).2.2.1;have RH:∀m,m*a.B<=140737488355328->m<=9223372036854775807:=λm hm=>by
  have:=xcf m hr;lia
 unfold zbd at h;split at h
 ·next n hw=>
  split at h
  ·next q ik B' hz=>
   have⟨j,hj,h⟩:=zaW h;have⟨i,h⟩:=u9 h;have⟨zs,o,h⟩:=xJ h;refine⟨_,h,xbN _,λfr vs env w u s A C hc=> ?_⟩;have⟨S0,_,l⟩:=hc.ex;refine(Tt (e:=a.ty.rep) (z:=a.ty.z) (n:=j) 0 L (Jq H hz) hl Q hn O C (by rw[(wK hw<|zU l y).1,hj]) hu (RH _ i) i w hc).mono ?_;rintro v w' ⟨v',rfl,_,G⟩;refine J9 (vs:=vs) (mk:=.ow) s hd A (λ_=>O) (λS w=>JW S w) ?_;rw[Kj,o];exact G
  ·cases h
 ·split at h
  ·next o2 t2 lo n hy=>
   split at h
   ·next s2 E2 T hA=>
    have⟨hp,h⟩:=z8 h;obtain rfl:=he hp;have⟨U,h⟩:=yj h;cases U;have⟨U,h⟩:=yj h;cases U;have⟨ys,hi,h⟩:=xJ h;have⟨i,h⟩:=u9 h;have⟨zs,o,h⟩:=xJ h;refine⟨_,h,xbN _,λfr vs env w u s A C hc=> ?_⟩;have⟨S0,_,l⟩:=hc.ex;have hv:=zj hy<|zU l y;refine(af (e:=a.ty.rep) (ys:=ys) 0 L hl Q hn O C O (λS w hM ha=> ?_) (RH _ i) i w hc).mono ?_
    ·have hm:(mO a.ty.rep E2 (vs o2) T).p S w:=Zt (σ:=⟨σ.nx,σ.rg,ob⟩) (F:=fr.F) hM.2 hA;rcases hv with⟨b,m,cap,c,q1,q2,Y,q4,q5⟩|⟨q1,ao,c,q2,Y⟩
     ·rw[q5,hi];exact Iw hm q1 q2 Y q4
     ·subst q1;rw[Y,hi];exact⟨ao,c,gT,gT,by unfold WP;lia,.inl gT⟩
    rintro v w' ⟨v',rfl,_,G⟩;refine J9 (vs:=vs) (mk:=.ow) s hd A (λ_=>O) (λS w=>JW S w) ?_;rw[Kj,o];exact G
   ·cases h
  have⟨hp,h⟩:=z8 h;obtain rfl:=he hp;have⟨ys,h,hi⟩:=WM h;have⟨i,h⟩:=u9 h;have⟨zs,o,h⟩:=xJ h;refine⟨_,h,xbN _,λfr vs env w u s A C hc=> ?_⟩;refine(zc0 (e:=a.ty.rep) (ys:=ys) 0 L hl Q hn O C O (λS w ha=>hi P vs env S w<|zU ha y) (RH _ i) i w hc).mono ?_;rintro v w' ⟨v',rfl,_,G⟩;refine J9 (vs:=vs) (mk:=.ow) s hd A (λ_=>O) (λS w=>JW S w) ?_;rw[Kj,o];exact G
def zn6(j:yZ P cf.tt){a:ul v6}{ts:ul wT}{k:Sg->V R}(hd:wA cx d=wF)(h:zlx cf cx σ d a.toList ts.toList k=Z r):
 lY P cx ⟨d,.call ⟨.builtin .append,a,ts⟩,ty,pos,aft,g⟩ σ k r:=by
 unfold zlx at h;split at h
 ·next _ _ x y t C N hp=>
  obtain rfl:a= #[x,y]:=by cases a;simp_all
  obtain rfl:ts= #[t,C]:=by cases ts;simp_all
  split at h
  ·next s E B v=>
   split at h
   ·next D z=>
    have⟨F,h1⟩:=yj h;subst F;split at h1
    ·next l=>
     have⟨σ',m,n,p⟩:=zd9 (ty:=ty) (pos:=pos) (aft:=aft) (g:=g) (x:=x) j (vR j v) z hd (λh=>zO h) h1;refine⟨σ',m,n,λfr vs env w q=> ?_⟩;have⟨c,f⟩:=q;have⟨S0,_,b⟩:=f.ex;exact p fr vs env w _ c c.o1 (zj l<|zU b x) f.nilO
    ·next o l=>
     split at h1
     ·next Q G xs H=>
      have⟨u,J⟩:=z8 h1;have u:=zO u;subst u;have⟨K,L⟩:=yj J;cases K;have⟨σ',m,n,p⟩:=zd9 (ty:=ty) (pos:=pos) (aft:=aft) (g:=g) (x:=x) j (vR j v) z hd (λh=>zO h) L;refine⟨σ',m,n,λfr vs env w q=> ?_⟩;have⟨c,f⟩:=q;have⟨S0,_,b⟩:=f.ex;have⟨i,A,hn,hi⟩:=w8 H;have hl:(OS vs fr cx σ.ob)[i]? =Z (mO D.ty.rep G (vs o) xs):=QS A;have hc:=f.front i hl;rw[bS A,<-hi]at hc;exact p fr vs env w _ c (λe M=>c.o1 e<|um e M) (zj l<|zU b x) hc
     ·cases h1
    ·cases h1
   ·cases h
  ·cases h
 ·cases h
theorem zhO{α:Type}(xs ys:N α):X (cpy xs ys)=X xs:=by grind [cpy,xap,xax,xbR]
theorem zia{α:Type}{xs:N α}(ys:N α)(h:X xs=0):cpy xs ys=xs:=by grind [cpy,xbs]
def zmz{α:Type}(xs ys:N α):xdB 0 xs++xdB (min (X ys) (X xs)) ys++xdM (0+min (X ys) (X xs)) xs=cpy xs ys:=by simp[cpy]
def SU{α:Type}(lo:K)(xs ys:N α):gW lo 0 xs ys=xs:=by simp[gW]
theorem zb2{α:Type}{lo n:K}{xs:N α}(ys:N α)(h:lo+n<=X xs):X (gW lo n xs ys)=X xs:=by grind [gW,xap,xax,xbR]
def zkU(L:yZ P cf.tt)(hL:ug P cf.tt){z:ul v6}{ts:ul wT}{k:Sg->V R}(hd:wA cx d=wF)(h:zdU cf cx σ d z.toList ts.toList k=Z r):
 lY P cx ⟨d,.call ⟨.builtin .copy,z,ts⟩,ty,pos,aft,g⟩ σ k r:=by
 unfold zdU at h;split at h
 ·next x y t t' hK hM=>
  obtain rfl:z= #[x,y]:=by cases z;simp_all
  obtain rfl:ts= #[t,t']:=by cases ts;simp_all
  split at h
  ·next s E B o F hx=>
   split at h
   ·next s' a xs N=>
    have⟨hA,h⟩:=yj h;cases hA;have⟨ys,h,Q⟩:=WM h;have⟨zs,hc,h⟩:=xJ h;have hc:zs=cpy (α:=s.D) xs ys:=hc;have⟨bytes,T,hl⟩:=JI L hL F;refine⟨_,h,Nm _,λfr vs env w hR=> ?_⟩;have⟨U,A⟩:=hR;have⟨S0,_,f⟩:=A.ex;have hn:ev env x=vs o:=zj hx<|zU f x;have⟨i,hi,hq,hH⟩:=w8 N;have j:(OS vs fr cx σ.ob)[i]? =Z (mO s.rep a (vs o) xs):=QS hi;have p:∀v w',St fr.we fr.Se ((OS vs fr cx σ.ob).set i<|mO s.rep a (vs o) zs) (GS P vs env fr cx σ) w'->lS P fr cx σ.nx vs ⟨σ.nx,vv σ.rg d [],jE σ.ob o (.own s a zs)⟩ (put env d v) w':=λv w' G=>by
     refine Jn (σ':=⟨σ.nx,vv σ.rg d [],jE σ.ob o (.own s a zs)⟩) (d:=d) (l:=[]) (vs:=vs) (vs':=vs) (Γl:=[]) U hd O (Nm _) (λ_ _=>O) (λ_ q=>wR q IR) (λe q=> ?_) (λS w _ e q=>wR q IR) ?_
     ·have⟨e',h1,h2⟩:=QU N e q;rw[<-h2];exact U.o1 e' h1
     ·rw[hq];show St _ _ (MS vs (σ.ob.set i (o,.own s a zs))++_) _ _;rw[<-B2 hi];exact G
    rcases xcB (xaF xs)with h0|h0
    ·have hv:vs o=.slice wL 0 0\/∃b cap,vs o=.slice (Z ⟨b,0,wL⟩) 0 cap:=wo A j λS ⟨cs,h5,_⟩=>by
      rcases h5.2 with⟨h,_⟩|⟨b,cap,a0,h,_⟩
      ·exact .inl h
      ·rw[h0]at h;exact .inr ⟨b,cap,h⟩
     have⟨H,cap,hv⟩:∃H cap,vs o=.slice H 0 cap:=by
      obtain hv|⟨b,cap,hv⟩:=hv
      ·exact⟨_,_,hv⟩
      ·exact⟨_,_,hv⟩
     have⟨M,u,hu,_⟩:=xK.1<|Q P vs env S0 w<|zU f y;have⟨ti,hC,i1,i2,i3⟩:=hl.info;have hD:(P.info? E).map (·.size)=Z s.rep.n:=by rw[hC];simp[i1]
     have Y:=Jo (P:=P) w t t' ty E H M 0 cap (xaF ys) u (vR L F) hD<|Nat.min_zero _;rw[<-hu,<-hv,<-hn]at Y;have hz:zs=xs:=hc.trans<|zia (α:=s.D) ys h0;refine uB.of_value (v:=eM 0) (w':=w) ?_<|p _ w ?_
     ·simp only[jP,Wr,V1,Ul,xdX,xcb,xeC,xay,Y,xaG,xag]
     ·have:(OS vs fr cx σ.ob).set i (mO s.rep a (vs o) xs)=OS vs fr cx σ.ob:=by
       have⟨hI,hE⟩:=xaq.1 j;rw[<-hE,xdk]
      rw[hz,this];exact A
    ·have⟨b,cap,hv,hF,hG,G⟩:=A.openO i j h0;refine(OO (e:=s.rep) (l:=0) (dLen:=xaF xs) (dCap:=cap) i (vR L F) hl (vc j) (by rw[hn,hv];simp) O W (λS w ha=>Q P vs env S w<|zU ha y) w G).mono ?_;rintro v w' ⟨n,rfl,_,J⟩;refine p _ w' ?_;have hz:=(zmz (α:=s.D) xs ys).trans hc.symm;rw[hz]at J;have hg:xaF zs=xaF xs:=by rw[hc];exact zhO (α:=s.D) xs ys
     have hw:=J.closeF i (vc<|vc j) (by rw[hg];exact hF) hG;rw[set_set,set_set,hg,<-hv]at hw;exact hw
   ·cases h
  ·next s E B o t2 lo n F hx=>
   split at h
   ·next s' a xs hk N _=>
    have⟨hA,h⟩:=yj h;cases hA;have⟨ys,h,Q⟩:=WM h;have⟨zs,hc,h⟩:=xJ h;have hc:zs=gW (α:=s.D) lo n xs ys:=hc;have⟨hk⟩:=hk;subst hk;have⟨bytes,T,hl⟩:=JI L hL F;refine⟨_,h,Nm _,λfr vs env w hR=> ?_⟩;have⟨U,A⟩:=hR;have⟨S0,_,f⟩:=A.ex;have hn:=zj hx<|zU f x;have⟨i,hi,hq,hH⟩:=w8 N;have j:(OS vs fr cx σ.ob)[i]? =Z (mO t2.rep a (vs o) xs):=QS hi;have p:∀v w',St fr.we fr.Se ((OS vs fr cx σ.ob).set i<|mO t2.rep a (vs o) zs) (GS P vs env fr cx σ) w'->lS P fr cx σ.nx vs ⟨σ.nx,vv σ.rg d [],jE σ.ob o (.own t2 a zs)⟩ (put env d v) w':=λv w' G=>by
     refine Jn (σ':=⟨σ.nx,vv σ.rg d [],jE σ.ob o (.own t2 a zs)⟩) (d:=d) (l:=[]) (vs:=vs) (vs':=vs) (Γl:=[]) U hd O (Nm _) (λ_ _=>O) (λ_ q=>wR q IR) (λe q=> ?_) (λS w _ e q=>wR q IR) ?_
     ·have⟨e',h1,h2⟩:=QU N e q;rw[<-h2];exact U.o1 e' h1
     ·rw[hq];show St _ _ (MS vs (σ.ob.set i (o,.own t2 a zs))++_) _ _;rw[<-B2 hi];exact G
    obtain h0|h0:=xcB n
    ·have⟨H,c,hv⟩:∃H c,ev env x=.slice H 0 c:=by
      rcases hn with⟨b,m,cap,c,q1,q2,q3,q4,q5⟩|⟨q1,M,c,q2,q3⟩
      ·exact⟨_,c,by rw[q5,h0]⟩
      ·exact⟨M,c,q3⟩
     have⟨M,u,hu,_⟩:=xK.1<|Q P vs env S0 w<|zU f y;have⟨ti,hC,i1,i2,i3⟩:=hl.info;have hD:(P.info? E).map (·.size)=Z t2.rep.n:=by rw[hC];simp[i1]
     have Y:=Jo (P:=P) w t t' ty E H M 0 c (xaF ys) u (vR L F) hD<|Nat.min_zero _;rw[<-hu,<-hv]at Y;have hz:zs=xs:=by rw[hc,h0];exact SU (α:=t2.D) lo xs ys
     refine uB.of_value (v:=eM 0) (w':=w) ?_<|p _ w ?_
     ·simp only[jP,Wr,V1,Ul,xdX,xcb,xeC,xay,Y,xaG,xag]
     ·have:(OS vs fr cx σ.ob).set i (mO t2.rep a (vs o) xs)=OS vs fr cx σ.ob:=by
       have⟨hI,hE⟩:=xaq.1 j;rw[<-hE,xdk]
      rw[hz,this];exact A
    ·rcases hn with⟨b0,m,C,c,q1,q2,q3,q4,q5⟩|⟨q1,M,c,q2,q3⟩
     ·have hJ:m=xaF xs:=wo A j λS hp=>nL hp q1;subst hJ;have⟨b,cap,hv,hF,hG,G⟩:=A.openO i j W;rw[q1]at hv;cases hv;refine(OO (e:=t2.rep) (l:=lo) (dLen:=n) (dCap:=c) i (vR L F) hl (vc j) q5 O q2 (λS w ha=>Q P vs env S w<|zU ha y) w G).mono ?_;rintro v w' ⟨nn,rfl,_,J⟩;refine p _ w' ?_;have J:St fr.we fr.Se (((OS vs fr cx σ.ob).set i<|mB (rowT t2.rep C) a b0 xs).set i<|mB (rowT t2.rep C) a b0<|gW (α:=t2.D) lo n xs ys) (GS P vs env fr cx σ) w':=J;rw[<-hc]at J;have hg:xaF zs=xaF xs:=by rw[hc];exact zb2 (α:=t2.D) ys q2
      have hw:=J.closeF i (vc<|vc j) (by rw[hg];exact hF) hG;rw[set_set,set_set,hg,<-q1]at hw;exact hw
     ·lia
   ·cases h
  ·cases h
 ·cases h
end
end
section
section
variable{P:jp}{cf:Cf}{fr:Fr}{cx σ:Sg}{vs vs':wr->wN}{env:y8}{w:wP}{R:Type}{r:R}
 {d:ww Z9}{ty t yt:wT}{pos:String}{aft:ul Edge}{g:ww (wr×wW)}{x y:v6}
def zej{a b:K}(h:a≠b):E a b=I:=Yb h
def K3:∀{ob:N (K×Od)}{o p:K},p≠o->xz (yu ob o) p=xz ob p
 |[],_,_,_=>rfl
 |(q,X)::r,o,p,h=>by
  unfold yu;cases a:E q o
  ·simp only[Z2];unfold xz;rw[K3 h]
  ·simp only[Z0];have:=zO a;subst this;conv=>rhs;unfold xz
   rw[zej<|λe=>h e.symm];rfl
def qY{ob:N (K×Od)}{p:K}:∀{os:N K},gH os p=I->xz (vM ob os) p=xz ob p
 |[],_=>rfl
 |o::r,h=>by
  simp only[gH,List.any_cons,Bool.or_eq_false_iff]at h;unfold vM;rw[K3 (λe=>by subst e;simp at h),qY h.2]
def Uw{ob:N (K×Od)}:∀{os:N K},∀e∈vM ob os,e∈ob
 |[],_,h=>h
 |o::r,e,h=>Uw (os:=r) e<|um e h
def zbm{α:Type _}:∀{l:N α}{i:K}{a:α},l[i]? =Z a->l.Perm (a::l.eraseIdx i)
 |[],_,_,h=>by simp at h
 |b::l,0,a,h=>by simp at h;subst h;exact xdy _
 |b::l,i+1,a,h=>((zbm (l:=l) (i:=i)<|by simpa using h).cons b).trans<|xdP _ _ _
def jb{ob:N (K×Od)}{o:K}{X:Od}(h:xz ob o=Z X):(OS vs fr cx ob).Perm (Jt vs (o,X)::OS vs fr cx (yu ob o)):=by
 have⟨i,h1,_,a⟩:=w8 h;show(MS vs ob++(MS vs cx.ob++fr.F)).Perm (Jt vs (o,X)::(MS vs (yu ob o)++(MS vs cx.ob++fr.F)));rw[a,<-bS h1];exact zbm<|QS h1
def aH(C:∀s∈cf.cs,xt P s):∀{dom:N AM}{xs:N v6}{cs:N PD}{k:cF dom->N K->V R},Zy cf cx σ dom xs cs k=Z r->
 ∃z os,k z os=Z r/\i0 xs+i0 cs=i0 dom/\(∀o∈os,∃X,(o,X)∈σ.ob)/\∀vs (fr:Fr) env S w,(∀x,YV P vs env S w cx σ x)->∀a:N wN,i0 a=i0 cs->zE S (Iv cs a) w->
  zE S (Zo P dom z<|xs.map (ev env)++a) w/\(OS vs fr cx σ.ob).Perm (Xo dom z (xs.map (ev env)++a)++OS vs fr cx (vM σ.ob os))/\JU dom (xs.map (ev env)++a)=os.map vs
 |[],[],[],k,h=>⟨(),[],h,O,λ_ l=>wR l IR,λ_ _ _ _ _ _ _ _ _=>⟨wS,xdy _,O⟩⟩
 |.q t::dom,[],c::cs,k,h=>by
  simp only[Zy]at h;have⟨e,h⟩:=yj h;subst e;have⟨z,os,h1,n,l,u⟩:=aH C h;refine⟨_,os,h1,by simp at n⊢;lia,l,λvs fr env S w hl a m hc=> ?_⟩
  cases a with
  |nil=>cases m
  |cons v a=>have⟨j,A,B⟩:=u vs fr env S w hl a (by simpa using m) hc.2;exact⟨⟨hc.1,j⟩,A,B⟩
 |.d t::dom,x::xs,cs,k,h=>by
  simp only[Zy]at h;have⟨y,h,M⟩:=WM h;have⟨z,os,h1,n,l,u⟩:=aH C h;exact⟨_,os,h1,by simp at n⊢;lia,l,λvs fr env S w hl a m hc=>by have⟨j,A,B⟩:=u vs fr env S w hl a m hc;exact⟨⟨M P vs env S w<|hl x,j⟩,A,B⟩⟩
 |.q t::dom,x::xs,cs,k,h=>by
  simp only[Zy]at h;split at h
  ·next s y F=>
   have⟨e,h⟩:=yj h;subst e;have⟨z,os,h1,n,l,u⟩:=aH C h;exact⟨_,os,h1,by simp at n⊢;lia,l,λvs fr env S w hl a m hc=>by have⟨j,A,B⟩:=u vs fr env S w hl a m hc;exact⟨⟨zj F<|hl x,j⟩,A,B⟩⟩
  ·cases h
 |.own t E::dom,x::xs,cs,k,h=>by
  simp only[Zy]at h;split at h
  ·next o F=>
   split at h
   ·next s Q ys hd=>
    have⟨D,G⟩:=z8 h;have D:=zO D;subst D;have⟨e,H⟩:=yj G;cases e;have⟨z,os,J,n,l,u⟩:=aH C H;have⟨hn,h1⟩:=z8 J;simp only[xcV]at hn;refine⟨_,o::os,h1,by simp at n⊢;lia,λp hp=> ?_,λvs fr env S w hl a m hc=> ?_⟩
    ·obtain rfl|hp:=xaa.1 hp
     ·have⟨i,j,_⟩:=w8 hd;exact⟨_,xbq j⟩
     ·exact l p hp
    have⟨j,A,B⟩:=u vs fr env S w hl a m hc;have hv:ev env x=vs o:=zj F<|hl x;refine⟨⟨wS,j⟩,A.trans ?_,?_⟩
    ·have hp:=jb (vs:=vs) (fr:=fr) (cx:=cx)<|(qY hn).trans hd;refine(xbL _ hp).trans ?_;refine xcn.trans ?_;show List.Perm _ (mO t.rep E (ev env x) _::(Xo dom z (xs.map (ev env)++a)++_));rw[hv];exact xdy _
    ·show ev env x::JU dom (xs.map (ev env)++a)=vs o::os.map vs;rw[hv,B]
   ·cases h
  ·cases h
 |.var t E::dom,x::xs,cs,k,h=>by
  simp only[Zy]at h;split at h
  ·next o Y F=>
   split at h
   ·next s Q y hd=>
    have⟨D,G⟩:=z8 h;have D:=zO D;subst D;have⟨e,H⟩:=yj G;subst e;have⟨z,os,J,n,l,u⟩:=aH C H;have⟨hn,h1⟩:=z8 J;simp only[xcV]at hn;refine⟨_,o::os,h1,by simp at n⊢;lia,λp hp=> ?_,λvs fr env S w hl a m hc=> ?_⟩
    ·obtain rfl|hp:=xaa.1 hp
     ·have⟨i,j,_⟩:=w8 hd;exact⟨_,xbq j⟩
     ·exact l p hp
    have⟨j,A,B⟩:=u vs fr env S w hl a m hc;have⟨hv,b,T⟩:=zj F<|hl x;refine⟨⟨⟨b,hv.trans T⟩,j⟩,A.trans ?_,?_⟩
    ·have hp:=jb (vs:=vs) (fr:=fr) (cx:=cx)<|(qY hn).trans hd;refine(xbL _ hp).trans ?_;refine xcn.trans ?_;show List.Perm _ (mP s.rep.c E (ev env x) _::(Xo dom z (xs.map (ev env)++a)++_));rw[hv];exact xdy _
    ·show ev env x::JU dom (xs.map (ev env)++a)=vs o::os.map vs;rw[hv,B]
   ·cases h
  ·cases h
 |.fn L cod::dom,x::xs,cs,k,h=>by
  simp only[Zy]at h;have⟨f,h,U⟩:=zft C h;have⟨z,os,h1,n,l,u⟩:=aH C h;refine⟨_,os,h1,by simp at n⊢;lia,l,λvs fr env S w hl a m hc=> ?_⟩;have⟨j,A,B⟩:=u vs fr env S w hl a m hc;refine⟨⟨?_,j⟩,A,B⟩
  cases hv:xC cx σ x with
  |none=>rename_i h0;rw[hv]at h0;simp[asF]at h0
  |some v=>exact U vs S w v _ hv<|zj hv<|hl x
 |[],_::_,_,_,h=>by simp[Zy]at h
 |[],[],_::_,_,h=>by simp[Zy]at h
 |.d _::_,[],_,_,h=>by simp[Zy]at h
 |.own _ _::_,[],_,_,h=>by simp[Zy]at h
 |.var _ _::_,[],_,_,h=>by simp[Zy]at h
 |.fn _ _::_,[],_,_,h=>by simp[Zy]at h
 |.q _::_,[],[],_,h=>by simp[Zy]at h
def eJ:N RM->N wN->K->(K->wN)->K->wN
 |[],_,_,vs=>vs
 |.d _::r,us,o,vs=>eJ r us.tail o vs
 |.own _ _::r,us,o,vs=>Xu (eJ r us.tail (o+1) vs) o<|us.headD uP
 |.var _ _::r,us,o,vs=>Xu (eJ r us.tail (o+1) vs) o<|us.headD uP
def Qt:∀{rs:N RM}{us:N wN}{o k:K},k<o->eJ rs us o vs k=vs k
 |[],_,_,_,_=>rfl
 |.d _::r,us,o,k,h=>Qt (rs:=r) h
 |.own _ _::r,us,o,k,h=>by
  show Xu _ o _ k=_;rw[j9 h,Qt (rs:=r) W]
 |.var _ _::r,us,o,k,h=>by
  show Xu _ o _ k=_;rw[j9 h,Qt (rs:=r) W]
def sA{n o:K}{v:wN}(h:o≠n):Xu vs n v o=vs o:=by unfold Xu;rw[Yb h];rfl
def JK:∀{rs:N RM}{x:lZ rs}{i o:K},(∀e∈(kO rs x i o).2,o<=e.1/\e.1<o+(kO rs x i o).2.length)
 |[],_,_,_,e,he=>wR he IR
 |[.d _],_,_,_,e,he=>wR he IR
 |[.own _ _],_,_,o,e,he=>by
  obtain rfl:=xad.1 he;exact⟨Nm _,xbS _⟩
 |[.var _ _],_,_,o,e,he=>by
  obtain rfl:=xad.1 he;exact⟨Nm _,xbS _⟩
 |.d t::n::r,x,i,o,e,he=>JK (rs:=n::r) (x:=x.2) (i:=i+1) e he
 |.own t E::n::r,x,i,o,e,he=>by
  have he:e∈(o,Od.own t E x.1)::(kO (n::r) x.2 (i+1)<|o+1).2:=he;have a:(kO (.own t E::n::r) x i o).2.length=(kO (n::r) x.2 (i+1)<|o+1).2.length+1:=O;rw[a];obtain rfl|he:=xaa.1 he
  ·exact⟨Nm _,by show o<_;lia⟩
  ·have:=JK (rs:=n::r) (x:=x.2) (i:=i+1) (o:=o+1) e he;lia
 |.var t E::n::r,x,i,o,e,he=>by
  have he:e∈(o,Od.var t E x.1)::(kO (n::r) x.2 (i+1)<|o+1).2:=he;have a:(kO (.var t E::n::r) x i o).2.length=(kO (n::r) x.2 (i+1)<|o+1).2.length+1:=O;rw[a];obtain rfl|he:=xaa.1 he
  ·exact⟨Nm _,by show o<_;lia⟩
  ·have:=JK (rs:=n::r) (x:=x.2) (i:=i+1) (o:=o+1) e he;lia
def oI:∀{rs:N RM}{x:lZ rs}{us:N wN}{i o:K},MS (eJ rs us o vs) (kO rs x i o).2=Ys rs x us
 |[],_,_,_,_=>rfl
 |[.d _],_,_,_,_=>rfl
 |[.own t E],x,us,i,o=>by exact kW (λm=>[m])<|Kj (vs:=vs) (xs:=x)
 |[.var t E],x,us,i,o=>by exact kW (λm=>[m])<|L5 (vs:=vs) (z:=x)
 |.var t E::n::r,x,us,i,o=>by
  refine List.cons_eq_cons.2 ⟨L5 (z:=x.1),?_⟩;exact(wE (ob:=(kO (n::r) x.2 (i+1)<|o+1).2) (vs:=eJ (n::r) us.tail (o+1) vs) λe a=>sA (by have:=JK e a;lia)).trans oI
 |.d t::n::r,x,us,i,o=>by
  show MS (eJ (n::r) us.tail o vs) (kO (n::r) x.2 (i+1) o).2=Ys (n::r) x.2 us.tail;exact oI
 |.own t E::n::r,x,us,i,o=>by
  refine List.cons_eq_cons.2 ⟨Kj (xs:=x.1),?_⟩;exact(wE (ob:=(kO (n::r) x.2 (i+1)<|o+1).2) (vs:=eJ (n::r) us.tail (o+1) vs) λe a=>sA (by have:=JK e a;lia)).trans oI
def ed:∀{rs:N RM}{x:lZ rs}{i o:K},∀e∈(kO rs x i o).1,∀p,va e.2=Z p->p<o+(kO rs x i o).2.length
 |[],_,_,_,e,he=>wR he IR
 |[.d _],_,_,_,e,he=>by
  obtain rfl:=xad.1 he;intro p hp;cases hp
 |[.own _ _],_,_,o,e,he=>by
  obtain rfl:=xad.1 he;intro p hp;cases hp;exact xbS _
 |[.var _ _],_,_,o,e,he=>by
  obtain rfl:=xad.1 he;intro p hp;cases hp;exact xbS _
 |.var t E::n::r,x,i,o,e,he=>by
  have a:(kO (.var t E::n::r) x i o).2.length=(kO (n::r) x.2 (i+1)<|o+1).2.length+1:=O;rw[a];obtain rfl|he:=xaa.1 he
  ·intro p hp;cases hp;lia
  ·intro p hp;have:=ed (rs:=n::r) (x:=x.2) (i:=i+1) (o:=o+1) e he p hp;lia
 |.d t::n::r,x,i,o,e,he=>by
  obtain rfl|he:=xaa.1 he
  ·intro p hp;cases hp
  ·exact ed (rs:=n::r) (x:=x.2) (i:=i+1) e he
 |.own t E::n::r,x,i,o,e,he=>by
  have a:(kO (.own t E::n::r) x i o).2.length=(kO (n::r) x.2 (i+1)<|o+1).2.length+1:=O;rw[a];obtain rfl|he:=xaa.1 he
  ·intro p hp;cases hp;lia
  ·intro p hp;have:=ed (rs:=n::r) (x:=x.2) (i:=i+1) (o:=o+1) e he p hp;lia
def px:∀{rs:N RM}{x:lZ rs}{i o:K},∀e∈(kO rs x i o).1,∀p,va e.2=Z p->o<=p
 |[],_,_,_,e,he=>wR he IR
 |[.d _],_,_,_,e,he=>by
  obtain rfl:=xad.1 he;intro p hp;cases hp
 |[.own _ _],_,_,o,e,he=>by
  obtain rfl:=xad.1 he;intro p hp;cases hp;exact Nm _
 |[.var _ _],_,_,o,e,he=>by
  obtain rfl:=xad.1 he;intro p hp;cases hp;exact Nm _
 |.var t E::n::r,x,i,o,e,he=>by
  obtain rfl|he:=xaa.1 he
  ·intro p hp;cases hp;exact Nm _
  ·intro p hp;have:=px (rs:=n::r) (x:=x.2) (i:=i+1) (o:=o+1) e he p hp;lia
 |.d t::n::r,x,i,o,e,he=>by
  obtain rfl|he:=xaa.1 he
  ·intro p hp;cases hp
  ·exact px (rs:=n::r) (x:=x.2) (i:=i+1) e he
 |.own t E::n::r,x,i,o,e,he=>by
  obtain rfl|he:=xaa.1 he
  ·intro p hp;cases hp;exact Nm _
  ·intro p hp;have:=px (rs:=n::r) (x:=x.2) (i:=i+1) (o:=o+1) e he p hp;lia
def Cr:∀{rs:N RM}{x:lZ rs}{us:N wN}{i o:K}{S:K->Prop},zE S (Yg rs x us) w->X us=X rs->∀e∈(kO rs x i o).1,∃j u,e.1=i+j/\us[j]? =Z u/\(vj P (eJ rs us o vs) e.2 u).p S w
 |[],_,_,_,_,_,_,_,e,he=>wR he IR
 |[m],_,[],_,_,_,_,hl,_,_=>by cases hl
 |[.d _],x,u::us,i,o,S,h,hl,e,he=>by
  obtain rfl:=xad.1 he;exact⟨0,u,O,O,h.1⟩
 |[.own _ _],x,u::us,i,o,S,h,hl,e,he=>by
  obtain rfl:=xad.1 he;exact⟨0,u,O,O,(wa (vs:=vs)).symm⟩
 |[.var _ _],x,u::us,i,o,S,h,hl,e,he=>by
  obtain rfl:=xad.1 he;have h1:=wa (vs:=vs) (n:=o) (v:=u);exact⟨0,u,O,O,h1.symm,by have⟨b,f⟩:=h.1;exact⟨b,h1.trans f⟩⟩
 |.var t E::n::r,x,u::us,i,o,S,h,hl,e,he=>by
  obtain rfl|he:=xaa.1 he
  ·have h1:=wa (vs:=eJ (n::r) us (o+1) vs) (n:=o) (v:=u);exact⟨0,u,O,O,h1.symm,by have⟨b,f⟩:=h.1;exact⟨b,h1.trans f⟩⟩
  ·have⟨j,v,h1,a,c⟩:=Cr (rs:=n::r) (x:=x.2) (i:=i+1) (o:=o+1) h.2 (by simpa using hl) e he;refine⟨j+1,v,W,by simpa using a,?_⟩;have:vj P (eJ (.var t E::n::r) (u::us) o vs) e.2 v=vj P (eJ (n::r) us (o+1) vs) e.2 v:=fJ (λp hp=>sA (by have:=px (rs:=n::r) (x:=x.2) (i:=i+1) (o:=o+1) e he p hp;lia)) v;rw[this];exact c
 |_::n::r,x,[],_,_,_,_,hl,_,_=>by cases hl
 |.d t::n::r,x,u::us,i,o,S,h,hl,e,he=>by
  obtain rfl|he:=xaa.1 he
  ·exact⟨0,u,O,O,h.1⟩
  ·have⟨j,v,h1,a,c⟩:=Cr (rs:=n::r) (x:=x.2) (i:=i+1) (o:=o) h.2 (by simpa using hl) e he;exact⟨j+1,v,W,by simpa using a,c⟩
 |.own t E::n::r,x,u::us,i,o,S,h,hl,e,he=>by
  obtain rfl|he:=xaa.1 he
  ·exact⟨0,u,O,O,(wa (vs:=eJ (n::r) us (o+1) vs)).symm⟩
  ·have⟨j,v,h1,a,c⟩:=Cr (rs:=n::r) (x:=x.2) (i:=i+1) (o:=o+1) h (by simpa using hl) e he;refine⟨j+1,v,W,by simpa using a,?_⟩;have:vj P (eJ (.own t E::n::r) (u::us) o vs) e.2 v=vj P (eJ (n::r) us (o+1) vs) e.2 v:=fJ (λp hp=>sA (by have:=px (rs:=n::r) (x:=x.2) (i:=i+1) (o:=o+1) e he p hp;lia)) v;rw[this];exact c
def zeW{f:Z5}{a:N v6}:∀{cs:N WZ}{s:WZ},Sz cx σ f a cs=Z s->s∈cs/\s.f=f
 |c::cs,s,h=>by
  unfold Sz at h;split at h
  ·next b=>
   simp only[xar]at h;subst h;rw[xab]at b;exact⟨FS,zO b.1⟩
  ·have⟨h1,e⟩:=zeW h;exact⟨UV _ h1,e⟩
def zc9{rs:N RM}{x:lZ rs}{us:N wN}{o:K}{S:K->Prop}(h:zE S (Yg rs x us) w)(hl:X us=X rs):∀e∈(kO rs x (bif ay rs then 0 else 1) o).1,(wg P (eJ rs us o vs) e.2 (Xv us) e.1).p S w:=by
 intro e c;have⟨j,u,h1,a,b⟩:=Cr (P:=P) (vs:=vs) h hl e c;have⟨i,dv⟩:=e
 match us,hl,a with
 |[],_,a=>simp at a
 |[v],hl,a=>
  obtain rfl:j=0:=by
   obtain _|j:=j
   ·rfl
   ·simp at a
  obtain⟨m,rfl⟩:=xcN.1 hl.symm;simp only[ay,Z0]at h1;simp only[xbB,xar]at a;subst h1;subst a;exact b
 |v::f::us,hl,a=>
  have:ay rs=I:=by
   match rs,hl with
   |[],_=>rfl
   |_::_::_,_=>rfl
  rw[this]at h1;simp only[Z2]at h1;obtain rfl:i=j+1:=W
  exact⟨(v::f::us).toArray,u,O,by simpa using a,b⟩
def pJ:N RM->N wN->N wN
 |[],_=>[]
 |.d _::r,us=>pJ r us.tail
 |.own _ _::r,us=>us.headD uP::pJ r us.tail
 |.var _ _::r,us=>us.headD uP::pJ r us.tail
def eG:∀{rs:N RM}{x:lZ rs}{us:N wN}{i o:K},(kO rs x i o).2.map (λe=>eJ rs us o vs e.1)=pJ rs us
 |[],_,_,_,_=>rfl
 |[.d _],x,us,i,o=>rfl
 |[.own t E],x,us,i,o=>by
  show[Xu vs o (us.headD uP) o]=[us.headD uP];rw[wa]
 |[.var t E],x,us,i,o=>by
  show[Xu vs o (us.headD uP) o]=[us.headD uP];rw[wa]
 |.var t E::n::r,x,us,i,o=>by
  show Xu (eJ (n::r) us.tail (o+1) vs) o (us.headD uP) o::(kO (n::r) x.2 (i+1)<|o+1).2.map (λe=>eJ (.var t E::n::r) us o vs e.1)=us.headD uP::pJ (n::r) us.tail;rw[wa,<-eG (rs:=n::r) (x:=x.2) (us:=us.tail) (i:=i+1) (o:=o+1)];congr 1;refine xci λe a=> ?_;exact sA (by have:=JK e a;lia)
 |.d t::n::r,x,us,i,o=>eG (rs:=n::r) (x:=x.2) (us:=us.tail) (i:=i+1) (o:=o)
 |.own t E::n::r,x,us,i,o=>by
  show Xu (eJ (n::r) us.tail (o+1) vs) o (us.headD uP) o::(kO (n::r) x.2 (i+1)<|o+1).2.map (λe=>eJ (.own t E::n::r) us o vs e.1)=us.headD uP::pJ (n::r) us.tail;rw[wa,<-eG (rs:=n::r) (x:=x.2) (us:=us.tail) (i:=i+1) (o:=o+1)];congr 1;refine xci λe a=> ?_;exact sA (by have:=JK e a;lia)
def Bo:∀{m:K}{rs:N RM}{us:N wN},mV m rs=wF->X us=X rs->pJ rs us=us.drop m
 |0,[],us,_,hl=>by
  obtain rfl:=xbs.1 hl;rfl
 |0,.own _ _::r,[],_,hl=>by cases hl
 |0,.own _ _::r,u::us,h,hl=>by
  show u::pJ r us=u::us;rw[Bo (m:=0) (rs:=r) (us:=us) h<|by simpa using hl];rfl
 |0,.var _ _::r,[],_,hl=>by cases hl
 |0,.var _ _::r,u::us,h,hl=>by
  show u::pJ r us=u::us;rw[Bo (m:=0) (rs:=r) (us:=us) h<|by simpa using hl];rfl
 |m+1,.d _::r,[],_,hl=>by cases hl
 |m+1,.d _::r,u::us,h,hl=>Bo (m:=m) (rs:=r) (us:=us) h<|by simpa using hl
 |0,.d _::_,_,h,_=>by cases h
 |_+1,[],_,h,_=>by cases h
 |_+1,.own _ _::_,_,h,_=>by cases h
 |_+1,.var _ _::_,_,h,_=>by cases h
def zbq{vs':K->wN}:∀{os:N K}{ob:N (K×Od)},os.map vs'=ob.map (λe=>vs' e.1)->MS vs' (Cp os ob)=MS vs' ob
 |[],[],_=>rfl
 |[],_::_,h=>by cases h
 |_::_,[],h=>by cases h
 |o::os,(p,X)::ob,h=>by
  simp only[xcb,xeF]at h;show Jt vs' (o,X)::MS vs' (Cp os ob)=Jt vs' (p,X)::MS vs' ob;rw[zbq h.2];congr 1;cases X<;>simp only[Jt]<;>rw[h.1]
def Rr:∀{os:N K}{ob:N (K×Od)},∀e∈Cp os ob,e.1∈os
 |[],_,e,he=>wR he<|by simp[Cp]
 |_::_,[],e,he=>wR he<|by simp[Cp]
 |o::os,p::ob,e,he=>by
  rcases xaa.1 (show e∈(o,p.2)::Cp os ob from he)with rfl|he
  ·exact FS
  ·exact UV _<|Rr e he
def R6{rs:N RM}{x:lZ rs}{us:N wN}{o m:K}{S:K->Prop}(h:zE S (Yg rs x us) w)(hl:X us=X rs)(z:m<=X us):∀e∈(kO rs x (Ay m) o).1.filter (λe=>xdh e.1<|Ay m+m),(wg P (eJ rs us o vs) e.2 (Xv<|us.take m) e.1).p S w:=by
 intro e c;have⟨c,f⟩:=xcj.1 c;have f:e.1<Ay m+m:=Nat.blt_eq.mp f;have⟨j,u,h1,n,l⟩:=Cr (P:=P) (vs:=vs) h hl e c;have⟨i,dv⟩:=e;simp only at h1 f;have q:j<m:=W
 have a:(us.take m)[j]? =Z u:=by rw[xcA,iq q];exact n
 have b:X (us.take m)=m:=by rw[xax];lia
 generalize us.take m=vs' at*
 match vs',b,a with
 |[],b,a=>simp at a
 |[v],b,a=>
  obtain rfl:m=1:=b.symm;obtain rfl:j=0:=W
  simp only[xbB,xar]at a;obtain rfl:i=0:=h1;subst a;exact l
 |v::s::k,b,a=>
  have:Ay m=1:=by
   unfold Ay;rw[zej<|by simp at b;lia];rfl
  rw[this]at h1;obtain rfl:i=j+1:=W
  exact⟨(v::s::k).toArray,u,O,by simpa using a,l⟩
def zkR(Q:∀s∈cf.cs,xt P s){f:v6}{f':Z5}{cs:N PD}{s:WZ}{c:ul v6}{ts:ul wT}{k:Sg->V R}(hd:wA cx d=wF)(u:xC cx σ f=Z (.fn f' cs))
 (hs:Sz cx σ f' c.toList cf.cs=Z s) (h:zeN cf cx σ d s c.toList cs k=Z r):lY P cx ⟨d,.call ⟨.value f,c,ts⟩,ty,pos,aft,g⟩ σ k r:=by
 have⟨h1,D⟩:=zeW hs;have E:=Q s h1;unfold zeN at h;have⟨z,os,h,T,hF,C⟩:=aH Q h;have⟨q,U,h⟩:=r8 h;split at h
 ·next G=>
   refine⟨_,h,xbM _ _,λfr vs env w H=> ?_⟩
   have⟨n,hl⟩:=H
   have⟨S0,_,j⟩:=hl.ex
   have⟨a,hv,A,_⟩:=zj u<|zU j f
   have B:=E.plain G U (vs:=c.toList.map (ev env)++a)<|by simp at T⊢;lia
   have J:(jP (ev env) ⟨d,.call ⟨.value f,c,ts⟩,ty,pos,aft,g⟩).run P w=.ok (.enter f' (c.toList.map (ev env)++a).toArray) w:=by simp[jP,Wr,hv,xdJ,V1,kn<|D▸E.1]
   have hn:St fr.we fr.Se (Xo s.dom z (c.toList.map (ev env)++a)++OS vs fr cx (vM σ.ob os)) (Zo P s.dom z (c.toList.map (ev env)++a)++GS P vs env fr cx σ) w:=by
    refine St.perm (St.weak hl λS w m=>zE.append ?_ m) (C vs fr env S0 w (zU j) a A ?_).2.1
    ·have⟨i,hc,hi,p⟩:=zj u<|zU m f;rw[hv]at hc;have:a=i:=by simpa using hc
     subst this;exact(C vs fr env S w (zU m) a A p).1
    ·have⟨i,hc,hi,p⟩:=zj u<|zU j f;rw[hv]at hc;have:a=i:=by simpa using hc
     subst this;exact p
   unfold uB
   rw[J]
   rw[D]at B
   refine(B fr.we fr.Se _ _ w hn).mono ?_
   rintro e w' ⟨us,he,F,K⟩
   refine⟨Xv us,he,?_⟩
   refine Jn (vs:=vs) (vs':=eJ s.cod us σ.nx vs) (l:=(kO s.cod q (bif ay s.cod then 0 else 1) σ.nx).1) (Γl:=Yg s.cod q us) n hd O (xbM _ _) (λo v=>Qt v) ed ?_ (λS w m=>zc9 m F) ?_
   ·intro e he
    obtain he|he:=So.1 he
    ·exact(JK e he).2
    ·exact xao (n.o1 e<|Uw e he)<|xbM _ _
   ·have e1:OS (eJ s.cod us σ.nx vs) fr cx ((kO s.cod q (bif ay s.cod then 0 else 1) σ.nx).2++vM σ.ob os)=Ys s.cod q us++OS vs fr cx (vM σ.ob os):=by
     show MS _ (_++_)++(MS _ cx.ob++_)=_;have L:MS (eJ s.cod us σ.nx vs) (vM σ.ob os)=MS vs (vM σ.ob os):=wE λe he=>Qt<|n.o1 e<|Uw e he;have M:MS (eJ s.cod us σ.nx vs) cx.ob=MS vs cx.ob:=wE λe he=>Qt<|n.o2 e he;rw[M,show MS (eJ s.cod us σ.nx vs) ((kO s.cod q (bif ay s.cod then 0 else 1) σ.nx).2++vM σ.ob os)=MS _ _++MS _ _ from xaW,L,oI,xaf]
    rw[e1]
    exact K
 ·next b G=>
   have⟨ht,h⟩:=z8 h
   refine⟨_,h,xbM _ _,λfr vs env w H=> ?_⟩
   have⟨n,hl⟩:=H
   have⟨S0,_,j⟩:=hl.ex
   have⟨a,hv,A,_⟩:=zj u<|zU j f
   have B:=E.2 z q U (c.toList.map (ev env)++a)<|by simp at T⊢;lia
   rw[G]at B
   have J:(jP (ev env) ⟨d,.call ⟨.value f,c,ts⟩,ty,pos,aft,g⟩).run P w=.ok (.enter f' (c.toList.map (ev env)++a).toArray) w:=by simp[jP,Wr,hv,xdJ,V1,kn<|D▸E.1]
   have hD:JU s.dom (c.toList.map (ev env)++a)=os.map vs:=by
    have⟨i,hc,hi,p⟩:=zj u<|zU j f;rw[hv]at hc;have:a=i:=by simpa using hc
    subst this;exact(C vs fr env S0 w (zU j) a A p).2.2
   have hn:St fr.we fr.Se (Xo s.dom z (c.toList.map (ev env)++a)++OS vs fr cx (vM σ.ob os)) (Zo P s.dom z (c.toList.map (ev env)++a)++GS P vs env fr cx σ) w:=by
    refine St.perm (St.weak hl λS w m=>zE.append ?_ m) (C vs fr env S0 w (zU j) a A ?_).2.1
    ·have⟨i,hc,hi,p⟩:=zj u<|zU m f;rw[hv]at hc;have:a=i:=by simpa using hc
     subst this;exact(C vs fr env S w (zU m) a A p).1
    ·have⟨i,hc,hi,p⟩:=zj u<|zU j f;rw[hv]at hc;have:a=i:=by simpa using hc
     subst this;exact p
   unfold uB
   rw[J]
   rw[D]at B
   refine(B fr.we fr.Se _ _ w hn).mono ?_
   rintro e w' ⟨us,he,⟨F,hA⟩,K⟩
   refine⟨Xv<|us.take<|i0 s.cod-(b+1),he,?_⟩
   have hp:∀o,o<σ.nx->eJ s.cod us σ.nx vs o=vs o:=λo v=>Qt v
   have Y:∀o∈os,o<σ.nx:=λo v=>by
    have⟨X,hX⟩:=hF o v;exact n.o1 _ hX
   have hG:MS (eJ s.cod us σ.nx vs) (Cp os (kO s.cod q (Ay<|i0 s.cod-(b+1)) σ.nx).2)=Ys s.cod q us:=by
    rw[zbq,oI];rw[eG,Bo ht F,hA,hD];exact xci λo v=>hp o<|Y o v
   refine Jn (vs:=vs) (vs':=eJ s.cod us σ.nx vs) (l:=(kO s.cod q (Ay<|i0 s.cod-(b+1)) σ.nx).1.filter λe=>xdh e.1<|Ay (i0 s.cod-(b+1))+(i0 s.cod-(b+1))) (Γl:=Yg s.cod q us) n hd O (xbM _ _) hp (λe he=>ed e (xcj.1 he).1) ?_ (λS w m=>R6 m F W) ?_
   ·intro e he
    obtain he|he:=So.1 he
    ·exact xao (Y _<|Rr e he)<|xbM _ _
    ·exact xao (n.o1 e<|Uw e he)<|xbM _ _
   ·have e1:OS (eJ s.cod us σ.nx vs) fr cx (Cp os (kO s.cod q (Ay<|i0 s.cod-(b+1)) σ.nx).2++vM σ.ob os)=Ys s.cod q us++OS vs fr cx (vM σ.ob os):=by
     show MS _ (_++_)++(MS _ cx.ob++_)=_;have L:MS (eJ s.cod us σ.nx vs) (vM σ.ob os)=MS vs (vM σ.ob os):=wE λe he=>Qt<|n.o1 e<|Uw e he;have M:MS (eJ s.cod us σ.nx vs) cx.ob=MS vs cx.ob:=wE λe he=>Qt<|n.o2 e he;rw[M,show MS (eJ s.cod us σ.nx vs) (Cp os (kO s.cod q (Ay<|i0 s.cod-(b+1)) σ.nx).2++vM σ.ob os)=MS _ _++MS _ _ from xaW,L,hG,xaf]
    rw[e1]
    exact K
end
end
section
def St.pr{we:wP}{Se:K->Prop}{ms:N MF}{Γ:N FF}{w:wP}{p:Prop}(hp:p)(h:St we Se ms Γ w):St we Se (mPr p::ms) Γ w:=by
 have⟨h1,b,c,S,d,e,f,g,i⟩:=h;refine⟨h1,b,⟨λk a=>a.elim,c⟩,S,d,e,λm hm k a=> ?_,⟨hp,g⟩,i⟩;obtain rfl|hm:=xaa.1 hm
 ·exact a.elim
 ·exact f m hm k a
def St.unpr{we:wP}{Se:K->Prop}{ms:N MF}{Γ:N FF}{w:wP}{p:Prop}(h:St we Se (mPr p::ms) Γ w):p/\St we Se ms Γ w:=
 ⟨wo h (i:=0) O λS hp=>hp,St.drop (i:=0) h⟩
section
variable{P:jp}{cf:Cf}{fr:Fr}{cx σ:Sg}{vs vs':wr->wN}{env:y8}{w:wP}{R:Type}{r:R}
 {d:ww Z9}{ty t yt:wT}{pos:String}{aft:ul Edge}{g:ww (wr×wW)}{x y:v6}
def QB{d a:Dv}{v:wN}{i:K}{S:K->Prop}(h:(wg P vs d v i).p S w)(b:∀u,(vj P vs d u).p S w->(vj P vs a u).p S w):(wg P vs a v i).p S w:=by
 cases i with
 |zero=>exact b _ h
 |succ i=>have⟨us,u,h1,c,e⟩:=h;exact⟨us,u,h1,c,b _ e⟩
def QX{v u:wN}{mk:K->Dv}{X:Od}{ob:N (K×Od)}(b:Bd cx σ)(hd:wA cx d=wF)(c:∀e∈ob,e.1<σ.nx)(hc:∀o,va (mk o)=Z o)(f:∀S w,(vj P (Xu vs σ.nx u) (mk σ.nx) v).p S w)
 (h:St fr.we fr.Se (Jt (Xu vs σ.nx u) (σ.nx,X)::OS vs fr cx ob) (GS P vs env fr cx σ) w):lS P fr cx σ.nx vs ⟨σ.nx+1,vv σ.rg d [(0,mk σ.nx)],(σ.nx,X)::ob⟩ (put env d v) w:=by
 refine Jn (σ':=⟨σ.nx+1,vv σ.rg d [(0,mk σ.nx)],(σ.nx,X)::ob⟩) (vs:=vs) (vs':=Xu vs σ.nx u) (Γl:=[]) b hd O (xbN _) (λo a=>j9 a) ?_ ?_ ?_ ?_
 ·intro e he o a;obtain rfl:=xad.1 he;rw[hc]at a;cases a;exact xbS _
 ·intro e he;obtain rfl|he:=xaa.1 he
  ·exact xbS _
  ·exact xfw<|c e he
 ·intro S w _ e he;obtain rfl:=xad.1 he;exact f S w
 ·show St _ _ (Jt (Xu vs σ.nx u) (σ.nx,X)::OS (Xu vs σ.nx u) fr cx ob) _ _;rw[Ib b c];exact h
def Vj:∀{ob:N (K×Od)}{o:K}{X Y:Od},xz ob o=Z X->xz (jE ob o Y) o=Z Y/\yu (jE ob o Y) o=yu ob o
 |(b,e)::r,o,X,Y,h=>by
  unfold xz at h;unfold jE;cases a:E b o<;>rw[a]at h
  ·have⟨h1,c⟩:=Vj (ob:=r) (Y:=Y) h;constructor
   ·simp only[Z2];unfold xz;rw[a];exact h1
   ·simp only[Z2];unfold yu;rw[a];simp only[Z2,c]
  ·constructor
   ·simp only[Z0];unfold xz;rw[a];rfl
   ·simp only[Z0];unfold yu;rw[a];rfl
def jq{o:K}{X:Od}{Γ:N FF}(a:xz σ.ob o=Z X)(h:St fr.we fr.Se (OS vs fr cx σ.ob) Γ w):St fr.we fr.Se (Jt vs (o,X)::OS vs fr cx (yu σ.ob o)) Γ w:=h.perm<|jb a
theorem Bp{ob:N (K×Od)}{o:K}{X Y:Od}{Γ:N FF}(a:xz ob o=Z X)(h:St fr.we fr.Se (Jt vs (o,Y)::OS vs fr cx (yu ob o)) Γ w):St fr.we fr.Se (OS vs fr cx<|jE ob o Y) Γ w:=by
 have⟨h1,b⟩:=Vj (Y:=Y) a;have:=jb (vs:=vs) (fr:=fr) (cx:=cx) h1;rw[b]at this;exact h.perm this.symm
def fG{o o2:K}{X Y:Od}{Γ:N FF}(a:E o o2=I)(b:xz σ.ob o=Z X)(hc:xz σ.ob o2=Z Y)(h:St fr.we fr.Se (OS vs fr cx σ.ob) Γ w):
 St fr.we fr.Se (Jt vs (o,X)::Jt vs (o2,Y)::OS vs fr cx (yu (yu σ.ob o) o2)) Γ w:=by
 have h1:xz (yu σ.ob o) o2=Z Y:=by rw[K3<|λe=>by subst e;simp at a];exact hc
 exact(h.perm<|jb b).perm<|(jb (vs:=vs) (fr:=fr) (cx:=cx) h1).cons _
def moU{o:K}{u:wN}{X:Od}:Jt (Xu vs o u) (o,X)=Jt (λ_=>u) (0,X):=by
 cases X<;>simp only[Jt,wa]
def zn7{S:K->Prop}{w:wP}:(ZM [.slice wL 0 0]).p S 0 (xfs (.slice wL 0 0)).toList w:=⟨_,O,O,O⟩
def zhW(a:yZ P cf.tt){k:Sg->V R}(hd:wA cx d=wF)(h:Sm cf cx σ d t x y k=Z r):lY P cx ⟨d,.makeSlice t x y,ty,pos,aft,g⟩ σ k r:=by
 unfold Sm at h;split at h
 ·next s E B C=>
  have⟨hi,h⟩:=z8 h;split at h
  ·next M E1 Q n f hn=>
   have⟨j,F,h⟩:=zaW h;have⟨i,h⟩:=u9 h;have⟨xs,l,h⟩:=xJ h;have G:=zah a f O;refine⟨_,h,xbN _,λfr vs env w H=> ?_⟩;have⟨m,o⟩:=H;have⟨S0,_,c⟩:=o.ex;have q:ev env x=.int .i64 (j:J):=by rw[(wK hn<|zU c x).1,F]
   have A:=(a _ _ f).2.1;refine(O0 (e:=ZM [.slice wL 0 0]) (z:=0) (xs:=xs) (n:=j) (vR a C) G q ((zbj hi).symm.trans q) A i (λ_ _=>zn7) l w o).mono ?_;rintro v w' ⟨b,rfl,_,K⟩;have hc:X xs=j:=by rw[l];exact xaZ
   have h1:=K.closeF 0 O (by rw[hc];exact Nm _)<|zhk A i;rw[hc]at h1;refine QX (vs:=vs) (mk:=.mw) (u:=K9 (.slice (Z ⟨b,0,wL⟩) j j) [.slice wL 0 0]) m hd m.o1 (λ_=>O) (λS w=>by simp only[vj,wa];rfl) ?_;rw[moU];refine St.grp.2<|St.pr (p:=X ([.slice wL 0 0]:N wN)=X ([[]]:N (N s.D))) O ?_;have L:=St.nilO (e:=s.rep) (E:=E1) h1;exact L.perm<|xdP ..
  ·cases h
 ·cases h
def zmp{a:V JP}{n c:K}:(Value.slice a n c).oneCell'=wF/\(Value.slice a n c).cells= #[.slice a n c]:=⟨O,O⟩
def Ea{α:Type}{e:zV α}{E:wT}{v:wN}{xs:N α}{S:K->Prop}(h:(mO e E v xs).p S w):v.oneCell'=wF/\v.cells= #[v]:=by
 rcases dk h with⟨rfl,_⟩|⟨b,cap,rfl,_⟩<;>exact zmp
def zll(b:yZ P cf.tt)(o:ug P cf.tt){n:K}{ps:ul (K×v6)}{k:Sg->V R}(hd:wA cx d=wF)(h:zeU cf cx σ d t n ps.toList k=Z r):lY P cx ⟨d,.buildSlice t n ps,ty,pos,aft,g⟩ σ k r:=by
 unfold zeU at h;split at h
 ·next s E B x c q=>
  have⟨hn,h⟩:=z8 h;have hn:=zO hn;subst hn;split at h
  ·next o2 hi=>
   split at h
   ·next L E1 ys f=>
    have⟨z,h⟩:=yj h;cases z;have⟨bytes,j,A⟩:=JI b o c;refine⟨_,h,xbN _,λfr vs env w C=> ?_⟩;have⟨l,hc⟩:=C;have⟨S0,_,a⟩:=hc.ex;have hl:ev env x=vs o2:=zj hi<|zU a x;have⟨q1,q2⟩:=wo (jq f hc) (i:=0) (m:=mO s.rep E1 (vs o2) ys) O λS hp=>Ea hp;have F:qU [(0,vs o2)]=[vs o2]:=by rw[zks,q2]
    refine(zhr (e:=ZM [vs o2]) (zs:=[0]) (len:=1) (parts:=ps.toList) (vs:=[(0,vs o2)]) (vR b c) A (xdS) O (by show 1*1<=_;lia) (by rw[q];simp[hl]) (λS w G=>⟨by rw[q2];rfl,wS⟩) (λS w G=> ?_) w<|jq f hc).mono ?_
    ·rw[F];exact⟨[vs o2],[],O,⟨_,O,q1,O⟩,O⟩
    rintro v w' ⟨M,rfl,_,H⟩;refine QX (vs:=vs) (mk:=.mw) (u:=K9 v [vs o2]) l hd (λe J=>l.o1 e<|um e J) (λ_=>O) (λS w=>by simp only[vj,wa];rfl) ?_;rw[moU];exact St.grp.2<|St.pr (p:=X ([vs o2]:N wN)=X ([ys]:N (N s.D))) O H
   ·cases h
  ·cases h
 ·cases h
def zf7(F:yZ P cf.tt){m:wT}{k:Sg->V R}(hd:wA cx d=wF)(h:H7 cf σ d m k=Z r):lY P cx ⟨d,.alloc m,ty,pos,aft,g⟩ σ k r:=by
 unfold H7 at h;split at h
 ·next s E B o=>
  have hi:=zah F o O;refine⟨_,h,xbN _,λfr vs env w q=> ?_⟩;have⟨f,A⟩:=q;refine(rf (e:=(ZM [.slice wL 0 0]).c) (z:=0) hi (λS w=>zn7 (S:=S) (w:=w)) w A).mono ?_;rintro v w' ⟨b,rfl,_,C⟩;refine QX (vs:=vs) (mk:=.mw) (u:=K9 (.pointer<|some ⟨b,0,wL⟩) [.slice wL 0 0]) f hd f.o1 (λ_=>O) (λS w=>by simp only[vj,wa];rfl) ?_;rw[moU];refine St.grp.2<|St.pr (p:=X ([.slice wL 0 0]:N wN)=1) O ?_;exact(St.nilO (e:=s.rep) (E:=E)<|C.toP 0 O).perm<|xdP ..
 ·next a n B o=>
  split at h
  ·next i E1 M=>
   split at h
   ·next off s K st j=>
    have⟨G,hc,Q,H,_,J⟩:=(F _ _ o).1;simp only at hc H J;refine⟨_,h,xbN _,λfr vs env w q=> ?_⟩;have⟨f,A⟩:=q;refine(rf (e:=aX a.rep off (st ([]:N s.D)) [.slice wL 0 0]) (z:=(a.z,0)) hc (λS w=>zkw j (H S w) (J _ _ _ _ _ _ j) O) w A).mono ?_;rintro v w' ⟨b,rfl,_,C⟩;refine QX (vs:=vs) (mk:=.mw) (u:=K9 (.pointer<|some ⟨b,0,wL⟩) [.slice wL 0 0]) f hd f.o1 (λ_=>O) (λS w=>by simp only[vj,wa];rfl) ?_;rw[moU];refine St.grp.2<|St.pr (p:=X ([.slice wL 0 0]:N wN)=1/\vrP s (xh n a i)) ⟨O,_,_,_,j⟩ ?_;have L:=(St.nilO (e:=s.rep) (E:=E1)<|C.toP 0 O).perm<|xdP ..;show St _ _ (mP (aX a.rep (YS<|xh n a i) (uh s (xh n a i) []) [.slice wL 0 0]) m _ (a.z,0)::mO s.rep E1 (.slice wL 0 0) []::_) _ _;rw[j];have hp:uh s (Z ⟨off,.l s,K,st⟩) ([]:N s.D)=st ([]:N s.D):=qR λz=>pC;rw[hp];exact L
   ·cases h
  ·cases h
 ·cases h
def zjc{v:V Dv}{o:K}(h:NV σ v=Z o):∃t n i E b E1 z xs,v=Z (.vf o t n i)/\xz σ.ob o=Z (.vr t E b E1 n i z xs):=by
 unfold NV at h;split at h
 ·next f c n0 i=>
  split at h
  ·next s E b E1 n j z xs e=>
   cases a:xaj i j && (xaj n0 n && (Ty.same c s).isSome)<;>rw[a]at h
   ·cases h
   ·cases h;rw[xab,xab]at a;obtain rfl:=zO a.1;obtain rfl:=zO a.2.1;obtain rfl:=QZ a.2.2;exact⟨_,_,_,_,_,_,_,_,O,e⟩
  ·cases h
 ·cases h
def CL{hv:N wN}(h:X hv=1):hv=[hv.headD uP]:=by
 match hv,h with
 |[a],_=>rfl
def zjF(D:yZ P cf.tt){o:K}{k:Sg->V R}(hd:wA cx d=wF)(F:xC cx σ x=Z (.mw o))(h:Sq cf σ d t o k=Z r):lY P cx ⟨d,.load t x,ty,pos,aft,g⟩ σ k r:=by
 unfold Sq at h;split at h
 ·next q E' B s E a xs G i=>
  have⟨l,H,_⟩:=Yt D G;refine⟨_,h,xbN _,λfr vs env w J=> ?_⟩;have⟨m,hc⟩:=J;have⟨S0,_,j⟩:=hc.ex;have hi:ev env x=yA (vs o):=zj F<|zU j x;have⟨n,h1⟩:=St.unpr<|St.grp.1<|jq i hc;have⟨b,v,L⟩:=h1.openP 0 O;refine(NS (WX (e:=(ZM<|xM<|vs o).c) (f:=ZM<|xM<|vs o) (z':=0) (up:=id) 0 O (hi.trans v) (Sub.self (ZM<|xM<|vs o) 0) H) w L).mono ?_;rintro u w' ⟨_,rfl,_,z⟩;have⟨S1,_,M⟩:=z.ex;have A:=ze4 M.1;have N:=CL n;have hl:u=(xM<|vs o).headD uP:=by
   rw[N]at A;simpa using A.symm
  have C:=(z.weak (Δ:=GS P vs env fr cx σ) λS w h=>h.2).toP 0 O;rw[<-v]at C;refine QX (vs:=vs) (mk:=.ow) (u:=u) m hd (λe Q=> ?_) (λ_=>O) (λS w=>JW S w) ?_
  ·have⟨T,g1,U⟩:=QU i e Q;rw[<-U];exact m.o1 T g1
  ·rw[Kj,hl];have h4:St fr.we fr.Se (mO s.rep E ((xM<|vs o).headD uP) xs::(Jt vs (o,.ho a)::OS vs fr cx (yu σ.ob o))) (GS P vs env fr cx σ) w':=by
    have h5:St fr.we fr.Se (mP (ZM<|xM<|vs o).c a (yA<|vs o) 0::mO s.rep E ((xM<|vs o).headD uP) xs::OS vs fr cx (yu σ.ob o)) (GS P vs env fr cx σ) w':=C;have h6:=St.pr (p:=X (xM<|vs o)=1) n h5;have h7:St fr.we fr.Se ([mPr<|X (xM<|vs o)=1,mP (ZM<|xM<|vs o).c a (yA<|vs o) 0]++mO s.rep E ((xM<|vs o).headD uP) xs::OS vs fr cx (yu σ.ob o)) (GS P vs env fr cx σ) w':=h6;exact(St.grp.2 h7).perm<|xdP ..
   have hp:=jb (vs:=vs) (fr:=fr) (cx:=cx) (Vj (Y:=.ho a) i).1;rw[(Vj (Y:=.ho a) i).2]at hp;exact h4.perm<|hp.symm.cons _
 ·cases h
def zer(c:yZ P cf.tt){ps:ul (K×v6)}{k:Sg->V R}(hd:wA cx d=wF)(h:Hs cf cx σ d t ps.toList k=Z r):lY P cx ⟨d,.build t ps,ty,pos,aft,g⟩ σ k r:=by
 unfold Hs at h;split at h
 ·next e n B i _ f hv=>
  have⟨j,l,v,m,_,hi⟩:=(c _ _ f).1;have⟨a,_,⟨fs,A,pl,C,o⟩,_⟩:=(c _ _ f).2.2.2;simp only at l v m hi a o;have⟨hn,h⟩:=z8 h;split at h
  ·next off s U st b=>
   have⟨z,h,D⟩:=SA h;have E:∀F,ES P ⟨d,.build t ps,ty,pos,aft,g⟩ cx σ F [(0,.dz e z n i)]:=λF=>uf λenv w S vs Y hl=>by
    have G:=D P vs env S w λx H=>yE hl (by simpa[xaC]using H);refine⟨_,_,_,_,[hbF n e (ps.toList.map λq:K×v6=>(q.1,ev env q.2)) e.z z],[],GV (e:=e.rep) (z0:=e.z) (z:=z) (parts:=ps.toList) (a▸l) a m ⟨fs,A,C⟩ O (λout=>out[off]? =Z (.slice wL 0 0))<|λS w h cs J hc=> ?_,wS,⟨G,wS⟩,λu w' L M=>zp ⟨M.1,_,b,L⟩⟩;have⟨out,q1,q2,N⟩:=HB.fill o h.1 hc;refine⟨out,q1,q2,?_⟩;rw[N i _ b (λp hp=> ?_) O,J]
    ·exact hi _ _ _ _ _ _ b
    ·obtain⟨q,Q,rfl⟩:=xat.1 hp;have:=xaN.1 hn q Q;intro e1;simp only at e1;rw[e1]at this;simp at this
   exact⟨_,h,Nm _,λfr vs env w T=>zkt (E _).mono hd (by rfl) T⟩
  ·cases h
 ·cases h
def zik(N:yZ P cf.tt){o:K}{k:Sg->V R}(hd:wA cx d=wF)(hi:NV σ (xC cx σ x)=Z o)(h:Ti cf σ d t o k=Z r):lY P cx ⟨d,.load t x,ty,pos,aft,g⟩ σ k r:=by
 have⟨t0,n0,i,m,c,a,z',l,hn,s⟩:=zjc hi;unfold Ti at h;split at h
 ·next s0 q B s1 E s2 E1 n j z xs Q v=>
  rw[s]at v;simp only[xar,Od.vr.injEq]at v;obtain⟨rfl,rfl,rfl,rfl,rfl,rfl,T,U⟩:=v;cases T;cases U;have⟨hg,h⟩:=z8 h;have⟨C,hr,_⟩:=Yt N Q;refine⟨_,h,xbN _,λfr vs env w hR=> ?_⟩;have⟨D,F⟩:=hR;have⟨S0,_,A⟩:=F.ex;have⟨b',f,G,hf,hv⟩:=zj hn<|zU A x;have⟨⟨hc,hw⟩,h1⟩:=St.unpr<|St.grp.1<|jq s F;have⟨b,H,h2⟩:=h1.openP 0 O;rw[H]at G;cases G;have hl:YS (xh n0 t0 i)=f.off:=by rw[hf];rfl
  have hm:ev env x=.pointer (Z ⟨b',YS<|xh n0 t0 i,wL⟩):=by rw[hl];exact hv.trans<|by rw[xaJ]
  refine(NS (WX (e:=aX t0.rep (YS<|xh n0 t0 i) (uh c (xh n0 t0 i) [])<|xM<|vs o) (f:=ZM<|xM<|vs o) (z':=0) (up:=λr=>(z',r)) 0 O hm Sub.hole hr) w h2).mono ?_;rintro u w' ⟨_,rfl,_,J⟩;have⟨S1,_,hx⟩:=J.ex;have L:=ze4 hx.1;have hy:=CL hc;have hA:u=(xM<|vs o).headD uP:=by
   rw[hy]at L;simpa using L.symm
  have M:=(J.weak (Δ:=GS P vs env fr cx σ) λS w h=>h.2).toP 0 O;rw[<-H]at M;refine QX (vs:=vs) (mk:=.ow) (u:=u) D hd (λe he=> ?_) (λ_=>O) (λS w=>JW S w) ?_
  ·have⟨e',g1,g2⟩:=QU s e he;rw[<-g2];exact D.o1 e' g1
  ·rw[Kj,hA];have h4:St fr.we fr.Se (mO c.rep a ((xM<|vs o).headD uP) l::(Jt vs (o,.vh t0 m c a n0 i z')::OS vs fr cx (yu σ.ob o))) (GS P vs env fr cx σ) w':=by
    have h5:St fr.we fr.Se (mP (aX t0.rep (YS<|xh n0 t0 i) (uh c (xh n0 t0 i) [])<|xM<|vs o) m (yA<|vs o) (z',0)::mO c.rep a ((xM<|vs o).headD uP) l::OS vs fr cx (yu σ.ob o)) (GS P vs env fr cx σ) w':=M;have h6:=St.pr (p:=X (xM<|vs o)=1/\vrP c (xh n0 t0 i)) ⟨hc,hw⟩ h5;have h7:St fr.we fr.Se ([mPr<|X (xM<|vs o)=1/\vrP c (xh n0 t0 i),mP (aX t0.rep (YS<|xh n0 t0 i) (uh c (xh n0 t0 i) [])<|xM<|vs o) m (yA<|vs o) (z',0)]++mO c.rep a ((xM<|vs o).headD uP) l::OS vs fr cx (yu σ.ob o)) (GS P vs env fr cx σ) w':=h6;exact(St.grp.2 h7).perm<|xdP ..
   have hp:=jb (vs:=vs) (fr:=fr) (cx:=cx) (Vj (Y:=.vh t0 m c a n0 i z') s).1;rw[(Vj (Y:=.vh t0 m c a n0 i z') s).2]at hp;exact h4.perm<|hp.symm.cons _
 ·cases h
structure zdX(a b:wN):Prop where
 out:yA b=yA a
 hv:∀(r:K) (v:wN),(xM a)[r]? =Z v->(xM b)[r]? =Z v
def zfD{o n:K}(c:zdX (vs o) (vs n)){dv:Dv}{v:wN}{S:K->Prop}(h:(vj P vs dv v).p S w):(vj P vs (ziz o n dv) v).p S w:=by
 cases dv with
 |mw p=>
  show(vj P vs (bif E p o then .mw n else .mw p) v).p S w;cases a:E p o
  ·exact h
  ·obtain rfl:=zO a;exact(show v=yA (vs p)from h).trans c.out.symm
 |mv p l m=>
  show(vj P vs (bif E p o then .mv n l m else .mv p l m) v).p S w;cases a:E p o
  ·exact h
  ·obtain rfl:=zO a;simp only[vj,Z0]at h⊢;rw[c.out];exact h
 |hp p j=>
  show(vj P vs (bif E p o then .hp n j else .hp p j) v).p S w;cases a:E p o
  ·exact h
  ·obtain rfl:=zO a;simp only[vj,Z0]at h⊢;rw[c.out];exact h
 |rw p r=>
  show(vj P vs (bif E p o then .rw n r else .rw p r) v).p S w;cases a:E p o
  ·exact h
  ·obtain rfl:=zO a;exact c.hv _ _ h
 |rp p t r j f=>
  show(vj P vs (bif E p o then .rp n t r j f else .rp p t r j f) v).p S w;cases a:E p o
  ·exact h
  ·obtain rfl:=zO a;have⟨h1,b,m,cap,e,i,k⟩:=h;exact⟨h1,b,m,cap,c.hv _ _ e,i,k⟩
 |_=>exact h
def zgi{o n p:K}{v:Dv}(h:va (ziz o n v)=Z p):va v=Z p\/p=n:=by
 cases v with
 |mw q=>
  have h:va (bif E q o then Dv.mw n else .mw q)=Z p:=h;cases a:E q o<;>rw[a]at h
  ·exact .inl h
  ·cases h;exact .inr O
 |mv q l m=>
  have h:va (bif E q o then Dv.mv n l m else .mv q l m)=Z p:=h;cases a:E q o<;>rw[a]at h
  ·exact .inl h
  ·cases h;exact .inr O
 |hp q j=>
  have h:va (bif E q o then Dv.hp n j else .hp q j)=Z p:=h;cases a:E q o<;>rw[a]at h
  ·exact .inl h
  ·cases h;exact .inr O
 |rw q r=>
  have h:va (bif E q o then Dv.rw n r else .rw q r)=Z p:=h;cases a:E q o<;>rw[a]at h
  ·exact .inl h
  ·cases h;exact .inr O
 |rp q t r j f=>
  have h:va (bif E q o then Dv.rp n t r j f else .rp q t r j f)=Z p:=h;cases a:E q o<;>rw[a]at h
  ·exact .inl h
  ·cases h;exact .inr O
 |_=>exact .inl h
def Rz{o n:K}:∀{rg:N (K×K×Dv)},∀e∈ziK o n rg,∃a∈rg,e=(a.1,a.2.1,ziz o n a.2.2)
 |[],e,he=>wR he IR
 |(t,i,v)::rg,e,he=>by
  obtain rfl|he:=xaa.1 he
  ·exact⟨_,FS,O⟩
  ·have⟨a,h1,b⟩:=Rz e he;exact⟨a,UV _ h1,b⟩
def Rp{o n:K}:∀{rg:N (K×K×Dv)},∀e∈Fo o n rg,e∈rg\/∃a∈rg,∃p,a.2.2=.mw p/\e=(a.1,a.2.1,bif E p o then .mw n else .mw p)
 |[],e,he=>wR he IR
 |(t,i,v)::rg,e,he=>by
  have b:∀e∈Fo o n rg,e∈(t,i,v)::rg\/∃a∈(t,i,v)::rg,∃p,a.2.2=.mw p/\e=(a.1,a.2.1,bif E p o then .mw n else .mw p):=λe he=>by
   obtain h|⟨a,h1,p,c,f⟩:=Rp e he
   ·exact .inl<|UV _ h
   ·exact .inr ⟨a,UV _ h1,p,c,f⟩
  cases v with
  |mw p=>
   rcases xaa.1 (show e∈(t,i,bif E p o then Dv.mw n else .mw p)::Fo o n rg from he)with rfl|he
   ·exact .inr ⟨_,FS,p,O,O⟩
   ·exact b e he
  |_=>
   obtain rfl|he:=xaa.1 he
   ·exact .inl<|FS
   ·exact b e he
def pN{u v:wN}{o:K}{X:Od}{ob:N (K×Od)}{rg:N (K×K×Dv)}(k:Bd cx σ)(hd:wA cx d=wF)(hc:∀e∈ob,e.1<σ.nx)
 (m:∀e∈rg,∃a∈vv σ.rg d [],e.1=a.1/\e.2.1=a.2.1/\(∀p,va e.2.2=Z p->va a.2.2=Z p\/p=σ.nx)/\∀v S w,(vj P (Xu vs σ.nx u) a.2.2 v).p S w->(vj P (Xu vs σ.nx u) e.2.2 v).p S w)
 (hi:St fr.we fr.Se (Jt (Xu vs σ.nx u) (σ.nx,X)::OS vs fr cx ob) (GS P vs env fr cx σ) w):lS P fr cx σ.nx vs ⟨σ.nx+1,rg,(σ.nx,X)::ob⟩ (put env d v) w:=by
 have⟨b,n⟩:gf P fr cx ⟨σ.nx+1,vv σ.rg d [],(σ.nx,X)::ob⟩ (Xu vs σ.nx u) (put env d v) w:=by
  refine Lq (σ':=⟨σ.nx+1,vv σ.rg d [],(σ.nx,X)::ob⟩) (l:=[]) (vs:=vs) (vs':=Xu vs σ.nx u) (Γl:=[]) k hd O (xbN _) (λo c=>j9 c) (λ_ he=>wR he IR) ?_ (λS w _ e he=>wR he IR) ?_
  ·intro e he;obtain rfl|he:=xaa.1 he
   ·exact xbS _
   ·exact xfw<|hc e he
  ·show St _ _ (Jt (Xu vs σ.nx u) (σ.nx,X)::OS (Xu vs σ.nx u) fr cx ob) _ _;rw[Ib k hc];exact hi
 refine⟨Xu vs σ.nx u,λo c=>j9 c,⟨b.o1,b.o2,λe he p hp=> ?_,b.r2⟩,n.weak λS w h=>zE.append (kX.2 λf q=> ?_)<|zE.right h⟩
 ·have⟨a,h1,_,_,j,_⟩:=m e he;obtain h|rfl:=j p hp
  ·exact b.r1 a h1 p h
  ·exact xbS _
 ·obtain⟨e,he,rfl⟩:=xat.1 q;have⟨a,h1,j,s,_,z⟩:=m e he;have A:=KP (zE.left h) (t:=a.1) (i:=a.2.1) (d:=a.2.2) h1;rw[j,s];exact QB A λu B=>z u S w B
def zih{u:wN}{o:K}(b:zdX (Xu vs σ.nx u o) (Xu vs σ.nx u σ.nx)):∀e∈ziK o σ.nx σ.rg,∃a∈vv σ.rg wL [],e.1=a.1/\e.2.1=a.2.1/\(∀p,va e.2.2=Z p->va a.2.2=Z p\/p=σ.nx)/\∀v S w,(vj P (Xu vs σ.nx u) a.2.2 v).p S w->(vj P (Xu vs σ.nx u) e.2.2 v).p S w:=by
 intro e c;obtain⟨a,h1,rfl⟩:=Rz e c;exact⟨a,h1,O,O,λp hp=>zgi hp,λv S w h=>zfD b h⟩
def nM{u:wN}{o:K}{rg:N (K×K×Dv)}(i:yA (Xu vs σ.nx u σ.nx)=yA (Xu vs σ.nx u o)):∀e∈Fo o σ.nx rg,∃a∈rg,e.1=a.1/\e.2.1=a.2.1/\(∀p,va e.2.2=Z p->va a.2.2=Z p\/p=σ.nx)/\∀v S w,(vj P (Xu vs σ.nx u) a.2.2 v).p S w->(vj P (Xu vs σ.nx u) e.2.2 v).p S w:=by
 intro e j;obtain h|⟨a,h1,p,f,rfl⟩:=Rp e j
 ·exact⟨e,h,O,O,λp hp=> .inl hp,λv S w h=>h⟩
 ·refine⟨a,h1,O,O,λq b=> ?_,λv S w h=> ?_⟩
  ·rw[f];cases c:E p o
   ·simp only[c,Z2]at b;exact .inl b
   ·simp only[c,Z0]at b;cases b;exact .inr O
  ·rw[f]at h;have h:v=yA (Xu vs σ.nx u p):=h;cases c:E p o
   ·exact h
   ·have hp:=zO c;subst hp;exact h.trans i.symm
end
end
section
section
variable{P:jp}{cf:Cf}{fr:Fr}{cx σ:Sg}{vs vs':wr->wN}{env:y8}{w:wP}{R:Type}{r:R}
 {d:ww Z9}{ty t yt:wT}{pos:String}{aft:ul Edge}{g:ww (wr×wW)}{x y:v6}
def Tf{α:Type}{xss:N (N α)}{r:K}(h:r<X xss):xss[r]? =Z (kU xss r):=by simp_all [kU]
def bW{o:K}{s:Ty}{E E1:wT}{xss:N (N s.D)}{ix:N K}{ms:N MF}{Γ:N FF}(h:St fr.we fr.Se (Jt vs (o,.mat s E E1 xss ix)::ms) Γ w):
 X (xM<|vs o)=X xss/\St fr.we fr.Se ((mO (ZM<|xM<|vs o) E (yA<|vs o) ix::vb s.rep E1 (xM<|vs o) xss)++ms) Γ w:=St.unpr<|St.grp.1 h
def O4{u:wN}{s:Ty}{E E1:wT}{xss:N (N s.D)}{ix:N K}{ms:N MF}{Γ:N FF}(hl:X (xM u)=X xss)(h:St fr.we fr.Se ((mO (ZM<|xM u) E (yA u) ix::vb s.rep E1 (xM u) xss)++ms) Γ w):
 St fr.we fr.Se (th s.rep E E1 u xss ix::ms) Γ w:=St.grp.2<|St.pr hl h
def znk{k:Sg->V R}{l:TI}(G:yZ P cf.tt)(H:ZG cf t=Z l){o p j:K}{e:Ty}{f:Fl e.D}(n:xC cx σ x=Z (.rp o e p j f))(h:jZ σ l.ty (xC cx σ x) (xC cx σ y) k=Z r):
 lY P cx ⟨wL,.store t x y,ty,pos,aft,g⟩ σ k r:=by
 have⟨s,u,_⟩:=Yt G H;rw[n]at h;simp only[jZ]at h;split at h
 ·next s' E E1 xss ix hc a _=>
  have⟨J,h1⟩:=yj h;cases J;have⟨q,L,M⟩:=WM h1;have⟨N,Q,h⟩:=xJ L;have⟨hc⟩:=hc;refine⟨_,h,Nm _,λfr vs env w T=> ?_⟩;have⟨U,A⟩:=T;have⟨S0,_,c⟩:=A.ex;have⟨Y,b,m,cap,hv,hj,hy⟩:=zj n<|zU c x;have B:=jq a A;have⟨hn,hp⟩:m=X (kU (α:=e.D) xss p)/\p<X xss:=wo B (i:=0) O λS hp=>⟨nL (si (show(th e.rep E E1 (vs o) xss ix).p S w from hp) hv).1 O,(si (show(th e.rep E E1 (vs o) xss ix).p S w from hp) hv).2⟩;have⟨hl,hg⟩:=bW B;have hi:=zjM (e:=e.rep) (E:=E) (E1:=E1) (v:=yA<|vs o) (ix:=ix) hv (Tf (α:=e.D) hp)<|OS vs fr cx<|yu σ.ob o;have⟨b',C,hA,hC,hD,hs⟩:=hg.openO (p+1) hi W;cases hA;rw[<-hc]at u;have hm:=(Sub.rowT0 e.rep cap (kU (α:=e.D) xss p) j ((kU (α:=e.D) xss p).getD j e.z)<|getD_some e.z W).comp<|Y<|(kU (α:=e.D) xss p).getD j e.z;refine(kH (f:=f.f.rep) (y':=q) (p+1) (vc hi) hy O hm u (λS w ha=>M P vs env S w<|zU ha y) w hs).mono ?_;rintro v w' ⟨_,rfl,_,hE⟩;refine fM (vs:=vs) U a<|Bp a ?_;have hd:X (xgb (kU (α:=e.D) xss p) j<|f.set q<|(kU (α:=e.D) xss p).getD j e.z)=X (kU (α:=e.D) xss p):=xbC ..;have F:=hE.closeF (p+1) (vc<|vc hi) (by rw[hd];exact hC) hD;rw[set_set,set_set,hd,PX hv hp hl]at F;rw[Q];exact O4 (by rw[show(znY (α:=e.D) xss p _).length=X xss from xbC ..];exact hl) F
 ·cases h
def zoJ{k:Sg->V R}{n:TI}(G:yZ P cf.tt)(H:ZG cf t=Z n){o j a p:K}(s:xC cx σ x=Z (.hp o j))(e:xC cx σ y=Z (.rw a p))(h:jZ σ n.ty (xC cx σ x) (xC cx σ y) k=Z r):
 lY P cx ⟨wL,.store t x y,ty,pos,aft,g⟩ σ k r:=by
 have⟨u,hd,_⟩:=Yt G H;rw[s,e]at h;simp only[jZ]at h;have⟨J,h⟩:=z8 h;obtain rfl:=zO J;split at h
 ·next z E E1 xss ix q l L=>
  have⟨iz,M,h⟩:=xJ h;refine⟨_,h,Nm _,λfr vs env w N=> ?_⟩;have⟨Q,A⟩:=N;have⟨S0,_,c⟩:=A.ex;have⟨b,m,cap,hv,hj,T⟩:=zj s<|zU c x;have U:(xM<|vs a)[p]? =Z (ev env y):=zj e<|zU c y;have B:=jq l A;have⟨hn,hi⟩:m=X ix/\(ev env y).oneCell'=true:=wo B (i:=0) O λS hp=>⟨nL (HS (show(th z.rep E E1 (vs a) xss ix).p S w from hp)).2.1 hv,(Ea (si (show(th z.rep E E1 (vs a) xss ix).p S w from hp) U).1).1⟩;have⟨hl,Y⟩:=bW B;have⟨b',C,D,hC,hD,hs⟩:=Y.openO 0 O W;rw[hv]at D;cases D;have hm:=Sub.rowT0 (ZM<|xM<|vs a) cap ix j (ix.getD j 0) (getD_some 0 W);rw[L]at hd;refine(kH (f:=ZM<|xM<|vs a) (y':=p) 0 O T O hm hd (λS w ha=> ?_) w hs).mono ?_
  ·exact zaC (zj e<|zU ha y) hi
  rintro v w' ⟨_,rfl,_,hE⟩;refine fM (vs:=vs) Q l<|Bp l ?_;have hc:X (ix.set j p)=X ix:=xbC ..;have F:=hE.closeF 0 O (by rw[hc];exact hC) hD;rw[hc,<-hv]at F;rw[M];exact O4 hl F
 ·cases h
def ziC{u:wN}{o:K}{hv:N wN}(a:xM u=xM (vs o)++hv)(b:yA u=yA (vs o))(c:o<σ.nx):zdX (Xu vs σ.nx u o) (Xu vs σ.nx u σ.nx):=by
 rw[j9 c,wa];refine⟨b,λr v h=> ?_⟩;rw[a,xaR (xaq.1 h).1];exact h
def sx{o:K}{X:Od}(a:Bd cx σ)(h:xz σ.ob o=Z X):o<σ.nx:=by
 have⟨i,h1,_⟩:=w8 h;exact a.o1 _<|xbq h1
def mg(a:Bd cx σ){o p:K}:∀e∈yu (yu σ.ob o) p,e.1<σ.nx:=λe b=>a.o1 e<|um e<|um e b
def znR{k:Sg->V R}{l:TI}(J:yZ P cf.tt)(L:ZG cf t=Z l){o j o2:K}(n:xC cx σ x=Z (.hp o j))(s:xC cx σ y=Z (.ow o2))(h:jZ σ l.ty (xC cx σ x) (xC cx σ y) k=Z r):
 lY P cx ⟨wL,.store t x y,ty,pos,aft,g⟩ σ k r:=by
 have⟨z,A,_⟩:=Yt J L;rw[n,s]at h;simp only[jZ]at h;have⟨B,h⟩:=z8 h;rw[xcV]at B;split at h
 ·next c E E1 xss ix s2 E2 ys q C M N=>
  have⟨Q,h0⟩:=z8 h;obtain rfl:=zO Q;have⟨T,h1⟩:=yj h0;cases T;have⟨U,Y,h2⟩:=xJ h1;have⟨iz,hi,h3⟩:=xJ h2;refine⟨_,h3,xbN _,λfr vs env w hR=> ?_⟩;have⟨e,D⟩:=hR;have⟨S0,_,a⟩:=D.ex;have⟨b,m,cap,hv,hj,hD⟩:=zj n<|zU a x;have hF:ev env y=vs o2:=zj s<|zU a y;have hc:=fG B C M D;have hn:m=X ix:=wo hc (i:=0) O λS hp=>nL (HS (show(th c.rep E E1 (vs o) xss ix).p S w from hp)).2.1 hv;have⟨hm,_⟩:(vs o2).oneCell'=true/\_:=wo hc (i:=1) (m:=mO c.rep E1 (vs o2) ys) O λS hp=>Ea hp;have hl:=(bW hc).1
  have hg:St fr.we fr.Se ((mO (ZM<|xM (vs o)++[vs o2]) E (yA<|vs o) ix::vb c.rep E1 (xM (vs o)++[vs o2]) (xss++[ys]))++OS vs fr cx (yu (yu σ.ob o) o2)) (GS P vs env fr cx σ) w:=
   St.grp.1 (St.adopt hl<|St.grp.2 (bW hc).2)
  have⟨b',F,G,hG,hH,hs⟩:=hg.openO 0 O W;rw[hv]at G;cases G;have hr:=Sub.rowT0 (ZM<|xM (vs o)++[vs o2]) cap ix j (ix.getD j 0) (getD_some 0 W);rw[N]at A;refine(kH (f:=ZM<|xM (vs o)++[vs o2]) (y':=X xss) 0 O hD hF hr A (λS w ha=>zaC (by rw[<-hl];simp) hm) w hs).mono ?_;rintro v w' ⟨_,rfl,_,hI⟩;have hd:X (ix.set j (X xss))=X ix:=xbC ..;have H:=hI.closeF 0 O (by rw[hd];exact hG) hH;rw[hd,<-hv]at H;refine pN (o:=o) (u:=K9 (yA<|vs o)<|xM (vs o)++[vs o2]) e O (mg e) (zih<|ziC O O<|sx e C) ?_;rw[moU,hi,Y];refine O4 (u:=K9 (yA<|vs o)<|xM (vs o)++[vs o2]) (by show(xM (vs o)++[vs o2]).length=X (xss++[ys]);simp[hl]) H
 ·cases h
def zol{k:Sg->V R}{C:TI}(Q:yZ P cf.tt)(T:ZG cf t=Z C){o o2:K}(D:xC cx σ x=Z (.mw o))(E:xC cx σ y=Z (.ow o2))(h:jZ σ C.ty (xC cx σ x) (xC cx σ y) k=Z r):
 lY P cx ⟨wL,.store t x y,ty,pos,aft,g⟩ σ k r:=by
 have⟨F,hc,_⟩:=Yt Q T;rw[D,E]at h;simp only[jZ]at h;have⟨hd,h⟩:=z8 h;rw[xcV]at hd;split at h
 ·next a n s ys q G U Y=>
  refine⟨_,h,xbN _,λfr vs env w hR=> ?_⟩;have⟨z,H⟩:=hR;have⟨S0,_,j⟩:=H.ex;have hn:ev env x=yA (vs o):=zj D<|zU j x;have hq:ev env y=vs o2:=zj E<|zU j y;have J:=fG hd G U H;have⟨hg,_⟩:(vs o2).oneCell'=true/\_:=wo J (i:=1) (m:=mO n.rep s (vs o2) ys) O λS hp=>Ea hp;have⟨hl,h1⟩:=St.unpr<|St.grp.1 J;have h1:St fr.we fr.Se (mP (ZM<|xM<|vs o).c a (yA<|vs o) 0::mO n.rep s (vs o2) ys::OS vs fr cx (yu (yu σ.ob o) o2)) (GS P vs env fr cx σ) w:=h1;have⟨b,L,h2⟩:=h1.openP 0 O;have hi:=CL hl;have h3:=h2.conv (i:=0) (m:=mB (ZM<|xM<|vs o).c a b 0) (m':=mB (ZM<|xM (vs o)++[vs o2]).c a b 0) O O λS hp=>by
   have⟨cs,g1,u,l,A,B⟩:=hp;exact⟨cs,g1,u,by rw[xaR (xaq.1 l).1];exact l,A,B⟩
  rw[Y]at hc;refine(kH (e:=(ZM<|xM (vs o)++[vs o2]).c) (f:=ZM<|xM (vs o)++[vs o2]) (z':=0) (y':=1) (up:=id) 0 O (hn.trans L) hq (Sub.self (ZM<|xM (vs o)++[vs o2]) 0) hc (λS w ha=>zaC (by rw[hi];rfl) hg) w h3).mono ?_;rintro v w' ⟨_,rfl,_,hr⟩;have h4:St fr.we fr.Se (mB (ZM<|xM (vs o)++[vs o2]).c a b 1::mO n.rep s (vs o2) ys::OS vs fr cx (yu (yu σ.ob o) o2)) (GS P vs env fr cx σ) w':=hr;have h5:=h4.conv (i:=0) (m:=mB (ZM<|xM (vs o)++[vs o2]).c a b 1) (m':=mB (ZM [vs o2]).c a b 0) O O λS hp=>by
   have⟨cs,g1,u,l,A,B⟩:=hp;refine⟨cs,g1,u,?_,A,B⟩;rw[hi]at l;exact l
  have M:=h5.toP 0 O;rw[<-L]at M;have h7:St fr.we fr.Se (mP (ZM [vs o2]).c a (yA<|vs o) 0::mO n.rep s (vs o2) ys::OS vs fr cx (yu (yu σ.ob o) o2)) (GS P vs env fr cx σ) w':=M;refine pN (o:=o) (u:=K9 (yA<|vs o) [vs o2]) z O (mg z) (nM<|by rw[wa,j9<|sx z G];rfl) ?_
  ·rw[moU];exact St.grp.2<|St.pr (p:=X ([vs o2]:N wN)=1) O h7
 ·cases h
def znx{k:Sg->V R}{B:TI}(T:yZ P cf.tt)(U:ZG cf t=Z B){o o2 a n0 i}(C:xC cx σ x=Z (.vf o a n0 i))(D:xC cx σ y=Z (.ow o2))(h:jZ σ B.ty (xC cx σ x) (xC cx σ y) k=Z r):
 lY P cx ⟨wL,.store t x y,ty,pos,aft,g⟩ σ k r:=by
 have⟨F,hc,_⟩:=Yt T U;rw[C,D]at h;simp only[jZ]at h;have⟨hd,h⟩:=z8 h;rw[xcV]at hd;split at h
 ·next s1 E c E1 n j z s3 E3 ys G Y=>
  have⟨H,h0⟩:=z8 h;rw[xab,xab,xab,xab]at H;have⟨⟨⟨g1,q⟩,g3⟩,g4,g5⟩:=H;obtain rfl:=zO g1;obtain rfl:=zO q;obtain rfl:=zO g4;obtain rfl:=QZ g5;have hu:=QZ g3;have⟨hv,hw⟩:=yj h0;cases hv;refine⟨_,hw,xbN _,λfr vs env w hR=> ?_⟩;have⟨A,J⟩:=hR;have⟨S0,_,s⟩:=J.ex;have⟨l,f,hi,hf,hz⟩:=zj C<|zU s x;have hA:ev env y=vs o2:=zj D<|zU s y;have K:=fG hd G Y J;have⟨hk,_⟩:(vs o2).oneCell'=true/\_:=wo K (i:=1) (m:=mO c.rep E1 (vs o2) ys) O λS hp=>Ea hp;have⟨⟨hl,hC⟩,h1⟩:=St.unpr<|St.grp.1 K;have h1:St fr.we fr.Se (mP (aX a.rep (YS<|xh n0 a i) (uh c (xh n0 a i) [])<|xM<|vs o) E (yA<|vs o) (z,0)::mO c.rep E1 (vs o2) ys::OS vs fr cx (yu (yu σ.ob o) o2)) (GS P vs env fr cx σ) w:=h1;have⟨b,L,h2⟩:=h1.openP 0 O;have M:=CL hl;obtain rfl:l=b:=by rw[L]at hi;cases hi;rfl
  have hn:YS (xh n0 a i)=f.off:=by rw[hf];rfl
  have hq:ev env x=.pointer (Z ⟨l,YS<|xh n0 a i,wL⟩):=by rw[hn];exact hz.trans<|by rw[xaJ]
  have h3:=h2.conv (i:=0) (m:=mB (aX a.rep (YS<|xh n0 a i) (uh c (xh n0 a i) [])<|xM<|vs o) E l (z,0)) (m':=mB (aX a.rep (YS<|xh n0 a i) (uh c (xh n0 a i) [])<|xM (vs o)++[vs o2]) E l (z,0)) O O λS hp=>by
   have⟨cs,g1,q⟩:=hp;exact⟨cs,g1,zi4 q⟩
  rw[hu]at hc;refine(kH (e:=aX a.rep (YS<|xh n0 a i) (uh c (xh n0 a i) [])<|xM (vs o)++[vs o2]) (f:=ZM<|xM (vs o)++[vs o2]) (z':=0) (y':=1) (up:=λr=>(z,r)) 0 O hq hA Sub.hole hc (λS w ha=>zaC (by rw[M];rfl) hk) w h3).mono ?_;rintro v w' ⟨_,rfl,_,hD⟩;have h4:St fr.we fr.Se (mB (aX a.rep (YS<|xh n0 a i) (uh c (xh n0 a i) [])<|xM (vs o)++[vs o2]) E l (z,1)::mO c.rep E1 (vs o2) ys::OS vs fr cx (yu (yu σ.ob o) o2)) (GS P vs env fr cx σ) w':=hD;have h5:=h4.conv (i:=0) (m:=mB (aX a.rep (YS<|xh n0 a i) (uh c (xh n0 a i) [])<|xM (vs o)++[vs o2]) E l (z,1)) (m':=mB (aX a.rep (YS<|xh n0 a i) (uh c (xh n0 a i) []) [vs o2]) E l (z,0)) O O λS hp=>by
   have⟨cs,g1,q⟩:=hp;exact⟨cs,g1,zoD (by rw[M];rfl) q⟩
  have Q:=h5.toP 0 O;rw[<-L]at Q;have h7:St fr.we fr.Se (mP (aX a.rep (YS<|xh n0 a i) (uh c (xh n0 a i) []) [vs o2]) E (yA<|vs o) (z,0)::mO c.rep E1 (vs o2) ys::OS vs fr cx (yu (yu σ.ob o) o2)) (GS P vs env fr cx σ) w':=Q;refine pN (o:=o) (u:=K9 (yA<|vs o) [vs o2]) A O (mg A) (nM<|by rw[wa,j9<|sx A G];rfl) ?_
  ·rw[moU];exact St.grp.2<|St.pr (p:=X ([vs o2]:N wN)=1/\vrP c (xh n0 a i)) ⟨O,hC⟩ h7
 ·cases h
def zgL{k:Sg->V R}{u:TI}(M:yZ P cf.tt)(Q:ZG cf t=Z u){o n i j E:K}{s a:Ty}{z:s.D}{f:Fl s.D}{X:s.D->Od}{rest:wN->N MF}
 (A:∀vs z,Jt vs (o,X z)=Dy (mPr (i0 (xM<|vs o)=1/\vrP a (xh n s j))::mP (aX s.rep (YS<|xh n s j) (uh a (xh n s j) [])<|xM<|vs o) E (yA<|vs o) (z,0)::rest (vs o)))
 (T:xC cx σ x=Z (.vf o s n i)) (c:xz σ.ob o=Z (X z)) (hn:i≠j) (C:xh n s i=Z f) (h:qM (Ty.same f.f u.ty).isSome (A6 (xC cx σ y) f.f λy=>B (f.set y z) λz=>k ⟨σ.nx,σ.rg,jE σ.ob o<|X z⟩)=Z r):
 lY P cx ⟨wL,.store t x y,ty,pos,aft,g⟩ σ k r:=by
 have⟨F,hc,_⟩:=Yt M Q;have⟨U,h⟩:=z8 h;have hp:=QZ U;have⟨q,l,Y⟩:=WM h;have⟨z2,hr,h⟩:=xJ l;refine⟨_,h,Nm _,λfr vs env w hR=> ?_⟩;have⟨hB,hd⟩:=hR;have⟨S0,_,m⟩:=hd.ex;have h0:=jq c hd;rw[A]at h0;have⟨⟨hl,G⟩,h1⟩:=St.unpr<|St.grp.1 h0;have⟨b,H,l⟩:=h1.openP 0 O;have⟨b',f',hi,J,ht⟩:=zj T<|zU m x;obtain rfl:b'=b:=by rw[H]at hi;cases hi;rfl
 rw[C]at J;cases J;rw[<-hp]at hc;refine(kH (e:=aX s.rep (YS<|xh n s j) (uh a (xh n s j) [])<|xM<|vs o) (f:=f.f.rep) (z':=f.get z) (y':=q) (up:=λy=>(f.set y z,0)) 0 O (ht.trans<|by rw[xaJ]) O (za8 G C hn) hc (λS w ha=>Y P vs env S w<|zU ha y) w l).mono ?_;rintro v w' ⟨_,rfl,_,hu⟩;refine fM (vs:=vs) hB c<|Bp c ?_;have L:=hu.toP 0 O;rw[<-H]at L;rw[A,hr];exact St.grp.2<|St.pr (p:=i0 (xM<|vs o)=1/\vrP a (xh n s j)) ⟨hl,G⟩ L
def zou{k:Sg->V R}{H:TI}(Y:yZ P cf.tt)(hm:ZG cf t=Z H){o n2 i2:K}{t2:Ty}{s:t2.D}(J:xC cx σ x=Z (.mw o))(A:xC cx σ y=Z (.dz t2 s n2 i2))(h:jZ σ H.ty (xC cx σ x) (xC cx σ y) k=Z r):
 lY P cx ⟨wL,.store t x y,ty,pos,aft,g⟩ σ k r:=by
 have⟨L,hd,_⟩:=Yt Y hm;rw[J,A]at h;simp only[jZ]at h;split at h
 ·next s1 E a E1 n j z xs M=>
  have⟨B,h0⟩:=z8 h;rw[xab,xab]at B;obtain rfl:=zO B.1;obtain rfl:=zO B.2.1;have hn:=QZ B.2.2;have⟨hq,hr⟩:=yj h0;subst hq;refine⟨_,hr,xbN _,λfr vs env w hR=> ?_⟩;have⟨C,hi⟩:=hR;have⟨S0,_,q⟩:=hi.ex;have ht:ev env x=yA (vs o):=zj J<|zU q x;have⟨_,f,Q,hj⟩:=zj A<|zU q y;have⟨⟨hl,hu⟩,h1⟩:=St.unpr<|St.grp.1<|jq M hi;have h1:St fr.we fr.Se (mP (aX t2.rep (YS<|xh n2 t2 i2) (uh a (xh n2 t2 i2) [])<|xM<|vs o) E (yA<|vs o) (z,0)::mO a.rep E1 ((xM<|vs o).headD uP) xs::OS vs fr cx (yu σ.ob o)) (GS P vs env fr cx σ) w:=h1;have h1:St fr.we fr.Se (mP (aX t2.rep (YS<|xh n2 t2 i2) (uh a (xh n2 t2 i2) [])<|xM<|vs o) E (yA<|vs o) (z,0)::OS vs fr cx (yu σ.ob o)) (GS P vs env fr cx σ) w:=St.drop (i:=1) h1;have⟨b,T,h2⟩:=h1.openP 0 O;have h3:=h2.conv (i:=0) (m:=mB (aX t2.rep (YS<|xh n2 t2 i2) (uh a (xh n2 t2 i2) [])<|xM<|vs o) E b (z,0)) (m':=mB (eRw t2.rep.n t2.rep.agg t2.rep.n1).c E b wL) O O λS hp=>by
   have⟨cs,g1,F⟩:=hp;exact⟨cs,g1,zmS F⟩
  rw[hn]at hd;refine(kH (e:=(eRw t2.rep.n t2.rep.agg t2.rep.n1).c) (f:=eRw t2.rep.n t2.rep.agg t2.rep.n1) (z':=wL) (y':=Z (ev env y).cells.toList) (up:=id) 0 O (ht.trans T) O (Sub.self _ _) hd (λS w G=>zlW (zj A<|zU G y).1) w h3).mono ?_;rintro v w' ⟨_,rfl,_,hv⟩;have h4:St fr.we fr.Se (mB (eRw t2.rep.n t2.rep.agg t2.rep.n1).c E b (Z (ev env y).cells.toList)::OS vs fr cx (yu σ.ob o)) (GS P vs env fr cx σ) w':=hv;have⟨off,gt,st,hc⟩:=hu;rw[hc]at Q;cases Q;have h5:=h4.grow (i:=0) (m:=mB (eRw t2.rep.n t2.rep.agg t2.rep.n1).c E b<|some (ev env y).cells.toList) (m':=mB (aX t2.rep off (st ([]:N a.D)) [.slice wL 0 0]) E b (s,0)) O (yw.refl _ _) (λk hk=> .inl hk) λS _ hp G=>by
   have⟨cs,g1,_,_,F⟩:=hp;refine⟨cs,g1,?_⟩;rw[F _ O];exact zkw hc (uY (zj A<|zU G y).1) hj O
  have U:=h5.toP 0 O;rw[<-T]at U;have h7:St fr.we fr.Se (mP (aX t2.rep off (st ([]:N a.D)) [.slice wL 0 0]) E (yA<|vs o) (s,0)::mO a.rep E1 (.slice wL 0 0) []::OS vs fr cx (yu σ.ob o)) (GS P vs env fr cx σ) w':=(St.nilO (e:=a.rep) (E:=E1) U).perm<|xdP ..;refine pN (o:=o) (u:=K9 (yA<|vs o) [.slice wL 0 0]) C O (λe he=>C.o1 e<|um e he) (nM<|by rw[wa,j9<|sx C M];rfl) ?_
  ·rw[moU];refine St.grp.2<|St.pr (p:=X ([.slice wL 0 0]:N wN)=1/\vrP a (xh n2 t2 i2)) ⟨O,_,_,_,hc⟩ ?_;show St _ _ (mP (aX t2.rep (YS<|xh n2 t2 i2) (uh a (xh n2 t2 i2) []) [.slice wL 0 0]) E (yA<|vs o) (s,0)::mO a.rep E1 (.slice wL 0 0) []::_) _ _;rw[hc,show uh a (Z ⟨off,.l a,gt,st⟩) ([]:N a.D)=st ([]:N a.D)from qR λz=>pC];exact h7
 ·cases h
def zf9(c:yZ P cf.tt){k:Sg->V R}{B:TI}(l:ZG cf t=Z B)(h:jZ σ B.ty (xC cx σ x) (xC cx σ y) k=Z r):lY P cx ⟨wL,.store t x y,ty,pos,aft,g⟩ σ k r:=by
 have h0:=h;unfold jZ at h;split at h
 ·next o e r j f a=>exact znk c l a h0
 ·next o q n0 i o2 a b=>exact znx c l a b h0
 ·next o q n0 i a _=>
  split at h
  ·next C E p E1 n j z ys s=>
   have⟨m,h1⟩:=z8 h;rw[xab]at m;obtain rfl:=zO m.1;obtain rfl:=QZ m.2;have⟨hc,f,v,A⟩:=zbn h1;exact zgL c l (X:=λz=> .vr q E p E1 n0 j z ys) (rest:=λu=>[mO p.rep E1 ((xM u).headD uP) ys]) (λ_ _=>O) a s hc v A
  ·next C E p E1 n j z s=>
   have⟨m,h1⟩:=z8 h;rw[xab]at m;obtain rfl:=zO m.1;obtain rfl:=QZ m.2;have⟨hc,f,v,A⟩:=zbn h1;exact zgL c l (X:=λz=> .vh q E p E1 n0 j z) (rest:=λ_=>[]) (λ_ _=>O) a s hc v A
  ·cases h
 ·next o j D r a b=>exact zoJ c l a b h0
 ·next o j o2 a b=>exact znR c l a b h0
 ·next o t2 F n2 i2 a b=>exact zou c l a b h0
 ·next o o2 a b=>exact zol c l a b h0
 ·cases h
def sG:∀{ob:N (K×Od)}{o p:K},o≠p->yu (yu ob o) p=yu (yu ob p) o
 |[],_,_,_=>rfl
 |(q,X)::r,o,p,h=>by
  have b:=sG (ob:=r) h;cases h1:E q o
  ·cases a:E q p
   ·simp only[yu,h1,a,Z2];rw[b]
   ·simp only[yu,h1,a,Z2,Z0]
  ·cases a:E q p
   ·simp only[yu,h1,a,Z2,Z0]
   ·have:=(zO h1).symm.trans<|zO a;exact wR this h
def Fy{S:K->Prop}{w:wP}{hv a:N wN}:∀{ix:N K}{cs:N wN},yJ (ZM a) S ix cs w->yJ (ZM<|hv++a) S (ix.map (X hv+ ·)) cs w
 |[],_,h=>h
 |r::ix,cs,⟨c,q,h1,⟨u,b,e,f⟩,i⟩=>⟨c,q,h1,⟨u,by show(hv++a)[X hv+r]? =Z u;rw[xbj<|xbM _ _,xff];exact b,e,f⟩,Fy i⟩
def GP{α:Type}{e:zV α}{E:wT}:∀{hv b:N wN}{xss a:N (N α)},X hv=X xss->vb e E (hv++b) (xss++a)=vb e E hv xss++vb e E b a
 |[],_,[],_,_=>rfl
 |u::hv,b,xs::xss,a,h=>by
  show mO e E u xs::vb e E (hv++b) (xss++a)=mO e E u xs::(vb e E hv xss++vb e E b a);rw[GP<|by simpa using h]
 |[],_,_::_,_,h=>by cases h
 |_::_,_,[],_,h=>by cases h
def zmH(G:yZ P cf.tt){q:ul v6}{ts:ul wT}{k:Sg->V R}(hd:wA cx d=wF)(h:zem cf cx σ d q.toList ts.toList k=Z r):
 lY P cx ⟨d,.call ⟨.builtin .append,q,ts⟩,ty,pos,aft,g⟩ σ k r:=by
 unfold zem at h;split at h
 ·next _ _ x y t t' hS hU=>
  obtain rfl:q= #[x,y]:=by cases q;simp_all
  obtain rfl:ts= #[t,t']:=by cases ts;simp_all
  split at h
  ·next s E B o p ht hx hy=>
   have⟨D,C⟩:=z8 h;rw[xab]at D;have⟨hC,hl⟩:=D;obtain rfl:=zO hC;rw[xcV]at hl;clear h;split at C
   ·next q1 q2 Q z E1 A xss ix s2 a F2 f j hn ho hp=>
    have⟨D,h1⟩:=z8 C;simp only[xab]at D;have⟨H,J,K⟩:=D;have H:=zO H;have J:=zO J;have K:=zO K;subst H;subst J;subst K;have⟨hD,h2⟩:=yj h1;cases hD;have⟨T,h3⟩:=u9 h2;have⟨a0,hz,h4⟩:=xJ h3;have⟨iz,hi,h5⟩:=xJ h4;have hE:=zah G hn O;have hc:=(G _ _ hn).2.1;refine⟨_,h5,xbN _,λfr vs env w hR=> ?_⟩;have⟨U,Y⟩:=hR;have⟨S0,_,F⟩:=Y.ex;have hG:ev env x=yA (vs o):=zj hx<|zU F x;have hH:ev env y=yA (vs p):=zj hy<|zU F y;have hI:=fG hl ho hp Y;have⟨L,hJ⟩:=bW hI;have hu:St fr.we fr.Se (Jt vs (p,.mat z a A f j)::((mO (ZM<|xM<|vs o) a (yA<|vs o) ix::vb z.rep A (xM<|vs o) xss)++OS vs fr cx (yu (yu σ.ob o) p))) (GS P vs env fr cx σ) w:=hJ.perm xcn;have⟨hK,hL⟩:=bW hu;have hN:St fr.we fr.Se (mO (ZM<|xM<|vs o) a (yA<|vs o) ix::mO (ZM<|xM<|vs p) a (yA<|vs p) j::(vb z.rep A (xM<|vs o) xss++vb z.rep A (xM<|vs p) f++OS vs fr cx (yu (yu σ.ob o) p))) (GS P vs env fr cx σ) w:=by
     refine hL.perm ?_;simp only[xbF,xaf];refine(List.Perm.cons _ xcn).trans<|(xdP ..).trans ?_;refine List.Perm.cons _<|List.Perm.cons _ ?_;exact(xdT ..)
    have hO:=hN.conv (i:=0) (m:=mO (ZM<|xM<|vs o) a (yA<|vs o) ix) (m':=mO (ZM<|xM (vs o)++xM (vs p)) a (yA<|vs o) ix) O O λS hq=>za9 hq;have RH:∀m,m*Q<=140737488355328->m<=9223372036854775807:=λm hm=>by
     have hc:0<Q:=hc;have:=xcf m hc;lia
    have M:X (j.map (xaF xss+ ·))=X j:=xbd _;refine(af (e:=ZM<|xM (vs o)++xM (vs p)) (ys:=j.map (xaF xss+ ·)) 0 (vR G ht) hE O xdS O hG hH (λS w hM ha=> ?_) (RH _<|by rw[M];exact T) (by rw[M];exact T) w hO).mono ?_
    ·have hm:(mO (ZM<|xM<|vs p) a (yA<|vs p) j).p S w:=hM.2.1;have hw:(mO (ZM<|xM (vs o)++xM (vs p)) a (yA<|vs p) (j.map (xaF xss+ ·))).p S w:=by
      have⟨cs,a1,a2⟩:=hm;refine⟨cs,by rw[M];exact a1,?_⟩;rw[<-L];exact Fy a2
     rcases dk hw with⟨hv,hA⟩|⟨b,cap,hv,hP,hQ⟩
     ·rw[hv,hA];exact⟨wL,0,O,Nm _,xai _,.inl O⟩
     ·have C:=Iw hw hv (l:=0) (n:=X (j.map (xaF xss+ ·))) (c:=cap) W hP hQ;rw[List.drop_zero,xcw]at C;rw[hv];simpa using C
    rintro v w' ⟨v',rfl,_,hs⟩;refine QX (vs:=vs) (mk:=.mw) (u:=K9 v<|xM (vs o)++xM (vs p)) U hd (mg U) (λ_=>O) (λS w=>by simp only[vj,wa];rfl) ?_;rw[moU,hz,hi];have h7:St fr.we fr.Se (mO (ZM<|xM (vs o)++xM (vs p)) a v (ix++j.map (xaF xss+ ·))::mO (ZM<|xM<|vs p) a (yA<|vs p) j::(vb z.rep A (xM<|vs o) xss++vb z.rep A (xM<|vs p) f++OS vs fr cx (yu (yu σ.ob o) p))) (GS P vs env fr cx σ) w':=hs;have h8:=St.drop (i:=1) h7;refine O4 (u:=K9 v<|xM (vs o)++xM (vs p)) (by show(xM (vs o)++xM (vs p)).length=X (xss++f);simp[L,hK]) ?_;show St _ _ ((mO (ZM<|xM (vs o)++xM (vs p)) a v _::vb z.rep A (xM (vs o)++xM (vs p)) (xss++f))++_) _ _;rw[GP L];exact h8
   ·cases C
  ·cases h
 ·cases h
def zb6(G:En P cf){s:Ck}{f:v6}{c:ul v6}{ts:ul wT}{k:Sg->V R}(hd:wA cx d=wF)(H:xC cx σ f=Z (.fn s.f []))(J:s∈cf.ms)(h:CA cx σ d s c.toList k=Z r):
 lY P cx ⟨d,.call ⟨.value f,c,ts⟩,ty,pos,aft,g⟩ σ k r:=by
 have⟨K,L⟩:=G.ms s J;unfold CA at h;split at h
 ·next _ x a p y hF=>
  obtain rfl:c= #[x,a,p,y]:=by cases c;simp_all
  split at h
  ·next o r0 av pv o' lo n M N hp Q=>
   have⟨S,j⟩:=z8 h;obtain rfl:=zO S;clear h;split at j
   ·next s1 E E1 xss ix z=>
    have⟨l,h1⟩:=z8 j;rw[xab]at l;have A:=zO l.1;have hi:=zO l.2;have⟨T,U⟩:=yj h1;cases T;have⟨i,Y,h3⟩:=r8 U;refine⟨_,h3,xbN _,λfr vs env w hR=> ?_⟩;have⟨m,B⟩:=hR;have⟨S0,_,b⟩:=B.ex;have hw:(xM<|vs o)[r0]? =Z (ev env x):=zj M<|zU b x;have C:=wK N<|zU b a;have hl:=wK hp<|zU b p;have hA:MI (yA<|vs o) lo n (ev env y):=zj Q<|zU b y;have⟨q,hv,hC,hG⟩:=zj H<|zU b f;obtain rfl:q=[]:=xbs.1 hC;have D:=jq z B;rw[A,hi]at D;have hc:=L xss ix r0 av pv lo n i Y (vs o) (ev env x) (ev env y) hw hA C.2 hl.2 fr.we fr.Se _ _ w D;have hn:(jP (ev env) ⟨d,.call ⟨.value f,#[x,a,p,y],ts⟩,ty,pos,aft,g⟩).run P w=.ok (.enter s.f #[ev env x,.int .i64 av,.int .i64 pv,ev env y]) w:=by simp[jP,Wr,hv,xdJ,V1,kn K,C.1,hl.1]
    unfold uB;rw[hn];refine hc.mono ?_;rintro e w' ⟨v,F,rfl,hu,hD⟩;refine⟨v,O,pN (o:=o) (u:=F) m hd (λe he=>m.o1 e<|um e he) (nM<|by rw[wa,j9<|sx m z];exact hu) ?_⟩;rw[moU];show St _ _ (th s.t.rep E E1 F i ix::_) _ _;rw[A,hi];exact hD
   ·cases j
  ·cases h
 ·cases h
def Dc{o n:K}:∀{rg:N (K×K×Dv)},∀e∈Nx o n rg,e∈rg\/∃a∈rg,∃p,a.2.2=.yd p/\e=(a.1,a.2.1,bif E p o then .yd n else .yd p)
 |[],e,he=>wR he IR
 |(t,i,v)::rg,e,he=>by
  have b:∀e∈Nx o n rg,e∈(t,i,v)::rg\/∃a∈(t,i,v)::rg,∃p,a.2.2=.yd p/\e=(a.1,a.2.1,bif E p o then .yd n else .yd p):=λe he=>by
   obtain h|⟨a,h1,p,c,f⟩:=Dc e he
   ·exact .inl<|UV _ h
   ·exact .inr ⟨a,UV _ h1,p,c,f⟩
  cases v with
  |yd p=>
   rcases xaa.1 (show e∈(t,i,bif E p o then Dv.yd n else .yd p)::Nx o n rg from he)with rfl|he
   ·exact .inr ⟨_,FS,p,O,O⟩
   ·exact b e he
  |_=>
   obtain rfl|he:=xaa.1 he
   ·exact .inl<|FS
   ·exact b e he
def zgK(hX:En P cf){o:K}{f:v6}{m:ul v6}{ts:ul wT}{k:Sg->V R}(hd:wA cx d=wF)(hf:xC cx σ f=Z (.yd o))(h:HR cx σ d o m.toList k=Z r):
 lY P cx ⟨d,.call ⟨.value f,m,ts⟩,ty,pos,aft,g⟩ σ k r:=by
 unfold HR at h;split at h
 ·next _ x hC=>
  obtain rfl:m= #[x]:=by cases m;simp_all
  split at h
  ·next p hx=>
   have⟨hi,h⟩:=z8 h;rw[xcV]at hi;split at h
   ·next t E X Y mX mY gg z s a ys D hp=>
    have⟨hE,h1⟩:=z8 h;have hE:=zO hE;subst hE;have⟨hm,G⟩:=yj h1;cases hm;have⟨q,hq,Q⟩:=r8 G
    have n:∀(fr:Fr) (vs:K->wN) (env:y8) (w:wP),gf P fr cx σ vs env w->uB P ⟨d,.call ⟨.value f,#[x],ts⟩,ty,pos,aft,g⟩ env w λv w'=>v=.bool q.2.isLeft/\Bd cx σ/\Oh P (lOf<|yA<|vs o) t.rep a mX mY gg/\
     ∃c,St fr.we fr.Se (xfB (λx=>mX x c) (λy=>mY y c) q.2::mO t.rep a (vs p) q.1::OS vs fr cx (yu (yu σ.ob o) p)) (GS P vs env fr cx σ) w':=by
     intro fr vs env w A;have⟨j,hj⟩:=A;have⟨S0,_,H⟩:=hj.ex;have hn:ev env x=vs p:=zj hx<|zU H x;have ht:ev env f=.func (.yield<|lOf<|yA<|vs o) #[] #[]:=zj hf<|zU H f;have hv:=fG hi D hp hj;have⟨F,h4⟩:=St.unpr<|St.grp.1 hv;rw[<-hX.pp]at F;have h4:St fr.we fr.Se (mX z ((xM<|vs o).headD uP)::mO t.rep a (vs p) ys::OS vs fr cx (yu (yu σ.ob o) p)) (GS P vs env fr cx σ) w:=h4;have⟨fn,tmps,a0,a1,hy,A⟩:=F ys z q.1 q.2 hq (vs p) _ _ _ _ _ w h4;have hk:(jP (ev env) ⟨d,.call ⟨.value f,#[x],ts⟩,ty,pos,aft,g⟩).run P w=.ok (.round (lOf<|yA<|vs o) fn tmps a0 a1) w:=by
      rw[<-hn]at hy;simp[jP,Wr,ht,xdJ,V1,hy]
     unfold uB;rw[hk];exact A.mono λe w' ⟨T,h6⟩=>⟨_,T,O,j,F,h6⟩
    have J:∀(B:Od) (b:wW) (c:wN) (vs:K->wN) (fr:Fr) (env:y8) (w':wP),Bd cx σ->St fr.we fr.Se (Jt (Xu vs σ.nx<|K9 (yA<|vs o) [c]) (σ.nx,B)::mO t.rep a (vs p) q.1::OS vs fr cx (yu (yu σ.ob o) p)) (GS P vs env fr cx σ) w'->
     lS P fr cx σ.nx vs ⟨σ.nx+1,Nx o σ.nx<|vv σ.rg d [(0,.kb b)],(σ.nx,B)::yu (jE σ.ob p (.own t a q.1)) o⟩ (put env d (.bool b)) w':=by
     intro B b c vs fr env w' j C;have hc:p≠o:=λe=>by subst e;simp at hi
     have hw:=sx j D;have hD:xz (yu σ.ob o) p=Z (.own t a ys):=by rw[K3 hc];exact hp
     have hz:St fr.we fr.Se (Jt (Xu vs σ.nx<|K9 (yA<|vs o) [c]) (σ.nx,B)::OS vs fr cx (yu (jE σ.ob p (.own t a q.1)) o)) (GS P vs env fr cx σ) w':=by
      have h7:=jb (vs:=vs) (fr:=fr) (cx:=cx) (ob:=yu (jE σ.ob p (.own t a q.1)) o) (o:=p) (X:=.own t a q.1) (by rw[K3 hc];exact(Vj hp).1);have h8:yu (yu (jE σ.ob p (.own t a q.1)) o) p=yu (yu σ.ob o) p:=by rw[sG<|λe=>hc e.symm,(Vj hp).2,sG<|λe=>hc e]
      rw[h8]at h7;exact C.perm<|h7.symm.cons _
     have⟨L,hA⟩:gf P fr cx ⟨σ.nx+1,vv σ.rg d [(0,.kb b)],(σ.nx,B)::yu (jE σ.ob p (.own t a q.1)) o⟩ (Xu vs σ.nx<|K9 (yA<|vs o) [c]) (put env d (.bool b)) w':=by
      have hl:∀e∈yu (jE σ.ob p (.own t a q.1)) o,e.1<σ.nx:=λe he=>by
       have⟨e1,g1,g2⟩:=QU hp e<|um e he;rw[<-g2];exact j.o1 e1 g1
      refine Lq (σ':=⟨σ.nx+1,vv σ.rg d [(0,.kb b)],(σ.nx,B)::yu (jE σ.ob p (.own t a q.1)) o⟩) (l:=[(0,.kb b)]) (vs:=vs) (Γl:=[]) j hd O (xbN _) (λo D=>j9 D) (λe he p hp=> ?_) (λe he=> ?_) (λS w _ e he=> ?_) ?_
      ·obtain rfl:=xad.1 he;cases hp
      ·obtain rfl|he:=xaa.1 he
       ·exact xbS _
       ·exact xfw<|hl e he
      ·obtain rfl:=xad.1 he;exact O
      ·show St _ _ (Jt (Xu vs σ.nx _) (σ.nx,B)::OS (Xu vs σ.nx _) fr cx (yu (jE σ.ob p (.own t a q.1)) o)) _ _;rw[Ib j hl];exact hz
     refine⟨_,λo D=>j9 D,⟨L.o1,L.o2,λe he r U=> ?_,L.r2⟩,hA.weak λS w h=>zE.append (kX.2 λf hf=> ?_)<|zE.right h⟩
     ·obtain h|⟨M,h1,r',G,rfl⟩:=Dc e he
      ·exact L.r1 e h r U
      ·cases hb:xaj r' o<;>simp only[hb,Z0,Z2]at U
       ·exact L.r1 M h1 r<|by rw[G];exact U
       ·cases U;exact xbS _
     ·obtain⟨e,he,rfl⟩:=xat.1 hf;obtain h'|⟨M,h1,r',G,rfl⟩:=Dc e he
      ·exact KP (zE.left h) h'
      ·have T:=KP (zE.left h) (t:=M.1) (i:=M.2.1) (d:=M.2.2) h1;rw[G]at T;refine QB T λu N=> ?_;cases hb:xaj r' o
       ·exact N
       ·have N:u=.func (.yield<|lOf<|yA<|Xu vs σ.nx (K9 (yA<|vs o) [c]) r') #[] #[]:=N;rw[zO hb,j9 hw]at N;show u=.func (.yield<|lOf<|yA<|Xu vs σ.nx (K9 (yA<|vs o) [c]) σ.nx) #[] #[];rw[wa];exact N
    cases hg:q.2 with
    |inl z'=>
     rw[hg]at Q;refine⟨_,Q,xbN _,λfr vs env w A=>(n fr vs env w A).mono ?_⟩;rintro v w' ⟨rfl,j,F,c,C⟩;rw[hg]at C⊢;refine J _ wF c vs fr env w' j ?_;rw[moU];refine St.grp.2 ?_;rw[<-hX.pp];exact St.pr F C
    |inr y'=>
     rw[hg]at Q;refine⟨_,Q,xbN _,λfr vs env w A=>(n fr vs env w A).mono ?_⟩;rintro v w' ⟨rfl,j,F,c,C⟩;rw[hg]at C⊢;refine J _ I c vs fr env w' j ?_;rw[moU];exact C
   ·cases h
  ·cases h
 ·cases h
end
end
section
section
variable{P:jp}{cf:Cf}{fr:Fr}{cx σ:Sg}{vs vs':wr->wN}{env:y8}{w:wP}{R:Type}{r:R}
 {d:ww Z9}{ty t yt:wT}{pos:String}{aft:ul Edge}{g:ww (wr×wW)}{x y:v6}
def MR{o:K}{s:Ty}{E:wT}{xs:N s.D}{S:K->Prop}(a:(fV (eS s.rep) xs<|vs o).p S w):∀{rg:N (K×K×Dv)},zE S (RS P vs env rg) w->zE S (RS P vs env<|ER o (.own s E xs) rg) w
 |[],_=>trivial
 |(t,i,v)::rg,h=>by
  refine⟨?_,MR a h.2⟩;have h1:(wg P vs v (env t) i).p S w:=h.1;show(wg P vs (sW o (.own s E xs) v) (env t) i).p S w;cases v<;>try exact h1
  rename_i b;unfold sW;cases c:xaj b o<;>simp only[c,Z2,Z0]
  ·exact h1
  ·have:=zO c;subst this;refine QB h1 λu e=> ?_;rw[show u=vs b from e];exact a
def Og{o:K}{s:Ty}{E:wT}{z:s.D}{S:K->Prop}(a:(fP s.rep z<|vs o).p S w):∀{rg:N (K×K×Dv)},zE S (RS P vs env rg) w->zE S (RS P vs env<|ER o (.var s E z) rg) w
 |[],_=>trivial
 |(t,i,v)::rg,h=>by
  refine⟨?_,Og a h.2⟩;have h1:(wg P vs v (env t) i).p S w:=h.1;show(wg P vs (sW o (.var s E z) v) (env t) i).p S w;cases v<;>try exact h1
  rename_i b f;unfold sW;cases c:xaj b o<;>simp only[c,Z2,Z0]
  ·exact h1
  ·have:=zO c;subst this;refine QB h1 λu e=> ?_;rw[show u=vs b from e.1];exact a
def NU{o:K}{s:Ty}{E E1:wT}{xss:N (N s.D)}{ix:N K}{S:K->Prop}(a:(fV (eS<|eS s.rep) (zb8 xss ix)<|yA<|vs o).p S w):∀{rg:N (K×K×Dv)},zE S (RS P vs env rg) w->zE S (RS P vs env<|ER o (.mat s E E1 xss ix) rg) w
 |[],_=>trivial
 |(t,i,v)::rg,h=>by
  refine⟨?_,NU a h.2⟩;have h1:(wg P vs v (env t) i).p S w:=h.1;show(wg P vs (sW o (.mat s E E1 xss ix) v) (env t) i).p S w;cases v<;>try exact h1
  rename_i b;unfold sW;cases c:xaj b o<;>simp only[c,Z2,Z0]
  ·exact h1
  ·have:=zO c;subst this;refine QB h1 λu e=> ?_;rw[show u=yA (vs b)from e];exact a
def zbL{o:K}{t s:Ty}{E E1 n i:K}{z:t.D}{xs:N s.D}{S:K->Prop}(a:(fP t.rep (uh s (xh n t i) xs z)<|yA<|vs o).p S w):∀{rg:N (K×K×Dv)},zE S (RS P vs env rg) w->zE S (RS P vs env<|ER o (.vr t E s E1 n i z xs) rg) w
 |[],_=>trivial
 |(u,j,v)::rg,h=>by
  refine⟨?_,zbL a h.2⟩;have h1:(wg P vs v (env u) j).p S w:=h.1;show(wg P vs (sW o (.vr t E s E1 n i z xs) v) (env u) j).p S w;cases v<;>try exact h1
  rename_i b;unfold sW;cases c:xaj b o<;>simp only[c,Z2,Z0]
  ·exact h1
  ·have:=zO c;subst this;refine QB h1 λu e=> ?_;rw[show u=yA (vs b)from e];exact a
def Uo{o:K}{X:Od}(a:∀v,sW o X v=v):∀{rg:N (K×K×Dv)},ER o X rg=rg
 |[]=>rfl
 |(t,i,v)::rg=>by
  show(t,i,sW o X v)::ER o X rg=_;rw[a,Uo a]
def zfe{o p:K}{X:Od}{v:Dv}(h:va (sW o X v)=Z p):va v=Z p:=by
 unfold sW at h;split at h
 ·next a s E xs=>
  cases b:xaj a o<;>rw[b]at h
  ·exact h
  ·cases h
 ·next a c s E z=>
  cases b:xaj a o<;>rw[b]at h
  ·exact h
  ·cases h
 ·next a s E E1 xss ix=>
  cases b:xaj a o<;>rw[b]at h
  ·exact h
  ·cases h
 ·next a t E s E1 n i z xs=>
  cases b:xaj a o<;>rw[b]at h
  ·exact h
  ·cases h
 ·exact h
def Nt{o:K}{X:Od}:∀{rg:N (K×K×Dv)},∀e∈ER o X rg,∀p,va e.2.2=Z p->∃a∈rg,va a.2.2=Z p
 |[],e,he=>wR he IR
 |(t,i,v)::rg,e,he=>by
  intro p hp;obtain rfl|he:=xaa.1 he
  ·refine⟨(t,i,v),FS,?_⟩;exact zfe hp
  ·have⟨a,h1,b⟩:=Nt e he p hp;exact⟨a,UV _ h1,b⟩
theorem FT{o:K}(h:gf P fr cx σ vs env w):gf P fr cx (P4 σ o) vs env w:=by
 unfold P4;split
 ·next X ho=>
  have⟨m,hc⟩:=h;have⟨i,hi,_,hd⟩:=w8 ho;have G:Bd cx ⟨σ.nx,ER o X σ.rg,yu σ.ob o⟩:=⟨λe A=>m.o1 e<|um e A,m.o2,λe A p hp=>by have⟨H,h1,f⟩:=Nt e A p hp;exact m.r1 H h1 p f,m.r2⟩;refine⟨G,?_⟩
  cases X with
  |own s E xs=>
   have q:(OS vs fr cx σ.ob)[i]? =Z (mO s.rep E (vs o) xs):=QS hi;have:=MC i hc q;rw[bS hi,<-hd]at this;exact this.weak λS w a=>zE.append (MR a.1<|zE.left a.2)<|zE.right a.2
  |var s E z=>
   have q:(OS vs fr cx σ.ob)[i]? =Z (mP s.rep.c E (vs o) z):=QS hi;have⟨b,hv,u⟩:=hc.openP i q;have:=zm3 (e:=s.rep) i u<|vc q;rw[rn,bS hi,<-hd,<-hv]at this;exact this.weak λS w a=>zE.append (Og a.1<|zE.left a.2)<|zE.right a.2
  |mat s E E1 xss ix=>
   have h1:=jq ho hc;have f:St fr.we fr.Se (zdS s.rep E E1 (yA<|vs o) (xM<|vs o) xss ix::OS vs fr cx (yu σ.ob o)) (GS P vs env fr cx σ) w:=St.grp.2 (bW h1).2;exact(f.mat_frz (bW h1).1).weak λS w a=>zE.append (NU a.1<|zE.left a.2)<|zE.right a.2
  |vr t E s E1 n i z xs=>
   have h1:=jq ho hc;have f:=h1.freeze (i:=0) (F:=fP t.rep (uh s (xh n t i) xs z)<|yA<|vs o) O λS U u B hp=>by
    have⟨⟨⟨hl,J⟩,⟨b,hv,cs,g1,j⟩,hn,_⟩,_⟩:=hp;have j:(aX t.rep (YS<|xh n t i) (uh s (xh n t i) [])<|xM<|vs o).p S (z,0) cs.toList w:=j;refine⟨b,0,cs.toList,hv,B b ⟨_,UV _<|FS,by show zhe (yA<|vs o)=Z b;rw[hv];rfl⟩,At.row g1,?_⟩;have⟨off,L,st,C⟩:=J;rw[C]at j⊢;rw[show uh s (Z ⟨off,.l s,L,st⟩) ([]:N s.D)=st ([]:N s.D)from qR λz=>pC]at j;rw[pC];exact zmC C j (by rw[CL hl];rfl) u<|o5 u (λk M=>B k ⟨_,UV _<|UV _<|FS,M⟩) hn
   exact f.weak λS w a=>zE.append (zbL a.1<|zE.left a.2)<|zE.right a.2
  |vh t E s E1 n i z=>
   rw[Uo<|λv=>by cases v<;>rfl];exact St.drop (i:=0)<|jq ho hc
  |bo s E Q xs=>
   rw[Uo<|λv=>by cases v<;>rfl];exact St.drop (i:=0)<|jq ho hc
  |ho Q=>
   rw[Uo<|λv=>by cases v<;>rfl];exact St.drop (i:=0)<|jq ho hc
  |hid t E X Y V T g x=>
   rw[Uo<|λv=>by cases v<;>rfl];exact St.drop (i:=0)<|jq ho hc
  |hiy Y T y=>
   rw[Uo<|λv=>by cases v<;>rfl];exact St.drop (i:=0)<|jq ho hc
 ·exact h
theorem zgH(x:v6)(h:gf P fr cx σ vs env w):gf P fr cx (frz cx σ x) vs env w:=by grind [frz,FT]
def IW(x:v6)(h:Yn P fr cx σ env w):Yn P fr cx (frz cx σ x) env w:=by
 have⟨a,vs,b⟩:=h;have⟨h1,c⟩:=zgH x ⟨a,b⟩;exact⟨h1,vs,c⟩
def CY:∀(l:N v6) {σ:Sg},Yn P fr cx σ env w->Yn P fr cx (zid cx σ l) env w
 |[],_,h=>h
 |x::r,_,h=>CY r<|IW x h
def SQ{f:Z5}:∀{cs:N WZ}{s:WZ},zdh f cs=Z s->s∈cs/\s.f=f/\s.bk=1
 |c::cs,s,h=>by
  unfold zdh at h;split at h
  ·next h1 j k i=>
   cases e:E c.f f<;>rw[e]at h
   ·have⟨a,b⟩:=SQ h;exact⟨UV _ a,b⟩
   ·cases h;exact⟨FS,zO e,i⟩
  ·have⟨a,b⟩:=SQ h;exact⟨UV _ a,b⟩
def zpI(B:∀s∈cf.cs,xt P s){f:v6}{f':Z5}{o:K}{C:Ty}{s:WZ}{a:ul v6}{ts:ul wT}{k:Sg->V R}(hd:wA cx d=wF)(D:xC cx σ f=Z (.bm f' o C))(ht:a.toList=[])
 (F:zdh f' cf.cs=Z s) (h:mBm σ d s o k=Z r):lY P cx ⟨d,.call ⟨.value f,a,ts⟩,ty,pos,aft,g⟩ σ k r:=by
 have⟨h1,j,G⟩:=SQ F;have hc:=B s h1;unfold mBm at h;split at h
 ·next f0 t E t2 q M bk H E' y m=>
  have⟨u,J⟩:=z8 h;have⟨hn,L⟩:=yj J;subst hn;have⟨z,N,Q⟩:=r8 L;rw[xab,xab]at u;obtain rfl:=zO u.1;obtain rfl:bk=1:=G;obtain rfl:a= #[]:=by cases a;simp_all
  refine⟨_,Q,Nm _,λfr vs env w T=> ?_⟩;have⟨v,hi⟩:=T;have⟨S0,_,n⟩:=hi.ex;have⟨hv,b,U⟩:=zj D<|zU n f;have A:=hc.2 (y,()) z N [vs o] O;have Y:(jP (ev env) ⟨d,.call ⟨.value f,#[],ts⟩,ty,pos,aft,g⟩).run P w=.ok (.enter f' #[vs o]) w:=by simp[jP,Wr,hv,xdJ,V1,kn<|j▸hc.1]
  have hl:St fr.we fr.Se (mP H.rep.c E (vs o) y::OS vs fr cx (yu σ.ob o)) (fY (∃b,vs o=.pointer (Z ⟨b,0,wL⟩))::GS P vs env fr cx σ) w:=(jq m hi).weak λS w p=>⟨⟨b,U⟩,p⟩;unfold uB;rw[Y];rw[show f0=f' from j]at A;refine(A fr.we fr.Se _ _ w hl).mono ?_;rintro e w' ⟨us,i,⟨hu,hp⟩,hq⟩;obtain rfl:us=[vs o]:=hp;refine⟨_,i,?_⟩;refine Jn (σ':=⟨σ.nx,vv σ.rg d [],jE σ.ob o (.var t2 q z)⟩) (d:=d) (l:=[]) (vs:=vs) (vs':=vs) (Γl:=[]) v hd O (Nm _) (λ_ _=>O) (λ_ i=>wR i IR) (λe i=> ?_) (λS w _ e i=>wR i IR) ?_
  ·have⟨e',h1,j⟩:=QU m e i;rw[<-j];exact v.o1 e' h1
  ·refine Bp m ?_;have hr:St fr.we fr.Se (mP t2.rep.c q (vs o) z::OS vs fr cx (yu σ.ob o)) (fY (∃b,vs o=.pointer (Z ⟨b,0,wL⟩))::GS P vs env fr cx σ) w':=hq;exact hr.weak λS w p=>p.2
 ·cases h
def zkY(a:yZ P cf.tt)(b:ug P cf.tt)(c:∀s∈cf.cs,xt P s)(e:En P cf){l:Op}{k:Sg->V R}(hd:wA cx d=wF)(h:zlz cf cx σ d l k=Z r):
 lY P cx ⟨d,l,ty,pos,aft,g⟩ σ k r:=by
 unfold zlz at h;split at h
 ·exact zic a hd h
 ·next E x=>
  cases m:zlp cf d<;>rw[m]at h
  ·exact m_E a b c e hd h
  ·exact zoN hd h
 ·next t x y=>
  have⟨hn,h⟩:=z8 h;have hn:d=wL:=by simpa using hn
  subst hn;split at h
  ·next u hc=>exact ziZ a hc h
  ·cases h
 ·exact zkW a hd h
 ·exact znC a b hd h
 ·next t x hi=>
  split at h
  ·next o n=>exact zis a b hd n h
  ·exact m_E a b c e hd h
 ·exact zn6 a hd h
 ·exact zkU a b hd h
 ·next f p ts=>
  split at h
  ·next f' cs i=>
   split at h
   ·next s j=>exact zkR c hd i j h
   ·exact m_E a b c e hd h
  ·next f' o t i=>
   split at h
   ·next s q j=>exact zpI c hd i q j h
   ·cases h
  ·exact m_E a b c e hd h
 ·exact m_E a b c e hd h
def zkp(b:yZ P cf.tt)(l:ug P cf.tt)(m:∀s∈cf.cs,xt P s)(e:En P cf){i:Op}{k:Sg->V R}(hd:wA cx d=wF)(h:mOp cf cx σ d i k=Z r):
 lY P cx ⟨d,i,ty,pos,aft,g⟩ σ k r:=by
 unfold mOp at h
 cases hc:coM cf cx σ d i with
 |no=>rw[hc]at h;exact zkY b l m e hd h
 |_=>
  rw[hc]at h;simp only[mCo]at h;unfold coM at hc;split at hc
  ·next t x y=>
   cases a:R8 (xC cx σ x)<;>rw[a]at hc<;>cases hc
   all_goals
    have⟨hn,h⟩:=z8 h
    have hn:d=wL:=by simpa using hn
    subst hn
    split at h
    ·next A p=>exact zf9 b p h
    ·cases h
  ·next t x y=>
   cases a:Tj cf d<;>rw[a]at hc<;>cases hc;all_goals exact zhW b hd h
  ·next t n ps=>
   cases a:Tj cf d<;>rw[a]at hc<;>cases hc;all_goals exact zll b l hd h
  ·next E=>
   cases a:Tj cf d||(SE cf d).isSome<;>rw[a]at hc<;>cases hc
   all_goals exact zf7 b hd h
  ·next t ps=>
   cases a:(SE cf d).isSome<;>rw[a]at hc<;>cases hc;all_goals exact zer b hd h
  ·next t x=>
   split at hc
   ·next o q=>cases hc<;>exact zjF b hd q h
   ·split at hc
    ·next o u=>cases hc<;>exact zik b hd u h
    ·cases hc
  ·next c ts=>
   cases a:c.toList.any (λx=>zgX<|xC cx σ x)<;>rw[a]at hc<;>cases hc;all_goals exact zmH b hd h
  ·next f c ts=>
   split at hc
   ·next o j=>cases hc<;>exact zgK e hd j h
   ·next f' j=>
    split at hc
    ·next s v=>
     have⟨h1,z⟩:=zdZ v;subst z;cases hc<;>exact zb6 e hd j h1 h
    ·cases hc
   ·cases hc
  ·cases hc
theorem zha{t:Z9}:put env (Z t) (env t)=env:=by grind [Df,lO]
def oZ{t:Z9}{b:wW}(hn:Xx cx.rg t=wF)(hv:env t=.bool b)(h:Yn P fr cx σ env w):Yn P fr cx (Ia σ t b) env w:=by
 have⟨c,vs,f⟩:=h
 have:=lS.rel<|Jn (P:=P) (fr:=fr) (cx:=cx) (σ:=σ) (vs:=vs) (vs':=vs) (env:=env) (w:=w) (d:=Z t) (v:=env t) (σ':=Ia σ t b) (l:=[(0,.kb b)]) (Γl:=[]) c hn O (Nm _) (λ_ _=>O)
  (λe a o i=>by obtain rfl:=xad.1 a;cases i) c.o1 (λS w _ e a=>by obtain rfl:=xad.1 a;exact hv) f
 rwa[zha]at this
def ou{t:Z9}{x:wW}{S:K->Prop}(h:get cx σ t 0=Z (.d .b x))(hl:Lk P vs env S w cx σ t):env t=.bool x:=nY<|hl 0 _ h
def Oa{b:wW}{a c:V R}(h:ifB b a c=Z r):(b=wF/\a=Z r)\/(b=I/\c=Z r):=by
 cases b
 ·exact .inr ⟨O,h⟩
 ·exact .inl ⟨O,h⟩
def ziD{c:N uS}{o:uS}{k:Sg->wW->V R}(h:lU cx c o σ k=Z r)(p:Yn P fr cx σ env w):∃σ' b,k σ' b=Z r/\Yn P fr cx σ' env w/\yW c.toArray env o=b:=by
 have f:=p;have⟨u,vs,hd⟩:=p;have⟨S,_,e⟩:=hd.ex;unfold lU at h;split at h
 ·next n=>exact⟨σ,wF,h,f,by unfold yW;rw[n]⟩
 ·next j a n=>
  split at h
  ·next z q=>
   split at h
   ·next t s=>
    have hc:∀{v},env t=v->gd c.toArray env j=(match v with|.bool b=>Z b|_=>wL):=by
     rintro v rfl;unfold gd;simp only[List.getElem?_toArray,q,Option.bind_some,s];rfl
    have m:yW c.toArray env o=(gd c.toArray env j==Z a):=by unfold yW;rw[n]
    split at h
    ·next b i=>
     have hv:env t=.bool b:=Xz e t 0 _ i;refine⟨σ,_,h,f,?_⟩;rw[m,hc hv];cases b<;>cases a<;>rfl
    ·next i=>
     have hv:env t=uP:=Xz e t 0 _ i;refine⟨σ,_,h,f,?_⟩;rw[m,hc hv];rfl
    ·next x i=>
     have⟨hn,h⟩:=z8 h;have hv:env t=.bool x:=ou i<|Xz e t;rcases Oa h with⟨l,h⟩|⟨l,h⟩
     ·exact⟨_,_,h,oZ hn (hv.trans<|kW xey l) f,by rw[m,hc<|hv.trans<|kW xey l];cases a<;>rfl⟩
     ·exact⟨_,_,h,oZ hn (hv.trans<|kW xey l) f,by rw[m,hc<|hv.trans<|kW xey l];cases a<;>rfl⟩
    ·cases h
   ·cases h
  ·cases h
def zlZ{o:uS}{k:Sg->V R}(h:Ec cx o σ k=Z r)(e:Yn P fr cx σ env w):∃σ',k σ'=Z r/\Yn P fr cx σ' env w:=by
 have a:=e;have⟨i,vs,hc⟩:=e;have⟨S,_,b⟩:=hc.ex;unfold Ec at h;split at h
 ·next t _ _ _=>
  split at h
  ·next x f=>
   have⟨hn,h⟩:=z8 h;have hv:env t=.bool x:=ou f<|Xz b t;rcases Oa h with⟨c,h⟩|⟨c,h⟩
   ·exact⟨_,h,oZ hn (hv.trans<|kW xey c) a⟩
   ·exact⟨_,h,oZ hn (hv.trans<|kW xey c) a⟩
  ·exact⟨σ,h,a⟩
 ·exact⟨σ,h,a⟩
def zk0{N:Nd}{b:ul uS}{o:uS}{rest:xS uS}{Q:Qs}(c:yW b env o=wF)(hd:q8 N.n o.dst=wF)(h:uB P o env w (λv w'=>WpL P N b rest Q (put env o.dst v) w')):WpL P N b (o::rest) Q env w:=by
 intro a h1 e f;subst f;unfold Ww;rw[iq<|by rw[QH];exact c];refine h.wp λv w' i=> ?_;exact i _ (by rw[K5];exact h1) (by rw[XT];exact e)<|XF<|by rw[h1];exact Ui hd
def zjz{N:Nd}{b:ul uS}{o:uS}{rest:xS uS}{Q:Qs}(c:yW b env o=I)(hd:q8 N.n o.dst=wF)(h:WpL P N b rest Q (put env o.dst uP) w):WpL P N b (o::rest) Q env w:=by
 intro a h1 e f;subst f;unfold Ww;rw[ir<|by rw[QH,c];exact Bool.false_ne_true];exact⟨λ_ _=>wS,h _ (by rw[K5];exact h1) (by rw[XT];exact e)<|XF<|by rw[h1];exact Ui hd⟩
def zlE(hd:wA cx d=wF)(h:Yn P fr cx σ env w):Yn P fr cx (σ.put d [(0,.un)]) (put env d uP) w:=by
 have⟨b,vs,c⟩:=h;exact(Jn (σ':=σ.put d [(0,.un)]) (l:=[(0,.un)]) (v:=uP) (vs:=vs) (vs':=vs) (Γl:=[]) b hd O (Nm _) (λ_ _=>O) (λe a o f=>by obtain rfl:=xad.1 a;cases f) b.o1 (λS w _ e a=>by obtain rfl:=xad.1 a;exact O) c).rel
def nU(cx:Sg)(a b:y8):Prop:=∀e∈cx.rg,b e.1=a e.1
def nU.refl{a:y8}:nU cx a a:=λ_ _=>O
def nU.trans{a b c:y8}(h:nU cx a b)(k:nU cx b c):nU cx a c:=λe f=>(k e f).trans<|h e f
def nU.put{a b:y8}{v:wN}(hd:wA cx d=wF)(h:nU cx a b):nU cx a (put b d v):=λe c=>by
 rw[lO λf=> ?_]
 ·exact h e c
 ·subst f;simp only[wA,Xx,xaN]at hd;have:=hd e c;simp at this
def C0(j:yZ P cf.tt)(m:ug P cf.tt)(p:∀s∈cf.cs,xt P s)(q:En P cf){N:Nd}{e:xS uS}{Q:Qs}{k:Sg->V R}{env0:y8}
 (u:∀σ',k σ'=Z r->∀env w,nU cx env0 env->Yn P fr cx σ' env w->Q .normal env w):∀{l:xS uS}{σ:Sg}{env:y8}{w:wP},nU cx env0 env->(l.all λo=>q8 N.n o.dst)=wF->R0 cf cx e l σ k=Z r->Yn P fr cx σ env w->WpL P N e.toArray l Q env w
 |[],σ,env,w,i,_,h,c=>λa h1 B C=>wpListIn_nil ⟨h1,B,C▸u σ h env w i c⟩
 |o::l,σ,env,w,i,f,h,c=>by
  simp only[List.all_cons,xab]at f;unfold R0 at h;have⟨hd,h⟩:=z8 h;have⟨D,b,h,c,A⟩:=ziD h c;cases b
  ·exact zjz A f.1<|C0 j m p q u (i.put hd) f.2 h<|zlE hd c
  ·have⟨z,h,c⟩:=zlZ h c;have c:=CY (zl1 cf cx z o.dst o.op) c;have⟨σ',E,_,F⟩:=zkp (P:=P) (d:=o.dst) (ty:=o.type) (pos:=o.pos) (aft:=o.after) (g:=o.guard) j m p q hd h;have⟨G,vs,H⟩:=c;exact zk0 A f.1<|(F fr vs env w ⟨G,H⟩).mono λv w' hc=>C0 j m p q u (i.put hd) f.2 E hc.rel
end
end
section
section
variable{P:jp}{cf:Cf}{fr:Fr}{cx σ σ0:Sg}{vs vs':wr->wN}{env env0:y8}{w:wP}{R:Type}{r:R}
 {d:ww Z9}{ty t yt:wT}{pos:String}{aft:ul Edge}{g:ww (wr×wW)}{x y:v6}
theorem Nn:∀{a b:N (K×K×Dv)}{t i:K},(∀e∈a,e.1≠t)->gN (a++b) t i=gN b t i
 |[],_,_,_,_=>rfl
 |(c,f,d)::a,b,t,i,h=>by
  show(bif E c t && E f i then Z d else gN (a++b) t i)=_;rw[Yb<|h (c,f,d)<|FS];simp only[Bool.false_and,Z2];exact Nn λe j=>h e<|UV _ j
theorem zfU{rg:N (K×K×Dv)}{t a i:K}(h:a≠t):gN (zhY rg t) a i=gN rg a i:=by
 induction rg with
 |nil=>rfl
 |cons e rg b=>
  have⟨s,j,d⟩:=e;unfold zhY at b⊢;rw[xfK];cases c:E s t
  ·simp only[c,xeQ,uL];unfold gN;rw[b]
  ·simp only[c,xcW,xak,ut];rw[b];have:=zO c;subst this;conv=>rhs;unfold gN
   rw[Yb<|λe=>h e.symm];rfl
theorem TC{rg:N (K×K×Dv)}{t a i:K}{l:N (K×Dv)}(h:a≠t):gN (vv rg (Z t) l) a i=gN rg a i:=by grind [vv,Nn,zfU]
def ziF{t a i:K}{l:N (K×Dv)}{n:K}{ob:N (K×Od)}{dv:Dv}(hn:Xx cx.rg t=wF)(h:get cx ⟨n,vv σ.rg (Z t) l,ob⟩ a i=Z dv):(a=t/\(i,dv)∈l)\/(a≠t/\get cx σ a i=Z dv):=by
 by_cases b:a=t
 ·subst b;left;refine⟨O,?_⟩;obtain hm|hm:=HF h
  ·have hm:(a,i,dv)∈l.map (λe=>(a,e.1,e.2))++zhY σ.rg a:=hm;obtain hm|hm:=So.1 hm
   ·have⟨e,c,f⟩:=xat.1 hm;cases f;exact c
   ·have:=(xcj.1 hm).2;simp at this
  ·simp only[Xx,xaN]at hn;have:=hn _ hm;simp at this
 ·right;refine⟨b,?_⟩;unfold get at h⊢;rw[show gN (vv σ.rg (Z t) l) a i=gN σ.rg a i from TC b]at h;exact h
def zea{t:K}{l:N (K×Dv)}{n:K}{ob:N (K×Od)}{S:K->Prop}(hn:Xx cx.rg t=wF){a:K}(h1:a=t->∀e∈l,(wg P vs e.2 (env t) e.1).p S w)(b:a≠t->Lk P vs env S w cx σ a):Lk P vs env S w cx ⟨n,vv σ.rg (Z t) l,ob⟩ a:=by
 intro i dv hd;rcases ziF hn hd with⟨rfl,c⟩|⟨f,h⟩
 ·exact h1 O _ c
 ·exact b f i dv h
def rZ{l:N (K×Dv)}(a:Bd cx σ)(hl:∀e∈l,∀o,va e.2=Z o->o<σ.nx):Bd cx (σ.put d l):=by
 refine⟨a.o1,a.o2,λe he o b=> ?_,a.r2⟩;have he:e∈vv σ.rg d l:=he;unfold vv at he
 cases d with
 |none=>exact a.r1 e he o b
 |some t=>
  obtain he|he:=So.1 he
  ·obtain⟨c,f,rfl⟩:=xat.1 he;exact hl c f o b
  ·exact a.r1 e (xcj.1 he).1 o b
def Bg{t a:K}{x b:wW}{S:K->Prop}(hn:Xx cx.rg t=wF)(c:get cx σ t 0=Z (.d .b x))(f:x=b)(h:Lk P vs env S w cx σ a):Lk P vs env S w cx (Ia σ t b) a:=by
 refine zea hn (λe j i=> ?_)<|λ_=>h;subst e;obtain rfl:=xad.1 i;exact(ou c h).trans<|kW xey f
def O2{a:N uS}{o:uS}{k:Sg->wW->V R}(h:lU cx a o σ k=Z r)(l:Bd cx σ):∃σ' b,k σ' b=Z r/\σ'.ob=σ.ob/\σ'.nx=σ.nx/\Bd cx σ'/\
 (∀(P:jp) vs env S w t,Lk P vs env S w cx σ t->Lk P vs env S w cx σ' t)/\(∀(P:jp) vs env S w,(∀t∈xbA a.toArray o,Lk P vs env S w cx σ t)->yW a.toArray env o=b):=by
 unfold lU at h;split at h
 ·next m=>exact⟨σ,wF,h,O,O,l,λ_ _ _ _ _ _ h=>h,λP vs env S w _=>by unfold yW;rw[m]⟩
 ·next j c m=>
  split at h
  ·next B hd=>
   split at h
   ·next t q=>
    have n:t∈xbA a.toArray o:=by
     unfold xbA;rw[m];simp[hd,q]
    have hc:∀{env:y8}{v},env t=v->gd a.toArray env j=(match v with|.bool b=>Z b|_=>wL):=by
     rintro env v rfl;unfold gd;simp only[List.getElem?_toArray,hd,Option.bind_some,q];rfl
    have p:∀env,yW a.toArray env o=(gd a.toArray env j==Z c):=λenv=>by unfold yW;rw[m]
    split at h
    ·next b f=>
     refine⟨σ,_,h,O,O,l,λ_ _ _ _ _ _ h=>h,λP vs env S w hl=> ?_⟩;have hv:env t=.bool b:=hl t n 0 _ f;rw[p,hc hv];cases b<;>cases c<;>rfl
    ·next f=>
     refine⟨σ,_,h,O,O,l,λ_ _ _ _ _ _ h=>h,λP vs env S w hl=> ?_⟩;have hv:env t=uP:=hl t n 0 _ f;rw[p,hc hv];rfl
    ·next x f=>
     have⟨hn,h⟩:=z8 h;have s:∀b,Bd cx (Ia σ t b):=λb=>rZ (d:=Z t) l λe u o z=>by obtain rfl:=xad.1 u;cases z
     rcases Oa h with⟨i,h⟩|⟨i,h⟩
     ·refine⟨_,_,h,O,O,s _,λP vs env S w A hl=>Bg hn f i hl,λP vs env S w hl=> ?_⟩;have hv:=(ou f<|hl t n).trans<|kW xey i;rw[p,hc hv];cases c<;>rfl
     ·refine⟨_,_,h,O,O,s _,λP vs env S w A hl=>Bg hn f i hl,λP vs env S w hl=> ?_⟩;have hv:=(ou f<|hl t n).trans<|kW xey i;rw[p,hc hv];cases c<;>rfl
    ·cases h
   ·cases h
  ·cases h
def zbT{o:uS}{k:Sg->V R}(h:Ec cx o σ k=Z r)(a:Bd cx σ):∃σ',k σ'=Z r/\σ'.ob=σ.ob/\σ'.nx=σ.nx/\Bd cx σ'/\(∀(P:jp) vs env S w t,Lk P vs env S w cx σ t->Lk P vs env S w cx σ' t):=by
 unfold Ec at h;split at h
 ·next t _ _ _=>
  split at h
  ·next x f=>
   have⟨hn,h⟩:=z8 h;have i:∀b,Bd cx (Ia σ t b):=λb=>rZ (d:=Z t) a λe j o l=>by obtain rfl:=xad.1 j;cases l
   rcases Oa h with⟨c,h⟩|⟨c,h⟩
   ·exact⟨_,h,O,O,i _,λP vs env S w m hl=>Bg hn f c hl⟩
   ·exact⟨_,h,O,O,i _,λP vs env S w m hl=>Bg hn f c hl⟩
  ·exact⟨σ,h,O,O,a,λ_ _ _ _ _ _ h=>h⟩
 ·exact⟨σ,h,O,O,a,λ_ _ _ _ _ _ h=>h⟩
def prL(P:jp)(vs:K->wN)(l:N (K×Dv)):Pr where
 p S v w:=∀e∈l,(wg P vs e.2 v e.1).p S w
 keepS h k:=λe a=>(wg P vs e.2 _ e.1).keep (h e a) k
 sub h k:=λe a=>(wg P vs e.2 _ e.1).sub (h e a) k
def SL(P:jp)(vs:wr->wN)(Γ:N FF)(env0:y8)(cx σ:Sg)(K:N (Z9×Pr)):Prop:=∀(env:y8) (S:wr->Prop) (w:wP),zE S Γ w->∀t,Yx K env0 env S w t->Lk P vs env S w cx σ t
def zjl(cx:Sg)(K:N (Z9×Pr)):Prop:=∀e∈K,Xx cx.rg e.1=wF
def XA{K:N (Z9×Pr)}{S:wr->Prop}:∀{ts:N Z9},VR K env0 env S w ts->∀t∈ts,Yx K env0 env S w t
 |[],_,_,h=>wR h IR
 |_::_,h,t,ht=>by
  obtain rfl|ht:=xaa.1 ht
  ·exact h.1
  ·exact XA h.2 t ht
def CR{Γ:N FF}{K:N (Z9×Pr)}{f:Pr}{l:N (wr×Dv)}{o:uS}(hd:wA cx o.dst=wF)(h:SL P vs Γ env0 cx σ K)(c:∀S v w,f.p S v w->∀e∈l,(wg P vs e.2 v e.1).p S w):SL P vs Γ env0 cx (σ.put o.dst l) (fT o.dst f K):=by
 intro env S w b t a
 cases i:o.dst with
 |none=>
  rw[i]at a;exact h env S w b t a
 |some s=>
  rw[i]at a hd;refine zea hd (λe=> ?_)<|λhc=> ?_
  ·subst e;refine c S _ w ?_;unfold Yx fT at a;simpa using a
  ·refine h env S w b t ?_;unfold Yx fT at a;rw[List.find?_cons,Yb<|λe=>hc e.symm]at a;exact a
def Nr{K:N (Z9×Pr)}{a:Pr}{d:V Z9}(hd:wA cx d=wF)(h:zjl cx K):zjl cx (fT d a K):=by
 cases d with
 |none=>exact h
 |some s=>
  intro e he;obtain rfl|he:=xaa.1 he
  ·exact hd
  ·exact h e he
def zad(q:yZ P cf.tt)(u:ug P cf.tt)(z:∀s∈cf.cs,xt P s)(A:En P cf){f:N uS}{k:Sg->V R}{Γ:N FF}:∀{os:N uS}{σ:Sg}{K:N (Z9×Pr)},zfn cf cx f os σ k=Z r->
 SL P vs Γ env0 cx σ K->zjl cx K->σ.ob=σ0.ob->Bd cx σ->∃(c:N Pr) (σ':Sg),X c=X os/\Obs P f.toArray (OS vs fr cx σ0.ob) Γ env0 (os.zip c) K/\k σ'=Z r/\SL P vs Γ env0 cx σ' (OQ (os.zip c) K)/\zjl cx (OQ (os.zip c) K)/\σ'.ob=σ0.ob/\Bd cx σ'
 |[],σ,K,h,hi,hn,n,B=>⟨[],σ,O,wS,h,hi,hn,n,B⟩
 |o::os,σ,K,h,hi,hn,n,B=>by
  unfold zfn at h;have⟨hd,h⟩:=z8 h;have⟨C,b,h,T,hz,U,Y,hr⟩:=O2 h B;have hw:∀{env:y8}{S:wr->Prop}{w:wP},zE S Γ w->VR K env0 env S w (o.looksAt f.toArray)->yW f.toArray env o=b:=λ{env S w} a m=>hr P vs env S w λt i=>hi env S w a t<|XA m t i;cases b
  ·have D:SL P vs Γ env0 cx (C.put o.dst [(0,.un)]) (fT o.dst (prV uP) K):=CR hd (λenv S w a t i=>Y P vs env S w t<|hi env S w a t i) λS v w hv e E=>by obtain rfl:=xad.1 E;exact hv
   have⟨c,σ',h1,G,H,J,L,M,Q⟩:=zad q u z A (os:=os) h D (Nr hd hn) (T.trans n) (rZ U λe E p hp=>by obtain rfl:=xad.1 E;cases hp);refine⟨prV uP::c,σ',by simp[h1],⟨λS w env hS hM a m=>⟨λhc=> ?_,λ_=>O⟩,G⟩,H,J,L,M,Q⟩;rw[hw a m]at hc;cases hc
  ·have⟨j,h,hu,hA,hx,hk⟩:=zbT h U;have⟨l,h,hy⟩:=zgD (P:=P) (d:=o.dst) (ty:=o.type) (pos:=o.pos) (aft:=o.after) (g:=o.guard) (F:=fr.F) q u z A h;have⟨hl,h⟩:=z8 h;have hm:∀env S w t,Lk P vs env S w cx σ t->Lk P vs env S w cx j t:=λenv S w t i=>hk P vs env S w t<|Y P vs env S w t i;have D:SL P vs Γ env0 cx (j.put o.dst l) (fT o.dst (prL P vs l) K):=CR hd (λenv S w a t i=>hm env S w t<|hi env S w a t i) λS v w hv=>hv;have hq:j.ob=σ0.ob:=hu.trans<|T.trans n;have⟨c,σ',h1,G,H,J,L,M,Q⟩:=zad q u z A (os:=os) h D (Nr hd hn) hq<|rZ hx<|Gp hl;refine⟨prL P vs l::c,σ',by simp[h1],⟨λS w env hS hM a m=>⟨λhc=> ?_,λhc=> ?_⟩,G⟩,H,J,L,M,Q⟩
   ·refine hy env w S vs hS (by rw[hq];exact hM) λt i=>hm env S w t<|hi env S w a t<|XA m t ?_;exact So.2 (.inl i)
   ·rw[hw a m]at hc;cases hc
end
end
def LR{l:N uS}{D:K->wW}(hd:∀j,D j=wF->∀e∈(zZ l j).after,xcv .any e=wF->D e.on=wF):∀(f j i:K),D j=wF->qj l f j i=wF->D i=wF
 |0,j,i,c,h=>by
  obtain⟨e,b,a,rfl⟩:=ua h;exact hd j c e b a
 |f+1,j,i,c,h=>by
  unfold qj at h;rw[xdQ]at h;obtain h|h:=h
  ·obtain⟨e,b,a,rfl⟩:=ua h;exact hd j c e b a
  ·rw[xeR]at h;have⟨e,b,a⟩:=h;rw[xab]at a;exact LR hd f e.on i (hd j c e (xdo.1 b) a.1) a.2
section
def oD(al:Rb->wW)(rs:N Rb):N (K×Od):=rs.filterMap λr=>if al r=wF then Z (r.o,r.x)else wL
def Ei(i:K)(rs:N Rb):N (K×Od):=rs.filterMap λr=>if r.c=Z i then Z (r.o,r.x)else wL
def BQ(i:K)(rs:N Rb):N (K×Od):=rs.filterMap λr=>if r.a=Z i then Z (r.o,r.x)else wL
def iE(i:K)(rs:N Rb):N (K×Od):=rs.filterMap λr=>if i∈r.rd then Z (r.o,r.x)else wL
def P9{al b:Rb->wW}{i:K}:∀{rs:N Rb},(∀r∈rs,(r.c=Z i/\i∉r.rd/\r.a≠Z i/\al r=wF/\b r=I)\/(r.a=Z i/\r.c≠Z i/\i∉r.rd/\al r=I/\b r=wF)\/
 (i∈r.rd/\r.c≠Z i/\r.a≠Z i/\al r=wF/\b r=wF)\/(r.c≠Z i/\r.a≠Z i/\i∉r.rd/\al r=b r))->
 ∃rest,(∀e∈rest,∃r∈rs,e=(r.o,r.x)/\al r=wF/\b r=wF)/\(oD al rs).Perm (Ei i rs++(iE i rs++rest))/\(oD b rs).Perm (BQ i rs++(iE i rs++rest))
 |[],_=>⟨[],λe he=>wR he IR,xdy _,xdy _⟩
 |r::rs,h=>by
  have⟨rest,h1,d,f⟩:=P9 (rs:=rs) λq m=>h q<|UV _ m;have k:∀e∈rest,∃q∈r::rs,e=(q.o,q.x)/\al q=wF/\b q=wF:=λe he=>by
   have⟨q,m,h⟩:=h1 e he;exact⟨q,UV _ m,h⟩
  rcases h r (FS)with⟨g,j,a3,a4,a5⟩|⟨g,j,a3,a4,a5⟩|⟨g,j,a3,a4,a5⟩|⟨g,j,a3,a4⟩
  ·refine⟨rest,k,?_,?_⟩
   ·simp only[oD,Ei,iE,xaM,g,j,a4,uL,ut,V5]at d⊢;exact d.cons _
   ·simp only[oD,BQ,iE,xaM,a3,j,a5,ut,V5,xak]at f⊢;exact f
  ·refine⟨rest,k,?_,?_⟩
   ·simp only[oD,Ei,iE,xaM,j,a3,a4,ut,V5,xak]at d⊢;exact d
   ·simp only[oD,BQ,iE,xaM,g,a3,a5,uL,ut,V5]at f⊢;exact f.cons _
  ·refine⟨rest,k,?_,?_⟩
   ·simp only[oD,Ei,iE,xaM,g,j,a4,uL,ut,V5]at d⊢;exact(d.cons _).trans xcn.symm
   ·simp only[oD,BQ,iE,xaM,g,a3,a5,uL,ut,V5]at f⊢;exact(f.cons _).trans xcn.symm
  ·cases l:al r with
   |false=>
    rw[l]at a4;refine⟨rest,k,?_,?_⟩
    ·simp only[oD,Ei,iE,xaM,g,a3,l,ut,V5,xak]at d⊢;exact d
    ·simp only[oD,BQ,iE,xaM,j,a3,<-a4,ut,V5,xak]at f⊢;exact f
   |true=>
    rw[l]at a4;refine⟨(r.o,r.x)::rest,λe he=> ?_,?_,?_⟩
    ·obtain rfl|he:=xaa.1 he
     ·exact⟨r,FS,O,l,a4.symm⟩
     ·exact k e he
    ·simp only[oD,Ei,iE,xaM,g,a3,l,uL,ut,V5]at d⊢;rw[<-xaf]at d⊢;exact(d.cons _).trans xcn.symm
    ·simp only[oD,BQ,iE,xaM,j,a3,<-a4,uL,ut,V5]at f⊢;rw[<-xaf]at f⊢;exact(f.cons _).trans xcn.symm
def KV(P:jp)(vs:K->wN)(KL:N (Z9×N (K×Dv))):N (Z9×Pr):=KL.map λe=>(e.1,prL P vs e.2)
def LG(d:V Z9)(l:N (K×Dv))(KL:N (Z9×N (K×Dv))):N (Z9×N (K×Dv)):=match d with
 |some t=>(t,l)::KL
 |none=>KL
def Ae:N (uS×N (wr×Dv))->N (Z9×N (wr×Dv))->N (Z9×N (wr×Dv))
 |[],K=>K
 |(o,l)::r,K=>Ae r<|LG o.dst l K
def OL(P:jp)(vs:K->wN)(L:N (uS×N (K×Dv))):N (uS×Pr):=L.map λe=>(e.1,prL P vs e.2)
section
variable{P:jp}{vs:wr->wN}
def zeD{d:V Z9}{l:N (K×Dv)}{KL:N (Z9×N (K×Dv))}:KV P vs (LG d l KL)=fT d (prL P vs l) (KV P vs KL):=by cases d<;>rfl
def zhv:∀(L:N (uS×N (K×Dv))) (KL:N (Z9×N (K×Dv))),KV P vs (Ae L KL)=OQ (OL P vs L) (KV P vs KL)
 |[],KL=>rfl
 |(o,l)::r,KL=>by
  show KV P vs (Ae r<|LG o.dst l KL)=OQ (OL P vs r) (fT o.dst (prL P vs l)<|KV P vs KL);rw[zhv r,zeD]
end
def ObB(P:jp)(b:ul uS)(we:wP)(Se:K->Prop)(mE:N MF)(Γ:N FF)(env0:y8)(vs:K->wN)(n0:K)(rs:N Rb)(KL:N (Z9×N (K×Dv)))(i:K)(o:uS)(L:N (K×Dv))(a:Oi):Prop:=
 n0<=a.lo/\a.lo<=a.hi/\(∀e∈L,∀p,va e.2=Z p->p<a.hi/\p∈a.refs)/\(∀e∈BQ i rs,e.1<a.hi)/\
 ∀vs',(∀p,p<n0->vs' p=vs p)->∀(env:y8) (F:N MF) (G:N FF) (w:wP),St we Se (MS vs' (Ei i rs++iE i rs)++(mE++F)) (zd3 (KV P vs' KL) env0 env (o.looksAt b)::(Γ++G)) w->
  (yW b env o=wF->uB P o env w (λv w'=>∃vs2,(∀p,p<a.lo->vs2 p=vs' p)/\St we Se (MS vs2 (BQ i rs)++(MS vs' (iE i rs)++(mE++F))) (zh9 P vs2 v L++(Γ++G)) w'))/\
  (yW b env o=I->Ei i rs=[]/\BQ i rs=[]/\∀S w,zE S (zh9 P vs' uP L) w)
def zh2(P:jp)(a:ul uS)(we:wP)(Se:K->Prop)(mE:N MF)(Γ:N FF)(env0:y8)(vs:K->wN)(n0:K)(rs:N Rb):N ((uS×N (K×Dv))×Oi)->K->N (Z9×N (K×Dv))->Prop
 |[],_,_=>XS
 |((o,L),b)::r,i,KL=>ObB P a we Se mE Γ env0 vs n0 rs KL i o L b/\zh2 P a we Se mE Γ env0 vs n0 rs r (i+1) (LG o.dst L KL)
def C4{P:jp}{b:ul uS}{we:wP}{Se:K->Prop}{mE:N MF}{Γ:N FF}{env0:y8}{vs:K->wN}{n0:K}{rs:N Rb}:∀(r:N (uS×N (K×Dv))) (is:N Oi) (n:K) (KL:N (Z9×N (K×Dv))) (i:K) (x:uS×N (K×Dv)) (d:Oi),
 zh2 P b we Se mE Γ env0 vs n0 rs (r.zip is) n KL->r[i]? =Z x->is[i]? =Z d->ObB P b we Se mE Γ env0 vs n0 rs (Ae (r.take i) KL) (n+i) x.1 x.2 d
 |[],_,_,_,_,_,_,h,a,_=>by simp at a
 |_::_,[],_,_,_,_,_,_,_,h=>by simp at h
 |(o,L)::r,c::is,n,KL,0,x,d,h,a,hc=>by simp at a hc;subst a;subst hc;exact h.1
 |(o,L)::r,c::is,n,KL,i+1,x,d,h,a,hc=>by
  have:=C4 r is (n+1) (LG o.dst L KL) i x d h.2 (by simpa using a) (by simpa using hc);rw[(W:n+1+i=n+(i+1))]at this;simpa[Ae]using this
structure zqd(l:N uS)(m:K)(rs:N Rb)(is:N Oi):Prop where
 a:∀r∈rs,∀j,r.a=Z j->j<m/\∀i∈r.rd,qj l 16 i j=wF
 c:∀r∈rs,∀k,r.c=Z k->k<m/\(∀j,r.a=Z j->qj l 16 k j=wF)/\∀i∈r.rd,qj l 16 k i=wF
 n:∀i b,is[i]? =Z b->∀r∈rs,b.lo<=r.o->r.o<b.hi->∃j,r.a=Z j/\(j=i\/qj l 16 j i=wF)
 f:∀i b j J,is[i]? =Z b->is[j]? =Z J->∀p∈J.refs,b.lo<=p->p<b.hi->j=i\/qj l 16 j i=wF
 uniq:∀i j t,i<m->j<m->i≠j->(zZ l i).dst=Z t->(zZ l j).dst≠Z t
def zcn{l:N uS}{m:K}{rs:N Rb}{is:N Oi}(h:zhL l m rs is=wF):zqd l m rs is:=by
 unfold zhL at h;rw[xab,xab]at h;have⟨⟨e,hn⟩,f⟩:=h;have hc:∀i q,is[i]? =Z q->zjA l i q rs is.zipIdx=wF:=λi q hi=>xaN.1 hn (q,i)<|List.mem_zipIdx_iff_getElem?.2 hi;have b:∀(q:Oi) (p:K),q.lo<=p->p<q.hi->inB q p=wF:=λq p h1 c=>by
  unfold inB;rw[Nat.ble_eq_true_of_le h1,Bool.true_and];exact Nat.ble_eq_true_of_le c
 refine⟨λr d j a=> ?_,λr d k g=> ?_,λi q hi r d h1 c=> ?_,λi q j J hi a p hp h1 c=> ?_,λi j t hi a hd n o=> ?_⟩
 ·have:=xaN.1 e r d;rw[xab]at this;have:=this.1;rw[a]at this;simp only[xab,xaN]at this;exact⟨by have:=xbJ this.1;lia,this.2⟩
 ·have:=xaN.1 e r d;rw[xab]at this;have:=this.2;rw[g]at this;simp only[xab,xaN]at this;refine⟨by have:=xbJ this.1.1;lia,λj a=> ?_,this.2⟩;have:=this.1.2;rw[a]at this;exact this
 ·have:=hc i q hi;unfold zjA at this;rw[xab]at this;have:=xaN.1 this.1 r d;rw[b q _ h1 c,xcW,xet]at this;split at this
  ·next j a=>
   rw[xdQ]at this;exact⟨j,a,this.imp zO id⟩
  ·cases this
 ·have:=hc i q hi;unfold zjA at this;rw[xab]at this;have:=xaN.1 this.2 (J,j)<|List.mem_zipIdx_iff_getElem?.2 a;have:=xaN.1 this p hp;rw[b q _ h1 c,xcW,xet,xdQ]at this;exact this.imp zO id
 ·have:=xaN.1 (xaN.1 f i<|xbe.2 hi) j<|xbe.2 a;rw[Yb hd,xet,n]at this;simp[o]at this
end
section
section
variable{P:jp}{N:Nd}{we:wP}{Se:wr->Prop}{ms:xS MF}{Γ:xS FF}{Q:Qs}{env0:y8}{l:xS uS}{m:wr}
def za4{Lp:xS (uS×Pr)}(hd:∀i,i<m->∃b,Lp[i]? =Z (zZ l i,b))(g:∀(i:K) (x:uS×Pr),Lp[i]? =Z x->i<m/\x.1=zZ l i){D:K->wW}{env:y8}{S:K->Prop}{w:wP}{i:K}{t:Z9}
 (h:∀t,(∀i,i<m->D i=wF->(zZ l i).dst≠Z t)->env t=env0 t) (k:(N9 Lp D env).p S w) (hl:i<=m) (d:∀j,j<m->(zZ l j).dst=Z t->(D j=wF↔j<i)):Yx (OQ (Lp.take i) []) env0 env S w t:=by
 unfold Yx;rcases n5 t (Lp.take i) []with⟨j,y,g1,a,r,n⟩|⟨g1,a⟩
 ·rw[n];rw[xcA]at g1;split at g1
  ·next hc=>
   have⟨hi,o⟩:=g j y g1;exact k j y t ((d j hi<|o▸a).2 hc) g1 a
  ·cases g1
 ·rw[a];simp only[List.find?_nil];refine h t λj e q f=> ?_;have hc:=(d j e f).1 q;have⟨b,c⟩:=hd j e;exact g1 j (zZ l j,b) (by rw[xcA,iq hc];exact c) f
def zgx(hc:Wv l m=wF){Lp:xS (uS×Pr)}(o:∀i,i<m->∃q,Lp[i]? =Z (zZ l i,q))(hd:∀(i:K) (x:uS×Pr),Lp[i]? =Z x->i<m/\x.1=zZ l i){D:K->wW}{env:y8}{S:K->Prop}{w:wP}{i:K}
 (hp:i<m) (hn:D i=I) (r:∀e∈(zZ l i).after,xcv .any e=wF->D e.on=wF) (s:∀j,D j=wF->∀e∈(zZ l j).after,xcv .any e=wF->D e.on=wF)
 (u:∀t,(∀i,i<m->D i=wF->(zZ l i).dst≠Z t)->env t=env0 t) (v:(N9 Lp D env).p S w):VR (OQ (Lp.take i) []) env0 env S w (xbA l.toArray<|zZ l i):=by
 have⟨h0,h1,y,B,hv⟩:=uQ hc;have C:i<X l:=W
 have hi:∀t,t∈xbA l.toArray (zZ l i)->∀j,j<m->(zZ l j).dst=Z t->j≠i->(D j=wF↔j<i):=by
  intro t c j d f z;have n:=y i j t hp d z f (.inl c);constructor
  ·intro A;obtain h|h:=xbW j i
   ·exact h
   ·exfalso;have⟨e,g,k,hl⟩:=ua (n.2 W);have a:=s j A e g k;rw[hl,hn]at a;cases a
  ·intro b;have⟨e,g,k,hl⟩:=ua<|n.1 b;have a:=r e g k;rwa[hl]at a
 exact Ux _ λt c=>za4 o hd u v W λj d f=>by
  by_cases b:j=i
  ·subst b;rw[hn];simp
  ·exact hi t c j d f b
def ni(D:K->wW)(r:Rb):wW:=(match r.a with
 |none=>wF
 |some j=>D j) && !(match r.c with
 |none=>I
 |some k=>D k)
def TQ{D:K->wW}{i:K}(c:∀e∈(zZ l i).after,xcv .any e=wF->D e.on=wF)(hc:∀j,D j=wF->∀e∈(zZ l j).after,xcv .any e=wF->D e.on=wF):∀(f j:K),qj l f i j=wF->D j=wF
 |0,j,h=>by
  obtain⟨e,b,a,rfl⟩:=ua h;exact c e b a
 |f+1,j,h=>by
  unfold qj at h;rw[xdQ]at h;obtain h|h:=h
  ·obtain⟨e,b,a,rfl⟩:=ua h;exact c e b a
  ·rw[xeR]at h;have⟨e,b,a⟩:=h;rw[xab]at a;exact LR hc f e.on j (c e (xdo.1 b) a.1) a.2
def Gn{al a:Rb->wW}:∀{rs:xS Rb},(∀r∈rs,al r=a r)->oD al rs=oD a rs
 |[],_=>rfl
 |r::rs,h=>by
  have b:=Gn (rs:=rs) λq c=>h q<|UV _ c;unfold oD at b⊢;rw[xaM,xaM,h r<|FS,b]
def zl6{id:K}{mE:xS MF}(m:K)(Ls:xS (xS<|K×Dv))(is:xS Oi)(rs:xS Rb)(ts:xS Z9)(vs:K->wN)(n0:K)(hm:P.follows .mixedOrders=wF)(hc:Wv l m=wF)(hl:X Ls=m)(h':X is=m)(u:zhL l m rs is=wF)
 (b2:MS vs (oD (λr=>r.a.isNone) rs)++mE=ms) (hd:(l.all λo=>q8 N.n o.dst)=wF) (hG:zh2 P l.toArray we Se mE Γ env0 vs n0 rs (((l.take m).zip Ls).zip is) 0 [])
 (a0:∀(env:y8) (w:wP) (vs':K->wN),(∀p,p<n0->vs' p=vs p)->St we Se (MS vs' (oD (λr=>r.c.isNone) rs)++mE) (zd3 (KV P vs'<|Ae ((l.take m).zip Ls) []) env0 env ts::Γ) w->WpL P N l.toArray (l.drop m) Q env w):
 T P N we Se ms Γ (.region id l.toArray wF) Q env0:=by
 have⟨h0,h1,h2,h3,c7⟩:=uQ hc;have hp:=zcn u;have⟨L,hL⟩:∃L,L=(l.take m).zip Ls:=⟨_,O⟩;rw[<-hL]at hG a0;have e0:X L=m:=by rw[hL];simp;lia
 have hH:∀i,i<m->∃x,L[i]? =Z (zZ l i,x):=λi hi=>by
  have h':i<X l:=xao hi h0;have a5:i<X Ls:=hl.symm▸hi;refine⟨Ls[i]'(a5),?_⟩;rw[hL,List.getElem?_zip_eq_some];refine⟨?_,gT⟩;rw[xcA,iq hi];simp[zZ,h']
 have hK:∀i x,L[i]? =Z x->i<m/\x.1=zZ l i:=λi x u=>by
  have hi:i<m:=by have:=(xaq.1 u).1;lia
  have⟨Φ,h⟩:=hH i hi;rw[h]at u;cases u;exact⟨hi,O⟩
 have H:∀vs' i,i<m->∃Φ,(OL P vs' L)[i]? =Z (zZ l i,Φ):=λvs' i hi=>by
  have⟨x,h⟩:=hH i hi;exact⟨_,by rw[OL,xcg,h];rfl⟩
 have A:∀vs' (i:K) (x:uS×Pr),(OL P vs' L)[i]? =Z x->i<m/\x.1=zZ l i:=λvs' i x u=>by
  rw[OL,xcg]at u
  cases G:L[i]? with
  |none=>rw[G]at u;cases u
  |some y=>rw[G]at u;cases u;exact hK i y G
 refine zoE m (λD env w=>(∀t,(∀i,i<m->D i=wF->(zZ l i).dst≠Z t)->env t=env0 t)/\∃vs',(∀p,p<n0->vs' p=vs p)/\St we Se (MS vs' (oD (ni D) rs)++mE) (Γ++[N9 (OL P vs' L) D env]) w) hm hc hd ?_ ?_ ?_
 ·intro w hw;refine⟨λt _=>O,vs,λ_ _=>O,?_⟩;have:ni (λ_=>I)=λr=>r.a.isNone:=by
   funext r;unfold ni;cases r.a<;>cases r.c<;>rfl
  rw[this,b2];exact hw.weak λS w h=>zE.append h ⟨λi x t hi=>(by cases hi),wS⟩
 ·rintro D i env w hS V a9 hM hA ⟨hE,vs',hT,hU⟩;have c6:i<X l:=W
  have⟨x,b0⟩:=hH i hS;have⟨b,hI⟩:∃b,is[i]? =some b:=⟨_,xah W⟩;have⟨o1,o2,o3,o4,hN⟩:=C4 L is 0 [] i _ b hG b0 hI;rw[xaJ]at hN o4;have hq:∀j,qj l 16 i j=wF->D j=wF:=λj s=>TQ hM hA 16 j s;have hV:∀k,D k=wF->qj l 16 k i≠wF:=λk hk q=>by
   have:=LR hA 16 k i hk q;rw[V]at this;cases this
  have hX:∀r∈rs,(r.c=Z i/\i∉r.rd/\r.a≠Z i/\ni D r=wF/\ni (Ez D i) r=I)\/(r.a=Z i/\r.c≠Z i/\i∉r.rd/\ni D r=I/\ni (Ez D i) r=wF)\/
   (i∈r.rd/\r.c≠Z i/\r.a≠Z i/\ni D r=wF/\ni (Ez D i) r=wF)\/(r.c≠Z i/\r.a≠Z i/\i∉r.rd/\ni D r=ni (Ez D i) r):=by
   intro r q;have hB:qj l 16 i i≠wF:=λh=>by have:=hq i h;rw[V]at this;cases this
   have hu:∀j,j≠i->Ez D i j=D j:=λj s=>TW s;by_cases F:r.c=Z i
   ·have⟨c1,c2,c3⟩:=hp.c r q i F;have hv:i∉r.rd:=λh=>hB<|c3 i h;have B:r.a≠Z i:=λh=>hB<|c2 i h;refine .inl ⟨F,hv,B,?_,?_⟩
    ·unfold ni;rw[F];simp only[V,xeQ,Bool.and_true]
     cases M:r.a with
     |none=>rfl
     |some j=>exact hq j<|c2 j M
    ·unfold ni;rw[F];simp only[pz,xcW,Bool.and_false]
   ·by_cases B:r.a=Z i
    ·have⟨a1,Y⟩:=hp.a r q i B;have hv:i∉r.rd:=λh=>hB<|Y i h;refine .inr (.inl ⟨B,F,hv,?_,?_⟩)
     ·unfold ni;rw[B];simp only[V,Bool.false_and]
     ·unfold ni;rw[B];simp only[pz,Bool.true_and]
      cases hn:r.c with
      |none=>rfl
      |some k=>
       simp only;rw[hu k<|λe=>F<|by rw[hn,e]]
       cases hZ:D k with
       |false=>rfl
       |true=>exact wR ((hp.c r q k hn).2.1 i B)<|hV k hZ
    ·have h4:∀k,r.c=Z k->i∈r.rd->D k=I:=λk hk hi=>by
      cases hZ:D k with
      |false=>rfl
      |true=>exact wR ((hp.c r q k hk).2.2 i hi)<|hV k hZ
     have hO:ni (Ez D i) r=ni D r:=by
      unfold ni
      cases M:r.a with
      |none=>
       cases hn:r.c with
       |none=>rfl
       |some k=>simp only;rw[hu k<|λe=>F<|by rw[hn,e]]
      |some j=>
       cases hn:r.c with
       |none=>simp only;rw[hu j<|λe=>B<|by rw[M,e]]
       |some k=>simp only;rw[hu j (λe=>B<|by rw[M,e]),hu k<|λe=>F<|by rw[hn,e]]
     by_cases hv:i∈r.rd
     ·have:ni D r=wF:=by
       unfold ni;have e1:(match r.c with|none=>I|some k=>D k)=I:=by
        cases hn:r.c with
        |none=>rfl
        |some k=>exact h4 k hn hv
       rw[e1];simp only[xeQ,Bool.and_true]
       cases M:r.a with
       |none=>rfl
       |some j=>exact hq j<|(hp.a r q j M).2 i hv
      exact .inr (.inr (.inl ⟨hv,F,B,this,hO.trans this⟩))
     ·exact .inr (.inr (.inr ⟨F,B,hv,hO.symm⟩))
  have⟨rest,h5,p1,p2⟩:=P9 hX;have hW:∀S:K->Prop,∀w:wP,(N9 (OL P vs' L) D env).p S w->VR (KV P vs'<|Ae (L.take i) []) env0 env S w (xbA l.toArray<|zZ l i):=λS w h6=>by
   rw[zhv];have:=zgx hc (H vs') (A vs') hS V hM hA hE h6;rw[show OL P vs' (L.take i)=(OL P vs' L).take i by unfold OL;rw[List.map_take]];exact this
  have hP:St we Se (MS vs' (Ei i rs++iE i rs)++(mE++MS vs' rest)) (zd3 (KV P vs'<|Ae (L.take i) []) env0 env (xbA l.toArray<|zZ l i)::(Γ++[N9 (OL P vs' L) D env])) w:=by
   refine St.weak (hU.perm ?_) λS w h=>⟨hW S w (zE.right (Γ:=Γ) h).1,h⟩;have e1:(MS vs'<|oD (ni D) rs).Perm (MS vs' (Ei i rs++iE i rs)++MS vs' rest):=by
    unfold MS;rw[<-xaW,xaf];exact p1.map _
   refine(xfp mE e1).trans ?_;rw[xaf];exact xbL _ List.perm_append_comm
  have hN:=hN vs' hT env (MS vs' rest) [N9 (OL P vs' L) D env] w hP;have hY:∀(v:wN) (t:Z9),(∀i',i'<m->Ez D i i'=wF->(zZ l i').dst≠Z t)->put env (zZ l i).dst v t=env0 t:=λv t ht=>by
   rw[lO<|ht i hS<|pz D i];exact hE t λj s b3=>ht j s<|ziy b3
  have C:∀(v:wN) (w':wP) (vs2:K->wN),(∀p,p<b.lo->vs2 p=vs' p)->St we Se (MS vs2 (BQ i rs)++(MS vs' (iE i rs)++(mE++MS vs' rest))) (zh9 P vs2 v x++(Γ++[N9 (OL P vs' L) D env])) w'->
   ∃g,(∀p,p<n0->g p=vs p)/\St we Se (MS g (oD (ni<|Ez D i) rs)++mE) (Γ++[N9 (OL P g L) (Ez D i)<|put env (zZ l i).dst v]) w':=by
   intro v w' vs2 h7 hs;have e3:∃g:K->wN,g=λp=>if b.lo<=p/\p<b.hi then vs2 p else vs' p:=⟨_,O⟩;have⟨g,e3⟩:=e3;have hQ:∀p,p<b.hi->g p=vs2 p:=λp hp=>by
    rw[e3];simp only;split
    ·rfl
    ·next hc=>exact(h7 p W).symm
   have hC:∀p,¬(b.lo<=p/\p<b.hi)->g p=vs' p:=λp hp=>by
    rw[e3];exact ir hp
   refine⟨g,λp hp=>(hC p W).trans<|hT p hp,?_⟩;have R:∀r∈rs,ni D r=wF->g r.o=vs' r.o:=λr q R=>hC r.o λ⟨g1,g2⟩=>by
    have⟨j,s,hji⟩:=hp.n i b hI r q g1 g2;unfold ni at R;rw[s,xab]at R;obtain rfl|hji:=hji
    ·have:=R.1;simp only at this;rw[V]at this;cases this
    ·exact hV j R.1 hji
   have m1:MS g (BQ i rs)=MS vs2 (BQ i rs):=wE λe E=>hQ e.1<|o4 e E;have m2:MS g (iE i rs)=MS vs' (iE i rs):=wE λe E=>by
    have⟨r,q,h8⟩:=xfh.1 E;split at h8
    ·next hi=>
     cases h8;rcases hX r q with⟨a1,Y,_⟩|⟨a1,Y,a3,_⟩|⟨a1,Y,a3,a4,_⟩|⟨a1,Y,a3,_⟩
     ·exact wR hi Y
     ·exact wR hi a3
     ·exact R r q a4
     ·exact wR hi a3
    ·cases h8
   have m3:MS g rest=MS vs' rest:=wE λe E=>by
    obtain⟨r,q,rfl,h1,_⟩:=h5 e E;exact R r q h1
   have b4:(MS g (oD (ni<|Ez D i) rs)++mE).Perm (MS vs2 (BQ i rs)++(MS vs' (iE i rs)++(mE++MS vs' rest))):=by
    rw[<-m1,<-m2,<-m3];have e1:(MS g<|oD (ni<|Ez D i) rs).Perm (MS g (BQ i rs)++(MS g (iE i rs)++MS g rest)):=by
     unfold MS;rw[<-xaW,<-xaW];exact p2.map _
    refine(xfp mE e1).trans ?_;rw[xaf,xaf];exact xbL _<|xbL _ List.perm_append_comm
   refine St.weak (hs.perm b4.symm) λS w2 h=> ?_;have b1:=zE.right h;refine zE.append (zE.left b1) ⟨?_,wS⟩;have h6:=(zE.right b1).1;intro j y t s G ht;rw[OL,xcg]at G
   cases U:L[j]? with
   |none=>rw[U]at G;cases G
   |some z=>
    rw[U]at G;cases G;have⟨b5,b6⟩:=hK j z U;by_cases hji:j=i
    ·subst hji;rw[b0]at U;cases U;have c0:(zZ l j).dst=Z t:=ht;show(prL P g x).p S (put env (zZ l j).dst v t) w2;rw[c0,Df];intro e E;have:=kX.1 (zE.left h) _<|xat.2 ⟨e,E,O⟩;have h9:wg P g e.2 v e.1=wg P vs2 e.2 v e.1:=by
      unfold wg;simp only[fJ (P:=P) (vs':=g) (vs:=vs2) (d:=e.2) λo ho=>hQ o (o3 e E o ho).1]
     rw[h9];exact this
    ·rw[TW hji]at s;have c4:(zZ l i).dst≠Z t:=hp.uniq j i t b5 hS hji<|b6▸ht;show(prL P g z.2).p S (put env (zZ l i).dst v t) w2;rw[lO c4];intro e E;have:=h6 j (z.1,prL P vs' z.2) t s (by rw[OL,xcg,U];rfl) ht;have:=this e E;have⟨J,hJ⟩:∃J,is[j]? =some J:=⟨_,xah W⟩;have⟨_,_,q3,_,_⟩:=C4 L is 0 [] j _ J hG U hJ;have h9:wg P g e.2 (env t) e.1=wg P vs' e.2 (env t) e.1:=by
      unfold wg;simp only[fJ (P:=P) (vs':=g) (vs:=vs') (d:=e.2) λo ho=>hC o λ⟨g1,g2⟩=>by
       rcases hp.f i b j J hI hJ o (q3 e E o ho).2 g1 g2 with h|h
       ·exact hji h
       ·exact hV j s h]
     rw[h9];exact this
  refine⟨λhw=>(hN.1 hw).mono λv w' ⟨vs2,h7,hs⟩=>⟨hY v,C v w' vs2 h7 hs⟩,λhw=>⟨hY uP,?_⟩⟩;have⟨g1,g2,g3⟩:=hN.2 hw;refine C uP w vs' (λ_ _=>O) ?_;rw[g1,xby]at hP;rw[g2];refine St.weak (show St we Se (MS vs' []++(MS vs' (iE i rs)++(mE++MS vs' rest))) _ w from hP) λS w h=>zE.append (g3 S w) h.2
 ·rintro D env w hR a9 ⟨hE,vs',hT,hU⟩;refine a0 env w vs' hT ?_;have c5:oD (ni D) rs=oD (λr=>r.c.isNone) rs:=by
   refine Gn λr q=> ?_;have:ni D r=r.c.isNone:=by
    unfold ni;have e1:(match r.a with|none=>wF|some j=>D j)=wF:=by
     cases M:r.a with
     |none=>rfl
     |some j=>exact hR j (hp.a r q j M).1
    rw[e1]
    cases hn:r.c with
    |none=>rfl
    |some k=>simp only[hR k (hp.c r q k hn).1];rfl
   exact this
  rw[c5]at hU;refine hU.weak λS w h=>⟨?_,zE.left h⟩;refine Ux ts λt _=> ?_;have:=za4 (i:=m) (t:=t) (H vs') (A vs') hE (zE.right (Γ:=Γ) h).1 (Nm m) λj s _=>⟨λ_=>s,λ_=>hR j s⟩;rw[zhv];rwa[xaQ<|by unfold OL;rw[xbd];lia]at this
end
end
section
section
variable{P:jp}{cf:Cf}{fr:Fr}{cx σ σ0:Sg}{vs vs':wr->wN}{env env0:y8}{w:wP}{R:Type}{r:R}
def b9:∀{rg:N (K×K×Dv)}{e:K×K×Dv},e∈dd rg->e∈rg
 |a::r,e,h=>by
  obtain rfl|h:=xaa.1 h
  ·exact FS
  ·exact UV _<|b9 (xcj.1 h).1
def HK:∀{rg:N (K×K×Dv)}{e:K×K×Dv},e∈dd rg->gN rg e.1 e.2.1=Z e.2.2
 |(t,i,d)::r,e,h=>by
  obtain rfl|h:=xaa.1 h
  ·unfold gN;simp
  ·have⟨h1,a⟩:=xcj.1 h;unfold gN;simp only[xcV]at a;rw[a];exact HK h1
def De:∀(ts:N K),Kc env (ts.map λt=>(t,env t))
 |[]=>rfl
 |t::ts=>DG O<|De ts
def IF{rest:y8}:∀{ts:N K}{t:K},t∈ts->L (ts.map λt=>(t,env t)) rest t=env t
 |s::ts,t,h=>by
  simp only[xcb,L];cases a:E t s
  ·simp only[Z2];obtain rfl|h:=xaa.1 h
   ·simp at a
   ·exact IF h
  ·rw[zO a];rfl
def OV:∀(l:N uS) (al:N (K×v6)) {σ:Sg},Yn P fr cx σ env w->Yn P fr cx (zjO cf cx l al σ) env w
 |[],_,_,h=>h
 |o::r,al,σ,h=>OV r _<|CY _ h
theorem zaX{N:K}{l:xS uS}(h:(l.all λo=>q8 N o.dst)=wF)(m:K):((l.drop m).all λo=>q8 N o.dst)=wF:=by grind [xaN,xeO]
def lH:∀(l:N K) {σ:Sg},gf P fr cx σ vs env w->gf P fr cx (C7 σ l) vs env w
 |[],_,h=>h
 |o::r,_,h=>lH r<|FT h
def PJ:∀(l:N K) (σ:Sg),(C7 σ l).nx=σ.nx
 |[],_=>rfl
 |o::r,σ=>by
  show(C7 (P4 σ o) r).nx=_;rw[PJ r];unfold P4;split<;>rfl
structure RX1(i:K)(r r':Rb):Prop where
 a:r'.a=r.a
 o:r'.o=r.o
 x:r'.x=r.x
 c1:∀k,r.c=Z k->r'.c=Z k
 c2:r.c=wL->∀k,r'.c=Z k->i<=k
 d1:∀j∈r.rd,j∈r'.rd
 d2:∀j∈r'.rd,j∈r.rd\/i<=j
def RX(i:K):N Rb->N Rb->Prop
 |[],b=>∀r∈b,(∃j,r.a=Z j/\i<=j)/\(∀k,r.c=Z k->i<=k)/\∀j∈r.rd,i<=j
 |_::_,[]=>V6
 |r::rs,d::b=>RX1 i r d/\RX i rs b
def AF(i:K)(rs:N Rb):Prop:=∀r∈rs,(∀j,r.a=Z j->j<i)/\(∀k,r.c=Z k->k<i)/\∀j∈r.rd,j<i
def RX.refl(i:K):∀rs:N Rb,RX i rs rs
 |[]=>λr b=>wR b IR
 |r::rs=>⟨⟨O,O,O,λ_ h=>h,λh k a=>(by rw[h]at a;cases a),λ_ h=>h,λ_ h=> .inl h⟩,RX.refl i rs⟩
def RN{i:K}{a:N Rb}(h:RX (i+1) [] a):RX i [] a/\Ei i a=[]/\BQ i a=[]/\iE i a=[]:=by
 refine⟨λr b=> ?_,?_,?_,?_⟩
 ·have⟨⟨j,h1,c⟩,d,f⟩:=h r b;exact⟨⟨j,h1,W⟩,λk g=>by have:=d k g;lia,λj l=>by have:=f j l;lia⟩
 ·refine xek.2 λr b=>ir λe=> ?_;have:=(h r b).2.1 i e;lia
 ·refine xek.2 λr b=>ir λe=> ?_;have⟨j,h1,c⟩:=(h r b).1;rw[e]at h1;cases h1;lia
 ·refine xek.2 λr b=>ir λe=> ?_;have:=(h r b).2.2 i e;lia
def RX1.step{i:K}{r r1 e:Rb}(h:RX1 (i+1) r1 e)(f:r1.a=r.a)(g:r1.o=r.o)(l:r1.x=r.x)(hc:∀k,r.c=Z k->r1.c=Z k)(m:r.c=wL->∀k,r1.c=Z k->k=i)(hd:∀j∈r.rd,j∈r1.rd)(n:∀j∈r1.rd,j∈r.rd\/j=i):RX1 i r e:={
 a:=h.a.trans f
 o:=h.o.trans g
 x:=h.x.trans l
 c1:=λk b=>h.c1 k<|hc k b
 c2:=λhn k b=>by
  cases h1:r1.c with
  |none=>have:=h.c2 h1 k b;lia
  |some q=>
   have:=h.c1 q h1;rw[b]at this;cases this;have:=m hn k h1;lia
 d1:=λj d=>h.d1 j<|hd j d
 d2:=λj d=>by
  obtain h1|h1:=h.d2 j d
  ·obtain h2|h2:=n j h1
   ·exact .inl h2
   ·exact .inr W
  ·exact .inr<|by lia}
def zbg{i:K}:∀{rs b:N Rb},AF i rs->RX (i+1) rs b->RX i rs b/\Ei i b=[]/\BQ i b=[]/\iE i b=[]
 |[],b,_,h=>RN h
 |r::rs,[],_,h=>h.elim
 |r::rs,d::b,f,⟨h1,n⟩=>by
  have⟨g1,g,j,l⟩:=zbg (rs:=rs) (λq o=>f q<|UV _ o) n;have⟨q1,q2,p⟩:=f r<|FS;have e1:d.c≠Z i:=λe=>by
   cases hc:r.c with
   |none=>have:=h1.c2 hc i e;lia
   |some k=>have:=h1.c1 k hc;rw[e]at this;cases this;have:=q2 i hc;lia
  have s:d.a≠Z i:=λe=>by rw[h1.a]at e;have:=q1 i e;lia
  have t:i∉d.rd:=λe=>by
   obtain h|h:=h1.d2 i e
   ·have:=p i h;lia
   ·lia
  refine⟨⟨h1.step O O O (λ_ h=>h) (λhn k m=>(by rw[hn]at m;cases m)) (λ_ h=>h)<|λ_ h=> .inl h,g1⟩,?_,?_,?_⟩
  ·unfold Ei at g⊢;rw[xaM,ir e1];exact g
  ·unfold BQ at j⊢;rw[xaM,ir s];exact j
  ·unfold iE at l⊢;rw[xaM,ir t];exact l
def zel{i:K}{os:N K}:∀{rs b:N Rb},AF i rs->RX (i+1) (TS i os rs) b->RX i rs b/\Ei i b=[]/\BQ i b=[]/\∀e∈fS os rs,e∈iE i b
 |[],b,_,h=>by
  have⟨g1,d,f,_⟩:=RN h;exact⟨g1,d,f,λe he=>wR he IR⟩
 |r::rs,[],_,h=>h.elim
 |r::rs,g::b,u,⟨h1,A⟩=>by
  have⟨g1,d,f,l⟩:=zel (rs:=rs) (λq B=>u q<|UV _ B) A;have⟨q1,q2,F⟩:=u r<|FS;have⟨r1,p⟩:∃r1,r1=(match r.c,gH os r.o with|none,true=>(⟨r.a,wL,i::r.rd,r.o,r.x⟩:Rb)|_,_=>r):=⟨_,O⟩;have h1:RX1 (i+1) r1 g:=by rw[p];exact h1
  have k1:r1.a=r.a/\r1.o=r.o/\r1.x=r.x/\r1.c=r.c/\(∀j∈r.rd,j∈r1.rd)/\(∀j∈r1.rd,j∈r.rd\/j=i):=by
   rw[p];split
   ·next hc _=>exact⟨O,O,O,hc.symm,λj s=>UV _ s,λj s=>(xaa.1 s).symm⟩
   ·exact⟨O,O,O,O,λ_ h=>h,λ_ h=> .inl h⟩
  have⟨v,y,z,m,C,t⟩:=k1;have e1:g.c≠Z i:=λe=>by
   cases hc:r.c with
   |none=>have:=h1.c2 (m.trans hc) i e;lia
   |some k=>have:=h1.c1 k<|m.trans hc;rw[e]at this;cases this;have:=q2 i hc;lia
  have D:g.a≠Z i:=λe=>by rw[h1.a,v]at e;have:=q1 i e;lia
  refine⟨⟨h1.step v y z (λk n=>m.trans n) (λhn k n=>by rw[m,hn]at n;cases n) C t,g1⟩,?_,?_,?_⟩
  ·unfold Ei at d⊢;rw[xaM,ir e1];exact d
  ·unfold BQ at f⊢;rw[xaM,ir D];exact f
  ·intro e he;unfold fS at he;unfold iE at l⊢;rw[xaM];split at he
   ·next hc E=>
    have hi:i∈g.rd:=h1.d1 i (by rw[p,hc,E];exact FS);rw[iq hi];obtain rfl|he:=xaa.1 he
    ·rw[h1.o,h1.x,y,z];exact FS
    ·exact UV _<|l e he
   ·split
    ·exact l e he
    ·exact UV _<|l e he
def zdD{i:K}:∀{ob:N (K×Od)}{b:N Rb},RX (i+1) (zi1 i ob) b->RX i [] b/\Ei i b=[]/\BQ i b=ob/\iE i b=[]
 |[],b,h=>RN h
 |e::ob,[],h=>h.elim
 |e::ob,d::b,⟨h1,n⟩=>by
  have⟨g1,f,g,l⟩:=zdD (ob:=ob) n;have e1:d.c≠Z i:=λe=>by have:=h1.c2 O i e;lia
  have m:d.a=Z i:=h1.a;have p:i∉d.rd:=λe=>by
   obtain h|h:=h1.d2 i e
   ·cases h
   ·lia
  refine⟨λr hr=> ?_,?_,?_,?_⟩
  ·obtain rfl|hr:=xaa.1 hr
   ·exact⟨⟨i,m,Nm _⟩,λk q=>by have:=h1.c2 O k q;lia,λj s=>by
     obtain h|h:=h1.d2 j s
     ·cases h
     ·lia⟩
   ·exact g1 r hr
  ·unfold Ei at f⊢;rw[xaM,ir e1];exact f
  ·unfold BQ at g⊢;rw[xaM,iq m,g,h1.o,h1.x]
  ·unfold iE at l⊢;rw[xaM,ir p];exact l
def zew{i:K}{os:N K}{ob:N (K×Od)}:∀{rs b:N Rb},AF i rs->RX (i+1) (R3 i os rs++zi1 i ob) b->RX i rs b/\Ei i b=fS os rs/\BQ i b=ob/\iE i b=[]
 |[],b,_,h=>zdD h
 |r::rs,[],_,h=>h.elim
 |r::rs,d::b,p,⟨h1,A⟩=>by
  have⟨g1,B,s,t⟩:=zew (rs:=rs) (λq C=>p q<|UV _ C) A;have⟨q1,q2,D⟩:=p r<|FS;have⟨r1,g⟩:∃r1,r1=(match r.c,gH os r.o with|none,true=>(⟨r.a,Z i,r.rd,r.o,r.x⟩:Rb)|_,_=>r):=⟨_,O⟩;have h1:RX1 (i+1) r1 d:=by rw[g];exact h1
  have k1:r1.a=r.a/\r1.o=r.o/\r1.x=r.x/\r1.rd=r.rd/\(∀k,r.c=Z k->r1.c=Z k)/\(r.c=wL->∀k,r1.c=Z k->k=i):=by
   rw[g];split
   ·next hc _=>exact⟨O,O,O,O,λk f=>(by rw[hc]at f;cases f),λ_ k f=>(by cases f;rfl)⟩
   ·exact⟨O,O,O,O,λ_ h=>h,λhn k f=>(by rw[hn]at f;cases f)⟩
  have⟨u,v,y,m,E,n⟩:=k1;have F:d.a≠Z i:=λe=>by rw[h1.a,u]at e;have:=q1 i e;lia
  have G:i∉d.rd:=λe=>by
   obtain h|h:=h1.d2 i e
   ·rw[m]at h;have:=D i h;lia
   ·lia
  refine⟨⟨h1.step u v y E n (λj l=>by rw[m];exact l) (λj l=>by rw[m]at l;exact .inl l),g1⟩,?_,?_,?_⟩
  ·have no:r1=r->d.c≠Z i:=λhd e=>by
    rw[hd]at h1
    cases hc:r.c with
    |none=>have:=h1.c2 hc i e;lia
    |some k=>have:=h1.c1 k hc;rw[e]at this;cases this;have:=q2 i hc;lia
   have hv:fS os (r::rs)=(match r.c,gH os r.o with|none,wF=>(r.o,r.x)::fS os rs|_,_=>fS os rs):=O;have H:Ei i (d::b)=if d.c=Z i then(d.o,d.x)::Ei i b else Ei i b:=by
    unfold Ei;rw[xaM];split<;>next h=>split at h<;>simp_all
   rw[H,hv,B]
   cases hc:r.c with
   |some k=>
    rw[ir<|no<|by rw[g,hc]]
   |none=>
    cases z:gH os r.o with
    |false=>rw[ir<|no<|by rw[g,hc,z]]
    |true=>
     have:d.c=Z i:=h1.c1 i (by rw[g,hc,z]);rw[iq this,h1.o,h1.x,v,y]
  ·unfold BQ at s⊢;rw[xaM,ir F];exact s
  ·unfold iE at t⊢;rw[xaM,ir G];exact t
def zeS{i:K}:∀{ob:N (K×Od)}{b:N Rb},RX i (zod ob) b->oD (λr=>r.a.isNone) b=ob
 |[],b,h=>xek.2 λr d=>by
  have⟨⟨j,h1,_⟩,_⟩:=h r d;simp[h1]
 |e::ob,[],h=>h.elim
 |e::ob,f::b,⟨h1,g⟩=>by
  have c:=zeS (ob:=ob) g;unfold oD at c⊢;have:f.a=wL:=h1.a;simp only[xaM,this,Option.isNone_none,uL];rw[c,h1.o,h1.x]
def ziY{i:K}{os:N K}{rs:N Rb}(h:AF i rs):AF (i+1) (TS i os rs):=by
 induction rs with
 |nil=>exact λr c=>wR c IR
 |cons r rs d=>
  intro q hq;unfold TS at hq;obtain rfl|hq:=xaa.1 hq
  ·have⟨q1,q2,b⟩:=h r<|FS;split
   ·exact⟨λj hj=>(by have:=q1 j hj;lia),λk a=>(by cases a),λj hj=>by
     obtain rfl|hj:=xaa.1 hj
     ·lia
     ·have:=b j hj;lia⟩
   ·exact⟨λj hj=>by have:=q1 j hj;lia,λk a=>by have:=q2 k a;lia,λj hj=>by have:=b j hj;lia⟩
  ·exact d (λq hq=>h q<|UV _ hq) q hq
def zjk{i:K}{os:N K}{rs:N Rb}(h:AF i rs):AF (i+1) (R3 i os rs):=by
 induction rs with
 |nil=>exact λr d=>wR d IR
 |cons r rs e=>
  intro q hq;unfold R3 at hq;obtain rfl|hq:=xaa.1 hq
  ·have⟨q1,q2,c⟩:=h r<|FS;split
   ·exact⟨λj a=>by have:=q1 j a;lia,λk b=>by cases b;lia,λj a=>by have:=c j a;lia⟩
   ·exact⟨λj a=>by have:=q1 j a;lia,λk b=>by have:=q2 k b;lia,λj a=>by have:=c j a;lia⟩
  ·exact e (λq hq=>h q<|UV _ hq) q hq
def zji{i:K}{ob:N (K×Od)}{rs:N Rb}(h:AF (i+1) rs):AF (i+1) (rs++zi1 i ob):=λq hq=>by
 obtain hq|hq:=So.1 hq
 ·exact h q hq
 ·obtain⟨e,_,rfl⟩:=xat.1 hq;exact⟨λj a=>by cases a;lia,λk b=>(by cases b),λj a=>wR a IR⟩
def zmv{i:K}{rs:N Rb}(h:AF i rs):AF (i+1) rs:=λr b=>by
 have⟨q1,q2,c⟩:=h r b;exact⟨λj a=>by have:=q1 j a;lia,λk d=>by have:=q2 k d;lia,λj a=>by have:=c j a;lia⟩
def zph{i n:K}{os:N K}{rs:N Rb}(h:∀r∈rs,r.o<n):∀r∈TS i os rs,r.o<n:=by
 induction rs with
 |nil=>exact λr a=>wR a IR
 |cons r rs b=>
  intro q hq;unfold TS at hq;obtain rfl|hq:=xaa.1 hq
  ·have:=h r<|FS;split<;>exact this
  ·exact b (λq hq=>h q<|UV _ hq) q hq
def zn1{i n:K}{os:N K}{rs:N Rb}(h:∀r∈rs,r.o<n):∀r∈R3 i os rs,r.o<n:=by
 induction rs with
 |nil=>exact λr a=>wR a IR
 |cons r rs b=>
  intro q hq;unfold R3 at hq;obtain rfl|hq:=xaa.1 hq
  ·have:=h r<|FS;split<;>exact this
  ·exact b (λq hq=>h q<|UV _ hq) q hq
def zhg{n:K}{os:N K}:∀{rs:N Rb},(∀r∈rs,r.o<n)->∀e∈fS os rs,e.1<n
 |[],_,e,he=>wR he IR
 |r::rs,h,e,he=>by
  have a:=zhg (os:=os) (rs:=rs) λq b=>h q<|UV _ b;unfold fS at he;split at he
  ·obtain rfl|he:=xaa.1 he
   ·exact h r<|FS
   ·exact a e he
  ·exact a e he
def zaU:∀(rs:N Rb),RI rs=oD (λr=>r.c.isNone) rs
 |[]=>rfl
 |r::rs=>by
  have a:=zaU rs;unfold oD at a⊢;unfold RI
  cases hc:r.c with
  |none=>simp only[xaM,hc,Option.isNone_none,uL];rw[a]
  |some k=>simp only[xaM,hc,Option.isNone_some,xak,ut];exact a
def au{ts:N Z9}:∀{rg:N (K×K×Dv)}{e:K×K×Dv},e∈aA ts rg->e∈rg/\gH ts e.1=wF
 |(t,i,v)::r,e,h=>by
  unfold aA at h;split at h
  ·next b=>
   obtain rfl|h:=xaa.1 h
   ·exact⟨FS,b⟩
   ·have⟨h1,a⟩:=au h;exact⟨UV _ h1,a⟩
  ·have⟨h1,a⟩:=au h;exact⟨UV _ h1,a⟩
def iH{ts:N Z9}{t i:K}(a:gH ts t=wF):∀{rg:N (K×K×Dv)},gN (aA ts rg) t i=gN rg t i
 |[]=>rfl
 |(c,d,v)::r=>by
  unfold aA;split
  ·unfold gN;rw[iH a]
  ·next b=>
   rw[iH a];conv=>rhs;unfold gN
   rw[Yb<|λe=>by rw[e,a]at b;cases b];rfl
def za6{t i:K}:∀{a b:N (K×K×Dv)},gN (a++b) t i=match gN a t i with|some d=>Z d|none=>gN b t i
 |[],b=>rfl
 |(c,e,v)::a,b=>by
  show(bif E c t && E e i then Z v else gN (a++b) t i)=(match(bif E c t && E e i then Z v else gN a t i)with|some d=>Z d|none=>gN b t i);cases f:E c t && E e i
  ·simp only[Z2];exact za6
  ·simp only[Z0]
theorem ziw{l:N K}{t:K}(h:gH l t=wF):t∈l:=by grind [gH,zO,xeR]
def sa:∀{l:N (K×Dv)}{e:K×Dv}{p:K},e∈l->va e.2=Z p->p∈nG l
 |(i,v)::r,e,p,h,hp=>by
  unfold nG;obtain rfl|h:=xaa.1 h
  ·have hp:va v=Z p:=hp;rw[hp];exact FS
  ·have:=sa h hp;split
   ·exact UV _ this
   ·exact this
def zge{d:V Z9}{rg:N (K×K×Dv)}{e:K×Dv}(h:e∈tM d rg):∃t,d=Z t/\(t,e.1,e.2)∈rg:=by
 unfold tM at h;split at h
 ·next t=>
  have⟨q,b,a⟩:=xfh.1 h;split at a
  ·next c=>
   cases a;rw[<-zO c];exact⟨_,O,b⟩
  ·cases a
 ·cases h
def R1(P:jp)(vs:K->wN)(n0:K)(Γ:N FF)(env0:y8)(cx σ:Sg)(KL:N (Z9×N (K×Dv))):Prop:=∀vs',(∀p,p<n0->vs' p=vs p)->SL P vs' Γ env0 cx σ (KV P vs' KL)
def zay(cx:Sg)(KL:N (Z9×N (K×Dv))):Prop:=∀e∈KL,Xx cx.rg e.1=wF
def rA{KL:N (Z9×N (K×Dv))}{l:N (K×Dv)}{d:V Z9}(hd:wA cx d=wF)(h:zay cx KL):zay cx (LG d l KL):=by
 cases d with
 |none=>exact h
 |some s=>
  intro e he;obtain rfl|he:=xaa.1 he
  ·exact hd
  ·exact h e he
def BO{n0:K}{Γ:N FF}{KL:N (Z9×N (K×Dv))}{l:N (K×Dv)}{o:uS}(hd:wA cx o.dst=wF)(h:R1 P vs n0 Γ env0 cx σ KL):R1 P vs n0 Γ env0 cx (σ.put o.dst l) (LG o.dst l KL):=λvs' hv=>by
 rw[zeD];exact CR hd (h vs' hv) λS v w hv=>hv
def LD(Y:yZ P cf.tt)(hL:ug P cf.tt)(hC:∀s∈cf.cs,xt P s)(hX:En P cf){u:N uS}{fz:N K}{k:Sg->N Rb->N Oi->V R}{Γ:N FF}{n0:K}(hz:∀e∈cx.ob,e.1<n0):∀{os:N uS}{i:K}{σ:Sg}{rs:N Rb}{is:N Oi}{KL:N (Z9×N (K×Dv))},
 zcY cf cx u fz os i σ rs is k=Z r->R1 P vs n0 Γ env0 cx σ KL->zay cx KL->σ.ob=[]->Bd cx σ->(∀r∈rs,r.o<σ.nx)->AF i rs->n0<=σ.nx->
 ∃(Ls:N (N<|K×Dv)) (y:N Oi) (σ':Sg) (x:N Rb),X Ls=X os/\X y=X os/\k σ' x (is++y)=Z r/\RX i rs x/\
  zh2 P u.toArray fr.we fr.Se (MS vs cx.ob++fr.F) Γ env0 vs n0 x ((os.zip Ls).zip y) i KL/\R1 P vs n0 Γ env0 cx σ' (Ae (os.zip Ls) KL)/\zay cx (Ae (os.zip Ls) KL)/\σ'.ob=[]/\Bd cx σ'/\(∀r∈x,r.o<σ'.nx)/\n0<=σ'.nx
 |[],i,σ,rs,is,KL,h,hi,hn,ho,hB,U,H,h0=>⟨[],[],σ,rs,O,O,by rw[xbP];exact h,RX.refl _ _,wS,hi,hn,ho,hB,U,h0⟩
 |o::os,i,σ,rs,is,KL,h,hi,hn,ho,hB,U,H,h0=>by
  unfold zcY at h;have⟨hd,h⟩:=z8 h;have⟨A,b,h,hQ,hF,hR,hJ,hS⟩:=O2 h hB;have hg:∀{vs' env S w},(∀p,p<n0->vs' p=vs p)->zE S Γ w->VR (KV P vs' KL) env0 env S w (xbA u.toArray o)->∀t∈xbA u.toArray o,Lk P vs' env S w cx σ t:=λ{vs' env S w} hv a B t z=>hi vs' hv env S w a t<|XA B t z;cases b
  ·have a1:R1 P vs n0 Γ env0 cx (A.put o.dst [(0,.un)]) (LG o.dst [(0,.un)] KL):=BO hd λvs' hv env S w a t z=>hJ P vs' env S w t<|hi vs' hv env S w a t z;have⟨Ls,y,σ',x,h1,h2,h3,h4,h5,h6,h7,h8,h9,hA,hD⟩:=LD Y hL hC hX hz (os:=os) h a1 (rA hd hn) (hQ.trans ho) (rZ hR λe he p hp=>by obtain rfl:=xad.1 he;cases hp) (λr J=>by show r.o<A.nx;rw[hF];exact U r J) (zmv H) (by show n0<=A.nx;rw[hF];exact h0);have⟨g1,g2,C,g4⟩:=zbg H h4;refine⟨[(0,.un)]::Ls,⟨A.nx,A.nx,[]⟩::y,σ',x,by simp[h1],by simp[h2],by rw[<-h3];simp,g1,⟨⟨(by show n0<=A.nx;rw[hF];exact h0),Nm _,λe he p hp=>(by obtain rfl:=xad.1 he;cases hp),λe he=>(by rw[C]at he;cases he),λvs' hv env F G w hc=>⟨λhw=> ?_,λ_=>⟨g2,C,λS w=>⟨O,wS⟩⟩⟩⟩,h5⟩,h6,h7,h8,h9,hA,hD⟩;exfalso;have⟨S,_,a⟩:=hc.ex;have:=hS P vs' env S w λt z=>hg hv (zE.left a.2) a.1 t z;rw[hw]at this;cases this
  ·have⟨c,h,a2,a3,D,hU⟩:=zbT h hR;have hK:∀vs' env S w t,Lk P vs' env S w cx σ t->Lk P vs' env S w cx c t:=λvs' env S w t z=>hU P vs' env S w t<|hJ P vs' env S w t z;have hV:R1 P vs n0 Γ env0 cx c KL:=λvs' hv env S w a t z=>hK vs' env S w t<|hi vs' hv env S w a t z;have E:c.nx=σ.nx:=a3.trans hF;have hN:∀{vs' env S w},(∀p,p<n0->vs' p=vs p)->zE S Γ w->VR (KV P vs' KL) env0 env S w (xbA u.toArray o)->yW u.toArray env o=wF:=λ{vs' env S w} hv a B=>hS P vs' env S w λt z=>hg hv a B t z;generalize hE:xbA u.toArray o=ts at h hg hN;generalize b5:ey ts c.rg=L at h;generalize b6:fzB fz o.dst=bz at h;cases hM:zkO cf cx ⟨c.nx,c.rg,fS L rs⟩ bz o.dst o.op<;>rw[hM]at h
   ·simp only[OU]at h;have⟨l,h,a4⟩:=zgD (P:=P) (d:=o.dst) (ty:=o.type) (pos:=o.pos) (aft:=o.after) (g:=o.guard) (F:=[]) Y hL hC hX h;have⟨hl,h⟩:=z8 h;have⟨Ls,y,σ',x,h1,h2,h3,h4,h5,h6,h7,h8,h9,hA,hD⟩:=LD Y hL hC hX hz (os:=os) h (BO hd hV) (rA hd hn) (a2.trans<|hQ.trans ho) (rZ D<|Gp hl) (zph λr J=>by show r.o<c.nx;rw[E];exact U r J) (ziY H) (by show n0<=c.nx;rw[E];exact h0);have⟨g1,g2,C,g4⟩:=zel H h4;refine⟨l::Ls,⟨c.nx,c.nx,nG l⟩::y,σ',x,by simp[h1],by simp[h2],by rw[<-h3];simp,g1,⟨⟨(by show n0<=c.nx;rw[E];exact h0),Nm _,λe he p hp=>⟨Gp hl e he p hp,sa he hp⟩,λe he=>(by rw[C]at he;cases he),λvs' hv env F G w hc=>⟨λ_=> ?_,λhw=> ?_⟩⟩,h5⟩,h6,h7,h8,h9,hA,hD⟩
    ·rw[g2]at hc;rw[C];have⟨k1,k2,k3,S,k4,k5,k6,k7,k8⟩:=hc;have hG:MS vs' cx.ob=MS vs cx.ob:=wE λe he=>hv _<|hz e he;refine(a4 env w S vs' k5 (ZE.2 λmf hmf=> ?_) λt z=> ?_).mono ?_
     ·obtain hmf|hmf:=So.1 hmf
      ·obtain⟨e,he,rfl⟩:=xat.1 hmf;exact ZE.1 k7 _<|So.2 (.inl<|xat.2 ⟨e,g4 e he,O⟩)
      ·rw[xbP]at hmf;have hmf:mf∈MS vs' cx.ob:=hmf;rw[hG]at hmf;exact ZE.1 k7 _<|So.2 (.inr<|So.2 (.inl<|So.2 (.inl hmf)))
     ·have B:VR (KV P vs' KL) env0 env S w (xbA u.toArray o):=k8.1;exact hK vs' env S w t<|hg hv (zE.left k8.2) (hE▸B) t<|hE▸So.2 (.inl z)
     ·rintro v w' ⟨hx,hf⟩;refine⟨vs',λ_ _=>O,k1.trans hx,k2,k3,S,k4,λk hk=>k5 k<|xal hx.size hk,k6,yL.keep hx.to (λm hm i hi=>hx.block i (yL.lt k7 m hm i hi) wS) k7,zE.append (kX.2 λf a5=> ?_)<|zE.keep hx.to k8.2⟩;obtain⟨e,he,rfl⟩:=xat.1 a5;exact hf e he
    ·exfalso;have⟨S,_,a⟩:=hc.ex;have B:VR (KV P vs' KL) env0 env S w (xbA u.toArray o):=a.1;have:=hN hv (zE.left a.2)<|hE▸B;rw[hw]at this;cases this
   ·simp only[OU]at h;have⟨τ,h,a9,hm⟩:=zkp (P:=P) (cx:=⟨0,[],cx.ob⟩) (d:=o.dst) (ty:=o.type) (pos:=o.pos) (aft:=o.after) (g:=o.guard) Y hL hC hX (by cases o.dst<;>rfl) h;have⟨j,M⟩:∃j,j=znH bz o.dst τ:=⟨_,O⟩;simp only at h;rw[<-M]at h;have hW:j.nx=τ.nx:=by rw[M];cases bz<;>first|rfl|exact PJ _ _
    have hP:∀{Q:Fr}{vs2:K->wN}{env w},gf P Q ⟨0,[],cx.ob⟩ τ vs2 env w->gf P Q ⟨0,[],cx.ob⟩ j vs2 env w:=λ{Q vs2 env w} hq=>by rw[M];cases bz<;>first|exact hq|exact lH _ hq
    unfold zkq at h;have⟨hl,h⟩:=z8 h;rw[xab]at hl;have⟨hl,hH⟩:=hl;have hH:∀e∈j.ob,e.1<j.nx:=λe he=>by
     have:=xaN.1 hH e he;have:=xbJ this;lia
    have T:c.nx<=j.nx:=by rw[hW];exact a9
    have b0:R1 P vs n0 Γ env0 cx ⟨j.nx,vv c.rg o.dst<|tM o.dst j.rg,[]⟩ (LG o.dst (tM o.dst j.rg) KL):=λvs' hv=>BO (l:=tM o.dst j.rg) hd hV vs' hv;have b1:Bd cx ⟨j.nx,vv c.rg o.dst<|tM o.dst j.rg,[]⟩:=by
     refine⟨λe he=>wR he IR,λe he=>xao (D.o2 e he) T,λe he p hp=> ?_,λe he p hp=>xao (D.r2 e he p hp) T⟩;have he:e∈vv c.rg o.dst (tM o.dst j.rg):=he;unfold vv at he;split at he
     ·obtain he|he:=So.1 he
      ·obtain⟨e',b2,rfl⟩:=xat.1 he;exact Gp hl e' b2 p hp
      ·exact xao (D.r1 e (xcj.1 he).1 p hp) T
     ·exact xao (D.r1 e he p hp) T
    have⟨Ls,y,σ',x,h1,h2,h3,h4,h5,h6,h7,h8,h9,hA,hD⟩:=LD Y hL hC hX hz (os:=os) h b0 (rA hd hn) O b1 (λq hq=>by
     obtain hq|hq:=So.1 hq
     ·exact xao (zn1 (n:=c.nx) (λr J=>by rw[E];exact U r J) q hq) T
     ·obtain⟨e,he,rfl⟩:=xat.1 hq;exact hH e he) (zji (zjk H)) (xal (by rw[E];exact h0) T)
    have⟨g1,g2,C,g4⟩:=zew H h4;refine⟨tM o.dst j.rg::Ls,⟨c.nx,j.nx,nG<|tM o.dst j.rg⟩::y,σ',x,by simp[h1],by simp[h2],by rw[<-h3];simp,g1,⟨⟨(by show n0<=c.nx;rw[E];exact h0),T,λe he p hp=>⟨Gp hl e he p hp,sa he hp⟩,λe he=>hH e (by rw[C]at he;exact he),λvs' hv env F G w hc=>⟨λ_=> ?_,λhw=> ?_⟩⟩,h5⟩,h6,h7,h8,h9,hA,hD⟩
    ·rw[g2,g4,xbP]at hc;rw[C,g4];have hG:∀{vs2:K->wN},(∀p,p<n0->vs2 p=vs p)->MS vs2 cx.ob=MS vs cx.ob:=λhv=>wE λe he=>hv _<|hz e he;have hY:gf P ⟨fr.we,fr.Se,fr.F++F,Γ++G⟩ ⟨0,[],cx.ob⟩ ⟨c.nx,dd<|aA ts<|c.rg++cx.rg,fS L rs⟩ vs' env w:=by
      refine⟨⟨λe he=>zhg (λr J=>by rw[E];exact U r J) e he,D.o2,λe he p hp=> ?_,λe he=>wR he IR⟩,?_⟩
      ·have:=(au<|b9 he).1;obtain h|h:=So.1 this
       ·exact D.r1 e h p hp
       ·exact D.r2 e h p hp
      ·show St fr.we fr.Se (MS vs' (fS L rs)++(MS vs' cx.ob++(fr.F++F))) (RS P vs' env (dd<|aA ts<|c.rg++cx.rg)++([]++(Γ++G))) w;rw[hG hv,<-xaf<|MS vs cx.ob];refine hc.weak λS w a=>zE.append (kX.2 λf hf=> ?_) a.2;obtain⟨e,he,rfl⟩:=xat.1 hf;have B:VR (KV P vs' KL) env0 env S w (xbA u.toArray o):=a.1;have hZ:=(au<|b9 he).2;have h':=HK he;rw[iH hZ,za6]at h';exact hK vs' env S w e.1 (hg hv (zE.left a.2) (hE▸B) e.1<|ziw hZ) e.2.1 e.2.2 h'
     refine(hm _ vs' env w hY).mono ?_;rintro v w' ⟨vs2,a0,b3⟩;have⟨_,hI⟩:=hP b3;refine⟨vs2,a0,?_⟩;have hI:St fr.we fr.Se (MS vs2 j.ob++(MS vs2 cx.ob++(fr.F++F))) (RS P vs2 (put env o.dst v) j.rg++([]++(Γ++G))) w':=hI;rw[hG (vs2:=vs2)<|λp hp=>(a0 p<|xao hp (by show n0<=c.nx;rw[E];exact h0)).trans<|hv p hp,<-xaf<|MS vs cx.ob]at hI;refine St.weak (show St fr.we fr.Se (MS vs2 j.ob++(MS vs' []++(MS vs cx.ob++fr.F++F))) _ w' from hI) λS w a=>zE.append (kX.2 λf hf=> ?_)<|zE.right a;obtain⟨e,he,rfl⟩:=xat.1 hf;have⟨t,z,b4⟩:=zge he;have:=KP (zE.left a) b4;rw[z,Df]at this;exact this
    ·exfalso;have⟨S,_,a⟩:=hc.ex;have B:VR (KV P vs' KL) env0 env S w (xbA u.toArray o):=a.1;have:=hN hv (zE.left a.2)<|hE▸B;rw[hw]at this;cases this
def zmu(hm:P.follows .mixedOrders=wF)(L:yZ P cf.tt)(M:ug P cf.tt)(T:∀s∈cf.cs,xt P s)(U:En P cf){N:Nd}{id m:K}{l:xS uS}{Q:Qs}{k:Sg->V R}
 (hK:∀σ',k σ'=Z r->∀b w,nU cx env b->Yn P fr cx σ' b w->Q .normal b w) (Y:(l.all λo=>q8 N.n o.dst)=wF) (hc:Wv l m=wF) (h:zk4 cf cx id l m σ k=Z r) (hR:Yn P fr cx σ env w):Wp P N (.region id l.toArray wF) Q env w:=by
 unfold zk4 at h;simp only at h;have⟨hB,vs,hu⟩:=hR;have⟨u,hw⟩:=lH (ey (zmq cf id) σ.rg) ⟨hB,hu⟩;generalize C7 σ (ey (zmq cf id) σ.rg)=σ0 at h u hw;have hO:m<=X l:=(uQ hc).1
 have⟨Ls,is,σ',rs,h1,h2,B,h4,h5,hy,hz,hP,hp,hD,hQ⟩:=LD (P:=P) (fr:=fr) (vs:=vs) (env0:=env) (Γ:=GS P vs env fr cx σ0) (n0:=σ0.nx) (KL:=[]) L M T U u.o2 h
  (λvs' hv b S w' p t v i dv hd=>by
   have v:b t=env t:=v;rw[v];have C:get cx σ0 t i=Z dv:=hd;have:=Xz p t i dv C;have hE:wg P vs' dv (env t) i=wg P vs dv (env t) i:=by
    unfold wg;simp only[fJ (P:=P) (vs':=vs') (vs:=vs) (d:=dv) λo D=>hv o (by
     obtain hm|hm:=HF C
     ·exact u.r1 _ hm o D
     ·exact u.r2 _ hm o D)]
   rw[hE];exact this) (λ_ a=>wR a IR) O ⟨λ_ a=>wR a IR,u.o2,u.r1,u.r2⟩ (λq y=>by
    obtain⟨e,a,rfl⟩:=xat.1 y;exact u.o1 e a) (λq y=>by
    obtain⟨e,a,rfl⟩:=xat.1 y;exact⟨λj z=>(by cases z),λj z=>(by cases z),λj z=>wR z IR⟩) (Nm _)
 simp only[xby]at B;have⟨hx,B⟩:=z8 B;have hF:=zeS h4;refine zl6 (we:=fr.we) (Se:=fr.Se) (ms:=OS vs fr cx σ0.ob) (mE:=MS vs cx.ob++fr.F) m Ls is rs (σ'.rg.map (·.1)++cx.rg.map (·.1)) vs σ0.nx hm hc (by rw[h1,xax];lia) (by rw[h2,xax];lia) hx (by rw[hF]) Y h5 ?_ w hw;intro g w1 vs' H hl;have hn:RI rs=oD (λr=>r.c.isNone) rs:=zaU rs;have hA:∀e∈RI rs,e.1<σ'.nx:=λe a=>by
  rw[hn]at a;have⟨q,y,a⟩:=xfh.1 a;split at a
  ·cases a;exact hD q y
  ·cases a
 have⟨S1,_,hG⟩:=hl.ex;have hH:nU cx env g:=λe0 hi=>by
  have h1:=XA hG.1 e0.1<|So.2 (.inr<|xat.2 ⟨e0,hi,O⟩);unfold Yx at h1;have A:(KV P vs'<|Ae ((l.take m).zip Ls) []).find? (λx=>E x.1 e0.1)=wL:=by
   rw[List.find?_eq_none];intro e a J;obtain⟨e1,hI,rfl⟩:=xat.1 a;have:=hz e1 hI;simp only[Xx,xaN]at this;have:=this e0 hi;rw[zO J]at this;simp at this
  rw[A]at h1;exact h1
 refine C0 (P:=P) (fr:=fr) L M T U hK hH (zaX Y m) B ⟨⟨hA,hp.o2,λe a=>hp.r1 e<|b9 a,hp.r2⟩,vs',?_⟩;show St fr.we fr.Se (MS vs' (RI rs)++(MS vs' cx.ob++fr.F)) (RS P vs' g (dd σ'.rg)++(RS P vs' g cx.rg++fr.G)) w1;rw[hn,wE (ob:=cx.ob) λe a=>H _<|u.o2 e a];refine hl.weak λS w2 p=> ?_;have hk:=XA p.1;have hJ:∀t∈cx.rg.map (·.1),g t=env t:=λt v=>by
  have h1:=hk t<|So.2 (.inr v);unfold Yx at h1;have A:(KV P vs'<|Ae ((l.take m).zip Ls) []).find? (λx=>E x.1 t)=wL:=by
   rw[List.find?_eq_none];intro e a J;obtain⟨e0,hi,rfl⟩:=xat.1 a;have:=hz e0 hi;obtain⟨e',hM,rfl⟩:=xat.1 v;simp only[Xx,xaN]at this;have:=this e' hM;rw[zO J]at this;simp at this
  rw[A]at h1;exact h1
 refine zE.append ?_<|zE.append ?_<|zE.right<|zE.right p.2
 ·refine kX.2 λf A=> ?_;obtain⟨e,a,rfl⟩:=xat.1 A;have C:get cx σ' e.1 e.2.1=Z e.2.2:=by unfold get;rw[HK a]
  exact hy vs' H g S w2 p.2 e.1 (hk e.1<|So.2 (.inl<|xat.2 ⟨e,b9 a,O⟩)) _ _ C
 ·rw[jD (vs:=vs) (env:=env) (λe a o D=>H o<|u.r2 e a o D) λe a=>hJ e.1<|xat.2 ⟨e,a,O⟩];exact zE.left<|zE.right p.2
def zgf(H:P.follows .mixedOrders=wF)(u:yZ P cf.tt)(v:ug P cf.tt)(y:∀s∈cf.cs,xt P s)(z:En P cf){N:Nd}{id:wr}{l:xS uS}{g:wW}{Q:Qs}{k:Sg->V R}
 (C:∀σ',k σ'=Z r->∀c w,nU cx env c->Yn P fr cx σ' c w->Q .normal c w) (A:(l.all λo=>q8 N.n o.dst)=wF) (h:zmJ cf cx id l g σ k=Z r) (D:Yn P fr cx σ env w):Wp P N (.region id l.toArray g) Q env w:=by
 unfold zmJ at h;cases g
 ·exact λa h1 U Y=>wpIn_region_lit<|C0 u v y z C nU.refl A h D a h1 U Y
 ·simp only[OU]at h;have⟨hc,h⟩:=z8 h;generalize SB l (X l) (X l)=m at hc h;cases hw:znI cf id<;>rw[hw]at h
  case true=>exact zmu H u v y z C A hc h D
  simp only at h;have hi:=OV (cf:=cf) (l.take m) [] D;generalize zjO cf cx (l.take m) [] σ=σ0 at h hi;have⟨hB,vs,hr⟩:=hi;have hz:m<=X l:=(uQ hc).1
  have⟨q,σ',hl,hj,h,hn,hu,hv,B⟩:=zad (P:=P) (fr:=fr) (vs:=vs) (env0:=env) (σ0:=σ0) (Γ:=GS P vs env fr cx σ0) (K:=[]) u v y z h
   (λc S w' j t p i dv hd=>by
    have p:c t=env t:=p;rw[p];exact Xz j t i dv hd) (λ_ d=>wR d IR) O hB
  refine R5 (we:=fr.we) (Se:=fr.Se) (ms:=OS vs fr cx σ0.ob) (Γ:=GS P vs env fr cx σ0) m q (σ'.rg.map (·.1)++cx.rg.map (·.1)) H hc (by rw[hl,xax];lia) A hj ?_ w hr;intro S w1 b hS j hh;have J:=XA hh;have M:∀t∈cx.rg.map (·.1),b t=env t:=λt p=>by
   have h1:=J t<|So.2 (.inr p);unfold Yx at h1;have F:(OQ ((l.take m).zip q) []).find? (λx=>E x.1 t)=wL:=by
    rw[List.find?_eq_none];intro e d hb;have:=hu e d;obtain⟨e',hx,rfl⟩:=xat.1 p;simp only[Xx,xaN]at this;have:=this e' hx;rw[zO hb]at this;simp at this
   rw[F]at h1;exact h1
  have hd:zE S (RS P vs b<|dd σ'.rg) w1:=kX.2 λf F=>by
   obtain⟨e,d,rfl⟩:=xat.1 F;have hg:get cx σ' e.1 e.2.1=Z e.2.2:=by unfold get;rw[HK d]
   exact hn b S w1 j e.1 (J e.1<|So.2 (.inl<|xat.2 ⟨e,b9 d,O⟩)) _ _ hg
  have hy:zE S (RS P vs b cx.rg) w1:=by
   rw[jD (env:=env) (λ_ _ _ _=>O) λe d=>M e.1<|xat.2 ⟨e,d,O⟩];exact zE.left<|zE.right j
  refine⟨GS P vs b fr cx ⟨σ'.nx,dd σ'.rg,σ'.ob⟩,(σ'.rg.map (·.1)++cx.rg.map (·.1)).map λt=>(t,b t),zE.append hd<|zE.append hy<|zE.right<|zE.right j,De _,λrest w2 hp=> ?_⟩;refine C0 (P:=P) (fr:=fr) u v y z C (λe0 T=>(IF<|So.2 (.inr<|xat.2 ⟨e0,T,O⟩)).trans<|M e0.1<|xat.2 ⟨e0,T,O⟩) (zaX A m) h ⟨⟨B.o1,B.o2,λe d=>B.r1 e<|b9 d,B.r2⟩,vs,?_⟩;have e1:RS P vs (L ((σ'.rg.map (·.1)++cx.rg.map (·.1)).map λt=>(t,b t)) rest) (dd σ'.rg)=RS P vs b (dd σ'.rg):=jD (λ_ _ _ _=>O) λe d=>IF<|So.2 (.inl<|xat.2 ⟨e,b9 d,O⟩);have e2:RS P vs (L ((σ'.rg.map (·.1)++cx.rg.map (·.1)).map λt=>(t,b t)) rest) cx.rg=RS P vs b cx.rg:=jD (λ_ _ _ _=>O) λe d=>IF<|So.2 (.inr<|xat.2 ⟨e,d,O⟩);show St _ _ (OS vs fr cx σ'.ob) (RS P vs _ (dd σ'.rg)++(RS P vs _ cx.rg++fr.G)) w2;rw[e1,e2,hv];exact hp
end
end
section
section
variable{P:jp}{cf:Cf}{fr:Fr}{cx kp σ:Sg}{vs vs':wr->wN}{env env0:y8}{w:wP}{R:Type}{r:R}
def zig(u:wN)(r:K):V wN:=(xM u)[r]?
def tfF:(f:TF)->f.D->(K->wN)->wN->wN->FF
 |.d t,x,_,_,v=>fV t.rep x v
 |.q t,x,_,_,v=>fP t.rep x v
 |.own _ _,_,_,u,v=>fY<|v=u
 |.var _ _,_,_,u,v=>fY (v=u/\∃b,v=.pointer (Z ⟨b,0,wL⟩))
 |.mat _ _ _,_,_,u,v=>fY<|v=yA u
 |.matv _ _ _,x,_,u,v=>fY<|MI (yA u) x.2.1 x.2.2 v
 |.row j,r,U,_,v=>fY<|zig (U j) r=Z v
 |.view j,r,U,_,v=>fY<|MI (yA<|U j) r.1 r.2 v
 |.bo _ _ _,_,_,u,v=>fY<|v=yA u
 |.vr _ _ _ _ _ _,_,_,u,v=>fY<|v=yA u
def SR:(f:TF)->f.D->wN->N MF
 |.own t E,xs,u=>[mO t.rep E u xs]
 |.var t E,z,u=>[mP t.rep.c E u z]
 |.mat t E E1,x,u=>[th t.rep E E1 u x.1 x.2]
 |.matv t E E1,x,u=>[th t.rep E E1 u x.1.1 x.1.2]
 |.bo t E a,xs,u=>[mBo t.rep E a u xs]
 |.vr t E s E1 n i,x,u=>[mVr (vrP s<|xh n t i) t.rep E (YS<|xh n t i) (uh s (xh n t i) []) s.rep E1 u x.1 x.2]
 |_,_,_=>[]
def dsF(U:K->wN)(env:y8):(l:N (K×TF))->Qp l->K->N FF
 |[],_,_=>[]
 |[a],x,i=>[tfF a.2 x U (U i)<|env a.1]
 |a::b::r,x,i=>tfF a.2 x.1 U (U i) (env a.1)::dsF U env (b::r) x.2 (i+1)
def VF(U:K->wN):(l:N (K×TF))->Qp l->K->N MF
 |[],_,_=>[]
 |[a],x,i=>SR a.2 x<|U i
 |a::b::r,x,i=>SR a.2 x.1 (U i)++VF U (b::r) x.2 (i+1)
def Xq(f:TF)(dv:V Dv)(vs:K->wN)(v:wN):wN:=match f,dv with
 |.mat _ _ _,Z .nil=>K9 v []
 |.mat _ _ _,Z (.mw o)=>vs o
 |.matv _ _ _,Z (.mv o _ _)=>vs o
 |.bo _ _ _,Z (.mw o)=>vs o
 |.vr _ _ _ _ _ _,Z (.mw o)=>vs o
 |_,_=>v
def KX(cx σ:Sg)(ds:N (K×TF))(vs:K->wN)(env:y8)(j:K):wN:=match ds[j]? with
 |some (t,f)=>Xq f (get cx σ t 0) vs<|env t
 |none=>uP
def St.mid{we:wP}{Se:K->Prop}{A B:N MF}{m:MF}{Γ:N FF}{w:wP}(h:St we Se (A++m::B) Γ w):St we Se (m::(A++B)) Γ w:=St.perm h xcn
def HZ:∀{os l:N K},C2 os l=wF->∀o∈l,gH os o=I
 |os,o::r,h,p,hp=>by
  simp only[C2,xab,xcV]at h;obtain rfl|hp:=xaa.1 hp
  ·exact h.1
  ·exact HZ h.2 p hp
def HT{ds:N (K×TF)}{t:K}{f:TF}{k:f.D->N K->V R}(h:dU cx σ ds t f k=Z r):∃x os,k x os=Z r/\(∀j,C1 f=Z j->j<X ds)/\
 (∀(P:jp) vs env S w,(∀t,Lk P vs env S w cx σ t)->(tfF f x (KX cx σ ds vs env) (Xq f (get cx σ t 0) vs<|env t)<|env t).p S w)/\
 (∀(P:jp) vs (fr:Fr) env (A:N MF) (Γ:N FF) w (g:N K),(∀S w,zE S Γ w->Lk P vs env S w cx σ t)->(∀o∈os,gH g o=I)->St fr.we fr.Se (A++OS vs fr cx (vM σ.ob g)) Γ w->
  St fr.we fr.Se (SR f x (Xq f (get cx σ t 0) vs<|env t)++(A++OS vs fr cx (vM σ.ob<|os++g))) Γ w):=by
 have M:∀{f:TF},(∀j,C1 f≠Z j)->∀j,C1 f=Z j->j<X ds:=λh j e=>wR e<|h j
 cases f with
 |d s=>
  have⟨y,h,hy⟩:=zeB h;refine⟨y,[],h,M (λj e=>by cases e),λP vs env S w hl=> ?_,λP vs fr env A Γ w g _ _ h=>h⟩
  cases a:get cx σ t 0 with
  |none=>rename_i h0;simp only[dU]at h0;rw[a]at h0;cases h0
  |some v=>exact hy P vs S w v _ a<|hl t 0 v a
 |q s=>
  simp only[dU]at h;split at h
  ·next Q x a=>
   have⟨e,h⟩:=yj h;subst e;exact⟨_,[],h,M (λj e=>by cases e),λP vs env S w hl=>hl t 0 _ a,λP vs fr env A Γ w g _ _ h=>h⟩
  ·cases h
 |own s E=>
  simp only[dU]at h;split at h
  ·next o a=>
   split at h
   ·next Q Y xs H=>
    have⟨l,h1⟩:=z8 h;have l:=zO l;subst l;have⟨e,C⟩:=yj h1;cases e;refine⟨_,[o],C,M (λj e=>by cases e),λ_ _ _ _ _ _=>by simp only[a,Xq];exact O,λP vs fr env A Γ w g hl hn m=> ?_⟩;have hp:=jb (vs:=vs) (fr:=fr) (cx:=cx)<|(qY<|hn o<|FS).trans H;have B:=St.mid<|St.perm m<|xbL _ hp;have⟨S,_,F⟩:=m.ex;have hv:env t=vs o:=hl S w F 0 _ a;simp only[a,Xq];show St _ _ (mO s.rep E (env t) _::(A++_)) _ _;rw[hv];exact B
   ·cases h
  ·next a=>
   refine⟨_,[],h,M (λj e=>by cases e),λ_ _ _ _ _ _=>by simp only[a,Xq];exact O,λP vs fr env A Γ w g hl hn m=> ?_⟩;have⟨S,_,F⟩:=m.ex;have hv:env t=.slice wL 0 0:=hl S w F 0 _ a;simp only[a,Xq];show St _ _ (mO s.rep E (env t) _::(A++_)) _ _;rw[hv];exact m.nilO
  ·cases h
 |var s E=>
  simp only[dU]at h;split at h
  ·next o s0 a=>
   split at h
   ·next Q Y z H=>
    have⟨l,h1⟩:=z8 h;have l:=zO l;subst l;have⟨e,C⟩:=yj h1;subst e;refine⟨_,[o],C,M (λj e=>by cases e),λP vs env S w hl=> ?_,λP vs fr env A Γ w g hl hn m=> ?_⟩
    ·have⟨B,b,h4⟩:=hl t 0 _ a;simp only[a,Xq];exact⟨O,b,B.trans h4⟩
    ·have hp:=jb (vs:=vs) (fr:=fr) (cx:=cx)<|(qY<|hn o<|FS).trans H;have B:=St.mid<|St.perm m<|xbL _ hp;have⟨S,_,F⟩:=m.ex;have hv:env t=vs o:=(hl S w F 0 _ a).1;simp only[a,Xq];show St _ _ (mP Q.rep.c E (env t) _::(A++_)) _ _;rw[hv];exact B
   ·cases h
  ·cases h
 |mat s E E1=>
  simp only[dU]at h;split at h
  ·next o a=>
   split at h
   ·next Q Y F' xss ix H=>
    have⟨l,h1⟩:=z8 h;rw[xab]at l;have hc:=zO l.1;have hd:=zO l.2;subst hc;subst hd;have⟨e,C⟩:=yj h1;cases e;refine⟨_,[o],C,M (λj e=>by cases e),λP vs env S w hl=> ?_,λP vs fr env A Γ w g hl hn m=> ?_⟩
    ·simp only[a,Xq];exact hl t 0 _ a
    ·have hp:=jb (vs:=vs) (fr:=fr) (cx:=cx)<|(qY<|hn o<|FS).trans H;simp only[a,Xq];have B:=St.mid<|St.perm m<|xbL _ hp;exact B
   ·cases h
  ·next a=>
   refine⟨_,[],h,M (λj e=>by cases e),λP vs env S w hl=>by simp only[a,Xq];exact O,λP vs fr env A Γ w g hl hn m=> ?_⟩;have⟨S,_,F⟩:=m.ex;have hv:env t=.slice wL 0 0:=hl S w F 0 _ a;simp only[a,Xq];refine O4 (u:=K9 (env t) []) O ?_;show St _ _ (mO (ZM []) E (env t) []::(A++_)) _ _;rw[hv];exact m.nilO
  ·cases h
 |matv s E E1=>
  simp only[dU]at h;split at h
  ·next o lo n a=>
   split at h
   ·next Q Y F' xss ix H=>
    have⟨l,h1⟩:=z8 h;rw[xab]at l;have hc:=zO l.1;have hd:=zO l.2;subst hc;subst hd;have⟨e,C⟩:=yj h1;cases e;refine⟨_,[o],C,M (λj e=>by cases e),λP vs env S w hl=> ?_,λP vs fr env A Γ w g hl hn m=> ?_⟩
    ·simp only[a,Xq];exact hl t 0 _ a
    ·have hp:=jb (vs:=vs) (fr:=fr) (cx:=cx)<|(qY<|hn o<|FS).trans H;simp only[a,Xq];have B:=St.mid<|St.perm m<|xbL _ hp;exact B
   ·cases h
  ·cases h
 |row j=>
  simp only[dU]at h
  have J:∀(o G p:K),j<X ds->get cx σ t 0=Z (.rw o p)->xaj o G=wF->k p []=Z r->(∀vs env,KX cx σ ds vs env j=vs G)->∃(x:K) (os:N K),k x os=Z r/\(∀i,C1 (TF.row j)=Z i->i<X ds)/\
   (∀(P:jp) vs env S w,(∀t,Lk P vs env S w cx σ t)->(tfF (.row j) x (KX cx σ ds vs env) (Xq (.row j) (get cx σ t 0) vs<|env t)<|env t).p S w)/\
   (∀(P:jp) vs (fr:Fr) env (A:N MF) (Γ:N FF) w (g:N K),(∀S w,zE S Γ w->Lk P vs env S w cx σ t)->(∀o∈os,gH g o=I)->St fr.we fr.Se (A++OS vs fr cx (vM σ.ob g)) Γ w->
    St fr.we fr.Se (SR (.row j) x (Xq (.row j) (get cx σ t 0) vs<|env t)++(A++OS vs fr cx (vM σ.ob<|os++g))) Γ w):=by
   intro o G p he a C B h4;refine⟨p,[],B,λi e=>by cases e;exact he,λP vs env S w hl=> ?_,λP vs fr env A Γ w g _ _ h=>h⟩;have h5:(xM<|vs o)[p]? =Z (env t):=hl t 0 _ a;rw[zO C]at h5;show zig (KX cx σ ds vs env j) p=Z (env t);rw[h4];exact h5
  split at h
  ·next o p s _ _ _ a L=>
   split at h
   ·next G T=>
    have⟨U,h⟩:=z8 h;exact J o G p (xaq.1 L).1 a U h λvs env=>by unfold KX;rw[L];simp only[T,Xq]
   ·cases h
  ·next o p s _ _ _ a L=>
   split at h
   ·next G lo n T=>
    have⟨U,h⟩:=z8 h;exact J o G p (xaq.1 L).1 a U h λvs env=>by unfold KX;rw[L];simp only[T,Xq]
   ·cases h
  ·cases h
 |view j=>
  simp only[dU]at h
  have J:∀(o G p q:K),j<X ds->get cx σ t 0=Z (.mv o p q)->xaj o G=wF->k (p,q) []=Z r->(∀vs env,KX cx σ ds vs env j=vs G)->∃(x:K×K) (os:N K),k x os=Z r/\(∀i,C1 (TF.view j)=Z i->i<X ds)/\
   (∀(P:jp) vs env S w,(∀t,Lk P vs env S w cx σ t)->(tfF (.view j) x (KX cx σ ds vs env) (Xq (.view j) (get cx σ t 0) vs<|env t)<|env t).p S w)/\
   (∀(P:jp) vs (fr:Fr) env (A:N MF) (Γ:N FF) w (g:N K),(∀S w,zE S Γ w->Lk P vs env S w cx σ t)->(∀o∈os,gH g o=I)->St fr.we fr.Se (A++OS vs fr cx (vM σ.ob g)) Γ w->
    St fr.we fr.Se (SR (.view j) x (Xq (.view j) (get cx σ t 0) vs<|env t)++(A++OS vs fr cx (vM σ.ob<|os++g))) Γ w):=by
   intro o G p q he a C B h4;refine⟨(p,q),[],B,λi e=>by cases e;exact he,λP vs env S w hl=> ?_,λP vs fr env A Γ w g _ _ h=>h⟩;have h5:MI (yA<|vs o) p q (env t):=hl t 0 _ a;rw[zO C]at h5;show MI (yA<|KX cx σ ds vs env j) p q (env t);rw[h4];exact h5
  split at h
  ·next o p q s _ _ _ a L=>
   split at h
   ·next G T=>
    have⟨U,h⟩:=z8 h;exact J o G p q (xaq.1 L).1 a U h λvs env=>by unfold KX;rw[L];simp only[T,Xq]
   ·cases h
  ·next o p q s _ _ _ a L=>
   split at h
   ·next G lo n T=>
    have⟨U,h⟩:=z8 h;exact J o G p q (xaq.1 L).1 a U h λvs env=>by unfold KX;rw[L];simp only[T,Xq]
   ·cases h
  ·cases h
 |bo s E E0=>
  simp only[dU]at h;split at h
  ·next o a=>
   split at h
   ·next Q Y F' xs H=>
    have⟨l,h1⟩:=z8 h;rw[xab]at l;have hc:=zO l.1;have hd:=zO l.2;subst hc;subst hd;have⟨e,C⟩:=yj h1;cases e;refine⟨_,[o],C,M (λj e=>by cases e),λP vs env S w hl=> ?_,λP vs fr env A Γ w g hl hn m=> ?_⟩
    ·simp only[a,Xq];exact hl t 0 _ a
    ·have hp:=jb (vs:=vs) (fr:=fr) (cx:=cx)<|(qY<|hn o<|FS).trans H;simp only[a,Xq];have B:=St.mid<|St.perm m<|xbL _ hp;exact B
   ·cases h
  ·cases h
 |vr s E s2 E1 n i=>
  simp only[dU]at h;split at h
  ·next o a=>
   split at h
   ·next Q Y a0 F' n' i' z xs H=>
    have⟨l,h1⟩:=z8 h;rw[xab,xab,xab]at l;have⟨e1,C⟩:=yj h1;have⟨e2,B⟩:=yj C;have hc:=zO l.1;have hd:=zO l.2.1;have hf:=zO l.2.2.1;have hi:=zO l.2.2.2;subst hc;subst hd;subst hf;subst hi;subst e1;cases e2;refine⟨_,[o],B,M (λj e=>by cases e),λP vs env S w hl=> ?_,λP vs fr env A Γ w g hl hn m=> ?_⟩
    ·simp only[a,Xq];exact hl t 0 _ a
    ·have hp:=jb (vs:=vs) (fr:=fr) (cx:=cx)<|(qY<|hn o<|FS).trans H;simp only[a,Xq];have B:=St.mid<|St.perm m<|xbL _ hp;exact B
   ·cases h
  ·cases h
def Ba{ds:N (K×TF)}{i:K}{t:K}{f:TF}{env:y8}(h:ds[i]? =Z (t,f)):KX cx σ ds vs env i=Xq f (get cx σ t 0) vs (env t):=by unfold KX;rw[h]
def zko{ds:N (K×TF)}:∀{l:N (K×TF)}{i:K}{k:Qp l->N K->V R},(∀j a,l[j]? =Z a->ds[i+j]? =Z a)->gat cx σ ds l k=Z r->∃x os,k x os=Z r/\(∀a∈l,∀j,C1 a.2=Z j->j<X ds)/\
 (∀(P:jp) vs env S w,(∀t,Lk P vs env S w cx σ t)->zE S (dsF (KX cx σ ds vs env) env l x i) w)/\
 (∀(P:jp) vs (fr:Fr) env (Γ:N FF) w,(∀S w,zE S Γ w->∀t,Lk P vs env S w cx σ t)->St fr.we fr.Se (OS vs fr cx σ.ob) Γ w->St fr.we fr.Se (VF (KX cx σ ds vs env) l x i++OS vs fr cx (vM σ.ob os)) Γ w)
 |[],i,k,_,h=>⟨(),[],h,λ_ h=>wR h IR,λ_ _ _ _ _ _=>wS,λ_ _ _ _ _ _ _ h=>h⟩
 |[a],i,k,hd,h=>by
  have⟨x,os,h1,h0,g,m⟩:=HT (h:dU cx σ ds a.1 a.2 k=Z r);have f:ds[i]? =Z (a.1,a.2):=hd 0 a O;refine⟨x,os,h1,λb q j e=> ?_,λP vs env S w hl=>⟨?_,wS⟩,λP vs fr env Γ w hl n=> ?_⟩
  ·obtain rfl:=xad.1 q;exact h0 j e
  ·rw[Ba f];exact g P vs env S w hl
  ·have:=m P vs fr env [] Γ w [] (λS w d=>hl S w d a.1) (λ_ _=>O) n;rw[xbP]at this;show St _ _ (SR a.2 x (KX cx σ ds vs env i)++_) _ _;rw[Ba f];exact this
 |a::b::l,i,k,hd,h=>by
  have⟨x,o,h1,h0,g,m⟩:=HT (h:dU cx σ ds a.1 a.2 _=Z r);have⟨y,os,p,s,u,v⟩:=zko (l:=b::l) (i:=i+1) (λj c z=>by
   have:=hd (j+1) c (by simpa using z);rw[(W:i+1+j=i+(j+1))];exact this) h1
  have⟨hn,p⟩:=z8 p;have f:ds[i]? =Z (a.1,a.2):=hd 0 a O;refine⟨(x,y),o++os,p,λc hc j e=> ?_,λP vs env S w hl=>⟨?_,u P vs env S w hl⟩,λP vs fr env Γ w hl n=> ?_⟩
  ·obtain rfl|hc:=xaa.1 hc
   ·exact h0 j e
   ·exact s c hc j e
  ·rw[Ba f];exact g P vs env S w hl
  ·have:=m P vs fr env (VF (KX cx σ ds vs env) (b::l) y<|i+1) Γ w os (λS w d=>hl S w d a.1) (HZ hn)<|v P vs fr env Γ w hl n;show St _ _ ((SR a.2 x (KX cx σ ds vs env i)++VF (KX cx σ ds vs env) (b::l) y (i+1))++_) _ _;rw[Ba f,xaf];exact this
def nvs(vs:K->wN)(U:K->wN)(n:K):K->wN:=λk=>if k<n then vs k else U (k-n)
def TB{n0:K}:∀{l:N (K×TF)}{x:Qp l}{o:K},∀e∈(gn n0 l x o).2,o<=e.1/\e.1<o+X l
 |[],_,_,e,a=>wR a IR
 |[(t,f)],x,o,e,a=>by
  cases f<;>simp only[gn,Au]at a<;>first|exact wR a IR|(obtain rfl:=xad.1 a;exact⟨Nm _,xbS _⟩)
 |(t,f)::b::l,x,o,e,a=>by
  have c:∀e∈(gn n0 (b::l) x.2<|o+1).2,o<=e.1/\e.1<o+X ((t,f)::b::l):=λe a=>by
   have:=TB e a;simp only[xau]at this⊢;lia
  cases f<;>simp only[gn,Au]at a<;>first
   |exact c e a
   |exact(xaa.1 a).elim (λa=>by subst a;exact⟨Nm _,by simp only[xau];lia⟩)<|λa=>c e a
def O8{n0 o p n:K}{f:TF}{x:f.D}(hn:∀j,C1 f=Z j->j<n)(h:va (Au n0 o f x).1=Z p):p=o\/p<n0+n:=by
 cases f<;>simp only[Au,va,xar,Ws]at h
 ·exact .inl h.symm
 ·exact .inl h.symm
 ·exact .inl h.symm
 ·exact .inl h.symm
 ·next j=>have:=hn j O;exact .inr W
 ·next j=>have:=hn j O;exact .inr W
 ·exact .inl h.symm
 ·exact .inl h.symm
def Lo{n0 n:K}:∀{l:N (K×TF)}{x:Qp l}{o:K},(∀a∈l,∀j,C1 a.2=Z j->j<n)->∀e∈(gn n0 l x o).1,∀p,va e.2.2=Z p->p<o+X l\/p<n0+n
 |[],_,_,_,e,he=>wR he IR
 |[(t,f)],x,o,hn,e,he=>by
  intro p hp;obtain rfl:=xad.1 (show e∈[(t,0,(Au n0 o f x).1)]from he);rcases O8 (hn _<|FS) hp with rfl|h
  ·exact .inl<|xbS _
  ·exact .inr h
 |(t,f)::b::l,x,o,hn,e,he=>by
  intro p hp;have he:e=(t,0,(Au n0 o f x.1).1)\/e∈(gn n0 (b::l) x.2<|o+1).1:=xaa.1 he;obtain rfl|he:=he
  ·rcases O8 (hn _<|FS) hp with rfl|h
   ·exact .inl<|by simp only[xau];lia
   ·exact .inr h
  ·rcases Lo (λa c=>hn a<|UV _ c) e he p hp with h|h
   ·simp only[xau]at h⊢;exact .inl W
   ·exact .inr h
def Ic{U:K->wN}{n0:K}:∀{l:N (K×TF)}{x:Qp l}{o i:K},(∀j,j<X l->vs (o+j)=U (i+j))->MS vs (gn n0 l x o).2=VF U l x i
 |[],_,_,_,_=>rfl
 |[(t,f)],x,o,i,h=>by
  have h0:vs o=U i:=h 0 gT;cases f<;>simp only[gn,Au,MS,xcb,xeC,Jt,VF,SR,h0]<;>rfl
 |(t,f)::b::l,x,o,i,h=>by
  have h0:vs o=U i:=h 0 gT;have a:MS vs (gn n0 (b::l) x.2<|o+1).2=VF U (b::l) x.2 (i+1):=Ic λj c=>by
   have:=h (j+1) (by simpa using c);rw[(W:o+1+j=o+(j+1)),(W:i+1+j=i+(j+1))];exact this
  unfold MS at a;cases f<;>simp only[gn,Au,MS,xcb,Jt,VF,SR,h0,a,xby,xfD]<;>rfl
def Hj{U:K->wN}{n0 n:K}{f:TF}{x:f.D}{o t:K}{u:wN}{S:K->Prop}(hv:vs o=u)(hn:∀j,C1 f=Z j->j<n)(a:∀j,j<n->vs (n0+j)=U j)(h:(tfF f x U u<|env t).p S w):(wg P vs (Au n0 o f x).1 (env t) 0).p S w:=by
 subst hv;cases f
 ·exact h
 ·exact h
 ·exact h
 ·have⟨h1,b,c⟩:=h;exact⟨h1,b,h1.symm.trans c⟩
 ·exact h
 ·exact h
 ·next j=>
  have h:zig (U j) x=Z (env t):=h;show zig (vs<|n0+j) x=Z (env t);rw[a j<|hn j O];exact h
 ·next j=>
  have h:MI (yA<|U j) x.1 x.2 (env t):=h;show MI (yA<|vs<|n0+j) x.1 x.2 (env t);rw[a j<|hn j O];exact h
 ·exact h
 ·exact h
def Td{U:K->wN}{n0 n:K}(d:∀j,j<n->vs (n0+j)=U j):∀{l:N (K×TF)}{x:Qp l}{o i:K}{S:K->Prop},(∀a∈l,∀j,C1 a.2=Z j->j<n)->(∀j,j<X l->vs (o+j)=U (i+j))->zE S (dsF U env l x i) w->zE S (RS P vs env (gn n0 l x o).1) w
 |[],_,_,_,_,_,_,_=>trivial
 |[(t,f)],x,o,i,S,hn,h,c=>⟨Hj (h 0 gT) (hn _<|FS) d c.1,wS⟩
 |(t,f)::b::l,x,o,i,S,hn,h,c=>⟨Hj (h 0 gT) (hn _<|FS) d c.1,Td d (λa e=>hn a<|UV _ e) (λj g=>by
  have:=h (j+1) (by simpa using g);rw[(W:o+1+j=o+(j+1)),(W:i+1+j=i+(j+1))];exact this) c.2⟩
def zdt:∀{ns:N (K×NF)},zhF cx σ ns=wF->∀t f,(t,f)∈ns->(match f,get cx σ t 0 with
 |.kb b,Z (.kb c)=>b==c
 |.nil,Z .nil=>wF
 |.ci x,Z (.d .i y)=>eqI x y
 |.cu x,Z (.d .u y)=>eqU x y
 |.al s,Z (.ow o)=>(match get cx σ s 0 with
  |some (.ow a)=>E o a
  |_=>I)
 |.al s,Z (.vs o _)=>(match get cx σ s 0 with
  |some (.vs a _)=>E o a
  |_=>I)
 |.al s,Z (.mw o)=>(match get cx σ s 0 with
  |some (.mw a)=>E o a
  |_=>I)
 |.bm s f,Z (.bm f' o _)=>(match get cx σ s 0 with
  |some (.vs a _)=>E o a && E f f'
  |_=>I)
 |_,_=>I)=wF
 |(g,f')::r,h,t,f,hm=>by
  unfold zhF at h;rw[xab]at h;obtain e|hm:=xaa.1 hm
  ·cases e;exact h.1
  ·exact zdt h.2 t f hm
def zbf{rg:N (K×K×Dv)}{S:K->Prop}(a:zE S (RS P vs env rg) w):∀{ns:N (K×NF)},(∀t f,(t,f)∈ns->match f with
 |.kb b=>env t=.bool b
 |.nil=>env t=.slice wL 0 0
 |.ci x=>(fV eI x<|env t).p S w
 |.cu x=>(fV eU x<|env t).p S w
 |.al s=>env t=env s
 |.bm s f=>env t=.func (.func f) #[env s] #[])->zE S (RS P vs env (MB rg ns)) w
 |[],_=>a
 |(t,f)::r,h=>by
  have c:=zbf a (ns:=r) λt f d=>h t f<|UV _ d;have h0:=h t f<|FS;unfold MB;show zE S (RS P vs env<|_++_) w;rw[show RS P vs env (_++MB rg r)=RS P vs env _++RS P vs env (MB rg r)from xaW];refine zE.append ?_ c;cases f
  ·exact⟨h0,wS⟩
  ·exact⟨h0,wS⟩
  ·exact⟨h0,wS⟩
  ·exact⟨h0,wS⟩
  ·next s=>
   simp only;split
   ·next v hv=>
    have:=KP a<|eV hv;have h0:env t=env s:=h0;refine⟨?_,wS⟩;show(wg P vs v (env t) 0).p S w;rw[h0];exact this
   ·trivial
  ·next s f=>
   simp only;split
   ·next o q hv=>
    have⟨h1,e⟩:=KP a<|eV hv;have h0:env t=.func (.func f) #[env s] #[]:=h0;exact⟨⟨by rw[h0,h1],e⟩,wS⟩
   ·trivial
def Nh{rg:N (K×K×Dv)}{n:K}(a:∀e∈rg,∀p,va e.2.2=Z p->p<n):∀{ns:N (K×NF)},∀e∈MB rg ns,∀p,va e.2.2=Z p->p<n
 |[],e,he=>a e he
 |(t,f)::r,e,he=>by
  intro p hp;unfold MB at he;obtain he|he:=So.1 he
  ·cases f
   ·obtain rfl:=xad.1 he;cases hp
   ·obtain rfl:=xad.1 he;cases hp
   ·obtain rfl:=xad.1 he;cases hp
   ·obtain rfl:=xad.1 he;cases hp
   ·simp only at he;split at he
    ·next v hv=>
     obtain rfl:=xad.1 he;exact a _ (eV hv) p hp
    ·exact wR he IR
   ·simp only at he;split at he
    ·next o q hv=>
     obtain rfl:=xad.1 he;cases hp;exact a _ (eV hv) _ O
    ·exact wR he IR
  ·exact Nh a e he p hp
def uK:∀(l:N (K×TF)) {σ:Sg},Yn P fr cx σ env w->Yn P fr cx (zeK cx σ l) env w
 |[],_,h=>h
 |(t,.d _)::r,_,h=>uK r<|IW _ h
 |(t,.q _)::r,_,h=>uK r h
 |(t,.own _ _)::r,_,h=>uK r h
 |(t,.var _ _)::r,_,h=>uK r h
 |(t,.mat _ _ _)::r,_,h=>uK r h
 |(t,.matv _ _ _)::r,_,h=>uK r h
 |(t,.row _)::r,_,h=>uK r h
 |(t,.view _)::r,_,h=>uK r h
 |(t,.bo _ _ _)::r,_,h=>uK r h
 |(t,.vr _ _ _ _ _ _)::r,_,h=>uK r h
def St.dropM{we:wP}{Se:K->Prop}{Γ:N FF}{w:wP}:∀{A B C:N MF},St we Se (A++(B++C)) Γ w->St we Se (A++C) Γ w
 |A,[],C,h=>h
 |A,b::B,C,h=>St.dropM (B:=B)<|St.drop (i:=0)<|St.mid h
end
end
section
section
variable{P:jp}{cf:Cf}{fr:Fr}{cx kp σ:Sg}{vs vs':wr->wN}{env env0:y8}{w:wP}{R:Type}{r:R}{N:Nd}{Q:Qs}
def bM{a b:xS (K×K×Dv)}:RS P vs env (a++b)=RS P vs env a++RS P vs env b:=xaW
def tn{sh:Sh}{k:Qp sh.ds->V R}(h:rE (kg cx kp) sh σ k=Z r)(y:Bd cx kp):∃x,k x=Z r/\∀(fr:Fr) env w,Yn P fr (kg cx kp) σ env w->Yn P fr cx (Kk sh x kp) env w:=by
 unfold rE at h;simp only at h;have⟨K,h⟩:=z8 h;have⟨x,os,h1,h0,L,u⟩:=zko (ds:=sh.ds) (i:=0) (λj a C=>by rw[xaJ];exact C) h;refine⟨x,h1,λfr env w M=> ?_⟩;have T:=uK sh.ds M;generalize zeK (kg cx kp) σ sh.ds=g at*
 have⟨hB,vs,hv⟩:=T;have hi:=u P vs fr env (GS P vs env fr (kg cx kp) g) w (λS w q=>Xz q) hv;have Y:=St.dropM hi;generalize hw:KX (kg cx kp) g sh.ds vs env=U at*
 have hd:∀o,o<kp.nx->nvs vs U kp.nx o=vs o:=λo ho=>iq ho;have D:∀j,j<X sh.ds->nvs vs U kp.nx (kp.nx+j)=U (0+j):=λj C=>by
  unfold nvs;rw[zB,(W:kp.nx+j-kp.nx=j),xaJ]
 have hx:=λe he=>TB (n0:=kp.nx) (l:=sh.ds) (x:=x) (o:=kp.nx) e he;have E:∀e∈(gn kp.nx sh.ds x kp.nx).1,∀p,va e.2.2=Z p->p<kp.nx+X sh.ds:=λe he p hp=>by
  rcases Lo (n0:=kp.nx) (n:=X sh.ds) (l:=sh.ds) (x:=x) (o:=kp.nx) h0 e he p hp with h|h<;>exact h
 refine⟨⟨λe he=> ?_,λe he=> ?_,λe he p hp=> ?_,λe he p hp=> ?_⟩,nvs vs U kp.nx,?_⟩
 ·obtain he|he:=So.1 he
  ·exact(hx e he).2
  ·exact xao (y.o1 e he)<|xbM _ _
 ·exact xao (y.o2 e he)<|xbM _ _
 ·obtain he|he:=So.1 he
  ·obtain he|he:=So.1 he
   ·exact Nh (λe he p hp=>E e he p hp) e he p hp
   ·exact E e he p hp
  ·exact xao (y.r1 e he p hp)<|xbM _ _
 ·exact xao (y.r2 e he p hp)<|xbM _ _
 ·have e1:OS (nvs vs U kp.nx) fr cx ((gn kp.nx sh.ds x kp.nx).2++kp.ob)=VF U sh.ds x 0++(MS vs (kp.ob++cx.ob)++fr.F):=by
   show MS _ (_++kp.ob)++(MS _ cx.ob++_)=_
   rw[show MS (nvs vs U kp.nx) ((gn kp.nx sh.ds x kp.nx).2++kp.ob)=MS _ _++MS _ _ from xaW,Ic D,wE λe he=>hd _<|y.o1 e he,wE (ob:=cx.ob) λe he=>hd _<|y.o2 e he,
    show MS vs (kp.ob++cx.ob)=MS _ _++MS _ _ from xaW,xaf,xaf]
  show St _ _ (OS (nvs vs U kp.nx) fr cx<|(gn kp.nx sh.ds x kp.nx).2++kp.ob) _ _;rw[e1];refine Y.weak λS w q=> ?_;have hl:∀t,Lk P vs env S w (kg cx kp) g t:=Xz q;have H:zE S (RS P (nvs vs U kp.nx) env (gn kp.nx sh.ds x kp.nx).1) w:=Td (U:=U) (n:=X sh.ds) (λj C=>by rw[D j C,xaJ]) h0 D (by rw[<-hw];exact L P vs env S w hl);have J:zE S (RS P vs env kp.rg++RS P vs env cx.rg) w:=by
   have:=zE.left<|zE.right q;rwa[show RS P vs env (kg cx kp).rg=RS P vs env kp.rg++RS P vs env cx.rg from xaW]at this
  have hn:=zbf H (ns:=sh.ns) λt f hm=>by
   have d:=zdt K t f hm;cases f
   ·split at d<;>simp_all
    next b c u=>exact hl t 0 _ u
   ·split at d<;>simp_all
    next u=>exact hl t 0 _ u
   ·split at d<;>simp_all
    next a b u=>
    have:=hl t 0 _ u;simp only[eqI,WW]at d;rw[d];exact this
   ·split at d<;>simp_all
    next a b u=>
    have:=hl t 0 _ u;simp only[eqU,WW]at d;rw[d];exact this
   ·next s=>
    cases hc:get (kg cx kp) g t 0 with
    |none=>rw[hc]at d;cases d
    |some v=>
     rw[hc]at d;cases v<;>simp only[xak]at d
     ·next o=>
      cases m:get (kg cx kp) g s 0 with
      |none=>rw[m]at d;cases d
      |some z=>
       rw[m]at d;cases z<;>simp only[xak]at d;have A:env t=vs o:=hl t 0 _ hc;have B:=hl s 0 _ m;have:=zO d;subst this;exact A.trans (show env s=_ from B).symm
     ·next o _=>
      cases m:get (kg cx kp) g s 0 with
      |none=>rw[m]at d;cases d
      |some z=>
       rw[m]at d;cases z<;>simp only[xak]at d;have A:env t=vs o:=(hl t 0 _ hc).1;have B:=(hl s 0 _ m).1;have:=zO d;subst this;exact A.trans B.symm
     ·next o=>
      cases m:get (kg cx kp) g s 0 with
      |none=>rw[m]at d;cases d
      |some z=>
       rw[m]at d;cases z<;>simp only[xak]at d;have A:env t=yA (vs o):=hl t 0 _ hc;have B:=hl s 0 _ m;have:=zO d;subst this;exact A.trans (show env s=_ from B).symm
   ·next s f=>
    cases hc:get (kg cx kp) g t 0 with
    |none=>rw[hc]at d;cases d
    |some v=>
     rw[hc]at d;cases v<;>simp only[xak]at d
     next f' o _=>
     cases m:get (kg cx kp) g s 0 with
     |none=>rw[m]at d;cases d
     |some z=>
      rw[m]at d;cases z<;>simp only[xak]at d;rw[xab]at d;have A:=(hl t 0 _ hc).1;have B:=(hl s 0 _ m).1;have e1:=zO d.1;have e2:=zO d.2;subst e1;subst e2;show env t=.func (.func f) #[env s] #[];rw[B];exact A
  show zE S (RS P _ env ((MB (gn kp.nx sh.ds x kp.nx).1 sh.ns++(gn kp.nx sh.ds x kp.nx).1)++kp.rg)++(RS P _ env cx.rg++fr.G)) w;refine zE.append ?_<|zE.append ?_<|zE.right<|zE.right q
  ·rw[bM,bM];refine zE.append (zE.append hn H) ?_;rw[jD (λe he p hp=>hd _<|y.r1 e he p hp)<|λ_ _=>O];exact zE.left J
  ·rw[jD (λe he p hp=>hd _<|y.r2 e he p hp)<|λ_ _=>O];exact zE.right J
def zaq{a t:Tg}(h:zcK a t=wF):a=t:=by
 cases a<;>cases t<;>first|rfl|cases h|skip
 rw[zO (show E _ _=wF from h)]
def zbo{t:Tg}(f:Bd cx kp):∀{l:xS (Tg×Sh)}{k:SmD l->V R},zfj (kg cx kp) σ t l k=Z r->∃(y:SmD l) (c:Sg),k y=Z r/\(∀{g:Type} (K:Tg->Sg->V g),P0 kp K l y=K t c)/\∀(fr:Fr) env w,Yn P fr (kg cx kp) σ env w->Yn P fr cx c env w
 |[],k,h=>by cases h
 |[a],k,h=>by
  have⟨e,h⟩:=z8 h;have⟨x,h1,d⟩:=tn (P:=P) h f;have:=zaq e;subst this;exact⟨x,_,h1,λK=>O,d⟩
 |a::b::l,k,h=>by
  unfold zfj at h;cases e:zcK a.1 t<;>rw[e]at h
  ·have⟨y,c,h1,d,i⟩:=zbo f (l:=b::l) h;exact⟨.inr y,c,h1,λK=>d K,i⟩
  ·have⟨x,h1,d⟩:=tn (P:=P) h f;have:=zaq e;subst this;exact⟨.inl x,_,h1,λK=>O,d⟩
abbrev Qd:=bI->xS K->y8->wP->Prop
def vn(D:K):MF where
 blk k:=k=D
 p _ w:=w.heap[D]? =Z (.deferred<|some [])
 keep h _ a:=(a D O).trans h
 sub h _:=h
 lt h k b:=by subst b;exact(xbi.1 h).1
def mkD(D:K):Deferred:={target:=.collected D,args:= #[]}
def Nd.wd(N:Nd)(Ds:xS K):Nd:=⟨N.n,Ds.map mkD,N.rd⟩
def Fr.wd(fr:Fr)(Ds:xS K):Fr:=⟨fr.we,fr.Se,Ds.map vn++fr.F,fr.G⟩
def zkg(N:Nd)(Q:Qd):bI->Jp->wP->Prop:=λe a w=>a.tmps.size=N.n/\∃Ds:xS K,a.defers=Ds.map mkD/\Q e Ds (yK a) w
def H9(P:jp)(N:Nd)(c:Wn)(Q:Qd)(Ds:xS K)(env:y8)(w:wP):Prop:=
 ∀a:Jp,a.tmps.size=N.n->a.defers=Ds.map mkD->yK a=env->c.wpIn N.F 0 P (zkg N Q) a w
section
variable{N:Nd}{Q Q':Qd}{Ds:xS wr}
def zlI{c:Wn}(h:Wp P (N.wd Ds) c (λe env w=>Q e Ds env w) env w):H9 P N c Q Ds env w:=λa h1 b d=>WT (h a h1 b d) λe g w' ⟨q1,q2,f⟩=>⟨q1,Ds,q2,f⟩
def zky(K:xS wr->y8->wP->Prop)(Q:Qd):Qd
 |.normal,Ds,env,w=>K Ds env w
 |e,Ds,env,w=>Q e Ds env w
def Ig(id:K)(Q:Qd):Qd
 |.exit a,Ds,env,w=>bif E a id then Q .normal Ds env w else Q (.exit a) Ds env w
 |e,Ds,env,w=>Q e Ds env w
def zoU(Q:Qd):Qd
 |.goto _,_,_,_=>V6
 |e,Ds,env,w=>Q e Ds env w
def Bf{x y:Wn}(h:H9 P N x (zky (H9 P N y Q) Q) Ds env w):H9 P N (.seq x y) Q Ds env w:=by
 intro a h1 d f;refine wpIn_seq<|WT (h a h1 d f) ?_;intro e g w' ⟨q1,b,q2,c⟩;cases e<;>first|exact c g q1 q2 O|exact⟨q1,b,q2,c⟩
def zfr{c:Wn}(h:H9 P N c Q Ds env w)(d:∀e Ds env w,Q e Ds env w->Q' e Ds env w):H9 P N c Q' Ds env w:=
 λa h1 f g=>WT (h a h1 f g) λe j w' ⟨q1,b,q2,i⟩=>⟨q1,b,q2,d e _ _ _ i⟩
def GZ{id:K}{c:Wn}(h:H9 P N c (Ig id Q) Ds env w):H9 P N (.block id c) Q Ds env w:=by
 intro a h1 g j;refine wpIn_block<|WT (h a h1 g j) ?_;intro e k w' ⟨q1,b,q2,d⟩
 cases e with
 |exit i=>
  simp only[Ig]at d;simp only[Exit.inBlock];cases f:E i id
  ·rw[f]at d;rw[ir<|λe=>by subst e;simp at f];exact⟨q1,b,q2,d⟩
  ·rw[f]at d;rw[iq<|xcP f];exact⟨q1,b,q2,d⟩
 |_=>exact⟨q1,b,q2,d⟩
def zcZ{c:Wn}(h:H9 P N c (zoU Q) Ds env w):H9 P N (.scope c) Q Ds env w:=by
 intro a h1 f g;refine Tk<|WT (h a h1 f g) ?_;intro e i w' ⟨q1,b,q2,d⟩;cases e<;>first|exact⟨q1,b,q2,d⟩|exact d.elim
def O6{c:Wn}{G:Type}(q:G->xS K->y8->wP->Prop)(j:G->K)(d:G)(f:q d Ds env w)(round:∀g Ds env w,q g Ds env w->H9 P N c (zky (λb h w'=>∃i,q i b h w'/\j i<j g) Q) Ds env w):H9 P N (.loop c) Q Ds env w:=by
 intro a h1 k m;refine Sp (λg a w=>a.tmps.size=N.n/\∃Ds:xS K,a.defers=Ds.map mkD/\q g Ds (yK a) w) j d ⟨h1,Ds,k,m▸f⟩ ?_;intro g a w ⟨h1,Ds,k,o⟩;refine WT (round g Ds (yK a) w o a h1 k O) ?_;intro e p w' ⟨q1,b,q2,l⟩
 cases e with
 |normal=>have⟨i,o1,o2⟩:=l;exact⟨i,⟨q1,b,q2,o1⟩,o2⟩
 |_=>exact⟨q1,b,q2,l⟩
def DR{c:v6}{x y:Wn}(hc:ev env c=.bool wF)(h:H9 P N x Q Ds env w):H9 P N (.cond c x y) Q Ds env w:=
 λa h1 d b=>wpIn_cond_true (by rw[eN,b];exact hc)<|h a h1 d b
def Cd{c:v6}{x y:Wn}(hc:ev env c=.bool I)(h:H9 P N y Q Ds env w):H9 P N (.cond c x y) Q Ds env w:=
 λa h1 d b=>wpIn_cond_false (by rw[eN,b];exact hc)<|h a h1 d b
end
def FE{α:Type _}(p:α->wW):∀l:xS α,l.Perm ((l.filter λa=> !p a)++l.filter p)
 |[]=>xdy _
 |a::l=>by
  have b:=FE p l;rw[xfK,xfK];cases hp:p a
  ·simpa using b.cons a
  ·simp only[xcW,xak,ut,uL];exact(b.cons a).trans xcn.symm
def Du{ag ro:xS K}(h:Yn P fr cx σ env w):Bd cx (keep σ ag ro)/\Yn P fr (kg cx<|keep σ ag ro) (rest σ ag ro) env w:=by
 have⟨a,vs,c⟩:=h;have b:Bd cx (keep σ ag ro):=⟨λe he=>a.o1 e (xcj.1 he).1,a.o2,λe he=>a.r1 e (xcj.1 he).1,a.r2⟩;refine⟨b,⟨λe he=>a.o1 e (xcj.1 he).1,λe he=> ?_,λe he=>a.r1 e (xcj.1 he).1,λe he=> ?_⟩,vs,?_⟩
 ·obtain he|he:=So.1 he
  ·exact b.o1 e he
  ·exact b.o2 e he
 ·obtain he|he:=So.1 he
  ·exact b.r1 e he
  ·exact b.r2 e he
 ·have hp:(OS vs fr cx σ.ob).Perm (OS vs fr (kg cx<|keep σ ag ro) (rest σ ag ro).ob):=by
   show List.Perm (MS vs σ.ob++(MS vs cx.ob++fr.F)) (MS vs (rest σ ag ro).ob++(MS vs ((keep σ ag ro).ob++cx.ob)++fr.F));have e:MS vs (rest σ ag ro).ob++(MS vs ((keep σ ag ro).ob++cx.ob)++fr.F)=(MS vs (rest σ ag ro).ob++MS vs (keep σ ag ro).ob)++(MS vs cx.ob++fr.F):=by
    rw[show MS vs ((keep σ ag ro).ob++cx.ob)=MS _ _++MS _ _ from xaW];simp only[xaf]
   rw[e];refine xfp _ ?_;have:=(FE (λe:K×Od=>gH (FU σ ro) e.1) σ.ob).map<|Jt vs;rw[xaW]at this;exact this
  refine(St.perm c hp).sub' ?_;intro f hf;obtain hf|hf:=So.1 hf
  ·obtain⟨e,he,rfl⟩:=xat.1 hf;exact So.2 (.inl<|xat.2 ⟨e,(xcj.1 he).1,O⟩)
  ·obtain hf|hf:=So.1 hf
   ·obtain⟨e,he,rfl⟩:=xat.1 hf;obtain he|he:=So.1 he
    ·exact So.2 (.inl<|xat.2 ⟨e,(xcj.1 he).1,O⟩)
    ·exact So.2 (.inr<|So.2 (.inl<|xat.2 ⟨e,he,O⟩))
   ·exact So.2 (.inr<|So.2 (.inr hf))
end
end
section
def be(l:K)(r:ce):MF where
 blk k:=k=l
 p _ w:=w.heap[l]? =Z (.loop r)
 keep h _ a:=(a l O).trans h
 sub h _:=h
 lt h k b:=by subst b;exact(xbi.1 h).1
def mFF(Γ:N FF):MF where
 blk _:=V6
 p S w:=zE S Γ w
 keep h k _:=zE.keep k h
 sub h k:=zE.sub k h
 lt _ _ a:=a.elim
section
variable{we:wP}{Se:wr->Prop}{ms:xS MF}{Γ Δ:xS FF}{w:wP}
def St.ffIn(h:St we Se ms (Δ++Γ) w):St we Se (mFF Δ::ms) Γ w:=by
 have⟨h1,c,d,S,e,f,g,i,b⟩:=h;refine⟨h1,c,⟨λk a=>a.elim,d⟩,S,e,f,λm hm k a=> ?_,⟨zE.left b,i⟩,zE.right b⟩;obtain rfl|hm:=xaa.1 hm
 ·exact a.elim
 ·exact g m hm k a
def St.ffOut(h:St we Se (mFF Δ::ms) Γ w):St we Se ms (Δ++Γ) w:=by
 have⟨h1,b,c,S,d,e,f,a,g⟩:=h;exact⟨h1,b,c.2,S,d,e,λm i=>f m<|UV _ i,a.2,zE.append a.1 g⟩
def St.putObj{l:K}{m m':MF}{o:Obj}(h:St we Se (m::ms) Γ w)(b:∀k,m.blk k↔k=l)(j:∀k,m'.blk k->k=l)(hp:∀S w',w'.heap[l]? =Z o->m'.p S w'):St we Se (m'::ms) Γ (w.putObj l o):=by
 have⟨h1,q,d,S,r,s,f,n,t⟩:=h;have hl:=f m (FS) l<|(b l).2 O;have u:l<w.heap.size:=yL.lt n m (FS) l<|(b l).2 O;have hd:(w.putObj l o).heap.size=w.heap.size:=World.putObj_size;have g:∀k,k≠l->(w.putObj l o).heap[k]? =w.heap[k]? :=λk a=>World.putObj_heap_other a;have a:yw S w (w.putObj l o):=⟨O,O,O,Nat.le_of_eq hd.symm,λk _ i=>g k λe=>hl.1<|e▸i⟩;have v:KD we (w.putObj l o):=⟨h1.os,h1.tape,h1.output,xal h1.size<|Nat.le_of_eq hd.symm,λk a i=>(g k λe=>by lia).trans<|h1.block k a i⟩;refine⟨v,q,⟨λk a c hm2=>d.1 k ((b k).2<|j k a) c hm2,d.2⟩,S,r,λk a=>s k (by rw[hd]at a;exact a),λc hm2 k hc=> ?_,⟨hp S _<|World.putObj_heap_same u,yL.keep a (λc hm2 k hc=>g k λe=> ?_) n.2⟩,zE.keep a t⟩
 ·obtain rfl|hm2:=xaa.1 hm2
  ·exact f m (FS) k<|(b k).2<|j k hc
  ·exact f c (UV _ hm2) k hc
 ·subst e;exact d.1 k ((b k).2 O) c hm2 hc
def St.allocObj{o:Obj}{m:MF}(h:St we Se ms Γ w)(e:∀k,m.blk k->k=w.heap.size)(hp:∀S w',w'.heap[w.heap.size]? =Z o->m.p S w'):St we Se (m::ms) Γ (w.alloc o):=by
 have⟨h1,j,l,S,n,q,i,f,r⟩:=h;have s:(w.alloc o).heap.size=w.heap.size+1:=World.size_alloc ..;have vj:∀k,k<w.heap.size->(w.alloc o).heap[k]? =w.heap[k]? :=λk a=>by
  show(w.heap.push o)[k]? =_;rw[Array.getElem?_push];rw[zB]
 have hd:(w.alloc o).heap[w.heap.size]? =Z o:=World.alloc_heap_new w o;let g:K->Prop:=λk=>S k/\k≠w.heap.size
 have a:yw g w (w.alloc o):=⟨O,O,O,W,λk a _=>vj k a⟩;have hc:∀k,k<w.heap.size->S k->g k:=λk a c=>⟨c,W⟩;refine⟨⟨h1.os,h1.tape,h1.output,by have:=h1.size;lia,λk a c=>(vj k<|xao a h1.size).trans<|h1.block k a c⟩,j,⟨λk a d hm2 b=> ?_,l⟩,g,λk a=>n k a.1,λk a=>⟨q k W,W⟩,λd hm2 k b=> ?_,⟨hp _ _ hd,yL.keep a (λd hm2 k b=>vj k<|yL.lt f d hm2 k b)<|yL.sub hc f⟩,zE.keep a<|zE.sub hc r⟩
 ·have:=yL.lt f d hm2 k b;have:=e k a;lia
 ·obtain rfl|hm2:=xaa.1 hm2
  ·exact⟨λc=>c.2<|e k b,by have:=e k b;have:=h1.size;lia⟩
  ·exact⟨λc=>(i d hm2 k b).1 c.1,(i d hm2 k b).2⟩
end
section
variable{P:jp}{cf:Cf}{fr:Fr}{cx kp σ:Sg}{vs vs':wr->wN}{env env':y8}{w:wP}
def Ht{cx σ:Sg}(h:Bd cx σ):Bd (kg cx σ) ⟨σ.nx,[],[]⟩where
 o1:=λ_ he=>wR he IR
 o2:=λe he=>by
  obtain he|he:=So.1 he
  ·exact h.o1 e he
  ·exact h.o2 e he
 r1:=λ_ he=>wR he IR
 r2:=λe he=>by
  obtain he|he:=So.1 he
  ·exact h.r1 e he
  ·exact h.r2 e he
def sH(f:TF)(v u:wN):Prop:=match f with
 |.own _ _=>v=u
 |.var _ _=>v=u/\∃b,v=.pointer (Z ⟨b,0,wL⟩)
 |.mat _ _ _=>v=yA u
 |.bo _ _ _=>v=yA u
 |_=>V6
def JM(ds:N (K×TF))(env:y8)(U:K->wN):Prop:=∀(j t:K) (f:TF),ds[j]? =Z (t,f)->sH f (env t) (U j)
def Mh:∀{ds:N (K×TF)},bh ds=wF->∀(j t:K) (f:TF),ds[j]? =Z (t,f)->(∃s E,f=.own s E)\/(∃s E,f=.var s E)\/(∃s E F,f=.mat s E F)\/(∃s E F,f=.bo s E F)
 |[],_,j,t,f,h=>by simp at h
 |(b,f')::ds,a,0,t,f,h=>by
  simp only[xbB,xar,xcO]at h;obtain⟨rfl,rfl⟩:=h;cases f'<;>simp only[bh,xak]at a
  ·exact .inl ⟨_,_,O⟩
  ·exact .inr (.inl ⟨_,_,O⟩)
  ·exact .inr (.inr (.inl ⟨_,_,_,O⟩))
  ·exact .inr (.inr (.inr ⟨_,_,_,O⟩))
 |(b,f')::ds,a,j+1,t,f,h=>by
  refine Mh (ds:=ds) ?_ j t f (by simpa using h);cases f'<;>simp only[bh,xak]at a<;>exact a
def OB{ds:N (K×TF)}(b:bh ds=wF):∀a∈ds,∀j,C1 a.2=Z j->j<X ds:=λa c j e=>by
 have⟨i,hi⟩:=xfE.1 c;rcases Mh b i a.1 a.2 hi with⟨_,_,h⟩|⟨_,_,h⟩|⟨_,_,_,h⟩|⟨_,_,_,h⟩<;>rw[h]at e<;>cases e
def zbv{U:K->wN}{S:K->Prop}:∀{ds:N (K×TF)}{x:Qp ds}{i:K},(∀(j t:K) (f:TF),ds[j]? =Z (t,f)->sH f (env t) (U<|i+j))->zE S (dsF U env ds x i) w
 |[],_,_,_=>trivial
 |[(t,f)],x,i,h=>by
  have h0:=h 0 t f O;refine⟨?_,wS⟩;cases f<;>first|exact h0|exact h0.elim
 |(t,f)::b::l,x,i,h=>by
  have h0:=h 0 t f O;refine⟨?_,zbv λj t f a=>by
   have:=h (j+1) t f (by simpa using a);rw[(W:i+1+j=i+(j+1))];exact this⟩
  cases f<;>first|exact h0|exact h0.elim
def zgT{n0:K}:∀{ds:N (K×TF)}{x:Qp ds}{o j t:K}{f:TF},ds[j]? =Z (t,f)->∃y:f.D,(t,0,(Au n0 (o+j) f y).1)∈(gn n0 ds x o).1
 |[],_,_,_,_,_,h=>by simp at h
 |[(a,f')],x,o,0,t,f,h=>by
  simp only[xbB,xar,xcO]at h;obtain⟨rfl,rfl⟩:=h;exact⟨x,FS⟩
 |[(a,f')],x,o,j+1,t,f,h=>by simp at h
 |(a,f')::b::l,x,o,0,t,f,h=>by
  simp only[xbB,xar,xcO]at h;obtain⟨rfl,rfl⟩:=h;exact⟨x.1,FS⟩
 |(a,f')::b::l,x,o,j+1,t,f,h=>by
  have⟨y,c⟩:=zgT (n0:=n0) (ds:=b::l) (x:=x.2) (o:=o+1) (j:=j) (t:=t) (f:=f) (by simpa using h);rw[(W:o+1+j=o+(j+1))]at c;exact⟨y,UV _ c⟩
def zeM{ds:N (K×TF)}{x:Qp ds}{n:K}{S:K->Prop}(c:bh ds=wF)(h:zE S (RS P vs env (gn n ds x n).1) w):JM ds env λj=>vs (n+j):=by
 intro j t f a;have⟨y,d⟩:=zgT (n0:=n) (x:=x) (o:=n) a;have:=KP h d;rcases Mh c j t f a with⟨_,_,rfl⟩|⟨_,_,rfl⟩|⟨_,_,_,rfl⟩|⟨_,_,_,rfl⟩
 ·exact this
 ·have⟨h1,b,e⟩:=this;exact⟨h1,b,h1.trans e⟩
 ·exact this
 ·exact this
def zkB{ds:N (K×TF)}{x:Qp ds}(b:bh ds=wF)(o1:∀e∈kp.ob,e.1<kp.nx+X ds)(o2:∀e∈cx.ob,e.1<kp.nx+X ds)(r1:∀e∈kp.rg,∀o,va e.2.2=Z o->o<kp.nx+X ds)(r2:∀e∈cx.rg,∀o,va e.2.2=Z o->o<kp.nx+X ds):Bd cx (Kk ⟨ds,[]⟩ x kp):=by
 refine⟨λe he=> ?_,o2,λe he p hp=> ?_,r2⟩
 ·obtain he|he:=So.1 he
  ·exact(TB (n0:=kp.nx) (l:=ds) (x:=x) (o:=kp.nx) e he).2
  ·exact o1 e he
 ·have a:∀e∈(gn kp.nx ds x kp.nx).1,∀p,va e.2.2=Z p->p<kp.nx+X ds:=λe he p hp=>by
   rcases Lo (n0:=kp.nx) (n:=X ds) (l:=ds) (x:=x) (o:=kp.nx) (OB b) e he p hp with h|h<;>exact h
  obtain he|he:=So.1 he
  ·obtain he|he:=So.1 he
   ·exact a e he p hp
   ·exact a e he p hp
  ·exact r1 e he p hp
def zeR{ds:N (K×TF)}{x:Qp ds}(d:bh ds=wF)(hc:JM ds env λj=>vs<|kp.nx+j)(e:Bd cx (Kk ⟨ds,[]⟩ x kp))
 (hd:St fr.we fr.Se (VF (λj=>vs<|kp.nx+j) ds x 0++(MS vs kp.ob++(MS vs cx.ob++fr.F))) (RS P vs env kp.rg++(RS P vs env cx.rg++fr.G)) w):Yn P fr cx (Kk ⟨ds,[]⟩ x kp) env w:=by
 refine⟨e,vs,?_⟩;have b:∀j,j<X ds->vs (kp.nx+j)=(λj=>vs<|kp.nx+j) (0+j):=λj _=>by simp only[xaJ]
 have e1:OS vs fr cx (Kk ⟨ds,[]⟩ x kp).ob=VF (λj=>vs<|kp.nx+j) ds x 0++(MS vs kp.ob++(MS vs cx.ob++fr.F)):=by
  show MS vs ((gn kp.nx ds x kp.nx).2++kp.ob)++(MS vs cx.ob++fr.F)=_;rw[show MS vs ((gn kp.nx ds x kp.nx).2++kp.ob)=MS vs (gn kp.nx ds x kp.nx).2++MS vs kp.ob from xaW,Ic (U:=λj=>vs<|kp.nx+j) (i:=0) b,xaf]
 show St _ _ (OS vs fr cx (Kk ⟨ds,[]⟩ x kp).ob) _ _;rw[e1];refine hd.weak λS w a=> ?_;have c:zE S (RS P vs env (gn kp.nx ds x kp.nx).1) w:=Td (U:=λj=>vs<|kp.nx+j) (n:=X ds) (i:=0) (λj _=>O) (OB d) b (zbv λj t f g=>by rw[xaJ];exact hc j t f g);show zE S (RS P vs env (((gn kp.nx ds x kp.nx).1++(gn kp.nx ds x kp.nx).1)++kp.rg)++(RS P vs env cx.rg++fr.G)) w;rw[bM,bM];exact zE.append (zE.append (zE.append c c)<|zE.left a)<|zE.right a
def zaz{ds:N (K×TF)}{x:Qp ds}{n:K}(d:bh ds=wF)(e:Yn P fr cx (Kk ⟨ds,[]⟩ x ⟨n,[],[]⟩) env w):∃vs,JM ds env (λj=>vs<|n+j)/\Bd cx (Kk ⟨ds,[]⟩ x ⟨n,[],[]⟩)/\St fr.we fr.Se (VF (λj=>vs<|n+j) ds x 0++(MS vs cx.ob++fr.F)) (RS P vs env cx.rg++fr.G) w:=by
 have⟨f,vs,b⟩:=e;have⟨S,_,a⟩:=b.ex;have h1:zE S (RS P vs env<|((gn n ds x n).1++(gn n ds x n).1)++[]) w:=zE.left a;rw[bM,bM]at h1;refine⟨vs,zeM d<|zE.right<|zE.left h1,f,?_⟩;have e1:OS vs fr cx (Kk ⟨ds,[]⟩ x ⟨n,[],[]⟩).ob=VF (λj=>vs<|n+j) ds x 0++(MS vs cx.ob++fr.F):=by
  show MS vs ((gn n ds x n).2++[])++(MS vs cx.ob++fr.F)=_;rw[xbP,Ic (U:=λj=>vs<|n+j) (i:=0) λj _=>by simp only[xaJ]]
 have c:St fr.we fr.Se (OS vs fr cx (Kk ⟨ds,[]⟩ x ⟨n,[],[]⟩).ob) (GS P vs env fr cx<|Kk ⟨ds,[]⟩ x ⟨n,[],[]⟩) w:=b;rw[e1]at c;exact c.weak λS w h=>zE.right h
def Ni{U:K->wN}{a:K×TF}:∀{l:N (K×TF)}{y:a.2.D}{x:Qp l}{i:K},VF U (a::l) (GH y x) i=SR a.2 y (U i)++VF U l x (i+1)
 |[],y,x,i=>by show SR a.2 y (U i)=_++[];rw[xbP]
 |_::_,y,x,i=>rfl
def fI{U V:K->wN}:∀{l:N (K×TF)}{x:Qp l}{i k:K},(∀j,j<X l->U (i+j)=V (k+j))->VF U l x i=VF V l x k
 |[],_,_,_,_=>rfl
 |[a],x,i,k,h=>by
  have h0:U i=V k:=h 0 gT;show SR a.2 x (U i)=SR a.2 x (V k);rw[h0]
 |a::b::l,x,i,k,h=>by
  have h0:U i=V k:=h 0 gT;show SR a.2 x.1 (U i)++VF U (b::l) x.2 (i+1)=SR a.2 x.1 (V k)++VF V (b::l) x.2 (k+1);rw[h0,fI (l:=b::l) (x:=x.2) (i:=i+1) (k:=k+1) λj c=>by
   have:=h (j+1) (by simpa using c);rw[(W:i+1+j=i+(j+1)),(W:k+1+j=k+(j+1))];exact this]
def zdG{a:K×TF}:∀{l:N (K×TF)} (z:Qp (a::l)),z=GH (gD z).1 (gD z).2
 |[],_=>rfl
 |_::_,_=>rfl
def If{we:wP}{Se:K->Prop}{A B:N MF}{G:N FF}{l:K}{m m':MF}{o:Obj}(h:Yn P ⟨we,Se,A++m::B,G⟩ cx σ env w)(a:∀k,m.blk k↔k=l)(b:∀k,m'.blk k->k=l)(hp:∀S w',w'.heap[l]? =Z o->m'.p S w'):Yn P ⟨we,Se,A++m'::B,G⟩ cx σ env (w.putObj l o):=by
 have⟨c,vs,hc⟩:=h;refine⟨c,vs,?_⟩;have h1:St we Se ((MS vs σ.ob++(MS vs cx.ob++A))++m::B) (GS P vs env ⟨we,Se,A++m::B,G⟩ cx σ) w:=by
  have:St we Se (MS vs σ.ob++(MS vs cx.ob++(A++m::B))) (GS P vs env ⟨we,Se,A++m::B,G⟩ cx σ) w:=hc;simpa only[xaf]using this
 have d:=St.putObj (St.mid h1) a b hp;have e:St we Se ((MS vs σ.ob++(MS vs cx.ob++A))++m'::B) (GS P vs env ⟨we,Se,A++m::B,G⟩ cx σ) (w.putObj l o):=d.perm xcn.symm;show St we Se (MS vs σ.ob++(MS vs cx.ob++(A++m'::B))) _ _;simpa only[xaf]using e
def zee{n:K}{S:K->Prop}:∀{ds:N (K×TF)}{i:K},bh ds=wF->(∀(j t:K) (f:TF),ds[j]? =Z (t,f)->sH f (env t) (vs<|n+(i+j)))->zE S (RS P vs env<|tN ds<|n+i) w
 |[],_,_,_=>trivial
 |(t,f)::r,i,a,h=>by
  have h0:=h 0 t f O;have b:bh r=wF->zE S (RS P vs env<|tN r<|n+i+1) w:=λa=>zee (i:=i+1) a λj t f c=>by
   have:=h (j+1) t f (by simpa using c);rw[(W:i+1+j=i+(j+1))];exact this
  cases f<;>simp only[bh,xak]at a
  ·exact⟨h0,b a⟩
  ·exact⟨h0.1,b a⟩
  ·exact⟨h0,b a⟩
  ·exact⟨h0,b a⟩
def P5:∀{ds:N (K×TF)}{n:K},∀e∈tN ds n,∀o,va e.2.2=Z o->o<n+X ds
 |[],_,e,he=>wR he IR
 |(t,f)::r,n,e,he=>by
  intro o a;have b:e∈tN r (n+1)->o<n+X ((t,f)::r):=λhe=>by
   have:=P5 e he o a;simp only[xau];lia
  cases f<;>obtain rfl|he:=xaa.1 he<;>first|exact b he|(cases a;simp only[xau];lia)
def BP:∀{ds:N (K×TF)}{n j t:K}{f:TF},ds[j]? =Z (t,f)->∃e∈tN ds n,e.1=t
 |[],_,_,_,_,h=>by simp at h
 |(a,f')::r,n,0,t,f,h=>by
  simp only[xbB,xar,xcO]at h;obtain⟨rfl,rfl⟩:=h;cases f'<;>exact⟨_,FS,O⟩
 |(a,f')::r,n,j+1,t,f,h=>by
  have⟨e,b,h1⟩:=BP (ds:=r) (n:=n+1) (j:=j) (t:=t) (f:=f) (by simpa using h);cases f'<;>exact⟨e,UV _ b,h1⟩
def zi5{a:K×TF}{ds:N (K×TF)}(h:zg1 (a::ds)=wF){j t:K}{f:TF}(b:ds[j]? =Z (t,f)):t≠a.1:=by
 simp only[zg1,zfi,xab,xaN]at h;have:=h.1 (t,f)<|xbq b;intro e;subst e;simp at this
end
end
end Go.Proofs.YtoegnnjcmlghhaaGreat
