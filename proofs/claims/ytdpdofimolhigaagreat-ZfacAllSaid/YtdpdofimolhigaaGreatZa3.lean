/- What a proof needs: rules of walking, mirrors of functions and their plain laws. No condition. -/
import Derived.Test.YtdpdofimolhigaaGreatZa2
import Derived.RangeFuncLeaves
set_option linter.all false
namespace Go.Proofs.YtdpdofimolhigaaGreat
open Bool renaming true->I,false->yL
open Go renaming Value->xn,World->xN,TypeId->wn,Operand->wr,Program->ww,execOp->wD,run_underlying->wE,undef->wR,Oper->wT,FuncId->vi,Tmp->vn,Code->vP,resolve->vS,wpListIn->vX,maxLen->qs,wpIn_mono->qO,invoke->qR,asIntOf->jp,Act->kg,Addr->kG,builtin->ut,Exit->ZV,run_endRound->Z0,Loop->Z2,goInt->Z7
open Go.Proofs.YtdpdofimolhigaaGreat renaming Zr->G,bd->Y,za->U,nm->B,ze->Q,zf->E,iq->S
open List renaming length->X,length->Wl
open Option renaming some->Z,none->yD
open _root_ renaming rfl->O,List->N,Int->J,Nat->K,Option->V,List->zC,Nat->zV,Option->z7,trivial->xS,absurd->wl,Bool->ws,funext->wu,congrArg->wF,Array->wL,if_true->wN,if_false->wP,True->vF,cond_false->vH,cond_true->vL,reduceCtorEq->vW,reduceIte->jF,False->jN,decide_eq_true_eq->kR
open Bool renaming and_eq_true->Th,false_eq_true->xaj,false_or->xel,not_eq_true'->xcM,not_false->xfk,not_true->xdG,or_eq_true->xee
open Deferred renaming ofValue->xdx
open Fence renaming wide->xfJ
open Instr renaming slice->xfC,sliceAt->xcS,sliceBound->xeo,sliceBounds->xed
open List renaming all_eq_true->xaS,any_eq_true->xft,append_assoc->xal,append_nil->xbN,cons_append->xbJ,drop->xdD,ext_getElem?->xcC,filterMap_cons->xaL,filterMap_eq_nil_iff->xea,filter_cons->xfu,getElem?_append_left->xbb,getElem?_append_right->xbv,getElem?_cons_zero->xbU,getElem?_eq_getElem->xaa,getElem?_eq_some_iff->xav,getElem?_map->xbZ,getElem?_take->xcx,length->xaD,length_cons->xar,length_eq_one_iff->xdi,length_eq_zero_iff->xbs,length_map->xaV,length_replicate->xaR,length_set->xbz,length_take->xap,map_append->xaU,map_congr_left->xce,map_cons->xch,map_nil->xew,map_toArray->xdS,mem_append->pN,mem_cons->PQ,mem_cons_of_mem->kE,mem_cons_self->Qh,mem_filter->xcf,mem_filterMap->xeS,mem_iff_getElem?->xfl,mem_map->xan,mem_of_getElem?->xbI,mem_range->xaZ,mem_singleton->xab,nil_append->xbF,not_mem_nil->QT,perm_append_comm_assoc->xdO,perm_middle->xcj,range->xaE,set->xfL,set_getElem_self->xcW,take->xdo,take_length->xcA,take_of_length_le->xaQ
open List.Perm renaming append_left->xbC,append_right->xeZ,refl->xdJ,swap->xdK
open List.cons renaming injEq->xey
open Nat renaming add_zero->xbM,beq->xad,blt->xcU,eq_of_beq_eq_true->xdn,eq_zero_or_pos->xcb,le_add_right->xbt,le_mul_of_pos_right->xcl,le_of_ble_eq_true->xbW,le_refl->eZ,le_succ->xbG,le_trans->PX,lt_of_lt_of_le->xah,lt_or_ge->xbO,lt_succ_self->xdy,zero_add->xaF,zero_le->sB,zero_lt_one->xdN
open Op renaming operands->xaz
open Oper renaming looksAt->xbr
open Option.some renaming injEq->xao
open Prod.mk renaming injEq->xcZ
open Region renaming binds->xct
open Result renaming andThen_ok->xai
open Sem renaming run_bind->xau,run_pure->xaO
open Sum renaming elim->xfj
open Value renaming bool->xes,cells->xfA
open _root_.Array renaming getElem?_eq_some_iff->xbd,mem_toList_iff->xdC,toArray_toList->xdf
section
section
variable{P:ww}{cf:Cf}{fr:Fr}{cx σ:Sg}{vs vs':zV->xn}{env:xt}{w:xN}{R:Type}{r:R}
 {d:z7 vn}{ty t yt:wn}{pos:String}{aft:wL Edge}{g:z7 (zV×ws)}{x y:wr}
def zmb{b:wn}{ag:ws}{e bytes:K}{a:xn}{hi:wr}(f:ev env x=.slice yD 0 0)(h:P.underlying t=Z (.slice b))(i:UI P b ag e bytes a)
 (j:ev env hi=.int .i64 ((0:K):J)) (w:xN):(wD (ev env) ⟨d,.slice t x yD (Z hi) yD,ty,pos,aft,g⟩).run P w=.ok (.value (.slice yD 0 0)) w:=by
 have c:(xcS t (.slice yD 0 0) yD (Z (.int .i64 0)) yD).run P w=.ok (.slice yD 0 0) w:=by
  unfold xcS;unfold xfC;simp only[xau,wE h,xai];unfold xed;simp[xeo,jp,wM i]
 simp[wD,f,j]at c⊢;simp[c]
def ztX{i o:K}{X:Od}{Y:MF}(hi:σ.ob[i]? =Z (o,X))(a:yJ σ.ob o=σ.ob.eraseIdx i){Γ:N FF}(h:St fr.we fr.Se ((OS vs fr cx σ.ob).set i Y) Γ w):St fr.we fr.Se (Y::OS vs fr cx (yJ σ.ob o)) Γ w:=by
 have:=St.front i h<|qb<|aF hi;rw[GI,rF hi,<-a]at this;lia
def zqO(n:xm P cf.tt)(Q:ZX P cf.tt){o:K}{hi:wr}{k:Sg->V R}(hd:vz cx d=I)(T:xT cx σ x=Z (.ow o))(h:zih cf cx σ d t o hi k=Z r):
 C3 P cx ⟨d,.slice t x yD (Z hi) yD,ty,pos,aft,g⟩ σ k r:=by
 unfold zih at h;split at h
 ·next p E1 B s E xs q U=>
  have⟨Y,h1⟩:=yB h;cases Y;rcases gL h1 with⟨e,_⟩|⟨z,m,e,h2,hz⟩
  ·cases e
  ·cases e;have⟨u,h3⟩:=YK h2;have⟨ys,F,h4⟩:=x9 h3;have⟨bytes,G,hc⟩:=cZ n Q q;refine⟨_,h4,xbG _,λfr vs env w hR=> ?_⟩;have⟨H,c⟩:=hR;have⟨S0,_,f⟩:=c.ex;have A:ev env x=vs o:=zj T<|zZ f x;have C:=hz P vs env S0 w<|zZ f hi;have⟨i,J,hE,hl⟩:=vG U;have l:(OS vs fr cx σ.ob)[i]? =Z (mO p.rep E (vs o) xs):=aF J
   have a:∀v,(wD (ev env) ⟨d,.slice t x yD (Z hi) yD,ty,pos,aft,g⟩).run P w=.ok (.value v) w->St fr.we fr.Se ((OS vs fr cx σ.ob).set i<|mO p.rep E v ys) (GS P vs env fr cx σ) w->
    Yq P ⟨d,.slice t x yD (Z hi) yD,ty,pos,aft,g⟩ env w (λv w'=>B6 P fr cx σ.nx vs ⟨σ.nx+1,jq σ.rg d [(0,.ow σ.nx)],(σ.nx,.own p E ys)::yJ σ.ob o⟩ (put env d v) w'):=by
    intro v hn D;refine Yq.of_value hn<|cW (vs:=vs) (mk:=.ow) H hd (λe he=>H.o1 e<|Yk e he) (λ_=>O) (λS w=>dB S w) ?_;rw[fJ];exact ztX J hl D
   rcases xcb (xaD xs)with h0|h0
   ·have hw:m=0:=by have:m<=xaD xs:=u;lia
    subst hw;have hy:ys=xs:=by rw[F];exact(xbs.1 h0).symm▸O
    subst hy;have hp:(OS vs fr cx σ.ob).set i (mO p.rep E (vs o) ys)=OS vs fr cx σ.ob:=by
     apply xcC;intro j;rw[List.getElem?_set];split
     ·next hA=>
      subst hA;split
      ·exact l.symm
      ·next hC=>exact wl (xav.1 l).1 hC
     ·rfl
    have hv:vs o=.slice yD 0 0\/∃b cap,vs o=.slice (Z ⟨b,0,yD⟩) 0 cap:=wZ c l λS ⟨cs,h5,_⟩=>by
     rcases h5.2 with⟨h,_⟩|⟨b,cap,a0,h,_⟩
     ·exact .inl h
     ·rw[h0]at h;exact .inr ⟨b,cap,h⟩
    obtain hv|⟨b,cap,hv⟩:=hv
    ·exact a _ (zmb (A.trans hv) (jA n q) hc C w)<|by rw[<-hv,hp];exact c
    ·exact a _ (zff (A.trans hv) (jA n q) hc C (sB _) w)<|by rw[<-hv,hp];exact c
   ·have⟨b,cap,hv,L,hD,D⟩:=c.openO i l h0;have M:=D.closeO i m (qb l) u (PX u L) hD;rw[set_set]at M;exact a _ (zff (A.trans hv) (jA n q) hc C (PX u L) w)<|by rw[F];exact M
 ·cases h
def znn(H:xm P cf.tt){J:wn}{f:ws}{a:TI}{E:wn}{ob:N (K×Od)}{xs:N a.ty.D}{k:Sg->V R}(L:P.underlying t=Z (.slice E))(M:Xo cf E=Z a)(hd:vz cx d=I)
 (he:f=I->t=J) (h:zjM cf cx σ d J f a.ty E a.B a.ty.z y ob xs k=Z r):
 ∃σ',k σ'=Z r/\σ.nx<=σ'.nx/\∀(fr:Fr) (vs:K->xn) (env:xt) (w:xN) (u:xn),Bd cx σ->(∀e∈ob,e.1<σ.nx)->ev env x=u->St fr.we fr.Se (mO a.ty.rep E u xs::OS vs fr cx ob) (GS P vs env fr cx σ) w->
  Yq P ⟨d,.call ⟨.builtin .append,#[x,y],#[t,J]⟩,ty,pos,aft,g⟩ env w (λv w'=>B6 P fr cx σ.nx vs σ' (put env d v) w'):=by
 have⟨a0,hl,Q,hu⟩:=Wc H M;have hr:=(H _ _ M).2.1;have hn:=(H _ _ M).2.2.1;have bnd:∀m,m*a.B<=140737488355328->m<=9223372036854775807:=λm hm=>by
  have:=xcl m hr;lia
 unfold zjM at h;split at h
 ·next n hw=>
  split at h
  ·next q ik B' hz=>
   have⟨j,hj,h⟩:=zks h;have⟨i,h⟩:=YK h;have⟨zs,o,h⟩:=x9 h;refine⟨_,h,xbG _,λfr vs env w u s A C hc=> ?_⟩;have⟨S0,_,l⟩:=hc.ex;refine(zhW (e:=a.ty.rep) (z:=a.ty.z) (n:=j) 0 L (UZ H hz) hl Q hn O C (by rw[(vt hw<|zZ l y).1,hj]) hu (bnd _ i) i w hc).mono ?_;rintro v w' ⟨v',rfl,_,G⟩;refine cW (vs:=vs) (mk:=.ow) s hd A (λ_=>O) (λS w=>dB S w) ?_;rw[fJ,o];exact G
  ·cases h
 ·split at h
  ·next o2 t2 lo n hy=>
   split at h
   ·next s2 E2 T hA=>
    have⟨hp,h⟩:=yv h;obtain rfl:=he hp;have⟨U,h⟩:=yB h;cases U;have⟨U,h⟩:=yB h;cases U;have⟨ys,hi,h⟩:=x9 h;have⟨i,h⟩:=YK h;have⟨zs,o,h⟩:=x9 h;refine⟨_,h,xbG _,λfr vs env w u s A C hc=> ?_⟩;have⟨S0,_,l⟩:=hc.ex;have hv:=zj hy<|zZ l y;refine(iE (e:=a.ty.rep) (ys:=ys) 0 L hl Q hn O C O (λS w hM ha=> ?_) (bnd _ i) i w hc).mono ?_
    ·have hm:(mO a.ty.rep E2 (vs o2) T).p S w:=Y3 (σ:=⟨σ.nx,σ.rg,ob⟩) (F:=fr.F) hM.2 hA;rcases hv with⟨b,m,cap,c,q1,q2,Y,q4,q5⟩|⟨q1,ao,c,q2,Y⟩
     ·rw[q5,hi];exact zdb hm q1 q2 Y q4
     ·subst q1;rw[Y,hi];exact⟨ao,c,Xn,Xn,by unfold qs;lia,.inl Xn⟩
    rintro v w' ⟨v',rfl,_,G⟩;refine cW (vs:=vs) (mk:=.ow) s hd A (λ_=>O) (λS w=>dB S w) ?_;rw[fJ,o];exact G
   ·cases h
  have⟨hp,h⟩:=yv h;obtain rfl:=he hp;have⟨ys,h,hi⟩:=JX h;have⟨i,h⟩:=YK h;have⟨zs,o,h⟩:=x9 h;refine⟨_,h,xbG _,λfr vs env w u s A C hc=> ?_⟩;refine(zky (e:=a.ty.rep) (ys:=ys) 0 L hl Q hn O C O (λS w ha=>hi P vs env S w<|zZ ha y) (bnd _ i) i w hc).mono ?_;rintro v w' ⟨v',rfl,_,G⟩;refine cW (vs:=vs) (mk:=.ow) s hd A (λ_=>O) (λS w=>dB S w) ?_;rw[fJ,o];exact G
def zws(j:xm P cf.tt){a:wL wr}{ts:wL wn}{k:Sg->V R}(hd:vz cx d=I)(h:zux cf cx σ d a.toList ts.toList k=Z r):
 C3 P cx ⟨d,.call ⟨.builtin .append,a,ts⟩,ty,pos,aft,g⟩ σ k r:=by
 unfold zux at h;split at h
 ·next _ _ x y t C hl hn=>
  obtain rfl:a= #[x,y]:=by cases a;simp_all
  obtain rfl:ts= #[t,C]:=by cases ts;simp_all
  split at h
  ·next s E B v=>
   split at h
   ·next D hc=>
    have⟨hi,h1⟩:=yB h;subst hi;split at h1
    ·next l=>
     have⟨σ',m,n,p⟩:=znn (ty:=ty) (pos:=pos) (aft:=aft) (g:=g) (x:=x) j (jA j v) hc hd (λh=>yr h) h1;refine⟨σ',m,n,λfr vs env w q=> ?_⟩;have⟨c,f⟩:=q;have⟨S0,_,b⟩:=f.ex;exact p fr vs env w _ c c.o1 (zj l<|zZ b x) f.nilO
    ·next o l=>
     split at h1
     ·next Q F xs G=>
      have⟨u,H⟩:=yv h1;have u:=yr u;subst u;have⟨J,K⟩:=yB H;cases J;have⟨σ',m,n,p⟩:=znn (ty:=ty) (pos:=pos) (aft:=aft) (g:=g) (x:=x) j (jA j v) hc hd (λh=>yr h) K;refine⟨σ',m,n,λfr vs env w q=> ?_⟩;have⟨c,f⟩:=q;have⟨S0,_,b⟩:=f.ex;have⟨i,z,S,L⟩:=vG G;have M:(OS vs fr cx σ.ob)[i]? =Z (mO D.ty.rep F (vs o) xs):=aF z;have A:=f.front i M;rw[rF z,<-L]at A;exact p fr vs env w _ c (λe N=>c.o1 e<|Yk e N) (zj l<|zZ b x) A
     ·cases h1
    ·cases h1
   ·cases h
  ·cases h
 ·cases h
theorem zqI{α:Type}(xs ys:N α):X (cpy xs ys)=X xs:=by grind [cpy]
theorem zr8{α:Type}{xs:N α}(ys:N α)(h:X xs=0):cpy xs ys=xs:=by grind [cpy]
def zvb{α:Type}(xs ys:N α):xdo 0 xs++xdo (min (X ys) (X xs)) ys++xdD (0+min (X ys) (X xs)) xs=cpy xs ys:=by simp[cpy]
def zhn{α:Type}(lo:K)(xs ys:N α):Bh lo 0 xs ys=xs:=by simp[Bh]
theorem zlj{α:Type}{lo n:K}{xs:N α}(ys:N α)(h:lo+n<=X xs):X (Bh lo n xs ys)=X xs:=by grind [Bh]
def zuG(L:xm P cf.tt)(hL:ZX P cf.tt){A:wL wr}{ts:wL wn}{k:Sg->V R}(hd:vz cx d=I)(h:zpD cf cx σ d A.toList ts.toList k=Z r):
 C3 P cx ⟨d,.call ⟨.builtin .copy,A,ts⟩,ty,pos,aft,g⟩ σ k r:=by
 unfold zpD at h;split at h
 ·next x y t t' hJ hK=>
  obtain rfl:A= #[x,y]:=by cases A;simp_all
  obtain rfl:ts= #[t,t']:=by cases ts;simp_all
  split at h
  ·next s E B o F hx=>
   split at h
   ·next s' a xs N=>
    have⟨hw,h⟩:=yB h;cases hw;have⟨ys,h,Q⟩:=JX h;have⟨zs,f,h⟩:=x9 h;have f:zs=cpy (α:=s.D) xs ys:=f;have⟨bytes,T,U⟩:=cZ L hL F;refine⟨_,h,eZ _,λfr vs env w hR=> ?_⟩;have⟨Y,hc⟩:=hR;have⟨S0,_,j⟩:=hc.ex;have hl:ev env x=vs o:=zj hx<|zZ j x;have⟨i,hi,hn,hG⟩:=vG N;have p:(OS vs fr cx σ.ob)[i]? =Z (mO s.rep a (vs o) xs):=aF hi;have q:∀v w',St fr.we fr.Se ((OS vs fr cx σ.ob).set i<|mO s.rep a (vs o) zs) (GS P vs env fr cx σ) w'->B6 P fr cx σ.nx vs ⟨σ.nx,jq σ.rg d [],Zf σ.ob o (.own s a zs)⟩ (put env d v) w':=λv w' G=>by
     refine aU (σ':=⟨σ.nx,jq σ.rg d [],Zf σ.ob o (.own s a zs)⟩) (d:=d) (l:=[]) (vs:=vs) (vs':=vs) (Γl:=[]) Y hd O (eZ _) (λ_ _=>O) (λ_ u=>wl u QT) (λe u=> ?_) (λS w _ e u=>wl u QT) ?_
     ·have⟨e',h1,h2⟩:=UU N e u;rw[<-h2];exact Y.o1 e' h1
     ·rw[hn];show St _ _ (MS vs (σ.ob.set i (o,.own s a zs))++_) _ _;rw[<-NU hi];exact G
    rcases xcb (xaD xs)with h0|h0
    ·have hv:vs o=.slice yD 0 0\/∃b cap,vs o=.slice (Z ⟨b,0,yD⟩) 0 cap:=wZ hc p λS ⟨cs,h5,_⟩=>by
      rcases h5.2 with⟨h,_⟩|⟨b,cap,a0,h,_⟩
      ·exact .inl h
      ·rw[h0]at h;exact .inr ⟨b,cap,h⟩
     have⟨H,cap,hv⟩:∃H cap,vs o=.slice H 0 cap:=by
      obtain hv|⟨b,cap,hv⟩:=hv
      ·exact⟨_,_,hv⟩
      ·exact⟨_,_,hv⟩
     have⟨M,z,hu,_⟩:=wc.1<|Q P vs env S0 w<|zZ j y;have⟨ti,hA,i1,i2,i3⟩:=U.info;have hC:(P.info? E).map (·.size)=Z s.rep.n:=by rw[hA];simp[i1]
     have hr:=UX (P:=P) w t t' ty E H M 0 cap (xaD ys) z (jA L F) hC<|Nat.min_zero _;rw[<-hu,<-hv,<-hl]at hr;have hz:zs=xs:=f.trans<|zr8 (α:=s.D) ys h0;refine Yq.of_value (v:=Z7 0) (w':=w) ?_<|q _ w ?_
     ·simp only[wD,vS,qR,ut,xdS,xch,xew,xau,hr,xaO,xai]
     ·have:(OS vs fr cx σ.ob).set i (mO s.rep a (vs o) xs)=OS vs fr cx σ.ob:=by
       have⟨hH,hD⟩:=xav.1 p;rw[<-hD,xcW]
      rw[hz,this];exact hc
    ·have⟨b,cap,hv,hE,hF,G⟩:=hc.openO i p h0;refine(zfr (e:=s.rep) (l:=0) (dLen:=xaD xs) (dCap:=cap) i (jA L F) U (qb p) (by rw[hl,hv];simp) O W (λS w ha=>Q P vs env S w<|zZ ha y) w G).mono ?_;rintro v w' ⟨n,rfl,_,J⟩;refine q _ w' ?_;have hz:=(zvb (α:=s.D) xs ys).trans f.symm;rw[hz]at J;have hf:xaD zs=xaD xs:=by rw[f];exact zqI (α:=s.D) xs ys
     have hq:=J.closeF i (qb<|qb p) (by rw[hf];exact hE) hF;rw[set_set,set_set,hf,<-hv]at hq;exact hq
   ·cases h
  ·next s E B o t2 lo n F hx=>
   split at h
   ·next s' a xs hj N _=>
    have⟨hw,h⟩:=yB h;cases hw;have⟨ys,h,Q⟩:=JX h;have⟨zs,f,h⟩:=x9 h;have f:zs=Bh (α:=s.D) lo n xs ys:=f;have⟨hj⟩:=hj;subst hj;have⟨bytes,T,U⟩:=cZ L hL F;refine⟨_,h,eZ _,λfr vs env w hR=> ?_⟩;have⟨Y,hc⟩:=hR;have⟨S0,_,j⟩:=hc.ex;have hl:=zj hx<|zZ j x;have⟨i,hi,hn,hG⟩:=vG N;have p:(OS vs fr cx σ.ob)[i]? =Z (mO t2.rep a (vs o) xs):=aF hi;have q:∀v w',St fr.we fr.Se ((OS vs fr cx σ.ob).set i<|mO t2.rep a (vs o) zs) (GS P vs env fr cx σ) w'->B6 P fr cx σ.nx vs ⟨σ.nx,jq σ.rg d [],Zf σ.ob o (.own t2 a zs)⟩ (put env d v) w':=λv w' G=>by
     refine aU (σ':=⟨σ.nx,jq σ.rg d [],Zf σ.ob o (.own t2 a zs)⟩) (d:=d) (l:=[]) (vs:=vs) (vs':=vs) (Γl:=[]) Y hd O (eZ _) (λ_ _=>O) (λ_ u=>wl u QT) (λe u=> ?_) (λS w _ e u=>wl u QT) ?_
     ·have⟨e',h1,h2⟩:=UU N e u;rw[<-h2];exact Y.o1 e' h1
     ·rw[hn];show St _ _ (MS vs (σ.ob.set i (o,.own t2 a zs))++_) _ _;rw[<-NU hi];exact G
    obtain h0|h0:=xcb n
    ·have⟨H,c,hv⟩:∃H c,ev env x=.slice H 0 c:=by
      rcases hl with⟨b,m,cap,c,q1,q2,q3,q4,q5⟩|⟨q1,M,c,q2,q3⟩
      ·exact⟨_,c,by rw[q5,h0]⟩
      ·exact⟨M,c,q3⟩
     have⟨M,z,hu,_⟩:=wc.1<|Q P vs env S0 w<|zZ j y;have⟨ti,hA,i1,i2,i3⟩:=U.info;have hC:(P.info? E).map (·.size)=Z t2.rep.n:=by rw[hA];simp[i1]
     have hr:=UX (P:=P) w t t' ty E H M 0 c (xaD ys) z (jA L F) hC<|Nat.min_zero _;rw[<-hu,<-hv]at hr;have hz:zs=xs:=by rw[f,h0];exact zhn (α:=t2.D) lo xs ys
     refine Yq.of_value (v:=Z7 0) (w':=w) ?_<|q _ w ?_
     ·simp only[wD,vS,qR,ut,xdS,xch,xew,xau,hr,xaO,xai]
     ·have:(OS vs fr cx σ.ob).set i (mO t2.rep a (vs o) xs)=OS vs fr cx σ.ob:=by
       have⟨hH,hD⟩:=xav.1 p;rw[<-hD,xcW]
      rw[hz,this];exact hc
    ·rcases hl with⟨b0,m,C,c,q1,q2,q3,q4,q5⟩|⟨q1,M,c,q2,q3⟩
     ·have hI:m=xaD xs:=wZ hc p λS hp=>FC hp q1;subst hI;have⟨b,cap,hv,hE,hF,G⟩:=hc.openO i p W;rw[q1]at hv;cases hv;refine(zfr (e:=t2.rep) (l:=lo) (dLen:=n) (dCap:=c) i (jA L F) U (qb p) q5 O q2 (λS w ha=>Q P vs env S w<|zZ ha y) w G).mono ?_;rintro v w' ⟨nn,rfl,_,J⟩;refine q _ w' ?_;have J:St fr.we fr.Se (((OS vs fr cx σ.ob).set i<|mB (rowT t2.rep C) a b0 xs).set i<|mB (rowT t2.rep C) a b0<|Bh (α:=t2.D) lo n xs ys) (GS P vs env fr cx σ) w':=J;rw[<-f]at J;have hf:xaD zs=xaD xs:=by rw[f];exact zlj (α:=t2.D) ys q2
      have hq:=J.closeF i (qb<|qb p) (by rw[hf];exact hE) hF;rw[set_set,set_set,hf,<-q1]at hq;exact hq
     ·lia
   ·cases h
  ·cases h
 ·cases h
end
end
section
section
variable{P:ww}{cf:Cf}{fr:Fr}{cx σ:Sg}{vs vs':zV->xn}{env:xt}{w:xN}{R:Type}{r:R}
 {d:z7 vn}{ty t yt:wn}{pos:String}{aft:wL Edge}{g:z7 (zV×ws)}{x y:wr}
def znm{a b:K}(h:a≠b):xad a b=yL:=XO h
def gi:∀{ob:N (K×Od)}{o p:K},p≠o->xQ (yJ ob o) p=xQ ob p
 |[],_,_,_=>rfl
 |(q,X)::r,o,p,h=>by
  unfold yJ;cases a:xad q o
  ·simp only[vH];unfold xQ;rw[gi h]
  ·simp only[vL];have:=yr a;subst this;conv=>rhs;unfold xQ
   rw[znm<|λe=>h e.symm];rfl
def kq{ob:N (K×Od)}{p:K}:∀{os:N K},Bt os p=yL->xQ (qU ob os) p=xQ ob p
 |[],_=>rfl
 |o::r,h=>by
  simp only[Bt,List.any_cons,Bool.or_eq_false_iff]at h;unfold qU;rw[gi (λe=>by subst e;simp at h),kq h.2]
def gK{ob:N (K×Od)}:∀{os:N K},∀e∈qU ob os,e∈ob
 |[],_,h=>h
 |o::r,e,h=>gK e<|Yk e h
def zj1{α:Type _}:∀{l:N α}{i:K}{a:α},l[i]? =Z a->l.Perm (a::l.eraseIdx i)
 |[],_,_,h=>by simp at h
 |b::l,0,a,h=>by simp at h;subst h;exact xdJ _
 |b::l,i+1,a,h=>((zj1<|by simpa using h).cons b).trans<|xdK _ _ _
def kU{ob:N (K×Od)}{o:K}{X:Od}(h:xQ ob o=Z X):(OS vs fr cx ob).Perm (bH vs (o,X)::OS vs fr cx (yJ ob o)):=by
 have⟨i,h1,_,a⟩:=vG h;show(MS vs ob++(MS vs cx.ob++fr.F)).Perm (bH vs (o,X)::(MS vs (yJ ob o)++(MS vs cx.ob++fr.F)));rw[a,<-rF h1];exact zj1<|aF h1
def iL(C:∀s∈cf.cs,xI P s):∀{dom:N AM}{xs:N wr}{cs:N PD}{k:pK dom->N K->V R},Xa cf cx σ dom xs cs k=Z r->
 ∃z os,k z os=Z r/\Wl xs+Wl cs=Wl dom/\(∀o∈os,∃X,(o,X)∈σ.ob)/\∀vs (fr:Fr) env S w,(∀x,VD P vs env S w cx σ x)->∀a:N xn,Wl a=Wl cs->zK S (zc3 cs a) w->
  zK S (YY P dom z<|xs.map (ev env)++a) w/\(OS vs fr cx σ.ob).Perm (W6 dom z (xs.map (ev env)++a)++OS vs fr cx (qU σ.ob os))/\cR dom (xs.map (ev env)++a)=os.map vs
 |[],[],[],k,h=>⟨(),[],h,O,λ_ l=>wl l QT,λ_ _ _ _ _ _ _ _ _=>⟨xS,xdJ _,O⟩⟩
 |.q t::dom,[],c::cs,k,h=>by
  simp only[Xa]at h;have⟨e,h⟩:=yB h;subst e;have⟨z,os,h1,n,l,u⟩:=iL C h;refine⟨_,os,h1,by simp at n⊢;lia,l,λvs fr env S w hl a m hc=> ?_⟩
  cases a with
  |nil=>cases m
  |cons v a=>have⟨j,A,B⟩:=u vs fr env S w hl a (by simpa using m) hc.2;exact⟨⟨hc.1,j⟩,A,B⟩
 |.d t::dom,x::xs,cs,k,h=>by
  simp only[Xa]at h;have⟨y,h,M⟩:=JX h;have⟨z,os,h1,n,l,u⟩:=iL C h;exact⟨_,os,h1,by simp at n⊢;lia,l,λvs fr env S w hl a m hc=>by have⟨j,A,B⟩:=u vs fr env S w hl a m hc;exact⟨⟨M P vs env S w<|hl x,j⟩,A,B⟩⟩
 |.q t::dom,x::xs,cs,k,h=>by
  simp only[Xa]at h;split at h
  ·next s y F=>
   have⟨e,h⟩:=yB h;subst e;have⟨z,os,h1,n,l,u⟩:=iL C h;exact⟨_,os,h1,by simp at n⊢;lia,l,λvs fr env S w hl a m hc=>by have⟨j,A,B⟩:=u vs fr env S w hl a m hc;exact⟨⟨zj F<|hl x,j⟩,A,B⟩⟩
  ·cases h
 |.own t E::dom,x::xs,cs,k,h=>by
  simp only[Xa]at h;split at h
  ·next o F=>
   split at h
   ·next s Q ys hd=>
    have⟨D,G⟩:=yv h;have D:=yr D;subst D;have⟨e,H⟩:=yB G;cases e;have⟨z,os,J,n,l,u⟩:=iL C H;have⟨hn,h1⟩:=yv J;simp only[xcM]at hn;refine⟨_,o::os,h1,by simp at n⊢;lia,λp hp=> ?_,λvs fr env S w hl a m hc=> ?_⟩
    ·obtain rfl|hp:=PQ.1 hp
     ·have⟨i,j,_⟩:=vG hd;exact⟨_,xbI j⟩
     ·exact l p hp
    have⟨j,A,B⟩:=u vs fr env S w hl a m hc;have hv:ev env x=vs o:=zj F<|hl x;refine⟨⟨xS,j⟩,A.trans ?_,?_⟩
    ·have hp:=kU (vs:=vs) (fr:=fr) (cx:=cx)<|(kq hn).trans hd;refine(xbC _ hp).trans ?_;refine xcj.trans ?_;show List.Perm _ (mO t.rep E (ev env x) _::(W6 dom z (xs.map (ev env)++a)++_));rw[hv];exact xdJ _
    ·show ev env x::cR dom (xs.map (ev env)++a)=vs o::os.map vs;rw[hv,B]
   ·cases h
  ·cases h
 |.var t E::dom,x::xs,cs,k,h=>by
  simp only[Xa]at h;split at h
  ·next o Y F=>
   split at h
   ·next s Q y hd=>
    have⟨D,G⟩:=yv h;have D:=yr D;subst D;have⟨e,H⟩:=yB G;subst e;have⟨z,os,J,n,l,u⟩:=iL C H;have⟨hn,h1⟩:=yv J;simp only[xcM]at hn;refine⟨_,o::os,h1,by simp at n⊢;lia,λp hp=> ?_,λvs fr env S w hl a m hc=> ?_⟩
    ·obtain rfl|hp:=PQ.1 hp
     ·have⟨i,j,_⟩:=vG hd;exact⟨_,xbI j⟩
     ·exact l p hp
    have⟨j,A,B⟩:=u vs fr env S w hl a m hc;have⟨hv,b,T⟩:=zj F<|hl x;refine⟨⟨⟨b,hv.trans T⟩,j⟩,A.trans ?_,?_⟩
    ·have hp:=kU (vs:=vs) (fr:=fr) (cx:=cx)<|(kq hn).trans hd;refine(xbC _ hp).trans ?_;refine xcj.trans ?_;show List.Perm _ (mP s.rep.c E (ev env x) _::(W6 dom z (xs.map (ev env)++a)++_));rw[hv];exact xdJ _
    ·show ev env x::cR dom (xs.map (ev env)++a)=vs o::os.map vs;rw[hv,B]
   ·cases h
  ·cases h
 |.fn L cod::dom,x::xs,cs,k,h=>by
  simp only[Xa]at h;have⟨f,h,U⟩:=zmW C h;have⟨z,os,h1,n,l,u⟩:=iL C h;refine⟨_,os,h1,by simp at n⊢;lia,l,λvs fr env S w hl a m hc=> ?_⟩;have⟨j,A,B⟩:=u vs fr env S w hl a m hc;refine⟨⟨?_,j⟩,A,B⟩
  cases hv:xT cx σ x with
  |none=>rename_i h0;rw[hv]at h0;simp[asF]at h0
  |some v=>exact U vs S w v _ hv<|zj hv<|hl x
 |[],_::_,_,_,h=>by simp[Xa]at h
 |[],[],_::_,_,h=>by simp[Xa]at h
 |.d _::_,[],_,_,h=>by simp[Xa]at h
 |.own _ _::_,[],_,_,h=>by simp[Xa]at h
 |.var _ _::_,[],_,_,h=>by simp[Xa]at h
 |.fn _ _::_,[],_,_,h=>by simp[Xa]at h
 |.q _::_,[],[],_,h=>by simp[Xa]at h
def BG:N RM->N xn->K->(K->xn)->K->xn
 |[],_,_,vs=>vs
 |.d _::r,us,o,vs=>BG r us.tail o vs
 |.own _ _::r,us,o,vs=>V8 (BG r us.tail (o+1) vs) o<|us.headD wR
 |.var _ _::r,us,o,vs=>V8 (BG r us.tail (o+1) vs) o<|us.headD wR
def UF:∀{rs:N RM}{us:N xn}{o k:K},k<o->BG rs us o vs k=vs k
 |[],_,_,_,_=>rfl
 |.d _::r,us,o,k,h=>UF (rs:=r) h
 |.own _ _::r,us,o,k,h=>by
  show V8 _ o _ k=_;rw[uX h,UF W]
 |.var _ _::r,us,o,k,h=>by
  show V8 _ o _ k=_;rw[uX h,UF W]
def Gu{n o:K}{v:xn}(h:o≠n):V8 vs n v o=vs o:=by unfold V8;rw[XO h];rfl
theorem cc:∀{rs:N RM}{x:CZ rs}{i o:K},(∀e∈(Yc rs x i o).2,o<=e.1/\e.1<o+(Yc rs x i o).2.length)
 |[],_,_,_,e,he=>wl he QT
 |[.d _],_,_,_,e,he=>wl he QT
 |[.own _ _],_,_,o,e,he=>by
  obtain rfl:=xab.1 he;grind
 |[.var _ _],_,_,o,e,he=>by
  obtain rfl:=xab.1 he;grind
 |.d t::n::r,x,i,o,e,he=>cc (rs:=n::r) (x:=x.2) (i:=i+1) e he
 |.own t E::n::r,x,i,o,e,he=>by
  have he:e∈(o,Od.own t E x.1)::(Yc (n::r) x.2 (i+1)<|o+1).2:=he;have a:(Yc (.own t E::n::r) x i o).2.length=(Yc (n::r) x.2 (i+1)<|o+1).2.length+1:=O;rw[a];obtain rfl|he:=PQ.1 he
  ·lia
  ·have:=cc (rs:=n::r) (x:=x.2) (i:=i+1) (o:=o+1) e he;lia
 |.var t E::n::r,x,i,o,e,he=>by
  have he:e∈(o,Od.var t E x.1)::(Yc (n::r) x.2 (i+1)<|o+1).2:=he;have a:(Yc (.var t E::n::r) x i o).2.length=(Yc (n::r) x.2 (i+1)<|o+1).2.length+1:=O;rw[a];obtain rfl|he:=PQ.1 he
  ·exact⟨eZ _,by show o<_;lia⟩
  ·have:=cc (rs:=n::r) (x:=x.2) (i:=i+1) (o:=o+1) e he;lia
def EN:∀{rs:N RM}{x:CZ rs}{us:N xn}{i o:K},MS (BG rs us o vs) (Yc rs x i o).2=Wx rs x us
 |[],_,_,_,_=>rfl
 |[.d _],_,_,_,_=>rfl
 |[.own t E],x,us,i,o=>by exact wF (λm=>[m])<|fJ
 |[.var t E],x,us,i,o=>by exact wF (λm=>[m])<|zcs
 |.var t E::n::r,x,us,i,o=>by
  refine List.cons_eq_cons.2 ⟨zcs,?_⟩;exact(vc λe a=>Gu (by have:=cc e a;lia)).trans EN
 |.d t::n::r,x,us,i,o=>by
  show MS (BG (n::r) us.tail o vs) (Yc (n::r) x.2 (i+1) o).2=Wx (n::r) x.2 us.tail;exact EN
 |.own t E::n::r,x,us,i,o=>by
  refine List.cons_eq_cons.2 ⟨fJ,?_⟩;exact(vc λe a=>Gu (by have:=cc e a;lia)).trans EN
def oy:∀{rs:N RM}{x:CZ rs}{i o:K},∀e∈(Yc rs x i o).1,∀p,qd e.2=Z p->p<o+(Yc rs x i o).2.length
 |[],_,_,_,e,he=>wl he QT
 |[.d _],_,_,_,e,he=>by
  obtain rfl:=xab.1 he;intro p hp;cases hp
 |[.own _ _],_,_,o,e,he=>by
  obtain rfl:=xab.1 he;intro p hp;cases hp;exact xdy _
 |[.var _ _],_,_,o,e,he=>by
  obtain rfl:=xab.1 he;intro p hp;cases hp;exact xdy _
 |.var t E::n::r,x,i,o,e,he=>by
  have a:(Yc (.var t E::n::r) x i o).2.length=(Yc (n::r) x.2 (i+1)<|o+1).2.length+1:=O;rw[a];obtain rfl|he:=PQ.1 he
  ·intro p hp;cases hp;lia
  ·intro p hp;have:=oy (rs:=n::r) (x:=x.2) (i:=i+1) (o:=o+1) e he p hp;lia
 |.d t::n::r,x,i,o,e,he=>by
  obtain rfl|he:=PQ.1 he
  ·intro p hp;cases hp
  ·exact oy (rs:=n::r) (x:=x.2) (i:=i+1) e he
 |.own t E::n::r,x,i,o,e,he=>by
  have a:(Yc (.own t E::n::r) x i o).2.length=(Yc (n::r) x.2 (i+1)<|o+1).2.length+1:=O;rw[a];obtain rfl|he:=PQ.1 he
  ·intro p hp;cases hp;lia
  ·intro p hp;have:=oy (rs:=n::r) (x:=x.2) (i:=i+1) (o:=o+1) e he p hp;lia
def E6:∀{rs:N RM}{x:CZ rs}{i o:K},∀e∈(Yc rs x i o).1,∀p,qd e.2=Z p->o<=p
 |[],_,_,_,e,he=>wl he QT
 |[.d _],_,_,_,e,he=>by
  obtain rfl:=xab.1 he;intro p hp;cases hp
 |[.own _ _],_,_,o,e,he=>by
  obtain rfl:=xab.1 he;intro p hp;cases hp;exact eZ _
 |[.var _ _],_,_,o,e,he=>by
  obtain rfl:=xab.1 he;intro p hp;cases hp;exact eZ _
 |.var t E::n::r,x,i,o,e,he=>by
  obtain rfl|he:=PQ.1 he
  ·intro p hp;cases hp;exact eZ _
  ·intro p hp;have:=E6 e he p hp;lia
 |.d t::n::r,x,i,o,e,he=>by
  obtain rfl|he:=PQ.1 he
  ·intro p hp;cases hp
  ·exact E6 e he
 |.own t E::n::r,x,i,o,e,he=>by
  obtain rfl|he:=PQ.1 he
  ·intro p hp;cases hp;exact eZ _
  ·intro p hp;have:=E6 e he p hp;lia
def Oj:∀{rs:N RM}{x:CZ rs}{us:N xn}{i o:K}{S:K->Prop},zK S (X4 rs x us) w->X us=X rs->∀e∈(Yc rs x i o).1,∃j u,e.1=i+j/\us[j]? =Z u/\(qk P (BG rs us o vs) e.2 u).p S w
 |[],_,_,_,_,_,_,_,e,he=>wl he QT
 |[m],_,[],_,_,_,_,hl,_,_=>by cases hl
 |[.d _],x,u::us,i,o,S,h,hl,e,he=>by
  obtain rfl:=xab.1 he;exact⟨0,u,O,O,h.1⟩
 |[.own _ _],x,u::us,i,o,S,h,hl,e,he=>by
  obtain rfl:=xab.1 he;exact⟨0,u,O,O,(wG (vs:=vs)).symm⟩
 |[.var _ _],x,u::us,i,o,S,h,hl,e,he=>by
  obtain rfl:=xab.1 he;have h1:=wG (vs:=vs) (n:=o) (v:=u);exact⟨0,u,O,O,h1.symm,by have⟨b,f⟩:=h.1;exact⟨b,h1.trans f⟩⟩
 |.var t E::n::r,x,u::us,i,o,S,h,hl,e,he=>by
  obtain rfl|he:=PQ.1 he
  ·have h1:=wG (vs:=BG (n::r) us (o+1) vs) (n:=o) (v:=u);exact⟨0,u,O,O,h1.symm,by have⟨b,f⟩:=h.1;exact⟨b,h1.trans f⟩⟩
  ·have⟨j,v,h1,a,c⟩:=Oj (rs:=n::r) (x:=x.2) (i:=i+1) (o:=o+1) h.2 (by simpa using hl) e he;refine⟨j+1,v,W,by simpa using a,?_⟩;have:qk P (BG (.var t E::n::r) (u::us) o vs) e.2 v=qk P (BG (n::r) us (o+1) vs) e.2 v:=Ag (λp hp=>Gu (by have:=E6 (rs:=n::r) (x:=x.2) (i:=i+1) (o:=o+1) e he p hp;lia)) v;rw[this];exact c
 |_::n::r,x,[],_,_,_,_,hl,_,_=>by cases hl
 |.d t::n::r,x,u::us,i,o,S,h,hl,e,he=>by
  obtain rfl|he:=PQ.1 he
  ·exact⟨0,u,O,O,h.1⟩
  ·have⟨j,v,h1,a,c⟩:=Oj (rs:=n::r) (x:=x.2) (i:=i+1) (o:=o) h.2 (by simpa using hl) e he;exact⟨j+1,v,W,by simpa using a,c⟩
 |.own t E::n::r,x,u::us,i,o,S,h,hl,e,he=>by
  obtain rfl|he:=PQ.1 he
  ·exact⟨0,u,O,O,(wG (vs:=BG (n::r) us (o+1) vs)).symm⟩
  ·have⟨j,v,h1,a,c⟩:=Oj (rs:=n::r) (x:=x.2) (i:=i+1) (o:=o+1) h (by simpa using hl) e he;refine⟨j+1,v,W,by simpa using a,?_⟩;have:qk P (BG (.own t E::n::r) (u::us) o vs) e.2 v=qk P (BG (n::r) us (o+1) vs) e.2 v:=Ag (λp hp=>Gu (by have:=E6 (rs:=n::r) (x:=x.2) (i:=i+1) (o:=o+1) e he p hp;lia)) v;rw[this];exact c
def zpF{f:vi}{a:N wr}:∀{cs:N QY}{s:QY},ziF cx σ f a cs=Z s->s∈cs/\s.f=f
 |c::cs,s,h=>by
  unfold ziF at h;split at h
  ·simp_all
  ·have⟨h1,b⟩:=zpF h;exact⟨kE _ h1,b⟩
theorem zkG{rs:N RM}{x:CZ rs}{us:N xn}{o:K}{S:K->Prop}(h:zK S (X4 rs x us) w)(hl:X us=X rs):∀e∈(Yc rs x (bif iZ rs then 0 else 1) o).1,(qI P (BG rs us o vs) e.2 (Qa us) e.1).p S w:=by
 intro e c;have⟨j,u,h1,a,b⟩:=Oj (P:=P) (vs:=vs) h hl e c;have⟨i,dv⟩:=e
 match us,hl,a with
 |[],_,a=>simp at a
 |[v],hl,a=>
  obtain rfl:j=0:=by
   obtain _|j:=j
   ·rfl
   ·grind
  obtain⟨m,rfl⟩:=xdi.1 hl.symm;simp only[iZ,vL]at h1;simp only[xbU,xao]at a;subst h1;subst a;exact b
 |v::f::us,hl,a=>
  have:iZ rs=yL:=by
   match rs,hl with
   |[],_=>rfl
   |_::_::_,_=>rfl
  rw[this]at h1;simp only[vH]at h1;obtain rfl:i=j+1:=W
  exact⟨(v::f::us).toArray,u,O,by simpa using a,b⟩
def Et:N RM->N xn->N xn
 |[],_=>[]
 |.d _::r,us=>Et r us.tail
 |.own _ _::r,us=>us.headD wR::Et r us.tail
 |.var _ _::r,us=>us.headD wR::Et r us.tail
def tE:∀{rs:N RM}{x:CZ rs}{us:N xn}{i o:K},(Yc rs x i o).2.map (λe=>BG rs us o vs e.1)=Et rs us
 |[],_,_,_,_=>rfl
 |[.d _],x,us,i,o=>rfl
 |[.own t E],x,us,i,o=>by
  show[V8 vs o (us.headD wR) o]=[us.headD wR];rw[wG]
 |[.var t E],x,us,i,o=>by
  show[V8 vs o (us.headD wR) o]=[us.headD wR];rw[wG]
 |.var t E::n::r,x,us,i,o=>by
  show V8 (BG (n::r) us.tail (o+1) vs) o (us.headD wR) o::(Yc (n::r) x.2 (i+1)<|o+1).2.map (λe=>BG (.var t E::n::r) us o vs e.1)=us.headD wR::Et (n::r) us.tail;rw[wG,<-tE];congr 1;refine xce λe a=> ?_;exact Gu (by have:=cc e a;lia)
 |.d t::n::r,x,us,i,o=>tE (rs:=n::r)
 |.own t E::n::r,x,us,i,o=>by
  show V8 (BG (n::r) us.tail (o+1) vs) o (us.headD wR) o::(Yc (n::r) x.2 (i+1)<|o+1).2.map (λe=>BG (.own t E::n::r) us o vs e.1)=us.headD wR::Et (n::r) us.tail;rw[wG,<-tE];congr 1;refine xce λe a=> ?_;exact Gu (by have:=cc e a;lia)
def Nj:∀{m:K}{rs:N RM}{us:N xn},EB m rs=I->X us=X rs->Et rs us=us.drop m
 |0,[],us,_,hl=>by
  obtain rfl:=xbs.1 hl;rfl
 |0,.own _ _::r,[],_,hl=>by cases hl
 |0,.own _ _::r,u::us,h,hl=>by
  show u::Et r us=u::us;rw[Nj (rs:=r) h<|by simpa using hl];rfl
 |0,.var _ _::r,[],_,hl=>by cases hl
 |0,.var _ _::r,u::us,h,hl=>by
  show u::Et r us=u::us;rw[Nj (rs:=r) h<|by simpa using hl];rfl
 |m+1,.d _::r,[],_,hl=>by cases hl
 |m+1,.d _::r,u::us,h,hl=>Nj (m:=m) h<|by simpa using hl
 |0,.d _::_,_,h,_=>by cases h
 |_+1,[],_,h,_=>by cases h
 |_+1,.own _ _::_,_,h,_=>by cases h
 |_+1,.var _ _::_,_,h,_=>by cases h
def zi8{vs':K->xn}:∀{os:N K}{ob:N (K×Od)},os.map vs'=ob.map (λe=>vs' e.1)->MS vs' (S6 os ob)=MS vs' ob
 |[],[],_=>rfl
 |[],_::_,h=>by cases h
 |_::_,[],h=>by cases h
 |o::os,(p,X)::ob,h=>by
  simp only[xch,xey]at h;show bH vs' (o,X)::MS vs' (S6 os ob)=bH vs' (p,X)::MS vs' ob;rw[zi8 h.2];cases X<;>simp only[bH]<;>rw[h.1]
def zeU:∀{os:N K}{ob:N (K×Od)},∀e∈S6 os ob,e.1∈os
 |[],_,e,he=>wl he<|by simp[S6]
 |_::_,[],e,he=>wl he<|by simp[S6]
 |o::os,p::ob,e,he=>by
  rcases PQ.1 (show e∈(o,p.2)::S6 os ob from he)with rfl|he
  ·simp_all
  ·exact kE _<|zeU e he
def zif{rs:N RM}{x:CZ rs}{us:N xn}{o m:K}{S:K->Prop}(h:zK S (X4 rs x us) w)(hl:X us=X rs)(z:m<=X us):∀e∈(Yc rs x (Mj m) o).1.filter (λe=>xcU e.1<|Mj m+m),(qI P (BG rs us o vs) e.2 (Qa<|us.take m) e.1).p S w:=by
 intro e c;have⟨c,f⟩:=xcf.1 c;have f:e.1<Mj m+m:=Nat.blt_eq.mp f;have⟨j,u,h1,n,l⟩:=Oj (P:=P) (vs:=vs) h hl e c;have⟨i,dv⟩:=e;simp only at h1 f;have q:j<m:=W
 have a:(us.take m)[j]? =Z u:=by rw[xcx,iq q];exact n
 have b:X (us.take m)=m:=by rw[xap];lia
 generalize us.take m=vs' at*
 match vs',b,a with
 |[],b,a=>simp at a
 |[v],b,a=>
  obtain rfl:m=1:=b.symm;obtain rfl:j=0:=W
  simp only[xbU,xao]at a;obtain rfl:i=0:=h1;subst a;exact l
 |v::s::k,b,a=>
  have:Mj m=1:=by
   unfold Mj;rw[znm<|by simp at b;lia];rfl
  rw[this]at h1;obtain rfl:i=j+1:=W
  exact⟨(v::s::k).toArray,u,O,by simpa using a,l⟩
def zuH(Q:∀s∈cf.cs,xI P s){f:wr}{f':vi}{cs:N PD}{s:QY}{c:wL wr}{ts:wL wn}{k:Sg->V R}(hd:vz cx d=I)(u:xT cx σ f=Z (.fn f' cs))
 (hs:ziF cx σ f' c.toList cf.cs=Z s) (h:zo8 cf cx σ d s c.toList cs k=Z r):C3 P cx ⟨d,.call ⟨.value f,c,ts⟩,ty,pos,aft,g⟩ σ k r:=by
 have⟨h1,D⟩:=zpF hs;have hp:=Q s h1;unfold zo8 at h;have⟨z,os,h,T,hE,B⟩:=iL Q h;have⟨q,U,h⟩:=Gx h;split at h
 ·next G=>
   refine⟨_,h,xbt _ _,λfr vs env w H=> ?_⟩
   have⟨p,C⟩:=H
   have⟨S0,_,j⟩:=C.ex
   have⟨a,hv,hi,_⟩:=zj u<|zZ j f
   have A:=hp.plain G U (vs:=c.toList.map (ev env)++a)<|by simp at T⊢;lia
   have hl:(wD (ev env) ⟨d,.call ⟨.value f,c,ts⟩,ty,pos,aft,g⟩).run P w=.ok (.enter f' (c.toList.map (ev env)++a).toArray) w:=by simp[wD,vS,hv,xdx,qR,Za<|D▸hp.1]
   have J:St fr.we fr.Se (W6 s.dom z (c.toList.map (ev env)++a)++OS vs fr cx (qU σ.ob os)) (YY P s.dom z (c.toList.map (ev env)++a)++GS P vs env fr cx σ) w:=by
    refine St.perm (St.weak C λS w n=>zK.append ?_ n) (B vs fr env S0 w (zZ j) a hi ?_).2.1
    ·have⟨i,m,E,hc⟩:=zj u<|zZ n f;rw[hv]at m;have:a=i:=by simpa using m
     subst this;exact(B vs fr env S w (zZ n) a hi hc).1
    ·have⟨i,m,E,hc⟩:=zj u<|zZ j f;rw[hv]at m;have:a=i:=by simpa using m
     subst this;exact hc
   unfold Yq
   rw[hl]
   rw[D]at A
   refine(A fr.we fr.Se _ _ w J).mono ?_
   rintro e w' ⟨us,he,F,K⟩
   refine⟨Qa us,he,?_⟩
   refine aU (vs:=vs) (vs':=BG s.cod us σ.nx vs) (l:=(Yc s.cod q (bif iZ s.cod then 0 else 1) σ.nx).1) (Γl:=X4 s.cod q us) p hd O (xbt _ _) (λo v=>UF v) oy ?_ (λS w n=>zkG n F) ?_
   ·intro e he
    obtain he|he:=pN.1 he
    ·exact(cc e he).2
    ·exact xah (p.o1 e<|gK e he)<|xbt _ _
   ·have e1:OS (BG s.cod us σ.nx vs) fr cx ((Yc s.cod q (bif iZ s.cod then 0 else 1) σ.nx).2++qU σ.ob os)=Wx s.cod q us++OS vs fr cx (qU σ.ob os):=by
     show MS _ (_++_)++(MS _ cx.ob++_)=_;have L:MS (BG s.cod us σ.nx vs) (qU σ.ob os)=MS vs (qU σ.ob os):=vc λe he=>UF<|p.o1 e<|gK e he;have M:MS (BG s.cod us σ.nx vs) cx.ob=MS vs cx.ob:=vc λe he=>UF<|p.o2 e he;rw[M,show MS (BG s.cod us σ.nx vs) ((Yc s.cod q (bif iZ s.cod then 0 else 1) σ.nx).2++qU σ.ob os)=MS _ _++MS _ _ from xaU,L,EN,xal]
    rw[e1]
    exact K
 ·next b G=>
   have⟨ht,h⟩:=yv h
   refine⟨_,h,xbt _ _,λfr vs env w H=> ?_⟩
   have⟨p,C⟩:=H
   have⟨S0,_,j⟩:=C.ex
   have⟨a,hv,hi,_⟩:=zj u<|zZ j f
   have A:=hp.2 z q U (c.toList.map (ev env)++a)<|by simp at T⊢;lia
   rw[G]at A
   have hl:(wD (ev env) ⟨d,.call ⟨.value f,c,ts⟩,ty,pos,aft,g⟩).run P w=.ok (.enter f' (c.toList.map (ev env)++a).toArray) w:=by simp[wD,vS,hv,xdx,qR,Za<|D▸hp.1]
   have hA:cR s.dom (c.toList.map (ev env)++a)=os.map vs:=by
    have⟨i,m,E,hc⟩:=zj u<|zZ j f;rw[hv]at m;have:a=i:=by simpa using m
    subst this;exact(B vs fr env S0 w (zZ j) a hi hc).2.2
   have J:St fr.we fr.Se (W6 s.dom z (c.toList.map (ev env)++a)++OS vs fr cx (qU σ.ob os)) (YY P s.dom z (c.toList.map (ev env)++a)++GS P vs env fr cx σ) w:=by
    refine St.perm (St.weak C λS w n=>zK.append ?_ n) (B vs fr env S0 w (zZ j) a hi ?_).2.1
    ·have⟨i,m,E,hc⟩:=zj u<|zZ n f;rw[hv]at m;have:a=i:=by simpa using m
     subst this;exact(B vs fr env S w (zZ n) a hi hc).1
    ·have⟨i,m,E,hc⟩:=zj u<|zZ j f;rw[hv]at m;have:a=i:=by simpa using m
     subst this;exact hc
   unfold Yq
   rw[hl]
   rw[D]at A
   refine(A fr.we fr.Se _ _ w J).mono ?_
   rintro e w' ⟨us,he,⟨F,hy⟩,K⟩
   refine⟨Qa<|us.take<|Wl s.cod-(b+1),he,?_⟩
   have hn:∀o,o<σ.nx->BG s.cod us σ.nx vs o=vs o:=λo v=>UF v
   have Y:∀o∈os,o<σ.nx:=λo v=>by
    have⟨X,hX⟩:=hE o v;exact p.o1 _ hX
   have hF:MS (BG s.cod us σ.nx vs) (S6 os (Yc s.cod q (Mj<|Wl s.cod-(b+1)) σ.nx).2)=Wx s.cod q us:=by
    rw[zi8,EN];rw[tE,Nj ht F,hy,hA];exact xce λo v=>hn o<|Y o v
   refine aU (vs:=vs) (vs':=BG s.cod us σ.nx vs) (l:=(Yc s.cod q (Mj<|Wl s.cod-(b+1)) σ.nx).1.filter λe=>xcU e.1<|Mj (Wl s.cod-(b+1))+(Wl s.cod-(b+1))) (Γl:=X4 s.cod q us) p hd O (xbt _ _) hn (λe he=>oy e (xcf.1 he).1) ?_ (λS w n=>zif n F W) ?_
   ·intro e he
    obtain he|he:=pN.1 he
    ·exact xah (Y _<|zeU e he)<|xbt _ _
    ·exact xah (p.o1 e<|gK e he)<|xbt _ _
   ·have e1:OS (BG s.cod us σ.nx vs) fr cx (S6 os (Yc s.cod q (Mj<|Wl s.cod-(b+1)) σ.nx).2++qU σ.ob os)=Wx s.cod q us++OS vs fr cx (qU σ.ob os):=by
     show MS _ (_++_)++(MS _ cx.ob++_)=_;have L:MS (BG s.cod us σ.nx vs) (qU σ.ob os)=MS vs (qU σ.ob os):=vc λe he=>UF<|p.o1 e<|gK e he;have M:MS (BG s.cod us σ.nx vs) cx.ob=MS vs cx.ob:=vc λe he=>UF<|p.o2 e he;rw[M,show MS (BG s.cod us σ.nx vs) (S6 os (Yc s.cod q (Mj<|Wl s.cod-(b+1)) σ.nx).2++qU σ.ob os)=MS _ _++MS _ _ from xaU,L,hF,xal]
    rw[e1]
    exact K
end
end
section
def St.pr{we:xN}{Se:K->Prop}{ms:N MF}{Γ:N FF}{w:xN}{p:Prop}(hp:p)(h:St we Se ms Γ w):St we Se (mPr p::ms) Γ w:=by
 have⟨h1,b,c,S,d,e,i,f,g⟩:=h;refine⟨h1,b,⟨λk a=>a.elim,c⟩,S,d,e,λm hm k a=> ?_,⟨hp,f⟩,g⟩;obtain rfl|hm:=PQ.1 hm
 ·exact a.elim
 ·grind
def St.unpr{we:xN}{Se:K->Prop}{ms:N MF}{Γ:N FF}{w:xN}{p:Prop}(h:St we Se (mPr p::ms) Γ w):p/\St we Se ms Γ w:=
 ⟨wZ h (i:=0) O λS hp=>hp,St.drop (i:=0) h⟩
section
variable{P:ww}{cf:Cf}{fr:Fr}{cx σ:Sg}{vs vs':zV->xn}{env:xt}{w:xN}{R:Type}{r:R}
 {d:z7 vn}{ty t yt:wn}{pos:String}{aft:wL Edge}{g:z7 (zV×ws)}{x y:wr}
def UQ{d a:Dv}{v:xn}{i:K}{S:K->Prop}(h:(qI P vs d v i).p S w)(b:∀u,(qk P vs d u).p S w->(qk P vs a u).p S w):(qI P vs a v i).p S w:=by
 cases i with
 |zero=>exact b _ h
 |succ i=>have⟨us,u,h1,c,e⟩:=h;exact⟨us,u,h1,c,b _ e⟩
theorem U3{v u:xn}{mk:K->Dv}{X:Od}{ob:N (K×Od)}(a:Bd cx σ)(hd:vz cx d=I)(b:∀e∈ob,e.1<σ.nx)(i:∀o,qd (mk o)=Z o)(c:∀S w,(qk P (V8 vs σ.nx u) (mk σ.nx) v).p S w)
 (hc:St fr.we fr.Se (bH (V8 vs σ.nx u) (σ.nx,X)::OS vs fr cx ob) (GS P vs env fr cx σ) w):B6 P fr cx σ.nx vs ⟨σ.nx+1,jq σ.rg d [(0,mk σ.nx)],(σ.nx,X)::ob⟩ (put env d v) w:=by
 refine aU (vs':=V8 vs σ.nx u) (Γl:=[]) a hd O (xbG _) (λo f=>uX f) ?_ ?_ ?_ ?_
 ·simp_all
 ·grind
 ·intro S w _ e h;obtain rfl:=xab.1 h;exact c S w
 ·show St _ _ (bH (V8 vs σ.nx u) (σ.nx,X)::OS (V8 vs σ.nx u) fr cx ob) _ _;rw[zcH a b];exact hc
def JI:∀{ob:N (K×Od)}{o:K}{X Y:Od},xQ ob o=Z X->xQ (Zf ob o Y) o=Z Y/\yJ (Zf ob o Y) o=yJ ob o
 |(b,e)::r,o,X,Y,h=>by
  unfold xQ at h;unfold Zf;cases a:xad b o<;>rw[a]at h
  ·obtain⟨h1,c⟩:=JI h;constructor
   ·simp only[vH];unfold xQ;rw[a];exact h1
   ·simp only[vH];unfold yJ;rw[a];simp only[vH,c]
  ·constructor
   ·simp only[vL];unfold xQ;rw[a];rfl
   ·simp only[vL];unfold yJ;rw[a];rfl
def ud{o:K}{X:Od}{Γ:N FF}(a:xQ σ.ob o=Z X)(h:St fr.we fr.Se (OS vs fr cx σ.ob) Γ w):St fr.we fr.Se (bH vs (o,X)::OS vs fr cx (yJ σ.ob o)) Γ w:=h.perm<|kU a
def Mz{ob:N (K×Od)}{o:K}{X Y:Od}{Γ:N FF}(a:xQ ob o=Z X)(h:St fr.we fr.Se (bH vs (o,Y)::OS vs fr cx (yJ ob o)) Γ w):St fr.we fr.Se (OS vs fr cx<|Zf ob o Y) Γ w:=by
 obtain⟨h1,b⟩:=JI a;have:=kU (vs:=vs) (fr:=fr) (cx:=cx) h1;rw[b]at this;exact h.perm this.symm
def tN{o o2:K}{X Y:Od}{Γ:N FF}(a:xad o o2=yL)(b:xQ σ.ob o=Z X)(c:xQ σ.ob o2=Z Y)(h:St fr.we fr.Se (OS vs fr cx σ.ob) Γ w):
 St fr.we fr.Se (bH vs (o,X)::bH vs (o2,Y)::OS vs fr cx (yJ (yJ σ.ob o) o2)) Γ w:=by
 have h1:xQ (yJ σ.ob o) o2=Z Y:=by rw[gi<|λe=>by subst e;simp at a];exact c
 exact(h.perm<|kU b).perm<|(kU h1).cons _
def moU{o:K}{u:xn}{X:Od}:bH (V8 vs o u) (o,X)=bH (λ_=>u) (0,X):=by
 cases X<;>simp only[bH,wG]
def zxm{S:K->Prop}{w:xN}:(XY [.slice yD 0 0]).p S 0 (xfA (.slice yD 0 0)).toList w:=⟨_,O,O,O⟩
def zq4(a:xm P cf.tt){k:Sg->V R}(hd:vz cx d=I)(h:zhP cf cx σ d t x y k=Z r):C3 P cx ⟨d,.makeSlice t x y,ty,pos,aft,g⟩ σ k r:=by
 unfold zhP at h;split at h
 ·next s E B C=>
  have⟨hi,h⟩:=yv h;split at h
  ·next M E1 Q n f hn=>
   have⟨j,F,h⟩:=zks h;have⟨i,h⟩:=YK h;have⟨xs,l,h⟩:=x9 h;have G:=zhF a f O;refine⟨_,h,xbG _,λfr vs env w H=> ?_⟩;have⟨m,o⟩:=H;have⟨S0,_,c⟩:=o.ex;have q:ev env x=.int .i64 (j:J):=by rw[(vt hn<|zZ c x).1,F]
   have A:=(a _ _ f).2.1;refine(zeR (e:=XY [.slice yD 0 0]) (z:=0) (xs:=xs) (n:=j) (jA a C) G q ((zjc hi).symm.trans q) A i (λ_ _=>zxm) l w o).mono ?_;rintro v w' ⟨b,rfl,_,K⟩;have hc:X xs=j:=by rw[l];exact xaR
   have h1:=K.closeF 0 O (by rw[hc];exact eZ _)<|zol A i;rw[hc]at h1;refine U3 (vs:=vs) (mk:=.mw) (u:=gN (.slice (Z ⟨b,0,yD⟩) j j) [.slice yD 0 0]) m hd m.o1 (λ_=>O) (λS w=>by simp only[qk,wG];rfl) ?_;rw[moU];refine St.grp.2<|St.pr (p:=X ([.slice yD 0 0]:N xn)=X ([[]]:N (N s.D))) O ?_;have L:=St.nilO (e:=s.rep) (E:=E1) h1;exact L.perm<|xdK ..
  ·cases h
 ·cases h
def zts{a:V kG}{n c:K}:(Value.slice a n c).oneCell'=I/\(Value.slice a n c).cells= #[.slice a n c]:=⟨O,O⟩
def OT{α:Type}{e:ye α}{E:wn}{v:xn}{xs:N α}{S:K->Prop}(h:(mO e E v xs).p S w):v.oneCell'=I/\v.cells= #[v]:=by
 rcases nT h with⟨rfl,_⟩|⟨b,cap,rfl,_⟩<;>exact zts
def zut(c:xm P cf.tt)(o:ZX P cf.tt){n:K}{ps:wL (K×wr)}{k:Sg->V R}(hd:vz cx d=I)(h:znP cf cx σ d t n ps.toList k=Z r):C3 P cx ⟨d,.buildSlice t n ps,ty,pos,aft,g⟩ σ k r:=by
 unfold znP at h;split at h
 ·next s E B x f q=>
  have⟨hn,h⟩:=yv h;have hn:=yr hn;subst hn;split at h
  ·next o2 z=>
   split at h
   ·next L E1 ys hc=>
    have⟨hi,h⟩:=yB h;cases hi;have⟨bytes,j,A⟩:=cZ c o f;refine⟨_,h,xbG _,λfr vs env w C=> ?_⟩;have⟨l,a⟩:=C;have⟨S0,_,b⟩:=a.ex;have F:ev env x=vs o2:=zj z<|zZ b x;have⟨q1,q2⟩:=wZ (ud hc a) (i:=0) (m:=mO s.rep E1 (vs o2) ys) O λS hp=>OT hp;have hl:kT [(0,vs o2)]=[vs o2]:=by rw[zs3,q2]
    refine(zpV (e:=XY [vs o2]) (zs:=[0]) (len:=1) (parts:=ps.toList) (vs:=[(0,vs o2)]) (jA c f) A (xdN) O (by show 1*1<=_;lia) (by rw[q];simp[F]) (λS w G=>⟨by rw[q2];rfl,xS⟩) (λS w G=> ?_) w<|ud hc a).mono ?_
    ·rw[hl];exact⟨[vs o2],[],O,⟨_,O,q1,O⟩,O⟩
    rintro v w' ⟨M,rfl,_,H⟩;refine U3 (vs:=vs) (mk:=.mw) (u:=gN v [vs o2]) l hd (λe J=>l.o1 e<|Yk e J) (λ_=>O) (λS w=>by simp only[qk,wG];rfl) ?_;rw[moU];exact St.grp.2<|St.pr (p:=X ([vs o2]:N xn)=X ([ys]:N (N s.D))) O H
   ·cases h
  ·cases h
 ·cases h
def zo7(F:xm P cf.tt){m:wn}{k:Sg->V R}(hd:vz cx d=I)(h:zcc cf σ d m k=Z r):C3 P cx ⟨d,.alloc m,ty,pos,aft,g⟩ σ k r:=by
 unfold zcc at h;split at h
 ·next s E B o=>
  have K:=zhF F o O;refine⟨_,h,xbG _,λfr vs env w q=> ?_⟩;have⟨f,A⟩:=q;refine(GR (e:=(XY [.slice yD 0 0]).c) (z:=0) K (λS w=>zxm (S:=S) (w:=w)) w A).mono ?_;rintro v w' ⟨b,rfl,_,C⟩;refine U3 (vs:=vs) (mk:=.mw) (u:=gN (.pointer<|some ⟨b,0,yD⟩) [.slice yD 0 0]) f hd f.o1 (λ_=>O) (λS w=>by simp only[qk,wG];rfl) ?_;rw[moU];refine St.grp.2<|St.pr (p:=X ([.slice yD 0 0]:N xn)=1) O ?_;exact(St.nilO (e:=s.rep) (E:=E)<|C.toP 0 O).perm<|xdK ..
 ·next a n B o=>
  split at h
  ·next i E1 hi=>
   split at h
   ·next off s L st j=>
    have⟨G,H,Q,hc,_,J⟩:=(F _ _ o).1;simp only at H hc J;refine⟨_,h,xbG _,λfr vs env w q=> ?_⟩;have⟨f,A⟩:=q;refine(GR (e:=me a.rep off (st ([]:N s.D)) [.slice yD 0 0]) (z:=(a.z,0)) H (λS w=>zsq j (hc S w) (J _ _ _ _ _ _ j) O) w A).mono ?_;rintro v w' ⟨b,rfl,_,C⟩;refine U3 (vs:=vs) (mk:=.mw) (u:=gN (.pointer<|some ⟨b,0,yD⟩) [.slice yD 0 0]) f hd f.o1 (λ_=>O) (λS w=>by simp only[qk,wG];rfl) ?_;rw[moU];refine St.grp.2<|St.pr (p:=X ([.slice yD 0 0]:N xn)=1/\vrP s (xy n a i)) ⟨O,_,_,_,j⟩ ?_;have M:=(St.nilO (e:=s.rep) (E:=E1)<|C.toP 0 O).perm<|xdK ..;show St _ _ (mP (me a.rep (Vb<|xy n a i) (Ye s (xy n a i) []) [.slice yD 0 0]) m _ (a.z,0)::mO s.rep E1 (.slice yD 0 0) []::_) _ _;rw[j];have hp:Ye s (Z ⟨off,.l s,L,st⟩) ([]:N s.D)=st ([]:N s.D):=wu λz=>Dj;rw[hp];exact M
   ·cases h
  ·cases h
 ·cases h
theorem zre{v:V Dv}{o:K}(h:zeB σ v=Z o):∃t n i E b E1 z xs,v=Z (.vf o t n i)/\xQ σ.ob o=Z (.vr t E b E1 n i z xs):=by
 unfold zeB at h;split at h
 ·next e c n0 i=>
  split at h
  ·next s E b E1 n j z xs f=>
   cases a:xad i j && (xad n0 n && (Ty.same c s).isSome)<;>rw[a]at h
   ·cases h
   ·cases h;rw[Th,Th]at a;obtain rfl:=yr a.1;obtain rfl:=yr a.2.1;obtain rfl:=az a.2.2;grind
  ·cases h
 ·cases h
def RQ{hv:N xn}(h:X hv=1):hv=[hv.headD wR]:=by
 match hv,h with
 |[a],_=>rfl
theorem zrr(C:xm P cf.tt){o:K}{k:Sg->V R}(hd:vz cx d=I)(D:xT cx σ x=Z (.mw o))(h:zho cf σ d t o k=Z r):C3 P cx ⟨d,.load t x,ty,pos,aft,g⟩ σ k r:=by
 unfold zho at h;split at h
 ·next q E' B s E a xs F i=>
  have⟨l,G,_⟩:=Wc C F;refine⟨_,h,xbG _,λfr vs env w H=> ?_⟩;have⟨m,hc⟩:=H;have⟨S0,_,j⟩:=hc.ex;have hi:ev env x=yY (vs o):=zj D<|zZ j x;have⟨n,h1⟩:=St.unpr<|St.grp.1<|ud i hc;have⟨b,v,J⟩:=h1.openP 0 O;refine(ze2 (JR (e:=(XY<|wm<|vs o).c) (f:=XY<|wm<|vs o) (z':=0) (up:=id) 0 O (hi.trans v) (Sub.self (XY<|wm<|vs o) 0) G) w J).mono ?_;rintro u w' ⟨_,rfl,_,z⟩;have⟨S1,_,L⟩:=z.ex;have hu:=zl6 L.1;have hl:=RQ n;have M:u=(wm<|vs o).headD wR:=by grind
  have A:=(z.weak (Δ:=GS P vs env fr cx σ) λS w h=>h.2).toP 0 O;rw[<-v]at A;refine U3 (vs:=vs) (mk:=.ow) (u:=u) m hd (λe N=> ?_) (λ_=>O) (λS w=>dB S w) ?_
  ·have⟨Q,g1,T⟩:=UU i e N;rw[<-T];exact m.o1 Q g1
  ·rw[fJ,M];have U:St fr.we fr.Se (mO s.rep E ((wm<|vs o).headD wR) xs::(bH vs (o,.ho a)::OS vs fr cx (yJ σ.ob o))) (GS P vs env fr cx σ) w':=by
    have h5:St fr.we fr.Se (mP (XY<|wm<|vs o).c a (yY<|vs o) 0::mO s.rep E ((wm<|vs o).headD wR) xs::OS vs fr cx (yJ σ.ob o)) (GS P vs env fr cx σ) w':=A;have h6:=St.pr (p:=X (wm<|vs o)=1) n h5;have h7:St fr.we fr.Se ([mPr<|X (wm<|vs o)=1,mP (XY<|wm<|vs o).c a (yY<|vs o) 0]++mO s.rep E ((wm<|vs o).headD wR) xs::OS vs fr cx (yJ σ.ob o)) (GS P vs env fr cx σ) w':=h6;exact(St.grp.2 h7).perm<|xdK ..
   have hp:=kU (vs:=vs) (fr:=fr) (cx:=cx) (JI (Y:=.ho a) i).1;rw[(JI (Y:=.ho a) i).2]at hp;exact U.perm<|hp.symm.cons _
 ·cases h
def znl(c:xm P cf.tt){ps:wL (K×wr)}{k:Sg->V R}(hd:vz cx d=I)(h:zdH cf cx σ d t ps.toList k=Z r):C3 P cx ⟨d,.build t ps,ty,pos,aft,g⟩ σ k r:=by
 unfold zdH at h;split at h
 ·next e n B i _ f hv=>
  have⟨j,l,v,m,_,hi⟩:=(c _ _ f).1;have⟨a,_,⟨fs,A,pl,C,o⟩,_⟩:=(c _ _ f).2.2.2;simp only at l v m hi a o;have⟨hn,h⟩:=yv h;split at h
  ·next off s U st b=>
   have⟨z,h,D⟩:=zg0 h;have E:∀F,ES P ⟨d,.build t ps,ty,pos,aft,g⟩ cx σ F [(0,.dz e z n i)]:=λF=>ZE λenv w S vs Y hl=>by
    have G:=D P vs env S w λx H=>yX hl (by simpa[xaz]using H);refine⟨_,_,_,_,[hbF n e (ps.toList.map λq:K×wr=>(q.1,ev env q.2)) e.z z],[],zbV (e:=e.rep) (z0:=e.z) (z:=z) (parts:=ps.toList) (a▸l) a m ⟨fs,A,C⟩ O (λout=>out[off]? =Z (.slice yD 0 0))<|λS w h cs J hc=> ?_,xS,⟨G,xS⟩,λu w' L M=>zw ⟨M.1,_,b,L⟩⟩;have⟨out,q1,q2,N⟩:=HB.fill o h.1 hc;refine⟨out,q1,q2,?_⟩;rw[N i _ b (λp hp=> ?_) O,J]
    ·exact hi _ _ _ _ _ _ b
    ·obtain⟨q,Q,rfl⟩:=xan.1 hp;have:=xaS.1 hn q Q;intro e1;simp only at e1;rw[e1]at this;simp at this
   exact⟨_,h,eZ _,λfr vs env w T=>zsW (E _).mono hd (by rfl) T⟩
  ·cases h
 ·cases h
def zrS(N:xm P cf.tt){o:K}{k:Sg->V R}(hd:vz cx d=I)(hi:zeB σ (xT cx σ x)=Z o)(h:zh8 cf σ d t o k=Z r):C3 P cx ⟨d,.load t x,ty,pos,aft,g⟩ σ k r:=by
 have⟨t0,n0,i,m,c,a,z',l,hn,s⟩:=zre hi;unfold zh8 at h;split at h
 ·next s0 q B s1 E s2 E1 n j z xs Q v=>
  rw[s]at v;simp only[xao,Od.vr.injEq]at v;obtain⟨rfl,rfl,rfl,rfl,rfl,rfl,T,U⟩:=v;cases T;cases U;have⟨hg,h⟩:=yv h;have⟨C,hr,_⟩:=Wc N Q;refine⟨_,h,xbG _,λfr vs env w hR=> ?_⟩;have⟨D,F⟩:=hR;have⟨S0,_,A⟩:=F.ex;have⟨b',f,G,hf,hv⟩:=zj hn<|zZ A x;have⟨⟨hc,hw⟩,h1⟩:=St.unpr<|St.grp.1<|ud s F;have⟨b,H,h2⟩:=h1.openP 0 O;rw[H]at G;cases G;have hl:Vb (xy n0 t0 i)=f.off:=by rw[hf];rfl
  have hm:ev env x=.pointer (Z ⟨b',Vb<|xy n0 t0 i,yD⟩):=by rw[hl];exact hv.trans<|by rw[xaF]
  refine(ze2 (JR (e:=me t0.rep (Vb<|xy n0 t0 i) (Ye c (xy n0 t0 i) [])<|wm<|vs o) (f:=XY<|wm<|vs o) (z':=0) (up:=λr=>(z',r)) 0 O hm Sub.hole hr) w h2).mono ?_;rintro u w' ⟨_,rfl,_,J⟩;have⟨S1,_,hx⟩:=J.ex;have L:=zl6 hx.1;have hy:=RQ hc;have hA:u=(wm<|vs o).headD wR:=by
   rw[hy]at L;simpa using L.symm
  have M:=(J.weak (Δ:=GS P vs env fr cx σ) λS w h=>h.2).toP 0 O;rw[<-H]at M;refine U3 (vs:=vs) (mk:=.ow) (u:=u) D hd (λe he=> ?_) (λ_=>O) (λS w=>dB S w) ?_
  ·have⟨e',g1,g2⟩:=UU s e he;rw[<-g2];exact D.o1 e' g1
  ·rw[fJ,hA];have h4:St fr.we fr.Se (mO c.rep a ((wm<|vs o).headD wR) l::(bH vs (o,.vh t0 m c a n0 i z')::OS vs fr cx (yJ σ.ob o))) (GS P vs env fr cx σ) w':=by
    have h5:St fr.we fr.Se (mP (me t0.rep (Vb<|xy n0 t0 i) (Ye c (xy n0 t0 i) [])<|wm<|vs o) m (yY<|vs o) (z',0)::mO c.rep a ((wm<|vs o).headD wR) l::OS vs fr cx (yJ σ.ob o)) (GS P vs env fr cx σ) w':=M;have h6:=St.pr (p:=X (wm<|vs o)=1/\vrP c (xy n0 t0 i)) ⟨hc,hw⟩ h5;have h7:St fr.we fr.Se ([mPr<|X (wm<|vs o)=1/\vrP c (xy n0 t0 i),mP (me t0.rep (Vb<|xy n0 t0 i) (Ye c (xy n0 t0 i) [])<|wm<|vs o) m (yY<|vs o) (z',0)]++mO c.rep a ((wm<|vs o).headD wR) l::OS vs fr cx (yJ σ.ob o)) (GS P vs env fr cx σ) w':=h6;exact(St.grp.2 h7).perm<|xdK ..
   have hp:=kU (vs:=vs) (fr:=fr) (cx:=cx) (JI (Y:=.vh t0 m c a n0 i z') s).1;rw[(JI (Y:=.vh t0 m c a n0 i z') s).2]at hp;exact h4.perm<|hp.symm.cons _
 ·cases h
structure zp3(a b:xn):Prop where
 out:yY b=yY a
 hv:∀(r:K) (v:xn),(wm a)[r]? =Z v->(wm b)[r]? =Z v
def zno{o n:K}(c:zp3 (vs o) (vs n)){dv:Dv}{v:xn}{S:K->Prop}(h:(qk P vs dv v).p S w):(qk P vs (zr6 o n dv) v).p S w:=by
 cases dv with
 |mw p=>
  show(qk P vs (bif xad p o then .mw n else .mw p) v).p S w;cases a:xad p o
  ·exact h
  ·obtain rfl:=yr a;exact(show v=yY (vs p)from h).trans c.out.symm
 |mv p l m=>
  show(qk P vs (bif xad p o then .mv n l m else .mv p l m) v).p S w;cases a:xad p o
  ·exact h
  ·obtain rfl:=yr a;simp only[qk,vL]at h⊢;rw[c.out];exact h
 |hp p j=>
  show(qk P vs (bif xad p o then .hp n j else .hp p j) v).p S w;cases a:xad p o
  ·exact h
  ·obtain rfl:=yr a;simp only[qk,vL]at h⊢;rw[c.out];exact h
 |rw p r=>
  show(qk P vs (bif xad p o then .rw n r else .rw p r) v).p S w;cases a:xad p o
  ·exact h
  ·obtain rfl:=yr a;exact c.hv _ _ h
 |rp p t r j f=>
  show(qk P vs (bif xad p o then .rp n t r j f else .rp p t r j f) v).p S w;cases a:xad p o
  ·exact h
  ·obtain rfl:=yr a;have⟨h1,b,m,cap,e,i,k⟩:=h;exact⟨h1,b,m,cap,c.hv _ _ e,i,k⟩
 |_=>exact h
theorem zpd{o n p:K}{v:Dv}(h:qd (zr6 o n v)=Z p):qd v=Z p\/p=n:=by
 cases v with
 |mw q=>
  have h:qd (bif xad q o then Dv.mw n else .mw q)=Z p:=h;cases a:xad q o<;>rw[a]at h
  ·grind
  ·cases h;exact .inr O
 |mv q l m=>
  have h:qd (bif xad q o then Dv.mv n l m else .mv q l m)=Z p:=h;cases a:xad q o<;>rw[a]at h
  ·grind
  ·cases h;exact .inr O
 |hp q j=>
  have h:qd (bif xad q o then Dv.hp n j else .hp q j)=Z p:=h;cases a:xad q o<;>rw[a]at h
  ·grind
  ·cases h;exact .inr O
 |rw q r=>
  have h:qd (bif xad q o then Dv.rw n r else .rw q r)=Z p:=h;cases a:xad q o<;>rw[a]at h
  ·grind
  ·cases h;exact .inr O
 |rp q t r j f=>
  have h:qd (bif xad q o then Dv.rp n t r j f else .rp q t r j f)=Z p:=h;cases a:xad q o<;>rw[a]at h
  ·exact .inl h
  ·cases h;exact .inr O
 |_=>exact .inl h
theorem zgB{o n:K}:∀{rg:N (K×K×Dv)},∀e∈zq0 o n rg,∃a∈rg,e=(a.1,a.2.1,zr6 o n a.2.2)
 |[],e,he=>wl he QT
 |(t,i,v)::rg,e,he=>by
  obtain rfl|he:=PQ.1 he
  ·simp_all
  ·have⟨a,h1,b⟩:=zgB e he;grind
theorem zgG{o n:K}:∀{rg:N (K×K×Dv)},∀e∈zag o n rg,e∈rg\/∃a∈rg,∃p,a.2.2=.mw p/\e=(a.1,a.2.1,bif xad p o then .mw n else .mw p)
 |[],e,he=>wl he QT
 |(t,i,v)::rg,e,he=>by
  have b:∀e∈zag o n rg,e∈(t,i,v)::rg\/∃a∈(t,i,v)::rg,∃p,a.2.2=.mw p/\e=(a.1,a.2.1,bif xad p o then .mw n else .mw p):=λe he=>by
   obtain h|⟨a,h1,p,c,f⟩:=zgG e he
   ·simp_all
   ·grind
  cases v with
  |mw p=>
   rcases PQ.1 (show e∈(t,i,bif xad p o then Dv.mw n else .mw p)::zag o n rg from he)with rfl|he
   ·simp_all
   ·grind
  |_=>
   obtain rfl|he:=PQ.1 he
   ·exact .inl<|Qh
   ·exact b e he
theorem Eg{u v:xn}{o:K}{X:Od}{ob:N (K×Od)}{rg:N (K×K×Dv)}(m:Bd cx σ)(hd:vz cx d=I)(hc:∀e∈ob,e.1<σ.nx)
 (n:∀e∈rg,∃a∈jq σ.rg d [],e.1=a.1/\e.2.1=a.2.1/\(∀p,qd e.2.2=Z p->qd a.2.2=Z p\/p=σ.nx)/\∀v S w,(qk P (V8 vs σ.nx u) a.2.2 v).p S w->(qk P (V8 vs σ.nx u) e.2.2 v).p S w)
 (q:St fr.we fr.Se (bH (V8 vs σ.nx u) (σ.nx,X)::OS vs fr cx ob) (GS P vs env fr cx σ) w):B6 P fr cx σ.nx vs ⟨σ.nx+1,rg,(σ.nx,X)::ob⟩ (put env d v) w:=by
 have⟨c,hi⟩:Ao P fr cx ⟨σ.nx+1,jq σ.rg d [],(σ.nx,X)::ob⟩ (V8 vs σ.nx u) (put env d v) w:=by
  refine zdN (σ':=⟨σ.nx+1,jq σ.rg d [],(σ.nx,X)::ob⟩) (l:=[]) (vs:=vs) (vs':=V8 vs σ.nx u) (Γl:=[]) m hd O (xbG _) (λo j=>uX j) (λ_ b=>wl b QT) ?_ (λS w _ e b=>wl b QT) ?_
  ·grind
  ·show St _ _ (bH (V8 vs σ.nx u) (σ.nx,X)::OS (V8 vs σ.nx u) fr cx ob) _ _;rw[zcH m hc];exact q
 refine⟨V8 vs σ.nx u,λo j=>uX j,⟨c.o1,c.o2,λe b p hp=> ?_,c.r2⟩,hi.weak λS w h=>zK.append (YS.2 λf s=> ?_)<|zK.right h⟩
 ·have⟨a,h1,_,_,k,_⟩:=n e b;obtain h|rfl:=k p hp
  ·exact c.r1 a h1 p h
  ·simp_all
 ·obtain⟨e,b,rfl⟩:=xan.1 s;have⟨a,h1,k,z,_,A⟩:=n e b;have B:=ef (zK.left h) (t:=a.1) (i:=a.2.1) (d:=a.2.2) h1;rw[k,z];exact UQ B λu C=>A u S w C
def zqW{u:xn}{o:K}(b:zp3 (V8 vs σ.nx u o) (V8 vs σ.nx u σ.nx)):∀e∈zq0 o σ.nx σ.rg,∃a∈jq σ.rg yD [],e.1=a.1/\e.2.1=a.2.1/\(∀p,qd e.2.2=Z p->qd a.2.2=Z p\/p=σ.nx)/\∀v S w,(qk P (V8 vs σ.nx u) a.2.2 v).p S w->(qk P (V8 vs σ.nx u) e.2.2 v).p S w:=by
 intro e c;obtain⟨a,h1,rfl⟩:=zgB e c;exact⟨a,h1,O,O,λp hp=>zpd hp,λv S w h=>zno b h⟩
def DE{u:xn}{o:K}{rg:N (K×K×Dv)}(f:yY (V8 vs σ.nx u σ.nx)=yY (V8 vs σ.nx u o)):∀e∈zag o σ.nx rg,∃a∈rg,e.1=a.1/\e.2.1=a.2.1/\(∀p,qd e.2.2=Z p->qd a.2.2=Z p\/p=σ.nx)/\∀v S w,(qk P (V8 vs σ.nx u) a.2.2 v).p S w->(qk P (V8 vs σ.nx u) e.2.2 v).p S w:=by
 intro e i;obtain h|⟨a,h1,p,j,rfl⟩:=zgG e i
 ·exact⟨e,h,O,O,λp hp=> .inl hp,λv S w h=>h⟩
 ·refine⟨a,h1,O,O,λq c=> ?_,λv S w h=> ?_⟩
  ·skip;cases b:xad p o
   ·simp_all
   ·simp only[b]at c;cases c;exact .inr O
  ·rw[j]at h;cases b:xad p o
   ·exact h
   ·have hp:=yr b;subst hp;exact h.trans f.symm
end
end
section
section
variable{P:ww}{cf:Cf}{fr:Fr}{cx σ:Sg}{vs vs':zV->xn}{env:xt}{w:xN}{R:Type}{r:R}
 {d:z7 vn}{ty t yt:wn}{pos:String}{aft:wL Edge}{g:z7 (zV×ws)}{x y:wr}
def zg3{α:Type}{a:N (N α)}{r:K}(h:r<X a):a[r]? =Z (ZK a r):=by simp_all [ZK]
def r9{o:K}{s:Ty}{E E1:wn}{a:N (N s.D)}{ix:N K}{ms:N MF}{Γ:N FF}(h:St fr.we fr.Se (bH vs (o,.mat s E E1 a ix)::ms) Γ w):
 X (wm<|vs o)=X a/\St fr.we fr.Se ((mO (XY<|wm<|vs o) E (yY<|vs o) ix::qf s.rep E1 (wm<|vs o) a)++ms) Γ w:=St.unpr<|St.grp.1 h
def zeV{u:xn}{s:Ty}{E E1:wn}{a:N (N s.D)}{ix:N K}{ms:N MF}{Γ:N FF}(hl:X (wm u)=X a)(h:St fr.we fr.Se ((mO (XY<|wm u) E (yY u) ix::qf s.rep E1 (wm u) a)++ms) Γ w):
 St fr.we fr.Se (Ih s.rep E E1 u a ix::ms) Γ w:=St.grp.2<|St.pr hl h
def zwQ{k:Sg->V R}{s:TI}(H:xm P cf.tt)(J:Xo cf t=Z s){o p j:K}{e:Ty}{f:Fl e.D}(u:xT cx σ x=Z (.rp o e p j f))(h:u5 σ s.ty (xT cx σ x) (xT cx σ y) k=Z r):
 C3 P cx ⟨yD,.store t x y,ty,pos,aft,g⟩ σ k r:=by
 have⟨A,hd,_⟩:=Wc H J;rw[u]at h;simp only[u5]at h;split at h
 ·next s' E E1 a ix c l _=>
  have⟨L,h1⟩:=yB h;cases L;have⟨q,M,N⟩:=JX h1;have⟨Q,T,h⟩:=x9 M;have⟨c⟩:=c;refine⟨_,h,eZ _,λfr vs env w U=> ?_⟩;have⟨Y,B⟩:=U;have⟨S0,_,n⟩:=B.ex;have⟨hu,b,m,cap,hv,hj,hw⟩:=zj u<|zZ n x;have C:=ud l B;have⟨hn,hp⟩:m=X (ZK (α:=e.D) a p)/\p<X a:=wZ C (i:=0) O λS hp=>⟨FC (Hf (show(Ih e.rep E E1 (vs o) a ix).p S w from hp) hv).1 O,(Hf (show(Ih e.rep E E1 (vs o) a ix).p S w from hp) hv).2⟩;have⟨hl,hg⟩:=r9 C;have hi:=zrC (e:=e.rep) (E:=E) (E1:=E1) (v:=yY<|vs o) (ix:=ix) hv (zg3 (α:=e.D) hp)<|OS vs fr cx<|yJ σ.ob o;have⟨b',F,hy,hA,hC,hs⟩:=hg.openO (p+1) hi W;cases hy;rw[<-c]at hd;have hk:=(Sub.rowT0 e.rep cap (ZK (α:=e.D) a p) j ((ZK (α:=e.D) a p).getD j e.z)<|getD_some e.z W).comp<|hu<|(ZK (α:=e.D) a p).getD j e.z;refine(Zn (f:=f.f.rep) (y':=q) (p+1) (qb hi) hw O hk hd (λS w ha=>N P vs env S w<|zZ ha y) w hs).mono ?_;rintro v w' ⟨_,rfl,_,hD⟩;refine tI (vs:=vs) Y l<|Mz l ?_;have hc:X (xfL (ZK (α:=e.D) a p) j<|f.set q<|(ZK (α:=e.D) a p).getD j e.z)=X (ZK (α:=e.D) a p):=xbz ..;have G:=hD.closeF (p+1) (qb<|qb hi) (by rw[hc];exact hA) hC;rw[set_set,set_set,hc,zfx hv hp hl]at G;rw[T];exact zeV (by rw[show(zwV (α:=e.D) a p _).length=X a from xbz ..];exact hl) G
 ·cases h
def zvU{k:Sg->V R}{s:TI}(G:xm P cf.tt)(H:Xo cf t=Z s){o j a p:K}(u:xT cx σ x=Z (.hp o j))(l:xT cx σ y=Z (.rw a p))(h:u5 σ s.ty (xT cx σ x) (xT cx σ y) k=Z r):
 C3 P cx ⟨yD,.store t x y,ty,pos,aft,g⟩ σ k r:=by
 have⟨z,hc,_⟩:=Wc G H;rw[u,l]at h;simp only[u5]at h;have⟨J,h⟩:=yv h;obtain rfl:=yr J;split at h
 ·next A E E1 c ix q n L=>
  have⟨iz,M,h⟩:=x9 h;refine⟨_,h,eZ _,λfr vs env w N=> ?_⟩;have⟨Q,hd⟩:=N;have⟨S0,_,e⟩:=hd.ex;have⟨b,m,cap,hv,hj,T⟩:=zj u<|zZ e x;have U:(wm<|vs a)[p]? =Z (ev env y):=zj l<|zZ e y;have B:=ud n hd;have⟨hn,Y⟩:m=X ix/\(ev env y).oneCell'=true:=wZ B (i:=0) O λS hp=>⟨FC (zcm (show(Ih A.rep E E1 (vs a) c ix).p S w from hp)).2.1 hv,(OT (Hf (show(Ih A.rep E E1 (vs a) c ix).p S w from hp) U).1).1⟩;have⟨hl,hg⟩:=r9 B;have⟨b',C,hi,hA,hC,hs⟩:=hg.openO 0 O W;rw[hv]at hi;cases hi;have hk:=Sub.rowT0 (XY<|wm<|vs a) cap ix j (ix.getD j 0) (getD_some 0 W);rw[L]at hc;refine(Zn (f:=XY<|wm<|vs a) (y':=p) 0 O T O hk hc (λS w ha=> ?_) w hs).mono ?_
  ·exact zj5 (zj l<|zZ ha y) Y
  rintro v w' ⟨_,rfl,_,hD⟩;refine tI (vs:=vs) Q n<|Mz n ?_;have D:X (ix.set j p)=X ix:=xbz ..;have F:=hD.closeF 0 O (by rw[D];exact hA) hC;rw[D,<-hv]at F;rw[M];exact zeV hl F
 ·cases h
theorem zqB{u:xn}{o:K}{hv:N xn}(c:wm u=wm (vs o)++hv)(a:yY u=yY (vs o))(b:o<σ.nx):zp3 (V8 vs σ.nx u o) (V8 vs σ.nx u σ.nx):=by
 rw[uX b,wG];refine⟨a,λr v h=> ?_⟩;grind
def GN{o:K}{X:Od}(a:Bd cx σ)(h:xQ σ.ob o=Z X):o<σ.nx:=by
 have⟨i,h1,_⟩:=vG h;exact a.o1 _<|xbI h1
def Fc(a:Bd cx σ){o p:K}:∀e∈yJ (yJ σ.ob o) p,e.1<σ.nx:=λe b=>a.o1 e<|Yk e<|Yk e b
def zxH{k:Sg->V R}{s:TI}(L:xm P cf.tt)(M:Xo cf t=Z s){o j o2:K}(z:xT cx σ x=Z (.hp o j))(A:xT cx σ y=Z (.ow o2))(h:u5 σ s.ty (xT cx σ x) (xT cx σ y) k=Z r):
 C3 P cx ⟨yD,.store t x y,ty,pos,aft,g⟩ σ k r:=by
 have⟨B,hd,_⟩:=Wc L M;rw[z,A]at h;simp only[u5]at h;have⟨C,h⟩:=yv h;rw[xcM]at C;split at h
 ·next l E E1 a ix s2 E2 ys q D N Q=>
  have⟨T,h0⟩:=yv h;obtain rfl:=yr T;have⟨U,h1⟩:=yB h0;cases U;have⟨Y,hz,h2⟩:=x9 h1;have⟨iz,hi,h3⟩:=x9 h2;refine⟨_,h3,xbG _,λfr vs env w hR=> ?_⟩;have⟨n,F⟩:=hR;have⟨S0,_,c⟩:=F.ex;have⟨b,m,cap,hv,hj,hC⟩:=zj z<|zZ c x;have hD:ev env y=vs o2:=zj A<|zZ c y;have e:=tN C D N F;have hn:m=X ix:=wZ e (i:=0) O λS hp=>FC (zcm (show(Ih l.rep E E1 (vs o) a ix).p S w from hp)).2.1 hv;have⟨hk,_⟩:(vs o2).oneCell'=true/\_:=wZ e (i:=1) (m:=mO l.rep E1 (vs o2) ys) O λS hp=>OT hp;have hl:=(r9 e).1
  have hg:St fr.we fr.Se ((mO (XY<|wm (vs o)++[vs o2]) E (yY<|vs o) ix::qf l.rep E1 (wm (vs o)++[vs o2]) (a++[ys]))++OS vs fr cx (yJ (yJ σ.ob o) o2)) (GS P vs env fr cx σ) w:=
   St.grp.1 (St.adopt hl<|St.grp.2 (r9 e).2)
  have⟨b',G,H,hF,hG,hs⟩:=hg.openO 0 O W;rw[hv]at H;cases H;have hq:=Sub.rowT0 (XY<|wm (vs o)++[vs o2]) cap ix j (ix.getD j 0) (getD_some 0 W);rw[Q]at hd;refine(Zn (f:=XY<|wm (vs o)++[vs o2]) (y':=X a) 0 O hC hD hq hd (λS w ha=>zj5 (by rw[<-hl];simp) hk) w hs).mono ?_;rintro v w' ⟨_,rfl,_,hH⟩;have hc:X (ix.set j (X a))=X ix:=xbz ..;have J:=hH.closeF 0 O (by rw[hc];exact hF) hG;rw[hc,<-hv]at J;refine Eg (o:=o) (u:=gN (yY<|vs o)<|wm (vs o)++[vs o2]) n O (Fc n) (zqW<|zqB O O<|GN n D) ?_;rw[moU,hi,hz];refine zeV (u:=gN (yY<|vs o)<|wm (vs o)++[vs o2]) (by show(wm (vs o)++[vs o2]).length=X (a++[ys]);simp[hl]) J
 ·cases h
def zvL{k:Sg->V R}{C:TI}(Q:xm P cf.tt)(T:Xo cf t=Z C){o o2:K}(D:xT cx σ x=Z (.mw o))(E:xT cx σ y=Z (.ow o2))(h:u5 σ C.ty (xT cx σ x) (xT cx σ y) k=Z r):
 C3 P cx ⟨yD,.store t x y,ty,pos,aft,g⟩ σ k r:=by
 have⟨F,hc,_⟩:=Wc Q T;rw[D,E]at h;simp only[u5]at h;have⟨hd,h⟩:=yv h;rw[xcM]at hd;split at h
 ·next a n s ys q G U Y=>
  refine⟨_,h,xbG _,λfr vs env w hR=> ?_⟩;have⟨z,H⟩:=hR;have⟨S0,_,j⟩:=H.ex;have hn:ev env x=yY (vs o):=zj D<|zZ j x;have hq:ev env y=vs o2:=zj E<|zZ j y;have J:=tN hd G U H;have⟨hg,_⟩:(vs o2).oneCell'=true/\_:=wZ J (i:=1) (m:=mO n.rep s (vs o2) ys) O λS hp=>OT hp;have⟨hl,h1⟩:=St.unpr<|St.grp.1 J;have h1:St fr.we fr.Se (mP (XY<|wm<|vs o).c a (yY<|vs o) 0::mO n.rep s (vs o2) ys::OS vs fr cx (yJ (yJ σ.ob o) o2)) (GS P vs env fr cx σ) w:=h1;have⟨b,L,h2⟩:=h1.openP 0 O;have hi:=RQ hl;have h3:=h2.conv (i:=0) (m:=mB (XY<|wm<|vs o).c a b 0) (m':=mB (XY<|wm (vs o)++[vs o2]).c a b 0) O O λS hp=>by
   have⟨cs,g1,u,l,A,B⟩:=hp;exact⟨cs,g1,u,by rw[xbb (xav.1 l).1];exact l,A,B⟩
  rw[Y]at hc;refine(Zn (e:=(XY<|wm (vs o)++[vs o2]).c) (f:=XY<|wm (vs o)++[vs o2]) (z':=0) (y':=1) (up:=id) 0 O (hn.trans L) hq (Sub.self (XY<|wm (vs o)++[vs o2]) 0) hc (λS w ha=>zj5 (by rw[hi];rfl) hg) w h3).mono ?_;rintro v w' ⟨_,rfl,_,hr⟩;have h4:St fr.we fr.Se (mB (XY<|wm (vs o)++[vs o2]).c a b 1::mO n.rep s (vs o2) ys::OS vs fr cx (yJ (yJ σ.ob o) o2)) (GS P vs env fr cx σ) w':=hr;have h5:=h4.conv (i:=0) (m:=mB (XY<|wm (vs o)++[vs o2]).c a b 1) (m':=mB (XY [vs o2]).c a b 0) O O λS hp=>by
   have⟨cs,g1,u,l,A,B⟩:=hp;refine⟨cs,g1,u,?_,A,B⟩;rw[hi]at l;exact l
  have M:=h5.toP 0 O;rw[<-L]at M;have h7:St fr.we fr.Se (mP (XY [vs o2]).c a (yY<|vs o) 0::mO n.rep s (vs o2) ys::OS vs fr cx (yJ (yJ σ.ob o) o2)) (GS P vs env fr cx σ) w':=M;refine Eg (o:=o) (u:=gN (yY<|vs o) [vs o2]) z O (Fc z) (DE<|by rw[wG,uX<|GN z G];rfl) ?_
  ·rw[moU];exact St.grp.2<|St.pr (p:=X ([vs o2]:N xn)=1) O h7
 ·cases h
def zwE{k:Sg->V R}{B:TI}(T:xm P cf.tt)(U:Xo cf t=Z B){o o2 a n0 i}(C:xT cx σ x=Z (.vf o a n0 i))(D:xT cx σ y=Z (.ow o2))(h:u5 σ B.ty (xT cx σ x) (xT cx σ y) k=Z r):
 C3 P cx ⟨yD,.store t x y,ty,pos,aft,g⟩ σ k r:=by
 have⟨F,hc,_⟩:=Wc T U;rw[C,D]at h;simp only[u5]at h;have⟨hd,h⟩:=yv h;rw[xcM]at hd;split at h
 ·next s1 E c E1 n j z s3 E3 ys G Y=>
  have⟨H,h0⟩:=yv h;rw[Th,Th,Th,Th]at H;have⟨⟨⟨g1,q⟩,g3⟩,g4,g5⟩:=H;obtain rfl:=yr g1;obtain rfl:=yr q;obtain rfl:=yr g4;obtain rfl:=az g5;have ht:=az g3;have⟨hu,hv⟩:=yB h0;cases hu;refine⟨_,hv,xbG _,λfr vs env w hR=> ?_⟩;have⟨A,J⟩:=hR;have⟨S0,_,s⟩:=J.ex;have⟨l,f,hi,hf,hw⟩:=zj C<|zZ s x;have hz:ev env y=vs o2:=zj D<|zZ s y;have K:=tN hd G Y J;have⟨hk,_⟩:(vs o2).oneCell'=true/\_:=wZ K (i:=1) (m:=mO c.rep E1 (vs o2) ys) O λS hp=>OT hp;have⟨⟨hl,hA⟩,h1⟩:=St.unpr<|St.grp.1 K;have h1:St fr.we fr.Se (mP (me a.rep (Vb<|xy n0 a i) (Ye c (xy n0 a i) [])<|wm<|vs o) E (yY<|vs o) (z,0)::mO c.rep E1 (vs o2) ys::OS vs fr cx (yJ (yJ σ.ob o) o2)) (GS P vs env fr cx σ) w:=h1;have⟨b,L,h2⟩:=h1.openP 0 O;have M:=RQ hl;obtain rfl:l=b:=by rw[L]at hi;cases hi;rfl
  have hn:Vb (xy n0 a i)=f.off:=by rw[hf];rfl
  have hq:ev env x=.pointer (Z ⟨l,Vb<|xy n0 a i,yD⟩):=by rw[hn];exact hw.trans<|by rw[xaF]
  have h3:=h2.conv (i:=0) (m:=mB (me a.rep (Vb<|xy n0 a i) (Ye c (xy n0 a i) [])<|wm<|vs o) E l (z,0)) (m':=mB (me a.rep (Vb<|xy n0 a i) (Ye c (xy n0 a i) [])<|wm (vs o)++[vs o2]) E l (z,0)) O O λS hp=>by
   have⟨cs,g1,q⟩:=hp;exact⟨cs,g1,zsh q⟩
  rw[ht]at hc;refine(Zn (e:=me a.rep (Vb<|xy n0 a i) (Ye c (xy n0 a i) [])<|wm (vs o)++[vs o2]) (f:=XY<|wm (vs o)++[vs o2]) (z':=0) (y':=1) (up:=λr=>(z,r)) 0 O hq hz Sub.hole hc (λS w ha=>zj5 (by rw[M];rfl) hk) w h3).mono ?_;rintro v w' ⟨_,rfl,_,hC⟩;have h4:St fr.we fr.Se (mB (me a.rep (Vb<|xy n0 a i) (Ye c (xy n0 a i) [])<|wm (vs o)++[vs o2]) E l (z,1)::mO c.rep E1 (vs o2) ys::OS vs fr cx (yJ (yJ σ.ob o) o2)) (GS P vs env fr cx σ) w':=hC;have h5:=h4.conv (i:=0) (m:=mB (me a.rep (Vb<|xy n0 a i) (Ye c (xy n0 a i) [])<|wm (vs o)++[vs o2]) E l (z,1)) (m':=mB (me a.rep (Vb<|xy n0 a i) (Ye c (xy n0 a i) []) [vs o2]) E l (z,0)) O O λS hp=>by
   have⟨cs,g1,q⟩:=hp;exact⟨cs,g1,zxD (by rw[M];rfl) q⟩
  have Q:=h5.toP 0 O;rw[<-L]at Q;have h7:St fr.we fr.Se (mP (me a.rep (Vb<|xy n0 a i) (Ye c (xy n0 a i) []) [vs o2]) E (yY<|vs o) (z,0)::mO c.rep E1 (vs o2) ys::OS vs fr cx (yJ (yJ σ.ob o) o2)) (GS P vs env fr cx σ) w':=Q;refine Eg (o:=o) (u:=gN (yY<|vs o) [vs o2]) A O (Fc A) (DE<|by rw[wG,uX<|GN A G];rfl) ?_
  ·rw[moU];exact St.grp.2<|St.pr (p:=X ([vs o2]:N xn)=1/\vrP c (xy n0 a i)) ⟨O,hA⟩ h7
 ·cases h
def zoD{k:Sg->V R}{u:TI}(M:xm P cf.tt)(Q:Xo cf t=Z u){o n i j E:K}{s a:Ty}{z:s.D}{f:Fl s.D}{X:s.D->Od}{rest:xn->N MF}
 (A:∀vs z,bH vs (o,X z)=PG (mPr (Wl (wm<|vs o)=1/\vrP a (xy n s j))::mP (me s.rep (Vb<|xy n s j) (Ye a (xy n s j) [])<|wm<|vs o) E (yY<|vs o) (z,0)::rest (vs o)))
 (T:xT cx σ x=Z (.vf o s n i)) (c:xQ σ.ob o=Z (X z)) (hn:i≠j) (C:xy n s i=Z f) (h:kS (Ty.same f.f u.ty).isSome (Nt (xT cx σ y) f.f λy=>B (f.set y z) λz=>k ⟨σ.nx,σ.rg,Zf σ.ob o<|X z⟩)=Z r):
 C3 P cx ⟨yD,.store t x y,ty,pos,aft,g⟩ σ k r:=by
 have⟨F,hc,_⟩:=Wc M Q;have⟨U,h⟩:=yv h;have hp:=az U;have⟨q,l,Y⟩:=JX h;have⟨z2,hr,h⟩:=x9 l;refine⟨_,h,eZ _,λfr vs env w hR=> ?_⟩;have⟨hB,hd⟩:=hR;have⟨S0,_,m⟩:=hd.ex;have h0:=ud c hd;rw[A]at h0;have⟨⟨hl,G⟩,h1⟩:=St.unpr<|St.grp.1 h0;have⟨b,H,l⟩:=h1.openP 0 O;have⟨b',f',hi,J,hs⟩:=zj T<|zZ m x;obtain rfl:b'=b:=by rw[H]at hi;cases hi;rfl
 rw[C]at J;cases J;rw[<-hp]at hc;refine(Zn (e:=me s.rep (Vb<|xy n s j) (Ye a (xy n s j) [])<|wm<|vs o) (f:=f.f.rep) (z':=f.get z) (y':=q) (up:=λy=>(f.set y z,0)) 0 O (hs.trans<|by rw[xaF]) O (zjZ G C hn) hc (λS w ha=>Y P vs env S w<|zZ ha y) w l).mono ?_;rintro v w' ⟨_,rfl,_,ht⟩;refine tI (vs:=vs) hB c<|Mz c ?_;have L:=ht.toP 0 O;rw[<-H]at L;rw[A,hr];exact St.grp.2<|St.pr (p:=Wl (wm<|vs o)=1/\vrP a (xy n s j)) ⟨hl,G⟩ L
def zxf{k:Sg->V R}{H:TI}(Y:xm P cf.tt)(hm:Xo cf t=Z H){o n2 i2:K}{t2:Ty}{s:t2.D}(J:xT cx σ x=Z (.mw o))(A:xT cx σ y=Z (.dz t2 s n2 i2))(h:u5 σ H.ty (xT cx σ x) (xT cx σ y) k=Z r):
 C3 P cx ⟨yD,.store t x y,ty,pos,aft,g⟩ σ k r:=by
 have⟨L,hd,_⟩:=Wc Y hm;rw[J,A]at h;simp only[u5]at h;split at h
 ·next s1 E a E1 n j z xs M=>
  have⟨B,h0⟩:=yv h;rw[Th,Th]at B;obtain rfl:=yr B.1;obtain rfl:=yr B.2.1;have hn:=az B.2.2;have⟨hq,hr⟩:=yB h0;subst hq;refine⟨_,hr,xbG _,λfr vs env w hR=> ?_⟩;have⟨C,hi⟩:=hR;have⟨S0,_,q⟩:=hi.ex;have hs:ev env x=yY (vs o):=zj J<|zZ q x;have⟨_,f,Q,hj⟩:=zj A<|zZ q y;have⟨⟨hl,ht⟩,h1⟩:=St.unpr<|St.grp.1<|ud M hi;have h1:St fr.we fr.Se (mP (me t2.rep (Vb<|xy n2 t2 i2) (Ye a (xy n2 t2 i2) [])<|wm<|vs o) E (yY<|vs o) (z,0)::mO a.rep E1 ((wm<|vs o).headD wR) xs::OS vs fr cx (yJ σ.ob o)) (GS P vs env fr cx σ) w:=h1;have h1:St fr.we fr.Se (mP (me t2.rep (Vb<|xy n2 t2 i2) (Ye a (xy n2 t2 i2) [])<|wm<|vs o) E (yY<|vs o) (z,0)::OS vs fr cx (yJ σ.ob o)) (GS P vs env fr cx σ) w:=St.drop (i:=1) h1;have⟨b,T,h2⟩:=h1.openP 0 O;have h3:=h2.conv (i:=0) (m:=mB (me t2.rep (Vb<|xy n2 t2 i2) (Ye a (xy n2 t2 i2) [])<|wm<|vs o) E b (z,0)) (m':=mB (eRw t2.rep.n t2.rep.agg t2.rep.n1).c E b yD) O O λS hp=>by
   have⟨cs,g1,F⟩:=hp;exact⟨cs,g1,zum F⟩
  rw[hn]at hd;refine(Zn (e:=(eRw t2.rep.n t2.rep.agg t2.rep.n1).c) (f:=eRw t2.rep.n t2.rep.agg t2.rep.n1) (z':=yD) (y':=Z (ev env y).cells.toList) (up:=id) 0 O (hs.trans T) O (Sub.self _ _) hd (λS w G=>ztD (zj A<|zZ G y).1) w h3).mono ?_;rintro v w' ⟨_,rfl,_,hu⟩;have h4:St fr.we fr.Se (mB (eRw t2.rep.n t2.rep.agg t2.rep.n1).c E b (Z (ev env y).cells.toList)::OS vs fr cx (yJ σ.ob o)) (GS P vs env fr cx σ) w':=hu;have⟨off,gt,st,hc⟩:=ht;rw[hc]at Q;cases Q;have h5:=h4.grow (i:=0) (m:=mB (eRw t2.rep.n t2.rep.agg t2.rep.n1).c E b<|some (ev env y).cells.toList) (m':=mB (me t2.rep off (st ([]:N a.D)) [.slice yD 0 0]) E b (s,0)) O (yO.refl _ _) (λk hk=> .inl hk) λS _ hp G=>by
   have⟨cs,g1,_,_,F⟩:=hp;refine⟨cs,g1,?_⟩;rw[F _ O];exact zsq hc (Xe (zj A<|zZ G y).1) hj O
  have U:=h5.toP 0 O;rw[<-T]at U;have h7:St fr.we fr.Se (mP (me t2.rep off (st ([]:N a.D)) [.slice yD 0 0]) E (yY<|vs o) (s,0)::mO a.rep E1 (.slice yD 0 0) []::OS vs fr cx (yJ σ.ob o)) (GS P vs env fr cx σ) w':=(St.nilO (e:=a.rep) (E:=E1) U).perm<|xdK ..;refine Eg (o:=o) (u:=gN (yY<|vs o) [.slice yD 0 0]) C O (λe he=>C.o1 e<|Yk e he) (DE<|by rw[wG,uX<|GN C M];rfl) ?_
  ·rw[moU];refine St.grp.2<|St.pr (p:=X ([.slice yD 0 0]:N xn)=1/\vrP a (xy n2 t2 i2)) ⟨O,_,_,_,hc⟩ ?_;show St _ _ (mP (me t2.rep (Vb<|xy n2 t2 i2) (Ye a (xy n2 t2 i2) []) [.slice yD 0 0]) E (yY<|vs o) (s,0)::mO a.rep E1 (.slice yD 0 0) []::_) _ _;rw[hc,show Ye a (Z ⟨off,.l a,gt,st⟩) ([]:N a.D)=st ([]:N a.D)from wu λz=>Dj];exact h7
 ·cases h
def zoL(c:xm P cf.tt){k:Sg->V R}{C:TI}(l:Xo cf t=Z C)(h:u5 σ C.ty (xT cx σ x) (xT cx σ y) k=Z r):C3 P cx ⟨yD,.store t x y,ty,pos,aft,g⟩ σ k r:=by
 have h0:=h;unfold u5 at h;split at h
 ·next o e r j f a=>exact zwQ c l a h0
 ·next o q n0 i o2 a b=>exact zwE c l a b h0
 ·next o q n0 i a _=>
  split at h
  ·next D E p E1 n j z ys s=>
   have⟨m,h1⟩:=yv h;rw[Th]at m;obtain rfl:=yr m.1;obtain rfl:=az m.2;have⟨v,f,A,B⟩:=zjd h1;exact zoD c l (X:=λz=> .vr q E p E1 n0 j z ys) (rest:=λu=>[mO p.rep E1 ((wm u).headD wR) ys]) (λ_ _=>O) a s v A B
  ·next D E p E1 n j z s=>
   have⟨m,h1⟩:=yv h;rw[Th]at m;obtain rfl:=yr m.1;obtain rfl:=az m.2;have⟨v,f,A,B⟩:=zjd h1;exact zoD c l (X:=λz=> .vh q E p E1 n0 j z) (rest:=λ_=>[]) (λ_ _=>O) a s v A B
  ·cases h
 ·next o j F r a b=>exact zvU c l a b h0
 ·next o j o2 a b=>exact zxH c l a b h0
 ·next o t2 G n2 i2 a b=>exact zxf c l a b h0
 ·next o o2 a b=>exact zvL c l a b h0
 ·cases h
def Gr:∀{ob:N (K×Od)}{o p:K},o≠p->yJ (yJ ob o) p=yJ (yJ ob p) o
 |[],_,_,_=>rfl
 |(q,X)::r,o,p,h=>by
  have b:=Gr (ob:=r) h;cases h1:xad q o
  ·cases a:xad q p
   ·simp only[yJ,h1,a,vH];rw[b]
   ·simp only[yJ,h1,a,vH,vL]
  ·cases a:xad q p
   ·simp only[yJ,h1,a,vH,vL]
   ·simp_all
def zbY{S:K->Prop}{w:xN}{hv a:N xn}:∀{ix:N K}{cs:N xn},xa (XY a) S ix cs w->xa (XY<|hv++a) S (ix.map (X hv+ ·)) cs w
 |[],_,h=>h
 |r::ix,cs,⟨c,q,h1,⟨u,b,e,f⟩,i⟩=>⟨c,q,h1,⟨u,by show(hv++a)[X hv+r]? =Z u;rw[xbv<|xbt _ _,Nat.add_sub_cancel_left];exact b,e,f⟩,zbY i⟩
def zbx{α:Type}{e:ye α}{E:wn}:∀{hv c:N xn}{a b:N (N α)},X hv=X a->qf e E (hv++c) (a++b)=qf e E hv a++qf e E c b
 |[],_,[],_,_=>rfl
 |u::hv,c,xs::a,b,h=>by
  show mO e E u xs::qf e E (hv++c) (a++b)=mO e E u xs::(qf e E hv a++qf e E c b);rw[zbx<|by simpa using h]
 |[],_,_::_,_,h=>by cases h
 |_::_,_,[],_,h=>by cases h
def ztQ(H:xm P cf.tt){z:wL wr}{ts:wL wn}{k:Sg->V R}(hd:vz cx d=I)(h:zme cf cx σ d z.toList ts.toList k=Z r):
 C3 P cx ⟨d,.call ⟨.builtin .append,z,ts⟩,ty,pos,aft,g⟩ σ k r:=by
 unfold zme at h;split at h
 ·next _ _ x y t t' hS hU=>
  obtain rfl:z= #[x,y]:=by cases z;simp_all
  obtain rfl:ts= #[t,t']:=by cases ts;simp_all
  split at h
  ·next s E B o p ht hx hy=>
   have⟨F,D⟩:=yv h;rw[Th]at F;have⟨hC,hl⟩:=F;obtain rfl:=yr hC;rw[xcM]at hl;clear h;split at D
   ·next q1 q2 T A E1 C a ix s2 f F2 j q hn ho hp=>
    have⟨F,h1⟩:=yv D;simp only[Th]at F;have⟨J,K,L⟩:=F;have J:=yr J;have K:=yr K;have L:=yr L;subst J;subst K;subst L;have⟨hD,h2⟩:=yB h1;cases hD;have⟨U,h3⟩:=YK h2;have⟨a0,hz,h4⟩:=x9 h3;have⟨iz,hi,h5⟩:=x9 h4;have hE:=zhF H hn O;have hc:=(H _ _ hn).2.1;refine⟨_,h5,xbG _,λfr vs env w hR=> ?_⟩;have⟨Y,hr⟩:=hR;have⟨S0,_,G⟩:=hr.ex;have hG:ev env x=yY (vs o):=zj hx<|zZ G x;have hH:ev env y=yY (vs p):=zj hy<|zZ G y;have hI:=tN hl ho hp hr;have⟨M,hJ⟩:=r9 hI;have hu:St fr.we fr.Se (bH vs (p,.mat A f C j q)::((mO (XY<|wm<|vs o) f (yY<|vs o) ix::qf A.rep C (wm<|vs o) a)++OS vs fr cx (yJ (yJ σ.ob o) p))) (GS P vs env fr cx σ) w:=hJ.perm xcj;have⟨hK,hL⟩:=r9 hu;have hN:St fr.we fr.Se (mO (XY<|wm<|vs o) f (yY<|vs o) ix::mO (XY<|wm<|vs p) f (yY<|vs p) q::(qf A.rep C (wm<|vs o) a++qf A.rep C (wm<|vs p) j++OS vs fr cx (yJ (yJ σ.ob o) p))) (GS P vs env fr cx σ) w:=by
     refine hL.perm ?_;simp only[xbJ,xal];refine(List.Perm.cons _ xcj).trans<|(xdK ..).trans ?_;refine List.Perm.cons _<|List.Perm.cons _ ?_;exact(xdO ..)
    have hO:=hN.conv (i:=0) (m:=mO (XY<|wm<|vs o) f (yY<|vs o) ix) (m':=mO (XY<|wm (vs o)++wm (vs p)) f (yY<|vs o) ix) O O λS hq=>zjR hq;have bnd:∀m,m*T<=140737488355328->m<=9223372036854775807:=λm hm=>by
     have hc:0<T:=hc;have:=xcl m hc;lia
    have Q:X (q.map (xaD a+ ·))=X q:=xaV _;refine(iE (e:=XY<|wm (vs o)++wm (vs p)) (ys:=q.map (xaD a+ ·)) 0 (jA H ht) hE O xdN O hG hH (λS w hM ha=> ?_) (bnd _<|by rw[Q];exact U) (by rw[Q];exact U) w hO).mono ?_
    ·have hm:(mO (XY<|wm<|vs p) f (yY<|vs p) q).p S w:=hM.2.1;have hw:(mO (XY<|wm (vs o)++wm (vs p)) f (yY<|vs p) (q.map (xaD a+ ·))).p S w:=by
      have⟨cs,a1,a2⟩:=hm;refine⟨cs,by rw[Q];exact a1,?_⟩;rw[<-M];exact zbY a2
     rcases nT hw with⟨hv,hA⟩|⟨b,cap,hv,hP,hQ⟩
     ·rw[hv,hA];exact⟨yD,0,O,eZ _,sB _,.inl O⟩
     ·have D:=zdb hw hv (l:=0) (n:=X (q.map (xaD a+ ·))) (c:=cap) W hP hQ;rw[List.drop_zero,xcA]at D;rw[hv];simpa using D
    rintro v w' ⟨v',rfl,_,hs⟩;refine U3 (vs:=vs) (mk:=.mw) (u:=gN v<|wm (vs o)++wm (vs p)) Y hd (Fc Y) (λ_=>O) (λS w=>by simp only[qk,wG];rfl) ?_;rw[moU,hz,hi];have h7:St fr.we fr.Se (mO (XY<|wm (vs o)++wm (vs p)) f v (ix++q.map (xaD a+ ·))::mO (XY<|wm<|vs p) f (yY<|vs p) q::(qf A.rep C (wm<|vs o) a++qf A.rep C (wm<|vs p) j++OS vs fr cx (yJ (yJ σ.ob o) p))) (GS P vs env fr cx σ) w':=hs;have h8:=St.drop (i:=1) h7;refine zeV (u:=gN v<|wm (vs o)++wm (vs p)) (by show(wm (vs o)++wm (vs p)).length=X (a++j);simp[M,hK]) ?_;show St _ _ ((mO (XY<|wm (vs o)++wm (vs p)) f v _::qf A.rep C (wm (vs o)++wm (vs p)) (a++j))++_) _ _;rw[zbx M];exact h8
   ·cases D
  ·cases h
 ·cases h
def zkU(H:XOK P cf){s:N5}{f:wr}{c:wL wr}{ts:wL wn}{k:Sg->V R}(hd:vz cx d=I)(J:xT cx σ f=Z (.fn s.f []))(K:s∈cf.ms)(h:RI cx σ d s c.toList k=Z r):
 C3 P cx ⟨d,.call ⟨.value f,c,ts⟩,ty,pos,aft,g⟩ σ k r:=by
 have⟨L,M⟩:=H.ms s K;unfold RI at h;split at h
 ·next _ x a p y hF=>
  obtain rfl:c= #[x,a,p,y]:=by cases c;simp_all
  split at h
  ·next o r0 av pv o' lo n N Q hp S=>
   have⟨T,j⟩:=yv h;obtain rfl:=yr T;clear h;split at j
   ·next s1 E E1 l ix A=>
    have⟨m,h1⟩:=yv j;rw[Th]at m;have B:=yr m.1;have hi:=yr m.2;have⟨U,Y⟩:=yB h1;cases U;have⟨i,hz,h3⟩:=Gx Y;refine⟨_,h3,xbG _,λfr vs env w hR=> ?_⟩;have⟨q,C⟩:=hR;have⟨S0,_,b⟩:=C.ex;have hw:(wm<|vs o)[r0]? =Z (ev env x):=zj N<|zZ b x;have D:=vt Q<|zZ b a;have hl:=vt hp<|zZ b p;have hA:MvV (yY<|vs o) lo n (ev env y):=zj S<|zZ b y;have⟨z,hv,hC,hG⟩:=zj J<|zZ b f;obtain rfl:z=[]:=xbs.1 hC;have F:=ud A C;rw[B,hi]at F;have hc:=M l ix r0 av pv lo n i hz (vs o) (ev env x) (ev env y) hw hA D.2 hl.2 fr.we fr.Se _ _ w F;have hn:(wD (ev env) ⟨d,.call ⟨.value f,#[x,a,p,y],ts⟩,ty,pos,aft,g⟩).run P w=.ok (.enter s.f #[ev env x,.int .i64 av,.int .i64 pv,ev env y]) w:=by simp[wD,vS,hv,xdx,qR,Za L,D.1,hl.1]
    unfold Yq;rw[hn];refine hc.mono ?_;rintro e w' ⟨v,G,rfl,hu,hD⟩;refine⟨v,O,Eg (o:=o) (u:=G) q hd (λe he=>q.o1 e<|Yk e he) (DE<|by rw[wG,uX<|GN q A];exact hu) ?_⟩;rw[moU];show St _ _ (Ih s.t.rep E E1 G i ix::_) _ _;rw[B,hi];exact hD
   ·cases j
  ·cases h
 ·cases h
theorem RK{o n:K}:∀{rg:N (K×K×Dv)},∀e∈zf2 o n rg,e∈rg\/∃a∈rg,∃p,a.2.2=.yd p/\e=(a.1,a.2.1,bif xad p o then .yd n else .yd p)
 |[],e,he=>wl he QT
 |(t,i,v)::rg,e,he=>by
  have b:∀e∈zf2 o n rg,e∈(t,i,v)::rg\/∃a∈(t,i,v)::rg,∃p,a.2.2=.yd p/\e=(a.1,a.2.1,bif xad p o then .yd n else .yd p):=λe he=>by
   obtain h|⟨a,h1,p,c,f⟩:=RK e he
   ·simp_all
   ·grind
  cases v with
  |yd p=>
   rcases PQ.1 (show e∈(t,i,bif xad p o then Dv.yd n else .yd p)::zf2 o n rg from he)with rfl|he
   ·simp_all
   ·exact b e he
  |_=>
   obtain rfl|he:=PQ.1 he
   ·exact .inl<|Qh
   ·exact b e he
def zou(hX:XOK P cf){o:K}{f:wr}{m:wL wr}{ts:wL wn}{k:Sg->V R}(hd:vz cx d=I)(hf:xT cx σ f=Z (.yd o))(h:zdR cx σ d o m.toList k=Z r):
 C3 P cx ⟨d,.call ⟨.value f,m,ts⟩,ty,pos,aft,g⟩ σ k r:=by
 unfold zdR at h;split at h
 ·next _ x hC=>
  obtain rfl:m= #[x]:=by cases m;simp_all
  split at h
  ·next p hx=>
   have⟨hi,h⟩:=yv h;rw[xcM]at hi;split at h
   ·next t E X Y mX mY gg z s a ys D hp=>
    have⟨hE,h1⟩:=yv h;have hE:=yr hE;subst hE;have⟨hm,G⟩:=yB h1;cases hm;have⟨q,hq,Q⟩:=Gx G
    have n:∀(fr:Fr) (vs:K->xn) (env:xt) (w:xN),Ao P fr cx σ vs env w->Yq P ⟨d,.call ⟨.value f,#[x],ts⟩,ty,pos,aft,g⟩ env w λv w'=>v=.bool q.2.isLeft/\Bd cx σ/\ze3 P (lOf<|yY<|vs o) t.rep a mX mY gg/\
     ∃c,St fr.we fr.Se (xfj (λx=>mX x c) (λy=>mY y c) q.2::mO t.rep a (vs p) q.1::OS vs fr cx (yJ (yJ σ.ob o) p)) (GS P vs env fr cx σ) w':=by
     intro fr vs env w A;have⟨j,hj⟩:=A;have⟨S0,_,H⟩:=hj.ex;have hn:ev env x=vs p:=zj hx<|zZ H x;have ht:ev env f=.func (.yield<|lOf<|yY<|vs o) #[] #[]:=zj hf<|zZ H f;have hv:=tN hi D hp hj;have⟨F,h4⟩:=St.unpr<|St.grp.1 hv;rw[<-hX.pp]at F;have h4:St fr.we fr.Se (mX z ((wm<|vs o).headD wR)::mO t.rep a (vs p) ys::OS vs fr cx (yJ (yJ σ.ob o) p)) (GS P vs env fr cx σ) w:=h4;have⟨fn,tmps,a0,a1,hy,A⟩:=F ys z q.1 q.2 hq (vs p) _ _ _ _ _ w h4;have hk:(wD (ev env) ⟨d,.call ⟨.value f,#[x],ts⟩,ty,pos,aft,g⟩).run P w=.ok (.round (lOf<|yY<|vs o) fn tmps a0 a1) w:=by
      rw[<-hn]at hy;simp[wD,vS,ht,xdx,qR,hy]
     unfold Yq;rw[hk];exact A.mono λe w' ⟨T,h6⟩=>⟨_,T,O,j,F,h6⟩
    have J:∀(B:Od) (b:ws) (c:xn) (vs:K->xn) (fr:Fr) (env:xt) (w':xN),Bd cx σ->St fr.we fr.Se (bH (V8 vs σ.nx<|gN (yY<|vs o) [c]) (σ.nx,B)::mO t.rep a (vs p) q.1::OS vs fr cx (yJ (yJ σ.ob o) p)) (GS P vs env fr cx σ) w'->
     B6 P fr cx σ.nx vs ⟨σ.nx+1,zf2 o σ.nx<|jq σ.rg d [(0,.kb b)],(σ.nx,B)::yJ (Zf σ.ob p (.own t a q.1)) o⟩ (put env d (.bool b)) w':=by
     intro B b c vs fr env w' j C;have hc:p≠o:=λe=>by subst e;simp at hi
     have hw:=GN j D;have hD:xQ (yJ σ.ob o) p=Z (.own t a ys):=by rw[gi hc];exact hp
     have hz:St fr.we fr.Se (bH (V8 vs σ.nx<|gN (yY<|vs o) [c]) (σ.nx,B)::OS vs fr cx (yJ (Zf σ.ob p (.own t a q.1)) o)) (GS P vs env fr cx σ) w':=by
      have h7:=kU (vs:=vs) (fr:=fr) (cx:=cx) (ob:=yJ (Zf σ.ob p (.own t a q.1)) o) (o:=p) (X:=.own t a q.1) (by rw[gi hc];exact(JI hp).1);have h8:yJ (yJ (Zf σ.ob p (.own t a q.1)) o) p=yJ (yJ σ.ob o) p:=by rw[Gr<|λe=>hc e.symm,(JI hp).2,Gr<|λe=>hc e]
      rw[h8]at h7;exact C.perm<|h7.symm.cons _
     have⟨L,hA⟩:Ao P fr cx ⟨σ.nx+1,jq σ.rg d [(0,.kb b)],(σ.nx,B)::yJ (Zf σ.ob p (.own t a q.1)) o⟩ (V8 vs σ.nx<|gN (yY<|vs o) [c]) (put env d (.bool b)) w':=by
      have hl:∀e∈yJ (Zf σ.ob p (.own t a q.1)) o,e.1<σ.nx:=λe he=>by
       have⟨e1,g1,g2⟩:=UU hp e<|Yk e he;rw[<-g2];exact j.o1 e1 g1
      refine zdN (σ':=⟨σ.nx+1,jq σ.rg d [(0,.kb b)],(σ.nx,B)::yJ (Zf σ.ob p (.own t a q.1)) o⟩) (l:=[(0,.kb b)]) (vs:=vs) (Γl:=[]) j hd O (xbG _) (λo D=>uX D) (λe he p hp=> ?_) (λe he=> ?_) (λS w _ e he=> ?_) ?_
      ·obtain rfl:=xab.1 he;cases hp
      ·obtain rfl|he:=PQ.1 he
       ·exact xdy _
       ·exact Nat.lt_succ_of_lt<|hl e he
      ·obtain rfl:=xab.1 he;exact O
      ·show St _ _ (bH (V8 vs σ.nx _) (σ.nx,B)::OS (V8 vs σ.nx _) fr cx (yJ (Zf σ.ob p (.own t a q.1)) o)) _ _;rw[zcH j hl];exact hz
     refine⟨_,λo D=>uX D,⟨L.o1,L.o2,λe he r U=> ?_,L.r2⟩,hA.weak λS w h=>zK.append (YS.2 λf hf=> ?_)<|zK.right h⟩
     ·obtain h|⟨M,h1,r',G,rfl⟩:=RK e he
      ·exact L.r1 e h r U
      ·cases hb:xad r' o<;>simp only[hb,vL,vH]at U
       ·exact L.r1 M h1 r<|by rw[G];exact U
       ·cases U;exact xdy _
     ·obtain⟨e,he,rfl⟩:=xan.1 hf;obtain h'|⟨M,h1,r',G,rfl⟩:=RK e he
      ·exact ef (zK.left h) h'
      ·have T:=ef (zK.left h) (t:=M.1) (i:=M.2.1) (d:=M.2.2) h1;rw[G]at T;refine UQ T λu N=> ?_;cases hb:xad r' o
       ·exact N
       ·have N:u=.func (.yield<|lOf<|yY<|V8 vs σ.nx (gN (yY<|vs o) [c]) r') #[] #[]:=N;rw[yr hb,uX hw]at N;show u=.func (.yield<|lOf<|yY<|V8 vs σ.nx (gN (yY<|vs o) [c]) σ.nx) #[] #[];rw[wG];exact N
    cases hg:q.2 with
    |inl z'=>
     rw[hg]at Q;refine⟨_,Q,xbG _,λfr vs env w A=>(n fr vs env w A).mono ?_⟩;rintro v w' ⟨rfl,j,F,c,C⟩;rw[hg]at C⊢;refine J _ I c vs fr env w' j ?_;rw[moU];refine St.grp.2 ?_;rw[<-hX.pp];exact St.pr F C
    |inr y'=>
     rw[hg]at Q;refine⟨_,Q,xbG _,λfr vs env w A=>(n fr vs env w A).mono ?_⟩;rintro v w' ⟨rfl,j,F,c,C⟩;rw[hg]at C⊢;refine J _ yL c vs fr env w' j ?_;rw[moU];exact C
   ·cases h
  ·cases h
 ·cases h
end
end
section
section
variable{P:ww}{cf:Cf}{fr:Fr}{cx σ:Sg}{vs vs':zV->xn}{env:xt}{w:xN}{R:Type}{r:R}
 {d:z7 vn}{ty t yt:wn}{pos:String}{aft:wL Edge}{g:z7 (zV×ws)}{x y:wr}
def zeO{o:K}{s:Ty}{E:wn}{xs:N s.D}{S:K->Prop}(a:(fV (eS s.rep) xs<|vs o).p S w):∀{rg:N (K×K×Dv)},zK S (RS P vs env rg) w->zK S (RS P vs env<|TJ o (.own s E xs) rg) w
 |[],_=>trivial
 |(t,i,v)::rg,h=>by
  refine⟨?_,zeO a h.2⟩;have h1:=h.1;cases v<;>try exact h1
  rename_i b;unfold zcP;cases c:xad b o<;>simp only[c]
  ·exact h1
  ·have:=yr c;subst this;refine UQ h1 λu e=> ?_;rw[show u=vs b from e];exact a
def zfI{o:K}{s:Ty}{E:wn}{z:s.D}{S:K->Prop}(a:(fP s.rep z<|vs o).p S w):∀{rg:N (K×K×Dv)},zK S (RS P vs env rg) w->zK S (RS P vs env<|TJ o (.var s E z) rg) w
 |[],_=>trivial
 |(t,i,v)::rg,h=>by
  refine⟨?_,zfI a h.2⟩;have h1:=h.1;cases v<;>try exact h1
  rename_i b f;unfold zcP;cases c:xad b o<;>simp only[c]
  ·exact h1
  ·have:=yr c;subst this;refine UQ h1 λu e=> ?_;rw[show u=vs b from e.1];exact a
def zeM{o:K}{s:Ty}{E E1:wn}{a:N (N s.D)}{ix:N K}{S:K->Prop}(b:(fV (eS<|eS s.rep) (zli a ix)<|yY<|vs o).p S w):∀{rg:N (K×K×Dv)},zK S (RS P vs env rg) w->zK S (RS P vs env<|TJ o (.mat s E E1 a ix) rg) w
 |[],_=>trivial
 |(t,i,v)::rg,h=>by
  refine⟨?_,zeM b h.2⟩;have h1:=h.1;cases v<;>try exact h1
  rename_i c;unfold zcP;cases e:xad c o<;>simp only[e]
  ·exact h1
  ·have:=yr e;subst this;refine UQ h1 λu f=> ?_;rw[show u=yY (vs c)from f];exact b
def zi4{o:K}{t s:Ty}{E E1 n i:K}{z:t.D}{xs:N s.D}{S:K->Prop}(a:(fP t.rep (Ye s (xy n t i) xs z)<|yY<|vs o).p S w):∀{rg:N (K×K×Dv)},zK S (RS P vs env rg) w->zK S (RS P vs env<|TJ o (.vr t E s E1 n i z xs) rg) w
 |[],_=>trivial
 |(u,j,v)::rg,h=>by
  refine⟨?_,zi4 a h.2⟩;have h1:=h.1;cases v<;>try exact h1
  rename_i b;unfold zcP;cases c:xad b o<;>simp only[c]
  ·exact h1
  ·have:=yr c;subst this;refine UQ h1 λu e=> ?_;rw[show u=yY (vs b)from e];exact a
def gQ{o:K}{X:Od}(a:∀v,zcP o X v=v):∀{rg:N (K×K×Dv)},TJ o X rg=rg
 |[]=>rfl
 |(t,i,v)::rg=>by
  show(t,i,zcP o X v)::TJ o X rg=_;rw[a,gQ a]
def zns{o p:K}{X:Od}{v:Dv}(h:qd (zcP o X v)=Z p):qd v=Z p:=by
 unfold zcP at h;split at h
 ·next a s E xs=>
  cases b:xad a o<;>rw[b]at h
  ·exact h
  ·cases h
 ·next a e s E z=>
  cases b:xad a o<;>rw[b]at h
  ·exact h
  ·cases h
 ·next a s E E1 c ix=>
  cases b:xad a o<;>rw[b]at h
  ·exact h
  ·cases h
 ·next a t E s E1 n i z xs=>
  cases b:xad a o<;>rw[b]at h
  ·exact h
  ·cases h
 ·exact h
theorem zfD{o:K}{X:Od}:∀{rg:N (K×K×Dv)},∀e∈TJ o X rg,∀p,qd e.2.2=Z p->∃a∈rg,qd a.2.2=Z p
 |[],e,he=>wl he QT
 |(t,i,v)::rg,e,he=>by
  intro p hp;obtain rfl|he:=PQ.1 he
  ·refine⟨(t,i,v),Qh,?_⟩;exact zns hp
  ·have⟨a,h1,b⟩:=zfD e he p hp;grind
theorem zbm{o:K}(h:Ao P fr cx σ vs env w):Ao P fr cx (zei σ o) vs env w:=by
 unfold zei;split
 ·next X ho=>
  have⟨m,hc⟩:=h;have⟨i,hi,_,hd⟩:=vG ho;have H:Bd cx ⟨σ.nx,TJ o X σ.rg,yJ σ.ob o⟩:=⟨λe A=>m.o1 e<|Yk e A,m.o2,λe A p hp=>by have⟨J,h1,f⟩:=zfD e A p hp;exact m.r1 J h1 p f,m.r2⟩;refine⟨H,?_⟩
  cases X with
  |own s E xs=>
   have q:(OS vs fr cx σ.ob)[i]? =Z (mO s.rep E (vs o) xs):=aF hi;have:=zcE i hc q;rw[rF hi,<-hd]at this;exact this.weak λS w a=>zK.append (zeO a.1<|zK.left a.2)<|zK.right a.2
  |var s E z=>
   have q:(OS vs fr cx σ.ob)[i]? =Z (mP s.rep.c E (vs o) z):=aF hi;have⟨b,hv,u⟩:=hc.openP i q;have:=zvf (e:=s.rep) i u<|qb q;rw[GI,rF hi,<-hd,<-hv]at this;exact this.weak λS w a=>zK.append (zfI a.1<|zK.left a.2)<|zK.right a.2
  |mat s E E1 B ix=>
   have h1:=ud ho hc;have f:St fr.we fr.Se (zq1 s.rep E E1 (yY<|vs o) (wm<|vs o) B ix::OS vs fr cx (yJ σ.ob o)) (GS P vs env fr cx σ) w:=St.grp.2 (r9 h1).2;exact(f.mat_frz (r9 h1).1).weak λS w a=>zK.append (zeM a.1<|zK.left a.2)<|zK.right a.2
  |vr t E s E1 n i z xs=>
   have h1:=ud ho hc;have f:=h1.freeze (i:=0) (F:=fP t.rep (Ye s (xy n t i) xs z)<|yY<|vs o) O λS V u C hp=>by
    have⟨⟨⟨hl,L⟩,⟨b,hv,cs,g1,j⟩,hn,_⟩,_⟩:=hp;have j:(me t.rep (Vb<|xy n t i) (Ye s (xy n t i) [])<|wm<|vs o).p S (z,0) cs.toList w:=j;refine⟨b,0,cs.toList,hv,C b ⟨_,kE _<|Qh,by show zlW (yY<|vs o)=Z b;rw[hv];rfl⟩,At.row g1,?_⟩;have⟨off,M,st,G⟩:=L;rw[G]at j⊢;rw[show Ye s (Z ⟨off,.l s,M,st⟩) ([]:N s.D)=st ([]:N s.D)from wu λz=>Dj]at j;rw[Dj];exact zuF G j (by rw[RQ hl];rfl) u<|DJ u (λk Q=>C k ⟨_,kE _<|kE _<|Qh,Q⟩) hn
   exact f.weak λS w a=>zK.append (zi4 a.1<|zK.left a.2)<|zK.right a.2
  |vh t E s E1 n i z=>
   rw[gQ<|λv=>by cases v<;>rfl];exact St.drop (i:=0)<|ud ho hc
  |bo s E T xs=>
   rw[gQ<|λv=>by cases v<;>rfl];exact St.drop (i:=0)<|ud ho hc
  |ho T=>
   rw[gQ<|λv=>by cases v<;>rfl];exact St.drop (i:=0)<|ud ho hc
  |hid t E X Y mX U g x=>
   rw[gQ<|λv=>by cases v<;>rfl];exact St.drop (i:=0)<|ud ho hc
  |hiy Y U y=>
   rw[gQ<|λv=>by cases v<;>rfl];exact St.drop (i:=0)<|ud ho hc
 ·exact h
theorem zpz(x:wr)(h:Ao P fr cx σ vs env w):Ao P fr cx (frz cx σ x) vs env w:=by grind [frz,zbm]
def zcW(x:wr)(h:Wq P fr cx σ env w):Wq P fr cx (frz cx σ x) env w:=by
 have⟨a,vs,b⟩:=h;have⟨h1,c⟩:=zpz x ⟨a,b⟩;exact⟨h1,vs,c⟩
def R3:∀(l:N wr) {σ:Sg},Wq P fr cx σ env w->Wq P fr cx (zrM cx σ l) env w
 |[],_,h=>h
 |x::r,_,h=>R3 r<|zcW x h
def zhY{f:vi}:∀{cs:N QY}{s:QY},zls f cs=Z s->s∈cs/\s.f=f/\s.bk=1
 |c::cs,s,h=>by
  unfold zls at h;split at h
  ·next h1 i j k=>
   cases e:xad c.f f<;>rw[e]at h
   ·have⟨a,b⟩:=zhY h;exact⟨kE _ a,b⟩
   ·simp_all
  ·have⟨a,b⟩:=zhY h;exact⟨kE _ a,b⟩
def zyy(B:∀s∈cf.cs,xI P s){f:wr}{f':vi}{o:K}{C:Ty}{s:QY}{a:wL wr}{ts:wL wn}{k:Sg->V R}(hd:vz cx d=I)(D:xT cx σ f=Z (.bm f' o C))(ht:a.toList=[])
 (F:zls f' cf.cs=Z s) (h:mBm σ d s o k=Z r):C3 P cx ⟨d,.call ⟨.value f,a,ts⟩,ty,pos,aft,g⟩ σ k r:=by
 have⟨h1,j,G⟩:=zhY F;have hc:=B s h1;unfold mBm at h;split at h
 ·next f0 t E t2 q M bk H E' y m=>
  have⟨u,J⟩:=yv h;have⟨hn,L⟩:=yB J;subst hn;have⟨z,N,Q⟩:=Gx L;rw[Th,Th]at u;obtain rfl:=yr u.1;obtain rfl:bk=1:=G;obtain rfl:a= #[]:=by cases a;simp_all
  refine⟨_,Q,eZ _,λfr vs env w T=> ?_⟩;have⟨v,hi⟩:=T;have⟨S0,_,n⟩:=hi.ex;have⟨hv,b,U⟩:=zj D<|zZ n f;have A:=hc.2 (y,()) z N [vs o] O;have Y:(wD (ev env) ⟨d,.call ⟨.value f,#[],ts⟩,ty,pos,aft,g⟩).run P w=.ok (.enter f' #[vs o]) w:=by simp[wD,vS,hv,xdx,qR,Za<|j▸hc.1]
  have hl:St fr.we fr.Se (mP H.rep.c E (vs o) y::OS vs fr cx (yJ σ.ob o)) (Ah (∃b,vs o=.pointer (Z ⟨b,0,yD⟩))::GS P vs env fr cx σ) w:=(ud m hi).weak λS w p=>⟨⟨b,U⟩,p⟩;unfold Yq;rw[Y];rw[show f0=f' from j]at A;refine(A fr.we fr.Se _ _ w hl).mono ?_;rintro e w' ⟨us,i,⟨hu,hp⟩,hq⟩;obtain rfl:us=[vs o]:=hp;refine⟨_,i,?_⟩;refine aU (σ':=⟨σ.nx,jq σ.rg d [],Zf σ.ob o (.var t2 q z)⟩) (d:=d) (l:=[]) (vs:=vs) (vs':=vs) (Γl:=[]) v hd O (eZ _) (λ_ _=>O) (λ_ i=>wl i QT) (λe i=> ?_) (λS w _ e i=>wl i QT) ?_
  ·have⟨e',h1,j⟩:=UU m e i;rw[<-j];exact v.o1 e' h1
  ·refine Mz m ?_;have hr:St fr.we fr.Se (mP t2.rep.c q (vs o) z::OS vs fr cx (yJ σ.ob o)) (Ah (∃b,vs o=.pointer (Z ⟨b,0,yD⟩))::GS P vs env fr cx σ) w':=hq;exact hr.weak λS w p=>p.2
 ·cases h
def zuD(a:xm P cf.tt)(b:ZX P cf.tt)(c:∀s∈cf.cs,xI P s)(e:XOK P cf){l:Op}{k:Sg->V R}(hd:vz cx d=I)(h:ztB cf cx σ d l k=Z r):
 C3 P cx ⟨d,l,ty,pos,aft,g⟩ σ k r:=by
 unfold ztB at h;split at h
 ·exact zrP a hd h
 ·next E x=>
  cases m:zvi cf d<;>rw[m]at h
  ·exact m_E a b c e hd h
  ·exact zwR hd h
 ·next t x y=>
  have⟨hn,h⟩:=yv h;have hn:d=yD:=by simpa using hn
  subst hn;split at h
  ·next u hc=>exact zq9 a hc h
  ·cases h
 ·exact zuj a hd h
 ·exact zwF a b hd h
 ·next t x hi=>
  split at h
  ·next o n=>exact zqO a b hd n h
  ·exact m_E a b c e hd h
 ·exact zws a hd h
 ·exact zuG a b hd h
 ·next f p ts=>
  split at h
  ·next f' cs i=>
   split at h
   ·next s j=>exact zuH c hd i j h
   ·exact m_E a b c e hd h
  ·next f' o t i=>
   split at h
   ·next s q j=>exact zyy c hd i q j h
   ·cases h
  ·exact m_E a b c e hd h
 ·exact m_E a b c e hd h
def zsD(b:xm P cf.tt)(l:ZX P cf.tt)(m:∀s∈cf.cs,xI P s)(e:XOK P cf){i:Op}{k:Sg->V R}(hd:vz cx d=I)(h:mOp cf cx σ d i k=Z r):
 C3 P cx ⟨d,i,ty,pos,aft,g⟩ σ k r:=by
 unfold mOp at h
 cases hc:coM cf cx σ d i with
 |no=>rw[hc]at h;exact zuD b l m e hd h
 |_=>
  rw[hc]at h;simp only[mCo]at h;unfold coM at hc;split at hc
  ·next t x y=>
   cases a:zgU (xT cx σ x)<;>rw[a]at hc<;>cases hc
   all_goals
    have⟨hn,h⟩:=yv h
    have hn:d=yD:=by simpa using hn
    subst hn
    split at h
    ·next A p=>exact zoL b p h
    ·cases h
  ·next t x y=>
   cases a:zhl cf d<;>rw[a]at hc<;>cases hc;all_goals exact zq4 b hd h
  ·next t n ps=>
   cases a:zhl cf d<;>rw[a]at hc<;>cases hc;all_goals exact zut b l hd h
  ·next E=>
   cases a:zhl cf d||(zhC cf d).isSome<;>rw[a]at hc<;>cases hc
   all_goals exact zo7 b hd h
  ·next t ps=>
   cases a:(zhC cf d).isSome<;>rw[a]at hc<;>cases hc;all_goals exact znl b hd h
  ·next t x=>
   split at hc
   ·next o q=>cases hc<;>exact zrr b hd q h
   ·split at hc
    ·next o u=>cases hc<;>exact zrS b hd u h
    ·cases hc
  ·next c ts=>
   cases a:c.toList.any (λx=>zmO<|xT cx σ x)<;>rw[a]at hc<;>cases hc;all_goals exact ztQ b hd h
  ·next f c ts=>
   split at hc
   ·next o j=>cases hc<;>exact zou e hd j h
   ·next f' j=>
    split at hc
    ·next s v=>
     have⟨h1,z⟩:=znC v;subst z;cases hc<;>exact zkU e hd j h1 h
    ·cases hc
   ·cases hc
  ·cases hc
theorem zoO{t:vn}:put env (Z t) (env t)=env:=by grind [Px,Ca]
def Dw{t:vn}{b:ws}(hn:KS cx.rg t=I)(hv:env t=.bool b)(h:Wq P fr cx σ env w):Wq P fr cx (zdp σ t b) env w:=by
 have⟨c,vs,f⟩:=h
 have:=B6.rel<|aU (d:=Z t) (σ':=zdp σ t b) (Γl:=[]) c hn O (eZ _) (λ_ _=>O)
  (λe a o i=>by obtain rfl:=xab.1 a;cases i) c.o1 (λS w _ e a=>by obtain rfl:=xab.1 a;exact hv) f
 rwa[zoO]at this
def Fz{t:vn}{x:ws}{S:K->Prop}(h:get cx σ t 0=Z (.d .b x))(hl:Lk P vs env S w cx σ t):env t=.bool x:=EW<|hl 0 _ h
def zf3{b:ws}{a c:V R}(h:ifB b a c=Z r):(b=I/\a=Z r)\/(b=yL/\c=Z r):=by
 cases b
 ·exact .inr ⟨O,h⟩
 ·exact .inl ⟨O,h⟩
theorem zry{c:N wT}{o:wT}{k:Sg->ws->V R}(h:Gh cx c o σ k=Z r)(p:Wq P fr cx σ env w):∃σ' b,k σ' b=Z r/\Wq P fr cx σ' env w/\xl c.toArray env o=b:=by
 have f:=p;have⟨q,vs,hd⟩:=p;have⟨S,_,e⟩:=hd.ex;unfold Gh at h;split at h
 ·next n=>exact⟨σ,I,h,f,by unfold xl;rw[n]⟩
 ·next j a n=>
  split at h
  ·next s u=>
   split at h
   ·next t z=>
    have hc:∀{v},env t=v->gd c.toArray env j=(match v with|.bool b=>Z b|_=>yD):=by
     rintro v rfl;unfold gd;grind
    have m:xl c.toArray env o=(gd c.toArray env j==Z a):=by unfold xl;rw[n]
    split at h
    ·next b i=>
     have hv:env t=.bool b:=JJ e t 0 _ i;refine⟨σ,_,h,f,?_⟩;rw[m,hc hv];cases b<;>cases a<;>rfl
    ·next i=>
     have hv:env t=wR:=JJ e t 0 _ i;refine⟨σ,_,h,f,?_⟩;rw[m,hc hv];rfl
    ·next x i=>
     have⟨hn,h⟩:=yv h;have hv:env t=.bool x:=Fz i<|JJ e t;rcases zf3 h with⟨l,h⟩|⟨l,h⟩
     ·exact⟨_,_,h,Dw hn (hv.trans<|wF xes l) f,by rw[m,hc<|hv.trans<|wF xes l];cases a<;>rfl⟩
     ·exact⟨_,_,h,Dw hn (hv.trans<|wF xes l) f,by rw[m,hc<|hv.trans<|wF xes l];cases a<;>rfl⟩
    ·cases h
   ·cases h
  ·cases h
theorem ztp{o:wT}{k:Sg->V R}(h:zbK cx o σ k=Z r)(c:Wq P fr cx σ env w):∃σ',k σ'=Z r/\Wq P fr cx σ' env w:=by
 have e:=c;have⟨i,vs,hc⟩:=c;have⟨S,_,a⟩:=hc.ex;unfold zbK at h;split at h
 ·next t _ _ _=>
  split at h
  ·next x f=>
   have⟨hn,h⟩:=yv h;have hv:=Fz f<|JJ a t;rcases zf3 h with⟨b,h⟩|⟨b,h⟩
   ·exact⟨_,h,Dw hn (hv.trans<|wF xes b) e⟩
   ·exact⟨_,h,Dw hn (hv.trans<|wF xes b) e⟩
  ·grind
 ·grind
def zva{N:Nd}{b:wL wT}{o:wT}{rest:zC wT}{Q:Qs}(c:xl b env o=I)(hd:kP N.n o.dst=I)(h:Yq P o env w (λv w'=>WpL P N b rest Q (put env o.dst v) w')):WpL P N b (o::rest) Q env w:=by
 intro a h1 e f;subst f;unfold vX;rw[S<|by rw[UK];exact c];refine h.wp λv w' i=> ?_;exact i _ (by rw[gG];exact h1) (by rw[Qu];exact e)<|Qj<|by rw[h1];exact gU hd
def zqG{N:Nd}{b:wL wT}{o:wT}{rest:zC wT}{Q:Qs}(c:xl b env o=yL)(hd:kP N.n o.dst=I)(h:WpL P N b rest Q (put env o.dst wR) w):WpL P N b (o::rest) Q env w:=by
 intro a h1 e f;subst f;unfold vX;rw[ir<|by rw[UK,c];exact Bool.false_ne_true];exact⟨λ_ _=>xS,h _ (by rw[gG];exact h1) (by rw[Qu];exact e)<|Qj<|by rw[h1];exact gU hd⟩
def zuO(hd:vz cx d=I)(h:Wq P fr cx σ env w):Wq P fr cx (σ.put d [(0,.un)]) (put env d wR) w:=by
 have⟨b,vs,c⟩:=h;exact(aU (σ':=σ.put d [(0,.un)]) (Γl:=[]) b hd O (eZ _) (λ_ _=>O) (λe a o f=>by obtain rfl:=xab.1 a;cases f) b.o1 (λS w _ e a=>by obtain rfl:=xab.1 a;exact O) c).rel
def Eb(cx:Sg)(a b:xt):Prop:=∀e∈cx.rg,b e.1=a e.1
def Eb.refl{a:xt}:Eb cx a a:=λ_ _=>O
def Eb.trans{a b c:xt}(h:Eb cx a b)(k:Eb cx b c):Eb cx a c:=λe f=>(k e f).trans<|h e f
def Eb.put{a b:xt}{v:xn}(hd:vz cx d=I)(h:Eb cx a b):Eb cx a (put b d v):=λe c=>by
 rw[Ca λf=> ?_]
 ·exact h e c
 ·subst f;simp only[vz,KS,xaS]at hd;have:=hd e c;simp at this
def zds(j:xm P cf.tt)(m:ZX P cf.tt)(p:∀s∈cf.cs,xI P s)(q:XOK P cf){N:Nd}{e:zC wT}{Q:Qs}{k:Sg->V R}{env0:xt}
 (u:∀σ',k σ'=Z r->∀env w,Eb cx env0 env->Wq P fr cx σ' env w->Q .normal env w):∀{l:zC wT}{σ:Sg}{env:xt}{w:xN},Eb cx env0 env->(l.all λo=>kP N.n o.dst)=I->zkC cf cx e l σ k=Z r->Wq P fr cx σ env w->WpL P N e.toArray l Q env w
 |[],σ,env,w,i,_,h,c=>λa h1 B C=>wpListIn_nil ⟨h1,B,C▸u σ h env w i c⟩
 |o::l,σ,env,w,i,f,h,c=>by
  simp only[List.all_cons,Th]at f;unfold zkC at h;have⟨hd,h⟩:=yv h;have⟨D,b,h,c,A⟩:=zry h c;cases b
  ·exact zqG A f.1<|zds j m p q u (i.put hd) f.2 h<|zuO hd c
  ·have⟨z,h,c⟩:=ztp h c;have c:=R3 (zuo cf cx z o.dst o.op) c;have⟨σ',E,_,F⟩:=zsD (P:=P) (d:=o.dst) (ty:=o.type) (pos:=o.pos) (aft:=o.after) (g:=o.guard) j m p q hd h;have⟨G,vs,H⟩:=c;exact zva A f.1<|(F fr vs env w ⟨G,H⟩).mono λv w' J=>zds j m p q u (i.put hd) f.2 E J.rel
end
end
section
section
variable{P:ww}{cf:Cf}{fr:Fr}{cx σ σ0:Sg}{vs vs':zV->xn}{env env0:xt}{w:xN}{R:Type}{r:R}
 {d:z7 vn}{ty t yt:wn}{pos:String}{aft:wL Edge}{g:z7 (zV×ws)}{x y:wr}
theorem zfy:∀{a b:N (K×K×Dv)}{t i:K},(∀e∈a,e.1≠t)->Br (a++b) t i=Br b t i
 |[],_,_,_,_=>rfl
 |(c,f,d)::a,b,t,i,h=>by
  show(bif xad c t && xad f i then Z d else Br (a++b) t i)=_;rw[XO<|h (c,f,d)<|Qh];exact zfy λe j=>h e<|kE _ j
theorem zoV{rg:N (K×K×Dv)}{t a i:K}(h:a≠t):Br (zvt rg t) a i=Br rg a i:=by
 induction rg with
 |nil=>rfl
 |cons e rg b=>
  have⟨s,j,d⟩:=e;unfold zvt at b⊢;rw[xfu];cases c:xad s t
  ·simp only[xfk,wN];unfold Br;rw[b]
  ·simp only[xdG,xaj,wP];rw[b];have:=yr c;subst this;conv=>rhs;unfold Br
   rw[XO<|λe=>h e.symm];rfl
theorem ziq{rg:N (K×K×Dv)}{t a i:K}{l:N (K×Dv)}(h:a≠t):Br (jq rg (Z t) l) a i=Br rg a i:=by grind [jq,zfy,zoV]
def zrW{t a i:K}{l:N (K×Dv)}{n:K}{ob:N (K×Od)}{dv:Dv}(hn:KS cx.rg t=I)(h:get cx ⟨n,jq σ.rg (Z t) l,ob⟩ a i=Z dv):(a=t/\(i,dv)∈l)\/(a≠t/\get cx σ a i=Z dv):=by
 by_cases b:a=t
 ·subst b;obtain hm|hm:=zcv h
  ·have hm:=hm;obtain hm|hm:=pN.1 hm
   ·simp_all
   ·have:=(xcf.1 hm).2;simp at this
  ·simp only[KS,xaS]at hn;have:=hn _ hm;simp at this
 ·right;refine⟨b,?_⟩;unfold get at h⊢;rw[show Br (jq σ.rg (Z t) l) a i=Br σ.rg a i from ziq b]at h;exact h
def zoh{t:K}{l:N (K×Dv)}{n:K}{ob:N (K×Od)}{S:K->Prop}(hn:KS cx.rg t=I){a:K}(h1:a=t->∀e∈l,(qI P vs e.2 (env t) e.1).p S w)(b:a≠t->Lk P vs env S w cx σ a):Lk P vs env S w cx ⟨n,jq σ.rg (Z t) l,ob⟩ a:=by
 intro i dv hd;rcases zrW hn hd with⟨rfl,h⟩|⟨c,f⟩
 ·simp_all
 ·exact b c i dv f
def zdF{l:N (K×Dv)}(a:Bd cx σ)(hl:∀e∈l,∀o,qd e.2=Z o->o<σ.nx):Bd cx (σ.put d l):=by
 refine⟨a.o1,a.o2,λe he o b=> ?_,a.r2⟩
 cases d with
 |none=>exact a.r1 e he o b
 |some t=>
  obtain he|he:=pN.1 he
  ·obtain⟨c,f,rfl⟩:=xan.1 he;exact hl c f o b
  ·exact a.r1 e (xcf.1 he).1 o b
def Nf{t a:K}{x b:ws}{S:K->Prop}(hn:KS cx.rg t=I)(c:get cx σ t 0=Z (.d .b x))(f:x=b)(h:Lk P vs env S w cx σ a):Lk P vs env S w cx (zdp σ t b) a:=by
 refine zoh hn (λe j i=> ?_)<|λ_=>h;subst e;obtain rfl:=xab.1 i;exact(Fz c h).trans<|wF xes f
def zl5{a:N wT}{o:wT}{k:Sg->ws->V R}(h:Gh cx a o σ k=Z r)(l:Bd cx σ):∃σ' b,k σ' b=Z r/\σ'.ob=σ.ob/\σ'.nx=σ.nx/\Bd cx σ'/\
 (∀(P:ww) vs env S w t,Lk P vs env S w cx σ t->Lk P vs env S w cx σ' t)/\(∀(P:ww) vs env S w,(∀t∈xbr a.toArray o,Lk P vs env S w cx σ t)->xl a.toArray env o=b):=by
 unfold Gh at h;split at h
 ·next p=>exact⟨σ,I,h,O,O,l,λ_ _ _ _ _ _ h=>h,λP vs env S w _=>by unfold xl;rw[p]⟩
 ·next j c p=>
  split at h
  ·next B q=>
   split at h
   ·next t s=>
    have m:t∈xbr a.toArray o:=by
     unfold xbr;simp_all
    have hc:∀{env:xt}{v},env t=v->gd a.toArray env j=(match v with|.bool b=>Z b|_=>yD):=by
     rintro env v rfl;unfold gd;simp only[List.getElem?_toArray,q,Option.bind_some,s];rfl
    have n:∀env,xl a.toArray env o=(gd a.toArray env j==Z c):=λenv=>by unfold xl;rw[p]
    split at h
    ·next b f=>
     refine⟨σ,_,h,O,O,l,λ_ _ _ _ _ _ h=>h,λP vs env S w hl=> ?_⟩;have hv:env t=.bool b:=hl t m 0 _ f;rw[n,hc hv];cases b<;>cases c<;>rfl
    ·next f=>
     refine⟨σ,_,h,O,O,l,λ_ _ _ _ _ _ h=>h,λP vs env S w hl=> ?_⟩;have hv:env t=wR:=hl t m 0 _ f;rw[n,hc hv];rfl
    ·next x f=>
     have⟨hn,h⟩:=yv h;have hd:∀b,Bd cx (zdp σ t b):=λb=>zdF (d:=Z t) l λe u o z=>by obtain rfl:=xab.1 u;cases z
     rcases zf3 h with⟨i,h⟩|⟨i,h⟩
     ·refine⟨_,_,h,O,O,hd _,λP vs env S w A hl=>Nf hn f i hl,λP vs env S w hl=> ?_⟩;have hv:=(Fz f<|hl t m).trans<|wF xes i;rw[n,hc hv];cases c<;>rfl
     ·refine⟨_,_,h,O,O,hd _,λP vs env S w A hl=>Nf hn f i hl,λP vs env S w hl=> ?_⟩;have hv:=(Fz f<|hl t m).trans<|wF xes i;rw[n,hc hv];cases c<;>rfl
    ·cases h
   ·cases h
  ·cases h
theorem zro{o:wT}{k:Sg->V R}(h:zbK cx o σ k=Z r)(i:Bd cx σ):∃σ',k σ'=Z r/\σ'.ob=σ.ob/\σ'.nx=σ.nx/\Bd cx σ'/\(∀(P:ww) vs env S w t,Lk P vs env S w cx σ t->Lk P vs env S w cx σ' t):=by
 unfold zbK at h;split at h
 ·next t _ _ _=>
  split at h
  ·next x c=>
   have⟨hn,h⟩:=yv h;have f:∀b,Bd cx (zdp σ t b):=λb=>zdF i λe j o l=>by obtain rfl:=xab.1 j;cases l
   rcases zf3 h with⟨a,h⟩|⟨a,h⟩
   ·exact⟨_,h,O,O,f _,λP vs env S w m hl=>Nf hn c a hl⟩
   ·exact⟨_,h,O,O,f _,λP vs env S w m hl=>Nf hn c a hl⟩
  ·grind
 ·grind
def prL(P:ww)(vs:K->xn)(l:N (K×Dv)):Pr where
 p S v w:=∀e∈l,(qI P vs e.2 v e.1).p S w
 keepS h k:=λe a=>(qI P vs e.2 _ e.1).keep (h e a) k
 sub h k:=λe a=>(qI P vs e.2 _ e.1).sub (h e a) k
def ztl(P:ww)(vs:zV->xn)(Γ:N FF)(env0:xt)(cx σ:Sg)(K:N (vn×Pr)):Prop:=∀(env:xt) (S:zV->Prop) (w:xN),zK S Γ w->∀t,VB K env0 env S w t->Lk P vs env S w cx σ t
def Af{K:N (vn×Pr)}{S:zV->Prop}:∀{ts:N vn},U2 K env0 env S w ts->∀t∈ts,VB K env0 env S w t
 |[],_,_,h=>wl h QT
 |_::_,h,t,ht=>by
  obtain rfl|ht:=PQ.1 ht
  ·exact h.1
  ·exact Af h.2 t ht
def zpb{Γ:N FF}{K:N (vn×Pr)}{c:Pr}{l:N (zV×Dv)}{o:wT}(hd:vz cx o.dst=I)(h:ztl P vs Γ env0 cx σ K)(i:∀S v w,c.p S v w->∀e∈l,(qI P vs e.2 v e.1).p S w):ztl P vs Γ env0 cx (σ.put o.dst l) (Hz o.dst c K):=by
 intro env S w b t a
 cases f:o.dst with
 |none=>
  rw[f]at a;exact h env S w b t a
 |some s=>
  rw[f]at a hd;refine zoh hd (λe=> ?_)<|λj=> ?_
  ·subst e;unfold VB Hz at a;simp_all
  ·refine h env S w b t ?_;unfold VB Hz at a;rw[List.find?_cons,XO<|λe=>j e.symm]at a;exact a
end
end
def zd0{l:N wT}{D:K->ws}(hd:∀j,D j=I->∀e∈(yn l j).after,xct .any e=I->D e.on=I):∀(f j i:K),D j=I->jL l f j i=I->D i=I
 |0,j,i,c,h=>by
  obtain⟨e,b,a,rfl⟩:=ZN h;grind
 |f+1,j,i,c,h=>by
  unfold jL at h;rw[xee]at h;obtain h|h:=h
  ·obtain⟨e,b,a,rfl⟩:=ZN h;grind
  ·rw[xft]at h;have⟨e,b,a⟩:=h;rw[Th]at a;exact zd0 hd f e.on i (hd j c e (xdC.1 b) a.1) a.2
section
def Er(al:Rb->ws)(rs:N Rb):N (K×Od):=rs.filterMap λr=>if al r=I then Z (r.o,r.x)else yD
def Te(i:K)(rs:N Rb):N (K×Od):=rs.filterMap λr=>if r.c=Z i then Z (r.o,r.x)else yD
def P6(i:K)(rs:N Rb):N (K×Od):=rs.filterMap λr=>if r.a=Z i then Z (r.o,r.x)else yD
def Cj(i:K)(rs:N Rb):N (K×Od):=rs.filterMap λr=>if i∈r.rd then Z (r.o,r.x)else yD
def zgf{al b:Rb->ws}{i:K}:∀{rs:N Rb},(∀r∈rs,(r.c=Z i/\i∉r.rd/\r.a≠Z i/\al r=I/\b r=yL)\/(r.a=Z i/\r.c≠Z i/\i∉r.rd/\al r=yL/\b r=I)\/
 (i∈r.rd/\r.c≠Z i/\r.a≠Z i/\al r=I/\b r=I)\/(r.c≠Z i/\r.a≠Z i/\i∉r.rd/\al r=b r))->
 ∃rest,(∀e∈rest,∃r∈rs,e=(r.o,r.x)/\al r=I/\b r=I)/\(Er al rs).Perm (Te i rs++(Cj i rs++rest))/\(Er b rs).Perm (P6 i rs++(Cj i rs++rest))
 |[],_=>⟨[],λe he=>wl he QT,xdJ _,xdJ _⟩
 |r::rs,h=>by
  have⟨rest,h1,f,d⟩:=zgf (rs:=rs) λq m=>h q<|kE _ m;have k:∀e∈rest,∃q∈r::rs,e=(q.o,q.x)/\al q=I/\b q=I:=λe he=>by grind
  rcases h r (Qh)with⟨g,j,a3,a4,a5⟩|⟨g,j,a3,a4,a5⟩|⟨g,j,a3,a4,a5⟩|⟨g,j,a3,a4⟩
  ·refine⟨rest,k,?_,?_⟩
   ·simp only[Er,Te,Cj,xaL,g,j,a4,wN,wP,jF]at f⊢;simp_all
   ·simp only[Er,P6,Cj,xaL,a3,j,a5,wP,jF,xaj]at d⊢;exact d
  ·refine⟨rest,k,?_,?_⟩
   ·simp only[Er,Te,Cj,xaL,j,a3,a4,wP,jF,xaj]at f⊢;exact f
   ·simp only[Er,P6,Cj,xaL,g,a3,a5,wN,wP,jF]at d⊢;exact d.cons _
  ·refine⟨rest,k,?_,?_⟩
   ·simp only[Er,Te,Cj,xaL,g,j,a4,wN,wP,jF]at f⊢;exact(f.cons _).trans xcj.symm
   ·simp only[Er,P6,Cj,xaL,g,a3,a5,wN,wP,jF]at d⊢;exact(d.cons _).trans xcj.symm
  ·cases l:al r with
   |false=>
    rw[l]at a4;refine⟨rest,k,?_,?_⟩
    ·simp only[Er,Te,Cj,xaL,g,a3,l,wP,jF,xaj]at f⊢;exact f
    ·simp only[Er,P6,Cj,xaL,j,a3,<-a4,wP,jF,xaj]at d⊢;exact d
   |true=>
    rw[l]at a4;refine⟨(r.o,r.x)::rest,λe he=> ?_,?_,?_⟩
    ·obtain rfl|he:=PQ.1 he
     ·exact⟨r,Qh,O,l,a4.symm⟩
     ·exact k e he
    ·simp only[Er,Te,Cj,xaL,g,a3,l,wN,wP,jF]at f⊢;rw[<-xal]at f⊢;exact(f.cons _).trans xcj.symm
    ·simp only[Er,P6,Cj,xaL,j,a3,<-a4,wN,wP,jF]at d⊢;rw[<-xal]at d⊢;exact(d.cons _).trans xcj.symm
def KV(P:ww)(vs:K->xn)(KL:N (vn×N (K×Dv))):N (vn×Pr):=KL.map λe=>(e.1,prL P vs e.2)
def zb2(d:V vn)(l:N (K×Dv))(KL:N (vn×N (K×Dv))):N (vn×N (K×Dv)):=match d with
 |some t=>(t,l)::KL
 |none=>KL
def LH:N (wT×N (zV×Dv))->N (vn×N (zV×Dv))->N (vn×N (zV×Dv))
 |[],K=>K
 |(o,l)::r,K=>LH r<|zb2 o.dst l K
def OL(P:ww)(vs:K->xn)(L:N (wT×N (K×Dv))):N (wT×Pr):=L.map λe=>(e.1,prL P vs e.2)
section
variable{P:ww}{vs:zV->xn}
def zmX{d:V vn}{l:N (K×Dv)}{KL:N (vn×N (K×Dv))}:KV P vs (zb2 d l KL)=Hz d (prL P vs l) (KV P vs KL):=by cases d<;>rfl
def zpN:∀(L:N (wT×N (K×Dv))) (KL:N (vn×N (K×Dv))),KV P vs (LH L KL)=Kof (OL P vs L) (KV P vs KL)
 |[],KL=>rfl
 |(o,l)::r,KL=>by
  show KV P vs (LH r<|zb2 o.dst l KL)=Kof (OL P vs r) (Hz o.dst (prL P vs l)<|KV P vs KL);rw[zpN r,zmX]
end
def ObB(P:ww)(b:wL wT)(we:xN)(Se:K->Prop)(mE:N MF)(Γ:N FF)(env0:xt)(vs:K->xn)(n0:K)(rs:N Rb)(KL:N (vn×N (K×Dv)))(i:K)(o:wT)(L:N (K×Dv))(a:Oi):Prop:=
 n0<=a.lo/\a.lo<=a.hi/\(∀e∈L,∀p,qd e.2=Z p->p<a.hi/\p∈a.refs)/\(∀e∈P6 i rs,e.1<a.hi)/\
 ∀vs',(∀p,p<n0->vs' p=vs p)->∀(env:xt) (F:N MF) (G:N FF) (w:xN),St we Se (MS vs' (Te i rs++Cj i rs)++(mE++F)) (zoj (KV P vs' KL) env0 env (o.looksAt b)::(Γ++G)) w->
  (xl b env o=I->Yq P o env w (λv w'=>∃vs2,(∀p,p<a.lo->vs2 p=vs' p)/\St we Se (MS vs2 (P6 i rs)++(MS vs' (Cj i rs)++(mE++F))) (zrU P vs2 v L++(Γ++G)) w'))/\
  (xl b env o=yL->Te i rs=[]/\P6 i rs=[]/\∀S w,zK S (zrU P vs' wR L) w)
def zrF(P:ww)(a:wL wT)(we:xN)(Se:K->Prop)(mE:N MF)(Γ:N FF)(env0:xt)(vs:K->xn)(n0:K)(rs:N Rb):N ((wT×N (K×Dv))×Oi)->K->N (vn×N (K×Dv))->Prop
 |[],_,_=>vF
 |((o,L),b)::r,i,KL=>ObB P a we Se mE Γ env0 vs n0 rs KL i o L b/\zrF P a we Se mE Γ env0 vs n0 rs r (i+1) (zb2 o.dst L KL)
def RB{P:ww}{b:wL wT}{we:xN}{Se:K->Prop}{mE:N MF}{Γ:N FF}{env0:xt}{vs:K->xn}{n0:K}{rs:N Rb}:∀(r:N (wT×N (K×Dv))) (is:N Oi) (n:K) (KL:N (vn×N (K×Dv))) (i:K) (x:wT×N (K×Dv)) (d:Oi),
 zrF P b we Se mE Γ env0 vs n0 rs (r.zip is) n KL->r[i]? =Z x->is[i]? =Z d->ObB P b we Se mE Γ env0 vs n0 rs (LH (r.take i) KL) (n+i) x.1 x.2 d
 |[],_,_,_,_,_,_,h,a,_=>by simp at a
 |_::_,[],_,_,_,_,_,_,_,h=>by simp at h
 |(o,L)::r,c::is,n,KL,0,x,d,h,a,hc=>by simp at a hc;subst a;subst hc;exact h.1
 |(o,L)::r,c::is,n,KL,i+1,x,d,h,a,hc=>by
  have:=RB r is (n+1) (zb2 o.dst L KL) i x d h.2 (by simpa using a) (by simpa using hc);rw[(W:n+1+i=n+(i+1))]at this;simpa[LH]using this
structure zx6(l:N wT)(m:K)(rs:N Rb)(is:N Oi):Prop where
 a:∀r∈rs,∀j,r.a=Z j->j<m/\∀i∈r.rd,jL l 16 i j=I
 c:∀r∈rs,∀k,r.c=Z k->k<m/\(∀j,r.a=Z j->jL l 16 k j=I)/\∀i∈r.rd,jL l 16 k i=I
 n:∀i b,is[i]? =Z b->∀r∈rs,b.lo<=r.o->r.o<b.hi->∃j,r.a=Z j/\(j=i\/jL l 16 j i=I)
 f:∀i b j J,is[i]? =Z b->is[j]? =Z J->∀p∈J.refs,b.lo<=p->p<b.hi->j=i\/jL l 16 j i=I
 uniq:∀i j t,i<m->j<m->i≠j->(yn l i).dst=Z t->(yn l j).dst≠Z t
def zkI{l:N wT}{m:K}{rs:N Rb}{is:N Oi}(h:zqZ l m rs is=I):zx6 l m rs is:=by
 unfold zqZ at h;rw[Th,Th]at h;have⟨⟨f,hn⟩,n⟩:=h;have g:∀i a,is[i]? =Z a->zrl l i a rs is.zipIdx=I:=λi a hi=>xaS.1 hn (a,i)<|List.mem_zipIdx_iff_getElem?.2 hi;have c:∀(a:Oi) (p:K),a.lo<=p->p<a.hi->inB a p=I:=λa p h1 e=>by
  unfold inB;simp_all
 refine⟨λr d j b=> ?_,λr d k o=> ?_,λi a hi r d h1 e=> ?_,λi a j J hi b p hp h1 e=> ?_,λi j t hi b hc hd q=> ?_⟩
 ·have:=xaS.1 f r d;simp_all
 ·have:=xaS.1 f r d;rw[Th]at this;have:=this.2;rw[o]at this;simp only[Th,xaS]at this;refine⟨by have:=xbW this.1.1;lia,λj b=> ?_,this.2⟩;have:=this.1.2;rw[b]at this;exact this
 ·have:=g i a hi;unfold zrl at this;rw[Th]at this;have:=xaS.1 this.1 r d;rw[c a _ h1 e,xdG,xel]at this;split at this
  ·next j b=>
   rw[xee]at this;exact⟨j,b,this.imp yr id⟩
  ·cases this
 ·have:=g i a hi;unfold zrl at this;rw[Th]at this;have:=xaS.1 this.2 (J,j)<|List.mem_zipIdx_iff_getElem?.2 b;have:=xaS.1 this p hp;rw[c a _ h1 e,xdG,xel,xee]at this;exact this.imp yr id
 ·have:=xaS.1 (xaS.1 n i<|xaZ.2 hi) j<|xaZ.2 b;rw[XO hc,xel,hd]at this;simp[q]at this
end
section
section
variable{P:ww}{N:Nd}{we:xN}{Se:zV->Prop}{ms:zC MF}{Γ:zC FF}{Q:Qs}{env0:xt}{l:zC wT}{m:zV}
def zkq{Lp:zC (wT×Pr)}(hc:∀i,i<m->∃b,Lp[i]? =Z (yn l i,b))(h:∀(i:K) (x:wT×Pr),Lp[i]? =Z x->i<m/\x.1=yn l i){D:K->ws}{env:xt}{S:K->Prop}{w:xN}{i:K}{t:vn}
 (hd:∀t,(∀i,i<m->D i=I->(yn l i).dst≠Z t)->env t=env0 t) (k:(zfX Lp D env).p S w) (r:i<=m) (e:∀j,j<m->(yn l j).dst=Z t->(D j=I↔j<i)):VB (Kof (Lp.take i) []) env0 env S w t:=by
 unfold VB;rcases Dm t (Lp.take i) []with⟨j,y,g1,a,s,n⟩|⟨g1,a⟩
 ·rw[n];rw[xcx]at g1;split at g1
  ·next c=>
   have⟨o,q⟩:=h j y g1;exact k j y t ((e j o<|q▸a).2 c) g1 a
  ·cases g1
 ·rw[a];refine hd t λj f hi g=> ?_;have c:=(e j f g).1 hi;have⟨b,d⟩:=hc j f;exact g1 j (yn l j,b) (by rw[xcx,iq c];exact d) g
def znd(hc:Q4 l m=I){Lp:zC (wT×Pr)}(o:∀i,i<m->∃q,Lp[i]? =Z (yn l i,q))(hd:∀(i:K) (x:wT×Pr),Lp[i]? =Z x->i<m/\x.1=yn l i){D:K->ws}{env:xt}{S:K->Prop}{w:xN}{i:K}
 (hp:i<m) (hn:D i=yL) (r:∀e∈(yn l i).after,xct .any e=I->D e.on=I) (s:∀j,D j=I->∀e∈(yn l j).after,xct .any e=I->D e.on=I)
 (u:∀t,(∀i,i<m->D i=I->(yn l i).dst≠Z t)->env t=env0 t) (v:(zfX Lp D env).p S w):U2 (Kof (Lp.take i) []) env0 env S w (xbr l.toArray<|yn l i):=by
 have⟨h0,h1,y,B,C⟩:=X7 hc;have hv:i<X l:=W
 have hi:∀t,t∈xbr l.toArray (yn l i)->∀j,j<m->(yn l j).dst=Z t->j≠i->(D j=I↔j<i):=by
  intro t c j d f z;have n:=y i j t hp d z f (.inl c);constructor
  ·intro A;obtain h|h:=xbO j i
   ·exact h
   ·exfalso;have⟨e,g,k,hl⟩:=ZN (n.2 W);have a:=s j A e g k;rw[hl,hn]at a;cases a
  ·intro b;have⟨e,g,k,hl⟩:=ZN<|n.1 b;have a:=r e g k;rwa[hl]at a
 exact gj _ λt c=>zkq o hd u v W λj d f=>by
  by_cases b:j=i
  ·subst b;rw[hn];simp
  ·exact hi t c j d f b
def Fy(D:K->ws)(r:Rb):ws:=(match r.a with
 |none=>I
 |some j=>D j) && !(match r.c with
 |none=>yL
 |some k=>D k)
def ziz{D:K->ws}{i:K}(c:∀e∈(yn l i).after,xct .any e=I->D e.on=I)(hc:∀j,D j=I->∀e∈(yn l j).after,xct .any e=I->D e.on=I):∀(f j:K),jL l f i j=I->D j=I
 |0,j,h=>by
  obtain⟨e,b,a,rfl⟩:=ZN h;simp_all
 |f+1,j,h=>by
  unfold jL at h;rw[xee]at h;obtain h|h:=h
  ·obtain⟨e,b,a,rfl⟩:=ZN h;simp_all
  ·rw[xft]at h;have⟨e,b,a⟩:=h;rw[Th]at a;exact zd0 hc f e.on j (c e (xdC.1 b) a.1) a.2
theorem zbO{al a:Rb->ws}:∀{rs:zC Rb},(∀r∈rs,al r=a r)->Er al rs=Er a rs
 |[],_=>rfl
 |r::rs,h=>by
  have b:=zbO λq c=>h q<|kE _ c;unfold Er at b⊢;grind
def ztY{id:K}{mE:zC MF}(m:K)(Ls:zC (zC<|K×Dv))(is:zC Oi)(rs:zC Rb)(ts:zC vn)(vs:K->xn)(n0:K)(hm:P.follows .mixedOrders=I)(hc:Q4 l m=I)(hl:X Ls=m)(h9:X is=m)(u:zqZ l m rs is=I)
 (b1:MS vs (Er (λr=>r.a.isNone) rs)++mE=ms) (hd:(l.all λo=>kP N.n o.dst)=I) (hF:zrF P l.toArray we Se mE Γ env0 vs n0 rs (((l.take m).zip Ls).zip is) 0 [])
 (a0:∀(env:xt) (w:xN) (vs':K->xn),(∀p,p<n0->vs' p=vs p)->St we Se (MS vs' (Er (λr=>r.c.isNone) rs)++mE) (zoj (KV P vs'<|LH ((l.take m).zip Ls) []) env0 env ts::Γ) w->WpL P N l.toArray (l.drop m) Q env w):
 T P N we Se ms Γ (.region id l.toArray I) Q env0:=by
 have⟨h0,h1,h2,h3,c6⟩:=X7 hc;have hp:=zkI u;have⟨L,hL⟩:∃L,L=(l.take m).zip Ls:=⟨_,O⟩;rw[<-hL]at hF a0;have c7:X L=m:=by rw[hL];simp;lia
 have hG:∀i,i<m->∃x,L[i]? =Z (yn l i,x):=λi hi=>by
  have h9:i<X l:=xah hi h0;have h':i<X Ls:=hl.symm▸hi;refine⟨Ls[i]'(h'),?_⟩;rw[hL,List.getElem?_zip_eq_some];refine⟨?_,Xn⟩;rw[xcx,iq hi];simp[yn,h9]
 have hH:∀i x,L[i]? =Z x->i<m/\x.1=yn l i:=λi x u=>by
  have hi:i<m:=by have:=(xav.1 u).1;lia
  have⟨Φ,h⟩:=hG i hi;rw[h]at u;cases u;exact⟨hi,O⟩
 have M:∀vs' i,i<m->∃Φ,(OL P vs' L)[i]? =Z (yn l i,Φ):=λvs' i hi=>by
  have⟨x,h⟩:=hG i hi;exact⟨_,by rw[OL,xbZ,h];rfl⟩
 have A:∀vs' (i:K) (x:wT×Pr),(OL P vs' L)[i]? =Z x->i<m/\x.1=yn l i:=λvs' i x u=>by
  rw[OL,xbZ]at u
  cases H:L[i]? with
  |none=>rw[H]at u;cases u
  |some y=>rw[H]at u;cases u;exact hH i y H
 refine zwf m (λD env w=>(∀t,(∀i,i<m->D i=I->(yn l i).dst≠Z t)->env t=env0 t)/\∃vs',(∀p,p<n0->vs' p=vs p)/\St we Se (MS vs' (Er (Fy D) rs)++mE) (Γ++[zfX (OL P vs' L) D env]) w) hm hc hd ?_ ?_ ?_
 ·intro w hw;refine⟨λt _=>O,vs,λ_ _=>O,?_⟩;have:Fy (λ_=>yL)=λr=>r.a.isNone:=by
   funext r;unfold Fy;cases r.a<;>cases r.c<;>rfl
  rw[this,b1];exact hw.weak λS w h=>zK.append h ⟨λi x t hi=>(by cases hi),xS⟩
 ·rintro D i env w hR hE a5 hK hv ⟨hD,vs',hS,hT⟩;have c5:i<X l:=W
  have⟨x,a9⟩:=hG i hR;have⟨b,hI⟩:∃b,is[i]? =some b:=⟨_,xaa W⟩;have⟨o1,o2,o3,o4,hM⟩:=RB L is 0 [] i _ b hF a9 hI;rw[xaF]at hM o4;have hn:∀j,jL l 16 i j=I->D j=I:=λj s=>ziz hK hv 16 j s;have hU:∀k,D k=I->jL l 16 k i≠I:=λk hk q=>by
   have:=zd0 hv 16 k i hk q;rw[hE]at this;cases this
  have hW:∀r∈rs,(r.c=Z i/\i∉r.rd/\r.a≠Z i/\Fy D r=I/\Fy (ins D i) r=yL)\/(r.a=Z i/\r.c≠Z i/\i∉r.rd/\Fy D r=yL/\Fy (ins D i) r=I)\/
   (i∈r.rd/\r.c≠Z i/\r.a≠Z i/\Fy D r=I/\Fy (ins D i) r=I)\/(r.c≠Z i/\r.a≠Z i/\i∉r.rd/\Fy D r=Fy (ins D i) r):=by
   intro r q;have hA:jL l 16 i i≠I:=λh=>by have:=hn i h;rw[hE]at this;cases this
   have hq:∀j,j≠i->ins D i j=D j:=λj s=>zhH s;by_cases F:r.c=Z i
   ·have⟨c1,c2,c3⟩:=hp.c r q i F;have R:i∉r.rd:=λh=>hA<|c3 i h;have B:r.a≠Z i:=λh=>hA<|c2 i h;refine .inl ⟨F,R,B,?_,?_⟩
    ·unfold Fy;rw[F];simp only[hE,xfk,Bool.and_true]
     cases U:r.a with
     |none=>rfl
     |some j=>exact hn j<|c2 j U
    ·unfold Fy;rw[F];simp only[DH,xdG,Bool.and_false]
   ·by_cases B:r.a=Z i
    ·have⟨a1,a2⟩:=hp.a r q i B;have R:i∉r.rd:=λh=>hA<|a2 i h;refine .inr (.inl ⟨B,F,R,?_,?_⟩)
     ·unfold Fy;rw[B];simp only[hE,Bool.false_and]
     ·unfold Fy;rw[B];simp only[DH,Bool.true_and]
      cases G:r.c with
      |none=>rfl
      |some k=>
       simp only;rw[hq k<|λe=>F<|by rw[G,e]]
       cases hY:D k with
       |false=>rfl
       |true=>exact wl ((hp.c r q k G).2.1 i B)<|hU k hY
    ·have hZ:∀k,r.c=Z k->i∈r.rd->D k=yL:=λk hk hi=>by
      cases hY:D k with
      |false=>rfl
      |true=>exact wl ((hp.c r q k hk).2.2 i hi)<|hU k hY
     have hN:Fy (ins D i) r=Fy D r:=by
      unfold Fy
      cases U:r.a with
      |none=>
       cases G:r.c with
       |none=>rfl
       |some k=>simp only;rw[hq k<|λe=>F<|by rw[G,e]]
      |some j=>
       cases G:r.c with
       |none=>simp only;rw[hq j<|λe=>B<|by rw[U,e]]
       |some k=>simp only;rw[hq j (λe=>B<|by rw[U,e]),hq k<|λe=>F<|by rw[G,e]]
     by_cases R:i∈r.rd
     ·have:Fy D r=I:=by
       unfold Fy;have e1:(match r.c with|none=>yL|some k=>D k)=yL:=by
        cases G:r.c with
        |none=>rfl
        |some k=>exact hZ k G R
       rw[e1];simp only[xfk,Bool.and_true]
       cases U:r.a with
       |none=>rfl
       |some j=>exact hn j<|(hp.a r q j U).2 i R
      exact .inr (.inr (.inl ⟨R,F,B,this,hN.trans this⟩))
     ·exact .inr (.inr (.inr ⟨F,B,R,hN.symm⟩))
  have⟨rest,h4,p1,p2⟩:=zgf hW;have hV:∀S:K->Prop,∀w:xN,(zfX (OL P vs' L) D env).p S w->U2 (KV P vs'<|LH (L.take i) []) env0 env S w (xbr l.toArray<|yn l i):=λS w h5=>by
   rw[zpN];have:=znd hc (M vs') (A vs') hR hE hK hv hD h5;rw[show OL P vs' (L.take i)=(OL P vs' L).take i by unfold OL;rw[List.map_take]];exact this
  have hO:St we Se (MS vs' (Te i rs++Cj i rs)++(mE++MS vs' rest)) (zoj (KV P vs'<|LH (L.take i) []) env0 env (xbr l.toArray<|yn l i)::(Γ++[zfX (OL P vs' L) D env])) w:=by
   refine St.weak (hT.perm ?_) λS w h=>⟨hV S w (zK.right (Γ:=Γ) h).1,h⟩;have e1:(MS vs'<|Er (Fy D) rs).Perm (MS vs' (Te i rs++Cj i rs)++MS vs' rest):=by
    unfold MS;rw[<-xaU,xal];exact p1.map _
   refine(xeZ mE e1).trans ?_;rw[xal];exact xbC _ List.perm_append_comm
  have hM:=hM vs' hS env (MS vs' rest) [zfX (OL P vs' L) D env] w hO;have hX:∀(v:xn) (t:vn),(∀i',i'<m->ins D i i'=I->(yn l i').dst≠Z t)->put env (yn l i).dst v t=env0 t:=λv t ht=>by
   rw[Ca<|ht i hR<|DH D i];exact hD t λj s b2=>ht j s<|zrh b2
  have C:∀(v:xn) (w':xN) (vs2:K->xn),(∀p,p<b.lo->vs2 p=vs' p)->St we Se (MS vs2 (P6 i rs)++(MS vs' (Cj i rs)++(mE++MS vs' rest))) (zrU P vs2 v x++(Γ++[zfX (OL P vs' L) D env])) w'->
   ∃g,(∀p,p<n0->g p=vs p)/\St we Se (MS g (Er (Fy<|ins D i) rs)++mE) (Γ++[zfX (OL P g L) (ins D i)<|put env (yn l i).dst v]) w':=by
   intro v w' vs2 h6 hs;have e3:∃g:K->xn,g=λp=>if b.lo<=p/\p<b.hi then vs2 p else vs' p:=⟨_,O⟩;have⟨g,e3⟩:=e3;have hP:∀p,p<b.hi->g p=vs2 p:=λp hp=>by
    rw[e3];simp only;split
    ·rfl
    ·next hc=>exact(h6 p W).symm
   have hB:∀p,¬(b.lo<=p/\p<b.hi)->g p=vs' p:=λp hp=>by
    rw[e3];exact ir hp
   refine⟨g,λp hp=>(hB p W).trans<|hS p hp,?_⟩;have V:∀r∈rs,Fy D r=I->g r.o=vs' r.o:=λr q V=>hB r.o λ⟨g1,g2⟩=>by
    have⟨j,s,hji⟩:=hp.n i b hI r q g1 g2;unfold Fy at V;rw[s,Th]at V;obtain rfl|hji:=hji
    ·have:=V.1;simp only at this;rw[hE]at this;cases this
    ·exact hU j V.1 hji
   have m1:MS g (P6 i rs)=MS vs2 (P6 i rs):=vc λe E=>hP e.1<|o4 e E;have m2:MS g (Cj i rs)=MS vs' (Cj i rs):=vc λe E=>by
    have⟨r,q,h7⟩:=xeS.1 E;split at h7
    ·next hi=>
     cases h7;rcases hW r q with⟨a1,a2,_⟩|⟨a1,a2,a3,_⟩|⟨a1,a2,a3,a4,_⟩|⟨a1,a2,a3,_⟩
     ·exact wl hi a2
     ·exact wl hi a3
     ·exact V r q a4
     ·exact wl hi a3
    ·cases h7
   have m3:MS g rest=MS vs' rest:=vc λe E=>by
    obtain⟨r,q,rfl,h1,_⟩:=h4 e E;exact V r q h1
   have b3:(MS g (Er (Fy<|ins D i) rs)++mE).Perm (MS vs2 (P6 i rs)++(MS vs' (Cj i rs)++(mE++MS vs' rest))):=by
    rw[<-m1,<-m2,<-m3];have e1:(MS g<|Er (Fy<|ins D i) rs).Perm (MS g (P6 i rs)++(MS g (Cj i rs)++MS g rest)):=by
     unfold MS;rw[<-xaU,<-xaU];exact p2.map _
    refine(xeZ mE e1).trans ?_;rw[xal,xal];exact xbC _<|xbC _ List.perm_append_comm
   refine St.weak (hs.perm b3.symm) λS w2 h=> ?_;have b0:=zK.right h;refine zK.append (zK.left b0) ⟨?_,xS⟩;have h5:=(zK.right b0).1;intro j y t s H ht;rw[OL,xbZ]at H
   cases Y:L[j]? with
   |none=>rw[Y]at H;cases H
   |some z=>
    rw[Y]at H;cases H;have⟨b4,b5⟩:=hH j z Y;by_cases hji:j=i
    ·subst hji;rw[a9]at Y;cases Y;have b6:(yn l j).dst=Z t:=ht;show(prL P g x).p S (put env (yn l j).dst v t) w2;rw[b6,Px];intro e E;have:=YS.1 (zK.left h) _<|xan.2 ⟨e,E,O⟩;have h8:qI P g e.2 v e.1=qI P vs2 e.2 v e.1:=by
      unfold qI;simp only[Ag (P:=P) (vs':=g) (vs:=vs2) (d:=e.2) λo ho=>hP o (o3 e E o ho).1]
     rw[h8];exact this
    ·rw[zhH hji]at s;have c0:(yn l i).dst≠Z t:=hp.uniq j i t b4 hR hji<|b5▸ht;show(prL P g z.2).p S (put env (yn l i).dst v t) w2;rw[Ca c0];intro e E;have:=h5 j (z.1,prL P vs' z.2) t s (by rw[OL,xbZ,Y];rfl) ht;have:=this e E;have⟨J,hJ⟩:∃J,is[j]? =some J:=⟨_,xaa W⟩;have⟨_,_,q3,_,_⟩:=RB L is 0 [] j _ J hF Y hJ;have h8:qI P g e.2 (env t) e.1=qI P vs' e.2 (env t) e.1:=by
      unfold qI;simp only[Ag (P:=P) (vs':=g) (vs:=vs') (d:=e.2) λo ho=>hB o λ⟨g1,g2⟩=>by
       rcases hp.f i b j J hI hJ o (q3 e E o ho).2 g1 g2 with h|h
       ·exact hji h
       ·exact hU j s h]
     rw[h8];exact this
  refine⟨λhw=>(hM.1 hw).mono λv w' ⟨vs2,h6,hs⟩=>⟨hX v,C v w' vs2 h6 hs⟩,λhw=>⟨hX wR,?_⟩⟩;have⟨g1,g2,g3⟩:=hM.2 hw;refine C wR w vs' (λ_ _=>O) ?_;rw[g1,xbF]at hO;rw[g2];refine St.weak (show St we Se (MS vs' []++(MS vs' (Cj i rs)++(mE++MS vs' rest))) _ w from hO) λS w h=>zK.append (g3 S w) h.2
 ·rintro D env w hQ a5 ⟨hD,vs',hS,hT⟩;refine a0 env w vs' hS ?_;have c4:Er (Fy D) rs=Er (λr=>r.c.isNone) rs:=by
   refine zbO λr q=> ?_;have:Fy D r=r.c.isNone:=by
    unfold Fy;have e1:(match r.a with|none=>I|some j=>D j)=I:=by
     cases U:r.a with
     |none=>rfl
     |some j=>exact hQ j (hp.a r q j U).1
    rw[e1]
    cases G:r.c with
    |none=>rfl
    |some k=>simp only[hQ k (hp.c r q k G).1];rfl
   exact this
  rw[c4]at hT;refine hT.weak λS w h=>⟨?_,zK.left h⟩;refine gj ts λt _=> ?_;have:=zkq (i:=m) (t:=t) (M vs') (A vs') hD (zK.right (Γ:=Γ) h).1 (eZ m) λj s _=>⟨λ_=>s,λ_=>hQ j s⟩;rw[zpN];rwa[xaQ<|by unfold OL;rw[xaV];lia]at this
end
end
section
section
variable{P:ww}{cf:Cf}{fr:Fr}{cx σ σ0:Sg}{vs vs':zV->xn}{env env0:xt}{w:xN}{R:Type}{r:R}
def OH:∀{rg:N (K×K×Dv)}{e:K×K×Dv},e∈dd rg->e∈rg
 |a::r,e,h=>by
  obtain rfl|h:=PQ.1 h
  ·simp_all
  ·exact kE _<|OH (xcf.1 h).1
def zit:∀{rg:N (K×K×Dv)}{e:K×K×Dv},e∈dd rg->Br rg e.1 e.2.1=Z e.2.2
 |(t,i,d)::r,e,h=>by
  obtain rfl|h:=PQ.1 h
  ·unfold Br;simp
  ·have⟨h1,a⟩:=xcf.1 h;unfold Br;simp only[xcM]at a;rw[a];exact zit h1
def zgC:∀(l:N wT) (al:N (K×wr)) {σ:Sg},Wq P fr cx σ env w->Wq P fr cx (zuL cf cx l al σ) env w
 |[],_,_,h=>h
 |o::r,al,σ,h=>zgC r _<|R3 _ h
theorem zrv{N:K}{l:zC wT}(h:(l.all λo=>kP N o.dst)=I)(m:K):((l.drop m).all λo=>kP N o.dst)=I:=by grind
def Cw:∀(l:N K) {σ:Sg},Ao P fr cx σ vs env w->Ao P fr cx (zbs σ l) vs env w
 |[],_,h=>h
 |o::r,_,h=>Cw r<|zbm h
theorem zf4:∀(l:N K) (σ:Sg),(zbs σ l).nx=σ.nx
 |[],_=>rfl
 |o::r,σ=>by
  show(zbs (zei σ o) r).nx=_;rw[zf4 r];unfold zei;grind
structure RX1(i:K)(r r':Rb):Prop where
 a:r'.a=r.a
 o:r'.o=r.o
 x:r'.x=r.x
 c1:∀k,r.c=Z k->r'.c=Z k
 c2:r.c=yD->∀k,r'.c=Z k->i<=k
 d1:∀j∈r.rd,j∈r'.rd
 d2:∀j∈r'.rd,j∈r.rd\/i<=j
def RX(i:K):N Rb->N Rb->Prop
 |[],b=>∀r∈b,(∃j,r.a=Z j/\i<=j)/\(∀k,r.c=Z k->i<=k)/\∀j∈r.rd,i<=j
 |_::_,[]=>jN
 |r::rs,d::b=>RX1 i r d/\RX i rs b
def Mi(i:K)(rs:N Rb):Prop:=∀r∈rs,(∀j,r.a=Z j->j<i)/\(∀k,r.c=Z k->k<i)/\∀j∈r.rd,j<i
def RX.refl(i:K):∀rs:N Rb,RX i rs rs
 |[]=>λr b=>wl b QT
 |r::rs=>⟨⟨O,O,O,λ_ h=>h,λh k a=>(by rw[h]at a;cases a),λ_ h=>h,λ_ h=> .inl h⟩,RX.refl i rs⟩
theorem zhN{i:K}{a:N Rb}(h:RX (i+1) [] a):RX i [] a/\Te i a=[]/\P6 i a=[]/\Cj i a=[]:=by
 refine⟨λr b=> ?_,?_,?_,?_⟩
 ·have⟨⟨j,h1,c⟩,d,f⟩:=h r b;grind
 ·refine xea.2 λr b=>ir λe=> ?_;have:=(h r b).2.1 i e;lia
 ·refine xea.2 λr b=>ir λe=> ?_;have⟨j,h1,c⟩:=(h r b).1;grind
 ·refine xea.2 λr b=>ir λe=> ?_;have:=(h r b).2.2 i e;lia
theorem RX1.step{i:K}{r r1 e:Rb}(h:RX1 (i+1) r1 e)(f:r1.a=r.a)(g:r1.o=r.o)(l:r1.x=r.x)(hc:∀k,r.c=Z k->r1.c=Z k)(m:r.c=yD->∀k,r1.c=Z k->k=i)(hd:∀j∈r.rd,j∈r1.rd)(n:∀j∈r1.rd,j∈r.rd\/j=i):RX1 i r e:={
 a:=h.a.trans f
 o:=h.o.trans g
 x:=h.x.trans l
 c1:=λk b=>h.c1 k<|hc k b
 c2:=λhn k b=>by
  cases h1:r1.c with
  |none=>have:=h.c2 h1 k b;lia
  |some q=>
   have:=h.c1 q h1;simp_all
 d1:=λj d=>h.d1 j<|hd j d
 d2:=λj d=>by
  obtain h1|h1:=h.d2 j d
  ·grind
  ·exact .inr<|by lia}
theorem zjg{i:K}:∀{rs b:N Rb},Mi i rs->RX (i+1) rs b->RX i rs b/\Te i b=[]/\P6 i b=[]/\Cj i b=[]
 |[],b,_,h=>zhN h
 |r::rs,[],_,h=>h.elim
 |r::rs,d::b,f,⟨h1,n⟩=>by
  have⟨g1,g,j,l⟩:=zjg (λq o=>f q<|kE _ o) n;have⟨q1,q2,t⟩:=f r<|Qh;have e1:d.c≠Z i:=λe=>by
   cases hc:r.c with
   |none=>have:=h1.c2 hc i e;lia
   |some k=>have:=h1.c1 k hc;rw[e]at this;cases this;have:=q2 i hc;lia
  have p:d.a≠Z i:=λe=>by rw[h1.a]at e;have:=q1 i e;lia
  have s:i∉d.rd:=λe=>by
   obtain h|h:=h1.d2 i e
   ·grind
   ·lia
  refine⟨⟨h1.step O O O (λ_ h=>h) (λhn k m=>(by rw[hn]at m;cases m)) (λ_ h=>h)<|λ_ h=> .inl h,g1⟩,?_,?_,?_⟩
  ·unfold Te at g⊢;rw[xaL,ir e1];exact g
  ·unfold P6 at j⊢;rw[xaL,ir p];exact j
  ·unfold Cj at l⊢;rw[xaL,ir s];exact l
def znG{i:K}{os:N K}:∀{rs b:N Rb},Mi i rs->RX (i+1) (zpJ i os rs) b->RX i rs b/\Te i b=[]/\P6 i b=[]/\∀e∈Aq os rs,e∈Cj i b
 |[],b,_,h=>by
  have⟨g1,d,f,_⟩:=zhN h;exact⟨g1,d,f,λe he=>wl he QT⟩
 |r::rs,[],_,h=>h.elim
 |r::rs,g::b,t,⟨h1,z⟩=>by
  have⟨g1,d,f,l⟩:=znG (rs:=rs) (λq A=>t q<|kE _ A) z;have⟨q1,q2,E⟩:=t r<|Qh;have⟨r1,p⟩:∃r1,r1=(match r.c,Bt os r.o with|none,true=>(⟨r.a,yD,i::r.rd,r.o,r.x⟩:Rb)|_,_=>r):=⟨_,O⟩;have h1:RX1 (i+1) r1 g:=by rw[p];exact h1
  have k1:r1.a=r.a/\r1.o=r.o/\r1.x=r.x/\r1.c=r.c/\(∀j∈r.rd,j∈r1.rd)/\(∀j∈r1.rd,j∈r.rd\/j=i):=by
   rw[p];split
   ·simp_all
   ·simp_all
  have⟨u,v,y,m,B,s⟩:=k1;have e1:g.c≠Z i:=λe=>by
   cases hc:r.c with
   |none=>have:=h1.c2 (m.trans hc) i e;lia
   |some k=>have:=h1.c1 k<|m.trans hc;rw[e]at this;cases this;have:=q2 i hc;lia
  have C:g.a≠Z i:=λe=>by rw[h1.a,u]at e;have:=q1 i e;lia
  refine⟨⟨h1.step u v y (λk n=>m.trans n) (λhn k n=>by rw[m,hn]at n;cases n) B s,g1⟩,?_,?_,?_⟩
  ·unfold Te at d⊢;rw[xaL,ir e1];exact d
  ·unfold P6 at f⊢;rw[xaL,ir C];exact f
  ·intro e he;unfold Aq at he;unfold Cj at l⊢;rw[xaL];split at he
   ·next hc D=>
    have hi:i∈g.rd:=h1.d1 i (by rw[p,hc,D];exact Qh);rw[S hi];obtain rfl|he:=PQ.1 he
    ·rw[h1.o,h1.x,v,y];exact Qh
    ·exact kE _<|l e he
   ·split
    ·exact l e he
    ·exact kE _<|l e he
def znS{i:K}:∀{ob:N (K×Od)}{b:N Rb},RX (i+1) (zqA i ob) b->RX i [] b/\Te i b=[]/\P6 i b=ob/\Cj i b=[]
 |[],b,h=>zhN h
 |e::ob,[],h=>h.elim
 |e::ob,d::b,⟨h1,n⟩=>by
  have⟨g1,f,g,l⟩:=znS n;have e1:d.c≠Z i:=λe=>by have:=h1.c2 O i e;lia
  have m:=h1.a;have p:i∉d.rd:=λe=>by
   obtain h|h:=h1.d2 i e
   ·cases h
   ·lia
  refine⟨λr hr=> ?_,?_,?_,?_⟩
  ·obtain rfl|hr:=PQ.1 hr
   ·exact⟨⟨i,m,eZ _⟩,λk q=>by have:=h1.c2 O k q;lia,λj s=>by
     obtain h|h:=h1.d2 j s
     ·cases h
     ·lia⟩
   ·exact g1 r hr
  ·unfold Te at f⊢;rw[xaL,ir e1];exact f
  ·unfold P6 at g⊢;rw[xaL,S m,g,h1.o,h1.x]
  ·unfold Cj at l⊢;rw[xaL,ir p];exact l
def znu{i:K}{os:N K}{ob:N (K×Od)}:∀{rs b:N Rb},Mi i rs->RX (i+1) (zpB i os rs++zqA i ob) b->RX i rs b/\Te i b=Aq os rs/\P6 i b=ob/\Cj i b=[]
 |[],b,_,h=>znS h
 |r::rs,[],_,h=>h.elim
 |r::rs,d::b,n,⟨h1,A⟩=>by
  have⟨g1,B,p,s⟩:=znu (rs:=rs) (λq C=>n q<|kE _ C) A;have⟨q1,q2,D⟩:=n r<|Qh;have⟨r1,f⟩:∃r1,r1=(match r.c,Bt os r.o with|none,true=>(⟨r.a,Z i,r.rd,r.o,r.x⟩:Rb)|_,_=>r):=⟨_,O⟩;have h1:RX1 (i+1) r1 d:=by rw[f];exact h1
  have k1:r1.a=r.a/\r1.o=r.o/\r1.x=r.x/\r1.rd=r.rd/\(∀k,r.c=Z k->r1.c=Z k)/\(r.c=yD->∀k,r1.c=Z k->k=i):=by
   rw[f];split
   ·simp_all
   ·exact⟨O,O,O,O,λ_ h=>h,λhn k t=>(by rw[hn]at t;cases t)⟩
  have⟨u,v,y,l,E,m⟩:=k1;have F:d.a≠Z i:=λe=>by rw[h1.a,u]at e;have:=q1 i e;lia
  have G:i∉d.rd:=λe=>by
   obtain h|h:=h1.d2 i e
   ·rw[l]at h;have:=D i h;lia
   ·lia
  refine⟨⟨h1.step u v y E m (λj g=>by rw[l];exact g) (λj g=>by rw[l]at g;exact .inl g),g1⟩,?_,?_,?_⟩
  ·have no:r1=r->d.c≠Z i:=λH e=>by
    rw[H]at h1
    cases hc:r.c with
    |none=>have:=h1.c2 hc i e;lia
    |some k=>have:=h1.c1 k hc;rw[e]at this;cases this;have:=q2 i hc;lia
   have hv:Aq os (r::rs)=(match r.c,Bt os r.o with|none,I=>(r.o,r.x)::Aq os rs|_,_=>Aq os rs):=O;have hd:Te i (d::b)=if d.c=Z i then(d.o,d.x)::Te i b else Te i b:=by
    unfold Te;rw[xaL];split<;>next h=>split at h<;>simp_all
   rw[hd,hv,B]
   cases hc:r.c with
   |some k=>
    rw[ir<|no<|by rw[f,hc]]
   |none=>
    cases z:Bt os r.o with
    |false=>rw[ir<|no<|by rw[f,hc,z]]
    |true=>
     have:d.c=Z i:=h1.c1 i (by rw[f,hc,z]);rw[S this,h1.o,h1.x,v,y]
  ·unfold P6 at p⊢;rw[xaL,ir F];exact p
  ·unfold Cj at s⊢;rw[xaL,ir G];exact s
def znE{i:K}:∀{ob:N (K×Od)}{b:N Rb},RX i (zw1 ob) b->Er (λr=>r.a.isNone) b=ob
 |[],b,h=>xea.2 λr d=>by
  have⟨⟨j,h1,_⟩,_⟩:=h r d;simp[h1]
 |e::ob,[],h=>h.elim
 |e::ob,f::b,⟨h1,g⟩=>by
  have c:=znE g;unfold Er at c⊢;have:f.a=yD:=h1.a;simp only[xaL,this,Option.isNone_none,wN];rw[c,h1.o,h1.x]
theorem zsm{i:K}{os:N K}{rs:N Rb}(h:Mi i rs):Mi (i+1) (zpJ i os rs):=by
 induction rs with
 |nil=>exact λr a=>wl a QT
 |cons r rs b=>
  intro q hq;obtain rfl|hq:=PQ.1 hq
  ·have⟨q1,q2,c⟩:=h r<|Qh;split
   ·grind
   ·grind
  ·exact b (λq hq=>h q<|kE _ hq) q hq
theorem zqF{i:K}{os:N K}{rs:N Rb}(h:Mi i rs):Mi (i+1) (zpB i os rs):=by
 induction rs with
 |nil=>exact λr a=>wl a QT
 |cons r rs b=>
  intro q hq;obtain rfl|hq:=PQ.1 hq
  ·have⟨q1,q2,c⟩:=h r<|Qh;split
   ·grind
   ·grind
  ·exact b (λq hq=>h q<|kE _ hq) q hq
def zqq{i:K}{ob:N (K×Od)}{rs:N Rb}(h:Mi (i+1) rs):Mi (i+1) (rs++zqA i ob):=λq hq=>by
 obtain hq|hq:=pN.1 hq
 ·exact h q hq
 ·obtain⟨e,_,rfl⟩:=xan.1 hq;simp_all
theorem zuC{i:K}{rs:N Rb}(h:Mi i rs):Mi (i+1) rs:=λr a=>by
 have⟨q1,q2,b⟩:=h r a;grind
theorem zxk{i n:K}{os:N K}{rs:N Rb}(h:∀r∈rs,r.o<n):∀r∈zpJ i os rs,r.o<n:=by
 induction rs with
 |nil=>exact λr a=>wl a QT
 |cons r rs b=>
  intro q hq;obtain rfl|hq:=PQ.1 hq
  ·grind
  ·simp_all
theorem zxA{i n:K}{os:N K}{rs:N Rb}(h:∀r∈rs,r.o<n):∀r∈zpB i os rs,r.o<n:=by
 induction rs with
 |nil=>exact λr a=>wl a QT
 |cons r rs b=>
  intro q hq;obtain rfl|hq:=PQ.1 hq
  ·grind
  ·simp_all
theorem zlZ{n:K}{os:N K}:∀{rs:N Rb},(∀r∈rs,r.o<n)->∀e∈Aq os rs,e.1<n
 |[],_,e,a=>wl a QT
 |r::rs,h,e,a=>by
  have c:=zlZ (os:=os) λq b=>h q<|kE _ b;unfold Aq at a;split at a
  ·grind
  ·grind
def zjf:∀(rs:N Rb),zgF rs=Er (λr=>r.c.isNone) rs
 |[]=>rfl
 |r::rs=>by
  have a:=zjf rs;unfold Er at a⊢;unfold zgF
  cases hc:r.c with
  |none=>simp only[xaL,hc,Option.isNone_none,wN];rw[a]
  |some k=>simp only[xaL,hc];exact a
def lH{ts:N vn}:∀{rg:N (K×K×Dv)}{e:K×K×Dv},e∈iQ ts rg->e∈rg/\Bt ts e.1=I
 |(t,i,v)::r,e,h=>by
  unfold iQ at h;split at h
  ·next b=>
   obtain rfl|h:=PQ.1 h
   ·simp_all
   ·have⟨h1,a⟩:=lH h;exact⟨kE _ h1,a⟩
  ·have⟨h1,a⟩:=lH h;exact⟨kE _ h1,a⟩
def CD{ts:N vn}{t i:K}(a:Bt ts t=I):∀{rg:N (K×K×Dv)},Br (iQ ts rg) t i=Br rg t i
 |[]=>rfl
 |(c,d,v)::r=>by
  unfold iQ;split
  ·unfold Br;rw[CD a]
  ·next b=>
   rw[CD a];conv=>rhs;unfold Br
   rw[XO<|λe=>by rw[e,a]at b;cases b];rfl
def zjG{t i:K}:∀{a b:N (K×K×Dv)},Br (a++b) t i=match Br a t i with|some d=>Z d|none=>Br b t i
 |[],b=>rfl
 |(c,e,v)::a,b=>by
  show(bif xad c t && xad e i then Z v else Br (a++b) t i)=(match(bif xad c t && xad e i then Z v else Br a t i)with|some d=>Z d|none=>Br b t i);cases f:xad c t && xad e i
  ·simp only[vH];exact zjG
  ·rfl
theorem zqV{l:N K}{t:K}(h:Bt l t=I):t∈l:=by grind [Bt,yr]
def GJ:∀{l:N (K×Dv)}{e:K×Dv}{p:K},e∈l->qd e.2=Z p->p∈Ed l
 |(i,v)::r,e,p,h,hp=>by
  unfold Ed;obtain rfl|h:=PQ.1 h
  ·simp_all
  ·have:=GJ h hp;split
   ·simp_all
   ·lia
theorem zmU{d:V vn}{rg:N (K×K×Dv)}{e:K×Dv}(h:e∈LK d rg):∃t,d=Z t/\(t,e.1,e.2)∈rg:=by
 unfold LK at h;split at h
 ·next t=>
  have⟨q,c,a⟩:=xeS.1 h;split at a
  ·next b=>
   rw[<-yr b];grind
  ·cases a
 ·cases h
def zhe(P:ww)(vs:K->xn)(n0:K)(Γ:N FF)(env0:xt)(cx σ:Sg)(KL:N (vn×N (K×Dv))):Prop:=∀vs',(∀p,p<n0->vs' p=vs p)->ztl P vs' Γ env0 cx σ (KV P vs' KL)
def zkn(cx:Sg)(KL:N (vn×N (K×Dv))):Prop:=∀e∈KL,KS cx.rg e.1=I
def HR{KL:N (vn×N (K×Dv))}{l:N (K×Dv)}{d:V vn}(hd:vz cx d=I)(h:zkn cx KL):zkn cx (zb2 d l KL):=by
 cases d with
 |none=>exact h
 |some s=>
  intro e he;obtain rfl|he:=PQ.1 he
  ·exact hd
  ·exact h e he
def N0{n0:K}{Γ:N FF}{KL:N (vn×N (K×Dv))}{l:N (K×Dv)}{o:wT}(hd:vz cx o.dst=I)(h:zhe P vs n0 Γ env0 cx σ KL):zhe P vs n0 Γ env0 cx (σ.put o.dst l) (zb2 o.dst l KL):=λvs' hv=>by
 rw[zmX];exact zpb hd (h vs' hv) λS v w hv=>hv
def zda(hT:xm P cf.tt)(hL:ZX P cf.tt)(hC:∀s∈cf.cs,xI P s)(hX:XOK P cf){u:N wT}{fz:N K}{k:Sg->N Rb->N Oi->V R}{Γ:N FF}{n0:K}(hu:∀e∈cx.ob,e.1<n0):∀{os:N wT}{i:K}{σ:Sg}{rs:N Rb}{is:N Oi}{KL:N (vn×N (K×Dv))},
 zlf cf cx u fz os i σ rs is k=Z r->zhe P vs n0 Γ env0 cx σ KL->zkn cx KL->σ.ob=[]->Bd cx σ->(∀r∈rs,r.o<σ.nx)->Mi i rs->n0<=σ.nx->
 ∃(Ls:N (N<|K×Dv)) (y:N Oi) (σ':Sg) (x:N Rb),X Ls=X os/\X y=X os/\k σ' x (is++y)=Z r/\RX i rs x/\
  zrF P u.toArray fr.we fr.Se (MS vs cx.ob++fr.F) Γ env0 vs n0 x ((os.zip Ls).zip y) i KL/\zhe P vs n0 Γ env0 cx σ' (LH (os.zip Ls) KL)/\zkn cx (LH (os.zip Ls) KL)/\σ'.ob=[]/\Bd cx σ'/\(∀r∈x,r.o<σ'.nx)/\n0<=σ'.nx
 |[],i,σ,rs,is,KL,h,hi,hn,ho,hB,Y,J,h0=>⟨[],[],σ,rs,O,O,by rw[xbN];exact h,RX.refl _ _,xS,hi,hn,ho,hB,Y,h0⟩
 |o::os,i,σ,rs,is,KL,h,hi,hn,ho,hB,Y,J,h0=>by
  unfold zlf at h;have⟨hd,h⟩:=yv h;have⟨A,b,h,hN,hD,hP,hH,hQ⟩:=zl5 h hB;have hc:∀{vs' env S w},(∀p,p<n0->vs' p=vs p)->zK S Γ w->U2 (KV P vs' KL) env0 env S w (xbr u.toArray o)->∀t∈xbr u.toArray o,Lk P vs' env S w cx σ t:=λ{vs' env S w} hv a B t z=>hi vs' hv env S w a t<|Af B t z;cases b
  ·have h':zhe P vs n0 Γ env0 cx (A.put o.dst [(0,.un)]) (zb2 o.dst [(0,.un)] KL):=N0 hd λvs' hv env S w a t z=>hH P vs' env S w t<|hi vs' hv env S w a t z;have⟨Ls,y,σ',x,h1,h2,h3,h4,h5,h6,h7,h8,h9,hy,hz⟩:=zda hT hL hC hX hu (os:=os) h h' (HR hd hn) (hN.trans ho) (zdF hP λe he p hp=>by obtain rfl:=xab.1 he;cases hp) (λr L=>by show r.o<A.nx;rw[hD];exact Y r L) (zuC J) (by show n0<=A.nx;rw[hD];exact h0);have⟨g1,g2,D,g4⟩:=zjg J h4;refine⟨[(0,.un)]::Ls,⟨A.nx,A.nx,[]⟩::y,σ',x,by simp[h1],by simp[h2],by rw[<-h3];simp,g1,⟨⟨(by show n0<=A.nx;rw[hD];exact h0),eZ _,λe he p hp=>(by obtain rfl:=xab.1 he;cases hp),λe he=>(by rw[D]at he;cases he),λvs' hv env F G w C=>⟨λhw=> ?_,λ_=>⟨g2,D,λS w=>⟨O,xS⟩⟩⟩⟩,h5⟩,h6,h7,h8,h9,hy,hz⟩;exfalso;have⟨S,_,a⟩:=C.ex;have:=hQ P vs' env S w λt z=>hc hv (zK.left a.2) a.1 t z;rw[hw]at this;cases this
  ·have⟨c,h,a0,a1,E,hR⟩:=zro h hP;have hI:∀vs' env S w t,Lk P vs' env S w cx σ t->Lk P vs' env S w cx c t:=λvs' env S w t z=>hR P vs' env S w t<|hH P vs' env S w t z;have hS:zhe P vs n0 Γ env0 cx c KL:=λvs' hv env S w a t z=>hI vs' env S w t<|hi vs' hv env S w a t z;have H:c.nx=σ.nx:=a1.trans hD;have hJ:∀{vs' env S w},(∀p,p<n0->vs' p=vs p)->zK S Γ w->U2 (KV P vs' KL) env0 env S w (xbr u.toArray o)->xl u.toArray env o=I:=λ{vs' env S w} hv a B=>hQ P vs' env S w λt z=>hc hv a B t z;generalize hA:xbr u.toArray o=ts at h hc hJ;generalize b3:A7 ts c.rg=M at h;generalize b4:fzB fz o.dst=bz at h;cases hM:zsM cf cx ⟨c.nx,c.rg,Aq M rs⟩ bz o.dst o.op<;>rw[hM]at h
   ·simp only[cnd]at h;have⟨l,h,a2⟩:=zsB (P:=P) (d:=o.dst) (ty:=o.type) (pos:=o.pos) (aft:=o.after) (g:=o.guard) (F:=[]) hT hL hC hX h;have⟨hl,h⟩:=yv h;have⟨Ls,y,σ',x,h1,h2,h3,h4,h5,h6,h7,h8,h9,hy,hz⟩:=zda hT hL hC hX hu (os:=os) h (N0 hd hS) (HR hd hn) (a0.trans<|hN.trans ho) (zdF E<|zf8 hl) (zxk λr L=>by show r.o<c.nx;rw[H];exact Y r L) (zsm J) (by show n0<=c.nx;rw[H];exact h0);have⟨g1,g2,D,g4⟩:=znG J h4;refine⟨l::Ls,⟨c.nx,c.nx,Ed l⟩::y,σ',x,by simp[h1],by simp[h2],by rw[<-h3];simp,g1,⟨⟨(by show n0<=c.nx;rw[H];exact h0),eZ _,λe he p hp=>⟨zf8 hl e he p hp,GJ he hp⟩,λe he=>(by rw[D]at he;cases he),λvs' hv env F G w C=>⟨λ_=> ?_,λhw=> ?_⟩⟩,h5⟩,h6,h7,h8,h9,hy,hz⟩
    ·rw[g2]at C;rw[D];have⟨k1,k2,k3,S,k4,k5,k6,k7,k8⟩:=C;have hE:MS vs' cx.ob=MS vs cx.ob:=vc λe he=>hv _<|hu e he;refine(a2 env w S vs' k5 (Y9.2 λmf hmf=> ?_) λt z=> ?_).mono ?_
     ·obtain hmf|hmf:=pN.1 hmf
      ·obtain⟨e,he,rfl⟩:=xan.1 hmf;exact Y9.1 k7 _<|pN.2 (.inl<|xan.2 ⟨e,g4 e he,O⟩)
      ·rw[xbN]at hmf;have hmf:mf∈MS vs' cx.ob:=hmf;rw[hE]at hmf;exact Y9.1 k7 _<|pN.2 (.inr<|pN.2 (.inl<|pN.2 (.inl hmf)))
     ·have B:U2 (KV P vs' KL) env0 env S w (xbr u.toArray o):=k8.1;exact hI vs' env S w t<|hc hv (zK.left k8.2) (hA▸B) t<|hA▸pN.2 (.inl z)
     ·rintro v w' ⟨hx,hf⟩;refine⟨vs',λ_ _=>O,k1.trans hx,k2,k3,S,k4,λk hk=>k5 k<|PX hx.size hk,k6,xd.keep hx.to (λm hm i hi=>hx.block i (xd.lt k7 m hm i hi) xS) k7,zK.append (YS.2 λf a3=> ?_)<|zK.keep hx.to k8.2⟩;obtain⟨e,he,rfl⟩:=xan.1 a3;exact hf e he
    ·exfalso;have⟨S,_,a⟩:=C.ex;have B:U2 (KV P vs' KL) env0 env S w (xbr u.toArray o):=a.1;have:=hJ hv (zK.left a.2)<|hA▸B;rw[hw]at this;cases this
   ·simp only[cnd]at h;have⟨τ,h,a4,hm⟩:=zsD (P:=P) (cx:=⟨0,[],cx.ob⟩) (d:=o.dst) (ty:=o.type) (pos:=o.pos) (aft:=o.after) (g:=o.guard) hT hL hC hX (by cases o.dst<;>rfl) h;have⟨j,Q⟩:∃j,j=zwi bz o.dst τ:=⟨_,O⟩;simp only at h;rw[<-Q]at h;have hU:j.nx=τ.nx:=by rw[Q];cases bz<;>first|rfl|exact zf4 _ _
    have hK:∀{T:Fr}{vs2:K->xn}{env w},Ao P T ⟨0,[],cx.ob⟩ τ vs2 env w->Ao P T ⟨0,[],cx.ob⟩ j vs2 env w:=λ{T vs2 env w} hq=>by rw[Q];cases bz<;>first|exact hq|exact Cw _ hq
    unfold ztc at h;have⟨hl,h⟩:=yv h;rw[Th]at hl;have⟨hl,hF⟩:=hl;have hF:∀e∈j.ob,e.1<j.nx:=λe he=>by
     have:=xaS.1 hF e he;have:=xbW this;lia
    have U:c.nx<=j.nx:=by rw[hU];exact a4
    have a5:zhe P vs n0 Γ env0 cx ⟨j.nx,jq c.rg o.dst<|LK o.dst j.rg,[]⟩ (zb2 o.dst (LK o.dst j.rg) KL):=λvs' hv=>N0 (l:=LK o.dst j.rg) hd hS vs' hv;have a9:Bd cx ⟨j.nx,jq c.rg o.dst<|LK o.dst j.rg,[]⟩:=by
     refine⟨λe he=>wl he QT,λe he=>xah (E.o2 e he) U,λe he p hp=> ?_,λe he p hp=>xah (E.r2 e he p hp) U⟩;have he:e∈jq c.rg o.dst (LK o.dst j.rg):=he;unfold jq at he;split at he
     ·obtain he|he:=pN.1 he
      ·obtain⟨e',b0,rfl⟩:=xan.1 he;exact zf8 hl e' b0 p hp
      ·exact xah (E.r1 e (xcf.1 he).1 p hp) U
     ·exact xah (E.r1 e he p hp) U
    have⟨Ls,y,σ',x,h1,h2,h3,h4,h5,h6,h7,h8,h9,hy,hz⟩:=zda hT hL hC hX hu (os:=os) h a5 (HR hd hn) O a9 (λq hq=>by
     obtain hq|hq:=pN.1 hq
     ·exact xah (zxA (n:=c.nx) (λr L=>by rw[H];exact Y r L) q hq) U
     ·obtain⟨e,he,rfl⟩:=xan.1 hq;exact hF e he) (zqq (zqF J)) (PX (by rw[H];exact h0) U)
    have⟨g1,g2,D,g4⟩:=znu J h4;refine⟨LK o.dst j.rg::Ls,⟨c.nx,j.nx,Ed<|LK o.dst j.rg⟩::y,σ',x,by simp[h1],by simp[h2],by rw[<-h3];simp,g1,⟨⟨(by show n0<=c.nx;rw[H];exact h0),U,λe he p hp=>⟨zf8 hl e he p hp,GJ he hp⟩,λe he=>hF e (by rw[D]at he;exact he),λvs' hv env F G w C=>⟨λ_=> ?_,λhw=> ?_⟩⟩,h5⟩,h6,h7,h8,h9,hy,hz⟩
    ·rw[g2,g4,xbN]at C;rw[D,g4];have hE:∀{vs2:K->xn},(∀p,p<n0->vs2 p=vs p)->MS vs2 cx.ob=MS vs cx.ob:=λhv=>vc λe he=>hv _<|hu e he;have hV:Ao P ⟨fr.we,fr.Se,fr.F++F,Γ++G⟩ ⟨0,[],cx.ob⟩ ⟨c.nx,dd<|iQ ts<|c.rg++cx.rg,Aq M rs⟩ vs' env w:=by
      refine⟨⟨λe he=>zlZ (λr L=>by rw[H];exact Y r L) e he,E.o2,λe he p hp=> ?_,λe he=>wl he QT⟩,?_⟩
      ·have:=(lH<|OH he).1;obtain h|h:=pN.1 this
       ·exact E.r1 e h p hp
       ·exact E.r2 e h p hp
      ·show St fr.we fr.Se (MS vs' (Aq M rs)++(MS vs' cx.ob++(fr.F++F))) (RS P vs' env (dd<|iQ ts<|c.rg++cx.rg)++([]++(Γ++G))) w;rw[hE hv,<-xal<|MS vs cx.ob];refine C.weak λS w a=>zK.append (YS.2 λf hf=> ?_) a.2;obtain⟨e,he,rfl⟩:=xan.1 hf;have B:U2 (KV P vs' KL) env0 env S w (xbr u.toArray o):=a.1;have hW:=(lH<|OH he).2;have hY:=zit he;rw[CD hW,zjG]at hY;exact hI vs' env S w e.1 (hc hv (zK.left a.2) (hA▸B) e.1<|zqV hW) e.2.1 e.2.2 hY
     refine(hm _ vs' env w hV).mono ?_;rintro v w' ⟨vs2,hZ,b1⟩;have⟨_,hG⟩:=hK b1;refine⟨vs2,hZ,?_⟩;have hG:St fr.we fr.Se (MS vs2 j.ob++(MS vs2 cx.ob++(fr.F++F))) (RS P vs2 (put env o.dst v) j.rg++([]++(Γ++G))) w':=hG;rw[hE (vs2:=vs2)<|λp hp=>(hZ p<|xah hp (by show n0<=c.nx;rw[H];exact h0)).trans<|hv p hp,<-xal<|MS vs cx.ob]at hG;refine St.weak (show St fr.we fr.Se (MS vs2 j.ob++(MS vs' []++(MS vs cx.ob++fr.F++F))) _ w' from hG) λS w a=>zK.append (YS.2 λf hf=> ?_)<|zK.right a;obtain⟨e,he,rfl⟩:=xan.1 hf;have⟨t,z,b2⟩:=zmU he;have:=ef (zK.left a) b2;rw[z,Px]at this;exact this
    ·exfalso;have⟨S,_,a⟩:=C.ex;have B:U2 (KV P vs' KL) env0 env S w (xbr u.toArray o):=a.1;have:=hJ hv (zK.left a.2)<|hA▸B;rw[hw]at this;cases this
def zml(hm:P.follows .mixedOrders=I)(J:xm P cf.tt)(L:ZX P cf.tt)(M:∀s∈cf.cs,xI P s)(T:XOK P cf){N:Nd}{id m:K}{fz:zC K}{l:zC wT}{Q:Qs}{k:Sg->V R}
 (hK:∀σ',k σ'=Z r->∀b w,Eb cx env b->Wq P fr cx σ' b w->Q .normal b w) (U:(l.all λo=>kP N.n o.dst)=I) (hc:Q4 l m=I) (h:zqs cf cx fz l m σ k=Z r) (hR:Wq P fr cx σ env w):Wp P N (.region id l.toArray I) Q env w:=by
 unfold zqs at h;have⟨u,vs,hy⟩:=hR;obtain⟨σ0,rfl⟩:∃σ0,σ0=σ:=⟨σ,O⟩;have hI:m<=X l:=(X7 hc).1
 have⟨Ls,is,σ',rs,h1,h2,B,h4,h5,hs,Y,hJ,hp,hz,hM⟩:=zda (P:=P) (fr:=fr) (vs:=vs) (env0:=env) (Γ:=GS P vs env fr cx σ0) (n0:=σ0.nx) (KL:=[]) J L M T u.o2 h
  (λvs' hv b S w' p t v i dv hd=>by
   have v:b t=env t:=v;rw[v];have C:get cx σ0 t i=Z dv:=hd;have:=JJ p t i dv C;have hA:qI P vs' dv (env t) i=qI P vs dv (env t) i:=by
    unfold qI;simp only[Ag (P:=P) (vs':=vs') (vs:=vs) (d:=dv) λo D=>hv o (by
     obtain hm|hm:=zcv C
     ·exact u.r1 _ hm o D
     ·exact u.r2 _ hm o D)]
   rw[hA];exact this) (λ_ a=>wl a QT) O ⟨λ_ a=>wl a QT,u.o2,u.r1,u.r2⟩ (λq y=>by
    obtain⟨e,a,rfl⟩:=xan.1 y;exact u.o1 e a) (λq y=>by
    obtain⟨e,a,rfl⟩:=xan.1 y;exact⟨λj z=>(by cases z),λj z=>(by cases z),λj z=>wl z QT⟩) (eZ _)
 simp only[xbF]at B;have⟨hx,B⟩:=yv B;have hB:=znE h4;refine ztY (we:=fr.we) (Se:=fr.Se) (ms:=OS vs fr cx σ0.ob) (mE:=MS vs cx.ob++fr.F) m Ls is rs (σ'.rg.map (·.1)++cx.rg.map (·.1)) vs σ0.nx hm hc (by rw[h1,xap];lia) (by rw[h2,xap];lia) hx (by rw[hB]) U h5 ?_ w hy;intro g w1 vs' E hl;have hn:zgF rs=Er (λr=>r.c.isNone) rs:=zjf rs;have hw:∀e∈zgF rs,e.1<σ'.nx:=λe a=>by
  rw[hn]at a;have⟨q,y,a⟩:=xeS.1 a;split at a
  ·cases a;exact hz q y
  ·cases a
 have⟨S1,_,hD⟩:=hl.ex;have hE:Eb cx env g:=λe0 hi=>by
  have h1:=Af hD.1 e0.1<|pN.2 (.inr<|xan.2 ⟨e0,hi,O⟩);unfold VB at h1;have A:(KV P vs'<|LH ((l.take m).zip Ls) []).find? (λx=>xad x.1 e0.1)=yD:=by
   rw[List.find?_eq_none];intro e a H;obtain⟨e1,hF,rfl⟩:=xan.1 a;have:=Y e1 hF;simp only[KS,xaS]at this;have:=this e0 hi;rw[yr H]at this;simp at this
  rw[A]at h1;exact h1
 refine zds (P:=P) (fr:=fr) J L M T hK hE (zrv U m) B ⟨⟨hw,hp.o2,λe a=>hp.r1 e<|OH a,hp.r2⟩,vs',?_⟩;show St fr.we fr.Se (MS vs' (zgF rs)++(MS vs' cx.ob++fr.F)) (RS P vs' g (dd σ'.rg)++(RS P vs' g cx.rg++fr.G)) w1;rw[hn,vc (ob:=cx.ob) λe a=>E _<|u.o2 e a];refine hl.weak λS w2 p=> ?_;have hk:=Af p.1;have hG:∀t∈cx.rg.map (·.1),g t=env t:=λt v=>by
  have h1:=hk t<|pN.2 (.inr v);unfold VB at h1;have A:(KV P vs'<|LH ((l.take m).zip Ls) []).find? (λx=>xad x.1 t)=yD:=by
   rw[List.find?_eq_none];intro e a H;obtain⟨e0,hi,rfl⟩:=xan.1 a;have:=Y e0 hi;obtain⟨e',hH,rfl⟩:=xan.1 v;simp only[KS,xaS]at this;have:=this e' hH;rw[yr H]at this;simp at this
  rw[A]at h1;exact h1
 refine zK.append ?_<|zK.append ?_<|zK.right<|zK.right p.2
 ·refine YS.2 λf A=> ?_;obtain⟨e,a,rfl⟩:=xan.1 A;have C:get cx σ' e.1 e.2.1=Z e.2.2:=by unfold get;rw[zit a]
  exact hs vs' E g S w2 p.2 e.1 (hk e.1<|pN.2 (.inl<|xan.2 ⟨e,OH a,O⟩)) _ _ C
 ·rw[Xb (vs:=vs) (env:=env) (λe a o D=>E o<|u.r2 e a o D) λe a=>hG e.1<|xan.2 ⟨e,a,O⟩];exact zK.left<|zK.right p.2
def zpX(u:P.follows .mixedOrders=I)(d:xm P cf.tt)(e:ZX P cf.tt)(f:∀s∈cf.cs,xI P s)(g:XOK P cf){N:Nd}{id:K}{l:zC wT}{b:ws}{Q:Qs}{k:Sg->V R}
 (i:∀σ',k σ'=Z r->∀c w,Eb cx env c->Wq P fr cx σ' c w->Q .normal c w) (j:(l.all λo=>kP N.n o.dst)=I) (h:zt7 cf cx id l b σ k=Z r) (p:Wq P fr cx σ env w):Wp P N (.region id l.toArray b) Q env w:=by
 unfold zt7 at h;cases b
 ·exact λa h1 v x=>wpIn_region_lit<|zds d e f g i Eb.refl j h p a h1 v x
 ·simp only[cnd]at h;have⟨hc,h⟩:=yv h;generalize ziu l (X l) (X l)=m at hc h;cases y:zv2 cf id<;>rw[y]at h
  case true=>
   have⟨q,vs,t⟩:=p;have⟨q,t⟩:=Cw (A7 (zuN cf id) σ.rg) ⟨q,t⟩;exact zml u d e f g i j hc h ⟨q,vs,t⟩
  exact zml u d e f g i j hc h<|zgC (l.take m) [] p
end
end
section
section
variable{P:ww}{cf:Cf}{fr:Fr}{cx kp σ:Sg}{vs vs':zV->xn}{env env0:xt}{w:xN}{R:Type}{r:R}
def zu3(u:xn)(r:K):V xn:=(wm u)[r]?
def tfF:(f:TF)->f.D->(K->xn)->xn->xn->FF
 |.d t,x,_,_,v=>fV t.rep x v
 |.q t,x,_,_,v=>fP t.rep x v
 |.own _ _,_,_,u,v=>Ah<|v=u
 |.var _ _,_,_,u,v=>Ah (v=u/\∃b,v=.pointer (Z ⟨b,0,yD⟩))
 |.mat _ _ _,_,_,u,v=>Ah<|v=yY u
 |.matv _ _ _,x,_,u,v=>Ah<|MvV (yY u) x.2.1 x.2.2 v
 |.row j,r,U,_,v=>Ah<|zu3 (U j) r=Z v
 |.view j,r,U,_,v=>Ah<|MvV (yY<|U j) r.1 r.2 v
 |.bo _ _ _,_,_,u,v=>Ah<|v=yY u
 |.vr _ _ _ _ _ _,_,_,u,v=>Ah<|v=yY u
def tfM:(f:TF)->f.D->xn->N MF
 |.own t E,xs,u=>[mO t.rep E u xs]
 |.var t E,z,u=>[mP t.rep.c E u z]
 |.mat t E E1,x,u=>[Ih t.rep E E1 u x.1 x.2]
 |.matv t E E1,x,u=>[Ih t.rep E E1 u x.1.1 x.1.2]
 |.bo t E a,xs,u=>[mBo t.rep E a u xs]
 |.vr t E s E1 n i,x,u=>[mVr (vrP s<|xy n t i) t.rep E (Vb<|xy n t i) (Ye s (xy n t i) []) s.rep E1 u x.1 x.2]
 |_,_,_=>[]
def dsF(U:K->xn)(env:xt):(l:N (K×TF))->Ua l->K->N FF
 |[],_,_=>[]
 |[a],x,i=>[tfF a.2 x U (U i)<|env a.1]
 |a::b::r,x,i=>tfF a.2 x.1 U (U i) (env a.1)::dsF U env (b::r) x.2 (i+1)
def Kd(U:K->xn):(l:N (K×TF))->Ua l->K->N MF
 |[],_,_=>[]
 |[a],x,i=>tfM a.2 x<|U i
 |a::b::r,x,i=>tfM a.2 x.1 (U i)++Kd U (b::r) x.2 (i+1)
def VZ(f:TF)(dv:V Dv)(vs:K->xn)(v:xn):xn:=match f,dv with
 |.mat _ _ _,Z .nil=>gN v []
 |.mat _ _ _,Z (.mw o)=>vs o
 |.matv _ _ _,Z (.mv o _ _)=>vs o
 |.bo _ _ _,Z (.mw o)=>vs o
 |.vr _ _ _ _ _ _,Z (.mw o)=>vs o
 |_,_=>v
def gB(cx σ:Sg)(ds:N (K×TF))(vs:K->xn)(env:xt)(j:K):xn:=match ds[j]? with
 |some (t,f)=>VZ f (get cx σ t 0) vs<|env t
 |none=>wR
def St.mid{we:xN}{Se:K->Prop}{A B:N MF}{m:MF}{Γ:N FF}{w:xN}(h:St we Se (A++m::B) Γ w):St we Se (m::(A++B)) Γ w:=St.perm h xcj
def zc4:∀{os l:N K},RJ os l=I->∀o∈l,Bt os o=yL
 |os,o::r,h,p,hp=>by
  simp only[RJ,Th,xcM]at h;obtain rfl|hp:=PQ.1 hp
  ·exact h.1
  ·exact zc4 h.2 p hp
def zcO{ds:N (K×TF)}{t:K}{f:TF}{k:f.D->N K->V R}(h:oo cx σ ds t f k=Z r):∃x os,k x os=Z r/\(∀j,SR f=Z j->j<X ds)/\
 (∀(P:ww) vs env S w,(∀t,Lk P vs env S w cx σ t)->(tfF f x (gB cx σ ds vs env) (VZ f (get cx σ t 0) vs<|env t)<|env t).p S w)/\
 (∀(P:ww) vs (fr:Fr) env (A:N MF) (Γ:N FF) w (g:N K),(∀S w,zK S Γ w->Lk P vs env S w cx σ t)->(∀o∈os,Bt g o=yL)->St fr.we fr.Se (A++OS vs fr cx (qU σ.ob g)) Γ w->
  St fr.we fr.Se (tfM f x (VZ f (get cx σ t 0) vs<|env t)++(A++OS vs fr cx (qU σ.ob<|os++g))) Γ w):=by
 have M:∀{f:TF},(∀j,SR f≠Z j)->∀j,SR f=Z j->j<X ds:=λh j e=>wl e<|h j
 cases f with
 |d s=>
  have⟨y,h,hy⟩:=zpP h;refine⟨y,[],h,M (λj e=>by cases e),λP vs env S w hl=> ?_,λP vs fr env A Γ w g _ _ h=>h⟩
  cases a:get cx σ t 0 with
  |none=>rename_i h0;simp only[oo]at h0;rw[a]at h0;cases h0
  |some v=>exact hy P vs S w v _ a<|hl t 0 v a
 |q s=>
  simp only[oo]at h;split at h
  ·next Q x a=>
   have⟨e,h⟩:=yB h;subst e;exact⟨_,[],h,M (λj e=>by cases e),λP vs env S w hl=>hl t 0 _ a,λP vs fr env A Γ w g _ _ h=>h⟩
  ·cases h
 |own s E=>
  simp only[oo]at h;split at h
  ·next o a=>
   split at h
   ·next Q Y xs H=>
    have⟨l,h1⟩:=yv h;have l:=yr l;subst l;have⟨e,C⟩:=yB h1;cases e;refine⟨_,[o],C,M (λj e=>by cases e),λ_ _ _ _ _ _=>by simp only[a,VZ];exact O,λP vs fr env A Γ w g hl hn m=> ?_⟩;have hp:=kU (vs:=vs) (fr:=fr) (cx:=cx)<|(kq<|hn o<|Qh).trans H;have B:=St.mid<|St.perm m<|xbC _ hp;have⟨S,_,F⟩:=m.ex;have hv:env t=vs o:=hl S w F 0 _ a;simp only[a,VZ];show St _ _ (mO s.rep E (env t) _::(A++_)) _ _;rw[hv];exact B
   ·cases h
  ·next a=>
   refine⟨_,[],h,M (λj e=>by cases e),λ_ _ _ _ _ _=>by simp only[a,VZ];exact O,λP vs fr env A Γ w g hl hn m=> ?_⟩;have⟨S,_,F⟩:=m.ex;have hv:env t=.slice yD 0 0:=hl S w F 0 _ a;simp only[a,VZ];show St _ _ (mO s.rep E (env t) _::(A++_)) _ _;rw[hv];exact m.nilO
  ·cases h
 |var s E=>
  simp only[oo]at h;split at h
  ·next o s0 a=>
   split at h
   ·next Q Y z H=>
    have⟨l,h1⟩:=yv h;have l:=yr l;subst l;have⟨e,C⟩:=yB h1;subst e;refine⟨_,[o],C,M (λj e=>by cases e),λP vs env S w hl=> ?_,λP vs fr env A Γ w g hl hn m=> ?_⟩
    ·have⟨B,b,h4⟩:=hl t 0 _ a;simp only[a,VZ];exact⟨O,b,B.trans h4⟩
    ·have hp:=kU (vs:=vs) (fr:=fr) (cx:=cx)<|(kq<|hn o<|Qh).trans H;have B:=St.mid<|St.perm m<|xbC _ hp;have⟨S,_,F⟩:=m.ex;have hv:env t=vs o:=(hl S w F 0 _ a).1;simp only[a,VZ];show St _ _ (mP Q.rep.c E (env t) _::(A++_)) _ _;rw[hv];exact B
   ·cases h
  ·cases h
 |mat s E E1=>
  simp only[oo]at h;split at h
  ·next o a=>
   split at h
   ·next Q Y F' a0 ix H=>
    have⟨l,h1⟩:=yv h;rw[Th]at l;have hc:=yr l.1;have hd:=yr l.2;subst hc;subst hd;have⟨e,C⟩:=yB h1;cases e;refine⟨_,[o],C,M (λj e=>by cases e),λP vs env S w hl=> ?_,λP vs fr env A Γ w g hl hn m=> ?_⟩
    ·simp only[a,VZ];exact hl t 0 _ a
    ·have hp:=kU (vs:=vs) (fr:=fr) (cx:=cx)<|(kq<|hn o<|Qh).trans H;simp only[a,VZ];have B:=St.mid<|St.perm m<|xbC _ hp;exact B
   ·cases h
  ·next a=>
   refine⟨_,[],h,M (λj e=>by cases e),λP vs env S w hl=>by simp only[a,VZ];exact O,λP vs fr env A Γ w g hl hn m=> ?_⟩;have⟨S,_,F⟩:=m.ex;have hv:env t=.slice yD 0 0:=hl S w F 0 _ a;simp only[a,VZ];refine zeV (u:=gN (env t) []) O ?_;show St _ _ (mO (XY []) E (env t) []::(A++_)) _ _;rw[hv];exact m.nilO
  ·cases h
 |matv s E E1=>
  simp only[oo]at h;split at h
  ·next o lo n a=>
   split at h
   ·next Q Y F' a0 ix H=>
    have⟨l,h1⟩:=yv h;rw[Th]at l;have hc:=yr l.1;have hd:=yr l.2;subst hc;subst hd;have⟨e,C⟩:=yB h1;cases e;refine⟨_,[o],C,M (λj e=>by cases e),λP vs env S w hl=> ?_,λP vs fr env A Γ w g hl hn m=> ?_⟩
    ·simp only[a,VZ];exact hl t 0 _ a
    ·have hp:=kU (vs:=vs) (fr:=fr) (cx:=cx)<|(kq<|hn o<|Qh).trans H;simp only[a,VZ];have B:=St.mid<|St.perm m<|xbC _ hp;exact B
   ·cases h
  ·cases h
 |row j=>
  simp only[oo]at h
  have J:∀(o G p:K),j<X ds->get cx σ t 0=Z (.rw o p)->xad o G=I->k p []=Z r->(∀vs env,gB cx σ ds vs env j=vs G)->∃(x:K) (os:N K),k x os=Z r/\(∀i,SR (TF.row j)=Z i->i<X ds)/\
   (∀(P:ww) vs env S w,(∀t,Lk P vs env S w cx σ t)->(tfF (.row j) x (gB cx σ ds vs env) (VZ (.row j) (get cx σ t 0) vs<|env t)<|env t).p S w)/\
   (∀(P:ww) vs (fr:Fr) env (A:N MF) (Γ:N FF) w (g:N K),(∀S w,zK S Γ w->Lk P vs env S w cx σ t)->(∀o∈os,Bt g o=yL)->St fr.we fr.Se (A++OS vs fr cx (qU σ.ob g)) Γ w->
    St fr.we fr.Se (tfM (.row j) x (VZ (.row j) (get cx σ t 0) vs<|env t)++(A++OS vs fr cx (qU σ.ob<|os++g))) Γ w):=by
   intro o G p he a C B h4;refine⟨p,[],B,λi e=>by cases e;exact he,λP vs env S w hl=> ?_,λP vs fr env A Γ w g _ _ h=>h⟩;have h5:(wm<|vs o)[p]? =Z (env t):=hl t 0 _ a;rw[yr C]at h5;show zu3 (gB cx σ ds vs env j) p=Z (env t);rw[h4];exact h5
  split at h
  ·next o p s _ _ _ a L=>
   split at h
   ·next G T=>
    have⟨U,h⟩:=yv h;exact J o G p (xav.1 L).1 a U h λvs env=>by unfold gB;rw[L];simp only[T,VZ]
   ·cases h
  ·next o p s _ _ _ a L=>
   split at h
   ·next G lo n T=>
    have⟨U,h⟩:=yv h;exact J o G p (xav.1 L).1 a U h λvs env=>by unfold gB;rw[L];simp only[T,VZ]
   ·cases h
  ·cases h
 |view j=>
  simp only[oo]at h
  have J:∀(o G p q:K),j<X ds->get cx σ t 0=Z (.mv o p q)->xad o G=I->k (p,q) []=Z r->(∀vs env,gB cx σ ds vs env j=vs G)->∃(x:K×K) (os:N K),k x os=Z r/\(∀i,SR (TF.view j)=Z i->i<X ds)/\
   (∀(P:ww) vs env S w,(∀t,Lk P vs env S w cx σ t)->(tfF (.view j) x (gB cx σ ds vs env) (VZ (.view j) (get cx σ t 0) vs<|env t)<|env t).p S w)/\
   (∀(P:ww) vs (fr:Fr) env (A:N MF) (Γ:N FF) w (g:N K),(∀S w,zK S Γ w->Lk P vs env S w cx σ t)->(∀o∈os,Bt g o=yL)->St fr.we fr.Se (A++OS vs fr cx (qU σ.ob g)) Γ w->
    St fr.we fr.Se (tfM (.view j) x (VZ (.view j) (get cx σ t 0) vs<|env t)++(A++OS vs fr cx (qU σ.ob<|os++g))) Γ w):=by
   intro o G p q he a C B h4;refine⟨(p,q),[],B,λi e=>by cases e;exact he,λP vs env S w hl=> ?_,λP vs fr env A Γ w g _ _ h=>h⟩;have h5:MvV (yY<|vs o) p q (env t):=hl t 0 _ a;rw[yr C]at h5;show MvV (yY<|gB cx σ ds vs env j) p q (env t);rw[h4];exact h5
  split at h
  ·next o p q s _ _ _ a L=>
   split at h
   ·next G T=>
    have⟨U,h⟩:=yv h;exact J o G p q (xav.1 L).1 a U h λvs env=>by unfold gB;rw[L];simp only[T,VZ]
   ·cases h
  ·next o p q s _ _ _ a L=>
   split at h
   ·next G lo n T=>
    have⟨U,h⟩:=yv h;exact J o G p q (xav.1 L).1 a U h λvs env=>by unfold gB;rw[L];simp only[T,VZ]
   ·cases h
  ·cases h
 |bo s E E0=>
  simp only[oo]at h;split at h
  ·next o a=>
   split at h
   ·next Q Y F' xs H=>
    have⟨l,h1⟩:=yv h;rw[Th]at l;have hc:=yr l.1;have hd:=yr l.2;subst hc;subst hd;have⟨e,C⟩:=yB h1;cases e;refine⟨_,[o],C,M (λj e=>by cases e),λP vs env S w hl=> ?_,λP vs fr env A Γ w g hl hn m=> ?_⟩
    ·simp only[a,VZ];exact hl t 0 _ a
    ·have hp:=kU (vs:=vs) (fr:=fr) (cx:=cx)<|(kq<|hn o<|Qh).trans H;simp only[a,VZ];have B:=St.mid<|St.perm m<|xbC _ hp;exact B
   ·cases h
  ·cases h
 |vr s E s2 E1 n i=>
  simp only[oo]at h;split at h
  ·next o a=>
   split at h
   ·next Q Y a1 F' n' i' z xs H=>
    have⟨l,h1⟩:=yv h;rw[Th,Th,Th]at l;have⟨e1,C⟩:=yB h1;have⟨e2,B⟩:=yB C;have hc:=yr l.1;have hd:=yr l.2.1;have hf:=yr l.2.2.1;have hi:=yr l.2.2.2;subst hc;subst hd;subst hf;subst hi;subst e1;cases e2;refine⟨_,[o],B,M (λj e=>by cases e),λP vs env S w hl=> ?_,λP vs fr env A Γ w g hl hn m=> ?_⟩
    ·simp only[a,VZ];exact hl t 0 _ a
    ·have hp:=kU (vs:=vs) (fr:=fr) (cx:=cx)<|(kq<|hn o<|Qh).trans H;simp only[a,VZ];have B:=St.mid<|St.perm m<|xbC _ hp;exact B
   ·cases h
  ·cases h
def Ni{ds:N (K×TF)}{i:K}{t:K}{f:TF}{env:xt}(h:ds[i]? =Z (t,f)):gB cx σ ds vs env i=VZ f (get cx σ t 0) vs (env t):=by unfold gB;rw[h]
def zsI{ds:N (K×TF)}:∀{l:N (K×TF)}{i:K}{k:Ua l->N K->V R},(∀j a,l[j]? =Z a->ds[i+j]? =Z a)->gat cx σ ds l k=Z r->∃x os,k x os=Z r/\(∀a∈l,∀j,SR a.2=Z j->j<X ds)/\
 (∀(P:ww) vs env S w,(∀t,Lk P vs env S w cx σ t)->zK S (dsF (gB cx σ ds vs env) env l x i) w)/\
 (∀(P:ww) vs (fr:Fr) env (Γ:N FF) w,(∀S w,zK S Γ w->∀t,Lk P vs env S w cx σ t)->St fr.we fr.Se (OS vs fr cx σ.ob) Γ w->St fr.we fr.Se (Kd (gB cx σ ds vs env) l x i++OS vs fr cx (qU σ.ob os)) Γ w)
 |[],i,k,_,h=>⟨(),[],h,λ_ h=>wl h QT,λ_ _ _ _ _ _=>xS,λ_ _ _ _ _ _ _ h=>h⟩
 |[a],i,k,hd,h=>by
  have⟨x,os,h1,h0,g,m⟩:=zcO (h:oo cx σ ds a.1 a.2 k=Z r);have f:ds[i]? =Z (a.1,a.2):=hd 0 a O;refine⟨x,os,h1,λb z j e=> ?_,λP vs env S w hl=>⟨?_,xS⟩,λP vs fr env Γ w hl n=> ?_⟩
  ·simp_all
  ·rw[Ni f];exact g P vs env S w hl
  ·have:=m P vs fr env [] Γ w [] (λS w d=>hl S w d a.1) (λ_ _=>O) n;rw[xbN]at this;show St _ _ (tfM a.2 x (gB cx σ ds vs env i)++_) _ _;rw[Ni f];exact this
 |a::b::l,i,k,hd,h=>by
  have⟨x,o,h1,h0,g,m⟩:=zcO (h:oo cx σ ds a.1 a.2 _=Z r);have⟨y,os,p,q,s,u⟩:=zsI (l:=b::l) (i:=i+1) (λj c v=>by
   have:=hd (j+1) c (by simpa using v);rw[(W:i+1+j=i+(j+1))];exact this) h1
  have⟨hn,p⟩:=yv p;have f:ds[i]? =Z (a.1,a.2):=hd 0 a O;refine⟨(x,y),o++os,p,λc hc j e=> ?_,λP vs env S w hl=>⟨?_,s P vs env S w hl⟩,λP vs fr env Γ w hl n=> ?_⟩
  ·obtain rfl|hc:=PQ.1 hc
   ·exact h0 j e
   ·exact q c hc j e
  ·rw[Ni f];exact g P vs env S w hl
  ·have:=m P vs fr env (Kd (gB cx σ ds vs env) (b::l) y<|i+1) Γ w os (λS w d=>hl S w d a.1) (zc4 hn)<|u P vs fr env Γ w hl n;show St _ _ ((tfM a.2 x (gB cx σ ds vs env i)++Kd (gB cx σ ds vs env) (b::l) y (i+1))++_) _ _;rw[Ni f,xal];exact this
def nvs(vs:K->xn)(U:K->xn)(n:K):K->xn:=λk=>if k<n then vs k else U (k-n)
theorem zhT{n0:K}:∀{l:N (K×TF)}{x:Ua l}{o:K},∀e∈(AB n0 l x o).2,o<=e.1/\e.1<o+X l
 |[],_,_,e,a=>wl a QT
 |[(t,f)],x,o,e,a=>by
  cases f<;>simp only[AB]at a<;>first|exact wl a QT|(obtain rfl:=xab.1 a;exact⟨eZ _,xdy _⟩)
 |(t,f)::b::l,x,o,e,a=>by
  have c:∀e∈(AB n0 (b::l) x.2<|o+1).2,o<=e.1/\e.1<o+X ((t,f)::b::l):=λe a=>by
   have:=zhT e a;grind
  cases f<;>simp only[AB]at a<;>first
   |exact c e a
   |exact(PQ.1 a).elim (λa=>by subst a;exact⟨eZ _,by simp only[xar];lia⟩)<|λa=>c e a
def zfe{n0 o p n:K}{f:TF}{x:f.D}(hn:∀j,SR f=Z j->j<n)(h:qd (zaL n0 o f x).1=Z p):p=o\/p<n0+n:=by
 cases f<;>simp only[zaL,qd,xao,vW]at h
 ·lia
 ·lia
 ·lia
 ·lia
 ·next j=>have:=hn j O;exact .inr W
 ·next j=>have:=hn j O;exact .inr W
 ·lia
 ·lia
def zcr{n0 n:K}:∀{l:N (K×TF)}{x:Ua l}{o:K},(∀a∈l,∀j,SR a.2=Z j->j<n)->∀e∈(AB n0 l x o).1,∀p,qd e.2.2=Z p->p<o+X l\/p<n0+n
 |[],_,_,_,e,he=>wl he QT
 |[(t,f)],x,o,hn,e,he=>by
  intro p hp;obtain rfl:=xab.1 (show e∈[(t,0,(zaL n0 o f x).1)]from he);rcases zfe (hn _<|Qh) hp with rfl|h
  ·simp_all
  ·lia
 |(t,f)::b::l,x,o,hn,e,he=>by
  intro p hp;have he:e=(t,0,(zaL n0 o f x.1).1)\/e∈(AB n0 (b::l) x.2<|o+1).1:=PQ.1 he;obtain rfl|he:=he
  ·rcases zfe (hn _<|Qh) hp with rfl|h
   ·simp_all
   ·lia
  ·rcases zcr (λa c=>hn a<|kE _ c) e he p hp with h|h
   ·simp only[xar]at h⊢;exact .inl W
   ·exact .inr h
theorem zcy{U:K->xn}{n0:K}:∀{l:N (K×TF)}{x:Ua l}{o i:K},(∀j,j<X l->vs (o+j)=U (i+j))->MS vs (AB n0 l x o).2=Kd U l x i
 |[],_,_,_,_=>rfl
 |[(t,f)],x,o,i,h=>by
  have h0:vs o=U i:=h 0 Xn;cases f<;>simp only[AB,zaL,MS,xch,xew,bH,Kd,tfM,h0]<;>rfl
 |(t,f)::b::l,x,o,i,h=>by
  have h0:vs o=U i:=h 0 Xn;have a:MS vs (AB n0 (b::l) x.2<|o+1).2=Kd U (b::l) x.2 (i+1):=zcy λj c=>by
   have:=h (j+1) (by simpa using c);grind
  unfold MS at a;cases f<;>simp only[AB,zaL,MS,xch,bH,Kd,h0,a]<;>rfl
def zaN{U:K->xn}{n0 n:K}{f:TF}{x:f.D}{o t:K}{u:xn}{S:K->Prop}(hv:vs o=u)(hn:∀j,SR f=Z j->j<n)(a:∀j,j<n->vs (n0+j)=U j)(h:(tfF f x U u<|env t).p S w):(qI P vs (zaL n0 o f x).1 (env t) 0).p S w:=by
 subst hv;cases f
 ·exact h
 ·exact h
 ·exact h
 ·have⟨h1,b,c⟩:=h;exact⟨h1,b,h1.symm.trans c⟩
 ·exact h
 ·exact h
 ·next j=>
  show zu3 (vs<|n0+j) x=Z (env t);rw[a j<|hn j O];exact h
 ·next j=>
  show MvV (yY<|vs<|n0+j) x.1 x.2 (env t);rw[a j<|hn j O];exact h
 ·exact h
 ·exact h
def zhu{U:K->xn}{n0 n:K}(d:∀j,j<n->vs (n0+j)=U j):∀{l:N (K×TF)}{x:Ua l}{o i:K}{S:K->Prop},(∀a∈l,∀j,SR a.2=Z j->j<n)->(∀j,j<X l->vs (o+j)=U (i+j))->zK S (dsF U env l x i) w->zK S (RS P vs env (AB n0 l x o).1) w
 |[],_,_,_,_,_,_,_=>trivial
 |[(t,f)],x,o,i,S,hn,h,c=>⟨zaN (h 0 Xn) (hn _<|Qh) d c.1,xS⟩
 |(t,f)::b::l,x,o,i,S,hn,h,c=>⟨zaN (h 0 Xn) (hn _<|Qh) d c.1,zhu d (λa e=>hn a<|kE _ e) (λj g=>by
  have:=h (j+1) (by simpa using g);rw[(W:o+1+j=o+(j+1)),(W:i+1+j=i+(j+1))];exact this) c.2⟩
theorem zoA:∀{ns:N (K×NF)},zrw cx σ ns=I->∀t f,(t,f)∈ns->(match f,get cx σ t 0 with
 |.kb b,Z (.kb c)=>b==c
 |.nil,Z .nil=>I
 |.ci x,Z (.d .i y)=>eqI x y
 |.cu x,Z (.d .u y)=>eqU x y
 |.al s,Z (.ow o)=>(match get cx σ s 0 with
  |some (.ow a)=>xad o a
  |_=>yL)
 |.al s,Z (.vs o _)=>(match get cx σ s 0 with
  |some (.vs a _)=>xad o a
  |_=>yL)
 |.al s,Z (.mw o)=>(match get cx σ s 0 with
  |some (.mw a)=>xad o a
  |_=>yL)
 |.bm s f,Z (.bm f' o _)=>(match get cx σ s 0 with
  |some (.vs a _)=>xad o a && xad f f'
  |_=>yL)
 |_,_=>yL)=I
 |(e,f')::r,h,t,f,hm=>by
  unfold zrw at h;rw[Th]at h;obtain g|hm:=PQ.1 hm
  ·grind
  ·exact zoA h.2 t f hm
def zj9{rg:N (K×K×Dv)}{S:K->Prop}(a:zK S (RS P vs env rg) w):∀{ns:N (K×NF)},(∀t f,(t,f)∈ns->match f with
 |.kb b=>env t=.bool b
 |.nil=>env t=.slice yD 0 0
 |.ci x=>(fV eI x<|env t).p S w
 |.cu x=>(fV eU x<|env t).p S w
 |.al s=>env t=env s
 |.bm s f=>env t=.func (.func f) #[env s] #[])->zK S (RS P vs env (zd1 rg ns)) w
 |[],_=>a
 |(t,f)::r,h=>by
  have c:=zj9 a (ns:=r) λt f d=>h t f<|kE _ d;have h0:=h t f<|Qh;unfold zd1;show zK S (RS P vs env<|_++_) w;rw[show RS P vs env (_++zd1 rg r)=RS P vs env _++RS P vs env (zd1 rg r)from xaU];refine zK.append ?_ c;cases f
  ·exact⟨h0,xS⟩
  ·exact⟨h0,xS⟩
  ·exact⟨h0,xS⟩
  ·exact⟨h0,xS⟩
  ·next s=>
   simp only;split
   ·next v hv=>
    have:=ef a<|tU hv;have h0:env t=env s:=h0;refine⟨?_,xS⟩;simp_all
   ·trivial
  ·next s f=>
   simp only;split
   ·next o q hv=>
    have⟨h1,e⟩:=ef a<|tU hv;have h0:env t=.func (.func f) #[env s] #[]:=h0;exact⟨⟨by rw[h0,h1],e⟩,xS⟩
   ·trivial
def zgy{rg:N (K×K×Dv)}{n:K}(a:∀e∈rg,∀p,qd e.2.2=Z p->p<n):∀{ns:N (K×NF)},∀e∈zd1 rg ns,∀p,qd e.2.2=Z p->p<n
 |[],e,he=>a e he
 |(t,f)::r,e,he=>by
  intro p hp;unfold zd1 at he;obtain he|he:=pN.1 he
  ·cases f
   ·obtain rfl:=xab.1 he;cases hp
   ·obtain rfl:=xab.1 he;cases hp
   ·obtain rfl:=xab.1 he;cases hp
   ·obtain rfl:=xab.1 he;cases hp
   ·simp only at he;split at he
    ·next v hv=>
     obtain rfl:=xab.1 he;exact a _ (tU hv) p hp
    ·simp_all
   ·simp only at he;split at he
    ·next o q hv=>
     obtain rfl:=xab.1 he;cases hp;exact a _ (tU hv) _ O
    ·exact wl he QT
  ·exact zgy a e he p hp
def Z1:∀(l:N (K×TF)) {σ:Sg},Wq P fr cx σ env w->Wq P fr cx (zl8 cx σ l) env w
 |[],_,h=>h
 |(t,.d _)::r,_,h=>Z1 r<|zcW _ h
 |(t,.q _)::r,_,h=>Z1 r h
 |(t,.own _ _)::r,_,h=>Z1 r h
 |(t,.var _ _)::r,_,h=>Z1 r h
 |(t,.mat _ _ _)::r,_,h=>Z1 r h
 |(t,.matv _ _ _)::r,_,h=>Z1 r h
 |(t,.row _)::r,_,h=>Z1 r h
 |(t,.view _)::r,_,h=>Z1 r h
 |(t,.bo _ _ _)::r,_,h=>Z1 r h
 |(t,.vr _ _ _ _ _ _)::r,_,h=>Z1 r h
def St.dropM{we:xN}{Se:K->Prop}{Γ:N FF}{w:xN}:∀{A B C:N MF},St we Se (A++(B++C)) Γ w->St we Se (A++C) Γ w
 |A,[],C,h=>h
 |A,b::B,C,h=>St.dropM (B:=B)<|St.drop (i:=0)<|St.mid h
end
end
section
section
variable{P:ww}{cf:Cf}{fr:Fr}{cx kp σ:Sg}{vs vs':zV->xn}{env env0:xt}{w:xN}{R:Type}{r:R}{N:Nd}{Q:Qs}
def rJ{a b:zC (K×K×Dv)}:RS P vs env (a++b)=RS P vs env a++RS P vs env b:=xaU
def Ie{sh:Sh}{k:Ua sh.ds->V R}(h:Gw (uI cx kp) sh σ k=Z r)(z:Bd cx kp):∃x,k x=Z r/\∀(fr:Fr) env w,Wq P fr (uI cx kp) σ env w->Wq P fr cx (eR sh x kp) env w:=by
 unfold Gw at h;simp only at h;have⟨K,h⟩:=yv h;have⟨x,os,h1,h0,L,u⟩:=zsI (ds:=sh.ds) (i:=0) (λj a D=>by rw[xaF];exact D) h;refine⟨x,h1,λfr env w M=> ?_⟩;have T:=Z1 sh.ds M;generalize zl8 (uI cx kp) σ sh.ds=g at*
 have⟨hB,vs,Y⟩:=T;have hf:=u P vs fr env (GS P vs env fr (uI cx kp) g) w (λS w q=>JJ q) Y;have hi:=St.dropM hf;generalize hu:gB (uI cx kp) g sh.ds vs env=U at*
 have hc:∀o,o<kp.nx->nvs vs U kp.nx o=vs o:=λo ho=>iq ho;have hd:∀j,j<X sh.ds->nvs vs U kp.nx (kp.nx+j)=U (0+j):=λj D=>by
  unfold nvs;rw[zA,(W:kp.nx+j-kp.nx=j),xaF]
 have hv:=λe he=>zhT (n0:=kp.nx) (l:=sh.ds) (x:=x) (o:=kp.nx) e he;have E:∀e∈(AB kp.nx sh.ds x kp.nx).1,∀p,qd e.2.2=Z p->p<kp.nx+X sh.ds:=λe he p hp=>by
  rcases zcr (n0:=kp.nx) (n:=X sh.ds) (l:=sh.ds) (x:=x) (o:=kp.nx) h0 e he p hp with h|h<;>exact h
 refine⟨⟨λe he=> ?_,λe he=> ?_,λe he p hp=> ?_,λe he p hp=> ?_⟩,nvs vs U kp.nx,?_⟩
 ·obtain he|he:=pN.1 he
  ·exact(hv e he).2
  ·exact xah (z.o1 e he)<|xbt _ _
 ·exact xah (z.o2 e he)<|xbt _ _
 ·obtain he|he:=pN.1 he
  ·obtain he|he:=pN.1 he
   ·exact zgy (λe he p hp=>E e he p hp) e he p hp
   ·exact E e he p hp
  ·exact xah (z.r1 e he p hp)<|xbt _ _
 ·exact xah (z.r2 e he p hp)<|xbt _ _
 ·have e1:OS (nvs vs U kp.nx) fr cx ((AB kp.nx sh.ds x kp.nx).2++kp.ob)=Kd U sh.ds x 0++(MS vs (kp.ob++cx.ob)++fr.F):=by
   show MS _ (_++kp.ob)++(MS _ cx.ob++_)=_
   rw[show MS (nvs vs U kp.nx) ((AB kp.nx sh.ds x kp.nx).2++kp.ob)=MS _ _++MS _ _ from xaU,zcy hd,vc λe he=>hc _<|z.o1 e he,vc (ob:=cx.ob) λe he=>hc _<|z.o2 e he,
    show MS vs (kp.ob++cx.ob)=MS _ _++MS _ _ from xaU,xal,xal]
  show St _ _ (OS (nvs vs U kp.nx) fr cx<|(AB kp.nx sh.ds x kp.nx).2++kp.ob) _ _;rw[e1];refine hi.weak λS w q=> ?_;have hl:∀t,Lk P vs env S w (uI cx kp) g t:=JJ q;have H:zK S (RS P (nvs vs U kp.nx) env (AB kp.nx sh.ds x kp.nx).1) w:=zhu (U:=U) (n:=X sh.ds) (λj D=>by rw[hd j D,xaF]) h0 hd (by rw[<-hu];exact L P vs env S w hl);have J:zK S (RS P vs env kp.rg++RS P vs env cx.rg) w:=by
   have:=zK.left<|zK.right q;rwa[show RS P vs env (uI cx kp).rg=RS P vs env kp.rg++RS P vs env cx.rg from xaU]at this
  have hn:=zj9 H (ns:=sh.ns) λt f hm=>by
   have d:=zoA K t f hm;cases f
   ·split at d<;>simp_all
    next b c u=>exact hl t 0 _ u
   ·split at d<;>simp_all
    next u=>exact hl t 0 _ u
   ·split at d<;>simp_all
    next a b u=>
    have:=hl t 0 _ u;simp only[eqI,kR]at d;rw[d];exact this
   ·split at d<;>simp_all
    next a b u=>
    have:=hl t 0 _ u;simp only[eqU,kR]at d;rw[d];exact this
   ·next s=>
    cases y:get (uI cx kp) g t 0 with
    |none=>rw[y]at d;cases d
    |some v=>
     rw[y]at d;cases v<;>simp only[xaj]at d
     ·next o=>
      cases m:get (uI cx kp) g s 0 with
      |none=>rw[m]at d;cases d
      |some A=>
       rw[m]at d;cases A<;>simp only[xaj]at d;have B:env t=vs o:=hl t 0 _ y;have C:=hl s 0 _ m;have:=yr d;subst this;exact B.trans (show env s=_ from C).symm
     ·next o _=>
      cases m:get (uI cx kp) g s 0 with
      |none=>rw[m]at d;cases d
      |some A=>
       rw[m]at d;cases A<;>simp only[xaj]at d;have B:env t=vs o:=(hl t 0 _ y).1;have C:=(hl s 0 _ m).1;have:=yr d;subst this;exact B.trans C.symm
     ·next o=>
      cases m:get (uI cx kp) g s 0 with
      |none=>rw[m]at d;cases d
      |some A=>
       rw[m]at d;cases A<;>simp only[xaj]at d;have B:env t=yY (vs o):=hl t 0 _ y;have C:=hl s 0 _ m;have:=yr d;subst this;exact B.trans (show env s=_ from C).symm
   ·next s f=>
    cases y:get (uI cx kp) g t 0 with
    |none=>rw[y]at d;cases d
    |some v=>
     rw[y]at d;cases v<;>simp only[xaj]at d
     next f' o _=>
     cases m:get (uI cx kp) g s 0 with
     |none=>rw[m]at d;cases d
     |some A=>
      rw[m]at d;cases A<;>simp only[xaj]at d;rw[Th]at d;have B:=(hl t 0 _ y).1;have C:=(hl s 0 _ m).1;have e1:=yr d.1;have e2:=yr d.2;subst e1;subst e2;show env t=.func (.func f) #[env s] #[];rw[C];exact B
  show zK S (RS P _ env ((zd1 (AB kp.nx sh.ds x kp.nx).1 sh.ns++(AB kp.nx sh.ds x kp.nx).1)++kp.rg)++(RS P _ env cx.rg++fr.G)) w;refine zK.append ?_<|zK.append ?_<|zK.right<|zK.right q
  ·rw[rJ,rJ];refine zK.append (zK.append hn H) ?_;rw[Xb (λe he p hp=>hc _<|z.r1 e he p hp)<|λ_ _=>O];exact zK.left J
  ·rw[Xb (λe he p hp=>hc _<|z.r2 e he p hp)<|λ_ _=>O];exact zK.right J
def zjC{a t:Tg}(h:zlc a t=I):a=t:=by
 cases a<;>cases t<;>first|rfl|cases h|skip
 rw[yr (show xad _ _=I from h)]
def zkd{t:Tg}(f:Bd cx kp):∀{l:zC (Tg×Sh)}{k:SmD l->V R},zpk (uI cx kp) σ t l k=Z r->∃(y:SmD l) (c:Sg),k y=Z r/\(∀{g:Type} (K:Tg->Sg->V g),zfL kp K l y=K t c)/\∀(fr:Fr) env w,Wq P fr (uI cx kp) σ env w->Wq P fr cx c env w
 |[],k,h=>by cases h
 |[a],k,h=>by
  have⟨e,h⟩:=yv h;have⟨x,h1,d⟩:=Ie (P:=P) h f;have:=zjC e;subst this;exact⟨x,_,h1,λK=>O,d⟩
 |a::b::l,k,h=>by
  unfold zpk at h;cases e:zlc a.1 t<;>rw[e]at h
  ·have⟨y,c,h1,d,i⟩:=zkd f (l:=b::l) h;exact⟨.inr y,c,h1,λK=>d K,i⟩
  ·have⟨x,h1,d⟩:=Ie (P:=P) h f;have:=zjC e;subst this;exact⟨.inl x,_,h1,λK=>O,d⟩
abbrev Qd:=ZV->zC K->xt->xN->Prop
def ja(D:K):MF where
 blk k:=k=D
 p _ w:=w.heap[D]? =Z (.deferred<|some [])
 keep h _ a:=(a D O).trans h
 sub h _:=h
 lt h k b:=by subst b;exact(xbd.1 h).1
def mkD(D:K):Deferred:={target:=.collected D,args:= #[]}
def Nd.wd(N:Nd)(Ds:zC K):Nd:=⟨N.n,Ds.map mkD,N.rd⟩
def Fr.wd(fr:Fr)(Ds:zC K):Fr:=⟨fr.we,fr.Se,Ds.map ja++fr.F,fr.G⟩
def zsP(N:Nd)(Q:Qd):ZV->kg->xN->Prop:=λe a w=>a.tmps.size=N.n/\∃Ds:zC K,a.defers=Ds.map mkD/\Q e Ds (xf a) w
def WpD(P:ww)(N:Nd)(c:vP)(Q:Qd)(Ds:zC K)(env:xt)(w:xN):Prop:=
 ∀a:kg,a.tmps.size=N.n->a.defers=Ds.map mkD->xf a=env->c.wpIn N.F 0 P (zsP N Q) a w
section
variable{N:Nd}{Q Q':Qd}{Ds:zC zV}
def ztu{c:vP}(h:Wp P (N.wd Ds) c (λe env w=>Q e Ds env w) env w):WpD P N c Q Ds env w:=λa h1 b d=>qO (h a h1 b d) λe g w' ⟨q1,q2,f⟩=>⟨q1,Ds,q2,f⟩
def zsJ(K:zC zV->xt->xN->Prop)(Q:Qd):Qd
 |.normal,Ds,env,w=>K Ds env w
 |e,Ds,env,w=>Q e Ds env w
def zcX(id:K)(Q:Qd):Qd
 |.exit a,Ds,env,w=>bif xad a id then Q .normal Ds env w else Q (.exit a) Ds env w
 |e,Ds,env,w=>Q e Ds env w
def zxc(Q:Qd):Qd
 |.goto _,_,_,_=>jN
 |e,Ds,env,w=>Q e Ds env w
def MB{x y:vP}(h:WpD P N x (zsJ (WpD P N y Q) Q) Ds env w):WpD P N (.seq x y) Q Ds env w:=by
 intro a h1 d f;refine wpIn_seq<|qO (h a h1 d f) ?_;intro e g w' ⟨q1,b,q2,c⟩;cases e<;>first|exact c g q1 q2 O|exact⟨q1,b,q2,c⟩
def zpT{c:vP}(h:WpD P N c Q Ds env w)(d:∀e Ds env w,Q e Ds env w->Q' e Ds env w):WpD P N c Q' Ds env w:=
 λa h1 f g=>qO (h a h1 f g) λe j w' ⟨q1,b,q2,i⟩=>⟨q1,b,q2,d e _ _ _ i⟩
def zba{id:K}{c:vP}(h:WpD P N c (zcX id Q) Ds env w):WpD P N (.block id c) Q Ds env w:=by
 intro a h1 g j;refine wpIn_block<|qO (h a h1 g j) ?_;intro e k w' ⟨q1,b,q2,d⟩
 cases e with
 |exit i=>
  simp only[zcX]at d;simp only[Exit.inBlock];cases f:xad i id
  ·rw[f]at d;rw[ir<|λe=>by subst e;simp at f];exact⟨q1,b,q2,d⟩
  ·rw[f]at d;rw[S<|xdn f];exact⟨q1,b,q2,d⟩
 |_=>exact⟨q1,b,q2,d⟩
def zlG{c:vP}(h:WpD P N c (zxc Q) Ds env w):WpD P N (.scope c) Q Ds env w:=by
 intro a h1 f g;refine zhy<|qO (h a h1 f g) ?_;intro e i w' ⟨q1,b,q2,d⟩;cases e<;>first|exact⟨q1,b,q2,d⟩|exact d.elim
def zf0{c:vP}{G:Type}(q:G->zC K->xt->xN->Prop)(j:G->K)(d:G)(f:q d Ds env w)(round:∀g Ds env w,q g Ds env w->WpD P N c (zsJ (λb h w'=>∃i,q i b h w'/\j i<j g) Q) Ds env w):WpD P N (.loop c) Q Ds env w:=by
 intro a h1 k m;refine zh5 (λg a w=>a.tmps.size=N.n/\∃Ds:zC K,a.defers=Ds.map mkD/\q g Ds (xf a) w) j d ⟨h1,Ds,k,m▸f⟩ ?_;intro g a w ⟨h1,Ds,k,o⟩;refine qO (round g Ds (xf a) w o a h1 k O) ?_;intro e p w' ⟨q1,b,q2,l⟩
 cases e with
 |normal=>have⟨i,o1,o2⟩:=l;exact⟨i,⟨q1,b,q2,o1⟩,o2⟩
 |_=>exact⟨q1,b,q2,l⟩
def Py{c:wr}{x y:vP}(hc:ev env c=.bool I)(h:WpD P N x Q Ds env w):WpD P N (.cond c x y) Q Ds env w:=
 λa h1 d b=>wpIn_cond_true (by rw[tw,b];exact hc)<|h a h1 d b
def S7{c:wr}{x y:vP}(hc:ev env c=.bool yL)(h:WpD P N y Q Ds env w):WpD P N (.cond c x y) Q Ds env w:=
 λa h1 d b=>wpIn_cond_false (by rw[tw,b];exact hc)<|h a h1 d b
end
def zbA{α:Type _}(p:α->ws):∀l:zC α,l.Perm ((l.filter λa=> !p a)++l.filter p)
 |[]=>xdJ _
 |a::l=>by
  have b:=zbA p l;rw[xfu,xfu];cases hp:p a
  ·simpa using b.cons a
  ·simp only[xdG,xaj,wP,wN];exact(b.cons a).trans xcj.symm
def SW{ag ro:zC K}(h:Wq P fr cx σ env w):Bd cx (keep σ ag ro)/\Wq P fr (uI cx<|keep σ ag ro) (rest σ ag ro) env w:=by
 have⟨a,vs,c⟩:=h;have b:Bd cx (keep σ ag ro):=⟨λe he=>a.o1 e (xcf.1 he).1,a.o2,λe he=>a.r1 e (xcf.1 he).1,a.r2⟩;refine⟨b,⟨λe he=>a.o1 e (xcf.1 he).1,λe he=> ?_,λe he=>a.r1 e (xcf.1 he).1,λe he=> ?_⟩,vs,?_⟩
 ·obtain he|he:=pN.1 he
  ·exact b.o1 e he
  ·exact b.o2 e he
 ·obtain he|he:=pN.1 he
  ·exact b.r1 e he
  ·exact b.r2 e he
 ·have hp:(OS vs fr cx σ.ob).Perm (OS vs fr (uI cx<|keep σ ag ro) (rest σ ag ro).ob):=by
   show List.Perm (MS vs σ.ob++(MS vs cx.ob++fr.F)) (MS vs (rest σ ag ro).ob++(MS vs ((keep σ ag ro).ob++cx.ob)++fr.F));have e:MS vs (rest σ ag ro).ob++(MS vs ((keep σ ag ro).ob++cx.ob)++fr.F)=(MS vs (rest σ ag ro).ob++MS vs (keep σ ag ro).ob)++(MS vs cx.ob++fr.F):=by
    rw[show MS vs ((keep σ ag ro).ob++cx.ob)=MS _ _++MS _ _ from xaU];simp_all
   rw[e];refine xeZ _ ?_;have:=(zbA (λe:K×Od=>Bt (zbc σ ro) e.1) σ.ob).map<|bH vs;rw[xaU]at this;exact this
  refine(St.perm c hp).sub' ?_;intro f hf;obtain hf|hf:=pN.1 hf
  ·obtain⟨e,he,rfl⟩:=xan.1 hf;exact pN.2 (.inl<|xan.2 ⟨e,(xcf.1 he).1,O⟩)
  ·obtain hf|hf:=pN.1 hf
   ·obtain⟨e,he,rfl⟩:=xan.1 hf;obtain he|he:=pN.1 he
    ·exact pN.2 (.inl<|xan.2 ⟨e,(xcf.1 he).1,O⟩)
    ·exact pN.2 (.inr<|pN.2 (.inl<|xan.2 ⟨e,he,O⟩))
   ·exact pN.2 (.inr<|pN.2 (.inr hf))
end
end
section
def nF(l:K)(r:Z2):MF where
 blk k:=k=l
 p _ w:=w.heap[l]? =Z (.loop r)
 keep h _ a:=(a l O).trans h
 sub h _:=h
 lt h k b:=by subst b;exact(xbd.1 h).1
def mFF(Γ:N FF):MF where
 blk _:=jN
 p S w:=zK S Γ w
 keep h k _:=zK.keep k h
 sub h k:=zK.sub k h
 lt _ _ a:=a.elim
section
variable{we:xN}{Se:zV->Prop}{ms:zC MF}{Γ Δ:zC FF}{w:xN}
theorem St.ffIn(h:St we Se ms (Δ++Γ) w):St we Se (mFF Δ::ms) Γ w:=by
 have⟨h1,c,d,S,e,f,i,g,b⟩:=h;refine⟨h1,c,⟨λk a=>a.elim,d⟩,S,e,f,λm hm k a=> ?_,⟨zK.left b,g⟩,zK.right b⟩;obtain rfl|hm:=PQ.1 hm
 ·exact a.elim
 ·grind
def St.ffOut(h:St we Se (mFF Δ::ms) Γ w):St we Se ms (Δ++Γ) w:=by
 have⟨h1,b,c,S,d,e,f,a,g⟩:=h;exact⟨h1,b,c.2,S,d,e,λm i=>f m<|kE _ i,a.2,zK.append a.1 g⟩
theorem St.putObj{l:K}{m m':MF}{o:Obj}(h:St we Se (m::ms) Γ w)(b:∀k,m.blk k↔k=l)(n:∀k,m'.blk k->k=l)(hp:∀S w',w'.heap[l]? =Z o->m'.p S w'):St we Se (m'::ms) Γ (w.putObj l o):=by
 have⟨h1,q,d,S,r,s,t,i,u⟩:=h;have hl:=t m (Qh) l<|(b l).2 O;have v:=xd.lt i m (Qh) l<|(b l).2 O;have hd:(w.putObj l o).heap.size=w.heap.size:=World.putObj_size;have f:∀k,k≠l->(w.putObj l o).heap[k]? =w.heap[k]? :=λk a=>World.putObj_heap_other a;have a:yO S w (w.putObj l o):=⟨O,O,O,Nat.le_of_eq hd.symm,λk _ g=>f k λe=>hl.1<|e▸g⟩;have x:dN we (w.putObj l o):=⟨h1.os,h1.tape,h1.output,PX h1.size<|Nat.le_of_eq hd.symm,λk a g=>(f k λe=>by lia).trans<|h1.block k a g⟩;refine⟨x,q,⟨λk a c hc=>d.1 k ((b k).2<|n k a) c hc,d.2⟩,S,r,λk a=>s k (by rw[hd]at a;exact a),λc hc k j=> ?_,⟨hp S _<|World.putObj_heap_same v,xd.keep a (λc hc k j=>f k λe=> ?_) i.2⟩,zK.keep a u⟩
 ·grind
 ·subst e;exact d.1 k ((b k).2 O) c hc j
theorem St.allocObj{o:Obj}{m:MF}(h:St we Se ms Γ w)(f:∀k,m.blk k->k=w.heap.size)(hp:∀S w',w'.heap[w.heap.size]? =Z o->m.p S w'):St we Se (m::ms) Γ (w.alloc o):=by
 have⟨h1,j,l,S,n,q,g,i,r⟩:=h;have s:(w.alloc o).heap.size=w.heap.size+1:=World.size_alloc ..;have qk:∀k,k<w.heap.size->(w.alloc o).heap[k]? =w.heap[k]? :=λk a=>by
  show(w.heap.push o)[k]? =_;grind
 have hd:(w.alloc o).heap[w.heap.size]? =Z o:=World.alloc_heap_new w o;let e:K->Prop:=λk=>S k/\k≠w.heap.size
 have a:yO e w (w.alloc o):=⟨O,O,O,W,λk a _=>qk k a⟩;have hc:∀k,k<w.heap.size->S k->e k:=λk a b=>⟨b,W⟩;refine⟨⟨h1.os,h1.tape,h1.output,by have:=h1.size;lia,λk a b=>(qk k<|xah a h1.size).trans<|h1.block k a b⟩,j,⟨λk a d hm2 c=> ?_,l⟩,e,λk a=>n k a.1,λk a=>⟨q k W,W⟩,λd hm2 k c=> ?_,⟨hp _ _ hd,xd.keep a (λd hm2 k c=>qk k<|xd.lt i d hm2 k c)<|xd.sub hc i⟩,zK.keep a<|zK.sub hc r⟩
 ·grind
 ·obtain rfl|hm2:=PQ.1 hm2
  ·exact⟨λb=>b.2<|f k c,by have:=f k c;have:=h1.size;lia⟩
  ·exact⟨λb=>(g d hm2 k c).1 b.1,(g d hm2 k c).2⟩
end
section
variable{P:ww}{cf:Cf}{fr:Fr}{cx kp σ:Sg}{vs vs':zV->xn}{env env':xt}{w:xN}
def zc6{cx σ:Sg}(h:Bd cx σ):Bd (uI cx σ) ⟨σ.nx,[],[]⟩where
 o1:=λ_ he=>wl he QT
 o2:=λe he=>by
  obtain he|he:=pN.1 he
  ·exact h.o1 e he
  ·exact h.o2 e he
 r1:=λ_ he=>wl he QT
 r2:=λe he=>by
  obtain he|he:=pN.1 he
  ·exact h.r1 e he
  ·exact h.r2 e he
def Gj(f:TF)(v u:xn):Prop:=match f with
 |.own _ _=>v=u
 |.var _ _=>v=u/\∃b,v=.pointer (Z ⟨b,0,yD⟩)
 |.mat _ _ _=>v=yY u
 |.bo _ _ _=>v=yY u
 |_=>jN
def cX(ds:N (K×TF))(env:xt)(U:K->xn):Prop:=∀(j t:K) (f:TF),ds[j]? =Z (t,f)->Gj f (env t) (U j)
def zb9:∀{ds:N (K×TF)},nG ds=I->∀(j t:K) (f:TF),ds[j]? =Z (t,f)->(∃s E,f=.own s E)\/(∃s E,f=.var s E)\/(∃s E F,f=.mat s E F)\/(∃s E F,f=.bo s E F)
 |[],_,j,t,f,h=>by simp at h
 |(b,f')::ds,a,0,t,f,h=>by
  simp only[xbU,xao,xcZ]at h;obtain⟨rfl,rfl⟩:=h;cases f'<;>simp only[nG,xaj]at a
  ·simp_all
  ·simp_all
  ·simp_all
  ·simp_all
 |(b,f')::ds,a,j+1,t,f,h=>by
  refine zb9 (ds:=ds) ?_ j t f (by simpa using h);cases f'<;>simp only[nG,xaj]at a<;>exact a
def zeG{ds:N (K×TF)}(b:nG ds=I):∀a∈ds,∀j,SR a.2=Z j->j<X ds:=λa c j e=>by
 have⟨i,hi⟩:=xfl.1 c;rcases zb9 b i a.1 a.2 hi with⟨_,_,h⟩|⟨_,_,h⟩|⟨_,_,_,h⟩|⟨_,_,_,h⟩<;>rw[h]at e<;>cases e
def zjx{U:K->xn}{S:K->Prop}:∀{ds:N (K×TF)}{x:Ua ds}{i:K},(∀(j t:K) (f:TF),ds[j]? =Z (t,f)->Gj f (env t) (U<|i+j))->zK S (dsF U env ds x i) w
 |[],_,_,_=>trivial
 |[(t,f)],x,i,h=>by
  have h0:=h 0 t f O;refine⟨?_,xS⟩;cases f<;>first|exact h0|exact h0.elim
 |(t,f)::b::l,x,i,h=>by
  have h0:=h 0 t f O;refine⟨?_,zjx λj t f a=>by
   have:=h (j+1) t f (by simpa using a);rw[(W:i+1+j=i+(j+1))];exact this⟩
  cases f<;>first|exact h0|exact h0.elim
def zpE{n0:K}:∀{ds:N (K×TF)}{x:Ua ds}{o j t:K}{f:TF},ds[j]? =Z (t,f)->∃y:f.D,(t,0,(zaL n0 (o+j) f y).1)∈(AB n0 ds x o).1
 |[],_,_,_,_,_,h=>by simp at h
 |[(a,f')],x,o,0,t,f,h=>by
  obtain⟨rfl,rfl⟩:=h;exact⟨x,Qh⟩
 |[(a,f')],x,o,j+1,t,f,h=>by simp at h
 |(a,f')::b::l,x,o,0,t,f,h=>by
  obtain⟨rfl,rfl⟩:=h;exact⟨x.1,Qh⟩
 |(a,f')::b::l,x,o,j+1,t,f,h=>by
  obtain⟨y,c⟩:=zpE (by simpa using h);rw[(W:o+1+j=o+(j+1))]at c;exact⟨y,kE _ c⟩
def zm1{ds:N (K×TF)}{x:Ua ds}{n:K}{S:K->Prop}(c:nG ds=I)(h:zK S (RS P vs env (AB n ds x n).1) w):cX ds env λj=>vs (n+j):=by
 intro j t f a;obtain⟨y,d⟩:=zpE a;have:=ef h d;rcases zb9 c j t f a with⟨_,_,rfl⟩|⟨_,_,rfl⟩|⟨_,_,_,rfl⟩|⟨_,_,_,rfl⟩
 ·exact this
 ·obtain⟨h1,b,e⟩:=this;exact⟨h1,b,h1.trans e⟩
 ·exact this
 ·exact this
def zsG{ds:N (K×TF)}{x:Ua ds}(b:nG ds=I)(o1:∀e∈kp.ob,e.1<kp.nx+X ds)(o2:∀e∈cx.ob,e.1<kp.nx+X ds)(r1:∀e∈kp.rg,∀o,qd e.2.2=Z o->o<kp.nx+X ds)(r2:∀e∈cx.rg,∀o,qd e.2.2=Z o->o<kp.nx+X ds):Bd cx (eR ⟨ds,[]⟩ x kp):=by
 refine⟨λe he=> ?_,o2,λe he p hp=> ?_,r2⟩
 ·obtain he|he:=pN.1 he
  ·exact(zhT e he).2
  ·exact o1 e he
 ·have a:∀e∈(AB kp.nx ds x kp.nx).1,∀p,qd e.2.2=Z p->p<kp.nx+X ds:=λe he p hp=>by
   rcases zcr (zeG b) e he p hp with h|h<;>exact h
  obtain he|he:=pN.1 he
  ·obtain he|he:=pN.1 he
   ·exact a e he p hp
   ·exact a e he p hp
  ·exact r1 e he p hp
def znA{ds:N (K×TF)}{x:Ua ds}(d:nG ds=I)(hc:cX ds env λj=>vs<|kp.nx+j)(e:Bd cx (eR ⟨ds,[]⟩ x kp))
 (hd:St fr.we fr.Se (Kd (λj=>vs<|kp.nx+j) ds x 0++(MS vs kp.ob++(MS vs cx.ob++fr.F))) (RS P vs env kp.rg++(RS P vs env cx.rg++fr.G)) w):Wq P fr cx (eR ⟨ds,[]⟩ x kp) env w:=by
 refine⟨e,vs,?_⟩;have b:∀j,j<X ds->vs (kp.nx+j)=(λj=>vs<|kp.nx+j) (0+j):=λj _=>by simp only[xaF]
 have e1:OS vs fr cx (eR ⟨ds,[]⟩ x kp).ob=Kd (λj=>vs<|kp.nx+j) ds x 0++(MS vs kp.ob++(MS vs cx.ob++fr.F)):=by
  show MS vs ((AB kp.nx ds x kp.nx).2++kp.ob)++(MS vs cx.ob++fr.F)=_;rw[show MS vs ((AB kp.nx ds x kp.nx).2++kp.ob)=MS vs (AB kp.nx ds x kp.nx).2++MS vs kp.ob from xaU,zcy (U:=λj=>vs<|kp.nx+j) b,xal]
 show St _ _ (OS vs fr cx (eR ⟨ds,[]⟩ x kp).ob) _ _;rw[e1];refine hd.weak λS w a=> ?_;have c:zK S (RS P vs env (AB kp.nx ds x kp.nx).1) w:=zhu (λj _=>O) (zeG d) b (zjx λj t f g=>by rw[xaF];exact hc j t f g);show zK S (RS P vs env (((AB kp.nx ds x kp.nx).1++(AB kp.nx ds x kp.nx).1)++kp.rg)++(RS P vs env cx.rg++fr.G)) w;rw[rJ,rJ];exact zK.append (zK.append (zK.append c c)<|zK.left a)<|zK.right a
def zjj{ds:N (K×TF)}{x:Ua ds}{n:K}(d:nG ds=I)(e:Wq P fr cx (eR ⟨ds,[]⟩ x ⟨n,[],[]⟩) env w):∃vs,cX ds env (λj=>vs<|n+j)/\Bd cx (eR ⟨ds,[]⟩ x ⟨n,[],[]⟩)/\St fr.we fr.Se (Kd (λj=>vs<|n+j) ds x 0++(MS vs cx.ob++fr.F)) (RS P vs env cx.rg++fr.G) w:=by
 have⟨f,vs,b⟩:=e;have⟨S,_,a⟩:=b.ex;have h1:zK S (RS P vs env<|((AB n ds x n).1++(AB n ds x n).1)++[]) w:=zK.left a;rw[rJ,rJ]at h1;refine⟨vs,zm1 d<|zK.right<|zK.left h1,f,?_⟩;have e1:OS vs fr cx (eR ⟨ds,[]⟩ x ⟨n,[],[]⟩).ob=Kd (λj=>vs<|n+j) ds x 0++(MS vs cx.ob++fr.F):=by
  show MS vs ((AB n ds x n).2++[])++(MS vs cx.ob++fr.F)=_;rw[xbN,zcy (U:=λj=>vs<|n+j) (i:=0) λj _=>by simp only[xaF]]
 have c:St fr.we fr.Se (OS vs fr cx (eR ⟨ds,[]⟩ x ⟨n,[],[]⟩).ob) (GS P vs env fr cx<|eR ⟨ds,[]⟩ x ⟨n,[],[]⟩) w:=b;rw[e1]at c;exact c.weak λS w h=>zK.right h
def zeS{U:K->xn}{a:K×TF}:∀{l:N (K×TF)}{y:a.2.D}{x:Ua l}{i:K},Kd U (a::l) (zbU y x) i=tfM a.2 y (U i)++Kd U l x (i+1)
 |[],y,x,i=>by show tfM a.2 y (U i)=_++[];rw[xbN]
 |_::_,y,x,i=>rfl
def s9{U V:K->xn}:∀{l:N (K×TF)}{x:Ua l}{i k:K},(∀j,j<X l->U (i+j)=V (k+j))->Kd U l x i=Kd V l x k
 |[],_,_,_,_=>rfl
 |[a],x,i,k,h=>by
  have h0:U i=V k:=h 0 Xn;show tfM a.2 x (U i)=tfM a.2 x (V k);rw[h0]
 |a::b::l,x,i,k,h=>by
  have h0:U i=V k:=h 0 Xn;show tfM a.2 x.1 (U i)++Kd U (b::l) x.2 (i+1)=tfM a.2 x.1 (V k)++Kd V (b::l) x.2 (k+1);rw[h0,s9 (k:=k+1) λj c=>by
   have:=h (j+1) (by simpa using c);rw[(W:i+1+j=i+(j+1)),(W:k+1+j=k+(j+1))];exact this]
def zmT{a:K×TF}:∀{l:N (K×TF)} (z:Ua (a::l)),z=zbU (AO z).1 (AO z).2
 |[],_=>rfl
 |_::_,_=>rfl
def zd3{we:xN}{Se:K->Prop}{A B:N MF}{G:N FF}{l:K}{m m':MF}{o:Obj}(h:Wq P ⟨we,Se,A++m::B,G⟩ cx σ env w)(a:∀k,m.blk k↔k=l)(b:∀k,m'.blk k->k=l)(hp:∀S w',w'.heap[l]? =Z o->m'.p S w'):Wq P ⟨we,Se,A++m'::B,G⟩ cx σ env (w.putObj l o):=by
 have⟨c,vs,hc⟩:=h;refine⟨c,vs,?_⟩;have h1:St we Se ((MS vs σ.ob++(MS vs cx.ob++A))++m::B) (GS P vs env ⟨we,Se,A++m::B,G⟩ cx σ) w:=by simp_all
 have d:=St.putObj (St.mid h1) a b hp;have e:=d.perm xcj.symm;simp_all
theorem zmB{n:K}{S:K->Prop}:∀{ds:N (K×TF)}{i:K},nG ds=I->(∀(j t:K) (f:TF),ds[j]? =Z (t,f)->Gj f (env t) (vs<|n+(i+j)))->zK S (RS P vs env<|LJ ds<|n+i) w
 |[],_,_,_=>trivial
 |(t,f)::r,i,a,h=>by
  have h0:=h 0 t f O;have b:nG r=I->zK S (RS P vs env<|LJ r<|n+i+1) w:=λa=>zmB a λj t f c=>by
   have:=h (j+1) t f (by simpa using c);grind
  cases f<;>simp only[nG,xaj]at a
  ·exact⟨h0,b a⟩
  ·exact⟨h0.1,b a⟩
  ·exact⟨h0,b a⟩
  ·exact⟨h0,b a⟩
theorem zf7:∀{ds:N (K×TF)}{n:K},∀e∈LJ ds n,∀o,qd e.2.2=Z o->o<n+X ds
 |[],_,e,he=>wl he QT
 |(t,f)::r,n,e,he=>by
  intro o a;have b:e∈LJ r (n+1)->o<n+X ((t,f)::r):=λhe=>by
   have:=zf7 e he o a;grind
  cases f<;>obtain rfl|he:=PQ.1 he<;>first|exact b he|(cases a;simp only[xar];lia)
def PA:∀{ds:N (K×TF)}{n j t:K}{f:TF},ds[j]? =Z (t,f)->∃e∈LJ ds n,e.1=t
 |[],_,_,_,_,h=>by simp at h
 |(a,f')::r,n,0,t,f,h=>by
  obtain⟨rfl,rfl⟩:=h;cases f'<;>exact⟨_,Qh,O⟩
 |(a,f')::r,n,j+1,t,f,h=>by
  obtain⟨e,b,h1⟩:=PA (by simpa using h);cases f'<;>exact⟨e,kE _ b,h1⟩
def zr9{a:K×TF}{ds:N (K×TF)}(h:zms (a::ds)=I){j t:K}{f:TF}(b:ds[j]? =Z (t,f)):t≠a.1:=by
 simp only[zms,zn6,Th,xaS]at h;have:=h.1 (t,f)<|xbI b;intro e;simp_all
end
end
section
def za7(P:ww)(cf:Cf)(n:zV)(c:vP):Prop:=∀{R:Type}{r:R}{fr:Fr}{cx σ:Sg}{K:Tg->Sg->V R}{Q:Qd}{N:Nd},N.n=n->(N.rd=yD\/noR c=I)->Az cf c cx σ K=Z r->∀{Ds:zC zV}{env:xt}{w:xN},
 (∀t σ',K t σ'=Z r->∀b a w',Eb cx env a->Wq P (fr.wd b) cx σ' a w'->Q (tgE t) b a w')->Wq P (fr.wd Ds) cx σ env w->WpD P N c Q Ds env w
def zxe:xn->N xn
 |.tuple us=>us.toList
 |_=>[]
def WA(u:xn)(k:K):xn:=(zxe u).getD k wR
def zgP(vs:K->xn)(m:K):xn:=.tuple ((xaE m).map vs).toArray
def zrO{vs:K->xn}{m k:K}(h:k<m):WA (zgP vs m) k=vs k:=by
 simp[WA,zgP,zxe,h]
def tgC:Tg->vP
 |.n=> .skip
 |.x i=> .exit i
 |.r=> .ret
section
variable{P:ww}{cf:Cf}{fr:Fr}{cx cx' kp σ:Sg}{vs vs':zV->xn}{env env':xt}{w:xN}{we:xN}{Se:zV->Prop}{F:zC MF}{G:zC FF}{n D l:zV}{ds:zC (zV×TF)}{x:Ua ds}{u:xn}{rc:Z2}
def zlJ(P:ww)(env:xt)(cx':Sg)(n:K)(ds:N (K×TF))(D l:K)(rc:Z2)(x:Ua ds)(u:xn):MF:=
 PG (mPr (cX ds env λj=>WA u<|n+j)::mFF (RS P (WA u) env cx'.rg)::nF l rc::ja D::(Kd (λj=>WA u<|n+j) ds x 0++MS (WA u) cx'.ob))
def zki(h:St we Se (zlJ P env cx' n ds D l rc x u::F) G w):cX ds env (λj=>WA u<|n+j)/\St we Se (nF l rc::ja D::(Kd (λj=>WA u<|n+j) ds x 0++(MS (WA u) cx'.ob++F))) (RS P (WA u) env cx'.rg++G) w:=by
 have⟨h1,a⟩:=St.unpr<|St.grp.1 h;have b:=St.ffOut (show St we Se (mFF (RS P (WA u) env cx'.rg)::(nF l rc::ja D::(Kd (λj=>WA u<|n+j) ds x 0++MS (WA u) cx'.ob)++F)) G w from a);simp_all
def zl3(d:cX ds env λj=>vs<|n+j)(a:∀e∈cx'.ob,e.1<n)(g:∀e∈cx'.rg,∀o,qd e.2.2=Z o->o<n)(h:St we Se (nF l rc::ja D::(Kd (λj=>vs<|n+j) ds x 0++(MS vs cx'.ob++F))) (RS P vs env cx'.rg++G) w):
 St we Se (zlJ P env cx' n ds D l rc x (zgP vs<|n+X ds)::F) G w:=by
 have e0:∀k,k<n+X ds->WA (zgP vs<|n+X ds) k=vs k:=λk i=>zrO i;have e1:RS P (WA<|zgP vs<|n+X ds) env cx'.rg=RS P vs env cx'.rg:=Xb (λe b o a=>e0 o (by have:=g e b o a;lia)) λ_ _=>O;have m:MS (WA<|zgP vs<|n+X ds) cx'.ob=MS vs cx'.ob:=vc λe b=>e0 e.1 (by have:=a e b;lia);have p:Kd (λj=>WA (zgP vs<|n+X ds)<|n+j) ds x 0=Kd (λj=>vs<|n+j) ds x 0:=s9 λj c=>e0 _ W;refine St.grp.2<|St.pr ?_ ?_
 ·intro j t f c;have:=(xav.1 c).1;show Gj f (env t) (WA (zgP vs<|n+X ds)<|n+j);rw[e0 _ W];exact d j t f c
 ·have q:St we Se (mFF (RS P vs env cx'.rg)::(nF l rc::ja D::(Kd (λj=>vs<|n+j) ds x 0++MS vs cx'.ob)++F)) G w:=St.ffIn (by simpa only[xbJ,xal]using h);simp_all
def zb3{m:MF}{p:Prop}(h:Wq P fr cx σ env w)(a:m∈fr.F)(hp:∀S,m.p S w->p):p:=by
 have⟨_,vs,_,_,_,S,_,_,_,b,_⟩:=h;exact hp S<|Y9.1 b m<|pN.2 (.inr<|pN.2 (.inr a))
def zq6{it:TZ}{pt:zV}{τ:Tg}{a c:vP}{N:zV}{fn:vi}{tmps:wL xn}(hA:za7 P cf N a)(hC:za7 P cf N c)(hV:noR a=I)(hW:noR c=I)(c3:pt<N)(hX:tmps.size=N)(hN:xf ⟨tmps,[]⟩=env)(hm:nG ds=I)
 (hY:zms (ZB pt it.t it.E ds).ds=I) (hH:KS cx'.rg pt=I) (ho:∀e∈cx'.ob,e.1<n) (hr:∀e∈cx'.rg,∀o,qd e.2.2=Z o->o<n):
 ze3 P l it.t.rep it.E (λx u=>zlJ P env cx' n ds D l {state:=.ready,pending:=yD,fn:=fn,tmps:=tmps,params:= #[pt],assign:=a,body:=c,defers:=D} x u)
  (λx u=>zlJ P env cx' n ds D l {state:=.done,pending:=Z<|tgC τ,fn:=fn,tmps:=tmps,params:= #[pt],assign:=a,body:=c,defers:=D} x u)
  (zxb cx' n ds it.t it.E pt τ (λcx σ K=>Az cf a cx σ K) λcx σ K=>Az cf c cx σ K):=by
 have⟨H,hg⟩:∃H:Z2,H={state:=.ready,pending:=yD,fn:=fn,tmps:=tmps,params:= #[pt],assign:=a,body:=c,defers:=D}:=⟨_,O⟩;have⟨J,hF⟩:∃J:Z2,J={H with state:=.busy}:=⟨_,O⟩;rw[<-hg];intro ys x T q hq v u we Se F G w hZ;have⟨h0,h1⟩:=zki hZ;have hl:w.heap[l]? =Z (.loop H):=wZ h1 (i:=0) O λS hp=>hp;have hy:=run_yield (P:=P) (args:= #[v]) hl (by rw[hg];rfl);refine⟨fn,tmps.setIfInBounds pt v,a,c,by rw[hg]at hy;simpa using hy,roundIn_of_wpIn xS ?_⟩;have⟨sh,hv⟩:∃sh,sh=ZB pt it.t it.E ds:=⟨_,O⟩;have c2:X sh.ds=X ds+1:=by rw[hv];rfl
 have hG:nG sh.ds=I:=by rw[hv];exact hm
 have⟨cp,L⟩:∃cp,cp=cpR cx' n sh:=⟨_,O⟩;have hO:∀{j t:zV}{f:TF},ds[j]? =Z (t,f)->t≠pt:=λR=>zr9 (a:=(pt,.own it.t it.E)) hY R;have⟨b,hi⟩:∃b,b=put env (some pt) v:=⟨_,O⟩;have a3:b pt=v:=by rw[hi];exact Px
 have a0:∀t,t≠pt->b t=env t:=λt ht=>by rw[hi];exact Ca<|λe=>ht<|by cases e;rfl
 have a4:∀e∈cx'.rg,b e.1=env e.1:=λe he=>a0 e.1 λh=>by
  simp only[KS,xaS]at hH;have:=hH e he;rw[h]at this;simp at this
 have⟨g,hx⟩:∃g:zV->xn,g=λk=>if k<n then WA u k else if k=n then v else WA u (k-1):=⟨_,O⟩;have a5:∀k,k<n->g k=WA u k:=λk hk=>by rw[hx];exact iq hk
 have b2:g n=v:=by rw[hx];simp
 have a9:∀j,g (n+(j+1))=WA u (n+j):=λj=>by
  rw[hx];simp only;rw[zA,zA,(W:n+(j+1)-1=n+j)]
 have hI:cX sh.ds b λj=>g (n+j):=by
  rw[hv];intro j t f R
  cases j with
  |zero=>
   simp only[ZB,xbU,xao,xcZ]at R;obtain⟨rfl,rfl⟩:=R;show b pt=g (n+0);rw[a3,xbM,b2]
  |succ j=>
   have R:ds[j]? =Z (t,f):=by simpa[ZB]using R
   show Gj f (b t) (g<|n+(j+1));rw[a9,a0 t<|hO R];exact h0 j t f R
 have hB:Bd cp ⟨n+X sh.ds,[],[]⟩:=by
  rw[L];refine⟨λ_ he=>wl he QT,λe he=> ?_,λ_ he=>wl he QT,λe he o hd=> ?_⟩
  ·have:=ho e he;show e.1<n+_;lia
  ·show o<n+_;rcases pN.1 (show e∈LJ sh.ds n++cx'.rg from he)with he|he
   ·exact zf7 e he o hd
   ·have:=hr e he o hd;lia
 have h9:Wq P (Fr.wd ⟨we,Se,nF l H::ja D::F,G⟩ []) cp (eR sh (hv▸zbU (a:=(pt,.own it.t it.E)) ys x) ⟨n,[],[]⟩) b w:=by
  subst hv;refine znA (vs:=g) (kp:=⟨n,[],[]⟩) hG hI (zsG hG (λ_ he=>wl he QT) (λe he=>hB.o2 e he) (λ_ he=>wl he QT) λe he o hd=>hB.r2 e he o hd) ?_;have e1:Kd (λj=>g<|n+j) (ZB pt it.t it.E ds).ds (zbU (a:=(pt,.own it.t it.E)) ys x) 0=mO it.t.rep it.E v ys::Kd (λj=>WA u<|n+j) ds x 0:=by
   refine(zeS (U:=λj=>g<|n+j) (a:=(pt,.own it.t it.E)) (l:=ds) (y:=ys) (x:=x) (i:=0)).trans ?_;show mO it.t.rep it.E (g<|n+0) ys::Kd _ ds x (0+1)=_;rw[xbM,b2,s9 (U:=λj=>g<|n+j) (V:=λj=>WA u<|n+j) (i:=0+1) (k:=0) λj _=>by
    show g (n+(0+1+j))=WA u (n+(0+j));rw[(W:0+1+j=j+1),a9,xaF]]
  have e2:MS g cp.ob=MS (WA u) cx'.ob:=by rw[L];exact vc λe he=>a5 _<|ho e he
  show St we Se (Kd (λj=>g<|n+j) (ZB pt it.t it.E ds).ds (zbU (a:=(pt,.own it.t it.E)) ys x) 0++([]++(MS g cp.ob++([]++(nF l H::ja D::F))))) ([]++(RS P g b cp.rg++G)) w;rw[e1,e2];have h2:St we Se (mO it.t.rep it.E v ys::Kd (λj=>WA u<|n+j) ds x 0++([]++(MS (WA u) cx'.ob++([]++(nF l H::ja D::F))))) (RS P (WA u) env cx'.rg++G) w:=by
   refine h1.perm ?_;simp only[xbF,xbJ];have p1:(nF l H::ja D::(Kd (λj=>WA u<|n+j) ds x 0++(MS (WA u) cx'.ob++mO it.t.rep it.E v ys::F))).Perm (mO it.t.rep it.E v ys::(nF l H::ja D::(Kd (λj=>WA u<|n+j) ds x 0++(MS (WA u) cx'.ob++F)))):=by
    have:=xcj (a:=mO it.t.rep it.E v ys) (l₁:=nF l H::ja D::(Kd (λj=>WA u<|n+j) ds x 0++MS (WA u) cx'.ob)) (l₂:=F);simpa only[xbJ,xal]using this
   refine p1.trans<|List.Perm.cons _ ?_;have p2:([nF l H,ja D]++((Kd (λj=>WA u<|n+j) ds x 0++MS (WA u) cx'.ob)++F)).Perm ((Kd (λj=>WA u<|n+j) ds x 0++MS (WA u) cx'.ob)++([nF l H,ja D]++F)):=xdO ..;simpa only[xbJ,xal,xbF]using p2
  refine h2.weak (Δ:=RS P g b cp.rg++G) λS w ha=>zK.append ?_<|zK.right ha;rw[L];show zK S (RS P g b<|LJ (ZB pt it.t it.E ds).ds n++cx'.rg) w;rw[rJ];refine zK.append (zmB (i:=0) hG λj t f R=>by rw[xaF];exact hI j t f R) ?_;rw[Xb (vs:=WA u) (env:=env) (λe he o hd=>a5 o<|hr e he o hd) a4];exact zK.left ha
 have⟨N1,hw⟩:∃N1:Nd,N1=⟨N,[],some l⟩:=⟨_,O⟩;have hP:(⟨tmps.setIfInBounds pt v,[]⟩:kg).tmps.size=N1.n:=by rw[hw];simpa using hX
 have hQ:xf ⟨tmps.setIfInBounds pt v,[]⟩=b:=by
  have:=Qj (a:=⟨tmps,[]⟩) (d:=Z pt) (v:=v) (λt ht=>by cases ht;show pt<tmps.size;lia);rw[hi,<-hN];exact this
 subst hv
 have h':=hA (N:=N1) (fr:=⟨we,Se,nF l H::ja D::F,G⟩) (Ds:=[]) (by rw[hw]) (.inr hV) (show Az cf a cp _ _=Z (T,q)from by rw[L];exact hq)
  (Q:=λe Y env' w'=>e=.normal/\∃σ',Az cf c cp σ' (zuX cp ds it.t it.E pt τ)=Z (T,q)/\Eb cp b env'/\Wq P (Fr.wd ⟨we,Se,nF l H::ja D::F,G⟩ Y) cp σ' env' w')
  (λt σ' hk Y env' w' hs hR=>by
   cases t with
   |n=>exact⟨O,σ',by rw[L];exact hk,hs,hR⟩
   |x i=>cases hk
   |r=>cases hk) h9
 have hS:=h' ⟨tmps.setIfInBounds pt v,[]⟩ hP O hQ;rw[hw]at hS;refine qO hS ?_;rintro e a1 w1 ⟨q1,Y,q2,rfl,σ',hk,hs,hR⟩;have b3:w1.heap[l]? =Z (.loop H):=zb3 hR (m:=nF l H) (pN.2 (.inr<|Qh)) λS hp=>hp;refine⟨w1.putObj l (.loop J),by rw[hF];exact run_beginRound b3 (by rw[hg]),?_⟩;have b4:Wq P (Fr.wd ⟨we,Se,nF l J::ja D::F,G⟩ Y) cp σ' (xf a1) (w1.putObj l (.loop J)):=zd3 (A:=Y.map ja) (m:=nF l H) (m':=nF l J) (B:=ja D::F) hR (λk=>Iff.rfl) (λk h=>h) λS w' h=>h
 have b5:=hC (N:=N1) (fr:=⟨we,Se,nF l J::ja D::F,G⟩) (Ds:=Y) (by rw[hw]) (.inr hW) hk
  (Q:=λe s env' w'=>∃t C,e=tgE t/\zuX cp ds it.t it.E pt τ t C=Z (T,q)/\Eb cp (xf a1) env'/\Wq P (Fr.wd ⟨we,Se,nF l J::ja D::F,G⟩ s) cp C env' w')
  (λt C hk s env' w' hs hR=>⟨t,C,O,hk,hs,hR⟩) b4
 have hT:=b5 a1 (by rw[hw];exact q1) q2 O;rw[hw]at hT;refine qO hT ?_;rintro e a2 w2 ⟨p1,s,p2,t,C,rfl,hc,b6,hn⟩;have hL:w2.heap[l]? =Z (.loop J):=zb3 hn (m:=nF l J) (pN.2 (.inr<|Qh)) λS hp=>hp;have hM:=hs.trans b6
 have M:∀(z:Ua (ZB pt it.t it.E ds).ds) (rc:Z2),Wq P (Fr.wd ⟨we,Se,nF l J::ja D::F,G⟩ s) cp (eR (ZB pt it.t it.E ds) z ⟨n+(ZB pt it.t it.E ds).ds.length,[],[]⟩) (xf a2) w2->
  ∃u',St we Se (zlJ P env cx' n ds D l rc (AO z).2 u'::mO it.t.rep it.E v (AO z).1::F) G (w2.putObj l (.loop rc)):=by
  intro z rc hu;have c0:=zd3 (A:=s.map ja) (m:=nF l J) (m':=nF l rc) (B:=ja D::F) hu (λk=>Iff.rfl) (λk h=>h) (o:=.loop rc) λS w' h=>h;have⟨vs2,hD,c4,hJ⟩:=zjj (ds:=(ZB pt it.t it.E ds).ds) hG c0;have⟨m,c1⟩:∃m,m=n+(ZB pt it.t it.E ds).ds.length:=⟨_,O⟩;rw[<-c1]at hD hJ;have z0:vs2 m=v:=by
   have h2:xf a2 pt=vs2 (m+0):=hD 0 pt (.own it.t it.E) O;have⟨e,he,h3⟩:=PA (ds:=(ZB pt it.t it.E ds).ds) (n:=n) (j:=0) (t:=pt) (f:=.own it.t it.E) O;have h4:=hM e (by rw[L];exact pN.2 (.inl he));rw[h3,a3]at h4;rw[xbM]at h2;exact h2.symm.trans h4
  have⟨p,hK⟩:∃p:zV->xn,p=λk=>if k<n then vs2 k else vs2 (m+1+(k-n)):=⟨_,O⟩;have b0:∀k,k<n->p k=vs2 k:=λk hk=>by rw[hK];exact iq hk
  have b1:∀j,p (n+j)=vs2 (m+(j+1)):=λj=>by
   rw[hK];simp only;rw[zA,(W:m+1+(n+j-n)=m+(j+1))]
  have hU:cX ds env λj=>p (n+j):=by
   intro j t f R;have h2:=hD (j+1) t f (by simpa[ZB]using R);have⟨e,he,h3⟩:=PA (ds:=(ZB pt it.t it.E ds).ds) (n:=n) (j:=j+1) (t:=t) (f:=f) (by simpa[ZB]using R);have h4:=hM e (by rw[L];exact pN.2 (.inl he));rw[h3,a0 t<|hO R]at h4;show Gj f (env t) (p<|n+j);rw[b1,<-h4];exact h2
  refine⟨_,zl3 (F:=mO it.t.rep it.E v (AO z).1::F) hU ho hr ?_⟩;have e1:Kd (λj=>vs2<|m+j) (ZB pt it.t it.E ds).ds z 0=mO it.t.rep it.E v (AO z).1::Kd (λj=>p<|n+j) ds (AO z).2 0:=by
   refine(wF (λz=>Kd (λj=>vs2<|m+j) (ZB pt it.t it.E ds).ds z 0)<|zmT (a:=(pt,.own it.t it.E)) (l:=ds) z).trans ?_;refine(zeS (U:=λj=>vs2<|m+j) (a:=(pt,.own it.t it.E)) (l:=ds) (y:=(AO (a:=(pt,.own it.t it.E)) z).1) (x:=(AO (a:=(pt,.own it.t it.E)) z).2) (i:=0)).trans ?_;show mO it.t.rep it.E (vs2<|m+0) (AO z).1::Kd _ ds (AO z).2 (0+1)=_;rw[xbM,z0,s9 (U:=λj=>vs2<|m+j) (V:=λj=>p<|n+j) (i:=0+1) (k:=0) λj _=>by
    show vs2 (m+(0+1+j))=p (n+(0+j));rw[(W:0+1+j=j+1),xaF,b1]]
  have e2:MS vs2 cp.ob=MS p cx'.ob:=by rw[L];exact vc λe he=>(b0 _<|ho e he).symm
  have h5:St we Se (Kd (λj=>vs2<|m+j) (ZB pt it.t it.E ds).ds z 0++(MS vs2 cp.ob++(s.map ja++nF l rc::ja D::F))) (RS P vs2 (xf a2) cp.rg++G) (w2.putObj l (.loop rc)):=hJ;rw[e1,e2]at h5;have h6:St we Se ((mO it.t.rep it.E v (AO z).1::Kd (λj=>p<|n+j) ds (AO z).2 0++MS p cx'.ob)++(nF l rc::ja D::F)) (RS P vs2 (xf a2) cp.rg++G) (w2.putObj l (.loop rc)):=St.dropM (B:=s.map ja) (by simpa only[xal]using h5);have h7:St we Se (nF l rc::ja D::(Kd (λj=>p<|n+j) ds (AO z).2 0++(MS p cx'.ob++(mO it.t.rep it.E v (AO z).1::F)))) (RS P vs2 (xf a2) cp.rg++G) (w2.putObj l (.loop rc)):=by
   refine h6.perm ?_;have p1:((Kd (λj=>p<|n+j) ds (AO z).2 0++MS p cx'.ob)++([nF l rc,ja D]++F)).Perm ([nF l rc,ja D]++((Kd (λj=>p<|n+j) ds (AO z).2 0++MS p cx'.ob)++F)):=xdO ..;have p2:=xcj (a:=mO it.t.rep it.E v (AO z).1) (l₁:=nF l rc::ja D::(Kd (λj=>p<|n+j) ds (AO z).2 0++MS p cx'.ob)) (l₂:=F);have p3:=(p1.cons<|mO it.t.rep it.E v (AO z).1).trans (by simpa only[xbJ,xal,xbF]using p2.symm);simpa only[xbJ,xal,xbF]using p3
  refine h7.weak λS w ha=>zK.append ?_<|zK.right ha;have h8:zK S (RS P vs2 (xf a2)<|LJ (ZB pt it.t it.E ds).ds n++cx'.rg) w:=by
   have:=zK.left ha;rw[L]at this;exact this
  rw[rJ]at h8;rw[Xb (vs:=vs2) (env:=xf a2) (λe he o hd=>b0 o<|hr e he o hd) λe he=> ?_]
  ·exact zK.right h8
  ·have h4:=hM e (by rw[L];exact pN.2 (.inr he));rw[a4 e he]at h4;exact h4.symm
 cases t with
 |n=>
  have⟨z,hz,hf⟩:=Ie (P:=P) (cx:=cp) (kp:=⟨n+(ZB pt it.t it.E ds).ds.length,[],[]⟩) (show Gw (uI cp ⟨n+(ZB pt it.t it.E ds).ds.length,[],[]⟩) (ZB pt it.t it.E ds) C (λz=>Z ((AO z).1,Sum.inl (AO z).2))=Z (T,q)from by rw[L]at hc⊢;exact hc) hB;cases hz;have hu:=hf (Fr.wd ⟨we,Se,nF l J::ja D::F,G⟩ s) (xf a2) w2 (by rw[L]at hn⊢;exact hn);refine⟨_,_,Z0 yD hL,O,?_⟩;have hE:({J with state:=if(yD:z7 vP).isNone then .ready else .done,pending:=yD}:Z2)=H:=by rw[hF,hg];rfl
  rw[hE];exact M z H hu
 |x i=>
  have⟨ht,hc⟩:=yv hc;have⟨z,hz,hf⟩:=Ie (P:=P) (cx:=cp) (kp:=⟨n+(ZB pt it.t it.E ds).ds.length,[],[]⟩) (show Gw (uI cp ⟨n+(ZB pt it.t it.E ds).ds.length,[],[]⟩) (ZB pt it.t it.E ds) C (λz=>Z ((AO z).1,Sum.inr (AO z).2))=Z (T,q)from by rw[L]at hc⊢;exact hc) hB;cases hz;have hu:=hf (Fr.wd ⟨we,Se,nF l J::ja D::F,G⟩ s) (xf a2) w2 (by rw[L]at hn⊢;exact hn);refine⟨_,_,Z0 (Z (.exit i)) hL,O,?_⟩;have hE:({J with state:=if(Z<|Code.exit i).isNone then .ready else .done,pending:=Z (.exit i)}:Z2)={state:=.done,pending:=Z<|tgC τ,fn:=fn,tmps:=tmps,params:= #[pt],assign:=a,body:=c,defers:=D}:=by rw[hF,hg,zjC ht];rfl
  rw[hE];exact M z _ hu
 |r=>
  have⟨ht,hc⟩:=yv hc;have⟨z,hz,hf⟩:=Ie (P:=P) (cx:=cp) (kp:=⟨n+(ZB pt it.t it.E ds).ds.length,[],[]⟩) (show Gw (uI cp ⟨n+(ZB pt it.t it.E ds).ds.length,[],[]⟩) (ZB pt it.t it.E ds) C (λz=>Z ((AO z).1,Sum.inr (AO z).2))=Z (T,q)from by rw[L]at hc⊢;exact hc) hB;cases hz;have hu:=hf (Fr.wd ⟨we,Se,nF l J::ja D::F,G⟩ s) (xf a2) w2 (by rw[L]at hn⊢;exact hn);refine⟨_,_,Z0 (Z .ret) hL,O,?_⟩;have hE:({J with state:=if(Z Code.ret).isNone then .ready else .done,pending:=Z .ret}:Z2)={state:=.done,pending:=Z<|tgC τ,fn:=fn,tmps:=tmps,params:= #[pt],assign:=a,body:=c,defers:=D}:=by rw[hF,hg,zjC ht];rfl
  rw[hE];exact M z _ hu
end
end
section
section
variable{P:ww}{cf:Cf}{fr:Fr}{cx σ:Sg}{env:xt}{w:xN}{R:Type}{r:R}
def zrm(hX:XOK P cf){g:wr}{a c:vP}{N:Nd}{K:Tg->Sg->V R}{Q:Qd}{s:Lp}{it:TZ}{y:pK it.dom}{τ:Tg}{pt:zV}{ags:zC zV}{cs:zC PD}{Ds:zC zV}
 (hA:za7 P cf N.n a) (hC:za7 P cf N.n c) (hP:noR a=I) (hQ:noR c=I) (hS:N.rd=yD) (hT:pt<N.n) (hg:xT cx σ g=Z (.fn it.f cs)) (hU:it∈cf.is) (hy:nh it.dom cs=Z y) (hv:s.hd.ns=[])
 (h:zhB cx σ K s it y τ pt ags (λcx σ K=>Az cf a cx σ K) (λcx σ K=>Az cf c cx σ K)=Z r)
 (hK:∀t σ',K t σ'=Z r->∀Ds' env' w',Eb cx env env'->Wq P (fr.wd Ds') cx σ' env' w'->Q (tgE t) Ds' env' w') (hR:Wq P (fr.wd Ds) cx σ env w):WpD P N (.rangeFunc g #[pt] a c) Q Ds env w:=by
 obtain⟨⟨ds,ns⟩,sg⟩:=s;simp only at hv;subst hv;obtain⟨h8,hx⟩:=zcZ hy;obtain⟨hB,vs,hz⟩:=hR;obtain⟨S0,_,hΓ⟩:=hz.ex;obtain⟨cvs,hD,h7,h9⟩:=zj hg<|zZ hΓ g;have hV:Wq P ⟨fr.we,fr.Se,Ds.map ja++fr.F,YY P it.dom y cvs++fr.G⟩ cx σ env w:=⟨hB,vs,hz.weak λS w ha=>zK.append (zK.left ha) (zK.append (zK.left<|zK.right ha) (zK.append (by
  obtain⟨cvs',hE,hY,hF⟩:=zj hg<|zZ ha g;rw[hD]at hE;have:cvs=cvs':=by simpa using hE
  subst this;exact hx hY hF) (zK.right (zK.right ha))))⟩
 unfold zhB at h;simp only at h;obtain⟨hi,h⟩:=yv h;simp only[Th]at hi;obtain⟨hm,hZ,hl⟩:=hi;obtain⟨hc,hG⟩:=SW (ag:=ags) (ro:=sg.ro) hV;obtain⟨kp,h0⟩:∃kp,kp=keep σ ags sg.ro:=⟨_,O⟩;rw[<-h0]at h hc hG hl;obtain⟨x0,h1,h2⟩:=Ie (P:=P) (cx:=uI cx kp) (kp:=⟨kp.nx,[],[]⟩) h<|zc6 hc;obtain⟨r',h3,h4⟩:=Gx h1;obtain⟨vs0,hH,h',hI⟩:=zjj (ds:=ds) hm<|h2 _ env w hG;obtain⟨hb,hJ⟩:=hX.is it hU;have ho:∀e∈(uI cx kp).ob,e.1<kp.nx:=λe he=>by
  rcases pN.1 he with he|he
  ·exact hc.o1 e he
  ·exact hc.o2 e he
 have hr:∀e∈(uI cx kp).rg,∀o,qd e.2.2=Z o->o<kp.nx:=λe he o hf=>by
  rcases pN.1 he with he|he
  ·exact hc.r1 e he o hf
  ·exact hc.r2 e he o hf
 intro a0 g1 g2 g3;refine wpIn_rangeFunc ?_;intro fn hfn;rw[show N.F.round=yD from hS];obtain⟨rR,hj⟩:∃rR:Z2,rR={state:=.ready,pending:=yD,fn:=fn,tmps:=a0.tmps,params:= #[pt],assign:=a,body:=c,defers:=w.heap.size}:=⟨_,O⟩;obtain⟨rD,hn⟩:∃rD:Z2,rD={state:=.done,pending:=Z<|tgC τ,fn:=fn,tmps:=a0.tmps,params:= #[pt],assign:=a,body:=c,defers:=w.heap.size}:=⟨_,O⟩;have hL:=run_enterLoop_outer (P:=P) (w:=w) fn a0.tmps #[pt] a c;rw[<-hj]at hL;have hW:St fr.we fr.Se (nF (w.heap.size+1) rR::ja w.heap.size::(Kd (λj=>vs0<|kp.nx+j) ds x0 0++(MS vs0 (uI cx kp).ob++(Ds.map ja++fr.F)))) (RS P vs0 env (uI cx kp).rg++(YY P it.dom y cvs++fr.G)) ((w.alloc (.deferred<|some [])).alloc (.loop rR)):=by
  have q1:=St.allocObj (o:=.deferred<|some []) (m:=ja w.heap.size) hI (λk hk=>hk)<|λS w' hw=>hw;have hM:(w.alloc (.deferred<|some [])).heap.size=w.heap.size+1:=World.size_alloc ..;refine St.allocObj (o:=.loop rR) (m:=nF (w.heap.size+1) rR) q1 (λk hk=>by rw[hM];exact hk)<|λS w' hw=> ?_;rw[hM]at hw;exact hw
 have h5:=zl3 (x:=x0) hH ho hr hW;have hN:=zq6 (P:=P) (cf:=cf) (cx':=uI cx kp) (env:=env) (n:=kp.nx) (D:=w.heap.size) (l:=w.heap.size+1) (ds:=ds) (it:=it) (pt:=pt) (τ:=τ) (a:=a) (c:=c) (N:=N.n) (fn:=fn) (tmps:=a0.tmps) hA hC hP hQ hT g1 g3 hm hZ hl ho hr;rw[<-hj,<-hn]at hN;have hq:=hJ y _ _ _ _ _ x0 r' h3 (w.heap.size+1) cvs (by lia) hN _ fr.we fr.Se _ fr.G _ h5
 have close:∀(rc:Z2) (x:Ua ds) (u':xn) (w3:xN),St fr.we fr.Se (zlJ P env (uI cx kp) kp.nx ds w.heap.size (w.heap.size+1) rc x u'::(Ds.map ja++fr.F)) fr.G w3->
  w3.heap[w.heap.size+1]? =Z (.loop rc)/\∀o,Wq P (fr.wd (w.heap.size::Ds)) cx (eR ⟨ds,[]⟩ x kp) env (w3.putObj (w.heap.size+1) (.loop o)):=by
  intro rc x u' w3 hs;obtain⟨h6,q1⟩:=zki hs;refine⟨wZ q1 (i:=0) O λS hp=>hp,λo=> ?_⟩;have q2:=St.putObj (m':=nF (w.heap.size+1) o) (o:=.loop o) q1 (λk=>Iff.rfl) (λk hk=>hk)<|λS w' hw=>hw;have q3:St fr.we fr.Se ([ja w.heap.size]++(Kd (λj=>WA u'<|kp.nx+j) ds x 0++(MS (WA u') (uI cx kp).ob++(Ds.map ja++fr.F)))) (RS P (WA u') env (uI cx kp).rg++fr.G) (w3.putObj (w.heap.size+1) (.loop o)):=St.drop (i:=0) q2;refine znA (vs:=WA u') hm h6 (zsG hm (λe he=>xah (hc.o1 e he)<|xbt _ _) (λe he=>xah (hc.o2 e he)<|xbt _ _) (λe he o hf=>xah (hc.r1 e he o hf)<|xbt _ _) λe he o hf=>xah (hc.r2 e he o hf)<|xbt _ _) ?_;have e1:MS (WA u') (uI cx kp).ob=MS (WA u') kp.ob++MS (WA u') cx.ob:=xaU;have e2:RS P (WA u') env (uI cx kp).rg=RS P (WA u') env kp.rg++RS P (WA u') env cx.rg:=xaU;rw[e1,e2]at q3;have q4:St fr.we fr.Se ((Kd (λj=>WA u'<|kp.nx+j) ds x 0++(MS (WA u') kp.ob++MS (WA u') cx.ob))++([ja w.heap.size]++(Ds.map ja++fr.F))) ((RS P (WA u') env kp.rg++RS P (WA u') env cx.rg)++fr.G) (w3.putObj (w.heap.size+1) (.loop o)):=by
   refine q3.perm ?_;rw[<-xal<|Kd _ _ _ _];exact xdO ..
  show St fr.we fr.Se (Kd _ ds x 0++(MS (WA u') kp.ob++(MS (WA u') cx.ob++((ja w.heap.size::Ds.map ja)++fr.F)))) (RS P (WA u') env kp.rg++(RS P (WA u') env cx.rg++fr.G)) _;simpa only[xal,xbJ,xbF]using q4
 refine⟨w.heap.size+1,[mkD w.heap.size],((w.alloc (.deferred<|some [])).alloc (.loop rR)),{target:=.fn (.func it.f) cvs.toArray,args:= #[.func (.yield<|w.heap.size+1) #[] #[]]},((w.alloc (.deferred<|some [])).alloc (.loop rR)),it.f,#[.func (.yield<|w.heap.size+1) #[] #[]]++cvs.toArray,((w.alloc (.deferred<|some [])).alloc (.loop rR)),hL,?_,λ_ _=>xS,?_,λe=>by simp[Nd.F,xfJ]at e,?_⟩
 ·have:a0.eval g=.func (.func it.f) #[] cvs.toArray:=by rw[tw,g3];exact hD
  simp only[vS,this];simp[go_sem]
 ·simp[qR,go_sem,Za hb]
 ·have ht:(#[.func (.yield<|w.heap.size+1) #[] #[]]++cvs.toArray:wL xn)=(Value.func (.yield<|w.heap.size+1) #[] #[]::cvs).toArray:=by simp
  rw[ht];refine CallsIn.mono (callsIn_wide.2 hq) ?_;rintro e w3 ⟨⟨v,rfl⟩,u',hs⟩
  cases hO:r' with
  |inl x=>
   rw[hO]at hs h4;obtain⟨hu,hd⟩:=close rR x u' w3 hs;refine⟨yD,_,by have:=run_endLoop (P:=P) hu (by rw[hj];simp);rw[hj]at this;exact this,?_⟩;exact⟨g1,w.heap.size::Ds,by show[mkD w.heap.size]++a0.defers=_;rw[g2];rfl,hK .n _ h4 _ _ _ (by rw[<-g3];exact Eb.refl)<|by rw[<-g3]at hd;exact hd _⟩
  |inr x=>
   rw[hO]at hs h4;obtain⟨hu,hd⟩:=close rD x u' w3 hs;refine⟨Z<|tgC τ,_,by have:=run_endLoop (P:=P) hu (by rw[hn];simp);rw[hn]at this;exact this,?_⟩;have fin:∀o,zsP N Q (tgE τ) {a0 with defers:=[mkD w.heap.size]++a0.defers} (w3.putObj (w.heap.size+1) (.loop o)):=λo=>⟨g1,w.heap.size::Ds,by show[mkD w.heap.size]++a0.defers=_;rw[g2];rfl,hK τ _ h4 _ _ _ (by rw[<-g3];exact Eb.refl)<|by rw[<-g3]at hd;exact hd _⟩
   cases τ with
   |n=>exact wpIn_skip<|fin _
   |x i=>exact wpIn_exit<|fin _
   |r=>exact wpIn_ret<|fin _
end
end
section
section
variable{P:ww}{cf:Cf}
def Qb(B:P.follows .mixedOrders=I)(C:xm P cf.tt)(D:ZX P cf.tt)(E:∀s∈cf.cs,xI P s)(A:XOK P cf){n:zV}:∀(c:vP),okC n c=I->za7 P cf n c
 |.skip,_,R,r,fr,cx,σ,K,Q,N,q,v,h,Ds,env,w,o,i=>λ_ h1 F J=>wpIn_skip ⟨h1,Ds,F,J▸o .n σ h Ds env w Eb.refl i⟩
 |.label _,_,R,r,fr,cx,σ,K,Q,N,q,v,h,Ds,env,w,o,i=>λ_ h1 F J=>wpIn_label ⟨h1,Ds,F,J▸o .n σ h Ds env w Eb.refl i⟩
 |.exit id,_,R,r,fr,cx,σ,K,Q,N,q,v,h,Ds,env,w,o,i=>λ_ h1 F J=>wpIn_exit ⟨h1,Ds,F,J▸o (.x id) σ h Ds env w Eb.refl i⟩
 |.ret,_,R,r,fr,cx,σ,K,Q,N,q,v,h,Ds,env,w,o,i=>λ_ h1 F J=>wpIn_ret ⟨h1,Ds,F,J▸o .r σ h Ds env w Eb.refl i⟩
 |.scope c,p,R,r,fr,cx,σ,K,Q,N,q,v,h,Ds,env,w,o,i=>by
  refine zlG<|Qb B C D E A c p (K:=K) q v h (λt σ' u l d w' z i=> ?_) i;have:=o t σ' u l d w' z i;cases t<;>exact this
 |.region id a2 dr,p,R,r,fr,cx,σ,K,Q,N,q,v,h,Ds,env,w,o,i=>by
  subst q;refine ztu ?_;have:=zpX (id:=id) (N:=N.wd Ds) (fr:=fr.wd Ds) B C D E A (Q:=λe env w=>Q e Ds env w) (k:=λσ=>K .n σ) (λσ' u d w' z i=>o .n σ' u Ds d w' z i) p h i;rwa[xdf]at this
 |.cond c a b,p,R,r,fr,cx,σ,K,Q,N,q,v,h,Ds,env,w,o,i=>by
  have p:=(Th _ _).mp p;have hd:N.rd=yD\/noR a=I:=v.imp id λh=>((Th _ _).mp h).1;have hf:N.rd=yD\/noR b=I:=v.imp id λh=>((Th _ _).mp h).2;simp only[Az]at h;have⟨hB,vs,ht⟩:=i;have i:Wq P (fr.wd Ds) cx σ env w:=⟨hB,vs,ht⟩;have⟨S,_,L⟩:=ht.ex;split at h
  ·next hv=>exact Py (zj hv<|zZ L c)<|Qb B C D E A a p.1 q hd h o i
  ·next hv=>exact S7 (zj hv<|zZ L c)<|Qb B C D E A b p.2 q hf h o i
  ·next x hv=>
   have hx:ev env c=.bool x:=EW<|zj hv<|zZ L c;rcases zf3 h with⟨rfl,h⟩|⟨rfl,h⟩
   ·exact Py hx<|Qb B C D E A a p.1 q hd h o i
   ·exact S7 hx<|Qb B C D E A b p.2 q hf h o i
  ·cases h
 |.block id c,p,R,r,fr,cx,σ,K,Q,N,q,v,h,Ds,env,w,o,i=>by
  refine zba (Qb B C D E A c p (K:=λt σ=>match t with
   |.x j=>cnd (xad j id) (K .n σ)<|K (.x j) σ
   |t=>K t σ) q v h (λt σ' u l d w' z i=> ?_) i)
  cases t with
  |n=>exact o .n σ' u l d w' z i
  |r=>exact o .r σ' u l d w' z i
  |x j=>
   simp only at u;show zcX id Q (.exit j) l d w';simp only[zcX];cases hb:xad j id<;>rw[hb]at u
   ·exact o (.x j) σ' u l d w' z i
   ·exact o .n σ' u l d w' z i
 |.seq a b,p,R,r,fr,cx,σ,K,Q,N,q,v,h,Ds,env,w,o,i=>by
  have p:=(Th _ _).mp p;have hd:N.rd=yD\/noR a=I:=v.imp id λh=>((Th _ _).mp h).1;have hf:N.rd=yD\/noR b=I:=v.imp id λh=>((Th _ _).mp h).2;simp only[Az]at h;split at h
  ·refine MB<|Qb B C D E A a p.1 q hd h (λt σ' u l d w' z i=> ?_) i
   cases t with
   |n=>exact Qb B C D E A b p.2 q hf u (λt M hi T H w2 hj hn=>o t M hi T H w2 (z.trans hj) hn) i
   |x j=>exact o (.x j) σ' u l d w' z i
   |r=>exact o .r σ' u l d w' z i
  ·next s z=>
   have⟨x,h1,F⟩:=Gx h;have⟨hc,hp⟩:=SW (ag:=Td a) (ro:=s.ro) i
   refine MB (zpT (Qb B C D E A a p.1 (Q:=λe Ds d w=>∃t m,e=tgE t/\(match t with
    |.n=>Az cf b cx m K
    |t=>K t m)=Z r/\Eb cx env d/\Wq P (fr.wd Ds) cx m d w) q hd h1 (λt σ' u l d w' z i=> ?_) hp) ?_)
   ·have⟨y,m,e1,U,Y⟩:=zkd (P:=P) hc u;cases e1
    have e4:=(U λt σ=>match t with
     |.n=>Az cf b cx σ K
     |t=>K t σ).symm.trans F
    exact⟨t,m,O,by cases t<;>exact e4,λe he=>z e<|pN.2 (.inr he),Y _ d w' i⟩
   ·rintro e l d w' ⟨t,m,rfl,u,hq,i⟩
    cases t with
    |n=>exact Qb B C D E A b p.2 q hf u (λt M hi T H w2 hj hn=>o t M hi T H w2 (hq.trans hj) hn) i
    |x j=>exact o (.x j) m u l d w' hq i
    |r=>exact o .r m u l d w' hq i
 |.loop c,p,R,r,fr,cx,σ,K,Q,N,q,v,h,Ds,env,w,o,i=>by
  simp only[Az]at h;split at h
  ·cases h
  ·next s z=>
   have⟨hc,hp⟩:=SW (ag:=Td c) (ro:=s.sg.ro) i;have⟨x,h1,F⟩:=Ie (P:=P) (cx:=uI cx<|keep σ (Td c) s.sg.ro) (kp:=⟨(keep σ (Td c) s.sg.ro).nx,[],[]⟩) h<|zc6 hc;have⟨s0,J,h4⟩:=Gx h1;refine zf0 (G:=zV×Ua s.hd.ds) (λg Ds d w=>zg _ g.1 g.2=Z s0/\Eb cx env d/\Wq P (fr.wd Ds) (uI cx<|keep σ (Td c) s.sg.ro) (eR s.hd g.2 ⟨(keep σ (Td c) s.sg.ro).nx,[],[]⟩) d w) (λg=>g.1) (cf.fu,x) ⟨J,Eb.refl,F _ env w hp⟩ ?_;rintro⟨n',x⟩ Ds a1 w ⟨hl,hA,i⟩
   cases n' with
   |zero=>exact(zkr hl).elim
   |succ n'=>
    refine Qb B C D E A c p q v (zkb hl) (λt σ' u l d w' z i=> ?_) i;have hu:Eb cx env d:=hA.trans λe he=>z e<|pN.2 (.inr he);have a0:(∀(y:SmD s.sg.tg) (m:Sg),Z y=Z s0->(∀{R':Type} (K:Tg->Sg->V R'),zfL (keep σ (Td c) s.sg.ro) K s.sg.tg y=K t m)->Wq P (fr.wd l) cx m d w'->Q (tgE t) l d w'):=λy m e1 U Y=>by
     cases e1;exact o t m (by rw[<-h4];exact(U K).symm) l d w' hu Y
    cases t with
    |n=>
     have⟨x',h5,h6⟩:=Ie (P:=P) (cx:=uI cx<|keep σ (Td c) s.sg.ro) (kp:=⟨(keep σ (Td c) s.sg.ro).nx,[],[]⟩) u<|zc6 hc;exact⟨(n',x'),⟨h5,hu,h6 _ d w' i⟩,xdy n'⟩
    |x j=>
     have⟨y,m,e1,U,Y⟩:=zkd (P:=P) hc u;exact a0 y m e1 U<|Y _ d w' i
    |r=>
     have⟨y,m,e1,U,Y⟩:=zkd (P:=P) hc u;exact a0 y m e1 U<|Y _ d w' i
 |.rangeFunc g ps a c,p,R,r,fr,cx,σ,K,Q,N,q,v,h,Ds,env,w,o,i=>by
  have p:=(Th _ _).mp p;have hw:=(Th _ _).mp p.2;simp only[Az]at h;split at h
  ·next f cs s pt hg z hI=>
   split at h
   ·next it τ sh hD hJ hE=>
    split at h
    ·next y hy=>
     have⟨hr,h⟩:=yv h;rw[Th]at hr;have⟨hF,hG⟩:=znX hD;subst hG;have hz:ps= #[pt]:=by cases ps;simp_all
     subst hz;have hH:pt<n:=by
      have:=p.1;simpa using this
     subst q;exact zrm A (Qb B C D E A a hw.1) (Qb B C D E A c hw.2) hr.1 hr.2 (v.resolve_right<|by simp[noR]) hH hg hF hy hE h o i
    ·cases h
   ·cases h
  ·cases h
 |.refuse _,_,R,r,fr,cx,σ,K,Q,N,q,v,h,_,_,_,_,_=>by cases h
 |.goto _,_,R,r,fr,cx,σ,K,Q,N,q,v,h,_,_,_,_,_=>by cases h
end
end
end Go.Proofs.YtdpdofimolhigaaGreat
