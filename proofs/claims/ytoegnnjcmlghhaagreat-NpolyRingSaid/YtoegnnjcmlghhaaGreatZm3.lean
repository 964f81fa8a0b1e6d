/- What a proof needs: rules of walking, mirrors of functions and their plain laws. No condition. -/
import Derived.Test.YtoegnnjcmlghhaaGreatZm2
import Derived.RangeFuncLeaves
set_option linter.all false
namespace Go.Proofs.YtoegnnjcmlghhaaGreat
open Bool renaming false->I,true->wL
open Go renaming Value->wN,World->wP,TypeId->wT,Operand->wW,execOp->jp,Program->jP,run_underlying->ul,Oper->uT,undef->Z0,FuncId->Z2,Tmp->Z4,Code->Z9,wpIn_mono->Wn,resolve->Ws,wpListIn->WL,invoke->WP,Act->V0,maxLen->V4,asIntOf->Kw,builtin->Ut,Addr->UL,wpIn_region_lit->bV,Exit->eX,wpIn_seq->fN,wpListIn_nil->gC,Loop->gT,goInt->i8,Deferred->lm
open Go.Proofs.YtoegnnjcmlghhaaGreat renaming Zr->M,bd->Y,za->U,nm->B,ze->A,iq->S
open List renaming length->X,length->pM
open Nat renaming beq->E
open Option renaming some->Z,none->wF
open _root_ renaming rfl->O,List->N,Int->J,Nat->K,Option->V,List->xS,Nat->wr,Option->ww,trivial->wR,absurd->wS,Bool->v6,funext->kW,Array->ut,congrArg->uL,if_false->uP,if_true->uS,True->Xs,cond_false->XS,cond_true->Wf,of_decide_eq_true->Wr,reduceCtorEq->WD,Decidable->QR,False->KW,reduceIte->Ul,decide_eq_true_eq->Us
open Bool renaming and_eq_true->xad,false_eq_true->xai,false_or->xeG,not_eq_true'->xcM,not_true->xeS,or_eq_true->xdV
open Deferred renaming ofValue->xcW
open Instr renaming slice->xfT,sliceAt->xcV,sliceBound->xeJ,sliceBounds->xet
open List renaming all_eq_true->xaT,any_eq_true->xfJ,append_assoc->xaq,append_nil->xbm,cons_append->xbL,drop->xdO,ext_getElem?->xcv,filterMap_cons->xaP,filterMap_eq_nil_iff->xeq,filter_cons->xfK,getD->xeL,getElem?_append_left->xbb,getElem?_append_right->xbr,getElem?_cons_zero->xbC,getElem?_eq_getElem->xab,getElem?_eq_some_iff->xaz,getElem?_map->xbX,getElem?_take->xbD,getElem?_toArray->xfE,getElem?_zip_eq_some->xeX,length->xaI,length_cons->xaw,length_eq_one_iff->xcT,length_eq_zero_iff->xbE,length_map->xav,length_replicate->xaM,length_set->xbg,length_take->xar,map_append->xaR,map_congr_left->xcc,map_cons->xbQ,map_nil->xdS,map_take->xfl,map_toArray->xeb,mem_append->xaa,mem_cons->xah,mem_cons_of_mem->FS,mem_cons_self->IR,mem_filter->xbU,mem_filterMap->xeg,mem_iff_getElem?->xfC,mem_map->xas,mem_of_getElem?->xbt,mem_range->xbd,mem_singleton->xac,nil_append->xbN,not_mem_nil->H1,perm_append_comm->xeh,perm_append_comm_assoc->xdY,perm_middle->xbZ,set->xga,set_getElem_self->xdf,take->xdB,take_length->xca,take_of_length_le->xaW
open List.Perm renaming append_left->xbo,append_right->xeN,cons->xfA,refl->xdy,swap->xdT
open List.cons renaming injEq->xdX
open Nat renaming beq->xaf,blt->xda,eq_of_beq_eq_true->xde,eq_zero_or_pos->xcs,le_add_right->xbI,le_mul_of_pos_right->xcj,le_of_ble_eq_true->xbH,le_refl->So,le_succ->xbz,le_trans->xal,lt_of_le_of_lt->xaK,lt_of_lt_of_le->xag,lt_or_ge->xbS,lt_succ_self->xdM,zero_add->xaJ,zero_le->xae,zero_lt_one->xdm
open Op renaming operands->xaB
open Oper renaming looksAt->xbk
open Option.some renaming injEq->xau
open Prod.mk renaming injEq->xcL
open Region renaming binds->xcp
open Result renaming andThen_ok->xan
open Sem renaming run_bind->xay,run_pure->xaV
open Sum renaming elim->xfk
open Value renaming bool->xeM,cells->xeE
open _root_.Array renaming getElem?_eq_some_iff->xbf,mem_toList_iff->xdN
section
section
variable{P:jP}{cf:Cf}{fr:Fr}{cx σ:Sg}{vs vs':wr->wN}{env:y6}{w:wP}{R:Type}{r:R}
 {d:ww Z4}{ty t yt:wT}{pos:String}{aft:ut Edge}{g:ww (wr×v6)}{x y:wW}
theorem VJ{ob:N (K×Od)}{o:K}{X Y:Od}(h:xA ob o=Z X):∀e∈km ob o Y,∃a∈ob,a.1=e.1:=by grind [vb]
def uR:∀{ob:N (K×Od)}{o:K},∀e∈yF ob o,e∈ob
 |(a,X)::r,o,e,he=>by
  unfold yF at he;cases b:E a o<;>rw[b]at he
  obtain rfl|he:=xah.1 he
  simp_all;exact FS _<|uR e he;simp_all
def iB{o:K}{X Y:Od}{v:wN}(b:Bd cx σ)(c:xA σ.ob o=Z X)(f:St fr.we fr.Se (OS vs fr cx<|km σ.ob o Y) (GS P vs env fr cx σ) w):nH P fr cx σ.nx vs ⟨σ.nx,σ.rg,km σ.ob o Y⟩ (put env wF v) w:=by refine J9 (Γl:=[]) b O O (So _) (λ_ _=>O) (λ_ a=>wS a H1) (λe a=> ?_) (λS w _ e a=>wS a H1) f;have⟨h,h1,i⟩:=VJ c e a;rw[<-i];exact b.o1 h h1
def set_set{α:Type _}(l:N α)(i:K)(a b:α):(l.set i a).set i b=l.set i b:=mK
theorem vq{α:Type _}{l:N α}{i:K}{a b:α}(h:l[i]? =Z a):(l.set i b)[i]? =Z b:=by grind
def sS{α:Type _}:∀(l:N α) (i:K) (a:α),(l.set i a).eraseIdx i=l.eraseIdx i
 |[],_,_=>by simp
 |_::_,0,_=>rfl
 |b::l,i+1,a=>by simp[sS l i a]
def pj{α:Type}{e:zT α}{E:wT}{xs:N α}{v:wN}{S:K->Prop}{b n cap:K}(h:(mO e E v xs).p S w)(hv:v=.slice (Z ⟨b,0,wF⟩) n cap):n=X xs:=by
 have⟨cs,c,i⟩:=h;rcases c.2 with⟨h,j⟩|⟨k,a,f,h,_⟩
 simp_all;simp_all
def zk9(hT:yX P cf.tt){k:Sg->V R}{s:TI}(hC:Yc cf t=Z s)(h:Tk σ s.ty (xz cx σ x) (xz cx σ y) k=Z r):iR P cx ⟨wF,.store t x y,ty,pos,aft,g⟩ σ k r:=by
 have⟨U,u,_⟩:=YS hT hC;unfold Tk at h;split at h;rename_i o _ A;split at h;rename_i L E z l;have⟨hD,h1⟩:=yr h;subst hD;have⟨q,h,B⟩:=VN h1;refine⟨_,h,So _,λfr vs env w C=> ?_⟩;have⟨D,hd⟩:=C;have⟨S0,_,e⟩:=hd.ex;have⟨i,hi,F,ht⟩:=vb l;have a:(OS vs fr cx σ.ob)[i]? =Z (mP s.ty.rep.c E (vs o) z):=JB hi;have⟨b,hv,G⟩:=hd.openP i a;have⟨H,_⟩:=zj A<|zL e x;refine(uq (f:=s.ty.rep) (z':=z) (y':=q) (up:=id) i (vq a) (H.trans hv) O (Sub.self s.ty.rep z) u (λS w J=>B P vs env S w<|zL J y) w G).mono ?_;rintro v w' ⟨_,rfl,_,hl⟩;refine iB (vs:=vs) D l ?_;have m:=hl.toP i<|vq<|vq a;rw[set_set,set_set,<-hv]at m;rw[F];show St _ _ (MS vs (σ.ob.set i (o,.var s.ty E q))++_) _ _;rw[<-CW hi];exact m;cases h
 rename_i o p f A;split at h;rename_i L E z hc l _;have⟨M,h1⟩:=yr h;subst M;have⟨q,N,B⟩:=VN h1;have⟨z2,Q,h⟩:=xN N;have⟨hc⟩:=hc;refine⟨_,h,So _,λfr vs env w C=> ?_⟩;have⟨D,hd⟩:=C;have⟨S0,_,e⟩:=hd.ex;have⟨i,hi,F,ht⟩:=vb l;have a:(OS vs fr cx σ.ob)[i]? =Z (mP L.rep.c E (vs o) z):=JB hi;have⟨b,hv,G⟩:=hd.openP i a;have⟨T,b',K,H⟩:=zj A<|zL e x;rw[hv]at K;cases K;rw[<-hc]at u;refine(uq (f:=f.f.rep) (z':=f.get z) (y':=q) (up:=λy=>f.set y z) i (vq a) H O (by rw[xaJ];exact T z) u (λS w J=>B P vs env S w<|zL J y) w G).mono ?_;rintro v w' ⟨_,rfl,_,hl⟩;refine iB (vs:=vs) D l ?_;have m:=hl.toP i<|vq<|vq a;rw[set_set,set_set,<-hv,<-Q]at m;rw[F];show St _ _ (MS vs (σ.ob.set i (o,.var L E z2))++_) _ _;rw[<-CW hi];exact m
 cases h
 rename_i o p j f A;split at h;rename_i L E xs hc l _;have⟨M,h1⟩:=yr h;cases M;have⟨q,N,B⟩:=VN h1;have⟨z2,Q,h⟩:=xN N;have⟨hc⟩:=hc;refine⟨_,h,So _,λfr vs env w C=> ?_⟩;have⟨D,hd⟩:=C;have⟨S0,_,e⟩:=hd.ex;have⟨i,hi,F,ht⟩:=vb l;have a:(OS vs fr cx σ.ob)[i]? =Z (mO p.rep E (vs o) xs):=JB hi;have⟨T,b,n,cap,hv,Y,H⟩:=zj A<|zL e x;have hn:n=xaI xs:=wE hd a λS hp=>pj hp hv;subst hn;have⟨b',a0,K,hE,hF,G⟩:=hd.openO i a<|xaK (xae _) Y;rw[hv]at K;cases K;rw[<-hc]at u;have hA:=(Sub.rowT0 p.rep cap xs j (xeL xs j p.z)<|getD_some p.z Y).comp<|T<|xeL xs j p.z;refine(uq (f:=f.f.rep) (y':=q) i (vq a) H O hA u (λS w J=>B P vs env S w<|zL J y) w G).mono ?_;rintro v w' ⟨_,rfl,_,hl⟩;refine iB (vs:=vs) D l ?_;have hu:X (xga xs j<|f.set q<|xeL xs j p.z)=xaI xs:=xbg ..;have m:=hl.closeF i (vq<|vq a) (by rw[hu];exact hE) hF;rw[set_set,set_set,hu,<-hv,<-Q]at m;rw[F];show St _ _ (MS vs (σ.ob.set i (o,.own p E z2))++_) _ _;rw[<-CW hi];exact m
 cases h
 cases h
end
end
section
section
variable{P:jP}{cf:Cf}{fr:Fr}{cx σ:Sg}{vs vs':wr->wN}{env:y6}{w:wP}{R:Type}{r:R}
 {d:ww Z4}{ty t yt:wT}{pos:String}{aft:ut Edge}{g:ww (wr×v6)}{x y:wW}
def ziN{b:wT}{ag:v6}{e bytes:K}{a:wN}{hi:wW}(f:ev env x=.slice wF 0 0)(ht:P.underlying t=Z (.slice b))(hc:Jo P b ag e bytes a)
 (h:ev env hi=.int .i64 ((0:K):J)) (w:wP):(jp (ev env) ⟨d,.slice t x wF (Z hi) wF,ty,pos,aft,g⟩).run P w=.ok (.value (.slice wF 0 0)) w:=by
 have c:(xcV t (.slice wF 0 0) wF (Z (.int .i64 0)) wF).run P w=.ok (.slice wF 0 0) w:=by unfold xcV;unfold xfT;simp only[xay,ul ht,xan];unfold xet;simp[xeJ,Kw,wo hc]
 simp[jp,f,h]at c⊢;simp[c]
def zmZ{i o:K}{X:Od}{Y:MF}(hi:σ.ob[i]? =Z (o,X))(a:yF σ.ob o=σ.ob.eraseIdx i){Γ:N FF}(h:St fr.we fr.Se ((OS vs fr cx σ.ob).set i Y) Γ w):St fr.we fr.Se (Y::OS vs fr cx (yF σ.ob o)) Γ w:=by have:=St.front i h<|vq<|JB hi;rw[sS,gm hi,<-a]at this;lia
def ziY(l:yX P cf.tt)(M:kZ P cf.tt){o:K}{hi:wW}{k:Sg->V R}(hd:wJ cx d=wL)(Q:xz cx σ x=Z (.ow o))(h:TS cf cx σ d t o hi k=Z r):
 iR P cx ⟨d,.slice t x wF (Z hi) wF,ty,pos,aft,g⟩ σ k r:=by
 unfold TS at h;split at h;rename_i n E1 B s E xs ht T;have⟨U,h1⟩:=yr h;cases U;rcases UI h1 with⟨e,_⟩|⟨z,m,e,Y,hz⟩
 cases e
 cases e;have⟨p,h3⟩:=ZO Y;have⟨ys,D,h4⟩:=xN h3;have⟨bytes,F,q⟩:=K2 l M ht;refine⟨_,h4,xbz _,λfr vs env w hR=> ?_⟩;have⟨G,c⟩:=hR;have⟨S0,_,f⟩:=c.ex;have u:ev env x=vs o:=zj Q<|zL f x;have A:=hz P vs env S0 w<|zL f hi;have⟨i,hl,hF,hn⟩:=vb T;have hc:(OS vs fr cx σ.ob)[i]? =Z (mO n.rep E (vs o) xs):=JB hl
 have a:∀v,(jp (ev env) ⟨d,.slice t x wF (Z hi) wF,ty,pos,aft,g⟩).run P w=.ok (.value v) w->St fr.we fr.Se ((OS vs fr cx σ.ob).set i<|mO n.rep E v ys) (GS P vs env fr cx σ) w->
  ui P ⟨d,.slice t x wF (Z hi) wF,ty,pos,aft,g⟩ env w (λv w'=>nH P fr cx σ.nx vs ⟨σ.nx+1,qt σ.rg d [(0,.ow σ.nx)],(σ.nx,.own n E ys)::yF σ.ob o⟩ (put env d v) w'):=by
  intro v hp C;refine ui.of_value hp<|KS (vs:=vs) (mk:=.ow) G hd (λe he=>G.o1 e<|uR e he) (λ_=>O) (λS w=>KI S w) ?_;rw[Uw];exact zmZ hl hn C
 rcases xcs (xaI xs)with h0|h0
 have hy:m=0:=by have:m<=xaI xs:=p;lia
 subst hy;have hA:ys=xs:=by rw[D];exact(xbE.1 h0).symm▸O
 subst hA;have H:(OS vs fr cx σ.ob).set i (mO n.rep E (vs o) ys)=OS vs fr cx σ.ob:=by
  apply xcv;intro j;rw[List.getElem?_set];split;rename_i hC;subst hC;split;exact hc.symm
  next hD=>exact wS (xaz.1 hc).1 hD
  rfl
 have hv:vs o=.slice wF 0 0\/∃b cap,vs o=.slice (Z ⟨b,0,wF⟩) 0 cap:=wE c hc λS ⟨cs,h5,_⟩=>by
  rcases h5.2 with⟨h,_⟩|⟨b,cap,a0,h,_⟩
  exact .inl h;rw[h0]at h;exact .inr ⟨b,cap,h⟩
 obtain hv|⟨b,cap,hv⟩:=hv
 exact a _ (ziN (u.trans hv) (qB l ht) q A w)<|by rw[<-hv,H];exact c
 exact a _ (P2 (u.trans hv) (qB l ht) q A (xae _) w)<|by rw[<-hv,H];exact c
 have⟨b,cap,hv,J,hE,C⟩:=c.openO i hc h0;have L:=C.closeO i m (vq hc) p (xal p J) hE;rw[set_set]at L;exact a _ (P2 (u.trans hv) (qB l ht) q A (xal p J) w)<|by rw[D];exact L
 cases h
def zeS(H:yX P cf.tt){J:wT}{f:v6}{a:TI}{E:wT}{ob:N (K×Od)}{xs:N a.ty.D}{k:Sg->V R}(ht:P.underlying t=Z (.slice E))(L:Yc cf E=Z a)(hd:wJ cx d=wL)
 (Y:f=wL->t=J) (h:zbq cf cx σ d J f a.ty E a.B a.ty.z y ob xs k=Z r):
 ∃σ',k σ'=Z r/\σ.nx<=σ'.nx/\∀(fr:Fr) (vs:K->wN) (env:y6) (w:wP) (u:wN),Bd cx σ->(∀e∈ob,e.1<σ.nx)->ev env x=u->St fr.we fr.Se (mO a.ty.rep E u xs::OS vs fr cx ob) (GS P vs env fr cx σ) w->
  ui P ⟨d,.call ⟨.builtin .append,#[x,y],#[t,J]⟩,ty,pos,aft,g⟩ env w (λv w'=>nH P fr cx σ.nx vs σ' (put env d v) w'):=by
 have⟨a0,hl,M,hu⟩:=YS H L;have hr:=(H _ _ L).2.1;have hn:=(H _ _ L).2.2.1;have SA:∀m,m*a.B<=140737488355328->m<=9223372036854775807:=λm hm=>by
  have:=xcj m hr;lia
 unfold zbq at h;split at h;rename_i n hw;split at h;rename_i q ik B' hz;have⟨j,hj,h⟩:=zbt h;have⟨i,h⟩:=ZO h;have⟨zs,o,h⟩:=xN h;refine⟨_,h,xbz _,λfr vs env w u s A C hc=> ?_⟩;have⟨S0,_,l⟩:=hc.ex;refine(SY (e:=a.ty.rep) (z:=a.ty.z) (n:=j) 0 ht (J7 H hz) hl M hn O C (by rw[(w6 hw<|zL l y).1,hj]) hu (SA _ i) i w hc).mono ?_;rintro v w' ⟨v',rfl,_,G⟩;refine KS (vs:=vs) (mk:=.ow) s hd A (λ_=>O) (λS w=>KI S w) ?_;rw[Uw,o];exact G;cases h
 split at h;rename_i o2 t2 lo n hy;split at h;rename_i s2 E2 Q hA;have⟨hp,h⟩:=yf h;obtain rfl:=Y hp;have⟨T,h⟩:=yr h;cases T;have⟨T,h⟩:=yr h;cases T;have⟨ys,hi,h⟩:=xN h;have⟨i,h⟩:=ZO h;have⟨zs,o,h⟩:=xN h;refine⟨_,h,xbz _,λfr vs env w u s A C hc=> ?_⟩;have⟨S0,_,l⟩:=hc.ex;have hv:=zj hy<|zL l y;refine(aU (e:=a.ty.rep) (ys:=ys) 0 ht hl M hn O C O (λS w hM ha=> ?_) (SA _ i) i w hc).mono ?_
 have hm:(mO a.ty.rep E2 (vs o2) Q).p S w:=ZZ (σ:=⟨σ.nx,σ.rg,ob⟩) (F:=fr.F) hM.2 hA;rcases hv with⟨b,m,cap,c,q1,q2,U,q4,q5⟩|⟨q1,ao,c,q2,U⟩
 rw[q5,hi];exact Nx hm q1 q2 U q4;subst q1;rw[U,hi];exact⟨ao,c,mK,mK,by unfold V4;lia,.inl mK⟩
 rintro v w' ⟨v',rfl,_,G⟩;refine KS (vs:=vs) (mk:=.ow) s hd A (λ_=>O) (λS w=>KI S w) ?_;rw[Uw,o];exact G;cases h
 have⟨hp,h⟩:=yf h;obtain rfl:=Y hp;have⟨ys,h,hi⟩:=VN h;have⟨i,h⟩:=ZO h;have⟨zs,o,h⟩:=xN h;refine⟨_,h,xbz _,λfr vs env w u s A C hc=> ?_⟩;refine(zdj (e:=a.ty.rep) (ys:=ys) 0 ht hl M hn O C O (λS w ha=>hi P vs env S w<|zL ha y) (SA _ i) i w hc).mono ?_;rintro v w' ⟨v',rfl,_,G⟩;refine KS (vs:=vs) (mk:=.ow) s hd A (λ_=>O) (λS w=>KI S w) ?_;rw[Uw,o];exact G
def zqs(j:yX P cf.tt){a:ut wW}{ts:ut wT}{k:Sg->V R}(hd:wJ cx d=wL)(h:zoG cf cx σ d a.toList ts.toList k=Z r):
 iR P cx ⟨d,.call ⟨.builtin .append,a,ts⟩,ty,pos,aft,g⟩ σ k r:=by
 unfold zoG at h;split at h;rename_i _ _ x y t A M hp;obtain rfl:a= #[x,y]:=by cases a;simp_all
 obtain rfl:ts= #[t,A]:=by cases ts;simp_all
 split at h;rename_i s E B ht;split at h;rename_i C v;have⟨D,h1⟩:=yr h;subst D;split at h1;rename_i l;have⟨σ',m,n,p⟩:=zeS (ty:=ty) (pos:=pos) (aft:=aft) (g:=g) (x:=x) j (qB j ht) v hd (λh=>zY h) h1;refine⟨σ',m,n,λfr vs env w q=> ?_⟩;have⟨c,f⟩:=q;have⟨S0,_,b⟩:=f.ex;exact p fr vs env w _ c c.o1 (zj l<|zL b x) f.nilO;rename_i o l;split at h1;rename_i N F xs G;have⟨u,H⟩:=yf h1;have u:=zY u;subst u;have⟨J,K⟩:=yr H;cases J;have⟨σ',m,n,p⟩:=zeS (ty:=ty) (pos:=pos) (aft:=aft) (g:=g) (x:=x) j (qB j ht) v hd (λh=>zY h) K;refine⟨σ',m,n,λfr vs env w q=> ?_⟩;have⟨c,f⟩:=q;have⟨S0,_,b⟩:=f.ex;have⟨i,z,hn,hi⟩:=vb G;have hl:(OS vs fr cx σ.ob)[i]? =Z (mO C.ty.rep F (vs o) xs):=JB z;have hc:=f.front i hl;rw[gm z,<-hi]at hc;exact p fr vs env w _ c (λe L=>c.o1 e<|uR e L) (zj l<|zL b x) hc
 cases h1
 cases h1
 cases h
 cases h
 cases h
theorem zlg{α:Type}(xs ys:N α):X (Hg xs ys)=X xs:=by grind [Hg]
theorem zjc{α:Type}{xs:N α}(ys:N α)(h:X xs=0):Hg xs ys=xs:=by grind [Hg]
def zoL{α:Type}(xs ys:N α):xdB 0 xs++xdB (min (X ys) (X xs)) ys++xdO (0+min (X ys) (X xs)) xs=Hg xs ys:=by simp[Hg]
def zaJ{α:Type}(lo:K)(xs ys:N α):lF lo 0 xs ys=xs:=by simp[lF]
theorem zd7{α:Type}{lo n:K}{xs:N α}(ys:N α)(h:lo+n<=X xs):X (lF lo n xs ys)=X xs:=by grind [lF]
def zos(J:yX P cf.tt)(hL:kZ P cf.tt){z:ut wW}{ts:ut wT}{k:Sg->V R}(hd:wJ cx d=wL)(h:zfg cf cx σ d z.toList ts.toList k=Z r):
 iR P cx ⟨d,.call ⟨.builtin .copy,z,ts⟩,ty,pos,aft,g⟩ σ k r:=by
 unfold zfg at h;split at h;rename_i x y t t' hK hM;obtain rfl:z= #[x,y]:=by cases z;simp_all
 obtain rfl:ts= #[t,t']:=by cases ts;simp_all
 split at h;rename_i s E B o ht hx;split at h;rename_i s' a xs M
 have⟨hA,h⟩:=yr h;cases hA;have⟨ys,h,N⟩:=VN h;have⟨zs,hc,h⟩:=xN h;have hc:zs=Hg (α:=s.D) xs ys:=hc;have⟨bytes,Q,hl⟩:=K2 J hL ht;refine⟨_,h,So _,λfr vs env w hR=> ?_⟩;have⟨T,A⟩:=hR;have⟨S0,_,f⟩:=A.ex;have hn:ev env x=vs o:=zj hx<|zL f x;have⟨i,hi,hq,hH⟩:=vb M;have j:(OS vs fr cx σ.ob)[i]? =Z (mO s.rep a (vs o) xs):=JB hi;have p:∀v w',St fr.we fr.Se ((OS vs fr cx σ.ob).set i<|mO s.rep a (vs o) zs) (GS P vs env fr cx σ) w'->nH P fr cx σ.nx vs ⟨σ.nx,qt σ.rg d [],km σ.ob o (.own s a zs)⟩ (put env d v) w':=λv w' F=>by
  refine J9 (σ':=⟨σ.nx,qt σ.rg d [],km σ.ob o (.own s a zs)⟩) (d:=d) (l:=[]) (vs:=vs) (vs':=vs) (Γl:=[]) T hd O (So _) (λ_ _=>O) (λ_ q=>wS q H1) (λe q=> ?_) (λS w _ e q=>wS q H1) ?_;have⟨e',h1,h2⟩:=VJ M e q;rw[<-h2];exact T.o1 e' h1;rw[hq];show St _ _ (MS vs (σ.ob.set i (o,.own s a zs))++_) _ _;rw[<-CW hi];exact F
 rcases xcs (xaI xs)with h0|h0
 have hv:vs o=.slice wF 0 0\/∃b cap,vs o=.slice (Z ⟨b,0,wF⟩) 0 cap:=wE A j λS ⟨cs,h5,_⟩=>by
  rcases h5.2 with⟨h,_⟩|⟨b,cap,a0,h,_⟩
  exact .inl h;rw[h0]at h;exact .inr ⟨b,cap,h⟩
 have⟨G,cap,hv⟩:∃G cap,vs o=.slice G 0 cap:=by
  obtain hv|⟨b,cap,hv⟩:=hv
  exact⟨_,_,hv⟩;exact⟨_,_,hv⟩
 have⟨L,u,hu,_⟩:=wb.1<|N P vs env S0 w<|zL f y;have⟨ti,hC,i1,i2,i3⟩:=hl.info;have hD:(P.info? E).map (·.size)=Z s.rep.n:=by rw[hC];simp[i1]
 have U:=JA (P:=P) w t t' ty E G L 0 cap (xaI ys) u (qB J ht) hD<|Nat.min_zero _;rw[<-hu,<-hv,<-hn]at U;have Y:zs=xs:=hc.trans<|zjc (α:=s.D) ys h0;refine ui.of_value (v:=i8 0) (w':=w) ?_<|p _ w ?_;simp only[jp,Ws,WP,Ut,xeb,xbQ,xdS,xay,U,xaV,xan];have:(OS vs fr cx σ.ob).set i (mO s.rep a (vs o) xs)=OS vs fr cx σ.ob:=by have⟨hI,hE⟩:=xaz.1 j;rw[<-hE,xdf]
 rw[Y,this];exact A;have⟨b,cap,hv,hF,hG,F⟩:=A.openO i j h0;refine(R9 (e:=s.rep) (l:=0) (dLen:=xaI xs) (dCap:=cap) i (qB J ht) hl (vq j) (by rw[hn,hv];simp) O W (λS w ha=>N P vs env S w<|zL ha y) w F).mono ?_;rintro v w' ⟨n,rfl,_,H⟩;refine p _ w' ?_;have Y:=(zoL (α:=s.D) xs ys).trans hc.symm;rw[Y]at H;have hg:xaI zs=xaI xs:=by rw[hc];exact zlg (α:=s.D) xs ys
 have hw:=H.closeF i (vq<|vq j) (by rw[hg];exact hF) hG;rw[set_set,set_set,hg,<-hv]at hw;exact hw;cases h
 rename_i s E B o t2 lo n ht hx;split at h;rename_i s' a xs hk M _
 have⟨hA,h⟩:=yr h;cases hA;have⟨ys,h,N⟩:=VN h;have⟨zs,hc,h⟩:=xN h;have hc:zs=lF (α:=s.D) lo n xs ys:=hc;have⟨hk⟩:=hk;subst hk;have⟨bytes,Q,hl⟩:=K2 J hL ht;refine⟨_,h,So _,λfr vs env w hR=> ?_⟩;have⟨T,A⟩:=hR;have⟨S0,_,f⟩:=A.ex;have hn:=zj hx<|zL f x;have⟨i,hi,hq,hH⟩:=vb M;have j:(OS vs fr cx σ.ob)[i]? =Z (mO t2.rep a (vs o) xs):=JB hi;have p:∀v w',St fr.we fr.Se ((OS vs fr cx σ.ob).set i<|mO t2.rep a (vs o) zs) (GS P vs env fr cx σ) w'->nH P fr cx σ.nx vs ⟨σ.nx,qt σ.rg d [],km σ.ob o (.own t2 a zs)⟩ (put env d v) w':=λv w' F=>by
  refine J9 (σ':=⟨σ.nx,qt σ.rg d [],km σ.ob o (.own t2 a zs)⟩) (d:=d) (l:=[]) (vs:=vs) (vs':=vs) (Γl:=[]) T hd O (So _) (λ_ _=>O) (λ_ q=>wS q H1) (λe q=> ?_) (λS w _ e q=>wS q H1) ?_;have⟨e',h1,h2⟩:=VJ M e q;rw[<-h2];exact T.o1 e' h1;rw[hq];show St _ _ (MS vs (σ.ob.set i (o,.own t2 a zs))++_) _ _;rw[<-CW hi];exact F
 obtain h0|h0:=xcs n
 have⟨G,c,hv⟩:∃G c,ev env x=.slice G 0 c:=by
  rcases hn with⟨b,m,cap,c,q1,q2,q3,q4,q5⟩|⟨q1,L,c,q2,q3⟩
  exact⟨_,c,by rw[q5,h0]⟩;exact⟨L,c,q3⟩
 have⟨L,u,hu,_⟩:=wb.1<|N P vs env S0 w<|zL f y;have⟨ti,hC,i1,i2,i3⟩:=hl.info;have hD:(P.info? E).map (·.size)=Z t2.rep.n:=by rw[hC];simp[i1]
 have U:=JA (P:=P) w t t' ty E G L 0 c (xaI ys) u (qB J ht) hD<|Nat.min_zero _;rw[<-hu,<-hv]at U;have Y:zs=xs:=by rw[hc,h0];exact zaJ (α:=t2.D) lo xs ys
 refine ui.of_value (v:=i8 0) (w':=w) ?_<|p _ w ?_;simp only[jp,Ws,WP,Ut,xeb,xbQ,xdS,xay,U,xaV,xan];have:(OS vs fr cx σ.ob).set i (mO t2.rep a (vs o) xs)=OS vs fr cx σ.ob:=by have⟨hI,hE⟩:=xaz.1 j;rw[<-hE,xdf]
 rw[Y,this];exact A;rcases hn with⟨b0,m,C,c,q1,q2,q3,q4,q5⟩|⟨q1,L,c,q2,q3⟩
 have hJ:m=xaI xs:=wE A j λS hp=>pj hp q1;subst hJ;have⟨b,cap,hv,hF,hG,F⟩:=A.openO i j W;rw[q1]at hv;cases hv;refine(R9 (e:=t2.rep) (l:=lo) (dLen:=n) (dCap:=c) i (qB J ht) hl (vq j) q5 O q2 (λS w ha=>N P vs env S w<|zL ha y) w F).mono ?_;rintro v w' ⟨nn,rfl,_,H⟩;refine p _ w' ?_;have H:St fr.we fr.Se (((OS vs fr cx σ.ob).set i<|mB (rowT t2.rep C) a b0 xs).set i<|mB (rowT t2.rep C) a b0<|lF (α:=t2.D) lo n xs ys) (GS P vs env fr cx σ) w':=H;rw[<-hc]at H;have hg:xaI zs=xaI xs:=by rw[hc];exact zd7 (α:=t2.D) ys q2
 have hw:=H.closeF i (vq<|vq j) (by rw[hg];exact hF) hG;rw[set_set,set_set,hg,<-q1]at hw;exact hw;lia;cases h
 cases h
 cases h
end
end
section
section
variable{P:jP}{cf:Cf}{fr:Fr}{cx σ:Sg}{vs vs':wr->wN}{env:y6}{w:wP}{R:Type}{r:R}
 {d:ww Z4}{ty t yt:wT}{pos:String}{aft:ut Edge}{g:ww (wr×v6)}{x y:wW}
def zeg{a b:K}(h:a≠b):E a b=I:=Yw h
def U5:∀{ob:N (K×Od)}{o p:K},p≠o->xA (yF ob o) p=xA ob p
 |[],_,_,_=>rfl
 |(q,X)::r,o,p,h=>by
  unfold yF;cases a:E q o
  simp only[XS];unfold xA;rw[U5 h];simp only[Wf];have:=zY a;subst this;conv=>rhs;unfold xA
  rw[zeg<|λe=>h e.symm];rfl
def jv{ob:N (K×Od)}{p:K}:∀{os:N K},cn os p=I->xA (w8 ob os) p=xA ob p
 |[],_=>rfl
 |o::r,h=>by
  simp only[cn,List.any_cons,Bool.or_eq_false_iff]at h;unfold w8;rw[U5 (λe=>by subst e;simp at h),jv h.2]
def Jn{ob:N (K×Od)}:∀{os:N K},∀e∈w8 ob os,e∈ob
 |[],_,h=>h
 |o::r,e,h=>Jn e<|uR e h
def zbx{α:Type _}:∀{l:N α}{i:K}{a:α},l[i]? =Z a->l.Perm (a::l.eraseIdx i)
 |[],_,_,h=>by simp at h
 |b::l,0,a,h=>by simp at h;subst h;exact xdy _
 |b::l,i+1,a,h=>((zbx<|by simpa using h).cons b).trans<|xdT _ _ _
def jC{ob:N (K×Od)}{o:K}{X:Od}(h:xA ob o=Z X):(OS vs fr cx ob).Perm (Ki vs (o,X)::OS vs fr cx (yF ob o)):=by have⟨i,h1,_,a⟩:=vb h;show(MS vs ob++(MS vs cx.ob++fr.F)).Perm (Ki vs (o,X)::(MS vs (yF ob o)++(MS vs cx.ob++fr.F)));rw[a,<-gm h1];exact zbx<|JB h1
def KO(C:∀s∈cf.cs,yY P s):∀{dom:N AM}{xs:N wW}{cs:N PD}{k:UU dom->N K->V R},ZP cf cx σ dom xs cs k=Z r->
 ∃z os,k z os=Z r/\pM xs+pM cs=pM dom/\(∀o∈os,∃X,(o,X)∈σ.ob)/\∀vs (fr:Fr) env S w,(∀x,Y0 P vs env S w cx σ x)->∀a:N wN,pM a=pM cs->zB S (FV cs a) w->
  zB S (jy P dom z<|xs.map (ev env)++a) w/\(OS vs fr cx σ.ob).Perm (ki dom z (xs.map (ev env)++a)++OS vs fr cx (w8 σ.ob os))/\JY dom (xs.map (ev env)++a)=os.map vs
 |[],[],[],k,h=>⟨(),[],h,O,λ_ l=>wS l H1,λ_ _ _ _ _ _ _ _ _=>⟨wR,xdy _,O⟩⟩
 |.q t::dom,[],c::cs,k,h=>by
  simp only[ZP]at h;have⟨e,h⟩:=yr h;subst e;have⟨z,os,h1,n,l,u⟩:=KO C h;refine⟨_,os,h1,by simp at n⊢;lia,l,λvs fr env S w hl a m hc=> ?_⟩
  cases a with
  |nil=>cases m
  |cons v a=>have⟨j,A,B⟩:=u vs fr env S w hl a (by simpa using m) hc.2;exact⟨⟨hc.1,j⟩,A,B⟩
 |.d t::dom,x::xs,cs,k,h=>by
  simp only[ZP]at h;have⟨y,h,M⟩:=VN h;have⟨z,os,h1,n,l,u⟩:=KO C h;exact⟨_,os,h1,by simp at n⊢;lia,l,λvs fr env S w hl a m hc=>by have⟨j,A,B⟩:=u vs fr env S w hl a m hc;exact⟨⟨M P vs env S w<|hl x,j⟩,A,B⟩⟩
 |.q t::dom,x::xs,cs,k,h=>by
  simp only[ZP]at h;split at h;rename_i s y F;have⟨e,h⟩:=yr h;subst e;have⟨z,os,h1,n,l,u⟩:=KO C h;exact⟨_,os,h1,by simp at n⊢;lia,l,λvs fr env S w hl a m hc=>by have⟨j,A,B⟩:=u vs fr env S w hl a m hc;exact⟨⟨zj F<|hl x,j⟩,A,B⟩⟩;cases h
 |.own t E::dom,x::xs,cs,k,h=>by
  simp only[ZP]at h;split at h;rename_i o F;split at h;rename_i s Q ys hd;have⟨D,G⟩:=yf h;have D:=zY D;subst D;have⟨e,H⟩:=yr G;cases e;have⟨z,os,J,n,l,u⟩:=KO C H;have⟨hn,h1⟩:=yf J;simp only[xcM]at hn;refine⟨_,o::os,h1,by simp at n⊢;lia,λp hp=> ?_,λvs fr env S w hl a m hc=> ?_⟩
  obtain rfl|hp:=xah.1 hp
  have⟨i,j,_⟩:=vb hd;exact⟨_,xbt j⟩;exact l p hp
  have⟨j,A,B⟩:=u vs fr env S w hl a m hc;have hv:ev env x=vs o:=zj F<|hl x;refine⟨⟨wR,j⟩,A.trans ?_,?_⟩;have hp:=jC (vs:=vs) (fr:=fr) (cx:=cx)<|(jv hn).trans hd;refine(xbo _ hp).trans ?_;refine xbZ.trans ?_;show List.Perm _ (mO t.rep E (ev env x) _::(ki dom z (xs.map (ev env)++a)++_));rw[hv];exact xdy _;show ev env x::JY dom (xs.map (ev env)++a)=vs o::os.map vs;rw[hv,B];cases h
  cases h
 |.var t E::dom,x::xs,cs,k,h=>by
  simp only[ZP]at h;split at h;rename_i o Y F;split at h;rename_i s Q y hd;have⟨D,G⟩:=yf h;have D:=zY D;subst D;have⟨e,H⟩:=yr G;subst e;have⟨z,os,J,n,l,u⟩:=KO C H;have⟨hn,h1⟩:=yf J;simp only[xcM]at hn;refine⟨_,o::os,h1,by simp at n⊢;lia,λp hp=> ?_,λvs fr env S w hl a m hc=> ?_⟩;obtain rfl|hp:=xah.1 hp
  have⟨i,j,_⟩:=vb hd;exact⟨_,xbt j⟩;exact l p hp
  have⟨j,A,B⟩:=u vs fr env S w hl a m hc;have⟨hv,b,T⟩:=zj F<|hl x;refine⟨⟨⟨b,hv.trans T⟩,j⟩,A.trans ?_,?_⟩;have hp:=jC (vs:=vs) (fr:=fr) (cx:=cx)<|(jv hn).trans hd;refine(xbo _ hp).trans ?_;refine xbZ.trans ?_;show List.Perm _ (mP s.rep.c E (ev env x) _::(ki dom z (xs.map (ev env)++a)++_));rw[hv];exact xdy _;show ev env x::JY dom (xs.map (ev env)++a)=vs o::os.map vs;rw[hv,B];cases h
  cases h
 |.fn L cod::dom,x::xs,cs,k,h=>by
  simp only[ZP]at h;have⟨f,h,U⟩:=zhW C h;have⟨z,os,h1,n,l,u⟩:=KO C h;refine⟨_,os,h1,by simp at n⊢;lia,l,λvs fr env S w hl a m hc=> ?_⟩;have⟨j,A,B⟩:=u vs fr env S w hl a m hc;refine⟨⟨?_,j⟩,A,B⟩
  cases hv:xz cx σ x with
  |none=>rename_i h0;rw[hv]at h0;simp[asF]at h0
  |some v=>exact U vs S w v _ hv<|zj hv<|hl x
 |[],_::_,_,_,h=>by simp[ZP]at h
 |[],[],_::_,_,h=>by simp[ZP]at h
 |.d _::_,[],_,_,h=>by simp[ZP]at h
 |.own _ _::_,[],_,_,h=>by simp[ZP]at h
 |.var _ _::_,[],_,_,h=>by simp[ZP]at h
 |.fn _ _::_,[],_,_,h=>by simp[ZP]at h
 |.q _::_,[],[],_,h=>by simp[ZP]at h
def mh:N RM->N wN->K->(K->wN)->K->wN
 |[],_,_,vs=>vs
 |.d _::r,us,o,vs=>mh r us.tail o vs
 |.own _ _::r,us,o,vs=>XX (mh r us.tail (o+1) vs) o<|us.headD Z0
 |.var _ _::r,us,o,vs=>XX (mh r us.tail (o+1) vs) o<|us.headD Z0
def QL:∀{rs:N RM}{us:N wN}{o k:K},k<o->mh rs us o vs k=vs k
 |[],_,_,_,_=>rfl
 |.d _::r,us,o,k,h=>QL (rs:=r) h
 |.own _ _::r,us,o,k,h=>by
  show XX _ o _ k=_;rw[kJ h,QL W]
 |.var _ _::r,us,o,k,h=>by
  show XX _ o _ k=_;rw[kJ h,QL W]
def tU{n o:K}{v:wN}(h:o≠n):XX vs n v o=vs o:=by unfold XX;rw[Yw h];rfl
theorem Ko:∀{rs:N RM}{x:UK rs}{i o:K},(∀e∈(Zp rs x i o).2,o<=e.1/\e.1<o+(Zp rs x i o).2.length)
 |[],_,_,_,e,he=>wS he H1
 |[.d _],_,_,_,e,he=>wS he H1
 |[.own _ _],_,_,o,e,he=>by
  obtain rfl:=xac.1 he;grind
 |[.var _ _],_,_,o,e,he=>by
  obtain rfl:=xac.1 he;grind
 |.d t::n::r,x,i,o,e,he=>Ko (rs:=n::r) (x:=x.2) (i:=i+1) e he
 |.own t E::n::r,x,i,o,e,he=>by
  have he:e∈(o,Od.own t E x.1)::(Zp (n::r) x.2 (i+1)<|o+1).2:=he;have a:(Zp (.own t E::n::r) x i o).2.length=(Zp (n::r) x.2 (i+1)<|o+1).2.length+1:=O;rw[a];obtain rfl|he:=xah.1 he
  lia;have:=Ko (rs:=n::r) (x:=x.2) (i:=i+1) (o:=o+1) e he;lia
 |.var t E::n::r,x,i,o,e,he=>by
  have he:e∈(o,Od.var t E x.1)::(Zp (n::r) x.2 (i+1)<|o+1).2:=he;have a:(Zp (.var t E::n::r) x i o).2.length=(Zp (n::r) x.2 (i+1)<|o+1).2.length+1:=O;rw[a];obtain rfl|he:=xah.1 he
  exact⟨So _,by show o<_;lia⟩;have:=Ko (rs:=n::r) (x:=x.2) (i:=i+1) (o:=o+1) e he;lia
def oC:∀{rs:N RM}{x:UK rs}{us:N wN}{i o:K},MS (mh rs us o vs) (Zp rs x i o).2=jR rs x us
 |[],_,_,_,_=>rfl
 |[.d _],_,_,_,_=>rfl
 |[.own t E],x,us,i,o=>by exact uL (λm=>[m])<|Uw
 |[.var t E],x,us,i,o=>by exact uL (λm=>[m])<|LG
 |.var t E::n::r,x,us,i,o=>by
  refine List.cons_eq_cons.2 ⟨LG,?_⟩;exact(wC λe a=>tU (by have:=Ko e a;lia)).trans oC
 |.d t::n::r,x,us,i,o=>by
  show MS (mh (n::r) us.tail o vs) (Zp (n::r) x.2 (i+1) o).2=jR (n::r) x.2 us.tail;exact oC
 |.own t E::n::r,x,us,i,o=>by
  refine List.cons_eq_cons.2 ⟨Uw,?_⟩;exact(wC λe a=>tU (by have:=Ko e a;lia)).trans oC
def gD:∀{rs:N RM}{x:UK rs}{i o:K},∀e∈(Zp rs x i o).1,∀p,vt e.2=Z p->p<o+(Zp rs x i o).2.length
 |[],_,_,_,e,he=>wS he H1
 |[.d _],_,_,_,e,he=>by
  obtain rfl:=xac.1 he;intro p hp;cases hp
 |[.own _ _],_,_,o,e,he=>by
  obtain rfl:=xac.1 he;intro p hp;cases hp;exact xdM _
 |[.var _ _],_,_,o,e,he=>by
  obtain rfl:=xac.1 he;intro p hp;cases hp;exact xdM _
 |.var t E::n::r,x,i,o,e,he=>by
  have a:(Zp (.var t E::n::r) x i o).2.length=(Zp (n::r) x.2 (i+1)<|o+1).2.length+1:=O;rw[a];obtain rfl|he:=xah.1 he
  intro p hp;cases hp;lia
  intro p hp;have:=gD (rs:=n::r) (x:=x.2) (i:=i+1) (o:=o+1) e he p hp;lia
 |.d t::n::r,x,i,o,e,he=>by
  obtain rfl|he:=xah.1 he
  intro p hp;cases hp
  exact gD (rs:=n::r) (x:=x.2) (i:=i+1) e he
 |.own t E::n::r,x,i,o,e,he=>by
  have a:(Zp (.own t E::n::r) x i o).2.length=(Zp (n::r) x.2 (i+1)<|o+1).2.length+1:=O;rw[a];obtain rfl|he:=xah.1 he
  intro p hp;cases hp;lia
  intro p hp;have:=gD (rs:=n::r) (x:=x.2) (i:=i+1) (o:=o+1) e he p hp;lia
def sx:∀{rs:N RM}{x:UK rs}{i o:K},∀e∈(Zp rs x i o).1,∀p,vt e.2=Z p->o<=p
 |[],_,_,_,e,he=>wS he H1
 |[.d _],_,_,_,e,he=>by
  obtain rfl:=xac.1 he;intro p hp;cases hp
 |[.own _ _],_,_,o,e,he=>by
  obtain rfl:=xac.1 he;intro p hp;cases hp;exact So _
 |[.var _ _],_,_,o,e,he=>by
  obtain rfl:=xac.1 he;intro p hp;cases hp;exact So _
 |.var t E::n::r,x,i,o,e,he=>by
  obtain rfl|he:=xah.1 he
  intro p hp;cases hp;exact So _
  intro p hp;have:=sx e he p hp;lia
 |.d t::n::r,x,i,o,e,he=>by
  obtain rfl|he:=xah.1 he
  intro p hp;cases hp
  exact sx e he
 |.own t E::n::r,x,i,o,e,he=>by
  obtain rfl|he:=xah.1 he
  intro p hp;cases hp;exact So _
  intro p hp;have:=sx e he p hp;lia
def EU:∀{rs:N RM}{x:UK rs}{us:N wN}{i o:K}{S:K->Prop},zB S (jK rs x us) w->X us=X rs->∀e∈(Zp rs x i o).1,∃j u,e.1=i+j/\us[j]? =Z u/\(vC P (mh rs us o vs) e.2 u).p S w
 |[],_,_,_,_,_,_,_,e,he=>wS he H1
 |[m],_,[],_,_,_,_,hl,_,_=>by cases hl
 |[.d _],x,u::us,i,o,S,h,hl,e,he=>by
  obtain rfl:=xac.1 he;exact⟨0,u,O,O,h.1⟩
 |[.own _ _],x,u::us,i,o,S,h,hl,e,he=>by
  obtain rfl:=xac.1 he;exact⟨0,u,O,O,(wi (vs:=vs)).symm⟩
 |[.var _ _],x,u::us,i,o,S,h,hl,e,he=>by
  obtain rfl:=xac.1 he;have h1:=wi (vs:=vs) (n:=o) (v:=u);exact⟨0,u,O,O,h1.symm,by have⟨b,f⟩:=h.1;exact⟨b,h1.trans f⟩⟩
 |.var t E::n::r,x,u::us,i,o,S,h,hl,e,he=>by
  obtain rfl|he:=xah.1 he
  have h1:=wi (vs:=mh (n::r) us (o+1) vs) (n:=o) (v:=u);exact⟨0,u,O,O,h1.symm,by have⟨b,f⟩:=h.1;exact⟨b,h1.trans f⟩⟩;have⟨j,v,h1,a,c⟩:=EU (rs:=n::r) (x:=x.2) (i:=i+1) (o:=o+1) h.2 (by simpa using hl) e he;refine⟨j+1,v,W,by simpa using a,?_⟩;have:vC P (mh (.var t E::n::r) (u::us) o vs) e.2 v=vC P (mh (n::r) us (o+1) vs) e.2 v:=iw (λp hp=>tU (by have:=sx (rs:=n::r) (x:=x.2) (i:=i+1) (o:=o+1) e he p hp;lia)) v;rw[this];exact c
 |_::n::r,x,[],_,_,_,_,hl,_,_=>by cases hl
 |.d t::n::r,x,u::us,i,o,S,h,hl,e,he=>by
  obtain rfl|he:=xah.1 he
  exact⟨0,u,O,O,h.1⟩;have⟨j,v,h1,a,c⟩:=EU (rs:=n::r) (x:=x.2) (i:=i+1) (o:=o) h.2 (by simpa using hl) e he;exact⟨j+1,v,W,by simpa using a,c⟩
 |.own t E::n::r,x,u::us,i,o,S,h,hl,e,he=>by
  obtain rfl|he:=xah.1 he
  exact⟨0,u,O,O,(wi (vs:=mh (n::r) us (o+1) vs)).symm⟩;have⟨j,v,h1,a,c⟩:=EU (rs:=n::r) (x:=x.2) (i:=i+1) (o:=o+1) h (by simpa using hl) e he;refine⟨j+1,v,W,by simpa using a,?_⟩;have:vC P (mh (.own t E::n::r) (u::us) o vs) e.2 v=vC P (mh (n::r) us (o+1) vs) e.2 v:=iw (λp hp=>tU (by have:=sx (rs:=n::r) (x:=x.2) (i:=i+1) (o:=o+1) e he p hp;lia)) v;rw[this];exact c
def zhv{f:Z2}{a:N wW}:∀{cs:N XW}{s:XW},SX cx σ f a cs=Z s->s∈cs/\s.f=f
 |c::cs,s,h=>by
  unfold SX at h;split at h;simp_all;have⟨h1,b⟩:=zhv h;exact⟨FS _ h1,b⟩
theorem zdA{rs:N RM}{x:UK rs}{us:N wN}{o:K}{S:K->Prop}(h:zB S (jK rs x us) w)(hl:X us=X rs):∀e∈(Zp rs x (bif bN rs then 0 else 1) o).1,(vS P (mh rs us o vs) e.2 (uK us) e.1).p S w:=by
 intro e c;have⟨j,u,h1,a,b⟩:=EU (P:=P) (vs:=vs) h hl e c;have⟨i,dv⟩:=e
 match us,hl,a with
 |[],_,a=>simp at a
 |[v],hl,a=>
  obtain rfl:j=0:=by
   obtain _|j:=j
   rfl;grind
  obtain⟨m,rfl⟩:=xcT.1 hl.symm;simp only[bN,Wf]at h1;simp only[xbC,xau]at a;subst h1;subst a;exact b
 |v::f::us,hl,a=>
  have:bN rs=I:=by
   match rs,hl with
   |[],_=>rfl
   |_::_::_,_=>rfl
  rw[this]at h1;simp only[XS]at h1;obtain rfl:i=j+1:=W
  exact⟨(v::f::us).toArray,u,O,by simpa using a,b⟩
def rK:N RM->N wN->N wN
 |[],_=>[]
 |.d _::r,us=>rK r us.tail
 |.own _ _::r,us=>us.headD Z0::rK r us.tail
 |.var _ _::r,us=>us.headD Z0::rK r us.tail
def gR:∀{rs:N RM}{x:UK rs}{us:N wN}{i o:K},(Zp rs x i o).2.map (λe=>mh rs us o vs e.1)=rK rs us
 |[],_,_,_,_=>rfl
 |[.d _],x,us,i,o=>rfl
 |[.own t E],x,us,i,o=>by
  show[XX vs o (us.headD Z0) o]=[us.headD Z0];rw[wi]
 |[.var t E],x,us,i,o=>by
  show[XX vs o (us.headD Z0) o]=[us.headD Z0];rw[wi]
 |.var t E::n::r,x,us,i,o=>by
  show XX (mh (n::r) us.tail (o+1) vs) o (us.headD Z0) o::(Zp (n::r) x.2 (i+1)<|o+1).2.map (λe=>mh (.var t E::n::r) us o vs e.1)=us.headD Z0::rK (n::r) us.tail;rw[wi,<-gR];congr 1;refine xcc λe a=> ?_;exact tU (by have:=Ko e a;lia)
 |.d t::n::r,x,us,i,o=>gR (rs:=n::r)
 |.own t E::n::r,x,us,i,o=>by
  show XX (mh (n::r) us.tail (o+1) vs) o (us.headD Z0) o::(Zp (n::r) x.2 (i+1)<|o+1).2.map (λe=>mh (.own t E::n::r) us o vs e.1)=us.headD Z0::rK (n::r) us.tail;rw[wi,<-gR];congr 1;refine xcc λe a=> ?_;exact tU (by have:=Ko e a;lia)
def BX:∀{m:K}{rs:N RM}{us:N wN},py m rs=wL->X us=X rs->rK rs us=us.drop m
 |0,[],us,_,hl=>by
  obtain rfl:=xbE.1 hl;rfl
 |0,.own _ _::r,[],_,hl=>by cases hl
 |0,.own _ _::r,u::us,h,hl=>by
  show u::rK r us=u::us;rw[BX (rs:=r) h<|by simpa using hl];rfl
 |0,.var _ _::r,[],_,hl=>by cases hl
 |0,.var _ _::r,u::us,h,hl=>by
  show u::rK r us=u::us;rw[BX (rs:=r) h<|by simpa using hl];rfl
 |m+1,.d _::r,[],_,hl=>by cases hl
 |m+1,.d _::r,u::us,h,hl=>BX (m:=m) h<|by simpa using hl
 |0,.d _::_,_,h,_=>by cases h
 |_+1,[],_,h,_=>by cases h
 |_+1,.own _ _::_,_,h,_=>by cases h
 |_+1,.var _ _::_,_,h,_=>by cases h
def zbK{vs':K->wN}:∀{os:N K}{ob:N (K×Od)},os.map vs'=ob.map (λe=>vs' e.1)->MS vs' (Eg os ob)=MS vs' ob
 |[],[],_=>rfl
 |[],_::_,h=>by cases h
 |_::_,[],h=>by cases h
 |o::os,(p,X)::ob,h=>by
  simp only[xbQ,xdX]at h;show Ki vs' (o,X)::MS vs' (Eg os ob)=Ki vs' (p,X)::MS vs' ob;rw[zbK h.2];cases X<;>simp only[Ki]<;>rw[h.1]
def Oz:∀{os:N K}{ob:N (K×Od)},∀e∈Eg os ob,e.1∈os
 |[],_,e,he=>wS he<|by simp[Eg]
 |_::_,[],e,he=>wS he<|by simp[Eg]
 |o::os,p::ob,e,he=>by
  rcases xah.1 (show e∈(o,p.2)::Eg os ob from he)with rfl|he
  simp_all;exact FS _<|Oz e he
def Tl{rs:N RM}{x:UK rs}{us:N wN}{o m:K}{S:K->Prop}(h:zB S (jK rs x us) w)(hl:X us=X rs)(z:m<=X us):∀e∈(Zp rs x (Bg m) o).1.filter (λe=>xda e.1<|Bg m+m),(vS P (mh rs us o vs) e.2 (uK<|us.take m) e.1).p S w:=by
 intro e c;have⟨c,f⟩:=xbU.1 c;have f:e.1<Bg m+m:=Nat.blt_eq.mp f;have⟨j,u,h1,n,l⟩:=EU (P:=P) (vs:=vs) h hl e c;have⟨i,dv⟩:=e;simp only at h1 f;have q:j<m:=W
 have a:(us.take m)[j]? =Z u:=by rw[xbD,iq q];exact n
 have b:X (us.take m)=m:=by rw[xar];lia
 generalize us.take m=vs' at*
 match vs',b,a with
 |[],b,a=>simp at a
 |[v],b,a=>
  obtain rfl:m=1:=b.symm;obtain rfl:j=0:=W
  simp only[xbC,xau]at a;obtain rfl:i=0:=h1;subst a;exact l
 |v::s::k,b,a=>
  have:Bg m=1:=by unfold Bg;rw[zeg<|by simp at b;lia];rfl
  rw[this]at h1;obtain rfl:i=j+1:=W
  exact⟨(v::s::k).toArray,u,O,by simpa using a,l⟩
def zbv{f:wW}{f':Z2}{cs:N PD}{s:XW}{c:ut wW}{ts:ut wT}{k:Sg->V R}{z:UU s.dom}{q:UK s.cod}{os:N K}(hd:wJ cx d=wL)(u:xz cx σ f=Z (.fn f' cs))
 (D:yY P s) (E:s.f=f') (U:pM c.toList+pM cs=pM s.dom) (hF:∀o∈os,∃X,(o,X)∈σ.ob) (C:∀vs (fr:Fr) env S w,(∀x,Y0 P vs env S w cx σ x)->∀a:N wN,pM a=pM cs->zB S (FV cs a) w->
  zB S (jy P s.dom z<|c.toList.map (ev env)++a) w/\(OS vs fr cx σ.ob).Perm (ki s.dom z (c.toList.map (ev env)++a)++OS vs fr cx (w8 σ.ob os))/\JY s.dom (c.toList.map (ev env)++a)=os.map vs)
 (Y:s.M z=Z q) (h:zle σ d s os q k=Z r):iR P cx ⟨d,.call ⟨.value f,c,ts⟩,ty,pos,aft,g⟩ σ k r:=by
 unfold zle at h;split at h
 ·next G=>
   refine⟨_,h,xbI _ _,λfr vs env w H=> ?_⟩
   have⟨n,hl⟩:=H
   have⟨S0,_,j⟩:=hl.ex
   have⟨a,hv,A,_⟩:=zj u<|zL j f
   have B:=D.plain G Y (vs:=c.toList.map (ev env)++a)<|by simp at U⊢;lia
   have J:(jp (ev env) ⟨d,.call ⟨.value f,c,ts⟩,ty,pos,aft,g⟩).run P w=.ok (.enter f' (c.toList.map (ev env)++a).toArray) w:=by simp[jp,Ws,hv,xcW,WP,vY<|E▸D.1]
   have hn:St fr.we fr.Se (ki s.dom z (c.toList.map (ev env)++a)++OS vs fr cx (w8 σ.ob os)) (jy P s.dom z (c.toList.map (ev env)++a)++GS P vs env fr cx σ) w:=by
    refine St.perm (St.weak hl λS w m=>zB.append ?_ m) (C vs fr env S0 w (zL j) a A ?_).2.1
    ·have⟨i,hc,hi,p⟩:=zj u<|zL m f;rw[hv]at hc;have:a=i:=by simpa using hc
     subst this;exact(C vs fr env S w (zL m) a A p).1
    ·have⟨i,hc,hi,p⟩:=zj u<|zL j f;rw[hv]at hc;have:a=i:=by simpa using hc
     subst this;exact p
   unfold ui
   rw[J]
   rw[E]at B
   refine(B fr.we fr.Se _ _ w hn).mono ?_
   rintro e w' ⟨us,he,F,L⟩
   refine⟨uK us,he,?_⟩
   refine J9 (vs:=vs) (vs':=mh s.cod us σ.nx vs) (l:=(Zp s.cod q (bif bN s.cod then 0 else 1) σ.nx).1) (Γl:=jK s.cod q us) n hd O (xbI _ _) (λo v=>QL v) gD ?_ (λS w m=>zdA m F) ?_
   ·intro e he
    obtain he|he:=xaa.1 he
    ·exact(Ko e he).2
    ·exact xag (n.o1 e<|Jn e he)<|xbI _ _
   ·have e1:OS (mh s.cod us σ.nx vs) fr cx ((Zp s.cod q (bif bN s.cod then 0 else 1) σ.nx).2++w8 σ.ob os)=jR s.cod q us++OS vs fr cx (w8 σ.ob os):=by
     show MS _ (_++_)++(MS _ cx.ob++_)=_;have Q:MS (mh s.cod us σ.nx vs) (w8 σ.ob os)=MS vs (w8 σ.ob os):=wC λe he=>QL<|n.o1 e<|Jn e he;have T:MS (mh s.cod us σ.nx vs) cx.ob=MS vs cx.ob:=wC λe he=>QL<|n.o2 e he;rw[T,show MS (mh s.cod us σ.nx vs) ((Zp s.cod q (bif bN s.cod then 0 else 1) σ.nx).2++w8 σ.ob os)=MS _ _++MS _ _ from xaR,Q,oC,xaq]
    rw[e1]
    exact L
 ·next b G=>
   have⟨ht,h⟩:=yf h
   refine⟨_,h,xbI _ _,λfr vs env w H=> ?_⟩
   have⟨n,hl⟩:=H
   have⟨S0,_,j⟩:=hl.ex
   have⟨a,hv,A,_⟩:=zj u<|zL j f
   have B:=D.2 z q Y (c.toList.map (ev env)++a)<|by simp at U⊢;lia
   rw[G]at B
   have J:(jp (ev env) ⟨d,.call ⟨.value f,c,ts⟩,ty,pos,aft,g⟩).run P w=.ok (.enter f' (c.toList.map (ev env)++a).toArray) w:=by simp[jp,Ws,hv,xcW,WP,vY<|E▸D.1]
   have hD:JY s.dom (c.toList.map (ev env)++a)=os.map vs:=by
    have⟨i,hc,hi,p⟩:=zj u<|zL j f;rw[hv]at hc;have:a=i:=by simpa using hc
    subst this;exact(C vs fr env S0 w (zL j) a A p).2.2
   have hn:St fr.we fr.Se (ki s.dom z (c.toList.map (ev env)++a)++OS vs fr cx (w8 σ.ob os)) (jy P s.dom z (c.toList.map (ev env)++a)++GS P vs env fr cx σ) w:=by
    refine St.perm (St.weak hl λS w m=>zB.append ?_ m) (C vs fr env S0 w (zL j) a A ?_).2.1
    ·have⟨i,hc,hi,p⟩:=zj u<|zL m f;rw[hv]at hc;have:a=i:=by simpa using hc
     subst this;exact(C vs fr env S w (zL m) a A p).1
    ·have⟨i,hc,hi,p⟩:=zj u<|zL j f;rw[hv]at hc;have:a=i:=by simpa using hc
     subst this;exact p
   unfold ui
   rw[J]
   rw[E]at B
   refine(B fr.we fr.Se _ _ w hn).mono ?_
   rintro e w' ⟨us,he,⟨F,hC⟩,L⟩
   refine⟨uK<|us.take<|pM s.cod-(b+1),he,?_⟩
   have hp:∀o,o<σ.nx->mh s.cod us σ.nx vs o=vs o:=λo v=>QL v
   have hE:∀o∈os,o<σ.nx:=λo v=>by
    have⟨X,hX⟩:=hF o v;exact n.o1 _ hX
   have hG:MS (mh s.cod us σ.nx vs) (Eg os (Zp s.cod q (Bg<|pM s.cod-(b+1)) σ.nx).2)=jR s.cod q us:=by
    rw[zbK,oC];rw[gR,BX ht F,hC,hD];exact xcc λo v=>hp o<|hE o v
   refine J9 (vs:=vs) (vs':=mh s.cod us σ.nx vs) (l:=(Zp s.cod q (Bg<|pM s.cod-(b+1)) σ.nx).1.filter λe=>xda e.1<|Bg (pM s.cod-(b+1))+(pM s.cod-(b+1))) (Γl:=jK s.cod q us) n hd O (xbI _ _) hp (λe he=>gD e (xbU.1 he).1) ?_ (λS w m=>Tl m F W) ?_
   ·intro e he
    obtain he|he:=xaa.1 he
    ·exact xag (hE _<|Oz e he)<|xbI _ _
    ·exact xag (n.o1 e<|Jn e he)<|xbI _ _
   ·have e1:OS (mh s.cod us σ.nx vs) fr cx (Eg os (Zp s.cod q (Bg<|pM s.cod-(b+1)) σ.nx).2++w8 σ.ob os)=jR s.cod q us++OS vs fr cx (w8 σ.ob os):=by
     show MS _ (_++_)++(MS _ cx.ob++_)=_;have Q:MS (mh s.cod us σ.nx vs) (w8 σ.ob os)=MS vs (w8 σ.ob os):=wC λe he=>QL<|n.o1 e<|Jn e he;have T:MS (mh s.cod us σ.nx vs) cx.ob=MS vs cx.ob:=wC λe he=>QL<|n.o2 e he;rw[T,show MS (mh s.cod us σ.nx vs) (Eg os (Zp s.cod q (Bg<|pM s.cod-(b+1)) σ.nx).2++w8 σ.ob os)=MS _ _++MS _ _ from xaR,Q,hG,xaq]
    rw[e1]
    exact L
def zoo(b:∀s∈cf.cs,yY P s){f:wW}{f':Z2}{cs:N PD}{s:XW}{a:ut wW}{ts:ut wT}{k:Sg->V R}(hd:wJ cx d=wL)(c:xz cx σ f=Z (.fn f' cs))
 (e:SX cx σ f' a.toList cf.cs=Z s) (h:zmg cf cx σ d s a.toList cs k=Z r):iR P cx ⟨d,.call ⟨.value f,a,ts⟩,ty,pos,aft,g⟩ σ k r:=by
 have⟨h1,i⟩:=zhv e;have⟨z,os,h,j,hc,l⟩:=KO b h;have⟨q,m,h⟩:=rV h;exact zbv hd c (b s h1) i j hc l m h
def zfb{f:Z2}{a:N wW}:∀{l:N Ji}{p:Ji},zhh cx σ f a l=Z p->p∈l/\p.s.f=f
 |c::l,p,h=>by
  unfold zhh at h;split at h;simp_all;have⟨h1,b⟩:=zfb h;exact⟨FS _ h1,b⟩
def zlB(P:jP)(cx:Sg)(o:uT)(σ:Sg)(kp:PX->Sg->V R)(r:R):Prop:=∃q σ',kp q σ'=Z r/\σ'.nx=σ.nx/\∀(fr:Fr) (vs:K->wN) (env:y6) (w:wP),cU P fr cx σ vs env w->OpP P o env w (λa w'=>a=pE q/\cU P fr cx σ' vs env w')
def zqC(G:∀s∈cf.cs,yY P s){f:wW}{f':Z2}{cs:N PD}{p:Ji}{a:ut wW}{ts:ut wT}{kp:PX->Sg->V R}{k:Sg->V R}(hd:wJ cx d=wL)(m:xz cx σ f=Z (.fn f' cs))
 (u:NW P p) (v:p.s.f=f') (h:zmV cf cx σ d p a.toList cs kp k=Z r):iR P cx ⟨d,.call ⟨.value f,a,ts⟩,ty,pos,aft,g⟩ σ k r\/zlB P cx ⟨d,.call ⟨.value f,a,ts⟩,ty,pos,aft,g⟩ σ kp r:=by
 unfold zmV at h;have⟨z,os,h,D,H,A⟩:=KO G h;have⟨y,E,h⟩:=rV h
 cases y with
 |inr q=>exact .inl<|zbv (s:=p.n) hd m u.n v D H A (by show(match p.M z with|some (.inr r)=>Z r|_=>wF)=Z q;rw[E]) h
 |inl q=>
  refine .inr ⟨q,_,h,O,λfr vs env w J=> ?_⟩;have⟨o,hl⟩:=J;have⟨S0,_,j⟩:=hl.ex;have⟨b,hv,F,_⟩:=zj m<|zL j f;have hn:=(u.2 z (a.toList.map (ev env)++b)<|by simp at D⊢;lia).2 q E;have K:(jp (ev env) ⟨d,.call ⟨.value f,a,ts⟩,ty,pos,aft,g⟩).run P w=.ok (.enter f' (a.toList.map (ev env)++b).toArray) w:=by simp[jp,Ws,hv,xcW,WP,vY<|v▸u.1]
  have hp:St fr.we fr.Se (ki p.s.dom z (a.toList.map (ev env)++b)++OS vs fr cx (w8 σ.ob os)) (jy P p.s.dom z (a.toList.map (ev env)++b)++GS P vs env fr cx σ) w:=by
   refine St.perm (St.weak hl λS w B=>zB.append ?_ B) (A vs fr env S0 w (zL j) b F ?_).2.1;have⟨i,l,L,hi⟩:=zj m<|zL B f;rw[hv]at l;have:b=i:=by simpa using l
   subst this;exact(A vs fr env S w (zL B) b F hi).1;have⟨i,l,L,hi⟩:=zj m<|zL j f;rw[hv]at l;have:b=i:=by simpa using l
   subst this;exact hi
  unfold OpP;rw[K];rw[v]at hn;refine⟨λc hc=>(by cases hc),(hn fr.we fr.Se _ _ w hp).mono ?_⟩;rintro e w' ⟨C,ht⟩;exact⟨_,C,O,⟨λe C=>o.o1 e<|Jn e C,o.o2,o.r1,o.r2⟩,ht⟩
end
end
section
def St.pr{we:wP}{Se:K->Prop}{ms:N MF}{Γ:N FF}{w:wP}{p:Prop}(hp:p)(h:St we Se ms Γ w):St we Se (mPr p::ms) Γ w:=by
 have⟨h1,b,c,S,d,e,i,f,g⟩:=h;refine⟨h1,b,⟨λk a=>a.elim,c⟩,S,d,e,λm hm k a=> ?_,⟨hp,f⟩,g⟩;obtain rfl|hm:=xah.1 hm
 exact a.elim;grind
def St.unpr{we:wP}{Se:K->Prop}{ms:N MF}{Γ:N FF}{w:wP}{p:Prop}(h:St we Se (mPr p::ms) Γ w):p/\St we Se ms Γ w:=
 ⟨wE h (i:=0) O λS hp=>hp,St.drop (i:=0) h⟩
section
variable{P:jP}{cf:Cf}{fr:Fr}{cx σ:Sg}{vs vs':wr->wN}{env:y6}{w:wP}{R:Type}{r:R}
 {d:ww Z4}{ty t yt:wT}{pos:String}{aft:ut Edge}{g:ww (wr×v6)}{x y:wW}
def Js{d a:Dv}{v:wN}{i:K}{S:K->Prop}(h:(vS P vs d v i).p S w)(b:∀u,(vC P vs d u).p S w->(vC P vs a u).p S w):(vS P vs a v i).p S w:=by
 cases i with
 |zero=>exact b _ h
 |succ i=>have⟨us,u,h1,c,e⟩:=h;exact⟨us,u,h1,c,b _ e⟩
theorem Jy{v u:wN}{mk:K->Dv}{X:Od}{ob:N (K×Od)}(a:Bd cx σ)(hd:wJ cx d=wL)(b:∀e∈ob,e.1<σ.nx)(i:∀o,vt (mk o)=Z o)(hc:∀S w,(vC P (XX vs σ.nx u) (mk σ.nx) v).p S w)
 (c:St fr.we fr.Se (Ki (XX vs σ.nx u) (σ.nx,X)::OS vs fr cx ob) (GS P vs env fr cx σ) w):nH P fr cx σ.nx vs ⟨σ.nx+1,qt σ.rg d [(0,mk σ.nx)],(σ.nx,X)::ob⟩ (put env d v) w:=by
 refine J9 (vs':=XX vs σ.nx u) (Γl:=[]) a hd O (xbz _) (λo f=>kJ f) ?_ ?_ ?_ ?_;simp_all;grind;intro S w _ e h;obtain rfl:=xac.1 h;exact hc S w;show St _ _ (Ki (XX vs σ.nx u) (σ.nx,X)::OS (XX vs σ.nx u) fr cx ob) _ _;rw[MI a b];exact c
def VI:∀{ob:N (K×Od)}{o:K}{X Y:Od},xA ob o=Z X->xA (km ob o Y) o=Z Y/\yF (km ob o Y) o=yF ob o
 |(b,e)::r,o,X,Y,h=>by
  unfold xA at h;unfold km;cases a:E b o<;>rw[a]at h
  ·obtain⟨h1,c⟩:=VI h;constructor
   ·simp only[XS];unfold xA;rw[a];exact h1
   ·simp only[XS];unfold yF;rw[a];simp only[XS,c]
  ·constructor
   ·simp only[Wf];unfold xA;rw[a];rfl
   ·simp only[Wf];unfold yF;rw[a];rfl
def qM{o:K}{X:Od}{Γ:N FF}(a:xA σ.ob o=Z X)(h:St fr.we fr.Se (OS vs fr cx σ.ob) Γ w):St fr.we fr.Se (Ki vs (o,X)::OS vs fr cx (yF σ.ob o)) Γ w:=h.perm<|jC a
def ru{ob:N (K×Od)}{o:K}{X Y:Od}{Γ:N FF}(a:xA ob o=Z X)(h:St fr.we fr.Se (Ki vs (o,Y)::OS vs fr cx (yF ob o)) Γ w):St fr.we fr.Se (OS vs fr cx<|km ob o Y) Γ w:=by
 obtain⟨h1,b⟩:=VI a;have:=jC (vs:=vs) (fr:=fr) (cx:=cx) h1;rw[b]at this;exact h.perm this.symm
def im{o o2:K}{X Y:Od}{Γ:N FF}(a:E o o2=I)(b:xA σ.ob o=Z X)(hc:xA σ.ob o2=Z Y)(h:St fr.we fr.Se (OS vs fr cx σ.ob) Γ w):
 St fr.we fr.Se (Ki vs (o,X)::Ki vs (o2,Y)::OS vs fr cx (yF (yF σ.ob o) o2)) Γ w:=by
 have h1:xA (yF σ.ob o) o2=Z Y:=by rw[U5<|λe=>by subst e;simp at a];exact hc
 exact(h.perm<|jC b).perm<|(jC h1).cons _
def moU{o:K}{u:wN}{X:Od}:Ki (XX vs o u) (o,X)=Ki (λ_=>u) (0,X):=by cases X<;>simp only[Ki,wi]
def zqY{S:K->Prop}{w:wP}:(Yv [.slice wF 0 0]).p S 0 (xeE (.slice wF 0 0)).toList w:=⟨_,O,O,O⟩
def zjk(a:yX P cf.tt){k:Sg->V R}(hd:wJ cx d=wL)(h:TD cf cx σ d t x y k=Z r):iR P cx ⟨d,.makeSlice t x y,ty,pos,aft,g⟩ σ k r:=by
 unfold TD at h;split at h;rename_i s E B ht;have⟨hi,h⟩:=yf h;split at h;rename_i L E1 M n f hn;have⟨j,C,h⟩:=zbt h;have⟨i,h⟩:=ZO h;have⟨xs,l,h⟩:=xN h;have F:=Tf a f O;refine⟨_,h,xbz _,λfr vs env w G=> ?_⟩;have⟨m,o⟩:=G;have⟨S0,_,c⟩:=o.ex;have q:ev env x=.int .i64 (j:J):=by rw[(w6 hn<|zL c x).1,C]
 have A:=(a _ _ f).2.1;refine(RV (e:=Yv [.slice wF 0 0]) (z:=0) (xs:=xs) (n:=j) (qB a ht) F q ((zcf hi).symm.trans q) A i (λ_ _=>zqY) l w o).mono ?_;rintro v w' ⟨b,rfl,_,H⟩;have hc:X xs=j:=by rw[l];exact xaM
 have h1:=H.closeF 0 O (by rw[hc];exact So _)<|zgH A i;rw[hc]at h1;refine Jy (vs:=vs) (mk:=.mw) (u:=U9 (.slice (Z ⟨b,0,wF⟩) j j) [.slice wF 0 0]) m hd m.o1 (λ_=>O) (λS w=>by simp only[vC,wi];rfl) ?_;rw[moU];refine St.grp.2<|St.pr (p:=X ([.slice wF 0 0]:N wN)=X ([[]]:N (N s.D))) O ?_;have K:=St.nilO (e:=s.rep) (E:=E1) h1;exact K.perm<|xdT ..;cases h
 cases h
def zmz{a:V UL}{n c:K}:(Value.slice a n c).oneCell'=wL/\(Value.slice a n c).cells= #[.slice a n c]:=⟨O,O⟩
def Ei{α:Type}{e:zT α}{E:wT}{v:wN}{xs:N α}{S:K->Prop}(h:(mO e E v xs).p S w):v.oneCell'=wL/\v.cells= #[v]:=by rcases dM h with⟨rfl,_⟩|⟨b,cap,rfl,_⟩<;>exact zmz
def znF(b:yX P cf.tt)(l:kZ P cf.tt){n:K}{ps:ut (K×wW)}{k:Sg->V R}(hd:wJ cx d=wL)(h:ze9 cf cx σ d t n ps.toList k=Z r):iR P cx ⟨d,.buildSlice t n ps,ty,pos,aft,g⟩ σ k r:=by
 unfold ze9 at h;split at h;rename_i s E B x ht o;have⟨hn,h⟩:=yf h;have hn:=zY hn;subst hn;split at h;rename_i o2 hi;split at h;rename_i J E1 ys c;have⟨q,h⟩:=yr h;cases q;have⟨bytes,f,z⟩:=K2 b l ht;refine⟨_,h,xbz _,λfr vs env w A=> ?_⟩;have⟨j,hc⟩:=A;have⟨S0,_,a⟩:=hc.ex;have hl:ev env x=vs o2:=zj hi<|zL a x;have⟨q1,q2⟩:=wE (qM c hc) (i:=0) (m:=mO s.rep E1 (vs o2) ys) O λS hp=>Ei hp;have C:jz [(0,vs o2)]=[vs o2]:=by rw[zmj,q2]
 refine(zgz (e:=Yv [vs o2]) (zs:=[0]) (len:=1) (parts:=ps.toList) (vs:=[(0,vs o2)]) (qB b ht) z (xdm) O (by show 1*1<=_;lia) (by rw[o];simp[hl]) (λS w F=>⟨by rw[q2];rfl,wR⟩) (λS w F=> ?_) w<|qM c hc).mono ?_;rw[C];exact⟨[vs o2],[],O,⟨_,O,q1,O⟩,O⟩
 rintro v w' ⟨L,rfl,_,G⟩;refine Jy (vs:=vs) (mk:=.mw) (u:=U9 v [vs o2]) j hd (λe H=>j.o1 e<|uR e H) (λ_=>O) (λS w=>by simp only[vC,wi];rfl) ?_;rw[moU];exact St.grp.2<|St.pr (p:=X ([vs o2]:N wN)=X ([ys]:N (N s.D))) O G;cases h
 cases h
 cases h
def ze4(C:yX P cf.tt){m:wT}{k:Sg->V R}(hd:wJ cx d=wL)(h:NK cf σ d m k=Z r):iR P cx ⟨d,.alloc m,ty,pos,aft,g⟩ σ k r:=by
 unfold NK at h;split at h;rename_i s E B ht;have hi:=Tf C ht O;refine⟨_,h,xbz _,λfr vs env w o=> ?_⟩;have⟨f,q⟩:=o;refine(tQ (e:=(Yv [.slice wF 0 0]).c) (z:=0) hi (λS w=>zqY (S:=S) (w:=w)) w q).mono ?_;rintro v w' ⟨b,rfl,_,A⟩;refine Jy (vs:=vs) (mk:=.mw) (u:=U9 (.pointer<|some ⟨b,0,wF⟩) [.slice wF 0 0]) f hd f.o1 (λ_=>O) (λS w=>by simp only[vC,wi];rfl) ?_;rw[moU];refine St.grp.2<|St.pr (p:=X ([.slice wF 0 0]:N wN)=1) O ?_;exact(St.nilO (e:=s.rep) (E:=E)<|A.toP 0 O).perm<|xdT ..;rename_i a n B ht;split at h;rename_i i E1 L;split at h;rename_i off s J st j;have⟨F,hc,M,G,_,H⟩:=(C _ _ ht).1;simp only at hc G H;refine⟨_,h,xbz _,λfr vs env w o=> ?_⟩;have⟨f,q⟩:=o;refine(tQ (e:=b7 a.rep off (st ([]:N s.D)) [.slice wF 0 0]) (z:=(a.z,0)) hc (λS w=>zlx j (G S w) (H _ _ _ _ _ _ j) O) w q).mono ?_;rintro v w' ⟨b,rfl,_,A⟩;refine Jy (vs:=vs) (mk:=.mw) (u:=U9 (.pointer<|some ⟨b,0,wF⟩) [.slice wF 0 0]) f hd f.o1 (λ_=>O) (λS w=>by simp only[vC,wi];rfl) ?_;rw[moU];refine St.grp.2<|St.pr (p:=X ([.slice wF 0 0]:N wN)=1/\vrP s (xk n a i)) ⟨O,_,_,_,j⟩ ?_;have K:=(St.nilO (e:=s.rep) (E:=E1)<|A.toP 0 O).perm<|xdT ..;show St _ _ (mP (b7 a.rep (XO<|xk n a i) (Zl s (xk n a i) []) [.slice wF 0 0]) m _ (a.z,0)::mO s.rep E1 (.slice wF 0 0) []::_) _ _;rw[j];have hp:Zl s (Z ⟨off,.l s,J,st⟩) ([]:N s.D)=st ([]:N s.D):=kW λz=>pJ;rw[hp];exact K;cases h
 cases h
 cases h
theorem zld{v:V Dv}{o:K}(h:Pc σ v=Z o):∃t n i E b E1 z xs,v=Z (.vf o t n i)/\xA σ.ob o=Z (.vr t E b E1 n i z xs):=by
 unfold Pc at h;split at h;rename_i e c n0 i;split at h;rename_i s E b E1 n j z xs f;cases a:xaf i j && (xaf n0 n && (Ty.same c s).isSome)<;>rw[a]at h
 cases h
 cases h;rw[xad,xad]at a;obtain rfl:=zY a.1;obtain rfl:=zY a.2.1;obtain rfl:=JS a.2.2;grind
 cases h
 cases h
def Eo{hv:N wN}(h:X hv=1):hv=[hv.headD Z0]:=by
 match hv,h with
 |[a],_=>rfl
theorem zjH(C:yX P cf.tt){o:K}{k:Sg->V R}(hd:wJ cx d=wL)(D:xz cx σ x=Z (.mw o))(h:zaw cf σ d t o k=Z r):iR P cx ⟨d,.load t x,ty,pos,aft,g⟩ σ k r:=by
 unfold zaw at h;split at h;rename_i q E' B s E a xs ht i;have⟨l,F,_⟩:=YS C ht;refine⟨_,h,xbz _,λfr vs env w G=> ?_⟩;have⟨m,hc⟩:=G;have⟨S0,_,j⟩:=hc.ex;have hi:ev env x=yO (vs o):=zj D<|zL j x;have⟨n,h1⟩:=St.unpr<|St.grp.1<|qM i hc;have⟨b,v,H⟩:=h1.openP 0 O;refine(Sw (VH (e:=(Yv<|xT<|vs o).c) (f:=Yv<|xT<|vs o) (z':=0) (up:=id) 0 O (hi.trans v) (Sub.self (Yv<|xT<|vs o) 0) F) w H).mono ?_;rintro u w' ⟨_,rfl,_,z⟩;have⟨S1,_,J⟩:=z.ex;have hu:=zgI J.1;have hl:=Eo n;have L:u=(xT<|vs o).headD Z0:=by grind
 have A:=(z.weak (Δ:=GS P vs env fr cx σ) λS w h=>h.2).toP 0 O;rw[<-v]at A;refine Jy (vs:=vs) (mk:=.ow) (u:=u) m hd (λe M=> ?_) (λ_=>O) (λS w=>KI S w) ?_;have⟨N,g1,Q⟩:=VJ i e M;rw[<-Q];exact m.o1 N g1;rw[Uw,L];have T:St fr.we fr.Se (mO s.rep E ((xT<|vs o).headD Z0) xs::(Ki vs (o,.ho a)::OS vs fr cx (yF σ.ob o))) (GS P vs env fr cx σ) w':=by have U:St fr.we fr.Se (mP (Yv<|xT<|vs o).c a (yO<|vs o) 0::mO s.rep E ((xT<|vs o).headD Z0) xs::OS vs fr cx (yF σ.ob o)) (GS P vs env fr cx σ) w':=A;have h6:=St.pr (p:=X (xT<|vs o)=1) n U;have h7:St fr.we fr.Se ([mPr<|X (xT<|vs o)=1,mP (Yv<|xT<|vs o).c a (yO<|vs o) 0]++mO s.rep E ((xT<|vs o).headD Z0) xs::OS vs fr cx (yF σ.ob o)) (GS P vs env fr cx σ) w':=h6;exact(St.grp.2 h7).perm<|xdT ..
 have hp:=jC (vs:=vs) (fr:=fr) (cx:=cx) (VI (Y:=.ho a) i).1;rw[(VI (Y:=.ho a) i).2]at hp;exact T.perm<|hp.symm.cons _;cases h
def zfn(c:yX P cf.tt){ps:ut (K×wW)}{k:Sg->V R}(hd:wJ cx d=wL)(h:Ll cf cx σ d t ps.toList k=Z r):iR P cx ⟨d,.build t ps,ty,pos,aft,g⟩ σ k r:=by
 unfold Ll at h;split at h;rename_i e n B i _ ht hv;have⟨f,j,o,l,_,hi⟩:=(c _ _ ht).1;have⟨a,_,⟨fs,v,pl,A,m⟩,_⟩:=(c _ _ ht).2.2.2;simp only at j o l hi a m;have⟨hn,h⟩:=yf h;split at h;rename_i off s T st b
 have⟨z,h,C⟩:=Tz h;have D:∀F,ES P ⟨d,.build t ps,ty,pos,aft,g⟩ cx σ F [(0,.dz e z n i)]:=λF=>uG λenv w S vs U hl=>by
  have E:=C P vs env S w λx G=>yK hl (by simpa[xaB]using G);refine⟨_,_,_,_,[hbF n e (ps.toList.map λq:K×wW=>(q.1,ev env q.2)) e.z z],[],HN (e:=e.rep) (z0:=e.z) (z:=z) (parts:=ps.toList) (a▸j) a l ⟨fs,v,A⟩ O (λout=>out[off]? =Z (.slice wF 0 0))<|λS w h cs H hc=> ?_,wR,⟨E,wR⟩,λu w' J L=>zu ⟨L.1,_,b,J⟩⟩;have⟨out,q1,q2,M⟩:=HB.fill m h.1 hc;refine⟨out,q1,q2,?_⟩;rw[M i _ b (λp hp=> ?_) O,H];exact hi _ _ _ _ _ _ b;obtain⟨q,N,rfl⟩:=xas.1 hp;have:=xaT.1 hn q N;intro e1;simp only at e1;rw[e1]at this;simp at this
 exact⟨_,h,So _,λfr vs env w Q=>zl8 (D _).mono hd (by rfl) Q⟩;cases h
 cases h
def zjL(N:yX P cf.tt){o:K}{k:Sg->V R}(hd:wJ cx d=wL)(hi:Pc σ (xz cx σ x)=Z o)(h:Th cf σ d t o k=Z r):iR P cx ⟨d,.load t x,ty,pos,aft,g⟩ σ k r:=by
 have⟨t0,n0,i,m,c,a,z',l,hn,s⟩:=zld hi;unfold Th at h;split at h;rename_i s0 q B s1 E s2 E1 n j z xs ht v;rw[s]at v;simp only[xau,Od.vr.injEq]at v;obtain⟨rfl,rfl,rfl,rfl,rfl,rfl,Q,T⟩:=v;cases Q;cases T;have⟨hg,h⟩:=yf h;have⟨C,U,_⟩:=YS N ht;refine⟨_,h,xbz _,λfr vs env w hR=> ?_⟩;have⟨D,F⟩:=hR;have⟨S0,_,A⟩:=F.ex;have⟨b',f,G,hf,hv⟩:=zj hn<|zL A x;have⟨⟨hc,hw⟩,h1⟩:=St.unpr<|St.grp.1<|qM s F;have⟨b,H,h2⟩:=h1.openP 0 O;rw[H]at G;cases G;have hl:XO (xk n0 t0 i)=f.off:=by rw[hf];rfl
 have hm:ev env x=.pointer (Z ⟨b',XO<|xk n0 t0 i,wF⟩):=by rw[hl];exact hv.trans<|by rw[xaJ]
 refine(Sw (VH (e:=b7 t0.rep (XO<|xk n0 t0 i) (Zl c (xk n0 t0 i) [])<|xT<|vs o) (f:=Yv<|xT<|vs o) (z':=0) (up:=λr=>(z',r)) 0 O hm Sub.hole U) w h2).mono ?_;rintro u w' ⟨_,rfl,_,J⟩;have⟨S1,_,hy⟩:=J.ex;have L:=zgI hy.1;have hA:=Eo hc;have hC:u=(xT<|vs o).headD Z0:=by rw[hA]at L;simpa using L.symm
 have M:=(J.weak (Δ:=GS P vs env fr cx σ) λS w h=>h.2).toP 0 O;rw[<-H]at M;refine Jy (vs:=vs) (mk:=.ow) (u:=u) D hd (λe he=> ?_) (λ_=>O) (λS w=>KI S w) ?_;have⟨e',g1,g2⟩:=VJ s e he;rw[<-g2];exact D.o1 e' g1;rw[Uw,hC];have h4:St fr.we fr.Se (mO c.rep a ((xT<|vs o).headD Z0) l::(Ki vs (o,.vh t0 m c a n0 i z')::OS vs fr cx (yF σ.ob o))) (GS P vs env fr cx σ) w':=by have h5:St fr.we fr.Se (mP (b7 t0.rep (XO<|xk n0 t0 i) (Zl c (xk n0 t0 i) [])<|xT<|vs o) m (yO<|vs o) (z',0)::mO c.rep a ((xT<|vs o).headD Z0) l::OS vs fr cx (yF σ.ob o)) (GS P vs env fr cx σ) w':=M;have h6:=St.pr (p:=X (xT<|vs o)=1/\vrP c (xk n0 t0 i)) ⟨hc,hw⟩ h5;have h7:St fr.we fr.Se ([mPr<|X (xT<|vs o)=1/\vrP c (xk n0 t0 i),mP (b7 t0.rep (XO<|xk n0 t0 i) (Zl c (xk n0 t0 i) [])<|xT<|vs o) m (yO<|vs o) (z',0)]++mO c.rep a ((xT<|vs o).headD Z0) l::OS vs fr cx (yF σ.ob o)) (GS P vs env fr cx σ) w':=h6;exact(St.grp.2 h7).perm<|xdT ..
 have hp:=jC (vs:=vs) (fr:=fr) (cx:=cx) (VI (Y:=.vh t0 m c a n0 i z') s).1;rw[(VI (Y:=.vh t0 m c a n0 i z') s).2]at hp;exact h4.perm<|hp.symm.cons _;cases h
structure ziv(a b:wN):Prop where
 out:yO b=yO a
 hv:∀(r:K) (v:wN),(xT a)[r]? =Z v->(xT b)[r]? =Z v
def zgK{o n:K}(c:ziv (vs o) (vs n)){dv:Dv}{v:wN}{S:K->Prop}(h:(vC P vs dv v).p S w):(vC P vs (zlj o n dv) v).p S w:=by
 cases dv with
 |mw p=>
  show(vC P vs (bif E p o then .mw n else .mw p) v).p S w;cases a:E p o
  exact h;obtain rfl:=zY a;exact(show v=yO (vs p)from h).trans c.out.symm
 |mv p l m=>
  show(vC P vs (bif E p o then .mv n l m else .mv p l m) v).p S w;cases a:E p o
  exact h;obtain rfl:=zY a;simp only[vC,Wf]at h⊢;rw[c.out];exact h
 |hp p j=>
  show(vC P vs (bif E p o then .hp n j else .hp p j) v).p S w;cases a:E p o
  exact h;obtain rfl:=zY a;simp only[vC,Wf]at h⊢;rw[c.out];exact h
 |rw p r=>
  show(vC P vs (bif E p o then .rw n r else .rw p r) v).p S w;cases a:E p o
  exact h;obtain rfl:=zY a;exact c.hv _ _ h
 |rp p t r j f=>
  show(vC P vs (bif E p o then .rp n t r j f else .rp p t r j f) v).p S w;cases a:E p o
  exact h;obtain rfl:=zY a;have⟨h1,b,m,cap,e,i,k⟩:=h;exact⟨h1,b,m,cap,c.hv _ _ e,i,k⟩
 |_=>exact h
theorem zhQ{o n p:K}{v:Dv}(h:vt (zlj o n v)=Z p):vt v=Z p\/p=n:=by
 cases v with
 |mw q=>
  have h:vt (bif E q o then Dv.mw n else .mw q)=Z p:=h;cases a:E q o<;>rw[a]at h
  grind;cases h;exact .inr O
 |mv q l m=>
  have h:vt (bif E q o then Dv.mv n l m else .mv q l m)=Z p:=h;cases a:E q o<;>rw[a]at h
  grind;cases h;exact .inr O
 |hp q j=>
  have h:vt (bif E q o then Dv.hp n j else .hp q j)=Z p:=h;cases a:E q o<;>rw[a]at h
  grind;cases h;exact .inr O
 |rw q r=>
  have h:vt (bif E q o then Dv.rw n r else .rw q r)=Z p:=h;cases a:E q o<;>rw[a]at h
  grind;cases h;exact .inr O
 |rp q t r j f=>
  have h:vt (bif E q o then Dv.rp n t r j f else .rp q t r j f)=Z p:=h;cases a:E q o<;>rw[a]at h
  exact .inl h;cases h;exact .inr O
 |_=>exact .inl h
theorem Pa{o n:K}:∀{rg:N (K×K×Dv)},∀e∈zjS o n rg,∃a∈rg,e=(a.1,a.2.1,zlj o n a.2.2)
 |[],e,he=>wS he H1
 |(t,i,v)::rg,e,he=>by
  obtain rfl|he:=xah.1 he
  simp_all;have⟨a,h1,b⟩:=Pa e he;grind
theorem Pg{o n:K}:∀{rg:N (K×K×Dv)},∀e∈FY o n rg,e∈rg\/∃a∈rg,∃p,a.2.2=.mw p/\e=(a.1,a.2.1,bif E p o then .mw n else .mw p)
 |[],e,he=>wS he H1
 |(t,i,v)::rg,e,he=>by
  have b:∀e∈FY o n rg,e∈(t,i,v)::rg\/∃a∈(t,i,v)::rg,∃p,a.2.2=.mw p/\e=(a.1,a.2.1,bif E p o then .mw n else .mw p):=λe he=>by
   obtain h|⟨a,h1,p,c,f⟩:=Pg e he
   simp_all;grind
  cases v with
  |mw p=>
   rcases xah.1 (show e∈(t,i,bif E p o then Dv.mw n else .mw p)::FY o n rg from he)with rfl|he
   simp_all;grind
  |_=>
   obtain rfl|he:=xah.1 he
   exact .inl<|IR;exact b e he
theorem oy{u v:wN}{o:K}{X:Od}{ob:N (K×Od)}{rg:N (K×K×Dv)}(m:Bd cx σ)(hd:wJ cx d=wL)(n:∀e∈ob,e.1<σ.nx)
 (hc:∀e∈rg,∃a∈qt σ.rg d [],e.1=a.1/\e.2.1=a.2.1/\(∀p,vt e.2.2=Z p->vt a.2.2=Z p\/p=σ.nx)/\∀v S w,(vC P (XX vs σ.nx u) a.2.2 v).p S w->(vC P (XX vs σ.nx u) e.2.2 v).p S w)
 (hi:St fr.we fr.Se (Ki (XX vs σ.nx u) (σ.nx,X)::OS vs fr cx ob) (GS P vs env fr cx σ) w):nH P fr cx σ.nx vs ⟨σ.nx+1,rg,(σ.nx,X)::ob⟩ (put env d v) w:=by
 have⟨c,q⟩:cU P fr cx ⟨σ.nx+1,qt σ.rg d [],(σ.nx,X)::ob⟩ (XX vs σ.nx u) (put env d v) w:=by refine Iz (σ':=⟨σ.nx+1,qt σ.rg d [],(σ.nx,X)::ob⟩) (l:=[]) (vs:=vs) (vs':=XX vs σ.nx u) (Γl:=[]) m hd O (xbz _) (λo j=>kJ j) (λ_ b=>wS b H1) ?_ (λS w _ e b=>wS b H1) ?_;grind;show St _ _ (Ki (XX vs σ.nx u) (σ.nx,X)::OS (XX vs σ.nx u) fr cx ob) _ _;rw[MI m n];exact hi
 refine⟨XX vs σ.nx u,λo j=>kJ j,⟨c.o1,c.o2,λe b p hp=> ?_,c.r2⟩,q.weak λS w h=>zB.append (kG.2 λf s=> ?_)<|zB.right h⟩;have⟨a,h1,_,_,k,_⟩:=hc e b;obtain h|rfl:=k p hp
 exact c.r1 a h1 p h;simp_all;obtain⟨e,b,rfl⟩:=xas.1 s;have⟨a,h1,k,z,_,A⟩:=hc e b;have B:=J8 (zB.left h) (t:=a.1) (i:=a.2.1) (d:=a.2.2) h1;rw[k,z];exact Js B λu C=>A u S w C
def zjF{u:wN}{o:K}(b:ziv (XX vs σ.nx u o) (XX vs σ.nx u σ.nx)):∀e∈zjS o σ.nx σ.rg,∃a∈qt σ.rg wF [],e.1=a.1/\e.2.1=a.2.1/\(∀p,vt e.2.2=Z p->vt a.2.2=Z p\/p=σ.nx)/\∀v S w,(vC P (XX vs σ.nx u) a.2.2 v).p S w->(vC P (XX vs σ.nx u) e.2.2 v).p S w:=by intro e c;obtain⟨a,h1,rfl⟩:=Pa e c;exact⟨a,h1,O,O,λp hp=>zhQ hp,λv S w h=>zgK b h⟩
def sr{u:wN}{o:K}{rg:N (K×K×Dv)}(f:yO (XX vs σ.nx u σ.nx)=yO (XX vs σ.nx u o)):∀e∈FY o σ.nx rg,∃a∈rg,e.1=a.1/\e.2.1=a.2.1/\(∀p,vt e.2.2=Z p->vt a.2.2=Z p\/p=σ.nx)/\∀v S w,(vC P (XX vs σ.nx u) a.2.2 v).p S w->(vC P (XX vs σ.nx u) e.2.2 v).p S w:=by
 intro e i;obtain h|⟨a,h1,p,j,rfl⟩:=Pg e i
 exact⟨e,h,O,O,λp hp=> .inl hp,λv S w h=>h⟩;refine⟨a,h1,O,O,λq c=> ?_,λv S w h=> ?_⟩;skip;cases b:E p o
 simp_all;simp only[b]at c;cases c;exact .inr O
 rw[j]at h;cases b:E p o
 exact h;have hp:=zY b;subst hp;exact h.trans f.symm
end
end
section
section
variable{P:jP}{cf:Cf}{fr:Fr}{cx σ:Sg}{vs vs':wr->wN}{env:y6}{w:wP}{R:Type}{r:R}
 {d:ww Z4}{ty t yt:wT}{pos:String}{aft:ut Edge}{g:ww (wr×v6)}{x y:wW}
def zaC{α:Type}{a:N (N α)}{r:K}(h:r<X a):a[r]? =Z (uO a r):=by simp_all [uO]
def gH{o:K}{s:Ty}{E E1:wT}{a:N (N s.D)}{ix:N K}{ms:N MF}{Γ:N FF}(h:St fr.we fr.Se (Ki vs (o,.mat s E E1 a ix)::ms) Γ w):
 X (xT<|vs o)=X a/\St fr.we fr.Se ((mO (Yv<|xT<|vs o) E (yO<|vs o) ix::vG s.rep E1 (xT<|vs o) a)++ms) Γ w:=St.unpr<|St.grp.1 h
def NY{u:wN}{s:Ty}{E E1:wT}{a:N (N s.D)}{ix:N K}{ms:N MF}{Γ:N FF}(hl:X (xT u)=X a)(h:St fr.we fr.Se ((mO (Yv<|xT u) E (yO u) ix::vG s.rep E1 (xT u) a)++ms) Γ w):
 St fr.we fr.Se (AE s.rep E E1 u a ix::ms) Γ w:=St.grp.2<|St.pr hl h
def zpi{k:Sg->V R}{n:TI}(H:yX P cf.tt)(ht:Yc cf t=Z n){o p j:K}{e:Ty}{f:Fl e.D}(s:xz cx σ x=Z (.rp o e p j f))(h:kD σ n.ty (xz cx σ x) (xz cx σ y) k=Z r):
 iR P cx ⟨wF,.store t x y,ty,pos,aft,g⟩ σ k r:=by
 have⟨u,A,_⟩:=YS H ht;rw[s]at h;simp only[kD]at h;split at h;rename_i s' E E1 a ix hc c _;have⟨J,h1⟩:=yr h;cases J;have⟨q,L,M⟩:=VN h1;have⟨N,Q,h⟩:=xN L;have⟨hc⟩:=hc;refine⟨_,h,So _,λfr vs env w T=> ?_⟩;have⟨U,B⟩:=T;have⟨S0,_,l⟩:=B.ex;have⟨Y,b,m,cap,hv,hj,hy⟩:=zj s<|zL l x;have C:=qM c B;have⟨hn,hp⟩:m=X (uO (α:=e.D) a p)/\p<X a:=wE C (i:=0) O λS hp=>⟨pj (Ag (show(AE e.rep E E1 (vs o) a ix).p S w from hp) hv).1 O,(Ag (show(AE e.rep E E1 (vs o) a ix).p S w from hp) hv).2⟩;have⟨hl,hg⟩:=gH C;have hi:=zj4 (e:=e.rep) (E:=E) (E1:=E1) (v:=yO<|vs o) (ix:=ix) hv (zaC (α:=e.D) hp)<|OS vs fr cx<|yF σ.ob o;have⟨b',F,hA,hC,hD,hs⟩:=hg.openO (p+1) hi W;cases hA;rw[<-hc]at A;have hm:=(Sub.rowT0 e.rep cap (uO (α:=e.D) a p) j ((uO (α:=e.D) a p).getD j e.z)<|getD_some e.z W).comp<|Y<|(uO (α:=e.D) a p).getD j e.z;refine(uq (f:=f.f.rep) (y':=q) (p+1) (vq hi) hy O hm A (λS w ha=>M P vs env S w<|zL ha y) w hs).mono ?_;rintro v w' ⟨_,rfl,_,hE⟩;refine iB (vs:=vs) U c<|ru c ?_;have hd:X (xga (uO (α:=e.D) a p) j<|f.set q<|(uO (α:=e.D) a p).getD j e.z)=X (uO (α:=e.D) a p):=xbg ..;have G:=hE.closeF (p+1) (vq<|vq hi) (by rw[hd];exact hC) hD;rw[set_set,set_set,hd,PT hv hp hl]at G;rw[Q];exact NY (by rw[show(zpj (α:=e.D) a p _).length=X a from xbg ..];exact hl) G
 cases h
def zpc{k:Sg->V R}{s:TI}(H:yX P cf.tt)(J:Yc cf t=Z s){o j a p:K}(u:xz cx σ x=Z (.hp o j))(l:xz cx σ y=Z (.rw a p))(h:kD σ s.ty (xz cx σ x) (xz cx σ y) k=Z r):
 iR P cx ⟨wF,.store t x y,ty,pos,aft,g⟩ σ k r:=by
 have⟨z,hd,_⟩:=YS H J;rw[u,l]at h;simp only[kD]at h;have⟨ht,h⟩:=yf h;obtain rfl:=zY ht;split at h;rename_i A E E1 c ix q n L;have⟨iz,M,h⟩:=xN h;refine⟨_,h,So _,λfr vs env w N=> ?_⟩;have⟨Q,B⟩:=N;have⟨S0,_,e⟩:=B.ex;have⟨b,m,cap,hv,hj,T⟩:=zj u<|zL e x;have U:(xT<|vs a)[p]? =Z (ev env y):=zj l<|zL e y;have C:=qM n B;have⟨hn,hi⟩:m=X ix/\(ev env y).oneCell'=true:=wE C (i:=0) O λS hp=>⟨pj (Mo (show(AE A.rep E E1 (vs a) c ix).p S w from hp)).2.1 hv,(Ei (Ag (show(AE A.rep E E1 (vs a) c ix).p S w from hp) U).1).1⟩;have⟨hl,Y⟩:=gH C;have⟨b',D,F,hC,hD,hs⟩:=Y.openO 0 O W;rw[hv]at F;cases F;have hm:=Sub.rowT0 (Yv<|xT<|vs a) cap ix j (ix.getD j 0) (getD_some 0 W);rw[L]at hd;refine(uq (f:=Yv<|xT<|vs a) (y':=p) 0 O T O hm hd (λS w ha=> ?_) w hs).mono ?_
 exact zby (zj l<|zL ha y) hi
 rintro v w' ⟨_,rfl,_,hE⟩;refine iB (vs:=vs) Q n<|ru n ?_;have hc:X (ix.set j p)=X ix:=xbg ..;have G:=hE.closeF 0 O (by rw[hc];exact hC) hD;rw[hc,<-hv]at G;rw[M];exact NY hl G;cases h
theorem zk6{u:wN}{o:K}{hv:N wN}(c:xT u=xT (vs o)++hv)(a:yO u=yO (vs o))(b:o<σ.nx):ziv (XX vs σ.nx u o) (XX vs σ.nx u σ.nx):=by rw[kJ b,wi];refine⟨a,λr v h=> ?_⟩;grind
def sQ{o:K}{X:Od}(a:Bd cx σ)(h:xA σ.ob o=Z X):o<σ.nx:=by have⟨i,h1,_⟩:=vb h;exact a.o1 _<|xbt h1
def oj(a:Bd cx σ){o p:K}:∀e∈yF (yF σ.ob o) p,e.1<σ.nx:=λe b=>a.o1 e<|uR e<|uR e b
def zpZ{k:Sg->V R}{n:TI}(J:yX P cf.tt)(L:Yc cf t=Z n){o j o2:K}(s:xz cx σ x=Z (.hp o j))(z:xz cx σ y=Z (.ow o2))(h:kD σ n.ty (xz cx σ x) (xz cx σ y) k=Z r):
 iR P cx ⟨wF,.store t x y,ty,pos,aft,g⟩ σ k r:=by
 have⟨A,B,_⟩:=YS J L;rw[s,z]at h;simp only[kD]at h;have⟨C,h⟩:=yf h;rw[xcM]at C;split at h;rename_i e E E1 a ix s2 E2 ys q D M N;have⟨Q,h0⟩:=yf h;obtain rfl:=zY Q;have⟨T,h1⟩:=yr h0;cases T;have⟨U,Y,h2⟩:=xN h1;have⟨iz,hi,h3⟩:=xN h2;refine⟨_,h3,xbz _,λfr vs env w hR=> ?_⟩;have⟨l,F⟩:=hR;have⟨S0,_,c⟩:=F.ex;have⟨b,m,cap,hv,hj,hD⟩:=zj s<|zL c x;have hF:ev env y=vs o2:=zj z<|zL c y;have hc:=im C D M F;have hn:m=X ix:=wE hc (i:=0) O λS hp=>pj (Mo (show(AE e.rep E E1 (vs o) a ix).p S w from hp)).2.1 hv;have⟨hm,_⟩:(vs o2).oneCell'=true/\_:=wE hc (i:=1) (m:=mO e.rep E1 (vs o2) ys) O λS hp=>Ei hp;have hl:=(gH hc).1
 have hg:St fr.we fr.Se ((mO (Yv<|xT (vs o)++[vs o2]) E (yO<|vs o) ix::vG e.rep E1 (xT (vs o)++[vs o2]) (a++[ys]))++OS vs fr cx (yF (yF σ.ob o) o2)) (GS P vs env fr cx σ) w:=
  St.grp.1 (St.adopt hl<|St.grp.2 (gH hc).2)
 have⟨b',G,H,hG,hH,hs⟩:=hg.openO 0 O W;rw[hv]at H;cases H;have hr:=Sub.rowT0 (Yv<|xT (vs o)++[vs o2]) cap ix j (ix.getD j 0) (getD_some 0 W);rw[N]at B;refine(uq (f:=Yv<|xT (vs o)++[vs o2]) (y':=X a) 0 O hD hF hr B (λS w ha=>zby (by rw[<-hl];simp) hm) w hs).mono ?_;rintro v w' ⟨_,rfl,_,hI⟩;have hd:X (ix.set j (X a))=X ix:=xbg ..;have ht:=hI.closeF 0 O (by rw[hd];exact hG) hH;rw[hd,<-hv]at ht;refine oy (o:=o) (u:=U9 (yO<|vs o)<|xT (vs o)++[vs o2]) l O (oj l) (zjF<|zk6 O O<|sQ l D) ?_;rw[moU,hi,Y];refine NY (u:=U9 (yO<|vs o)<|xT (vs o)++[vs o2]) (by show(xT (vs o)++[vs o2]).length=X (a++[ys]);simp[hl]) ht
 cases h
def zp0{k:Sg->V R}{C:TI}(Q:yX P cf.tt)(T:Yc cf t=Z C){o o2:K}(D:xz cx σ x=Z (.mw o))(E:xz cx σ y=Z (.ow o2))(h:kD σ C.ty (xz cx σ x) (xz cx σ y) k=Z r):
 iR P cx ⟨wF,.store t x y,ty,pos,aft,g⟩ σ k r:=by
 have⟨F,hc,_⟩:=YS Q T;rw[D,E]at h;simp only[kD]at h;have⟨hd,h⟩:=yf h;rw[xcM]at hd;split at h;rename_i a n s ys q G U Y
 refine⟨_,h,xbz _,λfr vs env w hR=> ?_⟩;have⟨z,H⟩:=hR;have⟨S0,_,j⟩:=H.ex;have hn:ev env x=yO (vs o):=zj D<|zL j x;have hq:ev env y=vs o2:=zj E<|zL j y;have J:=im hd G U H;have⟨hg,_⟩:(vs o2).oneCell'=true/\_:=wE J (i:=1) (m:=mO n.rep s (vs o2) ys) O λS hp=>Ei hp;have⟨hl,h1⟩:=St.unpr<|St.grp.1 J;have h1:St fr.we fr.Se (mP (Yv<|xT<|vs o).c a (yO<|vs o) 0::mO n.rep s (vs o2) ys::OS vs fr cx (yF (yF σ.ob o) o2)) (GS P vs env fr cx σ) w:=h1;have⟨b,L,h2⟩:=h1.openP 0 O;have hi:=Eo hl;have h3:=h2.conv (i:=0) (m:=mB (Yv<|xT<|vs o).c a b 0) (m':=mB (Yv<|xT (vs o)++[vs o2]).c a b 0) O O λS hp=>by
  have⟨cs,g1,u,l,A,B⟩:=hp;exact⟨cs,g1,u,by rw[xbb (xaz.1 l).1];exact l,A,B⟩
 rw[Y]at hc;refine(uq (e:=(Yv<|xT (vs o)++[vs o2]).c) (f:=Yv<|xT (vs o)++[vs o2]) (z':=0) (y':=1) (up:=id) 0 O (hn.trans L) hq (Sub.self (Yv<|xT (vs o)++[vs o2]) 0) hc (λS w ha=>zby (by rw[hi];rfl) hg) w h3).mono ?_;rintro v w' ⟨_,rfl,_,hr⟩;have h4:St fr.we fr.Se (mB (Yv<|xT (vs o)++[vs o2]).c a b 1::mO n.rep s (vs o2) ys::OS vs fr cx (yF (yF σ.ob o) o2)) (GS P vs env fr cx σ) w':=hr;have h5:=h4.conv (i:=0) (m:=mB (Yv<|xT (vs o)++[vs o2]).c a b 1) (m':=mB (Yv [vs o2]).c a b 0) O O λS hp=>by
  have⟨cs,g1,u,l,A,B⟩:=hp;refine⟨cs,g1,u,?_,A,B⟩;rw[hi]at l;exact l
 have M:=h5.toP 0 O;rw[<-L]at M;have h7:St fr.we fr.Se (mP (Yv [vs o2]).c a (yO<|vs o) 0::mO n.rep s (vs o2) ys::OS vs fr cx (yF (yF σ.ob o) o2)) (GS P vs env fr cx σ) w':=M;refine oy (o:=o) (u:=U9 (yO<|vs o) [vs o2]) z O (oj z) (sr<|by rw[wi,kJ<|sQ z G];rfl) ?_;rw[moU];exact St.grp.2<|St.pr (p:=X ([vs o2]:N wN)=1) O h7;cases h
def zqA{k:Sg->V R}{B:TI}(T:yX P cf.tt)(U:Yc cf t=Z B){o o2 a n0 i}(C:xz cx σ x=Z (.vf o a n0 i))(D:xz cx σ y=Z (.ow o2))(h:kD σ B.ty (xz cx σ x) (xz cx σ y) k=Z r):
 iR P cx ⟨wF,.store t x y,ty,pos,aft,g⟩ σ k r:=by
 have⟨F,hc,_⟩:=YS T U;rw[C,D]at h;simp only[kD]at h;have⟨hd,h⟩:=yf h;rw[xcM]at hd;split at h;rename_i s1 E c E1 n j z s3 E3 ys G ht;have⟨H,h0⟩:=yf h;rw[xad,xad,xad,xad]at H;have⟨⟨⟨g1,q⟩,Y⟩,g4,g5⟩:=H;obtain rfl:=zY g1;obtain rfl:=zY q;obtain rfl:=zY g4;obtain rfl:=JS g5;have hu:=JS Y;have⟨hv,hw⟩:=yr h0;cases hv;refine⟨_,hw,xbz _,λfr vs env w hR=> ?_⟩;have⟨A,J⟩:=hR;have⟨S0,_,s⟩:=J.ex;have⟨l,f,hi,hf,hz⟩:=zj C<|zL s x;have hA:ev env y=vs o2:=zj D<|zL s y;have K:=im hd G ht J;have⟨hk,_⟩:(vs o2).oneCell'=true/\_:=wE K (i:=1) (m:=mO c.rep E1 (vs o2) ys) O λS hp=>Ei hp;have⟨⟨hl,hC⟩,h1⟩:=St.unpr<|St.grp.1 K;have h1:St fr.we fr.Se (mP (b7 a.rep (XO<|xk n0 a i) (Zl c (xk n0 a i) [])<|xT<|vs o) E (yO<|vs o) (z,0)::mO c.rep E1 (vs o2) ys::OS vs fr cx (yF (yF σ.ob o) o2)) (GS P vs env fr cx σ) w:=h1;have⟨b,L,h2⟩:=h1.openP 0 O;have M:=Eo hl;obtain rfl:l=b:=by rw[L]at hi;cases hi;rfl
 have hn:XO (xk n0 a i)=f.off:=by rw[hf];rfl
 have hq:ev env x=.pointer (Z ⟨l,XO<|xk n0 a i,wF⟩):=by rw[hn];exact hz.trans<|by rw[xaJ]
 have h3:=h2.conv (i:=0) (m:=mB (b7 a.rep (XO<|xk n0 a i) (Zl c (xk n0 a i) [])<|xT<|vs o) E l (z,0)) (m':=mB (b7 a.rep (XO<|xk n0 a i) (Zl c (xk n0 a i) [])<|xT (vs o)++[vs o2]) E l (z,0)) O O λS hp=>by
  have⟨cs,g1,q⟩:=hp;exact⟨cs,g1,zke q⟩
 rw[hu]at hc;refine(uq (e:=b7 a.rep (XO<|xk n0 a i) (Zl c (xk n0 a i) [])<|xT (vs o)++[vs o2]) (f:=Yv<|xT (vs o)++[vs o2]) (z':=0) (y':=1) (up:=λr=>(z,r)) 0 O hq hA Sub.hole hc (λS w ha=>zby (by rw[M];rfl) hk) w h3).mono ?_;rintro v w' ⟨_,rfl,_,hD⟩;have h4:St fr.we fr.Se (mB (b7 a.rep (XO<|xk n0 a i) (Zl c (xk n0 a i) [])<|xT (vs o)++[vs o2]) E l (z,1)::mO c.rep E1 (vs o2) ys::OS vs fr cx (yF (yF σ.ob o) o2)) (GS P vs env fr cx σ) w':=hD;have h5:=h4.conv (i:=0) (m:=mB (b7 a.rep (XO<|xk n0 a i) (Zl c (xk n0 a i) [])<|xT (vs o)++[vs o2]) E l (z,1)) (m':=mB (b7 a.rep (XO<|xk n0 a i) (Zl c (xk n0 a i) []) [vs o2]) E l (z,0)) O O λS hp=>by
  have⟨cs,g1,q⟩:=hp;exact⟨cs,g1,zpD (by rw[M];rfl) q⟩
 have Q:=h5.toP 0 O;rw[<-L]at Q;have h7:St fr.we fr.Se (mP (b7 a.rep (XO<|xk n0 a i) (Zl c (xk n0 a i) []) [vs o2]) E (yO<|vs o) (z,0)::mO c.rep E1 (vs o2) ys::OS vs fr cx (yF (yF σ.ob o) o2)) (GS P vs env fr cx σ) w':=Q;refine oy (o:=o) (u:=U9 (yO<|vs o) [vs o2]) A O (oj A) (sr<|by rw[wi,kJ<|sQ A G];rfl) ?_;rw[moU];exact St.grp.2<|St.pr (p:=X ([vs o2]:N wN)=1/\vrP c (xk n0 a i)) ⟨O,hC⟩ h7;cases h
def zhG{k:Sg->V R}{u:TI}(M:yX P cf.tt)(Q:Yc cf t=Z u){o n i j E:K}{s a:Ty}{z:s.D}{f:Fl s.D}{X:s.D->Od}{rest:wN->N MF}
 (A:∀vs z,Ki vs (o,X z)=EJ (mPr (pM (xT<|vs o)=1/\vrP a (xk n s j))::mP (b7 s.rep (XO<|xk n s j) (Zl a (xk n s j) [])<|xT<|vs o) E (yO<|vs o) (z,0)::rest (vs o)))
 (T:xz cx σ x=Z (.vf o s n i)) (c:xA σ.ob o=Z (X z)) (hn:i≠j) (C:xk n s i=Z f) (h:jt (Ty.same f.f u.ty).isSome (BN (xz cx σ y) f.f λy=>B (f.set y z) λz=>k ⟨σ.nx,σ.rg,km σ.ob o<|X z⟩)=Z r):
 iR P cx ⟨wF,.store t x y,ty,pos,aft,g⟩ σ k r:=by
 have⟨F,hc,_⟩:=YS M Q;have⟨U,h⟩:=yf h;have hp:=JS U;have⟨q,l,Y⟩:=VN h;have⟨z2,hr,h⟩:=xN l;refine⟨_,h,So _,λfr vs env w hR=> ?_⟩;have⟨hB,hd⟩:=hR;have⟨S0,_,m⟩:=hd.ex;have h0:=qM c hd;rw[A]at h0;have⟨⟨hl,G⟩,h1⟩:=St.unpr<|St.grp.1 h0;have⟨b,H,l⟩:=h1.openP 0 O;have⟨b',f',hi,J,ht⟩:=zj T<|zL m x;obtain rfl:b'=b:=by rw[H]at hi;cases hi;rfl
 rw[C]at J;cases J;rw[<-hp]at hc;refine(uq (e:=b7 s.rep (XO<|xk n s j) (Zl a (xk n s j) [])<|xT<|vs o) (f:=f.f.rep) (z':=f.get z) (y':=q) (up:=λy=>(f.set y z,0)) 0 O (ht.trans<|by rw[xaJ]) O (zbl G C hn) hc (λS w ha=>Y P vs env S w<|zL ha y) w l).mono ?_;rintro v w' ⟨_,rfl,_,hu⟩;refine iB (vs:=vs) hB c<|ru c ?_;have L:=hu.toP 0 O;rw[<-H]at L;rw[A,hr];exact St.grp.2<|St.pr (p:=pM (xT<|vs o)=1/\vrP a (xk n s j)) ⟨hl,G⟩ L
def zpl{k:Sg->V R}{H:TI}(Y:yX P cf.tt)(hm:Yc cf t=Z H){o n2 i2:K}{t2:Ty}{s:t2.D}(J:xz cx σ x=Z (.mw o))(A:xz cx σ y=Z (.dz t2 s n2 i2))(h:kD σ H.ty (xz cx σ x) (xz cx σ y) k=Z r):
 iR P cx ⟨wF,.store t x y,ty,pos,aft,g⟩ σ k r:=by
 have⟨L,hd,_⟩:=YS Y hm;rw[J,A]at h;simp only[kD]at h;split at h;rename_i s1 E a E1 n j z xs M
 have⟨B,h0⟩:=yf h;rw[xad,xad]at B;obtain rfl:=zY B.1;obtain rfl:=zY B.2.1;have hn:=JS B.2.2;have⟨hq,hr⟩:=yr h0;subst hq;refine⟨_,hr,xbz _,λfr vs env w hR=> ?_⟩;have⟨C,hi⟩:=hR;have⟨S0,_,q⟩:=hi.ex;have ht:ev env x=yO (vs o):=zj J<|zL q x;have⟨_,f,Q,hj⟩:=zj A<|zL q y;have⟨⟨hl,hu⟩,h1⟩:=St.unpr<|St.grp.1<|qM M hi;have h1:St fr.we fr.Se (mP (b7 t2.rep (XO<|xk n2 t2 i2) (Zl a (xk n2 t2 i2) [])<|xT<|vs o) E (yO<|vs o) (z,0)::mO a.rep E1 ((xT<|vs o).headD Z0) xs::OS vs fr cx (yF σ.ob o)) (GS P vs env fr cx σ) w:=h1;have h1:St fr.we fr.Se (mP (b7 t2.rep (XO<|xk n2 t2 i2) (Zl a (xk n2 t2 i2) [])<|xT<|vs o) E (yO<|vs o) (z,0)::OS vs fr cx (yF σ.ob o)) (GS P vs env fr cx σ) w:=St.drop (i:=1) h1;have⟨b,T,h2⟩:=h1.openP 0 O;have h3:=h2.conv (i:=0) (m:=mB (b7 t2.rep (XO<|xk n2 t2 i2) (Zl a (xk n2 t2 i2) [])<|xT<|vs o) E b (z,0)) (m':=mB (eRw t2.rep.n t2.rep.agg t2.rep.n1).c E b wF) O O λS hp=>by
  have⟨cs,g1,F⟩:=hp;exact⟨cs,g1,znc F⟩
 rw[hn]at hd;refine(uq (e:=(eRw t2.rep.n t2.rep.agg t2.rep.n1).c) (f:=eRw t2.rep.n t2.rep.agg t2.rep.n1) (z':=wF) (y':=Z (ev env y).cells.toList) (up:=id) 0 O (ht.trans T) O (Sub.self _ _) hd (λS w G=>zoh (zj A<|zL G y).1) w h3).mono ?_;rintro v w' ⟨_,rfl,_,hv⟩;have h4:St fr.we fr.Se (mB (eRw t2.rep.n t2.rep.agg t2.rep.n1).c E b (Z (ev env y).cells.toList)::OS vs fr cx (yF σ.ob o)) (GS P vs env fr cx σ) w':=hv;have⟨off,gt,st,hc⟩:=hu;rw[hc]at Q;cases Q;have h5:=h4.grow (i:=0) (m:=mB (eRw t2.rep.n t2.rep.agg t2.rep.n1).c E b<|some (ev env y).cells.toList) (m':=mB (b7 t2.rep off (st ([]:N a.D)) [.slice wF 0 0]) E b (s,0)) O (yJ.refl _ _) (λk hk=> .inl hk) λS _ hp G=>by
  have⟨cs,g1,_,_,F⟩:=hp;refine⟨cs,g1,?_⟩;rw[F _ O];exact zlx hc (Z6 (zj A<|zL G y).1) hj O
 have U:=h5.toP 0 O;rw[<-T]at U;have h7:St fr.we fr.Se (mP (b7 t2.rep off (st ([]:N a.D)) [.slice wF 0 0]) E (yO<|vs o) (s,0)::mO a.rep E1 (.slice wF 0 0) []::OS vs fr cx (yF σ.ob o)) (GS P vs env fr cx σ) w':=(St.nilO (e:=a.rep) (E:=E1) U).perm<|xdT ..;refine oy (o:=o) (u:=U9 (yO<|vs o) [.slice wF 0 0]) C O (λe he=>C.o1 e<|uR e he) (sr<|by rw[wi,kJ<|sQ C M];rfl) ?_;rw[moU];refine St.grp.2<|St.pr (p:=X ([.slice wF 0 0]:N wN)=1/\vrP a (xk n2 t2 i2)) ⟨O,_,_,_,hc⟩ ?_;show St _ _ (mP (b7 t2.rep (XO<|xk n2 t2 i2) (Zl a (xk n2 t2 i2) []) [.slice wF 0 0]) E (yO<|vs o) (s,0)::mO a.rep E1 (.slice wF 0 0) []::_) _ _;rw[hc,show Zl a (Z ⟨off,.l a,gt,st⟩) ([]:N a.D)=st ([]:N a.D)from kW λz=>pJ];exact h7;cases h
def zg8(c:yX P cf.tt){k:Sg->V R}{B:TI}(l:Yc cf t=Z B)(h:kD σ B.ty (xz cx σ x) (xz cx σ y) k=Z r):iR P cx ⟨wF,.store t x y,ty,pos,aft,g⟩ σ k r:=by
 have h0:=h;unfold kD at h;split at h
 next o e r j f a=>exact zpi c l a h0
 next o q n0 i o2 a b=>exact zqA c l a b h0
 rename_i o q n0 i a _;split at h;rename_i C E p E1 n j z ys s;have⟨m,h1⟩:=yf h;rw[xad]at m;obtain rfl:=zY m.1;obtain rfl:=JS m.2;have⟨hc,f,v,A⟩:=zb2 h1;exact zhG c l (X:=λz=> .vr q E p E1 n0 j z ys) (rest:=λu=>[mO p.rep E1 ((xT u).headD Z0) ys]) (λ_ _=>O) a s hc v A;rename_i C E p E1 n j z s;have⟨m,h1⟩:=yf h;rw[xad]at m;obtain rfl:=zY m.1;obtain rfl:=JS m.2;have⟨hc,f,v,A⟩:=zb2 h1;exact zhG c l (X:=λz=> .vh q E p E1 n0 j z) (rest:=λ_=>[]) (λ_ _=>O) a s hc v A;cases h
 next o j D r a b=>exact zpc c l a b h0
 next o j o2 a b=>exact zpZ c l a b h0
 next o t2 F n2 i2 a b=>exact zpl c l a b h0
 next o o2 a b=>exact zp0 c l a b h0
 cases h
def sW:∀{ob:N (K×Od)}{o p:K},o≠p->yF (yF ob o) p=yF (yF ob p) o
 |[],_,_,_=>rfl
 |(q,X)::r,o,p,h=>by
  have b:=sW (ob:=r) h;cases h1:E q o
  cases a:E q p
  simp only[yF,h1,a,XS];rw[b];simp only[yF,h1,a,XS,Wf];cases a:E q p
  simp only[yF,h1,a,XS,Wf];simp_all
def HG{S:K->Prop}{w:wP}{hv a:N wN}:∀{ix:N K}{cs:N wN},yT (Yv a) S ix cs w->yT (Yv<|hv++a) S (ix.map (X hv+ ·)) cs w
 |[],_,h=>h
 |r::ix,cs,⟨c,q,h1,⟨u,b,e,f⟩,i⟩=>⟨c,q,h1,⟨u,by show(hv++a)[X hv+r]? =Z u;rw[xbr<|xbI _ _,Nat.add_sub_cancel_left];exact b,e,f⟩,HG i⟩
def Ia{α:Type}{e:zT α}{E:wT}:∀{hv c:N wN}{a b:N (N α)},X hv=X a->vG e E (hv++c) (a++b)=vG e E hv a++vG e E c b
 |[],_,[],_,_=>rfl
 |u::hv,c,xs::a,b,h=>by
  show mO e E u xs::vG e E (hv++c) (a++b)=mO e E u xs::(vG e E hv a++vG e E c b);rw[Ia<|by simpa using h]
 |[],_,_::_,_,h=>by cases h
 |_::_,_,[],_,h=>by cases h
def zmw(H:yX P cf.tt){z:ut wW}{ts:ut wT}{k:Sg->V R}(hd:wJ cx d=wL)(h:zfd cf cx σ d z.toList ts.toList k=Z r):
 iR P cx ⟨d,.call ⟨.builtin .append,z,ts⟩,ty,pos,aft,g⟩ σ k r:=by
 unfold zfd at h;split at h;rename_i _ _ x y t t' hS hU;obtain rfl:z= #[x,y]:=by cases z;simp_all
 obtain rfl:ts= #[t,t']:=by cases ts;simp_all
 split at h;rename_i s E B o p ht hx hy;have⟨F,D⟩:=yf h;rw[xad]at F;have⟨hC,hl⟩:=F;obtain rfl:=zY hC;rw[xcM]at hl;clear h;split at D;rename_i q1 q2 T A E1 C a ix s2 f F2 j q hn ho hp;have⟨F,h1⟩:=yf D;simp only[xad]at F;have⟨J,K,L⟩:=F;have J:=zY J;have K:=zY K;have L:=zY L;subst J;subst K;subst L;have⟨hD,h2⟩:=yr h1;cases hD;have⟨U,h3⟩:=ZO h2;have⟨a0,hz,h4⟩:=xN h3;have⟨iz,hi,h5⟩:=xN h4;have hE:=Tf H hn O;have hc:=(H _ _ hn).2.1;refine⟨_,h5,xbz _,λfr vs env w hR=> ?_⟩;have⟨Y,hr⟩:=hR;have⟨S0,_,G⟩:=hr.ex;have hG:ev env x=yO (vs o):=zj hx<|zL G x;have hH:ev env y=yO (vs p):=zj hy<|zL G y;have hI:=im hl ho hp hr;have⟨M,hJ⟩:=gH hI;have hu:St fr.we fr.Se (Ki vs (p,.mat A f C j q)::((mO (Yv<|xT<|vs o) f (yO<|vs o) ix::vG A.rep C (xT<|vs o) a)++OS vs fr cx (yF (yF σ.ob o) p))) (GS P vs env fr cx σ) w:=hJ.perm xbZ;have⟨hK,hL⟩:=gH hu;have hN:St fr.we fr.Se (mO (Yv<|xT<|vs o) f (yO<|vs o) ix::mO (Yv<|xT<|vs p) f (yO<|vs p) q::(vG A.rep C (xT<|vs o) a++vG A.rep C (xT<|vs p) j++OS vs fr cx (yF (yF σ.ob o) p))) (GS P vs env fr cx σ) w:=by refine hL.perm ?_;simp only[xbL,xaq];refine(xfA _ xbZ).trans<|(xdT ..).trans ?_;refine xfA _<|xfA _ ?_;exact(xdY ..)
 have hO:=hN.conv (i:=0) (m:=mO (Yv<|xT<|vs o) f (yO<|vs o) ix) (m':=mO (Yv<|xT (vs o)++xT (vs p)) f (yO<|vs o) ix) O O λS hq=>zcc hq;have SA:∀m,m*T<=140737488355328->m<=9223372036854775807:=λm hm=>by
  have hc:0<T:=hc;have:=xcj m hc;lia
 have Q:X (q.map (xaI a+ ·))=X q:=xav _;refine(aU (e:=Yv<|xT (vs o)++xT (vs p)) (ys:=q.map (xaI a+ ·)) 0 (qB H ht) hE O xdm O hG hH (λS w hM ha=> ?_) (SA _<|by rw[Q];exact U) (by rw[Q];exact U) w hO).mono ?_;have hm:(mO (Yv<|xT<|vs p) f (yO<|vs p) q).p S w:=hM.2.1;have hw:(mO (Yv<|xT (vs o)++xT (vs p)) f (yO<|vs p) (q.map (xaI a+ ·))).p S w:=by have⟨cs,a1,a2⟩:=hm;refine⟨cs,by rw[Q];exact a1,?_⟩;rw[<-M];exact HG a2
 rcases dM hw with⟨hv,hA⟩|⟨b,cap,hv,hP,hQ⟩
 rw[hv,hA];exact⟨wF,0,O,So _,xae _,.inl O⟩;have D:=Nx hw hv (l:=0) (n:=X (q.map (xaI a+ ·))) (c:=cap) W hP hQ;rw[List.drop_zero,xca]at D;rw[hv];simpa using D
 rintro v w' ⟨v',rfl,_,hs⟩;refine Jy (vs:=vs) (mk:=.mw) (u:=U9 v<|xT (vs o)++xT (vs p)) Y hd (oj Y) (λ_=>O) (λS w=>by simp only[vC,wi];rfl) ?_;rw[moU,hz,hi];have h7:St fr.we fr.Se (mO (Yv<|xT (vs o)++xT (vs p)) f v (ix++q.map (xaI a+ ·))::mO (Yv<|xT<|vs p) f (yO<|vs p) q::(vG A.rep C (xT<|vs o) a++vG A.rep C (xT<|vs p) j++OS vs fr cx (yF (yF σ.ob o) p))) (GS P vs env fr cx σ) w':=hs;have h8:=St.drop (i:=1) h7;refine NY (u:=U9 v<|xT (vs o)++xT (vs p)) (by show(xT (vs o)++xT (vs p)).length=X (a++j);simp[M,hK]) ?_;show St _ _ ((mO (Yv<|xT (vs o)++xT (vs p)) f v _::vG A.rep C (xT (vs o)++xT (vs p)) (a++j))++_) _ _;rw[Ia M];exact h8;cases D
 cases h
 cases h
def zcX(H:AF P cf){s:CY}{f:wW}{c:ut wW}{ts:ut wT}{k:Sg->V R}(hd:wJ cx d=wL)(J:xz cx σ f=Z (.fn s.f []))(K:s∈cf.ms)(h:CQ cx σ d s c.toList k=Z r):
 iR P cx ⟨d,.call ⟨.value f,c,ts⟩,ty,pos,aft,g⟩ σ k r:=by
 have⟨L,M⟩:=H.ms s K;unfold CQ at h;split at h;rename_i _ x a p y hF;obtain rfl:c= #[x,a,p,y]:=by cases c;simp_all
 split at h;rename_i o r0 av pv o' lo n N Q hp S;have⟨T,j⟩:=yf h;obtain rfl:=zY T;clear h;split at j;rename_i s1 E E1 l ix A;have⟨m,h1⟩:=yf j;rw[xad]at m;have B:=zY m.1;have hi:=zY m.2;have⟨ht,U⟩:=yr h1;cases ht;have⟨i,Y,h3⟩:=rV U;refine⟨_,h3,xbz _,λfr vs env w hR=> ?_⟩;have⟨q,C⟩:=hR;have⟨S0,_,b⟩:=C.ex;have hw:(xT<|vs o)[r0]? =Z (ev env x):=zj N<|zL b x;have D:=w6 Q<|zL b a;have hl:=w6 hp<|zL b p;have hA:O6 (yO<|vs o) lo n (ev env y):=zj S<|zL b y;have⟨z,hv,hC,hG⟩:=zj J<|zL b f;obtain rfl:z=[]:=xbE.1 hC;have F:=qM A C;rw[B,hi]at F;have hc:=M l ix r0 av pv lo n i Y (vs o) (ev env x) (ev env y) hw hA D.2 hl.2 fr.we fr.Se _ _ w F;have hn:(jp (ev env) ⟨d,.call ⟨.value f,#[x,a,p,y],ts⟩,ty,pos,aft,g⟩).run P w=.ok (.enter s.f #[ev env x,.int .i64 av,.int .i64 pv,ev env y]) w:=by simp[jp,Ws,hv,xcW,WP,vY L,D.1,hl.1]
 unfold ui;rw[hn];refine hc.mono ?_;rintro e w' ⟨v,G,rfl,hu,hD⟩;refine⟨v,O,oy (o:=o) (u:=G) q hd (λe he=>q.o1 e<|uR e he) (sr<|by rw[wi,kJ<|sQ q A];exact hu) ?_⟩;rw[moU];show St _ _ (AE s.t.rep E E1 G i ix::_) _ _;rw[B,hi];exact hD;cases j
 cases h
 cases h
theorem Dd{o n:K}:∀{rg:N (K×K×Dv)},∀e∈RK o n rg,e∈rg\/∃a∈rg,∃p,a.2.2=.yd p/\e=(a.1,a.2.1,bif E p o then .yd n else .yd p)
 |[],e,he=>wS he H1
 |(t,i,v)::rg,e,he=>by
  have b:∀e∈RK o n rg,e∈(t,i,v)::rg\/∃a∈(t,i,v)::rg,∃p,a.2.2=.yd p/\e=(a.1,a.2.1,bif E p o then .yd n else .yd p):=λe he=>by
   obtain h|⟨a,h1,p,c,f⟩:=Dd e he
   simp_all;grind
  cases v with
  |yd p=>
   rcases xah.1 (show e∈(t,i,bif E p o then Dv.yd n else .yd p)::RK o n rg from he)with rfl|he
   simp_all;exact b e he
  |_=>
   obtain rfl|he:=xah.1 he
   exact .inl<|IR;exact b e he
def zeL(hX:AF P cf){o:K}{f:wW}{m:ut wW}{ts:ut wT}{k:Sg->V R}(hd:wJ cx d=wL)(hf:xz cx σ f=Z (.yd o))(h:MH cx σ d o m.toList k=Z r):
 iR P cx ⟨d,.call ⟨.value f,m,ts⟩,ty,pos,aft,g⟩ σ k r:=by
 unfold MH at h;split at h;rename_i _ x hC;obtain rfl:m= #[x]:=by cases m;simp_all
 split at h;rename_i p hx;have⟨hi,h⟩:=yf h;rw[xcM]at hi;split at h;rename_i t E X Y mX mY gg z s a ys D hp;have⟨hE,h1⟩:=yf h;have hE:=zY hE;subst hE;have⟨hm,G⟩:=yr h1;cases hm;have⟨q,hq,Q⟩:=rV G
 have n:∀(fr:Fr) (vs:K->wN) (env:y6) (w:wP),cU P fr cx σ vs env w->ui P ⟨d,.call ⟨.value f,#[x],ts⟩,ty,pos,aft,g⟩ env w λv w'=>v=.bool q.2.isLeft/\Bd cx σ/\Py P (lOf<|yO<|vs o) t.rep a mX mY gg/\
  ∃c,St fr.we fr.Se (xfk (λx=>mX x c) (λy=>mY y c) q.2::mO t.rep a (vs p) q.1::OS vs fr cx (yF (yF σ.ob o) p)) (GS P vs env fr cx σ) w':=by
  intro fr vs env w A;have⟨j,hj⟩:=A;have⟨S0,_,H⟩:=hj.ex;have hn:ev env x=vs p:=zj hx<|zL H x;have ht:ev env f=.func (.yield<|lOf<|yO<|vs o) #[] #[]:=zj hf<|zL H f;have hv:=im hi D hp hj;have⟨F,h4⟩:=St.unpr<|St.grp.1 hv;rw[<-hX.pp]at F;have h4:St fr.we fr.Se (mX z ((xT<|vs o).headD Z0)::mO t.rep a (vs p) ys::OS vs fr cx (yF (yF σ.ob o) p)) (GS P vs env fr cx σ) w:=h4;have⟨fn,tmps,a0,a1,hy,A⟩:=F ys z q.1 q.2 hq (vs p) _ _ _ _ _ w h4;have hk:(jp (ev env) ⟨d,.call ⟨.value f,#[x],ts⟩,ty,pos,aft,g⟩).run P w=.ok (.round (lOf<|yO<|vs o) fn tmps a0 a1) w:=by rw[<-hn]at hy;simp[jp,Ws,ht,xcW,WP,hy]
  unfold ui;rw[hk];exact A.mono λe w' ⟨T,h6⟩=>⟨_,T,O,j,F,h6⟩
 have J:∀(B:Od) (b:v6) (c:wN) (vs:K->wN) (fr:Fr) (env:y6) (w':wP),Bd cx σ->St fr.we fr.Se (Ki (XX vs σ.nx<|U9 (yO<|vs o) [c]) (σ.nx,B)::mO t.rep a (vs p) q.1::OS vs fr cx (yF (yF σ.ob o) p)) (GS P vs env fr cx σ) w'->
  nH P fr cx σ.nx vs ⟨σ.nx+1,RK o σ.nx<|qt σ.rg d [(0,.kb b)],(σ.nx,B)::yF (km σ.ob p (.own t a q.1)) o⟩ (put env d (.bool b)) w':=by
  intro B b c vs fr env w' j C;have hc:p≠o:=λe=>by subst e;simp at hi
  have hw:=sQ j D;have hD:xA (yF σ.ob o) p=Z (.own t a ys):=by rw[U5 hc];exact hp
  have hz:St fr.we fr.Se (Ki (XX vs σ.nx<|U9 (yO<|vs o) [c]) (σ.nx,B)::OS vs fr cx (yF (km σ.ob p (.own t a q.1)) o)) (GS P vs env fr cx σ) w':=by
   have h7:=jC (vs:=vs) (fr:=fr) (cx:=cx) (ob:=yF (km σ.ob p (.own t a q.1)) o) (o:=p) (X:=.own t a q.1) (by rw[U5 hc];exact(VI hp).1);have h8:yF (yF (km σ.ob p (.own t a q.1)) o) p=yF (yF σ.ob o) p:=by rw[sW<|λe=>hc e.symm,(VI hp).2,sW<|λe=>hc e]
   rw[h8]at h7;exact C.perm<|h7.symm.cons _
  have⟨L,hA⟩:cU P fr cx ⟨σ.nx+1,qt σ.rg d [(0,.kb b)],(σ.nx,B)::yF (km σ.ob p (.own t a q.1)) o⟩ (XX vs σ.nx<|U9 (yO<|vs o) [c]) (put env d (.bool b)) w':=by
   have hl:∀e∈yF (km σ.ob p (.own t a q.1)) o,e.1<σ.nx:=λe he=>by
    have⟨e1,g1,g2⟩:=VJ hp e<|uR e he;rw[<-g2];exact j.o1 e1 g1
   refine Iz (σ':=⟨σ.nx+1,qt σ.rg d [(0,.kb b)],(σ.nx,B)::yF (km σ.ob p (.own t a q.1)) o⟩) (l:=[(0,.kb b)]) (vs:=vs) (Γl:=[]) j hd O (xbz _) (λo D=>kJ D) (λe he p hp=> ?_) (λe he=> ?_) (λS w _ e he=> ?_) ?_;obtain rfl:=xac.1 he;cases hp
   obtain rfl|he:=xah.1 he
   exact xdM _;exact Nat.lt_succ_of_lt<|hl e he;obtain rfl:=xac.1 he;exact O;show St _ _ (Ki (XX vs σ.nx _) (σ.nx,B)::OS (XX vs σ.nx _) fr cx (yF (km σ.ob p (.own t a q.1)) o)) _ _;rw[MI j hl];exact hz
  refine⟨_,λo D=>kJ D,⟨L.o1,L.o2,λe he r U=> ?_,L.r2⟩,hA.weak λS w h=>zB.append (kG.2 λf hf=> ?_)<|zB.right h⟩;obtain h|⟨M,h1,r',G,rfl⟩:=Dd e he
  exact L.r1 e h r U;cases hb:xaf r' o<;>simp only[hb,Wf,XS]at U
  exact L.r1 M h1 r<|by rw[G];exact U
  cases U;exact xdM _
  obtain⟨e,he,rfl⟩:=xas.1 hf;obtain h'|⟨M,h1,r',G,rfl⟩:=Dd e he
  exact J8 (zB.left h) h';have T:=J8 (zB.left h) (t:=M.1) (i:=M.2.1) (d:=M.2.2) h1;rw[G]at T;refine Js T λu N=> ?_;cases hb:xaf r' o
  exact N;have N:u=.func (.yield<|lOf<|yO<|XX vs σ.nx (U9 (yO<|vs o) [c]) r') #[] #[]:=N;rw[zY hb,kJ hw]at N;show u=.func (.yield<|lOf<|yO<|XX vs σ.nx (U9 (yO<|vs o) [c]) σ.nx) #[] #[];rw[wi];exact N
 cases hg:q.2 with
 |inl z'=>
  rw[hg]at Q;refine⟨_,Q,xbz _,λfr vs env w A=>(n fr vs env w A).mono ?_⟩;rintro v w' ⟨rfl,j,F,c,C⟩;rw[hg]at C⊢;refine J _ wL c vs fr env w' j ?_;rw[moU];refine St.grp.2 ?_;rw[<-hX.pp];exact St.pr F C
 |inr y'=>
  rw[hg]at Q;refine⟨_,Q,xbz _,λfr vs env w A=>(n fr vs env w A).mono ?_⟩;rintro v w' ⟨rfl,j,F,c,C⟩;rw[hg]at C⊢;refine J _ I c vs fr env w' j ?_;rw[moU];exact C
 cases h
 cases h
 cases h
end
end
section
section
variable{P:jP}{cf:Cf}{fr:Fr}{cx σ:Sg}{vs vs':wr->wN}{env:y6}{w:wP}{R:Type}{r:R}
 {d:ww Z4}{ty t yt:wT}{pos:String}{aft:ut Edge}{g:ww (wr×v6)}{x y:wW}
def PA{o:K}{s:Ty}{E:wT}{xs:N s.D}{S:K->Prop}(a:(fV (eS s.rep) xs<|vs o).p S w):∀{rg:N (K×K×Dv)},zB S (RS P vs env rg) w->zB S (RS P vs env<|FR o (.own s E xs) rg) w
 |[],_=>trivial
 |(t,i,v)::rg,h=>by
  refine⟨?_,PA a h.2⟩;have h1:=h.1;cases v<;>try exact h1
  rename_i b;unfold IQ;cases c:xaf b o<;>simp only[c]
  exact h1;have:=zY c;subst this;refine Js h1 λu e=> ?_;rw[show u=vs b from e];exact a
def Rf{o:K}{s:Ty}{E:wT}{z:s.D}{S:K->Prop}(a:(fP s.rep z<|vs o).p S w):∀{rg:N (K×K×Dv)},zB S (RS P vs env rg) w->zB S (RS P vs env<|FR o (.var s E z) rg) w
 |[],_=>trivial
 |(t,i,v)::rg,h=>by
  refine⟨?_,Rf a h.2⟩;have h1:=h.1;cases v<;>try exact h1
  rename_i b f;unfold IQ;cases c:xaf b o<;>simp only[c]
  exact h1;have:=zY c;subst this;refine Js h1 λu e=> ?_;rw[show u=vs b from e.1];exact a
def Sa{o:K}{s:Ty}{E E1:wT}{a:N (N s.D)}{ix:N K}{S:K->Prop}(b:(fV (eS<|eS s.rep) (zc4 a ix)<|yO<|vs o).p S w):∀{rg:N (K×K×Dv)},zB S (RS P vs env rg) w->zB S (RS P vs env<|FR o (.mat s E E1 a ix) rg) w
 |[],_=>trivial
 |(t,i,v)::rg,h=>by
  refine⟨?_,Sa b h.2⟩;have h1:=h.1;cases v<;>try exact h1
  rename_i c;unfold IQ;cases e:xaf c o<;>simp only[e]
  exact h1;have:=zY e;subst this;refine Js h1 λu f=> ?_;rw[show u=yO (vs c)from f];exact b
def zck{o:K}{t s:Ty}{E E1 n i:K}{z:t.D}{xs:N s.D}{S:K->Prop}(a:(fP t.rep (Zl s (xk n t i) xs z)<|yO<|vs o).p S w):∀{rg:N (K×K×Dv)},zB S (RS P vs env rg) w->zB S (RS P vs env<|FR o (.vr t E s E1 n i z xs) rg) w
 |[],_=>trivial
 |(u,j,v)::rg,h=>by
  refine⟨?_,zck a h.2⟩;have h1:=h.1;cases v<;>try exact h1
  rename_i b;unfold IQ;cases c:xaf b o<;>simp only[c]
  exact h1;have:=zY c;subst this;refine Js h1 λu e=> ?_;rw[show u=yO (vs b)from e];exact a
def UO{o:K}{X:Od}(a:∀v,IQ o X v=v):∀{rg:N (K×K×Dv)},FR o X rg=rg
 |[]=>rfl
 |(t,i,v)::rg=>by
  show(t,i,IQ o X v)::FR o X rg=_;rw[a,UO a]
def zfe{o p:K}{X:Od}{v:Dv}(h:vt (IQ o X v)=Z p):vt v=Z p:=by
 unfold IQ at h;split at h;rename_i a s E xs;cases b:xaf a o<;>rw[b]at h
 exact h;cases h
 rename_i a e s E z;cases b:xaf a o<;>rw[b]at h
 exact h;cases h
 rename_i a s E E1 c ix;cases b:xaf a o<;>rw[b]at h
 exact h;cases h
 rename_i a t E s E1 n i z xs;cases b:xaf a o<;>rw[b]at h
 exact h;cases h
 exact h
theorem OQ{o:K}{X:Od}:∀{rg:N (K×K×Dv)},∀e∈FR o X rg,∀p,vt e.2.2=Z p->∃a∈rg,vt a.2.2=Z p
 |[],e,he=>wS he H1
 |(t,i,v)::rg,e,he=>by
  intro p hp;obtain rfl|he:=xah.1 he
  refine⟨(t,i,v),IR,?_⟩;exact zfe hp;have⟨a,h1,b⟩:=OQ e he p hp;grind
theorem Im{o:K}(h:cU P fr cx σ vs env w):cU P fr cx (OO σ o) vs env w:=by
 unfold OO;split;rename_i X ho;have⟨m,hc⟩:=h;have⟨i,hi,_,hd⟩:=vb ho;have H:Bd cx ⟨σ.nx,FR o X σ.rg,yF σ.ob o⟩:=⟨λe A=>m.o1 e<|uR e A,m.o2,λe A p hp=>by have⟨J,h1,f⟩:=OQ e A p hp;exact m.r1 J h1 p f,m.r2⟩;refine⟨H,?_⟩
 cases X with
 |own s E xs=>
  have q:(OS vs fr cx σ.ob)[i]? =Z (mO s.rep E (vs o) xs):=JB hi;have:=LP i hc q;rw[gm hi,<-hd]at this;exact this.weak λS w a=>zB.append (PA a.1<|zB.left a.2)<|zB.right a.2
 |var s E z=>
  have q:(OS vs fr cx σ.ob)[i]? =Z (mP s.rep.c E (vs o) z):=JB hi;have⟨b,hv,u⟩:=hc.openP i q;have:=zox (e:=s.rep) i u<|vq q;rw[sS,gm hi,<-hd,<-hv]at this;exact this.weak λS w a=>zB.append (Rf a.1<|zB.left a.2)<|zB.right a.2
 |mat s E E1 B ix=>
  have h1:=qM ho hc;have f:St fr.we fr.Se (zkp s.rep E E1 (yO<|vs o) (xT<|vs o) B ix::OS vs fr cx (yF σ.ob o)) (GS P vs env fr cx σ) w:=St.grp.2 (gH h1).2;exact(f.mat_frz (gH h1).1).weak λS w a=>zB.append (Sa a.1<|zB.left a.2)<|zB.right a.2
 |vr t E s E1 n i z xs=>
  have h1:=qM ho hc;have f:=h1.freeze (i:=0) (F:=fP t.rep (Zl s (xk n t i) xs z)<|yO<|vs o) O λS V u C hp=>by
   have⟨⟨⟨hl,L⟩,⟨b,hv,cs,g1,j⟩,hn,_⟩,_⟩:=hp;have j:(b7 t.rep (XO<|xk n t i) (Zl s (xk n t i) [])<|xT<|vs o).p S (z,0) cs.toList w:=j;refine⟨b,0,cs.toList,hv,C b ⟨_,FS _<|IR,by show zfG (yO<|vs o)=Z b;rw[hv];rfl⟩,At.row g1,?_⟩;have⟨off,M,st,G⟩:=L;rw[G]at j⊢;rw[show Zl s (Z ⟨off,.l s,M,st⟩) ([]:N s.D)=st ([]:N s.D)from kW λz=>pJ]at j;rw[pJ];exact zoa G j (by rw[Eo hl];rfl) u<|ry u (λk Q=>C k ⟨_,FS _<|FS _<|IR,Q⟩) hn
  exact f.weak λS w a=>zB.append (zck a.1<|zB.left a.2)<|zB.right a.2
 |vh t E s E1 n i z=>
  rw[UO<|λv=>by cases v<;>rfl];exact St.drop (i:=0)<|qM ho hc
 |bo s E T xs=>
  rw[UO<|λv=>by cases v<;>rfl];exact St.drop (i:=0)<|qM ho hc
 |ho T=>
  rw[UO<|λv=>by cases v<;>rfl];exact St.drop (i:=0)<|qM ho hc
 |hid t E X Y mX U g x=>
  rw[UO<|λv=>by cases v<;>rfl];exact St.drop (i:=0)<|qM ho hc
 |hiy Y U y=>
  rw[UO<|λv=>by cases v<;>rfl];exact St.drop (i:=0)<|qM ho hc
 exact h
theorem zfW(x:wW)(h:cU P fr cx σ vs env w):cU P fr cx (frz cx σ x) vs env w:=by grind [frz,Im]
def La(x:wW)(h:uD P fr cx σ env w):uD P fr cx (frz cx σ x) env w:=by have⟨a,vs,b⟩:=h;have⟨h1,c⟩:=zfW x ⟨a,b⟩;exact⟨h1,vs,c⟩
def CH:∀(l:N wW) {σ:Sg},uD P fr cx σ env w->uD P fr cx (zkr cx σ l) env w
 |[],_,h=>h
 |x::r,_,h=>CH r<|La x h
def TA{f:Z2}:∀{cs:N XW}{s:XW},zda f cs=Z s->s∈cs/\s.f=f/\s.bk=1
 |c::cs,s,h=>by
  unfold zda at h;split at h;rename_i h1 i j k;cases e:E c.f f<;>rw[e]at h
  have⟨a,b⟩:=TA h;exact⟨FS _ a,b⟩;simp_all;have⟨a,b⟩:=TA h;exact⟨FS _ a,b⟩
def zsl(B:∀s∈cf.cs,yY P s){f:wW}{f':Z2}{o:K}{C:Ty}{s:XW}{a:ut wW}{ts:ut wT}{k:Sg->V R}(hd:wJ cx d=wL)(D:xz cx σ f=Z (.bm f' o C))(ht:a.toList=[])
 (F:zda f' cf.cs=Z s) (h:mBm σ d s o k=Z r):iR P cx ⟨d,.call ⟨.value f,a,ts⟩,ty,pos,aft,g⟩ σ k r:=by
 have⟨h1,j,G⟩:=TA F;have hc:=B s h1;unfold mBm at h;split at h;rename_i f0 t E t2 q M bk H E' y m;have⟨u,J⟩:=yf h;have⟨hn,L⟩:=yr J;subst hn;have⟨z,N,Q⟩:=rV L;rw[xad,xad]at u;obtain rfl:=zY u.1;obtain rfl:bk=1:=G;obtain rfl:a= #[]:=by cases a;simp_all
 refine⟨_,Q,So _,λfr vs env w T=> ?_⟩;have⟨v,hi⟩:=T;have⟨S0,_,n⟩:=hi.ex;have⟨hv,b,U⟩:=zj D<|zL n f;have A:=hc.2 (y,()) z N [vs o] O;have Y:(jp (ev env) ⟨d,.call ⟨.value f,#[],ts⟩,ty,pos,aft,g⟩).run P w=.ok (.enter f' #[vs o]) w:=by simp[jp,Ws,hv,xcW,WP,vY<|j▸hc.1]
 have hl:St fr.we fr.Se (mP H.rep.c E (vs o) y::OS vs fr cx (yF σ.ob o)) (gW (∃b,vs o=.pointer (Z ⟨b,0,wF⟩))::GS P vs env fr cx σ) w:=(qM m hi).weak λS w p=>⟨⟨b,U⟩,p⟩;unfold ui;rw[Y];rw[show f0=f' from j]at A;refine(A fr.we fr.Se _ _ w hl).mono ?_;rintro e w' ⟨us,i,⟨hu,hp⟩,hq⟩;obtain rfl:us=[vs o]:=hp;refine⟨_,i,?_⟩;refine J9 (σ':=⟨σ.nx,qt σ.rg d [],km σ.ob o (.var t2 q z)⟩) (d:=d) (l:=[]) (vs:=vs) (vs':=vs) (Γl:=[]) v hd O (So _) (λ_ _=>O) (λ_ i=>wS i H1) (λe i=> ?_) (λS w _ e i=>wS i H1) ?_;have⟨e',h1,j⟩:=VJ m e i;rw[<-j];exact v.o1 e' h1;refine ru m ?_;have hr:St fr.we fr.Se (mP t2.rep.c q (vs o) z::OS vs fr cx (yF σ.ob o)) (gW (∃b,vs o=.pointer (Z ⟨b,0,wF⟩))::GS P vs env fr cx σ) w':=hq;exact hr.weak λS w p=>p.2;cases h
def znU(a:yX P cf.tt)(b:kZ P cf.tt)(c:∀s∈cf.cs,yY P s)(e:AF P cf){l:Op}{k:Sg->V R}(hd:wJ cx d=wL)(h:zmP cf cx σ d l k=Z r):
 iR P cx ⟨d,l,ty,pos,aft,g⟩ σ k r:=by
 unfold zmP at h;split at h;exact zka a hd h;rename_i E x;cases m:zn7 cf d<;>rw[m]at h
 exact m_E a b c e hd h;exact zps hd h;rename_i t x y;have⟨hn,h⟩:=yf h;have hn:d=wF:=by simpa using hn
 subst hn;split at h
 next u hc=>exact zk9 a hc h
 cases h
 exact znL a hd h;exact zpE a b hd h;rename_i t x hi;split at h
 next o n=>exact ziY a b hd n h
 exact m_E a b c e hd h;exact zqs a hd h;exact zos a b hd h;rename_i f p ts;split at h;rename_i f' cs i;split at h
 next s j=>exact zoo c hd i j h
 exact m_E a b c e hd h;rename_i f' o t i;split at h
 next s q j=>exact zsl c hd i q j h
 cases h
 exact m_E a b c e hd h;exact m_E a b c e hd h
def zpq(b:yX P cf.tt)(l:kZ P cf.tt)(m:∀s∈cf.cs,yY P s)(e:AF P cf){i:Op}{k:Sg->V R}(hd:wJ cx d=wL)(h:mOp cf cx σ d i k=Z r):
 iR P cx ⟨d,i,ty,pos,aft,g⟩ σ k r:=by
 unfold mOp at h
 cases hc:coM cf cx σ d i with
 |no=>rw[hc]at h;exact znU b l m e hd h
 |_=>
  rw[hc]at h;simp only[mCo]at h;unfold coM at hc;split at hc
  ·next t x y=>
   cases a:zar (xz cx σ x)<;>rw[a]at hc<;>cases hc
   all_goals
    have⟨hn,h⟩:=yf h
    have hn:d=wF:=by simpa using hn
    subst hn
    split at h
    ·next A p=>exact zg8 b p h
    ·cases h
  ·next t x y=>
   cases a:TN cf d<;>rw[a]at hc<;>cases hc;all_goals exact zjk b hd h
  ·next t n ps=>
   cases a:TN cf d<;>rw[a]at hc<;>cases hc;all_goals exact znF b l hd h
  ·next E=>
   cases a:TN cf d||(zaN cf d).isSome<;>rw[a]at hc<;>cases hc
   all_goals exact ze4 b hd h
  ·next t ps=>
   cases a:(zaN cf d).isSome<;>rw[a]at hc<;>cases hc;all_goals exact zfn b hd h
  ·next t x=>
   split at hc
   ·next o q=>cases hc<;>exact zjH b hd q h
   ·split at hc
    ·next o u=>cases hc<;>exact zjL b hd u h
    ·cases hc
  ·next c ts=>
   cases a:c.toList.any (λx=>zh8<|xz cx σ x)<;>rw[a]at hc<;>cases hc;all_goals exact zmw b hd h
  ·next f c ts=>
   split at hc
   ·next o j=>cases hc<;>exact zeL e hd j h
   ·next f' j=>
    split at hc
    ·next s v=>
     have⟨h1,z⟩:=zfc v;subst z;cases hc<;>exact zcX e hd j h1 h
    ·cases hc
   ·cases hc
  ·cases hc
def zhb(n:yX P cf.tt)(o:kZ P cf.tt)(i:∀s∈cf.cs,yY P s)(j:AF P cf){b:Op}{kp:PX->Sg->V R}{k:Sg->V R}(hd:wJ cx d=wL)(h:zkR cf cx σ d b kp k=Z r):
 iR P cx ⟨d,b,ty,pos,aft,g⟩ σ k r\/zlB P cx ⟨d,b,ty,pos,aft,g⟩ σ kp r:=by
 unfold zkR at h;split at h;rename_i p u cs hp;unfold zkN at hp;split at hp;rename_i f l ts;split at hp;rename_i f' v z;split at hp;rename_i G A;cases hp;have⟨h1,B⟩:=zfb A;exact zqC i hd z (j.ps _ h1) B h
 cases hp
 cases hp
 cases hp
 split at h;rename_i x a;unfold zq4 at a;split at a;rename_i H;cases a;split at h
 rename_i q C;refine .inr ⟨q,σ,h,O,λfr vs env w D=> ?_⟩;have⟨E,m⟩:=D;have⟨S0,_,e⟩:=m.ex;have hv:ev env x=.iface q.1 (.agg #[.int .i64 q.2]):=zj C<|zL e x;refine⟨λc hc=>(by cases hc),?_⟩;have F:(jp (ev env) ⟨d,.panic x,ty,pos,aft,g⟩).run P w=.halt (.panic (.iface q.1 (.agg #[.int .i64 q.2]))) w:=by simp[jp,Instr.panic,hv,goPanic]
 rw[F];exact⟨O,E,m⟩;cases h
 cases a
 exact .inl<|zpq n o i j hd h
theorem zhg{t:Z4}:put env (Z t) (env t)=env:=by grind [Dp,mH]
def oW{t:Z4}{b:v6}(hn:XY cx.rg t=wL)(hv:env t=.bool b)(h:uD P fr cx σ env w):uD P fr cx (Mc σ t b) env w:=by
 have⟨c,vs,f⟩:=h
 have:=nH.rel<|J9 (d:=Z t) (σ':=Mc σ t b) (Γl:=[]) c hn O (So _) (λ_ _=>O)
  (λe a o i=>by obtain rfl:=xac.1 a;cases i) c.o1 (λS w _ e a=>by obtain rfl:=xac.1 a;exact hv) f
 rwa[zhg]at this
def rI{t:Z4}{x:v6}{S:K->Prop}(h:get cx σ t 0=Z (.d .b x))(hl:Lk P vs env S w cx σ t):env t=.bool x:=oE<|hl 0 _ h
def RH{b:v6}{a c:V R}(h:ifB b a c=Z r):(b=wL/\a=Z r)\/(b=I/\c=Z r):=by
 cases b
 exact .inr ⟨O,h⟩;exact .inl ⟨O,h⟩
theorem zjr{c:N uT}{o:uT}{k:Sg->v6->V R}(h:sV cx c o σ k=Z r)(p:uD P fr cx σ env w):∃σ' b,k σ' b=Z r/\uD P fr cx σ' env w/\yR c.toArray env o=b:=by
 have f:=p;have⟨q,vs,hd⟩:=p;have⟨S,_,e⟩:=hd.ex;unfold sV at h;split at h
 next n=>exact⟨σ,wL,h,f,by unfold yR;rw[n]⟩
 rename_i j a n;split at h;rename_i s u;split at h;rename_i t ht;have hc:∀{v},env t=v->gd c.toArray env j=(match v with|.bool b=>Z b|_=>wF):=by rintro v rfl;unfold gd;grind
 have m:yR c.toArray env o=(gd c.toArray env j==Z a):=by unfold yR;rw[n]
 split at h;rename_i b i;have hv:env t=.bool b:=YW e t 0 _ i;refine⟨σ,_,h,f,?_⟩;rw[m,hc hv];cases b<;>cases a<;>rfl
 rename_i i;have hv:env t=Z0:=YW e t 0 _ i;refine⟨σ,_,h,f,?_⟩;rw[m,hc hv];rfl;rename_i x i;have⟨hn,h⟩:=yf h;have hv:env t=.bool x:=rI i<|YW e t;rcases RH h with⟨l,h⟩|⟨l,h⟩
 exact⟨_,_,h,oW hn (hv.trans<|uL xeM l) f,by rw[m,hc<|hv.trans<|uL xeM l];cases a<;>rfl⟩;exact⟨_,_,h,oW hn (hv.trans<|uL xeM l) f,by rw[m,hc<|hv.trans<|uL xeM l];cases a<;>rfl⟩;cases h
 cases h
 cases h
theorem zoM{o:uT}{k:Sg->V R}(h:GQ cx o σ k=Z r)(c:uD P fr cx σ env w):∃σ',k σ'=Z r/\uD P fr cx σ' env w:=by
 have e:=c;have⟨i,vs,hc⟩:=c;have⟨S,_,a⟩:=hc.ex;unfold GQ at h;split at h;rename_i t _ _ _;split at h;rename_i x f;have⟨hn,h⟩:=yf h;have hv:=rI f<|YW a t;rcases RH h with⟨b,h⟩|⟨b,h⟩
 exact⟨_,h,oW hn (hv.trans<|uL xeM b) e⟩;exact⟨_,h,oW hn (hv.trans<|uL xeM b) e⟩;grind;grind
def zmJ{N:Nd}{b:ut uT}{o:uT}{rest:xS uT}{Q:Qs}(c:yR b env o=wL)(hd:qK N.n o.dst=wL)(h:ui P o env w (λv w'=>WpL P N b rest Q (put env o.dst v) w')):WpL P N b (o::rest) Q env w:=by intro a h1 e f;subst f;unfold WL;rw[S<|by rw[WH];exact c];refine h.wp λv w' i=> ?_;exact i _ (by rw[UH];exact h1) (by rw[Wb];exact e)<|Wa<|by rw[h1];exact U3 hd
def zkJ{N:Nd}{b:ut uT}{o:uT}{rest:xS uT}{Q:Qs}(c:yR b env o=I)(hd:qK N.n o.dst=wL)(h:WpL P N b rest Q (put env o.dst Z0) w):WpL P N b (o::rest) Q env w:=by intro a h1 e f;subst f;unfold WL;rw[ir<|by rw[WH,c];exact Bool.false_ne_true];exact⟨λ_ _=>wR,h _ (by rw[UH];exact h1) (by rw[Wb];exact e)<|Wa<|by rw[h1];exact U3 hd⟩
def zmA(hd:wJ cx d=wL)(h:uD P fr cx σ env w):uD P fr cx (σ.put d [(0,.un)]) (put env d Z0) w:=by have⟨b,vs,c⟩:=h;exact(J9 (σ':=σ.put d [(0,.un)]) (Γl:=[]) b hd O (So _) (λ_ _=>O) (λe a o f=>by obtain rfl:=xac.1 a;cases f) b.o1 (λS w _ e a=>by obtain rfl:=xac.1 a;exact O) c).rel
def my(cx:Sg)(a b:y6):Prop:=∀e∈cx.rg,b e.1=a e.1
def my.refl{a:y6}:my cx a a:=λ_ _=>O
def my.trans{a b c:y6}(h:my cx a b)(k:my cx b c):my cx a c:=λe f=>(k e f).trans<|h e f
def my.put{a b:y6}{v:wN}(hd:wJ cx d=wL)(h:my cx a b):my cx a (put b d v):=λe c=>by
 rw[mH λht=> ?_];exact h e c;subst ht;simp only[wJ,XY,xaT]at hd;have:=hd e c;simp at this
def LL(j:yX P cf.tt)(m:kZ P cf.tt)(p:∀s∈cf.cs,yY P s)(u:AF P cf){N:Nd}{e:xS uT}{Q:Qs}{kp:PX->Sg->V R}{k:Sg->V R}{env0:y6}
 (z:∀σ',k σ'=Z r->∀env w,my cx env0 env->uD P fr cx σ' env w->Q .normal env w) (A:∀q σ',kp q σ'=Z r->∀env w,my cx env0 env->uD P fr cx σ' env w->Q (.panic<|pE q) env w):
 ∀{l:xS uT}{σ:Sg}{env:y6}{w:wP},my cx env0 env->(l.all λo=>qK N.n o.dst)=wL->zfa cf cx e kp l σ k=Z r->uD P fr cx σ env w->WpL P N e.toArray l Q env w
 |[],σ,env,w,f,_,h,c=>λa h1 H J=>gC ⟨h1,H,J▸z σ h env w f c⟩
 |o::l,σ,env,w,f,i,h,c=>by
  simp only[List.all_cons,xad]at i;have⟨hd,h⟩:=yf h;have⟨K,b,h,c,B⟩:=zjr h c;cases b
  exact zkJ B i.1<|LL j m p u z A (f.put hd) i.2 h<|zmA hd c;have⟨C,h,c⟩:=zoM h c;have c:=CH (zn8 cf cx C o.dst o.op) c;have⟨F,vs,G⟩:=c;rcases zhb j m p u hd h with⟨σ',D,_,E⟩|⟨q,σ',D,_,E⟩
  exact zmJ B i.1<|(E fr vs env w ⟨F,G⟩).mono λv w' L=>LL j m p u z A (f.put hd) i.2 D L.rel;refine zk3 B<|(E fr vs env w ⟨F,G⟩).mono ?_;rintro S w' ⟨rfl,M,hc⟩;exact A q σ' D env w' f ⟨M,vs,hc⟩
end
end
section
section
variable{P:jP}{cf:Cf}{fr:Fr}{cx σ σ0:Sg}{vs vs':wr->wN}{env env0:y6}{w:wP}{R:Type}{r:R}
 {d:ww Z4}{ty t yt:wT}{pos:String}{aft:ut Edge}{g:ww (wr×v6)}{x y:wW}
theorem Pe:∀{a b:N (K×K×Dv)}{t i:K},(∀e∈a,e.1≠t)->iZ (a++b) t i=iZ b t i
 |[],_,_,_,_=>rfl
 |(c,f,d)::a,b,t,i,h=>by
  show(bif E c t && E f i then Z d else iZ (a++b) t i)=_;rw[Yw<|h (c,f,d)<|IR];exact Pe λe j=>h e<|FS _ j
theorem zew{rg:N (K×K×Dv)}{t a i:K}(h:a≠t):iZ (znz rg t) a i=iZ rg a i:=by
 induction rg with
 |nil=>rfl
 |cons e rg b=>
  have⟨s,j,d⟩:=e;unfold znz at b⊢;rw[xfK];cases c:E s t
  simp only[Bool.not_false,uS];unfold iZ;rw[b];simp only[xeS,xai,uP];rw[b];have:=zY c;subst this;conv=>rhs;unfold iZ
  rw[Yw<|λe=>h e.symm];rfl
theorem TW{rg:N (K×K×Dv)}{t a i:K}{l:N (K×Dv)}(h:a≠t):iZ (qt rg (Z t) l) a i=iZ rg a i:=by grind [qt,Pe,zew]
def zjG{t a i:K}{l:N (K×Dv)}{n:K}{ob:N (K×Od)}{dv:Dv}(hn:XY cx.rg t=wL)(h:get cx ⟨n,qt σ.rg (Z t) l,ob⟩ a i=Z dv):(a=t/\(i,dv)∈l)\/(a≠t/\get cx σ a i=Z dv):=by
 by_cases ht:a=t;subst ht;obtain hm|hm:=B3 h
 have hm:=hm;obtain hm|hm:=xaa.1 hm
 simp_all;have:=(xbU.1 hm).2;simp at this;simp only[XY,xaT]at hn;have:=hn _ hm;simp at this;right;refine⟨ht,?_⟩;unfold get at h⊢;rw[show iZ (qt σ.rg (Z t) l) a i=iZ σ.rg a i from TW ht]at h;exact h
def zeh{t:K}{l:N (K×Dv)}{n:K}{ob:N (K×Od)}{S:K->Prop}(hn:XY cx.rg t=wL){a:K}(h1:a=t->∀e∈l,(vS P vs e.2 (env t) e.1).p S w)(b:a≠t->Lk P vs env S w cx σ a):Lk P vs env S w cx ⟨n,qt σ.rg (Z t) l,ob⟩ a:=by
 intro i dv hd;rcases zjG hn hd with⟨rfl,h⟩|⟨c,f⟩
 simp_all;exact b c i dv f
def tV{l:N (K×Dv)}(a:Bd cx σ)(hl:∀e∈l,∀o,vt e.2=Z o->o<σ.nx):Bd cx (σ.put d l):=by
 refine⟨a.o1,a.o2,λe he o b=> ?_,a.r2⟩
 cases d with
 |none=>exact a.r1 e he o b
 |some t=>
  obtain he|he:=xaa.1 he
  obtain⟨c,f,rfl⟩:=xas.1 he;exact hl c f o b;exact a.r1 e (xbU.1 he).1 o b
def BS{t a:K}{x b:v6}{S:K->Prop}(hn:XY cx.rg t=wL)(c:get cx σ t 0=Z (.d .b x))(f:x=b)(h:Lk P vs env S w cx σ a):Lk P vs env S w cx (Mc σ t b) a:=by refine zeh hn (λe j i=> ?_)<|λ_=>h;subst e;obtain rfl:=xac.1 i;exact(rI c h).trans<|uL xeM f
def zim{a:N uT}{o:uT}{k:Sg->v6->V R}(h:sV cx a o σ k=Z r)(l:Bd cx σ):∃σ' b,k σ' b=Z r/\σ'.ob=σ.ob/\σ'.nx=σ.nx/\Bd cx σ'/\
 (∀(P:jP) vs env S w t,Lk P vs env S w cx σ t->Lk P vs env S w cx σ' t)/\(∀(P:jP) vs env S w,(∀t∈xbk a.toArray o,Lk P vs env S w cx σ t)->yR a.toArray env o=b):=by
 unfold sV at h;split at h
 next p=>exact⟨σ,wL,h,O,O,l,λ_ _ _ _ _ _ h=>h,λP vs env S w _=>by unfold yR;rw[p]⟩
 rename_i j c p;split at h;rename_i A q;split at h;rename_i t ht;have m:t∈xbk a.toArray o:=by unfold xbk;simp_all
 have hc:∀{env:y6}{v},env t=v->gd a.toArray env j=(match v with|.bool b=>Z b|_=>wF):=by rintro env v rfl;unfold gd;simp only[xfE,q,Option.bind_some,ht];rfl
 have n:∀env,yR a.toArray env o=(gd a.toArray env j==Z c):=λenv=>by unfold yR;rw[p]
 split at h;rename_i b f;refine⟨σ,_,h,O,O,l,λ_ _ _ _ _ _ h=>h,λP vs env S w hl=> ?_⟩;have hv:env t=.bool b:=hl t m 0 _ f;rw[n,hc hv];cases b<;>cases c<;>rfl
 rename_i f;refine⟨σ,_,h,O,O,l,λ_ _ _ _ _ _ h=>h,λP vs env S w hl=> ?_⟩;have hv:env t=Z0:=hl t m 0 _ f;rw[n,hc hv];rfl;rename_i x f;have⟨hn,h⟩:=yf h;have hd:∀b,Bd cx (Mc σ t b):=λb=>tV (d:=Z t) l λe s o u=>by obtain rfl:=xac.1 s;cases u
 rcases RH h with⟨i,h⟩|⟨i,h⟩
 refine⟨_,_,h,O,O,hd _,λP vs env S w z hl=>BS hn f i hl,λP vs env S w hl=> ?_⟩;have hv:=(rI f<|hl t m).trans<|uL xeM i;rw[n,hc hv];cases c<;>rfl
 refine⟨_,_,h,O,O,hd _,λP vs env S w z hl=>BS hn f i hl,λP vs env S w hl=> ?_⟩;have hv:=(rI f<|hl t m).trans<|uL xeM i;rw[n,hc hv];cases c<;>rfl
 cases h
 cases h
 cases h
theorem zkt{o:uT}{k:Sg->V R}(h:GQ cx o σ k=Z r)(i:Bd cx σ):∃σ',k σ'=Z r/\σ'.ob=σ.ob/\σ'.nx=σ.nx/\Bd cx σ'/\(∀(P:jP) vs env S w t,Lk P vs env S w cx σ t->Lk P vs env S w cx σ' t):=by
 unfold GQ at h;split at h;rename_i t _ _ _;split at h;rename_i x c;have⟨hn,h⟩:=yf h;have f:∀b,Bd cx (Mc σ t b):=λb=>tV i λe j o l=>by obtain rfl:=xac.1 j;cases l
 rcases RH h with⟨a,h⟩|⟨a,h⟩
 exact⟨_,h,O,O,f _,λP vs env S w m hl=>BS hn c a hl⟩;exact⟨_,h,O,O,f _,λP vs env S w m hl=>BS hn c a hl⟩;grind;grind
def prL(P:jP)(vs:K->wN)(l:N (K×Dv)):Pr where
 p S v w:=∀e∈l,(vS P vs e.2 v e.1).p S w
 keepS h k:=λe a=>(vS P vs e.2 _ e.1).keep (h e a) k
 sub h k:=λe a=>(vS P vs e.2 _ e.1).sub (h e a) k
def zmn(P:jP)(vs:wr->wN)(Γ:N FF)(env0:y6)(cx σ:Sg)(K:N (Z4×Pr)):Prop:=∀(env:y6) (S:wr->Prop) (w:wP),zB S Γ w->∀t,Xf K env0 env S w t->Lk P vs env S w cx σ t
def iA{K:N (Z4×Pr)}{S:wr->Prop}:∀{ts:N Z4},QC K env0 env S w ts->∀t∈ts,Xf K env0 env S w t
 |[],_,_,h=>wS h H1
 |_::_,h,t,ht=>by
  obtain rfl|ht:=xah.1 ht
  exact h.1;exact iA h.2 t ht
def ze6{Γ:N FF}{K:N (Z4×Pr)}{b:Pr}{l:N (wr×Dv)}{o:uT}(hd:wJ cx o.dst=wL)(h:zmn P vs Γ env0 cx σ K)(f:∀S v w,b.p S v w->∀e∈l,(vS P vs e.2 v e.1).p S w):zmn P vs Γ env0 cx (σ.put o.dst l) (sO o.dst b K):=by
 intro env S w a t ht
 cases c:o.dst with
 |none=>
  rw[c]at ht;exact h env S w a t ht
 |some s=>
  rw[c]at ht hd;refine zeh hd (λe=> ?_)<|λhc=> ?_;subst e;unfold Xf sO at ht;simp_all;refine h env S w a t ?_;unfold Xf sO at ht;rw[List.find?_cons,Yw<|λe=>hc e.symm]at ht;exact ht
end
end
def Lz{l:N uT}{D:K->v6}(hd:∀j,D j=wL->∀e∈(zS l j).after,xcp .any e=wL->D e.on=wL):∀(f j i:K),D j=wL->vO l f j i=wL->D i=wL
 |0,j,i,c,h=>by
  obtain⟨e,b,a,rfl⟩:=uF h;grind
 |f+1,j,i,c,h=>by
  unfold vO at h;rw[xdV]at h;obtain h|h:=h
  obtain⟨e,b,a,rfl⟩:=uF h;grind;rw[xfJ]at h;have⟨e,b,a⟩:=h;rw[xad]at a;exact Lz hd f e.on i (hd j c e (xdN.1 b) a.1) a.2
section
def Qw(al:Rb->v6)(rs:N Rb):N (K×Od):=rs.filterMap λr=>if al r=wL then Z (r.o,r.x)else wF
def sC(i:K)(rs:N Rb):N (K×Od):=rs.filterMap λr=>if r.c=Z i then Z (r.o,r.x)else wF
def EV(i:K)(rs:N Rb):N (K×Od):=rs.filterMap λr=>if r.a=Z i then Z (r.o,r.x)else wF
def ia(i:K)(rs:N Rb):N (K×Od):=rs.filterMap λr=>if i∈r.rd then Z (r.o,r.x)else wF
def Oy{al b:Rb->v6}{i:K}:∀{rs:N Rb},(∀r∈rs,(r.c=Z i/\i∉r.rd/\r.a≠Z i/\al r=wL/\b r=I)\/(r.a=Z i/\r.c≠Z i/\i∉r.rd/\al r=I/\b r=wL)\/
 (i∈r.rd/\r.c≠Z i/\r.a≠Z i/\al r=wL/\b r=wL)\/(r.c≠Z i/\r.a≠Z i/\i∉r.rd/\al r=b r))->
 ∃rest,(∀e∈rest,∃r∈rs,e=(r.o,r.x)/\al r=wL/\b r=wL)/\(Qw al rs).Perm (sC i rs++(ia i rs++rest))/\(Qw b rs).Perm (EV i rs++(ia i rs++rest))
 |[],_=>⟨[],λe he=>wS he H1,xdy _,xdy _⟩
 |r::rs,h=>by
  have⟨rest,h1,f,d⟩:=Oy (rs:=rs) λq m=>h q<|FS _ m;have k:∀e∈rest,∃q∈r::rs,e=(q.o,q.x)/\al q=wL/\b q=wL:=λe he=>by grind
  rcases h r (IR)with⟨g,j,a3,a4,a5⟩|⟨g,j,a3,a4,a5⟩|⟨g,j,a3,a4,a5⟩|⟨g,j,a3,a4⟩
  refine⟨rest,k,?_,?_⟩;simp only[Qw,sC,ia,xaP,g,j,a4,uS,uP,Ul]at f⊢;simp_all;simp only[Qw,EV,ia,xaP,a3,j,a5,uP,Ul,xai]at d⊢;exact d;refine⟨rest,k,?_,?_⟩;simp only[Qw,sC,ia,xaP,j,a3,a4,uP,Ul,xai]at f⊢;exact f;simp only[Qw,EV,ia,xaP,g,a3,a5,uS,uP,Ul]at d⊢;exact d.cons _;refine⟨rest,k,?_,?_⟩;simp only[Qw,sC,ia,xaP,g,j,a4,uS,uP,Ul]at f⊢;exact(f.cons _).trans xbZ.symm;simp only[Qw,EV,ia,xaP,g,a3,a5,uS,uP,Ul]at d⊢;exact(d.cons _).trans xbZ.symm
  cases l:al r with
  |false=>
   rw[l]at a4;refine⟨rest,k,?_,?_⟩;simp only[Qw,sC,ia,xaP,g,a3,l,uP,Ul,xai]at f⊢;exact f;simp only[Qw,EV,ia,xaP,j,a3,<-a4,uP,Ul,xai]at d⊢;exact d
  |true=>
   rw[l]at a4;refine⟨(r.o,r.x)::rest,λe he=> ?_,?_,?_⟩;obtain rfl|he:=xah.1 he
   exact⟨r,IR,O,l,a4.symm⟩;exact k e he;simp only[Qw,sC,ia,xaP,g,a3,l,uS,uP,Ul]at f⊢;rw[<-xaq]at f⊢;exact(f.cons _).trans xbZ.symm;simp only[Qw,EV,ia,xaP,j,a3,<-a4,uS,uP,Ul]at d⊢;rw[<-xaq]at d⊢;exact(d.cons _).trans xbZ.symm
def KV(P:jP)(vs:K->wN)(KL:N (Z4×N (K×Dv))):N (Z4×Pr):=KL.map λe=>(e.1,prL P vs e.2)
def FK(d:V Z4)(l:N (K×Dv))(KL:N (Z4×N (K×Dv))):N (Z4×N (K×Dv)):=match d with
 |some t=>(t,l)::KL
 |none=>KL
def UZ:N (uT×N (wr×Dv))->N (Z4×N (wr×Dv))->N (Z4×N (wr×Dv))
 |[],K=>K
 |(o,l)::r,K=>UZ r<|FK o.dst l K
def OL(P:jP)(vs:K->wN)(L:N (uT×N (K×Dv))):N (uT×Pr):=L.map λe=>(e.1,prL P vs e.2)
section
variable{P:jP}{vs:wr->wN}
def zeM{d:V Z4}{l:N (K×Dv)}{KL:N (Z4×N (K×Dv))}:KV P vs (FK d l KL)=sO d (prL P vs l) (KV P vs KL):=by cases d<;>rfl
def zgf:∀(L:N (uT×N (K×Dv))) (KL:N (Z4×N (K×Dv))),KV P vs (UZ L KL)=Kof (OL P vs L) (KV P vs KL)
 |[],KL=>rfl
 |(o,l)::r,KL=>by
  show KV P vs (UZ r<|FK o.dst l KL)=Kof (OL P vs r) (sO o.dst (prL P vs l)<|KV P vs KL);rw[zgf r,zeM]
end
def ObB(P:jP)(b:ut uT)(we:wP)(Se:K->Prop)(mE:N MF)(Γ:N FF)(env0:y6)(vs:K->wN)(n0:K)(rs:N Rb)(KL:N (Z4×N (K×Dv)))(i:K)(o:uT)(L:N (K×Dv))(a:Oi):Prop:=
 n0<=a.lo/\a.lo<=a.hi/\(∀e∈L,∀p,vt e.2=Z p->p<a.hi/\p∈a.refs)/\(∀e∈EV i rs,e.1<a.hi)/\
 ∀vs',(∀p,p<n0->vs' p=vs p)->∀(env:y6) (F:N MF) (G:N FF) (w:wP),St we Se (MS vs' (sC i rs++ia i rs)++(mE++F)) (GW (KV P vs' KL) env0 env (o.looksAt b)::(Γ++G)) w->
  (yR b env o=wL->ui P o env w (λv w'=>∃vs2,(∀p,p<a.lo->vs2 p=vs' p)/\St we Se (MS vs2 (EV i rs)++(MS vs' (ia i rs)++(mE++F))) (zju P vs2 v L++(Γ++G)) w'))/\
  (yR b env o=I->sC i rs=[]/\EV i rs=[]/\∀S w,zB S (zju P vs' Z0 L) w)
structure zrO(l:N uT)(m:K)(rs:N Rb)(is:N Oi):Prop where
 a:∀r∈rs,∀j,r.a=Z j->j<m/\∀i∈r.rd,vO l 16 i j=wL
 c:∀r∈rs,∀k,r.c=Z k->k<m/\(∀j,r.a=Z j->vO l 16 k j=wL)/\∀i∈r.rd,vO l 16 k i=wL
 n:∀i b,is[i]? =Z b->∀r∈rs,b.lo<=r.o->r.o<b.hi->∃j,r.a=Z j/\(j=i\/vO l 16 j i=wL)
 f:∀i b j J,is[i]? =Z b->is[j]? =Z J->∀p∈J.refs,b.lo<=p->p<b.hi->j=i\/vO l 16 j i=wL
 uniq:∀i j t,i<m->j<m->i≠j->(zS l i).dst=Z t->(zS l j).dst≠Z t
def zdB{l:N uT}{m:K}{rs:N Rb}{is:N Oi}(h:zjN l m rs is=wL):zrO l m rs is:=by
 unfold zjN at h;rw[xad,xad]at h;have⟨⟨e,hn⟩,f⟩:=h;have hc:∀i q,is[i]? =Z q->zli l i q rs is.zipIdx=wL:=λi q hi=>xaT.1 hn (q,i)<|List.mem_zipIdx_iff_getElem?.2 hi;have b:∀(q:Oi) (p:K),q.lo<=p->p<q.hi->inB q p=wL:=λq p h1 d=>by
  unfold inB;simp_all
 refine⟨λr c j a=> ?_,λr c k g=> ?_,λi q hi r c h1 d=> ?_,λi q j J hi a p hp h1 d=> ?_,λi j t hi a hd n o=> ?_⟩;have:=xaT.1 e r c;simp_all;have:=xaT.1 e r c;rw[xad]at this;have:=this.2;rw[g]at this;simp only[xad,xaT]at this;refine⟨by have:=xbH this.1.1;lia,λj a=> ?_,this.2⟩;have:=this.1.2;rw[a]at this;exact this;have:=hc i q hi;unfold zli at this;rw[xad]at this;have:=xaT.1 this.1 r c;rw[b q _ h1 d,xeS,xeG]at this;split at this;rename_i j a;rw[xdV]at this;exact⟨j,a,this.imp zY id⟩;cases this
 have:=hc i q hi;unfold zli at this;rw[xad]at this;have:=xaT.1 this.2 (J,j)<|List.mem_zipIdx_iff_getElem?.2 a;have:=xaT.1 this p hp;rw[b q _ h1 d,xeS,xeG,xdV]at this;exact this.imp zY id;have:=xaT.1 (xaT.1 f i<|xbd.2 hi) j<|xbd.2 a;rw[Yw hd,xeG,n]at this;simp[o]at this
end
section
section
variable{P:jP}{N:Nd}{we:wP}{Se:wr->Prop}{ms:xS MF}{Γ:xS FF}{Q:Qs}{env0:y6}{l:xS uT}{m:wr}
def zb7{Lp:xS (uT×Pr)}(hd:∀i,i<m->∃b,Lp[i]? =Z (zS l i,b))(f:∀(i:K) (x:uT×Pr),Lp[i]? =Z x->i<m/\x.1=zS l i){D:K->v6}{env:y6}{S:K->Prop}{w:wP}{i:K}{t:Z4}
 (g:∀t,(∀i,i<m->D i=wL->(zS l i).dst≠Z t)->env t=env0 t) (h:(Bk Lp D env).p S w) (hl:i<=m) (ht:∀j,j<m->(zS l j).dst=Z t->(D j=wL↔j<i)):Xf (Kof (Lp.take i) []) env0 env S w t:=by
 unfold Xf;rcases ot t (Lp.take i) []with⟨j,y,g1,a,q,k⟩|⟨g1,a⟩
 rw[k];rw[xbD]at g1;split at g1;rename_i hc;have⟨hi,n⟩:=f j y g1;exact h j y t ((ht j hi<|n▸a).2 hc) g1 a;cases g1
 rw[a];refine g t λj d o e=> ?_;have hc:=(ht j d e).1 o;have⟨b,c⟩:=hd j d;exact g1 j (zS l j,b) (by rw[xbD,iq hc];exact c) e
def zis(hc:W9 l m=wL){Lp:xS (uT×Pr)}(n:∀i,i<m->∃o,Lp[i]? =Z (zS l i,o))(hd:∀(i:K) (x:uT×Pr),Lp[i]? =Z x->i<m/\x.1=zS l i){D:K->v6}{env:y6}{S:K->Prop}{w:wP}{i:K}
 (hp:i<m) (hn:D i=I) (q:∀e∈(zS l i).after,xcp .any e=wL->D e.on=wL) (r:∀j,D j=wL->∀e∈(zS l j).after,xcp .any e=wL->D e.on=wL)
 (s:∀t,(∀i,i<m->D i=wL->(zS l i).dst≠Z t)->env t=env0 t) (u:(Bk Lp D env).p S w):QC (Kof (Lp.take i) []) env0 env S w (xbk l.toArray<|zS l i):=by
 have⟨h0,h1,v,A,hv⟩:=YV hc;have B:i<X l:=W
 have hi:∀t,t∈xbk l.toArray (zS l i)->∀j,j<m->(zS l j).dst=Z t->j≠i->(D j=wL↔j<i):=by
  intro t ht j c d y;have k:=v i j t hp c y d (.inl ht);constructor;intro z;obtain h|h:=xbS j i
  exact h;exfalso;have⟨e,f,g,hl⟩:=uF (k.2 W);have a:=r j z e f g;rw[hl,hn]at a;cases a
  intro b;have⟨e,f,g,hl⟩:=uF<|k.1 b;have a:=q e f g;rwa[hl]at a
 exact UW _ λt ht=>zb7 n hd s u W λj c d=>by
  by_cases b:j=i;subst b;rw[hn];simp;exact hi t ht j c d b
def UD(D:K->v6)(r:Rb):v6:=(match r.a with
 |none=>wL
 |some j=>D j) && !(match r.c with
 |none=>I
 |some k=>D k)
def Tb{D:K->v6}{i:K}(c:∀e∈(zS l i).after,xcp .any e=wL->D e.on=wL)(hc:∀j,D j=wL->∀e∈(zS l j).after,xcp .any e=wL->D e.on=wL):∀(f j:K),vO l f i j=wL->D j=wL
 |0,j,h=>by
  obtain⟨e,b,a,rfl⟩:=uF h;simp_all
 |f+1,j,h=>by
  unfold vO at h;rw[xdV]at h;obtain h|h:=h
  obtain⟨e,b,a,rfl⟩:=uF h;simp_all;rw[xfJ]at h;have⟨e,b,a⟩:=h;rw[xad]at a;exact Lz hc f e.on j (c e (xdN.1 b) a.1) a.2
theorem HI{al a:Rb->v6}:∀{rs:xS Rb},(∀r∈rs,al r=a r)->Qw al rs=Qw a rs
 |[],_=>rfl
 |r::rs,h=>by
  have b:=HI λq c=>h q<|FS _ c;unfold Qw at b⊢;grind
def St.mid{we:wP}{Se:K->Prop}{A B:xS MF}{m:MF}{Γ:xS FF}{w:wP}(h:St we Se (A++m::B) Γ w):St we Se (m::(A++B)) Γ w:=St.perm h xbZ
def St.dropM{we:wP}{Se:K->Prop}{Γ:xS FF}{w:wP}:∀{A B C:xS MF},St we Se (A++(B++C)) Γ w->St we Se (A++C) Γ w
 |A,[],C,h=>h
 |A,b::B,C,h=>St.dropM<|St.drop (i:=0)<|St.mid h
def isD(l:xS uT)(b:V K)(j:K):v6:=match b with
 |some a=>E j a||vO l 16 j a
 |none=>I
def KM(r:Rb):v6:=r.a.isNone && r.c.isNone
def ObP(P:jP)(a:ut uT)(we:wP)(Se:K->Prop)(mE:xS MF)(Γ:xS FF)(env0:y6)(vs:K->wN)(n0:K)(q:PX)(rs:xS Rb)(KL:xS (Z4×xS (K×Dv)))(i:K)(o:uT):Prop:=
 ∀vs',(∀p,p<n0->vs' p=vs p)->∀(env:y6) (F:xS MF) (G:xS FF) (w:wP),St we Se (MS vs' (sC i rs)++(mE++F)) (GW (KV P vs' KL) env0 env (o.looksAt a)::(Γ++G)) w->
  yR a env o=wL/\OpP P o env w (λb w'=>b=pE q/\St we Se (mE++F) (Γ++G) w')
theorem r8{p:Rb->v6}{r:Rb}{rs:xS Rb}:Qw p (r::rs)=bif p r then(r.o,r.x)::Qw p rs else Qw p rs:=by unfold Qw;grind
def Dh{p q:Rb->v6}:∀{rs:xS Rb},(∀r∈rs,p r=wL->q r=wL)->(Qw q rs).Perm (Qw p rs++Qw (λr=>q r && !p r) rs)
 |[],_=>xdy _
 |r::rs,h=>by
  have a:=Dh λq b=>h q<|FS _ b;rw[r8,r8,r8]
  cases hp:p r with
  |false=>
   cases b:q r with
   |false=>exact a
   |true=>exact(xfA _ a).trans xbZ.symm
  |true=>
   simp_all
def zn4{i:K}:∀{rs:xS Rb},sC i rs=Qw (λr=>decide<|r.c=Z i) rs
 |rs=>by unfold sC Qw;simp only[Us]
theorem zdz{D:K->v6}{i:K}{rs:xS Rb}(d:D i=I)(hc:∀r∈rs,r.c=Z i->UD D r=wL)(b:∀r∈rs,KM r=wL->UD D r=wL/\r.c≠Z i):
 (Qw (UD D) rs).Perm (sC i rs++(Qw KM rs++Qw (λr=> !decide (r.c=Z i) && UD D r && !KM r) rs)):=by
 rw[zn4];refine(Dh λr a h=>hc r a<|Wr h).trans<|xbo _ ?_;have:=Dh (p:=KM) (q:=λr=> !decide (r.c=Z i) && UD D r) (rs:=rs) λr a h=>by simp[(b r a h).1,(b r a h).2]
 grind
def zji{id:K}{mE:xS MF}(C:V K)(q:PX)(m:K)(Ls:xS (xS<|K×Dv))(is:xS Oi)(rs:xS Rb)(ts:xS Z4)(vs:K->wN)(n0:K)(hm:P.follows .mixedOrders=wL)(hc:W9 l m=wL)(hl:X Ls=m)(b0:X is=m)(F:zjN l m rs is=wL)
 (c4:MS vs (Qw (λr=>r.a.isNone) rs)++mE=ms) (hd:(l.all λo=>qK N.n o.dst)=wL) (hP:∀s,C=Z s->s<m)
 (hQ:∀i x b,((l.take m).zip Ls)[i]? =Z x->is[i]? =Z b->isD l C i=I->ObB P l.toArray we Se mE Γ env0 vs n0 rs (UZ (((l.take m).zip Ls).take i) []) i x.1 x.2 b)
 (h5:∀s x,C=Z s->((l.take m).zip Ls)[s]? =Z x->ia s rs=[]/\ObP P l.toArray we Se mE Γ env0 vs n0 q rs (UZ (((l.take m).zip Ls).take s) []) s x.1)
 (b1:C.isSome=wL->∀(env:y6) (w:wP) (vs':K->wN),(∀p,p<n0->vs' p=vs p)->(∀t,(∀i,i<m->(zS l i).dst≠Z t)->env t=env0 t)->St we Se (MS vs' (Qw KM rs)++mE) Γ w->Q (.panic<|pE q) env w)
 (b2:C=wF->∀(env:y6) (w:wP) (vs':K->wN),(∀p,p<n0->vs' p=vs p)->St we Se (MS vs' (Qw (λr=>r.c.isNone) rs)++mE) (GW (KV P vs'<|UZ ((l.take m).zip Ls) []) env0 env ts::Γ) w->WpL P N l.toArray (l.drop m) Q env w):
 T P N we Se ms Γ (.region id l.toArray wL) Q env0:=by
 have⟨h0,h1,h2,h3,g4⟩:=YV hc;have hp:=zdB F;have⟨L,hL⟩:∃L,L=(l.take m).zip Ls:=⟨_,O⟩;rw[<-hL]at hQ h5 b2;have g5:X L=m:=by rw[hL];simp;lia
 have hR:∀i,i<m->∃x,L[i]? =Z (zS l i,x):=λi hi=>by
  have b0:i<X l:=xag hi h0;have b3:i<X Ls:=hl.symm▸hi;refine⟨Ls[i]'(b3),?_⟩;rw[hL,xeX];refine⟨?_,mK⟩;rw[xbD,iq hi];simp[zS,b0]
 have hS:∀i x,L[i]? =Z x->i<m/\x.1=zS l i:=λi x F=>by
  have hi:i<m:=by have:=(xaz.1 F).1;lia
  have⟨Φ,h⟩:=hR i hi;rw[h]at F;cases F;exact⟨hi,O⟩
 have a0:∀vs' i,i<m->∃Φ,(OL P vs' L)[i]? =Z (zS l i,Φ):=λvs' i hi=>by
  have⟨x,h⟩:=hR i hi;exact⟨_,by rw[OL,xbX,h];rfl⟩
 have G:∀vs' (i:K) (x:uT×Pr),(OL P vs' L)[i]? =Z x->i<m/\x.1=zS l i:=λvs' i x F=>by
  rw[OL,xbX]at F
  cases Y:L[i]? with
  |none=>rw[Y]at F;cases F
  |some y=>rw[Y]at F;cases F;exact hS i y Y
 refine zm3 m (λD env w=>(∀j,D j=wL->isD l C j=I)/\(∀t,(∀i,i<m->D i=wL->(zS l i).dst≠Z t)->env t=env0 t)/\∃vs',(∀p,p<n0->vs' p=vs p)/\St we Se (MS vs' (Qw (UD D) rs)++mE) (Γ++[Bk (OL P vs' L) D env]) w) hm hc hd ?_ ?_ ?_;intro w hw;refine⟨λ_ u=>(by cases u),λt _=>O,vs,λ_ _=>O,?_⟩;have:UD (λ_=>I)=λr=>r.a.isNone:=by funext r;unfold UD;cases r.a<;>cases r.c<;>rfl
 rw[this,c4];exact hw.weak λS w h=>zB.append h ⟨λi x t hi=>(by cases hi),wR⟩;rintro D i env w hZ hu b4 hT hD ⟨hU,hv,vs',hN,hV⟩;have g0:i<X l:=W
 have⟨x,h8⟩:=hR i hZ;have⟨b,hI⟩:∃b,is[i]? =some b:=⟨_,xab W⟩;have hf:∀j,vO l 16 i j=wL->D j=wL:=λj u=>Tb hT hD 16 j u;have h4:∀k,D k=wL->vO l 16 k i≠wL:=λk hk B=>by
  have:=Lz hD 16 k i hk B;rw[hu]at this;cases this
 have hK:∀S:K->Prop,∀w:wP,(Bk (OL P vs' L) D env).p S w->QC (KV P vs'<|UZ (L.take i) []) env0 env S w (xbk l.toArray<|zS l i):=λS w h9=>by
  rw[zgf];have:=zis hc (a0 vs') (G vs') hZ hu hT hD hv h9;rw[show OL P vs' (L.take i)=(OL P vs' L).take i by unfold OL;rw[xfl]];exact this
 by_cases hE:isD l C i=wL
 obtain⟨s,rfl⟩:∃s,C=some s:=by cases C with
  |none=>cases hE
  |some s=>exact⟨s,O⟩
 have c5:isD l (Z s) s=wL:=by simp[isD]
 have c6:i=s:=by simp only[isD,xdV]at hE;obtain h|h:=hE;exact zY h;exact wS (hU s<|hf s h)<|by rw[c5];exact Bool.noConfusion
 subst c6;have⟨g6,hO⟩:=h5 i _ O h8;have c7:∀r∈rs,r.c=Z i->UD D r=wL:=λr B E=>by
  unfold UD;rw[E];simp only[hu,Bool.not_false,Bool.and_true]
  cases R:r.a with
  |none=>rfl
  |some j=>exact hf j<|(hp.c r B i E).2.1 j R
 have hP:=zdz (D:=D) (i:=i) hu c7 (λr B h=>by
  simp only[KM,xad,Option.isNone_iff_eq_none]at h;refine⟨?_,by rw[h.2];exact λe=>by cases e⟩;unfold UD;rw[h.1,h.2];rfl)
 have hA:St we Se (MS vs' (sC i rs)++(mE++(MS vs' (Qw KM rs)++MS vs' (Qw (λr=> !decide (r.c=Z i) && UD D r && !KM r) rs)))) (GW (KV P vs'<|UZ (L.take i) []) env0 env (xbk l.toArray<|zS l i)::(Γ++[Bk (OL P vs' L) D env])) w:=by
  refine St.weak (hV.perm ?_) λS w h=>⟨hK S w (zB.right (Γ:=Γ) h).1,h⟩;have e1:(MS vs'<|Qw (UD D) rs).Perm (MS vs' (sC i rs)++(MS vs' (Qw KM rs)++MS vs' (Qw (λr=> !decide (r.c=Z i) && UD D r && !KM r) rs))):=by unfold MS;rw[<-xaR,<-xaR];exact hP.map _
  refine(xeN mE e1).trans ?_;rw[xaq];exact xbo _ xeh
 have⟨c8,c9⟩:=hO vs' hN env _ [Bk (OL P vs' L) D env] w hA;refine⟨λ_=> .inr<|c9.mono λch w' ⟨e0,hs⟩=> ?_,λhw=>(by rw[c8]at hw;cases hw)⟩;subst e0;refine b1 O env w' vs' hN (λt ht=>hv t λj u _=>ht j u) ?_;refine St.weak (Γ:=Γ++[Bk (OL P vs' L) D env]) ?_ λS w h=>zB.left h;have h1:St we Se ([]++(MS vs' (Qw (λr=> !decide (r.c=Z i) && UD D r && !KM r) rs)++(MS vs' (Qw KM rs)++mE))) (Γ++[Bk (OL P vs' L) D env]) w':=by refine hs.perm ?_;rw[xbN,<-xaq,<-xaq];exact(xeh.trans<|xbo _ xeh).trans<|List.Perm.of_eq (xaq ..).symm
 exact St.dropM (A:=[]) h1
 have hE:isD l C i=I:=by simpa using hE
 have⟨o1,o2,o3,o4,hO⟩:=hQ i _ b h8 hI hE
 have h6:∀r∈rs,(r.c=Z i/\i∉r.rd/\r.a≠Z i/\UD D r=wL/\UD (Fc D i) r=I)\/(r.a=Z i/\r.c≠Z i/\i∉r.rd/\UD D r=I/\UD (Fc D i) r=wL)\/
  (i∈r.rd/\r.c≠Z i/\r.a≠Z i/\UD D r=wL/\UD (Fc D i) r=wL)\/(r.c≠Z i/\r.a≠Z i/\i∉r.rd/\UD D r=UD (Fc D i) r):=by
  intro r B;have hF:vO l 16 i i≠wL:=λh=>by have:=hf i h;rw[hu]at this;cases this
  have hB:∀j,j≠i->Fc D i j=D j:=λj u=>IB u;by_cases E:r.c=Z i;have⟨c1,c2,c3⟩:=hp.c r B i E;have hC:i∉r.rd:=λh=>hF<|c3 i h;have hn:r.a≠Z i:=λh=>hF<|c2 i h;refine .inl ⟨E,hC,hn,?_,?_⟩;unfold UD;rw[E];simp only[hu,Bool.not_false,Bool.and_true]
  cases R:r.a with
  |none=>rfl
  |some j=>exact hf j<|c2 j R
  unfold UD;rw[E];simp only[og,xeS,Bool.and_false];by_cases hn:r.a=Z i;have⟨a1,a2⟩:=hp.a r B i hn;have hC:i∉r.rd:=λh=>hF<|a2 i h;refine .inr (.inl ⟨hn,E,hC,?_,?_⟩);unfold UD;rw[hn];simp only[hu,Bool.false_and];unfold UD;rw[hn];simp only[og,Bool.true_and]
  cases U:r.c with
  |none=>rfl
  |some k=>
   simp only;rw[hB k<|λe=>E<|by rw[U,e]]
   cases h':D k with
   |false=>rfl
   |true=>exact wS ((hp.c r B k U).2.1 i hn)<|h4 k h'
  have a5:∀k,r.c=Z k->i∈r.rd->D k=I:=λk hk hi=>by
   cases h':D k with
   |false=>rfl
   |true=>exact wS ((hp.c r B k hk).2.2 i hi)<|h4 k h'
  have hW:UD (Fc D i) r=UD D r:=by
   unfold UD
   cases R:r.a with
   |none=>
    cases U:r.c with
    |none=>rfl
    |some k=>simp only;rw[hB k<|λe=>E<|by rw[U,e]]
   |some j=>
    cases U:r.c with
    |none=>simp only;rw[hB j<|λe=>hn<|by rw[R,e]]
    |some k=>simp only;rw[hB j (λe=>hn<|by rw[R,e]),hB k<|λe=>E<|by rw[U,e]]
  by_cases hC:i∈r.rd;have:UD D r=wL:=by
   unfold UD;have e1:(match r.c with|none=>I|some k=>D k)=I:=by
    cases U:r.c with
    |none=>rfl
    |some k=>exact a5 k U hC
   rw[e1];simp only[Bool.not_false,Bool.and_true]
   cases R:r.a with
   |none=>rfl
   |some j=>exact hf j<|(hp.a r B j R).2 i hC
  exact .inr (.inr (.inl ⟨hC,E,hn,this,hW.trans this⟩));exact .inr (.inr (.inr ⟨E,hn,hC,hW.symm⟩))
 have⟨rest,a6,p1,p2⟩:=Oy h6;have hA:St we Se (MS vs' (sC i rs++ia i rs)++(mE++MS vs' rest)) (GW (KV P vs'<|UZ (L.take i) []) env0 env (xbk l.toArray<|zS l i)::(Γ++[Bk (OL P vs' L) D env])) w:=by
  refine St.weak (hV.perm ?_) λS w h=>⟨hK S w (zB.right (Γ:=Γ) h).1,h⟩;have e1:(MS vs'<|Qw (UD D) rs).Perm (MS vs' (sC i rs++ia i rs)++MS vs' rest):=by unfold MS;rw[<-xaR,xaq];exact p1.map _
  refine(xeN mE e1).trans ?_;rw[xaq];exact xbo _ xeh
 have hO:=hO vs' hN env (MS vs' rest) [Bk (OL P vs' L) D env] w hA;have h7:∀(v:wN) (t:Z4),(∀i',i'<m->Fc D i i'=wL->(zS l i').dst≠Z t)->put env (zS l i).dst v t=env0 t:=λv t ht=>by
  rw[mH<|ht i hZ<|og D i];exact hv t λj u e2=>ht j u<|zjm e2
 have H:∀(v:wN) (w':wP) (vs2:K->wN),(∀p,p<b.lo->vs2 p=vs' p)->St we Se (MS vs2 (EV i rs)++(MS vs' (ia i rs)++(mE++MS vs' rest))) (zju P vs2 v x++(Γ++[Bk (OL P vs' L) D env])) w'->
  ∃g,(∀p,p<n0->g p=vs p)/\St we Se (MS g (Qw (UD<|Fc D i) rs)++mE) (Γ++[Bk (OL P g L) (Fc D i)<|put env (zS l i).dst v]) w':=by
  intro v w' vs2 a7 hs;have e3:∃g:K->wN,g=λp=>if b.lo<=p/\p<b.hi then vs2 p else vs' p:=⟨_,O⟩;have⟨g,e3⟩:=e3;have hX:∀p,p<b.hi->g p=vs2 p:=λp hp=>by
   rw[e3];simp only;split;rfl
   next hc=>exact(a7 p W).symm
  have hG:∀p,¬(b.lo<=p/\p<b.hi)->g p=vs' p:=λp hp=>by
   rw[e3];exact ir hp
  refine⟨g,λp hp=>(hG p W).trans<|hN p hp,?_⟩;have hH:∀r∈rs,UD D r=wL->g r.o=vs' r.o:=λr B hH=>hG r.o λ⟨g1,g2⟩=>by
   have⟨j,u,hji⟩:=hp.n i b hI r B g1 g2;unfold UD at hH;rw[u,xad]at hH;obtain rfl|hji:=hji
   have:=hH.1;simp only at this;rw[hu]at this;cases this
   exact h4 j hH.1 hji
  have m1:MS g (EV i rs)=MS vs2 (EV i rs):=wC λe M=>hX e.1<|o4 e M;have m2:MS g (ia i rs)=MS vs' (ia i rs):=wC λe M=>by
   have⟨r,B,a8⟩:=xeg.1 M;split at a8;rename_i hi;cases a8;rcases h6 r B with⟨a1,a2,_⟩|⟨a1,a2,a3,_⟩|⟨a1,a2,a3,a4,_⟩|⟨a1,a2,a3,_⟩
   exact wS hi a2;exact wS hi a3;exact hH r B a4;exact wS hi a3;cases a8
  have m3:MS g rest=MS vs' rest:=wC λe M=>by
   obtain⟨r,B,rfl,h1,_⟩:=a6 e M;exact hH r B h1
  have hP:(MS g (Qw (UD<|Fc D i) rs)++mE).Perm (MS vs2 (EV i rs)++(MS vs' (ia i rs)++(mE++MS vs' rest))):=by
   rw[<-m1,<-m2,<-m3];have e1:(MS g<|Qw (UD<|Fc D i) rs).Perm (MS g (EV i rs)++(MS g (ia i rs)++MS g rest)):=by unfold MS;rw[<-xaR,<-xaR];exact p2.map _
   refine(xeN mE e1).trans ?_;rw[xaq,xaq];exact xbo _<|xbo _ xeh
  refine St.weak (hs.perm hP.symm) λS w2 h=> ?_;have c0:=zB.right h;refine zB.append (zB.left c0) ⟨?_,wR⟩;have h9:=(zB.right c0).1;intro j y t u Y ht;rw[OL,xbX]at Y
  cases hz:L[j]? with
  |none=>rw[hz]at Y;cases Y
  |some z=>
   rw[hz]at Y;cases Y;have⟨e4,e5⟩:=hS j z hz;by_cases hji:j=i
   subst hji;rw[h8]at hz;cases hz;have e6:(zS l j).dst=Z t:=ht;show(prL P g x).p S (put env (zS l j).dst v t) w2;rw[e6,Dp];intro e M;have:=kG.1 (zB.left h) _<|xas.2 ⟨e,M,O⟩;have a9:vS P g e.2 v e.1=vS P vs2 e.2 v e.1:=by unfold vS;simp only[iw (P:=P) (vs':=g) (vs:=vs2) (d:=e.2) λo ho=>hX o (o3 e M o ho).1]
   rw[a9];exact this;rw[IB hji]at u;have e7:(zS l i).dst≠Z t:=hp.uniq j i t e4 hZ hji<|e5▸ht;show(prL P g z.2).p S (put env (zS l i).dst v t) w2;rw[mH e7];intro e M;have:=h9 j (z.1,prL P vs' z.2) t u (by rw[OL,xbX,hz];rfl) ht;have:=this e M;have⟨J,hJ⟩:∃J,is[j]? =some J:=⟨_,xab W⟩;have⟨_,_,q3,_,_⟩:=hQ j _ J hz hJ<|hU j u;have a9:vS P g e.2 (env t) e.1=vS P vs' e.2 (env t) e.1:=by
    unfold vS;simp only[iw (P:=P) (vs':=g) (vs:=vs') (d:=e.2) λo ho=>hG o λ⟨g1,g2⟩=>by
     rcases hp.f i b j J hI hJ o (q3 e M o ho).2 g1 g2 with h|h
     exact hji h;exact h4 j u h]
   rw[a9];exact this
 have hY:∀j,Fc D i j=wL->isD l C j=I:=λj u=>by
  by_cases h:j=i;rw[h];exact hE;rw[IB h]at u;exact hU j u
 refine⟨λhw=> .inl<|(hO.1 hw).mono λv w' ⟨vs2,a7,hs⟩=>⟨hY,h7 v,H v w' vs2 a7 hs⟩,λhw=>⟨hY,h7 Z0,?_⟩⟩;have⟨g1,g2,g3⟩:=hO.2 hw;refine H Z0 w vs' (λ_ _=>O) ?_;rw[g1,xbN]at hA;rw[g2];refine St.weak (show St we Se (MS vs' []++(MS vs' (ia i rs)++(mE++MS vs' rest))) _ w from hA) λS w h=>zB.append (g3 S w) h.2;rintro D env w hM b4 ⟨hU,hv,vs',hN,hV⟩;have e8:C=wF:=by
  cases C with
  |none=>rfl
  |some s=>exact wS (hU s<|hM s<|hP s O)<|by simp[isD]
 refine b2 e8 env w vs' hN ?_;have e9:Qw (UD D) rs=Qw (λr=>r.c.isNone) rs:=by
  refine HI λr B=> ?_;have:UD D r=r.c.isNone:=by
   unfold UD;have e1:(match r.a with|none=>wL|some j=>D j)=wL:=by
    cases R:r.a with
    |none=>rfl
    |some j=>exact hM j (hp.a r B j R).1
   rw[e1]
   cases U:r.c with
   |none=>rfl
   |some k=>simp only[hM k (hp.c r B k U).1];rfl
  exact this
 rw[e9]at hV;refine hV.weak λS w h=>⟨?_,zB.left h⟩;refine UW ts λt _=> ?_;have:=zb7 (i:=m) (t:=t) (a0 vs') (G vs') hv (zB.right (Γ:=Γ) h).1 (So m) λj u _=>⟨λ_=>u,λ_=>hM j u⟩;rw[zgf];rwa[xaW<|by unfold OL;rw[xav];lia]at this
end
end
section
section
variable{P:jP}{cf:Cf}{fr:Fr}{cx σ σ0:Sg}{vs vs':wr->wN}{env env0:y6}{w:wP}{R:Type}{r:R}
def EG:∀{rg:N (K×K×Dv)}{e:K×K×Dv},e∈dd rg->e∈rg
 |a::r,e,h=>by
  obtain rfl|h:=xah.1 h
  simp_all;exact FS _<|EG (xbU.1 h).1
def Tr:∀{rg:N (K×K×Dv)}{e:K×K×Dv},e∈dd rg->iZ rg e.1 e.2.1=Z e.2.2
 |(t,i,d)::r,e,h=>by
  obtain rfl|h:=xah.1 h
  unfold iZ;simp;have⟨h1,a⟩:=xbU.1 h;unfold iZ;simp only[xcM]at a;rw[a];exact Tr h1
def P9:∀(l:N uT) (al:N (K×wW)) {σ:Sg},uD P fr cx σ env w->uD P fr cx (zm5 cf cx l al σ) env w
 |[],_,_,h=>h
 |o::r,al,σ,h=>P9 r _<|CH _ h
theorem zjV{N:K}{l:xS uT}(h:(l.all λo=>qK N o.dst)=wL)(m:K):((l.drop m).all λo=>qK N o.dst)=wL:=by grind
def nG:∀(l:N K) {σ:Sg},cU P fr cx σ vs env w->cU P fr cx (Hf σ l) vs env w
 |[],_,h=>h
 |o::r,_,h=>nG r<|Im h
theorem SL:∀(l:N K) (σ:Sg),(Hf σ l).nx=σ.nx
 |[],_=>rfl
 |o::r,σ=>by
  show(Hf (OO σ o) r).nx=_;rw[SL r];unfold OO;grind
structure RX1(i:K)(r r':Rb):Prop where
 a:r'.a=r.a
 o:r'.o=r.o
 x:r'.x=r.x
 c1:∀k,r.c=Z k->r'.c=Z k
 c2:r.c=wF->∀k,r'.c=Z k->i<=k
 d1:∀j∈r.rd,j∈r'.rd
 d2:∀j∈r'.rd,j∈r.rd\/i<=j
def RX(i:K):N Rb->N Rb->Prop
 |[],b=>∀r∈b,(∃j,r.a=Z j/\i<=j)/\(∀k,r.c=Z k->i<=k)/\∀j∈r.rd,i<=j
 |_::_,[]=>KW
 |r::rs,d::b=>RX1 i r d/\RX i rs b
def AV(i:K)(rs:N Rb):Prop:=∀r∈rs,(∀j,r.a=Z j->j<i)/\(∀k,r.c=Z k->k<i)/\∀j∈r.rd,j<i
def RX.refl(i:K):∀rs:N Rb,RX i rs rs
 |[]=>λr b=>wS b H1
 |r::rs=>⟨⟨O,O,O,λ_ h=>h,λh k a=>(by rw[h]at a;cases a),λ_ h=>h,λ_ h=> .inl h⟩,RX.refl i rs⟩
theorem TB{i:K}{a:N Rb}(h:RX (i+1) [] a):RX i [] a/\sC i a=[]/\EV i a=[]/\ia i a=[]:=by refine⟨λr b=> ?_,?_,?_,?_⟩;have⟨⟨j,h1,c⟩,d,f⟩:=h r b;grind;refine xeq.2 λr b=>ir λe=> ?_;have:=(h r b).2.1 i e;lia;refine xeq.2 λr b=>ir λe=> ?_;have⟨j,h1,c⟩:=(h r b).1;grind;refine xeq.2 λr b=>ir λe=> ?_;have:=(h r b).2.2 i e;lia
theorem RX1.step{i:K}{r r1 e:Rb}(h:RX1 (i+1) r1 e)(f:r1.a=r.a)(g:r1.o=r.o)(l:r1.x=r.x)(hc:∀k,r.c=Z k->r1.c=Z k)(m:r.c=wF->∀k,r1.c=Z k->k=i)(hd:∀j∈r.rd,j∈r1.rd)(n:∀j∈r1.rd,j∈r.rd\/j=i):RX1 i r e:={
 a:=h.a.trans f
 o:=h.o.trans g
 x:=h.x.trans l
 c1:=λk b=>h.c1 k<|hc k b
 c2:=λhn k b=>by
  cases h1:r1.c with
  |none=>have:=h.c2 h1 k b;lia
  |some q=>
   have:=h.c1 q h1;simp_all
 d1:=λj d=>h.d1 j<|hd j d
 d2:=λj d=>by
  obtain h1|h1:=h.d2 j d
  grind;exact .inr<|by lia}
theorem NM{i:K}:∀{rs b:N Rb},AV i rs->RX (i+1) rs b->RX i rs b/\sC i b=[]/\EV i b=[]/\ia i b=[]
 |[],b,_,h=>TB h
 |r::rs,[],_,h=>h.elim
 |r::rs,d::b,f,⟨h1,n⟩=>by
  have⟨g1,g,j,l⟩:=NM (λq o=>f q<|FS _ o) n;have⟨q1,q2,t⟩:=f r<|IR;have e1:d.c≠Z i:=λe=>by
   cases hc:r.c with
   |none=>have:=h1.c2 hc i e;lia
   |some k=>have:=h1.c1 k hc;rw[e]at this;cases this;have:=q2 i hc;lia
  have p:d.a≠Z i:=λe=>by rw[h1.a]at e;have:=q1 i e;lia
  have s:i∉d.rd:=λe=>by
   obtain h|h:=h1.d2 i e
   grind;lia
  refine⟨⟨h1.step O O O (λ_ h=>h) (λhn k m=>(by rw[hn]at m;cases m)) (λ_ h=>h)<|λ_ h=> .inl h,g1⟩,?_,?_,?_⟩;unfold sC at g⊢;rw[xaP,ir e1];exact g;unfold EV at j⊢;rw[xaP,ir p];exact j;unfold ia at l⊢;rw[xaP,ir s];exact l
def zgi{i:K}{os:N K}:∀{rs b:N Rb},AV i rs->RX (i+1) (zgw i os rs) b->RX i rs b/\sC i b=[]/\EV i b=[]/\∀e∈eH os rs,e∈ia i b
 |[],b,_,h=>by
  have⟨g1,d,f,_⟩:=TB h;exact⟨g1,d,f,λe he=>wS he H1⟩
 |r::rs,[],_,h=>h.elim
 |r::rs,g::b,t,⟨h1,z⟩=>by
  have⟨g1,d,f,l⟩:=zgi (rs:=rs) (λq A=>t q<|FS _ A) z;have⟨q1,q2,E⟩:=t r<|IR;have⟨r1,p⟩:∃r1,r1=(match r.c,cn os r.o with|none,true=>(⟨r.a,wF,i::r.rd,r.o,r.x⟩:Rb)|_,_=>r):=⟨_,O⟩;have h1:RX1 (i+1) r1 g:=by rw[p];exact h1
  have k1:r1.a=r.a/\r1.o=r.o/\r1.x=r.x/\r1.c=r.c/\(∀j∈r.rd,j∈r1.rd)/\(∀j∈r1.rd,j∈r.rd\/j=i):=by rw[p];split;simp_all;simp_all
  have⟨u,v,y,m,B,s⟩:=k1;have e1:g.c≠Z i:=λe=>by
   cases hc:r.c with
   |none=>have:=h1.c2 (m.trans hc) i e;lia
   |some k=>have:=h1.c1 k<|m.trans hc;rw[e]at this;cases this;have:=q2 i hc;lia
  have C:g.a≠Z i:=λe=>by rw[h1.a,u]at e;have:=q1 i e;lia
  refine⟨⟨h1.step u v y (λk n=>m.trans n) (λhn k n=>by rw[m,hn]at n;cases n) B s,g1⟩,?_,?_,?_⟩;unfold sC at d⊢;rw[xaP,ir e1];exact d;unfold EV at f⊢;rw[xaP,ir C];exact f;intro e he;unfold eH at he;unfold ia at l⊢;rw[xaP];split at he;rename_i hc D;have hi:i∈g.rd:=h1.d1 i (by rw[p,hc,D];exact IR);rw[S hi];obtain rfl|he:=xah.1 he
  rw[h1.o,h1.x,v,y];exact IR;exact FS _<|l e he;split;exact l e he;exact FS _<|l e he
def zhJ{i:K}:∀{ob:N (K×Od)}{b:N Rb},RX (i+1) (zdL i ob) b->RX i [] b/\sC i b=[]/\EV i b=ob/\ia i b=[]
 |[],b,h=>TB h
 |e::ob,[],h=>h.elim
 |e::ob,d::b,⟨h1,n⟩=>by
  have⟨g1,f,g,l⟩:=zhJ n;have e1:d.c≠Z i:=λe=>by have:=h1.c2 O i e;lia
  have m:=h1.a;have p:i∉d.rd:=λe=>by
   obtain h|h:=h1.d2 i e
   cases h
   lia
  refine⟨λr hr=> ?_,?_,?_,?_⟩;obtain rfl|hr:=xah.1 hr
  exact⟨⟨i,m,So _⟩,λk q=>by have:=h1.c2 O k q;lia,λj s=>by
   obtain h|h:=h1.d2 j s
   cases h
   lia⟩
  exact g1 r hr;unfold sC at f⊢;rw[xaP,ir e1];exact f;unfold EV at g⊢;rw[xaP,S m,g,h1.o,h1.x];unfold ia at l⊢;rw[xaP,ir p];exact l
def SS{i:K}{os:N K}{ob:N (K×Od)}:∀{rs b:N Rb},AV i rs->RX (i+1) (SU i os rs++zdL i ob) b->RX i rs b/\sC i b=eH os rs/\EV i b=ob/\ia i b=[]
 |[],b,_,h=>zhJ h
 |r::rs,[],_,h=>h.elim
 |r::rs,d::b,n,⟨h1,A⟩=>by
  have⟨g1,B,p,s⟩:=SS (rs:=rs) (λq C=>n q<|FS _ C) A;have⟨q1,q2,D⟩:=n r<|IR;have⟨r1,f⟩:∃r1,r1=(match r.c,cn os r.o with|none,true=>(⟨r.a,Z i,r.rd,r.o,r.x⟩:Rb)|_,_=>r):=⟨_,O⟩;have h1:RX1 (i+1) r1 d:=by rw[f];exact h1
  have k1:r1.a=r.a/\r1.o=r.o/\r1.x=r.x/\r1.rd=r.rd/\(∀k,r.c=Z k->r1.c=Z k)/\(r.c=wF->∀k,r1.c=Z k->k=i):=by rw[f];split;simp_all;exact⟨O,O,O,O,λ_ h=>h,λhn k t=>(by rw[hn]at t;cases t)⟩
  have⟨u,v,y,l,E,m⟩:=k1;have F:d.a≠Z i:=λe=>by rw[h1.a,u]at e;have:=q1 i e;lia
  have G:i∉d.rd:=λe=>by
   obtain h|h:=h1.d2 i e
   rw[l]at h;have:=D i h;lia;lia
  refine⟨⟨h1.step u v y E m (λj g=>by rw[l];exact g) (λj g=>by rw[l]at g;exact .inl g),g1⟩,?_,?_,?_⟩
  have no:r1=r->d.c≠Z i:=λhd e=>by
   rw[hd]at h1
   cases hc:r.c with
   |none=>have:=h1.c2 hc i e;lia
   |some k=>have:=h1.c1 k hc;rw[e]at this;cases this;have:=q2 i hc;lia
  have hv:eH os (r::rs)=(match r.c,cn os r.o with|none,wL=>(r.o,r.x)::eH os rs|_,_=>eH os rs):=O;have H:sC i (d::b)=if d.c=Z i then(d.o,d.x)::sC i b else sC i b:=by unfold sC;rw[xaP];split<;>next h=>split at h<;>simp_all
  rw[H,hv,B]
  cases hc:r.c with
  |some k=>
   rw[ir<|no<|by rw[f,hc]]
  |none=>
   cases z:cn os r.o with
   |false=>rw[ir<|no<|by rw[f,hc,z]]
   |true=>
    have:d.c=Z i:=h1.c1 i (by rw[f,hc,z]);rw[S this,h1.o,h1.x,v,y]
  unfold EV at p⊢;rw[xaP,ir F];exact p;unfold ia at s⊢;rw[xaP,ir G];exact s
def zhU{i:K}:∀{ob:N (K×Od)}{b:N Rb},RX i (zp9 ob) b->Qw (λr=>r.a.isNone) b=ob
 |[],b,h=>xeq.2 λr d=>by
  have⟨⟨j,h1,_⟩,_⟩:=h r d;simp[h1]
 |e::ob,[],h=>h.elim
 |e::ob,f::b,⟨h1,g⟩=>by
  have c:=zhU g;unfold Qw at c⊢;have:f.a=wF:=h1.a;simp only[xaP,this,Option.isNone_none,uS];rw[c,h1.o,h1.x]
theorem zlk{i:K}{os:N K}{rs:N Rb}(h:AV i rs):AV (i+1) (zgw i os rs):=by
 induction rs with
 |nil=>exact λr a=>wS a H1
 |cons r rs b=>
  intro q hq;obtain rfl|hq:=xah.1 hq
  have⟨q1,q2,c⟩:=h r<|IR;split;grind;grind;exact b (λq hq=>h q<|FS _ hq) q hq
theorem zbp{i:K}{os:N K}{rs:N Rb}(h:AV i rs):AV (i+1) (SU i os rs):=by
 induction rs with
 |nil=>exact λr a=>wS a H1
 |cons r rs b=>
  intro q hq;obtain rfl|hq:=xah.1 hq
  have⟨q1,q2,c⟩:=h r<|IR;split;grind;grind;exact b (λq hq=>h q<|FS _ hq) q hq
def zi0{i:K}{ob:N (K×Od)}{rs:N Rb}(h:AV (i+1) rs):AV (i+1) (rs++zdL i ob):=λq hq=>by
 obtain hq|hq:=xaa.1 hq
 exact h q hq;obtain⟨e,_,rfl⟩:=xas.1 hq;simp_all
theorem zhD{i:K}{rs:N Rb}(h:AV i rs):AV (i+1) rs:=λr a=>by
 have⟨q1,q2,b⟩:=h r a;grind
theorem zpM{i n:K}{os:N K}{rs:N Rb}(h:∀r∈rs,r.o<n):∀r∈zgw i os rs,r.o<n:=by
 induction rs with
 |nil=>exact λr a=>wS a H1
 |cons r rs b=>
  intro q hq;obtain rfl|hq:=xah.1 hq
  grind;simp_all
theorem zl9{i n:K}{os:N K}{rs:N Rb}(h:∀r∈rs,r.o<n):∀r∈SU i os rs,r.o<n:=by
 induction rs with
 |nil=>exact λr a=>wS a H1
 |cons r rs b=>
  intro q hq;obtain rfl|hq:=xah.1 hq
  grind;simp_all
theorem zeK{n:K}{os:N K}:∀{rs:N Rb},(∀r∈rs,r.o<n)->∀e∈eH os rs,e.1<n
 |[],_,e,a=>wS a H1
 |r::rs,h,e,a=>by
  have c:=zeK (os:=os) λq b=>h q<|FS _ b;unfold eH at a;split at a;grind;grind
def zcl:∀(rs:N Rb),Rr rs=Qw (λr=>r.c.isNone) rs
 |[]=>rfl
 |r::rs=>by
  have a:=zcl rs;unfold Qw at a⊢;unfold Rr
  cases hc:r.c with
  |none=>simp only[xaP,hc,Option.isNone_none,uS];rw[a]
  |some k=>simp only[xaP,hc];exact a
def bg{ts:N Z4}:∀{rg:N (K×K×Dv)}{e:K×K×Dv},e∈aR ts rg->e∈rg/\cn ts e.1=wL
 |(t,i,v)::r,e,h=>by
  unfold aR at h;split at h;rename_i b;obtain rfl|h:=xah.1 h
  simp_all;have⟨h1,a⟩:=bg h;exact⟨FS _ h1,a⟩;have⟨h1,a⟩:=bg h;exact⟨FS _ h1,a⟩
def mF{ts:N Z4}{t i:K}(ht:cn ts t=wL):∀{rg:N (K×K×Dv)},iZ (aR ts rg) t i=iZ rg t i
 |[]=>rfl
 |(b,c,v)::r=>by
  unfold aR;split;unfold iZ;rw[mF ht];rename_i a;rw[mF ht];conv=>rhs;unfold iZ
  rw[Yw<|λe=>by rw[e,ht]at a;cases a];rfl
def za7{t i:K}:∀{a b:N (K×K×Dv)},iZ (a++b) t i=match iZ a t i with|some d=>Z d|none=>iZ b t i
 |[],b=>rfl
 |(c,e,v)::a,b=>by
  show(bif E c t && E e i then Z v else iZ (a++b) t i)=(match(bif E c t && E e i then Z v else iZ a t i)with|some d=>Z d|none=>iZ b t i);cases f:E c t && E e i
  simp only[XS];exact za7;rfl
theorem zkY{l:N K}{t:K}(h:cn l t=wL):t∈l:=by grind [cn,zY]
def s9:∀{l:N (K×Dv)}{e:K×Dv}{p:K},e∈l->vt e.2=Z p->p∈rE l
 |(i,v)::r,e,p,h,hp=>by
  unfold rE;obtain rfl|h:=xah.1 h
  simp_all;have:=s9 h hp;split;simp_all;lia
theorem zei{d:V Z4}{rg:N (K×K×Dv)}{e:K×Dv}(h:e∈Bn d rg):∃t,d=Z t/\(t,e.1,e.2)∈rg:=by
 unfold Bn at h;split at h;rename_i t;have⟨q,c,a⟩:=xeg.1 h;split at a;rename_i b;rw[<-zY b];grind;cases a
 cases h
def Ta(P:jP)(vs:K->wN)(n0:K)(Γ:N FF)(env0:y6)(cx σ:Sg)(KL:N (Z4×N (K×Dv))):Prop:=∀vs',(∀p,p<n0->vs' p=vs p)->zmn P vs' Γ env0 cx σ (KV P vs' KL)
def zbZ(cx:Sg)(KL:N (Z4×N (K×Dv))):Prop:=∀e∈KL,XY cx.rg e.1=wL
def UY{KL:N (Z4×N (K×Dv))}{l:N (K×Dv)}{d:V Z4}(hd:wJ cx d=wL)(h:zbZ cx KL):zbZ cx (FK d l KL):=by
 cases d with
 |none=>exact h
 |some s=>
  intro e he;obtain rfl|he:=xah.1 he
  exact hd;exact h e he
def dc{n0:K}{Γ:N FF}{KL:N (Z4×N (K×Dv))}{l:N (K×Dv)}{o:uT}(hd:wJ cx o.dst=wL)(h:Ta P vs n0 Γ env0 cx σ KL):Ta P vs n0 Γ env0 cx (σ.put o.dst l) (FK o.dst l KL):=λvs' hv=>by
 rw[zeM];exact ze6 hd (h vs' hv) λS v w hv=>hv
def PnR(c:V (K×PX))(i n:K)(a:V (K×PX)):Prop:=a=c\/(c=wF/\∃b q,a=Z (b,q)/\i<=b/\b<i+n)
def PnR.up{b a:V (K×PX)}{i n:K}(h:PnR b (i+1) n a):PnR b i (n+1) a:=by
 obtain h|⟨h,c,q,h1,d,e⟩:=h
 exact .inl h;exact .inr ⟨h,c,q,h1,W,W⟩
theorem PnR.ne{c a:V (K×PX)}{i n:K}(h:PnR c (i+1) n a)(hi:∀b q,c=Z (b,q)->b<i)(q:PX):a≠Z (i,q):=λe=>by
 obtain h|⟨h,b,d,h1,f,g⟩:=h
 grind;grind
def PnR.of_some{a:V (K×PX)}{e:K×PX}{i n:K}(h:PnR (Z e) i n a):a=Z e:=by
 obtain h|⟨h,_⟩:=h
 exact h;cases h
def zng(P:jP)(b:N uT)(we:wP)(Se:K->Prop)(mE:N MF)(Γ:N FF)(env0:y6)(vs:K->wN)(n0:K)(c:V (K×PX))(rs:N Rb):N ((uT×N (K×Dv))×Oi)->K->N (Z4×N (K×Dv))->Prop
 |[],_,_=>Xs
 |((o,L),a)::r,i,KL=>(isD b (c.map (·.1)) i=I->ObB P b.toArray we Se mE Γ env0 vs n0 rs KL i o L a)/\(∀q,c=Z (i,q)->ia i rs=[]/\ObP P b.toArray we Se mE Γ env0 vs n0 q rs KL i o)/\zng P b we Se mE Γ env0 vs n0 c rs r (i+1) (FK o.dst L KL)
def DW{P:jP}{b:N uT}{we:wP}{Se:K->Prop}{mE:N MF}{Γ:N FF}{env0:y6}{vs:K->wN}{n0:K}{d:V (K×PX)}{rs:N Rb}:∀(r:N (uT×N (K×Dv))) (is:N Oi) (n:K) (KL:N (Z4×N (K×Dv))) (i:K) (x:uT×N (K×Dv)) (a:Oi),
 zng P b we Se mE Γ env0 vs n0 d rs (r.zip is) n KL->r[i]? =Z x->is[i]? =Z a->(isD b (d.map (·.1)) (n+i)=I->ObB P b.toArray we Se mE Γ env0 vs n0 rs (UZ (r.take i) KL) (n+i) x.1 x.2 a)/\∀q,d=Z (n+i,q)->ia (n+i) rs=[]/\ObP P b.toArray we Se mE Γ env0 vs n0 q rs (UZ (r.take i) KL) (n+i) x.1
 |[],_,_,_,_,_,_,h,c,_=>by simp at c
 |_::_,[],_,_,_,_,_,_,_,h=>by simp at h
 |(o,L)::r,e::is,n,KL,0,x,a,h,c,hc=>by simp at c hc;subst c;subst hc;exact⟨h.1,h.2.1⟩
 |(o,L)::r,e::is,n,KL,i+1,x,a,h,c,hc=>by
  have:=DW r is (n+1) (FK o.dst L KL) i x a h.2.2 (by simpa using c) (by simpa using hc);rw[(W:n+1+i=n+(i+1))]at this;simpa[UZ]using this
def tm(hT:yX P cf.tt)(hL:kZ P cf.tt)(hC:∀s∈cf.cs,yY P s)(hX:AF P cf){u:N uT}{fz:N K}{k:V (K×PX)->Sg->N Rb->N Oi->V R}{Γ:N FF}{n0:K}(hF:∀e∈cx.ob,e.1<n0):∀{os:N uT}{i:K}{H:V (K×PX)}{σ:Sg}{rs:N Rb}{is:N Oi}{KL:N (Z4×N (K×Dv))},
 Pw cf cx u fz H os i σ rs is k=Z r->(∀C q,H=Z (C,q)->C<i)->Ta P vs n0 Γ env0 cx σ KL->zbZ cx KL->σ.ob=[]->Bd cx σ->(∀r∈rs,r.o<σ.nx)->AV i rs->n0<=σ.nx->
 ∃(x:V (K×PX)) (Ls:N (N<|K×Dv)) (z:N Oi) (σ':Sg) (y:N Rb),PnR H i (X os) x/\X Ls=X os/\X z=X os/\k x σ' y (is++z)=Z r/\RX i rs y/\
  zng P u fr.we fr.Se (MS vs cx.ob++fr.F) Γ env0 vs n0 x y ((os.zip Ls).zip z) i KL/\Ta P vs n0 Γ env0 cx σ' (UZ (os.zip Ls) KL)/\zbZ cx (UZ (os.zip Ls) KL)/\σ'.ob=[]/\Bd cx σ'/\(∀r∈y,r.o<σ'.nx)/\n0<=σ'.nx
 |[],i,H,σ,rs,is,KL,h,hH,hi,hn,ho,hB,hr,J,h0=>⟨H,[],[],σ,rs,.inl O,O,O,by rw[xbm];exact h,RX.refl _ _,wR,hi,hn,ho,hB,hr,h0⟩
 |o::os,i,H,σ,rs,is,KL,h,hH,hi,hn,ho,hB,hr,J,h0=>by
  unfold Pw at h;have⟨hd,h⟩:=yf h;have hG:∀C q,H=Z (C,q)->C<i+1:=λC q e=>Nat.lt_succ_of_lt<|hH C q e;cases hJ:zlP u H i<;>rw[hJ]at h
  case true=>
   obtain⟨C,q0,rfl⟩:∃C q0,H=some (C,q0):=by
    cases H with
    |none=>cases hJ
    |some e=>exact⟨e.1,e.2,O⟩
   have⟨x,Ls,z,σ',y,hc,h1,T,U,Y,h5,h6,h7,h8,h9,hu,hy⟩:=tm hT hL hC hX hF (os:=os) h hG (dc (l:=[]) hd hi) (UY hd hn) ho (tV hB λe he=>wS he H1) hr (zhD J) h0;have⟨g1,g2,M,g4⟩:=NM J Y;have hK:x=Z (C,q0):=hc.of_some;refine⟨x,[]::Ls,⟨σ.nx,σ.nx,[]⟩::z,σ',y,hc.up,by simp[h1],by simp[T],by rw[<-U];simp,g1,⟨λhD=> ?_,λq hq=>wS hq<|hc.ne hH q,h5⟩,h6,h7,h8,h9,hu,hy⟩;exfalso;rw[hK]at hD;have hJ:vO u 16 i C=wL:=hJ;simp[isD,hJ]at hD
  simp only[NT]at h;have⟨D,b,h,hW,hP,a2,hU,a3⟩:=zim h hB;have hE:∀{vs' env S w},(∀p,p<n0->vs' p=vs p)->zB S Γ w->QC (KV P vs' KL) env0 env S w (xbk u.toArray o)->∀t∈xbk u.toArray o,Lk P vs' env S w cx σ t:=λ{vs' env S w} hv a E t ht=>hi vs' hv env S w a t<|iA E t ht;cases b
  ·have b1:Ta P vs n0 Γ env0 cx (D.put o.dst [(0,.un)]) (FK o.dst [(0,.un)] KL):=dc hd λvs' hv env S w a t ht=>hU P vs' env S w t<|hi vs' hv env S w a t ht;have⟨x,Ls,z,σ',y,hc,h1,T,U,Y,h5,h6,h7,h8,h9,hu,hy⟩:=tm hT hL hC hX hF (os:=os) h hG b1 (UY hd hn) (hW.trans ho) (tV a2 λe he p hp=>by obtain rfl:=xac.1 he;cases hp) (λr hz=>by show r.o<D.nx;rw[hP];exact hr r hz) (zhD J) (by show n0<=D.nx;rw[hP];exact h0);have⟨g1,g2,M,g4⟩:=NM J Y;refine⟨x,[(0,.un)]::Ls,⟨D.nx,D.nx,[]⟩::z,σ',y,hc.up,by simp[h1],by simp[T],by rw[<-U];simp,g1,⟨λ_=>⟨(by show n0<=D.nx;rw[hP];exact h0),So _,λe he p hp=>(by obtain rfl:=xac.1 he;cases hp),λe he=>(by rw[M]at he;cases he),λvs' hv env F G w B=>⟨λhw=> ?_,λ_=>⟨g2,M,λS w=>⟨O,wR⟩⟩⟩⟩,λq hq=>wS hq<|hc.ne hH q,h5⟩,h6,h7,h8,h9,hu,hy⟩;exfalso;have⟨S,_,a⟩:=B.ex;have:=a3 P vs' env S w λt ht=>hE hv (zB.left a.2) a.1 t ht;rw[hw]at this;cases this
  ·have⟨c,h,a4,b2,hA,a5⟩:=zkt h a2;have hY:∀vs' env S w t,Lk P vs' env S w cx σ t->Lk P vs' env S w cx c t:=λvs' env S w t ht=>a5 P vs' env S w t<|hU P vs' env S w t ht;have hZ:Ta P vs n0 Γ env0 cx c KL:=λvs' hv env S w a t ht=>hY vs' env S w t<|hi vs' hv env S w a t ht;have Q:c.nx=σ.nx:=b2.trans hP;have hQ:∀{vs' env S w},(∀p,p<n0->vs' p=vs p)->zB S Γ w->QC (KV P vs' KL) env0 env S w (xbk u.toArray o)->yR u.toArray env o=wL:=λ{vs' env S w} hv a E=>a3 P vs' env S w λt ht=>hE hv a E t ht;generalize hI:xbk u.toArray o=ts at h hE hQ;generalize c8:dH ts c.rg=L at h;generalize c9:fzB fz o.dst=bz at h;cases hM:(zlO cf cx ⟨c.nx,c.rg,eH L rs⟩ bz o.dst o.op||(zkN cf cx c o.op).isSome)<;>rw[hM]at h
   ·simp only[NT]at h;have⟨l,h,b3⟩:=zlX (P:=P) (d:=o.dst) (ty:=o.type) (pos:=o.pos) (aft:=o.after) (g:=o.guard) (F:=[]) hT hL hC hX h;have⟨hl,h⟩:=yf h;have⟨x,Ls,z,σ',y,hc,h1,T,U,Y,h5,h6,h7,h8,h9,hu,hy⟩:=tm hT hL hC hX hF (os:=os) h hG (dc hd hZ) (UY hd hn) (a4.trans<|hW.trans ho) (tV hA<|Pn hl) (zpM λr hz=>by show r.o<c.nx;rw[Q];exact hr r hz) (zlk J) (by show n0<=c.nx;rw[Q];exact h0);have⟨g1,g2,M,g4⟩:=zgi J Y;refine⟨x,l::Ls,⟨c.nx,c.nx,rE l⟩::z,σ',y,hc.up,by simp[h1],by simp[T],by rw[<-U];simp,g1,⟨λ_=>⟨(by show n0<=c.nx;rw[Q];exact h0),So _,λe he p hp=>⟨Pn hl e he p hp,s9 he hp⟩,λe he=>(by rw[M]at he;cases he),λvs' hv env F G w B=>⟨λ_=> ?_,λhw=> ?_⟩⟩,λq hq=>wS hq<|hc.ne hH q,h5⟩,h6,h7,h8,h9,hu,hy⟩
    ·rw[g2]at B;rw[M];have⟨k1,k2,k3,S,k4,k5,k6,k7,k8⟩:=B;have hN:MS vs' cx.ob=MS vs cx.ob:=wC λe he=>hv _<|hF e he;refine(b3 env w S vs' k5 (Yf.2 λmf hmf=> ?_) λt ht=> ?_).mono ?_
     ·obtain hmf|hmf:=xaa.1 hmf
      ·obtain⟨e,he,rfl⟩:=xas.1 hmf;exact Yf.1 k7 _<|xaa.2 (.inl<|xas.2 ⟨e,g4 e he,O⟩)
      ·rw[xbm]at hmf;have hmf:mf∈MS vs' cx.ob:=hmf;rw[hN]at hmf;exact Yf.1 k7 _<|xaa.2 (.inr<|xaa.2 (.inl<|xaa.2 (.inl hmf)))
     ·have E:QC (KV P vs' KL) env0 env S w (xbk u.toArray o):=k8.1;exact hY vs' env S w t<|hE hv (zB.left k8.2) (hI▸E) t<|hI▸xaa.2 (.inl ht)
     ·rintro v w' ⟨hx,hf⟩;refine⟨vs',λ_ _=>O,k1.trans hx,k2,k3,S,k4,λk hk=>k5 k<|xal hx.size hk,k6,yS.keep hx.to (λm hm i hi=>hx.block i (yS.lt k7 m hm i hi) wR) k7,zB.append (kG.2 λf b4=> ?_)<|zB.keep hx.to k8.2⟩;obtain⟨e,he,rfl⟩:=xas.1 b4;exact hf e he
    ·exfalso;have⟨S,_,a⟩:=B.ex;have E:QC (KV P vs' KL) env0 env S w (xbk u.toArray o):=a.1;have:=hQ hv (zB.left a.2)<|hI▸E;rw[hw]at this;cases this
   ·simp only[NT]at h;have hN:∀{vs2:K->wN},(∀p,p<n0->vs2 p=vs p)->MS vs2 cx.ob=MS vs cx.ob:=λhv=>wC λe he=>hv _<|hF e he
    have hV:∀{vs':K->wN}{env:y6}{F:N MF}{G:N FF}{w:wP},(∀p,p<n0->vs' p=vs p)->St fr.we fr.Se (MS vs' (eH L rs)++((MS vs cx.ob++fr.F)++F)) (GW (KV P vs' KL) env0 env (xbk u.toArray o)::(Γ++G)) w->
     cU P ⟨fr.we,fr.Se,fr.F++F,Γ++G⟩ ⟨0,[],cx.ob⟩ ⟨c.nx,dd<|aR ts<|c.rg++cx.rg,eH L rs⟩ vs' env w:=by
     intro vs' env F G w hv B;refine⟨⟨λe he=>zeK (λr hz=>by rw[Q];exact hr r hz) e he,hA.o2,λe he p hp=> ?_,λe he=>wS he H1⟩,?_⟩
     ·have:=(bg<|EG he).1;obtain h|h:=xaa.1 this
      ·exact hA.r1 e h p hp
      ·exact hA.r2 e h p hp
     ·show St fr.we fr.Se (MS vs' (eH L rs)++(MS vs' cx.ob++(fr.F++F))) (RS P vs' env (dd<|aR ts<|c.rg++cx.rg)++([]++(Γ++G))) w;rw[hN hv,<-xaq<|MS vs cx.ob];refine B.weak λS w a=>zB.append (kG.2 λf hf=> ?_) a.2;obtain⟨e,he,rfl⟩:=xas.1 hf;have E:QC (KV P vs' KL) env0 env S w (xbk u.toArray o):=a.1;have a6:=(bg<|EG he).2;have a7:=Tr he;rw[mF a6,za7]at a7;exact hY vs' env S w e.1 (hE hv (zB.left a.2) (hI▸E) e.1<|zkY a6) e.2.1 e.2.2 a7
    rcases zhb (P:=P) (cx:=⟨0,[],cx.ob⟩) (d:=o.dst) (ty:=o.type) (pos:=o.pos) (aft:=o.after) (g:=o.guard) hT hL hC hX (by cases o.dst<;>rfl) h with⟨τ,h,c0,hm⟩|⟨q,a8,h,_,hm⟩;rotate_left
    ·cases H with
     |some e=>cases h
     |none=>
      have⟨x,Ls,z,σ',y,hc,h1,T,U,Y,h5,h6,h7,h8,h9,hu,hy⟩:=tm hT hL hC hX hF (os:=os) h (λC q e=>by cases e;lia) (dc (l:=[]) hd hZ) (UY hd hn) (a4.trans<|hW.trans ho) (tV hA λe he=>wS he H1) (zl9 λr hz=>by show r.o<c.nx;rw[Q];exact hr r hz) (zbp J) (by show n0<=c.nx;rw[Q];exact h0);have c1:RX (i+1) (SU i L rs++zdL i []) y:=by rw[show zdL i []=[]from O,xbm];exact Y
      have⟨g1,g2,M,g4⟩:=SS J c1;have hK:x=Z (i,q):=hc.of_some;refine⟨x,[]::Ls,⟨c.nx,c.nx,[]⟩::z,σ',y,.inr ⟨O,i,q,hK,So _,mK⟩,by simp[h1],by simp[T],by rw[<-U];simp,g1,⟨λhD=> ?_,λq' hq=>⟨g4,?_⟩,h5⟩,h6,h7,h8,h9,hu,hy⟩
      ·exfalso;rw[hK]at hD;simp[isD]at hD
      ·rw[hK]at hq;cases hq;intro vs' hv env F G w B;rw[g2]at B;have⟨S,_,a⟩:=B.ex;have E:QC (KV P vs' KL) env0 env S w (xbk u.toArray o):=a.1;refine⟨hQ hv (zB.left a.2)<|hI▸E,(hm _ vs' env w<|hV hv B).mono ?_⟩;rintro ch w' ⟨c2,_,hs⟩;refine⟨c2,?_⟩;have hs:St fr.we fr.Se ([]++(MS vs' a8.ob++(MS vs' cx.ob++(fr.F++F)))) (RS P vs' env a8.rg++([]++(Γ++G))) w':=hs;have hs:=St.dropM (A:=[]) hs;rw[hN hv,<-xaq<|MS vs cx.ob]at hs;exact St.weak (show St fr.we fr.Se (MS vs cx.ob++fr.F++F) _ w' from hs) λS w a=>zB.right a
    have⟨j,a0⟩:∃j,j=zqc bz o.dst τ:=⟨_,O⟩;simp only at h;rw[<-a0]at h;have a9:j.nx=τ.nx:=by rw[a0];cases bz<;>first|rfl|exact SL _ _
    have h':∀{a1:Fr}{vs2:K->wN}{env w},cU P a1 ⟨0,[],cx.ob⟩ τ vs2 env w->cU P a1 ⟨0,[],cx.ob⟩ j vs2 env w:=λ{a1 vs2 env w} hq=>by rw[a0];cases bz<;>first|exact hq|exact nG _ hq
    unfold zly at h;have⟨hl,h⟩:=yf h;rw[xad]at hl;have⟨hl,hR⟩:=hl;have hR:∀e∈j.ob,e.1<j.nx:=λe he=>by
     have:=xaT.1 hR e he;have:=xbH this;lia
    have hg:c.nx<=j.nx:=by rw[a9];exact c0
    have c3:Ta P vs n0 Γ env0 cx ⟨j.nx,qt c.rg o.dst<|Bn o.dst j.rg,[]⟩ (FK o.dst (Bn o.dst j.rg) KL):=λvs' hv=>dc (l:=Bn o.dst j.rg) hd hZ vs' hv;have c4:Bd cx ⟨j.nx,qt c.rg o.dst<|Bn o.dst j.rg,[]⟩:=by
     refine⟨λe he=>wS he H1,λe he=>xag (hA.o2 e he) hg,λe he p hp=> ?_,λe he p hp=>xag (hA.r2 e he p hp) hg⟩;have he:e∈qt c.rg o.dst (Bn o.dst j.rg):=he;unfold qt at he;split at he
     ·obtain he|he:=xaa.1 he
      ·obtain⟨e',c5,rfl⟩:=xas.1 he;exact Pn hl e' c5 p hp
      ·exact xag (hA.r1 e (xbU.1 he).1 p hp) hg
     ·exact xag (hA.r1 e he p hp) hg
    have⟨x,Ls,z,σ',y,hc,h1,T,U,Y,h5,h6,h7,h8,h9,hu,hy⟩:=tm hT hL hC hX hF (os:=os) h hG c3 (UY hd hn) O c4 (λq hq=>by
     obtain hq|hq:=xaa.1 hq
     ·exact xag (zl9 (n:=c.nx) (λr hz=>by rw[Q];exact hr r hz) q hq) hg
     ·obtain⟨e,he,rfl⟩:=xas.1 hq;exact hR e he) (zi0 (zbp J)) (xal (by rw[Q];exact h0) hg)
    have⟨g1,g2,M,g4⟩:=SS J Y;refine⟨x,Bn o.dst j.rg::Ls,⟨c.nx,j.nx,rE<|Bn o.dst j.rg⟩::z,σ',y,hc.up,by simp[h1],by simp[T],by rw[<-U];simp,g1,⟨λ_=>⟨(by show n0<=c.nx;rw[Q];exact h0),hg,λe he p hp=>⟨Pn hl e he p hp,s9 he hp⟩,λe he=>hR e (by rw[M]at he;exact he),λvs' hv env F G w B=>⟨λ_=> ?_,λhw=> ?_⟩⟩,λq hq=>wS hq<|hc.ne hH q,h5⟩,h6,h7,h8,h9,hu,hy⟩
    ·rw[g2,g4,xbm]at B;rw[M,g4];refine(hm _ vs' env w<|hV hv B).mono ?_;rintro v w' ⟨vs2,b0,c6⟩;have⟨_,hS⟩:=h' c6;refine⟨vs2,b0,?_⟩;have hS:St fr.we fr.Se (MS vs2 j.ob++(MS vs2 cx.ob++(fr.F++F))) (RS P vs2 (put env o.dst v) j.rg++([]++(Γ++G))) w':=hS;rw[hN (vs2:=vs2)<|λp hp=>(b0 p<|xag hp (by show n0<=c.nx;rw[Q];exact h0)).trans<|hv p hp,<-xaq<|MS vs cx.ob]at hS;refine St.weak (show St fr.we fr.Se (MS vs2 j.ob++(MS vs' []++(MS vs cx.ob++fr.F++F))) _ w' from hS) λS w a=>zB.append (kG.2 λf hf=> ?_)<|zB.right a;obtain⟨e,he,rfl⟩:=xas.1 hf;have⟨t,ht,c7⟩:=zei he;have:=J8 (zB.left a) c7;rw[ht,Dp]at this;exact this
    ·exfalso;have⟨S,_,a⟩:=B.ex;have E:QC (KV P vs' KL) env0 env S w (xbk u.toArray o):=a.1;have:=hQ hv (zB.left a.2)<|hI▸E;rw[hw]at this;cases this
def qOf:V (K×PX)->PX
 |some e=>e.2
 |none=>(0,0)
def Si{o:uT}{x:N (wr×Dv)}{t:Z4}:∀{L:N (uT×N (wr×Dv))}{K:N (Z4×N (wr×Dv))},(o,x)∈L->o.dst=Z t->∃y,(t,y)∈UZ L K
 |(d,f)::L,K,h,ht=>by
  obtain h|h:=xah.1 h
  cases h;have:∀{L:N (uT×N (wr×Dv))}{K:N (Z4×N (wr×Dv))}{e},e∈K->e∈UZ L K:=by
   intro L
   induction L with
   |nil=>exact λh=>h
   |cons a L c=>
    intro K e b;refine c ?_
    cases g:a.1.dst with
    |none=>exact b
    |some s=>exact FS _ b
  exact⟨x,show(t,x)∈UZ L (FK o.dst x K)from this<|by rw[ht];exact IR⟩;exact Si (L:=L) h ht
def zkl{l:N K}{t:K}(h:t∈l):cn l t=wL:=by unfold cn;simp_all
def zdx{l:N uT}{i m:K}(hi:i<m)(b:m<=X l):zS l i∈l.take m:=by
 have a:i<X l:=W
 rw[show zS l i=l[i]by simp[zS,a]];exact xbt<|by rw[xbD,S hi];exact xab a
def Ez:∀(rs:N Rb),HA rs=Qw KM rs
 |[]=>rfl
 |r::rs=>by
  rw[r8];unfold HA KM;rw[Ez rs];cases r.a<;>cases r.c<;>rfl
def zg3(hm:P.follows .mixedOrders=wL)(hT:yX P cf.tt)(hL:kZ P cf.tt)(hC:∀s∈cf.cs,yY P s)(hX:AF P cf){N:Nd}{id m:wr}{fz:xS wr}{l:xS uT}{Q:Qs}{kp:PX->Sg->V R}{k:Sg->V R}
 (hP:∀q σ',kp q σ'=Z r->∀z w,my cx env z->uD P fr cx σ' z w->Q (.panic<|pE q) z w) (hK:∀σ',k σ'=Z r->∀z w,my cx env z->uD P fr cx σ' z w->Q .normal z w) (hN:(l.all λo=>qK N.n o.dst)=wL) (hc:W9 l m=wL) (h:zi8 cf cx fz l m σ kp k=Z r) (hR:uD P fr cx σ env w):Wp P N (.region id l.toArray wL) Q env w:=by
 unfold zi8 at h;have⟨C,vs,hO⟩:=hR;obtain⟨σ0,rfl⟩:∃σ0,σ0=σ:=⟨σ,O⟩;have h9:m<=X l:=(YV hc).1
 have⟨B,Ls,is,σ',rs,hQ,h1,h2,L,h4,h5,hE,hB,h',Y,hF,hS⟩:=tm (P:=P) (fr:=fr) (vs:=vs) (env0:=env) (Γ:=GS P vs env fr cx σ0) (n0:=σ0.nx) (KL:=[]) hT hL hC hX C.o2 h (λ_ _ e=>by cases e)
  (λvs' hv z S w' A t ht i dv hd=>by
   have ht:z t=env t:=ht;rw[ht];have hg:get cx σ0 t i=Z dv:=hd;have:=YW A t i dv hg;have hU:vS P vs' dv (env t) i=vS P vs dv (env t) i:=by
    unfold vS;simp only[iw (P:=P) (vs':=vs') (vs:=vs) (d:=dv) λo D=>hv o (by
     obtain hm|hm:=B3 hg
     exact C.r1 _ hm o D;exact C.r2 _ hm o D)]
   rw[hU];exact this) (λ_ u=>wS u H1) O ⟨λ_ u=>wS u H1,C.o2,C.r1,C.r2⟩ (λq H=>by
    obtain⟨e,u,rfl⟩:=xas.1 H;exact C.o1 e u) (λq H=>by
    obtain⟨e,u,rfl⟩:=xas.1 H;exact⟨λj hj=>(by cases hj),λj hj=>(by cases hj),λj hj=>wS hj H1⟩) (So _)
 simp only[xbN]at L;have⟨hx,L⟩:=yf L;have hV:=zhU h4;have hG:∀i x g,((l.take m).zip Ls)[i]? =Z x->is[i]? =Z g->isD l (B.map (·.1)) i=I->ObB P l.toArray fr.we fr.Se (MS vs cx.ob++fr.F) (GS P vs env fr cx σ0) env vs σ0.nx rs (UZ (((l.take m).zip Ls).take i) []) i x.1 x.2 g:=λi x g a b c=>by
  have:=(DW _ is 0 [] i x g h5 a b).1;rw[xaJ]at this;exact this c
 have hH:∀i0 q,B=Z (i0,q)->i0<m:=λi0 q e=>by
  obtain h|⟨_,i1,q1,g1,g2,g3⟩:=hQ
  rw[h]at e;cases e
  rw[e]at g1;cases g1;rw[xar]at g3;lia
 refine zji (we:=fr.we) (Se:=fr.Se) (ms:=OS vs fr cx σ0.ob) (mE:=MS vs cx.ob++fr.F) (B.map (·.1)) (qOf B) m Ls is rs (σ'.rg.map (·.1)++cx.rg.map (·.1)) vs σ0.nx hm hc (by rw[h1,xar];lia) (by rw[h2,xar];lia) hx (by rw[hV]) hN (λi0 e=>by
  cases B with
  |none=>cases e
  |some M=>cases e;exact hH _ _ O) hG (λi0 x e hW=> ?_) (λhD v w1 vs' hl hI hn=> ?_) (λhD=> ?_) w hO
 cases B with
 |none=>cases e
 |some M=>
  have⟨i1,q1⟩:=M;cases e;have a0:=hH _ _ O;have:=(DW _ is 0 [] i1 x (is[i1]'(by rw[h2,xar];lia)) h5 hW<|xab _).2 q1;rw[xaJ]at this;exact this O
 cases B with
 |none=>cases hD
 |some M=>
  have⟨i1,q1⟩:=M;have hJ:∀i,i<m->∀t,(zS l i).dst=Z t->XY cx.rg t=wL:=λi hi t ht=>by
   have hY:i<X l:=W
   have⟨x,hZ⟩:∃x,((l.take m).zip Ls)[i]? =some (zS l i,x):=⟨Ls[i]'(by rw[h1,xar];lia),by rw[xeX];refine⟨?_,mK⟩;rw[xbD,iq hi];simp[zS,hY]⟩
   have⟨y,hy⟩:=Si (K:=[]) (xbt hZ) ht;exact hB _ hy
  have hw:∀e0∈cx.rg,v e0.1=env e0.1:=λe0 T=>hI e0.1 λi hi hd=>by
   have:=hJ i hi _ hd;simp only[XY,xaT]at this;have:=this e0 T;simp at this
  have hz:∀e∈σ0.rg.filter (λe=> !cn (zel<|l.take m) e.1),e∈σ0.rg/\v e.1=env e.1:=λe u=>by
   have⟨u,U⟩:=xbU.1 u;refine⟨u,hI e.1 λi hi hd=> ?_⟩;have:cn (zel<|l.take m) e.1=wL:=zkl<|xeg.2 ⟨zS l i,zdx hi W,hd⟩;rw[this]at U;cases U
  refine hP q1 _ L v w1 hw ⟨⟨λe u=> ?_,Y.o2,λe u p hp=> ?_,Y.r2⟩,vs',?_⟩;rw[Ez]at u;have⟨q,H,u⟩:=xeg.1 u;split at u;cases u;exact hF q H
  cases u
  exact xag (C.r1 e (hz e u).1 p hp) hS;show St fr.we fr.Se (MS vs' (HA rs)++(MS vs' cx.ob++fr.F)) (RS P vs' v (σ0.rg.filter<|λe=> !cn (zel<|l.take m) e.1)++(RS P vs' v cx.rg++fr.G)) w1;rw[Ez,wC (ob:=cx.ob) λe u=>hl _<|C.o2 e u];refine hn.weak λS w2 A=>zB.append ?_<|zB.append ?_<|zB.right<|zB.right A;rw[uo (vs:=vs) (env:=env) (λe u o D=>hl o<|C.r1 e (hz e u).1 o D) λe u=>(hz e u).2];refine kG.2 λf J=> ?_;obtain⟨e,u,rfl⟩:=xas.1 J;exact kG.1 (zB.left A) _<|xas.2 ⟨e,(hz e u).1,O⟩;rw[uo (vs:=vs) (env:=env) (λe u o D=>hl o<|C.r2 e u o D) λe u=>hw e u];exact zB.left<|zB.right A
 obtain rfl:B=none:=by cases B with
  |none=>rfl
  |some e=>cases hD
 simp only at L;intro v w1 vs' hl hn;have hA:Rr rs=Qw (λr=>r.c.isNone) rs:=zcl rs;have hM:∀e∈Rr rs,e.1<σ'.nx:=λe u=>by
  rw[hA]at u;have⟨q,H,u⟩:=xeg.1 u;split at u;cases u;exact hF q H
  cases u
 have⟨S1,_,h0⟩:=hn.ex;have hw:my cx env v:=λe0 T=>by
  have h1:=iA h0.1 e0.1<|xaa.2 (.inr<|xas.2 ⟨e0,T,O⟩);unfold Xf at h1;have J:(KV P vs'<|UZ ((l.take m).zip Ls) []).find? (λx=>E x.1 e0.1)=wF:=by rw[List.find?_eq_none];intro e u U;obtain⟨e1,h6,rfl⟩:=xas.1 u;have:=hB e1 h6;simp only[XY,xaT]at this;have:=this e0 T;rw[zY U]at this;simp at this
  rw[J]at h1;exact h1
 refine LL (P:=P) (fr:=fr) hT hL hC hX hK hP hw (zjV hN m) L ⟨⟨hM,Y.o2,λe u=>Y.r1 e<|EG u,Y.r2⟩,vs',?_⟩;show St fr.we fr.Se (MS vs' (Rr rs)++(MS vs' cx.ob++fr.F)) (RS P vs' v (dd σ'.rg)++(RS P vs' v cx.rg++fr.G)) w1;rw[hA,wC (ob:=cx.ob) λe u=>hl _<|C.o2 e u];refine hn.weak λS w2 A=> ?_;have hk:=iA A.1;have h7:∀t∈cx.rg.map (·.1),v t=env t:=λt ht=>by
  have h1:=hk t<|xaa.2 (.inr ht);unfold Xf at h1;have J:(KV P vs'<|UZ ((l.take m).zip Ls) []).find? (λx=>E x.1 t)=wF:=by rw[List.find?_eq_none];intro e u U;obtain⟨e0,T,rfl⟩:=xas.1 u;have:=hB e0 T;obtain⟨M,h8,rfl⟩:=xas.1 ht;simp only[XY,xaT]at this;have:=this M h8;rw[zY U]at this;simp at this
  rw[J]at h1;exact h1
 refine zB.append ?_<|zB.append ?_<|zB.right<|zB.right A.2;refine kG.2 λf J=> ?_;obtain⟨e,u,rfl⟩:=xas.1 J;have hg:get cx σ' e.1 e.2.1=Z e.2.2:=by unfold get;rw[Tr u]
 exact hE vs' hl v S w2 A.2 e.1 (hk e.1<|xaa.2 (.inl<|xas.2 ⟨e,EG u,O⟩)) _ _ hg;rw[uo (vs:=vs) (env:=env) (λe u o D=>hl o<|C.r2 e u o D) λe u=>h7 e.1<|xas.2 ⟨e,u,O⟩];exact zB.left<|zB.right A.2
def DE(x:P.follows .mixedOrders=wL)(d:yX P cf.tt)(e:kZ P cf.tt)(f:∀s∈cf.cs,yY P s)(g:AF P cf){N:Nd}{id:K}{l:xS uT}{c:v6}{Q:Qs}{kp:PX->Sg->V R}{k:Sg->V R}
 (i:∀q σ',kp q σ'=Z r->∀b w,my cx env b->uD P fr cx σ' b w->Q (.panic<|pE q) b w) (j:∀σ',k σ'=Z r->∀b w,my cx env b->uD P fr cx σ' b w->Q .normal b w) (p:(l.all λo=>qK N.n o.dst)=wL) (h:zh6 cf cx id l c σ kp k=Z r) (t:uD P fr cx σ env w):Wp P N (.region id l.toArray c) Q env w:=by
 unfold zh6 at h;cases c
 exact λa h1 y z=>bV<|LL d e f g j i my.refl p h t a h1 y z;simp only[NT]at h;have⟨hc,h⟩:=yf h;generalize zaF l (X l) (X l)=m at hc h;cases A:zqt cf id<;>rw[A]at h
 case true=>
  have⟨u,vs,v⟩:=t;have⟨u,v⟩:=nG (dH (zmO cf id) σ.rg) ⟨u,v⟩;exact zg3 x d e f g i j p hc h ⟨u,vs,v⟩
 exact zg3 x d e f g i j p hc h<|P9 (l.take m) [] t
end
end
section
section
variable{P:jP}{cf:Cf}{fr:Fr}{cx kp σ:Sg}{vs vs':wr->wN}{env env0:y6}{w:wP}{R:Type}{r:R}
def zn2(u:wN)(r:K):V wN:=(xT u)[r]?
def tfF:(f:TF)->f.D->(K->wN)->wN->wN->FF
 |.d t,x,_,_,v=>fV t.rep x v
 |.q t,x,_,_,v=>fP t.rep x v
 |.own _ _,_,_,u,v=>gW<|v=u
 |.var _ _,_,_,u,v=>gW (v=u/\∃b,v=.pointer (Z ⟨b,0,wF⟩))
 |.mat _ _ _,_,_,u,v=>gW<|v=yO u
 |.matv _ _ _,x,_,u,v=>gW<|O6 (yO u) x.2.1 x.2.2 v
 |.row j,r,U,_,v=>gW<|zn2 (U j) r=Z v
 |.view j,r,U,_,v=>gW<|O6 (yO<|U j) r.1 r.2 v
 |.bo _ _ _,_,_,u,v=>gW<|v=yO u
 |.vr _ _ _ _ _ _,_,_,u,v=>gW<|v=yO u
def tfM:(f:TF)->f.D->wN->N MF
 |.own t E,xs,u=>[mO t.rep E u xs]
 |.var t E,z,u=>[mP t.rep.c E u z]
 |.mat t E E1,x,u=>[AE t.rep E E1 u x.1 x.2]
 |.matv t E E1,x,u=>[AE t.rep E E1 u x.1.1 x.1.2]
 |.bo t E a,xs,u=>[mBo t.rep E a u xs]
 |.vr t E s E1 n i,x,u=>[mVr (vrP s<|xk n t i) t.rep E (XO<|xk n t i) (Zl s (xk n t i) []) s.rep E1 u x.1 x.2]
 |_,_,_=>[]
def dsF(U:K->wN)(env:y6):(l:N (K×TF))->Ju l->K->N FF
 |[],_,_=>[]
 |[a],x,i=>[tfF a.2 x U (U i)<|env a.1]
 |a::b::r,x,i=>tfF a.2 x.1 U (U i) (env a.1)::dsF U env (b::r) x.2 (i+1)
def Qg(U:K->wN):(l:N (K×TF))->Ju l->K->N MF
 |[],_,_=>[]
 |[a],x,i=>tfM a.2 x<|U i
 |a::b::r,x,i=>tfM a.2 x.1 (U i)++Qg U (b::r) x.2 (i+1)
def XU(f:TF)(dv:V Dv)(vs:K->wN)(v:wN):wN:=match f,dv with
 |.mat _ _ _,Z .nil=>U9 v []
 |.mat _ _ _,Z (.mw o)=>vs o
 |.matv _ _ _,Z (.mv o _ _)=>vs o
 |.bo _ _ _,Z (.mw o)=>vs o
 |.vr _ _ _ _ _ _,Z (.mw o)=>vs o
 |_,_=>v
def UG(cx σ:Sg)(ds:N (K×TF))(vs:K->wN)(env:y6)(j:K):wN:=match ds[j]? with
 |some (t,f)=>XU f (get cx σ t 0) vs<|env t
 |none=>Z0
def Nf:∀{os l:N K},Dk os l=wL->∀o∈l,cn os o=I
 |os,o::r,h,p,hp=>by
  simp only[Dk,xad,xcM]at h;obtain rfl|hp:=xah.1 hp;exact h.1;exact Nf h.2 p hp
def LA{ds:N (K×TF)}{t:K}{f:TF}{k:f.D->N K->V R}(h:eN cx σ ds t f k=Z r):∃x os,k x os=Z r/\(∀j,EH f=Z j->j<X ds)/\
 (∀(P:jP) vs env S w,(∀t,Lk P vs env S w cx σ t)->(tfF f x (UG cx σ ds vs env) (XU f (get cx σ t 0) vs<|env t)<|env t).p S w)/\
 (∀(P:jP) vs (fr:Fr) env (A:N MF) (Γ:N FF) w (g:N K),(∀S w,zB S Γ w->Lk P vs env S w cx σ t)->(∀o∈os,cn g o=I)->St fr.we fr.Se (A++OS vs fr cx (w8 σ.ob g)) Γ w->
  St fr.we fr.Se (tfM f x (XU f (get cx σ t 0) vs<|env t)++(A++OS vs fr cx (w8 σ.ob<|os++g))) Γ w):=by
 have M:∀{f:TF},(∀j,EH f≠Z j)->∀j,EH f=Z j->j<X ds:=λh j e=>wS e<|h j
 cases f with
 |d s=>
  have⟨y,h,hy⟩:=zfx h;refine⟨y,[],h,M (λj e=>by cases e),λP vs env S w hl=> ?_,λP vs fr env A Γ w g _ _ h=>h⟩
  cases a:get cx σ t 0 with
  |none=>rename_i h0;simp only[eN]at h0;rw[a]at h0;cases h0
  |some v=>exact hy P vs S w v _ a<|hl t 0 v a
 |q s=>
  simp only[eN]at h;split at h;rename_i Q x a;have⟨e,h⟩:=yr h;subst e;exact⟨_,[],h,M (λj e=>by cases e),λP vs env S w hl=>hl t 0 _ a,λP vs fr env A Γ w g _ _ h=>h⟩;cases h
 |own s E=>
  simp only[eN]at h;split at h;rename_i o a;split at h;rename_i Q Y xs H;have⟨l,h1⟩:=yf h;have l:=zY l;subst l;have⟨e,C⟩:=yr h1;cases e;refine⟨_,[o],C,M (λj e=>by cases e),λ_ _ _ _ _ _=>by simp only[a,XU];exact O,λP vs fr env A Γ w g hl hn m=> ?_⟩;have hp:=jC (vs:=vs) (fr:=fr) (cx:=cx)<|(jv<|hn o<|IR).trans H;have B:=St.mid<|St.perm m<|xbo _ hp;have⟨S,_,F⟩:=m.ex;have hv:env t=vs o:=hl S w F 0 _ a;simp only[a,XU];show St _ _ (mO s.rep E (env t) _::(A++_)) _ _;rw[hv];exact B
  cases h
  rename_i a;refine⟨_,[],h,M (λj e=>by cases e),λ_ _ _ _ _ _=>by simp only[a,XU];exact O,λP vs fr env A Γ w g hl hn m=> ?_⟩;have⟨S,_,F⟩:=m.ex;have hv:env t=.slice wF 0 0:=hl S w F 0 _ a;simp only[a,XU];show St _ _ (mO s.rep E (env t) _::(A++_)) _ _;rw[hv];exact m.nilO;cases h
 |var s E=>
  simp only[eN]at h;split at h;rename_i o s0 a;split at h;rename_i Q Y z H;have⟨l,h1⟩:=yf h;have l:=zY l;subst l;have⟨e,C⟩:=yr h1;subst e;refine⟨_,[o],C,M (λj e=>by cases e),λP vs env S w hl=> ?_,λP vs fr env A Γ w g hl hn m=> ?_⟩;have⟨B,b,h4⟩:=hl t 0 _ a;simp only[a,XU];exact⟨O,b,B.trans h4⟩;have hp:=jC (vs:=vs) (fr:=fr) (cx:=cx)<|(jv<|hn o<|IR).trans H;have B:=St.mid<|St.perm m<|xbo _ hp;have⟨S,_,F⟩:=m.ex;have hv:env t=vs o:=(hl S w F 0 _ a).1;simp only[a,XU];show St _ _ (mP Q.rep.c E (env t) _::(A++_)) _ _;rw[hv];exact B;cases h
  cases h
 |mat s E E1=>
  simp only[eN]at h;split at h;rename_i o a;split at h;rename_i Q Y F' a0 ix H;have⟨l,h1⟩:=yf h;rw[xad]at l;have hc:=zY l.1;have hd:=zY l.2;subst hc;subst hd;have⟨e,C⟩:=yr h1;cases e;refine⟨_,[o],C,M (λj e=>by cases e),λP vs env S w hl=> ?_,λP vs fr env A Γ w g hl hn m=> ?_⟩
  simp only[a,XU];exact hl t 0 _ a;have hp:=jC (vs:=vs) (fr:=fr) (cx:=cx)<|(jv<|hn o<|IR).trans H;simp only[a,XU];have B:=St.mid<|St.perm m<|xbo _ hp;exact B;cases h
  rename_i a;refine⟨_,[],h,M (λj e=>by cases e),λP vs env S w hl=>by simp only[a,XU];exact O,λP vs fr env A Γ w g hl hn m=> ?_⟩;have⟨S,_,F⟩:=m.ex;have hv:env t=.slice wF 0 0:=hl S w F 0 _ a;simp only[a,XU];refine NY (u:=U9 (env t) []) O ?_;show St _ _ (mO (Yv []) E (env t) []::(A++_)) _ _;rw[hv];exact m.nilO;cases h
 |matv s E E1=>
  simp only[eN]at h;split at h;rename_i o lo n a;split at h;rename_i Q Y F' a0 ix H;have⟨l,h1⟩:=yf h;rw[xad]at l;have hc:=zY l.1;have hd:=zY l.2;subst hc;subst hd;have⟨e,C⟩:=yr h1;cases e;refine⟨_,[o],C,M (λj e=>by cases e),λP vs env S w hl=> ?_,λP vs fr env A Γ w g hl hn m=> ?_⟩
  simp only[a,XU];exact hl t 0 _ a;have hp:=jC (vs:=vs) (fr:=fr) (cx:=cx)<|(jv<|hn o<|IR).trans H;simp only[a,XU];have B:=St.mid<|St.perm m<|xbo _ hp;exact B;cases h
  cases h
 |row j=>
  simp only[eN]at h
  have J:∀(o G p:K),j<X ds->get cx σ t 0=Z (.rw o p)->xaf o G=wL->k p []=Z r->(∀vs env,UG cx σ ds vs env j=vs G)->∃(x:K) (os:N K),k x os=Z r/\(∀i,EH (TF.row j)=Z i->i<X ds)/\
   (∀(P:jP) vs env S w,(∀t,Lk P vs env S w cx σ t)->(tfF (.row j) x (UG cx σ ds vs env) (XU (.row j) (get cx σ t 0) vs<|env t)<|env t).p S w)/\
   (∀(P:jP) vs (fr:Fr) env (A:N MF) (Γ:N FF) w (g:N K),(∀S w,zB S Γ w->Lk P vs env S w cx σ t)->(∀o∈os,cn g o=I)->St fr.we fr.Se (A++OS vs fr cx (w8 σ.ob g)) Γ w->
    St fr.we fr.Se (tfM (.row j) x (XU (.row j) (get cx σ t 0) vs<|env t)++(A++OS vs fr cx (w8 σ.ob<|os++g))) Γ w):=by
   intro o G p he a C B h4;refine⟨p,[],B,λi e=>by cases e;exact he,λP vs env S w hl=> ?_,λP vs fr env A Γ w g _ _ h=>h⟩;have h5:(xT<|vs o)[p]? =Z (env t):=hl t 0 _ a;rw[zY C]at h5;show zn2 (UG cx σ ds vs env j) p=Z (env t);rw[h4];exact h5
  split at h;rename_i o p s _ _ _ a L;split at h;rename_i G T;have⟨U,h⟩:=yf h;exact J o G p (xaz.1 L).1 a U h λvs env=>by unfold UG;rw[L];simp only[T,XU]
  cases h
  rename_i o p s _ _ _ a L;split at h;rename_i G lo n T;have⟨U,h⟩:=yf h;exact J o G p (xaz.1 L).1 a U h λvs env=>by unfold UG;rw[L];simp only[T,XU]
  cases h
  cases h
 |view j=>
  simp only[eN]at h
  have J:∀(o G p q:K),j<X ds->get cx σ t 0=Z (.mv o p q)->xaf o G=wL->k (p,q) []=Z r->(∀vs env,UG cx σ ds vs env j=vs G)->∃(x:K×K) (os:N K),k x os=Z r/\(∀i,EH (TF.view j)=Z i->i<X ds)/\
   (∀(P:jP) vs env S w,(∀t,Lk P vs env S w cx σ t)->(tfF (.view j) x (UG cx σ ds vs env) (XU (.view j) (get cx σ t 0) vs<|env t)<|env t).p S w)/\
   (∀(P:jP) vs (fr:Fr) env (A:N MF) (Γ:N FF) w (g:N K),(∀S w,zB S Γ w->Lk P vs env S w cx σ t)->(∀o∈os,cn g o=I)->St fr.we fr.Se (A++OS vs fr cx (w8 σ.ob g)) Γ w->
    St fr.we fr.Se (tfM (.view j) x (XU (.view j) (get cx σ t 0) vs<|env t)++(A++OS vs fr cx (w8 σ.ob<|os++g))) Γ w):=by
   intro o G p q he a C B h4;refine⟨(p,q),[],B,λi e=>by cases e;exact he,λP vs env S w hl=> ?_,λP vs fr env A Γ w g _ _ h=>h⟩;have h5:O6 (yO<|vs o) p q (env t):=hl t 0 _ a;rw[zY C]at h5;show O6 (yO<|UG cx σ ds vs env j) p q (env t);rw[h4];exact h5
  split at h;rename_i o p q s _ _ _ a L;split at h;rename_i G T;have⟨U,h⟩:=yf h;exact J o G p q (xaz.1 L).1 a U h λvs env=>by unfold UG;rw[L];simp only[T,XU]
  cases h
  rename_i o p q s _ _ _ a L;split at h;rename_i G lo n T;have⟨U,h⟩:=yf h;exact J o G p q (xaz.1 L).1 a U h λvs env=>by unfold UG;rw[L];simp only[T,XU]
  cases h
  cases h
 |bo s E E0=>
  simp only[eN]at h;split at h;rename_i o a;split at h;rename_i Q Y F' xs H;have⟨l,h1⟩:=yf h;rw[xad]at l;have hc:=zY l.1;have hd:=zY l.2;subst hc;subst hd;have⟨e,C⟩:=yr h1;cases e;refine⟨_,[o],C,M (λj e=>by cases e),λP vs env S w hl=> ?_,λP vs fr env A Γ w g hl hn m=> ?_⟩
  simp only[a,XU];exact hl t 0 _ a;have hp:=jC (vs:=vs) (fr:=fr) (cx:=cx)<|(jv<|hn o<|IR).trans H;simp only[a,XU];have B:=St.mid<|St.perm m<|xbo _ hp;exact B;cases h
  cases h
 |vr s E s2 E1 n i=>
  simp only[eN]at h;split at h;rename_i o a;split at h;rename_i Q Y a1 F' n' i' z xs H;have⟨l,h1⟩:=yf h;rw[xad,xad,xad]at l;have⟨e1,C⟩:=yr h1;have⟨e2,B⟩:=yr C;have hc:=zY l.1;have hd:=zY l.2.1;have hf:=zY l.2.2.1;have hi:=zY l.2.2.2;subst hc;subst hd;subst hf;subst hi;subst e1;cases e2;refine⟨_,[o],B,M (λj e=>by cases e),λP vs env S w hl=> ?_,λP vs fr env A Γ w g hl hn m=> ?_⟩
  simp only[a,XU];exact hl t 0 _ a;have hp:=jC (vs:=vs) (fr:=fr) (cx:=cx)<|(jv<|hn o<|IR).trans H;simp only[a,XU];have B:=St.mid<|St.perm m<|xbo _ hp;exact B;cases h
  cases h
def BM{ds:N (K×TF)}{i:K}{t:K}{f:TF}{env:y6}(h:ds[i]? =Z (t,f)):UG cx σ ds vs env i=XU f (get cx σ t 0) vs (env t):=by unfold UG;rw[h]
def zlU{ds:N (K×TF)}:∀{l:N (K×TF)}{i:K}{k:Ju l->N K->V R},(∀j a,l[j]? =Z a->ds[i+j]? =Z a)->gat cx σ ds l k=Z r->∃x os,k x os=Z r/\(∀a∈l,∀j,EH a.2=Z j->j<X ds)/\
 (∀(P:jP) vs env S w,(∀t,Lk P vs env S w cx σ t)->zB S (dsF (UG cx σ ds vs env) env l x i) w)/\
 (∀(P:jP) vs (fr:Fr) env (Γ:N FF) w,(∀S w,zB S Γ w->∀t,Lk P vs env S w cx σ t)->St fr.we fr.Se (OS vs fr cx σ.ob) Γ w->St fr.we fr.Se (Qg (UG cx σ ds vs env) l x i++OS vs fr cx (w8 σ.ob os)) Γ w)
 |[],i,k,_,h=>⟨(),[],h,λ_ h=>wS h H1,λ_ _ _ _ _ _=>wR,λ_ _ _ _ _ _ _ h=>h⟩
 |[a],i,k,hd,h=>by
  have⟨x,os,h1,h0,g,m⟩:=LA (h:eN cx σ ds a.1 a.2 k=Z r);have f:ds[i]? =Z (a.1,a.2):=hd 0 a O;refine⟨x,os,h1,λb z j e=> ?_,λP vs env S w hl=>⟨?_,wR⟩,λP vs fr env Γ w hl n=> ?_⟩;simp_all;rw[BM f];exact g P vs env S w hl;have:=m P vs fr env [] Γ w [] (λS w d=>hl S w d a.1) (λ_ _=>O) n;rw[xbm]at this;show St _ _ (tfM a.2 x (UG cx σ ds vs env i)++_) _ _;rw[BM f];exact this
 |a::b::l,i,k,hd,h=>by
  have⟨x,o,h1,h0,g,m⟩:=LA (h:eN cx σ ds a.1 a.2 _=Z r);have⟨y,os,p,q,s,u⟩:=zlU (l:=b::l) (i:=i+1) (λj c v=>by
   have:=hd (j+1) c (by simpa using v);rw[(W:i+1+j=i+(j+1))];exact this) h1
  have⟨hn,p⟩:=yf p;have f:ds[i]? =Z (a.1,a.2):=hd 0 a O;refine⟨(x,y),o++os,p,λc hc j e=> ?_,λP vs env S w hl=>⟨?_,s P vs env S w hl⟩,λP vs fr env Γ w hl n=> ?_⟩;obtain rfl|hc:=xah.1 hc
  exact h0 j e;exact q c hc j e;rw[BM f];exact g P vs env S w hl;have:=m P vs fr env (Qg (UG cx σ ds vs env) (b::l) y<|i+1) Γ w os (λS w d=>hl S w d a.1) (Nf hn)<|u P vs fr env Γ w hl n;show St _ _ ((tfM a.2 x (UG cx σ ds vs env i)++Qg (UG cx σ ds vs env) (b::l) y (i+1))++_) _ _;rw[BM f,xaq];exact this
def nvs(vs:K->wN)(U:K->wN)(n:K):K->wN:=λk=>if k<n then vs k else U (k-n)
theorem TV{n0:K}:∀{l:N (K×TF)}{x:Ju l}{o:K},∀e∈(lj n0 l x o).2,o<=e.1/\e.1<o+X l
 |[],_,_,e,a=>wS a H1
 |[(t,f)],x,o,e,a=>by
  cases f<;>simp only[lj]at a<;>first|exact wS a H1|(obtain rfl:=xac.1 a;exact⟨So _,xdM _⟩)
 |(t,f)::b::l,x,o,e,a=>by
  have c:∀e∈(lj n0 (b::l) x.2<|o+1).2,o<=e.1/\e.1<o+X ((t,f)::b::l):=λe a=>by
   have:=TV e a;grind
  cases f<;>simp only[lj]at a<;>first
   |exact c e a
   |exact(xah.1 a).elim (λa=>by subst a;exact⟨So _,by simp only[xaw];lia⟩)<|λa=>c e a
def Sq{n0 o p n:K}{f:TF}{x:f.D}(hn:∀j,EH f=Z j->j<n)(h:vt (Ga n0 o f x).1=Z p):p=o\/p<n0+n:=by
 cases f<;>simp only[Ga,vt,xau,WD]at h
 lia;lia;lia;lia
 next j=>have:=hn j O;exact .inr W
 next j=>have:=hn j O;exact .inr W
 lia;lia
def NJ{n0 n:K}:∀{l:N (K×TF)}{x:Ju l}{o:K},(∀a∈l,∀j,EH a.2=Z j->j<n)->∀e∈(lj n0 l x o).1,∀p,vt e.2.2=Z p->p<o+X l\/p<n0+n
 |[],_,_,_,e,he=>wS he H1
 |[(t,f)],x,o,hn,e,he=>by
  intro p hp;obtain rfl:=xac.1 (show e∈[(t,0,(Ga n0 o f x).1)]from he);rcases Sq (hn _<|IR) hp with rfl|h
  simp_all;lia
 |(t,f)::b::l,x,o,hn,e,he=>by
  intro p hp;have he:e=(t,0,(Ga n0 o f x.1).1)\/e∈(lj n0 (b::l) x.2<|o+1).1:=xah.1 he;obtain rfl|he:=he
  rcases Sq (hn _<|IR) hp with rfl|h
  simp_all;lia;rcases NJ (λa c=>hn a<|FS _ c) e he p hp with h|h
  simp only[xaw]at h⊢;exact .inl W
  exact .inr h
theorem LH{U:K->wN}{n0:K}:∀{l:N (K×TF)}{x:Ju l}{o i:K},(∀j,j<X l->vs (o+j)=U (i+j))->MS vs (lj n0 l x o).2=Qg U l x i
 |[],_,_,_,_=>rfl
 |[(t,f)],x,o,i,h=>by
  have h0:vs o=U i:=h 0 mK;cases f<;>simp only[lj,Ga,MS,xbQ,xdS,Ki,Qg,tfM,h0]<;>rfl
 |(t,f)::b::l,x,o,i,h=>by
  have h0:vs o=U i:=h 0 mK;have a:MS vs (lj n0 (b::l) x.2<|o+1).2=Qg U (b::l) x.2 (i+1):=LH λj c=>by
   have:=h (j+1) (by simpa using c);grind
  unfold MS at a;cases f<;>simp only[lj,Ga,MS,xbQ,Ki,Qg,h0,a]<;>rfl
def HR{U:K->wN}{n0 n:K}{f:TF}{x:f.D}{o t:K}{u:wN}{S:K->Prop}(hv:vs o=u)(hn:∀j,EH f=Z j->j<n)(a:∀j,j<n->vs (n0+j)=U j)(h:(tfF f x U u<|env t).p S w):(vS P vs (Ga n0 o f x).1 (env t) 0).p S w:=by
 subst hv;cases f
 exact h;exact h;exact h;have⟨h1,b,c⟩:=h;exact⟨h1,b,h1.symm.trans c⟩;exact h;exact h;rename_i j;show zn2 (vs<|n0+j) x=Z (env t);rw[a j<|hn j O];exact h;rename_i j;show O6 (yO<|vs<|n0+j) x.1 x.2 (env t);rw[a j<|hn j O];exact h;exact h;exact h
def zaQ{U:K->wN}{n0 n:K}(d:∀j,j<n->vs (n0+j)=U j):∀{l:N (K×TF)}{x:Ju l}{o i:K}{S:K->Prop},(∀a∈l,∀j,EH a.2=Z j->j<n)->(∀j,j<X l->vs (o+j)=U (i+j))->zB S (dsF U env l x i) w->zB S (RS P vs env (lj n0 l x o).1) w
 |[],_,_,_,_,_,_,_=>trivial
 |[(t,f)],x,o,i,S,hn,h,c=>⟨HR (h 0 mK) (hn _<|IR) d c.1,wR⟩
 |(t,f)::b::l,x,o,i,S,hn,h,c=>⟨HR (h 0 mK) (hn _<|IR) d c.1,zaQ d (λa e=>hn a<|FS _ e) (λj g=>by
  have:=h (j+1) (by simpa using g);rw[(W:o+1+j=o+(j+1)),(W:i+1+j=i+(j+1))];exact this) c.2⟩
theorem zgO:∀{ns:N (K×NF)},zj6 cx σ ns=wL->∀t f,(t,f)∈ns->(match f,get cx σ t 0 with
 |.kb b,Z (.kb c)=>b==c
 |.nil,Z .nil=>wL
 |.ci x,Z (.d .i y)=>eqI x y
 |.cu x,Z (.d .u y)=>eqU x y
 |.al s,Z (.ow o)=>(match get cx σ s 0 with
  |some (.ow a)=>E o a
  |_=>I)
 |.al s,Z (.vs o _)=>(match get cx σ s 0 with
  |some (.vs a _)=>E o a
  |_=>I)
 |.al s,Z (.mw o)=>(match get cx σ s 0 with
  |some (.mw a)=>E o a
  |_=>I)
 |.bm s f,Z (.bm f' o _)=>(match get cx σ s 0 with
  |some (.vs a _)=>E o a && E f f'
  |_=>I)
 |_,_=>I)=wL
 |(e,f')::r,h,t,f,hm=>by
  unfold zj6 at h;rw[xad]at h;obtain g|hm:=xah.1 hm
  grind;exact zgO h.2 t f hm
def za9{rg:N (K×K×Dv)}{S:K->Prop}(a:zB S (RS P vs env rg) w):∀{ns:N (K×NF)},(∀t f,(t,f)∈ns->match f with
 |.kb b=>env t=.bool b
 |.nil=>env t=.slice wF 0 0
 |.ci x=>(fV eI x<|env t).p S w
 |.cu x=>(fV eU x<|env t).p S w
 |.al s=>env t=env s
 |.bm s f=>env t=.func (.func f) #[env s] #[])->zB S (RS P vs env (Mj rg ns)) w
 |[],_=>a
 |(t,f)::r,h=>by
  have c:=za9 a (ns:=r) λt f d=>h t f<|FS _ d;have h0:=h t f<|IR;unfold Mj;show zB S (RS P vs env<|_++_) w;rw[show RS P vs env (_++Mj rg r)=RS P vs env _++RS P vs env (Mj rg r)from xaR];refine zB.append ?_ c;cases f
  exact⟨h0,wR⟩;exact⟨h0,wR⟩;exact⟨h0,wR⟩;exact⟨h0,wR⟩;rename_i s;simp only;split;rename_i v hv;have:=J8 a<|gY hv;have h0:env t=env s:=h0;refine⟨?_,wR⟩;simp_all;trivial;rename_i s f;simp only;split;rename_i o q hv;have⟨h1,e⟩:=J8 a<|gY hv;have h0:env t=.func (.func f) #[env s] #[]:=h0;exact⟨⟨by rw[h0,h1],e⟩,wR⟩;trivial
def O4{rg:N (K×K×Dv)}{n:K}(a:∀e∈rg,∀p,vt e.2.2=Z p->p<n):∀{ns:N (K×NF)},∀e∈Mj rg ns,∀p,vt e.2.2=Z p->p<n
 |[],e,he=>a e he
 |(t,f)::r,e,he=>by
  intro p hp;unfold Mj at he;obtain he|he:=xaa.1 he
  cases f
  obtain rfl:=xac.1 he;cases hp
  obtain rfl:=xac.1 he;cases hp
  obtain rfl:=xac.1 he;cases hp
  obtain rfl:=xac.1 he;cases hp
  simp only at he;split at he;rename_i v hv;obtain rfl:=xac.1 he;exact a _ (gY hv) p hp;simp_all;simp only at he;split at he;rename_i o q hv;obtain rfl:=xac.1 he;cases hp;exact a _ (gY hv) _ O
  exact wS he H1;exact O4 a e he p hp
def Zi:∀(l:N (K×TF)) {σ:Sg},uD P fr cx σ env w->uD P fr cx (zhP cx σ l) env w
 |[],_,h=>h
 |(t,.d _)::r,_,h=>Zi r<|La _ h
 |(t,.q _)::r,_,h=>Zi r h
 |(t,.own _ _)::r,_,h=>Zi r h
 |(t,.var _ _)::r,_,h=>Zi r h
 |(t,.mat _ _ _)::r,_,h=>Zi r h
 |(t,.matv _ _ _)::r,_,h=>Zi r h
 |(t,.row _)::r,_,h=>Zi r h
 |(t,.view _)::r,_,h=>Zi r h
 |(t,.bo _ _ _)::r,_,h=>Zi r h
 |(t,.vr _ _ _ _ _ _)::r,_,h=>Zi r h
end
end
section
section
variable{P:jP}{cf:Cf}{fr:Fr}{cx kp σ:Sg}{vs vs':wr->wN}{env env0:y6}{w:wP}{R:Type}{r:R}{N:Nd}{Q:Qs}
def eF{a b:xS (K×K×Dv)}:RS P vs env (a++b)=RS P vs env a++RS P vs env b:=xaR
def mb{sh:Sh}{k:Ju sh.ds->V R}(h:aE (qL cx kp) sh σ k=Z r)(y:Bd cx kp):∃x,k x=Z r/\∀(fr:Fr) env w,uD P fr (qL cx kp) σ env w->uD P fr cx (J2 sh x kp) env w:=by
 unfold aE at h;simp only at h;have⟨ht,h⟩:=yf h;have⟨x,os,h1,h0,K,u⟩:=zlU (ds:=sh.ds) (i:=0) (λj a C=>by rw[xaJ];exact C) h;refine⟨x,h1,λfr env w L=> ?_⟩;have M:=Zi sh.ds L;generalize zhP (qL cx kp) σ sh.ds=g at*
 have⟨hB,vs,hv⟩:=M;have hi:=u P vs fr env (GS P vs env fr (qL cx kp) g) w (λS w q=>YW q) hv;have T:=St.dropM hi;generalize Y:UG (qL cx kp) g sh.ds vs env=U at*
 have hd:∀o,o<kp.nx->nvs vs U kp.nx o=vs o:=λo ho=>iq ho;have D:∀j,j<X sh.ds->nvs vs U kp.nx (kp.nx+j)=U (0+j):=λj C=>by
  unfold nvs;rw[zD,(W:kp.nx+j-kp.nx=j),xaJ]
 have hz:=λe he=>TV (n0:=kp.nx) (l:=sh.ds) (x:=x) (o:=kp.nx) e he;have E:∀e∈(lj kp.nx sh.ds x kp.nx).1,∀p,vt e.2.2=Z p->p<kp.nx+X sh.ds:=λe he p hp=>by
  rcases NJ (n0:=kp.nx) (n:=X sh.ds) (l:=sh.ds) (x:=x) (o:=kp.nx) h0 e he p hp with h|h<;>exact h
 refine⟨⟨λe he=> ?_,λe he=> ?_,λe he p hp=> ?_,λe he p hp=> ?_⟩,nvs vs U kp.nx,?_⟩
 ·obtain he|he:=xaa.1 he
  ·exact(hz e he).2
  ·exact xag (y.o1 e he)<|xbI _ _
 ·exact xag (y.o2 e he)<|xbI _ _
 ·obtain he|he:=xaa.1 he
  ·obtain he|he:=xaa.1 he
   ·exact O4 (λe he p hp=>E e he p hp) e he p hp
   ·exact E e he p hp
  ·exact xag (y.r1 e he p hp)<|xbI _ _
 ·exact xag (y.r2 e he p hp)<|xbI _ _
 ·have e1:OS (nvs vs U kp.nx) fr cx ((lj kp.nx sh.ds x kp.nx).2++kp.ob)=Qg U sh.ds x 0++(MS vs (kp.ob++cx.ob)++fr.F):=by
   show MS _ (_++kp.ob)++(MS _ cx.ob++_)=_
   rw[show MS (nvs vs U kp.nx) ((lj kp.nx sh.ds x kp.nx).2++kp.ob)=MS _ _++MS _ _ from xaR,LH D,wC λe he=>hd _<|y.o1 e he,wC (ob:=cx.ob) λe he=>hd _<|y.o2 e he,
    show MS vs (kp.ob++cx.ob)=MS _ _++MS _ _ from xaR,xaq,xaq]
  show St _ _ (OS (nvs vs U kp.nx) fr cx<|(lj kp.nx sh.ds x kp.nx).2++kp.ob) _ _;rw[e1];refine T.weak λS w q=> ?_;have hl:∀t,Lk P vs env S w (qL cx kp) g t:=YW q;have H:zB S (RS P (nvs vs U kp.nx) env (lj kp.nx sh.ds x kp.nx).1) w:=zaQ (U:=U) (n:=X sh.ds) (λj C=>by rw[D j C,xaJ]) h0 D (by rw[<-Y];exact K P vs env S w hl);have J:zB S (RS P vs env kp.rg++RS P vs env cx.rg) w:=by
   have:=zB.left<|zB.right q;rwa[show RS P vs env (qL cx kp).rg=RS P vs env kp.rg++RS P vs env cx.rg from xaR]at this
  have hn:=za9 H (ns:=sh.ns) λt f hm=>by
   have d:=zgO ht t f hm;cases f
   ·split at d<;>simp_all
    next b c u=>exact hl t 0 _ u
   ·split at d<;>simp_all
    next u=>exact hl t 0 _ u
   ·split at d<;>simp_all
    next a b u=>
    have:=hl t 0 _ u;simp only[eqI,Us]at d;rw[d];exact this
   ·split at d<;>simp_all
    next a b u=>
    have:=hl t 0 _ u;simp only[eqU,Us]at d;rw[d];exact this
   ·next s=>
    cases hc:get (qL cx kp) g t 0 with
    |none=>rw[hc]at d;cases d
    |some v=>
     rw[hc]at d;cases v<;>simp only[xai]at d
     ·next o=>
      cases m:get (qL cx kp) g s 0 with
      |none=>rw[m]at d;cases d
      |some z=>
       rw[m]at d;cases z<;>simp only[xai]at d;have A:env t=vs o:=hl t 0 _ hc;have B:=hl s 0 _ m;have:=zY d;subst this;exact A.trans (show env s=_ from B).symm
     ·next o _=>
      cases m:get (qL cx kp) g s 0 with
      |none=>rw[m]at d;cases d
      |some z=>
       rw[m]at d;cases z<;>simp only[xai]at d;have A:env t=vs o:=(hl t 0 _ hc).1;have B:=(hl s 0 _ m).1;have:=zY d;subst this;exact A.trans B.symm
     ·next o=>
      cases m:get (qL cx kp) g s 0 with
      |none=>rw[m]at d;cases d
      |some z=>
       rw[m]at d;cases z<;>simp only[xai]at d;have A:env t=yO (vs o):=hl t 0 _ hc;have B:=hl s 0 _ m;have:=zY d;subst this;exact A.trans (show env s=_ from B).symm
   ·next s f=>
    cases hc:get (qL cx kp) g t 0 with
    |none=>rw[hc]at d;cases d
    |some v=>
     rw[hc]at d;cases v<;>simp only[xai]at d
     next f' o _=>
     cases m:get (qL cx kp) g s 0 with
     |none=>rw[m]at d;cases d
     |some z=>
      rw[m]at d;cases z<;>simp only[xai]at d;rw[xad]at d;have A:=(hl t 0 _ hc).1;have B:=(hl s 0 _ m).1;have e1:=zY d.1;have e2:=zY d.2;subst e1;subst e2;show env t=.func (.func f) #[env s] #[];rw[B];exact A
  show zB S (RS P _ env ((Mj (lj kp.nx sh.ds x kp.nx).1 sh.ns++(lj kp.nx sh.ds x kp.nx).1)++kp.rg)++(RS P _ env cx.rg++fr.G)) w;refine zB.append ?_<|zB.append ?_<|zB.right<|zB.right q
  ·rw[eF,eF];refine zB.append (zB.append hn H) ?_;rw[uo (λe he p hp=>hd _<|y.r1 e he p hp)<|λ_ _=>O];exact zB.left J
  ·rw[uo (λe he p hp=>hd _<|y.r2 e he p hp)<|λ_ _=>O];exact zB.right J
def zfX{a t:Tg}(hp:∀q,t≠ .p q)(h:TZ a t=wL):a=t:=by
 cases a<;>cases t<;>first|rfl|cases h|skip
 rw[zY (show E _ _=wL from h)];simp_all
def zmf{t:Tg}(d:Bd cx kp){a:Tg×Sh}{k:zaO a->V R}(ht:TZ a.1 t=wL)(h:znD (qL cx kp) σ t a k=Z r):∃(y:zaO a) (c:Sg),k y=Z r/\(∀{e:Type} (K:Tg->Sg->V e),zfR kp K a y=K t c)/\∀(fr:Fr) env w,uD P fr (qL cx kp) σ env w->uD P fr cx c env w:=by
 obtain⟨τ,sh⟩:=a
 cases τ with
 |p q0=>
  cases t with
  |p q=>
   obtain⟨x,h1,b⟩:=mb (show aE (qL cx kp) sh σ (λx=>k (q,x))=Z r from h) d;exact⟨(q,x),_,h1,λK=>O,b⟩
  |n=>cases ht
  |x i=>cases ht
  |r=>cases ht
 |n=>
  obtain⟨x,h1,b⟩:=mb (show aE (qL cx kp) sh σ k=Z r from h) d
  cases t with
  |n=>exact⟨x,_,h1,λK=>O,b⟩
  |_=>cases ht
 |x i=>
  obtain⟨x,h1,b⟩:=mb (show aE (qL cx kp) sh σ k=Z r from h) d
  cases t with
  |x j=>
   obtain rfl:i=j:=zY ht;exact⟨x,_,h1,λK=>O,b⟩
  |_=>cases ht
 |r=>
  obtain⟨x,h1,b⟩:=mb (show aE (qL cx kp) sh σ k=Z r from h) d
  cases t with
  |r=>exact⟨x,_,h1,λK=>O,b⟩
  |_=>cases ht
def Pt{t:Tg}(f:Bd cx kp):∀{l:xS (Tg×Sh)}{k:SmD l->V R},zf3 (qL cx kp) σ t l k=Z r->∃(y:SmD l) (c:Sg),k y=Z r/\(∀{g:Type} (K:Tg->Sg->V g),RR kp K l y=K t c)/\∀(fr:Fr) env w,uD P fr (qL cx kp) σ env w->uD P fr cx c env w
 |[],k,h=>by cases h
 |[a],k,h=>by
  obtain⟨ht,h⟩:=yf h;obtain⟨y,c,h1,d,e⟩:=zmf f ht h;exact⟨y,c,h1,λK=>d K,e⟩
 |a::b::l,k,h=>by
  unfold zf3 at h;cases ht:TZ a.1 t<;>rw[ht]at h
  ·obtain⟨y,c,h1,d,e⟩:=Pt f h;exact⟨.inr y,c,h1,λK=>d K,e⟩
  ·obtain⟨y,c,h1,d,e⟩:=zmf f ht h;exact⟨.inl y,c,h1,λK=>d K,e⟩
abbrev Qd:=eX->xS K->y6->wP->Prop
def qm(D:K):MF where
 blk k:=k=D
 p _ w:=w.heap[D]? =Z (.deferred<|some [])
 keep h _ hb:=(hb D O).trans h
 sub h _:=h
 lt h k a:=by subst a;exact(xbf.1 h).1
def Ri(D:K):lm:={target:=.collected D,args:= #[]}
def Nd.wd(N:Nd)(Ds:xS K):Nd:=⟨N.n,Ds.map Ri++N.ds,N.rd⟩
def Fr.wd(fr:Fr)(Ds:xS K):Fr:=⟨fr.we,fr.Se,Ds.map qm++fr.F,fr.G⟩
def zlz(N:Nd)(Q:Qd):eX->V0->wP->Prop:=λe a w=>a.tmps.size=N.n/\∃Ds:xS K,a.defers=Ds.map Ri++N.ds/\Q e Ds (zW a) w
def Hz(P:jP)(N:Nd)(c:Z9)(Q:Qd)(Ds:xS K)(env:y6)(w:wP):Prop:=
 ∀a:V0,a.tmps.size=N.n->a.defers=Ds.map Ri++N.ds->zW a=env->c.wpIn N.F 0 P (zlz N Q) a w
section
variable{N:Nd}{Q Q':Qd}{Ds:xS wr}
def zmu{c:Z9}(h:Wp P (N.wd Ds) c (λe env w=>Q e Ds env w) env w):Hz P N c Q Ds env w:=λa h1 b d=>Wn (h a h1 b d) λe g w' ⟨q1,q2,f⟩=>⟨q1,Ds,q2,f⟩
def zlD(K:xS wr->y6->wP->Prop)(Q:Qd):Qd
 |.normal,Ds,env,w=>K Ds env w
 |e,Ds,env,w=>Q e Ds env w
def L4(id:K)(Q:Qd):Qd
 |.exit a,Ds,env,w=>bif E a id then Q .normal Ds env w else Q (.exit a) Ds env w
 |e,Ds,env,w=>Q e Ds env w
def zp5(Q:Qd):Qd
 |.goto _,_,_,_=>KW
 |e,Ds,env,w=>Q e Ds env w
def BP{x y:Z9}(h:Hz P N x (zlD (Hz P N y Q) Q) Ds env w):Hz P N (.seq x y) Q Ds env w:=by intro a h1 d f;refine fN<|Wn (h a h1 d f) ?_;intro e g w' ⟨q1,b,q2,c⟩;cases e<;>first|exact c g q1 q2 O|exact⟨q1,b,q2,c⟩
def zii{c:Z9}(h:Hz P N c Q Ds env w)(d:∀e Ds env w,Q e Ds env w->Q' e Ds env w):Hz P N c Q' Ds env w:=
 λa h1 f g=>Wn (h a h1 f g) λe j w' ⟨q1,b,q2,i⟩=>⟨q1,b,q2,d e _ _ _ i⟩
def GJ{id:K}{c:Z9}(h:Hz P N c (L4 id Q) Ds env w):Hz P N (.block id c) Q Ds env w:=by
 intro a h1 g j;refine wpIn_block<|Wn (h a h1 g j) ?_;intro e k w' ⟨q1,b,q2,d⟩
 cases e with
 |exit i=>
  simp only[L4]at d;simp only[Exit.inBlock];cases f:E i id
  rw[f]at d;rw[ir<|λe=>by subst e;simp at f];exact⟨q1,b,q2,d⟩;rw[f]at d;rw[S<|xde f];exact⟨q1,b,q2,d⟩
 |_=>exact⟨q1,b,q2,d⟩
def zcI{c:Z9}(h:Hz P N c (zp5 Q) Ds env w):Hz P N (.scope c) Q Ds env w:=by intro a h1 f g;refine S5<|Wn (h a h1 f g) ?_;intro e i w' ⟨q1,b,q2,d⟩;cases e<;>first|exact⟨q1,b,q2,d⟩|exact d.elim
def Ph{c:Z9}{G:Type}(q:G->xS K->y6->wP->Prop)(j:G->K)(d:G)(f:q d Ds env w)(round:∀g Ds env w,q g Ds env w->Hz P N c (zlD (λb h w'=>∃i,q i b h w'/\j i<j g) Q) Ds env w):Hz P N (.loop c) Q Ds env w:=by
 intro a h1 k m;refine zai (λg a w=>a.tmps.size=N.n/\∃Ds:xS K,a.defers=Ds.map Ri++N.ds/\q g Ds (zW a) w) j d ⟨h1,Ds,k,m▸f⟩ ?_;intro g a w ⟨h1,Ds,k,o⟩;refine Wn (round g Ds (zW a) w o a h1 k O) ?_;intro e p w' ⟨q1,b,q2,l⟩
 cases e with
 |normal=>have⟨i,o1,o2⟩:=l;exact⟨i,⟨q1,b,q2,o1⟩,o2⟩
 |_=>exact⟨q1,b,q2,l⟩
def CV{c:wW}{x y:Z9}(hc:ev env c=.bool wL)(h:Hz P N x Q Ds env w):Hz P N (.cond c x y) Q Ds env w:=
 λa h1 d b=>wpIn_cond_true (by rw[Km,b];exact hc)<|h a h1 d b
def Ec{c:wW}{x y:Z9}(hc:ev env c=.bool I)(h:Hz P N y Q Ds env w):Hz P N (.cond c x y) Q Ds env w:=
 λa h1 d b=>wpIn_cond_false (by rw[Km,b];exact hc)<|h a h1 d b
end
def HJ{α:Type _}(p:α->v6):∀l:xS α,l.Perm ((l.filter λa=> !p a)++l.filter p)
 |[]=>xdy _
 |a::l=>by
  have b:=HJ p l;rw[xfK,xfK];cases hp:p a
  simpa using b.cons a;simp only[xeS,xai,uP,uS];exact(b.cons a).trans xbZ.symm
def EW{ag ro:xS K}(h:uD P fr cx σ env w):Bd cx (keep σ ag ro)/\uD P fr (qL cx<|keep σ ag ro) (rest σ ag ro) env w:=by
 have⟨a,vs,c⟩:=h;have b:Bd cx (keep σ ag ro):=⟨λe he=>a.o1 e (xbU.1 he).1,a.o2,λe he=>a.r1 e (xbU.1 he).1,a.r2⟩;refine⟨b,⟨λe he=>a.o1 e (xbU.1 he).1,λe he=> ?_,λe he=>a.r1 e (xbU.1 he).1,λe he=> ?_⟩,vs,?_⟩;obtain he|he:=xaa.1 he
 exact b.o1 e he;exact b.o2 e he;obtain he|he:=xaa.1 he
 exact b.r1 e he;exact b.r2 e he;have hp:(OS vs fr cx σ.ob).Perm (OS vs fr (qL cx<|keep σ ag ro) (rest σ ag ro).ob):=by
  show List.Perm (MS vs σ.ob++(MS vs cx.ob++fr.F)) (MS vs (rest σ ag ro).ob++(MS vs ((keep σ ag ro).ob++cx.ob)++fr.F));have e:MS vs (rest σ ag ro).ob++(MS vs ((keep σ ag ro).ob++cx.ob)++fr.F)=(MS vs (rest σ ag ro).ob++MS vs (keep σ ag ro).ob)++(MS vs cx.ob++fr.F):=by rw[show MS vs ((keep σ ag ro).ob++cx.ob)=MS _ _++MS _ _ from xaR];simp_all
  rw[e];refine xeN _ ?_;have:=(HJ (λe:K×Od=>cn (GZ σ ro) e.1) σ.ob).map<|Ki vs;rw[xaR]at this;exact this
 refine(St.perm c hp).sub' ?_;intro f hf;obtain hf|hf:=xaa.1 hf
 obtain⟨e,he,rfl⟩:=xas.1 hf;exact xaa.2 (.inl<|xas.2 ⟨e,(xbU.1 he).1,O⟩);obtain hf|hf:=xaa.1 hf
 obtain⟨e,he,rfl⟩:=xas.1 hf;obtain he|he:=xaa.1 he
 exact xaa.2 (.inl<|xas.2 ⟨e,(xbU.1 he).1,O⟩);exact xaa.2 (.inr<|xaa.2 (.inl<|xas.2 ⟨e,he,O⟩));exact xaa.2 (.inr<|xaa.2 (.inr hf))
end
end
section
def cM(l:K)(r:gT):MF where
 blk k:=k=l
 p _ w:=w.heap[l]? =Z (.loop r)
 keep h _ hb:=(hb l O).trans h
 sub h _:=h
 lt h k a:=by subst a;exact(xbf.1 h).1
def mFF(Γ:N FF):MF where
 blk _:=KW
 p S w:=zB S Γ w
 keep h k _:=zB.keep k h
 sub h k:=zB.sub k h
 lt _ _ a:=a.elim
section
variable{we:wP}{Se:wr->Prop}{ms:xS MF}{Γ Δ:xS FF}{w:wP}
theorem St.ffIn(h:St we Se ms (Δ++Γ) w):St we Se (mFF Δ::ms) Γ w:=by
 have⟨h1,c,d,S,e,f,i,g,b⟩:=h;refine⟨h1,c,⟨λk a=>a.elim,d⟩,S,e,f,λm hm k a=> ?_,⟨zB.left b,g⟩,zB.right b⟩;obtain rfl|hm:=xah.1 hm
 exact a.elim;grind
def St.ffOut(h:St we Se (mFF Δ::ms) Γ w):St we Se ms (Δ++Γ) w:=by have⟨h1,b,c,S,d,e,f,a,g⟩:=h;exact⟨h1,b,c.2,S,d,e,λm i=>f m<|FS _ i,a.2,zB.append a.1 g⟩
theorem St.putObj{l:K}{m m':MF}{o:Obj}(h:St we Se (m::ms) Γ w)(b:∀k,m.blk k↔k=l)(n:∀k,m'.blk k->k=l)(hp:∀S w',w'.heap[l]? =Z o->m'.p S w'):St we Se (m'::ms) Γ (w.putObj l o):=by have⟨h1,q,d,S,r,s,t,i,u⟩:=h;have hl:=t m (IR) l<|(b l).2 O;have v:=yS.lt i m (IR) l<|(b l).2 O;have hd:(w.putObj l o).heap.size=w.heap.size:=World.putObj_size;have f:∀k,k≠l->(w.putObj l o).heap[k]? =w.heap[k]? :=λk a=>World.putObj_heap_other a;have a:yJ S w (w.putObj l o):=⟨O,O,O,Nat.le_of_eq hd.symm,λk _ g=>f k λe=>hl.1<|e▸g⟩;have x:bh we (w.putObj l o):=⟨h1.os,h1.tape,h1.output,xal h1.size<|Nat.le_of_eq hd.symm,λk a g=>(f k λe=>by lia).trans<|h1.block k a g⟩;refine⟨x,q,⟨λk a c hc=>d.1 k ((b k).2<|n k a) c hc,d.2⟩,S,r,λk a=>s k (by rw[hd]at a;exact a),λc hc k j=> ?_,⟨hp S _<|World.putObj_heap_same v,yS.keep a (λc hc k j=>f k λe=> ?_) i.2⟩,zB.keep a u⟩;grind;subst e;exact d.1 k ((b k).2 O) c hc j
theorem St.allocObj{o:Obj}{m:MF}(h:St we Se ms Γ w)(f:∀k,m.blk k->k=w.heap.size)(hp:∀S w',w'.heap[w.heap.size]? =Z o->m.p S w'):St we Se (m::ms) Γ (w.alloc o):=by
 have⟨h1,j,l,S,n,q,g,i,r⟩:=h;have s:(w.alloc o).heap.size=w.heap.size+1:=World.size_alloc ..;have vC:∀k,k<w.heap.size->(w.alloc o).heap[k]? =w.heap[k]? :=λk a=>by
  show(w.heap.push o)[k]? =_;grind
 have hd:(w.alloc o).heap[w.heap.size]? =Z o:=World.alloc_heap_new w o;let e:K->Prop:=λk=>S k/\k≠w.heap.size
 have a:yJ e w (w.alloc o):=⟨O,O,O,W,λk a _=>vC k a⟩;have hc:∀k,k<w.heap.size->S k->e k:=λk a b=>⟨b,W⟩;refine⟨⟨h1.os,h1.tape,h1.output,by have:=h1.size;lia,λk a b=>(vC k<|xag a h1.size).trans<|h1.block k a b⟩,j,⟨λk a d hm2 c=> ?_,l⟩,e,λk a=>n k a.1,λk a=>⟨q k W,W⟩,λd hm2 k c=> ?_,⟨hp _ _ hd,yS.keep a (λd hm2 k c=>vC k<|yS.lt i d hm2 k c)<|yS.sub hc i⟩,zB.keep a<|zB.sub hc r⟩;grind;obtain rfl|hm2:=xah.1 hm2
 exact⟨λb=>b.2<|f k c,by have:=f k c;have:=h1.size;lia⟩;exact⟨λb=>(g d hm2 k c).1 b.1,(g d hm2 k c).2⟩
end
section
variable{P:jP}{cf:Cf}{fr:Fr}{cx kp σ:Sg}{vs vs':wr->wN}{env env':y6}{w:wP}
def L6{cx σ:Sg}(h:Bd cx σ):Bd (qL cx σ) ⟨σ.nx,[],[]⟩where
 o1:=λ_ he=>wS he H1
 o2:=λe he=>by
  obtain he|he:=xaa.1 he
  exact h.o1 e he;exact h.o2 e he
 r1:=λ_ he=>wS he H1
 r2:=λe he=>by
  obtain he|he:=xaa.1 he
  exact h.r1 e he;exact h.r2 e he
def sH(f:TF)(v u:wN):Prop:=match f with
 |.own _ _=>v=u
 |.var _ _=>v=u/\∃b,v=.pointer (Z ⟨b,0,wF⟩)
 |.mat _ _ _=>v=yO u
 |.bo _ _ _=>v=yO u
 |_=>KW
def KT(ds:N (K×TF))(env:y6)(U:K->wN):Prop:=∀(j t:K) (f:TF),ds[j]? =Z (t,f)->sH f (env t) (U j)
def IC:∀{ds:N (K×TF)},cR ds=wL->∀(j t:K) (f:TF),ds[j]? =Z (t,f)->(∃s E,f=.own s E)\/(∃s E,f=.var s E)\/(∃s E F,f=.mat s E F)\/(∃s E F,f=.bo s E F)
 |[],_,j,t,f,h=>by simp at h
 |(b,f')::ds,a,0,t,f,h=>by
  simp only[xbC,xau,xcL]at h;obtain⟨rfl,rfl⟩:=h;cases f'<;>simp only[cR,xai]at a
  simp_all;simp_all;simp_all;simp_all
 |(b,f')::ds,a,j+1,t,f,h=>by
  refine IC (ds:=ds) ?_ j t f (by simpa using h);cases f'<;>simp only[cR,xai]at a<;>exact a
def Rz{ds:N (K×TF)}(b:cR ds=wL):∀a∈ds,∀j,EH a.2=Z j->j<X ds:=λa c j e=>by
 have⟨i,hi⟩:=xfC.1 c;rcases IC b i a.1 a.2 hi with⟨_,_,h⟩|⟨_,_,h⟩|⟨_,_,_,h⟩|⟨_,_,_,h⟩<;>rw[h]at e<;>cases e
def zbX{U:K->wN}{S:K->Prop}:∀{ds:N (K×TF)}{x:Ju ds}{i:K},(∀(j t:K) (f:TF),ds[j]? =Z (t,f)->sH f (env t) (U<|i+j))->zB S (dsF U env ds x i) w
 |[],_,_,_=>trivial
 |[(t,f)],x,i,h=>by
  have h0:=h 0 t f O;refine⟨?_,wR⟩;cases f<;>first|exact h0|exact h0.elim
 |(t,f)::b::l,x,i,h=>by
  have h0:=h 0 t f O;refine⟨?_,zbX λj t f a=>by
   have:=h (j+1) t f (by simpa using a);rw[(W:i+1+j=i+(j+1))];exact this⟩
  cases f<;>first|exact h0|exact h0.elim
def zfQ{n0:K}:∀{ds:N (K×TF)}{x:Ju ds}{o j t:K}{f:TF},ds[j]? =Z (t,f)->∃y:f.D,(t,0,(Ga n0 (o+j) f y).1)∈(lj n0 ds x o).1
 |[],_,_,_,_,_,h=>by simp at h
 |[(a,f')],x,o,0,t,f,h=>by
  obtain⟨rfl,rfl⟩:=h;exact⟨x,IR⟩
 |[(a,f')],x,o,j+1,t,f,h=>by simp at h
 |(a,f')::b::l,x,o,0,t,f,h=>by
  obtain⟨rfl,rfl⟩:=h;exact⟨x.1,IR⟩
 |(a,f')::b::l,x,o,j+1,t,f,h=>by
  obtain⟨y,c⟩:=zfQ (by simpa using h);rw[(W:o+1+j=o+(j+1))]at c;exact⟨y,FS _ c⟩
def zhK{ds:N (K×TF)}{x:Ju ds}{n:K}{S:K->Prop}(c:cR ds=wL)(h:zB S (RS P vs env (lj n ds x n).1) w):KT ds env λj=>vs (n+j):=by
 intro j t f a;obtain⟨y,d⟩:=zfQ a;have:=J8 h d;rcases IC c j t f a with⟨_,_,rfl⟩|⟨_,_,rfl⟩|⟨_,_,_,rfl⟩|⟨_,_,_,rfl⟩
 ·exact this
 ·obtain⟨h1,b,e⟩:=this;exact⟨h1,b,h1.trans e⟩
 ·exact this
 ·exact this
def zlw{ds:N (K×TF)}{x:Ju ds}(b:cR ds=wL)(o1:∀e∈kp.ob,e.1<kp.nx+X ds)(o2:∀e∈cx.ob,e.1<kp.nx+X ds)(r1:∀e∈kp.rg,∀o,vt e.2.2=Z o->o<kp.nx+X ds)(r2:∀e∈cx.rg,∀o,vt e.2.2=Z o->o<kp.nx+X ds):Bd cx (J2 ⟨ds,[]⟩ x kp):=by
 refine⟨λe he=> ?_,o2,λe he p hp=> ?_,r2⟩;obtain he|he:=xaa.1 he
 exact(TV e he).2;exact o1 e he
 have a:∀e∈(lj kp.nx ds x kp.nx).1,∀p,vt e.2.2=Z p->p<kp.nx+X ds:=λe he p hp=>by
  rcases NJ (Rz b) e he p hp with h|h<;>exact h
 obtain he|he:=xaa.1 he
 obtain he|he:=xaa.1 he
 exact a e he p hp;exact a e he p hp;exact r1 e he p hp
def ziJ{ds:N (K×TF)}{x:Ju ds}(d:cR ds=wL)(hc:KT ds env λj=>vs<|kp.nx+j)(e:Bd cx (J2 ⟨ds,[]⟩ x kp))
 (hd:St fr.we fr.Se (Qg (λj=>vs<|kp.nx+j) ds x 0++(MS vs kp.ob++(MS vs cx.ob++fr.F))) (RS P vs env kp.rg++(RS P vs env cx.rg++fr.G)) w):uD P fr cx (J2 ⟨ds,[]⟩ x kp) env w:=by
 refine⟨e,vs,?_⟩;have b:∀j,j<X ds->vs (kp.nx+j)=(λj=>vs<|kp.nx+j) (0+j):=λj _=>by simp only[xaJ]
 have e1:OS vs fr cx (J2 ⟨ds,[]⟩ x kp).ob=Qg (λj=>vs<|kp.nx+j) ds x 0++(MS vs kp.ob++(MS vs cx.ob++fr.F)):=by show MS vs ((lj kp.nx ds x kp.nx).2++kp.ob)++(MS vs cx.ob++fr.F)=_;rw[show MS vs ((lj kp.nx ds x kp.nx).2++kp.ob)=MS vs (lj kp.nx ds x kp.nx).2++MS vs kp.ob from xaR,LH (U:=λj=>vs<|kp.nx+j) b,xaq]
 show St _ _ (OS vs fr cx (J2 ⟨ds,[]⟩ x kp).ob) _ _;rw[e1];refine hd.weak λS w a=> ?_;have c:zB S (RS P vs env (lj kp.nx ds x kp.nx).1) w:=zaQ (λj _=>O) (Rz d) b (zbX λj t f g=>by rw[xaJ];exact hc j t f g);show zB S (RS P vs env (((lj kp.nx ds x kp.nx).1++(lj kp.nx ds x kp.nx).1)++kp.rg)++(RS P vs env cx.rg++fr.G)) w;rw[eF,eF];exact zB.append (zB.append (zB.append c c)<|zB.left a)<|zB.right a
def zbY{ds:N (K×TF)}{x:Ju ds}{n:K}(d:cR ds=wL)(e:uD P fr cx (J2 ⟨ds,[]⟩ x ⟨n,[],[]⟩) env w):∃vs,KT ds env (λj=>vs<|n+j)/\Bd cx (J2 ⟨ds,[]⟩ x ⟨n,[],[]⟩)/\St fr.we fr.Se (Qg (λj=>vs<|n+j) ds x 0++(MS vs cx.ob++fr.F)) (RS P vs env cx.rg++fr.G) w:=by
 have⟨f,vs,b⟩:=e;have⟨S,_,a⟩:=b.ex;have h1:zB S (RS P vs env<|((lj n ds x n).1++(lj n ds x n).1)++[]) w:=zB.left a;rw[eF,eF]at h1;refine⟨vs,zhK d<|zB.right<|zB.left h1,f,?_⟩;have e1:OS vs fr cx (J2 ⟨ds,[]⟩ x ⟨n,[],[]⟩).ob=Qg (λj=>vs<|n+j) ds x 0++(MS vs cx.ob++fr.F):=by show MS vs ((lj n ds x n).2++[])++(MS vs cx.ob++fr.F)=_;rw[xbm,LH (U:=λj=>vs<|n+j) (i:=0) λj _=>by simp only[xaJ]]
 have c:St fr.we fr.Se (OS vs fr cx (J2 ⟨ds,[]⟩ x ⟨n,[],[]⟩).ob) (GS P vs env fr cx<|J2 ⟨ds,[]⟩ x ⟨n,[],[]⟩) w:=b;rw[e1]at c;exact c.weak λS w h=>zB.right h
def RZ{U:K->wN}{a:K×TF}:∀{l:N (K×TF)}{y:a.2.D}{x:Ju l}{i:K},Qg U (a::l) (Ih y x) i=tfM a.2 y (U i)++Qg U l x (i+1)
 |[],y,x,i=>by show tfM a.2 y (U i)=_++[];rw[xbm]
 |_::_,y,x,i=>rfl
def iJ{U V:K->wN}:∀{l:N (K×TF)}{x:Ju l}{i k:K},(∀j,j<X l->U (i+j)=V (k+j))->Qg U l x i=Qg V l x k
 |[],_,_,_,_=>rfl
 |[a],x,i,k,h=>by
  have h0:U i=V k:=h 0 mK;show tfM a.2 x (U i)=tfM a.2 x (V k);rw[h0]
 |a::b::l,x,i,k,h=>by
  have h0:U i=V k:=h 0 mK;show tfM a.2 x.1 (U i)++Qg U (b::l) x.2 (i+1)=tfM a.2 x.1 (V k)++Qg V (b::l) x.2 (k+1);rw[h0,iJ (k:=k+1) λj c=>by
   have:=h (j+1) (by simpa using c);rw[(W:i+1+j=i+(j+1)),(W:k+1+j=k+(j+1))];exact this]
def ze3{a:K×TF}:∀{l:N (K×TF)} (z:Ju (a::l)),z=Ih (lk z).1 (lk z).2
 |[],_=>rfl
 |_::_,_=>rfl
def NI{we:wP}{Se:K->Prop}{A B:N MF}{G:N FF}{l:K}{m m':MF}{o:Obj}(h:uD P ⟨we,Se,A++m::B,G⟩ cx σ env w)(a:∀k,m.blk k↔k=l)(b:∀k,m'.blk k->k=l)(hp:∀S w',w'.heap[l]? =Z o->m'.p S w'):uD P ⟨we,Se,A++m'::B,G⟩ cx σ env (w.putObj l o):=by
 have⟨c,vs,hc⟩:=h;refine⟨c,vs,?_⟩;have h1:St we Se ((MS vs σ.ob++(MS vs cx.ob++A))++m::B) (GS P vs env ⟨we,Se,A++m::B,G⟩ cx σ) w:=by simp_all
 have d:=St.putObj (St.mid h1) a b hp;have e:=d.perm xbZ.symm;simp_all
theorem zif{n:K}{S:K->Prop}:∀{ds:N (K×TF)}{i:K},cR ds=wL->(∀(j t:K) (f:TF),ds[j]? =Z (t,f)->sH f (env t) (vs<|n+(i+j)))->zB S (RS P vs env<|AZ ds<|n+i) w
 |[],_,_,_=>trivial
 |(t,f)::r,i,a,h=>by
  have h0:=h 0 t f O;have b:cR r=wL->zB S (RS P vs env<|AZ r<|n+i+1) w:=λa=>zif a λj t f c=>by
   have:=h (j+1) t f (by simpa using c);grind
  cases f<;>simp only[cR,xai]at a
  exact⟨h0,b a⟩;exact⟨h0.1,b a⟩;exact⟨h0,b a⟩;exact⟨h0,b a⟩
theorem Pq:∀{ds:N (K×TF)}{n:K},∀e∈AZ ds n,∀o,vt e.2.2=Z o->o<n+X ds
 |[],_,e,he=>wS he H1
 |(t,f)::r,n,e,he=>by
  intro o a;have b:e∈AZ r (n+1)->o<n+X ((t,f)::r):=λhe=>by
   have:=Pq e he o a;grind
  cases f<;>obtain rfl|he:=xah.1 he<;>first|exact b he|(cases a;simp only[xaw];lia)
def E4:∀{ds:N (K×TF)}{n j t:K}{f:TF},ds[j]? =Z (t,f)->∃e∈AZ ds n,e.1=t
 |[],_,_,_,_,h=>by simp at h
 |(a,f')::r,n,0,t,f,h=>by
  obtain⟨rfl,rfl⟩:=h;cases f'<;>exact⟨_,IR,O⟩
 |(a,f')::r,n,j+1,t,f,h=>by
  obtain⟨e,b,h1⟩:=E4 (by simpa using h);cases f'<;>exact⟨e,FS _ b,h1⟩
def zjJ{a:K×TF}{ds:N (K×TF)}(h:zfy (a::ds)=wL){j t:K}{f:TF}(b:ds[j]? =Z (t,f)):t≠a.1:=by simp only[zfy,zeZ,xad,xaT]at h;have:=h.1 (t,f)<|xbt b;intro e;simp_all
end
end
end Go.Proofs.YtoegnnjcmlghhaaGreat
